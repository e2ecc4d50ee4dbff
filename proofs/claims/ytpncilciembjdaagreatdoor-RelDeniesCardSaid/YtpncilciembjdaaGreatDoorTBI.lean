/-
  What term.Plain comes to.
  What term's sums, multiples and differences come to.
  Rows of parts, cloned and grown.
-/
import Derived.Test.YtpncilciembjdaaGreatDoorTBH
import Derived.Test.YtpncilciembjdaaGreatDoorTBF
import Derived.Test.YtpncilciembjdaaGreatDoorTAX
set_option linter.unusedSectionVars false
set_option linter.unusedSimpArgs false
set_option linter.unusedVariables false
namespace Go.Proofs.YtpncilciembjdaaGreatDoor
open Go.RowKit

structure PartF (D:Orc):Prop where
 clone:∀ l:List Pt,l.length<=1000000000->D.ask (.fn 135) [.ls (l.map eP)] []=some (.sl 0 0 l.length 3,[.set (bkP l)])
 grow:∀ n:Nat,n<=1000000000->D.ask (.fn 262) [.v (.slice none 0 0),iv (n:Int)] []=some (.sl 0 0 0 3,[.set (bkP [])])
section
variable (o:List Pt) (x:Pt)
theorem rdL0(k:List AV->KR):rdK (rowC eP (o++[x])) (0+o.length*3+0) 1 k=k [iv x.v]:=by
 have hl:=rowC_len eP_len o
 rw[←rowC_snoc]
 unfold rdK
 rw[show Nat.ble (0+o.length*3+0+1) (rowC eP o++eP x).length=true by rw[List.length_append,hl,eP_len];simp<;>omega]
 show k (((rowC eP o++eP x).drop (0+o.length*3+0)).take 1)=_
 rw[List.drop_left' (by omega)]
 rfl
theorem rdL1(k:List AV->KR):rdK (rowC eP (o++[x])) (0+o.length*3+1) 2 k=k [bv x.z.neg,eN x.z.abs]:=by
 have hl:=rowC_len eP_len o
 rw[←rowC_snoc]
 unfold rdK
 rw[show Nat.ble (0+o.length*3+1+2) (rowC eP o++eP x).length=true by rw[List.length_append,hl,eP_len];simp]
 show k (((rowC eP o++eP x).drop (0+o.length*3+1)).take 2)=_
 rw[List.drop_append,List.drop_of_length_le (by omega),show 0+o.length*3+1-(rowC eP o).length=1 by omega]
 rfl
theorem spL1(z:Zi):splice (rowC eP (o++[x])) (0+o.length*3+1) [bv z.neg,eN z.abs]=rowC eP (o++[⟨x.v,z⟩]):=by
 have hl:=rowC_len eP_len o
 rw[←rowC_snoc,←rowC_snoc]
 unfold splice
 rw[List.take_append,List.take_of_length_le (by omega),show 0+o.length*3+1-(rowC eP o).length=1 by omega,List.drop_of_length_le (by rw[List.length_append,eP_len,hl];simp),List.append_nil,List.append_assoc]
 rfl
end
section
variable {D:Orc} (Kt:Knows ownC tabTe D) (Ks:Knows ownC tabSo D) (Z:ZF D) (C:PartF D)
include Z
include Kt in
theorem copiedZ_ok{z:Zi}(hz:Lz 1000000000 z):D.ask (.fn 138) [.agg (eZ z)] []=some (.agg (eZ (ziOf (zv z))),[]):=by
 refine Kt.fn' hn138 _ rfl ((e138 ..).trans ?_)
 refine(askK_of (Z.frm z hz) _).trans ?_
 rfl
include Ks in
theorem isZero_ok{p:Pt}(hz:Lz 1000000000 p.z):D.ask (.fn 141) [.agg (eP p)] []=some (bv (decide (zv p.z=0)),[]):=by
 have g:=Z.sign p.z hz
 refine Ks.fn' hn141 _ rfl ((e141 ..).trans ?_)
 refine(askK_of g _).trans ?_
 simp only[ND,DK,unFn_fn]
 by_cases h:zv p.z=0
 .rw[decide_eq_true h,h]
  exact br_eqT rfl
 .rw[decide_eq_false h]
  refine br_eqF ?_
  unfold sgnZ
  split
  .omega
  .split
   .omega
   .omega
include Kt in
theorem plain_lp{k:Nat}(ps:List Pt)(hl:ps.length<=1000000)(hk:k+ps.length<=900000000)(hz:∀ p∈ps,Lz k p.z)(r0:List (List AV))(r1:Bool)(r2:List (List AV))(k1:Bool)(k2:List (List AV)):∀(m i:Nat) (s:List (Int × Int)),ps.length-i=m->i<=ps.length->s.length<=i->(∀ q∈s,InB (k+i) q.2)->
  D.ask (.lp 62 0) [.ptr 0 0,.ptr 1 0,.ls (ps.map eP),iv (ps.length:Int),iv (i:Int)] [⟨[.ls r0,bv r1,.ls r2],true,false⟩,⟨[.sl 2 0 (s.map ptOf).reverse.length 3,bv k1,.ls k2],true,false⟩,bkP (s.map ptOf).reverse]
   = some (.tup [iv 0,.ptr 0 0,.ptr 1 0],[.set ⟨[.ls r0,bv r1,.ls r2],true,false⟩,.set ⟨[.sl 3 0 ((((ps.drop i).map pv).foldl grpS s).map ptOf).reverse.length 3,bv k1,.ls k2],true,false⟩,.del,.set (bkP ((((ps.drop i).map pv).foldl grpS s).map ptOf).reverse)]):=by
 intro m
 induction m with
 |zero=>
  intro i s hm hi hs hb
  rw[List.drop_eq_nil_of_le (by omega),List.map_nil,List.foldl_nil]
  refine Kt.lp' hn62 _ rfl (by kernel_rfl) ((e62_0 ..).trans ?_)
  exact(br_ltF (by omega)).trans rfl
 |succ m ih0=>
  intro i s hm hi hs hb
  have h1:i<ps.length:=by omega
  have hzk:=hz ps[i] (List.getElem_mem h1)
  have hzi:=hzk.mono (show k<=1000000000 by omega)
  rw[List.drop_eq_getElem_cons h1,List.map_cons,List.foldl_cons]
  have ih:=ih0 (i+1) (grpS s (pv ps[i])) (by omega) (by omega) (by have:=grpS_len s (pv ps[i]);omega) (grpS_inb hb (hzk.inb.mono (show k<=k+i by omega)))
  refine Kt.lp' hn62 _ rfl (by kernel_rfl) ((e62_0 ..).trans ?_)
  refine(br_ltT (by omega)).trans ?_
  rw[unI_n,nthK_some (List.getElem?_eq_getElem h1)]
  simp only[eP,eN,ND,DK,unFn_fn]
  generalize hS:((ps.drop (i+1)).map pv).foldl grpS (grpS s (pv ps[i]))=S at ih ⊢
  by_cases hneg:ps[i].v<0
  .have e:grpS s (pv ps[i])=s:=by
    have hn:(pv ps[i]).1<0:=hneg
    cases s with
    |nil=>rw[grpS_nil,if_pos hn]
    |cons q r=>rw[grpS_cons,if_pos hn]
   rw[e]at ih
   refine(br_ltT hneg).trans ?_
   rw[add1 (by omega)]
   refine(askK_of ih _).trans ?_
   rfl
  have hn:¬(pv ps[i]).1<0:=hneg
  refine(br_ltF hneg).trans ?_
  cases s with
  |nil=>
   rw[grpS_nil,if_neg hn]at ih
   refine(br_leF (by decide)).trans ?_
   obtain⟨o,ho0⟩:∃ o:List Pt,o=[]:=⟨_,rfl⟩
   have eo:(([pv ps[i]].map ptOf).reverse)=o++[ptOf (pv ps[i])]:=by rw[ho0];rfl
   rw[eo]at ih
   have ho:o.length<=i:=by rw[ho0];exact Nat.zero_le _
   rw[show ((([]:List (Int × Int)).map ptOf).reverse)=o from ho0.symm]
   have hf:fitsB (o.length+1) 40=true:=fits_small (by omega) (by omega)
   have hb1:Nat.ble (0+o.length*3) (rowC eP o).length=true:=ble_row eP_len o (by omega)
   have e3:List.drop 0 (List.take (0+o.length*3) (rowC eP o))++[iv ps[i].v,bv (ziOf (zv ps[i].z)).neg,eN (ziOf (zv ps[i].z)).abs]=rowC eP (o++[ptOf (pv ps[i])]):=by
    rw[List.drop_zero,rowC_all eP_len o (by omega)]
    exact rowC_snoc eP o (ptOf (pv ps[i]))
   refine(askK_of (copiedZ_ok Kt Z hzi) _).trans ?_
   simp only[eZ,eN,ND,DK,unFn_fn]at e3 ⊢
   rw[hf]
   refine(br_t _ _).trans ?_
   rw[hb1]
   refine(br_t _ _).trans ?_
   rw[e3,add1 (by omega)]
   rw[List.length_append,List.length_singleton]at ih
   refine(askK_of ih _).trans ?_
   rfl
  |cons q r=>
   have eo:(((q::r).map ptOf).reverse)=(r.map ptOf).reverse++[ptOf q]:=by simp
   have hq:=hb q (List.mem_cons_self ..)
   rw[eo]
   rw[grpS_cons,if_neg hn]at ih
   have hro:(r.map ptOf).reverse.length<=i:=by simp at hs ⊢;omega
   by_cases heq:q.1=(pv ps[i]).1
   .rw[if_pos heq,List.map_cons,List.reverse_cons]at ih
    generalize (r.map ptOf).reverse=o at hro ih ⊢
    have e1:realA.sub .i64 (((o++[ptOf q]).length:Nat):Int) 1=((o.length:Nat):Int):=by
     rw[List.length_append,List.length_singleton]
     exact subN1 (by omega)
    have hlt:o.length<(o++[ptOf q]).length:=by simp
    have ga:=Z.add (ziOf q.2) ps[i].z (hq.lz.mono (by omega)) (hzk.mono (by omega))
    rw[zv_ziOf]at ga
    have sp:=spL1 o (ptOf q) (ziOf (q.2+zv ps[i].z))
    rw[e1]
    refine(br_leT (by omega)).trans ?_
    rw[unI_n,blt_yes hlt]
    refine(br_t _ _).trans ?_
    refine(rdL0 o (ptOf q) _).trans ?_
    simp only[ND,DK,unFn_fn]
    refine(br_eqT (show (ptOf q).v=ps[i].v from heq)).trans ?_
    rw[unI_n,blt_yes hlt]
    refine(br_t _ _).trans ?_
    refine(rdL1 o (ptOf q) _).trans ?_
    simp only[eN,ND,DK,unFn_fn]
    refine(askK_of ga _).trans ?_
    simp only[eZ,eN,ND,DK,unFn_fn]at sp ⊢
    rw[unI_n,blt_yes hlt]
    refine(br_t _ _).trans ?_
    rw[show Nat.ble (0+o.length*3+1+2) (rowC eP (o++[ptOf q])).length=true by rw[rowC_len eP_len];simp;omega]
    refine(br_t _ _).trans ?_
    rw[sp,add1 (by omega)]
    have el:(o++[ptOf q]).length=(o++[ptOf (q.1,q.2+(pv ps[i]).2)]).length:=by simp
    rw[el]
    refine(askK_of ih _).trans ?_
    rfl
   .rw[if_neg heq,List.map_cons,List.reverse_cons,eo]at ih
    have hlen:((r.map ptOf).reverse++[ptOf q]).length<=i:=by simp at hs ⊢;omega
    have e1:realA.sub .i64 ((((r.map ptOf).reverse++[ptOf q]).length:Nat):Int) 1=(((r.map ptOf).reverse.length:Nat):Int):=by
     rw[List.length_append,List.length_singleton]
     exact subN1 (by omega)
    have hlt:(r.map ptOf).reverse.length<((r.map ptOf).reverse++[ptOf q]).length:=by simp
    rw[e1]
    refine(br_leT (by omega)).trans ?_
    rw[unI_n,blt_yes hlt]
    refine(br_t _ _).trans ?_
    refine(rdL0 _ (ptOf q) _).trans ?_
    simp only[ND,DK,unFn_fn]
    refine(br_eqF (show ¬(ptOf q).v=ps[i].v from heq)).trans ?_
    generalize (r.map ptOf).reverse++[ptOf q]=o at hlen ih ⊢
    have ho:=hlen
    have hf:fitsB (o.length+1) 40=true:=fits_small (by omega) (by omega)
    have hb1:Nat.ble (0+o.length*3) (rowC eP o).length=true:=ble_row eP_len o (by omega)
    have e3:List.drop 0 (List.take (0+o.length*3) (rowC eP o))++[iv ps[i].v,bv (ziOf (zv ps[i].z)).neg,eN (ziOf (zv ps[i].z)).abs]=rowC eP (o++[ptOf (pv ps[i])]):=by
     rw[List.drop_zero,rowC_all eP_len o (by omega)]
     exact rowC_snoc eP o (ptOf (pv ps[i]))
    refine(askK_of (copiedZ_ok Kt Z hzi) _).trans ?_
    simp only[eZ,eN,ND,DK,unFn_fn]at e3 ⊢
    rw[hf]
    refine(br_t _ _).trans ?_
    rw[hb1]
    refine(br_t _ _).trans ?_
    rw[e3,add1 (by omega)]
    rw[List.length_append,List.length_singleton]at ih
    refine(askK_of ih _).trans ?_
    rfl
include Kt Ks C in
theorem plain_ok{n k:Nat}{t:Tm}(h:TmB n k t)(hn:n<=1000000)(hk:k+n<=900000000):D.ask (.fn 62) [.agg (eT t)] []=some (.agg (eT t.lf.pln.tm),[]):=by
 obtain⟨ps,kz⟩:=t
 have hlen:ps.length<=n:=h.len
 obtain⟨r,gs,gr,gp,go⟩:=sortP_ok Ks (l:=ps) (by omega)
 have gc:=C.clone ps (by omega)
 have gk:=copiedZ_ok Kt Z (h.k.mono (show k<=1000000000 by omega))
 have hzr:∀ p∈r,Lz k p.z:=fun p hp=>h.ps p (gp.mem_iff.1 hp)
 have gl:=plain_lp Kt Z r (k:=k) (by omega) (by omega) hzr [] false [] (ziOf (zv kz)).neg ((ziOf (zv kz)).abs.map eL) _ 0 [] rfl (by omega) (by simp) (by simp)
 rw[List.drop_zero]at gl
 have hsrt:(r.map pv).Pairwise fun a b=>a.1<=b.1:=by
  rw[List.pairwise_map]
  exact srt_pairwise Pt.v go
 have hpl:=grp_pln hsrt (gp.map pv)
 generalize hS:(r.map pv).foldl grpS []=S at gl hpl
 have hsb:∀ p∈((S.map ptOf).reverse),Lz 1000000000 p.z:=by
  have key:∀(t s:List (Int × Int)) (j:Nat),(∀ q∈s,InB (k+j) q.2)->(∀ q∈t,InB k q.2)->∀ q∈t.foldl grpS s,InB (k+j+t.length) q.2:=by
   intro t
   induction t with
   |nil=>intro s j hs _ q hq;exact hs q hq
   |cons p t ih=>
    intro s j hs ht q hq
    have:=ih (grpS s p) (j+1) (grpS_inb hs ((ht p (List.mem_cons_self ..)).mono (show k<=k+j by omega))) (fun q hq=>ht q (List.mem_cons_of_mem _ hq)) q hq
    rw[List.length_cons]
    exact this.mono (by omega)
  intro p hp
  rw[List.mem_reverse,List.mem_map]at hp
  obtain⟨q,hq,rfl⟩:=hp
  have:=key (r.map pv) [] 0 (by simp) (fun q hq=>by
   rw[List.mem_map]at hq
   obtain⟨p,hp,rfl⟩:=hq
   exact(hzr p hp).inb) q (by rw[hS];exact hq)
  rw[List.length_map]at this
  exact(this.lz).mono (by omega)
 have hSl:S.length<=1000000:=by
  have key:∀(t s:List (Int × Int)),(t.foldl grpS s).length<=s.length+t.length:=by
   intro t
   induction t with
   |nil=>intro s;simp
   |cons p t ih=>
    intro s
    have:=ih (grpS s p)
    have h2:=grpS_len s p
    rw[List.foldl_cons,List.length_cons]
    omega
  have:=key (r.map pv) []
  rw[hS,List.length_map]at this
  simp at this
  omega
 obtain⟨cells,gd,gt,gle⟩:=del_ok Ks (fun p=>decide (zv p.z=0)) (S.map ptOf).reverse (by simp;omega) fun p hp=>isZero_ok Ks Z (hsb p hp)
 have hfin:((S.map ptOf).reverse).filter (fun p=>!decide (zv p.z=0))=(plnOf (ps.map pv)).map ptOf:=by
  rw[←hpl,←List.map_reverse,List.filter_map]
  congr 1
  refine List.filter_congr fun q _=>?_
  show (!decide (zv (ziOf q.2)=0))=_
  rw[zv_ziOf]
 rw[hfin]at gd gt gle
 refine Kt.fn' hn62 _ rfl ((e62 ..).trans ?_)
 refine(askK_of gc _).trans ?_
 simp only[ND,DK,unFn_fn]
 refine(askK_of gs _).trans ?_
 simp only[ND,DK,unFn_fn]
 refine(askK_of gk _).trans ?_
 simp only[eZ,eN,ND,DK,unFn_fn]
 rw[show Nat.ble (0+ps.length*3) (rowC eP r).length=true from ble_row eP_len r (by omega)]
 refine(br_t _ _).trans ?_
 rw[chunk_of eP_len r (by omega),←gr]
 refine(askK_of gl _).trans ?_
 simp only[ND,DK,unFn_fn]
 refine(askK_of gd _).trans ?_
 simp only[ND,DK,unFn_fn]
 rw[show Nat.ble (0+((plnOf (ps.map pv)).map ptOf).length*3) cells.length=true by simp;simp at gle;omega]
 refine(br_t _ _).trans ?_
 rw[gt,chunk_row eP_len]
 rfl
end
end Go.Proofs.YtpncilciembjdaaGreatDoor
namespace Go.Proofs.YtpncilciembjdaaGreatDoor
open Go.RowKit

def eR(r:List Pt):List AV:=[.ls (r.map eP)]
theorem one_eP(p:Pt):oneL (eP p)=true:=rfl
def scP(x:Zi)(p:Pt):Pt:=⟨p.v,ziOf (zv p.z*zv x)⟩
theorem addNat{a b:Nat}(h:a+b<4611686018427387904):realA.add .i64 (a:Int) (b:Int)=((a+b:Nat):Int):=by
 rw[r_add (by omega) (by omega)]
 omega
section
variable {D:Orc} (Kt:Knows ownC tabTe D) (Kf:Knows ownC tabTf D) (Ks:Knows ownC tabSo D) (Z:ZF D) (C:PartF D)
include Kf
theorem cc_lp0(rs:List (List Pt))(X:List (List AV))(hr:rs.length<=1000000):∀(m i s:Nat),rs.length-i=m->i<=rs.length->s+(rs.drop i).flatten.length<=1000000000->
  D.ask (.lp 230 0) [.ls X,iv (s:Int),.ls (rs.map eR),iv (rs.length:Int),iv (i:Int)] []=some (.tup [iv 0,.ls X,iv ((s+(rs.drop i).flatten.length:Nat):Int)],[]):=by
 intro m
 induction m with
 |zero=>
  intro i s hm hi hs
  rw[List.drop_eq_nil_of_le (by omega)]
  refine Kf.lp' hn230 _ rfl (by kernel_rfl) ((e230_0 ..).trans ?_)
  exact(br_ltF (by omega)).trans rfl
 |succ m ih=>
  intro i s hm hi hs
  have h1:i<rs.length:=by omega
  rw[List.drop_eq_getElem_cons h1,List.flatten_cons,List.length_append]at hs ⊢
  have ih:=ih (i+1) (s+rs[i].length) (by omega) (by omega) (by omega)
  rw[show s+rs[i].length+(rs.drop (i+1)).flatten.length=s+(rs[i].length+(rs.drop (i+1)).flatten.length) by omega]at ih
  refine Kf.lp' hn230 _ rfl (by kernel_rfl) ((e230_0 ..).trans ?_)
  refine(br_ltT (by omega)).trans ?_
  rw[unI_n,nthK_some (List.getElem?_eq_getElem h1)]
  simp only[eR,ND,DK,unFn_fn]
  rw[lenR_map,addNat (by omega),add1 (by omega)]
  refine(br_ltF (by omega)).trans ?_
  refine(askK_of ih _).trans ?_
  rfl
theorem cc_lp1(rs:List (List Pt))(hr:rs.length<=1000000):∀(m i:Nat) (out:List Pt),rs.length-i=m->i<=rs.length->out.length+(rs.drop i).flatten.length<=1000000000->
  D.ask (.lp 230 1) [.sl 0 0 out.length 3,.ls (rs.map eR),iv (rs.length:Int),iv (i:Int)] [bkP out]=some (.tup [iv 2,.sl 1 0 (out++(rs.drop i).flatten).length 3],[.del,.set (bkP (out++(rs.drop i).flatten))]):=by
 intro m
 induction m with
 |zero=>
  intro i out hm hi hs
  rw[List.drop_eq_nil_of_le (by omega),List.flatten_nil,List.append_nil]
  refine Kf.lp' hn230 _ rfl (by kernel_rfl) ((e230_1 ..).trans ?_)
  exact(br_ltF (by omega)).trans rfl
 |succ m ih=>
  intro i out hm hi hs
  have h1:i<rs.length:=by omega
  rw[List.drop_eq_getElem_cons h1,List.flatten_cons]at hs ⊢
  rw[List.length_append]at hs
  have ih:=ih (i+1) (out++rs[i]) (by omega) (by omega) (by rw[List.length_append];omega)
  rw[List.append_assoc]at ih
  refine Kf.lp' hn230 _ rfl (by kernel_rfl) ((e230_1 ..).trans ?_)
  refine(br_ltT (by omega)).trans ?_
  rw[unI_n,nthK_some (List.getElem?_eq_getElem h1)]
  revert hs ih
  generalize rs[i]=r
  intro hs ih
  simp only[eR,ND,DK,unFn_fn]
  rw[wideR_map eP_len,lenR_map,add1 (by omega)]
  refine(br_t _ _).trans ?_
  by_cases h0:r=[]
  .subst h0
   rw[List.append_nil]at ih
   rw[List.nil_append]at ih ⊢
   refine(br_t _ _).trans ?_
   refine(askK_of ih _).trans ?_
   rfl
  .have hz:Nat.beq r.length 0=false:=by
    cases r with
    |nil=>exact absurd rfl h0
    |cons x r=>rfl
   rw[hz]
   refine(br_f _ _).trans ?_
   rw[catR_map,oneL_row one_eP]
   refine(br_t _ _).trans ?_
   rw[fits_small (n:=out.length+r.length) (b:=40) (by omega) (by omega)]
   refine(br_t _ _).trans ?_
   rw[show Nat.ble (0+out.length*3) (rowC eP out).length=true from ble_row eP_len out (by omega)]
   refine(br_t _ _).trans ?_
   have e3:List.drop 0 (List.take (0+out.length*3) (rowC eP out))++rowC eP r=rowC eP (out++r):=by
    rw[List.drop_zero,rowC_all eP_len out (by omega)]
    simp[rowC]
   rw[e3]
   rw[show (out++r).length=out.length+r.length from List.length_append]at ih
   refine(askK_of ih _).trans ?_
   rfl
include C in
theorem concat_ok(a b:List Pt)(h:a.length+b.length<=1000000):D.ask (.fn 230) [.ls [[.ls (a.map eP)],[.ls (b.map eP)]]] []=some (.ls ((a++b).map eP),[]):=by
 have hf:([a,b]).flatten=a++b:=by simp
 have g0:=cc_lp0 Kf [a,b] (([a,b]).map eR) (by simp) _ 0 0 rfl (by simp) (by rw[List.drop_zero,hf,List.length_append];omega)
 rw[List.drop_zero,hf,Nat.zero_add]at g0
 have gg:=C.grow (a++b).length (by rw[List.length_append];omega)
 have g1:=cc_lp1 Kf [a,b] (by simp) _ 0 [] rfl (by simp) (by rw[List.drop_zero,hf,List.length_append];simp;omega)
 rw[List.drop_zero,hf,List.nil_append]at g1
 refine Kf.fn' hn230 _ rfl ((e230 ..).trans ?_)
 refine(askK_of g0 _).trans ?_
 simp only[ND,DK,unFn_fn]
 refine(askK_of gg _).trans ?_
 simp only[ND,DK,unFn_fn]
 refine(askK_of g1 _).trans ?_
 simp only[ND,DK,unFn_fn]
 rw[show Nat.ble (0+(a++b).length*3) (rowC eP (a++b)).length=true from ble_row eP_len (a++b) (by omega)]
 refine(br_t _ _).trans ?_
 rw[chunk_of eP_len (a++b) rfl]
 rfl
include Kt Ks Z C
theorem add_ok{n m k:Nat}{a b:Tm}(ha:TmB n k a)(hb:TmB m k b)(hn:n+m<=1000000)(hk:k+1+(n+m)<=900000000):D.ask (.fn 185) [.agg (eT a),.agg (eT b)] []=some (.agg (eT (a.lf.add b.lf).tm),[]):=by
 obtain⟨ap,ak⟩:=a
 obtain⟨bp,bk⟩:=b
 have l1:ap.length<=n:=ha.len
 have l2:bp.length<=m:=hb.len
 have gc:=concat_ok Kf C ap bp (by omega)
 have ga:=Z.add ak bk (ha.k.mono (by omega)) (hb.k.mono (by omega))
 have hT:TmB (n+m) (k+1) ⟨ap++bp,ziOf (zv ak+zv bk)⟩:=by
  refine⟨by simp;omega,fun p hp=>?_,?_⟩
  .rcases List.mem_append.1 hp with h|h
   .exact(ha.ps p h).mono (by omega)
   .exact(hb.ps p h).mono (by omega)
  .exact(InB.add ha.k.inb hb.k.inb).lz
 have gp:=plain_ok Kt Ks Z C hT hn (by omega)
 have el:(⟨ap++bp,ziOf (zv ak+zv bk)⟩:Tm).lf.pln=Lf.add (Tm.lf ⟨ap,ak⟩) (Tm.lf ⟨bp,bk⟩):=by
  unfold Lf.add Tm.lf
  simp only[List.map_append,zv_ziOf]
 rw[el]at gp
 refine Kf.fn' hn185 _ rfl ((e185 ..).trans ?_)
 refine(askK_of gc _).trans ?_
 simp only[ND,DK,unFn_fn]
 refine(askK_of ga _).trans ?_
 simp only[eZ,eN,ND,DK,unFn_fn]
 refine(askK_of gp _).trans ?_
 rfl
omit Kt Ks C in
theorem scale_lp{k j:Nat}{x:Zi}(hx:Lz j x)(hx24:x.abs.length<24)(ps:List Pt)(hl:ps.length<=1000000)(hz:∀ p∈ps,Lz k p.z)(hk:k<=400000000)(hj:j<=400000000)(r0:List (List AV))(r1:Bool)(r2:List (List AV))(k1:Bool)(k2:List (List AV)):∀(m i:Nat) (out:List Pt),ps.length-i=m->i<=ps.length->out.length<=i->
  D.ask (.lp 148 0) [.ptr 0 0,.ptr 1 0,.ptr 2 0,.ls (ps.map eP),iv (ps.length:Int),iv (i:Int)] [⟨eZ x,true,false⟩,⟨[.ls r0,bv r1,.ls r2],true,false⟩,⟨[.sl 3 0 out.length 3,bv k1,.ls k2],true,false⟩,bkP out]
   = some (.tup [iv 0,.ptr 1 0,.ptr 2 0],[.del,.set ⟨[.ls r0,bv r1,.ls r2],true,false⟩,.set ⟨[.sl 4 0 (out++(ps.drop i).map (scP x)).length 3,bv k1,.ls k2],true,false⟩,.del,.set (bkP (out++(ps.drop i).map (scP x)))]):=by
 intro m
 induction m with
 |zero=>
  intro i out hm hi ho
  rw[List.drop_eq_nil_of_le (by omega),List.map_nil,List.append_nil]
  refine Kf.lp' hn148 _ rfl (by kernel_rfl) ((e148_0 ..).trans ?_)
  exact(br_ltF (by omega)).trans rfl
 |succ m ih=>
  intro i out hm hi ho
  have h1:i<ps.length:=by omega
  have hzk:=hz ps[i] (List.getElem_mem h1)
  have gm:=Z.mul ps[i].z x (hzk.mono (by omega)) (hx.mono (by omega)) (.inr hx24)
  rw[List.drop_eq_getElem_cons h1,List.map_cons]
  have ih:=ih (i+1) (out++[scP x ps[i]]) (by omega) (by omega) (by simp;omega)
  rw[List.append_assoc,List.singleton_append,show (out++[scP x ps[i]]).length=out.length+1 by simp]at ih
  have hf:fitsB (out.length+1) 40=true:=fits_small (by omega) (by omega)
  have hb1:Nat.ble (0+out.length*3) (rowC eP out).length=true:=ble_row eP_len out (by omega)
  have e3:List.drop 0 (List.take (0+out.length*3) (rowC eP out))++[iv ps[i].v,bv (ziOf (zv ps[i].z*zv x)).neg,eN (ziOf (zv ps[i].z*zv x)).abs]=rowC eP (out++[scP x ps[i]]):=by
   rw[List.drop_zero,rowC_all eP_len out (by omega)]
   exact rowC_snoc eP out (scP x ps[i])
  obtain⟨xn,xa⟩:=x
  refine Kf.lp' hn148 _ rfl (by kernel_rfl) ((e148_0 ..).trans ?_)
  refine(br_ltT (by omega)).trans ?_
  rw[unI_n,nthK_some (List.getElem?_eq_getElem h1)]
  simp only[eP,eN,ND,DK,unFn_fn]
  refine(askK_of gm _).trans ?_
  simp only[eZ,eN,ND,DK,unFn_fn]at e3 ⊢
  rw[hf]
  refine(br_t _ _).trans ?_
  rw[hb1]
  refine(br_t _ _).trans ?_
  rw[e3,add1 (by omega)]
  refine(askK_of ih _).trans ?_
  rfl
theorem scale_ok{n k j:Nat}{a:Tm}{x:Zi}(ha:TmB n k a)(hx:Lz j x)(hx24:x.abs.length<24)(hn:n<=1000000)(hj:j<=23)(hk:k+j+n<=400000000):D.ask (.fn 148) [.agg (eT a),.agg (eZ x)] []=some (.agg (eT (a.lf.scale (zv x)).tm),[]):=by
 obtain⟨ap,ak⟩:=a
 have l1:ap.length<=n:=ha.len
 have gm:=Z.mul ak x (ha.k.mono (by omega)) (hx.mono (by omega)) (.inr hx24)
 have gl:=scale_lp Kf Z hx hx24 ap (by omega) ha.ps (by omega) (by omega) [] false [] (ziOf (zv ak*zv x)).neg ((ziOf (zv ak*zv x)).abs.map eL) _ 0 [] rfl (by omega) (by simp)
 rw[List.drop_zero,List.nil_append]at gl
 have hT:TmB n (k+j) ⟨ap.map (scP x),ziOf (zv ak*zv x)⟩:=by
  refine⟨by simpa using l1,fun p hp=>?_,(InB.mul ha.k.inb hx.inb).lz⟩
  rw[List.mem_map]at hp
  obtain⟨q,hq,rfl⟩:=hp
  exact(InB.mul (ha.ps q hq).inb hx.inb).lz
 have gp:=plain_ok Kt Ks Z C hT hn (by omega)
 have el:(⟨ap.map (scP x),ziOf (zv ak*zv x)⟩:Tm).lf.pln=Lf.scale (Tm.lf ⟨ap,ak⟩) (zv x):=by
  unfold Lf.scale Tm.lf
  simp only[List.map_map,zv_ziOf]
  congr 2
  refine List.map_congr_left fun p _=>?_
  show ((p.v,zv (ziOf (zv p.z*zv x))):Int × Int)=_
  rw[zv_ziOf]
  rfl
 rw[el]at gp
 obtain⟨xn,xa⟩:=x
 refine Kf.fn' hn148 _ rfl ((e148 ..).trans ?_)
 refine(askK_of gm _).trans ?_
 simp only[eZ,eN,ND,DK,unFn_fn,lenR_map]
 refine(askK_of gl _).trans ?_
 simp only[ND,DK,unFn_fn]
 rw[show Nat.ble (0+(ap.map (scP ⟨xn,xa⟩)).length*3) (rowC eP (ap.map (scP ⟨xn,xa⟩))).length=true from ble_row eP_len _ (by omega)]
 refine(br_t _ _).trans ?_
 rw[chunk_of eP_len _ rfl]
 refine(askK_of gp _).trans ?_
 rfl
theorem neg_ok{n k:Nat}{a:Tm}(ha:TmB n k a)(hn:n<=1000000)(hk:k+1+n<=400000000):D.ask (.fn 68) [.agg (eT a)] []=some (.agg (eT (a.lf.scale (-1)).tm),[]):=by
 have g1:=Z.of_ (-1) (by omega) (by omega)
 have hx:Lz 1 (ziOf (-1)):=InB.lz (by unfold InB;decide)
 have g2:=scale_ok Kt Kf Ks Z C ha hx (by have:=hx.len;omega) hn (by omega) hk
 rw[zv_ziOf]at g2
 refine Kf.fn' hn68 _ rfl ((e68 ..).trans ?_)
 refine(askK_of g1 _).trans ?_
 simp only[eZ,eN,ND,DK,unFn_fn]
 refine(askK_of g2 _).trans ?_
 rfl
theorem sub_ok{n m k:Nat}{a b:Tm}(ha:TmB n k a)(hb:TmB m k b)(hn:n+m<=1000000)(hk:k+2+2*(n+m)<=400000000):D.ask (.fn 127) [.agg (eT a),.agg (eT b)] []=some (.agg (eT (a.lf.sub b.lf).tm),[]):=by
 have g1:=neg_ok Kt Kf Ks Z C hb (by omega) (by omega)
 have hn1:LB m (k+1+m) (b.lf.scale (-1)):=hb.lb.scale (by unfold InB;decide)
 have g2:=add_ok Kt Kf Ks Z C (ha.mono (Nat.le_refl _) (show k<=k+1+m by omega)) hn1.tb hn (by omega)
 rw[tm_lf]at g2
 refine Kf.fn' hn127 _ rfl ((e127 ..).trans ?_)
 refine(askK_of g1 _).trans ?_
 simp only[eT,eN,ND,DK,unFn_fn]
 refine(askK_of g2 _).trans ?_
 rfl
omit Ks C in
theorem number_ok{z:Zi}(hz:Lz 1000000000 z):D.ask (.fn 125) [.agg (eZ z)] []=some (.agg (eT (Lf.num (zv z)).tm),[]):=by
 have g:=copiedZ_ok Kt Z hz
 refine Kf.fn' hn125 _ rfl ((e125 ..).trans ?_)
 refine(askK_of g _).trans ?_
 rfl
theorem least_ok{n k:Nat}{t:Tm}(h:TmB n k t)(hn:n<=1000000)(hk:k+n<=900000000):D.ask (.fn 28) [.agg (eT t)] []=some (.agg (eT t.lf.pln.tm++[bv false]),[]):=by
 have g:=plain_ok Kt Ks Z C h hn hk
 refine Kf.fn' hn28 _ rfl ((e28 ..).trans ?_)
 refine(askK_of g _).trans ?_
 rfl
end
end Go.Proofs.YtpncilciembjdaaGreatDoor
namespace Go.Proofs.YtpncilciembjdaaGreatDoor
open Go.RowKit

theorem noid_rowP:∀ l:List Pt,noidL (rowC eP l)=true
 |[]=>rfl
 |x::r=>by
  have ih:=noid_rowP r
  have h1:rowC eP (x::r)=eP x++rowC eP r:=by simp[rowC]
  rw[h1,noidL_all,List.all_append,←noidL_all,←noidL_all,ih]
  rfl
theorem cloneP_ans{l:List Pt}(h:l.length<=1000000000):ownD 3 (resClone 3 40) [.ls (l.map eP)] []=some (.sl 0 0 l.length 3,[.set (bkP l)]):=by
 unfold ownD resClone
 have h4:Nat.ble (lenR (l.map eP)*40) 140737488355328=true:=by
  rw[lenR_map]
  simp
  omega
 have h1:oneL (catR (l.map eP))=true:=by rw[catR_map];exact oneL_row one_eP l
 have h2:noidL (catR (l.map eP))=true:=by rw[catR_map];exact noid_rowP l
 simp only[wideR_map eP_len,h1,h2,h4,Bool.and_true,if_true,Option.map_some]
 rw[lenR_map,catR_map]
theorem growP_ans{n:Nat}(h:n<=1000000000):ownD 3 (resGrow 40) [.v (.slice none 0 0),iv (n:Int)] []=some (.sl 0 0 0 3,[.set (bkP [])]):=by
 have h4:Nat.ble (n*40) 140737488355328=true:=by simp;omega
 show (if Nat.ble (n*40) 140737488355328=true then some (0,([]:List AV)) else none).map _=_
 rw[if_pos h4]
 rfl
end Go.Proofs.YtpncilciembjdaaGreatDoor
