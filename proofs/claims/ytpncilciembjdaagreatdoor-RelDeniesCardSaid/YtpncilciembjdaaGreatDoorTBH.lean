/-
  What the sort functions come to: parts struck from a row.
  Summands in order, those of one variable taken together. No program in sight.
  What the numbers' functions of layer 1 come to: trim, Trim, Of, Cmp, Add, Sub.
  What the numbers' functions of layer 1 come to: products.
  What the numbers' functions of layer 2 come to.
  What is known of zint's functions, in one.
  What the sort functions come to: blocks of twenty.
  Rows put in order by a number: two runs become one. No program in sight.
  What the sort functions come to: two runs merged in place.
  What the sort functions come to: symMerge.
-/
import Derived.Test.YtpncilciembjdaaGreatDoorTAS
import Derived.Test.YtpncilciembjdaaGreatDoorTBF
import Derived.Test.YtpncilciembjdaaGreatDoorTAX
set_option linter.unusedSectionVars false
set_option linter.unusedSimpArgs false
set_option linter.unusedVariables false
namespace Go.Proofs.YtpncilciembjdaaGreatDoor
open Go.RowKit

def fnZ:AV:=.fn (.func 141) [] []
section
variable {D:Orc} (K:Knows ownC tabSo D)
include K
theorem idx_lp(P:Pt->Bool)(l:List Pt)(hl:l.length<=1000000000)(hP:∀ p∈l,D.ask (.fn 141) [.agg (eP p)] []=some (bv (P p),[])):∀(m i:Nat),l.length-i=m->i<=l.length->
  D.ask (.lp 199 0) [.sl 0 0 l.length 3,fnZ,iv (l.length:Int),iv (i:Int)] [ABlk.mk (rowC eP l) true true]
   = if i+(l.drop i).findIdx P<l.length then some (.tup [bv true,.sl 0 0 l.length 3,iv ((i+(l.drop i).findIdx P:Nat):Int)],[.set (ABlk.mk (rowC eP l) true true)]) else some (.tup [iv 0,.sl 0 0 l.length 3],[.set (ABlk.mk (rowC eP l) true true)]):=by
 intro m
 induction m with
 |zero=>
  intro i hm hi
  rw[if_neg (by omega)]
  refine K.lp' hn199 _ rfl (by kernel_rfl) ((e199_0 ..).trans ?_)
  exact(br_ltF (by omega)).trans rfl
 |succ m ih=>
  intro i hm hi
  have h1:i<l.length:=by omega
  have g:=hP l[i] (List.getElem_mem h1)
  have ih':=ih (i+1) (by omega) (by omega)
  rw[List.drop_eq_getElem_cons h1,List.findIdx_cons]
  cases hp:P l[i]with
  |true=>
   rw[hp]at g
   rw[if_pos (by simpa using h1)]
   refine K.lp' hn199 _ rfl (by kernel_rfl) ((e199_0 ..).trans ?_)
   refine(br_ltT (by omega)).trans ?_
   rw[unI_n,blt_yes h1]
   refine(br_t _ _).trans ?_
   refine(rdK_row eP_len l i h1 _).trans ?_
   simp only[eP,eN,ND,DK,unFn_fn]
   refine(askK_of g _).trans ?_
   simp only[ND,DK,unFn_fn]
   rfl
  |false=>
   rw[hp]at g
   rw[show (bif false then 0 else(l.drop (i+1)).findIdx P+1)=(l.drop (i+1)).findIdx P+1 from rfl,show i+((l.drop (i+1)).findIdx P+1)=i+1+(l.drop (i+1)).findIdx P by omega]
   by_cases h:i+1+(l.drop (i+1)).findIdx P<l.length
   .rw[if_pos h]at ih' ⊢
    refine K.lp' hn199 _ rfl (by kernel_rfl) ((e199_0 ..).trans ?_)
    refine(br_ltT (by omega)).trans ?_
    rw[unI_n,blt_yes h1]
    refine(br_t _ _).trans ?_
    refine(rdK_row eP_len l i h1 _).trans ?_
    simp only[eP,eN,ND,DK,unFn_fn]
    refine(askK_of g _).trans ?_
    simp only[ND,DK,unFn_fn]
    rw[add1 (by omega)]
    refine(askK_of ih' _).trans ?_
    rfl
   .rw[if_neg h]at ih' ⊢
    refine K.lp' hn199 _ rfl (by kernel_rfl) ((e199_0 ..).trans ?_)
    refine(br_ltT (by omega)).trans ?_
    rw[unI_n,blt_yes h1]
    refine(br_t _ _).trans ?_
    refine(rdK_row eP_len l i h1 _).trans ?_
    simp only[eP,eN,ND,DK,unFn_fn]
    refine(askK_of g _).trans ?_
    simp only[ND,DK,unFn_fn]
    rw[add1 (by omega)]
    refine(askK_of ih' _).trans ?_
    rfl
theorem idx_ok(P:Pt->Bool)(l:List Pt)(hl:l.length<=1000000000)(hP:∀ p∈l,D.ask (.fn 141) [.agg (eP p)] []=some (bv (P p),[])) :
  D.ask (.fn 199) [.sl 0 0 l.length 3,fnZ] [ABlk.mk (rowC eP l) true true]
   = some (iv (if l.findIdx P<l.length then(l.findIdx P:Int) else -1),[.set (ABlk.mk (rowC eP l) true true)]):=by
 have g:=idx_lp K P l hl hP _ 0 rfl (by omega)
 rw[List.drop_zero,Nat.zero_add]at g
 refine K.fn' hn199 _ rfl ((e199 ..).trans ?_)
 by_cases h:l.findIdx P<l.length
 .rw[if_pos h]at g ⊢
  refine(askK_of g _).trans ?_
  rfl
 .rw[if_neg h]at g ⊢
  refine(askK_of g _).trans ?_
  rfl
theorem del_lp(P:Pt->Bool)(Q:Pt->Prop)(hP:∀ p,Q p->D.ask (.fn 141) [.agg (eP p)] []=some (bv (P p),[])):∀(m j i:Nat) (l:List Pt),l.length-j=m->i<=j->j<=l.length->l.length<=1000000000->(∀ p∈l.drop j,Q p)->
  ∃(r:List Pt) (c:Nat),D.ask (.lp 140 0) [.sl 0 0 l.length 3,fnZ,iv (i:Int),iv (j:Int)] [ABlk.mk (rowC eP l) true true]
   = some (.tup [iv 0,.sl 0 0 l.length 3,iv (c:Int)],[.set (ABlk.mk (rowC eP r) true true)])
   ∧ r.length=l.length/\c<=l.length/\r.take c=l.take i++(l.drop j).filter (fun p=>!P p):=by
 intro m
 induction m with
 |zero=>
  intro j i l hm hi hj hl hq
  refine⟨l,i,?_,rfl,by omega,?_⟩
  .refine K.lp' hn140 _ rfl (by kernel_rfl) ((e140_0 ..).trans ?_)
   exact(br_ltF (by omega)).trans rfl
  .rw[List.drop_eq_nil_of_le (by omega),List.filter_nil,List.append_nil]
 |succ m ih=>
  intro j i l hm hi hj hl hq
  have h1:j<l.length:=by omega
  have h0:i<l.length:=by omega
  have ed:=List.drop_eq_getElem_cons h1
  have g:=hP l[j] (hq _ (by rw[ed];exact List.mem_cons_self ..))
  rw[ed,List.filter_cons]
  cases hp:P l[j]with
  |true=>
   rw[hp]at g
   obtain⟨r,c,g2,hr,hc,he⟩:=ih (j+1) i l (by omega) (by omega) (by omega) hl (fun p h=>hq p (by rw[ed];exact List.mem_cons_of_mem _ h))
   refine⟨r,c,?_,hr,hc,he⟩
   refine K.lp' hn140 _ rfl (by kernel_rfl) ((e140_0 ..).trans ?_)
   refine(br_ltT (by omega)).trans ?_
   rw[unI_n,blt_yes h1]
   refine(br_t _ _).trans ?_
   refine(rdK_row eP_len l j h1 _).trans ?_
   simp only[eP,eN,ND,DK,unFn_fn]
   refine(askK_of g _).trans ?_
   simp only[ND,DK,unFn_fn]
   rw[add1 (by omega)]
   refine(askK_of g2 _).trans ?_
   rfl
  |false=>
   rw[hp]at g
   have hd:(l.set i l[j]).drop (j+1)=l.drop (j+1):=List.drop_set_of_lt (by omega)
   obtain⟨r,c,g2,hr,hc,he⟩:=ih (j+1) (i+1) (l.set i l[j]) (by rw[List.length_set];omega) (by omega) (by rw[List.length_set];omega) (by rw[List.length_set];exact hl) (fun p h=>hq p (by rw[ed];rw[hd]at h;exact List.mem_cons_of_mem _ h))
   rw[List.length_set]at g2 hr hc
   have s1:=splice_row eP_len l i h0 l[j]
   simp only[eP,eN]at s1
   refine⟨r,c,?_,hr,hc,?_⟩
   .skip
    refine K.lp' hn140 _ rfl (by kernel_rfl) ((e140_0 ..).trans ?_)
    refine(br_ltT (by omega)).trans ?_
    rw[unI_n,blt_yes h1]
    refine(br_t _ _).trans ?_
    refine(rdK_row eP_len l j h1 _).trans ?_
    simp only[eP,eN,ND,DK,unFn_fn]
    refine(askK_of g _).trans ?_
    simp only[ND,DK,unFn_fn]
    rw[unI_n,blt_yes h0]
    refine(br_t _ _).trans ?_
    rw[show Nat.ble (0+i*3+3) (rowC eP l).length=true by rw[rowC_len eP_len];simp;omega]
    refine(br_t _ _).trans ?_
    rw[s1,add1 (by omega),add1 (by omega)]
    refine(askK_of g2 _).trans ?_
    rfl
   .rw[he,hd,List.take_succ_eq_append_getElem (by rw[List.length_set];exact h0),List.getElem_set_self,List.take_set_of_le (Nat.le_refl _),List.append_assoc]
    rfl
omit K in
theorem filter_idx(P:Pt->Bool):∀ l:List Pt,l.findIdx P<l.length->l.take (l.findIdx P)++(l.drop (l.findIdx P+1)).filter (fun p=>!P p)=l.filter (fun p=>!P p)
 |[],h=>by simp at h
 |x::r,h=>by
  rw[List.findIdx_cons]at h ⊢
  cases hp:P x with
  |true=>simp[hp]
  |false=>
   rw[hp]at h
   have:=filter_idx P r (by simpa using h)
   simp only[cond_false,List.take_succ_cons,List.drop_succ_cons,List.filter_cons,hp,Bool.not_false,if_true,List.cons_append]
   rw[this]
omit K in
theorem filter_none(P:Pt->Bool)(l:List Pt)(h:¬ l.findIdx P<l.length):l.filter (fun p=>!P p)=l:=by
 rw[List.filter_eq_self]
 intro p hp
 cases e:P p with
 |false=>rfl
 |true=>exact absurd (List.findIdx_lt_length_of_exists ⟨p,hp,e⟩) h
omit K in
theorem rowC_takeP:∀(l:List Pt) (i:Nat),i<=l.length->(rowC eP l).take (i*3)=rowC eP (l.take i)
 |[],i,_=>by simp[rowC]
 |y::r,0,_=>by simp[rowC]
 |y::r,i+1,h=>by
  rw[show (i+1)*3=3+i*3 by omega]
  show (eP y++rowC eP r).take (3+i*3)=eP y++rowC eP (r.take i)
  rw[List.take_append,List.take_of_length_le (by rw[eP_len];omega),eP_len,show 3+i*3-3=i*3 by omega,rowC_takeP r i (by simpa using h)]
theorem del_ok(P:Pt->Bool)(l:List Pt)(hl:l.length<=1000000000)(hP:∀ p∈l,D.ask (.fn 141) [.agg (eP p)] []=some (bv (P p),[])) :
  ∃ cells:List AV,D.ask (.fn 140) [.sl 0 0 l.length 3,fnZ] [ABlk.mk (rowC eP l) true true]
   = some (.sl 0 0 (l.filter fun p=>!P p).length 3,[.set (ABlk.mk cells true true)])
   ∧ cells.take ((l.filter fun p=>!P p).length*3)=rowC eP (l.filter fun p=>!P p)/\(l.filter fun p=>!P p).length*3<=cells.length:=by
 have g:=idx_ok K P l hl hP
 by_cases h:l.findIdx P<l.length
 .rw[if_pos h]at g
  obtain⟨r,c,g2,hr,hc,he⟩:=del_lp K P (fun p=>p∈l) hP _ (l.findIdx P+1) (l.findIdx P) l rfl (by omega) (by omega) hl (fun p hp=>List.mem_of_mem_drop hp)
  rw[filter_idx P l h]at he
  have hk:(l.filter fun p=>!P p).length=c:=by
   rw[←he,List.length_take]
   omega
  rw[hk,←he]
  refine⟨splice (rowC eP r) (0+c*3) (zeros [iv 0,bv false,.v (.slice none 0 0)] ((l.length-c)*3)),?_,?_,?_⟩
  .refine K.fn' hn140 _ rfl ((e140 ..).trans ?_)
   refine(askK_of g _).trans ?_
   simp only[ND,DK,unFn_fn]
   refine(br_eqF (by omega)).trans ?_
   rw[add1 (by omega)]
   refine(askK_of g2 _).trans ?_
   simp only[ND,DK,unFn_fn]
   rw[unI_n,show inB c l.length l.length=true by unfold inB;rw[Nat.ble_eq_true_of_le hc,Nat.ble_eq_true_of_le (Nat.le_refl _)]]
   refine(br_t _ _).trans ?_
   rw[show Nat.ble (0+c*3+(l.length-c)*3) (rowC eP r).length=true by rw[rowC_len eP_len];simp;omega]
   refine(br_t _ _).trans ?_
   rw[unI_n,show inB 0 c l.length=true by unfold inB;rw[Nat.ble_eq_true_of_le (Nat.zero_le _),Nat.ble_eq_true_of_le hc]]
   rfl
  .unfold splice
   have hlen:((rowC eP r).take (0+c*3)).length=c*3:=by
    rw[List.length_take,rowC_len eP_len]
    omega
   rw[List.append_assoc,List.take_left' hlen,Nat.zero_add,rowC_takeP r c (by omega)]
  .unfold splice
   rw[List.length_append,List.length_append,List.length_take,rowC_len eP_len]
   omega
 .rw[if_neg h]at g
  rw[filter_none P l h]
  refine⟨rowC eP l,?_,rowC_all eP_len l rfl,by rw[rowC_len eP_len];exact Nat.le_refl _⟩
  refine K.fn' hn140 _ rfl ((e140 ..).trans ?_)
  refine(askK_of g _).trans ?_
  simp only[ND,DK,unFn_fn]
  exact(br_eqT rfl).trans rfl
end
end Go.Proofs.YtpncilciembjdaaGreatDoor
namespace Go.Proofs.YtpncilciembjdaaGreatDoor
open Go.RowKit

def grpS:List (Int × Int)->Int × Int->List (Int × Int)
 |[],p=>if p.1<0 then [] else [p]
 |q::r,p=>if p.1<0 then q::r else if q.1=p.1 then(q.1,q.2+p.2)::r else p::q::r
theorem grpS_nil(p:Int × Int):grpS [] p=if p.1<0 then [] else [p]:=rfl
theorem grpS_cons(q:Int × Int)(r:List (Int × Int))(p:Int × Int):grpS (q::r) p=if p.1<0 then q::r else if q.1=p.1 then(q.1,q.2+p.2)::r else p::q::r:=rfl
structure GrpI (s t:List (Int × Int)):Prop where
 desc:s.Pairwise fun a b=>b.1<a.1
 pos:∀ q∈s,0<=q.1
 up:∀ q∈s,∀ p∈t,0<=p.1->q.1<=p.1
theorem grpS_coef(v:Int)(hv:0<=v):∀(s:List (Int × Int)) (p:Int × Int),coefL v (grpS s p)=coefL v s+(if p.1=v then p.2 else 0)
 |[],p=>by
  rw[grpS_nil]
  split
  .rw[if_neg (by omega)];simp[coefL]
  .simp[coefL]
 |q::r,p=>by
  rw[grpS_cons]
  split
  .rw[if_neg (by omega)];omega
  .split
   .rename_i h
    rw[coefL,coefL]
    simp only[h]
    split<;>omega
   .rw[coefL]
    omega
theorem grpS_inv{s t:List (Int × Int)}{p:Int × Int}(h:GrpI s (p::t))(ht:∀ x∈t,p.1<=x.1):GrpI (grpS s p) t:=by
 have ut:∀ q∈s,∀ x∈t,0<=x.1->q.1<=x.1:=fun q hq x hx=>h.up q hq x (List.mem_cons_of_mem _ hx)
 cases s with
 |nil=>
  rw[grpS_nil]
  split
  .exact⟨.nil,by simp,by simp⟩
  .exact⟨List.pairwise_singleton _ _,by simp;omega,fun q hq x hx _=>by rw[List.mem_singleton.1 hq];exact ht x hx⟩
 |cons q r=>
  have hd:=List.pairwise_cons.1 h.desc
  rw[grpS_cons]
  split
  .exact⟨h.desc,h.pos,ut⟩
  .rename_i hp
   split
   .refine⟨List.pairwise_cons.2 ⟨fun x hx=>hd.1 x hx,hd.2⟩,fun x hx=>?_,fun x hx y hy hy0=>?_⟩
    .rcases List.mem_cons.1 hx with rfl|hx
     .exact h.pos q (List.mem_cons_self ..)
     .exact h.pos x (List.mem_cons_of_mem _ hx)
    .rcases List.mem_cons.1 hx with rfl|hx
     .exact ut q (List.mem_cons_self ..) y hy hy0
     .exact ut x (List.mem_cons_of_mem _ hx) y hy hy0
   .rename_i hne
    have hq:=h.up q (List.mem_cons_self ..) p (List.mem_cons_self ..) (by omega)
    refine⟨List.pairwise_cons.2 ⟨fun x hx=>?_,h.desc⟩,fun x hx=>?_,fun x hx y hy hy0=>?_⟩
    .rcases List.mem_cons.1 hx with rfl|hx
     .omega
     .have:=hd.1 x hx;omega
    .rcases List.mem_cons.1 hx with rfl|hx
     .omega
     .exact h.pos x hx
    .rcases List.mem_cons.1 hx with rfl|hx
     .exact ht y hy
     .exact ut x hx y hy hy0
theorem grp_all:∀(t s:List (Int × Int)),t.Pairwise (fun a b=>a.1<=b.1)->GrpI s t->GrpI (t.foldl grpS s) []/\∀ v,0<=v->coefL v (t.foldl grpS s)=coefL v s+coefL v t
 |[],s,_,h=>⟨h,fun v _=>by simp[coefL]⟩
 |p::t,s,ht,h=>by
  have hp:=List.pairwise_cons.1 ht
  obtain⟨g1,g2⟩:=grp_all t (grpS s p) hp.2 (grpS_inv h hp.1)
  refine⟨g1,fun v hv=>?_⟩
  rw[List.foldl_cons,g2 v hv,grpS_coef v hv,coefL]
  omega
theorem coefL_nz(v:Int):∀ l:List (Int × Int),coefL v (l.filter fun p=>!decide (p.2=0))=coefL v l
 |[]=>rfl
 |p::r=>by
  have ih:=coefL_nz v r
  by_cases h:p.2=0
  .rw[List.filter_cons_of_neg (by simp[h]),ih,coefL,h]
   simp
  .rw[List.filter_cons_of_pos (by simp[h]),coefL,coefL,ih]
theorem grp_pln{t l:List (Int × Int)}(ht:t.Pairwise fun a b=>a.1<=b.1)(hp:t.Perm l):((t.foldl grpS []).reverse).filter (fun p=>!decide (p.2=0))=plnOf l:=by
 obtain⟨g1,g2⟩:=grp_all t [] ht ⟨.nil,by simp,by simp⟩
 refine plnOf_eq ⟨?_,fun p h=>?_,fun p h=>?_⟩ fun v hv=>?_
 .refine List.Pairwise.filter _ ?_
  rw[List.pairwise_reverse]
  exact g1.desc
 .have:=(List.mem_filter.1 h).1
  exact g1.pos p (List.mem_reverse.1 this)
 .simpa using (List.mem_filter.1 h).2
 .rw[coefL_nz,coefL_perm (List.reverse_perm _),g2 v hv,coefL_perm hp]
  simp[coefL]
theorem grpS_inb{k:Nat}{s:List (Int × Int)}{p:Int × Int}(hs:∀ q∈s,InB k q.2)(hp:InB k p.2):∀ q∈grpS s p,InB (k+1) q.2:=by
 cases s with
 |nil=>
  rw[grpS_nil]
  split
  .simp
  .intro q hq
   rw[List.mem_singleton.1 hq]
   exact hp.mono (by omega)
 |cons q r=>
  rw[grpS_cons]
  have hq:=hs q (List.mem_cons_self ..)
  have hr:∀ x∈r,InB (k+1) x.2:=fun x hx=>(hs x (List.mem_cons_of_mem _ hx)).mono (by omega)
  split
  .intro x hx
   rcases List.mem_cons.1 hx with rfl|hx
   .exact hq.mono (by omega)
   .exact hr x hx
  .split
   .intro x hx
    rcases List.mem_cons.1 hx with rfl|hx
    .exact InB.add hq hp
    .exact hr x hx
   .intro x hx
    rcases List.mem_cons.1 hx with rfl|hx
    .exact hp.mono (by omega)
    .rcases List.mem_cons.1 hx with rfl|hx
     .exact hq.mono (by omega)
     .exact hr x hx
theorem grpS_len(s:List (Int × Int))(p:Int × Int):(grpS s p).length<=s.length+1:=by
 cases s with
 |nil=>rw[grpS_nil];split<;>simp
 |cons q r=>
  rw[grpS_cons]
  split
  .simp
  .split<;>simp
end Go.Proofs.YtpncilciembjdaaGreatDoor
namespace Go.Proofs.YtpncilciembjdaaGreatDoor
open Go.RowKit

theorem r_conv32(x:Nat):realA.conv .u32 (x:Int)=((x % 4294967296:Nat):Int):=by
 show IntKind.u32.wrap (x:Int)=_
 rw[IntKind.wrap_u32]
 omega
theorem r_conv32s{x:Nat}(h:x<4294967296):realA.conv .u32 (x:Int)=(x:Int):=by rw[r_conv32,Nat.mod_eq_of_lt h]
theorem r_conv64{x:Nat}(h:x<18446744073709551616):realA.conv .u64 (x:Int)=(x:Int):=by
 show IntKind.u64.wrap (x:Int)=_
 rw[IntKind.wrap_u64]
 omega
theorem r_add64{x y:Nat}(h:x+y<18446744073709551616):realA.add .u64 (x:Int) (y:Int)=((x+y:Nat):Int):=by
 show IntKind.u64.wrap ((x:Int)+(y:Int))=_
 rw[IntKind.wrap_u64]
 omega
theorem r_sub64{x y:Nat}(h:y<=x)(h2:x<18446744073709551616):realA.sub .u64 (x:Int) (y:Int)=((x-y:Nat):Int):=by
 show IntKind.u64.wrap ((x:Int)-(y:Int))=_
 rw[IntKind.wrap_u64]
 omega
theorem r_mul64{x y:Nat}(h:x*y<18446744073709551616):realA.mul .u64 (x:Int) (y:Int)=((x*y:Nat):Int):=by
 show IntKind.u64.wrap ((x:Int)*(y:Int))=_
 rw[IntKind.wrap_u64,←Int.natCast_mul]
 omega
theorem r_shr32(x:Nat):realA.shr .u64 (x:Int) 32=((x / 4294967296:Nat):Int):=by
 show Int.fdiv (x:Int) (2 ^ 32)=_
 have:(2 ^ 32:Int)=((4294967296:Nat):Int):=by decide
 rw[this,Int.fdiv_eq_ediv_of_nonneg _ (by omega)]
 rfl
theorem subN{i j:Nat}(h:j<=i)(h2:i<4611686018427387904):realA.sub .i64 (i:Int) (j:Int)=((i-j:Nat):Int):=by
 rw[r_sub (by omega) (by omega)]
 omega
theorem addN{i j:Nat}(h2:i+j<4611686018427387904):realA.add .i64 (i:Int) (j:Int)=((i+j:Nat):Int):=by
 rw[r_add (by omega) (by omega)]
 omega
theorem cIk(kd:IntKind)(n:Int)(r:List AV)(k:Int->List AV->KR):cInt kd (.v (.int kd n)::r) k=k n r:=by simp[cInt]
theorem eL_u(n:Nat)(k:Int->List AV->KR)(r:List AV):cInt .u32 (.v (.int .u32 (n:Int))::r) k=k n r:=rfl
theorem wide_eL(l:List Nat):wideR 1 (l.map eL)=true:=wideR_map eL_len l
theorem one_eL(l:List Nat):oneL (catR (l.map eL))=true:=by rw[catR_map];exact oneL_row (fun _=>rfl) l
theorem noid_eL(l:List Nat):noidL (catR (l.map eL))=true:=by
 rw[catR_map]
 induction l with
 |nil=>rfl
 |cons x r ih=>exact ih
theorem take_map_eL(l:List Nat)(n:Nat):dropR (takeR (l.map eL) n) 0=(l.take n).map eL:=by
 rw[takeR_eq,dropR_eq,List.drop_zero,List.map_take]
theorem addL_len:∀(a b:List Nat) (c:Nat),(addL c a b).length=a.length+1
 |[],_,_=>rfl
 |x::a,b,c=>by rw[addL,List.length_cons,addL_len a,List.length_cons]
theorem cmpN_len{a b:Nat}(h:(natL a).length<(natL b).length):a<b:=by
 by_cases h2:a<b
 .exact h2
 .have h3:natL_limbs b=natL_limbs b:=rfl
  have h4:0<(natL b).length:=by omega
  have hb:4294967296 ^ ((natL b).length-1)<=b:=by
   by_cases h5:4294967296 ^ ((natL b).length-1)<=b
   .exact h5
   .have:=natL_len_le (n:=b) (k:=(natL b).length-1) (by omega)
    omega
  have h6:=le_natL_len (n:=a) (k:=(natL b).length-1) (by omega)
  omega
def SmL(l:List Nat):Prop:=l.length<=1000000000
theorem natL_sm{l:List Nat}(h:Limbs l)(h2:SmL l):SmL (natL (valL l)):=by
 unfold SmL at *
 rw[natL_len l h]
 have:=topL_le l
 omega
structure CloneF (D:Orc):Prop where
 nat:∀ l:List Nat,SmL l->D.ask (.fn 236) [eN l] []=some (.sl 0 0 l.length 1,[.set (ABlk.mk (rowC eL l) true true)])
theorem clone_ans{l:List Nat}(h:SmL l):ownD 1 (resClone 1 4) [eN l] []=some (.sl 0 0 l.length 1,[.set (ABlk.mk (rowC eL l) true true)]):=by
 unfold ownD resClone eN
 have h4:Nat.ble (lenR (l.map eL)*4) 140737488355328=true:=by
  rw[lenR_map]
  unfold SmL at h
  simp
  omega
 simp only[wide_eL,one_eL,noid_eL,h4,Bool.and_true,if_true,Option.map_some]
 rw[lenR_map,catR_map]
section
variable {D:Orc} (K:Knows ownC tabNa D)
include K
theorem trim_lp(l:List Nat)(hl:SmL l):∀(n:Nat),n<=l.length->topL l<=n->D.ask (.lp 200 0) [eN l,iv (n:Int)] []=some (.tup [iv 0,eN l,iv (topL l:Int)],[]):=by
 intro n
 have hl':=hl
 unfold SmL at hl'
 induction n with
 |zero=>
  intro _ ht
  refine K.lp' hn200 _ rfl (by kernel_rfl) ((e200_0 ..).trans ?_)
  refine(br_ltF (by omega)).trans ?_
  rw[show topL l=0 by omega]
  rfl
 |succ n ih=>
  intro hn ht
  refine K.lp' hn200 _ rfl (by kernel_rfl) ((e200_0 ..).trans ?_)
  refine(br_ltT (by omega)).trans ?_
  rw[show realA.sub .i64 ((n+1:Nat):Int) 1=(n:Int) from (subN (i:=n+1) (j:=1) (by omega) (by omega)).trans (by simp)]
  rw[unI_n,nthK_some (List.getElem?_eq_getElem (show n<l.length by omega))]
  simp only[eL,eL_u,ND,DK,unFn_fn]
  by_cases h0:l[n]=0
  .refine(br_eqT (by rw[h0];rfl)).trans ?_
   refine(askK_of (ih (by omega) (topL_down ht (by rw[List.getElem?_eq_getElem (show n<l.length by omega),h0]))) _).trans ?_
   rfl
  .refine(br_eqF (by omega)).trans ?_
   have:=topL_ge (List.getElem?_eq_getElem (show n<l.length by omega)) h0
   rw[show topL l=n+1 by omega]
   rfl
theorem trim_ok{l:List Nat}(hl:SmL l)(h:Limbs l):D.ask (.fn 200) [eN l] []=some (eN (natL (valL l)),[]):=by
 refine K.fn' hn200 _ rfl ((e200 ..).trans ?_)
 rw[lenR_map]
 refine(askK_of (trim_lp K l hl _ (Nat.le_refl _) (topL_le l)) _).trans ?_
 simp only[eN,ND,DK,unFn_fn]
 rw[unI_n,lenR_map,wide_eL,take_map_eL,take_top h]
 rw[show inB 0 (topL l) l.length=true by unfold inB;rw[show Nat.ble 0 (topL l)=true by simp];simpa using topL_le l]
 rfl
variable (C:CloneF D)
include C
theorem Trim_ok{l:List Nat}(hl:SmL l)(h:Limbs l):D.ask (.fn 202) [eN l] []=some (eN (natL (valL l)),[]):=by
 refine K.fn' hn202 _ rfl ((e202 ..).trans ?_)
 refine(askK_of (trim_ok K hl h) _).trans ?_
 simp only[eN,ND,DK,unFn_fn]
 have g:=C.nat _ (natL_sm h hl)
 unfold eN at g
 refine(askK_of g _).trans ?_
 simp only[ND,DK,unFn_fn]
 rw[ble_row eL_len _ (by omega)]
 refine(br_t _ _).trans ?_
 rw[chunk_of eL_len _ rfl]
theorem Of_ok(n:Nat)(h:n<18446744073709551616):D.ask (.fn 184) [.v (.int .u64 (n:Int))] []=some (eN (natL n),[]):=by
 refine K.fn' hn184 _ rfl ((e184 ..).trans ?_)
 refine(br_ltF (by decide)).trans ?_
 rw[r_conv32,r_shr32,r_conv32]
 have hl:Limbs [n % 4294967296,n / 4294967296 % 4294967296]:=limbs_cons (Nat.mod_lt _ (by omega)) (limbs_cons (Nat.mod_lt _ (by omega)) limbs_nil)
 have g:=Trim_ok K C (l:=[n % 4294967296,n / 4294967296 % 4294967296]) (by unfold SmL;simp) hl
 rw[show valL [n % 4294967296,n / 4294967296 % 4294967296]=n by simp only[valL];omega]at g
 refine(askK_of g _).trans ?_
 rfl
omit C in
theorem Cmp_lp(a b:List Nat)(ha:Limbs a)(hb:Limbs b)(hab:a.length=b.length)(hs:SmL a):∀(n:Nat),n<=a.length->D.ask (.lp 201 0) [eN a,eN b,iv ((n:Int)-1)] []
  = some (if cmpN (valL (a.take n)) (valL (b.take n))=0 then .tup [iv 1] else .tup [bv true,iv (cmpN (valL (a.take n)) (valL (b.take n)))],[]):=by
 intro n
 unfold SmL at hs
 induction n with
 |zero=>
  intro _
  refine K.lp' hn201 _ rfl (by kernel_rfl) ((e201_0 ..).trans ?_)
  refine(br_leF (by omega)).trans ?_
  rfl
 |succ n ih=>
  intro hn
  refine K.lp' hn201 _ rfl (by kernel_rfl) ((e201_0 ..).trans ?_)
  rw[show (((n+1:Nat):Int)-1)=(n:Int) by omega]
  refine(br_leT (by omega)).trans ?_
  have h1:n<a.length:=by omega
  have h2:n<b.length:=by omega
  have e1:a.take (n+1)=a.take n++[a[n]]:=by rw[List.take_succ_eq_append_getElem h1]
  have e2:b.take (n+1)=b.take n++[b[n]]:=by rw[List.take_succ_eq_append_getElem h2]
  rw[e1,e2,cmp_snoc (ha.take n) (hb.take n) (by simp;omega)]
  simp only[unI_n,nthK_some (List.getElem?_eq_getElem h1),nthK_some (List.getElem?_eq_getElem h2),eL,eL_u,ND,DK,unFn_fn]
  by_cases h3:a[n]<b[n]
  .refine(br_ltT (by omega)).trans ?_
   rw[if_pos h3]
   rfl
  .refine(br_ltF (by omega)).trans ?_
   rw[if_neg h3]
   by_cases h4:b[n]<a[n]
   .refine(br_ltT (by omega)).trans ?_
    rw[if_pos h4]
    rfl
   .refine(br_ltF (by omega)).trans ?_
    rw[if_neg h4]
    rw[show realA.sub .i64 (n:Int) 1=(n:Int)-1 from r_sub (by omega) (by omega)]
    refine(askK_of (ih (by omega)) _).trans ?_
    by_cases h5:cmpN (valL (a.take n)) (valL (b.take n))=0
    .rw[if_pos h5];rfl
    .rw[if_neg h5];rfl
omit C in
theorem Cmp_ok{a b:List Nat}(hsa:SmL a)(ha:Limbs a)(hsb:SmL b)(hb:Limbs b):D.ask (.fn 201) [eN a,eN b] []=some (iv (cmpN (valL a) (valL b)),[]):=by
 have s1:=natL_sm ha hsa
 have s2:=natL_sm hb hsb
 unfold SmL at s1 s2
 refine K.fn' hn201 _ rfl ((e201 ..).trans ?_)
 refine(askK_of (trim_ok K hsa ha) _).trans ?_
 simp only[eN,ND,DK,unFn_fn]
 refine(askK_of (trim_ok K hsb hb) _).trans ?_
 simp only[eN,ND,DK,unFn_fn,lenR_map]
 generalize valL a=x at *
 generalize valL b=y at *
 by_cases h1:(natL x).length<(natL y).length
 .refine(br_ltT (by omega)).trans ?_
  have:=cmpN_len h1
  unfold cmpN
  rw[if_pos this]
 .refine(br_ltF (by omega)).trans ?_
  by_cases h2:(natL y).length<(natL x).length
  .refine(br_ltT (by omega)).trans ?_
   have:=cmpN_len h2
   unfold cmpN
   rw[if_neg (by omega),if_pos this]
  .refine(br_ltF (by omega)).trans ?_
   have hx:(natL x).length=(natL y).length:=by omega
   have g:=Cmp_lp K (natL x) (natL y) (natL_limbs x) (natL_limbs y) hx s1 (natL x).length (Nat.le_refl _)
   rw[List.take_length,hx,List.take_length,valL_natL,valL_natL]at g
   rw[show realA.sub .i64 ((natL x).length:Int) 1=((natL x).length:Int)-1 from r_sub (by omega) (by omega),hx]
   refine(askK_of g _).trans ?_
   by_cases h5:cmpN x y=0
   .rw[if_pos h5,h5];rfl
   .rw[if_neg h5];rfl
omit C in
theorem Add_lp(b:List Nat)(hb:Limbs b)(a:List Nat)(ha:Limbs a)(hs:SmL a):∀(k i:Nat) (out:List Nat) (c:Nat),a.length-i=k->i<=a.length->b.length<=a.length->c<=1->out.length+k<=2000000000->
  ∃(o:List Nat) (c':Nat),D.ask (.lp 197 0) [eN b,.sl 0 0 out.length 1,.v (.int .u64 (c:Int)),eN a,iv (a.length:Int),iv (i:Int)] [ABlk.mk (rowC eL out) true true]
   = some (.tup [iv 0,.sl 1 0 o.length 1,.v (.int .u64 (c':Int))],[.del,.set (ABlk.mk (rowC eL o) true true)])/\c'<=1/\o++[c']=out++addL c (a.drop i) (b.drop i):=by
 intro k
 unfold SmL at hs
 induction k with
 |zero=>
  intro i out c hi hle hba hc ho
  refine⟨out,c,?_,hc,?_⟩
  .refine K.lp' hn197 _ rfl (by kernel_rfl) ((e197_0 ..).trans ?_)
   refine(br_ltF (by omega)).trans ?_
   rfl
  .rw[show a.drop i=[] from List.drop_eq_nil_of_le (by omega)]
   rfl
 |succ k ih=>
  intro i out c hi hle hba hc ho
  have hlt:i<a.length:=by omega
  have hx:=ha.get hlt
  have hbd:=headD_lt (hb.drop i)
  have hdt:(b.drop i).tail=b.drop (i+1):=by rw[List.tail_drop]
  rw[show a.drop i=a[i]::a.drop (i+1) from List.drop_eq_getElem_cons hlt]
  obtain⟨o,c',h1,h2,h3⟩:=ih (i+1) (out++[(a[i]+(b.drop i).headD 0+c) % 4294967296]) ((a[i]+(b.drop i).headD 0+c) / 4294967296) (by omega) (by omega) hba (by omega) (by simp;omega)
  refine⟨o,c',?_,h2,?_⟩
  .refine K.lp' hn197 _ rfl (by kernel_rfl) ((e197_0 ..).trans ?_)
   refine(br_ltT (by omega)).trans ?_
   rw[unI_n,nthK_some (List.getElem?_eq_getElem hlt)]
   have hf:fitsB (out.length+1) 4=true:=fits_small (by omega) (by omega)
   have hb1:Nat.ble (0+out.length*1) (rowC eL out).length=true:=ble_row eL_len out (by omega)
   have e3:∀ s:Nat,List.drop 0 (List.take (0+out.length*1) (rowC eL out))++[.v (.int .u32 (s:Int))]=rowC eL (out++[s]):=fun s=>by
    rw[List.drop_zero,rowC_all eL_len out (by omega)]
    exact rowC_snoc eL out s
   rw[List.length_append,List.length_singleton]at h1
   simp only[eL,eL_u,ND,DK,unFn_fn,lenR_map]
   rw[add1 (by omega)]
   by_cases hib:i<b.length
   .have hd:(b.drop i).headD 0=b[i]:=by rw[List.drop_eq_getElem_cons hib];rfl
    rw[hd]at h1 hbd
    refine(br_ltT (by omega)).trans ?_
    rw[unI_n,nthK_some (List.getElem?_eq_getElem hib)]
    simp only[eL,eL_u,ND,DK,unFn_fn]
    rw[r_conv64 (by omega),r_conv64 (by omega),r_add64 (by omega),r_add64 (by omega),r_conv32,r_shr32,hf,hb1,e3]
    rw[show a[i]+c+b[i]=a[i]+b[i]+c by omega]
    refine(br_t _ _).trans ?_
    refine(br_t _ _).trans ?_
    refine(br_ltF (by decide)).trans ?_
    refine(askK_of h1 _).trans ?_
    rfl
   .have hd:(b.drop i).headD 0=0:=by rw[List.drop_eq_nil_of_le (by omega)];rfl
    rw[hd]at h1
    refine(br_ltF (by omega)).trans ?_
    rw[r_conv64 (by omega),r_add64 (by omega),r_conv32,r_shr32,hf,hb1,e3]
    rw[show a[i]+c=a[i]+0+c by omega]
    refine(br_t _ _).trans ?_
    refine(br_t _ _).trans ?_
    refine(br_ltF (by decide)).trans ?_
    refine(askK_of h1 _).trans ?_
    rfl
  .rw[h3,addL,hdt,List.append_assoc]
   rfl
theorem Add_ok{a b:List Nat}(hsa:a.length<=999999999)(ha:Limbs a)(hsb:b.length<=999999999)(hb:Limbs b):D.ask (.fn 197) [eN a,eN b] []=some (eN (natL (valL a+valL b)),[]):=by
 have s1:=natL_sm ha (by unfold SmL;omega)
 have s2:=natL_sm hb (by unfold SmL;omega)
 have t1:(natL (valL a)).length<=999999999:=by rw[natL_len a ha];have:=topL_le a;omega
 have t2:(natL (valL b)).length<=999999999:=by rw[natL_len b hb];have:=topL_le b;omega
 refine K.fn' hn197 _ rfl ((e197 ..).trans ?_)
 refine(askK_of (trim_ok K (by unfold SmL;omega) ha) _).trans ?_
 simp only[eN,ND,DK,unFn_fn]
 refine(askK_of (trim_ok K (by unfold SmL;omega) hb) _).trans ?_
 simp only[eN,ND,DK,unFn_fn,lenR_map]
 generalize valL a=x at *
 generalize valL b=y at *
 by_cases h1:(natL x).length<(natL y).length
 .refine(br_ltT (by omega)).trans ?_
  have hl:Limbs (addL 0 (natL y) (natL x)):=addL_limbs _ _ _ (natL_limbs _) (natL_limbs _) (by omega)
  obtain⟨o,c',g,hc,ho⟩:=Add_lp K (natL x) (natL_limbs x) (natL y) (natL_limbs y) s2 (natL y).length 0 [] 0 (by omega) (by omega) (by omega) (by omega) (by unfold SmL at s2;simp;omega)
  rw[List.nil_append,List.drop_zero,List.drop_zero]at ho
  have hol:o.length=(natL y).length:=by
   have:=congrArg List.length ho
   rw[List.length_append,addL_len]at this
   simpa using this
  have hsx:=s2
  unfold SmL at hsx
  rw[show realA.add .i64 ((natL y).length:Int) 1=(((natL y).length+1:Nat):Int) from add1 (by omega),unI_n]
  rw[fits_small (n:=(natL y).length+1) (b:=4) (by omega) (by omega)]
  refine(br_t _ _).trans ?_
  refine(askK_of g _).trans ?_
  simp only[cIk,ND,DK,unFn_fn]
  rw[r_conv32s (by omega)]
  have e3:List.drop 0 (List.take (0+o.length*1) (rowC eL o))++[.v (.int .u32 (c':Int))]=rowC eL (o++[c']):=by
   rw[List.drop_zero,rowC_all eL_len o (by omega)]
   exact rowC_snoc eL o c'
  rw[fits_small (n:=o.length+1) (b:=4) (by omega) (by omega),ble_row eL_len o (by omega),e3,ble_row eL_len (o++[c']) (by simp)]
  refine(br_t _ _).trans ?_
  refine(br_t _ _).trans ?_
  refine(br_t _ _).trans ?_
  rw[List.drop_zero,rowC_all eL_len (o++[c']) (by simp),show chunk (o.length+1) 1 (rowC eL (o++[c']))=(o++[c']).map eL from by have:=chunk_row eL_len (o++[c']);rwa [List.length_append]at this]
  rw[ho]
  have gt:=Trim_ok K C (l:=addL 0 (natL y) (natL x)) (by unfold SmL;rw[addL_len];omega) hl
  rw[valL_addL _ _ _ (by omega),valL_natL,valL_natL]at gt
  refine(askK_of gt _).trans ?_
  rw[show 0+y+x=x+y by omega]
  rfl
 .refine(br_ltF (by omega)).trans ?_
  have hl:Limbs (addL 0 (natL x) (natL y)):=addL_limbs _ _ _ (natL_limbs _) (natL_limbs _) (by omega)
  obtain⟨o,c',g,hc,ho⟩:=Add_lp K (natL y) (natL_limbs y) (natL x) (natL_limbs x) s1 (natL x).length 0 [] 0 (by omega) (by omega) (by omega) (by omega) (by unfold SmL at s1;simp;omega)
  rw[List.nil_append,List.drop_zero,List.drop_zero]at ho
  have hol:o.length=(natL x).length:=by
   have:=congrArg List.length ho
   rw[List.length_append,addL_len]at this
   simpa using this
  have hsx:=s1
  unfold SmL at hsx
  rw[show realA.add .i64 ((natL x).length:Int) 1=(((natL x).length+1:Nat):Int) from add1 (by omega),unI_n]
  rw[fits_small (n:=(natL x).length+1) (b:=4) (by omega) (by omega)]
  refine(br_t _ _).trans ?_
  refine(askK_of g _).trans ?_
  simp only[cIk,ND,DK,unFn_fn]
  rw[r_conv32s (by omega)]
  have e3:List.drop 0 (List.take (0+o.length*1) (rowC eL o))++[.v (.int .u32 (c':Int))]=rowC eL (o++[c']):=by
   rw[List.drop_zero,rowC_all eL_len o (by omega)]
   exact rowC_snoc eL o c'
  rw[fits_small (n:=o.length+1) (b:=4) (by omega) (by omega),ble_row eL_len o (by omega),e3,ble_row eL_len (o++[c']) (by simp)]
  refine(br_t _ _).trans ?_
  refine(br_t _ _).trans ?_
  refine(br_t _ _).trans ?_
  rw[List.drop_zero,rowC_all eL_len (o++[c']) (by simp),show chunk (o.length+1) 1 (rowC eL (o++[c']))=(o++[c']).map eL from by have:=chunk_row eL_len (o++[c']);rwa [List.length_append]at this]
  rw[ho]
  have gt:=Trim_ok K C (l:=addL 0 (natL x) (natL y)) (by unfold SmL;rw[addL_len];omega) hl
  rw[valL_addL _ _ _ (by omega),valL_natL,valL_natL]at gt
  refine(askK_of gt _).trans ?_
  rw[show 0+x+y=x+y by omega]
  rfl
omit C in
theorem Sub_lp(b:List Nat)(hb:Limbs b)(a:List Nat)(ha:Limbs a)(hs:SmL a):∀(k i:Nat) (out:List Nat) (c:Nat),a.length-i=k->i<=a.length->c<=1->out.length+k<=2000000000->
  D.ask (.lp 198 0) [eN b,.sl 0 0 out.length 1,.v (.int .u64 (c:Int)),eN a,iv (a.length:Int),iv (i:Int)] [ABlk.mk (rowC eL out) true true]
   = some (.tup [iv 0,.sl 1 0 (out++subL c (a.drop i) (b.drop i)).length 1],[.del,.set (ABlk.mk (rowC eL (out++subL c (a.drop i) (b.drop i))) true true)]):=by
 intro k
 unfold SmL at hs
 induction k with
 |zero=>
  intro i out c hi hle hc ho
  refine K.lp' hn198 _ rfl (by kernel_rfl) ((e198_0 ..).trans ?_)
  refine(br_ltF (by omega)).trans ?_
  rw[show a.drop i=[] from List.drop_eq_nil_of_le (by omega)]
  simp only[subL,List.append_nil]
  all_goals rfl
 |succ k ih=>
  intro i out c hi hle hc ho
  have hlt:i<a.length:=by omega
  have hx:=ha.get hlt
  have hbd:=headD_lt (hb.drop i)
  have hdt:(b.drop i).tail=b.drop (i+1):=by rw[List.tail_drop]
  rw[show a.drop i=a[i]::a.drop (i+1) from List.drop_eq_getElem_cons hlt,subL,hdt]
  have h1:=ih (i+1) (out++[if a[i]<(b.drop i).headD 0+c then a[i]+4294967296-((b.drop i).headD 0+c) else a[i]-((b.drop i).headD 0+c)]) (if a[i]<(b.drop i).headD 0+c then 1 else 0) (by omega) (by omega) (by split<;>omega) (by simp;omega)
  rw[List.append_assoc,List.length_append,List.length_singleton]at h1
  refine K.lp' hn198 _ rfl (by kernel_rfl) ((e198_0 ..).trans ?_)
  refine(br_ltT (by omega)).trans ?_
  rw[unI_n,nthK_some (List.getElem?_eq_getElem hlt)]
  have hf:fitsB (out.length+1) 4=true:=fits_small (by omega) (by omega)
  have hb1:Nat.ble (0+out.length*1) (rowC eL out).length=true:=ble_row eL_len out (by omega)
  have e3:∀ s:Nat,List.drop 0 (List.take (0+out.length*1) (rowC eL out))++[.v (.int .u32 (s:Int))]=rowC eL (out++[s]):=fun s=>by
   rw[List.drop_zero,rowC_all eL_len out (by omega)]
   exact rowC_snoc eL out s
  simp only[eL,eL_u,ND,DK,unFn_fn,lenR_map]
  rw[add1 (by omega)]
  by_cases hib:i<b.length
  .have hd:(b.drop i).headD 0=b[i]:=by rw[List.drop_eq_getElem_cons hib];rfl
   rw[hd]at h1 hbd
   rw[hd]
   refine(br_ltT (by omega)).trans ?_
   rw[unI_n,nthK_some (List.getElem?_eq_getElem hib)]
   simp only[eL,eL_u,ND,DK,unFn_fn]
   rw[r_conv64 (show a[i]<_ by omega),r_conv64 (show b[i]<_ by omega),r_add64 (by omega)]
   by_cases hlt2:a[i]<b[i]+c
   .refine(br_ltT (by omega)).trans ?_
    rw[if_pos hlt2,if_pos hlt2]at h1
    rw[if_pos hlt2,if_pos hlt2]
    rw[show (4294967296:Int)=((4294967296:Nat):Int) from rfl,r_add64 (by omega),show c+b[i]=b[i]+c by omega,r_sub64 (by omega) (by omega),r_conv32s (by omega),hf,hb1,e3]
    refine(br_t _ _).trans ?_
    refine(br_t _ _).trans ?_
    refine(askK_of h1 _).trans ?_
    rfl
   .refine(br_ltF (by omega)).trans ?_
    rw[if_neg hlt2,if_neg hlt2]at h1
    rw[if_neg hlt2,if_neg hlt2]
    rw[show c+b[i]=b[i]+c by omega,r_sub64 (by omega) (by omega),r_conv32s (by omega),hf,hb1,e3]
    refine(br_t _ _).trans ?_
    refine(br_t _ _).trans ?_
    refine(askK_of h1 _).trans ?_
    rfl
  .have hd:(b.drop i).headD 0=0:=by rw[List.drop_eq_nil_of_le (by omega)];rfl
   rw[hd]at h1
   rw[hd]
   refine(br_ltF (by omega)).trans ?_
   rw[r_conv64 (show a[i]<_ by omega)]
   rw[Nat.zero_add]at h1
   simp only[show (0:Nat)+c=c by omega]
   by_cases hlt2:a[i]<c
   .refine(br_ltT (by omega)).trans ?_
    rw[if_pos hlt2,if_pos hlt2]at h1
    rw[if_pos hlt2,if_pos hlt2]
    rw[show (4294967296:Int)=((4294967296:Nat):Int) from rfl,r_add64 (by omega),r_sub64 (by omega) (by omega),r_conv32s (by omega),hf,hb1,e3]
    refine(br_t _ _).trans ?_
    refine(br_t _ _).trans ?_
    refine(askK_of h1 _).trans ?_
    rfl
   .refine(br_ltF (by omega)).trans ?_
    rw[if_neg hlt2,if_neg hlt2]at h1
    rw[if_neg hlt2,if_neg hlt2]
    rw[r_sub64 (by omega) (by omega),r_conv32s (by omega),hf,hb1,e3]
    refine(br_t _ _).trans ?_
    refine(br_t _ _).trans ?_
    refine(askK_of h1 _).trans ?_
    rfl
def eSubN(x y:Nat):AV:=if y<=x then .tup [eN (natL (x-y)),bv true] else .tup [eN [],bv false]
theorem Sub_ok{a b:List Nat}(hsa:SmL a)(ha:Limbs a)(hsb:SmL b)(hb:Limbs b):D.ask (.fn 198) [eN a,eN b] []=some (eSubN (valL a) (valL b),[]):=by
 have s1:=natL_sm ha hsa
 have s2:=natL_sm hb hsb
 refine K.fn' hn198 _ rfl ((e198 ..).trans ?_)
 refine(askK_of (trim_ok K hsa ha) _).trans ?_
 simp only[eN,ND,DK,unFn_fn]
 refine(askK_of (trim_ok K hsb hb) _).trans ?_
 simp only[eN,ND,DK,unFn_fn,lenR_map]
 have gc:=Cmp_ok K s1 (natL_limbs _) s2 (natL_limbs _)
 rw[valL_natL,valL_natL]at gc
 refine(askK_of gc _).trans ?_
 simp only[ND,DK,unFn_fn]
 generalize valL a=x at *
 generalize valL b=y at *
 unfold eSubN
 unfold SmL at s1 s2
 by_cases h1:x<y
 .rw[show cmpN x y=-1 by unfold cmpN;rw[if_pos h1]]
  refine(br_ltT (by decide)).trans ?_
  rw[if_neg (by omega)]
  rfl
 .refine(br_ltF (by unfold cmpN;rw[if_neg h1];split<;>omega)).trans ?_
  rw[if_pos (by omega)]
  have hle:(natL y).length<=(natL x).length:=by
   by_cases h:(natL x).length<(natL y).length
   .have:=cmpN_len h;omega
   .omega
  rw[fits_small (n:=(natL x).length) (b:=4) (by omega) (by omega)]
  refine(br_t _ _).trans ?_
  have g:=Sub_lp K (natL y) (natL_limbs y) (natL x) (natL_limbs x) s1 (natL x).length 0 [] 0 (by omega) (by omega) (by omega) (by simp;omega)
  refine(askK_of g _).trans ?_
  simp only[ND,DK,unFn_fn,List.drop_zero,List.nil_append]
  rw[ble_row eL_len _ (by omega)]
  refine(br_t _ _).trans ?_
  rw[chunk_of eL_len _ rfl]
  have gt:=Trim_ok K C (l:=subL 0 (natL x) (natL y)) (by unfold SmL;rw[subL_len];exact s1) (subL_limbs _ _ _ (natL_limbs _) (natL_limbs _) (by omega))
  rw[valL_sub (natL_limbs _) (natL_limbs _) hle (by rw[valL_natL,valL_natL];omega),valL_natL,valL_natL]at gt
  refine(askK_of gt _).trans ?_
  rfl
end
end Go.Proofs.YtpncilciembjdaaGreatDoor
namespace Go.Proofs.YtpncilciembjdaaGreatDoor
open Go.RowKit

def eC(n:Nat):AV:=.v (.int .u32 (n:Int))
theorem rowC_eL:∀ l:List Nat,rowC eL l=l.map eC
 |[]=>rfl
 |x::r=>by
  have ih:=rowC_eL r
  unfold rowC at ih ⊢
  rw[List.flatMap_cons,ih]
  rfl
theorem splice_eL(l:List Nat)(i v:Nat)(h:i<l.length):splice (rowC eL l) (0+i*1) [.v (.int .u32 (v:Int))]=rowC eL (l.set i v):=by
 rw[rowC_eL,rowC_eL,List.set_eq_take_append_cons_drop,if_pos h]
 unfold splice
 simp only[Nat.zero_add,Nat.mul_one,List.map_append,List.map_cons,List.map_take,List.map_drop,List.length_singleton]
 rw[List.append_assoc]
 rfl
theorem rdK_eL(l:List Nat)(i:Nat)(h:i<l.length)(k:List AV->KR):rdK (rowC eL l) (0+i*1) 1 k=k [.v (.int .u32 (l[i]:Int))]:=by
 have hx:(rowC eL l)[i]? = some (.v (.int .u32 (l[i]:Int))):=by
  rw[rowC_eL,List.getElem?_map,List.getElem?_eq_getElem h]
  rfl
 obtain⟨hl,hx⟩:=List.getElem?_eq_some_iff.1 hx
 unfold rdK
 have:Nat.ble (0+i*1+1) (rowC eL l).length=true:=by simp;omega
 rw[this]
 simp only[Nat.zero_add,Nat.mul_one]
 rw[List.drop_eq_getElem_cons hl,hx]
 rfl
theorem zeros_eL(n:Nat):zeros [.v (.int .u32 0)] (n*1)=rowC eL (List.replicate n 0):=by
 rw[rowC_eL,Nat.mul_one]
 unfold zeros
 rw[List.map_replicate]
 refine List.ext_getElem (by simp) fun i h1 h2=>?_
 simp[Nat.mod_one,eC]
theorem mulR_drop:∀(x:Nat) (b o:List Nat) (c:Nat),(mulR x c b o).drop (b.length+1)=o.drop (b.length+1)
 |x,[],o,c=>by
  rw[mulR]
  cases o<;>simp
 |x,y::b,o,c=>by
  rw[mulR,List.length_cons,List.drop_succ_cons,mulR_drop x b o.tail]
  cases o with
  |nil=>simp
  |cons z o=>rfl
def ZeroFrom(j:Nat)(l:List Nat):Prop:=∀ y∈l.drop j,y=0
theorem zero_head{j:Nat}{l:List Nat}(h:ZeroFrom j l):(l.drop j).headD 0=0:=by
 unfold ZeroFrom at h
 cases e:l.drop j with
 |nil=>rfl
 |cons z r=>
  rw[e]at h
  exact h z (List.mem_cons_self ..)
theorem blt_true{a b:Nat}(h:a<b):Nat.blt a b=true:=by simpa using h
section
variable {D:Orc} (K:Knows ownC tabNa D)
include K
theorem school_in(a b:List Nat)(hb:Limbs b)(i:Nat)(hi:i<a.length)(hsz:a.length+b.length<=1000000000)(x:Nat)(hx:x<4294967296):∀(m k:Nat) (out:List Nat) (c:Nat),b.length-k=m->k<=b.length->Limbs out->c<4294967296->out.length=a.length+b.length->
  ∃(o:List Nat) (c':Nat),D.ask (.lp 243 1) [eN b,.sl 0 0 out.length 1,iv (i:Int),.v (.int .u32 (x:Int)),.v (.int .u64 (c:Int)),eN a,iv (a.length:Int),iv (i:Int),eN b,iv (b.length:Int),iv (k:Int)] [ABlk.mk (rowC eL out) true true]
   = some (.tup [iv 2,eN b,.sl 1 0 out.length 1,iv (i:Int),.v (.int .u64 (c':Int)),eN a,iv (a.length:Int),iv (i:Int)],[.del,.set (ABlk.mk (rowC eL o) true true)])
   ∧ c'<4294967296/\Limbs o/\o.length=out.length/\o.set (i+b.length) c'=out.take (i+k)++mulR x c (b.drop k) (out.drop (i+k)):=by
 intro m
 induction m with
 |zero=>
  intro k out c hm hk ho hc hlen
  obtain rfl:k=b.length:=by omega
  refine⟨out,c,?_,hc,ho,rfl,?_⟩
  .refine K.lp' hn243 _ rfl (by kernel_rfl) ((e243_1 ..).trans ?_)
   refine(br_ltF (by omega)).trans ?_
   rfl
  .rw[List.drop_length,mulR,List.set_eq_take_append_cons_drop,if_pos (by omega),List.tail_drop]
 |succ m ih=>
  intro k out c hm hk ho hc hlen
  have hlt:k<b.length:=by omega
  have hik:i+k<out.length:=by omega
  have hy:=hb.get hlt
  have hz:=ho.get hik
  have hp:=mul_lt hx hy
  have hd:(out.drop (i+k)).headD 0=out[i+k]:=by rw[List.drop_eq_getElem_cons hik];rfl
  obtain⟨o,c',h1,h2,h3,h4,h5⟩:=ih (k+1) (out.set (i+k) ((x*b[k]+out[i+k]+c) % 4294967296)) ((x*b[k]+out[i+k]+c) / 4294967296) (by omega) (by omega)
   (fun z hz'=>by
    rcases List.mem_or_eq_of_mem_set hz' with h|h
    .exact ho z h
    .rw[h];exact Nat.mod_lt _ (by omega)) (by omega) (by rw[List.length_set];exact hlen)
  rw[List.length_set]at h1 h4
  refine⟨o,c',?_,h2,h3,h4,?_⟩
  .refine K.lp' hn243 _ rfl (by kernel_rfl) ((e243_1 ..).trans ?_)
   refine(br_ltT (by omega)).trans ?_
   rw[unI_n,nthK_some (List.getElem?_eq_getElem hlt)]
   simp only[eL,cIk,ND,DK,unFn_fn]
   rw[addN (by omega),unI_n,blt_true hik]
   refine(br_t _ _).trans ?_
   refine(rdK_eL out _ hik _).trans ?_
   simp only[cIk,ND,DK,unFn_fn]
   rw[unI_n,blt_true hik]
   refine(br_t _ _).trans ?_
   rw[show Nat.ble (0+(i+k)*1+1) (rowC eL out).length=true by rw[rowC_len eL_len];simp;omega]
   refine(br_t _ _).trans ?_
   refine(br_ltF (by decide)).trans ?_
   rw[r_conv64 (show x<_ by omega),r_conv64 (show b[k]<_ by omega),r_conv64 (show out[i+k]<_ by omega),r_mul64 (by omega),r_add64 (by omega),r_add64 (by omega),r_conv32,r_shr32,splice_eL _ _ _ hik,add1 (by omega)]
   refine(askK_of h1 _).trans ?_
   rfl
  .rw[h5,List.drop_eq_getElem_cons hlt,mulR,hd]
   have e1:List.take (i+(k+1)) (out.set (i+k) ((x*b[k]+out[i+k]+c) % 4294967296))=out.take (i+k)++[(x*b[k]+out[i+k]+c) % 4294967296]:=by
    rw[show i+(k+1)=i+k+1 by omega,List.take_succ_eq_append_getElem (by rw[List.length_set];exact hik),List.getElem_set_self,List.take_set_of_le (Nat.le_refl _)]
   have e2:List.drop (i+(k+1)) (out.set (i+k) ((x*b[k]+out[i+k]+c) % 4294967296))=(out.drop (i+k)).tail:=by
    rw[List.drop_set_of_lt (by omega),List.tail_drop]
    rfl
   rw[e1,e2,List.append_assoc]
   rfl
theorem school_lp(a b:List Nat)(ha:Limbs a)(hb:Limbs b)(hsz:a.length+b.length<=1000000000):∀(m i:Nat) (out:List Nat),a.length-i=m->i<=a.length->Limbs out->out.length=a.length+b.length->ZeroFrom (i+b.length) out->
  ∃ o:List Nat,D.ask (.lp 243 0) [eN b,.sl 0 0 out.length 1,eN a,iv (a.length:Int),iv (i:Int)] [ABlk.mk (rowC eL out) true true]=some (.tup [iv 0,.sl 1 0 o.length 1],[.del,.set (ABlk.mk (rowC eL o) true true)])
   ∧ Limbs o/\o.length=out.length/\valL o=valL out+4294967296 ^ i*valL (a.drop i)*valL b:=by
 intro m
 induction m with
 |zero=>
  intro i out hm hi ho hlen hz
  refine⟨out,?_,ho,rfl,?_⟩
  .refine K.lp' hn243 _ rfl (by kernel_rfl) ((e243_0 ..).trans ?_)
   refine(br_ltF (by omega)).trans ?_
   rfl
  .rw[show a.drop i=[] from List.drop_eq_nil_of_le (by omega)]
   simp[valL]
 |succ m ih=>
  intro i out hm hi ho hlen hz
  have hlt:i<a.length:=by omega
  have hx:=ha.get hlt
  obtain⟨o,c',g1,g2,g3,g4,g5⟩:=school_in K a b hb i hlt hsz a[i] hx b.length 0 out 0 (by omega) (by omega) ho (by omega) hlen
  rw[Nat.add_zero,List.drop_zero]at g5
  have hdl:(out.drop i).length=a.length+b.length-i:=by rw[List.length_drop];omega
  have hlm:Limbs (o.set (i+b.length) c'):=by
   rw[g5]
   exact limbs_app (ho.take i) (mulR_limbs _ _ _ _ hx hb (ho.drop i) (by omega))
  have hhead:((out.drop i).drop b.length).headD 0=0:=by
   rw[List.drop_drop]
   exact zero_head hz
  have hv:valL (o.set (i+b.length) c')=valL out+4294967296 ^ i*(a[i]*valL b):=by
   rw[g5,valL_app,valL_mulR _ _ _ _ hhead]
   have e:valL out=valL (out.take i)+4294967296 ^ i*valL (out.drop i):=by
    have:=valL_app (out.take i) (out.drop i)
    rw[List.take_append_drop,List.length_take,Nat.min_eq_left (by omega)]at this
    exact this
   rw[e,List.length_take,Nat.min_eq_left (by omega),Nat.add_zero,Nat.mul_add]
   omega
  have hz2:ZeroFrom (i+1+b.length) (o.set (i+b.length) c'):=by
   unfold ZeroFrom
   rw[g5,List.drop_append,List.drop_eq_nil_of_le (by rw[List.length_take];omega),List.nil_append,List.length_take,Nat.min_eq_left (by omega),show i+1+b.length-i=b.length+1 by omega,mulR_drop,List.drop_drop]
   intro y hy
   exact hz y (by
    have:List.drop (i+(b.length+1)) out=List.drop 1 (List.drop (i+b.length) out):=by rw[List.drop_drop];rfl
    rw[this]at hy
    exact List.mem_of_mem_drop hy)
  obtain⟨o2,k1,k2,k3,k4⟩:=ih (i+1) (o.set (i+b.length) c') (by omega) (by omega) hlm (by rw[List.length_set,g4,hlen]) hz2
  rw[List.length_set,g4]at k1 k3
  refine⟨o2,?_,k2,k3,?_⟩
  .refine K.lp' hn243 _ rfl (by kernel_rfl) ((e243_0 ..).trans ?_)
   refine(br_ltT (by omega)).trans ?_
   rw[unI_n,nthK_some (List.getElem?_eq_getElem hlt)]
   simp only[eL,cIk,lenR_map,ND,DK,unFn_fn]
   refine(askK_of g1 _).trans ?_
   simp only[eN,cIk,lenR_map,ND,DK,unFn_fn]
   rw[addN (by omega),unI_n,blt_true (by omega)]
   refine(br_t _ _).trans ?_
   rw[show Nat.ble (0+(i+b.length)*1+1) (rowC eL o).length=true by rw[rowC_len eL_len];simp;omega]
   refine(br_t _ _).trans ?_
   rw[r_conv32s g2,splice_eL _ _ _ (by omega),add1 (by omega)]
   refine(askK_of k1 _).trans ?_
   rfl
  .rw[k4,hv,List.drop_eq_getElem_cons hlt,valL,Nat.pow_succ]
   have e1:4294967296 ^ i*(a[i]+4294967296*valL (List.drop (i+1) a))*valL b=4294967296 ^ i*(a[i]*valL b)+4294967296 ^ i*4294967296*valL (List.drop (i+1) a)*valL b:=by
    rw[Nat.mul_add,Nat.add_mul,Nat.mul_assoc _ a[i],Nat.mul_assoc (4294967296 ^ i) 4294967296]
   rw[e1]
   omega
variable (C:CloneF D)
include C
theorem school_ok{a b:List Nat}(ha:Limbs a)(hb:Limbs b)(hsz:a.length+b.length<=1000000000):D.ask (.fn 243) [eN a,eN b] []=some (eN (natL (valL a*valL b)),[]):=by
 obtain⟨o,k1,k2,k3,k4⟩:=school_lp K a b ha hb hsz a.length 0 (List.replicate (a.length+b.length) 0) (by omega) (by omega) (fun x hx=>by rw[(List.mem_replicate.1 hx).2];omega) (by simp) (fun y hy=>(List.mem_replicate.1 (List.mem_of_mem_drop hy)).2)
 rw[List.length_replicate]at k1 k3
 have hz:∀ n,valL (List.replicate n 0)=0:=fun n=>by
  induction n with
  |zero=>rfl
  |succ n ih=>rw[List.replicate_succ,valL,ih]
 rw[hz,List.drop_zero,Nat.pow_zero,Nat.one_mul,Nat.zero_add]at k4
 refine K.fn' hn243 _ rfl ((e243 ..).trans ?_)
 rw[lenR_map,lenR_map,addN (by omega)]
 simp only[unI_n]
 rw[show Nat.ble (a.length+b.length) (a.length+b.length)=true by simp,fits_small (n:=a.length+b.length) (b:=4) (by omega) (by omega),zeros_eL]
 refine(br_t _ _).trans ?_
 refine(br_t _ _).trans ?_
 refine(askK_of k1 _).trans ?_
 simp only[ND,DK,unFn_fn]
 rw[ble_row eL_len _ (by omega)]
 refine(br_t _ _).trans ?_
 rw[chunk_of eL_len _ rfl]
 have gt:=Trim_ok K C (l:=o) (by unfold SmL;omega) k2
 rw[k4]at gt
 refine(askK_of gt _).trans ?_
 rfl
theorem Mul_ok{a b:List Nat}(hsa:a.length<=400000000)(ha:Limbs a)(hsb:b.length<=400000000)(hb:Limbs b)(h24:a.length<24\/b.length<24):D.ask (.fn 212) [eN a,eN b] []=some (eN (natL (valL a*valL b)),[]):=by
 have t1:(natL (valL a)).length<=a.length:=by rw[natL_len a ha];exact topL_le a
 have t2:(natL (valL b)).length<=b.length:=by rw[natL_len b hb];exact topL_le b
 refine K.fn' hn212 _ rfl ((e212 ..).trans ?_)
 refine(askK_of (trim_ok K (by unfold SmL;omega) ha) _).trans ?_
 simp only[eN,ND,DK,unFn_fn]
 refine(askK_of (trim_ok K (by unfold SmL;omega) hb) _).trans ?_
 simp only[eN,ND,DK,unFn_fn,lenR_map]
 have g:=school_ok K C (natL_limbs (valL a)) (natL_limbs (valL b)) (by omega)
 rw[valL_natL,valL_natL]at g
 by_cases h1:(natL (valL a)).length<24
 .refine(br_ltT (by omega)).trans ?_
  refine(askK_of g _).trans ?_
  rfl
 .refine(br_ltF (by omega)).trans ?_
  refine(br_ltT (by omega)).trans ?_
  refine(askK_of g _).trans ?_
  rfl
end
end Go.Proofs.YtpncilciembjdaaGreatDoor
namespace Go.Proofs.YtpncilciembjdaaGreatDoor
open Go.RowKit

section
variable {D:Orc} (K:Knows ownC tabNa D) (Z:Knows ownC tabZi D) (C:CloneF D)
include K Z C
theorem From_ok(neg:Bool){a:List Nat}(ha:Limbs a)(hs:SmL a):D.ask (.fn 145) [bv neg,eN a] []=some (.agg (eZ (ziOf (sgI neg (valL a)))),[]):=by
 refine Z.fn' hn145 _ rfl ((e145 ..).trans ?_)
 refine(askK_of (Trim_ok K C hs ha) _).trans ?_
 simp only[eN,ND,DK,unFn_fn,lenR_map]
 rw[ziOf_sg]
 unfold eZ eN
 cases neg with
 |false=>rfl
 |true=>
  refine(br_t _ _).trans ?_
  refine(br_t _ _).trans ?_
  refine(br_t _ _).trans ?_
  have hp:=@natL_pos_iff (valL a)
  by_cases h:0<valL a
  .refine(br_ltT (by have:=hp.2 h;omega)).trans ?_
   rw[decide_eq_true h]
   rfl
  .refine(br_ltF (by intro e;exact h (hp.1 (by omega)))).trans ?_
   rw[decide_eq_false h]
   rfl
theorem clean_ok{z:Zi}(hz:Lz 1000000000 z):D.ask (.fn 142) [.agg (eZ z)] []=some (.agg (eZ (ziOf (zv z))),[]):=by
 refine Z.fn' hn142 _ rfl ((e142 ..).trans ?_)
 refine(askK_of (From_ok K Z C z.neg hz.lim hz.len) _).trans ?_
 rfl
theorem zNeg_ok{z:Zi}(hz:Lz 1000000000 z):D.ask (.fn 161) [.agg (eZ z)] []=some (.agg (eZ (ziOf (-zv z))),[]):=by
 have e:-zv z=sgI (!z.neg) (valL z.abs):=by
  unfold zv sgI
  cases z.neg<;>simp
 rw[e]
 refine Z.fn' hn161 _ rfl ((e161 ..).trans ?_)
 rw[r_not]
 have g:=fun b=>From_ok K Z C b hz.lim hz.len
 cases z.neg with
 |false=>
  refine(br_t _ _).trans ?_
  refine(askK_of (g true) _).trans ?_
  rfl
 |true=>
  refine(br_f _ _).trans ?_
  refine(askK_of (g false) _).trans ?_
  rfl
theorem zSign_ok{z:Zi}(hz:Lz 1000000000 z):D.ask (.fn 64) [.agg (eZ z)] []=some (iv (sgnZ (zv z)),[]):=by
 refine Z.fn' hn64 _ rfl ((e64 ..).trans ?_)
 refine(askK_of (clean_ok K Z C hz) _).trans ?_
 simp only[eZ,eN,ND,DK,unFn_fn,lenR_map]
 unfold ziOf sgnZ
 by_cases h:zv z<0
 .rw[if_pos h,decide_eq_true h]
  rfl
 .rw[if_neg h,decide_eq_false h]
  refine(br_f _ _).trans ?_
  have hp:=@natL_pos_iff (zv z).natAbs
  by_cases h2:0<zv z
  .rw[if_pos h2]
   refine(br_ltT (by have:=hp.2 (by omega);dsimp only;omega)).trans ?_
   rfl
  .rw[if_neg h2]
   refine(br_ltF (by dsimp only;intro e;have:=hp.1 (by omega);omega)).trans ?_
   rfl
theorem zOf_ok(n:Int)(h1:-9223372036854775808<=n)(h2:n<9223372036854775808):D.ask (.fn 126) [iv n] []=some (.agg (eZ (ziOf n)),[]):=by
 refine Z.fn' hn126 _ rfl ((e126 ..).trans ?_)
 have hl:∀ m:Nat,m<18446744073709551616->(natL m).length<=2:=fun m h=>natL_len_le (by omega)
 by_cases h:n<0
 .refine(br_ltT h).trans ?_
  have e1:realA.add .i64 n 1=n+1:=r_add (by omega) (by omega)
  have e2:realA.sub .i64 0 (n+1)=((n.natAbs-1:Nat):Int):=by rw[r_sub (by omega) (by omega)];omega
  rw[e1,e2,r_conv64 (by omega),show (1:Int)=((1:Nat):Int) from rfl,r_add64 (by omega),show n.natAbs-1+1=n.natAbs by omega]
  refine(askK_of (Of_ok K C n.natAbs (by omega)) _).trans ?_
  simp only[eN,ND,DK,unFn_fn]
  have g:=From_ok K Z C true (natL_limbs n.natAbs) (by unfold SmL;have:=hl n.natAbs (by omega);omega)
  rw[valL_natL,show sgI true n.natAbs=n by unfold sgI;rw[if_pos rfl];omega]at g
  refine(askK_of g _).trans ?_
  rfl
 .refine(br_ltF h).trans ?_
  obtain⟨m,rfl⟩:=Int.eq_ofNat_of_zero_le (show 0<=n by omega)
  rw[r_conv64 (by omega)]
  refine(askK_of (Of_ok K C m (by omega)) _).trans ?_
  simp only[eN,ND,DK,unFn_fn]
  have g:=From_ok K Z C false (natL_limbs m) (by unfold SmL;have:=hl m (by omega);omega)
  rw[valL_natL,show sgI false m=(m:Int) from rfl]at g
  refine(askK_of g _).trans ?_
  rfl
theorem zCmp_ok{a b:Zi}(ha:Lz 1000000000 a)(hb:Lz 1000000000 b):D.ask (.fn 155) [.agg (eZ a),.agg (eZ b)] []=some (iv (cmpZ (zv a) (zv b)),[]):=by
 refine Z.fn' hn155 _ rfl ((e155 ..).trans ?_)
 refine(askK_of (zSign_ok K Z C ha) _).trans ?_
 simp only[ND,DK,unFn_fn]
 refine(askK_of (zSign_ok K Z C hb) _).trans ?_
 simp only[ND,DK,unFn_fn]
 have g1:=Cmp_ok K (a:=b.abs) (b:=a.abs) hb.len hb.lim ha.len ha.lim
 have g2:=Cmp_ok K (a:=a.abs) (b:=b.abs) ha.len ha.lim hb.len hb.lim
 have na:=zv_neg a
 have nb:=zv_neg b
 have za:=zv_zero a
 have zb:=zv_zero b
 have va:zv a=sgI a.neg (valL a.abs):=rfl
 have vb:zv b=sgI b.neg (valL b.abs):=rfl
 unfold sgnZ
 by_cases h1:zv a<0
 .rw[if_pos h1]
  rw[sgI,if_pos (na.1 h1).1]at va
  by_cases h2:zv b<0
  .rw[if_pos h2]
   rw[sgI,if_pos (nb.1 h2).1]at vb
   refine(br_ltF (by decide)).trans ?_
   refine(br_ltF (by decide)).trans ?_
   refine(br_ltT (by decide)).trans ?_
   refine(askK_of g1 _).trans ?_
   rw[show cmpZ (zv a) (zv b)=cmpN (valL b.abs) (valL a.abs) by
    unfold cmpZ cmpN
    rw[va,vb]
    by_cases h3:valL b.abs<valL a.abs
    .rw[if_pos (by omega),if_pos h3]
    .rw[if_neg (by omega),if_neg h3]
     by_cases h4:valL a.abs<valL b.abs
     .rw[if_pos (by omega),if_pos h4]
     .rw[if_neg (by omega),if_neg h4]]
   rfl
  .rw[if_neg h2]
   rw[show cmpZ (zv a) (zv b)=-1 by unfold cmpZ;rw[if_pos (by omega)]]
   by_cases h3:0<zv b
   .rw[if_pos h3];rfl
   .rw[if_neg h3];rfl
 .rw[if_neg h1]
  by_cases h2:zv b<0
  .rw[if_pos h2]
   rw[show cmpZ (zv a) (zv b)=1 by unfold cmpZ;rw[if_neg (by omega),if_pos (by omega)]]
   by_cases h3:0<zv a
   .rw[if_pos h3];rfl
   .rw[if_neg h3];rfl
  .rw[if_neg h2]
   have ea:zv a=(valL a.abs:Int):=by
    by_cases h:0<valL a.abs
    .rw[va,sgI,if_neg (fun e=>h1 (na.2 ⟨e,h⟩))]
    .rw[za.2 (by omega)];omega
   have eb:zv b=(valL b.abs:Int):=by
    by_cases h:0<valL b.abs
    .rw[vb,sgI,if_neg (fun e=>h2 (nb.2 ⟨e,h⟩))]
    .rw[zb.2 (by omega)];omega
   have ec:cmpZ (zv a) (zv b)=cmpN (valL a.abs) (valL b.abs):=by
    unfold cmpZ cmpN
    rw[ea,eb]
    by_cases h3:valL a.abs<valL b.abs
    .rw[if_pos (by omega),if_pos h3]
    .rw[if_neg (by omega),if_neg h3]
     by_cases h4:valL b.abs<valL a.abs
     .rw[if_pos (by omega),if_pos h4]
     .rw[if_neg (by omega),if_neg h4]
   rw[ec]
   by_cases h3:0<zv a
   .rw[if_pos h3]
    by_cases h4:0<zv b
    .rw[if_pos h4]
     refine(br_ltF (by decide)).trans ?_
     refine(br_ltF (by decide)).trans ?_
     refine(br_ltF (by decide)).trans ?_
     refine(askK_of g2 _).trans ?_
     rfl
    .rw[if_neg h4]
     refine(br_ltF (by decide)).trans ?_
     refine(br_ltT (by decide)).trans ?_
     rw[show cmpN (valL a.abs) (valL b.abs)=1 by unfold cmpN;rw[if_neg (by omega),if_pos (by omega)]]
   .rw[if_neg h3]
    by_cases h4:0<zv b
    .rw[if_pos h4]
     refine(br_ltT (by decide)).trans ?_
     rw[show cmpN (valL a.abs) (valL b.abs)=-1 by unfold cmpN;rw[if_pos (by omega)]]
    .rw[if_neg h4]
     refine(br_ltF (by decide)).trans ?_
     refine(br_ltF (by decide)).trans ?_
     refine(br_ltF (by decide)).trans ?_
     refine(askK_of g2 _).trans ?_
     rfl
theorem zAdd_ok{k:Nat}(hk:k<=900000000){a b:Zi}(ha:Lz k a)(hb:Lz k b):D.ask (.fn 139) [.agg (eZ a),.agg (eZ b)] []=some (.agg (eZ (ziOf (zv a+zv b))),[]):=by
 have la:=ha.len
 have lb:=hb.len
 refine Z.fn' hn139 _ rfl ((e139 ..).trans ?_)
 have hfr:∀(neg:Bool) (n:Nat),n<4294967296 ^ (k+1)->D.ask (.fn 145) [bv neg,eN (natL n)] []=some (.agg (eZ (ziOf (sgI neg n))),[]):=fun neg n h=>by
  have:=From_ok K Z C neg (natL_limbs n) (by unfold SmL;have:=natL_len_le h;omega)
  rwa [valL_natL]at this
 have ba:=valL_lt ha.lim
 have bb:=valL_lt hb.lim
 have pa:4294967296 ^ a.abs.length<=4294967296 ^ k:=Nat.pow_le_pow_right (by omega) la
 have pb:4294967296 ^ b.abs.length<=4294967296 ^ k:=Nat.pow_le_pow_right (by omega) lb
 have ps:4294967296 ^ (k+1)=4294967296 ^ k*4294967296:=Nat.pow_succ ..
 by_cases h:a.neg=b.neg
 .rw[r_beq,show (a.neg == b.neg)=true by simpa using h]
  refine(br_t _ _).trans ?_
  refine(askK_of (Add_ok K C (by omega) ha.lim (by omega) hb.lim) _).trans ?_
  simp only[eN,ND,DK,unFn_fn]
  refine(askK_of (hfr a.neg (valL a.abs+valL b.abs) (by omega)) _).trans ?_
  rw[show sgI a.neg (valL a.abs+valL b.abs)=zv a+zv b by
   unfold zv
   rw[←h]
   unfold sgI
   split<;>omega]
  rfl
 .rw[r_beq,show (a.neg == b.neg)=false by simpa using h]
  refine(br_f _ _).trans ?_
  have hop:zv a+zv b=sgI a.neg (valL a.abs)+sgI (!a.neg) (valL b.abs):=by
   unfold zv
   have:b.neg = !a.neg:=by
    revert h
    cases a.neg<;>cases b.neg<;>simp
   rw[this]
  have g1:=Sub_ok K C (a:=a.abs) (b:=b.abs) (by unfold SmL;omega) ha.lim (by unfold SmL;omega) hb.lim
  have g2:=Sub_ok K C (a:=b.abs) (b:=a.abs) (by unfold SmL;omega) hb.lim (by unfold SmL;omega) ha.lim
  unfold eSubN at g1 g2
  refine(askK_of g1 _).trans ?_
  by_cases hle:valL b.abs<=valL a.abs
  .rw[if_pos hle]
   simp only[eN,ND,DK,unFn_fn]
   refine(askK_of (hfr a.neg (valL a.abs-valL b.abs) (by omega)) _).trans ?_
   rw[show sgI a.neg (valL a.abs-valL b.abs)=zv a+zv b by
    rw[hop]
    unfold sgI
    cases a.neg<;>simp<;>omega]
   rfl
  .rw[if_neg hle]
   rw[if_pos (by omega)]at g2
   simp only[eN,ND,DK,unFn_fn]
   refine(askK_of g2 _).trans ?_
   simp only[eN,ND,DK,unFn_fn]
   refine(askK_of (hfr b.neg (valL b.abs-valL a.abs) (by omega)) _).trans ?_
   rw[show sgI b.neg (valL b.abs-valL a.abs)=zv a+zv b by
    rw[hop]
    have:b.neg = !a.neg:=by
     revert h
     cases a.neg<;>cases b.neg<;>simp
    rw[this]
    unfold sgI
    cases a.neg<;>simp<;>omega]
   rfl
theorem zMul_ok{k m:Nat}(hk:k<=400000000)(hkm:m<=400000000){a b:Zi}(ha:Lz k a)(hb:Lz m b)(h24:a.abs.length<24\/b.abs.length<24):D.ask (.fn 158) [.agg (eZ a),.agg (eZ b)] []=some (.agg (eZ (ziOf (zv a*zv b))),[]):=by
 have la:=ha.len
 have lb:=hb.len
 refine Z.fn' hn158 _ rfl ((e158 ..).trans ?_)
 have hm:InB (k+m) (zv a*zv b):=ha.inb.mul hb.inb
 have hab:(zv a*zv b).natAbs=valL a.abs*valL b.abs:=by
  have f:∀ z:Zi,(zv z).natAbs=valL z.abs:=fun z=>by
   unfold zv sgI
   split
   .rw[Int.natAbs_neg];rfl
   .rfl
  rw[Int.natAbs_mul,f,f]
 unfold InB at hm
 rw[hab]at hm
 have hl:=natL_len_le hm
 have hfr:∀(neg:Bool),D.ask (.fn 145) [bv neg,eN (natL (valL a.abs*valL b.abs))] []=some (.agg (eZ (ziOf (sgI neg (valL a.abs*valL b.abs)))),[]):=fun neg=>by
  have:=From_ok K Z C neg (natL_limbs (valL a.abs*valL b.abs)) (by unfold SmL;omega)
  rwa [valL_natL]at this
 have g:=Mul_ok K C (by omega) ha.lim (by omega) hb.lim h24
 have hs:sgI (a.neg != b.neg) (valL a.abs*valL b.abs)=zv a*zv b:=by
  unfold zv sgI
  cases a.neg<;>cases b.neg<;>simp[Int.mul_neg,Int.neg_mul]
 rw[r_not,r_beq]
 by_cases h:a.neg=b.neg
 .rw[show (!(a.neg == b.neg))=false by simp[h]]
  rw[show (a.neg != b.neg)=false by simp[h]]at hs
  refine(br_f _ _).trans ?_
  refine(askK_of g _).trans ?_
  simp only[eN,ND,DK,unFn_fn]
  refine(askK_of (hfr false) _).trans ?_
  rw[hs]
  rfl
 .rw[show (!(a.neg == b.neg))=true by simp[h]]
  rw[show (a.neg != b.neg)=true by simp[h]]at hs
  refine(br_t _ _).trans ?_
  refine(askK_of g _).trans ?_
  simp only[eN,ND,DK,unFn_fn]
  refine(askK_of (hfr true) _).trans ?_
  rw[hs]
  rfl
end
end Go.Proofs.YtpncilciembjdaaGreatDoor
namespace Go.Proofs.YtpncilciembjdaaGreatDoor
open Go.RowKit

structure ZF (D:Orc):Prop where
 frm:∀ z:Zi,Lz 1000000000 z->D.ask (.fn 145) [bv z.neg,eN z.abs] []=some (.agg (eZ (ziOf (zv z))),[])
 neg:∀ z:Zi,Lz 1000000000 z->D.ask (.fn 161) [.agg (eZ z)] []=some (.agg (eZ (ziOf (-zv z))),[])
 sign:∀ z:Zi,Lz 1000000000 z->D.ask (.fn 64) [.agg (eZ z)] []=some (iv (sgnZ (zv z)),[])
 of_:∀ n:Int,-9223372036854775808<=n->n<9223372036854775808->D.ask (.fn 126) [iv n] []=some (.agg (eZ (ziOf n)),[])
 cmp:∀ a b:Zi,Lz 1000000000 a->Lz 1000000000 b->D.ask (.fn 155) [.agg (eZ a),.agg (eZ b)] []=some (iv (cmpZ (zv a) (zv b)),[])
 add:∀ a b:Zi,Lz 900000000 a->Lz 900000000 b->D.ask (.fn 139) [.agg (eZ a),.agg (eZ b)] []=some (.agg (eZ (ziOf (zv a+zv b))),[])
 mul:∀ a b:Zi,Lz 400000000 a->Lz 400000000 b->a.abs.length<24\/b.abs.length<24->D.ask (.fn 158) [.agg (eZ a),.agg (eZ b)] []=some (.agg (eZ (ziOf (zv a*zv b))),[])
theorem zf_of{D:Orc}(K:Knows ownC tabNa D)(Z:Knows ownC tabZi D)(C:CloneF D):ZF D where
 frm z h:=by
  have:=From_ok K Z C z.neg h.lim (by unfold SmL;exact h.len)
  exact this
 neg z h:=zNeg_ok K Z C h
 sign z h:=zSign_ok K Z C h
 of_ n h1 h2:=zOf_ok K Z C n h1 h2
 cmp a b ha hb:=zCmp_ok K Z C ha hb
 add a b ha hb:=zAdd_ok K Z C (Nat.le_refl _) ha hb
 mul a b ha hb h:=zMul_ok K Z C (Nat.le_refl _) (Nat.le_refl _) ha hb h
end Go.Proofs.YtpncilciembjdaaGreatDoor
namespace Go.Proofs.YtpncilciembjdaaGreatDoor
open Go.RowKit

theorem Srt.same{l r:List Pt}{a b p q:Nat}(h:Srt Pt.v l p q)(hs:Same0 l r a b)(hd:q<=a\/b<=p):Srt Pt.v r p q:=by
 intro x y h1 h2 h3
 rw[hs.kf Pt.v (by omega),hs.kf Pt.v (by omega)]
 exact h x y h1 h2 h3
def BlkS(q t:Nat)(l:List Pt):Prop:=∀ p,q ∣ p->p+q<=t->Srt Pt.v l p (p+q)
theorem add20{a:Nat}(h:a<4611686018427387000):realA.add .i64 (a:Int) 20=((a+20:Nat):Int):=by
 rw[r_add (by omega) (by omega)]
 rfl
section
variable {D:Orc} (K:Knows ownC tabSo D)
include K
theorem st_lp0:∀(m a:Nat) (l:List Pt),l.length-a=m->a<=l.length->l.length<=1000000000->20 ∣ a->BlkS 20 a l->
  ∃(r:List Pt) (c:Nat),D.ask (.lp 196 0) [.sl 0 0 l.length 3,iv (l.length:Int),fnV,iv 20,iv (a:Int),iv ((a+20:Nat):Int)] [ABlk.mk (rowC eP l) true true]
   = some (.tup [iv 0,.sl 0 0 l.length 3,iv (l.length:Int),fnV,iv 20,iv (c:Int)],[.set (ABlk.mk (rowC eP r) true true)])
   ∧ r.length=l.length/\r.Perm l/\c<=l.length/\l.length<c+20/\20 ∣ c/\BlkS 20 c r:=by
 intro m
 induction m using Nat.strongRecOn with
 |_ m ih=>
  intro a l hm ha hl hd hb
  by_cases h:a+20<=l.length
  .obtain⟨r,g,hr,hp,ho,hsm⟩:=ins_ok K (a:=a) (b:=a+20) (l:=l) (by omega) h hl
   have hb2:BlkS 20 (a+20) r:=fun p h1 h2=>by
    by_cases hpa:p=a
    .subst hpa
     exact ho
    .exact(hb p h1 (by omega)).same hsm (.inl (by omega))
   obtain⟨r2,c,g2,hr2,hp2,h3,h4,h5,h6⟩:=ih (r.length-(a+20)) (by omega) (a+20) r rfl (by omega) (by omega) (by omega) hb2
   rw[hr]at g2 h3 h4
   refine⟨r2,c,?_,by omega,hp2.trans hp,h3,h4,h5,h6⟩
   refine K.lp' hn196 _ rfl (by kernel_rfl) ((e196_0 ..).trans ?_)
   refine(br_leT (by omega)).trans ?_
   refine(askK_of g _).trans ?_
   simp only[fnV,ND,DK,unFn_fn]
   rw[add20 (by omega)]
   refine(askK_of g2 _).trans ?_
   rfl
  .refine⟨l,a,?_,rfl,List.Perm.refl _,ha,by omega,hd,hb⟩
   refine K.lp' hn196 _ rfl (by kernel_rfl) ((e196_0 ..).trans ?_)
   exact(br_leF (by omega)).trans rfl
omit K in
def Merges(D:Orc):Prop:=∀(l:List Pt) (a m b:Nat),a<m->m<b->b<=l.length->l.length<=1000000000->Srt Pt.v l a m->Srt Pt.v l m b->
 ∃ r:List Pt,D.ask (.fn 235) [.sl 0 0 l.length 3,iv (a:Int),iv (m:Int),iv (b:Int),fnV] [ABlk.mk (rowC eP l) true true]=some (.tup [],[.set (ABlk.mk (rowC eP r) true true)])
  ∧ r.length=l.length/\r.Perm l/\Srt Pt.v r a b/\Same0 l r a b
def TlS(q a:Nat)(l:List Pt):Prop:=∀ j,Srt Pt.v l (a+j*q) (min (a+(j+1)*q) l.length)
theorem st_lp2(M:Merges D)(q:Nat)(hq:0<q)(hq2:q<=1000000000):∀(m a:Nat) (l:List Pt),l.length-a=m->a<=l.length->l.length<=1000000000->2*q ∣ a->BlkS (2*q) a l->TlS q a l->
  ∃(r:List Pt) (c:Nat),D.ask (.lp 196 2) [.sl 0 0 l.length 3,iv (l.length:Int),fnV,iv (q:Int),iv (a:Int),iv ((a+2*q:Nat):Int)] [ABlk.mk (rowC eP l) true true]
   = some (.tup [iv 4,.sl 0 0 l.length 3,iv (l.length:Int),fnV,iv (q:Int),iv (c:Int)],[.set (ABlk.mk (rowC eP r) true true)])
   ∧ r.length=l.length/\r.Perm l/\c<=l.length/\l.length<c+2*q/\2*q ∣ c/\BlkS (2*q) c r/\TlS q c r:=by
 intro m
 induction m using Nat.strongRecOn with
 |_ m ih=>
  intro a l hm ha hl hd hb ht
  by_cases h:a+2*q<=l.length
  .have t0:=ht 0
   have t1:=ht 1
   rw[Nat.zero_mul,Nat.add_zero,Nat.zero_add,Nat.one_mul,Nat.min_eq_left (by omega)]at t0
   rw[Nat.one_mul,show (1+1)*q=2*q from rfl,Nat.min_eq_left h]at t1
   obtain⟨r,g,hr,hp,ho,hsm⟩:=M l a (a+q) (a+2*q) (by omega) (by omega) h hl t0 t1
   have hb2:BlkS (2*q) (a+2*q) r:=fun p h1 h2=>by
    by_cases hpa:p=a
    .subst hpa
     exact ho
    .have:=Nat.le_of_dvd (by omega) (Nat.dvd_sub hd h1)
     exact(hb p h1 (by omega)).same hsm (.inl (by omega))
   have ht2:TlS q (a+2*q) r:=fun j=>by
    have:=ht (j+2)
    rw[show a+(j+2)*q=a+2*q+j*q by rw[Nat.add_mul];omega,show a+(j+2+1)*q=a+2*q+(j+1)*q by rw[Nat.add_mul,Nat.add_mul,Nat.add_mul];omega]at this
    rw[hr]
    exact this.same hsm (.inr (by omega))
   obtain⟨r2,c,g2,hr2,hp2,h3,h4,h5,h6,h7⟩:=ih (r.length-(a+2*q)) (by omega) (a+2*q) r rfl (by omega) (by omega) (Nat.dvd_add hd (Nat.dvd_refl _)) hb2 ht2
   rw[hr]at g2 h3 h4
   refine⟨r2,c,?_,by omega,hp2.trans hp,h3,h4,h5,h6,h7⟩
   refine K.lp' hn196 _ rfl (by kernel_rfl) ((e196_2 ..).trans ?_)
   refine(br_leT (by omega)).trans ?_
   rw[show realA.add .i64 (a:Int) (q:Int)=((a+q:Nat):Int) by rw[r_add (by omega) (by omega)];omega,
    show realA.mul .i64 2 (q:Int)=((2*q:Nat):Int) by
     show IntKind.i64.wrap (2*(q:Int))=_
     rw[IntKind.wrap_i64]
     omega,
    show realA.add .i64 ((a+2*q:Nat):Int) ((2*q:Nat):Int)=((a+2*q+2*q:Nat):Int) by rw[r_add (by omega) (by omega)];omega]
   refine(askK_of g _).trans ?_
   simp only[fnV,ND,DK,unFn_fn]
   refine(askK_of g2 _).trans ?_
   rfl
  .refine⟨l,a,?_,rfl,List.Perm.refl _,ha,by omega,hd,hb,ht⟩
   refine K.lp' hn196 _ rfl (by kernel_rfl) ((e196_2 ..).trans ?_)
   exact(br_leF (by omega)).trans rfl
omit K in
theorem tls_of{q c:Nat}{r:List Pt}(hq:0<q)(hd:q ∣ c)(hn:r.length<c+q)(hb:BlkS q c r)(hs:Srt Pt.v r c r.length):TlS q 0 r:=fun j=>by
 rw[Nat.zero_add,Nat.zero_add]
 have e:(j+1)*q=j*q+q:=by rw[Nat.add_mul];omega
 by_cases h1:j*q+q<=c
 .have:=hb (j*q) (Nat.dvd_mul_left q j) h1
  intro x y hx hxy hy
  exact this x y hx hxy (by omega)
 .by_cases h2:j*q=c
  .intro x y hx hxy hy
   exact hs x y (by omega) hxy (by omega)
  .intro x y hx hxy hy
   exfalso
   by_cases h3:j*q<c
   .have:=Nat.le_of_dvd (by omega) (Nat.dvd_sub hd (Nat.dvd_mul_left q j))
    omega
   .have:=Nat.le_of_dvd (by omega) (Nat.dvd_sub (Nat.dvd_mul_left q j) hd)
    omega
theorem st_lp1(M:Merges D):∀(m q:Nat) (l:List Pt),l.length-q=m->0<q->q<=2000000000->l.length<=1000000000->TlS q 0 l->
  ∃ r:List Pt,D.ask (.lp 196 1) [.sl 0 0 l.length 3,iv (l.length:Int),fnV,iv (q:Int)] [ABlk.mk (rowC eP l) true true]
   = some (.tup [iv 2,.sl 0 0 l.length 3],[.set (ABlk.mk (rowC eP r) true true)])
   ∧ r.length=l.length/\r.Perm l/\Srt Pt.v r 0 r.length:=by
 intro m
 induction m using Nat.strongRecOn with
 |_ m ih=>
  intro q l hm hq hq2 hl ht
  by_cases h:q<l.length
  .obtain⟨r,c,g,hr,hp,hc,hn,hd,hb,ht2⟩:=st_lp2 K M q hq (by omega) _ 0 l rfl (by omega) hl (Nat.dvd_zero _) (fun p _ h2=>by omega) ht
   have t0:=ht2 0
   have t1:=ht2 1
   rw[Nat.zero_mul,Nat.add_zero,Nat.zero_add,Nat.one_mul]at t0
   rw[Nat.one_mul,show (1+1)*q=2*q from rfl,Nat.min_eq_right (by omega)]at t1
   rw[Nat.zero_add]at g
   have emul:realA.mul .i64 2 (q:Int)=((2*q:Nat):Int):=by
    show IntKind.i64.wrap (2*(q:Int))=_
    rw[IntKind.wrap_i64]
    omega
   have emul2:realA.mul .i64 (q:Int) 2=((2*q:Nat):Int):=by
    show IntKind.i64.wrap ((q:Int)*2)=_
    rw[IntKind.wrap_i64]
    omega
   have eadd:realA.add .i64 (c:Int) (q:Int)=((c+q:Nat):Int):=by rw[r_add (by omega) (by omega)];omega
   by_cases h2:c+q<l.length
   .rw[Nat.min_eq_left (by omega)]at t0
    obtain⟨r3,g3,hr3,hp3,ho3,hsm⟩:=M r c (c+q) r.length (by omega) (by omega) (Nat.le_refl _) (by omega) t0 t1
    have ht3:TlS (2*q) 0 r3:=tls_of (by omega) hd (by omega) (fun p h1 h2=>(hb p h1 h2).same hsm (.inl (by omega))) (by rw[hr3];exact ho3)
    obtain⟨r4,g4,hr4,hp4,ho4⟩:=ih (r3.length-2*q) (by omega) (2*q) r3 rfl (by omega) (by omega) (by omega) ht3
    rw[hr]at g3 hr3
    rw[hr3]at g4 hr4
    refine⟨r4,?_,hr4,hp4.trans (hp3.trans hp),ho4⟩
    refine K.lp' hn196 _ rfl (by kernel_rfl) ((e196_1 ..).trans ?_)
    refine(br_ltT (by omega)).trans ?_
    rw[emul]
    refine(askK_of g _).trans ?_
    simp only[fnV,ND,DK,unFn_fn]
    refine(br_t _ _).trans ?_
    rw[eadd,emul2]
    refine(br_ltT (by omega)).trans ?_
    refine(askK_of g3 _).trans ?_
    simp only[fnV,ND,DK,unFn_fn]
    refine(askK_of g4 _).trans ?_
    rfl
   .rw[Nat.min_eq_right (by omega)]at t0
    have ht3:TlS (2*q) 0 r:=tls_of (by omega) hd (by omega) hb t0
    obtain⟨r4,g4,hr4,hp4,ho4⟩:=ih (r.length-2*q) (by omega) (2*q) r rfl (by omega) (by omega) (by omega) ht3
    rw[hr]at g4 hr4
    refine⟨r4,?_,hr4,hp4.trans hp,ho4⟩
    refine K.lp' hn196 _ rfl (by kernel_rfl) ((e196_1 ..).trans ?_)
    refine(br_ltT (by omega)).trans ?_
    rw[emul]
    refine(askK_of g _).trans ?_
    simp only[fnV,ND,DK,unFn_fn]
    refine(br_t _ _).trans ?_
    rw[eadd,emul2]
    refine(br_ltF (by omega)).trans ?_
    refine(askK_of g4 _).trans ?_
    rfl
  .refine⟨l,?_,rfl,List.Perm.refl _,?_⟩
   .refine K.lp' hn196 _ rfl (by kernel_rfl) ((e196_1 ..).trans ?_)
    exact(br_ltF (by omega)).trans rfl
   .have t0:=ht 0
    rw[Nat.zero_mul,Nat.zero_add,Nat.zero_add,Nat.one_mul,Nat.min_eq_right (by omega)]at t0
    exact t0
theorem stable_ok(M:Merges D){l:List Pt}(hl:l.length<=1000000000) :
  ∃ r:List Pt,D.ask (.fn 196) [.sl 0 0 l.length 3,iv (l.length:Int),fnV] [ABlk.mk (rowC eP l) true true]=some (.tup [],[.set (ABlk.mk (rowC eP r) true true)])
   ∧ r.length=l.length/\r.Perm l/\Srt Pt.v r 0 r.length:=by
 obtain⟨r,c,g,hr,hp,hc,hn,hd,hb⟩:=st_lp0 K _ 0 l rfl (by omega) hl (Nat.dvd_zero _) (fun p _ h2=>by omega)
 obtain⟨r2,g2,hr2,hp2,ho2,hsm⟩:=ins_ok K (a:=c) (b:=r.length) (l:=r) (by omega) (Nat.le_refl _) (by omega)
 have ht:TlS 20 0 r2:=tls_of (by omega) hd (by omega) (fun p h1 h2=>(hb p h1 h2).same hsm (.inl (by omega))) (by rw[hr2];exact ho2)
 obtain⟨r3,g3,hr3,hp3,ho3⟩:=st_lp1 K M _ 20 r2 rfl (by omega) (by omega) (by omega) ht
 rw[hr]at g2 hr2
 rw[hr2]at g3 hr3
 refine⟨r3,?_,hr3,hp3.trans (hp2.trans hp),ho3⟩
 refine K.fn' hn196 _ rfl ((e196 ..).trans ?_)
 refine(askK_of g _).trans ?_
 simp only[fnV,ND,DK,unFn_fn]
 refine(askK_of g2 _).trans ?_
 simp only[fnV,ND,DK,unFn_fn]
 refine(askK_of g3 _).trans ?_
 rfl
theorem sort_ok(M:Merges D){l:List Pt}(hl:l.length<=1000000000) :
  ∃ r:List Pt,D.ask (.fn 136) [.sl 0 0 l.length 3,fnV] [ABlk.mk (rowC eP l) true true]=some (.tup [],[.set (ABlk.mk (rowC eP r) true true)])
   ∧ r.length=l.length/\r.Perm l/\Srt Pt.v r 0 r.length:=by
 obtain⟨r,g,h⟩:=stable_ok K M hl
 refine⟨r,?_,h⟩
 refine K.fn' hn136 _ rfl ((e136 ..).trans ?_)
 refine(askK_of g _).trans ?_
 rfl
end
end Go.Proofs.YtpncilciembjdaaGreatDoor
namespace Go.Proofs.YtpncilciembjdaaGreatDoor
open Go.RowKit

section
variable {α:Type} (key:α->Int)
structure Rot (l r:List α) (a m b:Nat):Prop where
 out:∀ p,p<a\/b<=p->r[p]? = l[p]?
 low:∀ p,a<=p->p<a+(b-m)->r[p]? = l[p+(m-a)]?
 high:∀ p,a+(b-m)<=p->p<b->r[p]? = l[p-(b-m)]?
structure SwR (l r:List α) (a b n:Nat):Prop where
 out:∀ p,p<a\/(a+n<=p/\p<b)\/b+n<=p->r[p]? = l[p]?
 low:∀ p,a<=p->p<a+n->r[p]? = l[p+(b-a)]?
 high:∀ p,b<=p->p<b+n->r[p]? = l[p-(b-a)]?
theorem get_congr{l:List α}{i j:Nat}(h:i=j):l[i]? = l[j]?:=by rw[h]
theorem rot_left{c d r:List α}{i j m:Nat}(h0:i<=m)(h:j<i)(s:SwR c d (m-i) m j)(t:Rot d r (m-(i-j)) m (m+j)):Rot c r (m-i) m (m+j):=by
 refine⟨fun p hp=>?_,fun p h1 h2=>?_,fun p h1 h2=>?_⟩
 .rw[t.out p (by omega),s.out p (by omega)]
 .rw[t.out p (by omega),s.low p (by omega) (by omega)]
 .by_cases h3:p<m-(i-j)+j
  .rw[t.low p (by omega) (by omega),s.high _ (by omega) (by omega)]
   exact get_congr (by omega)
  .rw[t.high p (by omega) (by omega),s.out _ (by omega)]
theorem rot_right{c d r:List α}{i j m:Nat}(h0:i<=m)(h:i<j)(s:SwR c d (m-i) (m+j-i) i)(t:Rot d r (m-i) m (m+(j-i))):Rot c r (m-i) m (m+j):=by
 refine⟨fun p hp=>?_,fun p h1 h2=>?_,fun p h1 h2=>?_⟩
 .rw[t.out p (by omega),s.out p (by omega)]
 .by_cases h3:p<m-i+(j-i)
  .rw[t.low p (by omega) (by omega),s.out _ (by omega)]
  .rw[t.high p (by omega) (by omega),s.low _ (by omega) (by omega)]
   exact get_congr (by omega)
 .rw[t.out p (by omega),s.high p (by omega) (by omega)]
  exact get_congr (by omega)
theorem rot_same{c r:List α}{i m:Nat}(h0:i<=m)(s:SwR c r (m-i) m i):Rot c r (m-i) m (m+i):=by
 refine⟨fun p hp=>?_,fun p h1 h2=>?_,fun p h1 h2=>?_⟩
 .rw[s.out p (by omega)]
 .rw[s.low p (by omega) (by omega)]
 .rw[s.high p (by omega) (by omega)]
  exact get_congr (by omega)
theorem rot_none{l:List α}{a m b:Nat}(h:a=m\/m=b)(ha:a<=m)(hb:m<=b):Rot l l a m b:=by
 refine⟨fun p hp=>rfl,fun p h1 h2=>get_congr (by omega),fun p h1 h2=>get_congr (by omega)⟩
theorem swr_step{l r:List α}{a b n:Nat}(hab:a+n<b)(hb:b+n<l.length)(s:SwR l r a b n)(hr:r.length=l.length):SwR l (swapL r (a+n) (b+n)) a b (n+1):=by
 have ha:a+n<r.length:=by omega
 have hb2:b+n<r.length:=by omega
 have e1:∀ p,(swapL r (a+n) (b+n))[p]? = if p=a+n then r[b+n]? else if p=b+n then r[a+n]? else r[p]?:=fun p=>by
  rw[swapL_eq ha hb2]
  by_cases h1:p=b+n
  .subst h1
   rw[if_neg (by omega),if_pos rfl,List.getElem?_set_self (by simpa using hb2),List.getElem?_eq_getElem ha]
  .rw[List.getElem?_set_ne (fun e=>h1 e.symm)]
   by_cases h2:p=a+n
   .subst h2
    rw[if_pos rfl,List.getElem?_set_self ha,List.getElem?_eq_getElem hb2]
   .rw[if_neg h2,if_neg h1,List.getElem?_set_ne (fun e=>h2 e.symm)]
 refine⟨fun p hp=>?_,fun p h1 h2=>?_,fun p h1 h2=>?_⟩
 .rw[e1,if_neg (by omega),if_neg (by omega),s.out p (by omega)]
 .rw[e1]
  by_cases h:p=a+n
  .rw[if_pos h,s.out _ (by omega)]
   exact get_congr (by omega)
  .rw[if_neg h,if_neg (by omega),s.low p h1 (by omega)]
 .rw[e1]
  by_cases h:p=b+n
  .rw[if_neg (by omega),if_pos h,s.out _ (by omega)]
   exact get_congr (by omega)
  .rw[if_neg (by omega),if_neg h,s.high p h1 (by omega)]
theorem swr_zero(l:List α)(a b:Nat):SwR l l a b 0:=⟨fun _ _=>rfl,fun _ h1 h2=>by omega,fun _ h1 h2=>by omega⟩
theorem kf_congr{l r:List α}{p q:Nat}(h:r[p]? = l[q]?):kf key r p=kf key l q:=by
 unfold kf
 rw[h]
theorem Rot.kout{l r:List α}{a m b p:Nat}(h:Rot l r a m b)(hp:p<a\/b<=p):kf key r p=kf key l p:=kf_congr key (h.out p hp)
theorem Rot.klow{l r:List α}{a m b p:Nat}(h:Rot l r a m b)(h1:a<=p)(h2:p<a+(b-m)):kf key r p=kf key l (p+(m-a)):=kf_congr key (h.low p h1 h2)
theorem Rot.khigh{l r:List α}{a m b p:Nat}(h:Rot l r a m b)(h1:a+(b-m)<=p)(h2:p<b):kf key r p=kf key l (p-(b-m)):=kf_congr key (h.high p h1 h2)
theorem merge_first{l r:List α}{a b i:Nat}(hi:a+1<=i)(hib:i<=b)(hs:Srt key l (a+1) b)(h1:∀ p,a+1<=p->p<i->kf key l p<kf key l a)(h2:∀ p,i<=p->p<b->kf key l a<=kf key l p)(t:Rot l r a (a+1) i):Srt key r a b:=by
 intro p q hp hpq hq
 by_cases q1:q<i-1
 .rw[t.klow key (by omega) (by omega),t.klow key (by omega) (by omega)]
  exact hs _ _ (by omega) (by omega) (by omega)
 .by_cases q2:q=i-1
  .rw[t.klow key (by omega) (by omega),t.khigh key (by omega) (by omega),show q-(i-(a+1))=a by omega]
   have:=h1 (p+(a+1-a)) (by omega) (by omega)
   omega
  .rw[t.kout key (p:=q) (by omega)]
   by_cases p1:p<i-1
   .rw[t.klow key (by omega) (by omega)]
    exact hs _ _ (by omega) (by omega) (by omega)
   .by_cases p2:p=i-1
    .rw[t.khigh key (by omega) (by omega),show p-(i-(a+1))=a by omega]
     exact h2 q (by omega) hq
    .rw[t.kout key (by omega)]
     exact hs _ _ (by omega) (by omega) (by omega)
theorem merge_last{l r:List α}{a m i:Nat}(hi:a<=i)(him:i<=m)(hs:Srt key l a m)(h1:∀ p,a<=p->p<i->kf key l p<=kf key l m)(h2:∀ p,i<=p->p<m->kf key l m<kf key l p)(t:Rot l r i m (m+1)):Srt key r a (m+1):=by
 intro p q hp hpq hq
 by_cases p1:p<i
 .rw[t.kout key (p:=p) (by omega)]
  by_cases q1:q<i
  .rw[t.kout key (by omega)]
   exact hs _ _ (by omega) (by omega) (by omega)
  .by_cases q2:q=i
   .rw[t.klow key (by omega) (by omega),show q+(m-i)=m by omega]
    exact h1 p hp p1
   .rw[t.khigh key (by omega) (by omega)]
    exact hs _ _ (by omega) (by omega) (by omega)
 .rw[t.khigh key (p:=q) (by omega) (by omega)]
  by_cases p2:p=i
  .rw[t.klow key (by omega) (by omega),show p+(m-i)=m by omega]
   have:=h2 (q-(m+1-m)) (by omega) (by omega)
   omega
  .rw[t.khigh key (by omega) (by omega)]
   exact hs _ _ (by omega) (by omega) (by omega)
def Low(l:List α)(a m b:Nat):Prop:=∀ p q,a<=p->p<m->m<=q->q<b->kf key l p<=kf key l q
theorem srt_low{l:List α}{a m b:Nat}(h1:Srt key l a m)(h2:Srt key l m b)(h3:Low key l a m b):Srt key l a b:=by
 intro p q hp hpq hq
 by_cases c:q<m
 .exact h1 p q hp hpq c
 .by_cases d:p<m
  .exact h3 p q hp d (by omega) hq
  .exact h2 p q (by omega) hpq hq
structure CutAt (l:List α) (a m b mid s e:Nat):Prop where
 asl:a<=s
 sm:s<=m
 me:m<=e
 eb:e<=b
 mid:s+(e-m)=mid
 up:∀ p q,a<=p->p<s->e<=q->q<b->kf key l p<=kf key l q
 dn:∀ p q,m<=p->p<e->s<=q->q<m->kf key l p<=kf key l q
theorem cut_parts{l r:List α}{a m b mid s e:Nat}(c:CutAt key l a m b mid s e)(h1:Srt key l a m)(h2:Srt key l m b)(t:Rot l r s m e) :
  Srt key r a s/\Srt key r s mid/\Srt key r mid e/\Srt key r e b/\Low key r a mid b:=by
 have:=c.asl;have:=c.sm;have:=c.me;have:=c.eb;have:=c.mid
 refine⟨fun p q x y z=>?_,fun p q x y z=>?_,fun p q x y z=>?_,fun p q x y z=>?_,fun p q x y z w=>?_⟩
 .rw[t.kout key (by omega),t.kout key (by omega)]
  exact h1 _ _ (by omega) (by omega) (by omega)
 .rw[t.klow key (by omega) (by omega),t.klow key (by omega) (by omega)]
  exact h2 _ _ (by omega) (by omega) (by omega)
 .rw[t.khigh key (by omega) (by omega),t.khigh key (by omega) (by omega)]
  exact h1 _ _ (by omega) (by omega) (by omega)
 .rw[t.kout key (by omega),t.kout key (by omega)]
  exact h2 _ _ (by omega) (by omega) (by omega)
 .by_cases p1:p<s
  .rw[t.kout key (p:=p) (by omega)]
   by_cases q1:q<e
   .rw[t.khigh key (by omega) (by omega)]
    exact h1 _ _ (by omega) (by omega) (by omega)
   .rw[t.kout key (by omega)]
    exact c.up _ _ (by omega) (by omega) (by omega) (by omega)
  .rw[t.klow key (p:=p) (by omega) (by omega)]
   by_cases q1:q<e
   .rw[t.khigh key (by omega) (by omega)]
    exact c.dn _ _ (by omega) (by omega) (by omega) (by omega)
   .rw[t.kout key (by omega)]
    exact h2 _ _ (by omega) (by omega) (by omega)
theorem mid_mem{l r:List α}{a b:Nat}(hp:r.Perm l)(hs:Same0 l r a b){p:Nat}(h1:a<=p)(h2:p<b)(hb:b<=l.length):∃ q,a<=q/\q<b/\r[p]? = l[q]?:=by
 have hlen:=hp.length_eq
 have ht:r.take a=l.take a:=by
  apply List.ext_getElem?
  intro i
  rw[List.getElem?_take,List.getElem?_take]
  split
  .exact hs i (by omega)
  .rfl
 have hd:r.drop b=l.drop b:=by
  apply List.ext_getElem?
  intro i
  rw[List.getElem?_drop,List.getElem?_drop]
  exact hs _ (by omega)
 have er:∀ x:List α,b<=x.length->x=x.take a++((x.drop a).take (b-a)++x.drop b):=fun x hx=>by
  have e1:=(List.take_append_drop a x).symm
  have e2:=(List.take_append_drop (b-a) (x.drop a)).symm
  rw[List.drop_drop,show a+(b-a)=b by omega]at e2
  rw[←e2]
  exact e1
 have hp2:(r.take a++((r.drop a).take (b-a)++r.drop b)).Perm (l.take a++((l.drop a).take (b-a)++l.drop b)):=by
  rw[←er r (by omega),←er l hb]
  exact hp
 rw[ht,hd]at hp2
 have hp3:=(List.perm_append_right_iff _).1 ((List.perm_append_left_iff _).1 hp2)
 have hpr:p<r.length:=by omega
 have hm:r[p]∈(r.drop a).take (b-a):=by
  rw[List.mem_iff_getElem?]
  refine⟨p-a,?_⟩
  rw[List.getElem?_take,if_pos (by omega),List.getElem?_drop,show a+(p-a)=p by omega,List.getElem?_eq_getElem hpr]
 have hm2:=hp3.mem_iff.1 hm
 rw[List.mem_iff_getElem?]at hm2
 obtain⟨i,hi⟩:=hm2
 rw[List.getElem?_take]at hi
 split at hi
 .rename_i hib
  rw[List.getElem?_drop]at hi
  exact⟨a+i,by omega,by omega,by rw[hi,List.getElem?_eq_getElem hpr]⟩
 .cases hi
theorem low_left{l r:List α}{a m b:Nat}(h:Low key l a m b)(hp:r.Perm l)(hs:Same0 l r a m)(hb:m<=l.length):Low key r a m b:=by
 intro p q x y z w
 obtain⟨p2,h1,h2,h3⟩:=mid_mem hp hs x y hb
 rw[kf_congr key h3,hs.kf key (by omega)]
 exact h p2 q h1 h2 z w
theorem low_right{l r:List α}{a m b:Nat}(h:Low key l a m b)(hp:r.Perm l)(hs:Same0 l r m b)(hb:b<=l.length):Low key r a m b:=by
 intro p q x y z w
 obtain⟨q2,h1,h2,h3⟩:=mid_mem hp hs z w hb
 rw[kf_congr key h3,hs.kf key (by omega)]
 exact h p q2 x y h1 h2
theorem Srt.same'{l r:List α}{a b p q:Nat}(h:Srt key l p q)(hs:Same0 l r a b)(hd:q<=a\/b<=p):Srt key r p q:=by
 intro x y h1 h2 h3
 rw[hs.kf key (by omega),hs.kf key (by omega)]
 exact h x y h1 h2 h3
theorem srt_join{l:List α}{a s m:Nat}(h:s=a\/s=m)(h1:Srt key l a s)(h2:Srt key l s m):Srt key l a m:=by
 rcases h with rfl|rfl
 .exact h2
 .exact h1
structure Bs (l:List α) (n x y s r:Nat):Prop where
 xs:x<=s
 sr:s<=r
 ry:r<=y
 lo:∀ c,x<=c->c<s->kf key l c<=kf key l (n-1-c)
 hi:∀ c,r<=c->c<y->kf key l (n-1-c)<kf key l c
section
variable {l:List α} {n x y s r a m b:Nat}
theorem Bs.up(B:Bs key l n x y s r)(h1:Srt key l a m)(h2:Srt key l m b)(hx:a<=x)(hy:y<=m)(hn:n<=x+b)(hm:m+y<=n){c:Nat}(hc:s<=c)(hr:c<r)(h:kf key l c<=kf key l (n-1-c)):Bs key l n x y (c+1) r:=by
 have:=B.xs;have:=B.sr;have:=B.ry
 refine⟨by omega,by omega,B.ry,fun d hd1 hd2=>?_,B.hi⟩
 by_cases hdc:d=c
 .rw[hdc];exact h
 .have e1:=h1 d c (by omega) (by omega) (by omega)
  have e2:=h2 (n-1-c) (n-1-d) (by omega) (by omega) (by omega)
  omega
theorem Bs.dn(B:Bs key l n x y s r)(h1:Srt key l a m)(h2:Srt key l m b)(hx:a<=x)(hy:y<=m)(hn:n<=x+b)(hm:m+y<=n){c:Nat}(hc:s<=c)(hr:c<r)(h:kf key l (n-1-c)<kf key l c):Bs key l n x y s c:=by
 have:=B.xs;have:=B.sr;have:=B.ry
 refine⟨B.xs,hc,by omega,B.lo,fun d hd1 hd2=>?_⟩
 by_cases hdc:d=c
 .rw[hdc];exact h
 .have e1:=h1 c d (by omega) (by omega) (by omega)
  have e2:=h2 (n-1-d) (n-1-c) (by omega) (by omega) (by omega)
  omega
theorem Bs.cut{mid:Nat}(B:Bs key l (mid+m) x y s s)(h1:Srt key l a m)(h2:Srt key l m b)(hx:a<=x)(hy:y<=m)(hn:mid+m<=x+b)(hm:y<=mid)(cx:x=a\/mid+m=x+b)(cy:y=m\/y=mid):CutAt key l a m b mid s (mid+m-s):=by
 have:=B.xs;have:=B.ry
 refine⟨by omega,by omega,by omega,by omega,by omega,fun p q c1 c2 c3 c4=>?_,fun p q c1 c2 c3 c4=>?_⟩
 .have hs:x<s:=by omega
  have e:=B.lo (s-1) (by omega) (by omega)
  rw[show mid+m-1-(s-1)=mid+m-s by omega]at e
  have e1:kf key l p<=kf key l (s-1):=by
   by_cases h:p=s-1
   .rw[h];exact Int.le_refl _
   .exact h1 _ _ (by omega) (by omega) (by omega)
  have e2:kf key l (mid+m-s)<=kf key l q:=by
   by_cases h:q=mid+m-s
   .rw[h];exact Int.le_refl _
   .exact h2 _ _ (by omega) (by omega) (by omega)
  omega
 .have hs:s<y:=by omega
  have e:=B.hi s (by omega) (by omega)
  have e1:kf key l p<=kf key l (mid+m-1-s):=by
   by_cases h:p=mid+m-1-s
   .rw[h];exact Int.le_refl _
   .exact h2 _ _ (by omega) (by omega) (by omega)
  have e2:kf key l s<=kf key l q:=by
   by_cases h:q=s
   .rw[h];exact Int.le_refl _
   .exact h1 _ _ (by omega) (by omega) (by omega)
  omega
end
theorem rot_up{l r:List α}{a k:Nat}(h:a<=k)(hk:k+1<l.length)(hr:r.length=l.length)(t:Rot l r a (a+1) (k+1)):Rot l (swapL r k (k+1)) a (a+1) (k+2):=by
 have e1:∀ p,(swapL r k (k+1))[p]? = if p=k then r[k+1]? else if p=k+1 then r[k]? else r[p]?:=fun p=>by
  rw[swapL_eq (by omega) (by omega)]
  by_cases h1:p=k+1
  .subst h1
   rw[if_neg (by omega),if_pos rfl,List.getElem?_set_self (by rw[List.length_set];omega),List.getElem?_eq_getElem (by omega)]
  .rw[List.getElem?_set_ne (fun e=>h1 e.symm)]
   by_cases h2:p=k
   .subst h2
    rw[if_pos rfl,List.getElem?_set_self (by omega),List.getElem?_eq_getElem (by omega)]
   .rw[if_neg h2,if_neg h1,List.getElem?_set_ne (fun e=>h2 e.symm)]
 refine⟨fun p hp=>?_,fun p h1 h2=>?_,fun p h1 h2=>?_⟩
 .rw[e1,if_neg (by omega),if_neg (by omega),t.out p (by omega)]
 .rw[e1]
  by_cases h:p=k
  .rw[if_pos h,t.out _ (by omega)]
   exact get_congr (by omega)
  .rw[if_neg h,if_neg (by omega),t.low p h1 (by omega)]
 .rw[e1,if_neg (by omega),if_pos (by omega),t.high k (by omega) (by omega)]
  exact get_congr (by omega)
theorem rot_down{l r:List α}{m k:Nat}(h:k<m)(hk:m<l.length)(hr:r.length=l.length)(t:Rot l r (k+1) m (m+1)):Rot l (swapL r (k+1) k) k m (m+1):=by
 have e1:∀ p,(swapL r (k+1) k)[p]? = if p=k then r[k+1]? else if p=k+1 then r[k]? else r[p]?:=fun p=>by
  rw[swapL_eq (by omega) (by omega)]
  by_cases h1:p=k
  .subst h1
   rw[if_pos rfl,List.getElem?_set_self (by rw[List.length_set];omega),List.getElem?_eq_getElem (by omega)]
  .rw[if_neg h1,List.getElem?_set_ne (fun e=>h1 e.symm)]
   by_cases h2:p=k+1
   .subst h2
    rw[if_pos rfl,List.getElem?_set_self (by omega),List.getElem?_eq_getElem (by omega)]
   .rw[if_neg h2,List.getElem?_set_ne (fun e=>h2 e.symm)]
 refine⟨fun p hp=>?_,fun p h1 h2=>?_,fun p h1 h2=>?_⟩
 .rw[e1,if_neg (by omega),if_neg (by omega),t.out p (by omega)]
 .rw[e1,if_pos (by omega),t.low (k+1) (by omega) (by omega)]
  exact get_congr (by omega)
 .rw[e1,if_neg (by omega)]
  by_cases h:p=k+1
  .rw[if_pos h,t.out _ (by omega)]
   exact get_congr (by omega)
  .rw[if_neg h,t.high p (by omega) (by omega)]
end
end Go.Proofs.YtpncilciembjdaaGreatDoor
namespace Go.Proofs.YtpncilciembjdaaGreatDoor
open Go.RowKit

theorem half_ok{a b:Nat}(h:a+b<4611686018427387904):realA.conv .i64 (realA.shr .u64 (realA.conv .u64 (realA.add .i64 (a:Int) (b:Int))) 1)=(((a+b) / 2:Nat):Int):=by
 rw[r_add (by omega) (by omega),show (a:Int)+(b:Int)=((a+b:Nat):Int) by omega,r_conv64 (by omega)]
 have:realA.shr .u64 ((a+b:Nat):Int) 1=(((a+b) / 2:Nat):Int):=by
  show Int.fdiv ((a+b:Nat):Int) (2 ^ 1)=_
  have:(2 ^ 1:Int)=((2:Nat):Int):=by decide
  rw[this,Int.fdiv_eq_ediv_of_nonneg _ (by omega)]
  rfl
 rw[this]
 show IntKind.i64.wrap (((a+b) / 2:Nat):Int)=_
 rw[IntKind.wrap_i64]
 omega
theorem addNN{a b:Nat}(h:a+b<4611686018427387904):realA.add .i64 (a:Int) (b:Int)=((a+b:Nat):Int):=by
 rw[r_add (by omega) (by omega)]
 omega
theorem subNN{a b:Nat}(hb:b<=a)(h:a<4611686018427387904):realA.sub .i64 (a:Int) (b:Int)=((a-b:Nat):Int):=by
 rw[r_sub (by omega) (by omega)]
 omega
theorem subN1'{a:Nat}(hb:1<=a)(h:a<4611686018427387904):realA.sub .i64 (a:Int) 1=((a-1:Nat):Int):=by
 rw[r_sub (by omega) (by omega)]
 omega
abbrev bkP(l:List Pt):ABlk:=ABlk.mk (rowC eP l) true true
section
variable {D:Orc} (K:Knows ownC tabSo D)
include K
theorem swp_lp(a b n:Nat)(l0:List Pt):∀(m i:Nat) (l:List Pt),n-i=m->i<=n->a+n<=b->b+n<=l.length->l.length<=1000000000->l.length=l0.length->SwR l0 l a b i->
  ∃ r:List Pt,D.ask (.lp 275 0) [.sl 0 0 l.length 3,iv (a:Int),iv (b:Int),iv (n:Int),iv (i:Int)] [bkP l]=some (.tup [iv 0,.sl 0 0 l.length 3],[.set (bkP r)])
   ∧ r.length=l.length/\r.Perm l/\SwR l0 r a b n:=by
 intro m
 induction m with
 |zero=>
  intro i l hm hi ha hb hl h0 hs
  obtain rfl:i=n:=by omega
  refine⟨l,?_,rfl,List.Perm.refl _,hs⟩
  refine K.lp' hn275 _ rfl (by kernel_rfl) ((e275_0 ..).trans ?_)
  exact(br_ltF (by omega)).trans rfl
 |succ m ih=>
  intro i l hm hi ha hb hl h0 hs
  have hI:a+i<l.length:=by omega
  have hJ:b+i<l.length:=by omega
  have hlen:=swapL_len l (a+i) (b+i)
  obtain⟨r,g,hr,hp,ho⟩:=ih (i+1) (swapL l (a+i) (b+i)) (by omega) (by omega) ha (by omega) (by omega) (by omega) (swr_step (by omega) (by omega) hs h0)
  rw[hlen]at g hr
  refine⟨r,?_,hr,hp.trans (swapL_perm _ _ _),ho⟩
  refine K.lp' hn275 _ rfl (by kernel_rfl) ((e275_0 ..).trans ?_)
  refine(br_ltT (by omega)).trans ?_
  rw[addNN (a:=b) (b:=i) (by omega),addNN (a:=a) (b:=i) (by omega),add1 (by omega)]
  rw[unI_n,blt_yes hJ]
  refine(br_t _ _).trans ?_
  refine(rdK_row eP_len l (b+i) hJ _).trans ?_
  simp only[eP,eN,ND,DK,unFn_fn]
  rw[unI_n,blt_yes hI]
  refine(br_t _ _).trans ?_
  refine(rdK_row eP_len l (a+i) hI _).trans ?_
  simp only[eP,eN,ND,DK,unFn_fn]
  have s1:=splice_row eP_len l (a+i) hI l[(b+i)]
  have s2:=splice_row eP_len (l.set (a+i) l[(b+i)]) (b+i) (by rw[List.length_set];exact hJ) l[(a+i)]
  rw[←swapL_eq hI hJ]at s2
  simp only[eP,eN]at s1 s2
  rw[unI_n,blt_yes hI]
  refine(br_t _ _).trans ?_
  rw[show Nat.ble (0+(a+i)*3+3) (rowC eP l).length=true by rw[rowC_len eP_len];simp;omega]
  refine(br_t _ _).trans ?_
  rw[unI_n,blt_yes hJ]
  refine(br_t _ _).trans ?_
  rw[s1,s2]
  rw[show Nat.ble (0+(b+i)*3+3) (rowC eP (l.set (a+i) l[(b+i)])).length=true by rw[rowC_len eP_len,List.length_set];simp;omega]
  refine(br_t _ _).trans ?_
  refine(askK_of g _).trans ?_
  rfl
theorem swp_ok{a b n:Nat}{l:List Pt}(ha:a+n<=b)(hb:b+n<=l.length)(hl:l.length<=1000000000) :
  ∃ r:List Pt,D.ask (.fn 275) [.sl 0 0 l.length 3,iv (a:Int),iv (b:Int),iv (n:Int),fnV] [bkP l]=some (.tup [],[.set (bkP r)])
   ∧ r.length=l.length/\r.Perm l/\SwR l r a b n:=by
 obtain⟨r,g,h⟩:=swp_lp K a b n l _ 0 l rfl (by omega) ha hb hl rfl (swr_zero l a b)
 refine⟨r,?_,h⟩
 refine K.fn' hn275 _ rfl ((e275 ..).trans ?_)
 refine(askK_of g _).trans ?_
 rfl
theorem rot_lp(m:Nat):∀(s i j:Nat) (l:List Pt),i+j=s->0<i->0<j->i<=m->m+j<=l.length->l.length<=1000000000->
  ∃(r:List Pt) (d:Nat),D.ask (.lp 265 0) [.sl 0 0 l.length 3,iv (m:Int),fnV,iv (i:Int),iv (j:Int)] [bkP l]=some (.tup [iv 0,.sl 0 0 l.length 3,iv (m:Int),fnV,iv (d:Int)],[.set (bkP r)])
   ∧ r.length=l.length/\r.Perm l/\d<=m/\m+d<=l.length/\∀ r2:List Pt,SwR r r2 (m-d) m d->Rot l r2 (m-i) m (m+j):=by
 intro s
 induction s using Nat.strongRecOn with
 |_ s ih=>
  intro i j l hs hi hj him hl hn
  by_cases he:i=j
  .subst he
   refine⟨l,i,?_,rfl,List.Perm.refl _,him,hl,fun r2 h=>rot_same him h⟩
   refine K.lp' hn265 _ rfl (by kernel_rfl) ((e265_0 ..).trans ?_)
   exact(br_eqT rfl).trans rfl
  by_cases hlt:j<i
  .obtain⟨r,g,hr,hp,hsw⟩:=swp_ok K (a:=m-i) (b:=m) (n:=j) (l:=l) (by omega) hl hn
   obtain⟨r2,d,g2,hr2,hp2,hd1,hd2,hd3⟩:=ih (i-j+j) (by omega) (i-j) j r rfl (by omega) hj (by omega) (by omega) (by omega)
   rw[hr]at g2 hr2 hd2
   refine⟨r2,d,?_,hr2,hp2.trans hp,hd1,hd2,fun r3 h=>rot_left him hlt hsw (hd3 r3 h)⟩
   refine K.lp' hn265 _ rfl (by kernel_rfl) ((e265_0 ..).trans ?_)
   refine(br_eqF (by omega)).trans ?_
   refine(br_ltT (by omega)).trans ?_
   rw[subNN him (by omega),subNN (a:=i) (b:=j) (by omega) (by omega)]
   refine(askK_of g _).trans ?_
   simp only[fnV,ND,DK,unFn_fn]
   refine(askK_of g2 _).trans ?_
   rfl
  .obtain⟨r,g,hr,hp,hsw⟩:=swp_ok K (a:=m-i) (b:=m+j-i) (n:=i) (l:=l) (by omega) (by omega) hn
   obtain⟨r2,d,g2,hr2,hp2,hd1,hd2,hd3⟩:=ih (i+(j-i)) (by omega) i (j-i) r rfl hi (by omega) him (by omega) (by omega)
   rw[hr]at g2 hr2 hd2
   refine⟨r2,d,?_,hr2,hp2.trans hp,hd1,hd2,fun r3 h=>rot_right him (by omega) hsw (hd3 r3 h)⟩
   refine K.lp' hn265 _ rfl (by kernel_rfl) ((e265_0 ..).trans ?_)
   refine(br_eqF (by omega)).trans ?_
   refine(br_ltF (by omega)).trans ?_
   rw[subNN him (by omega),addNN (a:=m) (b:=j) (by omega),subNN (a:=m+j) (b:=i) (by omega) (by omega),subNN (a:=j) (b:=i) (by omega) (by omega)]
   refine(askK_of g _).trans ?_
   simp only[fnV,ND,DK,unFn_fn]
   refine(askK_of g2 _).trans ?_
   rfl
theorem rot_ok{a m b:Nat}{l:List Pt}(ha:a<m)(hm:m<b)(hb:b<=l.length)(hl:l.length<=1000000000) :
  ∃ r:List Pt,D.ask (.fn 265) [.sl 0 0 l.length 3,iv (a:Int),iv (m:Int),iv (b:Int),fnV] [bkP l]=some (.tup [],[.set (bkP r)])
   ∧ r.length=l.length/\r.Perm l/\Rot l r a m b:=by
 obtain⟨r,d,g,hr,hp,hd1,hd2,hd3⟩:=rot_lp K m _ (m-a) (b-m) l rfl (by omega) (by omega) (by omega) (by omega) hl
 obtain⟨r2,g2,hr2,hp2,hsw⟩:=swp_ok K (a:=m-d) (b:=m) (n:=d) (l:=r) (by omega) (by omega) (by omega)
 have h:=hd3 r2 hsw
 rw[show m-(m-a)=a by omega,show m+(b-m)=b by omega]at h
 rw[hr]at g2
 refine⟨r2,?_,by omega,hp2.trans hp,h⟩
 refine K.fn' hn265 _ rfl ((e265 ..).trans ?_)
 rw[subNN (a:=m) (b:=a) (by omega) (by omega),subNN (a:=b) (b:=m) (by omega) (by omega)]
 refine(askK_of g _).trans ?_
 simp only[fnV,ND,DK,unFn_fn]
 rw[subNN hd1 (by omega)]
 refine(askK_of g2 _).trans ?_
 rfl
theorem sym_lp0(a m b:Nat)(l:List Pt)(hl:l.length<=1000000000)(ha:a<m)(hb:b<=l.length)(hs:Srt Pt.v l m b):∀(k i j:Nat),j-i=k->m<=i->i<=j->j<=b->(∀ p,m<=p->p<i->kf Pt.v l p<kf Pt.v l a)->(∀ p,j<=p->p<b->kf Pt.v l a<=kf Pt.v l p)->
  ∃ x:Nat,D.ask (.lp 235 0) [.sl 0 0 l.length 3,iv (a:Int),fnV,iv (i:Int),iv (j:Int)] [bkP l]=some (.tup [iv 0,.sl 0 0 l.length 3,iv (a:Int),iv (x:Int)],[.set (bkP l)])
   ∧ m<=x/\x<=b/\(∀ p,m<=p->p<x->kf Pt.v l p<kf Pt.v l a)/\(∀ p,x<=p->p<b->kf Pt.v l a<=kf Pt.v l p):=by
 intro k
 induction k using Nat.strongRecOn with
 |_ k ih=>
  intro i j hk hmi hij hjb h1 h2
  by_cases he:i<j
  .have hH:(i+j) / 2<l.length:=by omega
   have hA:a<l.length:=by omega
   have kh:kf Pt.v l ((i+j) / 2)=l[(i+j) / 2].v:=kf_get Pt.v hH
   have ka:kf Pt.v l a=l[a].v:=kf_get Pt.v hA
   by_cases hlt:l[(i+j) / 2].v<l[a].v
   .obtain⟨x,g,hx⟩:=ih (j-((i+j) / 2+1)) (by omega) ((i+j) / 2+1) j rfl (by omega) (by omega) hjb (fun p p1 p2=>by
     by_cases hp:p=(i+j) / 2
     .rw[hp,kh,ka];exact hlt
     .have:=hs p ((i+j) / 2) p1 (by omega) (by omega)
      omega) h2
    refine⟨x,?_,hx⟩
    refine K.lp' hn235 _ rfl (by kernel_rfl) ((e235_0 ..).trans ?_)
    refine(br_ltT (by omega)).trans ?_
    refine(br_ltF (by decide)).trans ?_
    rw[half_ok (by omega),add1 (by omega)]
    rw[unI_n,blt_yes hH]
    refine(br_t _ _).trans ?_
    refine(rdK_row eP_len l ((i+j) / 2) hH _).trans ?_
    simp only[eP,eN,ND,DK,unFn_fn]
    rw[unI_n,blt_yes hA]
    refine(br_t _ _).trans ?_
    refine(rdK_row eP_len l a hA _).trans ?_
    simp only[eP,eN,ND,DK,unFn_fn]
    refine(askK_of (byV_ok K l[(i+j) / 2] l[a]) _).trans ?_
    simp only[ND,DK,unFn_fn]
    refine(br_ltT (cmpZ_lt.2 hlt)).trans ?_
    refine(askK_of g _).trans ?_
    rfl
   .obtain⟨x,g,hx⟩:=ih ((i+j) / 2-i) (by omega) i ((i+j) / 2) rfl hmi (by omega) (by omega) h1 (fun p p1 p2=>by
     by_cases hp:p=(i+j) / 2
     .rw[hp];omega
     .have:=hs ((i+j) / 2) p (by omega) (by omega) (by omega)
      omega)
    refine⟨x,?_,hx⟩
    refine K.lp' hn235 _ rfl (by kernel_rfl) ((e235_0 ..).trans ?_)
    refine(br_ltT (by omega)).trans ?_
    refine(br_ltF (by decide)).trans ?_
    rw[half_ok (by omega)]
    rw[unI_n,blt_yes hH]
    refine(br_t _ _).trans ?_
    refine(rdK_row eP_len l ((i+j) / 2) hH _).trans ?_
    simp only[eP,eN,ND,DK,unFn_fn]
    rw[unI_n,blt_yes hA]
    refine(br_t _ _).trans ?_
    refine(rdK_row eP_len l a hA _).trans ?_
    simp only[eP,eN,ND,DK,unFn_fn]
    refine(askK_of (byV_ok K l[(i+j) / 2] l[a]) _).trans ?_
    simp only[ND,DK,unFn_fn]
    refine(br_ltF (fun h=>hlt (cmpZ_lt.1 h))).trans ?_
    refine(askK_of g _).trans ?_
    rfl
  .obtain rfl:i=j:=by omega
   refine⟨i,?_,hmi,hjb,h1,h2⟩
   refine K.lp' hn235 _ rfl (by kernel_rfl) ((e235_0 ..).trans ?_)
   exact(br_ltF (by omega)).trans rfl
theorem sym_lp1(a x:Nat)(l0:List Pt):∀(n k:Nat) (l:List Pt),x-1-k=n->a<=k->k<x->x<=l.length->l.length<=1000000000->l.length=l0.length->Rot l0 l a (a+1) (k+1)->
  ∃ r:List Pt,D.ask (.lp 235 1) [.sl 0 0 l.length 3,iv (x:Int),iv (k:Int)] [bkP l]=some (.tup [iv 2,.sl 0 0 l.length 3],[.set (bkP r)])
   ∧ r.length=l.length/\r.Perm l/\Rot l0 r a (a+1) x:=by
 intro n
 induction n with
 |zero=>
  intro k l hn ha hk hx hl h0 ht
  obtain rfl:x=k+1:=by omega
  refine⟨l,?_,rfl,List.Perm.refl _,ht⟩
  refine K.lp' hn235 _ rfl (by kernel_rfl) ((e235_1 ..).trans ?_)
  rw[subN1' (by omega) (by omega)]
  exact(br_ltF (by omega)).trans rfl
 |succ n ih=>
  intro k l hn ha hk hx hl h0 ht
  have hI:k<l.length:=by omega
  have hJ:k+1<l.length:=by omega
  have hlen:=swapL_len l k (k+1)
  obtain⟨r,g,hr,hp,ho⟩:=ih (k+1) (swapL l k (k+1)) (by omega) (by omega) (by omega) (by omega) (by omega) (by omega) (rot_up ha (by omega) h0 ht)
  rw[hlen]at g hr
  refine⟨r,?_,hr,hp.trans (swapL_perm _ _ _),ho⟩
  refine K.lp' hn235 _ rfl (by kernel_rfl) ((e235_1 ..).trans ?_)
  rw[subN1' (by omega) (by omega)]
  refine(br_ltT (by omega)).trans ?_
  rw[add1 (by omega)]
  rw[unI_n,blt_yes hJ]
  refine(br_t _ _).trans ?_
  refine(rdK_row eP_len l (k+1) hJ _).trans ?_
  simp only[eP,eN,ND,DK,unFn_fn]
  rw[unI_n,blt_yes hI]
  refine(br_t _ _).trans ?_
  refine(rdK_row eP_len l k hI _).trans ?_
  simp only[eP,eN,ND,DK,unFn_fn]
  have s1:=splice_row eP_len l k hI l[(k+1)]
  have s2:=splice_row eP_len (l.set k l[(k+1)]) (k+1) (by rw[List.length_set];exact hJ) l[k]
  rw[←swapL_eq hI hJ]at s2
  simp only[eP,eN]at s1 s2
  rw[unI_n,blt_yes hI]
  refine(br_t _ _).trans ?_
  rw[show Nat.ble (0+k*3+3) (rowC eP l).length=true by rw[rowC_len eP_len];simp;omega]
  refine(br_t _ _).trans ?_
  rw[unI_n,blt_yes hJ]
  refine(br_t _ _).trans ?_
  rw[s1,s2]
  rw[show Nat.ble (0+(k+1)*3+3) (rowC eP (l.set k l[(k+1)])).length=true by rw[rowC_len eP_len,List.length_set];simp;omega]
  refine(br_t _ _).trans ?_
  refine(askK_of g _).trans ?_
  rfl
theorem sym_lp2(a m:Nat)(l:List Pt)(hl:l.length<=1000000000)(hb:m<l.length)(hs:Srt Pt.v l a m):∀(k i j:Nat),j-i=k->a<=i->i<=j->j<=m->(∀ p,a<=p->p<i->kf Pt.v l p<=kf Pt.v l m)->(∀ p,j<=p->p<m->kf Pt.v l m<kf Pt.v l p)->
  ∃ x:Nat,D.ask (.lp 235 2) [.sl 0 0 l.length 3,iv (m:Int),fnV,iv (i:Int),iv (j:Int)] [bkP l]=some (.tup [iv 4,.sl 0 0 l.length 3,iv (m:Int),iv (x:Int)],[.set (bkP l)])
   ∧ a<=x/\x<=m/\(∀ p,a<=p->p<x->kf Pt.v l p<=kf Pt.v l m)/\(∀ p,x<=p->p<m->kf Pt.v l m<kf Pt.v l p):=by
 intro k
 induction k using Nat.strongRecOn with
 |_ k ih=>
  intro i j hk hmi hij hjb h1 h2
  by_cases he:i<j
  .have hH:(i+j) / 2<l.length:=by omega
   have kh:kf Pt.v l ((i+j) / 2)=l[(i+j) / 2].v:=kf_get Pt.v hH
   have ka:kf Pt.v l m=l[m].v:=kf_get Pt.v hb
   by_cases hlt:l[m].v<l[(i+j) / 2].v
   .obtain⟨x,g,hx⟩:=ih ((i+j) / 2-i) (by omega) i ((i+j) / 2) rfl hmi (by omega) (by omega) h1 (fun p p1 p2=>by
     by_cases hp:p=(i+j) / 2
     .rw[hp];omega
     .have:=hs ((i+j) / 2) p (by omega) (by omega) (by omega)
      omega)
    refine⟨x,?_,hx⟩
    refine K.lp' hn235 _ rfl (by kernel_rfl) ((e235_2 ..).trans ?_)
    refine(br_ltT (by omega)).trans ?_
    refine(br_ltF (by decide)).trans ?_
    rw[half_ok (by omega)]
    rw[unI_n,blt_yes hb]
    refine(br_t _ _).trans ?_
    refine(rdK_row eP_len l m hb _).trans ?_
    simp only[eP,eN,ND,DK,unFn_fn]
    rw[unI_n,blt_yes hH]
    refine(br_t _ _).trans ?_
    refine(rdK_row eP_len l ((i+j) / 2) hH _).trans ?_
    simp only[eP,eN,ND,DK,unFn_fn]
    refine(askK_of (byV_ok K l[m] l[(i+j) / 2]) _).trans ?_
    simp only[ND,DK,unFn_fn]
    refine(br_ltT (cmpZ_lt.2 hlt)).trans ?_
    refine(askK_of g _).trans ?_
    rfl
   .obtain⟨x,g,hx⟩:=ih (j-((i+j) / 2+1)) (by omega) ((i+j) / 2+1) j rfl (by omega) (by omega) hjb (fun p p1 p2=>by
     by_cases hp:p=(i+j) / 2
     .rw[hp];omega
     .have:=hs p ((i+j) / 2) p1 (by omega) (by omega)
      omega) h2
    refine⟨x,?_,hx⟩
    refine K.lp' hn235 _ rfl (by kernel_rfl) ((e235_2 ..).trans ?_)
    refine(br_ltT (by omega)).trans ?_
    refine(br_ltF (by decide)).trans ?_
    rw[half_ok (by omega),add1 (by omega)]
    rw[unI_n,blt_yes hb]
    refine(br_t _ _).trans ?_
    refine(rdK_row eP_len l m hb _).trans ?_
    simp only[eP,eN,ND,DK,unFn_fn]
    rw[unI_n,blt_yes hH]
    refine(br_t _ _).trans ?_
    refine(rdK_row eP_len l ((i+j) / 2) hH _).trans ?_
    simp only[eP,eN,ND,DK,unFn_fn]
    refine(askK_of (byV_ok K l[m] l[(i+j) / 2]) _).trans ?_
    simp only[ND,DK,unFn_fn]
    refine(br_ltF (fun h=>hlt (cmpZ_lt.1 h))).trans ?_
    refine(askK_of g _).trans ?_
    rfl
  .obtain rfl:i=j:=by omega
   refine⟨i,?_,hmi,hjb,h1,h2⟩
   refine K.lp' hn235 _ rfl (by kernel_rfl) ((e235_2 ..).trans ?_)
   exact(br_ltF (by omega)).trans rfl
theorem sym_lp3(m x:Nat)(l0:List Pt):∀(n k:Nat) (l:List Pt),k-x=n->x<=k->k<=m->m<l.length->l.length<=1000000000->l.length=l0.length->Rot l0 l k m (m+1)->
  ∃ r:List Pt,D.ask (.lp 235 3) [.sl 0 0 l.length 3,iv (x:Int),iv (k:Int)] [bkP l]=some (.tup [iv 6,.sl 0 0 l.length 3],[.set (bkP r)])
   ∧ r.length=l.length/\r.Perm l/\Rot l0 r x m (m+1):=by
 intro n
 induction n with
 |zero=>
  intro k l hn hx hk hm hl h0 ht
  obtain rfl:x=k:=by omega
  refine⟨l,?_,rfl,List.Perm.refl _,ht⟩
  refine K.lp' hn235 _ rfl (by kernel_rfl) ((e235_3 ..).trans ?_)
  exact(br_ltF (by omega)).trans rfl
 |succ n ih=>
  intro k l hn hx hk hm hl h0 ht
  obtain⟨j,rfl⟩:∃ j,k=j+1:=⟨k-1,by omega⟩
  have hI:j+1<l.length:=by omega
  have hJ:j<l.length:=by omega
  have hlen:=swapL_len l (j+1) j
  obtain⟨r,g,hr,hp,ho⟩:=ih j (swapL l (j+1) j) (by omega) (by omega) (by omega) (by omega) (by omega) (by omega) (rot_down (by omega) (by omega) h0 ht)
  rw[hlen]at g hr
  refine⟨r,?_,hr,hp.trans (swapL_perm _ _ _),ho⟩
  refine K.lp' hn235 _ rfl (by kernel_rfl) ((e235_3 ..).trans ?_)
  refine(br_ltT (by omega)).trans ?_
  rw[subN1 (by omega)]
  rw[unI_n,blt_yes hJ]
  refine(br_t _ _).trans ?_
  refine(rdK_row eP_len l j hJ _).trans ?_
  simp only[eP,eN,ND,DK,unFn_fn]
  rw[unI_n,blt_yes hI]
  refine(br_t _ _).trans ?_
  refine(rdK_row eP_len l (j+1) hI _).trans ?_
  simp only[eP,eN,ND,DK,unFn_fn]
  have s1:=splice_row eP_len l (j+1) hI l[j]
  have s2:=splice_row eP_len (l.set (j+1) l[j]) j (by rw[List.length_set];exact hJ) l[(j+1)]
  rw[←swapL_eq hI hJ]at s2
  simp only[eP,eN]at s1 s2
  rw[unI_n,blt_yes hI]
  refine(br_t _ _).trans ?_
  rw[show Nat.ble (0+(j+1)*3+3) (rowC eP l).length=true by rw[rowC_len eP_len];simp;omega]
  refine(br_t _ _).trans ?_
  rw[unI_n,blt_yes hJ]
  refine(br_t _ _).trans ?_
  rw[s1,s2]
  rw[show Nat.ble (0+j*3+3) (rowC eP (l.set (j+1) l[j])).length=true by rw[rowC_len eP_len,List.length_set];simp;omega]
  refine(br_t _ _).trans ?_
  refine(askK_of g _).trans ?_
  rfl
theorem sym_lp4(a m b mid x y:Nat)(l:List Pt)(hl:l.length<=1000000000)(hb:b<=l.length)(hs1:Srt Pt.v l a m)(hs2:Srt Pt.v l m b)(hx:a<=x)(hy:y<=m)(hn:mid+m<=x+b)(hm:y<=mid)(hmid:mid<=b)(hmb:m<=b):∀(k s r:Nat),r-s=k->Bs Pt.v l (mid+m) x y s r->
  ∃ z:Nat,D.ask (.lp 235 4) [.sl 0 0 l.length 3,iv (a:Int),iv (m:Int),iv (b:Int),fnV,iv (mid:Int),iv ((mid+m:Nat):Int),iv (s:Int),iv (r:Int),iv ((mid+m-1:Nat):Int)] [bkP l]=some (.tup [iv 8,.sl 0 0 l.length 3,iv (a:Int),iv (m:Int),iv (b:Int),fnV,iv (mid:Int),iv ((mid+m:Nat):Int),iv (z:Int)],[.set (bkP l)])
   ∧ Bs Pt.v l (mid+m) x y z z:=by
 intro k
 induction k using Nat.strongRecOn with
 |_ k ih=>
  intro s r hk B
  have:=B.xs;have:=B.sr;have:=B.ry
  by_cases he:s<r
  .have hH:(s+r) / 2<l.length:=by omega
   have hP:mid+m-1-(s+r) / 2<l.length:=by omega
   have kh:kf Pt.v l ((s+r) / 2)=l[(s+r) / 2].v:=kf_get Pt.v hH
   have kp:kf Pt.v l (mid+m-1-(s+r) / 2)=l[mid+m-1-(s+r) / 2].v:=kf_get Pt.v hP
   by_cases hlt:l[mid+m-1-(s+r) / 2].v<l[(s+r) / 2].v
   .obtain⟨z,g,hz⟩:=ih ((s+r) / 2-s) (by omega) s ((s+r) / 2) rfl (B.dn Pt.v hs1 hs2 hx hy (by omega) (by omega) (by omega) (by omega) (by omega))
    refine⟨z,?_,hz⟩
    refine K.lp' hn235 _ rfl (by kernel_rfl) ((e235_4 ..).trans ?_)
    refine(br_ltT (by omega)).trans ?_
    refine(br_ltF (by decide)).trans ?_
    rw[half_ok (by omega),subNN (a:=mid+m-1) (b:=(s+r) / 2) (by omega) (by omega)]
    rw[unI_n,blt_yes hP]
    refine(br_t _ _).trans ?_
    refine(rdK_row eP_len l (mid+m-1-(s+r) / 2) hP _).trans ?_
    simp only[eP,eN,ND,DK,unFn_fn]
    rw[unI_n,blt_yes hH]
    refine(br_t _ _).trans ?_
    refine(rdK_row eP_len l ((s+r) / 2) hH _).trans ?_
    simp only[eP,eN,ND,DK,unFn_fn]
    refine(askK_of (byV_ok K l[mid+m-1-(s+r) / 2] l[(s+r) / 2]) _).trans ?_
    simp only[ND,DK,unFn_fn]
    refine(br_ltT (cmpZ_lt.2 hlt)).trans ?_
    refine(askK_of g _).trans ?_
    rfl
   .obtain⟨z,g,hz⟩:=ih (r-((s+r) / 2+1)) (by omega) ((s+r) / 2+1) r rfl (B.up Pt.v hs1 hs2 hx hy (by omega) (by omega) (by omega) (by omega) (by omega))
    refine⟨z,?_,hz⟩
    refine K.lp' hn235 _ rfl (by kernel_rfl) ((e235_4 ..).trans ?_)
    refine(br_ltT (by omega)).trans ?_
    refine(br_ltF (by decide)).trans ?_
    rw[half_ok (by omega),subNN (a:=mid+m-1) (b:=(s+r) / 2) (by omega) (by omega),add1 (by omega)]
    rw[unI_n,blt_yes hP]
    refine(br_t _ _).trans ?_
    refine(rdK_row eP_len l (mid+m-1-(s+r) / 2) hP _).trans ?_
    simp only[eP,eN,ND,DK,unFn_fn]
    rw[unI_n,blt_yes hH]
    refine(br_t _ _).trans ?_
    refine(rdK_row eP_len l ((s+r) / 2) hH _).trans ?_
    simp only[eP,eN,ND,DK,unFn_fn]
    refine(askK_of (byV_ok K l[mid+m-1-(s+r) / 2] l[(s+r) / 2]) _).trans ?_
    simp only[ND,DK,unFn_fn]
    refine(br_ltF (fun h=>hlt (cmpZ_lt.1 h))).trans ?_
    refine(askK_of g _).trans ?_
    rfl
  .obtain rfl:s=r:=by omega
   refine⟨s,?_,B⟩
   refine K.lp' hn235 _ rfl (by kernel_rfl) ((e235_4 ..).trans ?_)
   exact(br_ltF (by omega)).trans rfl
end
end Go.Proofs.YtpncilciembjdaaGreatDoor
namespace Go.Proofs.YtpncilciembjdaaGreatDoor
open Go.RowKit

def tl2(D:Orc)(n:Nat)(mid e b:Int)(cs:List AV):KR:=
 br (realA.lt mid e)
  (br (realA.lt e b)
   (askK D (.fn 235) [.sl 0 0 n 3,iv mid,iv e,iv b,fnV] [ABlk.mk cs true true] fun r o=>
   unTup r fun cs4=>
   unNil cs4<|
   unOut o fun c l=>
   unSet true true c fun cs5=>
   unEnd l<|
   some ((AV.tup [],[BO.set (ABlk.mk cs5 true true)])))
   (some ((AV.tup [],[BO.set (ABlk.mk cs true true)]))))
  (some ((AV.tup [],[BO.set (ABlk.mk cs true true)])))
def tl1(D:Orc)(n:Nat)(a s mid e b:Int)(cs:List AV):KR:=
 br (realA.lt a s)
  (br (realA.lt s mid)
   (askK D (.fn 235) [.sl 0 0 n 3,iv a,iv s,iv mid,fnV] [ABlk.mk cs true true] fun r o=>
   unTup r fun cs4=>
   unNil cs4<|
   unOut o fun c l=>
   unSet true true c fun cs5=>
   unEnd l<|
   tl2 D n mid e b cs5)
   (tl2 D n mid e b cs))
  (tl2 D n mid e b cs)
section
variable {D:Orc}
def MergesB(D:Orc)(N:Nat):Prop:=∀(l:List Pt) (a m b:Nat),b-a<N->a<m->m<b->b<=l.length->l.length<=1000000000->Srt Pt.v l a m->Srt Pt.v l m b->
 ∃ r:List Pt,D.ask (.fn 235) [.sl 0 0 l.length 3,iv (a:Int),iv (m:Int),iv (b:Int),fnV] [bkP l]=some (.tup [],[.set (bkP r)])
  ∧ r.length=l.length/\r.Perm l/\Srt Pt.v r a b/\Same0 l r a b
theorem tl2_ok{N:Nat}(ih:MergesB D N){l:List Pt}{mid e b:Nat}(hN:b-mid<N)(h1:mid<=e)(h2:e<=b)(hb:b<=l.length)(hl:l.length<=1000000000)(s1:Srt Pt.v l mid e)(s2:Srt Pt.v l e b) :
  ∃ r:List Pt,tl2 D l.length (mid:Int) (e:Int) (b:Int) (rowC eP l)=some (.tup [],[.set (bkP r)])/\r.length=l.length/\r.Perm l/\Srt Pt.v r mid b/\Same0 l r mid b:=by
 by_cases q1:mid<e
 .by_cases q2:e<b
  .obtain⟨r,g,hr,hp,ho,hs⟩:=ih l mid e b hN q1 q2 hb hl s1 s2
   refine⟨r,?_,hr,hp,ho,hs⟩
   unfold tl2
   refine(br_ltT (by omega)).trans ?_
   refine(br_ltT (by omega)).trans ?_
   refine(askK_of g _).trans ?_
   rfl
  .refine⟨l,?_,rfl,List.Perm.refl _,srt_join Pt.v (.inr (by omega)) s1 s2,same0_refl _ _ _⟩
   unfold tl2
   refine(br_ltT (by omega)).trans ?_
   exact(br_ltF (by omega)).trans rfl
 .refine⟨l,?_,rfl,List.Perm.refl _,srt_join Pt.v (.inl (by omega)) s1 s2,same0_refl _ _ _⟩
  unfold tl2
  exact(br_ltF (by omega)).trans rfl
theorem tl1_ok{N:Nat}(ih:MergesB D N){l:List Pt}{a s mid e b:Nat}(hN:mid-a<N)(hN2:b-mid<N)(h1:a<=s)(h2:s<=mid)(h3:mid<=e)(h4:e<=b)(hb:b<=l.length)(hl:l.length<=1000000000)(s1:Srt Pt.v l a s)(s2:Srt Pt.v l s mid)(s3:Srt Pt.v l mid e)(s4:Srt Pt.v l e b)(lo:Low Pt.v l a mid b) :
  ∃ r:List Pt,tl1 D l.length (a:Int) (s:Int) (mid:Int) (e:Int) (b:Int) (rowC eP l)=some (.tup [],[.set (bkP r)])/\r.length=l.length/\r.Perm l/\Srt Pt.v r a b/\Same0 l r a b:=by
 have fin:∀{l1:List Pt},l1.length=l.length->l1.Perm l->Srt Pt.v l1 a mid->Same0 l l1 a mid->∃ r:List Pt,tl2 D l.length (mid:Int) (e:Int) (b:Int) (rowC eP l1)=some (.tup [],[.set (bkP r)])/\r.length=l.length/\r.Perm l/\Srt Pt.v r a b/\Same0 l r a b:=by
  intro l1 k1 k2 k3 k4
  have lo1:=low_left Pt.v lo k2 k4 (by omega)
  obtain⟨r,g,hr,hp,ho,hs⟩:=tl2_ok ih (l:=l1) (mid:=mid) (e:=e) (b:=b) hN2 h3 h4 (by omega) (by omega) (s3.same' Pt.v k4 (.inr (Nat.le_refl _))) (s4.same' Pt.v k4 (.inr h3))
  rw[k1]at g hr
  exact⟨r,g,hr,hp.trans k2,srt_low Pt.v (k3.same' Pt.v hs (.inl (Nat.le_refl _))) ho (low_right Pt.v lo1 hp hs (by omega)),(k4.wide (Nat.le_refl _) (by omega)).trans (hs.wide (by omega) (Nat.le_refl _))⟩
 by_cases q1:a<s
 .by_cases q2:s<mid
  .obtain⟨r,g,hr,hp,ho,hs⟩:=ih l a s mid hN q1 q2 (by omega) hl s1 s2
   obtain⟨r2,g2,h⟩:=fin hr hp ho hs
   refine⟨r2,?_,h⟩
   unfold tl1
   refine(br_ltT (by omega)).trans ?_
   refine(br_ltT (by omega)).trans ?_
   refine(askK_of g _).trans ?_
   exact g2
  .obtain⟨r2,g2,h⟩:=fin (l1:=l) rfl (List.Perm.refl _) (srt_join Pt.v (.inr (by omega)) s1 s2) (same0_refl _ _ _)
   refine⟨r2,?_,h⟩
   unfold tl1
   refine(br_ltT (by omega)).trans ?_
   exact(br_ltF (by omega)).trans g2
 .obtain⟨r2,g2,h⟩:=fin (l1:=l) rfl (List.Perm.refl _) (srt_join Pt.v (.inl (by omega)) s1 s2) (same0_refl _ _ _)
  refine⟨r2,?_,h⟩
  unfold tl1
  exact(br_ltF (by omega)).trans g2
variable (K:Knows ownC tabSo D)
include K
theorem sym_all:∀ N,MergesB D N:=by
 intro N
 induction N with
 |zero=>intro l a m b h;omega
 |succ N ih0=>
  intro l a m b hN ha hm hb hl hs1 hs2
  by_cases hA:m-a=1
  .obtain rfl:m=a+1:=by omega
   obtain⟨x,g1,x1,x2,x3,x4⟩:=sym_lp0 K a (a+1) b l hl (by omega) hb hs2 _ (a+1) b rfl (Nat.le_refl _) (by omega) (Nat.le_refl _) (fun p p1 p2=>by omega) (fun p p1 p2=>by omega)
   obtain⟨r,g2,r1,r2,r3⟩:=sym_lp1 K a x l _ a l rfl (Nat.le_refl _) (by omega) (by omega) hl rfl (rot_none (.inr rfl) (by omega) (by omega))
   refine⟨r,?_,r1,r2,merge_first Pt.v x1 x2 hs2 x3 x4 r3,fun p hp=>r3.out p (by omega)⟩
   refine K.fn' hn235 _ rfl ((e235 ..).trans ?_)
   rw[subNN (a:=a+1) (b:=a) (by omega) (by omega)]
   refine(br_eqT (by omega)).trans ?_
   refine(askK_of g1 _).trans ?_
   simp only[fnV,ND,DK,unFn_fn]
   refine(askK_of g2 _).trans ?_
   rfl
  by_cases hB:b-m=1
  .obtain rfl:b=m+1:=by omega
   obtain⟨x,g1,x1,x2,x3,x4⟩:=sym_lp2 K a m l hl (by omega) hs1 _ a m rfl (Nat.le_refl _) (by omega) (Nat.le_refl _) (fun p p1 p2=>by omega) (fun p p1 p2=>by omega)
   obtain⟨r,g2,r1,r2,r3⟩:=sym_lp3 K m x l _ m l rfl x2 (Nat.le_refl _) (by omega) hl rfl (rot_none (.inl rfl) (by omega) (by omega))
   refine⟨r,?_,r1,r2,merge_last Pt.v x1 x2 hs1 x3 x4 r3,fun p hp=>r3.out p (by omega)⟩
   refine K.fn' hn235 _ rfl ((e235 ..).trans ?_)
   rw[subNN (a:=m) (b:=a) (by omega) (by omega)]
   refine(br_eqF (by omega)).trans ?_
   rw[subNN (a:=m+1) (b:=m) (by omega) (by omega)]
   refine(br_eqT (by omega)).trans ?_
   refine(askK_of g1 _).trans ?_
   simp only[fnV,ND,DK,unFn_fn]
   refine(br_t _ _).trans ?_
   refine(askK_of g2 _).trans ?_
   rfl
  have ih:MergesB D N:=ih0
  by_cases hC:(a+b) / 2<m
  .obtain⟨z,g4,B⟩:=sym_lp4 K a m b ((a+b) / 2) ((a+b) / 2+m-b) ((a+b) / 2) l hl hb hs1 hs2 (by omega) (by omega) (by omega) (by omega) (by omega) (by omega) _ ((a+b) / 2+m-b) ((a+b) / 2) rfl ⟨Nat.le_refl _,by omega,Nat.le_refl _,fun c c1 c2=>by omega,fun c c1 c2=>by omega⟩
   have C:=B.cut Pt.v hs1 hs2 (by omega) (by omega) (by omega) (by omega) (.inr (by omega)) (.inr rfl)
   have:=C.asl;have:=C.sm;have:=C.me;have:=C.eb;have:=C.mid
   have:=B.ry;have:=B.xs
   have e0:realA.sub .i64 (((a+b) / 2+m:Nat):Int) (z:Int)=(((a+b) / 2+m-z:Nat):Int):=subNN (by omega) (by omega)
   by_cases w1:z<m
   .by_cases w2:m<(a+b) / 2+m-z
    .obtain⟨l1,g5,k1,k2,k3⟩:=rot_ok K w1 w2 (by omega) hl
     obtain⟨f1,f2,f3,f4,f5⟩:=cut_parts Pt.v C hs1 hs2 k3
     obtain⟨r,g6,r1,r2,r3,r4⟩:=tl1_ok ih (l:=l1) (a:=a) (s:=z) (mid:=(a+b) / 2) (e:=(a+b) / 2+m-z) (b:=b) (by omega) (by omega) (by omega) (by omega) (by omega) (by omega) (by omega) (by omega) f1 f2 f3 f4 f5
     have sm:Same0 l l1 a b:=fun p hp=>k3.out p (by omega)
     rw[k1]at g6 r1
     refine⟨r,?_,r1,r2.trans k2,r3,sm.trans r4⟩
     refine K.fn' hn235 _ rfl ((e235 ..).trans ?_)
     rw[subNN (a:=m) (b:=a) (by omega) (by omega)]
     refine(br_eqF (by omega)).trans ?_
     rw[subNN (a:=b) (b:=m) (by omega) (by omega)]
     refine(br_eqF (by omega)).trans ?_
     refine(br_ltF (by decide)).trans ?_
     rw[half_ok (a:=a) (b:=b) (by omega)]
     rw[addNN (a:=(a+b) / 2) (b:=m) (by omega),subN1' (a:=(a+b) / 2+m) (by omega) (by omega)]
     rw[subNN (a:=(a+b) / 2+m) (b:=b) (by omega) (by omega)]
     refine(br_ltT (by omega)).trans ?_
     refine(askK_of g4 _).trans ?_
     simp only[fnV,ND,DK,unFn_fn]
     refine(br_t _ _).trans ?_
     rw[e0]
     refine(br_ltT (by omega)).trans ?_
     refine(br_ltT (by omega)).trans ?_
     refine(askK_of g5 _).trans ?_
     exact g6
    .obtain⟨f1,f2,f3,f4,f5⟩:=cut_parts Pt.v C hs1 hs2 (rot_none (l:=l) (.inr (by omega)) (by omega) (by omega))
     obtain⟨r,g6,r1,r2,r3,r4⟩:=tl1_ok ih (l:=l) (a:=a) (s:=z) (mid:=(a+b) / 2) (e:=(a+b) / 2+m-z) (b:=b) (by omega) (by omega) (by omega) (by omega) (by omega) (by omega) (by omega) (by omega) f1 f2 f3 f4 f5
     refine⟨r,?_,r1,r2,r3,r4⟩
     refine K.fn' hn235 _ rfl ((e235 ..).trans ?_)
     rw[subNN (a:=m) (b:=a) (by omega) (by omega)]
     refine(br_eqF (by omega)).trans ?_
     rw[subNN (a:=b) (b:=m) (by omega) (by omega)]
     refine(br_eqF (by omega)).trans ?_
     refine(br_ltF (by decide)).trans ?_
     rw[half_ok (a:=a) (b:=b) (by omega)]
     rw[addNN (a:=(a+b) / 2) (b:=m) (by omega),subN1' (a:=(a+b) / 2+m) (by omega) (by omega)]
     rw[subNN (a:=(a+b) / 2+m) (b:=b) (by omega) (by omega)]
     refine(br_ltT (by omega)).trans ?_
     refine(askK_of g4 _).trans ?_
     simp only[fnV,ND,DK,unFn_fn]
     refine(br_t _ _).trans ?_
     rw[e0]
     refine(br_ltT (by omega)).trans ?_
     refine(br_ltF (by omega)).trans ?_
     exact g6
   .obtain⟨f1,f2,f3,f4,f5⟩:=cut_parts Pt.v C hs1 hs2 (rot_none (l:=l) (.inl (by omega)) (by omega) (by omega))
    obtain⟨r,g6,r1,r2,r3,r4⟩:=tl1_ok ih (l:=l) (a:=a) (s:=z) (mid:=(a+b) / 2) (e:=(a+b) / 2+m-z) (b:=b) (by omega) (by omega) (by omega) (by omega) (by omega) (by omega) (by omega) (by omega) f1 f2 f3 f4 f5
    refine⟨r,?_,r1,r2,r3,r4⟩
    refine K.fn' hn235 _ rfl ((e235 ..).trans ?_)
    rw[subNN (a:=m) (b:=a) (by omega) (by omega)]
    refine(br_eqF (by omega)).trans ?_
    rw[subNN (a:=b) (b:=m) (by omega) (by omega)]
    refine(br_eqF (by omega)).trans ?_
    refine(br_ltF (by decide)).trans ?_
    rw[half_ok (a:=a) (b:=b) (by omega)]
    rw[addNN (a:=(a+b) / 2) (b:=m) (by omega),subN1' (a:=(a+b) / 2+m) (by omega) (by omega)]
    rw[subNN (a:=(a+b) / 2+m) (b:=b) (by omega) (by omega)]
    refine(br_ltT (by omega)).trans ?_
    refine(askK_of g4 _).trans ?_
    simp only[fnV,ND,DK,unFn_fn]
    refine(br_t _ _).trans ?_
    rw[e0]
    refine(br_ltF (by omega)).trans ?_
    exact g6
  .obtain⟨z,g4,B⟩:=sym_lp4 K a m b ((a+b) / 2) a m l hl hb hs1 hs2 (by omega) (by omega) (by omega) (by omega) (by omega) (by omega) _ a m rfl ⟨Nat.le_refl _,by omega,Nat.le_refl _,fun c c1 c2=>by omega,fun c c1 c2=>by omega⟩
   have C:=B.cut Pt.v hs1 hs2 (by omega) (by omega) (by omega) (by omega) (.inl rfl) (.inl rfl)
   have:=C.asl;have:=C.sm;have:=C.me;have:=C.eb;have:=C.mid
   have:=B.ry;have:=B.xs
   have e0:realA.sub .i64 (((a+b) / 2+m:Nat):Int) (z:Int)=(((a+b) / 2+m-z:Nat):Int):=subNN (by omega) (by omega)
   by_cases w1:z<m
   .by_cases w2:m<(a+b) / 2+m-z
    .obtain⟨l1,g5,k1,k2,k3⟩:=rot_ok K w1 w2 (by omega) hl
     obtain⟨f1,f2,f3,f4,f5⟩:=cut_parts Pt.v C hs1 hs2 k3
     obtain⟨r,g6,r1,r2,r3,r4⟩:=tl1_ok ih (l:=l1) (a:=a) (s:=z) (mid:=(a+b) / 2) (e:=(a+b) / 2+m-z) (b:=b) (by omega) (by omega) (by omega) (by omega) (by omega) (by omega) (by omega) (by omega) f1 f2 f3 f4 f5
     have sm:Same0 l l1 a b:=fun p hp=>k3.out p (by omega)
     rw[k1]at g6 r1
     refine⟨r,?_,r1,r2.trans k2,r3,sm.trans r4⟩
     refine K.fn' hn235 _ rfl ((e235 ..).trans ?_)
     rw[subNN (a:=m) (b:=a) (by omega) (by omega)]
     refine(br_eqF (by omega)).trans ?_
     rw[subNN (a:=b) (b:=m) (by omega) (by omega)]
     refine(br_eqF (by omega)).trans ?_
     refine(br_ltF (by decide)).trans ?_
     rw[half_ok (a:=a) (b:=b) (by omega)]
     rw[addNN (a:=(a+b) / 2) (b:=m) (by omega),subN1' (a:=(a+b) / 2+m) (by omega) (by omega)]
     refine(br_ltF (by omega)).trans ?_
     refine(askK_of g4 _).trans ?_
     simp only[fnV,ND,DK,unFn_fn]
     refine(br_t _ _).trans ?_
     rw[e0]
     refine(br_ltT (by omega)).trans ?_
     refine(br_ltT (by omega)).trans ?_
     refine(askK_of g5 _).trans ?_
     exact g6
    .obtain⟨f1,f2,f3,f4,f5⟩:=cut_parts Pt.v C hs1 hs2 (rot_none (l:=l) (.inr (by omega)) (by omega) (by omega))
     obtain⟨r,g6,r1,r2,r3,r4⟩:=tl1_ok ih (l:=l) (a:=a) (s:=z) (mid:=(a+b) / 2) (e:=(a+b) / 2+m-z) (b:=b) (by omega) (by omega) (by omega) (by omega) (by omega) (by omega) (by omega) (by omega) f1 f2 f3 f4 f5
     refine⟨r,?_,r1,r2,r3,r4⟩
     refine K.fn' hn235 _ rfl ((e235 ..).trans ?_)
     rw[subNN (a:=m) (b:=a) (by omega) (by omega)]
     refine(br_eqF (by omega)).trans ?_
     rw[subNN (a:=b) (b:=m) (by omega) (by omega)]
     refine(br_eqF (by omega)).trans ?_
     refine(br_ltF (by decide)).trans ?_
     rw[half_ok (a:=a) (b:=b) (by omega)]
     rw[addNN (a:=(a+b) / 2) (b:=m) (by omega),subN1' (a:=(a+b) / 2+m) (by omega) (by omega)]
     refine(br_ltF (by omega)).trans ?_
     refine(askK_of g4 _).trans ?_
     simp only[fnV,ND,DK,unFn_fn]
     refine(br_t _ _).trans ?_
     rw[e0]
     refine(br_ltT (by omega)).trans ?_
     refine(br_ltF (by omega)).trans ?_
     exact g6
   .obtain⟨f1,f2,f3,f4,f5⟩:=cut_parts Pt.v C hs1 hs2 (rot_none (l:=l) (.inl (by omega)) (by omega) (by omega))
    obtain⟨r,g6,r1,r2,r3,r4⟩:=tl1_ok ih (l:=l) (a:=a) (s:=z) (mid:=(a+b) / 2) (e:=(a+b) / 2+m-z) (b:=b) (by omega) (by omega) (by omega) (by omega) (by omega) (by omega) (by omega) (by omega) f1 f2 f3 f4 f5
    refine⟨r,?_,r1,r2,r3,r4⟩
    refine K.fn' hn235 _ rfl ((e235 ..).trans ?_)
    rw[subNN (a:=m) (b:=a) (by omega) (by omega)]
    refine(br_eqF (by omega)).trans ?_
    rw[subNN (a:=b) (b:=m) (by omega) (by omega)]
    refine(br_eqF (by omega)).trans ?_
    refine(br_ltF (by decide)).trans ?_
    rw[half_ok (a:=a) (b:=b) (by omega)]
    rw[addNN (a:=(a+b) / 2) (b:=m) (by omega),subN1' (a:=(a+b) / 2+m) (by omega) (by omega)]
    refine(br_ltF (by omega)).trans ?_
    refine(askK_of g4 _).trans ?_
    simp only[fnV,ND,DK,unFn_fn]
    refine(br_t _ _).trans ?_
    rw[e0]
    refine(br_ltF (by omega)).trans ?_
    exact g6
theorem merges_ok:Merges D:=fun l a m b h1 h2 h3 h4 h5 h6=>sym_all K (b-a+1) l a m b (by omega) h1 h2 h3 h4 h5 h6
theorem sortP_ok{l:List Pt}(hl:l.length<=1000000000) :
  ∃ r:List Pt,D.ask (.fn 136) [.sl 0 0 l.length 3,fnV] [bkP l]=some (.tup [],[.set (bkP r)])
   ∧ r.length=l.length/\r.Perm l/\Srt Pt.v r 0 r.length:=sort_ok K (merges_ok K) hl
end
end Go.Proofs.YtpncilciembjdaaGreatDoor
