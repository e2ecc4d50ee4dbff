/- What term.Shrink comes t -/
import Derived.Test.YtmbfbclboenajaaGreatFAZ
set_option linter.all false
open Bool renaming false->Φ,true->Δ
open Int renaming natAbs_natCast->AsK
open List renaming append_assoc->AqY,drop->AqT,drop_eq_getElem_cons->κ,drop_eq_nil_of_le->AqX,drop_zero->AqQ,filter_congr->Auq,filter_map->AuE,foldl_cons->Asn,getElem?_eq_getElem->ξ,getElem_mem->Arc,length_append->υ,length_cons->AqR,length_map->Aq7,length_singleton->Ari,map_cons->Aq8,map_reverse->Auz,mem_cons_of_mem->ο,mem_cons_self->AqS,mem_map->Arj,mem_reverse->Att,nil_append->Aq4,pairwise_map->AsR,reverse_cons->Atk,take->ε,take_append_drop->ArW,take_left'->AsE
open Nat renaming ble->AqZ,zero_add->Ara
open Option renaming some->Θ
namespace Go.Proofs.YtmbfbclboenajaaGreat
open ABlk renaming mk->θ
open Tryz renaming prog->Aq1
open Go.RowKit
theorem rdW(A:List Pt)(x:Pt)(tl:List AV)(k:List AV->KR):EX (Ah eP A++(eP x++tl)) (0+A.length*3) 3 k=k (eP x):=by
 have hl:=AT Ax A;unfold EX;rw[show AqZ (0+A.length*3+3) (Ah eP A++(eP x++tl)).length=Δ by simp[hl,Ax],Ara,←hl,List.drop_left' rfl];rfl
theorem spW(A:List Pt)(x y:Pt)(tl:List AV):AI (Ah eP A++(eP x++tl)) (0+A.length*3+1) [bv y.z.neg,eN y.z.abs]=Ah eP A++(eP ⟨x.v,y.z⟩++tl):=by
 have hl:=AT Ax A;unfold AI;rw[Ara,←hl,List.take_append,List.drop_append];simp[eP,List.take_of_length_le,AqX,Nat.add_sub_cancel_left,Nat.add_assoc]
section
variable {D:Orc} (Ks:Knows Nb U9 D) (W:ZdF D)
include Ks W
theorem Akf(g:Int)(hg:InB 300000000 g)(hg0:g≠0)(r0:List (List AV))(r1:Bool)(r2:List (List AV))(i0:Bool)(i1:List (List AV))(k1:Bool)(k2:List (List AV))(n:Nat)(hn:n<=4000000)(tl:List AV):∀(r:List (Int × Int)) (A:List Pt),A.length+r.length=n->(∀ p∈r,InB 300000000 p.2/\g ∣ p.2)->
  D.ask (.lp 31 0) [.ptr 0 0,.ptr 1 0,.ptr 2 0,.ptr 3 0,.sl 4 0 n 3,iv (n:Int),iv (A.length:Int)] [bk [.ls r0,bv r1,.ls r2],bk [bv i0,.ls i1],bk [.sl 4 0 n 3,bv k1,.ls k2],bk (eZ (Aq g)),θ (Ah eP A++(Ah eP (r.map AP)++tl)) Δ Δ]
   = Θ (.tup [iv 0,.ptr 0 0,.ptr 1 0,.ptr 2 0,.ptr 3 0],[.set (bk [.ls r0,bv r1,.ls r2]),.set (bk [bv i0,.ls i1]),.set (bk [.sl 5 0 n 3,bv k1,.ls k2]),.set (bk (eZ (Aq g))),.del,.set (θ (Ah eP A++(Ah eP (r.map (I4 g))++tl)) Δ Δ)]):=by
 intro r
 induction r with
 |nil=>
  intro A hA _;refine Au Ks T6 (Abx ..) ?_;rw[List.length_nil]at hA;exact Ag rfl
 |cons p r ih=>
  intro A hA hr;rw[AqR]at hA;obtain⟨hp,hd⟩:=hr p (AqS ..);obtain⟨d1,d2⟩:=Pa hd hg0;have ge:=W.exact (Aq p.2) (Aq g) (hp.lz.mono (by omega)) (hg.lz.mono (by omega));rw[AE,AE,if_neg hg0,if_pos d1]at ge;have ih:=ih (A++[I4 g p]) (by simp;omega) (λq hq=>hr q (ο _ hq));have e1:∀(x:Pt) (t:List AV),Ah eP (A++[x])++t=Ah eP A++(eP x++t):=λx t=>by
   rw[←Bb eP A x,AqY]
  rw[e1,e1,υ,Ari]at ih;have e2:∀(f:Int × Int->Pt) (t:List AV),Ah eP ((p::r).map f)++t=eP (f p)++(Ah eP (r.map f)++t):=λf t=>by
   unfold Ah;rw[Aq8,List.flatMap_cons,AqY]
  rw[e2,e2];have hrd:=rdW A (AP p) (Ah eP (r.map AP)++tl);have hsp:=spW A (AP p) (I4 g p) (Ah eP (r.map AP)++tl);have hlen:AqZ (0+A.length*3+1+2) (Ah eP A++(eP (AP p)++(Ah eP (r.map AP)++tl))).length=Δ:=by
   rw[υ,υ,AT Ax,Ax];simp;omega
  have hx:(⟨(AP p).v,(I4 g p).z⟩:Pt)=I4 g p:=rfl;have hz:([bv (I4 g p).z.neg,eN (I4 g p).z.abs]:List AV)=[bv (Aq (qZ p.2 g)).neg,eN (Aq (qZ p.2 g)).abs]:=rfl;rw[hx,hz]at hsp;generalize Ah eP A++(eP (AP p)++(Ah eP (r.map AP)++tl))=cs at *;refine Au Ks T6 (Abx ..) ?_;refine Aj ?_;rw[Av,show Nat.blt A.length n=Δ from BK (by omega)];refine Ac ?_;refine(hrd _).trans ?_;simp only[eP,AP,eN,Dq,Bn,BM,A1,DK];refine Aa ge ?_;simp only[eZ,eN,Co,Bh,B8,Bn,BM,Dq,A1,AK,DK];rw[Av,show Nat.blt A.length n=Δ from BK (by omega),hlen];refine Ac ?_;refine Ac ?_;simp only[eN]at hsp;rw[hsp,BA (by omega)];refine Aa ih ?_;rfl
theorem AeO(l:List (Int × Int))(hlen:l.length<=4000000)(hl:∀ p∈l,InB 800000000 p.2):∀(m i g:Nat),l.length-i=m->i<=l.length->InB 800000000 (g:Int)->
  D.ask (.lp 33 0) [.ptr 0 0,.ptr 1 0,.ls (l.map λp=>eP (AP p)),iv (l.length:Int),iv (i:Int)] [bk [bv Φ,.ls []],bk (eZ (Aq (g:Int)))]
   = Θ (.tup [iv 0,.ptr 0 0,.ptr 1 0],[.set (bk [bv Φ,.ls []]),.set (bk (eZ (Aq (DZ g (l.drop i):Int))))]):=by
 intro m
 induction m with
 |zero=>
  intro i g hm hi hg;rw[AqX (by omega)];refine Au Ks OD (Xs ..) ?_;exact Ag rfl
 |succ m ih=>
  intro i g hm hi hg;have h1:i<l.length:=by omega
  have hx:=hl _ (Arc h1);rw[κ h1];have ga:=W.gcd (Aq (g:Int)) (Aq l[i].2) (hg.lz.mono (by omega)) (hx.lz.mono (by omega));rw[AE,AE,AsK]at ga;have ih1:=ih (i+1) (Nat.gcd g l[i].2.natAbs) (by omega) (by omega) (Np hg hx);refine Au Ks OD (Xs ..) ?_;refine Aj ?_;rw[Av,At (f:=λp=>eP (AP p)) (ξ h1)];simp only[eP,AP,eN,ND,DK,Ab];refine Aa ga ?_;simp only[eZ,eN,ND,DK,Ab];rw[BA (by omega)];refine Aa ih1 ?_;rfl
theorem Ty{l:List (Int × Int)}{cs:List AV}{b:Bool}{xs:List (List AV)}{tl:List AV}{b2:Bool}{xs2:List (List AV)}(hp:D.ask (.fn 26) [.agg [.sl 0 0 l.length 3,bv b,.ls xs]] [θ cs Δ Δ]=Θ (.agg [.sl 1 0 l.length 3,bv b2,.ls xs2],[.keep,.set (θ (Ah eP (l.map AP)++tl) Δ Δ)]))(hlen:l.length<=4000000)(hl:∀ p∈l,InB 800000000 p.2) :
  D.ask (.fn 33) [.agg [.sl 0 0 l.length 3,bv b,.ls xs]] [θ cs Δ Δ]=Θ (.agg (eZ (Aq (DZ 0 l:Int))),[.keep]):=by
 have g:=AeO Ks W l hlen hl _ 0 0 rfl (by omega) (InB.zero _);rw[AqQ,show Aq ((0:Nat):Int)=⟨Φ,[]⟩ from IC,show eZ ⟨Φ,[]⟩=[bv Φ,.ls []] from rfl]at g;have hll:(Ah eP (l.map AP)).length=l.length*3:=by rw[AT Ax,Aq7]
 refine AB Ks OD (Ala ..) ?_;refine Aa hp ?_;simp only[eZ,eN,ND,DK,Ab];rw[show AqZ (0+l.length*3) (Ah eP (l.map AP)++tl).length=Δ by rw[υ,hll];simp];refine Ac ?_;rw[←hll,AsE rfl,show Bi l.length 3 (Ah eP (l.map AP))=l.map λp=>eP (AP p) by
  have:=CL Ax (l.map AP);rw[Aq7,List.map_map]at this;exact this]
 refine Aa g ?_;rfl
theorem Z8{n k:Nat}{t:Tm}(ht:TmB n k t)(hn:n<=1000000)(hk:k+n<=300000000)(hs:∀ z:Zi,Lz 1000000000 z->D.ask (.fn 30) [.agg (eZ z)] []=Θ (iv (BC (zv z)),[])){tl tl':List AV}{b2:Bool}{xs2:List (List AV)}
  (hPn:D.ask (.fn 26) [.agg (eT t)] []=Θ (.agg [.sl 0 0 (AO t.lf.ps).length 3,bv (Aq (zv t.k)).neg,eN (Aq (zv t.k)).abs],[.set (θ (Ah eP ((AO t.lf.ps).map AP)++tl) Δ Δ)]))
  (hPo:D.ask (.fn 26) [.agg [.sl 0 0 (AO t.lf.ps).length 3,bv (Aq (zv t.k)).neg,.ls ((Aq (zv t.k)).abs.map eL)]] [θ (Ah eP ((AO t.lf.ps).map AP)++tl) Δ Δ]=Θ (.agg [.sl 1 0 (AO t.lf.ps).length 3,bv b2,.ls xs2],[.keep,.set (θ (Ah eP ((AO t.lf.ps).map AP)++tl') Δ Δ)])) :
  D.ask (.fn 31) [.agg (eT t)] []=Θ (.tup [.agg (eT (DP t)),.agg (eZ (Aq (Cu t:Int)))],[]):=by
 have hll:=Gr t.lf.ps;have hl2:=ht.lb.len;have hci:=RJ ht;have hlI:∀ p∈AO t.lf.ps,InB 300000000 p.2:=λp hp=>by
  rw[←DO]at hp;obtain⟨v,_,rfl⟩:=Arj.1 hp;exact(Mx ht v).mono hk
 have gc:=Ty Ks W (l:=AO t.lf.ps) hPo (by omega) (λp hp=>(hlI p hp).mono (by omega));have hki:InB 300000000 (zv t.k):=ht.k.inb.mono (by omega);have gs:=hs (Aq (Cu t:Int)) (hci.lz.mono (by omega));rw[AE]at gs;have hch:∀(f:Int × Int->Pt) (tl:List AV),Bi (AO t.lf.ps).length 3 (ε ((AO t.lf.ps).length*3) (Ah eP ((AO t.lf.ps).map f)++tl))=((AO t.lf.ps).map f).map eP:=λf tl=>by
  have h:(Ah eP ((AO t.lf.ps).map f)).length=(AO t.lf.ps).length*3:=by rw[AT Ax,Aq7]
  have:=CL Ax ((AO t.lf.ps).map f);rw[Aq7]at this;rw[←h,AsE rfl,this]
 have hbl:∀(f:Int × Int->Pt) (tl:List AV),AqZ (0+(AO t.lf.ps).length*3) (Ah eP ((AO t.lf.ps).map f)++tl).length=Δ:=λf tl=>by
  rw[υ,AT Ax,Aq7];simp
 refine AB Ks T6 (AoV ..) ?_;refine Aa hPn ?_;simp only[eN,ND,DK,Ab];refine Aa gc ?_;rw[show DZ 0 (AO t.lf.ps)=Cu t from rfl];simp only[eZ,eN,Co,Bh,B8,Bn,BM,Dq,A1,AK,PH,M0,DK];refine Aa gs ?_;simp only[C3,AK,DK];rw[hbl,hch];unfold DP
 by_cases h0:Cu t=0
 .rw[if_pos h0,h0]
  refine Bu ?_ (by decide);refine Ac ?_;rfl
 .rw[if_neg h0]
  refine AN ?_ (by unfold BC;rw[if_neg (by omega),if_pos (by omega)];decide);have hdv:∀ p∈AO t.lf.ps,InB 300000000 p.2/\(Cu t:Int) ∣ p.2:=λp hp=>⟨hlI p hp,Int.natAbs_dvd_natAbs.1 (by rw[AsK];exact(Ko (AO t.lf.ps) 0).2 p hp)⟩
  have g:=Akf Ks W (Cu t:Int) (hci.mono (by omega)) (by omega) [] Φ [] Φ [] (Aq (zv t.k)).neg ((Aq (zv t.k)).abs.map eL) (AO t.lf.ps).length (by omega) tl (AO t.lf.ps) [] (by simp) hdv;rw[show Ah eP ([]:List Pt)=[] from rfl,Aq4,Aq4]at g;have gk:=W.div (Aq (zv t.k)) (Aq (Cu t:Int)) (hki.lz.mono (by omega)) (hci.lz.mono (by omega));rw[AE,AE,if_neg (by omega)]at gk;refine Aa g ?_;simp only[eZ,eN,ND,DK,Ab];refine Aa gk ?_;simp only[eZ,eN,Co,Bh,B8,Bn,BM,Dq,A1,AK,DK];rw[hbl,hch];refine Ac ?_;rfl
end
section
variable {D:Orc} (Kt:Knows Nb U9 D) (Z:ZF D) (hcp:∀{z:Zi},Lz 1000000000 z->D.ask (.fn 62) [.agg (eZ z)] []=Θ (.agg (eZ (Aq (zv z))),[]))
include Z
include Kt hcp in
theorem QT{k:Nat}(ps:List Pt)(hl:ps.length<=1000000)(hk:k+ps.length<=900000000)(hz:∀ p∈ps,Lz k p.z)(r0:List (List AV))(r1:Bool)(r2:List (List AV))(k1:Bool)(k2:List (List AV)):∀(m i:Nat) (s:List (Int × Int)),ps.length-i=m->i<=ps.length->s.length<=i->(∀ q∈s,InB (k+i) q.2)->
  D.ask (.lp 26 0) [.ptr 0 0,.ptr 1 0,.ls (ps.map eP),iv (ps.length:Int),iv (i:Int)] [⟨[.ls r0,bv r1,.ls r2],Δ,Φ⟩,⟨[.sl 2 0 (s.map AP).reverse.length 3,bv k1,.ls k2],Δ,Φ⟩,EB (s.map AP).reverse]
   = Θ (.tup [iv 0,.ptr 0 0,.ptr 1 0],[.set ⟨[.ls r0,bv r1,.ls r2],Δ,Φ⟩,.set ⟨[.sl 3 0 ((((ps.drop i).map pv).foldl C8 s).map AP).reverse.length 3,bv k1,.ls k2],Δ,Φ⟩,.del,.set (EB ((((ps.drop i).map pv).foldl C8 s).map AP).reverse)]):=by
 intro m
 induction m with
 |zero=>
  intro i s hm hi hs hb;rw[AqX (by omega),List.map_nil,List.foldl_nil];refine Au Kt OC (Xq ..) ?_;exact Ag rfl
 |succ m ih0=>
  intro i s hm hi hs hb;have h1:i<ps.length:=by omega
  have hzk:=hz ps[i] (Arc h1);have hzi:=hzk.mono (show k<=1000000000 by omega);rw[κ h1,Aq8,Asn];have ih:=ih0 (i+1) (C8 s (pv ps[i])) (by omega) (by omega) (by have:=HM s (pv ps[i]);omega) (HL hb (hzk.inb.mono (show k<=k+i by omega)));refine Au Kt OC (Xq ..) ?_;refine Aj ?_;rw[Av,At (ξ h1)];simp only[eP,eN,ND,DK,Ab];generalize hS:((ps.drop (i+1)).map pv).foldl C8 (C8 s (pv ps[i]))=S at ih ⊢
  by_cases hneg:ps[i].v<0
  .have e:C8 s (pv ps[i])=s:=by
    have hn:(pv ps[i]).1<0:=hneg
    cases s with
    |nil=>rw[EC,if_pos hn]
    |cons q r=>rw[DU,if_pos hn]
   rw[e]at ih;refine Aj ?_ hneg;rw[BA (by omega)];refine Aa ih ?_;rfl
  have hn:¬(pv ps[i]).1<0:=hneg;refine Ag ?_ hneg
  cases s with
  |nil=>
   rw[EC,if_neg hn]at ih;refine Cr ?_ (by decide);obtain⟨o,ho0⟩:∃ o:List Pt,o=[]:=⟨_,rfl⟩;have eo:(([pv ps[i]].map AP).reverse)=o++[AP (pv ps[i])]:=by rw[ho0];rfl
   rw[eo]at ih;have ho:o.length<=i:=by rw[ho0];exact Nat.zero_le _
   rw[show ((([]:List (Int × Int)).map AP).reverse)=o from ho0.symm];have hf:AZ (o.length+1) 40=Δ:=AG (by omega) (by omega);have hb1:AqZ (0+o.length*3) (Ah eP o).length=Δ:=AF Ax o (by omega);have e3:AqT 0 (ε (0+o.length*3) (Ah eP o))++[iv ps[i].v,bv (Aq (zv ps[i].z)).neg,eN (Aq (zv ps[i].z)).abs]=Ah eP (o++[AP (pv ps[i])]):=by
    rw[AqQ,Be Ax o (by omega)];exact Bb eP o (AP (pv ps[i]))
   refine Aa (hcp hzi) ?_;simp only[eZ,eN,ND,DK,Ab]at e3 ⊢;rw[hf];refine Ac ?_;rw[hb1];refine Ac ?_;rw[e3,BA (by omega)];rw[υ,Ari]at ih;refine Aa ih ?_;rfl
  |cons q r=>
   have eo:(((q::r).map AP).reverse)=(r.map AP).reverse++[AP q]:=by simp
   have hq:=hb q (AqS ..);rw[eo];rw[DU,if_neg hn]at ih;have hro:(r.map AP).reverse.length<=i:=by simp at hs ⊢;omega
   by_cases heq:q.1=(pv ps[i]).1
   .rw[if_pos heq,Aq8,Atk]at ih
    generalize (r.map AP).reverse=o at hro ih ⊢;have e1:Af.sub .i64 (((o++[AP q]).length:Nat):Int) 1=((o.length:Nat):Int):=by
     rw[υ,Ari];exact Lc (by omega)
    have hlt:o.length<(o++[AP q]).length:=by simp
    have ga:=Z.add (Aq q.2) ps[i].z (hq.lz.mono (by omega)) (hzk.mono (by omega));rw[AE]at ga;have sp:=AnV o (AP q) (Aq (q.2+zv ps[i].z));rw[e1];refine B6 ?_;rw[Av,AQ hlt];refine Ac ?_;refine(Agd o (AP q) _).trans ?_;simp only[ND,DK,Ab];refine Bu ?_ (show (AP q).v=ps[i].v from heq);rw[Av,AQ hlt];refine Ac ?_;refine(AnM o (AP q) _).trans ?_;simp only[eN,ND,DK,Ab];refine Aa ga ?_;simp only[eZ,eN,ND,DK,Ab]at sp ⊢;rw[Av,AQ hlt];refine Ac ?_;rw[show AqZ (0+o.length*3+1+2) (Ah eP (o++[AP q])).length=Δ by rw[AT Ax];simp;omega];refine Ac ?_;rw[sp,BA (by omega)];have el:(o++[AP q]).length=(o++[AP (q.1,q.2+(pv ps[i]).2)]).length:=by simp
    rw[el];refine Aa ih ?_;rfl
   .rw[if_neg heq,Aq8,Atk,eo]at ih
    have hlen:((r.map AP).reverse++[AP q]).length<=i:=by simp at hs ⊢;omega
    have e1:Af.sub .i64 ((((r.map AP).reverse++[AP q]).length:Nat):Int) 1=(((r.map AP).reverse.length:Nat):Int):=by
     rw[υ,Ari];exact Lc (by omega)
    have hlt:(r.map AP).reverse.length<((r.map AP).reverse++[AP q]).length:=by simp
    rw[e1];refine B6 ?_;rw[Av,AQ hlt];refine Ac ?_;refine(Agd _ (AP q) _).trans ?_;simp only[ND,DK,Ab];refine AN ?_ (show ¬(AP q).v=ps[i].v from heq);generalize (r.map AP).reverse++[AP q]=o at hlen ih ⊢;have ho:=hlen;have hf:AZ (o.length+1) 40=Δ:=AG (by omega) (by omega);have hb1:AqZ (0+o.length*3) (Ah eP o).length=Δ:=AF Ax o (by omega);have e3:AqT 0 (ε (0+o.length*3) (Ah eP o))++[iv ps[i].v,bv (Aq (zv ps[i].z)).neg,eN (Aq (zv ps[i].z)).abs]=Ah eP (o++[AP (pv ps[i])]):=by
     rw[AqQ,Be Ax o (by omega)];exact Bb eP o (AP (pv ps[i]))
    refine Aa (hcp hzi) ?_;simp only[eZ,eN,ND,DK,Ab]at e3 ⊢;rw[hf];refine Ac ?_;rw[hb1];refine Ac ?_;rw[e3,BA (by omega)];rw[υ,Ari]at ih;refine Aa ih ?_;rfl
end
section
variable {D:Orc} (Kt:Knows Nb U9 D) (Z:ZF D) (hcp:∀{z:Zi},Lz 1000000000 z->D.ask (.fn 62) [.agg (eZ z)] []=Θ (.agg (eZ (Aq (zv z))),[]))
 (hsort:∀ l:List Pt,l.length<=1000000000->∃ r:List Pt,D.ask (.fn 60) [.sl 0 0 l.length 3,Fv] [EB l]=Θ (.tup [],[.set (EB r)])/\r.length=l.length/\r.Perm l/\Srt Pt.v r 0 r.length)
 (hdel:∀ l:List Pt,l.length<=1000000000->(∀ p∈l,Lz 1000000000 p.z)->∃ cells:List AV,D.ask (.fn 64) [.sl 0 0 l.length 3,fnZ] [θ (Ah eP l) Δ Δ]
   = Θ (.sl 0 0 (l.filter λp=>!decide (zv p.z=0)).length 3,[.set (θ cells Δ Δ)])
   ∧ cells.take ((l.filter λp=>!decide (zv p.z=0)).length*3)=Ah eP (l.filter λp=>!decide (zv p.z=0))/\(l.filter λp=>!decide (zv p.z=0)).length*3<=cells.length)
include Kt Z hcp hsort hdel
theorem ZE{n k:Nat}{t:Tm}(h:TmB n k t)(hn:n<=1000000)(hk:k+n<=900000000)(gc:D.ask (.fn 59) [.ls (t.ps.map eP)] []=Θ (.sl 0 0 t.ps.length 3,[.set (EB t.ps)])):∃ tl:List AV,D.ask (.fn 26) [.agg (eT t)] []=Θ (.agg [.sl 0 0 (AO t.lf.ps).length 3,bv (Aq (zv t.k)).neg,eN (Aq (zv t.k)).abs],[.set (θ (Ah eP ((AO t.lf.ps).map AP)++tl) Δ Δ)]):=by
 obtain⟨ps,kz⟩:=t;have hlen:ps.length<=n:=h.len;obtain⟨r,gs,gr,gp,go⟩:=hsort ps (by omega);have gk:=hcp (h.k.mono (show k<=1000000000 by omega));have hzr:∀ p∈r,Lz k p.z:=λp hp=>h.ps p (gp.mem_iff.1 hp)
 have gl:=QT Kt Z hcp r (k:=k) (by omega) (by omega) hzr [] Φ [] (Aq (zv kz)).neg ((Aq (zv kz)).abs.map eL) _ 0 [] rfl (by omega) (by simp) (by simp);rw[AqQ]at gl;have hsrt:(r.map pv).Pairwise λa b=>a.1<=b.1:=by
  rw[AsR];exact E0 Pt.v go
 have hpl:=RW hsrt (gp.map pv);generalize hS:(r.map pv).foldl C8 []=S at gl hpl;have hsb:∀ p∈((S.map AP).reverse),Lz 1000000000 p.z:=by
  have key:∀(t s:List (Int × Int)) (j:Nat),(∀ q∈s,InB (k+j) q.2)->(∀ q∈t,InB k q.2)->∀ q∈t.foldl C8 s,InB (k+j+t.length) q.2:=by
   intro t
   induction t with
   |nil=>intro s j hs _ q hq;exact hs q hq
   |cons p t ih=>
    intro s j hs ht q hq;have:=ih (C8 s p) (j+1) (HL hs ((ht p (AqS ..)).mono (show k<=k+j by omega))) (λq hq=>ht q (ο _ hq)) q hq;rw[AqR];exact this.mono (by omega)
  intro p hp;rw[Att,Arj]at hp;obtain⟨q,hq,rfl⟩:=hp;have:=key (r.map pv) [] 0 (by simp) (λq hq=>by
   rw[Arj]at hq;obtain⟨p,hp,rfl⟩:=hq;exact(hzr p hp).inb) q (by rw[hS];exact hq)
  rw[Aq7]at this;exact(this.lz).mono (by omega)
 have hSl:S.length<=1000000:=by
  have key:∀(t s:List (Int × Int)),(t.foldl C8 s).length<=s.length+t.length:=by
   intro t
   induction t with
   |nil=>intro s;simp
   |cons p t ih=>
    intro s;have:=ih (C8 s p);have h2:=HM s p;rw[Asn,AqR];omega
  have:=key (r.map pv) [];rw[hS,Aq7]at this;simp at this;omega
 obtain⟨cells,gd,gt,gle⟩:=hdel (S.map AP).reverse (by simp;omega) hsb;have hfin:((S.map AP).reverse).filter (λp=>!decide (zv p.z=0))=(AO (ps.map pv)).map AP:=by
  rw[←hpl,←Auz,AuE]
  congr 1
  refine Auq λq _=>?_
  show (!decide (zv (Aq q.2)=0))=_
  rw[AE]
 rw[hfin]at gd gt gle;have hce:cells=Ah eP ((AO (ps.map pv)).map AP)++cells.drop (((AO (ps.map pv)).map AP).length*3):=by
  rw[←gt,ArW]
 refine⟨cells.drop (((AO (ps.map pv)).map AP).length*3),?_⟩
 show _=Θ (AV.agg [.sl 0 0 (AO (ps.map pv)).length 3,bv (Aq (zv kz)).neg,eN (Aq (zv kz)).abs],([.set (θ (Ah eP ((AO (ps.map pv)).map AP)++cells.drop (((AO (ps.map pv)).map AP).length*3)) Δ Δ)]:List BO))
 rw[←hce];refine AB Kt OC (Ak8 ..) ?_;refine Aa gc ?_;simp only[ND,DK,Ab];refine Aa gs ?_;simp only[ND,DK,Ab];refine Aa gk ?_;simp only[eZ,eN,ND,DK,Ab];rw[show AqZ (0+ps.length*3) (Ah eP r).length=Δ from AF Ax r (by omega)];refine Ac ?_;rw[Bp Ax r (by omega),←gr];refine Aa gl ?_;simp only[ND,DK,Ab];refine Aa gd ?_;simp only[Aq7,ND,DK,Ab]
theorem ZG{n k:Nat}{t:Tm}(h:TmB n k t)(hn:n<=1000000)(hk:k+n<=900000000){cs:List AV}(gc:D.ask (.fn 59) [.sl 0 0 t.ps.length 3] [θ cs Δ Δ]=Θ (.sl 1 0 t.ps.length 3,[.keep,.set (EB t.ps)])):∃ tl:List AV,D.ask (.fn 26) [.agg [.sl 0 0 t.ps.length 3,bv t.k.neg,eN t.k.abs]] [θ cs Δ Δ]=Θ (.agg [.sl 1 0 (AO t.lf.ps).length 3,bv (Aq (zv t.k)).neg,eN (Aq (zv t.k)).abs],[.keep,.set (θ (Ah eP ((AO t.lf.ps).map AP)++tl) Δ Δ)]):=by
 obtain⟨ps,kz⟩:=t;have hlen:ps.length<=n:=h.len;obtain⟨r,gs,gr,gp,go⟩:=hsort ps (by omega);have gk:=hcp (h.k.mono (show k<=1000000000 by omega));have hzr:∀ p∈r,Lz k p.z:=λp hp=>h.ps p (gp.mem_iff.1 hp)
 have gl:=QT Kt Z hcp r (k:=k) (by omega) (by omega) hzr [] Φ [] (Aq (zv kz)).neg ((Aq (zv kz)).abs.map eL) _ 0 [] rfl (by omega) (by simp) (by simp);rw[AqQ]at gl;have hsrt:(r.map pv).Pairwise λa b=>a.1<=b.1:=by
  rw[AsR];exact E0 Pt.v go
 have hpl:=RW hsrt (gp.map pv);generalize hS:(r.map pv).foldl C8 []=S at gl hpl;have hsb:∀ p∈((S.map AP).reverse),Lz 1000000000 p.z:=by
  have key:∀(t s:List (Int × Int)) (j:Nat),(∀ q∈s,InB (k+j) q.2)->(∀ q∈t,InB k q.2)->∀ q∈t.foldl C8 s,InB (k+j+t.length) q.2:=by
   intro t
   induction t with
   |nil=>intro s j hs _ q hq;exact hs q hq
   |cons p t ih=>
    intro s j hs ht q hq;have:=ih (C8 s p) (j+1) (HL hs ((ht p (AqS ..)).mono (show k<=k+j by omega))) (λq hq=>ht q (ο _ hq)) q hq;rw[AqR];exact this.mono (by omega)
  intro p hp;rw[Att,Arj]at hp;obtain⟨q,hq,rfl⟩:=hp;have:=key (r.map pv) [] 0 (by simp) (λq hq=>by
   rw[Arj]at hq;obtain⟨p,hp,rfl⟩:=hq;exact(hzr p hp).inb) q (by rw[hS];exact hq)
  rw[Aq7]at this;exact(this.lz).mono (by omega)
 have hSl:S.length<=1000000:=by
  have key:∀(t s:List (Int × Int)),(t.foldl C8 s).length<=s.length+t.length:=by
   intro t
   induction t with
   |nil=>intro s;simp
   |cons p t ih=>
    intro s;have:=ih (C8 s p);have h2:=HM s p;rw[Asn,AqR];omega
  have:=key (r.map pv) [];rw[hS,Aq7]at this;simp at this;omega
 obtain⟨cells,gd,gt,gle⟩:=hdel (S.map AP).reverse (by simp;omega) hsb;have hfin:((S.map AP).reverse).filter (λp=>!decide (zv p.z=0))=(AO (ps.map pv)).map AP:=by
  rw[←hpl,←Auz,AuE]
  congr 1
  refine Auq λq _=>?_
  show (!decide (zv (Aq q.2)=0))=_
  rw[AE]
 rw[hfin]at gd gt gle;have hce:cells=Ah eP ((AO (ps.map pv)).map AP)++cells.drop (((AO (ps.map pv)).map AP).length*3):=by
  rw[←gt,ArW]
 refine⟨cells.drop (((AO (ps.map pv)).map AP).length*3),?_⟩
 show _=Θ (AV.agg [.sl 1 0 (AO (ps.map pv)).length 3,bv (Aq (zv kz)).neg,eN (Aq (zv kz)).abs],([.keep,.set (θ (Ah eP ((AO (ps.map pv)).map AP)++cells.drop (((AO (ps.map pv)).map AP).length*3)) Δ Δ)]:List BO))
 rw[←hce];refine AB Kt AbZ (Ak9 ..) ?_;refine Aa gc ?_;simp only[ND,DK,Ab];refine Aa gs ?_;simp only[ND,DK,Ab];refine Aa gk ?_;simp only[eZ,eN,ND,DK,Ab];rw[show AqZ (0+ps.length*3) (Ah eP r).length=Δ from AF Ax r (by omega)];refine Ac ?_;rw[Bp Ax r (by omega),←gr];refine Aa gl ?_;simp only[ND,DK,Ab];refine Aa gd ?_;simp only[Aq7,ND,DK,Ab]
end
theorem Tv:CloneF DTk where
 nat l h:=Aat (IF h)
theorem Ta:ZF DTk:=Aen AhU Ah2 Tv
theorem Ai1:DivF DTk where
 div _ _ ha hal hb hbl:=Ag2 (Any ha hal hb hbl)
theorem Akq:ZdF DTk:=Aix AhU Ah2 Tv Amn Ai1
theorem UX:SeatOk Aq1 BP B4:=Z7 ⟨Ga,GN,(Aln _),trivial⟩
theorem Y8(f:Nat):BS (B5 Aq1 f) ((AY Af B4).ask (.fn f)):=DX UX f
theorem AkT(l:List Pt)(hl:l.length<=1000000000)(hz:∀ p∈l,Lz 1000000000 p.z):∃ cells:List AV,DTk.ask (.fn 64) [.sl 0 0 l.length 3,fnZ] [θ (Ah eP l) Δ Δ]
   = Θ (.sl 0 0 (l.filter λp=>!decide (zv p.z=0)).length 3,[.set (θ cells Δ Δ)])
   ∧ cells.take ((l.filter λp=>!decide (zv p.z=0)).length*3)=Ah eP (l.filter λp=>!decide (zv p.z=0))/\(l.filter λp=>!decide (zv p.z=0)).length*3<=cells.length:=
 Abc Ack (λp=>decide (zv p.z=0)) l hl (λp hp=>QB Ack Ta (hz p hp))
