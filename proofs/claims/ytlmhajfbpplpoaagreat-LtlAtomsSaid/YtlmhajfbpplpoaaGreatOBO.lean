/- The text of a right tree, as tokens. No program in -/
import Derived.Test.YtlmhajfbpplpoaaGreatOBM
import Derived.Test.YtlmhajfbpplpoaaGreatOBN
import Derived.Test.YtlmhajfbpplpoaaGreatOBC
import Derived.Test.YtlmhajfbpplpoaaGreatOBE
set_option linter.all false
open Bool renaming and_eq_true->ApF,false_and->Aqx,false_ne_true->Aru,true_and->ApZ
open Int renaming mul_zero->Arg,zero_mul->Ar1
open List renaming append_assoc->Ap9,append_nil->AqH,drop->ApK,drop_eq_getElem_cons->ApE,drop_eq_nil_of_le->ApL,drop_zero->ApD,findIdx?_eq_some_iff_getElem->Aqd,getD_eq_getElem?_getD->ApR,getElem?_eq_getElem->Apy,getElem?_eq_none->Aqr,getElem?_eq_some_iff->ApU,getElem_mem->ApQ,length_append->ApH,length_cons->ApI,length_eq_zero_iff->Aqj,length_map->ApY,length_nil->AqW,length_singleton->Aql,length_take->Ap0,map_append->ArI,mem_append->Aqb,mem_cons->ApN,mem_cons_of_mem->ApW,mem_singleton->Aqe,nil_append->Ap4,prefix_rfl->ArJ,replicate->Ary,singleton_append->Arn,tail_drop->Aro,take->ApG,take_of_length_le->AqM,take_succ_eq_append_getElem->AqI
open Nat renaming ble->ApM,le_refl->ApA,lt_succ_self->Aqp,min_eq_left->AqK,mod_lt->Aq7,pow_le_pow_right->Aq0,pow_succ->AqT,zero_add->ApX
open Option renaming getD_some->Aq4,map_eq_some_iff->Aq8,map_some->ApS
namespace Go.Proofs.YtlmhajfbpplpoaaGreat
open Go.RowKit
theorem Abr{m:Mo}(h:Bq m=true):(m.num≠AI []->Ew m.num.data.toList=true)/\(m.var≠AI []->DE m.var.data.toList=true)/\(m.num=AI []->m.var≠AI []):=by
 unfold Bq at h;simp only[ApF,Bool.or_eq_true,decide_eq_true_eq]at h;obtain⟨⟨h1,h2⟩,h3⟩:=h;refine⟨λe=>h2.resolve_left e,λe=>h3.resolve_left e,λe=>h1.resolve_left λh=>h e⟩
theorem EL{ms:List Mo}(h:Pc ms=true):0<ms.length/\ms.length<=64/\ms.all Bq=true:=by
 unfold Pc at h;simp only[ApF,decide_eq_true_eq]at h;exact⟨h.1.1,h.1.2,h.2⟩
theorem Jr{k:Int}{d i:Nat}{x:Tr}{r:List Tr}(h:FG k d i (x::r)=true):IV (brk k i x.kind) d<=60/\BW x (IV (brk k i x.kind) d)=true/\FG k d (i+1) r=true:=by
 rw[FG]at h;simp only[ApF,decide_eq_true_eq]at h;exact⟨h.1.1,h.1.2,h.2⟩
inductive ShapeT:Tr->Nat->Prop where
 |tt (d:Nat):ShapeT (.mk 0 [] [] 0 (AI []) (AI []) []) d
 |ff (d:Nat):ShapeT (.mk 1 [] [] 0 (AI []) (AI []) []) d
 |cmp (d:Nat) {l r:List Mo} {op:Int} (hl:Pc l=true) (hr:Pc r=true) (h1:0<=op) (h2:op<=5):ShapeT (.mk 2 l r op (AI []) (AI []) []) d
 |no (d:Nat) {x:Tr} (hd:IV (brk 3 0 x.kind) (d+1)<=60) (h:BW x (IV (brk 3 0 x.kind) (d+1))=true):ShapeT (.mk 3 [] [] 0 (AI []) (AI []) [x]) d
 |bin (d:Nat) {k:Int} {x y:Tr} (hk:k=4\/k=5) (hd:IV (brk k 0 x.kind) d<=60) (h:BW x (IV (brk k 0 x.kind) d)=true) (gd:IV (brk k 1 y.kind) d<=60) (g:BW y (IV (brk k 1 y.kind) d)=true):ShapeT (.mk k [] [] 0 (AI []) (AI []) [x,y]) d
theorem KG{t:Tr}{d:Nat}(h:BW t d=true):ShapeT t d:=by
 obtain⟨k,l,r,op,p,q,ks⟩:=t;rw[BW]at h
 by_cases h2:k=2
 .rw[if_pos h2]at h
  subst h2;unfold Nr at h;simp only[ApF,decide_eq_true_eq]at h;obtain⟨⟨⟨⟨⟨⟨⟨_,hl⟩,hr⟩,h3⟩,h4⟩,rfl⟩,rfl⟩,h5⟩:=h;obtain rfl:ks=[]:=Aqj.1 h5;exact .cmp d hl hr h3 h4
 .rw[if_neg h2]at h
  unfold FZ at h;simp only[ApF,decide_eq_true_eq]at h;obtain⟨⟨⟨⟨⟨⟨⟨hl,hr⟩,rfl⟩,rfl⟩,rfl⟩,ha⟩,hd⟩,hk⟩:=h;obtain rfl:l=[]:=Aqj.1 hl;obtain rfl:r=[]:=Aqj.1 hr;have hks:∀ n:Nat,(ks.length:Int)=(n:Int)->ks.length=n:=λn h=>by omega
  unfold arI at ha
  by_cases h0:k=0
  .subst h0
   rw[if_pos rfl]at ha;obtain rfl:ks=[]:=Aqj.1 (by omega);exact .tt d
  rw[if_neg h0]at ha
  by_cases h1:k=1
  .subst h1
   rw[if_pos rfl]at ha;obtain rfl:ks=[]:=Aqj.1 (by omega);exact .ff d
  rw[if_neg h1]at ha
  by_cases h3:k=3
  .subst h3
   rw[if_pos rfl]at ha
   match ks,ha,hk with
   |[x],_,hk=>
    obtain⟨k1,k2,_⟩:=Jr hk;exact .no d k1 k2
  rw[if_neg h3]at ha;rw[decide_eq_false h3]at hk;have hb:(k=4\/k=5)/\ks.length=2:=by
   by_cases h4:k=4
   .rw[if_pos h4]at ha;exact⟨.inl h4,by omega⟩
   .rw[if_neg h4]at ha
    by_cases h5:k=5
    .rw[if_pos h5]at ha;exact⟨.inr h5,by omega⟩
    .rw[if_neg h5]at ha;omega
  match ks,hb.2,hk with
  |[x,y],_,hk=>
   obtain⟨k1,k2,hk⟩:=Jr hk;obtain⟨k3,k4,_⟩:=Jr hk;exact .bin d hb.1 k1 k2 k3 k4
section
variable {ts:List Tk}
end
section
variable {ts:List Tk}
end
section
variable {ts:List Tk} (H:TkN ts)
include H
end
section
variable {ts:List Tk} (H:TkN ts)
include H
end
noncomputable def AmH:List (Nat × MFn):=[(47,mf47),(63,mf63),(25,mf25)]
structure SumF (D:Orc):Prop where
 sum:∀ ms:List Mo,Pc ms=true->D.ask (.fn 22) [.ls (ms.map Ix)] []=some (sv (AI (JI ms)),[])
theorem Abs{m:Mo}(h:Bq m=true):m.num.size<=60/\m.var.size<=20:=by
 obtain⟨h1,h2,_⟩:=Abr h;rw[IK,IK];constructor
 .by_cases e:m.num=AI []
  .rw[e];simp[AI]
  .exact Od (h1 e)
 .by_cases e:m.var=AI []
  .rw[e];simp[AI]
  .exact Lu (h2 e)
theorem WS{ms:List Mo}(h:Pc ms=true):ms.length<4611686018427387904/\∀ m∈ms,m.num.size<=9223372036854775807/\m.var.size<=9223372036854775807:=by
 obtain⟨_,h2,h3⟩:=EL h;refine⟨by omega,λm hm=>?_⟩;have:=Abs (List.all_eq_true.1 h3 m hm);omega
section
variable {D:Orc}
variable (K:Knows Al AmH D) (Kt:Knows Al FN D) (L:LexN D) (Ke:Knows Al Qj D) (S:SumF D)
include K Kt L Ke S
end
theorem Td(s:ByteArray):(Gj s).1=AO (zv (Gj s).1):=by
 unfold Gj;split
 .simp only[AJ]
 .show (⟨false,[]⟩:Zi)=AO (zv ⟨false,[]⟩)
  rw[show zv (⟨false,[]⟩:Zi)=0 from rfl,LS]
theorem Oe(m:Mo):InB 4000 (J9 m):=by
 unfold J9;split
 .exact InB.one (by omega)
 .exact(WD _).inb
theorem Ig(m:Mo):InB 4000 (Hh m):=by
 unfold Hh;split
 .exact(Oe m).neg
 .exact Oe m
structure OutB (i:Nat) (out:Lf):Prop where
 len:out.ps.length<=i
 ps:∀ p∈out.ps,InB 4000 p.2
 k:InB (4000+i) out.k
theorem AbK:OutB 0 OX:=⟨by simp[OX],by simp[OX],InB.zero _⟩
theorem OutB.addK{i:Nat}{out:Lf}(h:OutB i out)(m:Mo):OutB (i+1) ⟨out.ps,out.k+Hh m⟩:=⟨by have:=h.len;simp only;omega,h.ps,by
 show InB (4000+i+1) _
 exact InB.add h.k ((Ig m).mono (by omega))⟩
theorem OutB.addP{i:Nat}{out:Lf}(h:OutB i out)(m:Mo)(v:Int):OutB (i+1) ⟨out.ps++[(v,Hh m)],out.k⟩:=⟨by have:=h.len;simp;omega,λp hp=>by
 rcases Aqb.1 hp with hp|hp
 .exact h.ps p hp
 .rw[Aqe.1 hp];exact Ig m,h.k.mono (by omega)⟩
theorem G2(vars:List ByteArray):∀(ms:List Mo) (i:Nat) (out l:Lf),OutB i out->D6 vars ms out=some l->OutB (i+ms.length) l
 |[],i,out,l,h,e=>by
  rw[D6]at e
  cases e
  exact h
 |m::r,i,out,l,h,e=>by
  rw[D6]at e;rw[ApI,show i+(r.length+1)=i+1+r.length by omega];split at e
  .exact G2 vars r (i+1) _ l (h.addK m) e
  .split at e
   .cases e
   .exact G2 vars r (i+1) _ l (h.addP m _) e
theorem KQ(vars:List ByteArray)(ms:List Mo):LB 64 5000 (EH vars ms).1:=by
 have h0:LB 64 5000 OX:=⟨by simp[OX],by simp[OX],InB.zero _⟩;unfold EH;split
 .rename_i h
  split
  .rename_i l e
   have hl:=(EL h).2.1;have g:=G2 vars ms 0 OX l AbK e;have g2:LB 64 4064 l:=⟨by have:=g.len;omega,λp hp=>(g.ps p hp).mono (by omega),g.k.mono (by omega)⟩;exact g2.pln.mono (by omega) (by omega)
  .exact h0
 .exact h0
def Aky(r0:List (List AV))(r1:Bool)(r2:List (List AV)):Option Lf->AV × List BO
 |none=>(.tup [bv true,.ptr 0 0,bv false],[.set ⟨[.ls [],bv false,.ls []],true,false⟩,.del,.del])
 |some l=>(.tup [iv 0,.ptr 0 0,.ptr 1 0],[.set ⟨[.ls r0,bv r1,.ls r2],true,false⟩,.set ⟨[.sl 3 0 (l.ps.map Bm).length 3,bv (AO l.k).neg,eN (AO l.k).abs],true,false⟩,.del,.set (Hd (l.ps.map Bm))])
section
variable {D:Orc} (Kt:Knows Al I7 D) (Kf:Knows Al Mt D) (Ks:Knows Al Fk D) (Z:ZF D) (C:PartF D) (Ko:Knows Al Mr D) (Kfe:Knows Al TJ D) (Ka:Knows Al OG D) (Kta:Knows Al FN D) (N:LexN D)
include Kfe Z Ka
theorem AfI(vars:List ByteArray)(hvl:vars.length<4611686018427387904)(ms:List Mo)(hl:ms.length<=64)(r0:List (List AV))(r1:Bool)(r2:List (List AV)):∀(k i:Nat) (out:Lf),ms.length-i=k->i<=ms.length->OutB i out->
  D.ask (.lp 44 0) [.ls (vars.map eS),.ptr 0 0,.ptr 1 0,.ls (ms.map Ix),iv (ms.length:Int),iv (i:Int)] [⟨[.ls r0,bv r1,.ls r2],true,false⟩,⟨[.sl 2 0 (out.ps.map Bm).length 3,bv (AO out.k).neg,eN (AO out.k).abs],true,false⟩,Hd (out.ps.map Bm)]=some (Aky r0 r1 r2 (D6 vars (ms.drop i) out)):=by
 intro k
 induction k with
 |zero=>
  intro i out hm hi ho;rw[ApL (by omega),D6];refine Kfe.lp' AaR _ rfl (by kernel_rfl) ((Af8 ..).trans ?_);exact ltF_go (by omega)rfl
 |succ k ih=>
  intro i out hm hi ho;have h1:i<ms.length:=by omega
  have hol:(out.ps.map Bm).length<=i:=by have:=ho.len;simpa using this
  obtain⟨T,hT⟩:∃ T,T=D6 vars (ms.drop i) out:=⟨_,rfl⟩;rw[←hT];have hsg:=Ig ms[i];have hoK:=ho.addK ms[i];have hoP:=λv=>ho.addP ms[i] v
  rw[ApE h1,D6]at hT;refine Kfe.lp' AaR _ rfl (by kernel_rfl) ((Af8 ..).trans ?_);refine Ao (by omega)?_;rw[AG,AD (Apy h1)];revert hT hsg hoK hoP;generalize ms[i]=m;obtain⟨mn,mu,mv⟩:=m;intro hT hsg hoK hoP;simp only[Ix,ND,Aa];simp only at hT;refine Ab (Z.of_ 1 (by omega) (by omega))?_;simp only[eZ,eN,ND,Aa]
  by_cases hn:mu=AI []
  .refine Dm hn ?_
   have en:J9 ⟨mn,mu,mv⟩=1:=by unfold J9;rw[if_pos hn]
   cases mn with
   |true=>
    have es:Hh ⟨true,mu,mv⟩=-1:=by unfold Hh;rw[en];rfl
    rw[es]at hT hsg hoK hoP;have gn:=Z.neg (AO 1) ((InB.lz (k:=1) (by unfold InB;decide)).mono (by omega));rw[AJ]at gn;refine Ag ?_;refine Ab gn ?_;simp only[eZ,eN,ND,Aa]
    by_cases hv:mv=AI []
    .rw[if_pos hv]at hT
     have ga:=Z.add (AO out.k) (AO (-1)) (ho.k.lz.mono (by omega)) (hsg.lz.mono (by omega));rw[AJ,AJ]at ga;refine Dm hv ?_;refine Ab ga ?_;simp only[eZ,eN,ND,Aa];rw[Bh (by omega)];refine Ab (ih (i+1) _ (by omega) (by omega) hoK)?_;rw[←hT];clear hT
     cases T<;>rfl
    .rw[if_neg hv]at hT
     refine(En hv).trans ?_;refine Ab (Gd Ka vars hvl mv)?_;simp only[ND,Aa]
     cases ev:vars.findIdx? (mv = ·) with
     |none=>
      rw[ev]at hT;have hT:T=none:=hT;rw[hT];refine Ao (show (-1:Int)<0 by omega)?_;rfl
     |some v=>
      rw[ev]at hT;have hT:T=D6 vars (ms.drop (i+1)) ⟨out.ps++[((v:Int),(-1))],out.k⟩:=hT;have hlt:=(Aqd.1 ev).1;refine ltF_go (show ¬ ((v:Nat):Int)<0 by omega)?_;have hf:Bp ((out.ps.map Bm).length+1) 40=true:=AS (by omega) (by omega);have hb1:ApM (0+(out.ps.map Bm).length*3) (Aw eP (out.ps.map Bm)).length=true:=A3 AK _ (by omega);have e3:ApK 0 (ApG (0+(out.ps.map Bm).length*3) (Aw eP (out.ps.map Bm)))++[iv (v:Int),bv (AO (-1)).neg,eN (AO (-1)).abs]=Aw eP ((out.ps++[((v:Int),((-1):Int))]).map Bm):=by
       rw[ApD,Bf AK _ (by omega),ArI];exact Bg eP (out.ps.map Bm) (Bm ((v:Int),(-1)))
      simp only[eN]at e3;rw[hf];refine Ag ?_;rw[hb1];refine Ag ?_;simp only[Dc];rw[e3,Bh (by omega)];have ih2:=ih (i+1) _ (by omega) (by omega) (hoP (v:Int));rw[show ((out.ps++[((v:Int),((-1):Int))]).map Bm).length=(out.ps.map Bm).length+1 by simp]at ih2;refine Ab ih2 ?_;rw[←hT];clear hT
      cases T<;>rfl
   |false=>
    have es:Hh ⟨false,mu,mv⟩=1:=by unfold Hh;rw[en];rfl
    rw[es]at hT hsg hoK hoP;refine brF_go ?_
    by_cases hv:mv=AI []
    .rw[if_pos hv]at hT
     have ga:=Z.add (AO out.k) (AO 1) (ho.k.lz.mono (by omega)) (hsg.lz.mono (by omega));rw[AJ,AJ]at ga;refine Dm hv ?_;refine Ab ga ?_;simp only[eZ,eN,ND,Aa];rw[Bh (by omega)];refine Ab (ih (i+1) _ (by omega) (by omega) hoK)?_;rw[←hT];clear hT
     cases T<;>rfl
    .rw[if_neg hv]at hT
     refine(En hv).trans ?_;refine Ab (Gd Ka vars hvl mv)?_;simp only[ND,Aa]
     cases ev:vars.findIdx? (mv = ·) with
     |none=>
      rw[ev]at hT;have hT:T=none:=hT;rw[hT];refine Ao (show (-1:Int)<0 by omega)?_;rfl
     |some v=>
      rw[ev]at hT;have hT:T=D6 vars (ms.drop (i+1)) ⟨out.ps++[((v:Int),1)],out.k⟩:=hT;have hlt:=(Aqd.1 ev).1;refine ltF_go (show ¬ ((v:Nat):Int)<0 by omega)?_;have hf:Bp ((out.ps.map Bm).length+1) 40=true:=AS (by omega) (by omega);have hb1:ApM (0+(out.ps.map Bm).length*3) (Aw eP (out.ps.map Bm)).length=true:=A3 AK _ (by omega);have e3:ApK 0 (ApG (0+(out.ps.map Bm).length*3) (Aw eP (out.ps.map Bm)))++[iv (v:Int),bv (AO 1).neg,eN (AO 1).abs]=Aw eP ((out.ps++[((v:Int),(1:Int))]).map Bm):=by
       rw[ApD,Bf AK _ (by omega),ArI];exact Bg eP (out.ps.map Bm) (Bm ((v:Int),1))
      simp only[eN]at e3;rw[hf];refine Ag ?_;rw[hb1];refine Ag ?_;simp only[Dc];rw[e3,Bh (by omega)];have ih2:=ih (i+1) _ (by omega) (by omega) (hoP (v:Int));rw[show ((out.ps++[((v:Int),(1:Int))]).map Bm).length=(out.ps.map Bm).length+1 by simp]at ih2;refine Ab ih2 ?_;rw[←hT];clear hT
      cases T<;>rfl
  .refine(En hn).trans ?_
   have en:J9 ⟨mn,mu,mv⟩=zv (Gj mu).1:=by unfold J9;rw[if_neg hn]
   have gp:=Z.parse mu;have hz:=WD mu;rw[Td mu]at gp hz;generalize zv (Gj mu).1=u at en gp hz;refine Ab gp ?_;simp only[eZ,eN,ND,Aa]
   cases mn with
   |true=>
    have es:Hh ⟨true,mu,mv⟩=-u:=by unfold Hh;rw[en];rfl
    rw[es]at hT hsg hoK hoP;have gn:=Z.neg (AO u) (hz.mono (by omega));rw[AJ]at gn;refine Ag ?_;refine Ab gn ?_;simp only[eZ,eN,ND,Aa]
    by_cases hv:mv=AI []
    .rw[if_pos hv]at hT
     have ga:=Z.add (AO out.k) (AO (-u)) (ho.k.lz.mono (by omega)) (hsg.lz.mono (by omega));rw[AJ,AJ]at ga;refine Dm hv ?_;refine Ab ga ?_;simp only[eZ,eN,ND,Aa];rw[Bh (by omega)];refine Ab (ih (i+1) _ (by omega) (by omega) hoK)?_;rw[←hT];clear hT
     cases T<;>rfl
    .rw[if_neg hv]at hT
     refine(En hv).trans ?_;refine Ab (Gd Ka vars hvl mv)?_;simp only[ND,Aa]
     cases ev:vars.findIdx? (mv = ·) with
     |none=>
      rw[ev]at hT;have hT:T=none:=hT;rw[hT];refine Ao (show (-1:Int)<0 by omega)?_;rfl
     |some v=>
      rw[ev]at hT;have hT:T=D6 vars (ms.drop (i+1)) ⟨out.ps++[((v:Int),(-u))],out.k⟩:=hT;have hlt:=(Aqd.1 ev).1;refine ltF_go (show ¬ ((v:Nat):Int)<0 by omega)?_;have hf:Bp ((out.ps.map Bm).length+1) 40=true:=AS (by omega) (by omega);have hb1:ApM (0+(out.ps.map Bm).length*3) (Aw eP (out.ps.map Bm)).length=true:=A3 AK _ (by omega);have e3:ApK 0 (ApG (0+(out.ps.map Bm).length*3) (Aw eP (out.ps.map Bm)))++[iv (v:Int),bv (AO (-u)).neg,eN (AO (-u)).abs]=Aw eP ((out.ps++[((v:Int),((-u):Int))]).map Bm):=by
       rw[ApD,Bf AK _ (by omega),ArI];exact Bg eP (out.ps.map Bm) (Bm ((v:Int),(-u)))
      simp only[eN]at e3;rw[hf];refine Ag ?_;rw[hb1];refine Ag ?_;simp only[Dc];rw[e3,Bh (by omega)];have ih2:=ih (i+1) _ (by omega) (by omega) (hoP (v:Int));rw[show ((out.ps++[((v:Int),((-u):Int))]).map Bm).length=(out.ps.map Bm).length+1 by simp]at ih2;refine Ab ih2 ?_;rw[←hT];clear hT
      cases T<;>rfl
   |false=>
    have es:Hh ⟨false,mu,mv⟩=u:=by unfold Hh;rw[en];rfl
    rw[es]at hT hsg hoK hoP;refine brF_go ?_
    by_cases hv:mv=AI []
    .rw[if_pos hv]at hT
     have ga:=Z.add (AO out.k) (AO u) (ho.k.lz.mono (by omega)) (hsg.lz.mono (by omega));rw[AJ,AJ]at ga;refine Dm hv ?_;refine Ab ga ?_;simp only[eZ,eN,ND,Aa];rw[Bh (by omega)];refine Ab (ih (i+1) _ (by omega) (by omega) hoK)?_;rw[←hT];clear hT
     cases T<;>rfl
    .rw[if_neg hv]at hT
     refine(En hv).trans ?_;refine Ab (Gd Ka vars hvl mv)?_;simp only[ND,Aa]
     cases ev:vars.findIdx? (mv = ·) with
     |none=>
      rw[ev]at hT;have hT:T=none:=hT;rw[hT];refine Ao (show (-1:Int)<0 by omega)?_;rfl
     |some v=>
      rw[ev]at hT;have hT:T=D6 vars (ms.drop (i+1)) ⟨out.ps++[((v:Int),u)],out.k⟩:=hT;have hlt:=(Aqd.1 ev).1;refine ltF_go (show ¬ ((v:Nat):Int)<0 by omega)?_;have hf:Bp ((out.ps.map Bm).length+1) 40=true:=AS (by omega) (by omega);have hb1:ApM (0+(out.ps.map Bm).length*3) (Aw eP (out.ps.map Bm)).length=true:=A3 AK _ (by omega);have e3:ApK 0 (ApG (0+(out.ps.map Bm).length*3) (Aw eP (out.ps.map Bm)))++[iv (v:Int),bv (AO u).neg,eN (AO u).abs]=Aw eP ((out.ps++[((v:Int),(u:Int))]).map Bm):=by
       rw[ApD,Bf AK _ (by omega),ArI];exact Bg eP (out.ps.map Bm) (Bm ((v:Int),u))
      simp only[eN]at e3;rw[hf];refine Ag ?_;rw[hb1];refine Ag ?_;simp only[Dc];rw[e3,Bh (by omega)];have ih2:=ih (i+1) _ (by omega) (by omega) (hoP (v:Int));rw[show ((out.ps++[((v:Int),(u:Int))]).map Bm).length=(out.ps.map Bm).length+1 by simp]at ih2;refine Ab ih2 ?_;rw[←hT];clear hT
      cases T<;>rfl
include Kt Ks C Kta N in
theorem W3(vars:List ByteArray)(hvl:vars.length<4611686018427387904)(ms:List Mo)(hm:∀ m∈ms,WzM m)(hl:ms.length<4611686018427387904) :
  D.ask (.fn 44) [.ls (ms.map Ix),.ls (vars.map eS)] []=some (.tup [.agg (eT (EH vars ms).1.tm),bv (EH vars ms).2],[]):=by
 have gr:=FM Kta N ms hm hl;have e0:eT OX.tm=[.ls [],bv false,.ls []]:=by rw[U5];rfl
 refine Kfe.fn' AaR _ rfl ((e44 ..).trans ?_);refine Ab gr ?_;simp only[ND,Aa];unfold EH
 cases hr:Pc ms with
 |false=>
  refine brF_go ?_;rw[if_neg (by simp),e0]
 |true=>
  have hlen:=(EL hr).2.1;have gl:=AfI Z Kfe Ka vars hvl ms hlen [] false [] _ 0 OX rfl (by omega) AbK;rw[ApD,show AO OX.k=⟨false,[]⟩ from LS]at gl;refine Ag ?_;rw[if_pos rfl,Av];refine Ab gl ?_
  cases e:D6 vars ms OX with
  |none=>
   simp only;rw[e0];rfl
  |some l=>
   have ob:=G2 vars ms 0 OX l AbK e;have hT:TmB 64 4064 l.tm:=LB.tb ⟨by have:=ob.len;omega,λp hp=>(ob.ps p hp).mono (by omega),ob.k.mono (by omega)⟩;have gp:=Ez Kt Ks Z C hT (by omega) (by omega);rw[DZ]at gp;simp only[Aky,ND,Aa]
   change br _ _ _=_
   rw[show ApM (0+(l.ps.map Bm).length*3) (Aw eP (l.ps.map Bm)).length=true from A3 AK _ (by omega)];refine Ag ?_;rw[Cs AK _ rfl];refine Ab gp ?_;rfl
end
theorem OL:TmB 128 30000 Y8:=by
 rw[←U5];exact LB.tb ⟨by simp[OX],by simp[OX],InB.zero _⟩
theorem Lc(vars:List ByteArray):∀(n:Nat) (t:Tr) (d:Nat),SizeOf.sizeOf t<n->BW t d=true->CanF (Cy vars t).1/\FB 128 30000 (Cy vars t).1:=by
 intro n
 induction n with
 |zero=>intro t d h;omega
 |succ n ih=>
  intro t d hn h;have z0:CanF (kF 0 [])/\FB 128 30000 (kF 0 []):=⟨.tru true,.mk OL (by simp) (by simp)⟩;have z1:CanF (MN false)/\FB 128 30000 (MN false):=⟨.tru false,.mk OL (by simp) (by simp)⟩
  cases KG h with
  |tt=>rw[Cy,if_neg (by decide),B9];exact z0
  |ff=>rw[Cy,if_neg (by decide),B9];exact z1
  |@cmp _ l r op hl hr h1 h2=>
   rw[Cy,if_pos rfl];exact⟨ZD _ _ _,AdJ (KQ vars l) (KQ vars r) op⟩
  |@no _ x hd hx=>
   have g:=ih x _ (by simp only[Tr.mk.sizeOf_spec,List.cons.sizeOf_spec]at hn;omega) hx;rw[Cy,if_neg (by decide),B9,B9];split
   .exact z0
   .rename_i fs e
    split at e
    .cases e
     rw[if_neg (by decide),if_pos (.inl rfl)];exact⟨.no _ g.1,.mk OL (by simp) λy hy=>by rw[Aqe.1 hy];exact g.2⟩
    .cases e
  |@bin _ k x y hk hd hx gd hy=>
   have g:=ih x _ (by simp only[Tr.mk.sizeOf_spec,List.cons.sizeOf_spec]at hn;omega) hx;have g2:=ih y _ (by simp only[Tr.mk.sizeOf_spec,List.cons.sizeOf_spec]at hn;omega) hy;rw[Cy,if_neg (by omega),B9,B9,B9];split
   .exact z0
   .rename_i fs e
    split at e
    .split at e
     .cases e
     .rename_i gs e2
      split at e2
      .cases e2
       cases e
       rw[if_neg (by omega),if_pos (by omega)];have fb:∀ z∈[(Cy vars x).1,(Cy vars y).1],FB 128 30000 z:=λz hz=>by
        rcases ApN.1 hz with rfl|hz
        .exact g.2
        .rw[Aqe.1 hz];exact g2.2
       rcases hk with rfl|rfl
       .exact⟨.and _ (.cons g.1 (.cons g2.1 .nil)),.mk OL (by simp) fb⟩
       .exact⟨.or _ (.cons g.1 (.cons g2.1 .nil)),.mk OL (by simp) fb⟩
      .cases e2
    .cases e
def Pj(t:Tr)(y0:Int)(y1:List (List AV))(y2:Bool)(y3:List (List AV))(y4:Bool)(y5:List (List AV))(out:List Fm):Option (List Fm)->AV × List BO
 |none=>(.tup [bv true,.ptr 1 0,bv false],[.del,.set ⟨eF (kF 0 []),true,false⟩,.del])
 |some fs=>(.tup [iv 0,.ptr 0 0,.ptr 1 0,.sl 3 0 (out++fs).length 6],[.set (K0 t),.set ⟨[iv y0,.ls y1,bv y2,.ls y3,bv y4,.ls y5],true,false⟩,.del,.set (ABlk.mk (Aw eF (out++fs)) true true)])
section
variable {D:Orc} (Kt:Knows Al I7 D) (Kf:Knows Al Mt D) (Ks:Knows Al Fk D) (Z:ZF D) (C:PartF D) (Ko:Knows Al Mr D) (Kfe:Knows Al TJ D) (Ka:Knows Al OG D) (Kta:Knows Al FN D) (N:LexN D)
include Kfe
theorem Ad3(vars:List ByteArray)(t:Tr)(ks:List Tr)(hl:ks.length<=2)(g:∀ x∈ks,D.ask (.fn 65) [.agg (Ck x),.ls (vars.map eS)] []=some (.tup [.agg (eF (Cy vars x).1),bv (Cy vars x).2],[]))(y0:Int)(y1:List (List AV))(y2:Bool)(y3:List (List AV))(y4:Bool)(y5:List (List AV)):∀(k i:Nat) (out:List Fm),ks.length-i=k->i<=ks.length->out.length<=i->
  D.ask (.lp 65 0) [.ls (vars.map eS),.ptr 0 0,.ptr 1 0,.sl 2 0 out.length 6,.ls (ks.map Ck),iv (ks.length:Int),iv (i:Int)] [K0 t,⟨[iv y0,.ls y1,bv y2,.ls y3,bv y4,.ls y5],true,false⟩,ABlk.mk (Aw eF out) true true]=some (Pj t y0 y1 y2 y3 y4 y5 out (B9 vars (ks.drop i))):=by
 intro k
 induction k with
 |zero=>
  intro i out hm hi ho;rw[ApL (by omega),B9];obtain⟨a1,a2,a3,a4,a5,a6,a7⟩:=t;refine Kfe.lp' XQ _ rfl (by kernel_rfl) ((Aga ..).trans ?_);refine ltF_go (by omega)?_;simp only[Pj,AqH];rfl
 |succ k ih=>
  intro i out hm hi ho;have h1:i<ks.length:=by omega
  have gx:=g ks[i] (ApQ h1);have ih:=λy=>ih (i+1) (out++[y]) (by omega) (by omega) (by simp;omega)
  have e3:∀ y,ApK 0 (ApG (0+out.length*6) (Aw eF out))++eF y=Aw eF (out++[y]):=λy=>by
   rw[ApD,Bf E4 out (by omega)];exact Bg eF out _
  obtain⟨T,hT⟩:∃ T,T=B9 vars (ks.drop i):=⟨_,rfl⟩;rw[←hT];rw[ApE h1,B9]at hT;obtain⟨a1,a2,a3,a4,a5,a6,a7⟩:=t;refine Kfe.lp' XQ _ rfl (by kernel_rfl) ((Aga ..).trans ?_);refine Ao (by omega)?_;rw[AG,AD (Apy h1)];revert gx hT;generalize ks[i]=x;intro gx hT;generalize Cy vars x=q at gx hT;obtain⟨y,b⟩:=q;have ih:=ih y;have e3:=e3 y;obtain⟨xk,xl,xr,xo,xp,xq,xs⟩:=x;obtain⟨yk,yt,ye,ys⟩:=y;simp only[Ck,eF,eN,ND,Aa]at gx e3 ⊢;refine Ab gx ?_;simp only[ND,Aa]
  cases b with
  |false=>
   have hT:T=none:=hT;rw[hT];refine Ag ?_;simp only[Pj,kF,eF];rfl
  |true=>
   have hT:T=(match B9 vars (ks.drop (i+1)) with
    |none=>none
    |some fs=>some (Fm.mk yk yt ye ys::fs)):=hT
   refine brF_go ?_;rw[show Bp (out.length+1) 96=true from AS (by omega) (by omega)];refine Ag ?_;rw[show ApM (0+out.length*6) (Aw eF out).length=true from A3 E4 out (by omega)];refine Ag ?_;rw[e3,Bh (by omega)];rw[show (out++[Fm.mk yk yt ye ys]).length=out.length+1 by simp]at ih;unfold K0 at ih;rw[Ck]at ih;refine Ab ih ?_
   cases e:B9 vars (ks.drop (i+1)) with
   |none=>
    rw[e]at hT;rw[hT];rfl
   |some fs=>
    rw[e]at hT;rw[hT];simp only[Pj,Ap9,Arn,K0,Ck];rfl
include Kt Kf Ks Z C Ko Ka Kta N in
theorem Ad4(vars:List ByteArray)(hvl:vars.length<4611686018427387904):∀(n:Nat) (t:Tr) (d:Nat),SizeOf.sizeOf t<n->BW t d=true->D.ask (.fn 65) [.agg (Ck t),.ls (vars.map eS)] []=some (.tup [.agg (eF (Cy vars t).1),bv (Cy vars t).2],[]):=by
 intro n
 induction n with
 |zero=>intro t d h;omega
 |succ n ih=>
  intro t d hn h
  have fin:∀(k:Int) (ks:List Tr),ks.length<=2->t=.mk k [] [] 0 (AI []) (AI []) ks->(∀ x∈ks,∃ d,SizeOf.sizeOf x<n/\BW x d=true)->(k=0/\ks=[]\/k=1/\ks=[]\/(k=3/\ks.length=1)\/k=4\/k=5)->D.ask (.fn 65) [.agg (Ck t),.ls (vars.map eS)] []=some (.tup [.agg (eF (Cy vars t).1),bv (Cy vars t).2],[]):=by
   intro k ks hl ht hx hk;have gl:=Ad3 Kfe vars t ks hl (λx hm=>by
    obtain⟨d,h1,h2⟩:=hx x hm;exact ih x d h1 h2) 0 [] false [] false [] _ 0 [] rfl (by omega) (by simp)
   rw[ApD]at gl;have hgood:∀ fs,B9 vars ks=some fs->fs.map BV=fs/\∀ y∈fs,FB 128 30000 y:=by
    clear gl ht hk hl;intro fs
    induction ks generalizing fs with
    |nil=>intro e;rw[B9]at e;cases e;exact⟨rfl,by simp⟩
    |cons x r ihr=>
     intro e;rw[B9]at e;split at e
     .split at e
      .cases e
      .rename_i gs e2
       cases e
       obtain⟨d,h1,h2⟩:=hx x (List.mem_cons_self ..);have g:=Lc vars _ x d (Aqp _) h2;obtain⟨g1,g2⟩:=ihr (λy hy=>hx y (ApW _ hy)) gs e2;refine⟨by rw[List.map_cons,g.1.clone,g1],λy hy=>?_⟩;rcases ApN.1 hy with rfl|hy
       .exact g.2
       .exact g2 y hy
     .cases e
   have hfl:∀ fs,B9 vars ks=some fs->fs.length=ks.length:=by
    clear gl ht hk hl hgood;intro fs
    induction ks generalizing fs with
    |nil=>intro e;rw[B9]at e;cases e;rfl
    |cons x r ihr=>
     intro e;rw[B9]at e;split at e
     .split at e
      .cases e
      .rename_i gs e2
       cases e
       rw[ApI,ApI,ihr (λy hy=>hx y (ApW _ hy)) gs e2]
     .cases e
   subst ht;have hk2:k≠2:=by omega
   unfold K0 at gl;rw[Ck,B3]at gl;refine Kfe.fn' XQ _ rfl ((e65 ..).trans ?_);refine eqF_go hk2 ?_;rw[B3,Av];rw[Cy,if_neg hk2];refine Ab gl ?_
   cases e:B9 vars ks with
   |none=>
    simp only[Pj,kF,eF];rfl
   |some fs=>
    obtain⟨g1,g2⟩:=hgood fs e;have g3:=hfl fs e;have hch:BA ([]++fs).length 6 (ApG (([]++fs).length*6) (Aw eF ([]++fs)))=fs.map eF:=by
     rw[Ap4];exact Cs E4 fs rfl
    have hble:ApM (0+([]++fs).length*6) (Aw eF ([]++fs)).length=true:=by
     rw[Ap4];exact A3 E4 fs (by omega)
    have hb:K0 (.mk k [] [] 0 (AI []) (AI []) ks)=ABlk.mk [iv k,.ls ([]:List (List AV)),.ls ([]:List (List AV)),iv 0,sv (AI []),sv (AI []),.ls (ks.map Ck)] true false:=by
     unfold K0;rw[Ck,B3];rfl
    simp only[Pj];rw[hb];simp only[ND,Aa]
    by_cases h0:k=0
    .rw[if_pos h0]
     refine AF h0 ?_;refine Ab (Gt Ko true)?_;rfl
    rw[if_neg h0];refine eqF_go h0 ?_
    by_cases h3:k=3
    .rw[if_pos (.inl h3)]
     refine AF h3 ?_;have hl1:fs.length=1:=by
      rw[g3];rcases hk with h|h|h|h|h
      .omega
      .omega
      .exact h.2
      .omega
      .omega
     match fs,hl1,g1,g2 with
     |[y],_,g1,g2=>
      have gd:=VV Kt Ks Z C Ko (n:=128) (k:=30000) (by omega) (by omega) (g2 y (List.mem_singleton_self _));have g1:BV y=y:=by simpa using g1
      rw[g1]at gd;refine Ag ?_;refine(By E4 [y] 0 (by simp) _).trans ?_;rw[h3]
      show _=some (AV.tup [AV.agg (eF (kF 3 [y])),bv true],[])
      have e0:([y]:List Fm)[0]=y:=rfl;rw[e0];obtain⟨yk,yt,ye,ys⟩:=y;simp only[eF,eN,ND,Aa]at gd ⊢;refine Ab gd ?_;unfold kF;rw[eF,Jb,Jb,eF];rfl
    refine eqF_go h3 ?_
    by_cases h4:k=4
    .rw[if_pos (.inr (.inl h4)),h4]
     have ga:=Adg Kt Ks Z C Ko (n:=128) (k:=30000) (by omega) (by omega) (l:=fs) (by omega) g2;rw[g1]at ga;refine AF rfl ?_;rw[hble];refine Ag ?_;rw[hch];refine Ab ga ?_;unfold kF;rw[eF];rfl
    refine eqF_go h4 ?_
    by_cases h5:k=5
    .rw[if_pos (.inr (.inr h5)),h5]
     have ga:=AdB Kt Ks Z C Ko (n:=128) (k:=30000) (by omega) (by omega) (l:=fs) (by omega) g2;rw[g1]at ga;refine AF rfl ?_;rw[hble];refine Ag ?_;rw[hch];refine Ab ga ?_;unfold kF;rw[eF];rfl
    rw[if_neg (by omega)];refine eqF_go h5 ?_;refine Ab (Gt Ko false)?_;rfl
  cases KG h with
  |tt=>exact fin 0 [] (by simp) rfl (by simp) (.inl ⟨rfl,rfl⟩)
  |ff=>exact fin 1 [] (by simp) rfl (by simp) (.inr (.inl ⟨rfl,rfl⟩))
  |@no _ x hd hx=>
   exact fin 3 [x] (by simp) rfl (λy hy=>by
    rw[Aqe.1 hy];exact⟨_,by simp only[Tr.mk.sizeOf_spec,List.cons.sizeOf_spec]at hn;omega,hx⟩) (.inr (.inr (.inl ⟨rfl,rfl⟩)))
  |@bin _ k x y hk hd hx gd hy=>
   exact fin k [x,y] (by simp) rfl (λz hz=>by
    simp only[Tr.mk.sizeOf_spec,List.cons.sizeOf_spec]at hn;rcases ApN.1 hz with rfl|hz
    .exact⟨_,by omega,hx⟩
    .rw[Aqe.1 hz]
     exact⟨_,by omega,hy⟩) (by omega)
  |@cmp _ l r op hl hr h1 h2=>
   have gl:=W3 Kt Ks Z C Kfe Ka Kta N vars hvl l (WS hl).2 (WS hl).1;have gr:=W3 Kt Ks Z C Kfe Ka Kta N vars hvl r (WS hr).2 (WS hr).1;have gc:=AdK Kt Kf Ks Z C Ko (KQ vars l).tb (KQ vars r).tb op;rw[DZ,DZ]at gc;rw[Cy,if_pos rfl];refine Kfe.fn' XQ _ rfl ((e65 ..).trans ?_);refine AF rfl ?_;refine Ab gl ?_;simp only[eT,eN,ND,Aa];refine Ab gr ?_;simp only[eT,eN,ND,Aa];refine Ab gc ?_;generalize O5 op (EH vars l).1 (EH vars r).1=y;obtain⟨yk,yt,ye,ys⟩:=y;rw[eF]
   cases (EH vars l).2<;>cases (EH vars r).2<;>rfl
def FD(vars:List ByteArray)(t:Tr):Fm × Bool:=if BW t 0&&(Cy vars t).2 then((Cy vars t).1,true) else(MN false,false)
include Kt Kf Ks Z C Ko Ka Kta N in
theorem Ac8(vars:List ByteArray)(hvl:vars.length<4611686018427387904)(t:Tr)(hz:WzT t):D.ask (.fn 27) [.agg (Ck t),.ls (vars.map eS)] []=some (.tup [.agg (eF (FD vars t).1),bv (FD vars t).2],[]):=by
 have gr:=Zf Kta N t hz;have gf:=λh=>Ad4 Kt Kf Ks Z C Ko Kfe Ka Kta N vars hvl _ t 0 (Aqp _) h
 have gt:=Gt Ko false;unfold FD;obtain⟨q,hq⟩:∃ q,q=Cy vars t:=⟨_,rfl⟩;rw[←hq]at gf ⊢;obtain⟨f,b⟩:=q;obtain⟨fk,ft,fe,fs⟩:=f;obtain⟨tk,tl,tr,to,tp,tq,ts⟩:=t;refine Kfe.fn' AkX _ rfl ((e27 ..).trans ?_)
 cases hr:BW (.mk tk tl tr to tp tq ts) 0 with
 |false=>
  rw[hr]at gr;simp only[Ck,eN,ND,Aa]at gr ⊢;refine Ab gr ?_;simp only[ND,Aa];refine Ab gt ?_;rfl
 |true=>
  rw[hr]at gr;have gf:=gf hr;simp only[Ck,eF,eN,ND,Aa]at gr gf ⊢;refine Ab gr ?_;simp only[ND,Aa];refine Ab gf ?_;simp only[ND,Aa]
  cases b with
  |true=>
   refine brF_go ?_;simp only[Bool.and_self,if_true];rw[eF];rfl
  |false=>
   refine Ag ?_;refine Ab gt ?_;rfl
end
structure Pr where
 name:ByteArray
 locs:List ByteArray
 cmds:List (List AV)
def Y9(p:Pr):List AV:=[sv p.name,.ls (p.locs.map eS),.ls p.cmds]
def LP(k:Int)(ks:List Tr):Tr:=.mk k [] [] 0 (AI []) (AI []) ks
section
variable (ts:List Tk) (vars:List ByteArray) (kn:Bool) (ps:List Pr)
end
section
variable {ts:List Tk} (H:Toks ts) (vars:List ByteArray) (kn:Bool) (ps:List Pr)
include H
end
structure Sy where
 vars:List ByteArray
 s2:List (List AV)
 s3:Int
 s4:List (List AV)
 s5:Bool
 s6:List (List AV)
 s7:Bool
 s8:List (List AV)
 ps:List Pr
 s10:List (List AV)
def Jm(y:Sy):List AV:=[.ls (y.vars.map eS),.ls y.s2,iv y.s3,.ls y.s4,bv y.s5,.ls y.s6,bv y.s7,.ls y.s8,.ls (y.ps.map Y9),.ls y.s10]
structure PreT (ts:List Tk):Prop where
 sg:∀ i,(nx ts i).text=[33]\/(nx ts i).text=[40]->(nx ts i).kind=2
 bg:∀ i,(nx ts i).text=[88]\/(nx ts i).text=[71]\/(nx ts i).text=[70]->(nx ts i).kind=4
theorem MW(s:ByteArray):(eS s).length=1:=rfl
section
variable {D:Orc}
variable (K:Knows Al Qj D) (Kq:Knows Al AcA D) (L:NameF D) {ts:List Tk} (H:Toks ts) (y:Sy)
include K Kq L H
end
structure Pp where
 here:Bool
 proc:Int
 loc:Int
 f:Fm
def IR(p:Pp):List AV:=bv p.here::iv p.proc::iv p.loc::eF p.f
theorem JW(p:Pp):(IR p).length=9:=by
 unfold IR;rw[ApI,ApI,ApI,E4]
inductive Rf where
 |mk (kind num:Int) (kids:List Rf)
mutual
def eG:Rf->List AV
 |.mk k n ks=>[iv k,iv n,.ls (eGs ks)]
def eGs:List Rf->List (List AV)
 |[]=>[]
 |x::r=>eG x::eGs r
end
theorem MV:∀ l,eGs l=l.map eG
 |[]=>rfl
 |x::r=>by simp[eGs,MV r]
theorem K9(x:Rf):(eG x).length=3:=by
 obtain⟨k,n,ks⟩:=x;rw[eG];rfl
structure PpOk (p:Pp):Prop where
 can:CanF p.f
 fb:FB 128 30000 p.f
def Fi(p q:Pp):Bool:=p.here == q.here&&decide (p.proc=q.proc)&&decide (p.loc=q.loc)&&VY p.f q.f
theorem Yy{p q:Pp}(hp:CanF p.f)(hq:CanF q.f):Fi p q=true ↔ p=q:=by
 obtain⟨a,b,c,f⟩:=p;obtain⟨a',b',c',f'⟩:=q;unfold Fi;simp only[ApF,decide_eq_true_eq,beq_iff_eq,Pp.mk.injEq];rw[AdV hp hq];constructor
 .rintro⟨⟨⟨h1,h2⟩,h3⟩,h4⟩
  exact⟨h1,h2,h3,h4⟩
 .rintro⟨h1,h2,h3,h4⟩
  exact⟨⟨⟨h1,h2⟩,h3⟩,h4⟩
def F0:Fm:=MN true
def P0:Pp:=⟨false,0,0,F0⟩
theorem Akt:FB 128 30000 F0:=by
 refine .mk ?_ (by simp) (by simp);refine⟨by simp[Y8],by simp[Y8],?_⟩;exact⟨BZ,by simp[Y8]⟩
theorem Af0{h:Bool}{a b:Int}:PpOk ⟨h,a,b,F0⟩:=⟨CanF.tru true,Akt⟩
def Fb(y:Sy)(p q:ByteArray):Pp × Bool:=match (y.ps.map (·.name)).findIdx? (p = ·) with
 |none=>(P0,false)
 |some i=>(⟨true,(i:Int),Dc (((y.ps[i]?.map (·.locs)).getD []).findIdx? (q = ·)),F0⟩,decide (0<=Dc (((y.ps[i]?.map (·.locs)).getD []).findIdx? (q = ·))))
def CK(y:Sy):Tr->Pp × Bool
 |.mk k l r op p q ks=>if k=6 then Fb y p q else(⟨false,0,0,(FD y.vars (.mk k l r op p q ks)).1⟩,(FD y.vars (.mk k l r op p q ks)).2)
theorem UO(vars:List ByteArray)(t:Tr):CanF (FD vars t).1/\FB 128 30000 (FD vars t).1:=by
 unfold FD;split
 .rename_i h
  exact Lc vars _ t 0 (Aqp _) (by simp only[ApF]at h;exact h.1)
 .refine⟨.tru false,.mk ?_ (by simp) (by simp)⟩
  exact⟨by simp[Y8],by simp[Y8],⟨BZ,by simp[Y8]⟩⟩
theorem Ng(y:Sy)(t:Tr):PpOk (CK y t).1:=by
 obtain⟨k,l,r,op,p,q,ks⟩:=t;rw[CK];split
 .unfold Fb
  split
  .exact Af0
  .exact Af0
 .have h:=UO y.vars (.mk k l r op p q ks)
  exact⟨h.1,h.2⟩
def Vg(ps:List Pp)(p:Pp):Int:=match ps.findIdx? (Fi p) with
 |some i=>(i:Int)
 |none=>(ps.length:Int)
def IP(ps:List Pp)(p:Pp):List Pp:=match ps.findIdx? (Fi p) with
 |some _=>ps
 |none=>ps++[p]
mutual
def Dd(y:Sy):Tr->List Pp->Option Rf × List Pp
 |.mk k l r op p q ks,ps=>if k=2\/k=6 then(if(CK y (.mk k l r op p q ks)).2=true then(some (.mk 2 (Vg ps (CK y (.mk k l r op p q ks)).1) []),IP ps (CK y (.mk k l r op p q ks)).1) else(none,ps)) else((CQ y ks ps).1.map (.mk k 0),(CQ y ks ps).2)
def CQ(y:Sy):List Tr->List Pp->Option (List Rf) × List Pp
 |[],ps=>(some [],ps)
 |x::r,ps=>match (Dd y x ps).1 with
  |none=>(none,(Dd y x ps).2)
  |some f=>((CQ y r (Dd y x ps).2).1.map (f::·),(CQ y r (Dd y x ps).2).2)
end
theorem M2(y:Sy)(k:Int)(l r:List Mo)(op:Int)(p q:ByteArray)(ks:List Tr)(ps:List Pp):Dd y (.mk k l r op p q ks) ps=if k=2\/k=6 then(if(CK y (.mk k l r op p q ks)).2=true then(some (.mk 2 (Vg ps (CK y (.mk k l r op p q ks)).1) []),IP ps (CK y (.mk k l r op p q ks)).1) else(none,ps)) else((CQ y ks ps).1.map (.mk k 0),(CQ y ks ps).2):=by
 rw[Dd]
theorem JC(y:Sy)(x:Tr)(r:List Tr)(ps:List Pp):CQ y (x::r) ps=match (Dd y x ps).1 with
  |none=>(none,(Dd y x ps).2)
  |some f=>((CQ y r (Dd y x ps).2).1.map (f::·),(CQ y r (Dd y x ps).2).2):=by
 rw[CQ]
mutual
def GQ:Tr->Nat
 |.mk _ _ _ _ _ _ ks=>Ha ks+1
def Ha:List Tr->Nat
 |[]=>0
 |x::r=>GQ x+Ha r
end
theorem Zj(ps:List Pp)(p:Pp):(IP ps p).length<=ps.length+1:=by
 unfold IP;split<;>simp
theorem Adc{ps:List Pp}{p:Pp}(h:∀ x∈ps,PpOk x)(hp:PpOk p):∀ x∈IP ps p,PpOk x:=by
 unfold IP;split
 .exact h
 .intro x hx
  rcases Aqb.1 hx with hx|hx
  .exact h x hx
  .rcases Aqe.1 hx with rfl
   exact hp
mutual
theorem Gn(y:Sy):∀(t:Tr) (ps:List Pp),(∀ x∈ps,PpOk x)->(Dd y t ps).2.length<=ps.length+GQ t/\∀ x∈(Dd y t ps).2,PpOk x
 |.mk k l r op p q ks,ps,h=>by
  rw[M2,GQ];split
  .split
   .have:=Zj ps (CK y (.mk k l r op p q ks)).1
    exact⟨by show (IP _ _).length<=_;omega,Adc h (Ng y _)⟩
   .exact⟨by show ps.length<=_;omega,h⟩
  .have g:=Ot y ks ps h
   exact⟨by show (CQ y ks ps).2.length<=_;omega,g.2⟩
theorem Ot(y:Sy):∀(ks:List Tr) (ps:List Pp),(∀ x∈ps,PpOk x)->(CQ y ks ps).2.length<=ps.length+Ha ks/\∀ x∈(CQ y ks ps).2,PpOk x
 |[],ps,h=>⟨by rw[CQ];simp[Ha],by rw[CQ];exact h⟩
 |x::r,ps,h=>by
  have g1:=Gn y x ps h;have g2:=Ot y r (Dd y x ps).2 g1.2;rw[JC,Ha];split
  .exact⟨by show (Dd y x ps).2.length<=_;omega,g1.2⟩
  .exact⟨by show (CQ y r (Dd y x ps).2).2.length<=_;omega,g2.2⟩
end
def Gg(k:Int):Int:=if k=0 then 0 else if k=1 then 0 else if k=2 then 0 else if k=6 then 0 else if k=3 then 1 else if k=8 then 1 else if k=9 then 1 else if k=10 then 1 else if k=4 then 2 else if k=5 then 2 else if k=7 then 2 else if k=11 then 2 else if k=12 then 2 else -1
def JJ(k:Int):Int:=if k=7 then 1 else if k=5 then 2 else if k=4 then 3 else if k=11 then 4 else if k=12 then 4 else 5
def Lq(p:Int)(i:Nat)(k:Int):Bool:=if Gg p=1 then decide (JJ k<5) else if JJ p=JJ k then((decide (JJ p=1)||decide (JJ p=4)) == decide (i=0)) else decide (JJ k<JJ p)
def SU:Tr->Bool
 |.mk k l r op p q ks=>if k=2 then Nr (.mk k l r op p q ks) else if k=6 then decide (l.length=0)&&decide (r.length=0)&&decide (op=0)&&DE p.data.toList&&DE q.data.toList else FZ (.mk k l r op p q ks)
mutual
def Cf:Tr->Nat->Bool
 |.mk k l r op p q ks,d=>if(ks.length:Int)=Gg k then(if Gg k=0 then SU (.mk k l r op p q ks) else decide (IV (decide (Gg k=1)) d<=60)&&FZ (.mk k l r op p q ks)&&EE k (IV (decide (Gg k=1)) d) 0 ks) else false
def EE(k:Int)(d:Nat):Nat->List Tr->Bool
 |_,[]=>true
 |i,x::r=>(decide (IV (Lq k i x.kind) d<=60)&&Cf x (IV (Lq k i x.kind) d))&&EE k d (i+1) r
end
inductive WzP:Tr->Prop where
 |mk {k:Int} {l r:List Mo} {op:Int} {p q:ByteArray} {ks:List Tr} (zp:p.size<=9223372036854775807) (zq:q.size<=9223372036854775807) (h:∀ x∈ks,WzP x):WzP (.mk k l r op p q ks)
theorem Aa3(c:Prop)[Decidable c](a b:Int):(if c then some (iv a,([]:List BO)) else some (iv b,[]))=some (iv (if c then a else b),[]):=by
 by_cases h:c
 .rw[if_pos h,if_pos h]
 .rw[if_neg h,if_neg h]
section
variable {D:Orc}
variable (K:Knows Al WZ D)
include K
theorem PO(k:Int):D.ask (.fn 132) [iv k] []=some (iv (Gg k),[]):=by
 refine K.fn' Agy _ rfl ((Ani ..).trans ?_);unfold Gg;simp only[Kn,G6,decide_eq_true_eq,Aa3]
theorem PR(k:Int):D.ask (.fn 194) [iv k] []=some (iv (JJ k),[]):=by
 refine K.fn' AgU _ rfl ((AnP ..).trans ?_);unfold JJ;simp only[Kn,G6,decide_eq_true_eq,Aa3]
theorem O8(p:Int)(i:Nat)(t:Tr):D.ask (.fn 134) [iv p,iv (i:Int),.agg (Ck t)] []=some (bv (Lq p i t.kind),[]):=by
 obtain⟨k,l,r,op,q,v,ks⟩:=t;refine K.fn' AgA _ rfl ((Ank ..).trans ?_);refine Ab (PR K p)?_;simp only[ND,Aa];refine Ab (PR K k)?_;simp only[ND,Aa];refine Ab (PO K p)?_;simp only[ND,Aa];unfold Lq Tr.kind;have e1:Aj.beq true true=true:=rfl;have e2:Aj.beq true false=false:=rfl;have e3:Aj.beq false true=false:=rfl;have e4:Aj.beq false false=true:=rfl;simp only[Kn,Pb,G6,decide_eq_true_eq,e1,e2,e3,e4,ci0];generalize JJ p=a;generalize JJ k=b
 by_cases h1:Gg p=1
 .by_cases h2:b<5<;>simp[h1,h2]
 .by_cases h2:a=b
  .by_cases h3:a=1
   .by_cases h5:i=0<;>simp_all
   .by_cases h4:a=4<;>by_cases h5:i=0<;>simp_all
  .by_cases h3:b<a<;>simp[h1,h2,h3]
theorem X7(t:Tr)(d:Nat)(hd:d<=60)(ks:List Tr)(hk:ks.length<4611686018427387904)(g:∀ x∈ks,∀ d:Nat,d<=60->D.ask (.fn 74) [.agg (Ck x),iv (d:Int)] []=some (bv (Cf x d),[])):∀(n i:Nat),ks.length-i=n->
  D.ask (.lp 74 0) [iv (d:Int),.ptr 0 0,.ls (ks.map Ck),iv (ks.length:Int),iv (i:Int)] [K0 t]=some (if EE t.kind d i (ks.drop i) then .tup [iv 0] else .tup [bv true,bv false],[.del]):=by
 intro n;obtain⟨k,l,r,op,p,q,kz⟩:=t
 induction n with
 |zero=>
  intro i hi;refine K.lp' AaU _ rfl (by kernel_rfl) ((Agc ..).trans ?_);rw[show ks.drop i=[] from ApL (by omega)];refine ltF_go (by omega)?_;rfl
 |succ n ih=>
  intro i hi;have hlt:i<ks.length:=by omega
  have ih:=ih (i+1) (by omega);rw[show ks.drop i=ks[i]::ks.drop (i+1) from ApE hlt];have gx:=g ks[i] (ApQ hlt);have hb:=O8 K k i ks[i];refine K.lp' AaU _ rfl (by kernel_rfl) ((Agc ..).trans ?_);refine Ao (by omega)?_;rw[AG,AD (Apy hlt)];revert gx hb;generalize ks[i]=x;obtain⟨xk,xl,xr,xo,xp,xq,xs⟩:=x;intro gx hb;unfold EE Tr.kind;unfold Tr.kind at hb ih;simp only[Ck,ND,Aa];refine Ab hb ?_;simp only[ND,Aa];have tl:∀(b:Bool),(if b=true then EE k d (i+1) (ks.drop (i+1))=true else False)->True:=λ_ _=>trivial
  cases hbk:Lq k i xk with
  |true=>
   refine Ag ?_;rw[Bh (by omega)]
   by_cases h60:d+1<=60
   .refine ltF_go (by omega)?_
    refine Ab (gx (d+1) h60)?_;simp only[ND,Aa];rw[show IV true d=d+1 from rfl,decide_eq_true h60,ApZ]
    cases Cf (.mk xk xl xr xo xp xq xs) (d+1) with
    |false=>rfl
    |true=>
     refine Ag ?_;rw[Bh (by omega)];refine Ab ih ?_;rw[ApZ]
     cases EE k d (i+1) (ks.drop (i+1))<;>rfl
   .refine Ao (by omega)?_
    rw[show IV true d=d+1 from rfl,decide_eq_false h60,Aqx,Aqx];rfl
  |false=>
   refine brF_go ?_;refine ltF_go (by omega)?_;refine Ab (gx d hd)?_;simp only[ND,Aa];rw[show IV false d=d from rfl,decide_eq_true hd,ApZ]
   cases Cf (.mk xk xl xr xo xp xq xs) d with
   |false=>rfl
   |true=>
    refine Ag ?_;rw[Bh (by omega)];refine Ab ih ?_;rw[ApZ]
    cases EE k d (i+1) (ks.drop (i+1))<;>rfl
theorem Abi(Kt:Knows Al FN D)(L:LexN D)(t:Tr)(hz:WzT t)(hp:WzP t):D.ask (.fn 133) [.agg (Ck t)] []=some (bv (SU t),[]):=by
 have gb:=QE Kt t;have gc:=ON Kt L t hz;obtain⟨k,l,r,op,p,q,ks⟩:=t;obtain⟨z1,z2,_⟩:=hp;have gp:=L.name p z1;have gq:=L.name q z2;refine K.fn' Agz _ rfl ((Anj ..).trans ?_);rw[SU];rw[Av,Av];simp only[Ck]at gb gc
 by_cases h2:k=2
 .refine AF h2 ?_
  refine Ab gc ?_;rw[if_pos h2]
  cases Nr (.mk k l r op p q ks)<;>rfl
 .refine eqF_go h2 ?_
  rw[if_neg h2]
  by_cases h6:k=6
  .refine AF h6 ?_
   rw[if_pos h6]
   by_cases h3:l.length=0
   .refine AF (by omega)?_
    by_cases h4:r.length=0
    .refine AF (by omega)?_
     by_cases h5:op=0
     .refine AF h5 ?_
      refine Ab gp ?_;simp only[ND,Aa];rw[decide_eq_true h3,decide_eq_true h4,decide_eq_true h5]
      cases DE p.data.toList with
      |false=>rfl
      |true=>
       refine Ag ?_;refine Ab gq ?_
       cases DE q.data.toList<;>rfl
     .refine eqF_go h5 ?_
      simp[h5]
    .refine eqF_go (by omega)?_
     simp[h4]
   .refine eqF_go (by omega)?_
    simp[h3]
  .refine eqF_go h6 ?_
   rw[if_neg h6];refine Ab gb ?_
   cases FZ (.mk k l r op p q ks)<;>rfl
theorem X8(Kt:Knows Al FN D)(L:LexN D):∀(n:Nat) (t:Tr),SizeOf.sizeOf t<n->WzT t->WzP t->∀ d:Nat,d<=60->D.ask (.fn 74) [.agg (Ck t),iv (d:Int)] []=some (bv (Cf t d),[]):=by
 intro n
 induction n with
 |zero=>intro t h;omega
 |succ n ih=>
  intro t ht hz hp d hd;have gb:=QE Kt t;have gl:=Abi K Kt L t hz hp;obtain⟨k,l,r,op,p,q,ks⟩:=t;obtain⟨hl,hr,hk,zl,zr,hx⟩:=hz;obtain⟨_,_,hy⟩:=hp;have ga:=PO K k;have gk:∀ x∈ks,∀ d:Nat,d<=60->D.ask (.fn 74) [.agg (Ck x),iv (d:Int)] []=some (bv (Cf x d),[]):=λx hm d hd=>ih x (by
   have h1:=NZ hm;simp only[Tr.mk.sizeOf_spec]at ht;omega) (hx x hm) (hy x hm) d hd
  have glp:=λ(d:Nat) (hd:d<=60)=>X7 K (.mk k l r op p q ks) d hd ks hk gk _ 0 rfl
  simp only[ApD,Tr.kind,K0,Ck]at glp;refine K.fn' AaU _ rfl ((e74 ..).trans ?_);rw[Cf];rw[B3]at glp ⊢;rw[Av];simp only[Ck,B3]at gb gl;refine Ab ga ?_;simp only[ND,Aa]
  by_cases h4:(ks.length:Int)=Gg k
  .refine AF h4 ?_
   rw[if_pos h4]
   by_cases h0:Gg k=0
   .refine AF h0 ?_
    rw[if_pos h0];refine Ab gl ?_
    cases SU (.mk k l r op p q ks)<;>rfl
   .refine eqF_go h0 ?_
    rw[if_neg h0]
    by_cases h1:Gg k=1
    .refine AF h1 ?_
     rw[decide_eq_true h1,Bh (by omega)]
     by_cases h60:d+1<=60
     .refine ltF_go (by omega)?_
      rw[show IV true d=d+1 from rfl,decide_eq_true h60,ApZ];refine Ab gb ?_;simp only[ND,Aa]
      cases FZ (.mk k l r op p q ks) with
      |false=>rfl
      |true=>
       refine Ag ?_;refine Ab (glp (d+1) h60)?_;rw[ApZ]
       cases EE k (d+1) 0 ks<;>rfl
     .refine Ao (by omega)?_
      rw[show IV true d=d+1 from rfl,decide_eq_false h60,Aqx,Aqx]
    .refine eqF_go h1 ?_
     rw[decide_eq_false h1];refine ltF_go (by omega)?_;rw[show IV false d=d from rfl,decide_eq_true hd,ApZ];refine Ab gb ?_;simp only[ND,Aa]
     cases FZ (.mk k l r op p q ks) with
     |false=>rfl
     |true=>
      refine Ag ?_;refine Ab (glp d hd)?_;rw[ApZ]
      cases EE k d 0 ks<;>rfl
  .refine eqF_go h4 ?_
   rw[if_neg h4]
theorem XY(Kt:Knows Al FN D)(L:LexN D)(t:Tr)(hz:WzT t)(hp:WzP t):D.ask (.fn 36) [.agg (Ck t)] []=some (bv (Cf t 0),[]):=by
 have g:=X8 K Kt L _ t (Aqp _) hz hp 0 (by omega);obtain⟨k,l,r,op,p,q,ks⟩:=t;refine K.fn' Ak0 _ rfl ((e36 ..).trans ?_);refine Ab g ?_;simp only[ND,Aa]
 cases Cf (.mk k l r op p q ks) 0<;>rfl
end
structure ResF (D:Orc):Prop where
 form:∀(vars:List ByteArray) (t:Tr),vars.length<4611686018427387904->WzT t->D.ask (.fn 27) [.agg (Ck t),.ls (vars.map eS)] []=some (.tup [.agg (eF (FD vars t).1),bv (FD vars t).2],[])
 same:∀ x y:Fm,CanF x->CanF y->FB 128 30000 x->FB 128 30000 y->D.ask (.fn 233) [.agg (eF x),.agg (eF y)] []=some (bv (VY x y),[])
 index:∀(xs:List ByteArray) (s:ByteArray),xs.length<4611686018427387904->D.ask (.fn 88) [.ls (xs.map eS),sv s] []=some (iv (Dc (xs.findIdx? (s = ·))),[])
 procs:∀ y:Sy,y.ps.length<=1000000->D.ask (.fn 232) [.agg (Jm y)] []=some (.ls ((y.ps.map (·.name)).map eS),[])
 right:∀ t:Tr,WzT t->WzP t->D.ask (.fn 36) [.agg (Ck t)] []=some (bv (Cf t 0),[])
def WL(y:Sy)(b n:Nat):ABlk:=ABlk.mk (Jm y++[.sl b 0 n 9]) true false
def rbN(y:Sy):ABlk:=ABlk.mk (Jm y++[.v (.slice none 0 0)]) true false
def I4(ps:List Pp):ABlk:=ABlk.mk (Aw IR ps) true true
def Xo(p:Pp):ABlk:=ABlk.mk (IR p) true false
theorem CR(h:Bool)(a b k:Int)(t:Tm)(e:Bool)(ks:List Fm):IR ⟨h,a,b,.mk k t e ks⟩=[bv h,iv a,iv b,iv k,.ls (t.ps.map eP),bv t.k.neg,eN t.k.abs,bv e,.ls (Jb ks)]:=by
 unfold IR;rw[eF]
section
variable {D:Orc} (K:Knows E9 OJ D) (R:ResF D)
include K R
theorem Aci{p q:Pp}(hp:PpOk p)(hq:PpOk q):D.ask (.fn 191) [.agg (IR p),.agg (IR q)] []=some (bv (Fi p q),[]):=by
 have g:=R.same p.f q.f hp.can hq.can hp.fb hq.fb;obtain⟨a,b,c,f⟩:=p;obtain⟨a',b',c',f'⟩:=q;obtain⟨k,t,e,ks⟩:=f;obtain⟨k',t',e',ks'⟩:=f';simp only[CR,eF,eN]at g ⊢;unfold Fi;refine K.fn' AgT _ rfl ((AnO ..).trans ?_)
 by_cases h1:a=a'
 .subst h1
  rw[show Aj.beq a a=true by cases a<;>rfl];refine Ag ?_
  by_cases h2:b=b'
  .refine AF h2 ?_
   by_cases h3:c=c'
   .refine AF h3 ?_
    refine Ab g ?_;simp only[ND,Aa];rw[beq_self_eq_true,decide_eq_true h2,decide_eq_true h3,ApZ,ApZ,ApZ]
    cases VY (.mk k t e ks) (.mk k' t' e' ks')<;>rfl
   .refine eqF_go h3 ?_
    rw[decide_eq_false h3];simp
  .refine eqF_go h2 ?_
   rw[decide_eq_false h2];simp
 .rw[show Aj.beq a a'=false by cases a<;>cases a'<;>first|rfl|exact absurd rfl h1]
  refine brF_go ?_;rw[show (a == a')=false by cases a<;>cases a'<;>first|rfl|exact absurd rfl h1];rfl
theorem Ae1{p q:Pp}(hp:PpOk p)(hq:PpOk q):D.ask (.fn 190) [.agg (IR q),.ptr 0 0] [Xo p]=some (bv (Fi p q),[.keep]):=by
 have g:=Aci K R hp hq;obtain⟨a,b,c,f⟩:=p;obtain⟨a',b',c',f'⟩:=q;obtain⟨k,t,e,ks⟩:=f;obtain⟨k',t',e',ks'⟩:=f';unfold Xo;simp only[CR,eN]at g ⊢;refine K.fn' AgS _ rfl ((AnN ..).trans ?_);refine Ab g ?_;simp only[ND,Aa]
 cases Fi ⟨a,b,c,.mk k t e ks⟩ ⟨a',b',c',.mk k' t' e' ks'⟩<;>rfl
def LJ(b:Nat):AV:=.fn (.func 190) [] [.ptr b 0]
theorem Aef{ps:List Pp}{p:Pp}(hl:ps.length<=1000000)(hps:∀ x∈ps,PpOk x)(hp:PpOk p):∀(m i:Nat),ps.length-i=m->i<=ps.length->D.ask (.lp 189 0) [.sl 0 0 ps.length 9,LJ 1,iv (ps.length:Int),iv (i:Int)] [I4 ps,Xo p]
   = some (match (ps.drop i).findIdx? (Fi p) with|some j=>.tup [bv true,.sl 0 0 ps.length 9,iv ((i+j:Nat):Int)] | none=>.tup [iv 0,.sl 0 0 ps.length 9],[.set (I4 ps),.keep]):=by
 intro m
 induction m with
 |zero=>
  intro i hm hi;rw[ApL (by omega)];obtain⟨a,b,c,k,t,e,ks⟩:=p;unfold Xo I4 LJ;rw[CR];refine K.lp' Sx _ rfl (by kernel_rfl) ((VW ..).trans ?_);exact ltF_go (by omega)rfl
 |succ m ih=>
  intro i hm hi;have h1:i<ps.length:=by omega
  have g:=Ae1 K R hp (hps _ (ApQ h1));have ih:=ih (i+1) (by omega) (by omega);rw[ApE h1,List.findIdx?_cons];have r1:=λk:List AV->KR=>By JW ps i h1 k
  revert g r1;generalize ps[i]=q;intro g r1;obtain⟨a,b,c,f⟩:=p;obtain⟨k,t,e,ks⟩:=f;obtain⟨a',b',c',f'⟩:=q;obtain⟨k',t',e',ks'⟩:=f';unfold Xo I4 LJ at *;simp only[CR,eN]at g ih r1 ⊢;refine K.lp' Sx _ rfl (by kernel_rfl) ((VW ..).trans ?_);refine Ao (by omega)?_;rw[AG,Bb h1];refine Ag ?_;refine(r1 _).trans ?_;simp only[ND,Aa];refine Ab g ?_;simp only[ND,Aa]
  cases Fi ⟨a,b,c,.mk k t e ks⟩ ⟨a',b',c',.mk k' t' e' ks'⟩ with
  |true=>
   refine Ag ?_;rfl
  |false=>
   refine brF_go ?_;rw[Bh (by omega)];refine Ab ih ?_;simp only[Bool.false_eq_true,if_false]
   cases h:(ps.drop (i+1)).findIdx? (Fi ⟨a,b,c,.mk k t e ks⟩) with
   |none=>rfl
   |some j=>
    simp only[ApS,show i+(j+1)=i+1+j by omega];rfl
def AoS:Option Nat->Int
 |some j=>(j:Int)
 |none=>-1
theorem Aeg{ps:List Pp}{p:Pp}(hl:ps.length<=1000000)(hps:∀ x∈ps,PpOk x)(hp:PpOk p):D.ask (.fn 189) [.sl 0 0 ps.length 9,LJ 1] [I4 ps,Xo p]=some (iv (AoS (ps.findIdx? (Fi p))),[.set (I4 ps),.keep]):=by
 have g:=Aef K R hl hps hp _ 0 rfl (by omega);rw[ApD]at g;obtain⟨a,b,c,f⟩:=p;obtain⟨k,t,e,ks⟩:=f;unfold Xo I4 LJ at *;simp only[CR,eN]at g ⊢;refine K.fn' Sx _ rfl ((AkM ..).trans ?_);refine Ab g ?_
 cases ps.findIdx? (Fi ⟨a,b,c,.mk k t e ks⟩) with
 |none=>rfl
 |some j=>
  simp only[ApX];rfl
theorem Aa0(p:Pp):D.ask (.fn 189) [.v (.slice none 0 0),LJ 0] [Xo p]=some (iv (-1),[.keep]):=by
 have g:D.ask (.lp 189 0) [.v (.slice none 0 0),LJ 0,iv 0,iv 0] [Xo p]=some (.tup [iv 0,.v (.slice none 0 0)],[.keep]):=by
  obtain⟨a,b,c,f⟩:=p;obtain⟨k,t,e,ks⟩:=f;unfold Xo LJ;simp only[CR,eN];refine K.lp' Q8 _ rfl (by kernel_rfl) ((AdS ..).trans ?_);exact ltF_go (by omega)rfl
 obtain⟨a,b,c,f⟩:=p;obtain⟨k,t,e,ks⟩:=f;unfold Xo LJ at *;simp only[CR,eN]at g ⊢;refine K.fn' Q8 _ rfl ((AkL ..).trans ?_);refine Ab g ?_;rfl
end
theorem Cb(y:Sy)(b n:Nat):WL y b n=ABlk.mk [.ls (y.vars.map eS),.ls y.s2,iv y.s3,.ls y.s4,bv y.s5,.ls y.s6,bv y.s7,.ls y.s8,.ls (y.ps.map Y9),.ls y.s10,.sl b 0 n 9] true false:=rfl
theorem Ok(y:Sy):rbN y=ABlk.mk [.ls (y.vars.map eS),.ls y.s2,iv y.s3,.ls y.s4,bv y.s5,.ls y.s6,bv y.s7,.ls y.s8,.ls (y.ps.map Y9),.ls y.s10,.v (.slice none 0 0)] true false:=rfl
structure SyB (y:Sy):Prop where
 vars:y.vars.length<4611686018427387904
 ps:y.ps.length<=1000000
 locs:∀ p∈y.ps,p.locs.length<4611686018427387904
theorem Zh(h:Bool)(a b:Int):IR ⟨h,a,b,F0⟩=[bv h,iv a,iv b,iv 0,.ls [],bv false,.ls [],bv false,.ls []]:=rfl
section
variable {D:Orc} (K:Knows E9 OJ D) (R:ResF D)
include K R
theorem AbE(y:Sy){ps:List Pp}{p:Pp}(hl:ps.length<=1000000)(hps:∀ x∈ps,PpOk x)(hp:PpOk p):D.ask (.fn 130) [.ptr 0 0,.agg (IR p)] [WL y 1 ps.length,I4 ps]=some (iv (Vg ps p),[.set (WL y 2 (IP ps p).length),.del,.set (I4 (IP ps p))]):=by
 have g:=Aeg K R hl hps hp;have hf:Bp (ps.length+1) 120=true:=AS (by omega) (by omega);have hb1:ApM (0+ps.length*9) (Aw IR ps).length=true:=A3 JW ps (by omega);have e3:ApK 0 (ApG (0+ps.length*9) (Aw IR ps))++IR p=Aw IR (ps++[p]):=by
  rw[ApD,Bf JW ps (by omega)];exact Bg IR ps _
 unfold Vg IP;revert g e3;generalize ps.findIdx? (Fi p)=o;intro g e3;obtain⟨a,b,c,f⟩:=p;obtain⟨k,t,e,ks⟩:=f;rw[Cb,Cb];unfold Xo I4 LJ at *;simp only[CR,eN]at g e3 ⊢;refine K.fn' AaP _ rfl ((AkH ..).trans ?_);refine Ab g ?_;simp only[ND,Aa]
 cases o with
 |none=>
  refine Ao (by show (-1:Int)<0;decide)?_;rw[hf];refine Ag ?_;rw[hb1];refine Ag ?_;rw[e3,ApH];rfl
 |some j=>
  refine ltF_go (by show ¬ (j:Int)<0;omega)?_;rfl
theorem AbD(y:Sy)(p:Pp):D.ask (.fn 130) [.ptr 0 0,.agg (IR p)] [rbN y]=some (iv (Vg [] p),[.set (WL y 1 (IP [] p).length),.set (I4 (IP [] p))]):=by
 have g:=Aa0 K R p;obtain⟨a,b,c,f⟩:=p;obtain⟨k,t,e,ks⟩:=f;rw[Cb,Ok];unfold Xo I4 LJ at *;simp only[CR,eN]at g ⊢;refine K.fn' AaO _ rfl ((AkG ..).trans ?_);refine Ab g ?_;simp only[ND,Aa];refine Ao (by decide)?_
 show _=some (iv 0,[BO.set (ABlk.mk _ true false),BO.set (ABlk.mk (Aw IR [⟨a,b,c,.mk k t e ks⟩]) true true)])
 rw[show Aw IR [⟨a,b,c,.mk k t e ks⟩]=IR ⟨a,b,c,.mk k t e ks⟩ by simp[Aw],CR];rfl
theorem Ae7{y:Sy}(B:SyB y)(k:Int)(l r:List Mo)(op:Int)(p q:ByteArray)(ks:List Tr)(n:Nat)(c:List AV):D.ask (.fn 188) [.ptr 0 0,.agg (Ck (.mk k l r op p q ks))] [WL y 1 n,ABlk.mk c true true]=some (.tup [.agg (IR (Fb y p q).1),bv (Fb y p q).2],[.keep,.keep]):=by
 have g1:=R.procs y B.ps;have g2:=R.index (y.ps.map (·.name)) p (by rw[ApY];have:=B.ps;omega);rw[show Jm y=[.ls (y.vars.map eS),.ls y.s2,iv y.s3,.ls y.s4,bv y.s5,.ls y.s6,bv y.s7,.ls y.s8,.ls (y.ps.map Y9),.ls y.s10] from rfl]at g1;rw[Cb];rw[Ck];refine K.fn' V2 _ rfl ((AkK ..).trans ?_);refine Ab g1 ?_;simp only[ND,Aa];refine Ab g2 ?_;simp only[ND,Aa];unfold Fb
 cases h:(y.ps.map (·.name)).findIdx? (p = ·) with
 |none=>
  refine Ao (by show (-1:Int)<0;decide)?_;rfl
 |some i=>
  obtain⟨hi,_⟩:=Aqd.1 h;rw[ApY]at hi;refine ltF_go (by show ¬ (i:Int)<0;omega)?_
  show unI (i:Int) _=_
  rw[AG,AD (Apy hi)];have g3:=R.index y.ps[i].locs q (B.locs _ (ApQ hi));simp only[Apy hi,ApS,Aq4];revert g3;generalize y.ps[i]=pr;intro g3;obtain⟨nm,lc,cm⟩:=pr;simp only[Y9,ND,Aa];refine Ab g3 ?_;simp only[ND,Aa,Zh]
  by_cases h0:(0:Int)<=Dc (lc.findIdx? (q = ·))
  .refine CA h0 ?_
   rw[decide_eq_true h0];rfl
  .refine leF_go h0 ?_
   rw[decide_eq_false h0];rfl
theorem Ae6{y:Sy}(B:SyB y)(k:Int)(l r:List Mo)(op:Int)(p q:ByteArray)(ks:List Tr):D.ask (.fn 188) [.ptr 0 0,.agg (Ck (.mk k l r op p q ks))] [rbN y]=some (.tup [.agg (IR (Fb y p q).1),bv (Fb y p q).2],[.keep]):=by
 have g1:=R.procs y B.ps;have g2:=R.index (y.ps.map (·.name)) p (by rw[ApY];have:=B.ps;omega);rw[show Jm y=[.ls (y.vars.map eS),.ls y.s2,iv y.s3,.ls y.s4,bv y.s5,.ls y.s6,bv y.s7,.ls y.s8,.ls (y.ps.map Y9),.ls y.s10] from rfl]at g1;rw[Ok];rw[Ck];refine K.fn' V2 _ rfl ((AkJ ..).trans ?_);refine Ab g1 ?_;simp only[ND,Aa];refine Ab g2 ?_;simp only[ND,Aa];unfold Fb
 cases h:(y.ps.map (·.name)).findIdx? (p = ·) with
 |none=>
  refine Ao (by show (-1:Int)<0;decide)?_;rfl
 |some i=>
  obtain⟨hi,_⟩:=Aqd.1 h;rw[ApY]at hi;refine ltF_go (by show ¬ (i:Int)<0;omega)?_
  show unI (i:Int) _=_
  rw[AG,AD (Apy hi)];have g3:=R.index y.ps[i].locs q (B.locs _ (ApQ hi));simp only[Apy hi,ApS,Aq4];revert g3;generalize y.ps[i]=pr;intro g3;obtain⟨nm,lc,cm⟩:=pr;simp only[Y9,ND,Aa];refine Ab g3 ?_;simp only[ND,Aa,Zh]
  by_cases h0:(0:Int)<=Dc (lc.findIdx? (q = ·))
  .refine CA h0 ?_
   rw[decide_eq_true h0];rfl
  .refine leF_go h0 ?_
   rw[decide_eq_false h0];rfl
theorem AiR{y:Sy}(B:SyB y)(t:Tr)(hz:WzT t)(n:Nat)(c:List AV):D.ask (.fn 129) [.ptr 0 0,.agg (Ck t)] [WL y 1 n,ABlk.mk c true true]=some (.tup [.agg (IR (CK y t).1),bv (CK y t).2],[.keep,.keep]):=by
 have gf:=R.form y.vars t B.vars hz;obtain⟨k,l,r,op,p,q,ks⟩:=t;have gp:=Ae7 K R B k l r op p q ks n c;rw[CK];rw[Cb]at gp ⊢;rw[Ck]at gp gf ⊢;refine K.fn' AaN _ rfl ((AkF ..).trans ?_)
 by_cases h:k=6
 .refine AF h ?_
  rw[if_pos h];refine Ab gp ?_;generalize Fb y p q=x;obtain⟨⟨a,b,c,k',t',e',ks'⟩,z⟩:=x;simp only[CR,ND,Aa];rfl
 .refine eqF_go h ?_
  rw[if_neg h];refine Ab gf ?_;generalize FD y.vars (.mk k l r op p q ks)=x;obtain⟨⟨k',t',e',ks'⟩,z⟩:=x;simp only[eF,eN,CR,ND,Aa]
theorem AiQ{y:Sy}(B:SyB y)(t:Tr)(hz:WzT t):D.ask (.fn 129) [.ptr 0 0,.agg (Ck t)] [rbN y]=some (.tup [.agg (IR (CK y t).1),bv (CK y t).2],[.keep]):=by
 have gf:=R.form y.vars t B.vars hz;obtain⟨k,l,r,op,p,q,ks⟩:=t;have gp:=Ae6 K R B k l r op p q ks;rw[CK];rw[Ok]at gp ⊢;rw[Ck]at gp gf ⊢;refine K.fn' AaM _ rfl ((AkE ..).trans ?_)
 by_cases h:k=6
 .refine AF h ?_
  rw[if_pos h];refine Ab gp ?_;generalize Fb y p q=x;obtain⟨⟨a,b,c,k',t',e',ks'⟩,z⟩:=x;simp only[CR,ND,Aa];rfl
 .refine eqF_go h ?_
  rw[if_neg h];refine Ab gf ?_;generalize FD y.vars (.mk k l r op p q ks)=x;obtain⟨⟨k',t',e',ks'⟩,z⟩:=x;simp only[eF,eN,CR,ND,Aa]
end
def ME:Option Rf->AV
 |some f=>.tup [.agg (eG f),bv true]
 |none=>.tup [.agg [iv 0,iv 0,.ls []],bv false]
def VQ:ABlk:=ABlk.mk [iv 0,iv 0,.ls []] true false
def kbx(k:Int)(b n:Nat):ABlk:=ABlk.mk [iv k,iv 0,.sl b 0 n 3] true false
def rwG(l:List Rf):ABlk:=ABlk.mk (Aw eG l) true true
def rqA(y:Sy)(k:Int)(out:List Rf)(ps:List Pp):Option (List Rf)->AV × List BO
 |none=>(.tup [bv true,.ptr 0 0,.ptr 1 0,bv false],[.set (WL y 5 ps.length),.set VQ,.del,.del,.del,.set (I4 ps)])
 |some fs=>(.tup [iv 0,.ptr 0 0,.ptr 1 0,.ptr 2 0],[.set (WL y 5 ps.length),.set VQ,.set (kbx k 6 (out++fs).length),.del,.del,.set (I4 ps),.set (rwG (out++fs))])
theorem Lv:∀ l:List Tr,l.length<=Ha l
 |[]=>Nat.zero_le _
 |x::r=>by
  have:=Lv r;have h:1<=GQ x:=by
   obtain⟨k,a,b,c,d,e,ks⟩:=x;rw[GQ];omega
  rw[Ha,ApI];omega
section
variable {D:Orc} (K:Knows E9 OJ D) (R:ResF D)
include K
theorem Ab1{y:Sy}(ks:List Tr)(k:Int)(hk:ks.length<=1000000)(g:∀ x∈ks,∀ ps:List Pp,(∀ p∈ps,PpOk p)->ps.length+GQ x<=1000000->D.ask (.fn 72) [.ptr 0 0,.agg (Ck x)] [WL y 1 ps.length,I4 ps]=some (ME (Dd y x ps).1,[.set (WL y 2 (Dd y x ps).2.length),.del,.set (I4 (Dd y x ps).2)])):∀(m i:Nat) (ps:List Pp) (out:List Rf),ks.length-i=m->i<=ks.length->out.length<=i->(∀ p∈ps,PpOk p)->ps.length+Ha (ks.drop i)<=1000000->
  D.ask (.lp 72 0) [.ptr 0 0,.ptr 1 0,.ptr 2 0,.ls (ks.map Ck),iv (ks.length:Int),iv (i:Int)] [WL y 3 ps.length,VQ,kbx k 4 out.length,I4 ps,rwG out]=some (rqA y k out (CQ y (ks.drop i) ps).2 (CQ y (ks.drop i) ps).1):=by
 intro m
 induction m with
 |zero=>
  intro i ps out hm hi ho hp hn;rw[ApL (by omega),CQ]
  show _=some (rqA y k out ps (some []))
  unfold rqA;simp only[AqH];unfold VQ kbx I4 rwG;rw[Cb,Cb];refine K.lp' SJ _ rfl (by kernel_rfl) ((Aam ..).trans ?_);exact ltF_go (by omega)rfl
 |succ m ih=>
  intro i ps out hm hi ho hp hn;have h1:i<ks.length:=by omega
  rw[ApE h1,Ha]at hn;rw[ApE h1,JC];have gx:=g ks[i] (ApQ h1) ps hp (by omega);have gq:=Gn y ks[i] ps hp;have hf:Bp (out.length+1) 40=true:=AS (by omega) (by omega);have hb1:ApM (0+out.length*3) (Aw eG out).length=true:=A3 K9 out (by omega);have ih:=λf=>ih (i+1) (Dd y ks[i] ps).2 (out++[f]) (by omega) (by omega) (by simp;omega) gq.2 (by omega)
  unfold VQ kbx I4 rwG at *;rw[Cb];refine K.lp' SJ _ rfl (by kernel_rfl) ((Aam ..).trans ?_);refine Ao (by omega)?_;rw[AG,AD (Apy h1)];rw[Cb,Cb]at gx;revert gx ih;generalize Dd y ks[i] ps=q;generalize ks[i]=x;intro gx ih;obtain⟨o,qs⟩:=q;obtain⟨xk,xl,xr,xo,xp,xq,xs⟩:=x;simp only[Ck,ND,Aa]at gx ⊢;refine Ab gx ?_
  cases o with
  |none=>
   simp only[ME,ND,Aa];refine Ag ?_;unfold rqA VQ I4;rw[Cb]
  |some f=>
   have e3:ApK 0 (ApG (0+out.length*3) (Aw eG out))++eG f=Aw eG (out++[f]):=by
    rw[ApD,Bf K9 out (by omega)];exact Bg eG out _
   have ih:=ih f;rw[show (out++[f]).length=out.length+1 by simp]at ih;dsimp only at ih;revert e3 ih;generalize (CQ y (ks.drop (i+1)) qs)=z;intro e3 ih;obtain⟨zo,zs⟩:=z;obtain⟨fk,fn,fks⟩:=f;simp only[ME,eG,ND,Aa]at e3 ⊢;refine brF_go ?_;rw[hf];refine Ag ?_;rw[hb1];refine Ag ?_;rw[e3,Bh (by omega)];rw[Cb]at ih;refine Ab ih ?_
   cases zo with
   |none=>
    unfold rqA VQ I4;rw[Cb];rfl
   |some fs=>
    unfold rqA VQ I4 rwG kbx;rw[Cb];simp only[ApS,Arn,Ap9];rfl
include R
theorem AmC{y:Sy}(B:SyB y):∀(N:Nat) (t:Tr),SizeOf.sizeOf t<N->WzT t->∀ ps:List Pp,(∀ p∈ps,PpOk p)->ps.length+GQ t<=1000000->D.ask (.fn 72) [.ptr 0 0,.agg (Ck t)] [WL y 1 ps.length,I4 ps]=some (ME (Dd y t ps).1,[.set (WL y 2 (Dd y t ps).2.length),.del,.set (I4 (Dd y t ps).2)]):=by
 intro N
 induction N with
 |zero=>intro t h;omega
 |succ N ih=>
  intro t hN hz ps hp hn;have gatom:=AiR K R B t hz ps.length (Aw IR ps);have gnum:=AbE K R y (by omega) hp (Ng y t);obtain⟨k,l,r,op,p,q,ks⟩:=t;have hks:ks.length<=1000000:=by
   have:=Lv ks;rw[GQ]at hn;omega
  have wk:∀ x∈ks,WzT x:=by
   cases hz with
   |mk _ _ _ _ _ h=>exact h
  rw[GQ]at hn;have gl:=Ab1 K ks k hks (λx hx ps' hp' hn'=>ih x (by have:=List.sizeOf_lt_of_mem hx;simp only[Tr.mk.sizeOf_spec]at hN;omega) (wk x hx) ps' hp' hn') _ 0 ps [] rfl (by omega) (by simp) hp (by rw[ApD];omega);rw[ApD,AqW]at gl;rw[M2];rw[Ck,B3]at gatom ⊢;unfold I4 rwG kbx VQ at *;rw[Cb]at gatom gnum gl ⊢;refine K.fn' SJ _ rfl ((Aow ..).trans ?_)
  by_cases h2:k=2
  .refine AF h2 ?_
   rw[if_pos (.inl h2)];refine Ab gatom ?_;revert gnum gatom;generalize CK y (.mk k l r op p q ks)=a at *;intro gatom gnum;obtain⟨⟨a1,a2,a3,k',t',e',ks'⟩,z⟩:=a;simp only[CR,eN]at gnum ⊢;simp only[ND,Aa]
   cases z with
   |false=>
    refine Ag ?_;rw[if_neg Aru];rfl
   |true=>
    refine brF_go ?_;rw[if_pos rfl];refine Ab gnum ?_;rw[Cb];simp only[ND,Aa];rw[ME,eG,eGs]
    skip
  .refine eqF_go h2 ?_
   by_cases h6:k=6
   .refine AF h6 ?_
    rw[if_pos (.inr h6)];refine Ab gatom ?_;revert gnum gatom;generalize CK y (.mk k l r op p q ks)=a at *;intro gatom gnum;obtain⟨⟨a1,a2,a3,k',t',e',ks'⟩,z⟩:=a;simp only[CR,eN]at gnum ⊢;simp only[ND,Aa]
    cases z with
    |false=>
     refine Ag ?_;rw[if_neg Aru];rfl
    |true=>
     refine brF_go ?_;rw[if_pos rfl];refine Ab gnum ?_;rw[Cb];simp only[ND,Aa];rw[ME,eG,eGs]
     skip
   .refine eqF_go h6 ?_
    rw[if_neg (by omega)];rw[Av];refine Ab gl ?_;generalize CQ y ks ps=z;obtain⟨zo,zs⟩:=z
    cases zo with
    |none=>
     simp only[Cb,VQ,I4,ND,Aa];rfl
    |some fs=>
     have hb1:ApM (0+fs.length*3) (Aw eG fs).length=true:=A3 K9 fs (by omega);simp only[Cb,VQ,I4,rwG,kbx,Ap4,ND,Aa];rw[hb1];refine Ag ?_;rw[Cs K9 fs rfl];simp only[ApS,ME];rw[eG,MV]
theorem AmB{y:Sy}(B:SyB y)(t:Tr)(hz:WzT t)(hn:GQ t<=1000000):D.ask (.fn 72) [.ptr 0 0,.agg (Ck t)] [rbN y]=some (ME (Dd y t []).1,if(t.kind=2\/t.kind=6)/\(Dd y t []).1.isNone=true then [.set (rbN y)] else [.set (WL y 1 (Dd y t []).2.length),.set (I4 (Dd y t []).2)]):=by
 have gatom:=AiQ K R B t hz;have gnum:=AbD K R y (CK y t).1;have wk:∀ x∈(match t with | .mk _ _ _ _ _ _ ks=>ks),WzT x:=by
  cases hz with
  |mk _ _ _ _ _ h=>exact h
 obtain⟨k,l,r,op,p,q,ks⟩:=t;have hks:ks.length<=1000000:=by
  have:=Lv ks;rw[GQ]at hn;omega
 rw[GQ]at hn;have gl:=Ab1 K (y:=y) ks k hks (λx hx ps' hp' hn'=>AmC K R B _ x (Aqp _) (wk x hx) ps' hp' hn') _ 0 [] [] rfl (by omega) (by simp) (by simp) (by rw[ApD];simp;omega);rw[ApD,AqW]at gl;rw[M2];rw[Ck,B3]at gatom ⊢;unfold I4 rwG kbx VQ at *;rw[Ok]at gatom gnum ⊢;rw[Cb]at gl;refine K.fn' Ahh _ rfl ((Aov ..).trans ?_)
 by_cases h2:k=2
 .refine AF h2 ?_
  rw[if_pos (.inl h2)];refine Ab gatom ?_;revert gnum gatom;generalize CK y (.mk k l r op p q ks)=a at *;intro gatom gnum;obtain⟨⟨a1,a2,a3,k',t',e',ks'⟩,z⟩:=a;simp only[CR,eN]at gnum ⊢;simp only[ND,Aa]
  cases z with
  |false=>
   refine Ag ?_;rw[if_neg Aru];rw[if_pos ⟨.inl h2,rfl⟩];rfl
  |true=>
   refine brF_go ?_;rw[if_pos rfl];refine Ab gnum ?_;rw[Cb];simp only[ND,Aa];rw[ME,eG,eGs];rw[if_neg (by simp)]
 .refine eqF_go h2 ?_
  by_cases h6:k=6
  .refine AF h6 ?_
   rw[if_pos (.inr h6)];refine Ab gatom ?_;revert gnum gatom;generalize CK y (.mk k l r op p q ks)=a at *;intro gatom gnum;obtain⟨⟨a1,a2,a3,k',t',e',ks'⟩,z⟩:=a;simp only[CR,eN]at gnum ⊢;simp only[ND,Aa]
   cases z with
   |false=>
    refine Ag ?_;rw[if_neg Aru];rw[if_pos ⟨.inr h6,rfl⟩];rfl
   |true=>
    refine brF_go ?_;rw[if_pos rfl];refine Ab gnum ?_;rw[Cb];simp only[ND,Aa];rw[ME,eG,eGs];rw[if_neg (by simp)]
  .refine eqF_go h6 ?_
   rw[if_neg (by omega),if_neg (λh=>h.1.elim h2 h6)];rw[Av];refine Ab gl ?_;generalize CQ y ks []=z;obtain⟨zo,zs⟩:=z
   cases zo with
   |none=>
    simp only[Cb,VQ,I4,ND,Aa];rfl
   |some fs=>
    have hb1:ApM (0+fs.length*3) (Aw eG fs).length=true:=A3 K9 fs (by omega);simp only[Cb,VQ,I4,rwG,kbx,Ap4,ND,Aa];rw[hb1];refine Ag ?_;rw[Cs K9 fs rfl];simp only[ApS,ME];rw[eG,MV]
end
def LC(y:Sy)(t:Tr):Option (Rf × List Pp):=if Cf t 0=true then(Dd y t []).1.map λf=>(f,(Dd y t []).2) else none
def Tp:Option (Rf × List Pp)->AV
 |some (f,ps)=>.tup [.agg (eG f),.ls (ps.map IR),bv true]
 |none=>.tup [.agg [iv 0,iv 0,.ls []],.ls [],bv false]
section
variable {D:Orc} (K:Knows E9 OJ D) (R:ResF D)
include K R
theorem Uc{y:Sy}(B:SyB y)(t:Tr)(hz:WzT t)(hp:WzP t)(hn:GQ t<=1000000):D.ask (.fn 34) [.agg (Ck t),.agg (Jm y)] []=some (Tp (LC y t),[]):=by
 have gr:=R.right t hz hp;have gn:=AmB K R B t hz hn;unfold LC;rw[Ok]at gn;rw[show Jm y=[.ls (y.vars.map eS),.ls y.s2,iv y.s3,.ls y.s4,bv y.s5,.ls y.s6,bv y.s7,.ls y.s8,.ls (y.ps.map Y9),.ls y.s10] from rfl];revert gn gr;generalize hk:t.kind=kk;generalize Cf t 0=b;generalize Dd y t []=z;obtain⟨k,l,r,op,p,q,ks⟩:=t;obtain⟨zo,zs⟩:=z;intro gr gn;rw[Ck]at gn gr ⊢
 by_cases h:(kk=2\/kk=6)/\zo.isNone=true
 .rw[if_pos h]at gn
  refine K.fn' Ahg _ rfl ((Aos ..).trans ?_);refine Ab gr ?_;simp only[ND,Aa]
  cases b with
  |false=>exact brF_go rfl
  |true=>
   refine Ag ?_;refine Ab gn ?_
   cases zo with
   |some f=>exact absurd h.2 (by simp)
   |none=>rfl
 .rw[if_neg h]at gn
  refine K.fn' AkZ _ rfl ((Aot ..).trans ?_);refine Ab gr ?_;simp only[ND,Aa]
  cases b with
  |false=>exact brF_go rfl
  |true=>
   refine Ag ?_;refine Ab gn ?_
   cases zo with
   |none=>
    rw[Cb];rfl
   |some f=>
    have hb1:ApM (0+zs.length*9) (Aw IR zs).length=true:=A3 JW zs (by omega);obtain⟨fk,fn,fks⟩:=f;rw[Cb];simp only[ME,I4,eG,ND,Aa];refine brF_go ?_;rw[hb1];refine Ag ?_;rw[Cs JW zs rfl];simp only[if_true,ApS];rw[Tp,eG]
end

theorem HH{k:Int}{d i:Nat}{x:Tr}{r:List Tr}(h:EE k d i (x::r)=true):IV (Lq k i x.kind) d<=60/\Cf x (IV (Lq k i x.kind) d)=true/\EE k d (i+1) r=true:=by
 rw[EE]at h;simp only[ApF,decide_eq_true_eq]at h;exact⟨h.1.1,h.1.2,h.2⟩
inductive ShapeL:Tr->Nat->Prop where
 |tt (d:Nat):ShapeL (.mk 0 [] [] 0 (AI []) (AI []) []) d
 |ff (d:Nat):ShapeL (.mk 1 [] [] 0 (AI []) (AI []) []) d
 |cmp (d:Nat) {l r:List Mo} {op:Int} (hl:Pc l=true) (hr:Pc r=true) (h1:0<=op) (h2:op<=5):ShapeL (.mk 2 l r op (AI []) (AI []) []) d
 |at(d:Nat) {p q:ByteArray} (hp:DE p.data.toList=true) (hq:DE q.data.toList=true):ShapeL (.mk 6 [] [] 0 p q []) d
 |one (d:Nat) {k:Int} {x:Tr} (hk:Gg k=1) (hd:IV (Lq k 0 x.kind) (d+1)<=60) (h:Cf x (IV (Lq k 0 x.kind) (d+1))=true):ShapeL (.mk k [] [] 0 (AI []) (AI []) [x]) d
 |two (d:Nat) {k:Int} {x y:Tr} (hk:Gg k=2) (hd:IV (Lq k 0 x.kind) d<=60) (h:Cf x (IV (Lq k 0 x.kind) d)=true) (gd:IV (Lq k 1 y.kind) d<=60) (g:Cf y (IV (Lq k 1 y.kind) d)=true):ShapeL (.mk k [] [] 0 (AI []) (AI []) [x,y]) d
theorem Js(k:Int):(Gg k=0/\(k=0\/k=1\/k=2\/k=6))\/(Gg k=1/\(k=3\/k=8\/k=9\/k=10))\/(Gg k=2/\(k=4\/k=5\/k=7\/k=11\/k=12))\/Gg k=-1:=by
 unfold Gg
 by_cases h0:k=0;· simp[h0]
 by_cases h1:k=1;· simp[h1]
 by_cases h2:k=2;· simp[h2]
 by_cases h6:k=6;· simp[h6]
 by_cases h3:k=3;· simp[h3]
 by_cases h8:k=8;· simp[h8]
 by_cases h9:k=9;· simp[h9]
 by_cases h10:k=10;· simp[h10]
 by_cases h4:k=4;· simp[h4]
 by_cases h5:k=5;· simp[h5]
 by_cases h7:k=7;· simp[h7]
 by_cases h11:k=11;· simp[h11]
 by_cases h12:k=12;· simp[h12]
 simp[h0,h1,h2,h6,h3,h8,h9,h10,h4,h5,h7,h11,h12]
theorem Gy{k:Int}{l r:List Mo}{op:Int}{p q:ByteArray}{ks:List Tr}(h:FZ (.mk k l r op p q ks)=true):l=[]/\r=[]/\op=0/\p=AI []/\q=AI []:=by
 unfold FZ at h;simp only[ApF,decide_eq_true_eq]at h;obtain⟨⟨⟨⟨h1,h2⟩,h3⟩,h4⟩,h5⟩:=h;exact⟨Aqj.1 h1,Aqj.1 h2,h3,h4,h5⟩
theorem X9{t:Tr}{d:Nat}(h:Cf t d=true):ShapeL t d:=by
 obtain⟨k,l,r,op,p,q,ks⟩:=t;rw[Cf]at h
 by_cases ha:(ks.length:Int)=Gg k
 .rw[if_pos ha]at h
  rcases Js k with⟨e,hk⟩|⟨e,hk⟩|⟨e,hk⟩|e
  .rw[if_pos e,SU]at h
   obtain rfl:ks=[]:=Aqj.1 (by omega);rcases hk with rfl|rfl|rfl|rfl
   .rw[if_neg (by decide),if_neg (by decide)]at h
    obtain⟨rfl,rfl,rfl,rfl,rfl⟩:=Gy h;exact .tt d
   .rw[if_neg (by decide),if_neg (by decide)]at h
    obtain⟨rfl,rfl,rfl,rfl,rfl⟩:=Gy h;exact .ff d
   .rw[if_pos rfl]at h
    unfold Nr at h;simp only[ApF,decide_eq_true_eq]at h;obtain⟨⟨⟨⟨⟨⟨⟨_,hl⟩,hr⟩,h3⟩,h4⟩,rfl⟩,rfl⟩,_⟩:=h;exact .cmp d hl hr h3 h4
   .rw[if_neg (by decide),if_pos rfl]at h
    simp only[ApF,decide_eq_true_eq]at h;obtain⟨⟨⟨⟨h1,h2⟩,rfl⟩,h4⟩,h5⟩:=h;obtain rfl:l=[]:=Aqj.1 h1;obtain rfl:r=[]:=Aqj.1 h2;exact .at d h4 h5
  .rw[if_neg (by omega),decide_eq_true e]at h
   simp only[ApF,decide_eq_true_eq]at h;obtain⟨⟨hd,hb⟩,hk⟩:=h;obtain⟨rfl,rfl,rfl,rfl,rfl⟩:=Gy hb;have hl:ks.length=1:=by omega
   match ks,hl,hk with
   |[x],_,hk=>
    obtain⟨k1,k2,_⟩:=HH hk;exact .one d e k1 k2
  .rw[if_neg (by omega),decide_eq_false (show ¬Gg k=1 by omega)]at h
   simp only[ApF,decide_eq_true_eq]at h;obtain⟨⟨hd,hb⟩,hk⟩:=h;obtain⟨rfl,rfl,rfl,rfl,rfl⟩:=Gy hb;have hl:ks.length=2:=by omega
   match ks,hl,hk with
   |[x,y],_,hk=>
    obtain⟨k1,k2,hk⟩:=HH hk;obtain⟨k3,k4,_⟩:=HH hk;exact .two d e k1 k2 k3 k4
  .omega
 .rw[if_neg ha]at h
  cases h

section
variable {ts:List Tk} (vars:List ByteArray)
end
section
variable {ts:List Tk} (vars:List ByteArray) (ps:List Pr)
end

section
variable (y:Sy) (qs:List Pp)
mutual
def Rw:Tr->Rf->Prop
 |.mk k l r op p q ks,.mk k' n fs=>if k=2\/k=6 then k'=2/\fs=[]/\(CK y (.mk k l r op p q ks)).2=true/\∃ i:Nat,n=(i:Int)/\qs[i]? = some (CK y (.mk k l r op p q ks)).1 else k'=k/\n=0/\I5 ks fs
def I5:List Tr->List Rf->Prop
 |[],[]=>True
 |x::a,f::b=>Rw x f/\I5 a b
 |[],_::_=>False
 |_::_,[]=>False
end
theorem KD(k:Int)(l r:List Mo)(op:Int)(p q:ByteArray)(ks:List Tr)(k' n:Int)(fs:List Rf):Rw y qs (.mk k l r op p q ks) (.mk k' n fs) ↔ (if k=2\/k=6 then k'=2/\fs=[]/\(CK y (.mk k l r op p q ks)).2=true/\∃ i:Nat,n=(i:Int)/\qs[i]? = some (CK y (.mk k l r op p q ks)).1 else k'=k/\n=0/\I5 y qs ks fs):=by
 rw[Rw]
theorem Tv:∀{ks:List Tr} {fs:List Rf},I5 y qs ks fs->ks.length=fs.length/\∀(i:Nat) (h1:i<ks.length) (h2:i<fs.length),Rw y qs ks[i] fs[i]
 |[],[],_=>⟨rfl,λi h=>by cases h⟩
 |[],_::_,h=>by rw[I5]at h;exact h.elim
 |_::_,[],h=>by rw[I5]at h;exact h.elim
 |x::a,f::b,h=>by
  rw[I5]at h;have g:=Tv h.2;refine⟨by simp[g.1],λi h1 h2=>?_⟩
  cases i with
  |zero=>exact h.1
  |succ i=>exact g.2 i (by simpa using h1) (by simpa using h2)
end
theorem Zk(ps:List Pp)(a:Pp):ps <+: IP ps a:=by
 unfold IP;split
 .exact ArJ
 .exact List.prefix_append ..
theorem Ae2{ps:List Pp}{a:Pp}(h:∀ x∈ps,PpOk x)(ha:PpOk a):∃ i:Nat,Vg ps a=(i:Int)/\(IP ps a)[i]? = some a:=by
 unfold Vg IP
 cases e:ps.findIdx? (Fi a) with
 |none=>exact⟨ps.length,rfl,by simp⟩
 |some i=>
  obtain⟨hi,h2,_⟩:=Aqd.1 e;have:=(Yy ha.can (h _ (ApQ hi)).can).1 h2;exact⟨i,rfl,by rw[Apy hi,←this]⟩
theorem AjV{a b:List Pp}(h:a <+: b){i:Nat}{x:Pp}(hx:a[i]? = some x):b[i]? = some x:=by
 obtain⟨c,rfl⟩:=h;obtain⟨hi,e⟩:=ApU.1 hx;rw[List.getElem?_append_left hi,hx]
mutual
theorem Tn(y:Sy):∀(t:Tr) (ps:List Pp),(∀ x∈ps,PpOk x)->ps <+: (Dd y t ps).2/\∀ f,(Dd y t ps).1=some f->∀ qs,(Dd y t ps).2 <+: qs->Rw y qs t f
 |.mk k l r op p q ks,ps,h=>by
  rw[M2]
  by_cases hk:k=2\/k=6
  .rw[if_pos hk]
   by_cases h2:(CK y (.mk k l r op p q ks)).2=true
   .rw[if_pos h2]
    refine⟨Zk _ _,λf hf qs hq=>?_⟩;injection hf with hf
    subst hf;rw[KD,if_pos hk];obtain⟨i,e1,e2⟩:=Ae2 h (Ng y (.mk k l r op p q ks));exact⟨rfl,rfl,h2,i,e1,AjV hq e2⟩
   .rw[if_neg h2]
    exact⟨ArJ,λf hf=>by cases hf⟩
  .rw[if_neg hk]
   have g:=P8 y ks ps h;refine⟨g.1,λf hf qs hq=>?_⟩;rw[Aq8]at hf;obtain⟨fs,e,rfl⟩:=hf;rw[KD,if_neg hk];exact⟨rfl,rfl,g.2 fs e qs hq⟩
theorem P8(y:Sy):∀(ks:List Tr) (ps:List Pp),(∀ x∈ps,PpOk x)->ps <+: (CQ y ks ps).2/\∀ fs,(CQ y ks ps).1=some fs->∀ qs,(CQ y ks ps).2 <+: qs->I5 y qs ks fs
 |[],ps,h=>by
  rw[CQ];refine⟨ArJ,λfs hf qs hq=>?_⟩;injection hf with hf
  subst hf;rw[I5]
  trivial
 |x::r,ps,h=>by
  have g1:=Tn y x ps h;have g2:=P8 y r (Dd y x ps).2 (Gn y x ps h).2;rw[JC]
  cases e:(Dd y x ps).1 with
  |none=>exact⟨g1.1,λfs hf=>by cases hf⟩
  |some f=>
   refine⟨g1.1.trans g2.1,λfs hf qs hq=>?_⟩;rw[Aq8]at hf;obtain⟨gs,e2,rfl⟩:=hf;rw[I5];exact⟨g1.2 f e qs (g2.1.trans hq),g2.2 gs e2 qs hq⟩
end
theorem Ab9{y:Sy}{t:Tr}{f:Rf}{ps:List Pp}(h:LC y t=some (f,ps)):Cf t 0=true/\Rw y ps t f/\∀ x∈ps,PpOk x:=by
 unfold LC at h;split at h
 .rename_i hr
  rw[Aq8]at h;obtain⟨g,e,h⟩:=h;obtain⟨rfl,rfl⟩:=Prod.mk.inj h;have:=Tn y t [] (by simp);exact⟨hr,this.2 _ e _ ArJ,(Gn y t [] (by simp)).2⟩
 .cases h
def Ij(ps:List (Int × Int))(vals:List Int):Nat->Int
 |0=>0
 |n+1=>Ij ps vals n+A6 (n:Int) ps*vals.getD n 0
theorem KT(vals:List Int)(n:Nat):CW vals (n:Int)=vals.getD n 0:=by
 unfold CW;rw[if_neg (by omega),Int.toNat_natCast]
theorem OP(vals:List Int){v:Int}(h:(vals.length:Int)<=v):CW vals v=0:=by
 unfold CW;rw[if_neg (by omega),ApR,Aqr (by omega)];rfl
theorem TG(vals:List Int):∀ n,Ij [] vals n=0
 |0=>rfl
 |n+1=>by rw[Ij,TG vals n,A6,Ar1];rfl
theorem Qg(p:Int × Int)(r:List (Int × Int))(vals:List Int):∀ n:Nat,Ij (p::r) vals n=(if 0<=p.1/\p.1<(n:Int) then p.2*CW vals p.1 else 0)+Ij r vals n
 |0=>by rw[Ij,Ij,if_neg (by omega)];rfl
 |n+1=>by
  rw[Ij,Ij,Qg p r vals n,A6,Int.add_mul]
  by_cases h:p.1=(n:Int)
  .rw[if_pos h,if_neg (by omega),if_pos (by omega),h,KT]
   omega
  .rw[if_neg h,Ar1]
   by_cases h2:0<=p.1/\p.1<(n:Int)
   .rw[if_pos h2,if_pos (by omega)];omega
   .rw[if_neg h2,if_neg (by omega)];omega
theorem Qi(vals:List Int):∀ ps:List (Int × Int),DX (CW vals) ps=Ij ps vals vals.length
 |[]=>by rw[TG];rfl
 |p::r=>by
  rw[Qg,DX,Qi vals r]
  by_cases h:0<=p.1/\p.1<(vals.length:Int)
  .rw[if_pos h]
  .rw[if_neg h]
   by_cases h0:p.1<0
   .rw[TV _ _ h0,Arg]
   .rw[OP vals (by omega),Arg]
theorem TY(vals:List Int)(l:Lf):l.val (CW vals)=l.k+Ij l.ps vals vals.length:=by
 unfold Lf.val;rw[Qi];omega
theorem Sf{k:Nat}{vals:List Int}(h:∀ x∈vals,InB k x)(n:Nat):InB k (vals.getD n 0):=by
 rw[ApR]
 cases e:vals[n]? with
 |none=>exact InB.zero _
 |some x=>
  obtain⟨hn,rfl⟩:=ApU.1 e;exact h _ (ApQ hn)
theorem TF{n k j:Nat}{l:Lf}{vals:List Int}(hl:LB n k l)(hv:∀ x∈vals,InB j x):∀ m:Nat,InB (k+n+j+m) (Ij l.ps vals m)
 |0=>InB.zero _
 |m+1=>by
  rw[Ij,←Nat.add_assoc];refine InB.add (TF hl hv m) ?_;have h1:=Iu (m:Int) l.ps hl.ps;have h2:=InB.mul h1 (Sf hv m);exact h2.mono (by have:=hl.len;omega)
theorem Ro(x:Nat)(h:x<18446744073709551616):Aj.quo .u64 (x:Int) 4294967296=((x / 4294967296:Nat):Int):=by
 show IntKind.u64.wrap ((x:Int).tdiv 4294967296)=_
 have:(x:Int).tdiv 4294967296=((x / 4294967296:Nat):Int):=rfl;rw[this,IntKind.wrap_u64];omega
theorem Rp(x:Nat):Aj.rem .u64 (x:Int) 4294967296=((x % 4294967296:Nat):Int):=by
 show (x:Int).tmod 4294967296=_
 rfl
theorem YM(l:List Nat)(n:Nat):(Aw eL l).take n=Aw eL (l.take n):=by rw[GV,GV,List.map_take]
theorem Um(l:List Nat)(n:Nat)(h:n<=l.length):BA n 1 ((Aw eL l).take (n*1))=(l.take n).map eL:=by
 rw[Nat.mul_one,YM];have:=C2 A4 (l.take n)
 rwa [Ap0,AqK h]at this
theorem Lg(l:List Nat)(i:Nat):(l.drop i).headD 0=l.getD i 0:=by
 rw[ApR]
 by_cases h:i<l.length
 .rw[ApE h,Apy h];rfl
 .rw[ApL (by omega),Aqr (by omega)];rfl
theorem MX{l:List Nat}(h:Limbs l)(i:Nat):l.getD i 0<4294967296:=by
 rw[←Lg];exact E7 (h.drop i)
def D2(n:Nat)(l:List Nat):List Nat:=l++Ary (n-l.length) 0
theorem AfP(n:Nat):Ak (Ary n 0)=0:=by
 induction n with
 |zero=>rfl
 |succ n ih=>rw[List.replicate_succ,Ak,ih]
theorem Gu(n:Nat)(l:List Nat):Ak (D2 n l)=Ak l:=by
 unfold D2;rw[Fo,AfP];omega
theorem DQ{n:Nat}{l:List Nat}(h:l.length<=n):(D2 n l).length=n:=by
 unfold D2;rw[ApH,List.length_replicate];omega
theorem Eg{n:Nat}{l:List Nat}(h:Limbs l):Limbs (D2 n l):=PP h λx hx=>by
 rw[(List.mem_replicate.1 hx).2];omega
theorem Ki{n i:Nat}{l:List Nat}(h:l.length<=n)(hi:i<n):(D2 n l)[i]'(by rw[DQ h];exact hi)=l.getD i 0:=by
 rw[ApR];unfold D2
 by_cases h2:i<l.length
 .rw[List.getElem_append_left h2,Apy h2];rfl
 .rw[List.getElem_append_right (by omega),List.getElem_replicate,Aqr (by omega)];rfl
section
variable {D:Orc} (K:Knows Al OI D)
include K
theorem Aca(l:List Nat)(hl:CG l):∀(k i:Nat) (out:List Nat),l.length-i=k->out.length+k<=2000000000->D.ask (.lp 177 0) [eN l,.sl 0 0 out.length 1,iv (i:Int)] [ABlk.mk (Aw eL out) true true]
  = some (.tup [iv 0,.sl 1 0 (out++l.drop i).length 1],[.del,.set (ABlk.mk (Aw eL (out++l.drop i)) true true)]):=by
 intro k;unfold CG at hl
 induction k with
 |zero=>
  intro i out hi ho;refine K.lp' L8 _ rfl (by kernel_rfl) ((ZW ..).trans ?_);rw[Av,show l.drop i=[] from ApL (by omega),AqH];refine ltF_go (by omega)?_;rfl
 |succ k ih=>
  intro i out hi ho;have hlt:i<l.length:=by omega
  have ih':=ih (i+1) (out++[l[i]]) (by omega) (by simp;omega);rw[Ap9,ApH,Aql]at ih';refine K.lp' L8 _ rfl (by kernel_rfl) ((ZW ..).trans ?_);rw[Av,ApE hlt];refine Ao (by omega)?_;rw[AG,AD (Apy hlt)];have hf:Bp (out.length+1) 4=true:=AS (by omega) (by omega);have hb1:ApM (0+out.length*1) (Aw eL out).length=true:=A3 A4 out (by omega);have e3:∀ s:Nat,ApK 0 (ApG (0+out.length*1) (Aw eL out))++[.v (.int .u32 (s:Int))]=Aw eL (out++[s]):=λs=>by
   rw[ApD,Bf A4 out (by omega)];exact Bg eL out s
  simp only[eL,Fq,ND,Aa];rw[Bh (by omega),hf,hb1,e3];refine Ag ?_;refine Ag ?_;refine Ab ih' ?_;rfl
theorem Acb(l:List Nat)(hl:CG l):∀(n:Nat),n<=l.length->C7 l<=n->D.ask (.lp 177 1) [.sl 0 0 n 1] [ABlk.mk (Aw eL l) true true]=some (.tup [iv 2,.sl 1 0 (C7 l) 1],[.del,.set (ABlk.mk (Aw eL l) true true)]):=by
 intro n;unfold CG at hl
 induction n with
 |zero=>
  intro _ ht;refine K.lp' L8 _ rfl (by kernel_rfl) ((ZX ..).trans ?_);refine ltF_go (by omega)?_;rw[show C7 l=0 by omega]
 |succ n ih=>
  intro hn ht;refine K.lp' L8 _ rfl (by kernel_rfl) ((ZX ..).trans ?_);refine Ao (by omega)?_;rw[show Aj.sub .i64 ((n+1:Nat):Int) 1=(n:Int) from (AmE (i:=n+1) (j:=1) (by omega) (by omega)).trans (by simp)];rw[AG,BF (Aqp n)];refine Ag ?_;refine(AbX l n (by omega) _).trans ?_;simp only[Fq,ND,Aa]
  by_cases h0:l[n]=0
  .refine AF (by rw[h0];rfl)?_
   rw[AG,show J3 0 n (n+1)=true by unfold J3;rw[show ApM 0 n=true by simp];simp];refine Ag ?_;refine Ab (ih (by omega) (Qo ht (by rw[Apy (show n<l.length by omega),h0])))?_;rfl
  .refine eqF_go (by omega)?_
   have:=RH (Apy (show n<l.length by omega)) h0;rw[show C7 l=n+1 by omega]
theorem Fe{l:List Nat}(hl:CG l)(h:Limbs l):D.ask (.fn 177) [eN l] []=some (eN (AY (Ak l)),[]):=by
 have hs:=hl;unfold CG at hs;refine K.fn' L8 _ rfl ((AnF ..).trans ?_);have g:=Aca K l hl l.length 0 [] rfl (by simp;omega);rw[Ap4,ApD]at g;refine Ab g ?_;simp only[ND,Aa];refine Ab (Acb K l hl l.length (ApA _) (D0 l))?_;simp only[ND,Aa];have ht:=D0 l;rw[show ApM (0+C7 l*1) (Aw eL l).length=true by rw[BB A4];simp;omega];refine Ag ?_;rw[Um l _ ht,KP h];rfl
theorem Gi(a b:List Nat):D.ask (.fn 226) [eN a,eN b] []=some (iv ((max a.length b.length:Nat):Int),[]):=by
 refine K.fn' Ag3 _ rfl ((An3 ..).trans ?_);rw[Av,Av]
 by_cases h:b.length<a.length
 .refine Ao (by omega)?_
  rw[show max a.length b.length=a.length by omega]
 .refine ltF_go (by omega)?_
  rw[show max a.length b.length=b.length by omega]
theorem GR{a:List Nat}(ha:Limbs a)(i:Nat):D.ask (.fn 227) [eN a,iv (i:Int)] []=some (.v (.int .u64 (a.getD i 0:Int)),[]):=by
 refine K.fn' Ag4 _ rfl ((An4 ..).trans ?_);rw[Av,ApR];refine ltF_go (by omega)?_
 by_cases h:i<a.length
 .refine leF_go (by omega)?_
  have hx:=ha.get h;rw[AG,AD (Apy h),Apy h];simp only[eL,Fq,ND,Aa];rw[B4 (by omega)];rfl
 .refine CA (by omega)?_
  rw[Aqr (by omega)];rfl
theorem Afb{a b:List Nat}(ha:Limbs a)(hb:Limbs b)(m:Nat)(hma:a.length<=m)(hmb:b.length<=m)(hm:m<=1000000000):∀(n:Nat),n<=m->D.ask (.lp 229 0) [eN a,eN b,iv ((n:Int)-1)] []
  = some (if DA (Ak ((D2 m a).take n)) (Ak ((D2 m b).take n))=0 then .tup [iv 0] else .tup [bv true,iv (DA (Ak ((D2 m a).take n)) (Ak ((D2 m b).take n)))],[]):=by
 intro n
 induction n with
 |zero=>
  intro _;refine K.lp' SC _ rfl (by kernel_rfl) ((Aaa ..).trans ?_);refine leF_go (by omega)?_;rfl
 |succ n ih=>
  intro hn;refine K.lp' SC _ rfl (by kernel_rfl) ((Aaa ..).trans ?_);rw[show (((n+1:Nat):Int)-1)=(n:Int) by omega];refine CA (by omega)?_;have h1:n<(D2 m a).length:=by rw[DQ hma];omega
  have h2:n<(D2 m b).length:=by rw[DQ hmb];omega
  have e1:(D2 m a).take (n+1)=(D2 m a).take n++[a.getD n 0]:=by rw[AqI h1,Ki hma (by omega)]
  have e2:(D2 m b).take (n+1)=(D2 m b).take n++[b.getD n 0]:=by rw[AqI h2,Ki hmb (by omega)]
  rw[e1,e2,R1 ((Eg ha).take n) ((Eg hb).take n) (by simp;omega)];refine Ab (GR K ha n)?_;simp only[RK,ND,Aa];refine Ab (GR K hb n)?_;simp only[RK,ND,Aa]
  by_cases h3:a.getD n 0<b.getD n 0
  .refine Ao (by omega)?_
   rw[if_pos h3];rfl
  .refine ltF_go (by omega)?_
   rw[if_neg h3];refine Ab (GR K ha n)?_;simp only[RK,ND,Aa];refine Ab (GR K hb n)?_;simp only[RK,ND,Aa]
   by_cases h4:b.getD n 0<a.getD n 0
   .refine Ao (by omega)?_
    rw[if_pos h4];rfl
   .refine ltF_go (by omega)?_
    rw[if_neg h4];rw[show Aj.sub .i64 (n:Int) 1=(n:Int)-1 from Gk (by omega) (by omega)];refine Ab (ih (by omega))?_
    by_cases h5:DA (Ak ((D2 m a).take n)) (Ak ((D2 m b).take n))=0
    .rw[if_pos h5];rfl
    .rw[if_neg h5];rfl
theorem Afc{a b:List Nat}(hsa:CG a)(ha:Limbs a)(hsb:CG b)(hb:Limbs b):D.ask (.fn 229) [eN a,eN b] []=some (iv (DA (Ak a) (Ak b)),[]):=by
 unfold CG at hsa hsb;refine K.fn' SC _ rfl ((An6 ..).trans ?_);refine Ab (Gi K a b)?_;simp only[ND,Aa];rw[show Aj.sub .i64 ((max a.length b.length:Nat):Int) 1=((max a.length b.length:Nat):Int)-1 from Gk (by omega) (by omega)];have g:=Afb K ha hb (max a.length b.length) (by omega) (by omega) (by omega) (max a.length b.length) (ApA _);rw[AqM (by rw[DQ (by omega)];omega),AqM (by rw[DQ (by omega)];omega),Gu,Gu]at g;refine Ab g ?_
 by_cases h5:DA (Ak a) (Ak b)=0
 .rw[if_pos h5,h5];rfl
 .rw[if_neg h5];rfl
theorem Afa{a b:List Nat}(ha:Limbs a)(hb:Limbs b)(hm:max a.length b.length<=1000000000):∀(k i:Nat) (out:List Nat) (c:Nat),max a.length b.length+1-i=k->c<=1->out.length+k<=2000000000->
  D.ask (.lp 181 0) [eN a,eN b,.sl 0 0 out.length 1,.v (.int .u64 (c:Int)),iv (i:Int)] [ABlk.mk (Aw eL out) true true]
   = some (.tup [iv 0,.sl 1 0 (out++MD k c (a.drop i) (b.drop i)).length 1],[.del,.set (ABlk.mk (Aw eL (out++MD k c (a.drop i) (b.drop i))) true true)]):=by
 intro k
 induction k with
 |zero=>
  intro i out c hi hc ho;refine K.lp' Sv _ rfl (by kernel_rfl) ((ZZ ..).trans ?_);refine Ab (Gi K a b)?_;simp only[ND,Aa];refine leF_go (by omega)?_;rw[MD,AqH]
 |succ k ih=>
  intro i out c hi hc ho;have h1:=MX ha i;have h2:=MX hb i;have ih':=ih (i+1) (out++[(a.getD i 0+b.getD i 0+c) % 4294967296]) ((a.getD i 0+b.getD i 0+c) / 4294967296) (by omega) (by omega) (by simp;omega);rw[Ap9,ApH,Aql]at ih';refine K.lp' Sv _ rfl (by kernel_rfl) ((ZZ ..).trans ?_);refine Ab (Gi K a b)?_;simp only[ND,Aa];refine CA (by omega)?_;refine Ab (GR K ha i)?_;simp only[RK,ND,Aa];refine Ab (GR K hb i)?_;simp only[RK,ND,Aa];refine eqF_go (by decide)?_;have hf:Bp (out.length+1) 4=true:=AS (by omega) (by omega);have hb1:ApM (0+out.length*1) (Aw eL out).length=true:=A3 A4 out (by omega);have e3:∀ s:Nat,ApK 0 (ApG (0+out.length*1) (Aw eL out))++[.v (.int .u32 (s:Int))]=Aw eL (out++[s]):=λs=>by
   rw[ApD,Bf A4 out (by omega)];exact Bg eL out s
  rw[Da (by omega),Da (by omega),Rp,Ro _ (by omega),BJ (Aq7 _ (by omega)),Bh (by omega),hf,hb1,e3];refine Ag ?_;refine Ag ?_;refine eqF_go (by decide)?_;refine Ab ih' ?_;rw[MD,Lg,Lg,Aro,Aro];rfl
theorem IF{a b:List Nat}(hsa:a.length<=999999999)(ha:Limbs a)(hsb:b.length<=999999999)(hb:Limbs b):D.ask (.fn 181) [eN a,eN b] []=some (eN (AY (Ak a+Ak b)),[]):=by
 refine K.fn' Sv _ rfl ((AnJ ..).trans ?_);have g:=Afa K ha hb (by omega) (max a.length b.length+1) 0 [] 0 rfl (by omega) (by simp;omega);rw[Ap4,ApD,ApD]at g;refine Ab g ?_;simp only[ND,Aa];rw[A3 A4 _ (by omega)];refine Ag ?_;rw[Cs A4 _ rfl];have hlen:∀(k c:Nat) (a b:List Nat),(MD k c a b).length=k:=λk=>by
  induction k with
  |zero=>intro c a b;rfl
  |succ k ih=>intro c a b;rw[MD,ApI,ih]
 have gt:=Fe K (l:=MD (max a.length b.length+1) 0 a b) (by unfold CG;rw[hlen];omega) (Na _ _ _ _);rw[Qq]at gt;have h1:=CX ha;have h2:=CX hb;have p1:4294967296 ^ a.length<=4294967296 ^ (max a.length b.length):=Aq0 (by omega) (by omega);have p2:4294967296 ^ b.length<=4294967296 ^ (max a.length b.length):=Aq0 (by omega) (by omega);rw[Nat.mod_eq_of_lt (by rw[AqT];omega),ApX]at gt;refine Ab gt ?_;rfl
theorem Afe{a b:List Nat}(ha:Limbs a)(hb:Limbs b)(m:Nat)(hma:max a.length b.length=m)(hm:m<=1000000000):∀(k i:Nat) (out:List Nat) (c:Nat),m-i=k->c<=1->out.length+k<=2000000000->
  D.ask (.lp 184 0) [eN a,eN b,.sl 0 0 out.length 1,.v (.int .u64 (c:Int)),iv (i:Int)] [ABlk.mk (Aw eL out) true true]
   = some (.tup [iv 0,.sl 1 0 (out++GY c ((D2 m a).drop i) ((D2 m b).drop i)).length 1],[.del,.set (ABlk.mk (Aw eL (out++GY c ((D2 m a).drop i) ((D2 m b).drop i))) true true)]):=by
 intro k;have la:=DQ (n:=m) (l:=a) (by omega);have lb:=DQ (n:=m) (l:=b) (by omega)
 induction k with
 |zero=>
  intro i out c hi hc ho;refine K.lp' Sw _ rfl (by kernel_rfl) ((Z2 ..).trans ?_);refine Ab (Gi K a b)?_;simp only[ND,Aa];refine ltF_go (by omega)?_;rw[show (D2 m a).drop i=[] from ApL (by omega),GY,AqH]
 |succ k ih=>
  intro i out c hi hc ho;have h1:=MX ha i;have h2:=MX hb i;have ia:i<(D2 m a).length:=by omega
  have ib:i<(D2 m b).length:=by omega
  rw[ApE ia,Ki (by omega) (by omega),ApE ib,Ki (by omega) (by omega),GY,List.headD_cons,List.tail_cons];refine K.lp' Sw _ rfl (by kernel_rfl) ((Z2 ..).trans ?_);refine Ab (Gi K a b)?_;simp only[ND,Aa];refine Ao (by omega)?_;refine Ab (GR K ha i)?_;simp only[RK,ND,Aa];refine Ab (GR K hb i)?_;simp only[RK,ND,Aa];refine eqF_go (by decide)?_;have hf:Bp (out.length+1) 4=true:=AS (by omega) (by omega);have hb1:ApM (0+out.length*1) (Aw eL out).length=true:=A3 A4 out (by omega);have e3:∀ s:Nat,ApK 0 (ApG (0+out.length*1) (Aw eL out))++[.v (.int .u32 (s:Int))]=Aw eL (out++[s]):=λs=>by
   rw[ApD,Bf A4 out (by omega)];exact Bg eL out s
  rw[show (4294967296:Int)=((4294967296:Nat):Int) from rfl,Da (by omega),GS (by omega) (by omega),GS (by omega) (by omega)];rw[show ((4294967296:Nat):Int)=(4294967296:Int) from rfl,Rp,Ro _ (by omega),BJ (Aq7 _ (by omega)),Bh (by omega),show (1:Int)=((1:Nat):Int) from rfl,GS (by omega) (by omega),hf,hb1,e3];refine Ag ?_;refine Ag ?_;refine eqF_go (by decide)?_
  by_cases hlt:a.getD i 0<b.getD i 0+c
  .rw[if_pos hlt,if_pos hlt]
   have ih':=ih (i+1) (out++[a.getD i 0+4294967296-(b.getD i 0+c)]) 1 (by omega) (by omega) (by simp;omega);rw[Ap9,ApH,Aql]at ih';rw[show (a.getD i 0+4294967296-b.getD i 0-c) % 4294967296=a.getD i 0+4294967296-(b.getD i 0+c) by omega,show 1-(a.getD i 0+4294967296-b.getD i 0-c) / 4294967296=1 by omega];refine Ab ih' ?_;rfl
  .rw[if_neg hlt,if_neg hlt]
   have ih':=ih (i+1) (out++[a.getD i 0-(b.getD i 0+c)]) 0 (by omega) (by omega) (by simp;omega);rw[Ap9,ApH,Aql]at ih';rw[show (a.getD i 0+4294967296-b.getD i 0-c) % 4294967296=a.getD i 0-(b.getD i 0+c) by omega,show 1-(a.getD i 0+4294967296-b.getD i 0-c) / 4294967296=0 by omega];refine Ab ih' ?_;rfl
theorem WI{a b:List Nat}(hsa:CG a)(ha:Limbs a)(hsb:CG b)(hb:Limbs b):D.ask (.fn 184) [eN a,eN b] []=some (Nx (Ak a) (Ak b),[]):=by
 have s1:=hsa;have s2:=hsb;unfold CG at s1 s2;refine K.fn' Sw _ rfl ((AnM ..).trans ?_);refine Ab (Afc K hsa ha hsb hb)?_;simp only[ND,Aa];unfold Nx
 by_cases h1:Ak a<Ak b
 .rw[show DA (Ak a) (Ak b)=-1 by unfold DA;rw[if_pos h1]]
  refine Ao (by decide)?_;rw[if_neg (by omega)];rfl
 .refine ltF_go (by unfold DA;rw[if_neg h1];split<;>omega)?_
  rw[if_pos (by omega)];have la:=DQ (n:=max a.length b.length) (l:=a) (by omega);have lb:=DQ (n:=max a.length b.length) (l:=b) (by omega);have g:=Afe K ha hb (max a.length b.length) rfl (by omega) (max a.length b.length) 0 [] 0 (by omega) (by omega) (by simp;omega);rw[Ap4,ApD,ApD]at g;refine Ab g ?_;simp only[ND,Aa];rw[A3 A4 _ (by omega)];refine Ag ?_;rw[Cs A4 _ rfl];have gt:=Fe K (l:=GY 0 (D2 (max a.length b.length) a) (D2 (max a.length b.length) b)) (by unfold CG;rw[KK];omega) (GZ _ _ _ (Eg ha) (Eg hb) (by omega));rw[TW (Eg ha) (Eg hb) (by omega) (by rw[Gu,Gu];omega),Gu,Gu]at gt;refine Ab gt ?_;rfl
theorem Yv{a:List Nat}(ha:Limbs a)(hs:CG a)(m:Nat)(hm:m<4294967296):∀(k i:Nat) (out:List Nat) (c:Nat),a.length-i=k->i<=a.length->c<4294967296->out.length+k<=2000000000->
  ∃(o:List Nat) (c':Nat),D.ask (.lp 228 0) [eN a,.v (.int .u64 (m:Int)),.sl 0 0 out.length 1,.v (.int .u64 (c:Int)),iv (i:Int)] [ABlk.mk (Aw eL out) true true]
   = some (.tup [iv 0,.sl 1 0 o.length 1,.v (.int .u64 (c':Int))],[.del,.set (ABlk.mk (Aw eL o) true true)])/\c'<4294967296/\o++[c']=out++DW m c (a.drop i):=by
 intro k;unfold CG at hs
 induction k with
 |zero=>
  intro i out c hi hle hc ho;refine⟨out,c,?_,hc,?_⟩
  .refine K.lp' SB _ rfl (by kernel_rfl) ((Z9 ..).trans ?_)
   rw[Av];refine ltF_go (by omega)?_;rfl
  .rw[show a.drop i=[] from ApL (by omega)]
   rfl
 |succ k ih=>
  intro i out c hi hle hc ho;have hlt:i<a.length:=by omega
  have hx:=ha.get hlt;have hp:=N8 hx hm;have hg:a.getD i 0=a[i]:=by rw[ApR,Apy hlt];rfl
  obtain⟨o,c',h1,h2,h3⟩:=ih (i+1) (out++[(a[i]*m+c) % 4294967296]) ((a[i]*m+c) / 4294967296) (by omega) (by omega) (by omega) (by simp;omega);refine⟨o,c',?_,h2,?_⟩
  .refine K.lp' SB _ rfl (by kernel_rfl) ((Z9 ..).trans ?_)
   rw[Av];refine Ao (by omega)?_;refine Ab (GR K ha i)?_;simp only[RK,ND,Aa,hg];refine eqF_go (by decide)?_;have hf:Bp (out.length+1) 4=true:=AS (by omega) (by omega);have hb1:ApM (0+out.length*1) (Aw eL out).length=true:=A3 A4 out (by omega);have e3:∀ s:Nat,ApK 0 (ApG (0+out.length*1) (Aw eL out))++[.v (.int .u32 (s:Int))]=Aw eL (out++[s]):=λs=>by
    rw[ApD,Bf A4 out (by omega)];exact Bg eL out s
   rw[ApH,Aql]at h1;rw[Rn (by omega),Da (by omega),Rp,Ro _ (by omega),BJ (Aq7 _ (by omega)),Bh (by omega),hf,hb1,e3];refine Ag ?_;refine Ag ?_;refine eqF_go (by decide)?_;refine Ab h1 ?_;rfl
  .rw[h3,ApE hlt,DW,Ap9]
   rfl
omit K in
theorem JG:∀(m c:Nat) (a:List Nat),(DW m c a).length=a.length+1
 |_,_,[]=>rfl
 |m,c,x::a=>by rw[DW,ApI,JG,ApI]
theorem LD{a:List Nat}(ha:Limbs a)(hs:a.length<=999999999)(m:Nat)(hm:m<4294967296):D.ask (.fn 228) [eN a,.v (.int .u64 (m:Int))] []=some (eN (AY (Ak a*m)),[]):=by
 obtain⟨o,c',g,hc,ho⟩:=Yv K ha (by unfold CG;omega) m hm a.length 0 [] 0 (by omega) (by omega) (by omega) (by simp;omega);rw[Ap4,ApD]at ho;have hol:o.length=a.length:=by
  have:=congrArg List.length ho;rw[ApH,JG]at this;simpa using this
 refine K.fn' SB _ rfl ((An5 ..).trans ?_);refine Ab g ?_;simp only[Fq,ND,Aa];rw[BJ hc];have e3:ApK 0 (ApG (0+o.length*1) (Aw eL o))++[.v (.int .u32 (c':Int))]=Aw eL (o++[c']):=by
  rw[ApD,Bf A4 o (by omega)];exact Bg eL o c'
 rw[AS (n:=o.length+1) (b:=4) (by omega) (by omega),A3 A4 o (by omega),e3,A3 A4 (o++[c']) (by simp)];refine Ag ?_;refine Ag ?_;refine Ag ?_;rw[ApD,Bf A4 (o++[c']) (by simp),show BA (o.length+1) 1 (Aw eL (o++[c']))=(o++[c']).map eL from by have:=C2 A4 (o++[c']);rwa [ApH]at this];rw[ho];have gt:=Fe K (l:=DW m 0 a) (by unfold CG;rw[JG];omega) (GX _ _ _ hm ha (by omega));rw[Il,Nat.add_zero]at gt;refine Ab gt ?_;rfl
end
theorem EJ{a b:List Nat}(ha:Limbs a)(hb:Limbs b):(AY (Ak a*Ak b)).length<=a.length+b.length:=by
 refine BG ?_;rw[Nat.pow_add];exact Nat.mul_lt_mul'' (CX ha) (CX hb)
theorem Abu(va x vd:Nat):0+4294967296*(va*vd)+va*x=va*(x+4294967296*vd):=by
 rw[Nat.mul_add,Nat.mul_left_comm va];omega
theorem UT{v i d:Nat}(h:v<4294967296 ^ i)(hd:d<=9):v*10+d<4294967296 ^ (i+1):=by
 rw[AqT];omega
theorem OB{d:Nat}(h:d<4294967296):Limbs [d]:=BM h BZ
section
variable {D:Orc} (K:Knows Al OI D)
include K
theorem Afl(A B:AV)(t:Int){xs ys:List (List AV)}(hA:A=.ls xs)(hB:B=.ls ys){out:List Nat}(hs:out.length<=999999999):∀(k i:Nat) (up:List Nat),out.length-i=k->i<=out.length->up=0::out.take i->
  D.ask (.lp 183 1) [A,B,eN out,iv t,.sl 0 0 (i+1) 1,iv (i:Int)] [ABlk.mk (Aw eL up) true true]=some (.tup [iv 2,A,B,iv t,.sl 1 0 (out.length+1) 1],[.del,.set (ABlk.mk (Aw eL (0::out)) true true)]):=by
 subst hA hB;intro k
 induction k with
 |zero=>
  intro i up hk hi hu;obtain rfl:i=out.length:=by omega
  rw[List.take_length]at hu;subst hu;refine K.lp' L9 _ rfl (by kernel_rfl) ((Z1 ..).trans ?_);rw[Av];exact ltF_go (by omega)rfl
 |succ k ih=>
  intro i up hk hi hu;have hlt:i<out.length:=by omega
  have hl:up.length=i+1:=by rw[hu,ApI,Ap0,AqK hi]
  have ih':=ih (i+1) (up++[out[i]]) (by omega) (by omega) (by rw[hu,AqI hlt];rfl);have e3:ApK 0 (ApG (0+(i+1)*1) (Aw eL up))++[.v (.int .u32 (out[i]:Int))]=Aw eL (up++[out[i]]):=by
   rw[ApD,Bf A4 up (by omega)];exact Bg eL up out[i]
  refine K.lp' L9 _ rfl (by kernel_rfl) ((Z1 ..).trans ?_);rw[Av];refine Ao (by omega)?_;rw[AG,AD (Apy hlt)];simp only[eL,Fq,ND,Aa];rw[Bh (by omega),AS (n:=i+1+1) (b:=4) (by omega) (by omega),A3 A4 up (by omega),e3];refine Ag ?_;refine Ag ?_;refine Ab ih' ?_;rfl
theorem Afm{a b:List Nat}(ha:Limbs a)(hb:Limbs b)(hs:a.length+b.length<=900000000):∀ i:Nat,i<=b.length->D.ask (.lp 183 0) [eN a,eN b,eN (AY (Ak a*Ak (b.drop i))),iv ((i:Int)-1)] []=some (.tup [iv 0,eN (AY (Ak a*Ak b))],[]):=by
 intro i
 induction i with
 |zero=>
  intro _;refine K.lp' L9 _ rfl (by kernel_rfl) ((Z0 ..).trans ?_);refine leF_go (by omega)?_;rw[ApD];rfl
 |succ i ih=>
  intro hi;have hlt:i<b.length:=by omega
  have hx:=hb.get hlt;have ln:∀ j:Nat,(AY (Ak a*Ak (b.drop j))).length<=a.length+b.length:=λj=>by
   have:=EJ ha (hb.drop j);rw[List.length_drop]at this;omega
  have l1:=ln (i+1);rw[show (((i+1:Nat):Int)-1)=(i:Int) by omega];refine K.lp' L9 _ rfl (by kernel_rfl) ((Z0 ..).trans ?_);refine CA (by omega)?_;have g:=Afl K (eN a) (eN b) (i:Int) rfl rfl (out:=AY (Ak a*Ak (b.drop (i+1)))) (by omega) _ 0 [0] rfl (by omega) rfl;refine Ab g ?_;simp only[eN,Fq,ND,Aa];rw[AG,AD (Apy hlt)];simp only[eL,Fq,ND,Aa];rw[B4 (show b[i]<_ by omega)];refine Ag ?_;refine Ab (LD K ha (by omega) b[i] hx)?_;simp only[eN,Fq,ND,Aa];rw[A3 A4 (0::AY (Ak a*Ak (b.drop (i+1)))) (by simp)];refine Ag ?_;rw[Bf A4 (0::AY (Ak a*Ak (b.drop (i+1)))) (by simp),show BA ((AY (Ak a*Ak (b.drop (i+1)))).length+1) 1 (Aw eL (0::AY (Ak a*Ak (b.drop (i+1)))))=(0::AY (Ak a*Ak (b.drop (i+1)))).map eL from C2 A4 (0::AY (Ak a*Ak (b.drop (i+1))))];have l3:(AY (Ak a*b[i])).length<=a.length+1:=by
   have:=EJ ha (OB hx)
   rwa [show Ak [b[i]]=b[i] by simp[Ak]]at this
  have g2:=IF K (a:=0::AY (Ak a*Ak (b.drop (i+1)))) (b:=AY (Ak a*b[i])) (by rw[ApI];omega) (BM (by omega) (AL _)) (by omega) (AL _);rw[Ak,A0,A0,Abu,show b[i]+4294967296*Ak (b.drop (i+1))=Ak (b.drop i) by rw[ApE hlt,Ak]]at g2;refine Ab g2 ?_;simp only[eN,Fq,ND,Aa];rw[Gk (by omega) (by omega)];refine Ab (ih (by omega))?_;rfl
theorem Afd{a b:List Nat}(ha:Limbs a)(hb:Limbs b)(hs:a.length+b.length<=900000000):D.ask (.fn 183) [eN a,eN b] []=some (eN (AY (Ak a*Ak b)),[]):=by
 have g:=Afm K ha hb hs b.length (ApA _);rw[List.drop_length,Ak,Nat.mul_zero,EF]at g;refine K.fn' L9 _ rfl ((AnL ..).trans ?_);rw[Av,Gk (by omega) (by omega)];refine Ab g ?_;simp only[eN,ND,Aa];have l1:=EJ ha hb;have g2:=Fe K (l:=AY (Ak a*Ak b)) (by unfold CG;omega) (AL _);rw[A0]at g2;refine Ab g2 ?_;rfl
theorem Yu{s:ByteArray}(hs:s.size<=4000):∀(m i v:Nat),s.size-i=m->i<=s.size->v<4294967296 ^ i->
  D.ask (.lp 182 0) [sv s,eN (AY v),iv (i:Int)] []=if(s.data.toList.drop i).all GM=true then some (.tup [iv 0,sv s,eN (AY (LO v (s.data.toList.drop i)))],[]) else some (.tup [bv true,.ls [],iv 20],[]):=by
 intro m;have hsl:s.data.toList.length=s.size:=by simp
 induction m with
 |zero=>
  intro i v hm hi hv;have e:s.data.toList.drop i=[]:=ApL (by omega);rw[e,if_pos (show ([]:List UInt8).all GM=true from rfl)];refine K.lp' NP _ rfl (by kernel_rfl) ((QZ ..).trans ?_);rw[Cu];exact ltF_go (by omega)rfl
 |succ m ih=>
  intro i v hm hi hv;have hlt:i<s.size:=by omega
  have hlt':i<s.data.toList.length:=by omega
  have e:s.data.toList.drop i=s.data.toList[i]::s.data.toList.drop (i+1):=ApE hlt';rw[e,List.all_cons]
  cases hd:GM s.data.toList[i]with
  |false=>
   rw[if_neg (by simp)];refine K.lp' NP _ rfl (by kernel_rfl) ((QZ ..).trans ?_);rw[Cu];refine Ao (by omega)?_;rw[AG,BF hlt];refine Ag ?_;rw[DR hlt];rcases AkC hd with h|⟨h,h2⟩
   .exact Ao (by omega)rfl
   .refine ltF_go (by omega)?_
    rw[AG,BF hlt];refine Ag ?_;rw[DR hlt];exact Ao (by omega)rfl
  |true=>
   have hd1:=ZN hd;have hd2:=AkB hd;rw[ApZ,NT];have ih':=ih (i+1) (v*10+(s.data.toList[i].toNat-48)) (by omega) (by omega) (UT hv hd1);have lv:=BG hv
   by_cases h:(s.data.toList.drop (i+1)).all GM=true
   .rw[if_pos h]at ih' ⊢
    refine K.lp' NP _ rfl (by kernel_rfl) ((QZ ..).trans ?_);rw[Cu];refine Ao (by omega)?_;rw[AG,BF hlt];refine Ag ?_;rw[DR hlt];refine ltF_go (by omega)?_;rw[AG,BF hlt];refine Ag ?_;rw[DR hlt];refine ltF_go (by omega)?_;have g:=LD K (a:=AY v) (AL _) (by omega) 10 (by omega);rw[A0]at g;refine Ab g ?_;simp only[eN,Fq,ND,Aa];rw[AG,BF hlt];refine Ag ?_;rw[DR hlt];rw[Aiq hd2,BJ (by omega)];have l3:(AY (v*10)).length<=i+1:=BG (by have:=UT hv (d:=0) (by omega);simpa using this);have g2:=IF K (a:=AY (v*10)) (b:=[s.data.toList[i].toNat-48]) (by omega) (AL _) (by simp) (OB (by omega));rw[A0,show Ak [s.data.toList[i].toNat-48]=s.data.toList[i].toNat-48 by simp[Ak]]at g2;refine Ab g2 ?_;simp only[eN,Fq,ND,Aa];rw[Bh (by omega)];refine Ab ih' ?_;rfl
   .rw[if_neg h]at ih' ⊢
    refine K.lp' NP _ rfl (by kernel_rfl) ((QZ ..).trans ?_);rw[Cu];refine Ao (by omega)?_;rw[AG,BF hlt];refine Ag ?_;rw[DR hlt];refine ltF_go (by omega)?_;rw[AG,BF hlt];refine Ag ?_;rw[DR hlt];refine ltF_go (by omega)?_;have g:=LD K (a:=AY v) (AL _) (by omega) 10 (by omega);rw[A0]at g;refine Ab g ?_;simp only[eN,Fq,ND,Aa];rw[AG,BF hlt];refine Ag ?_;rw[DR hlt];rw[Aiq hd2,BJ (by omega)];have l3:(AY (v*10)).length<=i+1:=BG (by have:=UT hv (d:=0) (by omega);simpa using this);have g2:=IF K (a:=AY (v*10)) (b:=[s.data.toList[i].toNat-48]) (by omega) (AL _) (by simp) (OB (by omega));rw[A0,show Ak [s.data.toList[i].toNat-48]=s.data.toList[i].toNat-48 by simp[Ak]]at g2;refine Ab g2 ?_;simp only[eN,Fq,ND,Aa];rw[Bh (by omega)];refine Ab ih' ?_;rfl
theorem Ly(s:ByteArray):D.ask (.fn 182) [sv s] []=some (.tup [eN (Hf s).1,iv (Hf s).2],[]):=by
 refine K.fn' NP _ rfl ((AnK ..).trans ?_);unfold Hf;rw[Cu]
 by_cases h1:4000<s.size
 .rw[if_pos h1]
  exact Ao (by omega)rfl
 rw[if_neg h1];refine ltF_go (by omega)?_;have g:=Yu K (s:=s) (by omega) s.size 0 0 (by omega) (by omega) (by simp);rw[ApD,EF]at g
 by_cases h2:s.size=0
 .rw[if_pos h2]
  have h3:s=ByteArray.empty:=by simpa using h2
  subst h3;rw[if_pos (show ByteArray.empty.data.toList.all GM=true from rfl)]at g;refine Ab g ?_;simp only[eN,Fq,ND,Aa];rfl
 rw[if_neg h2]
 by_cases h3:s.data.toList.all GM=true
 .rw[if_pos h3]at g ⊢
  refine Ab g ?_;simp only[eN,Fq,ND,Aa];rw[Cu];refine eqF_go (by omega)?_;have l1:(AY (LO 0 s.data.toList)).length<=s.size:=BG (by
   have:=UV s.data.toList h3 (v:=0) (i:=0) (by simp)
   rwa [ApX,show s.data.toList.length=s.size by simp]at this)
  have g2:=Fe K (l:=AY (LO 0 s.data.toList)) (by unfold CG;omega) (AL _);rw[A0]at g2;refine Ab g2 ?_;rfl
 .rw[if_neg h3]at g ⊢
  refine Ab g ?_;rfl
theorem Ab8{a b:List Nat}(hl:a.length=b.length)(hs:CG a):∀(k i:Nat),a.length-i=k->i<=a.length->D.ask (.lp 258 0) [eN a,eN b,iv (i:Int)] []=if a.drop i=b.drop i then some (.tup [iv 0],[]) else some (.tup [bv true,bv false],[]):=by
 intro k;unfold CG at hs
 induction k with
 |zero=>
  intro i hk hi;rw[ApL (show a.length<=i by omega),ApL (show b.length<=i by omega),if_pos rfl];refine K.lp' NR _ rfl (by kernel_rfl) ((Q2 ..).trans ?_);rw[Av];exact ltF_go (by omega)rfl
 |succ k ih=>
  intro i hk hi;have h1:i<a.length:=by omega
  have h2:i<b.length:=by omega
  have ih':=ih (i+1) (by omega) (by omega);rw[ApE h1,ApE h2]
  by_cases h:a[i]=b[i]
  .by_cases h3:a.drop (i+1)=b.drop (i+1)
   .rw[if_pos h3]at ih'
    rw[if_pos (by rw[h,h3])];refine K.lp' NR _ rfl (by kernel_rfl) ((Q2 ..).trans ?_);rw[Av];refine Ao (by omega)?_;rw[AG,AD (Apy h1)];simp only[eL,Fq,ND,Aa];rw[AG,AD (Apy h2)];simp only[eL,Fq,ND,Aa];rw[Bh (by omega)];refine AF (by omega)?_;refine Ab ih' ?_;rfl
   .rw[if_neg h3]at ih'
    rw[if_neg (λe=>h3 (List.cons.inj e).2)];refine K.lp' NR _ rfl (by kernel_rfl) ((Q2 ..).trans ?_);rw[Av];refine Ao (by omega)?_;rw[AG,AD (Apy h1)];simp only[eL,Fq,ND,Aa];rw[AG,AD (Apy h2)];simp only[eL,Fq,ND,Aa];rw[Bh (by omega)];refine AF (by omega)?_;refine Ab ih' ?_;rfl
  .rw[if_neg (λe=>h (List.cons.inj e).1)]
   refine K.lp' NR _ rfl (by kernel_rfl) ((Q2 ..).trans ?_);rw[Av];refine Ao (by omega)?_;rw[AG,AD (Apy h1)];simp only[eL,Fq,ND,Aa];rw[AG,AD (Apy h2)];simp only[eL,Fq,ND,Aa];rw[Bh (by omega)];exact eqF_go (by omega)rfl
theorem AbT{a b:List Nat}(hs:CG a):D.ask (.fn 258) [eN a,eN b] []=some (bv (decide (a=b)),[]):=by
 refine K.fn' NR _ rfl ((Aof ..).trans ?_);rw[Av,Av]
 by_cases hl:a.length=b.length
 .refine AF (by omega)?_
  have g:=Ab8 K hl hs a.length 0 (by omega) (by omega);rw[ApD,ApD]at g
  by_cases h:a=b
  .rw[if_pos h]at g
   rw[decide_eq_true h];refine Ab g ?_;rfl
  .rw[if_neg h]at g
   rw[decide_eq_false h];refine Ab g ?_;rfl
 .refine eqF_go (by omega)?_
  rw[decide_eq_false (λe=>hl (by rw[e]))]
end
end Go.Proofs.YtlmhajfbpplpoaaGreat
