/- The text of a right tree -/
import Derived.Test.YtlmhajfbpplpoaaGreatOBO
import Derived.Test.YtlmhajfbpplpoaaGreatOBP
import Derived.Test.YtlmhajfbpplpoaaGreatOBE
import Derived.Test.YtlmhajfbpplpoaaGreatOBG
set_option linter.all false
open Bool renaming and_eq_true->ε,false_and->Aqp,false_ne_true->Arq,true_and->ApP
open Int renaming mul_zero->Ara,zero_mul->ArV
open List renaming append_assoc->ApZ,append_nil->Aqx,drop->Apx,drop_eq_getElem_cons->χ,drop_eq_nil_of_le->Apz,drop_zero->π,findIdx?_eq_some_iff_getElem->Ap3,getD_eq_getElem?_getD->ApH,getElem?_eq_getElem->Φ,getElem?_eq_none->Aqg,getElem?_eq_some_iff->ApJ,getElem_mem->ApG,length_append->υ,length_cons->Apw,length_eq_zero_iff->Ap9,length_map->ApO,length_nil->AqL,length_singleton->Aqb,length_take->ApQ,map_append->ArF,mem_append->Ap1,mem_cons->ApC,mem_cons_of_mem->ApM,mem_singleton->Ap4,nil_append->ApU,prefix_rfl->ArG,replicate->Aru,singleton_append->Arh,tail_drop->Ari,take->ο,take_of_length_le->AqB,take_succ_eq_append_getElem->Aqy
open Nat renaming ble->ApA,le_refl->ω,lt_succ_self->Aqe,min_eq_left->AqE,mod_lt->Aq1,pow_le_pow_right->AqT,pow_succ->AqI,zero_add->ApN
open Option renaming getD_some->AqX,map_eq_some_iff->Aq2,map_some->ApI
namespace Go.Proofs.YtlmhajfbpplpoaaGreat
open ABlk renaming mk->Δ
open Go.RowKit
theorem Abr{m:Mo}(h:Bg m=true):(m.num≠Ax []->Et m.num.data.toList=true)/\(m.var≠Ax []->Ds m.var.data.toList=true)/\(m.num=Ax []->m.var≠Ax []):=by
 unfold Bg at h;simp only[ε,Bool.or_eq_true,decide_eq_true_eq]at h;obtain⟨⟨h1,h2⟩,h3⟩:=h;refine⟨λe=>h2.resolve_left e,λe=>h3.resolve_left e,λe=>h1.resolve_left λh=>h e⟩
theorem EC{ms:List Mo}(h:O6 ms=true):0<ms.length/\ms.length<=64/\ms.all Bg=true:=by
 unfold O6 at h;simp only[ε,decide_eq_true_eq]at h;exact⟨h.1.1,h.1.2,h.2⟩
def brT(b:Bool)(s:List UInt8):List UInt8:=if b then [40]++s++[41] else s
theorem Aao(k:Int)(i:Nat)(x:Tr)(r:List Tr):AaY k i (x::r)=brT (brk k i x.kind) (txt x)::AaY k (i+1) r:=by rw[AaY];rfl
theorem Jr{k:Int}{d i:Nat}{x:Tr}{r:List Tr}(h:Fy k d i (x::r)=true):IV (brk k i x.kind) d<=60/\Cc x (IV (brk k i x.kind) d)=true/\Fy k d (i+1) r=true:=by
 rw[Fy]at h;simp only[ε,decide_eq_true_eq]at h;exact⟨h.1.1,h.1.2,h.2⟩
inductive ShapeT:Tr->Nat->Prop where
 |tt (d:Nat):ShapeT (.mk 0 [] [] 0 (Ax []) (Ax []) []) d
 |ff (d:Nat):ShapeT (.mk 1 [] [] 0 (Ax []) (Ax []) []) d
 |cmp (d:Nat) {l r:List Mo} {op:Int} (hl:O6 l=true) (hr:O6 r=true) (h1:0<=op) (h2:op<=5):ShapeT (.mk 2 l r op (Ax []) (Ax []) []) d
 |no (d:Nat) {x:Tr} (hd:IV (brk 3 0 x.kind) (d+1)<=60) (h:Cc x (IV (brk 3 0 x.kind) (d+1))=true):ShapeT (.mk 3 [] [] 0 (Ax []) (Ax []) [x]) d
 |bin (d:Nat) {k:Int} {x y:Tr} (hk:k=4\/k=5) (hd:IV (brk k 0 x.kind) d<=60) (h:Cc x (IV (brk k 0 x.kind) d)=true) (gd:IV (brk k 1 y.kind) d<=60) (g:Cc y (IV (brk k 1 y.kind) d)=true):ShapeT (.mk k [] [] 0 (Ax []) (Ax []) [x,y]) d
theorem Kz{t:Tr}{d:Nat}(h:Cc t d=true):ShapeT t d:=by
 obtain⟨k,l,r,op,p,q,ks⟩:=t;rw[Cc]at h
 by_cases h2:k=2
 .rw[if_pos h2]at h
  subst h2;unfold Nm at h;simp only[ε,decide_eq_true_eq]at h;obtain⟨⟨⟨⟨⟨⟨⟨_,hl⟩,hr⟩,h3⟩,h4⟩,rfl⟩,rfl⟩,h5⟩:=h;obtain rfl:ks=[]:=Ap9.1 h5;exact .cmp d hl hr h3 h4
 .rw[if_neg h2]at h
  unfold FR at h;simp only[ε,decide_eq_true_eq]at h;obtain⟨⟨⟨⟨⟨⟨⟨hl,hr⟩,rfl⟩,rfl⟩,rfl⟩,ha⟩,hd⟩,hk⟩:=h;obtain rfl:l=[]:=Ap9.1 hl;obtain rfl:r=[]:=Ap9.1 hr;have hks:∀ n:Nat,(ks.length:Int)=(n:Int)->ks.length=n:=λn h=>by omega
  unfold arI at ha
  by_cases h0:k=0
  .subst h0
   rw[if_pos rfl]at ha;obtain rfl:ks=[]:=Ap9.1 (by omega);exact .tt d
  rw[if_neg h0]at ha
  by_cases h1:k=1
  .subst h1
   rw[if_pos rfl]at ha;obtain rfl:ks=[]:=Ap9.1 (by omega);exact .ff d
  rw[if_neg h1]at ha
  by_cases h3:k=3
  .subst h3
   rw[if_pos rfl]at ha
   match ks,ha,hk with
   |[x],_,hk=>
    obtain⟨k1,k2,_⟩:=Jr hk;exact .no d k1 k2
  rw[if_neg h3]at ha;rw[decide_eq_false h3]at hk;have hb:(k=4\/k=5)/\ks.length=2:=by
   by_cases h4:k=4
   .rw[if_pos h4]at ha;exact⟨.inl h4,by omega⟩
   .rw[if_neg h4]at ha
    by_cases h5:k=5
    .rw[if_pos h5]at ha;exact⟨.inr h5,by omega⟩
    .rw[if_neg h5]at ha;omega
  match ks,hb.2,hk with
  |[x,y],_,hk=>
   obtain⟨k1,k2,hk⟩:=Jr hk;obtain⟨k3,k4,_⟩:=Jr hk;exact .bin d hb.1 k1 k2 k3 k4

section
variable {ts:List Tk}
theorem Aow(i:Nat)(x:Tr):brk 4 i x.kind=(decide (x.kind=5)||(decide (i=1)&&decide (x.kind=4))):=rfl
theorem Apb(i:Nat)(x:Tr):brk 5 i x.kind=(decide (i=1)&&decide (x.kind=5)):=rfl
theorem Apa(i:Nat)(x:Tr):brk 3 i x.kind=(decide (x.kind=4)||decide (x.kind=5)):=rfl
end
section
variable {ts:List Tk}
def Ac3(x:Tr):Nat:=(txt x).length+if x.kind=4\/x.kind=5 then 2 else 0
def Ac4(x:Tr):Nat:=(txt x).length+if x.kind=5 then 2 else 0
end
theorem AaA(b:Bool)(s:List UInt8):(brT b s).length=s.length+if b then 2 else 0:=by
 cases b with
 |false=>rfl
 |true=>
  unfold brT;rw[if_pos rfl,if_pos rfl];simp
theorem Afr(x:Tr):(brT (brk 3 0 x.kind) (txt x)).length=Ac3 x:=by
 rw[AaA,Apa];unfold Ac3
 by_cases h1:x.kind=4<;>by_cases h2:x.kind=5<;>simp[h1,h2]
theorem Ac5(x:Tr):(brT (brk 4 0 x.kind) (txt x)).length=Ac4 x:=by
 rw[AaA,Aow];unfold Ac4
 by_cases h2:x.kind=5<;>simp[h2]
theorem Ac7(x:Tr):(brT (brk 4 1 x.kind) (txt x)).length=Ac3 x:=by
 rw[AaA,Aow];unfold Ac3
 by_cases h1:x.kind=4<;>by_cases h2:x.kind=5<;>simp[h1,h2]
theorem Ac8(x:Tr):(brT (brk 5 1 x.kind) (txt x)).length=Ac4 x:=by
 rw[AaA,Apb];unfold Ac4
 by_cases h2:x.kind=5<;>simp[h2]
theorem AmQ(x:Tr):(txt (.mk 3 [] [] 0 (Ax []) (Ax []) [x])).length=1+Ac3 x:=by
 rw[txt,if_neg (by decide),if_neg (by decide),Aao]
 show ([33]++brT (brk 3 0 x.kind) (txt x)).length=_
 rw[υ,Afr];rfl
theorem Akm(x y:Tr):(txt (.mk 4 [] [] 0 (Ax []) (Ax []) [x,y])).length=Ac4 x+3+Ac3 y:=by
 rw[txt,if_neg (by decide),if_neg (by decide),Aao,Aao]
 show (brT (brk 4 0 x.kind) (txt x)++[32,38,32]++brT (brk 4 1 y.kind) (txt y)).length=_
 rw[υ,υ,Ac5,Ac7];rfl
theorem AmR(x y:Tr):(txt (.mk 5 [] [] 0 (Ax []) (Ax []) [x,y])).length=(txt x).length+3+Ac4 y:=by
 rw[txt,if_neg (by decide),if_neg (by decide),Aao,Aao]
 show (brT (brk 5 0 x.kind) (txt x)++[32,124,32]++brT (brk 5 1 y.kind) (txt y)).length=_
 rw[υ,υ,Ac8];rfl
section
open Go.RowKit
variable (A:Ar) (D:Orc)
end
structure SumF (D:Orc):Prop where
 sum:∀ ms:List Mo,O6 ms=true->D.ask (.fn 22) [.ls (ms.map IQ)] []=some (sv (Ax (LD ms)),[])
theorem Abs{m:Mo}(h:Bg m=true):m.num.size<=60/\m.var.size<=20:=by
 obtain⟨h1,h2,_⟩:=Abr h;rw[II,II];constructor
 .by_cases e:m.num=Ax []
  .rw[e];simp[Ax]
  .exact N7 (h1 e)
 .by_cases e:m.var=Ax []
  .rw[e];simp[Ax]
  .exact Lo (h2 e)
theorem WR{ms:List Mo}(h:O6 ms=true):ms.length<4611686018427387904/\∀ m∈ms,m.num.size<=9223372036854775807/\m.var.size<=9223372036854775807:=by
 obtain⟨_,h2,h3⟩:=EC h;refine⟨by omega,λm hm=>?_⟩;have:=Abs (List.all_eq_true.1 h3 m hm);omega
theorem Ta(s:ByteArray):(Ga s).1=AF (zv (Ga s).1):=by
 unfold Ga;split
 .simp only[Ay]
 .show (⟨false,[]⟩:Zi)=AF (zv ⟨false,[]⟩)
  rw[show zv (⟨false,[]⟩:Zi)=0 from rfl,LM]
theorem N8(m:Mo):InB 4000 (J7 m):=by
 unfold J7;split
 .exact InB.one (by omega)
 .exact(WC _).inb
theorem Ic(m:Mo):InB 4000 (Hd m):=by
 unfold Hd;split
 .exact(N8 m).neg
 .exact N8 m
structure OutB (i:Nat) (out:Lf):Prop where
 len:out.ps.length<=i
 ps:∀ p∈out.ps,InB 4000 p.2
 k:InB (4000+i) out.k
theorem AbK:OutB 0 OR:=⟨by simp[OR],by simp[OR],InB.zero _⟩
theorem OutB.addK{i:Nat}{out:Lf}(h:OutB i out)(m:Mo):OutB (i+1) ⟨out.ps,out.k+Hd m⟩:=⟨by have:=h.len;simp only;omega,h.ps,by
 show InB (4000+i+1) _
 exact InB.add h.k ((Ic m).mono (by omega))⟩
theorem OutB.addP{i:Nat}{out:Lf}(h:OutB i out)(m:Mo)(v:Int):OutB (i+1) ⟨out.ps++[(v,Hd m)],out.k⟩:=⟨by have:=h.len;simp;omega,λp hp=>by
 rcases Ap1.1 hp with hp|hp
 .exact h.ps p hp
 .rw[Ap4.1 hp];exact Ic m,h.k.mono (by omega)⟩
theorem GX(vars:List ByteArray):∀(ms:List Mo) (i:Nat) (out l:Lf),OutB i out->DV vars ms out=some l->OutB (i+ms.length) l
 |[],i,out,l,h,e=>by
  rw[DV]at e
  cases e
  exact h
 |m::r,i,out,l,h,e=>by
  rw[DV]at e;rw[Apw,show i+(r.length+1)=i+1+r.length by omega];split at e
  .exact GX vars r (i+1) _ l (h.addK m) e
  .split at e
   .cases e
   .exact GX vars r (i+1) _ l (h.addP m _) e
theorem KG(vars:List ByteArray)(ms:List Mo):LB 64 5000 (Ex vars ms).1:=by
 have h0:LB 64 5000 OR:=⟨by simp[OR],by simp[OR],InB.zero _⟩;unfold Ex;split
 .rename_i h
  split
  .rename_i l e
   have hl:=(EC h).2.1;have g:=GX vars ms 0 OR l AbK e;have g2:LB 64 4064 l:=⟨by have:=g.len;omega,λp hp=>(g.ps p hp).mono (by omega),g.k.mono (by omega)⟩;exact g2.pln.mono (by omega) (by omega)
  .exact h0
 .exact h0
def Aky(r0:List (List AV))(r1:Bool)(r2:List (List AV)):Option Lf->AV × List BO
 |none=>(.tup [bv true,.ptr 0 0,bv false],[.set ⟨[.ls [],bv false,.ls []],true,false⟩,.del,.del])
 |some l=>(.tup [iv 0,.ptr 0 0,.ptr 1 0],[.set ⟨[.ls r0,bv r1,.ls r2],true,false⟩,.set ⟨[.sl 3 0 (l.ps.map Bc).length 3,bv (AF l.k).neg,eN (AF l.k).abs],true,false⟩,.del,.set (G9 (l.ps.map Bc))])
section
variable {D:Orc} (Kt:Knows Al I7 D) (Kf:Knows Al Mm D) (Ks:Knows Al Fb D) (Z:ZF D) (C:PartF D) (Ko:Knows Al Mk D) (Kfe:Knows Al TG D) (Ka:Knows Al OA D) (Kta:Knows Al Gk D) (N:LexN D)
include Kfe Z Ka
theorem AfL(vars:List ByteArray)(hvl:vars.length<4611686018427387904)(ms:List Mo)(hl:ms.length<=64)(r0:List (List AV))(r1:Bool)(r2:List (List AV)):∀(k i:Nat) (out:Lf),ms.length-i=k->i<=ms.length->OutB i out->
  D.ask (.lp 44 0) [.ls (vars.map eS),.ptr 0 0,.ptr 1 0,.ls (ms.map IQ),iv (ms.length:Int),iv (i:Int)] [⟨[.ls r0,bv r1,.ls r2],true,false⟩,⟨[.sl 2 0 (out.ps.map Bc).length 3,bv (AF out.k).neg,eN (AF out.k).abs],true,false⟩,G9 (out.ps.map Bc)]=some (Aky r0 r1 r2 (DV vars (ms.drop i) out)):=by
 intro k
 induction k with
 |zero=>
  intro i out hm hi ho;rw[Apz (by omega),DV];refine Kfe.lp' AaS _ rfl (by kernel_rfl) ((Agc ..).trans ?_);exact Ah (by omega) rfl
 |succ k ih=>
  intro i out hm hi ho;have h1:i<ms.length:=by omega
  have hol:(out.ps.map Bc).length<=i:=by have:=ho.len;simpa using this
  obtain⟨T,hT⟩:∃ T,T=DV vars (ms.drop i) out:=⟨_,rfl⟩;rw[←hT];have hsg:=Ic ms[i];have hoK:=ho.addK ms[i];have hoP:=λv=>ho.addP ms[i] v
  rw[χ h1,DV]at hT;refine Kfe.lp' AaS _ rfl (by kernel_rfl) ((Agc ..).trans ?_);refine Ai (by omega) ?_;rw[Aw,Au (Φ h1)];revert hT hsg hoK hoP;generalize ms[i]=m;obtain⟨mn,mu,mv⟩:=m;intro hT hsg hoK hoP;simp only[IQ,ND,DK,Aa];simp only at hT;refine Ab (Z.of_ 1 (by omega) (by omega)) ?_;simp only[eZ,eN,ND,DK,Aa]
  by_cases hn:mu=Ax []
  .refine Da hn ?_
   have en:J7 ⟨mn,mu,mv⟩=1:=by unfold J7;rw[if_pos hn]
   cases mn with
   |true=>
    have es:Hd ⟨true,mu,mv⟩=-1:=by unfold Hd;rw[en];rfl
    rw[es]at hT hsg hoK hoP;have gn:=Z.neg (AF 1) ((InB.lz (k:=1) (by unfold InB;decide)).mono (by omega));rw[Ay]at gn;refine Ac ?_;refine Ab gn ?_;simp only[eZ,eN,ND,DK,Aa]
    by_cases hv:mv=Ax []
    .rw[if_pos hv]at hT
     have ga:=Z.add (AF out.k) (AF (-1)) (ho.k.lz.mono (by omega)) (hsg.lz.mono (by omega));rw[Ay,Ay]at ga;refine Da hv ?_;refine Ab ga ?_;simp only[eZ,eN,ND,DK,Aa];rw[A8 (by omega)];refine Ab (ih (i+1) _ (by omega) (by omega) hoK) ?_;rw[←hT];clear hT
     cases T<;>rfl
    .rw[if_neg hv]at hT
     refine(Ec hv).trans ?_;refine Ab (F5 Ka vars hvl mv) ?_;simp only[ND,DK,Aa]
     cases ev:vars.findIdx? (mv = ·) with
     |none=>
      rw[ev]at hT;have hT:T=none:=hT;rw[hT];refine Ai (show (-1:Int)<0 by omega) ?_;rfl
     |some v=>
      rw[ev]at hT;have hT:T=DV vars (ms.drop (i+1)) ⟨out.ps++[((v:Int),(-1))],out.k⟩:=hT;have hlt:=(Ap3.1 ev).1;refine Ah (show ¬ ((v:Nat):Int)<0 by omega) ?_;have hf:Bf ((out.ps.map Bc).length+1) 40=true:=AJ (by omega) (by omega);have hb1:ApA (0+(out.ps.map Bc).length*3) (Ap eP (out.ps.map Bc)).length=true:=AS Az _ (by omega);have e3:Apx 0 (ο (0+(out.ps.map Bc).length*3) (Ap eP (out.ps.map Bc)))++[iv (v:Int),bv (AF (-1)).neg,eN (AF (-1)).abs]=Ap eP ((out.ps++[((v:Int),((-1):Int))]).map Bc):=by
       rw[π,A4 Az _ (by omega),ArF];exact A6 eP (out.ps.map Bc) (Bc ((v:Int),(-1)))
      simp only[eN]at e3;rw[hf];refine Ac ?_;rw[hb1];refine Ac ?_;simp only[C1];rw[e3,A8 (by omega)];have ih2:=ih (i+1) _ (by omega) (by omega) (hoP (v:Int));rw[show ((out.ps++[((v:Int),((-1):Int))]).map Bc).length=(out.ps.map Bc).length+1 by simp]at ih2;refine Ab ih2 ?_;rw[←hT];clear hT
      cases T<;>rfl
   |false=>
    have es:Hd ⟨false,mu,mv⟩=1:=by unfold Hd;rw[en];rfl
    rw[es]at hT hsg hoK hoP;refine A1 ?_
    by_cases hv:mv=Ax []
    .rw[if_pos hv]at hT
     have ga:=Z.add (AF out.k) (AF 1) (ho.k.lz.mono (by omega)) (hsg.lz.mono (by omega));rw[Ay,Ay]at ga;refine Da hv ?_;refine Ab ga ?_;simp only[eZ,eN,ND,DK,Aa];rw[A8 (by omega)];refine Ab (ih (i+1) _ (by omega) (by omega) hoK) ?_;rw[←hT];clear hT
     cases T<;>rfl
    .rw[if_neg hv]at hT
     refine(Ec hv).trans ?_;refine Ab (F5 Ka vars hvl mv) ?_;simp only[ND,DK,Aa]
     cases ev:vars.findIdx? (mv = ·) with
     |none=>
      rw[ev]at hT;have hT:T=none:=hT;rw[hT];refine Ai (show (-1:Int)<0 by omega) ?_;rfl
     |some v=>
      rw[ev]at hT;have hT:T=DV vars (ms.drop (i+1)) ⟨out.ps++[((v:Int),1)],out.k⟩:=hT;have hlt:=(Ap3.1 ev).1;refine Ah (show ¬ ((v:Nat):Int)<0 by omega) ?_;have hf:Bf ((out.ps.map Bc).length+1) 40=true:=AJ (by omega) (by omega);have hb1:ApA (0+(out.ps.map Bc).length*3) (Ap eP (out.ps.map Bc)).length=true:=AS Az _ (by omega);have e3:Apx 0 (ο (0+(out.ps.map Bc).length*3) (Ap eP (out.ps.map Bc)))++[iv (v:Int),bv (AF 1).neg,eN (AF 1).abs]=Ap eP ((out.ps++[((v:Int),(1:Int))]).map Bc):=by
       rw[π,A4 Az _ (by omega),ArF];exact A6 eP (out.ps.map Bc) (Bc ((v:Int),1))
      simp only[eN]at e3;rw[hf];refine Ac ?_;rw[hb1];refine Ac ?_;simp only[C1];rw[e3,A8 (by omega)];have ih2:=ih (i+1) _ (by omega) (by omega) (hoP (v:Int));rw[show ((out.ps++[((v:Int),(1:Int))]).map Bc).length=(out.ps.map Bc).length+1 by simp]at ih2;refine Ab ih2 ?_;rw[←hT];clear hT
      cases T<;>rfl
  .refine(Ec hn).trans ?_
   have en:J7 ⟨mn,mu,mv⟩=zv (Ga mu).1:=by unfold J7;rw[if_neg hn]
   have gp:=Z.parse mu;have hz:=WC mu;rw[Ta mu]at gp hz;generalize zv (Ga mu).1=u at en gp hz;refine Ab gp ?_;simp only[eZ,eN,ND,DK,Aa]
   cases mn with
   |true=>
    have es:Hd ⟨true,mu,mv⟩=-u:=by unfold Hd;rw[en];rfl
    rw[es]at hT hsg hoK hoP;have gn:=Z.neg (AF u) (hz.mono (by omega));rw[Ay]at gn;refine Ac ?_;refine Ab gn ?_;simp only[eZ,eN,ND,DK,Aa]
    by_cases hv:mv=Ax []
    .rw[if_pos hv]at hT
     have ga:=Z.add (AF out.k) (AF (-u)) (ho.k.lz.mono (by omega)) (hsg.lz.mono (by omega));rw[Ay,Ay]at ga;refine Da hv ?_;refine Ab ga ?_;simp only[eZ,eN,ND,DK,Aa];rw[A8 (by omega)];refine Ab (ih (i+1) _ (by omega) (by omega) hoK) ?_;rw[←hT];clear hT
     cases T<;>rfl
    .rw[if_neg hv]at hT
     refine(Ec hv).trans ?_;refine Ab (F5 Ka vars hvl mv) ?_;simp only[ND,DK,Aa]
     cases ev:vars.findIdx? (mv = ·) with
     |none=>
      rw[ev]at hT;have hT:T=none:=hT;rw[hT];refine Ai (show (-1:Int)<0 by omega) ?_;rfl
     |some v=>
      rw[ev]at hT;have hT:T=DV vars (ms.drop (i+1)) ⟨out.ps++[((v:Int),(-u))],out.k⟩:=hT;have hlt:=(Ap3.1 ev).1;refine Ah (show ¬ ((v:Nat):Int)<0 by omega) ?_;have hf:Bf ((out.ps.map Bc).length+1) 40=true:=AJ (by omega) (by omega);have hb1:ApA (0+(out.ps.map Bc).length*3) (Ap eP (out.ps.map Bc)).length=true:=AS Az _ (by omega);have e3:Apx 0 (ο (0+(out.ps.map Bc).length*3) (Ap eP (out.ps.map Bc)))++[iv (v:Int),bv (AF (-u)).neg,eN (AF (-u)).abs]=Ap eP ((out.ps++[((v:Int),((-u):Int))]).map Bc):=by
       rw[π,A4 Az _ (by omega),ArF];exact A6 eP (out.ps.map Bc) (Bc ((v:Int),(-u)))
      simp only[eN]at e3;rw[hf];refine Ac ?_;rw[hb1];refine Ac ?_;simp only[C1];rw[e3,A8 (by omega)];have ih2:=ih (i+1) _ (by omega) (by omega) (hoP (v:Int));rw[show ((out.ps++[((v:Int),((-u):Int))]).map Bc).length=(out.ps.map Bc).length+1 by simp]at ih2;refine Ab ih2 ?_;rw[←hT];clear hT
      cases T<;>rfl
   |false=>
    have es:Hd ⟨false,mu,mv⟩=u:=by unfold Hd;rw[en];rfl
    rw[es]at hT hsg hoK hoP;refine A1 ?_
    by_cases hv:mv=Ax []
    .rw[if_pos hv]at hT
     have ga:=Z.add (AF out.k) (AF u) (ho.k.lz.mono (by omega)) (hsg.lz.mono (by omega));rw[Ay,Ay]at ga;refine Da hv ?_;refine Ab ga ?_;simp only[eZ,eN,ND,DK,Aa];rw[A8 (by omega)];refine Ab (ih (i+1) _ (by omega) (by omega) hoK) ?_;rw[←hT];clear hT
     cases T<;>rfl
    .rw[if_neg hv]at hT
     refine(Ec hv).trans ?_;refine Ab (F5 Ka vars hvl mv) ?_;simp only[ND,DK,Aa]
     cases ev:vars.findIdx? (mv = ·) with
     |none=>
      rw[ev]at hT;have hT:T=none:=hT;rw[hT];refine Ai (show (-1:Int)<0 by omega) ?_;rfl
     |some v=>
      rw[ev]at hT;have hT:T=DV vars (ms.drop (i+1)) ⟨out.ps++[((v:Int),u)],out.k⟩:=hT;have hlt:=(Ap3.1 ev).1;refine Ah (show ¬ ((v:Nat):Int)<0 by omega) ?_;have hf:Bf ((out.ps.map Bc).length+1) 40=true:=AJ (by omega) (by omega);have hb1:ApA (0+(out.ps.map Bc).length*3) (Ap eP (out.ps.map Bc)).length=true:=AS Az _ (by omega);have e3:Apx 0 (ο (0+(out.ps.map Bc).length*3) (Ap eP (out.ps.map Bc)))++[iv (v:Int),bv (AF u).neg,eN (AF u).abs]=Ap eP ((out.ps++[((v:Int),(u:Int))]).map Bc):=by
       rw[π,A4 Az _ (by omega),ArF];exact A6 eP (out.ps.map Bc) (Bc ((v:Int),u))
      simp only[eN]at e3;rw[hf];refine Ac ?_;rw[hb1];refine Ac ?_;simp only[C1];rw[e3,A8 (by omega)];have ih2:=ih (i+1) _ (by omega) (by omega) (hoP (v:Int));rw[show ((out.ps++[((v:Int),(u:Int))]).map Bc).length=(out.ps.map Bc).length+1 by simp]at ih2;refine Ab ih2 ?_;rw[←hT];clear hT
      cases T<;>rfl
include Kt Ks C Kta N in
theorem WX(vars:List ByteArray)(hvl:vars.length<4611686018427387904)(ms:List Mo)(hm:∀ m∈ms,WzM m)(hl:ms.length<4611686018427387904) :
  D.ask (.fn 44) [.ls (ms.map IQ),.ls (vars.map eS)] []=some (.tup [.agg (eT (Ex vars ms).1.tm),bv (Ex vars ms).2],[]):=by
 have gr:=FF Kta N ms hm hl;have e0:eT OR.tm=[.ls [],bv false,.ls []]:=by rw[U1];rfl
 refine Kfe.fn' AaS _ rfl ((e44 ..).trans ?_);refine Ab gr ?_;simp only[ND,DK,Aa];unfold Ex
 cases hr:O6 ms with
 |false=>
  refine A1 ?_;rw[if_neg (by simp),e0]
 |true=>
  have hlen:=(EC hr).2.1;have gl:=AfL Z Kfe Ka vars hvl ms hlen [] false [] _ 0 OR rfl (by omega) AbK;rw[π,show AF OR.k=⟨false,[]⟩ from LM]at gl;refine Ac ?_;rw[if_pos rfl,Ao];refine Ab gl ?_
  cases e:DV vars ms OR with
  |none=>
   simp only;rw[e0];rfl
  |some l=>
   have ob:=GX vars ms 0 OR l AbK e;have hT:TmB 64 4064 l.tm:=LB.tb ⟨by have:=ob.len;omega,λp hp=>(ob.ps p hp).mono (by omega),ob.k.mono (by omega)⟩;have gp:=El Kt Ks Z C hT (by omega) (by omega);rw[DN]at gp;simp only[Aky,ND,DK,Aa]
   change br _ _ _=_
   rw[show ApA (0+(l.ps.map Bc).length*3) (Ap eP (l.ps.map Bc)).length=true from AS Az _ (by omega)];refine Ac ?_;rw[Cf Az _ rfl];refine Ab gp ?_;rfl
end
theorem OF:TmB 128 30000 Y8:=by
 rw[←U1];exact LB.tb ⟨by simp[OR],by simp[OR],InB.zero _⟩
theorem K7(vars:List ByteArray):∀(n:Nat) (t:Tr) (d:Nat),SizeOf.sizeOf t<n->Cc t d=true->CanF (Cl vars t).1/\FB 128 30000 (Cl vars t).1:=by
 intro n
 induction n with
 |zero=>intro t d h;omega
 |succ n ih=>
  intro t d hn h;have z0:CanF (kF 0 [])/\FB 128 30000 (kF 0 []):=⟨.tru true,.mk OF (by simp) (by simp)⟩;have z1:CanF (MI false)/\FB 128 30000 (MI false):=⟨.tru false,.mk OF (by simp) (by simp)⟩
  cases Kz h with
  |tt=>rw[Cl,if_neg (by decide),BW];exact z0
  |ff=>rw[Cl,if_neg (by decide),BW];exact z1
  |@cmp _ l r op hl hr h1 h2=>
   rw[Cl,if_pos rfl];exact⟨ZE _ _ _,AdL (KG vars l) (KG vars r) op⟩
  |@no _ x hd hx=>
   have g:=ih x _ (by simp only[Tr.mk.sizeOf_spec,List.cons.sizeOf_spec]at hn;omega) hx;rw[Cl,if_neg (by decide),BW,BW];split
   .exact z0
   .rename_i fs e
    split at e
    .cases e
     rw[if_neg (by decide),if_pos (.inl rfl)];exact⟨.no _ g.1,.mk OF (by simp) λy hy=>by rw[Ap4.1 hy];exact g.2⟩
    .cases e
  |@bin _ k x y hk hd hx gd hy=>
   have g:=ih x _ (by simp only[Tr.mk.sizeOf_spec,List.cons.sizeOf_spec]at hn;omega) hx;have g2:=ih y _ (by simp only[Tr.mk.sizeOf_spec,List.cons.sizeOf_spec]at hn;omega) hy;rw[Cl,if_neg (by omega),BW,BW,BW];split
   .exact z0
   .rename_i fs e
    split at e
    .split at e
     .cases e
     .rename_i gs e2
      split at e2
      .cases e2
       cases e
       rw[if_neg (by omega),if_pos (by omega)];have fb:∀ z∈[(Cl vars x).1,(Cl vars y).1],FB 128 30000 z:=λz hz=>by
        rcases ApC.1 hz with rfl|hz
        .exact g.2
        .rw[Ap4.1 hz];exact g2.2
       rcases hk with rfl|rfl
       .exact⟨.and _ (.cons g.1 (.cons g2.1 .nil)),.mk OF (by simp) fb⟩
       .exact⟨.or _ (.cons g.1 (.cons g2.1 .nil)),.mk OF (by simp) fb⟩
      .cases e2
    .cases e
def Pc(t:Tr)(y0:Int)(y1:List (List AV))(y2:Bool)(y3:List (List AV))(y4:Bool)(y5:List (List AV))(out:List Fm):Option (List Fm)->AV × List BO
 |none=>(.tup [bv true,.ptr 1 0,bv false],[.del,.set ⟨eF (kF 0 []),true,false⟩,.del])
 |some fs=>(.tup [iv 0,.ptr 0 0,.ptr 1 0,.sl 3 0 (out++fs).length 6],[.set (KV t),.set ⟨[iv y0,.ls y1,bv y2,.ls y3,bv y4,.ls y5],true,false⟩,.del,.set (Δ (Ap eF (out++fs)) true true)])
section
variable {D:Orc} (Kt:Knows Al I7 D) (Kf:Knows Al Mm D) (Ks:Knows Al Fb D) (Z:ZF D) (C:PartF D) (Ko:Knows Al Mk D) (Kfe:Knows Al TG D) (Ka:Knows Al OA D) (Kta:Knows Al Gk D) (N:LexN D)
include Kfe
theorem Ad5(vars:List ByteArray)(t:Tr)(ks:List Tr)(hl:ks.length<=2)(g:∀ x∈ks,D.ask (.fn 65) [.agg (B7 x),.ls (vars.map eS)] []=some (.tup [.agg (eF (Cl vars x).1),bv (Cl vars x).2],[]))(y0:Int)(y1:List (List AV))(y2:Bool)(y3:List (List AV))(y4:Bool)(y5:List (List AV)):∀(k i:Nat) (out:List Fm),ks.length-i=k->i<=ks.length->out.length<=i->
  D.ask (.lp 65 0) [.ls (vars.map eS),.ptr 0 0,.ptr 1 0,.sl 2 0 out.length 6,.ls (ks.map B7),iv (ks.length:Int),iv (i:Int)] [KV t,⟨[iv y0,.ls y1,bv y2,.ls y3,bv y4,.ls y5],true,false⟩,Δ (Ap eF out) true true]=some (Pc t y0 y1 y2 y3 y4 y5 out (BW vars (ks.drop i))):=by
 intro k
 induction k with
 |zero=>
  intro i out hm hi ho;rw[Apz (by omega),BW];obtain⟨a1,a2,a3,a4,a5,a6,a7⟩:=t;refine Kfe.lp' XP _ rfl (by kernel_rfl) ((Age ..).trans ?_);refine Ah (by omega) ?_;simp only[Pc,Aqx];rfl
 |succ k ih=>
  intro i out hm hi ho;have h1:i<ks.length:=by omega
  have gx:=g ks[i] (ApG h1);have ih:=λy=>ih (i+1) (out++[y]) (by omega) (by omega) (by simp;omega)
  have e3:∀ y,Apx 0 (ο (0+out.length*6) (Ap eF out))++eF y=Ap eF (out++[y]):=λy=>by
   rw[π,A4 EV out (by omega)];exact A6 eF out _
  obtain⟨T,hT⟩:∃ T,T=BW vars (ks.drop i):=⟨_,rfl⟩;rw[←hT];rw[χ h1,BW]at hT;obtain⟨a1,a2,a3,a4,a5,a6,a7⟩:=t;refine Kfe.lp' XP _ rfl (by kernel_rfl) ((Age ..).trans ?_);refine Ai (by omega) ?_;rw[Aw,Au (Φ h1)];revert gx hT;generalize ks[i]=x;intro gx hT;generalize Cl vars x=q at gx hT;obtain⟨y,b⟩:=q;have ih:=ih y;have e3:=e3 y;obtain⟨xk,xl,xr,xo,xp,xq,xs⟩:=x;obtain⟨yk,yt,ye,ys⟩:=y;simp only[B7,eF,eN,ND,DK,Aa]at gx e3 ⊢;refine Ab gx ?_;simp only[ND,DK,Aa]
  cases b with
  |false=>
   have hT:T=none:=hT;rw[hT];refine Ac ?_;simp only[Pc,kF,eF];rfl
  |true=>
   have hT:T=(match BW vars (ks.drop (i+1)) with
    |none=>none
    |some fs=>some (Fm.mk yk yt ye ys::fs)):=hT
   refine A1 ?_;rw[show Bf (out.length+1) 96=true from AJ (by omega) (by omega)];refine Ac ?_;rw[show ApA (0+out.length*6) (Ap eF out).length=true from AS EV out (by omega)];refine Ac ?_;rw[e3,A8 (by omega)];rw[show (out++[Fm.mk yk yt ye ys]).length=out.length+1 by simp]at ih;unfold KV at ih;rw[B7]at ih;refine Ab ih ?_
   cases e:BW vars (ks.drop (i+1)) with
   |none=>
    rw[e]at hT;rw[hT];rfl
   |some fs=>
    rw[e]at hT;rw[hT];simp only[Pc,ApZ,Arh,KV,B7];rfl
include Kt Kf Ks Z C Ko Ka Kta N in
theorem Ad6(vars:List ByteArray)(hvl:vars.length<4611686018427387904):∀(n:Nat) (t:Tr) (d:Nat),SizeOf.sizeOf t<n->Cc t d=true->D.ask (.fn 65) [.agg (B7 t),.ls (vars.map eS)] []=some (.tup [.agg (eF (Cl vars t).1),bv (Cl vars t).2],[]):=by
 intro n
 induction n with
 |zero=>intro t d h;omega
 |succ n ih=>
  intro t d hn h
  have fin:∀(k:Int) (ks:List Tr),ks.length<=2->t=.mk k [] [] 0 (Ax []) (Ax []) ks->(∀ x∈ks,∃ d,SizeOf.sizeOf x<n/\Cc x d=true)->(k=0/\ks=[]\/k=1/\ks=[]\/(k=3/\ks.length=1)\/k=4\/k=5)->D.ask (.fn 65) [.agg (B7 t),.ls (vars.map eS)] []=some (.tup [.agg (eF (Cl vars t).1),bv (Cl vars t).2],[]):=by
   intro k ks hl ht hx hk;have gl:=Ad5 Kfe vars t ks hl (λx hm=>by
    obtain⟨d,h1,h2⟩:=hx x hm;exact ih x d h1 h2) 0 [] false [] false [] _ 0 [] rfl (by omega) (by simp)
   rw[π]at gl;have hgood:∀ fs,BW vars ks=some fs->fs.map BK=fs/\∀ y∈fs,FB 128 30000 y:=by
    clear gl ht hk hl;intro fs
    induction ks generalizing fs with
    |nil=>intro e;rw[BW]at e;cases e;exact⟨rfl,by simp⟩
    |cons x r ihr=>
     intro e;rw[BW]at e;split at e
     .split at e
      .cases e
      .rename_i gs e2
       cases e
       obtain⟨d,h1,h2⟩:=hx x (List.mem_cons_self ..);have g:=K7 vars _ x d (Aqe _) h2;obtain⟨g1,g2⟩:=ihr (λy hy=>hx y (ApM _ hy)) gs e2;refine⟨by rw[List.map_cons,g.1.clone,g1],λy hy=>?_⟩;rcases ApC.1 hy with rfl|hy
       .exact g.2
       .exact g2 y hy
     .cases e
   have hfl:∀ fs,BW vars ks=some fs->fs.length=ks.length:=by
    clear gl ht hk hl hgood;intro fs
    induction ks generalizing fs with
    |nil=>intro e;rw[BW]at e;cases e;rfl
    |cons x r ihr=>
     intro e;rw[BW]at e;split at e
     .split at e
      .cases e
      .rename_i gs e2
       cases e
       rw[Apw,Apw,ihr (λy hy=>hx y (ApM _ hy)) gs e2]
     .cases e
   subst ht;have hk2:k≠2:=by omega
   unfold KV at gl;rw[B7,BQ]at gl;refine Kfe.fn' XP _ rfl ((e65 ..).trans ?_);refine Am hk2 ?_;rw[BQ,Ao];rw[Cl,if_neg hk2];refine Ab gl ?_
   cases e:BW vars ks with
   |none=>
    simp only[Pc,kF,eF];rfl
   |some fs=>
    obtain⟨g1,g2⟩:=hgood fs e;have g3:=hfl fs e;have hch:Bp ([]++fs).length 6 (ο (([]++fs).length*6) (Ap eF ([]++fs)))=fs.map eF:=by
     rw[ApU];exact Cf EV fs rfl
    have hble:ApA (0+([]++fs).length*6) (Ap eF ([]++fs)).length=true:=by
     rw[ApU];exact AS EV fs (by omega)
    have hb:KV (.mk k [] [] 0 (Ax []) (Ax []) ks)=Δ [iv k,.ls ([]:List (List AV)),.ls ([]:List (List AV)),iv 0,sv (Ax []),sv (Ax []),.ls (ks.map B7)] true false:=by
     unfold KV;rw[B7,BQ];rfl
    simp only[Pc];rw[hb];simp only[ND,DK,Aa]
    by_cases h0:k=0
    .rw[if_pos h0]
     refine Av h0 ?_;refine Ab (Gl Ko true) ?_;rfl
    rw[if_neg h0];refine Am h0 ?_
    by_cases h3:k=3
    .rw[if_pos (.inl h3)]
     refine Av h3 ?_;have hl1:fs.length=1:=by
      rw[g3];rcases hk with h|h|h|h|h
      .omega
      .omega
      .exact h.2
      .omega
      .omega
     match fs,hl1,g1,g2 with
     |[y],_,g1,g2=>
      have gd:=VS Kt Ks Z C Ko (n:=128) (k:=30000) (by omega) (by omega) (g2 y (List.mem_singleton_self _));have g1:BK y=y:=by simpa using g1
      rw[g1]at gd;refine Ac ?_;refine(Bn EV [y] 0 (by simp) _).trans ?_;rw[h3]
      show _=some (AV.tup [AV.agg (eF (kF 3 [y])),bv true],[])
      have e0:([y]:List Fm)[0]=y:=rfl;rw[e0];obtain⟨yk,yt,ye,ys⟩:=y;simp only[eF,eN,ND,DK,Aa]at gd ⊢;refine Ab gd ?_;unfold kF;rw[eF,eFs,eFs,eF];rfl
    refine Am h3 ?_
    by_cases h4:k=4
    .rw[if_pos (.inr (.inl h4)),h4]
     have ga:=Adh Kt Ks Z C Ko (n:=128) (k:=30000) (by omega) (by omega) (l:=fs) (by omega) g2;rw[g1]at ga;refine Av rfl ?_;rw[hble];refine Ac ?_;rw[hch];refine Ab ga ?_;unfold kF;rw[eF];rfl
    refine Am h4 ?_
    by_cases h5:k=5
    .rw[if_pos (.inr (.inr h5)),h5]
     have ga:=AdC Kt Ks Z C Ko (n:=128) (k:=30000) (by omega) (by omega) (l:=fs) (by omega) g2;rw[g1]at ga;refine Av rfl ?_;rw[hble];refine Ac ?_;rw[hch];refine Ab ga ?_;unfold kF;rw[eF];rfl
    rw[if_neg (by omega)];refine Am h5 ?_;refine Ab (Gl Ko false) ?_;rfl
  cases Kz h with
  |tt=>exact fin 0 [] (by simp) rfl (by simp) (.inl ⟨rfl,rfl⟩)
  |ff=>exact fin 1 [] (by simp) rfl (by simp) (.inr (.inl ⟨rfl,rfl⟩))
  |@no _ x hd hx=>
   exact fin 3 [x] (by simp) rfl (λy hy=>by
    rw[Ap4.1 hy];exact⟨_,by simp only[Tr.mk.sizeOf_spec,List.cons.sizeOf_spec]at hn;omega,hx⟩) (.inr (.inr (.inl ⟨rfl,rfl⟩)))
  |@bin _ k x y hk hd hx gd hy=>
   exact fin k [x,y] (by simp) rfl (λz hz=>by
    simp only[Tr.mk.sizeOf_spec,List.cons.sizeOf_spec]at hn;rcases ApC.1 hz with rfl|hz
    .exact⟨_,by omega,hx⟩
    .rw[Ap4.1 hz]
     exact⟨_,by omega,hy⟩) (by omega)
  |@cmp _ l r op hl hr h1 h2=>
   have gl:=WX Kt Ks Z C Kfe Ka Kta N vars hvl l (WR hl).2 (WR hl).1;have gr:=WX Kt Ks Z C Kfe Ka Kta N vars hvl r (WR hr).2 (WR hr).1;have gc:=AdM Kt Kf Ks Z C Ko (KG vars l).tb (KG vars r).tb op;rw[DN,DN]at gc;rw[Cl,if_pos rfl];refine Kfe.fn' XP _ rfl ((e65 ..).trans ?_);refine Av rfl ?_;refine Ab gl ?_;simp only[eT,eN,ND,DK,Aa];refine Ab gr ?_;simp only[eT,eN,ND,DK,Aa];refine Ab gc ?_;generalize OZ op (Ex vars l).1 (Ex vars r).1=y;obtain⟨yk,yt,ye,ys⟩:=y;rw[eF]
   cases (Ex vars l).2<;>cases (Ex vars r).2<;>rfl
def Fv(vars:List ByteArray)(t:Tr):Fm × Bool:=if Cc t 0&&(Cl vars t).2 then((Cl vars t).1,true) else(MI false,false)
include Kt Kf Ks Z C Ko Ka Kta N in
theorem Ac9(vars:List ByteArray)(hvl:vars.length<4611686018427387904)(t:Tr)(hz:WzT t):D.ask (.fn 27) [.agg (B7 t),.ls (vars.map eS)] []=some (.tup [.agg (eF (Fv vars t).1),bv (Fv vars t).2],[]):=by
 have gr:=Zg Kta N t hz;have gf:=λh=>Ad6 Kt Kf Ks Z C Ko Kfe Ka Kta N vars hvl _ t 0 (Aqe _) h
 have gt:=Gl Ko false;unfold Fv;obtain⟨q,hq⟩:∃ q,q=Cl vars t:=⟨_,rfl⟩;rw[←hq]at gf ⊢;obtain⟨f,b⟩:=q;obtain⟨fk,ft,fe,fs⟩:=f;obtain⟨tk,tl,tr,to,tp,tq,ts⟩:=t;refine Kfe.fn' AkY _ rfl ((e27 ..).trans ?_)
 cases hr:Cc (.mk tk tl tr to tp tq ts) 0 with
 |false=>
  rw[hr]at gr;simp only[B7,eN,ND,DK,Aa]at gr ⊢;refine Ab gr ?_;simp only[ND,DK,Aa];refine Ab gt ?_;rfl
 |true=>
  rw[hr]at gr;have gf:=gf hr;simp only[B7,eF,eN,ND,DK,Aa]at gr gf ⊢;refine Ab gr ?_;simp only[ND,DK,Aa];refine Ab gf ?_;simp only[ND,DK,Aa]
  cases b with
  |true=>
   refine A1 ?_;simp only[Bool.and_self,if_true];rw[eF];rfl
  |false=>
   refine Ac ?_;refine Ab gt ?_;rfl
end
structure Pr where
 name:ByteArray
 locs:List ByteArray
 cmds:List (List AV)
def Y9(p:Pr):List AV:=[sv p.name,.ls (p.locs.map eS),.ls p.cmds]
def lmk(k:Int)(ks:List Tr):Tr:=.mk k [] [] 0 (Ax []) (Ax []) ks
structure Sy where
 vars:List ByteArray
 s2:List (List AV)
 s3:Int
 s4:List (List AV)
 s5:Bool
 s6:List (List AV)
 s7:Bool
 s8:List (List AV)
 ps:List Pr
 s10:List (List AV)
def Jm(y:Sy):List AV:=[.ls (y.vars.map eS),.ls y.s2,iv y.s3,.ls y.s4,bv y.s5,.ls y.s6,bv y.s7,.ls y.s8,.ls (y.ps.map Y9),.ls y.s10]
structure PreT (ts:List Tk):Prop where
 sg:∀ i,(nx ts i).text=[33]\/(nx ts i).text=[40]->(nx ts i).kind=2
 bg:∀ i,(nx ts i).text=[88]\/(nx ts i).text=[71]\/(nx ts i).text=[70]->(nx ts i).kind=4
theorem MR(s:ByteArray):(eS s).length=1:=rfl
structure Pp where
 here:Bool
 proc:Int
 loc:Int
 f:Fm
def IR(p:Pp):List AV:=bv p.here::iv p.proc::iv p.loc::eF p.f
theorem JU(p:Pp):(IR p).length=9:=by
 unfold IR;rw[Apw,Apw,Apw,EV]
inductive Rf where
 |mk (kind num:Int) (kids:List Rf)
mutual
def eG:Rf->List AV
 |.mk k n ks=>[iv k,iv n,.ls (eGs ks)]
def eGs:List Rf->List (List AV)
 |[]=>[]
 |x::r=>eG x::eGs r
end
theorem MQ:∀ l,eGs l=l.map eG
 |[]=>rfl
 |x::r=>by simp[eGs,MQ r]
theorem K4(x:Rf):(eG x).length=3:=by
 obtain⟨k,n,ks⟩:=x;rw[eG];rfl
structure PpOk (p:Pp):Prop where
 can:CanF p.f
 fb:FB 128 30000 p.f
def E9(p q:Pp):Bool:=p.here == q.here&&decide (p.proc=q.proc)&&decide (p.loc=q.loc)&&VV p.f q.f
theorem Yx{p q:Pp}(hp:CanF p.f)(hq:CanF q.f):E9 p q=true ↔ p=q:=by
 obtain⟨a,b,c,f⟩:=p;obtain⟨a',b',c',f'⟩:=q;unfold E9;simp only[ε,decide_eq_true_eq,beq_iff_eq,Pp.mk.injEq];rw[AdX hp hq];constructor
 .rintro⟨⟨⟨h1,h2⟩,h3⟩,h4⟩
  exact⟨h1,h2,h3,h4⟩
 .rintro⟨h1,h2,h3,h4⟩
  exact⟨⟨⟨h1,h2⟩,h3⟩,h4⟩
def F0:Fm:=MI true
def P0:Pp:=⟨false,0,0,F0⟩
theorem Akt:FB 128 30000 F0:=by
 refine .mk ?_ (by simp) (by simp);refine⟨by simp[Y8],by simp[Y8],?_⟩;exact⟨BM,by simp[Y8]⟩
theorem Af3{h:Bool}{a b:Int}:PpOk ⟨h,a,b,F0⟩:=⟨CanF.tru true,Akt⟩
def E2(y:Sy)(p q:ByteArray):Pp × Bool:=match (y.ps.map (·.name)).findIdx? (p = ·) with
 |none=>(P0,false)
 |some i=>(⟨true,(i:Int),C1 (((y.ps[i]?.map (·.locs)).getD []).findIdx? (q = ·)),F0⟩,decide (0<=C1 (((y.ps[i]?.map (·.locs)).getD []).findIdx? (q = ·))))
def Cz(y:Sy):Tr->Pp × Bool
 |.mk k l r op p q ks=>if k=6 then E2 y p q else(⟨false,0,0,(Fv y.vars (.mk k l r op p q ks)).1⟩,(Fv y.vars (.mk k l r op p q ks)).2)
theorem UJ(vars:List ByteArray)(t:Tr):CanF (Fv vars t).1/\FB 128 30000 (Fv vars t).1:=by
 unfold Fv;split
 .rename_i h
  exact K7 vars _ t 0 (Aqe _) (by simp only[ε]at h;exact h.1)
 .refine⟨.tru false,.mk ?_ (by simp) (by simp)⟩
  exact⟨by simp[Y8],by simp[Y8],⟨BM,by simp[Y8]⟩⟩
theorem Na(y:Sy)(t:Tr):PpOk (Cz y t).1:=by
 obtain⟨k,l,r,op,p,q,ks⟩:=t;rw[Cz];split
 .unfold E2
  split
  .exact Af3
  .exact Af3
 .have h:=UJ y.vars (.mk k l r op p q ks)
  exact⟨h.1,h.2⟩
def Vc(ps:List Pp)(p:Pp):Int:=match ps.findIdx? (E9 p) with
 |some i=>(i:Int)
 |none=>(ps.length:Int)
def IN(ps:List Pp)(p:Pp):List Pp:=match ps.findIdx? (E9 p) with
 |some _=>ps
 |none=>ps++[p]
mutual
def C2(y:Sy):Tr->List Pp->Option Rf × List Pp
 |.mk k l r op p q ks,ps=>if k=2\/k=6 then(if(Cz y (.mk k l r op p q ks)).2=true then(some (.mk 2 (Vc ps (Cz y (.mk k l r op p q ks)).1) []),IN ps (Cz y (.mk k l r op p q ks)).1) else(none,ps)) else((CE y ks ps).1.map (.mk k 0),(CE y ks ps).2)
def CE(y:Sy):List Tr->List Pp->Option (List Rf) × List Pp
 |[],ps=>(some [],ps)
 |x::r,ps=>match (C2 y x ps).1 with
  |none=>(none,(C2 y x ps).2)
  |some f=>((CE y r (C2 y x ps).2).1.map (f::·),(CE y r (C2 y x ps).2).2)
end
theorem MX(y:Sy)(k:Int)(l r:List Mo)(op:Int)(p q:ByteArray)(ks:List Tr)(ps:List Pp):C2 y (.mk k l r op p q ks) ps=if k=2\/k=6 then(if(Cz y (.mk k l r op p q ks)).2=true then(some (.mk 2 (Vc ps (Cz y (.mk k l r op p q ks)).1) []),IN ps (Cz y (.mk k l r op p q ks)).1) else(none,ps)) else((CE y ks ps).1.map (.mk k 0),(CE y ks ps).2):=by
 rw[C2]
theorem JC(y:Sy)(x:Tr)(r:List Tr)(ps:List Pp):CE y (x::r) ps=match (C2 y x ps).1 with
  |none=>(none,(C2 y x ps).2)
  |some f=>((CE y r (C2 y x ps).2).1.map (f::·),(CE y r (C2 y x ps).2).2):=by
 rw[CE]
mutual
def GL:Tr->Nat
 |.mk _ _ _ _ _ _ ks=>G6 ks+1
def G6:List Tr->Nat
 |[]=>0
 |x::r=>GL x+G6 r
end
theorem Zk(ps:List Pp)(p:Pp):(IN ps p).length<=ps.length+1:=by
 unfold IN;split<;>simp
theorem Adc{ps:List Pp}{p:Pp}(h:∀ x∈ps,PpOk x)(hp:PpOk p):∀ x∈IN ps p,PpOk x:=by
 unfold IN;split
 .exact h
 .intro x hx
  rcases Ap1.1 hx with hx|hx
  .exact h x hx
  .rcases Ap4.1 hx with rfl
   exact hp
mutual
theorem Ge(y:Sy):∀(t:Tr) (ps:List Pp),(∀ x∈ps,PpOk x)->(C2 y t ps).2.length<=ps.length+GL t/\∀ x∈(C2 y t ps).2,PpOk x
 |.mk k l r op p q ks,ps,h=>by
  rw[MX,GL];split
  .split
   .have:=Zk ps (Cz y (.mk k l r op p q ks)).1
    exact⟨by show (IN _ _).length<=_;omega,Adc h (Na y _)⟩
   .exact⟨by show ps.length<=_;omega,h⟩
  .have g:=Ok y ks ps h
   exact⟨by show (CE y ks ps).2.length<=_;omega,g.2⟩
theorem Ok(y:Sy):∀(ks:List Tr) (ps:List Pp),(∀ x∈ps,PpOk x)->(CE y ks ps).2.length<=ps.length+G6 ks/\∀ x∈(CE y ks ps).2,PpOk x
 |[],ps,h=>⟨by rw[CE];simp[G6],by rw[CE];exact h⟩
 |x::r,ps,h=>by
  have g1:=Ge y x ps h;have g2:=Ok y r (C2 y x ps).2 g1.2;rw[JC,G6];split
  .exact⟨by show (C2 y x ps).2.length<=_;omega,g1.2⟩
  .exact⟨by show (CE y r (C2 y x ps).2).2.length<=_;omega,g2.2⟩
end
def F8(k:Int):Int:=if k=0 then 0 else if k=1 then 0 else if k=2 then 0 else if k=6 then 0 else if k=3 then 1 else if k=8 then 1 else if k=9 then 1 else if k=10 then 1 else if k=4 then 2 else if k=5 then 2 else if k=7 then 2 else if k=11 then 2 else if k=12 then 2 else -1
def OE(k:Int):Int:=if k=7 then 1 else if k=5 then 2 else if k=4 then 3 else if k=11 then 4 else if k=12 then 4 else 5
def Ll(p:Int)(i:Nat)(k:Int):Bool:=if F8 p=1 then decide (OE k<5) else if OE p=OE k then((decide (OE p=1)||decide (OE p=4)) == decide (i=0)) else decide (OE k<OE p)
def SS:Tr->Bool
 |.mk k l r op p q ks=>if k=2 then Nm (.mk k l r op p q ks) else if k=6 then decide (l.length=0)&&decide (r.length=0)&&decide (op=0)&&Ds p.data.toList&&Ds q.data.toList else FR (.mk k l r op p q ks)
mutual
def B2:Tr->Nat->Bool
 |.mk k l r op p q ks,d=>if(ks.length:Int)=F8 k then(if F8 k=0 then SS (.mk k l r op p q ks) else decide (IV (decide (F8 k=1)) d<=60)&&FR (.mk k l r op p q ks)&&Er k (IV (decide (F8 k=1)) d) 0 ks) else false
def Er(k:Int)(d:Nat):Nat->List Tr->Bool
 |_,[]=>true
 |i,x::r=>(decide (IV (Ll k i x.kind) d<=60)&&B2 x (IV (Ll k i x.kind) d))&&Er k d (i+1) r
end
inductive WzP:Tr->Prop where
 |mk {k:Int} {l r:List Mo} {op:Int} {p q:ByteArray} {ks:List Tr} (zp:p.size<=9223372036854775807) (zq:q.size<=9223372036854775807) (h:∀ x∈ks,WzP x):WzP (.mk k l r op p q ks)
theorem Aa4(c:Prop)[Decidable c](a b:Int):(if c then some (iv a,([]:List BO)) else some (iv b,[]))=some (iv (if c then a else b),[]):=by
 by_cases h:c
 .rw[if_pos h,if_pos h]
 .rw[if_neg h,if_neg h]
section
variable {D:Orc}
variable (K:Knows Al WW D)
include K
theorem PJ(k:Int):D.ask (.fn 132) [iv k] []=some (iv (F8 k),[]):=by
 refine K.fn' AgC _ rfl ((Anf ..).trans ?_);unfold F8;simp only[Kg,G2,decide_eq_true_eq,Aa4]
theorem PM(k:Int):D.ask (.fn 194) [iv k] []=some (iv (OE k),[]):=by
 refine K.fn' AgY _ rfl ((AnM ..).trans ?_);unfold OE;simp only[Kg,G2,decide_eq_true_eq,Aa4]
theorem O2(p:Int)(i:Nat)(t:Tr):D.ask (.fn 134) [iv p,iv (i:Int),.agg (B7 t)] []=some (bv (Ll p i t.kind),[]):=by
 obtain⟨k,l,r,op,q,v,ks⟩:=t;refine K.fn' AgE _ rfl ((Anh ..).trans ?_);refine Ab (PM K p) ?_;simp only[ND,DK,Aa];refine Ab (PM K k) ?_;simp only[ND,DK,Aa];refine Ab (PJ K p) ?_;simp only[ND,DK,Aa];unfold Ll Tr.kind;have e1:Af.beq true true=true:=rfl;have e2:Af.beq true false=false:=rfl;have e3:Af.beq false true=false:=rfl;have e4:Af.beq false false=true:=rfl;simp only[Kg,O5,G2,decide_eq_true_eq,e1,e2,e3,e4,ci0];generalize OE p=a;generalize OE k=b
 by_cases h1:F8 p=1
 .by_cases h2:b<5<;>simp[h1,h2]
 .by_cases h2:a=b
  .by_cases h3:a=1
   .by_cases h5:i=0<;>simp_all
   .by_cases h4:a=4<;>by_cases h5:i=0<;>simp_all
  .by_cases h3:b<a<;>simp[h1,h2,h3]
theorem X6(t:Tr)(d:Nat)(hd:d<=60)(ks:List Tr)(hk:ks.length<4611686018427387904)(g:∀ x∈ks,∀ d:Nat,d<=60->D.ask (.fn 74) [.agg (B7 x),iv (d:Int)] []=some (bv (B2 x d),[])):∀(n i:Nat),ks.length-i=n->
  D.ask (.lp 74 0) [iv (d:Int),.ptr 0 0,.ls (ks.map B7),iv (ks.length:Int),iv (i:Int)] [KV t]=some (if Er t.kind d i (ks.drop i) then .tup [iv 0] else .tup [bv true,bv false],[.del]):=by
 intro n;obtain⟨k,l,r,op,p,q,kz⟩:=t
 induction n with
 |zero=>
  intro i hi;refine K.lp' AaV _ rfl (by kernel_rfl) ((Agg ..).trans ?_);rw[show ks.drop i=[] from Apz (by omega)];refine Ah (by omega) ?_;rfl
 |succ n ih=>
  intro i hi;have hlt:i<ks.length:=by omega
  have ih:=ih (i+1) (by omega);rw[show ks.drop i=ks[i]::ks.drop (i+1) from χ hlt];have gx:=g ks[i] (ApG hlt);have hb:=O2 K k i ks[i];refine K.lp' AaV _ rfl (by kernel_rfl) ((Agg ..).trans ?_);refine Ai (by omega) ?_;rw[Aw,Au (Φ hlt)];revert gx hb;generalize ks[i]=x;obtain⟨xk,xl,xr,xo,xp,xq,xs⟩:=x;intro gx hb;unfold Er Tr.kind;unfold Tr.kind at hb ih;simp only[B7,ND,DK,Aa];refine Ab hb ?_;simp only[ND,DK,Aa];have tl:∀(b:Bool),(if b=true then Er k d (i+1) (ks.drop (i+1))=true else False)->True:=λ_ _=>trivial
  cases hbk:Ll k i xk with
  |true=>
   refine Ac ?_;rw[A8 (by omega)]
   by_cases h60:d+1<=60
   .refine Ah (by omega) ?_
    refine Ab (gx (d+1) h60) ?_;simp only[ND,DK,Aa];rw[show IV true d=d+1 from rfl,decide_eq_true h60,ApP]
    cases B2 (.mk xk xl xr xo xp xq xs) (d+1) with
    |false=>rfl
    |true=>
     refine Ac ?_;rw[A8 (by omega)];refine Ab ih ?_;rw[ApP]
     cases Er k d (i+1) (ks.drop (i+1))<;>rfl
   .refine Ai (by omega) ?_
    rw[show IV true d=d+1 from rfl,decide_eq_false h60,Aqp,Aqp];rfl
  |false=>
   refine A1 ?_;refine Ah (by omega) ?_;refine Ab (gx d hd) ?_;simp only[ND,DK,Aa];rw[show IV false d=d from rfl,decide_eq_true hd,ApP]
   cases B2 (.mk xk xl xr xo xp xq xs) d with
   |false=>rfl
   |true=>
    refine Ac ?_;rw[A8 (by omega)];refine Ab ih ?_;rw[ApP]
    cases Er k d (i+1) (ks.drop (i+1))<;>rfl
theorem Abj(Kt:Knows Al Gk D)(L:LexN D)(t:Tr)(hz:WzT t)(hp:WzP t):D.ask (.fn 133) [.agg (B7 t)] []=some (bv (SS t),[]):=by
 have gb:=QB Kt t;have gc:=OH Kt L t hz;obtain⟨k,l,r,op,p,q,ks⟩:=t;obtain⟨z1,z2,_⟩:=hp;have gp:=L.name p z1;have gq:=L.name q z2;refine K.fn' AgD _ rfl ((Ang ..).trans ?_);rw[SS];rw[Ao,Ao];simp only[B7]at gb gc
 by_cases h2:k=2
 .refine Av h2 ?_
  refine Ab gc ?_;rw[if_pos h2]
  cases Nm (.mk k l r op p q ks)<;>rfl
 .refine Am h2 ?_
  rw[if_neg h2]
  by_cases h6:k=6
  .refine Av h6 ?_
   rw[if_pos h6]
   by_cases h3:l.length=0
   .refine Av (by omega) ?_
    by_cases h4:r.length=0
    .refine Av (by omega) ?_
     by_cases h5:op=0
     .refine Av h5 ?_
      refine Ab gp ?_;simp only[ND,DK,Aa];rw[decide_eq_true h3,decide_eq_true h4,decide_eq_true h5]
      cases Ds p.data.toList with
      |false=>rfl
      |true=>
       refine Ac ?_;refine Ab gq ?_
       cases Ds q.data.toList<;>rfl
     .refine Am h5 ?_
      simp[h5]
    .refine Am (by omega) ?_
     simp[h4]
   .refine Am (by omega) ?_
    simp[h3]
  .refine Am h6 ?_
   rw[if_neg h6];refine Ab gb ?_
   cases FR (.mk k l r op p q ks)<;>rfl
theorem X7(Kt:Knows Al Gk D)(L:LexN D):∀(n:Nat) (t:Tr),SizeOf.sizeOf t<n->WzT t->WzP t->∀ d:Nat,d<=60->D.ask (.fn 74) [.agg (B7 t),iv (d:Int)] []=some (bv (B2 t d),[]):=by
 intro n
 induction n with
 |zero=>intro t h;omega
 |succ n ih=>
  intro t ht hz hp d hd;have gb:=QB Kt t;have gl:=Abj K Kt L t hz hp;obtain⟨k,l,r,op,p,q,ks⟩:=t;obtain⟨hl,hr,hk,zl,zr,hx⟩:=hz;obtain⟨_,_,hy⟩:=hp;have ga:=PJ K k;have gk:∀ x∈ks,∀ d:Nat,d<=60->D.ask (.fn 74) [.agg (B7 x),iv (d:Int)] []=some (bv (B2 x d),[]):=λx hm d hd=>ih x (by
   have h1:=NT hm;simp only[Tr.mk.sizeOf_spec]at ht;omega) (hx x hm) (hy x hm) d hd
  have glp:=λ(d:Nat) (hd:d<=60)=>X6 K (.mk k l r op p q ks) d hd ks hk gk _ 0 rfl
  simp only[π,Tr.kind,KV,B7]at glp;refine K.fn' AaV _ rfl ((e74 ..).trans ?_);rw[B2];rw[BQ]at glp ⊢;rw[Ao];simp only[B7,BQ]at gb gl;refine Ab ga ?_;simp only[ND,DK,Aa]
  by_cases h4:(ks.length:Int)=F8 k
  .refine Av h4 ?_
   rw[if_pos h4]
   by_cases h0:F8 k=0
   .refine Av h0 ?_
    rw[if_pos h0];refine Ab gl ?_
    cases SS (.mk k l r op p q ks)<;>rfl
   .refine Am h0 ?_
    rw[if_neg h0]
    by_cases h1:F8 k=1
    .refine Av h1 ?_
     rw[decide_eq_true h1,A8 (by omega)]
     by_cases h60:d+1<=60
     .refine Ah (by omega) ?_
      rw[show IV true d=d+1 from rfl,decide_eq_true h60,ApP];refine Ab gb ?_;simp only[ND,DK,Aa]
      cases FR (.mk k l r op p q ks) with
      |false=>rfl
      |true=>
       refine Ac ?_;refine Ab (glp (d+1) h60) ?_;rw[ApP]
       cases Er k (d+1) 0 ks<;>rfl
     .refine Ai (by omega) ?_
      rw[show IV true d=d+1 from rfl,decide_eq_false h60,Aqp,Aqp]
    .refine Am h1 ?_
     rw[decide_eq_false h1];refine Ah (by omega) ?_;rw[show IV false d=d from rfl,decide_eq_true hd,ApP];refine Ab gb ?_;simp only[ND,DK,Aa]
     cases FR (.mk k l r op p q ks) with
     |false=>rfl
     |true=>
      refine Ac ?_;refine Ab (glp d hd) ?_;rw[ApP]
      cases Er k d 0 ks<;>rfl
  .refine Am h4 ?_
   rw[if_neg h4]
theorem XX(Kt:Knows Al Gk D)(L:LexN D)(t:Tr)(hz:WzT t)(hp:WzP t):D.ask (.fn 36) [.agg (B7 t)] []=some (bv (B2 t 0),[]):=by
 have g:=X7 K Kt L _ t (Aqe _) hz hp 0 (by omega);obtain⟨k,l,r,op,p,q,ks⟩:=t;refine K.fn' Ak1 _ rfl ((e36 ..).trans ?_);refine Ab g ?_;simp only[ND,DK,Aa]
 cases B2 (.mk k l r op p q ks) 0<;>rfl
end
structure ResF (D:Orc):Prop where
 form:∀(vars:List ByteArray) (t:Tr),vars.length<4611686018427387904->WzT t->D.ask (.fn 27) [.agg (B7 t),.ls (vars.map eS)] []=some (.tup [.agg (eF (Fv vars t).1),bv (Fv vars t).2],[])
 same:∀ x y:Fm,CanF x->CanF y->FB 128 30000 x->FB 128 30000 y->D.ask (.fn 233) [.agg (eF x),.agg (eF y)] []=some (bv (VV x y),[])
 index:∀(xs:List ByteArray) (s:ByteArray),xs.length<4611686018427387904->D.ask (.fn 88) [.ls (xs.map eS),sv s] []=some (iv (C1 (xs.findIdx? (s = ·))),[])
 procs:∀ y:Sy,y.ps.length<=1000000->D.ask (.fn 232) [.agg (Jm y)] []=some (.ls ((y.ps.map (·.name)).map eS),[])
 right:∀ t:Tr,WzT t->WzP t->D.ask (.fn 36) [.agg (B7 t)] []=some (bv (B2 t 0),[])
def WK(y:Sy)(b n:Nat):ABlk:=Δ (Jm y++[.sl b 0 n 9]) true false
def rbN(y:Sy):ABlk:=Δ (Jm y++[.v (.slice none 0 0)]) true false
def I4(ps:List Pp):ABlk:=Δ (Ap IR ps) true true
def Xm(p:Pp):ABlk:=Δ (IR p) true false
theorem CF(h:Bool)(a b k:Int)(t:Tm)(e:Bool)(ks:List Fm):IR ⟨h,a,b,.mk k t e ks⟩=[bv h,iv a,iv b,iv k,.ls (t.ps.map eP),bv t.k.neg,eN t.k.abs,bv e,.ls (eFs ks)]:=by
 unfold IR;rw[eF]
section
variable {D:Orc} (K:Knows E0 OC D) (R:ResF D)
include K R
theorem Acj{p q:Pp}(hp:PpOk p)(hq:PpOk q):D.ask (.fn 191) [.agg (IR p),.agg (IR q)] []=some (bv (E9 p q),[]):=by
 have g:=R.same p.f q.f hp.can hq.can hp.fb hq.fb;obtain⟨a,b,c,f⟩:=p;obtain⟨a',b',c',f'⟩:=q;obtain⟨k,t,e,ks⟩:=f;obtain⟨k',t',e',ks'⟩:=f';simp only[CF,eF,eN]at g ⊢;unfold E9;refine K.fn' AgX _ rfl ((AnL ..).trans ?_)
 by_cases h1:a=a'
 .subst h1
  rw[show Af.beq a a=true by cases a<;>rfl];refine Ac ?_
  by_cases h2:b=b'
  .refine Av h2 ?_
   by_cases h3:c=c'
   .refine Av h3 ?_
    refine Ab g ?_;simp only[ND,DK,Aa];rw[beq_self_eq_true,decide_eq_true h2,decide_eq_true h3,ApP,ApP,ApP]
    cases VV (.mk k t e ks) (.mk k' t' e' ks')<;>rfl
   .refine Am h3 ?_
    rw[decide_eq_false h3];simp
  .refine Am h2 ?_
   rw[decide_eq_false h2];simp
 .rw[show Af.beq a a'=false by cases a<;>cases a'<;>first|rfl|exact absurd rfl h1]
  refine A1 ?_;rw[show (a == a')=false by cases a<;>cases a'<;>first|rfl|exact absurd rfl h1];rfl
theorem Ae4{p q:Pp}(hp:PpOk p)(hq:PpOk q):D.ask (.fn 190) [.agg (IR q),.ptr 0 0] [Xm p]=some (bv (E9 p q),[.keep]):=by
 have g:=Acj K R hp hq;obtain⟨a,b,c,f⟩:=p;obtain⟨a',b',c',f'⟩:=q;obtain⟨k,t,e,ks⟩:=f;obtain⟨k',t',e',ks'⟩:=f';unfold Xm;simp only[CF,eN]at g ⊢;refine K.fn' AgW _ rfl ((AnK ..).trans ?_);refine Ab g ?_;simp only[ND,DK,Aa]
 cases E9 ⟨a,b,c,.mk k t e ks⟩ ⟨a',b',c',.mk k' t' e' ks'⟩<;>rfl
def fnQ(b:Nat):AV:=.fn (.func 190) [] [.ptr b 0]
theorem Aeh{ps:List Pp}{p:Pp}(hl:ps.length<=1000000)(hps:∀ x∈ps,PpOk x)(hp:PpOk p):∀(m i:Nat),ps.length-i=m->i<=ps.length->D.ask (.lp 189 0) [.sl 0 0 ps.length 9,fnQ 1,iv (ps.length:Int),iv (i:Int)] [I4 ps,Xm p]
   = some (match (ps.drop i).findIdx? (E9 p) with|some j=>.tup [bv true,.sl 0 0 ps.length 9,iv ((i+j:Nat):Int)] | none=>.tup [iv 0,.sl 0 0 ps.length 9],[.set (I4 ps),.keep]):=by
 intro m
 induction m with
 |zero=>
  intro i hm hi;rw[Apz (by omega)];obtain⟨a,b,c,k,t,e,ks⟩:=p;unfold Xm I4 fnQ;rw[CF];refine K.lp' Sv _ rfl (by kernel_rfl) ((VT ..).trans ?_);exact Ah (by omega) rfl
 |succ m ih=>
  intro i hm hi;have h1:i<ps.length:=by omega
  have g:=Ae4 K R hp (hps _ (ApG h1));have ih:=ih (i+1) (by omega) (by omega);rw[χ h1,List.findIdx?_cons];have r1:=λk:List AV->KR=>Bn JU ps i h1 k
  revert g r1;generalize ps[i]=q;intro g r1;obtain⟨a,b,c,f⟩:=p;obtain⟨k,t,e,ks⟩:=f;obtain⟨a',b',c',f'⟩:=q;obtain⟨k',t',e',ks'⟩:=f';unfold Xm I4 fnQ at *;simp only[CF,eN]at g ih r1 ⊢;refine K.lp' Sv _ rfl (by kernel_rfl) ((VT ..).trans ?_);refine Ai (by omega) ?_;rw[Aw,A0 h1];refine Ac ?_;refine(r1 _).trans ?_;simp only[ND,DK,Aa];refine Ab g ?_;simp only[ND,DK,Aa]
  cases E9 ⟨a,b,c,.mk k t e ks⟩ ⟨a',b',c',.mk k' t' e' ks'⟩ with
  |true=>
   refine Ac ?_;rfl
  |false=>
   refine A1 ?_;rw[A8 (by omega)];refine Ab ih ?_;simp only[Bool.false_eq_true,if_false]
   cases h:(ps.drop (i+1)).findIdx? (E9 ⟨a,b,c,.mk k t e ks⟩) with
   |none=>rfl
   |some j=>
    simp only[ApI,show i+(j+1)=i+1+j by omega];rfl
def AoP:Option Nat->Int
 |some j=>(j:Int)
 |none=>-1
theorem Aei{ps:List Pp}{p:Pp}(hl:ps.length<=1000000)(hps:∀ x∈ps,PpOk x)(hp:PpOk p):D.ask (.fn 189) [.sl 0 0 ps.length 9,fnQ 1] [I4 ps,Xm p]=some (iv (AoP (ps.findIdx? (E9 p))),[.set (I4 ps),.keep]):=by
 have g:=Aeh K R hl hps hp _ 0 rfl (by omega);rw[π]at g;obtain⟨a,b,c,f⟩:=p;obtain⟨k,t,e,ks⟩:=f;unfold Xm I4 fnQ at *;simp only[CF,eN]at g ⊢;refine K.fn' Sv _ rfl ((AkN ..).trans ?_);refine Ab g ?_
 cases ps.findIdx? (E9 ⟨a,b,c,.mk k t e ks⟩) with
 |none=>rfl
 |some j=>
  simp only[ApN];rfl
theorem Aa1(p:Pp):D.ask (.fn 189) [.v (.slice none 0 0),fnQ 0] [Xm p]=some (iv (-1),[.keep]):=by
 have g:D.ask (.lp 189 0) [.v (.slice none 0 0),fnQ 0,iv 0,iv 0] [Xm p]=some (.tup [iv 0,.v (.slice none 0 0)],[.keep]):=by
  obtain⟨a,b,c,f⟩:=p;obtain⟨k,t,e,ks⟩:=f;unfold Xm fnQ;simp only[CF,eN];refine K.lp' Q5 _ rfl (by kernel_rfl) ((AdU ..).trans ?_);exact Ah (by omega) rfl
 obtain⟨a,b,c,f⟩:=p;obtain⟨k,t,e,ks⟩:=f;unfold Xm fnQ at *;simp only[CF,eN]at g ⊢;refine K.fn' Q5 _ rfl ((AkM ..).trans ?_);refine Ab g ?_;rfl
end
theorem BY(y:Sy)(b n:Nat):WK y b n=Δ [.ls (y.vars.map eS),.ls y.s2,iv y.s3,.ls y.s4,bv y.s5,.ls y.s6,bv y.s7,.ls y.s8,.ls (y.ps.map Y9),.ls y.s10,.sl b 0 n 9] true false:=rfl
theorem Oe(y:Sy):rbN y=Δ [.ls (y.vars.map eS),.ls y.s2,iv y.s3,.ls y.s4,bv y.s5,.ls y.s6,bv y.s7,.ls y.s8,.ls (y.ps.map Y9),.ls y.s10,.v (.slice none 0 0)] true false:=rfl
structure SyB (y:Sy):Prop where
 vars:y.vars.length<4611686018427387904
 ps:y.ps.length<=1000000
 locs:∀ p∈y.ps,p.locs.length<4611686018427387904
theorem Zj(h:Bool)(a b:Int):IR ⟨h,a,b,F0⟩=[bv h,iv a,iv b,iv 0,.ls [],bv false,.ls [],bv false,.ls []]:=rfl
section
variable {D:Orc} (K:Knows E0 OC D) (R:ResF D)
include K R
theorem AbE(y:Sy){ps:List Pp}{p:Pp}(hl:ps.length<=1000000)(hps:∀ x∈ps,PpOk x)(hp:PpOk p):D.ask (.fn 130) [.ptr 0 0,.agg (IR p)] [WK y 1 ps.length,I4 ps]=some (iv (Vc ps p),[.set (WK y 2 (IN ps p).length),.del,.set (I4 (IN ps p))]):=by
 have g:=Aei K R hl hps hp;have hf:Bf (ps.length+1) 120=true:=AJ (by omega) (by omega);have hb1:ApA (0+ps.length*9) (Ap IR ps).length=true:=AS JU ps (by omega);have e3:Apx 0 (ο (0+ps.length*9) (Ap IR ps))++IR p=Ap IR (ps++[p]):=by
  rw[π,A4 JU ps (by omega)];exact A6 IR ps _
 unfold Vc IN;revert g e3;generalize ps.findIdx? (E9 p)=o;intro g e3;obtain⟨a,b,c,f⟩:=p;obtain⟨k,t,e,ks⟩:=f;rw[BY,BY];unfold Xm I4 fnQ at *;simp only[CF,eN]at g e3 ⊢;refine K.fn' AaQ _ rfl ((AkI ..).trans ?_);refine Ab g ?_;simp only[ND,DK,Aa]
 cases o with
 |none=>
  refine Ai (by show (-1:Int)<0;decide) ?_;rw[hf];refine Ac ?_;rw[hb1];refine Ac ?_;rw[e3,υ];rfl
 |some j=>
  refine Ah (by show ¬ (j:Int)<0;omega) ?_;rfl
theorem AbD(y:Sy)(p:Pp):D.ask (.fn 130) [.ptr 0 0,.agg (IR p)] [rbN y]=some (iv (Vc [] p),[.set (WK y 1 (IN [] p).length),.set (I4 (IN [] p))]):=by
 have g:=Aa1 K R p;obtain⟨a,b,c,f⟩:=p;obtain⟨k,t,e,ks⟩:=f;rw[BY,Oe];unfold Xm I4 fnQ at *;simp only[CF,eN]at g ⊢;refine K.fn' AaP _ rfl ((AkH ..).trans ?_);refine Ab g ?_;simp only[ND,DK,Aa];refine Ai (by decide) ?_
 show _=some (iv 0,[BO.set (Δ _ true false),BO.set (Δ (Ap IR [⟨a,b,c,.mk k t e ks⟩]) true true)])
 rw[show Ap IR [⟨a,b,c,.mk k t e ks⟩]=IR ⟨a,b,c,.mk k t e ks⟩ by simp[Ap],CF];rfl
theorem Afa{y:Sy}(B:SyB y)(k:Int)(l r:List Mo)(op:Int)(p q:ByteArray)(ks:List Tr)(n:Nat)(c:List AV):D.ask (.fn 188) [.ptr 0 0,.agg (B7 (.mk k l r op p q ks))] [WK y 1 n,Δ c true true]=some (.tup [.agg (IR (E2 y p q).1),bv (E2 y p q).2],[.keep,.keep]):=by
 have g1:=R.procs y B.ps;have g2:=R.index (y.ps.map (·.name)) p (by rw[ApO];have:=B.ps;omega);rw[show Jm y=[.ls (y.vars.map eS),.ls y.s2,iv y.s3,.ls y.s4,bv y.s5,.ls y.s6,bv y.s7,.ls y.s8,.ls (y.ps.map Y9),.ls y.s10] from rfl]at g1;rw[BY];rw[B7];refine K.fn' VZ _ rfl ((AkL ..).trans ?_);refine Ab g1 ?_;simp only[ND,DK,Aa];refine Ab g2 ?_;simp only[ND,DK,Aa];unfold E2
 cases h:(y.ps.map (·.name)).findIdx? (p = ·) with
 |none=>
  refine Ai (by show (-1:Int)<0;decide) ?_;rfl
 |some i=>
  obtain⟨hi,_⟩:=Ap3.1 h;rw[ApO]at hi;refine Ah (by show ¬ (i:Int)<0;omega) ?_
  show unI (i:Int) _=_
  rw[Aw,Au (Φ hi)];have g3:=R.index y.ps[i].locs q (B.locs _ (ApG hi));simp only[Φ hi,ApI,AqX];revert g3;generalize y.ps[i]=pr;intro g3;obtain⟨nm,lc,cm⟩:=pr;simp only[Y9,ND,DK,Aa];refine Ab g3 ?_;simp only[ND,DK,Aa,Zj]
  by_cases h0:(0:Int)<=C1 (lc.findIdx? (q = ·))
  .refine Cn h0 ?_
   rw[decide_eq_true h0];rfl
  .refine Cv h0 ?_
   rw[decide_eq_false h0];rfl
theorem Ae9{y:Sy}(B:SyB y)(k:Int)(l r:List Mo)(op:Int)(p q:ByteArray)(ks:List Tr):D.ask (.fn 188) [.ptr 0 0,.agg (B7 (.mk k l r op p q ks))] [rbN y]=some (.tup [.agg (IR (E2 y p q).1),bv (E2 y p q).2],[.keep]):=by
 have g1:=R.procs y B.ps;have g2:=R.index (y.ps.map (·.name)) p (by rw[ApO];have:=B.ps;omega);rw[show Jm y=[.ls (y.vars.map eS),.ls y.s2,iv y.s3,.ls y.s4,bv y.s5,.ls y.s6,bv y.s7,.ls y.s8,.ls (y.ps.map Y9),.ls y.s10] from rfl]at g1;rw[Oe];rw[B7];refine K.fn' VZ _ rfl ((AkK ..).trans ?_);refine Ab g1 ?_;simp only[ND,DK,Aa];refine Ab g2 ?_;simp only[ND,DK,Aa];unfold E2
 cases h:(y.ps.map (·.name)).findIdx? (p = ·) with
 |none=>
  refine Ai (by show (-1:Int)<0;decide) ?_;rfl
 |some i=>
  obtain⟨hi,_⟩:=Ap3.1 h;rw[ApO]at hi;refine Ah (by show ¬ (i:Int)<0;omega) ?_
  show unI (i:Int) _=_
  rw[Aw,Au (Φ hi)];have g3:=R.index y.ps[i].locs q (B.locs _ (ApG hi));simp only[Φ hi,ApI,AqX];revert g3;generalize y.ps[i]=pr;intro g3;obtain⟨nm,lc,cm⟩:=pr;simp only[Y9,ND,DK,Aa];refine Ab g3 ?_;simp only[ND,DK,Aa,Zj]
  by_cases h0:(0:Int)<=C1 (lc.findIdx? (q = ·))
  .refine Cn h0 ?_
   rw[decide_eq_true h0];rfl
  .refine Cv h0 ?_
   rw[decide_eq_false h0];rfl
theorem AiR{y:Sy}(B:SyB y)(t:Tr)(hz:WzT t)(n:Nat)(c:List AV):D.ask (.fn 129) [.ptr 0 0,.agg (B7 t)] [WK y 1 n,Δ c true true]=some (.tup [.agg (IR (Cz y t).1),bv (Cz y t).2],[.keep,.keep]):=by
 have gf:=R.form y.vars t B.vars hz;obtain⟨k,l,r,op,p,q,ks⟩:=t;have gp:=Afa K R B k l r op p q ks n c;rw[Cz];rw[BY]at gp ⊢;rw[B7]at gp gf ⊢;refine K.fn' AaO _ rfl ((AkG ..).trans ?_)
 by_cases h:k=6
 .refine Av h ?_
  rw[if_pos h];refine Ab gp ?_;generalize E2 y p q=x;obtain⟨⟨a,b,c,k',t',e',ks'⟩,z⟩:=x;simp only[CF,ND,DK,Aa];rfl
 .refine Am h ?_
  rw[if_neg h];refine Ab gf ?_;generalize Fv y.vars (.mk k l r op p q ks)=x;obtain⟨⟨k',t',e',ks'⟩,z⟩:=x;simp only[eF,eN,CF,ND,DK,Aa]
theorem AiQ{y:Sy}(B:SyB y)(t:Tr)(hz:WzT t):D.ask (.fn 129) [.ptr 0 0,.agg (B7 t)] [rbN y]=some (.tup [.agg (IR (Cz y t).1),bv (Cz y t).2],[.keep]):=by
 have gf:=R.form y.vars t B.vars hz;obtain⟨k,l,r,op,p,q,ks⟩:=t;have gp:=Ae9 K R B k l r op p q ks;rw[Cz];rw[Oe]at gp ⊢;rw[B7]at gp gf ⊢;refine K.fn' AaN _ rfl ((AkF ..).trans ?_)
 by_cases h:k=6
 .refine Av h ?_
  rw[if_pos h];refine Ab gp ?_;generalize E2 y p q=x;obtain⟨⟨a,b,c,k',t',e',ks'⟩,z⟩:=x;simp only[CF,ND,DK,Aa];rfl
 .refine Am h ?_
  rw[if_neg h];refine Ab gf ?_;generalize Fv y.vars (.mk k l r op p q ks)=x;obtain⟨⟨k',t',e',ks'⟩,z⟩:=x;simp only[eF,eN,CF,ND,DK,Aa]
end
def My:Option Rf->AV
 |some f=>.tup [.agg (eG f),bv true]
 |none=>.tup [.agg [iv 0,iv 0,.ls []],bv false]
def VN:ABlk:=Δ [iv 0,iv 0,.ls []] true false
def kbx(k:Int)(b n:Nat):ABlk:=Δ [iv k,iv 0,.sl b 0 n 3] true false
def rwG(l:List Rf):ABlk:=Δ (Ap eG l) true true
def rqA(y:Sy)(k:Int)(out:List Rf)(ps:List Pp):Option (List Rf)->AV × List BO
 |none=>(.tup [bv true,.ptr 0 0,.ptr 1 0,bv false],[.set (WK y 5 ps.length),.set VN,.del,.del,.del,.set (I4 ps)])
 |some fs=>(.tup [iv 0,.ptr 0 0,.ptr 1 0,.ptr 2 0],[.set (WK y 5 ps.length),.set VN,.set (kbx k 6 (out++fs).length),.del,.del,.set (I4 ps),.set (rwG (out++fs))])
theorem Lp:∀ l:List Tr,l.length<=G6 l
 |[]=>Nat.zero_le _
 |x::r=>by
  have:=Lp r;have h:1<=GL x:=by
   obtain⟨k,a,b,c,d,e,ks⟩:=x;rw[GL];omega
  rw[G6,Apw];omega
section
variable {D:Orc} (K:Knows E0 OC D) (R:ResF D)
include K
theorem Ab1{y:Sy}(ks:List Tr)(k:Int)(hk:ks.length<=1000000)(g:∀ x∈ks,∀ ps:List Pp,(∀ p∈ps,PpOk p)->ps.length+GL x<=1000000->D.ask (.fn 72) [.ptr 0 0,.agg (B7 x)] [WK y 1 ps.length,I4 ps]=some (My (C2 y x ps).1,[.set (WK y 2 (C2 y x ps).2.length),.del,.set (I4 (C2 y x ps).2)])):∀(m i:Nat) (ps:List Pp) (out:List Rf),ks.length-i=m->i<=ks.length->out.length<=i->(∀ p∈ps,PpOk p)->ps.length+G6 (ks.drop i)<=1000000->
  D.ask (.lp 72 0) [.ptr 0 0,.ptr 1 0,.ptr 2 0,.ls (ks.map B7),iv (ks.length:Int),iv (i:Int)] [WK y 3 ps.length,VN,kbx k 4 out.length,I4 ps,rwG out]=some (rqA y k out (CE y (ks.drop i) ps).2 (CE y (ks.drop i) ps).1):=by
 intro m
 induction m with
 |zero=>
  intro i ps out hm hi ho hp hn;rw[Apz (by omega),CE]
  show _=some (rqA y k out ps (some []))
  unfold rqA;simp only[Aqx];unfold VN kbx I4 rwG;rw[BY,BY];refine K.lp' SH _ rfl (by kernel_rfl) ((Aan ..).trans ?_);exact Ah (by omega) rfl
 |succ m ih=>
  intro i ps out hm hi ho hp hn;have h1:i<ks.length:=by omega
  rw[χ h1,G6]at hn;rw[χ h1,JC];have gx:=g ks[i] (ApG h1) ps hp (by omega);have gq:=Ge y ks[i] ps hp;have hf:Bf (out.length+1) 40=true:=AJ (by omega) (by omega);have hb1:ApA (0+out.length*3) (Ap eG out).length=true:=AS K4 out (by omega);have ih:=λf=>ih (i+1) (C2 y ks[i] ps).2 (out++[f]) (by omega) (by omega) (by simp;omega) gq.2 (by omega)
  unfold VN kbx I4 rwG at *;rw[BY];refine K.lp' SH _ rfl (by kernel_rfl) ((Aan ..).trans ?_);refine Ai (by omega) ?_;rw[Aw,Au (Φ h1)];rw[BY,BY]at gx;revert gx ih;generalize C2 y ks[i] ps=q;generalize ks[i]=x;intro gx ih;obtain⟨o,qs⟩:=q;obtain⟨xk,xl,xr,xo,xp,xq,xs⟩:=x;simp only[B7,ND,DK,Aa]at gx ⊢;refine Ab gx ?_
  cases o with
  |none=>
   simp only[My,ND,DK,Aa];refine Ac ?_;unfold rqA VN I4;rw[BY]
  |some f=>
   have e3:Apx 0 (ο (0+out.length*3) (Ap eG out))++eG f=Ap eG (out++[f]):=by
    rw[π,A4 K4 out (by omega)];exact A6 eG out _
   have ih:=ih f;rw[show (out++[f]).length=out.length+1 by simp]at ih;dsimp only at ih;revert e3 ih;generalize (CE y (ks.drop (i+1)) qs)=z;intro e3 ih;obtain⟨zo,zs⟩:=z;obtain⟨fk,fn,fks⟩:=f;simp only[My,eG,ND,DK,Aa]at e3 ⊢;refine A1 ?_;rw[hf];refine Ac ?_;rw[hb1];refine Ac ?_;rw[e3,A8 (by omega)];rw[BY]at ih;refine Ab ih ?_
   cases zo with
   |none=>
    unfold rqA VN I4;rw[BY];rfl
   |some fs=>
    unfold rqA VN I4 rwG kbx;rw[BY];simp only[ApI,Arh,ApZ];rfl
include R
theorem AmE{y:Sy}(B:SyB y):∀(N:Nat) (t:Tr),SizeOf.sizeOf t<N->WzT t->∀ ps:List Pp,(∀ p∈ps,PpOk p)->ps.length+GL t<=1000000->D.ask (.fn 72) [.ptr 0 0,.agg (B7 t)] [WK y 1 ps.length,I4 ps]=some (My (C2 y t ps).1,[.set (WK y 2 (C2 y t ps).2.length),.del,.set (I4 (C2 y t ps).2)]):=by
 intro N
 induction N with
 |zero=>intro t h;omega
 |succ N ih=>
  intro t hN hz ps hp hn;have gatom:=AiR K R B t hz ps.length (Ap IR ps);have gnum:=AbE K R y (by omega) hp (Na y t);obtain⟨k,l,r,op,p,q,ks⟩:=t;have hks:ks.length<=1000000:=by
   have:=Lp ks;rw[GL]at hn;omega
  have wk:∀ x∈ks,WzT x:=by
   cases hz with
   |mk _ _ _ _ _ h=>exact h
  rw[GL]at hn;have gl:=Ab1 K ks k hks (λx hx ps' hp' hn'=>ih x (by have:=List.sizeOf_lt_of_mem hx;simp only[Tr.mk.sizeOf_spec]at hN;omega) (wk x hx) ps' hp' hn') _ 0 ps [] rfl (by omega) (by simp) hp (by rw[π];omega);rw[π,AqL]at gl;rw[MX];rw[B7,BQ]at gatom ⊢;unfold I4 rwG kbx VN at *;rw[BY]at gatom gnum gl ⊢;refine K.fn' SH _ rfl ((Aot ..).trans ?_)
  by_cases h2:k=2
  .refine Av h2 ?_
   rw[if_pos (.inl h2)];refine Ab gatom ?_;revert gnum gatom;generalize Cz y (.mk k l r op p q ks)=a at *;intro gatom gnum;obtain⟨⟨a1,a2,a3,k',t',e',ks'⟩,z⟩:=a;simp only[CF,eN]at gnum ⊢;simp only[ND,DK,Aa]
   cases z with
   |false=>
    refine Ac ?_;rw[if_neg Arq];rfl
   |true=>
    refine A1 ?_;rw[if_pos rfl];refine Ab gnum ?_;rw[BY];simp only[ND,DK,Aa];rw[My,eG,eGs]
    skip
  .refine Am h2 ?_
   by_cases h6:k=6
   .refine Av h6 ?_
    rw[if_pos (.inr h6)];refine Ab gatom ?_;revert gnum gatom;generalize Cz y (.mk k l r op p q ks)=a at *;intro gatom gnum;obtain⟨⟨a1,a2,a3,k',t',e',ks'⟩,z⟩:=a;simp only[CF,eN]at gnum ⊢;simp only[ND,DK,Aa]
    cases z with
    |false=>
     refine Ac ?_;rw[if_neg Arq];rfl
    |true=>
     refine A1 ?_;rw[if_pos rfl];refine Ab gnum ?_;rw[BY];simp only[ND,DK,Aa];rw[My,eG,eGs]
     skip
   .refine Am h6 ?_
    rw[if_neg (by omega)];rw[Ao];refine Ab gl ?_;generalize CE y ks ps=z;obtain⟨zo,zs⟩:=z
    cases zo with
    |none=>
     simp only[BY,VN,I4,ND,DK,Aa];rfl
    |some fs=>
     have hb1:ApA (0+fs.length*3) (Ap eG fs).length=true:=AS K4 fs (by omega);simp only[BY,VN,I4,rwG,kbx,ApU,ND,DK,Aa];rw[hb1];refine Ac ?_;rw[Cf K4 fs rfl];simp only[ApI,My];rw[eG,MQ]
theorem AmD{y:Sy}(B:SyB y)(t:Tr)(hz:WzT t)(hn:GL t<=1000000):D.ask (.fn 72) [.ptr 0 0,.agg (B7 t)] [rbN y]=some (My (C2 y t []).1,if(t.kind=2\/t.kind=6)/\(C2 y t []).1.isNone=true then [.set (rbN y)] else [.set (WK y 1 (C2 y t []).2.length),.set (I4 (C2 y t []).2)]):=by
 have gatom:=AiQ K R B t hz;have gnum:=AbD K R y (Cz y t).1;have wk:∀ x∈(match t with | .mk _ _ _ _ _ _ ks=>ks),WzT x:=by
  cases hz with
  |mk _ _ _ _ _ h=>exact h
 obtain⟨k,l,r,op,p,q,ks⟩:=t;have hks:ks.length<=1000000:=by
  have:=Lp ks;rw[GL]at hn;omega
 rw[GL]at hn;have gl:=Ab1 K (y:=y) ks k hks (λx hx ps' hp' hn'=>AmE K R B _ x (Aqe _) (wk x hx) ps' hp' hn') _ 0 [] [] rfl (by omega) (by simp) (by simp) (by rw[π];simp;omega);rw[π,AqL]at gl;rw[MX];rw[B7,BQ]at gatom ⊢;unfold I4 rwG kbx VN at *;rw[Oe]at gatom gnum ⊢;rw[BY]at gl;refine K.fn' Ahl _ rfl ((Aos ..).trans ?_)
 by_cases h2:k=2
 .refine Av h2 ?_
  rw[if_pos (.inl h2)];refine Ab gatom ?_;revert gnum gatom;generalize Cz y (.mk k l r op p q ks)=a at *;intro gatom gnum;obtain⟨⟨a1,a2,a3,k',t',e',ks'⟩,z⟩:=a;simp only[CF,eN]at gnum ⊢;simp only[ND,DK,Aa]
  cases z with
  |false=>
   refine Ac ?_;rw[if_neg Arq];rw[if_pos ⟨.inl h2,rfl⟩];rfl
  |true=>
   refine A1 ?_;rw[if_pos rfl];refine Ab gnum ?_;rw[BY];simp only[ND,DK,Aa];rw[My,eG,eGs];rw[if_neg (by simp)]
 .refine Am h2 ?_
  by_cases h6:k=6
  .refine Av h6 ?_
   rw[if_pos (.inr h6)];refine Ab gatom ?_;revert gnum gatom;generalize Cz y (.mk k l r op p q ks)=a at *;intro gatom gnum;obtain⟨⟨a1,a2,a3,k',t',e',ks'⟩,z⟩:=a;simp only[CF,eN]at gnum ⊢;simp only[ND,DK,Aa]
   cases z with
   |false=>
    refine Ac ?_;rw[if_neg Arq];rw[if_pos ⟨.inr h6,rfl⟩];rfl
   |true=>
    refine A1 ?_;rw[if_pos rfl];refine Ab gnum ?_;rw[BY];simp only[ND,DK,Aa];rw[My,eG,eGs];rw[if_neg (by simp)]
  .refine Am h6 ?_
   rw[if_neg (by omega),if_neg (λh=>h.1.elim h2 h6)];rw[Ao];refine Ab gl ?_;generalize CE y ks []=z;obtain⟨zo,zs⟩:=z
   cases zo with
   |none=>
    simp only[BY,VN,I4,ND,DK,Aa];rfl
   |some fs=>
    have hb1:ApA (0+fs.length*3) (Ap eG fs).length=true:=AS K4 fs (by omega);simp only[BY,VN,I4,rwG,kbx,ApU,ND,DK,Aa];rw[hb1];refine Ac ?_;rw[Cf K4 fs rfl];simp only[ApI,My];rw[eG,MQ]
end
def Lu(y:Sy)(t:Tr):Option (Rf × List Pp):=if B2 t 0=true then(C2 y t []).1.map λf=>(f,(C2 y t []).2) else none
def Tl:Option (Rf × List Pp)->AV
 |some (f,ps)=>.tup [.agg (eG f),.ls (ps.map IR),bv true]
 |none=>.tup [.agg [iv 0,iv 0,.ls []],.ls [],bv false]
section
variable {D:Orc} (K:Knows E0 OC D) (R:ResF D)
include K R
theorem T7{y:Sy}(B:SyB y)(t:Tr)(hz:WzT t)(hp:WzP t)(hn:GL t<=1000000):D.ask (.fn 34) [.agg (B7 t),.agg (Jm y)] []=some (Tl (Lu y t),[]):=by
 have gr:=R.right t hz hp;have gn:=AmD K R B t hz hn;unfold Lu;rw[Oe]at gn;rw[show Jm y=[.ls (y.vars.map eS),.ls y.s2,iv y.s3,.ls y.s4,bv y.s5,.ls y.s6,bv y.s7,.ls y.s8,.ls (y.ps.map Y9),.ls y.s10] from rfl];revert gn gr;generalize hk:t.kind=kk;generalize B2 t 0=b;generalize C2 y t []=z;obtain⟨k,l,r,op,p,q,ks⟩:=t;obtain⟨zo,zs⟩:=z;intro gr gn;rw[B7]at gn gr ⊢
 by_cases h:(kk=2\/kk=6)/\zo.isNone=true
 .rw[if_pos h]at gn
  refine K.fn' Ahk _ rfl ((Aop ..).trans ?_);refine Ab gr ?_;simp only[ND,DK,Aa]
  cases b with
  |false=>exact A1 rfl
  |true=>
   refine Ac ?_;refine Ab gn ?_
   cases zo with
   |some f=>exact absurd h.2 (by simp)
   |none=>rfl
 .rw[if_neg h]at gn
  refine K.fn' Ak0 _ rfl ((Aoq ..).trans ?_);refine Ab gr ?_;simp only[ND,DK,Aa]
  cases b with
  |false=>exact A1 rfl
  |true=>
   refine Ac ?_;refine Ab gn ?_
   cases zo with
   |none=>
    rw[BY];rfl
   |some f=>
    have hb1:ApA (0+zs.length*9) (Ap IR zs).length=true:=AS JU zs (by omega);obtain⟨fk,fn,fks⟩:=f;rw[BY];simp only[My,I4,eG,ND,DK,Aa];refine A1 ?_;rw[hb1];refine Ac ?_;rw[Cf JU zs rfl];simp only[if_true,ApI];rw[Tl,eG]
end

theorem Hw{k:Int}{d i:Nat}{x:Tr}{r:List Tr}(h:Er k d i (x::r)=true):IV (Ll k i x.kind) d<=60/\B2 x (IV (Ll k i x.kind) d)=true/\Er k d (i+1) r=true:=by
 rw[Er]at h;simp only[ε,decide_eq_true_eq]at h;exact⟨h.1.1,h.1.2,h.2⟩
inductive ShapeL:Tr->Nat->Prop where
 |tt (d:Nat):ShapeL (.mk 0 [] [] 0 (Ax []) (Ax []) []) d
 |ff (d:Nat):ShapeL (.mk 1 [] [] 0 (Ax []) (Ax []) []) d
 |cmp (d:Nat) {l r:List Mo} {op:Int} (hl:O6 l=true) (hr:O6 r=true) (h1:0<=op) (h2:op<=5):ShapeL (.mk 2 l r op (Ax []) (Ax []) []) d
 |at(d:Nat) {p q:ByteArray} (hp:Ds p.data.toList=true) (hq:Ds q.data.toList=true):ShapeL (.mk 6 [] [] 0 p q []) d
 |one (d:Nat) {k:Int} {x:Tr} (hk:F8 k=1) (hd:IV (Ll k 0 x.kind) (d+1)<=60) (h:B2 x (IV (Ll k 0 x.kind) (d+1))=true):ShapeL (.mk k [] [] 0 (Ax []) (Ax []) [x]) d
 |two (d:Nat) {k:Int} {x y:Tr} (hk:F8 k=2) (hd:IV (Ll k 0 x.kind) d<=60) (h:B2 x (IV (Ll k 0 x.kind) d)=true) (gd:IV (Ll k 1 y.kind) d<=60) (g:B2 y (IV (Ll k 1 y.kind) d)=true):ShapeL (.mk k [] [] 0 (Ax []) (Ax []) [x,y]) d
theorem Js(k:Int):(F8 k=0/\(k=0\/k=1\/k=2\/k=6))\/(F8 k=1/\(k=3\/k=8\/k=9\/k=10))\/(F8 k=2/\(k=4\/k=5\/k=7\/k=11\/k=12))\/F8 k=-1:=by
 unfold F8
 by_cases h0:k=0;· simp[h0]
 by_cases h1:k=1;· simp[h1]
 by_cases h2:k=2;· simp[h2]
 by_cases h6:k=6;· simp[h6]
 by_cases h3:k=3;· simp[h3]
 by_cases h8:k=8;· simp[h8]
 by_cases h9:k=9;· simp[h9]
 by_cases h10:k=10;· simp[h10]
 by_cases h4:k=4;· simp[h4]
 by_cases h5:k=5;· simp[h5]
 by_cases h7:k=7;· simp[h7]
 by_cases h11:k=11;· simp[h11]
 by_cases h12:k=12;· simp[h12]
 simp[h0,h1,h2,h6,h3,h8,h9,h10,h4,h5,h7,h11,h12]
theorem Gs{k:Int}{l r:List Mo}{op:Int}{p q:ByteArray}{ks:List Tr}(h:FR (.mk k l r op p q ks)=true):l=[]/\r=[]/\op=0/\p=Ax []/\q=Ax []:=by
 unfold FR at h;simp only[ε,decide_eq_true_eq]at h;obtain⟨⟨⟨⟨h1,h2⟩,h3⟩,h4⟩,h5⟩:=h;exact⟨Ap9.1 h1,Ap9.1 h2,h3,h4,h5⟩
theorem X8{t:Tr}{d:Nat}(h:B2 t d=true):ShapeL t d:=by
 obtain⟨k,l,r,op,p,q,ks⟩:=t;rw[B2]at h
 by_cases ha:(ks.length:Int)=F8 k
 .rw[if_pos ha]at h
  rcases Js k with⟨e,hk⟩|⟨e,hk⟩|⟨e,hk⟩|e
  .rw[if_pos e,SS]at h
   obtain rfl:ks=[]:=Ap9.1 (by omega);rcases hk with rfl|rfl|rfl|rfl
   .rw[if_neg (by decide),if_neg (by decide)]at h
    obtain⟨rfl,rfl,rfl,rfl,rfl⟩:=Gs h;exact .tt d
   .rw[if_neg (by decide),if_neg (by decide)]at h
    obtain⟨rfl,rfl,rfl,rfl,rfl⟩:=Gs h;exact .ff d
   .rw[if_pos rfl]at h
    unfold Nm at h;simp only[ε,decide_eq_true_eq]at h;obtain⟨⟨⟨⟨⟨⟨⟨_,hl⟩,hr⟩,h3⟩,h4⟩,rfl⟩,rfl⟩,_⟩:=h;exact .cmp d hl hr h3 h4
   .rw[if_neg (by decide),if_pos rfl]at h
    simp only[ε,decide_eq_true_eq]at h;obtain⟨⟨⟨⟨h1,h2⟩,rfl⟩,h4⟩,h5⟩:=h;obtain rfl:l=[]:=Ap9.1 h1;obtain rfl:r=[]:=Ap9.1 h2;exact .at d h4 h5
  .rw[if_neg (by omega),decide_eq_true e]at h
   simp only[ε,decide_eq_true_eq]at h;obtain⟨⟨hd,hb⟩,hk⟩:=h;obtain⟨rfl,rfl,rfl,rfl,rfl⟩:=Gs hb;have hl:ks.length=1:=by omega
   match ks,hl,hk with
   |[x],_,hk=>
    obtain⟨k1,k2,_⟩:=Hw hk;exact .one d e k1 k2
  .rw[if_neg (by omega),decide_eq_false (show ¬F8 k=1 by omega)]at h
   simp only[ε,decide_eq_true_eq]at h;obtain⟨⟨hd,hb⟩,hk⟩:=h;obtain⟨rfl,rfl,rfl,rfl,rfl⟩:=Gs hb;have hl:ks.length=2:=by omega
   match ks,hl,hk with
   |[x,y],_,hk=>
    obtain⟨k1,k2,hk⟩:=Hw hk;obtain⟨k3,k4,_⟩:=Hw hk;exact .two d e k1 k2 k3 k4
  .omega
 .rw[if_neg ha]at h
  cases h




section
variable (y:Sy) (qs:List Pp)
mutual
def Rt:Tr->Rf->Prop
 |.mk k l r op p q ks,.mk k' n fs=>if k=2\/k=6 then k'=2/\fs=[]/\(Cz y (.mk k l r op p q ks)).2=true/\∃ i:Nat,n=(i:Int)/\qs[i]? = some (Cz y (.mk k l r op p q ks)).1 else k'=k/\n=0/\I5 ks fs
def I5:List Tr->List Rf->Prop
 |[],[]=>True
 |x::a,f::b=>Rt x f/\I5 a b
 |[],_::_=>False
 |_::_,[]=>False
end
theorem Kw(k:Int)(l r:List Mo)(op:Int)(p q:ByteArray)(ks:List Tr)(k' n:Int)(fs:List Rf):Rt y qs (.mk k l r op p q ks) (.mk k' n fs) ↔ (if k=2\/k=6 then k'=2/\fs=[]/\(Cz y (.mk k l r op p q ks)).2=true/\∃ i:Nat,n=(i:Int)/\qs[i]? = some (Cz y (.mk k l r op p q ks)).1 else k'=k/\n=0/\I5 y qs ks fs):=by
 rw[Rt]
theorem Ts:∀{ks:List Tr} {fs:List Rf},I5 y qs ks fs->ks.length=fs.length/\∀(i:Nat) (h1:i<ks.length) (h2:i<fs.length),Rt y qs ks[i] fs[i]
 |[],[],_=>⟨rfl,λi h=>by cases h⟩
 |[],_::_,h=>by rw[I5]at h;exact h.elim
 |_::_,[],h=>by rw[I5]at h;exact h.elim
 |x::a,f::b,h=>by
  rw[I5]at h;have g:=Ts h.2;refine⟨by simp[g.1],λi h1 h2=>?_⟩
  cases i with
  |zero=>exact h.1
  |succ i=>exact g.2 i (by simpa using h1) (by simpa using h2)
end
theorem Zl(ps:List Pp)(a:Pp):ps <+: IN ps a:=by
 unfold IN;split
 .exact ArG
 .exact List.prefix_append ..
theorem Ae5{ps:List Pp}{a:Pp}(h:∀ x∈ps,PpOk x)(ha:PpOk a):∃ i:Nat,Vc ps a=(i:Int)/\(IN ps a)[i]? = some a:=by
 unfold Vc IN
 cases e:ps.findIdx? (E9 a) with
 |none=>exact⟨ps.length,rfl,by simp⟩
 |some i=>
  obtain⟨hi,h2,_⟩:=Ap3.1 e;have:=(Yx ha.can (h _ (ApG hi)).can).1 h2;exact⟨i,rfl,by rw[Φ hi,←this]⟩
theorem AjV{a b:List Pp}(h:a <+: b){i:Nat}{x:Pp}(hx:a[i]? = some x):b[i]? = some x:=by
 obtain⟨c,rfl⟩:=h;obtain⟨hi,e⟩:=ApJ.1 hx;rw[List.getElem?_append_left hi,hx]
mutual
theorem Ti(y:Sy):∀(t:Tr) (ps:List Pp),(∀ x∈ps,PpOk x)->ps <+: (C2 y t ps).2/\∀ f,(C2 y t ps).1=some f->∀ qs,(C2 y t ps).2 <+: qs->Rt y qs t f
 |.mk k l r op p q ks,ps,h=>by
  rw[MX]
  by_cases hk:k=2\/k=6
  .rw[if_pos hk]
   by_cases h2:(Cz y (.mk k l r op p q ks)).2=true
   .rw[if_pos h2]
    refine⟨Zl _ _,λf hf qs hq=>?_⟩;injection hf with hf
    subst hf;rw[Kw,if_pos hk];obtain⟨i,e1,e2⟩:=Ae5 h (Na y (.mk k l r op p q ks));exact⟨rfl,rfl,h2,i,e1,AjV hq e2⟩
   .rw[if_neg h2]
    exact⟨ArG,λf hf=>by cases hf⟩
  .rw[if_neg hk]
   have g:=P3 y ks ps h;refine⟨g.1,λf hf qs hq=>?_⟩;rw[Aq2]at hf;obtain⟨fs,e,rfl⟩:=hf;rw[Kw,if_neg hk];exact⟨rfl,rfl,g.2 fs e qs hq⟩
theorem P3(y:Sy):∀(ks:List Tr) (ps:List Pp),(∀ x∈ps,PpOk x)->ps <+: (CE y ks ps).2/\∀ fs,(CE y ks ps).1=some fs->∀ qs,(CE y ks ps).2 <+: qs->I5 y qs ks fs
 |[],ps,h=>by
  rw[CE];refine⟨ArG,λfs hf qs hq=>?_⟩;injection hf with hf
  subst hf;rw[I5]
  trivial
 |x::r,ps,h=>by
  have g1:=Ti y x ps h;have g2:=P3 y r (C2 y x ps).2 (Ge y x ps h).2;rw[JC]
  cases e:(C2 y x ps).1 with
  |none=>exact⟨g1.1,λfs hf=>by cases hf⟩
  |some f=>
   refine⟨g1.1.trans g2.1,λfs hf qs hq=>?_⟩;rw[Aq2]at hf;obtain⟨gs,e2,rfl⟩:=hf;rw[I5];exact⟨g1.2 f e qs (g2.1.trans hq),g2.2 gs e2 qs hq⟩
end
theorem Ab9{y:Sy}{t:Tr}{f:Rf}{ps:List Pp}(h:Lu y t=some (f,ps)):B2 t 0=true/\Rt y ps t f/\∀ x∈ps,PpOk x:=by
 unfold Lu at h;split at h
 .rename_i hr
  rw[Aq2]at h;obtain⟨g,e,h⟩:=h;obtain⟨rfl,rfl⟩:=Prod.mk.inj h;have:=Ti y t [] (by simp);exact⟨hr,this.2 _ e _ ArG,(Ge y t [] (by simp)).2⟩
 .cases h
def Ig(ps:List (Int × Int))(vals:List Int):Nat->Int
 |0=>0
 |n+1=>Ig ps vals n+AU (n:Int) ps*vals.getD n 0
theorem KN(vals:List Int)(n:Nat):CK vals (n:Int)=vals.getD n 0:=by
 unfold CK;rw[if_neg (by omega),Int.toNat_natCast]
theorem OJ(vals:List Int){v:Int}(h:(vals.length:Int)<=v):CK vals v=0:=by
 unfold CK;rw[if_neg (by omega),ApH,Aqg (by omega)];rfl
theorem TD(vals:List Int):∀ n,Ig [] vals n=0
 |0=>rfl
 |n+1=>by rw[Ig,TD vals n,AU,ArV];rfl
theorem Qb(p:Int × Int)(r:List (Int × Int))(vals:List Int):∀ n:Nat,Ig (p::r) vals n=(if 0<=p.1/\p.1<(n:Int) then p.2*CK vals p.1 else 0)+Ig r vals n
 |0=>by rw[Ig,Ig,if_neg (by omega)];rfl
 |n+1=>by
  rw[Ig,Ig,Qb p r vals n,AU,Int.add_mul]
  by_cases h:p.1=(n:Int)
  .rw[if_pos h,if_neg (by omega),if_pos (by omega),h,KN]
   omega
  .rw[if_neg h,ArV]
   by_cases h2:0<=p.1/\p.1<(n:Int)
   .rw[if_pos h2,if_pos (by omega)];omega
   .rw[if_neg h2,if_neg (by omega)];omega
theorem Qd(vals:List Int):∀ ps:List (Int × Int),DL (CK vals) ps=Ig ps vals vals.length
 |[]=>by rw[TD];rfl
 |p::r=>by
  rw[Qb,DL,Qd vals r]
  by_cases h:0<=p.1/\p.1<(vals.length:Int)
  .rw[if_pos h]
  .rw[if_neg h]
   by_cases h0:p.1<0
   .rw[TQ _ _ h0,Ara]
   .rw[OJ vals (by omega),Ara]
theorem TT(vals:List Int)(l:Lf):l.val (CK vals)=l.k+Ig l.ps vals vals.length:=by
 unfold Lf.val;rw[Qd];omega
theorem Sd{k:Nat}{vals:List Int}(h:∀ x∈vals,InB k x)(n:Nat):InB k (vals.getD n 0):=by
 rw[ApH]
 cases e:vals[n]? with
 |none=>exact InB.zero _
 |some x=>
  obtain⟨hn,rfl⟩:=ApJ.1 e;exact h _ (ApG hn)
theorem TC{n k j:Nat}{l:Lf}{vals:List Int}(hl:LB n k l)(hv:∀ x∈vals,InB j x):∀ m:Nat,InB (k+n+j+m) (Ig l.ps vals m)
 |0=>InB.zero _
 |m+1=>by
  rw[Ig,←Nat.add_assoc];refine InB.add (TC hl hv m) ?_;have h1:=Ir (m:Int) l.ps hl.ps;have h2:=InB.mul h1 (Sd hv m);exact h2.mono (by have:=hl.len;omega)
theorem Rl(x:Nat)(h:x<18446744073709551616):Af.quo .u64 (x:Int) 4294967296=((x / 4294967296:Nat):Int):=by
 show IntKind.u64.wrap ((x:Int).tdiv 4294967296)=_
 have:(x:Int).tdiv 4294967296=((x / 4294967296:Nat):Int):=rfl;rw[this,IntKind.wrap_u64];omega
theorem Rm(x:Nat):Af.rem .u64 (x:Int) 4294967296=((x % 4294967296:Nat):Int):=by
 show (x:Int).tmod 4294967296=_
 rfl
theorem YL(l:List Nat)(n:Nat):(Ap eL l).take n=Ap eL (l.take n):=by rw[GQ,GQ,List.map_take]
theorem Uh(l:List Nat)(n:Nat)(h:n<=l.length):Bp n 1 ((Ap eL l).take (n*1))=(l.take n).map eL:=by
 rw[Nat.mul_one,YL];have:=CQ AT (l.take n)
 rwa [ApQ,AqE h]at this
theorem K9(l:List Nat)(i:Nat):(l.drop i).headD 0=l.getD i 0:=by
 rw[ApH]
 by_cases h:i<l.length
 .rw[χ h,Φ h];rfl
 .rw[Apz (by omega),Aqg (by omega)];rfl
theorem MS{l:List Nat}(h:Limbs l)(i:Nat):l.getD i 0<4294967296:=by
 rw[←K9];exact EY (h.drop i)
def DQ(n:Nat)(l:List Nat):List Nat:=l++Aru (n-l.length) 0
theorem AfS(n:Nat):Ag (Aru n 0)=0:=by
 induction n with
 |zero=>rfl
 |succ n ih=>rw[List.replicate_succ,Ag,ih]
theorem Gn(n:Nat)(l:List Nat):Ag (DQ n l)=Ag l:=by
 unfold DQ;rw[Ff,AfS];omega
theorem DD{n:Nat}{l:List Nat}(h:l.length<=n):(DQ n l).length=n:=by
 unfold DQ;rw[υ,List.length_replicate];omega
theorem D5{n:Nat}{l:List Nat}(h:Limbs l):Limbs (DQ n l):=PK h λx hx=>by
 rw[(List.mem_replicate.1 hx).2];omega
theorem Kc{n i:Nat}{l:List Nat}(h:l.length<=n)(hi:i<n):(DQ n l)[i]'(by rw[DD h];exact hi)=l.getD i 0:=by
 rw[ApH];unfold DQ
 by_cases h2:i<l.length
 .rw[List.getElem_append_left h2,Φ h2];rfl
 .rw[List.getElem_append_right (by omega),List.getElem_replicate,Aqg (by omega)];rfl
section
variable {D:Orc} (K:Knows Al OB D)
include K
theorem Aca(l:List Nat)(hl:Cu l):∀(k i:Nat) (out:List Nat),l.length-i=k->out.length+k<=2000000000->D.ask (.lp 177 0) [eN l,.sl 0 0 out.length 1,iv (i:Int)] [Δ (Ap eL out) true true]
  = some (.tup [iv 0,.sl 1 0 (out++l.drop i).length 1],[.del,.set (Δ (Ap eL (out++l.drop i)) true true)]):=by
 intro k;unfold Cu at hl
 induction k with
 |zero=>
  intro i out hi ho;refine K.lp' LW _ rfl (by kernel_rfl) ((ZX ..).trans ?_);rw[Ao,show l.drop i=[] from Apz (by omega),Aqx];refine Ah (by omega) ?_;rfl
 |succ k ih=>
  intro i out hi ho;have hlt:i<l.length:=by omega
  have ih':=ih (i+1) (out++[l[i]]) (by omega) (by simp;omega);rw[ApZ,υ,Aqb]at ih';refine K.lp' LW _ rfl (by kernel_rfl) ((ZX ..).trans ?_);rw[Ao,χ hlt];refine Ai (by omega) ?_;rw[Aw,Au (Φ hlt)];have hf:Bf (out.length+1) 4=true:=AJ (by omega) (by omega);have hb1:ApA (0+out.length*1) (Ap eL out).length=true:=AS AT out (by omega);have e3:∀ s:Nat,Apx 0 (ο (0+out.length*1) (Ap eL out))++[.v (.int .u32 (s:Int))]=Ap eL (out++[s]):=λs=>by
   rw[π,A4 AT out (by omega)];exact A6 eL out s
  simp only[eL,Fh,ND,DK,Aa];rw[A8 (by omega),hf,hb1,e3];refine Ac ?_;refine Ac ?_;refine Ab ih' ?_;rfl
theorem Acb(l:List Nat)(hl:Cu l):∀(n:Nat),n<=l.length->CV l<=n->D.ask (.lp 177 1) [.sl 0 0 n 1] [Δ (Ap eL l) true true]=some (.tup [iv 2,.sl 1 0 (CV l) 1],[.del,.set (Δ (Ap eL l) true true)]):=by
 intro n;unfold Cu at hl
 induction n with
 |zero=>
  intro _ ht;refine K.lp' LW _ rfl (by kernel_rfl) ((ZY ..).trans ?_);refine Ah (by omega) ?_;rw[show CV l=0 by omega]
 |succ n ih=>
  intro hn ht;refine K.lp' LW _ rfl (by kernel_rfl) ((ZY ..).trans ?_);refine Ai (by omega) ?_;rw[show Af.sub .i64 ((n+1:Nat):Int) 1=(n:Int) from (AmG (i:=n+1) (j:=1) (by omega) (by omega)).trans (by simp)];rw[Aw,Bv (Aqe n)];refine Ac ?_;refine(AbX l n (by omega) _).trans ?_;simp only[Fh,ND,DK,Aa]
  by_cases h0:l[n]=0
  .refine Av (by rw[h0];rfl) ?_
   rw[Aw,show J1 0 n (n+1)=true by unfold J1;rw[show ApA 0 n=true by simp];simp];refine Ac ?_;refine Ab (ih (by omega) (Qj ht (by rw[Φ (show n<l.length by omega),h0]))) ?_;rfl
  .refine Am (by omega) ?_
   have:=RE (Φ (show n<l.length by omega)) h0;rw[show CV l=n+1 by omega]
theorem E5{l:List Nat}(hl:Cu l)(h:Limbs l):D.ask (.fn 177) [eN l] []=some (eN (AN (Ag l)),[]):=by
 have hs:=hl;unfold Cu at hs;refine K.fn' LW _ rfl ((AnC ..).trans ?_);have g:=Aca K l hl l.length 0 [] rfl (by simp;omega);rw[ApU,π]at g;refine Ab g ?_;simp only[ND,DK,Aa];refine Ab (Acb K l hl l.length (ω _) (DO l)) ?_;simp only[ND,DK,Aa];have ht:=DO l;rw[show ApA (0+CV l*1) (Ap eL l).length=true by rw[Bq AT];simp;omega];refine Ac ?_;rw[Uh l _ ht,KF h];rfl
theorem F9(a b:List Nat):D.ask (.fn 226) [eN a,eN b] []=some (iv ((max a.length b.length:Nat):Int),[]):=by
 refine K.fn' Ag7 _ rfl ((An0 ..).trans ?_);rw[Ao,Ao]
 by_cases h:b.length<a.length
 .refine Ai (by omega) ?_
  rw[show max a.length b.length=a.length by omega]
 .refine Ah (by omega) ?_
  rw[show max a.length b.length=b.length by omega]
theorem GM{a:List Nat}(ha:Limbs a)(i:Nat):D.ask (.fn 227) [eN a,iv (i:Int)] []=some (.v (.int .u64 (a.getD i 0:Int)),[]):=by
 refine K.fn' Ag8 _ rfl ((An1 ..).trans ?_);rw[Ao,ApH];refine Ah (by omega) ?_
 by_cases h:i<a.length
 .refine Cv (by omega) ?_
  have hx:=ha.get h;rw[Aw,Au (Φ h),Φ h];simp only[eL,Fh,ND,DK,Aa];rw[BR (by omega)];rfl
 .refine Cn (by omega) ?_
  rw[Aqg (by omega)];rfl
theorem Afe{a b:List Nat}(ha:Limbs a)(hb:Limbs b)(m:Nat)(hma:a.length<=m)(hmb:b.length<=m)(hm:m<=1000000000):∀(n:Nat),n<=m->D.ask (.lp 229 0) [eN a,eN b,iv ((n:Int)-1)] []
  = some (if Do (Ag ((DQ m a).take n)) (Ag ((DQ m b).take n))=0 then .tup [iv 0] else .tup [bv true,iv (Do (Ag ((DQ m a).take n)) (Ag ((DQ m b).take n)))],[]):=by
 intro n
 induction n with
 |zero=>
  intro _;refine K.lp' SA _ rfl (by kernel_rfl) ((Aab ..).trans ?_);refine Cv (by omega) ?_;rfl
 |succ n ih=>
  intro hn;refine K.lp' SA _ rfl (by kernel_rfl) ((Aab ..).trans ?_);rw[show (((n+1:Nat):Int)-1)=(n:Int) by omega];refine Cn (by omega) ?_;have h1:n<(DQ m a).length:=by rw[DD hma];omega
  have h2:n<(DQ m b).length:=by rw[DD hmb];omega
  have e1:(DQ m a).take (n+1)=(DQ m a).take n++[a.getD n 0]:=by rw[Aqy h1,Kc hma (by omega)]
  have e2:(DQ m b).take (n+1)=(DQ m b).take n++[b.getD n 0]:=by rw[Aqy h2,Kc hmb (by omega)]
  rw[e1,e2,RZ ((D5 ha).take n) ((D5 hb).take n) (by simp;omega)];refine Ab (GM K ha n) ?_;simp only[RI,ND,DK,Aa];refine Ab (GM K hb n) ?_;simp only[RI,ND,DK,Aa]
  by_cases h3:a.getD n 0<b.getD n 0
  .refine Ai (by omega) ?_
   rw[if_pos h3];rfl
  .refine Ah (by omega) ?_
   rw[if_neg h3];refine Ab (GM K ha n) ?_;simp only[RI,ND,DK,Aa];refine Ab (GM K hb n) ?_;simp only[RI,ND,DK,Aa]
   by_cases h4:b.getD n 0<a.getD n 0
   .refine Ai (by omega) ?_
    rw[if_pos h4];rfl
   .refine Ah (by omega) ?_
    rw[if_neg h4];rw[show Af.sub .i64 (n:Int) 1=(n:Int)-1 from Gb (by omega) (by omega)];refine Ab (ih (by omega)) ?_
    by_cases h5:Do (Ag ((DQ m a).take n)) (Ag ((DQ m b).take n))=0
    .rw[if_pos h5];rfl
    .rw[if_neg h5];rfl
theorem Aff{a b:List Nat}(hsa:Cu a)(ha:Limbs a)(hsb:Cu b)(hb:Limbs b):D.ask (.fn 229) [eN a,eN b] []=some (iv (Do (Ag a) (Ag b)),[]):=by
 unfold Cu at hsa hsb;refine K.fn' SA _ rfl ((An3 ..).trans ?_);refine Ab (F9 K a b) ?_;simp only[ND,DK,Aa];rw[show Af.sub .i64 ((max a.length b.length:Nat):Int) 1=((max a.length b.length:Nat):Int)-1 from Gb (by omega) (by omega)];have g:=Afe K ha hb (max a.length b.length) (by omega) (by omega) (by omega) (max a.length b.length) (ω _);rw[AqB (by rw[DD (by omega)];omega),AqB (by rw[DD (by omega)];omega),Gn,Gn]at g;refine Ab g ?_
 by_cases h5:Do (Ag a) (Ag b)=0
 .rw[if_pos h5,h5];rfl
 .rw[if_neg h5];rfl
theorem Afd{a b:List Nat}(ha:Limbs a)(hb:Limbs b)(hm:max a.length b.length<=1000000000):∀(k i:Nat) (out:List Nat) (c:Nat),max a.length b.length+1-i=k->c<=1->out.length+k<=2000000000->
  D.ask (.lp 181 0) [eN a,eN b,.sl 0 0 out.length 1,.v (.int .u64 (c:Int)),iv (i:Int)] [Δ (Ap eL out) true true]
   = some (.tup [iv 0,.sl 1 0 (out++Mx k c (a.drop i) (b.drop i)).length 1],[.del,.set (Δ (Ap eL (out++Mx k c (a.drop i) (b.drop i))) true true)]):=by
 intro k
 induction k with
 |zero=>
  intro i out c hi hc ho;refine K.lp' St _ rfl (by kernel_rfl) ((Z0 ..).trans ?_);refine Ab (F9 K a b) ?_;simp only[ND,DK,Aa];refine Cv (by omega) ?_;rw[Mx,Aqx]
 |succ k ih=>
  intro i out c hi hc ho;have h1:=MS ha i;have h2:=MS hb i;have ih':=ih (i+1) (out++[(a.getD i 0+b.getD i 0+c) % 4294967296]) ((a.getD i 0+b.getD i 0+c) / 4294967296) (by omega) (by omega) (by simp;omega);rw[ApZ,υ,Aqb]at ih';refine K.lp' St _ rfl (by kernel_rfl) ((Z0 ..).trans ?_);refine Ab (F9 K a b) ?_;simp only[ND,DK,Aa];refine Cn (by omega) ?_;refine Ab (GM K ha i) ?_;simp only[RI,ND,DK,Aa];refine Ab (GM K hb i) ?_;simp only[RI,ND,DK,Aa];refine Am (by decide) ?_;have hf:Bf (out.length+1) 4=true:=AJ (by omega) (by omega);have hb1:ApA (0+out.length*1) (Ap eL out).length=true:=AS AT out (by omega);have e3:∀ s:Nat,Apx 0 (ο (0+out.length*1) (Ap eL out))++[.v (.int .u32 (s:Int))]=Ap eL (out++[s]):=λs=>by
   rw[π,A4 AT out (by omega)];exact A6 eL out s
  rw[CY (by omega),CY (by omega),Rm,Rl _ (by omega),Bz (Aq1 _ (by omega)),A8 (by omega),hf,hb1,e3];refine Ac ?_;refine Ac ?_;refine Am (by decide) ?_;refine Ab ih' ?_;rw[Mx,K9,K9,Ari,Ari];rfl
theorem ID{a b:List Nat}(hsa:a.length<=999999999)(ha:Limbs a)(hsb:b.length<=999999999)(hb:Limbs b):D.ask (.fn 181) [eN a,eN b] []=some (eN (AN (Ag a+Ag b)),[]):=by
 refine K.fn' St _ rfl ((AnG ..).trans ?_);have g:=Afd K ha hb (by omega) (max a.length b.length+1) 0 [] 0 rfl (by omega) (by simp;omega);rw[ApU,π,π]at g;refine Ab g ?_;simp only[ND,DK,Aa];rw[AS AT _ (by omega)];refine Ac ?_;rw[Cf AT _ rfl];have hlen:∀(k c:Nat) (a b:List Nat),(Mx k c a b).length=k:=λk=>by
  induction k with
  |zero=>intro c a b;rfl
  |succ k ih=>intro c a b;rw[Mx,Apw,ih]
 have gt:=E5 K (l:=Mx (max a.length b.length+1) 0 a b) (by unfold Cu;rw[hlen];omega) (M5 _ _ _ _);rw[Qn]at gt;have h1:=CL ha;have h2:=CL hb;have p1:4294967296 ^ a.length<=4294967296 ^ (max a.length b.length):=AqT (by omega) (by omega);have p2:4294967296 ^ b.length<=4294967296 ^ (max a.length b.length):=AqT (by omega) (by omega);rw[Nat.mod_eq_of_lt (by rw[AqI];omega),ApN]at gt;refine Ab gt ?_;rfl
theorem Afh{a b:List Nat}(ha:Limbs a)(hb:Limbs b)(m:Nat)(hma:max a.length b.length=m)(hm:m<=1000000000):∀(k i:Nat) (out:List Nat) (c:Nat),m-i=k->c<=1->out.length+k<=2000000000->
  D.ask (.lp 184 0) [eN a,eN b,.sl 0 0 out.length 1,.v (.int .u64 (c:Int)),iv (i:Int)] [Δ (Ap eL out) true true]
   = some (.tup [iv 0,.sl 1 0 (out++GU c ((DQ m a).drop i) ((DQ m b).drop i)).length 1],[.del,.set (Δ (Ap eL (out++GU c ((DQ m a).drop i) ((DQ m b).drop i))) true true)]):=by
 intro k;have la:=DD (n:=m) (l:=a) (by omega);have lb:=DD (n:=m) (l:=b) (by omega)
 induction k with
 |zero=>
  intro i out c hi hc ho;refine K.lp' Su _ rfl (by kernel_rfl) ((Z3 ..).trans ?_);refine Ab (F9 K a b) ?_;simp only[ND,DK,Aa];refine Ah (by omega) ?_;rw[show (DQ m a).drop i=[] from Apz (by omega),GU,Aqx]
 |succ k ih=>
  intro i out c hi hc ho;have h1:=MS ha i;have h2:=MS hb i;have ia:i<(DQ m a).length:=by omega
  have ib:i<(DQ m b).length:=by omega
  rw[χ ia,Kc (by omega) (by omega),χ ib,Kc (by omega) (by omega),GU,List.headD_cons,List.tail_cons];refine K.lp' Su _ rfl (by kernel_rfl) ((Z3 ..).trans ?_);refine Ab (F9 K a b) ?_;simp only[ND,DK,Aa];refine Ai (by omega) ?_;refine Ab (GM K ha i) ?_;simp only[RI,ND,DK,Aa];refine Ab (GM K hb i) ?_;simp only[RI,ND,DK,Aa];refine Am (by decide) ?_;have hf:Bf (out.length+1) 4=true:=AJ (by omega) (by omega);have hb1:ApA (0+out.length*1) (Ap eL out).length=true:=AS AT out (by omega);have e3:∀ s:Nat,Apx 0 (ο (0+out.length*1) (Ap eL out))++[.v (.int .u32 (s:Int))]=Ap eL (out++[s]):=λs=>by
   rw[π,A4 AT out (by omega)];exact A6 eL out s
  rw[show (4294967296:Int)=((4294967296:Nat):Int) from rfl,CY (by omega),GN (by omega) (by omega),GN (by omega) (by omega)];rw[show ((4294967296:Nat):Int)=(4294967296:Int) from rfl,Rm,Rl _ (by omega),Bz (Aq1 _ (by omega)),A8 (by omega),show (1:Int)=((1:Nat):Int) from rfl,GN (by omega) (by omega),hf,hb1,e3];refine Ac ?_;refine Ac ?_;refine Am (by decide) ?_
  by_cases hlt:a.getD i 0<b.getD i 0+c
  .rw[if_pos hlt,if_pos hlt]
   have ih':=ih (i+1) (out++[a.getD i 0+4294967296-(b.getD i 0+c)]) 1 (by omega) (by omega) (by simp;omega);rw[ApZ,υ,Aqb]at ih';rw[show (a.getD i 0+4294967296-b.getD i 0-c) % 4294967296=a.getD i 0+4294967296-(b.getD i 0+c) by omega,show 1-(a.getD i 0+4294967296-b.getD i 0-c) / 4294967296=1 by omega];refine Ab ih' ?_;rfl
  .rw[if_neg hlt,if_neg hlt]
   have ih':=ih (i+1) (out++[a.getD i 0-(b.getD i 0+c)]) 0 (by omega) (by omega) (by simp;omega);rw[ApZ,υ,Aqb]at ih';rw[show (a.getD i 0+4294967296-b.getD i 0-c) % 4294967296=a.getD i 0-(b.getD i 0+c) by omega,show 1-(a.getD i 0+4294967296-b.getD i 0-c) / 4294967296=0 by omega];refine Ab ih' ?_;rfl
theorem WH{a b:List Nat}(hsa:Cu a)(ha:Limbs a)(hsb:Cu b)(hb:Limbs b):D.ask (.fn 184) [eN a,eN b] []=some (Ns (Ag a) (Ag b),[]):=by
 have s1:=hsa;have s2:=hsb;unfold Cu at s1 s2;refine K.fn' Su _ rfl ((AnJ ..).trans ?_);refine Ab (Aff K hsa ha hsb hb) ?_;simp only[ND,DK,Aa];unfold Ns
 by_cases h1:Ag a<Ag b
 .rw[show Do (Ag a) (Ag b)=-1 by unfold Do;rw[if_pos h1]]
  refine Ai (by decide) ?_;rw[if_neg (by omega)];rfl
 .refine Ah (by unfold Do;rw[if_neg h1];split<;>omega) ?_
  rw[if_pos (by omega)];have la:=DD (n:=max a.length b.length) (l:=a) (by omega);have lb:=DD (n:=max a.length b.length) (l:=b) (by omega);have g:=Afh K ha hb (max a.length b.length) rfl (by omega) (max a.length b.length) 0 [] 0 (by omega) (by omega) (by simp;omega);rw[ApU,π,π]at g;refine Ab g ?_;simp only[ND,DK,Aa];rw[AS AT _ (by omega)];refine Ac ?_;rw[Cf AT _ rfl];have gt:=E5 K (l:=GU 0 (DQ (max a.length b.length) a) (DQ (max a.length b.length) b)) (by unfold Cu;rw[KC];omega) (GV _ _ _ (D5 ha) (D5 hb) (by omega));rw[TR (D5 ha) (D5 hb) (by omega) (by rw[Gn,Gn];omega),Gn,Gn]at gt;refine Ab gt ?_;rfl
theorem Yu{a:List Nat}(ha:Limbs a)(hs:Cu a)(m:Nat)(hm:m<4294967296):∀(k i:Nat) (out:List Nat) (c:Nat),a.length-i=k->i<=a.length->c<4294967296->out.length+k<=2000000000->
  ∃(o:List Nat) (c':Nat),D.ask (.lp 228 0) [eN a,.v (.int .u64 (m:Int)),.sl 0 0 out.length 1,.v (.int .u64 (c:Int)),iv (i:Int)] [Δ (Ap eL out) true true]
   = some (.tup [iv 0,.sl 1 0 o.length 1,.v (.int .u64 (c':Int))],[.del,.set (Δ (Ap eL o) true true)])/\c'<4294967296/\o++[c']=out++DJ m c (a.drop i):=by
 intro k;unfold Cu at hs
 induction k with
 |zero=>
  intro i out c hi hle hc ho;refine⟨out,c,?_,hc,?_⟩
  .refine K.lp' Sz _ rfl (by kernel_rfl) ((Aaa ..).trans ?_)
   rw[Ao];refine Ah (by omega) ?_;rfl
  .rw[show a.drop i=[] from Apz (by omega)]
   rfl
 |succ k ih=>
  intro i out c hi hle hc ho;have hlt:i<a.length:=by omega
  have hx:=ha.get hlt;have hp:=N2 hx hm;have hg:a.getD i 0=a[i]:=by rw[ApH,Φ hlt];rfl
  obtain⟨o,c',h1,h2,h3⟩:=ih (i+1) (out++[(a[i]*m+c) % 4294967296]) ((a[i]*m+c) / 4294967296) (by omega) (by omega) (by omega) (by simp;omega);refine⟨o,c',?_,h2,?_⟩
  .refine K.lp' Sz _ rfl (by kernel_rfl) ((Aaa ..).trans ?_)
   rw[Ao];refine Ai (by omega) ?_;refine Ab (GM K ha i) ?_;simp only[RI,ND,DK,Aa,hg];refine Am (by decide) ?_;have hf:Bf (out.length+1) 4=true:=AJ (by omega) (by omega);have hb1:ApA (0+out.length*1) (Ap eL out).length=true:=AS AT out (by omega);have e3:∀ s:Nat,Apx 0 (ο (0+out.length*1) (Ap eL out))++[.v (.int .u32 (s:Int))]=Ap eL (out++[s]):=λs=>by
    rw[π,A4 AT out (by omega)];exact A6 eL out s
   rw[υ,Aqb]at h1;rw[Rk (by omega),CY (by omega),Rm,Rl _ (by omega),Bz (Aq1 _ (by omega)),A8 (by omega),hf,hb1,e3];refine Ac ?_;refine Ac ?_;refine Am (by decide) ?_;refine Ab h1 ?_;rfl
  .rw[h3,χ hlt,DJ,ApZ]
   rfl
omit K in
theorem JG:∀(m c:Nat) (a:List Nat),(DJ m c a).length=a.length+1
 |_,_,[]=>rfl
 |m,c,x::a=>by rw[DJ,Apw,JG,Apw]
theorem Lv{a:List Nat}(ha:Limbs a)(hs:a.length<=999999999)(m:Nat)(hm:m<4294967296):D.ask (.fn 228) [eN a,.v (.int .u64 (m:Int))] []=some (eN (AN (Ag a*m)),[]):=by
 obtain⟨o,c',g,hc,ho⟩:=Yu K ha (by unfold Cu;omega) m hm a.length 0 [] 0 (by omega) (by omega) (by omega) (by simp;omega);rw[ApU,π]at ho;have hol:o.length=a.length:=by
  have:=congrArg List.length ho;rw[υ,JG]at this;simpa using this
 refine K.fn' Sz _ rfl ((An2 ..).trans ?_);refine Ab g ?_;simp only[Fh,ND,DK,Aa];rw[Bz hc];have e3:Apx 0 (ο (0+o.length*1) (Ap eL o))++[.v (.int .u32 (c':Int))]=Ap eL (o++[c']):=by
  rw[π,A4 AT o (by omega)];exact A6 eL o c'
 rw[AJ (n:=o.length+1) (b:=4) (by omega) (by omega),AS AT o (by omega),e3,AS AT (o++[c']) (by simp)];refine Ac ?_;refine Ac ?_;refine Ac ?_;rw[π,A4 AT (o++[c']) (by simp),show Bp (o.length+1) 1 (Ap eL (o++[c']))=(o++[c']).map eL from by have:=CQ AT (o++[c']);rwa [υ]at this];rw[ho];have gt:=E5 K (l:=DJ m 0 a) (by unfold Cu;rw[JG];omega) (GS _ _ _ hm ha (by omega));rw[Ij,Nat.add_zero]at gt;refine Ab gt ?_;rfl
end
theorem EA{a b:List Nat}(ha:Limbs a)(hb:Limbs b):(AN (Ag a*Ag b)).length<=a.length+b.length:=by
 refine Bw ?_;rw[Nat.pow_add];exact Nat.mul_lt_mul'' (CL ha) (CL hb)
theorem Abu(va x vd:Nat):0+4294967296*(va*vd)+va*x=va*(x+4294967296*vd):=by
 rw[Nat.mul_add,Nat.mul_left_comm va];omega
theorem UO{v i d:Nat}(h:v<4294967296 ^ i)(hd:d<=9):v*10+d<4294967296 ^ (i+1):=by
 rw[AqI];omega
theorem Ov{d:Nat}(h:d<4294967296):Limbs [d]:=BC h BM
section
variable {D:Orc} (K:Knows Al OB D)
include K
theorem Afo(A B:AV)(t:Int){xs ys:List (List AV)}(hA:A=.ls xs)(hB:B=.ls ys){out:List Nat}(hs:out.length<=999999999):∀(k i:Nat) (up:List Nat),out.length-i=k->i<=out.length->up=0::out.take i->
  D.ask (.lp 183 1) [A,B,eN out,iv t,.sl 0 0 (i+1) 1,iv (i:Int)] [Δ (Ap eL up) true true]=some (.tup [iv 2,A,B,iv t,.sl 1 0 (out.length+1) 1],[.del,.set (Δ (Ap eL (0::out)) true true)]):=by
 subst hA hB;intro k
 induction k with
 |zero=>
  intro i up hk hi hu;obtain rfl:i=out.length:=by omega
  rw[List.take_length]at hu;subst hu;refine K.lp' LX _ rfl (by kernel_rfl) ((Z2 ..).trans ?_);rw[Ao];exact Ah (by omega) rfl
 |succ k ih=>
  intro i up hk hi hu;have hlt:i<out.length:=by omega
  have hl:up.length=i+1:=by rw[hu,Apw,ApQ,AqE hi]
  have ih':=ih (i+1) (up++[out[i]]) (by omega) (by omega) (by rw[hu,Aqy hlt];rfl);have e3:Apx 0 (ο (0+(i+1)*1) (Ap eL up))++[.v (.int .u32 (out[i]:Int))]=Ap eL (up++[out[i]]):=by
   rw[π,A4 AT up (by omega)];exact A6 eL up out[i]
  refine K.lp' LX _ rfl (by kernel_rfl) ((Z2 ..).trans ?_);rw[Ao];refine Ai (by omega) ?_;rw[Aw,Au (Φ hlt)];simp only[eL,Fh,ND,DK,Aa];rw[A8 (by omega),AJ (n:=i+1+1) (b:=4) (by omega) (by omega),AS AT up (by omega),e3];refine Ac ?_;refine Ac ?_;refine Ab ih' ?_;rfl
theorem Afp{a b:List Nat}(ha:Limbs a)(hb:Limbs b)(hs:a.length+b.length<=900000000):∀ i:Nat,i<=b.length->D.ask (.lp 183 0) [eN a,eN b,eN (AN (Ag a*Ag (b.drop i))),iv ((i:Int)-1)] []=some (.tup [iv 0,eN (AN (Ag a*Ag b))],[]):=by
 intro i
 induction i with
 |zero=>
  intro _;refine K.lp' LX _ rfl (by kernel_rfl) ((Z1 ..).trans ?_);refine Cv (by omega) ?_;rw[π];rfl
 |succ i ih=>
  intro hi;have hlt:i<b.length:=by omega
  have hx:=hb.get hlt;have ln:∀ j:Nat,(AN (Ag a*Ag (b.drop j))).length<=a.length+b.length:=λj=>by
   have:=EA ha (hb.drop j);rw[List.length_drop]at this;omega
  have l1:=ln (i+1);rw[show (((i+1:Nat):Int)-1)=(i:Int) by omega];refine K.lp' LX _ rfl (by kernel_rfl) ((Z1 ..).trans ?_);refine Cn (by omega) ?_;have g:=Afo K (eN a) (eN b) (i:Int) rfl rfl (out:=AN (Ag a*Ag (b.drop (i+1)))) (by omega) _ 0 [0] rfl (by omega) rfl;refine Ab g ?_;simp only[eN,Fh,ND,DK,Aa];rw[Aw,Au (Φ hlt)];simp only[eL,Fh,ND,DK,Aa];rw[BR (show b[i]<_ by omega)];refine Ac ?_;refine Ab (Lv K ha (by omega) b[i] hx) ?_;simp only[eN,Fh,ND,DK,Aa];rw[AS AT (0::AN (Ag a*Ag (b.drop (i+1)))) (by simp)];refine Ac ?_;rw[A4 AT (0::AN (Ag a*Ag (b.drop (i+1)))) (by simp),show Bp ((AN (Ag a*Ag (b.drop (i+1)))).length+1) 1 (Ap eL (0::AN (Ag a*Ag (b.drop (i+1)))))=(0::AN (Ag a*Ag (b.drop (i+1)))).map eL from CQ AT (0::AN (Ag a*Ag (b.drop (i+1))))];have l3:(AN (Ag a*b[i])).length<=a.length+1:=by
   have:=EA ha (Ov hx)
   rwa [show Ag [b[i]]=b[i] by simp[Ag]]at this
  have g2:=ID K (a:=0::AN (Ag a*Ag (b.drop (i+1)))) (b:=AN (Ag a*b[i])) (by rw[Apw];omega) (BC (by omega) (AA _)) (by omega) (AA _);rw[Ag,AP,AP,Abu,show b[i]+4294967296*Ag (b.drop (i+1))=Ag (b.drop i) by rw[χ hlt,Ag]]at g2;refine Ab g2 ?_;simp only[eN,Fh,ND,DK,Aa];rw[Gb (by omega) (by omega)];refine Ab (ih (by omega)) ?_;rfl
theorem Afg{a b:List Nat}(ha:Limbs a)(hb:Limbs b)(hs:a.length+b.length<=900000000):D.ask (.fn 183) [eN a,eN b] []=some (eN (AN (Ag a*Ag b)),[]):=by
 have g:=Afp K ha hb hs b.length (ω _);rw[List.drop_length,Ag,Nat.mul_zero,Es]at g;refine K.fn' LX _ rfl ((AnI ..).trans ?_);rw[Ao,Gb (by omega) (by omega)];refine Ab g ?_;simp only[eN,ND,DK,Aa];have l1:=EA ha hb;have g2:=E5 K (l:=AN (Ag a*Ag b)) (by unfold Cu;omega) (AA _);rw[AP]at g2;refine Ab g2 ?_;rfl
theorem Yt{s:ByteArray}(hs:s.size<=4000):∀(m i v:Nat),s.size-i=m->i<=s.size->v<4294967296 ^ i->
  D.ask (.lp 182 0) [sv s,eN (AN v),iv (i:Int)] []=if(s.data.toList.drop i).all GH=true then some (.tup [iv 0,sv s,eN (AN (hor v (s.data.toList.drop i)))],[]) else some (.tup [bv true,.ls [],iv 20],[]):=by
 intro m;have hsl:s.data.toList.length=s.size:=by simp
 induction m with
 |zero=>
  intro i v hm hi hv;have e:s.data.toList.drop i=[]:=Apz (by omega);rw[e,if_pos (show ([]:List UInt8).all GH=true from rfl)];refine K.lp' NJ _ rfl (by kernel_rfl) ((QV ..).trans ?_);rw[Ch];exact Ah (by omega) rfl
 |succ m ih=>
  intro i v hm hi hv;have hlt:i<s.size:=by omega
  have hlt':i<s.data.toList.length:=by omega
  have e:s.data.toList.drop i=s.data.toList[i]::s.data.toList.drop (i+1):=χ hlt';rw[e,List.all_cons]
  cases hd:GH s.data.toList[i]with
  |false=>
   rw[if_neg (by simp)];refine K.lp' NJ _ rfl (by kernel_rfl) ((QV ..).trans ?_);rw[Ch];refine Ai (by omega) ?_;rw[Aw,Bv hlt];refine Ac ?_;rw[DE hlt];rcases AkD hd with h|⟨h,h2⟩
   .exact Ai (by omega) rfl
   .refine Ah (by omega) ?_
    rw[Aw,Bv hlt];refine Ac ?_;rw[DE hlt];exact Ai (by omega) rfl
  |true=>
   have hd1:=ZO hd;have hd2:=AkC hd;rw[ApP,NN];have ih':=ih (i+1) (v*10+(s.data.toList[i].toNat-48)) (by omega) (by omega) (UO hv hd1);have lv:=Bw hv
   by_cases h:(s.data.toList.drop (i+1)).all GH=true
   .rw[if_pos h]at ih' ⊢
    refine K.lp' NJ _ rfl (by kernel_rfl) ((QV ..).trans ?_);rw[Ch];refine Ai (by omega) ?_;rw[Aw,Bv hlt];refine Ac ?_;rw[DE hlt];refine Ah (by omega) ?_;rw[Aw,Bv hlt];refine Ac ?_;rw[DE hlt];refine Ah (by omega) ?_;have g:=Lv K (a:=AN v) (AA _) (by omega) 10 (by omega);rw[AP]at g;refine Ab g ?_;simp only[eN,Fh,ND,DK,Aa];rw[Aw,Bv hlt];refine Ac ?_;rw[DE hlt];rw[Ait hd2,Bz (by omega)];have l3:(AN (v*10)).length<=i+1:=Bw (by have:=UO hv (d:=0) (by omega);simpa using this);have g2:=ID K (a:=AN (v*10)) (b:=[s.data.toList[i].toNat-48]) (by omega) (AA _) (by simp) (Ov (by omega));rw[AP,show Ag [s.data.toList[i].toNat-48]=s.data.toList[i].toNat-48 by simp[Ag]]at g2;refine Ab g2 ?_;simp only[eN,Fh,ND,DK,Aa];rw[A8 (by omega)];refine Ab ih' ?_;rfl
   .rw[if_neg h]at ih' ⊢
    refine K.lp' NJ _ rfl (by kernel_rfl) ((QV ..).trans ?_);rw[Ch];refine Ai (by omega) ?_;rw[Aw,Bv hlt];refine Ac ?_;rw[DE hlt];refine Ah (by omega) ?_;rw[Aw,Bv hlt];refine Ac ?_;rw[DE hlt];refine Ah (by omega) ?_;have g:=Lv K (a:=AN v) (AA _) (by omega) 10 (by omega);rw[AP]at g;refine Ab g ?_;simp only[eN,Fh,ND,DK,Aa];rw[Aw,Bv hlt];refine Ac ?_;rw[DE hlt];rw[Ait hd2,Bz (by omega)];have l3:(AN (v*10)).length<=i+1:=Bw (by have:=UO hv (d:=0) (by omega);simpa using this);have g2:=ID K (a:=AN (v*10)) (b:=[s.data.toList[i].toNat-48]) (by omega) (AA _) (by simp) (Ov (by omega));rw[AP,show Ag [s.data.toList[i].toNat-48]=s.data.toList[i].toNat-48 by simp[Ag]]at g2;refine Ab g2 ?_;simp only[eN,Fh,ND,DK,Aa];rw[A8 (by omega)];refine Ab ih' ?_;rfl
theorem Ls(s:ByteArray):D.ask (.fn 182) [sv s] []=some (.tup [eN (Hb s).1,iv (Hb s).2],[]):=by
 refine K.fn' NJ _ rfl ((AnH ..).trans ?_);unfold Hb;rw[Ch]
 by_cases h1:4000<s.size
 .rw[if_pos h1]
  exact Ai (by omega) rfl
 rw[if_neg h1];refine Ah (by omega) ?_;have g:=Yt K (s:=s) (by omega) s.size 0 0 (by omega) (by omega) (by simp);rw[π,Es]at g
 by_cases h2:s.size=0
 .rw[if_pos h2]
  have h3:s=ByteArray.empty:=by simpa using h2
  subst h3;rw[if_pos (show ByteArray.empty.data.toList.all GH=true from rfl)]at g;refine Ab g ?_;simp only[eN,Fh,ND,DK,Aa];rfl
 rw[if_neg h2]
 by_cases h3:s.data.toList.all GH=true
 .rw[if_pos h3]at g ⊢
  refine Ab g ?_;simp only[eN,Fh,ND,DK,Aa];rw[Ch];refine Am (by omega) ?_;have l1:(AN (hor 0 s.data.toList)).length<=s.size:=Bw (by
   have:=UR s.data.toList h3 (v:=0) (i:=0) (by simp)
   rwa [ApN,show s.data.toList.length=s.size by simp]at this)
  have g2:=E5 K (l:=AN (hor 0 s.data.toList)) (by unfold Cu;omega) (AA _);rw[AP]at g2;refine Ab g2 ?_;rfl
 .rw[if_neg h3]at g ⊢
  refine Ab g ?_;rfl
theorem Ab8{a b:List Nat}(hl:a.length=b.length)(hs:Cu a):∀(k i:Nat),a.length-i=k->i<=a.length->D.ask (.lp 258 0) [eN a,eN b,iv (i:Int)] []=if a.drop i=b.drop i then some (.tup [iv 0],[]) else some (.tup [bv true,bv false],[]):=by
 intro k;unfold Cu at hs
 induction k with
 |zero=>
  intro i hk hi;rw[Apz (show a.length<=i by omega),Apz (show b.length<=i by omega),if_pos rfl];refine K.lp' NL _ rfl (by kernel_rfl) ((QY ..).trans ?_);rw[Ao];exact Ah (by omega) rfl
 |succ k ih=>
  intro i hk hi;have h1:i<a.length:=by omega
  have h2:i<b.length:=by omega
  have ih':=ih (i+1) (by omega) (by omega);rw[χ h1,χ h2]
  by_cases h:a[i]=b[i]
  .by_cases h3:a.drop (i+1)=b.drop (i+1)
   .rw[if_pos h3]at ih'
    rw[if_pos (by rw[h,h3])];refine K.lp' NL _ rfl (by kernel_rfl) ((QY ..).trans ?_);rw[Ao];refine Ai (by omega) ?_;rw[Aw,Au (Φ h1)];simp only[eL,Fh,ND,DK,Aa];rw[Aw,Au (Φ h2)];simp only[eL,Fh,ND,DK,Aa];rw[A8 (by omega)];refine Av (by omega) ?_;refine Ab ih' ?_;rfl
   .rw[if_neg h3]at ih'
    rw[if_neg (λe=>h3 (List.cons.inj e).2)];refine K.lp' NL _ rfl (by kernel_rfl) ((QY ..).trans ?_);rw[Ao];refine Ai (by omega) ?_;rw[Aw,Au (Φ h1)];simp only[eL,Fh,ND,DK,Aa];rw[Aw,Au (Φ h2)];simp only[eL,Fh,ND,DK,Aa];rw[A8 (by omega)];refine Av (by omega) ?_;refine Ab ih' ?_;rfl
  .rw[if_neg (λe=>h (List.cons.inj e).1)]
   refine K.lp' NL _ rfl (by kernel_rfl) ((QY ..).trans ?_);rw[Ao];refine Ai (by omega) ?_;rw[Aw,Au (Φ h1)];simp only[eL,Fh,ND,DK,Aa];rw[Aw,Au (Φ h2)];simp only[eL,Fh,ND,DK,Aa];rw[A8 (by omega)];exact Am (by omega) rfl
theorem AbT{a b:List Nat}(hs:Cu a):D.ask (.fn 258) [eN a,eN b] []=some (bv (decide (a=b)),[]):=by
 refine K.fn' NL _ rfl ((Aoc ..).trans ?_);rw[Ao,Ao]
 by_cases hl:a.length=b.length
 .refine Av (by omega) ?_
  have g:=Ab8 K hl hs a.length 0 (by omega) (by omega);rw[π,π]at g
  by_cases h:a=b
  .rw[if_pos h]at g
   rw[decide_eq_true h];refine Ab g ?_;rfl
  .rw[if_neg h]at g
   rw[decide_eq_false h];refine Ab g ?_;rfl
 .refine Am (by omega) ?_
  rw[decide_eq_false (λe=>hl (by rw[e]))]
end
end Go.Proofs.YtlmhajfbpplpoaaGreat
