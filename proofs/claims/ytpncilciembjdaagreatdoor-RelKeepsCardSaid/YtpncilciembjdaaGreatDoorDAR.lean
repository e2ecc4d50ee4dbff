/- What long division comes -/
import Derived.Test.YtpncilciembjdaaGreatDoorDAQ
set_option linter.all false
open Bool renaming true->Δ,and_eq_true->ApZ
open List renaming append_assoc->Ap7,drop->Aqe,drop_drop->Ar2,drop_eq_getElem_cons->ApV,drop_left'->ArL,drop_one->AtU,getElem?_append_right->Aqf,getElem?_eq_getElem->φ,headD_cons->Arh,length_append->χ,length_drop->Ars,length_replicate->Asa,length_set->Aqc,length_singleton->AqB,length_take->Aqh,map_take->AsO,replicate->Arm,take->Ap2,take_append_drop->AqU,take_left'->ArU,take_of_length_le->Aq6,take_succ_eq_append_getElem->AqL
open Nat renaming add_mul->Aqz,add_sub_cancel->Aq0,add_sub_cancel_left->ArD,add_zero->AqJ,ble->Ap3,blt->AqK,div_eq_of_lt->AsY,eq_zero_or_pos->Aq7,le_trans->Aqs,lt_of_le_of_lt->Ato,lt_of_lt_of_le->AqM,lt_of_mul_lt_mul_left->Asi,min_eq_left->AqW,mod_eq_of_lt->Aq3,mod_lt->AqR,mul_add->AqS,mul_assoc->Aqr,mul_comm->AqH,mul_le_mul_left->Arw,mul_le_mul_right->Aqb,mul_lt_mul_of_pos_right->ArT,mul_one->Ar1,mul_zero->As2,one_mul->Aq8,pow_add->AsK,pow_succ->Ary,sub_self->Asf,two_pow_pos->AtN,zero_add->Ap6,zero_le->AqC
open Option renaming some->Θ
namespace Go.Proofs.YtpncilciembjdaaGreatDoor
open ABlk renaming mk->θ
open IntKind renaming u64->Ω
open Go.RowKit
theorem Acz{l:List Nat}(j i:Nat)(h:j+i<l.length)(k:List AV->KR):EZ (Ag eL l) (j+i*1) 1 k=k [.v (.int .u32 (l[j+i]:Int))]:=by
 rw[show j+i*1=0+(j+i)*1 by omega];exact Ju l _ h k
section
variable {D:Orc} (K:Knows Dk IX D)
include K
theorem Abf(d:List Nat)(hd:Limbs d)(U:List Nat)(hU:Limbs U)(o n f:Nat)(h2:2<=d.length)(hdl:d.length<=1000000000)(hn:d.length-2<n)(hou:o+(d.length-2)<U.length)(hdi:d.length-2<d.length)(hf:f<4294967296):∀(k g r:Nat),g<=4294967297->r<4294967296->4294967296<=r+k*f->
  D.ask (.lp 239 0) [.sl 0 o n 1,eN d,iv (d.length:Int),.v (.int .u64 (f:Int)),.v (.int .u64 (g:Int)),.v (.int .u64 (r:Int))] [θ (Ag eL U) Δ Δ]
   = Θ (.tup [iv 0,.v (.int .u64 (Hl f d[d.length-2] U[o+(d.length-2)] k g r:Int))],[.keep]):=by
 have hv:=hd.get hdi;have hu:=hU.get hou;intro k
 induction k with
 |zero=>intro g r _ h1 h3;omega
 |succ k ih=>
  intro g r hg hr hk;have hk2:4294967296<=r+f+k*f:=by rw[Aqz,Aq8]at hk;omega
  rw[Hl];have hsub:Ad.sub .i64 (d.length:Int) 2=((d.length-2:Nat):Int):=PB (j:=2) h2 (by omega);have hadd:Ad.add .u64 (r:Int) (f:Int)=((r+f:Nat):Int):=Cq (by omega);have tail:1<=g->(br (Ad.le 4294967296 (Ad.add .u64 (r:Int) (f:Int)))
     (Θ ((AV.tup [iv 0,AV.v (Value.int Ω (Ad.sub Ω (g:Int) 1))],[BO.keep])))
     (AK D (Key.lp 239 0) [AV.sl 0 o n 1,AV.ls (d.map eL),iv (d.length:Int),AV.v (Value.int Ω (f:Int)),AV.v (Value.int Ω (Ad.sub Ω (g:Int) 1)),AV.v (Value.int Ω (Ad.add Ω (r:Int) (f:Int)))] [θ (Ag eL U) Δ Δ] λr o=>
     AF 1 [0] (AH.mk [(0,θ (Ag eL U) Δ Δ)] 1 none) [] r o))
    = Θ (.tup [iv 0,.v (.int .u64 ((if 4294967296<=r+f then g-1 else Hl f d[d.length-2] U[o+(d.length-2)] k (g-1) (r+f):Nat):Int))],[.keep]):=λh1=>by
   rw[hadd,show Ad.sub .u64 (g:Int) 1=((g-1:Nat):Int) from FK (y:=1) h1 (by omega)]
   by_cases hb:4294967296<=r+f
   .rw[if_pos hb]
    exact KW (by omega)
   .rw[if_neg hb]
    refine DA ?_;refine Ab (ih (g-1) (r+f) (by omega) (by omega) hk2) ?_;rfl
  refine Ax K Rm (Ad8 ..) ?_
  by_cases hB:4294967296<=g
  .rw[if_pos (.inl hB)]
   refine CI ?_;exact tail (by omega)
  .refine DA ?_
   rw[hsub,At,AB (φ hdi)];simp only[eL,KQ,ND,DK,Aa];refine Ak ?_ (by decide);rw[At,show AqK (d.length-2) n=Δ from Bv hn];refine Ac ?_;refine(Acz o _ hou _).trans ?_;refine(cuN _ _).trans ?_;have hgv:=Lo (show g<4294967296 by omega) hv;rw[A1 (show U[o+(d.length-2)]<_ by omega),A1 (show d[d.length-2]<_ by omega),Kg hr,OA hu hr,MZ (by omega)]
   by_cases hc:r*4294967296+U[o+(d.length-2)]<g*d[d.length-2]
   .rw[if_pos (.inr hc)]
    refine Al ?_;exact tail (by
     rcases Aq7 g with e|e
     .rw[e]at hc;omega
     .exact e)
   .rw[if_neg (λh=>h.elim hB hc)]
    exact C3 (by omega)
theorem VH{d:List Nat}(hd:Limbs d){U:List Nat}(hU:Limbs U){o n:Nat}(h2:2<=d.length)(hdl:d.length<=1000000000)(hn:d.length<n)(hou:o+n<=U.length)(h1:d.length-1<d.length)(h1':d.length-2<d.length)(hu0:o+d.length<U.length)(hu1:o+(d.length-1)<U.length)(hu2:o+(d.length-2)<U.length)(hf:2147483648<=d[d.length-1])
  (hT:U[o+d.length]*4294967296+U[o+(d.length-1)]<=d[d.length-1]*4294967296+d[d.length-2]) :
  D.ask (.fn 239) [.sl 0 o n 1,eN d] [θ (Ag eL U) Δ Δ]=Θ (.v (.int .u64 (Hl d[d.length-1] d[d.length-2] U[o+(d.length-2)] 2 ((U[o+d.length]*4294967296+U[o+(d.length-1)]) / d[d.length-1]) ((U[o+d.length]*4294967296+U[o+(d.length-1)]) % d[d.length-1]):Int)),[.keep]):=by
 have hx0:=hU.get hu0;have hx1:=hU.get hu1;have hfl:=hd.get h1;have hg:=Abc (hd.get h1') hf hT;have hm:=AqR (U[o+d.length]*4294967296+U[o+(d.length-1)]) (show 0<d[d.length-1] by omega);have g:=Abf K d hd U hU o n d[d.length-1] h2 hdl (by omega) hu2 h1' hfl 2 ((U[o+d.length]*4294967296+U[o+(d.length-1)]) / d[d.length-1]) ((U[o+d.length]*4294967296+U[o+(d.length-1)]) % d[d.length-1]) hg (by omega) (by omega);have hsub:Ad.sub .i64 (d.length:Int) 1=((d.length-1:Nat):Int):=PB (j:=1) (by omega) (by omega);refine AI K Rm (AlV ..) ?_;rw[Aw,show AqK d.length n=Δ from Bv hn];refine Ac ?_;refine(Acz o _ hu0 _).trans ?_;simp only[KQ,ND,DK,Aa];refine Ak ?_ (by decide);rw[hsub];simp only[At];rw[show AqK (d.length-1) n=Δ from Bv (by omega)];refine Ac ?_;refine(Acz o _ hu1 _).trans ?_;refine(cuN _ _).trans ?_;rw[AB (φ h1)];simp only[eL,KQ,ND,DK,Aa];rw[A1 (show d[d.length-1]<_ by omega),A1 (show U[o+d.length]<_ by omega),A1 (show U[o+(d.length-1)]<_ by omega),Kg hx0,OA hx1 hx0,Acw (by omega),Acy];refine Bm ?_;refine Bm ?_;refine Ab g ?_;rfl
end
theorem Ais{w:List Nat}(h:2<=w.length)(h1:w.length-1<w.length)(h2:w.length-2<w.length):w=w.take (w.length-2)++[w[w.length-2],w[w.length-1]]:=by
 have e:w.length-2+1=w.length-1:=by omega
 have:=AqU (w.length-2) w;rw[ApV h2]at this;simp only[e]at this;rw[ApV h1,List.drop_eq_nil_of_le (by omega)]at this;exact this.symm
theorem Ahj{w:List Nat}{x:Nat}(h:2<=w.length)(h1:w.length-1<w.length)(h2:w.length-2<w.length):Ae (w++[x])=((x*4294967296+w[w.length-1])*4294967296+w[w.length-2])*4294967296 ^ (w.length-2)+Ae (w.take (w.length-2)):=by
 have e:w++[x]=w.take (w.length-2)++[w[w.length-2],w[w.length-1],x]:=by
  have:=Ais h h1 h2
  conv=>lhs;rw[this]
  simp
 rw[e,By,Aqh,AqW (by omega)];simp only[Ae];rw[AqH (4294967296 ^ (w.length-2))];generalize 4294967296 ^ (w.length-2)=P;rw[show w[w.length-2]+4294967296*(w[w.length-1]+4294967296*(x+4294967296*0))=(x*4294967296+w[w.length-1])*4294967296+w[w.length-2] by omega];omega
theorem Ahd{w:List Nat}(h:2<=w.length)(h1:w.length-1<w.length)(h2:w.length-2<w.length):Ae w=(w[w.length-1]*4294967296+w[w.length-2])*4294967296 ^ (w.length-2)+Ae (w.take (w.length-2)):=by
 have e:=congrArg Ae (Ais h h1 h2);rw[By,Aqh,AqW (by omega)]at e;refine e.trans ?_;simp only[Ae];rw[AqH (4294967296 ^ (w.length-2))];rw[show w[w.length-2]+4294967296*(w[w.length-1]+4294967296*0)=w[w.length-1]*4294967296+w[w.length-2] by omega];omega
theorem Ael{P f v vl ul wl T W Dv:Nat}(hvl:vl<P)(hDv:Dv=(f*4294967296+v)*P+vl)(hW:W=(T*4294967296+ul)*P+wl)(hWD:W<Dv*4294967296):T<=f*4294967296+v:=by
 by_cases h:T<=f*4294967296+v
 .exact h
 .exfalso
  have h1:(f*4294967296+v+1)*4294967296*P<=(T*4294967296+ul)*P:=Aqb _ (by omega);have h2:Dv*4294967296<=(f*4294967296+v+1)*4294967296*P:=by
   rw[hDv,Aqr _ 4294967296 P,AqH 4294967296 P,←Aqr];exact Aqb _ (by rw[Aqz _ 1 P,Aq8];omega)
  omega
def gW(d w:List Nat)(x:Nat):Nat:=Hl (d.getD (d.length-1) 0) (d.getD (d.length-2) 0) (w.getD (d.length-2) 0) 2 ((x*4294967296+w.getD (d.length-1) 0) / d.getD (d.length-1) 0) ((x*4294967296+w.getD (d.length-1) 0) % d.getD (d.length-1) 0)
theorem Cz{l:List Nat}{i:Nat}(h:i<l.length):l.getD i 0=l[i]:=by
 rw[List.getD_eq_getElem?_getD,φ h];rfl
theorem W1{d w:List Nat}{x:Nat}(hd:Limbs d)(hw:Limbs (w++[x]))(hl:w.length=d.length)(h2:2<=d.length)(hf:2147483648<=d.getD (d.length-1) 0)(hW:Ae (w++[x])<Ae d*4294967296) :
  Gs (Ae (w++[x])) (Ae d) (gW d w x)/\x*4294967296+w.getD (d.length-1) 0<=d.getD (d.length-1) 0*4294967296+d.getD (d.length-2) 0:=by
 have d1:d.length-1<d.length:=by omega
 have d2:d.length-2<d.length:=by omega
 have w1:w.length-1<w.length:=by omega
 have w2:w.length-2<w.length:=by omega
 have ed:=Ahd h2 d1 d2;have ew:=Ahj (x:=x) (by omega) w1 w2;unfold gW;rw[←Cz d1,←Cz d2]at ed;rw[←Cz w1,←Cz w2,hl]at ew;have hww:Limbs w:=λy hy=>hw y (by simp[hy])
 have b1:=B8 (hd.take (d.length-2));have b2:=B8 (hww.take (d.length-2));rw[Aqh,AqW (by omega)]at b1 b2;have c1:=hd.get d1;have c2:=hd.get d2;have c3:=hww.get w2;rw[←Cz d1]at c1;rw[←Cz d2]at c2;rw[←Cz w2,hl]at c3;generalize d.getD (d.length-1) 0=f at *;generalize d.getD (d.length-2) 0=v at *;generalize w.getD (d.length-2) 0=ul at *;generalize w.getD (d.length-1) 0=y at *;obtain⟨T,hT⟩:∃ T,T=x*4294967296+y:=⟨_,rfl⟩;rw[←hT]at ew ⊢;generalize Ae (w++[x])=W at *;generalize Ae d=Dv at *;generalize Ae (d.take (d.length-2))=vl at *;generalize Ae (w.take (d.length-2))=wl at *;generalize 4294967296 ^ (d.length-2)=P at *;have hm:=AqR T (show 0<f by omega);refine⟨VG c2 b1 b2 hf ed ew hW 2 _ _ (by rw[AqH];exact Nat.div_add_mod T f) ?_ (by omega) (by omega),Ael b1 ed ew hW⟩;have g:=Aek (Q:=4294967296*P) (f:=f) (dl:=v*P+vl) (T:=T) (ul:=ul*P+wl) ?_ (by omega)
 .rw[ed,ew]
  have e1:(T*4294967296+ul)*P+wl=T*(4294967296*P)+(ul*P+wl):=by rw[Aqz,Aqr];omega
  have e2:(f*4294967296+v)*P+vl=f*(4294967296*P)+(v*P+vl):=by rw[Aqz,Aqr];omega
  rw[e1,e2];exact g
 .have:(ul+1)*P<=4294967296*P:=Aqb _ c3
  rw[Aqz,Aq8]at this;omega
def tW(d w:List Nat)(x:Nat):Nat:=DC (gW d w x) 0 d+CY (gW d w x) 0 0 w d
def aW(d w:List Nat)(x:Nat):List Nat:=Dm (gW d w x) 0 0 w d
def aX(d w:List Nat)(x:Nat):Nat:=(x+4294967296-tW d w x) % 4294967296
theorem Adr{d w:List Nat}{x:Nat}(hd:Limbs d)(hw:Limbs (w++[x]))(hl:w.length=d.length)(h2:2<=d.length)(hf:2147483648<=d.getD (d.length-1) 0)(hW:Ae (w++[x])<Ae d*4294967296) :
  Limbs (aW d w x++[aX d w x])/\(aW d w x).length=d.length ∧
  (¬ x<tW d w x->Ae (aW d w x++[aX d w x])+gW d w x*Ae d=Ae (w++[x])/\Ae (aW d w x++[aX d w x])<Ae d) ∧
  (x<tW d w x->1<=gW d w x/\Limbs (CZ 0 (aW d w x) d++[(aX d w x+CG 0 (aW d w x) d) % 4294967296]) ∧
   Ae (CZ 0 (aW d w x) d++[(aX d w x+CG 0 (aW d w x) d) % 4294967296])+(gW d w x-1)*Ae d=Ae (w++[x]) ∧
   Ae (CZ 0 (aW d w x) d++[(aX d w x+CG 0 (aW d w x) d) % 4294967296])<Ae d):=by
 obtain⟨hG,_⟩:=W1 hd hw hl h2 hf hW;have hww:Limbs w:=λy hy=>hw y (by simp[hy])
 have hx:x<4294967296:=hw x (by simp);have la:(aW d w x).length=d.length:=F5 ..;have hA:=Aak (m:=gW d w x) hww hd hl hG.lt hx;have hmod:=AqR (x+4294967296-tW d w x) (show 0<4294967296 by omega);have hLm:Limbs (aW d w x++[aX d w x]):=CR (Hf _ 0 0 w d hww (AqC _)) (Bg hmod BT);have hS:=Ac0 hl la hd rfl rfl hG hLm hA;have haw:Limbs (aW d w x):=Hf _ 0 0 w d hww (AqC _);have hB:=Aap (ul:=aX d w x) haw hd la hmod;refine⟨hLm,la,hS.1,λh=>?_⟩;obtain⟨h3,h4,h5⟩:=hS.2 h;refine⟨h3,CR (Hg 0 _ _) (Bg (AqR _ (by omega)) BT),?_⟩;rw[hB];exact⟨h4,h5⟩
section
variable {D:Orc} (K:Knows Dk IX D)
include K
theorem Ajn{d:List Nat}(hd:Limbs d){m:Nat}(hm:m<4294967296){A w Z:List Nat}{x:Nat}(hU:Limbs (A++(w++[x])++Z))(hl:w.length=d.length)(hUl:(A++(w++[x])++Z).length<=1000000000) :
  D.ask (.fn 240) [.sl 0 A.length (d.length+1) 1,eN d,.v (.int .u64 (m:Int))] [θ (Ag eL (A++(w++[x])++Z)) Δ Δ]
   = Θ (bv (decide (x<DC m 0 d+CY m 0 0 w d)),[.set (θ (Ag eL (A++(Dm m 0 0 w d++[(x+4294967296-(DC m 0 d+CY m 0 0 w d)) % 4294967296])++Z)) Δ Δ)]):=by
 have hlen:A.length+d.length<(A++(w++[x])++Z).length:=by simp;omega
 have g:=UA K hd hm hU hlen hUl;have e1:(A++(w++[x])++Z).take A.length=A:=by rw[Ap7,ArU];rfl
 have e2:((A++(w++[x])++Z).drop A.length).take d.length=w:=by
  rw[Ap7,ArL rfl,Ap7,ArU hl]
 have e3:(A++(w++[x])++Z)[A.length+d.length]=x:=by
  have:(A++(w++[x])++Z)[A.length+d.length]? = Θ x:=by
   rw[Ap7,Aqf (by omega),ArD,Ap7,Aqf (by omega),hl,Asf];rfl
  rw[φ hlen]at this;injection this
 have e4:(A++(w++[x])++Z).drop (A.length+(d.length+1))=Z:=by
  rw[ArL (by simp;omega)]
 rw[Nh,Nj,e1,e2,e3,e4]at g;exact g
theorem Ajo{d:List Nat}(hd:Limbs d){A w Z:List Nat}{x:Nat}(hU:Limbs (A++(w++[x])++Z))(hl:w.length=d.length)(hUl:(A++(w++[x])++Z).length<=1000000000) :
  D.ask (.fn 241) [.sl 0 A.length (d.length+1) 1,eN d] [θ (Ag eL (A++(w++[x])++Z)) Δ Δ]
   = Θ (.tup [],[.set (θ (Ag eL (A++(CZ 0 w d++[(x+CG 0 w d) % 4294967296])++Z)) Δ Δ)]):=by
 have hlen:A.length+d.length<(A++(w++[x])++Z).length:=by simp;omega
 have g:=V7 K hd hU hlen hUl;have e1:(A++(w++[x])++Z).take A.length=A:=by rw[Ap7,ArU];rfl
 have e2:((A++(w++[x])++Z).drop A.length).take d.length=w:=by
  rw[Ap7,ArL rfl,Ap7,ArU hl]
 have e3:(A++(w++[x])++Z)[A.length+d.length]=x:=by
  have:(A++(w++[x])++Z)[A.length+d.length]? = Θ x:=by
   rw[Ap7,Aqf (by omega),ArD,Ap7,Aqf (by omega),hl,Asf];rfl
  rw[φ hlen]at this;injection this
 have e4:(A++(w++[x])++Z).drop (A.length+(d.length+1))=Z:=by
  rw[ArL (by simp;omega)]
 rw[Nm,Nl,e1,e2,e3,e4]at g;exact g
theorem Aem{d:List Nat}(hd:Limbs d){A w Z:List Nat}{x:Nat}(hU:Limbs (A++(w++[x])++Z))(hl:w.length=d.length)(hdl:d.length<=1000000000)(h2:2<=d.length)(hf:2147483648<=d.getD (d.length-1) 0){n:Nat}(hn:d.length<n)(hou:A.length+n<=(A++(w++[x])++Z).length)
  (hT:x*4294967296+w.getD (d.length-1) 0<=d.getD (d.length-1) 0*4294967296+d.getD (d.length-2) 0) :
  D.ask (.fn 239) [.sl 0 A.length n 1,eN d] [θ (Ag eL (A++(w++[x])++Z)) Δ Δ]=Θ (.v (.int .u64 (gW d w x:Int)),[.keep]):=by
 have d1:d.length-1<d.length:=by omega
 have d2:d.length-2<d.length:=by omega
 have w1:d.length-1<w.length:=by omega
 have w2:d.length-2<w.length:=by omega
 have u0:A.length+d.length<(A++(w++[x])++Z).length:=by simp;omega
 have u1:A.length+(d.length-1)<(A++(w++[x])++Z).length:=by simp;omega
 have u2:A.length+(d.length-2)<(A++(w++[x])++Z).length:=by simp;omega
 have at0:(A++(w++[x])++Z)[A.length+d.length]=x:=by
  have:(A++(w++[x])++Z)[A.length+d.length]? = Θ x:=by
   rw[Ap7,Aqf (by omega),ArD,Ap7,Aqf (by omega),hl,Asf];rfl
  rw[φ u0]at this;injection this
 have atw:∀ i (h:A.length+i<(A++(w++[x])++Z).length) (hi:i<w.length),(A++(w++[x])++Z)[A.length+i]=w.getD i 0:=λi h hi=>by
  have:(A++(w++[x])++Z)[A.length+i]? = Θ w[i]:=by
   rw[Ap7,Aqf (by omega),ArD,Ap7,List.getElem?_append_left hi,φ hi]
  rw[φ h]at this;injection this with this
  rw[this,Cz hi]
 have g:=VH K hd hU h2 hdl hn hou d1 d2 u0 u1 u2 (by rw[←Cz d1];exact hf) (by rw[at0,atw _ u1 w1,←Cz d1,←Cz d2];exact hT);rw[at0,atw _ u1 w1,atw _ u2 w2,←Cz d1,←Cz d2]at g;exact g
end
theorem Rn{l h n:Nat}(h1:l<=h)(h2:h<=n):L9 l h n=Δ:=by
 unfold L9;rw[show Ap3 l h=Δ by simpa using h1];simpa using h2
theorem UL(A v Z:List Nat):Ae (A++v++Z)=Ae A+4294967296 ^ A.length*(Ae v+4294967296 ^ v.length*Ae Z):=by
 rw[Ap7,By,By]
theorem Ahi{U:List Nat}{i n:Nat}(h:i+n<U.length):U=U.take i++((U.drop i).take n++[U[i+n]])++U.drop (i+n+1):=by
 have e:(U.drop i).take n++[U[i+n]]=(U.drop i).take (n+1):=by
  rw[AqL (by rw[Ars];omega),List.getElem_drop]
 rw[e,Ap7];have:U.drop (i+n+1)=(U.drop i).drop (n+1):=by rw[Ar2,Nat.add_assoc]
 rw[this,AqU,AqU]
theorem AgT{q:List Nat}{k v:Nat}(h:k<q.length){q2:List Nat}(hl:q2.length=q.length)(h2:q2.drop k=(q.set k v).drop k):Ae (q2.take (k+1))=Ae (q2.take k)+4294967296 ^ k*v:=by
 have hk:k<q2.length:=by omega
 have e:q2[k]=v:=by
  have h3:(q2.drop k).headD 0=((q.set k v).drop k).headD 0:=by rw[h2]
  rw[ApV hk,ApV (l:=q.set k v) (by rw[Aqc];exact h),Arh,Arh,List.getElem_set_self]at h3;exact h3
 rw[AqL hk,By,Aqh,AqW (by omega),e];simp[Ae]
section
variable {D:Orc} (K:Knows Dk IX D)
include K
theorem Aez{d:List Nat}(hd:Limbs d)(h2:2<=d.length)(hf:2147483648<=d.getD (d.length-1) 0)(s:Int):∀(k:Nat) (q U:List Nat),k<=q.length->U.length=q.length+d.length->U.length<=1000000000->Limbs q->Limbs U->Ae (U.drop k)<Ae d->
  ∃ q' U':List Nat,D.ask (.lp 204 0) [.sl 0 0 q.length 1,iv s,eN d,.sl 1 0 U.length 1,iv (d.length:Int),iv ((k:Int)-1)] [θ (Ag eL q) Δ Δ,θ (Ag eL U) Δ Δ]
   = Θ (.tup [iv 0,.sl 2 0 q.length 1,iv s,.sl 3 0 U.length 1,iv (d.length:Int)],[.del,.del,.set (θ (Ag eL q') Δ Δ),.set (θ (Ag eL U') Δ Δ)]) ∧
   q'.length=q.length/\U'.length=U.length/\Limbs q'/\Limbs U'/\q'.drop k=q.drop k/\Ae U'<Ae d/\Ae U=Ae (q'.take k)*Ae d+Ae U':=by
 intro k
 induction k with
 |zero=>
  intro q U hk hl hm hq hU hv;refine⟨q,U,?_,rfl,rfl,hq,hU,rfl,by simpa using hv,by simp[Ae]⟩;refine Ax K K7 (Ra ..) ?_;exact U2 (by omega)
 |succ k ih=>
  intro q U hk hl hm hq hU hv;have hin:k+d.length<U.length:=by omega
  have hcut:=Ahi hin;obtain⟨A,hA⟩:∃ A,A=U.take k:=⟨_,rfl⟩;obtain⟨w,hw⟩:∃ w,w=(U.drop k).take d.length:=⟨_,rfl⟩;obtain⟨x,hx⟩:∃ x,x=U[k+d.length]:=⟨_,rfl⟩;obtain⟨Z,hZ⟩:∃ Z,Z=U.drop (k+d.length+1):=⟨_,rfl⟩;rw[←hA,←hw,←hx,←hZ]at hcut;have hAl:A.length=k:=by rw[hA,Aqh];omega
  have hwl:w.length=d.length:=by rw[hw,Aqh,Ars];omega
  have hAL:Limbs A:=by rw[hA];exact hU.take _
  have hZL:Limbs Z:=by rw[hZ];exact hU.drop _
  have hwL:Limbs (w++[x]):=by rw[hw,hx];exact CR ((hU.drop _).take _) (Bg (hU.get hin) BT)
  have hdv:=B8 hd;have hUd:U.drop k=(w++[x])++Z:=by rw[hcut,Ap7,ArL hAl]
  have hUd1:(U.drop (k+1))=((w++[x]).drop 1)++Z:=by
   rw[show U.drop (k+1)=(U.drop k).drop 1 by rw[Ar2],hUd,List.drop_append_of_le_length (by simp)]
  have hZ0:Ae Z=0:=by
   rw[hUd1,By,Ars,χ,AqB,hwl,Aq0]at hv;rcases Aq7 (Ae Z) with e|e
   .exact e
   .exfalso
    have:4294967296 ^ d.length*1<=4294967296 ^ d.length*Ae Z:=Arw _ e;omega
  have hWD:Ae (w++[x])<Ae d*4294967296:=by
   obtain⟨y,hy⟩:∃ y,(w++[x])=y::(w++[x]).drop 1:=by
    cases w with
    |nil=>exact⟨x,rfl⟩
    |cons a w=>exact⟨a,rfl⟩
   have hy1:y<4294967296:=hwL y (by rw[hy];exact List.mem_cons_self ..);have hv1:Ae ((w++[x]).drop 1)<Ae d:=by
    rw[hUd1,By,hZ0]at hv;omega
   rw[hy,Ae,AtU];rw[AtU]at hv1;omega
  obtain⟨hG,hT⟩:=W1 hd hwL hwl h2 hf hWD;obtain⟨hLm,la,hnb,hbk⟩:=Adr hd hwL hwl h2 hf hWD;have hglt:=hG.lt;have hUlen:(A++(w++[x])++Z).length=U.length:=by rw[←hcut]
  have hU2:Limbs (A++(w++[x])++Z):=by rw[←hcut];exact hU
  have gg:=Aem K hd hU2 hwl (by omega) h2 hf (n:=U.length-k) (by omega) (by rw[hUlen,hAl];omega) hT;have ga:=Ajn K hd hglt hU2 hwl (by omega);rw[hAl,←hcut]at gg ga;have hLen1:(A++(aW d w x++[aX d w x])++Z).length=U.length:=by
   rw[←hUlen];simp only[χ,AqB,la,hwl]
  have key:∀(g:Nat) (v:List Nat),g<4294967296->v.length=d.length+1->Limbs v->Ae v+g*Ae d=Ae (w++[x])->Ae v<Ae d->
    ∃ q' U':List Nat,D.ask (.lp 204 0) [.sl 0 0 q.length 1,iv s,eN d,.sl 1 0 U.length 1,iv (d.length:Int),iv ((k:Int)-1)] [θ (Ag eL (q.set k g)) Δ Δ,θ (Ag eL (A++v++Z)) Δ Δ]
     = Θ (.tup [iv 0,.sl 2 0 q.length 1,iv s,.sl 3 0 U.length 1,iv (d.length:Int)],[.del,.del,.set (θ (Ag eL q') Δ Δ),.set (θ (Ag eL U') Δ Δ)]) ∧
     q'.length=q.length/\U'.length=U.length/\Limbs q'/\Limbs U'/\q'.drop (k+1)=q.drop (k+1)/\Ae U'<Ae d/\Ae U=Ae (q'.take (k+1))*Ae d+Ae U':=λg v hg hvl hvL he hlt=>by
   have hl1:(A++v++Z).length=U.length:=by
    rw[←hUlen];simp only[χ,AqB,hvl,hwl]
   obtain⟨q',U',h1,h3,h4,h5,h6,h7,h8,h9⟩:=ih (q.set k g) (A++v++Z) (by rw[Aqc];omega) (by rw[hl1,Aqc];exact hl) (by omega) (Iy hq hg) (CR (CR hAL hvL) hZL) (by
    rw[Ap7,ArL hAl,By,hZ0];omega)
   rw[Aqc]at h1 h3;rw[hl1]at h1 h4;refine⟨q',U',h1,h3,h4,h5,h6,?_,h8,?_⟩
   .have:=congrArg (Aqe 1) h7
    rw[Ar2,Ar2,List.drop_set_of_lt (by omega)]at this;exact this
   .have hqk:k<q.length:=by omega
    rw[AgT hqk h3 h7,Aqz];have e1:Ae U=Ae A+4294967296 ^ k*Ae (w++[x]):=by
     conv=>lhs;rw[hcut]
     rw[UL,hZ0,hAl];simp
    rw[UL,hZ0,hAl]at h9;rw[e1,←he,AqS,Aqr];simp only[As2,AqJ]at h9;omega
  have hqk:k<q.length:=by omega
  have hblt:AqK k q.length=Δ:=Bv hqk;have hble:Ap3 (0+k*1+1) (Ag eL q).length=Δ:=by rw[AP AE];simp;omega
  have hin1:L9 k U.length U.length=Δ:=Rn (by omega) (by omega);have hin2:L9 k (k+d.length+1) U.length=Δ:=Rn (by omega) (by omega);have hsub:Ad.sub .i64 (k:Int) 1=(k:Int)-1:=EH (by omega) (by omega);have hadd:Ad.add .i64 (Ad.add .i64 (k:Int) (d.length:Int)) 1=((k+d.length+1:Nat):Int):=by
   rw[Aac (by omega),BZ (by omega)]
  have h0k:0+k*1=k:=by omega
  by_cases hb:x<tW d w x
  .obtain⟨hg1,hL2,he,hlt⟩:=hbk hb
   have gb:=Ajo K hd (A:=A) (Z:=Z) (w:=aW d w x) (x:=aX d w x) (CR (CR hAL hLm) hZL) la (by omega);rw[hAl]at gb;obtain⟨q',U',h1,hr⟩:=key (gW d w x-1) _ (by omega) (by rw[χ,D8,AqB]) hL2 he hlt;refine⟨q',U',?_,hr⟩;refine Ax K K7 (Ra ..) ?_;rw[show (((k+1:Nat):Int)-1)=(k:Int) by omega];refine CI ?_;rw[At,hin1,h0k];refine Ac ?_;refine Ab gg ?_;simp only[uIk,ND,DK,Aa];rw[hadd,At,At,hin2,h0k,show k+d.length+1-k=d.length+1 by omega];refine Ac ?_;refine Ab ga ?_;simp only[ND,DK,Aa];rw[decide_eq_true (show x<DC (gW d w x) 0 d+CY (gW d w x) 0 0 w d from hb)];refine Ac ?_;rw[At,At,hin2,h0k,show k+d.length+1-k=d.length+1 by omega];refine Ac ?_;refine Ab gb ?_;simp only[ND,DK,Aa];rw[At,hblt,hble];refine Ac ?_;refine Ac ?_;rw[show Ad.sub .u64 (gW d w x:Int) 1=((gW d w x-1:Nat):Int) from FK (y:=1) hg1 (by omega),BW (by omega),show 0+k*1=0+(0+k)*1 by omega,CT _ _ _ (by omega),Ap6,hsub];refine Ab h1 ?_;rfl
  .obtain⟨he,hlt⟩:=hnb hb
   obtain⟨q',U',h1,hr⟩:=key (gW d w x) _ hglt (by rw[χ,la,AqB]) hLm he hlt;refine⟨q',U',?_,hr⟩;refine Ax K K7 (Ra ..) ?_;rw[show (((k+1:Nat):Int)-1)=(k:Int) by omega];refine CI ?_;rw[At,hin1,h0k];refine Ac ?_;refine Ab gg ?_;simp only[uIk,ND,DK,Aa];rw[hadd,At,At,hin2,h0k,show k+d.length+1-k=d.length+1 by omega];refine Ac ?_;refine Ab ga ?_;simp only[ND,DK,Aa];rw[decide_eq_false (show ¬ x<DC (gW d w x) 0 d+CY (gW d w x) 0 0 w d from hb)];refine B1 ?_;rw[At,hblt,hble];refine Ac ?_;refine Ac ?_;rw[BW (by omega),show 0+k*1=0+(0+k)*1 by omega,CT _ _ _ (by omega),Ap6,hsub];refine Ab h1 ?_;rfl
end
def Aex:ByteArray:=C2 [0,1,2,2,3,3,3,3,4,4,4,4,4,4,4,4,5,5,5,5,5,5,5,5,5,5,5,5,5,5,5,5,6,6,6,6,6,6,6,6,6,6,6,6,6,6,6,6,6,6,6,6,6,6,6,6,6,6,6,6,6,6,6,6,7,7,7,7,7,7,7,7,7,7,7,7,7,7,7,7,7,7,7,7,7,7,7,7,7,7,7,7,7,7,7,7,7,7,7,7,7,7,7,7,7,7,7,7,7,7,7,7,7,7,7,7,7,7,7,7,7,7,7,7,7,7,7,7,8,8,8,8,8,8,8,8,8,8,8,8,8,8,8,8,8,8,8,8,8,8,8,8,8,8,8,8,8,8,8,8,8,8,8,8,8,8,8,8,8,8,8,8,8,8,8,8,8,8,8,8,8,8,8,8,8,8,8,8,8,8,8,8,8,8,8,8,8,8,8,8,8,8,8,8,8,8,8,8,8,8,8,8,8,8,8,8,8,8,8,8,8,8,8,8,8,8,8,8,8,8,8,8,8,8,8,8,8,8,8,8,8,8,8,8,8,8,8,8,8,8,8,8,8,8,8,8]
def Ait(b:Nat):Bool:=match Ad.sat Aex b with
 |.ofNat t=>b == 0||(Ap3 1 t&&(Ap3 t 8&&(Ap3 (2 ^ (t-1)) b&&AqK b (2 ^ t))))
 |_=>false
theorem Aey:(List.range 256).all Ait=Δ:=by kernel_rfl
theorem Rx{b:Nat}(h:b<256)(h0:0<b):∃ t:Nat,Ad.sat Aex b=(t:Int)/\1<=t/\t<=8/\2 ^ (t-1)<=b/\b<2 ^ t:=by
 have:=List.all_eq_true.1 Aey b (List.mem_range.2 h);unfold Ait at this;split at this
 .rename_i t ht
  rw[Bool.or_eq_true,beq_iff_eq,ApZ,ApZ,ApZ]at this;rcases this with h1|⟨h1,h2,h3,h4⟩
  .omega
  .have h5:b+1<=2 ^ t:=by simpa[AqK]using h4
   exact⟨t,ht,by simpa using h1,by simpa using h2,by simpa using h3,h5⟩
 .exact absurd this (by decide)
theorem AjY:Ad.slen Aex=256:=by kernel_rfl
theorem MX{x:Nat}(h:x<256):Ad.conv .u8 (x:Int)=(x:Int):=by
 show IntKind.u8.wrap (x:Int)=_
 have e:IntKind.u8.wrap (x:Int)=(x:Int) % 256:=by simp[IntKind.wrap,IntKind.bits,IntKind.signed]
 rw[e];omega
theorem MY{x:Nat}(h:x<256):Ad.conv .i64 (x:Int)=(x:Int):=by
 show IntKind.i64.wrap (x:Int)=_
 rw[IntKind.wrap_i64];omega
theorem VR{x t:Nat}(k:Nat)(h1:1<=t)(h3:2 ^ (t-1)<=x / 2 ^ k)(h4:x / 2 ^ k<2 ^ t):2 ^ (k+t-1)<=x/\x<2 ^ (k+t):=by
 have hp:=AtN k;rw[show k+t-1=(t-1)+k by omega,show k+t=t+k by omega,AsK,AsK];exact⟨(Nat.le_div_iff_mul_le hp).1 h3,(Nat.div_lt_iff_lt_mul hp).1 h4⟩
section
variable {D:Orc} (K:Knows Dk IX D)
include K
theorem AbP{x:Nat}(h:x<4294967296)(h0:0<x):∃ L:Nat,D.ask (.fn 222) [.v (.int .u32 (x:Int))] []=Θ (iv (L:Int),[])/\1<=L/\L<=32/\2 ^ (L-1)<=x/\x<2 ^ L:=by
 have e:=AlR Ad D (x:Int);rw[show C2 [0,1,2,2,3,3,3,3,4,4,4,4,4,4,4,4,5,5,5,5,5,5,5,5,5,5,5,5,5,5,5,5,6,6,6,6,6,6,6,6,6,6,6,6,6,6,6,6,6,6,6,6,6,6,6,6,6,6,6,6,6,6,6,6,7,7,7,7,7,7,7,7,7,7,7,7,7,7,7,7,7,7,7,7,7,7,7,7,7,7,7,7,7,7,7,7,7,7,7,7,7,7,7,7,7,7,7,7,7,7,7,7,7,7,7,7,7,7,7,7,7,7,7,7,7,7,7,7,8,8,8,8,8,8,8,8,8,8,8,8,8,8,8,8,8,8,8,8,8,8,8,8,8,8,8,8,8,8,8,8,8,8,8,8,8,8,8,8,8,8,8,8,8,8,8,8,8,8,8,8,8,8,8,8,8,8,8,8,8,8,8,8,8,8,8,8,8,8,8,8,8,8,8,8,8,8,8,8,8,8,8,8,8,8,8,8,8,8,8,8,8,8,8,8,8,8,8,8,8,8,8,8,8,8,8,8,8,8,8,8,8,8,8,8,8,8,8,8,8,8,8,8,8,8,8,8]=Aex from rfl,AjY]at e;have s16:Ad.shr .u32 (x:Int) 16=((x / 65536:Nat):Int):=RY (k:=.u32) (r:=16) (by decide);have s8:∀ y:Nat,Ad.shr .u32 (y:Int) 8=((y / 256:Nat):Int):=λy=>RY (k:=.u32) (r:=8) (by decide)
 rw[s16,s8,s8]at e
 by_cases h16:65536<=x
 .by_cases h8:256<=x / 65536
  .obtain⟨t,ht,h1,h2,h3,h4⟩:=Rx (b:=x / 65536 / 256) (by omega) (by omega)
   rw[show x / 65536 / 256=x / 2 ^ 24 by rw[Nat.div_div_eq_div_mul]]at h3 h4;obtain⟨h5,h6⟩:=VR 24 h1 h3 h4;refine⟨24+t,?_,by omega,by omega,h5,h6⟩;refine K.fn' NX _ rfl (e.trans ?_);refine CI ?_;refine Ak ?_ (by decide);refine CI ?_;refine Ak ?_ (by decide);rw[MX (by omega),At,show AqK (x / 65536 / 256) 256=Δ from Bv (by omega)];refine Ac ?_;rw[ht,MY (by omega),EG (a:=16) (b:=8) (by decide) (by decide),EG (by omega) (by omega)];rw[show (16:Int)+8+(t:Int)=((24+t:Nat):Int) by omega]
  .obtain⟨t,ht,h1,h2,h3,h4⟩:=Rx (b:=x / 65536) (by omega) (by omega)
   obtain⟨h5,h6⟩:=VR 16 h1 h3 h4;refine⟨16+t,?_,by omega,by omega,h5,h6⟩;refine K.fn' NX _ rfl (e.trans ?_);refine CI ?_;refine Ak ?_ (by decide);refine DA ?_;rw[MX (by omega),At,show AqK (x / 65536) 256=Δ from Bv (by omega)];refine Ac ?_;rw[ht,MY (by omega),EG (by omega) (by omega)];rw[show (16:Int)+(t:Int)=((16+t:Nat):Int) by omega]
 .by_cases h8:256<=x
  .obtain⟨t,ht,h1,h2,h3,h4⟩:=Rx (b:=x / 256) (by omega) (by omega)
   obtain⟨h5,h6⟩:=VR 8 h1 h3 h4;refine⟨8+t,?_,by omega,by omega,h5,h6⟩;refine K.fn' NX _ rfl (e.trans ?_);refine DA ?_;refine CI ?_;refine Ak ?_ (by decide);rw[MX (by omega),At,show AqK (x / 256) 256=Δ from Bv (by omega)];refine Ac ?_;rw[ht,MY (by omega),EG (a:=0) (b:=8) (by decide) (by decide),EG (by omega) (by omega)];rw[show (0:Int)+8+(t:Int)=((8+t:Nat):Int) by omega]
  .obtain⟨t,ht,h1,h2,h3,h4⟩:=Rx (b:=x) (by omega) (by omega)
   refine⟨t,?_,by omega,by omega,h3,h4⟩;refine K.fn' NX _ rfl (e.trans ?_);refine DA ?_;refine DA ?_;rw[MX (by omega),At,show AqK x 256=Δ from Bv (by omega)];refine Ac ?_;rw[ht,MY (by omega),EG (by omega) (by omega),Int.zero_add]
theorem AmK{x:Nat}(h:x<4294967296)(h0:0<x):∃ s:Nat,D.ask (.fn 237) [.v (.int .u32 (x:Int))] []=Θ (iv (s:Int),[])/\s<=31/\2147483648<=x*2 ^ s/\x*2 ^ s<4294967296:=by
 obtain⟨L,g,h1,h2,h3,h4⟩:=AbP K h h0;have hp:=AtN (32-L);refine⟨32-L,?_,by omega,?_,?_⟩
 .refine AI K Abl (AlT ..) ?_
  refine Ab g ?_;simp only[ND,DK,Aa];rw[EH (by omega) (by omega),show (32:Int)-(L:Int)=((32-L:Nat):Int) by omega]
 .have:2 ^ (L-1)*2 ^ (32-L)<=x*2 ^ (32-L):=Aqb _ h3
  rw[←AsK,show L-1+(32-L)=31 by omega]at this;exact this
 .have:x*2 ^ (32-L)<2 ^ L*2 ^ (32-L):=ArT h4 hp
  rw[←AsK,show L+(32-L)=32 by omega]at this;exact this
end
theorem Wv{l:List Nat}(h:Limbs l)(h0:0<l.length):4294967296 ^ (l.length-1)*l.getD (l.length-1) 0<=Ae l/\Ae l<4294967296 ^ (l.length-1)*(l.getD (l.length-1) 0+1):=by
 have hk:l.length-1<l.length:=by omega
 have e:l=l.take (l.length-1)++[l[l.length-1]]:=by
  rw[←AqL hk,Aq6 (by omega)]
 have hv:=congrArg Ae e;rw[By,Aqh,AqW (by omega)]at hv;have hb:=B8 (h.take (l.length-1));rw[Aqh,AqW (by omega)]at hb;rw[Cz hk];simp only[Ae,As2,AqJ]at hv;rw[AqS,Ar1];omega
theorem DH{b:Nat}(h:0<(Aj b).length):4294967296 ^ ((Aj b).length-1)<=b/\b<4294967296 ^ (Aj b).length:=by
 refine⟨?_,?_⟩
 .by_cases h1:4294967296 ^ ((Aj b).length-1)<=b
  .exact h1
  .have:=B4 (n:=b) (k:=(Aj b).length-1) (by omega)
   omega
 .have:=B8 (Aq b)
  rwa [Az]at this
theorem TT{n k:Nat}(h1:4294967296 ^ k<=n)(h2:n<4294967296 ^ (k+1)):(Aj n).length=k+1:=by
 have:=Hv h1;have:=B4 h2;omega
theorem Ahc{b:Nat}(h:0<(Aj b).length):0<(Aj b).getD ((Aj b).length-1) 0:=by
 have h1:=(Wv (Aq b) h).2;have h2:=(DH h).1;rw[Az]at h1;rcases Aq7 ((Aj b).getD ((Aj b).length-1) 0) with e|e
 .rw[e]at h1
  omega
 .exact e
theorem AkC{b s:Nat}(hb:0<(Aj b).length)(hs:s<=31)(h1:2147483648<=(Aj b).getD ((Aj b).length-1) 0*2 ^ s)(h2:(Aj b).getD ((Aj b).length-1) 0*2 ^ s<4294967296) :
  (Aj (b*2 ^ s)).length=(Aj b).length/\2147483648<=(Aj (b*2 ^ s)).getD ((Aj b).length-1) 0/\4294967296 ^ ((Aj b).length-1)*2 ^ s<=b*2 ^ s:=by
 obtain⟨p0,p31,pq⟩:=Oy hs;obtain⟨t1,t2⟩:=Wv (Aq b) hb;rw[Az]at t1 t2;have hB:=(DH hb).1;generalize (Aj b).getD ((Aj b).length-1) 0=t at *;obtain⟨n,hn⟩:∃ n,(Aj b).length=n+1:=⟨(Aj b).length-1,by omega⟩;rw[hn,Aq0]at t1 t2 hB ⊢;have hP:0<4294967296 ^ n:=Nat.pow_pos (by omega);have ht:(t+1)*2 ^ s<=4294967296:=by
  have:t<2 ^ (32-s):=by
   rw[←pq,AqH]at h2;exact Asi h2
  have:=Arw (2 ^ s) this;rw[pq,AqH]at this;exact this
 have lo:4294967296 ^ n*2147483648<=b*2 ^ s:=by
  have h3:4294967296 ^ n*(t*2 ^ s)<=b*2 ^ s:=by
   rw[←Aqr];exact Aqb _ t1
  exact Aqs (Arw _ h1) h3
 have hi:b*2 ^ s<4294967296 ^ (n+1):=by
  have h3:b*2 ^ s<4294967296 ^ n*(t+1)*2 ^ s:=ArT t2 p0;rw[Aqr]at h3;rw[Ary];exact AqM h3 (Arw _ ht)
 have hlen:(Aj (b*2 ^ s)).length=n+1:=TT (by omega) hi;refine⟨hlen,?_,Aqb _ hB⟩;have t3:=(Wv (Aq (b*2 ^ s)) (by omega)).2;rw[Az,hlen,Aq0]at t3;have:=Asi (Ato lo t3);omega
theorem AkB{a s:Nat}(ha:0<(Aj a).length)(hs:s<=31):(Aj (a*2 ^ s)).length=(Aj a).length\/(Aj (a*2 ^ s)).length=(Aj a).length+1:=by
 obtain⟨p0,p31,pq⟩:=Oy hs;obtain⟨h1,h2⟩:=DH ha;have lo:4294967296 ^ ((Aj a).length-1)<=a*2 ^ s:=Aqs h1 (Nat.le_mul_of_pos_right _ p0);have hi:a*2 ^ s<4294967296 ^ ((Aj a).length+1):=by
  rw[Ary];exact AqM (ArT h2 p0) (Arw _ (by omega))
 have l1:=Hv lo;have l2:=B4 hi;omega
theorem AcZ{a b s:Nat}(hs:s<=31){U:List Nat}(hU:Ae U=a*2 ^ s)(hl:U.length=(Aj a).length+1)(hb:0<(Aj b).length)(hba:(Aj b).length<=(Aj a).length)(h3:4294967296 ^ ((Aj b).length-1)*2 ^ s<=b*2 ^ s) :
  Ae (U.drop (U.length-(Aj b).length))<b*2 ^ s:=by
 obtain⟨p0,p31,pq⟩:=Oy hs;have ha:=(DH (show 0<(Aj a).length by omega)).2;have e:=congrArg Ae (AqU (U.length-(Aj b).length) U);rw[By,Aqh,AqW (by omega),hU]at e;refine AqM ?_ h3;have h4:a*2 ^ s<4294967296 ^ (U.length-(Aj b).length)*(4294967296 ^ ((Aj b).length-1)*2 ^ s):=by
  rw[←Aqr,←AsK,show U.length-(Aj b).length+((Aj b).length-1)=(Aj a).length by omega];exact ArT ha p0
 exact Asi (Ato (by omega) h4)
section
variable {D:Orc} (K:Knows Dk IX D) (C:CloneF D)
include K C
theorem AeA{a b:Nat}(ha:(Aj a).length<=999999990)(hb:2<=(Aj b).length)(hab:(Aj b).length<=(Aj a).length):D.ask (.fn 204) [eN (Aj a),eN (Aj b)] []=Θ (.tup [eN (Aj (a / b)),eN (Aj (a % b))],[]):=by
 have hb1:(Aj b).length-1<(Aj b).length:=by omega
 have htop:=(Aq b).get hb1;have hpos:=Ahc (b:=b) (by omega);rw[Cz hb1]at hpos;obtain⟨s,gz,h31,hz1,hz2⟩:=AmK K htop hpos;obtain⟨p0,p31,pq⟩:=Oy h31;obtain⟨hdl,hdt,hdb⟩:=AkC (b:=b) (s:=s) (by omega) h31 (by rw[Cz hb1];exact hz1) (by rw[Cz hb1];exact hz2);have hal:=AkB (a:=a) (s:=s) (by omega) h31;have gb:=Xd K C (Aq b) (by omega) h31;have ga:=Xd K C (Aq a) (by omega) h31;rw[Az]at gb ga;have rest:∀ U:List Nat,Limbs U->U.length=(Aj a).length+1->Ae U=a*2 ^ s->∃ q' U':List Nat,D.ask (.lp 204 0) [.sl 0 0 ((Aj a).length+1-(Aj b).length) 1,iv (s:Int),eN (Aj (b*2 ^ s)),.sl 1 0 U.length 1,iv ((Aj b).length:Int),iv ((((Aj a).length+1-(Aj b).length:Nat):Int)-1)] [θ (Ag eL (Arm ((Aj a).length+1-(Aj b).length) 0)) Δ Δ,θ (Ag eL U) Δ Δ]
   = Θ (.tup [iv 0,.sl 2 0 ((Aj a).length+1-(Aj b).length) 1,iv (s:Int),.sl 3 0 U.length 1,iv ((Aj b).length:Int)],[.del,.del,.set (θ (Ag eL q') Δ Δ),.set (θ (Ag eL U') Δ Δ)]) ∧
   q'.length=(Aj a).length+1-(Aj b).length/\U'.length=U.length ∧
   D.ask (.fn 202) [eN q'] []=Θ (.sl 0 0 (Aj (a / b)).length 1,[.set (θ (Ag eL (Aj (a / b))) Δ Δ)]) ∧
   D.ask (.fn 242) [eN (U'.take (Aj b).length),iv (s:Int)] []=Θ (eN (Aj (a % b)),[]):=λU hU hUl hUv=>by
  have hst:=AcZ h31 hUv hUl (show 0<(Aj b).length by omega) hab hdb;obtain⟨q',U',g1,g2,g3,g4,g5,g6,g7,g8⟩:=Aez K (Aq (b*2 ^ s)) (by omega) (by rw[hdl];exact hdt) (s:Int) ((Aj a).length+1-(Aj b).length) (Arm ((Aj a).length+1-(Aj b).length) 0) U (by simp) (by rw[Asa,hUl,hdl];omega) (by omega) (λx hx=>by rw[List.eq_of_mem_replicate hx];omega) hU (by rw[Az,←hUl];exact hst);rw[Asa]at g1 g2;rw[hdl]at g1;rw[Az]at g7 g8;rw[Aq6 (by omega),hUv]at g8;have hq:Ae q'=a / b/\Ae U'=(a % b)*2 ^ s:=by
   have hbp:0<b*2 ^ s:=by omega
   have e1:a*2 ^ s / (b*2 ^ s)=Ae q':=by
    rw[g8,AqH,Nat.mul_add_div hbp,AsY g7,AqJ]
   have e2:a*2 ^ s % (b*2 ^ s)=Ae U':=by
    rw[g8,AqH,Nat.mul_add_mod,Aq3 g7]
   rw[Nat.mul_div_mul_right _ _ p0]at e1;rw[Nat.mul_mod_mul_right]at e2;exact⟨e1.symm,e2.symm⟩
  refine⟨q',U',g1,g2,g3,?_,?_⟩
  .have:=FZ K C (l:=q') (by unfold CA;omega) g4
   rwa [hq.1]at this
  .have ht:Ae (U'.take (Aj b).length)=Ae U':=by
    have e:=congrArg Ae (AqU (Aj b).length U');rw[By,Aqh,AqW (by omega)]at e;have hbd:=(DH (b:=b*2 ^ s) (by omega)).2;rw[hdl]at hbd;rcases Aq7 (Ae (U'.drop (Aj b).length)) with h0|h0
    .rw[h0]at e;omega
    .exfalso
     have:4294967296 ^ (Aj b).length*1<=4294967296 ^ (Aj b).length*Ae (U'.drop (Aj b).length):=Arw _ h0;omega
   have:=YZ K C (a:=U'.take (Aj b).length) (g5.take _) (by unfold CA;rw[Aqh];omega) h31
   rwa [ht,hq.2,Nat.mul_div_cancel _ p0]at this
 refine AI K K7 (AlQ ..) ?_;rw[Aw,show Ad.sub .i64 ((Aj b).length:Int) 1=(((Aj b).length-1:Nat):Int) from PB (j:=1) (by omega) (by omega),At,AB (φ hb1)];simp only[eL,KQ,ND,DK,Aa];refine Ab gz ?_;simp only[ND,DK,Aa];refine Ab gb ?_;simp only[ND,DK,Aa];refine Ab ga ?_;simp only[ND,DK,Aa];rcases hal with h|h
 .have hi:Ad.sub .i64 (Ad.add .i64 ((AS ((Aj a).map eL):Nat):Int) 1) ((Aj (a*2 ^ s)).length:Int)=((1:Nat):Int):=by
   rw[Aw,BZ (by omega),h,PB (by omega) (by omega)];simp
  have hU0:Ae (Aj (a*2 ^ s)++[0])=a*2 ^ s:=by
   rw[By,Az];simp[Ae]
  obtain⟨q',U',gl,hql,hUl,gT,gR⟩:=rest (Aj (a*2 ^ s)++[0]) (CR (Aq _) (Bg (by omega) BT)) (by simp[h]) hU0;rw[χ,AqB]at gl hUl;rw[hi,At];refine Ac ?_;refine B1 ?_;refine Ac ?_;rw[Ba (by omega) (by omega),Bb AE (Aj (a*2 ^ s)) (by omega)];refine Ac ?_;refine Ac ?_;have hi2:Ad.sub .i64 (((Aj (a*2 ^ s)).length+1:Nat):Int) ((Aj (b*2 ^ s)).length:Int)=(((Aj a).length+1-(Aj b).length:Nat):Int):=by
   rw[h,hdl,PB (by omega) (by omega)]
  have hi3:Ad.sub .i64 (((Aj a).length+1-(Aj b).length:Nat):Int) 1=(((Aj a).length+1-(Aj b).length:Nat):Int)-1:=EH (by omega) (by omega);have hchk:Bi (Aj (b*2 ^ s)).length 1 (Ap2 ((Aj (b*2 ^ s)).length*1) (Ag eL (Aj (b*2 ^ s))))=(Aj (b*2 ^ s)).map eL:=Bw AE _ rfl;have hcat:Aqe 0 (Ap2 (0+(Aj (a*2 ^ s)).length*1) (Ag eL (Aj (a*2 ^ s))))++BJ [.v (.int .u32 0)] (1*1)=Ag eL (Aj (a*2 ^ s)++[0]):=by
   rw[List.drop_zero,BH AE _ (by omega),Ig];exact BD eL _ 0
  rw[hi2,At,At,show Ap3 ((Aj a).length+1-(Aj b).length) ((Aj a).length+1-(Aj b).length)=Δ by simp];refine Ac ?_;rw[Ba (by omega) (by omega)];refine Ac ?_;rw[Bb AE _ (by omega)];refine Ac ?_;rw[hchk,hi3,hcat,Ig,hdl];refine Ab gl ?_;simp only[ND,DK,Aa];rw[Bb AE q' (by omega)];refine Ac ?_;rw[Bw AE q' hql.symm];refine Ab gT ?_;simp only[ND,DK,Aa];rw[At,Rn (AqC _) (by omega)];refine Ac ?_;have hU1:Ap2 ((Aj b).length*1) (Ag eL U')=Ag eL (U'.take (Aj b).length):=by
   rw[Ar1,EQ,EQ,AsO]
  rw[show Ap3 (0+(Aj b).length*1) (Ag eL U').length=Δ by rw[AP AE];simp;omega];refine Ac ?_;rw[hU1,←BH AE (U'.take (Aj b).length) (n:=(Aj b).length*1) (by simp;omega),Bw AE (U'.take (Aj b).length) (by rw[Aqh];omega)];refine Ab gR ?_;simp only[eN,ND,DK,Aa];rw[Bb AE _ (by omega)];refine Ac ?_;rw[Bw AE _ rfl]
 .have hi:Ad.sub .i64 (Ad.add .i64 ((AS ((Aj a).map eL):Nat):Int) 1) ((Aj (a*2 ^ s)).length:Int)=((0:Nat):Int):=by
   rw[Aw,BZ (by omega),h,PB (by omega) (by omega)];simp
  obtain⟨q',U',gl,hql,hUl,gT,gR⟩:=rest (Aj (a*2 ^ s)) (Aq _) h (Az _);rw[hi,At];refine Ac ?_;refine Ac ?_;have hi2:Ad.sub .i64 ((Aj (a*2 ^ s)).length:Int) ((Aj (b*2 ^ s)).length:Int)=(((Aj a).length+1-(Aj b).length:Nat):Int):=by
   rw[h,hdl,PB (by omega) (by omega)]
  have hi3:Ad.sub .i64 (((Aj a).length+1-(Aj b).length:Nat):Int) 1=(((Aj a).length+1-(Aj b).length:Nat):Int)-1:=EH (by omega) (by omega);have hchk:Bi (Aj (b*2 ^ s)).length 1 (Ap2 ((Aj (b*2 ^ s)).length*1) (Ag eL (Aj (b*2 ^ s))))=(Aj (b*2 ^ s)).map eL:=Bw AE _ rfl;rw[hi2,At,At,show Ap3 ((Aj a).length+1-(Aj b).length) ((Aj a).length+1-(Aj b).length)=Δ by simp];refine Ac ?_;rw[Ba (by omega) (by omega)];refine Ac ?_;rw[Bb AE _ (by omega)];refine Ac ?_;rw[hchk,hi3,Ig,hdl];refine Ab gl ?_;simp only[ND,DK,Aa];rw[Bb AE q' (by omega)];refine Ac ?_;rw[Bw AE q' hql.symm];refine Ab gT ?_;simp only[ND,DK,Aa];rw[At,Rn (AqC _) (by omega)];refine Ac ?_;have hU1:Ap2 ((Aj b).length*1) (Ag eL U')=Ag eL (U'.take (Aj b).length):=by
   rw[Ar1,EQ,EQ,AsO]
  rw[show Ap3 (0+(Aj b).length*1) (Ag eL U').length=Δ by rw[AP AE];simp;omega];refine Ac ?_;rw[hU1,←BH AE (U'.take (Aj b).length) (n:=(Aj b).length*1) (by simp;omega),Bw AE (U'.take (Aj b).length) (by rw[Aqh];omega)];refine Ab gR ?_;simp only[eN,ND,DK,Aa];rw[Bb AE _ (by omega)];refine Ac ?_;rw[Bw AE _ rfl]
theorem Ajc{a b:List Nat}(ha:Limbs a)(hal:a.length<=999999990)(hb:Limbs b)(hbl:b.length<=999999990):D.ask (.fn 144) [eN a,eN b] []
  = Θ (if Ae b=0 then .tup [.ls [],.ls [],iv 10] else .tup [eN (Aj (Ae a / Ae b)),eN (Aj (Ae a % Ae b)),iv 0],[]):=by
 have la:(Aj (Ae a)).length<=999999990:=by rw[Dq a ha];have:=CB a;omega
 have lb:(Aj (Ae b)).length<=999999990:=by rw[Dq b hb];have:=CB b;omega
 refine AI K Abh (AlI ..) ?_;refine Ab (Fk K (by unfold CA;omega) ha) ?_;simp only[eN,ND,DK,Aa];refine Ab (Fk K (by unfold CA;omega) hb) ?_;simp only[eN,Aw,ND,DK,Aa];generalize Ae a=x at *;generalize Ae b=y at *
 by_cases hy:y=0
 .rw[if_pos hy,hy,CW]
  exact D9 (by decide)
 .have hyl:0<(Aj y).length:=by
   rw[Ey hy];exact Nat.succ_pos _
  rw[if_neg hy];refine Bm ?_;refine Ab (AdO K (a:=Aj x) (b:=Aj y) (by unfold CA;omega) (Aq x) (by unfold CA;omega) (Aq y)) ?_;rw[Az,Az];simp only[ND,DK,Aa]
  by_cases hxy:x<y
  .refine Al ?_ (by unfold Do;rw[if_pos hxy];decide)
   have gt:=FZ K C (l:=Aj x) (by unfold CA;omega) (Aq x);rw[Az]at gt;refine Ab gt ?_;simp only[ND,DK,Aa];rw[Bb AE _ (by omega)];refine Ac ?_;rw[Bw AE _ rfl,AsY hxy,Aq3 hxy,CW];rfl
  .refine Ak ?_ (by unfold Do;rw[if_neg hxy];split<;>decide)
   by_cases h1:(Aj y).length=1
   .have hlt:y<4294967296:=by
     have:=(DH hyl).2
     rwa [h1]at this
    have hny:Aj y=[y]:=by
     rw[Ey hy,Aq3 hlt,AsY hlt,CW]
    refine BF ?_;rw[hny,AB (show [y][0]? = Θ y from rfl)];simp only[eL,KQ,ND,DK,Aa];refine Ab (Yi K C (a:=Aj x) (Aq x) (by unfold CA;omega) (by omega) hlt) ?_;rw[Az];simp only[eN,KQ,ND,DK,Aa];have hm:=AqR x (show 0<y by omega);rw[A1 (x:=x % y) (by omega)];refine Ab (Ajh K C (x % y) (by omega)) ?_;simp only[eN,ND,DK,Aa]
   .refine Bm ?_
    have hll:(Aj y).length<=(Aj x).length:=by
     rcases Nat.lt_or_ge (Aj x).length (Aj y).length with h|h
     .exact absurd (F6 h) hxy
     .exact h
    refine Ab (AeA K C la (by omega) hll) ?_;simp only[eN,ND,DK,Aa]
