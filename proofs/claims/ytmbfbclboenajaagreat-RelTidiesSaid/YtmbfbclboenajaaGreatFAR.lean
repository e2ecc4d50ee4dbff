/- What long division comes -/
import Derived.Test.YtmbfbclboenajaaGreatFAQ
set_option linter.all false
open Bool renaming true->Δ,and_eq_true->Aq6
open List renaming append_assoc->AqY,drop->AqT,drop_drop->AsX,drop_eq_getElem_cons->κ,drop_left'->As4,drop_one->AuP,getElem?_append_right->Arf,getElem?_eq_getElem->ξ,headD_cons->Ase,length_append->υ,length_drop->Asr,length_replicate->As7,length_set->Are,length_singleton->Ari,length_take->Aq9,map_take->AtK,replicate->AsH,take->ε,take_append_drop->ArW,take_left'->AsE,take_of_length_le->ArS,take_succ_eq_append_getElem->Arw
open Nat renaming add_mul->Art,add_sub_cancel->Ar1,add_sub_cancel_left->Asx,add_zero->ArG,ble->AqZ,blt->ArK,div_eq_of_lt->AsB,eq_zero_or_pos->Ar8,le_trans->ArJ,lt_of_le_of_lt->Auk,lt_of_lt_of_le->ArL,lt_of_mul_lt_mul_left->Atc,min_eq_left->ArH,mod_eq_of_lt->ArT,mod_lt->ArF,mul_add->ArR,mul_assoc->Ark,mul_comm->Arz,mul_le_mul_left->Asu,mul_le_mul_right->Ard,mul_lt_mul_of_pos_right->AsL,mul_one->AsC,mul_zero->Atf,one_mul->Ar9,pow_add->AsV,pow_succ->ArP,sub_self->Ata,two_pow_pos->AuL,zero_add->Ara,zero_le->ArC
open Option renaming some->Θ
namespace Go.Proofs.YtmbfbclboenajaaGreat
open ABlk renaming mk->θ
open IntKind renaming u64->Ω
open Go.RowKit
theorem Adl{l:List Nat}(j i:Nat)(h:j+i<l.length)(k:List AV->KR):EX (Ah eL l) (j+i*1) 1 k=k [.v (.int .u32 (l[j+i]:Int))]:=by
 rw[show j+i*1=0+(j+i)*1 by omega];exact In l _ h k
section
variable {D:Orc} (K:Knows DA Jk D)
include K
theorem AbS(d:List Nat)(hd:Limbs d)(U:List Nat)(hU:Limbs U)(o n f:Nat)(h2:2<=d.length)(hdl:d.length<=1000000000)(hn:d.length-2<n)(hou:o+(d.length-2)<U.length)(hdi:d.length-2<d.length)(hf:f<4294967296):∀(k g r:Nat),g<=4294967297->r<4294967296->4294967296<=r+k*f->
  D.ask (.lp 133 0) [.sl 0 o n 1,eN d,iv (d.length:Int),.v (.int .u64 (f:Int)),.v (.int .u64 (g:Int)),.v (.int .u64 (r:Int))] [θ (Ah eL U) Δ Δ]
   = Θ (.tup [iv 0,.v (.int .u64 (HN f d[d.length-2] U[o+(d.length-2)] k g r:Int))],[.keep]):=by
 have hv:=hd.get hdi;have hu:=hU.get hou;intro k
 induction k with
 |zero=>intro g r _ h1 h3;omega
 |succ k ih=>
  intro g r hg hr hk;have hk2:4294967296<=r+f+k*f:=by rw[Art,Ar9]at hk;omega
  rw[HN];have hsub:Af.sub .i64 (d.length:Int) 2=((d.length-2:Nat):Int):=Ng (j:=2) h2 (by omega);have hadd:Af.add .u64 (r:Int) (f:Int)=((r+f:Nat):Int):=Cc (by omega);have tail:1<=g->(br (Af.le 4294967296 (Af.add .u64 (r:Int) (f:Int)))
     (Θ ((AV.tup [iv 0,AV.v (Value.int Ω (Af.sub Ω (g:Int) 1))],[BO.keep])))
     (AA D (Key.lp 133 0) [AV.sl 0 o n 1,AV.ls (d.map eL),iv (d.length:Int),AV.v (Value.int Ω (f:Int)),AV.v (Value.int Ω (Af.sub Ω (g:Int) 1)),AV.v (Value.int Ω (Af.add Ω (r:Int) (f:Int)))] [θ (Ah eL U) Δ Δ] λr o=>
     As 1 [0] (AH.mk [(0,θ (Ah eL U) Δ Δ)] 1 none) [] r o))
    = Θ (.tup [iv 0,.v (.int .u64 ((if 4294967296<=r+f then g-1 else HN f d[d.length-2] U[o+(d.length-2)] k (g-1) (r+f):Nat):Int))],[.keep]):=λh1=>by
   rw[hadd,show Af.sub .u64 (g:Int) 1=((g-1:Nat):Int) from D9 (y:=1) h1 (by omega)]
   by_cases hb:4294967296<=r+f
   .rw[if_pos hb]
    exact NW (by omega)
   .rw[if_neg hb]
    refine Cr ?_;refine Aa (ih (g-1) (r+f) (by omega) (by omega) hk2) ?_;rfl
  refine Au K RY (AeR ..) ?_
  by_cases hB:4294967296<=g
  .rw[if_pos (.inl hB)]
   refine B6 ?_;exact tail (by omega)
  .refine Cr ?_
   rw[hsub,Av,At (ξ hdi)];simp only[eL,Fu,ND,DK,Ab];refine Ag ?_ (by decide);rw[Av,show ArK (d.length-2) n=Δ from BK hn];refine Ac ?_;refine(Adl o _ hou _).trans ?_;refine(cuN _ _).trans ?_;have hgv:=JL (show g<4294967296 by omega) hv;rw[Bo (show U[o+(d.length-2)]<_ by omega),Bo (show d[d.length-2]<_ by omega),KW hr,Pb hu hr,KV (by omega)]
   by_cases hc:r*4294967296+U[o+(d.length-2)]<g*d[d.length-2]
   .rw[if_pos (.inr hc)]
    refine Aj ?_;exact tail (by
     rcases Ar8 g with e|e
     .rw[e]at hc;omega
     .exact e)
   .rw[if_neg (λh=>h.elim hB hc)]
    exact CK (by omega)
theorem Wf{d:List Nat}(hd:Limbs d){U:List Nat}(hU:Limbs U){o n:Nat}(h2:2<=d.length)(hdl:d.length<=1000000000)(hn:d.length<n)(hou:o+n<=U.length)(h1:d.length-1<d.length)(h1':d.length-2<d.length)(hu0:o+d.length<U.length)(hu1:o+(d.length-1)<U.length)(hu2:o+(d.length-2)<U.length)(hf:2147483648<=d[d.length-1])
  (hT:U[o+d.length]*4294967296+U[o+(d.length-1)]<=d[d.length-1]*4294967296+d[d.length-2]) :
  D.ask (.fn 133) [.sl 0 o n 1,eN d] [θ (Ah eL U) Δ Δ]=Θ (.v (.int .u64 (HN d[d.length-1] d[d.length-2] U[o+(d.length-2)] 2 ((U[o+d.length]*4294967296+U[o+(d.length-1)]) / d[d.length-1]) ((U[o+d.length]*4294967296+U[o+(d.length-1)]) % d[d.length-1]):Int)),[.keep]):=by
 have hx0:=hU.get hu0;have hx1:=hU.get hu1;have hfl:=hd.get h1;have hg:=AbP (hd.get h1') hf hT;have hm:=ArF (U[o+d.length]*4294967296+U[o+(d.length-1)]) (show 0<d[d.length-1] by omega);have g:=AbS K d hd U hU o n d[d.length-1] h2 hdl (by omega) hu2 h1' hfl 2 ((U[o+d.length]*4294967296+U[o+(d.length-1)]) / d[d.length-1]) ((U[o+d.length]*4294967296+U[o+(d.length-1)]) % d[d.length-1]) hg (by omega) (by omega);have hsub:Af.sub .i64 (d.length:Int) 1=((d.length-1:Nat):Int):=Ng (j:=1) (by omega) (by omega);refine AB K RY (Ak3 ..) ?_;rw[Ak,show ArK d.length n=Δ from BK hn];refine Ac ?_;refine(Adl o _ hu0 _).trans ?_;simp only[Fu,ND,DK,Ab];refine Ag ?_ (by decide);rw[hsub];simp only[Av];rw[show ArK (d.length-1) n=Δ from BK (by omega)];refine Ac ?_;refine(Adl o _ hu1 _).trans ?_;refine(cuN _ _).trans ?_;rw[At (ξ h1)];simp only[eL,Fu,ND,DK,Ab];rw[Bo (show d[d.length-1]<_ by omega),Bo (show U[o+d.length]<_ by omega),Bo (show U[o+(d.length-1)]<_ by omega),KW hx0,Pb hx1 hx0,Adf (by omega),Adi];refine AN ?_;refine AN ?_;refine Aa g ?_;rfl
end
theorem Ah3{w:List Nat}(h:2<=w.length)(h1:w.length-1<w.length)(h2:w.length-2<w.length):w=w.take (w.length-2)++[w[w.length-2],w[w.length-1]]:=by
 have e:w.length-2+1=w.length-1:=by omega
 have:=ArW (w.length-2) w;rw[κ h2]at this;simp only[e]at this;rw[κ h1,List.drop_eq_nil_of_le (by omega)]at this;exact this.symm
theorem AgZ{w:List Nat}{x:Nat}(h:2<=w.length)(h1:w.length-1<w.length)(h2:w.length-2<w.length):Ad (w++[x])=((x*4294967296+w[w.length-1])*4294967296+w[w.length-2])*4294967296 ^ (w.length-2)+Ad (w.take (w.length-2)):=by
 have e:w++[x]=w.take (w.length-2)++[w[w.length-2],w[w.length-1],x]:=by
  have:=Ah3 h h1 h2
  conv=>lhs;rw[this]
  simp
 rw[e,BD,Aq9,ArH (by omega)];simp only[Ad];rw[Arz (4294967296 ^ (w.length-2))];generalize 4294967296 ^ (w.length-2)=P;rw[show w[w.length-2]+4294967296*(w[w.length-1]+4294967296*(x+4294967296*0))=(x*4294967296+w[w.length-1])*4294967296+w[w.length-2] by omega];omega
theorem AgR{w:List Nat}(h:2<=w.length)(h1:w.length-1<w.length)(h2:w.length-2<w.length):Ad w=(w[w.length-1]*4294967296+w[w.length-2])*4294967296 ^ (w.length-2)+Ad (w.take (w.length-2)):=by
 have e:=congrArg Ad (Ah3 h h1 h2);rw[BD,Aq9,ArH (by omega)]at e;refine e.trans ?_;simp only[Ad];rw[Arz (4294967296 ^ (w.length-2))];rw[show w[w.length-2]+4294967296*(w[w.length-1]+4294967296*0)=w[w.length-1]*4294967296+w[w.length-2] by omega];omega
theorem Ae4{P f v vl ul wl T W Dv:Nat}(hvl:vl<P)(hDv:Dv=(f*4294967296+v)*P+vl)(hW:W=(T*4294967296+ul)*P+wl)(hWD:W<Dv*4294967296):T<=f*4294967296+v:=by
 by_cases h:T<=f*4294967296+v
 .exact h
 .exfalso
  have h1:(f*4294967296+v+1)*4294967296*P<=(T*4294967296+ul)*P:=Ard _ (by omega);have h2:Dv*4294967296<=(f*4294967296+v+1)*4294967296*P:=by
   rw[hDv,Ark _ 4294967296 P,Arz 4294967296 P,←Ark];exact Ard _ (by rw[Art _ 1 P,Ar9];omega)
  omega
def gW(d w:List Nat)(x:Nat):Nat:=HN (d.getD (d.length-1) 0) (d.getD (d.length-2) 0) (w.getD (d.length-2) 0) 2 ((x*4294967296+w.getD (d.length-1) 0) / d.getD (d.length-1) 0) ((x*4294967296+w.getD (d.length-1) 0) % d.getD (d.length-1) 0)
theorem CG{l:List Nat}{i:Nat}(h:i<l.length):l.getD i 0=l[i]:=by
 rw[List.getD_eq_getElem?_getD,ξ h];rfl
theorem Xz{d w:List Nat}{x:Nat}(hd:Limbs d)(hw:Limbs (w++[x]))(hl:w.length=d.length)(h2:2<=d.length)(hf:2147483648<=d.getD (d.length-1) 0)(hW:Ad (w++[x])<Ad d*4294967296) :
  Gs (Ad (w++[x])) (Ad d) (gW d w x)/\x*4294967296+w.getD (d.length-1) 0<=d.getD (d.length-1) 0*4294967296+d.getD (d.length-2) 0:=by
 have d1:d.length-1<d.length:=by omega
 have d2:d.length-2<d.length:=by omega
 have w1:w.length-1<w.length:=by omega
 have w2:w.length-2<w.length:=by omega
 have ed:=AgR h2 d1 d2;have ew:=AgZ (x:=x) (by omega) w1 w2;unfold gW;rw[←CG d1,←CG d2]at ed;rw[←CG w1,←CG w2,hl]at ew;have hww:Limbs w:=λy hy=>hw y (by simp[hy])
 have b1:=Bt (hd.take (d.length-2));have b2:=Bt (hww.take (d.length-2));rw[Aq9,ArH (by omega)]at b1 b2;have c1:=hd.get d1;have c2:=hd.get d2;have c3:=hww.get w2;rw[←CG d1]at c1;rw[←CG d2]at c2;rw[←CG w2,hl]at c3;generalize d.getD (d.length-1) 0=f at *;generalize d.getD (d.length-2) 0=v at *;generalize w.getD (d.length-2) 0=ul at *;generalize w.getD (d.length-1) 0=y at *;obtain⟨T,hT⟩:∃ T,T=x*4294967296+y:=⟨_,rfl⟩;rw[←hT]at ew ⊢;generalize Ad (w++[x])=W at *;generalize Ad d=Dv at *;generalize Ad (d.take (d.length-2))=vl at *;generalize Ad (w.take (d.length-2))=wl at *;generalize 4294967296 ^ (d.length-2)=P at *;have hm:=ArF T (show 0<f by omega);refine⟨We c2 b1 b2 hf ed ew hW 2 _ _ (by rw[Arz];exact Nat.div_add_mod T f) ?_ (by omega) (by omega),Ae4 b1 ed ew hW⟩;have g:=Ae3 (Q:=4294967296*P) (f:=f) (dl:=v*P+vl) (T:=T) (ul:=ul*P+wl) ?_ (by omega)
 .rw[ed,ew]
  have e1:(T*4294967296+ul)*P+wl=T*(4294967296*P)+(ul*P+wl):=by rw[Art,Ark];omega
  have e2:(f*4294967296+v)*P+vl=f*(4294967296*P)+(v*P+vl):=by rw[Art,Ark];omega
  rw[e1,e2];exact g
 .have:(ul+1)*P<=4294967296*P:=Ard _ c3
  rw[Art,Ar9]at this;omega
def tW(d w:List Nat)(x:Nat):Nat:=DS (gW d w x) 0 d+Db (gW d w x) 0 0 w d
def aW(d w:List Nat)(x:Nat):List Nat:=DC (gW d w x) 0 0 w d
def aX(d w:List Nat)(x:Nat):Nat:=(x+4294967296-tW d w x) % 4294967296
theorem Aef{d w:List Nat}{x:Nat}(hd:Limbs d)(hw:Limbs (w++[x]))(hl:w.length=d.length)(h2:2<=d.length)(hf:2147483648<=d.getD (d.length-1) 0)(hW:Ad (w++[x])<Ad d*4294967296) :
  Limbs (aW d w x++[aX d w x])/\(aW d w x).length=d.length ∧
  (¬ x<tW d w x->Ad (aW d w x++[aX d w x])+gW d w x*Ad d=Ad (w++[x])/\Ad (aW d w x++[aX d w x])<Ad d) ∧
  (x<tW d w x->1<=gW d w x/\Limbs (Dc 0 (aW d w x) d++[(aX d w x+CU 0 (aW d w x) d) % 4294967296]) ∧
   Ad (Dc 0 (aW d w x) d++[(aX d w x+CU 0 (aW d w x) d) % 4294967296])+(gW d w x-1)*Ad d=Ad (w++[x]) ∧
   Ad (Dc 0 (aW d w x) d++[(aX d w x+CU 0 (aW d w x) d) % 4294967296])<Ad d):=by
 obtain⟨hG,_⟩:=Xz hd hw hl h2 hf hW;have hww:Limbs w:=λy hy=>hw y (by simp[hy])
 have hx:x<4294967296:=hw x (by simp);have la:(aW d w x).length=d.length:=F9 ..;have hA:=AaS (m:=gW d w x) hww hd hl hG.lt hx;have hmod:=ArF (x+4294967296-tW d w x) (show 0<4294967296 by omega);have hLm:Limbs (aW d w x++[aX d w x]):=CN (Hz _ 0 0 w d hww (ArC _)) (Bf hmod BH);have hS:=AdT hl la hd rfl rfl hG hLm hA;have haw:Limbs (aW d w x):=Hz _ 0 0 w d hww (ArC _);have hB:=AaX (ul:=aX d w x) haw hd la hmod;refine⟨hLm,la,hS.1,λh=>?_⟩;obtain⟨h3,h4,h5⟩:=hS.2 h;refine⟨h3,CN (HD 0 _ _) (Bf (ArF _ (by omega)) BH),?_⟩;rw[hB];exact⟨h4,h5⟩
section
variable {D:Orc} (K:Knows DA Jk D)
include K
theorem AiM{d:List Nat}(hd:Limbs d){m:Nat}(hm:m<4294967296){A w Z:List Nat}{x:Nat}(hU:Limbs (A++(w++[x])++Z))(hl:w.length=d.length)(hUl:(A++(w++[x])++Z).length<=1000000000) :
  D.ask (.fn 134) [.sl 0 A.length (d.length+1) 1,eN d,.v (.int .u64 (m:Int))] [θ (Ah eL (A++(w++[x])++Z)) Δ Δ]
   = Θ (bv (decide (x<DS m 0 d+Db m 0 0 w d)),[.set (θ (Ah eL (A++(DC m 0 0 w d++[(x+4294967296-(DS m 0 d+Db m 0 0 w d)) % 4294967296])++Z)) Δ Δ)]):=by
 have hlen:A.length+d.length<(A++(w++[x])++Z).length:=by simp;omega
 have g:=Va K hd hm hU hlen hUl;have e1:(A++(w++[x])++Z).take A.length=A:=by rw[AqY,AsE];rfl
 have e2:((A++(w++[x])++Z).drop A.length).take d.length=w:=by
  rw[AqY,As4 rfl,AqY,AsE hl]
 have e3:(A++(w++[x])++Z)[A.length+d.length]=x:=by
  have:(A++(w++[x])++Z)[A.length+d.length]? = Θ x:=by
   rw[AqY,Arf (by omega),Asx,AqY,Arf (by omega),hl,Ata];rfl
  rw[ξ hlen]at this;injection this
 have e4:(A++(w++[x])++Z).drop (A.length+(d.length+1))=Z:=by
  rw[As4 (by simp;omega)]
 rw[NN,NP,e1,e2,e3,e4]at g;exact g
theorem AiN{d:List Nat}(hd:Limbs d){A w Z:List Nat}{x:Nat}(hU:Limbs (A++(w++[x])++Z))(hl:w.length=d.length)(hUl:(A++(w++[x])++Z).length<=1000000000) :
  D.ask (.fn 135) [.sl 0 A.length (d.length+1) 1,eN d] [θ (Ah eL (A++(w++[x])++Z)) Δ Δ]
   = Θ (.tup [],[.set (θ (Ah eL (A++(Dc 0 w d++[(x+CU 0 w d) % 4294967296])++Z)) Δ Δ)]):=by
 have hlen:A.length+d.length<(A++(w++[x])++Z).length:=by simp;omega
 have g:=WI K hd hU hlen hUl;have e1:(A++(w++[x])++Z).take A.length=A:=by rw[AqY,AsE];rfl
 have e2:((A++(w++[x])++Z).drop A.length).take d.length=w:=by
  rw[AqY,As4 rfl,AqY,AsE hl]
 have e3:(A++(w++[x])++Z)[A.length+d.length]=x:=by
  have:(A++(w++[x])++Z)[A.length+d.length]? = Θ x:=by
   rw[AqY,Arf (by omega),Asx,AqY,Arf (by omega),hl,Ata];rfl
  rw[ξ hlen]at this;injection this
 have e4:(A++(w++[x])++Z).drop (A.length+(d.length+1))=Z:=by
  rw[As4 (by simp;omega)]
 rw[NS,NR,e1,e2,e3,e4]at g;exact g
theorem Ae5{d:List Nat}(hd:Limbs d){A w Z:List Nat}{x:Nat}(hU:Limbs (A++(w++[x])++Z))(hl:w.length=d.length)(hdl:d.length<=1000000000)(h2:2<=d.length)(hf:2147483648<=d.getD (d.length-1) 0){n:Nat}(hn:d.length<n)(hou:A.length+n<=(A++(w++[x])++Z).length)
  (hT:x*4294967296+w.getD (d.length-1) 0<=d.getD (d.length-1) 0*4294967296+d.getD (d.length-2) 0) :
  D.ask (.fn 133) [.sl 0 A.length n 1,eN d] [θ (Ah eL (A++(w++[x])++Z)) Δ Δ]=Θ (.v (.int .u64 (gW d w x:Int)),[.keep]):=by
 have d1:d.length-1<d.length:=by omega
 have d2:d.length-2<d.length:=by omega
 have w1:d.length-1<w.length:=by omega
 have w2:d.length-2<w.length:=by omega
 have u0:A.length+d.length<(A++(w++[x])++Z).length:=by simp;omega
 have u1:A.length+(d.length-1)<(A++(w++[x])++Z).length:=by simp;omega
 have u2:A.length+(d.length-2)<(A++(w++[x])++Z).length:=by simp;omega
 have at0:(A++(w++[x])++Z)[A.length+d.length]=x:=by
  have:(A++(w++[x])++Z)[A.length+d.length]? = Θ x:=by
   rw[AqY,Arf (by omega),Asx,AqY,Arf (by omega),hl,Ata];rfl
  rw[ξ u0]at this;injection this
 have atw:∀ i (h:A.length+i<(A++(w++[x])++Z).length) (hi:i<w.length),(A++(w++[x])++Z)[A.length+i]=w.getD i 0:=λi h hi=>by
  have:(A++(w++[x])++Z)[A.length+i]? = Θ w[i]:=by
   rw[AqY,Arf (by omega),Asx,AqY,List.getElem?_append_left hi,ξ hi]
  rw[ξ h]at this;injection this with this
  rw[this,CG hi]
 have g:=Wf K hd hU h2 hdl hn hou d1 d2 u0 u1 u2 (by rw[←CG d1];exact hf) (by rw[at0,atw _ u1 w1,←CG d1,←CG d2];exact hT);rw[at0,atw _ u1 w1,atw _ u2 w2,←CG d1,←CG d2]at g;exact g
end
theorem R2{l h n:Nat}(h1:l<=h)(h2:h<=n):KA l h n=Δ:=by
 unfold KA;rw[show AqZ l h=Δ by simpa using h1];simpa using h2
theorem Vj(A v Z:List Nat):Ad (A++v++Z)=Ad A+4294967296 ^ A.length*(Ad v+4294967296 ^ v.length*Ad Z):=by
 rw[AqY,BD,BD]
theorem AgY{U:List Nat}{i n:Nat}(h:i+n<U.length):U=U.take i++((U.drop i).take n++[U[i+n]])++U.drop (i+n+1):=by
 have e:(U.drop i).take n++[U[i+n]]=(U.drop i).take (n+1):=by
  rw[Arw (by rw[Asr];omega),List.getElem_drop]
 rw[e,AqY];have:U.drop (i+n+1)=(U.drop i).drop (n+1):=by rw[AsX,Nat.add_assoc]
 rw[this,ArW,ArW]
theorem Agy{q:List Nat}{k v:Nat}(h:k<q.length){q2:List Nat}(hl:q2.length=q.length)(h2:q2.drop k=(q.set k v).drop k):Ad (q2.take (k+1))=Ad (q2.take k)+4294967296 ^ k*v:=by
 have hk:k<q2.length:=by omega
 have e:q2[k]=v:=by
  have h3:(q2.drop k).headD 0=((q.set k v).drop k).headD 0:=by rw[h2]
  rw[κ hk,κ (l:=q.set k v) (by rw[Are];exact h),Ase,Ase,List.getElem_set_self]at h3;exact h3
 rw[Arw hk,BD,Aq9,ArH (by omega),e];simp[Ad]
section
variable {D:Orc} (K:Knows DA Jk D)
include K
theorem Afk{d:List Nat}(hd:Limbs d)(h2:2<=d.length)(hf:2147483648<=d.getD (d.length-1) 0)(s:Int):∀(k:Nat) (q U:List Nat),k<=q.length->U.length=q.length+d.length->U.length<=1000000000->Limbs q->Limbs U->Ad (U.drop k)<Ad d->
  ∃ q' U':List Nat,D.ask (.lp 112 0) [.sl 0 0 q.length 1,iv s,eN d,.sl 1 0 U.length 1,iv (d.length:Int),iv ((k:Int)-1)] [θ (Ah eL q) Δ Δ,θ (Ah eL U) Δ Δ]
   = Θ (.tup [iv 0,.sl 2 0 q.length 1,iv s,.sl 3 0 U.length 1,iv (d.length:Int)],[.del,.del,.set (θ (Ah eL q') Δ Δ),.set (θ (Ah eL U') Δ Δ)]) ∧
   q'.length=q.length/\U'.length=U.length/\Limbs q'/\Limbs U'/\q'.drop k=q.drop k/\Ad U'<Ad d/\Ad U=Ad (q'.take k)*Ad d+Ad U':=by
 intro k
 induction k with
 |zero=>
  intro q U hk hl hm hq hU hv;refine⟨q,U,?_,rfl,rfl,hq,hU,rfl,by simpa using hv,by simp[Ad]⟩;refine Au K LL (RO ..) ?_;exact Rx (by omega)
 |succ k ih=>
  intro q U hk hl hm hq hU hv;have hin:k+d.length<U.length:=by omega
  have hcut:=AgY hin;obtain⟨A,hA⟩:∃ A,A=U.take k:=⟨_,rfl⟩;obtain⟨w,hw⟩:∃ w,w=(U.drop k).take d.length:=⟨_,rfl⟩;obtain⟨x,hx⟩:∃ x,x=U[k+d.length]:=⟨_,rfl⟩;obtain⟨Z,hZ⟩:∃ Z,Z=U.drop (k+d.length+1):=⟨_,rfl⟩;rw[←hA,←hw,←hx,←hZ]at hcut;have hAl:A.length=k:=by rw[hA,Aq9];omega
  have hwl:w.length=d.length:=by rw[hw,Aq9,Asr];omega
  have hAL:Limbs A:=by rw[hA];exact hU.take _
  have hZL:Limbs Z:=by rw[hZ];exact hU.drop _
  have hwL:Limbs (w++[x]):=by rw[hw,hx];exact CN ((hU.drop _).take _) (Bf (hU.get hin) BH)
  have hdv:=Bt hd;have hUd:U.drop k=(w++[x])++Z:=by rw[hcut,AqY,As4 hAl]
  have hUd1:(U.drop (k+1))=((w++[x]).drop 1)++Z:=by
   rw[show U.drop (k+1)=(U.drop k).drop 1 by rw[AsX],hUd,List.drop_append_of_le_length (by simp)]
  have hZ0:Ad Z=0:=by
   rw[hUd1,BD,Asr,υ,Ari,hwl,Ar1]at hv;rcases Ar8 (Ad Z) with e|e
   .exact e
   .exfalso
    have:4294967296 ^ d.length*1<=4294967296 ^ d.length*Ad Z:=Asu _ e;omega
  have hWD:Ad (w++[x])<Ad d*4294967296:=by
   obtain⟨y,hy⟩:∃ y,(w++[x])=y::(w++[x]).drop 1:=by
    cases w with
    |nil=>exact⟨x,rfl⟩
    |cons a w=>exact⟨a,rfl⟩
   have hy1:y<4294967296:=hwL y (by rw[hy];exact List.mem_cons_self ..);have hv1:Ad ((w++[x]).drop 1)<Ad d:=by
    rw[hUd1,BD,hZ0]at hv;omega
   rw[hy,Ad,AuP];rw[AuP]at hv1;omega
  obtain⟨hG,hT⟩:=Xz hd hwL hwl h2 hf hWD;obtain⟨hLm,la,hnb,hbk⟩:=Aef hd hwL hwl h2 hf hWD;have hglt:=hG.lt;have hUlen:(A++(w++[x])++Z).length=U.length:=by rw[←hcut]
  have hU2:Limbs (A++(w++[x])++Z):=by rw[←hcut];exact hU
  have gg:=Ae5 K hd hU2 hwl (by omega) h2 hf (n:=U.length-k) (by omega) (by rw[hUlen,hAl];omega) hT;have ga:=AiM K hd hglt hU2 hwl (by omega);rw[hAl,←hcut]at gg ga;have hLen1:(A++(aW d w x++[aX d w x])++Z).length=U.length:=by
   rw[←hUlen];simp only[υ,Ari,la,hwl]
  have key:∀(g:Nat) (v:List Nat),g<4294967296->v.length=d.length+1->Limbs v->Ad v+g*Ad d=Ad (w++[x])->Ad v<Ad d->
    ∃ q' U':List Nat,D.ask (.lp 112 0) [.sl 0 0 q.length 1,iv s,eN d,.sl 1 0 U.length 1,iv (d.length:Int),iv ((k:Int)-1)] [θ (Ah eL (q.set k g)) Δ Δ,θ (Ah eL (A++v++Z)) Δ Δ]
     = Θ (.tup [iv 0,.sl 2 0 q.length 1,iv s,.sl 3 0 U.length 1,iv (d.length:Int)],[.del,.del,.set (θ (Ah eL q') Δ Δ),.set (θ (Ah eL U') Δ Δ)]) ∧
     q'.length=q.length/\U'.length=U.length/\Limbs q'/\Limbs U'/\q'.drop (k+1)=q.drop (k+1)/\Ad U'<Ad d/\Ad U=Ad (q'.take (k+1))*Ad d+Ad U':=λg v hg hvl hvL he hlt=>by
   have hl1:(A++v++Z).length=U.length:=by
    rw[←hUlen];simp only[υ,Ari,hvl,hwl]
   obtain⟨q',U',h1,h3,h4,h5,h6,h7,h8,h9⟩:=ih (q.set k g) (A++v++Z) (by rw[Are];omega) (by rw[hl1,Are];exact hl) (by omega) (IP hq hg) (CN (CN hAL hvL) hZL) (by
    rw[AqY,As4 hAl,BD,hZ0];omega)
   rw[Are]at h1 h3;rw[hl1]at h1 h4;refine⟨q',U',h1,h3,h4,h5,h6,?_,h8,?_⟩
   .have:=congrArg (AqT 1) h7
    rw[AsX,AsX,List.drop_set_of_lt (by omega)]at this;exact this
   .have hqk:k<q.length:=by omega
    rw[Agy hqk h3 h7,Art];have e1:Ad U=Ad A+4294967296 ^ k*Ad (w++[x]):=by
     conv=>lhs;rw[hcut]
     rw[Vj,hZ0,hAl];simp
    rw[Vj,hZ0,hAl]at h9;rw[e1,←he,ArR,Ark];simp only[Atf,ArG]at h9;omega
  have hqk:k<q.length:=by omega
  have hblt:ArK k q.length=Δ:=BK hqk;have hble:AqZ (0+k*1+1) (Ah eL q).length=Δ:=by rw[AT AD];simp;omega
  have hin1:KA k U.length U.length=Δ:=R2 (by omega) (by omega);have hin2:KA k (k+d.length+1) U.length=Δ:=R2 (by omega) (by omega);have hsub:Af.sub .i64 (k:Int) 1=(k:Int)-1:=Dm (by omega) (by omega);have hadd:Af.add .i64 (Af.add .i64 (k:Int) (d.length:Int)) 1=((k+d.length+1:Nat):Int):=by
   rw[AaN (by omega),BA (by omega)]
  have h0k:0+k*1=k:=by omega
  by_cases hb:x<tW d w x
  .obtain⟨hg1,hL2,he,hlt⟩:=hbk hb
   have gb:=AiN K hd (A:=A) (Z:=Z) (w:=aW d w x) (x:=aX d w x) (CN (CN hAL hLm) hZL) la (by omega);rw[hAl]at gb;obtain⟨q',U',h1,hr⟩:=key (gW d w x-1) _ (by omega) (by rw[υ,Ek,Ari]) hL2 he hlt;refine⟨q',U',?_,hr⟩;refine Au K LL (RO ..) ?_;rw[show (((k+1:Nat):Int)-1)=(k:Int) by omega];refine B6 ?_;rw[Av,hin1,h0k];refine Ac ?_;refine Aa gg ?_;simp only[P2,ND,DK,Ab];rw[hadd,Av,Av,hin2,h0k,show k+d.length+1-k=d.length+1 by omega];refine Ac ?_;refine Aa ga ?_;simp only[ND,DK,Ab];rw[decide_eq_true (show x<DS (gW d w x) 0 d+Db (gW d w x) 0 0 w d from hb)];refine Ac ?_;rw[Av,Av,hin2,h0k,show k+d.length+1-k=d.length+1 by omega];refine Ac ?_;refine Aa gb ?_;simp only[ND,DK,Ab];rw[Av,hblt,hble];refine Ac ?_;refine Ac ?_;rw[show Af.sub .u64 (gW d w x:Int) 1=((gW d w x-1:Nat):Int) from D9 (y:=1) hg1 (by omega),Bz (by omega),show 0+k*1=0+(0+k)*1 by omega,C7 _ _ _ (by omega),Ara,hsub];refine Aa h1 ?_;rfl
  .obtain⟨he,hlt⟩:=hnb hb
   obtain⟨q',U',h1,hr⟩:=key (gW d w x) _ hglt (by rw[υ,la,Ari]) hLm he hlt;refine⟨q',U',?_,hr⟩;refine Au K LL (RO ..) ?_;rw[show (((k+1:Nat):Int)-1)=(k:Int) by omega];refine B6 ?_;rw[Av,hin1,h0k];refine Ac ?_;refine Aa gg ?_;simp only[P2,ND,DK,Ab];rw[hadd,Av,Av,hin2,h0k,show k+d.length+1-k=d.length+1 by omega];refine Ac ?_;refine Aa ga ?_;simp only[ND,DK,Ab];rw[decide_eq_false (show ¬ x<DS (gW d w x) 0 d+Db (gW d w x) 0 0 w d from hb)];refine Ba ?_;rw[Av,hblt,hble];refine Ac ?_;refine Ac ?_;rw[Bz (by omega),show 0+k*1=0+(0+k)*1 by omega,C7 _ _ _ (by omega),Ara,hsub];refine Aa h1 ?_;rfl
end
def Afi:ByteArray:=M5 [0,1,2,2,3,3,3,3,4,4,4,4,4,4,4,4,5,5,5,5,5,5,5,5,5,5,5,5,5,5,5,5,6,6,6,6,6,6,6,6,6,6,6,6,6,6,6,6,6,6,6,6,6,6,6,6,6,6,6,6,6,6,6,6,7,7,7,7,7,7,7,7,7,7,7,7,7,7,7,7,7,7,7,7,7,7,7,7,7,7,7,7,7,7,7,7,7,7,7,7,7,7,7,7,7,7,7,7,7,7,7,7,7,7,7,7,7,7,7,7,7,7,7,7,7,7,7,7,8,8,8,8,8,8,8,8,8,8,8,8,8,8,8,8,8,8,8,8,8,8,8,8,8,8,8,8,8,8,8,8,8,8,8,8,8,8,8,8,8,8,8,8,8,8,8,8,8,8,8,8,8,8,8,8,8,8,8,8,8,8,8,8,8,8,8,8,8,8,8,8,8,8,8,8,8,8,8,8,8,8,8,8,8,8,8,8,8,8,8,8,8,8,8,8,8,8,8,8,8,8,8,8,8,8,8,8,8,8,8,8,8,8,8,8,8,8,8,8,8,8,8,8,8,8,8,8]
def Ah4(b:Nat):Bool:=match Af.sat Afi b with
 |.ofNat t=>b == 0||(AqZ 1 t&&(AqZ t 8&&(AqZ (2 ^ (t-1)) b&&ArK b (2 ^ t))))
 |_=>false
theorem Afj:(List.range 256).all Ah4=Δ:=by kernel_rfl
theorem Sa{b:Nat}(h:b<256)(h0:0<b):∃ t:Nat,Af.sat Afi b=(t:Int)/\1<=t/\t<=8/\2 ^ (t-1)<=b/\b<2 ^ t:=by
 have:=List.all_eq_true.1 Afj b (List.mem_range.2 h);unfold Ah4 at this;split at this
 .rename_i t ht
  rw[Bool.or_eq_true,beq_iff_eq,Aq6,Aq6,Aq6]at this;rcases this with h1|⟨h1,h2,h3,h4⟩
  .omega
  .have h5:b+1<=2 ^ t:=by simpa[ArK]using h4
   exact⟨t,ht,by simpa using h1,by simpa using h2,by simpa using h3,h5⟩
 .exact absurd this (by decide)
theorem Ajs:Af.slen Afi=256:=by kernel_rfl
theorem Nw{x:Nat}(h:x<256):Af.conv .u8 (x:Int)=(x:Int):=by
 show IntKind.u8.wrap (x:Int)=_
 have e:IntKind.u8.wrap (x:Int)=(x:Int) % 256:=by simp[IntKind.wrap,IntKind.bits,IntKind.signed]
 rw[e];omega
theorem Nx{x:Nat}(h:x<256):Af.conv .i64 (x:Int)=(x:Int):=by
 show IntKind.i64.wrap (x:Int)=_
 rw[IntKind.wrap_i64];omega
theorem Wq{x t:Nat}(k:Nat)(h1:1<=t)(h3:2 ^ (t-1)<=x / 2 ^ k)(h4:x / 2 ^ k<2 ^ t):2 ^ (k+t-1)<=x/\x<2 ^ (k+t):=by
 have hp:=AuL k;rw[show k+t-1=(t-1)+k by omega,show k+t=t+k by omega,AsV,AsV];exact⟨(Nat.le_div_iff_mul_le hp).1 h3,(Nat.div_lt_iff_lt_mul hp).1 h4⟩
section
variable {D:Orc} (K:Knows DA Jk D)
include K
theorem Acz{x:Nat}(h:x<4294967296)(h0:0<x):∃ L:Nat,D.ask (.fn 87) [.v (.int .u32 (x:Int))] []=Θ (iv (L:Int),[])/\1<=L/\L<=32/\2 ^ (L-1)<=x/\x<2 ^ L:=by
 have e:=Ao0 Af D (x:Int);rw[show M5 [0,1,2,2,3,3,3,3,4,4,4,4,4,4,4,4,5,5,5,5,5,5,5,5,5,5,5,5,5,5,5,5,6,6,6,6,6,6,6,6,6,6,6,6,6,6,6,6,6,6,6,6,6,6,6,6,6,6,6,6,6,6,6,6,7,7,7,7,7,7,7,7,7,7,7,7,7,7,7,7,7,7,7,7,7,7,7,7,7,7,7,7,7,7,7,7,7,7,7,7,7,7,7,7,7,7,7,7,7,7,7,7,7,7,7,7,7,7,7,7,7,7,7,7,7,7,7,7,8,8,8,8,8,8,8,8,8,8,8,8,8,8,8,8,8,8,8,8,8,8,8,8,8,8,8,8,8,8,8,8,8,8,8,8,8,8,8,8,8,8,8,8,8,8,8,8,8,8,8,8,8,8,8,8,8,8,8,8,8,8,8,8,8,8,8,8,8,8,8,8,8,8,8,8,8,8,8,8,8,8,8,8,8,8,8,8,8,8,8,8,8,8,8,8,8,8,8,8,8,8,8,8,8,8,8,8,8,8,8,8,8,8,8,8,8,8,8,8,8,8,8,8,8,8,8,8]=Afi from rfl,Ajs]at e;have s16:Af.shr .u32 (x:Int) 16=((x / 65536:Nat):Int):=Sz (k:=.u32) (r:=16) (by decide);have s8:∀ y:Nat,Af.shr .u32 (y:Int) 8=((y / 256:Nat):Int):=λy=>Sz (k:=.u32) (r:=8) (by decide)
 rw[s16,s8,s8]at e
 by_cases h16:65536<=x
 .by_cases h8:256<=x / 65536
  .obtain⟨t,ht,h1,h2,h3,h4⟩:=Sa (b:=x / 65536 / 256) (by omega) (by omega)
   rw[show x / 65536 / 256=x / 2 ^ 24 by rw[Nat.div_div_eq_div_mul]]at h3 h4;obtain⟨h5,h6⟩:=Wq 24 h1 h3 h4;refine⟨24+t,?_,by omega,by omega,h5,h6⟩;refine K.fn' T8 _ rfl (e.trans ?_);refine B6 ?_;refine Ag ?_ (by decide);refine B6 ?_;refine Ag ?_ (by decide);rw[Nw (by omega),Av,show ArK (x / 65536 / 256) 256=Δ from BK (by omega)];refine Ac ?_;rw[ht,Nx (by omega),EJ (a:=16) (b:=8) (by decide) (by decide),EJ (by omega) (by omega)];rw[show (16:Int)+8+(t:Int)=((24+t:Nat):Int) by omega]
  .obtain⟨t,ht,h1,h2,h3,h4⟩:=Sa (b:=x / 65536) (by omega) (by omega)
   obtain⟨h5,h6⟩:=Wq 16 h1 h3 h4;refine⟨16+t,?_,by omega,by omega,h5,h6⟩;refine K.fn' T8 _ rfl (e.trans ?_);refine B6 ?_;refine Ag ?_ (by decide);refine Cr ?_;rw[Nw (by omega),Av,show ArK (x / 65536) 256=Δ from BK (by omega)];refine Ac ?_;rw[ht,Nx (by omega),EJ (by omega) (by omega)];rw[show (16:Int)+(t:Int)=((16+t:Nat):Int) by omega]
 .by_cases h8:256<=x
  .obtain⟨t,ht,h1,h2,h3,h4⟩:=Sa (b:=x / 256) (by omega) (by omega)
   obtain⟨h5,h6⟩:=Wq 8 h1 h3 h4;refine⟨8+t,?_,by omega,by omega,h5,h6⟩;refine K.fn' T8 _ rfl (e.trans ?_);refine Cr ?_;refine B6 ?_;refine Ag ?_ (by decide);rw[Nw (by omega),Av,show ArK (x / 256) 256=Δ from BK (by omega)];refine Ac ?_;rw[ht,Nx (by omega),EJ (a:=0) (b:=8) (by decide) (by decide),EJ (by omega) (by omega)];rw[show (0:Int)+8+(t:Int)=((8+t:Nat):Int) by omega]
  .obtain⟨t,ht,h1,h2,h3,h4⟩:=Sa (b:=x) (by omega) (by omega)
   refine⟨t,?_,by omega,by omega,h3,h4⟩;refine K.fn' T8 _ rfl (e.trans ?_);refine Cr ?_;refine Cr ?_;rw[Nw (by omega),Av,show ArK x 256=Δ from BK (by omega)];refine Ac ?_;rw[ht,Nx (by omega),EJ (by omega) (by omega),Int.zero_add]
theorem AmF{x:Nat}(h:x<4294967296)(h0:0<x):∃ s:Nat,D.ask (.fn 131) [.v (.int .u32 (x:Int))] []=Θ (iv (s:Int),[])/\s<=31/\2147483648<=x*2 ^ s/\x*2 ^ s<4294967296:=by
 obtain⟨L,g,h1,h2,h3,h4⟩:=Acz K h h0;have hp:=AuL (32-L);refine⟨32-L,?_,by omega,?_,?_⟩
 .refine AB K AbV (Ak1 ..) ?_
  refine Aa g ?_;simp only[ND,DK,Ab];rw[Dm (by omega) (by omega),show (32:Int)-(L:Int)=((32-L:Nat):Int) by omega]
 .have:2 ^ (L-1)*2 ^ (32-L)<=x*2 ^ (32-L):=Ard _ h3
  rw[←AsV,show L-1+(32-L)=31 by omega]at this;exact this
 .have:x*2 ^ (32-L)<2 ^ L*2 ^ (32-L):=AsL h4 hp
  rw[←AsV,show L+(32-L)=32 by omega]at this;exact this
end
theorem W8{l:List Nat}(h:Limbs l)(h0:0<l.length):4294967296 ^ (l.length-1)*l.getD (l.length-1) 0<=Ad l/\Ad l<4294967296 ^ (l.length-1)*(l.getD (l.length-1) 0+1):=by
 have hk:l.length-1<l.length:=by omega
 have e:l=l.take (l.length-1)++[l[l.length-1]]:=by
  rw[←Arw hk,ArS (by omega)]
 have hv:=congrArg Ad e;rw[BD,Aq9,ArH (by omega)]at hv;have hb:=Bt (h.take (l.length-1));rw[Aq9,ArH (by omega)]at hb;rw[CG hk];simp only[Ad,Atf,ArG]at hv;rw[ArR,AsC];omega
theorem DV{b:Nat}(h:0<(Ai b).length):4294967296 ^ ((Ai b).length-1)<=b/\b<4294967296 ^ (Ai b).length:=by
 refine⟨?_,?_⟩
 .by_cases h1:4294967296 ^ ((Ai b).length-1)<=b
  .exact h1
  .have:=Bc (n:=b) (k:=(Ai b).length-1) (by omega)
   omega
 .have:=Bt (Am b)
  rwa [Az]at this
theorem Uv{n k:Nat}(h1:4294967296 ^ k<=n)(h2:n<4294967296 ^ (k+1)):(Ai n).length=k+1:=by
 have:=Ib h1;have:=Bc h2;omega
theorem AgQ{b:Nat}(h:0<(Ai b).length):0<(Ai b).getD ((Ai b).length-1) 0:=by
 have h1:=(W8 (Am b) h).2;have h2:=(DV h).1;rw[Az]at h1;rcases Ar8 ((Ai b).getD ((Ai b).length-1) 0) with e|e
 .rw[e]at h1
  omega
 .exact e
theorem AjU{b s:Nat}(hb:0<(Ai b).length)(hs:s<=31)(h1:2147483648<=(Ai b).getD ((Ai b).length-1) 0*2 ^ s)(h2:(Ai b).getD ((Ai b).length-1) 0*2 ^ s<4294967296) :
  (Ai (b*2 ^ s)).length=(Ai b).length/\2147483648<=(Ai (b*2 ^ s)).getD ((Ai b).length-1) 0/\4294967296 ^ ((Ai b).length-1)*2 ^ s<=b*2 ^ s:=by
 obtain⟨p0,p31,pq⟩:=O9 hs;obtain⟨t1,t2⟩:=W8 (Am b) hb;rw[Az]at t1 t2;have hB:=(DV hb).1;generalize (Ai b).getD ((Ai b).length-1) 0=t at *;obtain⟨n,hn⟩:∃ n,(Ai b).length=n+1:=⟨(Ai b).length-1,by omega⟩;rw[hn,Ar1]at t1 t2 hB ⊢;have hP:0<4294967296 ^ n:=Nat.pow_pos (by omega);have ht:(t+1)*2 ^ s<=4294967296:=by
  have:t<2 ^ (32-s):=by
   rw[←pq,Arz]at h2;exact Atc h2
  have:=Asu (2 ^ s) this;rw[pq,Arz]at this;exact this
 have lo:4294967296 ^ n*2147483648<=b*2 ^ s:=by
  have h3:4294967296 ^ n*(t*2 ^ s)<=b*2 ^ s:=by
   rw[←Ark];exact Ard _ t1
  exact ArJ (Asu _ h1) h3
 have hi:b*2 ^ s<4294967296 ^ (n+1):=by
  have h3:b*2 ^ s<4294967296 ^ n*(t+1)*2 ^ s:=AsL t2 p0;rw[Ark]at h3;rw[ArP];exact ArL h3 (Asu _ ht)
 have hlen:(Ai (b*2 ^ s)).length=n+1:=Uv (by omega) hi;refine⟨hlen,?_,Ard _ hB⟩;have t3:=(W8 (Am (b*2 ^ s)) (by omega)).2;rw[Az,hlen,Ar1]at t3;have:=Atc (Auk lo t3);omega
theorem AjT{a s:Nat}(ha:0<(Ai a).length)(hs:s<=31):(Ai (a*2 ^ s)).length=(Ai a).length\/(Ai (a*2 ^ s)).length=(Ai a).length+1:=by
 obtain⟨p0,p31,pq⟩:=O9 hs;obtain⟨h1,h2⟩:=DV ha;have lo:4294967296 ^ ((Ai a).length-1)<=a*2 ^ s:=ArJ h1 (Nat.le_mul_of_pos_right _ p0);have hi:a*2 ^ s<4294967296 ^ ((Ai a).length+1):=by
  rw[ArP];exact ArL (AsL h2 p0) (Asu _ (by omega))
 have l1:=Ib lo;have l2:=Bc hi;omega
theorem AdS{a b s:Nat}(hs:s<=31){U:List Nat}(hU:Ad U=a*2 ^ s)(hl:U.length=(Ai a).length+1)(hb:0<(Ai b).length)(hba:(Ai b).length<=(Ai a).length)(h3:4294967296 ^ ((Ai b).length-1)*2 ^ s<=b*2 ^ s) :
  Ad (U.drop (U.length-(Ai b).length))<b*2 ^ s:=by
 obtain⟨p0,p31,pq⟩:=O9 hs;have ha:=(DV (show 0<(Ai a).length by omega)).2;have e:=congrArg Ad (ArW (U.length-(Ai b).length) U);rw[BD,Aq9,ArH (by omega),hU]at e;refine ArL ?_ h3;have h4:a*2 ^ s<4294967296 ^ (U.length-(Ai b).length)*(4294967296 ^ ((Ai b).length-1)*2 ^ s):=by
  rw[←Ark,←AsV,show U.length-(Ai b).length+((Ai b).length-1)=(Ai a).length by omega];exact AsL ha p0
 exact Atc (Auk (by omega) h4)
section
variable {D:Orc} (K:Knows DA Jk D) (C:CloneF D)
include K C
theorem Afl{a b:Nat}(ha:(Ai a).length<=999999990)(hb:2<=(Ai b).length)(hab:(Ai b).length<=(Ai a).length):D.ask (.fn 112) [eN (Ai a),eN (Ai b)] []=Θ (.tup [eN (Ai (a / b)),eN (Ai (a % b))],[]):=by
 have hb1:(Ai b).length-1<(Ai b).length:=by omega
 have htop:=(Am b).get hb1;have hpos:=AgQ (b:=b) (by omega);rw[CG hb1]at hpos;obtain⟨s,gz,h31,hz1,hz2⟩:=AmF K htop hpos;obtain⟨p0,p31,pq⟩:=O9 h31;obtain⟨hdl,hdt,hdb⟩:=AjU (b:=b) (s:=s) (by omega) h31 (by rw[CG hb1];exact hz1) (by rw[CG hb1];exact hz2);have hal:=AjT (a:=a) (s:=s) (by omega) h31;have gb:=XH K C (Am b) (by omega) h31;have ga:=XH K C (Am a) (by omega) h31;rw[Az]at gb ga;have rest:∀ U:List Nat,Limbs U->U.length=(Ai a).length+1->Ad U=a*2 ^ s->∃ q' U':List Nat,D.ask (.lp 112 0) [.sl 0 0 ((Ai a).length+1-(Ai b).length) 1,iv (s:Int),eN (Ai (b*2 ^ s)),.sl 1 0 U.length 1,iv ((Ai b).length:Int),iv ((((Ai a).length+1-(Ai b).length:Nat):Int)-1)] [θ (Ah eL (AsH ((Ai a).length+1-(Ai b).length) 0)) Δ Δ,θ (Ah eL U) Δ Δ]
   = Θ (.tup [iv 0,.sl 2 0 ((Ai a).length+1-(Ai b).length) 1,iv (s:Int),.sl 3 0 U.length 1,iv ((Ai b).length:Int)],[.del,.del,.set (θ (Ah eL q') Δ Δ),.set (θ (Ah eL U') Δ Δ)]) ∧
   q'.length=(Ai a).length+1-(Ai b).length/\U'.length=U.length ∧
   D.ask (.fn 109) [eN q'] []=Θ (.sl 0 0 (Ai (a / b)).length 1,[.set (θ (Ah eL (Ai (a / b))) Δ Δ)]) ∧
   D.ask (.fn 136) [eN (U'.take (Ai b).length),iv (s:Int)] []=Θ (eN (Ai (a % b)),[]):=λU hU hUl hUv=>by
  have hst:=AdS h31 hUv hUl (show 0<(Ai b).length by omega) hab hdb;obtain⟨q',U',g1,g2,g3,g4,g5,g6,g7,g8⟩:=Afk K (Am (b*2 ^ s)) (by omega) (by rw[hdl];exact hdt) (s:Int) ((Ai a).length+1-(Ai b).length) (AsH ((Ai a).length+1-(Ai b).length) 0) U (by simp) (by rw[As7,hUl,hdl];omega) (by omega) (λx hx=>by rw[List.eq_of_mem_replicate hx];omega) hU (by rw[Az,←hUl];exact hst);rw[As7]at g1 g2;rw[hdl]at g1;rw[Az]at g7 g8;rw[ArS (by omega),hUv]at g8;have hq:Ad q'=a / b/\Ad U'=(a % b)*2 ^ s:=by
   have hbp:0<b*2 ^ s:=by omega
   have e1:a*2 ^ s / (b*2 ^ s)=Ad q':=by
    rw[g8,Arz,Nat.mul_add_div hbp,AsB g7,ArG]
   have e2:a*2 ^ s % (b*2 ^ s)=Ad U':=by
    rw[g8,Arz,Nat.mul_add_mod,ArT g7]
   rw[Nat.mul_div_mul_right _ _ p0]at e1;rw[Nat.mul_mod_mul_right]at e2;exact⟨e1.symm,e2.symm⟩
  refine⟨q',U',g1,g2,g3,?_,?_⟩
  .have:=F7 K C (l:=q') (by unfold BL;omega) g4
   rwa [hq.1]at this
  .have ht:Ad (U'.take (Ai b).length)=Ad U':=by
    have e:=congrArg Ad (ArW (Ai b).length U');rw[BD,Aq9,ArH (by omega)]at e;have hbd:=(DV (b:=b*2 ^ s) (by omega)).2;rw[hdl]at hbd;rcases Ar8 (Ad (U'.drop (Ai b).length)) with h0|h0
    .rw[h0]at e;omega
    .exfalso
     have:4294967296 ^ (Ai b).length*1<=4294967296 ^ (Ai b).length*Ad (U'.drop (Ai b).length):=Asu _ h0;omega
   have:=ZA K C (a:=U'.take (Ai b).length) (g5.take _) (by unfold BL;rw[Aq9];omega) h31
   rwa [ht,hq.2,Nat.mul_div_cancel _ p0]at this
 refine AB K LL (AkY ..) ?_;rw[Ak,show Af.sub .i64 ((Ai b).length:Int) 1=(((Ai b).length-1:Nat):Int) from Ng (j:=1) (by omega) (by omega),Av,At (ξ hb1)];simp only[eL,Fu,ND,DK,Ab];refine Aa gz ?_;simp only[ND,DK,Ab];refine Aa gb ?_;simp only[ND,DK,Ab];refine Aa ga ?_;simp only[ND,DK,Ab];rcases hal with h|h
 .have hi:Af.sub .i64 (Af.add .i64 ((AL ((Ai a).map eL):Nat):Int) 1) ((Ai (a*2 ^ s)).length:Int)=((1:Nat):Int):=by
   rw[Ak,BA (by omega),h,Ng (by omega) (by omega)];simp
  have hU0:Ad (Ai (a*2 ^ s)++[0])=a*2 ^ s:=by
   rw[BD,Az];simp[Ad]
  obtain⟨q',U',gl,hql,hUl,gT,gR⟩:=rest (Ai (a*2 ^ s)++[0]) (CN (Am _) (Bf (by omega) BH)) (by simp[h]) hU0;rw[υ,Ari]at gl hUl;rw[hi,Av];refine Ac ?_;refine Ba ?_;refine Ac ?_;rw[AG (by omega) (by omega),AF AD (Ai (a*2 ^ s)) (by omega)];refine Ac ?_;refine Ac ?_;have hi2:Af.sub .i64 (((Ai (a*2 ^ s)).length+1:Nat):Int) ((Ai (b*2 ^ s)).length:Int)=(((Ai a).length+1-(Ai b).length:Nat):Int):=by
   rw[h,hdl,Ng (by omega) (by omega)]
  have hi3:Af.sub .i64 (((Ai a).length+1-(Ai b).length:Nat):Int) 1=(((Ai a).length+1-(Ai b).length:Nat):Int)-1:=Dm (by omega) (by omega);have hchk:Bi (Ai (b*2 ^ s)).length 1 (ε ((Ai (b*2 ^ s)).length*1) (Ah eL (Ai (b*2 ^ s))))=(Ai (b*2 ^ s)).map eL:=Bp AD _ rfl;have hcat:AqT 0 (ε (0+(Ai (a*2 ^ s)).length*1) (Ah eL (Ai (a*2 ^ s))))++BW [.v (.int .u32 0)] (1*1)=Ah eL (Ai (a*2 ^ s)++[0]):=by
   rw[List.drop_zero,Be AD _ (by omega),IB];exact Bb eL _ 0
  rw[hi2,Av,Av,show AqZ ((Ai a).length+1-(Ai b).length) ((Ai a).length+1-(Ai b).length)=Δ by simp];refine Ac ?_;rw[AG (by omega) (by omega)];refine Ac ?_;rw[AF AD _ (by omega)];refine Ac ?_;rw[hchk,hi3,hcat,IB,hdl];refine Aa gl ?_;simp only[ND,DK,Ab];rw[AF AD q' (by omega)];refine Ac ?_;rw[Bp AD q' hql.symm];refine Aa gT ?_;simp only[ND,DK,Ab];rw[Av,R2 (ArC _) (by omega)];refine Ac ?_;have hU1:ε ((Ai b).length*1) (Ah eL U')=Ah eL (U'.take (Ai b).length):=by
   rw[AsC,Eb,Eb,AtK]
  rw[show AqZ (0+(Ai b).length*1) (Ah eL U').length=Δ by rw[AT AD];simp;omega];refine Ac ?_;rw[hU1,←Be AD (U'.take (Ai b).length) (n:=(Ai b).length*1) (by simp;omega),Bp AD (U'.take (Ai b).length) (by rw[Aq9];omega)];refine Aa gR ?_;simp only[eN,ND,DK,Ab];rw[AF AD _ (by omega)];refine Ac ?_;rw[Bp AD _ rfl]
 .have hi:Af.sub .i64 (Af.add .i64 ((AL ((Ai a).map eL):Nat):Int) 1) ((Ai (a*2 ^ s)).length:Int)=((0:Nat):Int):=by
   rw[Ak,BA (by omega),h,Ng (by omega) (by omega)];simp
  obtain⟨q',U',gl,hql,hUl,gT,gR⟩:=rest (Ai (a*2 ^ s)) (Am _) h (Az _);rw[hi,Av];refine Ac ?_;refine Ac ?_;have hi2:Af.sub .i64 ((Ai (a*2 ^ s)).length:Int) ((Ai (b*2 ^ s)).length:Int)=(((Ai a).length+1-(Ai b).length:Nat):Int):=by
   rw[h,hdl,Ng (by omega) (by omega)]
  have hi3:Af.sub .i64 (((Ai a).length+1-(Ai b).length:Nat):Int) 1=(((Ai a).length+1-(Ai b).length:Nat):Int)-1:=Dm (by omega) (by omega);have hchk:Bi (Ai (b*2 ^ s)).length 1 (ε ((Ai (b*2 ^ s)).length*1) (Ah eL (Ai (b*2 ^ s))))=(Ai (b*2 ^ s)).map eL:=Bp AD _ rfl;rw[hi2,Av,Av,show AqZ ((Ai a).length+1-(Ai b).length) ((Ai a).length+1-(Ai b).length)=Δ by simp];refine Ac ?_;rw[AG (by omega) (by omega)];refine Ac ?_;rw[AF AD _ (by omega)];refine Ac ?_;rw[hchk,hi3,IB,hdl];refine Aa gl ?_;simp only[ND,DK,Ab];rw[AF AD q' (by omega)];refine Ac ?_;rw[Bp AD q' hql.symm];refine Aa gT ?_;simp only[ND,DK,Ab];rw[Av,R2 (ArC _) (by omega)];refine Ac ?_;have hU1:ε ((Ai b).length*1) (Ah eL U')=Ah eL (U'.take (Ai b).length):=by
   rw[AsC,Eb,Eb,AtK]
  rw[show AqZ (0+(Ai b).length*1) (Ah eL U').length=Δ by rw[AT AD];simp;omega];refine Ac ?_;rw[hU1,←Be AD (U'.take (Ai b).length) (n:=(Ai b).length*1) (by simp;omega),Bp AD (U'.take (Ai b).length) (by rw[Aq9];omega)];refine Aa gR ?_;simp only[eN,ND,DK,Ab];rw[AF AD _ (by omega)];refine Ac ?_;rw[Bp AD _ rfl]
theorem AiC{a b:List Nat}(ha:Limbs a)(hal:a.length<=999999990)(hb:Limbs b)(hbl:b.length<=999999990):D.ask (.fn 70) [eN a,eN b] []
  = Θ (if Ad b=0 then .tup [.ls [],.ls [],iv 10] else .tup [eN (Ai (Ad a / Ad b)),eN (Ai (Ad a % Ad b)),iv 0],[]):=by
 have la:(Ai (Ad a)).length<=999999990:=by rw[CO a ha];have:=Ch a;omega
 have lb:(Ai (Ad b)).length<=999999990:=by rw[CO b hb];have:=Ch b;omega
 refine AB K AhQ (AoY ..) ?_;refine Aa (Fs K (by unfold BL;omega) ha) ?_;simp only[eN,ND,DK,Ab];refine Aa (Fs K (by unfold BL;omega) hb) ?_;simp only[eN,Ak,ND,DK,Ab];generalize Ad a=x at *;generalize Ad b=y at *
 by_cases hy:y=0
 .rw[if_pos hy,hy,Cj]
  exact GJ (by decide)
 .have hyl:0<(Ai y).length:=by
   rw[Dh hy];exact Nat.succ_pos _
  rw[if_neg hy];refine AN ?_;refine Aa (Aet K (a:=Ai x) (b:=Ai y) (by unfold BL;omega) (Am x) (by unfold BL;omega) (Am y)) ?_;rw[Az,Az];simp only[ND,DK,Ab]
  by_cases hxy:x<y
  .refine Aj ?_ (by unfold CT;rw[if_pos hxy];decide)
   have gt:=F7 K C (l:=Ai x) (by unfold BL;omega) (Am x);rw[Az]at gt;refine Aa gt ?_;simp only[ND,DK,Ab];rw[AF AD _ (by omega)];refine Ac ?_;rw[Bp AD _ rfl,AsB hxy,ArT hxy,Cj];rfl
  .refine Ag ?_ (by unfold CT;rw[if_neg hxy];split<;>decide)
   by_cases h1:(Ai y).length=1
   .have hlt:y<4294967296:=by
     have:=(DV hyl).2
     rwa [h1]at this
    have hny:Ai y=[y]:=by
     rw[Dh hy,ArT hlt,AsB hlt,Cj]
    refine Bu ?_;rw[hny,At (show [y][0]? = Θ y from rfl)];simp only[eL,Fu,ND,DK,Ab];refine Aa (YU K C (a:=Ai x) (Am x) (by unfold BL;omega) (by omega) hlt) ?_;rw[Az];simp only[eN,Fu,ND,DK,Ab];have hm:=ArF x (show 0<y by omega);rw[Bo (x:=x % y) (by omega)];refine Aa (AiG K C (x % y) (by omega)) ?_;simp only[eN,ND,DK,Ab]
   .refine AN ?_
    have hll:(Ai y).length<=(Ai x).length:=by
     rcases Nat.lt_or_ge (Ai x).length (Ai y).length with h|h
     .exact absurd (Gb h) hxy
     .exact h
    refine Aa (Afl K C la (by omega) hll) ?_;simp only[eN,ND,DK,Ab]
