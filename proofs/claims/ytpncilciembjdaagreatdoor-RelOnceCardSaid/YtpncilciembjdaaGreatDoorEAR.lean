/- What long division comes -/
import Derived.Test.YtpncilciembjdaaGreatDoorEAQ
set_option linter.all false
open Bool renaming true->Δ,and_eq_true->ArX
open List renaming append_assoc->Ar4,drop->ArV,drop_drop->At2,drop_eq_getElem_cons->ο,drop_left'->At9,drop_one->AvO,getElem?_append_right->Ase,getElem?_eq_getElem->φ,headD_cons->Atg,length_append->η,length_drop->Ats,length_replicate->Auc,length_set->Asd,length_singleton->Asi,length_take->Asb,map_take->AuM,replicate->Atb,take->ArQ,take_append_drop->AsU,take_left'->Aua,take_of_length_le->AsW,take_succ_eq_append_getElem->AsD
open Nat renaming add_mul->Asz,add_sub_cancel->As2,add_sub_cancel_left->AtC,add_zero->AsI,ble->ArY,blt->AsL,div_eq_of_lt->AuW,eq_zero_or_pos->As9,le_trans->Asr,lt_of_le_of_lt->Avm,lt_of_lt_of_le->AsM,lt_of_mul_lt_mul_left->Auh,min_eq_left->AsR,mod_eq_of_lt->As5,mod_lt->AsJ,mul_add->AsS,mul_assoc->Asp,mul_comm->AsF,mul_le_mul_left->Atx,mul_le_mul_right->Asa,mul_lt_mul_of_pos_right->AtT,mul_one->At0,mul_zero->Au0,one_mul->Ata,pow_add->AuI,pow_succ->As7,sub_self->Auf,two_pow_pos->AvK,zero_add->Ar5,zero_le->AsB
open Option renaming some->Θ
namespace Go.Proofs.YtpncilciembjdaaGreatDoor
open ABlk renaming mk->δ
open IntKind renaming u64->Ω
open Go.RowKit
theorem Adm{l:List Nat}(j i:Nat)(h:j+i<l.length)(k:List AV->KR):EX (Ag eL l) (j+i*1) 1 k=k [.v (.int .u32 (l[j+i]:Int))]:=by
 rw[show j+i*1=0+(j+i)*1 by omega];exact Ii l _ h k
section
variable {D:Orc} (K:Knows Ds I9 D)
include K
theorem AbZ(d:List Nat)(hd:Limbs d)(U:List Nat)(hU:Limbs U)(o n f:Nat)(h2:2<=d.length)(hdl:d.length<=1000000000)(hn:d.length-2<n)(hou:o+(d.length-2)<U.length)(hdi:d.length-2<d.length)(hf:f<4294967296):∀(k g r:Nat),g<=4294967297->r<4294967296->4294967296<=r+k*f->
  D.ask (.lp 239 0) [.sl 0 o n 1,eN d,iv (d.length:Int),.v (.int .u64 (f:Int)),.v (.int .u64 (g:Int)),.v (.int .u64 (r:Int))] [δ (Ag eL U) Δ Δ]
   = Θ (.tup [iv 0,.v (.int .u64 (HK f d[d.length-2] U[o+(d.length-2)] k g r:Int))],[.keep]):=by
 have hv:=hd.get hdi;have hu:=hU.get hou;intro k
 induction k with
 |zero=>intro g r _ h1 h3;omega
 |succ k ih=>
  intro g r hg hr hk;have hk2:4294967296<=r+f+k*f:=by rw[Asz,Ata]at hk;omega
  rw[HK];have hsub:Ae.sub .i64 (d.length:Int) 2=((d.length-2:Nat):Int):=Ps (j:=2) h2 (by omega);have hadd:Ae.add .u64 (r:Int) (f:Int)=((r+f:Nat):Int):=BZ (by omega);have tail:1<=g->(br (Ae.le 4294967296 (Ae.add .u64 (r:Int) (f:Int)))
     (Θ ((AV.tup [iv 0,AV.v (Value.int Ω (Ae.sub Ω (g:Int) 1))],[BO.keep])))
     (AF D (Key.lp 239 0) [AV.sl 0 o n 1,AV.ls (d.map eL),iv (d.length:Int),AV.v (Value.int Ω (f:Int)),AV.v (Value.int Ω (Ae.sub Ω (g:Int) 1)),AV.v (Value.int Ω (Ae.add Ω (r:Int) (f:Int)))] [δ (Ag eL U) Δ Δ] λr o=>
     AW 1 [0] (AH.mk [(0,δ (Ag eL U) Δ Δ)] 1 none) [] r o))
    = Θ (.tup [iv 0,.v (.int .u64 ((if 4294967296<=r+f then g-1 else HK f d[d.length-2] U[o+(d.length-2)] k (g-1) (r+f):Nat):Int))],[.keep]):=λh1=>by
   rw[hadd,show Ae.sub .u64 (g:Int) 1=((g-1:Nat):Int) from D4 (y:=1) h1 (by omega)]
   by_cases hb:4294967296<=r+f
   .rw[if_pos hb]
    exact Rr (by omega)
   .rw[if_neg hb]
    refine CA ?_;refine Ab (ih (g-1) (r+f) (by omega) (by omega) hk2) ?_;rfl
  refine Ax K RU (AeX ..) ?_
  by_cases hB:4294967296<=g
  .rw[if_pos (.inl hB)]
   refine Cg ?_;exact tail (by omega)
  .refine CA ?_
   rw[hsub,Au,AB (φ hdi)];simp only[eL,FX,ND,DK,Aa];refine Ak ?_ (by decide);rw[Au,show AsL (d.length-2) n=Δ from BE hn];refine Ac ?_;refine(Adm o _ hou _).trans ?_;refine(cuN _ _).trans ?_;have hgv:=JA (show g<4294967296 by omega) hv;rw[Bg (show U[o+(d.length-2)]<_ by omega),Bg (show d[d.length-2]<_ by omega),KF hr,O4 hu hr,KE (by omega)]
   by_cases hc:r*4294967296+U[o+(d.length-2)]<g*d[d.length-2]
   .rw[if_pos (.inr hc)]
    refine Ap ?_;exact tail (by
     rcases As9 g with e|e
     .rw[e]at hc;omega
     .exact e)
   .rw[if_neg (λh=>h.elim hB hc)]
    exact Ek (by omega)
theorem V7{d:List Nat}(hd:Limbs d){U:List Nat}(hU:Limbs U){o n:Nat}(h2:2<=d.length)(hdl:d.length<=1000000000)(hn:d.length<n)(hou:o+n<=U.length)(h1:d.length-1<d.length)(h1':d.length-2<d.length)(hu0:o+d.length<U.length)(hu1:o+(d.length-1)<U.length)(hu2:o+(d.length-2)<U.length)(hf:2147483648<=d[d.length-1])
  (hT:U[o+d.length]*4294967296+U[o+(d.length-1)]<=d[d.length-1]*4294967296+d[d.length-2]) :
  D.ask (.fn 239) [.sl 0 o n 1,eN d] [δ (Ag eL U) Δ Δ]=Θ (.v (.int .u64 (HK d[d.length-1] d[d.length-2] U[o+(d.length-2)] 2 ((U[o+d.length]*4294967296+U[o+(d.length-1)]) / d[d.length-1]) ((U[o+d.length]*4294967296+U[o+(d.length-1)]) % d[d.length-1]):Int)),[.keep]):=by
 have hx0:=hU.get hu0;have hx1:=hU.get hu1;have hfl:=hd.get h1;have hg:=AbW (hd.get h1') hf hT;have hm:=AsJ (U[o+d.length]*4294967296+U[o+(d.length-1)]) (show 0<d[d.length-1] by omega);have g:=AbZ K d hd U hU o n d[d.length-1] h2 hdl (by omega) hu2 h1' hfl 2 ((U[o+d.length]*4294967296+U[o+(d.length-1)]) / d[d.length-1]) ((U[o+d.length]*4294967296+U[o+(d.length-1)]) % d[d.length-1]) hg (by omega) (by omega);have hsub:Ae.sub .i64 (d.length:Int) 1=((d.length-1:Nat):Int):=Ps (j:=1) (by omega) (by omega);refine AC K RU (Am3 ..) ?_;rw[Ao,show AsL d.length n=Δ from BE hn];refine Ac ?_;refine(Adm o _ hu0 _).trans ?_;simp only[FX,ND,DK,Aa];refine Ak ?_ (by decide);rw[hsub];simp only[Au];rw[show AsL (d.length-1) n=Δ from BE (by omega)];refine Ac ?_;refine(Adm o _ hu1 _).trans ?_;refine(cuN _ _).trans ?_;rw[AB (φ h1)];simp only[eL,FX,ND,DK,Aa];rw[Bg (show d[d.length-1]<_ by omega),Bg (show U[o+d.length]<_ by omega),Bg (show U[o+(d.length-1)]<_ by omega),KF hx0,O4 hx1 hx0,Adi (by omega),Adl];refine Ba ?_;refine Ba ?_;refine Ab g ?_;rfl
end
theorem Ajs{w:List Nat}(h:2<=w.length)(h1:w.length-1<w.length)(h2:w.length-2<w.length):w=w.take (w.length-2)++[w[w.length-2],w[w.length-1]]:=by
 have e:w.length-2+1=w.length-1:=by omega
 have:=AsU (w.length-2) w;rw[ο h2]at this;simp only[e]at this;rw[ο h1,List.drop_eq_nil_of_le (by omega)]at this;exact this.symm
theorem Aic{w:List Nat}{x:Nat}(h:2<=w.length)(h1:w.length-1<w.length)(h2:w.length-2<w.length):Ad (w++[x])=((x*4294967296+w[w.length-1])*4294967296+w[w.length-2])*4294967296 ^ (w.length-2)+Ad (w.take (w.length-2)):=by
 have e:w++[x]=w.take (w.length-2)++[w[w.length-2],w[w.length-1],x]:=by
  have:=Ajs h h1 h2
  conv=>lhs;rw[this]
  simp
 rw[e,BF,Asb,AsR (by omega)];simp only[Ad];rw[AsF (4294967296 ^ (w.length-2))];generalize 4294967296 ^ (w.length-2)=P;rw[show w[w.length-2]+4294967296*(w[w.length-1]+4294967296*(x+4294967296*0))=(x*4294967296+w[w.length-1])*4294967296+w[w.length-2] by omega];omega
theorem Ah4{w:List Nat}(h:2<=w.length)(h1:w.length-1<w.length)(h2:w.length-2<w.length):Ad w=(w[w.length-1]*4294967296+w[w.length-2])*4294967296 ^ (w.length-2)+Ad (w.take (w.length-2)):=by
 have e:=congrArg Ad (Ajs h h1 h2);rw[BF,Asb,AsR (by omega)]at e;refine e.trans ?_;simp only[Ad];rw[AsF (4294967296 ^ (w.length-2))];rw[show w[w.length-2]+4294967296*(w[w.length-1]+4294967296*0)=w[w.length-1]*4294967296+w[w.length-2] by omega];omega
theorem Ae9{P f v vl ul wl T W Dv:Nat}(hvl:vl<P)(hDv:Dv=(f*4294967296+v)*P+vl)(hW:W=(T*4294967296+ul)*P+wl)(hWD:W<Dv*4294967296):T<=f*4294967296+v:=by
 by_cases h:T<=f*4294967296+v
 .exact h
 .exfalso
  have h1:(f*4294967296+v+1)*4294967296*P<=(T*4294967296+ul)*P:=Asa _ (by omega);have h2:Dv*4294967296<=(f*4294967296+v+1)*4294967296*P:=by
   rw[hDv,Asp _ 4294967296 P,AsF 4294967296 P,←Asp];exact Asa _ (by rw[Asz _ 1 P,Ata];omega)
  omega
def gW(d w:List Nat)(x:Nat):Nat:=HK (d.getD (d.length-1) 0) (d.getD (d.length-2) 0) (w.getD (d.length-2) 0) 2 ((x*4294967296+w.getD (d.length-1) 0) / d.getD (d.length-1) 0) ((x*4294967296+w.getD (d.length-1) 0) % d.getD (d.length-1) 0)
theorem Cz{l:List Nat}{i:Nat}(h:i<l.length):l.getD i 0=l[i]:=by
 rw[List.getD_eq_getElem?_getD,φ h];rfl
theorem Xw{d w:List Nat}{x:Nat}(hd:Limbs d)(hw:Limbs (w++[x]))(hl:w.length=d.length)(h2:2<=d.length)(hf:2147483648<=d.getD (d.length-1) 0)(hW:Ad (w++[x])<Ad d*4294967296) :
  Gs (Ad (w++[x])) (Ad d) (gW d w x)/\x*4294967296+w.getD (d.length-1) 0<=d.getD (d.length-1) 0*4294967296+d.getD (d.length-2) 0:=by
 have d1:d.length-1<d.length:=by omega
 have d2:d.length-2<d.length:=by omega
 have w1:w.length-1<w.length:=by omega
 have w2:w.length-2<w.length:=by omega
 have ed:=Ah4 h2 d1 d2;have ew:=Aic (x:=x) (by omega) w1 w2;unfold gW;rw[←Cz d1,←Cz d2]at ed;rw[←Cz w1,←Cz w2,hl]at ew;have hww:Limbs w:=λy hy=>hw y (by simp[hy])
 have b1:=BK (hd.take (d.length-2));have b2:=BK (hww.take (d.length-2));rw[Asb,AsR (by omega)]at b1 b2;have c1:=hd.get d1;have c2:=hd.get d2;have c3:=hww.get w2;rw[←Cz d1]at c1;rw[←Cz d2]at c2;rw[←Cz w2,hl]at c3;generalize d.getD (d.length-1) 0=f at *;generalize d.getD (d.length-2) 0=v at *;generalize w.getD (d.length-2) 0=ul at *;generalize w.getD (d.length-1) 0=y at *;obtain⟨T,hT⟩:∃ T,T=x*4294967296+y:=⟨_,rfl⟩;rw[←hT]at ew ⊢;generalize Ad (w++[x])=W at *;generalize Ad d=Dv at *;generalize Ad (d.take (d.length-2))=vl at *;generalize Ad (w.take (d.length-2))=wl at *;generalize 4294967296 ^ (d.length-2)=P at *;have hm:=AsJ T (show 0<f by omega);refine⟨V6 c2 b1 b2 hf ed ew hW 2 _ _ (by rw[AsF];exact Nat.div_add_mod T f) ?_ (by omega) (by omega),Ae9 b1 ed ew hW⟩;have g:=Ae8 (Q:=4294967296*P) (f:=f) (dl:=v*P+vl) (T:=T) (ul:=ul*P+wl) ?_ (by omega)
 .rw[ed,ew]
  have e1:(T*4294967296+ul)*P+wl=T*(4294967296*P)+(ul*P+wl):=by rw[Asz,Asp];omega
  have e2:(f*4294967296+v)*P+vl=f*(4294967296*P)+(v*P+vl):=by rw[Asz,Asp];omega
  rw[e1,e2];exact g
 .have:(ul+1)*P<=4294967296*P:=Asa _ c3
  rw[Asz,Ata]at this;omega
def tW(d w:List Nat)(x:Nat):Nat:=DN (gW d w x) 0 d+C3 (gW d w x) 0 0 w d
def aW(d w:List Nat)(x:Nat):List Nat:=Du (gW d w x) 0 0 w d
def aX(d w:List Nat)(x:Nat):Nat:=(x+4294967296-tW d w x) % 4294967296
theorem Aek{d w:List Nat}{x:Nat}(hd:Limbs d)(hw:Limbs (w++[x]))(hl:w.length=d.length)(h2:2<=d.length)(hf:2147483648<=d.getD (d.length-1) 0)(hW:Ad (w++[x])<Ad d*4294967296) :
  Limbs (aW d w x++[aX d w x])/\(aW d w x).length=d.length ∧
  (¬ x<tW d w x->Ad (aW d w x++[aX d w x])+gW d w x*Ad d=Ad (w++[x])/\Ad (aW d w x++[aX d w x])<Ad d) ∧
  (x<tW d w x->1<=gW d w x/\Limbs (C4 0 (aW d w x) d++[(aX d w x+CK 0 (aW d w x) d) % 4294967296]) ∧
   Ad (C4 0 (aW d w x) d++[(aX d w x+CK 0 (aW d w x) d) % 4294967296])+(gW d w x-1)*Ad d=Ad (w++[x]) ∧
   Ad (C4 0 (aW d w x) d++[(aX d w x+CK 0 (aW d w x) d) % 4294967296])<Ad d):=by
 obtain⟨hG,_⟩:=Xw hd hw hl h2 hf hW;have hww:Limbs w:=λy hy=>hw y (by simp[hy])
 have hx:x<4294967296:=hw x (by simp);have la:(aW d w x).length=d.length:=Ga ..;have hA:=AaZ (m:=gW d w x) hww hd hl hG.lt hx;have hmod:=AsJ (x+4294967296-tW d w x) (show 0<4294967296 by omega);have hLm:Limbs (aW d w x++[aX d w x]):=CG (Hx _ 0 0 w d hww (AsB _)) (Bc hmod BG);have hS:=AdU hl la hd rfl rfl hG hLm hA;have haw:Limbs (aW d w x):=Hx _ 0 0 w d hww (AsB _);have hB:=Aa4 (ul:=aX d w x) haw hd la hmod;refine⟨hLm,la,hS.1,λh=>?_⟩;obtain⟨h3,h4,h5⟩:=hS.2 h;refine⟨h3,CG (Hy 0 _ _) (Bc (AsJ _ (by omega)) BG),?_⟩;rw[hB];exact⟨h4,h5⟩
section
variable {D:Orc} (K:Knows Ds I9 D)
include K
theorem Aku{d:List Nat}(hd:Limbs d){m:Nat}(hm:m<4294967296){A w Z:List Nat}{x:Nat}(hU:Limbs (A++(w++[x])++Z))(hl:w.length=d.length)(hUl:(A++(w++[x])++Z).length<=1000000000) :
  D.ask (.fn 240) [.sl 0 A.length (d.length+1) 1,eN d,.v (.int .u64 (m:Int))] [δ (Ag eL (A++(w++[x])++Z)) Δ Δ]
   = Θ (bv (decide (x<DN m 0 d+C3 m 0 0 w d)),[.set (δ (Ag eL (A++(Du m 0 0 w d++[(x+4294967296-(DN m 0 d+C3 m 0 0 w d)) % 4294967296])++Z)) Δ Δ)]):=by
 have hlen:A.length+d.length<(A++(w++[x])++Z).length:=by simp;omega
 have g:=U0 K hd hm hU hlen hUl;have e1:(A++(w++[x])++Z).take A.length=A:=by rw[Ar4,Aua];rfl
 have e2:((A++(w++[x])++Z).drop A.length).take d.length=w:=by
  rw[Ar4,At9 rfl,Ar4,Aua hl]
 have e3:(A++(w++[x])++Z)[A.length+d.length]=x:=by
  have:(A++(w++[x])++Z)[A.length+d.length]? = Θ x:=by
   rw[Ar4,Ase (by omega),AtC,Ar4,Ase (by omega),hl,Auf];rfl
  rw[φ hlen]at this;injection this
 have e4:(A++(w++[x])++Z).drop (A.length+(d.length+1))=Z:=by
  rw[At9 (by simp;omega)]
 rw[NI,NK,e1,e2,e3,e4]at g;exact g
theorem Akv{d:List Nat}(hd:Limbs d){A w Z:List Nat}{x:Nat}(hU:Limbs (A++(w++[x])++Z))(hl:w.length=d.length)(hUl:(A++(w++[x])++Z).length<=1000000000) :
  D.ask (.fn 241) [.sl 0 A.length (d.length+1) 1,eN d] [δ (Ag eL (A++(w++[x])++Z)) Δ Δ]
   = Θ (.tup [],[.set (δ (Ag eL (A++(C4 0 w d++[(x+CK 0 w d) % 4294967296])++Z)) Δ Δ)]):=by
 have hlen:A.length+d.length<(A++(w++[x])++Z).length:=by simp;omega
 have g:=Wy K hd hU hlen hUl;have e1:(A++(w++[x])++Z).take A.length=A:=by rw[Ar4,Aua];rfl
 have e2:((A++(w++[x])++Z).drop A.length).take d.length=w:=by
  rw[Ar4,At9 rfl,Ar4,Aua hl]
 have e3:(A++(w++[x])++Z)[A.length+d.length]=x:=by
  have:(A++(w++[x])++Z)[A.length+d.length]? = Θ x:=by
   rw[Ar4,Ase (by omega),AtC,Ar4,Ase (by omega),hl,Auf];rfl
  rw[φ hlen]at this;injection this
 have e4:(A++(w++[x])++Z).drop (A.length+(d.length+1))=Z:=by
  rw[At9 (by simp;omega)]
 rw[NN,NM,e1,e2,e3,e4]at g;exact g
theorem Afa{d:List Nat}(hd:Limbs d){A w Z:List Nat}{x:Nat}(hU:Limbs (A++(w++[x])++Z))(hl:w.length=d.length)(hdl:d.length<=1000000000)(h2:2<=d.length)(hf:2147483648<=d.getD (d.length-1) 0){n:Nat}(hn:d.length<n)(hou:A.length+n<=(A++(w++[x])++Z).length)
  (hT:x*4294967296+w.getD (d.length-1) 0<=d.getD (d.length-1) 0*4294967296+d.getD (d.length-2) 0) :
  D.ask (.fn 239) [.sl 0 A.length n 1,eN d] [δ (Ag eL (A++(w++[x])++Z)) Δ Δ]=Θ (.v (.int .u64 (gW d w x:Int)),[.keep]):=by
 have d1:d.length-1<d.length:=by omega
 have d2:d.length-2<d.length:=by omega
 have w1:d.length-1<w.length:=by omega
 have w2:d.length-2<w.length:=by omega
 have u0:A.length+d.length<(A++(w++[x])++Z).length:=by simp;omega
 have u1:A.length+(d.length-1)<(A++(w++[x])++Z).length:=by simp;omega
 have u2:A.length+(d.length-2)<(A++(w++[x])++Z).length:=by simp;omega
 have at0:(A++(w++[x])++Z)[A.length+d.length]=x:=by
  have:(A++(w++[x])++Z)[A.length+d.length]? = Θ x:=by
   rw[Ar4,Ase (by omega),AtC,Ar4,Ase (by omega),hl,Auf];rfl
  rw[φ u0]at this;injection this
 have atw:∀ i (h:A.length+i<(A++(w++[x])++Z).length) (hi:i<w.length),(A++(w++[x])++Z)[A.length+i]=w.getD i 0:=λi h hi=>by
  have:(A++(w++[x])++Z)[A.length+i]? = Θ w[i]:=by
   rw[Ar4,Ase (by omega),AtC,Ar4,List.getElem?_append_left hi,φ hi]
  rw[φ h]at this;injection this with this
  rw[this,Cz hi]
 have g:=V7 K hd hU h2 hdl hn hou d1 d2 u0 u1 u2 (by rw[←Cz d1];exact hf) (by rw[at0,atw _ u1 w1,←Cz d1,←Cz d2];exact hT);rw[at0,atw _ u1 w1,atw _ u2 w2,←Cz d1,←Cz d2]at g;exact g
end
theorem Lv{l h n:Nat}(h1:l<=h)(h2:h<=n):IJ l h n=Δ:=by
 unfold IJ;rw[show ArY l h=Δ by simpa using h1];simpa using h2
theorem Va(A v Z:List Nat):Ad (A++v++Z)=Ad A+4294967296 ^ A.length*(Ad v+4294967296 ^ v.length*Ad Z):=by
 rw[Ar4,BF,BF]
theorem Aib{U:List Nat}{i n:Nat}(h:i+n<U.length):U=U.take i++((U.drop i).take n++[U[i+n]])++U.drop (i+n+1):=by
 have e:(U.drop i).take n++[U[i+n]]=(U.drop i).take (n+1):=by
  rw[AsD (by rw[Ats];omega),List.getElem_drop]
 rw[e,Ar4];have:U.drop (i+n+1)=(U.drop i).drop (n+1):=by rw[At2,Nat.add_assoc]
 rw[this,AsU,AsU]
theorem AhM{q:List Nat}{k v:Nat}(h:k<q.length){q2:List Nat}(hl:q2.length=q.length)(h2:q2.drop k=(q.set k v).drop k):Ad (q2.take (k+1))=Ad (q2.take k)+4294967296 ^ k*v:=by
 have hk:k<q2.length:=by omega
 have e:q2[k]=v:=by
  have h3:(q2.drop k).headD 0=((q.set k v).drop k).headD 0:=by rw[h2]
  rw[ο hk,ο (l:=q.set k v) (by rw[Asd];exact h),Atg,Atg,List.getElem_set_self]at h3;exact h3
 rw[AsD hk,BF,Asb,AsR (by omega),e];simp[Ad]
section
variable {D:Orc} (K:Knows Ds I9 D)
include K
theorem Afm{d:List Nat}(hd:Limbs d)(h2:2<=d.length)(hf:2147483648<=d.getD (d.length-1) 0)(s:Int):∀(k:Nat) (q U:List Nat),k<=q.length->U.length=q.length+d.length->U.length<=1000000000->Limbs q->Limbs U->Ad (U.drop k)<Ad d->
  ∃ q' U':List Nat,D.ask (.lp 204 0) [.sl 0 0 q.length 1,iv s,eN d,.sl 1 0 U.length 1,iv (d.length:Int),iv ((k:Int)-1)] [δ (Ag eL q) Δ Δ,δ (Ag eL U) Δ Δ]
   = Θ (.tup [iv 0,.sl 2 0 q.length 1,iv s,.sl 3 0 U.length 1,iv (d.length:Int)],[.del,.del,.set (δ (Ag eL q') Δ Δ),.set (δ (Ag eL U') Δ Δ)]) ∧
   q'.length=q.length/\U'.length=U.length/\Limbs q'/\Limbs U'/\q'.drop k=q.drop k/\Ad U'<Ad d/\Ad U=Ad (q'.take k)*Ad d+Ad U':=by
 intro k
 induction k with
 |zero=>
  intro q U hk hl hm hq hU hv;refine⟨q,U,?_,rfl,rfl,hq,hU,rfl,by simpa using hv,by simp[Ad]⟩;refine Ax K Lq (RE ..) ?_;exact Vr (by omega)
 |succ k ih=>
  intro q U hk hl hm hq hU hv;have hin:k+d.length<U.length:=by omega
  have hcut:=Aib hin;obtain⟨A,hA⟩:∃ A,A=U.take k:=⟨_,rfl⟩;obtain⟨w,hw⟩:∃ w,w=(U.drop k).take d.length:=⟨_,rfl⟩;obtain⟨x,hx⟩:∃ x,x=U[k+d.length]:=⟨_,rfl⟩;obtain⟨Z,hZ⟩:∃ Z,Z=U.drop (k+d.length+1):=⟨_,rfl⟩;rw[←hA,←hw,←hx,←hZ]at hcut;have hAl:A.length=k:=by rw[hA,Asb];omega
  have hwl:w.length=d.length:=by rw[hw,Asb,Ats];omega
  have hAL:Limbs A:=by rw[hA];exact hU.take _
  have hZL:Limbs Z:=by rw[hZ];exact hU.drop _
  have hwL:Limbs (w++[x]):=by rw[hw,hx];exact CG ((hU.drop _).take _) (Bc (hU.get hin) BG)
  have hdv:=BK hd;have hUd:U.drop k=(w++[x])++Z:=by rw[hcut,Ar4,At9 hAl]
  have hUd1:(U.drop (k+1))=((w++[x]).drop 1)++Z:=by
   rw[show U.drop (k+1)=(U.drop k).drop 1 by rw[At2],hUd,List.drop_append_of_le_length (by simp)]
  have hZ0:Ad Z=0:=by
   rw[hUd1,BF,Ats,η,Asi,hwl,As2]at hv;rcases As9 (Ad Z) with e|e
   .exact e
   .exfalso
    have:4294967296 ^ d.length*1<=4294967296 ^ d.length*Ad Z:=Atx _ e;omega
  have hWD:Ad (w++[x])<Ad d*4294967296:=by
   obtain⟨y,hy⟩:∃ y,(w++[x])=y::(w++[x]).drop 1:=by
    cases w with
    |nil=>exact⟨x,rfl⟩
    |cons a w=>exact⟨a,rfl⟩
   have hy1:y<4294967296:=hwL y (by rw[hy];exact List.mem_cons_self ..);have hv1:Ad ((w++[x]).drop 1)<Ad d:=by
    rw[hUd1,BF,hZ0]at hv;omega
   rw[hy,Ad,AvO];rw[AvO]at hv1;omega
  obtain⟨hG,hT⟩:=Xw hd hwL hwl h2 hf hWD;obtain⟨hLm,la,hnb,hbk⟩:=Aek hd hwL hwl h2 hf hWD;have hglt:=hG.lt;have hUlen:(A++(w++[x])++Z).length=U.length:=by rw[←hcut]
  have hU2:Limbs (A++(w++[x])++Z):=by rw[←hcut];exact hU
  have gg:=Afa K hd hU2 hwl (by omega) h2 hf (n:=U.length-k) (by omega) (by rw[hUlen,hAl];omega) hT;have ga:=Aku K hd hglt hU2 hwl (by omega);rw[hAl,←hcut]at gg ga;have hLen1:(A++(aW d w x++[aX d w x])++Z).length=U.length:=by
   rw[←hUlen];simp only[η,Asi,la,hwl]
  have key:∀(g:Nat) (v:List Nat),g<4294967296->v.length=d.length+1->Limbs v->Ad v+g*Ad d=Ad (w++[x])->Ad v<Ad d->
    ∃ q' U':List Nat,D.ask (.lp 204 0) [.sl 0 0 q.length 1,iv s,eN d,.sl 1 0 U.length 1,iv (d.length:Int),iv ((k:Int)-1)] [δ (Ag eL (q.set k g)) Δ Δ,δ (Ag eL (A++v++Z)) Δ Δ]
     = Θ (.tup [iv 0,.sl 2 0 q.length 1,iv s,.sl 3 0 U.length 1,iv (d.length:Int)],[.del,.del,.set (δ (Ag eL q') Δ Δ),.set (δ (Ag eL U') Δ Δ)]) ∧
     q'.length=q.length/\U'.length=U.length/\Limbs q'/\Limbs U'/\q'.drop (k+1)=q.drop (k+1)/\Ad U'<Ad d/\Ad U=Ad (q'.take (k+1))*Ad d+Ad U':=λg v hg hvl hvL he hlt=>by
   have hl1:(A++v++Z).length=U.length:=by
    rw[←hUlen];simp only[η,Asi,hvl,hwl]
   obtain⟨q',U',h1,h3,h4,h5,h6,h7,h8,h9⟩:=ih (q.set k g) (A++v++Z) (by rw[Asd];omega) (by rw[hl1,Asd];exact hl) (by omega) (IM hq hg) (CG (CG hAL hvL) hZL) (by
    rw[Ar4,At9 hAl,BF,hZ0];omega)
   rw[Asd]at h1 h3;rw[hl1]at h1 h4;refine⟨q',U',h1,h3,h4,h5,h6,?_,h8,?_⟩
   .have:=congrArg (ArV 1) h7
    rw[At2,At2,List.drop_set_of_lt (by omega)]at this;exact this
   .have hqk:k<q.length:=by omega
    rw[AhM hqk h3 h7,Asz];have e1:Ad U=Ad A+4294967296 ^ k*Ad (w++[x]):=by
     conv=>lhs;rw[hcut]
     rw[Va,hZ0,hAl];simp
    rw[Va,hZ0,hAl]at h9;rw[e1,←he,AsS,Asp];simp only[Au0,AsI]at h9;omega
  have hqk:k<q.length:=by omega
  have hblt:AsL k q.length=Δ:=BE hqk;have hble:ArY (0+k*1+1) (Ag eL q).length=Δ:=by rw[AR AA];simp;omega
  have hin1:IJ k U.length U.length=Δ:=Lv (by omega) (by omega);have hin2:IJ k (k+d.length+1) U.length=Δ:=Lv (by omega) (by omega);have hsub:Ae.sub .i64 (k:Int) 1=(k:Int)-1:=DB (by omega) (by omega);have hadd:Ae.add .i64 (Ae.add .i64 (k:Int) (d.length:Int)) 1=((k+d.length+1:Nat):Int):=by
   rw[AaS (by omega),BV (by omega)]
  have h0k:0+k*1=k:=by omega
  by_cases hb:x<tW d w x
  .obtain⟨hg1,hL2,he,hlt⟩:=hbk hb
   have gb:=Akv K hd (A:=A) (Z:=Z) (w:=aW d w x) (x:=aX d w x) (CG (CG hAL hLm) hZL) la (by omega);rw[hAl]at gb;obtain⟨q',U',h1,hr⟩:=key (gW d w x-1) _ (by omega) (by rw[η,Ej,Asi]) hL2 he hlt;refine⟨q',U',?_,hr⟩;refine Ax K Lq (RE ..) ?_;rw[show (((k+1:Nat):Int)-1)=(k:Int) by omega];refine Cg ?_;rw[Au,hin1,h0k];refine Ac ?_;refine Ab gg ?_;simp only[PX,ND,DK,Aa];rw[hadd,Au,Au,hin2,h0k,show k+d.length+1-k=d.length+1 by omega];refine Ac ?_;refine Ab ga ?_;simp only[ND,DK,Aa];rw[decide_eq_true (show x<DN (gW d w x) 0 d+C3 (gW d w x) 0 0 w d from hb)];refine Ac ?_;rw[Au,Au,hin2,h0k,show k+d.length+1-k=d.length+1 by omega];refine Ac ?_;refine Ab gb ?_;simp only[ND,DK,Aa];rw[Au,hblt,hble];refine Ac ?_;refine Ac ?_;rw[show Ae.sub .u64 (gW d w x:Int) 1=((gW d w x-1:Nat):Int) from D4 (y:=1) hg1 (by omega),Bq (by omega),show 0+k*1=0+(0+k)*1 by omega,CY _ _ _ (by omega),Ar5,hsub];refine Ab h1 ?_;rfl
  .obtain⟨he,hlt⟩:=hnb hb
   obtain⟨q',U',h1,hr⟩:=key (gW d w x) _ hglt (by rw[η,la,Asi]) hLm he hlt;refine⟨q',U',?_,hr⟩;refine Ax K Lq (RE ..) ?_;rw[show (((k+1:Nat):Int)-1)=(k:Int) by omega];refine Cg ?_;rw[Au,hin1,h0k];refine Ac ?_;refine Ab gg ?_;simp only[PX,ND,DK,Aa];rw[hadd,Au,Au,hin2,h0k,show k+d.length+1-k=d.length+1 by omega];refine Ac ?_;refine Ab ga ?_;simp only[ND,DK,Aa];rw[decide_eq_false (show ¬ x<DN (gW d w x) 0 d+C3 (gW d w x) 0 0 w d from hb)];refine BX ?_;rw[Au,hblt,hble];refine Ac ?_;refine Ac ?_;rw[Bq (by omega),show 0+k*1=0+(0+k)*1 by omega,CY _ _ _ (by omega),Ar5,hsub];refine Ab h1 ?_;rfl
end
def Afk:ByteArray:=C7 [0,1,2,2,3,3,3,3,4,4,4,4,4,4,4,4,5,5,5,5,5,5,5,5,5,5,5,5,5,5,5,5,6,6,6,6,6,6,6,6,6,6,6,6,6,6,6,6,6,6,6,6,6,6,6,6,6,6,6,6,6,6,6,6,7,7,7,7,7,7,7,7,7,7,7,7,7,7,7,7,7,7,7,7,7,7,7,7,7,7,7,7,7,7,7,7,7,7,7,7,7,7,7,7,7,7,7,7,7,7,7,7,7,7,7,7,7,7,7,7,7,7,7,7,7,7,7,7,8,8,8,8,8,8,8,8,8,8,8,8,8,8,8,8,8,8,8,8,8,8,8,8,8,8,8,8,8,8,8,8,8,8,8,8,8,8,8,8,8,8,8,8,8,8,8,8,8,8,8,8,8,8,8,8,8,8,8,8,8,8,8,8,8,8,8,8,8,8,8,8,8,8,8,8,8,8,8,8,8,8,8,8,8,8,8,8,8,8,8,8,8,8,8,8,8,8,8,8,8,8,8,8,8,8,8,8,8,8,8,8,8,8,8,8,8,8,8,8,8,8,8,8,8,8,8,8]
def Ajt(b:Nat):Bool:=match Ae.sat Afk b with
 |.ofNat t=>b == 0||(ArY 1 t&&(ArY t 8&&(ArY (2 ^ (t-1)) b&&AsL b (2 ^ t))))
 |_=>false
theorem Afl:(List.range 256).all Ajt=Δ:=by kernel_rfl
theorem R1{b:Nat}(h:b<256)(h0:0<b):∃ t:Nat,Ae.sat Afk b=(t:Int)/\1<=t/\t<=8/\2 ^ (t-1)<=b/\b<2 ^ t:=by
 have:=List.all_eq_true.1 Afl b (List.mem_range.2 h);unfold Ajt at this;split at this
 .rename_i t ht
  rw[Bool.or_eq_true,beq_iff_eq,ArX,ArX,ArX]at this;rcases this with h1|⟨h1,h2,h3,h4⟩
  .omega
  .have h5:b+1<=2 ^ t:=by simpa[AsL]using h4
   exact⟨t,ht,by simpa using h1,by simpa using h2,by simpa using h3,h5⟩
 .exact absurd this (by decide)
theorem Ak6:Ae.slen Afk=256:=by kernel_rfl
theorem Nm{x:Nat}(h:x<256):Ae.conv .u8 (x:Int)=(x:Int):=by
 show IntKind.u8.wrap (x:Int)=_
 have e:IntKind.u8.wrap (x:Int)=(x:Int) % 256:=by simp[IntKind.wrap,IntKind.bits,IntKind.signed]
 rw[e];omega
theorem Nn{x:Nat}(h:x<256):Ae.conv .i64 (x:Int)=(x:Int):=by
 show IntKind.i64.wrap (x:Int)=_
 rw[IntKind.wrap_i64];omega
theorem Wh{x t:Nat}(k:Nat)(h1:1<=t)(h3:2 ^ (t-1)<=x / 2 ^ k)(h4:x / 2 ^ k<2 ^ t):2 ^ (k+t-1)<=x/\x<2 ^ (k+t):=by
 have hp:=AvK k;rw[show k+t-1=(t-1)+k by omega,show k+t=t+k by omega,AuI,AuI];exact⟨(Nat.le_div_iff_mul_le hp).1 h3,(Nat.div_lt_iff_lt_mul hp).1 h4⟩
section
variable {D:Orc} (K:Knows Ds I9 D)
include K
theorem AcB{x:Nat}(h:x<4294967296)(h0:0<x):∃ L:Nat,D.ask (.fn 222) [.v (.int .u32 (x:Int))] []=Θ (iv (L:Int),[])/\1<=L/\L<=32/\2 ^ (L-1)<=x/\x<2 ^ L:=by
 have e:=AmZ Ae D (x:Int);rw[show C7 [0,1,2,2,3,3,3,3,4,4,4,4,4,4,4,4,5,5,5,5,5,5,5,5,5,5,5,5,5,5,5,5,6,6,6,6,6,6,6,6,6,6,6,6,6,6,6,6,6,6,6,6,6,6,6,6,6,6,6,6,6,6,6,6,7,7,7,7,7,7,7,7,7,7,7,7,7,7,7,7,7,7,7,7,7,7,7,7,7,7,7,7,7,7,7,7,7,7,7,7,7,7,7,7,7,7,7,7,7,7,7,7,7,7,7,7,7,7,7,7,7,7,7,7,7,7,7,7,8,8,8,8,8,8,8,8,8,8,8,8,8,8,8,8,8,8,8,8,8,8,8,8,8,8,8,8,8,8,8,8,8,8,8,8,8,8,8,8,8,8,8,8,8,8,8,8,8,8,8,8,8,8,8,8,8,8,8,8,8,8,8,8,8,8,8,8,8,8,8,8,8,8,8,8,8,8,8,8,8,8,8,8,8,8,8,8,8,8,8,8,8,8,8,8,8,8,8,8,8,8,8,8,8,8,8,8,8,8,8,8,8,8,8,8,8,8,8,8,8,8,8,8,8,8,8,8]=Afk from rfl,Ak6]at e;have s16:Ae.shr .u32 (x:Int) 16=((x / 65536:Nat):Int):=Sr (k:=.u32) (r:=16) (by decide);have s8:∀ y:Nat,Ae.shr .u32 (y:Int) 8=((y / 256:Nat):Int):=λy=>Sr (k:=.u32) (r:=8) (by decide)
 rw[s16,s8,s8]at e
 by_cases h16:65536<=x
 .by_cases h8:256<=x / 65536
  .obtain⟨t,ht,h1,h2,h3,h4⟩:=R1 (b:=x / 65536 / 256) (by omega) (by omega)
   rw[show x / 65536 / 256=x / 2 ^ 24 by rw[Nat.div_div_eq_div_mul]]at h3 h4;obtain⟨h5,h6⟩:=Wh 24 h1 h3 h4;refine⟨24+t,?_,by omega,by omega,h5,h6⟩;refine K.fn' Ov _ rfl (e.trans ?_);refine Cg ?_;refine Ak ?_ (by decide);refine Cg ?_;refine Ak ?_ (by decide);rw[Nm (by omega),Au,show AsL (x / 65536 / 256) 256=Δ from BE (by omega)];refine Ac ?_;rw[ht,Nn (by omega),EM (a:=16) (b:=8) (by decide) (by decide),EM (by omega) (by omega)];rw[show (16:Int)+8+(t:Int)=((24+t:Nat):Int) by omega]
  .obtain⟨t,ht,h1,h2,h3,h4⟩:=R1 (b:=x / 65536) (by omega) (by omega)
   obtain⟨h5,h6⟩:=Wh 16 h1 h3 h4;refine⟨16+t,?_,by omega,by omega,h5,h6⟩;refine K.fn' Ov _ rfl (e.trans ?_);refine Cg ?_;refine Ak ?_ (by decide);refine CA ?_;rw[Nm (by omega),Au,show AsL (x / 65536) 256=Δ from BE (by omega)];refine Ac ?_;rw[ht,Nn (by omega),EM (by omega) (by omega)];rw[show (16:Int)+(t:Int)=((16+t:Nat):Int) by omega]
 .by_cases h8:256<=x
  .obtain⟨t,ht,h1,h2,h3,h4⟩:=R1 (b:=x / 256) (by omega) (by omega)
   obtain⟨h5,h6⟩:=Wh 8 h1 h3 h4;refine⟨8+t,?_,by omega,by omega,h5,h6⟩;refine K.fn' Ov _ rfl (e.trans ?_);refine CA ?_;refine Cg ?_;refine Ak ?_ (by decide);rw[Nm (by omega),Au,show AsL (x / 256) 256=Δ from BE (by omega)];refine Ac ?_;rw[ht,Nn (by omega),EM (a:=0) (b:=8) (by decide) (by decide),EM (by omega) (by omega)];rw[show (0:Int)+8+(t:Int)=((8+t:Nat):Int) by omega]
  .obtain⟨t,ht,h1,h2,h3,h4⟩:=R1 (b:=x) (by omega) (by omega)
   refine⟨t,?_,by omega,by omega,h3,h4⟩;refine K.fn' Ov _ rfl (e.trans ?_);refine CA ?_;refine CA ?_;rw[Nm (by omega),Au,show AsL x 256=Δ from BE (by omega)];refine Ac ?_;rw[ht,Nn (by omega),EM (by omega) (by omega),Int.zero_add]
theorem An0{x:Nat}(h:x<4294967296)(h0:0<x):∃ s:Nat,D.ask (.fn 237) [.v (.int .u32 (x:Int))] []=Θ (iv (s:Int),[])/\s<=31/\2147483648<=x*2 ^ s/\x*2 ^ s<4294967296:=by
 obtain⟨L,g,h1,h2,h3,h4⟩:=AcB K h h0;have hp:=AvK (32-L);refine⟨32-L,?_,by omega,?_,?_⟩
 .refine AC K Ab8 (Am1 ..) ?_
  refine Ab g ?_;simp only[ND,DK,Aa];rw[DB (by omega) (by omega),show (32:Int)-(L:Int)=((32-L:Nat):Int) by omega]
 .have:2 ^ (L-1)*2 ^ (32-L)<=x*2 ^ (32-L):=Asa _ h3
  rw[←AuI,show L-1+(32-L)=31 by omega]at this;exact this
 .have:x*2 ^ (32-L)<2 ^ L*2 ^ (32-L):=AtT h4 hp
  rw[←AuI,show L+(32-L)=32 by omega]at this;exact this
end
theorem WW{l:List Nat}(h:Limbs l)(h0:0<l.length):4294967296 ^ (l.length-1)*l.getD (l.length-1) 0<=Ad l/\Ad l<4294967296 ^ (l.length-1)*(l.getD (l.length-1) 0+1):=by
 have hk:l.length-1<l.length:=by omega
 have e:l=l.take (l.length-1)++[l[l.length-1]]:=by
  rw[←AsD hk,AsW (by omega)]
 have hv:=congrArg Ad e;rw[BF,Asb,AsR (by omega)]at hv;have hb:=BK (h.take (l.length-1));rw[Asb,AsR (by omega)]at hb;rw[Cz hk];simp only[Ad,Au0,AsI]at hv;rw[AsS,At0];omega
theorem DQ{b:Nat}(h:0<(Ah b).length):4294967296 ^ ((Ah b).length-1)<=b/\b<4294967296 ^ (Ah b).length:=by
 refine⟨?_,?_⟩
 .by_cases h1:4294967296 ^ ((Ah b).length-1)<=b
  .exact h1
  .have:=Bz (n:=b) (k:=(Ah b).length-1) (by omega)
   omega
 .have:=BK (Aq b)
  rwa [Az]at this
theorem Uq{n k:Nat}(h1:4294967296 ^ k<=n)(h2:n<4294967296 ^ (k+1)):(Ah n).length=k+1:=by
 have:=H7 h1;have:=Bz h2;omega
theorem Ah3{b:Nat}(h:0<(Ah b).length):0<(Ah b).getD ((Ah b).length-1) 0:=by
 have h1:=(WW (Aq b) h).2;have h2:=(DQ h).1;rw[Az]at h1;rcases As9 ((Ah b).getD ((Ah b).length-1) 0) with e|e
 .rw[e]at h1
  omega
 .exact e
theorem AlJ{b s:Nat}(hb:0<(Ah b).length)(hs:s<=31)(h1:2147483648<=(Ah b).getD ((Ah b).length-1) 0*2 ^ s)(h2:(Ah b).getD ((Ah b).length-1) 0*2 ^ s<4294967296) :
  (Ah (b*2 ^ s)).length=(Ah b).length/\2147483648<=(Ah (b*2 ^ s)).getD ((Ah b).length-1) 0/\4294967296 ^ ((Ah b).length-1)*2 ^ s<=b*2 ^ s:=by
 obtain⟨p0,p31,pq⟩:=O3 hs;obtain⟨t1,t2⟩:=WW (Aq b) hb;rw[Az]at t1 t2;have hB:=(DQ hb).1;generalize (Ah b).getD ((Ah b).length-1) 0=t at *;obtain⟨n,hn⟩:∃ n,(Ah b).length=n+1:=⟨(Ah b).length-1,by omega⟩;rw[hn,As2]at t1 t2 hB ⊢;have hP:0<4294967296 ^ n:=Nat.pow_pos (by omega);have ht:(t+1)*2 ^ s<=4294967296:=by
  have:t<2 ^ (32-s):=by
   rw[←pq,AsF]at h2;exact Auh h2
  have:=Atx (2 ^ s) this;rw[pq,AsF]at this;exact this
 have lo:4294967296 ^ n*2147483648<=b*2 ^ s:=by
  have h3:4294967296 ^ n*(t*2 ^ s)<=b*2 ^ s:=by
   rw[←Asp];exact Asa _ t1
  exact Asr (Atx _ h1) h3
 have hi:b*2 ^ s<4294967296 ^ (n+1):=by
  have h3:b*2 ^ s<4294967296 ^ n*(t+1)*2 ^ s:=AtT t2 p0;rw[Asp]at h3;rw[As7];exact AsM h3 (Atx _ ht)
 have hlen:(Ah (b*2 ^ s)).length=n+1:=Uq (by omega) hi;refine⟨hlen,?_,Asa _ hB⟩;have t3:=(WW (Aq (b*2 ^ s)) (by omega)).2;rw[Az,hlen,As2]at t3;have:=Auh (Avm lo t3);omega
theorem AlI{a s:Nat}(ha:0<(Ah a).length)(hs:s<=31):(Ah (a*2 ^ s)).length=(Ah a).length\/(Ah (a*2 ^ s)).length=(Ah a).length+1:=by
 obtain⟨p0,p31,pq⟩:=O3 hs;obtain⟨h1,h2⟩:=DQ ha;have lo:4294967296 ^ ((Ah a).length-1)<=a*2 ^ s:=Asr h1 (Nat.le_mul_of_pos_right _ p0);have hi:a*2 ^ s<4294967296 ^ ((Ah a).length+1):=by
  rw[As7];exact AsM (AtT h2 p0) (Atx _ (by omega))
 have l1:=H7 lo;have l2:=Bz hi;omega
theorem AdT{a b s:Nat}(hs:s<=31){U:List Nat}(hU:Ad U=a*2 ^ s)(hl:U.length=(Ah a).length+1)(hb:0<(Ah b).length)(hba:(Ah b).length<=(Ah a).length)(h3:4294967296 ^ ((Ah b).length-1)*2 ^ s<=b*2 ^ s) :
  Ad (U.drop (U.length-(Ah b).length))<b*2 ^ s:=by
 obtain⟨p0,p31,pq⟩:=O3 hs;have ha:=(DQ (show 0<(Ah a).length by omega)).2;have e:=congrArg Ad (AsU (U.length-(Ah b).length) U);rw[BF,Asb,AsR (by omega),hU]at e;refine AsM ?_ h3;have h4:a*2 ^ s<4294967296 ^ (U.length-(Ah b).length)*(4294967296 ^ ((Ah b).length-1)*2 ^ s):=by
  rw[←Asp,←AuI,show U.length-(Ah b).length+((Ah b).length-1)=(Ah a).length by omega];exact AtT ha p0
 exact Auh (Avm (by omega) h4)
section
variable {D:Orc} (K:Knows Ds I9 D) (C:CloneF D)
include K C
theorem Afn{a b:Nat}(ha:(Ah a).length<=999999990)(hb:2<=(Ah b).length)(hab:(Ah b).length<=(Ah a).length):D.ask (.fn 204) [eN (Ah a),eN (Ah b)] []=Θ (.tup [eN (Ah (a / b)),eN (Ah (a % b))],[]):=by
 have hb1:(Ah b).length-1<(Ah b).length:=by omega
 have htop:=(Aq b).get hb1;have hpos:=Ah3 (b:=b) (by omega);rw[Cz hb1]at hpos;obtain⟨s,gz,h31,hz1,hz2⟩:=An0 K htop hpos;obtain⟨p0,p31,pq⟩:=O3 h31;obtain⟨hdl,hdt,hdb⟩:=AlJ (b:=b) (s:=s) (by omega) h31 (by rw[Cz hb1];exact hz1) (by rw[Cz hb1];exact hz2);have hal:=AlI (a:=a) (s:=s) (by omega) h31;have gb:=XG K C (Aq b) (by omega) h31;have ga:=XG K C (Aq a) (by omega) h31;rw[Az]at gb ga;have rest:∀ U:List Nat,Limbs U->U.length=(Ah a).length+1->Ad U=a*2 ^ s->∃ q' U':List Nat,D.ask (.lp 204 0) [.sl 0 0 ((Ah a).length+1-(Ah b).length) 1,iv (s:Int),eN (Ah (b*2 ^ s)),.sl 1 0 U.length 1,iv ((Ah b).length:Int),iv ((((Ah a).length+1-(Ah b).length:Nat):Int)-1)] [δ (Ag eL (Atb ((Ah a).length+1-(Ah b).length) 0)) Δ Δ,δ (Ag eL U) Δ Δ]
   = Θ (.tup [iv 0,.sl 2 0 ((Ah a).length+1-(Ah b).length) 1,iv (s:Int),.sl 3 0 U.length 1,iv ((Ah b).length:Int)],[.del,.del,.set (δ (Ag eL q') Δ Δ),.set (δ (Ag eL U') Δ Δ)]) ∧
   q'.length=(Ah a).length+1-(Ah b).length/\U'.length=U.length ∧
   D.ask (.fn 202) [eN q'] []=Θ (.sl 0 0 (Ah (a / b)).length 1,[.set (δ (Ag eL (Ah (a / b))) Δ Δ)]) ∧
   D.ask (.fn 242) [eN (U'.take (Ah b).length),iv (s:Int)] []=Θ (eN (Ah (a % b)),[]):=λU hU hUl hUv=>by
  have hst:=AdT h31 hUv hUl (show 0<(Ah b).length by omega) hab hdb;obtain⟨q',U',g1,g2,g3,g4,g5,g6,g7,g8⟩:=Afm K (Aq (b*2 ^ s)) (by omega) (by rw[hdl];exact hdt) (s:Int) ((Ah a).length+1-(Ah b).length) (Atb ((Ah a).length+1-(Ah b).length) 0) U (by simp) (by rw[Auc,hUl,hdl];omega) (by omega) (λx hx=>by rw[List.eq_of_mem_replicate hx];omega) hU (by rw[Az,←hUl];exact hst);rw[Auc]at g1 g2;rw[hdl]at g1;rw[Az]at g7 g8;rw[AsW (by omega),hUv]at g8;have hq:Ad q'=a / b/\Ad U'=(a % b)*2 ^ s:=by
   have hbp:0<b*2 ^ s:=by omega
   have e1:a*2 ^ s / (b*2 ^ s)=Ad q':=by
    rw[g8,AsF,Nat.mul_add_div hbp,AuW g7,AsI]
   have e2:a*2 ^ s % (b*2 ^ s)=Ad U':=by
    rw[g8,AsF,Nat.mul_add_mod,As5 g7]
   rw[Nat.mul_div_mul_right _ _ p0]at e1;rw[Nat.mul_mod_mul_right]at e2;exact⟨e1.symm,e2.symm⟩
  refine⟨q',U',g1,g2,g3,?_,?_⟩
  .have:=F9 K C (l:=q') (by unfold BU;omega) g4
   rwa [hq.1]at this
  .have ht:Ad (U'.take (Ah b).length)=Ad U':=by
    have e:=congrArg Ad (AsU (Ah b).length U');rw[BF,Asb,AsR (by omega)]at e;have hbd:=(DQ (b:=b*2 ^ s) (by omega)).2;rw[hdl]at hbd;rcases As9 (Ad (U'.drop (Ah b).length)) with h0|h0
    .rw[h0]at e;omega
    .exfalso
     have:4294967296 ^ (Ah b).length*1<=4294967296 ^ (Ah b).length*Ad (U'.drop (Ah b).length):=Atx _ h0;omega
   have:=ZA K C (a:=U'.take (Ah b).length) (g5.take _) (by unfold BU;rw[Asb];omega) h31
   rwa [ht,hq.2,Nat.mul_div_cancel _ p0]at this
 refine AC K Lq (AmY ..) ?_;rw[Ao,show Ae.sub .i64 ((Ah b).length:Int) 1=(((Ah b).length-1:Nat):Int) from Ps (j:=1) (by omega) (by omega),Au,AB (φ hb1)];simp only[eL,FX,ND,DK,Aa];refine Ab gz ?_;simp only[ND,DK,Aa];refine Ab gb ?_;simp only[ND,DK,Aa];refine Ab ga ?_;simp only[ND,DK,Aa];rcases hal with h|h
 .have hi:Ae.sub .i64 (Ae.add .i64 ((Al ((Ah a).map eL):Nat):Int) 1) ((Ah (a*2 ^ s)).length:Int)=((1:Nat):Int):=by
   rw[Ao,BV (by omega),h,Ps (by omega) (by omega)];simp
  have hU0:Ad (Ah (a*2 ^ s)++[0])=a*2 ^ s:=by
   rw[BF,Az];simp[Ad]
  obtain⟨q',U',gl,hql,hUl,gT,gR⟩:=rest (Ah (a*2 ^ s)++[0]) (CG (Aq _) (Bc (by omega) BG)) (by simp[h]) hU0;rw[η,Asi]at gl hUl;rw[hi,Au];refine Ac ?_;refine BX ?_;refine Ac ?_;rw[AY (by omega) (by omega),A1 AA (Ah (a*2 ^ s)) (by omega)];refine Ac ?_;refine Ac ?_;have hi2:Ae.sub .i64 (((Ah (a*2 ^ s)).length+1:Nat):Int) ((Ah (b*2 ^ s)).length:Int)=(((Ah a).length+1-(Ah b).length:Nat):Int):=by
   rw[h,hdl,Ps (by omega) (by omega)]
  have hi3:Ae.sub .i64 (((Ah a).length+1-(Ah b).length:Nat):Int) 1=(((Ah a).length+1-(Ah b).length:Nat):Int)-1:=DB (by omega) (by omega);have hchk:Be (Ah (b*2 ^ s)).length 1 (ArQ ((Ah (b*2 ^ s)).length*1) (Ag eL (Ah (b*2 ^ s))))=(Ah (b*2 ^ s)).map eL:=Bw AA _ rfl;have hcat:ArV 0 (ArQ (0+(Ah (a*2 ^ s)).length*1) (Ag eL (Ah (a*2 ^ s))))++BQ [.v (.int .u32 0)] (1*1)=Ag eL (Ah (a*2 ^ s)++[0]):=by
   rw[List.drop_zero,Bk AA _ (by omega),Iw];exact Bn eL _ 0
  rw[hi2,Au,Au,show ArY ((Ah a).length+1-(Ah b).length) ((Ah a).length+1-(Ah b).length)=Δ by simp];refine Ac ?_;rw[AY (by omega) (by omega)];refine Ac ?_;rw[A1 AA _ (by omega)];refine Ac ?_;rw[hchk,hi3,hcat,Iw,hdl];refine Ab gl ?_;simp only[ND,DK,Aa];rw[A1 AA q' (by omega)];refine Ac ?_;rw[Bw AA q' hql.symm];refine Ab gT ?_;simp only[ND,DK,Aa];rw[Au,Lv (AsB _) (by omega)];refine Ac ?_;have hU1:ArQ ((Ah b).length*1) (Ag eL U')=Ag eL (U'.take (Ah b).length):=by
   rw[At0,D6,D6,AuM]
  rw[show ArY (0+(Ah b).length*1) (Ag eL U').length=Δ by rw[AR AA];simp;omega];refine Ac ?_;rw[hU1,←Bk AA (U'.take (Ah b).length) (n:=(Ah b).length*1) (by simp;omega),Bw AA (U'.take (Ah b).length) (by rw[Asb];omega)];refine Ab gR ?_;simp only[eN,ND,DK,Aa];rw[A1 AA _ (by omega)];refine Ac ?_;rw[Bw AA _ rfl]
 .have hi:Ae.sub .i64 (Ae.add .i64 ((Al ((Ah a).map eL):Nat):Int) 1) ((Ah (a*2 ^ s)).length:Int)=((0:Nat):Int):=by
   rw[Ao,BV (by omega),h,Ps (by omega) (by omega)];simp
  obtain⟨q',U',gl,hql,hUl,gT,gR⟩:=rest (Ah (a*2 ^ s)) (Aq _) h (Az _);rw[hi,Au];refine Ac ?_;refine Ac ?_;have hi2:Ae.sub .i64 ((Ah (a*2 ^ s)).length:Int) ((Ah (b*2 ^ s)).length:Int)=(((Ah a).length+1-(Ah b).length:Nat):Int):=by
   rw[h,hdl,Ps (by omega) (by omega)]
  have hi3:Ae.sub .i64 (((Ah a).length+1-(Ah b).length:Nat):Int) 1=(((Ah a).length+1-(Ah b).length:Nat):Int)-1:=DB (by omega) (by omega);have hchk:Be (Ah (b*2 ^ s)).length 1 (ArQ ((Ah (b*2 ^ s)).length*1) (Ag eL (Ah (b*2 ^ s))))=(Ah (b*2 ^ s)).map eL:=Bw AA _ rfl;rw[hi2,Au,Au,show ArY ((Ah a).length+1-(Ah b).length) ((Ah a).length+1-(Ah b).length)=Δ by simp];refine Ac ?_;rw[AY (by omega) (by omega)];refine Ac ?_;rw[A1 AA _ (by omega)];refine Ac ?_;rw[hchk,hi3,Iw,hdl];refine Ab gl ?_;simp only[ND,DK,Aa];rw[A1 AA q' (by omega)];refine Ac ?_;rw[Bw AA q' hql.symm];refine Ab gT ?_;simp only[ND,DK,Aa];rw[Au,Lv (AsB _) (by omega)];refine Ac ?_;have hU1:ArQ ((Ah b).length*1) (Ag eL U')=Ag eL (U'.take (Ah b).length):=by
   rw[At0,D6,D6,AuM]
  rw[show ArY (0+(Ah b).length*1) (Ag eL U').length=Δ by rw[AR AA];simp;omega];refine Ac ?_;rw[hU1,←Bk AA (U'.take (Ah b).length) (n:=(Ah b).length*1) (by simp;omega),Bw AA (U'.take (Ah b).length) (by rw[Asb];omega)];refine Ab gR ?_;simp only[eN,ND,DK,Aa];rw[A1 AA _ (by omega)];refine Ac ?_;rw[Bw AA _ rfl]
theorem Akk{a b:List Nat}(ha:Limbs a)(hal:a.length<=999999990)(hb:Limbs b)(hbl:b.length<=999999990):D.ask (.fn 144) [eN a,eN b] []
  = Θ (if Ad b=0 then .tup [.ls [],.ls [],iv 10] else .tup [eN (Ah (Ad a / Ad b)),eN (Ah (Ad a % Ad b)),iv 0],[]):=by
 have la:(Ah (Ad a)).length<=999999990:=by rw[Dz a ha];have:=Cs a;omega
 have lb:(Ah (Ad b)).length<=999999990:=by rw[Dz b hb];have:=Cs b;omega
 refine AC K Ab3 (AmQ ..) ?_;refine Ab (Fq K (by unfold BU;omega) ha) ?_;simp only[eN,ND,DK,Aa];refine Ab (Fq K (by unfold BU;omega) hb) ?_;simp only[eN,Ao,ND,DK,Aa];generalize Ad a=x at *;generalize Ad b=y at *
 by_cases hy:y=0
 .rw[if_pos hy,hy,CB]
  exact GL (by decide)
 .have hyl:0<(Ah y).length:=by
   rw[EG hy];exact Nat.succ_pos _
  rw[if_neg hy];refine Ba ?_;refine Ab (AeD K (a:=Ah x) (b:=Ah y) (by unfold BU;omega) (Aq x) (by unfold BU;omega) (Aq y)) ?_;rw[Az,Az];simp only[ND,DK,Aa]
  by_cases hxy:x<y
  .refine Ap ?_ (by unfold CJ;rw[if_pos hxy];decide)
   have gt:=F9 K C (l:=Ah x) (by unfold BU;omega) (Aq x);rw[Az]at gt;refine Ab gt ?_;simp only[ND,DK,Aa];rw[A1 AA _ (by omega)];refine Ac ?_;rw[Bw AA _ rfl,AuW hxy,As5 hxy,CB];rfl
  .refine Ak ?_ (by unfold CJ;rw[if_neg hxy];split<;>decide)
   by_cases h1:(Ah y).length=1
   .have hlt:y<4294967296:=by
     have:=(DQ hyl).2
     rwa [h1]at this
    have hny:Ah y=[y]:=by
     rw[EG hy,As5 hlt,AuW hlt,CB]
    refine Bt ?_;rw[hny,AB (show [y][0]? = Θ y from rfl)];simp only[eL,FX,ND,DK,Aa];refine Ab (YU K C (a:=Ah x) (Aq x) (by unfold BU;omega) (by omega) hlt) ?_;rw[Az];simp only[eN,FX,ND,DK,Aa];have hm:=AsJ x (show 0<y by omega);rw[Bg (x:=x % y) (by omega)];refine Ab (Ako K C (x % y) (by omega)) ?_;simp only[eN,ND,DK,Aa]
   .refine Ba ?_
    have hll:(Ah y).length<=(Ah x).length:=by
     rcases Nat.lt_or_ge (Ah x).length (Ah y).length with h|h
     .exact absurd (Gb h) hxy
     .exact h
    refine Ab (Afn K C la (by omega) hll) ?_;simp only[eN,ND,DK,Aa]
