/- What long division comes -/
import Derived.Test.YtpncilciembjdaaGreatDoorHAQ
set_option linter.all false
open Bool renaming true->Δ,and_eq_true->Awh
open List renaming append_assoc->Awd,drop->Av8,drop_drop->Ayd,drop_eq_getElem_cons->η,drop_left'->Ayi,drop_one->AzN,getElem?_append_right->AwR,getElem?_eq_getElem->ξ,headD_cons->Axs,length_append->ε,length_drop->AxD,length_replicate->Ayl,length_set->AwJ,length_singleton->Awp,length_take->Awo,map_take->AyR,replicate->Axl,take->κ,take_append_drop->Axf,take_left'->Ax0,take_of_length_le->Aw5,take_succ_eq_append_getElem->AwK
open Nat renaming add_mul->AwW,add_sub_cancel->AxA,add_sub_cancel_left->AxP,add_zero->Aw1,ble->Awf,blt->Aw0,div_eq_of_lt->AxU,eq_zero_or_pos->Axk,le_trans->Awy,lt_of_le_of_lt->Azl,lt_of_lt_of_le->AwZ,lt_of_mul_lt_mul_left->Ayq,min_eq_left->Aw4,mod_eq_of_lt->Aw8,mod_lt->AwU,mul_add->Axu,mul_assoc->Aw3,mul_comm->Aw2,mul_le_mul_left->AxI,mul_le_mul_right->Aww,mul_lt_mul_of_pos_right->Ax5,mul_one->Aya,mul_zero->Ayt,one_mul->AxR,pow_add->Ayb,pow_succ->Aw6,sub_self->Ayn,two_pow_pos->AzK,zero_add->Awt,zero_le->Awz
open Option renaming some->Θ
namespace Go.Proofs.YtpncilciembjdaaGreatDoor
open ABlk renaming mk->θ
open IntKind renaming u64->Ω
open Go.RowKit
theorem AdW{l:Af}(j i:Nat)(h:j+i<l.length)(k:Ab->KR):Ia (Ao eL l) (j+i*1) 1 k=k [.v (.int .u32 (l[j+i]:Int))]:=by
 rw[show j+i*1=0+(j+i)*1 by omega];exact IJ l _ h k
section
variable {D:Orc} (K:Knows DQ Jz D)
include K
theorem AcB(d:Af)(hd:Limbs d)(U:Af)(hU:Limbs U)(o n f:Nat)(h2:2<=d.length)(hdl:d.length<=1000000000)(hn:d.length-2<n)(hou:o+(d.length-2)<U.length)(hdi:d.length-2<d.length)(hf:f<4294967296):∀(k g r:Nat),g<=4294967297->r<4294967296->4294967296<=r+k*f->
  D.ask (.lp 239 0) [.sl 0 o n 1,eN d,iv (d.length:Int),.v (.int .u64 (f:Int)),.v (.int .u64 (g:Int)),.v (.int .u64 (r:Int))] [θ (Ao eL U) Δ Δ]
   = Θ (.tup [iv 0,.v (.int .u64 (Iq f d[d.length-2] U[o+(d.length-2)] k g r:Int))],[.keep]):=by
 have hv:=hd.get hdi;have hu:=hU.get hou;intro k
 induction k with
 |zero=>intro g r _ h1 h3;omega
 |succ k ih=>
  intro g r hg hr hk;have hk2:4294967296<=r+f+k*f:=by rw[AwW,AxR]at hk;omega
  rw[Iq];have hsub:Ap.sub .i64 (d.length:Int) 2=((d.length-2:Nat):Int):=Np (j:=2) h2 (by omega);have hadd:Ap.add .u64 (r:Int) (f:Int)=((r+f:Nat):Int):=Cp (by omega);have tail:1<=g->(br (Ap.le 4294967296 (Ap.add .u64 (r:Int) (f:Int)))
     (Θ ((AV.tup [iv 0,AV.v (Value.int Ω (Ap.sub Ω (g:Int) 1))],[BO.keep])))
     (AW D (Key.lp 239 0) [AV.sl 0 o n 1,AV.ls (d.map eL),iv (d.length:Int),AV.v (Value.int Ω (f:Int)),AV.v (Value.int Ω (Ap.sub Ω (g:Int) 1)),AV.v (Value.int Ω (Ap.add Ω (r:Int) (f:Int)))] [θ (Ao eL U) Δ Δ] λr o=>
     AS 1 [0] (AH.mk [(0,θ (Ao eL U) Δ Δ)] 1 none) [] r o))
    = Θ (.tup [iv 0,.v (.int .u64 ((if 4294967296<=r+f then g-1 else Iq f d[d.length-2] U[o+(d.length-2)] k (g-1) (r+f):Nat):Int))],[.keep]):=λh1=>by
   rw[hadd,show Ap.sub .u64 (g:Int) 1=((g-1:Nat):Int) from Ey (y:=1) h1 (by omega)]
   by_cases hb:4294967296<=r+f
   .rw[Ac hb]
    exact RR (by omega)
   .rw[Ad hb]
    refine CN ?_;refine Aa (ih (g-1) (r+f) (by omega) (by omega) hk2) ?_;rfl
  refine AE K Sg (AfI ..) ?_
  by_cases hB:4294967296<=g
  .rw[Ac (.inl hB)]
   refine Cs ?_;exact tail (by omega)
  .refine CN ?_
   rw[hsub,AI,Az (ξ hdi)];simp only[eL,FR,Aj];refine AA ?_ (by decide);rw[AI,show Aw0 (d.length-2) n=Δ from B1 hn];refine Ah ?_;refine(AdW o _ hou _).trans ?_;refine(cuN _ _).trans ?_;have hgv:=J0 (show g<4294967296 by omega) hv;rw[BK (show U[o+(d.length-2)]<_ by omega),BK (show d[d.length-2]<_ by omega),Lb hr,Ph hu hr,La (by omega)]
   by_cases hc:r*4294967296+U[o+(d.length-2)]<g*d[d.length-2]
   .rw[Ac (.inr hc)]
    refine AB ?_;exact tail (by
     rcases Axk g with e|e
     .rw[e]at hc;omega
     .exact e)
   .rw[Ad (λh=>h.elim hB hc)]
    exact Da (by omega)
theorem Wk{d:Af}(hd:Limbs d){U:Af}(hU:Limbs U){o n:Nat}(h2:2<=d.length)(hdl:d.length<=1000000000)(hn:d.length<n)(hou:o+n<=U.length)(h1:d.length-1<d.length)(h1':d.length-2<d.length)(hu0:o+d.length<U.length)(hu1:o+(d.length-1)<U.length)(hu2:o+(d.length-2)<U.length)(hf:2147483648<=d[d.length-1])
  (hT:U[o+d.length]*4294967296+U[o+(d.length-1)]<=d[d.length-1]*4294967296+d[d.length-2]) :
  D.ask (.fn 239) [.sl 0 o n 1,eN d] [θ (Ao eL U) Δ Δ]=Θ (.v (.int .u64 (Iq d[d.length-1] d[d.length-2] U[o+(d.length-2)] 2 ((U[o+d.length]*4294967296+U[o+(d.length-1)]) / d[d.length-1]) ((U[o+d.length]*4294967296+U[o+(d.length-1)]) % d[d.length-1]):Int)),[.keep]):=by
 have hx0:=hU.get hu0;have hx1:=hU.get hu1;have hfl:=hd.get h1;have hg:=Acy (hd.get h1') hf hT;have hm:=AwU (U[o+d.length]*4294967296+U[o+(d.length-1)]) (show 0<d[d.length-1] by omega);have g:=AcB K d hd U hU o n d[d.length-1] h2 hdl (by omega) hu2 h1' hfl 2 ((U[o+d.length]*4294967296+U[o+(d.length-1)]) / d[d.length-1]) ((U[o+d.length]*4294967296+U[o+(d.length-1)]) % d[d.length-1]) hg (by omega) (by omega);have hsub:Ap.sub .i64 (d.length:Int) 1=((d.length-1:Nat):Int):=Np (j:=1) (by omega) (by omega);refine AC K Sg (Aqd ..) ?_;rw[Al,show Aw0 d.length n=Δ from B1 hn];refine Ah ?_;refine(AdW o _ hu0 _).trans ?_;simp only[FR,Aj];refine AA ?_ (by decide);rw[hsub];simp only[AI];rw[show Aw0 (d.length-1) n=Δ from B1 (by omega)];refine Ah ?_;refine(AdW o _ hu1 _).trans ?_;refine(cuN _ _).trans ?_;rw[Az (ξ h1)];simp only[eL,FR,Aj];rw[BK (show d[d.length-1]<_ by omega),BK (show U[o+d.length]<_ by omega),BK (show U[o+(d.length-1)]<_ by omega),Lb hx0,Ph hx1 hx0,AdR (by omega),AdU];refine Ay ?_;refine Ay ?_;refine Aa g ?_;rfl
end
theorem Al5{w:Af}(h:2<=w.length)(h1:w.length-1<w.length)(h2:w.length-2<w.length):w=w.take (w.length-2)++[w[w.length-2],w[w.length-1]]:=by
 grind [η,List.drop_eq_nil_of_le,Axf]
theorem AkL{w:Af}{x:Nat}(h:2<=w.length)(h1:w.length-1<w.length)(h2:w.length-2<w.length):Ag (w++[x])=((x*4294967296+w[w.length-1])*4294967296+w[w.length-2])*4294967296 ^ (w.length-2)+Ag (w.take (w.length-2)):=by
 grind [Ag,Awo,Aw4,Aw2,Al5,BV]
theorem AkC{w:Af}(h:2<=w.length)(h1:w.length-1<w.length)(h2:w.length-2<w.length):Ag w=(w[w.length-1]*4294967296+w[w.length-2])*4294967296 ^ (w.length-2)+Ag (w.take (w.length-2)):=by
 have e:=congrArg Ag (Al5 h h1 h2);rw[BV,Awo,Aw4 (by omega)]at e;refine e.trans ?_;simp only[Ag];rw[Aw2 (4294967296 ^ (w.length-2))];rw[show w[w.length-2]+4294967296*(w[w.length-1]+4294967296*0)=w[w.length-1]*4294967296+w[w.length-2] by omega];omega
theorem Af1{P f v vl ul wl T W Dv:Nat}(hvl:vl<P)(hDv:Dv=(f*4294967296+v)*P+vl)(hW:W=(T*4294967296+ul)*P+wl)(hWD:W<Dv*4294967296):T<=f*4294967296+v:=by
 by_cases h:T<=f*4294967296+v
 .exact h
 .exfalso
  have h1:(f*4294967296+v+1)*4294967296*P<=(T*4294967296+ul)*P:=Aww _ (by omega);have h2:Dv*4294967296<=(f*4294967296+v+1)*4294967296*P:=by
   grind
  omega
def gW(d w:Af)(x:Nat):Nat:=Iq (d.getD (d.length-1) 0) (d.getD (d.length-2) 0) (w.getD (d.length-2) 0) 2 ((x*4294967296+w.getD (d.length-1) 0) / d.getD (d.length-1) 0) ((x*4294967296+w.getD (d.length-1) 0) % d.getD (d.length-1) 0)
theorem CV{l:Af}{i:Nat}(h:i<l.length):l.getD i 0=l[i]:=by
 grind
theorem XW{d w:Af}{x:Nat}(hd:Limbs d)(hw:Limbs (w++[x]))(hl:w.length=d.length)(h2:2<=d.length)(hf:2147483648<=d.getD (d.length-1) 0)(hW:Ag (w++[x])<Ag d*4294967296) :
  Gs (Ag (w++[x])) (Ag d) (gW d w x)/\x*4294967296+w.getD (d.length-1) 0<=d.getD (d.length-1) 0*4294967296+d.getD (d.length-2) 0:=by
 have d1:d.length-1<d.length:=by omega
 have d2:d.length-2<d.length:=by omega
 have w1:w.length-1<w.length:=by omega
 have w2:w.length-2<w.length:=by omega
 have ed:=AkC h2 d1 d2;have ew:=AkL (x:=x) (by omega) w1 w2;unfold gW;rw[←CV d1,←CV d2]at ed;rw[←CV w1,←CV w2,hl]at ew;have hww:Limbs w:=λy hy=>hw y (by simp[hy])
 have b1:=BM (hd.take (d.length-2));have b2:=BM (hww.take (d.length-2));rw[Awo,Aw4 (by omega)]at b1 b2;have c1:=hd.get d1;have c2:=hd.get d2;have c3:=hww.get w2;rw[←CV d1]at c1;rw[←CV d2]at c2;rw[←CV w2,hl]at c3;generalize d.getD (d.length-1) 0=f at *;generalize d.getD (d.length-2) 0=v at *;generalize w.getD (d.length-2) 0=ul at *;generalize w.getD (d.length-1) 0=y at *;obtain⟨T,hT⟩:∃ T,T=x*4294967296+y:=⟨_,rfl⟩;rw[←hT]at ew ⊢;generalize Ag (w++[x])=W at *;generalize Ag d=Dv at *;generalize Ag (d.take (d.length-2))=vl at *;generalize Ag (w.take (d.length-2))=wl at *;generalize 4294967296 ^ (d.length-2)=P at *;have hm:=AwU T (show 0<f by omega);refine⟨Wj c2 b1 b2 hf ed ew hW 2 _ _ (by rw[Aw2];exact Nat.div_add_mod T f) ?_ (by omega) (by omega),Af1 b1 ed ew hW⟩;have g:=Af0 (Q:=4294967296*P) (f:=f) (dl:=v*P+vl) (T:=T) (ul:=ul*P+wl) ?_ (by omega)
 .grind
 .have:(ul+1)*P<=4294967296*P:=Aww _ c3
  rw[AwW,AxR]at this;omega
def tW(d w:Af)(x:Nat):Nat:=Eb (gW d w x) 0 d+Dq (gW d w x) 0 0 w d
def aW(d w:Af)(x:Nat):Af:=DT (gW d w x) 0 0 w d
def aX(d w:Af)(x:Nat):Nat:=(x+4294967296-tW d w x) % 4294967296
theorem AeR{d w:Af}{x:Nat}(hd:Limbs d)(hw:Limbs (w++[x]))(hl:w.length=d.length)(h2:2<=d.length)(hf:2147483648<=d.getD (d.length-1) 0)(hW:Ag (w++[x])<Ag d*4294967296) :
  Limbs (aW d w x++[aX d w x])/\(aW d w x).length=d.length ∧
  (¬ x<tW d w x->Ag (aW d w x++[aX d w x])+gW d w x*Ag d=Ag (w++[x])/\Ag (aW d w x++[aX d w x])<Ag d) ∧
  (x<tW d w x->1<=gW d w x/\Limbs (Dr 0 (aW d w x) d++[(aX d w x+Dw 0 (aW d w x) d) % 4294967296]) ∧
   Ag (Dr 0 (aW d w x) d++[(aX d w x+Dw 0 (aW d w x) d) % 4294967296])+(gW d w x-1)*Ag d=Ag (w++[x]) ∧
   Ag (Dr 0 (aW d w x) d++[(aX d w x+Dw 0 (aW d w x) d) % 4294967296])<Ag d):=by
 obtain⟨hG,_⟩:=XW hd hw hl h2 hf hW;have hww:Limbs w:=λy hy=>hw y (by simp[hy])
 have hx:x<4294967296:=hw x (by simp);have la:(aW d w x).length=d.length:=GC ..;have hA:=Abd (m:=gW d w x) hww hd hl hG.lt hx;have hmod:=AwU (x+4294967296-tW d w x) (show 0<4294967296 by omega);have hLm:Limbs (aW d w x++[aX d w x]):=C1 (Ii _ 0 0 w d hww (Awz _)) (Bv hmod BY);have hS:=Aes hl la hd rfl rfl hG hLm hA;have haw:Limbs (aW d w x):=Ii _ 0 0 w d hww (Awz _);have hB:=Abi (ul:=aX d w x) haw hd la hmod;refine⟨hLm,la,hS.1,λh=>?_⟩;obtain⟨h3,h4,h5⟩:=hS.2 h;refine⟨h3,C1 (Ij 0 _ _) (Bv (AwU _ (by omega)) BY),?_⟩;rw[hB];exact⟨h4,h5⟩
section
variable {D:Orc} (K:Knows DQ Jz D)
include K
theorem Ani{d:Af}(hd:Limbs d){m:Nat}(hm:m<4294967296){A w Z:Af}{x:Nat}(hU:Limbs (A++(w++[x])++Z))(hl:w.length=d.length)(hUl:(A++(w++[x])++Z).length<=1000000000) :
  D.ask (.fn 240) [.sl 0 A.length (d.length+1) 1,eN d,.v (.int .u64 (m:Int))] [θ (Ao eL (A++(w++[x])++Z)) Δ Δ]
   = Θ (bv (decide (x<Eb m 0 d+Dq m 0 0 w d)),[.set (θ (Ao eL (A++(DT m 0 0 w d++[(x+4294967296-(Eb m 0 d+Dq m 0 0 w d)) % 4294967296])++Z)) Δ Δ)]):=by
 have hlen:A.length+d.length<(A++(w++[x])++Z).length:=by simp;omega
 have g:=Vn K hd hm hU hlen hUl;have e1:(A++(w++[x])++Z).take A.length=A:=by rw[Awd,Ax0];rfl
 have e2:((A++(w++[x])++Z).drop A.length).take d.length=w:=by
  rw[Awd,Ayi rfl,Awd,Ax0 hl]
 have e3:(A++(w++[x])++Z)[A.length+d.length]=x:=by
  have:(A++(w++[x])++Z)[A.length+d.length]? = Θ x:=by
   rw[Awd,AwR (by omega),AxP,Awd,AwR (by omega),hl,Ayn];rfl
  rw[ξ hlen]at this;injection this
 have e4:(A++(w++[x])++Z).drop (A.length+(d.length+1))=Z:=by
  rw[Ayi (by simp;omega)]
 rw[NZ,N1,e1,e2,e3,e4]at g;exact g
theorem Anj{d:Af}(hd:Limbs d){A w Z:Af}{x:Nat}(hU:Limbs (A++(w++[x])++Z))(hl:w.length=d.length)(hUl:(A++(w++[x])++Z).length<=1000000000) :
  D.ask (.fn 241) [.sl 0 A.length (d.length+1) 1,eN d] [θ (Ao eL (A++(w++[x])++Z)) Δ Δ]
   = Θ (.tup [],[.set (θ (Ao eL (A++(Dr 0 w d++[(x+Dw 0 w d) % 4294967296])++Z)) Δ Δ)]):=by
 have hlen:A.length+d.length<(A++(w++[x])++Z).length:=by simp;omega
 have g:=WN K hd hU hlen hUl;have e1:(A++(w++[x])++Z).take A.length=A:=by rw[Awd,Ax0];rfl
 have e2:((A++(w++[x])++Z).drop A.length).take d.length=w:=by
  rw[Awd,Ayi rfl,Awd,Ax0 hl]
 have e3:(A++(w++[x])++Z)[A.length+d.length]=x:=by
  have:(A++(w++[x])++Z)[A.length+d.length]? = Θ x:=by
   rw[Awd,AwR (by omega),AxP,Awd,AwR (by omega),hl,Ayn];rfl
  rw[ξ hlen]at this;injection this
 have e4:(A++(w++[x])++Z).drop (A.length+(d.length+1))=Z:=by
  rw[Ayi (by simp;omega)]
 rw[N4,N3,e1,e2,e3,e4]at g;exact g
theorem Af2{d:Af}(hd:Limbs d){A w Z:Af}{x:Nat}(hU:Limbs (A++(w++[x])++Z))(hl:w.length=d.length)(hdl:d.length<=1000000000)(h2:2<=d.length)(hf:2147483648<=d.getD (d.length-1) 0){n:Nat}(hn:d.length<n)(hou:A.length+n<=(A++(w++[x])++Z).length)
  (hT:x*4294967296+w.getD (d.length-1) 0<=d.getD (d.length-1) 0*4294967296+d.getD (d.length-2) 0) :
  D.ask (.fn 239) [.sl 0 A.length n 1,eN d] [θ (Ao eL (A++(w++[x])++Z)) Δ Δ]=Θ (.v (.int .u64 (gW d w x:Int)),[.keep]):=by
 have d1:d.length-1<d.length:=by omega
 have d2:d.length-2<d.length:=by omega
 have w1:d.length-1<w.length:=by omega
 have w2:d.length-2<w.length:=by omega
 have u0:A.length+d.length<(A++(w++[x])++Z).length:=by simp;omega
 have u1:A.length+(d.length-1)<(A++(w++[x])++Z).length:=by simp;omega
 have u2:A.length+(d.length-2)<(A++(w++[x])++Z).length:=by simp;omega
 have at0:(A++(w++[x])++Z)[A.length+d.length]=x:=by
  have:(A++(w++[x])++Z)[A.length+d.length]? = Θ x:=by
   rw[Awd,AwR (by omega),AxP,Awd,AwR (by omega),hl,Ayn];rfl
  rw[ξ u0]at this;injection this
 have atw:∀ i (h:A.length+i<(A++(w++[x])++Z).length) (hi:i<w.length),(A++(w++[x])++Z)[A.length+i]=w.getD i 0:=λi h hi=>by
  have:(A++(w++[x])++Z)[A.length+i]? = Θ w[i]:=by
   rw[Awd,AwR (by omega),AxP,Awd,List.getElem?_append_left hi,ξ hi]
  rw[ξ h]at this;injection this with this
  rw[this,CV hi]
 have g:=Wk K hd hU h2 hdl hn hou d1 d2 u0 u1 u2 (by rw[←CV d1];exact hf) (by rw[at0,atw _ u1 w1,←CV d1,←CV d2];exact hT);rw[at0,atw _ u1 w1,atw _ u2 w2,←CV d1,←CV d2]at g;exact g
end
theorem Sj{l h n:Nat}(h1:l<=h)(h2:h<=n):HY l h n=Δ:=by
 unfold HY;rw[show Awf l h=Δ by simpa using h1];simpa using h2
theorem VB(A v Z:Af):Ag (A++v++Z)=Ag A+4294967296 ^ A.length*(Ag v+4294967296 ^ v.length*Ag Z):=by
 rw[Awd,BV,BV]
theorem AkK{U:Af}{i n:Nat}(h:i+n<U.length):U=U.take i++((U.drop i).take n++[U[i+n]])++U.drop (i+n+1):=by
 have e:(U.drop i).take n++[U[i+n]]=(U.drop i).take (n+1):=by
  rw[AwK (by rw[AxD];omega),List.getElem_drop]
 rw[e,Awd];have:U.drop (i+n+1)=(U.drop i).drop (n+1):=by rw[Ayd,Nat.add_assoc]
 rw[this,Axf,Axf]
theorem Aks{q:Af}{k v:Nat}(h:k<q.length){q2:Af}(hl:q2.length=q.length)(h2:q2.drop k=(q.set k v).drop k):Ag (q2.take (k+1))=Ag (q2.take k)+4294967296 ^ k*v:=by
 have hk:k<q2.length:=by omega
 have e:q2[k]=v:=by
  have h3:(q2.drop k).headD 0=((q.set k v).drop k).headD 0:=by rw[h2]
  rw[η hk,η (l:=q.set k v) (by rw[AwJ];exact h),Axs,Axs,List.getElem_set_self]at h3;exact h3
 rw[AwK hk,BV,Awo,Aw4 (by omega),e];simp[Ag]
section
variable {D:Orc} (K:Knows DQ Jz D)
include K
theorem Agi{d:Af}(hd:Limbs d)(h2:2<=d.length)(hf:2147483648<=d.getD (d.length-1) 0)(s:Int):∀(k:Nat) (q U:Af),k<=q.length->U.length=q.length+d.length->U.length<=1000000000->Limbs q->Limbs U->Ag (U.drop k)<Ag d->
  ∃ q' U':Af,D.ask (.lp 204 0) [.sl 0 0 q.length 1,iv s,eN d,.sl 1 0 U.length 1,iv (d.length:Int),iv ((k:Int)-1)] [θ (Ao eL q) Δ Δ,θ (Ao eL U) Δ Δ]
   = Θ (.tup [iv 0,.sl 2 0 q.length 1,iv s,.sl 3 0 U.length 1,iv (d.length:Int)],[.del,.del,.set (θ (Ao eL q') Δ Δ),.set (θ (Ao eL U') Δ Δ)]) ∧
   q'.length=q.length/\U'.length=U.length/\Limbs q'/\Limbs U'/\q'.drop k=q.drop k/\Ag U'<Ag d/\Ag U=Ag (q'.take k)*Ag d+Ag U':=by
 intro k
 induction k with
 |zero=>
  intro q U hk hl hm hq hU hv;refine⟨q,U,?_,rfl,rfl,hq,hU,rfl,by simpa using hv,by simp[Ag]⟩;refine AE K LS (R4 ..) ?_;exact N7 (by omega)
 |succ k ih=>
  intro q U hk hl hm hq hU hv;have hin:k+d.length<U.length:=by omega
  have hcut:=AkK hin;obtain⟨A,hA⟩:∃ A,A=U.take k:=⟨_,rfl⟩;obtain⟨w,hw⟩:∃ w,w=(U.drop k).take d.length:=⟨_,rfl⟩;obtain⟨x,hx⟩:∃ x,x=U[k+d.length]:=⟨_,rfl⟩;obtain⟨Z,hZ⟩:∃ Z,Z=U.drop (k+d.length+1):=⟨_,rfl⟩;rw[←hA,←hw,←hx,←hZ]at hcut;have hAl:A.length=k:=by rw[hA,Awo];omega
  have hwl:w.length=d.length:=by rw[hw,Awo,AxD];omega
  have hAL:Limbs A:=by rw[hA];exact hU.take _
  have hZL:Limbs Z:=by rw[hZ];exact hU.drop _
  have hwL:Limbs (w++[x]):=by rw[hw,hx];exact C1 ((hU.drop _).take _) (Bv (hU.get hin) BY)
  have hdv:=BM hd;have hUd:U.drop k=(w++[x])++Z:=by rw[hcut,Awd,Ayi hAl]
  have hUd1:(U.drop (k+1))=((w++[x]).drop 1)++Z:=by
   rw[show U.drop (k+1)=(U.drop k).drop 1 by rw[Ayd],hUd,List.drop_append_of_le_length (by simp)]
  have hZ0:Ag Z=0:=by
   rw[hUd1,BV,AxD,ε,Awp,hwl,AxA]at hv;rcases Axk (Ag Z) with e|e
   .exact e
   .exfalso
    have:4294967296 ^ d.length*1<=4294967296 ^ d.length*Ag Z:=AxI _ e;omega
  have hWD:Ag (w++[x])<Ag d*4294967296:=by
   obtain⟨y,hy⟩:∃ y,(w++[x])=y::(w++[x]).drop 1:=by
    cases w with
    |nil=>exact⟨x,rfl⟩
    |cons a w=>exact⟨a,rfl⟩
   have hy1:y<4294967296:=hwL y (by rw[hy];exact List.mem_cons_self ..);have hv1:Ag ((w++[x]).drop 1)<Ag d:=by
    rw[hUd1,BV,hZ0]at hv;omega
   rw[hy,Ag,AzN];rw[AzN]at hv1;omega
  obtain⟨hG,hT⟩:=XW hd hwL hwl h2 hf hWD;obtain⟨hLm,la,hnb,hbk⟩:=AeR hd hwL hwl h2 hf hWD;have hglt:=hG.lt;have hUlen:(A++(w++[x])++Z).length=U.length:=by rw[←hcut]
  have hU2:Limbs (A++(w++[x])++Z):=by rw[←hcut];exact hU
  have gg:=Af2 K hd hU2 hwl (by omega) h2 hf (n:=U.length-k) (by omega) (by rw[hUlen,hAl];omega) hT;have ga:=Ani K hd hglt hU2 hwl (by omega);rw[hAl,←hcut]at gg ga;have hLen1:(A++(aW d w x++[aX d w x])++Z).length=U.length:=by
   rw[←hUlen];simp only[ε,Awp,la,hwl]
  have key:∀(g:Nat) (v:Af),g<4294967296->v.length=d.length+1->Limbs v->Ag v+g*Ag d=Ag (w++[x])->Ag v<Ag d->
    ∃ q' U':Af,D.ask (.lp 204 0) [.sl 0 0 q.length 1,iv s,eN d,.sl 1 0 U.length 1,iv (d.length:Int),iv ((k:Int)-1)] [θ (Ao eL (q.set k g)) Δ Δ,θ (Ao eL (A++v++Z)) Δ Δ]
     = Θ (.tup [iv 0,.sl 2 0 q.length 1,iv s,.sl 3 0 U.length 1,iv (d.length:Int)],[.del,.del,.set (θ (Ao eL q') Δ Δ),.set (θ (Ao eL U') Δ Δ)]) ∧
     q'.length=q.length/\U'.length=U.length/\Limbs q'/\Limbs U'/\q'.drop (k+1)=q.drop (k+1)/\Ag U'<Ag d/\Ag U=Ag (q'.take (k+1))*Ag d+Ag U':=λg v hg hvl hvL he hlt=>by
   have hl1:(A++v++Z).length=U.length:=by
    rw[←hUlen];simp only[ε,Awp,hvl,hwl]
   obtain⟨q',U',h1,h3,h4,h5,h6,h7,h8,h9⟩:=ih (q.set k g) (A++v++Z) (by rw[AwJ];omega) (by rw[hl1,AwJ];exact hl) (by omega) (Jb hq hg) (C1 (C1 hAL hvL) hZL) (by
    rw[Awd,Ayi hAl,BV,hZ0];omega)
   rw[AwJ]at h1 h3;rw[hl1]at h1 h4;refine⟨q',U',h1,h3,h4,h5,h6,?_,h8,?_⟩
   .have:=congrArg (Av8 1) h7
    rw[Ayd,Ayd,List.drop_set_of_lt (by omega)]at this;exact this
   .have hqk:k<q.length:=by omega
    rw[Aks hqk h3 h7,AwW];have e1:Ag U=Ag A+4294967296 ^ k*Ag (w++[x]):=by
     conv=>lhs;rw[hcut]
     rw[VB,hZ0,hAl];simp
    rw[VB,hZ0,hAl]at h9;rw[e1,←he,Axu,Aw3];simp only[Ayt,Aw1]at h9;omega
  have hqk:k<q.length:=by omega
  have hblt:Aw0 k q.length=Δ:=B1 hqk;have hble:Awf (0+k*1+1) (Ao eL q).length=Δ:=by rw[BC AR];simp;omega
  have hin1:HY k U.length U.length=Δ:=Sj (by omega) (by omega);have hin2:HY k (k+d.length+1) U.length=Δ:=Sj (by omega) (by omega);have hsub:Ap.sub .i64 (k:Int) 1=(k:Int)-1:=DZ (by omega) (by omega);have hadd:Ap.add .i64 (Ap.add .i64 (k:Int) (d.length:Int)) 1=((k+d.length+1:Nat):Int):=by
   rw[Aa7 (by omega),BU (by omega)]
  have h0k:0+k*1=k:=by omega
  by_cases hb:x<tW d w x
  .obtain⟨hg1,hL2,he,hlt⟩:=hbk hb
   have gb:=Anj K hd (A:=A) (Z:=Z) (w:=aW d w x) (x:=aX d w x) (C1 (C1 hAL hLm) hZL) la (by omega);rw[hAl]at gb;obtain⟨q',U',h1,hr⟩:=key (gW d w x-1) _ (by omega) (by rw[ε,EH,Awp]) hL2 he hlt;refine⟨q',U',?_,hr⟩;refine AE K LS (R4 ..) ?_;rw[show (((k+1:Nat):Int)-1)=(k:Int) by omega];refine Cs ?_;rw[AI,hin1,h0k];refine Ah ?_;refine Aa gg ?_;simp only[Qa,Aj];rw[hadd,AI,AI,hin2,h0k,show k+d.length+1-k=d.length+1 by omega];refine Ah ?_;refine Aa ga ?_;simp only[Aj];rw[BT (show x<Eb (gW d w x) 0 d+Dq (gW d w x) 0 0 w d from hb)];refine Ah ?_;rw[AI,AI,hin2,h0k,show k+d.length+1-k=d.length+1 by omega];refine Ah ?_;refine Aa gb ?_;simp only[Aj];rw[AI,hblt,hble];refine Ah ?_;refine Ah ?_;rw[show Ap.sub .u64 (gW d w x:Int) 1=((gW d w x-1:Nat):Int) from Ey (y:=1) hg1 (by omega),BQ (by omega),show 0+k*1=0+(0+k)*1 by omega,Dm _ _ _ (by omega),Awt,hsub];refine Aa h1 ?_;rfl
  .obtain⟨he,hlt⟩:=hnb hb
   obtain⟨q',U',h1,hr⟩:=key (gW d w x) _ hglt (by rw[ε,la,Awp]) hLm he hlt;refine⟨q',U',?_,hr⟩;refine AE K LS (R4 ..) ?_;rw[show (((k+1:Nat):Int)-1)=(k:Int) by omega];refine Cs ?_;rw[AI,hin1,h0k];refine Ah ?_;refine Aa gg ?_;simp only[Qa,Aj];rw[hadd,AI,AI,hin2,h0k,show k+d.length+1-k=d.length+1 by omega];refine Ah ?_;refine Aa ga ?_;simp only[Aj];rw[BX (show ¬ x<Eb (gW d w x) 0 d+Dq (gW d w x) 0 0 w d from hb)];refine BR ?_;rw[AI,hblt,hble];refine Ah ?_;refine Ah ?_;rw[BQ (by omega),show 0+k*1=0+(0+k)*1 by omega,Dm _ _ _ (by omega),Awt,hsub];refine Aa h1 ?_;rfl
end
def Agf:ByteArray:=CH P1
def Al6(b:Nat):Bool:=match Ap.sat Agf b with
 |.ofNat t=>b == 0||(Awf 1 t&&(Awf t 8&&(Awf (2 ^ (t-1)) b&&Aw0 b (2 ^ t))))
 |_=>false
theorem Agg:(List.range 256).all Al6=Δ:=by kernel_rfl
theorem St{b:Nat}(h:b<256)(h0:0<b):∃ t:Nat,Ap.sat Agf b=(t:Int)/\1<=t/\t<=8/\2 ^ (t-1)<=b/\b<2 ^ t:=by
 have:=List.all_eq_true.1 Agg b (List.mem_range.2 h);unfold Al6 at this;split at this
 .rename_i t ht
  rw[Bool.or_eq_true,beq_iff_eq,Awh,Awh,Awh]at this;rcases this with h1|⟨h1,h2,h3,h4⟩
  .omega
  .have h5:b+1<=2 ^ t:=by simpa[Aw0]using h4
   exact⟨t,ht,by simpa using h1,by simpa using h2,by simpa using h3,h5⟩
 .exact absurd this (by decide)
theorem An4:Ap.slen Agf=256:=by kernel_rfl
theorem NG{x:Nat}(h:x<256):Ap.conv .u8 (x:Int)=(x:Int):=by
 show IntKind.u8.wrap (x:Int)=_
 have e:IntKind.u8.wrap (x:Int)=(x:Int) % 256:=by simp[IntKind.wrap,IntKind.bits,IntKind.signed]
 rw[e];omega
theorem NH{x:Nat}(h:x<256):Ap.conv .i64 (x:Int)=(x:Int):=by
 show IntKind.i64.wrap (x:Int)=_
 rw[IntKind.wrap_i64];omega
theorem Wz{x t:Nat}(k:Nat)(h1:1<=t)(h3:2 ^ (t-1)<=x / 2 ^ k)(h4:x / 2 ^ k<2 ^ t):2 ^ (k+t-1)<=x/\x<2 ^ (k+t):=by
 have hp:=AzK k;rw[show k+t-1=(t-1)+k by omega,show k+t=t+k by omega,Ayb,Ayb];exact⟨(Nat.le_div_iff_mul_le hp).1 h3,(Nat.div_lt_iff_lt_mul hp).1 h4⟩
section
variable {D:Orc} (K:Knows DQ Jz D)
include K
theorem Ade{x:Nat}(h:x<4294967296)(h0:0<x):∃ L:Nat,D.ask (.fn 222) [.v (.int .u32 (x:Int))] []=Θ (iv (L:Int),[])/\1<=L/\L<=32/\2 ^ (L-1)<=x/\x<2 ^ L:=by
 have e:=Ap9 Ap D (x:Int);rw[show CH P1=Agf from rfl,An4]at e;have s16:Ap.shr .u32 (x:Int) 16=((x / 65536:Nat):Int):=SR (k:=.u32) (r:=16) (by decide);have s8:∀ y:Nat,Ap.shr .u32 (y:Int) 8=((y / 256:Nat):Int):=λy=>SR (k:=.u32) (r:=8) (by decide)
 rw[s16,s8,s8]at e
 by_cases h16:65536<=x
 .by_cases h8:256<=x / 65536
  .obtain⟨t,ht,h1,h2,h3,h4⟩:=St (b:=x / 65536 / 256) (by omega) (by omega)
   rw[show x / 65536 / 256=x / 2 ^ 24 by rw[Nat.div_div_eq_div_mul]]at h3 h4;obtain⟨h5,h6⟩:=Wz 24 h1 h3 h4;refine⟨24+t,?_,by omega,by omega,h5,h6⟩;refine K.fn' OL _ rfl (e.trans ?_);refine Cs ?_;refine AA ?_ (by decide);refine Cs ?_;refine AA ?_ (by decide);rw[NG (by omega),AI,show Aw0 (x / 65536 / 256) 256=Δ from B1 (by omega)];refine Ah ?_;rw[ht,NH (by omega),GU (a:=16) (b:=8) (by decide) (by decide),GU (by omega) (by omega)];rw[show (16:Int)+8+(t:Int)=((24+t:Nat):Int) by omega]
  .obtain⟨t,ht,h1,h2,h3,h4⟩:=St (b:=x / 65536) (by omega) (by omega)
   obtain⟨h5,h6⟩:=Wz 16 h1 h3 h4;refine⟨16+t,?_,by omega,by omega,h5,h6⟩;refine K.fn' OL _ rfl (e.trans ?_);refine Cs ?_;refine AA ?_ (by decide);refine CN ?_;rw[NG (by omega),AI,show Aw0 (x / 65536) 256=Δ from B1 (by omega)];refine Ah ?_;rw[ht,NH (by omega),GU (by omega) (by omega)];rw[show (16:Int)+(t:Int)=((16+t:Nat):Int) by omega]
 .by_cases h8:256<=x
  .obtain⟨t,ht,h1,h2,h3,h4⟩:=St (b:=x / 256) (by omega) (by omega)
   obtain⟨h5,h6⟩:=Wz 8 h1 h3 h4;refine⟨8+t,?_,by omega,by omega,h5,h6⟩;refine K.fn' OL _ rfl (e.trans ?_);refine CN ?_;refine Cs ?_;refine AA ?_ (by decide);rw[NG (by omega),AI,show Aw0 (x / 256) 256=Δ from B1 (by omega)];refine Ah ?_;rw[ht,NH (by omega),GU (a:=0) (b:=8) (by decide) (by decide),GU (by omega) (by omega)];rw[show (0:Int)+8+(t:Int)=((8+t:Nat):Int) by omega]
  .obtain⟨t,ht,h1,h2,h3,h4⟩:=St (b:=x) (by omega) (by omega)
   refine⟨t,?_,by omega,by omega,h3,h4⟩;refine K.fn' OL _ rfl (e.trans ?_);refine CN ?_;refine CN ?_;rw[NG (by omega),AI,show Aw0 x 256=Δ from B1 (by omega)];refine Ah ?_;rw[ht,NH (by omega),GU (by omega) (by omega),Int.zero_add]
theorem Ark{x:Nat}(h:x<4294967296)(h0:0<x):∃ s:Nat,D.ask (.fn 237) [.v (.int .u32 (x:Int))] []=Θ (iv (s:Int),[])/\s<=31/\2147483648<=x*2 ^ s/\x*2 ^ s<4294967296:=by
 obtain⟨L,g,h1,h2,h3,h4⟩:=Ade K h h0;have hp:=AzK (32-L);refine⟨32-L,?_,by omega,?_,?_⟩
 .refine AC K AcI (Aqb ..) ?_
  refine Aa g ?_;simp only[Aj];rw[DZ (by omega) (by omega),show (32:Int)-(L:Int)=((32-L:Nat):Int) by omega]
 .have:2 ^ (L-1)*2 ^ (32-L)<=x*2 ^ (32-L):=Aww _ h3
  rw[←Ayb,show L-1+(32-L)=31 by omega]at this;exact this
 .have:x*2 ^ (32-L)<2 ^ L*2 ^ (32-L):=Ax5 h4 hp
  rw[←Ayb,show L+(32-L)=32 by omega]at this;exact this
end
theorem Xn{l:Af}(h:Limbs l)(h0:0<l.length):4294967296 ^ (l.length-1)*l.getD (l.length-1) 0<=Ag l/\Ag l<4294967296 ^ (l.length-1)*(l.getD (l.length-1) 0+1):=by
 have hk:l.length-1<l.length:=by omega
 have e:l=l.take (l.length-1)++[l[l.length-1]]:=by
  rw[←AwK hk,Aw5 (by omega)]
 have hv:=congrArg Ag e;rw[BV,Awo,Aw4 (by omega)]at hv;have hb:=BM (h.take (l.length-1));rw[Awo,Aw4 (by omega)]at hb;rw[CV hk];simp only[Ag,Ayt,Aw1]at hv;rw[Axu,Aya];omega
theorem Eh{b:Nat}(h:0<(Aq b).length):4294967296 ^ ((Aq b).length-1)<=b/\b<4294967296 ^ (Aq b).length:=by
 refine⟨?_,?_⟩
 .by_cases h1:4294967296 ^ ((Aq b).length-1)<=b
  .exact h1
  .have:=Bu (n:=b) (k:=(Aq b).length-1) (by omega)
   omega
 .have:=BM (Av b)
  rwa [AF]at this
theorem UM{n k:Nat}(h1:4294967296 ^ k<=n)(h2:n<4294967296 ^ (k+1)):(Aq n).length=k+1:=by
 have:=IC h1;have:=Bu h2;omega
theorem AkB{b:Nat}(h:0<(Aq b).length):0<(Aq b).getD ((Aq b).length-1) 0:=by
 have h1:=(Xn (Av b) h).2;have h2:=(Eh h).1;rw[AF]at h1;rcases Axk ((Aq b).getD ((Aq b).length-1) 0) with e|e
 .rw[e]at h1
  omega
 .exact e
theorem Apb{b s:Nat}(hb:0<(Aq b).length)(hs:s<=31)(h1:2147483648<=(Aq b).getD ((Aq b).length-1) 0*2 ^ s)(h2:(Aq b).getD ((Aq b).length-1) 0*2 ^ s<4294967296) :
  (Aq (b*2 ^ s)).length=(Aq b).length/\2147483648<=(Aq (b*2 ^ s)).getD ((Aq b).length-1) 0/\4294967296 ^ ((Aq b).length-1)*2 ^ s<=b*2 ^ s:=by
 obtain⟨p0,p31,pq⟩:=Pg hs;obtain⟨t1,t2⟩:=Xn (Av b) hb;rw[AF]at t1 t2;have hB:=(Eh hb).1;generalize (Aq b).getD ((Aq b).length-1) 0=t at *;obtain⟨n,hn⟩:∃ n,(Aq b).length=n+1:=⟨(Aq b).length-1,by omega⟩;rw[hn,AxA]at t1 t2 hB ⊢;have hP:0<4294967296 ^ n:=Nat.pow_pos (by omega);have ht:(t+1)*2 ^ s<=4294967296:=by
  have:t<2 ^ (32-s):=by
   rw[←pq,Aw2]at h2;exact Ayq h2
  have:=AxI (2 ^ s) this;rw[pq,Aw2]at this;exact this
 have lo:4294967296 ^ n*2147483648<=b*2 ^ s:=by
  have h3:4294967296 ^ n*(t*2 ^ s)<=b*2 ^ s:=by
   rw[←Aw3];exact Aww _ t1
  exact Awy (AxI _ h1) h3
 have hi:b*2 ^ s<4294967296 ^ (n+1):=by
  have h3:b*2 ^ s<4294967296 ^ n*(t+1)*2 ^ s:=Ax5 t2 p0;rw[Aw3]at h3;rw[Aw6];exact AwZ h3 (AxI _ ht)
 have hlen:(Aq (b*2 ^ s)).length=n+1:=UM (by omega) hi;refine⟨hlen,?_,Aww _ hB⟩;have t3:=(Xn (Av (b*2 ^ s)) (by omega)).2;rw[AF,hlen,AxA]at t3;have:=Ayq (Azl lo t3);omega
theorem Apa{a s:Nat}(ha:0<(Aq a).length)(hs:s<=31):(Aq (a*2 ^ s)).length=(Aq a).length\/(Aq (a*2 ^ s)).length=(Aq a).length+1:=by
 obtain⟨p0,p31,pq⟩:=Pg hs;obtain⟨h1,h2⟩:=Eh ha;have lo:4294967296 ^ ((Aq a).length-1)<=a*2 ^ s:=Awy h1 (Nat.le_mul_of_pos_right _ p0);have hi:a*2 ^ s<4294967296 ^ ((Aq a).length+1):=by
  rw[Aw6];exact AwZ (Ax5 h2 p0) (AxI _ (by omega))
 have l1:=IC lo;have l2:=Bu hi;omega
theorem Aer{a b s:Nat}(hs:s<=31){U:Af}(hU:Ag U=a*2 ^ s)(hl:U.length=(Aq a).length+1)(hb:0<(Aq b).length)(hba:(Aq b).length<=(Aq a).length)(h3:4294967296 ^ ((Aq b).length-1)*2 ^ s<=b*2 ^ s) :
  Ag (U.drop (U.length-(Aq b).length))<b*2 ^ s:=by
 obtain⟨p0,p31,pq⟩:=Pg hs;have ha:=(Eh (show 0<(Aq a).length by omega)).2;have e:=congrArg Ag (Axf (U.length-(Aq b).length) U);rw[BV,Awo,Aw4 (by omega),hU]at e;refine AwZ ?_ h3;have h4:a*2 ^ s<4294967296 ^ (U.length-(Aq b).length)*(4294967296 ^ ((Aq b).length-1)*2 ^ s):=by
  rw[←Aw3,←Ayb,show U.length-(Aq b).length+((Aq b).length-1)=(Aq a).length by omega];exact Ax5 ha p0
 exact Ayq (Azl (by omega) h4)
section
variable {D:Orc} (K:Knows DQ Jz D) (C:CloneF D)
include K C
theorem Agj{a b:Nat}(ha:(Aq a).length<=999999990)(hb:2<=(Aq b).length)(hab:(Aq b).length<=(Aq a).length):D.ask (.fn 204) [eN (Aq a),eN (Aq b)] []=Θ (.tup [eN (Aq (a / b)),eN (Aq (a % b))],[]):=by
 have hb1:(Aq b).length-1<(Aq b).length:=by omega
 have htop:=(Av b).get hb1;have hpos:=AkB (b:=b) (by omega);rw[CV hb1]at hpos;obtain⟨s,gz,h31,hz1,hz2⟩:=Ark K htop hpos;obtain⟨p0,p31,pq⟩:=Pg h31;obtain⟨hdl,hdt,hdb⟩:=Apb (b:=b) (s:=s) (by omega) h31 (by rw[CV hb1];exact hz1) (by rw[CV hb1];exact hz2);have hal:=Apa (a:=a) (s:=s) (by omega) h31;have gb:=X6 K C (Av b) (by omega) h31;have ga:=X6 K C (Av a) (by omega) h31;rw[AF]at gb ga;have rest:∀ U:Af,Limbs U->U.length=(Aq a).length+1->Ag U=a*2 ^ s->∃ q' U':Af,D.ask (.lp 204 0) [.sl 0 0 ((Aq a).length+1-(Aq b).length) 1,iv (s:Int),eN (Aq (b*2 ^ s)),.sl 1 0 U.length 1,iv ((Aq b).length:Int),iv ((((Aq a).length+1-(Aq b).length:Nat):Int)-1)] [θ (Ao eL (Axl ((Aq a).length+1-(Aq b).length) 0)) Δ Δ,θ (Ao eL U) Δ Δ]
   = Θ (.tup [iv 0,.sl 2 0 ((Aq a).length+1-(Aq b).length) 1,iv (s:Int),.sl 3 0 U.length 1,iv ((Aq b).length:Int)],[.del,.del,.set (θ (Ao eL q') Δ Δ),.set (θ (Ao eL U') Δ Δ)]) ∧
   q'.length=(Aq a).length+1-(Aq b).length/\U'.length=U.length ∧
   D.ask (.fn 202) [eN q'] []=Θ (.sl 0 0 (Aq (a / b)).length 1,[.set (θ (Ao eL (Aq (a / b))) Δ Δ)]) ∧
   D.ask (.fn 242) [eN (U'.take (Aq b).length),iv (s:Int)] []=Θ (eN (Aq (a % b)),[]):=λU hU hUl hUv=>by
  have hst:=Aer h31 hUv hUl (show 0<(Aq b).length by omega) hab hdb;obtain⟨q',U',g1,g2,g3,g4,g5,g6,g7,g8⟩:=Agi K (Av (b*2 ^ s)) (by omega) (by rw[hdl];exact hdt) (s:Int) ((Aq a).length+1-(Aq b).length) (Axl ((Aq a).length+1-(Aq b).length) 0) U (by simp) (by rw[Ayl,hUl,hdl];omega) (by omega) (λx hx=>by rw[List.eq_of_mem_replicate hx];omega) hU (by rw[AF,←hUl];exact hst);rw[Ayl]at g1 g2;rw[hdl]at g1;rw[AF]at g7 g8;rw[Aw5 (by omega),hUv]at g8;have hq:Ag q'=a / b/\Ag U'=(a % b)*2 ^ s:=by
   have hbp:0<b*2 ^ s:=by omega
   have e1:a*2 ^ s / (b*2 ^ s)=Ag q':=by
    rw[g8,Aw2,Nat.mul_add_div hbp,AxU g7,Aw1]
   have e2:a*2 ^ s % (b*2 ^ s)=Ag U':=by
    rw[g8,Aw2,Nat.mul_add_mod,Aw8 g7]
   rw[Nat.mul_div_mul_right _ _ p0]at e1;rw[Nat.mul_mod_mul_right]at e2;exact⟨e1.symm,e2.symm⟩
  refine⟨q',U',g1,g2,g3,?_,?_⟩
  .have:=GB K C (l:=q') (by unfold B5;omega) g4
   rwa [hq.1]at this
  .have ht:Ag (U'.take (Aq b).length)=Ag U':=by
    have e:=congrArg Ag (Axf (Aq b).length U');rw[BV,Awo,Aw4 (by omega)]at e;have hbd:=(Eh (b:=b*2 ^ s) (by omega)).2;rw[hdl]at hbd;rcases Axk (Ag (U'.drop (Aq b).length)) with h0|h0
    .rw[h0]at e;omega
    .exfalso
     have:4294967296 ^ (Aq b).length*1<=4294967296 ^ (Aq b).length*Ag (U'.drop (Aq b).length):=AxI _ h0;omega
   have:=Z0 K C (a:=U'.take (Aq b).length) (g5.take _) (by unfold B5;rw[Awo];omega) h31
   rwa [ht,hq.2,Nat.mul_div_cancel _ p0]at this
 refine AC K LS (Ap7 ..) ?_;rw[Al,show Ap.sub .i64 ((Aq b).length:Int) 1=(((Aq b).length-1:Nat):Int) from Np (j:=1) (by omega) (by omega),AI,Az (ξ hb1)];simp only[eL,FR,Aj];refine Aa gz ?_;simp only[Aj];refine Aa gb ?_;simp only[Aj];refine Aa ga ?_;simp only[Aj];rcases hal with h|h
 .have hi:Ap.sub .i64 (Ap.add .i64 ((AT ((Aq a).map eL):Nat):Int) 1) ((Aq (a*2 ^ s)).length:Int)=((1:Nat):Int):=by
   rw[Al,BU (by omega),h,Np (by omega) (by omega)];simp
  have hU0:Ag (Aq (a*2 ^ s)++[0])=a*2 ^ s:=by
   rw[BV,AF];simp[Ag]
  obtain⟨q',U',gl,hql,hUl,gT,gR⟩:=rest (Aq (a*2 ^ s)++[0]) (C1 (Av _) (Bv (by omega) BY)) (by simp[h]) hU0;rw[ε,Awp]at gl hUl;rw[hi,AI];refine Ah ?_;refine BR ?_;refine Ah ?_;rw[AP (by omega) (by omega),AK AR (Aq (a*2 ^ s)) (by omega)];refine Ah ?_;refine Ah ?_;have hi2:Ap.sub .i64 (((Aq (a*2 ^ s)).length+1:Nat):Int) ((Aq (b*2 ^ s)).length:Int)=(((Aq a).length+1-(Aq b).length:Nat):Int):=by
   rw[h,hdl,Np (by omega) (by omega)]
  have hi3:Ap.sub .i64 (((Aq a).length+1-(Aq b).length:Nat):Int) 1=(((Aq a).length+1-(Aq b).length:Nat):Int)-1:=DZ (by omega) (by omega);have hchk:Bo (Aq (b*2 ^ s)).length 1 (κ ((Aq (b*2 ^ s)).length*1) (Ao eL (Aq (b*2 ^ s))))=(Aq (b*2 ^ s)).map eL:=Bi AR _ rfl;have hcat:Av8 0 (κ (0+(Aq (a*2 ^ s)).length*1) (Ao eL (Aq (a*2 ^ s))))++Ch [.v (.int .u32 0)] (1*1)=Ao eL (Aq (a*2 ^ s)++[0]):=by
   rw[List.drop_zero,Bb AR _ (by omega),IV];exact Bc eL _ 0
  rw[hi2,AI,AI,show Awf ((Aq a).length+1-(Aq b).length) ((Aq a).length+1-(Aq b).length)=Δ by simp];refine Ah ?_;rw[AP (by omega) (by omega)];refine Ah ?_;rw[AK AR _ (by omega)];refine Ah ?_;rw[hchk,hi3,hcat,IV,hdl];refine Aa gl ?_;simp only[Aj];rw[AK AR q' (by omega)];refine Ah ?_;rw[Bi AR q' hql.symm];refine Aa gT ?_;simp only[Aj];rw[AI,Sj (Awz _) (by omega)];refine Ah ?_;have hU1:κ ((Aq b).length*1) (Ao eL U')=Ao eL (U'.take (Aq b).length):=by
   rw[Aya,EB,EB,AyR]
  rw[show Awf (0+(Aq b).length*1) (Ao eL U').length=Δ by rw[BC AR];simp;omega];refine Ah ?_;rw[hU1,←Bb AR (U'.take (Aq b).length) (n:=(Aq b).length*1) (by simp;omega),Bi AR (U'.take (Aq b).length) (by rw[Awo];omega)];refine Aa gR ?_;simp only[eN,Aj];rw[AK AR _ (by omega)];refine Ah ?_;rw[Bi AR _ rfl]
 .have hi:Ap.sub .i64 (Ap.add .i64 ((AT ((Aq a).map eL):Nat):Int) 1) ((Aq (a*2 ^ s)).length:Int)=((0:Nat):Int):=by
   rw[Al,BU (by omega),h,Np (by omega) (by omega)];simp
  obtain⟨q',U',gl,hql,hUl,gT,gR⟩:=rest (Aq (a*2 ^ s)) (Av _) h (AF _);rw[hi,AI];refine Ah ?_;refine Ah ?_;have hi2:Ap.sub .i64 ((Aq (a*2 ^ s)).length:Int) ((Aq (b*2 ^ s)).length:Int)=(((Aq a).length+1-(Aq b).length:Nat):Int):=by
   rw[h,hdl,Np (by omega) (by omega)]
  have hi3:Ap.sub .i64 (((Aq a).length+1-(Aq b).length:Nat):Int) 1=(((Aq a).length+1-(Aq b).length:Nat):Int)-1:=DZ (by omega) (by omega);have hchk:Bo (Aq (b*2 ^ s)).length 1 (κ ((Aq (b*2 ^ s)).length*1) (Ao eL (Aq (b*2 ^ s))))=(Aq (b*2 ^ s)).map eL:=Bi AR _ rfl;rw[hi2,AI,AI,show Awf ((Aq a).length+1-(Aq b).length) ((Aq a).length+1-(Aq b).length)=Δ by simp];refine Ah ?_;rw[AP (by omega) (by omega)];refine Ah ?_;rw[AK AR _ (by omega)];refine Ah ?_;rw[hchk,hi3,IV,hdl];refine Aa gl ?_;simp only[Aj];rw[AK AR q' (by omega)];refine Ah ?_;rw[Bi AR q' hql.symm];refine Aa gT ?_;simp only[Aj];rw[AI,Sj (Awz _) (by omega)];refine Ah ?_;have hU1:κ ((Aq b).length*1) (Ao eL U')=Ao eL (U'.take (Aq b).length):=by
   rw[Aya,EB,EB,AyR]
  rw[show Awf (0+(Aq b).length*1) (Ao eL U').length=Δ by rw[BC AR];simp;omega];refine Ah ?_;rw[hU1,←Bb AR (U'.take (Aq b).length) (n:=(Aq b).length*1) (by simp;omega),Bi AR (U'.take (Aq b).length) (by rw[Awo];omega)];refine Aa gR ?_;simp only[eN,Aj];rw[AK AR _ (by omega)];refine Ah ?_;rw[Bi AR _ rfl]
theorem Am0{a b:Af}(ha:Limbs a)(hal:a.length<=999999990)(hb:Limbs b)(hbl:b.length<=999999990):D.ask (.fn 144) [eN a,eN b] []
  = Θ (if Ag b=0 then .tup [.ls [],.ls [],iv 10] else .tup [eN (Aq (Ag a / Ag b)),eN (Aq (Ag a % Ag b)),iv 0],[]):=by
 have la:(Aq (Ag a)).length<=999999990:=by rw[C2 a ha];have:=Cx a;omega
 have lb:(Aq (Ag b)).length<=999999990:=by rw[C2 b hb];have:=Cx b;omega
 refine AC K AcE (Ap1 ..) ?_;refine Aa (FO K (by unfold B5;omega) ha) ?_;simp only[eN,Aj];refine Aa (FO K (by unfold B5;omega) hb) ?_;simp only[eN,Al,Aj];generalize Ag a=x at *;generalize Ag b=y at *
 by_cases hy:y=0
 .rw[Ac hy,hy,CJ]
  exact DP (by decide)
 .have hyl:0<(Aq y).length:=by
   rw[DX hy];exact Nat.succ_pos _
  rw[Ad hy];refine Ay ?_;refine Aa (Afj K (a:=Aq x) (b:=Aq y) (by unfold B5;omega) (Av x) (by unfold B5;omega) (Av y)) ?_;rw[AF,AF];simp only[Aj]
  by_cases hxy:x<y
  .refine AB ?_ (by unfold C7;rw[Ac hxy];decide)
   have gt:=GB K C (l:=Aq x) (by unfold B5;omega) (Av x);rw[AF]at gt;refine Aa gt ?_;simp only[Aj];rw[AK AR _ (by omega)];refine Ah ?_;rw[Bi AR _ rfl,AxU hxy,Aw8 hxy,CJ];rfl
  .refine AA ?_ (by unfold C7;rw[Ad hxy];split<;>decide)
   by_cases h1:(Aq y).length=1
   .have hlt:y<4294967296:=by
     have:=(Eh hyl).2
     rwa [h1]at this
    have hny:Aq y=[y]:=by
     rw[DX hy,Aw8 hlt,AxU hlt,CJ]
    refine AG ?_;rw[hny,Az (show [y][0]? = Θ y from rfl)];simp only[eL,FR,Aj];refine Aa (Zk K C (a:=Aq x) (Av x) (by unfold B5;omega) (by omega) hlt) ?_;rw[AF];simp only[eN,FR,Aj];have hm:=AwU x (show 0<y by omega);rw[BK (x:=x % y) (by omega)];refine Aa (Am3 K C (x % y) (by omega)) ?_;simp only[eN,Aj]
   .refine Ay ?_
    have hll:(Aq y).length<=(Aq x).length:=by
     rcases Nat.lt_or_ge (Aq x).length (Aq y).length with h|h
     .exact absurd (GD h) hxy
     .exact h
    refine Aa (Agj K C la (by omega) hll) ?_;simp only[eN,Aj]
