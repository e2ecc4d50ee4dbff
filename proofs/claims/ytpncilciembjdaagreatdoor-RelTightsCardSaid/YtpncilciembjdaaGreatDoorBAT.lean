/- What long division comes -/
import Derived.Test.YtpncilciembjdaaGreatDoorBAS
set_option linter.all false
open Bool renaming and_eq_true->Ape
open List renaming append_assoc->Ao9,drop->ι,drop_drop->Aq3,drop_eq_getElem_cons->ω,drop_left'->Aq9,drop_one->AsR,getElem?_append_right->Apk,getElem?_eq_getElem->Ψ,headD_cons->Aqp,length_append->η,length_drop->AqA,length_replicate->Arb,length_set->Apl,length_singleton->Apm,length_take->Apg,map_take->ArN,replicate->Aqj,take->κ,take_append_drop->Ap5,take_left'->AqR,take_of_length_le->ApZ,take_succ_eq_append_getElem->ApC
open Nat renaming add_mul->ApA,add_sub_cancel->AqO,add_sub_cancel_left->AqG,add_zero->ApJ,ble->Apa,blt->ApR,div_eq_of_lt->AqL,eq_zero_or_pos->Aqh,le_trans->Apx,lt_of_le_of_lt->Asm,lt_of_lt_of_le->Aqc,lt_of_mul_lt_mul_left->Arh,min_eq_left->ApL,mod_eq_of_lt->Ap1,mod_lt->ApI,mul_add->ApW,mul_assoc->Apo,mul_comm->ApD,mul_le_mul_left->AqC,mul_le_mul_right->Apj,mul_lt_mul_of_pos_right->AqX,mul_one->AqP,mul_zero->Arl,one_mul->Aqi,pow_add->Aq1,pow_succ->ApU,sub_self->Arf,two_pow_pos->AsM,zero_add->Apy,zero_le->ApM
namespace Go.Proofs.YtpncilciembjdaaGreatDoor
open ABlk renaming mk->Ξ
open IntKind renaming u64->Θ
open Go.RowKit
theorem Y7{l:List Nat}(j i:Nat)(h:j+i<l.length)(k:List AV->KR):EQ (Ai eL l) (j+i*1) 1 k=k [.v (.int .u32 (l[j+i]:Int))]:=by
 rw[show j+i*1=0+(j+i)*1 by omega];exact GN l _ h k
section
variable {D:Orc} (K:Knows C6 GS D)
include K
theorem XY(d:List Nat)(hd:Limbs d)(U:List Nat)(hU:Limbs U)(o n f:Nat)(h2:2<=d.length)(hdl:d.length<=1000000000)(hn:d.length-2<n)(hou:o+(d.length-2)<U.length)(hdi:d.length-2<d.length)(hf:f<4294967296):∀(k g r:Nat),g<=4294967297->r<4294967296->4294967296<=r+k*f->
  D.ask (.lp 239 0) [.sl 0 o n 1,eN d,iv (d.length:Int),.v (.int .u64 (f:Int)),.v (.int .u64 (g:Int)),.v (.int .u64 (r:Int))] [Ξ (Ai eL U) true true]
   = some (.tup [iv 0,.v (.int .u64 (Gv f d[d.length-2] U[o+(d.length-2)] k g r:Int))],[.keep]):=by
 have hv:=hd.get hdi;have hu:=hU.get hou;intro k
 induction k with
 |zero=>intro g r _ h1 h3;omega
 |succ k ih=>
  intro g r hg hr hk;have hk2:4294967296<=r+f+k*f:=by rw[ApA,Aqi]at hk;omega
  rw[Gv];have hsub:Ag.sub .i64 (d.length:Int) 2=((d.length-2:Nat):Int):=K9 (j:=2) h2 (by omega);have hadd:Ag.add .u64 (r:Int) (f:Int)=((r+f:Nat):Int):=BT (by omega);have tail:1<=g->(br (Ag.le 4294967296 (Ag.add .u64 (r:Int) (f:Int)))
     (some ((AV.tup [iv 0,AV.v (Value.int Θ (Ag.sub Θ (g:Int) 1))],[BO.keep])))
     (AI D (Key.lp 239 0) [AV.sl 0 o n 1,AV.ls (d.map eL),iv (d.length:Int),AV.v (Value.int Θ (f:Int)),AV.v (Value.int Θ (Ag.sub Θ (g:Int) 1)),AV.v (Value.int Θ (Ag.add Θ (r:Int) (f:Int)))] [Ξ (Ai eL U) true true] λr o=>
     AE 1 [0] (AH.mk [(0,Ξ (Ai eL U) true true)] 1 none) [] r o))
    = some (.tup [iv 0,.v (.int .u64 ((if 4294967296<=r+f then g-1 else Gv f d[d.length-2] U[o+(d.length-2)] k (g-1) (r+f):Nat):Int))],[.keep]):=λh1=>by
   rw[hadd,show Ag.sub .u64 (g:Int) 1=((g-1:Nat):Int) from DH (y:=1) h1 (by omega)]
   by_cases hb:4294967296<=r+f
   .rw[if_pos hb]
    exact OT (by omega)
   .rw[if_neg hb]
    refine Ca (by omega) ?_;refine Aa (ih (g-1) (r+f) (by omega) (by omega) hk2) ?_;rfl
  refine K.lp' Pb _ rfl (by kernel_rfl) ((Aa1 ..).trans ?_)
  by_cases hB:4294967296<=g
  .rw[if_pos (.inl hB)]
   refine BW (by omega) ?_;exact tail (by omega)
  .refine Ca (by omega) ?_
   rw[hsub,Av,Aw (Ψ hdi)];simp only[eL,EN,ND,DK,Ab];refine Ak (by decide) ?_;rw[Av,show ApR (d.length-2) n=true from BB hn];refine Ae ?_;refine(Y7 o _ hou _).trans ?_;refine(cuN _ _).trans ?_;have hgv:=Ih (show g<4294967296 by omega) hv;rw[Bj (show U[o+(d.length-2)]<_ by omega),Bj (show d[d.length-2]<_ by omega),IZ hr,MT hu hr,IY (by omega)]
   by_cases hc:r*4294967296+U[o+(d.length-2)]<g*d[d.length-2]
   .rw[if_pos (.inr hc)]
    refine Aq (by omega) ?_;exact tail (by
     rcases Aqh g with e|e
     .rw[e]at hc;omega
     .exact e)
   .rw[if_neg (λh=>h.elim hB hc)]
    exact CA (by omega)
theorem SN{d:List Nat}(hd:Limbs d){U:List Nat}(hU:Limbs U){o n:Nat}(h2:2<=d.length)(hdl:d.length<=1000000000)(hn:d.length<n)(hou:o+n<=U.length)(h1:d.length-1<d.length)(h1':d.length-2<d.length)(hu0:o+d.length<U.length)(hu1:o+(d.length-1)<U.length)(hu2:o+(d.length-2)<U.length)(hf:2147483648<=d[d.length-1])
  (hT:U[o+d.length]*4294967296+U[o+(d.length-1)]<=d[d.length-1]*4294967296+d[d.length-2]) :
  D.ask (.fn 239) [.sl 0 o n 1,eN d] [Ξ (Ai eL U) true true]=some (.v (.int .u64 (Gv d[d.length-1] d[d.length-2] U[o+(d.length-2)] 2 ((U[o+d.length]*4294967296+U[o+(d.length-1)]) / d[d.length-1]) ((U[o+d.length]*4294967296+U[o+(d.length-1)]) % d[d.length-1]):Int)),[.keep]):=by
 have hx0:=hU.get hu0;have hx1:=hU.get hu1;have hfl:=hd.get h1;have hg:=XV (hd.get h1') hf hT;have hm:=ApI (U[o+d.length]*4294967296+U[o+(d.length-1)]) (show 0<d[d.length-1] by omega);have g:=XY K d hd U hU o n d[d.length-1] h2 hdl (by omega) hu2 h1' hfl 2 ((U[o+d.length]*4294967296+U[o+(d.length-1)]) / d[d.length-1]) ((U[o+d.length]*4294967296+U[o+(d.length-1)]) % d[d.length-1]) hg (by omega) (by omega);have hsub:Ag.sub .i64 (d.length:Int) 1=((d.length-1:Nat):Int):=K9 (j:=1) (by omega) (by omega);refine K.fn' Pb _ rfl ((AjJ ..).trans ?_);rw[Aj,show ApR d.length n=true from BB hn];refine Ae ?_;refine(Y7 o _ hu0 _).trans ?_;simp only[EN,ND,DK,Ab];refine Ak (by decide) ?_;rw[hsub];simp only[Av];rw[show ApR (d.length-1) n=true from BB (by omega)];refine Ae ?_;refine(Y7 o _ hu1 _).trans ?_;refine(cuN _ _).trans ?_;rw[Aw (Ψ h1)];simp only[eL,EN,ND,DK,Ab];rw[Bj (show d[d.length-1]<_ by omega),Bj (show U[o+d.length]<_ by omega),Bj (show U[o+(d.length-1)]<_ by omega),IZ hx0,MT hx1 hx0,Y0 (by omega),Y3];refine AK (by omega) ?_;refine AK (by omega) ?_;refine Aa g ?_;rfl
end
theorem Agn{w:List Nat}(h:2<=w.length)(h1:w.length-1<w.length)(h2:w.length-2<w.length):w=w.take (w.length-2)++[w[w.length-2],w[w.length-1]]:=by
 have e:w.length-2+1=w.length-1:=by omega
 have:=Ap5 (w.length-2) w;rw[ω h2]at this;simp only[e]at this;rw[ω h1,List.drop_eq_nil_of_le (by omega)]at this;exact this.symm
theorem Ae4{w:List Nat}{x:Nat}(h:2<=w.length)(h1:w.length-1<w.length)(h2:w.length-2<w.length):Ad (w++[x])=((x*4294967296+w[w.length-1])*4294967296+w[w.length-2])*4294967296 ^ (w.length-2)+Ad (w.take (w.length-2)):=by
 have e:w++[x]=w.take (w.length-2)++[w[w.length-2],w[w.length-1],x]:=by
  have:=Agn h h1 h2
  conv=>lhs;rw[this]
  simp
 rw[e,Bw,Apg,ApL (by omega)];simp only[Ad];rw[ApD (4294967296 ^ (w.length-2))];generalize 4294967296 ^ (w.length-2)=P;rw[show w[w.length-2]+4294967296*(w[w.length-1]+4294967296*(x+4294967296*0))=(x*4294967296+w[w.length-1])*4294967296+w[w.length-2] by omega];omega
theorem AeW{w:List Nat}(h:2<=w.length)(h1:w.length-1<w.length)(h2:w.length-2<w.length):Ad w=(w[w.length-1]*4294967296+w[w.length-2])*4294967296 ^ (w.length-2)+Ad (w.take (w.length-2)):=by
 have e:=congrArg Ad (Agn h h1 h2);rw[Bw,Apg,ApL (by omega)]at e;refine e.trans ?_;simp only[Ad];rw[ApD (4294967296 ^ (w.length-2))];rw[show w[w.length-2]+4294967296*(w[w.length-1]+4294967296*0)=w[w.length-1]*4294967296+w[w.length-2] by omega];omega
theorem Abc{P f v vl ul wl T W Dv:Nat}(hvl:vl<P)(hDv:Dv=(f*4294967296+v)*P+vl)(hW:W=(T*4294967296+ul)*P+wl)(hWD:W<Dv*4294967296):T<=f*4294967296+v:=by
 by_cases h:T<=f*4294967296+v
 .exact h
 .exfalso
  have h1:(f*4294967296+v+1)*4294967296*P<=(T*4294967296+ul)*P:=Apj _ (by omega);have h2:Dv*4294967296<=(f*4294967296+v+1)*4294967296*P:=by
   rw[hDv,Apo _ 4294967296 P,ApD 4294967296 P,←Apo];exact Apj _ (by rw[ApA _ 1 P,Aqi];omega)
  omega
def gW(d w:List Nat)(x:Nat):Nat:=Gv (d.getD (d.length-1) 0) (d.getD (d.length-2) 0) (w.getD (d.length-2) 0) 2 ((x*4294967296+w.getD (d.length-1) 0) / d.getD (d.length-1) 0) ((x*4294967296+w.getD (d.length-1) 0) % d.getD (d.length-1) 0)
theorem Cl{l:List Nat}{i:Nat}(h:i<l.length):l.getD i 0=l[i]:=by
 rw[List.getD_eq_getElem?_getD,Ψ h];rfl
theorem TQ{d w:List Nat}{x:Nat}(hd:Limbs d)(hw:Limbs (w++[x]))(hl:w.length=d.length)(h2:2<=d.length)(hf:2147483648<=d.getD (d.length-1) 0)(hW:Ad (w++[x])<Ad d*4294967296) :
  Gs (Ad (w++[x])) (Ad d) (gW d w x)/\x*4294967296+w.getD (d.length-1) 0<=d.getD (d.length-1) 0*4294967296+d.getD (d.length-2) 0:=by
 have d1:d.length-1<d.length:=by omega
 have d2:d.length-2<d.length:=by omega
 have w1:w.length-1<w.length:=by omega
 have w2:w.length-2<w.length:=by omega
 have ed:=AeW h2 d1 d2;have ew:=Ae4 (x:=x) (by omega) w1 w2;unfold gW;rw[←Cl d1,←Cl d2]at ed;rw[←Cl w1,←Cl w2,hl]at ew;have hww:Limbs w:=λy hy=>hw y (by simp[hy])
 have b1:=Bm (hd.take (d.length-2));have b2:=Bm (hww.take (d.length-2));rw[Apg,ApL (by omega)]at b1 b2;have c1:=hd.get d1;have c2:=hd.get d2;have c3:=hww.get w2;rw[←Cl d1]at c1;rw[←Cl d2]at c2;rw[←Cl w2,hl]at c3;generalize d.getD (d.length-1) 0=f at *;generalize d.getD (d.length-2) 0=v at *;generalize w.getD (d.length-2) 0=ul at *;generalize w.getD (d.length-1) 0=y at *;obtain⟨T,hT⟩:∃ T,T=x*4294967296+y:=⟨_,rfl⟩;rw[←hT]at ew ⊢;generalize Ad (w++[x])=W at *;generalize Ad d=Dv at *;generalize Ad (d.take (d.length-2))=vl at *;generalize Ad (w.take (d.length-2))=wl at *;generalize 4294967296 ^ (d.length-2)=P at *;have hm:=ApI T (show 0<f by omega);refine⟨SM c2 b1 b2 hf ed ew hW 2 _ _ (by rw[ApD];exact Nat.div_add_mod T f) ?_ (by omega) (by omega),Abc b1 ed ew hW⟩;have g:=Abb (Q:=4294967296*P) (f:=f) (dl:=v*P+vl) (T:=T) (ul:=ul*P+wl) ?_ (by omega)
 .rw[ed,ew]
  have e1:(T*4294967296+ul)*P+wl=T*(4294967296*P)+(ul*P+wl):=by rw[ApA,Apo];omega
  have e2:(f*4294967296+v)*P+vl=f*(4294967296*P)+(v*P+vl):=by rw[ApA,Apo];omega
  rw[e1,e2];exact g
 .have:(ul+1)*P<=4294967296*P:=Apj _ c3
  rw[ApA,Aqi]at this;omega
def tW(d w:List Nat)(x:Nat):Nat:=Do (gW d w x) 0 d+CL (gW d w x) 0 0 w d
def aW(d w:List Nat)(x:Nat):List Nat:=C8 (gW d w x) 0 0 w d
def aX(d w:List Nat)(x:Nat):Nat:=(x+4294967296-tW d w x) % 4294967296
theorem ZW{d w:List Nat}{x:Nat}(hd:Limbs d)(hw:Limbs (w++[x]))(hl:w.length=d.length)(h2:2<=d.length)(hf:2147483648<=d.getD (d.length-1) 0)(hW:Ad (w++[x])<Ad d*4294967296) :
  Limbs (aW d w x++[aX d w x])/\(aW d w x).length=d.length ∧
  (¬ x<tW d w x->Ad (aW d w x++[aX d w x])+gW d w x*Ad d=Ad (w++[x])/\Ad (aW d w x++[aX d w x])<Ad d) ∧
  (x<tW d w x->1<=gW d w x/\Limbs (CM 0 (aW d w x) d++[(aX d w x+Cy 0 (aW d w x) d) % 4294967296]) ∧
   Ad (CM 0 (aW d w x) d++[(aX d w x+Cy 0 (aW d w x) d) % 4294967296])+(gW d w x-1)*Ad d=Ad (w++[x]) ∧
   Ad (CM 0 (aW d w x) d++[(aX d w x+Cy 0 (aW d w x) d) % 4294967296])<Ad d):=by
 obtain⟨hG,_⟩:=TQ hd hw hl h2 hf hW;have hww:Limbs w:=λy hy=>hw y (by simp[hy])
 have hx:x<4294967296:=hw x (by simp);have la:(aW d w x).length=d.length:=Fj ..;have hA:=WO (m:=gW d w x) hww hd hl hG.lt hx;have hmod:=ApI (x+4294967296-tW d w x) (show 0<4294967296 by omega);have hLm:Limbs (aW d w x++[aX d w x]):=Cr (Gm _ 0 0 w d hww (ApM _)) (A5 hmod Bz);have hS:=Zy hl la hd rfl rfl hG hLm hA;have haw:Limbs (aW d w x):=Gm _ 0 0 w d hww (ApM _);have hB:=WT (ul:=aX d w x) haw hd la hmod;refine⟨hLm,la,hS.1,λh=>?_⟩;obtain⟨h3,h4,h5⟩:=hS.2 h;refine⟨h3,Cr (Gn 0 _ _) (A5 (ApI _ (by omega)) Bz),?_⟩;rw[hB];exact⟨h4,h5⟩
section
variable {D:Orc} (K:Knows C6 GS D)
include K
theorem Ahl{d:List Nat}(hd:Limbs d){m:Nat}(hm:m<4294967296){A w Z:List Nat}{x:Nat}(hU:Limbs (A++(w++[x])++Z))(hl:w.length=d.length)(hUl:(A++(w++[x])++Z).length<=1000000000) :
  D.ask (.fn 240) [.sl 0 A.length (d.length+1) 1,eN d,.v (.int .u64 (m:Int))] [Ξ (Ai eL (A++(w++[x])++Z)) true true]
   = some (bv (decide (x<Do m 0 d+CL m 0 0 w d)),[.set (Ξ (Ai eL (A++(C8 m 0 0 w d++[(x+4294967296-(Do m 0 d+CL m 0 0 w d)) % 4294967296])++Z)) true true)]):=by
 have hlen:A.length+d.length<(A++(w++[x])++Z).length:=by simp;omega
 have g:=RK K hd hm hU hlen hUl;have e1:(A++(w++[x])++Z).take A.length=A:=by rw[Ao9,AqR];rfl
 have e2:((A++(w++[x])++Z).drop A.length).take d.length=w:=by
  rw[Ao9,Aq9 rfl,Ao9,AqR hl]
 have e3:(A++(w++[x])++Z)[A.length+d.length]=x:=by
  have:(A++(w++[x])++Z)[A.length+d.length]? = some x:=by
   rw[Ao9,Apk (by omega),AqG,Ao9,Apk (by omega),hl,Arf];rfl
  rw[Ψ hlen]at this;injection this
 have e4:(A++(w++[x])++Z).drop (A.length+(d.length+1))=Z:=by
  rw[Aq9 (by simp;omega)]
 rw[LI,LK,e1,e2,e3,e4]at g;exact g
theorem Ahm{d:List Nat}(hd:Limbs d){A w Z:List Nat}{x:Nat}(hU:Limbs (A++(w++[x])++Z))(hl:w.length=d.length)(hUl:(A++(w++[x])++Z).length<=1000000000) :
  D.ask (.fn 241) [.sl 0 A.length (d.length+1) 1,eN d] [Ξ (Ai eL (A++(w++[x])++Z)) true true]
   = some (.tup [],[.set (Ξ (Ai eL (A++(CM 0 w d++[(x+Cy 0 w d) % 4294967296])++Z)) true true)]):=by
 have hlen:A.length+d.length<(A++(w++[x])++Z).length:=by simp;omega
 have g:=S9 K hd hU hlen hUl;have e1:(A++(w++[x])++Z).take A.length=A:=by rw[Ao9,AqR];rfl
 have e2:((A++(w++[x])++Z).drop A.length).take d.length=w:=by
  rw[Ao9,Aq9 rfl,Ao9,AqR hl]
 have e3:(A++(w++[x])++Z)[A.length+d.length]=x:=by
  have:(A++(w++[x])++Z)[A.length+d.length]? = some x:=by
   rw[Ao9,Apk (by omega),AqG,Ao9,Apk (by omega),hl,Arf];rfl
  rw[Ψ hlen]at this;injection this
 have e4:(A++(w++[x])++Z).drop (A.length+(d.length+1))=Z:=by
  rw[Aq9 (by simp;omega)]
 rw[LN,LM,e1,e2,e3,e4]at g;exact g
theorem Abd{d:List Nat}(hd:Limbs d){A w Z:List Nat}{x:Nat}(hU:Limbs (A++(w++[x])++Z))(hl:w.length=d.length)(hdl:d.length<=1000000000)(h2:2<=d.length)(hf:2147483648<=d.getD (d.length-1) 0){n:Nat}(hn:d.length<n)(hou:A.length+n<=(A++(w++[x])++Z).length)
  (hT:x*4294967296+w.getD (d.length-1) 0<=d.getD (d.length-1) 0*4294967296+d.getD (d.length-2) 0) :
  D.ask (.fn 239) [.sl 0 A.length n 1,eN d] [Ξ (Ai eL (A++(w++[x])++Z)) true true]=some (.v (.int .u64 (gW d w x:Int)),[.keep]):=by
 have d1:d.length-1<d.length:=by omega
 have d2:d.length-2<d.length:=by omega
 have w1:d.length-1<w.length:=by omega
 have w2:d.length-2<w.length:=by omega
 have u0:A.length+d.length<(A++(w++[x])++Z).length:=by simp;omega
 have u1:A.length+(d.length-1)<(A++(w++[x])++Z).length:=by simp;omega
 have u2:A.length+(d.length-2)<(A++(w++[x])++Z).length:=by simp;omega
 have at0:(A++(w++[x])++Z)[A.length+d.length]=x:=by
  have:(A++(w++[x])++Z)[A.length+d.length]? = some x:=by
   rw[Ao9,Apk (by omega),AqG,Ao9,Apk (by omega),hl,Arf];rfl
  rw[Ψ u0]at this;injection this
 have atw:∀ i (h:A.length+i<(A++(w++[x])++Z).length) (hi:i<w.length),(A++(w++[x])++Z)[A.length+i]=w.getD i 0:=λi h hi=>by
  have:(A++(w++[x])++Z)[A.length+i]? = some w[i]:=by
   rw[Ao9,Apk (by omega),AqG,Ao9,List.getElem?_append_left hi,Ψ hi]
  rw[Ψ h]at this;injection this with this
  rw[this,Cl hi]
 have g:=SN K hd hU h2 hdl hn hou d1 d2 u0 u1 u2 (by rw[←Cl d1];exact hf) (by rw[at0,atw _ u1 w1,←Cl d1,←Cl d2];exact hT);rw[at0,atw _ u1 w1,atw _ u2 w2,←Cl d1,←Cl d2]at g;exact g
end
theorem Pd{l h n:Nat}(h1:l<=h)(h2:h<=n):IK l h n=true:=by
 unfold IK;rw[show Apa l h=true by simpa using h1];simpa using h2
theorem RW(A v Z:List Nat):Ad (A++v++Z)=Ad A+4294967296 ^ A.length*(Ad v+4294967296 ^ v.length*Ad Z):=by
 rw[Ao9,Bw,Bw]
theorem Ae3{U:List Nat}{i n:Nat}(h:i+n<U.length):U=U.take i++((U.drop i).take n++[U[i+n]])++U.drop (i+n+1):=by
 have e:(U.drop i).take n++[U[i+n]]=(U.drop i).take (n+1):=by
  rw[ApC (by rw[AqA];omega),List.getElem_drop]
 rw[e,Ao9];have:U.drop (i+n+1)=(U.drop i).drop (n+1):=by rw[Aq3,Nat.add_assoc]
 rw[this,Ap5,Ap5]
theorem AeG{q:List Nat}{k v:Nat}(h:k<q.length){q2:List Nat}(hl:q2.length=q.length)(h2:q2.drop k=(q.set k v).drop k):Ad (q2.take (k+1))=Ad (q2.take k)+4294967296 ^ k*v:=by
 have hk:k<q2.length:=by omega
 have e:q2[k]=v:=by
  have h3:(q2.drop k).headD 0=((q.set k v).drop k).headD 0:=by rw[h2]
  rw[ω hk,ω (l:=q.set k v) (by rw[Apl];exact h),Aqp,Aqp,List.getElem_set_self]at h3;exact h3
 rw[ApC hk,Bw,Apg,ApL (by omega),e];simp[Ad]
section
variable {D:Orc} (K:Knows C6 GS D)
include K
theorem Ab8{d:List Nat}(hd:Limbs d)(h2:2<=d.length)(hf:2147483648<=d.getD (d.length-1) 0)(s:Int):∀(k:Nat) (q U:List Nat),k<=q.length->U.length=q.length+d.length->U.length<=1000000000->Limbs q->Limbs U->Ad (U.drop k)<Ad d->
  ∃ q' U':List Nat,D.ask (.lp 204 0) [.sl 0 0 q.length 1,iv s,eN d,.sl 1 0 U.length 1,iv (d.length:Int),iv ((k:Int)-1)] [Ξ (Ai eL q) true true,Ξ (Ai eL U) true true]
   = some (.tup [iv 0,.sl 2 0 q.length 1,iv s,.sl 3 0 U.length 1,iv (d.length:Int)],[.del,.del,.set (Ξ (Ai eL q') true true),.set (Ξ (Ai eL U') true true)]) ∧
   q'.length=q.length/\U'.length=U.length/\Limbs q'/\Limbs U'/\q'.drop k=q.drop k/\Ad U'<Ad d/\Ad U=Ad (q'.take k)*Ad d+Ad U':=by
 intro k
 induction k with
 |zero=>
  intro q U hk hl hm hq hU hv;refine⟨q,U,?_,rfl,rfl,hq,hU,rfl,by simpa using hv,by simp[Ad]⟩;refine K.lp' Jv _ rfl (by kernel_rfl) ((O3 ..).trans ?_);exact OS (by omega)
 |succ k ih=>
  intro q U hk hl hm hq hU hv;have hin:k+d.length<U.length:=by omega
  have hcut:=Ae3 hin;obtain⟨A,hA⟩:∃ A,A=U.take k:=⟨_,rfl⟩;obtain⟨w,hw⟩:∃ w,w=(U.drop k).take d.length:=⟨_,rfl⟩;obtain⟨x,hx⟩:∃ x,x=U[k+d.length]:=⟨_,rfl⟩;obtain⟨Z,hZ⟩:∃ Z,Z=U.drop (k+d.length+1):=⟨_,rfl⟩;rw[←hA,←hw,←hx,←hZ]at hcut;have hAl:A.length=k:=by rw[hA,Apg];omega
  have hwl:w.length=d.length:=by rw[hw,Apg,AqA];omega
  have hAL:Limbs A:=by rw[hA];exact hU.take _
  have hZL:Limbs Z:=by rw[hZ];exact hU.drop _
  have hwL:Limbs (w++[x]):=by rw[hw,hx];exact Cr ((hU.drop _).take _) (A5 (hU.get hin) Bz)
  have hdv:=Bm hd;have hUd:U.drop k=(w++[x])++Z:=by rw[hcut,Ao9,Aq9 hAl]
  have hUd1:(U.drop (k+1))=((w++[x]).drop 1)++Z:=by
   rw[show U.drop (k+1)=(U.drop k).drop 1 by rw[Aq3],hUd,List.drop_append_of_le_length (by simp)]
  have hZ0:Ad Z=0:=by
   rw[hUd1,Bw,AqA,η,Apm,hwl,AqO]at hv;rcases Aqh (Ad Z) with e|e
   .exact e
   .exfalso
    have:4294967296 ^ d.length*1<=4294967296 ^ d.length*Ad Z:=AqC _ e;omega
  have hWD:Ad (w++[x])<Ad d*4294967296:=by
   obtain⟨y,hy⟩:∃ y,(w++[x])=y::(w++[x]).drop 1:=by
    cases w with
    |nil=>exact⟨x,rfl⟩
    |cons a w=>exact⟨a,rfl⟩
   have hy1:y<4294967296:=hwL y (by rw[hy];exact List.mem_cons_self ..);have hv1:Ad ((w++[x]).drop 1)<Ad d:=by
    rw[hUd1,Bw,hZ0]at hv;omega
   rw[hy,Ad,AsR];rw[AsR]at hv1;omega
  obtain⟨hG,hT⟩:=TQ hd hwL hwl h2 hf hWD;obtain⟨hLm,la,hnb,hbk⟩:=ZW hd hwL hwl h2 hf hWD;have hglt:=hG.lt;have hUlen:(A++(w++[x])++Z).length=U.length:=by rw[←hcut]
  have hU2:Limbs (A++(w++[x])++Z):=by rw[←hcut];exact hU
  have gg:=Abd K hd hU2 hwl (by omega) h2 hf (n:=U.length-k) (by omega) (by rw[hUlen,hAl];omega) hT;have ga:=Ahl K hd hglt hU2 hwl (by omega);rw[hAl,←hcut]at gg ga;have hLen1:(A++(aW d w x++[aX d w x])++Z).length=U.length:=by
   rw[←hUlen];simp only[η,Apm,la,hwl]
  have key:∀(g:Nat) (v:List Nat),g<4294967296->v.length=d.length+1->Limbs v->Ad v+g*Ad d=Ad (w++[x])->Ad v<Ad d->
    ∃ q' U':List Nat,D.ask (.lp 204 0) [.sl 0 0 q.length 1,iv s,eN d,.sl 1 0 U.length 1,iv (d.length:Int),iv ((k:Int)-1)] [Ξ (Ai eL (q.set k g)) true true,Ξ (Ai eL (A++v++Z)) true true]
     = some (.tup [iv 0,.sl 2 0 q.length 1,iv s,.sl 3 0 U.length 1,iv (d.length:Int)],[.del,.del,.set (Ξ (Ai eL q') true true),.set (Ξ (Ai eL U') true true)]) ∧
     q'.length=q.length/\U'.length=U.length/\Limbs q'/\Limbs U'/\q'.drop (k+1)=q.drop (k+1)/\Ad U'<Ad d/\Ad U=Ad (q'.take (k+1))*Ad d+Ad U':=λg v hg hvl hvL he hlt=>by
   have hl1:(A++v++Z).length=U.length:=by
    rw[←hUlen];simp only[η,Apm,hvl,hwl]
   obtain⟨q',U',h1,h3,h4,h5,h6,h7,h8,h9⟩:=ih (q.set k g) (A++v++Z) (by rw[Apl];omega) (by rw[hl1,Apl];exact hl) (by omega) (Hc hq hg) (Cr (Cr hAL hvL) hZL) (by
    rw[Ao9,Aq9 hAl,Bw,hZ0];omega)
   rw[Apl]at h1 h3;rw[hl1]at h1 h4;refine⟨q',U',h1,h3,h4,h5,h6,?_,h8,?_⟩
   .have:=congrArg (ι 1) h7
    rw[Aq3,Aq3,List.drop_set_of_lt (by omega)]at this;exact this
   .have hqk:k<q.length:=by omega
    rw[AeG hqk h3 h7,ApA];have e1:Ad U=Ad A+4294967296 ^ k*Ad (w++[x]):=by
     conv=>lhs;rw[hcut]
     rw[RW,hZ0,hAl];simp
    rw[RW,hZ0,hAl]at h9;rw[e1,←he,ApW,Apo];simp only[Arl,ApJ]at h9;omega
  have hqk:k<q.length:=by omega
  have hblt:ApR k q.length=true:=BB hqk;have hble:Apa (0+k*1+1) (Ai eL q).length=true:=by rw[AT AA];simp;omega
  have hin1:IK k U.length U.length=true:=Pd (by omega) (by omega);have hin2:IK k (k+d.length+1) U.length=true:=Pd (by omega) (by omega);have hsub:Ag.sub .i64 (k:Int) 1=(k:Int)-1:=C4 (by omega) (by omega);have hadd:Ag.add .i64 (Ag.add .i64 (k:Int) (d.length:Int)) 1=((k+d.length+1:Nat):Int):=by
   rw[WH (by omega),BC (by omega)]
  have h0k:0+k*1=k:=by omega
  by_cases hb:x<tW d w x
  .obtain⟨hg1,hL2,he,hlt⟩:=hbk hb
   have gb:=Ahm K hd (A:=A) (Z:=Z) (w:=aW d w x) (x:=aX d w x) (Cr (Cr hAL hLm) hZL) la (by omega);rw[hAl]at gb;obtain⟨q',U',h1,hr⟩:=key (gW d w x-1) _ (by omega) (by rw[η,DT,Apm]) hL2 he hlt;refine⟨q',U',?_,hr⟩;refine K.lp' Jv _ rfl (by kernel_rfl) ((O3 ..).trans ?_);rw[show (((k+1:Nat):Int)-1)=(k:Int) by omega];refine BW (by omega) ?_;rw[Av,hin1,h0k];refine Ae ?_;refine Aa gg ?_;simp only[NH,ND,DK,Ab];rw[hadd,Av,Av,hin2,h0k,show k+d.length+1-k=d.length+1 by omega];refine Ae ?_;refine Aa ga ?_;simp only[ND,DK,Ab];rw[decide_eq_true (show x<Do (gW d w x) 0 d+CL (gW d w x) 0 0 w d from hb)];refine Ae ?_;rw[Av,Av,hin2,h0k,show k+d.length+1-k=d.length+1 by omega];refine Ae ?_;refine Aa gb ?_;simp only[ND,DK,Ab];rw[Av,hblt,hble];refine Ae ?_;refine Ae ?_;rw[show Ag.sub .u64 (gW d w x:Int) 1=((gW d w x-1:Nat):Int) from DH (y:=1) hg1 (by omega),Bu (by omega),show 0+k*1=0+(0+k)*1 by omega,CJ _ _ _ (by omega),Apy,hsub];refine Aa h1 ?_;rfl
  .obtain⟨he,hlt⟩:=hnb hb
   obtain⟨q',U',h1,hr⟩:=key (gW d w x) _ hglt (by rw[η,la,Apm]) hLm he hlt;refine⟨q',U',?_,hr⟩;refine K.lp' Jv _ rfl (by kernel_rfl) ((O3 ..).trans ?_);rw[show (((k+1:Nat):Int)-1)=(k:Int) by omega];refine BW (by omega) ?_;rw[Av,hin1,h0k];refine Ae ?_;refine Aa gg ?_;simp only[NH,ND,DK,Ab];rw[hadd,Av,Av,hin2,h0k,show k+d.length+1-k=d.length+1 by omega];refine Ae ?_;refine Aa ga ?_;simp only[ND,DK,Ab];rw[decide_eq_false (show ¬ x<Do (gW d w x) 0 d+CL (gW d w x) 0 0 w d from hb)];refine B8 ?_;rw[Av,hblt,hble];refine Ae ?_;refine Ae ?_;rw[Bu (by omega),show 0+k*1=0+(0+k)*1 by omega,CJ _ _ _ (by omega),Apy,hsub];refine Aa h1 ?_;rfl
end
def Ab6:ByteArray:=CV [0,1,2,2,3,3,3,3,4,4,4,4,4,4,4,4,5,5,5,5,5,5,5,5,5,5,5,5,5,5,5,5,6,6,6,6,6,6,6,6,6,6,6,6,6,6,6,6,6,6,6,6,6,6,6,6,6,6,6,6,6,6,6,6,7,7,7,7,7,7,7,7,7,7,7,7,7,7,7,7,7,7,7,7,7,7,7,7,7,7,7,7,7,7,7,7,7,7,7,7,7,7,7,7,7,7,7,7,7,7,7,7,7,7,7,7,7,7,7,7,7,7,7,7,7,7,7,7,8,8,8,8,8,8,8,8,8,8,8,8,8,8,8,8,8,8,8,8,8,8,8,8,8,8,8,8,8,8,8,8,8,8,8,8,8,8,8,8,8,8,8,8,8,8,8,8,8,8,8,8,8,8,8,8,8,8,8,8,8,8,8,8,8,8,8,8,8,8,8,8,8,8,8,8,8,8,8,8,8,8,8,8,8,8,8,8,8,8,8,8,8,8,8,8,8,8,8,8,8,8,8,8,8,8,8,8,8,8,8,8,8,8,8,8,8,8,8,8,8,8,8,8,8,8,8,8]
def Ago(b:Nat):Bool:=match Ag.sat Ab6 b with
 |.ofNat t=>b == 0||(Apa 1 t&&(Apa t 8&&(Apa (2 ^ (t-1)) b&&ApR b (2 ^ t))))
 |_=>false
theorem Ab7:(List.range 256).all Ago=true:=by kernel_rfl
theorem Pn{b:Nat}(h:b<256)(h0:0<b):∃ t:Nat,Ag.sat Ab6 b=(t:Int)/\1<=t/\t<=8/\2 ^ (t-1)<=b/\b<2 ^ t:=by
 have:=List.all_eq_true.1 Ab7 b (List.mem_range.2 h);unfold Ago at this;split at this
 .rename_i t ht
  rw[Bool.or_eq_true,beq_iff_eq,Ape,Ape,Ape]at this;rcases this with h1|⟨h1,h2,h3,h4⟩
  .omega
  .have h5:b+1<=2 ^ t:=by simpa[ApR]using h4
   exact⟨t,ht,by simpa using h1,by simpa using h2,by simpa using h3,h5⟩
 .exact absurd this (by decide)
theorem Aid:Ag.slen Ab6=256:=by kernel_rfl
theorem Lq{x:Nat}(h:x<256):Ag.conv .u8 (x:Int)=(x:Int):=by
 show IntKind.u8.wrap (x:Int)=_
 have e:IntKind.u8.wrap (x:Int)=(x:Int) % 256:=by simp[IntKind.wrap,IntKind.bits,IntKind.signed]
 rw[e];omega
theorem Lr{x:Nat}(h:x<256):Ag.conv .i64 (x:Int)=(x:Int):=by
 show IntKind.i64.wrap (x:Int)=_
 rw[IntKind.wrap_i64];omega
theorem SX{x t:Nat}(k:Nat)(h1:1<=t)(h3:2 ^ (t-1)<=x / 2 ^ k)(h4:x / 2 ^ k<2 ^ t):2 ^ (k+t-1)<=x/\x<2 ^ (k+t):=by
 have hp:=AsM k;rw[show k+t-1=(t-1)+k by omega,show k+t=t+k by omega,Aq1,Aq1];exact⟨(Nat.le_div_iff_mul_le hp).1 h3,(Nat.div_lt_iff_lt_mul hp).1 h4⟩
section
variable {D:Orc} (K:Knows C6 GS D)
include K
theorem Yu{x:Nat}(h:x<4294967296)(h0:0<x):∃ L:Nat,D.ask (.fn 222) [.v (.int .u32 (x:Int))] []=some (iv (L:Int),[])/\1<=L/\L<=32/\2 ^ (L-1)<=x/\x<2 ^ L:=by
 have e:=AjF Ag D (x:Int);rw[show CV [0,1,2,2,3,3,3,3,4,4,4,4,4,4,4,4,5,5,5,5,5,5,5,5,5,5,5,5,5,5,5,5,6,6,6,6,6,6,6,6,6,6,6,6,6,6,6,6,6,6,6,6,6,6,6,6,6,6,6,6,6,6,6,6,7,7,7,7,7,7,7,7,7,7,7,7,7,7,7,7,7,7,7,7,7,7,7,7,7,7,7,7,7,7,7,7,7,7,7,7,7,7,7,7,7,7,7,7,7,7,7,7,7,7,7,7,7,7,7,7,7,7,7,7,7,7,7,7,8,8,8,8,8,8,8,8,8,8,8,8,8,8,8,8,8,8,8,8,8,8,8,8,8,8,8,8,8,8,8,8,8,8,8,8,8,8,8,8,8,8,8,8,8,8,8,8,8,8,8,8,8,8,8,8,8,8,8,8,8,8,8,8,8,8,8,8,8,8,8,8,8,8,8,8,8,8,8,8,8,8,8,8,8,8,8,8,8,8,8,8,8,8,8,8,8,8,8,8,8,8,8,8,8,8,8,8,8,8,8,8,8,8,8,8,8,8,8,8,8,8,8,8,8,8,8,8]=Ab6 from rfl,Aid]at e;have s16:Ag.shr .u32 (x:Int) 16=((x / 65536:Nat):Int):=PI (k:=.u32) (r:=16) (by decide);have s8:∀ y:Nat,Ag.shr .u32 (y:Int) 8=((y / 256:Nat):Int):=λy=>PI (k:=.u32) (r:=8) (by decide)
 rw[s16,s8,s8]at e
 by_cases h16:65536<=x
 .by_cases h8:256<=x / 65536
  .obtain⟨t,ht,h1,h2,h3,h4⟩:=Pn (b:=x / 65536 / 256) (by omega) (by omega)
   rw[show x / 65536 / 256=x / 2 ^ 24 by rw[Nat.div_div_eq_div_mul]]at h3 h4;obtain⟨h5,h6⟩:=SX 24 h1 h3 h4;refine⟨24+t,?_,by omega,by omega,h5,h6⟩;refine K.fn' Ms _ rfl (e.trans ?_);refine BW (by omega) ?_;refine Ak (by decide) ?_;refine BW (by omega) ?_;refine Ak (by decide) ?_;rw[Lq (by omega),Av,show ApR (x / 65536 / 256) 256=true from BB (by omega)];refine Ae ?_;rw[ht,Lr (by omega),Ef (a:=16) (b:=8) (by decide) (by decide),Ef (by omega) (by omega)];rw[show (16:Int)+8+(t:Int)=((24+t:Nat):Int) by omega]
  .obtain⟨t,ht,h1,h2,h3,h4⟩:=Pn (b:=x / 65536) (by omega) (by omega)
   obtain⟨h5,h6⟩:=SX 16 h1 h3 h4;refine⟨16+t,?_,by omega,by omega,h5,h6⟩;refine K.fn' Ms _ rfl (e.trans ?_);refine BW (by omega) ?_;refine Ak (by decide) ?_;refine Ca (by omega) ?_;rw[Lq (by omega),Av,show ApR (x / 65536) 256=true from BB (by omega)];refine Ae ?_;rw[ht,Lr (by omega),Ef (by omega) (by omega)];rw[show (16:Int)+(t:Int)=((16+t:Nat):Int) by omega]
 .by_cases h8:256<=x
  .obtain⟨t,ht,h1,h2,h3,h4⟩:=Pn (b:=x / 256) (by omega) (by omega)
   obtain⟨h5,h6⟩:=SX 8 h1 h3 h4;refine⟨8+t,?_,by omega,by omega,h5,h6⟩;refine K.fn' Ms _ rfl (e.trans ?_);refine Ca (by omega) ?_;refine BW (by omega) ?_;refine Ak (by decide) ?_;rw[Lq (by omega),Av,show ApR (x / 256) 256=true from BB (by omega)];refine Ae ?_;rw[ht,Lr (by omega),Ef (a:=0) (b:=8) (by decide) (by decide),Ef (by omega) (by omega)];rw[show (0:Int)+8+(t:Int)=((8+t:Nat):Int) by omega]
  .obtain⟨t,ht,h1,h2,h3,h4⟩:=Pn (b:=x) (by omega) (by omega)
   refine⟨t,?_,by omega,by omega,h3,h4⟩;refine K.fn' Ms _ rfl (e.trans ?_);refine Ca (by omega) ?_;refine Ca (by omega) ?_;rw[Lq (by omega),Av,show ApR x 256=true from BB (by omega)];refine Ae ?_;rw[ht,Lr (by omega),Ef (by omega) (by omega),Int.zero_add]
theorem Ak9{x:Nat}(h:x<4294967296)(h0:0<x):∃ s:Nat,D.ask (.fn 237) [.v (.int .u32 (x:Int))] []=some (iv (s:Int),[])/\s<=31/\2147483648<=x*2 ^ s/\x*2 ^ s<4294967296:=by
 obtain⟨L,g,h1,h2,h3,h4⟩:=Yu K h h0;have hp:=AsM (32-L);refine⟨32-L,?_,by omega,?_,?_⟩
 .refine K.fn' X5 _ rfl ((AjH ..).trans ?_)
  refine Aa g ?_;simp only[ND,DK,Ab];rw[C4 (by omega) (by omega),show (32:Int)-(L:Int)=((32-L:Nat):Int) by omega]
 .have:2 ^ (L-1)*2 ^ (32-L)<=x*2 ^ (32-L):=Apj _ h3
  rw[←Aq1,show L-1+(32-L)=31 by omega]at this;exact this
 .have:x*2 ^ (32-L)<2 ^ L*2 ^ (32-L):=AqX h4 hp
  rw[←Aq1,show L+(32-L)=32 by omega]at this;exact this
end
theorem Tt{l:List Nat}(h:Limbs l)(h0:0<l.length):4294967296 ^ (l.length-1)*l.getD (l.length-1) 0<=Ad l/\Ad l<4294967296 ^ (l.length-1)*(l.getD (l.length-1) 0+1):=by
 have hk:l.length-1<l.length:=by omega
 have e:l=l.take (l.length-1)++[l[l.length-1]]:=by
  rw[←ApC hk,ApZ (by omega)]
 have hv:=congrArg Ad e;rw[Bw,Apg,ApL (by omega)]at hv;have hb:=Bm (h.take (l.length-1));rw[Apg,ApL (by omega)]at hb;rw[Cl hk];simp only[Ad,Arl,ApJ]at hv;rw[ApW,AqP];omega
theorem Dq{b:Nat}(h:0<(Ah b).length):4294967296 ^ ((Ah b).length-1)<=b/\b<4294967296 ^ (Ah b).length:=by
 refine⟨?_,?_⟩
 .by_cases h1:4294967296 ^ ((Ah b).length-1)<=b
  .exact h1
  .have:=A1 (n:=b) (k:=(Ah b).length-1) (by omega)
   omega
 .have:=Bm (Al b)
  rwa [Ax]at this
theorem Q9{n k:Nat}(h1:4294967296 ^ k<=n)(h2:n<4294967296 ^ (k+1)):(Ah n).length=k+1:=by
 have:=GD h1;have:=A1 h2;omega
theorem AeV{b:Nat}(h:0<(Ah b).length):0<(Ah b).getD ((Ah b).length-1) 0:=by
 have h1:=(Tt (Al b) h).2;have h2:=(Dq h).1;rw[Ax]at h1;rcases Aqh ((Ah b).getD ((Ah b).length-1) 0) with e|e
 .rw[e]at h1
  omega
 .exact e
theorem AiO{b s:Nat}(hb:0<(Ah b).length)(hs:s<=31)(h1:2147483648<=(Ah b).getD ((Ah b).length-1) 0*2 ^ s)(h2:(Ah b).getD ((Ah b).length-1) 0*2 ^ s<4294967296) :
  (Ah (b*2 ^ s)).length=(Ah b).length/\2147483648<=(Ah (b*2 ^ s)).getD ((Ah b).length-1) 0/\4294967296 ^ ((Ah b).length-1)*2 ^ s<=b*2 ^ s:=by
 obtain⟨p0,p31,pq⟩:=MS hs;obtain⟨t1,t2⟩:=Tt (Al b) hb;rw[Ax]at t1 t2;have hB:=(Dq hb).1;generalize (Ah b).getD ((Ah b).length-1) 0=t at *;obtain⟨n,hn⟩:∃ n,(Ah b).length=n+1:=⟨(Ah b).length-1,by omega⟩;rw[hn,AqO]at t1 t2 hB ⊢;have hP:0<4294967296 ^ n:=Nat.pow_pos (by omega);have ht:(t+1)*2 ^ s<=4294967296:=by
  have:t<2 ^ (32-s):=by
   rw[←pq,ApD]at h2;exact Arh h2
  have:=AqC (2 ^ s) this;rw[pq,ApD]at this;exact this
 have lo:4294967296 ^ n*2147483648<=b*2 ^ s:=by
  have h3:4294967296 ^ n*(t*2 ^ s)<=b*2 ^ s:=by
   rw[←Apo];exact Apj _ t1
  exact Apx (AqC _ h1) h3
 have hi:b*2 ^ s<4294967296 ^ (n+1):=by
  have h3:b*2 ^ s<4294967296 ^ n*(t+1)*2 ^ s:=AqX t2 p0;rw[Apo]at h3;rw[ApU];exact Aqc h3 (AqC _ ht)
 have hlen:(Ah (b*2 ^ s)).length=n+1:=Q9 (by omega) hi;refine⟨hlen,?_,Apj _ hB⟩;have t3:=(Tt (Al (b*2 ^ s)) (by omega)).2;rw[Ax,hlen,AqO]at t3;have:=Arh (Asm lo t3);omega
theorem AiN{a s:Nat}(ha:0<(Ah a).length)(hs:s<=31):(Ah (a*2 ^ s)).length=(Ah a).length\/(Ah (a*2 ^ s)).length=(Ah a).length+1:=by
 obtain⟨p0,p31,pq⟩:=MS hs;obtain⟨h1,h2⟩:=Dq ha;have lo:4294967296 ^ ((Ah a).length-1)<=a*2 ^ s:=Apx h1 (Nat.le_mul_of_pos_right _ p0);have hi:a*2 ^ s<4294967296 ^ ((Ah a).length+1):=by
  rw[ApU];exact Aqc (AqX h2 p0) (AqC _ (by omega))
 have l1:=GD lo;have l2:=A1 hi;omega
theorem Zx{a b s:Nat}(hs:s<=31){U:List Nat}(hU:Ad U=a*2 ^ s)(hl:U.length=(Ah a).length+1)(hb:0<(Ah b).length)(hba:(Ah b).length<=(Ah a).length)(h3:4294967296 ^ ((Ah b).length-1)*2 ^ s<=b*2 ^ s) :
  Ad (U.drop (U.length-(Ah b).length))<b*2 ^ s:=by
 obtain⟨p0,p31,pq⟩:=MS hs;have ha:=(Dq (show 0<(Ah a).length by omega)).2;have e:=congrArg Ad (Ap5 (U.length-(Ah b).length) U);rw[Bw,Apg,ApL (by omega),hU]at e;refine Aqc ?_ h3;have h4:a*2 ^ s<4294967296 ^ (U.length-(Ah b).length)*(4294967296 ^ ((Ah b).length-1)*2 ^ s):=by
  rw[←Apo,←Aq1,show U.length-(Ah b).length+((Ah b).length-1)=(Ah a).length by omega];exact AqX ha p0
 exact Arh (Asm (by omega) h4)
section
variable {D:Orc} (K:Knows C6 GS D) (C:CloneF D)
include K C
theorem Ab9{a b:Nat}(ha:(Ah a).length<=999999990)(hb:2<=(Ah b).length)(hab:(Ah b).length<=(Ah a).length):D.ask (.fn 204) [eN (Ah a),eN (Ah b)] []=some (.tup [eN (Ah (a / b)),eN (Ah (a % b))],[]):=by
 have hb1:(Ah b).length-1<(Ah b).length:=by omega
 have htop:=(Al b).get hb1;have hpos:=AeV (b:=b) (by omega);rw[Cl hb1]at hpos;obtain⟨s,gz,h31,hz1,hz2⟩:=Ak9 K htop hpos;obtain⟨p0,p31,pq⟩:=MS h31;obtain⟨hdl,hdt,hdb⟩:=AiO (b:=b) (s:=s) (by omega) h31 (by rw[Cl hb1];exact hz1) (by rw[Cl hb1];exact hz2);have hal:=AiN (a:=a) (s:=s) (by omega) h31;have gb:=TX K C (Al b) (by omega) h31;have ga:=TX K C (Al a) (by omega) h31;rw[Ax]at gb ga;have rest:∀ U:List Nat,Limbs U->U.length=(Ah a).length+1->Ad U=a*2 ^ s->∃ q' U':List Nat,D.ask (.lp 204 0) [.sl 0 0 ((Ah a).length+1-(Ah b).length) 1,iv (s:Int),eN (Ah (b*2 ^ s)),.sl 1 0 U.length 1,iv ((Ah b).length:Int),iv ((((Ah a).length+1-(Ah b).length:Nat):Int)-1)] [Ξ (Ai eL (Aqj ((Ah a).length+1-(Ah b).length) 0)) true true,Ξ (Ai eL U) true true]
   = some (.tup [iv 0,.sl 2 0 ((Ah a).length+1-(Ah b).length) 1,iv (s:Int),.sl 3 0 U.length 1,iv ((Ah b).length:Int)],[.del,.del,.set (Ξ (Ai eL q') true true),.set (Ξ (Ai eL U') true true)]) ∧
   q'.length=(Ah a).length+1-(Ah b).length/\U'.length=U.length ∧
   D.ask (.fn 202) [eN q'] []=some (.sl 0 0 (Ah (a / b)).length 1,[.set (Ξ (Ai eL (Ah (a / b))) true true)]) ∧
   D.ask (.fn 242) [eN (U'.take (Ah b).length),iv (s:Int)] []=some (eN (Ah (a % b)),[]):=λU hU hUl hUv=>by
  have hst:=Zx h31 hUv hUl (show 0<(Ah b).length by omega) hab hdb;obtain⟨q',U',g1,g2,g3,g4,g5,g6,g7,g8⟩:=Ab8 K (Al (b*2 ^ s)) (by omega) (by rw[hdl];exact hdt) (s:Int) ((Ah a).length+1-(Ah b).length) (Aqj ((Ah a).length+1-(Ah b).length) 0) U (by simp) (by rw[Arb,hUl,hdl];omega) (by omega) (λx hx=>by rw[List.eq_of_mem_replicate hx];omega) hU (by rw[Ax,←hUl];exact hst);rw[Arb]at g1 g2;rw[hdl]at g1;rw[Ax]at g7 g8;rw[ApZ (by omega),hUv]at g8;have hq:Ad q'=a / b/\Ad U'=(a % b)*2 ^ s:=by
   have hbp:0<b*2 ^ s:=by omega
   have e1:a*2 ^ s / (b*2 ^ s)=Ad q':=by
    rw[g8,ApD,Nat.mul_add_div hbp,AqL g7,ApJ]
   have e2:a*2 ^ s % (b*2 ^ s)=Ad U':=by
    rw[g8,ApD,Nat.mul_add_mod,Ap1 g7]
   rw[Nat.mul_div_mul_right _ _ p0]at e1;rw[Nat.mul_mod_mul_right]at e2;exact⟨e1.symm,e2.symm⟩
  refine⟨q',U',g1,g2,g3,?_,?_⟩
  .have:=Fi K C (l:=q') (by unfold BD;omega) g4
   rwa [hq.1]at this
  .have ht:Ad (U'.take (Ah b).length)=Ad U':=by
    have e:=congrArg Ad (Ap5 (Ah b).length U');rw[Bw,Apg,ApL (by omega)]at e;have hbd:=(Dq (b:=b*2 ^ s) (by omega)).2;rw[hdl]at hbd;rcases Aqh (Ad (U'.drop (Ah b).length)) with h0|h0
    .rw[h0]at e;omega
    .exfalso
     have:4294967296 ^ (Ah b).length*1<=4294967296 ^ (Ah b).length*Ad (U'.drop (Ah b).length):=AqC _ h0;omega
   have:=VD K C (a:=U'.take (Ah b).length) (g5.take _) (by unfold BD;rw[Apg];omega) h31
   rwa [ht,hq.2,Nat.mul_div_cancel _ p0]at this
 refine K.fn' Jv _ rfl ((AjD ..).trans ?_);rw[Aj,show Ag.sub .i64 ((Ah b).length:Int) 1=(((Ah b).length-1:Nat):Int) from K9 (j:=1) (by omega) (by omega),Av,Aw (Ψ hb1)];simp only[eL,EN,ND,DK,Ab];refine Aa gz ?_;simp only[ND,DK,Ab];refine Aa gb ?_;simp only[ND,DK,Ab];refine Aa ga ?_;simp only[ND,DK,Ab];rcases hal with h|h
 .have hi:Ag.sub .i64 (Ag.add .i64 ((AF ((Ah a).map eL):Nat):Int) 1) ((Ah (a*2 ^ s)).length:Int)=((1:Nat):Int):=by
   rw[Aj,BC (by omega),h,K9 (by omega) (by omega)];simp
  have hU0:Ad (Ah (a*2 ^ s)++[0])=a*2 ^ s:=by
   rw[Bw,Ax];simp[Ad]
  obtain⟨q',U',gl,hql,hUl,gT,gR⟩:=rest (Ah (a*2 ^ s)++[0]) (Cr (Al _) (A5 (by omega) Bz)) (by simp[h]) hU0;rw[η,Apm]at gl hUl;rw[hi,Av];refine Ae ?_;refine B8 ?_;refine Ae ?_;rw[AL (by omega) (by omega),AJ AA (Ah (a*2 ^ s)) (by omega)];refine Ae ?_;refine Ae ?_;have hi2:Ag.sub .i64 (((Ah (a*2 ^ s)).length+1:Nat):Int) ((Ah (b*2 ^ s)).length:Int)=(((Ah a).length+1-(Ah b).length:Nat):Int):=by
   rw[h,hdl,K9 (by omega) (by omega)]
  have hi3:Ag.sub .i64 (((Ah a).length+1-(Ah b).length:Nat):Int) 1=(((Ah a).length+1-(Ah b).length:Nat):Int)-1:=C4 (by omega) (by omega);have hchk:Bh (Ah (b*2 ^ s)).length 1 (κ ((Ah (b*2 ^ s)).length*1) (Ai eL (Ah (b*2 ^ s))))=(Ah (b*2 ^ s)).map eL:=Bp AA _ rfl;have hcat:ι 0 (κ (0+(Ah (a*2 ^ s)).length*1) (Ai eL (Ah (a*2 ^ s))))++BM [.v (.int .u32 0)] (1*1)=Ai eL (Ah (a*2 ^ s)++[0]):=by
   rw[List.drop_zero,Bf AA _ (by omega),G0];exact Bc eL _ 0
  rw[hi2,Av,Av,show Apa ((Ah a).length+1-(Ah b).length) ((Ah a).length+1-(Ah b).length)=true by simp];refine Ae ?_;rw[AL (by omega) (by omega)];refine Ae ?_;rw[AJ AA _ (by omega)];refine Ae ?_;rw[hchk,hi3,hcat,G0,hdl];refine Aa gl ?_;simp only[ND,DK,Ab];rw[AJ AA q' (by omega)];refine Ae ?_;rw[Bp AA q' hql.symm];refine Aa gT ?_;simp only[ND,DK,Ab];rw[Av,Pd (ApM _) (by omega)];refine Ae ?_;have hU1:κ ((Ah b).length*1) (Ai eL U')=Ai eL (U'.take (Ah b).length):=by
   rw[AqP,DM,DM,ArN]
  rw[show Apa (0+(Ah b).length*1) (Ai eL U').length=true by rw[AT AA];simp;omega];refine Ae ?_;rw[hU1,←Bf AA (U'.take (Ah b).length) (n:=(Ah b).length*1) (by simp;omega),Bp AA (U'.take (Ah b).length) (by rw[Apg];omega)];refine Aa gR ?_;simp only[eN,ND,DK,Ab];rw[AJ AA _ (by omega)];refine Ae ?_;rw[Bp AA _ rfl]
 .have hi:Ag.sub .i64 (Ag.add .i64 ((AF ((Ah a).map eL):Nat):Int) 1) ((Ah (a*2 ^ s)).length:Int)=((0:Nat):Int):=by
   rw[Aj,BC (by omega),h,K9 (by omega) (by omega)];simp
  obtain⟨q',U',gl,hql,hUl,gT,gR⟩:=rest (Ah (a*2 ^ s)) (Al _) h (Ax _);rw[hi,Av];refine Ae ?_;refine Ae ?_;have hi2:Ag.sub .i64 ((Ah (a*2 ^ s)).length:Int) ((Ah (b*2 ^ s)).length:Int)=(((Ah a).length+1-(Ah b).length:Nat):Int):=by
   rw[h,hdl,K9 (by omega) (by omega)]
  have hi3:Ag.sub .i64 (((Ah a).length+1-(Ah b).length:Nat):Int) 1=(((Ah a).length+1-(Ah b).length:Nat):Int)-1:=C4 (by omega) (by omega);have hchk:Bh (Ah (b*2 ^ s)).length 1 (κ ((Ah (b*2 ^ s)).length*1) (Ai eL (Ah (b*2 ^ s))))=(Ah (b*2 ^ s)).map eL:=Bp AA _ rfl;rw[hi2,Av,Av,show Apa ((Ah a).length+1-(Ah b).length) ((Ah a).length+1-(Ah b).length)=true by simp];refine Ae ?_;rw[AL (by omega) (by omega)];refine Ae ?_;rw[AJ AA _ (by omega)];refine Ae ?_;rw[hchk,hi3,G0,hdl];refine Aa gl ?_;simp only[ND,DK,Ab];rw[AJ AA q' (by omega)];refine Ae ?_;rw[Bp AA q' hql.symm];refine Aa gT ?_;simp only[ND,DK,Ab];rw[Av,Pd (ApM _) (by omega)];refine Ae ?_;have hU1:κ ((Ah b).length*1) (Ai eL U')=Ai eL (U'.take (Ah b).length):=by
   rw[AqP,DM,DM,ArN]
  rw[show Apa (0+(Ah b).length*1) (Ai eL U').length=true by rw[AT AA];simp;omega];refine Ae ?_;rw[hU1,←Bf AA (U'.take (Ah b).length) (n:=(Ah b).length*1) (by simp;omega),Bp AA (U'.take (Ah b).length) (by rw[Apg];omega)];refine Aa gR ?_;simp only[eN,ND,DK,Ab];rw[AJ AA _ (by omega)];refine Ae ?_;rw[Bp AA _ rfl]
theorem Aha{a b:List Nat}(ha:Limbs a)(hal:a.length<=999999990)(hb:Limbs b)(hbl:b.length<=999999990):D.ask (.fn 144) [eN a,eN b] []
  = some (if Ad b=0 then .tup [.ls [],.ls [],iv 10] else .tup [eN (Ah (Ad a / Ad b)),eN (Ah (Ad a % Ad b)),iv 0],[]):=by
 have la:(Ah (Ad a)).length<=999999990:=by rw[Cs a ha];have:=BZ a;omega
 have lb:(Ah (Ad b)).length<=999999990:=by rw[Cs b hb];have:=BZ b;omega
 refine K.fn' X0 _ rfl ((Ajx ..).trans ?_);refine Aa (EL K (by unfold BD;omega) ha) ?_;simp only[eN,ND,DK,Ab];refine Aa (EL K (by unfold BD;omega) hb) ?_;simp only[eN,Aj,ND,DK,Ab];generalize Ad a=x at *;generalize Ad b=y at *
 by_cases hy:y=0
 .rw[if_pos hy,hy,Cb]
  exact Gp (by decide)
 .have hyl:0<(Ah y).length:=by
   rw[Da hy];exact Nat.succ_pos _
  rw[if_neg hy];refine AK (by omega) ?_;refine Aa (Z8 K (a:=Ah x) (b:=Ah y) (by unfold BD;omega) (Al x) (by unfold BD;omega) (Al y)) ?_;rw[Ax,Ax];simp only[ND,DK,Ab]
  by_cases hxy:x<y
  .refine Aq (by unfold Cx;rw[if_pos hxy];decide) ?_
   have gt:=Fi K C (l:=Ah x) (by unfold BD;omega) (Al x);rw[Ax]at gt;refine Aa gt ?_;simp only[ND,DK,Ab];rw[AJ AA _ (by omega)];refine Ae ?_;rw[Bp AA _ rfl,AqL hxy,Ap1 hxy,Cb];rfl
  .refine Ak (by unfold Cx;rw[if_neg hxy];split<;>decide) ?_
   by_cases h1:(Ah y).length=1
   .have hlt:y<4294967296:=by
     have:=(Dq hyl).2
     rwa [h1]at this
    have hny:Ah y=[y]:=by
     rw[Da hy,Ap1 hlt,AqL hlt,Cb]
    refine Bi (by omega) ?_;rw[hny,Aw (show [y][0]? = some y from rfl)];simp only[eL,EN,ND,DK,Ab];refine Aa (U4 K C (a:=Ah x) (Al x) (by unfold BD;omega) (by omega) hlt) ?_;rw[Ax];simp only[eN,EN,ND,DK,Ab];have hm:=ApI x (show 0<y by omega);rw[Bj (x:=x % y) (by omega)];refine Aa (Ahe K C (x % y) (by omega)) ?_;simp only[eN,ND,DK,Ab]
   .refine AK (by omega) ?_
    have hll:(Ah y).length<=(Ah x).length:=by
     rcases Nat.lt_or_ge (Ah x).length (Ah y).length with h|h
     .exact absurd (Fl h) hxy
     .exact h
    refine Aa (Ab9 K C la (by omega) hll) ?_;simp only[eN,ND,DK,Ab]
end
end Go.Proofs.YtpncilciembjdaaGreatDoor
