/- What long division comes -/
import Derived.Test.YtpncilciembjdaaGreatDoorCAQ
set_option linter.all false
open Bool renaming true->Δ,and_eq_true->AtI
open List renaming append_assoc->AtK,drop->AtD,drop_drop->AvC,drop_eq_getElem_cons->ε,drop_left'->AvL,drop_one->Axr,getElem?_append_right->AtW,getElem?_eq_getElem->ξ,headD_cons->AuX,length_append->κ,length_drop->Au8,length_replicate->AvP,length_set->AtX,length_singleton->AtT,length_take->AtV,map_take->Awn,replicate->AuQ,take->ο,take_append_drop->AuB,take_left'->AvM,take_of_length_le->AuD,take_succ_eq_append_getElem->Auh
open Nat renaming add_mul->Aue,add_sub_cancel->Au0,add_sub_cancel_left->Avk,add_zero->Aun,ble->AtG,blt->Auq,div_eq_of_lt->Awz,eq_zero_or_pos->AuO,le_trans->Auf,lt_of_le_of_lt->AwY,lt_of_lt_of_le->Aur,lt_of_mul_lt_mul_left->AvT,min_eq_left->Auy,mod_eq_of_lt->AuK,mod_lt->Auo,mul_add->Auz,mul_assoc->At6,mul_comm->Auj,mul_le_mul_left->Avf,mul_le_mul_right->AtU,mul_lt_mul_of_pos_right->Avx,mul_one->AvA,mul_zero->AwD,one_mul->AuP,pow_add->Awj,pow_succ->AuM,sub_self->AvS,two_pow_pos->Axm,zero_add->AtQ,zero_le->At7
open Option renaming some->Θ
namespace Go.Proofs.YtpncilciembjdaaGreatDoor
open ABlk renaming mk->δ
open IntKind renaming u64->Ω
open Go.RowKit
theorem AcO{l:List Nat}(j i:Nat)(h:j+i<l.length)(k:List AV->KR):EW (Ag eL l) (j+i*1) 1 k=k [.v (.int .u32 (l[j+i]:Int))]:=by
 rw[show j+i*1=0+(j+i)*1 by omega];exact Iq l _ h k
section
variable {D:Orc} (K:Knows Ds Jl D)
include K
theorem AbA(d:List Nat)(hd:Limbs d)(U:List Nat)(hU:Limbs U)(o n f:Nat)(h2:2<=d.length)(hdl:d.length<=1000000000)(hn:d.length-2<n)(hou:o+(d.length-2)<U.length)(hdi:d.length-2<d.length)(hf:f<4294967296):∀(k g r:Nat),g<=4294967297->r<4294967296->4294967296<=r+k*f->
  D.ask (.lp 239 0) [.sl 0 o n 1,eN d,iv (d.length:Int),.v (.int .u64 (f:Int)),.v (.int .u64 (g:Int)),.v (.int .u64 (r:Int))] [δ (Ag eL U) Δ Δ]
   = Θ (.tup [iv 0,.v (.int .u64 (HW f d[d.length-2] U[o+(d.length-2)] k g r:Int))],[.keep]):=by
 have hv:=hd.get hdi;have hu:=hU.get hou;intro k
 induction k with
 |zero=>intro g r _ h1 h3;omega
 |succ k ih=>
  intro g r hg hr hk;have hk2:4294967296<=r+f+k*f:=by rw[Aue,AuP]at hk;omega
  rw[HW];have hsub:Af.sub .i64 (d.length:Int) 2=((d.length-2:Nat):Int):=Pg (j:=2) h2 (by omega);have hadd:Af.add .u64 (r:Int) (f:Int)=((r+f:Nat):Int):=B3 (by omega);have tail:1<=g->(br (Af.le 4294967296 (Af.add .u64 (r:Int) (f:Int)))
     (Θ ((AV.tup [iv 0,AV.v (Value.int Ω (Af.sub Ω (g:Int) 1))],[BO.keep])))
     (AG D (Key.lp 239 0) [AV.sl 0 o n 1,AV.ls (d.map eL),iv (d.length:Int),AV.v (Value.int Ω (f:Int)),AV.v (Value.int Ω (Af.sub Ω (g:Int) 1)),AV.v (Value.int Ω (Af.add Ω (r:Int) (f:Int)))] [δ (Ag eL U) Δ Δ] λr o=>
     AE 1 [0] (AH.mk [(0,δ (Ag eL U) Δ Δ)] 1 none) [] r o))
    = Θ (.tup [iv 0,.v (.int .u64 ((if 4294967296<=r+f then g-1 else HW f d[d.length-2] U[o+(d.length-2)] k (g-1) (r+f):Nat):Int))],[.keep]):=λh1=>by
   rw[hadd,show Af.sub .u64 (g:Int) 1=((g-1:Nat):Int) from Eb (y:=1) h1 (by omega)]
   by_cases hb:4294967296<=r+f
   .rw[if_pos hb]
    exact NN (by omega)
   .rw[if_neg hb]
    refine Cn ?_;refine Aa (ih (g-1) (r+f) (by omega) (by omega) hk2) ?_;rfl
  refine Ay K RE (Aex ..) ?_
  by_cases hB:4294967296<=g
  .rw[if_pos (.inl hB)]
   refine BV ?_;exact tail (by omega)
  .refine Cn ?_
   rw[hsub,Au,Ax (ξ hdi)];simp only[eL,FW,ND,DK,Ab];refine Ai ?_ (by decide);rw[Au,show Auq (d.length-2) n=Δ from By hn];refine Ac ?_;refine(AcO o _ hou _).trans ?_;refine(cuN _ _).trans ?_;have hgv:=JM (show g<4294967296 by omega) hv;rw[Bi (show U[o+(d.length-2)]<_ by omega),Bi (show d[d.length-2]<_ by omega),KP hr,O0 hu hr,KO (by omega)]
   by_cases hc:r*4294967296+U[o+(d.length-2)]<g*d[d.length-2]
   .rw[if_pos (.inr hc)]
    refine Al ?_;exact tail (by
     rcases AuO g with e|e
     .rw[e]at hc;omega
     .exact e)
   .rw[if_neg (λh=>h.elim hB hc)]
    exact DL (by omega)
theorem VH{d:List Nat}(hd:Limbs d){U:List Nat}(hU:Limbs U){o n:Nat}(h2:2<=d.length)(hdl:d.length<=1000000000)(hn:d.length<n)(hou:o+n<=U.length)(h1:d.length-1<d.length)(h1':d.length-2<d.length)(hu0:o+d.length<U.length)(hu1:o+(d.length-1)<U.length)(hu2:o+(d.length-2)<U.length)(hf:2147483648<=d[d.length-1])
  (hT:U[o+d.length]*4294967296+U[o+(d.length-1)]<=d[d.length-1]*4294967296+d[d.length-2]) :
  D.ask (.fn 239) [.sl 0 o n 1,eN d] [δ (Ag eL U) Δ Δ]=Θ (.v (.int .u64 (HW d[d.length-1] d[d.length-2] U[o+(d.length-2)] 2 ((U[o+d.length]*4294967296+U[o+(d.length-1)]) / d[d.length-1]) ((U[o+d.length]*4294967296+U[o+(d.length-1)]) % d[d.length-1]):Int)),[.keep]):=by
 have hx0:=hU.get hu0;have hx1:=hU.get hu1;have hfl:=hd.get h1;have hg:=Abx (hd.get h1') hf hT;have hm:=Auo (U[o+d.length]*4294967296+U[o+(d.length-1)]) (show 0<d[d.length-1] by omega);have g:=AbA K d hd U hU o n d[d.length-1] h2 hdl (by omega) hu2 h1' hfl 2 ((U[o+d.length]*4294967296+U[o+(d.length-1)]) / d[d.length-1]) ((U[o+d.length]*4294967296+U[o+(d.length-1)]) % d[d.length-1]) hg (by omega) (by omega);have hsub:Af.sub .i64 (d.length:Int) 1=((d.length-1:Nat):Int):=Pg (j:=1) (by omega) (by omega);refine Aw K RE (AoN ..) ?_;rw[Ao,show Auq d.length n=Δ from By hn];refine Ac ?_;refine(AcO o _ hu0 _).trans ?_;simp only[FW,ND,DK,Ab];refine Ai ?_ (by decide);rw[hsub];simp only[Au];rw[show Auq (d.length-1) n=Δ from By (by omega)];refine Ac ?_;refine(AcO o _ hu1 _).trans ?_;refine(cuN _ _).trans ?_;rw[Ax (ξ h1)];simp only[eL,FW,ND,DK,Ab];rw[Bi (show d[d.length-1]<_ by omega),Bi (show U[o+d.length]<_ by omega),Bi (show U[o+(d.length-1)]<_ by omega),KP hx0,O0 hx1 hx0,AcK (by omega),AcN];refine Aq ?_;refine Aq ?_;refine Aa g ?_;rfl
end
theorem Aky{w:List Nat}(h:2<=w.length)(h1:w.length-1<w.length)(h2:w.length-2<w.length):w=w.take (w.length-2)++[w[w.length-2],w[w.length-1]]:=by
 have e:w.length-2+1=w.length-1:=by omega
 have:=AuB (w.length-2) w;rw[ε h2]at this;simp only[e]at this;rw[ε h1,List.drop_eq_nil_of_le (by omega)]at this;exact this.symm
theorem Aji{w:List Nat}{x:Nat}(h:2<=w.length)(h1:w.length-1<w.length)(h2:w.length-2<w.length):Ad (w++[x])=((x*4294967296+w[w.length-1])*4294967296+w[w.length-2])*4294967296 ^ (w.length-2)+Ad (w.take (w.length-2)):=by
 have e:w++[x]=w.take (w.length-2)++[w[w.length-2],w[w.length-1],x]:=by
  have:=Aky h h1 h2
  conv=>lhs;rw[this]
  simp
 rw[e,BG,AtV,Auy (by omega)];simp only[Ad];rw[Auj (4294967296 ^ (w.length-2))];generalize 4294967296 ^ (w.length-2)=P;rw[show w[w.length-2]+4294967296*(w[w.length-1]+4294967296*(x+4294967296*0))=(x*4294967296+w[w.length-1])*4294967296+w[w.length-2] by omega];omega
theorem Aja{w:List Nat}(h:2<=w.length)(h1:w.length-1<w.length)(h2:w.length-2<w.length):Ad w=(w[w.length-1]*4294967296+w[w.length-2])*4294967296 ^ (w.length-2)+Ad (w.take (w.length-2)):=by
 have e:=congrArg Ad (Aky h h1 h2);rw[BG,AtV,Auy (by omega)]at e;refine e.trans ?_;simp only[Ad];rw[Auj (4294967296 ^ (w.length-2))];rw[show w[w.length-2]+4294967296*(w[w.length-1]+4294967296*0)=w[w.length-1]*4294967296+w[w.length-2] by omega];omega
theorem AeN{P f v vl ul wl T W Dv:Nat}(hvl:vl<P)(hDv:Dv=(f*4294967296+v)*P+vl)(hW:W=(T*4294967296+ul)*P+wl)(hWD:W<Dv*4294967296):T<=f*4294967296+v:=by
 by_cases h:T<=f*4294967296+v
 .exact h
 .exfalso
  have h1:(f*4294967296+v+1)*4294967296*P<=(T*4294967296+ul)*P:=AtU _ (by omega);have h2:Dv*4294967296<=(f*4294967296+v+1)*4294967296*P:=by
   rw[hDv,At6 _ 4294967296 P,Auj 4294967296 P,←At6];exact AtU _ (by rw[Aue _ 1 P,AuP];omega)
  omega
def gW(d w:List Nat)(x:Nat):Nat:=HW (d.getD (d.length-1) 0) (d.getD (d.length-2) 0) (w.getD (d.length-2) 0) 2 ((x*4294967296+w.getD (d.length-1) 0) / d.getD (d.length-1) 0) ((x*4294967296+w.getD (d.length-1) 0) % d.getD (d.length-1) 0)
theorem CD{l:List Nat}{i:Nat}(h:i<l.length):l.getD i 0=l[i]:=by
 rw[List.getD_eq_getElem?_getD,ξ h];rfl
theorem W3{d w:List Nat}{x:Nat}(hd:Limbs d)(hw:Limbs (w++[x]))(hl:w.length=d.length)(h2:2<=d.length)(hf:2147483648<=d.getD (d.length-1) 0)(hW:Ad (w++[x])<Ad d*4294967296) :
  Gs (Ad (w++[x])) (Ad d) (gW d w x)/\x*4294967296+w.getD (d.length-1) 0<=d.getD (d.length-1) 0*4294967296+d.getD (d.length-2) 0:=by
 have d1:d.length-1<d.length:=by omega
 have d2:d.length-2<d.length:=by omega
 have w1:w.length-1<w.length:=by omega
 have w2:w.length-2<w.length:=by omega
 have ed:=Aja h2 d1 d2;have ew:=Aji (x:=x) (by omega) w1 w2;unfold gW;rw[←CD d1,←CD d2]at ed;rw[←CD w1,←CD w2,hl]at ew;have hww:Limbs w:=λy hy=>hw y (by simp[hy])
 have b1:=BM (hd.take (d.length-2));have b2:=BM (hww.take (d.length-2));rw[AtV,Auy (by omega)]at b1 b2;have c1:=hd.get d1;have c2:=hd.get d2;have c3:=hww.get w2;rw[←CD d1]at c1;rw[←CD d2]at c2;rw[←CD w2,hl]at c3;generalize d.getD (d.length-1) 0=f at *;generalize d.getD (d.length-2) 0=v at *;generalize w.getD (d.length-2) 0=ul at *;generalize w.getD (d.length-1) 0=y at *;obtain⟨T,hT⟩:∃ T,T=x*4294967296+y:=⟨_,rfl⟩;rw[←hT]at ew ⊢;generalize Ad (w++[x])=W at *;generalize Ad d=Dv at *;generalize Ad (d.take (d.length-2))=vl at *;generalize Ad (w.take (d.length-2))=wl at *;generalize 4294967296 ^ (d.length-2)=P at *;have hm:=Auo T (show 0<f by omega);refine⟨VG c2 b1 b2 hf ed ew hW 2 _ _ (by rw[Auj];exact Nat.div_add_mod T f) ?_ (by omega) (by omega),AeN b1 ed ew hW⟩;have g:=AeM (Q:=4294967296*P) (f:=f) (dl:=v*P+vl) (T:=T) (ul:=ul*P+wl) ?_ (by omega)
 .rw[ed,ew]
  have e1:(T*4294967296+ul)*P+wl=T*(4294967296*P)+(ul*P+wl):=by rw[Aue,At6];omega
  have e2:(f*4294967296+v)*P+vl=f*(4294967296*P)+(v*P+vl):=by rw[Aue,At6];omega
  rw[e1,e2];exact g
 .have:(ul+1)*P<=4294967296*P:=AtU _ c3
  rw[Aue,AuP]at this;omega
def tW(d w:List Nat)(x:Nat):Nat:=DP (gW d w x) 0 d+C3 (gW d w x) 0 0 w d
def aW(d w:List Nat)(x:Nat):List Nat:=Du (gW d w x) 0 0 w d
def aX(d w:List Nat)(x:Nat):Nat:=(x+4294967296-tW d w x) % 4294967296
theorem AdO{d w:List Nat}{x:Nat}(hd:Limbs d)(hw:Limbs (w++[x]))(hl:w.length=d.length)(h2:2<=d.length)(hf:2147483648<=d.getD (d.length-1) 0)(hW:Ad (w++[x])<Ad d*4294967296) :
  Limbs (aW d w x++[aX d w x])/\(aW d w x).length=d.length ∧
  (¬ x<tW d w x->Ad (aW d w x++[aX d w x])+gW d w x*Ad d=Ad (w++[x])/\Ad (aW d w x++[aX d w x])<Ad d) ∧
  (x<tW d w x->1<=gW d w x/\Limbs (C4 0 (aW d w x) d++[(aX d w x+CN 0 (aW d w x) d) % 4294967296]) ∧
   Ad (C4 0 (aW d w x) d++[(aX d w x+CN 0 (aW d w x) d) % 4294967296])+(gW d w x-1)*Ad d=Ad (w++[x]) ∧
   Ad (C4 0 (aW d w x) d++[(aX d w x+CN 0 (aW d w x) d) % 4294967296])<Ad d):=by
 obtain⟨hG,_⟩:=W3 hd hw hl h2 hf hW;have hww:Limbs w:=λy hy=>hw y (by simp[hy])
 have hx:x<4294967296:=hw x (by simp);have la:(aW d w x).length=d.length:=Gd ..;have hA:=Aaq (m:=gW d w x) hww hd hl hG.lt hx;have hmod:=Auo (x+4294967296-tW d w x) (show 0<4294967296 by omega);have hLm:Limbs (aW d w x++[aX d w x]):=CJ (Hy _ 0 0 w d hww (At7 _)) (Bb hmod BH);have hS:=Adn hl la hd rfl rfl hG hLm hA;have haw:Limbs (aW d w x):=Hy _ 0 0 w d hww (At7 _);have hB:=Aav (ul:=aX d w x) haw hd la hmod;refine⟨hLm,la,hS.1,λh=>?_⟩;obtain⟨h3,h4,h5⟩:=hS.2 h;refine⟨h3,CJ (Hz 0 _ _) (Bb (Auo _ (by omega)) BH),?_⟩;rw[hB];exact⟨h4,h5⟩
section
variable {D:Orc} (K:Knows Ds Jl D)
include K
theorem AlG{d:List Nat}(hd:Limbs d){m:Nat}(hm:m<4294967296){A w Z:List Nat}{x:Nat}(hU:Limbs (A++(w++[x])++Z))(hl:w.length=d.length)(hUl:(A++(w++[x])++Z).length<=1000000000) :
  D.ask (.fn 240) [.sl 0 A.length (d.length+1) 1,eN d,.v (.int .u64 (m:Int))] [δ (Ag eL (A++(w++[x])++Z)) Δ Δ]
   = Θ (bv (decide (x<DP m 0 d+C3 m 0 0 w d)),[.set (δ (Ag eL (A++(Du m 0 0 w d++[(x+4294967296-(DP m 0 d+C3 m 0 0 w d)) % 4294967296])++Z)) Δ Δ)]):=by
 have hlen:A.length+d.length<(A++(w++[x])++Z).length:=by simp;omega
 have g:=UJ K hd hm hU hlen hUl;have e1:(A++(w++[x])++Z).take A.length=A:=by rw[AtK,AvM];rfl
 have e2:((A++(w++[x])++Z).drop A.length).take d.length=w:=by
  rw[AtK,AvL rfl,AtK,AvM hl]
 have e3:(A++(w++[x])++Z)[A.length+d.length]=x:=by
  have:(A++(w++[x])++Z)[A.length+d.length]? = Θ x:=by
   rw[AtK,AtW (by omega),Avk,AtK,AtW (by omega),hl,AvS];rfl
  rw[ξ hlen]at this;injection this
 have e4:(A++(w++[x])++Z).drop (A.length+(d.length+1))=Z:=by
  rw[AvL (by simp;omega)]
 rw[NC,NF,e1,e2,e3,e4]at g;exact g
theorem AlH{d:List Nat}(hd:Limbs d){A w Z:List Nat}{x:Nat}(hU:Limbs (A++(w++[x])++Z))(hl:w.length=d.length)(hUl:(A++(w++[x])++Z).length<=1000000000) :
  D.ask (.fn 241) [.sl 0 A.length (d.length+1) 1,eN d] [δ (Ag eL (A++(w++[x])++Z)) Δ Δ]
   = Θ (.tup [],[.set (δ (Ag eL (A++(C4 0 w d++[(x+CN 0 w d) % 4294967296])++Z)) Δ Δ)]):=by
 have hlen:A.length+d.length<(A++(w++[x])++Z).length:=by simp;omega
 have g:=V8 K hd hU hlen hUl;have e1:(A++(w++[x])++Z).take A.length=A:=by rw[AtK,AvM];rfl
 have e2:((A++(w++[x])++Z).drop A.length).take d.length=w:=by
  rw[AtK,AvL rfl,AtK,AvM hl]
 have e3:(A++(w++[x])++Z)[A.length+d.length]=x:=by
  have:(A++(w++[x])++Z)[A.length+d.length]? = Θ x:=by
   rw[AtK,AtW (by omega),Avk,AtK,AtW (by omega),hl,AvS];rfl
  rw[ξ hlen]at this;injection this
 have e4:(A++(w++[x])++Z).drop (A.length+(d.length+1))=Z:=by
  rw[AvL (by simp;omega)]
 rw[NI,NH,e1,e2,e3,e4]at g;exact g
theorem AeO{d:List Nat}(hd:Limbs d){A w Z:List Nat}{x:Nat}(hU:Limbs (A++(w++[x])++Z))(hl:w.length=d.length)(hdl:d.length<=1000000000)(h2:2<=d.length)(hf:2147483648<=d.getD (d.length-1) 0){n:Nat}(hn:d.length<n)(hou:A.length+n<=(A++(w++[x])++Z).length)
  (hT:x*4294967296+w.getD (d.length-1) 0<=d.getD (d.length-1) 0*4294967296+d.getD (d.length-2) 0) :
  D.ask (.fn 239) [.sl 0 A.length n 1,eN d] [δ (Ag eL (A++(w++[x])++Z)) Δ Δ]=Θ (.v (.int .u64 (gW d w x:Int)),[.keep]):=by
 have d1:d.length-1<d.length:=by omega
 have d2:d.length-2<d.length:=by omega
 have w1:d.length-1<w.length:=by omega
 have w2:d.length-2<w.length:=by omega
 have u0:A.length+d.length<(A++(w++[x])++Z).length:=by simp;omega
 have u1:A.length+(d.length-1)<(A++(w++[x])++Z).length:=by simp;omega
 have u2:A.length+(d.length-2)<(A++(w++[x])++Z).length:=by simp;omega
 have at0:(A++(w++[x])++Z)[A.length+d.length]=x:=by
  have:(A++(w++[x])++Z)[A.length+d.length]? = Θ x:=by
   rw[AtK,AtW (by omega),Avk,AtK,AtW (by omega),hl,AvS];rfl
  rw[ξ u0]at this;injection this
 have atw:∀ i (h:A.length+i<(A++(w++[x])++Z).length) (hi:i<w.length),(A++(w++[x])++Z)[A.length+i]=w.getD i 0:=λi h hi=>by
  have:(A++(w++[x])++Z)[A.length+i]? = Θ w[i]:=by
   rw[AtK,AtW (by omega),Avk,AtK,List.getElem?_append_left hi,ξ hi]
  rw[ξ h]at this;injection this with this
  rw[this,CD hi]
 have g:=VH K hd hU h2 hdl hn hou d1 d2 u0 u1 u2 (by rw[←CD d1];exact hf) (by rw[at0,atw _ u1 w1,←CD d1,←CD d2];exact hT);rw[at0,atw _ u1 w1,atw _ u2 w2,←CD d1,←CD d2]at g;exact g
end
theorem RG{l h n:Nat}(h1:l<=h)(h2:h<=n):Jf l h n=Δ:=by
 unfold Jf;rw[show AtG l h=Δ by simpa using h1];simpa using h2
theorem UU(A v Z:List Nat):Ad (A++v++Z)=Ad A+4294967296 ^ A.length*(Ad v+4294967296 ^ v.length*Ad Z):=by
 rw[AtK,BG,BG]
theorem Ajh{U:List Nat}{i n:Nat}(h:i+n<U.length):U=U.take i++((U.drop i).take n++[U[i+n]])++U.drop (i+n+1):=by
 have e:(U.drop i).take n++[U[i+n]]=(U.drop i).take (n+1):=by
  rw[Auh (by rw[Au8];omega),List.getElem_drop]
 rw[e,AtK];have:U.drop (i+n+1)=(U.drop i).drop (n+1):=by rw[AvC,Nat.add_assoc]
 rw[this,AuB,AuB]
theorem AiT{q:List Nat}{k v:Nat}(h:k<q.length){q2:List Nat}(hl:q2.length=q.length)(h2:q2.drop k=(q.set k v).drop k):Ad (q2.take (k+1))=Ad (q2.take k)+4294967296 ^ k*v:=by
 have hk:k<q2.length:=by omega
 have e:q2[k]=v:=by
  have h3:(q2.drop k).headD 0=((q.set k v).drop k).headD 0:=by rw[h2]
  rw[ε hk,ε (l:=q.set k v) (by rw[AtX];exact h),AuX,AuX,List.getElem_set_self]at h3;exact h3
 rw[Auh hk,BG,AtV,Auy (by omega),e];simp[Ad]
section
variable {D:Orc} (K:Knows Ds Jl D)
include K
theorem Ae3{d:List Nat}(hd:Limbs d)(h2:2<=d.length)(hf:2147483648<=d.getD (d.length-1) 0)(s:Int):∀(k:Nat) (q U:List Nat),k<=q.length->U.length=q.length+d.length->U.length<=1000000000->Limbs q->Limbs U->Ad (U.drop k)<Ad d->
  ∃ q' U':List Nat,D.ask (.lp 204 0) [.sl 0 0 q.length 1,iv s,eN d,.sl 1 0 U.length 1,iv (d.length:Int),iv ((k:Int)-1)] [δ (Ag eL q) Δ Δ,δ (Ag eL U) Δ Δ]
   = Θ (.tup [iv 0,.sl 2 0 q.length 1,iv s,.sl 3 0 U.length 1,iv (d.length:Int)],[.del,.del,.set (δ (Ag eL q') Δ Δ),.set (δ (Ag eL U') Δ Δ)]) ∧
   q'.length=q.length/\U'.length=U.length/\Limbs q'/\Limbs U'/\q'.drop k=q.drop k/\Ad U'<Ad d/\Ad U=Ad (q'.take k)*Ad d+Ad U':=by
 intro k
 induction k with
 |zero=>
  intro q U hk hl hm hq hU hv;refine⟨q,U,?_,rfl,rfl,hq,hU,rfl,by simpa using hv,by simp[Ad]⟩;refine Ay K Lw (Rs ..) ?_;exact NM (by omega)
 |succ k ih=>
  intro q U hk hl hm hq hU hv;have hin:k+d.length<U.length:=by omega
  have hcut:=Ajh hin;obtain⟨A,hA⟩:∃ A,A=U.take k:=⟨_,rfl⟩;obtain⟨w,hw⟩:∃ w,w=(U.drop k).take d.length:=⟨_,rfl⟩;obtain⟨x,hx⟩:∃ x,x=U[k+d.length]:=⟨_,rfl⟩;obtain⟨Z,hZ⟩:∃ Z,Z=U.drop (k+d.length+1):=⟨_,rfl⟩;rw[←hA,←hw,←hx,←hZ]at hcut;have hAl:A.length=k:=by rw[hA,AtV];omega
  have hwl:w.length=d.length:=by rw[hw,AtV,Au8];omega
  have hAL:Limbs A:=by rw[hA];exact hU.take _
  have hZL:Limbs Z:=by rw[hZ];exact hU.drop _
  have hwL:Limbs (w++[x]):=by rw[hw,hx];exact CJ ((hU.drop _).take _) (Bb (hU.get hin) BH)
  have hdv:=BM hd;have hUd:U.drop k=(w++[x])++Z:=by rw[hcut,AtK,AvL hAl]
  have hUd1:(U.drop (k+1))=((w++[x]).drop 1)++Z:=by
   rw[show U.drop (k+1)=(U.drop k).drop 1 by rw[AvC],hUd,List.drop_append_of_le_length (by simp)]
  have hZ0:Ad Z=0:=by
   rw[hUd1,BG,Au8,κ,AtT,hwl,Au0]at hv;rcases AuO (Ad Z) with e|e
   .exact e
   .exfalso
    have:4294967296 ^ d.length*1<=4294967296 ^ d.length*Ad Z:=Avf _ e;omega
  have hWD:Ad (w++[x])<Ad d*4294967296:=by
   obtain⟨y,hy⟩:∃ y,(w++[x])=y::(w++[x]).drop 1:=by
    cases w with
    |nil=>exact⟨x,rfl⟩
    |cons a w=>exact⟨a,rfl⟩
   have hy1:y<4294967296:=hwL y (by rw[hy];exact List.mem_cons_self ..);have hv1:Ad ((w++[x]).drop 1)<Ad d:=by
    rw[hUd1,BG,hZ0]at hv;omega
   rw[hy,Ad,Axr];rw[Axr]at hv1;omega
  obtain⟨hG,hT⟩:=W3 hd hwL hwl h2 hf hWD;obtain⟨hLm,la,hnb,hbk⟩:=AdO hd hwL hwl h2 hf hWD;have hglt:=hG.lt;have hUlen:(A++(w++[x])++Z).length=U.length:=by rw[←hcut]
  have hU2:Limbs (A++(w++[x])++Z):=by rw[←hcut];exact hU
  have gg:=AeO K hd hU2 hwl (by omega) h2 hf (n:=U.length-k) (by omega) (by rw[hUlen,hAl];omega) hT;have ga:=AlG K hd hglt hU2 hwl (by omega);rw[hAl,←hcut]at gg ga;have hLen1:(A++(aW d w x++[aX d w x])++Z).length=U.length:=by
   rw[←hUlen];simp only[κ,AtT,la,hwl]
  have key:∀(g:Nat) (v:List Nat),g<4294967296->v.length=d.length+1->Limbs v->Ad v+g*Ad d=Ad (w++[x])->Ad v<Ad d->
    ∃ q' U':List Nat,D.ask (.lp 204 0) [.sl 0 0 q.length 1,iv s,eN d,.sl 1 0 U.length 1,iv (d.length:Int),iv ((k:Int)-1)] [δ (Ag eL (q.set k g)) Δ Δ,δ (Ag eL (A++v++Z)) Δ Δ]
     = Θ (.tup [iv 0,.sl 2 0 q.length 1,iv s,.sl 3 0 U.length 1,iv (d.length:Int)],[.del,.del,.set (δ (Ag eL q') Δ Δ),.set (δ (Ag eL U') Δ Δ)]) ∧
     q'.length=q.length/\U'.length=U.length/\Limbs q'/\Limbs U'/\q'.drop (k+1)=q.drop (k+1)/\Ad U'<Ad d/\Ad U=Ad (q'.take (k+1))*Ad d+Ad U':=λg v hg hvl hvL he hlt=>by
   have hl1:(A++v++Z).length=U.length:=by
    rw[←hUlen];simp only[κ,AtT,hvl,hwl]
   obtain⟨q',U',h1,h3,h4,h5,h6,h7,h8,h9⟩:=ih (q.set k g) (A++v++Z) (by rw[AtX];omega) (by rw[hl1,AtX];exact hl) (by omega) (IV hq hg) (CJ (CJ hAL hvL) hZL) (by
    rw[AtK,AvL hAl,BG,hZ0];omega)
   rw[AtX]at h1 h3;rw[hl1]at h1 h4;refine⟨q',U',h1,h3,h4,h5,h6,?_,h8,?_⟩
   .have:=congrArg (AtD 1) h7
    rw[AvC,AvC,List.drop_set_of_lt (by omega)]at this;exact this
   .have hqk:k<q.length:=by omega
    rw[AiT hqk h3 h7,Aue];have e1:Ad U=Ad A+4294967296 ^ k*Ad (w++[x]):=by
     conv=>lhs;rw[hcut]
     rw[UU,hZ0,hAl];simp
    rw[UU,hZ0,hAl]at h9;rw[e1,←he,Auz,At6];simp only[AwD,Aun]at h9;omega
  have hqk:k<q.length:=by omega
  have hblt:Auq k q.length=Δ:=By hqk;have hble:AtG (0+k*1+1) (Ag eL q).length=Δ:=by rw[AT AB];simp;omega
  have hin1:Jf k U.length U.length=Δ:=RG (by omega) (by omega);have hin2:Jf k (k+d.length+1) U.length=Δ:=RG (by omega) (by omega);have hsub:Af.sub .i64 (k:Int) 1=(k:Int)-1:=DW (by omega) (by omega);have hadd:Af.add .i64 (Af.add .i64 (k:Int) (d.length:Int)) 1=((k+d.length+1:Nat):Int):=by
   rw[Aak (by omega),BQ (by omega)]
  have h0k:0+k*1=k:=by omega
  by_cases hb:x<tW d w x
  .obtain⟨hg1,hL2,he,hlt⟩:=hbk hb
   have gb:=AlH K hd (A:=A) (Z:=Z) (w:=aW d w x) (x:=aX d w x) (CJ (CJ hAL hLm) hZL) la (by omega);rw[hAl]at gb;obtain⟨q',U',h1,hr⟩:=key (gW d w x-1) _ (by omega) (by rw[κ,El,AtT]) hL2 he hlt;refine⟨q',U',?_,hr⟩;refine Ay K Lw (Rs ..) ?_;rw[show (((k+1:Nat):Int)-1)=(k:Int) by omega];refine BV ?_;rw[Au,hin1,h0k];refine Ac ?_;refine Aa gg ?_;simp only[PP,ND,DK,Ab];rw[hadd,Au,Au,hin2,h0k,show k+d.length+1-k=d.length+1 by omega];refine Ac ?_;refine Aa ga ?_;simp only[ND,DK,Ab];rw[decide_eq_true (show x<DP (gW d w x) 0 d+C3 (gW d w x) 0 0 w d from hb)];refine Ac ?_;rw[Au,Au,hin2,h0k,show k+d.length+1-k=d.length+1 by omega];refine Ac ?_;refine Aa gb ?_;simp only[ND,DK,Ab];rw[Au,hblt,hble];refine Ac ?_;refine Ac ?_;rw[show Af.sub .u64 (gW d w x:Int) 1=((gW d w x-1:Nat):Int) from Eb (y:=1) hg1 (by omega),Bt (by omega),show 0+k*1=0+(0+k)*1 by omega,C0 _ _ _ (by omega),AtQ,hsub];refine Aa h1 ?_;rfl
  .obtain⟨he,hlt⟩:=hnb hb
   obtain⟨q',U',h1,hr⟩:=key (gW d w x) _ hglt (by rw[κ,la,AtT]) hLm he hlt;refine⟨q',U',?_,hr⟩;refine Ay K Lw (Rs ..) ?_;rw[show (((k+1:Nat):Int)-1)=(k:Int) by omega];refine BV ?_;rw[Au,hin1,h0k];refine Ac ?_;refine Aa gg ?_;simp only[PP,ND,DK,Ab];rw[hadd,Au,Au,hin2,h0k,show k+d.length+1-k=d.length+1 by omega];refine Ac ?_;refine Aa ga ?_;simp only[ND,DK,Ab];rw[decide_eq_false (show ¬ x<DP (gW d w x) 0 d+C3 (gW d w x) 0 0 w d from hb)];refine BY ?_;rw[Au,hblt,hble];refine Ac ?_;refine Ac ?_;rw[Bt (by omega),show 0+k*1=0+(0+k)*1 by omega,C0 _ _ _ (by omega),AtQ,hsub];refine Aa h1 ?_;rfl
end
def Ae0:ByteArray:=Cl [0,1,2,2,3,3,3,3,4,4,4,4,4,4,4,4,5,5,5,5,5,5,5,5,5,5,5,5,5,5,5,5,6,6,6,6,6,6,6,6,6,6,6,6,6,6,6,6,6,6,6,6,6,6,6,6,6,6,6,6,6,6,6,6,7,7,7,7,7,7,7,7,7,7,7,7,7,7,7,7,7,7,7,7,7,7,7,7,7,7,7,7,7,7,7,7,7,7,7,7,7,7,7,7,7,7,7,7,7,7,7,7,7,7,7,7,7,7,7,7,7,7,7,7,7,7,7,7,8,8,8,8,8,8,8,8,8,8,8,8,8,8,8,8,8,8,8,8,8,8,8,8,8,8,8,8,8,8,8,8,8,8,8,8,8,8,8,8,8,8,8,8,8,8,8,8,8,8,8,8,8,8,8,8,8,8,8,8,8,8,8,8,8,8,8,8,8,8,8,8,8,8,8,8,8,8,8,8,8,8,8,8,8,8,8,8,8,8,8,8,8,8,8,8,8,8,8,8,8,8,8,8,8,8,8,8,8,8,8,8,8,8,8,8,8,8,8,8,8,8,8,8,8,8,8,8]
def Akz(b:Nat):Bool:=match Af.sat Ae0 b with
 |.ofNat t=>b == 0||(AtG 1 t&&(AtG t 8&&(AtG (2 ^ (t-1)) b&&Auq b (2 ^ t))))
 |_=>false
theorem Ae1:(List.range 256).all Akz=Δ:=by kernel_rfl
theorem RM{b:Nat}(h:b<256)(h0:0<b):∃ t:Nat,Af.sat Ae0 b=(t:Int)/\1<=t/\t<=8/\2 ^ (t-1)<=b/\b<2 ^ t:=by
 have:=List.all_eq_true.1 Ae1 b (List.mem_range.2 h);unfold Akz at this;split at this
 .rename_i t ht
  rw[Bool.or_eq_true,beq_iff_eq,AtI,AtI,AtI]at this;rcases this with h1|⟨h1,h2,h3,h4⟩
  .omega
  .have h5:b+1<=2 ^ t:=by simpa[Auq]using h4
   exact⟨t,ht,by simpa using h1,by simpa using h2,by simpa using h3,h5⟩
 .exact absurd this (by decide)
theorem Amo:Af.slen Ae0=256:=by kernel_rfl
theorem Nl{x:Nat}(h:x<256):Af.conv .u8 (x:Int)=(x:Int):=by
 show IntKind.u8.wrap (x:Int)=_
 have e:IntKind.u8.wrap (x:Int)=(x:Int) % 256:=by simp[IntKind.wrap,IntKind.bits,IntKind.signed]
 rw[e];omega
theorem Nm{x:Nat}(h:x<256):Af.conv .i64 (x:Int)=(x:Int):=by
 show IntKind.i64.wrap (x:Int)=_
 rw[IntKind.wrap_i64];omega
theorem VT{x t:Nat}(k:Nat)(h1:1<=t)(h3:2 ^ (t-1)<=x / 2 ^ k)(h4:x / 2 ^ k<2 ^ t):2 ^ (k+t-1)<=x/\x<2 ^ (k+t):=by
 have hp:=Axm k;rw[show k+t-1=(t-1)+k by omega,show k+t=t+k by omega,Awj,Awj];exact⟨(Nat.le_div_iff_mul_le hp).1 h3,(Nat.div_lt_iff_lt_mul hp).1 h4⟩
section
variable {D:Orc} (K:Knows Ds Jl D)
include K
theorem Ab7{x:Nat}(h:x<4294967296)(h0:0<x):∃ L:Nat,D.ask (.fn 222) [.v (.int .u32 (x:Int))] []=Θ (iv (L:Int),[])/\1<=L/\L<=32/\2 ^ (L-1)<=x/\x<2 ^ L:=by
 have e:=AoJ Af D (x:Int);rw[show Cl [0,1,2,2,3,3,3,3,4,4,4,4,4,4,4,4,5,5,5,5,5,5,5,5,5,5,5,5,5,5,5,5,6,6,6,6,6,6,6,6,6,6,6,6,6,6,6,6,6,6,6,6,6,6,6,6,6,6,6,6,6,6,6,6,7,7,7,7,7,7,7,7,7,7,7,7,7,7,7,7,7,7,7,7,7,7,7,7,7,7,7,7,7,7,7,7,7,7,7,7,7,7,7,7,7,7,7,7,7,7,7,7,7,7,7,7,7,7,7,7,7,7,7,7,7,7,7,7,8,8,8,8,8,8,8,8,8,8,8,8,8,8,8,8,8,8,8,8,8,8,8,8,8,8,8,8,8,8,8,8,8,8,8,8,8,8,8,8,8,8,8,8,8,8,8,8,8,8,8,8,8,8,8,8,8,8,8,8,8,8,8,8,8,8,8,8,8,8,8,8,8,8,8,8,8,8,8,8,8,8,8,8,8,8,8,8,8,8,8,8,8,8,8,8,8,8,8,8,8,8,8,8,8,8,8,8,8,8,8,8,8,8,8,8,8,8,8,8,8,8,8,8,8,8,8,8]=Ae0 from rfl,Amo]at e;have s16:Af.shr .u32 (x:Int) 16=((x / 65536:Nat):Int):=R7 (k:=.u32) (r:=16) (by decide);have s8:∀ y:Nat,Af.shr .u32 (y:Int) 8=((y / 256:Nat):Int):=λy=>R7 (k:=.u32) (r:=8) (by decide)
 rw[s16,s8,s8]at e
 by_cases h16:65536<=x
 .by_cases h8:256<=x / 65536
  .obtain⟨t,ht,h1,h2,h3,h4⟩:=RM (b:=x / 65536 / 256) (by omega) (by omega)
   rw[show x / 65536 / 256=x / 2 ^ 24 by rw[Nat.div_div_eq_div_mul]]at h3 h4;obtain⟨h5,h6⟩:=VT 24 h1 h3 h4;refine⟨24+t,?_,by omega,by omega,h5,h6⟩;refine K.fn' Ol _ rfl (e.trans ?_);refine BV ?_;refine Ai ?_ (by decide);refine BV ?_;refine Ai ?_ (by decide);rw[Nl (by omega),Au,show Auq (x / 65536 / 256) 256=Δ from By (by omega)];refine Ac ?_;rw[ht,Nm (by omega),EM (a:=16) (b:=8) (by decide) (by decide),EM (by omega) (by omega)];rw[show (16:Int)+8+(t:Int)=((24+t:Nat):Int) by omega]
  .obtain⟨t,ht,h1,h2,h3,h4⟩:=RM (b:=x / 65536) (by omega) (by omega)
   obtain⟨h5,h6⟩:=VT 16 h1 h3 h4;refine⟨16+t,?_,by omega,by omega,h5,h6⟩;refine K.fn' Ol _ rfl (e.trans ?_);refine BV ?_;refine Ai ?_ (by decide);refine Cn ?_;rw[Nl (by omega),Au,show Auq (x / 65536) 256=Δ from By (by omega)];refine Ac ?_;rw[ht,Nm (by omega),EM (by omega) (by omega)];rw[show (16:Int)+(t:Int)=((16+t:Nat):Int) by omega]
 .by_cases h8:256<=x
  .obtain⟨t,ht,h1,h2,h3,h4⟩:=RM (b:=x / 256) (by omega) (by omega)
   obtain⟨h5,h6⟩:=VT 8 h1 h3 h4;refine⟨8+t,?_,by omega,by omega,h5,h6⟩;refine K.fn' Ol _ rfl (e.trans ?_);refine Cn ?_;refine BV ?_;refine Ai ?_ (by decide);rw[Nl (by omega),Au,show Auq (x / 256) 256=Δ from By (by omega)];refine Ac ?_;rw[ht,Nm (by omega),EM (a:=0) (b:=8) (by decide) (by decide),EM (by omega) (by omega)];rw[show (0:Int)+8+(t:Int)=((8+t:Nat):Int) by omega]
  .obtain⟨t,ht,h1,h2,h3,h4⟩:=RM (b:=x) (by omega) (by omega)
   refine⟨t,?_,by omega,by omega,h3,h4⟩;refine K.fn' Ol _ rfl (e.trans ?_);refine Cn ?_;refine Cn ?_;rw[Nl (by omega),Au,show Auq x 256=Δ from By (by omega)];refine Ac ?_;rw[ht,Nm (by omega),EM (by omega) (by omega),Int.zero_add]
theorem ApJ{x:Nat}(h:x<4294967296)(h0:0<x):∃ s:Nat,D.ask (.fn 237) [.v (.int .u32 (x:Int))] []=Θ (iv (s:Int),[])/\s<=31/\2147483648<=x*2 ^ s/\x*2 ^ s<4294967296:=by
 obtain⟨L,g,h1,h2,h3,h4⟩:=Ab7 K h h0;have hp:=Axm (32-L);refine⟨32-L,?_,by omega,?_,?_⟩
 .refine Aw K AbI (AoL ..) ?_
  refine Aa g ?_;simp only[ND,DK,Ab];rw[DW (by omega) (by omega),show (32:Int)-(L:Int)=((32-L:Nat):Int) by omega]
 .have:2 ^ (L-1)*2 ^ (32-L)<=x*2 ^ (32-L):=AtU _ h3
  rw[←Awj,show L-1+(32-L)=31 by omega]at this;exact this
 .have:x*2 ^ (32-L)<2 ^ L*2 ^ (32-L):=Avx h4 hp
  rw[←Awj,show L+(32-L)=32 by omega]at this;exact this
end
theorem Ww{l:List Nat}(h:Limbs l)(h0:0<l.length):4294967296 ^ (l.length-1)*l.getD (l.length-1) 0<=Ad l/\Ad l<4294967296 ^ (l.length-1)*(l.getD (l.length-1) 0+1):=by
 have hk:l.length-1<l.length:=by omega
 have e:l=l.take (l.length-1)++[l[l.length-1]]:=by
  rw[←Auh hk,AuD (by omega)]
 have hv:=congrArg Ad e;rw[BG,AtV,Auy (by omega)]at hv;have hb:=BM (h.take (l.length-1));rw[AtV,Auy (by omega)]at hb;rw[CD hk];simp only[Ad,AwD,Aun]at hv;rw[Auz,AvA];omega
theorem DT{b:Nat}(h:0<(Ah b).length):4294967296 ^ ((Ah b).length-1)<=b/\b<4294967296 ^ (Ah b).length:=by
 refine⟨?_,?_⟩
 .by_cases h1:4294967296 ^ ((Ah b).length-1)<=b
  .exact h1
  .have:=Bx (n:=b) (k:=(Ah b).length-1) (by omega)
   omega
 .have:=BM (Ap b)
  rwa [AA]at this
theorem T6{n k:Nat}(h1:4294967296 ^ k<=n)(h2:n<4294967296 ^ (k+1)):(Ah n).length=k+1:=by
 have:=Ig h1;have:=Bx h2;omega
theorem Ai9{b:Nat}(h:0<(Ah b).length):0<(Ah b).getD ((Ah b).length-1) 0:=by
 have h1:=(Ww (Ap b) h).2;have h2:=(DT h).1;rw[AA]at h1;rcases AuO ((Ah b).getD ((Ah b).length-1) 0) with e|e
 .rw[e]at h1
  omega
 .exact e
theorem Anx{b s:Nat}(hb:0<(Ah b).length)(hs:s<=31)(h1:2147483648<=(Ah b).getD ((Ah b).length-1) 0*2 ^ s)(h2:(Ah b).getD ((Ah b).length-1) 0*2 ^ s<4294967296) :
  (Ah (b*2 ^ s)).length=(Ah b).length/\2147483648<=(Ah (b*2 ^ s)).getD ((Ah b).length-1) 0/\4294967296 ^ ((Ah b).length-1)*2 ^ s<=b*2 ^ s:=by
 obtain⟨p0,p31,pq⟩:=OZ hs;obtain⟨t1,t2⟩:=Ww (Ap b) hb;rw[AA]at t1 t2;have hB:=(DT hb).1;generalize (Ah b).getD ((Ah b).length-1) 0=t at *;obtain⟨n,hn⟩:∃ n,(Ah b).length=n+1:=⟨(Ah b).length-1,by omega⟩;rw[hn,Au0]at t1 t2 hB ⊢;have hP:0<4294967296 ^ n:=Nat.pow_pos (by omega);have ht:(t+1)*2 ^ s<=4294967296:=by
  have:t<2 ^ (32-s):=by
   rw[←pq,Auj]at h2;exact AvT h2
  have:=Avf (2 ^ s) this;rw[pq,Auj]at this;exact this
 have lo:4294967296 ^ n*2147483648<=b*2 ^ s:=by
  have h3:4294967296 ^ n*(t*2 ^ s)<=b*2 ^ s:=by
   rw[←At6];exact AtU _ t1
  exact Auf (Avf _ h1) h3
 have hi:b*2 ^ s<4294967296 ^ (n+1):=by
  have h3:b*2 ^ s<4294967296 ^ n*(t+1)*2 ^ s:=Avx t2 p0;rw[At6]at h3;rw[AuM];exact Aur h3 (Avf _ ht)
 have hlen:(Ah (b*2 ^ s)).length=n+1:=T6 (by omega) hi;refine⟨hlen,?_,AtU _ hB⟩;have t3:=(Ww (Ap (b*2 ^ s)) (by omega)).2;rw[AA,hlen,Au0]at t3;have:=AvT (AwY lo t3);omega
theorem Anw{a s:Nat}(ha:0<(Ah a).length)(hs:s<=31):(Ah (a*2 ^ s)).length=(Ah a).length\/(Ah (a*2 ^ s)).length=(Ah a).length+1:=by
 obtain⟨p0,p31,pq⟩:=OZ hs;obtain⟨h1,h2⟩:=DT ha;have lo:4294967296 ^ ((Ah a).length-1)<=a*2 ^ s:=Auf h1 (Nat.le_mul_of_pos_right _ p0);have hi:a*2 ^ s<4294967296 ^ ((Ah a).length+1):=by
  rw[AuM];exact Aur (Avx h2 p0) (Avf _ (by omega))
 have l1:=Ig lo;have l2:=Bx hi;omega
theorem Adm{a b s:Nat}(hs:s<=31){U:List Nat}(hU:Ad U=a*2 ^ s)(hl:U.length=(Ah a).length+1)(hb:0<(Ah b).length)(hba:(Ah b).length<=(Ah a).length)(h3:4294967296 ^ ((Ah b).length-1)*2 ^ s<=b*2 ^ s) :
  Ad (U.drop (U.length-(Ah b).length))<b*2 ^ s:=by
 obtain⟨p0,p31,pq⟩:=OZ hs;have ha:=(DT (show 0<(Ah a).length by omega)).2;have e:=congrArg Ad (AuB (U.length-(Ah b).length) U);rw[BG,AtV,Auy (by omega),hU]at e;refine Aur ?_ h3;have h4:a*2 ^ s<4294967296 ^ (U.length-(Ah b).length)*(4294967296 ^ ((Ah b).length-1)*2 ^ s):=by
  rw[←At6,←Awj,show U.length-(Ah b).length+((Ah b).length-1)=(Ah a).length by omega];exact Avx ha p0
 exact AvT (AwY (by omega) h4)
section
variable {D:Orc} (K:Knows Ds Jl D) (C:CloneF D)
include K C
theorem Ae4{a b:Nat}(ha:(Ah a).length<=999999990)(hb:2<=(Ah b).length)(hab:(Ah b).length<=(Ah a).length):D.ask (.fn 204) [eN (Ah a),eN (Ah b)] []=Θ (.tup [eN (Ah (a / b)),eN (Ah (a % b))],[]):=by
 have hb1:(Ah b).length-1<(Ah b).length:=by omega
 have htop:=(Ap b).get hb1;have hpos:=Ai9 (b:=b) (by omega);rw[CD hb1]at hpos;obtain⟨s,gz,h31,hz1,hz2⟩:=ApJ K htop hpos;obtain⟨p0,p31,pq⟩:=OZ h31;obtain⟨hdl,hdt,hdb⟩:=Anx (b:=b) (s:=s) (by omega) h31 (by rw[CD hb1];exact hz1) (by rw[CD hb1];exact hz2);have hal:=Anw (a:=a) (s:=s) (by omega) h31;have gb:=Xh K C (Ap b) (by omega) h31;have ga:=Xh K C (Ap a) (by omega) h31;rw[AA]at gb ga;have rest:∀ U:List Nat,Limbs U->U.length=(Ah a).length+1->Ad U=a*2 ^ s->∃ q' U':List Nat,D.ask (.lp 204 0) [.sl 0 0 ((Ah a).length+1-(Ah b).length) 1,iv (s:Int),eN (Ah (b*2 ^ s)),.sl 1 0 U.length 1,iv ((Ah b).length:Int),iv ((((Ah a).length+1-(Ah b).length:Nat):Int)-1)] [δ (Ag eL (AuQ ((Ah a).length+1-(Ah b).length) 0)) Δ Δ,δ (Ag eL U) Δ Δ]
   = Θ (.tup [iv 0,.sl 2 0 ((Ah a).length+1-(Ah b).length) 1,iv (s:Int),.sl 3 0 U.length 1,iv ((Ah b).length:Int)],[.del,.del,.set (δ (Ag eL q') Δ Δ),.set (δ (Ag eL U') Δ Δ)]) ∧
   q'.length=(Ah a).length+1-(Ah b).length/\U'.length=U.length ∧
   D.ask (.fn 202) [eN q'] []=Θ (.sl 0 0 (Ah (a / b)).length 1,[.set (δ (Ag eL (Ah (a / b))) Δ Δ)]) ∧
   D.ask (.fn 242) [eN (U'.take (Ah b).length),iv (s:Int)] []=Θ (eN (Ah (a % b)),[]):=λU hU hUl hUv=>by
  have hst:=Adm h31 hUv hUl (show 0<(Ah b).length by omega) hab hdb;obtain⟨q',U',g1,g2,g3,g4,g5,g6,g7,g8⟩:=Ae3 K (Ap (b*2 ^ s)) (by omega) (by rw[hdl];exact hdt) (s:Int) ((Ah a).length+1-(Ah b).length) (AuQ ((Ah a).length+1-(Ah b).length) 0) U (by simp) (by rw[AvP,hUl,hdl];omega) (by omega) (λx hx=>by rw[List.eq_of_mem_replicate hx];omega) hU (by rw[AA,←hUl];exact hst);rw[AvP]at g1 g2;rw[hdl]at g1;rw[AA]at g7 g8;rw[AuD (by omega),hUv]at g8;have hq:Ad q'=a / b/\Ad U'=(a % b)*2 ^ s:=by
   have hbp:0<b*2 ^ s:=by omega
   have e1:a*2 ^ s / (b*2 ^ s)=Ad q':=by
    rw[g8,Auj,Nat.mul_add_div hbp,Awz g7,Aun]
   have e2:a*2 ^ s % (b*2 ^ s)=Ad U':=by
    rw[g8,Auj,Nat.mul_add_mod,AuK g7]
   rw[Nat.mul_div_mul_right _ _ p0]at e1;rw[Nat.mul_mod_mul_right]at e2;exact⟨e1.symm,e2.symm⟩
  refine⟨q',U',g1,g2,g3,?_,?_⟩
  .have:=Gc K C (l:=q') (by unfold BX;omega) g4
   rwa [hq.1]at this
  .have ht:Ad (U'.take (Ah b).length)=Ad U':=by
    have e:=congrArg Ad (AuB (Ah b).length U');rw[BG,AtV,Auy (by omega)]at e;have hbd:=(DT (b:=b*2 ^ s) (by omega)).2;rw[hdl]at hbd;rcases AuO (Ad (U'.drop (Ah b).length)) with h0|h0
    .rw[h0]at e;omega
    .exfalso
     have:4294967296 ^ (Ah b).length*1<=4294967296 ^ (Ah b).length*Ad (U'.drop (Ah b).length):=Avf _ h0;omega
   have:=Y9 K C (a:=U'.take (Ah b).length) (g5.take _) (by unfold BX;rw[AtV];omega) h31
   rwa [ht,hq.2,Nat.mul_div_cancel _ p0]at this
 refine Aw K Lw (AoI ..) ?_;rw[Ao,show Af.sub .i64 ((Ah b).length:Int) 1=(((Ah b).length-1:Nat):Int) from Pg (j:=1) (by omega) (by omega),Au,Ax (ξ hb1)];simp only[eL,FW,ND,DK,Ab];refine Aa gz ?_;simp only[ND,DK,Ab];refine Aa gb ?_;simp only[ND,DK,Ab];refine Aa ga ?_;simp only[ND,DK,Ab];rcases hal with h|h
 .have hi:Af.sub .i64 (Af.add .i64 ((AI ((Ah a).map eL):Nat):Int) 1) ((Ah (a*2 ^ s)).length:Int)=((1:Nat):Int):=by
   rw[Ao,BQ (by omega),h,Pg (by omega) (by omega)];simp
  have hU0:Ad (Ah (a*2 ^ s)++[0])=a*2 ^ s:=by
   rw[BG,AA];simp[Ad]
  obtain⟨q',U',gl,hql,hUl,gT,gR⟩:=rest (Ah (a*2 ^ s)++[0]) (CJ (Ap _) (Bb (by omega) BH)) (by simp[h]) hU0;rw[κ,AtT]at gl hUl;rw[hi,Au];refine Ac ?_;refine BY ?_;refine Ac ?_;rw[AJ (by omega) (by omega),AL AB (Ah (a*2 ^ s)) (by omega)];refine Ac ?_;refine Ac ?_;have hi2:Af.sub .i64 (((Ah (a*2 ^ s)).length+1:Nat):Int) ((Ah (b*2 ^ s)).length:Int)=(((Ah a).length+1-(Ah b).length:Nat):Int):=by
   rw[h,hdl,Pg (by omega) (by omega)]
  have hi3:Af.sub .i64 (((Ah a).length+1-(Ah b).length:Nat):Int) 1=(((Ah a).length+1-(Ah b).length:Nat):Int)-1:=DW (by omega) (by omega);have hchk:Bh (Ah (b*2 ^ s)).length 1 (ο ((Ah (b*2 ^ s)).length*1) (Ag eL (Ah (b*2 ^ s))))=(Ah (b*2 ^ s)).map eL:=Bp AB _ rfl;have hcat:AtD 0 (ο (0+(Ah (a*2 ^ s)).length*1) (Ag eL (Ah (a*2 ^ s))))++BS [.v (.int .u32 0)] (1*1)=Ag eL (Ah (a*2 ^ s)++[0]):=by
   rw[List.drop_zero,Bc AB _ (by omega),IE];exact Bg eL _ 0
  rw[hi2,Au,Au,show AtG ((Ah a).length+1-(Ah b).length) ((Ah a).length+1-(Ah b).length)=Δ by simp];refine Ac ?_;rw[AJ (by omega) (by omega)];refine Ac ?_;rw[AL AB _ (by omega)];refine Ac ?_;rw[hchk,hi3,hcat,IE,hdl];refine Aa gl ?_;simp only[ND,DK,Ab];rw[AL AB q' (by omega)];refine Ac ?_;rw[Bp AB q' hql.symm];refine Aa gT ?_;simp only[ND,DK,Ab];rw[Au,RG (At7 _) (by omega)];refine Ac ?_;have hU1:ο ((Ah b).length*1) (Ag eL U')=Ag eL (U'.take (Ah b).length):=by
   rw[AvA,Ed,Ed,Awn]
  rw[show AtG (0+(Ah b).length*1) (Ag eL U').length=Δ by rw[AT AB];simp;omega];refine Ac ?_;rw[hU1,←Bc AB (U'.take (Ah b).length) (n:=(Ah b).length*1) (by simp;omega),Bp AB (U'.take (Ah b).length) (by rw[AtV];omega)];refine Aa gR ?_;simp only[eN,ND,DK,Ab];rw[AL AB _ (by omega)];refine Ac ?_;rw[Bp AB _ rfl]
 .have hi:Af.sub .i64 (Af.add .i64 ((AI ((Ah a).map eL):Nat):Int) 1) ((Ah (a*2 ^ s)).length:Int)=((0:Nat):Int):=by
   rw[Ao,BQ (by omega),h,Pg (by omega) (by omega)];simp
  obtain⟨q',U',gl,hql,hUl,gT,gR⟩:=rest (Ah (a*2 ^ s)) (Ap _) h (AA _);rw[hi,Au];refine Ac ?_;refine Ac ?_;have hi2:Af.sub .i64 ((Ah (a*2 ^ s)).length:Int) ((Ah (b*2 ^ s)).length:Int)=(((Ah a).length+1-(Ah b).length:Nat):Int):=by
   rw[h,hdl,Pg (by omega) (by omega)]
  have hi3:Af.sub .i64 (((Ah a).length+1-(Ah b).length:Nat):Int) 1=(((Ah a).length+1-(Ah b).length:Nat):Int)-1:=DW (by omega) (by omega);have hchk:Bh (Ah (b*2 ^ s)).length 1 (ο ((Ah (b*2 ^ s)).length*1) (Ag eL (Ah (b*2 ^ s))))=(Ah (b*2 ^ s)).map eL:=Bp AB _ rfl;rw[hi2,Au,Au,show AtG ((Ah a).length+1-(Ah b).length) ((Ah a).length+1-(Ah b).length)=Δ by simp];refine Ac ?_;rw[AJ (by omega) (by omega)];refine Ac ?_;rw[AL AB _ (by omega)];refine Ac ?_;rw[hchk,hi3,IE,hdl];refine Aa gl ?_;simp only[ND,DK,Ab];rw[AL AB q' (by omega)];refine Ac ?_;rw[Bp AB q' hql.symm];refine Aa gT ?_;simp only[ND,DK,Ab];rw[Au,RG (At7 _) (by omega)];refine Ac ?_;have hU1:ο ((Ah b).length*1) (Ag eL U')=Ag eL (U'.take (Ah b).length):=by
   rw[AvA,Ed,Ed,Awn]
  rw[show AtG (0+(Ah b).length*1) (Ag eL U').length=Δ by rw[AT AB];simp;omega];refine Ac ?_;rw[hU1,←Bc AB (U'.take (Ah b).length) (n:=(Ah b).length*1) (by simp;omega),Bp AB (U'.take (Ah b).length) (by rw[AtV];omega)];refine Aa gR ?_;simp only[eN,ND,DK,Ab];rw[AL AB _ (by omega)];refine Ac ?_;rw[Bp AB _ rfl]
theorem Alp{a b:List Nat}(ha:Limbs a)(hal:a.length<=999999990)(hb:Limbs b)(hbl:b.length<=999999990):D.ask (.fn 144) [eN a,eN b] []
  = Θ (if Ad b=0 then .tup [.ls [],.ls [],iv 10] else .tup [eN (Ah (Ad a / Ad b)),eN (Ah (Ad a % Ad b)),iv 0],[]):=by
 have la:(Ah (Ad a)).length<=999999990:=by rw[Dz a ha];have:=Cx a;omega
 have lb:(Ah (Ad b)).length<=999999990:=by rw[Dz b hb];have:=Cx b;omega
 refine Aw K AbF (AoA ..) ?_;refine Aa (Fu K (by unfold BX;omega) ha) ?_;simp only[eN,ND,DK,Ab];refine Aa (Fu K (by unfold BX;omega) hb) ?_;simp only[eN,Ao,ND,DK,Ab];generalize Ad a=x at *;generalize Ad b=y at *
 by_cases hy:y=0
 .rw[if_pos hy,hy,CR]
  exact HD (by decide)
 .have hyl:0<(Ah y).length:=by
   rw[Fj hy];exact Nat.succ_pos _
  rw[if_neg hy];refine Aq ?_;refine Aa (Aec K (a:=Ah x) (b:=Ah y) (by unfold BX;omega) (Ap x) (by unfold BX;omega) (Ap y)) ?_;rw[AA,AA];simp only[ND,DK,Ab]
  by_cases hxy:x<y
  .refine Al ?_ (by unfold CM;rw[if_pos hxy];decide)
   have gt:=Gc K C (l:=Ah x) (by unfold BX;omega) (Ap x);rw[AA]at gt;refine Aa gt ?_;simp only[ND,DK,Ab];rw[AL AB _ (by omega)];refine Ac ?_;rw[Bp AB _ rfl,Awz hxy,AuK hxy,CR];rfl
  .refine Ai ?_ (by unfold CM;rw[if_neg hxy];split<;>decide)
   by_cases h1:(Ah y).length=1
   .have hlt:y<4294967296:=by
     have:=(DT hyl).2
     rwa [h1]at this
    have hny:Ah y=[y]:=by
     rw[Fj hy,AuK hlt,Awz hlt,CR]
    refine AO ?_;rw[hny,Ax (show [y][0]? = Θ y from rfl)];simp only[eL,FW,ND,DK,Ab];refine Aa (Yq K C (a:=Ah x) (Ap x) (by unfold BX;omega) (by omega) hlt) ?_;rw[AA];simp only[eN,FW,ND,DK,Ab];have hm:=Auo x (show 0<y by omega);rw[Bi (x:=x % y) (by omega)];refine Aa (Alt K C (x % y) (by omega)) ?_;simp only[eN,ND,DK,Ab]
   .refine Aq ?_
    have hll:(Ah y).length<=(Ah x).length:=by
     rcases Nat.lt_or_ge (Ah x).length (Ah y).length with h|h
     .exact absurd (Ge h) hxy
     .exact h
    refine Aa (Ae4 K C la (by omega) hll) ?_;simp only[eN,ND,DK,Ab]
