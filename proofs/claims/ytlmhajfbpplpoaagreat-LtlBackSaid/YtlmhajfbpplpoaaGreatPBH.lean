/- Which trees are right; w -/
import Derived.Test.YtlmhajfbpplpoaaGreatPBA
import Derived.Test.YtlmhajfbpplpoaaGreatPBF
set_option linter.all false
open Bool renaming false_and->Ar2,true_and->Arq
open List renaming drop_eq_getElem_cons->Arf,drop_eq_nil_of_le->Ark,drop_zero->υ,getElem?_eq_getElem->Ψ,getElem_mem->Ars
open Nat renaming lt_succ_self->ArB
namespace Go.Proofs.YtlmhajfbpplpoaaGreat
open Go.RowKit
def Tr.kind:Tr->Int
 |.mk k _ _ _ _ _ _=>k
def Tr.kids:Tr->List Tr
 |.mk _ _ _ _ _ _ ks=>ks
def EV:Tr->Bool
 |.mk _ l r op p q _=>decide (l.length=0)&&decide (r.length=0)&&decide (op=0)&&decide (p=Af [])&&decide (q=Af [])
def GG:Tr->Bool
 |.mk k l r op p q ks=>decide (k=2)&&JE l&&JE r&&decide (0<=op)&&decide (op<=5)&&decide (p=Af [])&&decide (q=Af [])&&decide (ks.length=0)
def arI(k:Int):Int:=if k=0 then 0 else if k=1 then 0 else if k=3 then 1 else if k=4 then 2 else if k=5 then 2 else -1
def brk(p:Int)(i:Nat)(k:Int):Bool:=if p=3 then decide (k=4)||decide (k=5) else if p=4 then decide (k=5)||(decide (i=1)&&decide (k=4)) else if p=5 then decide (i=1)&&decide (k=5) else false
def Fx(b:Bool)(d:Nat):Nat:=if b then d+1 else d
mutual
def BS:Tr->Nat->Bool
 |.mk k l r op p q ks,d=>if k=2 then GG (.mk k l r op p q ks) else EV (.mk k l r op p q ks)&&decide ((ks.length:Int)=arI k)&&decide (Fx (decide (k=3)) d<=60)&&Eu k (Fx (decide (k=3)) d) 0 ks
def Eu(k:Int)(d:Nat):Nat->List Tr->Bool
 |_,[]=>true
 |i,x::r=>(decide (Fx (brk k i x.kind) d<=60)&&BS x (Fx (brk k i x.kind) d))&&Eu k d (i+1) r
end
inductive WzT:Tr->Prop where
 |mk {k:Int} {l r:List Mo} {op:Int} {p q:ByteArray} {ks:List Tr} (hl:l.length<4611686018427387904) (hr:r.length<4611686018427387904) (hk:ks.length<4611686018427387904)
  (zl:∀ m∈l,m.num.size<=9223372036854775807/\m.var.size<=9223372036854775807) (zr:∀ m∈r,m.num.size<=9223372036854775807/\m.var.size<=9223372036854775807) (h:∀ x∈ks,WzT x):WzT (.mk k l r op p q ks)
section
variable {D:Orc}
variable (K:Knows Ag D9 D)
include K
theorem RG(t:Tr):D.ask (.fn 45) [.agg (Bq t)] []=some (bv (EV t),[]):=by
 obtain⟨k,l,r,op,p,q,ks⟩:=t;refine K.fn' AmA _ rfl ((e45 ..).trans ?_);unfold EV;rw[Aw,Aw];simp only[Fp,F6,Ff,decide_eq_true_eq,ci0]
 by_cases h1:l.length=0<;>by_cases h2:r.length=0<;>by_cases h3:op=0<;>by_cases h4:p=Af []<;>by_cases h5:q=Af []<;>simp[h1,h2,h3,h4,h5]
theorem AaP(k:Int):D.ask (.fn 110) [iv k] []=some (iv (arI k),[]):=by
 refine K.fn' AhP _ rfl ((AoJ ..).trans ?_);unfold arI;simp only[Fp,Ff,decide_eq_true_eq]
 repeat' split
 all_goals rfl
theorem RO(p:Int)(i:Nat)(t:Tr):D.ask (.fn 111) [iv p,iv (i:Int),.agg (Bq t)] []=some (bv (brk p i t.kind),[]):=by
 obtain⟨k,l,r,op,q,v,ks⟩:=t;refine K.fn' AhQ _ rfl ((AoK ..).trans ?_);unfold brk Tr.kind;simp only[Fp,Ff,decide_eq_true_eq,ci1]
 by_cases h1:p=3
 .by_cases h2:k=4<;>by_cases h3:k=5<;>simp[h1,h2,h3]
 .by_cases h4:p=4
  .by_cases h2:k=4<;>by_cases h3:k=5<;>by_cases h5:i=1<;>simp[h4,h2,h3,h5]
  .by_cases h6:p=5
   .by_cases h3:k=5<;>by_cases h5:i=1<;>simp[h6,h3,h5]
   .simp[h1,h4,h6]
theorem KW(L:LexN D)(t:Tr)(hz:WzT t):D.ask (.fn 46) [.agg (Bq t)] []=some (bv (GG t),[]):=by
 obtain⟨k,l,r,op,p,q,ks⟩:=t;obtain⟨hl,hr,hk,zl,zr,_⟩:=hz;have g1:=GB K L l zl hl;have g2:=GB K L r zr hr;refine K.fn' AmB _ rfl ((e46 ..).trans ?_);unfold GG;rw[BW,Aw]
 by_cases h0:k=2
 .refine As h0 ?_
  refine Ab g1 ?_;simp only[ND,DK,Aa]
  cases JE l with
  |false=>simp[h0,ND,DK,Aa]
  |true=>
   simp only[ND,DK,Aa];refine Ab g2 ?_;simp only[ND,DK,Aa]
   cases JE r with
   |false=>simp[h0,ND,DK,Aa]
   |true=>
    simp only[ND,DK,Aa,LN,Fp,F6,Ff,decide_eq_true_eq,ci0]
    by_cases h3:0<=op<;>by_cases h4:op<=5<;>by_cases h5:p=Af []<;>by_cases h6:q=Af []<;>by_cases h7:ks.length=0<;>simp[h0,h3,h4,h5,h6,h7]
 .refine Ap h0 ?_
  simp[h0]
omit K in
theorem Lo{x:Tr}{ks:List Tr}(h:x∈ks):SizeOf.sizeOf x<SizeOf.sizeOf ks:=List.sizeOf_lt_of_mem h
def IB(t:Tr):ABlk:=ABlk.mk (Bq t) true false
theorem AdJ(t:Tr)(d:Nat)(hd:d<=60)(ks:List Tr)(hk:ks.length<4611686018427387904)(g:∀ x∈ks,∀ d:Nat,d<=60->D.ask (.fn 62) [.agg (Bq x),iv (d:Int)] []=some (bv (BS x d),[])):∀(n i:Nat),ks.length-i=n->
  D.ask (.lp 62 0) [iv (d:Int),.ptr 0 0,.ls (ks.map Bq),iv (ks.length:Int),iv (i:Int)] [IB t]=some (if Eu t.kind d i (ks.drop i) then .tup [iv 0] else .tup [bv true,bv false],[.del]):=by
 intro n;obtain⟨k,l,r,op,p,q,kz⟩:=t
 induction n with
 |zero=>
  intro i hi;refine K.lp' Acf _ rfl (by kernel_rfl) ((AhD ..).trans ?_);rw[show ks.drop i=[] from Ark (by omega)];refine Ak (by omega) ?_;rfl
 |succ n ih=>
  intro i hi;have hlt:i<ks.length:=by omega
  have ih:=ih (i+1) (by omega);rw[show ks.drop i=ks[i]::ks.drop (i+1) from Arf hlt];have gx:=g ks[i] (Ars hlt);have hb:=RO K k i ks[i];refine K.lp' Acf _ rfl (by kernel_rfl) ((AhD ..).trans ?_);refine Al (by omega) ?_;rw[Ax,AF (Ψ hlt)];revert gx hb;generalize ks[i]=x;obtain⟨xk,xl,xr,xo,xp,xq,xs⟩:=x;intro gx hb;unfold Eu Tr.kind;unfold Tr.kind at hb ih;simp only[Bq,ND,DK,Aa];refine Ab hb ?_;simp only[ND,DK,Aa];have tl:∀(b:Bool),(if b=true then Eu k d (i+1) (ks.drop (i+1))=true else False)->True:=λ_ _=>trivial
  cases hbk:brk k i xk with
  |true=>
   refine Ad ?_;rw[Bo (by omega)]
   by_cases h60:d+1<=60
   .refine Ak (by omega) ?_
    refine Ab (gx (d+1) h60) ?_;simp only[ND,DK,Aa];rw[show Fx true d=d+1 from rfl,decide_eq_true h60,Arq]
    cases BS (.mk xk xl xr xo xp xq xs) (d+1) with
    |false=>rfl
    |true=>
     refine Ad ?_;rw[Bo (by omega)];refine Ab ih ?_;rw[Arq]
     cases Eu k d (i+1) (ks.drop (i+1))<;>rfl
   .refine Al (by omega) ?_
    rw[show Fx true d=d+1 from rfl,decide_eq_false h60,Ar2,Ar2];rfl
  |false=>
   refine Bi ?_;refine Ak (by omega) ?_;refine Ab (gx d hd) ?_;simp only[ND,DK,Aa];rw[show Fx false d=d from rfl,decide_eq_true hd,Arq]
   cases BS (.mk xk xl xr xo xp xq xs) d with
   |false=>rfl
   |true=>
    refine Ad ?_;rw[Bo (by omega)];refine Ab ih ?_;rw[Arq]
    cases Eu k d (i+1) (ks.drop (i+1))<;>rfl
theorem AdL(L:LexN D):∀(n:Nat) (t:Tr),SizeOf.sizeOf t<n->WzT t->∀ d:Nat,d<=60->D.ask (.fn 62) [.agg (Bq t),iv (d:Int)] []=some (bv (BS t d),[]):=by
 intro n
 induction n with
 |zero=>intro t h;omega
 |succ n ih=>
  intro t ht hz d hd;have gb:=RG K t;have gc:=KW K L t hz;obtain⟨k,l,r,op,p,q,ks⟩:=t;obtain⟨hl,hr,hk,zl,zr,hx⟩:=hz;have ga:=AaP K k;have gk:∀ x∈ks,∀ d:Nat,d<=60->D.ask (.fn 62) [.agg (Bq x),iv (d:Int)] []=some (bv (BS x d),[]):=λx hm d hd=>ih x (by
   have h1:=Lo hm;simp only[Tr.mk.sizeOf_spec]at ht;omega) (hx x hm) d hd
  have glp:=λ(d:Nat) (hd:d<=60)=>AdJ K (.mk k l r op p q ks) d hd ks hk gk _ 0 rfl
  simp only[υ,Tr.kind,IB,Bq]at glp;refine K.fn' Acf _ rfl ((e62 ..).trans ?_);unfold BS;rw[BW]at glp ⊢;rw[Aw];simp only[Bq,BW]at gb gc
  by_cases h2:k=2
  .refine As h2 ?_
   refine Ab gc ?_;simp only[ND,DK,Aa];rw[if_pos h2]
   cases GG (.mk k l r op p q ks)<;>rfl
  .refine Ap h2 ?_
   rw[if_neg h2];have fin:∀(d:Nat),d<=61->∀(X:KR),(d<=60->X=some (bv (Eu k d 0 ks),[]))->br (Ah.lt 60 (d:Int)) (some (bv false,[])) X=some (bv (decide (d<=60)&&Eu k d 0 ks),[]):=λd h61 X hX=>by
    by_cases h:d<=60
    .refine Ak (by omega) ?_
     rw[hX h,decide_eq_true h,Arq]
    .refine Al (by omega) ?_
     rw[decide_eq_false h,Ar2]
   by_cases h3:k=3
   .refine As h3 ?_
    refine Ab gb ?_;simp only[ND,DK,Aa]
    cases EV (.mk k l r op p q ks) with
    |false=>rfl
    |true=>
     refine Ad ?_;refine Ab ga ?_;simp only[ND,DK,Aa]
     by_cases h4:(ks.length:Int)=arI k
     .refine As h4 ?_
      rw[decide_eq_true h4,Arq,Arq,decide_eq_true h3,Bo (by omega)];refine fin (d+1) (by omega) _ λh=>?_
      refine Ab (glp (d+1) h) ?_
      cases Eu k (d+1) 0 ks<;>rfl
     .refine Ap h4 ?_
      rw[decide_eq_false h4,Arq,Ar2,Ar2]
   .refine Ap h3 ?_
    refine Ab gb ?_;simp only[ND,DK,Aa]
    cases EV (.mk k l r op p q ks) with
    |false=>rfl
    |true=>
     refine Ad ?_;refine Ab ga ?_;simp only[ND,DK,Aa]
     by_cases h4:(ks.length:Int)=arI k
     .refine As h4 ?_
      rw[decide_eq_true h4,Arq,Arq,decide_eq_false h3];refine fin d (by omega) _ λh=>?_
      refine Ab (glp d h) ?_
      cases Eu k d 0 ks<;>rfl
     .refine Ap h4 ?_
      rw[decide_eq_false h4,Arq,Ar2,Ar2]
theorem AaI(L:LexN D)(t:Tr)(hz:WzT t):D.ask (.fn 24) [.agg (Bq t)] []=some (bv (BS t 0),[]):=by
 have g:=AdL K L _ t (ArB _) hz 0 (by omega);obtain⟨k,l,r,op,p,q,ks⟩:=t;refine K.fn' Amt _ rfl ((e24 ..).trans ?_);refine Ab g ?_;simp only[ND,DK,Aa]
 cases BS (.mk k l r op p q ks) 0<;>rfl
end
def Er(k:Int):Int:=if k=0 then 0 else if k=1 then 0 else if k=2 then 0 else if k=6 then 0 else if k=3 then 1 else if k=8 then 1 else if k=9 then 1 else if k=10 then 1 else if k=4 then 2 else if k=5 then 2 else if k=7 then 2 else if k=11 then 2 else if k=12 then 2 else -1
def BL(k:Int):Int:=if k=7 then 1 else if k=5 then 2 else if k=4 then 3 else if k=11 then 4 else if k=12 then 4 else 5
def Bp(p:Int)(i:Nat)(k:Int):Bool:=if Er p=1 then decide (BL k<5) else if BL p=BL k then((decide (BL p=1)||decide (BL p=4)) == decide (i=0)) else decide (BL k<BL p)
def T5:Tr->Bool
 |.mk k l r op p q ks=>if k=2 then GG (.mk k l r op p q ks) else if k=6 then decide (l.length=0)&&decide (r.length=0)&&decide (op=0)&&Cq p.data.toList&&Cq q.data.toList else EV (.mk k l r op p q ks)
mutual
def AU:Tr->Nat->Bool
 |.mk k l r op p q ks,d=>if(ks.length:Int)=Er k then(if Er k=0 then T5 (.mk k l r op p q ks) else decide (Fx (decide (Er k=1)) d<=60)&&EV (.mk k l r op p q ks)&&Fa k (Fx (decide (Er k=1)) d) 0 ks) else false
def Fa(k:Int)(d:Nat):Nat->List Tr->Bool
 |_,[]=>true
 |i,x::r=>(decide (Fx (Bp k i x.kind) d<=60)&&AU x (Fx (Bp k i x.kind) d))&&Fa k d (i+1) r
end
inductive WzP:Tr->Prop where
 |mk {k:Int} {l r:List Mo} {op:Int} {p q:ByteArray} {ks:List Tr} (zp:p.size<=9223372036854775807) (zq:q.size<=9223372036854775807) (h:∀ x∈ks,WzP x):WzP (.mk k l r op p q ks)
theorem Acp(c:Prop)[Decidable c](a b:Int):(if c then some (iv a,([]:List BO)) else some (iv b,[]))=some (iv (if c then a else b),[]):=by
 by_cases h:c
 .rw[if_pos h,if_pos h]
 .rw[if_neg h,if_neg h]
section
variable {D:Orc}
variable (K:Knows Ag Jj D)
include K
theorem QG(k:Int):D.ask (.fn 132) [iv k] []=some (iv (Er k),[]):=by
 refine K.fn' AhW _ rfl ((AoQ ..).trans ?_);unfold Er;simp only[Fp,Ff,decide_eq_true_eq,Acp]
theorem QR(k:Int):D.ask (.fn 194) [iv k] []=some (iv (BL k),[]):=by
 refine K.fn' Aik _ rfl ((Api ..).trans ?_);unfold BL;simp only[Fp,Ff,decide_eq_true_eq,Acp]
theorem JY(p:Int)(i:Nat)(t:Tr):D.ask (.fn 134) [iv p,iv (i:Int),.agg (Bq t)] []=some (bv (Bp p i t.kind),[]):=by
 obtain⟨k,l,r,op,q,v,ks⟩:=t;refine K.fn' AhY _ rfl ((AoS ..).trans ?_);refine Ab (QR K p) ?_;simp only[ND,DK,Aa];refine Ab (QR K k) ?_;simp only[ND,DK,Aa];refine Ab (QG K p) ?_;simp only[ND,DK,Aa];unfold Bp Tr.kind;have e1:Ah.beq true true=true:=rfl;have e2:Ah.beq true false=false:=rfl;have e3:Ah.beq false true=false:=rfl;have e4:Ah.beq false false=true:=rfl;simp only[Fp,JM,Ff,decide_eq_true_eq,e1,e2,e3,e4,ci0];generalize BL p=a;generalize BL k=b
 by_cases h1:Er p=1
 .by_cases h2:b<5<;>simp[h1,h2]
 .by_cases h2:a=b
  .by_cases h3:a=1
   .by_cases h5:i=0<;>simp_all
   .by_cases h4:a=4<;>by_cases h5:i=0<;>simp_all
  .by_cases h3:b<a<;>simp[h1,h2,h3]
theorem Zy(t:Tr)(d:Nat)(hd:d<=60)(ks:List Tr)(hk:ks.length<4611686018427387904)(g:∀ x∈ks,∀ d:Nat,d<=60->D.ask (.fn 74) [.agg (Bq x),iv (d:Int)] []=some (bv (AU x d),[])):∀(n i:Nat),ks.length-i=n->
  D.ask (.lp 74 0) [iv (d:Int),.ptr 0 0,.ls (ks.map Bq),iv (ks.length:Int),iv (i:Int)] [IB t]=some (if Fa t.kind d i (ks.drop i) then .tup [iv 0] else .tup [bv true,bv false],[.del]):=by
 intro n;obtain⟨k,l,r,op,p,q,kz⟩:=t
 induction n with
 |zero=>
  intro i hi;refine K.lp' Acg _ rfl (by kernel_rfl) ((AhF ..).trans ?_);rw[show ks.drop i=[] from Ark (by omega)];refine Ak (by omega) ?_;rfl
 |succ n ih=>
  intro i hi;have hlt:i<ks.length:=by omega
  have ih:=ih (i+1) (by omega);rw[show ks.drop i=ks[i]::ks.drop (i+1) from Arf hlt];have gx:=g ks[i] (Ars hlt);have hb:=JY K k i ks[i];refine K.lp' Acg _ rfl (by kernel_rfl) ((AhF ..).trans ?_);refine Al (by omega) ?_;rw[Ax,AF (Ψ hlt)];revert gx hb;generalize ks[i]=x;obtain⟨xk,xl,xr,xo,xp,xq,xs⟩:=x;intro gx hb;unfold Fa Tr.kind;unfold Tr.kind at hb ih;simp only[Bq,ND,DK,Aa];refine Ab hb ?_;simp only[ND,DK,Aa];have tl:∀(b:Bool),(if b=true then Fa k d (i+1) (ks.drop (i+1))=true else False)->True:=λ_ _=>trivial
  cases hbk:Bp k i xk with
  |true=>
   refine Ad ?_;rw[Bo (by omega)]
   by_cases h60:d+1<=60
   .refine Ak (by omega) ?_
    refine Ab (gx (d+1) h60) ?_;simp only[ND,DK,Aa];rw[show Fx true d=d+1 from rfl,decide_eq_true h60,Arq]
    cases AU (.mk xk xl xr xo xp xq xs) (d+1) with
    |false=>rfl
    |true=>
     refine Ad ?_;rw[Bo (by omega)];refine Ab ih ?_;rw[Arq]
     cases Fa k d (i+1) (ks.drop (i+1))<;>rfl
   .refine Al (by omega) ?_
    rw[show Fx true d=d+1 from rfl,decide_eq_false h60,Ar2,Ar2];rfl
  |false=>
   refine Bi ?_;refine Ak (by omega) ?_;refine Ab (gx d hd) ?_;simp only[ND,DK,Aa];rw[show Fx false d=d from rfl,decide_eq_true hd,Arq]
   cases AU (.mk xk xl xr xo xp xq xs) d with
   |false=>rfl
   |true=>
    refine Ad ?_;rw[Bo (by omega)];refine Ab ih ?_;rw[Arq]
    cases Fa k d (i+1) (ks.drop (i+1))<;>rfl
theorem AcM(Kt:Knows Ag D9 D)(L:LexN D)(t:Tr)(hz:WzT t)(hp:WzP t):D.ask (.fn 133) [.agg (Bq t)] []=some (bv (T5 t),[]):=by
 have gb:=RG Kt t;have gc:=KW Kt L t hz;obtain⟨k,l,r,op,p,q,ks⟩:=t;obtain⟨z1,z2,_⟩:=hp;have gp:=L.name p z1;have gq:=L.name q z2;refine K.fn' AhX _ rfl ((AoR ..).trans ?_);rw[T5];rw[Aw,Aw];simp only[Bq]at gb gc
 by_cases h2:k=2
 .refine As h2 ?_
  refine Ab gc ?_;rw[if_pos h2]
  cases GG (.mk k l r op p q ks)<;>rfl
 .refine Ap h2 ?_
  rw[if_neg h2]
  by_cases h6:k=6
  .refine As h6 ?_
   rw[if_pos h6]
   by_cases h3:l.length=0
   .refine As (by omega) ?_
    by_cases h4:r.length=0
    .refine As (by omega) ?_
     by_cases h5:op=0
     .refine As h5 ?_
      refine Ab gp ?_;simp only[ND,DK,Aa];rw[decide_eq_true h3,decide_eq_true h4,decide_eq_true h5]
      cases Cq p.data.toList with
      |false=>rfl
      |true=>
       refine Ad ?_;refine Ab gq ?_
       cases Cq q.data.toList<;>rfl
     .refine Ap h5 ?_
      simp[h5]
    .refine Ap (by omega) ?_
     simp[h4]
   .refine Ap (by omega) ?_
    simp[h3]
  .refine Ap h6 ?_
   rw[if_neg h6];refine Ab gb ?_
   cases EV (.mk k l r op p q ks)<;>rfl
theorem Zz(Kt:Knows Ag D9 D)(L:LexN D):∀(n:Nat) (t:Tr),SizeOf.sizeOf t<n->WzT t->WzP t->∀ d:Nat,d<=60->D.ask (.fn 74) [.agg (Bq t),iv (d:Int)] []=some (bv (AU t d),[]):=by
 intro n
 induction n with
 |zero=>intro t h;omega
 |succ n ih=>
  intro t ht hz hp d hd;have gb:=RG Kt t;have gl:=AcM K Kt L t hz hp;obtain⟨k,l,r,op,p,q,ks⟩:=t;obtain⟨hl,hr,hk,zl,zr,hx⟩:=hz;obtain⟨_,_,hy⟩:=hp;have ga:=QG K k;have gk:∀ x∈ks,∀ d:Nat,d<=60->D.ask (.fn 74) [.agg (Bq x),iv (d:Int)] []=some (bv (AU x d),[]):=λx hm d hd=>ih x (by
   have h1:=Lo hm;simp only[Tr.mk.sizeOf_spec]at ht;omega) (hx x hm) (hy x hm) d hd
  have glp:=λ(d:Nat) (hd:d<=60)=>Zy K (.mk k l r op p q ks) d hd ks hk gk _ 0 rfl
  simp only[υ,Tr.kind,IB,Bq]at glp;refine K.fn' Acg _ rfl ((e74 ..).trans ?_);rw[AU];rw[BW]at glp ⊢;rw[Aw];simp only[Bq,BW]at gb gl;refine Ab ga ?_;simp only[ND,DK,Aa]
  by_cases h4:(ks.length:Int)=Er k
  .refine As h4 ?_
   rw[if_pos h4]
   by_cases h0:Er k=0
   .refine As h0 ?_
    rw[if_pos h0];refine Ab gl ?_
    cases T5 (.mk k l r op p q ks)<;>rfl
   .refine Ap h0 ?_
    rw[if_neg h0]
    by_cases h1:Er k=1
    .refine As h1 ?_
     rw[decide_eq_true h1,Bo (by omega)]
     by_cases h60:d+1<=60
     .refine Ak (by omega) ?_
      rw[show Fx true d=d+1 from rfl,decide_eq_true h60,Arq];refine Ab gb ?_;simp only[ND,DK,Aa]
      cases EV (.mk k l r op p q ks) with
      |false=>rfl
      |true=>
       refine Ad ?_;refine Ab (glp (d+1) h60) ?_;rw[Arq]
       cases Fa k (d+1) 0 ks<;>rfl
     .refine Al (by omega) ?_
      rw[show Fx true d=d+1 from rfl,decide_eq_false h60,Ar2,Ar2]
    .refine Ap h1 ?_
     rw[decide_eq_false h1];refine Ak (by omega) ?_;rw[show Fx false d=d from rfl,decide_eq_true hd,Arq];refine Ab gb ?_;simp only[ND,DK,Aa]
     cases EV (.mk k l r op p q ks) with
     |false=>rfl
     |true=>
      refine Ad ?_;refine Ab (glp d hd) ?_;rw[Arq]
      cases Fa k d 0 ks<;>rfl
  .refine Ap h4 ?_
   rw[if_neg h4]
theorem G7(Kt:Knows Ag D9 D)(L:LexN D)(t:Tr)(hz:WzT t)(hp:WzP t):D.ask (.fn 36) [.agg (Bq t)] []=some (bv (AU t 0),[]):=by
 have g:=Zz K Kt L _ t (ArB _) hz hp 0 (by omega);obtain⟨k,l,r,op,p,q,ks⟩:=t;refine K.fn' Amy _ rfl ((e36 ..).trans ?_);refine Ab g ?_;simp only[ND,DK,Aa]
 cases AU (.mk k l r op p q ks) 0<;>rfl
end
def IS(l r:List Mo)(op:Int):List UInt8:=CJ l++[32]++EJ.getD op.toNat []++[32]++CJ r
def Al8(k:Int)(ts:List (List UInt8)):List UInt8:=if k=3 then [33]++ts.getD 0 [] else if k=4 then ts.getD 0 []++[32,38,32]++ts.getD 1 [] else if k=5 then ts.getD 0 []++[32,124,32]++ts.getD 1 [] else [116,114,117,101]
mutual
def txt:Tr->List UInt8
 |.mk k l r op p q ks=>if k=1 then [102,97,108,115,101] else if k=2 then(if GG (.mk k l r op p q ks) then IS l r op else []) else Al8 k (AaD k 0 ks)
def AaD(k:Int):Nat->List Tr->List (List UInt8)
 |_,[]=>[]
 |i,x::r=>(if brk k i x.kind then [40]++txt x++[41] else txt x)::AaD k (i+1) r
end
abbrev KT:=Nat × List UInt8
def kt(t:Tk):KT:=(t.kind,t.text)
def Mm(m:Mo):List KT:=if m.num≠Af [] then(if m.var≠Af [] then [(3,m.num.data.toList),(2,[42]),(1,m.var.data.toList)] else [(3,m.num.data.toList)]) else [(1,m.var.data.toList)]
def Z3(i:Nat)(m:Mo):List KT:=if m.neg then [(2,[45])] else if i=0 then [] else [(2,[43])]
def C6:Nat->List Mo->List KT
 |_,[]=>[]
 |i,m::r=>Z3 i m++Mm m++C6 (i+1) r
def D3(k:Int):List UInt8:=if k=3 then [33] else if k=8 then [88,32] else if k=9 then [71,32] else if k=10 then [70,32] else if k=4 then [32,38,32] else if k=5 then [32,124,32] else if k=7 then [32,45,62,32] else if k=11 then [32,85,32] else [32,82,32]
def FV:Tr->List UInt8
 |.mk k l r op p q ks=>if k=0 then [116,114,117,101] else if k=1 then [102,97,108,115,101] else if k=6 then [64]++p.data.toList++[46]++q.data.toList else if GG (.mk k l r op p q ks) then IS l r op else []
def AcL(t:Tr):List (List UInt8)->List UInt8
 |[]=>FV t
 |[a]=>D3 t.kind++a
 |a::b::_=>a++D3 t.kind++b
mutual
def BQ:Tr->List UInt8
 |.mk k l r op p q ks=>AcL (.mk k l r op p q []) (CI k 0 ks)
def CI(k:Int):Nat->List Tr->List (List UInt8)
 |_,[]=>[]
 |i,x::r=>(if Bp k i x.kind then [40]++BQ x++[41] else BQ x)::CI k (i+1) r
end
def AbG(ts:List Tk)(i e:Nat):Nat × Nat × Nat:=if e=0 then(if(nx ts i).kind=5 then(0,0,0) else((nx ts i).ln,(nx ts i).co,101)) else((nx ts i).ln,(nx ts i).co,e)
def TO(e:Nat)(x:Tr):Tr:=if e=0 then x else T0
def GO(x:Tr)(q:Nat × Nat × Nat):AV:=.tup [.agg (Bq (TO q.2.2 x)),.agg [iv (q.1:Int),iv (q.2.1:Int)],iv (q.2.2:Int)]
structure AllF (D:Orc) (s:ByteArray) (ts:List Tk) (ln co e:Nat):Prop where
 all:D.ask (.fn 91) [sv s] []=some (.tup [.ls (ts.map MF),.agg [iv (ln:Int),iv (co:Int)],iv (e:Int)],[])
 rall:D.ask (.fn 50) [sv s] []=some (.tup [.ls (ts.map MF),.agg [iv (ln:Int),iv (co:Int)],iv (e:Int)],[])
 zero:e=0->ln=0/\co=0
theorem Adb(a b:Int):Ah.not (Ah.band (Ah.eq a a) (Ah.band (Ah.eq b b) true))=false:=by
 rw[Fp,Fp,decide_eq_true rfl,decide_eq_true rfl];rfl
section
open Go.RowKit
variable (A:Ar) (D:Orc)
end
section
open Go.RowKit
variable (A:Ar) (D:Orc)
end
end Go.Proofs.YtlmhajfbpplpoaaGreat
