/- Which trees are right; what they are as text. No p -/
import Derived.Test.YtlmhajfbpplpoaaGreatSAU
import Derived.Test.YtlmhajfbpplpoaaGreatSBH
import Derived.Test.YtlmhajfbpplpoaaGreatSBA
set_option linter.unusedSectionVars false
set_option linter.unusedSimpArgs false
set_option linter.unusedVariables false
namespace Go.Proofs.YtlmhajfbpplpoaaGreat
open Go.RowKit
def Tr.kind:Tr->Int
 |.mk k _ _ _ _ _ _=>k
def Tr.kids:Tr->List Tr
 |.mk _ _ _ _ _ _ ks=>ks
def OC:Tr->Bool
 |.mk _ l r op p q _=>decide (l.length=0)&&decide (r.length=0)&&decide (op=0)&&decide (p=AE [])&&decide (q=AE [])
def Rg:Tr->Bool
 |.mk k l r op p q ks=>decide (k=2)&&Pm l&&Pm r&&decide (0<=op)&&decide (op<=5)&&decide (p=AE [])&&decide (q=AE [])&&decide (ks.length=0)
def arI(k:Int):Int:=if k=0 then 0 else if k=1 then 0 else if k=3 then 1 else if k=4 then 2 else if k=5 then 2 else -1
def brk(p:Int)(i:Nat)(k:Int):Bool:=if p=3 then decide (k=4)||decide (k=5) else if p=4 then decide (k=5)||(decide (i=1)&&decide (k=4)) else if p=5 then decide (i=1)&&decide (k=5) else false
def SU(b:Bool)(d:Nat):Nat:=if b then d+1 else d
mutual
def BN:Tr->Nat->Bool
 |.mk k l r op p q ks,d=>if k=2 then Rg (.mk k l r op p q ks) else OC (.mk k l r op p q ks)&&decide ((ks.length:Int)=arI k)&&decide (SU (decide (k=3)) d<=60)&&Ft k (SU (decide (k=3)) d) 0 ks
def Ft(k:Int)(d:Nat):Nat->List Tr->Bool
 |_,[]=>true
 |i,x::r=>(decide (SU (brk k i x.kind) d<=60)&&BN x (SU (brk k i x.kind) d))&&Ft k d (i+1) r
end
inductive WzT:Tr->Prop where
 |mk {k:Int} {l r:List Mo} {op:Int} {p q:ByteArray} {ks:List Tr} (hl:l.length<4611686018427387904) (hr:r.length<4611686018427387904) (hk:ks.length<4611686018427387904)
  (zl:∀ m∈l,m.num.size<=9223372036854775807/\m.var.size<=9223372036854775807) (zr:∀ m∈r,m.num.size<=9223372036854775807/\m.var.size<=9223372036854775807) (h:∀ x∈ks,WzT x):WzT (.mk k l r op p q ks)
section
variable {D:Orc}
variable (K:Knows As GY D)
include K
theorem UI(t:Tr):D.ask (.fn 45) [.agg (DI t)] []=some (bv (OC t),[]):=by
 obtain⟨k,l,r,op,p,q,ks⟩:=t
 refine K.fn' Aid _ rfl ((e45 ..).trans ?_)
 unfold OC
 rw[Ax,Ax]
 simp only[Qz,LI,Js,decide_eq_true_eq,ci0]
 by_cases h1:l.length=0<;>by_cases h2:r.length=0<;>by_cases h3:op=0<;>by_cases h4:p=AE []<;>by_cases h5:q=AE []<;>simp[h1,h2,h3,h4,h5]
theorem XS(k:Int):D.ask (.fn 110) [iv k] []=some (iv (arI k),[]):=by
 refine K.fn' AdO _ rfl ((Alo ..).trans ?_)
 unfold arI
 simp only[Qz,Js,decide_eq_true_eq]
 repeat' split
 all_goals rfl
theorem P2(p:Int)(i:Nat)(t:Tr):D.ask (.fn 111) [iv p,iv (i:Int),.agg (DI t)] []=some (bv (brk p i t.kind),[]):=by
 obtain⟨k,l,r,op,q,v,ks⟩:=t
 refine K.fn' AdP _ rfl ((Alp ..).trans ?_)
 unfold brk Tr.kind
 simp only[Qz,Js,decide_eq_true_eq,ci1]
 by_cases h1:p=3
 .by_cases h2:k=4<;>by_cases h3:k=5<;>simp[h1,h2,h3]
 .by_cases h4:p=4
  .by_cases h2:k=4<;>by_cases h3:k=5<;>by_cases h5:i=1<;>simp[h4,h2,h3,h5]
  .by_cases h6:p=5
   .by_cases h3:k=5<;>by_cases h5:i=1<;>simp[h6,h3,h5]
   .simp[h1,h4,h6]
theorem N3(L:LexN D)(t:Tr)(hz:WzT t):D.ask (.fn 46) [.agg (DI t)] []=some (bv (Rg t),[]):=by
 obtain⟨k,l,r,op,p,q,ks⟩:=t
 obtain⟨hl,hr,hk,zl,zr,_⟩:=hz
 have g1:=Ez K L l zl hl
 have g2:=Ez K L r zr hr
 refine K.fn' Aie _ rfl ((e46 ..).trans ?_)
 unfold Rg
 rw[Cw,Ax]
 by_cases h0:k=2
 .refine(AQ h0).trans ?_
  refine(Aa g1 _).trans ?_
  simp only[ND,Ab]
  cases Pm l with
  |false=>simp[h0,ND,Ab]
  |true=>
   simp only[ND,Ab]
   refine(Aa g2 _).trans ?_
   simp only[ND,Ab]
   cases Pm r with
   |false=>simp[h0,ND,Ab]
   |true=>
    simp only[ND,Ab,NF,Qz,LI,Js,decide_eq_true_eq,ci0]
    by_cases h3:0<=op<;>by_cases h4:op<=5<;>by_cases h5:p=AE []<;>by_cases h6:q=AE []<;>by_cases h7:ks.length=0<;>simp[h0,h3,h4,h5,h6,h7]
 .refine(AA h0).trans ?_
  simp[h0]
omit K in
theorem R2{x:Tr}{ks:List Tr}(h:x∈ks):SizeOf.sizeOf x<SizeOf.sizeOf ks:=List.sizeOf_lt_of_mem h
def MG(t:Tr):ABlk:=ABlk.mk (DI t) true false
theorem Z2(t:Tr)(d:Nat)(hd:d<=60)(ks:List Tr)(hk:ks.length<4611686018427387904)(g:∀ x∈ks,∀ d:Nat,d<=60->D.ask (.fn 62) [.agg (DI x),iv (d:Int)] []=some (bv (BN x d),[])):∀(n i:Nat),ks.length-i=n->
  D.ask (.lp 62 0) [iv (d:Int),.ptr 0 0,.ls (ks.map DI),iv (ks.length:Int),iv (i:Int)] [MG t]=some (if Ft t.kind d i (ks.drop i) then .tup [iv 0] else .tup [bv true,bv false],[.del]):=by
 intro n
 obtain⟨k,l,r,op,p,q,kz⟩:=t
 induction n with
 |zero=>
  intro i hi
  refine K.lp' Y3 _ rfl (by kernel_rfl) ((AdC ..).trans ?_)
  rw[show ks.drop i=[] from List.drop_eq_nil_of_le (by omega)]
  refine(Ap (by omega)).trans ?_
  rfl
 |succ n ih=>
  intro i hi
  have hlt:i<ks.length:=by omega
  have ih:=ih (i+1) (by omega)
  rw[show ks.drop i=ks[i]::ks.drop (i+1) from List.drop_eq_getElem_cons hlt]
  have gx:=g ks[i] (List.getElem_mem hlt)
  have hb:=P2 K k i ks[i]
  refine K.lp' Y3 _ rfl (by kernel_rfl) ((AdC ..).trans ?_)
  refine(Aq (by omega)).trans ?_
  rw[AN,AO (List.getElem?_eq_getElem hlt)]
  revert gx hb
  generalize ks[i]=x
  obtain⟨xk,xl,xr,xo,xp,xq,xs⟩:=x
  intro gx hb
  unfold Ft Tr.kind
  unfold Tr.kind at hb ih
  simp only[DI,ND,Ab]
  refine(Aa hb _).trans ?_
  simp only[ND,Ab]
  have tl:∀(b:Bool),(if b=true then Ft k d (i+1) (ks.drop (i+1))=true else False)->True:=fun _ _=>trivial
  cases hbk:brk k i xk with
  |true=>
   refine(Az _ _).trans ?_
   rw[Bn (by omega)]
   by_cases h60:d+1<=60
   .refine(Ap (by omega)).trans ?_
    refine(Aa (gx (d+1) h60) _).trans ?_
    simp only[ND,Ab]
    rw[show SU true d=d+1 from rfl,decide_eq_true h60,Bool.true_and]
    cases BN (.mk xk xl xr xo xp xq xs) (d+1) with
    |false=>rfl
    |true=>
     refine(Az _ _).trans ?_
     rw[Bn (by omega)]
     refine(Aa ih _).trans ?_
     rw[Bool.true_and]
     cases Ft k d (i+1) (ks.drop (i+1))<;>rfl
   .refine(Aq (by omega)).trans ?_
    rw[show SU true d=d+1 from rfl,decide_eq_false h60,Bool.false_and,Bool.false_and]
    rfl
  |false=>
   refine(CM _ _).trans ?_
   refine(Ap (by omega)).trans ?_
   refine(Aa (gx d hd) _).trans ?_
   simp only[ND,Ab]
   rw[show SU false d=d from rfl,decide_eq_true hd,Bool.true_and]
   cases BN (.mk xk xl xr xo xp xq xs) d with
   |false=>rfl
   |true=>
    refine(Az _ _).trans ?_
    rw[Bn (by omega)]
    refine(Aa ih _).trans ?_
    rw[Bool.true_and]
    cases Ft k d (i+1) (ks.drop (i+1))<;>rfl
theorem Z3(L:LexN D):∀(n:Nat) (t:Tr),SizeOf.sizeOf t<n->WzT t->∀ d:Nat,d<=60->D.ask (.fn 62) [.agg (DI t),iv (d:Int)] []=some (bv (BN t d),[]):=by
 intro n
 induction n with
 |zero=>intro t h;omega
 |succ n ih=>
  intro t ht hz d hd
  have gb:=UI K t
  have gc:=N3 K L t hz
  obtain⟨k,l,r,op,p,q,ks⟩:=t
  obtain⟨hl,hr,hk,zl,zr,hx⟩:=hz
  have ga:=XS K k
  have gk:∀ x∈ks,∀ d:Nat,d<=60->D.ask (.fn 62) [.agg (DI x),iv (d:Int)] []=some (bv (BN x d),[]):=fun x hm d hd=>ih x (by
   have h1:=R2 hm
   simp only[Tr.mk.sizeOf_spec]at ht
   omega) (hx x hm) d hd
  have glp:=fun(d:Nat) (hd:d<=60)=>Z2 K (.mk k l r op p q ks) d hd ks hk gk _ 0 rfl
  simp only[List.drop_zero,Tr.kind,MG,DI]at glp
  refine K.fn' Y3 _ rfl ((e62 ..).trans ?_)
  unfold BN
  rw[Cw]at glp ⊢
  rw[Ax]
  simp only[DI,Cw]at gb gc
  by_cases h2:k=2
  .refine(AQ h2).trans ?_
   refine(Aa gc _).trans ?_
   simp only[ND,Ab]
   rw[if_pos h2]
   cases Rg (.mk k l r op p q ks)<;>rfl
  .refine(AA h2).trans ?_
   rw[if_neg h2]
   have fin:∀(d:Nat),d<=61->∀(X:KR),(d<=60->X=some (bv (Ft k d 0 ks),[]))->br (Ao.lt 60 (d:Int)) (some (bv false,[])) X=some (bv (decide (d<=60)&&Ft k d 0 ks),[]):=fun d h61 X hX=>by
    by_cases h:d<=60
    .refine(Ap (by omega)).trans ?_
     rw[hX h,decide_eq_true h,Bool.true_and]
    .refine(Aq (by omega)).trans ?_
     rw[decide_eq_false h,Bool.false_and]
   by_cases h3:k=3
   .refine(AQ h3).trans ?_
    refine(Aa gb _).trans ?_
    simp only[ND,Ab]
    cases OC (.mk k l r op p q ks) with
    |false=>rfl
    |true=>
     refine(Az _ _).trans ?_
     refine(Aa ga _).trans ?_
     simp only[ND,Ab]
     by_cases h4:(ks.length:Int)=arI k
     .refine(AQ h4).trans ?_
      rw[decide_eq_true h4,Bool.true_and,Bool.true_and,decide_eq_true h3,Bn (by omega)]
      refine fin (d+1) (by omega) _ fun h=>?_
      refine(Aa (glp (d+1) h) _).trans ?_
      cases Ft k (d+1) 0 ks<;>rfl
     .refine(AA h4).trans ?_
      rw[decide_eq_false h4,Bool.true_and,Bool.false_and,Bool.false_and]
   .refine(AA h3).trans ?_
    refine(Aa gb _).trans ?_
    simp only[ND,Ab]
    cases OC (.mk k l r op p q ks) with
    |false=>rfl
    |true=>
     refine(Az _ _).trans ?_
     refine(Aa ga _).trans ?_
     simp only[ND,Ab]
     by_cases h4:(ks.length:Int)=arI k
     .refine(AQ h4).trans ?_
      rw[decide_eq_true h4,Bool.true_and,Bool.true_and,decide_eq_false h3]
      refine fin d (by omega) _ fun h=>?_
      refine(Aa (glp d h) _).trans ?_
      cases Ft k d 0 ks<;>rfl
     .refine(AA h4).trans ?_
      rw[decide_eq_false h4,Bool.true_and,Bool.false_and,Bool.false_and]
theorem Q6(L:LexN D)(t:Tr)(hz:WzT t):D.ask (.fn 24) [.agg (DI t)] []=some (bv (BN t 0),[]):=by
 have g:=Z3 K L _ t (Nat.lt_succ_self _) hz 0 (by omega)
 obtain⟨k,l,r,op,p,q,ks⟩:=t
 refine K.fn' Aia _ rfl ((e24 ..).trans ?_)
 refine(Aa g _).trans ?_
 simp only[ND,Ab]
 cases BN (.mk k l r op p q ks) 0<;>rfl
end
theorem Pe(x:List AV)(r:List (List AV))(k:List AV->KR):BG (x::r) 0 k=k x:=rfl
structure AlF (D:Orc):Prop where
 term:∃ xs a b,D.ask (.fn 44) [.ls (Vo.map Gt),.ls [[sv (AE [120])]]] []=some (.tup [.agg [.ls xs,bv a,.ls b],bv true],[])/\Be xs=1
 form:∃ a b c d e,D.ask (.fn 27) [.agg (DI t1),.ls [[sv (AE [120])],[sv (AE [121])],[sv (AE [97])]]] []=some (.tup [.agg [iv 4,.ls a,bv b,.ls c,bv d,.ls e],bv true],[])
 text:D.ask (.fn 25) [.agg (DI t1)] []=some (sv (AE s1),[])
 sumText:D.ask (.fn 22) [.ls (Vo.map Gt)] []=some (sv (AE s3),[])
 right:D.ask (.fn 24) [.agg (DI t1)] []=some (bv true,[])
 rightSum:D.ask (.fn 23) [.ls (Vo.map Gt)] []=some (bv true,[])
 bare:D.ask (.fn 45) [.agg (DI t1)] []=some (bv true,[])
 cmp:D.ask (.fn 46) [.agg (DI To)] []=some (bv true,[])
 ct:D.ask (.fn 47) [.agg (DI To)] []=some (sv (AE s4),[])
section
variable {D:Orc}
end
theorem U2(n:Bool)(a b:List UInt8)(h1:a.length<=100)(h2:b.length<=100):(m2 n a b).num.size<=9223372036854775807/\(m2 n a b).var.size<=9223372036854775807:=by
 unfold m2
 simp only[V5]
 omega
theorem UM:WzT To:=.mk (by decide) (by decide) (by decide) (by
  intro m h
  simp only[List.mem_cons,List.not_mem_nil,or_false]at h
  rcases h with rfl|rfl<;>exact U2 _ _ _ (by decide) (by decide)) (by
  intro m h
  simp only[List.mem_cons,List.not_mem_nil,or_false]at h
  rcases h with rfl;exact U2 _ _ _ (by decide) (by decide)) (by simp)
theorem Abs:WzT AhU:=.mk (by decide) (by decide) (by decide) (by
  intro m h
  simp only[List.mem_cons,List.not_mem_nil,or_false]at h
  rcases h with rfl;exact U2 _ _ _ (by decide) (by decide)) (by
  intro m h
  simp only[List.mem_cons,List.not_mem_nil,or_false]at h
  rcases h with rfl;exact U2 _ _ _ (by decide) (by decide)) (by simp)
theorem JI(k:Int)(ks:List Tr)(h0:ks.length<=10)(h:∀ x∈ks,WzT x):WzT (OY k ks):=.mk (by simp) (by simp) (by omega) (by simp) (by simp) h
theorem Afp:WzT t1:=JI _ _ (by decide) (by
 intro x h
 simp only[List.mem_cons,List.not_mem_nil,or_false]at h
 rcases h with rfl|rfl
 .exact UM
 .refine JI _ _ (by decide) ?_
  intro x h
  simp only[List.mem_cons,List.not_mem_nil,or_false]at h
  subst h
  refine JI _ _ (by decide) ?_
  intro x h
  simp only[List.mem_cons,List.not_mem_nil,or_false]at h
  rcases h with rfl|rfl
  .exact Abs
  .exact JI _ _ (by decide) (by simp))
section
variable {D:Orc}
set_option maxRecDepth 100000 in
theorem XQ(Kv:Knows As VJ D)(F:AlF D)(a1:D.ask (.fn 17) [sv (AE s1)] []=some (.tup [.agg (DI t1),.agg [iv 0,iv 0],iv 0],[]))(a2:D.ask (.fn 17) [sv (AE s2)] []=some (.tup [.agg (DI T0),.agg [iv 1,iv 4],iv 101],[]))(a3:D.ask (.fn 15) [sv (AE s3)] []=some (.tup [.ls (Vo.map Gt),.agg [iv 0,iv 0],iv 0],[])):D.ask (.fn 14) [] []=some (bv true,[]):=by
 obtain⟨tx,ta,tb,hterm,tl⟩:=F.term
 obtain⟨f1,f2,f3,f4,f5,hform⟩:=F.form
 have hS:=F.sumText
 have htext:=F.text
 have hright:=F.right
 have hrs:=F.rightSum
 have hbare:=F.bare
 have hcmp:=F.cmp
 have hct:=F.ct
 refine Kv.fn' Ah8 _ rfl ((e14 ..).trans ?_)
 refine(Aa a1 _).trans ?_
 simp only[t1,OY,DI,ND,Ab]
 refine(Aa a2 _).trans ?_
 simp only[T0,DI,ND,Ab]
 refine(Aa a3 _).trans ?_
 simp only[ND,Ab]
 refine(AQ rfl).trans ?_
 refine(CM _ _).trans ?_
 refine(AQ rfl).trans ?_
 refine(AQ rfl).trans ?_
 refine(AQ rfl).trans ?_
 refine(CM _ _).trans ?_
 refine(AQ rfl).trans ?_
 refine(AQ rfl).trans ?_
 refine(Aa hterm _).trans ?_
 simp only[ND,Ab]
 refine(Aa hform _).trans ?_
 simp only[ND,Ab]
 refine(Aa htext _).trans ?_
 simp only[ND,Ab]
 refine(Dd rfl).trans ?_
 refine(Aa hS _).trans ?_
 simp only[ND,Ab]
 refine(Dd rfl).trans ?_
 refine(Aa hright _).trans ?_
 simp only[ND,Ab]
 refine(Aa hrs _).trans ?_
 simp only[ND,Ab]
 rw[tl]
 refine(AQ rfl).trans ?_
 refine(AQ rfl).trans ?_
 refine(Aa hbare _).trans ?_
 simp only[Cw,List.map_cons,Pe,To,DI,ND,Ab]
 refine(Aa hcmp _).trans ?_
 simp only[Pe,ND,Ab]
 refine(Aa hct _).trans ?_
 simp only[ND,Ab]
 refine(Dd rfl).trans ?_
 rfl
end
end Go.Proofs.YtlmhajfbpplpoaaGreat
