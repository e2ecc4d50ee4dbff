/- What expr's tests of trees come to. Functions of t -/
import Derived.Test.YtlmhajfbpplpoaaGreatOBH
set_option linter.all false
open Bool renaming false_and->Aqx,true_and->ApZ
namespace Go.Proofs.YtlmhajfbpplpoaaGreat
open Go.RowKit
section
variable {D:Orc}
variable (K:Knows Al FN D)
include K
theorem QE(t:Tr):D.ask (.fn 45) [.agg (Ck t)] []=some (bv (FZ t),[]):=by
 obtain⟨k,l,r,op,p,q,ks⟩:=t;refine K.fn' Ak2 _ rfl ((e45 ..).trans ?_);unfold FZ;rw[Av,Av];simp only[Kn,Mk,G6,decide_eq_true_eq,ci0]
 by_cases h1:l.length=0<;>by_cases h2:r.length=0<;>by_cases h3:op=0<;>by_cases h4:p=AI []<;>by_cases h5:q=AI []<;>simp[h1,h2,h3,h4,h5]
theorem Zp(k:Int):D.ask (.fn 110) [iv k] []=some (iv (arI k),[]):=by
 refine K.fn' Agn _ rfl ((Am5 ..).trans ?_);unfold arI;simp only[Kn,G6,decide_eq_true_eq]
 repeat' split
 all_goals rfl
theorem QM(p:Int)(i:Nat)(t:Tr):D.ask (.fn 111) [iv p,iv (i:Int),.agg (Ck t)] []=some (bv (brk p i t.kind),[]):=by
 obtain⟨k,l,r,op,q,v,ks⟩:=t;refine K.fn' Ago _ rfl ((Am6 ..).trans ?_);unfold brk Tr.kind;simp only[Kn,G6,decide_eq_true_eq,ci1]
 by_cases h1:p=3
 .by_cases h2:k=4<;>by_cases h3:k=5<;>simp[h1,h2,h3]
 .by_cases h4:p=4
  .by_cases h2:k=4<;>by_cases h3:k=5<;>by_cases h5:i=1<;>simp[h4,h2,h3,h5]
  .by_cases h6:p=5
   .by_cases h3:k=5<;>by_cases h5:i=1<;>simp[h6,h3,h5]
   .simp[h1,h4,h6]
theorem ON(L:LexN D)(t:Tr)(hz:WzT t):D.ask (.fn 46) [.agg (Ck t)] []=some (bv (Nr t),[]):=by
 obtain⟨k,l,r,op,p,q,ks⟩:=t;obtain⟨hl,hr,hk,zl,zr,_⟩:=hz;have g1:=FM K L l zl hl;have g2:=FM K L r zr hr;refine K.fn' Ak3 _ rfl ((e46 ..).trans ?_);unfold Nr;rw[B3,Av]
 by_cases h0:k=2
 .refine AF h0 ?_
  refine Ab g1 ?_;simp only[ND,Aa]
  cases Pc l with
  |false=>simp[h0,ND,Aa]
  |true=>
   simp only[ND,Aa];refine Ab g2 ?_;simp only[ND,Aa]
   cases Pc r with
   |false=>simp[h0,ND,Aa]
   |true=>
    simp only[ND,Aa,Oj,Kn,Mk,G6,decide_eq_true_eq,ci0]
    by_cases h3:0<=op<;>by_cases h4:op<=5<;>by_cases h5:p=AI []<;>by_cases h6:q=AI []<;>by_cases h7:ks.length=0<;>simp[h0,h3,h4,h5,h6,h7]
 .refine eqF_go h0 ?_
  simp[h0]
omit K in
theorem NZ{x:Tr}{ks:List Tr}(h:x∈ks):SizeOf.sizeOf x<SizeOf.sizeOf ks:=List.sizeOf_lt_of_mem h
def K0(t:Tr):ABlk:=ABlk.mk (Ck t) true false
theorem Ab2(t:Tr)(d:Nat)(hd:d<=60)(ks:List Tr)(hk:ks.length<4611686018427387904)(g:∀ x∈ks,∀ d:Nat,d<=60->D.ask (.fn 62) [.agg (Ck x),iv (d:Int)] []=some (bv (BW x d),[])):∀(n i:Nat),ks.length-i=n->
  D.ask (.lp 62 0) [iv (d:Int),.ptr 0 0,.ls (ks.map Ck),iv (ks.length:Int),iv (i:Int)] [K0 t]=some (if FG t.kind d i (ks.drop i) then .tup [iv 0] else .tup [bv true,bv false],[.del]):=by
 intro n;obtain⟨k,l,r,op,p,q,kz⟩:=t
 induction n with
 |zero=>
  intro i hi;refine K.lp' AaS _ rfl (by kernel_rfl) ((Af9 ..).trans ?_);rw[show ks.drop i=[] from List.drop_eq_nil_of_le (by omega)];refine ltF_go (by omega)?_;rfl
 |succ n ih=>
  intro i hi;have hlt:i<ks.length:=by omega
  have ih:=ih (i+1) (by omega);rw[show ks.drop i=ks[i]::ks.drop (i+1) from List.drop_eq_getElem_cons hlt];have gx:=g ks[i] (List.getElem_mem hlt);have hb:=QM K k i ks[i];refine K.lp' AaS _ rfl (by kernel_rfl) ((Af9 ..).trans ?_);refine Ao (by omega)?_;rw[AG,AD (List.getElem?_eq_getElem hlt)];revert gx hb;generalize ks[i]=x;obtain⟨xk,xl,xr,xo,xp,xq,xs⟩:=x;intro gx hb;unfold FG Tr.kind;unfold Tr.kind at hb ih;simp only[Ck,ND,Aa];refine Ab hb ?_;simp only[ND,Aa];have tl:∀(b:Bool),(if b=true then FG k d (i+1) (ks.drop (i+1))=true else False)->True:=λ_ _=>trivial
  cases hbk:brk k i xk with
  |true=>
   refine Ag ?_;rw[Bh (by omega)]
   by_cases h60:d+1<=60
   .refine ltF_go (by omega)?_
    refine Ab (gx (d+1) h60)?_;simp only[ND,Aa];rw[show IV true d=d+1 from rfl,decide_eq_true h60,ApZ]
    cases BW (.mk xk xl xr xo xp xq xs) (d+1) with
    |false=>rfl
    |true=>
     refine Ag ?_;rw[Bh (by omega)];refine Ab ih ?_;rw[ApZ]
     cases FG k d (i+1) (ks.drop (i+1))<;>rfl
   .refine Ao (by omega)?_
    rw[show IV true d=d+1 from rfl,decide_eq_false h60,Aqx,Aqx];rfl
  |false=>
   refine brF_go ?_;refine ltF_go (by omega)?_;refine Ab (gx d hd)?_;simp only[ND,Aa];rw[show IV false d=d from rfl,decide_eq_true hd,ApZ]
   cases BW (.mk xk xl xr xo xp xq xs) d with
   |false=>rfl
   |true=>
    refine Ag ?_;rw[Bh (by omega)];refine Ab ih ?_;rw[ApZ]
    cases FG k d (i+1) (ks.drop (i+1))<;>rfl
theorem Ab3(L:LexN D):∀(n:Nat) (t:Tr),SizeOf.sizeOf t<n->WzT t->∀ d:Nat,d<=60->D.ask (.fn 62) [.agg (Ck t),iv (d:Int)] []=some (bv (BW t d),[]):=by
 intro n
 induction n with
 |zero=>intro t h;omega
 |succ n ih=>
  intro t ht hz d hd;have gb:=QE K t;have gc:=ON K L t hz;obtain⟨k,l,r,op,p,q,ks⟩:=t;obtain⟨hl,hr,hk,zl,zr,hx⟩:=hz;have ga:=Zp K k;have gk:∀ x∈ks,∀ d:Nat,d<=60->D.ask (.fn 62) [.agg (Ck x),iv (d:Int)] []=some (bv (BW x d),[]):=λx hm d hd=>ih x (by
   have h1:=NZ hm;simp only[Tr.mk.sizeOf_spec]at ht;omega) (hx x hm) d hd
  have glp:=λ(d:Nat) (hd:d<=60)=>Ab2 K (.mk k l r op p q ks) d hd ks hk gk _ 0 rfl
  simp only[List.drop_zero,Tr.kind,K0,Ck]at glp;refine K.fn' AaS _ rfl ((e62 ..).trans ?_);unfold BW;rw[B3]at glp ⊢;rw[Av];simp only[Ck,B3]at gb gc
  by_cases h2:k=2
  .refine AF h2 ?_
   refine Ab gc ?_;simp only[ND,Aa];rw[if_pos h2]
   cases Nr (.mk k l r op p q ks)<;>rfl
  .refine eqF_go h2 ?_
   rw[if_neg h2];have fin:∀(d:Nat),d<=61->∀(X:KR),(d<=60->X=some (bv (FG k d 0 ks),[]))->br (Aj.lt 60 (d:Int)) (some (bv false,[])) X=some (bv (decide (d<=60)&&FG k d 0 ks),[]):=λd h61 X hX=>by
    by_cases h:d<=60
    .refine ltF_go (by omega)?_
     rw[hX h,decide_eq_true h,ApZ]
    .refine Ao (by omega)?_
     rw[decide_eq_false h,Aqx]
   by_cases h3:k=3
   .refine AF h3 ?_
    refine Ab gb ?_;simp only[ND,Aa]
    cases FZ (.mk k l r op p q ks) with
    |false=>rfl
    |true=>
     refine Ag ?_;refine Ab ga ?_;simp only[ND,Aa]
     by_cases h4:(ks.length:Int)=arI k
     .refine AF h4 ?_
      rw[decide_eq_true h4,ApZ,ApZ,decide_eq_true h3,Bh (by omega)];refine fin (d+1) (by omega) _ λh=>?_
      refine Ab (glp (d+1) h)?_
      cases FG k (d+1) 0 ks<;>rfl
     .refine eqF_go h4 ?_
      rw[decide_eq_false h4,ApZ,Aqx,Aqx]
   .refine eqF_go h3 ?_
    refine Ab gb ?_;simp only[ND,Aa]
    cases FZ (.mk k l r op p q ks) with
    |false=>rfl
    |true=>
     refine Ag ?_;refine Ab ga ?_;simp only[ND,Aa]
     by_cases h4:(ks.length:Int)=arI k
     .refine AF h4 ?_
      rw[decide_eq_true h4,ApZ,ApZ,decide_eq_false h3];refine fin d (by omega) _ λh=>?_
      refine Ab (glp d h)?_
      cases FG k d 0 ks<;>rfl
     .refine eqF_go h4 ?_
      rw[decide_eq_false h4,ApZ,Aqx,Aqx]
theorem Zf(L:LexN D)(t:Tr)(hz:WzT t):D.ask (.fn 24) [.agg (Ck t)] []=some (bv (BW t 0),[]):=by
 have g:=Ab3 K L _ t (Nat.lt_succ_self _) hz 0 (by omega);obtain⟨k,l,r,op,p,q,ks⟩:=t;refine K.fn' AkW _ rfl ((e24 ..).trans ?_);refine Ab g ?_;simp only[ND,Aa]
 cases BW (.mk k l r op p q ks) 0<;>rfl
end
noncomputable def Ait:List (Nat × MFn):=[(53,mf53)]
section
variable {D:Orc}
end
structure AllF (D:Orc) (s:ByteArray) (ts:List Tk) (ln co e:Nat):Prop where
 all:D.ask (.fn 91) [sv s] []=some (.tup [.ls (ts.map eTk),.agg [iv (ln:Int),iv (co:Int)],iv (e:Int)],[])
 rall:D.ask (.fn 50) [sv s] []=some (.tup [.ls (ts.map eTk),.agg [iv (ln:Int),iv (co:Int)],iv (e:Int)],[])
 zero:e=0->ln=0/\co=0
theorem Abz(a b:Int):Aj.not (Aj.band (Aj.eq a a) (Aj.band (Aj.eq b b) true))=false:=by
 rw[Kn,Kn,decide_eq_true rfl,decide_eq_true rfl];rfl
noncomputable def AmI:List (Nat × MFn):=[(48,mf48),(15,mf15),(17,mf17)]
noncomputable def AmF:List (Nat × MFn):=[(16,mf16),(18,mf18)]
end Go.Proofs.YtlmhajfbpplpoaaGreat
