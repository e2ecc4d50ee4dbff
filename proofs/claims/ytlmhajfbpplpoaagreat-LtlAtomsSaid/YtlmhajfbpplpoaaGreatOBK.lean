/- Conditions as formulas: -/
import Derived.Test.YtlmhajfbpplpoaaGreatOBJ
set_option linter.all false
open Bool renaming false_and->Aqp,true_and->ApP
namespace Go.Proofs.YtlmhajfbpplpoaaGreat
open Go.RowKit
def J7(m:Mo):Int:=if m.num=Ax [] then 1 else zv (Ga m.num).1
def Hd(m:Mo):Int:=if m.neg then -J7 m else J7 m
section
variable (vars:List ByteArray)
def DV:List Mo->Lf->Option Lf
 |[],out=>some out
 |m::r,out=>if m.var=Ax [] then DV r ⟨out.ps,out.k+Hd m⟩ else match vars.findIdx? (m.var = ·) with
  |none=>none
  |some v=>DV r ⟨out.ps++[((v:Int),Hd m)],out.k⟩
def Ex(ms:List Mo):Lf × Bool:=if O6 ms then(match DV vars ms OR with
 |some l=>(l.pln,true)
 |none=>(OR,false)) else(OR,false)
mutual
def Cl:Tr->Fm × Bool
 |.mk k l r op _ _ ks=>if k=2 then(OZ op (Ex vars l).1 (Ex vars r).1,(Ex vars l).2&&(Ex vars r).2) else match BW ks with
  |none=>(kF 0 [],false)
  |some fs=>(if k=0 then MI true else if k=3\/k=4\/k=5 then kF k fs else MI false,true)
def BW:List Tr->Option (List Fm)
 |[]=>some []
 |x::r=>if(Cl x).2 then(match BW r with
  |none=>none
  |some fs=>some ((Cl x).1::fs)) else none
end
def C7(f:Int->Int):List Mo->Int
 |[]=>0
 |m::r=>(if m.var=Ax [] then Hd m else match vars.findIdx? (m.var = ·) with
  |none=>0
  |some v=>Hd m*f v)+C7 f r
mutual
def DB(f:Int->Int):Tr->Bool
 |.mk k l r op _ _ ks=>if k=0 then true else if k=2 then VP op (C7 vars f l) (C7 vars f r) else if k=3 then MT f ks else if k=4 then GF f ks else if k=5 then GG f ks else false
def MT(f:Int->Int):List Tr->Bool
 |[]=>false
 |x::_=>!DB f x
def GF(f:Int->Int):List Tr->Bool
 |[]=>true
 |x::r=>DB f x&&GF f r
def GG(f:Int->Int):List Tr->Bool
 |[]=>false
 |x::r=>DB f x||GG f r
end
theorem LH(f:Int->Int):∀(ms:List Mo) (out l:Lf),DV vars ms out=some l->l.val f=out.val f+C7 vars f ms
 |[],out,l,h=>by
  rw[DV]at h
  cases h
  rw[C7];omega
 |m::r,out,l,h=>by
  rw[DV]at h;rw[C7];split at h
  .rename_i hv
   rw[if_pos hv,LH f r _ l h];unfold Lf.val;simp only;omega
  .rename_i hv
   rw[if_neg hv];split at h
   .cases h
   .rename_i v e
    rw[LH f r _ l h];unfold Lf.val;simp only[Oy,DL];omega
theorem Qi{f:Int->Int}(hf:∀ v,v<0->f v=0){ms:List Mo}(h:(Ex vars ms).2=true):(Ex vars ms).1.val f=C7 vars f ms:=by
 unfold Ex at h ⊢;split at h
 .rename_i h1
  split at h
  .rename_i l e
   rw[if_pos h1]
   show l.pln.val f=_
   rw[RJ hf,LH vars f ms _ l e]
   show (0:Int)+0+C7 vars f ms=C7 vars f ms
   omega
  .cases h
 .cases h
mutual
theorem NE{f:Int->Int}(hf:∀ v,v<0->f v=0):∀ t:Tr,(Cl vars t).2=true->Df f (Cl vars t).1=DB vars f t
 |.mk k l r op p q ks,h=>by
  rw[Cl]at h ⊢;rw[DB]
  by_cases h2:k=2
  .rw[if_pos h2]at h ⊢
   rw[if_neg (show ¬ k=0 by omega),if_pos h2];simp only[Bool.and_eq_true]at h;simp only;rw[XQ hf,Qi vars hf h.1,Qi vars hf h.2]
  .rw[if_neg h2]at h ⊢
   cases e:BW vars ks with
   |none=>rw[e]at h;cases h
   |some fs=>
    obtain⟨g1,g2,g3⟩:=LU hf ks fs e;simp only
    by_cases h0:k=0
    .rw[if_pos h0,if_pos h0,La]
    rw[if_neg h0,if_neg h0,if_neg h2]
    by_cases h3:k=3
    .rw[if_pos (.inl h3),if_pos h3,h3,←g1]
     rfl
    rw[if_neg h3]
    by_cases h4:k=4
    .rw[if_pos (.inr (.inl h4)),if_pos h4,h4,←g2]
     rfl
    rw[if_neg h4]
    by_cases h5:k=5
    .rw[if_pos (.inr (.inr h5)),if_pos h5,h5,←g3]
     rfl
    rw[if_neg h5,if_neg (by omega),La]
theorem LU{f:Int->Int}(hf:∀ v,v<0->f v=0):∀(ks:List Tr) (fs:List Fm),BW vars ks=some fs->NM f fs=MT vars f ks/\GC f fs=GF vars f ks/\GD f fs=GG vars f ks
 |[],fs,h=>by
  rw[BW]at h
  cases h
  exact⟨rfl,rfl,rfl⟩
 |x::r,fs,h=>by
  rw[BW]at h;split at h
  .rename_i hx
   have g:=NE hf x hx;split at h
   .cases h
   .rename_i gs e
    obtain⟨g1,g2,g3⟩:=LU hf r gs e
    cases h
    refine⟨?_,?_,?_⟩
    .rw[NM,MT,g]
    .rw[GC,GF,g,g2]
    .rw[GD,GG,g,g3]
  .cases h
end
end
section
variable {D:Orc}
variable (K:Knows Al Gk D)
include K
theorem QB(t:Tr):D.ask (.fn 45) [.agg (B7 t)] []=some (bv (FR t),[]):=by
 obtain⟨k,l,r,op,p,q,ks⟩:=t;refine K.fn' Ak3 _ rfl ((e45 ..).trans ?_);unfold FR;rw[Ao,Ao];simp only[Kg,Me,G2,decide_eq_true_eq,ci0]
 by_cases h1:l.length=0<;>by_cases h2:r.length=0<;>by_cases h3:op=0<;>by_cases h4:p=Ax []<;>by_cases h5:q=Ax []<;>simp[h1,h2,h3,h4,h5]
theorem Zq(k:Int):D.ask (.fn 110) [iv k] []=some (iv (arI k),[]):=by
 refine K.fn' Agr _ rfl ((Am1 ..).trans ?_);unfold arI;simp only[Kg,G2,decide_eq_true_eq]
 repeat' split
 all_goals rfl
theorem QK(p:Int)(i:Nat)(t:Tr):D.ask (.fn 111) [iv p,iv (i:Int),.agg (B7 t)] []=some (bv (brk p i t.kind),[]):=by
 obtain⟨k,l,r,op,q,v,ks⟩:=t;refine K.fn' Ags _ rfl ((Am2 ..).trans ?_);unfold brk Tr.kind;simp only[Kg,G2,decide_eq_true_eq,ci1]
 by_cases h1:p=3
 .by_cases h2:k=4<;>by_cases h3:k=5<;>simp[h1,h2,h3]
 .by_cases h4:p=4
  .by_cases h2:k=4<;>by_cases h3:k=5<;>by_cases h5:i=1<;>simp[h4,h2,h3,h5]
  .by_cases h6:p=5
   .by_cases h3:k=5<;>by_cases h5:i=1<;>simp[h6,h3,h5]
   .simp[h1,h4,h6]
theorem OH(L:LexN D)(t:Tr)(hz:WzT t):D.ask (.fn 46) [.agg (B7 t)] []=some (bv (Nm t),[]):=by
 obtain⟨k,l,r,op,p,q,ks⟩:=t;obtain⟨hl,hr,hk,zl,zr,_⟩:=hz;have g1:=FF K L l zl hl;have g2:=FF K L r zr hr;refine K.fn' Ak4 _ rfl ((e46 ..).trans ?_);unfold Nm;rw[BQ,Ao]
 by_cases h0:k=2
 .refine Av h0 ?_
  refine Ab g1 ?_;simp only[ND,DK,Aa]
  cases O6 l with
  |false=>simp[h0,ND,DK,Aa]
  |true=>
   simp only[ND,DK,Aa];refine Ab g2 ?_;simp only[ND,DK,Aa]
   cases O6 r with
   |false=>simp[h0,ND,DK,Aa]
   |true=>
    simp only[ND,DK,Aa,Od,Kg,Me,G2,decide_eq_true_eq,ci0]
    by_cases h3:0<=op<;>by_cases h4:op<=5<;>by_cases h5:p=Ax []<;>by_cases h6:q=Ax []<;>by_cases h7:ks.length=0<;>simp[h0,h3,h4,h5,h6,h7]
 .refine Am h0 ?_
  simp[h0]
omit K in
theorem NT{x:Tr}{ks:List Tr}(h:x∈ks):SizeOf.sizeOf x<SizeOf.sizeOf ks:=List.sizeOf_lt_of_mem h
def KV(t:Tr):ABlk:=ABlk.mk (B7 t) true false
theorem Ab2(t:Tr)(d:Nat)(hd:d<=60)(ks:List Tr)(hk:ks.length<4611686018427387904)(g:∀ x∈ks,∀ d:Nat,d<=60->D.ask (.fn 62) [.agg (B7 x),iv (d:Int)] []=some (bv (Cc x d),[])):∀(n i:Nat),ks.length-i=n->
  D.ask (.lp 62 0) [iv (d:Int),.ptr 0 0,.ls (ks.map B7),iv (ks.length:Int),iv (i:Int)] [KV t]=some (if Fy t.kind d i (ks.drop i) then .tup [iv 0] else .tup [bv true,bv false],[.del]):=by
 intro n;obtain⟨k,l,r,op,p,q,kz⟩:=t
 induction n with
 |zero=>
  intro i hi;refine K.lp' AaT _ rfl (by kernel_rfl) ((Agd ..).trans ?_);rw[show ks.drop i=[] from List.drop_eq_nil_of_le (by omega)];refine Ah (by omega) ?_;rfl
 |succ n ih=>
  intro i hi;have hlt:i<ks.length:=by omega
  have ih:=ih (i+1) (by omega);rw[show ks.drop i=ks[i]::ks.drop (i+1) from List.drop_eq_getElem_cons hlt];have gx:=g ks[i] (List.getElem_mem hlt);have hb:=QK K k i ks[i];refine K.lp' AaT _ rfl (by kernel_rfl) ((Agd ..).trans ?_);refine Ai (by omega) ?_;rw[Aw,Au (List.getElem?_eq_getElem hlt)];revert gx hb;generalize ks[i]=x;obtain⟨xk,xl,xr,xo,xp,xq,xs⟩:=x;intro gx hb;unfold Fy Tr.kind;unfold Tr.kind at hb ih;simp only[B7,ND,DK,Aa];refine Ab hb ?_;simp only[ND,DK,Aa];have tl:∀(b:Bool),(if b=true then Fy k d (i+1) (ks.drop (i+1))=true else False)->True:=λ_ _=>trivial
  cases hbk:brk k i xk with
  |true=>
   refine Ac ?_;rw[A8 (by omega)]
   by_cases h60:d+1<=60
   .refine Ah (by omega) ?_
    refine Ab (gx (d+1) h60) ?_;simp only[ND,DK,Aa];rw[show IV true d=d+1 from rfl,decide_eq_true h60,ApP]
    cases Cc (.mk xk xl xr xo xp xq xs) (d+1) with
    |false=>rfl
    |true=>
     refine Ac ?_;rw[A8 (by omega)];refine Ab ih ?_;rw[ApP]
     cases Fy k d (i+1) (ks.drop (i+1))<;>rfl
   .refine Ai (by omega) ?_
    rw[show IV true d=d+1 from rfl,decide_eq_false h60,Aqp,Aqp];rfl
  |false=>
   refine A1 ?_;refine Ah (by omega) ?_;refine Ab (gx d hd) ?_;simp only[ND,DK,Aa];rw[show IV false d=d from rfl,decide_eq_true hd,ApP]
   cases Cc (.mk xk xl xr xo xp xq xs) d with
   |false=>rfl
   |true=>
    refine Ac ?_;rw[A8 (by omega)];refine Ab ih ?_;rw[ApP]
    cases Fy k d (i+1) (ks.drop (i+1))<;>rfl
theorem Ab3(L:LexN D):∀(n:Nat) (t:Tr),SizeOf.sizeOf t<n->WzT t->∀ d:Nat,d<=60->D.ask (.fn 62) [.agg (B7 t),iv (d:Int)] []=some (bv (Cc t d),[]):=by
 intro n
 induction n with
 |zero=>intro t h;omega
 |succ n ih=>
  intro t ht hz d hd;have gb:=QB K t;have gc:=OH K L t hz;obtain⟨k,l,r,op,p,q,ks⟩:=t;obtain⟨hl,hr,hk,zl,zr,hx⟩:=hz;have ga:=Zq K k;have gk:∀ x∈ks,∀ d:Nat,d<=60->D.ask (.fn 62) [.agg (B7 x),iv (d:Int)] []=some (bv (Cc x d),[]):=λx hm d hd=>ih x (by
   have h1:=NT hm;simp only[Tr.mk.sizeOf_spec]at ht;omega) (hx x hm) d hd
  have glp:=λ(d:Nat) (hd:d<=60)=>Ab2 K (.mk k l r op p q ks) d hd ks hk gk _ 0 rfl
  simp only[List.drop_zero,Tr.kind,KV,B7]at glp;refine K.fn' AaT _ rfl ((e62 ..).trans ?_);unfold Cc;rw[BQ]at glp ⊢;rw[Ao];simp only[B7,BQ]at gb gc
  by_cases h2:k=2
  .refine Av h2 ?_
   refine Ab gc ?_;simp only[ND,DK,Aa];rw[if_pos h2]
   cases Nm (.mk k l r op p q ks)<;>rfl
  .refine Am h2 ?_
   rw[if_neg h2];have fin:∀(d:Nat),d<=61->∀(X:KR),(d<=60->X=some (bv (Fy k d 0 ks),[]))->br (Af.lt 60 (d:Int)) (some (bv false,[])) X=some (bv (decide (d<=60)&&Fy k d 0 ks),[]):=λd h61 X hX=>by
    by_cases h:d<=60
    .refine Ah (by omega) ?_
     rw[hX h,decide_eq_true h,ApP]
    .refine Ai (by omega) ?_
     rw[decide_eq_false h,Aqp]
   by_cases h3:k=3
   .refine Av h3 ?_
    refine Ab gb ?_;simp only[ND,DK,Aa]
    cases FR (.mk k l r op p q ks) with
    |false=>rfl
    |true=>
     refine Ac ?_;refine Ab ga ?_;simp only[ND,DK,Aa]
     by_cases h4:(ks.length:Int)=arI k
     .refine Av h4 ?_
      rw[decide_eq_true h4,ApP,ApP,decide_eq_true h3,A8 (by omega)];refine fin (d+1) (by omega) _ λh=>?_
      refine Ab (glp (d+1) h) ?_
      cases Fy k (d+1) 0 ks<;>rfl
     .refine Am h4 ?_
      rw[decide_eq_false h4,ApP,Aqp,Aqp]
   .refine Am h3 ?_
    refine Ab gb ?_;simp only[ND,DK,Aa]
    cases FR (.mk k l r op p q ks) with
    |false=>rfl
    |true=>
     refine Ac ?_;refine Ab ga ?_;simp only[ND,DK,Aa]
     by_cases h4:(ks.length:Int)=arI k
     .refine Av h4 ?_
      rw[decide_eq_true h4,ApP,ApP,decide_eq_false h3];refine fin d (by omega) _ λh=>?_
      refine Ab (glp d h) ?_
      cases Fy k d 0 ks<;>rfl
     .refine Am h4 ?_
      rw[decide_eq_false h4,ApP,Aqp,Aqp]
theorem Zg(L:LexN D)(t:Tr)(hz:WzT t):D.ask (.fn 24) [.agg (B7 t)] []=some (bv (Cc t 0),[]):=by
 have g:=Ab3 K L _ t (Nat.lt_succ_self _) hz 0 (by omega);obtain⟨k,l,r,op,p,q,ks⟩:=t;refine K.fn' AkX _ rfl ((e24 ..).trans ?_);refine Ab g ?_;simp only[ND,DK,Aa]
 cases Cc (.mk k l r op p q ks) 0<;>rfl
end
section
open Go.RowKit
variable (A:Ar) (D:Orc)
end
structure AllF (D:Orc) (s:ByteArray) (ts:List Tk) (ln co e:Nat):Prop where
 all:D.ask (.fn 91) [sv s] []=some (.tup [.ls (ts.map eTk),.agg [iv (ln:Int),iv (co:Int)],iv (e:Int)],[])
 rall:D.ask (.fn 50) [sv s] []=some (.tup [.ls (ts.map eTk),.agg [iv (ln:Int),iv (co:Int)],iv (e:Int)],[])
 zero:e=0->ln=0/\co=0
theorem Abz(a b:Int):Af.not (Af.band (Af.eq a a) (Af.band (Af.eq b b) true))=false:=by
 rw[Kg,Kg,decide_eq_true rfl,decide_eq_true rfl];rfl
section
open Go.RowKit
variable (A:Ar) (D:Orc)
end
section
open Go.RowKit
variable (A:Ar) (D:Orc)
end
end Go.Proofs.YtlmhajfbpplpoaaGreat
