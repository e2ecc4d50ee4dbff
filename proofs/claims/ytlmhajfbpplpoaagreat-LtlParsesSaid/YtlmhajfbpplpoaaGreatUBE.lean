/-
  What ltl's parser takes off tokens, and how far it comes. No program in sight.
  Which trees are right; what they are as text. No program in sight.
  What expr's tests of trees come to.
  What ltl's parser comes to: its small functions.
  What ltl's parser comes to: its jobs.
  What the reference's parser of properties comes to.
  What a whole text comes to: the program's and the reference's.
  Functions of the program as trees: what a call comes to.
  Functions of the program as trees: what a call comes to.
-/
import Derived.Test.YtlmhajfbpplpoaaGreatUAU
import Derived.Test.YtlmhajfbpplpoaaGreatUAV
import Derived.Test.YtlmhajfbpplpoaaGreatUBB
import Derived.Test.YtlmhajfbpplpoaaGreatUBC
import Derived.Test.YtlmhajfbpplpoaaGreatUAS
set_option linter.unusedSectionVars false
set_option linter.unusedSimpArgs false
set_option linter.unusedVariables false
namespace Go.Proofs.YtlmhajfbpplpoaaGreat
open Go.RowKit

structure Pr where
 name:ByteArray
 locs:List ByteArray
 cmds:List (List AV)
def ePr(p:Pr):List AV:=[sv p.name,.ls (p.locs.map eS),.ls p.cmds]
def lmk(k:Int)(ks:List Tr):Tr:=.mk k [] [] 0 (bstr []) (bstr []) ks
section
variable (ts:List Tk) (vars:List ByteArray) (kn:Bool) (ps:List Pr)
def ltkB(i:Nat):ByteArray:=bstr (nx ts i).text
def lfindP(s:ByteArray):Option Pr:=ps.find? fun p=>decide (p.name=s)
def lplaceP(i:Nat):Nat × Nat × Tr:=
 if isN ts i=false then(i,101,T0) else match lfindP ps (ltkB ts i) with
  |none=>(i,110,T0)
  |some p=>if isT ts (i+1) [46]=false then(i+1,101,T0) else if isN ts (i+2)=false then(i+2,101,T0)
   else if ltkB ts (i+2)∉p.locs then(i+2,110,T0) else(i+3,0,.mk 6 [] [] 0 (ltkB ts i) (ltkB ts (i+2)) [])
def lpreP(i:Nat):Option Int:=if isT ts i [33] then some 3 else if isT ts i [88] then some 8 else if isT ts i [71] then some 9 else if isT ts i [70] then some 10 else none
inductive LJ where
 |prop
 |or
 |orL (x:Tr)
 |and
 |andL (x:Tr)
 |bin
 |un
def ljP:Nat->LJ->Nat->Nat->Nat × Nat × Tr
 |0,_,i,_=>(i,999,T0)
 |n+1,.un,i,d=>
  if((lpreP ts i).isSome||isT ts i [40])=true/\d=60 then(i,102,T0)
  else match lpreP ts i with
   |some k=>thenT (ljP n .un (i+1) (d+1)) fun j x=>(j,0,lmk k [x])
   |none=>if isT ts i [40] then thenT (ljP n .prop (i+1) (d+1)) fun j x=>if isT ts j [41] then(j+1,0,x) else(j,101,T0)
    else if isT ts i [64] then lplaceP ts ps (i+1)
    else if isT ts i [116,114,117,101] then(i+1,0,lmk 0 [])
    else if isT ts i [102,97,108,115,101] then(i+1,0,lmk 1 [])
    else cmpP ts vars kn i
 |n+1,.bin,i,d=>thenT (ljP n .un i d) fun j x=>if isT ts j [85] then thenT (ljP n .bin (j+1) d) fun j2 y=>(j2,0,lmk 11 [x,y])
   else if isT ts j [82] then thenT (ljP n .bin (j+1) d) fun j2 y=>(j2,0,lmk 12 [x,y]) else(j,0,x)
 |n+1,.and,i,d=>thenT (ljP n .bin i d) fun j x=>ljP n (.andL x) j d
 |n+1,.andL x,i,d=>if isT ts i [38] then thenT (ljP n .bin (i+1) d) fun j y=>ljP n (.andL (lmk 4 [x,y])) j d else(i,0,x)
 |n+1,.or,i,d=>thenT (ljP n .and i d) fun j x=>ljP n (.orL x) j d
 |n+1,.orL x,i,d=>if isT ts i [124] then thenT (ljP n .and (i+1) d) fun j y=>ljP n (.orL (lmk 5 [x,y])) j d else(i,0,x)
 |n+1,.prop,i,d=>thenT (ljP n .or i d) fun j x=>if isT ts j [45,62] then thenT (ljP n .prop (j+1) d) fun j2 y=>(j2,0,lmk 7 [x,y]) else(j,0,x)
end
section
variable {ts:List Tk} (H:Toks ts) (vars:List ByteArray) (kn:Bool) (ps:List Pr)
include H
theorem lpreP_far{i:Nat}{k:Int}(h:lpreP ts i=some k):i<ts.length:=by
 unfold lpreP at h
 split at h
 .rename_i g;exact H.isT g
 .split at h
  .rename_i g;exact H.isT g
  .split at h
   .rename_i g;exact H.isT g
   .split at h
    .rename_i g;exact H.isT g
    .cases h
theorem lplaceP_far{i:Nat}(hi:i<=ts.length):Far ts i (lplaceP ts ps i).1 (lplaceP ts ps i).2.1:=by
 have stay:∀ e:Nat,e≠0->Far ts i i e:=fun e he=>⟨Nat.le_refl _,hi,fun h=>absurd h he⟩
 unfold lplaceP
 cases h1:isN ts i with
 |false=>exact stay _ (by simp)
 |true=>
  have l1:=H.isN h1
  rw[if_neg (by simp)]
  cases lfindP ps (ltkB ts i) with
  |none=>exact stay _ (by simp)
  |some p=>
   simp only
   cases h2:isT ts (i+1) [46]with
   |false=>exact⟨by simp,by simp;omega,fun h=>by simp at h⟩
   |true=>
    have l2:=H.isT h2
    rw[if_neg (by simp)]
    cases h3:isN ts (i+2) with
    |false=>exact⟨by simp,by simp;omega,fun h=>by simp at h⟩
    |true=>
     have l3:=H.isN h3
     rw[if_neg (by simp)]
     split
     .exact⟨by simp,by simp;omega,fun h=>by simp at h⟩
     .exact⟨by simp,by simp;omega,fun h=>by simp⟩
def lfarJ(ts:List Tk):LJ->Nat->Nat->Nat->Prop
 |.orL _,i,j,_=>i<=j/\j<=ts.length
 |.andL _,i,j,_=>i<=j/\j<=ts.length
 |_,i,j,e=>Far ts i j e
omit H in
theorem thenT_far{i:Nat}{q:Nat × Nat × Tr}{k:Nat->Tr->Nat × Nat × Tr}(hq:Far ts i q.1 q.2.1)(hk:∀ j x,i<j->j<=ts.length->j<=(k j x).1/\(k j x).1<=ts.length):Far ts i (thenT q k).1 (thenT q k).2.1:=by
 unfold thenT
 split
 .rename_i h
  have h1:=hq.gt h
  have h2:=hk q.1 q.2.2 h1 hq.le
  exact⟨by omega,h2.2,fun _=>by omega⟩
 .exact hq
theorem ljP_far:∀(n:Nat) (j:LJ) (i d:Nat),i<=ts.length->lfarJ ts j i (ljP ts vars kn ps n j i d).1 (ljP ts vars kn ps n j i d).2.1:=by
 intro n
 induction n with
 |zero=>intro j i d hi;cases j<;>first|exact⟨Nat.le_refl _,hi,fun h=>absurd h (by simp[ljP])⟩|exact⟨Nat.le_refl _,hi⟩
 |succ n ih=>
  intro j i d hi
  have stay:∀ e:Nat,e≠0->Far ts i i e:=fun e he=>⟨Nat.le_refl _,hi,fun h=>absurd h he⟩
  have up:∀{a b e:Nat},a<b->Far ts b e 0->Far ts a e 0:=fun h f=>⟨by have:=f.ge;omega,f.le,fun _=>by have:=f.ge;omega⟩
  cases j with
  |un=>
   unfold ljP lfarJ
   dsimp only
   split
   .exact stay _ (by simp)
   .split
    .rename_i k hk
     have hl:=lpreP_far H hk
     have m:Far ts (i+1) _ _:=ih .un (i+1) (d+1) hl
     have m2:=thenT_far m (k:=fun j x=>(j,0,lmk k [x])) (fun j x h1 h2=>⟨Nat.le_refl _,h2⟩)
     exact⟨by have:=m2.ge;omega,m2.le,fun h=>by have:=m2.ge;omega⟩
    .split
     .rename_i h
      have m:Far ts (i+1) _ _:=ih .prop (i+1) (d+1) (H.isT h)
      have m2:=thenT_far m (k:=fun j x=>if isT ts j [41] then(j+1,0,x) else(j,101,T0)) (fun j x h1 h2=>by
       split
       .rename_i h
        exact⟨Nat.le_succ _,H.isT h⟩
       .exact⟨Nat.le_refl _,h2⟩)
      exact⟨by have:=m2.ge;omega,m2.le,fun h=>by have:=m2.ge;omega⟩
     .split
      .rename_i h
       have m2:=lplaceP_far H ps (show i+1<=ts.length from H.isT h)
       exact⟨by have:=m2.ge;omega,m2.le,fun h=>by have:=m2.ge;omega⟩
      .split
       .rename_i h;exact⟨Nat.le_succ _,H.isT h,fun _=>Nat.lt_succ_self _⟩
       .split
        .rename_i h;exact⟨Nat.le_succ _,H.isT h,fun _=>Nat.lt_succ_self _⟩
        .exact cmpP_far H vars kn hi
  |bin=>
   unfold ljP lfarJ
   dsimp only
   refine thenT_far (ih .un i d hi) fun j x h1 h2=>?_
   split
   .rename_i h
    have m:Far ts (j+1) _ _:=ih .bin (j+1) d (H.isT h)
    have m2:=thenT_far m (k:=fun j2 y=>(j2,0,lmk 11 [x,y])) (fun j x h1 h2=>⟨Nat.le_refl _,h2⟩)
    exact⟨by have:=m2.ge;omega,m2.le⟩
   .split
    .rename_i h
     have m:Far ts (j+1) _ _:=ih .bin (j+1) d (H.isT h)
     have m2:=thenT_far m (k:=fun j2 y=>(j2,0,lmk 12 [x,y])) (fun j x h1 h2=>⟨Nat.le_refl _,h2⟩)
     exact⟨by have:=m2.ge;omega,m2.le⟩
    .exact⟨Nat.le_refl _,h2⟩
  |and=>
   unfold ljP lfarJ
   dsimp only
   exact thenT_far (ih .bin i d hi) fun j x h1 h2=>ih (.andL x) j d h2
  |or=>
   unfold ljP lfarJ
   dsimp only
   exact thenT_far (ih .and i d hi) fun j x h1 h2=>ih (.orL x) j d h2
  |prop=>
   unfold ljP lfarJ
   dsimp only
   refine thenT_far (ih .or i d hi) fun j x h1 h2=>?_
   split
   .rename_i h
    have m:Far ts (j+1) _ _:=ih .prop (j+1) d (H.isT h)
    have m2:=thenT_far m (k:=fun j2 y=>(j2,0,lmk 7 [x,y])) (fun j x h1 h2=>⟨Nat.le_refl _,h2⟩)
    exact⟨by have:=m2.ge;omega,m2.le⟩
   .exact⟨Nat.le_refl _,h2⟩
  |andL x=>
   unfold ljP lfarJ
   dsimp only
   split
   .rename_i h
    have m:Far ts (i+1) _ _:=ih .bin (i+1) d (H.isT h)
    have m2:=thenT_far m (k:=fun j y=>ljP ts vars kn ps n (.andL (lmk 4 [x,y])) j d) (fun j y h1 h2=>ih (.andL _) j d h2)
    exact⟨by have:=m2.ge;omega,m2.le⟩
   .exact⟨Nat.le_refl _,hi⟩
  |orL x=>
   unfold ljP lfarJ
   dsimp only
   split
   .rename_i h
    have m:Far ts (i+1) _ _:=ih .and (i+1) d (H.isT h)
    have m2:=thenT_far m (k:=fun j y=>ljP ts vars kn ps n (.orL (lmk 5 [x,y])) j d) (fun j y h1 h2=>ih (.orL _) j d h2)
    exact⟨by have:=m2.ge;omega,m2.le⟩
   .exact⟨Nat.le_refl _,hi⟩
def lneedJ(ts:List Tk):LJ->Nat->Nat
 |.un,i=>8*(ts.length-i)+1
 |.bin,i=>8*(ts.length-i)+2
 |.and,i=>8*(ts.length-i)+3
 |.andL _,i=>8*(ts.length-i)+3
 |.or,i=>8*(ts.length-i)+4
 |.orL _,i=>8*(ts.length-i)+4
 |.prop,i=>8*(ts.length-i)+5
end
def lpropP(ts:List Tk)(vars:List ByteArray)(kn:Bool)(ps:List Pr):Nat × Nat × Tr:=ljP ts vars kn ps (8*ts.length+5) .prop 0 0
end Go.Proofs.YtlmhajfbpplpoaaGreat
namespace Go.Proofs.YtlmhajfbpplpoaaGreat
open Go.RowKit

def Tr.kind:Tr->Int
 |.mk k _ _ _ _ _ _=>k
def Tr.kids:Tr->List Tr
 |.mk _ _ _ _ _ _ ks=>ks
def bareB:Tr->Bool
 |.mk _ l r op p q _=>decide (l.length=0)&&decide (r.length=0)&&decide (op=0)&&decide (p=bstr [])&&decide (q=bstr [])
def cmpB:Tr->Bool
 |.mk k l r op p q ks=>decide (k=2)&&rsB l&&rsB r&&decide (0<=op)&&decide (op<=5)&&decide (p=bstr [])&&decide (q=bstr [])&&decide (ks.length=0)
def arI(k:Int):Int:=if k=0 then 0 else if k=1 then 0 else if k=3 then 1 else if k=4 then 2 else if k=5 then 2 else -1
def brk(p:Int)(i:Nat)(k:Int):Bool:=if p=3 then decide (k=4)||decide (k=5) else if p=4 then decide (k=5)||(decide (i=1)&&decide (k=4)) else if p=5 then decide (i=1)&&decide (k=5) else false
def upD(b:Bool)(d:Nat):Nat:=if b then d+1 else d
mutual
def rightB:Tr->Nat->Bool
 |.mk k l r op p q ks,d=>if k=2 then cmpB (.mk k l r op p q ks) else bareB (.mk k l r op p q ks)&&decide ((ks.length:Int)=arI k)&&decide (upD (decide (k=3)) d<=60)&&kidsB k (upD (decide (k=3)) d) 0 ks
def kidsB(k:Int)(d:Nat):Nat->List Tr->Bool
 |_,[]=>true
 |i,x::r=>(decide (upD (brk k i x.kind) d<=60)&&rightB x (upD (brk k i x.kind) d))&&kidsB k d (i+1) r
end
inductive WzT:Tr->Prop where
 |mk {k:Int} {l r:List Mo} {op:Int} {p q:ByteArray} {ks:List Tr} (hl:l.length<4611686018427387904) (hr:r.length<4611686018427387904) (hk:ks.length<4611686018427387904)
  (zl:∀ m∈l,m.num.size<=9223372036854775807/\m.var.size<=9223372036854775807) (zr:∀ m∈r,m.num.size<=9223372036854775807/\m.var.size<=9223372036854775807) (h:∀ x∈ks,WzT x):WzT (.mk k l r op p q ks)
end Go.Proofs.YtlmhajfbpplpoaaGreat
namespace Go.Proofs.YtlmhajfbpplpoaaGreat
open Go.RowKit

section
variable {D:Orc}
variable (K:Knows ownC tabTa D)
include K
theorem bare_ok(t:Tr):D.ask (.fn 45) [.agg (eTr t)] []=some (bv (bareB t),[]):=by
 obtain⟨k,l,r,op,p,q,ks⟩:=t
 refine K.fn' hn45 _ rfl ((e45 ..).trans ?_)
 unfold bareB
 rw[lenR_map,lenR_map]
 simp only[r_eq,r_seq,br_if,decide_eq_true_eq,ci0]
 by_cases h1:l.length=0<;>by_cases h2:r.length=0<;>by_cases h3:op=0<;>by_cases h4:p=bstr []<;>by_cases h5:q=bstr []<;>simp[h1,h2,h3,h4,h5]
theorem treecmp_ok(L:LexN D)(t:Tr)(hz:WzT t):D.ask (.fn 46) [.agg (eTr t)] []=some (bv (cmpB t),[]):=by
 obtain⟨k,l,r,op,p,q,ks⟩:=t
 obtain⟨hl,hr,hk,zl,zr,_⟩:=hz
 have g1:=rightSum_ok K L l zl hl
 have g2:=rightSum_ok K L r zr hr
 refine K.fn' hn46 _ rfl ((e46 ..).trans ?_)
 unfold cmpB
 rw[eTrs_map,lenR_map]
 by_cases h0:k=2
 .refine(br_eqT h0).trans ?_
  refine(askK_of g1 _).trans ?_
  simp only[ND]
  cases rsB l with
  |false=>simp[h0,ND]
  |true=>
   simp only[ND]
   refine(askK_of g2 _).trans ?_
   simp only[ND]
   cases rsB r with
   |false=>simp[h0,ND]
   |true=>
    simp only[ND,r_le,r_eq,r_seq,br_if,decide_eq_true_eq,ci0]
    by_cases h3:0<=op<;>by_cases h4:op<=5<;>by_cases h5:p=bstr []<;>by_cases h6:q=bstr []<;>by_cases h7:ks.length=0<;>simp[h0,h3,h4,h5,h6,h7]
 .refine(br_eqF h0).trans ?_
  simp[h0]
omit K in
theorem kids_mem{x:Tr}{ks:List Tr}(h:x∈ks):SizeOf.sizeOf x<SizeOf.sizeOf ks:=List.sizeOf_lt_of_mem h
def boxT(t:Tr):ABlk:=ABlk.mk (eTr t) true false
end
end Go.Proofs.YtlmhajfbpplpoaaGreat
namespace Go.Proofs.YtlmhajfbpplpoaaGreat
open Go.RowKit

structure Sy where
 vars:List ByteArray
 s2:List (List AV)
 s3:Int
 s4:List (List AV)
 s5:Bool
 s6:List (List AV)
 s7:Bool
 s8:List (List AV)
 ps:List Pr
 s10:List (List AV)
def eSy(y:Sy):List AV:=[.ls (y.vars.map eS),.ls y.s2,iv y.s3,.ls y.s4,bv y.s5,.ls y.s6,bv y.s7,.ls y.s8,.ls (y.ps.map ePr),.ls y.s10]
def eLp(y:Sy):AV:=.agg (.ptr 0 0::eSy y)
structure PreT (ts:List Tk):Prop where
 sg:∀ i,(nx ts i).text=[33]\/(nx ts i).text=[40]->(nx ts i).kind=2
 bg:∀ i,(nx ts i).text=[88]\/(nx ts i).text=[71]\/(nx ts i).text=[70]->(nx ts i).kind=4
theorem br_leT{a b:Int}(h:a<=b){x y:KR}:br (realA.le a b) x y=x:=by rw[r_le,decide_eq_true h];rfl
theorem br_leF{a b:Int}(h:¬ a<=b){x y:KR}:br (realA.le a b) x y=y:=by rw[r_le,decide_eq_false h];rfl
theorem lfind_idx(s:ByteArray):∀ ps:List Pr,match (ps.map (·.name)).findIdx? (s = ·) with
  |none=>lfindP ps s=none
  |some k=>∃ p,ps[k]? = some p/\p.name=s/\lfindP ps s=some p
 |[]=>rfl
 |p::r=>by
  have ih:=lfind_idx s r
  rw[List.map_cons,List.findIdx?_cons]
  unfold lfindP at ih ⊢
  by_cases h:s=p.name
  .rw[if_pos (by simpa using h)]
   exact⟨p,rfl,h.symm,by rw[List.find?_cons,decide_eq_true h.symm]⟩
  .rw[if_neg (by simpa using h)]
   have h':¬ p.name=s:=fun e=>h e.symm
   rw[List.find?_cons,decide_eq_false h']
   cases e:(r.map (·.name)).findIdx? (s = ·) with
   |none=>rw[e]at ih;exact ih
   |some k=>
    rw[e]at ih
    obtain⟨q,h1,h2,h3⟩:=ih
    exact⟨q,by simpa using h1,h2,h3⟩
theorem nidx_some{s:ByteArray}{xs:List ByteArray}{k:Nat}(h:xs.findIdx? (s = ·)=some k):xs[k]? = some s:=by
 obtain⟨h1,h2,_⟩:=List.findIdx?_eq_some_iff_getElem.1 h
 have h2:s=xs[k]:=by simpa using h2
 rw[List.getElem?_eq_getElem h1,←h2]
theorem nidx_none{s:ByteArray}{xs:List ByteArray}(h:xs.findIdx? (s = ·)=none):s∉xs:=fun hm=>by
 have:=List.findIdx?_eq_none_iff.1 h s hm
 simp at this
theorem nidx_mem{s:ByteArray}{xs:List ByteArray}{k:Nat}(h:xs.findIdx? (s = ·)=some k):s∈xs:=List.mem_of_getElem? (nidx_some h)
theorem eS_len1(s:ByteArray):(eS s).length=1:=rfl
def preI:Option Int->Int
 |some k=>k
 |none=>-1
theorem preI_le{ts:List Tk}(i:Nat):(0<=preI (lpreP ts i)) ↔ (lpreP ts i).isSome:=by
 unfold lpreP
 repeat' split
 all_goals simp[preI]
theorem lpreP_open{ts:List Tk}{i:Nat}{k:Int}(h:lpreP ts i=some k):(nx ts i).text≠[40]/\isT ts i [40]=false:=by
 have e:(nx ts i).text≠[40]:=by
  intro e
  unfold lpreP isT at h
  rw[e]at h
  simp at h
 refine⟨e,?_⟩
 unfold isT
 rw[decide_eq_false e]
 rfl
theorem isT_sg{ts:List Tk}(P:PreT ts)(i:Nat):isT ts i [40]=(decide ((nx ts i).kind=2)&&decide ((nx ts i).text=[40])):=by
 unfold isT
 by_cases h:(nx ts i).text=[40]
 .simp[h,P.sg i (.inr h)]
 .simp[h]
section
variable {D:Orc}
theorem ltree_ok(Kq:Knows ownC tabTq D)(k:Int)(ks:List Tr):D.ask (.fn 126) [iv k,.ls (ks.map eTr)] []=some (.agg (eTr (lmk k ks)),[]):=by
 refine Kq.fn' hn126 _ rfl ((e126 ..).trans ?_)
 unfold lmk eTr
 rw[eTrs_map]
 rfl
theorem lprefix_ok(Kq:Knows ownC tabTq D){ts:List Tk}(P:PreT ts)(i:Nat):D.ask (.fn 265) [.agg (eTk (nx ts i))] []=some (iv (preI (lpreP ts i)),[]):=by
 have h1:=P.sg i
 have h2:=P.bg i
 refine Kq.fn' hn265 _ rfl ((e265 ..).trans ?_)
 unfold lpreP isT
 simp only[ci0,ci1,ci2,ci3,ci4,ci5,ci6,r_lt,r_le,r_eq,r_seq,r_slen,r_cat,r_beq,br_if,bstr_inj]
 generalize (nx ts i).kind=k at *
 generalize (nx ts i).text=s at *
 by_cases h33:s=[33]
 .have:=h1 (.inl h33);subst this;subst h33;rfl
 by_cases h88:s=[88]
 .have:=h2 (.inl h88);subst this;subst h88;rfl
 by_cases h71:s=[71]
 .have:=h2 (.inr (.inl h71));subst this;subst h71;rfl
 by_cases h70:s=[70]
 .have:=h2 (.inr (.inr h70));subst this;subst h70;rfl
 simp only[h33,h88,h71,h70,decide_false,Bool.false_and,Bool.false_eq_true,if_false]
 by_cases hk2:k=2
 .simp[hk2,preI]
 .by_cases hk4:k=4
  .simp[hk4,preI]
  .simp[hk2,hk4,preI]
theorem lprocs_lp(Kq:Knows ownC tabTq D)(ps:List Pr)(hp:ps.length<=1000000):∀(n i:Nat) (out:List ByteArray),ps.length-i=n->out.length+n<=1000000->D.ask (.lp 232 0) [.sl 0 0 out.length 1,.ls (ps.map ePr),iv (ps.length:Int),iv (i:Int)] [ABlk.mk (rowC eS out) true true]
  = some (.tup [iv 0,.sl 1 0 (out++(ps.drop i).map (·.name)).length 1],[.del,.set (ABlk.mk (rowC eS (out++(ps.drop i).map (·.name))) true true)]):=by
 intro n
 induction n with
 |zero=>
  intro i out hi ho
  refine Kq.lp' hn232 _ rfl (by kernel_rfl) ((e232_0 ..).trans ?_)
  rw[show ps.drop i=[] from List.drop_eq_nil_of_le (by omega),List.map_nil,List.append_nil]
  refine(br_ltF (by omega)).trans ?_
  rfl
 |succ n ih=>
  intro i out hi ho
  have hlt:i<ps.length:=by omega
  have ih:=ih (i+1) (out++[ps[i].name]) (by omega) (by simp;omega)
  rw[show ps.drop i=ps[i]::ps.drop (i+1) from List.drop_eq_getElem_cons hlt]
  rw[List.append_assoc,List.length_append,List.length_singleton]at ih
  refine Kq.lp' hn232 _ rfl (by kernel_rfl) ((e232_0 ..).trans ?_)
  refine(br_ltT (by omega)).trans ?_
  rw[unI_n,nthK_some (List.getElem?_eq_getElem hlt)]
  have hf:fitsB (out.length+1) 16=true:=fits_small (by omega) (by omega)
  have hb1:Nat.ble (0+out.length*1) (rowC eS out).length=true:=ble_row eS_len1 out (by omega)
  have e3:∀ s,List.drop 0 (List.take (0+out.length*1) (rowC eS out))++[sv s]=rowC eS (out++[s]):=fun s=>by
   rw[List.drop_zero,rowC_all eS_len1 out (by omega)]
   exact rowC_snoc eS out s
  simp only[ePr,ND]
  rw[add1 (by omega),hf,hb1,e3]
  refine(br_t _ _).trans ?_
  refine(br_t _ _).trans ?_
  refine(askK_of ih _).trans ?_
  rfl
theorem lprocs_ok(Kq:Knows ownC tabTq D)(y:Sy)(hp:y.ps.length<=1000000):D.ask (.fn 232) [.agg (eSy y)] []=some (.ls ((y.ps.map (·.name)).map eS),[]):=by
 refine Kq.fn' hn232 _ rfl ((e232 ..).trans ?_)
 rw[lenR_map]
 have g:=lprocs_lp Kq y.ps hp _ 0 [] rfl (by simpa using hp)
 refine(askK_of g _).trans ?_
 simp only[ND,List.drop_zero,List.nil_append]
 rw[ble_row eS_len1 _ (by omega)]
 refine(br_t _ _).trans ?_
 rw[chunk_of eS_len1 _ rfl]
variable (K:Knows ownC tabEa D) (Kq:Knows ownC tabTq D) (L:NameF D) {ts:List Tk} (H:Toks ts) (y:Sy)
include K Kq L H
def lnamedP(ts:List Tk)(xs:List ByteArray)(i:Nat):Nat × Nat × Int:=if isN ts i=false then(i,101,0) else match xs.findIdx? (ltkB ts i = ·) with
 |none=>(i,110,0)
 |some k=>(i+1,0,(k:Int))
theorem lnamed_ok(kn:Bool)(xs:List ByteArray)(hx:xs.length<4611686018427387904)(i:Nat)(hi:i<=ts.length):D.ask (.fn 276) [eLp y,.ls (xs.map eS)] [cuB ts y.vars kn i]
  = some (.tup [iv (lnamedP ts xs i).2.2,iv ((lnamedP ts xs i).2.1:Int)],[.set (cuB ts y.vars kn (lnamedP ts xs i).1)]):=by
 have hl:=H.len
 refine Kq.fn' hn276 _ rfl ((e276 ..).trans ?_)
 refine(askK_of (at_ok K ts y.vars kn i (by omega) (by omega)) _).trans ?_
 unfold lnamedP isN
 simp only[eTk,cuB,ND]
 by_cases h:(nx ts i).kind=1
 .refine(br_eqT (by omega)).trans ?_
  refine(askK_of (L.name _ (H.short i)) _).trans ?_
  simp only[ND,h,decide_true,Bool.true_and]
  cases nameB (nx ts i).text with
  |false=>rfl
  |true=>
   refine(br_t _ _).trans ?_
   rw[if_neg (by simp)]
   refine(askK_of (index_ok K xs hx _) _).trans ?_
   simp only[ND]
   unfold ltkB
   cases xs.findIdx? (bstr (nx ts i).text = ·) with
   |none=>rfl
   |some k=>
    refine(br_ltF (show ¬ (k:Int)<0 by omega)).trans ?_
    rw[add1 (by omega)]
    rfl
 .refine(br_eqF (by omega)).trans ?_
  simp only[h,decide_false,Bool.false_and,if_true]
  rfl
theorem lplace_ok(kn:Bool)(hp:y.ps.length<=1000000)(hq:∀ p∈y.ps,p.locs.length<4611686018427387904)(i:Nat)(hi:i<=ts.length):D.ask (.fn 266) [eLp y] [cuB ts y.vars kn i]
  = some (.tup [.agg (eTr (lplaceP ts y.ps i).2.2),iv ((lplaceP ts y.ps i).2.1:Int)],[.set (cuB ts y.vars kn (lplaceP ts y.ps i).1)]):=by
 have hl:=H.len
 refine Kq.fn' hn266 _ rfl ((e266 ..).trans ?_)
 refine(askK_of (lprocs_ok Kq y hp) _).trans ?_
 simp only[ND]
 have g:=lnamed_ok K Kq L H y kn (y.ps.map (·.name)) (by rw[List.length_map];omega) i hi
 refine(askK_of g _).trans ?_
 simp only[cuB,ND]
 unfold lplaceP lnamedP
 have hf:=lfind_idx (ltkB ts i) y.ps
 cases h1:isN ts i with
 |false=>rfl
 |true=>
  have l1:=H.isN h1
  simp only[Bool.true_eq_false,if_false]
  cases h2:(y.ps.map (·.name)).findIdx? (ltkB ts i = ·) with
  |none=>
   rw[h2]at hf
   rw[hf]
   rfl
  |some k=>
   rw[h2]at hf
   obtain⟨p,f1,f2,f3⟩:=hf
   rw[f3]
   refine(br_eqT rfl).trans ?_
   refine(askK_of (want_ok K ts y.vars kn (i+1) (by omega) (by omega) [46]) _).trans ?_
   simp only[cuB,ND]
   cases h3:isT ts (i+1) [46]with
   |false=>rfl
   |true=>
    have l2:=H.isT h3
    simp only[if_true,Bool.true_eq_false,if_false]
    refine(br_eqT rfl).trans ?_
    rw[unI_n,nthK_some f1]
    simp only[ePr,ND]
    have g:=lnamed_ok K Kq L H y kn p.locs (hq p (List.mem_of_getElem? f1)) (i+1+1) (by omega)
    refine(askK_of g _).trans ?_
    simp only[cuB,ND]
    unfold lnamedP
    cases h4:isN ts (i+2) with
    |false=>rfl
    |true=>
     simp only[Bool.true_eq_false,if_false]
     cases h5:p.locs.findIdx? (ltkB ts (i+2) = ·) with
     |none=>
      rw[if_pos (nidx_none h5)]
      rfl
     |some m=>
      rw[if_neg (fun e=>e (nidx_mem h5))]
      refine(br_eqT rfl).trans ?_
      rw[unI_n,nthK_some (nidx_some h5)]
      simp only[eS,ND,f2]
      rfl
theorem lcompare_ok(Kb:Knows ownC tabEb D)(kn:Bool)(hv:y.vars.length<4611686018427387904)(i:Nat)(hi:i<=ts.length):∃ q:Nat × Nat × Tr,D.ask (.fn 267) [eLp y] [cuB ts y.vars kn i]=some (.tup [.agg (eTr q.2.2),iv (q.2.1:Int)],[.set (cuB ts y.vars kn q.1)])
  ∧ q=(if isT ts i [116,114,117,101] then(i+1,0,lmk 0 []) else if isT ts i [102,97,108,115,101] then(i+1,0,lmk 1 []) else cmpP ts y.vars kn i):=by
 have hl:=H.len
 refine⟨_,?_,rfl⟩
 refine Kq.fn' hn267 _ rfl ((e267 ..).trans ?_)
 refine(askK_of (take_ok K ts y.vars kn i (by omega) (by omega) _) _).trans ?_
 simp only[cuB,ND]
 cases h1:isT ts i [116,114,117,101]with
 |true=>
  refine(br_t _ _).trans ?_
  refine(askK_of (ltree_ok Kq 0 []) _).trans ?_
  rfl
 |false=>
  refine(br_f _ _).trans ?_
  simp only[Bool.false_eq_true,if_false]
  refine(askK_of (take_ok K ts y.vars kn i (by omega) (by omega) _) _).trans ?_
  simp only[cuB,ND]
  cases h2:isT ts i [102,97,108,115,101]with
  |true=>
   refine(br_t _ _).trans ?_
   refine(askK_of (ltree_ok Kq 1 []) _).trans ?_
   rfl
  |false=>
   refine(br_f _ _).trans ?_
   simp only[Bool.false_eq_true,if_false]
   refine(askK_of (compare_ok K Kb L H y.vars kn hv i hi) _).trans ?_
   rcases cmpP ts y.vars kn i with⟨j,e,⟨k,l,r,o,p,q,ks⟩⟩
   rfl
end
end Go.Proofs.YtlmhajfbpplpoaaGreat
namespace Go.Proofs.YtlmhajfbpplpoaaGreat
open Go.RowKit
set_option linter.unusedSectionVars false
section
variable {D:Orc}
def lpB(y:Sy):ABlk:=ABlk.mk (.ptr 0 0::eSy y) true false
def okL(D:Orc)(ts:List Tk)(y:Sy)(kn:Bool):LJ->Nat->Nat->Nat × Nat × Tr->Prop
 |.un,i,d,q=>∃ z,(q.2.1=0->z=q.2.2)/\D.ask (.fn 252) [eLp y,iv (d:Int)] [cuB ts y.vars kn i]=some (.tup [.agg (eTr z),iv (q.2.1:Int)],[.set (cuB ts y.vars kn q.1)])
 |.bin,i,d,q=>∃ z,(q.2.1=0->z=q.2.2)/\D.ask (.fn 230) [eLp y,iv (d:Int)] [cuB ts y.vars kn i]=some (.tup [.agg (eTr z),iv (q.2.1:Int)],[.set (cuB ts y.vars kn q.1)])
 |.and,i,d,q=>∃ z,(q.2.1=0->z=q.2.2)/\D.ask (.fn 186) [eLp y,iv (d:Int)] [cuB ts y.vars kn i]=some (.tup [.agg (eTr z),iv (q.2.1:Int)],[.set (cuB ts y.vars kn q.1)])
 |.or,i,d,q=>∃ z,(q.2.1=0->z=q.2.2)/\D.ask (.fn 125) [eLp y,iv (d:Int)] [cuB ts y.vars kn i]=some (.tup [.agg (eTr z),iv (q.2.1:Int)],[.set (cuB ts y.vars kn q.1)])
 |.prop,i,d,q=>∃ z,(q.2.1=0->z=q.2.2)/\D.ask (.fn 70) [eLp y,iv (d:Int)] [cuB ts y.vars kn i]=some (.tup [.agg (eTr z),iv (q.2.1:Int)],[.set (cuB ts y.vars kn q.1)])
 |.andL x,i,d,q=>∃ z,(q.2.1=0->z=q.2.2)/\D.ask (.lp 185 0) [eLp y,sv (bstr [38]),iv 4,iv (d:Int),.fn (.func 230) [eLp y] [],.ptr 1 0,.ptr 2 0,.ptr 3 0,iv 0] [cuB ts y.vars kn i,lpB y,trB T0,trB x]
   = some (.tup [iv 0,eLp y,.ptr 2 0,.ptr 3 0,iv (q.2.1:Int)],[.set (cuB ts y.vars kn q.1),.del,.set (trB T0),.set (trB z)])
 |.orL x,i,d,q=>∃ z,(q.2.1=0->z=q.2.2)/\D.ask (.lp 185 0) [eLp y,sv (bstr [124]),iv 5,iv (d:Int),.fn (.func 186) [eLp y] [],.ptr 1 0,.ptr 2 0,.ptr 3 0,iv 0] [cuB ts y.vars kn i,lpB y,trB T0,trB x]
   = some (.tup [iv 0,eLp y,.ptr 2 0,.ptr 3 0,iv (q.2.1:Int)],[.set (cuB ts y.vars kn q.1),.del,.set (trB T0),.set (trB z)])
theorem lrow_errb(Kq:Knows ownC tabTq D)(ts:List Tk)(y:Sy)(kn:Bool)(i d e:Nat)(x:Tr)(he:e≠0):D.ask (.lp 185 0) [eLp y,sv (bstr [38]),iv 4,iv (d:Int),.fn (.func 230) [eLp y] [],.ptr 1 0,.ptr 2 0,.ptr 3 0,iv (e:Int)] [cuB ts y.vars kn i,lpB y,trB T0,trB x]
  = some (.tup [iv 0,eLp y,.ptr 2 0,.ptr 3 0,iv (e:Int)],[.set (cuB ts y.vars kn i),.del,.set (trB T0),.set (trB x)]):=by
 obtain⟨k,l,r,o,p,q,ks⟩:=x
 refine Kq.lp' hn185 _ rfl (by kernel_rfl) ((e185b_0 ..).trans ?_)
 refine(br_eqF (by omega)).trans ?_
 rfl
theorem lrow_okb(Kq:Knows ownC tabTq D)(ts:List Tk)(y:Sy)(kn:Bool)(i d j e:Nat)(x:Tr)(q:Nat × Nat × Tr)
  (h1:D.ask (.fn 230) [eLp y,iv (d:Int)] [cuB ts y.vars kn i]=some (.tup [.agg (eTr x),iv (e:Int)],[.set (cuB ts y.vars kn j)]))
  (h2:e≠0->q=(j,e,T0)) (h3:e=0->okL D ts y kn (.andL x) j d q) :
  ∃ z,(q.2.1=0->z=q.2.2)/\D.ask (.fn 185) [eLp y,sv (bstr [38]),iv 4,iv (d:Int),.fn (.func 230) [eLp y] []] [cuB ts y.vars kn i]=some (.tup [.agg (eTr z),iv (q.2.1:Int)],[.set (cuB ts y.vars kn q.1)]):=by
 by_cases he:e=0
 .subst he
  obtain⟨z,hz,h4⟩:=h3 rfl
  refine⟨z,hz,?_⟩
  refine Kq.fn' hn185 _ rfl ((e185b ..).trans ?_)
  refine(askK_of h1 _).trans ?_
  obtain⟨k,l,r,o,p,v,ks⟩:=x
  simp only[eTr,cuB,ND]
  refine(askK_of h4 _).trans ?_
  obtain⟨k,l,r,o,p,v,ks⟩:=z
  rfl
 .refine⟨x,fun h=>?_,?_⟩
  .rw[h2 he]at h
   exact absurd h he
  refine Kq.fn' hn185 _ rfl ((e185b ..).trans ?_)
  refine(askK_of h1 _).trans ?_
  obtain⟨k,l,r,o,p,v,ks⟩:=x
  simp only[eTr,cuB,ND]
  rw[h2 he]
  refine(askK_of (lrow_errb Kq ts y kn j d e (.mk k l r o p v ks) he) _).trans ?_
  rfl
theorem lrow_erra(Kq:Knows ownC tabTq D)(ts:List Tk)(y:Sy)(kn:Bool)(i d e:Nat)(x:Tr)(he:e≠0):D.ask (.lp 185 0) [eLp y,sv (bstr [124]),iv 5,iv (d:Int),.fn (.func 186) [eLp y] [],.ptr 1 0,.ptr 2 0,.ptr 3 0,iv (e:Int)] [cuB ts y.vars kn i,lpB y,trB T0,trB x]
  = some (.tup [iv 0,eLp y,.ptr 2 0,.ptr 3 0,iv (e:Int)],[.set (cuB ts y.vars kn i),.del,.set (trB T0),.set (trB x)]):=by
 obtain⟨k,l,r,o,p,q,ks⟩:=x
 refine Kq.lp' hn185 _ rfl (by kernel_rfl) ((e185a_0 ..).trans ?_)
 refine(br_eqF (by omega)).trans ?_
 rfl
theorem lrow_oka(Kq:Knows ownC tabTq D)(ts:List Tk)(y:Sy)(kn:Bool)(i d j e:Nat)(x:Tr)(q:Nat × Nat × Tr)
  (h1:D.ask (.fn 186) [eLp y,iv (d:Int)] [cuB ts y.vars kn i]=some (.tup [.agg (eTr x),iv (e:Int)],[.set (cuB ts y.vars kn j)]))
  (h2:e≠0->q=(j,e,T0)) (h3:e=0->okL D ts y kn (.orL x) j d q) :
  ∃ z,(q.2.1=0->z=q.2.2)/\D.ask (.fn 185) [eLp y,sv (bstr [124]),iv 5,iv (d:Int),.fn (.func 186) [eLp y] []] [cuB ts y.vars kn i]=some (.tup [.agg (eTr z),iv (q.2.1:Int)],[.set (cuB ts y.vars kn q.1)]):=by
 by_cases he:e=0
 .subst he
  obtain⟨z,hz,h4⟩:=h3 rfl
  refine⟨z,hz,?_⟩
  refine Kq.fn' hn185 _ rfl ((e185a ..).trans ?_)
  refine(askK_of h1 _).trans ?_
  obtain⟨k,l,r,o,p,v,ks⟩:=x
  simp only[eTr,cuB,ND]
  refine(askK_of h4 _).trans ?_
  obtain⟨k,l,r,o,p,v,ks⟩:=z
  rfl
 .refine⟨x,fun h=>?_,?_⟩
  .rw[h2 he]at h
   exact absurd h he
  refine Kq.fn' hn185 _ rfl ((e185a ..).trans ?_)
  refine(askK_of h1 _).trans ?_
  obtain⟨k,l,r,o,p,v,ks⟩:=x
  simp only[eTr,cuB,ND]
  rw[h2 he]
  refine(askK_of (lrow_erra Kq ts y kn j d e (.mk k l r o p v ks) he) _).trans ?_
  rfl
variable (K:Knows ownC tabEa D) (Kb:Knows ownC tabEb D) (Kq:Knows ownC tabTq D) (L:NameF D) {ts:List Tk} (H:Toks ts) (P:PreT ts) (y:Sy) (kn:Bool) (hv:y.vars.length<4611686018427387904) (hp:y.ps.length<=1000000) (hq:∀ p∈y.ps,p.locs.length<4611686018427387904)
include K Kb Kq L H P hv hp hq
theorem un_step(n:Nat)(ih:∀(j:LJ) (i d:Nat),i<=ts.length->d<=60->lneedJ ts j i<=n->okL D ts y kn j i d (ljP ts y.vars kn y.ps n j i d))(i d:Nat)(hi:i<=ts.length)(hd:d<=60)(hn:lneedJ ts .un i<=n+1):okL D ts y kn .un i d (ljP ts y.vars kn y.ps (n+1) .un i d):=by
 have hl:=H.len
 have hle:=preI_le (ts:=ts) i
 have hsg:=isT_sg P i
 have eqn:=fun z e j=>(fun(h:_=some (.tup [.agg (eTr z),iv e],[.set (cuB ts y.vars kn j)]))=>Kq.fn' hn252 (args:=[eLp y,iv (d:Int)]) (bs:=[cuB ts y.vars kn i]) _ rfl ((e252 ..).trans ((askK_of (at_ok K ts y.vars kn i (by omega) (by omega)) _).trans h)))
 unfold okL ljP
 dsimp only
 cases hpre:lpreP ts i with
 |some k=>
  obtain⟨ho,h40⟩:=lpreP_open hpre
  have hlt:=lpreP_far H hpre
  rw[hpre]at hle
  have hk:0<=k:=hle.2 rfl
  by_cases h60:d=60
  .subst h60
   rw[if_pos ⟨by simp,rfl⟩]
   refine⟨T0,fun _=>rfl,eqn _ _ _ ?_⟩
   simp only[eTk,cuB,ND]
   refine(askK_of (lprefix_ok Kq P i) _).trans ?_
   rw[hpre]
   simp only[preI,ND]
   by_cases h2:(nx ts i).kind=2
   .refine(br_eqT (by omega)).trans ?_
    refine(br_seqF (fun e=>ho (bstr_inj.1 e))).trans ?_
    refine(br_leT hk).trans ?_
    refine(br_eqT rfl).trans ?_
    rfl
   .refine(br_eqF (by omega)).trans ?_
    refine(br_leT hk).trans ?_
    refine(br_eqT rfl).trans ?_
    rfl
  .rw[if_neg (fun e=>h60 e.2)]
   have g:=ih .un (i+1) (d+1) (by omega) (by omega) (by simp only[lneedJ]at hn ⊢;omega)
   revert g
   rcases ljP ts y.vars kn y.ps n .un (i+1) (d+1) with⟨j,e,t⟩
   intro g
   unfold okL at g
   obtain⟨z,hz,g⟩:=g
   dsimp only at g hz
   have hq2:(thenT (j,e,t) fun j x=>(j,0,lmk k [x]):Nat × Nat × Tr).2.1=e/\(thenT (j,e,t) fun j x=>(j,0,lmk k [x]):Nat × Nat × Tr).1=j:=by
    unfold thenT
    by_cases h0:e=0
    .rw[if_pos h0];exact⟨h0.symm,rfl⟩
    .rw[if_neg h0];exact⟨rfl,rfl⟩
   simp only
   rw[hq2.1,hq2.2]
   refine⟨lmk k [z],fun h=>?_,eqn _ _ _ ?_⟩
   .unfold thenT
    rw[hz h,if_pos h]
   .have run:∀ X,(askK D (.fn 252) [eLp y,iv ((d+1:Nat):Int)] [cuB ts y.vars kn (i+1)] X=X (.tup [.agg (eTr z),iv (e:Int)]) [.set (cuB ts y.vars kn j)]):=fun X=>askK_of g X
    simp only[eTk,cuB,ND]
    refine(askK_of (lprefix_ok Kq P i) _).trans ?_
    rw[hpre,add1 (show i<4611686018427387904 by omega),add1 (show d<4611686018427387904 by omega)]
    simp only[preI,ND]
    by_cases h2:(nx ts i).kind=2
    .refine(br_eqT (by omega)).trans ?_
     refine(br_seqF (fun e=>ho (bstr_inj.1 e))).trans ?_
     refine(br_leT hk).trans ?_
     refine(br_eqF (by omega)).trans ?_
     refine(br_leT hk).trans ?_
     refine(run _).trans ?_
     obtain⟨k1,l1,r1,o1,p1,v1,ks1⟩:=z
     simp only[eTr,cuB,ND]
     refine(askK_of (ltree_ok Kq k [.mk k1 l1 r1 o1 p1 v1 ks1]) _).trans ?_
     simp only[lmk,eTr,ND]
     all_goals rfl
    .refine(br_eqF (by omega)).trans ?_
     refine(br_leT hk).trans ?_
     refine(br_eqF (by omega)).trans ?_
     refine(br_leT hk).trans ?_
     refine(run _).trans ?_
     obtain⟨k1,l1,r1,o1,p1,v1,ks1⟩:=z
     simp only[eTr,cuB,ND]
     refine(askK_of (ltree_ok Kq k [.mk k1 l1 r1 o1 p1 v1 ks1]) _).trans ?_
     simp only[lmk,eTr,ND]
     all_goals rfl
 |none=>
  cases h40:isT ts i [40]with
  |true=>
   rw[h40]at hsg
   have hsg:=hsg.symm
   simp only[Bool.and_eq_true,decide_eq_true_eq]at hsg
   have hlt:=H.isT h40
   by_cases h60:d=60
   .subst h60
    rw[if_pos ⟨by simp,rfl⟩]
    refine⟨T0,fun _=>rfl,eqn _ _ _ ?_⟩
    simp only[eTk,cuB,ND]
    refine(askK_of (lprefix_ok Kq P i) _).trans ?_
    rw[hpre]
    simp only[preI,ND]
    refine(br_eqT (by omega)).trans ?_
    refine(br_seqT (by rw[hsg.2])).trans ?_
    refine(br_leF (by omega)).trans ?_
    refine(br_eqT rfl).trans ?_
    rfl
   .rw[if_neg (fun e=>h60 e.2)]
    have g:=ih .prop (i+1) (d+1) (by omega) (by omega) (by simp only[lneedJ]at hn ⊢;omega)
    have f:Far ts (i+1) _ _:=ljP_far H y.vars kn y.ps n .prop (i+1) (d+1) (by omega)
    revert g f
    rcases ljP ts y.vars kn y.ps n .prop (i+1) (d+1) with⟨j,e,t⟩
    intro g f
    have hj:j<=ts.length:=f.le
    unfold okL at g
    obtain⟨z,hz,g⟩:=g
    dsimp only at g hz
    simp only[if_true]
    have start:∀(R:AV × List BO),((askK D (.fn 70) [eLp y,iv ((d+1:Nat):Int)] [cuB ts y.vars kn (i+1)] fun r3 o3=>unTup r3 fun cs3=>unCons cs3 fun c2 l14=>unAgg c2 fun cs4=>cInt IntKind.i64 cs4 fun n6 l15=>cLs l15 fun xs4 l16=>cLs l16 fun xs5 l17=>cInt IntKind.i64 l17 fun n7 l18=>cStr l18 fun s11 l19=>cStr l19 fun s12 l20=>cLs l20 fun xs6 l21=>unNil l21<|cInt IntKind.i64 l14 fun n8 l22=>unNil l22<|unOut o3 fun c3 l23=>unSet true false c3 fun cs5=>cLs cs5 fun xs7 l24=>cInt IntKind.i64 l24 fun n9 l25=>cLs l25 fun xs8 l26=>cBool l26 fun b3 l27=>unNil l27<|unEnd l23<|
      br (realA.eq n8 0) (askK D (Key.fn 248) [AV.ptr 0 0,sv (bstr [41])] [ABlk.mk [AV.ls xs7,iv n9,AV.ls xs8,bv b3] true false] fun r4 o4=>unInt IntKind.i64 r4 fun n10=>unOut o4 fun c4 l28=>unSet true false c4 fun cs6=>cLs cs6 fun xs9 l29=>cInt IntKind.i64 l29 fun n11 l30=>cLs l30 fun xs10 l31=>cBool l31 fun b4 l32=>unNil l32<|unEnd l28<|
       some ((AV.tup [AV.agg [iv n6,AV.ls xs4,AV.ls xs5,iv n7,sv s11,sv s12,AV.ls xs6],iv n10],[BO.set (ABlk.mk [AV.ls xs9,iv n11,AV.ls xs10,bv b4] true false)])))
       (some ((AV.tup [AV.agg [iv n6,AV.ls xs4,AV.ls xs5,iv n7,sv s11,sv s12,AV.ls xs6],iv n8],[BO.set (ABlk.mk [AV.ls xs7,iv n9,AV.ls xs8,bv b3] true false)]))))=some R)
      → D.ask (.fn 252) [eLp y,iv (d:Int)] [cuB ts y.vars kn i]=some R:=fun R hR=>by
     refine Kq.fn' hn252 _ rfl ((e252 ..).trans ((askK_of (at_ok K ts y.vars kn i (by omega) (by omega)) _).trans ?_))
     simp only[eTk,cuB,ND]
     refine(askK_of (lprefix_ok Kq P i) _).trans ?_
     rw[hpre,add1 (show d<4611686018427387904 by omega)]
     simp only[preI,ND]
     refine(br_eqT (by omega)).trans ?_
     refine(br_seqT (by rw[hsg.2])).trans ?_
     refine(br_leF (by omega)).trans ?_
     refine(br_eqF (by omega)).trans ?_
     refine(br_leF (by omega)).trans ?_
     refine(askK_of (take_ok K ts y.vars kn i (by omega) (by omega) _) _).trans ?_
     simp only[cuB,ND,h40,if_true]
     exact hR
    unfold thenT
    by_cases he:e=0
    .subst he
     obtain rfl:=hz rfl
     rw[if_pos rfl]
     dsimp only
     refine⟨z,fun h=>?_,start _ ?_⟩
     .by_cases h41:isT ts j [41]=true
      .rw[if_pos h41]
      .rw[if_neg h41]at h
       cases h
     .refine(askK_of g _).trans ?_
      obtain⟨k1,l1,r1,o1,p1,v1,ks1⟩:=z
      simp only[eTr,cuB,ND]
      refine(br_eqT rfl).trans ?_
      refine(askK_of (want_ok K ts y.vars kn j (by omega) (by omega) [41]) _).trans ?_
      cases isT ts j [41]<;>rfl
    .rw[if_neg he]
     refine⟨z,fun h=>absurd h he,start _ ?_⟩
     refine(askK_of g _).trans ?_
     obtain⟨k1,l1,r1,o1,p1,v1,ks1⟩:=z
     simp only[eTr,cuB,ND]
     refine(br_eqF (by omega)).trans ?_
     rfl
  |false=>
   rw[if_neg (fun e=>by simp at e)]
   simp only[Bool.false_eq_true,if_false]
   have start:∀(R:AV × List BO),((askK D (Key.fn 93) [AV.ptr 0 0,sv (bstr [64])] [cuB ts y.vars kn i] fun r3 o3=>unBool r3 fun b3=>unOut o3 fun c2 l14=>unSet true false c2 fun cs3=>cLs cs3 fun xs4 l15=>cInt IntKind.i64 l15 fun n6 l16=>cLs l16 fun xs5 l17=>cBool l17 fun b4 l18=>unNil l18<|unEnd l14<|
     br b3 (askK D (Key.fn 266) [eLp y] [ABlk.mk [AV.ls xs4,iv n6,AV.ls xs5,bv b4] true false] fun r4 o4=>unTup r4 fun cs4=>unCons cs4 fun c3 l19=>unAgg c3 fun cs5=>cInt IntKind.i64 cs5 fun n7 l20=>cLs l20 fun xs6 l21=>cLs l21 fun xs7 l22=>cInt IntKind.i64 l22 fun n8 l23=>cStr l23 fun s11 l24=>cStr l24 fun s12 l25=>cLs l25 fun xs8 l26=>unNil l26<|cInt IntKind.i64 l19 fun n9 l27=>unNil l27<|unOut o4 fun c4 l28=>unSet true false c4 fun cs6=>cLs cs6 fun xs9 l29=>cInt IntKind.i64 l29 fun n10 l30=>cLs l30 fun xs10 l31=>cBool l31 fun b5 l32=>unNil l32<|unEnd l28<|
       some ((AV.tup [AV.agg [iv n7,AV.ls xs6,AV.ls xs7,iv n8,sv s11,sv s12,AV.ls xs8],iv n9],[BO.set (ABlk.mk [AV.ls xs9,iv n10,AV.ls xs10,bv b5] true false)])))
      (askK D (Key.fn 267) [eLp y] [ABlk.mk [AV.ls xs4,iv n6,AV.ls xs5,bv b4] true false] fun r4 o4=>unTup r4 fun cs4=>unCons cs4 fun c3 l19=>unAgg c3 fun cs5=>cInt IntKind.i64 cs5 fun n7 l20=>cLs l20 fun xs6 l21=>cLs l21 fun xs7 l22=>cInt IntKind.i64 l22 fun n8 l23=>cStr l23 fun s11 l24=>cStr l24 fun s12 l25=>cLs l25 fun xs8 l26=>unNil l26<|cInt IntKind.i64 l19 fun n9 l27=>unNil l27<|unOut o4 fun c4 l28=>unSet true false c4 fun cs6=>cLs cs6 fun xs9 l29=>cInt IntKind.i64 l29 fun n10 l30=>cLs l30 fun xs10 l31=>cBool l31 fun b5 l32=>unNil l32<|unEnd l28<|
       some ((AV.tup [AV.agg [iv n7,AV.ls xs6,AV.ls xs7,iv n8,sv s11,sv s12,AV.ls xs8],iv n9],[BO.set (ABlk.mk [AV.ls xs9,iv n10,AV.ls xs10,bv b5] true false)]))))=some R)
     → D.ask (.fn 252) [eLp y,iv (d:Int)] [cuB ts y.vars kn i]=some R:=fun R hR=>by
    refine Kq.fn' hn252 _ rfl ((e252 ..).trans ((askK_of (at_ok K ts y.vars kn i (by omega) (by omega)) _).trans ?_))
    simp only[eTk,cuB,ND]
    refine(askK_of (lprefix_ok Kq P i) _).trans ?_
    rw[hpre]
    simp only[preI,ND]
    by_cases h2:(nx ts i).kind=2
    .refine(br_eqT (by omega)).trans ?_
     have ho:(nx ts i).text≠[40]:=fun e=>by
      rw[h40,decide_eq_true h2,decide_eq_true e]at hsg
      cases hsg
     refine(br_seqF (fun e=>ho (bstr_inj.1 e))).trans ?_
     refine(br_leF (by omega)).trans ?_
     refine(br_leF (by omega)).trans ?_
     refine(askK_of (take_ok K ts y.vars kn i (by omega) (by omega) _) _).trans ?_
     simp only[cuB,ND,h40,Bool.false_eq_true,if_false]
     exact hR
    .refine(br_eqF (by omega)).trans ?_
     refine(br_leF (by omega)).trans ?_
     refine(br_leF (by omega)).trans ?_
     refine(askK_of (take_ok K ts y.vars kn i (by omega) (by omega) _) _).trans ?_
     simp only[cuB,ND,h40,Bool.false_eq_true,if_false]
     exact hR
   cases h64:isT ts i [64]with
   |true=>
    simp only[if_true]
    refine⟨(lplaceP ts y.ps (i+1)).2.2,fun _=>rfl,start _ ?_⟩
    refine(askK_of (take_ok K ts y.vars kn i (by omega) (by omega) _) _).trans ?_
    simp only[cuB,ND,h64,if_true]
    have g:=lplace_ok K Kq L H y kn hp hq (i+1) (H.isT h64)
    refine(askK_of g _).trans ?_
    rcases lplaceP ts y.ps (i+1) with⟨j,e,⟨k,l,r,o,p,q,ks⟩⟩
    rfl
   |false=>
    simp only[Bool.false_eq_true,if_false]
    obtain⟨q,g,hq3⟩:=lcompare_ok K Kq L H y Kb kn hv i hi
    rw[←hq3]
    refine⟨q.2.2,fun _=>rfl,start _ ?_⟩
    refine(askK_of (take_ok K ts y.vars kn i (by omega) (by omega) _) _).trans ?_
    simp only[cuB,ND,h64,Bool.false_eq_true,if_false]
    refine(askK_of g _).trans ?_
    obtain⟨j,e,⟨k,l,r,o,p,q,ks⟩⟩:=q
    rfl
theorem bin_step(n:Nat)(ih:∀(j:LJ) (i d:Nat),i<=ts.length->d<=60->lneedJ ts j i<=n->okL D ts y kn j i d (ljP ts y.vars kn y.ps n j i d))(i d:Nat)(hi:i<=ts.length)(hd:d<=60)(hn:lneedJ ts .bin i<=n+1):okL D ts y kn .bin i d (ljP ts y.vars kn y.ps (n+1) .bin i d):=by
 have hl:=H.len
 have g:=ih .un i d hi hd (by simp only[lneedJ]at hn ⊢;omega)
 have f:Far ts i _ _:=ljP_far H y.vars kn y.ps n .un i d hi
 unfold okL ljP
 dsimp only
 revert f g
 rcases ljP ts y.vars kn y.ps n .un i d with⟨j,e,t⟩
 intro g f
 have hj:j<=ts.length:=f.le
 unfold okL at g
 obtain⟨z,hz,g⟩:=g
 dsimp only at g hz
 by_cases he:e=0
 .subst he
  have hg:=f.gt rfl
  obtain rfl:=hz rfl
  have e0:∀ k,thenT (j,0,z) k=k j z:=fun k=>rfl
  rw[e0]
  cases h85:isT ts j [85]with
  |true=>
   simp only[if_true]
   have hlt:=H.isT h85
   have g2:=ih .bin (j+1) d (by omega) hd (by simp only[lneedJ]at hn ⊢;omega)
   revert g2
   rcases ljP ts y.vars kn y.ps n .bin (j+1) d with⟨j2,e2,t2⟩
   intro g2
   unfold okL at g2
   obtain⟨z2,hz2,g2⟩:=g2
   dsimp only at g2 hz2
   unfold thenT
   refine⟨lmk 11 [z,z2],fun h=>?_,?_⟩
   .by_cases h0:e2=0
    .rw[hz2 h0,if_pos h0]
    .rw[if_neg h0]at h
     exact absurd h h0
   have hq2:(if e2=0 then(j2,0,lmk 11 [z,t2]) else failT (j2,e2,t2):Nat × Nat × Tr).2.1=e2/\(if e2=0 then(j2,0,lmk 11 [z,t2]) else failT (j2,e2,t2):Nat × Nat × Tr).1=j2:=by
    by_cases h0:e2=0
    .rw[if_pos h0];exact⟨h0.symm,rfl⟩
    .rw[if_neg h0];exact⟨rfl,rfl⟩
   rw[hq2.1,hq2.2]
   refine Kq.fn' hn230 _ rfl ((e230 ..).trans ?_)
   refine(askK_of g _).trans ?_
   obtain⟨k,l,r,o,p,q,ks⟩:=z
   simp only[eTr,cuB,ND]
   refine(br_eqT rfl).trans ?_
   refine(askK_of (take_ok K ts y.vars kn j (by omega) (by omega) _) _).trans ?_
   simp only[cuB,ND,h85,if_true]
   refine(askK_of g2 _).trans ?_
   obtain⟨k2,l2,r2,o2,p2,q2,ks2⟩:=z2
   simp only[eTr,cuB,ND]
   refine(askK_of (ltree_ok Kq 11 [.mk k l r o p q ks,.mk k2 l2 r2 o2 p2 q2 ks2]) _).trans ?_
   simp only[lmk,eTr,ND]
   all_goals rfl
  |false=>
   simp only[Bool.false_eq_true,if_false]
   cases h82:isT ts j [82]with
   |true=>
    simp only[if_true]
    have hlt:=H.isT h82
    have g2:=ih .bin (j+1) d (by omega) hd (by simp only[lneedJ]at hn ⊢;omega)
    revert g2
    rcases ljP ts y.vars kn y.ps n .bin (j+1) d with⟨j2,e2,t2⟩
    intro g2
    unfold okL at g2
    obtain⟨z2,hz2,g2⟩:=g2
    dsimp only at g2 hz2
    unfold thenT
    refine⟨lmk 12 [z,z2],fun h=>?_,?_⟩
    .by_cases h0:e2=0
     .rw[hz2 h0,if_pos h0]
     .rw[if_neg h0]at h
      exact absurd h h0
    have hq2:(if e2=0 then(j2,0,lmk 12 [z,t2]) else failT (j2,e2,t2):Nat × Nat × Tr).2.1=e2/\(if e2=0 then(j2,0,lmk 12 [z,t2]) else failT (j2,e2,t2):Nat × Nat × Tr).1=j2:=by
     by_cases h0:e2=0
     .rw[if_pos h0];exact⟨h0.symm,rfl⟩
     .rw[if_neg h0];exact⟨rfl,rfl⟩
    rw[hq2.1,hq2.2]
    refine Kq.fn' hn230 _ rfl ((e230 ..).trans ?_)
    refine(askK_of g _).trans ?_
    obtain⟨k,l,r,o,p,q,ks⟩:=z
    simp only[eTr,cuB,ND]
    refine(br_eqT rfl).trans ?_
    refine(askK_of (take_ok K ts y.vars kn j (by omega) (by omega) _) _).trans ?_
    simp only[cuB,ND,h85,Bool.false_eq_true,if_false]
    refine(askK_of (take_ok K ts y.vars kn j (by omega) (by omega) _) _).trans ?_
    simp only[cuB,ND,h82,if_true]
    refine(askK_of g2 _).trans ?_
    obtain⟨k2,l2,r2,o2,p2,q2,ks2⟩:=z2
    simp only[eTr,cuB,ND]
    refine(askK_of (ltree_ok Kq 12 [.mk k l r o p q ks,.mk k2 l2 r2 o2 p2 q2 ks2]) _).trans ?_
    simp only[lmk,eTr,ND]
    all_goals rfl
   |false=>
    simp only[Bool.false_eq_true,if_false]
    refine⟨z,fun _=>rfl,?_⟩
    refine Kq.fn' hn230 _ rfl ((e230 ..).trans ?_)
    refine(askK_of g _).trans ?_
    obtain⟨k,l,r,o,p,q,ks⟩:=z
    simp only[eTr,cuB,ND]
    refine(br_eqT rfl).trans ?_
    refine(askK_of (take_ok K ts y.vars kn j (by omega) (by omega) _) _).trans ?_
    simp only[cuB,ND,h85,Bool.false_eq_true,if_false]
    refine(askK_of (take_ok K ts y.vars kn j (by omega) (by omega) _) _).trans ?_
    simp only[cuB,ND,h82,Bool.false_eq_true,if_false]
    all_goals rfl
 .have e0:∀ k,thenT (j,e,t) k=(j,e,T0):=fun k=>if_neg he
  rw[e0]
  refine⟨z,fun h=>absurd h he,?_⟩
  refine Kq.fn' hn230 _ rfl ((e230 ..).trans ?_)
  refine(askK_of g _).trans ?_
  obtain⟨k,l,r,o,p,q,ks⟩:=z
  simp only[eTr,cuB,ND]
  refine(br_eqF (by omega)).trans ?_
  rfl
theorem prop_step(n:Nat)(ih:∀(j:LJ) (i d:Nat),i<=ts.length->d<=60->lneedJ ts j i<=n->okL D ts y kn j i d (ljP ts y.vars kn y.ps n j i d))(i d:Nat)(hi:i<=ts.length)(hd:d<=60)(hn:lneedJ ts .prop i<=n+1):okL D ts y kn .prop i d (ljP ts y.vars kn y.ps (n+1) .prop i d):=by
 have hl:=H.len
 have g:=ih .or i d hi hd (by simp only[lneedJ]at hn ⊢;omega)
 have f:Far ts i _ _:=ljP_far H y.vars kn y.ps n .or i d hi
 unfold okL ljP
 dsimp only
 revert f g
 rcases ljP ts y.vars kn y.ps n .or i d with⟨j,e,t⟩
 intro g f
 have hj:j<=ts.length:=f.le
 unfold okL at g
 obtain⟨z,hz,g⟩:=g
 dsimp only at g hz
 by_cases he:e=0
 .subst he
  have hg:=f.gt rfl
  obtain rfl:=hz rfl
  have e0:∀ k,thenT (j,0,z) k=k j z:=fun k=>rfl
  rw[e0]
  cases h45:isT ts j [45,62]with
  |true=>
   simp only[if_true]
   have hlt:=H.isT h45
   have g2:=ih .prop (j+1) d (by omega) hd (by simp only[lneedJ]at hn ⊢;omega)
   revert g2
   rcases ljP ts y.vars kn y.ps n .prop (j+1) d with⟨j2,e2,t2⟩
   intro g2
   unfold okL at g2
   obtain⟨z2,hz2,g2⟩:=g2
   dsimp only at g2 hz2
   unfold thenT
   refine⟨lmk 7 [z,z2],fun h=>?_,?_⟩
   .by_cases h0:e2=0
    .rw[hz2 h0,if_pos h0]
    .rw[if_neg h0]at h
     exact absurd h h0
   have hq2:(if e2=0 then(j2,0,lmk 7 [z,t2]) else failT (j2,e2,t2):Nat × Nat × Tr).2.1=e2/\(if e2=0 then(j2,0,lmk 7 [z,t2]) else failT (j2,e2,t2):Nat × Nat × Tr).1=j2:=by
    by_cases h0:e2=0
    .rw[if_pos h0];exact⟨h0.symm,rfl⟩
    .rw[if_neg h0];exact⟨rfl,rfl⟩
   rw[hq2.1,hq2.2]
   refine Kq.fn' hn70 _ rfl ((e70 ..).trans ?_)
   refine(askK_of g _).trans ?_
   obtain⟨k,l,r,o,p,q,ks⟩:=z
   simp only[eTr,cuB,ND]
   refine(br_eqT rfl).trans ?_
   refine(askK_of (take_ok K ts y.vars kn j (by omega) (by omega) _) _).trans ?_
   simp only[cuB,ND,h45,if_true]
   refine(askK_of g2 _).trans ?_
   obtain⟨k2,l2,r2,o2,p2,q2,ks2⟩:=z2
   simp only[eTr,cuB,ND]
   refine(askK_of (ltree_ok Kq 7 [.mk k l r o p q ks,.mk k2 l2 r2 o2 p2 q2 ks2]) _).trans ?_
   simp only[lmk,eTr,ND]
   all_goals rfl
  |false=>
   simp only[Bool.false_eq_true,if_false]
   refine⟨z,fun _=>rfl,?_⟩
   refine Kq.fn' hn70 _ rfl ((e70 ..).trans ?_)
   refine(askK_of g _).trans ?_
   obtain⟨k,l,r,o,p,q,ks⟩:=z
   simp only[eTr,cuB,ND]
   refine(br_eqT rfl).trans ?_
   refine(askK_of (take_ok K ts y.vars kn j (by omega) (by omega) _) _).trans ?_
   simp only[cuB,ND,h45,Bool.false_eq_true,if_false]
   all_goals rfl
 .have e0:∀ k,thenT (j,e,t) k=(j,e,T0):=fun k=>if_neg he
  rw[e0]
  refine⟨z,fun h=>absurd h he,?_⟩
  refine Kq.fn' hn70 _ rfl ((e70 ..).trans ?_)
  refine(askK_of g _).trans ?_
  obtain⟨k,l,r,o,p,q,ks⟩:=z
  simp only[eTr,cuB,ND]
  refine(br_eqF (by omega)).trans ?_
  rfl
theorem lloop_stepb(n:Nat)(ih:∀(j:LJ) (i d:Nat),i<=ts.length->d<=60->lneedJ ts j i<=n->okL D ts y kn j i d (ljP ts y.vars kn y.ps n j i d))(x:Tr)(i d:Nat)(hi:i<=ts.length)(hd:d<=60)(hn:lneedJ ts (.andL x) i<=n+1):okL D ts y kn (.andL x) i d (ljP ts y.vars kn y.ps (n+1) (.andL x) i d):=by
 have hl:=H.len
 unfold okL ljP
 dsimp only
 obtain⟨k1,l1,r1,o1,p1,v1,ks1⟩:=x
 cases hT:isT ts i [38]with
 |false=>
  refine⟨_,fun _=>rfl,?_⟩
  refine Kq.lp' hn185 _ rfl (by kernel_rfl) ((e185b_0 ..).trans ?_)
  refine(br_eqT rfl).trans ?_
  refine(askK_of (take_ok K ts y.vars kn i (by omega) (by omega) _) _).trans ?_
  simp only[cuB,ND,hT]
  all_goals rfl
 |true=>
  rw[if_pos rfl]
  have hlt:=H.isT hT
  have g:=ih .bin (i+1) d (by omega) hd (by simp only[lneedJ]at hn ⊢;omega)
  have f:Far ts (i+1) _ _:=ljP_far H y.vars kn y.ps n .bin (i+1) d (by omega)
  revert f g
  rcases ljP ts y.vars kn y.ps n .bin (i+1) d with⟨j,e,t⟩
  intro g f
  have hj:j<=ts.length:=f.le
  have hg:i+1<=j:=f.ge
  unfold thenT
  dsimp only
  unfold okL at g
  obtain⟨z,hz,g⟩:=g
  dsimp only at g hz
  by_cases he:e=0
  .subst he
   rw[if_pos rfl]
   obtain rfl:=hz rfl
   obtain⟨w,hw,h4⟩:=ih (.andL (lmk 4 [.mk k1 l1 r1 o1 p1 v1 ks1,z])) j d hj hd (by simp only[lneedJ]at hn ⊢;omega)
   refine⟨w,hw,?_⟩
   refine Kq.lp' hn185 _ rfl (by kernel_rfl) ((e185b_0 ..).trans ?_)
   refine(br_eqT rfl).trans ?_
   refine(askK_of (take_ok K ts y.vars kn i (by omega) (by omega) _) _).trans ?_
   simp only[cuB,ND,hT,if_true]
   refine(askK_of g _).trans ?_
   obtain⟨k,l,r,o,p,v,ks⟩:=z
   simp only[eTr,cuB,ND]
   refine(br_eqT rfl).trans ?_
   refine(askK_of (ltree_ok Kq 4 [.mk k1 l1 r1 o1 p1 v1 ks1,.mk k l r o p v ks]) _).trans ?_
   simp only[lmk,eTr,ND]
   refine(askK_of h4 _).trans ?_
   obtain⟨k,l,r,o,p,v,ks⟩:=w
   rfl
  .rw[if_neg he]
   refine⟨.mk k1 l1 r1 o1 p1 v1 ks1,fun h=>absurd h he,?_⟩
   refine Kq.lp' hn185 _ rfl (by kernel_rfl) ((e185b_0 ..).trans ?_)
   refine(br_eqT rfl).trans ?_
   refine(askK_of (take_ok K ts y.vars kn i (by omega) (by omega) _) _).trans ?_
   simp only[cuB,ND,hT,if_true]
   refine(askK_of g _).trans ?_
   obtain⟨k,l,r,o,p,v,ks⟩:=z
   simp only[eTr,cuB,ND]
   refine(br_eqF (by omega)).trans ?_
   refine(askK_of (lrow_errb Kq ts y kn j d e (.mk k1 l1 r1 o1 p1 v1 ks1) he) _).trans ?_
   rfl
theorem lall_stepb(n:Nat)(ih:∀(j:LJ) (i d:Nat),i<=ts.length->d<=60->lneedJ ts j i<=n->okL D ts y kn j i d (ljP ts y.vars kn y.ps n j i d))(i d:Nat)(hi:i<=ts.length)(hd:d<=60)(hn:lneedJ ts .and i<=n+1):okL D ts y kn .and i d (ljP ts y.vars kn y.ps (n+1) .and i d):=by
 have g:=ih .bin i d hi hd (by simp only[lneedJ]at hn ⊢;omega)
 have f:Far ts i _ _:=ljP_far H y.vars kn y.ps n .bin i d hi
 have hr:ljP ts y.vars kn y.ps (n+1) .and i d=thenT (ljP ts y.vars kn y.ps n .bin i d) fun j x=>ljP ts y.vars kn y.ps n (.andL x) j d:=rfl
 rw[hr]
 revert f g
 rcases ljP ts y.vars kn y.ps n .bin i d with⟨j,e,t⟩
 intro g f
 have hj:j<=ts.length:=f.le
 unfold okL at g
 obtain⟨z,hz,g⟩:=g
 unfold okL thenT
 dsimp only at g hz f ⊢
 obtain⟨w,hw,hrow⟩:=lrow_okb Kq ts y kn i d j e z (if e=0 then ljP ts y.vars kn y.ps n (.andL t) j d else failT (j,e,t)) g (fun he=>by rw[if_neg he];rfl) (fun he=>by
  have hg:=f.gt he
  rw[hz he,if_pos he]
  exact ih (.andL t) j d hj hd (by simp only[lneedJ]at hn ⊢;omega))
 refine⟨w,hw,?_⟩
 refine Kq.fn' hn186 _ rfl ((e186 ..).trans ?_)
 refine(askK_of hrow _).trans ?_
 rcases (if e=0 then ljP ts y.vars kn y.ps n (.andL t) j d else failT (j,e,t)) with⟨j2,e2,_⟩
 obtain⟨k,l,r,o,p,v,ks⟩:=w
 rfl
theorem lloop_stepa(n:Nat)(ih:∀(j:LJ) (i d:Nat),i<=ts.length->d<=60->lneedJ ts j i<=n->okL D ts y kn j i d (ljP ts y.vars kn y.ps n j i d))(x:Tr)(i d:Nat)(hi:i<=ts.length)(hd:d<=60)(hn:lneedJ ts (.orL x) i<=n+1):okL D ts y kn (.orL x) i d (ljP ts y.vars kn y.ps (n+1) (.orL x) i d):=by
 have hl:=H.len
 unfold okL ljP
 dsimp only
 obtain⟨k1,l1,r1,o1,p1,v1,ks1⟩:=x
 cases hT:isT ts i [124]with
 |false=>
  refine⟨_,fun _=>rfl,?_⟩
  refine Kq.lp' hn185 _ rfl (by kernel_rfl) ((e185a_0 ..).trans ?_)
  refine(br_eqT rfl).trans ?_
  refine(askK_of (take_ok K ts y.vars kn i (by omega) (by omega) _) _).trans ?_
  simp only[cuB,ND,hT]
  all_goals rfl
 |true=>
  rw[if_pos rfl]
  have hlt:=H.isT hT
  have g:=ih .and (i+1) d (by omega) hd (by simp only[lneedJ]at hn ⊢;omega)
  have f:Far ts (i+1) _ _:=ljP_far H y.vars kn y.ps n .and (i+1) d (by omega)
  revert f g
  rcases ljP ts y.vars kn y.ps n .and (i+1) d with⟨j,e,t⟩
  intro g f
  have hj:j<=ts.length:=f.le
  have hg:i+1<=j:=f.ge
  unfold thenT
  dsimp only
  unfold okL at g
  obtain⟨z,hz,g⟩:=g
  dsimp only at g hz
  by_cases he:e=0
  .subst he
   rw[if_pos rfl]
   obtain rfl:=hz rfl
   obtain⟨w,hw,h4⟩:=ih (.orL (lmk 5 [.mk k1 l1 r1 o1 p1 v1 ks1,z])) j d hj hd (by simp only[lneedJ]at hn ⊢;omega)
   refine⟨w,hw,?_⟩
   refine Kq.lp' hn185 _ rfl (by kernel_rfl) ((e185a_0 ..).trans ?_)
   refine(br_eqT rfl).trans ?_
   refine(askK_of (take_ok K ts y.vars kn i (by omega) (by omega) _) _).trans ?_
   simp only[cuB,ND,hT,if_true]
   refine(askK_of g _).trans ?_
   obtain⟨k,l,r,o,p,v,ks⟩:=z
   simp only[eTr,cuB,ND]
   refine(br_eqT rfl).trans ?_
   refine(askK_of (ltree_ok Kq 5 [.mk k1 l1 r1 o1 p1 v1 ks1,.mk k l r o p v ks]) _).trans ?_
   simp only[lmk,eTr,ND]
   refine(askK_of h4 _).trans ?_
   obtain⟨k,l,r,o,p,v,ks⟩:=w
   rfl
  .rw[if_neg he]
   refine⟨.mk k1 l1 r1 o1 p1 v1 ks1,fun h=>absurd h he,?_⟩
   refine Kq.lp' hn185 _ rfl (by kernel_rfl) ((e185a_0 ..).trans ?_)
   refine(br_eqT rfl).trans ?_
   refine(askK_of (take_ok K ts y.vars kn i (by omega) (by omega) _) _).trans ?_
   simp only[cuB,ND,hT,if_true]
   refine(askK_of g _).trans ?_
   obtain⟨k,l,r,o,p,v,ks⟩:=z
   simp only[eTr,cuB,ND]
   refine(br_eqF (by omega)).trans ?_
   refine(askK_of (lrow_erra Kq ts y kn j d e (.mk k1 l1 r1 o1 p1 v1 ks1) he) _).trans ?_
   rfl
theorem lall_stepa(n:Nat)(ih:∀(j:LJ) (i d:Nat),i<=ts.length->d<=60->lneedJ ts j i<=n->okL D ts y kn j i d (ljP ts y.vars kn y.ps n j i d))(i d:Nat)(hi:i<=ts.length)(hd:d<=60)(hn:lneedJ ts .or i<=n+1):okL D ts y kn .or i d (ljP ts y.vars kn y.ps (n+1) .or i d):=by
 have g:=ih .and i d hi hd (by simp only[lneedJ]at hn ⊢;omega)
 have f:Far ts i _ _:=ljP_far H y.vars kn y.ps n .and i d hi
 have hr:ljP ts y.vars kn y.ps (n+1) .or i d=thenT (ljP ts y.vars kn y.ps n .and i d) fun j x=>ljP ts y.vars kn y.ps n (.orL x) j d:=rfl
 rw[hr]
 revert f g
 rcases ljP ts y.vars kn y.ps n .and i d with⟨j,e,t⟩
 intro g f
 have hj:j<=ts.length:=f.le
 unfold okL at g
 obtain⟨z,hz,g⟩:=g
 unfold okL thenT
 dsimp only at g hz f ⊢
 obtain⟨w,hw,hrow⟩:=lrow_oka Kq ts y kn i d j e z (if e=0 then ljP ts y.vars kn y.ps n (.orL t) j d else failT (j,e,t)) g (fun he=>by rw[if_neg he];rfl) (fun he=>by
  have hg:=f.gt he
  rw[hz he,if_pos he]
  exact ih (.orL t) j d hj hd (by simp only[lneedJ]at hn ⊢;omega))
 refine⟨w,hw,?_⟩
 refine Kq.fn' hn125 _ rfl ((e125 ..).trans ?_)
 refine(askK_of hrow _).trans ?_
 rcases (if e=0 then ljP ts y.vars kn y.ps n (.orL t) j d else failT (j,e,t)) with⟨j2,e2,_⟩
 obtain⟨k,l,r,o,p,v,ks⟩:=w
 rfl
theorem lj_ok:∀(n:Nat) (j:LJ) (i d:Nat),i<=ts.length->d<=60->lneedJ ts j i<=n->okL D ts y kn j i d (ljP ts y.vars kn y.ps n j i d):=by
 intro n
 induction n with
 |zero=>intro j i d _ _ hn;cases j<;>simp[lneedJ]at hn
 |succ n ih=>
  intro j i d hi hd hn
  cases j with
  |un=>exact un_step K Kb Kq L H P y kn hv hp hq n ih i d hi hd hn
  |bin=>exact bin_step K Kb Kq L H P y kn hv hp hq n ih i d hi hd hn
  |and=>exact lall_stepb K Kb Kq L H P y kn hv hp hq n ih i d hi hd hn
  |or=>exact lall_stepa K Kb Kq L H P y kn hv hp hq n ih i d hi hd hn
  |prop=>exact prop_step K Kb Kq L H P y kn hv hp hq n ih i d hi hd hn
  |andL x=>exact lloop_stepb K Kb Kq L H P y kn hv hp hq n ih x i d hi hd hn
  |orL x=>exact lloop_stepa K Kb Kq L H P y kn hv hp hq n ih x i d hi hd hn
end
end Go.Proofs.YtlmhajfbpplpoaaGreat
namespace Go.Proofs.YtlmhajfbpplpoaaGreat
open Go.RowKit
set_option linter.unusedSectionVars false
section
variable {D:Orc}
def sysB(y:Sy):ABlk:=ABlk.mk (eSy y) true false
theorem two_ok(Kl:Knows ownC tabRl D)(k:Int)(a b:Tr):D.ask (.fn 128) [iv k,.agg (eTr a),.agg (eTr b)] []=some (.agg (eTr (lmk k [a,b])),[]):=by
 obtain⟨k1,l1,r1,o1,p1,v1,ks1⟩:=a
 obtain⟨k2,l2,r2,o2,p2,q2,ks2⟩:=b
 exact Kl.fn' hn128 _ rfl ((e128 ..).trans rfl)
theorem rproc_lp(Kl:Knows ownC tabRl D)(y:Sy)(hp:y.ps.length<=1000000)(s:ByteArray):∀(k i:Nat),y.ps.length-i=k->D.ask (.lp 192 0) [sv s,.ptr 0 0,iv (i:Int)] [sysB y]=some (placeR i (((y.ps.drop i).map (·.name)).findIdx? (s = ·)),[.del]):=by
 intro k
 induction k with
 |zero=>
  intro i hi
  refine Kl.lp' hn192 _ rfl (by kernel_rfl) ((e192_0 ..).trans ?_)
  rw[show y.ps.drop i=[] from List.drop_eq_nil_of_le (by omega),lenR_map]
  refine(br_ltF (by omega)).trans ?_
  rfl
 |succ k ih=>
  intro i hi
  have hlt:i<y.ps.length:=by omega
  have ih':=ih (i+1) (by omega)
  rw[show y.ps.drop i=y.ps[i]::y.ps.drop (i+1) from List.drop_eq_getElem_cons hlt,List.map_cons,List.findIdx?_cons]
  refine Kl.lp' hn192 _ rfl (by kernel_rfl) ((e192_0 ..).trans ?_)
  rw[lenR_map]
  refine(br_ltT (by omega)).trans ?_
  rw[unI_n,nthK_some (List.getElem?_eq_getElem hlt)]
  simp only[ePr,ND]
  by_cases h:s=y.ps[i].name
  .refine(br_seqT h.symm).trans ?_
   rw[if_pos (by simpa using h)]
   rfl
  .refine(br_seqF (fun e=>h e.symm)).trans ?_
   rw[if_neg (by simpa using h),add1 (by omega)]
   refine(askK_of ih' _).trans ?_
   cases ((y.ps.drop (i+1)).map (·.name)).findIdx? (s = ·) with
   |none=>rfl
   |some j=>
    simp only[placeR,Option.map_some,show i+(j+1)=i+1+j by omega]
    rfl
theorem rproc_ok(Kl:Knows ownC tabRl D)(y:Sy)(hp:y.ps.length<=1000000)(s:ByteArray):D.ask (.fn 192) [.agg (eSy y),sv s] []=some (iv (placeI ((y.ps.map (·.name)).findIdx? (s = ·))),[]):=by
 refine Kl.fn' hn192 _ rfl ((e192 ..).trans ?_)
 refine(askK_of (rproc_lp Kl y hp s _ 0 rfl) _).trans ?_
 rw[List.drop_zero]
 cases (y.ps.map (·.name)).findIdx? (s = ·) with
 |none=>rfl
 |some j=>simp only[placeR,ND,Nat.zero_add];all_goals rfl
variable (K:Knows ownC tabRa D) (Kl:Knows ownC tabRl D) (L:RNameF D) {ts:List Tk} (H:Toks ts) (y:Sy) (kn:Bool) (hv:y.vars.length<4611686018427387904) (hp:y.ps.length<=1000000) (hq:∀ p∈y.ps,p.locs.length<4611686018427387904)
include K Kl L H hp hq
theorem rahead_ok(i:Nat)(hi:i<=ts.length):D.ask (.fn 268) [cuA ts y.vars kn i] []=some (iv (preI (lpreP ts i)),[]):=by
 have hl:=H.len
 refine Kl.fn' hn268 _ rfl ((e268 ..).trans ?_)
 unfold lpreP
 refine(askK_of (tis_ok K ts y.vars kn i (by omega) _) _).trans ?_
 simp only[ND]
 cases isT ts i [33]with
 |true=>rfl
 |false=>
  refine(br_f _ _).trans ?_
  refine(askK_of (tis_ok K ts y.vars kn i (by omega) _) _).trans ?_
  simp only[ND]
  cases isT ts i [88]with
  |true=>rfl
  |false=>
   refine(br_f _ _).trans ?_
   refine(askK_of (tis_ok K ts y.vars kn i (by omega) _) _).trans ?_
   simp only[ND]
   cases isT ts i [71]with
   |true=>rfl
   |false=>
    refine(br_f _ _).trans ?_
    refine(askK_of (tis_ok K ts y.vars kn i (by omega) _) _).trans ?_
    simp only[ND]
    cases isT ts i [70]<;>rfl
theorem rplace_ok(i:Nat)(hi:i<=ts.length):D.ask (.fn 269) [cuA ts y.vars kn i,.agg (eSy y)] []
  = some (.tup [cuA ts y.vars kn (lplaceP ts y.ps i).1,.agg (eTr (lplaceP ts y.ps i).2.2),iv ((lplaceP ts y.ps i).2.1:Int)],[]):=by
 have hl:=H.len
 refine Kl.fn' hn269 _ rfl ((e269 ..).trans ?_)
 refine(askK_of (tname_ok K L ts y.vars kn i (by omega) H.short) _).trans ?_
 simp only[ND]
 unfold lplaceP
 cases h1:isN ts i with
 |false=>rfl
 |true=>
  have l1:=H.isN h1
  refine(br_t _ _).trans ?_
  rw[if_neg (by simp)]
  refine(askK_of (next_ok K ts y.vars kn i (by omega)) _).trans ?_
  simp only[eTk,ND]
  refine(askK_of (rproc_ok Kl y hp _) _).trans ?_
  simp only[ND]
  have hf:=lfind_idx (ltkB ts i) y.ps
  unfold ltkB at hf ⊢
  cases h2:(y.ps.map (·.name)).findIdx? (bstr (nx ts i).text = ·) with
  |none=>
   rw[h2]at hf
   rw[hf]
   refine(br_ltT (by decide)).trans ?_
   rfl
  |some k=>
   rw[h2]at hf
   obtain⟨p,f1,f2,f3⟩:=hf
   rw[f3]
   refine(br_ltF (show ¬ (k:Int)<0 by omega)).trans ?_
   refine(askK_of (on_ok K ts y.vars kn i (by omega)) _).trans ?_
   simp only[cuA,ND]
   refine(askK_of (tis_ok K ts y.vars kn (i+1) (by omega) _) _).trans ?_
   simp only[ND]
   cases h3:isT ts (i+1) [46]with
   |false=>rfl
   |true=>
    have l2:=H.isT h3
    refine(br_t _ _).trans ?_
    rw[if_neg (by simp)]
    refine(askK_of (on_ok K ts y.vars kn (i+1) (by omega)) _).trans ?_
    simp only[cuA,ND]
    refine(askK_of (tname_ok K L ts y.vars kn (i+1+1) (by omega) H.short) _).trans ?_
    simp only[ND]
    rw[show i+1+1=i+2 from rfl]
    cases h4:isN ts (i+2) with
    |false=>rfl
    |true=>
     refine(br_t _ _).trans ?_
     rw[if_neg (by simp)]
     refine(askK_of (next_ok K ts y.vars kn (i+2) (by omega)) _).trans ?_
     simp only[eTk,placeI,ND]
     rw[unI_n,nthK_some f1]
     simp only[ePr,ND]
     refine(askK_of (in_ok K p.locs (hq p (List.mem_of_getElem? f1)) _) _).trans ?_
     simp only[ND]
     by_cases h5:bstr (nx ts (i+2)).text∈p.locs
     .rw[decide_eq_true h5,if_neg (fun e=>e h5)]
      refine(br_t _ _).trans ?_
      refine(askK_of (on_ok K ts y.vars kn (i+2) (by omega)) _).trans ?_
      simp only[cuA,ND]
      rw[unI_n,nthK_some f1]
      simp only[ePr,ND,f2]
      all_goals rfl
     .rw[decide_eq_false h5,if_pos h5]
      rfl
def okRL(D:Orc)(ts:List Tk)(y:Sy)(kn:Bool):LJ->Nat->Nat->Nat × Nat × Tr->Prop
 |.un,i,d,q=>∃ z,(q.2.1=0->z=q.2.2)/\D.ask (.fn 253) [cuA ts y.vars kn i,.agg (eSy y),iv (d:Int)] []=some (.tup [cuA ts y.vars kn q.1,.agg (eTr z),iv (q.2.1:Int)],[])
 |.bin,i,d,q=>∃ z,(q.2.1=0->z=q.2.2)/\D.ask (.fn 231) [cuA ts y.vars kn i,.agg (eSy y),iv (d:Int)] []=some (.tup [cuA ts y.vars kn q.1,.agg (eTr z),iv (q.2.1:Int)],[])
 |.and,i,d,q=>∃ z,(q.2.1=0->z=q.2.2)/\D.ask (.fn 187) [cuA ts y.vars kn i,.agg (eSy y),iv (d:Int)] []=some (.tup [cuA ts y.vars kn q.1,.agg (eTr z),iv (q.2.1:Int)],[])
 |.or,i,d,q=>∃ z,(q.2.1=0->z=q.2.2)/\D.ask (.fn 127) [cuA ts y.vars kn i,.agg (eSy y),iv (d:Int)] []=some (.tup [cuA ts y.vars kn q.1,.agg (eTr z),iv (q.2.1:Int)],[])
 |.prop,i,d,q=>∃ z,(q.2.1=0->z=q.2.2)/\D.ask (.fn 71) [cuA ts y.vars kn i,.agg (eSy y),iv (d:Int)] []=some (.tup [cuA ts y.vars kn q.1,.agg (eTr z),iv (q.2.1:Int)],[])
 |.andL x,i,d,q=>∃ z,(q.2.1=0->z=q.2.2)/\D.ask (.lp 187 0) [iv (d:Int),.ptr 0 0,.ptr 1 0,.ptr 2 0,.ptr 3 0,.ptr 4 0,iv 0] [cuB ts y.vars kn i,sysB y,tz,trB T0,trB x]
   = some (.tup [iv 0,.ptr 0 0,.ptr 2 0,.ptr 3 0,.ptr 4 0,iv (q.2.1:Int)],[.set (cuB ts y.vars kn q.1),.del,.set tz,.set (trB T0),.set (trB z)])
 |.orL x,i,d,q=>∃ z,(q.2.1=0->z=q.2.2)/\D.ask (.lp 127 0) [iv (d:Int),.ptr 0 0,.ptr 1 0,.ptr 2 0,.ptr 3 0,.ptr 4 0,iv 0] [cuB ts y.vars kn i,sysB y,tz,trB T0,trB x]
   = some (.tup [iv 0,.ptr 0 0,.ptr 2 0,.ptr 3 0,.ptr 4 0,iv (q.2.1:Int)],[.set (cuB ts y.vars kn q.1),.del,.set tz,.set (trB T0),.set (trB z)])
omit K Kl L H hp hq
theorem rlrow_errand(Kl:Knows ownC tabRl D)(ts:List Tk)(y:Sy)(kn:Bool)(i d e:Nat)(x:Tr)(he:e≠0):D.ask (.lp 187 0) [iv (d:Int),.ptr 0 0,.ptr 1 0,.ptr 2 0,.ptr 3 0,.ptr 4 0,iv (e:Int)] [cuB ts y.vars kn i,sysB y,tz,trB T0,trB x]
  = some (.tup [iv 0,.ptr 0 0,.ptr 2 0,.ptr 3 0,.ptr 4 0,iv (e:Int)],[.set (cuB ts y.vars kn i),.del,.set tz,.set (trB T0),.set (trB x)]):=by
 obtain⟨k,l,r,o,p,q,ks⟩:=x
 refine Kl.lp' hn187 _ rfl (by kernel_rfl) ((e187_0 ..).trans ?_)
 refine(br_eqF (by omega)).trans ?_
 rfl
theorem rlrow_error(Kl:Knows ownC tabRl D)(ts:List Tk)(y:Sy)(kn:Bool)(i d e:Nat)(x:Tr)(he:e≠0):D.ask (.lp 127 0) [iv (d:Int),.ptr 0 0,.ptr 1 0,.ptr 2 0,.ptr 3 0,.ptr 4 0,iv (e:Int)] [cuB ts y.vars kn i,sysB y,tz,trB T0,trB x]
  = some (.tup [iv 0,.ptr 0 0,.ptr 2 0,.ptr 3 0,.ptr 4 0,iv (e:Int)],[.set (cuB ts y.vars kn i),.del,.set tz,.set (trB T0),.set (trB x)]):=by
 obtain⟨k,l,r,o,p,q,ks⟩:=x
 refine Kl.lp' hn127 _ rfl (by kernel_rfl) ((e127_0 ..).trans ?_)
 refine(br_eqF (by omega)).trans ?_
 rfl
variable (hnum:∀ i,(nx ts i).kind=3->(nx ts i).text≠[])
include K Kl L H hnum hv hp hq
theorem rlun_step(n:Nat)(ih:∀(j:LJ) (i d:Nat),i<=ts.length->d<=60->lneedJ ts j i<=n->okRL D ts y kn j i d (ljP ts y.vars kn y.ps n j i d))(i d:Nat)(hi:i<=ts.length)(hd:d<=60)(hn:lneedJ ts .un i<=n+1):okRL D ts y kn .un i d (ljP ts y.vars kn y.ps (n+1) .un i d):=by
 have hl:=H.len
 have hle:=preI_le (ts:=ts) i
 have ga:=rahead_ok K Kl L H y kn hp hq i hi
 unfold okRL ljP
 dsimp only
 cases hpre:lpreP ts i with
 |some k=>
  rw[hpre]at hle ga
  have hk:0<=k:=hle.2 rfl
  have hlt:=lpreP_far H hpre
  by_cases h60:d=60
  .subst h60
   rw[if_pos ⟨by simp,rfl⟩]
   refine⟨T0,fun _=>rfl,?_⟩
   refine Kl.fn' hn253 _ rfl ((e253 ..).trans ?_)
   refine(askK_of ga _).trans ?_
   simp only[preI,ND]
   refine(br_leT hk).trans ?_
   refine(br_eqT rfl).trans ?_
   rfl
  .rw[if_neg (fun e=>h60 e.2)]
   have g:=ih .un (i+1) (d+1) (by omega) (by omega) (by simp only[lneedJ]at hn ⊢;omega)
   revert g
   rcases ljP ts y.vars kn y.ps n .un (i+1) (d+1) with⟨j,e,t⟩
   intro g
   unfold okRL at g
   obtain⟨z,hz,g⟩:=g
   dsimp only at g hz
   have hq2:(thenT (j,e,t) fun j x=>(j,0,lmk k [x]):Nat × Nat × Tr).2.1=e/\(thenT (j,e,t) fun j x=>(j,0,lmk k [x]):Nat × Nat × Tr).1=j:=by
    unfold thenT
    by_cases h0:e=0
    .rw[if_pos h0];exact⟨h0.symm,rfl⟩
    .rw[if_neg h0];exact⟨rfl,rfl⟩
   simp only
   rw[hq2.1,hq2.2]
   refine⟨lmk k [z],fun h=>?_,?_⟩
   .unfold thenT
    rw[hz h,if_pos h]
   .refine Kl.fn' hn253 _ rfl ((e253 ..).trans ?_)
    refine(askK_of ga _).trans ?_
    simp only[preI,ND]
    refine(br_leT hk).trans ?_
    refine(br_eqF (by omega)).trans ?_
    refine(br_leT hk).trans ?_
    refine(askK_of (on_ok K ts y.vars kn i (by omega)) _).trans ?_
    simp only[cuA,ND,add1 (show d<4611686018427387904 by omega)]
    refine(askK_of g _).trans ?_
    obtain⟨k1,l1,r1,o1,p1,v1,ks1⟩:=z
    simp only[lmk,eTr,eTrs,cuA,ND]
    all_goals rfl
 |none=>
  rw[hpre]at ga
  cases h40:isT ts i [40]with
  |true=>
   have hlt:=H.isT h40
   by_cases h60:d=60
   .subst h60
    rw[if_pos ⟨by simp,rfl⟩]
    refine⟨T0,fun _=>rfl,?_⟩
    refine Kl.fn' hn253 _ rfl ((e253 ..).trans ?_)
    refine(askK_of ga _).trans ?_
    simp only[preI,ND]
    refine(br_leF (by omega)).trans ?_
    refine(askK_of (tis_ok K ts y.vars kn i (by omega) _) _).trans ?_
    simp only[ND,h40]
    refine(br_eqT rfl).trans ?_
    rfl
   .rw[if_neg (fun e=>h60 e.2)]
    have g:=ih .prop (i+1) (d+1) (by omega) (by omega) (by simp only[lneedJ]at hn ⊢;omega)
    have f:Far ts (i+1) _ _:=ljP_far H y.vars kn y.ps n .prop (i+1) (d+1) (by omega)
    revert g f
    rcases ljP ts y.vars kn y.ps n .prop (i+1) (d+1) with⟨j,e,t⟩
    intro g f
    have hj:j<=ts.length:=f.le
    unfold okRL at g
    obtain⟨z,hz,g⟩:=g
    dsimp only at g hz
    simp only[if_true]
    unfold thenT
    by_cases he:e=0
    .subst he
     obtain rfl:=hz rfl
     rw[if_pos rfl]
     dsimp only
     refine⟨z,fun h=>?_,?_⟩
     .by_cases h41:isT ts j [41]=true
      .rw[if_pos h41]
      .rw[if_neg h41]at h
       cases h
     .refine Kl.fn' hn253 _ rfl ((e253 ..).trans ?_)
      refine(askK_of ga _).trans ?_
      simp only[preI,ND]
      refine(br_leF (by omega)).trans ?_
      refine(askK_of (tis_ok K ts y.vars kn i (by omega) _) _).trans ?_
      simp only[ND,h40]
      refine(br_eqF (by omega)).trans ?_
      refine(br_leF (by omega)).trans ?_
      refine(askK_of (tis_ok K ts y.vars kn i (by omega) _) _).trans ?_
      simp only[ND,h40]
      refine(askK_of (on_ok K ts y.vars kn i (by omega)) _).trans ?_
      simp only[cuA,ND,add1 (show d<4611686018427387904 by omega)]
      refine(askK_of g _).trans ?_
      obtain⟨k1,l1,r1,o1,p1,v1,ks1⟩:=z
      simp only[eTr,cuA,ND]
      refine(br_eqT rfl).trans ?_
      refine(askK_of (tis_ok K ts y.vars kn j (by omega) _) _).trans ?_
      simp only[ND]
      cases isT ts j [41]with
      |true=>
       refine(br_t _ _).trans ?_
       refine(br_eqT rfl).trans ?_
       refine(askK_of (on_ok K ts y.vars kn j (by omega)) _).trans ?_
       rfl
      |false=>
       refine(br_f _ _).trans ?_
       refine(br_eqF (by decide)).trans ?_
       rfl
    .rw[if_neg he]
     refine⟨z,fun h=>absurd h he,?_⟩
     refine Kl.fn' hn253 _ rfl ((e253 ..).trans ?_)
     refine(askK_of ga _).trans ?_
     simp only[preI,ND]
     refine(br_leF (by omega)).trans ?_
     refine(askK_of (tis_ok K ts y.vars kn i (by omega) _) _).trans ?_
     simp only[ND,h40]
     refine(br_eqF (by omega)).trans ?_
     refine(br_leF (by omega)).trans ?_
     refine(askK_of (tis_ok K ts y.vars kn i (by omega) _) _).trans ?_
     simp only[ND,h40]
     refine(askK_of (on_ok K ts y.vars kn i (by omega)) _).trans ?_
     simp only[cuA,ND,add1 (show d<4611686018427387904 by omega)]
     refine(askK_of g _).trans ?_
     obtain⟨k1,l1,r1,o1,p1,v1,ks1⟩:=z
     simp only[eTr,cuA,ND]
     refine(br_eqF (by omega)).trans ?_
     refine(br_eqF (by omega)).trans ?_
     rfl
  |false=>
   rw[if_neg (fun e=>by simp at e)]
   simp only[Bool.false_eq_true,if_false]
   refine⟨(if isT ts i [64]=true then lplaceP ts y.ps (i+1) else if isT ts i [116,114,117,101]=true then(i+1,0,lmk 0 []) else if isT ts i [102,97,108,115,101]=true then(i+1,0,lmk 1 []) else cmpP ts y.vars kn i).2.2,fun _=>rfl,?_⟩
   refine Kl.fn' hn253 _ rfl ((e253 ..).trans ?_)
   refine(askK_of ga _).trans ?_
   simp only[preI,ND]
   refine(br_leF (by omega)).trans ?_
   refine(askK_of (tis_ok K ts y.vars kn i (by omega) _) _).trans ?_
   simp only[ND,h40]
   refine(br_leF (by omega)).trans ?_
   refine(askK_of (tis_ok K ts y.vars kn i (by omega) _) _).trans ?_
   simp only[ND,h40]
   refine(askK_of (tis_ok K ts y.vars kn i (by omega) _) _).trans ?_
   simp only[ND]
   cases h64:isT ts i [64]with
   |true=>
    refine(br_t _ _).trans ?_
    simp only[if_true]
    refine(askK_of (on_ok K ts y.vars kn i (by omega)) _).trans ?_
    simp only[cuA,ND]
    refine(askK_of (rplace_ok K Kl L H y kn hp hq (i+1) (H.isT h64)) _).trans ?_
    rcases lplaceP ts y.ps (i+1) with⟨j,e,⟨k,l,r,o,p,q,ks⟩⟩
    rfl
   |false=>
    refine(br_f _ _).trans ?_
    simp only[Bool.false_eq_true,if_false]
    refine(askK_of (tis_ok K ts y.vars kn i (by omega) _) _).trans ?_
    simp only[ND]
    cases hT:isT ts i [116,114,117,101]with
    |true=>
     refine(br_t _ _).trans ?_
     refine(askK_of (on_ok K ts y.vars kn i (by omega)) _).trans ?_
     rfl
    |false=>
     refine(br_f _ _).trans ?_
     simp only[Bool.false_eq_true,if_false]
     refine(askK_of (tis_ok K ts y.vars kn i (by omega) _) _).trans ?_
     simp only[ND]
     cases hF:isT ts i [102,97,108,115,101]with
     |true=>
      refine(br_t _ _).trans ?_
      refine(askK_of (on_ok K ts y.vars kn i (by omega)) _).trans ?_
      rfl
     |false=>
      refine(br_f _ _).trans ?_
      simp only[Bool.false_eq_true,if_false]
      refine(askK_of (rcompare_ok K L H hnum y.vars kn hv i hi) _).trans ?_
      rcases cmpP ts y.vars kn i with⟨j,e,⟨k,l,r,o,p,q,ks⟩⟩
      rfl
theorem rlbin_step(n:Nat)(ih:∀(j:LJ) (i d:Nat),i<=ts.length->d<=60->lneedJ ts j i<=n->okRL D ts y kn j i d (ljP ts y.vars kn y.ps n j i d))(i d:Nat)(hi:i<=ts.length)(hd:d<=60)(hn:lneedJ ts .bin i<=n+1):okRL D ts y kn .bin i d (ljP ts y.vars kn y.ps (n+1) .bin i d):=by
 have hl:=H.len
 have g:=ih .un i d hi hd (by simp only[lneedJ]at hn ⊢;omega)
 have f:Far ts i _ _:=ljP_far H y.vars kn y.ps n .un i d hi
 unfold okRL ljP
 dsimp only
 revert f g
 rcases ljP ts y.vars kn y.ps n .un i d with⟨j,e,t⟩
 intro g f
 have hj:j<=ts.length:=f.le
 unfold okRL at g
 obtain⟨z,hz,g⟩:=g
 dsimp only at g hz
 have hx:isT ts j [85]=true->isT ts j [82]=false:=fun h=>by
  unfold isT at h ⊢
  simp only[Bool.and_eq_true,decide_eq_true_eq]at h
  rw[decide_eq_false (fun e=>by rw[h.1]at e;simp at e)]
  rfl
 by_cases he:e=0
 .subst he
  have hg:=f.gt rfl
  obtain rfl:=hz rfl
  have e0:∀ k,thenT (j,0,z) k=k j z:=fun k=>rfl
  rw[e0]
  cases h85:isT ts j [85]with
  |true=>
   simp only[if_true]
   have hlt:=H.isT h85
   have g2:=ih .bin (j+1) d (by omega) hd (by simp only[lneedJ]at hn ⊢;omega)
   revert g2
   rcases ljP ts y.vars kn y.ps n .bin (j+1) d with⟨j2,e2,t2⟩
   intro g2
   unfold okRL at g2
   obtain⟨z2,hz2,g2⟩:=g2
   dsimp only at g2 hz2
   unfold thenT
   refine⟨lmk 11 [z,z2],fun h=>?_,?_⟩
   .by_cases h0:e2=0
    .rw[hz2 h0,if_pos h0]
    .rw[if_neg h0]at h
     exact absurd h h0
   have hq2:(if e2=0 then(j2,0,lmk 11 [z,t2]) else failT (j2,e2,t2):Nat × Nat × Tr).2.1=e2/\(if e2=0 then(j2,0,lmk 11 [z,t2]) else failT (j2,e2,t2):Nat × Nat × Tr).1=j2:=by
    by_cases h0:e2=0
    .rw[if_pos h0];exact⟨h0.symm,rfl⟩
    .rw[if_neg h0];exact⟨rfl,rfl⟩
   rw[hq2.1,hq2.2]
   refine Kl.fn' hn231 _ rfl ((e231 ..).trans ?_)
   refine(askK_of g _).trans ?_
   obtain⟨k,l,r,o,p,q,ks⟩:=z
   simp only[eTr,cuA,ND]
   refine(askK_of (tis_ok K ts y.vars kn j (by omega) _) _).trans ?_
   simp only[ND,h85]
   refine(askK_of (tis_ok K ts y.vars kn j (by omega) _) _).trans ?_
   simp only[ND,hx h85]
   refine(br_eqT rfl).trans ?_
   refine(br_eqF (by decide)).trans ?_
   refine(askK_of (on_ok K ts y.vars kn j (by omega)) _).trans ?_
   simp only[cuA,ND]
   refine(askK_of g2 _).trans ?_
   obtain⟨k2,l2,r2,o2,p2,q2,ks2⟩:=z2
   simp only[eTr,cuA,ND]
   refine(askK_of (two_ok Kl 11 (.mk k l r o p q ks) (.mk k2 l2 r2 o2 p2 q2 ks2)) _).trans ?_
   simp only[lmk,eTr,ND]
   all_goals rfl
  |false=>
   simp only[Bool.false_eq_true,if_false]
   cases h82:isT ts j [82]with
   |true=>
    simp only[if_true]
    have hlt:=H.isT h82
    have g2:=ih .bin (j+1) d (by omega) hd (by simp only[lneedJ]at hn ⊢;omega)
    revert g2
    rcases ljP ts y.vars kn y.ps n .bin (j+1) d with⟨j2,e2,t2⟩
    intro g2
    unfold okRL at g2
    obtain⟨z2,hz2,g2⟩:=g2
    dsimp only at g2 hz2
    unfold thenT
    refine⟨lmk 12 [z,z2],fun h=>?_,?_⟩
    .by_cases h0:e2=0
     .rw[hz2 h0,if_pos h0]
     .rw[if_neg h0]at h
      exact absurd h h0
    have hq2:(if e2=0 then(j2,0,lmk 12 [z,t2]) else failT (j2,e2,t2):Nat × Nat × Tr).2.1=e2/\(if e2=0 then(j2,0,lmk 12 [z,t2]) else failT (j2,e2,t2):Nat × Nat × Tr).1=j2:=by
     by_cases h0:e2=0
     .rw[if_pos h0];exact⟨h0.symm,rfl⟩
     .rw[if_neg h0];exact⟨rfl,rfl⟩
    rw[hq2.1,hq2.2]
    refine Kl.fn' hn231 _ rfl ((e231 ..).trans ?_)
    refine(askK_of g _).trans ?_
    obtain⟨k,l,r,o,p,q,ks⟩:=z
    simp only[eTr,cuA,ND]
    refine(askK_of (tis_ok K ts y.vars kn j (by omega) _) _).trans ?_
    simp only[ND,h85]
    refine(askK_of (tis_ok K ts y.vars kn j (by omega) _) _).trans ?_
    simp only[ND,h82]
    refine(br_eqT rfl).trans ?_
    refine(br_eqF (by decide)).trans ?_
    refine(askK_of (on_ok K ts y.vars kn j (by omega)) _).trans ?_
    simp only[cuA,ND]
    refine(askK_of g2 _).trans ?_
    obtain⟨k2,l2,r2,o2,p2,q2,ks2⟩:=z2
    simp only[eTr,cuA,ND]
    refine(askK_of (two_ok Kl 12 (.mk k l r o p q ks) (.mk k2 l2 r2 o2 p2 q2 ks2)) _).trans ?_
    simp only[lmk,eTr,ND]
    all_goals rfl
   |false=>
    simp only[Bool.false_eq_true,if_false]
    refine⟨z,fun _=>rfl,?_⟩
    refine Kl.fn' hn231 _ rfl ((e231 ..).trans ?_)
    refine(askK_of g _).trans ?_
    obtain⟨k,l,r,o,p,q,ks⟩:=z
    simp only[eTr,cuA,ND]
    refine(askK_of (tis_ok K ts y.vars kn j (by omega) _) _).trans ?_
    simp only[ND,h85]
    refine(askK_of (tis_ok K ts y.vars kn j (by omega) _) _).trans ?_
    simp only[ND,h82]
    refine(br_eqT rfl).trans ?_
    refine(br_eqT rfl).trans ?_
    rfl
 .have e0:∀ k,thenT (j,e,t) k=(j,e,T0):=fun k=>if_neg he
  rw[e0]
  refine⟨z,fun h=>absurd h he,?_⟩
  refine Kl.fn' hn231 _ rfl ((e231 ..).trans ?_)
  refine(askK_of g _).trans ?_
  obtain⟨k,l,r,o,p,q,ks⟩:=z
  simp only[eTr,cuA,ND]
  refine(askK_of (tis_ok K ts y.vars kn j (by omega) _) _).trans ?_
  simp only[ND]
  cases isT ts j [85]with
  |true=>
   refine(br_t _ _).trans ?_
   refine(askK_of (tis_ok K ts y.vars kn j (by omega) _) _).trans ?_
   simp only[ND]
   cases isT ts j [82]with
   |true=>
    refine(br_t _ _).trans ?_
    refine(br_eqF (by omega)).trans ?_
    rfl
   |false=>
    refine(br_f _ _).trans ?_
    refine(br_eqF (by omega)).trans ?_
    rfl
  |false=>
   refine(br_f _ _).trans ?_
   refine(askK_of (tis_ok K ts y.vars kn j (by omega) _) _).trans ?_
   simp only[ND]
   cases isT ts j [82]with
   |true=>
    refine(br_t _ _).trans ?_
    refine(br_eqF (by omega)).trans ?_
    rfl
   |false=>
    refine(br_f _ _).trans ?_
    refine(br_eqF (by omega)).trans ?_
    rfl
theorem rlprop_step(n:Nat)(ih:∀(j:LJ) (i d:Nat),i<=ts.length->d<=60->lneedJ ts j i<=n->okRL D ts y kn j i d (ljP ts y.vars kn y.ps n j i d))(i d:Nat)(hi:i<=ts.length)(hd:d<=60)(hn:lneedJ ts .prop i<=n+1):okRL D ts y kn .prop i d (ljP ts y.vars kn y.ps (n+1) .prop i d):=by
 have hl:=H.len
 have g:=ih .or i d hi hd (by simp only[lneedJ]at hn ⊢;omega)
 have f:Far ts i _ _:=ljP_far H y.vars kn y.ps n .or i d hi
 unfold okRL ljP
 dsimp only
 revert f g
 rcases ljP ts y.vars kn y.ps n .or i d with⟨j,e,t⟩
 intro g f
 have hj:j<=ts.length:=f.le
 unfold okRL at g
 obtain⟨z,hz,g⟩:=g
 dsimp only at g hz
 by_cases he:e=0
 .subst he
  have hg:=f.gt rfl
  obtain rfl:=hz rfl
  have e0:∀ k,thenT (j,0,z) k=k j z:=fun k=>rfl
  rw[e0]
  cases h45:isT ts j [45,62]with
  |true=>
   simp only[if_true]
   have hlt:=H.isT h45
   have g2:=ih .prop (j+1) d (by omega) hd (by simp only[lneedJ]at hn ⊢;omega)
   revert g2
   rcases ljP ts y.vars kn y.ps n .prop (j+1) d with⟨j2,e2,t2⟩
   intro g2
   unfold okRL at g2
   obtain⟨z2,hz2,g2⟩:=g2
   dsimp only at g2 hz2
   unfold thenT
   refine⟨lmk 7 [z,z2],fun h=>?_,?_⟩
   .by_cases h0:e2=0
    .rw[hz2 h0,if_pos h0]
    .rw[if_neg h0]at h
     exact absurd h h0
   have hq2:(if e2=0 then(j2,0,lmk 7 [z,t2]) else failT (j2,e2,t2):Nat × Nat × Tr).2.1=e2/\(if e2=0 then(j2,0,lmk 7 [z,t2]) else failT (j2,e2,t2):Nat × Nat × Tr).1=j2:=by
    by_cases h0:e2=0
    .rw[if_pos h0];exact⟨h0.symm,rfl⟩
    .rw[if_neg h0];exact⟨rfl,rfl⟩
   rw[hq2.1,hq2.2]
   refine Kl.fn' hn71 _ rfl ((e71 ..).trans ?_)
   refine(askK_of g _).trans ?_
   obtain⟨k,l,r,o,p,q,ks⟩:=z
   simp only[eTr,cuA,ND]
   refine(br_eqT rfl).trans ?_
   refine(askK_of (tis_ok K ts y.vars kn j (by omega) _) _).trans ?_
   simp only[ND,h45]
   refine(askK_of (on_ok K ts y.vars kn j (by omega)) _).trans ?_
   simp only[cuA,ND]
   refine(askK_of g2 _).trans ?_
   obtain⟨k2,l2,r2,o2,p2,q2,ks2⟩:=z2
   simp only[eTr,cuA,ND]
   refine(askK_of (two_ok Kl 7 (.mk k l r o p q ks) (.mk k2 l2 r2 o2 p2 q2 ks2)) _).trans ?_
   simp only[lmk,eTr,ND]
   all_goals rfl
  |false=>
   simp only[Bool.false_eq_true,if_false]
   refine⟨z,fun _=>rfl,?_⟩
   refine Kl.fn' hn71 _ rfl ((e71 ..).trans ?_)
   refine(askK_of g _).trans ?_
   obtain⟨k,l,r,o,p,q,ks⟩:=z
   simp only[eTr,cuA,ND]
   refine(br_eqT rfl).trans ?_
   refine(askK_of (tis_ok K ts y.vars kn j (by omega) _) _).trans ?_
   simp only[ND,h45]
   all_goals rfl
 .have e0:∀ k,thenT (j,e,t) k=(j,e,T0):=fun k=>if_neg he
  rw[e0]
  refine⟨z,fun h=>absurd h he,?_⟩
  refine Kl.fn' hn71 _ rfl ((e71 ..).trans ?_)
  refine(askK_of g _).trans ?_
  obtain⟨k,l,r,o,p,q,ks⟩:=z
  simp only[eTr,cuA,ND]
  refine(br_eqF (by omega)).trans ?_
  rfl
theorem rlloop_stepand(n:Nat)(ih:∀(j:LJ) (i d:Nat),i<=ts.length->d<=60->lneedJ ts j i<=n->okRL D ts y kn j i d (ljP ts y.vars kn y.ps n j i d))(x:Tr)(i d:Nat)(hi:i<=ts.length)(hd:d<=60)(hn:lneedJ ts (.andL x) i<=n+1):okRL D ts y kn (.andL x) i d (ljP ts y.vars kn y.ps (n+1) (.andL x) i d):=by
 have hl:=H.len
 unfold okRL ljP
 dsimp only
 obtain⟨k1,l1,r1,o1,p1,v1,ks1⟩:=x
 cases hT:isT ts i [38]with
 |false=>
  refine⟨_,fun _=>rfl,?_⟩
  refine Kl.lp' hn187 _ rfl (by kernel_rfl) ((e187_0 ..).trans ?_)
  refine(br_eqT rfl).trans ?_
  refine(askK_of (tis_ok K ts y.vars kn i (by omega) _) _).trans ?_
  simp only[ND,hT]
  all_goals rfl
 |true=>
  rw[if_pos rfl]
  have hlt:=H.isT hT
  have g:=ih .bin (i+1) d (by omega) hd (by simp only[lneedJ]at hn ⊢;omega)
  have f:Far ts (i+1) _ _:=ljP_far H y.vars kn y.ps n .bin (i+1) d (by omega)
  revert f g
  rcases ljP ts y.vars kn y.ps n .bin (i+1) d with⟨j,e,t⟩
  intro g f
  have hj:j<=ts.length:=f.le
  have hg:i+1<=j:=f.ge
  unfold thenT
  dsimp only
  unfold okRL at g
  obtain⟨z,hz,g⟩:=g
  dsimp only at g hz
  by_cases he:e=0
  .subst he
   rw[if_pos rfl]
   obtain rfl:=hz rfl
   obtain⟨w,hw,h4⟩:=ih (.andL (lmk 4 [.mk k1 l1 r1 o1 p1 v1 ks1,z])) j d hj hd (by simp only[lneedJ]at hn ⊢;omega)
   refine⟨w,hw,?_⟩
   refine Kl.lp' hn187 _ rfl (by kernel_rfl) ((e187_0 ..).trans ?_)
   refine(br_eqT rfl).trans ?_
   refine(askK_of (tis_ok K ts y.vars kn i (by omega) _) _).trans ?_
   simp only[ND,hT]
   refine(askK_of (on_ok K ts y.vars kn i (by omega)) _).trans ?_
   simp only[cuA,ND]
   refine(askK_of g _).trans ?_
   obtain⟨k,l,r,o,p,v,ks⟩:=z
   simp only[eTr,cuA,ND]
   refine(askK_of (two_ok Kl 4 (.mk k1 l1 r1 o1 p1 v1 ks1) (.mk k l r o p v ks)) _).trans ?_
   simp only[lmk,eTr,ND]
   refine(askK_of h4 _).trans ?_
   obtain⟨k,l,r,o,p,v,ks⟩:=w
   rfl
  .rw[if_neg he]
   refine⟨lmk 4 [.mk k1 l1 r1 o1 p1 v1 ks1,z],fun h=>absurd h he,?_⟩
   refine Kl.lp' hn187 _ rfl (by kernel_rfl) ((e187_0 ..).trans ?_)
   refine(br_eqT rfl).trans ?_
   refine(askK_of (tis_ok K ts y.vars kn i (by omega) _) _).trans ?_
   simp only[ND,hT]
   refine(askK_of (on_ok K ts y.vars kn i (by omega)) _).trans ?_
   simp only[cuA,ND]
   refine(askK_of g _).trans ?_
   obtain⟨k,l,r,o,p,v,ks⟩:=z
   simp only[eTr,cuA,ND]
   refine(askK_of (two_ok Kl 4 (.mk k1 l1 r1 o1 p1 v1 ks1) (.mk k l r o p v ks)) _).trans ?_
   simp only[lmk,eTr,ND]
   refine(askK_of (rlrow_errand Kl ts y kn j d e (lmk 4 [.mk k1 l1 r1 o1 p1 v1 ks1,.mk k l r o p v ks]) he) _).trans ?_
   rfl
theorem rlall_stepand(n:Nat)(ih:∀(j:LJ) (i d:Nat),i<=ts.length->d<=60->lneedJ ts j i<=n->okRL D ts y kn j i d (ljP ts y.vars kn y.ps n j i d))(i d:Nat)(hi:i<=ts.length)(hd:d<=60)(hn:lneedJ ts .and i<=n+1):okRL D ts y kn .and i d (ljP ts y.vars kn y.ps (n+1) .and i d):=by
 have g:=ih .bin i d hi hd (by simp only[lneedJ]at hn ⊢;omega)
 have f:Far ts i _ _:=ljP_far H y.vars kn y.ps n .bin i d hi
 have hr:ljP ts y.vars kn y.ps (n+1) .and i d=thenT (ljP ts y.vars kn y.ps n .bin i d) fun j x=>ljP ts y.vars kn y.ps n (.andL x) j d:=rfl
 rw[hr]
 revert f g
 rcases ljP ts y.vars kn y.ps n .bin i d with⟨j,e,t⟩
 intro g f
 have hj:j<=ts.length:=f.le
 unfold okRL at g
 obtain⟨z,hz,g⟩:=g
 unfold okRL thenT
 dsimp only at g hz f ⊢
 by_cases he:e=0
 .subst he
  have hg:=f.gt rfl
  obtain rfl:=hz rfl
  rw[if_pos rfl]
  obtain⟨w,hw,h4⟩:=ih (.andL z) j d hj hd (by simp only[lneedJ]at hn ⊢;omega)
  refine⟨w,hw,?_⟩
  refine Kl.fn' hn187 _ rfl ((e187 ..).trans ?_)
  refine(askK_of g _).trans ?_
  obtain⟨k,l,r,o,p,v,ks⟩:=z
  simp only[eTr,cuA,ND]
  refine(askK_of h4 _).trans ?_
  rcases ljP ts y.vars kn y.ps n (.andL (.mk k l r o p v ks)) j d with⟨j2,e2,_⟩
  obtain⟨k,l,r,o,p,v,ks⟩:=w
  rfl
 .rw[if_neg he]
  refine⟨z,fun h=>absurd h he,?_⟩
  refine Kl.fn' hn187 _ rfl ((e187 ..).trans ?_)
  refine(askK_of g _).trans ?_
  obtain⟨k,l,r,o,p,v,ks⟩:=z
  simp only[eTr,cuA,ND]
  refine(askK_of (rlrow_errand Kl ts y kn j d e (.mk k l r o p v ks) he) _).trans ?_
  rfl
theorem rlloop_stepor(n:Nat)(ih:∀(j:LJ) (i d:Nat),i<=ts.length->d<=60->lneedJ ts j i<=n->okRL D ts y kn j i d (ljP ts y.vars kn y.ps n j i d))(x:Tr)(i d:Nat)(hi:i<=ts.length)(hd:d<=60)(hn:lneedJ ts (.orL x) i<=n+1):okRL D ts y kn (.orL x) i d (ljP ts y.vars kn y.ps (n+1) (.orL x) i d):=by
 have hl:=H.len
 unfold okRL ljP
 dsimp only
 obtain⟨k1,l1,r1,o1,p1,v1,ks1⟩:=x
 cases hT:isT ts i [124]with
 |false=>
  refine⟨_,fun _=>rfl,?_⟩
  refine Kl.lp' hn127 _ rfl (by kernel_rfl) ((e127_0 ..).trans ?_)
  refine(br_eqT rfl).trans ?_
  refine(askK_of (tis_ok K ts y.vars kn i (by omega) _) _).trans ?_
  simp only[ND,hT]
  all_goals rfl
 |true=>
  rw[if_pos rfl]
  have hlt:=H.isT hT
  have g:=ih .and (i+1) d (by omega) hd (by simp only[lneedJ]at hn ⊢;omega)
  have f:Far ts (i+1) _ _:=ljP_far H y.vars kn y.ps n .and (i+1) d (by omega)
  revert f g
  rcases ljP ts y.vars kn y.ps n .and (i+1) d with⟨j,e,t⟩
  intro g f
  have hj:j<=ts.length:=f.le
  have hg:i+1<=j:=f.ge
  unfold thenT
  dsimp only
  unfold okRL at g
  obtain⟨z,hz,g⟩:=g
  dsimp only at g hz
  by_cases he:e=0
  .subst he
   rw[if_pos rfl]
   obtain rfl:=hz rfl
   obtain⟨w,hw,h4⟩:=ih (.orL (lmk 5 [.mk k1 l1 r1 o1 p1 v1 ks1,z])) j d hj hd (by simp only[lneedJ]at hn ⊢;omega)
   refine⟨w,hw,?_⟩
   refine Kl.lp' hn127 _ rfl (by kernel_rfl) ((e127_0 ..).trans ?_)
   refine(br_eqT rfl).trans ?_
   refine(askK_of (tis_ok K ts y.vars kn i (by omega) _) _).trans ?_
   simp only[ND,hT]
   refine(askK_of (on_ok K ts y.vars kn i (by omega)) _).trans ?_
   simp only[cuA,ND]
   refine(askK_of g _).trans ?_
   obtain⟨k,l,r,o,p,v,ks⟩:=z
   simp only[eTr,cuA,ND]
   refine(askK_of (two_ok Kl 5 (.mk k1 l1 r1 o1 p1 v1 ks1) (.mk k l r o p v ks)) _).trans ?_
   simp only[lmk,eTr,ND]
   refine(askK_of h4 _).trans ?_
   obtain⟨k,l,r,o,p,v,ks⟩:=w
   rfl
  .rw[if_neg he]
   refine⟨lmk 5 [.mk k1 l1 r1 o1 p1 v1 ks1,z],fun h=>absurd h he,?_⟩
   refine Kl.lp' hn127 _ rfl (by kernel_rfl) ((e127_0 ..).trans ?_)
   refine(br_eqT rfl).trans ?_
   refine(askK_of (tis_ok K ts y.vars kn i (by omega) _) _).trans ?_
   simp only[ND,hT]
   refine(askK_of (on_ok K ts y.vars kn i (by omega)) _).trans ?_
   simp only[cuA,ND]
   refine(askK_of g _).trans ?_
   obtain⟨k,l,r,o,p,v,ks⟩:=z
   simp only[eTr,cuA,ND]
   refine(askK_of (two_ok Kl 5 (.mk k1 l1 r1 o1 p1 v1 ks1) (.mk k l r o p v ks)) _).trans ?_
   simp only[lmk,eTr,ND]
   refine(askK_of (rlrow_error Kl ts y kn j d e (lmk 5 [.mk k1 l1 r1 o1 p1 v1 ks1,.mk k l r o p v ks]) he) _).trans ?_
   rfl
theorem rlall_stepor(n:Nat)(ih:∀(j:LJ) (i d:Nat),i<=ts.length->d<=60->lneedJ ts j i<=n->okRL D ts y kn j i d (ljP ts y.vars kn y.ps n j i d))(i d:Nat)(hi:i<=ts.length)(hd:d<=60)(hn:lneedJ ts .or i<=n+1):okRL D ts y kn .or i d (ljP ts y.vars kn y.ps (n+1) .or i d):=by
 have g:=ih .and i d hi hd (by simp only[lneedJ]at hn ⊢;omega)
 have f:Far ts i _ _:=ljP_far H y.vars kn y.ps n .and i d hi
 have hr:ljP ts y.vars kn y.ps (n+1) .or i d=thenT (ljP ts y.vars kn y.ps n .and i d) fun j x=>ljP ts y.vars kn y.ps n (.orL x) j d:=rfl
 rw[hr]
 revert f g
 rcases ljP ts y.vars kn y.ps n .and i d with⟨j,e,t⟩
 intro g f
 have hj:j<=ts.length:=f.le
 unfold okRL at g
 obtain⟨z,hz,g⟩:=g
 unfold okRL thenT
 dsimp only at g hz f ⊢
 by_cases he:e=0
 .subst he
  have hg:=f.gt rfl
  obtain rfl:=hz rfl
  rw[if_pos rfl]
  obtain⟨w,hw,h4⟩:=ih (.orL z) j d hj hd (by simp only[lneedJ]at hn ⊢;omega)
  refine⟨w,hw,?_⟩
  refine Kl.fn' hn127 _ rfl ((e127 ..).trans ?_)
  refine(askK_of g _).trans ?_
  obtain⟨k,l,r,o,p,v,ks⟩:=z
  simp only[eTr,cuA,ND]
  refine(askK_of h4 _).trans ?_
  rcases ljP ts y.vars kn y.ps n (.orL (.mk k l r o p v ks)) j d with⟨j2,e2,_⟩
  obtain⟨k,l,r,o,p,v,ks⟩:=w
  rfl
 .rw[if_neg he]
  refine⟨z,fun h=>absurd h he,?_⟩
  refine Kl.fn' hn127 _ rfl ((e127 ..).trans ?_)
  refine(askK_of g _).trans ?_
  obtain⟨k,l,r,o,p,v,ks⟩:=z
  simp only[eTr,cuA,ND]
  refine(askK_of (rlrow_error Kl ts y kn j d e (.mk k l r o p v ks) he) _).trans ?_
  rfl
theorem rlj_ok:∀(n:Nat) (j:LJ) (i d:Nat),i<=ts.length->d<=60->lneedJ ts j i<=n->okRL D ts y kn j i d (ljP ts y.vars kn y.ps n j i d):=by
 intro n
 induction n with
 |zero=>intro j i d _ _ hn;cases j<;>simp[lneedJ]at hn
 |succ n ih=>
  intro j i d hi hd hn
  cases j with
  |un=>exact rlun_step K Kl L H y kn hv hp hq hnum n ih i d hi hd hn
  |bin=>exact rlbin_step K Kl L H y kn hv hp hq hnum n ih i d hi hd hn
  |and=>exact rlall_stepand K Kl L H y kn hv hp hq hnum n ih i d hi hd hn
  |or=>exact rlall_stepor K Kl L H y kn hv hp hq hnum n ih i d hi hd hn
  |prop=>exact rlprop_step K Kl L H y kn hv hp hq hnum n ih i d hi hd hn
  |andL x=>exact rlloop_stepand K Kl L H y kn hv hp hq hnum n ih x i d hi hd hn
  |orL x=>exact rlloop_stepor K Kl L H y kn hv hp hq hnum n ih x i d hi hd hn
end
end Go.Proofs.YtlmhajfbpplpoaaGreat
namespace Go.Proofs.YtlmhajfbpplpoaaGreat
open Go.RowKit

def endP(ts:List Tk)(i e:Nat):Nat × Nat × Nat:=if e=0 then(if(nx ts i).kind=5 then(0,0,0) else((nx ts i).ln,(nx ts i).co,101)) else((nx ts i).ln,(nx ts i).co,e)
def ifOk(e:Nat)(x:Tr):Tr:=if e=0 then x else T0
def wholeA(x:Tr)(q:Nat × Nat × Nat):AV:=.tup [.agg (eTr (ifOk q.2.2 x)),.agg [iv (q.1:Int),iv (q.2.1:Int)],iv (q.2.2:Int)]
section
variable {D:Orc}
theorem end_ok(K:Knows ownC tabRa D)(ts:List Tk)(vars:List ByteArray)(kn:Bool)(i e:Nat)(hts:ts.length<4611686018427387904):D.ask (.fn 52) [cuA ts vars kn i,iv (e:Int)] []=some (.tup [.agg [iv ((endP ts i e).1:Int),iv ((endP ts i e).2.1:Int)],iv ((endP ts i e).2.2:Int)],[]):=by
 refine K.fn' hn52 _ rfl ((e52 ..).trans ?_)
 unfold endP
 by_cases h0:e=0
 .refine(br_eqT (by omega)).trans ?_
  refine(askK_of (next_ok K ts vars kn i hts) _).trans ?_
  rw[if_pos h0]
  simp only[eTk,ND]
  by_cases h5:(nx ts i).kind=5
  .refine(br_eqT (by omega)).trans ?_
   refine(br_eqT (by omega)).trans ?_
   rw[if_pos h5]
   rfl
  .refine(br_eqF (by omega)).trans ?_
   refine(br_eqF (by omega)).trans ?_
   refine(askK_of (next_ok K ts vars kn i hts) _).trans ?_
   rw[if_neg h5]
   simp only[eTk,ND]
   rfl
 .refine(br_eqF (by omega)).trans ?_
  refine(br_eqF (by omega)).trans ?_
  refine(askK_of (next_ok K ts vars kn i hts) _).trans ?_
  rw[if_neg h0]
  simp only[eTk,ND]
end
structure AllF (D:Orc) (s:ByteArray) (ts:List Tk) (ln co e:Nat):Prop where
 all:D.ask (.fn 91) [sv s] []=some (.tup [.ls (ts.map eTk),.agg [iv (ln:Int),iv (co:Int)],iv (e:Int)],[])
 rall:D.ask (.fn 50) [sv s] []=some (.tup [.ls (ts.map eTk),.agg [iv (ln:Int),iv (co:Int)],iv (e:Int)],[])
 zero:e=0->ln=0/\co=0
theorem not_same(a b:Int):realA.not (realA.band (realA.eq a a) (realA.band (realA.eq b b) true))=false:=by
 rw[r_eq,r_eq,decide_eq_true rfl,decide_eq_true rfl]
 rfl
end Go.Proofs.YtlmhajfbpplpoaaGreat
namespace Go.Proofs.YtlmhajfbpplpoaaGreat
open Go.RowKit
def hs48:Hints:=[]
noncomputable def mf48:MFn:=mfD Tryz.prog entsC hs48 false false 48
def hs15:Hints:=[]
noncomputable def mf15:MFn:=mfD Tryz.prog entsC hs15 false false 15
def hs17:Hints:=[]
noncomputable def mf17:MFn:=mfD Tryz.prog entsC hs17 false false 17
noncomputable def tabWb:List (Nat × MFn):=[(48,mf48),(15,mf15),(17,mf17)]
end Go.Proofs.YtlmhajfbpplpoaaGreat
namespace Go.Proofs.YtlmhajfbpplpoaaGreat
open Go.RowKit
def hs16:Hints:=[]
noncomputable def mf16:MFn:=mfD Tryz.prog entsC hs16 false false 16
def hs18:Hints:=[]
noncomputable def mf18:MFn:=mfD Tryz.prog entsC hs18 false false 18
noncomputable def tabRb:List (Nat × MFn):=[(16,mf16),(18,mf18)]
end Go.Proofs.YtlmhajfbpplpoaaGreat
