/-
  Whole texts as sums and as conditions: the program's and the reference's ParseSum and ParseCond.
  Whole texts as properties: the program's and the reference's Parse.
  Which properties are right. No program in sight.
  What ltl's tests of trees come to.
-/
import Derived.Test.YtlmhajfbpplpoaaGreatUBE
import Derived.Test.YtlmhajfbpplpoaaGreatUBF
import Derived.Test.YtlmhajfbpplpoaaGreatUBB
set_option linter.unusedSectionVars false
set_option linter.unusedSimpArgs false
set_option linter.unusedVariables false
namespace Go.Proofs.YtlmhajfbpplpoaaGreat
open Go.RowKit

theorem lexAll_len{l:List UInt8}{ts:List Tk}(h:lexAll l=.ok ts):l.length<=16384:=by
 unfold lexAll at h
 split at h
 .cases h
 .omega
section
variable {D:Orc}
structure LexF (D:Orc):Prop where
 ok:∀(s:ByteArray) (ts:List Tk),s.size<=9223372036854775807->lexAll s.data.toList=.ok ts->AllF D s ts 0 0 0
 err:∀(s:ByteArray) (c ln co:Nat),s.size<=9223372036854775807->lexAll s.data.toList=.err c ln co->AllF D s [] ln co c
structure LexA (D:Orc):Prop where
 ok:∀(s:ByteArray) (ts:List Tk),s.size<=9223372036854775807->lexAll s.data.toList=.ok ts->D.ask (.fn 91) [sv s] []=some (.tup [.ls (ts.map eTk),.agg [iv 0,iv 0],iv 0],[])
 err:∀(s:ByteArray) (c ln co:Nat),s.size<=9223372036854775807->lexAll s.data.toList=.err c ln co->D.ask (.fn 91) [sv s] []=some (.tup [.ls [],.agg [iv (ln:Int),iv (co:Int)],iv (c:Int)],[])
theorem LexF.toA(A:LexF D):LexA D:=⟨fun s ts h1 h2=>(A.ok s ts h1 h2).all,fun s c ln co h1 h2=>(A.err s c ln co h1 h2).all⟩
set_option linter.unusedSectionVars false
variable (K:Knows ownC tabEa D) (Kb:Knows ownC tabEb D) (L:NameF D) (Kw:Knows ownC tabWa D) (Kx:Knows ownC tabWb D)
section
variable (A:LexA D)
include K Kb L Kw Kx A
end
variable (Kr:Knows ownC tabRa D) (R:RNameF D) (Ky:Knows ownC tabRb D) (A:LexF D)
include Kr R Ky A
end
end Go.Proofs.YtlmhajfbpplpoaaGreat
namespace Go.Proofs.YtlmhajfbpplpoaaGreat
open Go.RowKit

def kindC(c:UInt8):Nat:=if lowB c then 1 else if digB c then 3 else if bigB c then 4 else 2
theorem tok1_kd{c:UInt8}{l:List UInt8}{k n:Nat}(h:tok1 (c::l)=.tok k n):k=kindC c:=by
 rw[tok1_cons]at h
 unfold kindC
 by_cases h1:lowB c=true
 .rw[if_pos h1]at h ⊢
  split at h
  .cases h
  .injection h with h1 h2;exact h1.symm
 rw[if_neg h1]at h ⊢
 by_cases h2:digB c=true
 .rw[if_pos h2]at h ⊢
  split at h
  .cases h
  .split at h
   .cases h
   .injection h with h1 h2;exact h1.symm
 rw[if_neg h2]at h ⊢
 by_cases h3:bigB c=true
 .rw[if_pos h3]at h ⊢
  injection h with h1 h2;exact h1.symm
 rw[if_neg h3]at h ⊢
 split at h
 .cases h
 .injection h with h1 h2;exact h1.symm
def KdF(t:Tk):Prop:=(t.kind=5/\t.text=[])\/∃ c r,t.text=c::r/\t.kind=kindC c
theorem lexL_kinds:∀(n:Nat) (l:List UInt8) (p:Nat × Nat),l.length<=n->∀ ts,lexL l p=.ok ts->∀ t∈ts,KdF t:=by
 intro n
 induction n with
 |zero=>
  intro l p hl ts h t ht
  obtain rfl:l=[]:=List.length_eq_zero_iff.1 (by omega)
  rw[lexL_eq]at h
  have h:LexR.ok [⟨5,[],(adv p []).1,(adv p []).2⟩]=.ok ts:=h
  injection h with h
  subst h
  obtain rfl:=List.mem_singleton.1 ht
  exact .inl ⟨rfl,rfl⟩
 |succ n ih=>
  intro l p hl ts h t ht
  rw[lexL_eq]at h
  cases hk:tok1 (l.drop (gap false l)) with
  |fin=>
   rw[hk]at h
   injection h with h
   subst h
   obtain rfl:=List.mem_singleton.1 ht
   exact .inl ⟨rfl,rfl⟩
  |err e=>rw[hk]at h;cases h
  |tok k m=>
   rw[hk]at h
   have hm:=tok1_len hk
   rw[List.length_drop]at hm
   obtain⟨us,hu,rfl⟩:=more_ok h
   rcases List.mem_cons.1 ht with rfl|ht
   .right
    cases e:l.drop (gap false l) with
    |nil=>
     have:=congrArg List.length e
     rw[List.length_drop]at this
     simp at this
     omega
    |cons c r=>
     rw[e]at hk
     obtain⟨m,rfl⟩:∃ q,m=q+1:=⟨m-1,by omega⟩
     exact⟨c,r.take m,rfl,tok1_kd hk⟩
   .exact ih _ _ (by rw[List.length_drop];omega) us hu t ht
theorem lexAll_kinds{l:List UInt8}{ts:List Tk}(h:lexAll l=.ok ts):∀ t∈ts,KdF t:=by
 unfold lexAll at h
 split at h
 .cases h
 .exact lexL_kinds _ _ _ (Nat.le_refl _) ts h
theorem lexAll_pre{l:List UInt8}{ts:List Tk}(h:lexAll l=.ok ts):PreT ts:=by
 have hk:=lexAll_kinds h
 have hn:=((lexAll_facts l).1 ts h).ne
 have one:∀(i:Nat) (c:UInt8),(nx ts i).text=[c]->(nx ts i).kind=kindC c:=fun i c hc=>by
  rcases hk _ (nx_mem hn i) with⟨_,h2⟩|⟨d,r,h1,h2⟩
  .rw[hc]at h2;cases h2
  .rw[hc]at h1
   injection h1 with h1 _
   rw[h1]
   exact h2
 refine⟨fun i h=>?_,fun i h=>?_⟩
 .rcases h with h|h
  .rw[one i _ h];rfl
  .rw[one i _ h];rfl
 .rcases h with h|h|h
  .rw[one i _ h];rfl
  .rw[one i _ h];rfl
  .rw[one i _ h];rfl
def lparseP(s:List UInt8)(vars:List ByteArray)(ps:List Pr):Tr × (Nat × Nat × Nat):=match lexAll s with
 |.err c ln co=>(T0,(ln,co,c))
 |.ok ts=>((lpropP ts vars true ps).2.2,endP ts (lpropP ts vars true ps).1 (lpropP ts vars true ps).2.1)
theorem lpropP_le{ts:List Tk}(H:Toks ts)(vars:List ByteArray)(kn:Bool)(ps:List Pr):(lpropP ts vars kn ps).1<=ts.length:=by
 have f:Far ts 0 _ _:=ljP_far H vars kn ps (8*ts.length+5) .prop 0 0 (Nat.zero_le _)
 exact f.le
section
variable {D:Orc}
theorem lwhole_err(Kw:Knows ownC tabWa D)(s:ByteArray)(y:Sy)(x:List (List AV))(ln co e:Nat)(he:e≠0)(hall:D.ask (.fn 91) [sv s] []=some (.tup [.ls x,.agg [iv (ln:Int),iv (co:Int)],iv (e:Int)],[])):D.ask (.fn 53) [sv s,.ls (y.vars.map eS),bv true,.fn (.func 69) [] [.ptr 0 0]] [sysB y]=some (wholeA T0 (ln,co,e),[.keep]):=by
 refine Kw.fn' hn53 _ rfl ((e53l ..).trans ?_)
 refine(askK_of hall _).trans ?_
 simp only[ND]
 refine(br_eqF (by omega)).trans ?_
 unfold wholeA ifOk
 rw[if_neg he]
 rfl
set_option linter.unusedSectionVars false
variable (K:Knows ownC tabEa D) (Kb:Knows ownC tabEb D) (Kq:Knows ownC tabTq D) (Kr:Knows ownC tabTr D) (Kw:Knows ownC tabWa D) (L:NameF D) (y:Sy) (hv:y.vars.length<4611686018427387904) (hp:y.ps.length<=1000000) (hq:∀ p∈y.ps,p.locs.length<4611686018427387904)
include K Kb Kq Kr Kw L hv hp hq
theorem parse1_ok{ts:List Tk}(H:Toks ts)(P:PreT ts):∃ z,((lpropP ts y.vars true y.ps).2.1=0->z=(lpropP ts y.vars true y.ps).2.2)/\D.ask (.fn 69) [.ptr 0 0,.ptr 1 0] [cuB ts y.vars true 0,sysB y]
  = some (.tup [.agg (eTr z),iv ((lpropP ts y.vars true y.ps).2.1:Int)],[.set (cuB ts y.vars true (lpropP ts y.vars true y.ps).1),.keep]):=by
 obtain⟨z,hz,g⟩:=lj_ok K Kb Kq L H P y true hv hp hq (8*ts.length+5) .prop 0 0 (Nat.zero_le _) (by omega) (by simp only[lneedJ];omega)
 refine⟨z,hz,?_⟩
 refine Kr.fn' hn69 _ rfl ((e69 ..).trans ?_)
 refine(askK_of g _).trans ?_
 unfold lpropP
 rcases ljP ts y.vars true y.ps (8*ts.length+5) .prop 0 0 with⟨j,e,_⟩
 obtain⟨k,l,r,o,p,q,ks⟩:=z
 rfl
theorem lwhole_ok(s:ByteArray){ts:List Tk}(H:Toks ts)(P:PreT ts)(hall:D.ask (.fn 91) [sv s] []=some (.tup [.ls (ts.map eTk),.agg [iv 0,iv 0],iv 0],[])):D.ask (.fn 53) [sv s,.ls (y.vars.map eS),bv true,.fn (.func 69) [] [.ptr 0 0]] [sysB y]
  = some (wholeA (lpropP ts y.vars true y.ps).2.2 (endP ts (lpropP ts y.vars true y.ps).1 (lpropP ts y.vars true y.ps).2.1),[.keep]):=by
 have hl:=H.len
 have hf:=lpropP_le H y.vars true y.ps
 obtain⟨z,hz,g⟩:=parse1_ok K Kb Kq Kr Kw L y hv hp hq H P
 refine Kw.fn' hn53 _ rfl ((e53l ..).trans ?_)
 refine(askK_of hall _).trans ?_
 simp only[ND]
 refine(br_eqT rfl).trans ?_
 refine(askK_of g _).trans ?_
 revert hf hz
 rcases lpropP ts y.vars true y.ps with⟨j,e,t⟩
 intro hf hz
 have hj:j<=ts.length:=hf
 have ha:=at_ok K ts y.vars true j (by omega) (by omega)
 dsimp only at hz ⊢
 unfold wholeA endP ifOk
 by_cases h0:e=0
 .obtain rfl:=hz h0
  obtain⟨k,l,r,o,p,q,ks⟩:=z
  simp only[eTr,cuB,ND]
  refine(br_eqT (by omega)).trans ?_
  refine(askK_of ha _).trans ?_
  simp only[eTk,cuB,ND]
  by_cases h5:(nx ts j).kind=5
  .refine(br_eqT (by omega)).trans ?_
   refine(br_eqT (by omega)).trans ?_
   simp only[h0,h5,if_true]
   all_goals rfl
  .refine(br_eqF (by omega)).trans ?_
   refine(br_eqF (by omega)).trans ?_
   refine(askK_of ha _).trans ?_
   simp only[eTk,cuB,ND,h0,h5,if_true,if_false]
   all_goals rfl
 .obtain⟨k,l,r,o,p,q,ks⟩:=z
  simp only[eTr,cuB,ND]
  refine(br_eqF (by omega)).trans ?_
  first|refine(br_eqF (by omega)).trans ?_|skip
  refine(askK_of ha _).trans ?_
  simp only[eTk,cuB,ND,h0,if_false]
  all_goals rfl
theorem lparse_ok(A:LexA D)(s:ByteArray)(hs:s.size<=9223372036854775807):D.ask (.fn 32) [sv s,.agg (eSy y)] []=some (wholeA (lparseP s.data.toList y.vars y.ps).1 (lparseP s.data.toList y.vars y.ps).2,[]):=by
 refine Kr.fn' hn32 _ rfl ((e32 ..).trans ?_)
 unfold lparseP
 cases h:lexAll s.data.toList with
 |err c ln co=>
  have hc:=(lexAll_facts s.data.toList).2 c ln co h
  have g:=lwhole_err Kw s y _ ln co c hc (A.err s c ln co hs h)
  refine(askK_of g _).trans ?_
  unfold wholeA ifOk
  simp only[hc,if_false,T0,eTr,ND]
  all_goals rfl
 |ok ts=>
  have f:=(lexAll_facts s.data.toList).1 ts h
  have hn:=lexAll_len h
  have g:=lwhole_ok K Kb Kq Kr Kw L y hv hp hq s (f.toks (by omega)) (lexAll_pre h) (A.ok s ts hs h)
  refine(askK_of g _).trans ?_
  unfold wholeA
  simp only
  rcases ifOk (endP ts (lpropP ts y.vars true y.ps).1 (lpropP ts y.vars true y.ps).2.1).2.2 (lpropP ts y.vars true y.ps).2.2 with⟨k,l,r,o,p,q,ks⟩
  rfl
end
section
variable {D:Orc}
set_option linter.unusedSectionVars false
variable (K:Knows ownC tabRa D) (Kl:Knows ownC tabRl D) (R:RNameF D) (A:LexF D) (y:Sy) (hv:y.vars.length<4611686018427387904) (hp:y.ps.length<=1000000) (hq:∀ p∈y.ps,p.locs.length<4611686018427387904)
include K Kl R A hv hp hq
theorem rlparse_ok(s:ByteArray)(hs:s.size<=9223372036854775807):D.ask (.fn 33) [sv s,.agg (eSy y)] []=some (wholeA (lparseP s.data.toList y.vars y.ps).1 (lparseP s.data.toList y.vars y.ps).2,[]):=by
 refine Kl.fn' hn33 _ rfl ((e33 ..).trans ?_)
 unfold lparseP
 cases h:lexAll s.data.toList with
 |err c ln co=>
  have hc:=(lexAll_facts s.data.toList).2 c ln co h
  refine(askK_of (A.err s c ln co hs h).rall _).trans ?_
  simp only[ND]
  refine(br_eqF (by omega)).trans ?_
  unfold wholeA ifOk
  rw[if_neg hc]
  rfl
 |ok ts=>
  have f:=(lexAll_facts s.data.toList).1 ts h
  have hn:=lexAll_len h
  have T:=f.toks (by omega)
  have hl:=T.len
  refine(askK_of (A.ok s ts hs h).rall _).trans ?_
  simp only[ND]
  refine(br_eqT rfl).trans ?_
  obtain⟨z,hz,g⟩:=rlj_ok K Kl R T y true hv hp hq f.num (8*ts.length+5) .prop 0 0 (Nat.zero_le _) (by omega) (by simp only[lneedJ];omega)
  refine(askK_of g _).trans ?_
  unfold lpropP
  revert hz
  rcases ljP ts y.vars true y.ps (8*ts.length+5) .prop 0 0 with⟨j,e,t⟩
  intro hz
  dsimp only at hz ⊢
  obtain⟨k,l,r,o,p,q,ks⟩:=z
  simp only[eTr,cuA,ND]
  refine(askK_of (end_ok K ts y.vars true j e (by omega)) _).trans ?_
  simp only[ND]
  unfold wholeA ifOk
  by_cases h0:(endP ts j e).2.2=0
  .have he:e=0:=by
    by_cases he:e=0
    .exact he
    .unfold endP at h0
     rw[if_neg he]at h0
     exact absurd h0 he
   obtain rfl:=hz he
   refine(br_eqT (by omega)).trans ?_
   rw[if_pos h0,h0]
   rfl
  .refine(br_eqF (by omega)).trans ?_
   rw[if_neg h0]
   rfl
end
end Go.Proofs.YtlmhajfbpplpoaaGreat
namespace Go.Proofs.YtlmhajfbpplpoaaGreat
open Go.RowKit

def larI(k:Int):Int:=if k=0 then 0 else if k=1 then 0 else if k=2 then 0 else if k=6 then 0 else if k=3 then 1 else if k=8 then 1 else if k=9 then 1 else if k=10 then 1 else if k=4 then 2 else if k=5 then 2 else if k=7 then 2 else if k=11 then 2 else if k=12 then 2 else -1
def tgtI(k:Int):Int:=if k=7 then 1 else if k=5 then 2 else if k=4 then 3 else if k=11 then 4 else if k=12 then 4 else 5
def lbrk(p:Int)(i:Nat)(k:Int):Bool:=if larI p=1 then decide (tgtI k<5) else if tgtI p=tgtI k then((decide (tgtI p=1)||decide (tgtI p=4)) == decide (i=0)) else decide (tgtI k<tgtI p)
def leafB:Tr->Bool
 |.mk k l r op p q ks=>if k=2 then cmpB (.mk k l r op p q ks) else if k=6 then decide (l.length=0)&&decide (r.length=0)&&decide (op=0)&&nameB p.data.toList&&nameB q.data.toList else bareB (.mk k l r op p q ks)
mutual
def lrightB:Tr->Nat->Bool
 |.mk k l r op p q ks,d=>if(ks.length:Int)=larI k then(if larI k=0 then leafB (.mk k l r op p q ks) else decide (upD (decide (larI k=1)) d<=60)&&bareB (.mk k l r op p q ks)&&lkidsB k (upD (decide (larI k=1)) d) 0 ks) else false
def lkidsB(k:Int)(d:Nat):Nat->List Tr->Bool
 |_,[]=>true
 |i,x::r=>(decide (upD (lbrk k i x.kind) d<=60)&&lrightB x (upD (lbrk k i x.kind) d))&&lkidsB k d (i+1) r
end
inductive WzP:Tr->Prop where
 |mk {k:Int} {l r:List Mo} {op:Int} {p q:ByteArray} {ks:List Tr} (zp:p.size<=9223372036854775807) (zq:q.size<=9223372036854775807) (h:∀ x∈ks,WzP x):WzP (.mk k l r op p q ks)
end Go.Proofs.YtlmhajfbpplpoaaGreat
namespace Go.Proofs.YtlmhajfbpplpoaaGreat
open Go.RowKit

theorem ite_iv(c:Prop)[Decidable c](a b:Int):(if c then some (iv a,([]:List BO)) else some (iv b,[]))=some (iv (if c then a else b),[]):=by
 by_cases h:c
 .rw[if_pos h,if_pos h]
 .rw[if_neg h,if_neg h]
section
variable {D:Orc}
variable (K:Knows ownC tabTl D)
include K
theorem larity_ok(k:Int):D.ask (.fn 132) [iv k] []=some (iv (larI k),[]):=by
 refine K.fn' hn132 _ rfl ((e132 ..).trans ?_)
 unfold larI
 simp only[r_eq,br_if,decide_eq_true_eq,ite_iv]
theorem ltight_ok(k:Int):D.ask (.fn 194) [iv k] []=some (iv (tgtI k),[]):=by
 refine K.fn' hn194 _ rfl ((e194 ..).trans ?_)
 unfold tgtI
 simp only[r_eq,br_if,decide_eq_true_eq,ite_iv]
theorem lbracketed_ok(p:Int)(i:Nat)(t:Tr):D.ask (.fn 134) [iv p,iv (i:Int),.agg (eTr t)] []=some (bv (lbrk p i t.kind),[]):=by
 obtain⟨k,l,r,op,q,v,ks⟩:=t
 refine K.fn' hn134 _ rfl ((e134 ..).trans ?_)
 refine(askK_of (ltight_ok K p) _).trans ?_
 simp only[ND]
 refine(askK_of (ltight_ok K k) _).trans ?_
 simp only[ND]
 refine(askK_of (larity_ok K p) _).trans ?_
 simp only[ND]
 unfold lbrk Tr.kind
 have e1:realA.beq true true=true:=rfl
 have e2:realA.beq true false=false:=rfl
 have e3:realA.beq false true=false:=rfl
 have e4:realA.beq false false=true:=rfl
 simp only[r_eq,r_lt,br_if,decide_eq_true_eq,e1,e2,e3,e4,ci0]
 generalize tgtI p=a
 generalize tgtI k=b
 by_cases h1:larI p=1
 .by_cases h2:b<5<;>simp[h1,h2]
 .by_cases h2:a=b
  .by_cases h3:a=1
   .by_cases h5:i=0<;>simp_all
   .by_cases h4:a=4<;>by_cases h5:i=0<;>simp_all
  .by_cases h3:b<a<;>simp[h1,h2,h3]
theorem lright_lp(t:Tr)(d:Nat)(hd:d<=60)(ks:List Tr)(hk:ks.length<4611686018427387904)(g:∀ x∈ks,∀ d:Nat,d<=60->D.ask (.fn 74) [.agg (eTr x),iv (d:Int)] []=some (bv (lrightB x d),[])):∀(n i:Nat),ks.length-i=n->
  D.ask (.lp 74 0) [iv (d:Int),.ptr 0 0,.ls (ks.map eTr),iv (ks.length:Int),iv (i:Int)] [boxT t]=some (if lkidsB t.kind d i (ks.drop i) then .tup [iv 0] else .tup [bv true,bv false],[.del]):=by
 intro n
 obtain⟨k,l,r,op,p,q,kz⟩:=t
 induction n with
 |zero=>
  intro i hi
  refine K.lp' hn74 _ rfl (by kernel_rfl) ((e74_0 ..).trans ?_)
  rw[show ks.drop i=[] from List.drop_eq_nil_of_le (by omega)]
  refine(br_ltF (by omega)).trans ?_
  rfl
 |succ n ih=>
  intro i hi
  have hlt:i<ks.length:=by omega
  have ih:=ih (i+1) (by omega)
  rw[show ks.drop i=ks[i]::ks.drop (i+1) from List.drop_eq_getElem_cons hlt]
  have gx:=g ks[i] (List.getElem_mem hlt)
  have hb:=lbracketed_ok K k i ks[i]
  refine K.lp' hn74 _ rfl (by kernel_rfl) ((e74_0 ..).trans ?_)
  refine(br_ltT (by omega)).trans ?_
  rw[unI_n,nthK_some (List.getElem?_eq_getElem hlt)]
  revert gx hb
  generalize ks[i]=x
  obtain⟨xk,xl,xr,xo,xp,xq,xs⟩:=x
  intro gx hb
  unfold lkidsB Tr.kind
  unfold Tr.kind at hb ih
  simp only[eTr,ND]
  refine(askK_of hb _).trans ?_
  simp only[ND]
  have tl:∀(b:Bool),(if b=true then lkidsB k d (i+1) (ks.drop (i+1))=true else False)->True:=fun _ _=>trivial
  cases hbk:lbrk k i xk with
  |true=>
   refine(br_t _ _).trans ?_
   rw[add1 (by omega)]
   by_cases h60:d+1<=60
   .refine(br_ltF (by omega)).trans ?_
    refine(askK_of (gx (d+1) h60) _).trans ?_
    simp only[ND]
    rw[show upD true d=d+1 from rfl,decide_eq_true h60,Bool.true_and]
    cases lrightB (.mk xk xl xr xo xp xq xs) (d+1) with
    |false=>rfl
    |true=>
     refine(br_t _ _).trans ?_
     rw[add1 (by omega)]
     refine(askK_of ih _).trans ?_
     rw[Bool.true_and]
     cases lkidsB k d (i+1) (ks.drop (i+1))<;>rfl
   .refine(br_ltT (by omega)).trans ?_
    rw[show upD true d=d+1 from rfl,decide_eq_false h60,Bool.false_and,Bool.false_and]
    rfl
  |false=>
   refine(br_f _ _).trans ?_
   refine(br_ltF (by omega)).trans ?_
   refine(askK_of (gx d hd) _).trans ?_
   simp only[ND]
   rw[show upD false d=d from rfl,decide_eq_true hd,Bool.true_and]
   cases lrightB (.mk xk xl xr xo xp xq xs) d with
   |false=>rfl
   |true=>
    refine(br_t _ _).trans ?_
    rw[add1 (by omega)]
    refine(askK_of ih _).trans ?_
    rw[Bool.true_and]
    cases lkidsB k d (i+1) (ks.drop (i+1))<;>rfl
theorem lleaf_ok(Kt:Knows ownC tabTa D)(L:LexN D)(t:Tr)(hz:WzT t)(hp:WzP t):D.ask (.fn 133) [.agg (eTr t)] []=some (bv (leafB t),[]):=by
 have gb:=bare_ok Kt t
 have gc:=treecmp_ok Kt L t hz
 obtain⟨k,l,r,op,p,q,ks⟩:=t
 obtain⟨z1,z2,_⟩:=hp
 have gp:=L.name p z1
 have gq:=L.name q z2
 refine K.fn' hn133 _ rfl ((e133 ..).trans ?_)
 rw[leafB]
 rw[lenR_map,lenR_map]
 simp only[eTr]at gb gc
 by_cases h2:k=2
 .refine(br_eqT h2).trans ?_
  refine(askK_of gc _).trans ?_
  rw[if_pos h2]
  cases cmpB (.mk k l r op p q ks)<;>rfl
 .refine(br_eqF h2).trans ?_
  rw[if_neg h2]
  by_cases h6:k=6
  .refine(br_eqT h6).trans ?_
   rw[if_pos h6]
   by_cases h3:l.length=0
   .refine(br_eqT (by omega)).trans ?_
    by_cases h4:r.length=0
    .refine(br_eqT (by omega)).trans ?_
     by_cases h5:op=0
     .refine(br_eqT h5).trans ?_
      refine(askK_of gp _).trans ?_
      simp only[ND]
      rw[decide_eq_true h3,decide_eq_true h4,decide_eq_true h5]
      cases nameB p.data.toList with
      |false=>rfl
      |true=>
       refine(br_t _ _).trans ?_
       refine(askK_of gq _).trans ?_
       cases nameB q.data.toList<;>rfl
     .refine(br_eqF h5).trans ?_
      simp[h5]
    .refine(br_eqF (by omega)).trans ?_
     simp[h4]
   .refine(br_eqF (by omega)).trans ?_
    simp[h3]
  .refine(br_eqF h6).trans ?_
   rw[if_neg h6]
   refine(askK_of gb _).trans ?_
   cases bareB (.mk k l r op p q ks)<;>rfl
theorem lright_ok(Kt:Knows ownC tabTa D)(L:LexN D):∀(n:Nat) (t:Tr),SizeOf.sizeOf t<n->WzT t->WzP t->∀ d:Nat,d<=60->D.ask (.fn 74) [.agg (eTr t),iv (d:Int)] []=some (bv (lrightB t d),[]):=by
 intro n
 induction n with
 |zero=>intro t h;omega
 |succ n ih=>
  intro t ht hz hp d hd
  have gb:=bare_ok Kt t
  have gl:=lleaf_ok K Kt L t hz hp
  obtain⟨k,l,r,op,p,q,ks⟩:=t
  obtain⟨hl,hr,hk,zl,zr,hx⟩:=hz
  obtain⟨_,_,hy⟩:=hp
  have ga:=larity_ok K k
  have gk:∀ x∈ks,∀ d:Nat,d<=60->D.ask (.fn 74) [.agg (eTr x),iv (d:Int)] []=some (bv (lrightB x d),[]):=fun x hm d hd=>ih x (by
   have h1:=kids_mem hm
   simp only[Tr.mk.sizeOf_spec]at ht
   omega) (hx x hm) (hy x hm) d hd
  have glp:=fun(d:Nat) (hd:d<=60)=>lright_lp K (.mk k l r op p q ks) d hd ks hk gk _ 0 rfl
  simp only[List.drop_zero,Tr.kind,boxT,eTr]at glp
  refine K.fn' hn74 _ rfl ((e74 ..).trans ?_)
  rw[lrightB]
  rw[eTrs_map]at glp ⊢
  rw[lenR_map]
  simp only[eTr,eTrs_map]at gb gl
  refine(askK_of ga _).trans ?_
  simp only[ND]
  by_cases h4:(ks.length:Int)=larI k
  .refine(br_eqT h4).trans ?_
   rw[if_pos h4]
   by_cases h0:larI k=0
   .refine(br_eqT h0).trans ?_
    rw[if_pos h0]
    refine(askK_of gl _).trans ?_
    cases leafB (.mk k l r op p q ks)<;>rfl
   .refine(br_eqF h0).trans ?_
    rw[if_neg h0]
    by_cases h1:larI k=1
    .refine(br_eqT h1).trans ?_
     rw[decide_eq_true h1,add1 (by omega)]
     by_cases h60:d+1<=60
     .refine(br_ltF (by omega)).trans ?_
      rw[show upD true d=d+1 from rfl,decide_eq_true h60,Bool.true_and]
      refine(askK_of gb _).trans ?_
      simp only[ND]
      cases bareB (.mk k l r op p q ks) with
      |false=>rfl
      |true=>
       refine(br_t _ _).trans ?_
       refine(askK_of (glp (d+1) h60) _).trans ?_
       rw[Bool.true_and]
       cases lkidsB k (d+1) 0 ks<;>rfl
     .refine(br_ltT (by omega)).trans ?_
      rw[show upD true d=d+1 from rfl,decide_eq_false h60,Bool.false_and,Bool.false_and]
    .refine(br_eqF h1).trans ?_
     rw[decide_eq_false h1]
     refine(br_ltF (by omega)).trans ?_
     rw[show upD false d=d from rfl,decide_eq_true hd,Bool.true_and]
     refine(askK_of gb _).trans ?_
     simp only[ND]
     cases bareB (.mk k l r op p q ks) with
     |false=>rfl
     |true=>
      refine(br_t _ _).trans ?_
      refine(askK_of (glp d hd) _).trans ?_
      rw[Bool.true_and]
      cases lkidsB k d 0 ks<;>rfl
  .refine(br_eqF h4).trans ?_
   rw[if_neg h4]
theorem lRight_ok(Kt:Knows ownC tabTa D)(L:LexN D)(t:Tr)(hz:WzT t)(hp:WzP t):D.ask (.fn 36) [.agg (eTr t)] []=some (bv (lrightB t 0),[]):=by
 have g:=lright_ok K Kt L _ t (Nat.lt_succ_self _) hz hp 0 (by omega)
 obtain⟨k,l,r,op,p,q,ks⟩:=t
 refine K.fn' hn36 _ rfl ((e36 ..).trans ?_)
 refine(askK_of g _).trans ?_
 simp only[ND]
 cases lrightB (.mk k l r op p q ks) 0<;>rfl
end
end Go.Proofs.YtlmhajfbpplpoaaGreat
