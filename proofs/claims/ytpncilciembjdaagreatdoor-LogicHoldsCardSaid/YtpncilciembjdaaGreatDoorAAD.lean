/-
  The operations of a region, one behind the other, over the small heap. No program in sight.
  A region that draws its order, by a condition on which of its operations are done. No program in sight.
  A region that draws its order: whatever order is picked comes to what the written one comes to. No program in sight.
  A region that draws its order: whatever order is picked comes to what the written one comes to. No program in sight.
  A region that draws its order does what is computed in the written order. No program in sight.
  A region that draws its order does what is computed in the written order: joined. No program in sight.
-/
import Derived.Test.YtpncilciembjdaaGreatDoorAAC
import Derived.WalkKit
set_option linter.unusedSectionVars false
set_option linter.unusedSimpArgs false
set_option linter.unusedVariables false
namespace Go.Proofs.YtpncilciembjdaaGreatDoor
open Go.RowKit

def dstSet(T:List AV)(dst:Option Tmp)(v:AV):List AV:=match dst with
 |some d=>T.set d v
 |none=>T
def opdA(T:List AV):Operand->AV
 |.tmp t=>(T[t]?).getD AV.undef
 |.const x=>ofVal x
 |.global g=>.v (.pointer (some ⟨g,0,none⟩))
 |.func f=>.fn (.func f) [] []
def yieldsA(ops:Array Oper)(T:List AV)(j:Nat):Option (Option Bool):=match ((ops[j]?).bind (·.dst)).bind (T[·]?) with
 |some .any=>none
 |some (.v (.bool b))=>some (some b)
 |_=>some none
def wantedA(ops:Array Oper)(o:Oper)(T:List AV):Option Bool:=match o.guard with
 |none=>some true
 |some (j,want)=>match yieldsA ops T j with
  |some y=>some (y == some want)
  |none=>none
def coreA(P:Program)(Γ:FuncId->List AV->AM AV)(ops:Array Oper)(o:Oper)(T:List AV):AM AV:=match wantedA ops o T with
 |some true=>aop P Γ o (opdA T)
 |some false=>AM.ret AV.undef
 |none=>AM.fail
def stepA(P:Program)(Γ:FuncId->List AV->AM AV)(ops:Array Oper)(o:Oper)(T:List AV)(H:AH):Option (List AV × AH × Foot):=match coreA P Γ ops o T H with
 |some (v,H1,f)=>some (dstSet T o.dst v,H1,f)
 |none=>none
def runL(P:Program)(Γ:FuncId->List AV->AM AV)(ops:Array Oper):List Oper->List AV->AH->Option (List AV × AH × List Foot)
 |[],T,H=>some (T,H,[])
 |o::r,T,H=>match stepA P Γ ops o T H with
  |none=>none
  |some (T1,H1,f)=>match runL P Γ ops r T1 H1 with
   |none=>none
   |some (T2,H2,fs)=>some (T2,H2,f::fs)

def RT(μ:Mu)(F:Prot)(w:World)(T:List AV)(a:Act):Prop:=RepList μ F w T a.tmps.toList/\a.defers=[]
def PostT(μ:Mu)(F:Prot)(w:World)(H:AH)(T':List AV)(H':AH)(a':Act)(w':World):Prop:=
 ∃ μ' F',RT μ' F' w' T' a'/\HRep μ' F' w' H'.get/\Later μ μ' F F' w w'/\WStep F w w'/\∀ b,(b<H.next\/H'.next<=b)->μ' b=μ b
section
variable {P:Program} {Γ:FuncId->List AV->AM AV} {μ μ':Mu} {F F':Prot} {w w':World} {H:AH} {T:List AV} {a:Act}
theorem rep_opd(hT:RT μ F w T a)(x:Operand):Rep μ F w (opdA T x) (a.eval x):=by
 cases x with
 |tmp t=>
  simp only[opdA,Act.eval]
  cases e:T[t]? with
  |none=>
   have hl:=hT.1.length
   have h1:T.length<=t:=List.getElem?_eq_none_iff.1 e
   have:a.tmps.getD t Go.undef=Go.undef:=by
    rw[Array.getD_eq_getD_getElem?,Array.getElem?_eq_none (by rw[←Array.length_toList];omega)];rfl
   rw[this]
   exact rep_undef _ _ _
  |some x=>
   obtain⟨u,h1,h2⟩:=hT.1.get e
   rw[Array.getElem?_toList]at h1
   rw[Array.getD_eq_getD_getElem?,h1]
   exact h2
 |const v=>exact rep_ofVal _ _ _ _
 |global g=>simp only[opdA,Act.eval,Rep];exact⟨trivial,rfl⟩
 |func f=>simp only[opdA,Act.eval,Rep];exact⟨#[],#[],rfl,by simp only[RepList],by simp only[RepList]⟩
theorem rt_later(hT:RT μ F w T a)(hl:Later μ μ' F F' w w'):RT μ' F' w' T a:=⟨hT.1.later' hl,hT.2⟩
theorem rt_put(hT:RT μ F w T a){v:AV}{u:Value}(h:Rep μ F w v u)(dst:Option Tmp):RT μ F w (dstSet T dst v) (a.put dst u):=by
 cases dst with
 |none=>exact hT
 |some d=>
  refine⟨?_,hT.2⟩
  simp only[dstSet,Act.put,Array.toList_setIfInBounds]
  exact hT.1.set h d
theorem wanted_of{ops:Array Oper}{o:Oper}{b:Bool}(hT:RT μ F w T a)(h:wantedA ops o T=some b):Region.wanted o (yielded ops a.tmps)=b:=by
 unfold wantedA at h
 unfold Region.wanted
 cases hg:o.guard with
 |none=>rw[hg]at h;simp only[Option.some.injEq]at h;exact h
 |some jw=>
  obtain⟨j,want⟩:=jw
  rw[hg]at h
  simp only at h ⊢
  have key:∀ y,yieldsA ops T j=some y->yielded ops a.tmps j=y:=by
   intro y hy
   unfold yieldsA at hy
   unfold yielded
   cases hd:(ops[j]?).bind (·.dst) with
   |none=>rw[hd]at hy;simp only[Option.bind_none,Option.some.injEq]at hy ⊢;exact hy
   |some d=>
    rw[hd]at hy
    simp only[Option.bind_some]at hy ⊢
    cases e:T[d]? with
    |none=>
     rw[e]at hy
     have hl:=hT.1.length
     have h1:T.length<=d:=List.getElem?_eq_none_iff.1 e
     rw[Array.getElem?_eq_none (by rw[←Array.length_toList];omega)]
     simp only[Option.some.injEq]at hy
     exact hy
    |some x=>
     rw[e]at hy
     obtain⟨u,h1,h2⟩:=hT.1.get e
     rw[Array.getElem?_toList]at h1
     rw[h1]
     cases x with
     |any=>simp at hy
     |v z=>
      simp only[Rep]at h2
      rw[h2.1]
      cases z<;>simp only[Option.some.injEq]at hy<;>exact hy
     |ptr b' q=>simp only[Rep]at h2;obtain⟨p,_,rfl⟩:=h2;simp only[Option.some.injEq]at hy;exact hy
     |sl b' q n e'=>simp only[Rep]at h2;obtain⟨p,_,⟨_,rfl⟩|⟨q',c,rfl,_⟩⟩:=h2<;>(simp only[Option.some.injEq]at hy;exact hy)
     |ls xs=>simp only[Rep]at h2;obtain⟨_,A,c,rfl,_⟩:=h2;simp only[Option.some.injEq]at hy;exact hy
     |lp xs=>simp only[Rep]at h2;obtain⟨_,A,c,rfl,_⟩:=h2;simp only[Option.some.injEq]at hy;exact hy
     |agg xs=>simp only[Rep]at h2;obtain⟨A,rfl,_⟩:=h2;simp only[Option.some.injEq]at hy;exact hy
     |tup xs=>simp only[Rep]at h2;obtain⟨A,rfl,_⟩:=h2;simp only[Option.some.injEq]at hy;exact hy
     |fn f fa fc=>simp only[Rep]at h2;obtain⟨A,B,rfl,_⟩:=h2;simp only[Option.some.injEq]at hy;exact hy
  cases hy:yieldsA ops T j with
  |none=>rw[hy]at h;cases h
  |some y=>
   rw[hy]at h
   simp only[Option.some.injEq]at h
   rw[key y hy,←h]
theorem PostT.refl(hT:RT μ F w T a)(hH:HRep μ F w H.get):PostT μ F w H T H a w:=⟨μ,F,hT,hH,Later.refl _ _ _,WStep.refl _ _,fun _ _=>rfl⟩
theorem Post.toT{dst:Option Tmp}{v:AV}{u:Value}{H':AH}(hT:RT μ F w T a)(h:Post μ F w H v H' u w'):PostT μ F w H (dstSet T dst v) H' (a.put dst u) w':=by
 obtain⟨μ',F',h1,h2,h3,h4,h5⟩:=h
 exact⟨μ',F',rt_put (rt_later hT h3) h1 dst,h2,h3,h4,h5⟩
theorem PostT.trans{T1 T2:List AV}{H1 H2:AH}{a1 a2:Act}{w1 w2:World}(hn1:H.next<=H1.next)(hn2:H1.next<=H2.next)(h:PostT μ F w H T1 H1 a1 w1)(k:∀ μ' F',RT μ' F' w1 T1 a1->HRep μ' F' w1 H1.get->(∀ b,(b<H.next\/H1.next<=b)->μ' b=μ b)->PostT μ' F' w1 H1 T2 H2 a2 w2):PostT μ F w H T2 H2 a2 w2:=by
 obtain⟨μ1,F1,h1,h2,h3,h4,h5⟩:=h
 obtain⟨μ2,F2,k1,k2,k3,k4,k5⟩:=k μ1 F1 h1 h2 h5
 refine⟨μ2,F2,k1,k2,h3.trans k3,WStep.trans (fun g o hg=>(h3.prot g o hg).1) h4 k4,fun b hb=>?_⟩
 rw[k5 b (by omega),h5 b (by omega)]
theorem coreA_sound(hΓ:SoundG P Γ){ops:Array Oper}{o:Oper}(hT:RT μ F w T a)(hH:HRep μ F w H.get)(hw:H.wf)(hf:Fresh μ H){v:AV}{H':AH}{ft:Foot}(h:coreA P Γ ops o T H=some (v,H',ft))
  (K:Act->World->Prop) (Q:Exit->Act->World->Prop) (hk:∀ u w',Post μ F w H v H' u w'->K (a.put o.dst u) w') :
  if Region.wanted o (yielded ops a.tmps) then o.wp P a w K Q\/(o.asks P a w/\LetsOut Q) else K (a.put o.dst Go.undef) w:=by
 unfold coreA at h
 rcases hwt:wantedA ops o T with _|_|_<;>rw[hwt]at h
 .exact(fail_some h).elim
 .rw[wanted_of hT hwt]
  obtain⟨rfl,rfl⟩:=ret_some h
  simp only[Bool.false_eq_true,if_false]
  exact hk _ _ (post_same (rep_undef _ _ _) hH)
 .rw[wanted_of hT hwt]
  simp only[if_true]
  exact .inl (aop_sound hΓ o (opdA T) a (fun x _=>rep_opd hT x) hH hw hf v H' ft h K Q hk)
theorem Loc.coreA(hΓ:∀ f args,Loc (Γ f args))(ops:Array Oper)(o:Oper)(T:List AV):Loc (coreA P Γ ops o T):=by
 unfold Go.Proofs.YtpncilciembjdaaGreatDoor.coreA
 split
 .exact Loc.aop hΓ o _
 .exact Loc.ret _
 .exact Loc.fail
theorem stepA_some{ops:Array Oper}{o:Oper}{T':List AV}{H':AH}{ft:Foot}(h:stepA P Γ ops o T H=some (T',H',ft)):∃ v,coreA P Γ ops o T H=some (v,H',ft)/\T'=dstSet T o.dst v:=by
 unfold stepA at h
 rcases e:coreA P Γ ops o T H with _|⟨v,H1,f⟩<;>rw[e]at h
 .cases h
 .simp only[Option.some.injEq,Prod.mk.injEq]at h
  obtain⟨rfl,rfl,rfl⟩:=h
  exact⟨v,rfl,rfl⟩
theorem fresh_step{H':AH}(hf:Fresh μ H)(hn:H.next<=H'.next)(ht:H'.top=H.top)(hμ:∀ b,(b<H.next\/H'.next<=b)->μ' b=μ b):Fresh μ' H':=fun b h1 h2=>by
 rw[hμ b (.inr h1)]
 refine hf b (by omega) ?_
 unfold AH.below at h2 ⊢
 rwa [ht]at h2
end
theorem runL_next{P:Program}{Γ:FuncId->List AV->AM AV}(hL:∀ f args,Loc (Γ f args)){ops:Array Oper}:∀(l:List Oper) {H:AH} {T:List AV},H.wf->∀{T':List AV} {H':AH} {fs:List Foot},runL P Γ ops l T H=some (T',H',fs)->H.next<=H'.next/\H'.top=H.top/\H'.wf
 |[],H,T,hw,T',H',fs,h=>by
  simp only[runL,Option.some.injEq,Prod.mk.injEq]at h
  obtain⟨rfl,rfl,rfl⟩:=h
  exact⟨Nat.le_refl _,rfl,hw⟩
 |o::r,H,T,hw,T',H',fs,h=>by
  simp only[runL]at h
  rcases e1:stepA P Γ ops o T H with _|⟨T1,H1,f⟩<;>rw[e1]at h
  .cases h
  simp only at h
  rcases e2:runL P Γ ops r T1 H1 with _|⟨T2,H2,fs'⟩<;>rw[e2]at h
  .cases h
  simp only[Option.some.injEq,Prod.mk.injEq]at h
  obtain⟨rfl,rfl,rfl⟩:=h
  obtain⟨v,e3,e4⟩:=stepA_some e1
  have L1:=Loc.coreA hL ops o T H v H1 f hw e3
  obtain⟨a,b,c⟩:=runL_next hL r L1.wf e2
  exact⟨Nat.le_trans L1.next a,b.trans L1.top,c⟩
theorem runL_sound{P:Program}{Γ:FuncId->List AV->AM AV}(hΓ:SoundG P Γ)(hL:∀ f args,Loc (Γ f args)){ops:Array Oper}{Q:Exit->Act->World->Prop}:∀(l:List Oper) {μ:Mu} {F:Prot} {w:World} {H:AH} {T:List AV} {a:Act},RT μ F w T a->HRep μ F w H.get->H.wf->Fresh μ H->
  ∀{T':List AV} {H':AH} {fs:List Foot},runL P Γ ops l T H=some (T',H',fs)->(∀ a' w',PostT μ F w H T' H' a' w'->Q .normal a' w')->wpList P ops Q l a w
 |[],μ,F,w,H,T,a,hT,hH,hw,hf,T',H',fs,h,hq=>by
  simp only[runL,Option.some.injEq,Prod.mk.injEq]at h
  obtain⟨rfl,rfl,rfl⟩:=h
  exact hq a w (PostT.refl hT hH)
 |o::r,μ,F,w,H,T,a,hT,hH,hw,hf,T',H',fs,h,hq=>by
  simp only[runL]at h
  rcases e1:stepA P Γ ops o T H with _|⟨T1,H1,f⟩<;>rw[e1]at h
  .cases h
  simp only at h
  rcases e2:runL P Γ ops r T1 H1 with _|⟨T2,H2,fs'⟩<;>rw[e2]at h
  .cases h
  simp only[Option.some.injEq,Prod.mk.injEq]at h
  obtain⟨rfl,rfl,rfl⟩:=h
  obtain⟨v,e3,e4⟩:=stepA_some e1
  have L1:=Loc.coreA hL ops o T H v H1 f hw e3
  obtain⟨n2,_,_⟩:=runL_next hL r L1.wf e2
  have:=coreA_sound hΓ hT hH hw hf e3 (wpList P ops Q r) Q fun u w' hp=>by
   obtain⟨μ',F',k1,k2,k3,k4,k5⟩:=Post.toT (dst:=o.dst) hT hp
   rw[←e4]at k1
   exact runL_sound hΓ hL r k1 k2 L1.wf (fresh_step hf L1.next L1.top k5) e2 fun a2 w2 hp2=>hq a2 w2 (by
    obtain⟨μ2,F2,j1,j2,j3,j4,j5⟩:=hp2
    exact⟨μ2,F2,j1,j2,k3.trans j3,WStep.trans (fun g o hg=>(k3.prot g o hg).1) k4 j4,fun b hb=>by
     have:=L1.next
     rw[j5 b (by omega),k5 b (by omega)]⟩)
  exact this
end Go.Proofs.YtpncilciembjdaaGreatDoor
namespace Go.Proofs.YtpncilciembjdaaGreatDoor

theorem nodup_le:∀(n:Nat) (s:List Nat),s.Nodup->(∀ i∈s,i<n)->s.length<=n
 |0,s,_,h=>by
  cases s with
  |nil=>simp
  |cons x r=>exact absurd (h x (by simp)) (by omega)
 |n+1,s,hn,h=>by
  have h1:=nodup_le n (s.erase n) (hn.erase n) fun i hi=>by
   have:=h i (List.mem_of_mem_erase hi)
   have hne:i≠n:=((List.Nodup.mem_erase_iff hn).1 hi).1
   omega
  have h2:=List.length_erase (l:=s) (a:=n)
  split at h2<;>omega

section
variable {P:Program} {ops:Array Oper} {Q:Exit->Act->World->Prop}

theorem wpOp_of_one{i:Nat}{o:Oper}(ho:ops[i]? = some o){K:Act->World->Prop}{a:Act}{w:World}(h:wpList P ops (Exit.then K Q) [o] a w):wpOp P ops Q i K a w:=by
 unfold wpOp
 simp only[ho]
 unfold wpList at h
 have hlet:LetsOut (Exit.then K Q)->LetsOut Q:=fun ⟨a,w,h⟩=>⟨a,w,h⟩
 split
 .rename_i hw
  rw[if_pos hw]at h
  rcases h with h|⟨h1,h2⟩
  .left
   unfold Oper.wp at h ⊢
   generalize (execOp a.eval o).run P w=r at h ⊢
   cases r with
   |ok n w'=>
    cases n<;>simp only[Oper.upon]at h ⊢ <;>
     first
      |exact h
      |(exact Calls.mono h (fun e w'' he=>by cases e<;>first|exact he|exact hlet he))
      |(exact Rows.mono h (fun _ _ he=>he))
   |halt x w'=>cases x<;>simp only[Oper.upon]at h ⊢<;>exact h
  .exact .inr ⟨h1,hlet h2⟩
 .rename_i hw
  rw[if_neg hw]at h
  exact h

end
end Go.Proofs.YtpncilciembjdaaGreatDoor
namespace Go.Proofs.YtpncilciembjdaaGreatDoor
open Go.RowKit

theorem aop_congr{P:Program}{Γ:FuncId->List AV->AM AV}{o:Oper}{ρ ρ':Operand->AV}(h:∀ x∈o.op.operands,ρ x=ρ' x):aop P Γ o ρ=aop P Γ o ρ':=by
 have hg:genA P o ρ=genA P o ρ':=by
  unfold genA
  have e1:(o.op.operands.toList.all fun x=>(ρ x).toVal.isSome)=(o.op.operands.toList.all fun x=>(ρ' x).toVal.isSome):=by
   rw[Bool.eq_iff_iff,List.all_eq_true,List.all_eq_true]
   exact⟨fun hx x hm=>by rw[←h x (Array.mem_toList_iff.1 hm)];exact hx x hm,fun hx x hm=>by rw[h x (Array.mem_toList_iff.1 hm)];exact hx x hm⟩
  rw[e1]
  cases hn:notSelect o.op with
  |false=>simp
  |true=>
   have e2:execOp (valOf ρ) o=execOp (valOf ρ') o:=execOp_congr o (fun cs b e=>by rw[e]at hn;simp[notSelect]at hn) fun x hx=>by unfold valOf;rw[h x hx]
   rw[e2]
 obtain⟨dst,op,ty,pos,after,guard⟩:=o
 cases op<;>simp only[Op.operands]at h<;>simp only[aop,hg]
 case build t ps=>
  have:(ps.toList.map fun p=>(p.1,ρ p.2))=(ps.toList.map fun p=>(p.1,ρ' p.2)):=List.map_congr_left fun p hp=>by rw[h p.2 (by simp;exact⟨p.1,by simpa using hp⟩)]
  rw[this]
 case buildSlice t n ps=>
  have:(ps.toList.map fun p=>(p.1,ρ p.2))=(ps.toList.map fun p=>(p.1,ρ' p.2)):=List.map_congr_left fun p hp=>by rw[h p.2 (by simp;exact⟨p.1,by simpa using hp⟩)]
  rw[this]
 case makeFunc fn fi ca=>
  rw[List.map_congr_left (l:=fi.toList) fun x hx=>h x (by simp[Array.mem_toList_iff.1 hx]),List.map_congr_left (l:=ca.toList) fun x hx=>h x (by simp[Array.mem_toList_iff.1 hx])]
 case slice t x lo hi mx=>
  rw[h x (by simp)]
  have e1:lo.map ρ=lo.map ρ':=by cases lo with|none=>rfl|some y=>simp only[Option.map_some];rw[h y (by simp)]
  have e2:hi.map ρ=hi.map ρ':=by cases hi with|none=>rfl|some y=>simp only[Option.map_some];rw[h y (by simp)]
  rw[e1,e2]
 case call c=>
  obtain⟨callee,args,argTypes⟩:=c
  have ha:∀ x∈args,ρ x=ρ' x:=fun x hx=>h x (by simp[Call.operands,hx])
  have hm:args.toList.map ρ=args.toList.map ρ':=List.map_congr_left fun x hx=>ha x (Array.mem_toList_iff.1 hx)
  cases callee with
  |invoke r m=>rfl
  |value f=>simp only;rw[h f (by simp[Call.operands]),hm]
  |builtin b=>
   cases b<;>simp only
   case append=>
    split
    .rename_i s x hl
     rw[ha s (by rw[←Array.mem_toList_iff,hl];simp),ha x (by rw[←Array.mem_toList_iff,hl];simp)]
    .rfl
   case copy=>
    split
    .rename_i s x hl
     rw[ha s (by rw[←Array.mem_toList_iff,hl];simp),ha x (by rw[←Array.mem_toList_iff,hl];simp)]
    .rfl
   case clear=>
    split
    .rename_i x hl
     rw[ha x (by rw[←Array.mem_toList_iff,hl];simp)]
    .rfl
   case len=>
    split
    .rename_i x t hl _
     rw[ha x (by rw[←Array.mem_toList_iff,hl];simp)]
    .rfl
 all_goals (first|rfl | (simp_all;done))

def maskOf(acc:List Nat):List Edge->Nat
 |[]=>0
 |e::r=>(if Region.binds .any e=true then 2 ^ e.on ||| (acc[e.on]?).getD 0 else 0) ||| maskOf acc r
def befGo:List Oper->List Nat->List Nat
 |[],acc=>acc
 |o::r,acc=>befGo r (acc++[maskOf acc o.after.toList])
def bef(ops:Array Oper):List Nat:=befGo ops.toList []
theorem maskOf_spec{acc:List Nat}{k:Nat}:∀{l:List Edge},(maskOf acc l).testBit k=true->∃ e∈l,Region.binds .any e=true/\(e.on=k\/((acc[e.on]?).getD 0).testBit k=true)
 |[],h=>by simp[maskOf]at h
 |e::r,h=>by
  simp only[maskOf,Nat.testBit_or,Bool.or_eq_true]at h
  rcases h with h|h
  .split at h
   .rename_i hb
    simp only[Nat.testBit_or,Bool.or_eq_true,Nat.testBit_two_pow,decide_eq_true_eq]at h
    exact⟨e,by simp,hb,h⟩
   .simp at h
  .obtain⟨e',h1,h2⟩:=maskOf_spec h
   exact⟨e',by simp[h1],h2⟩
theorem befGo_spec:∀(r:List Oper) (acc:List Nat),(befGo r acc).take acc.length=acc/\(befGo r acc).length=acc.length+r.length ∧
  ∀ i o,r[i]? = some o->(befGo r acc)[acc.length+i]? = some (maskOf ((befGo r acc).take (acc.length+i)) o.after.toList)
 |[],acc=>⟨by simp[befGo],by simp[befGo],fun i o h=>by simp at h⟩
 |o::r,acc=>by
  obtain⟨h1,h2,h3⟩:=befGo_spec r (acc++[maskOf acc o.after.toList])
  simp only[befGo]
  simp only[List.length_append,List.length_cons,List.length_nil]at h1 h2 h3
  have h0:(befGo r (acc++[maskOf acc o.after.toList])).take acc.length=acc:=by
   have:=congrArg (List.take acc.length) h1
   rw[List.take_take,Nat.min_eq_left (by omega)]at this
   rw[this]
   simp
  refine⟨h0,by simp only[List.length_cons];omega,fun i o' hi=>?_⟩
  cases i with
  |zero=>
   simp only[List.getElem?_cons_zero,Option.some.injEq]at hi
   subst hi
   rw[Nat.add_zero,h0]
   have:=congrArg (fun l=>l[acc.length]?) h1
   simp only[List.getElem?_take]at this
   rw[if_pos (by omega)]at this
   rw[this]
   simp
  |succ i=>
   have:=h3 i o' (by simpa using hi)
   rwa [show acc.length+(0+1)+i=acc.length+(i+1) by omega]at this
theorem bef_spec{ops:Array Oper}{j k:Nat}(h:(((bef ops)[j]?).getD 0).testBit k=true):∃ o,ops[j]? = some o/\∃ e∈o.after,Region.binds .any e=true/\(e.on=k\/(e.on<j/\(((bef ops)[e.on]?).getD 0).testBit k=true)):=by
 obtain⟨_,h2,h3⟩:=befGo_spec ops.toList []
 have hj:j<ops.size:=by
  rcases Nat.lt_or_ge j ops.size with h' | h'
  .exact h'
  .unfold bef at h
   rw[List.getElem?_eq_none (by rw[h2];simpa using h')]at h
   simp at h
 have:=h3 j ops[j] (by simp[hj])
 simp only[List.length_nil,Nat.zero_add]at this
 unfold bef at h
 rw[this]at h
 obtain⟨e,he,hb,hk⟩:=maskOf_spec (by simpa using h)
 refine⟨_,Array.getElem?_eq_getElem hj,e,by simpa using he,hb,?_⟩
 rcases hk with hk|hk
 .exact .inl hk
 .rw[List.getElem?_take]at hk
  split at hk
  .rename_i hlt
   exact .inr ⟨hlt,hk⟩
  .simp at hk
theorem bef_closed{ops:Array Oper}{L:Nat->Bool}(hc:∀ j o,ops[j]? = some o->L j=true->∀ e∈o.after.toList,Region.binds .any e=true->L e.on=true) :
  ∀(j k:Nat),L j=true->(((bef ops)[j]?).getD 0).testBit k=true->L k=true:=by
 intro j
 induction j using Nat.strongRecOn with
 |_ j ih=>
  intro k hL h
  obtain⟨o,ho,e,he,hb,hk⟩:=bef_spec h
  have h1:=hc j o ho hL e (by simpa using he) hb
  rcases hk with rfl|⟨hlt,hk⟩
  .exact h1
  .exact ih e.on hlt k h1 hk
theorem bef_ready{ops:Array Oper}{L:Nat->Bool}(hc:∀ j o,ops[j]? = some o->L j=true->∀ e∈o.after.toList,Region.binds .any e=true->L e.on=true){i:Nat}{o:Oper}(ho:ops[i]? = some o)
  (hr:∀ e∈o.after.toList,Region.binds .any e=true->L e.on=true) {k:Nat} (h:(((bef ops)[i]?).getD 0).testBit k=true):L k=true:=by
 obtain⟨o',ho',e,he,hb,hk⟩:=bef_spec h
 rw[ho]at ho'
 cases ho'
 have h1:=hr e (by simpa using he) hb
 rcases hk with rfl|⟨hlt,hk⟩
 .exact h1
 .exact bef_closed hc e.on k h1 hk

def Foot.clash(f g:Foot):Bool:=f.wr.any (fun b=>g.rd.contains b||g.wr.contains b)||g.wr.any (fun b=>f.rd.contains b)
def Foot.empty(f:Foot):Bool:=f.rd.isEmpty&&f.wr.isEmpty
def heapOk(bf:List Nat)(fs:List Foot):Bool:=
 let ne:=fs.zipIdx.filter fun p=>!p.1.empty
 ne.all fun q=>ne.all fun p=>!decide (p.2<q.2)||!p.1.clash q.1||((bf[q.2]?).getD 0).testBit p.2
def tmpsOk(ops:Array Oper):Bool:=
 let bf:=bef ops
 (List.range ops.size).all fun j=>(List.range j).all fun i=>((bf[j]?).getD 0).testBit i||(match ops[i]?,ops[j]? with
  |some x,some y=>x.apart ops y
  |_,_=>true)
theorem heapOk_spec{bf:List Nat}{fs:List Foot}(h:heapOk bf fs=true){i j:Nat}{f g:Foot}(hij:i<j)(hi:fs[i]? = some f)(hj:fs[j]? = some g):((bf[j]?).getD 0).testBit i=true ∨
  (∀ b,b∈f.wr->b∉g.rd/\b∉g.wr)/\(∀ b,b∈g.wr->b∉f.rd):=by
 have out:∀{f g:Foot},f.clash g=false->(∀ b,b∈f.wr->b∉g.rd/\b∉g.wr)/\(∀ b,b∈g.wr->b∉f.rd):=by
  intro f g h
  unfold Foot.clash at h
  simp only[Bool.or_eq_false_iff,List.any_eq_false,Bool.or_eq_true,not_or,List.contains_iff_mem]at h
  exact⟨fun b hb=>by have:=h.1 b hb;simpa using this,fun b hb=>by have:=h.2 b hb;simpa using this⟩
 by_cases he:f.empty=true\/g.empty=true
 .right
  rcases he with he|he<;>(unfold Foot.empty at he;simp only[Bool.and_eq_true,List.isEmpty_iff]at he;rw[he.1,he.2];simp)
 .simp only[not_or,Bool.not_eq_true]at he
  unfold heapOk at h
  simp only[List.all_eq_true]at h
  have mem:∀{k:Nat} {x:Foot},fs[k]? = some x->x.empty=false->(x,k)∈fs.zipIdx.filter fun p=>!p.1.empty:=by
   intro k x hk hx
   rw[List.mem_filter]
   refine⟨?_,by simp[hx]⟩
   rw[List.mk_mem_zipIdx_iff_getElem?]
   exact hk
  have:=h _ (mem hj he.2) _ (mem hi he.1)
  simp only[Bool.or_eq_true,Bool.not_eq_true',decide_eq_false_iff_not]at this
  rcases this with (h1|h1) | h1
  .exact absurd hij h1
  .exact .inr (out h1)
  .exact .inl h1
theorem tmpsOk_spec{ops:Array Oper}(h:tmpsOk ops=true){i j:Nat}{x y:Oper}(hij:i<j)(hi:ops[i]? = some x)(hj:ops[j]? = some y):((((bef ops)[j]?).getD 0).testBit i=true)\/x.apart ops y=true:=by
 unfold tmpsOk at h
 simp only[List.all_eq_true,List.mem_range]at h
 have:=h j (Array.getElem?_eq_some_iff.1 hj).1 i hij
 rw[hi,hj]at this
 simpa using this
end Go.Proofs.YtpncilciembjdaaGreatDoor
namespace Go.Proofs.YtpncilciembjdaaGreatDoor
open Go.RowKit

def backwardB(ops:Array Oper):Bool:=(List.range ops.size).all fun i=>match ops[i]? with|some o=>o.after.all (fun e=>!Region.binds .any e||decide (e.on<i)) | none=>true
section
variable {P:Program} {ops:Array Oper} {Q:Exit->Act->World->Prop}
theorem wp_region_inv2{id:Nat}{a:Act}{w:World}(hm:P.follows .mixedOrders=true)(hb:backwardB ops=true)(I:(Nat->Bool)->Act->World->Prop)(h0:I (fun _=>false) a w.drew)
  (step:∀ i o,ops[i]? = some o->∀ L a w,I L a w->L i=false->(∀ e∈o.after.toList,Region.binds .any e=true->L e.on=true)->(∀ j o',ops[j]? = some o'->L j=true->∀ e∈o'.after.toList,Region.binds .any e=true->L e.on=true)->wpList P ops (Exit.then (fun a' w'=>I (fun j=>j == i||L j) a' w') Q) [o] a w)
  (fin:∀ L a w,I L a w->(∀ i,i<ops.size->L i=true)->Q .normal a w):(Code.region id ops true).wp P Q a w:=by
 refine wp_region_any hm ?_
 have key:∀(fuel:Nat) (L:Nat->Bool) (listed:Array Bool) (a:Act) (w:World),listed.size=ops.size->(∀ i,i<ops.size->listed[i]? = some (L i))->I L a w->(∀ j o',ops[j]? = some o'->L j=true->∀ e∈o'.after.toList,Region.binds .any e=true->L e.on=true)->
   (∀ s:List Nat,s.Nodup->(∀ i∈s,i<ops.size/\L i=false)->s.length<=fuel)->wpAny P .any ops Q fuel listed a w:=by
  intro fuel
  have nil:∀(L:Nat->Bool) (listed:Array Bool),listed.size=ops.size->(∀ i,i<ops.size->listed[i]? = some (L i))->Region.ready .any ops listed=[]->∀ n,∀ i,i<n->i<ops.size->L i=true:=by
   intro L listed hs hl hr n
   induction n with
   |zero=>intro i h;omega
   |succ n ih=>
    intro i hin hi
    rcases Nat.lt_or_ge i n with h|h
    .exact ih i h hi
    .have hin':i=n:=by omega
     subst hin'
     cases hL:L i with
     |true=>rfl
     |false=>
      exfalso
      have:i∈Region.ready .any ops listed:=by
       unfold Region.ready
       rw[List.mem_filter]
       refine⟨List.mem_range.2 hi,?_⟩
       have h1:listed.getD i true=false:=by rw[Array.getD_eq_getD_getElem?,hl i hi,hL];rfl
       rw[h1,Array.getElem?_eq_getElem hi]
       simp only[Bool.not_false,Option.map_some,Option.getD_some,Bool.true_and,Array.all_eq_true_iff_forall_mem]
       intro e he
       have hbk:=List.all_eq_true.1 hb i (List.mem_range.2 hi)
       rw[Array.getElem?_eq_getElem hi]at hbk
       simp only[Array.all_eq_true_iff_forall_mem]at hbk
       have hlt0:=hbk e he
       cases hbd:Region.binds .any e with
       |false=>rfl
       |true=>
        rw[hbd]at hlt0
        have hlt:e.on<i:=by simpa using hlt0
        have h2:listed.getD e.on false=true:=by rw[Array.getD_eq_getD_getElem?,hl e.on (by omega),ih e.on hlt (by omega)];rfl
        rw[h2]
        rfl
      rw[hr]at this
      cases this
  induction fuel with
  |zero=>
   intro L listed a w hs hl hI _ hc
   have hall:∀ i,i<ops.size->L i=true:=by
    intro i hi
    cases hL:L i with
    |true=>rfl
    |false=>exact absurd (hc [i] (by simp) (by simp[hi,hL])) (by simp)
   refine⟨?_,fin L a w hI hall⟩
   unfold Region.ready
   rw[List.filter_eq_nil_iff]
   intro i hi
   have hi':=List.mem_range.1 hi
   have h1:listed.getD i true=true:=by rw[Array.getD_eq_getD_getElem?,hl i hi',hall i hi'];rfl
   simp[h1]
  |succ fuel ih=>
   intro L listed a w hs hl hI hcl hc
   refine⟨fun hr=>fin L a w hI (fun i hi=>nil L listed hs hl hr (i+1) i (by omega) hi),fun i hi=>?_⟩
   unfold Region.ready at hi
   rw[List.mem_filter]at hi
   obtain⟨hi1,hi2⟩:=hi
   have hi':=List.mem_range.1 hi1
   simp only[Bool.and_eq_true,Bool.not_eq_true',Array.getElem?_eq_getElem hi',Option.map_some,Option.getD_some,Array.all_eq_true_iff_forall_mem]at hi2
   obtain⟨hn,he⟩:=hi2
   have hLi:L i=false:=by
    rw[Array.getD_eq_getD_getElem?,hl i hi']at hn
    exact hn
   have hpre:∀ e∈(ops[i]'hi').after.toList,Region.binds .any e=true->L e.on=true:=by
    intro e he' hbd
    have:=he e (by simpa using he')
    have hbk:=List.all_eq_true.1 hb i hi1
    rw[Array.getElem?_eq_getElem hi']at hbk
    simp only[Array.all_eq_true_iff_forall_mem]at hbk
    have hlt0:=hbk e (by simpa using he')
    rw[hbd]at hlt0
    have hlt:e.on<i:=by simpa using hlt0
    rw[hbd]at this
    simp only[Bool.not_true,Bool.false_or]at this
    rw[Array.getD_eq_getD_getElem?,hl e.on (by omega)]at this
    exact this
   refine wpOp_mono (K:=fun a' w'=>I (fun j=>j == i||L j) a' w') (fun a' w' hI'=>ih (fun j=>j == i||L j) _ a' w' (by simpa using hs) (fun j hj=>?_) hI' (fun j o' ho' hj e he' hbd=>?_) (fun s hnd hs'=>?_)) (wpOp_of_one (Array.getElem?_eq_getElem hi') (step i _ (Array.getElem?_eq_getElem hi') L a w hI hLi hpre hcl))
   .rw[Array.getElem?_setIfInBounds]
    by_cases hji:i=j
    .subst hji;simp[hs,hi']
    .have hne:(j == i)=false:=by simp;omega
     rw[if_neg hji,hl j hj,hne]
     rfl
   .by_cases hji:j=i
    .subst hji
     rw[Array.getElem?_eq_getElem hi']at ho'
     cases ho'
     rw[hpre e he' hbd]
     simp
    .have hne:(j == i)=false:=by simpa using hji
     simp only[hne,Bool.false_or]at hj
     rw[hcl j o' ho' hj e he' hbd]
     simp
   .have hns:i∉s:=fun h=>by have:=(hs' i h).2;simp at this
    have:=hc (i::s) (List.nodup_cons.2 ⟨hns,hnd⟩) (fun j hj=>by
     rcases List.mem_cons.1 hj with rfl|hj
     .exact⟨hi',hLi⟩
     .have h2:=(hs' j hj).2
      simp only[Bool.or_eq_false_iff]at h2
      exact⟨(hs' j hj).1,h2.2⟩)
    simp at this
    omega
 refine key ops.size (fun _=>false) _ a w.drew (by simp) (fun i hi=>by simp[hi]) h0 (fun j o' _ hj=>by simp at hj) (fun s hnd hs=>?_)
 exact nodup_le _ s hnd fun i hi=>(hs i hi).1
end
end Go.Proofs.YtpncilciembjdaaGreatDoor
namespace Go.Proofs.YtpncilciembjdaaGreatDoor
open Go.RowKit

def lastP(p:Nat->Bool):Nat->Option Nat
 |0=>none
 |n+1=>if p n=true then some n else lastP p n
theorem lastP_some{p:Nat->Bool}:∀{n k:Nat},lastP p n=some k->k<n/\p k=true/\∀ m,k<m->m<n->p m=false
 |0,k,h=>by simp[lastP]at h
 |n+1,k,h=>by
  simp only[lastP]at h
  split at h
  .simp only[Option.some.injEq]at h
   subst h
   exact⟨by omega,‹_›,fun m h1 h2=>by omega⟩
  .rename_i hn
   obtain⟨h1,h2,h3⟩:=lastP_some h
   refine⟨by omega,h2,fun m h4 h5=>?_⟩
   rcases Nat.lt_or_ge m n with h6|h6
   .exact h3 m h4 h6
   .have:m=n:=by omega
    subst this
    simpa using hn
theorem lastP_none{p:Nat->Bool}:∀{n:Nat},lastP p n=none->∀ m,m<n->p m=false
 |0,_,m,h=>by omega
 |n+1,h,m,hm=>by
  simp only[lastP]at h
  split at h
  .cases h
  .rename_i hn
   rcases Nat.lt_or_ge m n with h6|h6
   .exact lastP_none h m h6
   .have:m=n:=by omega
    subst this
    simpa using hn
theorem lastP_is{p:Nat->Bool}{n k:Nat}(hk:k<n)(hp:p k=true)(hm:∀ m,k<m->m<n->p m=false):lastP p n=some k:=by
 cases e:lastP p n with
 |none=>rw[lastP_none e k hk]at hp;cases hp
 |some j=>
  obtain⟨h1,h2,h3⟩:=lastP_some e
  rcases Nat.lt_trichotomy j k with h|h|h
  .rw[h3 k h hk]at hp;cases hp
  .rw[h]
  .rw[hm j h h1]at h2;cases h2
theorem lastP_congr{p q:Nat->Bool}:∀{n:Nat},(∀ m,m<n->p m=q m)->lastP p n=lastP q n
 |0,_=>rfl
 |n+1,h=>by
  simp only[lastP]
  rw[h n (by omega),lastP_congr fun m hm=>h m (by omega)]

structure Seq (P:Program) (Γ:FuncId->List AV->AM AV) (ops:Array Oper) (S:Nat->List AV × AH) (v:Nat->AV) (f:Nat->Foot):Prop where
 core:∀ i o,ops[i]? = some o->coreA P Γ ops o (S i).1 (S i).2=some (v i,(S (i+1)).2,f i)
 set:∀ i o,ops[i]? = some o->(S (i+1)).1=dstSet (S i).1 o.dst (v i)
theorem runL_seq{P:Program}{Γ:FuncId->List AV->AM AV}{ops:Array Oper}:∀(l:List Oper) {T T':List AV} {H H':AH} {fs:List Foot},runL P Γ ops l T H=some (T',H',fs)->
  ∃(S:Nat->List AV × AH) (v:Nat->AV),S 0=(T,H)/\S l.length=(T',H')/\fs.length=l.length/\∀ i o,l[i]? = some o->∃ f,fs[i]? = some f/\coreA P Γ ops o (S i).1 (S i).2=some (v i,(S (i+1)).2,f)/\(S (i+1)).1=dstSet (S i).1 o.dst (v i)
 |[],T,T',H,H',fs,h=>by
  simp only[runL,Option.some.injEq,Prod.mk.injEq]at h
  obtain⟨rfl,rfl,rfl⟩:=h
  exact⟨fun _=>(T,H),fun _=>AV.undef,rfl,rfl,rfl,fun i o h=>by simp at h⟩
 |o::r,T,T',H,H',fs,h=>by
  simp only[runL]at h
  rcases e1:stepA P Γ ops o T H with _|⟨T1,H1,f⟩<;>rw[e1]at h
  .cases h
  simp only at h
  rcases e2:runL P Γ ops r T1 H1 with _|⟨T2,H2,fs'⟩<;>rw[e2]at h
  .cases h
  simp only[Option.some.injEq,Prod.mk.injEq]at h
  obtain⟨rfl,rfl,rfl⟩:=h
  obtain⟨x,e3,e4⟩:=stepA_some e1
  obtain⟨S,v,h0,hn,hl,hs⟩:=runL_seq r e2
  refine⟨fun i=>match i with|0=>(T,H) | i+1=>S i,fun i=>match i with|0=>x|i+1=>v i,rfl,hn,by simp[hl],fun i o' ho=>?_⟩
  cases i with
  |zero=>
   simp only[List.getElem?_cons_zero,Option.some.injEq]at ho
   subst ho
   refine⟨f,rfl,?_,?_⟩
   .simp only[h0];exact e3
   .simp only[h0];exact e4
  |succ i=>
   obtain⟨g,g1,g2,g3⟩:=hs i o' (by simpa using ho)
   exact⟨g,by simpa using g1,g2,g3⟩
theorem dstSet_length(T:List AV)(dst:Option Tmp)(v:AV):(dstSet T dst v).length=T.length:=by cases dst<;>simp[dstSet]
theorem dstSet_get(T:List AV)(dst:Option Tmp)(v:AV)(d:Nat):(dstSet T dst v)[d]? = if dst=some d then(if d<T.length then some v else none) else T[d]?:=by
 cases dst with
 |none=>simp[dstSet]
 |some e=>
  simp only[dstSet,List.getElem?_set,Option.some.injEq]
  by_cases h:e=d
  .subst h;simp
  .simp[h]
theorem looks_opd{ops:Array Oper}{o:Oper}{x:Operand}(hx:x∈o.op.operands){t:Tmp}(h:x=.tmp t):t∈o.looksAt ops:=by
 subst h
 exact List.mem_append_left _ (List.mem_filterMap.2 ⟨.tmp t,by simpa using hx,rfl⟩)
theorem coreA_congr{P:Program}{Γ:FuncId->List AV->AM AV}{ops:Array Oper}{o:Oper}{T T':List AV}(h:∀ d∈o.looksAt ops,T[d]? = T'[d]?):coreA P Γ ops o T=coreA P Γ ops o T':=by
 have hw:wantedA ops o T=wantedA ops o T':=by
  unfold wantedA
  cases hg:o.guard with
  |none=>rfl
  |some jw=>
   obtain⟨j,want⟩:=jw
   have:yieldsA ops T j=yieldsA ops T' j:=by
    unfold yieldsA
    cases hd:(ops[j]?).bind (·.dst) with
    |none=>rfl
    |some d=>
     simp only[Option.bind_some]
     rw[h d (by unfold Oper.looksAt;rw[hg];exact List.mem_append_right _ (by simp[hd]))]
   simp only[this]
 unfold coreA
 rw[hw]
 have ho:aop P Γ o (opdA T)=aop P Γ o (opdA T'):=aop_congr fun x hx=>by
  cases x with
  |tmp t=>simp only[opdA];rw[h t (looks_opd hx rfl)]
  |_=>rfl
 rw[ho]

section
variable {P:Program} {Γ:FuncId->List AV->AM AV} {ops:Array Oper} {S:Nat->List AV × AH} {v:Nat->AV} {f:Nat->Foot}
def hAt(S:Nat->List AV × AH)(f:Nat->Foot)(n:Nat)(L:Nat->Bool)(b:Nat):Option ABlk:=match lastP (fun i=>L i&&(f i).wr.contains b) n with
 |some i=>(S (i+1)).2.get b
 |none=>(S 0).2.get b
def tAt(ops:Array Oper)(S:Nat->List AV × AH)(n:Nat)(L:Nat->Bool)(d:Nat):Option AV:=match lastP (fun i=>L i&&decide ((ops[i]?).bind (·.dst)=some d)) n with
 |some i=>(S (i+1)).1[d]?
 |none=>(S 0).1[d]?
structure Reg (P:Program) (Γ:FuncId->List AV->AM AV) (ops:Array Oper) (S:Nat->List AV × AH) (v:Nat->AV) (f:Nat->Foot):Prop where
 seq:Seq P Γ ops S v f
 loc:∀ i o,ops[i]? = some o->LocAt (coreA P Γ ops o (S i).1) (S i).2 (v i) (S (i+1)).2 (f i)
 wf0:(S 0).2.wf
 heap:∀ i j,i<j->j<ops.size->((((bef ops)[j]?).getD 0).testBit i=true)\/(∀ b,b∈(f i).wr->b∉(f j).rd/\b∉(f j).wr)/\(∀ b,b∈(f j).wr->b∉(f i).rd)
 tmps:∀ i j x y,i<j->ops[i]? = some x->ops[j]? = some y->((((bef ops)[j]?).getD 0).testBit i=true)\/x.apart ops y=true
variable (R:Reg P Γ ops S v f)
include R
theorem Reg.wf:∀ i,i<=ops.size->(S i).2.wf
 |0,_=>R.wf0
 |i+1,h=>(R.loc i ops[i] (Array.getElem?_eq_getElem (by omega))).wf
theorem Reg.next_le:∀{j i:Nat},i<=j->j<=ops.size->(S i).2.next<=(S j).2.next
 | 0, i, h, _ => by have:i=0:=by omega
                    subst this;exact Nat.le_refl _
 |j+1,i,h,hj=>by
  rcases Nat.lt_or_ge i (j+1) with h1|h1
  .exact Nat.le_trans (Reg.next_le (by omega) (by omega)) (R.loc j ops[j] (Array.getElem?_eq_getElem (by omega))).next
  .have:i=j+1:=by omega
   subst this;exact Nat.le_refl _
theorem Reg.top:∀ i,i<=ops.size->(S i).2.top=(S 0).2.top
 |0,_=>rfl
 |i+1,h=>(R.loc i ops[i] (Array.getElem?_eq_getElem (by omega))).top.trans (Reg.top i (by omega))
theorem Reg.same_h{b:Nat}:∀{j i:Nat},i<=j->j<=ops.size->(∀ m,i<=m->m<j->b∉(f m).wr)->(S j).2.get b=(S i).2.get b
 | 0, i, h, _, _ => by have:i=0:=by omega
                       subst this;rfl
 |j+1,i,h,hj,hm=>by
  rcases Nat.lt_or_ge i (j+1) with h1|h1
  .rw[(R.loc j ops[j] (Array.getElem?_eq_getElem (by omega))).same b (hm j (by omega) (by omega))]
   exact Reg.same_h (by omega) (by omega) fun m h2 h3=>hm m h2 (by omega)
  .have:i=j+1:=by omega
   subst this;rfl
theorem Reg.same_t{d:Nat}:∀{j i:Nat},i<=j->j<=ops.size->(∀ m,i<=m->m<j->(ops[m]?).bind (·.dst)≠some d)->(S j).1[d]? = (S i).1[d]?
 | 0, i, h, _, _ => by have:i=0:=by omega
                       subst this;rfl
 |j+1,i,h,hj,hm=>by
  rcases Nat.lt_or_ge i (j+1) with h1|h1
  .have ho:=Array.getElem?_eq_getElem (show j<ops.size by omega)
   have:=hm j (by omega) (by omega)
   rw[ho]at this
   rw[R.seq.set j _ ho,dstSet_get,if_neg (by simpa using this)]
   exact Reg.same_t (by omega) (by omega) fun m h2 h3=>hm m h2 (by omega)
  .have:i=j+1:=by omega
   subst this;rfl
theorem Reg.len:∀ i,i<=ops.size->(S i).1.length=(S 0).1.length
 |0,_=>rfl
 |i+1,h=>by rw[R.seq.set i _ (Array.getElem?_eq_getElem (show i<ops.size by omega)),dstSet_length];exact Reg.len i (by omega)
section
variable {L:Nat->Bool} {i:Nat} {o:Oper} (hc:∀ j o,ops[j]? = some o->L j=true->∀ e∈o.after.toList,Region.binds .any e=true->L e.on=true) (ho:ops[i]? = some o)
 (hi:L i=false) (hr:∀ e∈o.after.toList,Region.binds .any e=true->L e.on=true)
include hc ho hi hr
theorem Reg.agree_h{b:Nat}(hb:b∈(f i).rd\/b∈(f i).wr):hAt S f ops.size L b=(S i).2.get b:=by
 have hin:i<ops.size:=(Array.getElem?_eq_some_iff.1 ho).1
 -- who writes b ahead of i is done
 have ahead:∀ m,m<i->b∈(f m).wr->L m=true:=fun m hm hbm=>by
  rcases R.heap m i hm hin with h|⟨h,_⟩
  .exact bef_ready hc ho hr h
  .have:=h b hbm
   rcases hb with hb|hb
   .exact absurd hb this.1
   .exact absurd hb this.2
 have behind:∀ m,i<m->m<ops.size->L m=true->b∉(f m).wr:=fun m hm hmn hL hbm=>by
  rcases R.heap i m hm hmn with h|⟨h1,h2⟩
  .have:=bef_closed hc m i hL h
   rw[hi]at this;cases this
  .rcases hb with hb|hb
   .exact h2 b hbm hb
   .exact(h1 b hb).2 hbm
 unfold hAt
 cases e:lastP (fun i=>L i&&(f i).wr.contains b) ops.size with
 |none=>
  have hn:=lastP_none e
  refine(R.same_h (Nat.zero_le _) (by omega) fun m _ hm hbm=>?_).symm
  have:=hn m (by omega)
  rw[ahead m hm hbm,List.contains_iff_mem.2 hbm]at this
  cases this
 |some k=>
  obtain⟨h1,h2,h3⟩:=lastP_some e
  simp only[Bool.and_eq_true,List.contains_iff_mem]at h2
  have hki:k<i:=by
   rcases Nat.lt_trichotomy k i with h|h|h
   .exact h
   .rw[h,hi]at h2;cases h2.1
   .exact absurd h2.2 (behind k h h1 h2.1)
  simp only
  refine(R.same_h (by omega) (by omega) fun m hm1 hm2 hbm=>?_).symm
  have:=h3 m (by omega) (by omega)
  rw[ahead m hm2 hbm,List.contains_iff_mem.2 hbm]at this
  cases this
theorem Reg.agree_t{d:Nat}(hd:d∈o.looksAt ops):tAt ops S ops.size L d=(S i).1[d]?:=by
 have hin:i<ops.size:=(Array.getElem?_eq_some_iff.1 ho).1
 have ahead:∀ m,m<i->(ops[m]?).bind (·.dst)=some d->L m=true:=fun m hm hdm=>by
  have hom:=Array.getElem?_eq_getElem (show m<ops.size by omega)
  rw[hom]at hdm
  rcases R.tmps m i _ _ hm hom ho with h|h
  .exact bef_ready hc ho hr h
  .exact absurd hd ((Oper.apart_spec h).1 d (by simpa using hdm))
 have behind:∀ m,i<m->m<ops.size->L m=true->(ops[m]?).bind (·.dst)≠some d:=fun m hm hmn hL hdm=>by
  have hom:=Array.getElem?_eq_getElem hmn
  rw[hom]at hdm
  rcases R.tmps i m _ _ hm ho hom with h|h
  .have:=bef_closed hc m i hL h
   rw[hi]at this;cases this
  .exact absurd hd ((Oper.apart_spec h).2.2 d (by simpa using hdm))
 unfold tAt
 cases e:lastP (fun i=>L i&&decide ((ops[i]?).bind (·.dst)=some d)) ops.size with
 |none=>
  have hn:=lastP_none e
  refine(R.same_t (Nat.zero_le _) (by omega) fun m _ hm hdm=>?_).symm
  have:=hn m (by omega)
  rw[ahead m hm hdm,decide_eq_true hdm]at this
  cases this
 |some k=>
  obtain⟨h1,h2,h3⟩:=lastP_some e
  simp only[Bool.and_eq_true,decide_eq_true_eq]at h2
  have hki:k<i:=by
   rcases Nat.lt_trichotomy k i with h|h|h
   .exact h
   .rw[h,hi]at h2;cases h2.1
   .exact absurd h2.2 (behind k h h1 h2.1)
  simp only
  refine(R.same_t (by omega) (by omega) fun m hm1 hm2 hdm=>?_).symm
  have:=h3 m (by omega) (by omega)
  rw[ahead m hm2 hdm,decide_eq_true hdm]at this
  cases this
theorem Reg.next_h(b:Nat):hAt S f ops.size (fun j=>j == i||L j) b=if b∈(f i).wr then(S (i+1)).2.get b else hAt S f ops.size L b:=by
 have hin:i<ops.size:=(Array.getElem?_eq_some_iff.1 ho).1
 by_cases hb:b∈(f i).wr
 .rw[if_pos hb]
  unfold hAt
  rw[lastP_is (k:=i) hin (by simp[hb]) fun m hm hmn=>by
   cases hL:L m with
   |false=>
    have:(m == i)=false:=by simp;omega
    simp[this,hL]
   |true=>
    have hbm:b∉(f m).wr:=fun hbm=>by
     rcases R.heap i m hm hmn with h|⟨h1,h2⟩
     .have:=bef_closed hc m i hL h
      rw[hi]at this;cases this
     .exact(h1 b hb).2 hbm
    simp[hbm]]
 .rw[if_neg hb]
  unfold hAt
  have hcg:lastP (fun j=>(j == i||L j)&&(f j).wr.contains b) ops.size=lastP (fun j=>L j&&(f j).wr.contains b) ops.size:=lastP_congr fun m hm=>by
   by_cases hmi:m=i
   .rw[hmi];simp[hb]
   .have:(m == i)=false:=by simpa using hmi
    simp[this]
  rw[hcg]
theorem Reg.next_t(d:Nat):tAt ops S ops.size (fun j=>j == i||L j) d=if o.dst=some d then(S (i+1)).1[d]? else tAt ops S ops.size L d:=by
 have hin:i<ops.size:=(Array.getElem?_eq_some_iff.1 ho).1
 by_cases hd:o.dst=some d
 .rw[if_pos hd]
  unfold tAt
  rw[lastP_is (k:=i) hin (by simp[ho,hd]) fun m hm hmn=>by
   cases hL:L m with
   |false=>
    have:(m == i)=false:=by simp;omega
    simp[this,hL]
   |true=>
    have hdm:(ops[m]?).bind (·.dst)≠some d:=fun hdm=>by
     have hom:=Array.getElem?_eq_getElem hmn
     rw[hom]at hdm
     rcases R.tmps i m _ _ hm ho hom with h|h
     .have:=bef_closed hc m i hL h
      rw[hi]at this;cases this
     .exact(Oper.apart_spec h).2.1 d hd (by simpa using hdm)
    simp[hdm]]
 .rw[if_neg hd]
  unfold tAt
  have hcg:lastP (fun j=>(j == i||L j)&&decide ((ops[j]?).bind (·.dst)=some d)) ops.size=lastP (fun j=>L j&&decide ((ops[j]?).bind (·.dst)=some d)) ops.size:=lastP_congr fun m hm=>by
   by_cases hmi:m=i
   .rw[hmi];simp[ho,hd]
   .have:(m == i)=false:=by simpa using hmi
    simp[this]
  rw[hcg]
end
theorem Reg.all_h{L:Nat->Bool}(hL:∀ i,i<ops.size->L i=true)(b:Nat):hAt S f ops.size L b=(S ops.size).2.get b:=by
 unfold hAt
 cases e:lastP (fun i=>L i&&(f i).wr.contains b) ops.size with
 |none=>
  have hn:=lastP_none e
  refine(R.same_h (Nat.zero_le _) (Nat.le_refl _) fun m _ hm hbm=>?_).symm
  have:=hn m hm
  rw[hL m hm,List.contains_iff_mem.2 hbm]at this
  cases this
 |some k=>
  obtain⟨h1,h2,h3⟩:=lastP_some e
  refine(R.same_h (by omega) (Nat.le_refl _) fun m hm1 hm hbm=>?_).symm
  have:=h3 m (by omega) hm
  rw[hL m hm,List.contains_iff_mem.2 hbm]at this
  cases this
theorem Reg.all_t{L:Nat->Bool}(hL:∀ i,i<ops.size->L i=true)(d:Nat):tAt ops S ops.size L d=(S ops.size).1[d]?:=by
 unfold tAt
 cases e:lastP (fun i=>L i&&decide ((ops[i]?).bind (·.dst)=some d)) ops.size with
 |none=>
  have hn:=lastP_none e
  refine(R.same_t (Nat.zero_le _) (Nat.le_refl _) fun m _ hm hdm=>?_).symm
  have:=hn m hm
  rw[hL m hm,decide_eq_true hdm]at this
  cases this
 |some k=>
  obtain⟨h1,h2,h3⟩:=lastP_some e
  refine(R.same_t (by omega) (Nat.le_refl _) fun m hm1 hm hdm=>?_).symm
  have:=h3 m (by omega) hm
  rw[hL m hm,decide_eq_true hdm]at this
  cases this
end
end Go.Proofs.YtpncilciembjdaaGreatDoor
namespace Go.Proofs.YtpncilciembjdaaGreatDoor
open Go.RowKit

def RInv(ops:Array Oper)(S:Nat->List AV × AH)(f:Nat->Foot)(μ:Mu)(F:Prot)(w0:World)(L:Nat->Bool)(a:Act)(w:World):Prop:=
 ∃(T:List AV) (K:List (Nat × ABlk)) (μ':Mu) (F':Prot),RT μ' F' w T a/\HRep μ' F' w (fun b=>look b K)/\T.length=(S 0).1.length/\(∀ d,T[d]? = tAt ops S ops.size L d)/\(∀ b,look b K=hAt S f ops.size L b) ∧
  Later μ μ' F F' w0 w/\WStep F w0 w/\∀ b,μ' b=μ b\/∃ i,i<ops.size/\L i=true/\(S i).2.next<=b/\b<(S (i+1)).2.next
theorem reg_of{P:Program}{Γ:FuncId->List AV->AM AV}(hL:∀ f args,Loc (Γ f args)){ops:Array Oper}{T T':List AV}{H H':AH}{fs:List Foot}(hw:H.wf)(ht:tmpsOk ops=true)(hh:heapOk (bef ops) fs=true)
  (h:runL P Γ ops ops.toList T H=some (T',H',fs)):∃ S v f,S 0=(T,H)/\S ops.size=(T',H')/\Reg P Γ ops S v f:=by
 obtain⟨S,v,h0,hn,hl,hs⟩:=runL_seq ops.toList h
 rw[Array.length_toList]at hn hl
 let f:Nat->Foot:=fun i=>(fs[i]?).getD ⟨[],[]⟩
 have hf:∀ i o,ops[i]? = some o->fs[i]? = some (f i)/\coreA P Γ ops o (S i).1 (S i).2=some (v i,(S (i+1)).2,f i)/\(S (i+1)).1=dstSet (S i).1 o.dst (v i):=by
  intro i o ho
  obtain⟨g,g1,g2,g3⟩:=hs i o (by simpa using ho)
  have:f i=g:=by show (fs[i]?).getD _=g;rw[g1];rfl
  rw[this]
  exact⟨g1,g2,g3⟩
 have wfs:∀ i,i<=ops.size->(S i).2.wf:=by
  intro i
  induction i with
  |zero=>intro _;rw[h0];exact hw
  |succ i ih=>
   intro hi
   obtain⟨_,g2,_⟩:=hf i ops[i] (Array.getElem?_eq_getElem (by omega))
   exact(Loc.coreA hL ops ops[i] (S i).1 (S i).2 (v i) (S (i+1)).2 (f i) (ih (by omega)) g2).wf
 refine⟨S,v,f,h0,hn,⟨fun i o ho=>(hf i o ho).2.1,fun i o ho=>(hf i o ho).2.2⟩,fun i o ho=>?_,wfs 0 (Nat.zero_le _),fun i j hij hj=>?_,fun i j x y hij hx hy=>tmpsOk_spec ht hij hx hy⟩
 .have hi:i<ops.size:=(Array.getElem?_eq_some_iff.1 ho).1
  exact Loc.coreA hL ops o (S i).1 (S i).2 (v i) (S (i+1)).2 (f i) (wfs i (by omega)) (hf i o ho).2.1
 .exact heapOk_spec hh hij (hf i ops[i] (Array.getElem?_eq_getElem (by omega))).1 (hf j ops[j] (Array.getElem?_eq_getElem hj)).1
theorem region_draw_sound{P:Program}{Γ:FuncId->List AV->AM AV}(hm:P.follows .mixedOrders=true)(hΓ:SoundG P Γ)(hL:∀ f args,Loc (Γ f args)){id:Nat}{ops:Array Oper}{Q:Exit->Act->World->Prop}{μ:Mu}{F:Prot}{w:World}{H:AH}{T:List AV}{a:Act}
  (hT:RT μ F w T a) (hH:HRep μ F w H.get) (hw:H.wf) (hf:Fresh μ H) (hbk:backwardB ops=true) (ht:tmpsOk ops=true) {T':List AV} {H':AH} {fs:List Foot} (h:runL P Γ ops ops.toList T H=some (T',H',fs)) (hh:heapOk (bef ops) fs=true)
  (hq:∀ a' w',PostT μ F w H T' H' a' w'->Q .normal a' w'):(Code.region id ops true).wp P Q a w:=by
 obtain⟨S,v,f,h0,hn,R⟩:=reg_of hL hw ht hh h
 have hS0:(S 0).2=H:=by rw[h0]
 have hT0:(S 0).1=T:=by rw[h0]
 refine wp_region_inv2 hm hbk (RInv ops S f μ F w) ?_ ?_ ?_
 .obtain⟨d1,d2,d3⟩:=hH.drew
  refine⟨T,H.bs,μ,F,rt_later hT d2,d1,by rw[hT0],fun d=>?_,fun b=>?_,d2,d3,fun b=>.inl rfl⟩
  .unfold tAt
   rw[show lastP (fun i=>false&&decide ((ops[i]?).bind (·.dst)=some d)) ops.size=none from by
    cases e:lastP (fun i=>false&&decide ((ops[i]?).bind (·.dst)=some d)) ops.size with
    |none=>rfl
    |some k=>have:=(lastP_some e).2.1;simp at this]
   simp only[hT0]
  .unfold hAt
   rw[show lastP (fun i=>false&&(f i).wr.contains b) ops.size=none from by
    cases e:lastP (fun i=>false&&(f i).wr.contains b) ops.size with
    |none=>rfl
    |some k=>have:=(lastP_some e).2.1;simp at this]
   simp only[hS0]
   rfl
 .intro i o ho L a1 w1 hI hi hr hc
  have hin:i<ops.size:=(Array.getElem?_eq_some_iff.1 ho).1
  obtain⟨T1,K,μ1,F1,i1,i2,i3,i4,i5,i6,i7,i8⟩:=hI
  have Li:=R.loc i o ho
  have hnn:=Li.next
  -- the operation, at the state at hand
  have hcore:coreA P Γ ops o T1=coreA P Γ ops o (S i).1:=coreA_congr fun d hd=>by rw[i4 d];exact R.agree_t hc ho hi hr hd
  let KH:AH:=⟨K,(S i).2.next,some (S (i+1)).2.next⟩
  have hKget:∀ b,KH.get b=hAt S f ops.size L b:=i5
  have new_none:∀ b,(S i).2.next<=b->b<(S (i+1)).2.next->hAt S f ops.size L b=none:=fun b h1 h2=>by
   rw[R.agree_h hc ho hi hr (.inr (Li.new b h1 h2))]
   exact R.wf i (by omega) b h1 (Li.fit b h2 h1)
  obtain⟨K',m1,m2,m3,m4⟩:=Li.move KH rfl (fun b h1 h2 t ht=>by
   have:some (S (i+1)).2.next=some t:=ht
   cases this;exact h2) (fun b hb _=>by rw[hKget];exact R.agree_h hc ho hi hr hb)
  have hwfK:KH.wf:=fun b h1 h2=>by
   rw[hKget]
   exact new_none b h1 (h2 _ rfl)
  have hfrK:Fresh μ1 KH:=fun b h1 h2=>by
   have hb2:b<(S (i+1)).2.next:=h2 _ rfl
   have hb1:(S i).2.next<=b:=h1
   rcases i8 b with h3|⟨j,hj,hLj,h3,h4⟩
   .rw[h3]
    refine hf b ?_ ?_
    .have:=R.next_le (Nat.zero_le i) (by omega)
     rw[hS0]at this;omega
    .have:=Li.fit b hb2 hb1
     unfold AH.below at this ⊢
     rw[←hS0,←R.top i (by omega)]
     exact this
   .rcases Nat.lt_trichotomy j i with h5|h5|h5
    .have:=R.next_le (show j+1<=i by omega) (by omega);omega
    .rw[h5,hi]at hLj;cases hLj
    .have:=R.next_le (show i+1<=j by omega) (by omega);omega
  rw[←hcore]at m1
  have key:=coreA_sound hΓ (o:=o) (ops:=ops) i1 (H:=KH) (by
   show HRep μ1 F1 w1 (fun b=>look b K)
   exact i2) hwfK hfrK m1 (wpList P ops (Exit.then (fun a' w'=>RInv ops S f μ F w (fun j=>j == i||L j) a' w') Q) []) (Exit.then (fun a' w'=>RInv ops S f μ F w (fun j=>j == i||L j) a' w') Q) fun u w' hp=>by
    obtain⟨μ2,F2,k1,k2,k3,k4,k5⟩:=Post.toT (dst:=o.dst) i1 hp
    show RInv ops S f μ F w (fun j=>j == i||L j) (a1.put o.dst u) w'
    refine⟨dstSet T1 o.dst (v i),K'.bs,μ2,F2,k1,k2,by rw[dstSet_length,i3],fun d=>?_,fun b=>?_,i6.trans k3,WStep.trans (fun g q hg=>(i6.prot g q hg).1) i7 k4,fun b=>?_⟩
    .rw[R.next_t hc ho hi hr,dstSet_get]
     by_cases hd:o.dst=some d
     .rw[if_pos hd,if_pos hd,R.seq.set i o ho,dstSet_get,if_pos hd,R.len i (by omega),i3]
     .rw[if_neg hd,if_neg hd,i4]
    .rw[R.next_h hc ho hi hr]
     have:=m4 b
     rw[hKget]at this
     exact this
    .by_cases hb:b<(S i).2.next\/(S (i+1)).2.next<=b
     .rw[k5 b (by rw[m2];exact hb)]
      rcases i8 b with h3|⟨j,hj,hLj,h3,h4⟩
      .exact .inl h3
      .exact .inr ⟨j,hj,by simp[hLj],h3,h4⟩
     .exact .inr ⟨i,hin,by simp,by omega,by omega⟩
  exact key
 .intro L a1 w1 hI hall
  obtain⟨T1,K,μ1,F1,i1,i2,i3,i4,i5,i6,i7,i8⟩:=hI
  have hTT:T1=T':=by
   apply List.ext_getElem?
   intro d
   rw[i4,R.all_t hall,hn]
  have hK:(fun b=>look b K)=H'.get:=funext fun b=>by rw[i5,R.all_h hall,hn]
  refine hq a1 w1 ⟨μ1,F1,by rw[←hTT];exact i1,by rw[←hK];exact i2,i6,i7,fun b hb=>?_⟩
  rcases i8 b with h3|⟨j,hj,hLj,h3,h4⟩
  .exact h3
  .have h5:=R.next_le (Nat.zero_le j) (by omega)
   have h6:=R.next_le (show j+1<=ops.size by omega) (Nat.le_refl _)
   rw[hS0]at h5
   rw[hn]at h6
   simp only at h6
   omega
end Go.Proofs.YtpncilciembjdaaGreatDoor
