/- The operations of a regi -/
import Derived.Test.YtlmhajfbpplpoaaGreatMAG
import Derived.WalkKit
set_option linter.all false
open Array renaming all_eq_true_iff_forall_mem->Aw3,getD_eq_getD_getElem?->AwO,getElem?_eq_getElem->AvU,getElem?_eq_some_iff->Awl,getElem?_toList->Axi,length_toList->AwB,mem_toList_iff->Aw8
open Bool renaming false->Θ,true->U,and_eq_true->AvF,false_or->Axs,not_eq_true'->Ayw,or_eq_true->AxU
open List renaming all_eq_true->AvJ,contains_iff_mem->Awy,getElem?_cons_zero->Awm,getElem?_eq_none_iff->Ax8,getElem?_take->Awj,length_cons->ε,length_nil->Av0,map_congr_left->Axr,mem_filter->AxW,mem_range->AxK,range->AyJ
open Nat renaming le_refl->η,le_trans->Awe,lt_or_ge->Av3,lt_trichotomy->AyB,zero_le->Awh
open Option renaming none->Δ,some->V,bind_some->Av7,getD_some->AxR,map_some->AvP
namespace Go.Proofs.YtlmhajfbpplpoaaGreat
open Option.some renaming injEq->ξ
open Go.RowKit
def Cx(T:Ab)(dst:Option Tmp)(v:AV):Ab:=match dst with
 |some d=>T.set d v
 |none=>T
def AS(T:Ab):Operand->AV
 |.tmp t=>(T[t]?).getD AV.undef
 |.const x=>E3 x
 |.global g=>.v (.pointer (V ⟨g,0,Δ⟩))
 |.func f=>.fn (.func f) [] []
def GI(ops:Array Oper)(T:Ab)(j:Nat):Option (Option Bool):=match ((ops[j]?).bind (·.dst)).bind (T[·]?) with
 |some .any=>Δ
 |some (.v (.bool b))=>V (V b)
 |_=>V Δ
def Fv(ops:Array Oper)(o:Oper)(T:Ab):Option Bool:=match o.guard with
 |none=>V U
 |some (j,want)=>match GI ops T j with
  |some y=>V (y == V want)
  |none=>Δ
def coreA(P:Program)(Γ:FuncId->Ab->AM AV)(ops:Array Oper)(o:Oper)(T:Ab):AM AV:=match Fv ops o T with
 |some U=>aop P Γ o (AS T)
 |some Θ=>AM.ret AV.undef
 |none=>AM.fail
def NU(P:Program)(Γ:FuncId->Ab->AM AV)(ops:Array Oper)(o:Oper)(T:Ab)(H:AH):Option (Ab × AH × Foot):=match coreA P Γ ops o T H with
 |some (v,H1,f)=>V (Cx T o.dst v,H1,f)
 |none=>Δ
def Gm(P:Program)(Γ:FuncId->Ab->AM AV)(ops:Array Oper):List Oper->Ab->AH->Option (Ab × AH × List Foot)
 |[],T,H=>V (T,H,[])
 |o::r,T,H=>match NU P Γ ops o T H with
  |none=>Δ
  |some (T1,H1,f)=>match Gm P Γ ops r T1 H1 with
   |none=>Δ
   |some (T2,H2,fs)=>V (T2,H2,f::fs)
def RT(μ:Mu)(F:AQ)(w:World)(T:Ab)(a:Act):Prop:=RepList μ F w T a.tmps.toList/\a.defers=[]
def PostT(μ:Mu)(F:AQ)(w:World)(H:AH)(T':Ab)(H':AH)(a':Act)(w':World):Prop:=
 ∃ μ' F',RT μ' F' w' T' a'/\HRep μ' F' w' H'.get/\Later μ μ' F F' w w'/\WStep F w w'/\∀ b,(b<H.next\/H'.next<=b)->μ' b=μ b
section
variable {P:Program} {Γ:FuncId->Ab->AM AV} {μ μ':Mu} {F F':AQ} {w w':World} {H:AH} {T:Ab} {a:Act}
theorem Ma(hT:RT μ F w T a)(x:Operand):Rep μ F w (AS T x) (a.eval x):=by
 cases x with
 |tmp t=>
  simp only[AS,Act.eval]
  cases e:T[t]? with
  |none=>
   have hl:=hT.1.length;have h1:T.length<=t:=Ax8.1 e;have:a.tmps.getD t Go.undef=Go.undef:=by
    grind
   rw[this];exact Hd _ _ _
  |some x=>
   obtain⟨u,h1,h2⟩:=hT.1.get e;rw[Axi]at h1;rw[AwO,h1];exact h2
 |const v=>exact M6 _ _ _ _
 |global g=>simp only[AS,Act.eval,Rep];exact⟨trivial,rfl⟩
 |func f=>simp only[AS,Act.eval,Rep];exact⟨#[],#[],rfl,by simp only[RepList],by simp only[RepList]⟩
theorem Wa(hT:RT μ F w T a)(hl:Later μ μ' F F' w w'):RT μ' F' w' T a:=⟨hT.1.later' hl,hT.2⟩
theorem Apm(hT:RT μ F w T a){v:AV}{u:Value}(h:Rep μ F w v u)(dst:Option Tmp):RT μ F w (Cx T dst v) (a.put dst u):=by
 cases dst with
 |none=>exact hT
 |some d=>
  refine⟨?_,hT.2⟩;simp only[Cx,Act.put,Array.toList_setIfInBounds];exact hT.1.set h d
theorem Su{ops:Array Oper}{o:Oper}{b:Bool}(hT:RT μ F w T a)(h:Fv ops o T=V b):Region.wanted o (yielded ops a.tmps)=b:=by
 unfold Fv at h;unfold Region.wanted
 cases hg:o.guard with
 |none=>rw[hg]at h;simp only[ξ]at h;exact h
 |some jw=>
  obtain⟨j,want⟩:=jw;rw[hg]at h;simp only at h ⊢;have key:∀ y,GI ops T j=V y->yielded ops a.tmps j=y:=by
   intro y hy;unfold GI at hy;unfold yielded
   cases hd:(ops[j]?).bind (·.dst) with
   |none=>rw[hd]at hy;simp only[Option.bind_none,ξ]at hy ⊢;exact hy
   |some d=>
    rw[hd]at hy;simp only[Av7]at hy ⊢
    cases e:T[d]? with
    |none=>
     rw[e]at hy;have hl:=hT.1.length;have h1:T.length<=d:=Ax8.1 e;rw[Array.getElem?_eq_none (by rw[←AwB];omega)];simp only[ξ]at hy;exact hy
    |some x=>
     rw[e]at hy;obtain⟨u,h1,h2⟩:=hT.1.get e;rw[Axi]at h1;rw[h1]
     cases x with
     |any=>simp at hy
     |v z=>
      simp only[Rep]at h2;rw[h2.1]
      cases z<;>simp only[ξ]at hy<;>exact hy
     |ptr b' q=>simp only[Rep]at h2;obtain⟨p,_,rfl⟩:=h2;simp only[ξ]at hy;exact hy
     |sl b' q n e'=>simp only[Rep]at h2;obtain⟨p,_,⟨_,rfl⟩|⟨q',c,rfl,_⟩⟩:=h2<;>(simp only[ξ]at hy;exact hy)
     |ls xs=>simp only[Rep]at h2;obtain⟨_,A,c,rfl,_⟩:=h2;simp only[ξ]at hy;exact hy
     |lp xs=>simp only[Rep]at h2;obtain⟨_,A,c,rfl,_⟩:=h2;simp only[ξ]at hy;exact hy
     |agg xs=>simp only[Rep]at h2;obtain⟨A,rfl,_⟩:=h2;simp only[ξ]at hy;exact hy
     |tup xs=>simp only[Rep]at h2;obtain⟨A,rfl,_⟩:=h2;simp only[ξ]at hy;exact hy
     |fn f fa fc=>simp only[Rep]at h2;obtain⟨A,B,rfl,_⟩:=h2;simp only[ξ]at hy;exact hy
  cases hy:GI ops T j with
  |none=>rw[hy]at h;cases h
  |some y=>
   rw[hy]at h;simp only[ξ]at h;rw[key y hy,←h]
theorem PostT.refl(hT:RT μ F w T a)(hH:HRep μ F w H.get):PostT μ F w H T H a w:=⟨μ,F,hT,hH,Later.refl _ _ _,WStep.refl _ _,λ_ _=>rfl⟩
theorem Post.toT{dst:Option Tmp}{v:AV}{u:Value}{H':AH}(hT:RT μ F w T a)(h:Post μ F w H v H' u w'):PostT μ F w H (Cx T dst v) H' (a.put dst u) w':=by
 obtain⟨μ',F',h1,h2,h3,h4,h5⟩:=h;exact⟨μ',F',Apm (Wa hT h3) h1 dst,h2,h3,h4,h5⟩
theorem PostT.trans{T1 T2:Ab}{H1 H2:AH}{a1 a2:Act}{w1 w2:World}(hn1:H.next<=H1.next)(hn2:H1.next<=H2.next)(h:PostT μ F w H T1 H1 a1 w1)(k:∀ μ' F',RT μ' F' w1 T1 a1->HRep μ' F' w1 H1.get->(∀ b,(b<H.next\/H1.next<=b)->μ' b=μ b)->PostT μ' F' w1 H1 T2 H2 a2 w2):PostT μ F w H T2 H2 a2 w2:=by
 obtain⟨μ1,F1,h1,h2,h3,h4,h5⟩:=h;obtain⟨μ2,F2,k1,k2,k3,k4,k5⟩:=k μ1 F1 h1 h2 h5;refine⟨μ2,F2,k1,k2,h3.trans k3,WStep.trans (λg o hg=>(h3.prot g o hg).1) h4 k4,λb hb=>?_⟩;rw[k5 b (by omega),h5 b (by omega)]
theorem Ny(hΓ:Hq P Γ){ops:Array Oper}{o:Oper}(hT:RT μ F w T a)(hH:HRep μ F w H.get)(hw:H.wf)(hf:B3 μ H){v:AV}{H':AH}{ft:Foot}(h:coreA P Γ ops o T H=V (v,H',ft))
  (K:Act->World->Prop) (Q:Exit->Act->World->Prop) (hk:∀ u w',Post μ F w H v H' u w'->K (a.put o.dst u) w') :
  if Region.wanted o (yielded ops a.tmps) then o.wp P a w K Q\/(o.asks P a w/\LetsOut Q) else K (a.put o.dst Go.undef) w:=by
 unfold coreA at h;rcases hwt:Fv ops o T with _|_|_<;>rw[hwt]at h
 .exact(At h).elim
 .rw[Su hT hwt]
  obtain⟨rfl,rfl⟩:=Au h;simp only[Bool.false_eq_true,if_false];exact hk _ _ (D5 (Hd _ _ _) hH)
 .rw[Su hT hwt]
  simp only[if_true];exact .inl (AaE hΓ o (AS T) a (λx _=>Ma hT x) hH hw hf v H' ft h K Q hk)
theorem Loc.coreA(hΓ:∀ f args,Loc (Γ f args))(ops:Array Oper)(o:Oper)(T:Ab):Loc (coreA P Γ ops o T):=by
 grind [Go.Proofs.YtlmhajfbpplpoaaGreat.coreA,Loc.aop,Loc.fail,Loc.ret]
theorem K8{ops:Array Oper}{o:Oper}{T':Ab}{H':AH}{ft:Foot}(h:NU P Γ ops o T H=V (T',H',ft)):∃ v,coreA P Γ ops o T H=V (v,H',ft)/\T'=Cx T o.dst v:=by
 unfold NU at h;rcases e:coreA P Γ ops o T H with _|⟨v,H1,f⟩<;>rw[e]at h
 .cases h
 .grind
theorem BW{H':AH}(hf:B3 μ H)(hn:H.next<=H'.next)(ht:H'.top=H.top)(hμ:∀ b,(b<H.next\/H'.next<=b)->μ' b=μ b):B3 μ' H':=λb h1 h2=>by
 rw[hμ b (.inr h1)];refine hf b (by omega) ?_;unfold AH.below at h2 ⊢
 rwa [ht]at h2
end
theorem M9{P:Program}{Γ:FuncId->Ab->AM AV}(hL:∀ f args,Loc (Γ f args)){ops:Array Oper}:∀(l:List Oper) {H:AH} {T:Ab},H.wf->∀{T':Ab} {H':AH} {fs:List Foot},Gm P Γ ops l T H=V (T',H',fs)->H.next<=H'.next/\H'.top=H.top/\H'.wf
 |[],H,T,hw,T',H',fs,h=>by
  simp only[Gm,ξ,Prod.mk.injEq]at h;obtain⟨rfl,rfl,rfl⟩:=h;exact⟨η _,rfl,hw⟩
 |o::r,H,T,hw,T',H',fs,h=>by
  simp only[Gm]at h;rcases e1:NU P Γ ops o T H with _|⟨T1,H1,f⟩<;>rw[e1]at h
  .cases h
  simp only at h;rcases e2:Gm P Γ ops r T1 H1 with _|⟨T2,H2,fs'⟩<;>rw[e2]at h
  .cases h
  simp only[ξ,Prod.mk.injEq]at h;obtain⟨rfl,rfl,rfl⟩:=h;obtain⟨v,e3,e4⟩:=K8 e1;have L1:=Loc.coreA hL ops o T H v H1 f hw e3;obtain⟨a,b,c⟩:=M9 hL r L1.wf e2;exact⟨Awe L1.next a,b.trans L1.top,c⟩
theorem Qh{P:Program}{Γ:FuncId->Ab->AM AV}(hΓ:Hq P Γ)(hL:∀ f args,Loc (Γ f args)){ops:Array Oper}{Q:Exit->Act->World->Prop}:∀(l:List Oper) {μ:Mu} {F:AQ} {w:World} {H:AH} {T:Ab} {a:Act},RT μ F w T a->HRep μ F w H.get->H.wf->B3 μ H->
  ∀{T':Ab} {H':AH} {fs:List Foot},Gm P Γ ops l T H=V (T',H',fs)->(∀ a' w',PostT μ F w H T' H' a' w'->Q .normal a' w')->wpList P ops Q l a w
 |[],μ,F,w,H,T,a,hT,hH,hw,hf,T',H',fs,h,hq=>by
  simp only[Gm,ξ,Prod.mk.injEq]at h;obtain⟨rfl,rfl,rfl⟩:=h;exact hq a w (PostT.refl hT hH)
 |o::r,μ,F,w,H,T,a,hT,hH,hw,hf,T',H',fs,h,hq=>by
  simp only[Gm]at h;rcases e1:NU P Γ ops o T H with _|⟨T1,H1,f⟩<;>rw[e1]at h
  .cases h
  simp only at h;rcases e2:Gm P Γ ops r T1 H1 with _|⟨T2,H2,fs'⟩<;>rw[e2]at h
  .cases h
  simp only[ξ,Prod.mk.injEq]at h;obtain⟨rfl,rfl,rfl⟩:=h;obtain⟨v,e3,e4⟩:=K8 e1;have L1:=Loc.coreA hL ops o T H v H1 f hw e3;obtain⟨n2,_,_⟩:=M9 hL r L1.wf e2;have:=Ny hΓ hT hH hw hf e3 (wpList P ops Q r) Q λu w' hp=>by
   obtain⟨μ',F',k1,k2,k3,k4,k5⟩:=Post.toT (dst:=o.dst) hT hp;rw[←e4]at k1;exact Qh hΓ hL r k1 k2 L1.wf (BW hf L1.next L1.top k5) e2 λa2 w2 hp2=>hq a2 w2 (by
    obtain⟨μ2,F2,j1,j2,j3,j4,j5⟩:=hp2;exact⟨μ2,F2,j1,j2,k3.trans j3,WStep.trans (λg o hg=>(k3.prot g o hg).1) k4 j4,λb hb=>by
     have:=L1.next;rw[j5 b (by omega),k5 b (by omega)]⟩)
  exact this
theorem VK:∀(n:Nat) (s:Al),s.Nodup->(∀ i∈s,i<n)->s.length<=n
 |0,s,_,h=>by
  cases s with
  |nil=>simp
  |cons x r=>exact absurd (h x (by simp)) (by omega)
 |n+1,s,hn,h=>by
  have h1:=VK n (s.erase n) (hn.erase n) λi hi=>by
   have:=h i (List.mem_of_mem_erase hi);have hne:i≠n:=((List.Nodup.mem_erase_iff hn).1 hi).1;omega
  have h2:=List.length_erase (l:=s) (a:=n);split at h2<;>omega
section
variable {P:Program} {ops:Array Oper} {Q:Exit->Act->World->Prop}
theorem WG{i:Nat}{o:Oper}(ho:ops[i]? = V o){K:Act->World->Prop}{a:Act}{w:World}(h:wpList P ops (Exit.then K Q) [o] a w):wpOp P ops Q i K a w:=by
 unfold wpOp;simp only[ho];unfold wpList at h;have hlet:LetsOut (Exit.then K Q)->LetsOut Q:=λ⟨a,w,h⟩=>⟨a,w,h⟩
 split
 .rename_i hw
  rw[Ac hw]at h;rcases h with h|⟨h1,h2⟩
  .left
   unfold Oper.wp at h ⊢;generalize (execOp a.eval o).run P w=r at h ⊢
   cases r with
   |ok n w'=>
    cases n<;>simp only[Oper.upon]at h ⊢ <;>
     first
      |exact h
      |(exact Calls.mono h (λe w'' he=>by cases e<;>first|exact he|exact hlet he))
      |(exact Rows.mono h (λ_ _ he=>he))
   |halt x w'=>cases x<;>simp only[Oper.upon]at h ⊢<;>exact h
  .exact .inr ⟨h1,hlet h2⟩
 .rename_i hw
  rw[Ad hw]at h;exact h
end
theorem AaD{P:Program}{Γ:FuncId->Ab->AM AV}{o:Oper}{ρ ρ':Operand->AV}(h:∀ x∈o.op.operands,ρ x=ρ' x):aop P Γ o ρ=aop P Γ o ρ':=by
 have hg:CQ P o ρ=CQ P o ρ':=by
  unfold CQ;have e1:(o.op.operands.toList.all λx=>(ρ x).toVal.isSome)=(o.op.operands.toList.all λx=>(ρ' x).toVal.isSome):=by
   grind
  rw[e1]
  cases hn:Ci o.op with
  |false=>simp
  |true=>
   have e2:execOp (B8 ρ) o=execOp (B8 ρ') o:=execOp_congr o (λcs b e=>by rw[e]at hn;simp[Ci]at hn) λx hx=>by unfold B8;rw[h x hx]
   rw[e2]
 obtain⟨dst,op,ty,pos,after,guard⟩:=o
 cases op<;>simp only[Op.operands]at h<;>simp only[aop,hg]
 case build t ps=>
  have:(ps.toList.map λp=>(p.1,ρ p.2))=(ps.toList.map λp=>(p.1,ρ' p.2)):=Axr λp hp=>by rw[h p.2 (by simp;exact⟨p.1,by simpa using hp⟩)]
  rw[this]
 case buildSlice t n ps=>
  have:(ps.toList.map λp=>(p.1,ρ p.2))=(ps.toList.map λp=>(p.1,ρ' p.2)):=Axr λp hp=>by rw[h p.2 (by simp;exact⟨p.1,by simpa using hp⟩)]
  rw[this]
 case makeFunc fn fi ca=>
  rw[Axr (l:=fi.toList) λx hx=>h x (by simp[Aw8.1 hx]),Axr (l:=ca.toList) λx hx=>h x (by simp[Aw8.1 hx])]
 case slice t x lo hi mx=>
  rw[h x (by simp)];have e1:lo.map ρ=lo.map ρ':=by cases lo with|none=>rfl|some y=>simp only[AvP];rw[h y (by simp)]
  have e2:hi.map ρ=hi.map ρ':=by cases hi with|none=>rfl|some y=>simp only[AvP];rw[h y (by simp)]
  rw[e1,e2]
 case call c=>
  obtain⟨callee,args,argTypes⟩:=c;have ha:∀ x∈args,ρ x=ρ' x:=λx hx=>h x (by simp[Call.operands,hx])
  have hm:args.toList.map ρ=args.toList.map ρ':=Axr λx hx=>ha x (Aw8.1 hx)
  cases callee with
  |invoke r m=>rfl
  |value f=>simp only;rw[h f (by simp[Call.operands]),hm]
  |builtin b=>
   cases b<;>simp only
   case append=>
    split
    .grind
    .rfl
   case copy=>
    split
    .grind
    .rfl
   case clear=>
    split
    .grind
    .rfl
   case len=>
    split
    .grind
    .rfl
 all_goals (first|rfl | (simp_all;done))
def I4(acc:Al):List Edge->Nat
 |[]=>0
 |e::r=>(if Region.binds .any e=U then 2 ^ e.on ||| (acc[e.on]?).getD 0 else 0) ||| I4 acc r
def JY:List Oper->Al->Al
 |[],acc=>acc
 |o::r,acc=>JY r (acc++[I4 acc o.after.toList])
def Uj(ops:Array Oper):Al:=JY ops.toList []
theorem NL{acc:Al}{k:Nat}:∀{l:List Edge},(I4 acc l).testBit k=U->∃ e∈l,Region.binds .any e=U/\(e.on=k\/((acc[e.on]?).getD 0).testBit k=U)
 |[],h=>by simp[I4]at h
 |e::r,h=>by
  simp only[I4,Nat.testBit_or,AxU]at h;rcases h with h|h
  .grind
  .obtain⟨e',h1,h2⟩:=NL h
   exact⟨e',by simp[h1],h2⟩
theorem OR:∀(r:List Oper) (acc:Al),(JY r acc).take acc.length=acc/\(JY r acc).length=acc.length+r.length ∧
  ∀ i o,r[i]? = V o->(JY r acc)[acc.length+i]? = V (I4 ((JY r acc).take (acc.length+i)) o.after.toList)
 |[],acc=>⟨by simp[JY],by simp[JY],λi o h=>by simp at h⟩
 |o::r,acc=>by
  obtain⟨h1,h2,h3⟩:=OR r (acc++[I4 acc o.after.toList]);simp only[JY];simp only[List.length_append,ε,Av0]at h1 h2 h3;have h0:(JY r (acc++[I4 acc o.after.toList])).take acc.length=acc:=by
   have:=congrArg (List.take acc.length) h1;rw[List.take_take,Nat.min_eq_left (by omega)]at this;rw[this];simp
  refine⟨h0,by simp only[ε];omega,λi o' hi=>?_⟩
  cases i with
  |zero=>
   simp only[Awm,ξ]at hi;subst hi;rw[Nat.add_zero,h0];have:=congrArg (λl=>l[acc.length]?) h1;simp only[Awj]at this;rw[Ac (by omega)]at this;rw[this];simp
  |succ i=>
   have:=h3 i o' (by simpa using hi)
   rwa [show acc.length+(0+1)+i=acc.length+(i+1) by omega]at this
theorem Uk{ops:Array Oper}{j k:Nat}(h:(((Uj ops)[j]?).getD 0).testBit k=U):∃ o,ops[j]? = V o/\∃ e∈o.after,Region.binds .any e=U/\(e.on=k\/(e.on<j/\(((Uj ops)[e.on]?).getD 0).testBit k=U)):=by
 obtain⟨_,h2,h3⟩:=OR ops.toList [];have hj:j<ops.size:=by
  grind [Uj]
 have:=h3 j ops[j] (by simp[hj]);simp only[Av0,Nat.zero_add]at this;unfold Uj at h;rw[this]at h;obtain⟨e,he,hb,hk⟩:=NL (by simpa using h);refine⟨_,AvU hj,e,by simpa using he,hb,?_⟩;rcases hk with hk|hk
 .exact .inl hk
 .rw[Awj]at hk
  split at hk
  .rename_i hlt
   exact .inr ⟨hlt,hk⟩
  .simp at hk
theorem FM{ops:Array Oper}{L:Nat->Bool}(hc:∀ j o,ops[j]? = V o->L j=U->∀ e∈o.after.toList,Region.binds .any e=U->L e.on=U) :
  ∀(j k:Nat),L j=U->(((Uj ops)[j]?).getD 0).testBit k=U->L k=U:=by
 intro j
 induction j using Nat.strongRecOn with
 |_ j ih=>
  intro k hL h;obtain⟨o,ho,e,he,hb,hk⟩:=Uk h;have h1:=hc j o ho hL e (by simpa using he) hb;rcases hk with rfl|⟨hlt,hk⟩
  .exact h1
  .exact ih e.on hlt k h1 hk
theorem Q8{ops:Array Oper}{L:Nat->Bool}(hc:∀ j o,ops[j]? = V o->L j=U->∀ e∈o.after.toList,Region.binds .any e=U->L e.on=U){i:Nat}{o:Oper}(ho:ops[i]? = V o)
  (hr:∀ e∈o.after.toList,Region.binds .any e=U->L e.on=U) {k:Nat} (h:(((Uj ops)[i]?).getD 0).testBit k=U):L k=U:=by
 obtain⟨o',ho',e,he,hb,hk⟩:=Uk h;rw[ho]at ho'
 cases ho'
 have h1:=hr e (by simpa using he) hb;rcases hk with rfl|⟨hlt,hk⟩
 .exact h1
 .exact FM hc e.on k h1 hk
def Foot.clash(f g:Foot):Bool:=f.wr.any (λb=>g.rd.contains b||g.wr.contains b)||g.wr.any (λb=>f.rd.contains b)
def Foot.empty(f:Foot):Bool:=f.rd.isEmpty&&f.wr.isEmpty
def Fe(bf:Al)(fs:List Foot):Bool:=
 let ne:=fs.zipIdx.filter λp=>!p.1.empty
 ne.all λq=>ne.all λp=>!decide (p.2<q.2)||!p.1.clash q.1||((bf[q.2]?).getD 0).testBit p.2
def Qx(ops:Array Oper):Bool:=
 let bf:=Uj ops
 (AyJ ops.size).all λj=>(AyJ j).all λi=>((bf[j]?).getD 0).testBit i||(match ops[i]?,ops[j]? with
  |some x,V y=>x.apart ops y
  |_,_=>U)
theorem UQ{bf:Al}{fs:List Foot}(h:Fe bf fs=U){i j:Nat}{f g:Foot}(hij:i<j)(hi:fs[i]? = V f)(hj:fs[j]? = V g):((bf[j]?).getD 0).testBit i=U ∨
  (∀ b,b∈f.wr->b∉g.rd/\b∉g.wr)/\(∀ b,b∈g.wr->b∉f.rd):=by
 have out:∀{f g:Foot},f.clash g=Θ->(∀ b,b∈f.wr->b∉g.rd/\b∉g.wr)/\(∀ b,b∈g.wr->b∉f.rd):=by
  grind [Foot.clash]
 by_cases he:f.empty=U\/g.empty=U
 .grind [Foot.empty]
 .simp only[not_or,Bool.not_eq_true]at he
  unfold Fe at h;simp only[AvJ]at h;have mem:∀{k:Nat} {x:Foot},fs[k]? = V x->x.empty=Θ->(x,k)∈fs.zipIdx.filter λp=>!p.1.empty:=by
   grind
  have:=h _ (mem hj he.2) _ (mem hi he.1);simp only[AxU,Ayw,decide_eq_false_iff_not]at this;rcases this with (h1|h1) | h1
  .exact absurd hij h1
  .exact .inr (out h1)
  .exact .inl h1
theorem Wv{ops:Array Oper}(h:Qx ops=U){i j:Nat}{x y:Oper}(hij:i<j)(hi:ops[i]? = V x)(hj:ops[j]? = V y):((((Uj ops)[j]?).getD 0).testBit i=U)\/x.apart ops y=U:=by
 unfold Qx at h;simp only[AvJ,AxK]at h;have:=h j (Awl.1 hj).1 i hij;rw[hi,hj]at this;simpa using this
def MA(ops:Array Oper):Bool:=(AyJ ops.size).all λi=>match ops[i]? with|some o=>o.after.all (λe=>!Region.binds .any e||decide (e.on<i)) | none=>U
section
variable {P:Program} {ops:Array Oper} {Q:Exit->Act->World->Prop}
theorem QB{id:Nat}{a:Act}{w:World}(hm:P.follows .mixedOrders=U)(hb:MA ops=U)(I:(Nat->Bool)->Act->World->Prop)(h0:I (λ_=>Θ) a w.drew)
  (step:∀ i o,ops[i]? = V o->∀ L a w,I L a w->L i=Θ->(∀ e∈o.after.toList,Region.binds .any e=U->L e.on=U)->(∀ j o',ops[j]? = V o'->L j=U->∀ e∈o'.after.toList,Region.binds .any e=U->L e.on=U)->wpList P ops (Exit.then (λa' w'=>I (λj=>j == i||L j) a' w') Q) [o] a w)
  (fin:∀ L a w,I L a w->(∀ i,i<ops.size->L i=U)->Q .normal a w):(Code.region id ops U).wp P Q a w:=by
 refine wp_region_any hm ?_
 have key:∀(fuel:Nat) (L:Nat->Bool) (listed:Array Bool) (a:Act) (w:World),listed.size=ops.size->(∀ i,i<ops.size->listed[i]? = V (L i))->I L a w->(∀ j o',ops[j]? = V o'->L j=U->∀ e∈o'.after.toList,Region.binds .any e=U->L e.on=U)->
   (∀ s:Al,s.Nodup->(∀ i∈s,i<ops.size/\L i=Θ)->s.length<=fuel)->wpAny P .any ops Q fuel listed a w:=by
  intro fuel
  have nil:∀(L:Nat->Bool) (listed:Array Bool),listed.size=ops.size->(∀ i,i<ops.size->listed[i]? = V (L i))->Region.ready .any ops listed=[]->∀ n,∀ i,i<n->i<ops.size->L i=U:=by
   intro L listed hs hl hr n
   induction n with
   |zero=>intro i h;omega
   |succ n ih=>
    intro i hin hi;rcases Av3 i n with h|h
    .exact ih i h hi
    .have hin':i=n:=by omega
     subst hin'
     cases hL:L i with
     |true=>rfl
     |false=>
      exfalso
      have:i∈Region.ready .any ops listed:=by
       unfold Region.ready;rw[AxW];refine⟨AxK.2 hi,?_⟩;have h1:listed.getD i U=Θ:=by rw[AwO,hl i hi,hL];rfl
       rw[h1,AvU hi];simp only[Bool.not_false,AvP,AxR,Bool.true_and,Aw3];intro e he;have hbk:=AvJ.1 hb i (AxK.2 hi);rw[AvU hi]at hbk;simp only[Aw3]at hbk;have hlt0:=hbk e he
       cases hbd:Region.binds .any e with
       |false=>rfl
       |true=>
        rw[hbd]at hlt0;have hlt:e.on<i:=by simpa using hlt0
        have h2:listed.getD e.on Θ=U:=by rw[AwO,hl e.on (by omega),ih e.on hlt (by omega)];rfl
        rw[h2];rfl
      rw[hr]at this
      cases this
  induction fuel with
  |zero=>
   intro L listed a w hs hl hI _ hc;have hall:∀ i,i<ops.size->L i=U:=by
    intro i hi
    cases hL:L i with
    |true=>rfl
    |false=>exact absurd (hc [i] (by simp) (by simp[hi,hL])) (by simp)
   refine⟨?_,fin L a w hI hall⟩;unfold Region.ready;rw[List.filter_eq_nil_iff];intro i hi;have hi':=AxK.1 hi;have h1:listed.getD i U=U:=by rw[AwO,hl i hi',hall i hi'];rfl
   simp[h1]
  |succ fuel ih=>
   intro L listed a w hs hl hI hcl hc;refine⟨λhr=>fin L a w hI (λi hi=>nil L listed hs hl hr (i+1) i (by omega) hi),λi hi=>?_⟩;unfold Region.ready at hi;rw[AxW]at hi;obtain⟨hi1,hi2⟩:=hi;have hi':=AxK.1 hi1;simp only[AvF,Ayw,AvU hi',AvP,AxR,Aw3]at hi2;obtain⟨hn,he⟩:=hi2;have hLi:L i=Θ:=by
    rw[AwO,hl i hi']at hn;exact hn
   have hpre:∀ e∈(ops[i]'hi').after.toList,Region.binds .any e=U->L e.on=U:=by
    intro e he' hbd;have:=he e (by simpa using he');have hbk:=AvJ.1 hb i hi1;rw[AvU hi']at hbk;simp only[Aw3]at hbk;have hlt0:=hbk e (by simpa using he');rw[hbd]at hlt0;have hlt:e.on<i:=by simpa using hlt0
    rw[hbd]at this;simp only[Bool.not_true,Axs]at this;rw[AwO,hl e.on (by omega)]at this;exact this
   refine wpOp_mono (K:=λa' w'=>I (λj=>j == i||L j) a' w') (λa' w' hI'=>ih (λj=>j == i||L j) _ a' w' (by simpa using hs) (λj hj=>?_) hI' (λj o' ho' hj e he' hbd=>?_) (λs hnd hs'=>?_)) (WG (AvU hi') (step i _ (AvU hi') L a w hI hLi hpre hcl))
   .rw[Array.getElem?_setIfInBounds]
    by_cases hji:i=j
    .subst hji;simp[hs,hi']
    .have hne:(j == i)=Θ:=by simp;omega
     rw[Ad hji,hl j hj,hne];rfl
   .by_cases hji:j=i
    .subst hji
     rw[AvU hi']at ho'
     cases ho'
     rw[hpre e he' hbd];simp
    .have hne:(j == i)=Θ:=by simpa using hji
     simp only[hne,Axs]at hj;rw[hcl j o' ho' hj e he' hbd];simp
   .have hns:i∉s:=λh=>by have:=(hs' i h).2;simp at this
    have:=hc (i::s) (List.nodup_cons.2 ⟨hns,hnd⟩) (λj hj=>by
     rcases List.mem_cons.1 hj with rfl|hj
     .exact⟨hi',hLi⟩
     .have h2:=(hs' j hj).2
      simp only[Bool.or_eq_false_iff]at h2;exact⟨(hs' j hj).1,h2.2⟩)
    simp at this;omega
 refine key ops.size (λ_=>Θ) _ a w.drew (by simp) (λi hi=>by simp[hi]) h0 (λj o' _ hj=>by simp at hj) (λs hnd hs=>?_);exact VK _ s hnd λi hi=>(hs i hi).1
end
def D4(p:Nat->Bool):Nat->Option Nat
 |0=>Δ
 |n+1=>if p n=U then V n else D4 p n
theorem DD{p:Nat->Bool}:∀{n k:Nat},D4 p n=V k->k<n/\p k=U/\∀ m,k<m->m<n->p m=Θ
 |0,k,h=>by simp[D4]at h
 |n+1,k,h=>by
  simp only[D4]at h;split at h
  .grind
  .rename_i hn
   obtain⟨h1,h2,h3⟩:=DD h;refine⟨by omega,h2,λm h4 h5=>?_⟩;rcases Av3 m n with h6|h6
   .exact h3 m h4 h6
   .grind
theorem EJ{p:Nat->Bool}:∀{n:Nat},D4 p n=Δ->∀ m,m<n->p m=Θ
 |0,_,m,h=>by omega
 |n+1,h,m,hm=>by
  simp only[D4]at h;split at h
  .cases h
  .rename_i hn
   rcases Av3 m n with h6|h6
   .exact EJ h m h6
   .grind
theorem Vr{p:Nat->Bool}{n k:Nat}(hk:k<n)(hp:p k=U)(hm:∀ m,k<m->m<n->p m=Θ):D4 p n=V k:=by
 cases e:D4 p n with
 |none=>rw[EJ e k hk]at hp;cases hp
 |some j=>
  obtain⟨h1,h2,h3⟩:=DD e;rcases AyB j k with h|h|h
  .grind
  .rw[h]
  .grind
structure Seq (P:Program) (Γ:FuncId->Ab->AM AV) (ops:Array Oper) (S:Nat->Ab × AH) (v:Nat->AV) (f:Nat->Foot):Prop where
 core:∀ i o,ops[i]? = V o->coreA P Γ ops o (S i).1 (S i).2=V (v i,(S (i+1)).2,f i)
 set:∀ i o,ops[i]? = V o->(S (i+1)).1=Cx (S i).1 o.dst (v i)
theorem Wc{P:Program}{Γ:FuncId->Ab->AM AV}{ops:Array Oper}:∀(l:List Oper) {T T':Ab} {H H':AH} {fs:List Foot},Gm P Γ ops l T H=V (T',H',fs)->
  ∃(S:Nat->Ab × AH) (v:Nat->AV),S 0=(T,H)/\S l.length=(T',H')/\fs.length=l.length/\∀ i o,l[i]? = V o->∃ f,fs[i]? = V f/\coreA P Γ ops o (S i).1 (S i).2=V (v i,(S (i+1)).2,f)/\(S (i+1)).1=Cx (S i).1 o.dst (v i)
 |[],T,T',H,H',fs,h=>by
  simp only[Gm,ξ,Prod.mk.injEq]at h;obtain⟨rfl,rfl,rfl⟩:=h;exact⟨λ_=>(T,H),λ_=>AV.undef,rfl,rfl,rfl,λi o h=>by simp at h⟩
 |o::r,T,T',H,H',fs,h=>by
  simp only[Gm]at h;rcases e1:NU P Γ ops o T H with _|⟨T1,H1,f⟩<;>rw[e1]at h
  .cases h
  simp only at h;rcases e2:Gm P Γ ops r T1 H1 with _|⟨T2,H2,fs'⟩<;>rw[e2]at h
  .cases h
  simp only[ξ,Prod.mk.injEq]at h;obtain⟨rfl,rfl,rfl⟩:=h;obtain⟨x,e3,e4⟩:=K8 e1;obtain⟨S,v,h0,hn,hl,hs⟩:=Wc r e2;refine⟨λi=>match i with|0=>(T,H) | i+1=>S i,λi=>match i with|0=>x|i+1=>v i,rfl,hn,by simp[hl],λi o' ho=>?_⟩
  cases i with
  |zero=>
   simp only[Awm,ξ]at ho;subst ho;refine⟨f,rfl,?_,?_⟩
   .simp only[h0];exact e3
   .simp only[h0];exact e4
  |succ i=>
   obtain⟨g,g1,g2,g3⟩:=hs i o' (by simpa using ho);exact⟨g,by simpa using g1,g2,g3⟩
theorem GL(T:Ab)(dst:Option Tmp)(v:AV):(Cx T dst v).length=T.length:=by cases dst<;>simp[Cx]
theorem KB(T:Ab)(dst:Option Tmp)(v:AV)(d:Nat):(Cx T dst v)[d]? = if dst=V d then(if d<T.length then V v else Δ) else T[d]?:=by
 cases dst with
 |none=>simp[Cx]
 |some e=>
  simp only[Cx,List.getElem?_set,ξ]
  by_cases h:e=d
  .subst h;simp
  .simp[h]
theorem Abq{ops:Array Oper}{o:Oper}{x:Operand}(hx:x∈o.op.operands){t:Tmp}(h:x=.tmp t):t∈o.looksAt ops:=by
 subst h;exact List.mem_append_left _ (List.mem_filterMap.2 ⟨.tmp t,by simpa using hx,rfl⟩)
theorem Ux{P:Program}{Γ:FuncId->Ab->AM AV}{ops:Array Oper}{o:Oper}{T T':Ab}(h:∀ d∈o.looksAt ops,T[d]? = T'[d]?):coreA P Γ ops o T=coreA P Γ ops o T':=by
 have hw:Fv ops o T=Fv ops o T':=by
  unfold Fv
  cases hg:o.guard with
  |none=>rfl
  |some jw=>
   obtain⟨j,want⟩:=jw;have:GI ops T j=GI ops T' j:=by
    unfold GI
    cases hd:(ops[j]?).bind (·.dst) with
    |none=>rfl
    |some d=>
     simp only[Av7];rw[h d (by unfold Oper.looksAt;rw[hg];exact List.mem_append_right _ (by simp[hd]))]
   simp only[this]
 unfold coreA;rw[hw];have ho:aop P Γ o (AS T)=aop P Γ o (AS T'):=AaD λx hx=>by
  cases x with
  |tmp t=>simp only[AS];rw[h t (Abq hx rfl)]
  |_=>rfl
 rw[ho]
section
variable {P:Program} {Γ:FuncId->Ab->AM AV} {ops:Array Oper} {S:Nat->Ab × AH} {v:Nat->AV} {f:Nat->Foot}
def hAt(S:Nat->Ab × AH)(f:Nat->Foot)(n:Nat)(L:Nat->Bool)(b:Nat):Option ABlk:=match D4 (λi=>L i&&(f i).wr.contains b) n with
 |some i=>(S (i+1)).2.get b
 |none=>(S 0).2.get b
def tAt(ops:Array Oper)(S:Nat->Ab × AH)(n:Nat)(L:Nat->Bool)(d:Nat):Option AV:=match D4 (λi=>L i&&decide ((ops[i]?).bind (·.dst)=V d)) n with
 |some i=>(S (i+1)).1[d]?
 |none=>(S 0).1[d]?
structure Reg (P:Program) (Γ:FuncId->Ab->AM AV) (ops:Array Oper) (S:Nat->Ab × AH) (v:Nat->AV) (f:Nat->Foot):Prop where
 seq:Seq P Γ ops S v f
 loc:∀ i o,ops[i]? = V o->LocAt (coreA P Γ ops o (S i).1) (S i).2 (v i) (S (i+1)).2 (f i)
 wf0:(S 0).2.wf
 heap:∀ i j,i<j->j<ops.size->((((Uj ops)[j]?).getD 0).testBit i=U)\/(∀ b,b∈(f i).wr->b∉(f j).rd/\b∉(f j).wr)/\(∀ b,b∈(f j).wr->b∉(f i).rd)
 tmps:∀ i j x y,i<j->ops[i]? = V x->ops[j]? = V y->((((Uj ops)[j]?).getD 0).testBit i=U)\/x.apart ops y=U
variable (R:Reg P Γ ops S v f)
include R
theorem Reg.wf:∀ i,i<=ops.size->(S i).2.wf
 |0,_=>R.wf0
 |i+1,h=>(R.loc i ops[i] (AvU (by omega))).wf
theorem Reg.next_le:∀{j i:Nat},i<=j->j<=ops.size->(S i).2.next<=(S j).2.next
 | 0, i, h, _ => by have:i=0:=by omega
                    subst this;exact η _
 |j+1,i,h,hj=>by
  rcases Av3 i (j+1) with h1|h1
  .exact Awe (Reg.next_le (by omega) (by omega)) (R.loc j ops[j] (AvU (by omega))).next
  .grind
theorem Reg.top:∀ i,i<=ops.size->(S i).2.top=(S 0).2.top
 |0,_=>rfl
 |i+1,h=>(R.loc i ops[i] (AvU (by omega))).top.trans (Reg.top i (by omega))
theorem Reg.same_h{b:Nat}:∀{j i:Nat},i<=j->j<=ops.size->(∀ m,i<=m->m<j->b∉(f m).wr)->(S j).2.get b=(S i).2.get b
 | 0, i, h, _, _ => by have:i=0:=by omega
                       subst this;rfl
 |j+1,i,h,hj,hm=>by
  rcases Av3 i (j+1) with h1|h1
  .rw[(R.loc j ops[j] (AvU (by omega))).same b (hm j (by omega) (by omega))]
   exact Reg.same_h (by omega) (by omega) λm h2 h3=>hm m h2 (by omega)
  .grind
theorem Reg.same_t{d:Nat}:∀{j i:Nat},i<=j->j<=ops.size->(∀ m,i<=m->m<j->(ops[m]?).bind (·.dst)≠V d)->(S j).1[d]? = (S i).1[d]?
 | 0, i, h, _, _ => by have:i=0:=by omega
                       subst this;rfl
 |j+1,i,h,hj,hm=>by
  rcases Av3 i (j+1) with h1|h1
  .have ho:=AvU (show j<ops.size by omega)
   have:=hm j (by omega) (by omega);rw[ho]at this;rw[R.seq.set j _ ho,KB,Ad (by simpa using this)];exact Reg.same_t (by omega) (by omega) λm h2 h3=>hm m h2 (by omega)
  .grind
theorem Reg.len:∀ i,i<=ops.size->(S i).1.length=(S 0).1.length
 |0,_=>rfl
 |i+1,h=>by rw[R.seq.set i _ (AvU (show i<ops.size by omega)),GL];exact Reg.len i (by omega)
section
variable {L:Nat->Bool} {i:Nat} {o:Oper} (hc:∀ j o,ops[j]? = V o->L j=U->∀ e∈o.after.toList,Region.binds .any e=U->L e.on=U) (ho:ops[i]? = V o)
 (hi:L i=Θ) (hr:∀ e∈o.after.toList,Region.binds .any e=U->L e.on=U)
include hc ho hi hr
theorem Reg.agree_h{b:Nat}(hb:b∈(f i).rd\/b∈(f i).wr):hAt S f ops.size L b=(S i).2.get b:=by
 have hin:i<ops.size:=(Awl.1 ho).1;have ahead:∀ m,m<i->b∈(f m).wr->L m=U:=λm hm hbm=>by
  rcases R.heap m i hm hin with h|⟨h,_⟩
  .exact Q8 hc ho hr h
  .grind
 have behind:∀ m,i<m->m<ops.size->L m=U->b∉(f m).wr:=λm hm hmn hL hbm=>by
  rcases R.heap i m hm hmn with h|⟨h1,h2⟩
  .have:=FM hc m i hL h
   rw[hi]at this;cases this
  .grind
 unfold hAt
 cases e:D4 (λi=>L i&&(f i).wr.contains b) ops.size with
 |none=>
  have hn:=EJ e;refine(R.same_h (Awh _) (by omega) λm _ hm hbm=>?_).symm;have:=hn m (by omega);rw[ahead m hm hbm,Awy.2 hbm]at this
  cases this
 |some k=>
  obtain⟨h1,h2,h3⟩:=DD e;simp only[AvF,Awy]at h2;have hki:k<i:=by
   grind
  simp only;refine(R.same_h (by omega) (by omega) λm hm1 hm2 hbm=>?_).symm;have:=h3 m (by omega) (by omega);rw[ahead m hm2 hbm,Awy.2 hbm]at this
  cases this
theorem Reg.agree_t{d:Nat}(hd:d∈o.looksAt ops):tAt ops S ops.size L d=(S i).1[d]?:=by
 have hin:i<ops.size:=(Awl.1 ho).1;have ahead:∀ m,m<i->(ops[m]?).bind (·.dst)=V d->L m=U:=λm hm hdm=>by
  have hom:=AvU (show m<ops.size by omega);rw[hom]at hdm;rcases R.tmps m i _ _ hm hom ho with h|h
  .exact Q8 hc ho hr h
  .grind [Oper.apart_spec]
 have behind:∀ m,i<m->m<ops.size->L m=U->(ops[m]?).bind (·.dst)≠V d:=λm hm hmn hL hdm=>by
  have hom:=AvU hmn;rw[hom]at hdm;rcases R.tmps i m _ _ hm ho hom with h|h
  .have:=FM hc m i hL h
   rw[hi]at this;cases this
  .grind [Oper.apart_spec]
 unfold tAt
 cases e:D4 (λi=>L i&&decide ((ops[i]?).bind (·.dst)=V d)) ops.size with
 |none=>
  have hn:=EJ e;refine(R.same_t (Awh _) (by omega) λm _ hm hdm=>?_).symm;have:=hn m (by omega);rw[ahead m hm hdm,Ba hdm]at this
  cases this
 |some k=>
  obtain⟨h1,h2,h3⟩:=DD e;simp only[AvF,decide_eq_true_eq]at h2;have hki:k<i:=by
   grind
  simp only;refine(R.same_t (by omega) (by omega) λm hm1 hm2 hdm=>?_).symm;have:=h3 m (by omega) (by omega);rw[ahead m hm2 hdm,Ba hdm]at this
  cases this
theorem Reg.next_h(b:Nat):hAt S f ops.size (λj=>j == i||L j) b=if b∈(f i).wr then(S (i+1)).2.get b else hAt S f ops.size L b:=by
 have hin:i<ops.size:=(Awl.1 ho).1
 by_cases hb:b∈(f i).wr
 .rw[Ac hb]
  unfold hAt;rw[Vr (k:=i) hin (by simp[hb]) λm hm hmn=>by
   cases hL:L m with
   |false=>
    have:(m == i)=Θ:=by simp;omega
    simp[this,hL]
   |true=>
    have hbm:b∉(f m).wr:=λhbm=>by
     rcases R.heap i m hm hmn with h|⟨h1,h2⟩
     .have:=FM hc m i hL h
      rw[hi]at this;cases this
     .exact(h1 b hb).2 hbm
    simp[hbm]]
 .grind [hAt,D4]
theorem Reg.next_t(d:Nat):tAt ops S ops.size (λj=>j == i||L j) d=if o.dst=V d then(S (i+1)).1[d]? else tAt ops S ops.size L d:=by
 have hin:i<ops.size:=(Awl.1 ho).1
 by_cases hd:o.dst=V d
 .rw[Ac hd]
  unfold tAt;rw[Vr (k:=i) hin (by simp[ho,hd]) λm hm hmn=>by
   cases hL:L m with
   |false=>
    have:(m == i)=Θ:=by simp;omega
    simp[this,hL]
   |true=>
    have hdm:(ops[m]?).bind (·.dst)≠V d:=λhdm=>by
     have hom:=AvU hmn;rw[hom]at hdm;rcases R.tmps i m _ _ hm ho hom with h|h
     .have:=FM hc m i hL h
      rw[hi]at this;cases this
     .grind [Oper.apart_spec]
    simp[hdm]]
 .grind [bind,decide,D4,tAt]
end
theorem Reg.all_h{L:Nat->Bool}(hL:∀ i,i<ops.size->L i=U)(b:Nat):hAt S f ops.size L b=(S ops.size).2.get b:=by
 unfold hAt
 cases e:D4 (λi=>L i&&(f i).wr.contains b) ops.size with
 |none=>
  have hn:=EJ e;refine(R.same_h (Awh _) (η _) λm _ hm hbm=>?_).symm;have:=hn m hm;rw[hL m hm,Awy.2 hbm]at this
  cases this
 |some k=>
  obtain⟨h1,h2,h3⟩:=DD e;refine(R.same_h (by omega) (η _) λm hm1 hm hbm=>?_).symm;have:=h3 m (by omega) hm;rw[hL m hm,Awy.2 hbm]at this
  cases this
theorem Reg.all_t{L:Nat->Bool}(hL:∀ i,i<ops.size->L i=U)(d:Nat):tAt ops S ops.size L d=(S ops.size).1[d]?:=by
 unfold tAt
 cases e:D4 (λi=>L i&&decide ((ops[i]?).bind (·.dst)=V d)) ops.size with
 |none=>
  have hn:=EJ e;refine(R.same_t (Awh _) (η _) λm _ hm hdm=>?_).symm;have:=hn m hm;rw[hL m hm,Ba hdm]at this
  cases this
 |some k=>
  obtain⟨h1,h2,h3⟩:=DD e;refine(R.same_t (by omega) (η _) λm hm1 hm hdm=>?_).symm;have:=h3 m (by omega) hm;rw[hL m hm,Ba hdm]at this
  cases this
end
def AhG(ops:Array Oper)(S:Nat->Ab × AH)(f:Nat->Foot)(μ:Mu)(F:AQ)(w0:World)(L:Nat->Bool)(a:Act)(w:World):Prop:=
 ∃(T:Ab) (K:List (Nat × ABlk)) (μ':Mu) (F':AQ),RT μ' F' w T a/\HRep μ' F' w (λb=>look b K)/\T.length=(S 0).1.length/\(∀ d,T[d]? = tAt ops S ops.size L d)/\(∀ b,look b K=hAt S f ops.size L b) ∧
  Later μ μ' F F' w0 w/\WStep F w0 w/\∀ b,μ' b=μ b\/∃ i,i<ops.size/\L i=U/\(S i).2.next<=b/\b<(S (i+1)).2.next
theorem Apb{P:Program}{Γ:FuncId->Ab->AM AV}(hL:∀ f args,Loc (Γ f args)){ops:Array Oper}{T T':Ab}{H H':AH}{fs:List Foot}(hw:H.wf)(ht:Qx ops=U)(hh:Fe (Uj ops) fs=U)
  (h:Gm P Γ ops ops.toList T H=V (T',H',fs)):∃ S v f,S 0=(T,H)/\S ops.size=(T',H')/\Reg P Γ ops S v f:=by
 obtain⟨S,v,h0,hn,hl,hs⟩:=Wc ops.toList h;rw[AwB]at hn hl
 let f:Nat->Foot:=λi=>(fs[i]?).getD ⟨[],[]⟩
 have hf:∀ i o,ops[i]? = V o->fs[i]? = V (f i)/\coreA P Γ ops o (S i).1 (S i).2=V (v i,(S (i+1)).2,f i)/\(S (i+1)).1=Cx (S i).1 o.dst (v i):=by
  intro i o ho;obtain⟨g,g1,g2,g3⟩:=hs i o (by simpa using ho);have:f i=g:=by show (fs[i]?).getD _=g;rw[g1];rfl
  rw[this];exact⟨g1,g2,g3⟩
 have wfs:∀ i,i<=ops.size->(S i).2.wf:=by
  intro i
  induction i with
  |zero=>intro _;rw[h0];exact hw
  |succ i ih=>
   intro hi;obtain⟨_,g2,_⟩:=hf i ops[i] (AvU (by omega));exact(Loc.coreA hL ops ops[i] (S i).1 (S i).2 (v i) (S (i+1)).2 (f i) (ih (by omega)) g2).wf
 refine⟨S,v,f,h0,hn,⟨λi o ho=>(hf i o ho).2.1,λi o ho=>(hf i o ho).2.2⟩,λi o ho=>?_,wfs 0 (Awh _),λi j hij hj=>?_,λi j x y hij hx hy=>Wv ht hij hx hy⟩
 .have hi:i<ops.size:=(Awl.1 ho).1
  exact Loc.coreA hL ops o (S i).1 (S i).2 (v i) (S (i+1)).2 (f i) (wfs i (by omega)) (hf i o ho).2.1
 .grind [UQ]
theorem L8{P:Program}{Γ:FuncId->Ab->AM AV}(hm:P.follows .mixedOrders=U)(hΓ:Hq P Γ)(hL:∀ f args,Loc (Γ f args)){id:Nat}{ops:Array Oper}{Q:Exit->Act->World->Prop}{μ:Mu}{F:AQ}{w:World}{H:AH}{T:Ab}{a:Act}
  (hT:RT μ F w T a) (hH:HRep μ F w H.get) (hw:H.wf) (hf:B3 μ H) (hbk:MA ops=U) (ht:Qx ops=U) {T':Ab} {H':AH} {fs:List Foot} (h:Gm P Γ ops ops.toList T H=V (T',H',fs)) (hh:Fe (Uj ops) fs=U)
  (hq:∀ a' w',PostT μ F w H T' H' a' w'->Q .normal a' w'):(Code.region id ops U).wp P Q a w:=by
 obtain⟨S,v,f,h0,hn,R⟩:=Apb hL hw ht hh h;have hS0:(S 0).2=H:=by rw[h0]
 have hT0:(S 0).1=T:=by rw[h0]
 refine QB hm hbk (AhG ops S f μ F w) ?_ ?_ ?_
 .obtain⟨d1,d2,d3⟩:=hH.drew
  refine⟨T,H.bs,μ,F,Wa hT d2,d1,by rw[hT0],λd=>?_,λb=>?_,d2,d3,λb=>.inl rfl⟩
  .unfold tAt
   rw[show D4 (λi=>Θ&&decide ((ops[i]?).bind (·.dst)=V d)) ops.size=Δ from by
    cases e:D4 (λi=>Θ&&decide ((ops[i]?).bind (·.dst)=V d)) ops.size with
    |none=>rfl
    |some k=>have:=(DD e).2.1;simp at this]
   simp only[hT0]
  .unfold hAt
   rw[show D4 (λi=>Θ&&(f i).wr.contains b) ops.size=Δ from by
    cases e:D4 (λi=>Θ&&(f i).wr.contains b) ops.size with
    |none=>rfl
    |some k=>have:=(DD e).2.1;simp at this]
   simp only[hS0];rfl
 .intro i o ho L a1 w1 hI hi hr hc
  have hin:i<ops.size:=(Awl.1 ho).1;obtain⟨T1,K,μ1,F1,i1,i2,i3,i4,i5,i6,i7,i8⟩:=hI;have Li:=R.loc i o ho;have hnn:=Li.next;have hcore:coreA P Γ ops o T1=coreA P Γ ops o (S i).1:=Ux λd hd=>by rw[i4 d];exact R.agree_t hc ho hi hr hd
  let KH:AH:=⟨K,(S i).2.next,V (S (i+1)).2.next⟩
  have hKget:∀ b,KH.get b=hAt S f ops.size L b:=i5;have new_none:∀ b,(S i).2.next<=b->b<(S (i+1)).2.next->hAt S f ops.size L b=Δ:=λb h1 h2=>by
   rw[R.agree_h hc ho hi hr (.inr (Li.new b h1 h2))];exact R.wf i (by omega) b h1 (Li.fit b h2 h1)
  obtain⟨K',m1,m2,m3,m4⟩:=Li.move KH rfl (λb h1 h2 t ht=>by
   have:V (S (i+1)).2.next=V t:=ht
   cases this;exact h2) (λb hb _=>by rw[hKget];exact R.agree_h hc ho hi hr hb)
  have hwfK:KH.wf:=λb h1 h2=>by
   rw[hKget];exact new_none b h1 (h2 _ rfl)
  have hfrK:B3 μ1 KH:=λb h1 h2=>by
   have hb2:b<(S (i+1)).2.next:=h2 _ rfl;have hb1:(S i).2.next<=b:=h1;rcases i8 b with h3|⟨j,hj,hLj,h3,h4⟩
   .rw[h3]
    refine hf b ?_ ?_
    .have:=R.next_le (Awh i) (by omega)
     rw[hS0]at this;omega
    .have:=Li.fit b hb2 hb1
     unfold AH.below at this ⊢;rw[←hS0,←R.top i (by omega)];exact this
   .rcases AyB j i with h5|h5|h5
    .have:=R.next_le (show j+1<=i by omega) (by omega);omega
    .grind
    .have:=R.next_le (show i+1<=j by omega) (by omega);omega
  rw[←hcore]at m1;have key:=Ny hΓ (o:=o) (ops:=ops) i1 (H:=KH) (by
   show HRep μ1 F1 w1 (λb=>look b K)
   exact i2) hwfK hfrK m1 (wpList P ops (Exit.then (λa' w'=>AhG ops S f μ F w (λj=>j == i||L j) a' w') Q) []) (Exit.then (λa' w'=>AhG ops S f μ F w (λj=>j == i||L j) a' w') Q) λu w' hp=>by
    obtain⟨μ2,F2,k1,k2,k3,k4,k5⟩:=Post.toT (dst:=o.dst) i1 hp
    show AhG ops S f μ F w (λj=>j == i||L j) (a1.put o.dst u) w'
    refine⟨Cx T1 o.dst (v i),K'.bs,μ2,F2,k1,k2,by rw[GL,i3],λd=>?_,λb=>?_,i6.trans k3,WStep.trans (λg q hg=>(i6.prot g q hg).1) i7 k4,λb=>?_⟩
    .rw[R.next_t hc ho hi hr,KB]
     by_cases hd:o.dst=V d
     .rw[Ac hd,Ac hd,R.seq.set i o ho,KB,Ac hd,R.len i (by omega),i3]
     .grind
    .rw[R.next_h hc ho hi hr]
     have:=m4 b;rw[hKget]at this;exact this
    .grind
  exact key
 .intro L a1 w1 hI hall
  obtain⟨T1,K,μ1,F1,i1,i2,i3,i4,i5,i6,i7,i8⟩:=hI;have hTT:T1=T':=by
   apply List.ext_getElem?;intro d;rw[i4,R.all_t hall,hn]
  have hK:(λb=>look b K)=H'.get:=funext λb=>by rw[i5,R.all_h hall,hn]
  refine hq a1 w1 ⟨μ1,F1,by rw[←hTT];exact i1,by rw[←hK];exact i2,i6,i7,λb hb=>?_⟩;rcases i8 b with h3|⟨j,hj,hLj,h3,h4⟩
  .exact h3
  .have h5:=R.next_le (Awh j) (by omega)
   have h6:=R.next_le (show j+1<=ops.size by omega) (η _);rw[hS0]at h5;rw[hn]at h6;simp only at h6;omega
