/-
  The limit of what can be asked: functions and loops by their code, as equations in plain Lean. No program in sight.
  The same run with what comes behind in hand: where it hangs on something unknown, that stands outermost. No program in sight.
  What the run with what comes behind in hand finds, the plain run finds. No program in sight.
  A seat's resolved code out of its program; what it is to know some functions. No program in sight.
  A contract of the world as an answer of D: functions that hand back what is new. No program in sight.
  Runs of nodes as one: what takes an answer, or a row of cells, apart. No program in sight.
  The nodes of a tree, over what is known. No program in sight.
  Rows of cells that stand for lists. No program in sight.
-/
import Derived.Test.YtpncilciembjdaaGreatDoorAAJ
set_option linter.unusedSectionVars false
set_option linter.unusedSimpArgs false
set_option linter.unusedVariables false
namespace Go.Proofs.YtpncilciembjdaaGreatDoor
open Go.RowKit

structure Seat where
 fns:Nat->Option MFn
 own:List (Nat × Nat)
 ext:Nat->Option DF
def stepD(A:Ar)(M:Seat)(D:Orc):Orc:=.mk fun k args bs=>match k with
 |.fn f=>(match M.ext f with
  |some d=>d args bs
  |none=>(match M.fns f with
   |some mf=>gcD (runD (fnM A D M.own f mf)) args bs
   |none=>none))
 |.lp f i=>(match M.fns f with
  |some mf=>(match mf.loops[i]? with
   |some lc=>gcD (runD (lpM A D M.own f i lc.1 lc.2)) args bs
   |none=>none)
  |none=>none)
def Dn(A:Ar)(M:Seat):Nat->Orc
 |0=>.no
 |n+1=>stepD A M (Dn A M n)
open Classical in
noncomputable def Dstar(A:Ar)(M:Seat):Orc:=.mk fun k args bs=>if h:∃ r n,∀ m,n<=m->(Dn A M m).ask k args bs=some r then some h.choose else none
section
variable {A:Ar} {M:Seat}
theorem star_some{k:Key}{args:List AV}{bs:List ABlk}{r:AV × List BO}(h:(Dstar A M).ask k args bs=some r):∃ n,∀ m,n<=m->(Dn A M m).ask k args bs=some r:=by
 unfold Dstar Orc.ask at h
 simp only at h
 split at h
 .rename_i hx
  simp only[Option.some.injEq]at h
  rw[←h]
  exact hx.choose_spec
 .cases h
open Classical in
theorem star_of{k:Key}{args:List AV}{bs:List ABlk}{r:AV × List BO}{n:Nat}(h:∀ m,n<=m->(Dn A M m).ask k args bs=some r):(Dstar A M).ask k args bs=some r:=by
 have hx:∃ r n,∀ m,n<=m->(Dn A M m).ask k args bs=some r:=⟨r,n,h⟩
 have:(Dstar A M).ask k args bs=some hx.choose:=by
  unfold Dstar
  show (if h:∃ r n,∀ m,n<=m->(Dn A M m).ask k args bs=some r then some h.choose else none)=_
  rw[dif_pos hx]
 rw[this]
 obtain⟨n',h'⟩:=hx.choose_spec
 have e1:=h' (max n n') (Nat.le_max_right _ _)
 have e2:=h (max n n') (Nat.le_max_left _ _)
 rw[e1]at e2
 exact e2
def Ev{β:Type}(A:Ar)(M:Seat)(g:Orc->Option β):Prop:=∀ r,g (Dstar A M)=some r->∃ n,∀ m,n<=m->g (Dn A M m)=some r
def EvM{α:Type}(A:Ar)(M:Seat)(g:Orc->AM α):Prop:=∀ H,Ev A M fun D=>g D H
theorem EvM.const{α:Type}(x:AM α):EvM A M fun _=>x:=fun _ _ h=>⟨0,fun _ _=>h⟩
theorem EvM.bind{α β:Type}{x:Orc->AM α}{f:Orc->α->AM β}(hx:EvM A M x)(hf:∀ a,EvM A M fun D=>f D a):EvM A M fun D=>(x D).bind (f D):=fun H r h=>by
 simp only[AM.bind]at h ⊢
 cases e1:x (Dstar A M) H with
 |none=>rw[e1]at h;cases h
 |some q=>
  obtain⟨a,H1,f1⟩:=q
  rw[e1]at h
  simp only at h
  cases e2:f (Dstar A M) a H1 with
  |none=>rw[e2]at h;cases h
  |some q2=>
   rw[e2]at h
   obtain⟨n1,h1⟩:∃ n,∀ m,n<=m->x (Dn A M m) H=some (a,H1,f1):=hx H _ e1
   obtain⟨n2,h2⟩:∃ n,∀ m,n<=m->f (Dn A M m) a H1=some q2:=hf a H1 _ e2
   refine⟨max n1 n2,fun m hm=>?_⟩
   rw[h1 m (by omega)]
   simp only
   rw[h2 m (by omega)]
   exact h
theorem EvM.opt{α:Type}{g:Orc->Option α}(h:Ev A M g):EvM A M fun D=>AM.opt (g D):=fun H r e=>by
 have e:AM.opt (g (Dstar A M)) H=some r:=e
 cases e1:g (Dstar A M) with
 |none=>rw[e1]at e;cases e
 |some a=>
  obtain⟨n,hn⟩:=h a e1
  refine⟨n,fun m hm=>?_⟩
  show AM.opt (g (Dn A M m)) H=some r
  rw[hn m hm];rw[e1]at e;exact e
theorem EvM.callD(k:Key)(args:List AV):EvM A M fun D=>callD (D.ask k) args:=by
 unfold Go.Proofs.YtpncilciembjdaaGreatDoor.callD
 refine EvM.bind (EvM.const _) fun L=>EvM.bind (EvM.const _) fun bs=>EvM.bind (EvM.opt fun r h=>star_some h) fun r=>EvM.const _
theorem EvM.callsM(own:List (Nat × Nat))(f:FuncId)(args:List AV):EvM A M fun D=>callsM D own f args:=by
 unfold Go.Proofs.YtpncilciembjdaaGreatDoor.callsM
 exact EvM.bind (EvM.const _) fun l=>EvM.callD _ _
theorem EvM.loopsM(f i:Nat)(T:List AV):EvM A M fun D=>loopsM D f i T:=by
 unfold Go.Proofs.YtpncilciembjdaaGreatDoor.loopsM
 exact EvM.bind (EvM.callD _ _) fun r=>EvM.const _
theorem EvM.mop{B:Ar}{Γ:Orc->FuncId->List AV->AM AV}(hΓ:∀ f args,EvM A M fun D=>Γ D f args)(o:MO)(T:List AV):EvM A M fun D=>mop B (Γ D) o T:=by
 cases o with
 |callF f args=>exact hΓ _ _
 |callV ents x args=>
  show EvM A M fun D=>(match opdA T x with
   |.fn (.func g) a cs=>(match ents.testBit g with
    |true=>Γ D g (a++opsM T args++cs)
    |false=>AM.fail)
   |_=>AM.fail)
  split
  .split
   .exact hΓ _ _
   .exact EvM.const _
  .exact EvM.const _
 |_=>exact EvM.const _
theorem EvM.coreM{B:Ar}{Γ:Orc->FuncId->List AV->AM AV}(hΓ:∀ f args,EvM A M fun D=>Γ D f args)(o:MOp)(T:List AV):EvM A M fun D=>coreM B (Γ D) o T:=by
 unfold Go.Proofs.YtpncilciembjdaaGreatDoor.coreM
 split
 .split
  .exact EvM.mop hΓ _ _
  .exact EvM.const _
 .exact EvM.const _
theorem Ev.runM{B:Ar}{Γ:Orc->FuncId->List AV->AM AV}(hΓ:∀ f args,EvM A M fun D=>Γ D f args):∀(l:List MOp) (T:List AV) (H:AH),Ev A M fun D=>runM B (Γ D) l T H
 |[],T,H=>fun r h=>⟨0,fun _ _=>h⟩
 |o::l,T,H=>fun r h=>by
  simp only[Go.Proofs.YtpncilciembjdaaGreatDoor.runM]at h ⊢
  cases e1:Go.Proofs.YtpncilciembjdaaGreatDoor.coreM B (Γ (Dstar A M)) o T H with
  |none=>rw[e1]at h;cases h
  |some q=>
   obtain⟨v,H1,f1⟩:=q
   rw[e1]at h
   simp only at h
   cases e2:Go.Proofs.YtpncilciembjdaaGreatDoor.runM B (Γ (Dstar A M)) l (dstSet T o.dst v) H1 with
   |none=>rw[e2]at h;cases h
   |some q2=>
    rw[e2]at h
    obtain⟨n1,h1⟩:∃ n,∀ m,n<=m->Go.Proofs.YtpncilciembjdaaGreatDoor.coreM B (Γ (Dn A M m)) o T H=some (v,H1,f1):=EvM.coreM hΓ o T H _ e1
    obtain⟨n2,h2⟩:∃ n,∀ m,n<=m->Go.Proofs.YtpncilciembjdaaGreatDoor.runM B (Γ (Dn A M m)) l (dstSet T o.dst v) H1=some q2:=Ev.runM hΓ l _ H1 _ e2
    refine⟨max n1 n2,fun m hm=>?_⟩
    rw[h1 m (by omega)]
    simp only
    rw[h2 m (by omega)]
    exact h
theorem EvM.regM{B:Ar}{Γ:Orc->FuncId->List AV->AM AV}(hΓ:∀ f args,EvM A M fun D=>Γ D f args)(ops:List MOp)(bf:Option (List Nat))(T:List AV):EvM A M fun D=>regM B (Γ D) ops bf T:=fun H r h=>by
 simp only[Go.Proofs.YtpncilciembjdaaGreatDoor.regM]at h ⊢
 cases e1:Go.Proofs.YtpncilciembjdaaGreatDoor.runM B (Γ (Dstar A M)) ops T H with
 |none=>rw[e1]at h;cases h
 |some q=>
  rw[e1]at h
  obtain⟨n1,h1⟩:∃ n,∀ m,n<=m->Go.Proofs.YtpncilciembjdaaGreatDoor.runM B (Γ (Dn A M m)) ops T H=some q:=Ev.runM hΓ ops T H _ e1
  exact⟨n1,fun m hm=>by rw[h1 m hm];exact h⟩
theorem EvM.evC{B:Ar}{Γ:Orc->FuncId->List AV->AM AV}{Λ:Orc->Nat->List AV->AM (AX × List AV)}(hΓ:∀ f args,EvM A M fun D=>Γ D f args)(hΛ:∀ i T,EvM A M fun D=>Λ D i T):∀(c:MC) (T:List AV),EvM A M fun D=>evC B (Γ D) (Λ D) c T
 |.skip,T=>EvM.const _
 |.reg ops bf,T=>EvM.regM hΓ _ _ _
 |.seq a b,T=>by
  unfold Go.Proofs.YtpncilciembjdaaGreatDoor.evC
  refine EvM.bind (EvM.evC hΓ hΛ a T) fun r=>?_
  split
  .exact EvM.evC hΓ hΛ b _
  .exact EvM.const _
 |.cond c a b,T=>by
  unfold Go.Proofs.YtpncilciembjdaaGreatDoor.evC
  split
  .split
   .exact EvM.evC hΓ hΛ a T
   .exact EvM.evC hΓ hΛ b T
  .exact EvM.const _
 |.block id c,T=>by
  unfold Go.Proofs.YtpncilciembjdaaGreatDoor.evC
  exact EvM.bind (EvM.evC hΓ hΛ c T) fun r=>EvM.const _
 |.loop i q,T=>by
  unfold Go.Proofs.YtpncilciembjdaaGreatDoor.evC
  refine EvM.bind (EvM.const _) fun _=>EvM.bind (EvM.const _) fun _=>?_
  split
  .exact EvM.bind (hΛ _ _) fun _=>EvM.const _
  .exact EvM.const _
 |.exit id,T=>EvM.const _
 |.ret,T=>EvM.const _
 |.bad,_=>EvM.const _
theorem EvM.fnM{B:Ar}(own:List (Nat × Nat))(f:Nat)(mf:MFn)(args:List AV):EvM A M fun D=>fnM B D own f mf args:=by
 unfold Go.Proofs.YtpncilciembjdaaGreatDoor.fnM
 exact EvM.bind (EvM.evC (Γ:=fun D=>Go.Proofs.YtpncilciembjdaaGreatDoor.callsM D own) (Λ:=fun D=>Go.Proofs.YtpncilciembjdaaGreatDoor.loopsM D f) (EvM.callsM own) (EvM.loopsM f) _ _) fun r=>EvM.const _
theorem EvM.lpM{B:Ar}(own:List (Nat × Nat))(f i:Nat)(q:LpH)(c:MC)(T:List AV):EvM A M fun D=>lpM B D own f i q c T:=by
 unfold Go.Proofs.YtpncilciembjdaaGreatDoor.lpM
 refine EvM.bind (EvM.evC (Γ:=fun D=>Go.Proofs.YtpncilciembjdaaGreatDoor.callsM D own) (Λ:=fun D=>Go.Proofs.YtpncilciembjdaaGreatDoor.loopsM D f) (EvM.callsM own) (EvM.loopsM f) _ _) fun r=>?_
 split
 .exact EvM.bind (EvM.const _) fun _=>EvM.bind (EvM.loopsM _ _ _) fun _=>EvM.const _
 .exact EvM.const _
 .exact EvM.const _
theorem Ev.gcRun{m:Orc->List AV->AM AV}(h:∀ args,EvM A M fun D=>m D args)(args:List AV)(bs:List ABlk):Ev A M fun D=>gcD (runD (m D)) args bs:=fun r e=>by
 have key:∀ q,runD (m (Dstar A M)) args bs=some q->∃ n,∀ k,n<=k->runD (m (Dn A M k)) args bs=some q:=fun q hq=>by
  unfold runD at hq ⊢
  cases e1:m (Dstar A M) args ⟨enumB 0 bs,bs.length,none⟩ with
  |none=>rw[e1]at hq;cases hq
  |some x=>
   rw[e1]at hq
   obtain⟨n,hn⟩:∃ n,∀ k,n<=k->m (Dn A M k) args ⟨enumB 0 bs,bs.length,none⟩=some x:=h args _ _ e1
   exact⟨n,fun k hk=>by rw[hn k hk];exact hq⟩
 have e:gcD (runD (m (Dstar A M))) args bs=some r:=e
 unfold gcD at e
 cases e1:runD (m (Dstar A M)) args bs with
 |none=>rw[e1]at e;cases e
 |some q=>
  rw[e1]at e
  obtain⟨n,hn⟩:=key q e1
  refine⟨n,fun k hk=>?_⟩
  show gcD (runD (m (Dn A M k))) args bs=some r
  unfold gcD
  rw[hn k hk];exact e
theorem star_next{k:Key}{args:List AV}{bs:List ABlk}{r:AV × List BO}(h:∃ n,∀ m,n<=m->(stepD A M (Dn A M m)).ask k args bs=some r):(Dstar A M).ask k args bs=some r:=by
 obtain⟨n,hn⟩:=h
 refine star_of (n:=n+1) fun m hm=>?_
 cases m with
 |zero=>omega
 |succ m=>exact hn m (by omega)
theorem star_fn{f:Nat}{mf:MFn}(he:M.ext f=none)(hf:M.fns f=some mf){args:List AV}{bs:List ABlk}{r:AV × List BO}(h:gcD (runD (fnM A (Dstar A M) M.own f mf)) args bs=some r):(Dstar A M).ask (.fn f) args bs=some r:=by
 obtain⟨n,hn⟩:=Ev.gcRun (m:=fun D=>fnM A D M.own f mf) (fun args=>EvM.fnM M.own f mf args) args bs r h
 refine star_next ⟨n,fun m hm=>?_⟩
 show (match M.ext f with
  |some d=>d args bs
  |none=>(match M.fns f with
   |some mf=>gcD (runD (fnM A (Dn A M m) M.own f mf)) args bs
   |none=>none))=_
 rw[he,hf]
 exact hn m hm
theorem star_lp{f i:Nat}{mf:MFn}{live:LpH}{c:MC}(hf:M.fns f=some mf)(hl:mf.loops[i]? = some (live,c)){args:List AV}{bs:List ABlk}{r:AV × List BO}(h:gcD (runD (lpM A (Dstar A M) M.own f i live c)) args bs=some r):(Dstar A M).ask (.lp f i) args bs=some r:=by
 obtain⟨n,hn⟩:=Ev.gcRun (m:=fun D=>lpM A D M.own f i live c) (fun args=>EvM.lpM M.own f i live c args) args bs r h
 refine star_next ⟨n,fun m hm=>?_⟩
 show (match M.fns f with
  |some mf=>(match mf.loops[i]? with
   |some lc=>gcD (runD (lpM A (Dn A M m) M.own f i lc.1 lc.2)) args bs
   |none=>none)
  |none=>none)=_
 rw[hf]
 simp only[hl]
 exact hn m hm
theorem star_ext{f:Nat}{d:DF}(he:M.ext f=some d){args:List AV}{bs:List ABlk}{r:AV × List BO}(h:d args bs=some r):(Dstar A M).ask (.fn f) args bs=some r:=
 star_next ⟨0,fun m _=>by
  show (match M.ext f with
   |some d=>d args bs
   |none=>(match M.fns f with
    |some mf=>gcD (runD (fnM A (Dn A M m) M.own f mf)) args bs
    |none=>none))=_
  rw[he];exact h⟩
end
structure SeatOk (P:Program) (ents:Nat) (M:Seat):Prop where
 mixed:P.follows .mixedOrders=true
 ent:EntOk P ents
 fns:∀ f mf,M.fns f=some mf->FnOk P ents f mf
 ext:∀ f d,M.ext f=some d->GoodD (SemFn P f) d
theorem sub_loops(P:Program)(ents:Nat)(hs:Hints):∀(c:Code) (n:Nat) (j:Nat) (c':Code),(lpsC c)[j]? = some c'->∃ live,(∀ q,hs[n+j]? = some q->live=q)/\(compC P ents hs c n).2[j]? = some (live,(compC P ents hs c' (n+j+1)).1)/\(okC c=true->okC c'=true)/\∀ i c2,(lpsC c')[i]? = some c2->(lpsC c)[j+1+i]? = some c2
 |.skip,n,j,c',h=>by simp[lpsC]at h
 |.region ..,n,j,c',h=>by simp[lpsC]at h
 |.seq a b,n,j,c',h=>by
  have h:(lpsC a++lpsC b)[j]? = some c':=h
  have hn:(compC P ents hs (.seq a b) n).2=(compC P ents hs a n).2++(compC P ents hs b (n+(compC P ents hs a n).2.length)).2:=rfl
  rw[hn]
  rcases Nat.lt_or_ge j (lpsC a).length with hj|hj
  .rw[List.getElem?_append_left hj]at h
   obtain⟨live,h0,h1,h2,h3⟩:=sub_loops P ents hs a n j c' h
   refine⟨live,h0,by rw[List.getElem?_append_left (by rw[lps_length];exact hj)];exact h1,fun hok=>h2 (by simp only[okC,Bool.and_eq_true]at hok;exact hok.1),fun i c2 hi=>?_⟩
   have:=h3 i c2 hi
   show (lpsC a++lpsC b)[j+1+i]? = some c2
   rw[List.getElem?_append_left (List.getElem?_eq_some_iff.1 this).1];exact this
  .rw[List.getElem?_append_right hj]at h
   obtain⟨live,h0,h1,h2,h3⟩:=sub_loops P ents hs b (n+(compC P ents hs a n).2.length) (j-(lpsC a).length) c' h
   have hl:=lps_length P ents hs a n
   rw[hl]at h0
   refine⟨live,fun q hq=>h0 q (by rw[show n+(lpsC a).length+(j-(lpsC a).length)=n+j by omega];exact hq),?_,fun hok=>h2 (by simp only[okC,Bool.and_eq_true]at hok;exact hok.2),fun i c2 hi=>?_⟩
   .rw[List.getElem?_append_right (by omega),hl]
    rw[hl]at h1
    rw[show n+j+1=n+(lpsC a).length+(j-(lpsC a).length)+1 by omega]
    exact h1
   .have:=h3 i c2 hi
    show (lpsC a++lpsC b)[j+1+i]? = some c2
    rw[List.getElem?_append_right (by omega),show j+1+i-(lpsC a).length=j-(lpsC a).length+1+i by omega];exact this
 |.cond q a b,n,j,c',h=>by
  have h:(lpsC a++lpsC b)[j]? = some c':=h
  have hn:(compC P ents hs (.cond q a b) n).2=(compC P ents hs a n).2++(compC P ents hs b (n+(compC P ents hs a n).2.length)).2:=rfl
  rw[hn]
  rcases Nat.lt_or_ge j (lpsC a).length with hj|hj
  .rw[List.getElem?_append_left hj]at h
   obtain⟨live,h0,h1,h2,h3⟩:=sub_loops P ents hs a n j c' h
   refine⟨live,h0,by rw[List.getElem?_append_left (by rw[lps_length];exact hj)];exact h1,fun hok=>h2 (by simp only[okC,Bool.and_eq_true]at hok;exact hok.1),fun i c2 hi=>?_⟩
   have:=h3 i c2 hi
   show (lpsC a++lpsC b)[j+1+i]? = some c2
   rw[List.getElem?_append_left (List.getElem?_eq_some_iff.1 this).1];exact this
  .rw[List.getElem?_append_right hj]at h
   obtain⟨live,h0,h1,h2,h3⟩:=sub_loops P ents hs b (n+(compC P ents hs a n).2.length) (j-(lpsC a).length) c' h
   have hl:=lps_length P ents hs a n
   rw[hl]at h0
   refine⟨live,fun q hq=>h0 q (by rw[show n+(lpsC a).length+(j-(lpsC a).length)=n+j by omega];exact hq),?_,fun hok=>h2 (by simp only[okC,Bool.and_eq_true]at hok;exact hok.2),fun i c2 hi=>?_⟩
   .rw[List.getElem?_append_right (by omega),hl]
    rw[hl]at h1
    rw[show n+j+1=n+(lpsC a).length+(j-(lpsC a).length)+1 by omega]
    exact h1
   .have:=h3 i c2 hi
    show (lpsC a++lpsC b)[j+1+i]? = some c2
    rw[List.getElem?_append_right (by omega),show j+1+i-(lpsC a).length=j-(lpsC a).length+1+i by omega];exact this
 |.block id a,n,j,c',h=>sub_loops P ents hs a n j c' h
 |.loop a,n,j,c',h=>by
  have h:(a::lpsC a)[j]? = some c':=h
  have hn:∃ live,(∀ q,hs[n]? = some q->live=q)/\(compC P ents hs (.loop a) n).2=(live,(compC P ents hs a (n+1)).1)::(compC P ents hs a (n+1)).2:=by
   have:compC P ents hs (.loop a) n=(match compC P ents hs a (n+1),hs[n]? with
    |(mc,lc),some h=>(.loop n h,(h,mc)::lc)
    |(mc,lc),none=>(.bad,(⟨0,[],[],[],[]⟩,mc)::lc)):=by rw[compC];rfl
   rw[this]
   cases hs[n]? with
   |none=>exact⟨_,fun q h=>(by cases h),rfl⟩
   |some q=>exact⟨_,fun q' h=>Option.some.inj h,rfl⟩
  obtain⟨live,hq0,hn⟩:=hn
  rw[hn]
  cases j with
  |zero=>
   simp only[List.getElem?_cons_zero,Option.some.injEq]at h
   subst h
   exact⟨live,hq0,rfl,fun hok=>hok,fun i c2 hi=>by
    show (a::lpsC a)[0+1+i]? = some c2
    rw[show 0+1+i=i+1 by omega];exact hi⟩
  |succ j=>
   simp only[List.getElem?_cons_succ]at h
   obtain⟨live',h0,h1,h2,h3⟩:=sub_loops P ents hs a (n+1) j c' h
   refine⟨live',fun q hq=>h0 q (by rw[show n+1+j=n+(j+1) by omega];exact hq),?_,h2,fun i c2 hi=>?_⟩
   .simp only[List.getElem?_cons_succ]
    rw[show n+(j+1)+1=n+1+j+1 by omega];exact h1
   .show (a::lpsC a)[j+1+1+i]? = some c2
    rw[show j+1+1+i=(j+1+i)+1 by omega];exact h3 i c2 hi
 |.exit _,n,j,c',h=>by simp[lpsC]at h
 |.ret,n,j,c',h=>by simp[lpsC]at h
 |.rangeFunc ..,n,j,c',h=>by simp[lpsC]at h
 |.scope _,n,j,c',h=>by simp[lpsC]at h
 |.label _,n,j,c',h=>by simp[lpsC]at h
 |.goto _,n,j,c',h=>by simp[lpsC]at h
 |.refuse _,n,j,c',h=>by simp[lpsC]at h
theorem goodD_none{S:SemT}:GoodD S fun _ _=>none:=fun _ _ _ _ h=>by cases h
theorem dn_good{P:Program}{ents:Nat}{M:Seat}(hM:SeatOk P ents M):∀ n,(∀ f,GoodD (SemFn P f) ((Dn realA M n).ask (.fn f)))/\∀ f mf fn c,M.fns f=some mf->P.funcs[f]? = some fn->fn.body=some c->∀ i c' q mc,(lpsC c)[i]? = some c'->mf.loops[i]? = some (q,mc)->GoodD (SemLp P q c') ((Dn realA M n).ask (.lp f i))
 |0=>⟨fun _=>goodD_none,fun _ _ _ _ _ _ _ _ _ _ _ _ _=>goodD_none⟩
 |n+1=>by
  obtain⟨ih1,ih2⟩:=dn_good hM n
  have hΓ:=callsM_sound (P:=P) M.own ih1
  refine⟨fun f=>?_,fun f mf fn c h0 h1 h2 i c' q mc hi hq=>?_⟩
  .have hd:(Dn realA M (n+1)).ask (.fn f)=fun args bs=>(match M.ext f with
     |some d=>d args bs
     |none=>(match M.fns f with
      |some mf=>gcD (runD (fnM realA (Dn realA M n) M.own f mf)) args bs
      |none=>none)):=rfl
   rw[hd]
   cases e:M.ext f with
   |some d=>exact hM.ext f d e
   |none=>
    cases e2:M.fns f with
    |none=>exact goodD_none
    |some mf=>
     obtain⟨fn,c,hs,k1,k2,k3,k4,k5,k6,k7,k8⟩:=(hM.fns f mf e2).ok
     refine gcD_good (semFn_mono P f) (runD_good (fnM_sound M.own hM.mixed hM.ent k1 k2 k3 k4 k5 k6 k7 hΓ fun j c' q hj hq=>loopsM_sound ?_) fun args=>Loc.fnM _ _ _ _ _ _)
     obtain⟨live,q0,q1,_,_⟩:=sub_loops P ents hs c 0 j c' hj
     rw[Nat.zero_add]at q0
     rw[q0 q hq]at q1
     exact ih2 f mf fn c e2 k1 k2 j c' q _ hj (by rw[k8];exact q1)
  .have hd:(Dn realA M (n+1)).ask (.lp f i)=fun args bs=>(match M.fns f with
     |some mf=>(match mf.loops[i]? with
      |some lc=>gcD (runD (lpM realA (Dn realA M n) M.own f i lc.1 lc.2)) args bs
      |none=>none)
     |none=>none):=rfl
   rw[hd,h0]
   simp only[hq]
   obtain⟨fn',c0,hs,k1,k2,k3,k4,k5,k6,k7,k8⟩:=(hM.fns f mf h0).ok
   rw[h1]at k1
   cases k1
   rw[h2]at k2
   cases k2
   obtain⟨live,q0,q1,q2,q3⟩:=sub_loops P ents hs c 0 i c' hi
   rw[k8,q1]at hq
   simp only[Option.some.injEq,Prod.mk.injEq]at hq
   obtain⟨rfl,rfl⟩:=hq
   refine gcD_good (semLp_mono P live c') (runD_good (lpM_sound M.own hM.mixed hM.ent (q2 k3) hΓ (fun j c2 q hj hq=>?_) (ih2 f mf fn c h0 h1 h2 i c' live _ hi (by rw[k8];exact q1))) fun args=>Loc.lpM _ _ _ _ _ _ _ _)
   rw[show 0+i+1+j=i+1+j by omega]
   obtain⟨live2,p0,p1,_,_⟩:=sub_loops P ents hs c 0 (i+1+j) c2 (q3 j c2 hj)
   rw[show 0+(i+1+j)=0+i+1+j by omega]at p0
   rw[p0 q hq]at p1
   exact loopsM_sound (ih2 f mf fn c h0 h1 h2 (i+1+j) c2 q _ (q3 j c2 hj) (by rw[k8];exact p1))
theorem star_good{P:Program}{ents:Nat}{M:Seat}(hM:SeatOk P ents M)(f:FuncId):GoodD (SemFn P f) ((Dstar realA M).ask (.fn f)):=by
 intro args bs r out h
 obtain⟨n,hn⟩:=star_some h
 exact(dn_good hM n).1 f args bs r out (hn n (Nat.le_refl _))
end Go.Proofs.YtpncilciembjdaaGreatDoor
namespace Go.Proofs.YtpncilciembjdaaGreatDoor
open Go.RowKit

abbrev KR:=Option (AV × List BO)
inductive Sh where
 |int (k:IntKind)
 |bool
 |str
 |ls
 |lp (l:List Sh)
 |agg (l:List Sh)
 |tup (l:List Sh)
 |sl (b e:Nat)
 |ptr (b o:Nat)
 |cst (v:Value)
 |fnc (f:Nat)
 |any
inductive Os where
 |keep
 |del
 |row (st:Bool)
 |box (l:List Sh)
/- the places at which a run hangs on something -/
def br(b:Bool)(x y:KR):KR:=match b with
 |true=>x
 |false=>y
def unI(n:Int)(k:Nat->KR):KR:=match n with
 |.ofNat i=>k i
 |.negSucc _=>none
def nthK(xs:List (List AV))(i:Nat)(k:List AV->KR):KR:=match nthR xs i with
 |some cs=>k cs
 |none=>none
def rdK(cells:List AV)(o n:Nat)(k:List AV->KR):KR:=match Nat.ble (o+n) cells.length with
 |true=>k ((cells.drop o).take n)
 |false=>none
def askK(D:Orc)(key:Key)(args:List AV)(bs:List ABlk)(k:AV->List BO->KR):KR:=match D.ask key args bs with
 |some r=>k r.1 r.2
 |none=>none
def unInt(kd:IntKind)(x:AV)(k:Int->KR):KR:=match x with
 |.v (.int k' n)=>if k'=kd then k n else none
 |_=>none
def unBool(x:AV)(k:Bool->KR):KR:=match x with
 |.v (.bool b)=>k b
 |_=>none
def unStr(x:AV)(k:ByteArray->KR):KR:=match x with
 |.v (.string s)=>k s
 |_=>none
def unLs(x:AV)(k:List (List AV)->KR):KR:=match x with
 |.ls xs=>k xs
 |_=>none
def unLp(x:AV)(k0:KR)(k:List AV->KR):KR:=match x with
 |.v (.pointer none)=>k0
 |.lp cs=>k cs
 |_=>none
def unAgg(x:AV)(k:List AV->KR):KR:=match x with
 |.agg cs=>k cs
 |_=>none
def unTup(x:AV)(k:List AV->KR):KR:=match x with
 |.tup cs=>k cs
 |_=>none
def unSl(b e:Nat)(x:AV)(k:Nat->KR):KR:=match x with
 |.sl b' 0 n e'=>(match Nat.beq b b',Nat.beq e e' with
  |true,true=>k n
  |_,_=>none)
 |_=>none
def unPtr(b o:Nat)(x:AV)(k:KR):KR:=match x with
 |.ptr b' o'=>(match Nat.beq b b',Nat.beq o o' with
  |true,true=>k
  |_,_=>none)
 |_=>none
def unFn(f:Nat)(x:AV)(k:KR):KR:=match x with
 |.fn (.func g) [] []=>(match Nat.beq f g with
  |true=>k
  |false=>none)
 |_=>none
def isCst:Value->Value->Bool
 |.slice none 0 0,.slice none 0 0=>true
 |.pointer none,.pointer none=>true
 |_,_=>false
def unCst(v:Value)(x:AV)(k:KR):KR:=match x with
 |.v u=>(match isCst v u with
  |true=>k
  |false=>none)
 |_=>none
def unNil(cs:List AV)(k:KR):KR:=match cs with
 |[]=>k
 |_::_=>none
def unCons(cs:List AV)(k:AV->List AV->KR):KR:=match cs with
 |[]=>none
 |c::r=>k c r
def cInt(kd:IntKind)(cs:List AV)(k:Int->List AV->KR):KR:=match cs with
 |.v (.int k' n)::r=>if k'=kd then k n r else none
 |_=>none
def cBool(cs:List AV)(k:Bool->List AV->KR):KR:=match cs with
 |.v (.bool b)::r=>k b r
 |_=>none
def cStr(cs:List AV)(k:ByteArray->List AV->KR):KR:=match cs with
 |.v (.string s)::r=>k s r
 |_=>none
def cLs(cs:List AV)(k:List (List AV)->List AV->KR):KR:=match cs with
 |.ls xs::r=>k xs r
 |_=>none
def unOut(o:List BO)(k:BO->List BO->KR):KR:=match o with
 |[]=>none
 |c::r=>k c r
def unEnd(o:List BO)(k:KR):KR:=match o with
 |[]=>k
 |_::_=>none
def unKeep(o:BO)(k:KR):KR:=match o with
 |.keep=>k
 |_=>none
def unDel(o:BO)(k:KR):KR:=match o with
 |.del=>k
 |_=>none
def unSet(st ex:Bool)(o:BO)(k:List AV->KR):KR:=match o with
 |.set ⟨cs,st',ex'⟩=>if st'=st/\ex'=ex then k cs else none
 |_=>none
def axIs(k:Nat)(x:AV):Bool:=match k,x with
 |0,.v (.bool true)=>true
 |i+1,.v (.int .i64 (.ofNat j))=>Nat.beq i j
 |_,_=>false
/- A value's form taken apart and put together again. -/
mutual
def expand:Sh->AV->(AV->KR)->KR
 |.int kd,x,K=>unInt kd x fun n=>K (.v (.int kd n))
 |.bool,x,K=>unBool x fun b=>K (.v (.bool b))
 |.str,x,K=>unStr x fun s=>K (.v (.string s))
 |.ls,x,K=>unLs x fun xs=>K (.ls xs)
 |.lp l,x,K=>unLp x (K (.v (.pointer none))) fun cs=>expandL l cs fun cs=>K (.lp cs)
 |.agg l,x,K=>unAgg x fun cs=>expandL l cs fun cs=>K (.agg cs)
 |.tup l,x,K=>unTup x fun cs=>expandL l cs fun cs=>K (.tup cs)
 |.sl b e,x,K=>unSl b e x fun n=>K (.sl b 0 n e)
 |.ptr b o,x,K=>unPtr b o x (K (.ptr b o))
 |.cst v,x,K=>unCst v x (K (.v v))
 |.fnc f,x,K=>unFn f x (K (.fn (.func f) [] []))
 |.any,x,K=>K x
def expandL:List Sh->List AV->(List AV->KR)->KR
 |[],cs,K=>unNil cs (K [])
 |.int kd::l,cs,K=>cInt kd cs fun n r=>expandL l r fun r=>K (.v (.int kd n)::r)
 |.bool::l,cs,K=>cBool cs fun n r=>expandL l r fun r=>K (.v (.bool n)::r)
 |.str::l,cs,K=>cStr cs fun n r=>expandL l r fun r=>K (.v (.string n)::r)
 |.ls::l,cs,K=>cLs cs fun n r=>expandL l r fun r=>K (.ls n::r)
 |s::l,cs,K=>unCons cs fun c r=>expand s c fun c=>expandL l r fun r=>K (c::r)
end
def expandO:List Os->List BO->(List BO->KR)->KR
 |[],o,K=>unEnd o (K [])
 |s::l,o,K=>unOut o fun c r=>(match s with
  |.keep=>unKeep c (expandO l r fun r=>K (.keep::r))
  |.del=>unDel c (expandO l r fun r=>K (.del::r))
  |.row st=>unSet st true c fun cs=>expandO l r fun r=>K (.set ⟨cs,st,true⟩::r)
  |.box m=>unSet true false c fun cs=>expandL m cs fun cs=>expandO l r fun r=>K (.set ⟨cs,true,false⟩::r))

inductive Sc where
 |n
 |b (x y:Sc)
 |t (x:Sc)
 |f (x:Sc)
def brS(s:Sc)(c:Bool)(x y:Sc->KR):KR:=match s with
 |.n=>br c (x .n) (y .n)
 |.b p q=>br c (x p) (y q)
 |.t p=>br c (x p) none
 |.f p=>br c none (y p)
def KM(α:Type):=AH->Sc->(α->AH->Foot->Sc->KR)->KR
namespace KM
variable {α β:Type}
def ret(a:α):KM α:=fun H s k=>k a H ⟨[],[]⟩ s
def fail:KM α:=fun _ _ _=>none
def bind(m:KM α)(f:α->KM β):KM β:=fun H s k=>m H s fun a H1 f1 s=>f a H1 s fun b H2 f2 s=>k b H2 ⟨f1.rd++f2.rd,f1.wr++f2.wr⟩ s
def gen(m:AM α):KM α:=fun H s k=>match m H with
 |some (a,H',f)=>k a H' f s
 |none=>none
def opt:Option α->KM α
 |some a=>ret a
 |none=>fail
def brk(b:Bool)(x y:KM α):KM α:=fun H s k=>brS s b (fun s=>x H s k) (fun s=>y H s k)
def test(b:Bool)(x:KM α):KM α:=fun H s k=>br b (x H s k) none
def unI(n:Int)(f:Nat->KM α):KM α:=fun H s k=>Go.Proofs.YtpncilciembjdaaGreatDoor.unI n fun i=>f i H s k
def nth(xs:List (List AV))(i:Nat)(f:List AV->KM α):KM α:=fun H s k=>nthK xs i fun cs=>f cs H s k
def rd(cells:List AV)(o n:Nat):KM (List AV):=fun H s k=>rdK cells o n fun cs=>k cs H ⟨[],[]⟩ s
def exp(t:Sh)(x:AV):KM AV:=fun H s k=>expand t x fun y=>k y H ⟨[],[]⟩ s
def expL(l:List Sh)(x:List AV):KM (List AV):=fun H s k=>expandL l x fun y=>k y H ⟨[],[]⟩ s
def expO(l:List Os)(x:List BO):KM (List BO):=fun H s k=>expandO l x fun y=>k y H ⟨[],[]⟩ s
def ask(D:Orc)(key:Key)(args:List AV)(bs:List ABlk):KM (AV × List BO):=fun H s k=>askK D key args bs fun r o=>k (r,o) H ⟨[],[]⟩ s
def idx(x:AV)(f:Nat->KM α):KM α:=match x with
 |.v (.int _ n)=>unI n f
 |_=>fail
def idxO(n:Nat)(x:Option AV)(f:Nat->KM α):KM α:=match x with
 |some x=>idx x f
 |none=>f n
end KM
def fitsB(n bytes:Nat):Bool:=match Nat.ble (n*bytes) 140737488355328 with
 |true=>Nat.ble n maxLen
 |false=>false
def inB(l h n:Nat):Bool:=match Nat.ble l h with
 |true=>Nat.ble h n
 |false=>false
structure Hnt where
 fn:List (Nat × (Sh × List Os))
 lp:List (Nat × List (Nat × (List Sh × List Os)))
 tm:List (Nat × List Sh)
def findN{α:Type}(n:Nat):List (Nat × α)->Option α
 |[]=>none
 |(m,a)::r=>match Nat.beq n m with
  |true=>some a
  |false=>findN n r
section
variable (A:Ar) (D:Orc) (own:List (Nat × Nat)) (Hn:Hnt)
def tmK(d:Option Nat)(cs:List AV):KM (List AV):=match d with
 |some d=>(match findN d Hn.tm with
  |some l=>KM.expL l cs
  |none=>KM.ret cs)
 |none=>KM.ret cs
def rdAtK(d:Option Nat)(a:AV)(n:Nat):KM (List AV):=match a with
 |.ptr b o=>(KM.gen (AM.getB b)).bind fun k=>(KM.rd k.cells o n).bind fun cs=>match k.ex with
  |true=>tmK Hn d cs
  |false=>KM.ret cs
 |a=>KM.gen (rdAt a n)
def loadK(d:Option Nat)(row:Bool)(n:Nat)(a:AV):KM AV:=match row with
 |true=>(rdAtK Hn d a n).bind fun cs=>KM.ret (.agg cs)
 |false=>(rdAtK Hn d a 1).bind fun cs=>KM.opt (one? cs)
def storeK(n:Nat)(a x:AV):KM AV:=match a with
 |.ptr b o=>
  if x.cells.length=n/\x.cells.all AV.one=true then
   (KM.gen (AM.getB b)).bind fun k=>if k.st=true/\(!k.ex||noidL x.cells)=true then KM.test (Nat.ble (o+n) k.cells.length) ((KM.gen (AM.setB b { k with cells:=splice k.cells o x.cells })).bind fun _=>KM.ret AV.undef) else KM.fail
  else KM.fail
 |_=>KM.fail
def iaddrK(d:Option Nat)(e:Nat)(x ix:AV):KM AV:=KM.idx ix fun i=>match x with
 |.sl b o n e'=>KM.test (Nat.blt i n) (if e'=e then KM.ret (.ptr b (o+i*e)) else KM.fail)
 |.ls xs=>KM.nth xs i fun cs=>(tmK Hn d cs).bind fun cs=>(match Nat.beq cs.length e with
  |true=>KM.ret (.lp cs)
  |false=>KM.fail)
 |_=>KM.fail
def aaddrK(n e:Nat)(x ix:AV):KM AV:=KM.idx ix fun i=>KM.test (Nat.blt i n) (KM.opt (moved x (i*e)))
def indexK(d:Option Nat)(n e:Nat)(row:Bool)(sz:Nat)(x ix:AV):KM AV:=KM.idx ix fun i=>match x with
 |.agg cs=>KM.test (Nat.blt i n) ((KM.rd cs (i*e) (match row with
  |true=>sz
  |false=>1)).bind fun xs=>(match row with
  |true=>KM.ret (.agg xs)
  |false=>KM.opt (one? xs)))
 |_=>KM.fail
def sliceK(e:Nat)(x:AV)(lo hi:Option AV):KM AV:=match x with
 |.sl b o n e'=>KM.idxO 0 lo fun l=>KM.idxO n hi fun h=>KM.test (inB l h n) (match Nat.beq e' e with
  |true=>KM.ret (.sl b (o+l*e) (h-l) e)
  |false=>KM.fail)
 |.ls xs=>KM.idxO 0 lo fun l=>KM.idxO (lenR xs) hi fun h=>KM.test (inB l h (lenR xs)) (KM.test (wideR e xs) (KM.ret (.ls (dropR (takeR xs h) l))))
 |_=>KM.fail
def binK(b:BinOp)(x y:AV):KM AV:=match x,y with
 |.v (.int k a),.v (.int k' c)=>(match b with
  |.shl=>KM.brk (A.lt c 0) KM.fail (KM.ret (.v (.int k (A.shl k a c))))
  |.shr=>KM.brk (A.lt c 0) KM.fail (KM.ret (.v (.int k (A.shr k a c))))
  |.quo=>if k=k' then KM.brk (A.eq c 0) KM.fail (KM.ret (.v (.int k (A.quo k a c)))) else KM.fail
  |.rem=>if k=k' then KM.brk (A.eq c 0) KM.fail (KM.ret (.v (.int k (A.rem k a c)))) else KM.fail
  |.neq=>if k=k' then KM.brk (A.eq a c) (KM.ret (.v (.bool false))) (KM.ret (.v (.bool true))) else KM.fail
  |b=>KM.opt (binM A b (.v (.int k a)) (.v (.int k' c))))
 |.v (.string a),.v (.string c)=>(match b with
  |.add=>KM.test (Nat.ble (A.slen a+A.slen c) 9223372036854775807) (KM.ret (.v (.string (A.cat a c))))
  |.neq=>KM.brk (A.seq a c) (KM.ret (.v (.bool false))) (KM.ret (.v (.bool true)))
  |b=>KM.opt (binM A b (.v (.string a)) (.v (.string c))))
 |x,y=>KM.opt (binM A b x y)
def sidxK(x i:AV):KM AV:=match x with
 |.v (.string s)=>KM.idx i fun i=>KM.test (Nat.blt i (A.slen s)) (KM.ret (.v (.int .u8 (A.sat s i))))
 |_=>KM.fail
def ssliceK(x:AV)(lo hi:Option AV):KM AV:=match x with
 |.v (.string s)=>KM.idxO 0 lo fun l=>KM.idxO (A.slen s) hi fun h=>KM.test (inB l h (A.slen s)) (KM.ret (.v (.string (A.ssub s l h))))
 |_=>KM.fail
def newsK(e:Nat)(x:AV):KM (Nat × List AV):=match x with
 |.sl b o n e'=>if e'=e then(KM.gen (AM.getB b)).bind fun k=>KM.test (Nat.ble (o+n*e) k.cells.length) (match (k.ex||noidL ((k.cells.drop o).take (n*e))) with
   |true=>KM.ret (n,(k.cells.drop o).take (n*e))
   |false=>KM.fail)
   else KM.fail
 |.ls xs=>KM.test (wideR e xs) (KM.ret (lenR xs,catR xs))
 |.v (.slice none 0 0)=>KM.ret (0,[])
 |_=>KM.fail
def growK(e bytes:Nat)(s:AV)(m:Nat)(xs:List AV):KM AV:=match s with
 |.v (.slice none 0 0)=>KM.test (fitsB m bytes) ((KM.gen (AM.newB ⟨xs,true,true⟩)).bind fun b=>KM.ret (.sl b 0 m e))
 |.sl b o n e'=>(match Nat.beq e' e with
  |true=>KM.test (fitsB (n+m) bytes) ((KM.gen (AM.getB b)).bind fun k=>match k.ex,k.st with
   |true,true=>KM.test (Nat.ble (o+n*e) k.cells.length) ((KM.gen (AM.delB b)).bind fun _=>(KM.gen (AM.newB ⟨(k.cells.take (o+n*e)).drop o++xs,true,true⟩)).bind fun b'=>KM.ret (.sl b' 0 (n+m) e))
   |true,false=>KM.test (Nat.beq (o+n*e) k.cells.length) ((KM.gen (AM.setB b { k with ex:=false })).bind fun _=>(KM.gen (AM.newB ⟨(k.cells.take (o+n*e)).drop o++xs,false,true⟩)).bind fun b'=>KM.ret (.sl b' 0 (n+m) e))
   |_,_=>KM.fail)
  |false=>KM.fail)
 |_=>KM.fail
def appK(e bytes:Nat)(s x:AV):KM AV:=(newsK e x).bind fun r=>KM.brk (Nat.beq r.1 0) (if isSl s=true then KM.ret s else KM.fail) (KM.test (oneL r.2) (growK e bytes s r.1 r.2))
def mkslK(z:List Value)(e bytes:Nat)(l c:AV):KM AV:=KM.idx l fun n=>KM.idx c fun m=>KM.test (Nat.ble n m) (KM.test (fitsB m bytes) ((KM.gen (AM.newB ⟨zeros (z.map .v) (n*e),true,true⟩)).bind fun b=>KM.ret (.sl b 0 n e)))
def cpyK(e:Nat)(d x:AV):KM AV:=match d with
 |.sl b o n e'=>(match Nat.beq e' e with
  |true=>(newsK e x).bind fun r=>KM.test (oneL (r.2.take (Nat.min r.1 n*e))) ((KM.gen (AM.getB b)).bind fun k=>match k.st with
    |true=>KM.test (Nat.ble (o+n*e) k.cells.length) ((KM.gen (AM.setB b { k with cells:=splice k.cells o (r.2.take (Nat.min r.1 n*e)) })).bind fun _=>KM.ret (.v (.int .i64 (Int.ofNat (Nat.min r.1 n)))))
    |false=>KM.fail)
  |false=>KM.fail)
 |_=>KM.fail
def clrK(z:List Value)(e:Nat)(x:AV):KM AV:=match x with
 |.sl b o n e'=>(match Nat.beq e' e with
  |true=>(KM.gen (AM.getB b)).bind fun k=>match k.st with
   |true=>KM.test (Nat.ble (o+n*e) k.cells.length) ((KM.gen (AM.setB b { k with cells:=splice k.cells o (zeros (z.map .v) (n*e)) })).bind fun _=>KM.ret (.tup []))
   |false=>KM.fail
  |false=>KM.fail)
 |_=>KM.fail
mutual
def frzK:Nat->AV->KM AV
 |0,x=>KM.gen (frz0 x)
 |n+1,x=>match x with
  |.v z=>KM.ret (nilA z)
  |.sl b o m e=>(KM.gen (AM.getB b)).bind fun k=>KM.test (Nat.ble (o+m*e) k.cells.length) ((match k.st with
    |true=>KM.gen (AM.setB b { k with st:=false })
    |false=>KM.ret ()).bind fun _=>match (k.ex||noidL ((k.cells.drop o).take (m*e))) with
     |true=>KM.ret (.ls (chunk m e ((k.cells.drop o).take (m*e))))
     |false=>(frzLK n ((k.cells.drop o).take (m*e))).bind fun cs=>match noidL cs with
      |true=>KM.ret (.ls (chunk m e cs))
      |false=>KM.fail)
  |.agg cs=>(frzLK n cs).bind fun cs=>KM.ret (.agg cs)
  |.tup cs=>(frzLK n cs).bind fun cs=>KM.ret (.tup cs)
  |x=>KM.ret x
def frzLK:Nat->List AV->KM (List AV)
 |_,[]=>KM.ret []
 |0,_::_=>KM.fail
 |n+1,x::r=>(frzK n x).bind fun x=>(frzLK n r).bind fun r=>KM.ret (x::r)
end
def frzBK(b:Nat):KM Unit:=(KM.gen (AM.getB b)).bind fun k=>match k.ex,k.st with
 |false,true=>(frzLK 1000 k.cells).bind fun cs=>(KM.gen (AM.getB b)).bind fun k2=>(match k2.ex,Nat.beq cs.length k2.cells.length with
  |false,true=>KM.gen (AM.setB b { k2 with cells:=cs })
  |_,_=>KM.fail)
 |_,_=>KM.ret ()
def frzTK:List Nat->List AV->KM (List AV)
 |[],T=>KM.ret T
 |t::r,T=>match T[t]? with
  |some (.ptr b _)=>(frzBK b).bind fun _=>frzTK r T
  |some x=>(frzK 1000 x).bind fun y=>frzTK r (T.set t y)
  |none=>frzTK r T
def frzAK(f:Nat):Nat->List AV->KM (List AV)
 |_,[]=>KM.ret []
 |i,x::r=>match ownB own f i with
  |true=>(frzAK f (i+1) r).bind fun r=>KM.ret (x::r)
  |false=>(frzK 1000 x).bind fun x=>(frzAK f (i+1) r).bind fun r=>KM.ret (x::r)
def callDK(key:Key)(e:AV × List BO->KM (AV × List BO))(args:List AV):KM AV:=
 (KM.gen (trav 4096 (idsL args) [])).bind fun L=>(KM.gen (readAll L)).bind fun bs=>
  ((KM.ask D key (renL (fun b=>idx b L) args) (bs.map (ABlk.ren fun b=>idx b L))).bind e).bind fun r=>
    match bndN r.2.length r.1.ids,bndO r.2.length r.2 with
    |true,true=>(KM.gen nextB).bind fun n=>(KM.gen (writeAll (backN L n) L r.2)).bind fun out=>(KM.gen (newAll (backN L n) out)).bind fun _=>KM.ret (r.1.ren (backN L n))
    |_,_=>KM.fail
def ansF(f:Nat)(r:AV × List BO):KM (AV × List BO):=match findN f Hn.fn with
 |some (s,l)=>(KM.exp s r.1).bind fun x=>(KM.expO l r.2).bind fun o=>KM.ret (x,o)
 |none=>KM.ret r
def callsK(f:FuncId)(args:List AV):KM AV:=(frzAK own f 0 args).bind fun l=>callDK D (.fn f) (ansF Hn f) l
def axOut:Nat->AV
 |0=>.v (.bool true)
 |i+1=>.v (.int .i64 (Int.ofNat i))
def ansX:List (Nat × (List Sh × List Os))->AV->List AV->List BO->KM (AV × List BO)
 |[],_,_,_=>KM.fail
 |(k,s,l)::r,x,ys,o=>KM.brk (axIs k x) ((KM.expL s ys).bind fun ys=>(KM.expO l o).bind fun o=>KM.ret (.tup (axOut k::ys),o)) (ansX r x ys o)
def ansL(i:Nat)(r:AV × List BO):KM (AV × List BO):=match findN i Hn.lp with
 |some l=>fun H s k=>unTup r.1 fun cs=>unCons cs fun x ys=>ansX l x ys r.2 H s k
 |none=>KM.ret r
def loopsK(f i:Nat)(xs:List AV):KM (AX × List AV):=(callDK D (.lp f i) (ansL Hn i) xs).bind fun r=>match r with
 |.tup (x::ys)=>(match axOf x with
  |some ax=>KM.ret (ax,ys)
  |none=>KM.fail)
 |_=>KM.fail
def opK(d:Option Nat)(o:MO)(T:List AV):KM AV:=match o with
 |.pick c a b=>(match opdA T c with
  |.v (.bool t)=>KM.brk t (KM.ret (opdA T a)) (KM.ret (opdA T b))
  |_=>KM.fail)
 |.ld row n a=>loadK Hn d row n (opdA T a)
 |.st n a x=>storeK n (opdA T a) (opdA T x)
 |.bin ek b x y=>(match ek with
  |0=>binK A b (opdA T x) (opdA T y)
  |ek=>KM.opt (cmpM A ek b (opdA T x) (opdA T y)))
 |.slice e x lo hi=>sliceK e (opdA T x) (lo.map (opdA T)) (hi.map (opdA T))
 |.iaddr e x i=>iaddrK Hn d e (opdA T x) (opdA T i)
 |.aaddr n e x i=>aaddrK n e (opdA T x) (opdA T i)
 |.index n e row sz x i=>indexK d n e row sz (opdA T x) (opdA T i)
 |.mksl z e bytes l c=>mkslK z e bytes (opdA T l) (opdA T c)
 |.app e bytes s x=>appK e bytes (opdA T s) (opdA T x)
 |.cpy e d x=>cpyK e (opdA T d) (opdA T x)
 |.clr z e x=>clrK z e (opdA T x)
 |.sidx x i=>sidxK A (opdA T x) (opdA T i)
 |.sslice x lo hi=>ssliceK A (opdA T x) (lo.map (opdA T)) (hi.map (opdA T))
 |.callF f args=>callsK D own Hn f (opsM T args)
 |.callV ents x args=>(match opdA T x with
  |.fn (.func g) a cs=>(match ents.testBit g with
   |true=>callsK D own Hn g (a++opsM T args++cs)
   |false=>KM.fail)
  |_=>KM.fail)
 |o=>KM.gen (mop A (fun _ _=>AM.fail) o T)
def coreK(o:MOp)(T:List AV):KM AV:=match o.g with
 |none=>opK A D own Hn o.dst o.op T
 |some (d,want)=>(match T[d]? with
  |some (.v (.bool b))=>KM.brk (match want with
   |true=>b
   |false=>A.not b) (opK A D own Hn o.dst o.op T) (KM.ret AV.undef)
  |some (.v (.tuple _))=>KM.ret AV.undef
  |_=>KM.fail)
/- forced, one behind the other -/
def gVal(v:Value)(k:Value->KR):KR:=match v with
 |.int kd n=>k (.int kd n)
 |.bool b=>k (.bool b)
 |.string s=>k (.string s)
 |.tuple t=>k (.tuple t)
 |v=>k v
theorem gVal_eq(v:Value)(k:Value->KR):gVal v k=k v:=by
 unfold gVal
 split<;>rfl
def gL(f:AV->(AV->KR)->KR)(l:List AV)(k:List AV->KR):KR:=match l with
 |[]=>k []
 |x::r=>f x fun x=>gL f r fun r=>k (x::r)
theorem gL_eq{f:AV->(AV->KR)->KR}(hf:∀ x k,f x k=k x):∀(l:List AV) (k:List AV->KR),gL f l k=k l
 |[],_=>rfl
 |x::r,k=>by simp only[gL,hf,gL_eq hf r]
def gAV(d:Nat)(x:AV)(k:AV->KR):KR:=match d with
 |0=>k x
 |d+1=>match x with
  |.v x=>gVal x fun x=>k (.v x)
  |.ptr b o=>k (.ptr b o)
  |.sl b o n e=>k (.sl b o n e)
  |.ls xs=>k (.ls xs)
  |.lp cs=>gL (gAV d) cs fun cs=>k (.lp cs)
  |.agg cs=>gL (gAV d) cs fun cs=>k (.agg cs)
  |.tup cs=>gL (gAV d) cs fun cs=>k (.tup cs)
  |.fn f a c=>gL (gAV d) a fun a=>gL (gAV d) c fun c=>k (.fn f a c)
  |.any=>k .any
theorem gAV_eq:∀(d:Nat) (x:AV) (k:AV->KR),gAV d x k=k x
 |0,_,_=>rfl
 |d+1,x,k=>by cases x<;>simp only[gAV,gVal_eq,gL_eq (gAV_eq d)]
def gB(e:Bool)(x:AV)(s:Sc)(k:AV->Sc->KR):KR:=match e,x with
 |true,.v (.bool b)=>brS s b (fun s=>k (.v (.bool true)) s) (fun s=>k (.v (.bool false)) s)
 |_,x=>k x s
def freshM:MO->Bool
 |.mv _=>false
 |.ld _ _ _=>false
 |.field _ _ _ _=>false
 |.ext _ _=>false
 |_=>true
def gSp{β:Type}(l:List β)(k:List β->KR):KR:=match l with
 |[]=>k []
 |x::r=>gSp r fun r=>k (x::r)
theorem gSp_eq{β:Type}:∀(l:List β) (k:List β->KR),gSp l k=k l
 |[],_=>rfl
 |x::r,k=>by simp only[gSp,gSp_eq r]
def gBl(l:List (Nat × ABlk))(k:List (Nat × ABlk)->KR):KR:=match l with
 |[]=>k []
 |(b,⟨cs,st,ex⟩)::r=>gBl r fun r=>k ((b,⟨cs,st,ex⟩)::r)
theorem gBl_eq:∀(l:List (Nat × ABlk)) (k:List (Nat × ABlk)->KR),gBl l k=k l
 |[],_=>rfl
 |(b,⟨cs,st,ex⟩)::r,k=>by simp only[gBl,gBl_eq r]
def gH(H:AH)(k:AH->KR):KR:=match H with
 |⟨l,n,t⟩=>gBl l fun l=>k ⟨l,n,t⟩
theorem gH_eq(H:AH)(k:AH->KR):gH H k=k H:=by
 obtain⟨l,n,t⟩:=H
 simp only[gH,gBl_eq]
def gFt(f:Foot)(k:Foot->KR):KR:=match f with
 |⟨rd,wr⟩=>gSp rd fun rd=>gSp wr fun wr=>k ⟨rd,wr⟩
theorem gFt_eq(f:Foot)(k:Foot->KR):gFt f k=k f:=by
 obtain⟨rd,wr⟩:=f
 simp only[gFt,gSp_eq]
def runK:List MOp->List AV->AH->Sc->(List AV->AH->List Foot->Sc->KR)->KR
 |[],T,H,s,k=>k T H [] s
 |o::r,T,H,s,k=>coreK A D own Hn o T H s fun v H f s=>gAV 3 v fun v=>gB (freshM o.op) v s fun v s=>gSp (dstSet T o.dst v) fun T=>gFt f fun f=>gH H fun H=>runK r T H s fun T H fs s=>k T H (f::fs) s
def regK(ops:List MOp)(bf:Option (List Nat))(T:List AV):KM (AX × List AV):=fun H s k=>runK A D own Hn ops T H s fun T H fs s=>match bf with
 |none=>k (.normal,T) H ⟨fs.flatMap (·.rd),fs.flatMap (·.wr)⟩ s
 |some bf=>(match heapOk bf fs with
  |true=>k (.normal,T) H ⟨fs.flatMap (·.rd),fs.flatMap (·.wr)⟩ s
  |false=>none)
def evK(f:Nat):MC->List AV->KM (AX × List AV)
 |.skip,T=>KM.ret (.normal,T)
 |.reg ops bf,T=>regK A D own Hn ops bf T
 |.seq a b,T=>(evK f a T).bind fun r=>match r.1 with
  |.normal=>evK f b r.2
  |ax=>KM.ret (ax,r.2)
 |.cond c a b,T=>(match opdA T c with
  |.v (.bool t)=>KM.brk t (evK f a T) (evK f b T)
  |_=>KM.fail)
 |.block id c,T=>(evK f c T).bind fun r=>match r.1 with
  |.exit i=>if i=id then KM.ret (.normal,r.2) else KM.ret (.exit i,r.2)
  |ax=>KM.ret (ax,r.2)
 |.loop i h,T=>(KM.gen (adoptM h.ad T)).bind fun T=>(frzTK h.fz T).bind fun T=>match Nat.beq T.length h.n with
  |true=>(loopsK D Hn f i (pickB h.live T)).bind fun r=>KM.ret (r.1,spreadB (h.out r.1) h.n r.2)
  |false=>KM.fail
 |.exit id,T=>KM.ret (.exit id,T)
 |.ret,T=>KM.ret (.ret,T)
 |.bad,_=>KM.fail
def resK(T:List AV):List MRes->KM (List AV)
 |[]=>KM.ret []
 |.tmp t::r=>(resK T r).bind fun l=>KM.ret ((T[t]?).getD AV.undef::l)
 |.cell x row n::r=>(loadK Hn none row n ((T[x]?).getD AV.undef)).bind fun v=>(resK T r).bind fun l=>KM.ret (v::l)
def finK(n:Nat)(r:AV)(H:AH)(ft:Foot):KR:=
 match (rangeN 0 n).map (outK H ft.wr)++(rangeN n (H.next-n)).map (outN H) with
 |out=>(match gcTrav n out 4096 (r.ids++idsO (takeO out n)) []with
  |none=>none
  |some acc=>some (r.ren (gcN n acc),renO (gcN n acc) (takeO out n)++pickO (gcN n acc) out acc))
def fnK(s:Sc)(f:Nat)(mf:MFn)(args:List AV)(bs:List ABlk):KR:=((evK A D own Hn f mf.body (frame0 mf.nt args)).bind fun r=>match r.1 with
 |.exit _=>KM.fail
 |.goto _=>KM.fail
 |_=>(resK Hn r.2 mf.res).bind fun l=>(match mf.own with
  |true=>KM.ret (tupA l)
  |false=>frzK 1000 (tupA l)).bind fun v=>match mf.tch with
   |true=>(KM.gen (touchI (idsL args))).bind fun _=>KM.ret v
   |false=>KM.ret v) ⟨enumB 0 bs,bs.length,none⟩ s fun v H ft _=>finK bs.length v H ft
def nubN(n:Nat):List Nat->List Nat
 |[]=>[]
 |x::r=>match Nat.blt x n,hasN x r with
  |true,false=>x::nubN n r
  |_,_=>nubN n r
def tailK(n:Nat)(L:List Nat)(H:AH)(wr:List Nat)(r:AV)(o:List BO):KR:=match bndN o.length r.ids,bndO o.length o with
 |true,true=>(match (nextB.bind fun n=>(writeAll (backN L n) L o).bind fun out=>(newAll (backN L n) out).bind fun _=>AM.ret (r.ren (backN L n))) H with
  |some (.tup (x::ys),H',f)=>(match axOf x with
   |some ax=>finK n (.tup (axA ax::ys)) H' ⟨[],wr++f.wr⟩
   |none=>none)
  |_=>none)
 |_,_=>none
def recK(f i:Nat)(xs:List AV)(H:AH)(ft:Foot)(n:Nat):KR:=match trav 4096 (idsL xs) [] H with
 |some (L,_,f1)=>(match readAll L H with
  |some (bs,_,f2)=>askK D (.lp f i) (renL (fun b=>idx b L) xs) (bs.map (ABlk.ren fun b=>idx b L)) fun r o=>tailK n L H (nubN n (ft.wr++(f1.wr++f2.wr))) r o
  |none=>none)
 |none=>none
def lpK(s:Sc)(f i:Nat)(h:LpH)(c:MC)(xs:List AV)(bs:List ABlk):KR:=evK A D own Hn f c (spreadB h.live h.n xs) ⟨enumB 0 bs,bs.length,none⟩ s fun r H ft s=>match r.1 with
 |.normal=>frzTK h.fz r.2 H s fun T H g _=>recK D f i (pickB h.live T) H ⟨ft.rd++g.rd,ft.wr++g.wr⟩ bs.length
 |.goto _=>none
 |ax=>((frzTK (h.fzo ax) r.2).bind fun T=>(KM.gen (delT (h.dlo ax) T)).bind fun _=>(KM.gen (touchA (h.nt ax) (pickB (h.out ax) T))).bind fun ys=>KM.ret (.tup (axA ax::ys))) H s fun v H f _=>finK bs.length v H ⟨ft.rd++f.rd,ft.wr++f.wr⟩
end
end Go.Proofs.YtpncilciembjdaaGreatDoor
namespace Go.Proofs.YtpncilciembjdaaGreatDoor
open Go.RowKit

def SK{α:Type}(m:AM α)(mK:KM α):Prop:=∀ H s k r,mK H s k=some r->∃ a H' f s',m H=some (a,H',f)/\k a H' f s'=some r
section
variable {α β:Type}
theorem SK.ret(a:α):SK (AM.ret a) (KM.ret a):=fun H s k r h=>⟨a,H,⟨[],[]⟩,s,rfl,h⟩
theorem SK.fail(m:AM α):SK m (KM.fail):=fun H s k r h=>by cases h
theorem SK.gen(m:AM α):SK m (KM.gen m):=fun H s k r h=>by
 unfold KM.gen at h
 split at h
 .exact⟨_,_,_,s,‹_›,h⟩
 .cases h
theorem SK.opt:∀ o:Option α,SK (AM.opt o) (KM.opt o)
 |some a=>SK.ret a
 |none=>SK.fail _
theorem SK.bind{m:AM α}{mK:KM α}{f:α->AM β}{fK:α->KM β}(hm:SK m mK)(hf:∀ a,SK (f a) (fK a)):SK (m.bind f) (mK.bind fK):=fun H s k r h=>by
 obtain⟨a,H1,f1,s1,h1,h2⟩:=hm H s _ r h
 obtain⟨b,H2,f2,s2,h3,h4⟩:=hf a H1 s1 _ r h2
 refine⟨b,H2,_,s2,?_,h4⟩
 unfold AM.bind
 simp only[h1,h3]
theorem br_some{b:Bool}{x y:KR}{r:AV × List BO}(h:br b x y=some r):(b=true/\x=some r)\/(b=false/\y=some r):=by
 cases b
 .exact .inr ⟨rfl,h⟩
 .exact .inl ⟨rfl,h⟩
theorem brS_some{s:Sc}{c:Bool}{x y:Sc->KR}{r:AV × List BO}(h:brS s c x y=some r):∃ s',(c=true/\x s'=some r)\/(c=false/\y s'=some r):=by
 unfold brS at h
 split at h
 .rcases br_some h with⟨e,h⟩|⟨e,h⟩
  .exact⟨_,.inl ⟨e,h⟩⟩
  .exact⟨_,.inr ⟨e,h⟩⟩
 .rcases br_some h with⟨e,h⟩|⟨e,h⟩
  .exact⟨_,.inl ⟨e,h⟩⟩
  .exact⟨_,.inr ⟨e,h⟩⟩
 .rcases br_some h with⟨e,h⟩|⟨e,h⟩
  .exact⟨_,.inl ⟨e,h⟩⟩
  .cases h
 .rcases br_some h with⟨e,h⟩|⟨e,h⟩
  .cases h
  .exact⟨_,.inr ⟨e,h⟩⟩
theorem SK.brk{b:Bool}{m:AM α}{x y:KM α}(hx:b=true->SK m x)(hy:b=false->SK m y):SK m (KM.brk b x y):=fun H s k r h=>by
 obtain⟨s',⟨e,h⟩|⟨e,h⟩⟩:=brS_some h
 .exact hx e H s' k r h
 .exact hy e H s' k r h
theorem SK.test{b:Bool}{m:AM α}{x:KM α}(hx:b=true->SK m x):SK m (KM.test b x):=fun H s k r h=>by
 rcases br_some h with⟨e,h⟩|⟨e,h⟩
 .exact hx e H s k r h
 .cases h
theorem SK.unI{n:Int}{m:AM α}{f:Nat->KM α}(hf:∀ i,n=.ofNat i->SK m (f i)):SK m (KM.unI n f):=fun H s k r h=>by
 unfold KM.unI Go.Proofs.YtpncilciembjdaaGreatDoor.unI at h
 cases n with
 |ofNat i=>exact hf i rfl H s k r h
 |negSucc i=>cases h
theorem SK.idx{x:AV}{m:AM α}{f:Nat->KM α}(hf:∀ i,x.idx=some i->SK m (f i)):SK m (KM.idx x f):=by
 unfold KM.idx
 split
 .exact SK.unI fun i e=>hf i (by rw[e];rfl)
 .exact SK.fail _
theorem SK.idxO{n:Nat}{x:Option AV}{m:AM α}{f:Nat->KM α}(hf:∀ i,optM n x=some i->SK m (f i)):SK m (KM.idxO n x f):=by
 unfold KM.idxO
 cases x with
 |none=>exact hf n rfl
 |some x=>exact SK.idx fun i e=>hf i e
theorem SK.nth{xs:List (List AV)}{i:Nat}{m:AM α}{f:List AV->KM α}(hf:∀ cs,nthR xs i=some cs->SK m (f cs)):SK m (KM.nth xs i f):=fun H s k r h=>by
 unfold KM.nth nthK at h
 split at h
 .exact hf _ ‹_› H s k r h
 .cases h
theorem SK.rd{cells:List AV}{o n:Nat}{f:List AV->AM β}{fK:List AV->KM β}{m:AM β}(hm:o+n<=cells.length->m=f ((cells.drop o).take n))(hf:∀ cs,SK (f cs) (fK cs)):SK m ((KM.rd cells o n).bind fK):=fun H s k r h=>by
 unfold KM.bind KM.rd rdK at h
 split at h
 .rename_i e
  rw[hm (by simpa using e)]
  exact hf _ H s _ r (by simpa using h)
 .cases h
end
mutual
theorem expand_some:∀(s:Sh) (x:AV) {K:AV->KR} {r:AV × List BO},expand s x K=some r->K x=some r
 |.int kd,x,K,r,h=>by
  simp only[expand,unInt]at h
  split at h
  .split at h
   .rename_i e;rw[←e]at h;exact h
   .cases h
  .cases h
 |.bool,x,K,r,h=>by
  simp only[expand,unBool]at h
  split at h
  .exact h
  .cases h
 |.str,x,K,r,h=>by
  simp only[expand,unStr]at h
  split at h
  .exact h
  .cases h
 |.ls,x,K,r,h=>by
  simp only[expand,unLs]at h
  split at h
  .exact h
  .cases h
 |.lp l,x,K,r,h=>by
  simp only[expand,unLp]at h
  split at h
  .exact h
  .exact expandL_some l _ h
  .cases h
 |.agg l,x,K,r,h=>by
  simp only[expand,unAgg]at h
  split at h
  .exact expandL_some l _ h
  .cases h
 |.tup l,x,K,r,h=>by
  simp only[expand,unTup]at h
  split at h
  .exact expandL_some l _ h
  .cases h
 |.sl b e,x,K,r,h=>by
  simp only[expand,unSl]at h
  split at h
  .split at h
   .rename_i e1 e2
    have e1:b=_:=Nat.eq_of_beq_eq_true e1
    have e2:e=_:=Nat.eq_of_beq_eq_true e2
    rw[←e1,←e2];exact h
   .cases h
  .cases h
 |.ptr b o,x,K,r,h=>by
  simp only[expand,unPtr]at h
  split at h
  .split at h
   .rename_i e1 e2
    have e1:b=_:=Nat.eq_of_beq_eq_true e1
    have e2:o=_:=Nat.eq_of_beq_eq_true e2
    rw[←e1,←e2];exact h
   .cases h
  .cases h
 |.cst v,x,K,r,h=>by
  simp only[expand,unCst]at h
  split at h
  .rename_i u
   split at h
   .rename_i e
    have:v=u:=by
     unfold isCst at e
     split at e
     .rfl
     .rfl
     .cases e
    rw[←this];exact h
   .cases h
  .cases h
 |.fnc f,x,K,r,h=>by
  simp only[expand,unFn]at h
  split at h
  .split at h
   .rename_i e
    have:=Nat.eq_of_beq_eq_true e
    subst this
    exact h
   .cases h
  .cases h
 |.any,x,K,r,h=>by simpa only[expand]using h
theorem expandL_some:∀(l:List Sh) (cs:List AV) {K:List AV->KR} {r:AV × List BO},expandL l cs K=some r->K cs=some r
 |[],cs,K,r,h=>by
  simp only[expandL,unNil]at h
  split at h
  .exact h
  .cases h
 |s::l,cs,K,r,h=>by
  have gen:(unCons cs fun c r=>expand s c fun c=>expandL l r fun r=>K (c::r))=some r->K cs=some r:=fun h=>by
   simp only[unCons]at h
   split at h
   .cases h
   .have:=expandL_some l _ (expand_some s _ h)
    exact this
  cases s with
  |int kd=>
   simp only[expandL,cInt]at h
   split at h
   .split at h
    .rename_i e
     have:=expandL_some l _ h
     rw[←e]at this
     exact this
    .cases h
   .cases h
  |bool=>
   simp only[expandL,cBool]at h
   split at h
   .have:=expandL_some l _ h
    exact this
   .cases h
  |str=>
   simp only[expandL,cStr]at h
   split at h
   .have:=expandL_some l _ h
    exact this
   .cases h
  |ls=>
   simp only[expandL,cLs]at h
   split at h
   .have:=expandL_some l _ h
    exact this
   .cases h
  |_=>
   simp only[expandL]at h
   exact gen h
end
theorem expandO_some:∀(l:List Os) (o:List BO) {K:List BO->KR} {r:AV × List BO},expandO l o K=some r->K o=some r
 |[],cs,K,r,h=>by
  simp only[expandO,unEnd]at h
  split at h
  .exact h
  .cases h
 |s::l,o,K,r,h=>by
  simp only[expandO,unOut]at h
  split at h
  .cases h
  .cases s with
   |keep=>
    simp only[unKeep]at h
    split at h
    .have:=expandO_some l _ h
     exact this
    .cases h
   |del=>
    simp only[unDel]at h
    split at h
    .have:=expandO_some l _ h
     exact this
    .cases h
   |row st=>
    simp only[unSet]at h
    split at h
    .split at h
     .rename_i e
      obtain⟨rfl,rfl⟩:=e
      have:=expandO_some l _ h
      exact this
     .cases h
    .cases h
   |box m=>
    simp only[unSet]at h
    split at h
    .split at h
     .rename_i e
      obtain⟨rfl,rfl⟩:=e
      have:=expandO_some l _ (expandL_some m _ h)
      exact this
     .cases h
    .cases h
theorem SK.exp(t:Sh)(x:AV):SK (AM.ret x) (KM.exp t x):=fun H s k r h=>⟨x,H,⟨[],[]⟩,s,rfl,expand_some t x h⟩
theorem SK.expL(t:List Sh)(x:List AV):SK (AM.ret x) (KM.expL t x):=fun H s k r h=>⟨x,H,⟨[],[]⟩,s,rfl,expandL_some t x h⟩
theorem SK.expO(t:List Os)(x:List BO):SK (AM.ret x) (KM.expO t x):=fun H s k r h=>⟨x,H,⟨[],[]⟩,s,rfl,expandO_some t x h⟩
theorem SK.look{α β:Type}{x:α}{mK:KM α}(hm:SK (AM.ret x) mK){f:α->AM β}{fK:α->KM β}(hf:∀ a,SK (f a) (fK a)):SK (f x) (mK.bind fK):=fun H s k r h=>by
 obtain⟨a,H1,f1,s1,h1,h2⟩:=hm H s _ r h
 obtain⟨rfl,rfl⟩:=ret_some h1
 have e:f1=⟨[],[]⟩:=by
  simp only[AM.ret,Option.some.injEq,Prod.mk.injEq]at h1
  exact h1.2.2.symm
 subst e
 exact hf _ _ _ _ r (by simpa using h2)
section
variable {A:Ar} {D:Orc} {own:List (Nat × Nat)} {Hn:Hnt}
theorem SK.tm(d:Option Nat)(cs:List AV):SK (AM.ret cs) (tmK Hn d cs):=by
 unfold tmK
 split
 .split
  .exact SK.expL _ _
  .exact SK.ret _
 .exact SK.ret _
theorem SK.rdAt(d:Option Nat)(a:AV)(n:Nat):SK (rdAt a n) (rdAtK Hn d a n):=by
 unfold rdAtK
 split
 .unfold Go.Proofs.YtpncilciembjdaaGreatDoor.rdAt
  refine SK.bind (SK.gen _) fun k=>SK.rd (f:=fun cs=>AM.ret cs) (fun h=>if_pos h) fun cs=>?_
  split
  .exact SK.tm _ _
  .exact SK.ret _
 .exact SK.gen _
theorem SK.load(d:Option Nat)(row:Bool)(n:Nat)(a:AV):SK (loadM row n a) (loadK Hn d row n a):=by
 cases row with
 |true=>exact SK.bind (SK.rdAt _ _ _) fun _=>SK.ret _
 |false=>exact SK.bind (SK.rdAt _ _ _) fun _=>SK.opt _
theorem SK.store(n:Nat)(a x:AV):SK (storeM n a x) (storeK n a x):=by
 unfold storeM storeK
 cases a with
 |ptr b o=>
  simp only
  split
  .refine SK.bind (SK.gen _) fun k=>?_
   by_cases h:k.st=true/\(!k.ex||noidL x.cells)=true
   .rw[if_pos h]
    refine SK.test fun e=>?_
    rw[if_pos ⟨h.1,by simpa using e,h.2⟩]
    exact SK.bind (SK.gen _) fun _=>SK.ret _
   .rw[if_neg h]
    exact SK.fail _
  .exact SK.fail _
 |_=>exact SK.fail _
theorem SK.iaddr(d:Option Nat)(e:Nat)(x ix:AV):SK (AM.opt (iaddrM e x ix)) (iaddrK Hn d e x ix):=by
 unfold iaddrK
 refine SK.idx fun i hi=>?_
 unfold iaddrM
 simp only[hi]
 cases x with
 |sl b o n e'=>
  simp only
  refine SK.test fun h=>?_
  rw[h]
  simp only
  split
  .exact SK.ret _
  .exact SK.fail _
 |ls xs=>
  simp only
  refine SK.nth fun cs h=>?_
  rw[h]
  simp only
  refine SK.look (f:=fun(cs:List AV)=>AM.opt (match Nat.beq cs.length e with
   |true=>some (AV.lp cs)
   |false=>none)) (SK.tm d cs) fun cs=>?_
  cases Nat.beq cs.length e with
  |true=>exact SK.ret _
  |false=>exact SK.fail _
 |_=>exact SK.fail _
theorem SK.aaddr(n e:Nat)(x ix:AV):SK (AM.opt (aaddrM n e x ix)) (aaddrK n e x ix):=by
 unfold aaddrK
 refine SK.idx fun i hi=>?_
 unfold aaddrM
 simp only[hi]
 refine SK.test fun h=>?_
 rw[h]
 exact SK.opt _
theorem take_one{cs:List AV}{o:Nat}(h:o+1<=cs.length):one? ((cs.drop o).take 1)=cs[o]?:=by
 have h1:o<cs.length:=h
 rw[List.getElem?_eq_getElem h1,List.drop_eq_getElem_cons h1]
 rfl
theorem SK.index(d:Option Nat)(n e:Nat)(row:Bool)(sz:Nat)(x ix:AV):SK (AM.opt (indexM n e row sz x ix)) (indexK d n e row sz x ix):=by
 unfold indexK
 refine SK.idx fun i hi=>?_
 unfold indexM
 cases x with
 |agg cs=>
  simp only[hi]
  refine SK.test fun h=>?_
  rw[h]
  simp only
  unfold partM
  cases row with
  |true=>exact SK.rd (f:=fun xs=>AM.ret (.agg xs)) (fun _=>rfl) fun _=>SK.ret _
  |false=>exact SK.rd (f:=fun xs=>AM.opt (one? xs)) (fun h=>by rw[take_one h]) fun _=>SK.opt _
 |_=>exact SK.fail _
theorem inB_true{l h n:Nat}(e:inB l h n=true):Nat.ble l h=true/\Nat.ble h n=true:=by
 unfold inB at e
 split at e
 .exact⟨‹_›,e⟩
 .cases e
theorem fitsB_true{n b:Nat}(e:fitsB n b=true):Nat.ble (n*b) 140737488355328=true/\Nat.ble n maxLen=true:=by
 unfold fitsB at e
 split at e
 .exact⟨‹_›,e⟩
 .cases e
theorem SK.slice(e:Nat)(x:AV)(lo hi:Option AV):SK (AM.opt (sliceM e x lo hi)) (sliceK e x lo hi):=by
 unfold sliceK sliceM
 cases x with
 |sl b o n e'=>
  simp only
  refine SK.idxO fun l hl=>SK.idxO fun h hh=>SK.test fun hb=>?_
  rw[hl,hh]
  obtain⟨h1,h2⟩:=inB_true hb
  simp only[h1,h2]
  cases Nat.beq e' e with
  |true=>exact SK.ret _
  |false=>exact SK.fail _
 |ls xs=>
  simp only
  refine SK.idxO fun l hl=>SK.idxO fun h hh=>SK.test fun hb=>SK.test fun hw=>?_
  rw[hl,hh]
  obtain⟨h1,h2⟩:=inB_true hb
  simp only[h1,h2,hw]
  exact SK.ret _
 |_=>exact SK.fail _
theorem SK.bin(b:BinOp)(x y:AV):SK (AM.opt (binM A b x y)) (binK A b x y):=by
 unfold binK
 split
 .rename_i k a k' c
  cases b with
  |shl=>
   simp only
   refine SK.brk (fun _=>SK.fail _) fun h=>?_
   simp only[binM,h]
   exact SK.ret _
  |shr=>
   simp only
   refine SK.brk (fun _=>SK.fail _) fun h=>?_
   simp only[binM,h]
   exact SK.ret _
  |quo=>
   simp only
   split
   .rename_i e
    refine SK.brk (fun _=>SK.fail _) fun h=>?_
    simp only[binM,h,if_pos e]
    exact SK.ret _
   .exact SK.fail _
  |rem=>
   simp only
   split
   .rename_i e
    refine SK.brk (fun _=>SK.fail _) fun h=>?_
    simp only[binM,h,if_pos e]
    exact SK.ret _
   .exact SK.fail _
  |neq=>
   simp only
   split
   .rename_i e
    refine SK.brk (fun h=>?_) fun h=>?_<;>(simp only[binM,h,if_pos e];exact SK.ret _)
   .exact SK.fail _
  |_=>exact SK.opt _
 .cases b with
  |neq=>
   simp only
   refine SK.brk (fun h=>?_) fun h=>?_<;>(simp only[binM,h];exact SK.ret _)
  |add=>
   simp only
   refine SK.test fun h=>?_
   simp only[binM,h]
   exact SK.ret _
  |_=>exact SK.opt _
 .exact SK.opt _
theorem SK.sidx(x i:AV):SK (AM.opt (sidxM A x i)) (sidxK A x i):=by
 unfold sidxK
 split
 .refine SK.idx fun j hj=>SK.test fun h=>?_
  simp only[sidxM,hj,h]
  exact SK.ret _
 .exact SK.fail _
theorem SK.sslice(x:AV)(lo hi:Option AV):SK (AM.opt (ssliceM A x lo hi)) (ssliceK A x lo hi):=by
 unfold ssliceK
 split
 .refine SK.idxO fun l hl=>SK.idxO fun h hh=>SK.test fun hb=>?_
  obtain⟨h1,h2⟩:=inB_true hb
  simp only[ssliceM,hl,hh,h1,h2]
  exact SK.ret _
 .exact SK.fail _
theorem SK.news(e:Nat)(x:AV):SK (newsM e x) (newsK e x):=by
 unfold newsK newsM
 cases x with
 |sl b o n e'=>
  simp only
  split
  .refine SK.bind (SK.gen _) fun k=>SK.test fun h=>?_
   rw[h]
   cases (k.ex||noidL ((k.cells.drop o).take (n*e))) with
   |true=>exact SK.ret _
   |false=>exact SK.fail _
  .exact SK.fail _
 |ls xs=>
  simp only
  refine SK.test fun h=>?_
  rw[h]
  exact SK.ret _
 |v z=>
  cases z with
  |slice a n c=>
   cases a with
   |none=>
    cases n with
    |zero=>
     cases c with
     |zero=>exact SK.ret _
     |succ c=>exact SK.fail _
    |succ n=>exact SK.fail _
   |some a=>exact SK.fail _
  |_=>exact SK.fail _
 |_=>exact SK.fail _
theorem SK.app(e bytes:Nat)(s x:AV):SK (appM e bytes s x) (appK e bytes s x):=by
 unfold appK appM
 refine SK.bind (SK.news e x) fun r=>SK.brk (fun h=>?_) fun h=>SK.test fun h2=>?_
 .rw[h]
  simp only
  split
  .exact SK.ret _
  .exact SK.fail _
 .rw[h,h2]
  simp only
  unfold growK
  cases s with
  |sl b o n e'=>
   simp only
   cases he:Nat.beq e' e with
   |false=>exact SK.fail _
   |true=>
    simp only
    refine SK.test fun h3=>?_
    obtain⟨h4,h5⟩:=fitsB_true h3
    simp only[h4,h5]
    refine SK.bind (SK.gen _) fun k=>?_
    cases k.ex with
    |false=>exact SK.fail _
    |true=>
     cases k.st with
     |true=>
      simp only
      refine SK.test fun h6=>?_
      cases Nat.beq (o+n*e) k.cells.length with
      |true=>exact SK.bind (SK.gen _) fun _=>SK.bind (SK.gen _) fun _=>SK.ret _
      |false=>
       simp only[h6]
       exact SK.bind (SK.gen _) fun _=>SK.bind (SK.gen _) fun _=>SK.ret _
     |false=>
      simp only
      refine SK.test fun h6=>?_
      rw[h6]
      exact SK.bind (SK.gen _) fun _=>SK.bind (SK.gen _) fun _=>SK.ret _
  |v z=>
   cases z with
   |slice a n c=>
    cases a with
    |none=>
     cases n with
     |zero=>
      cases c with
      |zero=>
       refine SK.test fun h3=>?_
       obtain⟨h4,h5⟩:=fitsB_true h3
       simp only[h4,h5]
       exact SK.bind (SK.gen _) fun _=>SK.ret _
      |succ c=>exact SK.fail _
     |succ n=>exact SK.fail _
    |some a=>exact SK.fail _
   |_=>exact SK.fail _
  |_=>exact SK.fail _
theorem SK.mksl(z:List Value)(e b:Nat)(l c:AV):SK (mkslM z e b l c) (mkslK z e b l c):=by
 unfold mkslK mkslM
 refine SK.idx fun n hn=>SK.idx fun m hm=>SK.test fun h1=>SK.test fun h2=>?_
 obtain⟨h3,h4⟩:=fitsB_true h2
 simp only[hn,hm,h1,h3,h4]
 exact SK.bind (SK.gen _) fun _=>SK.ret _
theorem SK.cpy(e:Nat)(d x:AV):SK (cpyM e d x) (cpyK e d x):=by
 unfold cpyK cpyM
 cases d with
 |sl b o n e'=>
  simp only
  cases Nat.beq e' e with
  |false=>exact SK.fail _
  |true=>
   simp only
   refine SK.bind (SK.news e x) fun r=>SK.test fun h=>?_
   rw[h]
   simp only
   refine SK.bind (SK.gen _) fun k=>?_
   cases k.st with
   |false=>exact SK.fail _
   |true=>
    simp only
    refine SK.test fun h2=>?_
    rw[h2]
    exact SK.bind (SK.gen _) fun _=>SK.ret _
 |_=>exact SK.fail _
theorem SK.clr(z:List Value)(e:Nat)(x:AV):SK (clrM z e x) (clrK z e x):=by
 unfold clrK clrM
 cases x with
 |sl b o n e'=>
  simp only
  cases Nat.beq e' e with
  |false=>exact SK.fail _
  |true=>
   simp only
   refine SK.bind (SK.gen _) fun k=>?_
   cases k.st with
   |false=>exact SK.fail _
   |true=>
    simp only
    refine SK.test fun h2=>?_
    rw[h2]
    exact SK.bind (SK.gen _) fun _=>SK.ret _
 |_=>exact SK.fail _
mutual
theorem SK.frz:∀(n:Nat) (x:AV),SK (frz n x) (frzK n x)
 |0,x=>by
  unfold frzK Go.Proofs.YtpncilciembjdaaGreatDoor.frz
  exact SK.gen _
 |n+1,x=>by
  unfold frzK Go.Proofs.YtpncilciembjdaaGreatDoor.frz
  cases x with
  |v z=>exact SK.ret _
  |sl b o m e=>
   simp only
   refine SK.bind (SK.gen _) fun k=>SK.test fun h=>?_
   rw[h]
   simp only
   refine SK.bind ?_ fun _=>?_
   .cases k.st with
    |true=>exact SK.gen _
    |false=>exact SK.ret _
   .cases (k.ex||noidL ((k.cells.drop o).take (m*e))) with
    |true=>exact SK.ret _
    |false=>
     simp only
     refine SK.bind (SK.frzL n _) fun cs=>?_
     cases noidL cs with
     |true=>exact SK.ret _
     |false=>exact SK.fail _
  |agg cs=>exact SK.bind (SK.frzL n _) fun _=>SK.ret _
  |tup cs=>exact SK.bind (SK.frzL n _) fun _=>SK.ret _
  |_=>exact SK.ret _
theorem SK.frzL:∀(n:Nat) (l:List AV),SK (frzL n l) (frzLK n l)
 |n,[]=>by
  unfold frzLK Go.Proofs.YtpncilciembjdaaGreatDoor.frzL
  exact SK.ret _
 |0,_::_=>by
  unfold frzLK
  exact SK.fail _
 |n+1,x::r=>by
  unfold frzLK Go.Proofs.YtpncilciembjdaaGreatDoor.frzL
  exact SK.bind (SK.frz n x) fun _=>SK.bind (SK.frzL n r) fun _=>SK.ret _
end
theorem SK.frzB(b:Nat):SK (frzB b) (frzBK b):=by
 unfold frzBK Go.Proofs.YtpncilciembjdaaGreatDoor.frzB
 refine SK.bind (SK.gen _) fun k=>?_
 cases k.ex<;>cases k.st<;>try exact SK.ret _
 refine SK.bind (SK.frzL _ _) fun cs=>SK.bind (SK.gen _) fun k2=>?_
 cases k2.ex<;>cases Nat.beq cs.length k2.cells.length<;>first
  |exact SK.gen _
  |exact SK.fail _
theorem SK.frzT:∀(l:List Nat) (T:List AV),SK (frzT l T) (frzTK l T)
 |[],T=>SK.ret _
 |t::r,T=>by
  unfold frzTK Go.Proofs.YtpncilciembjdaaGreatDoor.frzT
  cases T[t]? with
  |none=>exact SK.frzT r T
  |some x=>
   cases x with
   |ptr b o=>exact SK.bind (SK.frzB b) fun _=>SK.frzT r T
   |_=>exact SK.bind (SK.frz _ _) fun _=>SK.frzT r _
theorem SK.frzA(f:Nat):∀(i:Nat) (l:List AV),SK (frzA own f i l) (frzAK own f i l)
 |i,[]=>by
  unfold frzAK Go.Proofs.YtpncilciembjdaaGreatDoor.frzA
  exact SK.ret _
 |i,x::r=>by
  unfold frzAK Go.Proofs.YtpncilciembjdaaGreatDoor.frzA
  cases ownB own f i with
  |true=>exact SK.bind (SK.frzA f (i+1) r) fun _=>SK.ret _
  |false=>exact SK.bind (SK.frz 1000 x) fun _=>SK.bind (SK.frzA f (i+1) r) fun _=>SK.ret _
theorem SK.ask(key:Key)(args:List AV)(bs:List ABlk):SK (AM.opt (D.ask key args bs)) (KM.ask D key args bs):=fun H s k r h=>by
 unfold KM.ask askK at h
 split at h
 .rename_i q e
  rw[e]
  exact⟨q,H,⟨[],[]⟩,s,rfl,h⟩
 .cases h
theorem SK.callD(key:Key){e:AV × List BO->KM (AV × List BO)}(he:∀ q,SK (AM.ret q) (e q))(args:List AV):SK (callD (D.ask key) args) (callDK D key e args):=by
 unfold callDK Go.Proofs.YtpncilciembjdaaGreatDoor.callD
 refine SK.bind (SK.gen _) fun L=>SK.bind (SK.gen _) fun bs=>SK.bind ?_ fun r=>?_
 .intro H s k r h
  obtain⟨a,H1,f1,s1,h1,h2⟩:=SK.ask key _ _ H s _ r h
  obtain⟨b,H2,f2,s2,h3,h4⟩:=he a H1 s1 _ r h2
  obtain⟨rfl,rfl⟩:=ret_some h3
  refine⟨_,_,_,s2,h1,?_⟩
  simp only[AM.ret,Option.some.injEq,Prod.mk.injEq]at h3
  rw[←h3.2.2]at h4
  simpa using h4
 .cases bndN r.2.length r.1.ids with
  |false=>exact SK.fail _
  |true=>
   cases bndO r.2.length r.2 with
   |false=>exact SK.fail _
   |true=>exact SK.bind (SK.gen _) fun _=>SK.bind (SK.gen _) fun _=>SK.bind (SK.gen _) fun _=>SK.ret _
theorem SK.ansF(f:Nat)(q:AV × List BO):SK (AM.ret q) (ansF Hn f q):=by
 unfold Go.Proofs.YtpncilciembjdaaGreatDoor.ansF
 split
 .exact SK.look (f:=fun x=>AM.ret (x,q.2)) (SK.exp _ _) fun x=>SK.look (f:=fun o=>AM.ret (x,o)) (SK.expO _ _) fun _=>SK.ret _
 .exact SK.ret _
theorem SK.calls(f:FuncId)(args:List AV):SK (callsM D own f args) (callsK D own Hn f args):=by
 unfold callsK callsM
 exact SK.bind (SK.frzA f 0 args) fun l=>SK.callD _ (SK.ansF f) l
theorem axIs_eq{k:Nat}{x:AV}(h:axIs k x=true):x=axOut k:=by
 unfold axIs at h
 split at h
 .rfl
 .rename_i i j
  have:i=j:=Nat.eq_of_beq_eq_true h
  rw[this];rfl
 .cases h
theorem SK.ansX:∀(l:List (Nat × (List Sh × List Os))) (x:AV) (ys:List AV) (o:List BO),SK (AM.ret (.tup (x::ys),o)) (ansX l x ys o)
 |[],_,_,_=>SK.fail _
 |(k,s,l)::r,x,ys,o=>by
  unfold Go.Proofs.YtpncilciembjdaaGreatDoor.ansX
  refine SK.brk (fun h=>?_) fun _=>SK.ansX r x ys o
  have hx:x=axOut k:=axIs_eq h
  rw[←hx]
  exact SK.look (f:=fun ys=>AM.ret (AV.tup (x::ys),o)) (SK.expL _ _) fun ys=>SK.look (f:=fun o=>AM.ret (AV.tup (x::ys),o)) (SK.expO _ _) fun _=>SK.ret _
theorem SK.ansL(i:Nat)(q:AV × List BO):SK (AM.ret q) (ansL Hn i q):=by
 unfold Go.Proofs.YtpncilciembjdaaGreatDoor.ansL
 split
 .rename_i l _
  intro H s k r h
  obtain⟨v,o⟩:=q
  cases v with
  |tup cs=>
   cases cs with
   |nil=>cases h
   |cons x ys=>exact SK.ansX l x ys o H s k r h
  |_=>cases h
 .exact SK.ret _
theorem SK.loops(f i:Nat)(xs:List AV):SK (loopsM D f i xs) (loopsK D Hn f i xs):=by
 unfold loopsK loopsM
 refine SK.bind (SK.callD _ (SK.ansL i) xs) fun r=>?_
 cases r with
 |tup vs=>
  cases vs with
  |nil=>exact SK.fail _
  |cons x ys=>
   simp only
   cases axOf x with
   |some ax=>exact SK.ret _
   |none=>exact SK.fail _
 |_=>exact SK.fail _
theorem SK.op(d:Option Nat)(o:MO)(T:List AV):SK (mop A (callsM D own) o T) (opK A D own Hn d o T):=by
 cases o with
 |pick c a b=>
  simp only[opK,mop]
  cases opdA T c with
  |v u=>
   cases u with
   |bool t=>
    simp only
    refine SK.brk (fun h=>?_) fun h=>?_<;>(subst h;exact SK.ret _)
   |_=>exact SK.fail _
  |_=>exact SK.fail _
 |ld row n a=>exact SK.load _ _ _ _
 |st n a x=>exact SK.store _ _ _
 |bin ek b x y=>
  cases ek with
  |zero=>exact SK.bin _ _ _
  |succ n=>exact SK.opt _
 |slice e x lo hi=>exact SK.slice _ _ _ _
 |iaddr e x i=>exact SK.iaddr _ _ _ _
 |aaddr n e x i=>exact SK.aaddr _ _ _ _
 |index n e row sz x i=>exact SK.index d _ _ _ _ _ _
 |mksl z e b l c=>exact SK.mksl _ _ _ _ _
 |app e b s x=>exact SK.app _ _ _ _
 |cpy e d x=>exact SK.cpy _ _ _
 |clr z e x=>exact SK.clr _ _ _
 |sidx x i=>exact SK.sidx _ _
 |sslice x lo hi=>exact SK.sslice _ _ _
 |callF f args=>exact SK.calls _ _
 |callV ents x args=>
  simp only[opK,mop]
  cases opdA T x with
  |fn f a cs=>
   cases f with
   |func g=>
    simp only
    cases ents.testBit g with
    |true=>exact SK.calls _ _
    |false=>exact SK.fail _
   |_=>exact SK.fail _
  |_=>exact SK.fail _
 |_=>exact SK.gen _
theorem SK.core(o:MOp)(T:List AV):SK (coreM A (callsM D own) o T) (coreK A D own Hn o T):=by
 unfold coreK coreM wantM
 cases o.g with
 |none=>exact SK.op _ _ _
 |some g=>
  obtain⟨d,want⟩:=g
  simp only
  cases e:T[d]? with
  |none=>exact SK.fail _
  |some x=>
   cases x with
   |v u=>
    cases u with
    |bool b=>
     simp only
     cases want with
     |true=>
      refine SK.brk (fun h=>?_) fun h=>?_<;>subst h
      .exact SK.op _ _ _
      .exact SK.ret _
     |false=>
      simp only
      refine SK.brk (fun h=>?_) fun h=>?_<;>rw[h]
      .exact SK.op _ _ _
      .exact SK.ret _
    |tuple t=>exact SK.ret _
    |_=>exact SK.fail _
   |_=>exact SK.fail _
theorem gB_some{e:Bool}{x:AV}{s:Sc}{k:AV->Sc->KR}{r:AV × List BO}(h:gB e x s k=some r):∃ s',k x s'=some r:=by
 unfold gB at h
 split at h
 .obtain⟨s',⟨e,h2⟩|⟨e,h2⟩⟩:=brS_some h<;>(subst e;exact⟨s',h2⟩)
 .exact⟨s,h⟩
theorem SK.run:∀(l:List MOp) (T:List AV) (H:AH) (s:Sc) (k:List AV->AH->List Foot->Sc->KR) (r:AV × List BO),runK A D own Hn l T H s k=some r->∃ T' H' fs s',runM A (callsM D own) l T H=some (T',H',fs)/\k T' H' fs s'=some r
 |[],T,H,s,k,r,h=>⟨T,H,[],s,rfl,h⟩
 |o::l,T,H,s,k,r,h=>by
  simp only[runK]at h
  obtain⟨v,H1,f,s1,h1,h2⟩:=SK.core o T H s _ r h
  simp only[gAV_eq,gSp_eq,gFt_eq,gH_eq]at h2
  obtain⟨s2,h2⟩:=gB_some h2
  obtain⟨T',H',fs,s3,h3,h4⟩:=SK.run l _ _ _ _ r h2
  refine⟨T',H',f::fs,s3,?_,h4⟩
  simp only[runM,h1,h3]
theorem SK.reg(ops:List MOp)(bf:Option (List Nat))(T:List AV):SK (regM A (callsM D own) ops bf T) (regK A D own Hn ops bf T):=fun H s k r h=>by
 unfold regK at h
 obtain⟨T',H',fs,s',h1,h2⟩:=SK.run ops T H s _ r h
 unfold regM
 rw[h1]
 cases bf with
 |none=>exact⟨_,_,_,s',rfl,h2⟩
 |some bf=>
  simp only at h2 ⊢
  split at h2
  .rename_i e
   rw[e]
   exact⟨_,_,_,s',rfl,h2⟩
  .cases h2
theorem SK.ev(f:Nat):∀(c:MC) (T:List AV),SK (evC A (callsM D own) (loopsM D f) c T) (evK A D own Hn f c T)
 |.skip,T=>SK.ret _
 |.reg ops bf,T=>SK.reg _ _ _
 |.seq a b,T=>by
  unfold evK evC
  refine SK.bind (SK.ev f a T) fun r=>?_
  obtain⟨ax,T1⟩:=r
  cases ax with
  |normal=>exact SK.ev f b _
  |_=>exact SK.ret _
 |.cond c a b,T=>by
  unfold evK evC
  cases opdA T c with
  |v u=>
   cases u with
   |bool t=>
    simp only
    refine SK.brk (fun h=>?_) fun h=>?_<;>subst h
    .exact SK.ev f a T
    .exact SK.ev f b T
   |_=>exact SK.fail _
  |_=>exact SK.fail _
 |.block id c,T=>by
  unfold evK evC
  refine SK.bind (SK.ev f c T) fun r=>?_
  obtain⟨ax,T1⟩:=r
  cases ax with
  |exit i=>
   simp only
   by_cases e:i=id
   .rw[if_pos e,if_pos e];exact SK.ret _
   .rw[if_neg e,if_neg e];exact SK.ret _
  |_=>exact SK.ret _
 |.loop i h,T=>by
  unfold evK evC
  refine SK.bind (SK.gen _) fun T=>SK.bind (SK.frzT _ _) fun T=>?_
  cases Nat.beq T.length h.n with
  |true=>exact SK.bind (SK.loops f i _) fun _=>SK.ret _
  |false=>exact SK.fail _
 |.exit id,T=>SK.ret _
 |.ret,T=>SK.ret _
 |.bad,T=>SK.fail _
theorem SK.res(T:List AV):∀ l,SK (resM T l) (resK Hn T l)
 |[]=>SK.ret _
 |.tmp _::r=>SK.bind (SK.res T r) fun _=>SK.ret _
 |.cell _ _ _::r=>SK.bind (SK.load _ _ _ _) fun _=>SK.bind (SK.res T r) fun _=>SK.ret _
theorem fin_ok{m:List AV->AM AV}{mK:KM AV}{args:List AV}{bs:List ABlk}{r:AV × List BO}(hm:SK (m args) mK)(s:Sc)(h:mK ⟨enumB 0 bs,bs.length,none⟩ s (fun v H ft _=>finK bs.length v H ft)=some r):gcD (runD m) args bs=some r:=by
 obtain⟨v,H',ft,s',h1,h2⟩:=hm _ _ _ _ h
 unfold gcD runD
 rw[h1]
 exact h2
theorem fnK_ok{f:Nat}{mf:MFn}{args:List AV}{bs:List ABlk}{r:AV × List BO}(s:Sc)(h:fnK A D own Hn s f mf args bs=some r):gcD (runD (fnM A D own f mf)) args bs=some r:=by
 unfold fnK at h
 refine fin_ok ?_ s h
 unfold fnM
 have fin:∀ T,SK ((resM T mf.res).bind fun l=>(match mf.own with
   |true=>AM.ret (tupA l)
   |false=>frz 1000 (tupA l)).bind fun v=>match mf.tch with
    |true=>(touchI (idsL args)).bind fun _=>AM.ret v
    |false=>AM.ret v) ((resK Hn T mf.res).bind fun l=>(match mf.own with
   |true=>KM.ret (tupA l)
   |false=>frzK 1000 (tupA l)).bind fun v=>match mf.tch with
    |true=>(KM.gen (touchI (idsL args))).bind fun _=>KM.ret v
    |false=>KM.ret v):=fun T=>by
  refine SK.bind (SK.res _ _) fun l=>SK.bind ?_ fun v=>?_
  .cases mf.own with
   |true=>exact SK.ret _
   |false=>exact SK.frz _ _
  .cases mf.tch with
   |true=>exact SK.bind (SK.gen _) fun _=>SK.ret _
   |false=>exact SK.ret _
 refine SK.bind (SK.ev f _ _) fun r=>?_
 obtain⟨ax,T1⟩:=r
 cases ax with
 |exit i=>exact SK.fail _
 |goto l=>exact SK.fail _
 |normal=>exact fin T1
 |ret=>exact fin T1
theorem bind_mk{α β:Type}{m:AM α}{f:α->AM β}{H H1 H2:AH}{a:α}{b:β}{f1 f2:Foot}(h1:m H=some (a,H1,f1))(h2:f a H1=some (b,H2,f2)):(m.bind f) H=some (b,H2,⟨f1.rd++f2.rd,f1.wr++f2.wr⟩):=by
 unfold AM.bind
 simp only[h1,h2]
theorem hasN_nub(n b:Nat)(hb:b<n):∀ l,hasN b (nubN n l)=hasN b l
 |[]=>rfl
 |x::r=>by
  have ih:=hasN_nub n b hb r
  unfold nubN
  split
  .unfold hasN
   rw[ih]
  .rename_i h
   rw[ih]
   conv=>rhs;unfold hasN
   cases e:Nat.beq b x with
   |false=>rfl
   |true=>
    have e:b=x:=Nat.eq_of_beq_eq_true e
    subst e
    have h1:Nat.blt b n=true:=by rw[bltN];simpa using hb
    cases h2:hasN b r with
    |true=>rfl
    |false=>exact absurd h2 (h h1)
theorem hasN_append(b:Nat)(l m:List Nat):hasN b (l++m)=(hasN b l||hasN b m):=by
 simp only[hasN_eq]
 simp
theorem finK_congr{n:Nat}{r:AV}{H:AH}{f1 f2:Foot}(h:∀ b,b<n->hasN b f1.wr=hasN b f2.wr):finK n r H f1=finK n r H f2:=by
 have:(rangeN 0 n).map (outK H f1.wr)=(rangeN 0 n).map (outK H f2.wr):=by
  refine List.map_congr_left fun b hb=>?_
  obtain⟨i,hi⟩:=List.getElem?_of_mem hb
  rw[get_rangeN]at hi
  split at hi
  .simp only[Option.some.injEq]at hi
   unfold outK
   rw[h b (by omega)]
  .cases hi
 unfold finK
 rw[this]
theorem recK_ok{f i n:Nat}{xs:List AV}{H:AH}{ft:Foot}{r:AV × List BO}(h:recK D f i xs H ft n=some r):∃ q H' f',loopsM D f i xs H=some (q,H',f')/\finK n (.tup (axA q.1::q.2)) H' ⟨ft.rd++f'.rd,ft.wr++f'.wr⟩=some r:=by
 unfold recK at h
 split at h
 .rename_i L H1 f1 e1
  split at h
  .rename_i bs H2 f2 e2
   unfold askK at h
   split at h
   .rename_i q e3
    obtain⟨v,o⟩:=q
    simp only at h
    unfold tailK at h
    cases c1:bndN o.length v.ids<;>cases c2:bndO o.length o<;>rw[c1,c2]at h<;>try (cases h;done)
    simp only at h
    split at h
    .rename_i x ys H' f' e4
     split at h
     .rename_i ax e5
      have t1:=(trav_ok _ _ _ _ e1).1
      have t2:=(readAll_ok _ e2).1
      rw[t1]at e1
      rw[t2]at e2
      refine⟨(ax,ys),H',_,bind_mk (bind_mk e1 (bind_mk e2 (bind_mk (a:=(v,o)) (H1:=H) (f1:=⟨[],[]⟩) (by rw[e3];rfl) (b:=.tup (x::ys)) (H2:=H') (f2:=f') ?_))) (b:=(ax,ys)) (H2:=H') (f2:=⟨[],[]⟩) ?_,?_⟩
      .simp only[c1,c2]
       exact e4
      .simp only[e5]
       rfl
      .rw[←h]
       refine finK_congr fun b hb=>?_
       simp only[hasN_append,hasN_nub n b hb,List.append_nil,List.nil_append,Bool.or_assoc]
     .cases h
    .cases h
   .cases h
  .cases h
 .cases h
theorem lpK_ok{f i:Nat}{q:LpH}{c:MC}{xs:List AV}{bs:List ABlk}{r:AV × List BO}(s:Sc)(h:lpK A D own Hn s f i q c xs bs=some r):gcD (runD (lpM A D own f i q c)) xs bs=some r:=by
 have key:∀ v H' ft,lpM A D own f i q c xs ⟨enumB 0 bs,bs.length,none⟩=some (v,H',ft)->finK bs.length v H' ft=some r->gcD (runD (lpM A D own f i q c)) xs bs=some r:=fun v H' ft h1 h2=>by
  unfold gcD runD
  rw[h1]
  exact h2
 unfold lpK at h
 obtain⟨⟨ax,T1⟩,H1,f1,s1,h1,h2⟩:=SK.ev f c _ _ s _ r h
 have out:∀(ax:AX),((frzTK (q.fzo ax) T1).bind fun T=>(KM.gen (delT (q.dlo ax) T)).bind fun _=>(KM.gen (touchA (q.nt ax) (pickB (q.out ax) T))).bind fun ys=>KM.ret (.tup (axA ax::ys))) H1 s1 (fun v H f _=>finK bs.length v H ⟨f1.rd++f.rd,f1.wr++f.wr⟩)=some r->∃ v H' f,((frzT (q.fzo ax) T1).bind fun T=>(delT (q.dlo ax) T).bind fun _=>(touchA (q.nt ax) (pickB (q.out ax) T)).bind fun ys=>AM.ret (.tup (axA ax::ys))) H1=some (v,H',f)/\finK bs.length v H' ⟨f1.rd++f.rd,f1.wr++f.wr⟩=some r:=fun ax h=>by
  obtain⟨v,H',f,s2,h3,h4⟩:=(SK.bind (SK.frzT (q.fzo ax) T1) fun T=>SK.bind (SK.gen _) fun _=>SK.bind (SK.gen _) fun ys=>SK.ret (AV.tup (axA ax::ys))) H1 s1 _ r h
  exact⟨v,H',f,h3,h4⟩
 cases ax with
 |normal=>
  obtain⟨T2,H2,f2,s2,h5,h6⟩:=SK.frzT q.fz T1 H1 s1 _ r h2
  obtain⟨p,H',f',h3,h4⟩:=recK_ok h6
  refine key _ H' _ ?_ h4
  unfold lpM
  simp only[AM.bind,h1,h5,h3,AM.ret,List.append_nil,List.append_assoc]
 |goto l=>cases h2
 |exit k=>
  obtain⟨v,H',f',h3,h4⟩:=out _ h2
  refine key v H' _ ?_ h4
  unfold lpM
  rw[AM.bind,h1]
  simp only
  rw[h3]
 |ret=>
  obtain⟨v,H',f',h3,h4⟩:=out _ h2
  refine key v H' _ ?_ h4
  unfold lpM
  rw[AM.bind,h1]
  simp only
  rw[h3]
end
section
variable {A:Ar} {M:Seat}
theorem ask_fn(Hn:Hnt)(s:Sc){f:Nat}{mf:MFn}(he:M.ext f=none)(hf:M.fns f=some mf){args:List AV}{bs:List ABlk}{r:AV × List BO}(h:fnK A (Dstar A M) M.own Hn s f mf args bs=some r):(Dstar A M).ask (.fn f) args bs=some r:=star_fn he hf (fnK_ok s h)
theorem ask_lp(Hn:Hnt)(s:Sc){f i:Nat}{mf:MFn}{q:LpH}{c:MC}(hf:M.fns f=some mf)(hl:mf.loops[i]? = some (q,c)){args:List AV}{bs:List ABlk}{r:AV × List BO}(h:lpK A (Dstar A M) M.own Hn s f i q c args bs=some r):(Dstar A M).ask (.lp f i) args bs=some r:=star_lp hf hl (lpK_ok s h)
end
end Go.Proofs.YtpncilciembjdaaGreatDoor
namespace Go.Proofs.YtpncilciembjdaaGreatDoor
open Go.RowKit

/- short names -/
def iv(n:Int):AV:=.v (.int .i64 n)
def bv(b:Bool):AV:=.v (.bool b)
def sv(s:ByteArray):AV:=.v (.string s)
def bstr(l:List UInt8):ByteArray:=⟨l.toArray⟩
def okFnD(P:Program)(f:Nat):Bool:=match P.funcs[f]? with
 |some fn=>(match fn.body with
  |some c=>okC c&&okR P fn.results.toList
  |none=>false)
 |none=>false
def mfD(P:Program)(ents:Nat)(hs:Hints)(ownR tch:Bool)(f:Nat):MFn:=match P.funcs[f]? with
 |some fn=>(match fn.body with
  |some c=>⟨fn.ntmps,compR P fn.results.toList,(compC P ents hs c 0).1,(compC P ents hs c 0).2,ownR,tch⟩
  |none=>⟨0,[],.bad,[],false,false⟩)
 |none=>⟨0,[],.bad,[],false,false⟩
theorem fnOk_of{P:Program}{ents:Nat}{hs:Hints}{ownR tch:Bool}{f:Nat}(h:okFnD P f=true):FnOk P ents f (mfD P ents hs ownR tch f):=by
 unfold okFnD at h
 cases e1:P.funcs[f]? with
 |none=>rw[e1]at h;cases h
 |some fn=>
  rw[e1]at h
  simp only at h
  cases e2:fn.body with
  |none=>rw[e2]at h;cases h
  |some c=>
   rw[e2]at h
   simp only[Bool.and_eq_true]at h
   refine⟨fn,c,hs,e1,e2,h.1,h.2,?_⟩
   unfold mfD
   rw[e1]
   simp only[e2]
   exact⟨trivial,trivial,trivial,trivial⟩
structure Knows (own:List (Nat × Nat)) (L:List (Nat × MFn)) (D:Orc):Prop where
 fn:∀(Hn:Hnt) (s:Sc) (f:Nat) (mf:MFn) (args:List AV) (bs:List ABlk) (r:AV × List BO),findN f L=some mf->fnK realA D own Hn s f mf args bs=some r->D.ask (.fn f) args bs=some r
 lp:∀(Hn:Hnt) (s:Sc) (f i:Nat) (mf:MFn) (q:LpH) (c:MC) (args:List AV) (bs:List ABlk) (r:AV × List BO),findN f L=some mf->mf.loops[i]? = some (q,c)->lpK realA D own Hn s f i q c args bs=some r->D.ask (.lp f i) args bs=some r
def lpAt(mf:MFn)(i:Nat):LpH × MC:=(mf.loops[i]?).getD (⟨0,[],[],[],[]⟩,.bad)
theorem Knows.fn'{own:List (Nat × Nat)}{L:List (Nat × MFn)}{D:Orc}(K:Knows own L D)(Hn:Hnt)(s:Sc){f:Nat}{mf:MFn}{args:List AV}{bs:List ABlk}{r:AV × List BO}(h1:findN f L=some mf)(h:fnK realA D own Hn s f mf args bs=some r):D.ask (.fn f) args bs=some r:=K.fn Hn s f mf args bs r h1 h
theorem Knows.lp'{own:List (Nat × Nat)}{L:List (Nat × MFn)}{D:Orc}(K:Knows own L D)(Hn:Hnt)(s:Sc){f i:Nat}{mf:MFn}{args:List AV}{bs:List ABlk}{r:AV × List BO}(h1:findN f L=some mf)(h2:(mf.loops[i]?).isSome=true)(h:lpK realA D own Hn s f i (lpAt mf i).1 (lpAt mf i).2 args bs=some r):D.ask (.lp f i) args bs=some r:=by
 obtain⟨⟨q,c⟩,e⟩:=Option.isSome_iff_exists.1 h2
 refine K.lp Hn s f i mf q c args bs r h1 e ?_
 unfold lpAt at h
 rw[e]at h
 exact h
theorem findN_mem{α:Type}{f:Nat}{a:α}:∀{L:List (Nat × α)},findN f L=some a->(f,a)∈L
 |[],h=>by cases h
 |(m,b)::r,h=>by
  unfold findN at h
  cases e:Nat.beq f m with
  |true=>
   rw[e]at h
   simp only[Option.some.injEq]at h
   have:=Nat.eq_of_beq_eq_true e
   subst this;subst h
   exact List.mem_cons_self
  |false=>
   rw[e]at h
   exact List.mem_cons_of_mem _ (findN_mem h)
def seatD(own:List (Nat × Nat))(L:List (Nat × MFn))(X:List (Nat × DF)):Seat:=⟨fun f=>findN f L,own,fun f=>findN f X⟩
def noExt(L:List (Nat × MFn))(X:List (Nat × DF)):Bool:=L.all fun p=>(findN p.1 X).isNone
theorem knows_of{own:List (Nat × Nat)}{L L':List (Nat × MFn)}{X:List (Nat × DF)}(hs:∀ f mf,findN f L'=some mf->findN f L=some mf)(hx:noExt L' X=true):Knows own L' (Dstar realA (seatD own L X)) where
 fn Hn s f mf args bs r h1 h2:=ask_fn (M:=seatD own L X) Hn s (by
  have:=List.all_eq_true.1 hx _ (findN_mem h1)
  exact Option.isNone_iff_eq_none.1 this) (hs f mf h1) h2
 lp Hn s f i mf q c args bs r h1 h2 h3:=ask_lp (M:=seatD own L X) Hn s (hs f mf h1) h2 h3
end Go.Proofs.YtpncilciembjdaaGreatDoor
namespace Go.Proofs.YtpncilciembjdaaGreatDoor
open Go.RowKit

section
variable {μ:Mu} {F:Prot} {w w':World}
theorem below_step(F:Prot)(h:Below w.heap.size w w'):WStep F w w':=
 ⟨h.os,h.tape,h.output,h.size,fun g o ho=>⟨o,by
  have hg:g<w.heap.size:=by
   by_cases hg:g<w.heap.size
   .exact hg
   .rw[Array.getElem?_eq_none (by omega)]at ho;cases ho
  exact(h.block g hg).trans ho,ObjStep.refl _ o⟩⟩
def newF(F:Prot)(w w':World):Prot:=fun g o=>F g o\/(w.heap.size<=g/\g<w'.heap.size)
theorem later_below{H:Nat->Option ABlk}(hH:HRep μ F w H)(h:Below w.heap.size w w'):Later μ μ F (newF F w w') w w':=
 ⟨fun _ _ h=>h,fun g o hg=>⟨.inl hg,(below_step F h).cell hg (hH.prot g o hg)⟩⟩
theorem hrep_below{H:Nat->Option ABlk}(hH:HRep μ F w H)(h:Below w.heap.size w w'):HRep μ (newF F w w') w' H:=by
 have hl:=later_below hH h
 have same:∀ g o,g<w.heap.size->w'.cell? ⟨g,o,none⟩=w.cell? ⟨g,o,none⟩:=fun g o hg=>h.cell (p:=⟨g,o,none⟩) hg
 have st:=below_step (fun _ _=>False) h
 refine⟨fun b k hb=>?_,hH.apart,fun g o hg=>?_⟩
 .obtain⟨p,hp,B⟩:=hH.blk b k hb
  refine⟨p,hp,?_,B.room,?_,fun h0 i hi=>.inl (B.kept h0 i hi),?_,B.pure⟩
  .intro i x hx
   obtain⟨u,h1,h2⟩:=B.cell i x hx
   exact⟨u,(same _ _ (heap_lt h1)).trans h1,h2.later hl⟩
  .intro i hi
   obtain⟨⟨u,h1⟩,h2⟩:=B.there i hi
   exact⟨⟨u,(same _ _ (heap_lt h1)).trans h1⟩,(st.frozen (heap_lt h1)).trans h2⟩
  .rintro i hi (hf|⟨hf,_⟩)
   .exact B.free i hi hf
   .have hr:i<p.room:=by
     rcases hi with⟨h1,_⟩|⟨_,h1,_⟩
     .exact Nat.lt_of_lt_of_le h1 B.room
     .exact h1
    obtain⟨⟨u,h1⟩,_⟩:=B.there i hr
    have:=heap_lt h1
    omega
 .rcases hg with hg|hg
  .exact Nat.lt_of_lt_of_le (hH.prot g o hg) h.size
  .exact hg.2
end
theorem goodD_of{S:SemT}(hm:MonoS S)(res:List AV->Option AV)
  (h:∀ args r,res args=some r->∀(μ:Mu) (F:Prot) (w:World) (us:List Value),RepList μ F w args us->S us w fun u w'=>Below w.heap.size w w'/\Rep μ (newF F w w') w' r u) :
  GoodD S fun args bs=>match bs with
   |[]=>(res args).map fun r=>(r,[])
   |_=>none:=by
 intro args bs r out hd
 cases bs with
 |cons=>cases hd
 |nil=>
  obtain⟨r',hr,he⟩:=Option.map_eq_some_iff.1 hd
  obtain⟨rfl,rfl⟩:r'=r/\[]=out:=by simpa using he
  refine⟨Nat.le_refl _,0,Nat.le_refl _,fun t _ μ F w KL us hKL hus hH hμ=>?_⟩
  refine hm _ _ _ _ (h args r' hr μ F w us hus) fun u w' ⟨hb,hu⟩=>?_
  refine⟨μ,newF F w w',hu,?_,later_below hH hb,below_step F hb,fun _ _=>rfl⟩
  have:=hrep_below hH hb
  have e:(fun b=>if b<t then([]:List ABlk)[b]? else look b KL)=fun b=>if b<t then outAt [] [] b else look b KL:=by
   funext b
   by_cases hbt:b<t
   .rw[if_pos hbt,if_pos hbt]
    rfl
   .rw[if_neg hbt,if_neg hbt]
  rw[←e]
  exact this
end Go.Proofs.YtpncilciembjdaaGreatDoor
namespace Go.Proofs.YtpncilciembjdaaGreatDoor
open Go.RowKit

inductive Ki
 |b
 |i
 |j (kd:IntKind)
 |s
 |l
 |q (bb ee:Nat)
 |t
 |a
 |p (bb oo:Nat)
 |f (g:Nat)
 |c (u:Value)
 |x
 |B
 |I
 |J (kd:IntKind)
 |S
 |L
 |C
 |N
 |X
 |O
 |E
 |Y
 |T
 |R
 |D
 |K
 |A
 |P (bb oo:Nat)
 |Z
 |w
inductive It
 |v (x:AV)
 |l (x:List AV)
 |o (x:List BO)
 |c (x:BO)
abbrev Ct:List Ki->Type
 |[]=>KR
 |.b::r=>Bool->Ct r
 |.i::r=>Int->Ct r
 |.j _::r=>Int->Ct r
 |.s::r=>ByteArray->Ct r
 |.l::r=>List (List AV)->Ct r
 |.q _ _::r=>Nat->Ct r
 |.t::r=>Ct r
 |.a::r=>Ct r
 |.p _ _::r=>Ct r
 |.f _::r=>Ct r
 |.c _::r=>Ct r
 |.x::r=>AV->Ct r
 |.B::r=>Bool->Ct r
 |.I::r=>Int->Ct r
 |.J _::r=>Int->Ct r
 |.S::r=>ByteArray->Ct r
 |.L::r=>List (List AV)->Ct r
 |.C::r=>Ct r
 |.N::r=>Ct r
 |.X::r=>List AV->Ct r
 |.O::r=>Ct r
 |.E::r=>Ct r
 |.Y::r=>List BO->Ct r
 |.T::r=>Ct r
 |.R::r=>Ct r
 |.D::r=>Ct r
 |.K::r=>Ct r
 |.A::r=>Ct r
 |.P _ _::r=>Ct r
 |.Z::r=>BO->Ct r
 |.w::r=>Unit->Ct r
def itV(s:List It)(k:AV->List It->KR):KR:=match s with
 |.v x::r=>k x r
 |_=>none
def itL(s:List It)(k:List AV->List It->KR):KR:=match s with
 |.l x::r=>k x r
 |_=>none
def itO(s:List It)(k:List BO->List It->KR):KR:=match s with
 |.o x::r=>k x r
 |_=>none
def itC(s:List It)(k:BO->List It->KR):KR:=match s with
 |.c x::r=>k x r
 |_=>none
def dk:(p:List Ki)->List It->Ct p->KR
 |[],_,k=>k
 |.b::r,s,k=>itV s fun x s=>unBool x fun n=>dk r s (k n)
 |.i::r,s,k=>itV s fun x s=>unInt .i64 x fun n=>dk r s (k n)
 |.j kd::r,s,k=>itV s fun x s=>unInt kd x fun n=>dk r s (k n)
 |.s::r,s,k=>itV s fun x s=>unStr x fun n=>dk r s (k n)
 |.l::r,s,k=>itV s fun x s=>unLs x fun n=>dk r s (k n)
 |.q bb ee::r,s,k=>itV s fun x s=>unSl bb ee x fun n=>dk r s (k n)
 |.t::r,s,k=>itV s fun x s=>unTup x fun y=>dk r (.l y::s) k
 |.a::r,s,k=>itV s fun x s=>unAgg x fun y=>dk r (.l y::s) k
 |.p bb oo::r,s,k=>itV s fun x s=>unPtr bb oo x<|dk r s k
 |.f g::r,s,k=>itV s fun x s=>unFn g x<|dk r s k
 |.c u::r,s,k=>itV s fun x s=>unCst u x<|dk r s k
 |.x::r,s,k=>itV s fun x s=>dk r s (k x)
 |.B::r,s,k=>itL s fun x s=>cBool x fun n y=>dk r (.l y::s) (k n)
 |.I::r,s,k=>itL s fun x s=>cInt .i64 x fun n y=>dk r (.l y::s) (k n)
 |.J kd::r,s,k=>itL s fun x s=>cInt kd x fun n y=>dk r (.l y::s) (k n)
 |.S::r,s,k=>itL s fun x s=>cStr x fun n y=>dk r (.l y::s) (k n)
 |.L::r,s,k=>itL s fun x s=>cLs x fun n y=>dk r (.l y::s) (k n)
 |.C::r,s,k=>itL s fun x s=>unCons x fun z y=>dk r (.v z::.l y::s) k
 |.N::r,s,k=>itL s fun x s=>unNil x<|dk r s k
 |.X::r,s,k=>itL s fun x s=>dk r s (k x)
 |.O::r,s,k=>itO s fun x s=>unOut x fun z y=>dk r (.c z::.o y::s) k
 |.E::r,s,k=>itO s fun x s=>unEnd x<|dk r s k
 |.Y::r,s,k=>itO s fun x s=>dk r s (k x)
 |.T::r,s,k=>itO s fun x s=>unOut x fun c y=>unSet true false c fun z=>dk r (.l z::.o y::s) k
 |.R::r,s,k=>itO s fun x s=>unOut x fun c y=>unSet true true c fun z=>dk r (.l z::.o y::s) k
 |.D::r,s,k=>itO s fun x s=>unOut x fun c y=>unDel c<|dk r (.o y::s) k
 |.K::r,s,k=>itO s fun x s=>unOut x fun c y=>unKeep c<|dk r (.o y::s) k
 |.A::r,s,k=>itL s fun x s=>unCons x fun c y=>unAgg c fun z=>dk r (.l z::.l y::s) k
 |.P bb oo::r,s,k=>itL s fun x s=>unCons x fun c y=>unPtr bb oo c<|dk r (.l y::s) k
 |.Z::r,s,k=>itC s fun x s=>dk r s (k x)
 |.w::r,s,k=>dk r s (k ())
abbrev bk(cs:List AV):ABlk:=⟨cs,true,false⟩
abbrev Rw:=List (List AV)
abbrev askD(D:Orc)(key:Key)(args:List AV)(bs:List ABlk)(p:List Ki)(k:Ct p):KR:=askK D key args bs fun r o=>dk p [.v r,.o o] k
theorem DK:(∀(s:List It) (k:Ct []),dk [] s k=k)/\(∀(r:List Ki) (x:AV) (s:List It) (k:Ct (.b::r)),dk (.b::r) (.v x::s) k=unBool x fun n=>dk r s (k n))/\(∀(r:List Ki) (x:AV) (s:List It) (k:Ct (.i::r)),dk (.i::r) (.v x::s) k=unInt .i64 x fun n=>dk r s (k n))/\(∀(kd:IntKind) (r:List Ki) (x:AV) (s:List It) (k:Ct (.j kd::r)),dk (.j kd::r) (.v x::s) k=unInt kd x fun n=>dk r s (k n))/\(∀(r:List Ki) (x:AV) (s:List It) (k:Ct (.s::r)),dk (.s::r) (.v x::s) k=unStr x fun n=>dk r s (k n))/\(∀(r:List Ki) (x:AV) (s:List It) (k:Ct (.l::r)),dk (.l::r) (.v x::s) k=unLs x fun n=>dk r s (k n))/\(∀(bb ee:Nat) (r:List Ki) (x:AV) (s:List It) (k:Ct (.q bb ee::r)),dk (.q bb ee::r) (.v x::s) k=unSl bb ee x fun n=>dk r s (k n))/\(∀(r:List Ki) (x:AV) (s:List It) (k:Ct (.t::r)),dk (.t::r) (.v x::s) k=unTup x fun y=>dk r (.l y::s) k)/\(∀(r:List Ki) (x:AV) (s:List It) (k:Ct (.a::r)),dk (.a::r) (.v x::s) k=unAgg x fun y=>dk r (.l y::s) k)/\(∀(bb oo:Nat) (r:List Ki) (x:AV) (s:List It) (k:Ct (.p bb oo::r)),dk (.p bb oo::r) (.v x::s) k=unPtr bb oo x (dk r s k))/\(∀(g:Nat) (r:List Ki) (x:AV) (s:List It) (k:Ct (.f g::r)),dk (.f g::r) (.v x::s) k=unFn g x (dk r s k))/\(∀(u:Value) (r:List Ki) (x:AV) (s:List It) (k:Ct (.c u::r)),dk (.c u::r) (.v x::s) k=unCst u x (dk r s k))/\(∀(r:List Ki) (x:AV) (s:List It) (k:Ct (.x::r)),dk (.x::r) (.v x::s) k=dk r s (k x))/\(∀(r:List Ki) (x:List AV) (s:List It) (k:Ct (.B::r)),dk (.B::r) (.l x::s) k=cBool x fun n y=>dk r (.l y::s) (k n))/\(∀(r:List Ki) (x:List AV) (s:List It) (k:Ct (.I::r)),dk (.I::r) (.l x::s) k=cInt .i64 x fun n y=>dk r (.l y::s) (k n))/\(∀(kd:IntKind) (r:List Ki) (x:List AV) (s:List It) (k:Ct (.J kd::r)),dk (.J kd::r) (.l x::s) k=cInt kd x fun n y=>dk r (.l y::s) (k n))/\(∀(r:List Ki) (x:List AV) (s:List It) (k:Ct (.S::r)),dk (.S::r) (.l x::s) k=cStr x fun n y=>dk r (.l y::s) (k n))/\(∀(r:List Ki) (x:List AV) (s:List It) (k:Ct (.L::r)),dk (.L::r) (.l x::s) k=cLs x fun n y=>dk r (.l y::s) (k n))/\(∀(r:List Ki) (x:List AV) (s:List It) (k:Ct (.C::r)),dk (.C::r) (.l x::s) k=unCons x fun z y=>dk r (.v z::.l y::s) k)/\(∀(r:List Ki) (x:List AV) (s:List It) (k:Ct (.N::r)),dk (.N::r) (.l x::s) k=unNil x (dk r s k))/\(∀(r:List Ki) (x:List AV) (s:List It) (k:Ct (.X::r)),dk (.X::r) (.l x::s) k=dk r s (k x))/\(∀(r:List Ki) (x:List BO) (s:List It) (k:Ct (.O::r)),dk (.O::r) (.o x::s) k=unOut x fun z y=>dk r (.c z::.o y::s) k)/\(∀(r:List Ki) (x:List BO) (s:List It) (k:Ct (.E::r)),dk (.E::r) (.o x::s) k=unEnd x (dk r s k))/\(∀(r:List Ki) (x:List BO) (s:List It) (k:Ct (.Y::r)),dk (.Y::r) (.o x::s) k=dk r s (k x))/\(∀(r:List Ki) (x:List BO) (s:List It) (k:Ct (.T::r)),dk (.T::r) (.o x::s) k=unOut x fun c y=>unSet true false c fun z=>dk r (.l z::.o y::s) k)/\(∀(r:List Ki) (x:List BO) (s:List It) (k:Ct (.R::r)),dk (.R::r) (.o x::s) k=unOut x fun c y=>unSet true true c fun z=>dk r (.l z::.o y::s) k)/\(∀(r:List Ki) (x:List BO) (s:List It) (k:Ct (.D::r)),dk (.D::r) (.o x::s) k=unOut x fun c y=>unDel c<|dk r (.o y::s) k)/\(∀(r:List Ki) (x:List BO) (s:List It) (k:Ct (.K::r)),dk (.K::r) (.o x::s) k=unOut x fun c y=>unKeep c<|dk r (.o y::s) k)/\(∀(r:List Ki) (x:List AV) (s:List It) (k:Ct (.A::r)),dk (.A::r) (.l x::s) k=unCons x fun c y=>unAgg c fun z=>dk r (.l z::.l y::s) k)/\(∀(bb oo:Nat) (r:List Ki) (x:List AV) (s:List It) (k:Ct (.P bb oo::r)),dk (.P bb oo::r) (.l x::s) k=unCons x fun c y=>unPtr bb oo c<|dk r (.l y::s) k)/\(∀(r:List Ki) (x:BO) (s:List It) (k:Ct (.Z::r)),dk (.Z::r) (.c x::s) k=dk r s (k x))/\(∀(r:List Ki) (s:List It) (k:Ct (.w::r)),dk (.w::r) s k=dk r s (k ())):=by
 and_intros<;>intros<;>rfl
end Go.Proofs.YtpncilciembjdaaGreatDoor
namespace Go.Proofs.YtpncilciembjdaaGreatDoor
open Go.RowKit

section
variable {D:Orc}
theorem br_t(x y:KR):br true x y=x:=Eq.trans (b:=x) rfl (Eq.refl x)
theorem br_f(x y:KR):br false x y=y:=Eq.trans (b:=y) rfl (Eq.refl y)
theorem unI_n(n:Nat)(k:Nat->KR):unI (n:Int) k=k n:=rfl
theorem nthK_map{α:Type}(f:α->List AV)(xs:List α)(i:Nat)(k:List AV->KR):nthK (xs.map f) i k=match xs[i]? with
  |some x=>k (f x)
  |none=>none:=by
 unfold nthK
 rw[nthR_eq,List.getElem?_map]
 cases xs[i]?<;>rfl
theorem nthK_some{α:Type}{f:α->List AV}{xs:List α}{i:Nat}{x:α}(h:xs[i]? = some x)(k:List AV->KR):nthK (xs.map f) i k=k (f x):=by
 rw[nthK_map,h]
theorem lenR_map{α:Type}(f:α->List AV)(xs:List α):lenR (xs.map f)=xs.length:=by rw[lenR_eq,List.length_map]
theorem askK_of{key:Key}{args:List AV}{bs:List ABlk}{r:AV}{o:List BO}(h:D.ask key args bs=some (r,o))(k:AV->List BO->KR):askK D key args bs k=k r o:=by
 unfold askK
 rw[h]
theorem unInt_iv(n:Int)(k:Int->KR):unInt .i64 (iv n) k=k n:=rfl
theorem unBool_bv(n:Bool)(k:Bool->KR):unBool (bv n) k=k n:=rfl
theorem unStr_sv(n:ByteArray)(k:ByteArray->KR):unStr (sv n) k=k n:=rfl
theorem unLs_ls(n:List (List AV))(k:List (List AV)->KR):unLs (.ls n) k=k n:=rfl
theorem unAgg_agg(n:List AV)(k:List AV->KR):unAgg (.agg n) k=k n:=rfl
theorem unTup_tup(n:List AV)(k:List AV->KR):unTup (.tup n) k=k n:=rfl
theorem cInt_iv(n:Int)(r:List AV)(k:Int->List AV->KR):cInt .i64 (iv n::r) k=k n r:=rfl
theorem cBool_bv(n:Bool)(r:List AV)(k:Bool->List AV->KR):cBool (bv n::r) k=k n r:=rfl
theorem cStr_sv(n:ByteArray)(r:List AV)(k:ByteArray->List AV->KR):cStr (sv n::r) k=k n r:=rfl
theorem cLs_ls(n:List (List AV))(r:List AV)(k:List (List AV)->List AV->KR):cLs (.ls n::r) k=k n r:=rfl
theorem unNil_nil(k:KR):unNil [] k=k:=rfl
theorem unCons_cons(c:AV)(r:List AV)(k:AV->List AV->KR):unCons (c::r) k=k c r:=rfl
theorem unEnd_nil(k:KR):unEnd [] k=k:=rfl
theorem unOut_cons(c:BO)(r:List BO)(k:BO->List BO->KR):unOut (c::r) k=k c r:=rfl
theorem unKeep_keep(k:KR):unKeep .keep k=k:=rfl
theorem unDel_del(k:KR):unDel .del k=k:=rfl
theorem unSet_set(st ex:Bool)(cs:List AV)(k:List AV->KR):unSet st ex (.set ⟨cs,st,ex⟩) k=k cs:=by
 unfold unSet
 exact if_pos ⟨rfl,rfl⟩
theorem unFn_fn(f:Nat)(k:KR):unFn f (.fn (.func f) [] []) k=k:=by simp[unFn]
theorem unPtr_ptr(b o:Nat)(k:KR):unPtr b o (.ptr b o) k=k:=by simp[unPtr]
theorem unSl_sl(b e n:Nat)(k:Nat->KR):unSl b e (.sl b 0 n e) k=k n:=by simp[unSl]
theorem ax_t:axIs 0 (bv true)=true:=rfl
theorem ax_i(n:Int):axIs 0 (iv n)=false:=rfl
theorem ax_1:axIs 1 (iv 0)=true:=rfl
theorem ax_3:axIs 3 (iv 2)=true:=rfl
theorem ND:(∀(n:Int) (k:Int->KR),unInt .i64 (iv n) k=k n)/\(∀(n:Bool) (k:Bool->KR),unBool (bv n) k=k n)/\(∀(n:ByteArray) (k:ByteArray->KR),unStr (sv n) k=k n)/\(∀(n:List (List AV)) (k:List (List AV)->KR),unLs (.ls n) k=k n)/\(∀(n:List AV) (k:List AV->KR),unAgg (.agg n) k=k n)/\(∀(n:List AV) (k:List AV->KR),unTup (.tup n) k=k n)/\(∀(n:Int) (r:List AV) (k:Int->List AV->KR),cInt .i64 (iv n::r) k=k n r)/\(∀(n:Bool) (r:List AV) (k:Bool->List AV->KR),cBool (bv n::r) k=k n r)/\(∀(n:ByteArray) (r:List AV) (k:ByteArray->List AV->KR),cStr (sv n::r) k=k n r)/\(∀(n:List (List AV)) (r:List AV) (k:List (List AV)->List AV->KR),cLs (.ls n::r) k=k n r)/\(∀(k:KR),unNil [] k=k)/\(∀(c:AV) (r:List AV) (k:AV->List AV->KR),unCons (c::r) k=k c r)/\(∀(k:KR),unEnd [] k=k)/\(∀(c:BO) (r:List BO) (k:BO->List BO->KR),unOut (c::r) k=k c r)/\(∀(st ex:Bool) (cs:List AV) (k:List AV->KR),unSet st ex (.set ⟨cs,st,ex⟩) k=k cs)/\(∀(k:KR),unDel .del k=k)/\(∀(k:KR),unKeep .keep k=k)/\(∀(b o:Nat) (k:KR),unPtr b o (.ptr b o) k=k)/\(∀(b e n:Nat) (k:Nat->KR),unSl b e (.sl b 0 n e) k=k n)/\(axIs 0 (bv true)=true)/\(∀(n:Int),axIs 0 (iv n)=false)/\(axIs 1 (iv 0)=true)/\(∀(x y:KR),br true x y=x)/\(∀(x y:KR),br false x y=y):=⟨unInt_iv,unBool_bv,unStr_sv,unLs_ls,unAgg_agg,unTup_tup,cInt_iv,cBool_bv,cStr_sv,cLs_ls,unNil_nil,unCons_cons,unEnd_nil,unOut_cons,unSet_set,unDel_del,unKeep_keep,unPtr_ptr,unSl_sl,ax_t,ax_i,ax_1,br_t,br_f⟩
end
instance:LawfulBEq ByteArray where
 eq_of_beq {a b} h:=by
  obtain⟨a⟩:=a
  obtain⟨b⟩:=b
  rw[bytes_beq]at h
  simpa using h
 rfl {a}:=by
  rw[bytes_beq]
  simp
section
theorem r_lt(a b:Int):realA.lt a b=decide (a<b):=rfl
theorem r_le(a b:Int):realA.le a b=decide (a<=b):=rfl
theorem r_eq(a b:Int):realA.eq a b=decide (a=b):=by
 show (a == b)=decide (a=b)
 rfl
theorem r_seq(a b:ByteArray):realA.seq a b=decide (a=b):=by
 show (a.toList == b.toList)=_
 rw[bytes_eq,bytes_beq]
 obtain⟨a⟩:=a
 obtain⟨b⟩:=b
 by_cases h:a=b
 .subst h;simp
 .simp[h]
theorem r_not(b:Bool):realA.not b = !b:=rfl
theorem r_beq(a b:Bool):realA.beq a b=(a == b):=rfl
theorem r_add{a b:Int}(h1:-9223372036854775808<=a+b)(h2:a+b<9223372036854775808):realA.add .i64 a b=a+b:=by
 show IntKind.i64.wrap (a+b)=a+b
 rw[IntKind.wrap_i64]
 omega
theorem r_sub{a b:Int}(h1:-9223372036854775808<=a-b)(h2:a-b<9223372036854775808):realA.sub .i64 a b=a-b:=by
 show IntKind.i64.wrap (a-b)=a-b
 rw[IntKind.wrap_i64]
 omega
theorem add1{i:Nat}(h:i<4611686018427387904):realA.add .i64 (i:Int) 1=((i+1:Nat):Int):=by
 rw[r_add (by omega) (by omega)]
 rfl
end
end Go.Proofs.YtpncilciembjdaaGreatDoor
namespace Go.Proofs.YtpncilciembjdaaGreatDoor
open Go.RowKit

section
variable {α:Type}
def rowC(e:α->List AV)(l:List α):List AV:=l.flatMap e
theorem rowC_snoc(e:α->List AV)(l:List α)(x:α):rowC e l++e x=rowC e (l++[x]):=by simp[rowC]
theorem rowC_len{e:α->List AV}{w:Nat}(he:∀ x,(e x).length=w):∀ l:List α,(rowC e l).length=l.length*w
 |[]=>by simp[rowC]
 |x::r=>by
  have:=rowC_len he r
  unfold rowC at this ⊢
  rw[List.flatMap_cons,List.length_append,this,he,List.length_cons,Nat.add_mul,Nat.one_mul,Nat.add_comm]
theorem rowC_all{e:α->List AV}{w:Nat}(he:∀ x,(e x).length=w)(l:List α){n:Nat}(hn:n=l.length*w):(rowC e l).take n=rowC e l:=by
 rw[List.take_of_length_le]
 rw[rowC_len he,hn]
 exact Nat.le_refl _
theorem chunk_row{e:α->List AV}{w:Nat}(he:∀ x,(e x).length=w):∀ l:List α,chunk l.length w (rowC e l)=l.map e
 |[]=>rfl
 |x::r=>by
  have ih:=chunk_row he r
  simp only[List.length_cons,chunk,List.map_cons]
  have h1:rowC e (x::r)=e x++rowC e r:=by simp[rowC]
  have h2:(e x).length=w:=he x
  rw[h1,List.take_append_of_le_length (by omega),List.take_of_length_le (by omega),List.drop_append_of_le_length (by omega),List.drop_of_length_le (by omega),List.nil_append,ih]
theorem chunk_of{e:α->List AV}{w:Nat}(he:∀ x,(e x).length=w)(l:List α){n:Nat}(hn:n=l.length):chunk n w ((rowC e l).take (n*w))=l.map e:=by
 rw[rowC_all he l (by rw[hn]),hn,chunk_row he]
theorem ble_row{e:α->List AV}{w:Nat}(he:∀ x,(e x).length=w)(l:List α){n:Nat}(hn:n=l.length*w):Nat.ble n (rowC e l).length=true:=by
 rw[rowC_len he,hn]
 simp
theorem oneL_row{e:α->List AV}(he:∀ x,oneL (e x)=true):∀ l:List α,oneL (rowC e l)=true
 |[]=>rfl
 |x::r=>by
  have ih:=oneL_row he r
  have h1:rowC e (x::r)=e x++rowC e r:=by simp[rowC]
  rw[h1]
  rw[oneL_eq]at ih ⊢
  rw[List.all_append,ih,Bool.and_true,←oneL_eq]
  exact he x
theorem catR_map(e:α->List AV)(l:List α):catR (l.map e)=rowC e l:=by
 rw[catR_eq]
 rfl
theorem wideR_map{e:α->List AV}{w:Nat}(he:∀ x,(e x).length=w)(l:List α):wideR w (l.map e)=true:=by
 rw[wideR_eq]
 simp[he]
theorem fits_small{n b:Nat}(hn:n<=1099511627776)(hb:b<=128):fitsB n b=true:=by
 unfold fitsB
 have:n*b<=1099511627776*128:=Nat.mul_le_mul hn hb
 have h1:Nat.ble (n*b) 140737488355328=true:=by simp;omega
 rw[h1]
 simp[maxLen]
 omega
end
end Go.Proofs.YtpncilciembjdaaGreatDoor
