/- The limit of what can be asked: functions and loop -/
import Derived.Test.YtlmhajfbpplpoaaGreatSAN
set_option linter.unusedSectionVars false
set_option linter.unusedSimpArgs false
set_option linter.unusedVariables false
namespace Go.Proofs.YtlmhajfbpplpoaaGreat
open Go.RowKit
structure Seat where
 fns:Nat->Option MFn
 own:List (Nat × Nat)
 ext:Nat->Option DF
def Afn(A:Ar)(M:Seat)(D:Orc):Orc:=.mk fun k args bs=>match k with
 |.fn f=>(match M.ext f with
  |some d=>d args bs
  |none=>(match M.fns f with
   |some mf=>Oc (EI (fnM A D M.own f mf)) args bs
   |none=>none))
 |.lp f i=>(match M.fns f with
  |some mf=>(match mf.loops[i]? with
   |some lc=>Oc (EI (lpM A D M.own f i lc.1 lc.2)) args bs
   |none=>none)
  |none=>none)
def Dn(A:Ar)(M:Seat):Nat->Orc
 |0=>.no
 |n+1=>Afn A M (Dn A M n)
open Classical in
noncomputable def Ck(A:Ar)(M:Seat):Orc:=.mk fun k args bs=>if h:∃ r n,∀ m,n<=m->(Dn A M m).ask k args bs=some r then some h.choose else none
section
variable {A:Ar} {M:Seat}
theorem Pv{k:Key}{args:List AV}{bs:List ABlk}{r:AV × List BO}(h:(Ck A M).ask k args bs=some r):∃ n,∀ m,n<=m->(Dn A M m).ask k args bs=some r:=by
 unfold Ck Orc.ask at h
 simp only at h
 split at h
 .rename_i hx
  simp only[Option.some.injEq]at h
  rw[←h]
  exact hx.choose_spec
 .cases h
open Classical in
theorem Ac4{k:Key}{args:List AV}{bs:List ABlk}{r:AV × List BO}{n:Nat}(h:∀ m,n<=m->(Dn A M m).ask k args bs=some r):(Ck A M).ask k args bs=some r:=by
 have hx:∃ r n,∀ m,n<=m->(Dn A M m).ask k args bs=some r:=⟨r,n,h⟩
 have:(Ck A M).ask k args bs=some hx.choose:=by
  unfold Ck
  show (if h:∃ r n,∀ m,n<=m->(Dn A M m).ask k args bs=some r then some h.choose else none)=_
  rw[dif_pos hx]
 rw[this]
 obtain⟨n',h'⟩:=hx.choose_spec
 have e1:=h' (max n n') (Nat.le_max_right _ _)
 have e2:=h (max n n') (Nat.le_max_left _ _)
 rw[e1]at e2
 exact e2
def Ev{β:Type}(A:Ar)(M:Seat)(g:Orc->Option β):Prop:=∀ r,g (Ck A M)=some r->∃ n,∀ m,n<=m->g (Dn A M m)=some r
def EvM{α:Type}(A:Ar)(M:Seat)(g:Orc->AM α):Prop:=∀ H,Ev A M fun D=>g D H
theorem EvM.const{α:Type}(x:AM α):EvM A M fun _=>x:=fun _ _ h=>⟨0,fun _ _=>h⟩
theorem EvM.bind{α β:Type}{x:Orc->AM α}{f:Orc->α->AM β}(hx:EvM A M x)(hf:∀ a,EvM A M fun D=>f D a):EvM A M fun D=>(x D).bind (f D):=fun H r h=>by
 simp only[AM.bind]at h ⊢
 cases e1:x (Ck A M) H with
 |none=>rw[e1]at h;cases h
 |some q=>
  obtain⟨a,H1,f1⟩:=q
  rw[e1]at h
  simp only at h
  cases e2:f (Ck A M) a H1 with
  |none=>rw[e2]at h;cases h
  |some q2=>
   rw[e2]at h
   obtain⟨n1,h1⟩:∃ n,∀ m,n<=m->x (Dn A M m) H=some (a,H1,f1):=hx H _ e1
   obtain⟨n2,h2⟩:∃ n,∀ m,n<=m->f (Dn A M m) a H1=some q2:=hf a H1 _ e2
   refine⟨max n1 n2,fun m hm=>?_⟩
   rw[h1 m (by omega)]
   simp only
   rw[h2 m (by omega)]
   exact h
theorem EvM.opt{α:Type}{g:Orc->Option α}(h:Ev A M g):EvM A M fun D=>AM.opt (g D):=fun H r e=>by
 have e:AM.opt (g (Ck A M)) H=some r:=e
 cases e1:g (Ck A M) with
 |none=>rw[e1]at e;cases e
 |some a=>
  obtain⟨n,hn⟩:=h a e1
  refine⟨n,fun m hm=>?_⟩
  show AM.opt (g (Dn A M m)) H=some r
  rw[hn m hm];rw[e1]at e;exact e
theorem EvM.callD(k:Key)(args:List AV):EvM A M fun D=>callD (D.ask k) args:=by
 unfold Go.Proofs.YtlmhajfbpplpoaaGreat.callD
 refine EvM.bind (EvM.const _) fun L=>EvM.bind (EvM.const _) fun bs=>EvM.bind (EvM.opt fun r h=>Pv h) fun r=>EvM.const _
theorem EvM.callsM(own:List (Nat × Nat))(f:FuncId)(args:List AV):EvM A M fun D=>callsM D own f args:=by
 unfold Go.Proofs.YtlmhajfbpplpoaaGreat.callsM
 exact EvM.bind (EvM.const _) fun l=>EvM.callD _ _
theorem EvM.loopsM(f i:Nat)(T:List AV):EvM A M fun D=>loopsM D f i T:=by
 unfold Go.Proofs.YtlmhajfbpplpoaaGreat.loopsM
 exact EvM.bind (EvM.callD _ _) fun r=>EvM.const _
theorem EvM.mop{B:Ar}{Γ:Orc->FuncId->List AV->AM AV}(hΓ:∀ f args,EvM A M fun D=>Γ D f args)(o:MO)(T:List AV):EvM A M fun D=>mop B (Γ D) o T:=by
 cases o with
 |callF f args=>exact hΓ _ _
 |callV ents x args=>
  show EvM A M fun D=>(match A0 T x with
   |.fn (.func g) a cs=>(match ents.testBit g with
    |true=>Γ D g (a++Oq T args++cs)
    |false=>AM.fail)
   |_=>AM.fail)
  split
  .split
   .exact hΓ _ _
   .exact EvM.const _
  .exact EvM.const _
 |_=>exact EvM.const _
theorem EvM.coreM{B:Ar}{Γ:Orc->FuncId->List AV->AM AV}(hΓ:∀ f args,EvM A M fun D=>Γ D f args)(o:MOp)(T:List AV):EvM A M fun D=>coreM B (Γ D) o T:=by
 unfold Go.Proofs.YtlmhajfbpplpoaaGreat.coreM
 split
 .split
  .exact EvM.mop hΓ _ _
  .exact EvM.const _
 .exact EvM.const _
theorem Ev.runM{B:Ar}{Γ:Orc->FuncId->List AV->AM AV}(hΓ:∀ f args,EvM A M fun D=>Γ D f args):∀(l:List MOp) (T:List AV) (H:AH),Ev A M fun D=>runM B (Γ D) l T H
 |[],T,H=>fun r h=>⟨0,fun _ _=>h⟩
 |o::l,T,H=>fun r h=>by
  simp only[Go.Proofs.YtlmhajfbpplpoaaGreat.runM]at h ⊢
  cases e1:Go.Proofs.YtlmhajfbpplpoaaGreat.coreM B (Γ (Ck A M)) o T H with
  |none=>rw[e1]at h;cases h
  |some q=>
   obtain⟨v,H1,f1⟩:=q
   rw[e1]at h
   simp only at h
   cases e2:Go.Proofs.YtlmhajfbpplpoaaGreat.runM B (Γ (Ck A M)) l (Ci T o.dst v) H1 with
   |none=>rw[e2]at h;cases h
   |some q2=>
    rw[e2]at h
    obtain⟨n1,h1⟩:∃ n,∀ m,n<=m->Go.Proofs.YtlmhajfbpplpoaaGreat.coreM B (Γ (Dn A M m)) o T H=some (v,H1,f1):=EvM.coreM hΓ o T H _ e1
    obtain⟨n2,h2⟩:∃ n,∀ m,n<=m->Go.Proofs.YtlmhajfbpplpoaaGreat.runM B (Γ (Dn A M m)) l (Ci T o.dst v) H1=some q2:=Ev.runM hΓ l _ H1 _ e2
    refine⟨max n1 n2,fun m hm=>?_⟩
    rw[h1 m (by omega)]
    simp only
    rw[h2 m (by omega)]
    exact h
theorem EvM.regM{B:Ar}{Γ:Orc->FuncId->List AV->AM AV}(hΓ:∀ f args,EvM A M fun D=>Γ D f args)(ops:List MOp)(bf:Option (List Nat))(T:List AV):EvM A M fun D=>regM B (Γ D) ops bf T:=fun H r h=>by
 simp only[Go.Proofs.YtlmhajfbpplpoaaGreat.regM]at h ⊢
 cases e1:Go.Proofs.YtlmhajfbpplpoaaGreat.runM B (Γ (Ck A M)) ops T H with
 |none=>rw[e1]at h;cases h
 |some q=>
  rw[e1]at h
  obtain⟨n1,h1⟩:∃ n,∀ m,n<=m->Go.Proofs.YtlmhajfbpplpoaaGreat.runM B (Γ (Dn A M m)) ops T H=some q:=Ev.runM hΓ ops T H _ e1
  exact⟨n1,fun m hm=>by rw[h1 m hm];exact h⟩
theorem EvM.evC{B:Ar}{Γ:Orc->FuncId->List AV->AM AV}{Λ:Orc->Nat->List AV->AM (AX × List AV)}(hΓ:∀ f args,EvM A M fun D=>Γ D f args)(hΛ:∀ i T,EvM A M fun D=>Λ D i T):∀(c:MC) (T:List AV),EvM A M fun D=>evC B (Γ D) (Λ D) c T
 |.skip,T=>EvM.const _
 |.reg ops bf,T=>EvM.regM hΓ _ _ _
 |.seq a b,T=>by
  unfold Go.Proofs.YtlmhajfbpplpoaaGreat.evC
  refine EvM.bind (EvM.evC hΓ hΛ a T) fun r=>?_
  split
  .exact EvM.evC hΓ hΛ b _
  .exact EvM.const _
 |.cond c a b,T=>by
  unfold Go.Proofs.YtlmhajfbpplpoaaGreat.evC
  split
  .split
   .exact EvM.evC hΓ hΛ a T
   .exact EvM.evC hΓ hΛ b T
  .exact EvM.const _
 |.block id c,T=>by
  unfold Go.Proofs.YtlmhajfbpplpoaaGreat.evC
  exact EvM.bind (EvM.evC hΓ hΛ c T) fun r=>EvM.const _
 |.loop i q,T=>by
  unfold Go.Proofs.YtlmhajfbpplpoaaGreat.evC
  refine EvM.bind (EvM.const _) fun _=>EvM.bind (EvM.const _) fun _=>?_
  split
  .exact EvM.bind (hΛ _ _) fun _=>EvM.const _
  .exact EvM.const _
 |.exit id,T=>EvM.const _
 |.ret,T=>EvM.const _
 |.bad,_=>EvM.const _
theorem EvM.fnM{B:Ar}(own:List (Nat × Nat))(f:Nat)(mf:MFn)(args:List AV):EvM A M fun D=>fnM B D own f mf args:=by
 unfold Go.Proofs.YtlmhajfbpplpoaaGreat.fnM
 exact EvM.bind (EvM.evC (Γ:=fun D=>Go.Proofs.YtlmhajfbpplpoaaGreat.callsM D own) (Λ:=fun D=>Go.Proofs.YtlmhajfbpplpoaaGreat.loopsM D f) (EvM.callsM own) (EvM.loopsM f) _ _) fun r=>EvM.const _
theorem EvM.lpM{B:Ar}(own:List (Nat × Nat))(f i:Nat)(q:LpH)(c:MC)(T:List AV):EvM A M fun D=>lpM B D own f i q c T:=by
 unfold Go.Proofs.YtlmhajfbpplpoaaGreat.lpM
 refine EvM.bind (EvM.evC (Γ:=fun D=>Go.Proofs.YtlmhajfbpplpoaaGreat.callsM D own) (Λ:=fun D=>Go.Proofs.YtlmhajfbpplpoaaGreat.loopsM D f) (EvM.callsM own) (EvM.loopsM f) _ _) fun r=>?_
 split
 .exact EvM.bind (EvM.const _) fun _=>EvM.bind (EvM.loopsM _ _ _) fun _=>EvM.const _
 .exact EvM.const _
 .exact EvM.const _
theorem Ev.gcRun{m:Orc->List AV->AM AV}(h:∀ args,EvM A M fun D=>m D args)(args:List AV)(bs:List ABlk):Ev A M fun D=>Oc (EI (m D)) args bs:=fun r e=>by
 have key:∀ q,EI (m (Ck A M)) args bs=some q->∃ n,∀ k,n<=k->EI (m (Dn A M k)) args bs=some q:=fun q hq=>by
  unfold EI at hq ⊢
  cases e1:m (Ck A M) args ⟨C2 0 bs,bs.length,none⟩ with
  |none=>rw[e1]at hq;cases hq
  |some x=>
   rw[e1]at hq
   obtain⟨n,hn⟩:∃ n,∀ k,n<=k->m (Dn A M k) args ⟨C2 0 bs,bs.length,none⟩=some x:=h args _ _ e1
   exact⟨n,fun k hk=>by rw[hn k hk];exact hq⟩
 have e:Oc (EI (m (Ck A M))) args bs=some r:=e
 unfold Oc at e
 cases e1:EI (m (Ck A M)) args bs with
 |none=>rw[e1]at e;cases e
 |some q=>
  rw[e1]at e
  obtain⟨n,hn⟩:=key q e1
  refine⟨n,fun k hk=>?_⟩
  show Oc (EI (m (Dn A M k))) args bs=some r
  unfold Oc
  rw[hn k hk];exact e
theorem Lc{k:Key}{args:List AV}{bs:List ABlk}{r:AV × List BO}(h:∃ n,∀ m,n<=m->(Afn A M (Dn A M m)).ask k args bs=some r):(Ck A M).ask k args bs=some r:=by
 obtain⟨n,hn⟩:=h
 refine Ac4 (n:=n+1) fun m hm=>?_
 cases m with
 |zero=>omega
 |succ m=>exact hn m (by omega)
theorem Ac2{f:Nat}{mf:MFn}(he:M.ext f=none)(hf:M.fns f=some mf){args:List AV}{bs:List ABlk}{r:AV × List BO}(h:Oc (EI (fnM A (Ck A M) M.own f mf)) args bs=some r):(Ck A M).ask (.fn f) args bs=some r:=by
 obtain⟨n,hn⟩:=Ev.gcRun (m:=fun D=>fnM A D M.own f mf) (fun args=>EvM.fnM M.own f mf args) args bs r h
 refine Lc ⟨n,fun m hm=>?_⟩
 show (match M.ext f with
  |some d=>d args bs
  |none=>(match M.fns f with
   |some mf=>Oc (EI (fnM A (Dn A M m) M.own f mf)) args bs
   |none=>none))=_
 rw[he,hf]
 exact hn m hm
theorem Ac3{f i:Nat}{mf:MFn}{live:LpH}{c:MC}(hf:M.fns f=some mf)(hl:mf.loops[i]? = some (live,c)){args:List AV}{bs:List ABlk}{r:AV × List BO}(h:Oc (EI (lpM A (Ck A M) M.own f i live c)) args bs=some r):(Ck A M).ask (.lp f i) args bs=some r:=by
 obtain⟨n,hn⟩:=Ev.gcRun (m:=fun D=>lpM A D M.own f i live c) (fun args=>EvM.lpM M.own f i live c args) args bs r h
 refine Lc ⟨n,fun m hm=>?_⟩
 show (match M.fns f with
  |some mf=>(match mf.loops[i]? with
   |some lc=>Oc (EI (lpM A (Dn A M m) M.own f i lc.1 lc.2)) args bs
   |none=>none)
  |none=>none)=_
 rw[hf]
 simp only[hl]
 exact hn m hm
theorem CU{f:Nat}{d:DF}(he:M.ext f=some d){args:List AV}{bs:List ABlk}{r:AV × List BO}(h:d args bs=some r):(Ck A M).ask (.fn f) args bs=some r:=
 Lc ⟨0,fun m _=>by
  show (match M.ext f with
   |some d=>d args bs
   |none=>(match M.fns f with
    |some mf=>Oc (EI (fnM A (Dn A M m) M.own f mf)) args bs
    |none=>none))=_
  rw[he];exact h⟩
end
structure SeatOk (P:Program) (ents:Nat) (M:Seat):Prop where
 mixed:P.follows .mixedOrders=true
 ent:G4 P ents
 fns:∀ f mf,M.fns f=some mf->FnOk P ents f mf
 ext:∀ f d,M.ext f=some d->BC (BZ P f) d
theorem Dk(P:Program)(ents:Nat)(hs:Am):∀(c:Code) (n:Nat) (j:Nat) (c':Code),(Bz c)[j]? = some c'->∃ live,(∀ q,hs[n+j]? = some q->live=q)/\(Bv P ents hs c n).2[j]? = some (live,(Bv P ents hs c' (n+j+1)).1)/\(Kn c=true->Kn c'=true)/\∀ i c2,(Bz c')[i]? = some c2->(Bz c)[j+1+i]? = some c2
 |.skip,n,j,c',h=>by simp[Bz]at h
 |.region ..,n,j,c',h=>by simp[Bz]at h
 |.seq a b,n,j,c',h=>by
  have h:(Bz a++Bz b)[j]? = some c':=h
  have hn:(Bv P ents hs (.seq a b) n).2=(Bv P ents hs a n).2++(Bv P ents hs b (n+(Bv P ents hs a n).2.length)).2:=rfl
  rw[hn]
  rcases Nat.lt_or_ge j (Bz a).length with hj|hj
  .rw[List.getElem?_append_left hj]at h
   obtain⟨live,h0,h1,h2,h3⟩:=Dk P ents hs a n j c' h
   refine⟨live,h0,by rw[List.getElem?_append_left (by rw[Ce];exact hj)];exact h1,fun hok=>h2 (by simp only[Kn,Bool.and_eq_true]at hok;exact hok.1),fun i c2 hi=>?_⟩
   have:=h3 i c2 hi
   show (Bz a++Bz b)[j+1+i]? = some c2
   rw[List.getElem?_append_left (List.getElem?_eq_some_iff.1 this).1];exact this
  .rw[List.getElem?_append_right hj]at h
   obtain⟨live,h0,h1,h2,h3⟩:=Dk P ents hs b (n+(Bv P ents hs a n).2.length) (j-(Bz a).length) c' h
   have hl:=Ce P ents hs a n
   rw[hl]at h0
   refine⟨live,fun q hq=>h0 q (by rw[show n+(Bz a).length+(j-(Bz a).length)=n+j by omega];exact hq),?_,fun hok=>h2 (by simp only[Kn,Bool.and_eq_true]at hok;exact hok.2),fun i c2 hi=>?_⟩
   .rw[List.getElem?_append_right (by omega),hl]
    rw[hl]at h1
    rw[show n+j+1=n+(Bz a).length+(j-(Bz a).length)+1 by omega]
    exact h1
   .have:=h3 i c2 hi
    show (Bz a++Bz b)[j+1+i]? = some c2
    rw[List.getElem?_append_right (by omega),show j+1+i-(Bz a).length=j-(Bz a).length+1+i by omega];exact this
 |.cond q a b,n,j,c',h=>by
  have h:(Bz a++Bz b)[j]? = some c':=h
  have hn:(Bv P ents hs (.cond q a b) n).2=(Bv P ents hs a n).2++(Bv P ents hs b (n+(Bv P ents hs a n).2.length)).2:=rfl
  rw[hn]
  rcases Nat.lt_or_ge j (Bz a).length with hj|hj
  .rw[List.getElem?_append_left hj]at h
   obtain⟨live,h0,h1,h2,h3⟩:=Dk P ents hs a n j c' h
   refine⟨live,h0,by rw[List.getElem?_append_left (by rw[Ce];exact hj)];exact h1,fun hok=>h2 (by simp only[Kn,Bool.and_eq_true]at hok;exact hok.1),fun i c2 hi=>?_⟩
   have:=h3 i c2 hi
   show (Bz a++Bz b)[j+1+i]? = some c2
   rw[List.getElem?_append_left (List.getElem?_eq_some_iff.1 this).1];exact this
  .rw[List.getElem?_append_right hj]at h
   obtain⟨live,h0,h1,h2,h3⟩:=Dk P ents hs b (n+(Bv P ents hs a n).2.length) (j-(Bz a).length) c' h
   have hl:=Ce P ents hs a n
   rw[hl]at h0
   refine⟨live,fun q hq=>h0 q (by rw[show n+(Bz a).length+(j-(Bz a).length)=n+j by omega];exact hq),?_,fun hok=>h2 (by simp only[Kn,Bool.and_eq_true]at hok;exact hok.2),fun i c2 hi=>?_⟩
   .rw[List.getElem?_append_right (by omega),hl]
    rw[hl]at h1
    rw[show n+j+1=n+(Bz a).length+(j-(Bz a).length)+1 by omega]
    exact h1
   .have:=h3 i c2 hi
    show (Bz a++Bz b)[j+1+i]? = some c2
    rw[List.getElem?_append_right (by omega),show j+1+i-(Bz a).length=j-(Bz a).length+1+i by omega];exact this
 |.block id a,n,j,c',h=>Dk P ents hs a n j c' h
 |.loop a,n,j,c',h=>by
  have h:(a::Bz a)[j]? = some c':=h
  have hn:∃ live,(∀ q,hs[n]? = some q->live=q)/\(Bv P ents hs (.loop a) n).2=(live,(Bv P ents hs a (n+1)).1)::(Bv P ents hs a (n+1)).2:=by
   have:Bv P ents hs (.loop a) n=(match Bv P ents hs a (n+1),hs[n]? with
    |(mc,lc),some h=>(.loop n h,(h,mc)::lc)
    |(mc,lc),none=>(.bad,(⟨0,[],[],[],[]⟩,mc)::lc)):=by rw[Bv];rfl
   rw[this]
   cases hs[n]? with
   |none=>exact⟨_,fun q h=>(by cases h),rfl⟩
   |some q=>exact⟨_,fun q' h=>Option.some.inj h,rfl⟩
  obtain⟨live,hq0,hn⟩:=hn
  rw[hn]
  cases j with
  |zero=>
   simp only[List.getElem?_cons_zero,Option.some.injEq]at h
   subst h
   exact⟨live,hq0,rfl,fun hok=>hok,fun i c2 hi=>by
    show (a::Bz a)[0+1+i]? = some c2
    rw[show 0+1+i=i+1 by omega];exact hi⟩
  |succ j=>
   simp only[List.getElem?_cons_succ]at h
   obtain⟨live',h0,h1,h2,h3⟩:=Dk P ents hs a (n+1) j c' h
   refine⟨live',fun q hq=>h0 q (by rw[show n+1+j=n+(j+1) by omega];exact hq),?_,h2,fun i c2 hi=>?_⟩
   .simp only[List.getElem?_cons_succ]
    rw[show n+(j+1)+1=n+1+j+1 by omega];exact h1
   .show (a::Bz a)[j+1+1+i]? = some c2
    rw[show j+1+1+i=(j+1+i)+1 by omega];exact h3 i c2 hi
 |.exit _,n,j,c',h=>by simp[Bz]at h
 |.ret,n,j,c',h=>by simp[Bz]at h
 |.rangeFunc ..,n,j,c',h=>by simp[Bz]at h
 |.scope _,n,j,c',h=>by simp[Bz]at h
 |.label _,n,j,c',h=>by simp[Bz]at h
 |.goto _,n,j,c',h=>by simp[Bz]at h
 |.refuse _,n,j,c',h=>by simp[Bz]at h
theorem I4{S:LW}:BC S fun _ _=>none:=fun _ _ _ _ h=>by cases h
theorem Qb{P:Program}{ents:Nat}{M:Seat}(hM:SeatOk P ents M):∀ n,(∀ f,BC (BZ P f) ((Dn Ao M n).ask (.fn f)))/\∀ f mf fn c,M.fns f=some mf->P.funcs[f]? = some fn->fn.body=some c->∀ i c' q mc,(Bz c)[i]? = some c'->mf.loops[i]? = some (q,mc)->BC (Ox P q c') ((Dn Ao M n).ask (.lp f i))
 |0=>⟨fun _=>I4,fun _ _ _ _ _ _ _ _ _ _ _ _ _=>I4⟩
 |n+1=>by
  obtain⟨ih1,ih2⟩:=Qb hM n
  have hΓ:=P9 (P:=P) M.own ih1
  refine⟨fun f=>?_,fun f mf fn c h0 h1 h2 i c' q mc hi hq=>?_⟩
  .have hd:(Dn Ao M (n+1)).ask (.fn f)=fun args bs=>(match M.ext f with
     |some d=>d args bs
     |none=>(match M.fns f with
      |some mf=>Oc (EI (fnM Ao (Dn Ao M n) M.own f mf)) args bs
      |none=>none)):=rfl
   rw[hd]
   cases e:M.ext f with
   |some d=>exact hM.ext f d e
   |none=>
    cases e2:M.fns f with
    |none=>exact I4
    |some mf=>
     obtain⟨fn,c,hs,k1,k2,k3,k4,k5,k6,k7,k8⟩:=(hM.fns f mf e2).ok
     refine Ru (CO P f) (Po (Wj M.own hM.mixed hM.ent k1 k2 k3 k4 k5 k6 k7 hΓ fun j c' q hj hq=>JL ?_) fun args=>Loc.fnM _ _ _ _ _ _)
     obtain⟨live,q0,q1,_,_⟩:=Dk P ents hs c 0 j c' hj
     rw[Nat.zero_add]at q0
     rw[q0 q hq]at q1
     exact ih2 f mf fn c e2 k1 k2 j c' q _ hj (by rw[k8];exact q1)
  .have hd:(Dn Ao M (n+1)).ask (.lp f i)=fun args bs=>(match M.fns f with
     |some mf=>(match mf.loops[i]? with
      |some lc=>Oc (EI (lpM Ao (Dn Ao M n) M.own f i lc.1 lc.2)) args bs
      |none=>none)
     |none=>none):=rfl
   rw[hd,h0]
   simp only[hq]
   obtain⟨fn',c0,hs,k1,k2,k3,k4,k5,k6,k7,k8⟩:=(hM.fns f mf h0).ok
   rw[h1]at k1
   cases k1
   rw[h2]at k2
   cases k2
   obtain⟨live,q0,q1,q2,q3⟩:=Dk P ents hs c 0 i c' hi
   rw[k8,q1]at hq
   simp only[Option.some.injEq,Prod.mk.injEq]at hq
   obtain⟨rfl,rfl⟩:=hq
   refine Ru (NP P live c') (Po (WH M.own hM.mixed hM.ent (q2 k3) hΓ (fun j c2 q hj hq=>?_) (ih2 f mf fn c h0 h1 h2 i c' live _ hi (by rw[k8];exact q1))) fun args=>Loc.lpM _ _ _ _ _ _ _ _)
   rw[show 0+i+1+j=i+1+j by omega]
   obtain⟨live2,p0,p1,_,_⟩:=Dk P ents hs c 0 (i+1+j) c2 (q3 j c2 hj)
   rw[show 0+(i+1+j)=0+i+1+j by omega]at p0
   rw[p0 q hq]at p1
   exact JL (ih2 f mf fn c h0 h1 h2 (i+1+j) c2 q _ (q3 j c2 hj) (by rw[k8];exact p1))
theorem Xi{P:Program}{ents:Nat}{M:Seat}(hM:SeatOk P ents M)(f:FuncId):BC (BZ P f) ((Ck Ao M).ask (.fn f)):=by
 intro args bs r out h
 obtain⟨n,hn⟩:=Pv h
 exact(Qb hM n).1 f args bs r out (hn n (Nat.le_refl _))
end Go.Proofs.YtlmhajfbpplpoaaGreat
namespace Go.Proofs.YtlmhajfbpplpoaaGreat
open Go.RowKit
abbrev KR:=Option (AV × List BO)
inductive Sh where
 |int (k:IntKind)
 |bool
 |str
 |ls
 |lp (l:List Sh)
 |agg (l:List Sh)
 |tup (l:List Sh)
 |sl (b e:Nat)
 |ptr (b o:Nat)
 |cst (v:Value)
 |fnc (f:Nat)
 |any
inductive Os where
 |keep
 |del
 |row (st:Bool)
 |box (l:List Sh)
def br(b:Bool)(x y:KR):KR:=match b with
 |true=>x
 |false=>y
def unI(n:Int)(k:Nat->KR):KR:=match n with
 |.ofNat i=>k i
 |.negSucc _=>none
def BG(xs:List (List AV))(i:Nat)(k:List AV->KR):KR:=match Sk xs i with
 |some cs=>k cs
 |none=>none
def IA(cells:List AV)(o n:Nat)(k:List AV->KR):KR:=match Nat.ble (o+n) cells.length with
 |true=>k ((cells.drop o).take n)
 |false=>none
def Af(D:Orc)(key:Key)(args:List AV)(bs:List ABlk)(k:AV->List BO->KR):KR:=match D.ask key args bs with
 |some r=>k r.1 r.2
 |none=>none
def Bp(kd:IntKind)(x:AV)(k:Int->KR):KR:=match x with
 |.v (.int k' n)=>if k'=kd then k n else none
 |_=>none
def AW(x:AV)(k:Bool->KR):KR:=match x with
 |.v (.bool b)=>k b
 |_=>none
def FA(x:AV)(k:ByteArray->KR):KR:=match x with
 |.v (.string s)=>k s
 |_=>none
def BX(x:AV)(k:List (List AV)->KR):KR:=match x with
 |.ls xs=>k xs
 |_=>none
def Ak0(x:AV)(k0:KR)(k:List AV->KR):KR:=match x with
 |.v (.pointer none)=>k0
 |.lp cs=>k cs
 |_=>none
def At(x:AV)(k:List AV->KR):KR:=match x with
 |.agg cs=>k cs
 |_=>none
def AF(x:AV)(k:List AV->KR):KR:=match x with
 |.tup cs=>k cs
 |_=>none
def CC(b e:Nat)(x:AV)(k:Nat->KR):KR:=match x with
 |.sl b' 0 n e'=>(match Nat.beq b b',Nat.beq e e' with
  |true,true=>k n
  |_,_=>none)
 |_=>none
def Dr(b o:Nat)(x:AV)(k:KR):KR:=match x with
 |.ptr b' o'=>(match Nat.beq b b',Nat.beq o o' with
  |true,true=>k
  |_,_=>none)
 |_=>none
def Ov(f:Nat)(x:AV)(k:KR):KR:=match x with
 |.fn (.func g) [] []=>(match Nat.beq f g with
  |true=>k
  |false=>none)
 |_=>none
def Aev:Value->Value->Bool
 |.slice none 0 0,.slice none 0 0=>true
 |.pointer none,.pointer none=>true
 |_,_=>false
def Afw(v:Value)(x:AV)(k:KR):KR:=match x with
 |.v u=>(match Aev v u with
  |true=>k
  |false=>none)
 |_=>none
def Ad(cs:List AV)(k:KR):KR:=match cs with
 |[]=>k
 |_::_=>none
def Aj(cs:List AV)(k:AV->List AV->KR):KR:=match cs with
 |[]=>none
 |c::r=>k c r
def Ay(kd:IntKind)(cs:List AV)(k:Int->List AV->KR):KR:=match cs with
 |.v (.int k' n)::r=>if k'=kd then k n r else none
 |_=>none
def Ag(cs:List AV)(k:Bool->List AV->KR):KR:=match cs with
 |.v (.bool b)::r=>k b r
 |_=>none
def Br(cs:List AV)(k:ByteArray->List AV->KR):KR:=match cs with
 |.v (.string s)::r=>k s r
 |_=>none
def AI(cs:List AV)(k:List (List AV)->List AV->KR):KR:=match cs with
 |.ls xs::r=>k xs r
 |_=>none
def AG(o:List BO)(k:BO->List BO->KR):KR:=match o with
 |[]=>none
 |c::r=>k c r
def Ac(o:List BO)(k:KR):KR:=match o with
 |[]=>k
 |_::_=>none
def QZ(o:BO)(k:KR):KR:=match o with
 |.keep=>k
 |_=>none
def BW(o:BO)(k:KR):KR:=match o with
 |.del=>k
 |_=>none
def AP(st ex:Bool)(o:BO)(k:List AV->KR):KR:=match o with
 |.set ⟨cs,st',ex'⟩=>if st'=st/\ex'=ex then k cs else none
 |_=>none
def Bw(k:Nat)(x:AV):Bool:=match k,x with
 |0,.v (.bool true)=>true
 |i+1,.v (.int .i64 (.ofNat j))=>Nat.beq i j
 |_,_=>false
mutual
def Dl:Sh->AV->(AV->KR)->KR
 |.int kd,x,K=>Bp kd x fun n=>K (.v (.int kd n))
 |.bool,x,K=>AW x fun b=>K (.v (.bool b))
 |.str,x,K=>FA x fun s=>K (.v (.string s))
 |.ls,x,K=>BX x fun xs=>K (.ls xs)
 |.lp l,x,K=>Ak0 x (K (.v (.pointer none))) fun cs=>Cr l cs fun cs=>K (.lp cs)
 |.agg l,x,K=>At x fun cs=>Cr l cs fun cs=>K (.agg cs)
 |.tup l,x,K=>AF x fun cs=>Cr l cs fun cs=>K (.tup cs)
 |.sl b e,x,K=>CC b e x fun n=>K (.sl b 0 n e)
 |.ptr b o,x,K=>Dr b o x (K (.ptr b o))
 |.cst v,x,K=>Afw v x (K (.v v))
 |.fnc f,x,K=>Ov f x (K (.fn (.func f) [] []))
 |.any,x,K=>K x
def Cr:List Sh->List AV->(List AV->KR)->KR
 |[],cs,K=>Ad cs (K [])
 |.int kd::l,cs,K=>Ay kd cs fun n r=>Cr l r fun r=>K (.v (.int kd n)::r)
 |.bool::l,cs,K=>Ag cs fun n r=>Cr l r fun r=>K (.v (.bool n)::r)
 |.str::l,cs,K=>Br cs fun n r=>Cr l r fun r=>K (.v (.string n)::r)
 |.ls::l,cs,K=>AI cs fun n r=>Cr l r fun r=>K (.ls n::r)
 |s::l,cs,K=>Aj cs fun c r=>Dl s c fun c=>Cr l r fun r=>K (c::r)
end
def Fo:List Os->List BO->(List BO->KR)->KR
 |[],o,K=>Ac o (K [])
 |s::l,o,K=>AG o fun c r=>(match s with
  |.keep=>QZ c (Fo l r fun r=>K (.keep::r))
  |.del=>BW c (Fo l r fun r=>K (.del::r))
  |.row st=>AP st true c fun cs=>Fo l r fun r=>K (.set ⟨cs,st,true⟩::r)
  |.box m=>AP true false c fun cs=>Cr m cs fun cs=>Fo l r fun r=>K (.set ⟨cs,true,false⟩::r))
inductive Sc where
 |n
 |b (x y:Sc)
 |t (x:Sc)
 |f (x:Sc)
def brS(s:Sc)(c:Bool)(x y:Sc->KR):KR:=match s with
 |.n=>br c (x .n) (y .n)
 |.b p q=>br c (x p) (y q)
 |.t p=>br c (x p) none
 |.f p=>br c none (y p)
def KM(α:Type):=AH->Sc->(α->AH->Foot->Sc->KR)->KR
namespace KM
variable {α β:Type}
def ret(a:α):KM α:=fun H s k=>k a H ⟨[],[]⟩ s
def fail:KM α:=fun _ _ _=>none
def bind(m:KM α)(f:α->KM β):KM β:=fun H s k=>m H s fun a H1 f1 s=>f a H1 s fun b H2 f2 s=>k b H2 ⟨f1.rd++f2.rd,f1.wr++f2.wr⟩ s
def gen(m:AM α):KM α:=fun H s k=>match m H with
 |some (a,H',f)=>k a H' f s
 |none=>none
def opt:Option α->KM α
 |some a=>ret a
 |none=>fail
def brk(b:Bool)(x y:KM α):KM α:=fun H s k=>brS s b (fun s=>x H s k) (fun s=>y H s k)
def test(b:Bool)(x:KM α):KM α:=fun H s k=>br b (x H s k) none
def unI(n:Int)(f:Nat->KM α):KM α:=fun H s k=>Go.Proofs.YtlmhajfbpplpoaaGreat.unI n fun i=>f i H s k
def nth(xs:List (List AV))(i:Nat)(f:List AV->KM α):KM α:=fun H s k=>BG xs i fun cs=>f cs H s k
def rd(cells:List AV)(o n:Nat):KM (List AV):=fun H s k=>IA cells o n fun cs=>k cs H ⟨[],[]⟩ s
def exp(t:Sh)(x:AV):KM AV:=fun H s k=>Dl t x fun y=>k y H ⟨[],[]⟩ s
def expL(l:List Sh)(x:List AV):KM (List AV):=fun H s k=>Cr l x fun y=>k y H ⟨[],[]⟩ s
def expO(l:List Os)(x:List BO):KM (List BO):=fun H s k=>Fo l x fun y=>k y H ⟨[],[]⟩ s
def ask(D:Orc)(key:Key)(args:List AV)(bs:List ABlk):KM (AV × List BO):=fun H s k=>Af D key args bs fun r o=>k (r,o) H ⟨[],[]⟩ s
def idx(x:AV)(f:Nat->KM α):KM α:=match x with
 |.v (.int _ n)=>unI n f
 |_=>fail
def idxO(n:Nat)(x:Option AV)(f:Nat->KM α):KM α:=match x with
 |some x=>idx x f
 |none=>f n
end KM
def Bu(n bytes:Nat):Bool:=match Nat.ble (n*bytes) 140737488355328 with
 |true=>Nat.ble n maxLen
 |false=>false
def JG(l h n:Nat):Bool:=match Nat.ble l h with
 |true=>Nat.ble h n
 |false=>false
structure Hnt where
 fn:List (Nat × (Sh × List Os))
 lp:List (Nat × List (Nat × (List Sh × List Os)))
 tm:List (Nat × List Sh)
def CH{α:Type}(n:Nat):List (Nat × α)->Option α
 |[]=>none
 |(m,a)::r=>match Nat.beq n m with
  |true=>some a
  |false=>CH n r
section
variable (A:Ar) (D:Orc) (own:List (Nat × Nat)) (Hn:Hnt)
def tmK(d:Option Nat)(cs:List AV):KM (List AV):=match d with
 |some d=>(match CH d Hn.tm with
  |some l=>KM.expL l cs
  |none=>KM.ret cs)
 |none=>KM.ret cs
def Vz(d:Option Nat)(a:AV)(n:Nat):KM (List AV):=match a with
 |.ptr b o=>(KM.gen (AM.getB b)).bind fun k=>(KM.rd k.cells o n).bind fun cs=>match k.ex with
  |true=>tmK Hn d cs
  |false=>KM.ret cs
 |a=>KM.gen (rdAt a n)
def Zt(d:Option Nat)(row:Bool)(n:Nat)(a:AV):KM AV:=match row with
 |true=>(Vz Hn d a n).bind fun cs=>KM.ret (.agg cs)
 |false=>(Vz Hn d a 1).bind fun cs=>KM.opt (Ud cs)
def Ut(n:Nat)(a x:AV):KM AV:=match a with
 |.ptr b o=>
  if x.cells.length=n/\x.cells.all AV.one=true then
   (KM.gen (AM.getB b)).bind fun k=>if k.st=true/\(!k.ex||A8 x.cells)=true then KM.test (Nat.ble (o+n) k.cells.length) ((KM.gen (AM.setB b { k with cells:=Ba k.cells o x.cells })).bind fun _=>KM.ret AV.undef) else KM.fail
  else KM.fail
 |_=>KM.fail
def TR(d:Option Nat)(e:Nat)(x ix:AV):KM AV:=KM.idx ix fun i=>match x with
 |.sl b o n e'=>KM.test (Nat.blt i n) (if e'=e then KM.ret (.ptr b (o+i*e)) else KM.fail)
 |.ls xs=>KM.nth xs i fun cs=>(tmK Hn d cs).bind fun cs=>(match Nat.beq cs.length e with
  |true=>KM.ret (.lp cs)
  |false=>KM.fail)
 |_=>KM.fail
def S9(n e:Nat)(x ix:AV):KM AV:=KM.idx ix fun i=>KM.test (Nat.blt i n) (KM.opt (Nr x (i*e)))
def TT(d:Option Nat)(n e:Nat)(row:Bool)(sz:Nat)(x ix:AV):KM AV:=KM.idx ix fun i=>match x with
 |.agg cs=>KM.test (Nat.blt i n) ((KM.rd cs (i*e) (match row with
  |true=>sz
  |false=>1)).bind fun xs=>(match row with
  |true=>KM.ret (.agg xs)
  |false=>KM.opt (Ud xs)))
 |_=>KM.fail
def Up(e:Nat)(x:AV)(lo hi:Option AV):KM AV:=match x with
 |.sl b o n e'=>KM.idxO 0 lo fun l=>KM.idxO n hi fun h=>KM.test (JG l h n) (match Nat.beq e' e with
  |true=>KM.ret (.sl b (o+l*e) (h-l) e)
  |false=>KM.fail)
 |.ls xs=>KM.idxO 0 lo fun l=>KM.idxO (Be xs) hi fun h=>KM.test (JG l h (Be xs)) (KM.test (Gi e xs) (KM.ret (.ls (II (Zq1 xs h) l))))
 |_=>KM.fail
def AfP(b:BinOp)(x y:AV):KM AV:=match x,y with
 |.v (.int k a),.v (.int k' c)=>(match b with
  |.shl=>KM.brk (A.lt c 0) KM.fail (KM.ret (.v (.int k (A.shl k a c))))
  |.shr=>KM.brk (A.lt c 0) KM.fail (KM.ret (.v (.int k (A.shr k a c))))
  |.quo=>if k=k' then KM.brk (A.eq c 0) KM.fail (KM.ret (.v (.int k (A.quo k a c)))) else KM.fail
  |.rem=>if k=k' then KM.brk (A.eq c 0) KM.fail (KM.ret (.v (.int k (A.rem k a c)))) else KM.fail
  |.neq=>if k=k' then KM.brk (A.eq a c) (KM.ret (.v (.bool false))) (KM.ret (.v (.bool true))) else KM.fail
  |b=>KM.opt (Jr A b (.v (.int k a)) (.v (.int k' c))))
 |.v (.string a),.v (.string c)=>(match b with
  |.add=>KM.test (Nat.ble (A.slen a+A.slen c) 9223372036854775807) (KM.ret (.v (.string (A.cat a c))))
  |.neq=>KM.brk (A.seq a c) (KM.ret (.v (.bool false))) (KM.ret (.v (.bool true)))
  |b=>KM.opt (Jr A b (.v (.string a)) (.v (.string c))))
 |x,y=>KM.opt (Jr A b x y)
def Aam(x i:AV):KM AV:=match x with
 |.v (.string s)=>KM.idx i fun i=>KM.test (Nat.blt i (A.slen s)) (KM.ret (.v (.int .u8 (A.sat s i))))
 |_=>KM.fail
def QO(x:AV)(lo hi:Option AV):KM AV:=match x with
 |.v (.string s)=>KM.idxO 0 lo fun l=>KM.idxO (A.slen s) hi fun h=>KM.test (JG l h (A.slen s)) (KM.ret (.v (.string (A.ssub s l h))))
 |_=>KM.fail
def Vp(e:Nat)(x:AV):KM (Nat × List AV):=match x with
 |.sl b o n e'=>if e'=e then(KM.gen (AM.getB b)).bind fun k=>KM.test (Nat.ble (o+n*e) k.cells.length) (match (k.ex||A8 ((k.cells.drop o).take (n*e))) with
   |true=>KM.ret (n,(k.cells.drop o).take (n*e))
   |false=>KM.fail)
   else KM.fail
 |.ls xs=>KM.test (Gi e xs) (KM.ret (Be xs,Iz xs))
 |.v (.slice none 0 0)=>KM.ret (0,[])
 |_=>KM.fail
def AdM(e bytes:Nat)(s:AV)(m:Nat)(xs:List AV):KM AV:=match s with
 |.v (.slice none 0 0)=>KM.test (Bu m bytes) ((KM.gen (AM.newB ⟨xs,true,true⟩)).bind fun b=>KM.ret (.sl b 0 m e))
 |.sl b o n e'=>(match Nat.beq e' e with
  |true=>KM.test (Bu (n+m) bytes) ((KM.gen (AM.getB b)).bind fun k=>match k.ex,k.st with
   |true,true=>KM.test (Nat.ble (o+n*e) k.cells.length) ((KM.gen (AM.delB b)).bind fun _=>(KM.gen (AM.newB ⟨(k.cells.take (o+n*e)).drop o++xs,true,true⟩)).bind fun b'=>KM.ret (.sl b' 0 (n+m) e))
   |true,false=>KM.test (Nat.beq (o+n*e) k.cells.length) ((KM.gen (AM.setB b { k with ex:=false })).bind fun _=>(KM.gen (AM.newB ⟨(k.cells.take (o+n*e)).drop o++xs,false,true⟩)).bind fun b'=>KM.ret (.sl b' 0 (n+m) e))
   |_,_=>KM.fail)
  |false=>KM.fail)
 |_=>KM.fail
def AfK(e bytes:Nat)(s x:AV):KM AV:=(Vp e x).bind fun r=>KM.brk (Nat.beq r.1 0) (if R0 s=true then KM.ret s else KM.fail) (KM.test (JP r.2) (AdM e bytes s r.1 r.2))
def Zw(z:List Value)(e bytes:Nat)(l c:AV):KM AV:=KM.idx l fun n=>KM.idx c fun m=>KM.test (Nat.ble n m) (KM.test (Bu m bytes) ((KM.gen (AM.newB ⟨Cq (z.map .v) (n*e),true,true⟩)).bind fun b=>KM.ret (.sl b 0 n e)))
def AfV(e:Nat)(d x:AV):KM AV:=match d with
 |.sl b o n e'=>(match Nat.beq e' e with
  |true=>(Vp e x).bind fun r=>KM.test (JP (r.2.take (Nat.min r.1 n*e))) ((KM.gen (AM.getB b)).bind fun k=>match k.st with
    |true=>KM.test (Nat.ble (o+n*e) k.cells.length) ((KM.gen (AM.setB b { k with cells:=Ba k.cells o (r.2.take (Nat.min r.1 n*e)) })).bind fun _=>KM.ret (.v (.int .i64 (Int.ofNat (Nat.min r.1 n)))))
    |false=>KM.fail)
  |false=>KM.fail)
 |_=>KM.fail
def AfU(z:List Value)(e:Nat)(x:AV):KM AV:=match x with
 |.sl b o n e'=>(match Nat.beq e' e with
  |true=>(KM.gen (AM.getB b)).bind fun k=>match k.st with
   |true=>KM.test (Nat.ble (o+n*e) k.cells.length) ((KM.gen (AM.setB b { k with cells:=Ba k.cells o (Cq (z.map .v) (n*e)) })).bind fun _=>KM.ret (.tup []))
   |false=>KM.fail
  |false=>KM.fail)
 |_=>KM.fail
mutual
def Rr:Nat->AV->KM AV
 |0,x=>KM.gen (frz0 x)
 |n+1,x=>match x with
  |.v z=>KM.ret (ZD z)
  |.sl b o m e=>(KM.gen (AM.getB b)).bind fun k=>KM.test (Nat.ble (o+m*e) k.cells.length) ((match k.st with
    |true=>KM.gen (AM.setB b { k with st:=false })
    |false=>KM.ret ()).bind fun _=>match (k.ex||A8 ((k.cells.drop o).take (m*e))) with
     |true=>KM.ret (.ls (BF m e ((k.cells.drop o).take (m*e))))
     |false=>(JC n ((k.cells.drop o).take (m*e))).bind fun cs=>match A8 cs with
      |true=>KM.ret (.ls (BF m e cs))
      |false=>KM.fail)
  |.agg cs=>(JC n cs).bind fun cs=>KM.ret (.agg cs)
  |.tup cs=>(JC n cs).bind fun cs=>KM.ret (.tup cs)
  |x=>KM.ret x
def JC:Nat->List AV->KM (List AV)
 |_,[]=>KM.ret []
 |0,_::_=>KM.fail
 |n+1,x::r=>(Rr n x).bind fun x=>(JC n r).bind fun r=>KM.ret (x::r)
end
def YR(b:Nat):KM Unit:=(KM.gen (AM.getB b)).bind fun k=>match k.ex,k.st with
 |false,true=>(JC 1000 k.cells).bind fun cs=>(KM.gen (AM.getB b)).bind fun k2=>(match k2.ex,Nat.beq cs.length k2.cells.length with
  |false,true=>KM.gen (AM.setB b { k2 with cells:=cs })
  |_,_=>KM.fail)
 |_,_=>KM.ret ()
def JD:List Nat->List AV->KM (List AV)
 |[],T=>KM.ret T
 |t::r,T=>match T[t]? with
  |some (.ptr b _)=>(YR b).bind fun _=>JD r T
  |some x=>(Rr 1000 x).bind fun y=>JD r (T.set t y)
  |none=>JD r T
def OP(f:Nat):Nat->List AV->KM (List AV)
 |_,[]=>KM.ret []
 |i,x::r=>match ZP own f i with
  |true=>(OP f (i+1) r).bind fun r=>KM.ret (x::r)
  |false=>(Rr 1000 x).bind fun x=>(OP f (i+1) r).bind fun r=>KM.ret (x::r)
def P7(key:Key)(e:AV × List BO->KM (AV × List BO))(args:List AV):KM AV:=
 (KM.gen (trav 4096 (Ep args) [])).bind fun L=>(KM.gen (readAll L)).bind fun bs=>
  ((KM.ask D key (G3 (fun b=>idx b L) args) (bs.map (ABlk.ren fun b=>idx b L))).bind e).bind fun r=>
    match MF r.2.length r.1.ids,PW r.2.length r.2 with
    |true,true=>(KM.gen nextB).bind fun n=>(KM.gen (writeAll (GS L n) L r.2)).bind fun out=>(KM.gen (newAll (GS L n) out)).bind fun _=>KM.ret (r.1.ren (GS L n))
    |_,_=>KM.fail
def ansF(f:Nat)(r:AV × List BO):KM (AV × List BO):=match CH f Hn.fn with
 |some (s,l)=>(KM.exp s r.1).bind fun x=>(KM.expO l r.2).bind fun o=>KM.ret (x,o)
 |none=>KM.ret r
def P8(f:FuncId)(args:List AV):KM AV:=(OP own f 0 args).bind fun l=>P7 D (.fn f) (ansF Hn f) l
def XV:Nat->AV
 |0=>.v (.bool true)
 |i+1=>.v (.int .i64 (Int.ofNat i))
def ansX:List (Nat × (List Sh × List Os))->AV->List AV->List BO->KM (AV × List BO)
 |[],_,_,_=>KM.fail
 |(k,s,l)::r,x,ys,o=>KM.brk (Bw k x) ((KM.expL s ys).bind fun ys=>(KM.expO l o).bind fun o=>KM.ret (.tup (XV k::ys),o)) (ansX r x ys o)
def ansL(i:Nat)(r:AV × List BO):KM (AV × List BO):=match CH i Hn.lp with
 |some l=>fun H s k=>AF r.1 fun cs=>Aj cs fun x ys=>ansX l x ys r.2 H s k
 |none=>KM.ret r
def T4(f i:Nat)(xs:List AV):KM (AX × List AV):=(P7 D (.lp f i) (ansL Hn i) xs).bind fun r=>match r with
 |.tup (x::ys)=>(match Td x with
  |some ax=>KM.ret (ax,ys)
  |none=>KM.fail)
 |_=>KM.fail
def opK(d:Option Nat)(o:MO)(T:List AV):KM AV:=match o with
 |.pick c a b=>(match A0 T c with
  |.v (.bool t)=>KM.brk t (KM.ret (A0 T a)) (KM.ret (A0 T b))
  |_=>KM.fail)
 |.ld row n a=>Zt Hn d row n (A0 T a)
 |.st n a x=>Ut n (A0 T a) (A0 T x)
 |.bin ek b x y=>(match ek with
  |0=>AfP A b (A0 T x) (A0 T y)
  |ek=>KM.opt (Abw A ek b (A0 T x) (A0 T y)))
 |.slice e x lo hi=>Up e (A0 T x) (lo.map (A0 T)) (hi.map (A0 T))
 |.iaddr e x i=>TR Hn d e (A0 T x) (A0 T i)
 |.aaddr n e x i=>S9 n e (A0 T x) (A0 T i)
 |.index n e row sz x i=>TT d n e row sz (A0 T x) (A0 T i)
 |.mksl z e bytes l c=>Zw z e bytes (A0 T l) (A0 T c)
 |.app e bytes s x=>AfK e bytes (A0 T s) (A0 T x)
 |.cpy e d x=>AfV e (A0 T d) (A0 T x)
 |.clr z e x=>AfU z e (A0 T x)
 |.sidx x i=>Aam A (A0 T x) (A0 T i)
 |.sslice x lo hi=>QO A (A0 T x) (lo.map (A0 T)) (hi.map (A0 T))
 |.callF f args=>P8 D own Hn f (Oq T args)
 |.callV ents x args=>(match A0 T x with
  |.fn (.func g) a cs=>(match ents.testBit g with
   |true=>P8 D own Hn g (a++Oq T args++cs)
   |false=>KM.fail)
  |_=>KM.fail)
 |o=>KM.gen (mop A (fun _ _=>AM.fail) o T)
def Ya(o:MOp)(T:List AV):KM AV:=match o.g with
 |none=>opK A D own Hn o.dst o.op T
 |some (d,want)=>(match T[d]? with
  |some (.v (.bool b))=>KM.brk (match want with
   |true=>b
   |false=>A.not b) (opK A D own Hn o.dst o.op T) (KM.ret AV.undef)
  |some (.v (.tuple _))=>KM.ret AV.undef
  |_=>KM.fail)
def Af5(v:Value)(k:Value->KR):KR:=match v with
 |.int kd n=>k (.int kd n)
 |.bool b=>k (.bool b)
 |.string s=>k (.string s)
 |.tuple t=>k (.tuple t)
 |v=>k v
theorem AbN(v:Value)(k:Value->KR):Af5 v k=k v:=by
 unfold Af5
 split<;>rfl
def gL(f:AV->(AV->KR)->KR)(l:List AV)(k:List AV->KR):KR:=match l with
 |[]=>k []
 |x::r=>f x fun x=>gL f r fun r=>k (x::r)
theorem AdL{f:AV->(AV->KR)->KR}(hf:∀ x k,f x k=k x):∀(l:List AV) (k:List AV->KR),gL f l k=k l
 |[],_=>rfl
 |x::r,k=>by simp only[gL,hf,AdL hf r]
def gAV(d:Nat)(x:AV)(k:AV->KR):KR:=match d with
 |0=>k x
 |d+1=>match x with
  |.v x=>Af5 x fun x=>k (.v x)
  |.ptr b o=>k (.ptr b o)
  |.sl b o n e=>k (.sl b o n e)
  |.ls xs=>k (.ls xs)
  |.lp cs=>gL (gAV d) cs fun cs=>k (.lp cs)
  |.agg cs=>gL (gAV d) cs fun cs=>k (.agg cs)
  |.tup cs=>gL (gAV d) cs fun cs=>k (.tup cs)
  |.fn f a c=>gL (gAV d) a fun a=>gL (gAV d) c fun c=>k (.fn f a c)
  |.any=>k .any
theorem YS:∀(d:Nat) (x:AV) (k:AV->KR),gAV d x k=k x
 |0,_,_=>rfl
 |d+1,x,k=>by cases x<;>simp only[gAV,AbN,AdL (YS d)]
def gB(e:Bool)(x:AV)(s:Sc)(k:AV->Sc->KR):KR:=match e,x with
 |true,.v (.bool b)=>brS s b (fun s=>k (.v (.bool true)) s) (fun s=>k (.v (.bool false)) s)
 |_,x=>k x s
def Af3:MO->Bool
 |.mv _=>false
 |.ld _ _ _=>false
 |.field _ _ _ _=>false
 |.ext _ _=>false
 |_=>true
def gSp{β:Type}(l:List β)(k:List β->KR):KR:=match l with
 |[]=>k []
 |x::r=>gSp r fun r=>k (x::r)
theorem TL{β:Type}:∀(l:List β) (k:List β->KR),gSp l k=k l
 |[],_=>rfl
 |x::r,k=>by simp only[gSp,TL r]
def gBl(l:List (Nat × ABlk))(k:List (Nat × ABlk)->KR):KR:=match l with
 |[]=>k []
 |(b,⟨cs,st,ex⟩)::r=>gBl r fun r=>k ((b,⟨cs,st,ex⟩)::r)
theorem YT:∀(l:List (Nat × ABlk)) (k:List (Nat × ABlk)->KR),gBl l k=k l
 |[],_=>rfl
 |(b,⟨cs,st,ex⟩)::r,k=>by simp only[gBl,YT r]
def gH(H:AH)(k:AH->KR):KR:=match H with
 |⟨l,n,t⟩=>gBl l fun l=>k ⟨l,n,t⟩
theorem Ah6(H:AH)(k:AH->KR):gH H k=k H:=by
 obtain⟨l,n,t⟩:=H
 simp only[gH,YT]
def gFt(f:Foot)(k:Foot->KR):KR:=match f with
 |⟨rd,wr⟩=>gSp rd fun rd=>gSp wr fun wr=>k ⟨rd,wr⟩
theorem Af4(f:Foot)(k:Foot->KR):gFt f k=k f:=by
 obtain⟨rd,wr⟩:=f
 simp only[gFt,TL]
def AcT:List MOp->List AV->AH->Sc->(List AV->AH->List Foot->Sc->KR)->KR
 |[],T,H,s,k=>k T H [] s
 |o::r,T,H,s,k=>Ya A D own Hn o T H s fun v H f s=>gAV 3 v fun v=>gB (Af3 o.op) v s fun v s=>gSp (Ci T o.dst v) fun T=>gFt f fun f=>gH H fun H=>AcT r T H s fun T H fs s=>k T H (f::fs) s
def Ahg(ops:List MOp)(bf:Option (List Nat))(T:List AV):KM (AX × List AV):=fun H s k=>AcT A D own Hn ops T H s fun T H fs s=>match bf with
 |none=>k (.normal,T) H ⟨fs.flatMap (·.rd),fs.flatMap (·.wr)⟩ s
 |some bf=>(match D9 bf fs with
  |true=>k (.normal,T) H ⟨fs.flatMap (·.rd),fs.flatMap (·.wr)⟩ s
  |false=>none)
def XJ(f:Nat):MC->List AV->KM (AX × List AV)
 |.skip,T=>KM.ret (.normal,T)
 |.reg ops bf,T=>Ahg A D own Hn ops bf T
 |.seq a b,T=>(XJ f a T).bind fun r=>match r.1 with
  |.normal=>XJ f b r.2
  |ax=>KM.ret (ax,r.2)
 |.cond c a b,T=>(match A0 T c with
  |.v (.bool t)=>KM.brk t (XJ f a T) (XJ f b T)
  |_=>KM.fail)
 |.block id c,T=>(XJ f c T).bind fun r=>match r.1 with
  |.exit i=>if i=id then KM.ret (.normal,r.2) else KM.ret (.exit i,r.2)
  |ax=>KM.ret (ax,r.2)
 |.loop i h,T=>(KM.gen (adoptM h.ad T)).bind fun T=>(JD h.fz T).bind fun T=>match Nat.beq T.length h.n with
  |true=>(T4 D Hn f i (Cm h.live T)).bind fun r=>KM.ret (r.1,BY (h.out r.1) h.n r.2)
  |false=>KM.fail
 |.exit id,T=>KM.ret (.exit id,T)
 |.ret,T=>KM.ret (.ret,T)
 |.bad,_=>KM.fail
def Z1(T:List AV):List MRes->KM (List AV)
 |[]=>KM.ret []
 |.tmp t::r=>(Z1 T r).bind fun l=>KM.ret ((T[t]?).getD AV.undef::l)
 |.cell x row n::r=>(Zt Hn none row n ((T[x]?).getD AV.undef)).bind fun v=>(Z1 T r).bind fun l=>KM.ret (v::l)
def M0(n:Nat)(r:AV)(H:AH)(ft:Foot):KR:=
 match (DP 0 n).map (Ue H ft.wr)++(DP n (H.next-n)).map (AcE H) with
 |out=>(match FI n out 4096 (r.ids++TS (IN out n)) []with
  |none=>none
  |some acc=>some (r.ren (Wl n acc),ZZ (Wl n acc) (IN out n)++Sq (Wl n acc) out acc))
def B3(s:Sc)(f:Nat)(mf:MFn)(args:List AV)(bs:List ABlk):KR:=((XJ A D own Hn f mf.body (Qj mf.nt args)).bind fun r=>match r.1 with
 |.exit _=>KM.fail
 |.goto _=>KM.fail
 |_=>(Z1 Hn r.2 mf.res).bind fun l=>(match mf.own with
  |true=>KM.ret (ID l)
  |false=>Rr 1000 (ID l)).bind fun v=>match mf.tch with
   |true=>(KM.gen (touchI (Ep args))).bind fun _=>KM.ret v
   |false=>KM.ret v) ⟨C2 0 bs,bs.length,none⟩ s fun v H ft _=>M0 bs.length v H ft
def ZH(n:Nat):List Nat->List Nat
 |[]=>[]
 |x::r=>match Nat.blt x n,Ff x r with
  |true,false=>x::ZH n r
  |_,_=>ZH n r
def AR(n:Nat)(L:List Nat)(H:AH)(wr:List Nat)(r:AV)(o:List BO):KR:=match MF o.length r.ids,PW o.length o with
 |true,true=>(match (nextB.bind fun n=>(writeAll (GS L n) L o).bind fun out=>(newAll (GS L n) out).bind fun _=>AM.ret (r.ren (GS L n))) H with
  |some (.tup (x::ys),H',f)=>(match Td x with
   |some ax=>M0 n (.tup (XT ax::ys)) H' ⟨[],wr++f.wr⟩
   |none=>none)
  |_=>none)
 |_,_=>none
def Ahf(f i:Nat)(xs:List AV)(H:AH)(ft:Foot)(n:Nat):KR:=match trav 4096 (Ep xs) [] H with
 |some (L,_,f1)=>(match readAll L H with
  |some (bs,_,f2)=>Af D (.lp f i) (G3 (fun b=>idx b L) xs) (bs.map (ABlk.ren fun b=>idx b L)) fun r o=>AR n L H (ZH n (ft.wr++(f1.wr++f2.wr))) r o
  |none=>none)
 |none=>none
def D2(s:Sc)(f i:Nat)(h:LpH)(c:MC)(xs:List AV)(bs:List ABlk):KR:=XJ A D own Hn f c (BY h.live h.n xs) ⟨C2 0 bs,bs.length,none⟩ s fun r H ft s=>match r.1 with
 |.normal=>JD h.fz r.2 H s fun T H g _=>Ahf D f i (Cm h.live T) H ⟨ft.rd++g.rd,ft.wr++g.wr⟩ bs.length
 |.goto _=>none
 |ax=>((JD (h.fzo ax) r.2).bind fun T=>(KM.gen (delT (h.dlo ax) T)).bind fun _=>(KM.gen (touchA (h.nt ax) (Cm (h.out ax) T))).bind fun ys=>KM.ret (.tup (XT ax::ys))) H s fun v H f _=>M0 bs.length v H ⟨ft.rd++f.rd,ft.wr++f.wr⟩
end
end Go.Proofs.YtlmhajfbpplpoaaGreat
namespace Go.Proofs.YtlmhajfbpplpoaaGreat
open Go.RowKit
def SK{α:Type}(m:AM α)(mK:KM α):Prop:=∀ H s k r,mK H s k=some r->∃ a H' f s',m H=some (a,H',f)/\k a H' f s'=some r
section
variable {α β:Type}
theorem SK.ret(a:α):SK (AM.ret a) (KM.ret a):=fun H s k r h=>⟨a,H,⟨[],[]⟩,s,rfl,h⟩
theorem SK.fail(m:AM α):SK m (KM.fail):=fun H s k r h=>by cases h
theorem SK.gen(m:AM α):SK m (KM.gen m):=fun H s k r h=>by
 unfold KM.gen at h
 split at h
 .exact⟨_,_,_,s,‹_›,h⟩
 .cases h
theorem SK.opt:∀ o:Option α,SK (AM.opt o) (KM.opt o)
 |some a=>SK.ret a
 |none=>SK.fail _
theorem SK.bind{m:AM α}{mK:KM α}{f:α->AM β}{fK:α->KM β}(hm:SK m mK)(hf:∀ a,SK (f a) (fK a)):SK (m.bind f) (mK.bind fK):=fun H s k r h=>by
 obtain⟨a,H1,f1,s1,h1,h2⟩:=hm H s _ r h
 obtain⟨b,H2,f2,s2,h3,h4⟩:=hf a H1 s1 _ r h2
 refine⟨b,H2,_,s2,?_,h4⟩
 unfold AM.bind
 simp only[h1,h3]
theorem Jt{b:Bool}{x y:KR}{r:AV × List BO}(h:br b x y=some r):(b=true/\x=some r)\/(b=false/\y=some r):=by
 cases b
 .exact .inr ⟨rfl,h⟩
 .exact .inl ⟨rfl,h⟩
theorem Ra{s:Sc}{c:Bool}{x y:Sc->KR}{r:AV × List BO}(h:brS s c x y=some r):∃ s',(c=true/\x s'=some r)\/(c=false/\y s'=some r):=by
 unfold brS at h
 split at h
 .rcases Jt h with⟨e,h⟩|⟨e,h⟩
  .exact⟨_,.inl ⟨e,h⟩⟩
  .exact⟨_,.inr ⟨e,h⟩⟩
 .rcases Jt h with⟨e,h⟩|⟨e,h⟩
  .exact⟨_,.inl ⟨e,h⟩⟩
  .exact⟨_,.inr ⟨e,h⟩⟩
 .rcases Jt h with⟨e,h⟩|⟨e,h⟩
  .exact⟨_,.inl ⟨e,h⟩⟩
  .cases h
 .rcases Jt h with⟨e,h⟩|⟨e,h⟩
  .cases h
  .exact⟨_,.inr ⟨e,h⟩⟩
theorem SK.brk{b:Bool}{m:AM α}{x y:KM α}(hx:b=true->SK m x)(hy:b=false->SK m y):SK m (KM.brk b x y):=fun H s k r h=>by
 obtain⟨s',⟨e,h⟩|⟨e,h⟩⟩:=Ra h
 .exact hx e H s' k r h
 .exact hy e H s' k r h
theorem SK.test{b:Bool}{m:AM α}{x:KM α}(hx:b=true->SK m x):SK m (KM.test b x):=fun H s k r h=>by
 rcases Jt h with⟨e,h⟩|⟨e,h⟩
 .exact hx e H s k r h
 .cases h
theorem SK.unI{n:Int}{m:AM α}{f:Nat->KM α}(hf:∀ i,n=.ofNat i->SK m (f i)):SK m (KM.unI n f):=fun H s k r h=>by
 unfold KM.unI Go.Proofs.YtlmhajfbpplpoaaGreat.unI at h
 cases n with
 |ofNat i=>exact hf i rfl H s k r h
 |negSucc i=>cases h
theorem SK.idx{x:AV}{m:AM α}{f:Nat->KM α}(hf:∀ i,x.idx=some i->SK m (f i)):SK m (KM.idx x f):=by
 unfold KM.idx
 split
 .exact SK.unI fun i e=>hf i (by rw[e];rfl)
 .exact SK.fail _
theorem SK.idxO{n:Nat}{x:Option AV}{m:AM α}{f:Nat->KM α}(hf:∀ i,L7 n x=some i->SK m (f i)):SK m (KM.idxO n x f):=by
 unfold KM.idxO
 cases x with
 |none=>exact hf n rfl
 |some x=>exact SK.idx fun i e=>hf i e
theorem SK.nth{xs:List (List AV)}{i:Nat}{m:AM α}{f:List AV->KM α}(hf:∀ cs,Sk xs i=some cs->SK m (f cs)):SK m (KM.nth xs i f):=fun H s k r h=>by
 unfold KM.nth BG at h
 split at h
 .exact hf _ ‹_› H s k r h
 .cases h
theorem SK.rd{cells:List AV}{o n:Nat}{f:List AV->AM β}{fK:List AV->KM β}{m:AM β}(hm:o+n<=cells.length->m=f ((cells.drop o).take n))(hf:∀ cs,SK (f cs) (fK cs)):SK m ((KM.rd cells o n).bind fK):=fun H s k r h=>by
 unfold KM.bind KM.rd IA at h
 split at h
 .rename_i e
  rw[hm (by simpa using e)]
  exact hf _ H s _ r (by simpa using h)
 .cases h
end
mutual
theorem Lq:∀(s:Sh) (x:AV) {K:AV->KR} {r:AV × List BO},Dl s x K=some r->K x=some r
 |.int kd,x,K,r,h=>by
  simp only[Dl,Bp]at h
  split at h
  .split at h
   .rename_i e;rw[←e]at h;exact h
   .cases h
  .cases h
 |.bool,x,K,r,h=>by
  simp only[Dl,AW]at h
  split at h
  .exact h
  .cases h
 |.str,x,K,r,h=>by
  simp only[Dl,FA]at h
  split at h
  .exact h
  .cases h
 |.ls,x,K,r,h=>by
  simp only[Dl,BX]at h
  split at h
  .exact h
  .cases h
 |.lp l,x,K,r,h=>by
  simp only[Dl,Ak0]at h
  split at h
  .exact h
  .exact B7 l _ h
  .cases h
 |.agg l,x,K,r,h=>by
  simp only[Dl,At]at h
  split at h
  .exact B7 l _ h
  .cases h
 |.tup l,x,K,r,h=>by
  simp only[Dl,AF]at h
  split at h
  .exact B7 l _ h
  .cases h
 |.sl b e,x,K,r,h=>by
  simp only[Dl,CC]at h
  split at h
  .split at h
   .rename_i e1 e2
    have e1:b=_:=Nat.eq_of_beq_eq_true e1
    have e2:e=_:=Nat.eq_of_beq_eq_true e2
    rw[←e1,←e2];exact h
   .cases h
  .cases h
 |.ptr b o,x,K,r,h=>by
  simp only[Dl,Dr]at h
  split at h
  .split at h
   .rename_i e1 e2
    have e1:b=_:=Nat.eq_of_beq_eq_true e1
    have e2:o=_:=Nat.eq_of_beq_eq_true e2
    rw[←e1,←e2];exact h
   .cases h
  .cases h
 |.cst v,x,K,r,h=>by
  simp only[Dl,Afw]at h
  split at h
  .rename_i u
   split at h
   .rename_i e
    have:v=u:=by
     unfold Aev at e
     split at e
     .rfl
     .rfl
     .cases e
    rw[←this];exact h
   .cases h
  .cases h
 |.fnc f,x,K,r,h=>by
  simp only[Dl,Ov]at h
  split at h
  .split at h
   .rename_i e
    have:=Nat.eq_of_beq_eq_true e
    subst this
    exact h
   .cases h
  .cases h
 |.any,x,K,r,h=>by simpa only[Dl]using h
theorem B7:∀(l:List Sh) (cs:List AV) {K:List AV->KR} {r:AV × List BO},Cr l cs K=some r->K cs=some r
 |[],cs,K,r,h=>by
  simp only[Cr,Ad]at h
  split at h
  .exact h
  .cases h
 |s::l,cs,K,r,h=>by
  have gen:(Aj cs fun c r=>Dl s c fun c=>Cr l r fun r=>K (c::r))=some r->K cs=some r:=fun h=>by
   simp only[Aj]at h
   split at h
   .cases h
   .have:=B7 l _ (Lq s _ h)
    exact this
  cases s with
  |int kd=>
   simp only[Cr,Ay]at h
   split at h
   .split at h
    .rename_i e
     have:=B7 l _ h
     rw[←e]at this
     exact this
    .cases h
   .cases h
  |bool=>
   simp only[Cr,Ag]at h
   split at h
   .have:=B7 l _ h
    exact this
   .cases h
  |str=>
   simp only[Cr,Br]at h
   split at h
   .have:=B7 l _ h
    exact this
   .cases h
  |ls=>
   simp only[Cr,AI]at h
   split at h
   .have:=B7 l _ h
    exact this
   .cases h
  |_=>
   simp only[Cr]at h
   exact gen h
end
theorem DJ:∀(l:List Os) (o:List BO) {K:List BO->KR} {r:AV × List BO},Fo l o K=some r->K o=some r
 |[],cs,K,r,h=>by
  simp only[Fo,Ac]at h
  split at h
  .exact h
  .cases h
 |s::l,o,K,r,h=>by
  simp only[Fo,AG]at h
  split at h
  .cases h
  .cases s with
   |keep=>
    simp only[QZ]at h
    split at h
    .have:=DJ l _ h
     exact this
    .cases h
   |del=>
    simp only[BW]at h
    split at h
    .have:=DJ l _ h
     exact this
    .cases h
   |row st=>
    simp only[AP]at h
    split at h
    .split at h
     .rename_i e
      obtain⟨rfl,rfl⟩:=e
      have:=DJ l _ h
      exact this
     .cases h
    .cases h
   |box m=>
    simp only[AP]at h
    split at h
    .split at h
     .rename_i e
      obtain⟨rfl,rfl⟩:=e
      have:=DJ l _ (B7 m _ h)
      exact this
     .cases h
    .cases h
theorem SK.exp(t:Sh)(x:AV):SK (AM.ret x) (KM.exp t x):=fun H s k r h=>⟨x,H,⟨[],[]⟩,s,rfl,Lq t x h⟩
theorem SK.expL(t:List Sh)(x:List AV):SK (AM.ret x) (KM.expL t x):=fun H s k r h=>⟨x,H,⟨[],[]⟩,s,rfl,B7 t x h⟩
theorem SK.expO(t:List Os)(x:List BO):SK (AM.ret x) (KM.expO t x):=fun H s k r h=>⟨x,H,⟨[],[]⟩,s,rfl,DJ t x h⟩
theorem SK.look{α β:Type}{x:α}{mK:KM α}(hm:SK (AM.ret x) mK){f:α->AM β}{fK:α->KM β}(hf:∀ a,SK (f a) (fK a)):SK (f x) (mK.bind fK):=fun H s k r h=>by
 obtain⟨a,H1,f1,s1,h1,h2⟩:=hm H s _ r h
 obtain⟨rfl,rfl⟩:=Al h1
 have e:f1=⟨[],[]⟩:=by
  simp only[AM.ret,Option.some.injEq,Prod.mk.injEq]at h1
  exact h1.2.2.symm
 subst e
 exact hf _ _ _ _ r (by simpa using h2)
section
variable {A:Ar} {D:Orc} {own:List (Nat × Nat)} {Hn:Hnt}
theorem SK.tm(d:Option Nat)(cs:List AV):SK (AM.ret cs) (tmK Hn d cs):=by
 unfold tmK
 split
 .split
  .exact SK.expL _ _
  .exact SK.ret _
 .exact SK.ret _
theorem SK.rdAt(d:Option Nat)(a:AV)(n:Nat):SK (rdAt a n) (Vz Hn d a n):=by
 unfold Vz
 split
 .unfold Go.Proofs.YtlmhajfbpplpoaaGreat.rdAt
  refine SK.bind (SK.gen _) fun k=>SK.rd (f:=fun cs=>AM.ret cs) (fun h=>if_pos h) fun cs=>?_
  split
  .exact SK.tm _ _
  .exact SK.ret _
 .exact SK.gen _
theorem SK.load(d:Option Nat)(row:Bool)(n:Nat)(a:AV):SK (loadM row n a) (Zt Hn d row n a):=by
 cases row with
 |true=>exact SK.bind (SK.rdAt _ _ _) fun _=>SK.ret _
 |false=>exact SK.bind (SK.rdAt _ _ _) fun _=>SK.opt _
theorem SK.store(n:Nat)(a x:AV):SK (storeM n a x) (Ut n a x):=by
 unfold storeM Ut
 cases a with
 |ptr b o=>
  simp only
  split
  .refine SK.bind (SK.gen _) fun k=>?_
   by_cases h:k.st=true/\(!k.ex||A8 x.cells)=true
   .rw[if_pos h]
    refine SK.test fun e=>?_
    rw[if_pos ⟨h.1,by simpa using e,h.2⟩]
    exact SK.bind (SK.gen _) fun _=>SK.ret _
   .rw[if_neg h]
    exact SK.fail _
  .exact SK.fail _
 |_=>exact SK.fail _
theorem SK.iaddr(d:Option Nat)(e:Nat)(x ix:AV):SK (AM.opt (Ng e x ix)) (TR Hn d e x ix):=by
 unfold TR
 refine SK.idx fun i hi=>?_
 unfold Ng
 simp only[hi]
 cases x with
 |sl b o n e'=>
  simp only
  refine SK.test fun h=>?_
  rw[h]
  simp only
  split
  .exact SK.ret _
  .exact SK.fail _
 |ls xs=>
  simp only
  refine SK.nth fun cs h=>?_
  rw[h]
  simp only
  refine SK.look (f:=fun(cs:List AV)=>AM.opt (match Nat.beq cs.length e with
   |true=>some (AV.lp cs)
   |false=>none)) (SK.tm d cs) fun cs=>?_
  cases Nat.beq cs.length e with
  |true=>exact SK.ret _
  |false=>exact SK.fail _
 |_=>exact SK.fail _
theorem SK.aaddr(n e:Nat)(x ix:AV):SK (AM.opt (PR n e x ix)) (S9 n e x ix):=by
 unfold S9
 refine SK.idx fun i hi=>?_
 unfold PR
 simp only[hi]
 refine SK.test fun h=>?_
 rw[h]
 exact SK.opt _
theorem Aay{cs:List AV}{o:Nat}(h:o+1<=cs.length):Ud ((cs.drop o).take 1)=cs[o]?:=by
 have h1:o<cs.length:=h
 rw[List.getElem?_eq_getElem h1,List.drop_eq_getElem_cons h1]
 rfl
theorem SK.index(d:Option Nat)(n e:Nat)(row:Bool)(sz:Nat)(x ix:AV):SK (AM.opt (Ni n e row sz x ix)) (TT d n e row sz x ix):=by
 unfold TT
 refine SK.idx fun i hi=>?_
 unfold Ni
 cases x with
 |agg cs=>
  simp only[hi]
  refine SK.test fun h=>?_
  rw[h]
  simp only
  unfold Sp
  cases row with
  |true=>exact SK.rd (f:=fun xs=>AM.ret (.agg xs)) (fun _=>rfl) fun _=>SK.ret _
  |false=>exact SK.rd (f:=fun xs=>AM.opt (Ud xs)) (fun h=>by rw[Aay h]) fun _=>SK.opt _
 |_=>exact SK.fail _
theorem Nh{l h n:Nat}(e:JG l h n=true):Nat.ble l h=true/\Nat.ble h n=true:=by
 unfold JG at e
 split at e
 .exact⟨‹_›,e⟩
 .cases e
theorem I1{n b:Nat}(e:Bu n b=true):Nat.ble (n*b) 140737488355328=true/\Nat.ble n maxLen=true:=by
 unfold Bu at e
 split at e
 .exact⟨‹_›,e⟩
 .cases e
theorem SK.slice(e:Nat)(x:AV)(lo hi:Option AV):SK (AM.opt (NQ e x lo hi)) (Up e x lo hi):=by
 unfold Up NQ
 cases x with
 |sl b o n e'=>
  simp only
  refine SK.idxO fun l hl=>SK.idxO fun h hh=>SK.test fun hb=>?_
  rw[hl,hh]
  obtain⟨h1,h2⟩:=Nh hb
  simp only[h1,h2]
  cases Nat.beq e' e with
  |true=>exact SK.ret _
  |false=>exact SK.fail _
 |ls xs=>
  simp only
  refine SK.idxO fun l hl=>SK.idxO fun h hh=>SK.test fun hb=>SK.test fun hw=>?_
  rw[hl,hh]
  obtain⟨h1,h2⟩:=Nh hb
  simp only[h1,h2,hw]
  exact SK.ret _
 |_=>exact SK.fail _
theorem SK.bin(b:BinOp)(x y:AV):SK (AM.opt (Jr A b x y)) (AfP A b x y):=by
 unfold AfP
 split
 .rename_i k a k' c
  cases b with
  |shl=>
   simp only
   refine SK.brk (fun _=>SK.fail _) fun h=>?_
   simp only[Jr,h]
   exact SK.ret _
  |shr=>
   simp only
   refine SK.brk (fun _=>SK.fail _) fun h=>?_
   simp only[Jr,h]
   exact SK.ret _
  |quo=>
   simp only
   split
   .rename_i e
    refine SK.brk (fun _=>SK.fail _) fun h=>?_
    simp only[Jr,h,if_pos e]
    exact SK.ret _
   .exact SK.fail _
  |rem=>
   simp only
   split
   .rename_i e
    refine SK.brk (fun _=>SK.fail _) fun h=>?_
    simp only[Jr,h,if_pos e]
    exact SK.ret _
   .exact SK.fail _
  |neq=>
   simp only
   split
   .rename_i e
    refine SK.brk (fun h=>?_) fun h=>?_<;>(simp only[Jr,h,if_pos e];exact SK.ret _)
   .exact SK.fail _
  |_=>exact SK.opt _
 .cases b with
  |neq=>
   simp only
   refine SK.brk (fun h=>?_) fun h=>?_<;>(simp only[Jr,h];exact SK.ret _)
  |add=>
   simp only
   refine SK.test fun h=>?_
   simp only[Jr,h]
   exact SK.ret _
  |_=>exact SK.opt _
 .exact SK.opt _
theorem SK.sidx(x i:AV):SK (AM.opt (SD A x i)) (Aam A x i):=by
 unfold Aam
 split
 .refine SK.idx fun j hj=>SK.test fun h=>?_
  simp only[SD,hj,h]
  exact SK.ret _
 .exact SK.fail _
theorem SK.sslice(x:AV)(lo hi:Option AV):SK (AM.opt (J4 A x lo hi)) (QO A x lo hi):=by
 unfold QO
 split
 .refine SK.idxO fun l hl=>SK.idxO fun h hh=>SK.test fun hb=>?_
  obtain⟨h1,h2⟩:=Nh hb
  simp only[J4,hl,hh,h1,h2]
  exact SK.ret _
 .exact SK.fail _
theorem SK.news(e:Nat)(x:AV):SK (newsM e x) (Vp e x):=by
 unfold Vp newsM
 cases x with
 |sl b o n e'=>
  simp only
  split
  .refine SK.bind (SK.gen _) fun k=>SK.test fun h=>?_
   rw[h]
   cases (k.ex||A8 ((k.cells.drop o).take (n*e))) with
   |true=>exact SK.ret _
   |false=>exact SK.fail _
  .exact SK.fail _
 |ls xs=>
  simp only
  refine SK.test fun h=>?_
  rw[h]
  exact SK.ret _
 |v z=>
  cases z with
  |slice a n c=>
   cases a with
   |none=>
    cases n with
    |zero=>
     cases c with
     |zero=>exact SK.ret _
     |succ c=>exact SK.fail _
    |succ n=>exact SK.fail _
   |some a=>exact SK.fail _
  |_=>exact SK.fail _
 |_=>exact SK.fail _
theorem SK.app(e bytes:Nat)(s x:AV):SK (appM e bytes s x) (AfK e bytes s x):=by
 unfold AfK appM
 refine SK.bind (SK.news e x) fun r=>SK.brk (fun h=>?_) fun h=>SK.test fun h2=>?_
 .rw[h]
  simp only
  split
  .exact SK.ret _
  .exact SK.fail _
 .rw[h,h2]
  simp only
  unfold AdM
  cases s with
  |sl b o n e'=>
   simp only
   cases he:Nat.beq e' e with
   |false=>exact SK.fail _
   |true=>
    simp only
    refine SK.test fun h3=>?_
    obtain⟨h4,h5⟩:=I1 h3
    simp only[h4,h5]
    refine SK.bind (SK.gen _) fun k=>?_
    cases k.ex with
    |false=>exact SK.fail _
    |true=>
     cases k.st with
     |true=>
      simp only
      refine SK.test fun h6=>?_
      cases Nat.beq (o+n*e) k.cells.length with
      |true=>exact SK.bind (SK.gen _) fun _=>SK.bind (SK.gen _) fun _=>SK.ret _
      |false=>
       simp only[h6]
       exact SK.bind (SK.gen _) fun _=>SK.bind (SK.gen _) fun _=>SK.ret _
     |false=>
      simp only
      refine SK.test fun h6=>?_
      rw[h6]
      exact SK.bind (SK.gen _) fun _=>SK.bind (SK.gen _) fun _=>SK.ret _
  |v z=>
   cases z with
   |slice a n c=>
    cases a with
    |none=>
     cases n with
     |zero=>
      cases c with
      |zero=>
       refine SK.test fun h3=>?_
       obtain⟨h4,h5⟩:=I1 h3
       simp only[h4,h5]
       exact SK.bind (SK.gen _) fun _=>SK.ret _
      |succ c=>exact SK.fail _
     |succ n=>exact SK.fail _
    |some a=>exact SK.fail _
   |_=>exact SK.fail _
  |_=>exact SK.fail _
theorem SK.mksl(z:List Value)(e b:Nat)(l c:AV):SK (mkslM z e b l c) (Zw z e b l c):=by
 unfold Zw mkslM
 refine SK.idx fun n hn=>SK.idx fun m hm=>SK.test fun h1=>SK.test fun h2=>?_
 obtain⟨h3,h4⟩:=I1 h2
 simp only[hn,hm,h1,h3,h4]
 exact SK.bind (SK.gen _) fun _=>SK.ret _
theorem SK.cpy(e:Nat)(d x:AV):SK (cpyM e d x) (AfV e d x):=by
 unfold AfV cpyM
 cases d with
 |sl b o n e'=>
  simp only
  cases Nat.beq e' e with
  |false=>exact SK.fail _
  |true=>
   simp only
   refine SK.bind (SK.news e x) fun r=>SK.test fun h=>?_
   rw[h]
   simp only
   refine SK.bind (SK.gen _) fun k=>?_
   cases k.st with
   |false=>exact SK.fail _
   |true=>
    simp only
    refine SK.test fun h2=>?_
    rw[h2]
    exact SK.bind (SK.gen _) fun _=>SK.ret _
 |_=>exact SK.fail _
theorem SK.clr(z:List Value)(e:Nat)(x:AV):SK (clrM z e x) (AfU z e x):=by
 unfold AfU clrM
 cases x with
 |sl b o n e'=>
  simp only
  cases Nat.beq e' e with
  |false=>exact SK.fail _
  |true=>
   simp only
   refine SK.bind (SK.gen _) fun k=>?_
   cases k.st with
   |false=>exact SK.fail _
   |true=>
    simp only
    refine SK.test fun h2=>?_
    rw[h2]
    exact SK.bind (SK.gen _) fun _=>SK.ret _
 |_=>exact SK.fail _
mutual
theorem SK.frz:∀(n:Nat) (x:AV),SK (frz n x) (Rr n x)
 |0,x=>by
  unfold Rr Go.Proofs.YtlmhajfbpplpoaaGreat.frz
  exact SK.gen _
 |n+1,x=>by
  unfold Rr Go.Proofs.YtlmhajfbpplpoaaGreat.frz
  cases x with
  |v z=>exact SK.ret _
  |sl b o m e=>
   simp only
   refine SK.bind (SK.gen _) fun k=>SK.test fun h=>?_
   rw[h]
   simp only
   refine SK.bind ?_ fun _=>?_
   .cases k.st with
    |true=>exact SK.gen _
    |false=>exact SK.ret _
   .cases (k.ex||A8 ((k.cells.drop o).take (m*e))) with
    |true=>exact SK.ret _
    |false=>
     simp only
     refine SK.bind (SK.frzL n _) fun cs=>?_
     cases A8 cs with
     |true=>exact SK.ret _
     |false=>exact SK.fail _
  |agg cs=>exact SK.bind (SK.frzL n _) fun _=>SK.ret _
  |tup cs=>exact SK.bind (SK.frzL n _) fun _=>SK.ret _
  |_=>exact SK.ret _
theorem SK.frzL:∀(n:Nat) (l:List AV),SK (frzL n l) (JC n l)
 |n,[]=>by
  unfold JC Go.Proofs.YtlmhajfbpplpoaaGreat.frzL
  exact SK.ret _
 |0,_::_=>by
  unfold JC
  exact SK.fail _
 |n+1,x::r=>by
  unfold JC Go.Proofs.YtlmhajfbpplpoaaGreat.frzL
  exact SK.bind (SK.frz n x) fun _=>SK.bind (SK.frzL n r) fun _=>SK.ret _
end
theorem SK.frzB(b:Nat):SK (frzB b) (YR b):=by
 unfold YR Go.Proofs.YtlmhajfbpplpoaaGreat.frzB
 refine SK.bind (SK.gen _) fun k=>?_
 cases k.ex<;>cases k.st<;>try exact SK.ret _
 refine SK.bind (SK.frzL _ _) fun cs=>SK.bind (SK.gen _) fun k2=>?_
 cases k2.ex<;>cases Nat.beq cs.length k2.cells.length<;>first
  |exact SK.gen _
  |exact SK.fail _
theorem SK.frzT:∀(l:List Nat) (T:List AV),SK (frzT l T) (JD l T)
 |[],T=>SK.ret _
 |t::r,T=>by
  unfold JD Go.Proofs.YtlmhajfbpplpoaaGreat.frzT
  cases T[t]? with
  |none=>exact SK.frzT r T
  |some x=>
   cases x with
   |ptr b o=>exact SK.bind (SK.frzB b) fun _=>SK.frzT r T
   |_=>exact SK.bind (SK.frz _ _) fun _=>SK.frzT r _
theorem SK.frzA(f:Nat):∀(i:Nat) (l:List AV),SK (frzA own f i l) (OP own f i l)
 |i,[]=>by
  unfold OP Go.Proofs.YtlmhajfbpplpoaaGreat.frzA
  exact SK.ret _
 |i,x::r=>by
  unfold OP Go.Proofs.YtlmhajfbpplpoaaGreat.frzA
  cases ZP own f i with
  |true=>exact SK.bind (SK.frzA f (i+1) r) fun _=>SK.ret _
  |false=>exact SK.bind (SK.frz 1000 x) fun _=>SK.bind (SK.frzA f (i+1) r) fun _=>SK.ret _
theorem SK.ask(key:Key)(args:List AV)(bs:List ABlk):SK (AM.opt (D.ask key args bs)) (KM.ask D key args bs):=fun H s k r h=>by
 unfold KM.ask Af at h
 split at h
 .rename_i q e
  rw[e]
  exact⟨q,H,⟨[],[]⟩,s,rfl,h⟩
 .cases h
theorem SK.callD(key:Key){e:AV × List BO->KM (AV × List BO)}(he:∀ q,SK (AM.ret q) (e q))(args:List AV):SK (callD (D.ask key) args) (P7 D key e args):=by
 unfold P7 Go.Proofs.YtlmhajfbpplpoaaGreat.callD
 refine SK.bind (SK.gen _) fun L=>SK.bind (SK.gen _) fun bs=>SK.bind ?_ fun r=>?_
 .intro H s k r h
  obtain⟨a,H1,f1,s1,h1,h2⟩:=SK.ask key _ _ H s _ r h
  obtain⟨b,H2,f2,s2,h3,h4⟩:=he a H1 s1 _ r h2
  obtain⟨rfl,rfl⟩:=Al h3
  refine⟨_,_,_,s2,h1,?_⟩
  simp only[AM.ret,Option.some.injEq,Prod.mk.injEq]at h3
  rw[←h3.2.2]at h4
  simpa using h4
 .cases MF r.2.length r.1.ids with
  |false=>exact SK.fail _
  |true=>
   cases PW r.2.length r.2 with
   |false=>exact SK.fail _
   |true=>exact SK.bind (SK.gen _) fun _=>SK.bind (SK.gen _) fun _=>SK.bind (SK.gen _) fun _=>SK.ret _
theorem SK.ansF(f:Nat)(q:AV × List BO):SK (AM.ret q) (ansF Hn f q):=by
 unfold Go.Proofs.YtlmhajfbpplpoaaGreat.ansF
 split
 .exact SK.look (f:=fun x=>AM.ret (x,q.2)) (SK.exp _ _) fun x=>SK.look (f:=fun o=>AM.ret (x,o)) (SK.expO _ _) fun _=>SK.ret _
 .exact SK.ret _
theorem SK.calls(f:FuncId)(args:List AV):SK (callsM D own f args) (P8 D own Hn f args):=by
 unfold P8 callsM
 exact SK.bind (SK.frzA f 0 args) fun l=>SK.callD _ (SK.ansF f) l
theorem Abn{k:Nat}{x:AV}(h:Bw k x=true):x=XV k:=by
 unfold Bw at h
 split at h
 .rfl
 .rename_i i j
  have:i=j:=Nat.eq_of_beq_eq_true h
  rw[this];rfl
 .cases h
theorem SK.ansX:∀(l:List (Nat × (List Sh × List Os))) (x:AV) (ys:List AV) (o:List BO),SK (AM.ret (.tup (x::ys),o)) (ansX l x ys o)
 |[],_,_,_=>SK.fail _
 |(k,s,l)::r,x,ys,o=>by
  unfold Go.Proofs.YtlmhajfbpplpoaaGreat.ansX
  refine SK.brk (fun h=>?_) fun _=>SK.ansX r x ys o
  have hx:x=XV k:=Abn h
  rw[←hx]
  exact SK.look (f:=fun ys=>AM.ret (AV.tup (x::ys),o)) (SK.expL _ _) fun ys=>SK.look (f:=fun o=>AM.ret (AV.tup (x::ys),o)) (SK.expO _ _) fun _=>SK.ret _
theorem SK.ansL(i:Nat)(q:AV × List BO):SK (AM.ret q) (ansL Hn i q):=by
 unfold Go.Proofs.YtlmhajfbpplpoaaGreat.ansL
 split
 .rename_i l _
  intro H s k r h
  obtain⟨v,o⟩:=q
  cases v with
  |tup cs=>
   cases cs with
   |nil=>cases h
   |cons x ys=>exact SK.ansX l x ys o H s k r h
  |_=>cases h
 .exact SK.ret _
theorem SK.loops(f i:Nat)(xs:List AV):SK (loopsM D f i xs) (T4 D Hn f i xs):=by
 unfold T4 loopsM
 refine SK.bind (SK.callD _ (SK.ansL i) xs) fun r=>?_
 cases r with
 |tup vs=>
  cases vs with
  |nil=>exact SK.fail _
  |cons x ys=>
   simp only
   cases Td x with
   |some ax=>exact SK.ret _
   |none=>exact SK.fail _
 |_=>exact SK.fail _
theorem SK.op(d:Option Nat)(o:MO)(T:List AV):SK (mop A (callsM D own) o T) (opK A D own Hn d o T):=by
 cases o with
 |pick c a b=>
  simp only[opK,mop]
  cases A0 T c with
  |v u=>
   cases u with
   |bool t=>
    simp only
    refine SK.brk (fun h=>?_) fun h=>?_<;>(subst h;exact SK.ret _)
   |_=>exact SK.fail _
  |_=>exact SK.fail _
 |ld row n a=>exact SK.load _ _ _ _
 |st n a x=>exact SK.store _ _ _
 |bin ek b x y=>
  cases ek with
  |zero=>exact SK.bin _ _ _
  |succ n=>exact SK.opt _
 |slice e x lo hi=>exact SK.slice _ _ _ _
 |iaddr e x i=>exact SK.iaddr _ _ _ _
 |aaddr n e x i=>exact SK.aaddr _ _ _ _
 |index n e row sz x i=>exact SK.index d _ _ _ _ _ _
 |mksl z e b l c=>exact SK.mksl _ _ _ _ _
 |app e b s x=>exact SK.app _ _ _ _
 |cpy e d x=>exact SK.cpy _ _ _
 |clr z e x=>exact SK.clr _ _ _
 |sidx x i=>exact SK.sidx _ _
 |sslice x lo hi=>exact SK.sslice _ _ _
 |callF f args=>exact SK.calls _ _
 |callV ents x args=>
  simp only[opK,mop]
  cases A0 T x with
  |fn f a cs=>
   cases f with
   |func g=>
    simp only
    cases ents.testBit g with
    |true=>exact SK.calls _ _
    |false=>exact SK.fail _
   |_=>exact SK.fail _
  |_=>exact SK.fail _
 |_=>exact SK.gen _
theorem SK.core(o:MOp)(T:List AV):SK (coreM A (callsM D own) o T) (Ya A D own Hn o T):=by
 unfold Ya coreM SZ
 cases o.g with
 |none=>exact SK.op _ _ _
 |some g=>
  obtain⟨d,want⟩:=g
  simp only
  cases e:T[d]? with
  |none=>exact SK.fail _
  |some x=>
   cases x with
   |v u=>
    cases u with
    |bool b=>
     simp only
     cases want with
     |true=>
      refine SK.brk (fun h=>?_) fun h=>?_<;>subst h
      .exact SK.op _ _ _
      .exact SK.ret _
     |false=>
      simp only
      refine SK.brk (fun h=>?_) fun h=>?_<;>rw[h]
      .exact SK.op _ _ _
      .exact SK.ret _
    |tuple t=>exact SK.ret _
    |_=>exact SK.fail _
   |_=>exact SK.fail _
theorem AbM{e:Bool}{x:AV}{s:Sc}{k:AV->Sc->KR}{r:AV × List BO}(h:gB e x s k=some r):∃ s',k x s'=some r:=by
 unfold gB at h
 split at h
 .obtain⟨s',⟨e,h2⟩|⟨e,h2⟩⟩:=Ra h<;>(subst e;exact⟨s',h2⟩)
 .exact⟨s,h⟩
theorem SK.run:∀(l:List MOp) (T:List AV) (H:AH) (s:Sc) (k:List AV->AH->List Foot->Sc->KR) (r:AV × List BO),AcT A D own Hn l T H s k=some r->∃ T' H' fs s',runM A (callsM D own) l T H=some (T',H',fs)/\k T' H' fs s'=some r
 |[],T,H,s,k,r,h=>⟨T,H,[],s,rfl,h⟩
 |o::l,T,H,s,k,r,h=>by
  simp only[AcT]at h
  obtain⟨v,H1,f,s1,h1,h2⟩:=SK.core o T H s _ r h
  simp only[YS,TL,Af4,Ah6]at h2
  obtain⟨s2,h2⟩:=AbM h2
  obtain⟨T',H',fs,s3,h3,h4⟩:=SK.run l _ _ _ _ r h2
  refine⟨T',H',f::fs,s3,?_,h4⟩
  simp only[runM,h1,h3]
theorem SK.reg(ops:List MOp)(bf:Option (List Nat))(T:List AV):SK (regM A (callsM D own) ops bf T) (Ahg A D own Hn ops bf T):=fun H s k r h=>by
 unfold Ahg at h
 obtain⟨T',H',fs,s',h1,h2⟩:=SK.run ops T H s _ r h
 unfold regM
 rw[h1]
 cases bf with
 |none=>exact⟨_,_,_,s',rfl,h2⟩
 |some bf=>
  simp only at h2 ⊢
  split at h2
  .rename_i e
   rw[e]
   exact⟨_,_,_,s',rfl,h2⟩
  .cases h2
theorem SK.ev(f:Nat):∀(c:MC) (T:List AV),SK (evC A (callsM D own) (loopsM D f) c T) (XJ A D own Hn f c T)
 |.skip,T=>SK.ret _
 |.reg ops bf,T=>SK.reg _ _ _
 |.seq a b,T=>by
  unfold XJ evC
  refine SK.bind (SK.ev f a T) fun r=>?_
  obtain⟨ax,T1⟩:=r
  cases ax with
  |normal=>exact SK.ev f b _
  |_=>exact SK.ret _
 |.cond c a b,T=>by
  unfold XJ evC
  cases A0 T c with
  |v u=>
   cases u with
   |bool t=>
    simp only
    refine SK.brk (fun h=>?_) fun h=>?_<;>subst h
    .exact SK.ev f a T
    .exact SK.ev f b T
   |_=>exact SK.fail _
  |_=>exact SK.fail _
 |.block id c,T=>by
  unfold XJ evC
  refine SK.bind (SK.ev f c T) fun r=>?_
  obtain⟨ax,T1⟩:=r
  cases ax with
  |exit i=>
   simp only
   by_cases e:i=id
   .rw[if_pos e,if_pos e];exact SK.ret _
   .rw[if_neg e,if_neg e];exact SK.ret _
  |_=>exact SK.ret _
 |.loop i h,T=>by
  unfold XJ evC
  refine SK.bind (SK.gen _) fun T=>SK.bind (SK.frzT _ _) fun T=>?_
  cases Nat.beq T.length h.n with
  |true=>exact SK.bind (SK.loops f i _) fun _=>SK.ret _
  |false=>exact SK.fail _
 |.exit id,T=>SK.ret _
 |.ret,T=>SK.ret _
 |.bad,T=>SK.fail _
theorem SK.res(T:List AV):∀ l,SK (resM T l) (Z1 Hn T l)
 |[]=>SK.ret _
 |.tmp _::r=>SK.bind (SK.res T r) fun _=>SK.ret _
 |.cell _ _ _::r=>SK.bind (SK.load _ _ _ _) fun _=>SK.bind (SK.res T r) fun _=>SK.ret _
theorem Af0{m:List AV->AM AV}{mK:KM AV}{args:List AV}{bs:List ABlk}{r:AV × List BO}(hm:SK (m args) mK)(s:Sc)(h:mK ⟨C2 0 bs,bs.length,none⟩ s (fun v H ft _=>M0 bs.length v H ft)=some r):Oc (EI m) args bs=some r:=by
 obtain⟨v,H',ft,s',h1,h2⟩:=hm _ _ _ _ h
 unfold Oc EI
 rw[h1]
 exact h2
theorem Af2{f:Nat}{mf:MFn}{args:List AV}{bs:List ABlk}{r:AV × List BO}(s:Sc)(h:B3 A D own Hn s f mf args bs=some r):Oc (EI (fnM A D own f mf)) args bs=some r:=by
 unfold B3 at h
 refine Af0 ?_ s h
 unfold fnM
 have fin:∀ T,SK ((resM T mf.res).bind fun l=>(match mf.own with
   |true=>AM.ret (ID l)
   |false=>frz 1000 (ID l)).bind fun v=>match mf.tch with
    |true=>(touchI (Ep args)).bind fun _=>AM.ret v
    |false=>AM.ret v) ((Z1 Hn T mf.res).bind fun l=>(match mf.own with
   |true=>KM.ret (ID l)
   |false=>Rr 1000 (ID l)).bind fun v=>match mf.tch with
    |true=>(KM.gen (touchI (Ep args))).bind fun _=>KM.ret v
    |false=>KM.ret v):=fun T=>by
  refine SK.bind (SK.res _ _) fun l=>SK.bind ?_ fun v=>?_
  .cases mf.own with
   |true=>exact SK.ret _
   |false=>exact SK.frz _ _
  .cases mf.tch with
   |true=>exact SK.bind (SK.gen _) fun _=>SK.ret _
   |false=>exact SK.ret _
 refine SK.bind (SK.ev f _ _) fun r=>?_
 obtain⟨ax,T1⟩:=r
 cases ax with
 |exit i=>exact SK.fail _
 |goto l=>exact SK.fail _
 |normal=>exact fin T1
 |ret=>exact fin T1
theorem Mb{α β:Type}{m:AM α}{f:α->AM β}{H H1 H2:AH}{a:α}{b:β}{f1 f2:Foot}(h1:m H=some (a,H1,f1))(h2:f a H1=some (b,H2,f2)):(m.bind f) H=some (b,H2,⟨f1.rd++f2.rd,f1.wr++f2.wr⟩):=by
 unfold AM.bind
 simp only[h1,h2]
theorem RB(n b:Nat)(hb:b<n):∀ l,Ff b (ZH n l)=Ff b l
 |[]=>rfl
 |x::r=>by
  have ih:=RB n b hb r
  unfold ZH
  split
  .unfold Ff
   rw[ih]
  .rename_i h
   rw[ih]
   conv=>rhs;unfold Ff
   cases e:Nat.beq b x with
   |false=>rfl
   |true=>
    have e:b=x:=Nat.eq_of_beq_eq_true e
    subst e
    have h1:Nat.blt b n=true:=by rw[V0];simpa using hb
    cases h2:Ff b r with
    |true=>rfl
    |false=>exact absurd h2 (h h1)
theorem RA(b:Nat)(l m:List Nat):Ff b (l++m)=(Ff b l||Ff b m):=by
 simp only[Ql]
 simp
theorem TJ{n:Nat}{r:AV}{H:AH}{f1 f2:Foot}(h:∀ b,b<n->Ff b f1.wr=Ff b f2.wr):M0 n r H f1=M0 n r H f2:=by
 have:(DP 0 n).map (Ue H f1.wr)=(DP 0 n).map (Ue H f2.wr):=by
  refine List.map_congr_left fun b hb=>?_
  obtain⟨i,hi⟩:=List.getElem?_of_mem hb
  rw[I3]at hi
  split at hi
  .simp only[Option.some.injEq]at hi
   unfold Ue
   rw[h b (by omega)]
  .cases hi
 unfold M0
 rw[this]
theorem AcL{f i n:Nat}{xs:List AV}{H:AH}{ft:Foot}{r:AV × List BO}(h:Ahf D f i xs H ft n=some r):∃ q H' f',loopsM D f i xs H=some (q,H',f')/\M0 n (.tup (XT q.1::q.2)) H' ⟨ft.rd++f'.rd,ft.wr++f'.wr⟩=some r:=by
 unfold Ahf at h
 split at h
 .rename_i L H1 f1 e1
  split at h
  .rename_i bs H2 f2 e2
   unfold Af at h
   split at h
   .rename_i q e3
    obtain⟨v,o⟩:=q
    simp only at h
    unfold AR at h
    cases c1:MF o.length v.ids<;>cases c2:PW o.length o<;>rw[c1,c2]at h<;>try (cases h;done)
    simp only at h
    split at h
    .rename_i x ys H' f' e4
     split at h
     .rename_i ax e5
      have t1:=(Mn _ _ _ _ e1).1
      have t2:=(Jd _ e2).1
      rw[t1]at e1
      rw[t2]at e2
      refine⟨(ax,ys),H',_,Mb (Mb e1 (Mb e2 (Mb (a:=(v,o)) (H1:=H) (f1:=⟨[],[]⟩) (by rw[e3];rfl) (b:=.tup (x::ys)) (H2:=H') (f2:=f') ?_))) (b:=(ax,ys)) (H2:=H') (f2:=⟨[],[]⟩) ?_,?_⟩
      .simp only[c1,c2]
       exact e4
      .simp only[e5]
       rfl
      .rw[←h]
       refine TJ fun b hb=>?_
       simp only[RA,RB n b hb,List.append_nil,List.nil_append,Bool.or_assoc]
     .cases h
    .cases h
   .cases h
  .cases h
 .cases h
theorem AgK{f i:Nat}{q:LpH}{c:MC}{xs:List AV}{bs:List ABlk}{r:AV × List BO}(s:Sc)(h:D2 A D own Hn s f i q c xs bs=some r):Oc (EI (lpM A D own f i q c)) xs bs=some r:=by
 have key:∀ v H' ft,lpM A D own f i q c xs ⟨C2 0 bs,bs.length,none⟩=some (v,H',ft)->M0 bs.length v H' ft=some r->Oc (EI (lpM A D own f i q c)) xs bs=some r:=fun v H' ft h1 h2=>by
  unfold Oc EI
  rw[h1]
  exact h2
 unfold D2 at h
 obtain⟨⟨ax,T1⟩,H1,f1,s1,h1,h2⟩:=SK.ev f c _ _ s _ r h
 have out:∀(ax:AX),((JD (q.fzo ax) T1).bind fun T=>(KM.gen (delT (q.dlo ax) T)).bind fun _=>(KM.gen (touchA (q.nt ax) (Cm (q.out ax) T))).bind fun ys=>KM.ret (.tup (XT ax::ys))) H1 s1 (fun v H f _=>M0 bs.length v H ⟨f1.rd++f.rd,f1.wr++f.wr⟩)=some r->∃ v H' f,((frzT (q.fzo ax) T1).bind fun T=>(delT (q.dlo ax) T).bind fun _=>(touchA (q.nt ax) (Cm (q.out ax) T)).bind fun ys=>AM.ret (.tup (XT ax::ys))) H1=some (v,H',f)/\M0 bs.length v H' ⟨f1.rd++f.rd,f1.wr++f.wr⟩=some r:=fun ax h=>by
  obtain⟨v,H',f,s2,h3,h4⟩:=(SK.bind (SK.frzT (q.fzo ax) T1) fun T=>SK.bind (SK.gen _) fun _=>SK.bind (SK.gen _) fun ys=>SK.ret (AV.tup (XT ax::ys))) H1 s1 _ r h
  exact⟨v,H',f,h3,h4⟩
 cases ax with
 |normal=>
  obtain⟨T2,H2,f2,s2,h5,h6⟩:=SK.frzT q.fz T1 H1 s1 _ r h2
  obtain⟨p,H',f',h3,h4⟩:=AcL h6
  refine key _ H' _ ?_ h4
  unfold lpM
  simp only[AM.bind,h1,h5,h3,AM.ret,List.append_nil,List.append_assoc]
 |goto l=>cases h2
 |exit k=>
  obtain⟨v,H',f',h3,h4⟩:=out _ h2
  refine key v H' _ ?_ h4
  unfold lpM
  rw[AM.bind,h1]
  simp only
  rw[h3]
 |ret=>
  obtain⟨v,H',f',h3,h4⟩:=out _ h2
  refine key v H' _ ?_ h4
  unfold lpM
  rw[AM.bind,h1]
  simp only
  rw[h3]
end
section
variable {A:Ar} {M:Seat}
theorem AfL(Hn:Hnt)(s:Sc){f:Nat}{mf:MFn}(he:M.ext f=none)(hf:M.fns f=some mf){args:List AV}{bs:List ABlk}{r:AV × List BO}(h:B3 A (Ck A M) M.own Hn s f mf args bs=some r):(Ck A M).ask (.fn f) args bs=some r:=Ac2 he hf (Af2 s h)
theorem AfM(Hn:Hnt)(s:Sc){f i:Nat}{mf:MFn}{q:LpH}{c:MC}(hf:M.fns f=some mf)(hl:mf.loops[i]? = some (q,c)){args:List AV}{bs:List ABlk}{r:AV × List BO}(h:D2 A (Ck A M) M.own Hn s f i q c args bs=some r):(Ck A M).ask (.lp f i) args bs=some r:=Ac3 hf hl (AgK s h)
end
end Go.Proofs.YtlmhajfbpplpoaaGreat
namespace Go.Proofs.YtlmhajfbpplpoaaGreat
open Go.RowKit
def iv(n:Int):AV:=.v (.int .i64 n)
def bv(b:Bool):AV:=.v (.bool b)
def sv(s:ByteArray):AV:=.v (.string s)
def AE(l:List UInt8):ByteArray:=⟨l.toArray⟩
def ZJ(P:Program)(f:Nat):Bool:=match P.funcs[f]? with
 |some fn=>(match fn.body with
  |some c=>Kn c&&okR P fn.results.toList
  |none=>false)
 |none=>false
def Bj(P:Program)(ents:Nat)(hs:Am)(ownR tch:Bool)(f:Nat):MFn:=match P.funcs[f]? with
 |some fn=>(match fn.body with
  |some c=>⟨fn.ntmps,IH P fn.results.toList,(Bv P ents hs c 0).1,(Bv P ents hs c 0).2,ownR,tch⟩
  |none=>⟨0,[],.bad,[],false,false⟩)
 |none=>⟨0,[],.bad,[],false,false⟩
theorem AbI{P:Program}{ents:Nat}{hs:Am}{ownR tch:Bool}{f:Nat}(h:ZJ P f=true):FnOk P ents f (Bj P ents hs ownR tch f):=by
 unfold ZJ at h
 cases e1:P.funcs[f]? with
 |none=>rw[e1]at h;cases h
 |some fn=>
  rw[e1]at h
  simp only at h
  cases e2:fn.body with
  |none=>rw[e2]at h;cases h
  |some c=>
   rw[e2]at h
   simp only[Bool.and_eq_true]at h
   refine⟨fn,c,hs,e1,e2,h.1,h.2,?_⟩
   unfold Bj
   rw[e1]
   simp only[e2]
   exact⟨trivial,trivial,trivial,trivial⟩
structure Knows (own:List (Nat × Nat)) (L:List (Nat × MFn)) (D:Orc):Prop where
 fn:∀(Hn:Hnt) (s:Sc) (f:Nat) (mf:MFn) (args:List AV) (bs:List ABlk) (r:AV × List BO),CH f L=some mf->B3 Ao D own Hn s f mf args bs=some r->D.ask (.fn f) args bs=some r
 lp:∀(Hn:Hnt) (s:Sc) (f i:Nat) (mf:MFn) (q:LpH) (c:MC) (args:List AV) (bs:List ABlk) (r:AV × List BO),CH f L=some mf->mf.loops[i]? = some (q,c)->D2 Ao D own Hn s f i q c args bs=some r->D.ask (.lp f i) args bs=some r
def Bc(mf:MFn)(i:Nat):LpH × MC:=(mf.loops[i]?).getD (⟨0,[],[],[],[]⟩,.bad)
theorem Knows.fn'{own:List (Nat × Nat)}{L:List (Nat × MFn)}{D:Orc}(K:Knows own L D)(Hn:Hnt)(s:Sc){f:Nat}{mf:MFn}{args:List AV}{bs:List ABlk}{r:AV × List BO}(h1:CH f L=some mf)(h:B3 Ao D own Hn s f mf args bs=some r):D.ask (.fn f) args bs=some r:=K.fn Hn s f mf args bs r h1 h
theorem Knows.lp'{own:List (Nat × Nat)}{L:List (Nat × MFn)}{D:Orc}(K:Knows own L D)(Hn:Hnt)(s:Sc){f i:Nat}{mf:MFn}{args:List AV}{bs:List ABlk}{r:AV × List BO}(h1:CH f L=some mf)(h2:(mf.loops[i]?).isSome=true)(h:D2 Ao D own Hn s f i (Bc mf i).1 (Bc mf i).2 args bs=some r):D.ask (.lp f i) args bs=some r:=by
 obtain⟨⟨q,c⟩,e⟩:=Option.isSome_iff_exists.1 h2
 refine K.lp Hn s f i mf q c args bs r h1 e ?_
 unfold Bc at h
 rw[e]at h
 exact h
theorem Df{α:Type}{f:Nat}{a:α}:∀{L:List (Nat × α)},CH f L=some a->(f,a)∈L
 |[],h=>by cases h
 |(m,b)::r,h=>by
  unfold CH at h
  cases e:Nat.beq f m with
  |true=>
   rw[e]at h
   simp only[Option.some.injEq]at h
   have:=Nat.eq_of_beq_eq_true e
   subst this;subst h
   exact List.mem_cons_self
  |false=>
   rw[e]at h
   exact List.mem_cons_of_mem _ (Df h)
def Pq(own:List (Nat × Nat))(L:List (Nat × MFn))(X:List (Nat × DF)):Seat:=⟨fun f=>CH f L,own,fun f=>CH f X⟩
def AkL(L:List (Nat × MFn))(X:List (Nat × DF)):Bool:=L.all fun p=>(CH p.1 X).isNone
theorem B0{own:List (Nat × Nat)}{L L':List (Nat × MFn)}{X:List (Nat × DF)}(hs:∀ f mf,CH f L'=some mf->CH f L=some mf)(hx:AkL L' X=true):Knows own L' (Ck Ao (Pq own L X)) where
 fn Hn s f mf args bs r h1 h2:=AfL (M:=Pq own L X) Hn s (by
  have:=List.all_eq_true.1 hx _ (Df h1)
  exact Option.isNone_iff_eq_none.1 this) (hs f mf h1) h2
 lp Hn s f i mf q c args bs r h1 h2 h3:=AfM (M:=Pq own L X) Hn s (hs f mf h1) h2 h3
end Go.Proofs.YtlmhajfbpplpoaaGreat
namespace Go.Proofs.YtlmhajfbpplpoaaGreat
open Go.RowKit
section
variable {μ:Mu} {F:AT} {w w':World}
theorem D5(F:AT)(h:Below w.heap.size w w'):WStep F w w':=
 ⟨h.os,h.tape,h.output,h.size,fun g o ho=>⟨o,by
  have hg:g<w.heap.size:=by
   by_cases hg:g<w.heap.size
   .exact hg
   .rw[Array.getElem?_eq_none (by omega)]at ho;cases ho
  exact(h.block g hg).trans ho,ObjStep.refl _ o⟩⟩
def WL(F:AT)(w w':World):AT:=fun g o=>F g o\/(w.heap.size<=g/\g<w'.heap.size)
theorem Ly{H:Nat->Option ABlk}(hH:HRep μ F w H)(h:Below w.heap.size w w'):Later μ μ F (WL F w w') w w':=
 ⟨fun _ _ h=>h,fun g o hg=>⟨.inl hg,(D5 F h).cell hg (hH.prot g o hg)⟩⟩
theorem TQ{H:Nat->Option ABlk}(hH:HRep μ F w H)(h:Below w.heap.size w w'):HRep μ (WL F w w') w' H:=by
 have hl:=Ly hH h
 have same:∀ g o,g<w.heap.size->w'.cell? ⟨g,o,none⟩=w.cell? ⟨g,o,none⟩:=fun g o hg=>h.cell (p:=⟨g,o,none⟩) hg
 have st:=D5 (fun _ _=>False) h
 refine⟨fun b k hb=>?_,hH.apart,fun g o hg=>?_⟩
 .obtain⟨p,hp,B⟩:=hH.blk b k hb
  refine⟨p,hp,?_,B.room,?_,fun h0 i hi=>.inl (B.kept h0 i hi),?_,B.pure⟩
  .intro i x hx
   obtain⟨u,h1,h2⟩:=B.cell i x hx
   exact⟨u,(same _ _ (Dt h1)).trans h1,h2.later hl⟩
  .intro i hi
   obtain⟨⟨u,h1⟩,h2⟩:=B.there i hi
   exact⟨⟨u,(same _ _ (Dt h1)).trans h1⟩,(st.frozen (Dt h1)).trans h2⟩
  .rintro i hi (hf|⟨hf,_⟩)
   .exact B.free i hi hf
   .have hr:i<p.room:=by
     rcases hi with⟨h1,_⟩|⟨_,h1,_⟩
     .exact Nat.lt_of_lt_of_le h1 B.room
     .exact h1
    obtain⟨⟨u,h1⟩,_⟩:=B.there i hr
    have:=Dt h1
    omega
 .rcases hg with hg|hg
  .exact Nat.lt_of_lt_of_le (hH.prot g o hg) h.size
  .exact hg.2
end
theorem YX{S:LW}(hm:Mt S)(res:List AV->Option AV)
  (h:∀ args r,res args=some r->∀(μ:Mu) (F:AT) (w:World) (us:List Value),RepList μ F w args us->S us w fun u w'=>Below w.heap.size w w'/\Rep μ (WL F w w') w' r u) :
  BC S fun args bs=>match bs with
   |[]=>(res args).map fun r=>(r,[])
   |_=>none:=by
 intro args bs r out hd
 cases bs with
 |cons=>cases hd
 |nil=>
  obtain⟨r',hr,he⟩:=Option.map_eq_some_iff.1 hd
  obtain⟨rfl,rfl⟩:r'=r/\[]=out:=by simpa using he
  refine⟨Nat.le_refl _,0,Nat.le_refl _,fun t _ μ F w KL us hKL hus hH hμ=>?_⟩
  refine hm _ _ _ _ (h args r' hr μ F w us hus) fun u w' ⟨hb,hu⟩=>?_
  refine⟨μ,WL F w w',hu,?_,Ly hH hb,D5 F hb,fun _ _=>rfl⟩
  have:=TQ hH hb
  have e:(fun b=>if b<t then([]:List ABlk)[b]? else look b KL)=fun b=>if b<t then Ew [] [] b else look b KL:=by
   funext b
   by_cases hbt:b<t
   .rw[if_pos hbt,if_pos hbt]
    rfl
   .rw[if_neg hbt,if_neg hbt]
  rw[←e]
  exact this
theorem QE{μ:Mu}{F:AT}{w:World}{s:ByteArray}{us:List Value}(h:RepList μ F w [sv s] us):us=[.string s]:=by
 obtain⟨u,t,rfl,hu,ht⟩:=h
 have hu:u=_/\_:=hu
 have ht:t=[]:=ht
 rw[hu.1,ht]
end Go.Proofs.YtlmhajfbpplpoaaGreat
namespace Go.Proofs.YtlmhajfbpplpoaaGreat
open Go.RowKit
section
variable {D:Orc}
theorem Az(x y:KR):br true x y=x:=Eq.trans (b:=x) rfl (Eq.refl x)
theorem CM(x y:KR):br false x y=y:=Eq.trans (b:=y) rfl (Eq.refl y)
theorem Js(b:Bool)(x y:KR):br b x y=if b=true then x else y:=by cases b<;>rfl
theorem AN(n:Nat)(k:Nat->KR):unI (n:Int) k=k n:=rfl
theorem Ny{α:Type}(f:α->List AV)(xs:List α)(i:Nat)(k:List AV->KR):BG (xs.map f) i k=match xs[i]? with
  |some x=>k (f x)
  |none=>none:=by
 unfold BG
 rw[Qt,List.getElem?_map]
 cases xs[i]?<;>rfl
theorem AO{α:Type}{f:α->List AV}{xs:List α}{i:Nat}{x:α}(h:xs[i]? = some x)(k:List AV->KR):BG (xs.map f) i k=k (f x):=by
 rw[Ny,h]
theorem Ax{α:Type}(f:α->List AV)(xs:List α):Be (xs.map f)=xs.length:=by rw[GB,List.length_map]
theorem Aa{key:Key}{args:List AV}{bs:List ABlk}{r:AV}{o:List BO}(h:D.ask key args bs=some (r,o))(k:AV->List BO->KR):Af D key args bs k=k r o:=by
 unfold Af
 rw[h]
theorem Db(n:Int)(k:Int->KR):Bp .i64 (iv n) k=k n:=rfl
theorem Xs(n:Bool)(k:Bool->KR):AW (bv n) k=k n:=rfl
theorem AaI(n:ByteArray)(k:ByteArray->KR):FA (sv n) k=k n:=rfl
theorem Adg(n:List (List AV))(k:List (List AV)->KR):BX (.ls n) k=k n:=rfl
theorem Xr(n:List AV)(k:List AV->KR):At (.agg n) k=k n:=rfl
theorem Xx(n:List AV)(k:List AV->KR):AF (.tup n) k=k n:=rfl
theorem Abr(n:Int)(r:List AV)(k:Int->List AV->KR):Ay .i64 (iv n::r) k=k n r:=rfl
theorem X1(n:Bool)(r:List AV)(k:Bool->List AV->KR):Ag (bv n::r) k=k n r:=rfl
theorem P6(n:ByteArray)(r:List AV)(k:ByteArray->List AV->KR):Br (sv n::r) k=k n r:=rfl
theorem AfR(n:List (List AV))(r:List AV)(k:List (List AV)->List AV->KR):AI (.ls n::r) k=k n r:=rfl
theorem Lj(k:KR):Ad [] k=k:=rfl
theorem SR(c:AV)(r:List AV)(k:AV->List AV->KR):Aj (c::r) k=k c r:=rfl
theorem Xu(k:KR):Ac [] k=k:=rfl
theorem Uy(c:BO)(r:List BO)(k:BO->List BO->KR):AG (c::r) k=k c r:=rfl
theorem SS(k:KR):QZ .keep k=k:=rfl
theorem Xt(k:KR):BW .del k=k:=rfl
theorem Xw(st ex:Bool)(cs:List AV)(k:List AV->KR):AP st ex (.set ⟨cs,st,ex⟩) k=k cs:=by
 unfold AP
 exact if_pos ⟨rfl,rfl⟩
theorem Ab(f:Nat)(k:KR):Ov f (.fn (.func f) [] []) k=k:=by simp[Ov]
theorem Xv(b o:Nat)(k:KR):Dr b o (.ptr b o) k=k:=by simp[Dr]
theorem Adh(b e n:Nat)(k:Nat->KR):CC b e (.sl b 0 n e) k=k n:=by simp[CC]
theorem Alh:Bw 0 (bv true)=true:=rfl
theorem Alg(n:Int):Bw 0 (iv n)=false:=rfl
theorem Alf:Bw 1 (iv 0)=true:=rfl
theorem ND:(∀(n:Int) (k:Int->KR),Bp .i64 (iv n) k=k n)/\(∀(n:Bool) (k:Bool->KR),AW (bv n) k=k n)/\(∀(n:ByteArray) (k:ByteArray->KR),FA (sv n) k=k n)/\(∀(n:List (List AV)) (k:List (List AV)->KR),BX (.ls n) k=k n)/\(∀(n:List AV) (k:List AV->KR),At (.agg n) k=k n)/\(∀(n:List AV) (k:List AV->KR),AF (.tup n) k=k n)/\(∀(n:Int) (r:List AV) (k:Int->List AV->KR),Ay .i64 (iv n::r) k=k n r)/\(∀(n:Bool) (r:List AV) (k:Bool->List AV->KR),Ag (bv n::r) k=k n r)/\(∀(n:ByteArray) (r:List AV) (k:ByteArray->List AV->KR),Br (sv n::r) k=k n r)/\(∀(n:List (List AV)) (r:List AV) (k:List (List AV)->List AV->KR),AI (.ls n::r) k=k n r)/\(∀(k:KR),Ad [] k=k)/\(∀(c:AV) (r:List AV) (k:AV->List AV->KR),Aj (c::r) k=k c r)/\(∀(k:KR),Ac [] k=k)/\(∀(c:BO) (r:List BO) (k:BO->List BO->KR),AG (c::r) k=k c r)/\(∀(st ex:Bool) (cs:List AV) (k:List AV->KR),AP st ex (.set ⟨cs,st,ex⟩) k=k cs)/\(∀(k:KR),BW .del k=k)/\(∀(k:KR),QZ .keep k=k)/\(∀(b o:Nat) (k:KR),Dr b o (.ptr b o) k=k)/\(∀(b e n:Nat) (k:Nat->KR),CC b e (.sl b 0 n e) k=k n)/\(Bw 0 (bv true)=true)/\(∀(n:Int),Bw 0 (iv n)=false)/\(Bw 1 (iv 0)=true)/\(∀(x y:KR),br true x y=x)/\(∀(x y:KR),br false x y=y):=⟨Db,Xs,AaI,Adg,Xr,Xx,Abr,X1,P6,AfR,Lj,SR,Xu,Uy,Xw,Xt,SS,Xv,Adh,Alh,Alg,Alf,Az,CM⟩
end
instance:LawfulBEq ByteArray where
 eq_of_beq {a b} h:=by
  obtain⟨a⟩:=a
  obtain⟨b⟩:=b
  rw[Id]at h
  simpa using h
 rfl {a}:=by
  rw[Id]
  simp
section
theorem QA(a b:Int):Ao.lt a b=decide (a<b):=rfl
theorem NF(a b:Int):Ao.le a b=decide (a<=b):=rfl
theorem Qz(a b:Int):Ao.eq a b=decide (a=b):=by
 show (a == b)=decide (a=b)
 rfl
theorem LI(a b:ByteArray):Ao.seq a b=decide (a=b):=by
 show (a.toList == b.toList)=_
 rw[Rb,Id]
 obtain⟨a⟩:=a
 obtain⟨b⟩:=b
 by_cases h:a=b
 .subst h;simp
 .simp[h]
theorem ZV(b:Bool):Ao.not b = !b:=rfl
theorem Vy(a b:Bool):Ao.beq a b=(a == b):=rfl
theorem ci0(n:Nat):((n:Int)=0)=(n=0):=propext (by omega)
theorem ci1(n:Nat):((n:Int)=1)=(n=1):=propext (by omega)
theorem AkQ(a b:Int):Ao.min a b=min a b:=by
 show (if b<a then b else a)=_
 omega
theorem Cn(s:ByteArray):Ao.slen s=s.size:=rfl
theorem AkP(a b:ByteArray):Ao.cat a b=a++b:=rfl
theorem GW{a b:Int}(h1:-9223372036854775808<=a+b)(h2:a+b<9223372036854775808):Ao.add .i64 a b=a+b:=by
 show IntKind.i64.wrap (a+b)=a+b
 rw[IntKind.wrap_i64]
 omega
theorem F6{a b:Int}(h1:-9223372036854775808<=a-b)(h2:a-b<9223372036854775808):Ao.sub .i64 a b=a-b:=by
 show IntKind.i64.wrap (a-b)=a-b
 rw[IntKind.wrap_i64]
 omega
theorem Bn{i:Nat}(h:i<4611686018427387904):Ao.add .i64 (i:Int) 1=((i+1:Nat):Int):=by
 rw[GW (by omega) (by omega)]
 rfl
end
end Go.Proofs.YtlmhajfbpplpoaaGreat
namespace Go.Proofs.YtlmhajfbpplpoaaGreat
open Go.RowKit
section
variable {α:Type}
def Av(e:α->List AV)(l:List α):List AV:=l.flatMap e
theorem Bm(e:α->List AV)(l:List α)(x:α):Av e l++e x=Av e (l++[x]):=by simp[Av]
theorem By{e:α->List AV}{w:Nat}(he:∀ x,(e x).length=w):∀ l:List α,(Av e l).length=l.length*w
 |[]=>by simp[Av]
 |x::r=>by
  have:=By he r
  unfold Av at this ⊢
  rw[List.flatMap_cons,List.length_append,this,he,List.length_cons,Nat.add_mul,Nat.one_mul,Nat.add_comm]
theorem Bl{e:α->List AV}{w:Nat}(he:∀ x,(e x).length=w)(l:List α){n:Nat}(hn:n=l.length*w):(Av e l).take n=Av e l:=by
 rw[List.take_of_length_le]
 rw[By he,hn]
 exact Nat.le_refl _
theorem CW{e:α->List AV}{w:Nat}(he:∀ x,(e x).length=w):∀ l:List α,BF l.length w (Av e l)=l.map e
 |[]=>rfl
 |x::r=>by
  have ih:=CW he r
  simp only[List.length_cons,BF,List.map_cons]
  have h1:Av e (x::r)=e x++Av e r:=by simp[Av]
  have h2:(e x).length=w:=he x
  rw[h1,List.take_append_of_le_length (by omega),List.take_of_length_le (by omega),List.drop_append_of_le_length (by omega),List.drop_of_length_le (by omega),List.nil_append,ih]
theorem C5{e:α->List AV}{w:Nat}(he:∀ x,(e x).length=w)(l:List α){n:Nat}(hn:n=l.length):BF n w ((Av e l).take (n*w))=l.map e:=by
 rw[Bl he l (by rw[hn]),hn,CW he]
theorem Bg{e:α->List AV}{w:Nat}(he:∀ x,(e x).length=w)(l:List α){n:Nat}(hn:n=l.length*w):Nat.ble n (Av e l).length=true:=by
 rw[By he,hn]
 simp
theorem JQ{e:α->List AV}(he:∀ x,JP (e x)=true):∀ l:List α,JP (Av e l)=true
 |[]=>rfl
 |x::r=>by
  have ih:=JQ he r
  have h1:Av e (x::r)=e x++Av e r:=by simp[Av]
  rw[h1]
  rw[Il]at ih ⊢
  rw[List.all_append,ih,Bool.and_true,←Il]
  exact he x
theorem EX(e:α->List AV)(l:List α):Iz (l.map e)=Av e l:=by
 rw[Jv]
 rfl
theorem Iy{e:α->List AV}{w:Nat}(he:∀ x,(e x).length=w)(l:List α):Gi w (l.map e)=true:=by
 rw[H8]
 simp[he]
theorem A4{n b:Nat}(hn:n<=1099511627776)(hb:b<=128):Bu n b=true:=by
 unfold Bu
 have:n*b<=1099511627776*128:=Nat.mul_le_mul hn hb
 have h1:Nat.ble (n*b) 140737488355328=true:=by simp;omega
 rw[h1]
 simp[maxLen]
 omega
end
end Go.Proofs.YtlmhajfbpplpoaaGreat
