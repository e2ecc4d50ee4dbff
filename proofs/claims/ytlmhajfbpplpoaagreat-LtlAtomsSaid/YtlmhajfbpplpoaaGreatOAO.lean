/- The limit of what can be asked: functions and loop -/
import Derived.Test.YtlmhajfbpplpoaaGreatOAN
set_option linter.all false
open Bool renaming and_eq_true->ApF
open List renaming append_nil->AqH,getElem?_append_left->Aqk,getElem?_append_right->Aqg,getElem?_cons_succ->Ap5,getElem?_eq_some_iff->ApU,length_cons->ApI,nil_append->Ap4,take_of_length_le->AqM
open Nat renaming beq->Ap3,ble->ApM,blt->AqO,eq_of_beq_eq_true->Ap7,le_refl->ApA,lt_of_lt_of_le->AqG,lt_or_ge->ApT,min->AqC
namespace Go.Proofs.YtlmhajfbpplpoaaGreat
open Go.RowKit
structure Seat where
 fns:Nat->Option MFn
 own:List (Nat × Nat)
 ext:Nat->Option DF
def Aip(A:Ar)(M:Seat)(D:Orc):Orc:=.mk λk args bs=>match k with
 |.fn f=>(match M.ext f with
  |some d=>d args bs
  |none=>(match M.fns f with
   |some mf=>OV (EM (fnM A D M.own f mf)) args bs
   |none=>none))
 |.lp f i=>(match M.fns f with
  |some mf=>(match mf.loops[i]? with
   |some lc=>OV (EM (lpM A D M.own f i lc.1 lc.2)) args bs
   |none=>none)
  |none=>none)
def Dn(A:Ar)(M:Seat):Nat->Orc
 |0=>.no
 |n+1=>Aip A M (Dn A M n)
open Classical in
noncomputable def Bo(A:Ar)(M:Seat):Orc:=.mk λk args bs=>if h:∃ r n,∀ m,n<=m->(Dn A M m).ask k args bs=some r then some h.choose else none
section
variable {A:Ar} {M:Seat}
theorem Qf{k:Key}{args:List AV}{bs:List ABlk}{r:AV × List BO}(h:(Bo A M).ask k args bs=some r):∃ n,∀ m,n<=m->(Dn A M m).ask k args bs=some r:=by
 unfold Bo Orc.ask at h;simp only at h;split at h
 .rename_i hx
  simp only[Option.some.injEq]at h;rw[←h];exact hx.choose_spec
 .cases h
open Classical in
theorem AfB{k:Key}{args:List AV}{bs:List ABlk}{r:AV × List BO}{n:Nat}(h:∀ m,n<=m->(Dn A M m).ask k args bs=some r):(Bo A M).ask k args bs=some r:=by
 have hx:∃ r n,∀ m,n<=m->(Dn A M m).ask k args bs=some r:=⟨r,n,h⟩;have:(Bo A M).ask k args bs=some hx.choose:=by
  unfold Bo
  show (if h:∃ r n,∀ m,n<=m->(Dn A M m).ask k args bs=some r then some h.choose else none)=_
  rw[dif_pos hx]
 rw[this];obtain⟨n',h'⟩:=hx.choose_spec;have e1:=h' (max n n') (Nat.le_max_right _ _);have e2:=h (max n n') (Nat.le_max_left _ _);rw[e1]at e2;exact e2
def Ev{β:Type}(A:Ar)(M:Seat)(g:Orc->Option β):Prop:=∀ r,g (Bo A M)=some r->∃ n,∀ m,n<=m->g (Dn A M m)=some r
def EvM{α:Type}(A:Ar)(M:Seat)(g:Orc->AM α):Prop:=∀ H,Ev A M λD=>g D H
theorem EvM.const{α:Type}(x:AM α):EvM A M λ_=>x:=λ_ _ h=>⟨0,λ_ _=>h⟩
theorem EvM.bind{α β:Type}{x:Orc->AM α}{f:Orc->α->AM β}(hx:EvM A M x)(hf:∀ a,EvM A M λD=>f D a):EvM A M λD=>(x D).bind (f D):=λH r h=>by
 simp only[AM.bind]at h ⊢
 cases e1:x (Bo A M) H with
 |none=>rw[e1]at h;cases h
 |some q=>
  obtain⟨a,H1,f1⟩:=q;rw[e1]at h;simp only at h
  cases e2:f (Bo A M) a H1 with
  |none=>rw[e2]at h;cases h
  |some q2=>
   rw[e2]at h;obtain⟨n1,h1⟩:∃ n,∀ m,n<=m->x (Dn A M m) H=some (a,H1,f1):=hx H _ e1;obtain⟨n2,h2⟩:∃ n,∀ m,n<=m->f (Dn A M m) a H1=some q2:=hf a H1 _ e2;refine⟨max n1 n2,λm hm=>?_⟩;rw[h1 m (by omega)];simp only;rw[h2 m (by omega)];exact h
theorem EvM.opt{α:Type}{g:Orc->Option α}(h:Ev A M g):EvM A M λD=>AM.opt (g D):=λH r e=>by
 have e:AM.opt (g (Bo A M)) H=some r:=e
 cases e1:g (Bo A M) with
 |none=>rw[e1]at e;cases e
 |some a=>
  obtain⟨n,hn⟩:=h a e1;refine⟨n,λm hm=>?_⟩
  show AM.opt (g (Dn A M m)) H=some r
  rw[hn m hm];rw[e1]at e;exact e
theorem EvM.callD(k:Key)(args:List AV):EvM A M λD=>callD (D.ask k) args:=by
 unfold Go.Proofs.YtlmhajfbpplpoaaGreat.callD;refine EvM.bind (EvM.const _) λL=>EvM.bind (EvM.const _) λbs=>EvM.bind (EvM.opt λr h=>Qf h) λr=>EvM.const _
theorem EvM.callsM(own:List (Nat × Nat))(f:FuncId)(args:List AV):EvM A M λD=>callsM D own f args:=by
 unfold Go.Proofs.YtlmhajfbpplpoaaGreat.callsM;exact EvM.bind (EvM.const _) λl=>EvM.callD _ _
theorem EvM.loopsM(f i:Nat)(T:List AV):EvM A M λD=>loopsM D f i T:=by
 unfold Go.Proofs.YtlmhajfbpplpoaaGreat.loopsM;exact EvM.bind (EvM.callD _ _) λr=>EvM.const _
theorem EvM.mop{B:Ar}{Γ:Orc->FuncId->List AV->AM AV}(hΓ:∀ f args,EvM A M λD=>Γ D f args)(o:MO)(T:List AV):EvM A M λD=>mop B (Γ D) o T:=by
 cases o with
 |callF f args=>exact hΓ _ _
 |callV ents x args=>
  show EvM A M λD=>(match AU T x with
   |.fn (.func g) a cs=>(match ents.testBit g with
    |true=>Γ D g (a++Pa T args++cs)
    |false=>AM.fail)
   |_=>AM.fail)
  split
  .split
   .exact hΓ _ _
   .exact EvM.const _
  .exact EvM.const _
 |_=>exact EvM.const _
theorem EvM.coreM{B:Ar}{Γ:Orc->FuncId->List AV->AM AV}(hΓ:∀ f args,EvM A M λD=>Γ D f args)(o:MOp)(T:List AV):EvM A M λD=>coreM B (Γ D) o T:=by
 unfold Go.Proofs.YtlmhajfbpplpoaaGreat.coreM;split
 .split
  .exact EvM.mop hΓ _ _
  .exact EvM.const _
 .exact EvM.const _
theorem Ev.runM{B:Ar}{Γ:Orc->FuncId->List AV->AM AV}(hΓ:∀ f args,EvM A M λD=>Γ D f args):∀(l:List MOp) (T:List AV) (H:AH),Ev A M λD=>runM B (Γ D) l T H
 |[],T,H=>λr h=>⟨0,λ_ _=>h⟩
 |o::l,T,H=>λr h=>by
  simp only[Go.Proofs.YtlmhajfbpplpoaaGreat.runM]at h ⊢
  cases e1:Go.Proofs.YtlmhajfbpplpoaaGreat.coreM B (Γ (Bo A M)) o T H with
  |none=>rw[e1]at h;cases h
  |some q=>
   obtain⟨v,H1,f1⟩:=q;rw[e1]at h;simp only at h
   cases e2:Go.Proofs.YtlmhajfbpplpoaaGreat.runM B (Γ (Bo A M)) l (Cn T o.dst v) H1 with
   |none=>rw[e2]at h;cases h
   |some q2=>
    rw[e2]at h;obtain⟨n1,h1⟩:∃ n,∀ m,n<=m->Go.Proofs.YtlmhajfbpplpoaaGreat.coreM B (Γ (Dn A M m)) o T H=some (v,H1,f1):=EvM.coreM hΓ o T H _ e1;obtain⟨n2,h2⟩:∃ n,∀ m,n<=m->Go.Proofs.YtlmhajfbpplpoaaGreat.runM B (Γ (Dn A M m)) l (Cn T o.dst v) H1=some q2:=Ev.runM hΓ l _ H1 _ e2;refine⟨max n1 n2,λm hm=>?_⟩;rw[h1 m (by omega)];simp only;rw[h2 m (by omega)];exact h
theorem EvM.regM{B:Ar}{Γ:Orc->FuncId->List AV->AM AV}(hΓ:∀ f args,EvM A M λD=>Γ D f args)(ops:List MOp)(bf:Option (List Nat))(T:List AV):EvM A M λD=>regM B (Γ D) ops bf T:=λH r h=>by
 simp only[Go.Proofs.YtlmhajfbpplpoaaGreat.regM]at h ⊢
 cases e1:Go.Proofs.YtlmhajfbpplpoaaGreat.runM B (Γ (Bo A M)) ops T H with
 |none=>rw[e1]at h;cases h
 |some q=>
  rw[e1]at h;obtain⟨n1,h1⟩:∃ n,∀ m,n<=m->Go.Proofs.YtlmhajfbpplpoaaGreat.runM B (Γ (Dn A M m)) ops T H=some q:=Ev.runM hΓ ops T H _ e1;exact⟨n1,λm hm=>by rw[h1 m hm];exact h⟩
theorem EvM.evC{B:Ar}{Γ:Orc->FuncId->List AV->AM AV}{Λ:Orc->Nat->List AV->AM (AX × List AV)}(hΓ:∀ f args,EvM A M λD=>Γ D f args)(hΛ:∀ i T,EvM A M λD=>Λ D i T):∀(c:MC) (T:List AV),EvM A M λD=>evC B (Γ D) (Λ D) c T
 |.skip,T=>EvM.const _
 |.reg ops bf,T=>EvM.regM hΓ _ _ _
 |.seq a b,T=>by
  unfold Go.Proofs.YtlmhajfbpplpoaaGreat.evC;refine EvM.bind (EvM.evC hΓ hΛ a T) λr=>?_
  split
  .exact EvM.evC hΓ hΛ b _
  .exact EvM.const _
 |.cond c a b,T=>by
  unfold Go.Proofs.YtlmhajfbpplpoaaGreat.evC;split
  .split
   .exact EvM.evC hΓ hΛ a T
   .exact EvM.evC hΓ hΛ b T
  .exact EvM.const _
 |.block id c,T=>by
  unfold Go.Proofs.YtlmhajfbpplpoaaGreat.evC;exact EvM.bind (EvM.evC hΓ hΛ c T) λr=>EvM.const _
 |.loop i q,T=>by
  unfold Go.Proofs.YtlmhajfbpplpoaaGreat.evC;refine EvM.bind (EvM.const _) λ_=>EvM.bind (EvM.const _) λ_=>?_
  split
  .exact EvM.bind (hΛ _ _) λ_=>EvM.const _
  .exact EvM.const _
 |.exit id,T=>EvM.const _
 |.ret,T=>EvM.const _
 |.bad,_=>EvM.const _
theorem EvM.fnM{B:Ar}(own:List (Nat × Nat))(f:Nat)(mf:MFn)(args:List AV):EvM A M λD=>fnM B D own f mf args:=by
 unfold Go.Proofs.YtlmhajfbpplpoaaGreat.fnM;exact EvM.bind (EvM.evC (Γ:=λD=>Go.Proofs.YtlmhajfbpplpoaaGreat.callsM D own) (Λ:=λD=>Go.Proofs.YtlmhajfbpplpoaaGreat.loopsM D f) (EvM.callsM own) (EvM.loopsM f) _ _) λr=>EvM.const _
theorem EvM.lpM{B:Ar}(own:List (Nat × Nat))(f i:Nat)(q:LpH)(c:MC)(T:List AV):EvM A M λD=>lpM B D own f i q c T:=by
 unfold Go.Proofs.YtlmhajfbpplpoaaGreat.lpM;refine EvM.bind (EvM.evC (Γ:=λD=>Go.Proofs.YtlmhajfbpplpoaaGreat.callsM D own) (Λ:=λD=>Go.Proofs.YtlmhajfbpplpoaaGreat.loopsM D f) (EvM.callsM own) (EvM.loopsM f) _ _) λr=>?_
 split
 .exact EvM.bind (EvM.const _) λ_=>EvM.bind (EvM.loopsM _ _ _) λ_=>EvM.const _
 .exact EvM.const _
 .exact EvM.const _
theorem Ev.gcRun{m:Orc->List AV->AM AV}(h:∀ args,EvM A M λD=>m D args)(args:List AV)(bs:List ABlk):Ev A M λD=>OV (EM (m D)) args bs:=λr e=>by
 have key:∀ q,EM (m (Bo A M)) args bs=some q->∃ n,∀ k,n<=k->EM (m (Dn A M k)) args bs=some q:=λq hq=>by
  unfold EM at hq ⊢
  cases e1:m (Bo A M) args ⟨C9 0 bs,bs.length,none⟩ with
  |none=>rw[e1]at hq;cases hq
  |some x=>
   rw[e1]at hq;obtain⟨n,hn⟩:∃ n,∀ k,n<=k->m (Dn A M k) args ⟨C9 0 bs,bs.length,none⟩=some x:=h args _ _ e1;exact⟨n,λk hk=>by rw[hn k hk];exact hq⟩
 have e:OV (EM (m (Bo A M))) args bs=some r:=e;unfold OV at e
 cases e1:EM (m (Bo A M)) args bs with
 |none=>rw[e1]at e;cases e
 |some q=>
  rw[e1]at e;obtain⟨n,hn⟩:=key q e1;refine⟨n,λk hk=>?_⟩
  show OV (EM (m (Dn A M k))) args bs=some r
  unfold OV;rw[hn k hk];exact e
theorem LH{k:Key}{args:List AV}{bs:List ABlk}{r:AV × List BO}(h:∃ n,∀ m,n<=m->(Aip A M (Dn A M m)).ask k args bs=some r):(Bo A M).ask k args bs=some r:=by
 obtain⟨n,hn⟩:=h;refine AfB (n:=n+1) λm hm=>?_
 cases m with
 |zero=>omega
 |succ m=>exact hn m (by omega)
theorem Afz{f:Nat}{mf:MFn}(he:M.ext f=none)(hf:M.fns f=some mf){args:List AV}{bs:List ABlk}{r:AV × List BO}(h:OV (EM (fnM A (Bo A M) M.own f mf)) args bs=some r):(Bo A M).ask (.fn f) args bs=some r:=by
 obtain⟨n,hn⟩:=Ev.gcRun (m:=λD=>fnM A D M.own f mf) (λargs=>EvM.fnM M.own f mf args) args bs r h;refine LH ⟨n,λm hm=>?_⟩
 show (match M.ext f with
  |some d=>d args bs
  |none=>(match M.fns f with
   |some mf=>OV (EM (fnM A (Dn A M m) M.own f mf)) args bs
   |none=>none))=_
 rw[he,hf];exact hn m hm
theorem AfA{f i:Nat}{mf:MFn}{live:LpH}{c:MC}(hf:M.fns f=some mf)(hl:mf.loops[i]? = some (live,c)){args:List AV}{bs:List ABlk}{r:AV × List BO}(h:OV (EM (lpM A (Bo A M) M.own f i live c)) args bs=some r):(Bo A M).ask (.lp f i) args bs=some r:=by
 obtain⟨n,hn⟩:=Ev.gcRun (m:=λD=>lpM A D M.own f i live c) (λargs=>EvM.lpM M.own f i live c args) args bs r h;refine LH ⟨n,λm hm=>?_⟩
 show (match M.fns f with
  |some mf=>(match mf.loops[i]? with
   |some lc=>OV (EM (lpM A (Dn A M m) M.own f i lc.1 lc.2)) args bs
   |none=>none)
  |none=>none)=_
 rw[hf];simp only[hl];exact hn m hm
theorem Cm{f:Nat}{d:DF}(he:M.ext f=some d){args:List AV}{bs:List ABlk}{r:AV × List BO}(h:d args bs=some r):(Bo A M).ask (.fn f) args bs=some r:=
 LH ⟨0,λm _=>by
  show (match M.ext f with
   |some d=>d args bs
   |none=>(match M.fns f with
    |some mf=>OV (EM (fnM A (Dn A M m) M.own f mf)) args bs
    |none=>none))=_
  rw[he];exact h⟩
end
structure SeatOk (P:Program) (ents:Nat) (M:Seat):Prop where
 mixed:P.follows .mixedOrders=true
 ent:FY P ents
 fns:∀ f mf,M.fns f=some mf->FnOk P ents f mf
 ext:∀ f d,M.ext f=some d->Bz (BS P f) d
theorem Dq(P:Program)(ents:Nat)(hs:Be):∀(c:Code) (n:Nat) (j:Nat) (c':Code),(BC c)[j]? = some c'->∃ live,(∀ q,hs[n+j]? = some q->live=q)/\(Bw P ents hs c n).2[j]? = some (live,(Bw P ents hs c' (n+j+1)).1)/\(KU c=true->KU c'=true)/\∀ i c2,(BC c')[i]? = some c2->(BC c)[j+1+i]? = some c2
 |.skip,n,j,c',h=>by simp[BC]at h
 |.region ..,n,j,c',h=>by simp[BC]at h
 |.seq a b,n,j,c',h=>by
  have h:(BC a++BC b)[j]? = some c':=h;have hn:(Bw P ents hs (.seq a b) n).2=(Bw P ents hs a n).2++(Bw P ents hs b (n+(Bw P ents hs a n).2.length)).2:=rfl;rw[hn];rcases ApT j (BC a).length with hj|hj
  .rw[Aqk hj]at h
   obtain⟨live,h0,h1,h2,h3⟩:=Dq P ents hs a n j c' h;refine⟨live,h0,by rw[Aqk (by rw[Ch];exact hj)];exact h1,λhok=>h2 (by simp only[KU,ApF]at hok;exact hok.1),λi c2 hi=>?_⟩;have:=h3 i c2 hi
   show (BC a++BC b)[j+1+i]? = some c2
   rw[Aqk (ApU.1 this).1];exact this
  .rw[Aqg hj]at h
   obtain⟨live,h0,h1,h2,h3⟩:=Dq P ents hs b (n+(Bw P ents hs a n).2.length) (j-(BC a).length) c' h;have hl:=Ch P ents hs a n;rw[hl]at h0;refine⟨live,λq hq=>h0 q (by rw[show n+(BC a).length+(j-(BC a).length)=n+j by omega];exact hq),?_,λhok=>h2 (by simp only[KU,ApF]at hok;exact hok.2),λi c2 hi=>?_⟩
   .rw[Aqg (by omega),hl]
    rw[hl]at h1;rw[show n+j+1=n+(BC a).length+(j-(BC a).length)+1 by omega];exact h1
   .have:=h3 i c2 hi
    show (BC a++BC b)[j+1+i]? = some c2
    rw[Aqg (by omega),show j+1+i-(BC a).length=j-(BC a).length+1+i by omega];exact this
 |.cond q a b,n,j,c',h=>by
  have h:(BC a++BC b)[j]? = some c':=h;have hn:(Bw P ents hs (.cond q a b) n).2=(Bw P ents hs a n).2++(Bw P ents hs b (n+(Bw P ents hs a n).2.length)).2:=rfl;rw[hn];rcases ApT j (BC a).length with hj|hj
  .rw[Aqk hj]at h
   obtain⟨live,h0,h1,h2,h3⟩:=Dq P ents hs a n j c' h;refine⟨live,h0,by rw[Aqk (by rw[Ch];exact hj)];exact h1,λhok=>h2 (by simp only[KU,ApF]at hok;exact hok.1),λi c2 hi=>?_⟩;have:=h3 i c2 hi
   show (BC a++BC b)[j+1+i]? = some c2
   rw[Aqk (ApU.1 this).1];exact this
  .rw[Aqg hj]at h
   obtain⟨live,h0,h1,h2,h3⟩:=Dq P ents hs b (n+(Bw P ents hs a n).2.length) (j-(BC a).length) c' h;have hl:=Ch P ents hs a n;rw[hl]at h0;refine⟨live,λq hq=>h0 q (by rw[show n+(BC a).length+(j-(BC a).length)=n+j by omega];exact hq),?_,λhok=>h2 (by simp only[KU,ApF]at hok;exact hok.2),λi c2 hi=>?_⟩
   .rw[Aqg (by omega),hl]
    rw[hl]at h1;rw[show n+j+1=n+(BC a).length+(j-(BC a).length)+1 by omega];exact h1
   .have:=h3 i c2 hi
    show (BC a++BC b)[j+1+i]? = some c2
    rw[Aqg (by omega),show j+1+i-(BC a).length=j-(BC a).length+1+i by omega];exact this
 |.block id a,n,j,c',h=>Dq P ents hs a n j c' h
 |.loop a,n,j,c',h=>by
  have h:(a::BC a)[j]? = some c':=h;have hn:∃ live,(∀ q,hs[n]? = some q->live=q)/\(Bw P ents hs (.loop a) n).2=(live,(Bw P ents hs a (n+1)).1)::(Bw P ents hs a (n+1)).2:=by
   have:Bw P ents hs (.loop a) n=(match Bw P ents hs a (n+1),hs[n]? with
    |(mc,lc),some h=>(.loop n h,(h,mc)::lc)
    |(mc,lc),none=>(.bad,(⟨0,[],[],[],[]⟩,mc)::lc)):=by rw[Bw];rfl
   rw[this]
   cases hs[n]? with
   |none=>exact⟨_,λq h=>(by cases h),rfl⟩
   |some q=>exact⟨_,λq' h=>Option.some.inj h,rfl⟩
  obtain⟨live,hq0,hn⟩:=hn;rw[hn]
  cases j with
  |zero=>
   simp only[List.getElem?_cons_zero,Option.some.injEq]at h;subst h;exact⟨live,hq0,rfl,λhok=>hok,λi c2 hi=>by
    show (a::BC a)[0+1+i]? = some c2
    rw[show 0+1+i=i+1 by omega];exact hi⟩
  |succ j=>
   simp only[Ap5]at h;obtain⟨live',h0,h1,h2,h3⟩:=Dq P ents hs a (n+1) j c' h;refine⟨live',λq hq=>h0 q (by rw[show n+1+j=n+(j+1) by omega];exact hq),?_,h2,λi c2 hi=>?_⟩
   .simp only[Ap5]
    rw[show n+(j+1)+1=n+1+j+1 by omega];exact h1
   .show (a::BC a)[j+1+1+i]? = some c2
    rw[show j+1+1+i=(j+1+i)+1 by omega];exact h3 i c2 hi
 |.exit _,n,j,c',h=>by simp[BC]at h
 |.ret,n,j,c',h=>by simp[BC]at h
 |.rangeFunc ..,n,j,c',h=>by simp[BC]at h
 |.scope _,n,j,c',h=>by simp[BC]at h
 |.label _,n,j,c',h=>by simp[BC]at h
 |.goto _,n,j,c',h=>by simp[BC]at h
 |.refuse _,n,j,c',h=>by simp[BC]at h
theorem Jq{S:MB}:Bz S λ_ _=>none:=λ_ _ _ _ h=>by cases h
theorem QW{P:Program}{ents:Nat}{M:Seat}(hM:SeatOk P ents M):∀ n,(∀ f,Bz (BS P f) ((Dn Aj M n).ask (.fn f)))/\∀ f mf fn c,M.fns f=some mf->P.funcs[f]? = some fn->fn.body=some c->∀ i c' q mc,(BC c)[i]? = some c'->mf.loops[i]? = some (q,mc)->Bz (Pg P q c') ((Dn Aj M n).ask (.lp f i))
 |0=>⟨λ_=>Jq,λ_ _ _ _ _ _ _ _ _ _ _ _ _=>Jq⟩
 |n+1=>by
  obtain⟨ih1,ih2⟩:=QW hM n;have hΓ:=QS (P:=P) M.own ih1;refine⟨λf=>?_,λf mf fn c h0 h1 h2 i c' q mc hi hq=>?_⟩
  .have hd:(Dn Aj M (n+1)).ask (.fn f)=λargs bs=>(match M.ext f with
     |some d=>d args bs
     |none=>(match M.fns f with
      |some mf=>OV (EM (fnM Aj (Dn Aj M n) M.own f mf)) args bs
      |none=>none)):=rfl
   rw[hd]
   cases e:M.ext f with
   |some d=>exact hM.ext f d e
   |none=>
    cases e2:M.fns f with
    |none=>exact Jq
    |some mf=>
     obtain⟨fn,c,hs,k1,k2,k3,k4,k5,k6,k7,k8⟩:=(hM.fns f mf e2).ok;refine Se (CU P f) (Qa (XF M.own hM.mixed hM.ent k1 k2 k3 k4 k5 k6 k7 hΓ λj c' q hj hq=>J6 ?_) λargs=>Loc.fnM _ _ _ _ _ _);obtain⟨live,q0,q1,_,_⟩:=Dq P ents hs c 0 j c' hj;rw[Nat.zero_add]at q0;rw[q0 q hq]at q1;exact ih2 f mf fn c e2 k1 k2 j c' q _ hj (by rw[k8];exact q1)
  .have hd:(Dn Aj M (n+1)).ask (.lp f i)=λargs bs=>(match M.fns f with
     |some mf=>(match mf.loops[i]? with
      |some lc=>OV (EM (lpM Aj (Dn Aj M n) M.own f i lc.1 lc.2)) args bs
      |none=>none)
     |none=>none):=rfl
   rw[hd,h0];simp only[hq];obtain⟨fn',c0,hs,k1,k2,k3,k4,k5,k6,k7,k8⟩:=(hM.fns f mf h0).ok;rw[h1]at k1
   cases k1
   rw[h2]at k2
   cases k2
   obtain⟨live,q0,q1,q2,q3⟩:=Dq P ents hs c 0 i c' hi;rw[k8,q1]at hq;simp only[Option.some.injEq,Prod.mk.injEq]at hq;obtain⟨rfl,rfl⟩:=hq;refine Se (Oz P live c') (Qa (X6 M.own hM.mixed hM.ent (q2 k3) hΓ (λj c2 q hj hq=>?_) (ih2 f mf fn c h0 h1 h2 i c' live _ hi (by rw[k8];exact q1))) λargs=>Loc.lpM _ _ _ _ _ _ _ _);rw[show 0+i+1+j=i+1+j by omega];obtain⟨live2,p0,p1,_,_⟩:=Dq P ents hs c 0 (i+1+j) c2 (q3 j c2 hj);rw[show 0+(i+1+j)=0+i+1+j by omega]at p0;rw[p0 q hq]at p1;exact J6 (ih2 f mf fn c h0 h1 h2 (i+1+j) c2 q _ (q3 j c2 hj) (by rw[k8];exact p1))
theorem Ej{P:Program}{ents:Nat}{M:Seat}(hM:SeatOk P ents M)(f:FuncId):Bz (BS P f) ((Bo Aj M).ask (.fn f)):=by
 intro args bs r out h;obtain⟨n,hn⟩:=Qf h;exact(QW hM n).1 f args bs r out (hn n (ApA _))
end Go.Proofs.YtlmhajfbpplpoaaGreat
namespace Go.Proofs.YtlmhajfbpplpoaaGreat
open Go.RowKit
abbrev KR:=Option (AV × List BO)
inductive Sh where
 |int (k:IntKind)
 |bool
 |str
 |ls
 |lp (l:List Sh)
 |agg (l:List Sh)
 |tup (l:List Sh)
 |sl (b e:Nat)
 |ptr (b o:Nat)
 |cst (v:Value)
 |fnc (f:Nat)
 |any
inductive Os where
 |keep
 |del
 |row (st:Bool)
 |box (l:List Sh)
def br(b:Bool)(x y:KR):KR:=match b with
 |true=>x
 |false=>y
def unI(n:Int)(k:Nat->KR):KR:=match n with
 |.ofNat i=>k i
 |.negSucc _=>none
def Br(xs:List (List AV))(i:Nat)(k:List AV->KR):KR:=match S9 xs i with
 |some cs=>k cs
 |none=>none
def IG(cells:List AV)(o n:Nat)(k:List AV->KR):KR:=match ApM (o+n) cells.length with
 |true=>k ((cells.drop o).take n)
 |false=>none
def Ae(D:Orc)(key:Key)(args:List AV)(bs:List ABlk)(k:AV->List BO->KR):KR:=match D.ask key args bs with
 |some r=>k r.1 r.2
 |none=>none
def AT(kd:IntKind)(x:AV)(k:Int->KR):KR:=match x with
 |.v (.int k' n)=>if k'=kd then k n else none
 |_=>none
def AR(x:AV)(k:Bool->KR):KR:=match x with
 |.v (.bool b)=>k b
 |_=>none
def TT(x:AV)(k:ByteArray->KR):KR:=match x with
 |.v (.string s)=>k s
 |_=>none
def BX(x:AV)(k:List (List AV)->KR):KR:=match x with
 |.ls xs=>k xs
 |_=>none
def AmJ(x:AV)(k0:KR)(k:List AV->KR):KR:=match x with
 |.v (.pointer none)=>k0
 |.lp cs=>k cs
 |_=>none
def Au(x:AV)(k:List AV->KR):KR:=match x with
 |.agg cs=>k cs
 |_=>none
def Az(x:AV)(k:List AV->KR):KR:=match x with
 |.tup cs=>k cs
 |_=>none
def B1(b e:Nat)(x:AV)(k:Nat->KR):KR:=match x with
 |.sl b' 0 n e'=>(match Ap3 b b',Ap3 e e' with
  |true,true=>k n
  |_,_=>none)
 |_=>none
def Cp(b o:Nat)(x:AV)(k:KR):KR:=match x with
 |.ptr b' o'=>(match Ap3 b b',Ap3 o o' with
  |true,true=>k
  |_,_=>none)
 |_=>none
def Pe(f:Nat)(x:AV)(k:KR):KR:=match x with
 |.fn (.func g) [] []=>(match Ap3 f g with
  |true=>k
  |false=>none)
 |_=>none
def Ahi:Value->Value->Bool
 |.slice none 0 0,.slice none 0 0=>true
 |.pointer none,.pointer none=>true
 |_,_=>false
def TR(v:Value)(x:AV)(k:KR):KR:=match x with
 |.v u=>(match Ahi v u with
  |true=>k
  |false=>none)
 |_=>none
def Ad(cs:List AV)(k:KR):KR:=match cs with
 |[]=>k
 |_::_=>none
def Ai(cs:List AV)(k:AV->List AV->KR):KR:=match cs with
 |[]=>none
 |c::r=>k c r
def At(kd:IntKind)(cs:List AV)(k:Int->List AV->KR):KR:=match cs with
 |.v (.int k' n)::r=>if k'=kd then k n r else none
 |_=>none
def Af(cs:List AV)(k:Bool->List AV->KR):KR:=match cs with
 |.v (.bool b)::r=>k b r
 |_=>none
def Bv(cs:List AV)(k:ByteArray->List AV->KR):KR:=match cs with
 |.v (.string s)::r=>k s r
 |_=>none
def As(cs:List AV)(k:List (List AV)->List AV->KR):KR:=match cs with
 |.ls xs::r=>k xs r
 |_=>none
def Am(o:List BO)(k:BO->List BO->KR):KR:=match o with
 |[]=>none
 |c::r=>k c r
def Ac(o:List BO)(k:KR):KR:=match o with
 |[]=>k
 |_::_=>none
def CO(o:BO)(k:KR):KR:=match o with
 |.keep=>k
 |_=>none
def Bn(o:BO)(k:KR):KR:=match o with
 |.del=>k
 |_=>none
def AE(st ex:Bool)(o:BO)(k:List AV->KR):KR:=match o with
 |.set ⟨cs,st',ex'⟩=>if st'=st/\ex'=ex then k cs else none
 |_=>none
def Bi(k:Nat)(x:AV):Bool:=match k,x with
 |0,.v (.bool true)=>true
 |i+1,.v (.int .i64 (.ofNat j))=>Ap3 i j
 |_,_=>false
mutual
def Dr:Sh->AV->(AV->KR)->KR
 |.int kd,x,K=>AT kd x λn=>K (.v (.int kd n))
 |.bool,x,K=>AR x λb=>K (.v (.bool b))
 |.str,x,K=>TT x λs=>K (.v (.string s))
 |.ls,x,K=>BX x λxs=>K (.ls xs)
 |.lp l,x,K=>AmJ x (K (.v (.pointer none))) λcs=>Cx l cs λcs=>K (.lp cs)
 |.agg l,x,K=>Au x λcs=>Cx l cs λcs=>K (.agg cs)
 |.tup l,x,K=>Az x λcs=>Cx l cs λcs=>K (.tup cs)
 |.sl b e,x,K=>B1 b e x λn=>K (.sl b 0 n e)
 |.ptr b o,x,K=>Cp b o x (K (.ptr b o))
 |.cst v,x,K=>TR v x (K (.v v))
 |.fnc f,x,K=>Pe f x (K (.fn (.func f) [] []))
 |.any,x,K=>K x
def Cx:List Sh->List AV->(List AV->KR)->KR
 |[],cs,K=>Ad cs (K [])
 |.int kd::l,cs,K=>At kd cs λn r=>Cx l r λr=>K (.v (.int kd n)::r)
 |.bool::l,cs,K=>Af cs λn r=>Cx l r λr=>K (.v (.bool n)::r)
 |.str::l,cs,K=>Bv cs λn r=>Cx l r λr=>K (.v (.string n)::r)
 |.ls::l,cs,K=>As cs λn r=>Cx l r λr=>K (.ls n::r)
 |s::l,cs,K=>Ai cs λc r=>Dr s c λc=>Cx l r λr=>K (c::r)
end
def Fz:List Os->List BO->(List BO->KR)->KR
 |[],o,K=>Ac o (K [])
 |s::l,o,K=>Am o λc r=>(match s with
  |.keep=>CO c (Fz l r λr=>K (.keep::r))
  |.del=>Bn c (Fz l r λr=>K (.del::r))
  |.row st=>AE st true c λcs=>Fz l r λr=>K (.set ⟨cs,st,true⟩::r)
  |.box m=>AE true false c λcs=>Cx m cs λcs=>Fz l r λr=>K (.set ⟨cs,true,false⟩::r))
inductive Sc where
 |n
 |b (x y:Sc)
 |t (x:Sc)
 |f (x:Sc)
def brS(s:Sc)(c:Bool)(x y:Sc->KR):KR:=match s with
 |.n=>br c (x .n) (y .n)
 |.b p q=>br c (x p) (y q)
 |.t p=>br c (x p) none
 |.f p=>br c none (y p)
def KM(α:Type):=AH->Sc->(α->AH->Foot->Sc->KR)->KR
namespace KM
variable {α β:Type}
def ret(a:α):KM α:=λH s k=>k a H ⟨[],[]⟩ s
def fail:KM α:=λ_ _ _=>none
def bind(m:KM α)(f:α->KM β):KM β:=λH s k=>m H s λa H1 f1 s=>f a H1 s λb H2 f2 s=>k b H2 ⟨f1.rd++f2.rd,f1.wr++f2.wr⟩ s
def gen(m:AM α):KM α:=λH s k=>match m H with
 |some (a,H',f)=>k a H' f s
 |none=>none
def opt:Option α->KM α
 |some a=>ret a
 |none=>fail
def brk(b:Bool)(x y:KM α):KM α:=λH s k=>brS s b (λs=>x H s k) (λs=>y H s k)
def test(b:Bool)(x:KM α):KM α:=λH s k=>br b (x H s k) none
def unI(n:Int)(f:Nat->KM α):KM α:=λH s k=>Go.Proofs.YtlmhajfbpplpoaaGreat.unI n λi=>f i H s k
def nth(xs:List (List AV))(i:Nat)(f:List AV->KM α):KM α:=λH s k=>Br xs i λcs=>f cs H s k
def rd(cells:List AV)(o n:Nat):KM (List AV):=λH s k=>IG cells o n λcs=>k cs H ⟨[],[]⟩ s
def exp(t:Sh)(x:AV):KM AV:=λH s k=>Dr t x λy=>k y H ⟨[],[]⟩ s
def expL(l:List Sh)(x:List AV):KM (List AV):=λH s k=>Cx l x λy=>k y H ⟨[],[]⟩ s
def expO(l:List Os)(x:List BO):KM (List BO):=λH s k=>Fz l x λy=>k y H ⟨[],[]⟩ s
def ask(D:Orc)(key:Key)(args:List AV)(bs:List ABlk):KM (AV × List BO):=λH s k=>Ae D key args bs λr o=>k (r,o) H ⟨[],[]⟩ s
def idx(x:AV)(f:Nat->KM α):KM α:=match x with
 |.v (.int _ n)=>unI n f
 |_=>fail
def idxO(n:Nat)(x:Option AV)(f:Nat->KM α):KM α:=match x with
 |some x=>idx x f
 |none=>f n
end KM
def Bp(n bytes:Nat):Bool:=match ApM (n*bytes) 140737488355328 with
 |true=>ApM n maxLen
 |false=>false
def J3(l h n:Nat):Bool:=match ApM l h with
 |true=>ApM h n
 |false=>false
structure Hnt where
 fn:List (Nat × (Sh × List Os))
 lp:List (Nat × List (Nat × (List Sh × List Os)))
 tm:List (Nat × List Sh)
def CL{α:Type}(n:Nat):List (Nat × α)->Option α
 |[]=>none
 |(m,a)::r=>match Ap3 n m with
  |true=>some a
  |false=>CL n r
section
variable (A:Ar) (D:Orc) (own:List (Nat × Nat)) (Hn:Hnt)
def tmK(d:Option Nat)(cs:List AV):KM (List AV):=match d with
 |some d=>(match CL d Hn.tm with
  |some l=>KM.expL l cs
  |none=>KM.ret cs)
 |none=>KM.ret cs
def WM(d:Option Nat)(a:AV)(n:Nat):KM (List AV):=match a with
 |.ptr b o=>(KM.gen (AM.getB b)).bind λk=>(KM.rd k.cells o n).bind λcs=>match k.ex with
  |true=>tmK Hn d cs
  |false=>KM.ret cs
 |a=>KM.gen (rdAt a n)
def Abj(d:Option Nat)(row:Bool)(n:Nat)(a:AV):KM AV:=match row with
 |true=>(WM Hn d a n).bind λcs=>KM.ret (.agg cs)
 |false=>(WM Hn d a 1).bind λcs=>KM.opt (Vi cs)
def VB(n:Nat)(a x:AV):KM AV:=match a with
 |.ptr b o=>
  if x.cells.length=n/\x.cells.all AV.one=true then
   (KM.gen (AM.getB b)).bind λk=>if k.st=true/\(!k.ex||A8 x.cells)=true then KM.test (ApM (o+n) k.cells.length) ((KM.gen (AM.setB b { k with cells:=Ba k.cells o x.cells })).bind λ_=>KM.ret AV.undef) else KM.fail
  else KM.fail
 |_=>KM.fail
def UX(d:Option Nat)(e:Nat)(x ix:AV):KM AV:=KM.idx ix λi=>match x with
 |.sl b o n e'=>KM.test (AqO i n) (if e'=e then KM.ret (.ptr b (o+i*e)) else KM.fail)
 |.ls xs=>KM.nth xs i λcs=>(tmK Hn d cs).bind λcs=>(match Ap3 cs.length e with
  |true=>KM.ret (.lp cs)
  |false=>KM.fail)
 |_=>KM.fail
def Ud(n e:Nat)(x ix:AV):KM AV:=KM.idx ix λi=>KM.test (AqO i n) (KM.opt (N5 x (i*e)))
def UZ(d:Option Nat)(n e:Nat)(row:Bool)(sz:Nat)(x ix:AV):KM AV:=KM.idx ix λi=>match x with
 |.agg cs=>KM.test (AqO i n) ((KM.rd cs (i*e) (match row with
  |true=>sz
  |false=>1)).bind λxs=>(match row with
  |true=>KM.ret (.agg xs)
  |false=>KM.opt (Vi xs)))
 |_=>KM.fail
def Vx(e:Nat)(x:AV)(lo hi:Option AV):KM AV:=match x with
 |.sl b o n e'=>KM.idxO 0 lo λl=>KM.idxO n hi λh=>KM.test (J3 l h n) (match Ap3 e' e with
  |true=>KM.ret (.sl b (o+l*e) (h-l) e)
  |false=>KM.fail)
 |.ls xs=>KM.idxO 0 lo λl=>KM.idxO (A1 xs) hi λh=>KM.test (J3 l h (A1 xs)) (KM.test (Gv e xs) (KM.ret (.ls (I0 (I9 xs h) l))))
 |_=>KM.fail
def AiT(b:BinOp)(x y:AV):KM AV:=match x,y with
 |.v (.int k a),.v (.int k' c)=>(match b with
  |.shl=>KM.brk (A.lt c 0) KM.fail (KM.ret (.v (.int k (A.shl k a c))))
  |.shr=>KM.brk (A.lt c 0) KM.fail (KM.ret (.v (.int k (A.shr k a c))))
  |.quo=>if k=k' then KM.brk (A.eq c 0) KM.fail (KM.ret (.v (.int k (A.quo k a c)))) else KM.fail
  |.rem=>if k=k' then KM.brk (A.eq c 0) KM.fail (KM.ret (.v (.int k (A.rem k a c)))) else KM.fail
  |.neq=>if k=k' then KM.brk (A.eq a c) (KM.ret (.v (.bool false))) (KM.ret (.v (.bool true))) else KM.fail
  |b=>KM.opt (JP A b (.v (.int k a)) (.v (.int k' c))))
 |.v (.string a),.v (.string c)=>(match b with
  |.add=>KM.test (ApM (A.slen a+A.slen c) 9223372036854775807) (KM.ret (.v (.string (A.cat a c))))
  |.neq=>KM.brk (A.seq a c) (KM.ret (.v (.bool false))) (KM.ret (.v (.bool true)))
  |b=>KM.opt (JP A b (.v (.string a)) (.v (.string c))))
 |x,y=>KM.opt (JP A b x y)
def Aco(x i:AV):KM AV:=match x with
 |.v (.string s)=>KM.idx i λi=>KM.test (AqO i (A.slen s)) (KM.ret (.v (.int .u8 (A.sat s i))))
 |_=>KM.fail
def RB(x:AV)(lo hi:Option AV):KM AV:=match x with
 |.v (.string s)=>KM.idxO 0 lo λl=>KM.idxO (A.slen s) hi λh=>KM.test (J3 l h (A.slen s)) (KM.ret (.v (.string (A.ssub s l h))))
 |_=>KM.fail
def Wz(e:Nat)(x:AV):KM (Nat × List AV):=match x with
 |.sl b o n e'=>if e'=e then(KM.gen (AM.getB b)).bind λk=>KM.test (ApM (o+n*e) k.cells.length) (match (k.ex||A8 ((k.cells.drop o).take (n*e))) with
   |true=>KM.ret (n,(k.cells.drop o).take (n*e))
   |false=>KM.fail)
   else KM.fail
 |.ls xs=>KM.test (Gv e xs) (KM.ret (A1 xs,IQ xs))
 |.v (.slice none 0 0)=>KM.ret (0,[])
 |_=>KM.fail
def Agl(e bytes:Nat)(s:AV)(m:Nat)(xs:List AV):KM AV:=match s with
 |.v (.slice none 0 0)=>KM.test (Bp m bytes) ((KM.gen (AM.newB ⟨xs,true,true⟩)).bind λb=>KM.ret (.sl b 0 m e))
 |.sl b o n e'=>(match Ap3 e' e with
  |true=>KM.test (Bp (n+m) bytes) ((KM.gen (AM.getB b)).bind λk=>match k.ex,k.st with
   |true,true=>KM.test (ApM (o+n*e) k.cells.length) ((KM.gen (AM.delB b)).bind λ_=>(KM.gen (AM.newB ⟨(k.cells.take (o+n*e)).drop o++xs,true,true⟩)).bind λb'=>KM.ret (.sl b' 0 (n+m) e))
   |true,false=>KM.test (Ap3 (o+n*e) k.cells.length) ((KM.gen (AM.setB b { k with ex:=false })).bind λ_=>(KM.gen (AM.newB ⟨(k.cells.take (o+n*e)).drop o++xs,false,true⟩)).bind λb'=>KM.ret (.sl b' 0 (n+m) e))
   |_,_=>KM.fail)
  |false=>KM.fail)
 |_=>KM.fail
def AiL(e bytes:Nat)(s x:AV):KM AV:=(Wz e x).bind λr=>KM.brk (Ap3 r.1 0) (if SQ s=true then KM.ret s else KM.fail) (KM.test (Kd r.2) (Agl e bytes s r.1 r.2))
def Abq(z:List Value)(e bytes:Nat)(l c:AV):KM AV:=KM.idx l λn=>KM.idx c λm=>KM.test (ApM n m) (KM.test (Bp m bytes) ((KM.gen (AM.newB ⟨Cw (z.map .v) (n*e),true,true⟩)).bind λb=>KM.ret (.sl b 0 n e)))
def Ai1(e:Nat)(d x:AV):KM AV:=match d with
 |.sl b o n e'=>(match Ap3 e' e with
  |true=>(Wz e x).bind λr=>KM.test (Kd (r.2.take (AqC r.1 n*e))) ((KM.gen (AM.getB b)).bind λk=>match k.st with
    |true=>KM.test (ApM (o+n*e) k.cells.length) ((KM.gen (AM.setB b { k with cells:=Ba k.cells o (r.2.take (AqC r.1 n*e)) })).bind λ_=>KM.ret (.v (.int .i64 (Int.ofNat (AqC r.1 n)))))
    |false=>KM.fail)
  |false=>KM.fail)
 |_=>KM.fail
def Ai0(z:List Value)(e:Nat)(x:AV):KM AV:=match x with
 |.sl b o n e'=>(match Ap3 e' e with
  |true=>(KM.gen (AM.getB b)).bind λk=>match k.st with
   |true=>KM.test (ApM (o+n*e) k.cells.length) ((KM.gen (AM.setB b { k with cells:=Ba k.cells o (Cw (z.map .v) (n*e)) })).bind λ_=>KM.ret (.tup []))
   |false=>KM.fail
  |false=>KM.fail)
 |_=>KM.fail
mutual
def Sb:Nat->AV->KM AV
 |0,x=>KM.gen (frz0 x)
 |n+1,x=>match x with
  |.v z=>KM.ret (Abw z)
  |.sl b o m e=>(KM.gen (AM.getB b)).bind λk=>KM.test (ApM (o+m*e) k.cells.length) ((match k.st with
    |true=>KM.gen (AM.setB b { k with st:=false })
    |false=>KM.ret ()).bind λ_=>match (k.ex||A8 ((k.cells.drop o).take (m*e))) with
     |true=>KM.ret (.ls (BA m e ((k.cells.drop o).take (m*e))))
     |false=>(J1 n ((k.cells.drop o).take (m*e))).bind λcs=>match A8 cs with
      |true=>KM.ret (.ls (BA m e cs))
      |false=>KM.fail)
  |.agg cs=>(J1 n cs).bind λcs=>KM.ret (.agg cs)
  |.tup cs=>(J1 n cs).bind λcs=>KM.ret (.tup cs)
  |x=>KM.ret x
def J1:Nat->List AV->KM (List AV)
 |_,[]=>KM.ret []
 |0,_::_=>KM.fail
 |n+1,x::r=>(Sb n x).bind λx=>(J1 n r).bind λr=>KM.ret (x::r)
end
def AaA(b:Nat):KM Unit:=(KM.gen (AM.getB b)).bind λk=>match k.ex,k.st with
 |false,true=>(J1 1000 k.cells).bind λcs=>(KM.gen (AM.getB b)).bind λk2=>(match k2.ex,Ap3 cs.length k2.cells.length with
  |false,true=>KM.gen (AM.setB b { k2 with cells:=cs })
  |_,_=>KM.fail)
 |_,_=>KM.ret ()
def J2:List Nat->List AV->KM (List AV)
 |[],T=>KM.ret T
 |t::r,T=>match T[t]? with
  |some (.ptr b _)=>(AaA b).bind λ_=>J2 r T
  |some x=>(Sb 1000 x).bind λy=>J2 r (T.set t y)
  |none=>J2 r T
def PE(f:Nat):Nat->List AV->KM (List AV)
 |_,[]=>KM.ret []
 |i,x::r=>match AbL own f i with
  |true=>(PE f (i+1) r).bind λr=>KM.ret (x::r)
  |false=>(Sb 1000 x).bind λx=>(PE f (i+1) r).bind λr=>KM.ret (x::r)
def QQ(key:Key)(e:AV × List BO->KM (AV × List BO))(args:List AV):KM AV:=
 (KM.gen (trav 4096 (Es args) [])).bind λL=>(KM.gen (readAll L)).bind λbs=>
  ((KM.ask D key (Hg (λb=>idx b L) args) (bs.map (ABlk.ren λb=>idx b L))).bind e).bind λr=>
    match Nl r.2.length r.1.ids,QH r.2.length r.2 with
    |true,true=>(KM.gen nextB).bind λn=>(KM.gen (writeAll (G5 L n) L r.2)).bind λout=>(KM.gen (newAll (G5 L n) out)).bind λ_=>KM.ret (r.1.ren (G5 L n))
    |_,_=>KM.fail
def ansF(f:Nat)(r:AV × List BO):KM (AV × List BO):=match CL f Hn.fn with
 |some (s,l)=>(KM.exp s r.1).bind λx=>(KM.expO l r.2).bind λo=>KM.ret (x,o)
 |none=>KM.ret r
def QR(f:FuncId)(args:List AV):KM AV:=(PE own f 0 args).bind λl=>QQ D (.fn f) (ansF Hn f) l
def Zs:Nat->AV
 |0=>.v (.bool true)
 |i+1=>.v (.int .i64 (Int.ofNat i))
def ansX:List (Nat × (List Sh × List Os))->AV->List AV->List BO->KM (AV × List BO)
 |[],_,_,_=>KM.fail
 |(k,s,l)::r,x,ys,o=>KM.brk (Bi k x) ((KM.expL s ys).bind λys=>(KM.expO l o).bind λo=>KM.ret (.tup (Zs k::ys),o)) (ansX r x ys o)
def ansL(i:Nat)(r:AV × List BO):KM (AV × List BO):=match CL i Hn.lp with
 |some l=>λH s k=>Az r.1 λcs=>Ai cs λx ys=>ansX l x ys r.2 H s k
 |none=>KM.ret r
def U6(f i:Nat)(xs:List AV):KM (AX × List AV):=(QQ D (.lp f i) (ansL Hn i) xs).bind λr=>match r with
 |.tup (x::ys)=>(match Uh x with
  |some ax=>KM.ret (ax,ys)
  |none=>KM.fail)
 |_=>KM.fail
def opK(d:Option Nat)(o:MO)(T:List AV):KM AV:=match o with
 |.pick c a b=>(match AU T c with
  |.v (.bool t)=>KM.brk t (KM.ret (AU T a)) (KM.ret (AU T b))
  |_=>KM.fail)
 |.ld row n a=>Abj Hn d row n (AU T a)
 |.st n a x=>VB n (AU T a) (AU T x)
 |.bin ek b x y=>(match ek with
  |0=>AiT A b (AU T x) (AU T y)
  |ek=>KM.opt (AdM A ek b (AU T x) (AU T y)))
 |.slice e x lo hi=>Vx e (AU T x) (lo.map (AU T)) (hi.map (AU T))
 |.iaddr e x i=>UX Hn d e (AU T x) (AU T i)
 |.aaddr n e x i=>Ud n e (AU T x) (AU T i)
 |.index n e row sz x i=>UZ d n e row sz (AU T x) (AU T i)
 |.mksl z e bytes l c=>Abq z e bytes (AU T l) (AU T c)
 |.app e bytes s x=>AiL e bytes (AU T s) (AU T x)
 |.cpy e d x=>Ai1 e (AU T d) (AU T x)
 |.clr z e x=>Ai0 z e (AU T x)
 |.sidx x i=>Aco A (AU T x) (AU T i)
 |.sslice x lo hi=>RB A (AU T x) (lo.map (AU T)) (hi.map (AU T))
 |.callF f args=>QR D own Hn f (Pa T args)
 |.callV ents x args=>(match AU T x with
  |.fn (.func g) a cs=>(match ents.testBit g with
   |true=>QR D own Hn g (a++Pa T args++cs)
   |false=>KM.fail)
  |_=>KM.fail)
 |o=>KM.gen (mop A (λ_ _=>AM.fail) o T)
def ZL(o:MOp)(T:List AV):KM AV:=match o.g with
 |none=>opK A D own Hn o.dst o.op T
 |some (d,want)=>(match T[d]? with
  |some (.v (.bool b))=>KM.brk (match want with
   |true=>b
   |false=>A.not b) (opK A D own Hn o.dst o.op T) (KM.ret AV.undef)
  |some (.v (.tuple _))=>KM.ret AV.undef
  |_=>KM.fail)
def Ajb(v:Value)(k:Value->KR):KR:=match v with
 |.int kd n=>k (.int kd n)
 |.bool b=>k (.bool b)
 |.string s=>k (.string s)
 |.tuple t=>k (.tuple t)
 |v=>k v
theorem Ad6(v:Value)(k:Value->KR):Ajb v k=k v:=by
 unfold Ajb;split<;>rfl
def gL(f:AV->(AV->KR)->KR)(l:List AV)(k:List AV->KR):KR:=match l with
 |[]=>k []
 |x::r=>f x λx=>gL f r λr=>k (x::r)
theorem Agk{f:AV->(AV->KR)->KR}(hf:∀ x k,f x k=k x):∀(l:List AV) (k:List AV->KR),gL f l k=k l
 |[],_=>rfl
 |x::r,k=>by simp only[gL,hf,Agk hf r]
def gAV(d:Nat)(x:AV)(k:AV->KR):KR:=match d with
 |0=>k x
 |d+1=>match x with
  |.v x=>Ajb x λx=>k (.v x)
  |.ptr b o=>k (.ptr b o)
  |.sl b o n e=>k (.sl b o n e)
  |.ls xs=>k (.ls xs)
  |.lp cs=>gL (gAV d) cs λcs=>k (.lp cs)
  |.agg cs=>gL (gAV d) cs λcs=>k (.agg cs)
  |.tup cs=>gL (gAV d) cs λcs=>k (.tup cs)
  |.fn f a c=>gL (gAV d) a λa=>gL (gAV d) c λc=>k (.fn f a c)
  |.any=>k .any
theorem AaC:∀(d:Nat) (x:AV) (k:AV->KR),gAV d x k=k x
 |0,_,_=>rfl
 |d+1,x,k=>by cases x<;>simp only[gAV,Ad6,Agk (AaC d)]
def gB(e:Bool)(x:AV)(s:Sc)(k:AV->Sc->KR):KR:=match e,x with
 |true,.v (.bool b)=>brS s b (λs=>k (.v (.bool true)) s) (λs=>k (.v (.bool false)) s)
 |_,x=>k x s
def Ai9:MO->Bool
 |.mv _=>false
 |.ld _ _ _=>false
 |.field _ _ _ _=>false
 |.ext _ _=>false
 |_=>true
def gSp{β:Type}(l:List β)(k:List β->KR):KR:=match l with
 |[]=>k []
 |x::r=>gSp r λr=>k (x::r)
theorem UQ{β:Type}:∀(l:List β) (k:List β->KR),gSp l k=k l
 |[],_=>rfl
 |x::r,k=>by simp only[gSp,UQ r]
def gBl(l:List (Nat × ABlk))(k:List (Nat × ABlk)->KR):KR:=match l with
 |[]=>k []
 |(b,⟨cs,st,ex⟩)::r=>gBl r λr=>k ((b,⟨cs,st,ex⟩)::r)
theorem AaD:∀(l:List (Nat × ABlk)) (k:List (Nat × ABlk)->KR),gBl l k=k l
 |[],_=>rfl
 |(b,⟨cs,st,ex⟩)::r,k=>by simp only[gBl,AaD r]
def gH(H:AH)(k:AH->KR):KR:=match H with
 |⟨l,n,t⟩=>gBl l λl=>k ⟨l,n,t⟩
theorem AkU(H:AH)(k:AH->KR):gH H k=k H:=by
 obtain⟨l,n,t⟩:=H;simp only[gH,AaD]
def gFt(f:Foot)(k:Foot->KR):KR:=match f with
 |⟨rd,wr⟩=>gSp rd λrd=>gSp wr λwr=>k ⟨rd,wr⟩
theorem Aja(f:Foot)(k:Foot->KR):gFt f k=k f:=by
 obtain⟨rd,wr⟩:=f;simp only[gFt,UQ]
def Afn:List MOp->List AV->AH->Sc->(List AV->AH->List Foot->Sc->KR)->KR
 |[],T,H,s,k=>k T H [] s
 |o::r,T,H,s,k=>ZL A D own Hn o T H s λv H f s=>gAV 3 v λv=>gB (Ai9 o.op) v s λv s=>gSp (Cn T o.dst v) λT=>gFt f λf=>gH H λH=>Afn r T H s λT H fs s=>k T H (f::fs) s
def AjZ(ops:List MOp)(bf:Option (List Nat))(T:List AV):KM (AX × List AV):=λH s k=>Afn A D own Hn ops T H s λT H fs s=>match bf with
 |none=>k (.normal,T) H ⟨fs.flatMap (·.rd),fs.flatMap (·.wr)⟩ s
 |some bf=>(match Eb bf fs with
  |true=>k (.normal,T) H ⟨fs.flatMap (·.rd),fs.flatMap (·.wr)⟩ s
  |false=>none)
def Za(f:Nat):MC->List AV->KM (AX × List AV)
 |.skip,T=>KM.ret (.normal,T)
 |.reg ops bf,T=>AjZ A D own Hn ops bf T
 |.seq a b,T=>(Za f a T).bind λr=>match r.1 with
  |.normal=>Za f b r.2
  |ax=>KM.ret (ax,r.2)
 |.cond c a b,T=>(match AU T c with
  |.v (.bool t)=>KM.brk t (Za f a T) (Za f b T)
  |_=>KM.fail)
 |.block id c,T=>(Za f c T).bind λr=>match r.1 with
  |.exit i=>if i=id then KM.ret (.normal,r.2) else KM.ret (.exit i,r.2)
  |ax=>KM.ret (ax,r.2)
 |.loop i h,T=>(KM.gen (adoptM h.ad T)).bind λT=>(J2 h.fz T).bind λT=>match Ap3 T.length h.n with
  |true=>(U6 D Hn f i (Ct h.live T)).bind λr=>KM.ret (r.1,B2 (h.out r.1) h.n r.2)
  |false=>KM.fail
 |.exit id,T=>KM.ret (.exit id,T)
 |.ret,T=>KM.ret (.ret,T)
 |.bad,_=>KM.fail
def Ab0(T:List AV):List MRes->KM (List AV)
 |[]=>KM.ret []
 |.tmp t::r=>(Ab0 T r).bind λl=>KM.ret ((T[t]?).getD AV.undef::l)
 |.cell x row n::r=>(Abj Hn none row n ((T[x]?).getD AV.undef)).bind λv=>(Ab0 T r).bind λl=>KM.ret (v::l)
def NG(n:Nat)(r:AV)(H:AH)(ft:Foot):KR:=
 match (DS 0 n).map (Vk H ft.wr)++(DS n (H.next-n)).map (Ae5 H) with
 |out=>(match FT n out 4096 (r.ids++UY (I8 out n)) []with
  |none=>none
  |some acc=>some (r.ren (XH n acc),AbY (XH n acc) (I8 out n)++Tf (XH n acc) out acc))
def BI(s:Sc)(f:Nat)(mf:MFn)(args:List AV)(bs:List ABlk):KR:=((Za A D own Hn f mf.body (Q5 mf.nt args)).bind λr=>match r.1 with
 |.exit _=>KM.fail
 |.goto _=>KM.fail
 |_=>(Ab0 Hn r.2 mf.res).bind λl=>(match mf.own with
  |true=>KM.ret (IU l)
  |false=>Sb 1000 (IU l)).bind λv=>match mf.tch with
   |true=>(KM.gen (touchI (Es args))).bind λ_=>KM.ret v
   |false=>KM.ret v) ⟨C9 0 bs,bs.length,none⟩ s λv H ft _=>NG bs.length v H ft
def AbB(n:Nat):List Nat->List Nat
 |[]=>[]
 |x::r=>match AqO x n,Fr x r with
  |true,false=>x::AbB n r
  |_,_=>AbB n r
def AN(n:Nat)(L:List Nat)(H:AH)(wr:List Nat)(r:AV)(o:List BO):KR:=match Nl o.length r.ids,QH o.length o with
 |true,true=>(match (nextB.bind λn=>(writeAll (G5 L n) L o).bind λout=>(newAll (G5 L n) out).bind λ_=>AM.ret (r.ren (G5 L n))) H with
  |some (.tup (x::ys),H',f)=>(match Uh x with
   |some ax=>NG n (.tup (Zq ax::ys)) H' ⟨[],wr++f.wr⟩
   |none=>none)
  |_=>none)
 |_,_=>none
def AjY(f i:Nat)(xs:List AV)(H:AH)(ft:Foot)(n:Nat):KR:=match trav 4096 (Es xs) [] H with
 |some (L,_,f1)=>(match readAll L H with
  |some (bs,_,f2)=>Ae D (.lp f i) (Hg (λb=>idx b L) xs) (bs.map (ABlk.ren λb=>idx b L)) λr o=>AN n L H (AbB n (ft.wr++(f1.wr++f2.wr))) r o
  |none=>none)
 |none=>none
def Dv(s:Sc)(f i:Nat)(h:LpH)(c:MC)(xs:List AV)(bs:List ABlk):KR:=Za A D own Hn f c (B2 h.live h.n xs) ⟨C9 0 bs,bs.length,none⟩ s λr H ft s=>match r.1 with
 |.normal=>J2 h.fz r.2 H s λT H g _=>AjY D f i (Ct h.live T) H ⟨ft.rd++g.rd,ft.wr++g.wr⟩ bs.length
 |.goto _=>none
 |ax=>((J2 (h.fzo ax) r.2).bind λT=>(KM.gen (delT (h.dlo ax) T)).bind λ_=>(KM.gen (touchA (h.nt ax) (Ct (h.out ax) T))).bind λys=>KM.ret (.tup (Zq ax::ys))) H s λv H f _=>NG bs.length v H ⟨ft.rd++f.rd,ft.wr++f.wr⟩
end
end Go.Proofs.YtlmhajfbpplpoaaGreat
namespace Go.Proofs.YtlmhajfbpplpoaaGreat
open Go.RowKit
def SK{α:Type}(m:AM α)(mK:KM α):Prop:=∀ H s k r,mK H s k=some r->∃ a H' f s',m H=some (a,H',f)/\k a H' f s'=some r
section
variable {α β:Type}
theorem SK.ret(a:α):SK (AM.ret a) (KM.ret a):=λH s k r h=>⟨a,H,⟨[],[]⟩,s,rfl,h⟩
theorem SK.fail(m:AM α):SK m (KM.fail):=λH s k r h=>by cases h
theorem SK.gen(m:AM α):SK m (KM.gen m):=λH s k r h=>by
 unfold KM.gen at h;split at h
 .exact⟨_,_,_,s,‹_›,h⟩
 .cases h
theorem SK.opt:∀ o:Option α,SK (AM.opt o) (KM.opt o)
 |some a=>SK.ret a
 |none=>SK.fail _
theorem SK.bind{m:AM α}{mK:KM α}{f:α->AM β}{fK:α->KM β}(hm:SK m mK)(hf:∀ a,SK (f a) (fK a)):SK (m.bind f) (mK.bind fK):=λH s k r h=>by
 obtain⟨a,H1,f1,s1,h1,h2⟩:=hm H s _ r h;obtain⟨b,H2,f2,s2,h3,h4⟩:=hf a H1 s1 _ r h2;refine⟨b,H2,_,s2,?_,h4⟩;unfold AM.bind;simp only[h1,h3]
theorem JQ{b:Bool}{x y:KR}{r:AV × List BO}(h:br b x y=some r):(b=true/\x=some r)\/(b=false/\y=some r):=by
 cases b
 .exact .inr ⟨rfl,h⟩
 .exact .inl ⟨rfl,h⟩
theorem RV{s:Sc}{c:Bool}{x y:Sc->KR}{r:AV × List BO}(h:brS s c x y=some r):∃ s',(c=true/\x s'=some r)\/(c=false/\y s'=some r):=by
 unfold brS at h;split at h
 .rcases JQ h with⟨e,h⟩|⟨e,h⟩
  .exact⟨_,.inl ⟨e,h⟩⟩
  .exact⟨_,.inr ⟨e,h⟩⟩
 .rcases JQ h with⟨e,h⟩|⟨e,h⟩
  .exact⟨_,.inl ⟨e,h⟩⟩
  .exact⟨_,.inr ⟨e,h⟩⟩
 .rcases JQ h with⟨e,h⟩|⟨e,h⟩
  .exact⟨_,.inl ⟨e,h⟩⟩
  .cases h
 .rcases JQ h with⟨e,h⟩|⟨e,h⟩
  .cases h
  .exact⟨_,.inr ⟨e,h⟩⟩
theorem SK.brk{b:Bool}{m:AM α}{x y:KM α}(hx:b=true->SK m x)(hy:b=false->SK m y):SK m (KM.brk b x y):=λH s k r h=>by
 obtain⟨s',⟨e,h⟩|⟨e,h⟩⟩:=RV h
 .exact hx e H s' k r h
 .exact hy e H s' k r h
theorem SK.test{b:Bool}{m:AM α}{x:KM α}(hx:b=true->SK m x):SK m (KM.test b x):=λH s k r h=>by
 rcases JQ h with⟨e,h⟩|⟨e,h⟩
 .exact hx e H s k r h
 .cases h
theorem SK.unI{n:Int}{m:AM α}{f:Nat->KM α}(hf:∀ i,n=.ofNat i->SK m (f i)):SK m (KM.unI n f):=λH s k r h=>by
 unfold KM.unI Go.Proofs.YtlmhajfbpplpoaaGreat.unI at h
 cases n with
 |ofNat i=>exact hf i rfl H s k r h
 |negSucc i=>cases h
theorem SK.idx{x:AV}{m:AM α}{f:Nat->KM α}(hf:∀ i,x.idx=some i->SK m (f i)):SK m (KM.idx x f):=by
 unfold KM.idx;split
 .exact SK.unI λi e=>hf i (by rw[e];rfl)
 .exact SK.fail _
theorem SK.idxO{n:Nat}{x:Option AV}{m:AM α}{f:Nat->KM α}(hf:∀ i,ML n x=some i->SK m (f i)):SK m (KM.idxO n x f):=by
 unfold KM.idxO
 cases x with
 |none=>exact hf n rfl
 |some x=>exact SK.idx λi e=>hf i e
theorem SK.nth{xs:List (List AV)}{i:Nat}{m:AM α}{f:List AV->KM α}(hf:∀ cs,S9 xs i=some cs->SK m (f cs)):SK m (KM.nth xs i f):=λH s k r h=>by
 unfold KM.nth Br at h;split at h
 .exact hf _ ‹_› H s k r h
 .cases h
theorem SK.rd{cells:List AV}{o n:Nat}{f:List AV->AM β}{fK:List AV->KM β}{m:AM β}(hm:o+n<=cells.length->m=f ((cells.drop o).take n))(hf:∀ cs,SK (f cs) (fK cs)):SK m ((KM.rd cells o n).bind fK):=λH s k r h=>by
 unfold KM.bind KM.rd IG at h;split at h
 .rename_i e
  rw[hm (by simpa using e)];exact hf _ H s _ r (by simpa using h)
 .cases h
end
mutual
theorem LZ:∀(s:Sh) (x:AV) {K:AV->KR} {r:AV × List BO},Dr s x K=some r->K x=some r
 |.int kd,x,K,r,h=>by
  simp only[Dr,AT]at h;split at h
  .split at h
   .rename_i e;rw[←e]at h;exact h
   .cases h
  .cases h
 |.bool,x,K,r,h=>by
  simp only[Dr,AR]at h;split at h
  .exact h
  .cases h
 |.str,x,K,r,h=>by
  simp only[Dr,TT]at h;split at h
  .exact h
  .cases h
 |.ls,x,K,r,h=>by
  simp only[Dr,BX]at h;split at h
  .exact h
  .cases h
 |.lp l,x,K,r,h=>by
  simp only[Dr,AmJ]at h;split at h
  .exact h
  .exact B8 l _ h
  .cases h
 |.agg l,x,K,r,h=>by
  simp only[Dr,Au]at h;split at h
  .exact B8 l _ h
  .cases h
 |.tup l,x,K,r,h=>by
  simp only[Dr,Az]at h;split at h
  .exact B8 l _ h
  .cases h
 |.sl b e,x,K,r,h=>by
  simp only[Dr,B1]at h;split at h
  .split at h
   .rename_i e1 e2
    have e1:b=_:=Ap7 e1;have e2:e=_:=Ap7 e2;rw[←e1,←e2];exact h
   .cases h
  .cases h
 |.ptr b o,x,K,r,h=>by
  simp only[Dr,Cp]at h;split at h
  .split at h
   .rename_i e1 e2
    have e1:b=_:=Ap7 e1;have e2:o=_:=Ap7 e2;rw[←e1,←e2];exact h
   .cases h
  .cases h
 |.cst v,x,K,r,h=>by
  simp only[Dr,TR]at h;split at h
  .rename_i u
   split at h
   .rename_i e
    have:v=u:=by
     unfold Ahi at e;split at e
     .rfl
     .rfl
     .cases e
    rw[←this];exact h
   .cases h
  .cases h
 |.fnc f,x,K,r,h=>by
  simp only[Dr,Pe]at h;split at h
  .split at h
   .rename_i e
    have:=Ap7 e;subst this;exact h
   .cases h
  .cases h
 |.any,x,K,r,h=>by simpa only[Dr]using h
theorem B8:∀(l:List Sh) (cs:List AV) {K:List AV->KR} {r:AV × List BO},Cx l cs K=some r->K cs=some r
 |[],cs,K,r,h=>by
  simp only[Cx,Ad]at h;split at h
  .exact h
  .cases h
 |s::l,cs,K,r,h=>by
  have gen:(Ai cs λc r=>Dr s c λc=>Cx l r λr=>K (c::r))=some r->K cs=some r:=λh=>by
   simp only[Ai]at h;split at h
   .cases h
   .have:=B8 l _ (LZ s _ h)
    exact this
  cases s with
  |int kd=>
   simp only[Cx,At]at h;split at h
   .split at h
    .rename_i e
     have:=B8 l _ h;rw[←e]at this;exact this
    .cases h
   .cases h
  |bool=>
   simp only[Cx,Af]at h;split at h
   .have:=B8 l _ h
    exact this
   .cases h
  |str=>
   simp only[Cx,Bv]at h;split at h
   .have:=B8 l _ h
    exact this
   .cases h
  |ls=>
   simp only[Cx,As]at h;split at h
   .have:=B8 l _ h
    exact this
   .cases h
  |_=>
   simp only[Cx]at h;exact gen h
end
theorem DL:∀(l:List Os) (o:List BO) {K:List BO->KR} {r:AV × List BO},Fz l o K=some r->K o=some r
 |[],cs,K,r,h=>by
  simp only[Fz,Ac]at h;split at h
  .exact h
  .cases h
 |s::l,o,K,r,h=>by
  simp only[Fz,Am]at h;split at h
  .cases h
  .cases s with
   |keep=>
    simp only[CO]at h;split at h
    .have:=DL l _ h
     exact this
    .cases h
   |del=>
    simp only[Bn]at h;split at h
    .have:=DL l _ h
     exact this
    .cases h
   |row st=>
    simp only[AE]at h;split at h
    .split at h
     .rename_i e
      obtain⟨rfl,rfl⟩:=e;have:=DL l _ h;exact this
     .cases h
    .cases h
   |box m=>
    simp only[AE]at h;split at h
    .split at h
     .rename_i e
      obtain⟨rfl,rfl⟩:=e;have:=DL l _ (B8 m _ h);exact this
     .cases h
    .cases h
theorem SK.exp(t:Sh)(x:AV):SK (AM.ret x) (KM.exp t x):=λH s k r h=>⟨x,H,⟨[],[]⟩,s,rfl,LZ t x h⟩
theorem SK.expL(t:List Sh)(x:List AV):SK (AM.ret x) (KM.expL t x):=λH s k r h=>⟨x,H,⟨[],[]⟩,s,rfl,B8 t x h⟩
theorem SK.expO(t:List Os)(x:List BO):SK (AM.ret x) (KM.expO t x):=λH s k r h=>⟨x,H,⟨[],[]⟩,s,rfl,DL t x h⟩
theorem SK.look{α β:Type}{x:α}{mK:KM α}(hm:SK (AM.ret x) mK){f:α->AM β}{fK:α->KM β}(hf:∀ a,SK (f a) (fK a)):SK (f x) (mK.bind fK):=λH s k r h=>by
 obtain⟨a,H1,f1,s1,h1,h2⟩:=hm H s _ r h;obtain⟨rfl,rfl⟩:=Aq h1;have e:f1=⟨[],[]⟩:=by
  simp only[AM.ret,Option.some.injEq,Prod.mk.injEq]at h1;exact h1.2.2.symm
 subst e;exact hf _ _ _ _ r (by simpa using h2)
section
variable {A:Ar} {D:Orc} {own:List (Nat × Nat)} {Hn:Hnt}
theorem SK.tm(d:Option Nat)(cs:List AV):SK (AM.ret cs) (tmK Hn d cs):=by
 unfold tmK;split
 .split
  .exact SK.expL _ _
  .exact SK.ret _
 .exact SK.ret _
theorem SK.rdAt(d:Option Nat)(a:AV)(n:Nat):SK (rdAt a n) (WM Hn d a n):=by
 unfold WM;split
 .unfold Go.Proofs.YtlmhajfbpplpoaaGreat.rdAt
  refine SK.bind (SK.gen _) λk=>SK.rd (f:=λcs=>AM.ret cs) (λh=>if_pos h) λcs=>?_
  split
  .exact SK.tm _ _
  .exact SK.ret _
 .exact SK.gen _
theorem SK.load(d:Option Nat)(row:Bool)(n:Nat)(a:AV):SK (loadM row n a) (Abj Hn d row n a):=by
 cases row with
 |true=>exact SK.bind (SK.rdAt _ _ _) λ_=>SK.ret _
 |false=>exact SK.bind (SK.rdAt _ _ _) λ_=>SK.opt _
theorem SK.store(n:Nat)(a x:AV):SK (storeM n a x) (VB n a x):=by
 unfold storeM VB
 cases a with
 |ptr b o=>
  simp only;split
  .refine SK.bind (SK.gen _) λk=>?_
   by_cases h:k.st=true/\(!k.ex||A8 x.cells)=true
   .rw[if_pos h]
    refine SK.test λe=>?_
    rw[if_pos ⟨h.1,by simpa using e,h.2⟩];exact SK.bind (SK.gen _) λ_=>SK.ret _
   .rw[if_neg h]
    exact SK.fail _
  .exact SK.fail _
 |_=>exact SK.fail _
theorem SK.iaddr(d:Option Nat)(e:Nat)(x ix:AV):SK (AM.opt (NW e x ix)) (UX Hn d e x ix):=by
 unfold UX;refine SK.idx λi hi=>?_
 unfold NW;simp only[hi]
 cases x with
 |sl b o n e'=>
  simp only;refine SK.test λh=>?_
  rw[h];simp only;split
  .exact SK.ret _
  .exact SK.fail _
 |ls xs=>
  simp only;refine SK.nth λcs h=>?_
  rw[h];simp only;refine SK.look (f:=λ(cs:List AV)=>AM.opt (match Ap3 cs.length e with
   |true=>some (AV.lp cs)
   |false=>none)) (SK.tm d cs) λcs=>?_
  cases Ap3 cs.length e with
  |true=>exact SK.ret _
  |false=>exact SK.fail _
 |_=>exact SK.fail _
theorem SK.aaddr(n e:Nat)(x ix:AV):SK (AM.opt (QB n e x ix)) (Ud n e x ix):=by
 unfold Ud;refine SK.idx λi hi=>?_
 unfold QB;simp only[hi];refine SK.test λh=>?_
 rw[h];exact SK.opt _
theorem AcF{cs:List AV}{o:Nat}(h:o+1<=cs.length):Vi ((cs.drop o).take 1)=cs[o]?:=by
 have h1:o<cs.length:=h;rw[List.getElem?_eq_getElem h1,List.drop_eq_getElem_cons h1];rfl
theorem SK.index(d:Option Nat)(n e:Nat)(row:Bool)(sz:Nat)(x ix:AV):SK (AM.opt (NY n e row sz x ix)) (UZ d n e row sz x ix):=by
 unfold UZ;refine SK.idx λi hi=>?_
 unfold NY
 cases x with
 |agg cs=>
  simp only[hi];refine SK.test λh=>?_
  rw[h];simp only;unfold Te
  cases row with
  |true=>exact SK.rd (f:=λxs=>AM.ret (.agg xs)) (λ_=>rfl) λ_=>SK.ret _
  |false=>exact SK.rd (f:=λxs=>AM.opt (Vi xs)) (λh=>by rw[AcF h]) λ_=>SK.opt _
 |_=>exact SK.fail _
theorem NX{l h n:Nat}(e:J3 l h n=true):ApM l h=true/\ApM h n=true:=by
 unfold J3 at e;split at e
 .exact⟨‹_›,e⟩
 .cases e
theorem Jn{n b:Nat}(e:Bp n b=true):ApM (n*b) 140737488355328=true/\ApM n maxLen=true:=by
 unfold Bp at e;split at e
 .exact⟨‹_›,e⟩
 .cases e
theorem SK.slice(e:Nat)(x:AV)(lo hi:Option AV):SK (AM.opt (OA e x lo hi)) (Vx e x lo hi):=by
 unfold Vx OA
 cases x with
 |sl b o n e'=>
  simp only;refine SK.idxO λl hl=>SK.idxO λh hh=>SK.test λhb=>?_
  rw[hl,hh];obtain⟨h1,h2⟩:=NX hb;simp only[h1,h2]
  cases Ap3 e' e with
  |true=>exact SK.ret _
  |false=>exact SK.fail _
 |ls xs=>
  simp only;refine SK.idxO λl hl=>SK.idxO λh hh=>SK.test λhb=>SK.test λhw=>?_
  rw[hl,hh];obtain⟨h1,h2⟩:=NX hb;simp only[h1,h2,hw];exact SK.ret _
 |_=>exact SK.fail _
theorem SK.bin(b:BinOp)(x y:AV):SK (AM.opt (JP A b x y)) (AiT A b x y):=by
 unfold AiT;split
 .rename_i k a k' c
  cases b with
  |shl=>
   simp only;refine SK.brk (λ_=>SK.fail _) λh=>?_
   simp only[JP,h];exact SK.ret _
  |shr=>
   simp only;refine SK.brk (λ_=>SK.fail _) λh=>?_
   simp only[JP,h];exact SK.ret _
  |quo=>
   simp only;split
   .rename_i e
    refine SK.brk (λ_=>SK.fail _) λh=>?_
    simp only[JP,h,if_pos e];exact SK.ret _
   .exact SK.fail _
  |rem=>
   simp only;split
   .rename_i e
    refine SK.brk (λ_=>SK.fail _) λh=>?_
    simp only[JP,h,if_pos e];exact SK.ret _
   .exact SK.fail _
  |neq=>
   simp only;split
   .rename_i e
    refine SK.brk (λh=>?_) λh=>?_<;>(simp only[JP,h,if_pos e];exact SK.ret _)
   .exact SK.fail _
  |_=>exact SK.opt _
 .cases b with
  |neq=>
   simp only;refine SK.brk (λh=>?_) λh=>?_<;>(simp only[JP,h];exact SK.ret _)
  |add=>
   simp only;refine SK.test λh=>?_
   simp only[JP,h];exact SK.ret _
  |_=>exact SK.opt _
 .exact SK.opt _
theorem SK.sidx(x i:AV):SK (AM.opt (TA A x i)) (Aco A x i):=by
 unfold Aco;split
 .refine SK.idx λj hj=>SK.test λh=>?_
  simp only[TA,hj,h];exact SK.ret _
 .exact SK.fail _
theorem SK.sslice(x:AV)(lo hi:Option AV):SK (AM.opt (KJ A x lo hi)) (RB A x lo hi):=by
 unfold RB;split
 .refine SK.idxO λl hl=>SK.idxO λh hh=>SK.test λhb=>?_
  obtain⟨h1,h2⟩:=NX hb;simp only[KJ,hl,hh,h1,h2];exact SK.ret _
 .exact SK.fail _
theorem SK.news(e:Nat)(x:AV):SK (newsM e x) (Wz e x):=by
 unfold Wz newsM
 cases x with
 |sl b o n e'=>
  simp only;split
  .refine SK.bind (SK.gen _) λk=>SK.test λh=>?_
   rw[h]
   cases (k.ex||A8 ((k.cells.drop o).take (n*e))) with
   |true=>exact SK.ret _
   |false=>exact SK.fail _
  .exact SK.fail _
 |ls xs=>
  simp only;refine SK.test λh=>?_
  rw[h];exact SK.ret _
 |v z=>
  cases z with
  |slice a n c=>
   cases a with
   |none=>
    cases n with
    |zero=>
     cases c with
     |zero=>exact SK.ret _
     |succ c=>exact SK.fail _
    |succ n=>exact SK.fail _
   |some a=>exact SK.fail _
  |_=>exact SK.fail _
 |_=>exact SK.fail _
theorem SK.app(e bytes:Nat)(s x:AV):SK (appM e bytes s x) (AiL e bytes s x):=by
 unfold AiL appM;refine SK.bind (SK.news e x) λr=>SK.brk (λh=>?_) λh=>SK.test λh2=>?_
 .rw[h]
  simp only;split
  .exact SK.ret _
  .exact SK.fail _
 .rw[h,h2]
  simp only;unfold Agl
  cases s with
  |sl b o n e'=>
   simp only
   cases he:Ap3 e' e with
   |false=>exact SK.fail _
   |true=>
    simp only;refine SK.test λh3=>?_
    obtain⟨h4,h5⟩:=Jn h3;simp only[h4,h5];refine SK.bind (SK.gen _) λk=>?_
    cases k.ex with
    |false=>exact SK.fail _
    |true=>
     cases k.st with
     |true=>
      simp only;refine SK.test λh6=>?_
      cases Ap3 (o+n*e) k.cells.length with
      |true=>exact SK.bind (SK.gen _) λ_=>SK.bind (SK.gen _) λ_=>SK.ret _
      |false=>
       simp only[h6];exact SK.bind (SK.gen _) λ_=>SK.bind (SK.gen _) λ_=>SK.ret _
     |false=>
      simp only;refine SK.test λh6=>?_
      rw[h6];exact SK.bind (SK.gen _) λ_=>SK.bind (SK.gen _) λ_=>SK.ret _
  |v z=>
   cases z with
   |slice a n c=>
    cases a with
    |none=>
     cases n with
     |zero=>
      cases c with
      |zero=>
       refine SK.test λh3=>?_
       obtain⟨h4,h5⟩:=Jn h3;simp only[h4,h5];exact SK.bind (SK.gen _) λ_=>SK.ret _
      |succ c=>exact SK.fail _
     |succ n=>exact SK.fail _
    |some a=>exact SK.fail _
   |_=>exact SK.fail _
  |_=>exact SK.fail _
theorem SK.mksl(z:List Value)(e b:Nat)(l c:AV):SK (mkslM z e b l c) (Abq z e b l c):=by
 unfold Abq mkslM;refine SK.idx λn hn=>SK.idx λm hm=>SK.test λh1=>SK.test λh2=>?_
 obtain⟨h3,h4⟩:=Jn h2;simp only[hn,hm,h1,h3,h4];exact SK.bind (SK.gen _) λ_=>SK.ret _
theorem SK.cpy(e:Nat)(d x:AV):SK (cpyM e d x) (Ai1 e d x):=by
 unfold Ai1 cpyM
 cases d with
 |sl b o n e'=>
  simp only
  cases Ap3 e' e with
  |false=>exact SK.fail _
  |true=>
   simp only;refine SK.bind (SK.news e x) λr=>SK.test λh=>?_
   rw[h];simp only;refine SK.bind (SK.gen _) λk=>?_
   cases k.st with
   |false=>exact SK.fail _
   |true=>
    simp only;refine SK.test λh2=>?_
    rw[h2];exact SK.bind (SK.gen _) λ_=>SK.ret _
 |_=>exact SK.fail _
theorem SK.clr(z:List Value)(e:Nat)(x:AV):SK (clrM z e x) (Ai0 z e x):=by
 unfold Ai0 clrM
 cases x with
 |sl b o n e'=>
  simp only
  cases Ap3 e' e with
  |false=>exact SK.fail _
  |true=>
   simp only;refine SK.bind (SK.gen _) λk=>?_
   cases k.st with
   |false=>exact SK.fail _
   |true=>
    simp only;refine SK.test λh2=>?_
    rw[h2];exact SK.bind (SK.gen _) λ_=>SK.ret _
 |_=>exact SK.fail _
mutual
theorem SK.frz:∀(n:Nat) (x:AV),SK (frz n x) (Sb n x)
 |0,x=>by
  unfold Sb Go.Proofs.YtlmhajfbpplpoaaGreat.frz;exact SK.gen _
 |n+1,x=>by
  unfold Sb Go.Proofs.YtlmhajfbpplpoaaGreat.frz
  cases x with
  |v z=>exact SK.ret _
  |sl b o m e=>
   simp only;refine SK.bind (SK.gen _) λk=>SK.test λh=>?_
   rw[h];simp only;refine SK.bind ?_ λ_=>?_
   .cases k.st with
    |true=>exact SK.gen _
    |false=>exact SK.ret _
   .cases (k.ex||A8 ((k.cells.drop o).take (m*e))) with
    |true=>exact SK.ret _
    |false=>
     simp only;refine SK.bind (SK.frzL n _) λcs=>?_
     cases A8 cs with
     |true=>exact SK.ret _
     |false=>exact SK.fail _
  |agg cs=>exact SK.bind (SK.frzL n _) λ_=>SK.ret _
  |tup cs=>exact SK.bind (SK.frzL n _) λ_=>SK.ret _
  |_=>exact SK.ret _
theorem SK.frzL:∀(n:Nat) (l:List AV),SK (frzL n l) (J1 n l)
 |n,[]=>by
  unfold J1 Go.Proofs.YtlmhajfbpplpoaaGreat.frzL;exact SK.ret _
 |0,_::_=>by
  unfold J1;exact SK.fail _
 |n+1,x::r=>by
  unfold J1 Go.Proofs.YtlmhajfbpplpoaaGreat.frzL;exact SK.bind (SK.frz n x) λ_=>SK.bind (SK.frzL n r) λ_=>SK.ret _
end
theorem SK.frzB(b:Nat):SK (frzB b) (AaA b):=by
 unfold AaA Go.Proofs.YtlmhajfbpplpoaaGreat.frzB;refine SK.bind (SK.gen _) λk=>?_
 cases k.ex<;>cases k.st<;>try exact SK.ret _
 refine SK.bind (SK.frzL _ _) λcs=>SK.bind (SK.gen _) λk2=>?_
 cases k2.ex<;>cases Ap3 cs.length k2.cells.length<;>first
  |exact SK.gen _
  |exact SK.fail _
theorem SK.frzT:∀(l:List Nat) (T:List AV),SK (frzT l T) (J2 l T)
 |[],T=>SK.ret _
 |t::r,T=>by
  unfold J2 Go.Proofs.YtlmhajfbpplpoaaGreat.frzT
  cases T[t]? with
  |none=>exact SK.frzT r T
  |some x=>
   cases x with
   |ptr b o=>exact SK.bind (SK.frzB b) λ_=>SK.frzT r T
   |_=>exact SK.bind (SK.frz _ _) λ_=>SK.frzT r _
theorem SK.frzA(f:Nat):∀(i:Nat) (l:List AV),SK (frzA own f i l) (PE own f i l)
 |i,[]=>by
  unfold PE Go.Proofs.YtlmhajfbpplpoaaGreat.frzA;exact SK.ret _
 |i,x::r=>by
  unfold PE Go.Proofs.YtlmhajfbpplpoaaGreat.frzA
  cases AbL own f i with
  |true=>exact SK.bind (SK.frzA f (i+1) r) λ_=>SK.ret _
  |false=>exact SK.bind (SK.frz 1000 x) λ_=>SK.bind (SK.frzA f (i+1) r) λ_=>SK.ret _
theorem SK.ask(key:Key)(args:List AV)(bs:List ABlk):SK (AM.opt (D.ask key args bs)) (KM.ask D key args bs):=λH s k r h=>by
 unfold KM.ask Ae at h;split at h
 .rename_i q e
  rw[e];exact⟨q,H,⟨[],[]⟩,s,rfl,h⟩
 .cases h
theorem SK.callD(key:Key){e:AV × List BO->KM (AV × List BO)}(he:∀ q,SK (AM.ret q) (e q))(args:List AV):SK (callD (D.ask key) args) (QQ D key e args):=by
 unfold QQ Go.Proofs.YtlmhajfbpplpoaaGreat.callD;refine SK.bind (SK.gen _) λL=>SK.bind (SK.gen _) λbs=>SK.bind ?_ λr=>?_
 .intro H s k r h
  obtain⟨a,H1,f1,s1,h1,h2⟩:=SK.ask key _ _ H s _ r h;obtain⟨b,H2,f2,s2,h3,h4⟩:=he a H1 s1 _ r h2;obtain⟨rfl,rfl⟩:=Aq h3;refine⟨_,_,_,s2,h1,?_⟩;simp only[AM.ret,Option.some.injEq,Prod.mk.injEq]at h3;rw[←h3.2.2]at h4;simpa using h4
 .cases Nl r.2.length r.1.ids with
  |false=>exact SK.fail _
  |true=>
   cases QH r.2.length r.2 with
   |false=>exact SK.fail _
   |true=>exact SK.bind (SK.gen _) λ_=>SK.bind (SK.gen _) λ_=>SK.bind (SK.gen _) λ_=>SK.ret _
theorem SK.ansF(f:Nat)(q:AV × List BO):SK (AM.ret q) (ansF Hn f q):=by
 unfold Go.Proofs.YtlmhajfbpplpoaaGreat.ansF;split
 .exact SK.look (f:=λx=>AM.ret (x,q.2)) (SK.exp _ _) λx=>SK.look (f:=λo=>AM.ret (x,o)) (SK.expO _ _) λ_=>SK.ret _
 .exact SK.ret _
theorem SK.calls(f:FuncId)(args:List AV):SK (callsM D own f args) (QR D own Hn f args):=by
 unfold QR callsM;exact SK.bind (SK.frzA f 0 args) λl=>SK.callD _ (SK.ansF f) l
theorem AdD{k:Nat}{x:AV}(h:Bi k x=true):x=Zs k:=by
 unfold Bi at h;split at h
 .rfl
 .rename_i i j
  have:i=j:=Ap7 h;rw[this];rfl
 .cases h
theorem SK.ansX:∀(l:List (Nat × (List Sh × List Os))) (x:AV) (ys:List AV) (o:List BO),SK (AM.ret (.tup (x::ys),o)) (ansX l x ys o)
 |[],_,_,_=>SK.fail _
 |(k,s,l)::r,x,ys,o=>by
  unfold Go.Proofs.YtlmhajfbpplpoaaGreat.ansX;refine SK.brk (λh=>?_) λ_=>SK.ansX r x ys o
  have hx:x=Zs k:=AdD h;rw[←hx];exact SK.look (f:=λys=>AM.ret (AV.tup (x::ys),o)) (SK.expL _ _) λys=>SK.look (f:=λo=>AM.ret (AV.tup (x::ys),o)) (SK.expO _ _) λ_=>SK.ret _
theorem SK.ansL(i:Nat)(q:AV × List BO):SK (AM.ret q) (ansL Hn i q):=by
 unfold Go.Proofs.YtlmhajfbpplpoaaGreat.ansL;split
 .rename_i l _
  intro H s k r h;obtain⟨v,o⟩:=q
  cases v with
  |tup cs=>
   cases cs with
   |nil=>cases h
   |cons x ys=>exact SK.ansX l x ys o H s k r h
  |_=>cases h
 .exact SK.ret _
theorem SK.loops(f i:Nat)(xs:List AV):SK (loopsM D f i xs) (U6 D Hn f i xs):=by
 unfold U6 loopsM;refine SK.bind (SK.callD _ (SK.ansL i) xs) λr=>?_
 cases r with
 |tup vs=>
  cases vs with
  |nil=>exact SK.fail _
  |cons x ys=>
   simp only
   cases Uh x with
   |some ax=>exact SK.ret _
   |none=>exact SK.fail _
 |_=>exact SK.fail _
theorem SK.op(d:Option Nat)(o:MO)(T:List AV):SK (mop A (callsM D own) o T) (opK A D own Hn d o T):=by
 cases o with
 |pick c a b=>
  simp only[opK,mop]
  cases AU T c with
  |v u=>
   cases u with
   |bool t=>
    simp only;refine SK.brk (λh=>?_) λh=>?_<;>(subst h;exact SK.ret _)
   |_=>exact SK.fail _
  |_=>exact SK.fail _
 |ld row n a=>exact SK.load _ _ _ _
 |st n a x=>exact SK.store _ _ _
 |bin ek b x y=>
  cases ek with
  |zero=>exact SK.bin _ _ _
  |succ n=>exact SK.opt _
 |slice e x lo hi=>exact SK.slice _ _ _ _
 |iaddr e x i=>exact SK.iaddr _ _ _ _
 |aaddr n e x i=>exact SK.aaddr _ _ _ _
 |index n e row sz x i=>exact SK.index d _ _ _ _ _ _
 |mksl z e b l c=>exact SK.mksl _ _ _ _ _
 |app e b s x=>exact SK.app _ _ _ _
 |cpy e d x=>exact SK.cpy _ _ _
 |clr z e x=>exact SK.clr _ _ _
 |sidx x i=>exact SK.sidx _ _
 |sslice x lo hi=>exact SK.sslice _ _ _
 |callF f args=>exact SK.calls _ _
 |callV ents x args=>
  simp only[opK,mop]
  cases AU T x with
  |fn f a cs=>
   cases f with
   |func g=>
    simp only
    cases ents.testBit g with
    |true=>exact SK.calls _ _
    |false=>exact SK.fail _
   |_=>exact SK.fail _
  |_=>exact SK.fail _
 |_=>exact SK.gen _
theorem SK.core(o:MOp)(T:List AV):SK (coreM A (callsM D own) o T) (ZL A D own Hn o T):=by
 unfold ZL coreM TZ
 cases o.g with
 |none=>exact SK.op _ _ _
 |some g=>
  obtain⟨d,want⟩:=g;simp only
  cases e:T[d]? with
  |none=>exact SK.fail _
  |some x=>
   cases x with
   |v u=>
    cases u with
    |bool b=>
     simp only
     cases want with
     |true=>
      refine SK.brk (λh=>?_) λh=>?_<;>subst h
      .exact SK.op _ _ _
      .exact SK.ret _
     |false=>
      simp only;refine SK.brk (λh=>?_) λh=>?_<;>rw[h]
      .exact SK.op _ _ _
      .exact SK.ret _
    |tuple t=>exact SK.ret _
    |_=>exact SK.fail _
   |_=>exact SK.fail _
theorem Ad5{e:Bool}{x:AV}{s:Sc}{k:AV->Sc->KR}{r:AV × List BO}(h:gB e x s k=some r):∃ s',k x s'=some r:=by
 unfold gB at h;split at h
 .obtain⟨s',⟨e,h2⟩|⟨e,h2⟩⟩:=RV h<;>(subst e;exact⟨s',h2⟩)
 .exact⟨s,h⟩
theorem SK.run:∀(l:List MOp) (T:List AV) (H:AH) (s:Sc) (k:List AV->AH->List Foot->Sc->KR) (r:AV × List BO),Afn A D own Hn l T H s k=some r->∃ T' H' fs s',runM A (callsM D own) l T H=some (T',H',fs)/\k T' H' fs s'=some r
 |[],T,H,s,k,r,h=>⟨T,H,[],s,rfl,h⟩
 |o::l,T,H,s,k,r,h=>by
  simp only[Afn]at h;obtain⟨v,H1,f,s1,h1,h2⟩:=SK.core o T H s _ r h;simp only[AaC,UQ,Aja,AkU]at h2;obtain⟨s2,h2⟩:=Ad5 h2;obtain⟨T',H',fs,s3,h3,h4⟩:=SK.run l _ _ _ _ r h2;refine⟨T',H',f::fs,s3,?_,h4⟩;simp only[runM,h1,h3]
theorem SK.reg(ops:List MOp)(bf:Option (List Nat))(T:List AV):SK (regM A (callsM D own) ops bf T) (AjZ A D own Hn ops bf T):=λH s k r h=>by
 unfold AjZ at h;obtain⟨T',H',fs,s',h1,h2⟩:=SK.run ops T H s _ r h;unfold regM;rw[h1]
 cases bf with
 |none=>exact⟨_,_,_,s',rfl,h2⟩
 |some bf=>
  simp only at h2 ⊢;split at h2
  .rename_i e
   rw[e];exact⟨_,_,_,s',rfl,h2⟩
  .cases h2
theorem SK.ev(f:Nat):∀(c:MC) (T:List AV),SK (evC A (callsM D own) (loopsM D f) c T) (Za A D own Hn f c T)
 |.skip,T=>SK.ret _
 |.reg ops bf,T=>SK.reg _ _ _
 |.seq a b,T=>by
  unfold Za evC;refine SK.bind (SK.ev f a T) λr=>?_
  obtain⟨ax,T1⟩:=r
  cases ax with
  |normal=>exact SK.ev f b _
  |_=>exact SK.ret _
 |.cond c a b,T=>by
  unfold Za evC
  cases AU T c with
  |v u=>
   cases u with
   |bool t=>
    simp only;refine SK.brk (λh=>?_) λh=>?_<;>subst h
    .exact SK.ev f a T
    .exact SK.ev f b T
   |_=>exact SK.fail _
  |_=>exact SK.fail _
 |.block id c,T=>by
  unfold Za evC;refine SK.bind (SK.ev f c T) λr=>?_
  obtain⟨ax,T1⟩:=r
  cases ax with
  |exit i=>
   simp only
   by_cases e:i=id
   .rw[if_pos e,if_pos e];exact SK.ret _
   .rw[if_neg e,if_neg e];exact SK.ret _
  |_=>exact SK.ret _
 |.loop i h,T=>by
  unfold Za evC;refine SK.bind (SK.gen _) λT=>SK.bind (SK.frzT _ _) λT=>?_
  cases Ap3 T.length h.n with
  |true=>exact SK.bind (SK.loops f i _) λ_=>SK.ret _
  |false=>exact SK.fail _
 |.exit id,T=>SK.ret _
 |.ret,T=>SK.ret _
 |.bad,T=>SK.fail _
theorem SK.res(T:List AV):∀ l,SK (resM T l) (Ab0 Hn T l)
 |[]=>SK.ret _
 |.tmp _::r=>SK.bind (SK.res T r) λ_=>SK.ret _
 |.cell _ _ _::r=>SK.bind (SK.load _ _ _ _) λ_=>SK.bind (SK.res T r) λ_=>SK.ret _
theorem Ai6{m:List AV->AM AV}{mK:KM AV}{args:List AV}{bs:List ABlk}{r:AV × List BO}(hm:SK (m args) mK)(s:Sc)(h:mK ⟨C9 0 bs,bs.length,none⟩ s (λv H ft _=>NG bs.length v H ft)=some r):OV (EM m) args bs=some r:=by
 obtain⟨v,H',ft,s',h1,h2⟩:=hm _ _ _ _ h;unfold OV EM;rw[h1];exact h2
theorem Ai8{f:Nat}{mf:MFn}{args:List AV}{bs:List ABlk}{r:AV × List BO}(s:Sc)(h:BI A D own Hn s f mf args bs=some r):OV (EM (fnM A D own f mf)) args bs=some r:=by
 unfold BI at h;refine Ai6 ?_ s h;unfold fnM;have fin:∀ T,SK ((resM T mf.res).bind λl=>(match mf.own with
   |true=>AM.ret (IU l)
   |false=>frz 1000 (IU l)).bind λv=>match mf.tch with
    |true=>(touchI (Es args)).bind λ_=>AM.ret v
    |false=>AM.ret v) ((Ab0 Hn T mf.res).bind λl=>(match mf.own with
   |true=>KM.ret (IU l)
   |false=>Sb 1000 (IU l)).bind λv=>match mf.tch with
    |true=>(KM.gen (touchI (Es args))).bind λ_=>KM.ret v
    |false=>KM.ret v):=λT=>by
  refine SK.bind (SK.res _ _) λl=>SK.bind ?_ λv=>?_
  .cases mf.own with
   |true=>exact SK.ret _
   |false=>exact SK.frz _ _
  .cases mf.tch with
   |true=>exact SK.bind (SK.gen _) λ_=>SK.ret _
   |false=>exact SK.ret _
 refine SK.bind (SK.ev f _ _) λr=>?_
 obtain⟨ax,T1⟩:=r
 cases ax with
 |exit i=>exact SK.fail _
 |goto l=>exact SK.fail _
 |normal=>exact fin T1
 |ret=>exact fin T1
theorem MR{α β:Type}{m:AM α}{f:α->AM β}{H H1 H2:AH}{a:α}{b:β}{f1 f2:Foot}(h1:m H=some (a,H1,f1))(h2:f a H1=some (b,H2,f2)):(m.bind f) H=some (b,H2,⟨f1.rd++f2.rd,f1.wr++f2.wr⟩):=by
 unfold AM.bind;simp only[h1,h2]
theorem Sm(n b:Nat)(hb:b<n):∀ l,Fr b (AbB n l)=Fr b l
 |[]=>rfl
 |x::r=>by
  have ih:=Sm n b hb r;unfold AbB;split
  .unfold Fr
   rw[ih]
  .rename_i h
   rw[ih]
   conv=>rhs;unfold Fr
   cases e:Ap3 b x with
   |false=>rfl
   |true=>
    have e:b=x:=Ap7 e;subst e;have h1:AqO b n=true:=by rw[Xm];simpa using hb
    cases h2:Fr b r with
    |true=>rfl
    |false=>exact absurd h2 (h h1)
theorem Sl(b:Nat)(l m:List Nat):Fr b (l++m)=(Fr b l||Fr b m):=by
 simp only[Q7];simp
theorem UN{n:Nat}{r:AV}{H:AH}{f1 f2:Foot}(h:∀ b,b<n->Fr b f1.wr=Fr b f2.wr):NG n r H f1=NG n r H f2:=by
 have:(DS 0 n).map (Vk H f1.wr)=(DS 0 n).map (Vk H f2.wr):=by
  refine List.map_congr_left λb hb=>?_
  obtain⟨i,hi⟩:=List.getElem?_of_mem hb;rw[Jp]at hi;split at hi
  .simp only[Option.some.injEq]at hi
   unfold Vk;rw[h b (by omega)]
  .cases hi
 unfold NG;rw[this]
theorem Aff{f i n:Nat}{xs:List AV}{H:AH}{ft:Foot}{r:AV × List BO}(h:AjY D f i xs H ft n=some r):∃ q H' f',loopsM D f i xs H=some (q,H',f')/\NG n (.tup (Zq q.1::q.2)) H' ⟨ft.rd++f'.rd,ft.wr++f'.wr⟩=some r:=by
 unfold AjY at h;split at h
 .rename_i L H1 f1 e1
  split at h
  .rename_i bs H2 f2 e2
   unfold Ae at h;split at h
   .rename_i q e3
    obtain⟨v,o⟩:=q;simp only at h;unfold AN at h
    cases c1:Nl o.length v.ids<;>cases c2:QH o.length o<;>rw[c1,c2]at h<;>try (cases h;done)
    simp only at h;split at h
    .rename_i x ys H' f' e4
     split at h
     .rename_i ax e5
      have t1:=(M6 _ _ _ _ e1).1;have t2:=(Jz _ e2).1;rw[t1]at e1;rw[t2]at e2;refine⟨(ax,ys),H',_,MR (MR e1 (MR e2 (MR (a:=(v,o)) (H1:=H) (f1:=⟨[],[]⟩) (by rw[e3];rfl) (b:=.tup (x::ys)) (H2:=H') (f2:=f') ?_))) (b:=(ax,ys)) (H2:=H') (f2:=⟨[],[]⟩) ?_,?_⟩
      .simp only[c1,c2]
       exact e4
      .simp only[e5]
       rfl
      .rw[←h]
       refine UN λb hb=>?_
       simp only[Sl,Sm n b hb,AqH,Ap4,Bool.or_assoc]
     .cases h
    .cases h
   .cases h
  .cases h
 .cases h
theorem Ajs{f i:Nat}{q:LpH}{c:MC}{xs:List AV}{bs:List ABlk}{r:AV × List BO}(s:Sc)(h:Dv A D own Hn s f i q c xs bs=some r):OV (EM (lpM A D own f i q c)) xs bs=some r:=by
 have key:∀ v H' ft,lpM A D own f i q c xs ⟨C9 0 bs,bs.length,none⟩=some (v,H',ft)->NG bs.length v H' ft=some r->OV (EM (lpM A D own f i q c)) xs bs=some r:=λv H' ft h1 h2=>by
  unfold OV EM;rw[h1];exact h2
 unfold Dv at h;obtain⟨⟨ax,T1⟩,H1,f1,s1,h1,h2⟩:=SK.ev f c _ _ s _ r h;have out:∀(ax:AX),((J2 (q.fzo ax) T1).bind λT=>(KM.gen (delT (q.dlo ax) T)).bind λ_=>(KM.gen (touchA (q.nt ax) (Ct (q.out ax) T))).bind λys=>KM.ret (.tup (Zq ax::ys))) H1 s1 (λv H f _=>NG bs.length v H ⟨f1.rd++f.rd,f1.wr++f.wr⟩)=some r->∃ v H' f,((frzT (q.fzo ax) T1).bind λT=>(delT (q.dlo ax) T).bind λ_=>(touchA (q.nt ax) (Ct (q.out ax) T)).bind λys=>AM.ret (.tup (Zq ax::ys))) H1=some (v,H',f)/\NG bs.length v H' ⟨f1.rd++f.rd,f1.wr++f.wr⟩=some r:=λax h=>by
  obtain⟨v,H',f,s2,h3,h4⟩:=(SK.bind (SK.frzT (q.fzo ax) T1) λT=>SK.bind (SK.gen _) λ_=>SK.bind (SK.gen _) λys=>SK.ret (AV.tup (Zq ax::ys))) H1 s1 _ r h;exact⟨v,H',f,h3,h4⟩
 cases ax with
 |normal=>
  obtain⟨T2,H2,f2,s2,h5,h6⟩:=SK.frzT q.fz T1 H1 s1 _ r h2;obtain⟨p,H',f',h3,h4⟩:=Aff h6;refine key _ H' _ ?_ h4;unfold lpM;simp only[AM.bind,h1,h5,h3,AM.ret,AqH,List.append_assoc]
 |goto l=>cases h2
 |exit k=>
  obtain⟨v,H',f',h3,h4⟩:=out _ h2;refine key v H' _ ?_ h4;unfold lpM;rw[AM.bind,h1];simp only;rw[h3]
 |ret=>
  obtain⟨v,H',f',h3,h4⟩:=out _ h2;refine key v H' _ ?_ h4;unfold lpM;rw[AM.bind,h1];simp only;rw[h3]
end
section
variable {A:Ar} {M:Seat}
theorem AiM(Hn:Hnt)(s:Sc){f:Nat}{mf:MFn}(he:M.ext f=none)(hf:M.fns f=some mf){args:List AV}{bs:List ABlk}{r:AV × List BO}(h:BI A (Bo A M) M.own Hn s f mf args bs=some r):(Bo A M).ask (.fn f) args bs=some r:=Afz he hf (Ai8 s h)
theorem AiN(Hn:Hnt)(s:Sc){f i:Nat}{mf:MFn}{q:LpH}{c:MC}(hf:M.fns f=some mf)(hl:mf.loops[i]? = some (q,c)){args:List AV}{bs:List ABlk}{r:AV × List BO}(h:Dv A (Bo A M) M.own Hn s f i q c args bs=some r):(Bo A M).ask (.lp f i) args bs=some r:=AfA hf hl (Ajs s h)
end
end Go.Proofs.YtlmhajfbpplpoaaGreat
namespace Go.Proofs.YtlmhajfbpplpoaaGreat
open Go.RowKit
def iv(n:Int):AV:=.v (.int .i64 n)
def bv(b:Bool):AV:=.v (.bool b)
def sv(s:ByteArray):AV:=.v (.string s)
def AI(l:List UInt8):ByteArray:=⟨l.toArray⟩
def AbF(P:Program)(f:Nat):Bool:=match P.funcs[f]? with
 |some fn=>(match fn.body with
  |some c=>KU c&&okR P fn.results.toList
  |none=>false)
 |none=>false
def MK(P:Program)(ents:Nat)(hs:Be)(ownR tch:Bool)(f:Nat):MFn:=match P.funcs[f]? with
 |some fn=>(match fn.body with
  |some c=>⟨fn.ntmps,IZ P fn.results.toList,(Bw P ents hs c 0).1,(Bw P ents hs c 0).2,ownR,tch⟩
  |none=>⟨0,[],.bad,[],false,false⟩)
 |none=>⟨0,[],.bad,[],false,false⟩
theorem Ad2{P:Program}{ents:Nat}{hs:Be}{ownR tch:Bool}{f:Nat}(h:AbF P f=true):FnOk P ents f (MK P ents hs ownR tch f):=by
 unfold AbF at h
 cases e1:P.funcs[f]? with
 |none=>rw[e1]at h;cases h
 |some fn=>
  rw[e1]at h;simp only at h
  cases e2:fn.body with
  |none=>rw[e2]at h;cases h
  |some c=>
   rw[e2]at h;simp only[ApF]at h;refine⟨fn,c,hs,e1,e2,h.1,h.2,?_⟩;unfold MK;rw[e1];simp only[e2];exact⟨trivial,trivial,trivial,trivial⟩
structure Knows (own:List (Nat × Nat)) (L:List (Nat × MFn)) (D:Orc):Prop where
 fn:∀(Hn:Hnt) (s:Sc) (f:Nat) (mf:MFn) (args:List AV) (bs:List ABlk) (r:AV × List BO),CL f L=some mf->BI Aj D own Hn s f mf args bs=some r->D.ask (.fn f) args bs=some r
 lp:∀(Hn:Hnt) (s:Sc) (f i:Nat) (mf:MFn) (q:LpH) (c:MC) (args:List AV) (bs:List ABlk) (r:AV × List BO),CL f L=some mf->mf.loops[i]? = some (q,c)->Dv Aj D own Hn s f i q c args bs=some r->D.ask (.lp f i) args bs=some r
def AW(mf:MFn)(i:Nat):LpH × MC:=(mf.loops[i]?).getD (⟨0,[],[],[],[]⟩,.bad)
theorem Knows.fn'{own:List (Nat × Nat)}{L:List (Nat × MFn)}{D:Orc}(K:Knows own L D)(Hn:Hnt)(s:Sc){f:Nat}{mf:MFn}{args:List AV}{bs:List ABlk}{r:AV × List BO}(h1:CL f L=some mf)(h:BI Aj D own Hn s f mf args bs=some r):D.ask (.fn f) args bs=some r:=K.fn Hn s f mf args bs r h1 h
theorem Knows.lp'{own:List (Nat × Nat)}{L:List (Nat × MFn)}{D:Orc}(K:Knows own L D)(Hn:Hnt)(s:Sc){f i:Nat}{mf:MFn}{args:List AV}{bs:List ABlk}{r:AV × List BO}(h1:CL f L=some mf)(h2:(mf.loops[i]?).isSome=true)(h:Dv Aj D own Hn s f i (AW mf i).1 (AW mf i).2 args bs=some r):D.ask (.lp f i) args bs=some r:=by
 obtain⟨⟨q,c⟩,e⟩:=Option.isSome_iff_exists.1 h2;refine K.lp Hn s f i mf q c args bs r h1 e ?_;unfold AW at h;rw[e]at h;exact h
theorem Cq{α:Type}{f:Nat}{a:α}:∀{L:List (Nat × α)},CL f L=some a->(f,a)∈L
 |[],h=>by cases h
 |(m,b)::r,h=>by
  unfold CL at h
  cases e:Ap3 f m with
  |true=>
   rw[e]at h;simp only[Option.some.injEq]at h;have:=Ap7 e;subst this;subst h;exact List.mem_cons_self
  |false=>
   rw[e]at h;exact List.mem_cons_of_mem _ (Cq h)
def Mn(own:List (Nat × Nat))(L:List (Nat × MFn))(X:List (Nat × DF)):Seat:=⟨λf=>CL f L,own,λf=>CL f X⟩
def Ams(L:List (Nat × MFn))(X:List (Nat × DF)):Bool:=L.all λp=>(CL p.1 X).isNone
theorem BK{own:List (Nat × Nat)}{L L':List (Nat × MFn)}{X:List (Nat × DF)}(hs:∀ f mf,CL f L'=some mf->CL f L=some mf)(hx:Ams L' X=true):Knows own L' (Bo Aj (Mn own L X)) where
 fn Hn s f mf args bs r h1 h2:=AiM (M:=Mn own L X) Hn s (by
  have:=List.all_eq_true.1 hx _ (Cq h1);exact Option.isNone_iff_eq_none.1 this) (hs f mf h1) h2
 lp Hn s f i mf q c args bs r h1 h2 h3:=AiN (M:=Mn own L X) Hn s (hs f mf h1) h2 h3
end Go.Proofs.YtlmhajfbpplpoaaGreat
namespace Go.Proofs.YtlmhajfbpplpoaaGreat
open Go.RowKit
section
variable {μ:Mu} {F:AP} {w w':World}
theorem D7(F:AP)(h:Below w.heap.size w w'):WStep F w w':=
 ⟨h.os,h.tape,h.output,h.size,λg o ho=>⟨o,by
  have hg:g<w.heap.size:=by
   by_cases hg:g<w.heap.size
   .exact hg
   .rw[Array.getElem?_eq_none (by omega)]at ho;cases ho
  exact(h.block g hg).trans ho,ObjStep.refl _ o⟩⟩
def Yd(F:AP)(w w':World):AP:=λg o=>F g o\/(w.heap.size<=g/\g<w'.heap.size)
theorem Mc{H:Nat->Option ABlk}(hH:HRep μ F w H)(h:Below w.heap.size w w'):Later μ μ F (Yd F w w') w w':=
 ⟨λ_ _ h=>h,λg o hg=>⟨.inl hg,(D7 F h).cell hg (hH.prot g o hg)⟩⟩
theorem UW{H:Nat->Option ABlk}(hH:HRep μ F w H)(h:Below w.heap.size w w'):HRep μ (Yd F w w') w' H:=by
 have hl:=Mc hH h;have same:∀ g o,g<w.heap.size->w'.cell? ⟨g,o,none⟩=w.cell? ⟨g,o,none⟩:=λg o hg=>h.cell (p:=⟨g,o,none⟩) hg
 have st:=D7 (λ_ _=>False) h;refine⟨λb k hb=>?_,hH.apart,λg o hg=>?_⟩
 .obtain⟨p,hp,B⟩:=hH.blk b k hb
  refine⟨p,hp,?_,B.room,?_,λh0 i hi=>.inl (B.kept h0 i hi),?_,B.pure⟩
  .intro i x hx
   obtain⟨u,h1,h2⟩:=B.cell i x hx;exact⟨u,(same _ _ (Dy h1)).trans h1,h2.later hl⟩
  .intro i hi
   obtain⟨⟨u,h1⟩,h2⟩:=B.there i hi;exact⟨⟨u,(same _ _ (Dy h1)).trans h1⟩,(st.frozen (Dy h1)).trans h2⟩
  .rintro i hi (hf|⟨hf,_⟩)
   .exact B.free i hi hf
   .have hr:i<p.room:=by
     rcases hi with⟨h1,_⟩|⟨_,h1,_⟩
     .exact AqG h1 B.room
     .exact h1
    obtain⟨⟨u,h1⟩,_⟩:=B.there i hr;have:=Dy h1;omega
 .rcases hg with hg|hg
  .exact AqG (hH.prot g o hg) h.size
  .exact hg.2
end
theorem AaI{S:MB}(hm:M9 S)(res:List AV->Option AV)
  (h:∀ args r,res args=some r->∀(μ:Mu) (F:AP) (w:World) (us:List Value),RepList μ F w args us->S us w λu w'=>Below w.heap.size w w'/\Rep μ (Yd F w w') w' r u) :
  Bz S λargs bs=>match bs with
   |[]=>(res args).map λr=>(r,[])
   |_=>none:=by
 intro args bs r out hd
 cases bs with
 |cons=>cases hd
 |nil=>
  obtain⟨r',hr,he⟩:=Option.map_eq_some_iff.1 hd;obtain⟨rfl,rfl⟩:r'=r/\[]=out:=by simpa using he
  refine⟨ApA _,0,ApA _,λt _ μ F w KL us hKL hus hH hμ=>?_⟩;refine hm _ _ _ _ (h args r' hr μ F w us hus) λu w' ⟨hb,hu⟩=>?_
  refine⟨μ,Yd F w w',hu,?_,Mc hH hb,D7 F hb,λ_ _=>rfl⟩;have:=UW hH hb;have e:(λb=>if b<t then([]:List ABlk)[b]? else look b KL)=λb=>if b<t then Ey [] [] b else look b KL:=by
   funext b
   by_cases hbt:b<t
   .rw[if_pos hbt,if_pos hbt]
    rfl
   .rw[if_neg hbt,if_neg hbt]
  rw[←e];exact this
theorem Rq{μ:Mu}{F:AP}{w:World}{s:ByteArray}{us:List Value}(h:RepList μ F w [sv s] us):us=[.string s]:=by
 obtain⟨u,t,rfl,hu,ht⟩:=h;have hu:u=_/\_:=hu;have ht:t=[]:=ht;rw[hu.1,ht]
end Go.Proofs.YtlmhajfbpplpoaaGreat
namespace Go.Proofs.YtlmhajfbpplpoaaGreat
open Go.RowKit
section
variable {D:Orc}
theorem AkA(x y:KR):br true x y=x:=Eq.trans (b:=x) rfl (Eq.refl x)
theorem Ag{x y z:KR}(g:x=z):br true x y=z:=(AkA x y).trans g
theorem Am1(x y:KR):br false x y=y:=Eq.trans (b:=y) rfl (Eq.refl y)
theorem G6(b:Bool)(x y:KR):br b x y=if b=true then x else y:=by cases b<;>rfl
theorem AG(n:Nat)(k:Nat->KR):unI (n:Int) k=k n:=rfl
theorem Oc{α:Type}(f:α->List AV)(xs:List α)(i:Nat)(k:List AV->KR):Br (xs.map f) i k=match xs[i]? with
  |some x=>k (f x)
  |none=>none:=by
 unfold Br;rw[Ri,List.getElem?_map]
 cases xs[i]?<;>rfl
theorem AD{α:Type}{f:α->List AV}{xs:List α}{i:Nat}{x:α}(h:xs[i]? = some x)(k:List AV->KR):Br (xs.map f) i k=k (f x):=by
 rw[Oc,h]
theorem Av{α:Type}(f:α->List AV)(xs:List α):A1 (xs.map f)=xs.length:=by rw[GN,List.length_map]
theorem AdC{key:Key}{args:List AV}{bs:List ABlk}{r:AV}{o:List BO}(h:D.ask key args bs=some (r,o))(k:AV->List BO->KR):Ae D key args bs k=k r o:=by
 unfold Ae;rw[h]
theorem Ab{D:Orc}{key:Key}{args:List AV}{bs:List ABlk}{r:AV}{o:List BO}{z:KR}{k:AV->List BO->KR}(h:D.ask key args bs=some (r,o))(g:k r o=z):Ae D key args bs k=z:=(AdC h k).trans g
theorem Di(n:Int)(k:Int->KR):AT .i64 (iv n) k=k n:=rfl
theorem YT(n:Bool)(k:Bool->KR):AR (bv n) k=k n:=rfl
theorem AcO(n:ByteArray)(k:ByteArray->KR):TT (sv n) k=k n:=rfl
theorem AfK(n:List (List AV))(k:List (List AV)->KR):BX (.ls n) k=k n:=rfl
theorem YS(n:List AV)(k:List AV->KR):Au (.agg n) k=k n:=rfl
theorem YY(n:List AV)(k:List AV->KR):Az (.tup n) k=k n:=rfl
theorem AdH(n:Int)(r:List AV)(k:Int->List AV->KR):At .i64 (iv n::r) k=k n r:=rfl
theorem Zy(n:Bool)(r:List AV)(k:Bool->List AV->KR):Af (bv n::r) k=k n r:=rfl
theorem QP(n:ByteArray)(r:List AV)(k:ByteArray->List AV->KR):Bv (sv n::r) k=k n r:=rfl
theorem AiX(n:List (List AV))(r:List AV)(k:List (List AV)->List AV->KR):As (.ls n::r) k=k n r:=rfl
theorem LQ(k:KR):Ad [] k=k:=rfl
theorem TQ(c:AV)(r:List AV)(k:AV->List AV->KR):Ai (c::r) k=k c r:=rfl
theorem YV(k:KR):Ac [] k=k:=rfl
theorem VG(c:BO)(r:List BO)(k:BO->List BO->KR):Am (c::r) k=k c r:=rfl
theorem TS(k:KR):CO .keep k=k:=rfl
theorem YU(k:KR):Bn .del k=k:=rfl
theorem YX(st ex:Bool)(cs:List AV)(k:List AV->KR):AE st ex (.set ⟨cs,st,ex⟩) k=k cs:=by
 unfold AE;exact if_pos ⟨rfl,rfl⟩
theorem Aa(f:Nat)(k:KR):Pe f (.fn (.func f) [] []) k=k:=by simp[Pe]
theorem YW(b o:Nat)(k:KR):Cp b o (.ptr b o) k=k:=by simp[Cp]
theorem AfL(b e n:Nat)(k:Nat->KR):B1 b e (.sl b 0 n e) k=k n:=by simp[B1]
theorem Am0:Bi 0 (bv true)=true:=rfl
theorem AmZ(n:Int):Bi 0 (iv n)=false:=rfl
theorem AmY:Bi 1 (iv 0)=true:=rfl
theorem ND:(∀(n:Int) (k:Int->KR),AT .i64 (iv n) k=k n)/\(∀(n:Bool) (k:Bool->KR),AR (bv n) k=k n)/\(∀(n:ByteArray) (k:ByteArray->KR),TT (sv n) k=k n)/\(∀(n:List (List AV)) (k:List (List AV)->KR),BX (.ls n) k=k n)/\(∀(n:List AV) (k:List AV->KR),Au (.agg n) k=k n)/\(∀(n:List AV) (k:List AV->KR),Az (.tup n) k=k n)/\(∀(n:Int) (r:List AV) (k:Int->List AV->KR),At .i64 (iv n::r) k=k n r)/\(∀(n:Bool) (r:List AV) (k:Bool->List AV->KR),Af (bv n::r) k=k n r)/\(∀(n:ByteArray) (r:List AV) (k:ByteArray->List AV->KR),Bv (sv n::r) k=k n r)/\(∀(n:List (List AV)) (r:List AV) (k:List (List AV)->List AV->KR),As (.ls n::r) k=k n r)/\(∀(k:KR),Ad [] k=k)/\(∀(c:AV) (r:List AV) (k:AV->List AV->KR),Ai (c::r) k=k c r)/\(∀(k:KR),Ac [] k=k)/\(∀(c:BO) (r:List BO) (k:BO->List BO->KR),Am (c::r) k=k c r)/\(∀(st ex:Bool) (cs:List AV) (k:List AV->KR),AE st ex (.set ⟨cs,st,ex⟩) k=k cs)/\(∀(k:KR),Bn .del k=k)/\(∀(k:KR),CO .keep k=k)/\(∀(b o:Nat) (k:KR),Cp b o (.ptr b o) k=k)/\(∀(b e n:Nat) (k:Nat->KR),B1 b e (.sl b 0 n e) k=k n)/\(Bi 0 (bv true)=true)/\(∀(n:Int),Bi 0 (iv n)=false)/\(Bi 1 (iv 0)=true)/\(∀(x y:KR),br true x y=x)/\(∀(x y:KR),br false x y=y):=⟨Di,YT,AcO,AfK,YS,YY,AdH,Zy,QP,AiX,LQ,TQ,YV,VG,YX,YU,TS,YW,AfL,Am0,AmZ,AmY,AkA,Am1⟩
end
instance:LawfulBEq ByteArray where
 eq_of_beq {a b} h:=by
  obtain⟨a⟩:=a;obtain⟨b⟩:=b;rw[Iq]at h;simpa using h
 rfl {a}:=by
  rw[Iq];simp
section
theorem Pb(a b:Int):Aj.lt a b=decide (a<b):=rfl
theorem Oj(a b:Int):Aj.le a b=decide (a<=b):=rfl
theorem Kn(a b:Int):Aj.eq a b=decide (a=b):=by
 show (a == b)=decide (a=b)
 rfl
theorem Mk(a b:ByteArray):Aj.seq a b=decide (a=b):=by
 show (a.toList == b.toList)=_
 rw[RW,Iq];obtain⟨a⟩:=a;obtain⟨b⟩:=b
 by_cases h:a=b
 .subst h;simp
 .simp[h]
theorem AbU(b:Bool):Aj.not b = !b:=rfl
theorem WJ(a b:Bool):Aj.beq a b=(a == b):=rfl
theorem ci0(n:Nat):((n:Int)=0)=(n=0):=propext (by omega)
theorem ci1(n:Nat):((n:Int)=1)=(n=1):=propext (by omega)
theorem Amz(a b:Int):Aj.min a b=min a b:=by
 show (if b<a then b else a)=_
 omega
theorem Cu(s:ByteArray):Aj.slen s=s.size:=rfl
theorem Amy(a b:ByteArray):Aj.cat a b=a++b:=rfl
theorem Hb{a b:Int}(h1:-9223372036854775808<=a+b)(h2:a+b<9223372036854775808):Aj.add .i64 a b=a+b:=by
 show IntKind.i64.wrap (a+b)=a+b
 rw[IntKind.wrap_i64];omega
theorem Gk{a b:Int}(h1:-9223372036854775808<=a-b)(h2:a-b<9223372036854775808):Aj.sub .i64 a b=a-b:=by
 show IntKind.i64.wrap (a-b)=a-b
 rw[IntKind.wrap_i64];omega
theorem Bh{i:Nat}(h:i<4611686018427387904):Aj.add .i64 (i:Int) 1=((i+1:Nat):Int):=by
 rw[Hb (by omega) (by omega)];rfl
end
end Go.Proofs.YtlmhajfbpplpoaaGreat
namespace Go.Proofs.YtlmhajfbpplpoaaGreat
open Go.RowKit
section
variable {α:Type}
def Aw(e:α->List AV)(l:List α):List AV:=l.flatMap e
theorem Bg(e:α->List AV)(l:List α)(x:α):Aw e l++e x=Aw e (l++[x]):=by simp[Aw]
theorem BB{e:α->List AV}{w:Nat}(he:∀ x,(e x).length=w):∀ l:List α,(Aw e l).length=l.length*w
 |[]=>by simp[Aw]
 |x::r=>by
  have:=BB he r;unfold Aw at this ⊢;rw[List.flatMap_cons,List.length_append,this,he,ApI,Nat.add_mul,Nat.one_mul,Nat.add_comm]
theorem Bf{e:α->List AV}{w:Nat}(he:∀ x,(e x).length=w)(l:List α){n:Nat}(hn:n=l.length*w):(Aw e l).take n=Aw e l:=by
 rw[AqM];rw[BB he,hn];exact ApA _
theorem C2{e:α->List AV}{w:Nat}(he:∀ x,(e x).length=w):∀ l:List α,BA l.length w (Aw e l)=l.map e
 |[]=>rfl
 |x::r=>by
  have ih:=C2 he r;simp only[ApI,BA,List.map_cons];have h1:Aw e (x::r)=e x++Aw e r:=by simp[Aw]
  have h2:(e x).length=w:=he x;rw[h1,List.take_append_of_le_length (by omega),AqM (by omega),List.drop_append_of_le_length (by omega),List.drop_of_length_le (by omega),Ap4,ih]
theorem Cs{e:α->List AV}{w:Nat}(he:∀ x,(e x).length=w)(l:List α){n:Nat}(hn:n=l.length):BA n w ((Aw e l).take (n*w))=l.map e:=by
 rw[Bf he l (by rw[hn]),hn,C2 he]
theorem A3{e:α->List AV}{w:Nat}(he:∀ x,(e x).length=w)(l:List α){n:Nat}(hn:n=l.length*w):ApM n (Aw e l).length=true:=by
 rw[BB he,hn];simp
theorem Kg{e:α->List AV}(he:∀ x,Kd (e x)=true):∀ l:List α,Kd (Aw e l)=true
 |[]=>rfl
 |x::r=>by
  have ih:=Kg he r;have h1:Aw e (x::r)=e x++Aw e r:=by simp[Aw]
  rw[h1];rw[IC]at ih ⊢;rw[List.all_append,ih,Bool.and_true,←IC];exact he x
theorem E3(e:α->List AV)(l:List α):IQ (l.map e)=Aw e l:=by
 rw[JS];rfl
theorem IO{e:α->List AV}{w:Nat}(he:∀ x,(e x).length=w)(l:List α):Gv w (l.map e)=true:=by
 rw[In];simp[he]
theorem AS{n b:Nat}(hn:n<=1099511627776)(hb:b<=128):Bp n b=true:=by
 unfold Bp;have:n*b<=1099511627776*128:=Nat.mul_le_mul hn hb;have h1:ApM (n*b) 140737488355328=true:=by simp;omega
 rw[h1];simp[maxLen];omega
end
end Go.Proofs.YtlmhajfbpplpoaaGreat
