/- The limit of what can be -/
import Derived.Test.YtlmhajfbpplpoaaGreatOAN
set_option linter.all false
open Bool renaming and_eq_true->ε
open List renaming append_nil->Aqx,getElem?_append_left->Aqa,getElem?_append_right->Ap6,getElem?_cons_succ->ApV,getElem?_eq_some_iff->ApJ,length_cons->Apw,nil_append->ApU,take_of_length_le->AqB
open Nat renaming beq->ApT,ble->ApA,blt->AqD,eq_of_beq_eq_true->ApX,le_refl->ω,lt_of_lt_of_le->Aqw,lt_or_ge->ApL,min->Aqs
namespace Go.Proofs.YtlmhajfbpplpoaaGreat
open AV renaming tup->ψ
open Option.some renaming injEq->Θ
open Go.RowKit
structure Seat where
 fns:Nat->Option MFn
 own:List (Nat × Nat)
 ext:Nat->Option DF
def Ais(A:Ar)(M:Seat)(D:Orc):Orc:=.mk λk args bs=>match k with
 |.fn f=>(match M.ext f with
  |some d=>d args bs
  |none=>(match M.fns f with
   |some mf=>OP (ED (fnM A D M.own f mf)) args bs
   |none=>none))
 |.lp f i=>(match M.fns f with
  |some mf=>(match mf.loops[i]? with
   |some lc=>OP (ED (lpM A D M.own f i lc.1 lc.2)) args bs
   |none=>none)
  |none=>none)
def Dn(A:Ar)(M:Seat):Nat->Orc
 |0=>.no
 |n+1=>Ais A M (Dn A M n)
open Classical in
noncomputable def Be(A:Ar)(M:Seat):Orc:=.mk λk args bs=>if h:∃ r n,∀ m,n<=m->(Dn A M m).ask k args bs=some r then some h.choose else none
section
variable {A:Ar} {M:Seat}
theorem Qa{k:Key}{args:List AV}{bs:List ABlk}{r:AV × List BO}(h:(Be A M).ask k args bs=some r):∃ n,∀ m,n<=m->(Dn A M m).ask k args bs=some r:=by
 unfold Be Orc.ask at h;simp only at h;split at h
 .rename_i hx
  simp only[Θ]at h;rw[←h];exact hx.choose_spec
 .cases h
open Classical in
theorem AfE{k:Key}{args:List AV}{bs:List ABlk}{r:AV × List BO}{n:Nat}(h:∀ m,n<=m->(Dn A M m).ask k args bs=some r):(Be A M).ask k args bs=some r:=by
 have hx:∃ r n,∀ m,n<=m->(Dn A M m).ask k args bs=some r:=⟨r,n,h⟩;have:(Be A M).ask k args bs=some hx.choose:=by
  unfold Be
  show (if h:∃ r n,∀ m,n<=m->(Dn A M m).ask k args bs=some r then some h.choose else none)=_
  rw[dif_pos hx]
 rw[this];obtain⟨n',h'⟩:=hx.choose_spec;have e1:=h' (max n n') (Nat.le_max_right _ _);have e2:=h (max n n') (Nat.le_max_left _ _);rw[e1]at e2;exact e2
def Ev{β:Type}(A:Ar)(M:Seat)(g:Orc->Option β):Prop:=∀ r,g (Be A M)=some r->∃ n,∀ m,n<=m->g (Dn A M m)=some r
def EvM{α:Type}(A:Ar)(M:Seat)(g:Orc->AM α):Prop:=∀ H,Ev A M λD=>g D H
theorem EvM.const{α:Type}(x:AM α):EvM A M λ_=>x:=λ_ _ h=>⟨0,λ_ _=>h⟩
theorem EvM.bind{α β:Type}{x:Orc->AM α}{f:Orc->α->AM β}(hx:EvM A M x)(hf:∀ a,EvM A M λD=>f D a):EvM A M λD=>(x D).bind (f D):=λH r h=>by
 simp only[AM.bind]at h ⊢
 cases e1:x (Be A M) H with
 |none=>rw[e1]at h;cases h
 |some q=>
  obtain⟨a,H1,f1⟩:=q;rw[e1]at h;simp only at h
  cases e2:f (Be A M) a H1 with
  |none=>rw[e2]at h;cases h
  |some q2=>
   rw[e2]at h;obtain⟨n1,h1⟩:∃ n,∀ m,n<=m->x (Dn A M m) H=some (a,H1,f1):=hx H _ e1;obtain⟨n2,h2⟩:∃ n,∀ m,n<=m->f (Dn A M m) a H1=some q2:=hf a H1 _ e2;refine⟨max n1 n2,λm hm=>?_⟩;rw[h1 m (by omega)];simp only;rw[h2 m (by omega)];exact h
theorem EvM.opt{α:Type}{g:Orc->Option α}(h:Ev A M g):EvM A M λD=>AM.opt (g D):=λH r e=>by
 have e:AM.opt (g (Be A M)) H=some r:=e
 cases e1:g (Be A M) with
 |none=>rw[e1]at e;cases e
 |some a=>
  obtain⟨n,hn⟩:=h a e1;refine⟨n,λm hm=>?_⟩
  show AM.opt (g (Dn A M m)) H=some r
  rw[hn m hm];rw[e1]at e;exact e
theorem EvM.callD(k:Key)(args:List AV):EvM A M λD=>callD (D.ask k) args:=by
 unfold Go.Proofs.YtlmhajfbpplpoaaGreat.callD;refine EvM.bind (EvM.const _) λL=>EvM.bind (EvM.const _) λbs=>EvM.bind (EvM.opt λr h=>Qa h) λr=>EvM.const _
theorem EvM.callsM(own:List (Nat × Nat))(f:FuncId)(args:List AV):EvM A M λD=>callsM D own f args:=by
 unfold Go.Proofs.YtlmhajfbpplpoaaGreat.callsM;exact EvM.bind (EvM.const _) λl=>EvM.callD _ _
theorem EvM.loopsM(f i:Nat)(T:List AV):EvM A M λD=>loopsM D f i T:=by
 unfold Go.Proofs.YtlmhajfbpplpoaaGreat.loopsM;exact EvM.bind (EvM.callD _ _) λr=>EvM.const _
theorem EvM.mop{B:Ar}{Γ:Orc->FuncId->List AV->AM AV}(hΓ:∀ f args,EvM A M λD=>Γ D f args)(o:MO)(T:List AV):EvM A M λD=>mop B (Γ D) o T:=by
 cases o with
 |callF f args=>exact hΓ _ _
 |callV ents x args=>
  show EvM A M λD=>(match AK T x with
   |.fn (.func g) a cs=>(match ents.testBit g with
    |true=>Γ D g (a++O4 T args++cs)
    |false=>AM.fail)
   |_=>AM.fail)
  split
  .split
   .exact hΓ _ _
   .exact EvM.const _
  .exact EvM.const _
 |_=>exact EvM.const _
theorem EvM.coreM{B:Ar}{Γ:Orc->FuncId->List AV->AM AV}(hΓ:∀ f args,EvM A M λD=>Γ D f args)(o:MOp)(T:List AV):EvM A M λD=>coreM B (Γ D) o T:=by
 unfold Go.Proofs.YtlmhajfbpplpoaaGreat.coreM;split
 .split
  .exact EvM.mop hΓ _ _
  .exact EvM.const _
 .exact EvM.const _
theorem Ev.runM{B:Ar}{Γ:Orc->FuncId->List AV->AM AV}(hΓ:∀ f args,EvM A M λD=>Γ D f args):∀(l:List MOp) (T:List AV) (H:AH),Ev A M λD=>runM B (Γ D) l T H
 |[],T,H=>λr h=>⟨0,λ_ _=>h⟩
 |o::l,T,H=>λr h=>by
  simp only[Go.Proofs.YtlmhajfbpplpoaaGreat.runM]at h ⊢
  cases e1:Go.Proofs.YtlmhajfbpplpoaaGreat.coreM B (Γ (Be A M)) o T H with
  |none=>rw[e1]at h;cases h
  |some q=>
   obtain⟨v,H1,f1⟩:=q;rw[e1]at h;simp only at h
   cases e2:Go.Proofs.YtlmhajfbpplpoaaGreat.runM B (Γ (Be A M)) l (Ca T o.dst v) H1 with
   |none=>rw[e2]at h;cases h
   |some q2=>
    rw[e2]at h;obtain⟨n1,h1⟩:∃ n,∀ m,n<=m->Go.Proofs.YtlmhajfbpplpoaaGreat.coreM B (Γ (Dn A M m)) o T H=some (v,H1,f1):=EvM.coreM hΓ o T H _ e1;obtain⟨n2,h2⟩:∃ n,∀ m,n<=m->Go.Proofs.YtlmhajfbpplpoaaGreat.runM B (Γ (Dn A M m)) l (Ca T o.dst v) H1=some q2:=Ev.runM hΓ l _ H1 _ e2;refine⟨max n1 n2,λm hm=>?_⟩;rw[h1 m (by omega)];simp only;rw[h2 m (by omega)];exact h
theorem EvM.regM{B:Ar}{Γ:Orc->FuncId->List AV->AM AV}(hΓ:∀ f args,EvM A M λD=>Γ D f args)(ops:List MOp)(bf:Option (List Nat))(T:List AV):EvM A M λD=>regM B (Γ D) ops bf T:=λH r h=>by
 simp only[Go.Proofs.YtlmhajfbpplpoaaGreat.regM]at h ⊢
 cases e1:Go.Proofs.YtlmhajfbpplpoaaGreat.runM B (Γ (Be A M)) ops T H with
 |none=>rw[e1]at h;cases h
 |some q=>
  rw[e1]at h;obtain⟨n1,h1⟩:∃ n,∀ m,n<=m->Go.Proofs.YtlmhajfbpplpoaaGreat.runM B (Γ (Dn A M m)) ops T H=some q:=Ev.runM hΓ ops T H _ e1;exact⟨n1,λm hm=>by rw[h1 m hm];exact h⟩
theorem EvM.evC{B:Ar}{Γ:Orc->FuncId->List AV->AM AV}{Λ:Orc->Nat->List AV->AM (AX × List AV)}(hΓ:∀ f args,EvM A M λD=>Γ D f args)(hΛ:∀ i T,EvM A M λD=>Λ D i T):∀(c:MC) (T:List AV),EvM A M λD=>evC B (Γ D) (Λ D) c T
 |.skip,T=>EvM.const _
 |.reg ops bf,T=>EvM.regM hΓ _ _ _
 |.seq a b,T=>by
  unfold Go.Proofs.YtlmhajfbpplpoaaGreat.evC;refine EvM.bind (EvM.evC hΓ hΛ a T) λr=>?_
  split
  .exact EvM.evC hΓ hΛ b _
  .exact EvM.const _
 |.cond c a b,T=>by
  unfold Go.Proofs.YtlmhajfbpplpoaaGreat.evC;split
  .split
   .exact EvM.evC hΓ hΛ a T
   .exact EvM.evC hΓ hΛ b T
  .exact EvM.const _
 |.block id c,T=>by
  unfold Go.Proofs.YtlmhajfbpplpoaaGreat.evC;exact EvM.bind (EvM.evC hΓ hΛ c T) λr=>EvM.const _
 |.loop i q,T=>by
  unfold Go.Proofs.YtlmhajfbpplpoaaGreat.evC;refine EvM.bind (EvM.const _) λ_=>EvM.bind (EvM.const _) λ_=>?_
  split
  .exact EvM.bind (hΛ _ _) λ_=>EvM.const _
  .exact EvM.const _
 |.exit id,T=>EvM.const _
 |.ret,T=>EvM.const _
 |.bad,_=>EvM.const _
theorem EvM.fnM{B:Ar}(own:List (Nat × Nat))(f:Nat)(mf:MFn)(args:List AV):EvM A M λD=>fnM B D own f mf args:=by
 unfold Go.Proofs.YtlmhajfbpplpoaaGreat.fnM;exact EvM.bind (EvM.evC (Γ:=λD=>Go.Proofs.YtlmhajfbpplpoaaGreat.callsM D own) (Λ:=λD=>Go.Proofs.YtlmhajfbpplpoaaGreat.loopsM D f) (EvM.callsM own) (EvM.loopsM f) _ _) λr=>EvM.const _
theorem EvM.lpM{B:Ar}(own:List (Nat × Nat))(f i:Nat)(q:LpH)(c:MC)(T:List AV):EvM A M λD=>lpM B D own f i q c T:=by
 unfold Go.Proofs.YtlmhajfbpplpoaaGreat.lpM;refine EvM.bind (EvM.evC (Γ:=λD=>Go.Proofs.YtlmhajfbpplpoaaGreat.callsM D own) (Λ:=λD=>Go.Proofs.YtlmhajfbpplpoaaGreat.loopsM D f) (EvM.callsM own) (EvM.loopsM f) _ _) λr=>?_
 split
 .exact EvM.bind (EvM.const _) λ_=>EvM.bind (EvM.loopsM _ _ _) λ_=>EvM.const _
 .exact EvM.const _
 .exact EvM.const _
theorem Ev.gcRun{m:Orc->List AV->AM AV}(h:∀ args,EvM A M λD=>m D args)(args:List AV)(bs:List ABlk):Ev A M λD=>OP (ED (m D)) args bs:=λr e=>by
 have key:∀ q,ED (m (Be A M)) args bs=some q->∃ n,∀ k,n<=k->ED (m (Dn A M k)) args bs=some q:=λq hq=>by
  unfold ED at hq ⊢
  cases e1:m (Be A M) args ⟨CX 0 bs,bs.length,none⟩ with
  |none=>rw[e1]at hq;cases hq
  |some x=>
   rw[e1]at hq;obtain⟨n,hn⟩:∃ n,∀ k,n<=k->m (Dn A M k) args ⟨CX 0 bs,bs.length,none⟩=some x:=h args _ _ e1;exact⟨n,λk hk=>by rw[hn k hk];exact hq⟩
 have e:OP (ED (m (Be A M))) args bs=some r:=e;unfold OP at e
 cases e1:ED (m (Be A M)) args bs with
 |none=>rw[e1]at e;cases e
 |some q=>
  rw[e1]at e;obtain⟨n,hn⟩:=key q e1;refine⟨n,λk hk=>?_⟩
  show OP (ED (m (Dn A M k))) args bs=some r
  unfold OP;rw[hn k hk];exact e
theorem LA{k:Key}{args:List AV}{bs:List ABlk}{r:AV × List BO}(h:∃ n,∀ m,n<=m->(Ais A M (Dn A M m)).ask k args bs=some r):(Be A M).ask k args bs=some r:=by
 obtain⟨n,hn⟩:=h;refine AfE (n:=n+1) λm hm=>?_
 cases m with
 |zero=>omega
 |succ m=>exact hn m (by omega)
theorem AfC{f:Nat}{mf:MFn}(he:M.ext f=none)(hf:M.fns f=some mf){args:List AV}{bs:List ABlk}{r:AV × List BO}(h:OP (ED (fnM A (Be A M) M.own f mf)) args bs=some r):(Be A M).ask (.fn f) args bs=some r:=by
 obtain⟨n,hn⟩:=Ev.gcRun (m:=λD=>fnM A D M.own f mf) (λargs=>EvM.fnM M.own f mf args) args bs r h;refine LA ⟨n,λm hm=>?_⟩
 show (match M.ext f with
  |some d=>d args bs
  |none=>(match M.fns f with
   |some mf=>OP (ED (fnM A (Dn A M m) M.own f mf)) args bs
   |none=>none))=_
 rw[he,hf];exact hn m hm
theorem AfD{f i:Nat}{mf:MFn}{live:LpH}{c:MC}(hf:M.fns f=some mf)(hl:mf.loops[i]? = some (live,c)){args:List AV}{bs:List ABlk}{r:AV × List BO}(h:OP (ED (lpM A (Be A M) M.own f i live c)) args bs=some r):(Be A M).ask (.lp f i) args bs=some r:=by
 obtain⟨n,hn⟩:=Ev.gcRun (m:=λD=>lpM A D M.own f i live c) (λargs=>EvM.lpM M.own f i live c args) args bs r h;refine LA ⟨n,λm hm=>?_⟩
 show (match M.fns f with
  |some mf=>(match mf.loops[i]? with
   |some lc=>OP (ED (lpM A (Dn A M m) M.own f i lc.1 lc.2)) args bs
   |none=>none)
  |none=>none)=_
 rw[hf];simp only[hl];exact hn m hm
theorem B9{f:Nat}{d:DF}(he:M.ext f=some d){args:List AV}{bs:List ABlk}{r:AV × List BO}(h:d args bs=some r):(Be A M).ask (.fn f) args bs=some r:=
 LA ⟨0,λm _=>by
  show (match M.ext f with
   |some d=>d args bs
   |none=>(match M.fns f with
    |some mf=>OP (ED (fnM A (Dn A M m) M.own f mf)) args bs
    |none=>none))=_
  rw[he];exact h⟩
end
structure SeatOk (P:Program) (ents:Nat) (M:Seat):Prop where
 mixed:P.follows .mixedOrders=true
 ent:FQ P ents
 fns:∀ f mf,M.fns f=some mf->FnOk P ents f mf
 ext:∀ f d,M.ext f=some d->Bo (BH P f) d
theorem Dd(P:Program)(ents:Nat)(hs:A3):∀(c:Code) (n:Nat) (j:Nat) (c':Code),(Br c)[j]? = some c'->∃ live,(∀ q,hs[n+j]? = some q->live=q)/\(Bl P ents hs c n).2[j]? = some (live,(Bl P ents hs c' (n+j+1)).1)/\(KO c=true->KO c'=true)/\∀ i c2,(Br c')[i]? = some c2->(Br c)[j+1+i]? = some c2
 |.skip,n,j,c',h=>by simp[Br]at h
 |.region ..,n,j,c',h=>by simp[Br]at h
 |.seq a b,n,j,c',h=>by
  have h:(Br a++Br b)[j]? = some c':=h;have hn:(Bl P ents hs (.seq a b) n).2=(Bl P ents hs a n).2++(Bl P ents hs b (n+(Bl P ents hs a n).2.length)).2:=rfl;rw[hn];rcases ApL j (Br a).length with hj|hj
  .rw[Aqa hj]at h
   obtain⟨live,h0,h1,h2,h3⟩:=Dd P ents hs a n j c' h;refine⟨live,h0,by rw[Aqa (by rw[B4];exact hj)];exact h1,λhok=>h2 (by simp only[KO,ε]at hok;exact hok.1),λi c2 hi=>?_⟩;have:=h3 i c2 hi
   show (Br a++Br b)[j+1+i]? = some c2
   rw[Aqa (ApJ.1 this).1];exact this
  .rw[Ap6 hj]at h
   obtain⟨live,h0,h1,h2,h3⟩:=Dd P ents hs b (n+(Bl P ents hs a n).2.length) (j-(Br a).length) c' h;have hl:=B4 P ents hs a n;rw[hl]at h0;refine⟨live,λq hq=>h0 q (by rw[show n+(Br a).length+(j-(Br a).length)=n+j by omega];exact hq),?_,λhok=>h2 (by simp only[KO,ε]at hok;exact hok.2),λi c2 hi=>?_⟩
   .rw[Ap6 (by omega),hl]
    rw[hl]at h1;rw[show n+j+1=n+(Br a).length+(j-(Br a).length)+1 by omega];exact h1
   .have:=h3 i c2 hi
    show (Br a++Br b)[j+1+i]? = some c2
    rw[Ap6 (by omega),show j+1+i-(Br a).length=j-(Br a).length+1+i by omega];exact this
 |.cond q a b,n,j,c',h=>by
  have h:(Br a++Br b)[j]? = some c':=h;have hn:(Bl P ents hs (.cond q a b) n).2=(Bl P ents hs a n).2++(Bl P ents hs b (n+(Bl P ents hs a n).2.length)).2:=rfl;rw[hn];rcases ApL j (Br a).length with hj|hj
  .rw[Aqa hj]at h
   obtain⟨live,h0,h1,h2,h3⟩:=Dd P ents hs a n j c' h;refine⟨live,h0,by rw[Aqa (by rw[B4];exact hj)];exact h1,λhok=>h2 (by simp only[KO,ε]at hok;exact hok.1),λi c2 hi=>?_⟩;have:=h3 i c2 hi
   show (Br a++Br b)[j+1+i]? = some c2
   rw[Aqa (ApJ.1 this).1];exact this
  .rw[Ap6 hj]at h
   obtain⟨live,h0,h1,h2,h3⟩:=Dd P ents hs b (n+(Bl P ents hs a n).2.length) (j-(Br a).length) c' h;have hl:=B4 P ents hs a n;rw[hl]at h0;refine⟨live,λq hq=>h0 q (by rw[show n+(Br a).length+(j-(Br a).length)=n+j by omega];exact hq),?_,λhok=>h2 (by simp only[KO,ε]at hok;exact hok.2),λi c2 hi=>?_⟩
   .rw[Ap6 (by omega),hl]
    rw[hl]at h1;rw[show n+j+1=n+(Br a).length+(j-(Br a).length)+1 by omega];exact h1
   .have:=h3 i c2 hi
    show (Br a++Br b)[j+1+i]? = some c2
    rw[Ap6 (by omega),show j+1+i-(Br a).length=j-(Br a).length+1+i by omega];exact this
 |.block id a,n,j,c',h=>Dd P ents hs a n j c' h
 |.loop a,n,j,c',h=>by
  have h:(a::Br a)[j]? = some c':=h;have hn:∃ live,(∀ q,hs[n]? = some q->live=q)/\(Bl P ents hs (.loop a) n).2=(live,(Bl P ents hs a (n+1)).1)::(Bl P ents hs a (n+1)).2:=by
   have:Bl P ents hs (.loop a) n=(match Bl P ents hs a (n+1),hs[n]? with
    |(mc,lc),some h=>(.loop n h,(h,mc)::lc)
    |(mc,lc),none=>(.bad,(⟨0,[],[],[],[]⟩,mc)::lc)):=by rw[Bl];rfl
   rw[this]
   cases hs[n]? with
   |none=>exact⟨_,λq h=>(by cases h),rfl⟩
   |some q=>exact⟨_,λq' h=>Option.some.inj h,rfl⟩
  obtain⟨live,hq0,hn⟩:=hn;rw[hn]
  cases j with
  |zero=>
   simp only[List.getElem?_cons_zero,Θ]at h;subst h;exact⟨live,hq0,rfl,λhok=>hok,λi c2 hi=>by
    show (a::Br a)[0+1+i]? = some c2
    rw[show 0+1+i=i+1 by omega];exact hi⟩
  |succ j=>
   simp only[ApV]at h;obtain⟨live',h0,h1,h2,h3⟩:=Dd P ents hs a (n+1) j c' h;refine⟨live',λq hq=>h0 q (by rw[show n+1+j=n+(j+1) by omega];exact hq),?_,h2,λi c2 hi=>?_⟩
   .simp only[ApV]
    rw[show n+(j+1)+1=n+1+j+1 by omega];exact h1
   .show (a::Br a)[j+1+1+i]? = some c2
    rw[show j+1+1+i=(j+1+i)+1 by omega];exact h3 i c2 hi
 |.exit _,n,j,c',h=>by simp[Br]at h
 |.ret,n,j,c',h=>by simp[Br]at h
 |.rangeFunc ..,n,j,c',h=>by simp[Br]at h
 |.scope _,n,j,c',h=>by simp[Br]at h
 |.label _,n,j,c',h=>by simp[Br]at h
 |.goto _,n,j,c',h=>by simp[Br]at h
 |.refuse _,n,j,c',h=>by simp[Br]at h
theorem Jq{S:Mw}:Bo S λ_ _=>none:=λ_ _ _ _ h=>by cases h
theorem QT{P:Program}{ents:Nat}{M:Seat}(hM:SeatOk P ents M):∀ n,(∀ f,Bo (BH P f) ((Dn Af M n).ask (.fn f)))/\∀ f mf fn c,M.fns f=some mf->P.funcs[f]? = some fn->fn.body=some c->∀ i c' q mc,(Br c)[i]? = some c'->mf.loops[i]? = some (q,mc)->Bo (O9 P q c') ((Dn Af M n).ask (.lp f i))
 |0=>⟨λ_=>Jq,λ_ _ _ _ _ _ _ _ _ _ _ _ _=>Jq⟩
 |n+1=>by
  obtain⟨ih1,ih2⟩:=QT hM n;have hΓ:=QP (P:=P) M.own ih1;refine⟨λf=>?_,λf mf fn c h0 h1 h2 i c' q mc hi hq=>?_⟩
  .have hd:(Dn Af M (n+1)).ask (.fn f)=λargs bs=>(match M.ext f with
     |some d=>d args bs
     |none=>(match M.fns f with
      |some mf=>OP (ED (fnM Af (Dn Af M n) M.own f mf)) args bs
      |none=>none)):=rfl
   rw[hd]
   cases e:M.ext f with
   |some d=>exact hM.ext f d e
   |none=>
    cases e2:M.fns f with
    |none=>exact Jq
    |some mf=>
     obtain⟨fn,c,hs,k1,k2,k3,k4,k5,k6,k7,k8⟩:=(hM.fns f mf e2).ok;refine Sb (CI P f) (P5 (XE M.own hM.mixed hM.ent k1 k2 k3 k4 k5 k6 k7 hΓ λj c' q hj hq=>J4 ?_) λargs=>Loc.fnM _ _ _ _ _ _);obtain⟨live,q0,q1,_,_⟩:=Dd P ents hs c 0 j c' hj;rw[Nat.zero_add]at q0;rw[q0 q hq]at q1;exact ih2 f mf fn c e2 k1 k2 j c' q _ hj (by rw[k8];exact q1)
  .have hd:(Dn Af M (n+1)).ask (.lp f i)=λargs bs=>(match M.fns f with
     |some mf=>(match mf.loops[i]? with
      |some lc=>OP (ED (lpM Af (Dn Af M n) M.own f i lc.1 lc.2)) args bs
      |none=>none)
     |none=>none):=rfl
   rw[hd,h0];simp only[hq];obtain⟨fn',c0,hs,k1,k2,k3,k4,k5,k6,k7,k8⟩:=(hM.fns f mf h0).ok;rw[h1]at k1
   cases k1
   rw[h2]at k2
   cases k2
   obtain⟨live,q0,q1,q2,q3⟩:=Dd P ents hs c 0 i c' hi;rw[k8,q1]at hq;simp only[Θ,Prod.mk.injEq]at hq;obtain⟨rfl,rfl⟩:=hq;refine Sb (Ot P live c') (P5 (X5 M.own hM.mixed hM.ent (q2 k3) hΓ (λj c2 q hj hq=>?_) (ih2 f mf fn c h0 h1 h2 i c' live _ hi (by rw[k8];exact q1))) λargs=>Loc.lpM _ _ _ _ _ _ _ _);rw[show 0+i+1+j=i+1+j by omega];obtain⟨live2,p0,p1,_,_⟩:=Dd P ents hs c 0 (i+1+j) c2 (q3 j c2 hj);rw[show 0+(i+1+j)=0+i+1+j by omega]at p0;rw[p0 q hq]at p1;exact J4 (ih2 f mf fn c h0 h1 h2 (i+1+j) c2 q _ (q3 j c2 hj) (by rw[k8];exact p1))
theorem D8{P:Program}{ents:Nat}{M:Seat}(hM:SeatOk P ents M)(f:FuncId):Bo (BH P f) ((Be Af M).ask (.fn f)):=by
 intro args bs r out h;obtain⟨n,hn⟩:=Qa h;exact(QT hM n).1 f args bs r out (hn n (ω _))
section
open Go.RowKit
abbrev KR:=Option (AV × List BO)
inductive Sh where
 |int (k:IntKind)
 |bool
 |str
 |ls
 |lp (l:List Sh)
 |agg (l:List Sh)
 |tup (l:List Sh)
 |sl (b e:Nat)
 |ptr (b o:Nat)
 |cst (v:Value)
 |fnc (f:Nat)
 |any
inductive Os where
 |keep
 |del
 |row (st:Bool)
 |box (l:List Sh)
def br(b:Bool)(x y:KR):KR:=match b with
 |true=>x
 |false=>y
def unI(n:Int)(k:Nat->KR):KR:=match n with
 |.ofNat i=>k i
 |.negSucc _=>none
def Bh(xs:List (List AV))(i:Nat)(k:List AV->KR):KR:=match S6 xs i with
 |some cs=>k cs
 |none=>none
def IE(cells:List AV)(o n:Nat)(k:List AV->KR):KR:=match ApA (o+n) cells.length with
 |true=>k ((cells.drop o).take n)
 |false=>none
def AE(D:Orc)(key:Key)(args:List AV)(bs:List ABlk)(k:AV->List BO->KR):KR:=match D.ask key args bs with
 |some r=>k r.1 r.2
 |none=>none
def Jb(kd:IntKind)(x:AV)(k:Int->KR):KR:=match x with
 |.v (.int k' n)=>if k'=kd then k n else none
 |_=>none
def Ii(x:AV)(k:Bool->KR):KR:=match x with
 |.v (.bool b)=>k b
 |_=>none
def Qm(x:AV)(k:ByteArray->KR):KR:=match x with
 |.v (.string s)=>k s
 |_=>none
def LK(x:AV)(k:List (List AV)->KR):KR:=match x with
 |.ls xs=>k xs
 |_=>none
def AmH(x:AV)(k0:KR)(k:List AV->KR):KR:=match x with
 |.v (.pointer none)=>k0
 |.lp cs=>k cs
 |_=>none
def Mq(x:AV)(k:List AV->KR):KR:=match x with
 |.agg cs=>k cs
 |_=>none
def KK(x:AV)(k:List AV->KR):KR:=match x with
 |.tup cs=>k cs
 |_=>none
def VD(b e:Nat)(x:AV)(k:Nat->KR):KR:=match x with
 |.sl b' 0 n e'=>(match ApT b b',ApT e e' with
  |true,true=>k n
  |_,_=>none)
 |_=>none
def KJ(b o:Nat)(x:AV)(k:KR):KR:=match x with
 |.ptr b' o'=>(match ApT b b',ApT o o' with
  |true,true=>k
  |_,_=>none)
 |_=>none
def YV(f:Nat)(x:AV)(k:KR):KR:=match x with
 |.fn (.func g) [] []=>(match ApT f g with
  |true=>k
  |false=>none)
 |_=>none
def Ahm:Value->Value->Bool
 |.slice none 0 0,.slice none 0 0=>true
 |.pointer none,.pointer none=>true
 |_,_=>false
def WY(v:Value)(x:AV)(k:KR):KR:=match x with
 |.v u=>(match Ahm v u with
  |true=>k
  |false=>none)
 |_=>none
def Fe(cs:List AV)(k:KR):KR:=match cs with
 |[]=>k
 |_::_=>none
def Eu(cs:List AV)(k:AV->List AV->KR):KR:=match cs with
 |[]=>none
 |c::r=>k c r
def Nk(kd:IntKind)(cs:List AV)(k:Int->List AV->KR):KR:=match cs with
 |.v (.int k' n)::r=>if k'=kd then k n r else none
 |_=>none
def Pj(cs:List AV)(k:Bool->List AV->KR):KR:=match cs with
 |.v (.bool b)::r=>k b r
 |_=>none
def Xo(cs:List AV)(k:ByteArray->List AV->KR):KR:=match cs with
 |.v (.string s)::r=>k s r
 |_=>none
def cLs(cs:List AV)(k:List (List AV)->List AV->KR):KR:=match cs with
 |.ls xs::r=>k xs r
 |_=>none
def Ey(o:List BO)(k:BO->List BO->KR):KR:=match o with
 |[]=>none
 |c::r=>k c r
def CZ(o:List BO)(k:KR):KR:=match o with
 |[]=>k
 |_::_=>none
def LJ(o:BO)(k:KR):KR:=match o with
 |.keep=>k
 |_=>none
def Ql(o:BO)(k:KR):KR:=match o with
 |.del=>k
 |_=>none
def Gm(st ex:Bool)(o:BO)(k:List AV->KR):KR:=match o with
 |.set ⟨cs,st',ex'⟩=>if st'=st/\ex'=ex then k cs else none
 |_=>none
def A9(k:Nat)(x:AV):Bool:=match k,x with
 |0,.v (.bool true)=>true
 |i+1,.v (.int .i64 (.ofNat j))=>ApT i j
 |_,_=>false
mutual
def De:Sh->AV->(AV->KR)->KR
 |.int kd,x,K=>Jb kd x λn=>K (.v (.int kd n))
 |.bool,x,K=>Ii x λb=>K (.v (.bool b))
 |.str,x,K=>Qm x λs=>K (.v (.string s))
 |.ls,x,K=>LK x λxs=>K (.ls xs)
 |.lp l,x,K=>AmH x (K (.v (.pointer none))) λcs=>Ck l cs λcs=>K (.lp cs)
 |.agg l,x,K=>Mq x λcs=>Ck l cs λcs=>K (.agg cs)
 |.tup l,x,K=>KK x λcs=>Ck l cs λcs=>K (.tup cs)
 |.sl b e,x,K=>VD b e x λn=>K (.sl b 0 n e)
 |.ptr b o,x,K=>KJ b o x (K (.ptr b o))
 |.cst v,x,K=>WY v x (K (.v v))
 |.fnc f,x,K=>YV f x (K (.fn (.func f) [] []))
 |.any,x,K=>K x
def Ck:List Sh->List AV->(List AV->KR)->KR
 |[],cs,K=>Fe cs (K [])
 |.int kd::l,cs,K=>Nk kd cs λn r=>Ck l r λr=>K (.v (.int kd n)::r)
 |.bool::l,cs,K=>Pj cs λn r=>Ck l r λr=>K (.v (.bool n)::r)
 |.str::l,cs,K=>Xo cs λn r=>Ck l r λr=>K (.v (.string n)::r)
 |.ls::l,cs,K=>cLs cs λn r=>Ck l r λr=>K (.ls n::r)
 |s::l,cs,K=>Eu cs λc r=>De s c λc=>Ck l r λr=>K (c::r)
end
def Fs:List Os->List BO->(List BO->KR)->KR
 |[],o,K=>CZ o (K [])
 |s::l,o,K=>Ey o λc r=>(match s with
  |.keep=>LJ c (Fs l r λr=>K (.keep::r))
  |.del=>Ql c (Fs l r λr=>K (.del::r))
  |.row st=>Gm st true c λcs=>Fs l r λr=>K (.set ⟨cs,st,true⟩::r)
  |.box m=>Gm true false c λcs=>Ck m cs λcs=>Fs l r λr=>K (.set ⟨cs,true,false⟩::r))
inductive Sc where
 |n
 |b (x y:Sc)
 |t (x:Sc)
 |f (x:Sc)
def brS(s:Sc)(c:Bool)(x y:Sc->KR):KR:=match s with
 |.n=>br c (x .n) (y .n)
 |.b p q=>br c (x p) (y q)
 |.t p=>br c (x p) none
 |.f p=>br c none (y p)
def KM(α:Type):=AH->Sc->(α->AH->Foot->Sc->KR)->KR
namespace KM
variable {α β:Type}
def ret(a:α):KM α:=λH s k=>k a H ⟨[],[]⟩ s
def fail:KM α:=λ_ _ _=>none
def bind(m:KM α)(f:α->KM β):KM β:=λH s k=>m H s λa H1 f1 s=>f a H1 s λb H2 f2 s=>k b H2 ⟨f1.rd++f2.rd,f1.wr++f2.wr⟩ s
def gen(m:AM α):KM α:=λH s k=>match m H with
 |some (a,H',f)=>k a H' f s
 |none=>none
def opt:Option α->KM α
 |some a=>ret a
 |none=>fail
def brk(b:Bool)(x y:KM α):KM α:=λH s k=>brS s b (λs=>x H s k) (λs=>y H s k)
def test(b:Bool)(x:KM α):KM α:=λH s k=>br b (x H s k) none
def unI(n:Int)(f:Nat->KM α):KM α:=λH s k=>Go.Proofs.YtlmhajfbpplpoaaGreat.unI n λi=>f i H s k
def nth(xs:List (List AV))(i:Nat)(f:List AV->KM α):KM α:=λH s k=>Bh xs i λcs=>f cs H s k
def rd(cells:List AV)(o n:Nat):KM (List AV):=λH s k=>IE cells o n λcs=>k cs H ⟨[],[]⟩ s
def exp(t:Sh)(x:AV):KM AV:=λH s k=>De t x λy=>k y H ⟨[],[]⟩ s
def expL(l:List Sh)(x:List AV):KM (List AV):=λH s k=>Ck l x λy=>k y H ⟨[],[]⟩ s
def expO(l:List Os)(x:List BO):KM (List BO):=λH s k=>Fs l x λy=>k y H ⟨[],[]⟩ s
def ask(D:Orc)(key:Key)(args:List AV)(bs:List ABlk):KM (AV × List BO):=λH s k=>AE D key args bs λr o=>k (r,o) H ⟨[],[]⟩ s
def idx(x:AV)(f:Nat->KM α):KM α:=match x with
 |.v (.int _ n)=>unI n f
 |_=>fail
def idxO(n:Nat)(x:Option AV)(f:Nat->KM α):KM α:=match x with
 |some x=>idx x f
 |none=>f n
end KM
def Bf(n bytes:Nat):Bool:=match ApA (n*bytes) 140737488355328 with
 |true=>ApA n maxLen
 |false=>false
def J1(l h n:Nat):Bool:=match ApA l h with
 |true=>ApA h n
 |false=>false
structure Hnt where
 fn:List (Nat × (Sh × List Os))
 lp:List (Nat × List (Nat × (List Sh × List Os)))
 tm:List (Nat × List Sh)
def CA{α:Type}(n:Nat):List (Nat × α)->Option α
 |[]=>none
 |(m,a)::r=>match ApT n m with
  |true=>some a
  |false=>CA n r
section
variable (A:Ar) (D:Orc) (own:List (Nat × Nat)) (Hn:Hnt)
def tmK(d:Option Nat)(cs:List AV):KM (List AV):=match d with
 |some d=>(match CA d Hn.tm with
  |some l=>KM.expL l cs
  |none=>KM.ret cs)
 |none=>KM.ret cs
def WL(d:Option Nat)(a:AV)(n:Nat):KM (List AV):=match a with
 |.ptr b o=>(KM.gen (AM.getB b)).bind λk=>(KM.rd k.cells o n).bind λcs=>match k.ex with
  |true=>tmK Hn d cs
  |false=>KM.ret cs
 |a=>KM.gen (rdAt a n)
def Abk(d:Option Nat)(row:Bool)(n:Nat)(a:AV):KM AV:=match row with
 |true=>(WL Hn d a n).bind λcs=>KM.ret (.agg cs)
 |false=>(WL Hn d a 1).bind λcs=>KM.opt (Ve cs)
def Vx(n:Nat)(a x:AV):KM AV:=match a with
 |.ptr b o=>
  if x.cells.length=n/\x.cells.all AV.one=true then
   (KM.gen (AM.getB b)).bind λk=>if k.st=true/\(!k.ex||AW x.cells)=true then KM.test (ApA (o+n) k.cells.length) ((KM.gen (AM.setB b { k with cells:=AZ k.cells o x.cells })).bind λ_=>KM.ret AV.undef) else KM.fail
  else KM.fail
 |_=>KM.fail
def UT(d:Option Nat)(e:Nat)(x ix:AV):KM AV:=KM.idx ix λi=>match x with
 |.sl b o n e'=>KM.test (AqD i n) (if e'=e then KM.ret (.ptr b (o+i*e)) else KM.fail)
 |.ls xs=>KM.nth xs i λcs=>(tmK Hn d cs).bind λcs=>(match ApT cs.length e with
  |true=>KM.ret (.lp cs)
  |false=>KM.fail)
 |_=>KM.fail
def T8(n e:Nat)(x ix:AV):KM AV:=KM.idx ix λi=>KM.test (AqD i n) (KM.opt (NZ x (i*e)))
def UV(d:Option Nat)(n e:Nat)(row:Bool)(sz:Nat)(x ix:AV):KM AV:=KM.idx ix λi=>match x with
 |.agg cs=>KM.test (AqD i n) ((KM.rd cs (i*e) (match row with
  |true=>sz
  |false=>1)).bind λxs=>(match row with
  |true=>KM.ret (.agg xs)
  |false=>KM.opt (Ve xs)))
 |_=>KM.fail
def Vt(e:Nat)(x:AV)(lo hi:Option AV):KM AV:=match x with
 |.sl b o n e'=>KM.idxO 0 lo λl=>KM.idxO n hi λh=>KM.test (J1 l h n) (match ApT e' e with
  |true=>KM.ret (.sl b (o+l*e) (h-l) e)
  |false=>KM.fail)
 |.ls xs=>KM.idxO 0 lo λl=>KM.idxO (AQ xs) hi λh=>KM.test (J1 l h (AQ xs)) (KM.test (Gp e xs) (KM.ret (.ls (I0 (I9 xs h) l))))
 |_=>KM.fail
def AiT(b:BinOp)(x y:AV):KM AV:=match x,y with
 |.v (.int k a),.v (.int k' c)=>(match b with
  |.shl=>KM.brk (A.lt c 0) KM.fail (KM.ret (.v (.int k (A.shl k a c))))
  |.shr=>KM.brk (A.lt c 0) KM.fail (KM.ret (.v (.int k (A.shr k a c))))
  |.quo=>if k=k' then KM.brk (A.eq c 0) KM.fail (KM.ret (.v (.int k (A.quo k a c)))) else KM.fail
  |.rem=>if k=k' then KM.brk (A.eq c 0) KM.fail (KM.ret (.v (.int k (A.rem k a c)))) else KM.fail
  |.neq=>if k=k' then KM.brk (A.eq a c) (KM.ret (.v (.bool false))) (KM.ret (.v (.bool true))) else KM.fail
  |b=>KM.opt (JN A b (.v (.int k a)) (.v (.int k' c))))
 |.v (.string a),.v (.string c)=>(match b with
  |.add=>KM.test (ApA (A.slen a+A.slen c) 9223372036854775807) (KM.ret (.v (.string (A.cat a c))))
  |.neq=>KM.brk (A.seq a c) (KM.ret (.v (.bool false))) (KM.ret (.v (.bool true)))
  |b=>KM.opt (JN A b (.v (.string a)) (.v (.string c))))
 |x,y=>KM.opt (JN A b x y)
def Acp(x i:AV):KM AV:=match x with
 |.v (.string s)=>KM.idx i λi=>KM.test (AqD i (A.slen s)) (KM.ret (.v (.int .u8 (A.sat s i))))
 |_=>KM.fail
def Rz(x:AV)(lo hi:Option AV):KM AV:=match x with
 |.v (.string s)=>KM.idxO 0 lo λl=>KM.idxO (A.slen s) hi λh=>KM.test (J1 l h (A.slen s)) (KM.ret (.v (.string (A.ssub s l h))))
 |_=>KM.fail
def Wy(e:Nat)(x:AV):KM (Nat × List AV):=match x with
 |.sl b o n e'=>if e'=e then(KM.gen (AM.getB b)).bind λk=>KM.test (ApA (o+n*e) k.cells.length) (match (k.ex||AW ((k.cells.drop o).take (n*e))) with
   |true=>KM.ret (n,(k.cells.drop o).take (n*e))
   |false=>KM.fail)
   else KM.fail
 |.ls xs=>KM.test (Gp e xs) (KM.ret (AQ xs,IP xs))
 |.v (.slice none 0 0)=>KM.ret (0,[])
 |_=>KM.fail
def Agp(e bytes:Nat)(s:AV)(m:Nat)(xs:List AV):KM AV:=match s with
 |.v (.slice none 0 0)=>KM.test (Bf m bytes) ((KM.gen (AM.newB ⟨xs,true,true⟩)).bind λb=>KM.ret (.sl b 0 m e))
 |.sl b o n e'=>(match ApT e' e with
  |true=>KM.test (Bf (n+m) bytes) ((KM.gen (AM.getB b)).bind λk=>match k.ex,k.st with
   |true,true=>KM.test (ApA (o+n*e) k.cells.length) ((KM.gen (AM.delB b)).bind λ_=>(KM.gen (AM.newB ⟨(k.cells.take (o+n*e)).drop o++xs,true,true⟩)).bind λb'=>KM.ret (.sl b' 0 (n+m) e))
   |true,false=>KM.test (ApT (o+n*e) k.cells.length) ((KM.gen (AM.setB b { k with ex:=false })).bind λ_=>(KM.gen (AM.newB ⟨(k.cells.take (o+n*e)).drop o++xs,false,true⟩)).bind λb'=>KM.ret (.sl b' 0 (n+m) e))
   |_,_=>KM.fail)
  |false=>KM.fail)
 |_=>KM.fail
def AiL(e bytes:Nat)(s x:AV):KM AV:=(Wy e x).bind λr=>KM.brk (ApT r.1 0) (if SO s=true then KM.ret s else KM.fail) (KM.test (J9 r.2) (Agp e bytes s r.1 r.2))
def Abq(z:List Value)(e bytes:Nat)(l c:AV):KM AV:=KM.idx l λn=>KM.idx c λm=>KM.test (ApA n m) (KM.test (Bf m bytes) ((KM.gen (AM.newB ⟨Cj (z.map .v) (n*e),true,true⟩)).bind λb=>KM.ret (.sl b 0 n e)))
def Ai0(e:Nat)(d x:AV):KM AV:=match d with
 |.sl b o n e'=>(match ApT e' e with
  |true=>(Wy e x).bind λr=>KM.test (J9 (r.2.take (Aqs r.1 n*e))) ((KM.gen (AM.getB b)).bind λk=>match k.st with
    |true=>KM.test (ApA (o+n*e) k.cells.length) ((KM.gen (AM.setB b { k with cells:=AZ k.cells o (r.2.take (Aqs r.1 n*e)) })).bind λ_=>KM.ret (.v (.int .i64 (Int.ofNat (Aqs r.1 n)))))
    |false=>KM.fail)
  |false=>KM.fail)
 |_=>KM.fail
def AiZ(z:List Value)(e:Nat)(x:AV):KM AV:=match x with
 |.sl b o n e'=>(match ApT e' e with
  |true=>(KM.gen (AM.getB b)).bind λk=>match k.st with
   |true=>KM.test (ApA (o+n*e) k.cells.length) ((KM.gen (AM.setB b { k with cells:=AZ k.cells o (Cj (z.map .v) (n*e)) })).bind λ_=>KM.ret (.tup []))
   |false=>KM.fail
  |false=>KM.fail)
 |_=>KM.fail
mutual
def R9:Nat->AV->KM AV
 |0,x=>KM.gen (frz0 x)
 |n+1,x=>match x with
  |.v z=>KM.ret (Abw z)
  |.sl b o m e=>(KM.gen (AM.getB b)).bind λk=>KM.test (ApA (o+m*e) k.cells.length) ((match k.st with
    |true=>KM.gen (AM.setB b { k with st:=false })
    |false=>KM.ret ()).bind λ_=>match (k.ex||AW ((k.cells.drop o).take (m*e))) with
     |true=>KM.ret (.ls (Bp m e ((k.cells.drop o).take (m*e))))
     |false=>(JZ n ((k.cells.drop o).take (m*e))).bind λcs=>match AW cs with
      |true=>KM.ret (.ls (Bp m e cs))
      |false=>KM.fail)
  |.agg cs=>(JZ n cs).bind λcs=>KM.ret (.agg cs)
  |.tup cs=>(JZ n cs).bind λcs=>KM.ret (.tup cs)
  |x=>KM.ret x
def JZ:Nat->List AV->KM (List AV)
 |_,[]=>KM.ret []
 |0,_::_=>KM.fail
 |n+1,x::r=>(R9 n x).bind λx=>(JZ n r).bind λr=>KM.ret (x::r)
end
def AaB(b:Nat):KM Unit:=(KM.gen (AM.getB b)).bind λk=>match k.ex,k.st with
 |false,true=>(JZ 1000 k.cells).bind λcs=>(KM.gen (AM.getB b)).bind λk2=>(match k2.ex,ApT cs.length k2.cells.length with
  |false,true=>KM.gen (AM.setB b { k2 with cells:=cs })
  |_,_=>KM.fail)
 |_,_=>KM.ret ()
def J0:List Nat->List AV->KM (List AV)
 |[],T=>KM.ret T
 |t::r,T=>match T[t]? with
  |some (.ptr b _)=>(AaB b).bind λ_=>J0 r T
  |some x=>(R9 1000 x).bind λy=>J0 r (T.set t y)
  |none=>J0 r T
def Pz(f:Nat):Nat->List AV->KM (List AV)
 |_,[]=>KM.ret []
 |i,x::r=>match AbL own f i with
  |true=>(Pz f (i+1) r).bind λr=>KM.ret (x::r)
  |false=>(R9 1000 x).bind λx=>(Pz f (i+1) r).bind λr=>KM.ret (x::r)
def QN(key:Key)(e:AV × List BO->KM (AV × List BO))(args:List AV):KM AV:=
 (KM.gen (trav 4096 (Eg args) [])).bind λL=>(KM.gen (readAll L)).bind λbs=>
  ((KM.ask D key (Hc (λb=>idx b L) args) (bs.map (ABlk.ren λb=>idx b L))).bind e).bind λr=>
    match Ng r.2.length r.1.ids,QE r.2.length r.2 with
    |true,true=>(KM.gen nextB).bind λn=>(KM.gen (writeAll (G0 L n) L r.2)).bind λout=>(KM.gen (newAll (G0 L n) out)).bind λ_=>KM.ret (r.1.ren (G0 L n))
    |_,_=>KM.fail
def ansF(f:Nat)(r:AV × List BO):KM (AV × List BO):=match CA f Hn.fn with
 |some (s,l)=>(KM.exp s r.1).bind λx=>(KM.expO l r.2).bind λo=>KM.ret (x,o)
 |none=>KM.ret r
def QO(f:FuncId)(args:List AV):KM AV:=(Pz own f 0 args).bind λl=>QN D (.fn f) (ansF Hn f) l
def Zt:Nat->AV
 |0=>.v (.bool true)
 |i+1=>.v (.int .i64 (Int.ofNat i))
def ansX:List (Nat × (List Sh × List Os))->AV->List AV->List BO->KM (AV × List BO)
 |[],_,_,_=>KM.fail
 |(k,s,l)::r,x,ys,o=>KM.brk (A9 k x) ((KM.expL s ys).bind λys=>(KM.expO l o).bind λo=>KM.ret (.tup (Zt k::ys),o)) (ansX r x ys o)
def ansL(i:Nat)(r:AV × List BO):KM (AV × List BO):=match CA i Hn.lp with
 |some l=>λH s k=>KK r.1 λcs=>Eu cs λx ys=>ansX l x ys r.2 H s k
 |none=>KM.ret r
def U2(f i:Nat)(xs:List AV):KM (AX × List AV):=(QN D (.lp f i) (ansL Hn i) xs).bind λr=>match r with
 |.tup (x::ys)=>(match Uc x with
  |some ax=>KM.ret (ax,ys)
  |none=>KM.fail)
 |_=>KM.fail
def opK(d:Option Nat)(o:MO)(T:List AV):KM AV:=match o with
 |.pick c a b=>(match AK T c with
  |.v (.bool t)=>KM.brk t (KM.ret (AK T a)) (KM.ret (AK T b))
  |_=>KM.fail)
 |.ld row n a=>Abk Hn d row n (AK T a)
 |.st n a x=>Vx n (AK T a) (AK T x)
 |.bin ek b x y=>(match ek with
  |0=>AiT A b (AK T x) (AK T y)
  |ek=>KM.opt (AdO A ek b (AK T x) (AK T y)))
 |.slice e x lo hi=>Vt e (AK T x) (lo.map (AK T)) (hi.map (AK T))
 |.iaddr e x i=>UT Hn d e (AK T x) (AK T i)
 |.aaddr n e x i=>T8 n e (AK T x) (AK T i)
 |.index n e row sz x i=>UV d n e row sz (AK T x) (AK T i)
 |.mksl z e bytes l c=>Abq z e bytes (AK T l) (AK T c)
 |.app e bytes s x=>AiL e bytes (AK T s) (AK T x)
 |.cpy e d x=>Ai0 e (AK T d) (AK T x)
 |.clr z e x=>AiZ z e (AK T x)
 |.sidx x i=>Acp A (AK T x) (AK T i)
 |.sslice x lo hi=>Rz A (AK T x) (lo.map (AK T)) (hi.map (AK T))
 |.callF f args=>QO D own Hn f (O4 T args)
 |.callV ents x args=>(match AK T x with
  |.fn (.func g) a cs=>(match ents.testBit g with
   |true=>QO D own Hn g (a++O4 T args++cs)
   |false=>KM.fail)
  |_=>KM.fail)
 |o=>KM.gen (mop A (λ_ _=>AM.fail) o T)
def ZM(o:MOp)(T:List AV):KM AV:=match o.g with
 |none=>opK A D own Hn o.dst o.op T
 |some (d,want)=>(match T[d]? with
  |some (.v (.bool b))=>KM.brk (match want with
   |true=>b
   |false=>A.not b) (opK A D own Hn o.dst o.op T) (KM.ret AV.undef)
  |some (.v (.tuple _))=>KM.ret AV.undef
  |_=>KM.fail)
def Aja(v:Value)(k:Value->KR):KR:=match v with
 |.int kd n=>k (.int kd n)
 |.bool b=>k (.bool b)
 |.string s=>k (.string s)
 |.tuple t=>k (.tuple t)
 |v=>k v
theorem Ad8(v:Value)(k:Value->KR):Aja v k=k v:=by
 unfold Aja;split<;>rfl
def gL(f:AV->(AV->KR)->KR)(l:List AV)(k:List AV->KR):KR:=match l with
 |[]=>k []
 |x::r=>f x λx=>gL f r λr=>k (x::r)
theorem Ago{f:AV->(AV->KR)->KR}(hf:∀ x k,f x k=k x):∀(l:List AV) (k:List AV->KR),gL f l k=k l
 |[],_=>rfl
 |x::r,k=>by simp only[gL,hf,Ago hf r]
def gAV(d:Nat)(x:AV)(k:AV->KR):KR:=match d with
 |0=>k x
 |d+1=>match x with
  |.v x=>Aja x λx=>k (.v x)
  |.ptr b o=>k (.ptr b o)
  |.sl b o n e=>k (.sl b o n e)
  |.ls xs=>k (.ls xs)
  |.lp cs=>gL (gAV d) cs λcs=>k (.lp cs)
  |.agg cs=>gL (gAV d) cs λcs=>k (.agg cs)
  |.tup cs=>gL (gAV d) cs λcs=>k (.tup cs)
  |.fn f a c=>gL (gAV d) a λa=>gL (gAV d) c λc=>k (.fn f a c)
  |.any=>k .any
theorem AaD:∀(d:Nat) (x:AV) (k:AV->KR),gAV d x k=k x
 |0,_,_=>rfl
 |d+1,x,k=>by cases x<;>simp only[gAV,Ad8,Ago (AaD d)]
def gB(e:Bool)(x:AV)(s:Sc)(k:AV->Sc->KR):KR:=match e,x with
 |true,.v (.bool b)=>brS s b (λs=>k (.v (.bool true)) s) (λs=>k (.v (.bool false)) s)
 |_,x=>k x s
def Ai8:MO->Bool
 |.mv _=>false
 |.ld _ _ _=>false
 |.field _ _ _ _=>false
 |.ext _ _=>false
 |_=>true
def gSp{β:Type}(l:List β)(k:List β->KR):KR:=match l with
 |[]=>k []
 |x::r=>gSp r λr=>k (x::r)
theorem UL{β:Type}:∀(l:List β) (k:List β->KR),gSp l k=k l
 |[],_=>rfl
 |x::r,k=>by simp only[gSp,UL r]
def gBl(l:List (Nat × ABlk))(k:List (Nat × ABlk)->KR):KR:=match l with
 |[]=>k []
 |(b,⟨cs,st,ex⟩)::r=>gBl r λr=>k ((b,⟨cs,st,ex⟩)::r)
theorem AaE:∀(l:List (Nat × ABlk)) (k:List (Nat × ABlk)->KR),gBl l k=k l
 |[],_=>rfl
 |(b,⟨cs,st,ex⟩)::r,k=>by simp only[gBl,AaE r]
def gH(H:AH)(k:AH->KR):KR:=match H with
 |⟨l,n,t⟩=>gBl l λl=>k ⟨l,n,t⟩
theorem AkV(H:AH)(k:AH->KR):gH H k=k H:=by
 obtain⟨l,n,t⟩:=H;simp only[gH,AaE]
def gFt(f:Foot)(k:Foot->KR):KR:=match f with
 |⟨rd,wr⟩=>gSp rd λrd=>gSp wr λwr=>k ⟨rd,wr⟩
theorem Ai9(f:Foot)(k:Foot->KR):gFt f k=k f:=by
 obtain⟨rd,wr⟩:=f;simp only[gFt,UL]
def Afq:List MOp->List AV->AH->Sc->(List AV->AH->List Foot->Sc->KR)->KR
 |[],T,H,s,k=>k T H [] s
 |o::r,T,H,s,k=>ZM A D own Hn o T H s λv H f s=>gAV 3 v λv=>gB (Ai8 o.op) v s λv s=>gSp (Ca T o.dst v) λT=>gFt f λf=>gH H λH=>Afq r T H s λT H fs s=>k T H (f::fs) s
def AjZ(ops:List MOp)(bf:Option (List Nat))(T:List AV):KM (AX × List AV):=λH s k=>Afq A D own Hn ops T H s λT H fs s=>match bf with
 |none=>k (.normal,T) H ⟨fs.flatMap (·.rd),fs.flatMap (·.wr)⟩ s
 |some bf=>(match D0 bf fs with
  |true=>k (.normal,T) H ⟨fs.flatMap (·.rd),fs.flatMap (·.wr)⟩ s
  |false=>none)
def Za(f:Nat):MC->List AV->KM (AX × List AV)
 |.skip,T=>KM.ret (.normal,T)
 |.reg ops bf,T=>AjZ A D own Hn ops bf T
 |.seq a b,T=>(Za f a T).bind λr=>match r.1 with
  |.normal=>Za f b r.2
  |ax=>KM.ret (ax,r.2)
 |.cond c a b,T=>(match AK T c with
  |.v (.bool t)=>KM.brk t (Za f a T) (Za f b T)
  |_=>KM.fail)
 |.block id c,T=>(Za f c T).bind λr=>match r.1 with
  |.exit i=>if i=id then KM.ret (.normal,r.2) else KM.ret (.exit i,r.2)
  |ax=>KM.ret (ax,r.2)
 |.loop i h,T=>(KM.gen (adoptM h.ad T)).bind λT=>(J0 h.fz T).bind λT=>match ApT T.length h.n with
  |true=>(U2 D Hn f i (Cg h.live T)).bind λr=>KM.ret (r.1,BP (h.out r.1) h.n r.2)
  |false=>KM.fail
 |.exit id,T=>KM.ret (.exit id,T)
 |.ret,T=>KM.ret (.ret,T)
 |.bad,_=>KM.fail
def Ab0(T:List AV):List MRes->KM (List AV)
 |[]=>KM.ret []
 |.tmp t::r=>(Ab0 T r).bind λl=>KM.ret ((T[t]?).getD AV.undef::l)
 |.cell x row n::r=>(Abk Hn none row n ((T[x]?).getD AV.undef)).bind λv=>(Ab0 T r).bind λl=>KM.ret (v::l)
def NA(n:Nat)(r:AV)(H:AH)(ft:Foot):KR:=
 match (DG 0 n).map (Vg H ft.wr)++(DG n (H.next-n)).map (Ae8 H) with
 |out=>(match FL n out 4096 (r.ids++UU (I8 out n)) []with
  |none=>none
  |some acc=>some (r.ren (XG n acc),AbY (XG n acc) (I8 out n)++Tc (XG n acc) out acc))
def By(s:Sc)(f:Nat)(mf:MFn)(args:List AV)(bs:List ABlk):KR:=((Za A D own Hn f mf.body (Q2 mf.nt args)).bind λr=>match r.1 with
 |.exit _=>KM.fail
 |.goto _=>KM.fail
 |_=>(Ab0 Hn r.2 mf.res).bind λl=>(match mf.own with
  |true=>KM.ret (IU l)
  |false=>R9 1000 (IU l)).bind λv=>match mf.tch with
   |true=>(KM.gen (touchI (Eg args))).bind λ_=>KM.ret v
   |false=>KM.ret v) ⟨CX 0 bs,bs.length,none⟩ s λv H ft _=>NA bs.length v H ft
def AbB(n:Nat):List Nat->List Nat
 |[]=>[]
 |x::r=>match AqD x n,Fi x r with
  |true,false=>x::AbB n r
  |_,_=>AbB n r
def AD(n:Nat)(L:List Nat)(H:AH)(wr:List Nat)(r:AV)(o:List BO):KR:=match Ng o.length r.ids,QE o.length o with
 |true,true=>(match (nextB.bind λn=>(writeAll (G0 L n) L o).bind λout=>(newAll (G0 L n) out).bind λ_=>AM.ret (r.ren (G0 L n))) H with
  |some (.tup (x::ys),H',f)=>(match Uc x with
   |some ax=>NA n (.tup (Zr ax::ys)) H' ⟨[],wr++f.wr⟩
   |none=>none)
  |_=>none)
 |_,_=>none
def AjY(f i:Nat)(xs:List AV)(H:AH)(ft:Foot)(n:Nat):KR:=match trav 4096 (Eg xs) [] H with
 |some (L,_,f1)=>(match readAll L H with
  |some (bs,_,f2)=>AE D (.lp f i) (Hc (λb=>idx b L) xs) (bs.map (ABlk.ren λb=>idx b L)) λr o=>AD n L H (AbB n (ft.wr++(f1.wr++f2.wr))) r o
  |none=>none)
 |none=>none
def Di(s:Sc)(f i:Nat)(h:LpH)(c:MC)(xs:List AV)(bs:List ABlk):KR:=Za A D own Hn f c (BP h.live h.n xs) ⟨CX 0 bs,bs.length,none⟩ s λr H ft s=>match r.1 with
 |.normal=>J0 h.fz r.2 H s λT H g _=>AjY D f i (Cg h.live T) H ⟨ft.rd++g.rd,ft.wr++g.wr⟩ bs.length
 |.goto _=>none
 |ax=>((J0 (h.fzo ax) r.2).bind λT=>(KM.gen (delT (h.dlo ax) T)).bind λ_=>(KM.gen (touchA (h.nt ax) (Cg (h.out ax) T))).bind λys=>KM.ret (.tup (Zr ax::ys))) H s λv H f _=>NA bs.length v H ⟨ft.rd++f.rd,ft.wr++f.wr⟩
end
end
section
open Go.RowKit
def SK{α:Type}(m:AM α)(mK:KM α):Prop:=∀ H s k r,mK H s k=some r->∃ a H' f s',m H=some (a,H',f)/\k a H' f s'=some r
section
variable {α β:Type}
theorem SK.ret(a:α):SK (AM.ret a) (KM.ret a):=λH s k r h=>⟨a,H,⟨[],[]⟩,s,rfl,h⟩
theorem SK.fail(m:AM α):SK m (KM.fail):=λH s k r h=>by cases h
theorem SK.gen(m:AM α):SK m (KM.gen m):=λH s k r h=>by
 unfold KM.gen at h;split at h
 .exact⟨_,_,_,s,‹_›,h⟩
 .cases h
theorem SK.opt:∀ o:Option α,SK (AM.opt o) (KM.opt o)
 |some a=>SK.ret a
 |none=>SK.fail _
theorem SK.bind{m:AM α}{mK:KM α}{f:α->AM β}{fK:α->KM β}(hm:SK m mK)(hf:∀ a,SK (f a) (fK a)):SK (m.bind f) (mK.bind fK):=λH s k r h=>by
 obtain⟨a,H1,f1,s1,h1,h2⟩:=hm H s _ r h;obtain⟨b,H2,f2,s2,h3,h4⟩:=hf a H1 s1 _ r h2;refine⟨b,H2,_,s2,?_,h4⟩;unfold AM.bind;simp only[h1,h3]
theorem JO{b:Bool}{x y:KR}{r:AV × List BO}(h:br b x y=some r):(b=true/\x=some r)\/(b=false/\y=some r):=by
 cases b
 .exact .inr ⟨rfl,h⟩
 .exact .inl ⟨rfl,h⟩
theorem RS{s:Sc}{c:Bool}{x y:Sc->KR}{r:AV × List BO}(h:brS s c x y=some r):∃ s',(c=true/\x s'=some r)\/(c=false/\y s'=some r):=by
 unfold brS at h;split at h
 .rcases JO h with⟨e,h⟩|⟨e,h⟩
  .exact⟨_,.inl ⟨e,h⟩⟩
  .exact⟨_,.inr ⟨e,h⟩⟩
 .rcases JO h with⟨e,h⟩|⟨e,h⟩
  .exact⟨_,.inl ⟨e,h⟩⟩
  .exact⟨_,.inr ⟨e,h⟩⟩
 .rcases JO h with⟨e,h⟩|⟨e,h⟩
  .exact⟨_,.inl ⟨e,h⟩⟩
  .cases h
 .rcases JO h with⟨e,h⟩|⟨e,h⟩
  .cases h
  .exact⟨_,.inr ⟨e,h⟩⟩
theorem SK.brk{b:Bool}{m:AM α}{x y:KM α}(hx:b=true->SK m x)(hy:b=false->SK m y):SK m (KM.brk b x y):=λH s k r h=>by
 obtain⟨s',⟨e,h⟩|⟨e,h⟩⟩:=RS h
 .exact hx e H s' k r h
 .exact hy e H s' k r h
theorem SK.test{b:Bool}{m:AM α}{x:KM α}(hx:b=true->SK m x):SK m (KM.test b x):=λH s k r h=>by
 rcases JO h with⟨e,h⟩|⟨e,h⟩
 .exact hx e H s k r h
 .cases h
theorem SK.unI{n:Int}{m:AM α}{f:Nat->KM α}(hf:∀ i,n=.ofNat i->SK m (f i)):SK m (KM.unI n f):=λH s k r h=>by
 unfold KM.unI Go.Proofs.YtlmhajfbpplpoaaGreat.unI at h
 cases n with
 |ofNat i=>exact hf i rfl H s k r h
 |negSucc i=>cases h
theorem SK.idx{x:AV}{m:AM α}{f:Nat->KM α}(hf:∀ i,x.idx=some i->SK m (f i)):SK m (KM.idx x f):=by
 unfold KM.idx;split
 .exact SK.unI λi e=>hf i (by rw[e];rfl)
 .exact SK.fail _
theorem SK.idxO{n:Nat}{x:Option AV}{m:AM α}{f:Nat->KM α}(hf:∀ i,MG n x=some i->SK m (f i)):SK m (KM.idxO n x f):=by
 unfold KM.idxO
 cases x with
 |none=>exact hf n rfl
 |some x=>exact SK.idx λi e=>hf i e
theorem SK.nth{xs:List (List AV)}{i:Nat}{m:AM α}{f:List AV->KM α}(hf:∀ cs,S6 xs i=some cs->SK m (f cs)):SK m (KM.nth xs i f):=λH s k r h=>by
 unfold KM.nth Bh at h;split at h
 .exact hf _ ‹_› H s k r h
 .cases h
theorem SK.rd{cells:List AV}{o n:Nat}{f:List AV->AM β}{fK:List AV->KM β}{m:AM β}(hm:o+n<=cells.length->m=f ((cells.drop o).take n))(hf:∀ cs,SK (f cs) (fK cs)):SK m ((KM.rd cells o n).bind fK):=λH s k r h=>by
 unfold KM.bind KM.rd IE at h;split at h
 .rename_i e
  rw[hm (by simpa using e)];exact hf _ H s _ r (by simpa using h)
 .cases h
end
mutual
theorem LS:∀(s:Sh) (x:AV) {K:AV->KR} {r:AV × List BO},De s x K=some r->K x=some r
 |.int kd,x,K,r,h=>by
  simp only[De,Jb]at h;split at h
  .split at h
   .rename_i e;rw[←e]at h;exact h
   .cases h
  .cases h
 |.bool,x,K,r,h=>by
  simp only[De,Ii]at h;split at h
  .exact h
  .cases h
 |.str,x,K,r,h=>by
  simp only[De,Qm]at h;split at h
  .exact h
  .cases h
 |.ls,x,K,r,h=>by
  simp only[De,LK]at h;split at h
  .exact h
  .cases h
 |.lp l,x,K,r,h=>by
  simp only[De,AmH]at h;split at h
  .exact h
  .exact BV l _ h
  .cases h
 |.agg l,x,K,r,h=>by
  simp only[De,Mq]at h;split at h
  .exact BV l _ h
  .cases h
 |.tup l,x,K,r,h=>by
  simp only[De,KK]at h;split at h
  .exact BV l _ h
  .cases h
 |.sl b e,x,K,r,h=>by
  simp only[De,VD]at h;split at h
  .split at h
   .rename_i e1 e2
    have e1:b=_:=ApX e1;have e2:e=_:=ApX e2;rw[←e1,←e2];exact h
   .cases h
  .cases h
 |.ptr b o,x,K,r,h=>by
  simp only[De,KJ]at h;split at h
  .split at h
   .rename_i e1 e2
    have e1:b=_:=ApX e1;have e2:o=_:=ApX e2;rw[←e1,←e2];exact h
   .cases h
  .cases h
 |.cst v,x,K,r,h=>by
  simp only[De,WY]at h;split at h
  .rename_i u
   split at h
   .rename_i e
    have:v=u:=by
     unfold Ahm at e;split at e
     .rfl
     .rfl
     .cases e
    rw[←this];exact h
   .cases h
  .cases h
 |.fnc f,x,K,r,h=>by
  simp only[De,YV]at h;split at h
  .split at h
   .rename_i e
    have:=ApX e;subst this;exact h
   .cases h
  .cases h
 |.any,x,K,r,h=>by simpa only[De]using h
theorem BV:∀(l:List Sh) (cs:List AV) {K:List AV->KR} {r:AV × List BO},Ck l cs K=some r->K cs=some r
 |[],cs,K,r,h=>by
  simp only[Ck,Fe]at h;split at h
  .exact h
  .cases h
 |s::l,cs,K,r,h=>by
  have gen:(Eu cs λc r=>De s c λc=>Ck l r λr=>K (c::r))=some r->K cs=some r:=λh=>by
   simp only[Eu]at h;split at h
   .cases h
   .have:=BV l _ (LS s _ h)
    exact this
  cases s with
  |int kd=>
   simp only[Ck,Nk]at h;split at h
   .split at h
    .rename_i e
     have:=BV l _ h;rw[←e]at this;exact this
    .cases h
   .cases h
  |bool=>
   simp only[Ck,Pj]at h;split at h
   .have:=BV l _ h
    exact this
   .cases h
  |str=>
   simp only[Ck,Xo]at h;split at h
   .have:=BV l _ h
    exact this
   .cases h
  |ls=>
   simp only[Ck,cLs]at h;split at h
   .have:=BV l _ h
    exact this
   .cases h
  |_=>
   simp only[Ck]at h;exact gen h
end
theorem Dy:∀(l:List Os) (o:List BO) {K:List BO->KR} {r:AV × List BO},Fs l o K=some r->K o=some r
 |[],cs,K,r,h=>by
  simp only[Fs,CZ]at h;split at h
  .exact h
  .cases h
 |s::l,o,K,r,h=>by
  simp only[Fs,Ey]at h;split at h
  .cases h
  .cases s with
   |keep=>
    simp only[LJ]at h;split at h
    .have:=Dy l _ h
     exact this
    .cases h
   |del=>
    simp only[Ql]at h;split at h
    .have:=Dy l _ h
     exact this
    .cases h
   |row st=>
    simp only[Gm]at h;split at h
    .split at h
     .rename_i e
      obtain⟨rfl,rfl⟩:=e;have:=Dy l _ h;exact this
     .cases h
    .cases h
   |box m=>
    simp only[Gm]at h;split at h
    .split at h
     .rename_i e
      obtain⟨rfl,rfl⟩:=e;have:=Dy l _ (BV m _ h);exact this
     .cases h
    .cases h
theorem SK.exp(t:Sh)(x:AV):SK (AM.ret x) (KM.exp t x):=λH s k r h=>⟨x,H,⟨[],[]⟩,s,rfl,LS t x h⟩
theorem SK.expL(t:List Sh)(x:List AV):SK (AM.ret x) (KM.expL t x):=λH s k r h=>⟨x,H,⟨[],[]⟩,s,rfl,BV t x h⟩
theorem SK.expO(t:List Os)(x:List BO):SK (AM.ret x) (KM.expO t x):=λH s k r h=>⟨x,H,⟨[],[]⟩,s,rfl,Dy t x h⟩
theorem SK.look{α β:Type}{x:α}{mK:KM α}(hm:SK (AM.ret x) mK){f:α->AM β}{fK:α->KM β}(hf:∀ a,SK (f a) (fK a)):SK (f x) (mK.bind fK):=λH s k r h=>by
 obtain⟨a,H1,f1,s1,h1,h2⟩:=hm H s _ r h;obtain⟨rfl,rfl⟩:=Ak h1;have e:f1=⟨[],[]⟩:=by
  simp only[AM.ret,Θ,Prod.mk.injEq]at h1;exact h1.2.2.symm
 subst e;exact hf _ _ _ _ r (by simpa using h2)
section
variable {A:Ar} {D:Orc} {own:List (Nat × Nat)} {Hn:Hnt}
theorem SK.tm(d:Option Nat)(cs:List AV):SK (AM.ret cs) (tmK Hn d cs):=by
 unfold tmK;split
 .split
  .exact SK.expL _ _
  .exact SK.ret _
 .exact SK.ret _
theorem SK.rdAt(d:Option Nat)(a:AV)(n:Nat):SK (rdAt a n) (WL Hn d a n):=by
 unfold WL;split
 .unfold Go.Proofs.YtlmhajfbpplpoaaGreat.rdAt
  refine SK.bind (SK.gen _) λk=>SK.rd (f:=λcs=>AM.ret cs) (λh=>if_pos h) λcs=>?_
  split
  .exact SK.tm _ _
  .exact SK.ret _
 .exact SK.gen _
theorem SK.load(d:Option Nat)(row:Bool)(n:Nat)(a:AV):SK (loadM row n a) (Abk Hn d row n a):=by
 cases row with
 |true=>exact SK.bind (SK.rdAt _ _ _) λ_=>SK.ret _
 |false=>exact SK.bind (SK.rdAt _ _ _) λ_=>SK.opt _
theorem SK.store(n:Nat)(a x:AV):SK (storeM n a x) (Vx n a x):=by
 unfold storeM Vx
 cases a with
 |ptr b o=>
  simp only;split
  .refine SK.bind (SK.gen _) λk=>?_
   by_cases h:k.st=true/\(!k.ex||AW x.cells)=true
   .rw[if_pos h]
    refine SK.test λe=>?_
    rw[if_pos ⟨h.1,by simpa using e,h.2⟩];exact SK.bind (SK.gen _) λ_=>SK.ret _
   .rw[if_neg h]
    exact SK.fail _
  .exact SK.fail _
 |_=>exact SK.fail _
theorem SK.iaddr(d:Option Nat)(e:Nat)(x ix:AV):SK (AM.opt (NQ e x ix)) (UT Hn d e x ix):=by
 unfold UT;refine SK.idx λi hi=>?_
 unfold NQ;simp only[hi]
 cases x with
 |sl b o n e'=>
  simp only;refine SK.test λh=>?_
  rw[h];simp only;split
  .exact SK.ret _
  .exact SK.fail _
 |ls xs=>
  simp only;refine SK.nth λcs h=>?_
  rw[h];simp only;refine SK.look (f:=λ(cs:List AV)=>AM.opt (match ApT cs.length e with
   |true=>some (AV.lp cs)
   |false=>none)) (SK.tm d cs) λcs=>?_
  cases ApT cs.length e with
  |true=>exact SK.ret _
  |false=>exact SK.fail _
 |_=>exact SK.fail _
theorem SK.aaddr(n e:Nat)(x ix:AV):SK (AM.opt (Qy n e x ix)) (T8 n e x ix):=by
 unfold T8;refine SK.idx λi hi=>?_
 unfold Qy;simp only[hi];refine SK.test λh=>?_
 rw[h];exact SK.opt _
theorem AcF{cs:List AV}{o:Nat}(h:o+1<=cs.length):Ve ((cs.drop o).take 1)=cs[o]?:=by
 have h1:o<cs.length:=h;rw[List.getElem?_eq_getElem h1,List.drop_eq_getElem_cons h1];rfl
theorem SK.index(d:Option Nat)(n e:Nat)(row:Bool)(sz:Nat)(x ix:AV):SK (AM.opt (NS n e row sz x ix)) (UV d n e row sz x ix):=by
 unfold UV;refine SK.idx λi hi=>?_
 unfold NS
 cases x with
 |agg cs=>
  simp only[hi];refine SK.test λh=>?_
  rw[h];simp only;unfold Tb
  cases row with
  |true=>exact SK.rd (f:=λxs=>AM.ret (.agg xs)) (λ_=>rfl) λ_=>SK.ret _
  |false=>exact SK.rd (f:=λxs=>AM.opt (Ve xs)) (λh=>by rw[AcF h]) λ_=>SK.opt _
 |_=>exact SK.fail _
theorem NR{l h n:Nat}(e:J1 l h n=true):ApA l h=true/\ApA h n=true:=by
 unfold J1 at e;split at e
 .exact⟨‹_›,e⟩
 .cases e
theorem Jn{n b:Nat}(e:Bf n b=true):ApA (n*b) 140737488355328=true/\ApA n maxLen=true:=by
 unfold Bf at e;split at e
 .exact⟨‹_›,e⟩
 .cases e
theorem SK.slice(e:Nat)(x:AV)(lo hi:Option AV):SK (AM.opt (Ou e x lo hi)) (Vt e x lo hi):=by
 unfold Vt Ou
 cases x with
 |sl b o n e'=>
  simp only;refine SK.idxO λl hl=>SK.idxO λh hh=>SK.test λhb=>?_
  rw[hl,hh];obtain⟨h1,h2⟩:=NR hb;simp only[h1,h2]
  cases ApT e' e with
  |true=>exact SK.ret _
  |false=>exact SK.fail _
 |ls xs=>
  simp only;refine SK.idxO λl hl=>SK.idxO λh hh=>SK.test λhb=>SK.test λhw=>?_
  rw[hl,hh];obtain⟨h1,h2⟩:=NR hb;simp only[h1,h2,hw];exact SK.ret _
 |_=>exact SK.fail _
theorem SK.bin(b:BinOp)(x y:AV):SK (AM.opt (JN A b x y)) (AiT A b x y):=by
 unfold AiT;split
 .rename_i k a k' c
  cases b with
  |shl=>
   simp only;refine SK.brk (λ_=>SK.fail _) λh=>?_
   simp only[JN,h];exact SK.ret _
  |shr=>
   simp only;refine SK.brk (λ_=>SK.fail _) λh=>?_
   simp only[JN,h];exact SK.ret _
  |quo=>
   simp only;split
   .rename_i e
    refine SK.brk (λ_=>SK.fail _) λh=>?_
    simp only[JN,h,if_pos e];exact SK.ret _
   .exact SK.fail _
  |rem=>
   simp only;split
   .rename_i e
    refine SK.brk (λ_=>SK.fail _) λh=>?_
    simp only[JN,h,if_pos e];exact SK.ret _
   .exact SK.fail _
  |neq=>
   simp only;split
   .rename_i e
    refine SK.brk (λh=>?_) λh=>?_<;>(simp only[JN,h,if_pos e];exact SK.ret _)
   .exact SK.fail _
  |_=>exact SK.opt _
 .cases b with
  |neq=>
   simp only;refine SK.brk (λh=>?_) λh=>?_<;>(simp only[JN,h];exact SK.ret _)
  |add=>
   simp only;refine SK.test λh=>?_
   simp only[JN,h];exact SK.ret _
  |_=>exact SK.opt _
 .exact SK.opt _
theorem SK.sidx(x i:AV):SK (AM.opt (Tx A x i)) (Acp A x i):=by
 unfold Acp;split
 .refine SK.idx λj hj=>SK.test λh=>?_
  simp only[Tx,hj,h];exact SK.ret _
 .exact SK.fail _
theorem SK.sslice(x:AV)(lo hi:Option AV):SK (AM.opt (KB A x lo hi)) (Rz A x lo hi):=by
 unfold Rz;split
 .refine SK.idxO λl hl=>SK.idxO λh hh=>SK.test λhb=>?_
  obtain⟨h1,h2⟩:=NR hb;simp only[KB,hl,hh,h1,h2];exact SK.ret _
 .exact SK.fail _
theorem SK.news(e:Nat)(x:AV):SK (newsM e x) (Wy e x):=by
 unfold Wy newsM
 cases x with
 |sl b o n e'=>
  simp only;split
  .refine SK.bind (SK.gen _) λk=>SK.test λh=>?_
   rw[h]
   cases (k.ex||AW ((k.cells.drop o).take (n*e))) with
   |true=>exact SK.ret _
   |false=>exact SK.fail _
  .exact SK.fail _
 |ls xs=>
  simp only;refine SK.test λh=>?_
  rw[h];exact SK.ret _
 |v z=>
  cases z with
  |slice a n c=>
   cases a with
   |none=>
    cases n with
    |zero=>
     cases c with
     |zero=>exact SK.ret _
     |succ c=>exact SK.fail _
    |succ n=>exact SK.fail _
   |some a=>exact SK.fail _
  |_=>exact SK.fail _
 |_=>exact SK.fail _
theorem SK.app(e bytes:Nat)(s x:AV):SK (appM e bytes s x) (AiL e bytes s x):=by
 unfold AiL appM;refine SK.bind (SK.news e x) λr=>SK.brk (λh=>?_) λh=>SK.test λh2=>?_
 .rw[h]
  simp only;split
  .exact SK.ret _
  .exact SK.fail _
 .rw[h,h2]
  simp only;unfold Agp
  cases s with
  |sl b o n e'=>
   simp only
   cases he:ApT e' e with
   |false=>exact SK.fail _
   |true=>
    simp only;refine SK.test λh3=>?_
    obtain⟨h4,h5⟩:=Jn h3;simp only[h4,h5];refine SK.bind (SK.gen _) λk=>?_
    cases k.ex with
    |false=>exact SK.fail _
    |true=>
     cases k.st with
     |true=>
      simp only;refine SK.test λh6=>?_
      cases ApT (o+n*e) k.cells.length with
      |true=>exact SK.bind (SK.gen _) λ_=>SK.bind (SK.gen _) λ_=>SK.ret _
      |false=>
       simp only[h6];exact SK.bind (SK.gen _) λ_=>SK.bind (SK.gen _) λ_=>SK.ret _
     |false=>
      simp only;refine SK.test λh6=>?_
      rw[h6];exact SK.bind (SK.gen _) λ_=>SK.bind (SK.gen _) λ_=>SK.ret _
  |v z=>
   cases z with
   |slice a n c=>
    cases a with
    |none=>
     cases n with
     |zero=>
      cases c with
      |zero=>
       refine SK.test λh3=>?_
       obtain⟨h4,h5⟩:=Jn h3;simp only[h4,h5];exact SK.bind (SK.gen _) λ_=>SK.ret _
      |succ c=>exact SK.fail _
     |succ n=>exact SK.fail _
    |some a=>exact SK.fail _
   |_=>exact SK.fail _
  |_=>exact SK.fail _
theorem SK.mksl(z:List Value)(e b:Nat)(l c:AV):SK (mkslM z e b l c) (Abq z e b l c):=by
 unfold Abq mkslM;refine SK.idx λn hn=>SK.idx λm hm=>SK.test λh1=>SK.test λh2=>?_
 obtain⟨h3,h4⟩:=Jn h2;simp only[hn,hm,h1,h3,h4];exact SK.bind (SK.gen _) λ_=>SK.ret _
theorem SK.cpy(e:Nat)(d x:AV):SK (cpyM e d x) (Ai0 e d x):=by
 unfold Ai0 cpyM
 cases d with
 |sl b o n e'=>
  simp only
  cases ApT e' e with
  |false=>exact SK.fail _
  |true=>
   simp only;refine SK.bind (SK.news e x) λr=>SK.test λh=>?_
   rw[h];simp only;refine SK.bind (SK.gen _) λk=>?_
   cases k.st with
   |false=>exact SK.fail _
   |true=>
    simp only;refine SK.test λh2=>?_
    rw[h2];exact SK.bind (SK.gen _) λ_=>SK.ret _
 |_=>exact SK.fail _
theorem SK.clr(z:List Value)(e:Nat)(x:AV):SK (clrM z e x) (AiZ z e x):=by
 unfold AiZ clrM
 cases x with
 |sl b o n e'=>
  simp only
  cases ApT e' e with
  |false=>exact SK.fail _
  |true=>
   simp only;refine SK.bind (SK.gen _) λk=>?_
   cases k.st with
   |false=>exact SK.fail _
   |true=>
    simp only;refine SK.test λh2=>?_
    rw[h2];exact SK.bind (SK.gen _) λ_=>SK.ret _
 |_=>exact SK.fail _
mutual
theorem SK.frz:∀(n:Nat) (x:AV),SK (frz n x) (R9 n x)
 |0,x=>by
  unfold R9 Go.Proofs.YtlmhajfbpplpoaaGreat.frz;exact SK.gen _
 |n+1,x=>by
  unfold R9 Go.Proofs.YtlmhajfbpplpoaaGreat.frz
  cases x with
  |v z=>exact SK.ret _
  |sl b o m e=>
   simp only;refine SK.bind (SK.gen _) λk=>SK.test λh=>?_
   rw[h];simp only;refine SK.bind ?_ λ_=>?_
   .cases k.st with
    |true=>exact SK.gen _
    |false=>exact SK.ret _
   .cases (k.ex||AW ((k.cells.drop o).take (m*e))) with
    |true=>exact SK.ret _
    |false=>
     simp only;refine SK.bind (SK.frzL n _) λcs=>?_
     cases AW cs with
     |true=>exact SK.ret _
     |false=>exact SK.fail _
  |agg cs=>exact SK.bind (SK.frzL n _) λ_=>SK.ret _
  |tup cs=>exact SK.bind (SK.frzL n _) λ_=>SK.ret _
  |_=>exact SK.ret _
theorem SK.frzL:∀(n:Nat) (l:List AV),SK (frzL n l) (JZ n l)
 |n,[]=>by
  unfold JZ Go.Proofs.YtlmhajfbpplpoaaGreat.frzL;exact SK.ret _
 |0,_::_=>by
  unfold JZ;exact SK.fail _
 |n+1,x::r=>by
  unfold JZ Go.Proofs.YtlmhajfbpplpoaaGreat.frzL;exact SK.bind (SK.frz n x) λ_=>SK.bind (SK.frzL n r) λ_=>SK.ret _
end
theorem SK.frzB(b:Nat):SK (frzB b) (AaB b):=by
 unfold AaB Go.Proofs.YtlmhajfbpplpoaaGreat.frzB;refine SK.bind (SK.gen _) λk=>?_
 cases k.ex<;>cases k.st<;>try exact SK.ret _
 refine SK.bind (SK.frzL _ _) λcs=>SK.bind (SK.gen _) λk2=>?_
 cases k2.ex<;>cases ApT cs.length k2.cells.length<;>first
  |exact SK.gen _
  |exact SK.fail _
theorem SK.frzT:∀(l:List Nat) (T:List AV),SK (frzT l T) (J0 l T)
 |[],T=>SK.ret _
 |t::r,T=>by
  unfold J0 Go.Proofs.YtlmhajfbpplpoaaGreat.frzT
  cases T[t]? with
  |none=>exact SK.frzT r T
  |some x=>
   cases x with
   |ptr b o=>exact SK.bind (SK.frzB b) λ_=>SK.frzT r T
   |_=>exact SK.bind (SK.frz _ _) λ_=>SK.frzT r _
theorem SK.frzA(f:Nat):∀(i:Nat) (l:List AV),SK (frzA own f i l) (Pz own f i l)
 |i,[]=>by
  unfold Pz Go.Proofs.YtlmhajfbpplpoaaGreat.frzA;exact SK.ret _
 |i,x::r=>by
  unfold Pz Go.Proofs.YtlmhajfbpplpoaaGreat.frzA
  cases AbL own f i with
  |true=>exact SK.bind (SK.frzA f (i+1) r) λ_=>SK.ret _
  |false=>exact SK.bind (SK.frz 1000 x) λ_=>SK.bind (SK.frzA f (i+1) r) λ_=>SK.ret _
theorem SK.ask(key:Key)(args:List AV)(bs:List ABlk):SK (AM.opt (D.ask key args bs)) (KM.ask D key args bs):=λH s k r h=>by
 unfold KM.ask AE at h;split at h
 .rename_i q e
  rw[e];exact⟨q,H,⟨[],[]⟩,s,rfl,h⟩
 .cases h
theorem SK.callD(key:Key){e:AV × List BO->KM (AV × List BO)}(he:∀ q,SK (AM.ret q) (e q))(args:List AV):SK (callD (D.ask key) args) (QN D key e args):=by
 unfold QN Go.Proofs.YtlmhajfbpplpoaaGreat.callD;refine SK.bind (SK.gen _) λL=>SK.bind (SK.gen _) λbs=>SK.bind ?_ λr=>?_
 .intro H s k r h
  obtain⟨a,H1,f1,s1,h1,h2⟩:=SK.ask key _ _ H s _ r h;obtain⟨b,H2,f2,s2,h3,h4⟩:=he a H1 s1 _ r h2;obtain⟨rfl,rfl⟩:=Ak h3;refine⟨_,_,_,s2,h1,?_⟩;simp only[AM.ret,Θ,Prod.mk.injEq]at h3;rw[←h3.2.2]at h4;simpa using h4
 .cases Ng r.2.length r.1.ids with
  |false=>exact SK.fail _
  |true=>
   cases QE r.2.length r.2 with
   |false=>exact SK.fail _
   |true=>exact SK.bind (SK.gen _) λ_=>SK.bind (SK.gen _) λ_=>SK.bind (SK.gen _) λ_=>SK.ret _
theorem SK.ansF(f:Nat)(q:AV × List BO):SK (AM.ret q) (ansF Hn f q):=by
 unfold Go.Proofs.YtlmhajfbpplpoaaGreat.ansF;split
 .exact SK.look (f:=λx=>AM.ret (x,q.2)) (SK.exp _ _) λx=>SK.look (f:=λo=>AM.ret (x,o)) (SK.expO _ _) λ_=>SK.ret _
 .exact SK.ret _
theorem SK.calls(f:FuncId)(args:List AV):SK (callsM D own f args) (QO D own Hn f args):=by
 unfold QO callsM;exact SK.bind (SK.frzA f 0 args) λl=>SK.callD _ (SK.ansF f) l
theorem AdE{k:Nat}{x:AV}(h:A9 k x=true):x=Zt k:=by
 unfold A9 at h;split at h
 .rfl
 .rename_i i j
  have:i=j:=ApX h;rw[this];rfl
 .cases h
theorem SK.ansX:∀(l:List (Nat × (List Sh × List Os))) (x:AV) (ys:List AV) (o:List BO),SK (AM.ret (.tup (x::ys),o)) (ansX l x ys o)
 |[],_,_,_=>SK.fail _
 |(k,s,l)::r,x,ys,o=>by
  unfold Go.Proofs.YtlmhajfbpplpoaaGreat.ansX;refine SK.brk (λh=>?_) λ_=>SK.ansX r x ys o
  have hx:x=Zt k:=AdE h;rw[←hx];exact SK.look (f:=λys=>AM.ret (ψ (x::ys),o)) (SK.expL _ _) λys=>SK.look (f:=λo=>AM.ret (ψ (x::ys),o)) (SK.expO _ _) λ_=>SK.ret _
theorem SK.ansL(i:Nat)(q:AV × List BO):SK (AM.ret q) (ansL Hn i q):=by
 unfold Go.Proofs.YtlmhajfbpplpoaaGreat.ansL;split
 .rename_i l _
  intro H s k r h;obtain⟨v,o⟩:=q
  cases v with
  |tup cs=>
   cases cs with
   |nil=>cases h
   |cons x ys=>exact SK.ansX l x ys o H s k r h
  |_=>cases h
 .exact SK.ret _
theorem SK.loops(f i:Nat)(xs:List AV):SK (loopsM D f i xs) (U2 D Hn f i xs):=by
 unfold U2 loopsM;refine SK.bind (SK.callD _ (SK.ansL i) xs) λr=>?_
 cases r with
 |tup vs=>
  cases vs with
  |nil=>exact SK.fail _
  |cons x ys=>
   simp only
   cases Uc x with
   |some ax=>exact SK.ret _
   |none=>exact SK.fail _
 |_=>exact SK.fail _
theorem SK.op(d:Option Nat)(o:MO)(T:List AV):SK (mop A (callsM D own) o T) (opK A D own Hn d o T):=by
 cases o with
 |pick c a b=>
  simp only[opK,mop]
  cases AK T c with
  |v u=>
   cases u with
   |bool t=>
    simp only;refine SK.brk (λh=>?_) λh=>?_<;>(subst h;exact SK.ret _)
   |_=>exact SK.fail _
  |_=>exact SK.fail _
 |ld row n a=>exact SK.load _ _ _ _
 |st n a x=>exact SK.store _ _ _
 |bin ek b x y=>
  cases ek with
  |zero=>exact SK.bin _ _ _
  |succ n=>exact SK.opt _
 |slice e x lo hi=>exact SK.slice _ _ _ _
 |iaddr e x i=>exact SK.iaddr _ _ _ _
 |aaddr n e x i=>exact SK.aaddr _ _ _ _
 |index n e row sz x i=>exact SK.index d _ _ _ _ _ _
 |mksl z e b l c=>exact SK.mksl _ _ _ _ _
 |app e b s x=>exact SK.app _ _ _ _
 |cpy e d x=>exact SK.cpy _ _ _
 |clr z e x=>exact SK.clr _ _ _
 |sidx x i=>exact SK.sidx _ _
 |sslice x lo hi=>exact SK.sslice _ _ _
 |callF f args=>exact SK.calls _ _
 |callV ents x args=>
  simp only[opK,mop]
  cases AK T x with
  |fn f a cs=>
   cases f with
   |func g=>
    simp only
    cases ents.testBit g with
    |true=>exact SK.calls _ _
    |false=>exact SK.fail _
   |_=>exact SK.fail _
  |_=>exact SK.fail _
 |_=>exact SK.gen _
theorem SK.core(o:MOp)(T:List AV):SK (coreM A (callsM D own) o T) (ZM A D own Hn o T):=by
 unfold ZM coreM TU
 cases o.g with
 |none=>exact SK.op _ _ _
 |some g=>
  obtain⟨d,want⟩:=g;simp only
  cases e:T[d]? with
  |none=>exact SK.fail _
  |some x=>
   cases x with
   |v u=>
    cases u with
    |bool b=>
     simp only
     cases want with
     |true=>
      refine SK.brk (λh=>?_) λh=>?_<;>subst h
      .exact SK.op _ _ _
      .exact SK.ret _
     |false=>
      simp only;refine SK.brk (λh=>?_) λh=>?_<;>rw[h]
      .exact SK.op _ _ _
      .exact SK.ret _
    |tuple t=>exact SK.ret _
    |_=>exact SK.fail _
   |_=>exact SK.fail _
theorem Ad7{e:Bool}{x:AV}{s:Sc}{k:AV->Sc->KR}{r:AV × List BO}(h:gB e x s k=some r):∃ s',k x s'=some r:=by
 unfold gB at h;split at h
 .obtain⟨s',⟨e,h2⟩|⟨e,h2⟩⟩:=RS h<;>(subst e;exact⟨s',h2⟩)
 .exact⟨s,h⟩
theorem SK.run:∀(l:List MOp) (T:List AV) (H:AH) (s:Sc) (k:List AV->AH->List Foot->Sc->KR) (r:AV × List BO),Afq A D own Hn l T H s k=some r->∃ T' H' fs s',runM A (callsM D own) l T H=some (T',H',fs)/\k T' H' fs s'=some r
 |[],T,H,s,k,r,h=>⟨T,H,[],s,rfl,h⟩
 |o::l,T,H,s,k,r,h=>by
  simp only[Afq]at h;obtain⟨v,H1,f,s1,h1,h2⟩:=SK.core o T H s _ r h;simp only[AaD,UL,Ai9,AkV]at h2;obtain⟨s2,h2⟩:=Ad7 h2;obtain⟨T',H',fs,s3,h3,h4⟩:=SK.run l _ _ _ _ r h2;refine⟨T',H',f::fs,s3,?_,h4⟩;simp only[runM,h1,h3]
theorem SK.reg(ops:List MOp)(bf:Option (List Nat))(T:List AV):SK (regM A (callsM D own) ops bf T) (AjZ A D own Hn ops bf T):=λH s k r h=>by
 unfold AjZ at h;obtain⟨T',H',fs,s',h1,h2⟩:=SK.run ops T H s _ r h;unfold regM;rw[h1]
 cases bf with
 |none=>exact⟨_,_,_,s',rfl,h2⟩
 |some bf=>
  simp only at h2 ⊢;split at h2
  .rename_i e
   rw[e];exact⟨_,_,_,s',rfl,h2⟩
  .cases h2
theorem SK.ev(f:Nat):∀(c:MC) (T:List AV),SK (evC A (callsM D own) (loopsM D f) c T) (Za A D own Hn f c T)
 |.skip,T=>SK.ret _
 |.reg ops bf,T=>SK.reg _ _ _
 |.seq a b,T=>by
  unfold Za evC;refine SK.bind (SK.ev f a T) λr=>?_
  obtain⟨ax,T1⟩:=r
  cases ax with
  |normal=>exact SK.ev f b _
  |_=>exact SK.ret _
 |.cond c a b,T=>by
  unfold Za evC
  cases AK T c with
  |v u=>
   cases u with
   |bool t=>
    simp only;refine SK.brk (λh=>?_) λh=>?_<;>subst h
    .exact SK.ev f a T
    .exact SK.ev f b T
   |_=>exact SK.fail _
  |_=>exact SK.fail _
 |.block id c,T=>by
  unfold Za evC;refine SK.bind (SK.ev f c T) λr=>?_
  obtain⟨ax,T1⟩:=r
  cases ax with
  |exit i=>
   simp only
   by_cases e:i=id
   .rw[if_pos e,if_pos e];exact SK.ret _
   .rw[if_neg e,if_neg e];exact SK.ret _
  |_=>exact SK.ret _
 |.loop i h,T=>by
  unfold Za evC;refine SK.bind (SK.gen _) λT=>SK.bind (SK.frzT _ _) λT=>?_
  cases ApT T.length h.n with
  |true=>exact SK.bind (SK.loops f i _) λ_=>SK.ret _
  |false=>exact SK.fail _
 |.exit id,T=>SK.ret _
 |.ret,T=>SK.ret _
 |.bad,T=>SK.fail _
theorem SK.res(T:List AV):∀ l,SK (resM T l) (Ab0 Hn T l)
 |[]=>SK.ret _
 |.tmp _::r=>SK.bind (SK.res T r) λ_=>SK.ret _
 |.cell _ _ _::r=>SK.bind (SK.load _ _ _ _) λ_=>SK.bind (SK.res T r) λ_=>SK.ret _
theorem Ai5{m:List AV->AM AV}{mK:KM AV}{args:List AV}{bs:List ABlk}{r:AV × List BO}(hm:SK (m args) mK)(s:Sc)(h:mK ⟨CX 0 bs,bs.length,none⟩ s (λv H ft _=>NA bs.length v H ft)=some r):OP (ED m) args bs=some r:=by
 obtain⟨v,H',ft,s',h1,h2⟩:=hm _ _ _ _ h;unfold OP ED;rw[h1];exact h2
theorem Ai7{f:Nat}{mf:MFn}{args:List AV}{bs:List ABlk}{r:AV × List BO}(s:Sc)(h:By A D own Hn s f mf args bs=some r):OP (ED (fnM A D own f mf)) args bs=some r:=by
 unfold By at h;refine Ai5 ?_ s h;unfold fnM;have fin:∀ T,SK ((resM T mf.res).bind λl=>(match mf.own with
   |true=>AM.ret (IU l)
   |false=>frz 1000 (IU l)).bind λv=>match mf.tch with
    |true=>(touchI (Eg args)).bind λ_=>AM.ret v
    |false=>AM.ret v) ((Ab0 Hn T mf.res).bind λl=>(match mf.own with
   |true=>KM.ret (IU l)
   |false=>R9 1000 (IU l)).bind λv=>match mf.tch with
    |true=>(KM.gen (touchI (Eg args))).bind λ_=>KM.ret v
    |false=>KM.ret v):=λT=>by
  refine SK.bind (SK.res _ _) λl=>SK.bind ?_ λv=>?_
  .cases mf.own with
   |true=>exact SK.ret _
   |false=>exact SK.frz _ _
  .cases mf.tch with
   |true=>exact SK.bind (SK.gen _) λ_=>SK.ret _
   |false=>exact SK.ret _
 refine SK.bind (SK.ev f _ _) λr=>?_
 obtain⟨ax,T1⟩:=r
 cases ax with
 |exit i=>exact SK.fail _
 |goto l=>exact SK.fail _
 |normal=>exact fin T1
 |ret=>exact fin T1
theorem ML{α β:Type}{m:AM α}{f:α->AM β}{H H1 H2:AH}{a:α}{b:β}{f1 f2:Foot}(h1:m H=some (a,H1,f1))(h2:f a H1=some (b,H2,f2)):(m.bind f) H=some (b,H2,⟨f1.rd++f2.rd,f1.wr++f2.wr⟩):=by
 unfold AM.bind;simp only[h1,h2]
theorem Sk(n b:Nat)(hb:b<n):∀ l,Fi b (AbB n l)=Fi b l
 |[]=>rfl
 |x::r=>by
  have ih:=Sk n b hb r;unfold AbB;split
  .unfold Fi
   rw[ih]
  .rename_i h
   rw[ih]
   conv=>rhs;unfold Fi
   cases e:ApT b x with
   |false=>rfl
   |true=>
    have e:b=x:=ApX e;subst e;have h1:AqD b n=true:=by rw[Xk];simpa using hb
    cases h2:Fi b r with
    |true=>rfl
    |false=>exact absurd h2 (h h1)
theorem Sj(b:Nat)(l m:List Nat):Fi b (l++m)=(Fi b l||Fi b m):=by
 simp only[Q4];simp
theorem UI{n:Nat}{r:AV}{H:AH}{f1 f2:Foot}(h:∀ b,b<n->Fi b f1.wr=Fi b f2.wr):NA n r H f1=NA n r H f2:=by
 have:(DG 0 n).map (Vg H f1.wr)=(DG 0 n).map (Vg H f2.wr):=by
  refine List.map_congr_left λb hb=>?_
  obtain⟨i,hi⟩:=List.getElem?_of_mem hb;rw[Jp]at hi;split at hi
  .simp only[Θ]at hi
   unfold Vg;rw[h b (by omega)]
  .cases hi
 unfold NA;rw[this]
theorem Afi{f i n:Nat}{xs:List AV}{H:AH}{ft:Foot}{r:AV × List BO}(h:AjY D f i xs H ft n=some r):∃ q H' f',loopsM D f i xs H=some (q,H',f')/\NA n (.tup (Zr q.1::q.2)) H' ⟨ft.rd++f'.rd,ft.wr++f'.wr⟩=some r:=by
 unfold AjY at h;split at h
 .rename_i L H1 f1 e1
  split at h
  .rename_i bs H2 f2 e2
   unfold AE at h;split at h
   .rename_i q e3
    obtain⟨v,o⟩:=q;simp only at h;unfold AD at h
    cases c1:Ng o.length v.ids<;>cases c2:QE o.length o<;>rw[c1,c2]at h<;>try (cases h;done)
    simp only at h;split at h
    .rename_i x ys H' f' e4
     split at h
     .rename_i ax e5
      have t1:=(M1 _ _ _ _ e1).1;have t2:=(Jz _ e2).1;rw[t1]at e1;rw[t2]at e2;refine⟨(ax,ys),H',_,ML (ML e1 (ML e2 (ML (a:=(v,o)) (H1:=H) (f1:=⟨[],[]⟩) (by rw[e3];rfl) (b:=.tup (x::ys)) (H2:=H') (f2:=f') ?_))) (b:=(ax,ys)) (H2:=H') (f2:=⟨[],[]⟩) ?_,?_⟩
      .simp only[c1,c2]
       exact e4
      .simp only[e5]
       rfl
      .rw[←h]
       refine UI λb hb=>?_
       simp only[Sj,Sk n b hb,Aqx,ApU,Bool.or_assoc]
     .cases h
    .cases h
   .cases h
  .cases h
 .cases h
theorem Ajs{f i:Nat}{q:LpH}{c:MC}{xs:List AV}{bs:List ABlk}{r:AV × List BO}(s:Sc)(h:Di A D own Hn s f i q c xs bs=some r):OP (ED (lpM A D own f i q c)) xs bs=some r:=by
 have key:∀ v H' ft,lpM A D own f i q c xs ⟨CX 0 bs,bs.length,none⟩=some (v,H',ft)->NA bs.length v H' ft=some r->OP (ED (lpM A D own f i q c)) xs bs=some r:=λv H' ft h1 h2=>by
  unfold OP ED;rw[h1];exact h2
 unfold Di at h;obtain⟨⟨ax,T1⟩,H1,f1,s1,h1,h2⟩:=SK.ev f c _ _ s _ r h;have out:∀(ax:AX),((J0 (q.fzo ax) T1).bind λT=>(KM.gen (delT (q.dlo ax) T)).bind λ_=>(KM.gen (touchA (q.nt ax) (Cg (q.out ax) T))).bind λys=>KM.ret (.tup (Zr ax::ys))) H1 s1 (λv H f _=>NA bs.length v H ⟨f1.rd++f.rd,f1.wr++f.wr⟩)=some r->∃ v H' f,((frzT (q.fzo ax) T1).bind λT=>(delT (q.dlo ax) T).bind λ_=>(touchA (q.nt ax) (Cg (q.out ax) T)).bind λys=>AM.ret (.tup (Zr ax::ys))) H1=some (v,H',f)/\NA bs.length v H' ⟨f1.rd++f.rd,f1.wr++f.wr⟩=some r:=λax h=>by
  obtain⟨v,H',f,s2,h3,h4⟩:=(SK.bind (SK.frzT (q.fzo ax) T1) λT=>SK.bind (SK.gen _) λ_=>SK.bind (SK.gen _) λys=>SK.ret (ψ (Zr ax::ys))) H1 s1 _ r h;exact⟨v,H',f,h3,h4⟩
 cases ax with
 |normal=>
  obtain⟨T2,H2,f2,s2,h5,h6⟩:=SK.frzT q.fz T1 H1 s1 _ r h2;obtain⟨p,H',f',h3,h4⟩:=Afi h6;refine key _ H' _ ?_ h4;unfold lpM;simp only[AM.bind,h1,h5,h3,AM.ret,Aqx,List.append_assoc]
 |goto l=>cases h2
 |exit k=>
  obtain⟨v,H',f',h3,h4⟩:=out _ h2;refine key v H' _ ?_ h4;unfold lpM;rw[AM.bind,h1];simp only;rw[h3]
 |ret=>
  obtain⟨v,H',f',h3,h4⟩:=out _ h2;refine key v H' _ ?_ h4;unfold lpM;rw[AM.bind,h1];simp only;rw[h3]
end
section
variable {A:Ar} {M:Seat}
theorem AiM(Hn:Hnt)(s:Sc){f:Nat}{mf:MFn}(he:M.ext f=none)(hf:M.fns f=some mf){args:List AV}{bs:List ABlk}{r:AV × List BO}(h:By A (Be A M) M.own Hn s f mf args bs=some r):(Be A M).ask (.fn f) args bs=some r:=AfC he hf (Ai7 s h)
theorem AiN(Hn:Hnt)(s:Sc){f i:Nat}{mf:MFn}{q:LpH}{c:MC}(hf:M.fns f=some mf)(hl:mf.loops[i]? = some (q,c)){args:List AV}{bs:List ABlk}{r:AV × List BO}(h:Di A (Be A M) M.own Hn s f i q c args bs=some r):(Be A M).ask (.lp f i) args bs=some r:=AfD hf hl (Ajs s h)
end
end
def iv(n:Int):AV:=.v (.int .i64 n)
def bv(b:Bool):AV:=.v (.bool b)
def sv(s:ByteArray):AV:=.v (.string s)
def Ax(l:List UInt8):ByteArray:=⟨l.toArray⟩
def AbF(P:Program)(f:Nat):Bool:=match P.funcs[f]? with
 |some fn=>(match fn.body with
  |some c=>KO c&&okR P fn.results.toList
  |none=>false)
 |none=>false
def MF(P:Program)(ents:Nat)(hs:A3)(ownR tch:Bool)(f:Nat):MFn:=match P.funcs[f]? with
 |some fn=>(match fn.body with
  |some c=>⟨fn.ntmps,IZ P fn.results.toList,(Bl P ents hs c 0).1,(Bl P ents hs c 0).2,ownR,tch⟩
  |none=>⟨0,[],.bad,[],false,false⟩)
 |none=>⟨0,[],.bad,[],false,false⟩
theorem Ad4{P:Program}{ents:Nat}{hs:A3}{ownR tch:Bool}{f:Nat}(h:AbF P f=true):FnOk P ents f (MF P ents hs ownR tch f):=by
 unfold AbF at h
 cases e1:P.funcs[f]? with
 |none=>rw[e1]at h;cases h
 |some fn=>
  rw[e1]at h;simp only at h
  cases e2:fn.body with
  |none=>rw[e2]at h;cases h
  |some c=>
   rw[e2]at h;simp only[ε]at h;refine⟨fn,c,hs,e1,e2,h.1,h.2,?_⟩;unfold MF;rw[e1];simp only[e2];exact⟨trivial,trivial,trivial,trivial⟩
structure Knows (own:List (Nat × Nat)) (L:List (Nat × MFn)) (D:Orc):Prop where
 fn:∀(Hn:Hnt) (s:Sc) (f:Nat) (mf:MFn) (args:List AV) (bs:List ABlk) (r:AV × List BO),CA f L=some mf->By Af D own Hn s f mf args bs=some r->D.ask (.fn f) args bs=some r
 lp:∀(Hn:Hnt) (s:Sc) (f i:Nat) (mf:MFn) (q:LpH) (c:MC) (args:List AV) (bs:List ABlk) (r:AV × List BO),CA f L=some mf->mf.loops[i]? = some (q,c)->Di Af D own Hn s f i q c args bs=some r->D.ask (.lp f i) args bs=some r
def AL(mf:MFn)(i:Nat):LpH × MC:=(mf.loops[i]?).getD (⟨0,[],[],[],[]⟩,.bad)
theorem Knows.fn'{own:List (Nat × Nat)}{L:List (Nat × MFn)}{D:Orc}(K:Knows own L D)(Hn:Hnt)(s:Sc){f:Nat}{mf:MFn}{args:List AV}{bs:List ABlk}{r:AV × List BO}(h1:CA f L=some mf)(h:By Af D own Hn s f mf args bs=some r):D.ask (.fn f) args bs=some r:=K.fn Hn s f mf args bs r h1 h
theorem Knows.lp'{own:List (Nat × Nat)}{L:List (Nat × MFn)}{D:Orc}(K:Knows own L D)(Hn:Hnt)(s:Sc){f i:Nat}{mf:MFn}{args:List AV}{bs:List ABlk}{r:AV × List BO}(h1:CA f L=some mf)(h2:(mf.loops[i]?).isSome=true)(h:Di Af D own Hn s f i (AL mf i).1 (AL mf i).2 args bs=some r):D.ask (.lp f i) args bs=some r:=by
 obtain⟨⟨q,c⟩,e⟩:=Option.isSome_iff_exists.1 h2;refine K.lp Hn s f i mf q c args bs r h1 e ?_;unfold AL at h;rw[e]at h;exact h
theorem Cd{α:Type}{f:Nat}{a:α}:∀{L:List (Nat × α)},CA f L=some a->(f,a)∈L
 |[],h=>by cases h
 |(m,b)::r,h=>by
  unfold CA at h
  cases e:ApT f m with
  |true=>
   rw[e]at h;simp only[Θ]at h;have:=ApX e;subst this;subst h;exact List.mem_cons_self
  |false=>
   rw[e]at h;exact List.mem_cons_of_mem _ (Cd h)
def Mh(own:List (Nat × Nat))(L:List (Nat × MFn))(X:List (Nat × DF)):Seat:=⟨λf=>CA f L,own,λf=>CA f X⟩
def Amu(L:List (Nat × MFn))(X:List (Nat × DF)):Bool:=L.all λp=>(CA p.1 X).isNone
theorem BA{own:List (Nat × Nat)}{L L':List (Nat × MFn)}{X:List (Nat × DF)}(hs:∀ f mf,CA f L'=some mf->CA f L=some mf)(hx:Amu L' X=true):Knows own L' (Be Af (Mh own L X)) where
 fn Hn s f mf args bs r h1 h2:=AiM (M:=Mh own L X) Hn s (by
  have:=List.all_eq_true.1 hx _ (Cd h1);exact Option.isNone_iff_eq_none.1 this) (hs f mf h1) h2
 lp Hn s f i mf q c args bs r h1 h2 h3:=AiN (M:=Mh own L X) Hn s (hs f mf h1) h2 h3
section
variable {μ:Mu} {F:AG} {w w':World}
theorem DW(F:AG)(h:Below w.heap.size w w'):WStep F w w':=
 ⟨h.os,h.tape,h.output,h.size,λg o ho=>⟨o,by
  have hg:g<w.heap.size:=by
   by_cases hg:g<w.heap.size
   .exact hg
   .rw[Array.getElem?_eq_none (by omega)]at ho;cases ho
  exact(h.block g hg).trans ho,ObjStep.refl _ o⟩⟩
def Yc(F:AG)(w w':World):AG:=λg o=>F g o\/(w.heap.size<=g/\g<w'.heap.size)
theorem L6{H:Nat->Option ABlk}(hH:HRep μ F w H)(h:Below w.heap.size w w'):Later μ μ F (Yc F w w') w w':=
 ⟨λ_ _ h=>h,λg o hg=>⟨.inl hg,(DW F h).cell hg (hH.prot g o hg)⟩⟩
theorem US{H:Nat->Option ABlk}(hH:HRep μ F w H)(h:Below w.heap.size w w'):HRep μ (Yc F w w') w' H:=by
 have hl:=L6 hH h;have same:∀ g o,g<w.heap.size->w'.cell? ⟨g,o,none⟩=w.cell? ⟨g,o,none⟩:=λg o hg=>h.cell (p:=⟨g,o,none⟩) hg
 have st:=DW (λ_ _=>False) h;refine⟨λb k hb=>?_,hH.apart,λg o hg=>?_⟩
 .obtain⟨p,hp,B⟩:=hH.blk b k hb
  refine⟨p,hp,?_,B.room,?_,λh0 i hi=>.inl (B.kept h0 i hi),?_,B.pure⟩
  .intro i x hx
   obtain⟨u,h1,h2⟩:=B.cell i x hx;exact⟨u,(same _ _ (Dl h1)).trans h1,h2.later hl⟩
  .intro i hi
   obtain⟨⟨u,h1⟩,h2⟩:=B.there i hi;exact⟨⟨u,(same _ _ (Dl h1)).trans h1⟩,(st.frozen (Dl h1)).trans h2⟩
  .rintro i hi (hf|⟨hf,_⟩)
   .exact B.free i hi hf
   .have hr:i<p.room:=by
     rcases hi with⟨h1,_⟩|⟨_,h1,_⟩
     .exact Aqw h1 B.room
     .exact h1
    obtain⟨⟨u,h1⟩,_⟩:=B.there i hr;have:=Dl h1;omega
 .rcases hg with hg|hg
  .exact Aqw (hH.prot g o hg) h.size
  .exact hg.2
end
theorem AaJ{S:Mw}(hm:M4 S)(res:List AV->Option AV)
  (h:∀ args r,res args=some r->∀(μ:Mu) (F:AG) (w:World) (us:List Value),RepList μ F w args us->S us w λu w'=>Below w.heap.size w w'/\Rep μ (Yc F w w') w' r u) :
  Bo S λargs bs=>match bs with
   |[]=>(res args).map λr=>(r,[])
   |_=>none:=by
 intro args bs r out hd
 cases bs with
 |cons=>cases hd
 |nil=>
  obtain⟨r',hr,he⟩:=Option.map_eq_some_iff.1 hd;obtain⟨rfl,rfl⟩:r'=r/\[]=out:=by simpa using he
  refine⟨ω _,0,ω _,λt _ μ F w KL us hKL hus hH hμ=>?_⟩;refine hm _ _ _ _ (h args r' hr μ F w us hus) λu w' ⟨hb,hu⟩=>?_
  refine⟨μ,Yc F w w',hu,?_,L6 hH hb,DW F hb,λ_ _=>rfl⟩;have:=US hH hb;have e:(λb=>if b<t then([]:List ABlk)[b]? else look b KL)=λb=>if b<t then Ek [] [] b else look b KL:=by
   funext b
   by_cases hbt:b<t
   .rw[if_pos hbt,if_pos hbt]
    rfl
   .rw[if_neg hbt,if_neg hbt]
  rw[←e];exact this
theorem Rn{μ:Mu}{F:AG}{w:World}{s:ByteArray}{us:List Value}(h:RepList μ F w [sv s] us):us=[.string s]:=by
 obtain⟨u,t,rfl,hu,ht⟩:=h;have hu:u=_/\_:=hu;have ht:t=[]:=ht;rw[hu.1,ht]
inductive Ki
 |b
 |i
 |j (kd:IntKind)
 |s
 |l
 |q (bb ee:Nat)
 |t
 |a
 |p (bb oo:Nat)
 |f (g:Nat)
 |c (u:Value)
 |x
 |B
 |I
 |J (kd:IntKind)
 |S
 |L
 |C
 |N
 |X
 |O
 |E
 |Y
 |T
 |R
 |D
 |K
 |A
 |P (bb oo:Nat)
 |Z
 |w
inductive It
 |v (x:AV)
 |l (x:List AV)
 |o (x:List BO)
 |c (x:BO)
abbrev Ct:List Ki->Type
 |[]=>KR
 |.b::r=>Bool->Ct r
 |.i::r=>Int->Ct r
 |.j _::r=>Int->Ct r
 |.s::r=>ByteArray->Ct r
 |.l::r=>List (List AV)->Ct r
 |.q _ _::r=>Nat->Ct r
 |.t::r=>Ct r
 |.a::r=>Ct r
 |.p _ _::r=>Ct r
 |.f _::r=>Ct r
 |.c _::r=>Ct r
 |.x::r=>AV->Ct r
 |.B::r=>Bool->Ct r
 |.I::r=>Int->Ct r
 |.J _::r=>Int->Ct r
 |.S::r=>ByteArray->Ct r
 |.L::r=>List (List AV)->Ct r
 |.C::r=>Ct r
 |.N::r=>Ct r
 |.X::r=>List AV->Ct r
 |.O::r=>Ct r
 |.E::r=>Ct r
 |.Y::r=>List BO->Ct r
 |.T::r=>Ct r
 |.R::r=>Ct r
 |.D::r=>Ct r
 |.K::r=>Ct r
 |.A::r=>Ct r
 |.P _ _::r=>Ct r
 |.Z::r=>BO->Ct r
 |.w::r=>Unit->Ct r
def Zc(s:List It)(k:AV->List It->KR):KR:=match s with
 |.v x::r=>k x r
 |_=>none
def itL(s:List It)(k:List AV->List It->KR):KR:=match s with
 |.l x::r=>k x r
 |_=>none
def itO(s:List It)(k:List BO->List It->KR):KR:=match s with
 |.o x::r=>k x r
 |_=>none
def itC(s:List It)(k:BO->List It->KR):KR:=match s with
 |.c x::r=>k x r
 |_=>none
def dk:(p:List Ki)->List It->Ct p->KR
 |[],_,k=>k
 |.b::r,s,k=>Zc s λx s=>Ii x λn=>dk r s (k n)
 |.i::r,s,k=>Zc s λx s=>Jb .i64 x λn=>dk r s (k n)
 |.j kd::r,s,k=>Zc s λx s=>Jb kd x λn=>dk r s (k n)
 |.s::r,s,k=>Zc s λx s=>Qm x λn=>dk r s (k n)
 |.l::r,s,k=>Zc s λx s=>LK x λn=>dk r s (k n)
 |.q bb ee::r,s,k=>Zc s λx s=>VD bb ee x λn=>dk r s (k n)
 |.t::r,s,k=>Zc s λx s=>KK x λy=>dk r (.l y::s) k
 |.a::r,s,k=>Zc s λx s=>Mq x λy=>dk r (.l y::s) k
 |.p bb oo::r,s,k=>Zc s λx s=>KJ bb oo x<|dk r s k
 |.f g::r,s,k=>Zc s λx s=>YV g x<|dk r s k
 |.c u::r,s,k=>Zc s λx s=>WY u x<|dk r s k
 |.x::r,s,k=>Zc s λx s=>dk r s (k x)
 |.B::r,s,k=>itL s λx s=>Pj x λn y=>dk r (.l y::s) (k n)
 |.I::r,s,k=>itL s λx s=>Nk .i64 x λn y=>dk r (.l y::s) (k n)
 |.J kd::r,s,k=>itL s λx s=>Nk kd x λn y=>dk r (.l y::s) (k n)
 |.S::r,s,k=>itL s λx s=>Xo x λn y=>dk r (.l y::s) (k n)
 |.L::r,s,k=>itL s λx s=>cLs x λn y=>dk r (.l y::s) (k n)
 |.C::r,s,k=>itL s λx s=>Eu x λz y=>dk r (.v z::.l y::s) k
 |.N::r,s,k=>itL s λx s=>Fe x<|dk r s k
 |.X::r,s,k=>itL s λx s=>dk r s (k x)
 |.O::r,s,k=>itO s λx s=>Ey x λz y=>dk r (.c z::.o y::s) k
 |.E::r,s,k=>itO s λx s=>CZ x<|dk r s k
 |.Y::r,s,k=>itO s λx s=>dk r s (k x)
 |.T::r,s,k=>itO s λx s=>Ey x λc y=>Gm true false c λz=>dk r (.l z::.o y::s) k
 |.R::r,s,k=>itO s λx s=>Ey x λc y=>Gm true true c λz=>dk r (.l z::.o y::s) k
 |.D::r,s,k=>itO s λx s=>Ey x λc y=>Ql c<|dk r (.o y::s) k
 |.K::r,s,k=>itO s λx s=>Ey x λc y=>LJ c<|dk r (.o y::s) k
 |.A::r,s,k=>itL s λx s=>Eu x λc y=>Mq c λz=>dk r (.l z::.l y::s) k
 |.P bb oo::r,s,k=>itL s λx s=>Eu x λc y=>KJ bb oo c<|dk r (.l y::s) k
 |.Z::r,s,k=>itC s λx s=>dk r s (k x)
 |.w::r,s,k=>dk r s (k ())
abbrev bk(cs:List AV):ABlk:=⟨cs,true,false⟩
abbrev Rw:=List (List AV)
abbrev Ad(D:Orc)(key:Key)(args:List AV)(bs:List ABlk)(p:List Ki)(k:Ct p):KR:=AE D key args bs λr o=>dk p [.v r,.o o] k
theorem DK:(∀(s:List It) (k:Ct []),dk [] s k=k)/\(∀(r:List Ki) (x:AV) (s:List It) (k:Ct (.b::r)),dk (.b::r) (.v x::s) k=Ii x λn=>dk r s (k n))/\(∀(r:List Ki) (x:AV) (s:List It) (k:Ct (.i::r)),dk (.i::r) (.v x::s) k=Jb .i64 x λn=>dk r s (k n))/\(∀(kd:IntKind) (r:List Ki) (x:AV) (s:List It) (k:Ct (.j kd::r)),dk (.j kd::r) (.v x::s) k=Jb kd x λn=>dk r s (k n))/\(∀(r:List Ki) (x:AV) (s:List It) (k:Ct (.s::r)),dk (.s::r) (.v x::s) k=Qm x λn=>dk r s (k n))/\(∀(r:List Ki) (x:AV) (s:List It) (k:Ct (.l::r)),dk (.l::r) (.v x::s) k=LK x λn=>dk r s (k n))/\(∀(bb ee:Nat) (r:List Ki) (x:AV) (s:List It) (k:Ct (.q bb ee::r)),dk (.q bb ee::r) (.v x::s) k=VD bb ee x λn=>dk r s (k n))/\(∀(r:List Ki) (x:AV) (s:List It) (k:Ct (.t::r)),dk (.t::r) (.v x::s) k=KK x λy=>dk r (.l y::s) k)/\(∀(r:List Ki) (x:AV) (s:List It) (k:Ct (.a::r)),dk (.a::r) (.v x::s) k=Mq x λy=>dk r (.l y::s) k)/\(∀(bb oo:Nat) (r:List Ki) (x:AV) (s:List It) (k:Ct (.p bb oo::r)),dk (.p bb oo::r) (.v x::s) k=KJ bb oo x (dk r s k))/\(∀(g:Nat) (r:List Ki) (x:AV) (s:List It) (k:Ct (.f g::r)),dk (.f g::r) (.v x::s) k=YV g x (dk r s k))/\(∀(u:Value) (r:List Ki) (x:AV) (s:List It) (k:Ct (.c u::r)),dk (.c u::r) (.v x::s) k=WY u x (dk r s k))/\(∀(r:List Ki) (x:AV) (s:List It) (k:Ct (.x::r)),dk (.x::r) (.v x::s) k=dk r s (k x))/\(∀(r:List Ki) (x:List AV) (s:List It) (k:Ct (.B::r)),dk (.B::r) (.l x::s) k=Pj x λn y=>dk r (.l y::s) (k n))/\(∀(r:List Ki) (x:List AV) (s:List It) (k:Ct (.I::r)),dk (.I::r) (.l x::s) k=Nk .i64 x λn y=>dk r (.l y::s) (k n))/\(∀(kd:IntKind) (r:List Ki) (x:List AV) (s:List It) (k:Ct (.J kd::r)),dk (.J kd::r) (.l x::s) k=Nk kd x λn y=>dk r (.l y::s) (k n))/\(∀(r:List Ki) (x:List AV) (s:List It) (k:Ct (.S::r)),dk (.S::r) (.l x::s) k=Xo x λn y=>dk r (.l y::s) (k n))/\(∀(r:List Ki) (x:List AV) (s:List It) (k:Ct (.L::r)),dk (.L::r) (.l x::s) k=cLs x λn y=>dk r (.l y::s) (k n))/\(∀(r:List Ki) (x:List AV) (s:List It) (k:Ct (.C::r)),dk (.C::r) (.l x::s) k=Eu x λz y=>dk r (.v z::.l y::s) k)/\(∀(r:List Ki) (x:List AV) (s:List It) (k:Ct (.N::r)),dk (.N::r) (.l x::s) k=Fe x (dk r s k))/\(∀(r:List Ki) (x:List AV) (s:List It) (k:Ct (.X::r)),dk (.X::r) (.l x::s) k=dk r s (k x))/\(∀(r:List Ki) (x:List BO) (s:List It) (k:Ct (.O::r)),dk (.O::r) (.o x::s) k=Ey x λz y=>dk r (.c z::.o y::s) k)/\(∀(r:List Ki) (x:List BO) (s:List It) (k:Ct (.E::r)),dk (.E::r) (.o x::s) k=CZ x (dk r s k))/\(∀(r:List Ki) (x:List BO) (s:List It) (k:Ct (.Y::r)),dk (.Y::r) (.o x::s) k=dk r s (k x))/\(∀(r:List Ki) (x:List BO) (s:List It) (k:Ct (.T::r)),dk (.T::r) (.o x::s) k=Ey x λc y=>Gm true false c λz=>dk r (.l z::.o y::s) k)/\(∀(r:List Ki) (x:List BO) (s:List It) (k:Ct (.R::r)),dk (.R::r) (.o x::s) k=Ey x λc y=>Gm true true c λz=>dk r (.l z::.o y::s) k)/\(∀(r:List Ki) (x:List BO) (s:List It) (k:Ct (.D::r)),dk (.D::r) (.o x::s) k=Ey x λc y=>Ql c<|dk r (.o y::s) k)/\(∀(r:List Ki) (x:List BO) (s:List It) (k:Ct (.K::r)),dk (.K::r) (.o x::s) k=Ey x λc y=>LJ c<|dk r (.o y::s) k)/\(∀(r:List Ki) (x:List AV) (s:List It) (k:Ct (.A::r)),dk (.A::r) (.l x::s) k=Eu x λc y=>Mq c λz=>dk r (.l z::.l y::s) k)/\(∀(bb oo:Nat) (r:List Ki) (x:List AV) (s:List It) (k:Ct (.P bb oo::r)),dk (.P bb oo::r) (.l x::s) k=Eu x λc y=>KJ bb oo c<|dk r (.l y::s) k)/\(∀(r:List Ki) (x:BO) (s:List It) (k:Ct (.Z::r)),dk (.Z::r) (.c x::s) k=dk r s (k x))/\(∀(r:List Ki) (s:List It) (k:Ct (.w::r)),dk (.w::r) s k=dk r s (k ())):=by
 and_intros<;>intros<;>rfl
section
variable {D:Orc}
theorem AkB(x y:KR):br true x y=x:=Eq.trans (b:=x) rfl (Eq.refl x)
theorem Ac{x y z:KR}(g:x=z):br true x y=z:=(AkB x y).trans g
theorem AkA(x y:KR):br false x y=y:=Eq.trans (b:=y) rfl (Eq.refl y)
theorem A1{x y z:KR}(g:y=z):br false x y=z:=(AkA x y).trans g
theorem G2(b:Bool)(x y:KR):br b x y=if b=true then x else y:=by cases b<;>rfl
theorem Aw(n:Nat)(k:Nat->KR):unI (n:Int) k=k n:=rfl
theorem N6{α:Type}(f:α->List AV)(xs:List α)(i:Nat)(k:List AV->KR):Bh (xs.map f) i k=match xs[i]? with
  |some x=>k (f x)
  |none=>none:=by
 unfold Bh;rw[Re,List.getElem?_map]
 cases xs[i]?<;>rfl
theorem Au{α:Type}{f:α->List AV}{xs:List α}{i:Nat}{x:α}(h:xs[i]? = some x)(k:List AV->KR):Bh (xs.map f) i k=k (f x):=by
 rw[N6,h]
theorem Ao{α:Type}(f:α->List AV)(xs:List α):AQ (xs.map f)=xs.length:=by rw[GI,List.length_map]
theorem AdD{key:Key}{args:List AV}{bs:List ABlk}{r:AV}{o:List BO}(h:D.ask key args bs=some (r,o))(k:AV->List BO->KR):AE D key args bs k=k r o:=by
 unfold AE;rw[h]
theorem Ab{D:Orc}{key:Key}{args:List AV}{bs:List ABlk}{r:AV}{o:List BO}{z:KR}{k:AV->List BO->KR}(h:D.ask key args bs=some (r,o))(g:k r o=z):AE D key args bs k=z:=(AdD h k).trans g
theorem AcO(n:Int)(k:Int->KR):Jb .i64 (iv n) k=k n:=rfl
theorem YS(n:Bool)(k:Bool->KR):Ii (bv n) k=k n:=rfl
theorem AcP(n:ByteArray)(k:ByteArray->KR):Qm (sv n) k=k n:=rfl
theorem AfN(n:List (List AV))(k:List (List AV)->KR):LK (.ls n) k=k n:=rfl
theorem YR(n:List AV)(k:List AV->KR):Mq (.agg n) k=k n:=rfl
theorem YZ(n:List AV)(k:List AV->KR):KK (.tup n) k=k n:=rfl
theorem AdI(n:Int)(r:List AV)(k:Int->List AV->KR):Nk .i64 (iv n::r) k=k n r:=rfl
theorem Zz(n:Bool)(r:List AV)(k:Bool->List AV->KR):Pj (bv n::r) k=k n r:=rfl
theorem AdJ(n:ByteArray)(r:List AV)(k:ByteArray->List AV->KR):Xo (sv n::r) k=k n r:=rfl
theorem AiW(n:List (List AV))(r:List AV)(k:List (List AV)->List AV->KR):cLs (.ls n::r) k=k n r:=rfl
theorem YW(k:KR):Fe [] k=k:=rfl
theorem TN(c:AV)(r:List AV)(k:AV->List AV->KR):Eu (c::r) k=k c r:=rfl
theorem YU(k:KR):CZ [] k=k:=rfl
theorem VC(c:BO)(r:List BO)(k:BO->List BO->KR):Ey (c::r) k=k c r:=rfl
theorem TO(k:KR):LJ .keep k=k:=rfl
theorem YT(k:KR):Ql .del k=k:=rfl
theorem YY(st ex:Bool)(cs:List AV)(k:List AV->KR):Gm st ex (.set ⟨cs,st,ex⟩) k=k cs:=by
 unfold Gm;exact if_pos ⟨rfl,rfl⟩
theorem Aa(f:Nat)(k:KR):YV f (.fn (.func f) [] []) k=k:=by simp[YV]
theorem YX(b o:Nat)(k:KR):KJ b o (.ptr b o) k=k:=by simp[KJ]
theorem AfO(b e n:Nat)(k:Nat->KR):VD b e (.sl b 0 n e) k=k n:=by simp[VD]
theorem AmX:A9 0 (bv true)=true:=rfl
theorem AmW(n:Int):A9 0 (iv n)=false:=rfl
theorem AmV:A9 1 (iv 0)=true:=rfl
theorem ND:(∀(n:Int) (k:Int->KR),Jb .i64 (iv n) k=k n)/\(∀(n:Bool) (k:Bool->KR),Ii (bv n) k=k n)/\(∀(n:ByteArray) (k:ByteArray->KR),Qm (sv n) k=k n)/\(∀(n:List (List AV)) (k:List (List AV)->KR),LK (.ls n) k=k n)/\(∀(n:List AV) (k:List AV->KR),Mq (.agg n) k=k n)/\(∀(n:List AV) (k:List AV->KR),KK (.tup n) k=k n)/\(∀(n:Int) (r:List AV) (k:Int->List AV->KR),Nk .i64 (iv n::r) k=k n r)/\(∀(n:Bool) (r:List AV) (k:Bool->List AV->KR),Pj (bv n::r) k=k n r)/\(∀(n:ByteArray) (r:List AV) (k:ByteArray->List AV->KR),Xo (sv n::r) k=k n r)/\(∀(n:List (List AV)) (r:List AV) (k:List (List AV)->List AV->KR),cLs (.ls n::r) k=k n r)/\(∀(k:KR),Fe [] k=k)/\(∀(c:AV) (r:List AV) (k:AV->List AV->KR),Eu (c::r) k=k c r)/\(∀(k:KR),CZ [] k=k)/\(∀(c:BO) (r:List BO) (k:BO->List BO->KR),Ey (c::r) k=k c r)/\(∀(st ex:Bool) (cs:List AV) (k:List AV->KR),Gm st ex (.set ⟨cs,st,ex⟩) k=k cs)/\(∀(k:KR),Ql .del k=k)/\(∀(k:KR),LJ .keep k=k)/\(∀(b o:Nat) (k:KR),KJ b o (.ptr b o) k=k)/\(∀(b e n:Nat) (k:Nat->KR),VD b e (.sl b 0 n e) k=k n)/\(A9 0 (bv true)=true)/\(∀(n:Int),A9 0 (iv n)=false)/\(A9 1 (iv 0)=true)/\(∀(x y:KR),br true x y=x)/\(∀(x y:KR),br false x y=y):=⟨AcO,YS,AcP,AfN,YR,YZ,AdI,Zz,AdJ,AiW,YW,TN,YU,VC,YY,YT,TO,YX,AfO,AmX,AmW,AmV,AkB,AkA⟩
end
instance:LawfulBEq ByteArray where
 eq_of_beq {a b} h:=by
  obtain⟨a⟩:=a;obtain⟨b⟩:=b;rw[Io]at h;simpa using h
 rfl {a}:=by
  rw[Io];simp
section
theorem O5(a b:Int):Af.lt a b=decide (a<b):=rfl
theorem Od(a b:Int):Af.le a b=decide (a<=b):=rfl
theorem Kg(a b:Int):Af.eq a b=decide (a=b):=by
 show (a == b)=decide (a=b)
 rfl
theorem Me(a b:ByteArray):Af.seq a b=decide (a=b):=by
 show (a.toList == b.toList)=_
 rw[RU,Io];obtain⟨a⟩:=a;obtain⟨b⟩:=b
 by_cases h:a=b
 .subst h;simp
 .simp[h]
theorem AbU(b:Bool):Af.not b = !b:=rfl
theorem WI(a b:Bool):Af.beq a b=(a == b):=rfl
theorem ci0(n:Nat):((n:Int)=0)=(n=0):=propext (by omega)
theorem ci1(n:Nat):((n:Int)=1)=(n=1):=propext (by omega)
theorem AmB(a b:Int):Af.min a b=min a b:=by
 show (if b<a then b else a)=_
 omega
theorem Ch(s:ByteArray):Af.slen s=s.size:=rfl
theorem AmA(a b:ByteArray):Af.cat a b=a++b:=rfl
theorem G7{a b:Int}(h1:-9223372036854775808<=a+b)(h2:a+b<9223372036854775808):Af.add .i64 a b=a+b:=by
 show IntKind.i64.wrap (a+b)=a+b
 rw[IntKind.wrap_i64];omega
theorem Gb{a b:Int}(h1:-9223372036854775808<=a-b)(h2:a-b<9223372036854775808):Af.sub .i64 a b=a-b:=by
 show IntKind.i64.wrap (a-b)=a-b
 rw[IntKind.wrap_i64];omega
theorem A8{i:Nat}(h:i<4611686018427387904):Af.add .i64 (i:Int) 1=((i+1:Nat):Int):=by
 rw[G7 (by omega) (by omega)];rfl
end
section
variable {α:Type}
def Ap(e:α->List AV)(l:List α):List AV:=l.flatMap e
theorem A6(e:α->List AV)(l:List α)(x:α):Ap e l++e x=Ap e (l++[x]):=by simp[Ap]
theorem Bq{e:α->List AV}{w:Nat}(he:∀ x,(e x).length=w):∀ l:List α,(Ap e l).length=l.length*w
 |[]=>by simp[Ap]
 |x::r=>by
  have:=Bq he r;unfold Ap at this ⊢;rw[List.flatMap_cons,List.length_append,this,he,Apw,Nat.add_mul,Nat.one_mul,Nat.add_comm]
theorem A4{e:α->List AV}{w:Nat}(he:∀ x,(e x).length=w)(l:List α){n:Nat}(hn:n=l.length*w):(Ap e l).take n=Ap e l:=by
 rw[AqB];rw[Bq he,hn];exact ω _
theorem CQ{e:α->List AV}{w:Nat}(he:∀ x,(e x).length=w):∀ l:List α,Bp l.length w (Ap e l)=l.map e
 |[]=>rfl
 |x::r=>by
  have ih:=CQ he r;simp only[Apw,Bp,List.map_cons];have h1:Ap e (x::r)=e x++Ap e r:=by simp[Ap]
  have h2:(e x).length=w:=he x;rw[h1,List.take_append_of_le_length (by omega),AqB (by omega),List.drop_append_of_le_length (by omega),List.drop_of_length_le (by omega),ApU,ih]
theorem Cf{e:α->List AV}{w:Nat}(he:∀ x,(e x).length=w)(l:List α){n:Nat}(hn:n=l.length):Bp n w ((Ap e l).take (n*w))=l.map e:=by
 rw[A4 he l (by rw[hn]),hn,CQ he]
theorem AS{e:α->List AV}{w:Nat}(he:∀ x,(e x).length=w)(l:List α){n:Nat}(hn:n=l.length*w):ApA n (Ap e l).length=true:=by
 rw[Bq he,hn];simp
theorem Kb{e:α->List AV}(he:∀ x,J9 (e x)=true):∀ l:List α,J9 (Ap e l)=true
 |[]=>rfl
 |x::r=>by
  have ih:=Kb he r;have h1:Ap e (x::r)=e x++Ap e r:=by simp[Ap]
  rw[h1];rw[IA]at ih ⊢;rw[List.all_append,ih,Bool.and_true,←IA];exact he x
theorem EU(e:α->List AV)(l:List α):IP (l.map e)=Ap e l:=by
 rw[JQ];rfl
theorem IM{e:α->List AV}{w:Nat}(he:∀ x,(e x).length=w)(l:List α):Gp w (l.map e)=true:=by
 rw[Il];simp[he]
theorem AJ{n b:Nat}(hn:n<=1099511627776)(hb:b<=128):Bf n b=true:=by
 unfold Bf;have:n*b<=1099511627776*128:=Nat.mul_le_mul hn hb;have h1:ApA (n*b) 140737488355328=true:=by simp;omega
 rw[h1];simp[maxLen];omega
end
end Go.Proofs.YtlmhajfbpplpoaaGreat
