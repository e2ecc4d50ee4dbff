/- The limit of what can be -/
import Derived.Test.YtmbfbclboenajaaGreatFAJ
set_option linter.all false
open Bool renaming and_eq_true->Aq6
open List renaming append_nil->ArB,getElem?_append_left->ArQ,getElem?_append_right->Arf,getElem?_cons_succ->ArD,getElem?_eq_some_iff->Aq5,length_cons->AqR,nil_append->Aq4,take_of_length_le->ArS
open Nat renaming beq->Aru,ble->AqZ,blt->ArK,eq_of_beq_eq_true->Arl,le_refl->π,lt_or_ge->ArA,min->ArY
namespace Go.Proofs.YtmbfbclboenajaaGreat
open AV renaming tup->γ
open Option.some renaming injEq->ψ
open Go.RowKit
structure Seat where
 fns:Nat->Option MFn
 own:List (Nat × Nat)
 ext:Nat->Option DF
def Ait(A:Ar)(M:Seat)(D:Orc):Orc:=.mk λk args bs=>match k with
 |.fn f=>(match M.ext f with
  |some d=>d args bs
  |none=>(match M.fns f with
   |some mf=>PM (EY (fnM A D M.own f mf)) args bs
   |none=>none))
 |.lp f i=>(match M.fns f with
  |some mf=>(match mf.loops[i]? with
   |some lc=>PM (EY (lpM A D M.own f i lc.1 lc.2)) args bs
   |none=>none)
  |none=>none)
def Dn(A:Ar)(M:Seat):Nat->Orc
 |0=>.no
 |n+1=>Ait A M (Dn A M n)
open Classical in
noncomputable def AY(A:Ar)(M:Seat):Orc:=.mk λk args bs=>if h:∃ r n,∀ m,n<=m->(Dn A M m).ask k args bs=some r then some h.choose else none
section
variable {A:Ar} {M:Seat}
theorem Q5{k:Key}{args:List AV}{bs:List ABlk}{r:AV × List BO}(h:(AY A M).ask k args bs=some r):∃ n,∀ m,n<=m->(Dn A M m).ask k args bs=some r:=by
 unfold AY Orc.ask at h;simp only at h;split at h
 .rename_i hx
  simp only[ψ]at h;rw[←h];exact hx.choose_spec
 .cases h
open Classical in
theorem AgH{k:Key}{args:List AV}{bs:List ABlk}{r:AV × List BO}{n:Nat}(h:∀ m,n<=m->(Dn A M m).ask k args bs=some r):(AY A M).ask k args bs=some r:=by
 have hx:∃ r n,∀ m,n<=m->(Dn A M m).ask k args bs=some r:=⟨r,n,h⟩;have:(AY A M).ask k args bs=some hx.choose:=by
  unfold AY
  show (if h:∃ r n,∀ m,n<=m->(Dn A M m).ask k args bs=some r then some h.choose else none)=_
  rw[dif_pos hx]
 rw[this];obtain⟨n',h'⟩:=hx.choose_spec;have e1:=h' (max n n') (Nat.le_max_right _ _);have e2:=h (max n n') (Nat.le_max_left _ _);rw[e1]at e2;exact e2
def Ev{β:Type}(A:Ar)(M:Seat)(g:Orc->Option β):Prop:=∀ r,g (AY A M)=some r->∃ n,∀ m,n<=m->g (Dn A M m)=some r
def EvM{α:Type}(A:Ar)(M:Seat)(g:Orc->AM α):Prop:=∀ H,Ev A M λD=>g D H
theorem EvM.const{α:Type}(x:AM α):EvM A M λ_=>x:=λ_ _ h=>⟨0,λ_ _=>h⟩
theorem EvM.bind{α β:Type}{x:Orc->AM α}{f:Orc->α->AM β}(hx:EvM A M x)(hf:∀ a,EvM A M λD=>f D a):EvM A M λD=>(x D).bind (f D):=λH r h=>by
 simp only[AM.bind]at h ⊢
 cases e1:x (AY A M) H with
 |none=>rw[e1]at h;cases h
 |some q=>
  obtain⟨a,H1,f1⟩:=q;rw[e1]at h;simp only at h
  cases e2:f (AY A M) a H1 with
  |none=>rw[e2]at h;cases h
  |some q2=>
   rw[e2]at h;obtain⟨n1,h1⟩:∃ n,∀ m,n<=m->x (Dn A M m) H=some (a,H1,f1):=hx H _ e1;obtain⟨n2,h2⟩:∃ n,∀ m,n<=m->f (Dn A M m) a H1=some q2:=hf a H1 _ e2;refine⟨max n1 n2,λm hm=>?_⟩;rw[h1 m (by omega)];simp only;rw[h2 m (by omega)];exact h
theorem EvM.opt{α:Type}{g:Orc->Option α}(h:Ev A M g):EvM A M λD=>AM.opt (g D):=λH r e=>by
 have e:AM.opt (g (AY A M)) H=some r:=e
 cases e1:g (AY A M) with
 |none=>rw[e1]at e;cases e
 |some a=>
  obtain⟨n,hn⟩:=h a e1;refine⟨n,λm hm=>?_⟩
  show AM.opt (g (Dn A M m)) H=some r
  rw[hn m hm];rw[e1]at e;exact e
theorem EvM.callD(k:Key)(args:List AV):EvM A M λD=>callD (D.ask k) args:=by
 unfold Go.Proofs.YtmbfbclboenajaaGreat.callD;refine EvM.bind (EvM.const _) λL=>EvM.bind (EvM.const _) λbs=>EvM.bind (EvM.opt λr h=>Q5 h) λr=>EvM.const _
theorem EvM.callsM(own:List (Nat × Nat))(f:FuncId)(args:List AV):EvM A M λD=>callsM D own f args:=by
 unfold Go.Proofs.YtmbfbclboenajaaGreat.callsM;exact EvM.bind (EvM.const _) λl=>EvM.callD _ _
theorem EvM.loopsM(f i:Nat)(T:List AV):EvM A M λD=>loopsM D f i T:=by
 unfold Go.Proofs.YtmbfbclboenajaaGreat.loopsM;exact EvM.bind (EvM.callD _ _) λr=>EvM.const _
theorem EvM.mop{B:Ar}{Γ:Orc->FuncId->List AV->AM AV}(hΓ:∀ f args,EvM A M λD=>Γ D f args)(o:MO)(T:List AV):EvM A M λD=>mop B (Γ D) o T:=by
 cases o with
 |callF f args=>exact hΓ _ _
 |callV ents x args=>
  show EvM A M λD=>(match AW T x with
   |.fn (.func g) a cs=>(match ents.testBit g with
    |true=>Γ D g (a++P0 T args++cs)
    |false=>AM.fail)
   |_=>AM.fail)
  split
  .split
   .exact hΓ _ _
   .exact EvM.const _
  .exact EvM.const _
 |_=>exact EvM.const _
theorem EvM.coreM{B:Ar}{Γ:Orc->FuncId->List AV->AM AV}(hΓ:∀ f args,EvM A M λD=>Γ D f args)(o:MOp)(T:List AV):EvM A M λD=>coreM B (Γ D) o T:=by
 unfold Go.Proofs.YtmbfbclboenajaaGreat.coreM;split
 .split
  .exact EvM.mop hΓ _ _
  .exact EvM.const _
 .exact EvM.const _
theorem Ev.runM{B:Ar}{Γ:Orc->FuncId->List AV->AM AV}(hΓ:∀ f args,EvM A M λD=>Γ D f args):∀(l:List MOp) (T:List AV) (H:AH),Ev A M λD=>runM B (Γ D) l T H
 |[],T,H=>λr h=>⟨0,λ_ _=>h⟩
 |o::l,T,H=>λr h=>by
  simp only[Go.Proofs.YtmbfbclboenajaaGreat.runM]at h ⊢
  cases e1:Go.Proofs.YtmbfbclboenajaaGreat.coreM B (Γ (AY A M)) o T H with
  |none=>rw[e1]at h;cases h
  |some q=>
   obtain⟨v,H1,f1⟩:=q;rw[e1]at h;simp only at h
   cases e2:Go.Proofs.YtmbfbclboenajaaGreat.runM B (Γ (AY A M)) l (Cv T o.dst v) H1 with
   |none=>rw[e2]at h;cases h
   |some q2=>
    rw[e2]at h;obtain⟨n1,h1⟩:∃ n,∀ m,n<=m->Go.Proofs.YtmbfbclboenajaaGreat.coreM B (Γ (Dn A M m)) o T H=some (v,H1,f1):=EvM.coreM hΓ o T H _ e1;obtain⟨n2,h2⟩:∃ n,∀ m,n<=m->Go.Proofs.YtmbfbclboenajaaGreat.runM B (Γ (Dn A M m)) l (Cv T o.dst v) H1=some q2:=Ev.runM hΓ l _ H1 _ e2;refine⟨max n1 n2,λm hm=>?_⟩;rw[h1 m (by omega)];simp only;rw[h2 m (by omega)];exact h
theorem EvM.regM{B:Ar}{Γ:Orc->FuncId->List AV->AM AV}(hΓ:∀ f args,EvM A M λD=>Γ D f args)(ops:List MOp)(bf:Option (List Nat))(T:List AV):EvM A M λD=>regM B (Γ D) ops bf T:=λH r h=>by
 simp only[Go.Proofs.YtmbfbclboenajaaGreat.regM]at h ⊢
 cases e1:Go.Proofs.YtmbfbclboenajaaGreat.runM B (Γ (AY A M)) ops T H with
 |none=>rw[e1]at h;cases h
 |some q=>
  rw[e1]at h;obtain⟨n1,h1⟩:∃ n,∀ m,n<=m->Go.Proofs.YtmbfbclboenajaaGreat.runM B (Γ (Dn A M m)) ops T H=some q:=Ev.runM hΓ ops T H _ e1;exact⟨n1,λm hm=>by rw[h1 m hm];exact h⟩
theorem EvM.evC{B:Ar}{Γ:Orc->FuncId->List AV->AM AV}{Λ:Orc->Nat->List AV->AM (AX × List AV)}(hΓ:∀ f args,EvM A M λD=>Γ D f args)(hΛ:∀ i T,EvM A M λD=>Λ D i T):∀(c:MC) (T:List AV),EvM A M λD=>evC B (Γ D) (Λ D) c T
 |.skip,T=>EvM.const _
 |.reg ops bf,T=>EvM.regM hΓ _ _ _
 |.seq a b,T=>by
  unfold Go.Proofs.YtmbfbclboenajaaGreat.evC;refine EvM.bind (EvM.evC hΓ hΛ a T) λr=>?_
  split
  .exact EvM.evC hΓ hΛ b _
  .exact EvM.const _
 |.cond c a b,T=>by
  unfold Go.Proofs.YtmbfbclboenajaaGreat.evC;split
  .split
   .exact EvM.evC hΓ hΛ a T
   .exact EvM.evC hΓ hΛ b T
  .exact EvM.const _
 |.block id c,T=>by
  unfold Go.Proofs.YtmbfbclboenajaaGreat.evC;exact EvM.bind (EvM.evC hΓ hΛ c T) λr=>EvM.const _
 |.loop i q,T=>by
  unfold Go.Proofs.YtmbfbclboenajaaGreat.evC;refine EvM.bind (EvM.const _) λ_=>EvM.bind (EvM.const _) λ_=>?_
  split
  .exact EvM.bind (hΛ _ _) λ_=>EvM.const _
  .exact EvM.const _
 |.exit id,T=>EvM.const _
 |.ret,T=>EvM.const _
 |.bad,_=>EvM.const _
theorem EvM.fnM{B:Ar}(own:List (Nat × Nat))(f:Nat)(mf:MFn)(args:List AV):EvM A M λD=>fnM B D own f mf args:=by
 unfold Go.Proofs.YtmbfbclboenajaaGreat.fnM;exact EvM.bind (EvM.evC (Γ:=λD=>Go.Proofs.YtmbfbclboenajaaGreat.callsM D own) (Λ:=λD=>Go.Proofs.YtmbfbclboenajaaGreat.loopsM D f) (EvM.callsM own) (EvM.loopsM f) _ _) λr=>EvM.const _
theorem EvM.lpM{B:Ar}(own:List (Nat × Nat))(f i:Nat)(q:LpH)(c:MC)(T:List AV):EvM A M λD=>lpM B D own f i q c T:=by
 unfold Go.Proofs.YtmbfbclboenajaaGreat.lpM;refine EvM.bind (EvM.evC (Γ:=λD=>Go.Proofs.YtmbfbclboenajaaGreat.callsM D own) (Λ:=λD=>Go.Proofs.YtmbfbclboenajaaGreat.loopsM D f) (EvM.callsM own) (EvM.loopsM f) _ _) λr=>?_
 split
 .exact EvM.bind (EvM.const _) λ_=>EvM.bind (EvM.loopsM _ _ _) λ_=>EvM.const _
 .exact EvM.const _
 .exact EvM.const _
theorem Ev.gcRun{m:Orc->List AV->AM AV}(h:∀ args,EvM A M λD=>m D args)(args:List AV)(bs:List ABlk):Ev A M λD=>PM (EY (m D)) args bs:=λr e=>by
 have key:∀ q,EY (m (AY A M)) args bs=some q->∃ n,∀ k,n<=k->EY (m (Dn A M k)) args bs=some q:=λq hq=>by
  unfold EY at hq ⊢
  cases e1:m (AY A M) args ⟨Dd 0 bs,bs.length,none⟩ with
  |none=>rw[e1]at hq;cases hq
  |some x=>
   rw[e1]at hq;obtain⟨n,hn⟩:∃ n,∀ k,n<=k->m (Dn A M k) args ⟨Dd 0 bs,bs.length,none⟩=some x:=h args _ _ e1;exact⟨n,λk hk=>by rw[hn k hk];exact hq⟩
 have e:PM (EY (m (AY A M))) args bs=some r:=e;unfold PM at e
 cases e1:EY (m (AY A M)) args bs with
 |none=>rw[e1]at e;cases e
 |some q=>
  rw[e1]at e;obtain⟨n,hn⟩:=key q e1;refine⟨n,λk hk=>?_⟩
  show PM (EY (m (Dn A M k))) args bs=some r
  unfold PM;rw[hn k hk];exact e
theorem Mk{k:Key}{args:List AV}{bs:List ABlk}{r:AV × List BO}(h:∃ n,∀ m,n<=m->(Ait A M (Dn A M m)).ask k args bs=some r):(AY A M).ask k args bs=some r:=by
 obtain⟨n,hn⟩:=h;refine AgH (n:=n+1) λm hm=>?_
 cases m with
 |zero=>omega
 |succ m=>exact hn m (by omega)
theorem AgF{f:Nat}{mf:MFn}(he:M.ext f=none)(hf:M.fns f=some mf){args:List AV}{bs:List ABlk}{r:AV × List BO}(h:PM (EY (fnM A (AY A M) M.own f mf)) args bs=some r):(AY A M).ask (.fn f) args bs=some r:=by
 obtain⟨n,hn⟩:=Ev.gcRun (m:=λD=>fnM A D M.own f mf) (λargs=>EvM.fnM M.own f mf args) args bs r h;refine Mk ⟨n,λm hm=>?_⟩
 show (match M.ext f with
  |some d=>d args bs
  |none=>(match M.fns f with
   |some mf=>PM (EY (fnM A (Dn A M m) M.own f mf)) args bs
   |none=>none))=_
 rw[he,hf];exact hn m hm
theorem AgG{f i:Nat}{mf:MFn}{live:LpH}{c:MC}(hf:M.fns f=some mf)(hl:mf.loops[i]? = some (live,c)){args:List AV}{bs:List ABlk}{r:AV × List BO}(h:PM (EY (lpM A (AY A M) M.own f i live c)) args bs=some r):(AY A M).ask (.lp f i) args bs=some r:=by
 obtain⟨n,hn⟩:=Ev.gcRun (m:=λD=>lpM A D M.own f i live c) (λargs=>EvM.lpM M.own f i live c args) args bs r h;refine Mk ⟨n,λm hm=>?_⟩
 show (match M.fns f with
  |some mf=>(match mf.loops[i]? with
   |some lc=>PM (EY (lpM A (Dn A M m) M.own f i lc.1 lc.2)) args bs
   |none=>none)
  |none=>none)=_
 rw[hf];simp only[hl];exact hn m hm
theorem Bq{f:Nat}{d:DF}(he:M.ext f=some d){args:List AV}{bs:List ABlk}{r:AV × List BO}(h:d args bs=some r):(AY A M).ask (.fn f) args bs=some r:=
 Mk ⟨0,λm _=>by
  show (match M.ext f with
   |some d=>d args bs
   |none=>(match M.fns f with
    |some mf=>PM (EY (fnM A (Dn A M m) M.own f mf)) args bs
    |none=>none))=_
  rw[he];exact h⟩
end
structure SeatOk (P:Program) (ents:Nat) (M:Seat):Prop where
 mixed:P.follows .mixedOrders=true
 ent:I6 P ents
 fns:∀ f mf,M.fns f=some mf->FnOk P ents f mf
 ext:∀ f d,M.ext f=some d->BS (B5 P f) d
theorem Dx(P:Program)(ents:Nat)(hs:I7):∀(c:Code) (n:Nat) (j:Nat) (c':Code),(BG c)[j]? = some c'->∃ live,(∀ q,hs[n+j]? = some q->live=q)/\(BB P ents hs c n).2[j]? = some (live,(BB P ents hs c' (n+j+1)).1)/\(Lq c=true->Lq c'=true)/\∀ i c2,(BG c')[i]? = some c2->(BG c)[j+1+i]? = some c2
 |.skip,n,j,c',h=>by simp[BG]at h
 |.region ..,n,j,c',h=>by simp[BG]at h
 |.seq a b,n,j,c',h=>by
  have h:(BG a++BG b)[j]? = some c':=h;have hn:(BB P ents hs (.seq a b) n).2=(BB P ents hs a n).2++(BB P ents hs b (n+(BB P ents hs a n).2.length)).2:=rfl;rw[hn];rcases ArA j (BG a).length with hj|hj
  .rw[ArQ hj]at h
   obtain⟨live,h0,h1,h2,h3⟩:=Dx P ents hs a n j c' h;refine⟨live,h0,by rw[ArQ (by rw[Cs];exact hj)];exact h1,λhok=>h2 (by simp only[Lq,Aq6]at hok;exact hok.1),λi c2 hi=>?_⟩;have:=h3 i c2 hi
   show (BG a++BG b)[j+1+i]? = some c2
   rw[ArQ (Aq5.1 this).1];exact this
  .rw[Arf hj]at h
   obtain⟨live,h0,h1,h2,h3⟩:=Dx P ents hs b (n+(BB P ents hs a n).2.length) (j-(BG a).length) c' h;have hl:=Cs P ents hs a n;rw[hl]at h0;refine⟨live,λq hq=>h0 q (by rw[show n+(BG a).length+(j-(BG a).length)=n+j by omega];exact hq),?_,λhok=>h2 (by simp only[Lq,Aq6]at hok;exact hok.2),λi c2 hi=>?_⟩
   .rw[Arf (by omega),hl]
    rw[hl]at h1;rw[show n+j+1=n+(BG a).length+(j-(BG a).length)+1 by omega];exact h1
   .have:=h3 i c2 hi
    show (BG a++BG b)[j+1+i]? = some c2
    rw[Arf (by omega),show j+1+i-(BG a).length=j-(BG a).length+1+i by omega];exact this
 |.cond q a b,n,j,c',h=>by
  have h:(BG a++BG b)[j]? = some c':=h;have hn:(BB P ents hs (.cond q a b) n).2=(BB P ents hs a n).2++(BB P ents hs b (n+(BB P ents hs a n).2.length)).2:=rfl;rw[hn];rcases ArA j (BG a).length with hj|hj
  .rw[ArQ hj]at h
   obtain⟨live,h0,h1,h2,h3⟩:=Dx P ents hs a n j c' h;refine⟨live,h0,by rw[ArQ (by rw[Cs];exact hj)];exact h1,λhok=>h2 (by simp only[Lq,Aq6]at hok;exact hok.1),λi c2 hi=>?_⟩;have:=h3 i c2 hi
   show (BG a++BG b)[j+1+i]? = some c2
   rw[ArQ (Aq5.1 this).1];exact this
  .rw[Arf hj]at h
   obtain⟨live,h0,h1,h2,h3⟩:=Dx P ents hs b (n+(BB P ents hs a n).2.length) (j-(BG a).length) c' h;have hl:=Cs P ents hs a n;rw[hl]at h0;refine⟨live,λq hq=>h0 q (by rw[show n+(BG a).length+(j-(BG a).length)=n+j by omega];exact hq),?_,λhok=>h2 (by simp only[Lq,Aq6]at hok;exact hok.2),λi c2 hi=>?_⟩
   .rw[Arf (by omega),hl]
    rw[hl]at h1;rw[show n+j+1=n+(BG a).length+(j-(BG a).length)+1 by omega];exact h1
   .have:=h3 i c2 hi
    show (BG a++BG b)[j+1+i]? = some c2
    rw[Arf (by omega),show j+1+i-(BG a).length=j-(BG a).length+1+i by omega];exact this
 |.block id a,n,j,c',h=>Dx P ents hs a n j c' h
 |.loop a,n,j,c',h=>by
  have h:(a::BG a)[j]? = some c':=h;have hn:∃ live,(∀ q,hs[n]? = some q->live=q)/\(BB P ents hs (.loop a) n).2=(live,(BB P ents hs a (n+1)).1)::(BB P ents hs a (n+1)).2:=by
   have:BB P ents hs (.loop a) n=(match BB P ents hs a (n+1),hs[n]? with
    |(mc,lc),some h=>(.loop n h,(h,mc)::lc)
    |(mc,lc),none=>(.bad,(⟨0,[],[],[],[]⟩,mc)::lc)):=by rw[BB];rfl
   rw[this]
   cases hs[n]? with
   |none=>exact⟨_,λq h=>(by cases h),rfl⟩
   |some q=>exact⟨_,λq' h=>Option.some.inj h,rfl⟩
  obtain⟨live,hq0,hn⟩:=hn;rw[hn]
  cases j with
  |zero=>
   simp only[List.getElem?_cons_zero,ψ]at h;subst h;exact⟨live,hq0,rfl,λhok=>hok,λi c2 hi=>by
    show (a::BG a)[0+1+i]? = some c2
    rw[show 0+1+i=i+1 by omega];exact hi⟩
  |succ j=>
   simp only[ArD]at h;obtain⟨live',h0,h1,h2,h3⟩:=Dx P ents hs a (n+1) j c' h;refine⟨live',λq hq=>h0 q (by rw[show n+1+j=n+(j+1) by omega];exact hq),?_,h2,λi c2 hi=>?_⟩
   .simp only[ArD]
    rw[show n+(j+1)+1=n+1+j+1 by omega];exact h1
   .show (a::BG a)[j+1+1+i]? = some c2
    rw[show j+1+1+i=(j+1+i)+1 by omega];exact h3 i c2 hi
 |.exit _,n,j,c',h=>by simp[BG]at h
 |.ret,n,j,c',h=>by simp[BG]at h
 |.rangeFunc ..,n,j,c',h=>by simp[BG]at h
 |.scope _,n,j,c',h=>by simp[BG]at h
 |.label _,n,j,c',h=>by simp[BG]at h
 |.goto _,n,j,c',h=>by simp[BG]at h
 |.refuse _,n,j,c',h=>by simp[BG]at h
theorem JG{S:PQ}:BS S λ_ _=>none:=λ_ _ _ _ h=>by cases h
theorem RK{P:Program}{ents:Nat}{M:Seat}(hM:SeatOk P ents M):∀ n,(∀ f,BS (B5 P f) ((Dn Af M n).ask (.fn f)))/\∀ f mf fn c,M.fns f=some mf->P.funcs[f]? = some fn->fn.body=some c->∀ i c' q mc,(BG c)[i]? = some c'->mf.loops[i]? = some (q,mc)->BS (P3 P q c') ((Dn Af M n).ask (.lp f i))
 |0=>⟨λ_=>JG,λ_ _ _ _ _ _ _ _ _ _ _ _ _=>JG⟩
 |n+1=>by
  obtain⟨ih1,ih2⟩:=RK hM n;have hΓ:=RC (P:=P) M.own ih1;refine⟨λf=>?_,λf mf fn c h0 h1 h2 i c' q mc hi hq=>?_⟩
  .have hd:(Dn Af M (n+1)).ask (.fn f)=λargs bs=>(match M.ext f with
     |some d=>d args bs
     |none=>(match M.fns f with
      |some mf=>PM (EY (fnM Af (Dn Af M n) M.own f mf)) args bs
      |none=>none)):=rfl
   rw[hd]
   cases e:M.ext f with
   |some d=>exact hM.ext f d e
   |none=>
    cases e2:M.fns f with
    |none=>exact JG
    |some mf=>
     obtain⟨fn,c,hs,k1,k2,k3,k4,k5,k6,k7,k8⟩:=(hM.fns f mf e2).ok;refine TL (Dp P f) (QY (Y7 M.own hM.mixed hM.ent k1 k2 k3 k4 k5 k6 k7 hΓ λj c' q hj hq=>KF ?_) λargs=>Loc.fnM _ _ _ _ _ _);obtain⟨live,q0,q1,_,_⟩:=Dx P ents hs c 0 j c' hj;rw[Nat.zero_add]at q0;rw[q0 q hq]at q1;exact ih2 f mf fn c e2 k1 k2 j c' q _ hj (by rw[k8];exact q1)
  .have hd:(Dn Af M (n+1)).ask (.lp f i)=λargs bs=>(match M.fns f with
     |some mf=>(match mf.loops[i]? with
      |some lc=>PM (EY (lpM Af (Dn Af M n) M.own f i lc.1 lc.2)) args bs
      |none=>none)
     |none=>none):=rfl
   rw[hd,h0];simp only[hq];obtain⟨fn',c0,hs,k1,k2,k3,k4,k5,k6,k7,k8⟩:=(hM.fns f mf h0).ok;rw[h1]at k1
   cases k1
   rw[h2]at k2
   cases k2
   obtain⟨live,q0,q1,q2,q3⟩:=Dx P ents hs c 0 i c' hi;rw[k8,q1]at hq;simp only[ψ,Prod.mk.injEq]at hq;obtain⟨rfl,rfl⟩:=hq;refine TL (Pv P live c') (QY (Zr M.own hM.mixed hM.ent (q2 k3) hΓ (λj c2 q hj hq=>?_) (ih2 f mf fn c h0 h1 h2 i c' live _ hi (by rw[k8];exact q1))) λargs=>Loc.lpM _ _ _ _ _ _ _ _);rw[show 0+i+1+j=i+1+j by omega];obtain⟨live2,p0,p1,_,_⟩:=Dx P ents hs c 0 (i+1+j) c2 (q3 j c2 hj);rw[show 0+(i+1+j)=0+i+1+j by omega]at p0;rw[p0 q hq]at p1;exact KF (ih2 f mf fn c h0 h1 h2 (i+1+j) c2 q _ (q3 j c2 hj) (by rw[k8];exact p1))
theorem DX{P:Program}{ents:Nat}{M:Seat}(hM:SeatOk P ents M)(f:FuncId):BS (B5 P f) ((AY Af M).ask (.fn f)):=by
 intro args bs r out h;obtain⟨n,hn⟩:=Q5 h;exact(RK hM n).1 f args bs r out (hn n (π _))
section
open Go.RowKit
abbrev KR:=Option (AV × List BO)
inductive Sh where
 |int (k:IntKind)
 |bool
 |str
 |ls
 |lp (l:List Sh)
 |agg (l:List Sh)
 |tup (l:List Sh)
 |sl (b e:Nat)
 |slo (b e:Nat)
 |ptr (b o:Nat)
 |cst (v:Value)
 |fnc (f:Nat)
 |any
inductive Os where
 |keep
 |del
 |row (st:Bool)
 |box (l:List Sh)
def br(b:Bool)(x y:KR):KR:=match b with
 |true=>x
 |false=>y
def unI(n:Int)(k:Nat->KR):KR:=match n with
 |.ofNat i=>k i
 |.negSucc _=>none
def Bj(xs:List (List AV))(i:Nat)(k:List AV->KR):KR:=match UC xs i with
 |some cs=>k cs
 |none=>none
def EX(cells:List AV)(o n:Nat)(k:List AV->KR):KR:=match AqZ (o+n) cells.length with
 |true=>k ((cells.drop o).take n)
 |false=>none
def AA(D:Orc)(key:Key)(args:List AV)(bs:List ABlk)(k:AV->List BO->KR):KR:=match D.ask key args bs with
 |some r=>k r.1 r.2
 |none=>none
def Jp(kd:IntKind)(x:AV)(k:Int->KR):KR:=match x with
 |.v (.int k' n)=>if k'=kd then k n else none
 |_=>none
def Mp(x:AV)(k:Bool->KR):KR:=match x with
 |.v (.bool b)=>k b
 |_=>none
def Rd(x:AV)(k:ByteArray->KR):KR:=match x with
 |.v (.string s)=>k s
 |_=>none
def Mr(x:AV)(k:List (List AV)->KR):KR:=match x with
 |.ls xs=>k xs
 |_=>none
def An5(x:AV)(k0:KR)(k:List AV->KR):KR:=match x with
 |.v (.pointer none)=>k0
 |.lp cs=>k cs
 |_=>none
def MZ(x:AV)(k:List AV->KR):KR:=match x with
 |.agg cs=>k cs
 |_=>none
def Lm(x:AV)(k:List AV->KR):KR:=match x with
 |.tup cs=>k cs
 |_=>none
def W9(b e:Nat)(x:AV)(k:Nat->KR):KR:=match x with
 |.sl b' 0 n e'=>(match Aru b b',Aru e e' with
  |true,true=>k n
  |_,_=>none)
 |_=>none
def Rc(b e:Nat)(x:AV)(k:Nat->Nat->KR):KR:=match x with
 |.sl b' o n e'=>(match Aru b b',Aru e e' with
  |true,true=>k o n
  |_,_=>none)
 |_=>none
def Ll(b o:Nat)(x:AV)(k:KR):KR:=match x with
 |.ptr b' o'=>(match Aru b b',Aru o o' with
  |true,true=>k
  |_,_=>none)
 |_=>none
def Aan(f:Nat)(x:AV)(k:KR):KR:=match x with
 |.fn (.func g) [] []=>(match Aru f g with
  |true=>k
  |false=>none)
 |_=>none
def AhR:Value->Value->Bool
 |.slice none 0 0,.slice none 0 0=>true
 |.pointer none,.pointer none=>true
 |_,_=>false
def Ve(v:Value)(x:AV)(k:KR):KR:=match x with
 |.v u=>(match AhR v u with
  |true=>k
  |false=>none)
 |_=>none
def Ft(cs:List AV)(k:KR):KR:=match cs with
 |[]=>k
 |_::_=>none
def Ef(cs:List AV)(k:AV->List AV->KR):KR:=match cs with
 |[]=>none
 |c::r=>k c r
def M6(kd:IntKind)(cs:List AV)(k:Int->List AV->KR):KR:=match cs with
 |.v (.int k' n)::r=>if k'=kd then k n r else none
 |_=>none
def Qd(cs:List AV)(k:Bool->List AV->KR):KR:=match cs with
 |.v (.bool b)::r=>k b r
 |_=>none
def YV(cs:List AV)(k:ByteArray->List AV->KR):KR:=match cs with
 |.v (.string s)::r=>k s r
 |_=>none
def cLs(cs:List AV)(k:List (List AV)->List AV->KR):KR:=match cs with
 |.ls xs::r=>k xs r
 |_=>none
def EP(o:List BO)(k:BO->List BO->KR):KR:=match o with
 |[]=>none
 |c::r=>k c r
def DI(o:List BO)(k:KR):KR:=match o with
 |[]=>k
 |_::_=>none
def Mq(o:BO)(k:KR):KR:=match o with
 |.keep=>k
 |_=>none
def Rb(o:BO)(k:KR):KR:=match o with
 |.del=>k
 |_=>none
def GB(st ex:Bool)(o:BO)(k:List AV->KR):KR:=match o with
 |.set ⟨cs,st',ex'⟩=>if st'=st/\ex'=ex then k cs else none
 |_=>none
def Bm(k:Nat)(x:AV):Bool:=match k,x with
 |0,.v (.bool true)=>true
 |i+1,.v (.int .i64 (.ofNat j))=>Aru i j
 |_,_=>false
mutual
def Df:Sh->AV->(AV->KR)->KR
 |.int kd,x,K=>Jp kd x λn=>K (.v (.int kd n))
 |.bool,x,K=>Mp x λb=>K (.v (.bool b))
 |.str,x,K=>Rd x λs=>K (.v (.string s))
 |.ls,x,K=>Mr x λxs=>K (.ls xs)
 |.lp l,x,K=>An5 x (K (.v (.pointer none))) λcs=>CB l cs λcs=>K (.lp cs)
 |.agg l,x,K=>MZ x λcs=>CB l cs λcs=>K (.agg cs)
 |.tup l,x,K=>Lm x λcs=>CB l cs λcs=>K (.tup cs)
 |.sl b e,x,K=>W9 b e x λn=>K (.sl b 0 n e)
 |.slo b e,x,K=>Rc b e x λo n=>K (.sl b o n e)
 |.ptr b o,x,K=>Ll b o x (K (.ptr b o))
 |.cst v,x,K=>Ve v x (K (.v v))
 |.fnc f,x,K=>Aan f x (K (.fn (.func f) [] []))
 |.any,x,K=>K x
def CB:List Sh->List AV->(List AV->KR)->KR
 |[],cs,K=>Ft cs (K [])
 |.int kd::l,cs,K=>M6 kd cs λn r=>CB l r λr=>K (.v (.int kd n)::r)
 |.bool::l,cs,K=>Qd cs λn r=>CB l r λr=>K (.v (.bool n)::r)
 |.str::l,cs,K=>YV cs λn r=>CB l r λr=>K (.v (.string n)::r)
 |.ls::l,cs,K=>cLs cs λn r=>CB l r λr=>K (.ls n::r)
 |s::l,cs,K=>Ef cs λc r=>Df s c λc=>CB l r λr=>K (c::r)
end
def FA:List Os->List BO->(List BO->KR)->KR
 |[],o,K=>DI o (K [])
 |s::l,o,K=>EP o λc r=>(match s with
  |.keep=>Mq c (FA l r λr=>K (.keep::r))
  |.del=>Rb c (FA l r λr=>K (.del::r))
  |.row st=>GB st true c λcs=>FA l r λr=>K (.set ⟨cs,st,true⟩::r)
  |.box m=>GB true false c λcs=>CB m cs λcs=>FA l r λr=>K (.set ⟨cs,true,false⟩::r))
inductive Sc where
 |n
 |b (x y:Sc)
 |t (x:Sc)
 |f (x:Sc)
def brS(s:Sc)(c:Bool)(x y:Sc->KR):KR:=match s with
 |.n=>br c (x .n) (y .n)
 |.b p q=>br c (x p) (y q)
 |.t p=>br c (x p) none
 |.f p=>br c none (y p)
def KM(α:Type):=AH->Sc->(α->AH->Foot->Sc->KR)->KR
namespace KM
variable {α β:Type}
def ret(a:α):KM α:=λH s k=>k a H ⟨[],[]⟩ s
def fail:KM α:=λ_ _ _=>none
def bind(m:KM α)(f:α->KM β):KM β:=λH s k=>m H s λa H1 f1 s=>f a H1 s λb H2 f2 s=>k b H2 ⟨f1.rd++f2.rd,f1.wr++f2.wr⟩ s
def gen(m:AM α):KM α:=λH s k=>match m H with
 |some (a,H',f)=>k a H' f s
 |none=>none
def opt:Option α->KM α
 |some a=>ret a
 |none=>fail
def brk(b:Bool)(x y:KM α):KM α:=λH s k=>brS s b (λs=>x H s k) (λs=>y H s k)
def test(b:Bool)(x:KM α):KM α:=λH s k=>br b (x H s k) none
def unI(n:Int)(f:Nat->KM α):KM α:=λH s k=>Go.Proofs.YtmbfbclboenajaaGreat.unI n λi=>f i H s k
def nth(xs:List (List AV))(i:Nat)(f:List AV->KM α):KM α:=λH s k=>Bj xs i λcs=>f cs H s k
def rd(cells:List AV)(o n:Nat):KM (List AV):=λH s k=>EX cells o n λcs=>k cs H ⟨[],[]⟩ s
def exp(t:Sh)(x:AV):KM AV:=λH s k=>Df t x λy=>k y H ⟨[],[]⟩ s
def expL(l:List Sh)(x:List AV):KM (List AV):=λH s k=>CB l x λy=>k y H ⟨[],[]⟩ s
def expO(l:List Os)(x:List BO):KM (List BO):=λH s k=>FA l x λy=>k y H ⟨[],[]⟩ s
def ask(D:Orc)(key:Key)(args:List AV)(bs:List ABlk):KM (AV × List BO):=λH s k=>AA D key args bs λr o=>k (r,o) H ⟨[],[]⟩ s
def idx(x:AV)(f:Nat->KM α):KM α:=match x with
 |.v (.int _ n)=>unI n f
 |_=>fail
def idxO(n:Nat)(x:Option AV)(f:Nat->KM α):KM α:=match x with
 |some x=>idx x f
 |none=>f n
end KM
def AZ(n bytes:Nat):Bool:=match AqZ (n*bytes) 140737488355328 with
 |true=>AqZ n maxLen
 |false=>false
def KA(l h n:Nat):Bool:=match AqZ l h with
 |true=>AqZ h n
 |false=>false
structure Hnt where
 fn:List (Nat × (Sh × List Os))
 lp:List (Nat × List (Nat × (List Sh × List Os)))
 tm:List (Nat × List Sh)
def Cy{α:Type}(n:Nat):List (Nat × α)->Option α
 |[]=>none
 |(m,a)::r=>match Aru n m with
  |true=>some a
  |false=>Cy n r
section
variable (A:Ar) (D:Orc) (own:List (Nat × Nat)) (Hn:Hnt)
def tmK(d:Option Nat)(cs:List AV):KM (List AV):=match d with
 |some d=>(match Cy d Hn.tm with
  |some l=>KM.expL l cs
  |none=>KM.ret cs)
 |none=>KM.ret cs
def Yf(d:Option Nat)(a:AV)(n:Nat):KM (List AV):=match a with
 |.ptr b o=>(KM.gen (AM.getB b)).bind λk=>(KM.rd k.cells o n).bind λcs=>match k.ex with
  |true=>tmK Hn d cs
  |false=>KM.ret cs
 |a=>KM.gen (rdAt a n)
def AcE(d:Option Nat)(row:Bool)(n:Nat)(a:AV):KM AV:=match row with
 |true=>(Yf Hn d a n).bind λcs=>KM.ret (.agg cs)
 |false=>(Yf Hn d a 1).bind λcs=>KM.opt (WD cs)
def W0(n:Nat)(a x:AV):KM AV:=match a with
 |.ptr b o=>
  if x.cells.length=n/\x.cells.all AV.one=true then
   (KM.gen (AM.getB b)).bind λk=>if k.st=true/\(!k.ex||AU x.cells)=true then KM.test (AqZ (o+n) k.cells.length) ((KM.gen (AM.setB b { k with cells:=AI k.cells o x.cells })).bind λ_=>KM.ret AV.undef) else KM.fail
  else KM.fail
 |_=>KM.fail
def Wi(d:Option Nat)(e:Nat)(x ix:AV):KM AV:=KM.idx ix λi=>match x with
 |.sl b o n e'=>KM.test (ArK i n) (if e'=e then KM.ret (.ptr b (o+i*e)) else KM.fail)
 |.ls xs=>KM.nth xs i λcs=>(tmK Hn d cs).bind λcs=>(match Aru cs.length e with
  |true=>KM.ret (.lp cs)
  |false=>KM.fail)
 |_=>KM.fail
def Vr(n e:Nat)(x ix:AV):KM AV:=KM.idx ix λi=>KM.test (ArK i n) (KM.opt (OS x (i*e)))
def Wk(d:Option Nat)(n e:Nat)(row:Bool)(sz:Nat)(x ix:AV):KM AV:=KM.idx ix λi=>match x with
 |.agg cs=>KM.test (ArK i n) ((KM.rd cs (i*e) (match row with
  |true=>sz
  |false=>1)).bind λxs=>(match row with
  |true=>KM.ret (.agg xs)
  |false=>KM.opt (WD xs)))
 |_=>KM.fail
def WW(e:Nat)(x:AV)(lo hi:Option AV):KM AV:=match x with
 |.sl b o n e'=>KM.idxO 0 lo λl=>KM.idxO n hi λh=>KM.test (KA l h n) (match Aru e' e with
  |true=>KM.ret (.sl b (o+l*e) (h-l) e)
  |false=>KM.fail)
 |.ls xs=>KM.idxO 0 lo λl=>KM.idxO (AL xs) hi λh=>KM.test (KA l h (AL xs)) (KM.test (GF e xs) (KM.ret (.ls (Jc (Jn xs h) l))))
 |_=>KM.fail
def AiP(b:BinOp)(x y:AV):KM AV:=match x,y with
 |.v (.int k a),.v (.int k' c)=>(match b with
  |.shl=>KM.brk (A.lt c 0) KM.fail (KM.ret (.v (.int k (A.shl k a c))))
  |.shr=>KM.brk (A.lt c 0) KM.fail (KM.ret (.v (.int k (A.shr k a c))))
  |.quo=>if k=k' then KM.brk (A.eq c 0) KM.fail (KM.ret (.v (.int k (A.quo k a c)))) else KM.fail
  |.rem=>if k=k' then KM.brk (A.eq c 0) KM.fail (KM.ret (.v (.int k (A.rem k a c)))) else KM.fail
  |.neq=>if k=k' then KM.brk (A.eq a c) (KM.ret (.v (.bool false))) (KM.ret (.v (.bool true))) else KM.fail
  |b=>KM.opt (J3 A b (.v (.int k a)) (.v (.int k' c))))
 |.v (.string a),.v (.string c)=>(match b with
  |.add=>KM.test (AqZ (A.slen a+A.slen c) 9223372036854775807) (KM.ret (.v (.string (A.cat a c))))
  |.neq=>KM.brk (A.seq a c) (KM.ret (.v (.bool false))) (KM.ret (.v (.bool true)))
  |b=>KM.opt (J3 A b (.v (.string a)) (.v (.string c))))
 |x,y=>KM.opt (J3 A b x y)
def AdN(x i:AV):KM AV:=match x with
 |.v (.string s)=>KM.idx i λi=>KM.test (ArK i (A.slen s)) (KM.ret (.v (.int .u8 (A.sat s i))))
 |_=>KM.fail
def SL(x:AV)(lo hi:Option AV):KM AV:=match x with
 |.v (.string s)=>KM.idxO 0 lo λl=>KM.idxO (A.slen s) hi λh=>KM.test (KA l h (A.slen s)) (KM.ret (.v (.string (A.ssub s l h))))
 |_=>KM.fail
def X5(e:Nat)(x:AV):KM (Nat × List AV):=match x with
 |.sl b o n e'=>if e'=e then(KM.gen (AM.getB b)).bind λk=>KM.test (AqZ (o+n*e) k.cells.length) (match (k.ex||AU ((k.cells.drop o).take (n*e))) with
   |true=>KM.ret (n,(k.cells.drop o).take (n*e))
   |false=>KM.fail)
   else KM.fail
 |.ls xs=>KM.test (GF e xs) (KM.ret (AL xs,I1 xs))
 |.v (.slice none 0 0)=>KM.ret (0,[])
 |_=>KM.fail
def AhF(e bytes:Nat)(s:AV)(m:Nat)(xs:List AV):KM AV:=match s with
 |.v (.slice none 0 0)=>KM.test (AZ m bytes) ((KM.gen (AM.newB ⟨xs,true,true⟩)).bind λb=>KM.ret (.sl b 0 m e))
 |.sl b o n e'=>(match Aru e' e with
  |true=>KM.test (AZ (n+m) bytes) ((KM.gen (AM.getB b)).bind λk=>match k.ex,k.st with
   |true,true=>KM.test (AqZ (o+n*e) k.cells.length) ((KM.gen (AM.delB b)).bind λ_=>(KM.gen (AM.newB ⟨(k.cells.take (o+n*e)).drop o++xs,true,true⟩)).bind λb'=>KM.ret (.sl b' 0 (n+m) e))
   |true,false=>KM.test (Aru (o+n*e) k.cells.length) ((KM.gen (AM.setB b { k with ex:=false })).bind λ_=>(KM.gen (AM.newB ⟨(k.cells.take (o+n*e)).drop o++xs,false,true⟩)).bind λb'=>KM.ret (.sl b' 0 (n+m) e))
   |_,_=>KM.fail)
  |false=>KM.fail)
 |_=>KM.fail
def Xd(e bytes:Nat)(s:AV)(r:Nat × List AV):KM AV:=KM.brk (Aru r.1 0) (if PX s=true then KM.ret s else KM.fail) (KM.test (Ih r.2) (AhF e bytes s r.1 r.2))
def AkN(e bytes:Nat)(s x:AV):KM AV:=(X5 e x).bind λr=>Xd e bytes s r
def AaQ(z:List Value)(e bytes:Nat)(s x:AV):KM AV:=KM.idx x λm=>KM.test (AqZ m 9223372036854775807) (Xd e bytes s (m,BW (z.map .v) (m*e)))
def AcP(z:List Value)(e bytes:Nat)(l c:AV):KM AV:=KM.idx l λn=>KM.idx c λm=>KM.test (AqZ n m) (KM.test (AZ m bytes) ((KM.gen (AM.newB ⟨BW (z.map .v) (n*e),true,true⟩)).bind λb=>KM.ret (.sl b 0 n e)))
def AiY(e:Nat)(d x:AV):KM AV:=match d with
 |.sl b o n e'=>(match Aru e' e with
  |true=>(X5 e x).bind λr=>KM.test (Ih (r.2.take (ArY r.1 n*e))) ((KM.gen (AM.getB b)).bind λk=>match k.st with
    |true=>KM.test (AqZ (o+n*e) k.cells.length) ((KM.gen (AM.setB b { k with cells:=AI k.cells o (r.2.take (ArY r.1 n*e)) })).bind λ_=>KM.ret (.v (.int .i64 (Int.ofNat (ArY r.1 n)))))
    |false=>KM.fail)
  |false=>KM.fail)
 |_=>KM.fail
def AiW(z:List Value)(e:Nat)(x:AV):KM AV:=match x with
 |.sl b o n e'=>(match Aru e' e with
  |true=>(KM.gen (AM.getB b)).bind λk=>match k.st with
   |true=>KM.test (AqZ (o+n*e) k.cells.length) ((KM.gen (AM.setB b { k with cells:=AI k.cells o (BW (z.map .v) (n*e)) })).bind λ_=>KM.ret (.tup []))
   |false=>KM.fail
  |false=>KM.fail)
 |_=>KM.fail
mutual
def TJ:Nat->AV->KM AV
 |0,x=>KM.gen (frz0 x)
 |n+1,x=>match x with
  |.v z=>KM.ret (AcR z)
  |.sl b o m e=>(KM.gen (AM.getB b)).bind λk=>KM.test (AqZ (o+m*e) k.cells.length) ((match k.st with
    |true=>KM.gen (AM.setB b { k with st:=false })
    |false=>KM.ret ()).bind λ_=>match (k.ex||AU ((k.cells.drop o).take (m*e))) with
     |true=>KM.ret (.ls (Bi m e ((k.cells.drop o).take (m*e))))
     |false=>(Kj n ((k.cells.drop o).take (m*e))).bind λcs=>match AU cs with
      |true=>KM.ret (.ls (Bi m e cs))
      |false=>KM.fail)
  |.agg cs=>(Kj n cs).bind λcs=>KM.ret (.agg cs)
  |.tup cs=>(Kj n cs).bind λcs=>KM.ret (.tup cs)
  |x=>KM.ret x
def Kj:Nat->List AV->KM (List AV)
 |_,[]=>KM.ret []
 |0,_::_=>KM.fail
 |n+1,x::r=>(TJ n x).bind λx=>(Kj n r).bind λr=>KM.ret (x::r)
end
def AbI(b:Nat):KM Unit:=(KM.gen (AM.getB b)).bind λk=>match k.ex,k.st with
 |false,true=>(Kj 1000 k.cells).bind λcs=>(KM.gen (AM.getB b)).bind λk2=>(match k2.ex,Aru cs.length k2.cells.length with
  |false,true=>KM.gen (AM.setB b { k2 with cells:=cs })
  |_,_=>KM.fail)
 |_,_=>KM.ret ()
def Kk:List Nat->List AV->KM (List AV)
 |[],T=>KM.ret T
 |t::r,T=>match T[t]? with
  |some (.ptr b _)=>(AbI b).bind λ_=>Kk r T
  |some x=>(TJ 1000 x).bind λy=>Kk r (T.set t y)
  |none=>Kk r T
def Qp(f:Nat):Nat->List AV->KM (List AV)
 |_,[]=>KM.ret []
 |i,x::r=>match Ac2 own f i with
  |true=>(Qp f (i+1) r).bind λr=>KM.ret (x::r)
  |false=>(TJ 1000 x).bind λx=>(Qp f (i+1) r).bind λr=>KM.ret (x::r)
def RA(key:Key)(e:AV × List BO->KM (AV × List BO))(args:List AV):KM AV:=
 (KM.gen (trav 4096 (ED args) [])).bind λL=>(KM.gen (readAll L)).bind λbs=>
  ((KM.ask D key (Ho (λb=>idx b L) args) (bs.map (ABlk.ren λb=>idx b L))).bind e).bind λr=>
    match NV r.2.length r.1.ids,Ru r.2.length r.2 with
    |true,true=>(KM.gen nextB).bind λn=>(KM.gen (writeAll (Hd L n) L r.2)).bind λout=>(KM.gen (newAll (Hd L n) out)).bind λ_=>KM.ret (r.1.ren (Hd L n))
    |_,_=>KM.fail
def ansF(f:Nat)(r:AV × List BO):KM (AV × List BO):=match Cy f Hn.fn with
 |some (s,l)=>(KM.exp s r.1).bind λx=>(KM.expO l r.2).bind λo=>KM.ret (x,o)
 |none=>KM.ret r
def RB(f:FuncId)(args:List AV):KM AV:=(Qp own f 0 args).bind λl=>RA D (.fn f) (ansF Hn f) l
def AaV:Nat->AV
 |0=>.v (.bool true)
 |i+1=>.v (.int .i64 (Int.ofNat i))
def ansX:List (Nat × (List Sh × List Os))->AV->List AV->List BO->KM (AV × List BO)
 |[],_,_,_=>KM.fail
 |(k,s,l)::r,x,ys,o=>KM.brk (Bm k x) ((KM.expL s ys).bind λys=>(KM.expO l o).bind λo=>KM.ret (.tup (AaV k::ys),o)) (ansX r x ys o)
def ansL(i:Nat)(r:AV × List BO):KM (AV × List BO):=match Cy i Hn.lp with
 |some l=>λH s k=>Lm r.1 λcs=>Ef cs λx ys=>ansX l x ys r.2 H s k
 |none=>KM.ret r
def Ws(f i:Nat)(xs:List AV):KM (AX × List AV):=(RA D (.lp f i) (ansL Hn i) xs).bind λr=>match r with
 |.tup (x::ys)=>(match Vu x with
  |some ax=>KM.ret (ax,ys)
  |none=>KM.fail)
 |_=>KM.fail
def opK(d:Option Nat)(o:MO)(T:List AV):KM AV:=match o with
 |.pick c a b=>(match AW T c with
  |.v (.bool t)=>KM.brk t (KM.ret (AW T a)) (KM.ret (AW T b))
  |_=>KM.fail)
 |.ld row n a=>AcE Hn d row n (AW T a)
 |.st n a x=>W0 n (AW T a) (AW T x)
 |.bin ek b x y=>(match ek with
  |0=>AiP A b (AW T x) (AW T y)
  |ek=>KM.opt (AeL A ek b (AW T x) (AW T y)))
 |.slice e x lo hi=>WW e (AW T x) (lo.map (AW T)) (hi.map (AW T))
 |.iaddr e x i=>Wi Hn d e (AW T x) (AW T i)
 |.aaddr n e x i=>Vr n e (AW T x) (AW T i)
 |.index n e row sz x i=>Wk d n e row sz (AW T x) (AW T i)
 |.mksl z e bytes l c=>AcP z e bytes (AW T l) (AW T c)
 |.app e bytes s x=>AkN e bytes (AW T s) (AW T x)
 |.appz z e bytes s x=>AaQ z e bytes (AW T s) (AW T x)
 |.cpy e d x=>AiY e (AW T d) (AW T x)
 |.clr z e x=>AiW z e (AW T x)
 |.sidx x i=>AdN A (AW T x) (AW T i)
 |.sslice x lo hi=>SL A (AW T x) (lo.map (AW T)) (hi.map (AW T))
 |.callF f args=>RB D own Hn f (P0 T args)
 |.callV ents x args=>(match AW T x with
  |.fn (.func g) a cs=>(match ents.testBit g with
   |true=>RB D own Hn g (a++P0 T args++cs)
   |false=>KM.fail)
  |_=>KM.fail)
 |o=>KM.gen (mop A (λ_ _=>AM.fail) o T)
def Abb(o:MOp)(T:List AV):KM AV:=match o.g with
 |none=>opK A D own Hn o.dst o.op T
 |some (d,want)=>(match T[d]? with
  |some (.v (.bool b))=>KM.brk (match want with
   |true=>b
   |false=>A.not b) (opK A D own Hn o.dst o.op T) (KM.ret AV.undef)
  |some (.v (.tuple _))=>KM.ret AV.undef
  |_=>KM.fail)
def Ajc(v:Value)(k:Value->KR):KR:=match v with
 |.int kd n=>k (.int kd n)
 |.bool b=>k (.bool b)
 |.string s=>k (.string s)
 |.tuple t=>k (.tuple t)
 |v=>k v
theorem Ae2(v:Value)(k:Value->KR):Ajc v k=k v:=by
 unfold Ajc;split<;>rfl
def gL(f:AV->(AV->KR)->KR)(l:List AV)(k:List AV->KR):KR:=match l with
 |[]=>k []
 |x::r=>f x λx=>gL f r λr=>k (x::r)
theorem AhD{f:AV->(AV->KR)->KR}(hf:∀ x k,f x k=k x):∀(l:List AV) (k:List AV->KR),gL f l k=k l
 |[],_=>rfl
 |x::r,k=>by simp only[gL,hf,AhD hf r]
def gAV(d:Nat)(x:AV)(k:AV->KR):KR:=match d with
 |0=>k x
 |d+1=>match x with
  |.v x=>Ajc x λx=>k (.v x)
  |.ptr b o=>k (.ptr b o)
  |.sl b o n e=>k (.sl b o n e)
  |.ls xs=>k (.ls xs)
  |.lp cs=>gL (gAV d) cs λcs=>k (.lp cs)
  |.agg cs=>gL (gAV d) cs λcs=>k (.agg cs)
  |.tup cs=>gL (gAV d) cs λcs=>k (.tup cs)
  |.fn f a c=>gL (gAV d) a λa=>gL (gAV d) c λc=>k (.fn f a c)
  |.any=>k .any
theorem AbJ:∀(d:Nat) (x:AV) (k:AV->KR),gAV d x k=k x
 |0,_,_=>rfl
 |d+1,x,k=>by cases x<;>simp only[gAV,Ae2,AhD (AbJ d)]
def gB(e:Bool)(x:AV)(s:Sc)(k:AV->Sc->KR):KR:=match e,x with
 |true,.v (.bool b)=>brS s b (λs=>k (.v (.bool true)) s) (λs=>k (.v (.bool false)) s)
 |_,x=>k x s
def Aja:MO->Bool
 |.mv _=>false
 |.ld _ _ _=>false
 |.field _ _ _ _=>false
 |.ext _ _=>false
 |_=>true
def gSp{β:Type}(l:List β)(k:List β->KR):KR:=match l with
 |[]=>k []
 |x::r=>gSp r λr=>k (x::r)
theorem Wb{β:Type}:∀(l:List β) (k:List β->KR),gSp l k=k l
 |[],_=>rfl
 |x::r,k=>by simp only[gSp,Wb r]
def gBl(l:List (Nat × ABlk))(k:List (Nat × ABlk)->KR):KR:=match l with
 |[]=>k []
 |(b,⟨cs,st,ex⟩)::r=>gBl r λr=>k ((b,⟨cs,st,ex⟩)::r)
theorem AbK:∀(l:List (Nat × ABlk)) (k:List (Nat × ABlk)->KR),gBl l k=k l
 |[],_=>rfl
 |(b,⟨cs,st,ex⟩)::r,k=>by simp only[gBl,AbK r]
def gH(H:AH)(k:AH->KR):KR:=match H with
 |⟨l,n,t⟩=>gBl l λl=>k ⟨l,n,t⟩
theorem Alo(H:AH)(k:AH->KR):gH H k=k H:=by
 obtain⟨l,n,t⟩:=H;simp only[gH,AbK]
def gFt(f:Foot)(k:Foot->KR):KR:=match f with
 |⟨rd,wr⟩=>gSp rd λrd=>gSp wr λwr=>k ⟨rd,wr⟩
theorem Ajb(f:Foot)(k:Foot->KR):gFt f k=k f:=by
 obtain⟨rd,wr⟩:=f;simp only[gFt,Wb]
def Agw:List MOp->List AV->AH->Sc->(List AV->AH->List Foot->Sc->KR)->KR
 |[],T,H,s,k=>k T H [] s
 |o::r,T,H,s,k=>Abb A D own Hn o T H s λv H f s=>gAV 3 v λv=>gB (Aja o.op) v s λv s=>gSp (Cv T o.dst v) λT=>gFt f λf=>gH H λH=>Agw r T H s λT H fs s=>k T H (f::fs) s
def Aj5(ops:List MOp)(bf:Option (List Nat))(T:List AV):KM (AX × List AV):=λH s k=>Agw A D own Hn ops T H s λT H fs s=>match bf with
 |none=>k (.normal,T) H ⟨fs.flatMap (·.rd),fs.flatMap (·.wr)⟩ s
 |some bf=>(match Eo bf fs with
  |true=>k (.normal,T) H ⟨fs.flatMap (·.rd),fs.flatMap (·.wr)⟩ s
  |false=>none)
def evK(f:Nat):MC->List AV->KM (AX × List AV)
 |.skip,T=>KM.ret (.normal,T)
 |.reg ops bf,T=>Aj5 A D own Hn ops bf T
 |.seq a b,T=>(evK f a T).bind λr=>match r.1 with
  |.normal=>evK f b r.2
  |ax=>KM.ret (ax,r.2)
 |.cond c a b,T=>(match AW T c with
  |.v (.bool t)=>KM.brk t (evK f a T) (evK f b T)
  |_=>KM.fail)
 |.block id c,T=>(evK f c T).bind λr=>match r.1 with
  |.exit i=>if i=id then KM.ret (.normal,r.2) else KM.ret (.exit i,r.2)
  |ax=>KM.ret (ax,r.2)
 |.loop i h,T=>(KM.gen (adoptM h.ad T)).bind λT=>(Kk h.fz T).bind λT=>match Aru T.length h.n with
  |true=>(Ws D Hn f i (Cz h.live T)).bind λr=>KM.ret (r.1,Cd (h.out r.1) h.n r.2)
  |false=>KM.fail
 |.exit id,T=>KM.ret (.exit id,T)
 |.ret,T=>KM.ret (.ret,T)
 |.bad,_=>KM.fail
def Adq(T:List AV):List MRes->KM (List AV)
 |[]=>KM.ret []
 |.tmp t::r=>(Adq T r).bind λl=>KM.ret ((T[t]?).getD AV.undef::l)
 |.cell x row n::r=>(AcE Hn none row n ((T[x]?).getD AV.undef)).bind λv=>(Adq T r).bind λl=>KM.ret (v::l)
def Og(n:Nat)(r:AV)(H:AH)(ft:Foot):KR:=
 match (Ea 0 n).map (WG H ft.wr)++(Ea n (H.next-n)).map (AfY H) with
 |out=>(match FW n out 4096 (r.ids++Wj (Jm out n)) []with
  |none=>none
  |some acc=>some (r.ren (Y9 n acc),Ado (Y9 n acc) (Jm out n)++UE (Y9 n acc) out acc))
def BN(s:Sc)(f:Nat)(mf:MFn)(args:List AV)(bs:List ABlk):KR:=((evK A D own Hn f mf.body (RV mf.nt args)).bind λr=>match r.1 with
 |.exit _=>KM.fail
 |.goto _=>KM.fail
 |_=>(Adq Hn r.2 mf.res).bind λl=>(match mf.own with
  |true=>KM.ret (I5 l)
  |false=>TJ 1000 (I5 l)).bind λv=>match mf.tch with
   |true=>(KM.gen (touchI (ED args))).bind λ_=>KM.ret v
   |false=>KM.ret v) ⟨Dd 0 bs,bs.length,none⟩ s λv H ft _=>Og bs.length v H ft
def AcW(n:Nat):List Nat->List Nat
 |[]=>[]
 |x::r=>match ArK x n,Fw x r with
  |true,false=>x::AcW n r
  |_,_=>AcW n r
def As(n:Nat)(L:List Nat)(H:AH)(wr:List Nat)(r:AV)(o:List BO):KR:=match NV o.length r.ids,Ru o.length o with
 |true,true=>(match (nextB.bind λn=>(writeAll (Hd L n) L o).bind λout=>(newAll (Hd L n) out).bind λ_=>AM.ret (r.ren (Hd L n))) H with
  |some (.tup (x::ys),H',f)=>(match Vu x with
   |some ax=>Og n (.tup (axA ax::ys)) H' ⟨[],wr++f.wr⟩
   |none=>none)
  |_=>none)
 |_,_=>none
def Aj4(f i:Nat)(xs:List AV)(H:AH)(ft:Foot)(n:Nat):KR:=match trav 4096 (ED xs) [] H with
 |some (L,_,f1)=>(match readAll L H with
  |some (bs,_,f2)=>AA D (.lp f i) (Ho (λb=>idx b L) xs) (bs.map (ABlk.ren λb=>idx b L)) λr o=>As n L H (AcW n (ft.wr++(f1.wr++f2.wr))) r o
  |none=>none)
 |none=>none
def CS(s:Sc)(f i:Nat)(h:LpH)(c:MC)(xs:List AV)(bs:List ABlk):KR:=evK A D own Hn f c (Cd h.live h.n xs) ⟨Dd 0 bs,bs.length,none⟩ s λr H ft s=>match r.1 with
 |.normal=>Kk h.fz r.2 H s λT H g _=>Aj4 D f i (Cz h.live T) H ⟨ft.rd++g.rd,ft.wr++g.wr⟩ bs.length
 |.goto _=>none
 |ax=>((Kk (h.fzo ax) r.2).bind λT=>(KM.gen (delT (h.dlo ax) T)).bind λ_=>(KM.gen (touchA (h.nt ax) (Cz (h.out ax) T))).bind λys=>KM.ret (.tup (axA ax::ys))) H s λv H f _=>Og bs.length v H ⟨ft.rd++f.rd,ft.wr++f.wr⟩
end
end
section
open Go.RowKit
def SK{α:Type}(m:AM α)(mK:KM α):Prop:=∀ H s k r,mK H s k=some r->∃ a H' f s',m H=some (a,H',f)/\k a H' f s'=some r
section
variable {α β:Type}
theorem SK.ret(a:α):SK (AM.ret a) (KM.ret a):=λH s k r h=>⟨a,H,⟨[],[]⟩,s,rfl,h⟩
theorem SK.fail(m:AM α):SK m (KM.fail):=λH s k r h=>by cases h
theorem SK.gen(m:AM α):SK m (KM.gen m):=λH s k r h=>by
 unfold KM.gen at h;split at h
 .exact⟨_,_,_,s,‹_›,h⟩
 .cases h
theorem SK.opt:∀ o:Option α,SK (AM.opt o) (KM.opt o)
 |some a=>SK.ret a
 |none=>SK.fail _
theorem SK.bind{m:AM α}{mK:KM α}{f:α->AM β}{fK:α->KM β}(hm:SK m mK)(hf:∀ a,SK (f a) (fK a)):SK (m.bind f) (mK.bind fK):=λH s k r h=>by
 obtain⟨a,H1,f1,s1,h1,h2⟩:=hm H s _ r h;obtain⟨b,H2,f2,s2,h3,h4⟩:=hf a H1 s1 _ r h2;refine⟨b,H2,_,s2,?_,h4⟩;unfold AM.bind;simp only[h1,h3]
theorem J4{b:Bool}{x y:KR}{r:AV × List BO}(h:br b x y=some r):(b=true/\x=some r)\/(b=false/\y=some r):=by
 cases b
 .exact .inr ⟨rfl,h⟩
 .exact .inl ⟨rfl,h⟩
theorem Tp{s:Sc}{c:Bool}{x y:Sc->KR}{r:AV × List BO}(h:brS s c x y=some r):∃ s',(c=true/\x s'=some r)\/(c=false/\y s'=some r):=by
 unfold brS at h;split at h
 .rcases J4 h with⟨e,h⟩|⟨e,h⟩
  .exact⟨_,.inl ⟨e,h⟩⟩
  .exact⟨_,.inr ⟨e,h⟩⟩
 .rcases J4 h with⟨e,h⟩|⟨e,h⟩
  .exact⟨_,.inl ⟨e,h⟩⟩
  .exact⟨_,.inr ⟨e,h⟩⟩
 .rcases J4 h with⟨e,h⟩|⟨e,h⟩
  .exact⟨_,.inl ⟨e,h⟩⟩
  .cases h
 .rcases J4 h with⟨e,h⟩|⟨e,h⟩
  .cases h
  .exact⟨_,.inr ⟨e,h⟩⟩
theorem SK.brk{b:Bool}{m:AM α}{x y:KM α}(hx:b=true->SK m x)(hy:b=false->SK m y):SK m (KM.brk b x y):=λH s k r h=>by
 obtain⟨s',⟨e,h⟩|⟨e,h⟩⟩:=Tp h
 .exact hx e H s' k r h
 .exact hy e H s' k r h
theorem SK.test{b:Bool}{m:AM α}{x:KM α}(hx:b=true->SK m x):SK m (KM.test b x):=λH s k r h=>by
 rcases J4 h with⟨e,h⟩|⟨e,h⟩
 .exact hx e H s k r h
 .cases h
theorem SK.unI{n:Int}{m:AM α}{f:Nat->KM α}(hf:∀ i,n=.ofNat i->SK m (f i)):SK m (KM.unI n f):=λH s k r h=>by
 unfold KM.unI Go.Proofs.YtmbfbclboenajaaGreat.unI at h
 cases n with
 |ofNat i=>exact hf i rfl H s k r h
 |negSucc i=>cases h
theorem SK.idx{x:AV}{m:AM α}{f:Nat->KM α}(hf:∀ i,x.idx=some i->SK m (f i)):SK m (KM.idx x f):=by
 unfold KM.idx;split
 .exact SK.unI λi e=>hf i (by rw[e];rfl)
 .exact SK.fail _
theorem SK.idxO{n:Nat}{x:Option AV}{m:AM α}{f:Nat->KM α}(hf:∀ i,Na n x=some i->SK m (f i)):SK m (KM.idxO n x f):=by
 unfold KM.idxO
 cases x with
 |none=>exact hf n rfl
 |some x=>exact SK.idx λi e=>hf i e
theorem SK.nth{xs:List (List AV)}{i:Nat}{m:AM α}{f:List AV->KM α}(hf:∀ cs,UC xs i=some cs->SK m (f cs)):SK m (KM.nth xs i f):=λH s k r h=>by
 unfold KM.nth Bj at h;split at h
 .exact hf _ ‹_› H s k r h
 .cases h
theorem SK.rd{cells:List AV}{o n:Nat}{f:List AV->AM β}{fK:List AV->KM β}{m:AM β}(hm:o+n<=cells.length->m=f ((cells.drop o).take n))(hf:∀ cs,SK (f cs) (fK cs)):SK m ((KM.rd cells o n).bind fK):=λH s k r h=>by
 unfold KM.bind KM.rd EX at h;split at h
 .rename_i e
  rw[hm (by simpa using e)];exact hf _ H s _ r (by simpa using h)
 .cases h
end
mutual
theorem MG:∀(s:Sh) (x:AV) {K:AV->KR} {r:AV × List BO},Df s x K=some r->K x=some r
 |.int kd,x,K,r,h=>by
  simp only[Df,Jp]at h;split at h
  .split at h
   .rename_i e;rw[←e]at h;exact h
   .cases h
  .cases h
 |.bool,x,K,r,h=>by
  simp only[Df,Mp]at h;split at h
  .exact h
  .cases h
 |.str,x,K,r,h=>by
  simp only[Df,Rd]at h;split at h
  .exact h
  .cases h
 |.ls,x,K,r,h=>by
  simp only[Df,Mr]at h;split at h
  .exact h
  .cases h
 |.lp l,x,K,r,h=>by
  simp only[Df,An5]at h;split at h
  .exact h
  .exact Cg l _ h
  .cases h
 |.agg l,x,K,r,h=>by
  simp only[Df,MZ]at h;split at h
  .exact Cg l _ h
  .cases h
 |.tup l,x,K,r,h=>by
  simp only[Df,Lm]at h;split at h
  .exact Cg l _ h
  .cases h
 |.slo b e,x,K,r,h=>by
  simp only[Df,Rc]at h;split at h
  .split at h
   .rename_i e1 e2
    have e1:b=_:=Arl e1;have e2:e=_:=Arl e2;rw[←e1,←e2];exact h
   .cases h
  .cases h
 |.sl b e,x,K,r,h=>by
  simp only[Df,W9]at h;split at h
  .split at h
   .rename_i e1 e2
    have e1:b=_:=Arl e1;have e2:e=_:=Arl e2;rw[←e1,←e2];exact h
   .cases h
  .cases h
 |.ptr b o,x,K,r,h=>by
  simp only[Df,Ll]at h;split at h
  .split at h
   .rename_i e1 e2
    have e1:b=_:=Arl e1;have e2:o=_:=Arl e2;rw[←e1,←e2];exact h
   .cases h
  .cases h
 |.cst v,x,K,r,h=>by
  simp only[Df,Ve]at h;split at h
  .rename_i u
   split at h
   .rename_i e
    have:v=u:=by
     unfold AhR at e;split at e
     .rfl
     .rfl
     .cases e
    rw[←this];exact h
   .cases h
  .cases h
 |.fnc f,x,K,r,h=>by
  simp only[Df,Aan]at h;split at h
  .split at h
   .rename_i e
    have:=Arl e;subst this;exact h
   .cases h
  .cases h
 |.any,x,K,r,h=>by simpa only[Df]using h
theorem Cg:∀(l:List Sh) (cs:List AV) {K:List AV->KR} {r:AV × List BO},CB l cs K=some r->K cs=some r
 |[],cs,K,r,h=>by
  simp only[CB,Ft]at h;split at h
  .exact h
  .cases h
 |s::l,cs,K,r,h=>by
  have gen:(Ef cs λc r=>Df s c λc=>CB l r λr=>K (c::r))=some r->K cs=some r:=λh=>by
   simp only[Ef]at h;split at h
   .cases h
   .have:=Cg l _ (MG s _ h)
    exact this
  cases s with
  |int kd=>
   simp only[CB,M6]at h;split at h
   .split at h
    .rename_i e
     have:=Cg l _ h;rw[←e]at this;exact this
    .cases h
   .cases h
  |bool=>
   simp only[CB,Qd]at h;split at h
   .have:=Cg l _ h
    exact this
   .cases h
  |str=>
   simp only[CB,YV]at h;split at h
   .have:=Cg l _ h
    exact this
   .cases h
  |ls=>
   simp only[CB,cLs]at h;split at h
   .have:=Cg l _ h
    exact this
   .cases h
  |_=>
   simp only[CB]at h;exact gen h
end
theorem D3:∀(l:List Os) (o:List BO) {K:List BO->KR} {r:AV × List BO},FA l o K=some r->K o=some r
 |[],cs,K,r,h=>by
  simp only[FA,DI]at h;split at h
  .exact h
  .cases h
 |s::l,o,K,r,h=>by
  simp only[FA,EP]at h;split at h
  .cases h
  .cases s with
   |keep=>
    simp only[Mq]at h;split at h
    .have:=D3 l _ h
     exact this
    .cases h
   |del=>
    simp only[Rb]at h;split at h
    .have:=D3 l _ h
     exact this
    .cases h
   |row st=>
    simp only[GB]at h;split at h
    .split at h
     .rename_i e
      obtain⟨rfl,rfl⟩:=e;have:=D3 l _ h;exact this
     .cases h
    .cases h
   |box m=>
    simp only[GB]at h;split at h
    .split at h
     .rename_i e
      obtain⟨rfl,rfl⟩:=e;have:=D3 l _ (Cg m _ h);exact this
     .cases h
    .cases h
theorem SK.exp(t:Sh)(x:AV):SK (AM.ret x) (KM.exp t x):=λH s k r h=>⟨x,H,⟨[],[]⟩,s,rfl,MG t x h⟩
theorem SK.expL(t:List Sh)(x:List AV):SK (AM.ret x) (KM.expL t x):=λH s k r h=>⟨x,H,⟨[],[]⟩,s,rfl,Cg t x h⟩
theorem SK.expO(t:List Os)(x:List BO):SK (AM.ret x) (KM.expO t x):=λH s k r h=>⟨x,H,⟨[],[]⟩,s,rfl,D3 t x h⟩
theorem SK.look{α β:Type}{x:α}{mK:KM α}(hm:SK (AM.ret x) mK){f:α->AM β}{fK:α->KM β}(hf:∀ a,SK (f a) (fK a)):SK (f x) (mK.bind fK):=λH s k r h=>by
 obtain⟨a,H1,f1,s1,h1,h2⟩:=hm H s _ r h;obtain⟨rfl,rfl⟩:=Ap h1;have e:f1=⟨[],[]⟩:=by
  simp only[AM.ret,ψ,Prod.mk.injEq]at h1;exact h1.2.2.symm
 subst e;exact hf _ _ _ _ r (by simpa using h2)
section
variable {A:Ar} {D:Orc} {own:List (Nat × Nat)} {Hn:Hnt}
theorem SK.tm(d:Option Nat)(cs:List AV):SK (AM.ret cs) (tmK Hn d cs):=by
 unfold tmK;split
 .split
  .exact SK.expL _ _
  .exact SK.ret _
 .exact SK.ret _
theorem SK.rdAt(d:Option Nat)(a:AV)(n:Nat):SK (rdAt a n) (Yf Hn d a n):=by
 unfold Yf;split
 .unfold Go.Proofs.YtmbfbclboenajaaGreat.rdAt
  refine SK.bind (SK.gen _) λk=>SK.rd (f:=λcs=>AM.ret cs) (λh=>if_pos h) λcs=>?_
  split
  .exact SK.tm _ _
  .exact SK.ret _
 .exact SK.gen _
theorem SK.load(d:Option Nat)(row:Bool)(n:Nat)(a:AV):SK (loadM row n a) (AcE Hn d row n a):=by
 cases row with
 |true=>exact SK.bind (SK.rdAt _ _ _) λ_=>SK.ret _
 |false=>exact SK.bind (SK.rdAt _ _ _) λ_=>SK.opt _
theorem SK.store(n:Nat)(a x:AV):SK (storeM n a x) (W0 n a x):=by
 unfold storeM W0
 cases a with
 |ptr b o=>
  simp only;split
  .refine SK.bind (SK.gen _) λk=>?_
   by_cases h:k.st=true/\(!k.ex||AU x.cells)=true
   .rw[if_pos h]
    refine SK.test λe=>?_
    rw[if_pos ⟨h.1,by simpa using e,h.2⟩];exact SK.bind (SK.gen _) λ_=>SK.ret _
   .rw[if_neg h]
    exact SK.fail _
  .exact SK.fail _
 |_=>exact SK.fail _
theorem SK.iaddr(d:Option Nat)(e:Nat)(x ix:AV):SK (AM.opt (OG e x ix)) (Wi Hn d e x ix):=by
 unfold Wi;refine SK.idx λi hi=>?_
 unfold OG;simp only[hi]
 cases x with
 |sl b o n e'=>
  simp only;refine SK.test λh=>?_
  rw[h];simp only;split
  .exact SK.ret _
  .exact SK.fail _
 |ls xs=>
  simp only;refine SK.nth λcs h=>?_
  rw[h];simp only;refine SK.look (f:=λ(cs:List AV)=>AM.opt (match Aru cs.length e with
   |true=>some (AV.lp cs)
   |false=>none)) (SK.tm d cs) λcs=>?_
  cases Aru cs.length e with
  |true=>exact SK.ret _
  |false=>exact SK.fail _
 |_=>exact SK.fail _
theorem SK.aaddr(n e:Nat)(x ix:AV):SK (AM.opt (Rq n e x ix)) (Vr n e x ix):=by
 unfold Vr;refine SK.idx λi hi=>?_
 unfold Rq;simp only[hi];refine SK.test λh=>?_
 rw[h];exact SK.opt _
theorem AdZ{cs:List AV}{o:Nat}(h:o+1<=cs.length):WD ((cs.drop o).take 1)=cs[o]?:=by
 have h1:o<cs.length:=h;rw[List.getElem?_eq_getElem h1,List.drop_eq_getElem_cons h1];rfl
theorem SK.index(d:Option Nat)(n e:Nat)(row:Bool)(sz:Nat)(x ix:AV):SK (AM.opt (OI n e row sz x ix)) (Wk d n e row sz x ix):=by
 unfold Wk;refine SK.idx λi hi=>?_
 unfold OI
 cases x with
 |agg cs=>
  simp only[hi];refine SK.test λh=>?_
  rw[h];simp only;unfold UD
  cases row with
  |true=>exact SK.rd (f:=λxs=>AM.ret (.agg xs)) (λ_=>rfl) λ_=>SK.ret _
  |false=>exact SK.rd (f:=λxs=>AM.opt (WD xs)) (λh=>by rw[AdZ h]) λ_=>SK.opt _
 |_=>exact SK.fail _
theorem OH{l h n:Nat}(e:KA l h n=true):AqZ l h=true/\AqZ h n=true:=by
 unfold KA at e;split at e
 .exact⟨‹_›,e⟩
 .cases e
theorem JD{n b:Nat}(e:AZ n b=true):AqZ (n*b) 140737488355328=true/\AqZ n maxLen=true:=by
 unfold AZ at e;split at e
 .exact⟨‹_›,e⟩
 .cases e
theorem SK.slice(e:Nat)(x:AV)(lo hi:Option AV):SK (AM.opt (Px e x lo hi)) (WW e x lo hi):=by
 unfold WW Px
 cases x with
 |sl b o n e'=>
  simp only;refine SK.idxO λl hl=>SK.idxO λh hh=>SK.test λhb=>?_
  rw[hl,hh];obtain⟨h1,h2⟩:=OH hb;simp only[h1,h2]
  cases Aru e' e with
  |true=>exact SK.ret _
  |false=>exact SK.fail _
 |ls xs=>
  simp only;refine SK.idxO λl hl=>SK.idxO λh hh=>SK.test λhb=>SK.test λhw=>?_
  rw[hl,hh];obtain⟨h1,h2⟩:=OH hb;simp only[h1,h2,hw];exact SK.ret _
 |_=>exact SK.fail _
theorem SK.bin(b:BinOp)(x y:AV):SK (AM.opt (J3 A b x y)) (AiP A b x y):=by
 unfold AiP;split
 .rename_i k a k' c
  cases b with
  |shl=>
   simp only;refine SK.brk (λ_=>SK.fail _) λh=>?_
   simp only[J3,h];exact SK.ret _
  |shr=>
   simp only;refine SK.brk (λ_=>SK.fail _) λh=>?_
   simp only[J3,h];exact SK.ret _
  |quo=>
   simp only;split
   .rename_i e
    refine SK.brk (λ_=>SK.fail _) λh=>?_
    simp only[J3,h,if_pos e];exact SK.ret _
   .exact SK.fail _
  |rem=>
   simp only;split
   .rename_i e
    refine SK.brk (λ_=>SK.fail _) λh=>?_
    simp only[J3,h,if_pos e];exact SK.ret _
   .exact SK.fail _
  |neq=>
   simp only;split
   .rename_i e
    refine SK.brk (λh=>?_) λh=>?_<;>(simp only[J3,h,if_pos e];exact SK.ret _)
   .exact SK.fail _
  |_=>exact SK.opt _
 .cases b with
  |neq=>
   simp only;refine SK.brk (λh=>?_) λh=>?_<;>(simp only[J3,h];exact SK.ret _)
  |add=>
   simp only;refine SK.test λh=>?_
   simp only[J3,h];exact SK.ret _
  |_=>exact SK.opt _
 .exact SK.opt _
theorem SK.sidx(x i:AV):SK (AM.opt (U1 A x i)) (AdN A x i):=by
 unfold AdN;split
 .refine SK.idx λj hj=>SK.test λh=>?_
  simp only[U1,hj,h];exact SK.ret _
 .exact SK.fail _
theorem SK.sslice(x:AV)(lo hi:Option AV):SK (AM.opt (La A x lo hi)) (SL A x lo hi):=by
 unfold SL;split
 .refine SK.idxO λl hl=>SK.idxO λh hh=>SK.test λhb=>?_
  obtain⟨h1,h2⟩:=OH hb;simp only[La,hl,hh,h1,h2];exact SK.ret _
 .exact SK.fail _
theorem SK.news(e:Nat)(x:AV):SK (newsM e x) (X5 e x):=by
 unfold X5 newsM
 cases x with
 |sl b o n e'=>
  simp only;split
  .refine SK.bind (SK.gen _) λk=>SK.test λh=>?_
   rw[h]
   cases (k.ex||AU ((k.cells.drop o).take (n*e))) with
   |true=>exact SK.ret _
   |false=>exact SK.fail _
  .exact SK.fail _
 |ls xs=>
  simp only;refine SK.test λh=>?_
  rw[h];exact SK.ret _
 |v z=>
  cases z with
  |slice a n c=>
   cases a with
   |none=>
    cases n with
    |zero=>
     cases c with
     |zero=>exact SK.ret _
     |succ c=>exact SK.fail _
    |succ n=>exact SK.fail _
   |some a=>exact SK.fail _
  |_=>exact SK.fail _
 |_=>exact SK.fail _
theorem SK.appR(e bytes:Nat)(s:AV)(r:Nat × List AV):SK (appR e bytes s r) (Xd e bytes s r):=by
 unfold Xd Go.Proofs.YtmbfbclboenajaaGreat.appR;refine SK.brk (λh=>?_) λh=>SK.test λh2=>?_
 .rw[h]
  simp only;split
  .exact SK.ret _
  .exact SK.fail _
 .rw[h,h2]
  simp only;unfold AhF
  cases s with
  |sl b o n e'=>
   simp only
   cases he:Aru e' e with
   |false=>exact SK.fail _
   |true=>
    simp only;refine SK.test λh3=>?_
    obtain⟨h4,h5⟩:=JD h3;simp only[h4,h5];refine SK.bind (SK.gen _) λk=>?_
    cases k.ex with
    |false=>exact SK.fail _
    |true=>
     cases k.st with
     |true=>
      simp only;refine SK.test λh6=>?_
      cases Aru (o+n*e) k.cells.length with
      |true=>exact SK.bind (SK.gen _) λ_=>SK.bind (SK.gen _) λ_=>SK.ret _
      |false=>
       simp only[h6];exact SK.bind (SK.gen _) λ_=>SK.bind (SK.gen _) λ_=>SK.ret _
     |false=>
      simp only;refine SK.test λh6=>?_
      rw[h6];exact SK.bind (SK.gen _) λ_=>SK.bind (SK.gen _) λ_=>SK.ret _
  |v z=>
   cases z with
   |slice a n c=>
    cases a with
    |none=>
     cases n with
     |zero=>
      cases c with
      |zero=>
       refine SK.test λh3=>?_
       obtain⟨h4,h5⟩:=JD h3;simp only[h4,h5];exact SK.bind (SK.gen _) λ_=>SK.ret _
      |succ c=>exact SK.fail _
     |succ n=>exact SK.fail _
    |some a=>exact SK.fail _
   |_=>exact SK.fail _
  |_=>exact SK.fail _
theorem SK.app(e bytes:Nat)(s x:AV):SK (appM e bytes s x) (AkN e bytes s x):=SK.bind (SK.news e x) λr=>SK.appR e bytes s r
theorem SK.appz(z:List Value)(e bytes:Nat)(s x:AV):SK (appzM z e bytes s x) (AaQ z e bytes s x):=by
 unfold AaQ appzM So;refine SK.idx λm hm=>SK.test λh1=>?_
 rw[hm];dsimp only;rw[h1];exact SK.bind (mK:=KM.ret (m,BW (z.map .v) (m*e))) (SK.ret _) λr=>SK.appR e bytes s r
theorem SK.mksl(z:List Value)(e b:Nat)(l c:AV):SK (mkslM z e b l c) (AcP z e b l c):=by
 unfold AcP mkslM;refine SK.idx λn hn=>SK.idx λm hm=>SK.test λh1=>SK.test λh2=>?_
 obtain⟨h3,h4⟩:=JD h2;simp only[hn,hm,h1,h3,h4];exact SK.bind (SK.gen _) λ_=>SK.ret _
theorem SK.cpy(e:Nat)(d x:AV):SK (cpyM e d x) (AiY e d x):=by
 unfold AiY cpyM
 cases d with
 |sl b o n e'=>
  simp only
  cases Aru e' e with
  |false=>exact SK.fail _
  |true=>
   simp only;refine SK.bind (SK.news e x) λr=>SK.test λh=>?_
   rw[h];simp only;refine SK.bind (SK.gen _) λk=>?_
   cases k.st with
   |false=>exact SK.fail _
   |true=>
    simp only;refine SK.test λh2=>?_
    rw[h2];exact SK.bind (SK.gen _) λ_=>SK.ret _
 |_=>exact SK.fail _
theorem SK.clr(z:List Value)(e:Nat)(x:AV):SK (clrM z e x) (AiW z e x):=by
 unfold AiW clrM
 cases x with
 |sl b o n e'=>
  simp only
  cases Aru e' e with
  |false=>exact SK.fail _
  |true=>
   simp only;refine SK.bind (SK.gen _) λk=>?_
   cases k.st with
   |false=>exact SK.fail _
   |true=>
    simp only;refine SK.test λh2=>?_
    rw[h2];exact SK.bind (SK.gen _) λ_=>SK.ret _
 |_=>exact SK.fail _
mutual
theorem SK.frz:∀(n:Nat) (x:AV),SK (frz n x) (TJ n x)
 |0,x=>by
  unfold TJ Go.Proofs.YtmbfbclboenajaaGreat.frz;exact SK.gen _
 |n+1,x=>by
  unfold TJ Go.Proofs.YtmbfbclboenajaaGreat.frz
  cases x with
  |v z=>exact SK.ret _
  |sl b o m e=>
   simp only;refine SK.bind (SK.gen _) λk=>SK.test λh=>?_
   rw[h];simp only;refine SK.bind ?_ λ_=>?_
   .cases k.st with
    |true=>exact SK.gen _
    |false=>exact SK.ret _
   .cases (k.ex||AU ((k.cells.drop o).take (m*e))) with
    |true=>exact SK.ret _
    |false=>
     simp only;refine SK.bind (SK.frzL n _) λcs=>?_
     cases AU cs with
     |true=>exact SK.ret _
     |false=>exact SK.fail _
  |agg cs=>exact SK.bind (SK.frzL n _) λ_=>SK.ret _
  |tup cs=>exact SK.bind (SK.frzL n _) λ_=>SK.ret _
  |_=>exact SK.ret _
theorem SK.frzL:∀(n:Nat) (l:List AV),SK (frzL n l) (Kj n l)
 |n,[]=>by
  unfold Kj Go.Proofs.YtmbfbclboenajaaGreat.frzL;exact SK.ret _
 |0,_::_=>by
  unfold Kj;exact SK.fail _
 |n+1,x::r=>by
  unfold Kj Go.Proofs.YtmbfbclboenajaaGreat.frzL;exact SK.bind (SK.frz n x) λ_=>SK.bind (SK.frzL n r) λ_=>SK.ret _
end
theorem SK.frzB(b:Nat):SK (frzB b) (AbI b):=by
 unfold AbI Go.Proofs.YtmbfbclboenajaaGreat.frzB;refine SK.bind (SK.gen _) λk=>?_
 cases k.ex<;>cases k.st<;>try exact SK.ret _
 refine SK.bind (SK.frzL _ _) λcs=>SK.bind (SK.gen _) λk2=>?_
 cases k2.ex<;>cases Aru cs.length k2.cells.length<;>first
  |exact SK.gen _
  |exact SK.fail _
theorem SK.frzT:∀(l:List Nat) (T:List AV),SK (frzT l T) (Kk l T)
 |[],T=>SK.ret _
 |t::r,T=>by
  unfold Kk Go.Proofs.YtmbfbclboenajaaGreat.frzT
  cases T[t]? with
  |none=>exact SK.frzT r T
  |some x=>
   cases x with
   |ptr b o=>exact SK.bind (SK.frzB b) λ_=>SK.frzT r T
   |_=>exact SK.bind (SK.frz _ _) λ_=>SK.frzT r _
theorem SK.frzA(f:Nat):∀(i:Nat) (l:List AV),SK (frzA own f i l) (Qp own f i l)
 |i,[]=>by
  unfold Qp Go.Proofs.YtmbfbclboenajaaGreat.frzA;exact SK.ret _
 |i,x::r=>by
  unfold Qp Go.Proofs.YtmbfbclboenajaaGreat.frzA
  cases Ac2 own f i with
  |true=>exact SK.bind (SK.frzA f (i+1) r) λ_=>SK.ret _
  |false=>exact SK.bind (SK.frz 1000 x) λ_=>SK.bind (SK.frzA f (i+1) r) λ_=>SK.ret _
theorem SK.ask(key:Key)(args:List AV)(bs:List ABlk):SK (AM.opt (D.ask key args bs)) (KM.ask D key args bs):=λH s k r h=>by
 unfold KM.ask AA at h;split at h
 .rename_i q e
  rw[e];exact⟨q,H,⟨[],[]⟩,s,rfl,h⟩
 .cases h
theorem SK.callD(key:Key){e:AV × List BO->KM (AV × List BO)}(he:∀ q,SK (AM.ret q) (e q))(args:List AV):SK (callD (D.ask key) args) (RA D key e args):=by
 unfold RA Go.Proofs.YtmbfbclboenajaaGreat.callD;refine SK.bind (SK.gen _) λL=>SK.bind (SK.gen _) λbs=>SK.bind ?_ λr=>?_
 .intro H s k r h
  obtain⟨a,H1,f1,s1,h1,h2⟩:=SK.ask key _ _ H s _ r h;obtain⟨b,H2,f2,s2,h3,h4⟩:=he a H1 s1 _ r h2;obtain⟨rfl,rfl⟩:=Ap h3;refine⟨_,_,_,s2,h1,?_⟩;simp only[AM.ret,ψ,Prod.mk.injEq]at h3;rw[←h3.2.2]at h4;simpa using h4
 .cases NV r.2.length r.1.ids with
  |false=>exact SK.fail _
  |true=>
   cases Ru r.2.length r.2 with
   |false=>exact SK.fail _
   |true=>exact SK.bind (SK.gen _) λ_=>SK.bind (SK.gen _) λ_=>SK.bind (SK.gen _) λ_=>SK.ret _
theorem SK.ansF(f:Nat)(q:AV × List BO):SK (AM.ret q) (ansF Hn f q):=by
 unfold Go.Proofs.YtmbfbclboenajaaGreat.ansF;split
 .exact SK.look (f:=λx=>AM.ret (x,q.2)) (SK.exp _ _) λx=>SK.look (f:=λo=>AM.ret (x,o)) (SK.expO _ _) λ_=>SK.ret _
 .exact SK.ret _
theorem SK.calls(f:FuncId)(args:List AV):SK (callsM D own f args) (RB D own Hn f args):=by
 unfold RB callsM;exact SK.bind (SK.frzA f 0 args) λl=>SK.callD _ (SK.ansF f) l
theorem AeC{k:Nat}{x:AV}(h:Bm k x=true):x=AaV k:=by
 unfold Bm at h;split at h
 .rfl
 .rename_i i j
  have:i=j:=Arl h;rw[this];rfl
 .cases h
theorem SK.ansX:∀(l:List (Nat × (List Sh × List Os))) (x:AV) (ys:List AV) (o:List BO),SK (AM.ret (.tup (x::ys),o)) (ansX l x ys o)
 |[],_,_,_=>SK.fail _
 |(k,s,l)::r,x,ys,o=>by
  unfold Go.Proofs.YtmbfbclboenajaaGreat.ansX;refine SK.brk (λh=>?_) λ_=>SK.ansX r x ys o
  have hx:x=AaV k:=AeC h;rw[←hx];exact SK.look (f:=λys=>AM.ret (γ (x::ys),o)) (SK.expL _ _) λys=>SK.look (f:=λo=>AM.ret (γ (x::ys),o)) (SK.expO _ _) λ_=>SK.ret _
theorem SK.ansL(i:Nat)(q:AV × List BO):SK (AM.ret q) (ansL Hn i q):=by
 unfold Go.Proofs.YtmbfbclboenajaaGreat.ansL;split
 .rename_i l _
  intro H s k r h;obtain⟨v,o⟩:=q
  cases v with
  |tup cs=>
   cases cs with
   |nil=>cases h
   |cons x ys=>exact SK.ansX l x ys o H s k r h
  |_=>cases h
 .exact SK.ret _
theorem SK.loops(f i:Nat)(xs:List AV):SK (loopsM D f i xs) (Ws D Hn f i xs):=by
 unfold Ws loopsM;refine SK.bind (SK.callD _ (SK.ansL i) xs) λr=>?_
 cases r with
 |tup vs=>
  cases vs with
  |nil=>exact SK.fail _
  |cons x ys=>
   simp only
   cases Vu x with
   |some ax=>exact SK.ret _
   |none=>exact SK.fail _
 |_=>exact SK.fail _
theorem SK.op(d:Option Nat)(o:MO)(T:List AV):SK (mop A (callsM D own) o T) (opK A D own Hn d o T):=by
 cases o with
 |pick c a b=>
  simp only[opK,mop]
  cases AW T c with
  |v u=>
   cases u with
   |bool t=>
    simp only;refine SK.brk (λh=>?_) λh=>?_<;>(subst h;exact SK.ret _)
   |_=>exact SK.fail _
  |_=>exact SK.fail _
 |ld row n a=>exact SK.load _ _ _ _
 |st n a x=>exact SK.store _ _ _
 |bin ek b x y=>
  cases ek with
  |zero=>exact SK.bin _ _ _
  |succ n=>exact SK.opt _
 |slice e x lo hi=>exact SK.slice _ _ _ _
 |iaddr e x i=>exact SK.iaddr _ _ _ _
 |aaddr n e x i=>exact SK.aaddr _ _ _ _
 |index n e row sz x i=>exact SK.index d _ _ _ _ _ _
 |mksl z e b l c=>exact SK.mksl _ _ _ _ _
 |app e b s x=>exact SK.app _ _ _ _
 |appz z e b s x=>exact SK.appz _ _ _ _ _
 |cpy e d x=>exact SK.cpy _ _ _
 |clr z e x=>exact SK.clr _ _ _
 |sidx x i=>exact SK.sidx _ _
 |sslice x lo hi=>exact SK.sslice _ _ _
 |callF f args=>exact SK.calls _ _
 |callV ents x args=>
  simp only[opK,mop]
  cases AW T x with
  |fn f a cs=>
   cases f with
   |func g=>
    simp only
    cases ents.testBit g with
    |true=>exact SK.calls _ _
    |false=>exact SK.fail _
   |_=>exact SK.fail _
  |_=>exact SK.fail _
 |_=>exact SK.gen _
theorem SK.core(o:MOp)(T:List AV):SK (coreM A (callsM D own) o T) (Abb A D own Hn o T):=by
 unfold Abb coreM Vk
 cases o.g with
 |none=>exact SK.op _ _ _
 |some g=>
  obtain⟨d,want⟩:=g;simp only
  cases e:T[d]? with
  |none=>exact SK.fail _
  |some x=>
   cases x with
   |v u=>
    cases u with
    |bool b=>
     simp only
     cases want with
     |true=>
      refine SK.brk (λh=>?_) λh=>?_<;>subst h
      .exact SK.op _ _ _
      .exact SK.ret _
     |false=>
      simp only;refine SK.brk (λh=>?_) λh=>?_<;>rw[h]
      .exact SK.op _ _ _
      .exact SK.ret _
    |tuple t=>exact SK.ret _
    |_=>exact SK.fail _
   |_=>exact SK.fail _
theorem Ae1{e:Bool}{x:AV}{s:Sc}{k:AV->Sc->KR}{r:AV × List BO}(h:gB e x s k=some r):∃ s',k x s'=some r:=by
 unfold gB at h;split at h
 .obtain⟨s',⟨e,h2⟩|⟨e,h2⟩⟩:=Tp h<;>(subst e;exact⟨s',h2⟩)
 .exact⟨s,h⟩
theorem SK.run:∀(l:List MOp) (T:List AV) (H:AH) (s:Sc) (k:List AV->AH->List Foot->Sc->KR) (r:AV × List BO),Agw A D own Hn l T H s k=some r->∃ T' H' fs s',runM A (callsM D own) l T H=some (T',H',fs)/\k T' H' fs s'=some r
 |[],T,H,s,k,r,h=>⟨T,H,[],s,rfl,h⟩
 |o::l,T,H,s,k,r,h=>by
  simp only[Agw]at h;obtain⟨v,H1,f,s1,h1,h2⟩:=SK.core o T H s _ r h;simp only[AbJ,Wb,Ajb,Alo]at h2;obtain⟨s2,h2⟩:=Ae1 h2;obtain⟨T',H',fs,s3,h3,h4⟩:=SK.run l _ _ _ _ r h2;refine⟨T',H',f::fs,s3,?_,h4⟩;simp only[runM,h1,h3]
theorem SK.reg(ops:List MOp)(bf:Option (List Nat))(T:List AV):SK (regM A (callsM D own) ops bf T) (Aj5 A D own Hn ops bf T):=λH s k r h=>by
 unfold Aj5 at h;obtain⟨T',H',fs,s',h1,h2⟩:=SK.run ops T H s _ r h;unfold regM;rw[h1]
 cases bf with
 |none=>exact⟨_,_,_,s',rfl,h2⟩
 |some bf=>
  simp only at h2 ⊢;split at h2
  .rename_i e
   rw[e];exact⟨_,_,_,s',rfl,h2⟩
  .cases h2
theorem SK.ev(f:Nat):∀(c:MC) (T:List AV),SK (evC A (callsM D own) (loopsM D f) c T) (evK A D own Hn f c T)
 |.skip,T=>SK.ret _
 |.reg ops bf,T=>SK.reg _ _ _
 |.seq a b,T=>by
  unfold evK evC;refine SK.bind (SK.ev f a T) λr=>?_
  obtain⟨ax,T1⟩:=r
  cases ax with
  |normal=>exact SK.ev f b _
  |_=>exact SK.ret _
 |.cond c a b,T=>by
  unfold evK evC
  cases AW T c with
  |v u=>
   cases u with
   |bool t=>
    simp only;refine SK.brk (λh=>?_) λh=>?_<;>subst h
    .exact SK.ev f a T
    .exact SK.ev f b T
   |_=>exact SK.fail _
  |_=>exact SK.fail _
 |.block id c,T=>by
  unfold evK evC;refine SK.bind (SK.ev f c T) λr=>?_
  obtain⟨ax,T1⟩:=r
  cases ax with
  |exit i=>
   simp only
   by_cases e:i=id
   .rw[if_pos e,if_pos e];exact SK.ret _
   .rw[if_neg e,if_neg e];exact SK.ret _
  |_=>exact SK.ret _
 |.loop i h,T=>by
  unfold evK evC;refine SK.bind (SK.gen _) λT=>SK.bind (SK.frzT _ _) λT=>?_
  cases Aru T.length h.n with
  |true=>exact SK.bind (SK.loops f i _) λ_=>SK.ret _
  |false=>exact SK.fail _
 |.exit id,T=>SK.ret _
 |.ret,T=>SK.ret _
 |.bad,T=>SK.fail _
theorem SK.res(T:List AV):∀ l,SK (resM T l) (Adq Hn T l)
 |[]=>SK.ret _
 |.tmp _::r=>SK.bind (SK.res T r) λ_=>SK.ret _
 |.cell _ _ _::r=>SK.bind (SK.load _ _ _ _) λ_=>SK.bind (SK.res T r) λ_=>SK.ret _
theorem Ai6{m:List AV->AM AV}{mK:KM AV}{args:List AV}{bs:List ABlk}{r:AV × List BO}(hm:SK (m args) mK)(s:Sc)(h:mK ⟨Dd 0 bs,bs.length,none⟩ s (λv H ft _=>Og bs.length v H ft)=some r):PM (EY m) args bs=some r:=by
 obtain⟨v,H',ft,s',h1,h2⟩:=hm _ _ _ _ h;unfold PM EY;rw[h1];exact h2
theorem Ai8{f:Nat}{mf:MFn}{args:List AV}{bs:List ABlk}{r:AV × List BO}(s:Sc)(h:BN A D own Hn s f mf args bs=some r):PM (EY (fnM A D own f mf)) args bs=some r:=by
 unfold BN at h;refine Ai6 ?_ s h;unfold fnM;have fin:∀ T,SK ((resM T mf.res).bind λl=>(match mf.own with
   |true=>AM.ret (I5 l)
   |false=>frz 1000 (I5 l)).bind λv=>match mf.tch with
    |true=>(touchI (ED args)).bind λ_=>AM.ret v
    |false=>AM.ret v) ((Adq Hn T mf.res).bind λl=>(match mf.own with
   |true=>KM.ret (I5 l)
   |false=>TJ 1000 (I5 l)).bind λv=>match mf.tch with
    |true=>(KM.gen (touchI (ED args))).bind λ_=>KM.ret v
    |false=>KM.ret v):=λT=>by
  refine SK.bind (SK.res _ _) λl=>SK.bind ?_ λv=>?_
  .cases mf.own with
   |true=>exact SK.ret _
   |false=>exact SK.frz _ _
  .cases mf.tch with
   |true=>exact SK.bind (SK.gen _) λ_=>SK.ret _
   |false=>exact SK.ret _
 refine SK.bind (SK.ev f _ _) λr=>?_
 obtain⟨ax,T1⟩:=r
 cases ax with
 |exit i=>exact SK.fail _
 |goto l=>exact SK.fail _
 |normal=>exact fin T1
 |ret=>exact fin T1
theorem Nk{α β:Type}{m:AM α}{f:α->AM β}{H H1 H2:AH}{a:α}{b:β}{f1 f2:Foot}(h1:m H=some (a,H1,f1))(h2:f a H1=some (b,H2,f2)):(m.bind f) H=some (b,H2,⟨f1.rd++f2.rd,f1.wr++f2.wr⟩):=by
 unfold AM.bind;simp only[h1,h2]
theorem TP(n b:Nat)(hb:b<n):∀ l,Fw b (AcW n l)=Fw b l
 |[]=>rfl
 |x::r=>by
  have ih:=TP n b hb r;unfold AcW;split
  .unfold Fw
   rw[ih]
  .rename_i h
   rw[ih]
   conv=>rhs;unfold Fw
   cases e:Aru b x with
   |false=>rfl
   |true=>
    have e:b=x:=Arl e;subst e;have h1:ArK b n=true:=by rw[YT];simpa using hb
    cases h2:Fw b r with
    |true=>rfl
    |false=>exact absurd h2 (h h1)
theorem TO(b:Nat)(l m:List Nat):Fw b (l++m)=(Fw b l||Fw b m):=by
 simp only[RX];simp
theorem V7{n:Nat}{r:AV}{H:AH}{f1 f2:Foot}(h:∀ b,b<n->Fw b f1.wr=Fw b f2.wr):Og n r H f1=Og n r H f2:=by
 have:(Ea 0 n).map (WG H f1.wr)=(Ea 0 n).map (WG H f2.wr):=by
  refine List.map_congr_left λb hb=>?_
  obtain⟨i,hi⟩:=List.getElem?_of_mem hb;rw[JF]at hi;split at hi
  .simp only[ψ]at hi
   unfold WG;rw[h b (by omega)]
  .cases hi
 unfold Og;rw[this]
theorem Agf{f i n:Nat}{xs:List AV}{H:AH}{ft:Foot}{r:AV × List BO}(h:Aj4 D f i xs H ft n=some r):∃ q H' f',loopsM D f i xs H=some (q,H',f')/\Og n (.tup (axA q.1::q.2)) H' ⟨ft.rd++f'.rd,ft.wr++f'.wr⟩=some r:=by
 unfold Aj4 at h;split at h
 .rename_i L H1 f1 e1
  split at h
  .rename_i bs H2 f2 e2
   unfold AA at h;split at h
   .rename_i q e3
    obtain⟨v,o⟩:=q;simp only at h;unfold As at h
    cases c1:NV o.length v.ids<;>cases c2:Ru o.length o<;>rw[c1,c2]at h<;>try (cases h;done)
    simp only at h;split at h
    .rename_i x ys H' f' e4
     split at h
     .rename_i ax e5
      have t1:=(NC _ _ _ _ e1).1;have t2:=(JP _ e2).1;rw[t1]at e1;rw[t2]at e2;refine⟨(ax,ys),H',_,Nk (Nk e1 (Nk e2 (Nk (a:=(v,o)) (H1:=H) (f1:=⟨[],[]⟩) (by rw[e3];rfl) (b:=.tup (x::ys)) (H2:=H') (f2:=f') ?_))) (b:=(ax,ys)) (H2:=H') (f2:=⟨[],[]⟩) ?_,?_⟩
      .simp only[c1,c2]
       exact e4
      .simp only[e5]
       rfl
      .rw[←h]
       refine V7 λb hb=>?_
       simp only[TO,TP n b hb,ArB,Aq4,Bool.or_assoc]
     .cases h
    .cases h
   .cases h
  .cases h
 .cases h
theorem Ajv{f i:Nat}{q:LpH}{c:MC}{xs:List AV}{bs:List ABlk}{r:AV × List BO}(s:Sc)(h:CS A D own Hn s f i q c xs bs=some r):PM (EY (lpM A D own f i q c)) xs bs=some r:=by
 have key:∀ v H' ft,lpM A D own f i q c xs ⟨Dd 0 bs,bs.length,none⟩=some (v,H',ft)->Og bs.length v H' ft=some r->PM (EY (lpM A D own f i q c)) xs bs=some r:=λv H' ft h1 h2=>by
  unfold PM EY;rw[h1];exact h2
 unfold CS at h;obtain⟨⟨ax,T1⟩,H1,f1,s1,h1,h2⟩:=SK.ev f c _ _ s _ r h;have out:∀(ax:AX),((Kk (q.fzo ax) T1).bind λT=>(KM.gen (delT (q.dlo ax) T)).bind λ_=>(KM.gen (touchA (q.nt ax) (Cz (q.out ax) T))).bind λys=>KM.ret (.tup (axA ax::ys))) H1 s1 (λv H f _=>Og bs.length v H ⟨f1.rd++f.rd,f1.wr++f.wr⟩)=some r->∃ v H' f,((frzT (q.fzo ax) T1).bind λT=>(delT (q.dlo ax) T).bind λ_=>(touchA (q.nt ax) (Cz (q.out ax) T)).bind λys=>AM.ret (.tup (axA ax::ys))) H1=some (v,H',f)/\Og bs.length v H' ⟨f1.rd++f.rd,f1.wr++f.wr⟩=some r:=λax h=>by
  obtain⟨v,H',f,s2,h3,h4⟩:=(SK.bind (SK.frzT (q.fzo ax) T1) λT=>SK.bind (SK.gen _) λ_=>SK.bind (SK.gen _) λys=>SK.ret (γ (axA ax::ys))) H1 s1 _ r h;exact⟨v,H',f,h3,h4⟩
 cases ax with
 |normal=>
  obtain⟨T2,H2,f2,s2,h5,h6⟩:=SK.frzT q.fz T1 H1 s1 _ r h2;obtain⟨p,H',f',h3,h4⟩:=Agf h6;refine key _ H' _ ?_ h4;unfold lpM;simp only[AM.bind,h1,h5,h3,AM.ret,ArB,List.append_assoc]
 |goto l=>cases h2
 |exit k=>
  obtain⟨v,H',f',h3,h4⟩:=out _ h2;refine key v H' _ ?_ h4;unfold lpM;rw[AM.bind,h1];simp only;rw[h3]
 |ret=>
  obtain⟨v,H',f',h3,h4⟩:=out _ h2;refine key v H' _ ?_ h4;unfold lpM;rw[AM.bind,h1];simp only;rw[h3]
end
section
variable {A:Ar} {M:Seat}
theorem AiK(Hn:Hnt)(s:Sc){f:Nat}{mf:MFn}(he:M.ext f=none)(hf:M.fns f=some mf){args:List AV}{bs:List ABlk}{r:AV × List BO}(h:BN A (AY A M) M.own Hn s f mf args bs=some r):(AY A M).ask (.fn f) args bs=some r:=AgF he hf (Ai8 s h)
theorem AiL(Hn:Hnt)(s:Sc){f i:Nat}{mf:MFn}{q:LpH}{c:MC}(hf:M.fns f=some mf)(hl:mf.loops[i]? = some (q,c)){args:List AV}{bs:List ABlk}{r:AV × List BO}(h:CS A (AY A M) M.own Hn s f i q c args bs=some r):(AY A M).ask (.lp f i) args bs=some r:=AgG hf hl (Ajv s h)
end
end
def iv(n:Int):AV:=.v (.int .i64 n)
def bv(b:Bool):AV:=.v (.bool b)
def sv(s:ByteArray):AV:=.v (.string s)
def M5(l:List UInt8):ByteArray:=⟨l.toArray⟩
def AcX(P:Program)(f:Nat):Bool:=match P.funcs[f]? with
 |some fn=>(match fn.body with
  |some c=>Lq c&&okR P fn.results.toList
  |none=>false)
 |none=>false
def PN(P:Program)(ents:Nat)(hs:I7)(ownR tch:Bool)(f:Nat):MFn:=match P.funcs[f]? with
 |some fn=>(match fn.body with
  |some c=>⟨fn.ntmps,Jb P fn.results.toList,(BB P ents hs c 0).1,(BB P ents hs c 0).2,ownR,tch⟩
  |none=>⟨0,[],.bad,[],false,false⟩)
 |none=>⟨0,[],.bad,[],false,false⟩
theorem Ae0{P:Program}{ents:Nat}{hs:I7}{ownR tch:Bool}{f:Nat}(h:AcX P f=true):FnOk P ents f (PN P ents hs ownR tch f):=by
 unfold AcX at h
 cases e1:P.funcs[f]? with
 |none=>rw[e1]at h;cases h
 |some fn=>
  rw[e1]at h;simp only at h
  cases e2:fn.body with
  |none=>rw[e2]at h;cases h
  |some c=>
   rw[e2]at h;simp only[Aq6]at h;refine⟨fn,c,hs,e1,e2,h.1,h.2,?_⟩;unfold PN;rw[e1];simp only[e2];exact⟨trivial,trivial,trivial,trivial⟩
structure Knows (own:List (Nat × Nat)) (L:List (Nat × MFn)) (D:Orc):Prop where
 fn:∀(Hn:Hnt) (s:Sc) (f:Nat) (mf:MFn) (args:List AV) (bs:List ABlk) (r:AV × List BO),Cy f L=some mf->BN Af D own Hn s f mf args bs=some r->D.ask (.fn f) args bs=some r
 lp:∀(Hn:Hnt) (s:Sc) (f i:Nat) (mf:MFn) (q:LpH) (c:MC) (args:List AV) (bs:List ABlk) (r:AV × List BO),Cy f L=some mf->mf.loops[i]? = some (q,c)->CS Af D own Hn s f i q c args bs=some r->D.ask (.lp f i) args bs=some r
def AJ(mf:MFn)(i:Nat):LpH × MC:=(mf.loops[i]?).getD (⟨0,[],[],[],[]⟩,.bad)
theorem Knows.fn'{own:List (Nat × Nat)}{L:List (Nat × MFn)}{D:Orc}(K:Knows own L D)(Hn:Hnt)(s:Sc){f:Nat}{mf:MFn}{args:List AV}{bs:List ABlk}{r:AV × List BO}(h1:Cy f L=some mf)(h:BN Af D own Hn s f mf args bs=some r):D.ask (.fn f) args bs=some r:=K.fn Hn s f mf args bs r h1 h
theorem AB{own:List (Nat×Nat)}{L:List (Nat×MFn)}{D:Orc}(K:Knows own L D)(Hn:Hnt){s:Sc}{f:Nat}{mf:MFn}{args:List AV}{bs:List ABlk}{r:AV×List BO}{x:KR}(e:BN Af D own Hn s f mf args bs=x)(g:x=some r)(h1:Cy f L=some mf:=by rfl):D.ask (.fn f) args bs=some r:=K.fn' Hn s h1 (e.trans g)
theorem Knows.lp'{own:List (Nat × Nat)}{L:List (Nat × MFn)}{D:Orc}(K:Knows own L D)(Hn:Hnt)(s:Sc){f i:Nat}{mf:MFn}{args:List AV}{bs:List ABlk}{r:AV × List BO}(h1:Cy f L=some mf)(h2:(mf.loops[i]?).isSome=true)(h:CS Af D own Hn s f i (AJ mf i).1 (AJ mf i).2 args bs=some r):D.ask (.lp f i) args bs=some r:=by
 obtain⟨⟨q,c⟩,e⟩:=Option.isSome_iff_exists.1 h2;refine K.lp Hn s f i mf q c args bs r h1 e ?_;unfold AJ at h;rw[e]at h;exact h
theorem Au{own:List (Nat×Nat)}{L:List (Nat×MFn)}{D:Orc}(K:Knows own L D)(Hn:Hnt){s:Sc}{f i:Nat}{mf:MFn}{args:List AV}{bs:List ABlk}{r:AV×List BO}{x:KR}(e:CS Af D own Hn s f i (AJ mf i).1 (AJ mf i).2 args bs=x)(g:x=some r)(h1:Cy f L=some mf:=by rfl)(h2:(mf.loops[i]?).isSome=true:=by kernel_rfl):D.ask (.lp f i) args bs=some r:=K.lp' Hn s h1 h2 (e.trans g)
theorem Gf{α:Type}{f:Nat}{a:α}:∀{L:List (Nat × α)},Cy f L=some a->(f,a)∈L
 |[],h=>by cases h
 |(m,b)::r,h=>by
  unfold Cy at h
  cases e:Aru f m with
  |true=>
   rw[e]at h;simp only[ψ]at h;have:=Arl e;subst this;subst h;exact List.mem_cons_self
  |false=>
   rw[e]at h;exact List.mem_cons_of_mem _ (Gf h)
def FO(own:List (Nat × Nat))(L:List (Nat × MFn))(X:List (Nat × DF)):Seat:=⟨λf=>Cy f L,own,λf=>Cy f X⟩
def Je(L:List (Nat × MFn))(X:List (Nat × DF)):Bool:=L.all λp=>(Cy p.1 X).isNone
theorem Aco{own:List (Nat × Nat)}{L L':List (Nat × MFn)}{X:List (Nat × DF)}(hs:∀ f mf,Cy f L'=some mf->Cy f L=some mf)(hx:Je L' X=true):Knows own L' (AY Af (FO own L X)) where
 fn Hn s f mf args bs r h1 h2:=AiK (M:=FO own L X) Hn s (by
  have:=List.all_eq_true.1 hx _ (Gf h1);exact Option.isNone_iff_eq_none.1 this) (hs f mf h1) h2
 lp Hn s f i mf q c args bs r h1 h2 h3:=AiL (M:=FO own L X) Hn s (hs f mf h1) h2 h3
section
variable {μ:Mu} {F:AS} {w w':World}
theorem GI(F:AS)(h:Below w.heap.size w w'):WStep F w w':=
 ⟨h.os,h.tape,h.output,h.size,λg o ho=>⟨o,by
  have hg:g<w.heap.size:=by
   by_cases hg:g<w.heap.size
   .exact hg
   .rw[Array.getElem?_eq_none (by omega)]at ho;cases ho
  exact(h.block g hg).trans ho,ObjStep.refl _ o⟩⟩
end
inductive Ki
 |b
 |i
 |j (kd:IntKind)
 |s
 |l
 |q (bb ee:Nat)
 |t
 |a
 |p (bb oo:Nat)
 |f (g:Nat)
 |c (u:Value)
 |x
 |B
 |I
 |J (kd:IntKind)
 |S
 |L
 |C
 |N
 |X
 |O
 |E
 |Y
 |T
 |R
 |D
 |K
 |A
 |P (bb oo:Nat)
 |Z
 |w
inductive It
 |v (x:AV)
 |l (x:List AV)
 |o (x:List BO)
 |c (x:BO)
abbrev Ct:List Ki->Type
 |[]=>KR
 |.b::r=>Bool->Ct r
 |.i::r=>Int->Ct r
 |.j _::r=>Int->Ct r
 |.s::r=>ByteArray->Ct r
 |.l::r=>List (List AV)->Ct r
 |.q _ _::r=>Nat->Ct r
 |.t::r=>Ct r
 |.a::r=>Ct r
 |.p _ _::r=>Ct r
 |.f _::r=>Ct r
 |.c _::r=>Ct r
 |.x::r=>AV->Ct r
 |.B::r=>Bool->Ct r
 |.I::r=>Int->Ct r
 |.J _::r=>Int->Ct r
 |.S::r=>ByteArray->Ct r
 |.L::r=>List (List AV)->Ct r
 |.C::r=>Ct r
 |.N::r=>Ct r
 |.X::r=>List AV->Ct r
 |.O::r=>Ct r
 |.E::r=>Ct r
 |.Y::r=>List BO->Ct r
 |.T::r=>Ct r
 |.R::r=>Ct r
 |.D::r=>Ct r
 |.K::r=>Ct r
 |.A::r=>Ct r
 |.P _ _::r=>Ct r
 |.Z::r=>BO->Ct r
 |.w::r=>Unit->Ct r
def itV(s:List It)(k:AV->List It->KR):KR:=match s with
 |.v x::r=>k x r
 |_=>none
def itL(s:List It)(k:List AV->List It->KR):KR:=match s with
 |.l x::r=>k x r
 |_=>none
def itO(s:List It)(k:List BO->List It->KR):KR:=match s with
 |.o x::r=>k x r
 |_=>none
def itC(s:List It)(k:BO->List It->KR):KR:=match s with
 |.c x::r=>k x r
 |_=>none
def dk:(p:List Ki)->List It->Ct p->KR
 |[],_,k=>k
 |.b::r,s,k=>itV s λx s=>Mp x λn=>dk r s (k n)
 |.i::r,s,k=>itV s λx s=>Jp .i64 x λn=>dk r s (k n)
 |.j kd::r,s,k=>itV s λx s=>Jp kd x λn=>dk r s (k n)
 |.s::r,s,k=>itV s λx s=>Rd x λn=>dk r s (k n)
 |.l::r,s,k=>itV s λx s=>Mr x λn=>dk r s (k n)
 |.q bb ee::r,s,k=>itV s λx s=>W9 bb ee x λn=>dk r s (k n)
 |.t::r,s,k=>itV s λx s=>Lm x λy=>dk r (.l y::s) k
 |.a::r,s,k=>itV s λx s=>MZ x λy=>dk r (.l y::s) k
 |.p bb oo::r,s,k=>itV s λx s=>Ll bb oo x<|dk r s k
 |.f g::r,s,k=>itV s λx s=>Aan g x<|dk r s k
 |.c u::r,s,k=>itV s λx s=>Ve u x<|dk r s k
 |.x::r,s,k=>itV s λx s=>dk r s (k x)
 |.B::r,s,k=>itL s λx s=>Qd x λn y=>dk r (.l y::s) (k n)
 |.I::r,s,k=>itL s λx s=>M6 .i64 x λn y=>dk r (.l y::s) (k n)
 |.J kd::r,s,k=>itL s λx s=>M6 kd x λn y=>dk r (.l y::s) (k n)
 |.S::r,s,k=>itL s λx s=>YV x λn y=>dk r (.l y::s) (k n)
 |.L::r,s,k=>itL s λx s=>cLs x λn y=>dk r (.l y::s) (k n)
 |.C::r,s,k=>itL s λx s=>Ef x λz y=>dk r (.v z::.l y::s) k
 |.N::r,s,k=>itL s λx s=>Ft x<|dk r s k
 |.X::r,s,k=>itL s λx s=>dk r s (k x)
 |.O::r,s,k=>itO s λx s=>EP x λz y=>dk r (.c z::.o y::s) k
 |.E::r,s,k=>itO s λx s=>DI x<|dk r s k
 |.Y::r,s,k=>itO s λx s=>dk r s (k x)
 |.T::r,s,k=>itO s λx s=>EP x λc y=>GB true false c λz=>dk r (.l z::.o y::s) k
 |.R::r,s,k=>itO s λx s=>EP x λc y=>GB true true c λz=>dk r (.l z::.o y::s) k
 |.D::r,s,k=>itO s λx s=>EP x λc y=>Rb c<|dk r (.o y::s) k
 |.K::r,s,k=>itO s λx s=>EP x λc y=>Mq c<|dk r (.o y::s) k
 |.A::r,s,k=>itL s λx s=>Ef x λc y=>MZ c λz=>dk r (.l z::.l y::s) k
 |.P bb oo::r,s,k=>itL s λx s=>Ef x λc y=>Ll bb oo c<|dk r (.l y::s) k
 |.Z::r,s,k=>itC s λx s=>dk r s (k x)
 |.w::r,s,k=>dk r s (k ())
abbrev bk(cs:List AV):ABlk:=⟨cs,true,false⟩
abbrev Rw:=List (List AV)
abbrev Ae(D:Orc)(key:Key)(args:List AV)(bs:List ABlk)(p:List Ki)(k:Ct p):KR:=AA D key args bs λr o=>dk p [.v r,.o o] k
theorem DK:(∀(s:List It) (k:Ct []),dk [] s k=k)/\(∀(r:List Ki) (x:AV) (s:List It) (k:Ct (.b::r)),dk (.b::r) (.v x::s) k=Mp x λn=>dk r s (k n))/\(∀(r:List Ki) (x:AV) (s:List It) (k:Ct (.i::r)),dk (.i::r) (.v x::s) k=Jp .i64 x λn=>dk r s (k n))/\(∀(kd:IntKind) (r:List Ki) (x:AV) (s:List It) (k:Ct (.j kd::r)),dk (.j kd::r) (.v x::s) k=Jp kd x λn=>dk r s (k n))/\(∀(r:List Ki) (x:AV) (s:List It) (k:Ct (.s::r)),dk (.s::r) (.v x::s) k=Rd x λn=>dk r s (k n))/\(∀(r:List Ki) (x:AV) (s:List It) (k:Ct (.l::r)),dk (.l::r) (.v x::s) k=Mr x λn=>dk r s (k n))/\(∀(bb ee:Nat) (r:List Ki) (x:AV) (s:List It) (k:Ct (.q bb ee::r)),dk (.q bb ee::r) (.v x::s) k=W9 bb ee x λn=>dk r s (k n))/\(∀(r:List Ki) (x:AV) (s:List It) (k:Ct (.t::r)),dk (.t::r) (.v x::s) k=Lm x λy=>dk r (.l y::s) k)/\(∀(r:List Ki) (x:AV) (s:List It) (k:Ct (.a::r)),dk (.a::r) (.v x::s) k=MZ x λy=>dk r (.l y::s) k)/\(∀(bb oo:Nat) (r:List Ki) (x:AV) (s:List It) (k:Ct (.p bb oo::r)),dk (.p bb oo::r) (.v x::s) k=Ll bb oo x (dk r s k))/\(∀(g:Nat) (r:List Ki) (x:AV) (s:List It) (k:Ct (.f g::r)),dk (.f g::r) (.v x::s) k=Aan g x (dk r s k))/\(∀(u:Value) (r:List Ki) (x:AV) (s:List It) (k:Ct (.c u::r)),dk (.c u::r) (.v x::s) k=Ve u x (dk r s k))/\(∀(r:List Ki) (x:AV) (s:List It) (k:Ct (.x::r)),dk (.x::r) (.v x::s) k=dk r s (k x))/\(∀(r:List Ki) (x:List AV) (s:List It) (k:Ct (.B::r)),dk (.B::r) (.l x::s) k=Qd x λn y=>dk r (.l y::s) (k n))/\(∀(r:List Ki) (x:List AV) (s:List It) (k:Ct (.I::r)),dk (.I::r) (.l x::s) k=M6 .i64 x λn y=>dk r (.l y::s) (k n))/\(∀(kd:IntKind) (r:List Ki) (x:List AV) (s:List It) (k:Ct (.J kd::r)),dk (.J kd::r) (.l x::s) k=M6 kd x λn y=>dk r (.l y::s) (k n))/\(∀(r:List Ki) (x:List AV) (s:List It) (k:Ct (.S::r)),dk (.S::r) (.l x::s) k=YV x λn y=>dk r (.l y::s) (k n))/\(∀(r:List Ki) (x:List AV) (s:List It) (k:Ct (.L::r)),dk (.L::r) (.l x::s) k=cLs x λn y=>dk r (.l y::s) (k n))/\(∀(r:List Ki) (x:List AV) (s:List It) (k:Ct (.C::r)),dk (.C::r) (.l x::s) k=Ef x λz y=>dk r (.v z::.l y::s) k)/\(∀(r:List Ki) (x:List AV) (s:List It) (k:Ct (.N::r)),dk (.N::r) (.l x::s) k=Ft x (dk r s k))/\(∀(r:List Ki) (x:List AV) (s:List It) (k:Ct (.X::r)),dk (.X::r) (.l x::s) k=dk r s (k x))/\(∀(r:List Ki) (x:List BO) (s:List It) (k:Ct (.O::r)),dk (.O::r) (.o x::s) k=EP x λz y=>dk r (.c z::.o y::s) k)/\(∀(r:List Ki) (x:List BO) (s:List It) (k:Ct (.E::r)),dk (.E::r) (.o x::s) k=DI x (dk r s k))/\(∀(r:List Ki) (x:List BO) (s:List It) (k:Ct (.Y::r)),dk (.Y::r) (.o x::s) k=dk r s (k x))/\(∀(r:List Ki) (x:List BO) (s:List It) (k:Ct (.T::r)),dk (.T::r) (.o x::s) k=EP x λc y=>GB true false c λz=>dk r (.l z::.o y::s) k)/\(∀(r:List Ki) (x:List BO) (s:List It) (k:Ct (.R::r)),dk (.R::r) (.o x::s) k=EP x λc y=>GB true true c λz=>dk r (.l z::.o y::s) k)/\(∀(r:List Ki) (x:List BO) (s:List It) (k:Ct (.D::r)),dk (.D::r) (.o x::s) k=EP x λc y=>Rb c<|dk r (.o y::s) k)/\(∀(r:List Ki) (x:List BO) (s:List It) (k:Ct (.K::r)),dk (.K::r) (.o x::s) k=EP x λc y=>Mq c<|dk r (.o y::s) k)/\(∀(r:List Ki) (x:List AV) (s:List It) (k:Ct (.A::r)),dk (.A::r) (.l x::s) k=Ef x λc y=>MZ c λz=>dk r (.l z::.l y::s) k)/\(∀(bb oo:Nat) (r:List Ki) (x:List AV) (s:List It) (k:Ct (.P bb oo::r)),dk (.P bb oo::r) (.l x::s) k=Ef x λc y=>Ll bb oo c<|dk r (.l y::s) k)/\(∀(r:List Ki) (x:BO) (s:List It) (k:Ct (.Z::r)),dk (.Z::r) (.c x::s) k=dk r s (k x))/\(∀(r:List Ki) (s:List It) (k:Ct (.w::r)),dk (.w::r) s k=dk r s (k ())):=by
 and_intros<;>intros<;>rfl
section
variable {D:Orc}
theorem HE(x y:KR):br true x y=x:=Eq.trans (b:=x) rfl (Eq.refl x)
theorem Ac{x y z:KR}(g:x=z):br true x y=z:=(HE x y).trans g
theorem I0(x y:KR):br false x y=y:=Eq.trans (b:=y) rfl (Eq.refl y)
theorem Ba{x y z:KR}(g:y=z):br false x y=z:=(I0 x y).trans g
theorem Av(n:Nat)(k:Nat->KR):unI (n:Int) k=k n:=rfl
theorem AcV{α:Type}(f:α->List AV)(xs:List α)(i:Nat)(k:List AV->KR):Bj (xs.map f) i k=match xs[i]? with
  |some x=>k (f x)
  |none=>none:=by
 unfold Bj;rw[Sr,List.getElem?_map]
 cases xs[i]?<;>rfl
theorem At{α:Type}{f:α->List AV}{xs:List α}{i:Nat}{x:α}(h:xs[i]? = some x)(k:List AV->KR):Bj (xs.map f) i k=k (f x):=by
 rw[AcV,h]
theorem Ak{α:Type}(f:α->List AV)(xs:List α):AL (xs.map f)=xs.length:=by rw[GU,List.length_map]
theorem Cm{key:Key}{args:List AV}{bs:List ABlk}{r:AV}{o:List BO}(h:D.ask key args bs=some (r,o))(k:AV->List BO->KR):AA D key args bs k=k r o:=by
 unfold AA;rw[h]
theorem Aa{D:Orc}{key:Key}{args:List AV}{bs:List ABlk}{r:AV}{o:List BO}{z:KR}{k:AV->List BO->KR}(h:D.ask key args bs=some (r,o))(g:k r o=z):AA D key args bs k=z:=(Cm h k).trans g
theorem C3(n:Int)(k:Int->KR):Jp .i64 (iv n) k=k n:=rfl
theorem Aal(n:Bool)(k:Bool->KR):Mp (bv n) k=k n:=rfl
theorem Aed(n:ByteArray)(k:ByteArray->KR):Rd (sv n) k=k n:=rfl
theorem AgT(n:List (List AV))(k:List (List AV)->KR):Mr (.ls n) k=k n:=rfl
theorem Bh(n:List AV)(k:List AV->KR):MZ (.agg n) k=k n:=rfl
theorem Co(n:List AV)(k:List AV->KR):Lm (.tup n) k=k n:=rfl
theorem Dq(n:Int)(r:List AV)(k:Int->List AV->KR):M6 .i64 (iv n::r) k=k n r:=rfl
theorem Bn(n:Bool)(r:List AV)(k:Bool->List AV->KR):Qd (bv n::r) k=k n r:=rfl
theorem AeJ(n:ByteArray)(r:List AV)(k:ByteArray->List AV->KR):YV (sv n::r) k=k n r:=rfl
theorem BM(n:List (List AV))(r:List AV)(k:List (List AV)->List AV->KR):cLs (.ls n::r) k=k n r:=rfl
theorem A1(k:KR):Ft [] k=k:=rfl
theorem B8(c:AV)(r:List AV)(k:AV->List AV->KR):Ef (c::r) k=k c r:=rfl
theorem AK(k:KR):DI [] k=k:=rfl
theorem PH(c:BO)(r:List BO)(k:BO->List BO->KR):EP (c::r) k=k c r:=rfl
theorem M0(k:KR):Mq .keep k=k:=rfl
theorem Aam(k:KR):Rb .del k=k:=rfl
theorem Aap(st ex:Bool)(cs:List AV)(k:List AV->KR):GB st ex (.set ⟨cs,st,ex⟩) k=k cs:=by
 unfold GB;exact if_pos ⟨rfl,rfl⟩
theorem Ab(f:Nat)(k:KR):Aan f (.fn (.func f) [] []) k=k:=by simp[Aan]
theorem Aao(b o:Nat)(k:KR):Ll b o (.ptr b o) k=k:=by simp[Ll]
theorem Vf(b e o n:Nat)(k:Nat->Nat->KR):Rc b e (.sl b o n e) k=k o n:=by simp[Rc]
theorem AgU(b e n:Nat)(k:Nat->KR):W9 b e (.sl b 0 n e) k=k n:=by simp[W9]
theorem Aor:Bm 0 (bv true)=true:=rfl
theorem Aoq(n:Int):Bm 0 (iv n)=false:=rfl
theorem Aoo:Bm 1 (iv 0)=true:=rfl
theorem Aop:Bm 3 (iv 2)=true:=rfl
theorem ND:(∀(n:Int) (k:Int->KR),Jp .i64 (iv n) k=k n)/\(∀(n:Bool) (k:Bool->KR),Mp (bv n) k=k n)/\(∀(n:ByteArray) (k:ByteArray->KR),Rd (sv n) k=k n)/\(∀(n:List (List AV)) (k:List (List AV)->KR),Mr (.ls n) k=k n)/\(∀(n:List AV) (k:List AV->KR),MZ (.agg n) k=k n)/\(∀(n:List AV) (k:List AV->KR),Lm (.tup n) k=k n)/\(∀(n:Int) (r:List AV) (k:Int->List AV->KR),M6 .i64 (iv n::r) k=k n r)/\(∀(n:Bool) (r:List AV) (k:Bool->List AV->KR),Qd (bv n::r) k=k n r)/\(∀(n:ByteArray) (r:List AV) (k:ByteArray->List AV->KR),YV (sv n::r) k=k n r)/\(∀(n:List (List AV)) (r:List AV) (k:List (List AV)->List AV->KR),cLs (.ls n::r) k=k n r)/\(∀(k:KR),Ft [] k=k)/\(∀(c:AV) (r:List AV) (k:AV->List AV->KR),Ef (c::r) k=k c r)/\(∀(k:KR),DI [] k=k)/\(∀(c:BO) (r:List BO) (k:BO->List BO->KR),EP (c::r) k=k c r)/\(∀(st ex:Bool) (cs:List AV) (k:List AV->KR),GB st ex (.set ⟨cs,st,ex⟩) k=k cs)/\(∀(k:KR),Rb .del k=k)/\(∀(k:KR),Mq .keep k=k)/\(∀(b o:Nat) (k:KR),Ll b o (.ptr b o) k=k)/\(∀(b e n:Nat) (k:Nat->KR),W9 b e (.sl b 0 n e) k=k n)/\(Bm 0 (bv true)=true)/\(∀(n:Int),Bm 0 (iv n)=false)/\(Bm 1 (iv 0)=true)/\(∀(x y:KR),br true x y=x)/\(∀(x y:KR),br false x y=y):=⟨C3,Aal,Aed,AgT,Bh,Co,Dq,Bn,AeJ,BM,A1,B8,AK,PH,Aap,Aam,M0,Aao,AgU,Aor,Aoq,Aoo,HE,I0⟩
end
instance:LawfulBEq ByteArray where
 eq_of_beq {a b} h:=by
  obtain⟨a⟩:=a;obtain⟨b⟩:=b;rw[LA]at h;simpa using h
 rfl {a}:=by
  rw[LA];simp
section
theorem AnL(a b:Int):Af.lt a b=decide (a<b):=rfl
theorem AnK(a b:Int):Af.le a b=decide (a<=b):=rfl
theorem AnJ(a b:Int):Af.eq a b=decide (a=b):=by
 show (a == b)=decide (a=b)
 rfl
theorem Ada(b:Bool):Af.not b = !b:=rfl
theorem QU(a b:Bool):Af.beq a b=(a == b):=rfl
theorem EJ{a b:Int}(h1:-9223372036854775808<=a+b)(h2:a+b<9223372036854775808):Af.add .i64 a b=a+b:=by
 show IntKind.i64.wrap (a+b)=a+b
 rw[IntKind.wrap_i64];omega
theorem Dm{a b:Int}(h1:-9223372036854775808<=a-b)(h2:a-b<9223372036854775808):Af.sub .i64 a b=a-b:=by
 show IntKind.i64.wrap (a-b)=a-b
 rw[IntKind.wrap_i64];omega
theorem BA{i:Nat}(h:i<4611686018427387904):Af.add .i64 (i:Int) 1=((i+1:Nat):Int):=by
 rw[EJ (by omega) (by omega)];rfl
end
section
variable {α:Type}
def Ah(e:α->List AV)(l:List α):List AV:=l.flatMap e
theorem Bb(e:α->List AV)(l:List α)(x:α):Ah e l++e x=Ah e (l++[x]):=by simp[Ah]
theorem AT{e:α->List AV}{w:Nat}(he:∀ x,(e x).length=w):∀ l:List α,(Ah e l).length=l.length*w
 |[]=>by simp[Ah]
 |x::r=>by
  have:=AT he r;unfold Ah at this ⊢;rw[List.flatMap_cons,List.length_append,this,he,AqR,Nat.add_mul,Nat.one_mul,Nat.add_comm]
theorem Be{e:α->List AV}{w:Nat}(he:∀ x,(e x).length=w)(l:List α){n:Nat}(hn:n=l.length*w):(Ah e l).take n=Ah e l:=by
 rw[ArS];rw[AT he,hn];exact π _
theorem CL{e:α->List AV}{w:Nat}(he:∀ x,(e x).length=w):∀ l:List α,Bi l.length w (Ah e l)=l.map e
 |[]=>rfl
 |x::r=>by
  have ih:=CL he r;simp only[AqR,Bi,List.map_cons];have h1:Ah e (x::r)=e x++Ah e r:=by simp[Ah]
  have h2:(e x).length=w:=he x;rw[h1,List.take_append_of_le_length (by omega),ArS (by omega),List.drop_append_of_le_length (by omega),List.drop_of_length_le (by omega),Aq4,ih]
theorem Bp{e:α->List AV}{w:Nat}(he:∀ x,(e x).length=w)(l:List α){n:Nat}(hn:n=l.length):Bi n w ((Ah e l).take (n*w))=l.map e:=by
 rw[Be he l (by rw[hn]),hn,CL he]
theorem AF{e:α->List AV}{w:Nat}(he:∀ x,(e x).length=w)(l:List α){n:Nat}(hn:n=l.length*w):AqZ n (Ah e l).length=true:=by
 rw[AT he,hn];simp
theorem Ii{e:α->List AV}(he:∀ x,Ih (e x)=true):∀ l:List α,Ih (Ah e l)=true
 |[]=>rfl
 |x::r=>by
  have ih:=Ii he r;have h1:Ah e (x::r)=e x++Ah e r:=by simp[Ah]
  rw[h1];rw[FK]at ih ⊢;rw[List.all_append,ih,Bool.and_true,←FK];exact he x
theorem Ff(e:α->List AV)(l:List α):I1 (l.map e)=Ah e l:=by
 rw[J6];rfl
theorem My{e:α->List AV}{w:Nat}(he:∀ x,(e x).length=w)(l:List α):GF w (l.map e)=true:=by
 rw[Iy];simp[he]
theorem AG{n b:Nat}(hn:n<=1099511627776)(hb:b<=128):AZ n b=true:=by
 unfold AZ;have:n*b<=1099511627776*128:=Nat.mul_le_mul hn hb;have h1:AqZ (n*b) 140737488355328=true:=by simp;omega
 rw[h1];simp[maxLen];omega
end
end Go.Proofs.YtmbfbclboenajaaGreat
