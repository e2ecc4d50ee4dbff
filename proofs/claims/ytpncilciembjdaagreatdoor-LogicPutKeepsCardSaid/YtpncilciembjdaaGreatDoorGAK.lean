/- The limit of what can be -/
import Derived.Test.YtpncilciembjdaaGreatDoorGAJ
set_option linter.all false
open Bool renaming and_eq_true->Aqr
open List renaming append_nil->Aro,getElem?_append_left->Aq5,getElem?_append_right->Aq2,getElem?_cons_succ->AqA,getElem?_eq_some_iff->Aqo,length_cons->ε,nil_append->Aq0,take_of_length_le->ArO
open Nat renaming beq->AqO,ble->Aqv,blt->Arx,eq_of_beq_eq_true->AqG,le_refl->ω,lt_of_lt_of_le->Ard,lt_or_ge->AqJ,min->Arl
namespace Go.Proofs.YtpncilciembjdaaGreatDoor
open AV renaming tup->Aqm
open Option.some renaming injEq->Ψ
open Go.RowKit
structure Seat where
 fns:Nat->Option MFn
 own:List (Nat × Nat)
 ext:Nat->Option DF
def Aiz(A:Ar)(M:Seat)(D:Orc):Orc:=.mk λk args bs=>match k with
 |.fn f=>(match M.ext f with
  |some d=>d args bs
  |none=>(match M.fns f with
   |some mf=>Oc (Ef (fnM A D M.own f mf)) args bs
   |none=>none))
 |.lp f i=>(match M.fns f with
  |some mf=>(match mf.loops[i]? with
   |some lc=>Oc (Ef (lpM A D M.own f i lc.1 lc.2)) args bs
   |none=>none)
  |none=>none)
def Dn(A:Ar)(M:Seat):Nat->Orc
 |0=>.no
 |n+1=>Aiz A M (Dn A M n)
open Classical in
noncomputable def AY(A:Ar)(M:Seat):Orc:=.mk λk args bs=>if h:∃ r n,∀ m,n<=m->(Dn A M m).ask k args bs=some r then some h.choose else none
section
variable {A:Ar} {M:Seat}
theorem Pr{k:Key}{args:List AV}{bs:List ABlk}{r:AV × List BO}(h:(AY A M).ask k args bs=some r):∃ n,∀ m,n<=m->(Dn A M m).ask k args bs=some r:=by
 unfold AY Orc.ask at h;simp only at h;split at h
 .rename_i hx
  simp only[Ψ]at h;rw[←h];exact hx.choose_spec
 .cases h
open Classical in
theorem AgG{k:Key}{args:List AV}{bs:List ABlk}{r:AV × List BO}{n:Nat}(h:∀ m,n<=m->(Dn A M m).ask k args bs=some r):(AY A M).ask k args bs=some r:=by
 have hx:∃ r n,∀ m,n<=m->(Dn A M m).ask k args bs=some r:=⟨r,n,h⟩;have:(AY A M).ask k args bs=some hx.choose:=by
  unfold AY
  show (if h:∃ r n,∀ m,n<=m->(Dn A M m).ask k args bs=some r then some h.choose else none)=_
  rw[dif_pos hx]
 rw[this];obtain⟨n',h'⟩:=hx.choose_spec;have e1:=h' (max n n') (Nat.le_max_right _ _);have e2:=h (max n n') (Nat.le_max_left _ _);rw[e1]at e2;exact e2
def Ev{β:Type}(A:Ar)(M:Seat)(g:Orc->Option β):Prop:=∀ r,g (AY A M)=some r->∃ n,∀ m,n<=m->g (Dn A M m)=some r
def EvM{α:Type}(A:Ar)(M:Seat)(g:Orc->AM α):Prop:=∀ H,Ev A M λD=>g D H
theorem EvM.const{α:Type}(x:AM α):EvM A M λ_=>x:=λ_ _ h=>⟨0,λ_ _=>h⟩
theorem EvM.bind{α β:Type}{x:Orc->AM α}{f:Orc->α->AM β}(hx:EvM A M x)(hf:∀ a,EvM A M λD=>f D a):EvM A M λD=>(x D).bind (f D):=λH r h=>by
 simp only[AM.bind]at h ⊢
 cases e1:x (AY A M) H with
 |none=>rw[e1]at h;cases h
 |some q=>
  obtain⟨a,H1,f1⟩:=q;rw[e1]at h;simp only at h
  cases e2:f (AY A M) a H1 with
  |none=>rw[e2]at h;cases h
  |some q2=>
   rw[e2]at h;obtain⟨n1,h1⟩:∃ n,∀ m,n<=m->x (Dn A M m) H=some (a,H1,f1):=hx H _ e1;obtain⟨n2,h2⟩:∃ n,∀ m,n<=m->f (Dn A M m) a H1=some q2:=hf a H1 _ e2;refine⟨max n1 n2,λm hm=>?_⟩;rw[h1 m (by omega)];simp only;rw[h2 m (by omega)];exact h
theorem EvM.opt{α:Type}{g:Orc->Option α}(h:Ev A M g):EvM A M λD=>AM.opt (g D):=λH r e=>by
 have e:AM.opt (g (AY A M)) H=some r:=e
 cases e1:g (AY A M) with
 |none=>rw[e1]at e;cases e
 |some a=>
  obtain⟨n,hn⟩:=h a e1;refine⟨n,λm hm=>?_⟩
  show AM.opt (g (Dn A M m)) H=some r
  rw[hn m hm];rw[e1]at e;exact e
theorem EvM.callD(k:Key)(args:List AV):EvM A M λD=>callD (D.ask k) args:=by
 unfold Go.Proofs.YtpncilciembjdaaGreatDoor.callD;refine EvM.bind (EvM.const _) λL=>EvM.bind (EvM.const _) λbs=>EvM.bind (EvM.opt λr h=>Pr h) λr=>EvM.const _
theorem EvM.callsM(own:List (Nat × Nat))(f:FuncId)(args:List AV):EvM A M λD=>callsM D own f args:=by
 unfold Go.Proofs.YtpncilciembjdaaGreatDoor.callsM;exact EvM.bind (EvM.const _) λl=>EvM.callD _ _
theorem EvM.loopsM(f i:Nat)(T:List AV):EvM A M λD=>loopsM D f i T:=by
 unfold Go.Proofs.YtpncilciembjdaaGreatDoor.loopsM;exact EvM.bind (EvM.callD _ _) λr=>EvM.const _
theorem EvM.mop{B:Ar}{Γ:Orc->FuncId->List AV->AM AV}(hΓ:∀ f args,EvM A M λD=>Γ D f args)(o:MO)(T:List AV):EvM A M λD=>mop B (Γ D) o T:=by
 cases o with
 |callF f args=>exact hΓ _ _
 |callV ents x args=>
  show EvM A M λD=>(match AE T x with
   |.fn (.func g) a cs=>(match ents.testBit g with
    |true=>Γ D g (a++Ot T args++cs)
    |false=>AM.fail)
   |_=>AM.fail)
  split
  .split
   .exact hΓ _ _
   .exact EvM.const _
  .exact EvM.const _
 |_=>exact EvM.const _
theorem EvM.coreM{B:Ar}{Γ:Orc->FuncId->List AV->AM AV}(hΓ:∀ f args,EvM A M λD=>Γ D f args)(o:MOp)(T:List AV):EvM A M λD=>coreM B (Γ D) o T:=by
 unfold Go.Proofs.YtpncilciembjdaaGreatDoor.coreM;split
 .split
  .exact EvM.mop hΓ _ _
  .exact EvM.const _
 .exact EvM.const _
theorem Ev.runM{B:Ar}{Γ:Orc->FuncId->List AV->AM AV}(hΓ:∀ f args,EvM A M λD=>Γ D f args):∀(l:List MOp) (T:List AV) (H:AH),Ev A M λD=>runM B (Γ D) l T H
 |[],T,H=>λr h=>⟨0,λ_ _=>h⟩
 |o::l,T,H=>λr h=>by
  simp only[Go.Proofs.YtpncilciembjdaaGreatDoor.runM]at h ⊢
  cases e1:Go.Proofs.YtpncilciembjdaaGreatDoor.coreM B (Γ (AY A M)) o T H with
  |none=>rw[e1]at h;cases h
  |some q=>
   obtain⟨v,H1,f1⟩:=q;rw[e1]at h;simp only at h
   cases e2:Go.Proofs.YtpncilciembjdaaGreatDoor.runM B (Γ (AY A M)) l (BX T o.dst v) H1 with
   |none=>rw[e2]at h;cases h
   |some q2=>
    rw[e2]at h;obtain⟨n1,h1⟩:∃ n,∀ m,n<=m->Go.Proofs.YtpncilciembjdaaGreatDoor.coreM B (Γ (Dn A M m)) o T H=some (v,H1,f1):=EvM.coreM hΓ o T H _ e1;obtain⟨n2,h2⟩:∃ n,∀ m,n<=m->Go.Proofs.YtpncilciembjdaaGreatDoor.runM B (Γ (Dn A M m)) l (BX T o.dst v) H1=some q2:=Ev.runM hΓ l _ H1 _ e2;refine⟨max n1 n2,λm hm=>?_⟩;rw[h1 m (by omega)];simp only;rw[h2 m (by omega)];exact h
theorem EvM.regM{B:Ar}{Γ:Orc->FuncId->List AV->AM AV}(hΓ:∀ f args,EvM A M λD=>Γ D f args)(ops:List MOp)(bf:Option (List Nat))(T:List AV):EvM A M λD=>regM B (Γ D) ops bf T:=λH r h=>by
 simp only[Go.Proofs.YtpncilciembjdaaGreatDoor.regM]at h ⊢
 cases e1:Go.Proofs.YtpncilciembjdaaGreatDoor.runM B (Γ (AY A M)) ops T H with
 |none=>rw[e1]at h;cases h
 |some q=>
  rw[e1]at h;obtain⟨n1,h1⟩:∃ n,∀ m,n<=m->Go.Proofs.YtpncilciembjdaaGreatDoor.runM B (Γ (Dn A M m)) ops T H=some q:=Ev.runM hΓ ops T H _ e1;exact⟨n1,λm hm=>by rw[h1 m hm];exact h⟩
theorem EvM.evC{B:Ar}{Γ:Orc->FuncId->List AV->AM AV}{Λ:Orc->Nat->List AV->AM (AX × List AV)}(hΓ:∀ f args,EvM A M λD=>Γ D f args)(hΛ:∀ i T,EvM A M λD=>Λ D i T):∀(c:MC) (T:List AV),EvM A M λD=>evC B (Γ D) (Λ D) c T
 |.skip,T=>EvM.const _
 |.reg ops bf,T=>EvM.regM hΓ _ _ _
 |.seq a b,T=>by
  unfold Go.Proofs.YtpncilciembjdaaGreatDoor.evC;refine EvM.bind (EvM.evC hΓ hΛ a T) λr=>?_
  split
  .exact EvM.evC hΓ hΛ b _
  .exact EvM.const _
 |.cond c a b,T=>by
  unfold Go.Proofs.YtpncilciembjdaaGreatDoor.evC;split
  .split
   .exact EvM.evC hΓ hΛ a T
   .exact EvM.evC hΓ hΛ b T
  .exact EvM.const _
 |.block id c,T=>by
  unfold Go.Proofs.YtpncilciembjdaaGreatDoor.evC;exact EvM.bind (EvM.evC hΓ hΛ c T) λr=>EvM.const _
 |.loop i q,T=>by
  unfold Go.Proofs.YtpncilciembjdaaGreatDoor.evC;refine EvM.bind (EvM.const _) λ_=>EvM.bind (EvM.const _) λ_=>?_
  split
  .exact EvM.bind (hΛ _ _) λ_=>EvM.const _
  .exact EvM.const _
 |.exit id,T=>EvM.const _
 |.ret,T=>EvM.const _
 |.bad,_=>EvM.const _
theorem EvM.fnM{B:Ar}(own:List (Nat × Nat))(f:Nat)(mf:MFn)(args:List AV):EvM A M λD=>fnM B D own f mf args:=by
 unfold Go.Proofs.YtpncilciembjdaaGreatDoor.fnM;exact EvM.bind (EvM.evC (Γ:=λD=>Go.Proofs.YtpncilciembjdaaGreatDoor.callsM D own) (Λ:=λD=>Go.Proofs.YtpncilciembjdaaGreatDoor.loopsM D f) (EvM.callsM own) (EvM.loopsM f) _ _) λr=>EvM.const _
theorem EvM.lpM{B:Ar}(own:List (Nat × Nat))(f i:Nat)(q:LpH)(c:MC)(T:List AV):EvM A M λD=>lpM B D own f i q c T:=by
 unfold Go.Proofs.YtpncilciembjdaaGreatDoor.lpM;refine EvM.bind (EvM.evC (Γ:=λD=>Go.Proofs.YtpncilciembjdaaGreatDoor.callsM D own) (Λ:=λD=>Go.Proofs.YtpncilciembjdaaGreatDoor.loopsM D f) (EvM.callsM own) (EvM.loopsM f) _ _) λr=>?_
 split
 .exact EvM.bind (EvM.const _) λ_=>EvM.bind (EvM.loopsM _ _ _) λ_=>EvM.const _
 .exact EvM.const _
 .exact EvM.const _
theorem Ev.gcRun{m:Orc->List AV->AM AV}(h:∀ args,EvM A M λD=>m D args)(args:List AV)(bs:List ABlk):Ev A M λD=>Oc (Ef (m D)) args bs:=λr e=>by
 have key:∀ q,Ef (m (AY A M)) args bs=some q->∃ n,∀ k,n<=k->Ef (m (Dn A M k)) args bs=some q:=λq hq=>by
  unfold Ef at hq ⊢
  cases e1:m (AY A M) args ⟨CK 0 bs,bs.length,none⟩ with
  |none=>rw[e1]at hq;cases hq
  |some x=>
   rw[e1]at hq;obtain⟨n,hn⟩:∃ n,∀ k,n<=k->m (Dn A M k) args ⟨CK 0 bs,bs.length,none⟩=some x:=h args _ _ e1;exact⟨n,λk hk=>by rw[hn k hk];exact hq⟩
 have e:Oc (Ef (m (AY A M))) args bs=some r:=e;unfold Oc at e
 cases e1:Ef (m (AY A M)) args bs with
 |none=>rw[e1]at e;cases e
 |some q=>
  rw[e1]at e;obtain⟨n,hn⟩:=key q e1;refine⟨n,λk hk=>?_⟩
  show Oc (Ef (m (Dn A M k))) args bs=some r
  unfold Oc;rw[hn k hk];exact e
theorem KY{k:Key}{args:List AV}{bs:List ABlk}{r:AV × List BO}(h:∃ n,∀ m,n<=m->(Aiz A M (Dn A M m)).ask k args bs=some r):(AY A M).ask k args bs=some r:=by
 obtain⟨n,hn⟩:=h;refine AgG (n:=n+1) λm hm=>?_
 cases m with
 |zero=>omega
 |succ m=>exact hn m (by omega)
theorem AgE{f:Nat}{mf:MFn}(he:M.ext f=none)(hf:M.fns f=some mf){args:List AV}{bs:List ABlk}{r:AV × List BO}(h:Oc (Ef (fnM A (AY A M) M.own f mf)) args bs=some r):(AY A M).ask (.fn f) args bs=some r:=by
 obtain⟨n,hn⟩:=Ev.gcRun (m:=λD=>fnM A D M.own f mf) (λargs=>EvM.fnM M.own f mf args) args bs r h;refine KY ⟨n,λm hm=>?_⟩
 show (match M.ext f with
  |some d=>d args bs
  |none=>(match M.fns f with
   |some mf=>Oc (Ef (fnM A (Dn A M m) M.own f mf)) args bs
   |none=>none))=_
 rw[he,hf];exact hn m hm
theorem AgF{f i:Nat}{mf:MFn}{live:LpH}{c:MC}(hf:M.fns f=some mf)(hl:mf.loops[i]? = some (live,c)){args:List AV}{bs:List ABlk}{r:AV × List BO}(h:Oc (Ef (lpM A (AY A M) M.own f i live c)) args bs=some r):(AY A M).ask (.lp f i) args bs=some r:=by
 obtain⟨n,hn⟩:=Ev.gcRun (m:=λD=>lpM A D M.own f i live c) (λargs=>EvM.lpM M.own f i live c args) args bs r h;refine KY ⟨n,λm hm=>?_⟩
 show (match M.fns f with
  |some mf=>(match mf.loops[i]? with
   |some lc=>Oc (Ef (lpM A (Dn A M m) M.own f i lc.1 lc.2)) args bs
   |none=>none)
  |none=>none)=_
 rw[hf];simp only[hl];exact hn m hm
theorem AZ{f:Nat}{d:DF}(he:M.ext f=some d){args:List AV}{bs:List ABlk}{r:AV × List BO}(h:d args bs=some r):(AY A M).ask (.fn f) args bs=some r:=
 KY ⟨0,λm _=>by
  show (match M.ext f with
   |some d=>d args bs
   |none=>(match M.fns f with
    |some mf=>Oc (Ef (fnM A (Dn A M m) M.own f mf)) args bs
    |none=>none))=_
  rw[he];exact h⟩
end
structure SeatOk (P:Program) (ents:Nat) (M:Seat):Prop where
 mixed:P.follows .mixedOrders=true
 ent:Iq P ents
 fns:∀ f mf,M.fns f=some mf->FnOk P ents f mf
 ext:∀ f d,M.ext f=some d->AN (AT P f) d
theorem CZ(P:Program)(ents:Nat)(hs:Jf):∀(c:Code) (n:Nat) (j:Nat) (c':Code),(Br c)[j]? = some c'->∃ live,(∀ q,hs[n+j]? = some q->live=q)/\(Bi P ents hs c n).2[j]? = some (live,(Bi P ents hs c' (n+j+1)).1)/\(J6 c=true->J6 c'=true)/\∀ i c2,(Br c')[i]? = some c2->(Br c)[j+1+i]? = some c2
 |.skip,n,j,c',h=>by simp[Br]at h
 |.region ..,n,j,c',h=>by simp[Br]at h
 |.seq a b,n,j,c',h=>by
  have h:(Br a++Br b)[j]? = some c':=h;have hn:(Bi P ents hs (.seq a b) n).2=(Bi P ents hs a n).2++(Bi P ents hs b (n+(Bi P ents hs a n).2.length)).2:=rfl;rw[hn];rcases AqJ j (Br a).length with hj|hj
  .rw[Aq5 hj]at h
   obtain⟨live,h0,h1,h2,h3⟩:=CZ P ents hs a n j c' h;refine⟨live,h0,by rw[Aq5 (by rw[BV];exact hj)];exact h1,λhok=>h2 (by simp only[J6,Aqr]at hok;exact hok.1),λi c2 hi=>?_⟩;have:=h3 i c2 hi
   show (Br a++Br b)[j+1+i]? = some c2
   rw[Aq5 (Aqo.1 this).1];exact this
  .rw[Aq2 hj]at h
   obtain⟨live,h0,h1,h2,h3⟩:=CZ P ents hs b (n+(Bi P ents hs a n).2.length) (j-(Br a).length) c' h;have hl:=BV P ents hs a n;rw[hl]at h0;refine⟨live,λq hq=>h0 q (by rw[show n+(Br a).length+(j-(Br a).length)=n+j by omega];exact hq),?_,λhok=>h2 (by simp only[J6,Aqr]at hok;exact hok.2),λi c2 hi=>?_⟩
   .rw[Aq2 (by omega),hl]
    rw[hl]at h1;rw[show n+j+1=n+(Br a).length+(j-(Br a).length)+1 by omega];exact h1
   .have:=h3 i c2 hi
    show (Br a++Br b)[j+1+i]? = some c2
    rw[Aq2 (by omega),show j+1+i-(Br a).length=j-(Br a).length+1+i by omega];exact this
 |.cond q a b,n,j,c',h=>by
  have h:(Br a++Br b)[j]? = some c':=h;have hn:(Bi P ents hs (.cond q a b) n).2=(Bi P ents hs a n).2++(Bi P ents hs b (n+(Bi P ents hs a n).2.length)).2:=rfl;rw[hn];rcases AqJ j (Br a).length with hj|hj
  .rw[Aq5 hj]at h
   obtain⟨live,h0,h1,h2,h3⟩:=CZ P ents hs a n j c' h;refine⟨live,h0,by rw[Aq5 (by rw[BV];exact hj)];exact h1,λhok=>h2 (by simp only[J6,Aqr]at hok;exact hok.1),λi c2 hi=>?_⟩;have:=h3 i c2 hi
   show (Br a++Br b)[j+1+i]? = some c2
   rw[Aq5 (Aqo.1 this).1];exact this
  .rw[Aq2 hj]at h
   obtain⟨live,h0,h1,h2,h3⟩:=CZ P ents hs b (n+(Bi P ents hs a n).2.length) (j-(Br a).length) c' h;have hl:=BV P ents hs a n;rw[hl]at h0;refine⟨live,λq hq=>h0 q (by rw[show n+(Br a).length+(j-(Br a).length)=n+j by omega];exact hq),?_,λhok=>h2 (by simp only[J6,Aqr]at hok;exact hok.2),λi c2 hi=>?_⟩
   .rw[Aq2 (by omega),hl]
    rw[hl]at h1;rw[show n+j+1=n+(Br a).length+(j-(Br a).length)+1 by omega];exact h1
   .have:=h3 i c2 hi
    show (Br a++Br b)[j+1+i]? = some c2
    rw[Aq2 (by omega),show j+1+i-(Br a).length=j-(Br a).length+1+i by omega];exact this
 |.block id a,n,j,c',h=>CZ P ents hs a n j c' h
 |.loop a,n,j,c',h=>by
  have h:(a::Br a)[j]? = some c':=h;have hn:∃ live,(∀ q,hs[n]? = some q->live=q)/\(Bi P ents hs (.loop a) n).2=(live,(Bi P ents hs a (n+1)).1)::(Bi P ents hs a (n+1)).2:=by
   have:Bi P ents hs (.loop a) n=(match Bi P ents hs a (n+1),hs[n]? with
    |(mc,lc),some h=>(.loop n h,(h,mc)::lc)
    |(mc,lc),none=>(.bad,(⟨0,[],[],[],[]⟩,mc)::lc)):=by rw[Bi];rfl
   rw[this]
   cases hs[n]? with
   |none=>exact⟨_,λq h=>(by cases h),rfl⟩
   |some q=>exact⟨_,λq' h=>Option.some.inj h,rfl⟩
  obtain⟨live,hq0,hn⟩:=hn;rw[hn]
  cases j with
  |zero=>
   simp only[List.getElem?_cons_zero,Ψ]at h;subst h;exact⟨live,hq0,rfl,λhok=>hok,λi c2 hi=>by
    show (a::Br a)[0+1+i]? = some c2
    rw[show 0+1+i=i+1 by omega];exact hi⟩
  |succ j=>
   simp only[AqA]at h;obtain⟨live',h0,h1,h2,h3⟩:=CZ P ents hs a (n+1) j c' h;refine⟨live',λq hq=>h0 q (by rw[show n+1+j=n+(j+1) by omega];exact hq),?_,h2,λi c2 hi=>?_⟩
   .simp only[AqA]
    rw[show n+(j+1)+1=n+1+j+1 by omega];exact h1
   .show (a::Br a)[j+1+1+i]? = some c2
    rw[show j+1+1+i=(j+1+i)+1 by omega];exact h3 i c2 hi
 |.exit _,n,j,c',h=>by simp[Br]at h
 |.ret,n,j,c',h=>by simp[Br]at h
 |.rangeFunc ..,n,j,c',h=>by simp[Br]at h
 |.scope _,n,j,c',h=>by simp[Br]at h
 |.label _,n,j,c',h=>by simp[Br]at h
 |.goto _,n,j,c',h=>by simp[Br]at h
 |.refuse _,n,j,c',h=>by simp[Br]at h
theorem IX{S:J7}:AN S λ_ _=>none:=λ_ _ _ _ h=>by cases h
theorem FZ{P:Program}{ents:Nat}{M:Seat}(hM:SeatOk P ents M):∀ n,(∀ f,AN (AT P f) ((Dn Ah M n).ask (.fn f)))/\∀ f mf fn c,M.fns f=some mf->P.funcs[f]? = some fn->fn.body=some c->∀ i c' q mc,(Br c)[i]? = some c'->mf.loops[i]? = some (q,mc)->AN (Ow P q c') ((Dn Ah M n).ask (.lp f i))
 |0=>⟨λ_=>IX,λ_ _ _ _ _ _ _ _ _ _ _ _ _=>IX⟩
 |n+1=>by
  obtain⟨ih1,ih2⟩:=FZ hM n;have hΓ:=P1 (P:=P) M.own ih1;refine⟨λf=>?_,λf mf fn c h0 h1 h2 i c' q mc hi hq=>?_⟩
  .have hd:(Dn Ah M (n+1)).ask (.fn f)=λargs bs=>(match M.ext f with
     |some d=>d args bs
     |none=>(match M.fns f with
      |some mf=>Oc (Ef (fnM Ah (Dn Ah M n) M.own f mf)) args bs
      |none=>none)):=rfl
   rw[hd]
   cases e:M.ext f with
   |some d=>exact hM.ext f d e
   |none=>
    cases e2:M.fns f with
    |none=>exact IX
    |some mf=>
     obtain⟨fn,c,hs,k1,k2,k3,k4,k5,k6,k7,k8⟩:=(hM.fns f mf e2).ok;refine RN (B8 P f) (Pn (WA M.own hM.mixed hM.ent k1 k2 k3 k4 k5 k6 k7 hΓ λj c' q hj hq=>JF ?_) λargs=>Loc.fnM _ _ _ _ _ _);obtain⟨live,q0,q1,_,_⟩:=CZ P ents hs c 0 j c' hj;rw[Nat.zero_add]at q0;rw[q0 q hq]at q1;exact ih2 f mf fn c e2 k1 k2 j c' q _ hj (by rw[k8];exact q1)
  .have hd:(Dn Ah M (n+1)).ask (.lp f i)=λargs bs=>(match M.fns f with
     |some mf=>(match mf.loops[i]? with
      |some lc=>Oc (Ef (lpM Ah (Dn Ah M n) M.own f i lc.1 lc.2)) args bs
      |none=>none)
     |none=>none):=rfl
   rw[hd,h0];simp only[hq];obtain⟨fn',c0,hs,k1,k2,k3,k4,k5,k6,k7,k8⟩:=(hM.fns f mf h0).ok;rw[h1]at k1
   cases k1
   rw[h2]at k2
   cases k2
   obtain⟨live,q0,q1,q2,q3⟩:=CZ P ents hs c 0 i c' hi;rw[k8,q1]at hq;simp only[Ψ,Prod.mk.injEq]at hq;obtain⟨rfl,rfl⟩:=hq;refine RN (NT P live c') (Pn (WY M.own hM.mixed hM.ent (q2 k3) hΓ (λj c2 q hj hq=>?_) (ih2 f mf fn c h0 h1 h2 i c' live _ hi (by rw[k8];exact q1))) λargs=>Loc.lpM _ _ _ _ _ _ _ _);rw[show 0+i+1+j=i+1+j by omega];obtain⟨live2,p0,p1,_,_⟩:=CZ P ents hs c 0 (i+1+j) c2 (q3 j c2 hj);rw[show 0+(i+1+j)=0+i+1+j by omega]at p0;rw[p0 q hq]at p1;exact JF (ih2 f mf fn c h0 h1 h2 (i+1+j) c2 q _ (q3 j c2 hj) (by rw[k8];exact p1))
theorem Em{P:Program}{ents:Nat}{M:Seat}(hM:SeatOk P ents M)(f:FuncId):AN (AT P f) ((AY Ah M).ask (.fn f)):=by
 intro args bs r out h;obtain⟨n,hn⟩:=Pr h;exact(FZ hM n).1 f args bs r out (hn n (ω _))
section
open Go.RowKit
abbrev KR:=Option (AV × List BO)
inductive Sh where
 |int (k:IntKind)
 |bool
 |str
 |ls
 |lp (l:List Sh)
 |agg (l:List Sh)
 |tup (l:List Sh)
 |sl (b e:Nat)
 |slo (b e:Nat)
 |ptr (b o:Nat)
 |cst (v:Value)
 |fnc (f:Nat)
 |any
inductive Os where
 |keep
 |del
 |row (st:Bool)
 |box (l:List Sh)
def br(b:Bool)(x y:KR):KR:=match b with
 |true=>x
 |false=>y
def unI(n:Int)(k:Nat->KR):KR:=match n with
 |.ofNat i=>k i
 |.negSucc _=>none
def Bh(xs:List (List AV))(i:Nat)(k:List AV->KR):KR:=match SB xs i with
 |some cs=>k cs
 |none=>none
def Io(cells:List AV)(o n:Nat)(k:List AV->KR):KR:=match Aqv (o+n) cells.length with
 |true=>k ((cells.drop o).take n)
 |false=>none
def AG(D:Orc)(key:Key)(args:List AV)(bs:List ABlk)(k:AV->List BO->KR):KR:=match D.ask key args bs with
 |some r=>k r.1 r.2
 |none=>none
def IF(kd:IntKind)(x:AV)(k:Int->KR):KR:=match x with
 |.v (.int k' n)=>if k'=kd then k n else none
 |_=>none
def K7(x:AV)(k:Bool->KR):KR:=match x with
 |.v (.bool b)=>k b
 |_=>none
def PG(x:AV)(k:ByteArray->KR):KR:=match x with
 |.v (.string s)=>k s
 |_=>none
def K9(x:AV)(k:List (List AV)->KR):KR:=match x with
 |.ls xs=>k xs
 |_=>none
def Ana(x:AV)(k0:KR)(k:List AV->KR):KR:=match x with
 |.v (.pointer none)=>k0
 |.lp cs=>k cs
 |_=>none
def LR(x:AV)(k:List AV->KR):KR:=match x with
 |.agg cs=>k cs
 |_=>none
def J5(x:AV)(k:List AV->KR):KR:=match x with
 |.tup cs=>k cs
 |_=>none
def UW(b e:Nat)(x:AV)(k:Nat->KR):KR:=match x with
 |.sl b' 0 n e'=>(match AqO b b',AqO e e' with
  |true,true=>k n
  |_,_=>none)
 |_=>none
def AiE(b e:Nat)(x:AV)(k:Nat->Nat->KR):KR:=match x with
 |.sl b' o n e'=>(match AqO b b',AqO e e' with
  |true,true=>k o n
  |_,_=>none)
 |_=>none
def J4(b o:Nat)(x:AV)(k:KR):KR:=match x with
 |.ptr b' o'=>(match AqO b b',AqO o o' with
  |true,true=>k
  |_,_=>none)
 |_=>none
def XU(f:Nat)(x:AV)(k:KR):KR:=match x with
 |.fn (.func g) [] []=>(match AqO f g with
  |true=>k
  |false=>none)
 |_=>none
def AhV:Value->Value->Bool
 |.slice none 0 0,.slice none 0 0=>true
 |.pointer none,.pointer none=>true
 |_,_=>false
def S9(v:Value)(x:AV)(k:KR):KR:=match x with
 |.v u=>(match AhV v u with
  |true=>k
  |false=>none)
 |_=>none
def Ea(cs:List AV)(k:KR):KR:=match cs with
 |[]=>k
 |_::_=>none
def D8(cs:List AV)(k:AV->List AV->KR):KR:=match cs with
 |[]=>none
 |c::r=>k c r
def MG(kd:IntKind)(cs:List AV)(k:Int->List AV->KR):KR:=match cs with
 |.v (.int k' n)::r=>if k'=kd then k n r else none
 |_=>none
def OH(cs:List AV)(k:Bool->List AV->KR):KR:=match cs with
 |.v (.bool b)::r=>k b r
 |_=>none
def Wh(cs:List AV)(k:ByteArray->List AV->KR):KR:=match cs with
 |.v (.string s)::r=>k s r
 |_=>none
def cLs(cs:List AV)(k:List (List AV)->List AV->KR):KR:=match cs with
 |.ls xs::r=>k xs r
 |_=>none
def Eb(o:List BO)(k:BO->List BO->KR):KR:=match o with
 |[]=>none
 |c::r=>k c r
def CD(o:List BO)(k:KR):KR:=match o with
 |[]=>k
 |_::_=>none
def K8(o:BO)(k:KR):KR:=match o with
 |.keep=>k
 |_=>none
def PF(o:BO)(k:KR):KR:=match o with
 |.del=>k
 |_=>none
def FN(st ex:Bool)(o:BO)(k:List AV->KR):KR:=match o with
 |.set ⟨cs,st',ex'⟩=>if st'=st/\ex'=ex then k cs else none
 |_=>none
def Bf(k:Nat)(x:AV):Bool:=match k,x with
 |0,.v (.bool true)=>true
 |i+1,.v (.int .i64 (.ofNat j))=>AqO i j
 |_,_=>false
mutual
def CO:Sh->AV->(AV->KR)->KR
 |.int kd,x,K=>IF kd x λn=>K (.v (.int kd n))
 |.bool,x,K=>K7 x λb=>K (.v (.bool b))
 |.str,x,K=>PG x λs=>K (.v (.string s))
 |.ls,x,K=>K9 x λxs=>K (.ls xs)
 |.lp l,x,K=>Ana x (K (.v (.pointer none))) λcs=>Ca l cs λcs=>K (.lp cs)
 |.agg l,x,K=>LR x λcs=>Ca l cs λcs=>K (.agg cs)
 |.tup l,x,K=>J5 x λcs=>Ca l cs λcs=>K (.tup cs)
 |.sl b e,x,K=>UW b e x λn=>K (.sl b 0 n e)
 |.slo b e,x,K=>AiE b e x λo n=>K (.sl b o n e)
 |.ptr b o,x,K=>J4 b o x (K (.ptr b o))
 |.cst v,x,K=>S9 v x (K (.v v))
 |.fnc f,x,K=>XU f x (K (.fn (.func f) [] []))
 |.any,x,K=>K x
def Ca:List Sh->List AV->(List AV->KR)->KR
 |[],cs,K=>Ea cs (K [])
 |.int kd::l,cs,K=>MG kd cs λn r=>Ca l r λr=>K (.v (.int kd n)::r)
 |.bool::l,cs,K=>OH cs λn r=>Ca l r λr=>K (.v (.bool n)::r)
 |.str::l,cs,K=>Wh cs λn r=>Ca l r λr=>K (.v (.string n)::r)
 |.ls::l,cs,K=>cLs cs λn r=>Ca l r λr=>K (.ls n::r)
 |s::l,cs,K=>D8 cs λc r=>CO s c λc=>Ca l r λr=>K (c::r)
end
def EN:List Os->List BO->(List BO->KR)->KR
 |[],o,K=>CD o (K [])
 |s::l,o,K=>Eb o λc r=>(match s with
  |.keep=>K8 c (EN l r λr=>K (.keep::r))
  |.del=>PF c (EN l r λr=>K (.del::r))
  |.row st=>FN st true c λcs=>EN l r λr=>K (.set ⟨cs,st,true⟩::r)
  |.box m=>FN true false c λcs=>Ca m cs λcs=>EN l r λr=>K (.set ⟨cs,true,false⟩::r))
inductive Sc where
 |n
 |b (x y:Sc)
 |t (x:Sc)
 |f (x:Sc)
def brS(s:Sc)(c:Bool)(x y:Sc->KR):KR:=match s with
 |.n=>br c (x .n) (y .n)
 |.b p q=>br c (x p) (y q)
 |.t p=>br c (x p) none
 |.f p=>br c none (y p)
def KM(α:Type):=AH->Sc->(α->AH->Foot->Sc->KR)->KR
namespace KM
variable {α β:Type}
def ret(a:α):KM α:=λH s k=>k a H ⟨[],[]⟩ s
def fail:KM α:=λ_ _ _=>none
def bind(m:KM α)(f:α->KM β):KM β:=λH s k=>m H s λa H1 f1 s=>f a H1 s λb H2 f2 s=>k b H2 ⟨f1.rd++f2.rd,f1.wr++f2.wr⟩ s
def gen(m:AM α):KM α:=λH s k=>match m H with
 |some (a,H',f)=>k a H' f s
 |none=>none
def opt:Option α->KM α
 |some a=>ret a
 |none=>fail
def brk(b:Bool)(x y:KM α):KM α:=λH s k=>brS s b (λs=>x H s k) (λs=>y H s k)
def test(b:Bool)(x:KM α):KM α:=λH s k=>br b (x H s k) none
def unI(n:Int)(f:Nat->KM α):KM α:=λH s k=>Go.Proofs.YtpncilciembjdaaGreatDoor.unI n λi=>f i H s k
def nth(xs:List (List AV))(i:Nat)(f:List AV->KM α):KM α:=λH s k=>Bh xs i λcs=>f cs H s k
def rd(cells:List AV)(o n:Nat):KM (List AV):=λH s k=>Io cells o n λcs=>k cs H ⟨[],[]⟩ s
def exp(t:Sh)(x:AV):KM AV:=λH s k=>CO t x λy=>k y H ⟨[],[]⟩ s
def expL(l:List Sh)(x:List AV):KM (List AV):=λH s k=>Ca l x λy=>k y H ⟨[],[]⟩ s
def expO(l:List Os)(x:List BO):KM (List BO):=λH s k=>EN l x λy=>k y H ⟨[],[]⟩ s
def ask(D:Orc)(key:Key)(args:List AV)(bs:List ABlk):KM (AV × List BO):=λH s k=>AG D key args bs λr o=>k (r,o) H ⟨[],[]⟩ s
def idx(x:AV)(f:Nat->KM α):KM α:=match x with
 |.v (.int _ n)=>unI n f
 |_=>fail
def idxO(n:Nat)(x:Option AV)(f:Nat->KM α):KM α:=match x with
 |some x=>idx x f
 |none=>f n
end KM
def Bc(n bytes:Nat):Bool:=match Aqv (n*bytes) 140737488355328 with
 |true=>Aqv n maxLen
 |false=>false
def Nm(l h n:Nat):Bool:=match Aqv l h with
 |true=>Aqv h n
 |false=>false
structure Hnt where
 fn:List (Nat × (Sh × List Os))
 lp:List (Nat × List (Nat × (List Sh × List Os)))
 tm:List (Nat × List Sh)
def B5{α:Type}(n:Nat):List (Nat × α)->Option α
 |[]=>none
 |(m,a)::r=>match AqO n m with
  |true=>some a
  |false=>B5 n r
section
variable (A:Ar) (D:Orc) (own:List (Nat × Nat)) (Hn:Hnt)
def tmK(d:Option Nat)(cs:List AV):KM (List AV):=match d with
 |some d=>(match B5 d Hn.tm with
  |some l=>KM.expL l cs
  |none=>KM.ret cs)
 |none=>KM.ret cs
def VO(d:Option Nat)(a:AV)(n:Nat):KM (List AV):=match a with
 |.ptr b o=>(KM.gen (AM.getB b)).bind λk=>(KM.rd k.cells o n).bind λcs=>match k.ex with
  |true=>tmK Hn d cs
  |false=>KM.ret cs
 |a=>KM.gen (rdAt a n)
def ZZ(d:Option Nat)(row:Bool)(n:Nat)(a:AV):KM AV:=match row with
 |true=>(VO Hn d a n).bind λcs=>KM.ret (.agg cs)
 |false=>(VO Hn d a 1).bind λcs=>KM.opt (Ut cs)
def UQ(n:Nat)(a x:AV):KM AV:=match a with
 |.ptr b o=>
  if x.cells.length=n/\x.cells.all AV.one=true then
   (KM.gen (AM.getB b)).bind λk=>if k.st=true/\(!k.ex||AA x.cells)=true then KM.test (Aqv (o+n) k.cells.length) ((KM.gen (AM.setB b { k with cells:=AI k.cells o x.cells })).bind λ_=>KM.ret AV.undef) else KM.fail
  else KM.fail
 |_=>KM.fail
def Ue(d:Option Nat)(e:Nat)(x ix:AV):KM AV:=KM.idx ix λi=>match x with
 |.sl b o n e'=>KM.test (Arx i n) (if e'=e then KM.ret (.ptr b (o+i*e)) else KM.fail)
 |.ls xs=>KM.nth xs i λcs=>(tmK Hn d cs).bind λcs=>(match AqO cs.length e with
  |true=>KM.ret (.lp cs)
  |false=>KM.fail)
 |_=>KM.fail
def To(n e:Nat)(x ix:AV):KM AV:=KM.idx ix λi=>KM.test (Arx i n) (KM.opt (Nu x (i*e)))
def Ug(d:Option Nat)(n e:Nat)(row:Bool)(sz:Nat)(x ix:AV):KM AV:=KM.idx ix λi=>match x with
 |.agg cs=>KM.test (Arx i n) ((KM.rd cs (i*e) (match row with
  |true=>sz
  |false=>1)).bind λxs=>(match row with
  |true=>KM.ret (.agg xs)
  |false=>KM.opt (Ut xs)))
 |_=>KM.fail
def UL(e:Nat)(x:AV)(lo hi:Option AV):KM AV:=match x with
 |.sl b o n e'=>KM.idxO 0 lo λl=>KM.idxO n hi λh=>KM.test (Nm l h n) (match AqO e' e with
  |true=>KM.ret (.sl b (o+l*e) (h-l) e)
  |false=>KM.fail)
 |.ls xs=>KM.idxO 0 lo λl=>KM.idxO (AP xs) hi λh=>KM.test (Nm l h (AP xs)) (KM.test (E4 e xs) (KM.ret (.ls (GR (Hq xs h) l))))
 |_=>KM.fail
def AiV(b:BinOp)(x y:AV):KM AV:=match x,y with
 |.v (.int k a),.v (.int k' c)=>(match b with
  |.shl=>KM.brk (A.lt c 0) KM.fail (KM.ret (.v (.int k (A.shl k a c))))
  |.shr=>KM.brk (A.lt c 0) KM.fail (KM.ret (.v (.int k (A.shr k a c))))
  |.quo=>if k=k' then KM.brk (A.eq c 0) KM.fail (KM.ret (.v (.int k (A.quo k a c)))) else KM.fail
  |.rem=>if k=k' then KM.brk (A.eq c 0) KM.fail (KM.ret (.v (.int k (A.rem k a c)))) else KM.fail
  |.neq=>if k=k' then KM.brk (A.eq a c) (KM.ret (.v (.bool false))) (KM.ret (.v (.bool true))) else KM.fail
  |b=>KM.opt (Jj A b (.v (.int k a)) (.v (.int k' c))))
 |.v (.string a),.v (.string c)=>(match b with
  |.add=>KM.test (Aqv (A.slen a+A.slen c) 9223372036854775807) (KM.ret (.v (.string (A.cat a c))))
  |.neq=>KM.brk (A.seq a c) (KM.ret (.v (.bool false))) (KM.ret (.v (.bool true)))
  |b=>KM.opt (Jj A b (.v (.string a)) (.v (.string c))))
 |x,y=>KM.opt (Jj A b x y)
def AaW(x i:AV):KM AV:=match x with
 |.v (.string s)=>KM.idx i λi=>KM.test (Arx i (A.slen s)) (KM.ret (.v (.int .u8 (A.sat s i))))
 |_=>KM.fail
def QJ(x:AV)(lo hi:Option AV):KM AV:=match x with
 |.v (.string s)=>KM.idxO 0 lo λl=>KM.idxO (A.slen s) hi λh=>KM.test (Nm l h (A.slen s)) (KM.ret (.v (.string (A.ssub s l h))))
 |_=>KM.fail
def VE(e:Nat)(x:AV):KM (Nat × List AV):=match x with
 |.sl b o n e'=>if e'=e then(KM.gen (AM.getB b)).bind λk=>KM.test (Aqv (o+n*e) k.cells.length) (match (k.ex||AA ((k.cells.drop o).take (n*e))) with
   |true=>KM.ret (n,(k.cells.drop o).take (n*e))
   |false=>KM.fail)
   else KM.fail
 |.ls xs=>KM.test (E4 e xs) (KM.ret (AP xs,Il xs))
 |.v (.slice none 0 0)=>KM.ret (0,[])
 |_=>KM.fail
def Ahn(e bytes:Nat)(s:AV)(m:Nat)(xs:List AV):KM AV:=match s with
 |.v (.slice none 0 0)=>KM.test (Bc m bytes) ((KM.gen (AM.newB ⟨xs,true,true⟩)).bind λb=>KM.ret (.sl b 0 m e))
 |.sl b o n e'=>(match AqO e' e with
  |true=>KM.test (Bc (n+m) bytes) ((KM.gen (AM.getB b)).bind λk=>match k.ex,k.st with
   |true,true=>KM.test (Aqv (o+n*e) k.cells.length) ((KM.gen (AM.delB b)).bind λ_=>(KM.gen (AM.newB ⟨(k.cells.take (o+n*e)).drop o++xs,true,true⟩)).bind λb'=>KM.ret (.sl b' 0 (n+m) e))
   |true,false=>KM.test (AqO (o+n*e) k.cells.length) ((KM.gen (AM.setB b { k with ex:=false })).bind λ_=>(KM.gen (AM.newB ⟨(k.cells.take (o+n*e)).drop o++xs,false,true⟩)).bind λb'=>KM.ret (.sl b' 0 (n+m) e))
   |_,_=>KM.fail)
  |false=>KM.fail)
 |_=>KM.fail
def U0(e bytes:Nat)(s:AV)(r:Nat × List AV):KM AV:=KM.brk (AqO r.1 0) (if Oo s=true then KM.ret s else KM.fail) (KM.test (I4 r.2) (Ahn e bytes s r.1 r.2))
def Alx(e bytes:Nat)(s x:AV):KM AV:=(VE e x).bind λr=>U0 e bytes s r
def Yo(z:List Value)(e bytes:Nat)(s x:AV):KM AV:=KM.idx x λm=>KM.test (Aqv m 9223372036854775807) (U0 e bytes s (m,BQ (z.map .v) (m*e)))
def Z5(z:List Value)(e bytes:Nat)(l c:AV):KM AV:=KM.idx l λn=>KM.idx c λm=>KM.test (Aqv n m) (KM.test (Bc m bytes) ((KM.gen (AM.newB ⟨BQ (z.map .v) (n*e),true,true⟩)).bind λb=>KM.ret (.sl b 0 n e)))
def Ai5(e:Nat)(d x:AV):KM AV:=match d with
 |.sl b o n e'=>(match AqO e' e with
  |true=>(VE e x).bind λr=>KM.test (I4 (r.2.take (Arl r.1 n*e))) ((KM.gen (AM.getB b)).bind λk=>match k.st with
    |true=>KM.test (Aqv (o+n*e) k.cells.length) ((KM.gen (AM.setB b { k with cells:=AI k.cells o (r.2.take (Arl r.1 n*e)) })).bind λ_=>KM.ret (.v (.int .i64 (Int.ofNat (Arl r.1 n)))))
    |false=>KM.fail)
  |false=>KM.fail)
 |_=>KM.fail
def Ai4(z:List Value)(e:Nat)(x:AV):KM AV:=match x with
 |.sl b o n e'=>(match AqO e' e with
  |true=>(KM.gen (AM.getB b)).bind λk=>match k.st with
   |true=>KM.test (Aqv (o+n*e) k.cells.length) ((KM.gen (AM.setB b { k with cells:=AI k.cells o (BQ (z.map .v) (n*e)) })).bind λ_=>KM.ret (.tup []))
   |false=>KM.fail
  |false=>KM.fail)
 |_=>KM.fail
mutual
def RL:Nat->AV->KM AV
 |0,x=>KM.gen (frz0 x)
 |n+1,x=>match x with
  |.v z=>KM.ret (Oq z)
  |.sl b o m e=>(KM.gen (AM.getB b)).bind λk=>KM.test (Aqv (o+m*e) k.cells.length) ((match k.st with
    |true=>KM.gen (AM.setB b { k with st:=false })
    |false=>KM.ret ()).bind λ_=>match (k.ex||AA ((k.cells.drop o).take (m*e))) with
     |true=>KM.ret (.ls (Bl m e ((k.cells.drop o).take (m*e))))
     |false=>(Jt n ((k.cells.drop o).take (m*e))).bind λcs=>match AA cs with
      |true=>KM.ret (.ls (Bl m e cs))
      |false=>KM.fail)
  |.agg cs=>(Jt n cs).bind λcs=>KM.ret (.agg cs)
  |.tup cs=>(Jt n cs).bind λcs=>KM.ret (.tup cs)
  |x=>KM.ret x
def Jt:Nat->List AV->KM (List AV)
 |_,[]=>KM.ret []
 |0,_::_=>KM.fail
 |n+1,x::r=>(RL n x).bind λx=>(Jt n r).bind λr=>KM.ret (x::r)
end
def Zm(b:Nat):KM Unit:=(KM.gen (AM.getB b)).bind λk=>match k.ex,k.st with
 |false,true=>(Jt 1000 k.cells).bind λcs=>(KM.gen (AM.getB b)).bind λk2=>(match k2.ex,AqO cs.length k2.cells.length with
  |false,true=>KM.gen (AM.setB b { k2 with cells:=cs })
  |_,_=>KM.fail)
 |_,_=>KM.ret ()
def Ju:List Nat->List AV->KM (List AV)
 |[],T=>KM.ret T
 |t::r,T=>match T[t]? with
  |some (.ptr b _)=>(Zm b).bind λ_=>Ju r T
  |some x=>(RL 1000 x).bind λy=>Ju r (T.set t y)
  |none=>Ju r T
def OT(f:Nat):Nat->List AV->KM (List AV)
 |_,[]=>KM.ret []
 |i,x::r=>match Aah own f i with
  |true=>(OT f (i+1) r).bind λr=>KM.ret (x::r)
  |false=>(RL 1000 x).bind λx=>(OT f (i+1) r).bind λr=>KM.ret (x::r)
def PZ(key:Key)(e:AV × List BO->KM (AV × List BO))(args:List AV):KM AV:=
 (KM.gen (trav 4096 (DZ args) [])).bind λL=>(KM.gen (readAll L)).bind λbs=>
  ((KM.ask D key (GF (λb=>idx b L) args) (bs.map (ABlk.ren λb=>idx b L))).bind e).bind λr=>
    match MD r.2.length r.1.ids,PT r.2.length r.2 with
    |true,true=>(KM.gen nextB).bind λn=>(KM.gen (writeAll (Gt L n) L r.2)).bind λout=>(KM.gen (newAll (Gt L n) out)).bind λ_=>KM.ret (r.1.ren (Gt L n))
    |_,_=>KM.fail
def ansF(f:Nat)(r:AV × List BO):KM (AV × List BO):=match B5 f Hn.fn with
 |some (s,l)=>(KM.exp s r.1).bind λx=>(KM.expO l r.2).bind λo=>KM.ret (x,o)
 |none=>KM.ret r
def P0(f:FuncId)(args:List AV):KM AV:=(OT own f 0 args).bind λl=>PZ D (.fn f) (ansF Hn f) l
def Ys:Nat->AV
 |0=>.v (.bool true)
 |i+1=>.v (.int .i64 (Int.ofNat i))
def ansX:List (Nat × (List Sh × List Os))->AV->List AV->List BO->KM (AV × List BO)
 |[],_,_,_=>KM.fail
 |(k,s,l)::r,x,ys,o=>KM.brk (Bf k x) ((KM.expL s ys).bind λys=>(KM.expO l o).bind λo=>KM.ret (.tup (Ys k::ys),o)) (ansX r x ys o)
def ansL(i:Nat)(r:AV × List BO):KM (AV × List BO):=match B5 i Hn.lp with
 |some l=>λH s k=>J5 r.1 λcs=>D8 cs λx ys=>ansX l x ys r.2 H s k
 |none=>KM.ret r
def Ul(f i:Nat)(xs:List AV):KM (AX × List AV):=(PZ D (.lp f i) (ansL Hn i) xs).bind λr=>match r with
 |.tup (x::ys)=>(match Ts x with
  |some ax=>KM.ret (ax,ys)
  |none=>KM.fail)
 |_=>KM.fail
def opK(d:Option Nat)(o:MO)(T:List AV):KM AV:=match o with
 |.pick c a b=>(match AE T c with
  |.v (.bool t)=>KM.brk t (KM.ret (AE T a)) (KM.ret (AE T b))
  |_=>KM.fail)
 |.ld row n a=>ZZ Hn d row n (AE T a)
 |.st n a x=>UQ n (AE T a) (AE T x)
 |.bin ek b x y=>(match ek with
  |0=>AiV A b (AE T x) (AE T y)
  |ek=>KM.opt (Ab6 A ek b (AE T x) (AE T y)))
 |.slice e x lo hi=>UL e (AE T x) (lo.map (AE T)) (hi.map (AE T))
 |.iaddr e x i=>Ue Hn d e (AE T x) (AE T i)
 |.aaddr n e x i=>To n e (AE T x) (AE T i)
 |.index n e row sz x i=>Ug d n e row sz (AE T x) (AE T i)
 |.mksl z e bytes l c=>Z5 z e bytes (AE T l) (AE T c)
 |.app e bytes s x=>Alx e bytes (AE T s) (AE T x)
 |.appz z e bytes s x=>Yo z e bytes (AE T s) (AE T x)
 |.cpy e d x=>Ai5 e (AE T d) (AE T x)
 |.clr z e x=>Ai4 z e (AE T x)
 |.sidx x i=>AaW A (AE T x) (AE T i)
 |.sslice x lo hi=>QJ A (AE T x) (lo.map (AE T)) (hi.map (AE T))
 |.callF f args=>P0 D own Hn f (Ot T args)
 |.callV ents x args=>(match AE T x with
  |.fn (.func g) a cs=>(match ents.testBit g with
   |true=>P0 D own Hn g (a++Ot T args++cs)
   |false=>KM.fail)
  |_=>KM.fail)
 |o=>KM.gen (mop A (λ_ _=>AM.fail) o T)
def YE(o:MOp)(T:List AV):KM AV:=match o.g with
 |none=>opK A D own Hn o.dst o.op T
 |some (d,want)=>(match T[d]? with
  |some (.v (.bool b))=>KM.brk (match want with
   |true=>b
   |false=>A.not b) (opK A D own Hn o.dst o.op T) (KM.ret AV.undef)
  |some (.v (.tuple _))=>KM.ret AV.undef
  |_=>KM.fail)
def Ajp(v:Value)(k:Value->KR):KR:=match v with
 |.int kd n=>k (.int kd n)
 |.bool b=>k (.bool b)
 |.string s=>k (.string s)
 |.tuple t=>k (.tuple t)
 |v=>k v
theorem Acp(v:Value)(k:Value->KR):Ajp v k=k v:=by
 unfold Ajp;split<;>rfl
def gL(f:AV->(AV->KR)->KR)(l:List AV)(k:List AV->KR):KR:=match l with
 |[]=>k []
 |x::r=>f x λx=>gL f r λr=>k (x::r)
theorem Ahm{f:AV->(AV->KR)->KR}(hf:∀ x k,f x k=k x):∀(l:List AV) (k:List AV->KR),gL f l k=k l
 |[],_=>rfl
 |x::r,k=>by simp only[gL,hf,Ahm hf r]
def gAV(d:Nat)(x:AV)(k:AV->KR):KR:=match d with
 |0=>k x
 |d+1=>match x with
  |.v x=>Ajp x λx=>k (.v x)
  |.ptr b o=>k (.ptr b o)
  |.sl b o n e=>k (.sl b o n e)
  |.ls xs=>k (.ls xs)
  |.lp cs=>gL (gAV d) cs λcs=>k (.lp cs)
  |.agg cs=>gL (gAV d) cs λcs=>k (.agg cs)
  |.tup cs=>gL (gAV d) cs λcs=>k (.tup cs)
  |.fn f a c=>gL (gAV d) a λa=>gL (gAV d) c λc=>k (.fn f a c)
  |.any=>k .any
theorem Zn:∀(d:Nat) (x:AV) (k:AV->KR),gAV d x k=k x
 |0,_,_=>rfl
 |d+1,x,k=>by cases x<;>simp only[gAV,Acp,Ahm (Zn d)]
def gB(e:Bool)(x:AV)(s:Sc)(k:AV->Sc->KR):KR:=match e,x with
 |true,.v (.bool b)=>brS s b (λs=>k (.v (.bool true)) s) (λs=>k (.v (.bool false)) s)
 |_,x=>k x s
def Ajj:MO->Bool
 |.mv _=>false
 |.ld _ _ _=>false
 |.field _ _ _ _=>false
 |.ext _ _=>false
 |_=>true
def gSp{β:Type}(l:List β)(k:List β->KR):KR:=match l with
 |[]=>k []
 |x::r=>gSp r λr=>k (x::r)
theorem T6{β:Type}:∀(l:List β) (k:List β->KR),gSp l k=k l
 |[],_=>rfl
 |x::r,k=>by simp only[gSp,T6 r]
def gBl(l:List (Nat × ABlk))(k:List (Nat × ABlk)->KR):KR:=match l with
 |[]=>k []
 |(b,⟨cs,st,ex⟩)::r=>gBl r λr=>k ((b,⟨cs,st,ex⟩)::r)
theorem Zo:∀(l:List (Nat × ABlk)) (k:List (Nat × ABlk)->KR),gBl l k=k l
 |[],_=>rfl
 |(b,⟨cs,st,ex⟩)::r,k=>by simp only[gBl,Zo r]
def gH(H:AH)(k:AH->KR):KR:=match H with
 |⟨l,n,t⟩=>gBl l λl=>k ⟨l,n,t⟩
theorem AlU(H:AH)(k:AH->KR):gH H k=k H:=by
 obtain⟨l,n,t⟩:=H;simp only[gH,Zo]
def gFt(f:Foot)(k:Foot->KR):KR:=match f with
 |⟨rd,wr⟩=>gSp rd λrd=>gSp wr λwr=>k ⟨rd,wr⟩
theorem Ajk(f:Foot)(k:Foot->KR):gFt f k=k f:=by
 obtain⟨rd,wr⟩:=f;simp only[gFt,T6]
def Agx:List MOp->List AV->AH->Sc->(List AV->AH->List Foot->Sc->KR)->KR
 |[],T,H,s,k=>k T H [] s
 |o::r,T,H,s,k=>YE A D own Hn o T H s λv H f s=>gAV 3 v λv=>gB (Ajj o.op) v s λv s=>gSp (BX T o.dst v) λT=>gFt f λf=>gH H λH=>Agx r T H s λT H fs s=>k T H (f::fs) s
def AkP(ops:List MOp)(bf:Option (List Nat))(T:List AV):KM (AX × List AV):=λH s k=>Agx A D own Hn ops T H s λT H fs s=>match bf with
 |none=>k (.normal,T) H ⟨fs.flatMap (·.rd),fs.flatMap (·.wr)⟩ s
 |some bf=>(match DQ bf fs with
  |true=>k (.normal,T) H ⟨fs.flatMap (·.rd),fs.flatMap (·.wr)⟩ s
  |false=>none)
def Yf(f:Nat):MC->List AV->KM (AX × List AV)
 |.skip,T=>KM.ret (.normal,T)
 |.reg ops bf,T=>AkP A D own Hn ops bf T
 |.seq a b,T=>(Yf f a T).bind λr=>match r.1 with
  |.normal=>Yf f b r.2
  |ax=>KM.ret (ax,r.2)
 |.cond c a b,T=>(match AE T c with
  |.v (.bool t)=>KM.brk t (Yf f a T) (Yf f b T)
  |_=>KM.fail)
 |.block id c,T=>(Yf f c T).bind λr=>match r.1 with
  |.exit i=>if i=id then KM.ret (.normal,r.2) else KM.ret (.exit i,r.2)
  |ax=>KM.ret (ax,r.2)
 |.loop i h,T=>(KM.gen (adoptM h.ad T)).bind λT=>(Ju h.fz T).bind λT=>match AqO T.length h.n with
  |true=>(Ul D Hn f i (B7 h.live T)).bind λr=>KM.ret (r.1,BG (h.out r.1) h.n r.2)
  |false=>KM.fail
 |.exit id,T=>KM.ret (.exit id,T)
 |.ret,T=>KM.ret (.ret,T)
 |.bad,_=>KM.fail
def Aay(T:List AV):List MRes->KM (List AV)
 |[]=>KM.ret []
 |.tmp t::r=>(Aay T r).bind λl=>KM.ret ((T[t]?).getD AV.undef::l)
 |.cell x row n::r=>(ZZ Hn none row n ((T[x]?).getD AV.undef)).bind λv=>(Aay T r).bind λl=>KM.ret (v::l)
def MY(n:Nat)(r:AV)(H:AH)(ft:Foot):KR:=
 match (DB 0 n).map (Uu H ft.wr)++(DB n (H.next-n)).map (Af8 H) with
 |out=>(match Fa n out 4096 (r.ids++Uf (ID out n)) []with
  |none=>none
  |some acc=>some (r.ren (WB n acc),Aas (WB n acc) (ID out n)++SE (WB n acc) out acc))
def BZ(s:Sc)(f:Nat)(mf:MFn)(args:List AV)(bs:List ABlk):KR:=((Yf A D own Hn f mf.body (P9 mf.nt args)).bind λr=>match r.1 with
 |.exit _=>KM.fail
 |.goto _=>KM.fail
 |_=>(Aay Hn r.2 mf.res).bind λl=>(match mf.own with
  |true=>KM.ret (Ip l)
  |false=>RL 1000 (Ip l)).bind λv=>match mf.tch with
   |true=>(KM.gen (touchI (DZ args))).bind λ_=>KM.ret v
   |false=>KM.ret v) ⟨CK 0 bs,bs.length,none⟩ s λv H ft _=>MY bs.length v H ft
def Aac(n:Nat):List Nat->List Nat
 |[]=>[]
 |x::r=>match Arx x n,EG x r with
  |true,false=>x::Aac n r
  |_,_=>Aac n r
def AF(n:Nat)(L:List Nat)(H:AH)(wr:List Nat)(r:AV)(o:List BO):KR:=match MD o.length r.ids,PT o.length o with
 |true,true=>(match (nextB.bind λn=>(writeAll (Gt L n) L o).bind λout=>(newAll (Gt L n) out).bind λ_=>AM.ret (r.ren (Gt L n))) H with
  |some (.tup (x::ys),H',f)=>(match Ts x with
   |some ax=>MY n (.tup (Yq ax::ys)) H' ⟨[],wr++f.wr⟩
   |none=>none)
  |_=>none)
 |_,_=>none
def AkO(f i:Nat)(xs:List AV)(H:AH)(ft:Foot)(n:Nat):KR:=match trav 4096 (DZ xs) [] H with
 |some (L,_,f1)=>(match readAll L H with
  |some (bs,_,f2)=>AG D (.lp f i) (GF (λb=>idx b L) xs) (bs.map (ABlk.ren λb=>idx b L)) λr o=>AF n L H (Aac n (ft.wr++(f1.wr++f2.wr))) r o
  |none=>none)
 |none=>none
def Dl(s:Sc)(f i:Nat)(h:LpH)(c:MC)(xs:List AV)(bs:List ABlk):KR:=Yf A D own Hn f c (BG h.live h.n xs) ⟨CK 0 bs,bs.length,none⟩ s λr H ft s=>match r.1 with
 |.normal=>Ju h.fz r.2 H s λT H g _=>AkO D f i (B7 h.live T) H ⟨ft.rd++g.rd,ft.wr++g.wr⟩ bs.length
 |.goto _=>none
 |ax=>((Ju (h.fzo ax) r.2).bind λT=>(KM.gen (delT (h.dlo ax) T)).bind λ_=>(KM.gen (touchA (h.nt ax) (B7 (h.out ax) T))).bind λys=>KM.ret (.tup (Yq ax::ys))) H s λv H f _=>MY bs.length v H ⟨ft.rd++f.rd,ft.wr++f.wr⟩
end
end
section
open Go.RowKit
def SK{α:Type}(m:AM α)(mK:KM α):Prop:=∀ H s k r,mK H s k=some r->∃ a H' f s',m H=some (a,H',f)/\k a H' f s'=some r
section
variable {α β:Type}
theorem SK.ret(a:α):SK (AM.ret a) (KM.ret a):=λH s k r h=>⟨a,H,⟨[],[]⟩,s,rfl,h⟩
theorem SK.fail(m:AM α):SK m (KM.fail):=λH s k r h=>by cases h
theorem SK.gen(m:AM α):SK m (KM.gen m):=λH s k r h=>by
 unfold KM.gen at h;split at h
 .exact⟨_,_,_,s,‹_›,h⟩
 .cases h
theorem SK.opt:∀ o:Option α,SK (AM.opt o) (KM.opt o)
 |some a=>SK.ret a
 |none=>SK.fail _
theorem SK.bind{m:AM α}{mK:KM α}{f:α->AM β}{fK:α->KM β}(hm:SK m mK)(hf:∀ a,SK (f a) (fK a)):SK (m.bind f) (mK.bind fK):=λH s k r h=>by
 obtain⟨a,H1,f1,s1,h1,h2⟩:=hm H s _ r h;obtain⟨b,H2,f2,s2,h3,h4⟩:=hf a H1 s1 _ r h2;refine⟨b,H2,_,s2,?_,h4⟩;unfold AM.bind;simp only[h1,h3]
theorem Jl{b:Bool}{x y:KR}{r:AV × List BO}(h:br b x y=some r):(b=true/\x=some r)\/(b=false/\y=some r):=by
 cases b
 .exact .inr ⟨rfl,h⟩
 .exact .inl ⟨rfl,h⟩
theorem Rj{s:Sc}{c:Bool}{x y:Sc->KR}{r:AV × List BO}(h:brS s c x y=some r):∃ s',(c=true/\x s'=some r)\/(c=false/\y s'=some r):=by
 unfold brS at h;split at h
 .rcases Jl h with⟨e,h⟩|⟨e,h⟩
  .exact⟨_,.inl ⟨e,h⟩⟩
  .exact⟨_,.inr ⟨e,h⟩⟩
 .rcases Jl h with⟨e,h⟩|⟨e,h⟩
  .exact⟨_,.inl ⟨e,h⟩⟩
  .exact⟨_,.inr ⟨e,h⟩⟩
 .rcases Jl h with⟨e,h⟩|⟨e,h⟩
  .exact⟨_,.inl ⟨e,h⟩⟩
  .cases h
 .rcases Jl h with⟨e,h⟩|⟨e,h⟩
  .cases h
  .exact⟨_,.inr ⟨e,h⟩⟩
theorem SK.brk{b:Bool}{m:AM α}{x y:KM α}(hx:b=true->SK m x)(hy:b=false->SK m y):SK m (KM.brk b x y):=λH s k r h=>by
 obtain⟨s',⟨e,h⟩|⟨e,h⟩⟩:=Rj h
 .exact hx e H s' k r h
 .exact hy e H s' k r h
theorem SK.test{b:Bool}{m:AM α}{x:KM α}(hx:b=true->SK m x):SK m (KM.test b x):=λH s k r h=>by
 rcases Jl h with⟨e,h⟩|⟨e,h⟩
 .exact hx e H s k r h
 .cases h
theorem SK.unI{n:Int}{m:AM α}{f:Nat->KM α}(hf:∀ i,n=.ofNat i->SK m (f i)):SK m (KM.unI n f):=λH s k r h=>by
 unfold KM.unI Go.Proofs.YtpncilciembjdaaGreatDoor.unI at h
 cases n with
 |ofNat i=>exact hf i rfl H s k r h
 |negSucc i=>cases h
theorem SK.idx{x:AV}{m:AM α}{f:Nat->KM α}(hf:∀ i,x.idx=some i->SK m (f i)):SK m (KM.idx x f):=by
 unfold KM.idx;split
 .exact SK.unI λi e=>hf i (by rw[e];rfl)
 .exact SK.fail _
theorem SK.idxO{n:Nat}{x:Option AV}{m:AM α}{f:Nat->KM α}(hf:∀ i,LZ n x=some i->SK m (f i)):SK m (KM.idxO n x f):=by
 unfold KM.idxO
 cases x with
 |none=>exact hf n rfl
 |some x=>exact SK.idx λi e=>hf i e
theorem SK.nth{xs:List (List AV)}{i:Nat}{m:AM α}{f:List AV->KM α}(hf:∀ cs,SB xs i=some cs->SK m (f cs)):SK m (KM.nth xs i f):=λH s k r h=>by
 unfold KM.nth Bh at h;split at h
 .exact hf _ ‹_› H s k r h
 .cases h
theorem SK.rd{cells:List AV}{o n:Nat}{f:List AV->AM β}{fK:List AV->KM β}{m:AM β}(hm:o+n<=cells.length->m=f ((cells.drop o).take n))(hf:∀ cs,SK (f cs) (fK cs)):SK m ((KM.rd cells o n).bind fK):=λH s k r h=>by
 unfold KM.bind KM.rd Io at h;split at h
 .rename_i e
  rw[hm (by simpa using e)];exact hf _ H s _ r (by simpa using h)
 .cases h
end
mutual
theorem Lp:∀(s:Sh) (x:AV) {K:AV->KR} {r:AV × List BO},CO s x K=some r->K x=some r
 |.int kd,x,K,r,h=>by
  simp only[CO,IF]at h;split at h
  .split at h
   .rename_i e;rw[←e]at h;exact h
   .cases h
  .cases h
 |.bool,x,K,r,h=>by
  simp only[CO,K7]at h;split at h
  .exact h
  .cases h
 |.str,x,K,r,h=>by
  simp only[CO,PG]at h;split at h
  .exact h
  .cases h
 |.ls,x,K,r,h=>by
  simp only[CO,K9]at h;split at h
  .exact h
  .cases h
 |.lp l,x,K,r,h=>by
  simp only[CO,Ana]at h;split at h
  .exact h
  .exact BL l _ h
  .cases h
 |.agg l,x,K,r,h=>by
  simp only[CO,LR]at h;split at h
  .exact BL l _ h
  .cases h
 |.tup l,x,K,r,h=>by
  simp only[CO,J5]at h;split at h
  .exact BL l _ h
  .cases h
 |.slo b e,x,K,r,h=>by
  simp only[CO,AiE]at h;split at h
  .split at h
   .rename_i e1 e2
    have e1:b=_:=AqG e1;have e2:e=_:=AqG e2;rw[←e1,←e2];exact h
   .cases h
  .cases h
 |.sl b e,x,K,r,h=>by
  simp only[CO,UW]at h;split at h
  .split at h
   .rename_i e1 e2
    have e1:b=_:=AqG e1;have e2:e=_:=AqG e2;rw[←e1,←e2];exact h
   .cases h
  .cases h
 |.ptr b o,x,K,r,h=>by
  simp only[CO,J4]at h;split at h
  .split at h
   .rename_i e1 e2
    have e1:b=_:=AqG e1;have e2:o=_:=AqG e2;rw[←e1,←e2];exact h
   .cases h
  .cases h
 |.cst v,x,K,r,h=>by
  simp only[CO,S9]at h;split at h
  .rename_i u
   split at h
   .rename_i e
    have:v=u:=by
     unfold AhV at e;split at e
     .rfl
     .rfl
     .cases e
    rw[←this];exact h
   .cases h
  .cases h
 |.fnc f,x,K,r,h=>by
  simp only[CO,XU]at h;split at h
  .split at h
   .rename_i e
    have:=AqG e;subst this;exact h
   .cases h
  .cases h
 |.any,x,K,r,h=>by simpa only[CO]using h
theorem BL:∀(l:List Sh) (cs:List AV) {K:List AV->KR} {r:AV × List BO},Ca l cs K=some r->K cs=some r
 |[],cs,K,r,h=>by
  simp only[Ca,Ea]at h;split at h
  .exact h
  .cases h
 |s::l,cs,K,r,h=>by
  have gen:(D8 cs λc r=>CO s c λc=>Ca l r λr=>K (c::r))=some r->K cs=some r:=λh=>by
   simp only[D8]at h;split at h
   .cases h
   .have:=BL l _ (Lp s _ h)
    exact this
  cases s with
  |int kd=>
   simp only[Ca,MG]at h;split at h
   .split at h
    .rename_i e
     have:=BL l _ h;rw[←e]at this;exact this
    .cases h
   .cases h
  |bool=>
   simp only[Ca,OH]at h;split at h
   .have:=BL l _ h
    exact this
   .cases h
  |str=>
   simp only[Ca,Wh]at h;split at h
   .have:=BL l _ h
    exact this
   .cases h
  |ls=>
   simp only[Ca,cLs]at h;split at h
   .have:=BL l _ h
    exact this
   .cases h
  |_=>
   simp only[Ca]at h;exact gen h
end
theorem Du:∀(l:List Os) (o:List BO) {K:List BO->KR} {r:AV × List BO},EN l o K=some r->K o=some r
 |[],cs,K,r,h=>by
  simp only[EN,CD]at h;split at h
  .exact h
  .cases h
 |s::l,o,K,r,h=>by
  simp only[EN,Eb]at h;split at h
  .cases h
  .cases s with
   |keep=>
    simp only[K8]at h;split at h
    .have:=Du l _ h
     exact this
    .cases h
   |del=>
    simp only[PF]at h;split at h
    .have:=Du l _ h
     exact this
    .cases h
   |row st=>
    simp only[FN]at h;split at h
    .split at h
     .rename_i e
      obtain⟨rfl,rfl⟩:=e;have:=Du l _ h;exact this
     .cases h
    .cases h
   |box m=>
    simp only[FN]at h;split at h
    .split at h
     .rename_i e
      obtain⟨rfl,rfl⟩:=e;have:=Du l _ (BL m _ h);exact this
     .cases h
    .cases h
theorem SK.exp(t:Sh)(x:AV):SK (AM.ret x) (KM.exp t x):=λH s k r h=>⟨x,H,⟨[],[]⟩,s,rfl,Lp t x h⟩
theorem SK.expL(t:List Sh)(x:List AV):SK (AM.ret x) (KM.expL t x):=λH s k r h=>⟨x,H,⟨[],[]⟩,s,rfl,BL t x h⟩
theorem SK.expO(t:List Os)(x:List BO):SK (AM.ret x) (KM.expO t x):=λH s k r h=>⟨x,H,⟨[],[]⟩,s,rfl,Du t x h⟩
theorem SK.look{α β:Type}{x:α}{mK:KM α}(hm:SK (AM.ret x) mK){f:α->AM β}{fK:α->KM β}(hf:∀ a,SK (f a) (fK a)):SK (f x) (mK.bind fK):=λH s k r h=>by
 obtain⟨a,H1,f1,s1,h1,h2⟩:=hm H s _ r h;obtain⟨rfl,rfl⟩:=Ag h1;have e:f1=⟨[],[]⟩:=by
  simp only[AM.ret,Ψ,Prod.mk.injEq]at h1;exact h1.2.2.symm
 subst e;exact hf _ _ _ _ r (by simpa using h2)
section
variable {A:Ar} {D:Orc} {own:List (Nat × Nat)} {Hn:Hnt}
theorem SK.tm(d:Option Nat)(cs:List AV):SK (AM.ret cs) (tmK Hn d cs):=by
 unfold tmK;split
 .split
  .exact SK.expL _ _
  .exact SK.ret _
 .exact SK.ret _
theorem SK.rdAt(d:Option Nat)(a:AV)(n:Nat):SK (rdAt a n) (VO Hn d a n):=by
 unfold VO;split
 .unfold Go.Proofs.YtpncilciembjdaaGreatDoor.rdAt
  refine SK.bind (SK.gen _) λk=>SK.rd (f:=λcs=>AM.ret cs) (λh=>if_pos h) λcs=>?_
  split
  .exact SK.tm _ _
  .exact SK.ret _
 .exact SK.gen _
theorem SK.load(d:Option Nat)(row:Bool)(n:Nat)(a:AV):SK (loadM row n a) (ZZ Hn d row n a):=by
 cases row with
 |true=>exact SK.bind (SK.rdAt _ _ _) λ_=>SK.ret _
 |false=>exact SK.bind (SK.rdAt _ _ _) λ_=>SK.opt _
theorem SK.store(n:Nat)(a x:AV):SK (storeM n a x) (UQ n a x):=by
 unfold storeM UQ
 cases a with
 |ptr b o=>
  simp only;split
  .refine SK.bind (SK.gen _) λk=>?_
   by_cases h:k.st=true/\(!k.ex||AA x.cells)=true
   .rw[if_pos h]
    refine SK.test λe=>?_
    rw[if_pos ⟨h.1,by simpa using e,h.2⟩];exact SK.bind (SK.gen _) λ_=>SK.ret _
   .rw[if_neg h]
    exact SK.fail _
  .exact SK.fail _
 |_=>exact SK.fail _
theorem SK.iaddr(d:Option Nat)(e:Nat)(x ix:AV):SK (AM.opt (Nk e x ix)) (Ue Hn d e x ix):=by
 unfold Ue;refine SK.idx λi hi=>?_
 unfold Nk;simp only[hi]
 cases x with
 |sl b o n e'=>
  simp only;refine SK.test λh=>?_
  rw[h];simp only;split
  .exact SK.ret _
  .exact SK.fail _
 |ls xs=>
  simp only;refine SK.nth λcs h=>?_
  rw[h];simp only;refine SK.look (f:=λ(cs:List AV)=>AM.opt (match AqO cs.length e with
   |true=>some (AV.lp cs)
   |false=>none)) (SK.tm d cs) λcs=>?_
  cases AqO cs.length e with
  |true=>exact SK.ret _
  |false=>exact SK.fail _
 |_=>exact SK.fail _
theorem SK.aaddr(n e:Nat)(x ix:AV):SK (AM.opt (PP n e x ix)) (To n e x ix):=by
 unfold To;refine SK.idx λi hi=>?_
 unfold PP;simp only[hi];refine SK.test λh=>?_
 rw[h];exact SK.opt _
theorem Abm{cs:List AV}{o:Nat}(h:o+1<=cs.length):Ut ((cs.drop o).take 1)=cs[o]?:=by
 have h1:o<cs.length:=h;rw[List.getElem?_eq_getElem h1,List.drop_eq_getElem_cons h1];rfl
theorem SK.index(d:Option Nat)(n e:Nat)(row:Bool)(sz:Nat)(x ix:AV):SK (AM.opt (No n e row sz x ix)) (Ug d n e row sz x ix):=by
 unfold Ug;refine SK.idx λi hi=>?_
 unfold No
 cases x with
 |agg cs=>
  simp only[hi];refine SK.test λh=>?_
  rw[h];simp only;unfold SD
  cases row with
  |true=>exact SK.rd (f:=λxs=>AM.ret (.agg xs)) (λ_=>rfl) λ_=>SK.ret _
  |false=>exact SK.rd (f:=λxs=>AM.opt (Ut xs)) (λh=>by rw[Abm h]) λ_=>SK.opt _
 |_=>exact SK.fail _
theorem Nn{l h n:Nat}(e:Nm l h n=true):Aqv l h=true/\Aqv h n=true:=by
 unfold Nm at e;split at e
 .exact⟨‹_›,e⟩
 .cases e
theorem IU{n b:Nat}(e:Bc n b=true):Aqv (n*b) 140737488355328=true/\Aqv n maxLen=true:=by
 unfold Bc at e;split at e
 .exact⟨‹_›,e⟩
 .cases e
theorem SK.slice(e:Nat)(x:AV)(lo hi:Option AV):SK (AM.opt (NV e x lo hi)) (UL e x lo hi):=by
 unfold UL NV
 cases x with
 |sl b o n e'=>
  simp only;refine SK.idxO λl hl=>SK.idxO λh hh=>SK.test λhb=>?_
  rw[hl,hh];obtain⟨h1,h2⟩:=Nn hb;simp only[h1,h2]
  cases AqO e' e with
  |true=>exact SK.ret _
  |false=>exact SK.fail _
 |ls xs=>
  simp only;refine SK.idxO λl hl=>SK.idxO λh hh=>SK.test λhb=>SK.test λhw=>?_
  rw[hl,hh];obtain⟨h1,h2⟩:=Nn hb;simp only[h1,h2,hw];exact SK.ret _
 |_=>exact SK.fail _
theorem SK.bin(b:BinOp)(x y:AV):SK (AM.opt (Jj A b x y)) (AiV A b x y):=by
 unfold AiV;split
 .rename_i k a k' c
  cases b with
  |shl=>
   simp only;refine SK.brk (λ_=>SK.fail _) λh=>?_
   simp only[Jj,h];exact SK.ret _
  |shr=>
   simp only;refine SK.brk (λ_=>SK.fail _) λh=>?_
   simp only[Jj,h];exact SK.ret _
  |quo=>
   simp only;split
   .rename_i e
    refine SK.brk (λ_=>SK.fail _) λh=>?_
    simp only[Jj,h,if_pos e];exact SK.ret _
   .exact SK.fail _
  |rem=>
   simp only;split
   .rename_i e
    refine SK.brk (λ_=>SK.fail _) λh=>?_
    simp only[Jj,h,if_pos e];exact SK.ret _
   .exact SK.fail _
  |neq=>
   simp only;split
   .rename_i e
    refine SK.brk (λh=>?_) λh=>?_<;>(simp only[Jj,h,if_pos e];exact SK.ret _)
   .exact SK.fail _
  |_=>exact SK.opt _
 .cases b with
  |neq=>
   simp only;refine SK.brk (λh=>?_) λh=>?_<;>(simp only[Jj,h];exact SK.ret _)
  |add=>
   simp only;refine SK.test λh=>?_
   simp only[Jj,h];exact SK.ret _
  |_=>exact SK.opt _
 .exact SK.opt _
theorem SK.sidx(x i:AV):SK (AM.opt (SS A x i)) (AaW A x i):=by
 unfold AaW;split
 .refine SK.idx λj hj=>SK.test λh=>?_
  simp only[SS,hj,h];exact SK.ret _
 .exact SK.fail _
theorem SK.sslice(x:AV)(lo hi:Option AV):SK (AM.opt (JY A x lo hi)) (QJ A x lo hi):=by
 unfold QJ;split
 .refine SK.idxO λl hl=>SK.idxO λh hh=>SK.test λhb=>?_
  obtain⟨h1,h2⟩:=Nn hb;simp only[JY,hl,hh,h1,h2];exact SK.ret _
 .exact SK.fail _
theorem SK.news(e:Nat)(x:AV):SK (newsM e x) (VE e x):=by
 unfold VE newsM
 cases x with
 |sl b o n e'=>
  simp only;split
  .refine SK.bind (SK.gen _) λk=>SK.test λh=>?_
   rw[h]
   cases (k.ex||AA ((k.cells.drop o).take (n*e))) with
   |true=>exact SK.ret _
   |false=>exact SK.fail _
  .exact SK.fail _
 |ls xs=>
  simp only;refine SK.test λh=>?_
  rw[h];exact SK.ret _
 |v z=>
  cases z with
  |slice a n c=>
   cases a with
   |none=>
    cases n with
    |zero=>
     cases c with
     |zero=>exact SK.ret _
     |succ c=>exact SK.fail _
    |succ n=>exact SK.fail _
   |some a=>exact SK.fail _
  |_=>exact SK.fail _
 |_=>exact SK.fail _
theorem SK.appR(e bytes:Nat)(s:AV)(r:Nat × List AV):SK (appR e bytes s r) (U0 e bytes s r):=by
 unfold U0 Go.Proofs.YtpncilciembjdaaGreatDoor.appR;refine SK.brk (λh=>?_) λh=>SK.test λh2=>?_
 .rw[h]
  simp only;split
  .exact SK.ret _
  .exact SK.fail _
 .rw[h,h2]
  simp only;unfold Ahn
  cases s with
  |sl b o n e'=>
   simp only
   cases he:AqO e' e with
   |false=>exact SK.fail _
   |true=>
    simp only;refine SK.test λh3=>?_
    obtain⟨h4,h5⟩:=IU h3;simp only[h4,h5];refine SK.bind (SK.gen _) λk=>?_
    cases k.ex with
    |false=>exact SK.fail _
    |true=>
     cases k.st with
     |true=>
      simp only;refine SK.test λh6=>?_
      cases AqO (o+n*e) k.cells.length with
      |true=>exact SK.bind (SK.gen _) λ_=>SK.bind (SK.gen _) λ_=>SK.ret _
      |false=>
       simp only[h6];exact SK.bind (SK.gen _) λ_=>SK.bind (SK.gen _) λ_=>SK.ret _
     |false=>
      simp only;refine SK.test λh6=>?_
      rw[h6];exact SK.bind (SK.gen _) λ_=>SK.bind (SK.gen _) λ_=>SK.ret _
  |v z=>
   cases z with
   |slice a n c=>
    cases a with
    |none=>
     cases n with
     |zero=>
      cases c with
      |zero=>
       refine SK.test λh3=>?_
       obtain⟨h4,h5⟩:=IU h3;simp only[h4,h5];exact SK.bind (SK.gen _) λ_=>SK.ret _
      |succ c=>exact SK.fail _
     |succ n=>exact SK.fail _
    |some a=>exact SK.fail _
   |_=>exact SK.fail _
  |_=>exact SK.fail _
theorem SK.app(e bytes:Nat)(s x:AV):SK (appM e bytes s x) (Alx e bytes s x):=SK.bind (SK.news e x) λr=>SK.appR e bytes s r
theorem SK.appz(z:List Value)(e bytes:Nat)(s x:AV):SK (appzM z e bytes s x) (Yo z e bytes s x):=by
 unfold Yo appzM Qo;refine SK.idx λm hm=>SK.test λh1=>?_
 rw[hm];dsimp only;rw[h1];exact SK.bind (mK:=KM.ret (m,BQ (z.map .v) (m*e))) (SK.ret _) λr=>SK.appR e bytes s r
theorem SK.mksl(z:List Value)(e b:Nat)(l c:AV):SK (mkslM z e b l c) (Z5 z e b l c):=by
 unfold Z5 mkslM;refine SK.idx λn hn=>SK.idx λm hm=>SK.test λh1=>SK.test λh2=>?_
 obtain⟨h3,h4⟩:=IU h2;simp only[hn,hm,h1,h3,h4];exact SK.bind (SK.gen _) λ_=>SK.ret _
theorem SK.cpy(e:Nat)(d x:AV):SK (cpyM e d x) (Ai5 e d x):=by
 unfold Ai5 cpyM
 cases d with
 |sl b o n e'=>
  simp only
  cases AqO e' e with
  |false=>exact SK.fail _
  |true=>
   simp only;refine SK.bind (SK.news e x) λr=>SK.test λh=>?_
   rw[h];simp only;refine SK.bind (SK.gen _) λk=>?_
   cases k.st with
   |false=>exact SK.fail _
   |true=>
    simp only;refine SK.test λh2=>?_
    rw[h2];exact SK.bind (SK.gen _) λ_=>SK.ret _
 |_=>exact SK.fail _
theorem SK.clr(z:List Value)(e:Nat)(x:AV):SK (clrM z e x) (Ai4 z e x):=by
 unfold Ai4 clrM
 cases x with
 |sl b o n e'=>
  simp only
  cases AqO e' e with
  |false=>exact SK.fail _
  |true=>
   simp only;refine SK.bind (SK.gen _) λk=>?_
   cases k.st with
   |false=>exact SK.fail _
   |true=>
    simp only;refine SK.test λh2=>?_
    rw[h2];exact SK.bind (SK.gen _) λ_=>SK.ret _
 |_=>exact SK.fail _
mutual
theorem SK.frz:∀(n:Nat) (x:AV),SK (frz n x) (RL n x)
 |0,x=>by
  unfold RL Go.Proofs.YtpncilciembjdaaGreatDoor.frz;exact SK.gen _
 |n+1,x=>by
  unfold RL Go.Proofs.YtpncilciembjdaaGreatDoor.frz
  cases x with
  |v z=>exact SK.ret _
  |sl b o m e=>
   simp only;refine SK.bind (SK.gen _) λk=>SK.test λh=>?_
   rw[h];simp only;refine SK.bind ?_ λ_=>?_
   .cases k.st with
    |true=>exact SK.gen _
    |false=>exact SK.ret _
   .cases (k.ex||AA ((k.cells.drop o).take (m*e))) with
    |true=>exact SK.ret _
    |false=>
     simp only;refine SK.bind (SK.frzL n _) λcs=>?_
     cases AA cs with
     |true=>exact SK.ret _
     |false=>exact SK.fail _
  |agg cs=>exact SK.bind (SK.frzL n _) λ_=>SK.ret _
  |tup cs=>exact SK.bind (SK.frzL n _) λ_=>SK.ret _
  |_=>exact SK.ret _
theorem SK.frzL:∀(n:Nat) (l:List AV),SK (frzL n l) (Jt n l)
 |n,[]=>by
  unfold Jt Go.Proofs.YtpncilciembjdaaGreatDoor.frzL;exact SK.ret _
 |0,_::_=>by
  unfold Jt;exact SK.fail _
 |n+1,x::r=>by
  unfold Jt Go.Proofs.YtpncilciembjdaaGreatDoor.frzL;exact SK.bind (SK.frz n x) λ_=>SK.bind (SK.frzL n r) λ_=>SK.ret _
end
theorem SK.frzB(b:Nat):SK (frzB b) (Zm b):=by
 unfold Zm Go.Proofs.YtpncilciembjdaaGreatDoor.frzB;refine SK.bind (SK.gen _) λk=>?_
 cases k.ex<;>cases k.st<;>try exact SK.ret _
 refine SK.bind (SK.frzL _ _) λcs=>SK.bind (SK.gen _) λk2=>?_
 cases k2.ex<;>cases AqO cs.length k2.cells.length<;>first
  |exact SK.gen _
  |exact SK.fail _
theorem SK.frzT:∀(l:List Nat) (T:List AV),SK (frzT l T) (Ju l T)
 |[],T=>SK.ret _
 |t::r,T=>by
  unfold Ju Go.Proofs.YtpncilciembjdaaGreatDoor.frzT
  cases T[t]? with
  |none=>exact SK.frzT r T
  |some x=>
   cases x with
   |ptr b o=>exact SK.bind (SK.frzB b) λ_=>SK.frzT r T
   |_=>exact SK.bind (SK.frz _ _) λ_=>SK.frzT r _
theorem SK.frzA(f:Nat):∀(i:Nat) (l:List AV),SK (frzA own f i l) (OT own f i l)
 |i,[]=>by
  unfold OT Go.Proofs.YtpncilciembjdaaGreatDoor.frzA;exact SK.ret _
 |i,x::r=>by
  unfold OT Go.Proofs.YtpncilciembjdaaGreatDoor.frzA
  cases Aah own f i with
  |true=>exact SK.bind (SK.frzA f (i+1) r) λ_=>SK.ret _
  |false=>exact SK.bind (SK.frz 1000 x) λ_=>SK.bind (SK.frzA f (i+1) r) λ_=>SK.ret _
theorem SK.ask(key:Key)(args:List AV)(bs:List ABlk):SK (AM.opt (D.ask key args bs)) (KM.ask D key args bs):=λH s k r h=>by
 unfold KM.ask AG at h;split at h
 .rename_i q e
  rw[e];exact⟨q,H,⟨[],[]⟩,s,rfl,h⟩
 .cases h
theorem SK.callD(key:Key){e:AV × List BO->KM (AV × List BO)}(he:∀ q,SK (AM.ret q) (e q))(args:List AV):SK (callD (D.ask key) args) (PZ D key e args):=by
 unfold PZ Go.Proofs.YtpncilciembjdaaGreatDoor.callD;refine SK.bind (SK.gen _) λL=>SK.bind (SK.gen _) λbs=>SK.bind ?_ λr=>?_
 .intro H s k r h
  obtain⟨a,H1,f1,s1,h1,h2⟩:=SK.ask key _ _ H s _ r h;obtain⟨b,H2,f2,s2,h3,h4⟩:=he a H1 s1 _ r h2;obtain⟨rfl,rfl⟩:=Ag h3;refine⟨_,_,_,s2,h1,?_⟩;simp only[AM.ret,Ψ,Prod.mk.injEq]at h3;rw[←h3.2.2]at h4;simpa using h4
 .cases MD r.2.length r.1.ids with
  |false=>exact SK.fail _
  |true=>
   cases PT r.2.length r.2 with
   |false=>exact SK.fail _
   |true=>exact SK.bind (SK.gen _) λ_=>SK.bind (SK.gen _) λ_=>SK.bind (SK.gen _) λ_=>SK.ret _
theorem SK.ansF(f:Nat)(q:AV × List BO):SK (AM.ret q) (ansF Hn f q):=by
 unfold Go.Proofs.YtpncilciembjdaaGreatDoor.ansF;split
 .exact SK.look (f:=λx=>AM.ret (x,q.2)) (SK.exp _ _) λx=>SK.look (f:=λo=>AM.ret (x,o)) (SK.expO _ _) λ_=>SK.ret _
 .exact SK.ret _
theorem SK.calls(f:FuncId)(args:List AV):SK (callsM D own f args) (P0 D own Hn f args):=by
 unfold P0 callsM;exact SK.bind (SK.frzA f 0 args) λl=>SK.callD _ (SK.ansF f) l
theorem AbY{k:Nat}{x:AV}(h:Bf k x=true):x=Ys k:=by
 unfold Bf at h;split at h
 .rfl
 .rename_i i j
  have:i=j:=AqG h;rw[this];rfl
 .cases h
theorem SK.ansX:∀(l:List (Nat × (List Sh × List Os))) (x:AV) (ys:List AV) (o:List BO),SK (AM.ret (.tup (x::ys),o)) (ansX l x ys o)
 |[],_,_,_=>SK.fail _
 |(k,s,l)::r,x,ys,o=>by
  unfold Go.Proofs.YtpncilciembjdaaGreatDoor.ansX;refine SK.brk (λh=>?_) λ_=>SK.ansX r x ys o
  have hx:x=Ys k:=AbY h;rw[←hx];exact SK.look (f:=λys=>AM.ret (Aqm (x::ys),o)) (SK.expL _ _) λys=>SK.look (f:=λo=>AM.ret (Aqm (x::ys),o)) (SK.expO _ _) λ_=>SK.ret _
theorem SK.ansL(i:Nat)(q:AV × List BO):SK (AM.ret q) (ansL Hn i q):=by
 unfold Go.Proofs.YtpncilciembjdaaGreatDoor.ansL;split
 .rename_i l _
  intro H s k r h;obtain⟨v,o⟩:=q
  cases v with
  |tup cs=>
   cases cs with
   |nil=>cases h
   |cons x ys=>exact SK.ansX l x ys o H s k r h
  |_=>cases h
 .exact SK.ret _
theorem SK.loops(f i:Nat)(xs:List AV):SK (loopsM D f i xs) (Ul D Hn f i xs):=by
 unfold Ul loopsM;refine SK.bind (SK.callD _ (SK.ansL i) xs) λr=>?_
 cases r with
 |tup vs=>
  cases vs with
  |nil=>exact SK.fail _
  |cons x ys=>
   simp only
   cases Ts x with
   |some ax=>exact SK.ret _
   |none=>exact SK.fail _
 |_=>exact SK.fail _
theorem SK.op(d:Option Nat)(o:MO)(T:List AV):SK (mop A (callsM D own) o T) (opK A D own Hn d o T):=by
 cases o with
 |pick c a b=>
  simp only[opK,mop]
  cases AE T c with
  |v u=>
   cases u with
   |bool t=>
    simp only;refine SK.brk (λh=>?_) λh=>?_<;>(subst h;exact SK.ret _)
   |_=>exact SK.fail _
  |_=>exact SK.fail _
 |ld row n a=>exact SK.load _ _ _ _
 |st n a x=>exact SK.store _ _ _
 |bin ek b x y=>
  cases ek with
  |zero=>exact SK.bin _ _ _
  |succ n=>exact SK.opt _
 |slice e x lo hi=>exact SK.slice _ _ _ _
 |iaddr e x i=>exact SK.iaddr _ _ _ _
 |aaddr n e x i=>exact SK.aaddr _ _ _ _
 |index n e row sz x i=>exact SK.index d _ _ _ _ _ _
 |mksl z e b l c=>exact SK.mksl _ _ _ _ _
 |app e b s x=>exact SK.app _ _ _ _
 |appz z e b s x=>exact SK.appz _ _ _ _ _
 |cpy e d x=>exact SK.cpy _ _ _
 |clr z e x=>exact SK.clr _ _ _
 |sidx x i=>exact SK.sidx _ _
 |sslice x lo hi=>exact SK.sslice _ _ _
 |callF f args=>exact SK.calls _ _
 |callV ents x args=>
  simp only[opK,mop]
  cases AE T x with
  |fn f a cs=>
   cases f with
   |func g=>
    simp only
    cases ents.testBit g with
    |true=>exact SK.calls _ _
    |false=>exact SK.fail _
   |_=>exact SK.fail _
  |_=>exact SK.fail _
 |_=>exact SK.gen _
theorem SK.core(o:MOp)(T:List AV):SK (coreM A (callsM D own) o T) (YE A D own Hn o T):=by
 unfold YE coreM Te
 cases o.g with
 |none=>exact SK.op _ _ _
 |some g=>
  obtain⟨d,want⟩:=g;simp only
  cases e:T[d]? with
  |none=>exact SK.fail _
  |some x=>
   cases x with
   |v u=>
    cases u with
    |bool b=>
     simp only
     cases want with
     |true=>
      refine SK.brk (λh=>?_) λh=>?_<;>subst h
      .exact SK.op _ _ _
      .exact SK.ret _
     |false=>
      simp only;refine SK.brk (λh=>?_) λh=>?_<;>rw[h]
      .exact SK.op _ _ _
      .exact SK.ret _
    |tuple t=>exact SK.ret _
    |_=>exact SK.fail _
   |_=>exact SK.fail _
theorem Acn{e:Bool}{x:AV}{s:Sc}{k:AV->Sc->KR}{r:AV × List BO}(h:gB e x s k=some r):∃ s',k x s'=some r:=by
 unfold gB at h;split at h
 .obtain⟨s',⟨e,h2⟩|⟨e,h2⟩⟩:=Rj h<;>(subst e;exact⟨s',h2⟩)
 .exact⟨s,h⟩
theorem SK.run:∀(l:List MOp) (T:List AV) (H:AH) (s:Sc) (k:List AV->AH->List Foot->Sc->KR) (r:AV × List BO),Agx A D own Hn l T H s k=some r->∃ T' H' fs s',runM A (callsM D own) l T H=some (T',H',fs)/\k T' H' fs s'=some r
 |[],T,H,s,k,r,h=>⟨T,H,[],s,rfl,h⟩
 |o::l,T,H,s,k,r,h=>by
  simp only[Agx]at h;obtain⟨v,H1,f,s1,h1,h2⟩:=SK.core o T H s _ r h;simp only[Zn,T6,Ajk,AlU]at h2;obtain⟨s2,h2⟩:=Acn h2;obtain⟨T',H',fs,s3,h3,h4⟩:=SK.run l _ _ _ _ r h2;refine⟨T',H',f::fs,s3,?_,h4⟩;simp only[runM,h1,h3]
theorem SK.reg(ops:List MOp)(bf:Option (List Nat))(T:List AV):SK (regM A (callsM D own) ops bf T) (AkP A D own Hn ops bf T):=λH s k r h=>by
 unfold AkP at h;obtain⟨T',H',fs,s',h1,h2⟩:=SK.run ops T H s _ r h;unfold regM;rw[h1]
 cases bf with
 |none=>exact⟨_,_,_,s',rfl,h2⟩
 |some bf=>
  simp only at h2 ⊢;split at h2
  .rename_i e
   rw[e];exact⟨_,_,_,s',rfl,h2⟩
  .cases h2
theorem SK.ev(f:Nat):∀(c:MC) (T:List AV),SK (evC A (callsM D own) (loopsM D f) c T) (Yf A D own Hn f c T)
 |.skip,T=>SK.ret _
 |.reg ops bf,T=>SK.reg _ _ _
 |.seq a b,T=>by
  unfold Yf evC;refine SK.bind (SK.ev f a T) λr=>?_
  obtain⟨ax,T1⟩:=r
  cases ax with
  |normal=>exact SK.ev f b _
  |_=>exact SK.ret _
 |.cond c a b,T=>by
  unfold Yf evC
  cases AE T c with
  |v u=>
   cases u with
   |bool t=>
    simp only;refine SK.brk (λh=>?_) λh=>?_<;>subst h
    .exact SK.ev f a T
    .exact SK.ev f b T
   |_=>exact SK.fail _
  |_=>exact SK.fail _
 |.block id c,T=>by
  unfold Yf evC;refine SK.bind (SK.ev f c T) λr=>?_
  obtain⟨ax,T1⟩:=r
  cases ax with
  |exit i=>
   simp only
   by_cases e:i=id
   .rw[if_pos e,if_pos e];exact SK.ret _
   .rw[if_neg e,if_neg e];exact SK.ret _
  |_=>exact SK.ret _
 |.loop i h,T=>by
  unfold Yf evC;refine SK.bind (SK.gen _) λT=>SK.bind (SK.frzT _ _) λT=>?_
  cases AqO T.length h.n with
  |true=>exact SK.bind (SK.loops f i _) λ_=>SK.ret _
  |false=>exact SK.fail _
 |.exit id,T=>SK.ret _
 |.ret,T=>SK.ret _
 |.bad,T=>SK.fail _
theorem SK.res(T:List AV):∀ l,SK (resM T l) (Aay Hn T l)
 |[]=>SK.ret _
 |.tmp _::r=>SK.bind (SK.res T r) λ_=>SK.ret _
 |.cell _ _ _::r=>SK.bind (SK.load _ _ _ _) λ_=>SK.bind (SK.res T r) λ_=>SK.ret _
theorem Ajf{m:List AV->AM AV}{mK:KM AV}{args:List AV}{bs:List ABlk}{r:AV × List BO}(hm:SK (m args) mK)(s:Sc)(h:mK ⟨CK 0 bs,bs.length,none⟩ s (λv H ft _=>MY bs.length v H ft)=some r):Oc (Ef m) args bs=some r:=by
 obtain⟨v,H',ft,s',h1,h2⟩:=hm _ _ _ _ h;unfold Oc Ef;rw[h1];exact h2
theorem Aji{f:Nat}{mf:MFn}{args:List AV}{bs:List ABlk}{r:AV × List BO}(s:Sc)(h:BZ A D own Hn s f mf args bs=some r):Oc (Ef (fnM A D own f mf)) args bs=some r:=by
 unfold BZ at h;refine Ajf ?_ s h;unfold fnM;have fin:∀ T,SK ((resM T mf.res).bind λl=>(match mf.own with
   |true=>AM.ret (Ip l)
   |false=>frz 1000 (Ip l)).bind λv=>match mf.tch with
    |true=>(touchI (DZ args)).bind λ_=>AM.ret v
    |false=>AM.ret v) ((Aay Hn T mf.res).bind λl=>(match mf.own with
   |true=>KM.ret (Ip l)
   |false=>RL 1000 (Ip l)).bind λv=>match mf.tch with
    |true=>(KM.gen (touchI (DZ args))).bind λ_=>KM.ret v
    |false=>KM.ret v):=λT=>by
  refine SK.bind (SK.res _ _) λl=>SK.bind ?_ λv=>?_
  .cases mf.own with
   |true=>exact SK.ret _
   |false=>exact SK.frz _ _
  .cases mf.tch with
   |true=>exact SK.bind (SK.gen _) λ_=>SK.ret _
   |false=>exact SK.ret _
 refine SK.bind (SK.ev f _ _) λr=>?_
 obtain⟨ax,T1⟩:=r
 cases ax with
 |exit i=>exact SK.fail _
 |goto l=>exact SK.fail _
 |normal=>exact fin T1
 |ret=>exact fin T1
theorem L9{α β:Type}{m:AM α}{f:α->AM β}{H H1 H2:AH}{a:α}{b:β}{f1 f2:Foot}(h1:m H=some (a,H1,f1))(h2:f a H1=some (b,H2,f2)):(m.bind f) H=some (b,H2,⟨f1.rd++f2.rd,f1.wr++f2.wr⟩):=by
 unfold AM.bind;simp only[h1,h2]
theorem RW(n b:Nat)(hb:b<n):∀ l,EG b (Aac n l)=EG b l
 |[]=>rfl
 |x::r=>by
  have ih:=RW n b hb r;unfold Aac;split
  .unfold EG
   rw[ih]
  .rename_i h
   rw[ih]
   conv=>rhs;unfold EG
   cases e:AqO b x with
   |false=>rfl
   |true=>
    have e:b=x:=AqG e;subst e;have h1:Arx b n=true:=by rw[Wf];simpa using hb
    cases h2:EG b r with
    |true=>rfl
    |false=>exact absurd h2 (h h1)
theorem RV(b:Nat)(l m:List Nat):EG b (l++m)=(EG b l||EG b m):=by
 simp only[Qa];simp
theorem TY{n:Nat}{r:AV}{H:AH}{f1 f2:Foot}(h:∀ b,b<n->EG b f1.wr=EG b f2.wr):MY n r H f1=MY n r H f2:=by
 have:(DB 0 n).map (Uu H f1.wr)=(DB 0 n).map (Uu H f2.wr):=by
  refine List.map_congr_left λb hb=>?_
  obtain⟨i,hi⟩:=List.getElem?_of_mem hb;rw[IW]at hi;split at hi
  .simp only[Ψ]at hi
   unfold Uu;rw[h b (by omega)]
  .cases hi
 unfold MY;rw[this]
theorem Ago{f i n:Nat}{xs:List AV}{H:AH}{ft:Foot}{r:AV × List BO}(h:AkO D f i xs H ft n=some r):∃ q H' f',loopsM D f i xs H=some (q,H',f')/\MY n (.tup (Yq q.1::q.2)) H' ⟨ft.rd++f'.rd,ft.wr++f'.wr⟩=some r:=by
 unfold AkO at h;split at h
 .rename_i L H1 f1 e1
  split at h
  .rename_i bs H2 f2 e2
   unfold AG at h;split at h
   .rename_i q e3
    obtain⟨v,o⟩:=q;simp only at h;unfold AF at h
    cases c1:MD o.length v.ids<;>cases c2:PT o.length o<;>rw[c1,c2]at h<;>try (cases h;done)
    simp only at h;split at h
    .rename_i x ys H' f' e4
     split at h
     .rename_i ax e5
      have t1:=(Mq _ _ _ _ e1).1;have t2:=(I6 _ e2).1;rw[t1]at e1;rw[t2]at e2;refine⟨(ax,ys),H',_,L9 (L9 e1 (L9 e2 (L9 (a:=(v,o)) (H1:=H) (f1:=⟨[],[]⟩) (by rw[e3];rfl) (b:=.tup (x::ys)) (H2:=H') (f2:=f') ?_))) (b:=(ax,ys)) (H2:=H') (f2:=⟨[],[]⟩) ?_,?_⟩
      .simp only[c1,c2]
       exact e4
      .simp only[e5]
       rfl
      .rw[←h]
       refine TY λb hb=>?_
       simp only[RV,RW n b hb,Aro,Aq0,Bool.or_assoc]
     .cases h
    .cases h
   .cases h
  .cases h
 .cases h
theorem AjF{f i:Nat}{q:LpH}{c:MC}{xs:List AV}{bs:List ABlk}{r:AV × List BO}(s:Sc)(h:Dl A D own Hn s f i q c xs bs=some r):Oc (Ef (lpM A D own f i q c)) xs bs=some r:=by
 have key:∀ v H' ft,lpM A D own f i q c xs ⟨CK 0 bs,bs.length,none⟩=some (v,H',ft)->MY bs.length v H' ft=some r->Oc (Ef (lpM A D own f i q c)) xs bs=some r:=λv H' ft h1 h2=>by
  unfold Oc Ef;rw[h1];exact h2
 unfold Dl at h;obtain⟨⟨ax,T1⟩,H1,f1,s1,h1,h2⟩:=SK.ev f c _ _ s _ r h;have out:∀(ax:AX),((Ju (q.fzo ax) T1).bind λT=>(KM.gen (delT (q.dlo ax) T)).bind λ_=>(KM.gen (touchA (q.nt ax) (B7 (q.out ax) T))).bind λys=>KM.ret (.tup (Yq ax::ys))) H1 s1 (λv H f _=>MY bs.length v H ⟨f1.rd++f.rd,f1.wr++f.wr⟩)=some r->∃ v H' f,((frzT (q.fzo ax) T1).bind λT=>(delT (q.dlo ax) T).bind λ_=>(touchA (q.nt ax) (B7 (q.out ax) T)).bind λys=>AM.ret (.tup (Yq ax::ys))) H1=some (v,H',f)/\MY bs.length v H' ⟨f1.rd++f.rd,f1.wr++f.wr⟩=some r:=λax h=>by
  obtain⟨v,H',f,s2,h3,h4⟩:=(SK.bind (SK.frzT (q.fzo ax) T1) λT=>SK.bind (SK.gen _) λ_=>SK.bind (SK.gen _) λys=>SK.ret (Aqm (Yq ax::ys))) H1 s1 _ r h;exact⟨v,H',f,h3,h4⟩
 cases ax with
 |normal=>
  obtain⟨T2,H2,f2,s2,h5,h6⟩:=SK.frzT q.fz T1 H1 s1 _ r h2;obtain⟨p,H',f',h3,h4⟩:=Ago h6;refine key _ H' _ ?_ h4;unfold lpM;simp only[AM.bind,h1,h5,h3,AM.ret,Aro,List.append_assoc]
 |goto l=>cases h2
 |exit k=>
  obtain⟨v,H',f',h3,h4⟩:=out _ h2;refine key v H' _ ?_ h4;unfold lpM;rw[AM.bind,h1];simp only;rw[h3]
 |ret=>
  obtain⟨v,H',f',h3,h4⟩:=out _ h2;refine key v H' _ ?_ h4;unfold lpM;rw[AM.bind,h1];simp only;rw[h3]
end
section
variable {A:Ar} {M:Seat}
theorem AiR(Hn:Hnt)(s:Sc){f:Nat}{mf:MFn}(he:M.ext f=none)(hf:M.fns f=some mf){args:List AV}{bs:List ABlk}{r:AV × List BO}(h:BZ A (AY A M) M.own Hn s f mf args bs=some r):(AY A M).ask (.fn f) args bs=some r:=AgE he hf (Aji s h)
theorem AiS(Hn:Hnt)(s:Sc){f i:Nat}{mf:MFn}{q:LpH}{c:MC}(hf:M.fns f=some mf)(hl:mf.loops[i]? = some (q,c)){args:List AV}{bs:List ABlk}{r:AV × List BO}(h:Dl A (AY A M) M.own Hn s f i q c args bs=some r):(AY A M).ask (.lp f i) args bs=some r:=AgF hf hl (AjF s h)
end
end
def iv(n:Int):AV:=.v (.int .i64 n)
def bv(b:Bool):AV:=.v (.bool b)
def sv(s:ByteArray):AV:=.v (.string s)
def Cw(l:List UInt8):ByteArray:=⟨l.toArray⟩
def Aad(P:Program)(f:Nat):Bool:=match P.funcs[f]? with
 |some fn=>(match fn.body with
  |some c=>J6 c&&okR P fn.results.toList
  |none=>false)
 |none=>false
def LA(P:Program)(ents:Nat)(hs:Jf)(ownR tch:Bool)(f:Nat):MFn:=match P.funcs[f]? with
 |some fn=>(match fn.body with
  |some c=>⟨fn.ntmps,Ix P fn.results.toList,(Bi P ents hs c 0).1,(Bi P ents hs c 0).2,ownR,tch⟩
  |none=>⟨0,[],.bad,[],false,false⟩)
 |none=>⟨0,[],.bad,[],false,false⟩
theorem Acm{P:Program}{ents:Nat}{hs:Jf}{ownR tch:Bool}{f:Nat}(h:Aad P f=true):FnOk P ents f (LA P ents hs ownR tch f):=by
 unfold Aad at h
 cases e1:P.funcs[f]? with
 |none=>rw[e1]at h;cases h
 |some fn=>
  rw[e1]at h;simp only at h
  cases e2:fn.body with
  |none=>rw[e2]at h;cases h
  |some c=>
   rw[e2]at h;simp only[Aqr]at h;refine⟨fn,c,hs,e1,e2,h.1,h.2,?_⟩;unfold LA;rw[e1];simp only[e2];exact⟨trivial,trivial,trivial,trivial⟩
structure Knows (own:List (Nat × Nat)) (L:List (Nat × MFn)) (D:Orc):Prop where
 fn:∀(Hn:Hnt) (s:Sc) (f:Nat) (mf:MFn) (args:List AV) (bs:List ABlk) (r:AV × List BO),B5 f L=some mf->BZ Ah D own Hn s f mf args bs=some r->D.ask (.fn f) args bs=some r
 lp:∀(Hn:Hnt) (s:Sc) (f i:Nat) (mf:MFn) (q:LpH) (c:MC) (args:List AV) (bs:List ABlk) (r:AV × List BO),B5 f L=some mf->mf.loops[i]? = some (q,c)->Dl Ah D own Hn s f i q c args bs=some r->D.ask (.lp f i) args bs=some r
def AL(mf:MFn)(i:Nat):LpH × MC:=(mf.loops[i]?).getD (⟨0,[],[],[],[]⟩,.bad)
theorem Knows.fn'{own:List (Nat × Nat)}{L:List (Nat × MFn)}{D:Orc}(K:Knows own L D)(Hn:Hnt)(s:Sc){f:Nat}{mf:MFn}{args:List AV}{bs:List ABlk}{r:AV × List BO}(h1:B5 f L=some mf)(h:BZ Ah D own Hn s f mf args bs=some r):D.ask (.fn f) args bs=some r:=K.fn Hn s f mf args bs r h1 h
theorem Aw{own:List (Nat×Nat)}{L:List (Nat×MFn)}{D:Orc}(K:Knows own L D)(Hn:Hnt){s:Sc}{f:Nat}{mf:MFn}{args:List AV}{bs:List ABlk}{r:AV×List BO}{x:KR}(e:BZ Ah D own Hn s f mf args bs=x)(g:x=some r)(h1:B5 f L=some mf:=by rfl):D.ask (.fn f) args bs=some r:=K.fn' Hn s h1 (e.trans g)
theorem Knows.lp'{own:List (Nat × Nat)}{L:List (Nat × MFn)}{D:Orc}(K:Knows own L D)(Hn:Hnt)(s:Sc){f i:Nat}{mf:MFn}{args:List AV}{bs:List ABlk}{r:AV × List BO}(h1:B5 f L=some mf)(h2:(mf.loops[i]?).isSome=true)(h:Dl Ah D own Hn s f i (AL mf i).1 (AL mf i).2 args bs=some r):D.ask (.lp f i) args bs=some r:=by
 obtain⟨⟨q,c⟩,e⟩:=Option.isSome_iff_exists.1 h2;refine K.lp Hn s f i mf q c args bs r h1 e ?_;unfold AL at h;rw[e]at h;exact h
theorem As{own:List (Nat×Nat)}{L:List (Nat×MFn)}{D:Orc}(K:Knows own L D)(Hn:Hnt){s:Sc}{f i:Nat}{mf:MFn}{args:List AV}{bs:List ABlk}{r:AV×List BO}{x:KR}(e:Dl Ah D own Hn s f i (AL mf i).1 (AL mf i).2 args bs=x)(g:x=some r)(h1:B5 f L=some mf:=by rfl)(h2:(mf.loops[i]?).isSome=true:=by kernel_rfl):D.ask (.lp f i) args bs=some r:=K.lp' Hn s h1 h2 (e.trans g)
theorem Fq{α:Type}{f:Nat}{a:α}:∀{L:List (Nat × α)},B5 f L=some a->(f,a)∈L
 |[],h=>by cases h
 |(m,b)::r,h=>by
  unfold B5 at h
  cases e:AqO f m with
  |true=>
   rw[e]at h;simp only[Ψ]at h;have:=AqG e;subst this;subst h;exact List.mem_cons_self
  |false=>
   rw[e]at h;exact List.mem_cons_of_mem _ (Fq h)
def D9(own:List (Nat × Nat))(L:List (Nat × MFn))(X:List (Nat × DF)):Seat:=⟨λf=>B5 f L,own,λf=>B5 f X⟩
def LD(L:List (Nat × MFn))(X:List (Nat × DF)):Bool:=L.all λp=>(B5 p.1 X).isNone
theorem ZO{own:List (Nat × Nat)}{L L':List (Nat × MFn)}{X:List (Nat × DF)}(hs:∀ f mf,B5 f L'=some mf->B5 f L=some mf)(hx:LD L' X=true):Knows own L' (AY Ah (D9 own L X)) where
 fn Hn s f mf args bs r h1 h2:=AiR (M:=D9 own L X) Hn s (by
  have:=List.all_eq_true.1 hx _ (Fq h1);exact Option.isNone_iff_eq_none.1 this) (hs f mf h1) h2
 lp Hn s f i mf q c args bs r h1 h2 h3:=AiS (M:=D9 own L X) Hn s (hs f mf h1) h2 h3
section
variable {μ:Mu} {F:Az} {w w':World}
theorem Da(F:Az)(h:Below w.heap.size w w'):WStep F w w':=
 ⟨h.os,h.tape,h.output,h.size,λg o ho=>⟨o,by
  have hg:g<w.heap.size:=by
   by_cases hg:g<w.heap.size
   .exact hg
   .rw[Array.getElem?_eq_none (by omega)]at ho;cases ho
  exact(h.block g hg).trans ho,ObjStep.refl _ o⟩⟩
def Z7(F:Az)(w w':World):Az:=λg o=>F g o\/(w.heap.size<=g/\g<w'.heap.size)
theorem Lw{H:Nat->Option ABlk}(hH:HRep μ F w H)(h:Below w.heap.size w w'):Later μ μ F (Z7 F w w') w w':=
 ⟨λ_ _ h=>h,λg o hg=>⟨.inl hg,(Da F h).cell hg (hH.prot g o hg)⟩⟩
theorem Ud{H:Nat->Option ABlk}(hH:HRep μ F w H)(h:Below w.heap.size w w'):HRep μ (Z7 F w w') w' H:=by
 have hl:=Lw hH h;have same:∀ g o,g<w.heap.size->w'.cell? ⟨g,o,none⟩=w.cell? ⟨g,o,none⟩:=λg o hg=>h.cell (p:=⟨g,o,none⟩) hg
 have st:=Da (λ_ _=>False) h;refine⟨λb k hb=>?_,hH.apart,λg o hg=>?_⟩
 .obtain⟨p,hp,B⟩:=hH.blk b k hb
  refine⟨p,hp,?_,B.room,?_,λh0 i hi=>.inl (B.kept h0 i hi),?_,B.pure⟩
  .intro i x hx
   obtain⟨u,h1,h2⟩:=B.cell i x hx;exact⟨u,(same _ _ (CL h1)).trans h1,h2.later hl⟩
  .intro i hi
   obtain⟨⟨u,h1⟩,h2⟩:=B.there i hi;exact⟨⟨u,(same _ _ (CL h1)).trans h1⟩,(st.frozen (CL h1)).trans h2⟩
  .rintro i hi (hf|⟨hf,_⟩)
   .exact B.free i hi hf
   .have hr:i<p.room:=by
     rcases hi with⟨h1,_⟩|⟨_,h1,_⟩
     .exact Ard h1 B.room
     .exact h1
    obtain⟨⟨u,h1⟩,_⟩:=B.there i hr;have:=CL h1;omega
 .rcases hg with hg|hg
  .exact Ard (hH.prot g o hg) h.size
  .exact hg.2
end
theorem RO{S:J7}(hm:Ov S)(res:List AV->Option AV)
  (h:∀ args r,res args=some r->∀(μ:Mu) (F:Az) (w:World) (us:List Value),RepList μ F w args us->S us w λu w'=>Below w.heap.size w w'/\Rep μ (Z7 F w w') w' r u) :
  AN S λargs bs=>match bs with
   |[]=>(res args).map λr=>(r,[])
   |_=>none:=by
 intro args bs r out hd
 cases bs with
 |cons=>cases hd
 |nil=>
  obtain⟨r',hr,he⟩:=Option.map_eq_some_iff.1 hd;obtain⟨rfl,rfl⟩:r'=r/\[]=out:=by simpa using he
  refine⟨ω _,0,ω _,λt _ μ F w KL us hKL hus hH hμ=>?_⟩;refine hm _ _ _ _ (h args r' hr μ F w us hus) λu w' ⟨hb,hu⟩=>?_
  refine⟨μ,Z7 F w w',hu,?_,Lw hH hb,Da F hb,λ_ _=>rfl⟩;have:=Ud hH hb;have e:(λb=>if b<t then([]:List ABlk)[b]? else look b KL)=λb=>if b<t then CM [] [] b else look b KL:=by
   funext b
   by_cases hbt:b<t
   .rw[if_pos hbt,if_pos hbt]
    rfl
   .rw[if_neg hbt,if_neg hbt]
  rw[←e];exact this
inductive Ki
 |b
 |i
 |j (kd:IntKind)
 |s
 |l
 |q (bb ee:Nat)
 |t
 |a
 |p (bb oo:Nat)
 |f (g:Nat)
 |c (u:Value)
 |x
 |B
 |I
 |J (kd:IntKind)
 |S
 |L
 |C
 |N
 |X
 |O
 |E
 |Y
 |T
 |R
 |D
 |K
 |A
 |P (bb oo:Nat)
 |Z
 |w
inductive It
 |v (x:AV)
 |l (x:List AV)
 |o (x:List BO)
 |c (x:BO)
abbrev Ct:List Ki->Type
 |[]=>KR
 |.b::r=>Bool->Ct r
 |.i::r=>Int->Ct r
 |.j _::r=>Int->Ct r
 |.s::r=>ByteArray->Ct r
 |.l::r=>List (List AV)->Ct r
 |.q _ _::r=>Nat->Ct r
 |.t::r=>Ct r
 |.a::r=>Ct r
 |.p _ _::r=>Ct r
 |.f _::r=>Ct r
 |.c _::r=>Ct r
 |.x::r=>AV->Ct r
 |.B::r=>Bool->Ct r
 |.I::r=>Int->Ct r
 |.J _::r=>Int->Ct r
 |.S::r=>ByteArray->Ct r
 |.L::r=>List (List AV)->Ct r
 |.C::r=>Ct r
 |.N::r=>Ct r
 |.X::r=>List AV->Ct r
 |.O::r=>Ct r
 |.E::r=>Ct r
 |.Y::r=>List BO->Ct r
 |.T::r=>Ct r
 |.R::r=>Ct r
 |.D::r=>Ct r
 |.K::r=>Ct r
 |.A::r=>Ct r
 |.P _ _::r=>Ct r
 |.Z::r=>BO->Ct r
 |.w::r=>Unit->Ct r
def Yh(s:List It)(k:AV->List It->KR):KR:=match s with
 |.v x::r=>k x r
 |_=>none
def itL(s:List It)(k:List AV->List It->KR):KR:=match s with
 |.l x::r=>k x r
 |_=>none
def itO(s:List It)(k:List BO->List It->KR):KR:=match s with
 |.o x::r=>k x r
 |_=>none
def itC(s:List It)(k:BO->List It->KR):KR:=match s with
 |.c x::r=>k x r
 |_=>none
def dk:(p:List Ki)->List It->Ct p->KR
 |[],_,k=>k
 |.b::r,s,k=>Yh s λx s=>K7 x λn=>dk r s (k n)
 |.i::r,s,k=>Yh s λx s=>IF .i64 x λn=>dk r s (k n)
 |.j kd::r,s,k=>Yh s λx s=>IF kd x λn=>dk r s (k n)
 |.s::r,s,k=>Yh s λx s=>PG x λn=>dk r s (k n)
 |.l::r,s,k=>Yh s λx s=>K9 x λn=>dk r s (k n)
 |.q bb ee::r,s,k=>Yh s λx s=>UW bb ee x λn=>dk r s (k n)
 |.t::r,s,k=>Yh s λx s=>J5 x λy=>dk r (.l y::s) k
 |.a::r,s,k=>Yh s λx s=>LR x λy=>dk r (.l y::s) k
 |.p bb oo::r,s,k=>Yh s λx s=>J4 bb oo x<|dk r s k
 |.f g::r,s,k=>Yh s λx s=>XU g x<|dk r s k
 |.c u::r,s,k=>Yh s λx s=>S9 u x<|dk r s k
 |.x::r,s,k=>Yh s λx s=>dk r s (k x)
 |.B::r,s,k=>itL s λx s=>OH x λn y=>dk r (.l y::s) (k n)
 |.I::r,s,k=>itL s λx s=>MG .i64 x λn y=>dk r (.l y::s) (k n)
 |.J kd::r,s,k=>itL s λx s=>MG kd x λn y=>dk r (.l y::s) (k n)
 |.S::r,s,k=>itL s λx s=>Wh x λn y=>dk r (.l y::s) (k n)
 |.L::r,s,k=>itL s λx s=>cLs x λn y=>dk r (.l y::s) (k n)
 |.C::r,s,k=>itL s λx s=>D8 x λz y=>dk r (.v z::.l y::s) k
 |.N::r,s,k=>itL s λx s=>Ea x<|dk r s k
 |.X::r,s,k=>itL s λx s=>dk r s (k x)
 |.O::r,s,k=>itO s λx s=>Eb x λz y=>dk r (.c z::.o y::s) k
 |.E::r,s,k=>itO s λx s=>CD x<|dk r s k
 |.Y::r,s,k=>itO s λx s=>dk r s (k x)
 |.T::r,s,k=>itO s λx s=>Eb x λc y=>FN true false c λz=>dk r (.l z::.o y::s) k
 |.R::r,s,k=>itO s λx s=>Eb x λc y=>FN true true c λz=>dk r (.l z::.o y::s) k
 |.D::r,s,k=>itO s λx s=>Eb x λc y=>PF c<|dk r (.o y::s) k
 |.K::r,s,k=>itO s λx s=>Eb x λc y=>K8 c<|dk r (.o y::s) k
 |.A::r,s,k=>itL s λx s=>D8 x λc y=>LR c λz=>dk r (.l z::.l y::s) k
 |.P bb oo::r,s,k=>itL s λx s=>D8 x λc y=>J4 bb oo c<|dk r (.l y::s) k
 |.Z::r,s,k=>itC s λx s=>dk r s (k x)
 |.w::r,s,k=>dk r s (k ())
abbrev bk(cs:List AV):ABlk:=⟨cs,true,false⟩
abbrev Rw:=List (List AV)
abbrev Ad(D:Orc)(key:Key)(args:List AV)(bs:List ABlk)(p:List Ki)(k:Ct p):KR:=AG D key args bs λr o=>dk p [.v r,.o o] k
theorem DK:(∀(s:List It) (k:Ct []),dk [] s k=k)/\(∀(r:List Ki) (x:AV) (s:List It) (k:Ct (.b::r)),dk (.b::r) (.v x::s) k=K7 x λn=>dk r s (k n))/\(∀(r:List Ki) (x:AV) (s:List It) (k:Ct (.i::r)),dk (.i::r) (.v x::s) k=IF .i64 x λn=>dk r s (k n))/\(∀(kd:IntKind) (r:List Ki) (x:AV) (s:List It) (k:Ct (.j kd::r)),dk (.j kd::r) (.v x::s) k=IF kd x λn=>dk r s (k n))/\(∀(r:List Ki) (x:AV) (s:List It) (k:Ct (.s::r)),dk (.s::r) (.v x::s) k=PG x λn=>dk r s (k n))/\(∀(r:List Ki) (x:AV) (s:List It) (k:Ct (.l::r)),dk (.l::r) (.v x::s) k=K9 x λn=>dk r s (k n))/\(∀(bb ee:Nat) (r:List Ki) (x:AV) (s:List It) (k:Ct (.q bb ee::r)),dk (.q bb ee::r) (.v x::s) k=UW bb ee x λn=>dk r s (k n))/\(∀(r:List Ki) (x:AV) (s:List It) (k:Ct (.t::r)),dk (.t::r) (.v x::s) k=J5 x λy=>dk r (.l y::s) k)/\(∀(r:List Ki) (x:AV) (s:List It) (k:Ct (.a::r)),dk (.a::r) (.v x::s) k=LR x λy=>dk r (.l y::s) k)/\(∀(bb oo:Nat) (r:List Ki) (x:AV) (s:List It) (k:Ct (.p bb oo::r)),dk (.p bb oo::r) (.v x::s) k=J4 bb oo x (dk r s k))/\(∀(g:Nat) (r:List Ki) (x:AV) (s:List It) (k:Ct (.f g::r)),dk (.f g::r) (.v x::s) k=XU g x (dk r s k))/\(∀(u:Value) (r:List Ki) (x:AV) (s:List It) (k:Ct (.c u::r)),dk (.c u::r) (.v x::s) k=S9 u x (dk r s k))/\(∀(r:List Ki) (x:AV) (s:List It) (k:Ct (.x::r)),dk (.x::r) (.v x::s) k=dk r s (k x))/\(∀(r:List Ki) (x:List AV) (s:List It) (k:Ct (.B::r)),dk (.B::r) (.l x::s) k=OH x λn y=>dk r (.l y::s) (k n))/\(∀(r:List Ki) (x:List AV) (s:List It) (k:Ct (.I::r)),dk (.I::r) (.l x::s) k=MG .i64 x λn y=>dk r (.l y::s) (k n))/\(∀(kd:IntKind) (r:List Ki) (x:List AV) (s:List It) (k:Ct (.J kd::r)),dk (.J kd::r) (.l x::s) k=MG kd x λn y=>dk r (.l y::s) (k n))/\(∀(r:List Ki) (x:List AV) (s:List It) (k:Ct (.S::r)),dk (.S::r) (.l x::s) k=Wh x λn y=>dk r (.l y::s) (k n))/\(∀(r:List Ki) (x:List AV) (s:List It) (k:Ct (.L::r)),dk (.L::r) (.l x::s) k=cLs x λn y=>dk r (.l y::s) (k n))/\(∀(r:List Ki) (x:List AV) (s:List It) (k:Ct (.C::r)),dk (.C::r) (.l x::s) k=D8 x λz y=>dk r (.v z::.l y::s) k)/\(∀(r:List Ki) (x:List AV) (s:List It) (k:Ct (.N::r)),dk (.N::r) (.l x::s) k=Ea x (dk r s k))/\(∀(r:List Ki) (x:List AV) (s:List It) (k:Ct (.X::r)),dk (.X::r) (.l x::s) k=dk r s (k x))/\(∀(r:List Ki) (x:List BO) (s:List It) (k:Ct (.O::r)),dk (.O::r) (.o x::s) k=Eb x λz y=>dk r (.c z::.o y::s) k)/\(∀(r:List Ki) (x:List BO) (s:List It) (k:Ct (.E::r)),dk (.E::r) (.o x::s) k=CD x (dk r s k))/\(∀(r:List Ki) (x:List BO) (s:List It) (k:Ct (.Y::r)),dk (.Y::r) (.o x::s) k=dk r s (k x))/\(∀(r:List Ki) (x:List BO) (s:List It) (k:Ct (.T::r)),dk (.T::r) (.o x::s) k=Eb x λc y=>FN true false c λz=>dk r (.l z::.o y::s) k)/\(∀(r:List Ki) (x:List BO) (s:List It) (k:Ct (.R::r)),dk (.R::r) (.o x::s) k=Eb x λc y=>FN true true c λz=>dk r (.l z::.o y::s) k)/\(∀(r:List Ki) (x:List BO) (s:List It) (k:Ct (.D::r)),dk (.D::r) (.o x::s) k=Eb x λc y=>PF c<|dk r (.o y::s) k)/\(∀(r:List Ki) (x:List BO) (s:List It) (k:Ct (.K::r)),dk (.K::r) (.o x::s) k=Eb x λc y=>K8 c<|dk r (.o y::s) k)/\(∀(r:List Ki) (x:List AV) (s:List It) (k:Ct (.A::r)),dk (.A::r) (.l x::s) k=D8 x λc y=>LR c λz=>dk r (.l z::.l y::s) k)/\(∀(bb oo:Nat) (r:List Ki) (x:List AV) (s:List It) (k:Ct (.P bb oo::r)),dk (.P bb oo::r) (.l x::s) k=D8 x λc y=>J4 bb oo c<|dk r (.l y::s) k)/\(∀(r:List Ki) (x:BO) (s:List It) (k:Ct (.Z::r)),dk (.Z::r) (.c x::s) k=dk r s (k x))/\(∀(r:List Ki) (s:List It) (k:Ct (.w::r)),dk (.w::r) s k=dk r s (k ())):=by
 and_intros<;>intros<;>rfl
section
variable {D:Orc}
theorem Rk(x y:KR):br true x y=x:=Eq.trans (b:=x) rfl (Eq.refl x)
theorem Ac{x y z:KR}(g:x=z):br true x y=z:=(Rk x y).trans g
theorem Ab1(x y:KR):br false x y=y:=Eq.trans (b:=y) rfl (Eq.refl y)
theorem D6{x y z:KR}(g:y=z):br false x y=z:=(Ab1 x y).trans g
theorem Av(n:Nat)(k:Nat->KR):unI (n:Int) k=k n:=rfl
theorem Aab{α:Type}(f:α->List AV)(xs:List α)(i:Nat)(k:List AV->KR):Bh (xs.map f) i k=match xs[i]? with
  |some x=>k (f x)
  |none=>none:=by
 unfold Bh;rw[Qr,List.getElem?_map]
 cases xs[i]?<;>rfl
theorem At{α:Type}{f:α->List AV}{xs:List α}{i:Nat}{x:α}(h:xs[i]? = some x)(k:List AV->KR):Bh (xs.map f) i k=k (f x):=by
 rw[Aab,h]
theorem Ai{α:Type}(f:α->List AV)(xs:List α):AP (xs.map f)=xs.length:=by rw[Gb,List.length_map]
theorem Dm{key:Key}{args:List AV}{bs:List ABlk}{r:AV}{o:List BO}(h:D.ask key args bs=some (r,o))(k:AV->List BO->KR):AG D key args bs k=k r o:=by
 unfold AG;rw[h]
theorem Aa{D:Orc}{key:Key}{args:List AV}{bs:List ABlk}{r:AV}{o:List BO}{z:KR}{k:AV->List BO->KR}(h:D.ask key args bs=some (r,o))(g:k r o=z):AG D key args bs k=z:=(Dm h k).trans g
theorem Abs(n:Int)(k:Int->KR):IF .i64 (iv n) k=k n:=rfl
theorem XR(n:Bool)(k:Bool->KR):K7 (bv n) k=k n:=rfl
theorem Abt(n:ByteArray)(k:ByteArray->KR):PG (sv n) k=k n:=rfl
theorem AgO(n:List (List AV))(k:List (List AV)->KR):K9 (.ls n) k=k n:=rfl
theorem XQ(n:List AV)(k:List AV->KR):LR (.agg n) k=k n:=rfl
theorem XY(n:List AV)(k:List AV->KR):J5 (.tup n) k=k n:=rfl
theorem Ab3(n:Int)(r:List AV)(k:Int->List AV->KR):MG .i64 (iv n::r) k=k n r:=rfl
theorem Yw(n:Bool)(r:List AV)(k:Bool->List AV->KR):OH (bv n::r) k=k n r:=rfl
theorem Ab4(n:ByteArray)(r:List AV)(k:ByteArray->List AV->KR):Wh (sv n::r) k=k n r:=rfl
theorem AiW(n:List (List AV))(r:List AV)(k:List (List AV)->List AV->KR):cLs (.ls n::r) k=k n r:=rfl
theorem XV(k:KR):Ea [] k=k:=rfl
theorem S8(c:AV)(r:List AV)(k:AV->List AV->KR):D8 (c::r) k=k c r:=rfl
theorem XT(k:KR):CD [] k=k:=rfl
theorem UV(c:BO)(r:List BO)(k:BO->List BO->KR):Eb (c::r) k=k c r:=rfl
theorem Ta(k:KR):K8 .keep k=k:=rfl
theorem XS(k:KR):PF .del k=k:=rfl
theorem XX(st ex:Bool)(cs:List AV)(k:List AV->KR):FN st ex (.set ⟨cs,st,ex⟩) k=k cs:=by
 unfold FN;exact if_pos ⟨rfl,rfl⟩
theorem Ab(f:Nat)(k:KR):XU f (.fn (.func f) [] []) k=k:=by simp[XU]
theorem XW(b o:Nat)(k:KR):J4 b o (.ptr b o) k=k:=by simp[J4]
theorem AgP(b e n:Nat)(k:Nat->KR):UW b e (.sl b 0 n e) k=k n:=by simp[UW]
theorem Anv:Bf 0 (bv true)=true:=rfl
theorem Anu(n:Int):Bf 0 (iv n)=false:=rfl
theorem Ans:Bf 1 (iv 0)=true:=rfl
theorem Ant:Bf 3 (iv 2)=true:=rfl
theorem ND:(∀(n:Int) (k:Int->KR),IF .i64 (iv n) k=k n)/\(∀(n:Bool) (k:Bool->KR),K7 (bv n) k=k n)/\(∀(n:ByteArray) (k:ByteArray->KR),PG (sv n) k=k n)/\(∀(n:List (List AV)) (k:List (List AV)->KR),K9 (.ls n) k=k n)/\(∀(n:List AV) (k:List AV->KR),LR (.agg n) k=k n)/\(∀(n:List AV) (k:List AV->KR),J5 (.tup n) k=k n)/\(∀(n:Int) (r:List AV) (k:Int->List AV->KR),MG .i64 (iv n::r) k=k n r)/\(∀(n:Bool) (r:List AV) (k:Bool->List AV->KR),OH (bv n::r) k=k n r)/\(∀(n:ByteArray) (r:List AV) (k:ByteArray->List AV->KR),Wh (sv n::r) k=k n r)/\(∀(n:List (List AV)) (r:List AV) (k:List (List AV)->List AV->KR),cLs (.ls n::r) k=k n r)/\(∀(k:KR),Ea [] k=k)/\(∀(c:AV) (r:List AV) (k:AV->List AV->KR),D8 (c::r) k=k c r)/\(∀(k:KR),CD [] k=k)/\(∀(c:BO) (r:List BO) (k:BO->List BO->KR),Eb (c::r) k=k c r)/\(∀(st ex:Bool) (cs:List AV) (k:List AV->KR),FN st ex (.set ⟨cs,st,ex⟩) k=k cs)/\(∀(k:KR),PF .del k=k)/\(∀(k:KR),K8 .keep k=k)/\(∀(b o:Nat) (k:KR),J4 b o (.ptr b o) k=k)/\(∀(b e n:Nat) (k:Nat->KR),UW b e (.sl b 0 n e) k=k n)/\(Bf 0 (bv true)=true)/\(∀(n:Int),Bf 0 (iv n)=false)/\(Bf 1 (iv 0)=true)/\(∀(x y:KR),br true x y=x)/\(∀(x y:KR),br false x y=y):=⟨Abs,XR,Abt,AgO,XQ,XY,Ab3,Yw,Ab4,AiW,XV,S8,XT,UV,XX,XS,Ta,XW,AgP,Anv,Anu,Ans,Rk,Ab1⟩
end
instance:LawfulBEq ByteArray where
 eq_of_beq {a b} h:=by
  obtain⟨a⟩:=a;obtain⟨b⟩:=b;rw[HE]at h;simpa using h
 rfl {a}:=by
  rw[HE];simp
section
theorem AmU(a b:Int):Ah.lt a b=decide (a<b):=rfl
theorem AmT(a b:Int):Ah.le a b=decide (a<=b):=rfl
theorem AmS(a b:Int):Ah.eq a b=decide (a=b):=by
 show (a == b)=decide (a=b)
 rfl
theorem AmW(a b:ByteArray):Ah.seq a b=decide (a=b):=by
 show (a.toList == b.toList)=_
 rw[Rm,HE];obtain⟨a⟩:=a;obtain⟨b⟩:=b
 by_cases h:a=b
 .subst h;simp
 .simp[h]
theorem Aan(b:Bool):Ah.not b = !b:=rfl
theorem VM(a b:Bool):Ah.beq a b=(a == b):=rfl
theorem AmV(a b:Int):Ah.min a b=min a b:=by
 show (if b<a then b else a)=_
 omega
theorem Gy{a b:Int}(h1:-9223372036854775808<=a+b)(h2:a+b<9223372036854775808):Ah.add .i64 a b=a+b:=by
 show IntKind.i64.wrap (a+b)=a+b
 rw[IntKind.wrap_i64];omega
theorem FH{a b:Int}(h1:-9223372036854775808<=a-b)(h2:a-b<9223372036854775808):Ah.sub .i64 a b=a-b:=by
 show IntKind.i64.wrap (a-b)=a-b
 rw[IntKind.wrap_i64];omega
theorem BB{i:Nat}(h:i<4611686018427387904):Ah.add .i64 (i:Int) 1=((i+1:Nat):Int):=by
 rw[Gy (by omega) (by omega)];rfl
end
section
variable {α:Type}
def Ao(e:α->List AV)(l:List α):List AV:=l.flatMap e
theorem Bj(e:α->List AV)(l:List α)(x:α):Ao e l++e x=Ao e (l++[x]):=by simp[Ao]
theorem Bn{e:α->List AV}{w:Nat}(he:∀ x,(e x).length=w):∀ l:List α,(Ao e l).length=l.length*w
 |[]=>by simp[Ao]
 |x::r=>by
  have:=Bn he r;unfold Ao at this ⊢;rw[List.flatMap_cons,List.length_append,this,he,ε,Nat.add_mul,Nat.one_mul,Nat.add_comm]
theorem Bm{e:α->List AV}{w:Nat}(he:∀ x,(e x).length=w)(l:List α){n:Nat}(hn:n=l.length*w):(Ao e l).take n=Ao e l:=by
 rw[ArO];rw[Bn he,hn];exact ω _
theorem Dg{e:α->List AV}{w:Nat}(he:∀ x,(e x).length=w):∀ l:List α,Bl l.length w (Ao e l)=l.map e
 |[]=>rfl
 |x::r=>by
  have ih:=Dg he r;simp only[ε,Bl,List.map_cons];have h1:Ao e (x::r)=e x++Ao e r:=by simp[Ao]
  have h2:(e x).length=w:=he x;rw[h1,List.take_append_of_le_length (by omega),ArO (by omega),List.drop_append_of_le_length (by omega),List.drop_of_length_le (by omega),Aq0,ih]
theorem Cg{e:α->List AV}{w:Nat}(he:∀ x,(e x).length=w)(l:List α){n:Nat}(hn:n=l.length):Bl n w ((Ao e l).take (n*w))=l.map e:=by
 rw[Bm he l (by rw[hn]),hn,Dg he]
theorem AU{e:α->List AV}{w:Nat}(he:∀ x,(e x).length=w)(l:List α){n:Nat}(hn:n=l.length*w):Aqv n (Ao e l).length=true:=by
 rw[Bn he,hn];simp
theorem JJ{e:α->List AV}(he:∀ x,I4 (e x)=true):∀ l:List α,I4 (Ao e l)=true
 |[]=>rfl
 |x::r=>by
  have ih:=JJ he r;have h1:Ao e (x::r)=e x++Ao e r:=by simp[Ao]
  rw[h1];rw[EX]at ih ⊢;rw[List.all_append,ih,Bool.and_true,←EX];exact he x
theorem Es(e:α->List AV)(l:List α):Il (l.map e)=Ao e l:=by
 rw[Jn];rfl
theorem FR{e:α->List AV}{w:Nat}(he:∀ x,(e x).length=w)(l:List α):E4 w (l.map e)=true:=by
 rw[Hw];simp[he]
theorem AS{n b:Nat}(hn:n<=1099511627776)(hb:b<=128):Bc n b=true:=by
 unfold Bc;have:n*b<=1099511627776*128:=Nat.mul_le_mul hn hb;have h1:Aqv (n*b) 140737488355328=true:=by simp;omega
 rw[h1];simp[maxLen];omega
end
end Go.Proofs.YtpncilciembjdaaGreatDoor
