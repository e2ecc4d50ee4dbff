/- How long what is handed -/
import Derived.Test.YtpncilciembjdaaGreatDoorEBU
import Derived.Test.YtpncilciembjdaaGreatDoorEBW
import Derived.Deep.DeepHandedRow
import Derived.LaidLaws
import Derived.Test.YtpncilciembjdaaGreatDoorTie
import Derived.Test.YtpncilciembjdaaGreatDoorEBS
import Derived.Test.YtpncilciembjdaaGreatDoorEBT
import Derived.Test.YtpncilciembjdaaGreatDoorCards
import Derived.ProofKit
import Derived.SevenTiedAt
set_option linter.all false
open Bool renaming false->Φ,true->Δ,and_eq_true->ArX
open List renaming all_eq_true->Ar3,map_cons->Ar7,mem_cons->ArR,mem_cons_of_mem->γ,mem_cons_self->υ
open Option renaming none->Ξ
namespace Go.Proofs.YtpncilciembjdaaGreatDoor
open Go.Proofs.Tryz renaming prog->ArP
open Go.ChangeShapes Go.WideShapes Go.ChangeAt Go.RowKit
theorem Adn{n b:Nat}(hb:2<=b)(h:n*b<=reachBytes):n<4611686018427387904:=by
 have h1:n*2<=n*b:=Nat.mul_le_mul_left n hb;have h2:reachBytes<9223372036854775808:=by decide +kernel
 omega
theorem AcD{y:D}(h:D.Typed ArP y 24):∃ l:List Nat,y.av=[eN l]/\Limbs l:=by
 obtain⟨xs,rfl,hx⟩:=h.slice_ Tryz.underlying24;have:∀ xs:List D,(∀ y∈xs,D.Typed ArP y 134)->∃ l:List Nat,xs.map D.av=l.map eL/\Limbs l:=λxs=>by
  induction xs with
  |nil=>intro _;exact⟨[],rfl,BG⟩
  |cons x r ih=>
   intro hh;obtain⟨l,e1,e2⟩:=ih λy hy=>hh y (γ _ hy)
   obtain⟨n,rfl,hw⟩:=(hh x (υ ..)).int_ Tryz.underlying134;have hw:0<=n/\n<4294967296:=by
    simp only[Lit.wf,ArX,decide_eq_true_eq]at hw;have h1:IntKind.u32.min=0:=by decide
    have h2:IntKind.u32.max=4294967295:=by decide
    omega
   obtain⟨m,rfl⟩:=Int.eq_ofNat_of_zero_le hw.1;exact⟨m::l,by rw[Ar7,Ar7,e1];rfl,Bc (by omega) e2⟩
 obtain⟨l,e1,e2⟩:=this xs hx;exact⟨l,by rw[D.av,GI,e1];rfl,e2⟩
theorem Akh{y:D}(h:D.Typed ArP y 26):∃ z:Zi,y.av=eZ z/\Limbs z.abs:=by
 obtain⟨xs,rfl,g0⟩:=h.struct_ Tryz.underlying26;obtain⟨x0,r0,rfl,h0,g1⟩:=D.TypedFields.cons_ g0;obtain⟨x1,r1,rfl,h1,g2⟩:=D.TypedFields.cons_ g1;obtain rfl:=D.TypedFields.nil_ g2;obtain⟨b,rfl⟩:=h0.bool_ Tryz.underlying4;obtain⟨l,e1,e2⟩:=AcD h1;refine⟨⟨b,l⟩,?_,e2⟩
 show D.av (.agg [.bool b,x1])=_
 simp only[D.av,Hw,e1];rfl
theorem AoB{y:D}(h:D.Typed ArP y 84):∃ p:Pt,y.av=eP p/\Limbs p.z.abs:=by
 obtain⟨xs,rfl,g0⟩:=h.struct_ Tryz.underlying84;obtain⟨x0,r0,rfl,h0,g1⟩:=D.TypedFields.cons_ g0;obtain⟨x1,r1,rfl,h1,g2⟩:=D.TypedFields.cons_ g1;obtain rfl:=D.TypedFields.nil_ g2;obtain⟨n,rfl,_⟩:=h0.int_ Tryz.underlying3;obtain⟨z,e1,e2⟩:=Akh h1;refine⟨⟨n,z⟩,?_,e2⟩
 show D.av (.agg [.int .i64 n,x1])=_
 simp only[D.av,Hw,e1];rfl
theorem AlO{y:D}(h:D.Typed ArP y 22):∃ ps:List Pt,y.av=[.ls (ps.map eP)]/\∀ p∈ps,Limbs p.z.abs:=by
 obtain⟨xs,rfl,hx⟩:=h.slice_ Tryz.underlying22;have:∀ xs:List D,(∀ y∈xs,D.Typed ArP y 84)->∃ ps:List Pt,xs.map D.av=ps.map eP/\∀ p∈ps,Limbs p.z.abs:=λxs=>by
  induction xs with
  |nil=>intro _;exact⟨[],rfl,by simp⟩
  |cons x r ih=>
   intro hh;obtain⟨ps,e1,e2⟩:=ih λy hy=>hh y (γ _ hy)
   obtain⟨p,k1,k2⟩:=AoB (hh x (υ ..));refine⟨p::ps,by rw[Ar7,Ar7,e1,k1],λu hu=>?_⟩;rcases ArR.1 hu with rfl|hu
   .exact k2
   .exact e2 u hu
 obtain⟨ps,e1,e2⟩:=this xs hx;exact⟨ps,by rw[D.av,GI,e1],e2⟩
theorem AoW{y:D}(h:D.Typed ArP y 28):∃ t:Tm,y.av=eT t/\LmT t:=by
 obtain⟨xs,rfl,g0⟩:=h.struct_ Tryz.underlying28;obtain⟨x0,r0,rfl,h0,g1⟩:=D.TypedFields.cons_ g0;obtain⟨x1,r1,rfl,h1,g2⟩:=D.TypedFields.cons_ g1;obtain rfl:=D.TypedFields.nil_ g2;obtain⟨ps,e1,e2⟩:=AlO h0;obtain⟨z,e3,e4⟩:=Akh h1;refine⟨⟨ps,z⟩,?_,⟨e2,e4⟩⟩
 show D.av (.agg [x0,x1])=_
 simp only[D.av,Hw,e1,e3];rfl
theorem AoK{y:D}(h:D.Typed ArP y 30):∃(t:Tm) (e:Bool),y.av=CP (t,e)/\LmT t:=by
 obtain⟨xs,rfl,g0⟩:=h.struct_ Tryz.underlying30;obtain⟨x0,r0,rfl,h0,g1⟩:=D.TypedFields.cons_ g0;obtain⟨x1,r1,rfl,h1,g2⟩:=D.TypedFields.cons_ g1;obtain rfl:=D.TypedFields.nil_ g2;obtain⟨t,e1,e2⟩:=AoW h0;obtain⟨b,rfl⟩:=h1.bool_ Tryz.underlying4;refine⟨t,b,?_,e2⟩
 show D.av (.agg [x0,.bool b])=_
 simp only[D.av,Hw,e1];rfl
theorem AlX{y:D}(h:D.Typed ArP y 33)(hf:D.Fits ArP y 33):∃ zs:List (Tm × Bool),y.av=[.ls (zs.map CP)]/\zs.length<4611686018427387904/\∀ r∈zs,LmT r.1:=by
 obtain⟨xs,rfl,hx⟩:=h.slice_ Tryz.underlying33;obtain⟨h1,h2⟩:=hf.slice_ Tryz.underlying33;have hl:=Adn (Nat.le_of_ble_eq_true (by kernel_rfl)) h1;have:∀ xs:List D,(∀ y∈xs,D.Typed ArP y 30)->∃ zs:List (Tm × Bool),xs.map D.av=zs.map CP/\zs.length=xs.length/\∀ z∈zs,LmT z.1:=λxs=>by
  induction xs with
  |nil=>intro _;exact⟨[],rfl,rfl,by simp⟩
  |cons x r ih=>
   intro hh;obtain⟨zs,e1,e2,e3⟩:=ih λy hy=>hh y (γ _ hy)
   obtain⟨t,e,k1,k2⟩:=AoK (hh x (υ ..));refine⟨(t,e)::zs,by rw[Ar7,Ar7,e1,k1],by simp[e2],λu hu=>?_⟩;rcases ArR.1 hu with rfl|hu
   .exact k2
   .exact e3 u hu
 obtain⟨zs,e1,e2,e3⟩:=this xs hx;exact⟨zs,by rw[D.av,GI,e1],by omega,e3⟩
theorem Ak1{y:D}(h:D.Typed ArP y 3):∃ z:Int,y.av=[iv z]/\(-9223372036854775808<=z/\z<9223372036854775808):=by
 obtain⟨n,rfl,hw⟩:=h.int_ Tryz.underlying3;refine⟨n,rfl,?_⟩;simp only[Lit.wf,ArX,decide_eq_true_eq]at hw;have h1:IntKind.i64.min=-9223372036854775808:=by decide
 have h2:IntKind.i64.max=9223372036854775807:=by decide
 omega
theorem Acs{H:Type}{enc:TypeId × Value->H}{C:Checked}{os:Go.Os}{f:FuncId}{fn:Func}{s:ChangeSpec}{F:Stop.Interp}(laid:List (String × DataW Unit))(n:Nat)(L:List TypeId)(tb:TypeId)
  (own:ownKnob C.prog.godebug=Ξ) (started:os.Started) (noInit:C.prog.inits.idxOf? f=Ξ) (hfn:C.prog.funcs[f]? = some fn)
  (witness:∃(w:World) (tape:Tape) (i:Input),w.os=os/\(w.forCall tape i).Shaped C.prog/\i.vars=[]/\Input.okWide C.prog (w.forCall tape i) .any w.heap.size f i ∧
   (OpenSpec.ofChange s).preRow enc C.prog fn [] Φ laid (w.forCall tape i).memory i.args/\({}:Assume).holds C.prog (lone (Frame.enter C.prog f i.args .normal) [] (w.forCall tape i)))
  (hL:L.all (OW C.prog L)=Δ) (hn:fn.params.toList.length=n) (hin:(fn.params.toList.all λt=>L.contains t&&C.prog.readableRec t&&decide (t<C.prog.types.size))=Δ)
  (laidO:laidOutB C.prog=Δ) (hres:fn.resultTypes=#[tb]) (htb:C.prog.underlying tb=some .bool)
  (hvars:s.vars=[]) (hspec:∀ ds:List (DataW H),ds.length=n->s.fn H ds={ results:=[.lit (.bool Δ)],args:=ds })
  (contract:∀(W:World) (args:Array Value) (xs:List D),Je W C.prog fn.params.toList args.toList xs->Calls C.prog f args W λe W'=>e=.returned (.bool Δ)/\Below W.heap.size W W') :
  ReturnsInHanded {} C os f .any ((OpenSpec.ofChange s).preRow enc C.prog fn [] Φ laid) (((OpenSpec.ofChange s).at F).post enc C.prog fn Φ Δ Φ Φ):=by
 refine returnsInHanded_of_row own started noInit hfn witness ?_;intro W base args ds gs before hval hW _ _ hsz _ _ _;have hW':DataW.Whole enc C.prog fn.params.toList s.vars Φ W args.toList ds gs before:=hW;have hvars':s.plain.varTypes C.prog=[]:=by unfold DataSpec.varTypes ChangeSpec.plain;simp[hvars]
 have hsz':(DataW.weightsEach C.prog (fn.params.toList++s.plain.varTypes C.prog) (ds++gs)).all (· ≤ reachBytes)=Δ:=hsz;obtain⟨p,q,hA,hV,rfl,hfz,hnd⟩:=hW;have hV':DataW.TrodVars enc C.prog W _ s.vars gs q:=hV;rw[hvars]at hV';have hg:gs=[]/\q=[]:=by
  cases gs with
  |nil=>exact⟨rfl,hV'⟩
  |cons _ _=>exact hV'.elim
 obtain⟨rfl,rfl⟩:=hg;have hlt:∀ x∈p++[],x.block<W.heap.size:=λx hx=>hW'.lt x hx
 have hlen:ds.length=n:=(MH _ _ _ _ hA).trans hn;have hall:∀ t∈fn.params.toList,t∈L/\C.prog.readableRec t=Δ/\t<C.prog.types.size:=λt ht=>by
  have:=Ar3.1 hin t ht;simpa[and_assoc]using this
 obtain⟨xs,hxs⟩:=W1 hL fn.params.toList args.toList ds p (λt ht=>(hall t ht).1) (λj t v h1 h2=>hval j t v (by simpa using h1) (by simpa using h2)) hA (λk hk=>by
  have:=Ar3.1 hsz' k;rw[hvars']at this;simpa using this (by simpa using hk))
 refine(contract W args xs hxs).mono λe W' ⟨he,hb⟩=>⟨_,he,?_⟩
 have hsp:s.fn H (ds++[])={ results:=[.lit (.bool Δ)],args:=ds }:=by rw[List.append_nil];exact hspec ds hlen
 show s.post enc C.prog fn Φ Δ Φ Φ W args _ W'
 refine⟨ds,[],p++[],[],p,[],hW',?_,?_,?_,hb.frame _,λh=>by cases h⟩
 .rw[hsp,hres]
  exact trodAll_mk1 (shut_bool htb Δ)
 .rw[hsp]
  have:=Jc (P:=C.prog) laidO hb fn.params.toList args.toList ds p (λt ht=>(hall t ht).2) (λx hx=>hlt x (by simp[hx])) hA;exact this
 .rw[hvars]
  exact(show DataW.TrodVars enc C.prog W' _ [] (s.fn H (ds++[])).vars [] from by rw[hsp];exact rfl)
def SI:DataW Unit->Array Value
 |.agg xs=>(xs.map λ| .lit (.int k n)=>Value.int k n|_=>Go.undef).toArray
 |_=>#[]
def We(vs:Array Value):Obj->Obj
 |.cells _ t fz=>.cells vs t fz
 |o=>o
noncomputable def IL(os:Go.Os):World:=
 { World.holding ArP os ⟨#[],#[],[]⟩ with heap:=(((World.holding ArP os ⟨#[],#[],[]⟩).heap.modify 2 (We (SI Rows.laid_math_bits_deBruijn32tab))).modify 3 (We (SI Rows.laid_math_bits_deBruijn64tab))).modify 1 (We (SI Rows.laid_internal_strconv_uint64pow10)) }
def XF:List (String × DataW Unit):=[("math/bits.deBruijn32tab",Rows.laid_math_bits_deBruijn32tab),("math/bits.deBruijn64tab",Rows.laid_math_bits_deBruijn64tab),("internal/strconv.uint64pow10",Rows.laid_internal_strconv_uint64pow10)]
set_option maxRecDepth 100000 in
theorem Acp(os:Go.Os)(args:Array Value):laidMet ArP XF ((IL os).forCall (λ_ _=>0) ⟨#[],args,[]⟩).memory:=
 laidMet_of_run' 8 (by kernel_rfl) (by kernel_rfl)
set_option maxRecDepth 1000000 in
theorem YX:Tryz.pinned.checked.prog.mainIs=some (Δ, "71c373f515b5d6404ff57fe099454b4ae9c8cd2d69debb21d8290a970539b276".toList):=by kernel_rfl
set_option maxRecDepth 1000000 in
theorem Vt:Φ=Tryz.pinned.checked.prog.looks []:=by kernel_rfl
theorem AqH:RF YI:=AoH AnM AnQ
theorem AqL:T4 YI where
 say:=Amk Al3
 tidying:=WZ WU
 tight h hn hk1 hk e:=Aep (U2 h hn hk1 hk e)
 tidy {n k} hn hk1 hk {rs} hrs hb hq:=by
  obtain⟨o,ho,g⟩:=Yv (n:=n) (k:=k) hn hk1 hk hrs hb hq;exact⟨o,ho,Aik g⟩
theorem UQ:SeatOk ArP Bx WI:=Z1 ⟨Aqh,AbR,(gTi _),AiJ,trivial⟩
theorem PU(v1 v2:Value)(z1:List (Tm × Bool))(p1:z1.length<4611686018427387904)(q1:∀ r∈z1,LmT r.1)(z2:Int)(p2:-9223372036854775808<=z2/\z2<9223372036854775808)(w:World)(r1:Rep (λ_=>Ξ) (λg _=>g<w.heap.size) w (.ls (z1.map CP)) v1)(r2:Rep (λ_=>Ξ) (λg _=>g<w.heap.size) w (iv z2) v2) :
  Calls ArP 7 #[v1,v2] w λe w'=>e=.returned (.bool Δ)/\Below w.heap.size w w':=by
 have g:=Y5 UQ (Ui Ak3 AnF AnP AnO AnN AqH AqL z1 z2 p1 q1) w [v1,v2] (by
  simp only[RepList];exact⟨_,_,rfl,r1,_,_,rfl,r2,rfl⟩)
 refine Calls.mono g ?_;rintro e w' ⟨u,rfl,hb,μ',F',hr⟩;unfold bv Rep at hr;rw[hr.1];exact⟨rfl,hb⟩
set_option maxRecDepth 100000 in
theorem MY(os:Go.Os){H:Type}(enc:TypeId × Value->H) :
  (OpenSpec.ofChange Rows.relOnceSpec).preRow enc ArP Tryz.f7 [] Φ XF ((IL os).forCall (λ_ _=>0) ⟨#[],#[.slice Ξ 0 0,.int .i64 0],[]⟩).memory #[.slice Ξ 0 0,.int .i64 0]:=by
 have hw:(DataW.whole enc ArP ((IL os).forCall (λ_ _=>0) ⟨#[],#[.slice Ξ 0 0,.int .i64 0],[]⟩).memory Tryz.f7.params.toList (OpenSpec.ofChange Rows.relOnceSpec).vars Φ #[Value.slice Ξ 0 0,Value.int .i64 0].toList 8).map (λx=>(x.1,x.2.1)) =
   some ([.nil,.lit (.int .i64 0)],[]):=by kernel_rfl
 obtain⟨⟨x1,x2,x3⟩,hx,hx1⟩:=Option.map_eq_some_iff.1 hw;simp only[Prod.mk.injEq]at hx1;obtain⟨rfl,rfl⟩:=hx1;exact OpenSpec.preRow_of_cond 8 hx (by kernel_rfl) (λk hk=>by cases hk) (by kernel_rfl) (Acp os _)
set_option maxRecDepth 100000 in
theorem O7(os:Go.Os)(started:os.Started)(H:Type)(enc:TypeId × Value->H)(F:Stop.Interp) :
  ReturnsInHanded {} Tryz.checked os 7 .any ((OpenSpec.ofChange Rows.relOnceSpec).preRow enc ArP Tryz.f7 [] Φ XF) (((OpenSpec.ofChange Rows.relOnceSpec).at F).post enc ArP Tryz.f7 Φ Δ Φ Φ):=by
 refine Acs (C:=Tryz.checked) XF 2 [4,3,134,24,26,84,22,28,30,33] 4 Ac6 started (by kernel_rfl) Tryz.func7
  (witness_row_at (enc:=enc) (C:=Tryz.checked) Φ (IL os) #[.slice Ξ 0 0,.int .i64 0] rfl (by kernel_rfl) (by kernel_rfl) (by kernel_rfl) (MY os enc))
  (by kernel_rfl) rfl (by kernel_rfl) Acq rfl Tryz.underlying4 rfl (λds h=>?_) (λW args xs h=>?_)
 .match ds,h with
  |[d1,d2],_=>rfl
 .have h':Je W ArP [33,3] args.toList xs:=h
  obtain⟨args⟩:=args;obtain⟨v1,a1,x1,y1,qq,rfl,⟨cs1,E1,H1,T1,F1⟩,h'⟩:=Me h';obtain⟨v2,a2,x2,y2,rfl,rfl,⟨cs2,E2,H2,T2,F2⟩,h'⟩:=Me h';obtain rfl:=Vk h';have qq:args=[v1,v2]:=qq;subst qq;obtain⟨z1,k1,p1,q1⟩:=AlX T1 F1;obtain⟨z2,k2,p2⟩:=Ak1 T2;have i1:=RY (μ:=λ_=>Ξ) (F:=λg _=>g<W.heap.size) (λg hg _=>hg) x1 cs1 H1;rw[k1]at i1;have i2:=RY (μ:=λ_=>Ξ) (F:=λg _=>g<W.heap.size) (λg hg _=>hg) x2 cs2 H2;rw[k2]at i2;obtain⟨ys1,rfl,_⟩:=T1.slice_ Tryz.underlying33;rw[RepList]at i1;obtain⟨u1,tl1,rfl,i1,j1⟩:=i1;rw[RepList]at j1;subst j1;have E1:v1=u1:=E1;subst E1;obtain⟨n2,rfl,_⟩:=T2.int_ Tryz.underlying3;rw[RepList]at i2;obtain⟨u2,tl2,rfl,i2,j2⟩:=i2;rw[RepList]at j2;subst j2;have E2:v2=u2:=E2;subst E2;exact PU v1 v2 z1 p1 q1 z2 p2 W i1 i2
set_option maxRecDepth 1000000 in
set_option maxHeartbeats 4000000 in
theorem O6:joinedFacts Tryz.pinned.checked.prog 7 Tryz.f7 (OpenSpec.ofChange Rows.relOnceSpec).bare Rows.relOnceRow=Δ:=by
 unfold joinedFacts
 repeat' (with_reducible refine Bool.and_eq_true_iff.2 ⟨?_,?_⟩)
 all_goals (as_aux_lemma=>kernel_rfl)
theorem St:Rows.RelOnceSaid:=
 OpenClaim.holds_of_cond 7 Tryz.f7 rfl rfl rfl rfl rfl rfl rfl ⟨rfl,rfl,rfl,rfl,rfl⟩ rfl rfl rfl rfl rfl (by kernel_rfl) Tryz.func7 O6
  (of_decide_eq_true (by kernel_rfl)) (by unfold Func.isWrapper;first | (rw[if_pos (by decide +kernel)];kernel_rfl) | (rw[if_neg (by decide +kernel)];exact⟨rfl,rfl⟩))
  (λos started H enc _ F=>by rw[OpenClaim.pre_eq_preRow];exact O7 os started H enc F)
set_option maxRecDepth 1000000 in
theorem Wz:Rows.relOnceRow.wfByText (OpenSpec.ofChange Rows.relOnceSpec)=Δ:=by kernel_rfl
set_option maxRecDepth 1000000 in
theorem Ss:Φ=Rows.relOnceRow.goesBy Tryz.pinned.checked.prog:=by kernel_rfl
theorem UE:(Tryz.f7.params.toList.all λt=>!Tryz.pinned.checked.prog.wantsStandIn t)=Δ:=by kernel_rfl
theorem PV:Tryz.pinned.checked.prog.funcNamed "plumbline/plumblinelaw04.RelOnce" = some 7:=by kernel_rfl
theorem relOnce_holds:Rows.RelOnceCardSaid:=
 Claim7.holds_tied_plain_at .later [] [.data,.data,.data] Δ (Δ, "71c373f515b5d6404ff57fe099454b4ae9c8cd2d69debb21d8290a970539b276") Φ
  St (λ_ h=>by cases h) Wz (λ_ h=>by cases h) relOnce_row_tie rfl ⟨rfl,rfl⟩ YX rfl
  (λf fn hf hfn=>by
   obtain rfl:f=7:=(Option.some.inj (PV.symm.trans hf)).symm;obtain rfl:fn=Tryz.f7:=(Option.some.inj (Tryz.func7.symm.trans hfn)).symm;refine⟨Vt,λj t ht=>?_⟩;have h3:=Ar3.1 UE t (List.mem_of_getElem? (by rw[Array.getElem?_toList];exact ht));exact Bool.not_eq_true' _▸h3)
  Ss
