/- How long what is handed -/
import Derived.Test.YtpncilciembjdaaGreatDoorDBU
import Derived.Test.YtpncilciembjdaaGreatDoorDBW
import Derived.Deep.DeepHandedRow
import Derived.LaidLaws
import Derived.Test.YtpncilciembjdaaGreatDoorTie
import Derived.Test.YtpncilciembjdaaGreatDoorDBS
import Derived.Test.YtpncilciembjdaaGreatDoorDBT
import Derived.Test.YtpncilciembjdaaGreatDoorCards
import Derived.ProofKit
import Derived.SevenTiedAt
set_option linter.all false
open Bool renaming false->Φ,true->Δ
open List renaming all_eq_true->ApY,map_cons->Ap5,mem_cons->ApT,mem_cons_of_mem->π,mem_cons_self->ι
open Nat renaming le_of_ble_eq_true->Are
open Option renaming none->Ξ
namespace Go.Proofs.YtpncilciembjdaaGreatDoor
open Go.Proofs.Tryz renaming prog->υ
open Go.ChangeShapes Go.WideShapes Go.ChangeAt Go.RowKit
theorem Ub{n b:Nat}(hb:2<=b)(h:n*b<=reachBytes):n<4611686018427387904:=by
 have h1:n*2<=n*b:=Nat.mul_le_mul_left n hb;have h2:reachBytes<9223372036854775808:=by decide +kernel
 omega
theorem AbS{y:D}(h:D.Typed υ y 24):∃ l:List Nat,y.av=[eN l]/\Limbs l:=by
 obtain⟨xs,rfl,hx⟩:=h.slice_ Tryz.underlying24;have:∀ xs:List D,(∀ y∈xs,D.Typed υ y 134)->∃ l:List Nat,xs.map D.av=l.map eL/\Limbs l:=λxs=>by
  induction xs with
  |nil=>intro _;exact⟨[],rfl,BT⟩
  |cons x r ih=>
   intro hh;obtain⟨l,e1,e2⟩:=ih λy hy=>hh y (π _ hy)
   obtain⟨n,rfl,hw⟩:=(hh x (ι ..)).int_ Tryz.underlying134;have hw:0<=n/\n<4294967296:=by
    simp only[Lit.wf,Bool.and_eq_true,decide_eq_true_eq]at hw;have h1:IntKind.u32.min=0:=by decide
    have h2:IntKind.u32.max=4294967295:=by decide
    omega
   obtain⟨m,rfl⟩:=Int.eq_ofNat_of_zero_le hw.1;exact⟨m::l,by rw[Ap5,Ap5,e1];rfl,Bg (by omega) e2⟩
 obtain⟨l,e1,e2⟩:=this xs hx;exact⟨l,by rw[D.av,E5,e1];rfl,e2⟩
theorem AdE{y:D}(h:D.Typed υ y 26):∃ z:Zi,y.av=eZ z/\Limbs z.abs:=by
 obtain⟨xs,rfl,g0⟩:=h.struct_ Tryz.underlying26;obtain⟨x0,r0,rfl,h0,g1⟩:=D.TypedFields.cons_ g0;obtain⟨x1,r1,rfl,h1,g2⟩:=D.TypedFields.cons_ g1;obtain rfl:=D.TypedFields.nil_ g2;obtain⟨b,rfl⟩:=h0.bool_ Tryz.underlying4;obtain⟨l,e1,e2⟩:=AbS h1;refine⟨⟨b,l⟩,?_,e2⟩
 show D.av (.agg [.bool b,x1])=_
 simp only[D.av,He,e1];rfl
theorem Ali{y:D}(h:D.Typed υ y 42)(hf:D.Fits υ y 42):∃ zs:List Zi,y.av=[.ls (zs.map eZ)]/\zs.length<4611686018427387904/\∀ z∈zs,Limbs z.abs:=by
 obtain⟨xs,rfl,hx⟩:=h.slice_ Tryz.underlying42;obtain⟨h1,h2⟩:=hf.slice_ Tryz.underlying42;have hl:=Ub (Are (by kernel_rfl)) h1;have:∀ xs:List D,(∀ y∈xs,D.Typed υ y 26)->∃ zs:List Zi,xs.map D.av=zs.map eZ/\zs.length=xs.length/\∀ z∈zs,Limbs z.abs:=λxs=>by
  induction xs with
  |nil=>intro _;exact⟨[],rfl,rfl,by simp⟩
  |cons x r ih=>
   intro hh;obtain⟨zs,e1,e2,e3⟩:=ih λy hy=>hh y (π _ hy)
   obtain⟨z,k1,k2⟩:=AdE (hh x (ι ..));refine⟨z::zs,by rw[Ap5,Ap5,e1,k1],by simp[e2],λu hu=>?_⟩;rcases ApT.1 hu with rfl|hu
   .exact k2
   .exact e3 u hu
 obtain⟨zs,e1,e2,e3⟩:=this xs hx;exact⟨zs,by rw[D.av,E5,e1],by omega,e3⟩
theorem Anc{y:D}(h:D.Typed υ y 84):∃ p:Pt,y.av=eP p/\Limbs p.z.abs:=by
 obtain⟨xs,rfl,g0⟩:=h.struct_ Tryz.underlying84;obtain⟨x0,r0,rfl,h0,g1⟩:=D.TypedFields.cons_ g0;obtain⟨x1,r1,rfl,h1,g2⟩:=D.TypedFields.cons_ g1;obtain rfl:=D.TypedFields.nil_ g2;obtain⟨n,rfl,_⟩:=h0.int_ Tryz.underlying3;obtain⟨z,e1,e2⟩:=AdE h1;refine⟨⟨n,z⟩,?_,e2⟩
 show D.av (.agg [.int .i64 n,x1])=_
 simp only[D.av,He,e1];rfl
theorem AkH{y:D}(h:D.Typed υ y 22):∃ ps:List Pt,y.av=[.ls (ps.map eP)]/\∀ p∈ps,Limbs p.z.abs:=by
 obtain⟨xs,rfl,hx⟩:=h.slice_ Tryz.underlying22;have:∀ xs:List D,(∀ y∈xs,D.Typed υ y 84)->∃ ps:List Pt,xs.map D.av=ps.map eP/\∀ p∈ps,Limbs p.z.abs:=λxs=>by
  induction xs with
  |nil=>intro _;exact⟨[],rfl,by simp⟩
  |cons x r ih=>
   intro hh;obtain⟨ps,e1,e2⟩:=ih λy hy=>hh y (π _ hy)
   obtain⟨p,k1,k2⟩:=Anc (hh x (ι ..));refine⟨p::ps,by rw[Ap5,Ap5,e1,k1],λu hu=>?_⟩;rcases ApT.1 hu with rfl|hu
   .exact k2
   .exact e2 u hu
 obtain⟨ps,e1,e2⟩:=this xs hx;exact⟨ps,by rw[D.av,E5,e1],e2⟩
theorem Anv{y:D}(h:D.Typed υ y 28):∃ t:Tm,y.av=eT t/\LmT t:=by
 obtain⟨xs,rfl,g0⟩:=h.struct_ Tryz.underlying28;obtain⟨x0,r0,rfl,h0,g1⟩:=D.TypedFields.cons_ g0;obtain⟨x1,r1,rfl,h1,g2⟩:=D.TypedFields.cons_ g1;obtain rfl:=D.TypedFields.nil_ g2;obtain⟨ps,e1,e2⟩:=AkH h0;obtain⟨z,e3,e4⟩:=AdE h1;refine⟨⟨ps,z⟩,?_,⟨e2,e4⟩⟩
 show D.av (.agg [x0,x1])=_
 simp only[D.av,He,e1,e3];rfl
theorem Anl{y:D}(h:D.Typed υ y 30):∃(t:Tm) (e:Bool),y.av=C5 (t,e)/\LmT t:=by
 obtain⟨xs,rfl,g0⟩:=h.struct_ Tryz.underlying30;obtain⟨x0,r0,rfl,h0,g1⟩:=D.TypedFields.cons_ g0;obtain⟨x1,r1,rfl,h1,g2⟩:=D.TypedFields.cons_ g1;obtain rfl:=D.TypedFields.nil_ g2;obtain⟨t,e1,e2⟩:=Anv h0;obtain⟨b,rfl⟩:=h1.bool_ Tryz.underlying4;refine⟨t,b,?_,e2⟩
 show D.av (.agg [x0,.bool b])=_
 simp only[D.av,He,e1];rfl
theorem AkQ{y:D}(h:D.Typed υ y 33)(hf:D.Fits υ y 33):∃ zs:List (Tm × Bool),y.av=[.ls (zs.map C5)]/\zs.length<4611686018427387904/\∀ r∈zs,LmT r.1:=by
 obtain⟨xs,rfl,hx⟩:=h.slice_ Tryz.underlying33;obtain⟨h1,h2⟩:=hf.slice_ Tryz.underlying33;have hl:=Ub (Are (by kernel_rfl)) h1;have:∀ xs:List D,(∀ y∈xs,D.Typed υ y 30)->∃ zs:List (Tm × Bool),xs.map D.av=zs.map C5/\zs.length=xs.length/\∀ z∈zs,LmT z.1:=λxs=>by
  induction xs with
  |nil=>intro _;exact⟨[],rfl,rfl,by simp⟩
  |cons x r ih=>
   intro hh;obtain⟨zs,e1,e2,e3⟩:=ih λy hy=>hh y (π _ hy)
   obtain⟨t,e,k1,k2⟩:=Anl (hh x (ι ..));refine⟨(t,e)::zs,by rw[Ap5,Ap5,e1,k1],by simp[e2],λu hu=>?_⟩;rcases ApT.1 hu with rfl|hu
   .exact k2
   .exact e3 u hu
 obtain⟨zs,e1,e2,e3⟩:=this xs hx;exact⟨zs,by rw[D.av,E5,e1],by omega,e3⟩
theorem AbH{H:Type}{enc:TypeId × Value->H}{C:Checked}{os:Go.Os}{f:FuncId}{fn:Func}{s:ChangeSpec}{F:Stop.Interp}(laid:List (String × DataW Unit))(n:Nat)(L:List TypeId)(tb:TypeId)
  (own:ownKnob C.prog.godebug=Ξ) (started:os.Started) (noInit:C.prog.inits.idxOf? f=Ξ) (hfn:C.prog.funcs[f]? = some fn)
  (witness:∃(w:World) (tape:Tape) (i:Input),w.os=os/\(w.forCall tape i).Shaped C.prog/\i.vars=[]/\Input.okWide C.prog (w.forCall tape i) .any w.heap.size f i ∧
   (OpenSpec.ofChange s).preRow enc C.prog fn [] Φ laid (w.forCall tape i).memory i.args/\({}:Assume).holds C.prog (lone (Frame.enter C.prog f i.args .normal) [] (w.forCall tape i)))
  (hL:L.all (Oo C.prog L)=Δ) (hn:fn.params.toList.length=n) (hin:(fn.params.toList.all λt=>L.contains t&&C.prog.readableRec t&&decide (t<C.prog.types.size))=Δ)
  (laidO:laidOutB C.prog=Δ) (hres:fn.resultTypes=#[tb]) (htb:C.prog.underlying tb=some .bool)
  (hvars:s.vars=[]) (hspec:∀ ds:List (DataW H),ds.length=n->s.fn H ds={ results:=[.lit (.bool Δ)],args:=ds })
  (contract:∀(W:World) (args:Array Value) (xs:List D),I3 W C.prog fn.params.toList args.toList xs->Calls C.prog f args W λe W'=>e=.returned (.bool Δ)/\Below W.heap.size W W') :
  ReturnsInHanded {} C os f .any ((OpenSpec.ofChange s).preRow enc C.prog fn [] Φ laid) (((OpenSpec.ofChange s).at F).post enc C.prog fn Φ Δ Φ Φ):=by
 refine returnsInHanded_of_row own started noInit hfn witness ?_;intro W base args ds gs before hval hW _ _ hsz _ _ _;have hW':DataW.Whole enc C.prog fn.params.toList s.vars Φ W args.toList ds gs before:=hW;have hvars':s.plain.varTypes C.prog=[]:=by unfold DataSpec.varTypes ChangeSpec.plain;simp[hvars]
 have hsz':(DataW.weightsEach C.prog (fn.params.toList++s.plain.varTypes C.prog) (ds++gs)).all (· ≤ reachBytes)=Δ:=hsz;obtain⟨p,q,hA,hV,rfl,hfz,hnd⟩:=hW;have hV':DataW.TrodVars enc C.prog W _ s.vars gs q:=hV;rw[hvars]at hV';have hg:gs=[]/\q=[]:=by
  cases gs with
  |nil=>exact⟨rfl,hV'⟩
  |cons _ _=>exact hV'.elim
 obtain⟨rfl,rfl⟩:=hg;have hlt:∀ x∈p++[],x.block<W.heap.size:=λx hx=>hW'.lt x hx
 have hlen:ds.length=n:=(Mn _ _ _ _ hA).trans hn;have hall:∀ t∈fn.params.toList,t∈L/\C.prog.readableRec t=Δ/\t<C.prog.types.size:=λt ht=>by
  have:=ApY.1 hin t ht;simpa[and_assoc]using this
 obtain⟨xs,hxs⟩:=WB hL fn.params.toList args.toList ds p (λt ht=>(hall t ht).1) (λj t v h1 h2=>hval j t v (by simpa using h1) (by simpa using h2)) hA (λk hk=>by
  have:=ApY.1 hsz' k;rw[hvars']at this;simpa using this (by simpa using hk))
 refine(contract W args xs hxs).mono λe W' ⟨he,hb⟩=>⟨_,he,?_⟩
 have hsp:s.fn H (ds++[])={ results:=[.lit (.bool Δ)],args:=ds }:=by rw[List.append_nil];exact hspec ds hlen
 show s.post enc C.prog fn Φ Δ Φ Φ W args _ W'
 refine⟨ds,[],p++[],[],p,[],hW',?_,?_,?_,hb.frame _,λh=>by cases h⟩
 .rw[hsp,hres]
  exact trodAll_mk1 (shut_bool htb Δ)
 .rw[hsp]
  have:=I1 (P:=C.prog) laidO hb fn.params.toList args.toList ds p (λt ht=>(hall t ht).2) (λx hx=>hlt x (by simp[hx])) hA;exact this
 .rw[hvars]
  exact(show DataW.TrodVars enc C.prog W' _ [] (s.fn H (ds++[])).vars [] from by rw[hsp];exact rfl)
def Sf:DataW Unit->Array Value
 |.agg xs=>(xs.map λ| .lit (.int k n)=>Value.int k n|_=>Go.undef).toArray
 |_=>#[]
def VO(vs:Array Value):Obj->Obj
 |.cells _ t fz=>.cells vs t fz
 |o=>o
noncomputable def Ix(os:Go.Os):World:=
 { World.holding υ os ⟨#[],#[],[]⟩ with heap:=(((World.holding υ os ⟨#[],#[],[]⟩).heap.modify 2 (VO (Sf Rows.laid_math_bits_deBruijn32tab))).modify 3 (VO (Sf Rows.laid_math_bits_deBruijn64tab))).modify 1 (VO (Sf Rows.laid_internal_strconv_uint64pow10)) }
def Xc:List (String × DataW Unit):=[("math/bits.deBruijn32tab",Rows.laid_math_bits_deBruijn32tab),("math/bits.deBruijn64tab",Rows.laid_math_bits_deBruijn64tab),("internal/strconv.uint64pow10",Rows.laid_internal_strconv_uint64pow10)]
set_option maxRecDepth 100000 in
theorem AbE(os:Go.Os)(args:Array Value):laidMet υ Xc ((Ix os).forCall (λ_ _=>0) ⟨#[],args,[]⟩).memory:=
 laidMet_of_run' 8 (by kernel_rfl) (by kernel_rfl)
set_option maxRecDepth 1000000 in
theorem Yl:Tryz.pinned.checked.prog.mainIs=some (Δ, "71c373f515b5d6404ff57fe099454b4ae9c8cd2d69debb21d8290a970539b276".toList):=by kernel_rfl
set_option maxRecDepth 1000000 in
theorem U4:Φ=Tryz.pinned.checked.prog.looks []:=by kernel_rfl
theorem AoR:T4 DKe where
 say:=Alc AkW
 tidying:=Wz Wt
 tight h hn hk1 hk e:=Adx (UC h hn hk1 hk e)
 tidy {n k} hn hk1 hk {rs} hrs hb hq:=by
  obtain⟨o,ho,g⟩:=XV (n:=n) (k:=k) hn hk1 hk hrs hb hq;exact⟨o,ho,Ahr g⟩
theorem Um:SeatOk υ Bn Wg:=Zl ⟨AoB,Aa5,(gTi _),(gTi _),(gTi _),AhR,trivial⟩
theorem OE(v1 v2:Value)(z1:List (Tm × Bool))(p1:z1.length<4611686018427387904)(q1:∀ r∈z1,LmT r.1)(z2:List Zi)(p2:z2.length<4611686018427387904)(q2:∀ z∈z2,Limbs z.abs)(w:World)(r1:Rep (λ_=>Ξ) (λg _=>g<w.heap.size) w (.ls (z1.map C5)) v1)(r2:Rep (λ_=>Ξ) (λg _=>g<w.heap.size) w (.ls (z2.map eZ)) v2) :
  Calls υ 6 #[v1,v2] w λe w'=>e=.returned (.bool Δ)/\Below w.heap.size w w':=by
 have g:=Ys Um (Rz AjV Amt AmA AoR (λht hn e vals hv hv24 hvl hk=>Adu (Ud Amu W8 AdB ht hn e vals hv hv24 hvl hk)) (λht hu hn hk e f=>Ak7 (Qr W8 Aby AdB RS Ail ht hu hn hk e f)) z1 p1 q1 z2 p2 q2) w [v1,v2] (by
  simp only[RepList];exact⟨_,_,rfl,r1,_,_,rfl,r2,rfl⟩)
 refine Calls.mono g ?_;rintro e w' ⟨u,rfl,hb,μ',F',hr⟩;unfold bv Rep at hr;rw[hr.1];exact⟨rfl,hb⟩
set_option maxRecDepth 100000 in
theorem Lu(os:Go.Os){H:Type}(enc:TypeId × Value->H) :
  (OpenSpec.ofChange Rows.relKeepsSpec).preRow enc υ Tryz.f6 [] Φ Xc ((Ix os).forCall (λ_ _=>0) ⟨#[],#[.slice Ξ 0 0,.slice Ξ 0 0],[]⟩).memory #[.slice Ξ 0 0,.slice Ξ 0 0]:=by
 have hw:(DataW.whole enc υ ((Ix os).forCall (λ_ _=>0) ⟨#[],#[.slice Ξ 0 0,.slice Ξ 0 0],[]⟩).memory Tryz.f6.params.toList (OpenSpec.ofChange Rows.relKeepsSpec).vars Φ #[Value.slice Ξ 0 0,Value.slice Ξ 0 0].toList 8).map (λx=>(x.1,x.2.1)) =
   some ([.nil,.nil],[]):=by kernel_rfl
 obtain⟨⟨x1,x2,x3⟩,hx,hx1⟩:=Option.map_eq_some_iff.1 hw;simp only[Prod.mk.injEq]at hx1;obtain⟨rfl,rfl⟩:=hx1;exact OpenSpec.preRow_of_cond 8 hx (by kernel_rfl) (λk hk=>by cases hk) (by kernel_rfl) (AbE os _)
set_option maxRecDepth 100000 in
theorem ME(os:Go.Os)(started:os.Started)(H:Type)(enc:TypeId × Value->H)(F:Stop.Interp) :
  ReturnsInHanded {} Tryz.checked os 6 .any ((OpenSpec.ofChange Rows.relKeepsSpec).preRow enc υ Tryz.f6 [] Φ Xc) (((OpenSpec.ofChange Rows.relKeepsSpec).at F).post enc υ Tryz.f6 Φ Δ Φ Φ):=by
 refine AbH (C:=Tryz.checked) Xc 2 [4,3,134,24,26,42,84,22,28,30,33] 4 Acm started (by kernel_rfl) Tryz.func6
  (witness_row_at (enc:=enc) (C:=Tryz.checked) Φ (Ix os) #[.slice Ξ 0 0,.slice Ξ 0 0] rfl (by kernel_rfl) (by kernel_rfl) (by kernel_rfl) (Lu os enc))
  (by kernel_rfl) rfl (by kernel_rfl) AbF rfl Tryz.underlying4 rfl (λds h=>?_) (λW args xs h=>?_)
 .match ds,h with
  |[d1,d2],_=>rfl
 .have h':I3 W υ [33,42] args.toList xs:=h
  obtain⟨args⟩:=args;obtain⟨v1,a1,x1,y1,qq,rfl,⟨cs1,E1,H1,T1,F1⟩,h'⟩:=LR h';obtain⟨v2,a2,x2,y2,rfl,rfl,⟨cs2,E2,H2,T2,F2⟩,h'⟩:=LR h';obtain rfl:=UV h';have qq:args=[v1,v2]:=qq;subst qq;obtain⟨z1,k1,p1,q1⟩:=AkQ T1 F1;obtain⟨z2,k2,p2,q2⟩:=Ali T2 F2;have i1:=Rs (μ:=λ_=>Ξ) (F:=λg _=>g<W.heap.size) (λg hg _=>hg) x1 cs1 H1;rw[k1]at i1;have i2:=Rs (μ:=λ_=>Ξ) (F:=λg _=>g<W.heap.size) (λg hg _=>hg) x2 cs2 H2;rw[k2]at i2;obtain⟨ys1,rfl,_⟩:=T1.slice_ Tryz.underlying33;rw[RepList]at i1;obtain⟨u1,tl1,rfl,i1,j1⟩:=i1;rw[RepList]at j1;subst j1;have E1:v1=u1:=E1;subst E1;obtain⟨ys2,rfl,_⟩:=T2.slice_ Tryz.underlying42;rw[RepList]at i2;obtain⟨u2,tl2,rfl,i2,j2⟩:=i2;rw[RepList]at j2;subst j2;have E2:v2=u2:=E2;subst E2;exact OE v1 v2 z1 p1 q1 z2 p2 q2 W i1 i2
set_option maxRecDepth 1000000 in
set_option maxHeartbeats 4000000 in
theorem MD:joinedFacts Tryz.pinned.checked.prog 6 Tryz.f6 (OpenSpec.ofChange Rows.relKeepsSpec).bare Rows.relKeepsRow=Δ:=by
 unfold joinedFacts
 repeat' (with_reducible refine Bool.and_eq_true_iff.2 ⟨?_,?_⟩)
 all_goals (as_aux_lemma=>kernel_rfl)
theorem PA:Rows.RelKeepsSaid:=
 OpenClaim.holds_of_cond 6 Tryz.f6 rfl rfl rfl rfl rfl rfl rfl ⟨rfl,rfl,rfl,rfl,rfl⟩ rfl rfl rfl rfl rfl (by kernel_rfl) Tryz.func6 MD
  (of_decide_eq_true (by kernel_rfl)) (by unfold Func.isWrapper;first | (rw[if_pos (by decide +kernel)];kernel_rfl) | (rw[if_neg (by decide +kernel)];exact⟨rfl,rfl⟩))
  (λos started H enc _ F=>by rw[OpenClaim.pre_eq_preRow];exact ME os started H enc F)
set_option maxRecDepth 1000000 in
theorem Uc:Rows.relKeepsRow.wfByText (OpenSpec.ofChange Rows.relKeepsSpec)=Δ:=by kernel_rfl
set_option maxRecDepth 1000000 in
theorem Pz:Φ=Rows.relKeepsRow.goesBy Tryz.pinned.checked.prog:=by kernel_rfl
theorem RZ:(Tryz.f6.params.toList.all λt=>!Tryz.pinned.checked.prog.wantsStandIn t)=Δ:=by kernel_rfl
theorem OF:Tryz.pinned.checked.prog.funcNamed "plumbline/plumblinelaw04.RelKeeps" = some 6:=by kernel_rfl
theorem relKeeps_holds:Rows.RelKeepsCardSaid:=
 Claim7.holds_tied_plain_at .later [] [.data,.data,.data] Δ (Δ, "71c373f515b5d6404ff57fe099454b4ae9c8cd2d69debb21d8290a970539b276") Φ
  PA (λ_ h=>by cases h) Uc (λ_ h=>by cases h) relKeeps_row_tie rfl ⟨rfl,rfl⟩ Yl rfl
  (λf fn hf hfn=>by
   obtain rfl:f=6:=(Option.some.inj (OF.symm.trans hf)).symm;obtain rfl:fn=Tryz.f6:=(Option.some.inj (Tryz.func6.symm.trans hfn)).symm;refine⟨U4,λj t ht=>?_⟩;have h3:=ApY.1 RZ t (List.mem_of_getElem? (by rw[Array.getElem?_toList];exact ht));exact Bool.not_eq_true' _▸h3)
  Pz
