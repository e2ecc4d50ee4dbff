/- How long what is handed -/
import Derived.Test.YtpncilciembjdaaGreatDoorCBU
import Derived.Test.YtpncilciembjdaaGreatDoorCBW
import Derived.Deep.DeepHandedRow
import Derived.LaidLaws
import Derived.Test.YtpncilciembjdaaGreatDoorTie
import Derived.Test.YtpncilciembjdaaGreatDoorCBS
import Derived.Test.YtpncilciembjdaaGreatDoorCBT
import Derived.Test.YtpncilciembjdaaGreatDoorCards
import Derived.ProofKit
import Derived.SevenTiedAt
set_option linter.all false
open Bool renaming false->Φ,true->Δ
open List renaming all_eq_true->AtN,map_cons->At5,mem_cons->AtC,mem_cons_of_mem->AtF,mem_cons_self->AtL
open Option renaming none->Ξ
namespace Go.Proofs.YtpncilciembjdaaGreatDoor
open Go.Proofs.Tryz renaming prog->ι
open Go.ChangeShapes Go.WideShapes Go.ChangeAt Go.RowKit
theorem AcP{n b:Nat}(hb:2<=b)(h:n*b<=reachBytes):n<4611686018427387904:=by
 have h1:n*2<=n*b:=Nat.mul_le_mul_left n hb;have h2:reachBytes<9223372036854775808:=by decide +kernel
 omega
theorem Ab9{y:D}(h:D.Typed ι y 24):∃ l:List Nat,y.av=[eN l]/\Limbs l:=by
 obtain⟨xs,rfl,hx⟩:=h.slice_ Tryz.underlying24;have:∀ xs:List D,(∀ y∈xs,D.Typed ι y 134)->∃ l:List Nat,xs.map D.av=l.map eL/\Limbs l:=λxs=>by
  induction xs with
  |nil=>intro _;exact⟨[],rfl,BH⟩
  |cons x r ih=>
   intro hh;obtain⟨l,e1,e2⟩:=ih λy hy=>hh y (AtF _ hy)
   obtain⟨n,rfl,hw⟩:=(hh x (AtL ..)).int_ Tryz.underlying134;have hw:0<=n/\n<4294967296:=by
    simp only[Lit.wf,Bool.and_eq_true,decide_eq_true_eq]at hw;have h1:IntKind.u32.min=0:=by decide
    have h2:IntKind.u32.max=4294967295:=by decide
    omega
   obtain⟨m,rfl⟩:=Int.eq_ofNat_of_zero_le hw.1;exact⟨m::l,by rw[At5,At5,e1];rfl,Bb (by omega) e2⟩
 obtain⟨l,e1,e2⟩:=this xs hx;exact⟨l,by rw[D.av,GM,e1];rfl,e2⟩
theorem Ad3{y:D}(h:D.Typed ι y 26):∃ z:Zi,y.av=eZ z/\Limbs z.abs:=by
 obtain⟨xs,rfl,g0⟩:=h.struct_ Tryz.underlying26;obtain⟨x0,r0,rfl,h0,g1⟩:=D.TypedFields.cons_ g0;obtain⟨x1,r1,rfl,h1,g2⟩:=D.TypedFields.cons_ g1;obtain rfl:=D.TypedFields.nil_ g2;obtain⟨b,rfl⟩:=h0.bool_ Tryz.underlying4;obtain⟨l,e1,e2⟩:=Ab9 h1;refine⟨⟨b,l⟩,?_,e2⟩
 show D.av (.agg [.bool b,x1])=_
 simp only[D.av,Ja,e1];rfl
theorem An6{y:D}(h:D.Typed ι y 42)(hf:D.Fits ι y 42):∃ zs:List Zi,y.av=[.ls (zs.map eZ)]/\zs.length<4611686018427387904/\∀ z∈zs,Limbs z.abs:=by
 obtain⟨xs,rfl,hx⟩:=h.slice_ Tryz.underlying42;obtain⟨h1,h2⟩:=hf.slice_ Tryz.underlying42;have hl:=AcP (Nat.le_of_ble_eq_true (by kernel_rfl)) h1;have:∀ xs:List D,(∀ y∈xs,D.Typed ι y 26)->∃ zs:List Zi,xs.map D.av=zs.map eZ/\zs.length=xs.length/\∀ z∈zs,Limbs z.abs:=λxs=>by
  induction xs with
  |nil=>intro _;exact⟨[],rfl,rfl,by simp⟩
  |cons x r ih=>
   intro hh;obtain⟨zs,e1,e2,e3⟩:=ih λy hy=>hh y (AtF _ hy)
   obtain⟨z,k1,k2⟩:=Ad3 (hh x (AtL ..));refine⟨z::zs,by rw[At5,At5,e1,k1],by simp[e2],λu hu=>?_⟩;rcases AtC.1 hu with rfl|hu
   .exact k2
   .exact e3 u hu
 obtain⟨zs,e1,e2,e3⟩:=this xs hx;exact⟨zs,by rw[D.av,GM,e1],by omega,e3⟩
theorem Aqg{y:D}(h:D.Typed ι y 84):∃ p:Pt,y.av=eP p/\Limbs p.z.abs:=by
 obtain⟨xs,rfl,g0⟩:=h.struct_ Tryz.underlying84;obtain⟨x0,r0,rfl,h0,g1⟩:=D.TypedFields.cons_ g0;obtain⟨x1,r1,rfl,h1,g2⟩:=D.TypedFields.cons_ g1;obtain rfl:=D.TypedFields.nil_ g2;obtain⟨n,rfl,_⟩:=h0.int_ Tryz.underlying3;obtain⟨z,e1,e2⟩:=Ad3 h1;refine⟨⟨n,z⟩,?_,e2⟩
 show D.av (.agg [.int .i64 n,x1])=_
 simp only[D.av,Ja,e1];rfl
theorem AnB{y:D}(h:D.Typed ι y 22):∃ ps:List Pt,y.av=[.ls (ps.map eP)]/\∀ p∈ps,Limbs p.z.abs:=by
 obtain⟨xs,rfl,hx⟩:=h.slice_ Tryz.underlying22;have:∀ xs:List D,(∀ y∈xs,D.Typed ι y 84)->∃ ps:List Pt,xs.map D.av=ps.map eP/\∀ p∈ps,Limbs p.z.abs:=λxs=>by
  induction xs with
  |nil=>intro _;exact⟨[],rfl,by simp⟩
  |cons x r ih=>
   intro hh;obtain⟨ps,e1,e2⟩:=ih λy hy=>hh y (AtF _ hy)
   obtain⟨p,k1,k2⟩:=Aqg (hh x (AtL ..));refine⟨p::ps,by rw[At5,At5,e1,k1],λu hu=>?_⟩;rcases AtC.1 hu with rfl|hu
   .exact k2
   .exact e2 u hu
 obtain⟨ps,e1,e2⟩:=this xs hx;exact⟨ps,by rw[D.av,GM,e1],e2⟩
theorem Alk{y:D}(h:D.Typed ι y 28):∃ t:Tm,y.av=eT t/\LmT t:=by
 obtain⟨xs,rfl,g0⟩:=h.struct_ Tryz.underlying28;obtain⟨x0,r0,rfl,h0,g1⟩:=D.TypedFields.cons_ g0;obtain⟨x1,r1,rfl,h1,g2⟩:=D.TypedFields.cons_ g1;obtain rfl:=D.TypedFields.nil_ g2;obtain⟨ps,e1,e2⟩:=AnB h0;obtain⟨z,e3,e4⟩:=Ad3 h1;refine⟨⟨ps,z⟩,?_,⟨e2,e4⟩⟩
 show D.av (.agg [x0,x1])=_
 simp only[D.av,Ja,e1,e3];rfl
theorem Ab1{H:Type}{enc:TypeId × Value->H}{C:Checked}{os:Go.Os}{f:FuncId}{fn:Func}{s:ChangeSpec}{F:Stop.Interp}(laid:List (String × DataW Unit))(n:Nat)(L:List TypeId)(tb:TypeId)
  (own:ownKnob C.prog.godebug=Ξ) (started:os.Started) (noInit:C.prog.inits.idxOf? f=Ξ) (hfn:C.prog.funcs[f]? = some fn)
  (witness:∃(w:World) (tape:Tape) (i:Input),w.os=os/\(w.forCall tape i).Shaped C.prog/\i.vars=[]/\Input.okWide C.prog (w.forCall tape i) .any w.heap.size f i ∧
   (OpenSpec.ofChange s).preRow enc C.prog fn [] Φ laid (w.forCall tape i).memory i.args/\({}:Assume).holds C.prog (lone (Frame.enter C.prog f i.args .normal) [] (w.forCall tape i)))
  (hL:L.all (OU C.prog L)=Δ) (hn:fn.params.toList.length=n) (hin:(fn.params.toList.all λt=>L.contains t&&C.prog.readableRec t&&decide (t<C.prog.types.size))=Δ)
  (laidO:laidOutB C.prog=Δ) (hres:fn.resultTypes=#[tb]) (htb:C.prog.underlying tb=some .bool)
  (hvars:s.vars=[]) (hspec:∀ ds:List (DataW H),ds.length=n->s.fn H ds={ results:=[.lit (.bool Δ)],args:=ds })
  (contract:∀(W:World) (args:Array Value) (xs:List D),Jp W C.prog fn.params.toList args.toList xs->Calls C.prog f args W λe W'=>e=.returned (.bool Δ)/\Below W.heap.size W W') :
  ReturnsInHanded {} C os f .any ((OpenSpec.ofChange s).preRow enc C.prog fn [] Φ laid) (((OpenSpec.ofChange s).at F).post enc C.prog fn Φ Δ Φ Φ):=by
 refine returnsInHanded_of_row own started noInit hfn witness ?_;intro W base args ds gs before hval hW _ _ hsz _ _ _;have hW':DataW.Whole enc C.prog fn.params.toList s.vars Φ W args.toList ds gs before:=hW;have hvars':s.plain.varTypes C.prog=[]:=by unfold DataSpec.varTypes ChangeSpec.plain;simp[hvars]
 have hsz':(DataW.weightsEach C.prog (fn.params.toList++s.plain.varTypes C.prog) (ds++gs)).all (· ≤ reachBytes)=Δ:=hsz;obtain⟨p,q,hA,hV,rfl,hfz,hnd⟩:=hW;have hV':DataW.TrodVars enc C.prog W _ s.vars gs q:=hV;rw[hvars]at hV';have hg:gs=[]/\q=[]:=by
  cases gs with
  |nil=>exact⟨rfl,hV'⟩
  |cons _ _=>exact hV'.elim
 obtain⟨rfl,rfl⟩:=hg;have hlt:∀ x∈p++[],x.block<W.heap.size:=λx hx=>hW'.lt x hx
 have hlen:ds.length=n:=(MN _ _ _ _ hA).trans hn;have hall:∀ t∈fn.params.toList,t∈L/\C.prog.readableRec t=Δ/\t<C.prog.types.size:=λt ht=>by
  have:=AtN.1 hin t ht;simpa[and_assoc]using this
 obtain⟨xs,hxs⟩:=WB hL fn.params.toList args.toList ds p (λt ht=>(hall t ht).1) (λj t v h1 h2=>hval j t v (by simpa using h1) (by simpa using h2)) hA (λk hk=>by
  have:=AtN.1 hsz' k;rw[hvars']at this;simpa using this (by simpa using hk))
 refine(contract W args xs hxs).mono λe W' ⟨he,hb⟩=>⟨_,he,?_⟩
 have hsp:s.fn H (ds++[])={ results:=[.lit (.bool Δ)],args:=ds }:=by rw[List.append_nil];exact hspec ds hlen
 show s.post enc C.prog fn Φ Δ Φ Φ W args _ W'
 refine⟨ds,[],p++[],[],p,[],hW',?_,?_,?_,hb.frame _,λh=>by cases h⟩
 .rw[hsp,hres]
  exact trodAll_mk1 (shut_bool htb Δ)
 .rw[hsp]
  have:=Jn (P:=C.prog) laidO hb fn.params.toList args.toList ds p (λt ht=>(hall t ht).2) (λx hx=>hlt x (by simp[hx])) hA;exact this
 .rw[hvars]
  exact(show DataW.TrodVars enc C.prog W' _ [] (s.fn H (ds++[])).vars [] from by rw[hsp];exact rfl)
def Ss:DataW Unit->Array Value
 |.agg xs=>(xs.map λ| .lit (.int k n)=>Value.int k n|_=>Go.undef).toArray
 |_=>#[]
def VQ(vs:Array Value):Obj->Obj
 |.cells _ t fz=>.cells vs t fz
 |o=>o
noncomputable def IU(os:Go.Os):World:=
 { World.holding ι os ⟨#[],#[],[]⟩ with heap:=(((World.holding ι os ⟨#[],#[],[]⟩).heap.modify 2 (VQ (Ss Rows.laid_math_bits_deBruijn32tab))).modify 3 (VQ (Ss Rows.laid_math_bits_deBruijn64tab))).modify 1 (VQ (Ss Rows.laid_internal_strconv_uint64pow10)) }
def Xg:List (String × DataW Unit):=[("math/bits.deBruijn32tab",Rows.laid_math_bits_deBruijn32tab),("math/bits.deBruijn64tab",Rows.laid_math_bits_deBruijn64tab),("internal/strconv.uint64pow10",Rows.laid_internal_strconv_uint64pow10)]
set_option maxRecDepth 100000 in
theorem AbY(os:Go.Os)(args:Array Value):laidMet ι Xg ((IU os).forCall (λ_ _=>0) ⟨#[],args,[]⟩).memory:=
 laidMet_of_run' 8 (by kernel_rfl) (by kernel_rfl)
set_option maxRecDepth 1000000 in
theorem Yv:Tryz.pinned.checked.prog.mainIs=some (Δ, "71c373f515b5d6404ff57fe099454b4ae9c8cd2d69debb21d8290a970539b276".toList):=by kernel_rfl
set_option maxRecDepth 1000000 in
theorem Va:Φ=Tryz.pinned.checked.prog.looks []:=by kernel_rfl
theorem Amp:I8.ask (.fn 34) [] []=some (bv Δ,[]):=Ajl Ae2
theorem S0:CloneF I8 where
 nat l h:=Z3 (Lp h)
theorem AqC:ZF I8:=Alm Akr Akw S0
theorem Ar7:RF I8:=Aqn ApC ApD
theorem XK:PartF I8 where
 clone l h:=Z5 (NS h)
 grow n h:=AdR (YL h)
theorem AlV:DivF I8 where
 div _ _ ha hal hb hbl:=Ajm (Ap5 ha hal hb hbl)
theorem AqB:ZdF I8:=All Akr Akw S0 Apy AlV
theorem Aqx:TiF I8:=AnZ Aku Akv Akt AqC XK ApF AqB (λh hn hk=>Z7 (ZH h hn hk))
theorem Ur:SeatOk ι Bz Wh:=Zy ⟨E5,Jy,IQ,(Ao0 _),(gSk _),Ao2,trivial⟩
theorem I5(v1 v2 v3:Value)(t1:Tm)(p1:LmT t1)(t2:Tm)(p2:LmT t2)(z3:List Zi)(p3:z3.length<4611686018427387904)(q3:∀ z∈z3,Limbs z.abs)(w:World)(r1:Rep (λ_=>Ξ) (λg _=>g<w.heap.size) w (.agg (eT t1)) v1)(r2:Rep (λ_=>Ξ) (λg _=>g<w.heap.size) w (.agg (eT t2)) v2)(r3:Rep (λ_=>Ξ) (λg _=>g<w.heap.size) w (.ls (z3.map eZ)) v3) :
  Calls ι 14 #[v1,v2,v3] w λe w'=>e=.returned (.bool Δ)/\Below w.heap.size w w':=by
 have g:=YD Ur (PM Aps Apt AqC AqB Aqx ApH Aku Akv Akt XK ApA ApB Ar7 Apu Apw Apv Amm Amp t1 t2 p1 p2 z3 q3 p3) w [v1,v2,v3] (by
  simp only[RepList];exact⟨_,_,rfl,r1,_,_,rfl,r2,_,_,rfl,r3,rfl⟩)
 refine Calls.mono g ?_;rintro e w' ⟨u,rfl,hb,μ',F',hr⟩;unfold bv Rep at hr;rw[hr.1];exact⟨rfl,hb⟩
set_option maxRecDepth 100000 in
theorem Hl(os:Go.Os){H:Type}(enc:TypeId × Value->H) :
  (OpenSpec.ofChange Rows.logicComparesSpec).preRow enc ι Tryz.f14 [] Φ Xg ((IU os).forCall (λ_ _=>0) ⟨#[],#[.agg #[.slice Ξ 0 0,.bool Φ,.slice Ξ 0 0],.agg #[.slice Ξ 0 0,.bool Φ,.slice Ξ 0 0],.slice Ξ 0 0],[]⟩).memory #[.agg #[.slice Ξ 0 0,.bool Φ,.slice Ξ 0 0],.agg #[.slice Ξ 0 0,.bool Φ,.slice Ξ 0 0],.slice Ξ 0 0]:=by
 have hw:(DataW.whole enc ι ((IU os).forCall (λ_ _=>0) ⟨#[],#[.agg #[.slice Ξ 0 0,.bool Φ,.slice Ξ 0 0],.agg #[.slice Ξ 0 0,.bool Φ,.slice Ξ 0 0],.slice Ξ 0 0],[]⟩).memory Tryz.f14.params.toList (OpenSpec.ofChange Rows.logicComparesSpec).vars Φ #[Value.agg #[.slice Ξ 0 0,.bool Φ,.slice Ξ 0 0],Value.agg #[.slice Ξ 0 0,.bool Φ,.slice Ξ 0 0],Value.slice Ξ 0 0].toList 8).map (λx=>(x.1,x.2.1)) =
   some ([.agg [.nil,.agg [.lit (.bool Φ),.nil]],.agg [.nil,.agg [.lit (.bool Φ),.nil]],.nil],[]):=by kernel_rfl
 obtain⟨⟨x1,x2,x3⟩,hx,hx1⟩:=Option.map_eq_some_iff.1 hw;simp only[Prod.mk.injEq]at hx1;obtain⟨rfl,rfl⟩:=hx1;exact OpenSpec.preRow_of_cond 8 hx (by kernel_rfl) (λk hk=>by cases hk) (by kernel_rfl) (AbY os _)
set_option maxRecDepth 100000 in
theorem Ii(os:Go.Os)(started:os.Started)(H:Type)(enc:TypeId × Value->H)(F:Stop.Interp) :
  ReturnsInHanded {} Tryz.checked os 14 .any ((OpenSpec.ofChange Rows.logicComparesSpec).preRow enc ι Tryz.f14 [] Φ Xg) (((OpenSpec.ofChange Rows.logicComparesSpec).at F).post enc ι Tryz.f14 Φ Δ Φ Φ):=by
 refine Ab1 (C:=Tryz.checked) Xg 3 [4,3,134,24,26,42,84,22,28] 4 Acz started (by kernel_rfl) Tryz.func14
  (witness_row_at (enc:=enc) (C:=Tryz.checked) Φ (IU os) #[.agg #[.slice Ξ 0 0,.bool Φ,.slice Ξ 0 0],.agg #[.slice Ξ 0 0,.bool Φ,.slice Ξ 0 0],.slice Ξ 0 0] rfl (by kernel_rfl) (by kernel_rfl) (by kernel_rfl) (Hl os enc))
  (by kernel_rfl) rfl (by kernel_rfl) AbZ rfl Tryz.underlying4 rfl (λds h=>?_) (λW args xs h=>?_)
 .match ds,h with
  |[d1,d2,d3],_=>rfl
 .have h':Jp W ι [28,28,42] args.toList xs:=h
  obtain⟨args⟩:=args;obtain⟨v1,a1,x1,y1,qq,rfl,⟨cs1,E1,H1,T1,F1⟩,h'⟩:=Hw h';obtain⟨v2,a2,x2,y2,rfl,rfl,⟨cs2,E2,H2,T2,F2⟩,h'⟩:=Hw h';obtain⟨v3,a3,x3,y3,rfl,rfl,⟨cs3,E3,H3,T3,F3⟩,h'⟩:=Hw h';obtain rfl:=U4 h';have qq:args=[v1,v2,v3]:=qq;subst qq;obtain⟨t1,k1,p1⟩:=Alk T1;obtain⟨t2,k2,p2⟩:=Alk T2;obtain⟨z3,k3,p3,q3⟩:=An6 T3 F3;have i1:=OG (μ:=λ_=>Ξ) (F:=λg _=>g<W.heap.size) (λg hg _=>hg) x1 cs1 H1;rw[k1]at i1;have i2:=OG (μ:=λ_=>Ξ) (F:=λg _=>g<W.heap.size) (λg hg _=>hg) x2 cs2 H2;rw[k2]at i2;have i3:=OG (μ:=λ_=>Ξ) (F:=λg _=>g<W.heap.size) (λg hg _=>hg) x3 cs3 H3;rw[k3]at i3;obtain⟨zs1,rfl,_⟩:=T1.struct_ Tryz.underlying28;have E1:v1=.agg cs1.toArray:=E1;subst E1;obtain⟨zs2,rfl,_⟩:=T2.struct_ Tryz.underlying28;have E2:v2=.agg cs2.toArray:=E2;subst E2;obtain⟨ys3,rfl,_⟩:=T3.slice_ Tryz.underlying42;rw[RepList]at i3;obtain⟨u3,tl3,rfl,i3,j3⟩:=i3;rw[RepList]at j3;subst j3;have E3:v3=u3:=E3;subst E3;exact I5 _ _ v3 t1 p1 t2 p2 z3 p3 q3 W (by rw[Rep];exact⟨cs1.toArray,rfl,i1⟩) (by rw[Rep];exact⟨cs2.toArray,rfl,i2⟩) i3
set_option maxRecDepth 1000000 in
set_option maxHeartbeats 4000000 in
theorem Ih:joinedFacts Tryz.pinned.checked.prog 14 Tryz.f14 (OpenSpec.ofChange Rows.logicComparesSpec).bare Rows.logicComparesRow=Δ:=by
 unfold joinedFacts
 repeat' (with_reducible refine Bool.and_eq_true_iff.2 ⟨?_,?_⟩)
 all_goals (as_aux_lemma=>kernel_rfl)
theorem JL:Rows.LogicComparesSaid:=
 OpenClaim.holds_of_cond 14 Tryz.f14 rfl rfl rfl rfl rfl rfl rfl ⟨rfl,rfl,rfl,rfl,rfl⟩ rfl rfl rfl rfl rfl (by kernel_rfl) Tryz.func14 Ih
  (of_decide_eq_true (by kernel_rfl)) (by unfold Func.isWrapper;first | (rw[if_pos (by decide +kernel)];kernel_rfl) | (rw[if_neg (by decide +kernel)];exact⟨rfl,rfl⟩))
  (λos started H enc _ F=>by rw[OpenClaim.pre_eq_preRow];exact Ii os started H enc F)
set_option maxRecDepth 1000000 in
theorem LL:Rows.logicComparesRow.wfByText (OpenSpec.ofChange Rows.logicComparesSpec)=Δ:=by kernel_rfl
set_option maxRecDepth 1000000 in
theorem JK:Φ=Rows.logicComparesRow.goesBy Tryz.pinned.checked.prog:=by kernel_rfl
theorem KB:(Tryz.f14.params.toList.all λt=>!Tryz.pinned.checked.prog.wantsStandIn t)=Δ:=by kernel_rfl
theorem I6:Tryz.pinned.checked.prog.funcNamed "plumbline/plumblinelaw05.LogicCompares" = some 14:=by kernel_rfl
theorem logicCompares_holds:Rows.LogicComparesCardSaid:=
 Claim7.holds_tied_plain_at .later [] [.data,.data,.data] Δ (Δ, "71c373f515b5d6404ff57fe099454b4ae9c8cd2d69debb21d8290a970539b276") Φ
  JL (λ_ h=>by cases h) LL (λ_ h=>by cases h) logicCompares_row_tie rfl ⟨rfl,rfl⟩ Yv rfl
  (λf fn hf hfn=>by
   obtain rfl:f=14:=(Option.some.inj (I6.symm.trans hf)).symm;obtain rfl:fn=Tryz.f14:=(Option.some.inj (Tryz.func14.symm.trans hfn)).symm;refine⟨Va,λj t ht=>?_⟩;have h3:=AtN.1 KB t (List.mem_of_getElem? (by rw[Array.getElem?_toList];exact ht));exact Bool.not_eq_true' _▸h3)
  JK
