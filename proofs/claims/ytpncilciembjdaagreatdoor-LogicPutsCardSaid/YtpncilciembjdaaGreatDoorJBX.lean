/- How long what is handed -/
import Derived.Test.YtpncilciembjdaaGreatDoorJBU
import Derived.Test.YtpncilciembjdaaGreatDoorJBW
import Derived.Deep.DeepHandedRow
import Derived.LaidLaws
import Derived.Test.YtpncilciembjdaaGreatDoorTie
import Derived.Test.YtpncilciembjdaaGreatDoorJBT
import Derived.Test.YtpncilciembjdaaGreatDoorCards
import Derived.ProofKit
import Derived.SevenTiedAt
set_option linter.all false
open Bool renaming false->Ξ,true->U,and_eq_true->Atk
open List renaming all_eq_true->Atr,map_cons->Atu,mem_cons->Atd,mem_cons_of_mem->Atj,mem_cons_self->Atq
open Nat renaming le_of_ble_eq_true->At7
open Option renaming none->Θ
namespace Go.Proofs.YtpncilciembjdaaGreatDoor
open Go.Proofs.Tryz renaming prog->ζ
open Go.ChangeShapes Go.WideShapes Go.ChangeAt Go.RowKit
theorem Ob{n b:Nat}(hb:2<=b)(h:n*b<=reachBytes):n<4611686018427387904:=by
 have h1:n*2<=n*b:=Nat.mul_le_mul_left n hb;have h2:reachBytes<9223372036854775808:=by decide +kernel
 omega
theorem Abe{y:D}(h:D.Typed ζ y 24):∃ l:Ae,y.av=[eN l]/\Limbs l:=by
 obtain⟨xs,rfl,hx⟩:=h.slice_ Tryz.underlying24;have:∀ xs:List D,(∀ y∈xs,D.Typed ζ y 134)->∃ l:Ae,xs.map D.av=l.map eL/\Limbs l:=λxs=>by
  induction xs with
  |nil=>intro _;exact⟨[],rfl,CH⟩
  |cons x r ih=>
   intro hh;obtain⟨l,e1,e2⟩:=ih λy hy=>hh y (Atj _ hy)
   obtain⟨n,rfl,hw⟩:=(hh x (Atq ..)).int_ Tryz.underlying134;have hw:0<=n/\n<4294967296:=by
    simp only[Lit.wf,Atk,decide_eq_true_eq]at hw;have h1:IntKind.u32.min=0:=by decide
    have h2:IntKind.u32.max=4294967295:=by decide
    omega
   obtain⟨m,rfl⟩:=Int.eq_ofNat_of_zero_le hw.1;exact⟨m::l,by rw[Atu,Atu,e1];rfl,BM (by omega) e2⟩
 obtain⟨l,e1,e2⟩:=this xs hx;exact⟨l,by rw[D.av,D2,e1];rfl,e2⟩
theorem AkH{y:D}(h:D.Typed ζ y 26):∃ z:Zi,y.av=eZ z/\Limbs z.abs:=by
 obtain⟨xs,rfl,g0⟩:=h.struct_ Tryz.underlying26;obtain⟨x0,r0,rfl,h0,g1⟩:=D.TypedFields.cons_ g0;obtain⟨x1,r1,rfl,h1,g2⟩:=D.TypedFields.cons_ g1;obtain rfl:=D.TypedFields.nil_ g2;obtain⟨b,rfl⟩:=h0.bool_ Tryz.underlying4;obtain⟨l,e1,e2⟩:=Abe h1;refine⟨⟨b,l⟩,?_,e2⟩
 show D.av (.agg [.bool b,x1])=_
 simp only[D.av,GK,e1];rfl
theorem Apt{y:D}(h:D.Typed ζ y 84):∃ p:Pt,y.av=eP p/\Limbs p.z.abs:=by
 obtain⟨xs,rfl,g0⟩:=h.struct_ Tryz.underlying84;obtain⟨x0,r0,rfl,h0,g1⟩:=D.TypedFields.cons_ g0;obtain⟨x1,r1,rfl,h1,g2⟩:=D.TypedFields.cons_ g1;obtain rfl:=D.TypedFields.nil_ g2;obtain⟨n,rfl,_⟩:=h0.int_ Tryz.underlying3;obtain⟨z,e1,e2⟩:=AkH h1;refine⟨⟨n,z⟩,?_,e2⟩
 show D.av (.agg [.int .i64 n,x1])=_
 simp only[D.av,GK,e1];rfl
theorem AmM{y:D}(h:D.Typed ζ y 22):∃ ps:List Pt,y.av=[.ls (ps.map eP)]/\∀ p∈ps,Limbs p.z.abs:=by
 obtain⟨xs,rfl,hx⟩:=h.slice_ Tryz.underlying22;have:∀ xs:List D,(∀ y∈xs,D.Typed ζ y 84)->∃ ps:List Pt,xs.map D.av=ps.map eP/\∀ p∈ps,Limbs p.z.abs:=λxs=>by
  induction xs with
  |nil=>intro _;exact⟨[],rfl,by simp⟩
  |cons x r ih=>
   intro hh;obtain⟨ps,e1,e2⟩:=ih λy hy=>hh y (Atj _ hy)
   obtain⟨p,k1,k2⟩:=Apt (hh x (Atq ..));refine⟨p::ps,by rw[Atu,Atu,e1,k1],λu hu=>?_⟩;rcases Atd.1 hu with rfl|hu
   .exact k2
   .exact e2 u hu
 obtain⟨ps,e1,e2⟩:=this xs hx;exact⟨ps,by rw[D.av,D2,e1],e2⟩
theorem AkE{y:D}(h:D.Typed ζ y 28):∃ t:Tm,y.av=eT t/\LmT t:=by
 obtain⟨xs,rfl,g0⟩:=h.struct_ Tryz.underlying28;obtain⟨x0,r0,rfl,h0,g1⟩:=D.TypedFields.cons_ g0;obtain⟨x1,r1,rfl,h1,g2⟩:=D.TypedFields.cons_ g1;obtain rfl:=D.TypedFields.nil_ g2;obtain⟨ps,e1,e2⟩:=AmM h0;obtain⟨z,e3,e4⟩:=AkH h1;refine⟨⟨ps,z⟩,?_,⟨e2,e4⟩⟩
 show D.av (.agg [x0,x1])=_
 simp only[D.av,GK,e1,e3];rfl
theorem ApE{y:D}(h:D.Typed ζ y 30):∃(t:Tm) (e:Bool),y.av=Hb (t,e)/\LmT t:=by
 obtain⟨xs,rfl,g0⟩:=h.struct_ Tryz.underlying30;obtain⟨x0,r0,rfl,h0,g1⟩:=D.TypedFields.cons_ g0;obtain⟨x1,r1,rfl,h1,g2⟩:=D.TypedFields.cons_ g1;obtain rfl:=D.TypedFields.nil_ g2;obtain⟨t,e1,e2⟩:=AkE h0;obtain⟨b,rfl⟩:=h1.bool_ Tryz.underlying4;refine⟨t,b,?_,e2⟩
 show D.av (.agg [x0,.bool b])=_
 simp only[D.av,GK,e1];rfl
theorem Aoo:∀(n:Nat) (y:D),SizeOf.sizeOf y<=n->D.Typed ζ y 51->D.Fits ζ y 51->∃ x:Fm,y.av=eF x/\WzF x:=by
 intro n
 induction n with
 |zero=>intro x hx;cases x<;>simp at hx
 |succ n ih=>
  intro y hn h hf;obtain⟨xs,rfl,g0⟩:=h.struct_ Tryz.underlying51;have f0:=hf.struct_ Tryz.underlying51;obtain⟨x0,r0,rfl,h0,g1⟩:=D.TypedFields.cons_ g0;obtain⟨x1,r1,rfl,h1,g2⟩:=D.TypedFields.cons_ g1;obtain⟨x2,r2,rfl,h2,g3⟩:=D.TypedFields.cons_ g2;obtain rfl:=D.TypedFields.nil_ g3;have f1:=(D.FitsFields.cons_ f0).2;have f2:=(D.FitsFields.cons_ f1).2;obtain⟨k,rfl,_⟩:=h0.int_ Tryz.underlying3;obtain⟨t,e,er,l1⟩:=ApE h1;obtain⟨ys,rfl,hy⟩:=h2.slice_ Tryz.underlying49;obtain⟨z1,z2⟩:=(D.FitsFields.cons_ f2).1.slice_ Tryz.underlying49;have hl:=Ob (At7 (by kernel_rfl)) z1;have:∀ zs:List D,(∀ y∈zs,y∈ys)->∃ ts:List Fm,zs.map D.av=ts.map eF/\ts.length=zs.length/\∀ m∈ts,WzF m:=λzs=>by
   induction zs with
   |nil=>intro _;exact⟨[],rfl,rfl,by simp⟩
   |cons x r ih2=>
    intro hh;obtain⟨ms,e1,e2,e3⟩:=ih2 λy hy=>hh y (Atj _ hy)
    have hm:=hh x (Atq ..);obtain⟨m,k1,k2⟩:=ih x (by
     have h3:=List.sizeOf_lt_of_mem hm;simp at hn;omega) (hy x hm) (z2 x hm)
    refine⟨m::ms,by rw[Atu,Atu,e1,k1],by simp[e2],λz hz=>?_⟩;rcases Atd.1 hz with rfl|hz
    .exact k2
    .exact e3 z hz
  obtain⟨ts,e1,e2,e3⟩:=this ys λ_ h=>h
  refine⟨.mk k t e ts,?_,.mk l1 (by omega) e3⟩;rw[eF,BI,←e1,←D2];obtain⟨ps,kz⟩:=t;rw[KN]at er;simp only[D.av,GK,er,List.cons_append,List.nil_append];rfl
theorem Anb{y:D}(h:D.Typed ζ y 57)(hf:D.Fits ζ y 57):∃ zs:List Tm,y.av=[.ls (zs.map eT)]/\zs.length<4611686018427387904/\∀ r∈zs,LmT r:=by
 obtain⟨xs,rfl,hx⟩:=h.slice_ Tryz.underlying57;obtain⟨h1,h2⟩:=hf.slice_ Tryz.underlying57;have hl:=Ob (At7 (by kernel_rfl)) h1;have:∀ xs:List D,(∀ y∈xs,D.Typed ζ y 28)->∃ zs:List Tm,xs.map D.av=zs.map eT/\zs.length=xs.length/\∀ z∈zs,LmT z:=λxs=>by
  induction xs with
  |nil=>intro _;exact⟨[],rfl,rfl,by simp⟩
  |cons x r ih=>
   intro hh;obtain⟨zs,e1,e2,e3⟩:=ih λy hy=>hh y (Atj _ hy)
   obtain⟨t,k1,k2⟩:=AkE (hh x (Atq ..));refine⟨t::zs,by rw[Atu,Atu,e1,k1],by simp[e2],λu hu=>?_⟩;rcases Atd.1 hu with rfl|hu
   .exact k2
   .exact e3 u hu
 obtain⟨zs,e1,e2,e3⟩:=this xs hx;exact⟨zs,by rw[D.av,D2,e1],by omega,e3⟩
theorem Aa1{y:D}(h:D.Typed ζ y 3):∃ z:Int,y.av=[iv z]/\(-9223372036854775808<=z/\z<9223372036854775808):=by
 obtain⟨n,rfl,hw⟩:=h.int_ Tryz.underlying3;refine⟨n,rfl,?_⟩;simp only[Lit.wf,Atk,decide_eq_true_eq]at hw;have h1:IntKind.i64.min=-9223372036854775808:=by decide
 have h2:IntKind.i64.max=9223372036854775807:=by decide
 omega
theorem AlB{y:D}(h:D.Typed ζ y 56)(hf:D.Fits ζ y 56):∃ zs:List Int,y.av=[.ls (zs.map eI)]/\zs.length<4611686018427387904:=by
 obtain⟨xs,rfl,hx⟩:=h.slice_ Tryz.underlying56;obtain⟨h1,h2⟩:=hf.slice_ Tryz.underlying56;have hl:=Ob (At7 (by kernel_rfl)) h1;have:∀ xs:List D,(∀ y∈xs,D.Typed ζ y 3)->∃ zs:List Int,xs.map D.av=zs.map eI/\zs.length=xs.length:=λxs=>by
  induction xs with
  |nil=>intro _;exact⟨[],rfl,rfl⟩
  |cons x r ih=>
   intro hh;obtain⟨zs,e1,e2⟩:=ih λy hy=>hh y (Atj _ hy)
   obtain⟨z,k1,_⟩:=Aa1 (hh x (Atq ..));exact⟨z::zs,by rw[Atu,Atu,e1,k1,eI],by simp[e2]⟩
 obtain⟨zs,e1,e2⟩:=this xs hx;exact⟨zs,by rw[D.av,D2,e1],by omega⟩
theorem Aa8{H:Type}{enc:TypeId × Value->H}{C:Checked}{os:Go.Os}{f:FuncId}{fn:Func}{s:ChangeSpec}{F:Stop.Interp}(laid:List (String × DataW Unit))(n:Nat)(L:List TypeId)(tb:TypeId)
  (own:ownKnob C.prog.godebug=Θ) (started:os.Started) (noInit:C.prog.inits.idxOf? f=Θ) (hfn:C.prog.funcs[f]? = some fn)
  (witness:∃(w:World) (tape:Tape) (i:Input),w.os=os/\(w.forCall tape i).Shaped C.prog/\i.vars=[]/\Input.okWide C.prog (w.forCall tape i) .any w.heap.size f i ∧
   (OpenSpec.ofChange s).preRow enc C.prog fn [] Ξ laid (w.forCall tape i).memory i.args/\({}:Assume).holds C.prog (lone (Frame.enter C.prog f i.args .normal) [] (w.forCall tape i)))
  (hL:L.all (N5 C.prog L)=U) (hn:fn.params.toList.length=n) (hin:(fn.params.toList.all λt=>L.contains t&&C.prog.readableRec t&&decide (t<C.prog.types.size))=U)
  (laidO:laidOutB C.prog=U) (hres:fn.resultTypes=#[tb]) (htb:C.prog.underlying tb=some .bool)
  (hvars:s.vars=[]) (hspec:∀ ds:List (DataW H),ds.length=n->s.fn H ds={ results:=[.lit (.bool U)],args:=ds })
  (contract:∀(W:World) (args:Array Value) (xs:List D),IJ W C.prog fn.params.toList args.toList xs->Calls C.prog f args W λe W'=>e=.returned (.bool U)/\Below W.heap.size W W') :
  ReturnsInHanded {} C os f .any ((OpenSpec.ofChange s).preRow enc C.prog fn [] Ξ laid) (((OpenSpec.ofChange s).at F).post enc C.prog fn Ξ U Ξ Ξ):=by
 refine returnsInHanded_of_row own started noInit hfn witness ?_;intro W base args ds gs before hval hW _ _ hsz _ _ _;have hW':DataW.Whole enc C.prog fn.params.toList s.vars Ξ W args.toList ds gs before:=hW;have hvars':s.plain.varTypes C.prog=[]:=by unfold DataSpec.varTypes ChangeSpec.plain;simp[hvars]
 have hsz':(DataW.weightsEach C.prog (fn.params.toList++s.plain.varTypes C.prog) (ds++gs)).all (· ≤ reachBytes)=U:=hsz;obtain⟨p,q,hA,hV,rfl,hfz,hnd⟩:=hW;have hV':DataW.TrodVars enc C.prog W _ s.vars gs q:=hV;rw[hvars]at hV';have hg:gs=[]/\q=[]:=by
  cases gs with
  |nil=>exact⟨rfl,hV'⟩
  |cons _ _=>exact hV'.elim
 obtain⟨rfl,rfl⟩:=hg;have hlt:∀ x∈p++[],x.block<W.heap.size:=λx hx=>hW'.lt x hx
 have hlen:ds.length=n:=(Md _ _ _ _ hA).trans hn;have hall:∀ t∈fn.params.toList,t∈L/\C.prog.readableRec t=U/\t<C.prog.types.size:=λt ht=>by
  have:=Atr.1 hin t ht;simpa[and_assoc]using this
 obtain⟨xs,hxs⟩:=VK hL fn.params.toList args.toList ds p (λt ht=>(hall t ht).1) (λj t v h1 h2=>hval j t v (by simpa using h1) (by simpa using h2)) hA (λk hk=>by
  have:=Atr.1 hsz' k;rw[hvars']at this;simpa using this (by simpa using hk))
 refine(contract W args xs hxs).mono λe W' ⟨he,hb⟩=>⟨_,he,?_⟩
 have hsp:s.fn H (ds++[])={ results:=[.lit (.bool U)],args:=ds }:=by rw[List.append_nil];exact hspec ds hlen
 show s.post enc C.prog fn Ξ U Ξ Ξ W args _ W'
 refine⟨ds,[],p++[],[],p,[],hW',?_,?_,?_,hb.frame _,λh=>by cases h⟩
 .rw[hsp,hres]
  exact trodAll_mk1 (shut_bool htb U)
 .rw[hsp]
  have:=IH (P:=C.prog) laidO hb fn.params.toList args.toList ds p (λt ht=>(hall t ht).2) (λx hx=>hlt x (by simp[hx])) hA;exact this
 .rw[hvars]
  exact(show DataW.TrodVars enc C.prog W' _ [] (s.fn H (ds++[])).vars [] from by rw[hsp];exact rfl)
def Rb:DataW Unit->Array Value
 |.agg xs=>(xs.map λ| .lit (.int k n)=>Value.int k n|_=>Go.undef).toArray
 |_=>#[]
def UQ(vs:Array Value):Obj->Obj
 |.cells _ t fz=>.cells vs t fz
 |o=>o
noncomputable def Ie(os:Go.Os):World:=
 { World.holding ζ os ⟨#[],#[],[]⟩ with heap:=(((World.holding ζ os ⟨#[],#[],[]⟩).heap.modify 2 (UQ (Rb Rows.laid_math_bits_deBruijn32tab))).modify 3 (UQ (Rb Rows.laid_math_bits_deBruijn64tab))).modify 1 (UQ (Rb Rows.laid_internal_strconv_uint64pow10)) }
def We:List (String × DataW Unit):=[("math/bits.deBruijn32tab",Rows.laid_math_bits_deBruijn32tab),("math/bits.deBruijn64tab",Rows.laid_math_bits_deBruijn64tab),("internal/strconv.uint64pow10",Rows.laid_internal_strconv_uint64pow10)]
set_option maxRecDepth 100000 in
theorem Aa5(os:Go.Os)(args:Array Value):laidMet ζ We ((Ie os).forCall (λ_ _=>0) ⟨#[],args,[]⟩).memory:=
 laidMet_of_run' 8 (by kernel_rfl) (by kernel_rfl)
set_option maxRecDepth 1000000 in
theorem Xf:Tryz.pinned.checked.prog.mainIs=some (U, "71c373f515b5d6404ff57fe099454b4ae9c8cd2d69debb21d8290a970539b276".toList):=by kernel_rfl
set_option maxRecDepth 1000000 in
theorem T8:Ξ=Tryz.pinned.checked.prog.looks []:=by kernel_rfl
theorem Mm(v1 v2 v3 v4:Value)(g1:Fm)(p1:WzF g1)(z2:List Int)(p2:z2.length<4611686018427387904)(z3:List Tm)(p3:z3.length<4611686018427387904)(q3:∀ r∈z3,LmT r)(z4:Int)(p4:-9223372036854775808<=z4/\z4<9223372036854775808)(w:World)(r1:Rep (λ_=>Θ) (λg _=>g<w.heap.size) w (.agg (eF g1)) v1)(r2:Rep (λ_=>Θ) (λg _=>g<w.heap.size) w (.ls (z2.map eI)) v2)(r3:Rep (λ_=>Θ) (λg _=>g<w.heap.size) w (.ls (z3.map eT)) v3)(r4:Rep (λ_=>Θ) (λg _=>g<w.heap.size) w (iv z4) v4) :
  Calls ζ 10 #[v1,v2,v3,v4] w λe w'=>e=.returned (.bool U)/\Below w.heap.size w w':=by
 have g:=Xo Tq (Abh AlC AmO g1 p1 z2 p2 z3 p3 q3 z4) w [v1,v2,v3,v4] (by
  simp only[RepList];exact⟨_,_,rfl,r1,_,_,rfl,r2,_,_,rfl,r3,_,_,rfl,r4,rfl⟩)
 refine Calls.mono g ?_;rintro e w' ⟨u,rfl,hb,μ',F',hr⟩;unfold bv Rep at hr;rw[hr.1];exact⟨rfl,hb⟩
set_option maxRecDepth 100000 in
theorem JI(os:Go.Os){H:Type}(enc:TypeId × Value->H) :
  (OpenSpec.ofChange Rows.logicPutsSpec).preRow enc ζ Tryz.f10 [] Ξ We ((Ie os).forCall (λ_ _=>0) ⟨#[],#[.agg #[.int .i64 0,.slice Θ 0 0,.bool Ξ,.slice Θ 0 0,.bool Ξ,.slice Θ 0 0],.slice Θ 0 0,.slice Θ 0 0,.int .i64 0],[]⟩).memory #[.agg #[.int .i64 0,.slice Θ 0 0,.bool Ξ,.slice Θ 0 0,.bool Ξ,.slice Θ 0 0],.slice Θ 0 0,.slice Θ 0 0,.int .i64 0]:=by
 have hw:(DataW.whole enc ζ ((Ie os).forCall (λ_ _=>0) ⟨#[],#[.agg #[.int .i64 0,.slice Θ 0 0,.bool Ξ,.slice Θ 0 0,.bool Ξ,.slice Θ 0 0],.slice Θ 0 0,.slice Θ 0 0,.int .i64 0],[]⟩).memory Tryz.f10.params.toList (OpenSpec.ofChange Rows.logicPutsSpec).vars Ξ #[Value.agg #[.int .i64 0,.slice Θ 0 0,.bool Ξ,.slice Θ 0 0,.bool Ξ,.slice Θ 0 0],Value.slice Θ 0 0,Value.slice Θ 0 0,Value.int .i64 0].toList 8).map (λx=>(x.1,x.2.1)) =
   some ([.agg [.lit (.int .i64 0),.agg [.agg [.nil,.agg [.lit (.bool Ξ),.nil]],.lit (.bool Ξ)],.nil],.nil,.nil,.lit (.int .i64 0)],[]):=by kernel_rfl
 obtain⟨⟨x1,x2,x3⟩,hx,hx1⟩:=Option.map_eq_some_iff.1 hw;simp only[Prod.mk.injEq]at hx1;obtain⟨rfl,rfl⟩:=hx1;exact OpenSpec.preRow_of_cond 8 hx (by kernel_rfl) (λk hk=>by cases hk) (by kernel_rfl) (Aa5 os _)
set_option maxRecDepth 100000 in
theorem K3(os:Go.Os)(started:os.Started)(H:Type)(enc:TypeId × Value->H)(F:Stop.Interp) :
  ReturnsInHanded {} Tryz.checked os 10 .any ((OpenSpec.ofChange Rows.logicPutsSpec).preRow enc ζ Tryz.f10 [] Ξ We) (((OpenSpec.ofChange Rows.logicPutsSpec).at F).post enc ζ Tryz.f10 Ξ U Ξ Ξ):=by
 refine Aa8 (C:=Tryz.checked) We 4 [4,3,134,24,26,84,22,28,57,30,51,49,56] 4 AbK started (by kernel_rfl) Tryz.func10
  (witness_row_at (enc:=enc) (C:=Tryz.checked) Ξ (Ie os) #[.agg #[.int .i64 0,.slice Θ 0 0,.bool Ξ,.slice Θ 0 0,.bool Ξ,.slice Θ 0 0],.slice Θ 0 0,.slice Θ 0 0,.int .i64 0] rfl (by kernel_rfl) (by kernel_rfl) (by kernel_rfl) (JI os enc))
  (by kernel_rfl) rfl (by kernel_rfl) Aa6 rfl Tryz.underlying4 rfl (λds h=>?_) (λW args xs h=>?_)
 .match ds,h with
  |[d1,d2,d3,d4],_=>rfl
 .have h':IJ W ζ [51,56,57,3] args.toList xs:=h
  obtain⟨args⟩:=args;obtain⟨v1,a1,x1,y1,qq,rfl,⟨cs1,E1,H1,T1,F1⟩,h'⟩:=E8 h';obtain⟨v2,a2,x2,y2,rfl,rfl,⟨cs2,E2,H2,T2,F2⟩,h'⟩:=E8 h';obtain⟨v3,a3,x3,y3,rfl,rfl,⟨cs3,E3,H3,T3,F3⟩,h'⟩:=E8 h';obtain⟨v4,a4,x4,y4,rfl,rfl,⟨cs4,E4,H4,T4,F4⟩,h'⟩:=E8 h';obtain rfl:=TX h';have qq:args=[v1,v2,v3,v4]:=qq;subst qq;obtain⟨g1,k1,p1⟩:=Aoo _ _ (Nat.le_refl _) T1 F1;obtain⟨z2,k2,p2⟩:=AlB T2 F2;obtain⟨z3,k3,p3,q3⟩:=Anb T3 F3;obtain⟨z4,k4,p4⟩:=Aa1 T4;have i1:=KZ (μ:=λ_=>Θ) (F:=λg _=>g<W.heap.size) (λg hg _=>hg) x1 cs1 H1;rw[k1]at i1;have i2:=KZ (μ:=λ_=>Θ) (F:=λg _=>g<W.heap.size) (λg hg _=>hg) x2 cs2 H2;rw[k2]at i2;have i3:=KZ (μ:=λ_=>Θ) (F:=λg _=>g<W.heap.size) (λg hg _=>hg) x3 cs3 H3;rw[k3]at i3;have i4:=KZ (μ:=λ_=>Θ) (F:=λg _=>g<W.heap.size) (λg hg _=>hg) x4 cs4 H4;rw[k4]at i4;obtain⟨zs1,rfl,_⟩:=T1.struct_ Tryz.underlying51;have E1:v1=.agg cs1.toArray:=E1;subst E1;obtain⟨ys2,rfl,_⟩:=T2.slice_ Tryz.underlying56;rw[RepList]at i2;obtain⟨u2,YR,rfl,i2,j2⟩:=i2;rw[RepList]at j2;subst j2;have E2:v2=u2:=E2;subst E2;obtain⟨ys3,rfl,_⟩:=T3.slice_ Tryz.underlying57;rw[RepList]at i3;obtain⟨u3,tl3,rfl,i3,j3⟩:=i3;rw[RepList]at j3;subst j3;have E3:v3=u3:=E3;subst E3;obtain⟨n4,rfl,_⟩:=T4.int_ Tryz.underlying3;rw[RepList]at i4;obtain⟨u4,tl4,rfl,i4,j4⟩:=i4;rw[RepList]at j4;subst j4;have E4:v4=u4:=E4;subst E4;exact Mm _ v2 v3 v4 g1 p1 z2 p2 z3 p3 q3 z4 p4 W (by rw[Rep];exact⟨cs1.toArray,rfl,i1⟩) i2 i3 i4
set_option maxRecDepth 1000000 in
set_option maxHeartbeats 4000000 in
theorem K0:joinedFacts Tryz.pinned.checked.prog 10 Tryz.f10 (OpenSpec.ofChange Rows.logicPutsSpec).bare Rows.logicPutsRow=U:=by
 unfold joinedFacts
 repeat' (with_reducible refine Bool.and_eq_true_iff.2 ⟨?_,?_⟩)
 all_goals (as_aux_lemma=>kernel_rfl)
theorem NS:Rows.LogicPutsSaid:=
 OpenClaim.holds_of_cond 10 Tryz.f10 rfl rfl rfl rfl rfl rfl rfl ⟨rfl,rfl,rfl,rfl,rfl⟩ rfl rfl rfl rfl rfl (by kernel_rfl) Tryz.func10 K0
  (of_decide_eq_true (by kernel_rfl)) (by unfold Func.isWrapper;first | (rw[Ac (by decide +kernel)];kernel_rfl) | (rw[Ad (by decide +kernel)];exact⟨rfl,rfl⟩))
  (λos started H enc _ F=>by rw[OpenClaim.pre_eq_preRow];exact K3 os started H enc F)
set_option maxRecDepth 1000000 in
theorem QE:Rows.logicPutsRow.wfByText (OpenSpec.ofChange Rows.logicPutsSpec)=U:=by kernel_rfl
set_option maxRecDepth 1000000 in
theorem NR:Ξ=Rows.logicPutsRow.goesBy Tryz.pinned.checked.prog:=by kernel_rfl
theorem OT:(Tryz.f10.params.toList.all λt=>!Tryz.pinned.checked.prog.wantsStandIn t)=U:=by kernel_rfl
theorem Mn:Tryz.pinned.checked.prog.funcNamed "plumbline/plumblinelaw05.LogicPuts" = some 10:=by kernel_rfl
theorem logicPuts_holds:Rows.LogicPutsCardSaid:=
 Claim7.holds_tied_plain_at .later [] [.data,.data,.data] U (U, "71c373f515b5d6404ff57fe099454b4ae9c8cd2d69debb21d8290a970539b276") Ξ
  NS (λ_ h=>by cases h) QE (λ_ h=>by cases h) logicPuts_row_tie rfl ⟨rfl,rfl⟩ Xf rfl
  (λf fn hf hfn=>by
   obtain rfl:f=10:=(Option.some.inj (Mn.symm.trans hf)).symm;obtain rfl:fn=Tryz.f10:=(Option.some.inj (Tryz.func10.symm.trans hfn)).symm;refine⟨T8,λj t ht=>?_⟩;have h3:=Atr.1 OT t (List.mem_of_getElem? (by rw[Array.getElem?_toList];exact ht));exact Bool.not_eq_true' _▸h3)
  NR
