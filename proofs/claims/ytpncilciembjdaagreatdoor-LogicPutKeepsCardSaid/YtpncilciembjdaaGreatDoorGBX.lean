/- How long what is handed -/
import Derived.Test.YtpncilciembjdaaGreatDoorGBU
import Derived.Test.YtpncilciembjdaaGreatDoorGBW
import Derived.Deep.DeepHandedRow
import Derived.LaidLaws
import Derived.Test.YtpncilciembjdaaGreatDoorTie
import Derived.Test.YtpncilciembjdaaGreatDoorGBT
import Derived.Test.YtpncilciembjdaaGreatDoorCards
import Derived.ProofKit
import Derived.SevenTiedAt
set_option linter.all false
open Bool renaming false->Ξ,true->U
open List renaming all_eq_true->Aqt,map_cons->AqF,mem_cons->ι,mem_cons_of_mem->Aql,mem_cons_self->Aqs
open Nat renaming le_of_ble_eq_true->Ark
open Option renaming none->Θ
namespace Go.Proofs.YtpncilciembjdaaGreatDoor
open Go.Proofs.Tryz renaming prog->η
open Go.ChangeShapes Go.WideShapes Go.ChangeAt Go.RowKit
theorem NH{n b:Nat}(hb:2<=b)(h:n*b<=reachBytes):n<4611686018427387904:=by
 have h1:n*2<=n*b:=Nat.mul_le_mul_left n hb;have h2:reachBytes<9223372036854775808:=by decide +kernel
 omega
theorem ZY{y:D}(h:D.Typed η y 24):∃ l:List Nat,y.av=[eN l]/\Limbs l:=by
 obtain⟨xs,rfl,hx⟩:=h.slice_ Tryz.underlying24;have:∀ xs:List D,(∀ y∈xs,D.Typed η y 134)->∃ l:List Nat,xs.map D.av=l.map eL/\Limbs l:=λxs=>by
  induction xs with
  |nil=>intro _;exact⟨[],rfl,Cr⟩
  |cons x r ih=>
   intro hh;obtain⟨l,e1,e2⟩:=ih λy hy=>hh y (Aql _ hy)
   obtain⟨n,rfl,hw⟩:=(hh x (Aqs ..)).int_ Tryz.underlying134;have hw:0<=n/\n<4294967296:=by
    simp only[Lit.wf,Bool.and_eq_true,decide_eq_true_eq]at hw;have h1:IntKind.u32.min=0:=by decide
    have h2:IntKind.u32.max=4294967295:=by decide
    omega
   obtain⟨m,rfl⟩:=Int.eq_ofNat_of_zero_le hw.1;exact⟨m::l,by rw[AqF,AqF,e1];rfl,Bx (by omega) e2⟩
 obtain⟨l,e1,e2⟩:=this xs hx;exact⟨l,by rw[D.av,DM,e1];rfl,e2⟩
theorem AbN{y:D}(h:D.Typed η y 26):∃ z:Zi,y.av=eZ z/\Limbs z.abs:=by
 obtain⟨xs,rfl,g0⟩:=h.struct_ Tryz.underlying26;obtain⟨x0,r0,rfl,h0,g1⟩:=D.TypedFields.cons_ g0;obtain⟨x1,r1,rfl,h1,g2⟩:=D.TypedFields.cons_ g1;obtain rfl:=D.TypedFields.nil_ g2;obtain⟨b,rfl⟩:=h0.bool_ Tryz.underlying4;obtain⟨l,e1,e2⟩:=ZY h1;refine⟨⟨b,l⟩,?_,e2⟩
 show D.av (.agg [.bool b,x1])=_
 simp only[D.av,Gs,e1];rfl
theorem Alc{y:D}(h:D.Typed η y 42)(hf:D.Fits η y 42):∃ zs:List Zi,y.av=[.ls (zs.map eZ)]/\zs.length<4611686018427387904/\∀ z∈zs,Limbs z.abs:=by
 obtain⟨xs,rfl,hx⟩:=h.slice_ Tryz.underlying42;obtain⟨h1,h2⟩:=hf.slice_ Tryz.underlying42;have hl:=NH (Ark (by kernel_rfl)) h1;have:∀ xs:List D,(∀ y∈xs,D.Typed η y 26)->∃ zs:List Zi,xs.map D.av=zs.map eZ/\zs.length=xs.length/\∀ z∈zs,Limbs z.abs:=λxs=>by
  induction xs with
  |nil=>intro _;exact⟨[],rfl,rfl,by simp⟩
  |cons x r ih=>
   intro hh;obtain⟨zs,e1,e2,e3⟩:=ih λy hy=>hh y (Aql _ hy)
   obtain⟨z,k1,k2⟩:=AbN (hh x (Aqs ..));refine⟨z::zs,by rw[AqF,AqF,e1,k1],by simp[e2],λu hu=>?_⟩;rcases ι.1 hu with rfl|hu
   .exact k2
   .exact e3 u hu
 obtain⟨zs,e1,e2,e3⟩:=this xs hx;exact⟨zs,by rw[D.av,DM,e1],by omega,e3⟩
theorem AmR{y:D}(h:D.Typed η y 84):∃ p:Pt,y.av=eP p/\Limbs p.z.abs:=by
 obtain⟨xs,rfl,g0⟩:=h.struct_ Tryz.underlying84;obtain⟨x0,r0,rfl,h0,g1⟩:=D.TypedFields.cons_ g0;obtain⟨x1,r1,rfl,h1,g2⟩:=D.TypedFields.cons_ g1;obtain rfl:=D.TypedFields.nil_ g2;obtain⟨n,rfl,_⟩:=h0.int_ Tryz.underlying3;obtain⟨z,e1,e2⟩:=AbN h1;refine⟨⟨n,z⟩,?_,e2⟩
 show D.av (.agg [.int .i64 n,x1])=_
 simp only[D.av,Gs,e1];rfl
theorem AkL{y:D}(h:D.Typed η y 22):∃ ps:List Pt,y.av=[.ls (ps.map eP)]/\∀ p∈ps,Limbs p.z.abs:=by
 obtain⟨xs,rfl,hx⟩:=h.slice_ Tryz.underlying22;have:∀ xs:List D,(∀ y∈xs,D.Typed η y 84)->∃ ps:List Pt,xs.map D.av=ps.map eP/\∀ p∈ps,Limbs p.z.abs:=λxs=>by
  induction xs with
  |nil=>intro _;exact⟨[],rfl,by simp⟩
  |cons x r ih=>
   intro hh;obtain⟨ps,e1,e2⟩:=ih λy hy=>hh y (Aql _ hy)
   obtain⟨p,k1,k2⟩:=AmR (hh x (Aqs ..));refine⟨p::ps,by rw[AqF,AqF,e1,k1],λu hu=>?_⟩;rcases ι.1 hu with rfl|hu
   .exact k2
   .exact e2 u hu
 obtain⟨ps,e1,e2⟩:=this xs hx;exact⟨ps,by rw[D.av,DM,e1],e2⟩
theorem AiD{y:D}(h:D.Typed η y 28):∃ t:Tm,y.av=eT t/\LmT t:=by
 obtain⟨xs,rfl,g0⟩:=h.struct_ Tryz.underlying28;obtain⟨x0,r0,rfl,h0,g1⟩:=D.TypedFields.cons_ g0;obtain⟨x1,r1,rfl,h1,g2⟩:=D.TypedFields.cons_ g1;obtain rfl:=D.TypedFields.nil_ g2;obtain⟨ps,e1,e2⟩:=AkL h0;obtain⟨z,e3,e4⟩:=AbN h1;refine⟨⟨ps,z⟩,?_,⟨e2,e4⟩⟩
 show D.av (.agg [x0,x1])=_
 simp only[D.av,Gs,e1,e3];rfl
theorem Am0{y:D}(h:D.Typed η y 30):∃(t:Tm) (e:Bool),y.av=MS (t,e)/\LmT t:=by
 obtain⟨xs,rfl,g0⟩:=h.struct_ Tryz.underlying30;obtain⟨x0,r0,rfl,h0,g1⟩:=D.TypedFields.cons_ g0;obtain⟨x1,r1,rfl,h1,g2⟩:=D.TypedFields.cons_ g1;obtain rfl:=D.TypedFields.nil_ g2;obtain⟨t,e1,e2⟩:=AiD h0;obtain⟨b,rfl⟩:=h1.bool_ Tryz.underlying4;refine⟨t,b,?_,e2⟩
 show D.av (.agg [x0,.bool b])=_
 simp only[D.av,Gs,e1];rfl
theorem AlR:∀(n:Nat) (y:D),SizeOf.sizeOf y<=n->D.Typed η y 51->D.Fits η y 51->∃ x:Fm,y.av=eF x/\WzF x:=by
 intro n
 induction n with
 |zero=>intro x hx;cases x<;>simp at hx
 |succ n ih=>
  intro y hn h hf;obtain⟨xs,rfl,g0⟩:=h.struct_ Tryz.underlying51;have f0:=hf.struct_ Tryz.underlying51;obtain⟨x0,r0,rfl,h0,g1⟩:=D.TypedFields.cons_ g0;obtain⟨x1,r1,rfl,h1,g2⟩:=D.TypedFields.cons_ g1;obtain⟨x2,r2,rfl,h2,g3⟩:=D.TypedFields.cons_ g2;obtain rfl:=D.TypedFields.nil_ g3;have f1:=(D.FitsFields.cons_ f0).2;have f2:=(D.FitsFields.cons_ f1).2;obtain⟨k,rfl,_⟩:=h0.int_ Tryz.underlying3;obtain⟨t,e,er,l1⟩:=Am0 h1;obtain⟨ys,rfl,hy⟩:=h2.slice_ Tryz.underlying49;obtain⟨z1,z2⟩:=(D.FitsFields.cons_ f2).1.slice_ Tryz.underlying49;have hl:=NH (Ark (by kernel_rfl)) z1;have:∀ zs:List D,(∀ y∈zs,y∈ys)->∃ ts:List Fm,zs.map D.av=ts.map eF/\ts.length=zs.length/\∀ m∈ts,WzF m:=λzs=>by
   induction zs with
   |nil=>intro _;exact⟨[],rfl,rfl,by simp⟩
   |cons x r ih2=>
    intro hh;obtain⟨ms,e1,e2,e3⟩:=ih2 λy hy=>hh y (Aql _ hy)
    have hm:=hh x (Aqs ..);obtain⟨m,k1,k2⟩:=ih x (by
     have h3:=List.sizeOf_lt_of_mem hm;simp at hn;omega) (hy x hm) (z2 x hm)
    refine⟨m::ms,by rw[AqF,AqF,e1,k1],by simp[e2],λz hz=>?_⟩;rcases ι.1 hz with rfl|hz
    .exact k2
    .exact e3 z hz
  obtain⟨ts,e1,e2,e3⟩:=this ys λ_ h=>h
  refine⟨.mk k t e ts,?_,.mk l1 (by omega) e3⟩;rw[eF,CJ,←e1,←DM];obtain⟨ps,kz⟩:=t;rw[IS]at er;simp only[D.av,Gs,er,List.cons_append,List.nil_append];rfl
theorem Ak6{y:D}(h:D.Typed η y 57)(hf:D.Fits η y 57):∃ zs:List Tm,y.av=[.ls (zs.map eT)]/\zs.length<4611686018427387904/\∀ r∈zs,LmT r:=by
 obtain⟨xs,rfl,hx⟩:=h.slice_ Tryz.underlying57;obtain⟨h1,h2⟩:=hf.slice_ Tryz.underlying57;have hl:=NH (Ark (by kernel_rfl)) h1;have:∀ xs:List D,(∀ y∈xs,D.Typed η y 28)->∃ zs:List Tm,xs.map D.av=zs.map eT/\zs.length=xs.length/\∀ z∈zs,LmT z:=λxs=>by
  induction xs with
  |nil=>intro _;exact⟨[],rfl,rfl,by simp⟩
  |cons x r ih=>
   intro hh;obtain⟨zs,e1,e2,e3⟩:=ih λy hy=>hh y (Aql _ hy)
   obtain⟨t,k1,k2⟩:=AiD (hh x (Aqs ..));refine⟨t::zs,by rw[AqF,AqF,e1,k1],by simp[e2],λu hu=>?_⟩;rcases ι.1 hu with rfl|hu
   .exact k2
   .exact e3 u hu
 obtain⟨zs,e1,e2,e3⟩:=this xs hx;exact⟨zs,by rw[D.av,DM,e1],by omega,e3⟩
theorem ZS{H:Type}{enc:TypeId × Value->H}{C:Checked}{os:Go.Os}{f:FuncId}{fn:Func}{s:ChangeSpec}{F:Stop.Interp}(laid:List (String × DataW Unit))(n:Nat)(L:List TypeId)(tb:TypeId)
  (own:ownKnob C.prog.godebug=Θ) (started:os.Started) (noInit:C.prog.inits.idxOf? f=Θ) (hfn:C.prog.funcs[f]? = some fn)
  (witness:∃(w:World) (tape:Tape) (i:Input),w.os=os/\(w.forCall tape i).Shaped C.prog/\i.vars=[]/\Input.okWide C.prog (w.forCall tape i) .any w.heap.size f i ∧
   (OpenSpec.ofChange s).preRow enc C.prog fn [] Ξ laid (w.forCall tape i).memory i.args/\({}:Assume).holds C.prog (lone (Frame.enter C.prog f i.args .normal) [] (w.forCall tape i)))
  (hL:L.all (NA C.prog L)=U) (hn:fn.params.toList.length=n) (hin:(fn.params.toList.all λt=>L.contains t&&C.prog.readableRec t&&decide (t<C.prog.types.size))=U)
  (laidO:laidOutB C.prog=U) (hres:fn.resultTypes=#[tb]) (htb:C.prog.underlying tb=some .bool)
  (hvars:s.vars=[]) (hspec:∀ ds:List (DataW H),ds.length=n->s.fn H ds={ results:=[.lit (.bool U)],args:=ds })
  (contract:∀(W:World) (args:Array Value) (xs:List D),IG W C.prog fn.params.toList args.toList xs->Calls C.prog f args W λe W'=>e=.returned (.bool U)/\Below W.heap.size W W') :
  ReturnsInHanded {} C os f .any ((OpenSpec.ofChange s).preRow enc C.prog fn [] Ξ laid) (((OpenSpec.ofChange s).at F).post enc C.prog fn Ξ U Ξ Ξ):=by
 refine returnsInHanded_of_row own started noInit hfn witness ?_;intro W base args ds gs before hval hW _ _ hsz _ _ _;have hW':DataW.Whole enc C.prog fn.params.toList s.vars Ξ W args.toList ds gs before:=hW;have hvars':s.plain.varTypes C.prog=[]:=by unfold DataSpec.varTypes ChangeSpec.plain;simp[hvars]
 have hsz':(DataW.weightsEach C.prog (fn.params.toList++s.plain.varTypes C.prog) (ds++gs)).all (· ≤ reachBytes)=U:=hsz;obtain⟨p,q,hA,hV,rfl,hfz,hnd⟩:=hW;have hV':DataW.TrodVars enc C.prog W _ s.vars gs q:=hV;rw[hvars]at hV';have hg:gs=[]/\q=[]:=by
  cases gs with
  |nil=>exact⟨rfl,hV'⟩
  |cons _ _=>exact hV'.elim
 obtain⟨rfl,rfl⟩:=hg;have hlt:∀ x∈p++[],x.block<W.heap.size:=λx hx=>hW'.lt x hx
 have hlen:ds.length=n:=(LQ _ _ _ _ hA).trans hn;have hall:∀ t∈fn.params.toList,t∈L/\C.prog.readableRec t=U/\t<C.prog.types.size:=λt ht=>by
  have:=Aqt.1 hin t ht;simpa[and_assoc]using this
 obtain⟨xs,hxs⟩:=UY hL fn.params.toList args.toList ds p (λt ht=>(hall t ht).1) (λj t v h1 h2=>hval j t v (by simpa using h1) (by simpa using h2)) hA (λk hk=>by
  have:=Aqt.1 hsz' k;rw[hvars']at this;simpa using this (by simpa using hk))
 refine(contract W args xs hxs).mono λe W' ⟨he,hb⟩=>⟨_,he,?_⟩
 have hsp:s.fn H (ds++[])={ results:=[.lit (.bool U)],args:=ds }:=by rw[List.append_nil];exact hspec ds hlen
 show s.post enc C.prog fn Ξ U Ξ Ξ W args _ W'
 refine⟨ds,[],p++[],[],p,[],hW',?_,?_,?_,hb.frame _,λh=>by cases h⟩
 .rw[hsp,hres]
  exact trodAll_mk1 (shut_bool htb U)
 .rw[hsp]
  have:=IE (P:=C.prog) laidO hb fn.params.toList args.toList ds p (λt ht=>(hall t ht).2) (λx hx=>hlt x (by simp[hx])) hA;exact this
 .rw[hvars]
  exact(show DataW.TrodVars enc C.prog W' _ [] (s.fn H (ds++[])).vars [] from by rw[hsp];exact rfl)
def QT:DataW Unit->Array Value
 |.agg xs=>(xs.map λ| .lit (.int k n)=>Value.int k n|_=>Go.undef).toArray
 |_=>#[]
def Ui(vs:Array Value):Obj->Obj
 |.cells _ t fz=>.cells vs t fz
 |o=>o
noncomputable def H9(os:Go.Os):World:=
 { World.holding η os ⟨#[],#[],[]⟩ with heap:=(((World.holding η os ⟨#[],#[],[]⟩).heap.modify 2 (Ui (QT Rows.laid_math_bits_deBruijn32tab))).modify 3 (Ui (QT Rows.laid_math_bits_deBruijn64tab))).modify 1 (Ui (QT Rows.laid_internal_strconv_uint64pow10)) }
def Vj:List (String × DataW Unit):=[("math/bits.deBruijn32tab",Rows.laid_math_bits_deBruijn32tab),("math/bits.deBruijn64tab",Rows.laid_math_bits_deBruijn64tab),("internal/strconv.uint64pow10",Rows.laid_internal_strconv_uint64pow10)]
set_option maxRecDepth 100000 in
theorem ZP(os:Go.Os)(args:Array Value):laidMet η Vj ((H9 os).forCall (λ_ _=>0) ⟨#[],args,[]⟩).memory:=
 laidMet_of_run' 8 (by kernel_rfl) (by kernel_rfl)
set_option maxRecDepth 1000000 in
theorem Wi:Tryz.pinned.checked.prog.mainIs=some (U, "71c373f515b5d6404ff57fe099454b4ae9c8cd2d69debb21d8290a970539b276".toList):=by kernel_rfl
set_option maxRecDepth 1000000 in
theorem Tw:Ξ=Tryz.pinned.checked.prog.looks []:=by kernel_rfl
theorem Im(v1 v2 v3:Value)(g1:Fm)(p1:WzF g1)(z2:List Tm)(p2:z2.length<4611686018427387904)(q2:∀ r∈z2,LmT r)(z3:List Zi)(p3:z3.length<4611686018427387904)(q3:∀ z∈z3,Limbs z.abs)(w:World)(r1:Rep (λ_=>Θ) (λg _=>g<w.heap.size) w (.agg (eF g1)) v1)(r2:Rep (λ_=>Θ) (λg _=>g<w.heap.size) w (.ls (z2.map eT)) v2)(r3:Rep (λ_=>Θ) (λg _=>g<w.heap.size) w (.ls (z3.map eZ)) v3) :
  Calls η 13 #[v1,v2,v3] w λe w'=>e=.returned (.bool U)/\Below w.heap.size w w':=by
 have g:=Ws SR (Ql Ajz Amb AjA AoW Amm Amj Amk Amc AjB AjE (λhx hx9 h1 h2 hb=>Aox hx hx9 h1 h2 hb) (λfc hn hv h24 hl hk e=>Aow fc hn hv h24 hl hk e) g1 p1 z2 p2 q2 z3 p3 q3) w [v1,v2,v3] (by
  simp only[RepList];exact⟨_,_,rfl,r1,_,_,rfl,r2,_,_,rfl,r3,rfl⟩)
 refine Calls.mono g ?_;rintro e w' ⟨u,rfl,hb,μ',F',hr⟩;unfold bv Rep at hr;rw[hr.1];exact⟨rfl,hb⟩
set_option maxRecDepth 100000 in
theorem GC(os:Go.Os){H:Type}(enc:TypeId × Value->H) :
  (OpenSpec.ofChange Rows.logicPutKeepsSpec).preRow enc η Tryz.f13 [] Ξ Vj ((H9 os).forCall (λ_ _=>0) ⟨#[],#[.agg #[.int .i64 0,.slice Θ 0 0,.bool Ξ,.slice Θ 0 0,.bool Ξ,.slice Θ 0 0],.slice Θ 0 0,.slice Θ 0 0],[]⟩).memory #[.agg #[.int .i64 0,.slice Θ 0 0,.bool Ξ,.slice Θ 0 0,.bool Ξ,.slice Θ 0 0],.slice Θ 0 0,.slice Θ 0 0]:=by
 have hw:(DataW.whole enc η ((H9 os).forCall (λ_ _=>0) ⟨#[],#[.agg #[.int .i64 0,.slice Θ 0 0,.bool Ξ,.slice Θ 0 0,.bool Ξ,.slice Θ 0 0],.slice Θ 0 0,.slice Θ 0 0],[]⟩).memory Tryz.f13.params.toList (OpenSpec.ofChange Rows.logicPutKeepsSpec).vars Ξ #[Value.agg #[.int .i64 0,.slice Θ 0 0,.bool Ξ,.slice Θ 0 0,.bool Ξ,.slice Θ 0 0],Value.slice Θ 0 0,Value.slice Θ 0 0].toList 8).map (λx=>(x.1,x.2.1)) =
   some ([.agg [.lit (.int .i64 0),.agg [.agg [.nil,.agg [.lit (.bool Ξ),.nil]],.lit (.bool Ξ)],.nil],.nil,.nil],[]):=by kernel_rfl
 obtain⟨⟨x1,x2,x3⟩,hx,hx1⟩:=Option.map_eq_some_iff.1 hw;simp only[Prod.mk.injEq]at hx1;obtain⟨rfl,rfl⟩:=hx1;exact OpenSpec.preRow_of_cond 8 hx (by kernel_rfl) (λk hk=>by cases hk) (by kernel_rfl) (ZP os _)
set_option maxRecDepth 100000 in
theorem G7(os:Go.Os)(started:os.Started)(H:Type)(enc:TypeId × Value->H)(F:Stop.Interp) :
  ReturnsInHanded {} Tryz.checked os 13 .any ((OpenSpec.ofChange Rows.logicPutKeepsSpec).preRow enc η Tryz.f13 [] Ξ Vj) (((OpenSpec.ofChange Rows.logicPutKeepsSpec).at F).post enc η Tryz.f13 Ξ U Ξ Ξ):=by
 refine ZS (C:=Tryz.checked) Vj 3 [4,3,134,24,26,42,84,22,28,57,30,51,49] 4 Aai started (by kernel_rfl) Tryz.func13
  (witness_row_at (enc:=enc) (C:=Tryz.checked) Ξ (H9 os) #[.agg #[.int .i64 0,.slice Θ 0 0,.bool Ξ,.slice Θ 0 0,.bool Ξ,.slice Θ 0 0],.slice Θ 0 0,.slice Θ 0 0] rfl (by kernel_rfl) (by kernel_rfl) (by kernel_rfl) (GC os enc))
  (by kernel_rfl) rfl (by kernel_rfl) ZQ rfl Tryz.underlying4 rfl (λds h=>?_) (λW args xs h=>?_)
 .match ds,h with
  |[d1,d2,d3],_=>rfl
 .have h':IG W η [51,57,42] args.toList xs:=h
  obtain⟨args⟩:=args;obtain⟨v1,a1,x1,y1,qq,rfl,⟨cs1,E1,H1,T1,F1⟩,h'⟩:=GM h';obtain⟨v2,a2,x2,y2,rfl,rfl,⟨cs2,E2,H2,T2,F2⟩,h'⟩:=GM h';obtain⟨v3,a3,x3,y3,rfl,rfl,⟨cs3,E3,H3,T3,F3⟩,h'⟩:=GM h';obtain rfl:=Tp h';have qq:args=[v1,v2,v3]:=qq;subst qq;obtain⟨g1,k1,p1⟩:=AlR _ _ (Nat.le_refl _) T1 F1;obtain⟨z2,k2,p2,q2⟩:=Ak6 T2 F2;obtain⟨z3,k3,p3,q3⟩:=Alc T3 F3;have i1:=Np (μ:=λ_=>Θ) (F:=λg _=>g<W.heap.size) (λg hg _=>hg) x1 cs1 H1;rw[k1]at i1;have i2:=Np (μ:=λ_=>Θ) (F:=λg _=>g<W.heap.size) (λg hg _=>hg) x2 cs2 H2;rw[k2]at i2;have i3:=Np (μ:=λ_=>Θ) (F:=λg _=>g<W.heap.size) (λg hg _=>hg) x3 cs3 H3;rw[k3]at i3;obtain⟨zs1,rfl,_⟩:=T1.struct_ Tryz.underlying51;have E1:v1=.agg cs1.toArray:=E1;subst E1;obtain⟨ys2,rfl,_⟩:=T2.slice_ Tryz.underlying57;rw[RepList]at i2;obtain⟨u2,tl2,rfl,i2,j2⟩:=i2;rw[RepList]at j2;subst j2;have E2:v2=u2:=E2;subst E2;obtain⟨ys3,rfl,_⟩:=T3.slice_ Tryz.underlying42;rw[RepList]at i3;obtain⟨u3,tl3,rfl,i3,j3⟩:=i3;rw[RepList]at j3;subst j3;have E3:v3=u3:=E3;subst E3;exact Im _ v2 v3 g1 p1 z2 p2 q2 z3 p3 q3 W (by rw[Rep];exact⟨cs1.toArray,rfl,i1⟩) i2 i3
set_option maxRecDepth 1000000 in
set_option maxHeartbeats 4000000 in
theorem G6:joinedFacts Tryz.pinned.checked.prog 13 Tryz.f13 (OpenSpec.ofChange Rows.logicPutKeepsSpec).bare Rows.logicPutKeepsRow=U:=by
 unfold joinedFacts
 repeat' (with_reducible refine Bool.and_eq_true_iff.2 ⟨?_,?_⟩)
 all_goals (as_aux_lemma=>kernel_rfl)
theorem I1:Rows.LogicPutKeepsSaid:=
 OpenClaim.holds_of_cond 13 Tryz.f13 rfl rfl rfl rfl rfl rfl rfl ⟨rfl,rfl,rfl,rfl,rfl⟩ rfl rfl rfl rfl rfl (by kernel_rfl) Tryz.func13 G6
  (of_decide_eq_true (by kernel_rfl)) (by unfold Func.isWrapper;first | (rw[if_pos (by decide +kernel)];kernel_rfl) | (rw[if_neg (by decide +kernel)];exact⟨rfl,rfl⟩))
  (λos started H enc _ F=>by rw[OpenClaim.pre_eq_preRow];exact G7 os started H enc F)
set_option maxRecDepth 1000000 in
theorem KI:Rows.logicPutKeepsRow.wfByText (OpenSpec.ofChange Rows.logicPutKeepsSpec)=U:=by kernel_rfl
set_option maxRecDepth 1000000 in
theorem I0:Ξ=Rows.logicPutKeepsRow.goesBy Tryz.pinned.checked.prog:=by kernel_rfl
theorem JC:(Tryz.f13.params.toList.all λt=>!Tryz.pinned.checked.prog.wantsStandIn t)=U:=by kernel_rfl
theorem In:Tryz.pinned.checked.prog.funcNamed "plumbline/plumblinelaw05.LogicPutKeeps" = some 13:=by kernel_rfl
theorem logicPutKeeps_holds:Rows.LogicPutKeepsCardSaid:=
 Claim7.holds_tied_plain_at .later [] [.data,.data,.data] U (U, "71c373f515b5d6404ff57fe099454b4ae9c8cd2d69debb21d8290a970539b276") Ξ
  I1 (λ_ h=>by cases h) KI (λ_ h=>by cases h) logicPutKeeps_row_tie rfl ⟨rfl,rfl⟩ Wi rfl
  (λf fn hf hfn=>by
   obtain rfl:f=13:=(Option.some.inj (In.symm.trans hf)).symm;obtain rfl:fn=Tryz.f13:=(Option.some.inj (Tryz.func13.symm.trans hfn)).symm;refine⟨Tw,λj t ht=>?_⟩;have h3:=Aqt.1 JC t (List.mem_of_getElem? (by rw[Array.getElem?_toList];exact ht));exact Bool.not_eq_true' _▸h3)
  I0
