/- How long what is handed -/
import Derived.Test.YtpncilciembjdaaGreatDoorHBU
import Derived.Test.YtpncilciembjdaaGreatDoorHBW
import Derived.Test.YtpncilciembjdaaGreatDoorHBT
import Derived.Deep.DeepHandedRow
import Derived.LaidLaws
import Derived.Test.YtpncilciembjdaaGreatDoorTie
import Derived.Test.YtpncilciembjdaaGreatDoorHBS
import Derived.Test.YtpncilciembjdaaGreatDoorCards
import Derived.ProofKit
import Derived.SevenTiedAt
set_option linter.all false
open Bool renaming false->Φ,true->Δ
open List renaming all_eq_true->Awr,map_cons->Awq,mem_cons->Awj,mem_cons_of_mem->Awk,mem_cons_self->Awi
open Nat renaming le_refl->π
open Option renaming none->Ξ
namespace Go.Proofs.YtpncilciembjdaaGreatDoor
open Go.Proofs.Tryz renaming prog->Av9
open Go.ChangeShapes Go.WideShapes Go.ChangeAt Go.RowKit
theorem AdX{n b:Nat}(hb:2<=b)(h:n*b<=reachBytes):n<4611686018427387904:=by
 have h1:n*2<=n*b:=Nat.mul_le_mul_left n hb;have h2:reachBytes<9223372036854775808:=by decide +kernel
 omega
theorem Adg{y:D}(h:D.Typed Av9 y 24):∃ l:Af,y.av=[eN l]/\Limbs l:=by
 obtain⟨xs,rfl,hx⟩:=h.slice_ Tryz.underlying24;have:∀ xs:List D,(∀ y∈xs,D.Typed Av9 y 134)->∃ l:Af,xs.map D.av=l.map eL/\Limbs l:=λxs=>by
  induction xs with
  |nil=>intro _;exact⟨[],rfl,BY⟩
  |cons x r ih=>
   intro hh;obtain⟨l,e1,e2⟩:=ih λy hy=>hh y (Awk _ hy)
   obtain⟨n,rfl,hw⟩:=(hh x (Awi ..)).int_ Tryz.underlying134;have hw:0<=n/\n<4294967296:=by
    simp only[Lit.wf,Bool.and_eq_true,decide_eq_true_eq]at hw;have h1:IntKind.u32.min=0:=by decide
    have h2:IntKind.u32.max=4294967295:=by decide
    omega
   obtain⟨m,rfl⟩:=Int.eq_ofNat_of_zero_le hw.1;exact⟨m::l,by rw[Awq,Awq,e1];rfl,Bv (by omega) e2⟩
 obtain⟨l,e1,e2⟩:=this xs hx;exact⟨l,by rw[D.av,G8,e1];rfl,e2⟩
theorem AmW{y:D}(h:D.Typed Av9 y 26):∃ z:Zi,y.av=eZ z/\Limbs z.abs:=by
 obtain⟨xs,rfl,g0⟩:=h.struct_ Tryz.underlying26;obtain⟨x0,r0,rfl,h0,g1⟩:=D.TypedFields.cons_ g0;obtain⟨x1,r1,rfl,h1,g2⟩:=D.TypedFields.cons_ g1;obtain rfl:=D.TypedFields.nil_ g2;obtain⟨b,rfl⟩:=h0.bool_ Tryz.underlying4;obtain⟨l,e1,e2⟩:=Adg h1;refine⟨⟨b,l⟩,?_,e2⟩
 show D.av (.agg [.bool b,x1])=_
 simp only[D.av,HI,e1];rfl
theorem Ar1{y:D}(h:D.Typed Av9 y 84):∃ p:Pt,y.av=eP p/\Limbs p.z.abs:=by
 obtain⟨xs,rfl,g0⟩:=h.struct_ Tryz.underlying84;obtain⟨x0,r0,rfl,h0,g1⟩:=D.TypedFields.cons_ g0;obtain⟨x1,r1,rfl,h1,g2⟩:=D.TypedFields.cons_ g1;obtain rfl:=D.TypedFields.nil_ g2;obtain⟨n,rfl,_⟩:=h0.int_ Tryz.underlying3;obtain⟨z,e1,e2⟩:=AmW h1;refine⟨⟨n,z⟩,?_,e2⟩
 show D.av (.agg [.int .i64 n,x1])=_
 simp only[D.av,HI,e1];rfl
theorem Apf{y:D}(h:D.Typed Av9 y 22):∃ ps:List Pt,y.av=[.ls (ps.map eP)]/\∀ p∈ps,Limbs p.z.abs:=by
 obtain⟨xs,rfl,hx⟩:=h.slice_ Tryz.underlying22;have:∀ xs:List D,(∀ y∈xs,D.Typed Av9 y 84)->∃ ps:List Pt,xs.map D.av=ps.map eP/\∀ p∈ps,Limbs p.z.abs:=λxs=>by
  induction xs with
  |nil=>intro _;exact⟨[],rfl,by simp⟩
  |cons x r ih=>
   intro hh;obtain⟨ps,e1,e2⟩:=ih λy hy=>hh y (Awk _ hy)
   obtain⟨p,k1,k2⟩:=Ar1 (hh x (Awi ..));refine⟨p::ps,by rw[Awq,Awq,e1,k1],λu hu=>?_⟩;rcases Awj.1 hu with rfl|hu
   .exact k2
   .exact e2 u hu
 obtain⟨ps,e1,e2⟩:=this xs hx;exact⟨ps,by rw[D.av,G8,e1],e2⟩
theorem Asu{y:D}(h:D.Typed Av9 y 28):∃ t:Tm,y.av=eT t/\LmT t:=by
 obtain⟨xs,rfl,g0⟩:=h.struct_ Tryz.underlying28;obtain⟨x0,r0,rfl,h0,g1⟩:=D.TypedFields.cons_ g0;obtain⟨x1,r1,rfl,h1,g2⟩:=D.TypedFields.cons_ g1;obtain rfl:=D.TypedFields.nil_ g2;obtain⟨ps,e1,e2⟩:=Apf h0;obtain⟨z,e3,e4⟩:=AmW h1;refine⟨⟨ps,z⟩,?_,⟨e2,e4⟩⟩
 show D.av (.agg [x0,x1])=_
 simp only[D.av,HI,e1,e3];rfl
theorem Asg{y:D}(h:D.Typed Av9 y 30):∃(t:Tm) (e:Bool),y.av=JQ (t,e)/\LmT t:=by
 obtain⟨xs,rfl,g0⟩:=h.struct_ Tryz.underlying30;obtain⟨x0,r0,rfl,h0,g1⟩:=D.TypedFields.cons_ g0;obtain⟨x1,r1,rfl,h1,g2⟩:=D.TypedFields.cons_ g1;obtain rfl:=D.TypedFields.nil_ g2;obtain⟨t,e1,e2⟩:=Asu h0;obtain⟨b,rfl⟩:=h1.bool_ Tryz.underlying4;refine⟨t,b,?_,e2⟩
 show D.av (.agg [x0,.bool b])=_
 simp only[D.av,HI,e1];rfl
theorem Ale:∀(n:Nat) (y:D),SizeOf.sizeOf y<=n->D.Typed Av9 y 51->D.Fits Av9 y 51->∃ x:Fm,y.av=eF x/\WzF x:=by
 intro n
 induction n with
 |zero=>intro x hx;cases x<;>simp at hx
 |succ n ih=>
  intro y hn h hf;obtain⟨xs,rfl,g0⟩:=h.struct_ Tryz.underlying51;have f0:=hf.struct_ Tryz.underlying51;obtain⟨x0,r0,rfl,h0,g1⟩:=D.TypedFields.cons_ g0;obtain⟨x1,r1,rfl,h1,g2⟩:=D.TypedFields.cons_ g1;obtain⟨x2,r2,rfl,h2,g3⟩:=D.TypedFields.cons_ g2;obtain rfl:=D.TypedFields.nil_ g3;have f1:=(D.FitsFields.cons_ f0).2;have f2:=(D.FitsFields.cons_ f1).2;obtain⟨k,rfl,_⟩:=h0.int_ Tryz.underlying3;obtain⟨t,e,er,l1⟩:=Asg h1;obtain⟨ys,rfl,hy⟩:=h2.slice_ Tryz.underlying49;obtain⟨z1,z2⟩:=(D.FitsFields.cons_ f2).1.slice_ Tryz.underlying49;have hl:=AdX (Nat.le_of_ble_eq_true (by kernel_rfl)) z1;have:∀ zs:List D,(∀ y∈zs,y∈ys)->∃ ts:List Fm,zs.map D.av=ts.map eF/\ts.length=zs.length/\∀ m∈ts,WzF m:=λzs=>by
   induction zs with
   |nil=>intro _;exact⟨[],rfl,rfl,by simp⟩
   |cons x r ih2=>
    intro hh;obtain⟨ms,e1,e2,e3⟩:=ih2 λy hy=>hh y (Awk _ hy)
    have hm:=hh x (Awi ..);obtain⟨m,k1,k2⟩:=ih x (by
     have h3:=List.sizeOf_lt_of_mem hm;simp at hn;omega) (hy x hm) (z2 x hm)
    refine⟨m::ms,by rw[Awq,Awq,e1,k1],by simp[e2],λz hz=>?_⟩;rcases Awj.1 hz with rfl|hz
    .exact k2
    .exact e3 z hz
  obtain⟨ts,e1,e2,e3⟩:=this ys λ_ h=>h
  refine⟨.mk k t e ts,?_,.mk l1 (by omega) e3⟩;rw[eF,AY,←e1,←G8];obtain⟨ps,kz⟩:=t;rw[E9]at er;simp only[D.av,HI,er,List.cons_append,List.nil_append];rfl
theorem Ac6{H:Type}{enc:TypeId × Value->H}{C:Checked}{os:Go.Os}{f:FuncId}{fn:Func}{s:ChangeSpec}{F:Stop.Interp}(laid:List (String × DataW Unit))(n:Nat)(L:List TypeId)(tb:TypeId)
  (own:ownKnob C.prog.godebug=Ξ) (started:os.Started) (noInit:C.prog.inits.idxOf? f=Ξ) (hfn:C.prog.funcs[f]? = some fn)
  (witness:∃(w:World) (tape:Tape) (i:Input),w.os=os/\(w.forCall tape i).Shaped C.prog/\i.vars=[]/\Input.okWide C.prog (w.forCall tape i) .any w.heap.size f i ∧
   (OpenSpec.ofChange s).preRow enc C.prog fn [] Φ laid (w.forCall tape i).memory i.args/\({}:Assume).holds C.prog (lone (Frame.enter C.prog f i.args .normal) [] (w.forCall tape i)))
  (hL:L.all (Pb C.prog L)=Δ) (hn:fn.params.toList.length=n) (hin:(fn.params.toList.all λt=>L.contains t&&C.prog.readableRec t&&decide (t<C.prog.types.size))=Δ)
  (laidO:laidOutB C.prog=Δ) (hres:fn.resultTypes=#[tb]) (htb:C.prog.underlying tb=some .bool)
  (hvars:s.vars=[]) (hspec:∀ ds:List (DataW H),ds.length=n->s.fn H ds={ results:=[.lit (.bool Δ)],args:=ds })
  (contract:∀(W:World) (args:Array Value) (xs:List D),JE W C.prog fn.params.toList args.toList xs->Calls C.prog f args W λe W'=>e=.returned (.bool Δ)/\Below W.heap.size W W') :
  ReturnsInHanded {} C os f .any ((OpenSpec.ofChange s).preRow enc C.prog fn [] Φ laid) (((OpenSpec.ofChange s).at F).post enc C.prog fn Φ Δ Φ Φ):=by
 refine returnsInHanded_of_row own started noInit hfn witness ?_;intro W base args ds gs before hval hW _ _ hsz _ _ _;have hW':DataW.Whole enc C.prog fn.params.toList s.vars Φ W args.toList ds gs before:=hW;have hvars':s.plain.varTypes C.prog=[]:=by unfold DataSpec.varTypes ChangeSpec.plain;simp[hvars]
 have hsz':(DataW.weightsEach C.prog (fn.params.toList++s.plain.varTypes C.prog) (ds++gs)).all (· ≤ reachBytes)=Δ:=hsz;obtain⟨p,q,hA,hV,rfl,hfz,hnd⟩:=hW;have hV':DataW.TrodVars enc C.prog W _ s.vars gs q:=hV;rw[hvars]at hV';have hg:gs=[]/\q=[]:=by
  cases gs with
  |nil=>exact⟨rfl,hV'⟩
  |cons _ _=>exact hV'.elim
 obtain⟨rfl,rfl⟩:=hg;have hlt:∀ x∈p++[],x.block<W.heap.size:=λx hx=>hW'.lt x hx
 have hlen:ds.length=n:=(M6 _ _ _ _ hA).trans hn;have hall:∀ t∈fn.params.toList,t∈L/\C.prog.readableRec t=Δ/\t<C.prog.types.size:=λt ht=>by
  have:=Awr.1 hin t ht;simpa[and_assoc]using this
 obtain⟨xs,hxs⟩:=Xv hL fn.params.toList args.toList ds p (λt ht=>(hall t ht).1) (λj t v h1 h2=>hval j t v (by simpa using h1) (by simpa using h2)) hA (λk hk=>by
  have:=Awr.1 hsz' k;rw[hvars']at this;simpa using this (by simpa using hk))
 refine(contract W args xs hxs).mono λe W' ⟨he,hb⟩=>⟨_,he,?_⟩
 have hsp:s.fn H (ds++[])={ results:=[.lit (.bool Δ)],args:=ds }:=by rw[List.append_nil];exact hspec ds hlen
 show s.post enc C.prog fn Φ Δ Φ Φ W args _ W'
 refine⟨ds,[],p++[],[],p,[],hW',?_,?_,?_,hb.frame _,λh=>by cases h⟩
 .rw[hsp,hres]
  exact trodAll_mk1 (shut_bool htb Δ)
 .rw[hsp]
  have:=JC (P:=C.prog) laidO hb fn.params.toList args.toList ds p (λt ht=>(hall t ht).2) (λx hx=>hlt x (by simp[hx])) hA;exact this
 .rw[hvars]
  exact(show DataW.TrodVars enc C.prog W' _ [] (s.fn H (ds++[])).vars [] from by rw[hsp];exact rfl)
def Ta:DataW Unit->Array Value
 |.agg xs=>(xs.map λ| .lit (.int k n)=>Value.int k n|_=>Go.undef).toArray
 |_=>#[]
def Wv(vs:Array Value):Obj->Obj
 |.cells _ t fz=>.cells vs t fz
 |o=>o
noncomputable def Ja(os:Go.Os):World:=
 { World.holding Av9 os ⟨#[],#[],[]⟩ with heap:=(((World.holding Av9 os ⟨#[],#[],[]⟩).heap.modify 2 (Wv (Ta Rows.laid_math_bits_deBruijn32tab))).modify 3 (Wv (Ta Rows.laid_math_bits_deBruijn64tab))).modify 1 (Wv (Ta Rows.laid_internal_strconv_uint64pow10)) }
def X5:List (String × DataW Unit):=[("math/bits.deBruijn32tab",Rows.laid_math_bits_deBruijn32tab),("math/bits.deBruijn64tab",Rows.laid_math_bits_deBruijn64tab),("internal/strconv.uint64pow10",Rows.laid_internal_strconv_uint64pow10)]
set_option maxRecDepth 100000 in
theorem Ac3(os:Go.Os)(args:Array Value):laidMet Av9 X5 ((Ja os).forCall (λ_ _=>0) ⟨#[],args,[]⟩).memory:=
 laidMet_of_run' 8 (by kernel_rfl) (by kernel_rfl)
set_option maxRecDepth 1000000 in
theorem Zn:Tryz.pinned.checked.prog.mainIs=some (Δ, "71c373f515b5d6404ff57fe099454b4ae9c8cd2d69debb21d8290a970539b276".toList):=by kernel_rfl
set_option maxRecDepth 1000000 in
theorem VO:Φ=Tryz.pinned.checked.prog.looks []:=by kernel_rfl
theorem An5:Gz.ask (.fn 34) [] []=some (bv Δ,[]):=AkN Agh
theorem TC:CloneF Gz where
 nat l h:=AaQ (LI h)
theorem AsA:ZF Gz:=AmV AlX Al4 TC
theorem Auq:RF Gz:=Asd AlY Al0
theorem YF:PartF Gz where
 clone l h:=AaR (Od h)
 grow n h:=AeV (ZE h)
theorem Anx:DivF Gz where
 div _ _ ha hal hb hbl:=AkO (ArP ha hal hb hbl)
theorem Asy:ZdF Gz:=AmU AlX Al4 TC Aq7 Anx
theorem Ast:TiF Gz 20:=ApB Al2 Al3 (Asm Al1) AsA YF Arh Asy (λh hn hk=>AaS (W8 h hn hk))
theorem Aun:RdF Gz:=Asb AlY Al0 Arb Aq9
theorem U8:SeatOk Av9 B4 W1:=Aat ⟨Fk,JM,I6,(Aqq _),(At3 _),Aqs,trivial⟩
theorem L7(v1 v2:Value)(g1:Fm)(p1:WzF g1)(g2:Fm)(p2:WzF g2)(w:World)(r1:Rep (λ_=>Ξ) (λg _=>g<w.heap.size) w (.agg (eF g1)) v1)(r2:Rep (λ_=>Ξ) (λg _=>g<w.heap.size) w (.agg (eF g2)) v2) :
  Calls Av9 9 #[v1,v2] w λe w'=>e=.returned (.bool Δ)/\Below w.heap.size w w':=by
 have g:=Zw U8 (WA Aq0 Aq1 AsA Asy Ast Ari Al2 Al3 (Asm Al1) YF Aq8 Aq5 Aq2 AlZ Ard Ara Auq Arc Aun Are Arf (Ase AlZ) Aq4 Aq3 An0 An5 g1 g2 p1 p2) w [v1,v2] (by
  simp only[RepList];exact⟨_,_,rfl,r1,_,_,rfl,r2,rfl⟩)
 refine Calls.mono g ?_;rintro e w' ⟨u,rfl,hb,μ',F',hr⟩;unfold bv Rep at hr;rw[hr.1];exact⟨rfl,hb⟩
set_option maxRecDepth 100000 in
theorem JZ(os:Go.Os){H:Type}(enc:TypeId × Value->H) :
  (OpenSpec.ofChange Rows.logicFlatsSpec).preRow enc Av9 Tryz.f9 [] Φ X5 ((Ja os).forCall (λ_ _=>0) ⟨#[],#[.agg #[.int .i64 0,.slice Ξ 0 0,.bool Φ,.slice Ξ 0 0,.bool Φ,.slice Ξ 0 0],.agg #[.int .i64 0,.slice Ξ 0 0,.bool Φ,.slice Ξ 0 0,.bool Φ,.slice Ξ 0 0]],[]⟩).memory #[.agg #[.int .i64 0,.slice Ξ 0 0,.bool Φ,.slice Ξ 0 0,.bool Φ,.slice Ξ 0 0],.agg #[.int .i64 0,.slice Ξ 0 0,.bool Φ,.slice Ξ 0 0,.bool Φ,.slice Ξ 0 0]]:=by
 have hw:(DataW.whole enc Av9 ((Ja os).forCall (λ_ _=>0) ⟨#[],#[.agg #[.int .i64 0,.slice Ξ 0 0,.bool Φ,.slice Ξ 0 0,.bool Φ,.slice Ξ 0 0],.agg #[.int .i64 0,.slice Ξ 0 0,.bool Φ,.slice Ξ 0 0,.bool Φ,.slice Ξ 0 0]],[]⟩).memory Tryz.f9.params.toList (OpenSpec.ofChange Rows.logicFlatsSpec).vars Φ #[Value.agg #[.int .i64 0,.slice Ξ 0 0,.bool Φ,.slice Ξ 0 0,.bool Φ,.slice Ξ 0 0],Value.agg #[.int .i64 0,.slice Ξ 0 0,.bool Φ,.slice Ξ 0 0,.bool Φ,.slice Ξ 0 0]].toList 8).map (λx=>(x.1,x.2.1)) =
   some ([.agg [.lit (.int .i64 0),.agg [.agg [.nil,.agg [.lit (.bool Φ),.nil]],.lit (.bool Φ)],.nil],.agg [.lit (.int .i64 0),.agg [.agg [.nil,.agg [.lit (.bool Φ),.nil]],.lit (.bool Φ)],.nil]],[]):=by kernel_rfl
 obtain⟨⟨x1,x2,x3⟩,hx,hx1⟩:=Option.map_eq_some_iff.1 hw;simp only[Prod.mk.injEq]at hx1;obtain⟨rfl,rfl⟩:=hx1;exact OpenSpec.preRow_of_cond 8 hx (by kernel_rfl) (λk hk=>by cases hk) (by kernel_rfl) (Ac3 os _)
set_option maxRecDepth 100000 in
theorem KV(os:Go.Os)(started:os.Started)(H:Type)(enc:TypeId × Value->H)(F:Stop.Interp) :
  ReturnsInHanded {} Tryz.checked os 9 .any ((OpenSpec.ofChange Rows.logicFlatsSpec).preRow enc Av9 Tryz.f9 [] Φ X5) (((OpenSpec.ofChange Rows.logicFlatsSpec).at F).post enc Av9 Tryz.f9 Φ Δ Φ Φ):=by
 refine Ac6 (C:=Tryz.checked) X5 2 [4,3,134,24,26,84,22,28,30,51,49] 4 AdE started (by kernel_rfl) Tryz.func9
  (witness_row_at (enc:=enc) (C:=Tryz.checked) Φ (Ja os) #[.agg #[.int .i64 0,.slice Ξ 0 0,.bool Φ,.slice Ξ 0 0,.bool Φ,.slice Ξ 0 0],.agg #[.int .i64 0,.slice Ξ 0 0,.bool Φ,.slice Ξ 0 0,.bool Φ,.slice Ξ 0 0]] rfl (by kernel_rfl) (by kernel_rfl) (by kernel_rfl) (JZ os enc))
  (by kernel_rfl) rfl (by kernel_rfl) Ac4 rfl Tryz.underlying4 rfl (λds h=>?_) (λW args xs h=>?_)
 .match ds,h with
  |[d1,d2],_=>rfl
 .have h':JE W Av9 [51,51] args.toList xs:=h
  obtain⟨args⟩:=args;obtain⟨v1,a1,x1,y1,qq,rfl,⟨cs1,E1,H1,T1,F1⟩,h'⟩:=My h';obtain⟨v2,a2,x2,y2,rfl,rfl,⟨cs2,E2,H2,T2,F2⟩,h'⟩:=My h';obtain rfl:=VI h';have qq:args=[v1,v2]:=qq;subst qq;obtain⟨g1,k1,p1⟩:=Ale _ _ (π _) T1 F1;obtain⟨g2,k2,p2⟩:=Ale _ _ (π _) T2 F2;have i1:=So (μ:=λ_=>Ξ) (F:=λg _=>g<W.heap.size) (λg hg _=>hg) x1 cs1 H1;rw[k1]at i1;have i2:=So (μ:=λ_=>Ξ) (F:=λg _=>g<W.heap.size) (λg hg _=>hg) x2 cs2 H2;rw[k2]at i2;obtain⟨zs1,rfl,_⟩:=T1.struct_ Tryz.underlying51;have E1:v1=.agg cs1.toArray:=E1;subst E1;obtain⟨zs2,rfl,_⟩:=T2.struct_ Tryz.underlying51;have E2:v2=.agg cs2.toArray:=E2;subst E2;exact L7 _ _ g1 p1 g2 p2 W (by rw[Rep];exact⟨cs1.toArray,rfl,i1⟩) (by rw[Rep];exact⟨cs2.toArray,rfl,i2⟩)
set_option maxRecDepth 1000000 in
set_option maxHeartbeats 4000000 in
theorem KU:joinedFacts Tryz.pinned.checked.prog 9 Tryz.f9 (OpenSpec.ofChange Rows.logicFlatsSpec).bare Rows.logicFlatsRow=Δ:=by
 unfold joinedFacts
 repeat' (with_reducible refine Bool.and_eq_true_iff.2 ⟨?_,?_⟩)
 all_goals (as_aux_lemma=>kernel_rfl)
theorem Nk:Rows.LogicFlatsSaid:=
 OpenClaim.holds_of_cond 9 Tryz.f9 rfl rfl rfl rfl rfl rfl rfl ⟨rfl,rfl,rfl,rfl,rfl⟩ rfl rfl rfl rfl rfl (by kernel_rfl) Tryz.func9 KU
  (of_decide_eq_true (by kernel_rfl)) (by unfold Func.isWrapper;first | (rw[Ac (by decide +kernel)];kernel_rfl) | (rw[Ad (by decide +kernel)];exact⟨rfl,rfl⟩))
  (λos started H enc _ F=>by rw[OpenClaim.pre_eq_preRow];exact KV os started H enc F)
set_option maxRecDepth 1000000 in
theorem P6:Rows.logicFlatsRow.wfByText (OpenSpec.ofChange Rows.logicFlatsSpec)=Δ:=by kernel_rfl
set_option maxRecDepth 1000000 in
theorem Nj:Φ=Rows.logicFlatsRow.goesBy Tryz.pinned.checked.prog:=by kernel_rfl
theorem O0:(Tryz.f9.params.toList.all λt=>!Tryz.pinned.checked.prog.wantsStandIn t)=Δ:=by kernel_rfl
theorem L8:Tryz.pinned.checked.prog.funcNamed "plumbline/plumblinelaw05.LogicFlats" = some 9:=by kernel_rfl
theorem logicFlats_holds:Rows.LogicFlatsCardSaid:=
 Claim7.holds_tied_plain_at .later [] [.data,.data,.data] Δ (Δ, "71c373f515b5d6404ff57fe099454b4ae9c8cd2d69debb21d8290a970539b276") Φ
  Nk (λ_ h=>by cases h) P6 (λ_ h=>by cases h) logicFlats_row_tie rfl ⟨rfl,rfl⟩ Zn rfl
  (λf fn hf hfn=>by
   obtain rfl:f=9:=(Option.some.inj (L8.symm.trans hf)).symm;obtain rfl:fn=Tryz.f9:=(Option.some.inj (Tryz.func9.symm.trans hfn)).symm;refine⟨VO,λj t ht=>?_⟩;have h3:=Awr.1 O0 t (List.mem_of_getElem? (by rw[Array.getElem?_toList];exact ht));exact Bool.not_eq_true' _▸h3)
  Nj
