/-
  How long what is handed in may be.
  Numbers that are handed in.
  Terms and relations that are handed in.
  Formulas that are handed in.
  The row of a law that lists package-level variables, out of a contract; its tied card.
  A world in which the listed tables lie as the program's text lays them.
  LogicHolds: the row and its tied card.
-/
import Derived.Test.YtpncilciembjdaaGreatDoorABV
import Derived.Test.YtpncilciembjdaaGreatDoorABX
import Derived.Test.YtpncilciembjdaaGreatDoorAAZ
import Derived.Test.YtpncilciembjdaaGreatDoorABT
import Derived.Test.YtpncilciembjdaaGreatDoorABU
import Derived.Test.YtpncilciembjdaaGreatDoorABW
import Derived.Deep.DeepHandedRow
import Derived.LaidLaws
import Derived.Test.YtpncilciembjdaaGreatDoorTie
import Derived.Test.YtpncilciembjdaaGreatDoorABS
import Derived.Test.YtpncilciembjdaaGreatDoorCards
import Derived.Test.YtpncilciembjdaaGreatDoorAAN
import Derived.ProofKit
import Derived.SevenTiedAt
set_option linter.unusedSectionVars false
set_option linter.unusedSimpArgs false
set_option linter.unusedVariables false
namespace Go.Proofs.YtpncilciembjdaaGreatDoor
open Go.ChangeShapes Go.WideShapes Go.ChangeAt Go.RowKit

theorem reach_lt{n b:Nat}(hb:2<=b)(h:n*b<=reachBytes):n<4611686018427387904:=by
 have h1:n*2<=n*b:=Nat.mul_le_mul_left n hb
 have h2:reachBytes<9223372036854775808:=by decide +kernel
 omega
end Go.Proofs.YtpncilciembjdaaGreatDoor
namespace Go.Proofs.YtpncilciembjdaaGreatDoor
open Go.ChangeShapes Go.WideShapes Go.ChangeAt Go.RowKit

theorem limbs_of{y:D}(h:D.Typed Tryz.prog y 24):∃ l:List Nat,y.av=[eN l]/\Limbs l:=by
 obtain⟨xs,rfl,hx⟩:=h.slice_ Tryz.underlying24
 have:∀ xs:List D,(∀ y∈xs,D.Typed Tryz.prog y 134)->∃ l:List Nat,xs.map D.av=l.map eL/\Limbs l:=fun xs=>by
  induction xs with
  |nil=>intro _;exact⟨[],rfl,limbs_nil⟩
  |cons x r ih=>
   intro hh
   obtain⟨l,e1,e2⟩:=ih fun y hy=>hh y (List.mem_cons_of_mem _ hy)
   obtain⟨n,rfl,hw⟩:=(hh x (List.mem_cons_self ..)).int_ Tryz.underlying134
   have hw:0<=n/\n<4294967296:=by
    simp only[Lit.wf,Bool.and_eq_true,decide_eq_true_eq]at hw
    have h1:IntKind.u32.min=0:=by decide
    have h2:IntKind.u32.max=4294967295:=by decide
    omega
   obtain⟨m,rfl⟩:=Int.eq_ofNat_of_zero_le hw.1
   exact⟨m::l,by rw[List.map_cons,List.map_cons,e1];rfl,limbs_cons (by omega) e2⟩
 obtain⟨l,e1,e2⟩:=this xs hx
 exact⟨l,by rw[D.av,avRows_map,e1];rfl,e2⟩
theorem zi_of{y:D}(h:D.Typed Tryz.prog y 26):∃ z:Zi,y.av=eZ z/\Limbs z.abs:=by
 obtain⟨xs,rfl,g0⟩:=h.struct_ Tryz.underlying26
 obtain⟨x0,r0,rfl,h0,g1⟩:=D.TypedFields.cons_ g0
 obtain⟨x1,r1,rfl,h1,g2⟩:=D.TypedFields.cons_ g1
 obtain rfl:=D.TypedFields.nil_ g2
 obtain⟨b,rfl⟩:=h0.bool_ Tryz.underlying4
 obtain⟨l,e1,e2⟩:=limbs_of h1
 refine⟨⟨b,l⟩,?_,e2⟩
 show D.av (.agg [.bool b,x1])=_
 simp only[D.av,avCat,e1]
 rfl
theorem zis_of{y:D}(h:D.Typed Tryz.prog y 42)(hf:D.Fits Tryz.prog y 42):∃ zs:List Zi,y.av=[.ls (zs.map eZ)]/\zs.length<4611686018427387904/\∀ z∈zs,Limbs z.abs:=by
 obtain⟨xs,rfl,hx⟩:=h.slice_ Tryz.underlying42
 obtain⟨h1,h2⟩:=hf.slice_ Tryz.underlying42
 have hl:=reach_lt (Nat.le_of_ble_eq_true (by kernel_rfl)) h1
 have:∀ xs:List D,(∀ y∈xs,D.Typed Tryz.prog y 26)->∃ zs:List Zi,xs.map D.av=zs.map eZ/\zs.length=xs.length/\∀ z∈zs,Limbs z.abs:=fun xs=>by
  induction xs with
  |nil=>intro _;exact⟨[],rfl,rfl,by simp⟩
  |cons x r ih=>
   intro hh
   obtain⟨zs,e1,e2,e3⟩:=ih fun y hy=>hh y (List.mem_cons_of_mem _ hy)
   obtain⟨z,k1,k2⟩:=zi_of (hh x (List.mem_cons_self ..))
   refine⟨z::zs,by rw[List.map_cons,List.map_cons,e1,k1],by simp[e2],fun u hu=>?_⟩
   rcases List.mem_cons.1 hu with rfl|hu
   .exact k2
   .exact e3 u hu
 obtain⟨zs,e1,e2,e3⟩:=this xs hx
 exact⟨zs,by rw[D.av,avRows_map,e1],by omega,e3⟩
end Go.Proofs.YtpncilciembjdaaGreatDoor
namespace Go.Proofs.YtpncilciembjdaaGreatDoor
open Go.ChangeShapes Go.WideShapes Go.ChangeAt Go.RowKit

theorem pt_of{y:D}(h:D.Typed Tryz.prog y 84):∃ p:Pt,y.av=eP p/\Limbs p.z.abs:=by
 obtain⟨xs,rfl,g0⟩:=h.struct_ Tryz.underlying84
 obtain⟨x0,r0,rfl,h0,g1⟩:=D.TypedFields.cons_ g0
 obtain⟨x1,r1,rfl,h1,g2⟩:=D.TypedFields.cons_ g1
 obtain rfl:=D.TypedFields.nil_ g2
 obtain⟨n,rfl,_⟩:=h0.int_ Tryz.underlying3
 obtain⟨z,e1,e2⟩:=zi_of h1
 refine⟨⟨n,z⟩,?_,e2⟩
 show D.av (.agg [.int .i64 n,x1])=_
 simp only[D.av,avCat,e1]
 rfl
theorem pts_of{y:D}(h:D.Typed Tryz.prog y 22):∃ ps:List Pt,y.av=[.ls (ps.map eP)]/\∀ p∈ps,Limbs p.z.abs:=by
 obtain⟨xs,rfl,hx⟩:=h.slice_ Tryz.underlying22
 have:∀ xs:List D,(∀ y∈xs,D.Typed Tryz.prog y 84)->∃ ps:List Pt,xs.map D.av=ps.map eP/\∀ p∈ps,Limbs p.z.abs:=fun xs=>by
  induction xs with
  |nil=>intro _;exact⟨[],rfl,by simp⟩
  |cons x r ih=>
   intro hh
   obtain⟨ps,e1,e2⟩:=ih fun y hy=>hh y (List.mem_cons_of_mem _ hy)
   obtain⟨p,k1,k2⟩:=pt_of (hh x (List.mem_cons_self ..))
   refine⟨p::ps,by rw[List.map_cons,List.map_cons,e1,k1],fun u hu=>?_⟩
   rcases List.mem_cons.1 hu with rfl|hu
   .exact k2
   .exact e2 u hu
 obtain⟨ps,e1,e2⟩:=this xs hx
 exact⟨ps,by rw[D.av,avRows_map,e1],e2⟩
theorem tm_of{y:D}(h:D.Typed Tryz.prog y 28):∃ t:Tm,y.av=eT t/\LmT t:=by
 obtain⟨xs,rfl,g0⟩:=h.struct_ Tryz.underlying28
 obtain⟨x0,r0,rfl,h0,g1⟩:=D.TypedFields.cons_ g0
 obtain⟨x1,r1,rfl,h1,g2⟩:=D.TypedFields.cons_ g1
 obtain rfl:=D.TypedFields.nil_ g2
 obtain⟨ps,e1,e2⟩:=pts_of h0
 obtain⟨z,e3,e4⟩:=zi_of h1
 refine⟨⟨ps,z⟩,?_,⟨e2,e4⟩⟩
 show D.av (.agg [x0,x1])=_
 simp only[D.av,avCat,e1,e3]
 rfl
theorem rl_of{y:D}(h:D.Typed Tryz.prog y 30):∃(t:Tm) (e:Bool),y.av=eRl (t,e)/\LmT t:=by
 obtain⟨xs,rfl,g0⟩:=h.struct_ Tryz.underlying30
 obtain⟨x0,r0,rfl,h0,g1⟩:=D.TypedFields.cons_ g0
 obtain⟨x1,r1,rfl,h1,g2⟩:=D.TypedFields.cons_ g1
 obtain rfl:=D.TypedFields.nil_ g2
 obtain⟨t,e1,e2⟩:=tm_of h0
 obtain⟨b,rfl⟩:=h1.bool_ Tryz.underlying4
 refine⟨t,b,?_,e2⟩
 show D.av (.agg [x0,.bool b])=_
 simp only[D.av,avCat,e1]
 rfl
end Go.Proofs.YtpncilciembjdaaGreatDoor
namespace Go.Proofs.YtpncilciembjdaaGreatDoor
open Go.ChangeShapes Go.WideShapes Go.ChangeAt Go.RowKit

theorem fm_of:∀(n:Nat) (y:D),SizeOf.sizeOf y<=n->D.Typed Tryz.prog y 51->D.Fits Tryz.prog y 51->∃ x:Fm,y.av=eF x/\WzF x:=by
 intro n
 induction n with
 |zero=>intro x hx;cases x<;>simp at hx
 |succ n ih=>
  intro y hn h hf
  obtain⟨xs,rfl,g0⟩:=h.struct_ Tryz.underlying51
  have f0:=hf.struct_ Tryz.underlying51
  obtain⟨x0,r0,rfl,h0,g1⟩:=D.TypedFields.cons_ g0
  obtain⟨x1,r1,rfl,h1,g2⟩:=D.TypedFields.cons_ g1
  obtain⟨x2,r2,rfl,h2,g3⟩:=D.TypedFields.cons_ g2
  obtain rfl:=D.TypedFields.nil_ g3
  have f1:=(D.FitsFields.cons_ f0).2
  have f2:=(D.FitsFields.cons_ f1).2
  obtain⟨k,rfl,_⟩:=h0.int_ Tryz.underlying3
  obtain⟨t,e,er,l1⟩:=rl_of h1
  obtain⟨ys,rfl,hy⟩:=h2.slice_ Tryz.underlying49
  obtain⟨z1,z2⟩:=(D.FitsFields.cons_ f2).1.slice_ Tryz.underlying49
  have hl:=reach_lt (Nat.le_of_ble_eq_true (by kernel_rfl)) z1
  have:∀ zs:List D,(∀ y∈zs,y∈ys)->∃ ts:List Fm,zs.map D.av=ts.map eF/\ts.length=zs.length/\∀ m∈ts,WzF m:=fun zs=>by
   induction zs with
   |nil=>intro _;exact⟨[],rfl,rfl,by simp⟩
   |cons x r ih2=>
    intro hh
    obtain⟨ms,e1,e2,e3⟩:=ih2 fun y hy=>hh y (List.mem_cons_of_mem _ hy)
    have hm:=hh x (List.mem_cons_self ..)
    obtain⟨m,k1,k2⟩:=ih x (by
     have h3:=List.sizeOf_lt_of_mem hm
     simp at hn
     omega) (hy x hm) (z2 x hm)
    refine⟨m::ms,by rw[List.map_cons,List.map_cons,e1,k1],by simp[e2],fun z hz=>?_⟩
    rcases List.mem_cons.1 hz with rfl|hz
    .exact k2
    .exact e3 z hz
  obtain⟨ts,e1,e2,e3⟩:=this ys fun _ h=>h
  refine⟨.mk k t e ts,?_,.mk l1 (by omega) e3⟩
  rw[eF,eFs_map,←e1,←avRows_map]
  obtain⟨ps,kz⟩:=t
  rw[eRl_mk]at er
  simp only[D.av,avCat,er,List.cons_append,List.nil_append]
  rfl
end Go.Proofs.YtpncilciembjdaaGreatDoor
namespace Go.Proofs.YtpncilciembjdaaGreatDoor
open Go.ChangeShapes Go.WideShapes Go.ChangeAt Go.RowKit

theorem law_laid{H:Type}{enc:TypeId × Value->H}{C:Checked}{os:Go.Os}{f:FuncId}{fn:Func}{s:ChangeSpec}{F:Stop.Interp}(laid:List (String × DataW Unit))(n:Nat)(L:List TypeId)(tb:TypeId)
  (own:ownKnob C.prog.godebug=none) (started:os.Started) (noInit:C.prog.inits.idxOf? f=none) (hfn:C.prog.funcs[f]? = some fn)
  (witness:∃(w:World) (tape:Tape) (i:Input),w.os=os/\(w.forCall tape i).Shaped C.prog/\i.vars=[]/\Input.okWide C.prog (w.forCall tape i) .any w.heap.size f i ∧
   (OpenSpec.ofChange s).preRow enc C.prog fn [] false laid (w.forCall tape i).memory i.args/\({}:Assume).holds C.prog (lone (Frame.enter C.prog f i.args .normal) [] (w.forCall tape i)))
  (hL:L.all (okType C.prog L)=true) (hn:fn.params.toList.length=n) (hin:(fn.params.toList.all fun t=>L.contains t&&C.prog.readableRec t&&decide (t<C.prog.types.size))=true)
  (laidO:laidOutB C.prog=true) (hres:fn.resultTypes=#[tb]) (htb:C.prog.underlying tb=some .bool)
  (hvars:s.vars=[]) (hspec:∀ ds:List (DataW H),ds.length=n->s.fn H ds={ results:=[.lit (.bool true)],args:=ds })
  (contract:∀(W:World) (args:Array Value) (xs:List D),AllFit W C.prog fn.params.toList args.toList xs->Calls C.prog f args W fun e W'=>e=.returned (.bool true)/\Below W.heap.size W W') :
  ReturnsInHanded {} C os f .any ((OpenSpec.ofChange s).preRow enc C.prog fn [] false laid) (((OpenSpec.ofChange s).at F).post enc C.prog fn false true false false):=by
 refine returnsInHanded_of_row own started noInit hfn witness ?_
 intro W base args ds gs before hval hW _ _ hsz _ _ _
 have hW':DataW.Whole enc C.prog fn.params.toList s.vars false W args.toList ds gs before:=hW
 have hvars':s.plain.varTypes C.prog=[]:=by unfold DataSpec.varTypes ChangeSpec.plain;simp[hvars]
 have hsz':(DataW.weightsEach C.prog (fn.params.toList++s.plain.varTypes C.prog) (ds++gs)).all (· ≤ reachBytes)=true:=hsz
 obtain⟨p,q,hA,hV,rfl,hfz,hnd⟩:=hW
 have hV':DataW.TrodVars enc C.prog W _ s.vars gs q:=hV
 rw[hvars]at hV'
 have hg:gs=[]/\q=[]:=by
  cases gs with
  |nil=>exact⟨rfl,hV'⟩
  |cons _ _=>exact hV'.elim
 obtain⟨rfl,rfl⟩:=hg
 have hlt:∀ x∈p++[],x.block<W.heap.size:=fun x hx=>hW'.lt x hx
 have hlen:ds.length=n:=(trodAll_len _ _ _ _ hA).trans hn
 have hall:∀ t∈fn.params.toList,t∈L/\C.prog.readableRec t=true/\t<C.prog.types.size:=fun t ht=>by
  have:=List.all_eq_true.1 hin t ht
  simpa[and_assoc]using this
 obtain⟨xs,hxs⟩:=all_fit hL fn.params.toList args.toList ds p (fun t ht=>(hall t ht).1) (fun j t v h1 h2=>hval j t v (by simpa using h1) (by simpa using h2)) hA (fun k hk=>by
  have:=List.all_eq_true.1 hsz' k
  rw[hvars']at this
  simpa using this (by simpa using hk))
 refine(contract W args xs hxs).mono fun e W' ⟨he,hb⟩=>⟨_,he,?_⟩
 have hsp:s.fn H (ds++[])={ results:=[.lit (.bool true)],args:=ds }:=by rw[List.append_nil];exact hspec ds hlen
 show s.post enc C.prog fn false true false false W args _ W'
 refine⟨ds,[],p++[],[],p,[],hW',?_,?_,?_,hb.frame _,fun h=>by cases h⟩
 .rw[hsp,hres]
  exact trodAll_mk1 (shut_bool htb true)
 .rw[hsp]
  have:=trodAll_below (P:=C.prog) laidO hb fn.params.toList args.toList ds p (fun t ht=>(hall t ht).2) (fun x hx=>hlt x (by simp[hx])) hA
  exact this
 .rw[hvars]
  exact(show DataW.TrodVars enc C.prog W' _ [] (s.fn H (ds++[])).vars [] from by rw[hsp];exact rfl)
end Go.Proofs.YtpncilciembjdaaGreatDoor
namespace Go.Proofs.YtpncilciembjdaaGreatDoor
open Go.ChangeShapes Go.WideShapes Go.ChangeAt Go.RowKit

def tabVals:DataW Unit->Array Value
 |.agg xs=>(xs.map fun | .lit (.int k n)=>Value.int k n|_=>Go.undef).toArray
 |_=>#[]
def layTab(vs:Array Value):Obj->Obj
 |.cells _ t fz=>.cells vs t fz
 |o=>o
noncomputable def laidWorld(os:Go.Os):World:=
 { World.holding Tryz.prog os ⟨#[],#[],[]⟩ with heap:=(((World.holding Tryz.prog os ⟨#[],#[],[]⟩).heap.modify 2 (layTab (tabVals Rows.laid_math_bits_deBruijn32tab))).modify 3 (layTab (tabVals Rows.laid_math_bits_deBruijn64tab))).modify 1 (layTab (tabVals Rows.laid_internal_strconv_uint64pow10)) }
def laidL:List (String × DataW Unit):=[("math/bits.deBruijn32tab",Rows.laid_math_bits_deBruijn32tab),("math/bits.deBruijn64tab",Rows.laid_math_bits_deBruijn64tab),("internal/strconv.uint64pow10",Rows.laid_internal_strconv_uint64pow10)]
set_option maxRecDepth 100000 in
theorem laid_met(os:Go.Os)(args:Array Value):laidMet Tryz.prog laidL ((laidWorld os).forCall (fun _ _=>0) ⟨#[],args,[]⟩).memory:=
 laidMet_of_run' 8 (by kernel_rfl) (by kernel_rfl)
set_option maxRecDepth 1000000 in
theorem card_main:Tryz.pinned.checked.prog.mainIs=some (true, "71c373f515b5d6404ff57fe099454b4ae9c8cd2d69debb21d8290a970539b276".toList):=by kernel_rfl
set_option maxRecDepth 1000000 in
theorem card_looks:false=Tryz.pinned.checked.prog.looks []:=by kernel_rfl
end Go.Proofs.YtpncilciembjdaaGreatDoor
namespace Go.Proofs.YtpncilciembjdaaGreatDoor
open Go.ChangeShapes Go.WideShapes Go.ChangeAt Go.RowKit

theorem liveL5:DL5.ask (.fn 34) [] []=some (bv true,[]):=xLiveL5 live_ok
theorem cloneFL5:CloneF DL5 where
 nat l h:=xCloneNL5 (clone_ans h)
theorem zfL5:ZF DL5:=zf_of kNaL5 kZiL5 cloneFL5
theorem rfL5:RF DL5:=rf_of kRnL5 kRzL5
theorem seatL5_good:SeatOk Tryz.prog entsC seatL5:=seatL5_ok clone_nat clone_part grow_part gLive
theorem logicHolds_calls(v1 v2:Value)(x:Fm)(ht:WzF x)(vals:List Zi)(h3:vals.length<4611686018427387904)(hv:∀ z∈vals,Limbs z.abs)(w:World)(r1:Rep (fun _=>none) (fun g _=>g<w.heap.size) w (.agg (eF x)) v1)(r2:Rep (fun _=>none) (fun g _=>g<w.heap.size) w (.ls (vals.map eZ)) v2) :
  Calls Tryz.prog 8 #[v1,v2] w fun e w'=>e=.returned (.bool true)/\Below w.heap.size w w':=by
 have g:=den_calls seatL5_good (llholds_ok kLwL5 kHvL5 kTeL5 zfL5 kRhL5 rfL5 kRkL5 kFzL5 kFwL5 kL51L5 liveL5 x ht vals hv h3) w [v1,v2] (by
  simp only[RepList]
  exact⟨_,_,rfl,r1,_,_,rfl,r2,rfl⟩)
 refine Calls.mono g ?_
 rintro e w' ⟨u,rfl,hb,μ',F',hr⟩
 unfold bv Rep at hr
 rw[hr.1]
 exact⟨rfl,hb⟩
set_option maxRecDepth 100000 in
theorem logicHolds_witness(os:Go.Os){H:Type}(enc:TypeId × Value->H) :
  (OpenSpec.ofChange Rows.logicHoldsSpec).preRow enc Tryz.prog Tryz.f8 [] false laidL ((laidWorld os).forCall (fun _ _=>0) ⟨#[],#[.agg #[.int .i64 0,.slice none 0 0,.bool false,.slice none 0 0,.bool false,.slice none 0 0],.slice none 0 0],[]⟩).memory #[.agg #[.int .i64 0,.slice none 0 0,.bool false,.slice none 0 0,.bool false,.slice none 0 0],.slice none 0 0]:=by
 have hw:(DataW.whole enc Tryz.prog ((laidWorld os).forCall (fun _ _=>0) ⟨#[],#[.agg #[.int .i64 0,.slice none 0 0,.bool false,.slice none 0 0,.bool false,.slice none 0 0],.slice none 0 0],[]⟩).memory Tryz.f8.params.toList (OpenSpec.ofChange Rows.logicHoldsSpec).vars false #[Value.agg #[.int .i64 0,.slice none 0 0,.bool false,.slice none 0 0,.bool false,.slice none 0 0],Value.slice none 0 0].toList 8).map (fun x=>(x.1,x.2.1)) =
   some ([.agg [.lit (.int .i64 0),.agg [.agg [.nil,.agg [.lit (.bool false),.nil]],.lit (.bool false)],.nil],.nil],[]):=by kernel_rfl
 obtain⟨⟨x1,x2,x3⟩,hx,hx1⟩:=Option.map_eq_some_iff.1 hw
 simp only[Prod.mk.injEq]at hx1
 obtain⟨rfl,rfl⟩:=hx1
 exact OpenSpec.preRow_of_cond 8 hx (by kernel_rfl) (fun k hk=>by cases hk) (by kernel_rfl) (laid_met os _)
set_option maxRecDepth 100000 in
theorem logicHolds_lifted(os:Go.Os)(started:os.Started)(H:Type)(enc:TypeId × Value->H)(F:Stop.Interp) :
  ReturnsInHanded {} Tryz.checked os 8 .any ((OpenSpec.ofChange Rows.logicHoldsSpec).preRow enc Tryz.prog Tryz.f8 [] false laidL) (((OpenSpec.ofChange Rows.logicHoldsSpec).at F).post enc Tryz.prog Tryz.f8 false true false false):=by
 refine law_laid (C:=Tryz.checked) laidL 2 [4,3,134,24,26,42,84,22,28,30,51,49] 4 own_knob started (by kernel_rfl) Tryz.func8
  (witness_row_at (enc:=enc) (C:=Tryz.checked) false (laidWorld os) #[.agg #[.int .i64 0,.slice none 0 0,.bool false,.slice none 0 0,.bool false,.slice none 0 0],.slice none 0 0] rfl (by kernel_rfl) (by kernel_rfl) (by kernel_rfl) (logicHolds_witness os enc))
  (by kernel_rfl) rfl (by kernel_rfl) laid_out rfl Tryz.underlying4 rfl (fun ds h=>?_) (fun W args xs h=>?_)
 .match ds,h with
  |[d1,d2],_=>rfl
 .have h':AllFit W Tryz.prog [51,42] args.toList xs:=h
  obtain⟨args⟩:=args
  obtain⟨v1,a1,x1,y1,q1,rfl,⟨cs1,e1,h1,t1,z1⟩,h'⟩:=allFit_cons h'
  obtain⟨v2,a2,x2,y2,rfl,rfl,⟨cs2,e2,h2,t2,z2⟩,h'⟩:=allFit_cons h'
  obtain rfl:=allFit_nil h'
  have q1:args=[v1,v2]:=q1
  subst q1
  obtain⟨x,k1,k2⟩:=fm_of _ _ (Nat.le_refl _) t1 z1
  obtain⟨vals,m1,m2,m3⟩:=zis_of t2 z2
  have i1:=is_rep (μ:=fun _=>none) (F:=fun g _=>g<W.heap.size) (fun g hg _=>hg) x1 cs1 h1
  have i2:=is_rep (μ:=fun _=>none) (F:=fun g _=>g<W.heap.size) (fun g hg _=>hg) x2 cs2 h2
  rw[k1]at i1
  rw[m1]at i2
  obtain⟨zs,rfl,_⟩:=t1.struct_ Tryz.underlying51
  obtain⟨ys,rfl,_⟩:=t2.slice_ Tryz.underlying42
  rw[RepList]at i2
  obtain⟨u,tl,rfl,i2,j2⟩:=i2
  rw[RepList]at j2
  subst j2
  have e1:v1=.agg cs1.toArray:=e1
  have e2:v2=u:=e2
  subst e1 e2
  exact logicHolds_calls _ v2 x k2 vals m2 m3 W (by rw[Rep];exact⟨cs1.toArray,rfl,i1⟩) i2
set_option maxRecDepth 1000000 in
set_option maxHeartbeats 4000000 in
theorem logicHolds_joined:joinedFacts Tryz.pinned.checked.prog 8 Tryz.f8 (OpenSpec.ofChange Rows.logicHoldsSpec).bare Rows.logicHoldsRow=true:=by
 unfold joinedFacts
 repeat' (with_reducible refine Bool.and_eq_true_iff.2 ⟨?_,?_⟩)
 all_goals (as_aux_lemma=>kernel_rfl)
theorem logicHolds_said:Rows.LogicHoldsSaid:=
 OpenClaim.holds_of_cond 8 Tryz.f8 rfl rfl rfl rfl rfl rfl rfl ⟨rfl,rfl,rfl,rfl,rfl⟩ rfl rfl rfl rfl rfl (by kernel_rfl) Tryz.func8 logicHolds_joined
  (of_decide_eq_true (by kernel_rfl)) (by unfold Func.isWrapper;first | (rw[if_pos (by decide +kernel)];kernel_rfl) | (rw[if_neg (by decide +kernel)];exact⟨rfl,rfl⟩))
  (fun os started H enc _ F=>by rw[OpenClaim.pre_eq_preRow];exact logicHolds_lifted os started H enc F)
set_option maxRecDepth 1000000 in
theorem logicHolds_wf:Rows.logicHoldsRow.wfByText (OpenSpec.ofChange Rows.logicHoldsSpec)=true:=by kernel_rfl
set_option maxRecDepth 1000000 in
theorem logicHolds_goes:false=Rows.logicHoldsRow.goesBy Tryz.pinned.checked.prog:=by kernel_rfl
theorem logicHolds_par:(Tryz.f8.params.toList.all fun t=>!Tryz.pinned.checked.prog.wantsStandIn t)=true:=by kernel_rfl
theorem logicHolds_named:Tryz.pinned.checked.prog.funcNamed "plumbline/plumblinelaw05.LogicHolds" = some 8:=by kernel_rfl
theorem logicHolds_holds:Rows.LogicHoldsCardSaid:=
 Claim7.holds_tied_plain_at .later [] [.data,.data,.data] true (true, "71c373f515b5d6404ff57fe099454b4ae9c8cd2d69debb21d8290a970539b276") false
  logicHolds_said (fun _ h=>by cases h) logicHolds_wf (fun _ h=>by cases h) logicHolds_row_tie rfl ⟨rfl,rfl⟩ card_main rfl
  (fun f fn hf hfn=>by
   obtain rfl:f=8:=(Option.some.inj (logicHolds_named.symm.trans hf)).symm
   obtain rfl:fn=Tryz.f8:=(Option.some.inj (Tryz.func8.symm.trans hfn)).symm
   refine⟨card_looks,fun j t ht=>?_⟩
   have h3:=List.all_eq_true.1 logicHolds_par t (List.mem_of_getElem? (by rw[Array.getElem?_toList];exact ht))
   exact Bool.not_eq_true' _▸h3)
  logicHolds_goes
end Go.Proofs.YtpncilciembjdaaGreatDoor
