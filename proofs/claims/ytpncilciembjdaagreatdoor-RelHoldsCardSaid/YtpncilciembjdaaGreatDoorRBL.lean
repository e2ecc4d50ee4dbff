/-
  The row of a law that lists package-level variables, out of a contract; its tied card.
  A world in which the listed tables lie as the program's text lays them.
  RelHolds: the row and its tied card.
-/
import Derived.Test.YtpncilciembjdaaGreatDoorRBI
import Derived.Deep.DeepHandedRow
import Derived.LaidLaws
import Derived.Test.YtpncilciembjdaaGreatDoorRBJ
import Derived.Test.YtpncilciembjdaaGreatDoorTie
import Derived.Test.YtpncilciembjdaaGreatDoorRBG
import Derived.Test.YtpncilciembjdaaGreatDoorRBK
import Derived.Test.YtpncilciembjdaaGreatDoorCards
import Derived.Test.YtpncilciembjdaaGreatDoorRAN
import Derived.ProofKit
import Derived.SevenTiedAt
set_option linter.unusedSectionVars false
set_option linter.unusedSimpArgs false
set_option linter.unusedVariables false
namespace Go.Proofs.YtpncilciembjdaaGreatDoor
open Go.ChangeShapes Go.WideShapes Go.ChangeAt Go.RowKit

theorem law_laid{H:Type}{enc:TypeId × Value->H}{C:Checked}{os:Go.Os}{f:FuncId}{fn:Func}{s:ChangeSpec}{F:Stop.Interp}(laid:List (String × DataW Unit))(n:Nat)(L:List TypeId)(tb:TypeId)
  (own:ownKnob C.prog.godebug=none) (started:os.Started) (noInit:C.prog.inits.idxOf? f=none) (hfn:C.prog.funcs[f]? = some fn)
  (witness:∃(w:World) (tape:Tape) (i:Input),w.os=os/\(w.forCall tape i).Shaped C.prog/\i.vars=[]/\Input.okWide C.prog (w.forCall tape i) .any w.heap.size f i ∧
   (OpenSpec.ofChange s).preRow enc C.prog fn [] false laid (w.forCall tape i).memory i.args/\({}:Assume).holds C.prog (lone (Frame.enter C.prog f i.args .normal) [] (w.forCall tape i)))
  (hL:L.all (okType C.prog L)=true) (hn:fn.params.toList.length=n) (hin:(fn.params.toList.all fun t=>L.contains t&&C.prog.readableRec t&&decide (t<C.prog.types.size))=true)
  (laidO:laidOutB C.prog=true) (hres:fn.resultTypes=#[tb]) (htb:C.prog.underlying tb=some .bool)
  (hvars:s.vars=[]) (hspec:∀ ds:List (DataW H),ds.length=n->s.fn H ds={ results:=[.lit (.bool true)],args:=ds })
  (contract:∀(W:World) (args:Array Value) (xs:List D),AllFit W C.prog fn.params.toList args.toList xs->Calls C.prog f args W fun e W'=>e=.returned (.bool true)/\Below W.heap.size W W') :
  ReturnsInHanded {} C os f .any ((OpenSpec.ofChange s).preRow enc C.prog fn [] false laid) (((OpenSpec.ofChange s).at F).post enc C.prog fn false true false false):=by
 refine returnsInHanded_of_row own started noInit hfn witness ?_
 intro W base args ds gs before hval hW _ _ hsz _ _ _
 have hW':DataW.Whole enc C.prog fn.params.toList s.vars false W args.toList ds gs before:=hW
 have hvars':s.plain.varTypes C.prog=[]:=by unfold DataSpec.varTypes ChangeSpec.plain;simp[hvars]
 have hsz':(DataW.weightsEach C.prog (fn.params.toList++s.plain.varTypes C.prog) (ds++gs)).all (· ≤ reachBytes)=true:=hsz
 obtain⟨p,q,hA,hV,rfl,hfz,hnd⟩:=hW
 have hV':DataW.TrodVars enc C.prog W _ s.vars gs q:=hV
 rw[hvars]at hV'
 have hg:gs=[]/\q=[]:=by
  cases gs with
  |nil=>exact⟨rfl,hV'⟩
  |cons _ _=>exact hV'.elim
 obtain⟨rfl,rfl⟩:=hg
 have hlt:∀ x∈p++[],x.block<W.heap.size:=fun x hx=>hW'.lt x hx
 have hlen:ds.length=n:=(trodAll_len _ _ _ _ hA).trans hn
 have hall:∀ t∈fn.params.toList,t∈L/\C.prog.readableRec t=true/\t<C.prog.types.size:=fun t ht=>by
  have:=List.all_eq_true.1 hin t ht
  simpa[and_assoc]using this
 obtain⟨xs,hxs⟩:=all_fit hL fn.params.toList args.toList ds p (fun t ht=>(hall t ht).1) (fun j t v h1 h2=>hval j t v (by simpa using h1) (by simpa using h2)) hA (fun k hk=>by
  have:=List.all_eq_true.1 hsz' k
  rw[hvars']at this
  simpa using this (by simpa using hk))
 refine(contract W args xs hxs).mono fun e W' ⟨he,hb⟩=>⟨_,he,?_⟩
 have hsp:s.fn H (ds++[])={ results:=[.lit (.bool true)],args:=ds }:=by rw[List.append_nil];exact hspec ds hlen
 show s.post enc C.prog fn false true false false W args _ W'
 refine⟨ds,[],p++[],[],p,[],hW',?_,?_,?_,hb.frame _,fun h=>by cases h⟩
 .rw[hsp,hres]
  exact trodAll_mk1 (shut_bool htb true)
 .rw[hsp]
  have:=trodAll_below (P:=C.prog) laidO hb fn.params.toList args.toList ds p (fun t ht=>(hall t ht).2) (fun x hx=>hlt x (by simp[hx])) hA
  exact this
 .rw[hvars]
  exact(show DataW.TrodVars enc C.prog W' _ [] (s.fn H (ds++[])).vars [] from by rw[hsp];exact rfl)
end Go.Proofs.YtpncilciembjdaaGreatDoor
namespace Go.Proofs.YtpncilciembjdaaGreatDoor
open Go.ChangeShapes Go.WideShapes Go.ChangeAt Go.RowKit

def tabVals:DataW Unit->Array Value
 |.agg xs=>(xs.map fun | .lit (.int k n)=>Value.int k n|_=>Go.undef).toArray
 |_=>#[]
def layTab(vs:Array Value):Obj->Obj
 |.cells _ t fz=>.cells vs t fz
 |o=>o
noncomputable def laidWorld(os:Go.Os):World:=
 { World.holding Tryz.prog os ⟨#[],#[],[]⟩ with heap:=(((World.holding Tryz.prog os ⟨#[],#[],[]⟩).heap.modify 2 (layTab (tabVals Rows.laid_math_bits_deBruijn32tab))).modify 3 (layTab (tabVals Rows.laid_math_bits_deBruijn64tab))).modify 1 (layTab (tabVals Rows.laid_internal_strconv_uint64pow10)) }
def laidL:List (String × DataW Unit):=[("math/bits.deBruijn32tab",Rows.laid_math_bits_deBruijn32tab),("math/bits.deBruijn64tab",Rows.laid_math_bits_deBruijn64tab),("internal/strconv.uint64pow10",Rows.laid_internal_strconv_uint64pow10)]
set_option maxRecDepth 100000 in
theorem laid_met(os:Go.Os)(args:Array Value):laidMet Tryz.prog laidL ((laidWorld os).forCall (fun _ _=>0) ⟨#[],args,[]⟩).memory:=
 laidMet_of_run' 8 (by kernel_rfl) (by kernel_rfl)
set_option maxRecDepth 1000000 in
theorem card_main:Tryz.pinned.checked.prog.mainIs=some (true, "71c373f515b5d6404ff57fe099454b4ae9c8cd2d69debb21d8290a970539b276".toList):=by kernel_rfl
set_option maxRecDepth 1000000 in
theorem card_looks:false=Tryz.pinned.checked.prog.looks []:=by kernel_rfl
end Go.Proofs.YtpncilciembjdaaGreatDoor
namespace Go.Proofs.YtpncilciembjdaaGreatDoor
open Go.ChangeShapes Go.WideShapes Go.ChangeAt Go.RowKit

theorem sayHv:DHv.ask (.fn 15) [] []=some (bv true,[]):=xSayHv say_ok
theorem cloneFHv:CloneF DHv where
 nat l h:=xCloneNHv (clone_ans h)
theorem zfHv:ZF DHv:=zf_of kNaHv kZiHv cloneFHv
theorem rfHv:RF DHv:=rf_of kRnHv kRzHv
theorem seatHv_good:SeatOk Tryz.prog entsC seatHv:=seatHv_ok clone_nat clone_part grow_part gSay
theorem relHolds_calls(v1 v2:Value)(t:Tm)(e:Bool)(ht:LmT t)(vals:List Zi)(h3:vals.length<4611686018427387904)(hv:∀ z∈vals,Limbs z.abs)(w:World)(r1:Rep (fun _=>none) (fun g _=>g<w.heap.size) w (.agg (eRl (t,e))) v1)(r2:Rep (fun _=>none) (fun g _=>g<w.heap.size) w (.ls (vals.map eZ)) v2) :
  Calls Tryz.prog 4 #[v1,v2] w fun e w'=>e=.returned (.bool true)/\Below w.heap.size w w':=by
 have g:=den_calls seatHv_good (lrelholds_ok kHvHv kTeHv zfHv kFwHv kRhHv rfHv kLr1Hv sayHv t e ht vals hv h3) w [v1,v2] (by
  simp only[RepList]
  exact⟨_,_,rfl,r1,_,_,rfl,r2,rfl⟩)
 refine Calls.mono g ?_
 rintro e w' ⟨u,rfl,hb,μ',F',hr⟩
 unfold bv Rep at hr
 rw[hr.1]
 exact⟨rfl,hb⟩
set_option maxRecDepth 100000 in
theorem relHolds_witness(os:Go.Os){H:Type}(enc:TypeId × Value->H) :
  (OpenSpec.ofChange Rows.relHoldsSpec).preRow enc Tryz.prog Tryz.f4 [] false laidL ((laidWorld os).forCall (fun _ _=>0) ⟨#[],#[.agg #[.slice none 0 0,.bool false,.slice none 0 0,.bool false],.slice none 0 0],[]⟩).memory #[.agg #[.slice none 0 0,.bool false,.slice none 0 0,.bool false],.slice none 0 0]:=by
 have hw:(DataW.whole enc Tryz.prog ((laidWorld os).forCall (fun _ _=>0) ⟨#[],#[.agg #[.slice none 0 0,.bool false,.slice none 0 0,.bool false],.slice none 0 0],[]⟩).memory Tryz.f4.params.toList (OpenSpec.ofChange Rows.relHoldsSpec).vars false #[Value.agg #[.slice none 0 0,.bool false,.slice none 0 0,.bool false],Value.slice none 0 0].toList 8).map (fun x=>(x.1,x.2.1)) =
   some ([.agg [.agg [.nil,.agg [.lit (.bool false),.nil]],.lit (.bool false)],.nil],[]):=by kernel_rfl
 obtain⟨⟨x1,x2,x3⟩,hx,hx1⟩:=Option.map_eq_some_iff.1 hw
 simp only[Prod.mk.injEq]at hx1
 obtain⟨rfl,rfl⟩:=hx1
 exact OpenSpec.preRow_of_cond 8 hx (by kernel_rfl) (fun k hk=>by cases hk) (by kernel_rfl) (laid_met os _)
set_option maxRecDepth 100000 in
theorem relHolds_lifted(os:Go.Os)(started:os.Started)(H:Type)(enc:TypeId × Value->H)(F:Stop.Interp) :
  ReturnsInHanded {} Tryz.checked os 4 .any ((OpenSpec.ofChange Rows.relHoldsSpec).preRow enc Tryz.prog Tryz.f4 [] false laidL) (((OpenSpec.ofChange Rows.relHoldsSpec).at F).post enc Tryz.prog Tryz.f4 false true false false):=by
 refine law_laid (C:=Tryz.checked) laidL 2 [4,3,134,24,26,42,84,22,28,30] 4 own_knob started (by kernel_rfl) Tryz.func4
  (witness_row_at (enc:=enc) (C:=Tryz.checked) false (laidWorld os) #[.agg #[.slice none 0 0,.bool false,.slice none 0 0,.bool false],.slice none 0 0] rfl (by kernel_rfl) (by kernel_rfl) (by kernel_rfl) (relHolds_witness os enc))
  (by kernel_rfl) rfl (by kernel_rfl) laid_out rfl Tryz.underlying4 rfl (fun ds h=>?_) (fun W args xs h=>?_)
 .match ds,h with
  |[d1,d2],_=>rfl
 .have h':AllFit W Tryz.prog [30,42] args.toList xs:=h
  obtain⟨args⟩:=args
  obtain⟨v1,a1,x1,y1,q1,rfl,⟨cs1,e1,h1,t1,z1⟩,h'⟩:=allFit_cons h'
  obtain⟨v2,a2,x2,y2,rfl,rfl,⟨cs2,e2,h2,t2,z2⟩,h'⟩:=allFit_cons h'
  obtain rfl:=allFit_nil h'
  have q1:args=[v1,v2]:=q1
  subst q1
  obtain⟨t,e,k1,k2⟩:=rl_of t1
  obtain⟨vals,m1,m2,m3⟩:=zis_of t2 z2
  have i1:=is_rep (μ:=fun _=>none) (F:=fun g _=>g<W.heap.size) (fun g hg _=>hg) x1 cs1 h1
  have i2:=is_rep (μ:=fun _=>none) (F:=fun g _=>g<W.heap.size) (fun g hg _=>hg) x2 cs2 h2
  rw[k1]at i1
  rw[m1]at i2
  obtain⟨zs,rfl,_⟩:=t1.struct_ Tryz.underlying30
  obtain⟨ys,rfl,_⟩:=t2.slice_ Tryz.underlying42
  rw[RepList]at i2
  obtain⟨u,tl,rfl,i2,j2⟩:=i2
  rw[RepList]at j2
  subst j2
  have e1:v1=.agg cs1.toArray:=e1
  have e2:v2=u:=e2
  subst e1 e2
  exact relHolds_calls _ v2 t e k2 vals m2 m3 W (by rw[Rep];exact⟨cs1.toArray,rfl,i1⟩) i2
set_option maxRecDepth 1000000 in
set_option maxHeartbeats 4000000 in
theorem relHolds_joined:joinedFacts Tryz.pinned.checked.prog 4 Tryz.f4 (OpenSpec.ofChange Rows.relHoldsSpec).bare Rows.relHoldsRow=true:=by
 unfold joinedFacts
 repeat' (with_reducible refine Bool.and_eq_true_iff.2 ⟨?_,?_⟩)
 all_goals (as_aux_lemma=>kernel_rfl)
theorem relHolds_said:Rows.RelHoldsSaid:=
 OpenClaim.holds_of_cond 4 Tryz.f4 rfl rfl rfl rfl rfl rfl rfl ⟨rfl,rfl,rfl,rfl,rfl⟩ rfl rfl rfl rfl rfl (by kernel_rfl) Tryz.func4 relHolds_joined
  (of_decide_eq_true (by kernel_rfl)) (by unfold Func.isWrapper;first | (rw[if_pos (by decide +kernel)];kernel_rfl) | (rw[if_neg (by decide +kernel)];exact⟨rfl,rfl⟩))
  (fun os started H enc _ F=>by rw[OpenClaim.pre_eq_preRow];exact relHolds_lifted os started H enc F)
set_option maxRecDepth 1000000 in
theorem relHolds_wf:Rows.relHoldsRow.wfByText (OpenSpec.ofChange Rows.relHoldsSpec)=true:=by kernel_rfl
set_option maxRecDepth 1000000 in
theorem relHolds_goes:false=Rows.relHoldsRow.goesBy Tryz.pinned.checked.prog:=by kernel_rfl
theorem relHolds_par:(Tryz.f4.params.toList.all fun t=>!Tryz.pinned.checked.prog.wantsStandIn t)=true:=by kernel_rfl
theorem relHolds_named:Tryz.pinned.checked.prog.funcNamed "plumbline/plumblinelaw04.RelHolds" = some 4:=by kernel_rfl
theorem relHolds_holds:Rows.RelHoldsCardSaid:=
 Claim7.holds_tied_plain_at .later [] [.data,.data,.data] true (true, "71c373f515b5d6404ff57fe099454b4ae9c8cd2d69debb21d8290a970539b276") false
  relHolds_said (fun _ h=>by cases h) relHolds_wf (fun _ h=>by cases h) relHolds_row_tie rfl ⟨rfl,rfl⟩ card_main rfl
  (fun f fn hf hfn=>by
   obtain rfl:f=4:=(Option.some.inj (relHolds_named.symm.trans hf)).symm
   obtain rfl:fn=Tryz.f4:=(Option.some.inj (Tryz.func4.symm.trans hfn)).symm
   refine⟨card_looks,fun j t ht=>?_⟩
   have h3:=List.all_eq_true.1 relHolds_par t (List.mem_of_getElem? (by rw[Array.getElem?_toList];exact ht))
   exact Bool.not_eq_true' _▸h3)
  relHolds_goes
end Go.Proofs.YtpncilciembjdaaGreatDoor
