/- How long what is handed -/
import Derived.Test.YtpncilciembjdaaGreatDoorBBT
import Derived.Test.YtpncilciembjdaaGreatDoorBBV
import Derived.Deep.DeepHandedRow
import Derived.LaidLaws
import Derived.Test.YtpncilciembjdaaGreatDoorTie
import Derived.Test.YtpncilciembjdaaGreatDoorBBR
import Derived.Test.YtpncilciembjdaaGreatDoorBBS
import Derived.Test.YtpncilciembjdaaGreatDoorCards
import Derived.ProofKit
import Derived.SevenTiedAt
set_option linter.all false
open List renaming all_eq_true->Apd,map_cons->Aps,mem_cons_of_mem->ApB,mem_cons_self->Apn
namespace Go.Proofs.YtpncilciembjdaaGreatDoor
open Go.Proofs.Tryz renaming prog->ψ
open Go.ChangeShapes Go.WideShapes Go.ChangeAt Go.RowKit
theorem Yv{y:D}(h:D.Typed ψ y 24):∃ l:List Nat,y.av=[eN l]/\Limbs l:=by
 obtain⟨xs,rfl,hx⟩:=h.slice_ Tryz.underlying24;have:∀ xs:List D,(∀ y∈xs,D.Typed ψ y 134)->∃ l:List Nat,xs.map D.av=l.map eL/\Limbs l:=λxs=>by
  induction xs with
  |nil=>intro _;exact⟨[],rfl,Bz⟩
  |cons x r ih=>
   intro hh;obtain⟨l,e1,e2⟩:=ih λy hy=>hh y (ApB _ hy)
   obtain⟨n,rfl,hw⟩:=(hh x (Apn ..)).int_ Tryz.underlying134;have hw:0<=n/\n<4294967296:=by
    simp only[Lit.wf,Bool.and_eq_true,decide_eq_true_eq]at hw;have h1:IntKind.u32.min=0:=by decide
    have h2:IntKind.u32.max=4294967295:=by decide
    omega
   obtain⟨m,rfl⟩:=Int.eq_ofNat_of_zero_le hw.1;exact⟨m::l,by rw[Aps,Aps,e1];rfl,A5 (by omega) e2⟩
 obtain⟨l,e1,e2⟩:=this xs hx;exact⟨l,by rw[D.av,HK,e1];rfl,e2⟩
theorem Ag7{y:D}(h:D.Typed ψ y 26):∃ z:Zi,y.av=eZ z/\Limbs z.abs:=by
 obtain⟨xs,rfl,g0⟩:=h.struct_ Tryz.underlying26;obtain⟨x0,r0,rfl,h0,g1⟩:=D.TypedFields.cons_ g0;obtain⟨x1,r1,rfl,h1,g2⟩:=D.TypedFields.cons_ g1;obtain rfl:=D.TypedFields.nil_ g2;obtain⟨b,rfl⟩:=h0.bool_ Tryz.underlying4;obtain⟨l,e1,e2⟩:=Yv h1;refine⟨⟨b,l⟩,?_,e2⟩
 show D.av (.agg [.bool b,x1])=_
 simp only[D.av,Gl,e1];rfl
theorem AlM{y:D}(h:D.Typed ψ y 84):∃ p:Pt,y.av=eP p/\Limbs p.z.abs:=by
 obtain⟨xs,rfl,g0⟩:=h.struct_ Tryz.underlying84;obtain⟨x0,r0,rfl,h0,g1⟩:=D.TypedFields.cons_ g0;obtain⟨x1,r1,rfl,h1,g2⟩:=D.TypedFields.cons_ g1;obtain rfl:=D.TypedFields.nil_ g2;obtain⟨n,rfl,_⟩:=h0.int_ Tryz.underlying3;obtain⟨z,e1,e2⟩:=Ag7 h1;refine⟨⟨n,z⟩,?_,e2⟩
 show D.av (.agg [.int .i64 n,x1])=_
 simp only[D.av,Gl,e1];rfl
theorem AiR{y:D}(h:D.Typed ψ y 22):∃ ps:List Pt,y.av=[.ls (ps.map eP)]/\∀ p∈ps,Limbs p.z.abs:=by
 obtain⟨xs,rfl,hx⟩:=h.slice_ Tryz.underlying22;have:∀ xs:List D,(∀ y∈xs,D.Typed ψ y 84)->∃ ps:List Pt,xs.map D.av=ps.map eP/\∀ p∈ps,Limbs p.z.abs:=λxs=>by
  induction xs with
  |nil=>intro _;exact⟨[],rfl,by simp⟩
  |cons x r ih=>
   intro hh;obtain⟨ps,e1,e2⟩:=ih λy hy=>hh y (ApB _ hy)
   obtain⟨p,k1,k2⟩:=AlM (hh x (Apn ..));refine⟨p::ps,by rw[Aps,Aps,e1,k1],λu hu=>?_⟩;rcases List.mem_cons.1 hu with rfl|hu
   .exact k2
   .exact e2 u hu
 obtain⟨ps,e1,e2⟩:=this xs hx;exact⟨ps,by rw[D.av,HK,e1],e2⟩
theorem Al2{y:D}(h:D.Typed ψ y 28):∃ t:Tm,y.av=eT t/\LmT t:=by
 obtain⟨xs,rfl,g0⟩:=h.struct_ Tryz.underlying28;obtain⟨x0,r0,rfl,h0,g1⟩:=D.TypedFields.cons_ g0;obtain⟨x1,r1,rfl,h1,g2⟩:=D.TypedFields.cons_ g1;obtain rfl:=D.TypedFields.nil_ g2;obtain⟨ps,e1,e2⟩:=AiR h0;obtain⟨z,e3,e4⟩:=Ag7 h1;refine⟨⟨ps,z⟩,?_,⟨e2,e4⟩⟩
 show D.av (.agg [x0,x1])=_
 simp only[D.av,Gl,e1,e3];rfl
theorem AgY{y:D}(h:D.Typed ψ y 30):∃(t:Tm) (e:Bool),y.av=Dt (t,e)/\LmT t:=by
 obtain⟨xs,rfl,g0⟩:=h.struct_ Tryz.underlying30;obtain⟨x0,r0,rfl,h0,g1⟩:=D.TypedFields.cons_ g0;obtain⟨x1,r1,rfl,h1,g2⟩:=D.TypedFields.cons_ g1;obtain rfl:=D.TypedFields.nil_ g2;obtain⟨t,e1,e2⟩:=Al2 h0;obtain⟨b,rfl⟩:=h1.bool_ Tryz.underlying4;refine⟨t,b,?_,e2⟩
 show D.av (.agg [x0,.bool b])=_
 simp only[D.av,Gl,e1];rfl
theorem Yo{H:Type}{enc:TypeId × Value->H}{C:Checked}{os:Go.Os}{f:FuncId}{fn:Func}{s:ChangeSpec}{F:Stop.Interp}(laid:List (String × DataW Unit))(n:Nat)(L:List TypeId)(tb:TypeId)
  (own:ownKnob C.prog.godebug=none) (started:os.Started) (noInit:C.prog.inits.idxOf? f=none) (hfn:C.prog.funcs[f]? = some fn)
  (witness:∃(w:World) (tape:Tape) (i:Input),w.os=os/\(w.forCall tape i).Shaped C.prog/\i.vars=[]/\Input.okWide C.prog (w.forCall tape i) .any w.heap.size f i ∧
   (OpenSpec.ofChange s).preRow enc C.prog fn [] false laid (w.forCall tape i).memory i.args/\({}:Assume).holds C.prog (lone (Frame.enter C.prog f i.args .normal) [] (w.forCall tape i)))
  (hL:L.all (MQ C.prog L)=true) (hn:fn.params.toList.length=n) (hin:(fn.params.toList.all λt=>L.contains t&&C.prog.readableRec t&&decide (t<C.prog.types.size))=true)
  (laidO:laidOutB C.prog=true) (hres:fn.resultTypes=#[tb]) (htb:C.prog.underlying tb=some .bool)
  (hvars:s.vars=[]) (hspec:∀ ds:List (DataW H),ds.length=n->s.fn H ds={ results:=[.lit (.bool true)],args:=ds })
  (contract:∀(W:World) (args:Array Value) (xs:List D),HF W C.prog fn.params.toList args.toList xs->Calls C.prog f args W λe W'=>e=.returned (.bool true)/\Below W.heap.size W W') :
  ReturnsInHanded {} C os f .any ((OpenSpec.ofChange s).preRow enc C.prog fn [] false laid) (((OpenSpec.ofChange s).at F).post enc C.prog fn false true false false):=by
 refine returnsInHanded_of_row own started noInit hfn witness ?_;intro W base args ds gs before hval hW _ _ hsz _ _ _;have hW':DataW.Whole enc C.prog fn.params.toList s.vars false W args.toList ds gs before:=hW;have hvars':s.plain.varTypes C.prog=[]:=by unfold DataSpec.varTypes ChangeSpec.plain;simp[hvars]
 have hsz':(DataW.weightsEach C.prog (fn.params.toList++s.plain.varTypes C.prog) (ds++gs)).all (· ≤ reachBytes)=true:=hsz;obtain⟨p,q,hA,hV,rfl,hfz,hnd⟩:=hW;have hV':DataW.TrodVars enc C.prog W _ s.vars gs q:=hV;rw[hvars]at hV';have hg:gs=[]/\q=[]:=by
  cases gs with
  |nil=>exact⟨rfl,hV'⟩
  |cons _ _=>exact hV'.elim
 obtain⟨rfl,rfl⟩:=hg;have hlt:∀ x∈p++[],x.block<W.heap.size:=λx hx=>hW'.lt x hx
 have hlen:ds.length=n:=(KQ _ _ _ _ hA).trans hn;have hall:∀ t∈fn.params.toList,t∈L/\C.prog.readableRec t=true/\t<C.prog.types.size:=λt ht=>by
  have:=Apd.1 hin t ht;simpa[and_assoc]using this
 obtain⟨xs,hxs⟩:=Tv hL fn.params.toList args.toList ds p (λt ht=>(hall t ht).1) (λj t v h1 h2=>hval j t v (by simpa using h1) (by simpa using h2)) hA (λk hk=>by
  have:=Apd.1 hsz' k;rw[hvars']at this;simpa using this (by simpa using hk))
 refine(contract W args xs hxs).mono λe W' ⟨he,hb⟩=>⟨_,he,?_⟩
 have hsp:s.fn H (ds++[])={ results:=[.lit (.bool true)],args:=ds }:=by rw[List.append_nil];exact hspec ds hlen
 show s.post enc C.prog fn false true false false W args _ W'
 refine⟨ds,[],p++[],[],p,[],hW',?_,?_,?_,hb.frame _,λh=>by cases h⟩
 .rw[hsp,hres]
  exact trodAll_mk1 (shut_bool htb true)
 .rw[hsp]
  have:=HD (P:=C.prog) laidO hb fn.params.toList args.toList ds p (λt ht=>(hall t ht).2) (λx hx=>hlt x (by simp[hx])) hA;exact this
 .rw[hvars]
  exact(show DataW.TrodVars enc C.prog W' _ [] (s.fn H (ds++[])).vars [] from by rw[hsp];exact rfl)
def PW:DataW Unit->Array Value
 |.agg xs=>(xs.map λ| .lit (.int k n)=>Value.int k n|_=>Go.undef).toArray
 |_=>#[]
def SU(vs:Array Value):Obj->Obj
 |.cells _ t fz=>.cells vs t fz
 |o=>o
noncomputable def Hb(os:Go.Os):World:=
 { World.holding ψ os ⟨#[],#[],[]⟩ with heap:=(((World.holding ψ os ⟨#[],#[],[]⟩).heap.modify 2 (SU (PW Rows.laid_math_bits_deBruijn32tab))).modify 3 (SU (PW Rows.laid_math_bits_deBruijn64tab))).modify 1 (SU (PW Rows.laid_internal_strconv_uint64pow10)) }
def TW:List (String × DataW Unit):=[("math/bits.deBruijn32tab",Rows.laid_math_bits_deBruijn32tab),("math/bits.deBruijn64tab",Rows.laid_math_bits_deBruijn64tab),("internal/strconv.uint64pow10",Rows.laid_internal_strconv_uint64pow10)]
set_option maxRecDepth 100000 in
theorem Yl(os:Go.Os)(args:Array Value):laidMet ψ TW ((Hb os).forCall (λ_ _=>0) ⟨#[],args,[]⟩).memory:=
 laidMet_of_run' 8 (by kernel_rfl) (by kernel_rfl)
set_option maxRecDepth 1000000 in
theorem U7:Tryz.pinned.checked.prog.mainIs=some (true, "71c373f515b5d6404ff57fe099454b4ae9c8cd2d69debb21d8290a970539b276".toList):=by kernel_rfl
set_option maxRecDepth 1000000 in
theorem Sa:false=Tryz.pinned.checked.prog.looks []:=by kernel_rfl
theorem AlX:Gd.ask (.fn 15) [] []=some (bv true,[]):=Aji Ai4
theorem Qi:CloneF Gd where
 nat l h:=Wp (Jm h)
theorem Al6:ZF Gd:=Ag6 Age Agl Qi
theorem AnW:RF Gd:=AlW Agg Agh
theorem Us:PartF Gd where
 clone l h:=Ws (LU h)
 grow n h:=ZX (Vi h)
theorem Ahz:DivF Gd where
 div _ _ ha hal hb hbl:=Ae8 (AlE ha hal hb hbl)
theorem Al5:ZdF Gd:=Ag5 Age Agl Qi AkT Ahz
theorem AnT:RdF Gd:=AlV Agg Agh AkY AkW
theorem Al1:TiF Gd:=Ajc Agj Agk Agi Al6 Us Ak5 Al5 (λh hn hk=>Wv (V9 h hn hk))
theorem Rr:SeatOk ψ Bb Ti:=V3 Fk HV Ju (AjS _) (gSk _) Ano
theorem K6(v1 v2:Value)(t1:Tm)(e1:Bool)(p1:LmT t1)(t2:Tm)(e2:Bool)(p2:LmT t2)(w:World)(r1:Rep (λ_=>none) (λg _=>g<w.heap.size) w (.agg (Dt (t1,e1))) v1)(r2:Rep (λ_=>none) (λg _=>g<w.heap.size) w (.agg (Dt (t2,e2))) v2) :
  Calls ψ 3 #[v1,v2] w λe w'=>e=.returned (.bool true)/\Below w.heap.size w w':=by
 have g:=Vc Rr (NB Agj Agk Agi Al6 Us Al5 Al1 Ak7 AkV AkR Ak1 AkX AnW Ak0 AnT Ak2 Ak3 AkZ AkQ Aib AlX t1 t2 e1 e2 p1 p2) w [v1,v2] (by
  simp only[RepList];exact⟨_,_,rfl,r1,_,_,rfl,r2,rfl⟩)
 refine Calls.mono g ?_;rintro e w' ⟨u,rfl,hb,μ',F',hr⟩;unfold bv Rep at hr;rw[hr.1];exact⟨rfl,hb⟩
set_option maxRecDepth 100000 in
theorem I1(os:Go.Os){H:Type}(enc:TypeId × Value->H) :
  (OpenSpec.ofChange Rows.relTightsSpec).preRow enc ψ Tryz.f3 [] false TW ((Hb os).forCall (λ_ _=>0) ⟨#[],#[.agg #[.slice none 0 0,.bool false,.slice none 0 0,.bool false],.agg #[.slice none 0 0,.bool false,.slice none 0 0,.bool false]],[]⟩).memory #[.agg #[.slice none 0 0,.bool false,.slice none 0 0,.bool false],.agg #[.slice none 0 0,.bool false,.slice none 0 0,.bool false]]:=by
 have hw:(DataW.whole enc ψ ((Hb os).forCall (λ_ _=>0) ⟨#[],#[.agg #[.slice none 0 0,.bool false,.slice none 0 0,.bool false],.agg #[.slice none 0 0,.bool false,.slice none 0 0,.bool false]],[]⟩).memory Tryz.f3.params.toList (OpenSpec.ofChange Rows.relTightsSpec).vars false #[Value.agg #[.slice none 0 0,.bool false,.slice none 0 0,.bool false],Value.agg #[.slice none 0 0,.bool false,.slice none 0 0,.bool false]].toList 8).map (λx=>(x.1,x.2.1)) =
   some ([.agg [.agg [.nil,.agg [.lit (.bool false),.nil]],.lit (.bool false)],.agg [.agg [.nil,.agg [.lit (.bool false),.nil]],.lit (.bool false)]],[]):=by kernel_rfl
 obtain⟨⟨x1,x2,x3⟩,hx,hx1⟩:=Option.map_eq_some_iff.1 hw;simp only[Prod.mk.injEq]at hx1;obtain⟨rfl,rfl⟩:=hx1;exact OpenSpec.preRow_of_cond 8 hx (by kernel_rfl) (λk hk=>by cases hk) (by kernel_rfl) (Yl os _)
set_option maxRecDepth 100000 in
theorem JH(os:Go.Os)(started:os.Started)(H:Type)(enc:TypeId × Value->H)(F:Stop.Interp) :
  ReturnsInHanded {} Tryz.checked os 3 .any ((OpenSpec.ofChange Rows.relTightsSpec).preRow enc ψ Tryz.f3 [] false TW) (((OpenSpec.ofChange Rows.relTightsSpec).at F).post enc ψ Tryz.f3 false true false false):=by
 refine Yo (C:=Tryz.checked) TW 2 [4,3,134,24,26,84,22,28,30] 4 YO started (by kernel_rfl) Tryz.func3
  (witness_row_at (enc:=enc) (C:=Tryz.checked) false (Hb os) #[.agg #[.slice none 0 0,.bool false,.slice none 0 0,.bool false],.agg #[.slice none 0 0,.bool false,.slice none 0 0,.bool false]] rfl (by kernel_rfl) (by kernel_rfl) (by kernel_rfl) (I1 os enc))
  (by kernel_rfl) rfl (by kernel_rfl) Ym rfl Tryz.underlying4 rfl (λds h=>?_) (λW args xs h=>?_)
 .match ds,h with
  |[d1,d2],_=>rfl
 .have h':HF W ψ [30,30] args.toList xs:=h
  obtain⟨args⟩:=args;obtain⟨v1,a1,x1,y1,qq,rfl,⟨cs1,E1,H1,T1,F1⟩,h'⟩:=JY h';obtain⟨v2,a2,x2,y2,rfl,rfl,⟨cs2,E2,H2,T2,F2⟩,h'⟩:=JY h';obtain rfl:=R4 h';have qq:args=[v1,v2]:=qq;subst qq;obtain⟨t1,e1,k1,p1⟩:=AgY T1;obtain⟨t2,e2,k2,p2⟩:=AgY T2;have i1:=Pj (μ:=λ_=>none) (F:=λg _=>g<W.heap.size) (λg hg _=>hg) x1 cs1 H1;rw[k1]at i1;have i2:=Pj (μ:=λ_=>none) (F:=λg _=>g<W.heap.size) (λg hg _=>hg) x2 cs2 H2;rw[k2]at i2;obtain⟨zs1,rfl,_⟩:=T1.struct_ Tryz.underlying30;have E1:v1=.agg cs1.toArray:=E1;subst E1;obtain⟨zs2,rfl,_⟩:=T2.struct_ Tryz.underlying30;have E2:v2=.agg cs2.toArray:=E2;subst E2;exact K6 _ _ t1 e1 p1 t2 e2 p2 W (by rw[Rep];exact⟨cs1.toArray,rfl,i1⟩) (by rw[Rep];exact⟨cs2.toArray,rfl,i2⟩)
set_option maxRecDepth 1000000 in
set_option maxHeartbeats 4000000 in
theorem JG:joinedFacts Tryz.pinned.checked.prog 3 Tryz.f3 (OpenSpec.ofChange Rows.relTightsSpec).bare Rows.relTightsRow=true:=by
 unfold joinedFacts
 repeat' (with_reducible refine Bool.and_eq_true_iff.2 ⟨?_,?_⟩)
 all_goals (as_aux_lemma=>kernel_rfl)
theorem MW:Rows.RelTightsSaid:=
 OpenClaim.holds_of_cond 3 Tryz.f3 rfl rfl rfl rfl rfl rfl rfl ⟨rfl,rfl,rfl,rfl,rfl⟩ rfl rfl rfl rfl rfl (by kernel_rfl) Tryz.func3 JG
  (of_decide_eq_true (by kernel_rfl)) (by unfold Func.isWrapper;first | (rw[if_pos (by decide +kernel)];kernel_rfl) | (rw[if_neg (by decide +kernel)];exact⟨rfl,rfl⟩))
  (λos started H enc _ F=>by rw[OpenClaim.pre_eq_preRow];exact JH os started H enc F)
set_option maxRecDepth 1000000 in
theorem PJ:Rows.relTightsRow.wfByText (OpenSpec.ofChange Rows.relTightsSpec)=true:=by kernel_rfl
set_option maxRecDepth 1000000 in
theorem MV:false=Rows.relTightsRow.goesBy Tryz.pinned.checked.prog:=by kernel_rfl
theorem NE:(Tryz.f3.params.toList.all λt=>!Tryz.pinned.checked.prog.wantsStandIn t)=true:=by kernel_rfl
theorem K7:Tryz.pinned.checked.prog.funcNamed "plumbline/plumblinelaw04.RelTights" = some 3:=by kernel_rfl
theorem relTights_holds:Rows.RelTightsCardSaid:=
 Claim7.holds_tied_plain_at .later [] [.data,.data,.data] true (true, "71c373f515b5d6404ff57fe099454b4ae9c8cd2d69debb21d8290a970539b276") false
  MW (λ_ h=>by cases h) PJ (λ_ h=>by cases h) relTights_row_tie rfl ⟨rfl,rfl⟩ U7 rfl
  (λf fn hf hfn=>by
   obtain rfl:f=3:=(Option.some.inj (K7.symm.trans hf)).symm;obtain rfl:fn=Tryz.f3:=(Option.some.inj (Tryz.func3.symm.trans hfn)).symm;refine⟨Sa,λj t ht=>?_⟩;have h3:=Apd.1 NE t (List.mem_of_getElem? (by rw[Array.getElem?_toList];exact ht));exact Bool.not_eq_true' _▸h3)
  MV
end Go.Proofs.YtpncilciembjdaaGreatDoor
