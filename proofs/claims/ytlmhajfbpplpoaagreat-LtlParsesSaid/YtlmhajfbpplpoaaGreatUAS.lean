/-
  Seats of D: contracts from elsewhere, tables of functions. No program in sight.
  The contracts in the form that the hand-walked texts have.
  What functions may be called, and which arguments go over as they are.
  Functions of the program as trees: what a call comes to.
-/
import Derived.Test.YtlmhajfbpplpoaaGreatUAR
import Derived.Test.YtlmhajfbpplpoaaGreatUAO
import Derived.Test.YtlmhajfbpplpoaaGreatChecked
set_option linter.unusedSectionVars false
set_option linter.unusedSimpArgs false
set_option linter.unusedVariables false
namespace Go.Proofs.YtlmhajfbpplpoaaGreat
open Go.RowKit

def resName:List AV->Option AV
 |[.v (.string s)]=>if s.size<=9223372036854775807 then some (bv (nameB s.data.toList)) else none
 |_=>none
def resAll:List AV->Option AV
 |[.v (.string s)]=>if s.size<=9223372036854775807 then(match lexAll s.data.toList with
  |.ok ts=>some (.tup [.ls (ts.map eTk),.agg [iv 0,iv 0],iv 0])
  |.err c ln co=>some (.tup [.ls [],.agg [iv (ln:Int),iv (co:Int)],iv (c:Int)])) else none
 |_=>none
def extD(res:List AV->Option AV):DF:=fun args bs=>match bs with
 |[]=>(res args).map fun r=>(r,[])
 |_=>none
def resNumber:List AV->Option AV
 |[.v (.string s)]=>if s.size<=9223372036854775807 then some (bv (numB s.data.toList)) else none
 |_=>none
def AllFn(P:Program)(ents:Nat):List (Nat × MFn)->Prop
 |[]=>True
 |p::r=>(∃ hs a b,p.2=mfD P ents hs a b p.1)/\okFnD P p.1=true/\AllFn P ents r
theorem allFn_mem{P:Program}{ents:Nat}:∀{L:List (Nat × MFn)},AllFn P ents L->∀ f mf,(f,mf)∈L->FnOk P ents f mf
 |p::r,⟨⟨hs,a,b,h1⟩,h2,h3⟩,f,mf,hm=>by
  rcases List.mem_cons.1 hm with rfl|hm
  .have h1:mf=_:=h1
   rw[h1]
   exact fnOk_of h2
  .exact allFn_mem h3 f mf hm
theorem allFn_app{P:Program}{ents:Nat}:∀{L L':List (Nat × MFn)},AllFn P ents L->AllFn P ents L'->AllFn P ents (L++L')
 |[],_,_,h=>h
 |_::_,_,⟨h1,h2,h3⟩,h=>⟨h1,h2,allFn_app h3 h⟩
def entOkB(P:Program)(ents n:Nat):Bool:=Nat.blt ents (2 ^ n)&&(List.range n).all fun g=>!ents.testBit g||enterable P g
theorem entOk_of{P:Program}{ents n:Nat}(h:entOkB P ents n=true):EntOk P ents:=by
 unfold entOkB at h
 rw[Bool.and_eq_true]at h
 intro g hg
 have hn:ents<2 ^ n:=Nat.blt_eq.mp h.1
 by_cases hgn:g<n
 .have:=List.all_eq_true.1 h.2 g (List.mem_range.2 hgn)
  rw[hg]at this
  simpa using this
 .have:ents<2 ^ g:=Nat.lt_of_lt_of_le hn (Nat.pow_le_pow_right (by decide) (by omega))
  rw[Nat.testBit_lt_two_pow this]at hg
  cases hg
theorem find_app{α:Type}{f:Nat}:∀{A B:List (Nat × α)},findN f (A++B)=match findN f A with
  |some a=>some a
  |none=>findN f B
 |[],_=>rfl
 |(m,b)::r,B=>by
  have ih:=find_app (f:=f) (A:=r) (B:=B)
  show (match Nat.beq f m with
   |true=>some b
   |false=>findN f (r++B))=match (match Nat.beq f m with
   |true=>some b
   |false=>findN f r) with
   |some a=>some a
   |none=>findN f B
  cases Nat.beq f m with
  |true=>rfl
  |false=>exact ih
def apartN(A B:List (Nat × MFn)):Bool:=B.all fun p=>(findN p.1 A).isNone
theorem find_right{A B:List (Nat × MFn)}(h:apartN A B=true){f:Nat}{mf:MFn}(hf:findN f B=some mf):findN f (A++B)=some mf:=by
 have:=List.all_eq_true.1 h _ (findN_mem hf)
 have h0:findN f A=none:=Option.isNone_iff_eq_none.1 this
 rw[find_app,h0]
 exact hf
theorem find_left{A B:List (Nat × MFn)}{f:Nat}{mf:MFn}(hf:findN f A=some mf):findN f (A++B)=some mf:=by
 rw[find_app,hf]
end Go.Proofs.YtlmhajfbpplpoaaGreat
namespace Go.Proofs.YtlmhajfbpplpoaaGreat
open Go.RowKit

theorem goodD_ext{S:SemT}(hm:MonoS S)(res:List AV->Option AV)
  (h:∀ args r,res args=some r->∀(μ:Mu) (F:Prot) (w:World) (us:List Value),RepList μ F w args us->S us w fun u w'=>Below w.heap.size w w'/\Rep μ (newF F w w') w' r u):GoodD S (extD res):=goodD_of hm res h
theorem ext_number{P:Program}{f:Nat}(h:∀(s:ByteArray) w,s.size<=9223372036854775807->Calls P f #[.string s] w fun e w'=>e=.returned (.bool (numB s.data.toList))/\Below w.heap.size w w'):GoodD (SemFn P f) (extD resNumber):=by
 refine goodD_ext (semFn_mono P f) _ fun args r hr μ F w us hus=>?_
 unfold resNumber at hr
 split at hr
 .rename_i s
  split at hr
  .rename_i hs
   injection hr with hr
   subst hr
   obtain rfl:=rep_str hus
   refine Calls.mono (h s w hs) ?_
   rintro e w' ⟨rfl,hb⟩
   exact⟨_,rfl,hb,rep_bv _⟩
  .cases hr
 .cases hr
theorem ext_name{P:Program}{f:Nat}(h:∀(s:ByteArray) w,s.size<=9223372036854775807->Calls P f #[.string s] w fun e w'=>e=.returned (.bool (nameB s.data.toList))/\Below w.heap.size w w'):GoodD (SemFn P f) (extD resName):=by
 refine goodD_ext (semFn_mono P f) _ fun args r hr μ F w us hus=>?_
 unfold resName at hr
 split at hr
 .rename_i s
  split at hr
  .rename_i hs
   injection hr with hr
   subst hr
   obtain rfl:=rep_str hus
   refine Calls.mono (h s w hs) ?_
   rintro e w' ⟨rfl,hb⟩
   exact⟨_,rfl,hb,rep_bv _⟩
  .cases hr
 .cases hr
def AllSays(s:ByteArray)(ety:TypeId)(w:World)(e:Ending)(w':World):Prop:=match lexAll s.data.toList with
 |.ok ts=>∃ v,e=.returned (.tuple #[v,.agg #[.int .i64 0,.int .i64 0],.int .i64 0])/\w'.ownsRow w.heap.size ety 4 v ts.length ((ts.map tkV).flatten)/\Below w.heap.size w w'
 |.err c ln co=>e=.returned (.tuple #[.slice none 0 0,.agg #[.int .i64 ln,.int .i64 co],.int .i64 c])/\Below w.heap.size w w'
theorem rep_all{μ:Mu}{F:Prot}{w:World}{a:AV}{u:Value}{p q n:Int}(h:Rep μ F w a u):Rep μ F w (.tup [a,.agg [iv p,iv q],iv n]) (.tuple #[u,.agg #[.int .i64 p,.int .i64 q],.int .i64 n]):=by
 simp only[Rep,RepList]
 exact⟨_,rfl,_,_,rfl,h,_,_,rfl,⟨_,rfl,_,_,rfl,rep_iv _,_,_,rfl,rep_iv _,rfl⟩,_,_,rfl,rep_iv _,rfl⟩
theorem ext_all{P:Program}{f:Nat}(ety:TypeId)(h:∀(s:ByteArray) w,s.size<=9223372036854775807->Calls P f #[.string s] w (AllSays s ety w)):GoodD (SemFn P f) (extD resAll):=by
 refine goodD_ext (semFn_mono P f) _ fun args r hr μ F w us hus=>?_
 unfold resAll at hr
 split at hr
 .rename_i s
  split at hr
  .rename_i hs
   obtain rfl:=rep_str hus
   have g:=h s w hs
   unfold AllSays at g
   cases ha:lexAll s.data.toList with
   |ok ts=>
    rw[ha]at hr g
    injection hr with hr
    subst hr
    refine Calls.mono g ?_
    rintro e w' ⟨v,rfl,ho,hb⟩
    exact⟨_,rfl,hb,rep_all (rep_tks ho)⟩
   |err c ln co=>
    rw[ha]at hr g
    injection hr with hr
    subst hr
    refine Calls.mono g ?_
    rintro e w' ⟨rfl,hb⟩
    refine⟨_,rfl,hb,rep_all ?_⟩
    unfold Rep
    exact⟨rfl,none,0,rfl,Nat.le_refl _,Nat.zero_le _,fun h=>absurd rfl h⟩
  .cases hr
 .cases hr
end Go.Proofs.YtlmhajfbpplpoaaGreat
namespace Go.Proofs.YtlmhajfbpplpoaaGreat
def entsC:Nat:=1989262591437705541604795875994989242731836106004175106551764689416051591154717805248508
def ownC:List (Nat × Nat):=[]
end Go.Proofs.YtlmhajfbpplpoaaGreat
namespace Go.Proofs.YtlmhajfbpplpoaaGreat
open Go.RowKit
def hs60:Hints:=[]
noncomputable def mf60:MFn:=mfD Tryz.prog entsC hs60 false false 60
def hn60:Hnt:=⟨[(61,(.bool,[]))],[],[(3,[.bool,.str,.str])]⟩
def hs61:Hints:=[]
noncomputable def mf61:MFn:=mfD Tryz.prog entsC hs61 false false 61
def hn61:Hnt:=⟨[(108,(.bool,[])),(109,(.bool,[]))],[],[(4,[.str]),(8,[.str]),(13,[.str]),(17,[.str]),(23,[.str]),(27,[.str])]⟩
def hs107:Hints:=[⟨19,[true,true,false,false,false,false,false,true,true],[],[],[(0,([false,false,false,false,true],([],[]))),(1,([],([],[])))]⟩]
noncomputable def mf107:MFn:=mfD Tryz.prog entsC hs107 false false 107
def hn107:Hnt:=⟨[(60,(.bool,[]))],[(0,[(0,([.int .i64],[])),(1,([],[]))])],[(14,[.bool,.str,.str]),(15,[.bool,.str,.str])]⟩
def hs59:Hints:=[]
noncomputable def mf59:MFn:=mfD Tryz.prog entsC hs59 false false 59
def hn59:Hnt:=⟨[(107,(.int .i64,[]))],[],[]⟩
def hs23:Hints:=[]
noncomputable def mf23:MFn:=mfD Tryz.prog entsC hs23 false false 23
def hn23:Hnt:=⟨[(59,(.bool,[]))],[],[]⟩
def hs57:Hints:=[]
noncomputable def mf57:MFn:=mfD Tryz.prog entsC hs57 false false 57
def hn57:Hnt:=⟨[],[],[(4,[.str]),(8,[.str]),(12,[.str]),(15,[.str]),(18,[.str]),(20,[.str])]⟩
def hs45:Hints:=[]
noncomputable def mf45:MFn:=mfD Tryz.prog entsC hs45 false false 45
def hn45:Hnt:=⟨[],[],[(4,[.ls]),(9,[.ls]),(15,[.int .i64]),(20,[.str]),(25,[.str])]⟩
def hs46:Hints:=[]
noncomputable def mf46:MFn:=mfD Tryz.prog entsC hs46 false false 46
def hn46:Hnt:=⟨[(23,(.bool,[]))],[],[(4,[.int .i64]),(8,[.ls]),(13,[.ls]),(18,[.int .i64]),(23,[.int .i64]),(28,[.str]),(33,[.str]),(38,[.ls])]⟩
def hs110:Hints:=[]
noncomputable def mf110:MFn:=mfD Tryz.prog entsC hs110 false false 110
def hs111:Hints:=[]
noncomputable def mf111:MFn:=mfD Tryz.prog entsC hs111 false false 111
def hs62:Hints:=[⟨59,[false,true,true,false,false,false,false,false,false,false,false,false,false,false,false,false,false,false,false,false,false,false,false,false,false,false,false,false,false,false,false,false,false,false,false,true,true,true],[],[2],[(0,([false,false,false,false,true],([],[2]))),(1,([],([],[2])))]⟩]
noncomputable def mf62:MFn:=mfD Tryz.prog entsC hs62 false false 62
def hs24:Hints:=[]
noncomputable def mf24:MFn:=mfD Tryz.prog entsC hs24 false false 24
noncomputable def tabTa:List (Nat × MFn):=[(60,mf60),(61,mf61),(107,mf107),(59,mf59),(23,mf23),(57,mf57),(45,mf45),(46,mf46),(110,mf110),(111,mf111),(62,mf62),(24,mf24)]
theorem e60(A:Ar)(D:Orc)(x0_0:Bool)(x0_1:ByteArray)(x0_2:ByteArray):fnK A D ownC hn60 .n 60 mf60 [AV.agg [bv x0_0,sv x0_1,sv x0_2]] [] =
 askK D (Key.fn 61) [AV.agg [bv x0_0,sv x0_1,sv x0_2]] [] fun r o=>
 unBool r fun b=>
 unEnd o<|
 br b
 (some ((bv false,[])))
 (some ((bv true,[]))):=by kernel_rfl

theorem e61(A:Ar)(D:Orc)(x0_0:Bool)(x0_1:ByteArray)(x0_2:ByteArray):fnK A D ownC hn61 (.b (.b .n (.b (.b (.b (.b .n (.b (.b .n (.b (.b (.b (.b (.t (.b (.b .n (.b .n (.b .n (.b (.b (.b (.b (.b (.b (.b (.b (.f .n) .n) .n) .n) .n) .n) .n) .n) .n)))) .n)) .n) .n) .n) .n)) .n)) .n) .n) .n)) (.b (.b .n (.b .n (.b .n (.b (.b (.b (.b (.b (.f .n) .n) .n) .n) .n) .n)))) .n)) 61 mf61 [AV.agg [bv x0_0,sv x0_1,sv x0_2]] [] =
 br (A.seq x0_1 (bstr []))
 (br (A.seq x0_2 (bstr []))
 (some ((bv false,[])))
 (br (A.seq x0_1 (bstr [])) (br (A.seq x0_2 (bstr [])) none (askK D (Key.fn 109) [sv x0_2] [] fun r o=>
 unBool r fun b=>
 unEnd o<|
 br b
 (some ((bv true,[])))
 (some ((bv false,[]))))) none))
 (br (A.seq x0_1 (bstr [])) none (askK D (Key.fn 108) [sv x0_1] [] fun r o=>
 unBool r fun b=>
 unEnd o<|
 br b
 (br (A.seq x0_2 (bstr []))
 (some ((bv true,[])))
 (askK D (Key.fn 109) [sv x0_2] [] fun r1 o1=>
 unBool r1 fun b1=>
 unEnd o1<|
 br b1
 (some ((bv true,[])))
 (some ((bv false,[])))))
 (some ((bv false,[]))))):=by kernel_rfl

theorem e107(A:Ar)(D:Orc)(x0:List (List AV)):fnK A D ownC hn107 .n 107 mf107 [AV.ls x0,AV.fn (Fn.func 60) [] []] [] =
 askK D (Key.lp 107 0) [AV.ls x0,AV.fn (Fn.func 60) [] [],iv ↑(lenR x0),iv 0] [] fun r o=>
 unTup r fun cs=>
 unCons cs fun c l=>
 br (axIs 0 c)
 (cInt IntKind.i64 l fun n l1=>
 unNil l1<|
 unEnd o<|
 some ((iv n,[])))
 (br (axIs 1 c)
 (unNil l<|
 unEnd o<|
 some ((iv (-1),[])))
 (none)):=by kernel_rfl

theorem e107_0(A:Ar)(D:Orc)(x0:List (List AV))(t7:Int)(t8:Int):lpK A D ownC hn107 .n 107 0 (lpAt mf107 0).fst (lpAt mf107 0).snd [AV.ls x0,AV.fn (Fn.func 60) [] [],iv t7,iv t8] [] =
 br (A.lt t8 t7)
 (unI t8 fun i=>
 nthK x0 i fun cs=>
 cBool cs fun b l=>
 cStr l fun s l1=>
 cStr l1 fun s1 l2=>
 unNil l2<|
 askK D (Key.fn 60) [AV.agg [bv b,sv s,sv s1]] [] fun r o=>
 unBool r fun b1=>
 unEnd o<|
 br b1
 (some ((AV.tup [bv true,iv t8],[])))
 (askK D (Key.lp 107 0) [AV.ls x0,AV.fn (Fn.func 60) [] [],iv t7,iv (A.add IntKind.i64 t8 1)] [] fun r1 o1=>
 tailK 0 [] (AH.mk [] 0 none) [] r1 o1))
 (some ((AV.tup [iv 0],[]))):=by kernel_rfl

theorem e59(A:Ar)(D:Orc)(x0:List (List AV)):fnK A D ownC hn59 .n 59 mf59 [AV.ls x0,AV.fn (Fn.func 60) [] []] [] =
 askK D (Key.fn 107) [AV.ls x0,AV.fn (Fn.func 60) [] []] [] fun r o=>
 unInt IntKind.i64 r fun n=>
 unEnd o<|
 br (A.le 0 n)
 (some ((bv true,[])))
 (some ((bv false,[]))):=by kernel_rfl

theorem e23(A:Ar)(D:Orc)(x0:List (List AV)):fnK A D ownC hn23 .n 23 mf23 [AV.ls x0] [] =
 br (A.lt 0 ↑(lenR x0))
 (br (A.le (↑(lenR x0)) 64)
 (askK D (Key.fn 59) [AV.ls x0,AV.fn (Fn.func 60) [] []] [] fun r o=>
 unBool r fun b=>
 unEnd o<|
 br b
 (some ((bv false,[])))
 (some ((bv true,[]))))
 (some ((bv false,[]))))
 (some ((bv false,[]))):=by kernel_rfl

theorem e57(A:Ar)(D:Orc)(x0_0:Bool)(x0_1:ByteArray)(x0_2:ByteArray):fnK A D ownC hn57 .n 57 mf57 [AV.agg [bv x0_0,sv x0_1,sv x0_2]] [] =
 br (A.seq x0_1 (bstr []))
 (br ((A.slen x0_1+A.slen x0_2).ble 9223372036854775807) (some ((sv (A.cat x0_1 x0_2),[]))) none)
 (br (A.seq x0_2 (bstr []))
 (br ((A.slen x0_1+A.slen x0_2).ble 9223372036854775807) (some ((sv (A.cat x0_1 x0_2),[]))) none)
 (br ((A.slen x0_1+A.slen (bstr [42])).ble 9223372036854775807) (br ((A.slen (A.cat x0_1 (bstr [42]))+A.slen x0_2).ble 9223372036854775807) (some ((sv (A.cat (A.cat x0_1 (bstr [42])) x0_2),[]))) none) none)):=by kernel_rfl

theorem e45(A:Ar)(D:Orc)(x0_0:Int)(x0_1:List (List AV))(x0_2:List (List AV))(x0_3:Int)(x0_4:ByteArray)(x0_5:ByteArray)(x0_6:List (List AV)):fnK A D ownC hn45 .n 45 mf45 [AV.agg [iv x0_0,AV.ls x0_1,AV.ls x0_2,iv x0_3,sv x0_4,sv x0_5,AV.ls x0_6]] [] =
 br (A.eq (↑(lenR x0_1)) 0)
 (br (A.eq (↑(lenR x0_2)) 0)
 (br (A.eq x0_3 0)
 (br (A.seq x0_4 (bstr []))
 (br (A.seq x0_5 (bstr []))
 (some ((bv true,[])))
 (some ((bv false,[]))))
 (some ((bv false,[]))))
 (some ((bv false,[]))))
 (some ((bv false,[]))))
 (some ((bv false,[]))):=by kernel_rfl

theorem e46(A:Ar)(D:Orc)(x0_0:Int)(x0_1:List (List AV))(x0_2:List (List AV))(x0_3:Int)(x0_4:ByteArray)(x0_5:ByteArray)(x0_6:List (List AV)):fnK A D ownC hn46 .n 46 mf46 [AV.agg [iv x0_0,AV.ls x0_1,AV.ls x0_2,iv x0_3,sv x0_4,sv x0_5,AV.ls x0_6]] [] =
 br (A.eq x0_0 2)
 (askK D (Key.fn 23) [AV.ls x0_1] [] fun r o=>
 unBool r fun b=>
 unEnd o<|
 br b
 (askK D (Key.fn 23) [AV.ls x0_2] [] fun r1 o1=>
 unBool r1 fun b1=>
 unEnd o1<|
 br b1
 (br (A.le 0 x0_3)
 (br (A.le x0_3 5)
 (br (A.seq x0_4 (bstr []))
 (br (A.seq x0_5 (bstr []))
 (br (A.eq (↑(lenR x0_6)) 0)
 (some ((bv true,[])))
 (some ((bv false,[]))))
 (some ((bv false,[]))))
 (some ((bv false,[]))))
 (some ((bv false,[]))))
 (some ((bv false,[]))))
 (some ((bv false,[]))))
 (some ((bv false,[]))))
 (some ((bv false,[]))):=by kernel_rfl

end Go.Proofs.YtlmhajfbpplpoaaGreat
