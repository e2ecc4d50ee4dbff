/- Seats of D: contracts from elsewhere, tables of fu -/
import Derived.Test.YtlmhajfbpplpoaaGreatSAR
import Derived.Test.YtlmhajfbpplpoaaGreatSAO
import Derived.Test.YtlmhajfbpplpoaaGreatChecked
set_option linter.unusedSectionVars false
set_option linter.unusedSimpArgs false
set_option linter.unusedVariables false
namespace Go.Proofs.YtlmhajfbpplpoaaGreat
open Go.RowKit
def CF:List AV->Option AV
 |[.v (.string s)]=>if s.size<=9223372036854775807 then some (bv (E3 s.data.toList)) else none
 |_=>none
def NJ:List AV->Option AV
 |[.v (.string s)]=>if s.size<=9223372036854775807 then(match GC s.data.toList with
  |.ok ts=>some (.tup [.ls (ts.map eTk),.agg [iv 0,iv 0],iv 0])
  |.err c ln co=>some (.tup [.ls [],.agg [iv (ln:Int),iv (co:Int)],iv (c:Int)])) else none
 |_=>none
def Cx(res:List AV->Option AV):DF:=fun args bs=>match bs with
 |[]=>(res args).map fun r=>(r,[])
 |_=>none
def BV:List AV->Option AV
 |[.v (.string s)]=>if s.size<=9223372036854775807 then some (bv (Et s.data.toList)) else none
 |_=>none
def CG(P:Program)(ents:Nat):List (Nat × MFn)->Prop
 |[]=>True
 |p::r=>(∃ hs a b,p.2=Bj P ents hs a b p.1)/\ZJ P p.1=true/\CG P ents r
theorem Ic{P:Program}{ents:Nat}:∀{L:List (Nat × MFn)},CG P ents L->∀ f mf,(f,mf)∈L->FnOk P ents f mf
 |p::r,⟨⟨hs,a,b,h1⟩,h2,h3⟩,f,mf,hm=>by
  rcases List.mem_cons.1 hm with rfl|hm
  .have h1:mf=_:=h1
   rw[h1]
   exact AbI h2
  .exact Ic h3 f mf hm
theorem BQ{P:Program}{ents:Nat}:∀{L L':List (Nat × MFn)},CG P ents L->CG P ents L'->CG P ents (L++L')
 |[],_,_,h=>h
 |_::_,_,⟨h1,h2,h3⟩,h=>⟨h1,h2,BQ h3 h⟩
def YM(P:Program)(ents n:Nat):Bool:=Nat.blt ents (2 ^ n)&&(List.range n).all fun g=>!ents.testBit g||FQ P g
theorem MV{P:Program}{ents n:Nat}(h:YM P ents n=true):G4 P ents:=by
 unfold YM at h
 rw[Bool.and_eq_true]at h
 intro g hg
 have hn:ents<2 ^ n:=Nat.blt_eq.mp h.1
 by_cases hgn:g<n
 .have:=List.all_eq_true.1 h.2 g (List.mem_range.2 hgn)
  rw[hg]at this
  simpa using this
 .have:ents<2 ^ g:=Nat.lt_of_lt_of_le hn (Nat.pow_le_pow_right (by decide) (by omega))
  rw[Nat.testBit_lt_two_pow this]at hg
  cases hg
theorem M1{α:Type}{f:Nat}:∀{A B:List (Nat × α)},CH f (A++B)=match CH f A with
  |some a=>some a
  |none=>CH f B
 |[],_=>rfl
 |(m,b)::r,B=>by
  have ih:=M1 (f:=f) (A:=r) (B:=B)
  show (match Nat.beq f m with
   |true=>some b
   |false=>CH f (r++B))=match (match Nat.beq f m with
   |true=>some b
   |false=>CH f r) with
   |some a=>some a
   |none=>CH f B
  cases Nat.beq f m with
  |true=>rfl
  |false=>exact ih
def AfJ(A B:List (Nat × MFn)):Bool:=B.all fun p=>(CH p.1 A).isNone
theorem Ae{A B:List (Nat × MFn)}(h:AfJ A B=true){f:Nat}{mf:MFn}(hf:CH f B=some mf):CH f (A++B)=some mf:=by
 have:=List.all_eq_true.1 h _ (Df hf)
 have h0:CH f A=none:=Option.isNone_iff_eq_none.1 this
 rw[M1,h0]
 exact hf
theorem BU{A B:List (Nat × MFn)}{f:Nat}{mf:MFn}(hf:CH f A=some mf):CH f (A++B)=some mf:=by
 rw[M1,hf]
theorem Ii{S:LW}(hm:Mt S)(res:List AV->Option AV)
  (h:∀ args r,res args=some r->∀(μ:Mu) (F:AT) (w:World) (us:List Value),RepList μ F w args us->S us w fun u w'=>Below w.heap.size w w'/\Rep μ (WL F w w') w' r u):BC S (Cx res):=YX hm res h
theorem TE{P:Program}{f:Nat}(h:∀(s:ByteArray) w,s.size<=9223372036854775807->Calls P f #[.string s] w fun e w'=>e=.returned (.bool (Et s.data.toList))/\Below w.heap.size w w'):BC (BZ P f) (Cx BV):=by
 refine Ii (CO P f) _ fun args r hr μ F w us hus=>?_
 unfold BV at hr
 split at hr
 .rename_i s
  split at hr
  .rename_i hs
   injection hr with hr
   subst hr
   obtain rfl:=QE hus
   refine Calls.mono (h s w hs) ?_
   rintro e w' ⟨rfl,hb⟩
   exact⟨_,rfl,hb,Uj _⟩
  .cases hr
 .cases hr
theorem YP{P:Program}{f:Nat}(h:∀(s:ByteArray) w,s.size<=9223372036854775807->Calls P f #[.string s] w fun e w'=>e=.returned (.bool (E3 s.data.toList))/\Below w.heap.size w w'):BC (BZ P f) (Cx CF):=by
 refine Ii (CO P f) _ fun args r hr μ F w us hus=>?_
 unfold CF at hr
 split at hr
 .rename_i s
  split at hr
  .rename_i hs
   injection hr with hr
   subst hr
   obtain rfl:=QE hus
   refine Calls.mono (h s w hs) ?_
   rintro e w' ⟨rfl,hb⟩
   exact⟨_,rfl,hb,Uj _⟩
  .cases hr
 .cases hr
def PN(s:ByteArray)(ety:TypeId)(w:World)(e:Ending)(w':World):Prop:=match GC s.data.toList with
 |.ok ts=>∃ v,e=.returned (.tuple #[v,.agg #[.int .i64 0,.int .i64 0],.int .i64 0])/\w'.ownsRow w.heap.size ety 4 v ts.length ((ts.map tkV).flatten)/\Below w.heap.size w w'
 |.err c ln co=>e=.returned (.tuple #[.slice none 0 0,.agg #[.int .i64 ln,.int .i64 co],.int .i64 c])/\Below w.heap.size w w'
theorem VB{μ:Mu}{F:AT}{w:World}{a:AV}{u:Value}{p q n:Int}(h:Rep μ F w a u):Rep μ F w (.tup [a,.agg [iv p,iv q],iv n]) (.tuple #[u,.agg #[.int .i64 p,.int .i64 q],.int .i64 n]):=by
 simp only[Rep,RepList]
 exact⟨_,rfl,_,_,rfl,h,_,_,rfl,⟨_,rfl,_,_,rfl,K5 _,_,_,rfl,K5 _,rfl⟩,_,_,rfl,K5 _,rfl⟩
theorem AbF{P:Program}{f:Nat}(ety:TypeId)(h:∀(s:ByteArray) w,s.size<=9223372036854775807->Calls P f #[.string s] w (PN s ety w)):BC (BZ P f) (Cx NJ):=by
 refine Ii (CO P f) _ fun args r hr μ F w us hus=>?_
 unfold NJ at hr
 split at hr
 .rename_i s
  split at hr
  .rename_i hs
   obtain rfl:=QE hus
   have g:=h s w hs
   unfold PN at g
   cases ha:GC s.data.toList with
   |ok ts=>
    rw[ha]at hr g
    injection hr with hr
    subst hr
    refine Calls.mono g ?_
    rintro e w' ⟨v,rfl,ho,hb⟩
    exact⟨_,rfl,hb,VB (AcO ho)⟩
   |err c ln co=>
    rw[ha]at hr g
    injection hr with hr
    subst hr
    refine Calls.mono g ?_
    rintro e w' ⟨rfl,hb⟩
    refine⟨_,rfl,hb,VB ?_⟩
    unfold Rep
    exact⟨rfl,none,0,rfl,Nat.le_refl _,Nat.zero_le _,fun h=>absurd rfl h⟩
  .cases hr
 .cases hr
def Ah:Nat:=1989262591437705541604795875994989242731836106004175106551764689416051591154717805248508
def As:List (Nat × Nat):=[(263,0),(152,0),(206,0),(242,0),(243,0),(260,0),(273,0),(156,0),(208,0)]
def Am0:Am:=[]
noncomputable def AkA:MFn:=Bj Tryz.prog Ah Am0 false false 60
def Aih:Hnt:=⟨[(61,(.bool,[]))],[],[(3,[.bool,.str,.str])]⟩
def Am1:Am:=[]
noncomputable def AkB:MFn:=Bj Tryz.prog Ah Am1 false false 61
def Aii:Hnt:=⟨[(108,(.bool,[])),(109,(.bool,[]))],[],[(4,[.str]),(8,[.str]),(13,[.str]),(17,[.str]),(23,[.str]),(27,[.str])]⟩
def Aiw:Am:=[⟨19,[true,true,false,false,false,false,false,true,true],[],[],[(0,([false,false,false,false,true],([],[]))),(1,([],([],[])))]⟩]
noncomputable def U3:MFn:=Bj Tryz.prog Ah Aiw false false 107
def RD:Hnt:=⟨[(60,(.bool,[]))],[(0,[(0,([.int .i64],[])),(1,([],[]))])],[(14,[.bool,.str,.str]),(15,[.bool,.str,.str])]⟩
def AmZ:Am:=[]
noncomputable def Akz:MFn:=Bj Tryz.prog Ah AmZ false false 59
def Aig:Hnt:=⟨[(107,(.int .i64,[]))],[],[]⟩
def AmG:Am:=[]
noncomputable def Ako:MFn:=Bj Tryz.prog Ah AmG false false 23
def Ah9:Hnt:=⟨[(59,(.bool,[]))],[],[]⟩
def AmY:Am:=[]
noncomputable def Aky:MFn:=Bj Tryz.prog Ah AmY false false 57
def Aif:Hnt:=⟨[],[],[(4,[.str]),(8,[.str]),(12,[.str]),(15,[.str]),(18,[.str]),(20,[.str])]⟩
def AmO:Am:=[]
noncomputable def Akw:MFn:=Bj Tryz.prog Ah AmO false false 45
def Aid:Hnt:=⟨[],[],[(4,[.ls]),(9,[.ls]),(15,[.int .i64]),(20,[.str]),(25,[.str])]⟩
def AmP:Am:=[]
noncomputable def Akx:MFn:=Bj Tryz.prog Ah AmP false false 46
def Aie:Hnt:=⟨[(23,(.bool,[]))],[],[(4,[.int .i64]),(8,[.ls]),(13,[.ls]),(18,[.int .i64]),(23,[.int .i64]),(28,[.str]),(33,[.str]),(38,[.ls])]⟩
def Aix:Am:=[]
noncomputable def Aez:MFn:=Bj Tryz.prog Ah Aix false false 110
def AdO:Hnt:=⟨[],[],[]⟩
def Aiy:Am:=[]
noncomputable def AeA:MFn:=Bj Tryz.prog Ah Aiy false false 111
def AdP:Hnt:=⟨[],[],[(11,[.int .i64]),(15,[.int .i64]),(21,[.int .i64]),(28,[.int .i64]),(38,[.int .i64])]⟩
def Am2:Am:=[⟨59,[false,true,true,false,false,false,false,false,false,false,false,false,false,false,false,false,false,false,false,false,false,false,false,false,false,false,false,false,false,false,false,false,false,false,false,true,true,true],[],[2],[(0,([false,false,false,false,true],([],[2]))),(1,([],([],[2])))]⟩]
noncomputable def Aci:MFn:=Bj Tryz.prog Ah Am2 false false 62
def Y3:Hnt:=⟨[(45,(.bool,[])),(46,(.bool,[])),(62,(.bool,[])),(110,(.int .i64,[])),(111,(.bool,[]))],[(0,[(0,([.bool],[.del])),(1,([],[.del]))])],[(9,[.int .i64]),(11,[.int .i64,.ls,.ls,.int .i64,.str,.str,.ls]),(14,[.int .i64]),(18,[.int .i64,.ls,.ls,.int .i64,.str,.str,.ls]),(23,[.ls]),(26,[.int .i64]),(35,[.ls]),(40,[.int .i64,.ls,.ls,.int .i64,.str,.str,.ls]),(41,[.int .i64,.ls,.ls,.int .i64,.str,.str,.ls]),(44,[.int .i64]),(46,[.int .i64,.ls,.ls,.int .i64,.str,.str,.ls]),(53,[.int .i64,.ls,.ls,.int .i64,.str,.str,.ls])]⟩
def AmH:Am:=[]
noncomputable def Akq:MFn:=Bj Tryz.prog Ah AmH false false 24
def Aia:Hnt:=⟨[(62,(.bool,[]))],[],[(3,[.int .i64,.ls,.ls,.int .i64,.str,.str,.ls])]⟩
noncomputable def GY:List (Nat × MFn):=[(60,AkA),(61,AkB),(107,U3),(59,Akz),(23,Ako),(57,Aky),(45,Akw),(46,Akx),(110,Aez),(111,AeA),(62,Aci),(24,Akq)]
theorem e60(A:Ar)(D:Orc)(x0_0:Bool)(x0_1:ByteArray)(x0_2:ByteArray):B3 A D As Aih .n 60 AkA [AV.agg [bv x0_0,sv x0_1,sv x0_2]] [] =
 Af D (Key.fn 61) [AV.agg [bv x0_0,sv x0_1,sv x0_2]] [] fun r o=>
 AW r fun b=>
 Ac o<|
 br b
 (some ((bv false,[])))
 (some ((bv true,[]))):=by kernel_rfl
theorem e61(A:Ar)(D:Orc)(x0_0:Bool)(x0_1:ByteArray)(x0_2:ByteArray):B3 A D As Aii (.b (.b .n (.b (.b (.b (.b .n (.b (.b .n (.b (.b (.b (.b (.t (.b (.b .n (.b .n (.b .n (.b (.b (.b (.b (.b (.b (.b (.b (.f .n) .n) .n) .n) .n) .n) .n) .n) .n)))) .n)) .n) .n) .n) .n)) .n)) .n) .n) .n)) (.b (.b .n (.b .n (.b .n (.b (.b (.b (.b (.b (.f .n) .n) .n) .n) .n) .n)))) .n)) 61 AkB [AV.agg [bv x0_0,sv x0_1,sv x0_2]] [] =
 br (A.seq x0_1 (AE []))
 (br (A.seq x0_2 (AE []))
 (some ((bv false,[])))
 (br (A.seq x0_1 (AE [])) (br (A.seq x0_2 (AE [])) none (Af D (Key.fn 109) [sv x0_2] [] fun r o=>
 AW r fun b=>
 Ac o<|
 br b
 (some ((bv true,[])))
 (some ((bv false,[]))))) none))
 (br (A.seq x0_1 (AE [])) none (Af D (Key.fn 108) [sv x0_1] [] fun r o=>
 AW r fun b=>
 Ac o<|
 br b
 (br (A.seq x0_2 (AE []))
 (some ((bv true,[])))
 (Af D (Key.fn 109) [sv x0_2] [] fun r1 o1=>
 AW r1 fun b1=>
 Ac o1<|
 br b1
 (some ((bv true,[])))
 (some ((bv false,[])))))
 (some ((bv false,[]))))):=by kernel_rfl
theorem Aln(A:Ar)(D:Orc)(x0:List (List AV)):B3 A D As RD .n 107 U3 [AV.ls x0,AV.fn (Fn.func 60) [] []] [] =
 Af D (Key.lp 107 0) [AV.ls x0,AV.fn (Fn.func 60) [] [],iv ↑(Be x0),iv 0] [] fun r o=>
 AF r fun cs=>
 Aj cs fun c l=>
 br (Bw 0 c)
 (Ay IntKind.i64 l fun n l1=>
 Ad l1<|
 Ac o<|
 some ((iv n,[])))
 (br (Bw 1 c)
 (Ad l<|
 Ac o<|
 some ((iv (-1),[])))
 (none)):=by kernel_rfl
theorem Yf(A:Ar)(D:Orc)(x0:List (List AV))(t7:Int)(t8:Int):D2 A D As RD .n 107 0 (Bc U3 0).fst (Bc U3 0).snd [AV.ls x0,AV.fn (Fn.func 60) [] [],iv t7,iv t8] [] =
 br (A.lt t8 t7)
 (unI t8 fun i=>
 BG x0 i fun cs=>
 Ag cs fun b l=>
 Br l fun s l1=>
 Br l1 fun s1 l2=>
 Ad l2<|
 Af D (Key.fn 60) [AV.agg [bv b,sv s,sv s1]] [] fun r o=>
 AW r fun b1=>
 Ac o<|
 br b1
 (some ((AV.tup [bv true,iv t8],[])))
 (Af D (Key.lp 107 0) [AV.ls x0,AV.fn (Fn.func 60) [] [],iv t7,iv (A.add IntKind.i64 t8 1)] [] fun r1 o1=>
 AR 0 [] (AH.mk [] 0 none) [] r1 o1))
 (some ((AV.tup [iv 0],[]))):=by kernel_rfl
theorem e59(A:Ar)(D:Orc)(x0:List (List AV)):B3 A D As Aig .n 59 Akz [AV.ls x0,AV.fn (Fn.func 60) [] []] [] =
 Af D (Key.fn 107) [AV.ls x0,AV.fn (Fn.func 60) [] []] [] fun r o=>
 Bp IntKind.i64 r fun n=>
 Ac o<|
 br (A.le 0 n)
 (some ((bv true,[])))
 (some ((bv false,[]))):=by kernel_rfl
theorem e23(A:Ar)(D:Orc)(x0:List (List AV)):B3 A D As Ah9 .n 23 Ako [AV.ls x0] [] =
 br (A.lt 0 ↑(Be x0))
 (br (A.le (↑(Be x0)) 64)
 (Af D (Key.fn 59) [AV.ls x0,AV.fn (Fn.func 60) [] []] [] fun r o=>
 AW r fun b=>
 Ac o<|
 br b
 (some ((bv false,[])))
 (some ((bv true,[]))))
 (some ((bv false,[]))))
 (some ((bv false,[]))):=by kernel_rfl
theorem e57(A:Ar)(D:Orc)(x0_0:Bool)(x0_1:ByteArray)(x0_2:ByteArray):B3 A D As Aif .n 57 Aky [AV.agg [bv x0_0,sv x0_1,sv x0_2]] [] =
 br (A.seq x0_1 (AE []))
 (br ((A.slen x0_1+A.slen x0_2).ble 9223372036854775807) (some ((sv (A.cat x0_1 x0_2),[]))) none)
 (br (A.seq x0_2 (AE []))
 (br ((A.slen x0_1+A.slen x0_2).ble 9223372036854775807) (some ((sv (A.cat x0_1 x0_2),[]))) none)
 (br ((A.slen x0_1+A.slen (AE [42])).ble 9223372036854775807) (br ((A.slen (A.cat x0_1 (AE [42]))+A.slen x0_2).ble 9223372036854775807) (some ((sv (A.cat (A.cat x0_1 (AE [42])) x0_2),[]))) none) none)):=by kernel_rfl
theorem e45(A:Ar)(D:Orc)(x0_0:Int)(x0_1:List (List AV))(x0_2:List (List AV))(x0_3:Int)(x0_4:ByteArray)(x0_5:ByteArray)(x0_6:List (List AV)):B3 A D As Aid .n 45 Akw [AV.agg [iv x0_0,AV.ls x0_1,AV.ls x0_2,iv x0_3,sv x0_4,sv x0_5,AV.ls x0_6]] [] =
 br (A.eq (↑(Be x0_1)) 0)
 (br (A.eq (↑(Be x0_2)) 0)
 (br (A.eq x0_3 0)
 (br (A.seq x0_4 (AE []))
 (br (A.seq x0_5 (AE []))
 (some ((bv true,[])))
 (some ((bv false,[]))))
 (some ((bv false,[]))))
 (some ((bv false,[]))))
 (some ((bv false,[]))))
 (some ((bv false,[]))):=by kernel_rfl
theorem e46(A:Ar)(D:Orc)(x0_0:Int)(x0_1:List (List AV))(x0_2:List (List AV))(x0_3:Int)(x0_4:ByteArray)(x0_5:ByteArray)(x0_6:List (List AV)):B3 A D As Aie .n 46 Akx [AV.agg [iv x0_0,AV.ls x0_1,AV.ls x0_2,iv x0_3,sv x0_4,sv x0_5,AV.ls x0_6]] [] =
 br (A.eq x0_0 2)
 (Af D (Key.fn 23) [AV.ls x0_1] [] fun r o=>
 AW r fun b=>
 Ac o<|
 br b
 (Af D (Key.fn 23) [AV.ls x0_2] [] fun r1 o1=>
 AW r1 fun b1=>
 Ac o1<|
 br b1
 (br (A.le 0 x0_3)
 (br (A.le x0_3 5)
 (br (A.seq x0_4 (AE []))
 (br (A.seq x0_5 (AE []))
 (br (A.eq (↑(Be x0_6)) 0)
 (some ((bv true,[])))
 (some ((bv false,[]))))
 (some ((bv false,[]))))
 (some ((bv false,[]))))
 (some ((bv false,[]))))
 (some ((bv false,[]))))
 (some ((bv false,[]))))
 (some ((bv false,[]))))
 (some ((bv false,[]))):=by kernel_rfl
theorem Alo(A:Ar)(D:Orc)(x0:Int):B3 A D As AdO .n 110 Aez [iv x0] [] =
 br (A.eq x0 0)
 (some ((iv 0,[])))
 (br (A.eq x0 1)
 (some ((iv 0,[])))
 (br (A.eq x0 3)
 (some ((iv 1,[])))
 (br (A.eq x0 4)
 (some ((iv 2,[])))
 (br (A.eq x0 5)
 (some ((iv 2,[])))
 (some ((iv (-1),[]))))))):=by kernel_rfl
theorem Alp(A:Ar)(D:Orc)(x0:Int)(x1:Int)(x2_0:Int)(x2_1:List (List AV))(x2_2:List (List AV))(x2_3:Int)(x2_4:ByteArray)(x2_5:ByteArray)(x2_6:List (List AV)):B3 A D As AdP .n 111 AeA [iv x0,iv x1,AV.agg [iv x2_0,AV.ls x2_1,AV.ls x2_2,iv x2_3,sv x2_4,sv x2_5,AV.ls x2_6]] [] =
 br (A.eq x0 3)
 (br (A.eq x2_0 4)
 (some ((bv true,[])))
 (br (A.eq x2_0 5)
 (some ((bv true,[])))
 (some ((bv false,[])))))
 (br (A.eq x0 4)
 (br (A.eq x2_0 5)
 (some ((bv true,[])))
 (br (A.eq x1 1)
 (br (A.eq x2_0 4)
 (some ((bv true,[])))
 (some ((bv false,[]))))
 (some ((bv false,[])))))
 (br (A.eq x0 5)
 (br (A.eq x1 1)
 (br (A.eq x2_0 5)
 (some ((bv true,[])))
 (some ((bv false,[]))))
 (some ((bv false,[]))))
 (some ((bv false,[]))))):=by kernel_rfl
theorem e62(A:Ar)(D:Orc)(x0_0:Int)(x0_1:List (List AV))(x0_2:List (List AV))(x0_3:Int)(x0_4:ByteArray)(x0_5:ByteArray)(x0_6:List (List AV))(x1:Int):B3 A D As Y3 .n 62 Aci [AV.agg [iv x0_0,AV.ls x0_1,AV.ls x0_2,iv x0_3,sv x0_4,sv x0_5,AV.ls x0_6],iv x1] [] =
 br (A.eq x0_0 2)
 (Af D (Key.fn 46) [AV.agg [iv x0_0,AV.ls x0_1,AV.ls x0_2,iv x0_3,sv x0_4,sv x0_5,AV.ls x0_6]] [] fun r o=>
 AW r fun b=>
 Ac o<|
 br b
 (some ((bv true,[])))
 (some ((bv false,[]))))
 (br (A.eq x0_0 3)
 (Af D (Key.fn 45) [AV.agg [iv x0_0,AV.ls x0_1,AV.ls x0_2,iv x0_3,sv x0_4,sv x0_5,AV.ls x0_6]] [] fun r o=>
 AW r fun b=>
 Ac o<|
 br b
 (Af D (Key.fn 110) [iv x0_0] [] fun r1 o1=>
 Bp IntKind.i64 r1 fun n=>
 Ac o1<|
 br (A.eq (↑(Be x0_6)) n)
 (br (A.lt 60 (A.add IntKind.i64 x1 1))
 (some ((bv false,[])))
 (Af D (Key.lp 62 0) [iv (A.add IntKind.i64 x1 1),AV.ptr 0 0,AV.ls x0_6,iv ↑(Be x0_6),iv 0] [ABlk.mk [iv x0_0,AV.ls x0_1,AV.ls x0_2,iv x0_3,sv x0_4,sv x0_5,AV.ls x0_6] true false] fun r2 o2=>
 AF r2 fun cs=>
 Aj cs fun c l=>
 br (Bw 0 c)
 (Ag l fun b1 l1=>
 Ad l1<|
 AG o2 fun c1 l2=>
 BW c1<|
 Ac l2<|
 some ((bv b1,[])))
 (br (Bw 1 c)
 (Ad l<|
 AG o2 fun c1 l1=>
 BW c1<|
 Ac l1<|
 some ((bv true,[])))
 (none))))
 (some ((bv false,[]))))
 (some ((bv false,[]))))
 (Af D (Key.fn 45) [AV.agg [iv x0_0,AV.ls x0_1,AV.ls x0_2,iv x0_3,sv x0_4,sv x0_5,AV.ls x0_6]] [] fun r o=>
 AW r fun b=>
 Ac o<|
 br b
 (Af D (Key.fn 110) [iv x0_0] [] fun r1 o1=>
 Bp IntKind.i64 r1 fun n=>
 Ac o1<|
 br (A.eq (↑(Be x0_6)) n)
 (br (A.lt 60 x1)
 (some ((bv false,[])))
 (Af D (Key.lp 62 0) [iv x1,AV.ptr 0 0,AV.ls x0_6,iv ↑(Be x0_6),iv 0] [ABlk.mk [iv x0_0,AV.ls x0_1,AV.ls x0_2,iv x0_3,sv x0_4,sv x0_5,AV.ls x0_6] true false] fun r2 o2=>
 AF r2 fun cs=>
 Aj cs fun c l=>
 br (Bw 0 c)
 (Ag l fun b1 l1=>
 Ad l1<|
 AG o2 fun c1 l2=>
 BW c1<|
 Ac l2<|
 some ((bv b1,[])))
 (br (Bw 1 c)
 (Ad l<|
 AG o2 fun c1 l1=>
 BW c1<|
 Ac l1<|
 some ((bv true,[])))
 (none))))
 (some ((bv false,[]))))
 (some ((bv false,[]))))):=by kernel_rfl
theorem AdC(A:Ar)(D:Orc)(t1:Int)(b2_0:Int)(b2_1:List (List AV))(b2_2:List (List AV))(b2_3:Int)(b2_4:ByteArray)(b2_5:ByteArray)(b2_6:List (List AV))(t35:List (List AV))(t36:Int)(t37:Int):D2 A D As Y3 .n 62 0 (Bc Aci 0).fst (Bc Aci 0).snd [iv t1,AV.ptr 0 0,AV.ls t35,iv t36,iv t37] [{ cells:=[iv b2_0,AV.ls b2_1,AV.ls b2_2,iv b2_3,sv b2_4,sv b2_5,AV.ls b2_6],st:=true,ex:=false }] =
 br (A.lt t37 t36)
 (unI t37 fun i=>
 BG t35 i fun cs=>
 Ay IntKind.i64 cs fun n l=>
 AI l fun xs l1=>
 AI l1 fun xs1 l2=>
 Ay IntKind.i64 l2 fun n1 l3=>
 Br l3 fun s l4=>
 Br l4 fun s1 l5=>
 AI l5 fun xs2 l6=>
 Ad l6<|
 Af D (Key.fn 111) [iv b2_0,iv t37,AV.agg [iv n,AV.ls xs,AV.ls xs1,iv n1,sv s,sv s1,AV.ls xs2]] [] fun r o=>
 AW r fun b=>
 Ac o<|
 br b
 (br (A.lt 60 (A.add IntKind.i64 t1 1))
 (some ((AV.tup [bv true,bv false],[BO.del])))
 (Af D (Key.fn 62) [AV.agg [iv n,AV.ls xs,AV.ls xs1,iv n1,sv s,sv s1,AV.ls xs2],iv (A.add IntKind.i64 t1 1)] [] fun r1 o1=>
 AW r1 fun b1=>
 Ac o1<|
 br b1
 (Af D (Key.lp 62 0) [iv t1,AV.ptr 0 0,AV.ls t35,iv t36,iv (A.add IntKind.i64 t37 1)] [ABlk.mk [iv b2_0,AV.ls b2_1,AV.ls b2_2,iv b2_3,sv b2_4,sv b2_5,AV.ls b2_6] true false] fun r2 o2=>
 AR 1 [0] (AH.mk [(0,ABlk.mk [iv b2_0,AV.ls b2_1,AV.ls b2_2,iv b2_3,sv b2_4,sv b2_5,AV.ls b2_6] true false),(1,ABlk.mk [iv n,AV.ls xs,AV.ls xs1,iv n1,sv s,sv s1,AV.ls xs2] true false)] 2 none) [0] r2 o2)
 (some ((AV.tup [bv true,bv false],[BO.del])))))
 (br (A.lt 60 t1)
 (some ((AV.tup [bv true,bv false],[BO.del])))
 (Af D (Key.fn 62) [AV.agg [iv n,AV.ls xs,AV.ls xs1,iv n1,sv s,sv s1,AV.ls xs2],iv t1] [] fun r1 o1=>
 AW r1 fun b1=>
 Ac o1<|
 br b1
 (Af D (Key.lp 62 0) [iv t1,AV.ptr 0 0,AV.ls t35,iv t36,iv (A.add IntKind.i64 t37 1)] [ABlk.mk [iv b2_0,AV.ls b2_1,AV.ls b2_2,iv b2_3,sv b2_4,sv b2_5,AV.ls b2_6] true false] fun r2 o2=>
 AR 1 [0] (AH.mk [(0,ABlk.mk [iv b2_0,AV.ls b2_1,AV.ls b2_2,iv b2_3,sv b2_4,sv b2_5,AV.ls b2_6] true false),(1,ABlk.mk [iv n,AV.ls xs,AV.ls xs1,iv n1,sv s,sv s1,AV.ls xs2] true false)] 2 none) [0] r2 o2)
 (some ((AV.tup [bv true,bv false],[BO.del]))))))
 (some ((AV.tup [iv 0],[BO.del]))):=by kernel_rfl
theorem e24(A:Ar)(D:Orc)(x0_0:Int)(x0_1:List (List AV))(x0_2:List (List AV))(x0_3:Int)(x0_4:ByteArray)(x0_5:ByteArray)(x0_6:List (List AV)):B3 A D As Aia .n 24 Akq [AV.agg [iv x0_0,AV.ls x0_1,AV.ls x0_2,iv x0_3,sv x0_4,sv x0_5,AV.ls x0_6]] [] =
 Af D (Key.fn 62) [AV.agg [iv x0_0,AV.ls x0_1,AV.ls x0_2,iv x0_3,sv x0_4,sv x0_5,AV.ls x0_6],iv 0] [] fun r o=>
 AW r fun b=>
 Ac o<|
 br b
 (some ((bv true,[])))
 (some ((bv false,[]))):=by kernel_rfl
end Go.Proofs.YtlmhajfbpplpoaaGreat
