/- Seats of D: contracts from elsewhere, tables of fu -/
import Derived.Test.YtlmhajfbpplpoaaGreatOAR
import Derived.Test.YtlmhajfbpplpoaaGreatChecked
set_option linter.all false
open List renaming all_eq_true->ApJ
open Nat renaming beq->Ap3
namespace Go.Proofs.YtlmhajfbpplpoaaGreat
noncomputable section
open Go.RowKit
def CJ:List AV->Option AV
 |[.v (.string s)]=>if s.size<=9223372036854775807 then some (bv (DE s.data.toList)) else none
 |_=>none
def Oq:List AV->Option AV
 |[.v (.string s)]=>if s.size<=9223372036854775807 then(match GO s.data.toList with
  |.ok ts=>some (.tup [.ls (ts.map eTk),.agg [iv 0,iv 0],iv 0])
  |.err c ln co=>some (.tup [.ls [],.agg [iv (ln:Int),iv (co:Int)],iv (c:Int)])) else none
 |_=>none
def CS(res:List AV->Option AV):DF:=λargs bs=>match bs with
 |[]=>(res args).map λr=>(r,[])
 |_=>none
def B0:List AV->Option AV
 |[.v (.string s)]=>if s.size<=9223372036854775807 then some (bv (Ew s.data.toList)) else none
 |_=>none
def Cj(P:Program)(ents:Nat):List (Nat × MFn)->Prop
 |[]=>True
 |p::r=>(∃ hs a b,p.2=MK P ents hs a b p.1)/\AbF P p.1=true/\Cj P ents r
theorem ER{P:Program}{ents:Nat}:∀{L:List (Nat × MFn)},Cj P ents L->∀ f mf,(f,mf)∈L->FnOk P ents f mf
 |p::r,⟨⟨hs,a,b,h1⟩,h2,h3⟩,f,mf,hm=>by
  rcases List.mem_cons.1 hm with rfl|hm
  .have h1:mf=_:=h1
   rw[h1];exact Ad2 h2
  .exact ER h3 f mf hm
theorem BH{P:Program}{ents:Nat}:∀{L L':List (Nat × MFn)},Cj P ents L->Cj P ents L'->Cj P ents (L++L')
 |[],_,_,h=>h
 |_::_,_,⟨h1,h2,h3⟩,h=>⟨h1,h2,BH h3 h⟩
def Aar(P:Program)(ents n:Nat):Bool:=Nat.blt ents (2 ^ n)&&(List.range n).all λg=>!ents.testBit g||F7 P g
theorem Hr{P:Program}{ents n:Nat}(h:Aar P ents n=true):FY P ents:=by
 unfold Aar at h;rw[Bool.and_eq_true]at h;intro g hg;have hn:ents<2 ^ n:=Nat.blt_eq.mp h.1
 by_cases hgn:g<n
 .have:=ApJ.1 h.2 g (List.mem_range.2 hgn)
  rw[hg]at this;simpa using this
 .have:ents<2 ^ g:=Nat.lt_of_lt_of_le hn (Nat.pow_le_pow_right (by decide) (by omega))
  rw[Nat.testBit_lt_two_pow this]at hg
  cases hg
theorem NH{α:Type}{f:Nat}:∀{A B:List (Nat × α)},CL f (A++B)=match CL f A with
  |some a=>some a
  |none=>CL f B
 |[],_=>rfl
 |(m,b)::r,B=>by
  have ih:=NH (f:=f) (A:=r) (B:=B)
  show (match Ap3 f m with
   |true=>some b
   |false=>CL f (r++B))=match (match Ap3 f m with
   |true=>some b
   |false=>CL f r) with
   |some a=>some a
   |none=>CL f B
  cases Ap3 f m with
  |true=>rfl
  |false=>exact ih
def AiK(A B:List (Nat × MFn)):Bool:=B.all λp=>(CL p.1 A).isNone
theorem Ah{A B:List (Nat × MFn)}(h:AiK A B=true){f:Nat}{mf:MFn}(hf:CL f B=some mf):CL f (A++B)=some mf:=by
 have:=ApJ.1 h _ (Cq hf);have h0:CL f A=none:=Option.isNone_iff_eq_none.1 this;rw[NH,h0];exact hf
theorem BN{A B:List (Nat × MFn)}{f:Nat}{mf:MFn}(hf:CL f A=some mf):CL f (A++B)=some mf:=by
 rw[NH,hf]
theorem IA{S:MB}(hm:M9 S)(res:List AV->Option AV)
  (h:∀ args r,res args=some r->∀(μ:Mu) (F:AP) (w:World) (us:List Value),RepList μ F w args us->S us w λu w'=>Below w.heap.size w w'/\Rep μ (Yd F w w') w' r u):Bz S (CS res):=AaI hm res h
theorem UG{P:Program}{f:Nat}(h:∀(s:ByteArray) w,s.size<=9223372036854775807->Calls P f #[.string s] w λe w'=>e=.returned (.bool (Ew s.data.toList))/\Below w.heap.size w w'):Bz (BS P f) (CS B0):=by
 refine IA (CU P f) _ λargs r hr μ F w us hus=>?_
 unfold B0 at hr;split at hr
 .rename_i s
  split at hr
  .rename_i hs
   injection hr with hr
   subst hr;obtain rfl:=Rq hus;refine Calls.mono (h s w hs) ?_;rintro e w' ⟨rfl,hb⟩;exact⟨_,rfl,hb,Vr _⟩
  .cases hr
 .cases hr
theorem Aaw{P:Program}{f:Nat}(h:∀(s:ByteArray) w,s.size<=9223372036854775807->Calls P f #[.string s] w λe w'=>e=.returned (.bool (DE s.data.toList))/\Below w.heap.size w w'):Bz (BS P f) (CS CJ):=by
 refine IA (CU P f) _ λargs r hr μ F w us hus=>?_
 unfold CJ at hr;split at hr
 .rename_i s
  split at hr
  .rename_i hs
   injection hr with hr
   subst hr;obtain rfl:=Rq hus;refine Calls.mono (h s w hs) ?_;rintro e w' ⟨rfl,hb⟩;exact⟨_,rfl,hb,Vr _⟩
  .cases hr
 .cases hr
def Qx(s:ByteArray)(ety:TypeId)(w:World)(e:Ending)(w':World):Prop:=match GO s.data.toList with
 |.ok ts=>∃ v,e=.returned (.tuple #[v,.agg #[.int .i64 0,.int .i64 0],.int .i64 0])/\w'.ownsRow w.heap.size ety 4 v ts.length ((ts.map tkV).flatten)/\Below w.heap.size w w'
 |.err c ln co=>e=.returned (.tuple #[.slice none 0 0,.agg #[.int .i64 ln,.int .i64 co],.int .i64 c])/\Below w.heap.size w w'
theorem WO{μ:Mu}{F:AP}{w:World}{a:AV}{u:Value}{p q n:Int}(h:Rep μ F w a u):Rep μ F w (.tup [a,.agg [iv p,iv q],iv n]) (.tuple #[u,.agg #[.int .i64 p,.int .i64 q],.int .i64 n]):=by
 simp only[Rep,RepList];exact⟨_,rfl,_,_,rfl,h,_,_,rfl,⟨_,rfl,_,_,rfl,Lw _,_,_,rfl,Lw _,rfl⟩,_,_,rfl,Lw _,rfl⟩
theorem Ad1{P:Program}{f:Nat}(ety:TypeId)(h:∀(s:ByteArray) w,s.size<=9223372036854775807->Calls P f #[.string s] w (Qx s ety w)):Bz (BS P f) (CS Oq):=by
 refine IA (CU P f) _ λargs r hr μ F w us hus=>?_
 unfold Oq at hr;split at hr
 .rename_i s
  split at hr
  .rename_i hs
   obtain rfl:=Rq hus;have g:=h s w hs;unfold Qx at g
   cases ha:GO s.data.toList with
   |ok ts=>
    rw[ha]at hr g;injection hr with hr
    subst hr;refine Calls.mono g ?_;rintro e w' ⟨v,rfl,ho,hb⟩;exact⟨_,rfl,hb,WO (Afi ho)⟩
   |err c ln co=>
    rw[ha]at hr g;injection hr with hr
    subst hr;refine Calls.mono g ?_;rintro e w' ⟨rfl,hb⟩;refine⟨_,rfl,hb,WO ?_⟩;unfold Rep;exact⟨rfl,none,0,rfl,Nat.le_refl _,Nat.zero_le _,λh=>absurd rfl h⟩
  .cases hr
 .cases hr
def Bk:Nat:=1989262591437705541604795875994989242731836106004175106551764689416051591154717805248508
abbrev Bx(h:Be)(n:Nat):MFn:=MK Tryz.prog Bk h false false n
def Al:List (Nat × Nat):=[(263,0),(152,0),(206,0),(242,0),(243,0),(260,0),(273,0),(156,0),(208,0)]
def Amh:MFn:=Bx [] 60
def Ak6:Hnt:=⟨[(61,(.bool,[]))],[],[(3,[.bool,.str,.str])]⟩
def Ami:MFn:=Bx [] 61
def Ak7:Hnt:=⟨[(108,(.bool,[])),(109,(.bool,[]))],[],[(4,[.str]),(8,[.str]),(13,[.str]),(17,[.str]),(23,[.str]),(27,[.str])]⟩
def Alf:Be:=[⟨19,[true,true,false,false,false,false,false,true,true],[],[],[(0,([false,false,false,false,true],([],[]))),(1,([],([],[])))]⟩]
def Wa:MFn:=Bx Alf 107
def So:Hnt:=⟨[(60,(.bool,[]))],[(0,[(0,([.int .i64],[])),(1,([],[]))])],[(14,[.bool,.str,.str]),(15,[.bool,.str,.str])]⟩
def Amg:MFn:=Bx [] 59
def Ak5:Hnt:=⟨[(107,(.int .i64,[]))],[],[]⟩
def Al6:MFn:=Bx [] 23
def AkV:Hnt:=⟨[(59,(.bool,[]))],[],[]⟩
def Amf:MFn:=Bx [] 57
def Ak4:Hnt:=⟨[],[],[(4,[.str]),(8,[.str]),(12,[.str]),(15,[.str]),(18,[.str]),(20,[.str])]⟩
def Amd:MFn:=Bx [] 45
def Ak2:Hnt:=⟨[],[],[(4,[.ls]),(9,[.ls]),(15,[.int .i64]),(20,[.str]),(25,[.str])]⟩
def Ame:MFn:=Bx [] 46
def Ak3:Hnt:=⟨[(23,(.bool,[]))],[],[(4,[.int .i64]),(8,[.ls]),(13,[.ls]),(18,[.int .i64]),(23,[.int .i64]),(28,[.str]),(33,[.str]),(38,[.ls])]⟩
def Ahp:MFn:=Bx [] 110
def Agn:Hnt:=⟨[],[],[]⟩
def Ahq:MFn:=Bx [] 111
def Ago:Hnt:=⟨[],[],[(11,[.int .i64]),(15,[.int .i64]),(21,[.int .i64]),(28,[.int .i64]),(38,[.int .i64])]⟩
def AoL:Be:=[⟨59,[false,true,true,false,false,false,false,false,false,false,false,false,false,false,false,false,false,false,false,false,false,false,false,false,false,false,false,false,false,false,false,false,false,false,false,true,true,true],[],[2],[(0,([false,false,false,false,true],([],[2]))),(1,([],([],[2])))]⟩]
def Aev:MFn:=Bx AoL 62
def AaS:Hnt:=⟨[(45,(.bool,[])),(46,(.bool,[])),(62,(.bool,[])),(110,(.int .i64,[])),(111,(.bool,[]))],[(0,[(0,([.bool],[.del])),(1,([],[.del]))])],[(9,[.int .i64]),(11,[.int .i64,.ls,.ls,.int .i64,.str,.str,.ls]),(14,[.int .i64]),(18,[.int .i64,.ls,.ls,.int .i64,.str,.str,.ls]),(23,[.ls]),(26,[.int .i64]),(35,[.ls]),(40,[.int .i64,.ls,.ls,.int .i64,.str,.str,.ls]),(41,[.int .i64,.ls,.ls,.int .i64,.str,.str,.ls]),(44,[.int .i64]),(46,[.int .i64,.ls,.ls,.int .i64,.str,.str,.ls]),(53,[.int .i64,.ls,.ls,.int .i64,.str,.str,.ls])]⟩
def Al7:MFn:=Bx [] 24
def AkW:Hnt:=⟨[(62,(.bool,[]))],[],[(3,[.int .i64,.ls,.ls,.int .i64,.str,.str,.ls])]⟩
def FN:List (Nat × MFn):=[(60,Amh),(61,Ami),(107,Wa),(59,Amg),(23,Al6),(57,Amf),(45,Amd),(46,Ame),(110,Ahp),(111,Ahq),(62,Aev),(24,Al7)]
theorem e60(A:Ar)(D:Orc)(x0_0:Bool)(x0_1:ByteArray)(x0_2:ByteArray):BI A D Al Ak6 .n 60 Amh [AV.agg [bv x0_0,sv x0_1,sv x0_2]] [] =
 Ae D (Key.fn 61) [AV.agg [bv x0_0,sv x0_1,sv x0_2]] [] λr o=>
 AR r λb=>
 Ac o<|
 br b
 (some ((bv false,[])))
 (some ((bv true,[]))):=by kernel_rfl
theorem e61(A:Ar)(D:Orc)(x0_0:Bool)(x0_1:ByteArray)(x0_2:ByteArray):BI A D Al Ak7 (.b (.b .n (.b (.b (.b (.b .n (.b (.b .n (.b (.b (.b (.b (.t (.b (.b .n (.b .n (.b .n (.b (.b (.b (.b (.b (.b (.b (.b (.f .n) .n) .n) .n) .n) .n) .n) .n) .n)))) .n)) .n) .n) .n) .n)) .n)) .n) .n) .n)) (.b (.b .n (.b .n (.b .n (.b (.b (.b (.b (.b (.f .n) .n) .n) .n) .n) .n)))) .n)) 61 Ami [AV.agg [bv x0_0,sv x0_1,sv x0_2]] [] =
 br (A.seq x0_1 (AI []))
 (br (A.seq x0_2 (AI []))
 (some ((bv false,[])))
 (br (A.seq x0_1 (AI [])) (br (A.seq x0_2 (AI [])) none (Ae D (Key.fn 109) [sv x0_2] [] λr o=>
 AR r λb=>
 Ac o<|
 br b
 (some ((bv true,[])))
 (some ((bv false,[]))))) none))
 (br (A.seq x0_1 (AI [])) none (Ae D (Key.fn 108) [sv x0_1] [] λr o=>
 AR r λb=>
 Ac o<|
 br b
 (br (A.seq x0_2 (AI []))
 (some ((bv true,[])))
 (Ae D (Key.fn 109) [sv x0_2] [] λr1 o1=>
 AR r1 λb1=>
 Ac o1<|
 br b1
 (some ((bv true,[])))
 (some ((bv false,[])))))
 (some ((bv false,[]))))):=by kernel_rfl
theorem Am4(A:Ar)(D:Orc)(x0:List (List AV)):BI A D Al So .n 107 Wa [AV.ls x0,AV.fn (Fn.func 60) [] []] [] =
 Ae D (Key.lp 107 0) [AV.ls x0,AV.fn (Fn.func 60) [] [],iv ↑(A1 x0),iv 0] [] λr o=>
 Az r λcs=>
 Ai cs λc l=>
 br (Bi 0 c)
 (At IntKind.i64 l λn l1=>
 Ad l1<|
 Ac o<|
 some ((iv n,[])))
 (br (Bi 1 c)
 (Ad l<|
 Ac o<|
 some ((iv (-1),[])))
 (none)):=by kernel_rfl
theorem ZQ(A:Ar)(D:Orc)(x0:List (List AV))(t7:Int)(t8:Int):Dv A D Al So .n 107 0 (AW Wa 0).fst (AW Wa 0).snd [AV.ls x0,AV.fn (Fn.func 60) [] [],iv t7,iv t8] [] =
 br (A.lt t8 t7)
 (unI t8 λi=>
 Br x0 i λcs=>
 Af cs λb l=>
 Bv l λs l1=>
 Bv l1 λs1 l2=>
 Ad l2<|
 Ae D (Key.fn 60) [AV.agg [bv b,sv s,sv s1]] [] λr o=>
 AR r λb1=>
 Ac o<|
 br b1
 (some ((AV.tup [bv true,iv t8],[])))
 (Ae D (Key.lp 107 0) [AV.ls x0,AV.fn (Fn.func 60) [] [],iv t7,iv (A.add IntKind.i64 t8 1)] [] λr1 o1=>
 AN 0 [] (AH.mk [] 0 none) [] r1 o1))
 (some ((AV.tup [iv 0],[]))):=by kernel_rfl
theorem e59(A:Ar)(D:Orc)(x0:List (List AV)):BI A D Al Ak5 .n 59 Amg [AV.ls x0,AV.fn (Fn.func 60) [] []] [] =
 Ae D (Key.fn 107) [AV.ls x0,AV.fn (Fn.func 60) [] []] [] λr o=>
 AT IntKind.i64 r λn=>
 Ac o<|
 br (A.le 0 n)
 (some ((bv true,[])))
 (some ((bv false,[]))):=by kernel_rfl
theorem e23(A:Ar)(D:Orc)(x0:List (List AV)):BI A D Al AkV .n 23 Al6 [AV.ls x0] [] =
 br (A.lt 0 ↑(A1 x0))
 (br (A.le (↑(A1 x0)) 64)
 (Ae D (Key.fn 59) [AV.ls x0,AV.fn (Fn.func 60) [] []] [] λr o=>
 AR r λb=>
 Ac o<|
 br b
 (some ((bv false,[])))
 (some ((bv true,[]))))
 (some ((bv false,[]))))
 (some ((bv false,[]))):=by kernel_rfl
theorem e57(A:Ar)(D:Orc)(x0_0:Bool)(x0_1:ByteArray)(x0_2:ByteArray):BI A D Al Ak4 .n 57 Amf [AV.agg [bv x0_0,sv x0_1,sv x0_2]] [] =
 br (A.seq x0_1 (AI []))
 (br ((A.slen x0_1+A.slen x0_2).ble 9223372036854775807) (some ((sv (A.cat x0_1 x0_2),[]))) none)
 (br (A.seq x0_2 (AI []))
 (br ((A.slen x0_1+A.slen x0_2).ble 9223372036854775807) (some ((sv (A.cat x0_1 x0_2),[]))) none)
 (br ((A.slen x0_1+A.slen (AI [42])).ble 9223372036854775807) (br ((A.slen (A.cat x0_1 (AI [42]))+A.slen x0_2).ble 9223372036854775807) (some ((sv (A.cat (A.cat x0_1 (AI [42])) x0_2),[]))) none) none)):=by kernel_rfl
theorem e45(A:Ar)(D:Orc)(x0_0:Int)(x0_1:List (List AV))(x0_2:List (List AV))(x0_3:Int)(x0_4:ByteArray)(x0_5:ByteArray)(x0_6:List (List AV)):BI A D Al Ak2 .n 45 Amd [AV.agg [iv x0_0,AV.ls x0_1,AV.ls x0_2,iv x0_3,sv x0_4,sv x0_5,AV.ls x0_6]] [] =
 br (A.eq (↑(A1 x0_1)) 0)
 (br (A.eq (↑(A1 x0_2)) 0)
 (br (A.eq x0_3 0)
 (br (A.seq x0_4 (AI []))
 (br (A.seq x0_5 (AI []))
 (some ((bv true,[])))
 (some ((bv false,[]))))
 (some ((bv false,[]))))
 (some ((bv false,[]))))
 (some ((bv false,[]))))
 (some ((bv false,[]))):=by kernel_rfl
theorem e46(A:Ar)(D:Orc)(x0_0:Int)(x0_1:List (List AV))(x0_2:List (List AV))(x0_3:Int)(x0_4:ByteArray)(x0_5:ByteArray)(x0_6:List (List AV)):BI A D Al Ak3 .n 46 Ame [AV.agg [iv x0_0,AV.ls x0_1,AV.ls x0_2,iv x0_3,sv x0_4,sv x0_5,AV.ls x0_6]] [] =
 br (A.eq x0_0 2)
 (Ae D (Key.fn 23) [AV.ls x0_1] [] λr o=>
 AR r λb=>
 Ac o<|
 br b
 (Ae D (Key.fn 23) [AV.ls x0_2] [] λr1 o1=>
 AR r1 λb1=>
 Ac o1<|
 br b1
 (br (A.le 0 x0_3)
 (br (A.le x0_3 5)
 (br (A.seq x0_4 (AI []))
 (br (A.seq x0_5 (AI []))
 (br (A.eq (↑(A1 x0_6)) 0)
 (some ((bv true,[])))
 (some ((bv false,[]))))
 (some ((bv false,[]))))
 (some ((bv false,[]))))
 (some ((bv false,[]))))
 (some ((bv false,[]))))
 (some ((bv false,[]))))
 (some ((bv false,[]))))
 (some ((bv false,[]))):=by kernel_rfl
theorem Am5(A:Ar)(D:Orc)(x0:Int):BI A D Al Agn .n 110 Ahp [iv x0] [] =
 br (A.eq x0 0)
 (some ((iv 0,[])))
 (br (A.eq x0 1)
 (some ((iv 0,[])))
 (br (A.eq x0 3)
 (some ((iv 1,[])))
 (br (A.eq x0 4)
 (some ((iv 2,[])))
 (br (A.eq x0 5)
 (some ((iv 2,[])))
 (some ((iv (-1),[]))))))):=by kernel_rfl
theorem Am6(A:Ar)(D:Orc)(x0:Int)(x1:Int)(x2_0:Int)(x2_1:List (List AV))(x2_2:List (List AV))(x2_3:Int)(x2_4:ByteArray)(x2_5:ByteArray)(x2_6:List (List AV)):BI A D Al Ago .n 111 Ahq [iv x0,iv x1,AV.agg [iv x2_0,AV.ls x2_1,AV.ls x2_2,iv x2_3,sv x2_4,sv x2_5,AV.ls x2_6]] [] =
 br (A.eq x0 3)
 (br (A.eq x2_0 4)
 (some ((bv true,[])))
 (br (A.eq x2_0 5)
 (some ((bv true,[])))
 (some ((bv false,[])))))
 (br (A.eq x0 4)
 (br (A.eq x2_0 5)
 (some ((bv true,[])))
 (br (A.eq x1 1)
 (br (A.eq x2_0 4)
 (some ((bv true,[])))
 (some ((bv false,[]))))
 (some ((bv false,[])))))
 (br (A.eq x0 5)
 (br (A.eq x1 1)
 (br (A.eq x2_0 5)
 (some ((bv true,[])))
 (some ((bv false,[]))))
 (some ((bv false,[]))))
 (some ((bv false,[]))))):=by kernel_rfl
theorem e62(A:Ar)(D:Orc)(x0_0:Int)(x0_1:List (List AV))(x0_2:List (List AV))(x0_3:Int)(x0_4:ByteArray)(x0_5:ByteArray)(x0_6:List (List AV))(x1:Int):BI A D Al AaS .n 62 Aev [AV.agg [iv x0_0,AV.ls x0_1,AV.ls x0_2,iv x0_3,sv x0_4,sv x0_5,AV.ls x0_6],iv x1] [] =
 br (A.eq x0_0 2)
 (Ae D (Key.fn 46) [AV.agg [iv x0_0,AV.ls x0_1,AV.ls x0_2,iv x0_3,sv x0_4,sv x0_5,AV.ls x0_6]] [] λr o=>
 AR r λb=>
 Ac o<|
 br b
 (some ((bv true,[])))
 (some ((bv false,[]))))
 (br (A.eq x0_0 3)
 (Ae D (Key.fn 45) [AV.agg [iv x0_0,AV.ls x0_1,AV.ls x0_2,iv x0_3,sv x0_4,sv x0_5,AV.ls x0_6]] [] λr o=>
 AR r λb=>
 Ac o<|
 br b
 (Ae D (Key.fn 110) [iv x0_0] [] λr1 o1=>
 AT IntKind.i64 r1 λn=>
 Ac o1<|
 br (A.eq (↑(A1 x0_6)) n)
 (br (A.lt 60 (A.add IntKind.i64 x1 1))
 (some ((bv false,[])))
 (Ae D (Key.lp 62 0) [iv (A.add IntKind.i64 x1 1),AV.ptr 0 0,AV.ls x0_6,iv ↑(A1 x0_6),iv 0] [ABlk.mk [iv x0_0,AV.ls x0_1,AV.ls x0_2,iv x0_3,sv x0_4,sv x0_5,AV.ls x0_6] true false] λr2 o2=>
 Az r2 λcs=>
 Ai cs λc l=>
 br (Bi 0 c)
 (Af l λb1 l1=>
 Ad l1<|
 Am o2 λc1 l2=>
 Bn c1<|
 Ac l2<|
 some ((bv b1,[])))
 (br (Bi 1 c)
 (Ad l<|
 Am o2 λc1 l1=>
 Bn c1<|
 Ac l1<|
 some ((bv true,[])))
 (none))))
 (some ((bv false,[]))))
 (some ((bv false,[]))))
 (Ae D (Key.fn 45) [AV.agg [iv x0_0,AV.ls x0_1,AV.ls x0_2,iv x0_3,sv x0_4,sv x0_5,AV.ls x0_6]] [] λr o=>
 AR r λb=>
 Ac o<|
 br b
 (Ae D (Key.fn 110) [iv x0_0] [] λr1 o1=>
 AT IntKind.i64 r1 λn=>
 Ac o1<|
 br (A.eq (↑(A1 x0_6)) n)
 (br (A.lt 60 x1)
 (some ((bv false,[])))
 (Ae D (Key.lp 62 0) [iv x1,AV.ptr 0 0,AV.ls x0_6,iv ↑(A1 x0_6),iv 0] [ABlk.mk [iv x0_0,AV.ls x0_1,AV.ls x0_2,iv x0_3,sv x0_4,sv x0_5,AV.ls x0_6] true false] λr2 o2=>
 Az r2 λcs=>
 Ai cs λc l=>
 br (Bi 0 c)
 (Af l λb1 l1=>
 Ad l1<|
 Am o2 λc1 l2=>
 Bn c1<|
 Ac l2<|
 some ((bv b1,[])))
 (br (Bi 1 c)
 (Ad l<|
 Am o2 λc1 l1=>
 Bn c1<|
 Ac l1<|
 some ((bv true,[])))
 (none))))
 (some ((bv false,[]))))
 (some ((bv false,[]))))):=by kernel_rfl
theorem Af9(A:Ar)(D:Orc)(t1:Int)(b2_0:Int)(b2_1:List (List AV))(b2_2:List (List AV))(b2_3:Int)(b2_4:ByteArray)(b2_5:ByteArray)(b2_6:List (List AV))(t35:List (List AV))(t36:Int)(t37:Int):Dv A D Al AaS .n 62 0 (AW Aev 0).fst (AW Aev 0).snd [iv t1,AV.ptr 0 0,AV.ls t35,iv t36,iv t37] [{ cells:=[iv b2_0,AV.ls b2_1,AV.ls b2_2,iv b2_3,sv b2_4,sv b2_5,AV.ls b2_6],st:=true,ex:=false }] =
 br (A.lt t37 t36)
 (unI t37 λi=>
 Br t35 i λcs=>
 At IntKind.i64 cs λn l=>
 As l λxs l1=>
 As l1 λxs1 l2=>
 At IntKind.i64 l2 λn1 l3=>
 Bv l3 λs l4=>
 Bv l4 λs1 l5=>
 As l5 λxs2 l6=>
 Ad l6<|
 Ae D (Key.fn 111) [iv b2_0,iv t37,AV.agg [iv n,AV.ls xs,AV.ls xs1,iv n1,sv s,sv s1,AV.ls xs2]] [] λr o=>
 AR r λb=>
 Ac o<|
 br b
 (br (A.lt 60 (A.add IntKind.i64 t1 1))
 (some ((AV.tup [bv true,bv false],[BO.del])))
 (Ae D (Key.fn 62) [AV.agg [iv n,AV.ls xs,AV.ls xs1,iv n1,sv s,sv s1,AV.ls xs2],iv (A.add IntKind.i64 t1 1)] [] λr1 o1=>
 AR r1 λb1=>
 Ac o1<|
 br b1
 (Ae D (Key.lp 62 0) [iv t1,AV.ptr 0 0,AV.ls t35,iv t36,iv (A.add IntKind.i64 t37 1)] [ABlk.mk [iv b2_0,AV.ls b2_1,AV.ls b2_2,iv b2_3,sv b2_4,sv b2_5,AV.ls b2_6] true false] λr2 o2=>
 AN 1 [0] (AH.mk [(0,ABlk.mk [iv b2_0,AV.ls b2_1,AV.ls b2_2,iv b2_3,sv b2_4,sv b2_5,AV.ls b2_6] true false),(1,ABlk.mk [iv n,AV.ls xs,AV.ls xs1,iv n1,sv s,sv s1,AV.ls xs2] true false)] 2 none) [0] r2 o2)
 (some ((AV.tup [bv true,bv false],[BO.del])))))
 (br (A.lt 60 t1)
 (some ((AV.tup [bv true,bv false],[BO.del])))
 (Ae D (Key.fn 62) [AV.agg [iv n,AV.ls xs,AV.ls xs1,iv n1,sv s,sv s1,AV.ls xs2],iv t1] [] λr1 o1=>
 AR r1 λb1=>
 Ac o1<|
 br b1
 (Ae D (Key.lp 62 0) [iv t1,AV.ptr 0 0,AV.ls t35,iv t36,iv (A.add IntKind.i64 t37 1)] [ABlk.mk [iv b2_0,AV.ls b2_1,AV.ls b2_2,iv b2_3,sv b2_4,sv b2_5,AV.ls b2_6] true false] λr2 o2=>
 AN 1 [0] (AH.mk [(0,ABlk.mk [iv b2_0,AV.ls b2_1,AV.ls b2_2,iv b2_3,sv b2_4,sv b2_5,AV.ls b2_6] true false),(1,ABlk.mk [iv n,AV.ls xs,AV.ls xs1,iv n1,sv s,sv s1,AV.ls xs2] true false)] 2 none) [0] r2 o2)
 (some ((AV.tup [bv true,bv false],[BO.del]))))))
 (some ((AV.tup [iv 0],[BO.del]))):=by kernel_rfl
theorem e24(A:Ar)(D:Orc)(x0_0:Int)(x0_1:List (List AV))(x0_2:List (List AV))(x0_3:Int)(x0_4:ByteArray)(x0_5:ByteArray)(x0_6:List (List AV)):BI A D Al AkW .n 24 Al7 [AV.agg [iv x0_0,AV.ls x0_1,AV.ls x0_2,iv x0_3,sv x0_4,sv x0_5,AV.ls x0_6]] [] =
 Ae D (Key.fn 62) [AV.agg [iv x0_0,AV.ls x0_1,AV.ls x0_2,iv x0_3,sv x0_4,sv x0_5,AV.ls x0_6],iv 0] [] λr o=>
 AR r λb=>
 Ac o<|
 br b
 (some ((bv true,[])))
 (some ((bv false,[]))):=by kernel_rfl
end
end Go.Proofs.YtlmhajfbpplpoaaGreat
