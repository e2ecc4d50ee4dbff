/- Functions of the program as trees: what a call com -/
import Derived.Test.YtlmhajfbpplpoaaGreatOAS
set_option linter.all false
open List renaming drop->ApK,take->ApG
namespace Go.Proofs.YtlmhajfbpplpoaaGreat
noncomputable section
open Go.RowKit
def Amc:MFn:=Bx [] 42
def Ak1:Hnt:=⟨[],[],[]⟩
def Ama:MFn:=Bx [] 30
def AkY:Hnt:=⟨[(32,(.tup [.agg [.int .i64,.ls,.ls,.int .i64,.str,.str,.ls],.agg [.int .i64,.int .i64],.int .i64],[])),(34,(.tup [.agg [.int .i64,.int .i64,.ls],.ls,.bool],[])),(36,(.bool,[])),(38,(.str,[])),(42,(.agg [.ls,.ls,.int .i64,.ls,.bool,.ls,.bool,.ls,.ls,.ls],[]))],[],[(38,[.int .i64]),(43,[.ls]),(44,[.int .i64,.ls,.ls,.int .i64,.str,.str,.ls]),(46,[.int .i64]),(54,[.int .i64,.int .i64]),(63,[.int .i64,.ls,.ls,.int .i64,.str,.str,.ls]),(76,[.int .i64,.ls,.ls,.int .i64,.str,.str,.ls]),(80,[.int .i64,.ls,.ls,.int .i64,.str,.str,.ls]),(88,[.int .i64]),(98,[.bool,.int .i64,.int .i64,.int .i64,.ls,.bool,.ls,.bool,.ls]),(100,[.bool]),(104,[.bool,.int .i64,.int .i64,.int .i64,.ls,.bool,.ls,.bool,.ls]),(106,[.int .i64])]⟩
def AoI:Be:=[⟨27,[false,false,false,false,false,false,false,false,false,false,false,false,false,false,false,false,true,true,true],[],[],[(0,([false,false,true],([],[]))),(1,([],([],[])))]⟩]
def AoW:MFn:=Bx AoI 31
def LK:List (Nat × MFn):=[(42,Amc),(30,Ama),(31,AoW)]
theorem e42(A:Ar)(D:Orc):BI A D Al Ak1 .n 42 Amc [] [] =
 some ((AV.agg [AV.ls [[sv (AI [120])],[sv (AI [121])]],AV.ls [],iv 0,AV.ls [],bv false,AV.ls [],bv false,AV.ls [],AV.ls [[sv (AI [112]),AV.ls [[sv (AI [97])],[sv (AI [98])]],AV.ls []]],AV.ls []],[])):=by kernel_rfl
theorem e30(A:Ar)(D:Orc):BI A D Al AkY .n 30 Ama [] [] =
 Ae D (Key.fn 42) [] [] λr o=>
 Au r λcs=>
 As cs λxs l=>
 As l λxs1 l1=>
 At IntKind.i64 l1 λn l2=>
 As l2 λxs2 l3=>
 Af l3 λb l4=>
 As l4 λxs3 l5=>
 Af l5 λb1 l6=>
 As l6 λxs4 l7=>
 As l7 λxs5 l8=>
 As l8 λxs6 l9=>
 Ad l9<|
 Ac o<|
 Ae D (Key.fn 32) [sv (AI [71,32,40,120,32,62,32,48,32,45,62,32,70,32,64,112,46,98,41]),AV.agg [AV.ls xs,AV.ls xs1,iv n,AV.ls xs2,bv b,AV.ls xs3,bv b1,AV.ls xs4,AV.ls xs5,AV.ls xs6]] [] λr1 o1=>
 Az r1 λcs1=>
 Ai cs1 λc l10=>
 Au c λcs2=>
 At IntKind.i64 cs2 λn1 l11=>
 As l11 λxs7 l12=>
 As l12 λxs8 l13=>
 At IntKind.i64 l13 λn2 l14=>
 Bv l14 λs l15=>
 Bv l15 λs1 l16=>
 As l16 λxs9 l17=>
 Ad l17<|
 Ai l10 λc1 l18=>
 Au c1 λcs3=>
 At IntKind.i64 cs3 λ_ l19=>
 At IntKind.i64 l19 λ_ l20=>
 Ad l20<|
 At IntKind.i64 l18 λn5 l21=>
 Ad l21<|
 Ac o1<|
 Ae D (Key.fn 42) [] [] λr2 o2=>
 Au r2 λcs4=>
 As cs4 λxs10 l22=>
 As l22 λxs11 l23=>
 At IntKind.i64 l23 λn6 l24=>
 As l24 λxs12 l25=>
 Af l25 λb2 l26=>
 As l26 λxs13 l27=>
 Af l27 λb3 l28=>
 As l28 λxs14 l29=>
 As l29 λxs15 l30=>
 As l30 λxs16 l31=>
 Ad l31<|
 Ac o2<|
 Ae D (Key.fn 32) [sv (AI [120,32,61,32,49,32,85]),AV.agg [AV.ls xs10,AV.ls xs11,iv n6,AV.ls xs12,bv b2,AV.ls xs13,bv b3,AV.ls xs14,AV.ls xs15,AV.ls xs16]] [] λr3 o3=>
 Az r3 λcs5=>
 Ai cs5 λc2 l32=>
 Au c2 λcs6=>
 At IntKind.i64 cs6 λ_ l33=>
 As l33 λ_ l34=>
 As l34 λ_ l35=>
 At IntKind.i64 l35 λ_ l36=>
 Bv l36 λ_ l37=>
 Bv l37 λ_ l38=>
 As l38 λ_ l39=>
 Ad l39<|
 Ai l32 λc3 l40=>
 Au c3 λcs7=>
 At IntKind.i64 cs7 λn9 l41=>
 At IntKind.i64 l41 λn10 l42=>
 Ad l42<|
 At IntKind.i64 l40 λn11 l43=>
 Ad l43<|
 Ac o3<|
 Ae D (Key.fn 42) [] [] λr4 o4=>
 Au r4 λcs8=>
 As cs8 λxs20 l44=>
 As l44 λxs21 l45=>
 At IntKind.i64 l45 λn12 l46=>
 As l46 λxs22 l47=>
 Af l47 λb4 l48=>
 As l48 λxs23 l49=>
 Af l49 λb5 l50=>
 As l50 λxs24 l51=>
 As l51 λxs25 l52=>
 As l52 λxs26 l53=>
 Ad l53<|
 Ac o4<|
 Ae D (Key.fn 32) [sv (AI [64,112,46,99]),AV.agg [AV.ls xs20,AV.ls xs21,iv n12,AV.ls xs22,bv b4,AV.ls xs23,bv b5,AV.ls xs24,AV.ls xs25,AV.ls xs26]] [] λr5 o5=>
 Az r5 λcs9=>
 Ai cs9 λc4 l54=>
 Au c4 λcs10=>
 At IntKind.i64 cs10 λ_ l55=>
 As l55 λ_ l56=>
 As l56 λ_ l57=>
 At IntKind.i64 l57 λ_ l58=>
 Bv l58 λ_ l59=>
 Bv l59 λ_ l60=>
 As l60 λ_ l61=>
 Ad l61<|
 Ai l54 λc5 l62=>
 Au c5 λcs11=>
 At IntKind.i64 cs11 λ_ l63=>
 At IntKind.i64 l63 λ_ l64=>
 Ad l64<|
 At IntKind.i64 l62 λn17 l65=>
 Ad l65<|
 Ac o5<|
 br (A.eq n5 0)
 (br (A.eq n1 9)
 (Br xs9 0 λcs12=>
 At IntKind.i64 cs12 λn18 l66=>
 As l66 λ_ l67=>
 As l67 λ_ l68=>
 At IntKind.i64 l68 λ_ l69=>
 Bv l69 λ_ l70=>
 Bv l70 λ_ l71=>
 As l71 λ_ l72=>
 Ad l72<|
 br (A.eq n18 7)
 (br (A.eq n11 101)
 (br (A.not (A.band (A.eq n9 1) (A.band (A.eq n10 8) true)))
 (some ((bv false,[])))
 (br (A.eq n17 110)
 (Ae D (Key.fn 42) [] [] λr6 o6=>
 Au r6 λcs13=>
 As cs13 λxs33 l73=>
 As l73 λxs34 l74=>
 At IntKind.i64 l74 λn20 l75=>
 As l75 λxs35 l76=>
 Af l76 λb6 l77=>
 As l77 λxs36 l78=>
 Af l78 λb7 l79=>
 As l79 λxs37 l80=>
 As l80 λxs38 l81=>
 As l81 λxs39 l82=>
 Ad l82<|
 Ac o6<|
 Ae D (Key.fn 34) [AV.agg [iv n1,AV.ls xs7,AV.ls xs8,iv n2,sv s,sv s1,AV.ls xs9],AV.agg [AV.ls xs33,AV.ls xs34,iv n20,AV.ls xs35,bv b6,AV.ls xs36,bv b7,AV.ls xs37,AV.ls xs38,AV.ls xs39]] [] λr7 o7=>
 Az r7 λcs14=>
 Ai cs14 λc6 l83=>
 Au c6 λcs15=>
 At IntKind.i64 cs15 λn21 l84=>
 At IntKind.i64 l84 λ_ l85=>
 As l85 λ_ l86=>
 Ad l86<|
 As l83 λxs41 l87=>
 Af l87 λb8 l88=>
 Ad l88<|
 Ac o7<|
 Ae D (Key.fn 42) [] [] λr8 o8=>
 Au r8 λcs16=>
 As cs16 λxs42 l89=>
 As l89 λxs43 l90=>
 At IntKind.i64 l90 λn23 l91=>
 As l91 λxs44 l92=>
 Af l92 λb9 l93=>
 As l93 λxs45 l94=>
 Af l94 λb10 l95=>
 As l95 λxs46 l96=>
 As l96 λxs47 l97=>
 As l97 λxs48 l98=>
 Ad l98<|
 Ac o8<|
 Ae D (Key.fn 34) [AV.agg [iv 99,AV.ls [],AV.ls [],iv 0,sv (AI []),sv (AI []),AV.ls []],AV.agg [AV.ls xs42,AV.ls xs43,iv n23,AV.ls xs44,bv b9,AV.ls xs45,bv b10,AV.ls xs46,AV.ls xs47,AV.ls xs48]] [] λr9 o9=>
 Az r9 λcs17=>
 Ai cs17 λc7 l99=>
 Au c7 λcs18=>
 At IntKind.i64 cs18 λ_ l100=>
 At IntKind.i64 l100 λ_ l101=>
 As l101 λ_ l102=>
 Ad l102<|
 As l99 λ_ l103=>
 Af l103 λb11 l104=>
 Ad l104<|
 Ac o9<|
 Ae D (Key.fn 38) [AV.agg [iv n1,AV.ls xs7,AV.ls xs8,iv n2,sv s,sv s1,AV.ls xs9]] [] λr10 o10=>
 TT r10 λs8=>
 Ac o10<|
 br (A.seq s8 (AI [71,32,40,120,32,62,32,48,32,45,62,32,70,32,64,112,46,98,41]))
 (Ae D (Key.fn 36) [AV.agg [iv n1,AV.ls xs7,AV.ls xs8,iv n2,sv s,sv s1,AV.ls xs9]] [] λr11 o11=>
 AR r11 λb12=>
 Ac o11<|
 br b12
 (br b8
 (br (A.eq n21 9)
 (br (A.eq (↑(A1 xs41)) 2)
 (Br xs41 1 λcs19=>
 Af cs19 λb13 l105=>
 At IntKind.i64 l105 λ_ l106=>
 At IntKind.i64 l106 λ_ l107=>
 At IntKind.i64 l107 λ_ l108=>
 As l108 λ_ l109=>
 Af l109 λ_ l110=>
 As l110 λ_ l111=>
 Af l111 λ_ l112=>
 As l112 λ_ l113=>
 Ad l113<|
 br b13
 (Br xs41 1 λcs20=>
 Af cs20 λ_ l114=>
 At IntKind.i64 l114 λ_ l115=>
 At IntKind.i64 l115 λn30 l116=>
 At IntKind.i64 l116 λ_ l117=>
 As l117 λ_ l118=>
 Af l118 λ_ l119=>
 As l119 λ_ l120=>
 Af l120 λ_ l121=>
 As l121 λ_ l122=>
 Ad l122<|
 br (A.eq n30 1)
 (br (A.not b11)
 (some ((bv true,[])))
 (some ((bv false,[]))))
 (some ((bv false,[]))))
 (some ((bv false,[]))))
 (some ((bv false,[]))))
 (some ((bv false,[]))))
 (some ((bv false,[]))))
 (some ((bv false,[]))))
 (some ((bv false,[]))))
 (some ((bv false,[])))))
 (some ((bv false,[]))))
 (some ((bv false,[]))))
 (some ((bv false,[]))))
 (some ((bv false,[]))):=by kernel_rfl
def AoJ:Be:=[⟨133,[false,false,true,true,true,true,false,false,false,false,false,false,false,false,false,false,false,false,false,false,false,false,false,false,false,false,false,false,false,false,false,false,false,false,false,false,false,false,false,false,false,false,false,false,false,false,false,false,false,false,false,false,false,false,false,false,false,false,false,false,false,false,false,false,false,false,false,false,false,false,false,false,false,false,false,false,false,false,false,false,false,false,false,false,false,false,false,false,false,false,false,false,false,false,false,false,false,false,false,false,false,false,false,false,false,false,false,false,false,false,false,false,false,false,true,true],[],[4,5],[(0,([false,false,false,false,false,false,false,false,true],([],[4,5]))),(1,([],([],[4,5])))]⟩]
def Aet:MFn:=Bx AoJ 43
def UU:Hnt:=⟨[(28,(.bool,[])),(29,(.bool,[])),(42,(.agg [.ls,.ls,.int .i64,.ls,.bool,.ls,.bool,.ls,.ls,.ls],[])),(43,(.bool,[]))],[(0,[(0,([.bool],[.del,.del])),(1,([],[.del,.del]))])],[(12,[.int .i64]),(16,[.int .i64]),(20,[.int .i64]),(24,[.int .i64]),(29,[.int .i64]),(36,[.ls]),(42,[.int .i64]),(43,[.bool,.int .i64,.int .i64,.int .i64,.ls,.bool,.ls,.bool,.ls]),(44,[.bool,.int .i64,.int .i64,.int .i64,.ls,.bool,.ls,.bool,.ls]),(46,[.int .i64]),(49,[.bool]),(54,[.int .i64]),(55,[.str,.ls,.ls]),(57,[.str]),(59,[.str]),(66,[.int .i64]),(67,[.str,.ls,.ls]),(69,[.ls]),(71,[.int .i64]),(72,[.str]),(73,[.str]),(75,[.str]),(79,[.bool]),(83,[.int .i64,.ls,.bool,.ls,.bool,.ls]),(86,[.int .i64,.ls,.ls,.int .i64,.str,.str,.ls]),(94,[.int .i64]),(96,[.int .i64]),(100,[.ls]),(103,[.ls]),(109,[.int .i64]),(113,[.ls]),(119,[.ls]),(121,[.int .i64,.ls,.ls,.int .i64,.str,.str,.ls]),(122,[.int .i64,.ls,.ls,.int .i64,.str,.str,.ls]),(124,[.ls]),(126,[.int .i64,.int .i64,.ls]),(127,[.int .i64,.int .i64,.ls])]⟩
def AoC:Be:=[⟨47,[false,true,true,false,false,false,false,false,false,false,false,false,false,false,false,false,false,false,false,false,true,true,true],[],[2],[(0,([false,false,false,false,true],([],[2]))),(1,([false,true,true],([],[])))]⟩]
def Aer:MFn:=Bx AoC 12
def AaK:Hnt:=⟨[(21,(.int .i64,[])),(30,(.bool,[])),(34,(.tup [.agg [.int .i64,.int .i64,.ls],.ls,.bool],[])),(42,(.agg [.ls,.ls,.int .i64,.ls,.bool,.ls,.bool,.ls,.ls,.ls],[])),(43,(.bool,[]))],[(0,[(0,([.bool],[.del])),(1,([.ls,.ptr 0 0],[.box [.int .i64,.ls,.ls,.int .i64,.str,.str,.ls]]))])],[(12,[.int .i64,.ls,.ls,.int .i64,.str,.str,.ls]),(24,[.bool,.ls]),(25,[.bool,.ls]),(27,[.ls]),(32,[.int .i64,.ls,.ls,.int .i64,.str,.str,.ls]),(41,[.int .i64,.ls,.ls,.int .i64,.str,.str,.ls]),(42,[.int .i64,.int .i64,.ls])]⟩
def LL:List (Nat × MFn):=[(43,Aet),(12,Aer)]
theorem e43(A:Ar)(D:Orc)(x0_0:Int)(x0_1:List (List AV))(x0_2:List (List AV))(x0_3:Int)(x0_4:ByteArray)(x0_5:ByteArray)(x0_6:List (List AV))(x1_0:Int)(x1_1:Int)(x1_2:List (List AV))(x2:List (List AV))(x3:List (List AV)):BI A D Al UU (.b (.b .n (.b .n (.b .n (.b (.b (.b (.b (.b .n (.b (.b (.b (.b .n (.b .n (.b .n (.b (.b (.b (.b (.b (.b .n (.b .n (.b .n (.b (.b (.b (.b (.b (.b .n (.b .n (.b .n (.b .n (.t (.b (.b (.t (.t (.t (.t (.t (.t (.t (.t (.t (.b (.t .n) (.t .n))))))))))) (.f (.f (.f (.f (.f (.f (.f (.f (.f (.f .n))))))))))) .n)))))) .n) .n) .n) .n) .n)))) .n) .n) .n) .n) .n)))) .n) .n) .n)) .n) .n) .n) .n)))) (.b (.b (.b (.b (.b .n (.b (.b (.b (.b .n (.b (.b (.b (.b .n (.b .n (.b .n (.b (.b (.b (.b (.b (.b .n (.b .n (.b .n (.b (.b (.b (.b (.b (.b .n (.b .n (.b .n (.b .n (.f .n))))) .n) .n) .n) .n) .n)))) .n) .n) .n) .n) .n)))) .n) .n) .n)) .n) .n) .n)) .n) .n) .n) .n)) 43 Aet [AV.agg [iv x0_0,AV.ls x0_1,AV.ls x0_2,iv x0_3,sv x0_4,sv x0_5,AV.ls x0_6],AV.agg [iv x1_0,iv x1_1,AV.ls x1_2],AV.ls x2,AV.ls x3] [] =
 br (A.eq x0_0 6)
 (br (A.eq x1_0 2)
 (br (A.lt x1_1 0)
 (some ((bv false,[])))
 (br (A.le (↑(A1 x2)) x1_1)
 (some ((bv false,[])))
 (br (A.eq (↑(A1 x1_2)) 0)
 (unI x1_1 λi=>
 Br x2 i λcs=>
 Af cs λb l=>
 At IntKind.i64 l λn l1=>
 At IntKind.i64 l1 λn1 l2=>
 At IntKind.i64 l2 λ_ l3=>
 As l3 λ_ l4=>
 Af l4 λ_ l5=>
 As l5 λ_ l6=>
 Af l6 λ_ l7=>
 As l7 λ_ l8=>
 Ad l8<|
 br (A.eq x0_0 6) (br b
 (Ae D (Key.fn 42) [] [] λr o=>
 Au r λcs1=>
 As cs1 λ_ l9=>
 As l9 λ_ l10=>
 At IntKind.i64 l10 λ_ l11=>
 As l11 λ_ l12=>
 Af l12 λ_ l13=>
 As l13 λ_ l14=>
 Af l14 λ_ l15=>
 As l15 λ_ l16=>
 As l16 λxs8 l17=>
 As l17 λ_ l18=>
 Ad l18<|
 Ac o<|
 br b (br b (br b (br b (unI n λi1=>
 Br xs8 i1 λcs2=>
 Bv cs2 λs l19=>
 As l19 λ_ l20=>
 As l20 λ_ l21=>
 Ad l21<|
 br b (br b (br b (br b (br b (br (A.seq s x0_4)
 (br b (Ae D (Key.fn 42) [] [] λr1 o1=>
 Au r1 λcs3=>
 As cs3 λ_ l22=>
 As l22 λ_ l23=>
 At IntKind.i64 l23 λ_ l24=>
 As l24 λ_ l25=>
 Af l25 λ_ l26=>
 As l26 λ_ l27=>
 Af l27 λ_ l28=>
 As l28 λ_ l29=>
 As l29 λxs17 l30=>
 As l30 λ_ l31=>
 Ad l31<|
 Ac o1<|
 unI n λi2=>
 Br xs17 i2 λcs4=>
 Bv cs4 λ_ l32=>
 As l32 λxs19 l33=>
 As l33 λ_ l34=>
 Ad l34<|
 unI n1 λi3=>
 Br xs19 i3 λcs5=>
 Bv cs5 λs2 l35=>
 Ad l35<|
 br (A.seq s2 x0_5)
 (some ((bv true,[])))
 (some ((bv false,[])))) none)
 (br b (some ((bv false,[]))) none)) none) none) none) none) none) none) none) none) none)
 (br b none (br b none (br b none (br b none (br b none (br b none (br b none (br b none (br b none (br b none (some ((bv false,[])))))))))))))) none)
 (some ((bv false,[]))))))
 (some ((bv false,[]))))
 (br (A.eq x0_0 2)
 (br (A.eq x1_0 2)
 (br (A.lt x1_1 0)
 (some ((bv false,[])))
 (br (A.le (↑(A1 x2)) x1_1)
 (some ((bv false,[])))
 (br (A.eq (↑(A1 x1_2)) 0)
 (unI x1_1 λi=>
 Br x2 i λcs=>
 Af cs λb l=>
 At IntKind.i64 l λ_ l1=>
 At IntKind.i64 l1 λ_ l2=>
 At IntKind.i64 l2 λn2 l3=>
 As l3 λxs l4=>
 Af l4 λb1 l5=>
 As l5 λxs1 l6=>
 Af l6 λb2 l7=>
 As l7 λxs2 l8=>
 Ad l8<|
 br (A.eq x0_0 6) none (br (A.not b)
 (Ae D (Key.fn 28) [AV.agg [iv n2,AV.ls xs,bv b1,AV.ls xs1,bv b2,AV.ls xs2],AV.ls x3] [] λr o=>
 AR r λb3=>
 Ac o<|
 br b3
 (Ae D (Key.fn 42) [] [] λr1 o1=>
 Au r1 λcs1=>
 As cs1 λxs3 l9=>
 As l9 λ_ l10=>
 At IntKind.i64 l10 λ_ l11=>
 As l11 λ_ l12=>
 Af l12 λ_ l13=>
 As l13 λ_ l14=>
 Af l14 λ_ l15=>
 As l15 λ_ l16=>
 As l16 λ_ l17=>
 As l17 λ_ l18=>
 Ad l18<|
 Ac o1<|
 Ae D (Key.fn 29) [AV.agg [iv x0_0,AV.ls x0_1,AV.ls x0_2,iv x0_3,sv x0_4,sv x0_5,AV.ls x0_6],AV.ls xs3,AV.ls x3] [] λr2 o2=>
 AR r2 λb6=>
 Ac o2<|
 br b6
 (br (A.beq true true)
 (some ((bv true,[])))
 (some ((bv false,[]))))
 (br (A.beq true false)
 (some ((bv true,[])))
 (some ((bv false,[])))))
 (Ae D (Key.fn 42) [] [] λr1 o1=>
 Au r1 λcs1=>
 As cs1 λxs3 l9=>
 As l9 λ_ l10=>
 At IntKind.i64 l10 λ_ l11=>
 As l11 λ_ l12=>
 Af l12 λ_ l13=>
 As l13 λ_ l14=>
 Af l14 λ_ l15=>
 As l15 λ_ l16=>
 As l16 λ_ l17=>
 As l17 λ_ l18=>
 Ad l18<|
 Ac o1<|
 Ae D (Key.fn 29) [AV.agg [iv x0_0,AV.ls x0_1,AV.ls x0_2,iv x0_3,sv x0_4,sv x0_5,AV.ls x0_6],AV.ls xs3,AV.ls x3] [] λr2 o2=>
 AR r2 λb6=>
 Ac o2<|
 br b6
 (br (A.beq false true)
 (some ((bv true,[])))
 (some ((bv false,[]))))
 (br (A.beq false false)
 (some ((bv true,[])))
 (some ((bv false,[]))))))
 (some ((bv false,[])))))
 (some ((bv false,[]))))))
 (some ((bv false,[]))))
 (br (A.eq x1_0 x0_0)
 (br (A.eq ↑(A1 x1_2) ↑(A1 x0_6))
 (br (A.eq x1_1 0)
 (Ae D (Key.lp 43 0) [AV.ls x2,AV.ls x3,AV.ptr 0 0,AV.ptr 1 0,iv ↑(A1 x0_6),iv 0] [ABlk.mk [iv x0_0,AV.ls x0_1,AV.ls x0_2,iv x0_3,sv x0_4,sv x0_5,AV.ls x0_6] true false,ABlk.mk [iv x1_0,iv x1_1,AV.ls x1_2] true false] λr o=>
 Az r λcs=>
 Ai cs λc l=>
 br (Bi 0 c)
 (Af l λb l1=>
 Ad l1<|
 Am o λc1 l2=>
 Bn c1<|
 Am l2 λc2 l3=>
 Bn c2<|
 Ac l3<|
 some ((bv b,[])))
 (br (Bi 1 c)
 (Ad l<|
 Am o λc1 l1=>
 Bn c1<|
 Am l1 λc2 l2=>
 Bn c2<|
 Ac l2<|
 some ((bv true,[])))
 (none)))
 (some ((bv false,[]))))
 (some ((bv false,[]))))
 (some ((bv false,[]))))):=by kernel_rfl
theorem Af7(A:Ar)(D:Orc)(t2:List (List AV))(t3:List (List AV))(b4_0:Int)(b4_1:List (List AV))(b4_2:List (List AV))(b4_3:Int)(b4_4:ByteArray)(b4_5:ByteArray)(b4_6:List (List AV))(b5_0:Int)(b5_1:Int)(b5_2:List (List AV))(t114:Int)(t115:Int):Dv A D Al UU .n 43 0 (AW Aet 0).fst (AW Aet 0).snd [AV.ls t2,AV.ls t3,AV.ptr 0 0,AV.ptr 1 0,iv t114,iv t115] [{ cells:=[iv b4_0,AV.ls b4_1,AV.ls b4_2,iv b4_3,sv b4_4,sv b4_5,AV.ls b4_6],st:=true,ex:=false },{ cells:=[iv b5_0,iv b5_1,AV.ls b5_2],st:=true,ex:=false }] =
 br (A.lt t115 t114)
 (unI t115 λi=>
 Br b4_6 i λcs=>
 At IntKind.i64 cs λn l=>
 As l λxs l1=>
 As l1 λxs1 l2=>
 At IntKind.i64 l2 λn1 l3=>
 Bv l3 λs l4=>
 Bv l4 λs1 l5=>
 As l5 λxs2 l6=>
 Ad l6<|
 unI t115 λi1=>
 Br b5_2 i1 λcs1=>
 At IntKind.i64 cs1 λn2 l7=>
 At IntKind.i64 l7 λn3 l8=>
 As l8 λxs3 l9=>
 Ad l9<|
 Ae D (Key.fn 43) [AV.agg [iv n,AV.ls xs,AV.ls xs1,iv n1,sv s,sv s1,AV.ls xs2],AV.agg [iv n2,iv n3,AV.ls xs3],AV.ls t2,AV.ls t3] [] λr o=>
 AR r λb=>
 Ac o<|
 br b
 (Ae D (Key.lp 43 0) [AV.ls t2,AV.ls t3,AV.ptr 0 0,AV.ptr 1 0,iv t114,iv (A.add IntKind.i64 t115 1)] [ABlk.mk [iv b4_0,AV.ls b4_1,AV.ls b4_2,iv b4_3,sv b4_4,sv b4_5,AV.ls b4_6] true false,ABlk.mk [iv b5_0,iv b5_1,AV.ls b5_2] true false] λr1 o1=>
 AN 2 [0,1] (AH.mk [(1,ABlk.mk [iv b5_0,iv b5_1,AV.ls b5_2] true false),(0,ABlk.mk [iv b4_0,AV.ls b4_1,AV.ls b4_2,iv b4_3,sv b4_4,sv b4_5,AV.ls b4_6] true false)] 2 none) [0,1] r1 o1)
 (some ((AV.tup [bv true,bv false],[BO.del,BO.del]))))
 (some ((AV.tup [iv 0],[BO.del,BO.del]))):=by kernel_rfl
theorem e12(A:Ar)(D:Orc)(x0_0:Int)(x0_1:List (List AV))(x0_2:List (List AV))(x0_3:Int)(x0_4:ByteArray)(x0_5:ByteArray)(x0_6:List (List AV))(x1:List (List AV)):BI A D Al AaK .n 12 Aer [AV.agg [iv x0_0,AV.ls x0_1,AV.ls x0_2,iv x0_3,sv x0_4,sv x0_5,AV.ls x0_6],AV.ls x1] [] =
 Ae D (Key.fn 30) [] [] λr o=>
 AR r λb=>
 Ac o<|
 br b
 (Ae D (Key.fn 21) [AV.agg [iv x0_0,AV.ls x0_1,AV.ls x0_2,iv x0_3,sv x0_4,sv x0_5,AV.ls x0_6],iv 60] [] λr1 o1=>
 AT IntKind.i64 r1 λn=>
 Ac o1<|
 br (A.lt 60 n)
 (some ((bv true,[])))
 (br (A.lt 10 ↑(A1 x1))
 (some ((bv true,[])))
 (Ae D (Key.lp 12 0) [AV.ls x1,AV.ptr 0 0,AV.ls x1,iv ↑(A1 x1),iv 0] [ABlk.mk [iv x0_0,AV.ls x0_1,AV.ls x0_2,iv x0_3,sv x0_4,sv x0_5,AV.ls x0_6] true false] λr2 o2=>
 Az r2 λcs=>
 Ai cs λc l=>
 br (Bi 0 c)
 (Af l λb1 l1=>
 Ad l1<|
 Am o2 λc1 l2=>
 Bn c1<|
 Ac l2<|
 some ((bv b1,[])))
 (br (Bi 1 c)
 (As l λxs l1=>
 Ai l1 λc1 l2=>
 Cp 0 0 c1<|
 Ad l2<|
 Am o2 λc2 l3=>
 AE true false c2 λcs1=>
 At IntKind.i64 cs1 λn1 l4=>
 As l4 λxs1 l5=>
 As l5 λxs2 l6=>
 At IntKind.i64 l6 λn2 l7=>
 Bv l7 λs l8=>
 Bv l8 λs1 l9=>
 As l9 λxs3 l10=>
 Ad l10<|
 Ac l3<|
 Ae D (Key.fn 42) [] [] λr3 o3=>
 Au r3 λcs2=>
 As cs2 λxs4 l11=>
 As l11 λxs5 l12=>
 At IntKind.i64 l12 λn3 l13=>
 As l13 λxs6 l14=>
 Af l14 λb1 l15=>
 As l15 λxs7 l16=>
 Af l16 λb2 l17=>
 As l17 λxs8 l18=>
 As l18 λxs9 l19=>
 As l19 λxs10 l20=>
 Ad l20<|
 Ac o3<|
 Ae D (Key.fn 34) [AV.agg [iv n1,AV.ls xs1,AV.ls xs2,iv n2,sv s,sv s1,AV.ls xs3],AV.agg [AV.ls xs4,AV.ls xs5,iv n3,AV.ls xs6,bv b1,AV.ls xs7,bv b2,AV.ls xs8,AV.ls xs9,AV.ls xs10]] [] λr4 o4=>
 Az r4 λcs3=>
 Ai cs3 λc3 l21=>
 Au c3 λcs4=>
 At IntKind.i64 cs4 λn4 l22=>
 At IntKind.i64 l22 λn5 l23=>
 As l23 λxs11 l24=>
 Ad l24<|
 As l21 λxs12 l25=>
 Af l25 λb3 l26=>
 Ad l26<|
 Ac o4<|
 br (A.not b3)
 (some ((bv true,[])))
 (Ae D (Key.fn 43) [AV.agg [iv n1,AV.ls xs1,AV.ls xs2,iv n2,sv s,sv s1,AV.ls xs3],AV.agg [iv n4,iv n5,AV.ls xs11],AV.ls xs12,AV.ls xs] [] λr5 o5=>
 AR r5 λb4=>
 Ac o5<|
 br b4
 (some ((bv true,[])))
 (some ((bv false,[])))))
 (none)))))
 (some ((bv false,[]))):=by kernel_rfl
theorem Af4(A:Ar)(D:Orc)(t1:List (List AV))(b2_0:Int)(b2_1:List (List AV))(b2_2:List (List AV))(b2_3:Int)(b2_4:ByteArray)(b2_5:ByteArray)(b2_6:List (List AV))(t20:List (List AV))(t21:Int)(t22:Int):Dv A D Al AaK .n 12 0 (AW Aer 0).fst (AW Aer 0).snd [AV.ls t1,AV.ptr 0 0,AV.ls t20,iv t21,iv t22] [{ cells:=[iv b2_0,AV.ls b2_1,AV.ls b2_2,iv b2_3,sv b2_4,sv b2_5,AV.ls b2_6],st:=true,ex:=false }] =
 br (A.lt t22 t21)
 (unI t22 λi=>
 Br t20 i λcs=>
 Af cs λb l=>
 As l λxs l1=>
 Ad l1<|
 br (A.lt 4 ↑(A1 xs))
 (some ((AV.tup [bv true,bv true],[BO.del])))
 (Ae D (Key.lp 12 0) [AV.ls t1,AV.ptr 0 0,AV.ls t20,iv t21,iv (A.add IntKind.i64 t22 1)] [ABlk.mk [iv b2_0,AV.ls b2_1,AV.ls b2_2,iv b2_3,sv b2_4,sv b2_5,AV.ls b2_6] true false] λr o=>
 AN 1 [0] (AH.mk [(0,ABlk.mk [iv b2_0,AV.ls b2_1,AV.ls b2_2,iv b2_3,sv b2_4,sv b2_5,AV.ls b2_6] true false),(1,ABlk.mk [bv b,AV.ls xs] true false)] 2 none) [0] r o))
 (some ((AV.tup [iv 0,AV.ls t1,AV.ptr 0 0],[BO.set (ABlk.mk [iv b2_0,AV.ls b2_1,AV.ls b2_2,iv b2_3,sv b2_4,sv b2_5,AV.ls b2_6] true false)]))):=by kernel_rfl
def Aln:Be:=[⟨37,[true,false,false,true,true],[(3,1)],[],[(1,([false,false,false,true],([],[])))]⟩,⟨37,[false,false,false,true],[(3,1)],[],[(3,([false,false,false,true],([],[])))]⟩]
def PT:MFn:=Bx Aln 177
def L8:Hnt:=⟨[],[(0,[(1,([.sl 1 1],[.del,.row true]))]),(1,[(3,([.sl 1 1],[.del,.row true]))])],[(15,[.int .u32]),(16,[.int .u32]),(27,[.int .u32]),(28,[.int .u32])]⟩
def Ah9:MFn:=Bx [] 226
def Ag3:Hnt:=⟨[],[],[]⟩
def Aia:MFn:=Bx [] 227
def Ag4:Hnt:=⟨[],[],[(15,[.int .u32]),(16,[.int .u32])]⟩
def AlA:Be:=[⟨28,[true,true,false,false,false,true],[],[],[(0,([false,false,false,false,true],([],[]))),(1,([],([],[])))]⟩]
def Wp:MFn:=Bx AlA 229
def SC:Hnt:=⟨[(226,(.int .i64,[])),(227,(.int .u64,[]))],[(0,[(0,([.int .i64],[])),(1,([],[]))])],[]⟩
def Alp:Be:=[⟨36,[true,true,false,false,false,true,true,true],[(5,1)],[],[(1,([false,false,false,false,false,true],([],[])))]⟩]
def Wh:MFn:=Bx Alp 181
def Sv:Hnt:=⟨[(177,(.ls,[])),(226,(.int .i64,[])),(227,(.int .u64,[]))],[(0,[(1,([.sl 1 1],[.del,.row true]))])],[]⟩
def Als:Be:=[⟨43,[true,true,false,false,false,false,true,true,true],[(6,1)],[],[(1,([false,false,false,false,false,false,true],([],[])))]⟩]
def Wj:MFn:=Bx Als 184
def Sw:Hnt:=⟨[(177,(.ls,[])),(226,(.int .i64,[])),(227,(.int .u64,[])),(229,(.int .i64,[]))],[(0,[(1,([.sl 1 1],[.del,.row true]))])],[]⟩
def Alz:Be:=[⟨37,[true,true,false,false,false,true,true,true],[(5,1)],[],[(1,([false,false,false,false,false,true,true],([],[])))]⟩]
def Wo:MFn:=Bx Alz 228
def SB:Hnt:=⟨[(177,(.ls,[])),(227,(.int .u64,[]))],[(0,[(1,([.sl 1 1,.int .u64],[.del,.row true]))])],[]⟩
def Alr:Be:=[⟨42,[true,true,false,false,false,true,true],[],[5],[(1,([false,false,false,false,false,true],([],[])))]⟩,⟨42,[true,true,false,false,false,true,true,true,true],[(7,1)],[],[(3,([true,true,false,false,false,false,true,true],([],[])))]⟩]
def PU:MFn:=Bx Alr 183
def L9:Hnt:=⟨[(177,(.ls,[])),(181,(.ls,[])),(228,(.ls,[]))],[(0,[(1,([.ls],[]))]),(1,[(3,([.ls,.ls,.int .i64,.sl 1 1],[.del,.row true]))])],[(27,[.int .u32]),(28,[.int .u32]),(35,[.int .u32]),(36,[.int .u32])]⟩
def Alq:Be:=[⟨40,[true,false,false,false,true,true],[],[4],[(0,([false,false,true,true],([2],[]))),(1,([true,false,false,false,true],([],[])))]⟩]
def Wi:MFn:=Bx Alq 182
def NP:Hnt:=⟨[(177,(.ls,[])),(181,(.ls,[])),(228,(.ls,[]))],[(0,[(0,([.ls,.int .i64],[])),(1,([.str,.ls],[]))])],[]⟩
def AlH:Be:=[⟨26,[true,true,false,false,false,true],[],[],[(0,([false,false,false,false,true],([],[]))),(1,([],([],[])))]⟩]
def Ws:MFn:=Bx AlH 258
def NR:Hnt:=⟨[],[(0,[(0,([.bool],[])),(1,([],[]))])],[(19,[.int .u32]),(20,[.int .u32]),(23,[.int .u32]),(24,[.int .u32])]⟩
def OI:List (Nat × MFn):=[(177,PT),(226,Ah9),(227,Aia),(229,Wp),(181,Wh),(184,Wj),(228,Wo),(183,PU),(182,Wi),(258,Ws)]
theorem AnF(A:Ar)(D:Orc)(x0:List (List AV)):BI A D Al L8 .n 177 PT [AV.ls x0] [] =
 Ae D (Key.lp 177 0) [AV.ls x0,AV.sl 0 0 0 1,iv 0] [ABlk.mk [] true true] λr o=>
 Az r λcs=>
 Ai cs λc l=>
 br (Bi 1 c)
 (Ai l λc1 l1=>
 B1 1 1 c1 λn=>
 Ad l1<|
 Am o λc2 l2=>
 Bn c2<|
 Am l2 λc3 l3=>
 AE true true c3 λcs1=>
 Ac l3<|
 Ae D (Key.lp 177 1) [AV.sl 0 0 n 1] [ABlk.mk cs1 true true] λr1 o1=>
 Az r1 λcs2=>
 Ai cs2 λc4 l4=>
 br (Bi 3 c4)
 (Ai l4 λc5 l5=>
 B1 1 1 c5 λn1=>
 Ad l5<|
 Am o1 λc6 l6=>
 Bn c6<|
 Am l6 λc7 l7=>
 AE true true c7 λcs3=>
 Ac l7<|
 br ((0+n1*1).ble cs3.length) (some ((AV.ls (BA n1 1 (ApG (n1*1) cs3)),[]))) none)
 (none))
 (none):=by kernel_rfl
theorem ZW(A:Ar)(D:Orc)(t0:List (List AV))(n3:Nat)(c3:List AV)(t4:Int):Dv A D Al L8 .n 177 0 (AW PT 0).fst (AW PT 0).snd [AV.ls t0,AV.sl 0 0 n3 1,iv t4] [{ cells:=c3,st:=true,ex:=true }] =
 br (A.lt t4 ↑(A1 t0))
 (unI t4 λi=>
 Br t0 i λcs=>
 At IntKind.u32 cs λn l=>
 Ad l<|
 br (Bp (n3+1) 4) (br ((0+n3*1).ble c3.length) (Ae D (Key.lp 177 0) [AV.ls t0,AV.sl 0 0 (n3+1) 1,iv (A.add IntKind.i64 t4 1)] [ABlk.mk (ApK 0 (ApG (0+n3*1) c3)++[AV.v (Value.int IntKind.u32 n)]) true true] λr o=>
 AN 1 [2] (AH.mk [(2,ABlk.mk (ApK 0 (ApG (0+n3*1) c3)++[AV.v (Value.int IntKind.u32 n)]) true true),(1,ABlk.mk [AV.v (Value.int IntKind.u32 n)] true true)] 3 none) [0] r o) none) none)
 (some ((AV.tup [iv 0,AV.sl 1 0 n3 1],[BO.del,BO.set (ABlk.mk c3 true true)]))):=by kernel_rfl
theorem ZX(A:Ar)(D:Orc)(n3:Nat)(c3:List AV):Dv A D Al L8 .n 177 1 (AW PT 1).fst (AW PT 1).snd [AV.sl 0 0 n3 1] [{ cells:=c3,st:=true,ex:=true }] =
 br (A.lt 0 ↑n3)
 (unI (A.sub IntKind.i64 (↑n3) 1) λi=>
 br (i.blt n3) (IG c3 (0+i*1) 1 λcs=>
 At IntKind.u32 cs λn l=>
 Ad l<|
 br (A.eq n 0)
 (unI (A.sub IntKind.i64 (↑n3) 1) λi1=>
 br (J3 0 i1 n3) (Ae D (Key.lp 177 1) [AV.sl 0 0 i1 1] [ABlk.mk c3 true true] λr o=>
 AN 1 [0] (AH.mk [(0,ABlk.mk c3 true true)] 1 none) [] r o) none)
 (some ((AV.tup [iv 2,AV.sl 1 0 n3 1],[BO.del,BO.set (ABlk.mk c3 true true)])))) none)
 (some ((AV.tup [iv 2,AV.sl 1 0 n3 1],[BO.del,BO.set (ABlk.mk c3 true true)]))):=by kernel_rfl
theorem An3(A:Ar)(D:Orc)(x0:List (List AV))(x1:List (List AV)):BI A D Al Ag3 .n 226 Ah9 [AV.ls x0,AV.ls x1] [] =
 br (A.lt ↑(A1 x1) ↑(A1 x0))
 (some ((iv ↑(A1 x0),[])))
 (some ((iv ↑(A1 x1),[]))):=by kernel_rfl
theorem An4(A:Ar)(D:Orc)(x0:List (List AV))(x1:Int):BI A D Al Ag4 .n 227 Aia [AV.ls x0,iv x1] [] =
 br (A.lt x1 0)
 (some ((AV.v (Value.int IntKind.u64 0),[])))
 (br (A.le (↑(A1 x0)) x1)
 (some ((AV.v (Value.int IntKind.u64 0),[])))
 (unI x1 λi=>
 Br x0 i λcs=>
 At IntKind.u32 cs λn l=>
 Ad l<|
 some ((AV.v (Value.int IntKind.u64 (A.conv IntKind.u64 n)),[])))):=by kernel_rfl
theorem An6(A:Ar)(D:Orc)(x0:List (List AV))(x1:List (List AV)):BI A D Al SC .n 229 Wp [AV.ls x0,AV.ls x1] [] =
 Ae D (Key.fn 226) [AV.ls x0,AV.ls x1] [] λr o=>
 AT IntKind.i64 r λn=>
 Ac o<|
 Ae D (Key.lp 229 0) [AV.ls x0,AV.ls x1,iv (A.sub IntKind.i64 n 1)] [] λr1 o1=>
 Az r1 λcs=>
 Ai cs λc l=>
 br (Bi 0 c)
 (At IntKind.i64 l λn1 l1=>
 Ad l1<|
 Ac o1<|
 some ((iv n1,[])))
 (br (Bi 1 c)
 (Ad l<|
 Ac o1<|
 some ((iv 0,[])))
 (none)):=by kernel_rfl
theorem Aaa(A:Ar)(D:Orc)(t0:List (List AV))(t1:List (List AV))(t5:Int):Dv A D Al SC .n 229 0 (AW Wp 0).fst (AW Wp 0).snd [AV.ls t0,AV.ls t1,iv t5] [] =
 br (A.le 0 t5)
 (Ae D (Key.fn 227) [AV.ls t0,iv t5] [] λr o=>
 AT IntKind.u64 r λn=>
 Ac o<|
 Ae D (Key.fn 227) [AV.ls t1,iv t5] [] λr1 o1=>
 AT IntKind.u64 r1 λn1=>
 Ac o1<|
 br (A.lt n n1)
 (some ((AV.tup [bv true,iv (-1)],[])))
 (Ae D (Key.fn 227) [AV.ls t0,iv t5] [] λr2 o2=>
 AT IntKind.u64 r2 λn2=>
 Ac o2<|
 Ae D (Key.fn 227) [AV.ls t1,iv t5] [] λr3 o3=>
 AT IntKind.u64 r3 λn3=>
 Ac o3<|
 br (A.lt n3 n2)
 (some ((AV.tup [bv true,iv 1],[])))
 (Ae D (Key.lp 229 0) [AV.ls t0,AV.ls t1,iv (A.sub IntKind.i64 t5 1)] [] λr4 o4=>
 AN 0 [] (AH.mk [] 0 none) [] r4 o4)))
 (some ((AV.tup [iv 0],[]))):=by kernel_rfl
theorem AnJ(A:Ar)(D:Orc)(x0:List (List AV))(x1:List (List AV)):BI A D Al Sv .n 181 Wh [AV.ls x0,AV.ls x1] [] =
 Ae D (Key.lp 181 0) [AV.ls x0,AV.ls x1,AV.sl 0 0 0 1,AV.v (Value.int IntKind.u64 0),iv 0] [ABlk.mk [] true true] λr o=>
 Az r λcs=>
 Ai cs λc l=>
 br (Bi 1 c)
 (Ai l λc1 l1=>
 B1 1 1 c1 λn=>
 Ad l1<|
 Am o λc2 l2=>
 Bn c2<|
 Am l2 λc3 l3=>
 AE true true c3 λcs1=>
 Ac l3<|
 br ((0+n*1).ble cs1.length) (Ae D (Key.fn 177) [AV.ls (BA n 1 (ApG (n*1) cs1))] [] λr1 o1=>
 BX r1 λxs=>
 Ac o1<|
 some ((AV.ls xs,[]))) none)
 (none):=by kernel_rfl
theorem ZZ(A:Ar)(D:Orc)(t0:List (List AV))(t1:List (List AV))(n5:Nat)(c5:List AV)(t6:Int)(t7:Int):Dv A D Al Sv (.b (.b (.b .n (.b .n (.f .n))) .n) .n) 181 0 (AW Wh 0).fst (AW Wh 0).snd [AV.ls t0,AV.ls t1,AV.sl 0 0 n5 1,AV.v (Value.int IntKind.u64 t6),iv t7] [{ cells:=c5,st:=true,ex:=true }] =
 Ae D (Key.fn 226) [AV.ls t0,AV.ls t1] [] λr o=>
 AT IntKind.i64 r λn=>
 Ac o<|
 br (A.le t7 n)
 (Ae D (Key.fn 227) [AV.ls t0,iv t7] [] λr1 o1=>
 AT IntKind.u64 r1 λn1=>
 Ac o1<|
 Ae D (Key.fn 227) [AV.ls t1,iv t7] [] λr2 o2=>
 AT IntKind.u64 r2 λn2=>
 Ac o2<|
 br (A.eq 4294967296 0)
 (none)
 (br (Bp (n5+1) 4) (br ((0+n5*1).ble c5.length) (br (A.eq 4294967296 0) none (Ae D (Key.lp 181 0) [AV.ls t0,AV.ls t1,AV.sl 0 0 (n5+1) 1,AV.v (Value.int IntKind.u64 (A.quo IntKind.u64 (A.add IntKind.u64 (A.add IntKind.u64 n1 n2) t6) 4294967296)),iv (A.add IntKind.i64 t7 1)] [ABlk.mk (ApK 0 (ApG (0+n5*1) c5)++[AV.v (Value.int IntKind.u32 (A.conv IntKind.u32 (A.rem IntKind.u64 (A.add IntKind.u64 (A.add IntKind.u64 n1 n2) t6) 4294967296)))]) true true] λr3 o3=>
 AN 1 [2] (AH.mk [(2,ABlk.mk (ApK 0 (ApG (0+n5*1) c5)++[AV.v (Value.int IntKind.u32 (A.conv IntKind.u32 (A.rem IntKind.u64 (A.add IntKind.u64 (A.add IntKind.u64 n1 n2) t6) 4294967296)))]) true true),(1,ABlk.mk [AV.v (Value.int IntKind.u32 (A.conv IntKind.u32 (A.rem IntKind.u64 (A.add IntKind.u64 (A.add IntKind.u64 n1 n2) t6) 4294967296)))] true true)] 3 none) [0] r3 o3)) none) none))
 (some ((AV.tup [iv 0,AV.sl 1 0 n5 1],[BO.del,BO.set (ABlk.mk c5 true true)]))):=by kernel_rfl
theorem AnM(A:Ar)(D:Orc)(x0:List (List AV))(x1:List (List AV)):BI A D Al Sw .n 184 Wj [AV.ls x0,AV.ls x1] [] =
 Ae D (Key.fn 229) [AV.ls x0,AV.ls x1] [] λr o=>
 AT IntKind.i64 r λn=>
 Ac o<|
 br (A.lt n 0)
 (some ((AV.tup [AV.ls [],bv false],[])))
 (Ae D (Key.lp 184 0) [AV.ls x0,AV.ls x1,AV.sl 0 0 0 1,AV.v (Value.int IntKind.u64 0),iv 0] [ABlk.mk [] true true] λr1 o1=>
 Az r1 λcs=>
 Ai cs λc l=>
 br (Bi 1 c)
 (Ai l λc1 l1=>
 B1 1 1 c1 λn1=>
 Ad l1<|
 Am o1 λc2 l2=>
 Bn c2<|
 Am l2 λc3 l3=>
 AE true true c3 λcs1=>
 Ac l3<|
 br ((0+n1*1).ble cs1.length) (Ae D (Key.fn 177) [AV.ls (BA n1 1 (ApG (n1*1) cs1))] [] λr2 o2=>
 BX r2 λxs=>
 Ac o2<|
 some ((AV.tup [AV.ls xs,bv true],[]))) none)
 (none)):=by kernel_rfl
theorem Z2(A:Ar)(D:Orc)(t0:List (List AV))(t1:List (List AV))(n6:Nat)(c6:List AV)(t7:Int)(t8:Int):Dv A D Al Sw (.b (.b (.b .n (.b .n (.f .n))) .n) .n) 184 0 (AW Wj 0).fst (AW Wj 0).snd [AV.ls t0,AV.ls t1,AV.sl 0 0 n6 1,AV.v (Value.int IntKind.u64 t7),iv t8] [{ cells:=c6,st:=true,ex:=true }] =
 Ae D (Key.fn 226) [AV.ls t0,AV.ls t1] [] λr o=>
 AT IntKind.i64 r λn=>
 Ac o<|
 br (A.lt t8 n)
 (Ae D (Key.fn 227) [AV.ls t0,iv t8] [] λr1 o1=>
 AT IntKind.u64 r1 λn1=>
 Ac o1<|
 Ae D (Key.fn 227) [AV.ls t1,iv t8] [] λr2 o2=>
 AT IntKind.u64 r2 λn2=>
 Ac o2<|
 br (A.eq 4294967296 0)
 (none)
 (br (Bp (n6+1) 4) (br ((0+n6*1).ble c6.length) (br (A.eq 4294967296 0) none (Ae D (Key.lp 184 0) [AV.ls t0,AV.ls t1,AV.sl 0 0 (n6+1) 1,AV.v (Value.int IntKind.u64 (A.sub IntKind.u64 1 (A.quo IntKind.u64 (A.sub IntKind.u64 (A.sub IntKind.u64 (A.add IntKind.u64 n1 4294967296) n2) t7) 4294967296))),iv (A.add IntKind.i64 t8 1)] [ABlk.mk (ApK 0 (ApG (0+n6*1) c6)++[AV.v (Value.int IntKind.u32 (A.conv IntKind.u32 (A.rem IntKind.u64 (A.sub IntKind.u64 (A.sub IntKind.u64 (A.add IntKind.u64 n1 4294967296) n2) t7) 4294967296)))]) true true] λr3 o3=>
 AN 1 [2] (AH.mk [(2,ABlk.mk (ApK 0 (ApG (0+n6*1) c6)++[AV.v (Value.int IntKind.u32 (A.conv IntKind.u32 (A.rem IntKind.u64 (A.sub IntKind.u64 (A.sub IntKind.u64 (A.add IntKind.u64 n1 4294967296) n2) t7) 4294967296)))]) true true),(1,ABlk.mk [AV.v (Value.int IntKind.u32 (A.conv IntKind.u32 (A.rem IntKind.u64 (A.sub IntKind.u64 (A.sub IntKind.u64 (A.add IntKind.u64 n1 4294967296) n2) t7) 4294967296)))] true true)] 3 none) [0] r3 o3)) none) none))
 (some ((AV.tup [iv 0,AV.sl 1 0 n6 1],[BO.del,BO.set (ABlk.mk c6 true true)]))):=by kernel_rfl
theorem An5(A:Ar)(D:Orc)(x0:List (List AV))(x1:Int):BI A D Al SB .n 228 Wo [AV.ls x0,AV.v (Value.int IntKind.u64 x1)] [] =
 Ae D (Key.lp 228 0) [AV.ls x0,AV.v (Value.int IntKind.u64 x1),AV.sl 0 0 0 1,AV.v (Value.int IntKind.u64 0),iv 0] [ABlk.mk [] true true] λr o=>
 Az r λcs=>
 Ai cs λc l=>
 br (Bi 1 c)
 (Ai l λc1 l1=>
 B1 1 1 c1 λn=>
 At IntKind.u64 l1 λn1 l2=>
 Ad l2<|
 Am o λc2 l3=>
 Bn c2<|
 Am l3 λc3 l4=>
 AE true true c3 λcs1=>
 Ac l4<|
 br (Bp (n+1) 4) (br ((0+n*1).ble cs1.length) (br ((0+(n+1)*1).ble (ApK 0 (ApG (0+n*1) cs1)++[AV.v (Value.int IntKind.u32 (A.conv IntKind.u32 n1))]).length) (Ae D (Key.fn 177) [AV.ls (BA (n+1) 1 (ApG ((n+1)*1) (ApK 0 (ApK 0 (ApG (0+n*1) cs1)++[AV.v (Value.int IntKind.u32 (A.conv IntKind.u32 n1))]))))] [] λr1 o1=>
 BX r1 λxs=>
 Ac o1<|
 some ((AV.ls xs,[]))) none) none) none)
 (none):=by kernel_rfl
theorem Z9(A:Ar)(D:Orc)(t0:List (List AV))(t1:Int)(n5:Nat)(c5:List AV)(t6:Int)(t7:Int):Dv A D Al SB (.b (.b (.b .n (.b .n (.f .n))) .n) .n) 228 0 (AW Wo 0).fst (AW Wo 0).snd [AV.ls t0,AV.v (Value.int IntKind.u64 t1),AV.sl 0 0 n5 1,AV.v (Value.int IntKind.u64 t6),iv t7] [{ cells:=c5,st:=true,ex:=true }] =
 br (A.lt t7 ↑(A1 t0))
 (Ae D (Key.fn 227) [AV.ls t0,iv t7] [] λr o=>
 AT IntKind.u64 r λn=>
 Ac o<|
 br (A.eq 4294967296 0)
 (none)
 (br (Bp (n5+1) 4) (br ((0+n5*1).ble c5.length) (br (A.eq 4294967296 0) none (Ae D (Key.lp 228 0) [AV.ls t0,AV.v (Value.int IntKind.u64 t1),AV.sl 0 0 (n5+1) 1,AV.v (Value.int IntKind.u64 (A.quo IntKind.u64 (A.add IntKind.u64 (A.mul IntKind.u64 n t1) t6) 4294967296)),iv (A.add IntKind.i64 t7 1)] [ABlk.mk (ApK 0 (ApG (0+n5*1) c5)++[AV.v (Value.int IntKind.u32 (A.conv IntKind.u32 (A.rem IntKind.u64 (A.add IntKind.u64 (A.mul IntKind.u64 n t1) t6) 4294967296)))]) true true] λr1 o1=>
 AN 1 [2] (AH.mk [(2,ABlk.mk (ApK 0 (ApG (0+n5*1) c5)++[AV.v (Value.int IntKind.u32 (A.conv IntKind.u32 (A.rem IntKind.u64 (A.add IntKind.u64 (A.mul IntKind.u64 n t1) t6) 4294967296)))]) true true),(1,ABlk.mk [AV.v (Value.int IntKind.u32 (A.conv IntKind.u32 (A.rem IntKind.u64 (A.add IntKind.u64 (A.mul IntKind.u64 n t1) t6) 4294967296)))] true true)] 3 none) [0] r1 o1)) none) none))
 (some ((AV.tup [iv 0,AV.sl 1 0 n5 1,AV.v (Value.int IntKind.u64 t6)],[BO.del,BO.set (ABlk.mk c5 true true)]))):=by kernel_rfl
theorem AnL(A:Ar)(D:Orc)(x0:List (List AV))(x1:List (List AV)):BI A D Al L9 .n 183 PU [AV.ls x0,AV.ls x1] [] =
 Ae D (Key.lp 183 0) [AV.ls x0,AV.ls x1,AV.ls [],iv (A.sub IntKind.i64 (↑(A1 x1)) 1)] [] λr o=>
 Az r λcs=>
 Ai cs λc l=>
 br (Bi 1 c)
 (As l λxs l1=>
 Ad l1<|
 Ac o<|
 Ae D (Key.fn 177) [AV.ls xs] [] λr1 o1=>
 BX r1 λxs1=>
 Ac o1<|
 some ((AV.ls xs1,[])))
 (none):=by kernel_rfl
theorem Z0(A:Ar)(D:Orc)(t0:List (List AV))(t1:List (List AV))(t5:List (List AV))(t6:Int):Dv A D Al L9 .n 183 0 (AW PU 0).fst (AW PU 0).snd [AV.ls t0,AV.ls t1,AV.ls t5,iv t6] [] =
 br (A.le 0 t6)
 (Ae D (Key.lp 183 1) [AV.ls t0,AV.ls t1,AV.ls t5,iv t6,AV.sl 0 0 1 1,iv 0] [ABlk.mk [AV.v (Value.int IntKind.u32 0)] true true] λr o=>
 Az r λcs=>
 Ai cs λc l=>
 br (Bi 3 c)
 (As l λxs l1=>
 As l1 λxs1 l2=>
 At IntKind.i64 l2 λn l3=>
 Ai l3 λc1 l4=>
 B1 1 1 c1 λn1=>
 Ad l4<|
 Am o λc2 l5=>
 Bn c2<|
 Am l5 λc3 l6=>
 AE true true c3 λcs1=>
 Ac l6<|
 unI n λi=>
 Br xs1 i λcs2=>
 At IntKind.u32 cs2 λn2 l7=>
 Ad l7<|
 Ae D (Key.fn 228) [AV.ls xs,AV.v (Value.int IntKind.u64 (A.conv IntKind.u64 n2))] [] λr1 o1=>
 BX r1 λxs2=>
 Ac o1<|
 br ((0+n1*1).ble cs1.length) (Ae D (Key.fn 181) [AV.ls (BA n1 1 (ApG (n1*1) cs1)),AV.ls xs2] [] λr2 o2=>
 BX r2 λxs3=>
 Ac o2<|
 Ae D (Key.lp 183 0) [AV.ls xs,AV.ls xs1,AV.ls xs3,iv (A.sub IntKind.i64 n 1)] [] λr3 o3=>
 AN 0 [] (AH.mk [(1,ABlk.mk cs1 false true)] 2 none) [] r3 o3) none)
 (none))
 (some ((AV.tup [iv 0,AV.ls t5],[]))):=by kernel_rfl
theorem Z1(A:Ar)(D:Orc)(t0:List (List AV))(t1:List (List AV))(t5:List (List AV))(t6:Int)(n7:Nat)(c7:List AV)(t8:Int):Dv A D Al L9 .n 183 1 (AW PU 1).fst (AW PU 1).snd [AV.ls t0,AV.ls t1,AV.ls t5,iv t6,AV.sl 0 0 n7 1,iv t8] [{ cells:=c7,st:=true,ex:=true }] =
 br (A.lt t8 ↑(A1 t5))
 (unI t8 λi=>
 Br t5 i λcs=>
 At IntKind.u32 cs λn l=>
 Ad l<|
 br (Bp (n7+1) 4) (br ((0+n7*1).ble c7.length) (Ae D (Key.lp 183 1) [AV.ls t0,AV.ls t1,AV.ls t5,iv t6,AV.sl 0 0 (n7+1) 1,iv (A.add IntKind.i64 t8 1)] [ABlk.mk (ApK 0 (ApG (0+n7*1) c7)++[AV.v (Value.int IntKind.u32 n)]) true true] λr o=>
 AN 1 [2] (AH.mk [(2,ABlk.mk (ApK 0 (ApG (0+n7*1) c7)++[AV.v (Value.int IntKind.u32 n)]) true true),(1,ABlk.mk [AV.v (Value.int IntKind.u32 n)] true true)] 3 none) [0] r o) none) none)
 (some ((AV.tup [iv 2,AV.ls t0,AV.ls t1,iv t6,AV.sl 1 0 n7 1],[BO.del,BO.set (ABlk.mk c7 true true)]))):=by kernel_rfl
theorem AnK(A:Ar)(D:Orc)(x0:ByteArray):BI A D Al NP .n 182 Wi [sv x0] [] =
 br (A.lt 4000 ↑(A.slen x0))
 (some ((AV.tup [AV.ls [],iv 2],[])))
 (Ae D (Key.lp 182 0) [sv x0,AV.ls [],iv 0] [] λr o=>
 Az r λcs=>
 Ai cs λc l=>
 br (Bi 0 c)
 (As l λxs l1=>
 At IntKind.i64 l1 λn l2=>
 Ad l2<|
 Ac o<|
 some ((AV.tup [AV.ls xs,iv n],[])))
 (br (Bi 1 c)
 (Bv l λs l1=>
 As l1 λxs l2=>
 Ad l2<|
 Ac o<|
 br (A.eq (↑(A.slen s)) 0)
 (some ((AV.tup [AV.ls [],iv 20],[])))
 (Ae D (Key.fn 177) [AV.ls xs] [] λr1 o1=>
 BX r1 λxs1=>
 Ac o1<|
 some ((AV.tup [AV.ls xs1,iv 0],[]))))
 (none))):=by kernel_rfl
theorem QZ(A:Ar)(D:Orc)(t0:ByteArray)(t4:List (List AV))(t5:Int):Dv A D Al NP .n 182 0 (AW Wi 0).fst (AW Wi 0).snd [sv t0,AV.ls t4,iv t5] [] =
 br (A.lt t5 ↑(A.slen t0))
 (unI t5 λi=>
 br (i.blt (A.slen t0)) (br (A.lt (A.sat t0 i) 48)
 (some ((AV.tup [bv true,AV.ls [],iv 20],[])))
 (unI t5 λi1=>
 br (i1.blt (A.slen t0)) (br (A.lt 57 (A.sat t0 i1))
 (some ((AV.tup [bv true,AV.ls [],iv 20],[])))
 (Ae D (Key.fn 228) [AV.ls t4,AV.v (Value.int IntKind.u64 10)] [] λr o=>
 BX r λxs=>
 Ac o<|
 unI t5 λi2=>
 br (i2.blt (A.slen t0)) (Ae D (Key.fn 181) [AV.ls xs,AV.ls [[AV.v (Value.int IntKind.u32 (A.conv IntKind.u32 (A.sub IntKind.u8 (A.sat t0 i2) 48)))]]] [] λr1 o1=>
 BX r1 λxs1=>
 Ac o1<|
 Ae D (Key.lp 182 0) [sv t0,AV.ls xs1,iv (A.add IntKind.i64 t5 1)] [] λr2 o2=>
 AN 0 [] (AH.mk [(0,ABlk.mk [AV.v (Value.int IntKind.u32 (A.conv IntKind.u32 (A.sub IntKind.u8 (A.sat t0 i2) 48)))] false true)] 1 none) [] r2 o2) none)) none)) none)
 (some ((AV.tup [iv 0,sv t0,AV.ls t4],[]))):=by kernel_rfl
theorem Aof(A:Ar)(D:Orc)(x0:List (List AV))(x1:List (List AV)):BI A D Al NR .n 258 Ws [AV.ls x0,AV.ls x1] [] =
 br (A.eq ↑(A1 x0) ↑(A1 x1))
 (Ae D (Key.lp 258 0) [AV.ls x0,AV.ls x1,iv 0] [] λr o=>
 Az r λcs=>
 Ai cs λc l=>
 br (Bi 0 c)
 (Af l λb l1=>
 Ad l1<|
 Ac o<|
 some ((bv b,[])))
 (br (Bi 1 c)
 (Ad l<|
 Ac o<|
 some ((bv true,[])))
 (none)))
 (some ((bv false,[]))):=by kernel_rfl
theorem Q2(A:Ar)(D:Orc)(t0:List (List AV))(t1:List (List AV))(t5:Int):Dv A D Al NR .n 258 0 (AW Ws 0).fst (AW Ws 0).snd [AV.ls t0,AV.ls t1,iv t5] [] =
 br (A.lt t5 ↑(A1 t0))
 (unI t5 λi=>
 Br t0 i λcs=>
 At IntKind.u32 cs λn l=>
 Ad l<|
 unI t5 λi1=>
 Br t1 i1 λcs1=>
 At IntKind.u32 cs1 λn1 l1=>
 Ad l1<|
 br (A.eq n n1)
 (Ae D (Key.lp 258 0) [AV.ls t0,AV.ls t1,iv (A.add IntKind.i64 t5 1)] [] λr o=>
 AN 0 [] (AH.mk [] 0 none) [] r o)
 (some ((AV.tup [bv true,bv false],[]))))
 (some ((AV.tup [iv 0],[]))):=by kernel_rfl
def AhV:MFn:=Bx [] 180
def AgR:Hnt:=⟨[(177,(.ls,[]))],[],[]⟩
def AhU:MFn:=Bx [] 179
def AgQ:Hnt:=⟨[(180,(.agg [.bool,.ls],[]))],[],[(4,[.bool]),(6,[.ls])]⟩
def Ahx:MFn:=Bx [] 119
def Agu:Hnt:=⟨[(180,(.agg [.bool,.ls],[])),(181,(.ls,[]))],[],[]⟩
def Ahv:MFn:=Bx [] 116
def Ags:Hnt:=⟨[(177,(.ls,[]))],[],[(4,[.ls]),(9,[.bool])]⟩
def AhA:MFn:=Bx [] 123
def Agx:Hnt:=⟨[(180,(.agg [.bool,.ls],[]))],[],[(4,[.bool]),(7,[.ls])]⟩
def AhB:MFn:=Bx [] 124
def AaL:Hnt:=⟨[(116,(.int .i64,[])),(124,(.agg [.bool,.ls],[])),(180,(.agg [.bool,.ls],[])),(181,(.ls,[])),(184,(.tup [.ls,.bool],[]))],[],[(7,[.bool,.ls]),(11,[.bool,.ls]),(16,[.ls]),(18,[.ls]),(21,[.bool,.ls]),(25,[.bool,.ls]),(30,[.ls]),(32,[.ls]),(35,[.bool,.ls]),(38,[.bool,.ls]),(39,[.bool,.ls]),(43,[.ls]),(45,[.ls]),(54,[.ls]),(56,[.ls])]⟩
def Ahw:MFn:=Bx [] 118
def Agt:Hnt:=⟨[(123,(.agg [.bool,.ls],[])),(124,(.agg [.bool,.ls],[]))],[],[(5,[.bool,.ls]),(6,[.bool,.ls])]⟩
def Ahz:MFn:=Bx [] 122
def Agw:Hnt:=⟨[(116,(.int .i64,[])),(180,(.agg [.bool,.ls],[])),(183,(.ls,[]))],[],[(5,[.bool,.ls]),(7,[.bool,.ls]),(12,[.ls]),(14,[.ls])]⟩
def Aml:MFn:=Bx [] 67
def Ala:Hnt:=⟨[(116,(.int .i64,[])),(118,(.agg [.bool,.ls],[]))],[],[(5,[.bool,.ls]),(6,[.bool,.ls])]⟩
def Ahy:MFn:=Bx [] 120
def Agv:Hnt:=⟨[(180,(.agg [.bool,.ls],[])),(182,(.tup [.ls,.int .i64],[]))],[],[]⟩
def Aic:MFn:=Bx [] 238
def Ag6:Hnt:=⟨[(258,(.bool,[]))],[],[(6,[.bool]),(8,[.bool]),(12,[.ls]),(14,[.ls])]⟩
def TM:List (Nat × MFn):=[(180,AhV),(179,AhU),(119,Ahx),(116,Ahv),(123,AhA),(124,AhB),(118,Ahw),(122,Ahz),(67,Aml),(120,Ahy),(238,Aic)]
theorem AnI(A:Ar)(D:Orc)(x0:Bool)(x1:List (List AV)):BI A D Al AgR .n 180 AhV [bv x0,AV.ls x1] [] =
 Ae D (Key.fn 177) [AV.ls x1] [] λr o=>
 BX r λxs=>
 Ac o<|
 br (A.eq (↑(A1 xs)) 0)
 (some ((AV.agg [bv false,AV.ls []],[])))
 (some ((AV.agg [bv x0,AV.ls xs],[]))):=by kernel_rfl
theorem AnH(A:Ar)(D:Orc)(x0_0:Bool)(x0_1:List (List AV)):BI A D Al AgQ .n 179 AhU [AV.agg [bv x0_0,AV.ls x0_1]] [] =
 Ae D (Key.fn 180) [bv x0_0,AV.ls x0_1] [] λr o=>
 Au r λcs=>
 Af cs λb l=>
 As l λxs l1=>
 Ad l1<|
 Ac o<|
 some ((AV.agg [bv b,AV.ls xs],[])):=by kernel_rfl
theorem And(A:Ar)(D:Orc)(x0:Int):BI A D Al Agu (.b (.b (.b .n (.f .n)) .n) (.b .n (.b .n (.f .n)))) 119 Ahx [iv x0] [] =
 br (A.le 0 x0)
 (br (A.eq 4294967296 0)
 (none)
 (br (A.eq 4294967296 0) none (Ae D (Key.fn 180) [bv false,AV.ls [[AV.v (Value.int IntKind.u32 (A.conv IntKind.u32 (A.rem IntKind.i64 x0 4294967296)))],[AV.v (Value.int IntKind.u32 (A.conv IntKind.u32 (A.quo IntKind.i64 x0 4294967296)))]]] [] λr o=>
 Au r λcs=>
 Af cs λb l=>
 As l λxs l1=>
 Ad l1<|
 Ac o<|
 some ((AV.agg [bv b,AV.ls xs],[])))))
 (br (A.eq 4294967296 0)
 (none)
 (br (A.eq 4294967296 0) none (Ae D (Key.fn 181) [AV.ls [[AV.v (Value.int IntKind.u32 (A.conv IntKind.u32 (A.rem IntKind.i64 (A.sub IntKind.i64 0 (A.add IntKind.i64 x0 1)) 4294967296)))],[AV.v (Value.int IntKind.u32 (A.conv IntKind.u32 (A.quo IntKind.i64 (A.sub IntKind.i64 0 (A.add IntKind.i64 x0 1)) 4294967296)))]],AV.ls [[AV.v (Value.int IntKind.u32 1)]]] [] λr o=>
 BX r λxs=>
 Ac o<|
 Ae D (Key.fn 180) [bv true,AV.ls xs] [] λr1 o1=>
 Au r1 λcs=>
 Af cs λb l=>
 As l λxs1 l1=>
 Ad l1<|
 Ac o1<|
 some ((AV.agg [bv b,AV.ls xs1],[]))))):=by kernel_rfl
theorem Ana(A:Ar)(D:Orc)(x0_0:Bool)(x0_1:List (List AV)):BI A D Al Ags .n 116 Ahv [AV.agg [bv x0_0,AV.ls x0_1]] [] =
 Ae D (Key.fn 177) [AV.ls x0_1] [] λr o=>
 BX r λxs=>
 Ac o<|
 br (A.eq (↑(A1 xs)) 0)
 (some ((iv 0,[])))
 (br x0_0
 (some ((iv (-1),[])))
 (some ((iv 1,[])))):=by kernel_rfl
theorem Anh(A:Ar)(D:Orc)(x0_0:Bool)(x0_1:List (List AV)):BI A D Al Agx .n 123 AhA [AV.agg [bv x0_0,AV.ls x0_1]] [] =
 br (A.not x0_0)
 (Ae D (Key.fn 180) [bv true,AV.ls x0_1] [] λr o=>
 Au r λcs=>
 Af cs λb l=>
 As l λxs l1=>
 Ad l1<|
 Ac o<|
 some ((AV.agg [bv b,AV.ls xs],[])))
 (Ae D (Key.fn 180) [bv false,AV.ls x0_1] [] λr o=>
 Au r λcs=>
 Af cs λb l=>
 As l λxs l1=>
 Ad l1<|
 Ac o<|
 some ((AV.agg [bv b,AV.ls xs],[]))):=by kernel_rfl
theorem AkD(A:Ar)(D:Orc)(x0_0:Bool)(x0_1:List (List AV))(x1_0:Bool)(x1_1:List (List AV)):BI A D Al AaL .n 124 AhB [AV.agg [bv x0_0,AV.ls x0_1],AV.agg [bv x1_0,AV.ls x1_1]] [] =
 Ae D (Key.fn 116) [AV.agg [bv x0_0,AV.ls x0_1]] [] λr o=>
 AT IntKind.i64 r λn=>
 Ac o<|
 br (A.lt n 0)
 (Ae D (Key.fn 116) [AV.agg [bv x1_0,AV.ls x1_1]] [] λr1 o1=>
 AT IntKind.i64 r1 λn1=>
 Ac o1<|
 br (A.lt n1 0)
 (Ae D (Key.fn 181) [AV.ls x0_1,AV.ls x1_1] [] λr2 o2=>
 BX r2 λxs=>
 Ac o2<|
 Ae D (Key.fn 180) [bv true,AV.ls xs] [] λr3 o3=>
 Au r3 λcs=>
 Af cs λb l=>
 As l λxs1 l1=>
 Ad l1<|
 Ac o3<|
 some ((AV.agg [bv b,AV.ls xs1],[])))
 (Ae D (Key.fn 116) [AV.agg [bv x0_0,AV.ls x0_1]] [] λr2 o2=>
 AT IntKind.i64 r2 λn2=>
 Ac o2<|
 br (A.le 0 n2)
 (Ae D (Key.fn 116) [AV.agg [bv x1_0,AV.ls x1_1]] [] λr3 o3=>
 AT IntKind.i64 r3 λn3=>
 Ac o3<|
 br (A.le 0 n3)
 (Ae D (Key.fn 181) [AV.ls x0_1,AV.ls x1_1] [] λr4 o4=>
 BX r4 λxs=>
 Ac o4<|
 Ae D (Key.fn 180) [bv false,AV.ls xs] [] λr5 o5=>
 Au r5 λcs=>
 Af cs λb l=>
 As l λxs1 l1=>
 Ad l1<|
 Ac o5<|
 some ((AV.agg [bv b,AV.ls xs1],[])))
 (Ae D (Key.fn 116) [AV.agg [bv x0_0,AV.ls x0_1]] [] λr4 o4=>
 AT IntKind.i64 r4 λn4=>
 Ac o4<|
 br (A.lt n4 0)
 (Ae D (Key.fn 124) [AV.agg [bv x1_0,AV.ls x1_1],AV.agg [bv x0_0,AV.ls x0_1]] [] λr5 o5=>
 Au r5 λcs=>
 Af cs λb l=>
 As l λxs l1=>
 Ad l1<|
 Ac o5<|
 some ((AV.agg [bv b,AV.ls xs],[])))
 (Ae D (Key.fn 184) [AV.ls x0_1,AV.ls x1_1] [] λr5 o5=>
 Az r5 λcs=>
 As cs λxs l=>
 Af l λb l1=>
 Ad l1<|
 Ac o5<|
 br b
 (Ae D (Key.fn 180) [bv false,AV.ls xs] [] λr6 o6=>
 Au r6 λcs1=>
 Af cs1 λb1 l2=>
 As l2 λxs1 l3=>
 Ad l3<|
 Ac o6<|
 some ((AV.agg [bv b1,AV.ls xs1],[])))
 (Ae D (Key.fn 184) [AV.ls x1_1,AV.ls x0_1] [] λr6 o6=>
 Az r6 λcs1=>
 As cs1 λxs1 l2=>
 Af l2 λ_ l3=>
 Ad l3<|
 Ac o6<|
 Ae D (Key.fn 180) [bv true,AV.ls xs1] [] λr7 o7=>
 Au r7 λcs2=>
 Af cs2 λb2 l4=>
 As l4 λxs2 l5=>
 Ad l5<|
 Ac o7<|
 some ((AV.agg [bv b2,AV.ls xs2],[]))))))
 (Ae D (Key.fn 116) [AV.agg [bv x0_0,AV.ls x0_1]] [] λr3 o3=>
 AT IntKind.i64 r3 λn3=>
 Ac o3<|
 br (A.lt n3 0)
 (Ae D (Key.fn 124) [AV.agg [bv x1_0,AV.ls x1_1],AV.agg [bv x0_0,AV.ls x0_1]] [] λr4 o4=>
 Au r4 λcs=>
 Af cs λb l=>
 As l λxs l1=>
 Ad l1<|
 Ac o4<|
 some ((AV.agg [bv b,AV.ls xs],[])))
 (Ae D (Key.fn 184) [AV.ls x0_1,AV.ls x1_1] [] λr4 o4=>
 Az r4 λcs=>
 As cs λxs l=>
 Af l λb l1=>
 Ad l1<|
 Ac o4<|
 br b
 (Ae D (Key.fn 180) [bv false,AV.ls xs] [] λr5 o5=>
 Au r5 λcs1=>
 Af cs1 λb1 l2=>
 As l2 λxs1 l3=>
 Ad l3<|
 Ac o5<|
 some ((AV.agg [bv b1,AV.ls xs1],[])))
 (Ae D (Key.fn 184) [AV.ls x1_1,AV.ls x0_1] [] λr5 o5=>
 Az r5 λcs1=>
 As cs1 λxs1 l2=>
 Af l2 λ_ l3=>
 Ad l3<|
 Ac o5<|
 Ae D (Key.fn 180) [bv true,AV.ls xs1] [] λr6 o6=>
 Au r6 λcs2=>
 Af cs2 λb2 l4=>
 As l4 λxs2 l5=>
 Ad l5<|
 Ac o6<|
 some ((AV.agg [bv b2,AV.ls xs2],[])))))))
 (Ae D (Key.fn 116) [AV.agg [bv x0_0,AV.ls x0_1]] [] λr1 o1=>
 AT IntKind.i64 r1 λn1=>
 Ac o1<|
 br (A.le 0 n1)
 (Ae D (Key.fn 116) [AV.agg [bv x1_0,AV.ls x1_1]] [] λr2 o2=>
 AT IntKind.i64 r2 λn2=>
 Ac o2<|
 br (A.le 0 n2)
 (Ae D (Key.fn 181) [AV.ls x0_1,AV.ls x1_1] [] λr3 o3=>
 BX r3 λxs=>
 Ac o3<|
 Ae D (Key.fn 180) [bv false,AV.ls xs] [] λr4 o4=>
 Au r4 λcs=>
 Af cs λb l=>
 As l λxs1 l1=>
 Ad l1<|
 Ac o4<|
 some ((AV.agg [bv b,AV.ls xs1],[])))
 (Ae D (Key.fn 116) [AV.agg [bv x0_0,AV.ls x0_1]] [] λr3 o3=>
 AT IntKind.i64 r3 λn3=>
 Ac o3<|
 br (A.lt n3 0)
 (Ae D (Key.fn 124) [AV.agg [bv x1_0,AV.ls x1_1],AV.agg [bv x0_0,AV.ls x0_1]] [] λr4 o4=>
 Au r4 λcs=>
 Af cs λb l=>
 As l λxs l1=>
 Ad l1<|
 Ac o4<|
 some ((AV.agg [bv b,AV.ls xs],[])))
 (Ae D (Key.fn 184) [AV.ls x0_1,AV.ls x1_1] [] λr4 o4=>
 Az r4 λcs=>
 As cs λxs l=>
 Af l λb l1=>
 Ad l1<|
 Ac o4<|
 br b
 (Ae D (Key.fn 180) [bv false,AV.ls xs] [] λr5 o5=>
 Au r5 λcs1=>
 Af cs1 λb1 l2=>
 As l2 λxs1 l3=>
 Ad l3<|
 Ac o5<|
 some ((AV.agg [bv b1,AV.ls xs1],[])))
 (Ae D (Key.fn 184) [AV.ls x1_1,AV.ls x0_1] [] λr5 o5=>
 Az r5 λcs1=>
 As cs1 λxs1 l2=>
 Af l2 λ_ l3=>
 Ad l3<|
 Ac o5<|
 Ae D (Key.fn 180) [bv true,AV.ls xs1] [] λr6 o6=>
 Au r6 λcs2=>
 Af cs2 λb2 l4=>
 As l4 λxs2 l5=>
 Ad l5<|
 Ac o6<|
 some ((AV.agg [bv b2,AV.ls xs2],[]))))))
 (Ae D (Key.fn 116) [AV.agg [bv x0_0,AV.ls x0_1]] [] λr2 o2=>
 AT IntKind.i64 r2 λn2=>
 Ac o2<|
 br (A.lt n2 0)
 (Ae D (Key.fn 124) [AV.agg [bv x1_0,AV.ls x1_1],AV.agg [bv x0_0,AV.ls x0_1]] [] λr3 o3=>
 Au r3 λcs=>
 Af cs λb l=>
 As l λxs l1=>
 Ad l1<|
 Ac o3<|
 some ((AV.agg [bv b,AV.ls xs],[])))
 (Ae D (Key.fn 184) [AV.ls x0_1,AV.ls x1_1] [] λr3 o3=>
 Az r3 λcs=>
 As cs λxs l=>
 Af l λb l1=>
 Ad l1<|
 Ac o3<|
 br b
 (Ae D (Key.fn 180) [bv false,AV.ls xs] [] λr4 o4=>
 Au r4 λcs1=>
 Af cs1 λb1 l2=>
 As l2 λxs1 l3=>
 Ad l3<|
 Ac o4<|
 some ((AV.agg [bv b1,AV.ls xs1],[])))
 (Ae D (Key.fn 184) [AV.ls x1_1,AV.ls x0_1] [] λr4 o4=>
 Az r4 λcs1=>
 As cs1 λxs1 l2=>
 Af l2 λ_ l3=>
 Ad l3<|
 Ac o4<|
 Ae D (Key.fn 180) [bv true,AV.ls xs1] [] λr5 o5=>
 Au r5 λcs2=>
 Af cs2 λb2 l4=>
 As l4 λxs2 l5=>
 Ad l5<|
 Ac o5<|
 some ((AV.agg [bv b2,AV.ls xs2],[])))))):=by kernel_rfl
theorem Anc(A:Ar)(D:Orc)(x0_0:Bool)(x0_1:List (List AV))(x1_0:Bool)(x1_1:List (List AV)):BI A D Al Agt .n 118 Ahw [AV.agg [bv x0_0,AV.ls x0_1],AV.agg [bv x1_0,AV.ls x1_1]] [] =
 Ae D (Key.fn 123) [AV.agg [bv x1_0,AV.ls x1_1]] [] λr o=>
 Au r λcs=>
 Af cs λb l=>
 As l λxs l1=>
 Ad l1<|
 Ac o<|
 Ae D (Key.fn 124) [AV.agg [bv x0_0,AV.ls x0_1],AV.agg [bv b,AV.ls xs]] [] λr1 o1=>
 Au r1 λcs1=>
 Af cs1 λb1 l2=>
 As l2 λxs1 l3=>
 Ad l3<|
 Ac o1<|
 some ((AV.agg [bv b1,AV.ls xs1],[])):=by kernel_rfl
theorem Ang(A:Ar)(D:Orc)(x0_0:Bool)(x0_1:List (List AV))(x1_0:Bool)(x1_1:List (List AV)):BI A D Al Agw .n 122 Ahz [AV.agg [bv x0_0,AV.ls x0_1],AV.agg [bv x1_0,AV.ls x1_1]] [] =
 Ae D (Key.fn 116) [AV.agg [bv x0_0,AV.ls x0_1]] [] λr o=>
 AT IntKind.i64 r λn=>
 Ac o<|
 Ae D (Key.fn 116) [AV.agg [bv x1_0,AV.ls x1_1]] [] λr1 o1=>
 AT IntKind.i64 r1 λn1=>
 Ac o1<|
 br (A.lt (A.mul IntKind.i64 n n1) 0)
 (Ae D (Key.fn 183) [AV.ls x0_1,AV.ls x1_1] [] λr2 o2=>
 BX r2 λxs=>
 Ac o2<|
 Ae D (Key.fn 180) [bv true,AV.ls xs] [] λr3 o3=>
 Au r3 λcs=>
 Af cs λb l=>
 As l λxs1 l1=>
 Ad l1<|
 Ac o3<|
 some ((AV.agg [bv b,AV.ls xs1],[])))
 (Ae D (Key.fn 183) [AV.ls x0_1,AV.ls x1_1] [] λr2 o2=>
 BX r2 λxs=>
 Ac o2<|
 Ae D (Key.fn 180) [bv false,AV.ls xs] [] λr3 o3=>
 Au r3 λcs=>
 Af cs λb l=>
 As l λxs1 l1=>
 Ad l1<|
 Ac o3<|
 some ((AV.agg [bv b,AV.ls xs1],[]))):=by kernel_rfl
theorem e67(A:Ar)(D:Orc)(x0_0:Bool)(x0_1:List (List AV))(x1_0:Bool)(x1_1:List (List AV)):BI A D Al Ala .n 67 Aml [AV.agg [bv x0_0,AV.ls x0_1],AV.agg [bv x1_0,AV.ls x1_1]] [] =
 Ae D (Key.fn 118) [AV.agg [bv x0_0,AV.ls x0_1],AV.agg [bv x1_0,AV.ls x1_1]] [] λr o=>
 Au r λcs=>
 Af cs λb l=>
 As l λxs l1=>
 Ad l1<|
 Ac o<|
 Ae D (Key.fn 116) [AV.agg [bv b,AV.ls xs]] [] λr1 o1=>
 AT IntKind.i64 r1 λn=>
 Ac o1<|
 some ((iv n,[])):=by kernel_rfl
theorem Ane(A:Ar)(D:Orc)(x0:ByteArray):BI A D Al Agv .n 120 Ahy [sv x0] [] =
 br (A.lt 0 ↑(A.slen x0))
 (br (Nat.blt 0 (A.slen x0)) (br (A.eq (A.sat x0 0) 45)
 (br (J3 1 (A.slen x0) (A.slen x0)) (Ae D (Key.fn 182) [sv (A.ssub x0 1 (A.slen x0))] [] λr o=>
 Az r λcs=>
 As cs λxs l=>
 At IntKind.i64 l λn l1=>
 Ad l1<|
 Ac o<|
 br (A.eq n 0)
 (Ae D (Key.fn 180) [bv true,AV.ls xs] [] λr1 o1=>
 Au r1 λcs1=>
 Af cs1 λb l2=>
 As l2 λxs1 l3=>
 Ad l3<|
 Ac o1<|
 some ((AV.tup [AV.agg [bv b,AV.ls xs1],iv 0],[])))
 (some ((AV.tup [AV.agg [bv false,AV.ls []],iv n],[])))) none)
 (Ae D (Key.fn 182) [sv x0] [] λr o=>
 Az r λcs=>
 As cs λxs l=>
 At IntKind.i64 l λn l1=>
 Ad l1<|
 Ac o<|
 br (A.eq n 0)
 (Ae D (Key.fn 180) [bv false,AV.ls xs] [] λr1 o1=>
 Au r1 λcs1=>
 Af cs1 λb l2=>
 As l2 λxs1 l3=>
 Ad l3<|
 Ac o1<|
 some ((AV.tup [AV.agg [bv b,AV.ls xs1],iv 0],[])))
 (some ((AV.tup [AV.agg [bv false,AV.ls []],iv n],[]))))) none)
 (Ae D (Key.fn 182) [sv x0] [] λr o=>
 Az r λcs=>
 As cs λxs l=>
 At IntKind.i64 l λn l1=>
 Ad l1<|
 Ac o<|
 br (A.eq n 0)
 (Ae D (Key.fn 180) [bv false,AV.ls xs] [] λr1 o1=>
 Au r1 λcs1=>
 Af cs1 λb l2=>
 As l2 λxs1 l3=>
 Ad l3<|
 Ac o1<|
 some ((AV.tup [AV.agg [bv b,AV.ls xs1],iv 0],[])))
 (some ((AV.tup [AV.agg [bv false,AV.ls []],iv n],[])))):=by kernel_rfl
theorem An9(A:Ar)(D:Orc)(x0_0:Bool)(x0_1:List (List AV))(x1_0:Bool)(x1_1:List (List AV)):BI A D Al Ag6 .n 238 Aic [AV.agg [bv x0_0,AV.ls x0_1],AV.agg [bv x1_0,AV.ls x1_1]] [] =
 br (A.beq x0_0 x1_0)
 (Ae D (Key.fn 258) [AV.ls x0_1,AV.ls x1_1] [] λr o=>
 AR r λb=>
 Ac o<|
 br b
 (some ((bv true,[])))
 (some ((bv false,[]))))
 (some ((bv false,[]))):=by kernel_rfl
def Alo:Be:=[⟨36,[false,true,true,false,true,true,true],[],[2,4,5],[(1,([false,false,false,false,true,true],([],[2])))]⟩]
def Wg:MFn:=Bx Alo 178
def Su:Hnt:=⟨[(124,(.agg [.bool,.ls],[]))],[(0,[(1,([.ptr 1 0,.ptr 2 0],[.del,.box [.bool,.ls],.box [.bool,.ls]]))])],[(10,[.ls]),(16,[.ls]),(18,[.int .i64,.bool,.ls]),(20,[.int .i64]),(27,[.bool,.ls]),(29,[.ls]),(31,[.int .i64,.bool,.ls]),(33,[.bool,.ls]),(35,[.bool,.ls])]⟩
def Alg:Be:=[⟨27,[false,true,true,false,true,true,true],[],[2,4,5],[(1,([false,false,false,false,true,true],([],[2])))]⟩]
def Wb:MFn:=Bx Alg 117
def Sp:Hnt:=⟨[(122,(.agg [.bool,.ls],[])),(124,(.agg [.bool,.ls],[])),(178,(.agg [.bool,.ls],[])),(179,(.agg [.bool,.ls],[]))],[(0,[(1,([.ptr 1 0,.ptr 2 0],[.del,.box [.bool,.ls],.box [.bool,.ls]]))])],[(8,[.bool,.ls]),(15,[.bool,.ls]),(16,[.ls,.bool,.ls]),(21,[.bool,.ls]),(22,[.bool,.ls]),(25,[.bool,.ls])]⟩
def Amk:MFn:=Bx [] 66
def Ak9:Hnt:=⟨[(116,(.int .i64,[])),(117,(.agg [.bool,.ls],[]))],[],[(7,[.ls,.bool,.ls]),(12,[.bool])]⟩
def AoG:Be:=[⟨26,[true,false,true,false,false,false,false,true],[],[],[(0,([false,false,false,false,false,false,true],([],[]))),(1,([],([],[])))]⟩]
def AoV:MFn:=Bx AoG 26
def AoH:Be:=[⟨65,[false,true,true,false,false,true],[],[2],[(0,([false,false,false,false,true],([],[2]))),(2,([],([],[2])))]⟩,⟨65,[false,true,true,false,false,false,true],[],[2],[(0,([false,false,false,false,true],([],[2]))),(4,([],([],[2])))]⟩]
def Yb:MFn:=Bx AoH 28
def SH:Hnt:=⟨[(28,(.bool,[])),(66,(.bool,[]))],[(0,[(0,([.bool],[.del])),(2,([],[.del]))]),(1,[(0,([.bool],[.del])),(4,([],[.del]))])],[(8,[.int .i64]),(14,[.ls,.bool,.ls,.bool]),(20,[.ls]),(25,[.ls]),(26,[.int .i64,.ls,.bool,.ls,.bool,.ls]),(27,[.int .i64,.ls,.bool,.ls,.bool,.ls]),(36,[.ls]),(42,[.ls]),(44,[.int .i64,.ls,.bool,.ls,.bool,.ls]),(45,[.int .i64,.ls,.bool,.ls,.bool,.ls]),(53,[.ls]),(59,[.ls]),(61,[.int .i64,.ls,.bool,.ls,.bool,.ls]),(62,[.int .i64,.ls,.bool,.ls,.bool,.ls])]⟩
def OH:List (Nat × MFn):=[(178,Wg),(117,Wb),(66,Amk),(26,AoV),(28,Yb)]
theorem AnG(A:Ar)(D:Orc)(x0_0:List (List AV))(x0_1:Bool)(x0_2:List (List AV))(x1:Int):BI A D Al Su .n 178 Wg [AV.agg [AV.ls x0_0,bv x0_1,AV.ls x0_2],iv x1] [] =
 Ae D (Key.lp 178 0) [iv x1,AV.ptr 0 0,AV.ptr 1 0,AV.ptr 2 0,iv 0] [ABlk.mk [AV.ls x0_0,bv x0_1,AV.ls x0_2] true false,ABlk.mk [bv false,AV.ls []] true false,ABlk.mk [bv false,AV.ls []] true false] λr o=>
 Az r λcs=>
 Ai cs λc l=>
 br (Bi 1 c)
 (Ai l λc1 l1=>
 Cp 1 0 c1<|
 Ai l1 λc2 l2=>
 Cp 2 0 c2<|
 Ad l2<|
 Am o λc3 l3=>
 Bn c3<|
 Am l3 λc4 l4=>
 AE true false c4 λcs1=>
 Af cs1 λ_ l5=>
 As l5 λ_ l6=>
 Ad l6<|
 Am l4 λc5 l7=>
 AE true false c5 λcs2=>
 Af cs2 λb1 l8=>
 As l8 λxs1 l9=>
 Ad l9<|
 Ac l7<|
 some ((AV.agg [bv b1,AV.ls xs1],[])))
 (none):=by kernel_rfl
theorem ZY(A:Ar)(D:Orc)(t1:Int)(b2_0:List (List AV))(b2_1:Bool)(b2_2:List (List AV))(b4_0:Bool)(b4_1:List (List AV))(b5_0:Bool)(b5_1:List (List AV))(t6:Int):Dv A D Al Su .n 178 0 (AW Wg 0).fst (AW Wg 0).snd [iv t1,AV.ptr 0 0,AV.ptr 1 0,AV.ptr 2 0,iv t6] [{ cells:=[AV.ls b2_0,bv b2_1,AV.ls b2_2],st:=true,ex:=false },{ cells:=[bv b4_0,AV.ls b4_1],st:=true,ex:=false },{ cells:=[bv b5_0,AV.ls b5_1],st:=true,ex:=false }] =
 br (A.lt t6 ↑(A1 b2_0))
 (unI t6 λi=>
 Br b2_0 i λcs=>
 At IntKind.i64 cs λn l=>
 Af l λ_ l1=>
 As l1 λ_ l2=>
 Ad l2<|
 br (A.eq n t1)
 (br (A.le 0 t1)
 (unI t6 λi1=>
 Br b2_0 i1 λcs1=>
 At IntKind.i64 cs1 λ_ l3=>
 Af l3 λb1 l4=>
 As l4 λxs1 l5=>
 Ad l5<|
 Ae D (Key.fn 124) [AV.agg [bv b5_0,AV.ls b5_1],AV.agg [bv b1,AV.ls xs1]] [] λr o=>
 Au r λcs2=>
 Af cs2 λb2 l6=>
 As l6 λxs2 l7=>
 Ad l7<|
 Ac o<|
 Ae D (Key.lp 178 0) [iv t1,AV.ptr 0 0,AV.ptr 1 0,AV.ptr 2 0,iv (A.add IntKind.i64 t6 1)] [ABlk.mk [AV.ls b2_0,bv b2_1,AV.ls b2_2] true false,ABlk.mk [bv b4_0,AV.ls b4_1] true false,ABlk.mk [bv b2,AV.ls xs2] true false] λr1 o1=>
 AN 3 [0,1,2] (AH.mk [(2,ABlk.mk [bv b2,AV.ls xs2] true false),(1,ABlk.mk [bv b4_0,AV.ls b4_1] true false),(0,ABlk.mk [AV.ls b2_0,bv b2_1,AV.ls b2_2] true false)] 3 none) [0,1,2] r1 o1)
 (Ae D (Key.lp 178 0) [iv t1,AV.ptr 0 0,AV.ptr 1 0,AV.ptr 2 0,iv (A.add IntKind.i64 t6 1)] [ABlk.mk [AV.ls b2_0,bv b2_1,AV.ls b2_2] true false,ABlk.mk [bv b4_0,AV.ls b4_1] true false,ABlk.mk [bv b5_0,AV.ls b5_1] true false] λr o=>
 AN 3 [0,1,2] (AH.mk [(2,ABlk.mk [bv b5_0,AV.ls b5_1] true false),(1,ABlk.mk [bv b4_0,AV.ls b4_1] true false),(0,ABlk.mk [AV.ls b2_0,bv b2_1,AV.ls b2_2] true false)] 3 none) [0,1,2] r o))
 (Ae D (Key.lp 178 0) [iv t1,AV.ptr 0 0,AV.ptr 1 0,AV.ptr 2 0,iv (A.add IntKind.i64 t6 1)] [ABlk.mk [AV.ls b2_0,bv b2_1,AV.ls b2_2] true false,ABlk.mk [bv b4_0,AV.ls b4_1] true false,ABlk.mk [bv b5_0,AV.ls b5_1] true false] λr o=>
 AN 3 [0,1,2] (AH.mk [(2,ABlk.mk [bv b5_0,AV.ls b5_1] true false),(1,ABlk.mk [bv b4_0,AV.ls b4_1] true false),(0,ABlk.mk [AV.ls b2_0,bv b2_1,AV.ls b2_2] true false)] 3 none) [0,1,2] r o))
 (some ((AV.tup [iv 0,AV.ptr 1 0,AV.ptr 2 0],[BO.del,BO.set (ABlk.mk [bv b4_0,AV.ls b4_1] true false),BO.set (ABlk.mk [bv b5_0,AV.ls b5_1] true false)]))):=by kernel_rfl
theorem Anb(A:Ar)(D:Orc)(x0_0:List (List AV))(x0_1:Bool)(x0_2:List (List AV))(x1:List (List AV)):BI A D Al Sp .n 117 Wb [AV.agg [AV.ls x0_0,bv x0_1,AV.ls x0_2],AV.ls x1] [] =
 Ae D (Key.lp 117 0) [AV.ls x1,AV.ptr 0 0,AV.ptr 1 0,AV.ptr 2 0,iv 0] [ABlk.mk [AV.ls x0_0,bv x0_1,AV.ls x0_2] true false,ABlk.mk [bv false,AV.ls []] true false,ABlk.mk [bv x0_1,AV.ls x0_2] true false] λr o=>
 Az r λcs=>
 Ai cs λc l=>
 br (Bi 1 c)
 (Ai l λc1 l1=>
 Cp 1 0 c1<|
 Ai l1 λc2 l2=>
 Cp 2 0 c2<|
 Ad l2<|
 Am o λc3 l3=>
 Bn c3<|
 Am l3 λc4 l4=>
 AE true false c4 λcs1=>
 Af cs1 λ_ l5=>
 As l5 λ_ l6=>
 Ad l6<|
 Am l4 λc5 l7=>
 AE true false c5 λcs2=>
 Af cs2 λb1 l8=>
 As l8 λxs1 l9=>
 Ad l9<|
 Ac l7<|
 Ae D (Key.fn 179) [AV.agg [bv b1,AV.ls xs1]] [] λr1 o1=>
 Au r1 λcs3=>
 Af cs3 λb2 l10=>
 As l10 λxs2 l11=>
 Ad l11<|
 Ac o1<|
 some ((AV.agg [bv b2,AV.ls xs2],[])))
 (none):=by kernel_rfl
theorem ZR(A:Ar)(D:Orc)(t1:List (List AV))(b2_0:List (List AV))(b2_1:Bool)(b2_2:List (List AV))(b4_0:Bool)(b4_1:List (List AV))(b5_0:Bool)(b5_1:List (List AV))(t6:Int):Dv A D Al Sp .n 117 0 (AW Wb 0).fst (AW Wb 0).snd [AV.ls t1,AV.ptr 0 0,AV.ptr 1 0,AV.ptr 2 0,iv t6] [{ cells:=[AV.ls b2_0,bv b2_1,AV.ls b2_2],st:=true,ex:=false },{ cells:=[bv b4_0,AV.ls b4_1],st:=true,ex:=false },{ cells:=[bv b5_0,AV.ls b5_1],st:=true,ex:=false }] =
 br (A.lt t6 ↑(A1 t1))
 (Ae D (Key.fn 178) [AV.agg [AV.ls b2_0,bv b2_1,AV.ls b2_2],iv t6] [] λr o=>
 Au r λcs=>
 Af cs λb l=>
 As l λxs l1=>
 Ad l1<|
 Ac o<|
 unI t6 λi=>
 Br t1 i λcs1=>
 Af cs1 λb1 l2=>
 As l2 λxs1 l3=>
 Ad l3<|
 Ae D (Key.fn 122) [AV.agg [bv b,AV.ls xs],AV.agg [bv b1,AV.ls xs1]] [] λr1 o1=>
 Au r1 λcs2=>
 Af cs2 λb2 l4=>
 As l4 λxs2 l5=>
 Ad l5<|
 Ac o1<|
 Ae D (Key.fn 124) [AV.agg [bv b5_0,AV.ls b5_1],AV.agg [bv b2,AV.ls xs2]] [] λr2 o2=>
 Au r2 λcs3=>
 Af cs3 λb3 l6=>
 As l6 λxs3 l7=>
 Ad l7<|
 Ac o2<|
 Ae D (Key.lp 117 0) [AV.ls t1,AV.ptr 0 0,AV.ptr 1 0,AV.ptr 2 0,iv (A.add IntKind.i64 t6 1)] [ABlk.mk [AV.ls b2_0,bv b2_1,AV.ls b2_2] true false,ABlk.mk [bv b4_0,AV.ls b4_1] true false,ABlk.mk [bv b3,AV.ls xs3] true false] λr3 o3=>
 AN 3 [0,1,2] (AH.mk [(2,ABlk.mk [bv b3,AV.ls xs3] true false),(1,ABlk.mk [bv b4_0,AV.ls b4_1] true false),(0,ABlk.mk [AV.ls b2_0,bv b2_1,AV.ls b2_2] true false)] 3 none) [0,1,2] r3 o3)
 (some ((AV.tup [iv 0,AV.ptr 1 0,AV.ptr 2 0],[BO.del,BO.set (ABlk.mk [bv b4_0,AV.ls b4_1] true false),BO.set (ABlk.mk [bv b5_0,AV.ls b5_1] true false)]))):=by kernel_rfl
theorem e66(A:Ar)(D:Orc)(x0_0:List (List AV))(x0_1:Bool)(x0_2:List (List AV))(x0_3:Bool)(x1:List (List AV)):BI A D Al Ak9 .n 66 Amk [AV.agg [AV.ls x0_0,bv x0_1,AV.ls x0_2,bv x0_3],AV.ls x1] [] =
 Ae D (Key.fn 117) [AV.agg [AV.ls x0_0,bv x0_1,AV.ls x0_2],AV.ls x1] [] λr o=>
 Au r λcs=>
 Af cs λb l=>
 As l λxs l1=>
 Ad l1<|
 Ac o<|
 Ae D (Key.fn 116) [AV.agg [bv b,AV.ls xs]] [] λr1 o1=>
 AT IntKind.i64 r1 λn=>
 Ac o1<|
 br x0_3
 (br (A.eq n 0)
 (some ((bv true,[])))
 (some ((bv false,[]))))
 (br (A.le 0 n)
 (some ((bv true,[])))
 (some ((bv false,[])))):=by kernel_rfl
theorem e28(A:Ar)(D:Orc)(x0_0:Int)(x0_1:List (List AV))(x0_2:Bool)(x0_3:List (List AV))(x0_4:Bool)(x0_5:List (List AV))(x1:List (List AV)):BI A D Al SH .n 28 Yb [AV.agg [iv x0_0,AV.ls x0_1,bv x0_2,AV.ls x0_3,bv x0_4,AV.ls x0_5],AV.ls x1] [] =
 br (A.eq x0_0 0)
 (some ((bv true,[])))
 (br (A.eq x0_0 2)
 (Ae D (Key.fn 66) [AV.agg [AV.ls x0_1,bv x0_2,AV.ls x0_3,bv x0_4],AV.ls x1] [] λr o=>
 AR r λb=>
 Ac o<|
 br b
 (some ((bv true,[])))
 (some ((bv false,[]))))
 (br (A.eq x0_0 3)
 (br (A.lt 0 ↑(A1 x0_5))
 (Br x0_5 0 λcs=>
 At IntKind.i64 cs λn l=>
 As l λxs l1=>
 Af l1 λb l2=>
 As l2 λxs1 l3=>
 Af l3 λb1 l4=>
 As l4 λxs2 l5=>
 Ad l5<|
 Ae D (Key.fn 28) [AV.agg [iv n,AV.ls xs,bv b,AV.ls xs1,bv b1,AV.ls xs2],AV.ls x1] [] λr o=>
 AR r λb2=>
 Ac o<|
 br b2
 (some ((bv false,[])))
 (some ((bv true,[]))))
 (some ((bv false,[]))))
 (br (A.eq x0_0 4)
 (Ae D (Key.lp 28 0) [AV.ls x1,AV.ptr 0 0,iv 0] [ABlk.mk [iv x0_0,AV.ls x0_1,bv x0_2,AV.ls x0_3,bv x0_4,AV.ls x0_5] true false] λr o=>
 Az r λcs=>
 Ai cs λc l=>
 br (Bi 0 c)
 (Af l λb l1=>
 Ad l1<|
 Am o λc1 l2=>
 Bn c1<|
 Ac l2<|
 some ((bv b,[])))
 (br (Bi 2 c)
 (Ad l<|
 Am o λc1 l1=>
 Bn c1<|
 Ac l1<|
 some ((bv true,[])))
 (none)))
 (br (A.eq x0_0 5)
 (Ae D (Key.lp 28 1) [AV.ls x1,AV.ptr 0 0,iv 0] [ABlk.mk [iv x0_0,AV.ls x0_1,bv x0_2,AV.ls x0_3,bv x0_4,AV.ls x0_5] true false] λr o=>
 Az r λcs=>
 Ai cs λc l=>
 br (Bi 0 c)
 (Af l λb l1=>
 Ad l1<|
 Am o λc1 l2=>
 Bn c1<|
 Ac l2<|
 some ((bv b,[])))
 (br (Bi 4 c)
 (Ad l<|
 Am o λc1 l1=>
 Bn c1<|
 Ac l1<|
 some ((bv false,[])))
 (none)))
 (some ((bv false,[]))))))):=by kernel_rfl
theorem Af5(A:Ar)(D:Orc)(t1:List (List AV))(b2_0:Int)(b2_1:List (List AV))(b2_2:Bool)(b2_3:List (List AV))(b2_4:Bool)(b2_5:List (List AV))(t5:Int):Dv A D Al SH .n 28 0 (AW Yb 0).fst (AW Yb 0).snd [AV.ls t1,AV.ptr 0 0,iv t5] [{ cells:=[iv b2_0,AV.ls b2_1,bv b2_2,AV.ls b2_3,bv b2_4,AV.ls b2_5],st:=true,ex:=false }] =
 br (A.lt t5 ↑(A1 b2_5))
 (unI t5 λi=>
 Br b2_5 i λcs=>
 At IntKind.i64 cs λn l=>
 As l λxs l1=>
 Af l1 λb l2=>
 As l2 λxs1 l3=>
 Af l3 λb1 l4=>
 As l4 λxs2 l5=>
 Ad l5<|
 Ae D (Key.fn 28) [AV.agg [iv n,AV.ls xs,bv b,AV.ls xs1,bv b1,AV.ls xs2],AV.ls t1] [] λr o=>
 AR r λb2=>
 Ac o<|
 br b2
 (Ae D (Key.lp 28 0) [AV.ls t1,AV.ptr 0 0,iv (A.add IntKind.i64 t5 1)] [ABlk.mk [iv b2_0,AV.ls b2_1,bv b2_2,AV.ls b2_3,bv b2_4,AV.ls b2_5] true false] λr1 o1=>
 AN 1 [0] (AH.mk [(0,ABlk.mk [iv b2_0,AV.ls b2_1,bv b2_2,AV.ls b2_3,bv b2_4,AV.ls b2_5] true false)] 1 none) [0] r1 o1)
 (some ((AV.tup [bv true,bv false],[BO.del]))))
 (some ((AV.tup [iv 1],[BO.del]))):=by kernel_rfl
theorem Af6(A:Ar)(D:Orc)(t1:List (List AV))(b2_0:Int)(b2_1:List (List AV))(b2_2:Bool)(b2_3:List (List AV))(b2_4:Bool)(b2_5:List (List AV))(t6:Int):Dv A D Al SH .n 28 1 (AW Yb 1).fst (AW Yb 1).snd [AV.ls t1,AV.ptr 0 0,iv t6] [{ cells:=[iv b2_0,AV.ls b2_1,bv b2_2,AV.ls b2_3,bv b2_4,AV.ls b2_5],st:=true,ex:=false }] =
 br (A.lt t6 ↑(A1 b2_5))
 (unI t6 λi=>
 Br b2_5 i λcs=>
 At IntKind.i64 cs λn l=>
 As l λxs l1=>
 Af l1 λb l2=>
 As l2 λxs1 l3=>
 Af l3 λb1 l4=>
 As l4 λxs2 l5=>
 Ad l5<|
 Ae D (Key.fn 28) [AV.agg [iv n,AV.ls xs,bv b,AV.ls xs1,bv b1,AV.ls xs2],AV.ls t1] [] λr o=>
 AR r λb2=>
 Ac o<|
 br b2
 (some ((AV.tup [bv true,bv true],[BO.del])))
 (Ae D (Key.lp 28 1) [AV.ls t1,AV.ptr 0 0,iv (A.add IntKind.i64 t6 1)] [ABlk.mk [iv b2_0,AV.ls b2_1,bv b2_2,AV.ls b2_3,bv b2_4,AV.ls b2_5] true false] λr1 o1=>
 AN 1 [0] (AH.mk [(0,ABlk.mk [iv b2_0,AV.ls b2_1,bv b2_2,AV.ls b2_3,bv b2_4,AV.ls b2_5] true false)] 1 none) [0] r1 o1))
 (some ((AV.tup [iv 3],[BO.del]))):=by kernel_rfl
def AoN:Be:=[⟨73,[true,true,true,false,false,false,true,true,true],[],[6,7],[(1,([false,false,false,false,false,false,true,true],([],[])))]⟩]
def Aex:MFn:=Bx AoN 68
def AaT:Hnt:=⟨[(119,(.agg [.bool,.ls],[])),(120,(.tup [.agg [.bool,.ls],.int .i64],[])),(121,(.int .i64,[])),(122,(.agg [.bool,.ls],[])),(123,(.agg [.bool,.ls],[])),(124,(.agg [.bool,.ls],[]))],[(0,[(1,([.ptr 0 0,.ptr 1 0],[.box [.bool,.ls],.box [.bool,.ls]]))])],[(21,[.bool,.str,.str]),(23,[.str]),(28,[.bool,.str,.str]),(30,[.str]),(36,[.bool,.str,.str]),(38,[.str]),(43,[.bool,.str,.str]),(45,[.str]),(56,[.bool,.ls]),(59,[.bool,.ls]),(60,[.bool,.ls]),(64,[.bool,.str,.str]),(66,[.bool]),(67,[.bool,.ls]),(69,[.bool,.ls]),(70,[.bool,.ls]),(72,[.bool,.ls])]⟩
def Al9:MFn:=Bx [] 29
def XP:Hnt:=⟨[(29,(.bool,[])),(67,(.int .i64,[])),(68,(.agg [.bool,.ls],[]))],[],[(9,[.int .i64]),(15,[.ls]),(20,[.ls]),(26,[.int .i64]),(52,[.ls]),(53,[.int .i64,.ls,.ls,.int .i64,.str,.str,.ls]),(54,[.int .i64,.ls,.ls,.int .i64,.str,.str,.ls]),(62,[.ls]),(63,[.int .i64,.ls,.ls,.int .i64,.str,.str,.ls]),(64,[.int .i64,.ls,.ls,.int .i64,.str,.str,.ls]),(70,[.ls]),(71,[.int .i64,.ls,.ls,.int .i64,.str,.str,.ls]),(72,[.int .i64,.ls,.ls,.int .i64,.str,.str,.ls]),(80,[.ls]),(81,[.int .i64,.ls,.ls,.int .i64,.str,.str,.ls]),(82,[.int .i64,.ls,.ls,.int .i64,.str,.str,.ls]),(88,[.ls]),(89,[.int .i64,.ls,.ls,.int .i64,.str,.str,.ls]),(90,[.int .i64,.ls,.ls,.int .i64,.str,.str,.ls])]⟩
def Qk:List (Nat × MFn):=[(68,Aex),(29,Al9)]
theorem e68(A:Ar)(D:Orc)(x0:List (List AV))(x1:List (List AV))(x2:List (List AV)):BI A D Al AaT .n 68 Aex [AV.ls x0,AV.ls x1,AV.ls x2] [] =
 Ae D (Key.lp 68 0) [AV.ls x0,AV.ls x1,AV.ls x2,AV.ptr 0 0,AV.ptr 1 0,iv 0] [ABlk.mk [bv false,AV.ls []] true false,ABlk.mk [bv false,AV.ls []] true false] λr o=>
 Az r λcs=>
 Ai cs λc l=>
 br (Bi 1 c)
 (Ai l λc1 l1=>
 Cp 0 0 c1<|
 Ai l1 λc2 l2=>
 Cp 1 0 c2<|
 Ad l2<|
 Am o λc3 l3=>
 AE true false c3 λcs1=>
 Af cs1 λ_ l4=>
 As l4 λ_ l5=>
 Ad l5<|
 Am l3 λc4 l6=>
 AE true false c4 λcs2=>
 Af cs2 λb1 l7=>
 As l7 λxs1 l8=>
 Ad l8<|
 Ac l6<|
 some ((AV.agg [bv b1,AV.ls xs1],[])))
 (none):=by kernel_rfl
theorem Agb(A:Ar)(D:Orc)(t0:List (List AV))(t1:List (List AV))(t2:List (List AV))(b6_0:Bool)(b6_1:List (List AV))(b7_0:Bool)(b7_1:List (List AV))(t8:Int):Dv A D Al AaT .n 68 0 (AW Aex 0).fst (AW Aex 0).snd [AV.ls t0,AV.ls t1,AV.ls t2,AV.ptr 0 0,AV.ptr 1 0,iv t8] [{ cells:=[bv b6_0,AV.ls b6_1],st:=true,ex:=false },{ cells:=[bv b7_0,AV.ls b7_1],st:=true,ex:=false }] =
 br (A.lt t8 ↑(A1 t0))
 (Ae D (Key.fn 119) [iv 1] [] λr o=>
 Au r λcs=>
 Af cs λb l=>
 As l λxs l1=>
 Ad l1<|
 Ac o<|
 unI t8 λi=>
 Br t0 i λcs1=>
 Af cs1 λ_ l2=>
 Bv l2 λs l3=>
 Bv l3 λ_ l4=>
 Ad l4<|
 br (A.seq s (AI []))
 (unI t8 λi1=>
 Br t0 i1 λcs2=>
 Af cs2 λ_ l5=>
 Bv l5 λ_ l6=>
 Bv l6 λs3 l7=>
 Ad l7<|
 br (A.seq s3 (AI []))
 (unI t8 λi2=>
 Br t0 i2 λcs3=>
 Af cs3 λb3 l8=>
 Bv l8 λ_ l9=>
 Bv l9 λ_ l10=>
 Ad l10<|
 br b3
 (Ae D (Key.fn 123) [AV.agg [bv b,AV.ls xs]] [] λr1 o1=>
 Au r1 λcs4=>
 Af cs4 λb4 l11=>
 As l11 λxs1 l12=>
 Ad l12<|
 Ac o1<|
 Ae D (Key.fn 124) [AV.agg [bv b7_0,AV.ls b7_1],AV.agg [bv b4,AV.ls xs1]] [] λr2 o2=>
 Au r2 λcs5=>
 Af cs5 λb5 l13=>
 As l13 λxs2 l14=>
 Ad l14<|
 Ac o2<|
 Ae D (Key.lp 68 0) [AV.ls t0,AV.ls t1,AV.ls t2,AV.ptr 0 0,AV.ptr 1 0,iv (A.add IntKind.i64 t8 1)] [ABlk.mk [bv b6_0,AV.ls b6_1] true false,ABlk.mk [bv b5,AV.ls xs2] true false] λr3 o3=>
 AN 2 [0,1] (AH.mk [(1,ABlk.mk [bv b5,AV.ls xs2] true false),(0,ABlk.mk [bv b6_0,AV.ls b6_1] true false),(2,ABlk.mk [bv b4,AV.ls xs1] true false)] 3 none) [0,1] r3 o3)
 (Ae D (Key.fn 124) [AV.agg [bv b7_0,AV.ls b7_1],AV.agg [bv b,AV.ls xs]] [] λr1 o1=>
 Au r1 λcs4=>
 Af cs4 λb4 l11=>
 As l11 λxs1 l12=>
 Ad l12<|
 Ac o1<|
 Ae D (Key.lp 68 0) [AV.ls t0,AV.ls t1,AV.ls t2,AV.ptr 0 0,AV.ptr 1 0,iv (A.add IntKind.i64 t8 1)] [ABlk.mk [bv b6_0,AV.ls b6_1] true false,ABlk.mk [bv b4,AV.ls xs1] true false] λr2 o2=>
 AN 2 [0,1] (AH.mk [(1,ABlk.mk [bv b4,AV.ls xs1] true false),(0,ABlk.mk [bv b6_0,AV.ls b6_1] true false),(2,ABlk.mk [bv b,AV.ls xs] true false)] 3 none) [0,1] r2 o2))
 (unI t8 λi2=>
 Br t0 i2 λcs3=>
 Af cs3 λ_ l8=>
 Bv l8 λ_ l9=>
 Bv l9 λs5 l10=>
 Ad l10<|
 Ae D (Key.fn 121) [AV.ls t1,sv s5] [] λr1 o1=>
 AT IntKind.i64 r1 λn=>
 Ac o1<|
 br (A.lt n 0)
 (unI t8 λi3=>
 Br t0 i3 λcs4=>
 Af cs4 λb4 l11=>
 Bv l11 λ_ l12=>
 Bv l12 λ_ l13=>
 Ad l13<|
 br b4
 (Ae D (Key.fn 123) [AV.agg [bv false,AV.ls []]] [] λr2 o2=>
 Au r2 λcs5=>
 Af cs5 λb5 l14=>
 As l14 λxs1 l15=>
 Ad l15<|
 Ac o2<|
 Ae D (Key.fn 124) [AV.agg [bv b7_0,AV.ls b7_1],AV.agg [bv b5,AV.ls xs1]] [] λr3 o3=>
 Au r3 λcs6=>
 Af cs6 λb6 l16=>
 As l16 λxs2 l17=>
 Ad l17<|
 Ac o3<|
 Ae D (Key.lp 68 0) [AV.ls t0,AV.ls t1,AV.ls t2,AV.ptr 0 0,AV.ptr 1 0,iv (A.add IntKind.i64 t8 1)] [ABlk.mk [bv b6_0,AV.ls b6_1] true false,ABlk.mk [bv b6,AV.ls xs2] true false] λr4 o4=>
 AN 2 [0,1] (AH.mk [(1,ABlk.mk [bv b6,AV.ls xs2] true false),(0,ABlk.mk [bv b6_0,AV.ls b6_1] true false),(2,ABlk.mk [bv b5,AV.ls xs1] true false)] 3 none) [0,1] r4 o4)
 (Ae D (Key.fn 124) [AV.agg [bv b7_0,AV.ls b7_1],AV.agg [bv false,AV.ls []]] [] λr2 o2=>
 Au r2 λcs5=>
 Af cs5 λb5 l14=>
 As l14 λxs1 l15=>
 Ad l15<|
 Ac o2<|
 Ae D (Key.lp 68 0) [AV.ls t0,AV.ls t1,AV.ls t2,AV.ptr 0 0,AV.ptr 1 0,iv (A.add IntKind.i64 t8 1)] [ABlk.mk [bv b6_0,AV.ls b6_1] true false,ABlk.mk [bv b5,AV.ls xs1] true false] λr3 o3=>
 AN 2 [0,1] (AH.mk [(1,ABlk.mk [bv b5,AV.ls xs1] true false),(0,ABlk.mk [bv b6_0,AV.ls b6_1] true false),(2,ABlk.mk [bv false,AV.v (Value.slice none 0 0)] true false)] 3 none) [0,1] r3 o3))
 (br (A.le (↑(A1 t2)) n)
 (unI t8 λi3=>
 Br t0 i3 λcs4=>
 Af cs4 λb4 l11=>
 Bv l11 λ_ l12=>
 Bv l12 λ_ l13=>
 Ad l13<|
 br b4
 (Ae D (Key.fn 123) [AV.agg [bv false,AV.ls []]] [] λr2 o2=>
 Au r2 λcs5=>
 Af cs5 λb5 l14=>
 As l14 λxs1 l15=>
 Ad l15<|
 Ac o2<|
 Ae D (Key.fn 124) [AV.agg [bv b7_0,AV.ls b7_1],AV.agg [bv b5,AV.ls xs1]] [] λr3 o3=>
 Au r3 λcs6=>
 Af cs6 λb6 l16=>
 As l16 λxs2 l17=>
 Ad l17<|
 Ac o3<|
 Ae D (Key.lp 68 0) [AV.ls t0,AV.ls t1,AV.ls t2,AV.ptr 0 0,AV.ptr 1 0,iv (A.add IntKind.i64 t8 1)] [ABlk.mk [bv b6_0,AV.ls b6_1] true false,ABlk.mk [bv b6,AV.ls xs2] true false] λr4 o4=>
 AN 2 [0,1] (AH.mk [(1,ABlk.mk [bv b6,AV.ls xs2] true false),(0,ABlk.mk [bv b6_0,AV.ls b6_1] true false),(2,ABlk.mk [bv b5,AV.ls xs1] true false)] 3 none) [0,1] r4 o4)
 (Ae D (Key.fn 124) [AV.agg [bv b7_0,AV.ls b7_1],AV.agg [bv false,AV.ls []]] [] λr2 o2=>
 Au r2 λcs5=>
 Af cs5 λb5 l14=>
 As l14 λxs1 l15=>
 Ad l15<|
 Ac o2<|
 Ae D (Key.lp 68 0) [AV.ls t0,AV.ls t1,AV.ls t2,AV.ptr 0 0,AV.ptr 1 0,iv (A.add IntKind.i64 t8 1)] [ABlk.mk [bv b6_0,AV.ls b6_1] true false,ABlk.mk [bv b5,AV.ls xs1] true false] λr3 o3=>
 AN 2 [0,1] (AH.mk [(1,ABlk.mk [bv b5,AV.ls xs1] true false),(0,ABlk.mk [bv b6_0,AV.ls b6_1] true false),(2,ABlk.mk [bv false,AV.v (Value.slice none 0 0)] true false)] 3 none) [0,1] r3 o3))
 (unI n λi3=>
 Br t2 i3 λcs4=>
 Af cs4 λb4 l11=>
 As l11 λxs1 l12=>
 Ad l12<|
 Ae D (Key.fn 122) [AV.agg [bv b,AV.ls xs],AV.agg [bv b4,AV.ls xs1]] [] λr2 o2=>
 Au r2 λcs5=>
 Af cs5 λb5 l13=>
 As l13 λxs2 l14=>
 Ad l14<|
 Ac o2<|
 unI t8 λi4=>
 Br t0 i4 λcs6=>
 Af cs6 λb6 l15=>
 Bv l15 λ_ l16=>
 Bv l16 λ_ l17=>
 Ad l17<|
 br b6
 (Ae D (Key.fn 123) [AV.agg [bv b5,AV.ls xs2]] [] λr3 o3=>
 Au r3 λcs7=>
 Af cs7 λb7 l18=>
 As l18 λxs3 l19=>
 Ad l19<|
 Ac o3<|
 Ae D (Key.fn 124) [AV.agg [bv b7_0,AV.ls b7_1],AV.agg [bv b7,AV.ls xs3]] [] λr4 o4=>
 Au r4 λcs8=>
 Af cs8 λb8 l20=>
 As l20 λxs4 l21=>
 Ad l21<|
 Ac o4<|
 Ae D (Key.lp 68 0) [AV.ls t0,AV.ls t1,AV.ls t2,AV.ptr 0 0,AV.ptr 1 0,iv (A.add IntKind.i64 t8 1)] [ABlk.mk [bv b6_0,AV.ls b6_1] true false,ABlk.mk [bv b8,AV.ls xs4] true false] λr5 o5=>
 AN 2 [0,1] (AH.mk [(1,ABlk.mk [bv b8,AV.ls xs4] true false),(0,ABlk.mk [bv b6_0,AV.ls b6_1] true false),(2,ABlk.mk [bv b7,AV.ls xs3] true false)] 3 none) [0,1] r5 o5)
 (Ae D (Key.fn 124) [AV.agg [bv b7_0,AV.ls b7_1],AV.agg [bv b5,AV.ls xs2]] [] λr3 o3=>
 Au r3 λcs7=>
 Af cs7 λb7 l18=>
 As l18 λxs3 l19=>
 Ad l19<|
 Ac o3<|
 Ae D (Key.lp 68 0) [AV.ls t0,AV.ls t1,AV.ls t2,AV.ptr 0 0,AV.ptr 1 0,iv (A.add IntKind.i64 t8 1)] [ABlk.mk [bv b6_0,AV.ls b6_1] true false,ABlk.mk [bv b7,AV.ls xs3] true false] λr4 o4=>
 AN 2 [0,1] (AH.mk [(1,ABlk.mk [bv b7,AV.ls xs3] true false),(0,ABlk.mk [bv b6_0,AV.ls b6_1] true false),(2,ABlk.mk [bv b5,AV.ls xs2] true false)] 3 none) [0,1] r4 o4)))))
 (unI t8 λi1=>
 Br t0 i1 λcs2=>
 Af cs2 λ_ l5=>
 Bv l5 λs2 l6=>
 Bv l6 λ_ l7=>
 Ad l7<|
 Ae D (Key.fn 120) [sv s2] [] λr1 o1=>
 Az r1 λcs3=>
 Ai cs3 λc l8=>
 Au c λcs4=>
 Af cs4 λb3 l9=>
 As l9 λxs1 l10=>
 Ad l10<|
 At IntKind.i64 l8 λ_ l11=>
 Ad l11<|
 Ac o1<|
 unI t8 λi2=>
 Br t0 i2 λcs5=>
 Af cs5 λ_ l12=>
 Bv l12 λ_ l13=>
 Bv l13 λs5 l14=>
 Ad l14<|
 br (A.seq s5 (AI []))
 (unI t8 λi3=>
 Br t0 i3 λcs6=>
 Af cs6 λb5 l15=>
 Bv l15 λ_ l16=>
 Bv l16 λ_ l17=>
 Ad l17<|
 br b5
 (Ae D (Key.fn 123) [AV.agg [bv b3,AV.ls xs1]] [] λr2 o2=>
 Au r2 λcs7=>
 Af cs7 λb6 l18=>
 As l18 λxs2 l19=>
 Ad l19<|
 Ac o2<|
 Ae D (Key.fn 124) [AV.agg [bv b7_0,AV.ls b7_1],AV.agg [bv b6,AV.ls xs2]] [] λr3 o3=>
 Au r3 λcs8=>
 Af cs8 λb7 l20=>
 As l20 λxs3 l21=>
 Ad l21<|
 Ac o3<|
 Ae D (Key.lp 68 0) [AV.ls t0,AV.ls t1,AV.ls t2,AV.ptr 0 0,AV.ptr 1 0,iv (A.add IntKind.i64 t8 1)] [ABlk.mk [bv b6_0,AV.ls b6_1] true false,ABlk.mk [bv b7,AV.ls xs3] true false] λr4 o4=>
 AN 2 [0,1] (AH.mk [(1,ABlk.mk [bv b7,AV.ls xs3] true false),(0,ABlk.mk [bv b6_0,AV.ls b6_1] true false),(2,ABlk.mk [bv b6,AV.ls xs2] true false)] 3 none) [0,1] r4 o4)
 (Ae D (Key.fn 124) [AV.agg [bv b7_0,AV.ls b7_1],AV.agg [bv b3,AV.ls xs1]] [] λr2 o2=>
 Au r2 λcs7=>
 Af cs7 λb6 l18=>
 As l18 λxs2 l19=>
 Ad l19<|
 Ac o2<|
 Ae D (Key.lp 68 0) [AV.ls t0,AV.ls t1,AV.ls t2,AV.ptr 0 0,AV.ptr 1 0,iv (A.add IntKind.i64 t8 1)] [ABlk.mk [bv b6_0,AV.ls b6_1] true false,ABlk.mk [bv b6,AV.ls xs2] true false] λr3 o3=>
 AN 2 [0,1] (AH.mk [(1,ABlk.mk [bv b6,AV.ls xs2] true false),(0,ABlk.mk [bv b6_0,AV.ls b6_1] true false),(2,ABlk.mk [bv b3,AV.ls xs1] true false)] 3 none) [0,1] r3 o3))
 (unI t8 λi3=>
 Br t0 i3 λcs6=>
 Af cs6 λ_ l15=>
 Bv l15 λ_ l16=>
 Bv l16 λs7 l17=>
 Ad l17<|
 Ae D (Key.fn 121) [AV.ls t1,sv s7] [] λr2 o2=>
 AT IntKind.i64 r2 λn1=>
 Ac o2<|
 br (A.lt n1 0)
 (unI t8 λi4=>
 Br t0 i4 λcs7=>
 Af cs7 λb6 l18=>
 Bv l18 λ_ l19=>
 Bv l19 λ_ l20=>
 Ad l20<|
 br b6
 (Ae D (Key.fn 123) [AV.agg [bv false,AV.ls []]] [] λr3 o3=>
 Au r3 λcs8=>
 Af cs8 λb7 l21=>
 As l21 λxs2 l22=>
 Ad l22<|
 Ac o3<|
 Ae D (Key.fn 124) [AV.agg [bv b7_0,AV.ls b7_1],AV.agg [bv b7,AV.ls xs2]] [] λr4 o4=>
 Au r4 λcs9=>
 Af cs9 λb8 l23=>
 As l23 λxs3 l24=>
 Ad l24<|
 Ac o4<|
 Ae D (Key.lp 68 0) [AV.ls t0,AV.ls t1,AV.ls t2,AV.ptr 0 0,AV.ptr 1 0,iv (A.add IntKind.i64 t8 1)] [ABlk.mk [bv b6_0,AV.ls b6_1] true false,ABlk.mk [bv b8,AV.ls xs3] true false] λr5 o5=>
 AN 2 [0,1] (AH.mk [(1,ABlk.mk [bv b8,AV.ls xs3] true false),(0,ABlk.mk [bv b6_0,AV.ls b6_1] true false),(2,ABlk.mk [bv b7,AV.ls xs2] true false)] 3 none) [0,1] r5 o5)
 (Ae D (Key.fn 124) [AV.agg [bv b7_0,AV.ls b7_1],AV.agg [bv false,AV.ls []]] [] λr3 o3=>
 Au r3 λcs8=>
 Af cs8 λb7 l21=>
 As l21 λxs2 l22=>
 Ad l22<|
 Ac o3<|
 Ae D (Key.lp 68 0) [AV.ls t0,AV.ls t1,AV.ls t2,AV.ptr 0 0,AV.ptr 1 0,iv (A.add IntKind.i64 t8 1)] [ABlk.mk [bv b6_0,AV.ls b6_1] true false,ABlk.mk [bv b7,AV.ls xs2] true false] λr4 o4=>
 AN 2 [0,1] (AH.mk [(1,ABlk.mk [bv b7,AV.ls xs2] true false),(0,ABlk.mk [bv b6_0,AV.ls b6_1] true false),(2,ABlk.mk [bv false,AV.v (Value.slice none 0 0)] true false)] 3 none) [0,1] r4 o4))
 (br (A.le (↑(A1 t2)) n1)
 (unI t8 λi4=>
 Br t0 i4 λcs7=>
 Af cs7 λb6 l18=>
 Bv l18 λ_ l19=>
 Bv l19 λ_ l20=>
 Ad l20<|
 br b6
 (Ae D (Key.fn 123) [AV.agg [bv false,AV.ls []]] [] λr3 o3=>
 Au r3 λcs8=>
 Af cs8 λb7 l21=>
 As l21 λxs2 l22=>
 Ad l22<|
 Ac o3<|
 Ae D (Key.fn 124) [AV.agg [bv b7_0,AV.ls b7_1],AV.agg [bv b7,AV.ls xs2]] [] λr4 o4=>
 Au r4 λcs9=>
 Af cs9 λb8 l23=>
 As l23 λxs3 l24=>
 Ad l24<|
 Ac o4<|
 Ae D (Key.lp 68 0) [AV.ls t0,AV.ls t1,AV.ls t2,AV.ptr 0 0,AV.ptr 1 0,iv (A.add IntKind.i64 t8 1)] [ABlk.mk [bv b6_0,AV.ls b6_1] true false,ABlk.mk [bv b8,AV.ls xs3] true false] λr5 o5=>
 AN 2 [0,1] (AH.mk [(1,ABlk.mk [bv b8,AV.ls xs3] true false),(0,ABlk.mk [bv b6_0,AV.ls b6_1] true false),(2,ABlk.mk [bv b7,AV.ls xs2] true false)] 3 none) [0,1] r5 o5)
 (Ae D (Key.fn 124) [AV.agg [bv b7_0,AV.ls b7_1],AV.agg [bv false,AV.ls []]] [] λr3 o3=>
 Au r3 λcs8=>
 Af cs8 λb7 l21=>
 As l21 λxs2 l22=>
 Ad l22<|
 Ac o3<|
 Ae D (Key.lp 68 0) [AV.ls t0,AV.ls t1,AV.ls t2,AV.ptr 0 0,AV.ptr 1 0,iv (A.add IntKind.i64 t8 1)] [ABlk.mk [bv b6_0,AV.ls b6_1] true false,ABlk.mk [bv b7,AV.ls xs2] true false] λr4 o4=>
 AN 2 [0,1] (AH.mk [(1,ABlk.mk [bv b7,AV.ls xs2] true false),(0,ABlk.mk [bv b6_0,AV.ls b6_1] true false),(2,ABlk.mk [bv false,AV.v (Value.slice none 0 0)] true false)] 3 none) [0,1] r4 o4))
 (unI n1 λi4=>
 Br t2 i4 λcs7=>
 Af cs7 λb6 l18=>
 As l18 λxs2 l19=>
 Ad l19<|
 Ae D (Key.fn 122) [AV.agg [bv b3,AV.ls xs1],AV.agg [bv b6,AV.ls xs2]] [] λr3 o3=>
 Au r3 λcs8=>
 Af cs8 λb7 l20=>
 As l20 λxs3 l21=>
 Ad l21<|
 Ac o3<|
 unI t8 λi5=>
 Br t0 i5 λcs9=>
 Af cs9 λb8 l22=>
 Bv l22 λ_ l23=>
 Bv l23 λ_ l24=>
 Ad l24<|
 br b8
 (Ae D (Key.fn 123) [AV.agg [bv b7,AV.ls xs3]] [] λr4 o4=>
 Au r4 λcs10=>
 Af cs10 λb9 l25=>
 As l25 λxs4 l26=>
 Ad l26<|
 Ac o4<|
 Ae D (Key.fn 124) [AV.agg [bv b7_0,AV.ls b7_1],AV.agg [bv b9,AV.ls xs4]] [] λr5 o5=>
 Au r5 λcs11=>
 Af cs11 λb10 l27=>
 As l27 λxs5 l28=>
 Ad l28<|
 Ac o5<|
 Ae D (Key.lp 68 0) [AV.ls t0,AV.ls t1,AV.ls t2,AV.ptr 0 0,AV.ptr 1 0,iv (A.add IntKind.i64 t8 1)] [ABlk.mk [bv b6_0,AV.ls b6_1] true false,ABlk.mk [bv b10,AV.ls xs5] true false] λr6 o6=>
 AN 2 [0,1] (AH.mk [(1,ABlk.mk [bv b10,AV.ls xs5] true false),(0,ABlk.mk [bv b6_0,AV.ls b6_1] true false),(2,ABlk.mk [bv b9,AV.ls xs4] true false)] 3 none) [0,1] r6 o6)
 (Ae D (Key.fn 124) [AV.agg [bv b7_0,AV.ls b7_1],AV.agg [bv b7,AV.ls xs3]] [] λr4 o4=>
 Au r4 λcs10=>
 Af cs10 λb9 l25=>
 As l25 λxs4 l26=>
 Ad l26<|
 Ac o4<|
 Ae D (Key.lp 68 0) [AV.ls t0,AV.ls t1,AV.ls t2,AV.ptr 0 0,AV.ptr 1 0,iv (A.add IntKind.i64 t8 1)] [ABlk.mk [bv b6_0,AV.ls b6_1] true false,ABlk.mk [bv b9,AV.ls xs4] true false] λr5 o5=>
 AN 2 [0,1] (AH.mk [(1,ABlk.mk [bv b9,AV.ls xs4] true false),(0,ABlk.mk [bv b6_0,AV.ls b6_1] true false),(2,ABlk.mk [bv b7,AV.ls xs3] true false)] 3 none) [0,1] r5 o5))))))
 (some ((AV.tup [iv 0,AV.ptr 0 0,AV.ptr 1 0],[BO.set (ABlk.mk [bv b6_0,AV.ls b6_1] true false),BO.set (ABlk.mk [bv b7_0,AV.ls b7_1] true false)]))):=by kernel_rfl
theorem e29(A:Ar)(D:Orc)(x0_0:Int)(x0_1:List (List AV))(x0_2:List (List AV))(x0_3:Int)(x0_4:ByteArray)(x0_5:ByteArray)(x0_6:List (List AV))(x1:List (List AV))(x2:List (List AV)):BI A D Al XP .n 29 Al9 [AV.agg [iv x0_0,AV.ls x0_1,AV.ls x0_2,iv x0_3,sv x0_4,sv x0_5,AV.ls x0_6],AV.ls x1,AV.ls x2] [] =
 br (A.eq x0_0 0)
 (some ((bv true,[])))
 (br (A.eq x0_0 2)
 (Ae D (Key.fn 68) [AV.ls x0_1,AV.ls x1,AV.ls x2] [] λr o=>
 Au r λcs=>
 Af cs λb l=>
 As l λxs l1=>
 Ad l1<|
 Ac o<|
 Ae D (Key.fn 68) [AV.ls x0_2,AV.ls x1,AV.ls x2] [] λr1 o1=>
 Au r1 λcs1=>
 Af cs1 λb1 l2=>
 As l2 λxs1 l3=>
 Ad l3<|
 Ac o1<|
 Ae D (Key.fn 67) [AV.agg [bv b,AV.ls xs],AV.agg [bv b1,AV.ls xs1]] [] λr2 o2=>
 AT IntKind.i64 r2 λn=>
 Ac o2<|
 br (A.eq x0_3 0)
 (br (A.eq n 0)
 (some ((bv true,[])))
 (some ((bv false,[]))))
 (br (A.eq x0_3 1)
 (br (A.eq n 0)
 (some ((bv false,[])))
 (some ((bv true,[]))))
 (br (A.eq x0_3 2)
 (br (A.lt n 0)
 (some ((bv true,[])))
 (some ((bv false,[]))))
 (br (A.eq x0_3 3)
 (br (A.le n 0)
 (some ((bv true,[])))
 (some ((bv false,[]))))
 (br (A.eq x0_3 4)
 (br (A.lt 0 n)
 (some ((bv true,[])))
 (some ((bv false,[]))))
 (br (A.le 0 n)
 (some ((bv true,[])))
 (some ((bv false,[])))))))))
 (br (A.eq x0_0 3)
 (Br x0_6 0 λcs=>
 At IntKind.i64 cs λn l=>
 As l λxs l1=>
 As l1 λxs1 l2=>
 At IntKind.i64 l2 λn1 l3=>
 Bv l3 λs l4=>
 Bv l4 λs1 l5=>
 As l5 λxs2 l6=>
 Ad l6<|
 Ae D (Key.fn 29) [AV.agg [iv n,AV.ls xs,AV.ls xs1,iv n1,sv s,sv s1,AV.ls xs2],AV.ls x1,AV.ls x2] [] λr o=>
 AR r λb=>
 Ac o<|
 br b
 (some ((bv false,[])))
 (some ((bv true,[]))))
 (br (A.eq x0_0 4)
 (Br x0_6 0 λcs=>
 At IntKind.i64 cs λn l=>
 As l λxs l1=>
 As l1 λxs1 l2=>
 At IntKind.i64 l2 λn1 l3=>
 Bv l3 λs l4=>
 Bv l4 λs1 l5=>
 As l5 λxs2 l6=>
 Ad l6<|
 Ae D (Key.fn 29) [AV.agg [iv n,AV.ls xs,AV.ls xs1,iv n1,sv s,sv s1,AV.ls xs2],AV.ls x1,AV.ls x2] [] λr o=>
 AR r λb=>
 Ac o<|
 br b
 (Br x0_6 1 λcs1=>
 At IntKind.i64 cs1 λn2 l7=>
 As l7 λxs3 l8=>
 As l8 λxs4 l9=>
 At IntKind.i64 l9 λn3 l10=>
 Bv l10 λs2 l11=>
 Bv l11 λs3 l12=>
 As l12 λxs5 l13=>
 Ad l13<|
 Ae D (Key.fn 29) [AV.agg [iv n2,AV.ls xs3,AV.ls xs4,iv n3,sv s2,sv s3,AV.ls xs5],AV.ls x1,AV.ls x2] [] λr1 o1=>
 AR r1 λb1=>
 Ac o1<|
 br b1
 (some ((bv true,[])))
 (some ((bv false,[]))))
 (some ((bv false,[]))))
 (br (A.eq x0_0 5)
 (Br x0_6 0 λcs=>
 At IntKind.i64 cs λn l=>
 As l λxs l1=>
 As l1 λxs1 l2=>
 At IntKind.i64 l2 λn1 l3=>
 Bv l3 λs l4=>
 Bv l4 λs1 l5=>
 As l5 λxs2 l6=>
 Ad l6<|
 Ae D (Key.fn 29) [AV.agg [iv n,AV.ls xs,AV.ls xs1,iv n1,sv s,sv s1,AV.ls xs2],AV.ls x1,AV.ls x2] [] λr o=>
 AR r λb=>
 Ac o<|
 br b
 (some ((bv true,[])))
 (Br x0_6 1 λcs1=>
 At IntKind.i64 cs1 λn2 l7=>
 As l7 λxs3 l8=>
 As l8 λxs4 l9=>
 At IntKind.i64 l9 λn3 l10=>
 Bv l10 λs2 l11=>
 Bv l11 λs3 l12=>
 As l12 λxs5 l13=>
 Ad l13<|
 Ae D (Key.fn 29) [AV.agg [iv n2,AV.ls xs3,AV.ls xs4,iv n3,sv s2,sv s3,AV.ls xs5],AV.ls x1,AV.ls x2] [] λr1 o1=>
 AR r1 λb1=>
 Ac o1<|
 br b1
 (some ((bv true,[])))
 (some ((bv false,[])))))
 (some ((bv false,[]))))))):=by kernel_rfl
end
end Go.Proofs.YtlmhajfbpplpoaaGreat
