/- Functions of the program -/
import Derived.Test.YtlmhajfbpplpoaaGreatOAS
set_option linter.all false
open List renaming drop->Apx,take->ο
namespace Go.Proofs.YtlmhajfbpplpoaaGreat
noncomputable section
open ABlk renaming mk->Δ
open AV renaming agg->Ξ,ls->V,ptr->η,sl->ζ,tup->ψ,v->ApB
open BO renaming set->γ
open IntKind renaming i64->U,u32->θ,u64->Ψ,u8->Arl
open Key renaming fn->Ω,lp->ι
section
open Go.RowKit
def Ame:MFn:=Bm [] 42
def Ak2:Hnt:=⟨[],[],[]⟩
def Amc:MFn:=Bm [] 30
def AkZ:Hnt:=⟨[(32,(.tup [.agg [.int .i64,.ls,.ls,.int .i64,.str,.str,.ls],.agg [.int .i64,.int .i64],.int .i64],[])),(34,(.tup [.agg [.int .i64,.int .i64,.ls],.ls,.bool],[])),(36,(.bool,[])),(38,(.str,[])),(42,(.agg [.ls,.ls,.int .i64,.ls,.bool,.ls,.bool,.ls,.ls,.ls],[]))],[],[(38,[.int .i64]),(43,[.ls]),(44,[.int .i64,.ls,.ls,.int .i64,.str,.str,.ls]),(46,[.int .i64]),(54,[.int .i64,.int .i64]),(63,[.int .i64,.ls,.ls,.int .i64,.str,.str,.ls]),(76,[.int .i64,.ls,.ls,.int .i64,.str,.str,.ls]),(80,[.int .i64,.ls,.ls,.int .i64,.str,.str,.ls]),(88,[.int .i64]),(98,[.bool,.int .i64,.int .i64,.int .i64,.ls,.bool,.ls,.bool,.ls]),(100,[.bool]),(104,[.bool,.int .i64,.int .i64,.int .i64,.ls,.bool,.ls,.bool,.ls]),(106,[.int .i64])]⟩
def AoF:A3:=[⟨27,[false,false,false,false,false,false,false,false,false,false,false,false,false,false,false,false,true,true,true],[],[],[(0,([false,false,true],([],[]))),(1,([],([],[])))]⟩]
def AoT:MFn:=Bm AoF 31
def LF:List (Nat × MFn):=[(42,Ame),(30,Amc),(31,AoT)]
variable (A:Ar) (D:Orc)
theorem e42:By A D Al Ak2 .n 42 Ame [] [] =
 some ((Ξ [V [[sv (Ax [120])],[sv (Ax [121])]],V [],iv 0,V [],bv false,V [],bv false,V [],V [[sv (Ax [112]),V [[sv (Ax [97])],[sv (Ax [98])]],V []]],V []],[])):=by kernel_rfl
theorem e30:By A D Al AkZ .n 30 Amc [] [] =
 Ad D (Ω 42) [] [] [.a,.L,.L,.I,.L,.B,.L,.B,.L,.L,.L,.N,.E] λxs xs1 n xs2 b xs3 b1 xs4 xs5 xs6=>
 Ad D (Ω 32) [sv (Ax [71,32,40,120,32,62,32,48,32,45,62,32,70,32,64,112,46,98,41]),Ξ [V xs,V xs1,iv n,V xs2,bv b,V xs3,bv b1,V xs4,V xs5,V xs6]] [] [.t,.A,.I,.L,.L,.I,.S,.S,.L,.N,.A,.I,.I,.N,.I,.N,.E] λn1 xs7 xs8 n2 s s1 xs9 _ _ n5=>
 Ad D (Ω 42) [] [] [.a,.L,.L,.I,.L,.B,.L,.B,.L,.L,.L,.N,.E] λxs10 xs11 n6 xs12 b2 xs13 b3 xs14 xs15 xs16=>
 Ad D (Ω 32) [sv (Ax [120,32,61,32,49,32,85]),Ξ [V xs10,V xs11,iv n6,V xs12,bv b2,V xs13,bv b3,V xs14,V xs15,V xs16]] [] [.t,.A,.I,.L,.L,.I,.S,.S,.L,.N,.A,.I,.I,.N,.I,.N,.E] λ_ _ _ _ _ _ _ n9 n10 n11=>
 Ad D (Ω 42) [] [] [.a,.L,.L,.I,.L,.B,.L,.B,.L,.L,.L,.N,.E] λxs20 xs21 n12 xs22 b4 xs23 b5 xs24 xs25 xs26=>
 Ad D (Ω 32) [sv (Ax [64,112,46,99]),Ξ [V xs20,V xs21,iv n12,V xs22,bv b4,V xs23,bv b5,V xs24,V xs25,V xs26]] [] [.t,.A,.I,.L,.L,.I,.S,.S,.L,.N,.A,.I,.I,.N,.I,.N,.E] λ_ _ _ _ _ _ _ _ _ n17=>
 br (A.eq n5 0)
 (br (A.eq n1 9)
 (Bh xs9 0 λcs12=>
 dk [.I,.L,.L,.I,.S,.S,.L,.N] [.l cs12] λn18 _ _ _ _ _ _=>
 br (A.eq n18 7)
 (br (A.eq n11 101)
 (br (A.not (A.band (A.eq n9 1) (A.band (A.eq n10 8) true)))
 (some ((bv false,[])))
 (br (A.eq n17 110)
 (Ad D (Ω 42) [] [] [.a,.L,.L,.I,.L,.B,.L,.B,.L,.L,.L,.N,.E] λxs33 xs34 n20 xs35 b6 xs36 b7 xs37 xs38 xs39=>
 Ad D (Ω 34) [Ξ [iv n1,V xs7,V xs8,iv n2,sv s,sv s1,V xs9],Ξ [V xs33,V xs34,iv n20,V xs35,bv b6,V xs36,bv b7,V xs37,V xs38,V xs39]] [] [.t,.A,.I,.I,.L,.N,.L,.B,.N,.E] λn21 _ _ xs41 b8=>
 Ad D (Ω 42) [] [] [.a,.L,.L,.I,.L,.B,.L,.B,.L,.L,.L,.N,.E] λxs42 xs43 n23 xs44 b9 xs45 b10 xs46 xs47 xs48=>
 Ad D (Ω 34) [Ξ [iv 99,V [],V [],iv 0,sv (Ax []),sv (Ax []),V []],Ξ [V xs42,V xs43,iv n23,V xs44,bv b9,V xs45,bv b10,V xs46,V xs47,V xs48]] [] [.t,.A,.I,.I,.L,.N,.L,.B,.N,.E] λ_ _ _ _ b11=>
 Ad D (Ω 38) [Ξ [iv n1,V xs7,V xs8,iv n2,sv s,sv s1,V xs9]] [] [.s,.E] λs8=>
 br (A.seq s8 (Ax [71,32,40,120,32,62,32,48,32,45,62,32,70,32,64,112,46,98,41]))
 (Ad D (Ω 36) [Ξ [iv n1,V xs7,V xs8,iv n2,sv s,sv s1,V xs9]] [] [.b,.E] λb12=>
 br b12
 (br b8
 (br (A.eq n21 9)
 (br (A.eq (↑(AQ xs41)) 2)
 (Bh xs41 1 λcs19=>
 dk [.B,.I,.I,.I,.L,.B,.L,.B,.L,.N] [.l cs19] λb13 _ _ _ _ _ _ _ _=>
 br b13
 (Bh xs41 1 λcs20=>
 dk [.B,.I,.I,.I,.L,.B,.L,.B,.L,.N] [.l cs20] λ_ _ n30 _ _ _ _ _ _=>
 br (A.eq n30 1)
 (br (A.not b11)
 (some ((bv true,[])))
 (some ((bv false,[]))))
 (some ((bv false,[]))))
 (some ((bv false,[]))))
 (some ((bv false,[]))))
 (some ((bv false,[]))))
 (some ((bv false,[]))))
 (some ((bv false,[]))))
 (some ((bv false,[]))))
 (some ((bv false,[])))))
 (some ((bv false,[]))))
 (some ((bv false,[]))))
 (some ((bv false,[]))))
 (some ((bv false,[]))):=by kernel_rfl
end
section
open Go.RowKit
def AoG:A3:=[⟨133,[false,false,true,true,true,true,false,false,false,false,false,false,false,false,false,false,false,false,false,false,false,false,false,false,false,false,false,false,false,false,false,false,false,false,false,false,false,false,false,false,false,false,false,false,false,false,false,false,false,false,false,false,false,false,false,false,false,false,false,false,false,false,false,false,false,false,false,false,false,false,false,false,false,false,false,false,false,false,false,false,false,false,false,false,false,false,false,false,false,false,false,false,false,false,false,false,false,false,false,false,false,false,false,false,false,false,false,false,false,false,false,false,false,false,true,true],[],[4,5],[(0,([false,false,false,false,false,false,false,false,true],([],[4,5]))),(1,([],([],[4,5])))]⟩]
def Aev:MFn:=Bm AoG 43
def UQ:Hnt:=⟨[(28,(.bool,[])),(29,(.bool,[])),(42,(.agg [.ls,.ls,.int .i64,.ls,.bool,.ls,.bool,.ls,.ls,.ls],[])),(43,(.bool,[]))],[(0,[(0,([.bool],[.del,.del])),(1,([],[.del,.del]))])],[(12,[.int .i64]),(16,[.int .i64]),(20,[.int .i64]),(24,[.int .i64]),(29,[.int .i64]),(36,[.ls]),(42,[.int .i64]),(43,[.bool,.int .i64,.int .i64,.int .i64,.ls,.bool,.ls,.bool,.ls]),(44,[.bool,.int .i64,.int .i64,.int .i64,.ls,.bool,.ls,.bool,.ls]),(46,[.int .i64]),(49,[.bool]),(54,[.int .i64]),(55,[.str,.ls,.ls]),(57,[.str]),(59,[.str]),(66,[.int .i64]),(67,[.str,.ls,.ls]),(69,[.ls]),(71,[.int .i64]),(72,[.str]),(73,[.str]),(75,[.str]),(79,[.bool]),(83,[.int .i64,.ls,.bool,.ls,.bool,.ls]),(86,[.int .i64,.ls,.ls,.int .i64,.str,.str,.ls]),(94,[.int .i64]),(96,[.int .i64]),(100,[.ls]),(103,[.ls]),(109,[.int .i64]),(113,[.ls]),(119,[.ls]),(121,[.int .i64,.ls,.ls,.int .i64,.str,.str,.ls]),(122,[.int .i64,.ls,.ls,.int .i64,.str,.str,.ls]),(124,[.ls]),(126,[.int .i64,.int .i64,.ls]),(127,[.int .i64,.int .i64,.ls])]⟩
def Aoz:A3:=[⟨47,[false,true,true,false,false,false,false,false,false,false,false,false,false,false,false,false,false,false,false,false,true,true,true],[],[2],[(0,([false,false,false,false,true],([],[2]))),(1,([false,true,true],([],[])))]⟩]
def Aet:MFn:=Bm Aoz 12
def AaL:Hnt:=⟨[(21,(.int .i64,[])),(30,(.bool,[])),(34,(.tup [.agg [.int .i64,.int .i64,.ls],.ls,.bool],[])),(42,(.agg [.ls,.ls,.int .i64,.ls,.bool,.ls,.bool,.ls,.ls,.ls],[])),(43,(.bool,[]))],[(0,[(0,([.bool],[.del])),(1,([.ls,.ptr 0 0],[.box [.int .i64,.ls,.ls,.int .i64,.str,.str,.ls]]))])],[(12,[.int .i64,.ls,.ls,.int .i64,.str,.str,.ls]),(24,[.bool,.ls]),(25,[.bool,.ls]),(27,[.ls]),(32,[.int .i64,.ls,.ls,.int .i64,.str,.str,.ls]),(41,[.int .i64,.ls,.ls,.int .i64,.str,.str,.ls]),(42,[.int .i64,.int .i64,.ls])]⟩
def LG:List (Nat × MFn):=[(43,Aev),(12,Aet)]
variable (A:Ar) (D:Orc)
theorem e43(x0_0:Int)(x0_1 x0_2:Rw)(x0_3:Int)(x0_4 x0_5:ByteArray)(x0_6:Rw)(x1_0 x1_1:Int)(x1_2 x2 x3:Rw):By A D Al UQ (.b (.b .n (.b .n (.b .n (.b (.b (.b (.b (.b .n (.b (.b (.b (.b .n (.b .n (.b .n (.b (.b (.b (.b (.b (.b .n (.b .n (.b .n (.b (.b (.b (.b (.b (.b .n (.b .n (.b .n (.b .n (.t (.b (.b (.t (.t (.t (.t (.t (.t (.t (.t (.t (.b (.t .n) (.t .n))))))))))) (.f (.f (.f (.f (.f (.f (.f (.f (.f (.f .n))))))))))) .n)))))) .n) .n) .n) .n) .n)))) .n) .n) .n) .n) .n)))) .n) .n) .n)) .n) .n) .n) .n)))) (.b (.b (.b (.b (.b .n (.b (.b (.b (.b .n (.b (.b (.b (.b .n (.b .n (.b .n (.b (.b (.b (.b (.b (.b .n (.b .n (.b .n (.b (.b (.b (.b (.b (.b .n (.b .n (.b .n (.b .n (.f .n))))) .n) .n) .n) .n) .n)))) .n) .n) .n) .n) .n)))) .n) .n) .n)) .n) .n) .n)) .n) .n) .n) .n)) 43 Aev [Ξ [iv x0_0,V x0_1,V x0_2,iv x0_3,sv x0_4,sv x0_5,V x0_6],Ξ [iv x1_0,iv x1_1,V x1_2],V x2,V x3] [] =
 br (A.eq x0_0 6)
 (br (A.eq x1_0 2)
 (br (A.lt x1_1 0)
 (some ((bv false,[])))
 (br (A.le (↑(AQ x2)) x1_1)
 (some ((bv false,[])))
 (br (A.eq (↑(AQ x1_2)) 0)
 (unI x1_1 λi=>
 Bh x2 i λcs=>
 dk [.B,.I,.I,.I,.L,.B,.L,.B,.L,.N] [.l cs] λb n n1 _ _ _ _ _ _=>
 br (A.eq x0_0 6) (br b
 (Ad D (Ω 42) [] [] [.a,.L,.L,.I,.L,.B,.L,.B,.L,.L,.L,.N,.E] λ_ _ _ _ _ _ _ _ xs8 _=>
 br b (br b (br b (br b (unI n λi1=>
 Bh xs8 i1 λcs2=>
 dk [.S,.L,.L,.N] [.l cs2] λs _ _=>
 br b (br b (br b (br b (br b (br (A.seq s x0_4)
 (br b (AE D (Ω 42) [] [] λr1 o1=>
 dk [.a,.L,.L,.I,.L,.B,.L,.B,.L,.L,.L,.N,.E] [.v r1,.o o1] λ_ _ _ _ _ _ _ _ xs17 _=>
 unI n λi2=>
 Bh xs17 i2 λcs4=>
 dk [.S,.L,.L,.N] [.l cs4] λ_ xs19 _=>
 unI n1 λi3=>
 Bh xs19 i3 λcs5=>
 dk [.S,.N] [.l cs5] λs2=>
 br (A.seq s2 x0_5)
 (some ((bv true,[])))
 (some ((bv false,[])))) none)
 (br b (some ((bv false,[]))) none)) none) none) none) none) none) none) none) none) none)
 (br b none (br b none (br b none (br b none (br b none (br b none (br b none (br b none (br b none (br b none (some ((bv false,[])))))))))))))) none)
 (some ((bv false,[]))))))
 (some ((bv false,[]))))
 (br (A.eq x0_0 2)
 (br (A.eq x1_0 2)
 (br (A.lt x1_1 0)
 (some ((bv false,[])))
 (br (A.le (↑(AQ x2)) x1_1)
 (some ((bv false,[])))
 (br (A.eq (↑(AQ x1_2)) 0)
 (unI x1_1 λi=>
 Bh x2 i λcs=>
 dk [.B,.I,.I,.I,.L,.B,.L,.B,.L,.N] [.l cs] λb _ _ n2 xs b1 xs1 b2 xs2=>
 br (A.eq x0_0 6) none (br (A.not b)
 (Ad D (Ω 28) [Ξ [iv n2,V xs,bv b1,V xs1,bv b2,V xs2],V x3] [] [.b,.E] λb3=>
 br b3
 (Ad D (Ω 42) [] [] [.a,.L,.L,.I,.L,.B,.L,.B,.L,.L,.L,.N,.E] λxs3 _ _ _ _ _ _ _ _ _=>
 Ad D (Ω 29) [Ξ [iv x0_0,V x0_1,V x0_2,iv x0_3,sv x0_4,sv x0_5,V x0_6],V xs3,V x3] [] [.b,.E] λb6=>
 br b6
 (br (A.beq true true)
 (some ((bv true,[])))
 (some ((bv false,[]))))
 (br (A.beq true false)
 (some ((bv true,[])))
 (some ((bv false,[])))))
 (Ad D (Ω 42) [] [] [.a,.L,.L,.I,.L,.B,.L,.B,.L,.L,.L,.N,.E] λxs3 _ _ _ _ _ _ _ _ _=>
 Ad D (Ω 29) [Ξ [iv x0_0,V x0_1,V x0_2,iv x0_3,sv x0_4,sv x0_5,V x0_6],V xs3,V x3] [] [.b,.E] λb6=>
 br b6
 (br (A.beq false true)
 (some ((bv true,[])))
 (some ((bv false,[]))))
 (br (A.beq false false)
 (some ((bv true,[])))
 (some ((bv false,[]))))))
 (some ((bv false,[])))))
 (some ((bv false,[]))))))
 (some ((bv false,[]))))
 (br (A.eq x1_0 x0_0)
 (br (A.eq ↑(AQ x1_2) ↑(AQ x0_6))
 (br (A.eq x1_1 0)
 (Ad D (ι 43 0) [V x2,V x3,η 0 0,η 1 0,iv ↑(AQ x0_6),iv 0] [bk [iv x0_0,V x0_1,V x0_2,iv x0_3,sv x0_4,sv x0_5,V x0_6],bk [iv x1_0,iv x1_1,V x1_2]] [.t,.C,.x,.X,.Y] λc l o=>
 br (A9 0 c)
 (dk [.B,.N,.D,.D,.E] [.l l,.o o] λb=>
 some ((bv b,[])))
 (br (A9 1 c)
 (dk [.N,.D,.D,.E,.w] [.l l,.o o] λ_=>
 some ((bv true,[])))
 (none)))
 (some ((bv false,[]))))
 (some ((bv false,[]))))
 (some ((bv false,[]))))):=by kernel_rfl
theorem Agb(t2 t3:Rw)(b4_0:Int)(b4_1 b4_2:Rw)(b4_3:Int)(b4_4 b4_5:ByteArray)(b4_6:Rw)(b5_0 b5_1:Int)(b5_2:Rw)(t114 t115:Int):Di A D Al UQ .n 43 0 (AL Aev 0).fst (AL Aev 0).snd [V t2,V t3,η 0 0,η 1 0,iv t114,iv t115] [bk [iv b4_0,V b4_1,V b4_2,iv b4_3,sv b4_4,sv b4_5,V b4_6],bk [iv b5_0,iv b5_1,V b5_2]] =
 br (A.lt t115 t114)
 (unI t115 λi=>
 Bh b4_6 i λcs=>
 dk [.I,.L,.L,.I,.S,.S,.L,.N] [.l cs] λn xs xs1 n1 s s1 xs2=>
 unI t115 λi1=>
 Bh b5_2 i1 λcs1=>
 dk [.I,.I,.L,.N] [.l cs1] λn2 n3 xs3=>
 Ad D (Ω 43) [Ξ [iv n,V xs,V xs1,iv n1,sv s,sv s1,V xs2],Ξ [iv n2,iv n3,V xs3],V t2,V t3] [] [.b,.E] λb=>
 br b
 (AE D (ι 43 0) [V t2,V t3,η 0 0,η 1 0,iv t114,iv (A.add U t115 1)] [bk [iv b4_0,V b4_1,V b4_2,iv b4_3,sv b4_4,sv b4_5,V b4_6],bk [iv b5_0,iv b5_1,V b5_2]] λr1 o1=>
 AD 2 [0,1] (AH.mk [(1,bk [iv b5_0,iv b5_1,V b5_2]),(0,bk [iv b4_0,V b4_1,V b4_2,iv b4_3,sv b4_4,sv b4_5,V b4_6])] 2 none) [0,1] r1 o1)
 (some ((ψ [bv true,bv false],[BO.del,BO.del]))))
 (some ((ψ [iv 0],[BO.del,BO.del]))):=by kernel_rfl
theorem e12(x0_0:Int)(x0_1 x0_2:Rw)(x0_3:Int)(x0_4 x0_5:ByteArray)(x0_6 x1:Rw):By A D Al AaL .n 12 Aet [Ξ [iv x0_0,V x0_1,V x0_2,iv x0_3,sv x0_4,sv x0_5,V x0_6],V x1] [] =
 Ad D (Ω 30) [] [] [.b,.E] λb=>
 br b
 (Ad D (Ω 21) [Ξ [iv x0_0,V x0_1,V x0_2,iv x0_3,sv x0_4,sv x0_5,V x0_6],iv 60] [] [.i,.E] λn=>
 br (A.lt 60 n)
 (some ((bv true,[])))
 (br (A.lt 10 ↑(AQ x1))
 (some ((bv true,[])))
 (Ad D (ι 12 0) [V x1,η 0 0,V x1,iv ↑(AQ x1),iv 0] [bk [iv x0_0,V x0_1,V x0_2,iv x0_3,sv x0_4,sv x0_5,V x0_6]] [.t,.C,.x,.X,.Y] λc l o2=>
 br (A9 0 c)
 (dk [.B,.N,.D,.E] [.l l,.o o2] λb1=>
 some ((bv b1,[])))
 (br (A9 1 c)
 (dk [.L,.P 0 0,.N,.T,.I,.L,.L,.I,.S,.S,.L,.N,.E] [.l l,.o o2] λxs n1 xs1 xs2 n2 s s1 xs3=>
 Ad D (Ω 42) [] [] [.a,.L,.L,.I,.L,.B,.L,.B,.L,.L,.L,.N,.E] λxs4 xs5 n3 xs6 b1 xs7 b2 xs8 xs9 xs10=>
 Ad D (Ω 34) [Ξ [iv n1,V xs1,V xs2,iv n2,sv s,sv s1,V xs3],Ξ [V xs4,V xs5,iv n3,V xs6,bv b1,V xs7,bv b2,V xs8,V xs9,V xs10]] [] [.t,.A,.I,.I,.L,.N,.L,.B,.N,.E] λn4 n5 xs11 xs12 b3=>
 br (A.not b3)
 (some ((bv true,[])))
 (Ad D (Ω 43) [Ξ [iv n1,V xs1,V xs2,iv n2,sv s,sv s1,V xs3],Ξ [iv n4,iv n5,V xs11],V xs12,V xs] [] [.b,.E] λb4=>
 br b4
 (some ((bv true,[])))
 (some ((bv false,[])))))
 (none)))))
 (some ((bv false,[]))):=by kernel_rfl
theorem Af8(t1:Rw)(b2_0:Int)(b2_1 b2_2:Rw)(b2_3:Int)(b2_4 b2_5:ByteArray)(b2_6 t20:Rw)(t21 t22:Int):Di A D Al AaL .n 12 0 (AL Aet 0).fst (AL Aet 0).snd [V t1,η 0 0,V t20,iv t21,iv t22] [bk [iv b2_0,V b2_1,V b2_2,iv b2_3,sv b2_4,sv b2_5,V b2_6]] =
 br (A.lt t22 t21)
 (unI t22 λi=>
 Bh t20 i λcs=>
 dk [.B,.L,.N] [.l cs] λb xs=>
 br (A.lt 4 ↑(AQ xs))
 (some ((ψ [bv true,bv true],[BO.del])))
 (AE D (ι 12 0) [V t1,η 0 0,V t20,iv t21,iv (A.add U t22 1)] [bk [iv b2_0,V b2_1,V b2_2,iv b2_3,sv b2_4,sv b2_5,V b2_6]] λr o=>
 AD 1 [0] (AH.mk [(0,bk [iv b2_0,V b2_1,V b2_2,iv b2_3,sv b2_4,sv b2_5,V b2_6]),(1,bk [bv b,V xs])] 2 none) [0] r o))
 (some ((ψ [iv 0,V t1,η 0 0],[γ (bk [iv b2_0,V b2_1,V b2_2,iv b2_3,sv b2_4,sv b2_5,V b2_6])]))):=by kernel_rfl
end
section
open Go.RowKit
def Alo:A3:=[⟨37,[true,false,false,true,true],[(3,1)],[],[(1,([false,false,false,true],([],[])))]⟩,⟨37,[false,false,false,true],[(3,1)],[],[(3,([false,false,false,true],([],[])))]⟩]
def PO:MFn:=Bm Alo 177
def LW:Hnt:=⟨[],[(0,[(1,([.sl 1 1],[.del,.row true]))]),(1,[(3,([.sl 1 1],[.del,.row true]))])],[(15,[.int .u32]),(16,[.int .u32]),(27,[.int .u32]),(28,[.int .u32])]⟩
def Aic:MFn:=Bm [] 226
def Ag7:Hnt:=⟨[],[],[]⟩
def Aid:MFn:=Bm [] 227
def Ag8:Hnt:=⟨[],[],[(15,[.int .u32]),(16,[.int .u32])]⟩
def AlB:A3:=[⟨28,[true,true,false,false,false,true],[],[],[(0,([false,false,false,false,true],([],[]))),(1,([],([],[])))]⟩]
def Wn:MFn:=Bm AlB 229
def SA:Hnt:=⟨[(226,(.int .i64,[])),(227,(.int .u64,[]))],[(0,[(0,([.int .i64],[])),(1,([],[]))])],[]⟩
def Alq:A3:=[⟨36,[true,true,false,false,false,true,true,true],[(5,1)],[],[(1,([false,false,false,false,false,true],([],[])))]⟩]
def Wf:MFn:=Bm Alq 181
def St:Hnt:=⟨[(177,(.ls,[])),(226,(.int .i64,[])),(227,(.int .u64,[]))],[(0,[(1,([.sl 1 1],[.del,.row true]))])],[]⟩
def Alt:A3:=[⟨43,[true,true,false,false,false,false,true,true,true],[(6,1)],[],[(1,([false,false,false,false,false,false,true],([],[])))]⟩]
def Wh:MFn:=Bm Alt 184
def Su:Hnt:=⟨[(177,(.ls,[])),(226,(.int .i64,[])),(227,(.int .u64,[])),(229,(.int .i64,[]))],[(0,[(1,([.sl 1 1],[.del,.row true]))])],[]⟩
def AlA:A3:=[⟨37,[true,true,false,false,false,true,true,true],[(5,1)],[],[(1,([false,false,false,false,false,true,true],([],[])))]⟩]
def Wm:MFn:=Bm AlA 228
def Sz:Hnt:=⟨[(177,(.ls,[])),(227,(.int .u64,[]))],[(0,[(1,([.sl 1 1,.int .u64],[.del,.row true]))])],[]⟩
def Als:A3:=[⟨42,[true,true,false,false,false,true,true],[],[5],[(1,([false,false,false,false,false,true],([],[])))]⟩,⟨42,[true,true,false,false,false,true,true,true,true],[(7,1)],[],[(3,([true,true,false,false,false,false,true,true],([],[])))]⟩]
def PP:MFn:=Bm Als 183
def LX:Hnt:=⟨[(177,(.ls,[])),(181,(.ls,[])),(228,(.ls,[]))],[(0,[(1,([.ls],[]))]),(1,[(3,([.ls,.ls,.int .i64,.sl 1 1],[.del,.row true]))])],[(27,[.int .u32]),(28,[.int .u32]),(35,[.int .u32]),(36,[.int .u32])]⟩
def Alr:A3:=[⟨40,[true,false,false,false,true,true],[],[4],[(0,([false,false,true,true],([2],[]))),(1,([true,false,false,false,true],([],[])))]⟩]
def Wg:MFn:=Bm Alr 182
def NJ:Hnt:=⟨[(177,(.ls,[])),(181,(.ls,[])),(228,(.ls,[]))],[(0,[(0,([.ls,.int .i64],[])),(1,([.str,.ls],[]))])],[]⟩
def AlI:A3:=[⟨26,[true,true,false,false,false,true],[],[],[(0,([false,false,false,false,true],([],[]))),(1,([],([],[])))]⟩]
def Wr:MFn:=Bm AlI 258
def NL:Hnt:=⟨[],[(0,[(0,([.bool],[])),(1,([],[]))])],[(19,[.int .u32]),(20,[.int .u32]),(23,[.int .u32]),(24,[.int .u32])]⟩
def OB:List (Nat × MFn):=[(177,PO),(226,Aic),(227,Aid),(229,Wn),(181,Wf),(184,Wh),(228,Wm),(183,PP),(182,Wg),(258,Wr)]
variable (A:Ar) (D:Orc)
theorem AnC(x0:Rw):By A D Al LW .n 177 PO [V x0] [] =
 Ad D (ι 177 0) [V x0,ζ 0 0 0 1,iv 0] [Δ [] true true] [.t,.C,.x,.X,.Y] λc l o=>
 br (A9 1 c)
 (dk [.C,.q 1 1,.N,.D,.R,.X,.E] [.l l,.o o] λn cs1=>
 Ad D (ι 177 1) [ζ 0 0 n 1] [Δ cs1 true true] [.t,.C,.x,.X,.Y] λc4 l4 o1=>
 br (A9 3 c4)
 (dk [.C,.q 1 1,.N,.D,.R,.X,.E] [.l l4,.o o1] λn1 cs3=>
 br ((0+n1*1).ble cs3.length) (some ((V (Bp n1 1 (ο (n1*1) cs3)),[]))) none)
 (none))
 (none):=by kernel_rfl
theorem ZX(t0:Rw)(n3:Nat)(c3:List AV)(t4:Int):Di A D Al LW .n 177 0 (AL PO 0).fst (AL PO 0).snd [V t0,ζ 0 0 n3 1,iv t4] [{ cells:=c3,st:=true,ex:=true }] =
 br (A.lt t4 ↑(AQ t0))
 (unI t4 λi=>
 Bh t0 i λcs=>
 dk [.J .u32,.N] [.l cs] λn=>
 br (Bf (n3+1) 4) (br ((0+n3*1).ble c3.length) (AE D (ι 177 0) [V t0,ζ 0 0 (n3+1) 1,iv (A.add U t4 1)] [Δ (Apx 0 (ο (0+n3*1) c3)++[ApB (Value.int θ n)]) true true] λr o=>
 AD 1 [2] (AH.mk [(2,Δ (Apx 0 (ο (0+n3*1) c3)++[ApB (Value.int θ n)]) true true),(1,Δ [ApB (Value.int θ n)] true true)] 3 none) [0] r o) none) none)
 (some ((ψ [iv 0,ζ 1 0 n3 1],[BO.del,γ (Δ c3 true true)]))):=by kernel_rfl
theorem ZY(n3:Nat)(c3:List AV):Di A D Al LW .n 177 1 (AL PO 1).fst (AL PO 1).snd [ζ 0 0 n3 1] [{ cells:=c3,st:=true,ex:=true }] =
 br (A.lt 0 ↑n3)
 (unI (A.sub U (↑n3) 1) λi=>
 br (i.blt n3) (IE c3 (0+i*1) 1 λcs=>
 dk [.J .u32,.N] [.l cs] λn=>
 br (A.eq n 0)
 (unI (A.sub U (↑n3) 1) λi1=>
 br (J1 0 i1 n3) (AE D (ι 177 1) [ζ 0 0 i1 1] [Δ c3 true true] λr o=>
 AD 1 [0] (AH.mk [(0,Δ c3 true true)] 1 none) [] r o) none)
 (some ((ψ [iv 2,ζ 1 0 n3 1],[BO.del,γ (Δ c3 true true)])))) none)
 (some ((ψ [iv 2,ζ 1 0 n3 1],[BO.del,γ (Δ c3 true true)]))):=by kernel_rfl
theorem An0(x0 x1:Rw):By A D Al Ag7 .n 226 Aic [V x0,V x1] [] =
 br (A.lt ↑(AQ x1) ↑(AQ x0))
 (some ((iv ↑(AQ x0),[])))
 (some ((iv ↑(AQ x1),[]))):=by kernel_rfl
theorem An1(x0:Rw)(x1:Int):By A D Al Ag8 .n 227 Aid [V x0,iv x1] [] =
 br (A.lt x1 0)
 (some ((ApB (Value.int Ψ 0),[])))
 (br (A.le (↑(AQ x0)) x1)
 (some ((ApB (Value.int Ψ 0),[])))
 (unI x1 λi=>
 Bh x0 i λcs=>
 dk [.J .u32,.N] [.l cs] λn=>
 some ((ApB (Value.int Ψ (A.conv Ψ n)),[])))):=by kernel_rfl
theorem An3(x0 x1:Rw):By A D Al SA .n 229 Wn [V x0,V x1] [] =
 Ad D (Ω 226) [V x0,V x1] [] [.i,.E] λn=>
 Ad D (ι 229 0) [V x0,V x1,iv (A.sub U n 1)] [] [.t,.C,.x,.X,.Y] λc l o1=>
 br (A9 0 c)
 (dk [.I,.N,.E] [.l l,.o o1] λn1=>
 some ((iv n1,[])))
 (br (A9 1 c)
 (Fe l<|
 CZ o1<|
 some ((iv 0,[])))
 (none)):=by kernel_rfl
theorem Aab(t0 t1:Rw)(t5:Int):Di A D Al SA .n 229 0 (AL Wn 0).fst (AL Wn 0).snd [V t0,V t1,iv t5] [] =
 br (A.le 0 t5)
 (Ad D (Ω 227) [V t0,iv t5] [] [.j .u64,.E] λn=>
 Ad D (Ω 227) [V t1,iv t5] [] [.j .u64,.E] λn1=>
 br (A.lt n n1)
 (some ((ψ [bv true,iv (-1)],[])))
 (Ad D (Ω 227) [V t0,iv t5] [] [.j .u64,.E] λn2=>
 Ad D (Ω 227) [V t1,iv t5] [] [.j .u64,.E] λn3=>
 br (A.lt n3 n2)
 (some ((ψ [bv true,iv 1],[])))
 (AE D (ι 229 0) [V t0,V t1,iv (A.sub U t5 1)] [] λr4 o4=>
 AD 0 [] (AH.mk [] 0 none) [] r4 o4)))
 (some ((ψ [iv 0],[]))):=by kernel_rfl
theorem AnG(x0 x1:Rw):By A D Al St .n 181 Wf [V x0,V x1] [] =
 Ad D (ι 181 0) [V x0,V x1,ζ 0 0 0 1,ApB (Value.int Ψ 0),iv 0] [Δ [] true true] [.t,.C,.x,.X,.Y] λc l o=>
 br (A9 1 c)
 (dk [.C,.q 1 1,.N,.D,.R,.X,.E] [.l l,.o o] λn cs1=>
 br ((0+n*1).ble cs1.length) (AE D (Ω 177) [V (Bp n 1 (ο (n*1) cs1))] [] λr1 o1=>
 LK r1 λxs=>
 CZ o1<|
 some ((V xs,[]))) none)
 (none):=by kernel_rfl
theorem Z0(t0 t1:Rw)(n5:Nat)(c5:List AV)(t6 t7:Int):Di A D Al St (.b (.b (.b .n (.b .n (.f .n))) .n) .n) 181 0 (AL Wf 0).fst (AL Wf 0).snd [V t0,V t1,ζ 0 0 n5 1,ApB (Value.int Ψ t6),iv t7] [{ cells:=c5,st:=true,ex:=true }] =
 Ad D (Ω 226) [V t0,V t1] [] [.i,.E] λn=>
 br (A.le t7 n)
 (Ad D (Ω 227) [V t0,iv t7] [] [.j .u64,.E] λn1=>
 Ad D (Ω 227) [V t1,iv t7] [] [.j .u64,.E] λn2=>
 br (A.eq 4294967296 0)
 (none)
 (br (Bf (n5+1) 4) (br ((0+n5*1).ble c5.length) (br (A.eq 4294967296 0) none (AE D (ι 181 0) [V t0,V t1,ζ 0 0 (n5+1) 1,ApB (Value.int Ψ (A.quo Ψ (A.add Ψ (A.add Ψ n1 n2) t6) 4294967296)),iv (A.add U t7 1)] [Δ (Apx 0 (ο (0+n5*1) c5)++[ApB (Value.int θ (A.conv θ (A.rem Ψ (A.add Ψ (A.add Ψ n1 n2) t6) 4294967296)))]) true true] λr3 o3=>
 AD 1 [2] (AH.mk [(2,Δ (Apx 0 (ο (0+n5*1) c5)++[ApB (Value.int θ (A.conv θ (A.rem Ψ (A.add Ψ (A.add Ψ n1 n2) t6) 4294967296)))]) true true),(1,Δ [ApB (Value.int θ (A.conv θ (A.rem Ψ (A.add Ψ (A.add Ψ n1 n2) t6) 4294967296)))] true true)] 3 none) [0] r3 o3)) none) none))
 (some ((ψ [iv 0,ζ 1 0 n5 1],[BO.del,γ (Δ c5 true true)]))):=by kernel_rfl
theorem AnJ(x0 x1:Rw):By A D Al Su .n 184 Wh [V x0,V x1] [] =
 Ad D (Ω 229) [V x0,V x1] [] [.i,.E] λn=>
 br (A.lt n 0)
 (some ((ψ [V [],bv false],[])))
 (Ad D (ι 184 0) [V x0,V x1,ζ 0 0 0 1,ApB (Value.int Ψ 0),iv 0] [Δ [] true true] [.t,.C,.x,.X,.Y] λc l o1=>
 br (A9 1 c)
 (dk [.C,.q 1 1,.N,.D,.R,.X,.E] [.l l,.o o1] λn1 cs1=>
 br ((0+n1*1).ble cs1.length) (AE D (Ω 177) [V (Bp n1 1 (ο (n1*1) cs1))] [] λr2 o2=>
 LK r2 λxs=>
 CZ o2<|
 some ((ψ [V xs,bv true],[]))) none)
 (none)):=by kernel_rfl
theorem Z3(t0 t1:Rw)(n6:Nat)(c6:List AV)(t7 t8:Int):Di A D Al Su (.b (.b (.b .n (.b .n (.f .n))) .n) .n) 184 0 (AL Wh 0).fst (AL Wh 0).snd [V t0,V t1,ζ 0 0 n6 1,ApB (Value.int Ψ t7),iv t8] [{ cells:=c6,st:=true,ex:=true }] =
 Ad D (Ω 226) [V t0,V t1] [] [.i,.E] λn=>
 br (A.lt t8 n)
 (Ad D (Ω 227) [V t0,iv t8] [] [.j .u64,.E] λn1=>
 Ad D (Ω 227) [V t1,iv t8] [] [.j .u64,.E] λn2=>
 br (A.eq 4294967296 0)
 (none)
 (br (Bf (n6+1) 4) (br ((0+n6*1).ble c6.length) (br (A.eq 4294967296 0) none (AE D (ι 184 0) [V t0,V t1,ζ 0 0 (n6+1) 1,ApB (Value.int Ψ (A.sub Ψ 1 (A.quo Ψ (A.sub Ψ (A.sub Ψ (A.add Ψ n1 4294967296) n2) t7) 4294967296))),iv (A.add U t8 1)] [Δ (Apx 0 (ο (0+n6*1) c6)++[ApB (Value.int θ (A.conv θ (A.rem Ψ (A.sub Ψ (A.sub Ψ (A.add Ψ n1 4294967296) n2) t7) 4294967296)))]) true true] λr3 o3=>
 AD 1 [2] (AH.mk [(2,Δ (Apx 0 (ο (0+n6*1) c6)++[ApB (Value.int θ (A.conv θ (A.rem Ψ (A.sub Ψ (A.sub Ψ (A.add Ψ n1 4294967296) n2) t7) 4294967296)))]) true true),(1,Δ [ApB (Value.int θ (A.conv θ (A.rem Ψ (A.sub Ψ (A.sub Ψ (A.add Ψ n1 4294967296) n2) t7) 4294967296)))] true true)] 3 none) [0] r3 o3)) none) none))
 (some ((ψ [iv 0,ζ 1 0 n6 1],[BO.del,γ (Δ c6 true true)]))):=by kernel_rfl
theorem An2(x0:Rw)(x1:Int):By A D Al Sz .n 228 Wm [V x0,ApB (Value.int Ψ x1)] [] =
 Ad D (ι 228 0) [V x0,ApB (Value.int Ψ x1),ζ 0 0 0 1,ApB (Value.int Ψ 0),iv 0] [Δ [] true true] [.t,.C,.x,.X,.Y] λc l o=>
 br (A9 1 c)
 (dk [.C,.q 1 1,.J .u64,.N,.D,.R,.X,.E] [.l l,.o o] λn n1 cs1=>
 br (Bf (n+1) 4) (br ((0+n*1).ble cs1.length) (br ((0+(n+1)*1).ble (Apx 0 (ο (0+n*1) cs1)++[ApB (Value.int θ (A.conv θ n1))]).length) (AE D (Ω 177) [V (Bp (n+1) 1 (ο ((n+1)*1) (Apx 0 (Apx 0 (ο (0+n*1) cs1)++[ApB (Value.int θ (A.conv θ n1))]))))] [] λr1 o1=>
 LK r1 λxs=>
 CZ o1<|
 some ((V xs,[]))) none) none) none)
 (none):=by kernel_rfl
theorem Aaa(t0:Rw)(t1:Int)(n5:Nat)(c5:List AV)(t6 t7:Int):Di A D Al Sz (.b (.b (.b .n (.b .n (.f .n))) .n) .n) 228 0 (AL Wm 0).fst (AL Wm 0).snd [V t0,ApB (Value.int Ψ t1),ζ 0 0 n5 1,ApB (Value.int Ψ t6),iv t7] [{ cells:=c5,st:=true,ex:=true }] =
 br (A.lt t7 ↑(AQ t0))
 (Ad D (Ω 227) [V t0,iv t7] [] [.j .u64,.E] λn=>
 br (A.eq 4294967296 0)
 (none)
 (br (Bf (n5+1) 4) (br ((0+n5*1).ble c5.length) (br (A.eq 4294967296 0) none (AE D (ι 228 0) [V t0,ApB (Value.int Ψ t1),ζ 0 0 (n5+1) 1,ApB (Value.int Ψ (A.quo Ψ (A.add Ψ (A.mul Ψ n t1) t6) 4294967296)),iv (A.add U t7 1)] [Δ (Apx 0 (ο (0+n5*1) c5)++[ApB (Value.int θ (A.conv θ (A.rem Ψ (A.add Ψ (A.mul Ψ n t1) t6) 4294967296)))]) true true] λr1 o1=>
 AD 1 [2] (AH.mk [(2,Δ (Apx 0 (ο (0+n5*1) c5)++[ApB (Value.int θ (A.conv θ (A.rem Ψ (A.add Ψ (A.mul Ψ n t1) t6) 4294967296)))]) true true),(1,Δ [ApB (Value.int θ (A.conv θ (A.rem Ψ (A.add Ψ (A.mul Ψ n t1) t6) 4294967296)))] true true)] 3 none) [0] r1 o1)) none) none))
 (some ((ψ [iv 0,ζ 1 0 n5 1,ApB (Value.int Ψ t6)],[BO.del,γ (Δ c5 true true)]))):=by kernel_rfl
theorem AnI(x0 x1:Rw):By A D Al LX .n 183 PP [V x0,V x1] [] =
 Ad D (ι 183 0) [V x0,V x1,V [],iv (A.sub U (↑(AQ x1)) 1)] [] [.t,.C,.x,.X,.Y] λc l o=>
 br (A9 1 c)
 (dk [.L,.N,.E] [.l l,.o o] λxs=>
 Ad D (Ω 177) [V xs] [] [.l,.E] λxs1=>
 some ((V xs1,[])))
 (none):=by kernel_rfl
theorem Z1(t0 t1 t5:Rw)(t6:Int):Di A D Al LX .n 183 0 (AL PP 0).fst (AL PP 0).snd [V t0,V t1,V t5,iv t6] [] =
 br (A.le 0 t6)
 (Ad D (ι 183 1) [V t0,V t1,V t5,iv t6,ζ 0 0 1 1,iv 0] [Δ [ApB (Value.int θ 0)] true true] [.t,.C,.x,.X,.Y] λc l o=>
 br (A9 3 c)
 (dk [.L,.L,.I,.C,.q 1 1,.N,.D,.R,.X,.E] [.l l,.o o] λxs xs1 n n1 cs1=>
 unI n λi=>
 Bh xs1 i λcs2=>
 dk [.J .u32,.N] [.l cs2] λn2=>
 Ad D (Ω 228) [V xs,ApB (Value.int Ψ (A.conv Ψ n2))] [] [.l,.E] λxs2=>
 br ((0+n1*1).ble cs1.length) (AE D (Ω 181) [V (Bp n1 1 (ο (n1*1) cs1)),V xs2] [] λr2 o2=>
 LK r2 λxs3=>
 CZ o2<|
 AE D (ι 183 0) [V xs,V xs1,V xs3,iv (A.sub U n 1)] [] λr3 o3=>
 AD 0 [] (AH.mk [(1,Δ cs1 false true)] 2 none) [] r3 o3) none)
 (none))
 (some ((ψ [iv 0,V t5],[]))):=by kernel_rfl
theorem Z2(t0 t1 t5:Rw)(t6:Int)(n7:Nat)(c7:List AV)(t8:Int):Di A D Al LX .n 183 1 (AL PP 1).fst (AL PP 1).snd [V t0,V t1,V t5,iv t6,ζ 0 0 n7 1,iv t8] [{ cells:=c7,st:=true,ex:=true }] =
 br (A.lt t8 ↑(AQ t5))
 (unI t8 λi=>
 Bh t5 i λcs=>
 dk [.J .u32,.N] [.l cs] λn=>
 br (Bf (n7+1) 4) (br ((0+n7*1).ble c7.length) (AE D (ι 183 1) [V t0,V t1,V t5,iv t6,ζ 0 0 (n7+1) 1,iv (A.add U t8 1)] [Δ (Apx 0 (ο (0+n7*1) c7)++[ApB (Value.int θ n)]) true true] λr o=>
 AD 1 [2] (AH.mk [(2,Δ (Apx 0 (ο (0+n7*1) c7)++[ApB (Value.int θ n)]) true true),(1,Δ [ApB (Value.int θ n)] true true)] 3 none) [0] r o) none) none)
 (some ((ψ [iv 2,V t0,V t1,iv t6,ζ 1 0 n7 1],[BO.del,γ (Δ c7 true true)]))):=by kernel_rfl
theorem AnH(x0:ByteArray):By A D Al NJ .n 182 Wg [sv x0] [] =
 br (A.lt 4000 ↑(A.slen x0))
 (some ((ψ [V [],iv 2],[])))
 (Ad D (ι 182 0) [sv x0,V [],iv 0] [] [.t,.C,.x,.X,.Y] λc l o=>
 br (A9 0 c)
 (dk [.L,.I,.N,.E] [.l l,.o o] λxs n=>
 some ((ψ [V xs,iv n],[])))
 (br (A9 1 c)
 (dk [.S,.L,.N,.E] [.l l,.o o] λs xs=>
 br (A.eq (↑(A.slen s)) 0)
 (some ((ψ [V [],iv 20],[])))
 (Ad D (Ω 177) [V xs] [] [.l,.E] λxs1=>
 some ((ψ [V xs1,iv 0],[]))))
 (none))):=by kernel_rfl
theorem QV(t0:ByteArray)(t4:Rw)(t5:Int):Di A D Al NJ .n 182 0 (AL Wg 0).fst (AL Wg 0).snd [sv t0,V t4,iv t5] [] =
 br (A.lt t5 ↑(A.slen t0))
 (unI t5 λi=>
 br (i.blt (A.slen t0)) (br (A.lt (A.sat t0 i) 48)
 (some ((ψ [bv true,V [],iv 20],[])))
 (unI t5 λi1=>
 br (i1.blt (A.slen t0)) (br (A.lt 57 (A.sat t0 i1))
 (some ((ψ [bv true,V [],iv 20],[])))
 (Ad D (Ω 228) [V t4,ApB (Value.int Ψ 10)] [] [.l,.E] λxs=>
 unI t5 λi2=>
 br (i2.blt (A.slen t0)) (AE D (Ω 181) [V xs,V [[ApB (Value.int θ (A.conv θ (A.sub Arl (A.sat t0 i2) 48)))]]] [] λr1 o1=>
 dk [.l,.E] [.v r1,.o o1] λxs1=>
 AE D (ι 182 0) [sv t0,V xs1,iv (A.add U t5 1)] [] λr2 o2=>
 AD 0 [] (AH.mk [(0,Δ [ApB (Value.int θ (A.conv θ (A.sub Arl (A.sat t0 i2) 48)))] false true)] 1 none) [] r2 o2) none)) none)) none)
 (some ((ψ [iv 0,sv t0,V t4],[]))):=by kernel_rfl
theorem Aoc(x0 x1:Rw):By A D Al NL .n 258 Wr [V x0,V x1] [] =
 br (A.eq ↑(AQ x0) ↑(AQ x1))
 (Ad D (ι 258 0) [V x0,V x1,iv 0] [] [.t,.C,.x,.X,.Y] λc l o=>
 br (A9 0 c)
 (dk [.B,.N,.E] [.l l,.o o] λb=>
 some ((bv b,[])))
 (br (A9 1 c)
 (Fe l<|
 CZ o<|
 some ((bv true,[])))
 (none)))
 (some ((bv false,[]))):=by kernel_rfl
theorem QY(t0 t1:Rw)(t5:Int):Di A D Al NL .n 258 0 (AL Wr 0).fst (AL Wr 0).snd [V t0,V t1,iv t5] [] =
 br (A.lt t5 ↑(AQ t0))
 (unI t5 λi=>
 Bh t0 i λcs=>
 dk [.J .u32,.N] [.l cs] λn=>
 unI t5 λi1=>
 Bh t1 i1 λcs1=>
 dk [.J .u32,.N] [.l cs1] λn1=>
 br (A.eq n n1)
 (AE D (ι 258 0) [V t0,V t1,iv (A.add U t5 1)] [] λr o=>
 AD 0 [] (AH.mk [] 0 none) [] r o)
 (some ((ψ [bv true,bv false],[]))))
 (some ((ψ [iv 0],[]))):=by kernel_rfl
end
section
open Go.RowKit
def AhZ:MFn:=Bm [] 180
def AgV:Hnt:=⟨[(177,(.ls,[]))],[],[]⟩
def AhY:MFn:=Bm [] 179
def AgU:Hnt:=⟨[(180,(.agg [.bool,.ls],[]))],[],[(4,[.bool]),(6,[.ls])]⟩
def AhB:MFn:=Bm [] 119
def Agy:Hnt:=⟨[(180,(.agg [.bool,.ls],[])),(181,(.ls,[]))],[],[]⟩
def Ahz:MFn:=Bm [] 116
def Agw:Hnt:=⟨[(177,(.ls,[]))],[],[(4,[.ls]),(9,[.bool])]⟩
def AhE:MFn:=Bm [] 123
def AgB:Hnt:=⟨[(180,(.agg [.bool,.ls],[]))],[],[(4,[.bool]),(7,[.ls])]⟩
def AhF:MFn:=Bm [] 124
def AaM:Hnt:=⟨[(116,(.int .i64,[])),(124,(.agg [.bool,.ls],[])),(180,(.agg [.bool,.ls],[])),(181,(.ls,[])),(184,(.tup [.ls,.bool],[]))],[],[(7,[.bool,.ls]),(11,[.bool,.ls]),(16,[.ls]),(18,[.ls]),(21,[.bool,.ls]),(25,[.bool,.ls]),(30,[.ls]),(32,[.ls]),(35,[.bool,.ls]),(38,[.bool,.ls]),(39,[.bool,.ls]),(43,[.ls]),(45,[.ls]),(54,[.ls]),(56,[.ls])]⟩
def AhA:MFn:=Bm [] 118
def Agx:Hnt:=⟨[(123,(.agg [.bool,.ls],[])),(124,(.agg [.bool,.ls],[]))],[],[(5,[.bool,.ls]),(6,[.bool,.ls])]⟩
def AhD:MFn:=Bm [] 122
def AgA:Hnt:=⟨[(116,(.int .i64,[])),(180,(.agg [.bool,.ls],[])),(183,(.ls,[]))],[],[(5,[.bool,.ls]),(7,[.bool,.ls]),(12,[.ls]),(14,[.ls])]⟩
def Amn:MFn:=Bm [] 67
def Alb:Hnt:=⟨[(116,(.int .i64,[])),(118,(.agg [.bool,.ls],[]))],[],[(5,[.bool,.ls]),(6,[.bool,.ls])]⟩
def AhC:MFn:=Bm [] 120
def Agz:Hnt:=⟨[(180,(.agg [.bool,.ls],[])),(182,(.tup [.ls,.int .i64],[]))],[],[]⟩
def Aif:MFn:=Bm [] 238
def Aha:Hnt:=⟨[(258,(.bool,[]))],[],[(6,[.bool]),(8,[.bool]),(12,[.ls]),(14,[.ls])]⟩
def TJ:List (Nat × MFn):=[(180,AhZ),(179,AhY),(119,AhB),(116,Ahz),(123,AhE),(124,AhF),(118,AhA),(122,AhD),(67,Amn),(120,AhC),(238,Aif)]
variable (A:Ar) (D:Orc)
theorem AnF(x0:Bool)(x1:Rw):By A D Al AgV .n 180 AhZ [bv x0,V x1] [] =
 Ad D (Ω 177) [V x1] [] [.l,.E] λxs=>
 br (A.eq (↑(AQ xs)) 0)
 (some ((Ξ [bv false,V []],[])))
 (some ((Ξ [bv x0,V xs],[]))):=by kernel_rfl
theorem AnE(x0_0:Bool)(x0_1:Rw):By A D Al AgU .n 179 AhY [Ξ [bv x0_0,V x0_1]] [] =
 Ad D (Ω 180) [bv x0_0,V x0_1] [] [.a,.B,.L,.N,.E] λb xs=>
 some ((Ξ [bv b,V xs],[])):=by kernel_rfl
theorem Am9(x0:Int):By A D Al Agy (.b (.b (.b .n (.f .n)) .n) (.b .n (.b .n (.f .n)))) 119 AhB [iv x0] [] =
 br (A.le 0 x0)
 (br (A.eq 4294967296 0)
 (none)
 (br (A.eq 4294967296 0) none (AE D (Ω 180) [bv false,V [[ApB (Value.int θ (A.conv θ (A.rem U x0 4294967296)))],[ApB (Value.int θ (A.conv θ (A.quo U x0 4294967296)))]]] [] λr o=>
 dk [.a,.B,.L,.N,.E] [.v r,.o o] λb xs=>
 some ((Ξ [bv b,V xs],[])))))
 (br (A.eq 4294967296 0)
 (none)
 (br (A.eq 4294967296 0) none (AE D (Ω 181) [V [[ApB (Value.int θ (A.conv θ (A.rem U (A.sub U 0 (A.add U x0 1)) 4294967296)))],[ApB (Value.int θ (A.conv θ (A.quo U (A.sub U 0 (A.add U x0 1)) 4294967296)))]],V [[ApB (Value.int θ 1)]]] [] λr o=>
 LK r λxs=>
 CZ o<|
 Ad D (Ω 180) [bv true,V xs] [] [.a,.B,.L,.N,.E] λb xs1=>
 some ((Ξ [bv b,V xs1],[]))))):=by kernel_rfl
theorem Am6(x0_0:Bool)(x0_1:Rw):By A D Al Agw .n 116 Ahz [Ξ [bv x0_0,V x0_1]] [] =
 Ad D (Ω 177) [V x0_1] [] [.l,.E] λxs=>
 br (A.eq (↑(AQ xs)) 0)
 (some ((iv 0,[])))
 (br x0_0
 (some ((iv (-1),[])))
 (some ((iv 1,[])))):=by kernel_rfl
theorem Ane(x0_0:Bool)(x0_1:Rw):By A D Al AgB .n 123 AhE [Ξ [bv x0_0,V x0_1]] [] =
 br (A.not x0_0)
 (Ad D (Ω 180) [bv true,V x0_1] [] [.a,.B,.L,.N,.E] λb xs=>
 some ((Ξ [bv b,V xs],[])))
 (Ad D (Ω 180) [bv false,V x0_1] [] [.a,.B,.L,.N,.E] λb xs=>
 some ((Ξ [bv b,V xs],[]))):=by kernel_rfl
theorem AkE(x0_0:Bool)(x0_1:Rw)(x1_0:Bool)(x1_1:Rw):By A D Al AaM .n 124 AhF [Ξ [bv x0_0,V x0_1],Ξ [bv x1_0,V x1_1]] [] =
 Ad D (Ω 116) [Ξ [bv x0_0,V x0_1]] [] [.i,.E] λn=>
 br (A.lt n 0)
 (Ad D (Ω 116) [Ξ [bv x1_0,V x1_1]] [] [.i,.E] λn1=>
 br (A.lt n1 0)
 (Ad D (Ω 181) [V x0_1,V x1_1] [] [.l,.E] λxs=>
 Ad D (Ω 180) [bv true,V xs] [] [.a,.B,.L,.N,.E] λb xs1=>
 some ((Ξ [bv b,V xs1],[])))
 (Ad D (Ω 116) [Ξ [bv x0_0,V x0_1]] [] [.i,.E] λn2=>
 br (A.le 0 n2)
 (Ad D (Ω 116) [Ξ [bv x1_0,V x1_1]] [] [.i,.E] λn3=>
 br (A.le 0 n3)
 (Ad D (Ω 181) [V x0_1,V x1_1] [] [.l,.E] λxs=>
 Ad D (Ω 180) [bv false,V xs] [] [.a,.B,.L,.N,.E] λb xs1=>
 some ((Ξ [bv b,V xs1],[])))
 (Ad D (Ω 116) [Ξ [bv x0_0,V x0_1]] [] [.i,.E] λn4=>
 br (A.lt n4 0)
 (Ad D (Ω 124) [Ξ [bv x1_0,V x1_1],Ξ [bv x0_0,V x0_1]] [] [.a,.B,.L,.N,.E] λb xs=>
 some ((Ξ [bv b,V xs],[])))
 (Ad D (Ω 184) [V x0_1,V x1_1] [] [.t,.L,.B,.N,.E] λxs b=>
 br b
 (Ad D (Ω 180) [bv false,V xs] [] [.a,.B,.L,.N,.E] λb1 xs1=>
 some ((Ξ [bv b1,V xs1],[])))
 (Ad D (Ω 184) [V x1_1,V x0_1] [] [.t,.L,.B,.N,.E] λxs1 _=>
 Ad D (Ω 180) [bv true,V xs1] [] [.a,.B,.L,.N,.E] λb2 xs2=>
 some ((Ξ [bv b2,V xs2],[]))))))
 (Ad D (Ω 116) [Ξ [bv x0_0,V x0_1]] [] [.i,.E] λn3=>
 br (A.lt n3 0)
 (Ad D (Ω 124) [Ξ [bv x1_0,V x1_1],Ξ [bv x0_0,V x0_1]] [] [.a,.B,.L,.N,.E] λb xs=>
 some ((Ξ [bv b,V xs],[])))
 (Ad D (Ω 184) [V x0_1,V x1_1] [] [.t,.L,.B,.N,.E] λxs b=>
 br b
 (Ad D (Ω 180) [bv false,V xs] [] [.a,.B,.L,.N,.E] λb1 xs1=>
 some ((Ξ [bv b1,V xs1],[])))
 (Ad D (Ω 184) [V x1_1,V x0_1] [] [.t,.L,.B,.N,.E] λxs1 _=>
 Ad D (Ω 180) [bv true,V xs1] [] [.a,.B,.L,.N,.E] λb2 xs2=>
 some ((Ξ [bv b2,V xs2],[])))))))
 (Ad D (Ω 116) [Ξ [bv x0_0,V x0_1]] [] [.i,.E] λn1=>
 br (A.le 0 n1)
 (Ad D (Ω 116) [Ξ [bv x1_0,V x1_1]] [] [.i,.E] λn2=>
 br (A.le 0 n2)
 (Ad D (Ω 181) [V x0_1,V x1_1] [] [.l,.E] λxs=>
 Ad D (Ω 180) [bv false,V xs] [] [.a,.B,.L,.N,.E] λb xs1=>
 some ((Ξ [bv b,V xs1],[])))
 (Ad D (Ω 116) [Ξ [bv x0_0,V x0_1]] [] [.i,.E] λn3=>
 br (A.lt n3 0)
 (Ad D (Ω 124) [Ξ [bv x1_0,V x1_1],Ξ [bv x0_0,V x0_1]] [] [.a,.B,.L,.N,.E] λb xs=>
 some ((Ξ [bv b,V xs],[])))
 (Ad D (Ω 184) [V x0_1,V x1_1] [] [.t,.L,.B,.N,.E] λxs b=>
 br b
 (Ad D (Ω 180) [bv false,V xs] [] [.a,.B,.L,.N,.E] λb1 xs1=>
 some ((Ξ [bv b1,V xs1],[])))
 (Ad D (Ω 184) [V x1_1,V x0_1] [] [.t,.L,.B,.N,.E] λxs1 _=>
 Ad D (Ω 180) [bv true,V xs1] [] [.a,.B,.L,.N,.E] λb2 xs2=>
 some ((Ξ [bv b2,V xs2],[]))))))
 (Ad D (Ω 116) [Ξ [bv x0_0,V x0_1]] [] [.i,.E] λn2=>
 br (A.lt n2 0)
 (Ad D (Ω 124) [Ξ [bv x1_0,V x1_1],Ξ [bv x0_0,V x0_1]] [] [.a,.B,.L,.N,.E] λb xs=>
 some ((Ξ [bv b,V xs],[])))
 (Ad D (Ω 184) [V x0_1,V x1_1] [] [.t,.L,.B,.N,.E] λxs b=>
 br b
 (Ad D (Ω 180) [bv false,V xs] [] [.a,.B,.L,.N,.E] λb1 xs1=>
 some ((Ξ [bv b1,V xs1],[])))
 (Ad D (Ω 184) [V x1_1,V x0_1] [] [.t,.L,.B,.N,.E] λxs1 _=>
 Ad D (Ω 180) [bv true,V xs1] [] [.a,.B,.L,.N,.E] λb2 xs2=>
 some ((Ξ [bv b2,V xs2],[])))))):=by kernel_rfl
theorem Am8(x0_0:Bool)(x0_1:Rw)(x1_0:Bool)(x1_1:Rw):By A D Al Agx .n 118 AhA [Ξ [bv x0_0,V x0_1],Ξ [bv x1_0,V x1_1]] [] =
 Ad D (Ω 123) [Ξ [bv x1_0,V x1_1]] [] [.a,.B,.L,.N,.E] λb xs=>
 Ad D (Ω 124) [Ξ [bv x0_0,V x0_1],Ξ [bv b,V xs]] [] [.a,.B,.L,.N,.E] λb1 xs1=>
 some ((Ξ [bv b1,V xs1],[])):=by kernel_rfl
theorem Anc(x0_0:Bool)(x0_1:Rw)(x1_0:Bool)(x1_1:Rw):By A D Al AgA .n 122 AhD [Ξ [bv x0_0,V x0_1],Ξ [bv x1_0,V x1_1]] [] =
 Ad D (Ω 116) [Ξ [bv x0_0,V x0_1]] [] [.i,.E] λn=>
 Ad D (Ω 116) [Ξ [bv x1_0,V x1_1]] [] [.i,.E] λn1=>
 br (A.lt (A.mul U n n1) 0)
 (Ad D (Ω 183) [V x0_1,V x1_1] [] [.l,.E] λxs=>
 Ad D (Ω 180) [bv true,V xs] [] [.a,.B,.L,.N,.E] λb xs1=>
 some ((Ξ [bv b,V xs1],[])))
 (Ad D (Ω 183) [V x0_1,V x1_1] [] [.l,.E] λxs=>
 Ad D (Ω 180) [bv false,V xs] [] [.a,.B,.L,.N,.E] λb xs1=>
 some ((Ξ [bv b,V xs1],[]))):=by kernel_rfl
theorem e67(x0_0:Bool)(x0_1:Rw)(x1_0:Bool)(x1_1:Rw):By A D Al Alb .n 67 Amn [Ξ [bv x0_0,V x0_1],Ξ [bv x1_0,V x1_1]] [] =
 Ad D (Ω 118) [Ξ [bv x0_0,V x0_1],Ξ [bv x1_0,V x1_1]] [] [.a,.B,.L,.N,.E] λb xs=>
 Ad D (Ω 116) [Ξ [bv b,V xs]] [] [.i,.E] λn=>
 some ((iv n,[])):=by kernel_rfl
theorem Ana(x0:ByteArray):By A D Al Agz .n 120 AhC [sv x0] [] =
 br (A.lt 0 ↑(A.slen x0))
 (br (Nat.blt 0 (A.slen x0)) (br (A.eq (A.sat x0 0) 45)
 (br (J1 1 (A.slen x0) (A.slen x0)) (AE D (Ω 182) [sv (A.ssub x0 1 (A.slen x0))] [] λr o=>
 dk [.t,.L,.I,.N,.E] [.v r,.o o] λxs n=>
 br (A.eq n 0)
 (Ad D (Ω 180) [bv true,V xs] [] [.a,.B,.L,.N,.E] λb xs1=>
 some ((ψ [Ξ [bv b,V xs1],iv 0],[])))
 (some ((ψ [Ξ [bv false,V []],iv n],[])))) none)
 (Ad D (Ω 182) [sv x0] [] [.t,.L,.I,.N,.E] λxs n=>
 br (A.eq n 0)
 (Ad D (Ω 180) [bv false,V xs] [] [.a,.B,.L,.N,.E] λb xs1=>
 some ((ψ [Ξ [bv b,V xs1],iv 0],[])))
 (some ((ψ [Ξ [bv false,V []],iv n],[]))))) none)
 (Ad D (Ω 182) [sv x0] [] [.t,.L,.I,.N,.E] λxs n=>
 br (A.eq n 0)
 (Ad D (Ω 180) [bv false,V xs] [] [.a,.B,.L,.N,.E] λb xs1=>
 some ((ψ [Ξ [bv b,V xs1],iv 0],[])))
 (some ((ψ [Ξ [bv false,V []],iv n],[])))):=by kernel_rfl
theorem An6(x0_0:Bool)(x0_1:Rw)(x1_0:Bool)(x1_1:Rw):By A D Al Aha .n 238 Aif [Ξ [bv x0_0,V x0_1],Ξ [bv x1_0,V x1_1]] [] =
 br (A.beq x0_0 x1_0)
 (Ad D (Ω 258) [V x0_1,V x1_1] [] [.b,.E] λb=>
 br b
 (some ((bv true,[])))
 (some ((bv false,[]))))
 (some ((bv false,[]))):=by kernel_rfl
end
section
open Go.RowKit
def Alp:A3:=[⟨36,[false,true,true,false,true,true,true],[],[2,4,5],[(1,([false,false,false,false,true,true],([],[2])))]⟩]
def We:MFn:=Bm Alp 178
def Ss:Hnt:=⟨[(124,(.agg [.bool,.ls],[]))],[(0,[(1,([.ptr 1 0,.ptr 2 0],[.del,.box [.bool,.ls],.box [.bool,.ls]]))])],[(10,[.ls]),(16,[.ls]),(18,[.int .i64,.bool,.ls]),(20,[.int .i64]),(27,[.bool,.ls]),(29,[.ls]),(31,[.int .i64,.bool,.ls]),(33,[.bool,.ls]),(35,[.bool,.ls])]⟩
def Alh:A3:=[⟨27,[false,true,true,false,true,true,true],[],[2,4,5],[(1,([false,false,false,false,true,true],([],[2])))]⟩]
def V8:MFn:=Bm Alh 117
def Sn:Hnt:=⟨[(122,(.agg [.bool,.ls],[])),(124,(.agg [.bool,.ls],[])),(178,(.agg [.bool,.ls],[])),(179,(.agg [.bool,.ls],[]))],[(0,[(1,([.ptr 1 0,.ptr 2 0],[.del,.box [.bool,.ls],.box [.bool,.ls]]))])],[(8,[.bool,.ls]),(15,[.bool,.ls]),(16,[.ls,.bool,.ls]),(21,[.bool,.ls]),(22,[.bool,.ls]),(25,[.bool,.ls])]⟩
def Amm:MFn:=Bm [] 66
def Ala:Hnt:=⟨[(116,(.int .i64,[])),(117,(.agg [.bool,.ls],[]))],[],[(7,[.ls,.bool,.ls]),(12,[.bool])]⟩
def AoD:A3:=[⟨26,[true,false,true,false,false,false,false,true],[],[],[(0,([false,false,false,false,false,false,true],([],[]))),(1,([],([],[])))]⟩]
def AoS:MFn:=Bm AoD 26
def AoE:A3:=[⟨65,[false,true,true,false,false,true],[],[2],[(0,([false,false,false,false,true],([],[2]))),(2,([],([],[2])))]⟩,⟨65,[false,true,true,false,false,false,true],[],[2],[(0,([false,false,false,false,true],([],[2]))),(4,([],([],[2])))]⟩]
def Ya:MFn:=Bm AoE 28
def SF:Hnt:=⟨[(28,(.bool,[])),(66,(.bool,[]))],[(0,[(0,([.bool],[.del])),(2,([],[.del]))]),(1,[(0,([.bool],[.del])),(4,([],[.del]))])],[(8,[.int .i64]),(14,[.ls,.bool,.ls,.bool]),(20,[.ls]),(25,[.ls]),(26,[.int .i64,.ls,.bool,.ls,.bool,.ls]),(27,[.int .i64,.ls,.bool,.ls,.bool,.ls]),(36,[.ls]),(42,[.ls]),(44,[.int .i64,.ls,.bool,.ls,.bool,.ls]),(45,[.int .i64,.ls,.bool,.ls,.bool,.ls]),(53,[.ls]),(59,[.ls]),(61,[.int .i64,.ls,.bool,.ls,.bool,.ls]),(62,[.int .i64,.ls,.bool,.ls,.bool,.ls])]⟩
def Qe:List (Nat × MFn):=[(178,We),(117,V8),(66,Amm),(26,AoS),(28,Ya)]
variable (A:Ar) (D:Orc)
theorem AnD(x0_0:Rw)(x0_1:Bool)(x0_2:Rw)(x1:Int):By A D Al Ss .n 178 We [Ξ [V x0_0,bv x0_1,V x0_2],iv x1] [] =
 Ad D (ι 178 0) [iv x1,η 0 0,η 1 0,η 2 0,iv 0] [bk [V x0_0,bv x0_1,V x0_2],bk [bv false,V []],bk [bv false,V []]] [.t,.C,.x,.X,.Y] λc l o=>
 br (A9 1 c)
 (dk [.P 1 0,.P 2 0,.N,.D,.T,.B,.L,.N,.T,.B,.L,.N,.E] [.l l,.o o] λ_ _ b1 xs1=>
 some ((Ξ [bv b1,V xs1],[])))
 (none):=by kernel_rfl
theorem ZZ(t1:Int)(b2_0:Rw)(b2_1:Bool)(b2_2:Rw)(b4_0:Bool)(b4_1:Rw)(b5_0:Bool)(b5_1:Rw)(t6:Int):Di A D Al Ss .n 178 0 (AL We 0).fst (AL We 0).snd [iv t1,η 0 0,η 1 0,η 2 0,iv t6] [bk [V b2_0,bv b2_1,V b2_2],bk [bv b4_0,V b4_1],bk [bv b5_0,V b5_1]] =
 br (A.lt t6 ↑(AQ b2_0))
 (unI t6 λi=>
 Bh b2_0 i λcs=>
 dk [.I,.B,.L,.N] [.l cs] λn _ _=>
 br (A.eq n t1)
 (br (A.le 0 t1)
 (unI t6 λi1=>
 Bh b2_0 i1 λcs1=>
 dk [.I,.B,.L,.N] [.l cs1] λ_ b1 xs1=>
 Ad D (Ω 124) [Ξ [bv b5_0,V b5_1],Ξ [bv b1,V xs1]] [] [.a,.B,.L,.N,.E] λb2 xs2=>
 AE D (ι 178 0) [iv t1,η 0 0,η 1 0,η 2 0,iv (A.add U t6 1)] [bk [V b2_0,bv b2_1,V b2_2],bk [bv b4_0,V b4_1],bk [bv b2,V xs2]] λr1 o1=>
 AD 3 [0,1,2] (AH.mk [(2,bk [bv b2,V xs2]),(1,bk [bv b4_0,V b4_1]),(0,bk [V b2_0,bv b2_1,V b2_2])] 3 none) [0,1,2] r1 o1)
 (AE D (ι 178 0) [iv t1,η 0 0,η 1 0,η 2 0,iv (A.add U t6 1)] [bk [V b2_0,bv b2_1,V b2_2],bk [bv b4_0,V b4_1],bk [bv b5_0,V b5_1]] λr o=>
 AD 3 [0,1,2] (AH.mk [(2,bk [bv b5_0,V b5_1]),(1,bk [bv b4_0,V b4_1]),(0,bk [V b2_0,bv b2_1,V b2_2])] 3 none) [0,1,2] r o))
 (AE D (ι 178 0) [iv t1,η 0 0,η 1 0,η 2 0,iv (A.add U t6 1)] [bk [V b2_0,bv b2_1,V b2_2],bk [bv b4_0,V b4_1],bk [bv b5_0,V b5_1]] λr o=>
 AD 3 [0,1,2] (AH.mk [(2,bk [bv b5_0,V b5_1]),(1,bk [bv b4_0,V b4_1]),(0,bk [V b2_0,bv b2_1,V b2_2])] 3 none) [0,1,2] r o))
 (some ((ψ [iv 0,η 1 0,η 2 0],[BO.del,γ (bk [bv b4_0,V b4_1]),γ (bk [bv b5_0,V b5_1])]))):=by kernel_rfl
theorem Am7(x0_0:Rw)(x0_1:Bool)(x0_2 x1:Rw):By A D Al Sn .n 117 V8 [Ξ [V x0_0,bv x0_1,V x0_2],V x1] [] =
 Ad D (ι 117 0) [V x1,η 0 0,η 1 0,η 2 0,iv 0] [bk [V x0_0,bv x0_1,V x0_2],bk [bv false,V []],bk [bv x0_1,V x0_2]] [.t,.C,.x,.X,.Y] λc l o=>
 br (A9 1 c)
 (dk [.P 1 0,.P 2 0,.N,.D,.T,.B,.L,.N,.T,.B,.L,.N,.E] [.l l,.o o] λ_ _ b1 xs1=>
 Ad D (Ω 179) [Ξ [bv b1,V xs1]] [] [.a,.B,.L,.N,.E] λb2 xs2=>
 some ((Ξ [bv b2,V xs2],[])))
 (none):=by kernel_rfl
theorem ZS(t1 b2_0:Rw)(b2_1:Bool)(b2_2:Rw)(b4_0:Bool)(b4_1:Rw)(b5_0:Bool)(b5_1:Rw)(t6:Int):Di A D Al Sn .n 117 0 (AL V8 0).fst (AL V8 0).snd [V t1,η 0 0,η 1 0,η 2 0,iv t6] [bk [V b2_0,bv b2_1,V b2_2],bk [bv b4_0,V b4_1],bk [bv b5_0,V b5_1]] =
 br (A.lt t6 ↑(AQ t1))
 (Ad D (Ω 178) [Ξ [V b2_0,bv b2_1,V b2_2],iv t6] [] [.a,.B,.L,.N,.E] λb xs=>
 unI t6 λi=>
 Bh t1 i λcs1=>
 dk [.B,.L,.N] [.l cs1] λb1 xs1=>
 Ad D (Ω 122) [Ξ [bv b,V xs],Ξ [bv b1,V xs1]] [] [.a,.B,.L,.N,.E] λb2 xs2=>
 Ad D (Ω 124) [Ξ [bv b5_0,V b5_1],Ξ [bv b2,V xs2]] [] [.a,.B,.L,.N,.E] λb3 xs3=>
 AE D (ι 117 0) [V t1,η 0 0,η 1 0,η 2 0,iv (A.add U t6 1)] [bk [V b2_0,bv b2_1,V b2_2],bk [bv b4_0,V b4_1],bk [bv b3,V xs3]] λr3 o3=>
 AD 3 [0,1,2] (AH.mk [(2,bk [bv b3,V xs3]),(1,bk [bv b4_0,V b4_1]),(0,bk [V b2_0,bv b2_1,V b2_2])] 3 none) [0,1,2] r3 o3)
 (some ((ψ [iv 0,η 1 0,η 2 0],[BO.del,γ (bk [bv b4_0,V b4_1]),γ (bk [bv b5_0,V b5_1])]))):=by kernel_rfl
theorem e66(x0_0:Rw)(x0_1:Bool)(x0_2:Rw)(x0_3:Bool)(x1:Rw):By A D Al Ala .n 66 Amm [Ξ [V x0_0,bv x0_1,V x0_2,bv x0_3],V x1] [] =
 Ad D (Ω 117) [Ξ [V x0_0,bv x0_1,V x0_2],V x1] [] [.a,.B,.L,.N,.E] λb xs=>
 Ad D (Ω 116) [Ξ [bv b,V xs]] [] [.i,.E] λn=>
 br x0_3
 (br (A.eq n 0)
 (some ((bv true,[])))
 (some ((bv false,[]))))
 (br (A.le 0 n)
 (some ((bv true,[])))
 (some ((bv false,[])))):=by kernel_rfl
theorem e28(x0_0:Int)(x0_1:Rw)(x0_2:Bool)(x0_3:Rw)(x0_4:Bool)(x0_5 x1:Rw):By A D Al SF .n 28 Ya [Ξ [iv x0_0,V x0_1,bv x0_2,V x0_3,bv x0_4,V x0_5],V x1] [] =
 br (A.eq x0_0 0)
 (some ((bv true,[])))
 (br (A.eq x0_0 2)
 (Ad D (Ω 66) [Ξ [V x0_1,bv x0_2,V x0_3,bv x0_4],V x1] [] [.b,.E] λb=>
 br b
 (some ((bv true,[])))
 (some ((bv false,[]))))
 (br (A.eq x0_0 3)
 (br (A.lt 0 ↑(AQ x0_5))
 (Bh x0_5 0 λcs=>
 dk [.I,.L,.B,.L,.B,.L,.N] [.l cs] λn xs b xs1 b1 xs2=>
 Ad D (Ω 28) [Ξ [iv n,V xs,bv b,V xs1,bv b1,V xs2],V x1] [] [.b,.E] λb2=>
 br b2
 (some ((bv false,[])))
 (some ((bv true,[]))))
 (some ((bv false,[]))))
 (br (A.eq x0_0 4)
 (Ad D (ι 28 0) [V x1,η 0 0,iv 0] [bk [iv x0_0,V x0_1,bv x0_2,V x0_3,bv x0_4,V x0_5]] [.t,.C,.x,.X,.Y] λc l o=>
 br (A9 0 c)
 (dk [.B,.N,.D,.E] [.l l,.o o] λb=>
 some ((bv b,[])))
 (br (A9 2 c)
 (dk [.N,.D,.E,.w] [.l l,.o o] λ_=>
 some ((bv true,[])))
 (none)))
 (br (A.eq x0_0 5)
 (Ad D (ι 28 1) [V x1,η 0 0,iv 0] [bk [iv x0_0,V x0_1,bv x0_2,V x0_3,bv x0_4,V x0_5]] [.t,.C,.x,.X,.Y] λc l o=>
 br (A9 0 c)
 (dk [.B,.N,.D,.E] [.l l,.o o] λb=>
 some ((bv b,[])))
 (br (A9 4 c)
 (dk [.N,.D,.E,.w] [.l l,.o o] λ_=>
 some ((bv false,[])))
 (none)))
 (some ((bv false,[]))))))):=by kernel_rfl
theorem Af9(t1:Rw)(b2_0:Int)(b2_1:Rw)(b2_2:Bool)(b2_3:Rw)(b2_4:Bool)(b2_5:Rw)(t5:Int):Di A D Al SF .n 28 0 (AL Ya 0).fst (AL Ya 0).snd [V t1,η 0 0,iv t5] [bk [iv b2_0,V b2_1,bv b2_2,V b2_3,bv b2_4,V b2_5]] =
 br (A.lt t5 ↑(AQ b2_5))
 (unI t5 λi=>
 Bh b2_5 i λcs=>
 dk [.I,.L,.B,.L,.B,.L,.N] [.l cs] λn xs b xs1 b1 xs2=>
 Ad D (Ω 28) [Ξ [iv n,V xs,bv b,V xs1,bv b1,V xs2],V t1] [] [.b,.E] λb2=>
 br b2
 (AE D (ι 28 0) [V t1,η 0 0,iv (A.add U t5 1)] [bk [iv b2_0,V b2_1,bv b2_2,V b2_3,bv b2_4,V b2_5]] λr1 o1=>
 AD 1 [0] (AH.mk [(0,bk [iv b2_0,V b2_1,bv b2_2,V b2_3,bv b2_4,V b2_5])] 1 none) [0] r1 o1)
 (some ((ψ [bv true,bv false],[BO.del]))))
 (some ((ψ [iv 1],[BO.del]))):=by kernel_rfl
theorem Aga(t1:Rw)(b2_0:Int)(b2_1:Rw)(b2_2:Bool)(b2_3:Rw)(b2_4:Bool)(b2_5:Rw)(t6:Int):Di A D Al SF .n 28 1 (AL Ya 1).fst (AL Ya 1).snd [V t1,η 0 0,iv t6] [bk [iv b2_0,V b2_1,bv b2_2,V b2_3,bv b2_4,V b2_5]] =
 br (A.lt t6 ↑(AQ b2_5))
 (unI t6 λi=>
 Bh b2_5 i λcs=>
 dk [.I,.L,.B,.L,.B,.L,.N] [.l cs] λn xs b xs1 b1 xs2=>
 Ad D (Ω 28) [Ξ [iv n,V xs,bv b,V xs1,bv b1,V xs2],V t1] [] [.b,.E] λb2=>
 br b2
 (some ((ψ [bv true,bv true],[BO.del])))
 (AE D (ι 28 1) [V t1,η 0 0,iv (A.add U t6 1)] [bk [iv b2_0,V b2_1,bv b2_2,V b2_3,bv b2_4,V b2_5]] λr1 o1=>
 AD 1 [0] (AH.mk [(0,bk [iv b2_0,V b2_1,bv b2_2,V b2_3,bv b2_4,V b2_5])] 1 none) [0] r1 o1))
 (some ((ψ [iv 3],[BO.del]))):=by kernel_rfl
end
section
open Go.RowKit
def AoK:A3:=[⟨73,[true,true,true,false,false,false,true,true,true],[],[6,7],[(1,([false,false,false,false,false,false,true,true],([],[])))]⟩]
def Aez:MFn:=Bm AoK 68
def AaU:Hnt:=⟨[(119,(.agg [.bool,.ls],[])),(120,(.tup [.agg [.bool,.ls],.int .i64],[])),(121,(.int .i64,[])),(122,(.agg [.bool,.ls],[])),(123,(.agg [.bool,.ls],[])),(124,(.agg [.bool,.ls],[]))],[(0,[(1,([.ptr 0 0,.ptr 1 0],[.box [.bool,.ls],.box [.bool,.ls]]))])],[(21,[.bool,.str,.str]),(23,[.str]),(28,[.bool,.str,.str]),(30,[.str]),(36,[.bool,.str,.str]),(38,[.str]),(43,[.bool,.str,.str]),(45,[.str]),(56,[.bool,.ls]),(59,[.bool,.ls]),(60,[.bool,.ls]),(64,[.bool,.str,.str]),(66,[.bool]),(67,[.bool,.ls]),(69,[.bool,.ls]),(70,[.bool,.ls]),(72,[.bool,.ls])]⟩
def Amb:MFn:=Bm [] 29
def XO:Hnt:=⟨[(29,(.bool,[])),(67,(.int .i64,[])),(68,(.agg [.bool,.ls],[]))],[],[(9,[.int .i64]),(15,[.ls]),(20,[.ls]),(26,[.int .i64]),(52,[.ls]),(53,[.int .i64,.ls,.ls,.int .i64,.str,.str,.ls]),(54,[.int .i64,.ls,.ls,.int .i64,.str,.str,.ls]),(62,[.ls]),(63,[.int .i64,.ls,.ls,.int .i64,.str,.str,.ls]),(64,[.int .i64,.ls,.ls,.int .i64,.str,.str,.ls]),(70,[.ls]),(71,[.int .i64,.ls,.ls,.int .i64,.str,.str,.ls]),(72,[.int .i64,.ls,.ls,.int .i64,.str,.str,.ls]),(80,[.ls]),(81,[.int .i64,.ls,.ls,.int .i64,.str,.str,.ls]),(82,[.int .i64,.ls,.ls,.int .i64,.str,.str,.ls]),(88,[.ls]),(89,[.int .i64,.ls,.ls,.int .i64,.str,.str,.ls]),(90,[.int .i64,.ls,.ls,.int .i64,.str,.str,.ls])]⟩
def Qf:List (Nat × MFn):=[(68,Aez),(29,Amb)]
variable (A:Ar) (D:Orc)
theorem e68(x0 x1 x2:Rw):By A D Al AaU .n 68 Aez [V x0,V x1,V x2] [] =
 Ad D (ι 68 0) [V x0,V x1,V x2,η 0 0,η 1 0,iv 0] [bk [bv false,V []],bk [bv false,V []]] [.t,.C,.x,.X,.Y] λc l o=>
 br (A9 1 c)
 (dk [.P 0 0,.P 1 0,.N,.T,.B,.L,.N,.T,.B,.L,.N,.E] [.l l,.o o] λ_ _ b1 xs1=>
 some ((Ξ [bv b1,V xs1],[])))
 (none):=by kernel_rfl
theorem Agf(t0 t1 t2:Rw)(b6_0:Bool)(b6_1:Rw)(b7_0:Bool)(b7_1:Rw)(t8:Int):Di A D Al AaU .n 68 0 (AL Aez 0).fst (AL Aez 0).snd [V t0,V t1,V t2,η 0 0,η 1 0,iv t8] [bk [bv b6_0,V b6_1],bk [bv b7_0,V b7_1]] =
 br (A.lt t8 ↑(AQ t0))
 (Ad D (Ω 119) [iv 1] [] [.a,.B,.L,.N,.E] λb xs=>
 unI t8 λi=>
 Bh t0 i λcs1=>
 dk [.B,.S,.S,.N] [.l cs1] λ_ s _=>
 br (A.seq s (Ax []))
 (unI t8 λi1=>
 Bh t0 i1 λcs2=>
 dk [.B,.S,.S,.N] [.l cs2] λ_ _ s3=>
 br (A.seq s3 (Ax []))
 (unI t8 λi2=>
 Bh t0 i2 λcs3=>
 dk [.B,.S,.S,.N] [.l cs3] λb3 _ _=>
 br b3
 (Ad D (Ω 123) [Ξ [bv b,V xs]] [] [.a,.B,.L,.N,.E] λb4 xs1=>
 Ad D (Ω 124) [Ξ [bv b7_0,V b7_1],Ξ [bv b4,V xs1]] [] [.a,.B,.L,.N,.E] λb5 xs2=>
 AE D (ι 68 0) [V t0,V t1,V t2,η 0 0,η 1 0,iv (A.add U t8 1)] [bk [bv b6_0,V b6_1],bk [bv b5,V xs2]] λr3 o3=>
 AD 2 [0,1] (AH.mk [(1,bk [bv b5,V xs2]),(0,bk [bv b6_0,V b6_1]),(2,bk [bv b4,V xs1])] 3 none) [0,1] r3 o3)
 (Ad D (Ω 124) [Ξ [bv b7_0,V b7_1],Ξ [bv b,V xs]] [] [.a,.B,.L,.N,.E] λb4 xs1=>
 AE D (ι 68 0) [V t0,V t1,V t2,η 0 0,η 1 0,iv (A.add U t8 1)] [bk [bv b6_0,V b6_1],bk [bv b4,V xs1]] λr2 o2=>
 AD 2 [0,1] (AH.mk [(1,bk [bv b4,V xs1]),(0,bk [bv b6_0,V b6_1]),(2,bk [bv b,V xs])] 3 none) [0,1] r2 o2))
 (unI t8 λi2=>
 Bh t0 i2 λcs3=>
 dk [.B,.S,.S,.N] [.l cs3] λ_ _ s5=>
 Ad D (Ω 121) [V t1,sv s5] [] [.i,.E] λn=>
 br (A.lt n 0)
 (unI t8 λi3=>
 Bh t0 i3 λcs4=>
 dk [.B,.S,.S,.N] [.l cs4] λb4 _ _=>
 br b4
 (Ad D (Ω 123) [Ξ [bv false,V []]] [] [.a,.B,.L,.N,.E] λb5 xs1=>
 Ad D (Ω 124) [Ξ [bv b7_0,V b7_1],Ξ [bv b5,V xs1]] [] [.a,.B,.L,.N,.E] λb6 xs2=>
 AE D (ι 68 0) [V t0,V t1,V t2,η 0 0,η 1 0,iv (A.add U t8 1)] [bk [bv b6_0,V b6_1],bk [bv b6,V xs2]] λr4 o4=>
 AD 2 [0,1] (AH.mk [(1,bk [bv b6,V xs2]),(0,bk [bv b6_0,V b6_1]),(2,bk [bv b5,V xs1])] 3 none) [0,1] r4 o4)
 (Ad D (Ω 124) [Ξ [bv b7_0,V b7_1],Ξ [bv false,V []]] [] [.a,.B,.L,.N,.E] λb5 xs1=>
 AE D (ι 68 0) [V t0,V t1,V t2,η 0 0,η 1 0,iv (A.add U t8 1)] [bk [bv b6_0,V b6_1],bk [bv b5,V xs1]] λr3 o3=>
 AD 2 [0,1] (AH.mk [(1,bk [bv b5,V xs1]),(0,bk [bv b6_0,V b6_1]),(2,bk [bv false,ApB (Value.slice none 0 0)])] 3 none) [0,1] r3 o3))
 (br (A.le (↑(AQ t2)) n)
 (unI t8 λi3=>
 Bh t0 i3 λcs4=>
 dk [.B,.S,.S,.N] [.l cs4] λb4 _ _=>
 br b4
 (Ad D (Ω 123) [Ξ [bv false,V []]] [] [.a,.B,.L,.N,.E] λb5 xs1=>
 Ad D (Ω 124) [Ξ [bv b7_0,V b7_1],Ξ [bv b5,V xs1]] [] [.a,.B,.L,.N,.E] λb6 xs2=>
 AE D (ι 68 0) [V t0,V t1,V t2,η 0 0,η 1 0,iv (A.add U t8 1)] [bk [bv b6_0,V b6_1],bk [bv b6,V xs2]] λr4 o4=>
 AD 2 [0,1] (AH.mk [(1,bk [bv b6,V xs2]),(0,bk [bv b6_0,V b6_1]),(2,bk [bv b5,V xs1])] 3 none) [0,1] r4 o4)
 (Ad D (Ω 124) [Ξ [bv b7_0,V b7_1],Ξ [bv false,V []]] [] [.a,.B,.L,.N,.E] λb5 xs1=>
 AE D (ι 68 0) [V t0,V t1,V t2,η 0 0,η 1 0,iv (A.add U t8 1)] [bk [bv b6_0,V b6_1],bk [bv b5,V xs1]] λr3 o3=>
 AD 2 [0,1] (AH.mk [(1,bk [bv b5,V xs1]),(0,bk [bv b6_0,V b6_1]),(2,bk [bv false,ApB (Value.slice none 0 0)])] 3 none) [0,1] r3 o3))
 (unI n λi3=>
 Bh t2 i3 λcs4=>
 dk [.B,.L,.N] [.l cs4] λb4 xs1=>
 Ad D (Ω 122) [Ξ [bv b,V xs],Ξ [bv b4,V xs1]] [] [.a,.B,.L,.N,.E] λb5 xs2=>
 unI t8 λi4=>
 Bh t0 i4 λcs6=>
 dk [.B,.S,.S,.N] [.l cs6] λb6 _ _=>
 br b6
 (Ad D (Ω 123) [Ξ [bv b5,V xs2]] [] [.a,.B,.L,.N,.E] λb7 xs3=>
 Ad D (Ω 124) [Ξ [bv b7_0,V b7_1],Ξ [bv b7,V xs3]] [] [.a,.B,.L,.N,.E] λb8 xs4=>
 AE D (ι 68 0) [V t0,V t1,V t2,η 0 0,η 1 0,iv (A.add U t8 1)] [bk [bv b6_0,V b6_1],bk [bv b8,V xs4]] λr5 o5=>
 AD 2 [0,1] (AH.mk [(1,bk [bv b8,V xs4]),(0,bk [bv b6_0,V b6_1]),(2,bk [bv b7,V xs3])] 3 none) [0,1] r5 o5)
 (Ad D (Ω 124) [Ξ [bv b7_0,V b7_1],Ξ [bv b5,V xs2]] [] [.a,.B,.L,.N,.E] λb7 xs3=>
 AE D (ι 68 0) [V t0,V t1,V t2,η 0 0,η 1 0,iv (A.add U t8 1)] [bk [bv b6_0,V b6_1],bk [bv b7,V xs3]] λr4 o4=>
 AD 2 [0,1] (AH.mk [(1,bk [bv b7,V xs3]),(0,bk [bv b6_0,V b6_1]),(2,bk [bv b5,V xs2])] 3 none) [0,1] r4 o4)))))
 (unI t8 λi1=>
 Bh t0 i1 λcs2=>
 dk [.B,.S,.S,.N] [.l cs2] λ_ s2 _=>
 Ad D (Ω 120) [sv s2] [] [.t,.A,.B,.L,.N,.I,.N,.E] λb3 xs1 _=>
 unI t8 λi2=>
 Bh t0 i2 λcs5=>
 dk [.B,.S,.S,.N] [.l cs5] λ_ _ s5=>
 br (A.seq s5 (Ax []))
 (unI t8 λi3=>
 Bh t0 i3 λcs6=>
 dk [.B,.S,.S,.N] [.l cs6] λb5 _ _=>
 br b5
 (Ad D (Ω 123) [Ξ [bv b3,V xs1]] [] [.a,.B,.L,.N,.E] λb6 xs2=>
 Ad D (Ω 124) [Ξ [bv b7_0,V b7_1],Ξ [bv b6,V xs2]] [] [.a,.B,.L,.N,.E] λb7 xs3=>
 AE D (ι 68 0) [V t0,V t1,V t2,η 0 0,η 1 0,iv (A.add U t8 1)] [bk [bv b6_0,V b6_1],bk [bv b7,V xs3]] λr4 o4=>
 AD 2 [0,1] (AH.mk [(1,bk [bv b7,V xs3]),(0,bk [bv b6_0,V b6_1]),(2,bk [bv b6,V xs2])] 3 none) [0,1] r4 o4)
 (Ad D (Ω 124) [Ξ [bv b7_0,V b7_1],Ξ [bv b3,V xs1]] [] [.a,.B,.L,.N,.E] λb6 xs2=>
 AE D (ι 68 0) [V t0,V t1,V t2,η 0 0,η 1 0,iv (A.add U t8 1)] [bk [bv b6_0,V b6_1],bk [bv b6,V xs2]] λr3 o3=>
 AD 2 [0,1] (AH.mk [(1,bk [bv b6,V xs2]),(0,bk [bv b6_0,V b6_1]),(2,bk [bv b3,V xs1])] 3 none) [0,1] r3 o3))
 (unI t8 λi3=>
 Bh t0 i3 λcs6=>
 dk [.B,.S,.S,.N] [.l cs6] λ_ _ s7=>
 Ad D (Ω 121) [V t1,sv s7] [] [.i,.E] λn1=>
 br (A.lt n1 0)
 (unI t8 λi4=>
 Bh t0 i4 λcs7=>
 dk [.B,.S,.S,.N] [.l cs7] λb6 _ _=>
 br b6
 (Ad D (Ω 123) [Ξ [bv false,V []]] [] [.a,.B,.L,.N,.E] λb7 xs2=>
 Ad D (Ω 124) [Ξ [bv b7_0,V b7_1],Ξ [bv b7,V xs2]] [] [.a,.B,.L,.N,.E] λb8 xs3=>
 AE D (ι 68 0) [V t0,V t1,V t2,η 0 0,η 1 0,iv (A.add U t8 1)] [bk [bv b6_0,V b6_1],bk [bv b8,V xs3]] λr5 o5=>
 AD 2 [0,1] (AH.mk [(1,bk [bv b8,V xs3]),(0,bk [bv b6_0,V b6_1]),(2,bk [bv b7,V xs2])] 3 none) [0,1] r5 o5)
 (Ad D (Ω 124) [Ξ [bv b7_0,V b7_1],Ξ [bv false,V []]] [] [.a,.B,.L,.N,.E] λb7 xs2=>
 AE D (ι 68 0) [V t0,V t1,V t2,η 0 0,η 1 0,iv (A.add U t8 1)] [bk [bv b6_0,V b6_1],bk [bv b7,V xs2]] λr4 o4=>
 AD 2 [0,1] (AH.mk [(1,bk [bv b7,V xs2]),(0,bk [bv b6_0,V b6_1]),(2,bk [bv false,ApB (Value.slice none 0 0)])] 3 none) [0,1] r4 o4))
 (br (A.le (↑(AQ t2)) n1)
 (unI t8 λi4=>
 Bh t0 i4 λcs7=>
 dk [.B,.S,.S,.N] [.l cs7] λb6 _ _=>
 br b6
 (Ad D (Ω 123) [Ξ [bv false,V []]] [] [.a,.B,.L,.N,.E] λb7 xs2=>
 Ad D (Ω 124) [Ξ [bv b7_0,V b7_1],Ξ [bv b7,V xs2]] [] [.a,.B,.L,.N,.E] λb8 xs3=>
 AE D (ι 68 0) [V t0,V t1,V t2,η 0 0,η 1 0,iv (A.add U t8 1)] [bk [bv b6_0,V b6_1],bk [bv b8,V xs3]] λr5 o5=>
 AD 2 [0,1] (AH.mk [(1,bk [bv b8,V xs3]),(0,bk [bv b6_0,V b6_1]),(2,bk [bv b7,V xs2])] 3 none) [0,1] r5 o5)
 (Ad D (Ω 124) [Ξ [bv b7_0,V b7_1],Ξ [bv false,V []]] [] [.a,.B,.L,.N,.E] λb7 xs2=>
 AE D (ι 68 0) [V t0,V t1,V t2,η 0 0,η 1 0,iv (A.add U t8 1)] [bk [bv b6_0,V b6_1],bk [bv b7,V xs2]] λr4 o4=>
 AD 2 [0,1] (AH.mk [(1,bk [bv b7,V xs2]),(0,bk [bv b6_0,V b6_1]),(2,bk [bv false,ApB (Value.slice none 0 0)])] 3 none) [0,1] r4 o4))
 (unI n1 λi4=>
 Bh t2 i4 λcs7=>
 dk [.B,.L,.N] [.l cs7] λb6 xs2=>
 Ad D (Ω 122) [Ξ [bv b3,V xs1],Ξ [bv b6,V xs2]] [] [.a,.B,.L,.N,.E] λb7 xs3=>
 unI t8 λi5=>
 Bh t0 i5 λcs9=>
 dk [.B,.S,.S,.N] [.l cs9] λb8 _ _=>
 br b8
 (Ad D (Ω 123) [Ξ [bv b7,V xs3]] [] [.a,.B,.L,.N,.E] λb9 xs4=>
 Ad D (Ω 124) [Ξ [bv b7_0,V b7_1],Ξ [bv b9,V xs4]] [] [.a,.B,.L,.N,.E] λb10 xs5=>
 AE D (ι 68 0) [V t0,V t1,V t2,η 0 0,η 1 0,iv (A.add U t8 1)] [bk [bv b6_0,V b6_1],bk [bv b10,V xs5]] λr6 o6=>
 AD 2 [0,1] (AH.mk [(1,bk [bv b10,V xs5]),(0,bk [bv b6_0,V b6_1]),(2,bk [bv b9,V xs4])] 3 none) [0,1] r6 o6)
 (Ad D (Ω 124) [Ξ [bv b7_0,V b7_1],Ξ [bv b7,V xs3]] [] [.a,.B,.L,.N,.E] λb9 xs4=>
 AE D (ι 68 0) [V t0,V t1,V t2,η 0 0,η 1 0,iv (A.add U t8 1)] [bk [bv b6_0,V b6_1],bk [bv b9,V xs4]] λr5 o5=>
 AD 2 [0,1] (AH.mk [(1,bk [bv b9,V xs4]),(0,bk [bv b6_0,V b6_1]),(2,bk [bv b7,V xs3])] 3 none) [0,1] r5 o5))))))
 (some ((ψ [iv 0,η 0 0,η 1 0],[γ (bk [bv b6_0,V b6_1]),γ (bk [bv b7_0,V b7_1])]))):=by kernel_rfl
theorem e29(x0_0:Int)(x0_1 x0_2:Rw)(x0_3:Int)(x0_4 x0_5:ByteArray)(x0_6 x1 x2:Rw):By A D Al XO .n 29 Amb [Ξ [iv x0_0,V x0_1,V x0_2,iv x0_3,sv x0_4,sv x0_5,V x0_6],V x1,V x2] [] =
 br (A.eq x0_0 0)
 (some ((bv true,[])))
 (br (A.eq x0_0 2)
 (Ad D (Ω 68) [V x0_1,V x1,V x2] [] [.a,.B,.L,.N,.E] λb xs=>
 Ad D (Ω 68) [V x0_2,V x1,V x2] [] [.a,.B,.L,.N,.E] λb1 xs1=>
 Ad D (Ω 67) [Ξ [bv b,V xs],Ξ [bv b1,V xs1]] [] [.i,.E] λn=>
 br (A.eq x0_3 0)
 (br (A.eq n 0)
 (some ((bv true,[])))
 (some ((bv false,[]))))
 (br (A.eq x0_3 1)
 (br (A.eq n 0)
 (some ((bv false,[])))
 (some ((bv true,[]))))
 (br (A.eq x0_3 2)
 (br (A.lt n 0)
 (some ((bv true,[])))
 (some ((bv false,[]))))
 (br (A.eq x0_3 3)
 (br (A.le n 0)
 (some ((bv true,[])))
 (some ((bv false,[]))))
 (br (A.eq x0_3 4)
 (br (A.lt 0 n)
 (some ((bv true,[])))
 (some ((bv false,[]))))
 (br (A.le 0 n)
 (some ((bv true,[])))
 (some ((bv false,[])))))))))
 (br (A.eq x0_0 3)
 (Bh x0_6 0 λcs=>
 dk [.I,.L,.L,.I,.S,.S,.L,.N] [.l cs] λn xs xs1 n1 s s1 xs2=>
 Ad D (Ω 29) [Ξ [iv n,V xs,V xs1,iv n1,sv s,sv s1,V xs2],V x1,V x2] [] [.b,.E] λb=>
 br b
 (some ((bv false,[])))
 (some ((bv true,[]))))
 (br (A.eq x0_0 4)
 (Bh x0_6 0 λcs=>
 dk [.I,.L,.L,.I,.S,.S,.L,.N] [.l cs] λn xs xs1 n1 s s1 xs2=>
 Ad D (Ω 29) [Ξ [iv n,V xs,V xs1,iv n1,sv s,sv s1,V xs2],V x1,V x2] [] [.b,.E] λb=>
 br b
 (Bh x0_6 1 λcs1=>
 dk [.I,.L,.L,.I,.S,.S,.L,.N] [.l cs1] λn2 xs3 xs4 n3 s2 s3 xs5=>
 Ad D (Ω 29) [Ξ [iv n2,V xs3,V xs4,iv n3,sv s2,sv s3,V xs5],V x1,V x2] [] [.b,.E] λb1=>
 br b1
 (some ((bv true,[])))
 (some ((bv false,[]))))
 (some ((bv false,[]))))
 (br (A.eq x0_0 5)
 (Bh x0_6 0 λcs=>
 dk [.I,.L,.L,.I,.S,.S,.L,.N] [.l cs] λn xs xs1 n1 s s1 xs2=>
 Ad D (Ω 29) [Ξ [iv n,V xs,V xs1,iv n1,sv s,sv s1,V xs2],V x1,V x2] [] [.b,.E] λb=>
 br b
 (some ((bv true,[])))
 (Bh x0_6 1 λcs1=>
 dk [.I,.L,.L,.I,.S,.S,.L,.N] [.l cs1] λn2 xs3 xs4 n3 s2 s3 xs5=>
 Ad D (Ω 29) [Ξ [iv n2,V xs3,V xs4,iv n3,sv s2,sv s3,V xs5],V x1,V x2] [] [.b,.E] λb1=>
 br b1
 (some ((bv true,[])))
 (some ((bv false,[])))))
 (some ((bv false,[]))))))):=by kernel_rfl
end
end
end Go.Proofs.YtlmhajfbpplpoaaGreat
