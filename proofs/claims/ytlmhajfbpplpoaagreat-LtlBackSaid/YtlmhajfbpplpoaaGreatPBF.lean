/- Functions of the program -/
import Derived.Test.YtlmhajfbpplpoaaGreatPAS
set_option linter.all false
open List renaming drop->ο,take->ι
open Nat renaming blt->Asm
namespace Go.Proofs.YtlmhajfbpplpoaaGreat
noncomputable section
open ABlk renaming mk->U
open AV renaming agg->Ξ,ls->V,ptr->δ,sl->π,tup->φ
open BO renaming set->ζ
open IntKind renaming i64->Δ
open Key renaming fn->Φ,lp->Arh
section
open Go.RowKit
def AnP:MFn:=Ce [] 53
def AkY:Hnt:=⟨[(54,(.tup [.agg [.int .i64,.ls,.ls,.int .i64,.str,.str,.ls],.int .i64],[.box [.ls,.int .i64,.ls,.bool]])),(69,(.tup [.agg [.int .i64,.ls,.ls,.int .i64,.str,.str,.ls],.int .i64],[.box [.ls,.int .i64,.ls,.bool],.keep])),(91,(.tup [.ls,.agg [.int .i64,.int .i64],.int .i64],[])),(92,(.agg [.int .i64,.str,.int .i64,.int .i64],[.box [.ls,.int .i64,.ls,.bool]]))],[],[(25,[.int .i64,.ls,.ls,.int .i64,.str,.str,.ls]),(26,[.int .i64,.int .i64]),(49,[.int .i64,.ls,.ls,.int .i64,.str,.str,.ls]),(54,[.int .i64,.ls,.ls,.int .i64,.str,.str,.ls])]⟩
def Ny:List (Nat × MFn):=[(53,AnP)]
variable (A:Ar) (D:Orc)
theorem Amm(x0:ByteArray)(x1:Rw)(x2:Bool)(s1 s2:Rw)(s3:Int)(s4:Rw)(s5:Bool)(s6:Rw)(s7:Bool)(s8 s9 s10:Rw):By A D Ag AkY (.b (.b .n (.b .n (.b (.b (.b (.b (.b (.b (.b .n (.b (.b .n (.b .n (.t .n))) .n)) .n) .n) .n) .n) .n) (.b .n (.b .n (.b .n (.b .n (.b .n (.b .n (.b .n (.f .n))))))))))) .n) 53 AnP [sv x0,V x1,bv x2,AV.fn (Fn.func 69) [] [δ 0 0]] [bk [V s1,V s2,iv s3,V s4,bv s5,V s6,bv s7,V s8,V s9,V s10]] =
 Ae D (Φ 91) [sv x0] [] [.t,.L,.A,.I,.I,.N,.I,.N,.E] λxs n n1 n2=>
 br (A.eq n2 0)
 (Ae D (Φ 69) [δ 0 0,δ 1 0] [bk [V xs,iv 0,V x1,bv x2],bk [V s1,V s2,iv s3,V s4,bv s5,V s6,bv s7,V s8,V s9,V s10]] [.t,.A,.I,.L,.L,.I,.S,.S,.L,.N,.I,.N,.T,.L,.I,.L,.B,.N,.K,.E] λn3 xs1 xs2 n4 s s11 xs3 n5 xs4 n6 xs5 b=>
 br (A.eq n5 0)
 (Ae D (Φ 92) [δ 0 0] [bk [V xs4,iv n6,V xs5,bv b]] [.a,.I,.S,.I,.I,.N,.T,.L,.I,.L,.B,.N,.E] λn7 _ _ _ xs6 n10 xs7 b1=>
 br (A.eq n7 5)
 (br (A.eq n5 0) (some ((φ [Ξ [iv n3,V xs1,V xs2,iv n4,sv s,sv s11,V xs3],Ξ [iv 0,iv 0],iv 0],[BO.keep]))) none)
 (br (A.eq 101 0)
 (some ((φ [Ξ [iv n3,V xs1,V xs2,iv n4,sv s,sv s11,V xs3],Ξ [iv 0,iv 0],iv 0],[BO.keep])))
 (Ae D (Φ 92) [δ 0 0] [bk [V xs6,iv n10,V xs7,bv b1]] [.a,.I,.S,.I,.I,.N,.T,.L,.I,.L,.B,.N,.E] λ_ _ n12 n13 _ _ _ _=>
 some ((φ [Ξ [iv 0,V [],V [],iv 0,sv (Af []),sv (Af []),V []],Ξ [iv n12,iv n13],iv 101],[BO.keep])))))
 (br (A.eq n5 0) none (AD D (Φ 92) [δ 0 0] [bk [V xs4,iv n6,V xs5,bv b]] λr2 o2=>
 dk [.a,.I,.S,.I,.I,.N,.T,.L,.I,.L,.B,.N,.E] [.v r2,.o o2] λ_ _ n8 n9 _ _ _ _=>
 some ((φ [Ξ [iv 0,V [],V [],iv 0,sv (Af []),sv (Af []),V []],Ξ [iv n8,iv n9],iv n5],[BO.keep])))))
 (some ((φ [Ξ [iv 0,V [],V [],iv 0,sv (Af []),sv (Af []),V []],Ξ [iv n,iv n1],iv n2],[BO.keep]))):=by kernel_rfl
end
section
open Go.RowKit
def AnO:MFn:=Ce [] 47
def AmC:Hnt:=⟨[(22,(.str,[])),(46,(.bool,[])),(90,(.ls,[]))],[],[(3,[.int .i64,.ls,.ls,.int .i64,.str,.str,.ls]),(7,[.ls]),(12,[.int .i64]),(13,[.str]),(14,[.str]),(18,[.ls])]⟩
def Aqe:Bv:=[⟨64,[false,true,false,true,false,false,false,false,true,true,true],[(3,1)],[1],[(1,([false,true,false,true],([],[])))]⟩]
def Aqo:MFn:=Ce Aqe 63
def Aqm:MFn:=Ce [] 25
def Ro:List (Nat × MFn):=[(47,AnO),(63,Aqo),(25,Aqm)]
variable (A:Ar) (D:Orc)
theorem e47(x0_0:Int)(x0_1 x0_2:Rw)(x0_3:Int)(x0_4 x0_5:ByteArray)(x0_6:Rw):By A D Ag AmC .n 47 AnO [Ξ [iv x0_0,V x0_1,V x0_2,iv x0_3,sv x0_4,sv x0_5,V x0_6]] [] =
 Ae D (Φ 46) [Ξ [iv x0_0,V x0_1,V x0_2,iv x0_3,sv x0_4,sv x0_5,V x0_6]] [] [.b,.E] λb=>
 br b
 (Ae D (Φ 22) [V x0_1] [] [.s,.E] λs=>
 br ((A.slen s+A.slen (Af [32])).ble 9223372036854775807) (AD D (Φ 90) [] [] λr2 o2=>
 SL r2 λxs=>
 C8 o2<|
 unI x0_3 λi=>
 B7 xs i λcs=>
 dk [.S,.N] [.l cs] λs1=>
 br ((A.slen (A.cat s (Af [32]))+A.slen s1).ble 9223372036854775807) (br ((A.slen (A.cat (A.cat s (Af [32])) s1)+A.slen (Af [32])).ble 9223372036854775807) (AD D (Φ 22) [V x0_2] [] λr3 o3=>
 PP r3 λs2=>
 C8 o3<|
 br ((A.slen (A.cat (A.cat (A.cat s (Af [32])) s1) (Af [32]))+A.slen s2).ble 9223372036854775807) (some ((sv (A.cat (A.cat (A.cat (A.cat s (Af [32])) s1) (Af [32])) s2),[]))) none) none) none) none)
 (some ((sv (Af []),[]))):=by kernel_rfl
end
section
open Go.RowKit
def Aje:MFn:=Ce [] 138
def AhZ:Hnt:=⟨[],[],[]⟩
def Ajd:MFn:=Ce [] 137
def Tv:Hnt:=⟨[(47,(.str,[]))],[],[(4,[.int .i64]),(12,[.str]),(16,[.str]),(18,[.int .i64,.ls,.ls,.int .i64,.str,.str,.ls])]⟩
def Aqi:Bv:=[⟨56,[false,true,false,true,false,false,false,false,true,true,true],[(3,1)],[1],[(1,([false,true,false,true],([],[])))]⟩]
def Agm:MFn:=Ce Aqi 80
def VZ:Hnt:=⟨[(80,(.str,[])),(134,(.bool,[])),(137,(.str,[])),(138,(.str,[]))],[(0,[(1,([.ptr 0 0,.sl 2 1],[.box [.int .i64,.ls,.ls,.int .i64,.str,.str,.ls],.del,.row true]))])],[(8,[.ls]),(13,[.int .i64,.ls,.ls,.int .i64,.str,.str,.ls]),(14,[.int .i64,.ls,.ls,.int .i64,.str,.str,.ls]),(15,[.int .i64,.ls,.ls,.int .i64,.str,.str,.ls]),(18,[.int .i64]),(20,[.int .i64,.ls,.ls,.int .i64,.str,.str,.ls]),(34,[.int .i64,.ls,.ls,.int .i64,.str,.str,.ls]),(39,[.int .i64]),(42,[.str]),(43,[.str]),(46,[.str]),(47,[.str]),(49,[.int .i64]),(53,[.str]),(54,[.str])]⟩
def AnK:MFn:=Ce [] 38
def AkX:Hnt:=⟨[(36,(.bool,[])),(80,(.str,[]))],[],[(3,[.int .i64,.ls,.ls,.int .i64,.str,.str,.ls]),(6,[.int .i64,.ls,.ls,.int .i64,.str,.str,.ls])]⟩
def Rm:List (Nat × MFn):=[(138,Aje),(137,Ajd),(80,Agm),(38,AnK)]
variable (A:Ar) (D:Orc)
theorem AoT(x0:Int):By A D Ag AhZ .n 138 Aje [iv x0] [] =
 br (A.eq x0 3)
 (some ((sv (Af [33]),[])))
 (br (A.eq x0 8)
 (some ((sv (Af [88,32]),[])))
 (br (A.eq x0 9)
 (some ((sv (Af [71,32]),[])))
 (br (A.eq x0 10)
 (some ((sv (Af [70,32]),[])))
 (br (A.eq x0 4)
 (some ((sv (Af [32,38,32]),[])))
 (br (A.eq x0 5)
 (some ((sv (Af [32,124,32]),[])))
 (br (A.eq x0 7)
 (some ((sv (Af [32,45,62,32]),[])))
 (br (A.eq x0 11)
 (some ((sv (Af [32,85,32]),[])))
 (some ((sv (Af [32,82,32]),[])))))))))):=by kernel_rfl
theorem AfE(x0_0:Int)(x0_1 x0_2:Rw)(x0_3:Int)(x0_4 x0_5:ByteArray)(x0_6:Rw):By A D Ag Tv .n 137 Ajd [Ξ [iv x0_0,V x0_1,V x0_2,iv x0_3,sv x0_4,sv x0_5,V x0_6]] [] =
 br (A.eq x0_0 0)
 (some ((sv (Af [116,114,117,101]),[])))
 (br (A.eq x0_0 1)
 (some ((sv (Af [102,97,108,115,101]),[])))
 (br (A.eq x0_0 6)
 (br ((A.slen (Af [64])+A.slen x0_4).ble 9223372036854775807) (br ((A.slen (A.cat (Af [64]) x0_4)+A.slen (Af [46])).ble 9223372036854775807) (br ((A.slen (A.cat (A.cat (Af [64]) x0_4) (Af [46]))+A.slen x0_5).ble 9223372036854775807) (some ((sv (A.cat (A.cat (A.cat (Af [64]) x0_4) (Af [46])) x0_5),[]))) none) none) none)
 (Ae D (Φ 47) [Ξ [iv x0_0,V x0_1,V x0_2,iv x0_3,sv x0_4,sv x0_5,V x0_6]] [] [.s,.E] λs=>
 some ((sv s,[]))))):=by kernel_rfl
theorem e80(x0_0:Int)(x0_1 x0_2:Rw)(x0_3:Int)(x0_4 x0_5:ByteArray)(x0_6:Rw):By A D Ag VZ .n 80 Agm [Ξ [iv x0_0,V x0_1,V x0_2,iv x0_3,sv x0_4,sv x0_5,V x0_6]] [] =
 Ae D (Arh 80 0) [δ 0 0,π 1 0 0 1,V x0_6,iv ↑(AZ x0_6),iv 0] [bk [iv x0_0,V x0_1,V x0_2,iv x0_3,sv x0_4,sv x0_5,V x0_6],U [] true true] [.t,.C,.x,.X,.Y] λc l o=>
 br (Bb 1 c)
 (dk [.P 0 0,.C,.q 2 1,.N,.T,.I,.L,.L,.I,.S,.S,.L,.N,.D,.R,.X,.E] [.l l,.o o] λn n1 xs xs1 n2 s s1 xs2 cs2=>
 br (A.eq (↑n) 0)
 (Ae D (Φ 137) [Ξ [iv n1,V xs,V xs1,iv n2,sv s,sv s1,V xs2]] [] [.s,.E] λs2=>
 some ((sv s2,[])))
 (br (A.eq (↑n) 1)
 (Ae D (Φ 138) [iv n1] [] [.s,.E] λs2=>
 br (Asm 0 n) (Iw cs2 0 1 λcs3=>
 dk [.S,.N] [.l cs3] λs3=>
 br ((A.slen s2+A.slen s3).ble 9223372036854775807) (some ((sv (A.cat s2 s3),[]))) none) none)
 (br (Asm 0 n) (Iw cs2 0 1 λcs3=>
 dk [.S,.N] [.l cs3] λs2=>
 Ae D (Φ 138) [iv n1] [] [.s,.E] λs3=>
 br ((A.slen s2+A.slen s3).ble 9223372036854775807) (br (Asm 1 n) (Iw cs2 1 1 λcs4=>
 dk [.S,.N] [.l cs4] λs4=>
 br ((A.slen (A.cat s2 s3)+A.slen s4).ble 9223372036854775807) (some ((sv (A.cat (A.cat s2 s3) s4),[]))) none) none) none) none)))
 (none):=by kernel_rfl
theorem AhG(b1_0:Int)(b1_1 b1_2:Rw)(b1_3:Int)(b1_4 b1_5:ByteArray)(b1_6:Rw)(n3:Nat)(c3:List AV)(t8:Rw)(t9 t10:Int):EH A D Ag VZ .n 80 0 (AW Agm 0).fst (AW Agm 0).snd [δ 0 0,π 1 0 n3 1,V t8,iv t9,iv t10] [bk [iv b1_0,V b1_1,V b1_2,iv b1_3,sv b1_4,sv b1_5,V b1_6],{ cells:=c3,st:=true,ex:=true }] =
 br (A.lt t10 t9)
 (unI t10 λi=>
 B7 t8 i λcs=>
 dk [.I,.L,.L,.I,.S,.S,.L,.N] [.l cs] λn xs xs1 n1 s s1 xs2=>
 Ae D (Φ 80) [Ξ [iv n,V xs,V xs1,iv n1,sv s,sv s1,V xs2]] [] [.s,.E] λs2=>
 Ae D (Φ 134) [iv b1_0,iv t10,Ξ [iv n,V xs,V xs1,iv n1,sv s,sv s1,V xs2]] [] [.b,.E] λb=>
 br b
 (br ((A.slen (Af [40])+A.slen s2).ble 9223372036854775807) (br ((A.slen (A.cat (Af [40]) s2)+A.slen (Af [41])).ble 9223372036854775807) (br (Bc (n3+1) 16) (br ((0+n3*1).ble c3.length) (AD D (Arh 80 0) [δ 0 0,π 1 0 (n3+1) 1,V t8,iv t9,iv (A.add Δ t10 1)] [bk [iv b1_0,V b1_1,V b1_2,iv b1_3,sv b1_4,sv b1_5,V b1_6],U (ο 0 (ι (0+n3*1) c3)++[sv (A.cat (A.cat (Af [40]) s2) (Af [41]))]) true true] λr2 o2=>
 AE 2 [0,4] (AH.mk [(0,bk [iv b1_0,V b1_1,V b1_2,iv b1_3,sv b1_4,sv b1_5,V b1_6]),(4,U (ο 0 (ι (0+n3*1) c3)++[sv (A.cat (A.cat (Af [40]) s2) (Af [41]))]) true true),(3,U [sv (A.cat (A.cat (Af [40]) s2) (Af [41]))] true true),(2,bk [iv n,V xs,V xs1,iv n1,sv s,sv s1,V xs2])] 5 none) [1,0] r2 o2) none) none) none) none)
 (br (Bc (n3+1) 16) (br ((0+n3*1).ble c3.length) (AD D (Arh 80 0) [δ 0 0,π 1 0 (n3+1) 1,V t8,iv t9,iv (A.add Δ t10 1)] [bk [iv b1_0,V b1_1,V b1_2,iv b1_3,sv b1_4,sv b1_5,V b1_6],U (ο 0 (ι (0+n3*1) c3)++[sv s2]) true true] λr2 o2=>
 AE 2 [0,4] (AH.mk [(0,bk [iv b1_0,V b1_1,V b1_2,iv b1_3,sv b1_4,sv b1_5,V b1_6]),(4,U (ο 0 (ι (0+n3*1) c3)++[sv s2]) true true),(3,U [sv s2] true true),(2,bk [iv n,V xs,V xs1,iv n1,sv s,sv s1,V xs2])] 5 none) [1,0] r2 o2) none) none))
 (some ((φ [iv 0,δ 0 0,π 2 0 n3 1],[ζ (bk [iv b1_0,V b1_1,V b1_2,iv b1_3,sv b1_4,sv b1_5,V b1_6]),BO.del,ζ (U c3 true true)]))):=by kernel_rfl
theorem e38(x0_0:Int)(x0_1 x0_2:Rw)(x0_3:Int)(x0_4 x0_5:ByteArray)(x0_6:Rw):By A D Ag AkX .n 38 AnK [Ξ [iv x0_0,V x0_1,V x0_2,iv x0_3,sv x0_4,sv x0_5,V x0_6]] [] =
 Ae D (Φ 36) [Ξ [iv x0_0,V x0_1,V x0_2,iv x0_3,sv x0_4,sv x0_5,V x0_6]] [] [.b,.E] λb=>
 br b
 (Ae D (Φ 80) [Ξ [iv x0_0,V x0_1,V x0_2,iv x0_3,sv x0_4,sv x0_5,V x0_6]] [] [.s,.E] λs=>
 some ((sv s,[])))
 (some ((sv (Af []),[]))):=by kernel_rfl
end
section
open Go.RowKit
def AnV:MFn:=Ce [] 69
def AmI:Hnt:=⟨[(70,(.tup [.agg [.int .i64,.ls,.ls,.int .i64,.str,.str,.ls],.int .i64],[.box [.ls,.int .i64,.ls,.bool]]))],[],[(6,[.ls,.ls,.int .i64,.ls,.bool,.ls,.bool,.ls,.ls,.ls])]⟩
def AnI:MFn:=Ce [] 32
def Amw:Hnt:=⟨[(53,(.tup [.agg [.int .i64,.ls,.ls,.int .i64,.str,.str,.ls],.agg [.int .i64,.int .i64],.int .i64],[.keep]))],[],[(9,[.ls])]⟩
def Rn:List (Nat × MFn):=[(69,AnV),(32,AnI)]
variable (A:Ar) (D:Orc)
theorem e69(p_0:Rw)(p_1:Int)(p_2:Rw)(p_3:Bool)(s1 s2:Rw)(s3:Int)(s4:Rw)(s5:Bool)(s6:Rw)(s7:Bool)(s8 s9 s10:Rw):By A D Ag AmI .n 69 AnV [δ 0 0,δ 1 0] [bk [V p_0,iv p_1,V p_2,bv p_3],bk [V s1,V s2,iv s3,V s4,bv s5,V s6,bv s7,V s8,V s9,V s10]] =
 Ae D (Φ 70) [Ξ [δ 0 0,V s1,V s2,iv s3,V s4,bv s5,V s6,bv s7,V s8,V s9,V s10],iv 0] [bk [V p_0,iv p_1,V p_2,bv p_3]] [.t,.A,.I,.L,.L,.I,.S,.S,.L,.N,.I,.N,.T,.L,.I,.L,.B,.N,.E] λn xs xs1 n1 s s11 xs2 n2 xs3 n3 xs4 b=>
 some ((φ [Ξ [iv n,V xs,V xs1,iv n1,sv s,sv s11,V xs2],iv n2],[ζ (bk [V xs3,iv n3,V xs4,bv b]),BO.keep])):=by kernel_rfl
theorem e32(x0:ByteArray)(x1_0 x1_1:Rw)(x1_2:Int)(x1_3:Rw)(x1_4:Bool)(x1_5:Rw)(x1_6:Bool)(x1_7 x1_8 x1_9:Rw):By A D Ag Amw .n 32 AnI [sv x0,Ξ [V x1_0,V x1_1,iv x1_2,V x1_3,bv x1_4,V x1_5,bv x1_6,V x1_7,V x1_8,V x1_9]] [] =
 Ae D (Φ 53) [sv x0,V x1_0,bv true,AV.fn (Fn.func 69) [] [δ 0 0]] [bk [V x1_0,V x1_1,iv x1_2,V x1_3,bv x1_4,V x1_5,bv x1_6,V x1_7,V x1_8,V x1_9]] [.t,.A,.I,.L,.L,.I,.S,.S,.L,.N,.A,.I,.I,.N,.I,.N,.K,.E] λn xs xs1 n1 s s1 xs2 n2 n3 n4=>
 some ((φ [Ξ [iv n,V xs,V xs1,iv n1,sv s,sv s1,V xs2],Ξ [iv n2,iv n3],iv n4],[])):=by kernel_rfl
end
section
open Go.RowKit
def AnL:MFn:=Ce [] 42
def Amz:Hnt:=⟨[],[],[]⟩
def AnH:MFn:=Ce [] 30
def Amv:Hnt:=⟨[(32,(.tup [.agg [.int .i64,.ls,.ls,.int .i64,.str,.str,.ls],.agg [.int .i64,.int .i64],.int .i64],[])),(34,(.tup [.agg [.int .i64,.int .i64,.ls],.ls,.bool],[])),(36,(.bool,[])),(38,(.str,[])),(42,(.agg [.ls,.ls,.int .i64,.ls,.bool,.ls,.bool,.ls,.ls,.ls],[]))],[],[(38,[.int .i64]),(43,[.ls]),(44,[.int .i64,.ls,.ls,.int .i64,.str,.str,.ls]),(46,[.int .i64]),(54,[.int .i64,.int .i64]),(63,[.int .i64,.ls,.ls,.int .i64,.str,.str,.ls]),(76,[.int .i64,.ls,.ls,.int .i64,.str,.str,.ls]),(80,[.int .i64,.ls,.ls,.int .i64,.str,.str,.ls]),(88,[.int .i64]),(98,[.bool,.int .i64,.int .i64,.int .i64,.ls,.bool,.ls,.bool,.ls]),(100,[.bool]),(104,[.bool,.int .i64,.int .i64,.int .i64,.ls,.bool,.ls,.bool,.ls]),(106,[.int .i64])]⟩
def Aqa:Bv:=[⟨27,[false,false,false,false,false,false,false,false,false,false,false,false,false,false,false,false,true,true,true],[],[],[(0,([false,false,true],([],[]))),(1,([],([],[])))]⟩]
def Agg:MFn:=Ce Aqa 31
def Acb:Hnt:=⟨[],[(0,[(0,([.bool],[])),(1,([],[]))])],[(6,[.ls]),(11,[.ls]),(16,[.ls]),(20,[.str,.ls,.ls]),(21,[.str,.ls,.ls]),(23,[.ls])]⟩
def Ji:List (Nat × MFn):=[(42,AnL),(30,AnH),(31,Agg)]
variable (A:Ar) (D:Orc)
theorem e42:By A D Ag Amz .n 42 AnL [] [] =
 some ((Ξ [V [[sv (Af [120])],[sv (Af [121])]],V [],iv 0,V [],bv false,V [],bv false,V [],V [[sv (Af [112]),V [[sv (Af [97])],[sv (Af [98])]],V []]],V []],[])):=by kernel_rfl
theorem e30:By A D Ag Amv .n 30 AnH [] [] =
 Ae D (Φ 42) [] [] [.a,.L,.L,.I,.L,.B,.L,.B,.L,.L,.L,.N,.E] λxs xs1 n xs2 b xs3 b1 xs4 xs5 xs6=>
 Ae D (Φ 32) [sv (Af [71,32,40,120,32,62,32,48,32,45,62,32,70,32,64,112,46,98,41]),Ξ [V xs,V xs1,iv n,V xs2,bv b,V xs3,bv b1,V xs4,V xs5,V xs6]] [] [.t,.A,.I,.L,.L,.I,.S,.S,.L,.N,.A,.I,.I,.N,.I,.N,.E] λn1 xs7 xs8 n2 s s1 xs9 _ _ n5=>
 Ae D (Φ 42) [] [] [.a,.L,.L,.I,.L,.B,.L,.B,.L,.L,.L,.N,.E] λxs10 xs11 n6 xs12 b2 xs13 b3 xs14 xs15 xs16=>
 Ae D (Φ 32) [sv (Af [120,32,61,32,49,32,85]),Ξ [V xs10,V xs11,iv n6,V xs12,bv b2,V xs13,bv b3,V xs14,V xs15,V xs16]] [] [.t,.A,.I,.L,.L,.I,.S,.S,.L,.N,.A,.I,.I,.N,.I,.N,.E] λ_ _ _ _ _ _ _ n9 n10 n11=>
 Ae D (Φ 42) [] [] [.a,.L,.L,.I,.L,.B,.L,.B,.L,.L,.L,.N,.E] λxs20 xs21 n12 xs22 b4 xs23 b5 xs24 xs25 xs26=>
 Ae D (Φ 32) [sv (Af [64,112,46,99]),Ξ [V xs20,V xs21,iv n12,V xs22,bv b4,V xs23,bv b5,V xs24,V xs25,V xs26]] [] [.t,.A,.I,.L,.L,.I,.S,.S,.L,.N,.A,.I,.I,.N,.I,.N,.E] λ_ _ _ _ _ _ _ _ _ n17=>
 br (A.eq n5 0)
 (br (A.eq n1 9)
 (B7 xs9 0 λcs12=>
 dk [.I,.L,.L,.I,.S,.S,.L,.N] [.l cs12] λn18 _ _ _ _ _ _=>
 br (A.eq n18 7)
 (br (A.eq n11 101)
 (br (A.not (A.band (A.eq n9 1) (A.band (A.eq n10 8) true)))
 (some ((bv false,[])))
 (br (A.eq n17 110)
 (Ae D (Φ 42) [] [] [.a,.L,.L,.I,.L,.B,.L,.B,.L,.L,.L,.N,.E] λxs33 xs34 n20 xs35 b6 xs36 b7 xs37 xs38 xs39=>
 Ae D (Φ 34) [Ξ [iv n1,V xs7,V xs8,iv n2,sv s,sv s1,V xs9],Ξ [V xs33,V xs34,iv n20,V xs35,bv b6,V xs36,bv b7,V xs37,V xs38,V xs39]] [] [.t,.A,.I,.I,.L,.N,.L,.B,.N,.E] λn21 _ _ xs41 b8=>
 Ae D (Φ 42) [] [] [.a,.L,.L,.I,.L,.B,.L,.B,.L,.L,.L,.N,.E] λxs42 xs43 n23 xs44 b9 xs45 b10 xs46 xs47 xs48=>
 Ae D (Φ 34) [Ξ [iv 99,V [],V [],iv 0,sv (Af []),sv (Af []),V []],Ξ [V xs42,V xs43,iv n23,V xs44,bv b9,V xs45,bv b10,V xs46,V xs47,V xs48]] [] [.t,.A,.I,.I,.L,.N,.L,.B,.N,.E] λ_ _ _ _ b11=>
 Ae D (Φ 38) [Ξ [iv n1,V xs7,V xs8,iv n2,sv s,sv s1,V xs9]] [] [.s,.E] λs8=>
 br (A.seq s8 (Af [71,32,40,120,32,62,32,48,32,45,62,32,70,32,64,112,46,98,41]))
 (Ae D (Φ 36) [Ξ [iv n1,V xs7,V xs8,iv n2,sv s,sv s1,V xs9]] [] [.b,.E] λb12=>
 br b12
 (br b8
 (br (A.eq n21 9)
 (br (A.eq (↑(AZ xs41)) 2)
 (B7 xs41 1 λcs19=>
 dk [.B,.I,.I,.I,.L,.B,.L,.B,.L,.N] [.l cs19] λb13 _ _ _ _ _ _ _ _=>
 br b13
 (B7 xs41 1 λcs20=>
 dk [.B,.I,.I,.I,.L,.B,.L,.B,.L,.N] [.l cs20] λ_ _ n30 _ _ _ _ _ _=>
 br (A.eq n30 1)
 (br (A.not b11)
 (some ((bv true,[])))
 (some ((bv false,[]))))
 (some ((bv false,[]))))
 (some ((bv false,[]))))
 (some ((bv false,[]))))
 (some ((bv false,[]))))
 (some ((bv false,[]))))
 (some ((bv false,[]))))
 (some ((bv false,[]))))
 (some ((bv false,[])))))
 (some ((bv false,[]))))
 (some ((bv false,[]))))
 (some ((bv false,[]))))
 (some ((bv false,[]))):=by kernel_rfl
theorem e31(x0_0 x0_1:Rw)(x0_2:Int)(x0_3:Rw)(x0_4:Bool)(x0_5:Rw)(x0_6:Bool)(x0_7 x0_8 x0_9:Rw):By A D Ag Acb .n 31 Agg [Ξ [V x0_0,V x0_1,iv x0_2,V x0_3,bv x0_4,V x0_5,bv x0_6,V x0_7,V x0_8,V x0_9]] [] =
 br (A.lt 50 ↑(AZ x0_0))
 (some ((bv false,[])))
 (br (A.lt 12 ↑(AZ x0_8))
 (some ((bv false,[])))
 (Ae D (Arh 31 0) [V x0_8,iv ↑(AZ x0_8),iv 0] [] [.t,.C,.x,.X,.Y] λc l o=>
 br (Bb 0 c)
 (dk [.B,.N,.E] [.l l,.o o] λb=>
 some ((bv b,[])))
 (br (Bb 1 c)
 (Dg l<|
 C8 o<|
 some ((bv true,[])))
 (none)))):=by kernel_rfl
theorem AhA(t16:Rw)(t17 t18:Int):EH A D Ag Acb .n 31 0 (AW Agg 0).fst (AW Agg 0).snd [V t16,iv t17,iv t18] [] =
 br (A.lt t18 t17)
 (unI t18 λi=>
 B7 t16 i λcs=>
 dk [.S,.L,.L,.N] [.l cs] λs xs xs1=>
 br (A.lt 50 ↑(AZ xs))
 (some ((φ [bv true,bv false],[])))
 (AD D (Arh 31 0) [V t16,iv t17,iv (A.add Δ t18 1)] [] λr o=>
 AE 0 [] (AH.mk [(0,bk [sv s,V xs,V xs1])] 1 none) [] r o))
 (some ((φ [iv 0],[]))):=by kernel_rfl
end
section
open Go.RowKit
def Anz:MFn:=Ce [] 10
def Amr:Hnt:=⟨[(20,(.bool,[])),(21,(.int .i64,[])),(30,(.bool,[])),(31,(.bool,[])),(32,(.tup [.agg [.int .i64,.ls,.ls,.int .i64,.str,.str,.ls],.agg [.int .i64,.int .i64],.int .i64],[])),(34,(.tup [.agg [.int .i64,.int .i64,.ls],.ls,.bool],[])),(36,(.bool,[])),(38,(.str,[]))],[],[(14,[.int .i64,.ls,.ls,.int .i64,.str,.str,.ls]),(18,[.ls,.ls,.int .i64,.ls,.bool,.ls,.bool,.ls,.ls,.ls]),(22,[.int .i64,.ls,.ls,.int .i64,.str,.str,.ls]),(25,[.int .i64,.ls,.ls,.int .i64,.str,.str,.ls]),(28,[.int .i64,.ls,.ls,.int .i64,.str,.str,.ls]),(32,[.ls,.ls,.int .i64,.ls,.bool,.ls,.bool,.ls,.ls,.ls]),(38,[.int .i64,.ls,.ls,.int .i64,.str,.str,.ls]),(39,[.ls,.ls,.int .i64,.ls,.bool,.ls,.bool,.ls,.ls,.ls]),(56,[.int .i64,.ls,.ls,.int .i64,.str,.str,.ls]),(57,[.int .i64,.ls,.ls,.int .i64,.str,.str,.ls])]⟩
def SH:List (Nat × MFn):=[(10,Anz)]
variable (A:Ar) (D:Orc)
theorem e10(x0_0:Int)(x0_1 x0_2:Rw)(x0_3:Int)(x0_4 x0_5:ByteArray)(x0_6 x1_0 x1_1:Rw)(x1_2:Int)(x1_3:Rw)(x1_4:Bool)(x1_5:Rw)(x1_6:Bool)(x1_7 x1_8 x1_9:Rw):By A D Ag Amr .n 10 Anz [Ξ [iv x0_0,V x0_1,V x0_2,iv x0_3,sv x0_4,sv x0_5,V x0_6],Ξ [V x1_0,V x1_1,iv x1_2,V x1_3,bv x1_4,V x1_5,bv x1_6,V x1_7,V x1_8,V x1_9]] [] =
 Ae D (Φ 30) [] [] [.b,.E] λb=>
 br b
 (Ae D (Φ 21) [Ξ [iv x0_0,V x0_1,V x0_2,iv x0_3,sv x0_4,sv x0_5,V x0_6],iv 100] [] [.i,.E] λn=>
 br (A.lt 100 n)
 (some ((bv true,[])))
 (Ae D (Φ 31) [Ξ [V x1_0,V x1_1,iv x1_2,V x1_3,bv x1_4,V x1_5,bv x1_6,V x1_7,V x1_8,V x1_9]] [] [.b,.E] λb1=>
 br b1
 (Ae D (Φ 36) [Ξ [iv x0_0,V x0_1,V x0_2,iv x0_3,sv x0_4,sv x0_5,V x0_6]] [] [.b,.E] λb2=>
 br b2
 (Ae D (Φ 38) [Ξ [iv x0_0,V x0_1,V x0_2,iv x0_3,sv x0_4,sv x0_5,V x0_6]] [] [.s,.E] λs=>
 Ae D (Φ 32) [sv s,Ξ [V x1_0,V x1_1,iv x1_2,V x1_3,bv x1_4,V x1_5,bv x1_6,V x1_7,V x1_8,V x1_9]] [] [.t,.A,.I,.L,.L,.I,.S,.S,.L,.N,.A,.I,.I,.N,.I,.N,.E] λn1 xs xs1 n2 s1 s2 xs2 _ _ n5=>
 Ae D (Φ 34) [Ξ [iv x0_0,V x0_1,V x0_2,iv x0_3,sv x0_4,sv x0_5,V x0_6],Ξ [V x1_0,V x1_1,iv x1_2,V x1_3,bv x1_4,V x1_5,bv x1_6,V x1_7,V x1_8,V x1_9]] [] [.t,.A,.I,.I,.L,.N,.L,.B,.N,.E] λ_ _ _ _ b3=>
 br (A.lt 16384 ↑(A.slen s))
 (br (A.eq n5 2)
 (some ((bv true,[])))
 (some ((bv false,[]))))
 (br (A.not b3)
 (br (A.eq n5 110)
 (some ((bv true,[])))
 (some ((bv false,[]))))
 (br (A.eq n5 0)
 (Ae D (Φ 20) [Ξ [iv n1,V xs,V xs1,iv n2,sv s1,sv s2,V xs2],Ξ [iv x0_0,V x0_1,V x0_2,iv x0_3,sv x0_4,sv x0_5,V x0_6]] [] [.b,.E] λb4=>
 br b4
 (some ((bv true,[])))
 (some ((bv false,[]))))
 (some ((bv false,[]))))))
 (Ae D (Φ 38) [Ξ [iv x0_0,V x0_1,V x0_2,iv x0_3,sv x0_4,sv x0_5,V x0_6]] [] [.s,.E] λs=>
 br (A.seq s (Af []))
 (some ((bv true,[])))
 (some ((bv false,[])))))
 (some ((bv true,[])))))
 (some ((bv false,[]))):=by kernel_rfl
end
end
end Go.Proofs.YtlmhajfbpplpoaaGreat
