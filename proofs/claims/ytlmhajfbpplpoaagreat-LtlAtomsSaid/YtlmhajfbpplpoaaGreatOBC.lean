/- Functions of the program -/
import Derived.Test.YtlmhajfbpplpoaaGreatOAS
set_option linter.all false
open List renaming drop->Apx,take->ο
namespace Go.Proofs.YtlmhajfbpplpoaaGreat
noncomputable section
open ABlk renaming mk->Δ
open AV renaming agg->Ξ,fn->ApE,ls->V,ptr->η,sl->ζ,tup->ψ
open BO renaming set->γ
open IntKind renaming i64->U
open Key renaming fn->Ω,lp->ι
section
open Go.RowKit
def AoH:A3:=[⟨61,[false,true,false,false,true,false,true,false,false,false,false,false,false,false,false,true,true,true],[(1000006,3),(3000006,0)],[4],[(0,([false,false,false,false,true,true],([4],[1000006,6]))),(1,([false,false,false,false,true,false,true],([],[])))]⟩]
def Aew:MFn:=Bm AoH 44
def AaS:Hnt:=⟨[(23,(.bool,[])),(84,(.agg [.bool,.ls],[])),(85,(.tup [.agg [.bool,.ls],.int .i64],[])),(86,(.agg [.bool,.ls],[])),(87,(.agg [.bool,.ls],[])),(88,(.int .i64,[])),(89,(.agg [.ls,.bool,.ls],[]))],[(0,[(0,([.ptr 0 0,.bool],[.box [.ls,.bool,.ls],.del,.del])),(1,([.ptr 0 0,.ptr 1 0],[.box [.ls,.bool,.ls],.box [.sl 3 3,.bool,.ls],.del,.row true]))])],[(19,[.bool,.str,.str]),(20,[.bool,.str,.str]),(23,[.str]),(27,[.str]),(32,[.bool]),(33,[.bool,.ls]),(36,[.str]),(39,[.bool,.ls]),(40,[.bool,.ls]),(45,[.str]),(51,[.ls]),(53,[.bool,.ls]),(59,[.ls,.bool,.ls])]⟩
def AoJ:A3:=[⟨82,[false,true,true,false,true,false,false,false,false,false,true,false,false,false,false,false,false,false,false,false,false,false,false,false,false,false,false,false,false,false,false,false,false,false,false,false,false,false,false,false,false,false,true,true,true],[(10,6)],[2,4],[(0,([false,false,false,false,true,true],([4],[2,10]))),(1,([false,false,true,false,true,false,false,false,false,false,true],([],[])))]⟩]
def Aey:MFn:=Bm AoJ 65
def XP:Hnt:=⟨[(44,(.tup [.agg [.ls,.bool,.ls],.bool],[])),(64,(.agg [.int .i64,.ls,.bool,.ls,.bool,.ls],[])),(65,(.tup [.agg [.int .i64,.ls,.bool,.ls,.bool,.ls],.bool],[])),(112,(.agg [.int .i64,.ls,.bool,.ls,.bool,.ls],[])),(113,(.agg [.int .i64,.ls,.bool,.ls,.bool,.ls],[])),(114,(.agg [.int .i64,.ls,.bool,.ls,.bool,.ls],[])),(115,(.agg [.int .i64,.ls,.bool,.ls,.bool,.ls],[]))],[(0,[(0,([.ptr 1 0,.bool],[.del,.box [.int .i64,.ls,.bool,.ls,.bool,.ls],.del])),(1,([.ptr 0 0,.ptr 1 0,.sl 3 6],[.box [.int .i64,.ls,.ls,.int .i64,.str,.str,.ls],.box [.int .i64,.ls,.bool,.ls,.bool,.ls],.del,.row true]))])],[(16,[.int .i64]),(20,[.ls]),(27,[.ls]),(33,[.int .i64]),(34,[.ls,.bool,.ls]),(35,[.ls,.bool,.ls]),(42,[.ls]),(46,[.int .i64,.ls,.ls,.int .i64,.str,.str,.ls]),(47,[.int .i64,.ls,.ls,.int .i64,.str,.str,.ls]),(49,[.int .i64,.ls,.ls,.int .i64,.str,.str,.ls]),(58,[.int .i64,.ls,.bool,.ls,.bool,.ls]),(63,[.int .i64]),(70,[.int .i64,.ls,.bool,.ls,.bool,.ls]),(71,[.int .i64,.ls,.bool,.ls,.bool,.ls])]⟩
def Ama:MFn:=Bm [] 27
def AkY:Hnt:=⟨[(24,(.bool,[])),(64,(.agg [.int .i64,.ls,.bool,.ls,.bool,.ls],[])),(65,(.tup [.agg [.int .i64,.ls,.bool,.ls,.bool,.ls],.bool],[]))],[],[(8,[.int .i64,.ls,.ls,.int .i64,.str,.str,.ls]),(13,[.int .i64,.ls,.ls,.int .i64,.str,.str,.ls]),(21,[.int .i64,.ls,.bool,.ls,.bool,.ls])]⟩
def TG:List (Nat × MFn):=[(44,Aew),(65,Aey),(27,Ama)]
variable (A:Ar) (D:Orc)
theorem e44(x0 x1:Rw):By A D Al AaS .n 44 Aew [V x0,V x1] [] =
 Ad D (Ω 23) [V x0] [] [.b,.E] λb=>
 br b
 (Ad D (ι 44 0) [V x1,η 0 0,η 1 0,V x0,iv ↑(AQ x0),iv 0] [bk [V [],bv false,V []],bk [ζ 2 0 0 3,bv false,V []],Δ [] true true] [.t,.C,.x,.X,.Y] λc l o1=>
 br (A9 0 c)
 (dk [.P 0 0,.B,.N,.T,.L,.B,.L,.N,.D,.D,.E] [.l l,.o o1] λb1 xs b2 xs1=>
 some ((ψ [Ξ [V xs,bv b2,V xs1],bv b1],[])))
 (br (A9 1 c)
 (dk [.P 0 0,.P 1 0,.N,.T,.L,.B,.L,.N,.T,.C,.q 3 3,.B,.L,.N,.D,.R,.X,.E] [.l l,.o o1] λ_ _ _ n b2 xs2 cs3=>
 br ((0+n*3).ble cs3.length) (AE D (Ω 89) [Ξ [V (Bp n 3 (ο (n*3) cs3)),bv b2,V xs2]] [] λr2 o2=>
 dk [.a,.L,.B,.L,.N,.E] [.v r2,.o o2] λxs3 b3 xs4=>
 some ((ψ [Ξ [V xs3,bv b3,V xs4],bv true],[]))) none)
 (none)))
 (some ((ψ [Ξ [V [],bv false,V []],bv false],[]))):=by kernel_rfl
theorem Agc(t1 r0:Rw)(r1:Bool)(r2:Rw)(n6:Nat)(k1:Bool)(k2:Rw)(c6:List AV)(t15:Rw)(t16 t17:Int):Di A D Al AaS .n 44 0 (AL Aew 0).fst (AL Aew 0).snd [V t1,η 0 0,η 1 0,V t15,iv t16,iv t17] [bk [V r0,bv r1,V r2],bk [ζ 2 0 n6 3,bv k1,V k2],{ cells:=c6,st:=true,ex:=true }] =
 br (A.lt t17 t16)
 (unI t17 λi=>
 Bh t15 i λcs=>
 dk [.B,.S,.S,.N] [.l cs] λb s s1=>
 Ad D (Ω 84) [iv 1] [] [.a,.B,.L,.N,.E] λb1 xs=>
 br (A.seq s (Ax []))
 (br b
 (Ad D (Ω 86) [Ξ [bv b1,V xs]] [] [.a,.B,.L,.N,.E] λb2 xs1=>
 br (A.seq s1 (Ax []))
 (Ad D (Ω 87) [Ξ [bv k1,V k2],Ξ [bv b2,V xs1]] [] [.a,.B,.L,.N,.E] λb3 xs2=>
 AE D (ι 44 0) [V t1,η 0 0,η 1 0,V t15,iv t16,iv (A.add U t17 1)] [bk [V r0,bv r1,V r2],bk [ζ 2 0 n6 3,bv b3,V xs2],Δ c6 true true] λr5 o3=>
 AD 3 [0,1,2] (AH.mk [(0,bk [V r0,bv r1,V r2]),(1,bk [ζ 2 0 n6 3,bv b3,V xs2]),(4,bk [bv b2,V xs1]),(3,bk [bv b,sv s,sv s1]),(2,Δ c6 true true)] 5 none) [1,0] r5 o3)
 (Ad D (Ω 88) [V t1,sv s1] [] [.i,.E] λn=>
 br (A.lt n 0)
 (some ((ψ [bv true,η 0 0,bv false],[γ (bk [V [],bv false,V []]),BO.del,BO.del])))
 (br (Bf (n6+1) 40) (br ((0+n6*3).ble c6.length) (AE D (ι 44 0) [V t1,η 0 0,η 1 0,V t15,iv t16,iv (A.add U t17 1)] [bk [V r0,bv r1,V r2],bk [ζ 2 0 (n6+1) 3,bv k1,V k2],Δ (Apx 0 (ο (0+n6*3) c6)++[iv n,bv b2,V xs1]) true true] λr5 o3=>
 AD 3 [0,1,6] (AH.mk [(0,bk [V r0,bv r1,V r2]),(1,bk [ζ 6 0 (n6+1) 3,bv k1,V k2]),(6,Δ (Apx 0 (ο (0+n6*3) c6)++[iv n,bv b2,V xs1]) true true),(5,Δ [iv n,bv b2,V xs1] true true),(4,bk [bv b2,V xs1]),(3,bk [bv b,sv s,sv s1])] 7 none) [2,1,0] r5 o3) none) none)))
 (br (A.seq s1 (Ax []))
 (Ad D (Ω 87) [Ξ [bv k1,V k2],Ξ [bv b1,V xs]] [] [.a,.B,.L,.N,.E] λb2 xs1=>
 AE D (ι 44 0) [V t1,η 0 0,η 1 0,V t15,iv t16,iv (A.add U t17 1)] [bk [V r0,bv r1,V r2],bk [ζ 2 0 n6 3,bv b2,V xs1],Δ c6 true true] λr4 o2=>
 AD 3 [0,1,2] (AH.mk [(0,bk [V r0,bv r1,V r2]),(1,bk [ζ 2 0 n6 3,bv b2,V xs1]),(4,bk [bv b1,V xs]),(3,bk [bv b,sv s,sv s1]),(2,Δ c6 true true)] 5 none) [1,0] r4 o2)
 (Ad D (Ω 88) [V t1,sv s1] [] [.i,.E] λn=>
 br (A.lt n 0)
 (some ((ψ [bv true,η 0 0,bv false],[γ (bk [V [],bv false,V []]),BO.del,BO.del])))
 (br (Bf (n6+1) 40) (br ((0+n6*3).ble c6.length) (AE D (ι 44 0) [V t1,η 0 0,η 1 0,V t15,iv t16,iv (A.add U t17 1)] [bk [V r0,bv r1,V r2],bk [ζ 2 0 (n6+1) 3,bv k1,V k2],Δ (Apx 0 (ο (0+n6*3) c6)++[iv n,bv b1,V xs]) true true] λr4 o2=>
 AD 3 [0,1,6] (AH.mk [(0,bk [V r0,bv r1,V r2]),(1,bk [ζ 6 0 (n6+1) 3,bv k1,V k2]),(6,Δ (Apx 0 (ο (0+n6*3) c6)++[iv n,bv b1,V xs]) true true),(5,Δ [iv n,bv b1,V xs] true true),(4,bk [bv b1,V xs]),(3,bk [bv b,sv s,sv s1])] 7 none) [2,1,0] r4 o2) none) none))))
 (Ad D (Ω 85) [sv s] [] [.t,.A,.B,.L,.N,.I,.N,.E] λb2 xs1 _=>
 br b
 (Ad D (Ω 86) [Ξ [bv b2,V xs1]] [] [.a,.B,.L,.N,.E] λb3 xs2=>
 br (A.seq s1 (Ax []))
 (Ad D (Ω 87) [Ξ [bv k1,V k2],Ξ [bv b3,V xs2]] [] [.a,.B,.L,.N,.E] λb4 xs3=>
 AE D (ι 44 0) [V t1,η 0 0,η 1 0,V t15,iv t16,iv (A.add U t17 1)] [bk [V r0,bv r1,V r2],bk [ζ 2 0 n6 3,bv b4,V xs3],Δ c6 true true] λr6 o4=>
 AD 3 [0,1,2] (AH.mk [(0,bk [V r0,bv r1,V r2]),(1,bk [ζ 2 0 n6 3,bv b4,V xs3]),(4,bk [bv b3,V xs2]),(3,bk [bv b,sv s,sv s1]),(2,Δ c6 true true)] 5 none) [1,0] r6 o4)
 (Ad D (Ω 88) [V t1,sv s1] [] [.i,.E] λn1=>
 br (A.lt n1 0)
 (some ((ψ [bv true,η 0 0,bv false],[γ (bk [V [],bv false,V []]),BO.del,BO.del])))
 (br (Bf (n6+1) 40) (br ((0+n6*3).ble c6.length) (AE D (ι 44 0) [V t1,η 0 0,η 1 0,V t15,iv t16,iv (A.add U t17 1)] [bk [V r0,bv r1,V r2],bk [ζ 2 0 (n6+1) 3,bv k1,V k2],Δ (Apx 0 (ο (0+n6*3) c6)++[iv n1,bv b3,V xs2]) true true] λr6 o4=>
 AD 3 [0,1,6] (AH.mk [(0,bk [V r0,bv r1,V r2]),(1,bk [ζ 6 0 (n6+1) 3,bv k1,V k2]),(6,Δ (Apx 0 (ο (0+n6*3) c6)++[iv n1,bv b3,V xs2]) true true),(5,Δ [iv n1,bv b3,V xs2] true true),(4,bk [bv b3,V xs2]),(3,bk [bv b,sv s,sv s1])] 7 none) [2,1,0] r6 o4) none) none)))
 (br (A.seq s1 (Ax []))
 (Ad D (Ω 87) [Ξ [bv k1,V k2],Ξ [bv b2,V xs1]] [] [.a,.B,.L,.N,.E] λb3 xs2=>
 AE D (ι 44 0) [V t1,η 0 0,η 1 0,V t15,iv t16,iv (A.add U t17 1)] [bk [V r0,bv r1,V r2],bk [ζ 2 0 n6 3,bv b3,V xs2],Δ c6 true true] λr5 o3=>
 AD 3 [0,1,2] (AH.mk [(0,bk [V r0,bv r1,V r2]),(1,bk [ζ 2 0 n6 3,bv b3,V xs2]),(4,bk [bv b2,V xs1]),(3,bk [bv b,sv s,sv s1]),(2,Δ c6 true true)] 5 none) [1,0] r5 o3)
 (Ad D (Ω 88) [V t1,sv s1] [] [.i,.E] λn1=>
 br (A.lt n1 0)
 (some ((ψ [bv true,η 0 0,bv false],[γ (bk [V [],bv false,V []]),BO.del,BO.del])))
 (br (Bf (n6+1) 40) (br ((0+n6*3).ble c6.length) (AE D (ι 44 0) [V t1,η 0 0,η 1 0,V t15,iv t16,iv (A.add U t17 1)] [bk [V r0,bv r1,V r2],bk [ζ 2 0 (n6+1) 3,bv k1,V k2],Δ (Apx 0 (ο (0+n6*3) c6)++[iv n1,bv b2,V xs1]) true true] λr5 o3=>
 AD 3 [0,1,6] (AH.mk [(0,bk [V r0,bv r1,V r2]),(1,bk [ζ 6 0 (n6+1) 3,bv k1,V k2]),(6,Δ (Apx 0 (ο (0+n6*3) c6)++[iv n1,bv b2,V xs1]) true true),(5,Δ [iv n1,bv b2,V xs1] true true),(4,bk [bv b2,V xs1]),(3,bk [bv b,sv s,sv s1])] 7 none) [2,1,0] r5 o3) none) none)))))
 (some ((ψ [iv 0,η 0 0,η 1 0],[γ (bk [V r0,bv r1,V r2]),γ (bk [ζ 3 0 n6 3,bv k1,V k2]),BO.del,γ (Δ c6 true true)]))):=by kernel_rfl
theorem e65(x0_0:Int)(x0_1 x0_2:Rw)(x0_3:Int)(x0_4 x0_5:ByteArray)(x0_6 x1:Rw):By A D Al XP (.b (.b (.b (.t .n) (.f .n)) .n) .n) 65 Aey [Ξ [iv x0_0,V x0_1,V x0_2,iv x0_3,sv x0_4,sv x0_5,V x0_6],V x1] [] =
 br (A.eq x0_0 2)
 (Ad D (Ω 44) [V x0_1,V x1] [] [.t,.A,.L,.B,.L,.N,.B,.N,.E] λxs b xs1 b1=>
 Ad D (Ω 44) [V x0_2,V x1] [] [.t,.A,.L,.B,.L,.N,.B,.N,.E] λxs2 b2 xs3 b3=>
 Ad D (Ω 112) [iv x0_3,Ξ [V xs,bv b,V xs1],Ξ [V xs2,bv b2,V xs3]] [] [.a,.I,.L,.B,.L,.B,.L,.N,.E] λn xs4 b4 xs5 b5 xs6=>
 br b1
 (br b1 (br b3
 (some ((ψ [Ξ [iv n,V xs4,bv b4,V xs5,bv b5,V xs6],bv true],[])))
 (some ((ψ [Ξ [iv n,V xs4,bv b4,V xs5,bv b5,V xs6],bv false],[])))) none)
 (br b1 none (some ((ψ [Ξ [iv n,V xs4,bv b4,V xs5,bv b5,V xs6],bv false],[])))))
 (Ad D (ι 65 0) [V x1,η 0 0,η 1 0,ζ 2 0 0 6,V x0_6,iv ↑(AQ x0_6),iv 0] [bk [iv x0_0,V x0_1,V x0_2,iv x0_3,sv x0_4,sv x0_5,V x0_6],bk [iv 0,V [],bv false,V [],bv false,V []],Δ [] true true] [.t,.C,.x,.X,.Y] λc l o=>
 br (A9 0 c)
 (dk [.P 1 0,.B,.N,.D,.T,.I,.L,.B,.L,.B,.L,.N,.D,.E] [.l l,.o o] λb n xs b1 xs1 b2 xs2=>
 some ((ψ [Ξ [iv n,V xs,bv b1,V xs1,bv b2,V xs2],bv b],[])))
 (br (A9 1 c)
 (dk [.P 0 0,.P 1 0,.C,.q 3 6,.N,.T,.I,.L,.L,.I,.S,.S,.L,.N,.T,.I,.L,.B,.L,.B,.L,.N,.D,.R,.X,.E] [.l l,.o o] λn n1 _ _ _ _ _ _ _ _ _ _ _ _ cs3=>
 br (A.eq n1 0)
 (Ad D (Ω 64) [bv true] [] [.a,.I,.L,.B,.L,.B,.L,.N,.E] λn4 xs6 b2 xs7 b3 xs8=>
 some ((ψ [Ξ [iv n4,V xs6,bv b2,V xs7,bv b3,V xs8],bv true],[])))
 (br (A.eq n1 3)
 (br (Nat.blt 0 n) (IE cs3 0 6 λcs4=>
 dk [.I,.L,.B,.L,.B,.L,.N] [.l cs4] λn4 xs6 b2 xs7 b3 xs8=>
 Ad D (Ω 113) [Ξ [iv n4,V xs6,bv b2,V xs7,bv b3,V xs8]] [] [.a,.I,.L,.B,.L,.B,.L,.N,.E] λn5 xs9 b4 xs10 b5 xs11=>
 some ((ψ [Ξ [iv n5,V xs9,bv b4,V xs10,bv b5,V xs11],bv true],[]))) none)
 (br (A.eq n1 4)
 (br ((0+n*6).ble cs3.length) (AE D (Ω 114) [V (Bp n 6 (ο (n*6) cs3))] [] λr1 o1=>
 dk [.a,.I,.L,.B,.L,.B,.L,.N,.E] [.v r1,.o o1] λn4 xs6 b2 xs7 b3 xs8=>
 some ((ψ [Ξ [iv n4,V xs6,bv b2,V xs7,bv b3,V xs8],bv true],[]))) none)
 (br (A.eq n1 5)
 (br ((0+n*6).ble cs3.length) (AE D (Ω 115) [V (Bp n 6 (ο (n*6) cs3))] [] λr1 o1=>
 dk [.a,.I,.L,.B,.L,.B,.L,.N,.E] [.v r1,.o o1] λn4 xs6 b2 xs7 b3 xs8=>
 some ((ψ [Ξ [iv n4,V xs6,bv b2,V xs7,bv b3,V xs8],bv true],[]))) none)
 (Ad D (Ω 64) [bv false] [] [.a,.I,.L,.B,.L,.B,.L,.N,.E] λn4 xs6 b2 xs7 b3 xs8=>
 some ((ψ [Ξ [iv n4,V xs6,bv b2,V xs7,bv b3,V xs8],bv true],[])))))))
 (none))):=by kernel_rfl
theorem Age(t1:Rw)(b2_0:Int)(b2_1 b2_2:Rw)(b2_3:Int)(b2_4 b2_5:ByteArray)(b2_6:Rw)(b4_0:Int)(b4_1:Rw)(b4_2:Bool)(b4_3:Rw)(b4_4:Bool)(b4_5:Rw)(n10:Nat)(c10:List AV)(t42:Rw)(t43 t44:Int):Di A D Al XP .n 65 0 (AL Aey 0).fst (AL Aey 0).snd [V t1,η 0 0,η 1 0,ζ 2 0 n10 6,V t42,iv t43,iv t44] [bk [iv b2_0,V b2_1,V b2_2,iv b2_3,sv b2_4,sv b2_5,V b2_6],bk [iv b4_0,V b4_1,bv b4_2,V b4_3,bv b4_4,V b4_5],{ cells:=c10,st:=true,ex:=true }] =
 br (A.lt t44 t43)
 (unI t44 λi=>
 Bh t42 i λcs=>
 dk [.I,.L,.L,.I,.S,.S,.L,.N] [.l cs] λn xs xs1 n1 s s1 xs2=>
 Ad D (Ω 65) [Ξ [iv n,V xs,V xs1,iv n1,sv s,sv s1,V xs2],V t1] [] [.t,.A,.I,.L,.B,.L,.B,.L,.N,.B,.N,.E] λn2 xs3 b xs4 b1 xs5 b2=>
 br (A.not b2)
 (some ((ψ [bv true,η 1 0,bv false],[BO.del,γ (bk [iv 0,V [],bv false,V [],bv false,V []]),BO.del])))
 (br (Bf (n10+1) 96) (br ((0+n10*6).ble c10.length) (AE D (ι 65 0) [V t1,η 0 0,η 1 0,ζ 2 0 (n10+1) 6,V t42,iv t43,iv (A.add U t44 1)] [bk [iv b2_0,V b2_1,V b2_2,iv b2_3,sv b2_4,sv b2_5,V b2_6],bk [iv b4_0,V b4_1,bv b4_2,V b4_3,bv b4_4,V b4_5],Δ (Apx 0 (ο (0+n10*6) c10)++[iv n2,V xs3,bv b,V xs4,bv b1,V xs5]) true true] λr1 o1=>
 AD 3 [0,1,6] (AH.mk [(1,bk [iv b4_0,V b4_1,bv b4_2,V b4_3,bv b4_4,V b4_5]),(0,bk [iv b2_0,V b2_1,V b2_2,iv b2_3,sv b2_4,sv b2_5,V b2_6]),(6,Δ (Apx 0 (ο (0+n10*6) c10)++[iv n2,V xs3,bv b,V xs4,bv b1,V xs5]) true true),(5,Δ [iv n2,V xs3,bv b,V xs4,bv b1,V xs5] true true),(4,bk [iv n2,V xs3,bv b,V xs4,bv b1,V xs5]),(3,bk [iv n,V xs,V xs1,iv n1,sv s,sv s1,V xs2])] 7 none) [2,0,1] r1 o1) none) none))
 (some ((ψ [iv 0,η 0 0,η 1 0,ζ 3 0 n10 6],[γ (bk [iv b2_0,V b2_1,V b2_2,iv b2_3,sv b2_4,sv b2_5,V b2_6]),γ (bk [iv b4_0,V b4_1,bv b4_2,V b4_3,bv b4_4,V b4_5]),BO.del,γ (Δ c10 true true)]))):=by kernel_rfl
theorem e27(x0_0:Int)(x0_1 x0_2:Rw)(x0_3:Int)(x0_4 x0_5:ByteArray)(x0_6 x1:Rw):By A D Al AkY .n 27 Ama [Ξ [iv x0_0,V x0_1,V x0_2,iv x0_3,sv x0_4,sv x0_5,V x0_6],V x1] [] =
 Ad D (Ω 24) [Ξ [iv x0_0,V x0_1,V x0_2,iv x0_3,sv x0_4,sv x0_5,V x0_6]] [] [.b,.E] λb=>
 br b
 (Ad D (Ω 65) [Ξ [iv x0_0,V x0_1,V x0_2,iv x0_3,sv x0_4,sv x0_5,V x0_6],V x1] [] [.t,.A,.I,.L,.B,.L,.B,.L,.N,.B,.N,.E] λn xs b1 xs1 b2 xs2 b3=>
 br (A.not b3)
 (Ad D (Ω 64) [bv false] [] [.a,.I,.L,.B,.L,.B,.L,.N,.E] λn1 xs3 b4 xs4 b5 xs5=>
 some ((ψ [Ξ [iv n1,V xs3,bv b4,V xs4,bv b5,V xs5],bv false],[])))
 (some ((ψ [Ξ [iv n,V xs,bv b1,V xs1,bv b2,V xs2],bv true],[]))))
 (Ad D (Ω 64) [bv false] [] [.a,.I,.L,.B,.L,.B,.L,.N,.E] λn xs b1 xs1 b2 xs2=>
 some ((ψ [Ξ [iv n,V xs,bv b1,V xs1,bv b2,V xs2],bv false],[]))):=by kernel_rfl
end
section
open Go.RowKit
def AlL:A3:=[⟨18,[false,false,false,true,false,false,true,true,true],[],[],[(0,([false,false,true],([],[]))),(1,([false,false,false,true],([],[])))]⟩]
def Wu:MFn:=Bm AlL 277
def PG:Hnt:=⟨[],[(0,[(0,([.int .i64],[])),(1,([.int .i64],[]))])],[(10,[.int .i64]),(11,[.int .i64])]⟩
def Ain:MFn:=Bm [] 284
def Ahi:Hnt:=⟨[(154,(.int .i64,[])),(277,(.int .i64,[])),(285,(.int .i64,[]))],[],[(6,[.int .i64]),(8,[.int .i64]),(11,[.bool,.ls]),(13,[.bool,.ls])]⟩
def AlN:A3:=[⟨39,[true,true,true,false,false,false,false,false,false,false,false,true,true,true],[],[],[(0,([false,false,false,false,false,false,true],([],[]))),(1,([true,true],([],[])))]⟩]
def Wv:MFn:=Bm AlN 286
def SG:Hnt:=⟨[(284,(.int .i64,[]))],[(0,[(0,([.int .i64],[])),(1,([.ls,.ls],[]))])],[(16,[.int .i64,.bool,.ls]),(17,[.int .i64,.bool,.ls]),(24,[.int .i64,.bool,.ls]),(25,[.int .i64,.bool,.ls]),(27,[.int .i64,.bool,.ls]),(28,[.int .i64,.bool,.ls])]⟩
def Ail:MFn:=Bm [] 278
def Ahg:Hnt:=⟨[(89,(.agg [.ls,.bool,.ls],[])),(277,(.int .i64,[])),(285,(.int .i64,[])),(286,(.int .i64,[]))],[],[(6,[.ls,.bool,.ls]),(8,[.ls,.bool,.ls]),(11,[.ls]),(13,[.ls]),(17,[.bool,.ls]),(19,[.bool,.ls])]⟩
def Aim:MFn:=Bm [] 279
def Ahh:Hnt:=⟨[],[],[(4,[.bool])]⟩
def Aij:MFn:=Bm [] 270
def Ahe:Hnt:=⟨[(154,(.int .i64,[])),(277,(.int .i64,[])),(278,(.int .i64,[])),(279,(.int .i64,[]))],[],[(6,[.ls,.bool,.ls]),(8,[.ls,.bool,.ls]),(10,[.ls,.bool,.ls,.bool]),(12,[.ls,.bool,.ls,.bool])]⟩
def Aih:MFn:=Bm [] 254
def Ahc:Hnt:=⟨[(270,(.int .i64,[]))],[],[(5,[.ls,.bool,.ls,.bool]),(6,[.ls,.bool,.ls,.bool])]⟩
def AlH:A3:=[⟨32,[false,true,true,false,false,false,false,false,false,false,false,false,false,false,false,true,true,true],[],[],[(0,([false,false,false,false,false,false,true],([],[]))),(1,([],([],[])))]⟩]
def Wq:MFn:=Bm AlH 255
def SD:Hnt:=⟨[(233,(.bool,[]))],[(0,[(0,([.bool],[])),(1,([],[]))])],[(20,[.int .i64,.ls,.bool,.ls,.bool,.ls]),(21,[.int .i64,.ls,.bool,.ls,.bool,.ls]),(24,[.int .i64,.ls,.bool,.ls,.bool,.ls]),(25,[.int .i64,.ls,.bool,.ls,.bool,.ls]),(27,[.int .i64,.ls,.bool,.ls,.bool,.ls]),(28,[.int .i64,.ls,.bool,.ls,.bool,.ls])]⟩
def Aie:MFn:=Bm [] 233
def Ag9:Hnt:=⟨[(175,(.agg [.int .i64,.ls,.bool,.ls,.bool,.ls],[])),(254,(.bool,[])),(255,(.bool,[]))],[],[(5,[.int .i64,.ls,.bool,.ls,.bool,.ls]),(7,[.int .i64,.ls,.bool,.ls,.bool,.ls]),(10,[.int .i64]),(12,[.int .i64]),(16,[.int .i64]),(20,[.ls,.bool,.ls,.bool]),(22,[.ls,.bool,.ls,.bool]),(28,[.ls]),(30,[.ls])]⟩
def TH:List (Nat × MFn):=[(277,Wu),(284,Ain),(286,Wv),(278,Ail),(279,Aim),(270,Aij),(254,Aih),(255,Wq),(233,Aie)]
variable (A:Ar) (D:Orc)
theorem Aoi(x0:Rw):By A D Al PG .n 277 Wu [V x0] [] =
 Ad D (ι 277 0) [iv 0,V x0,iv ↑(AQ x0),iv 0] [] [.t,.C,.x,.X,.Y] λc l o=>
 br (A9 0 c)
 (dk [.I,.N,.E] [.l l,.o o] λn=>
 some ((iv n,[])))
 (br (A9 1 c)
 (dk [.I,.N,.E] [.l l,.o o] λn=>
 some ((iv n,[])))
 (none)):=by kernel_rfl
theorem Uz(t3:Int)(t6:Rw)(t7 t8:Int):Di A D Al PG .n 277 0 (AL Wu 0).fst (AL Wu 0).snd [iv t3,V t6,iv t7,iv t8] [] =
 br (A.lt t8 t7)
 (unI t8 λi=>
 Bh t6 i λcs=>
 dk [.I,.N] [.l cs] λn=>
 br (A.eq n t3)
 (AE D (ι 277 0) [iv t3,V t6,iv t7,iv (A.add U t8 1)] [] λr o=>
 AD 0 [] (AH.mk [] 0 none) [] r o)
 (some ((ψ [bv true,iv n],[]))))
 (some ((ψ [iv 0,iv t3],[]))):=by kernel_rfl
theorem Aom(x0_0:Int)(x0_1:Bool)(x0_2:Rw)(x1_0:Int)(x1_1:Bool)(x1_2:Rw):By A D Al Ahi .n 284 Ain [Ξ [iv x0_0,bv x0_1,V x0_2],Ξ [iv x1_0,bv x1_1,V x1_2]] [] =
 Ad D (Ω 154) [iv x0_0,iv x1_0] [] [.i,.E] λn=>
 Ad D (Ω 285) [Ξ [bv x0_1,V x0_2],Ξ [bv x1_1,V x1_2]] [] [.i,.E] λn1=>
 Ad D (Ω 277) [V [[iv n],[iv n1]]] [] [.i,.E] λn2=>
 some ((iv n2,[])):=by kernel_rfl
theorem Aoo(x0 x1:Rw):By A D Al SG .n 286 Wv [V x0,V x1,ApE (Fn.func 284) [] []] [] =
 Ad D (ι 286 0) [V x0,V x1,ApE (Fn.func 284) [] [],V x0,iv ↑(AQ x0),iv 0] [] [.t,.C,.x,.X,.Y] λc l o=>
 br (A9 0 c)
 (dk [.I,.N,.E] [.l l,.o o] λn=>
 some ((iv n,[])))
 (br (A9 1 c)
 (dk [.L,.L,.N,.E] [.l l,.o o] λxs xs1=>
 br (A.lt ↑(AQ xs) ↑(AQ xs1))
 (some ((iv (-1),[])))
 (some ((iv 0,[]))))
 (none)):=by kernel_rfl
theorem Aam(t0 t1 t11:Rw)(t12 t13:Int):Di A D Al SG .n 286 0 (AL Wv 0).fst (AL Wv 0).snd [V t0,V t1,ApE (Fn.func 284) [] [],V t11,iv t12,iv t13] [] =
 br (A.lt t13 t12)
 (unI t13 λi=>
 Bh t11 i λcs=>
 dk [.I,.B,.L,.N] [.l cs] λn b xs=>
 br (A.le (↑(AQ t1)) t13)
 (some ((ψ [bv true,iv 1],[])))
 (unI t13 λi1=>
 Bh t1 i1 λcs1=>
 dk [.I,.B,.L,.N] [.l cs1] λn1 b1 xs1=>
 Ad D (Ω 284) [Ξ [iv n,bv b,V xs],Ξ [iv n1,bv b1,V xs1]] [] [.i,.E] λn2=>
 br (A.eq n2 0)
 (AE D (ι 286 0) [V t0,V t1,ApE (Fn.func 284) [] [],V t11,iv t12,iv (A.add U t13 1)] [] λr1 o1=>
 AD 0 [] (AH.mk [(1,bk [iv n1,bv b1,V xs1]),(0,bk [iv n,bv b,V xs])] 2 none) [] r1 o1)
 (some ((ψ [bv true,iv n2],[])))))
 (some ((ψ [iv 0,V t0,V t1],[]))):=by kernel_rfl
theorem Aoj(x0_0:Rw)(x0_1:Bool)(x0_2 x1_0:Rw)(x1_1:Bool)(x1_2:Rw):By A D Al Ahg .n 278 Ail [Ξ [V x0_0,bv x0_1,V x0_2],Ξ [V x1_0,bv x1_1,V x1_2]] [] =
 Ad D (Ω 89) [Ξ [V x0_0,bv x0_1,V x0_2]] [] [.a,.L,.B,.L,.N,.E] λxs b xs1=>
 Ad D (Ω 89) [Ξ [V x1_0,bv x1_1,V x1_2]] [] [.a,.L,.B,.L,.N,.E] λxs2 b1 xs3=>
 Ad D (Ω 286) [V xs,V xs2,ApE (Fn.func 284) [] []] [] [.i,.E] λn=>
 Ad D (Ω 285) [Ξ [bv b,V xs1],Ξ [bv b1,V xs3]] [] [.i,.E] λn1=>
 Ad D (Ω 277) [V [[iv n],[iv n1]]] [] [.i,.E] λn2=>
 some ((iv n2,[])):=by kernel_rfl
theorem Aok(x0_0:Rw)(x0_1:Bool)(x0_2:Rw)(x0_3:Bool):By A D Al Ahh .n 279 Aim [Ξ [V x0_0,bv x0_1,V x0_2,bv x0_3]] [] =
 br x0_3
 (some ((iv 1,[])))
 (some ((iv 0,[]))):=by kernel_rfl
theorem Aof(x0_0:Rw)(x0_1:Bool)(x0_2:Rw)(x0_3:Bool)(x1_0:Rw)(x1_1:Bool)(x1_2:Rw)(x1_3:Bool):By A D Al Ahe .n 270 Aij [Ξ [V x0_0,bv x0_1,V x0_2,bv x0_3],Ξ [V x1_0,bv x1_1,V x1_2,bv x1_3]] [] =
 Ad D (Ω 278) [Ξ [V x0_0,bv x0_1,V x0_2],Ξ [V x1_0,bv x1_1,V x1_2]] [] [.i,.E] λn=>
 Ad D (Ω 279) [Ξ [V x0_0,bv x0_1,V x0_2,bv x0_3]] [] [.i,.E] λn1=>
 Ad D (Ω 279) [Ξ [V x1_0,bv x1_1,V x1_2,bv x1_3]] [] [.i,.E] λn2=>
 Ad D (Ω 154) [iv n1,iv n2] [] [.i,.E] λn3=>
 Ad D (Ω 277) [V [[iv n],[iv n3]]] [] [.i,.E] λn4=>
 some ((iv n4,[])):=by kernel_rfl
theorem Aoa(x0_0:Rw)(x0_1:Bool)(x0_2:Rw)(x0_3:Bool)(x1_0:Rw)(x1_1:Bool)(x1_2:Rw)(x1_3:Bool):By A D Al Ahc .n 254 Aih [Ξ [V x0_0,bv x0_1,V x0_2,bv x0_3],Ξ [V x1_0,bv x1_1,V x1_2,bv x1_3]] [] =
 Ad D (Ω 270) [Ξ [V x0_0,bv x0_1,V x0_2,bv x0_3],Ξ [V x1_0,bv x1_1,V x1_2,bv x1_3]] [] [.i,.E] λn=>
 br (A.eq n 0)
 (some ((bv true,[])))
 (some ((bv false,[]))):=by kernel_rfl
theorem Aob(x0 x1:Rw):By A D Al SD .n 255 Wq [V x0,V x1,ApE (Fn.func 233) [] []] [] =
 br (A.eq ↑(AQ x0) ↑(AQ x1))
 (Ad D (ι 255 0) [V x1,ApE (Fn.func 233) [] [],V x0,iv ↑(AQ x0),iv 0] [] [.t,.C,.x,.X,.Y] λc l o=>
 br (A9 0 c)
 (dk [.B,.N,.E] [.l l,.o o] λb=>
 some ((bv b,[])))
 (br (A9 1 c)
 (Fe l<|
 CZ o<|
 some ((bv true,[])))
 (none)))
 (some ((bv false,[]))):=by kernel_rfl
theorem Aai(t1 t15:Rw)(t16 t17:Int):Di A D Al SD .n 255 0 (AL Wq 0).fst (AL Wq 0).snd [V t1,ApE (Fn.func 233) [] [],V t15,iv t16,iv t17] [] =
 br (A.lt t17 t16)
 (unI t17 λi=>
 Bh t15 i λcs=>
 dk [.I,.L,.B,.L,.B,.L,.N] [.l cs] λn xs b xs1 b1 xs2=>
 unI t17 λi1=>
 Bh t1 i1 λcs1=>
 dk [.I,.L,.B,.L,.B,.L,.N] [.l cs1] λn1 xs3 b2 xs4 b3 xs5=>
 Ad D (Ω 233) [Ξ [iv n,V xs,bv b,V xs1,bv b1,V xs2],Ξ [iv n1,V xs3,bv b2,V xs4,bv b3,V xs5]] [] [.b,.E] λb4=>
 br b4
 (AE D (ι 255 0) [V t1,ApE (Fn.func 233) [] [],V t15,iv t16,iv (A.add U t17 1)] [] λr1 o1=>
 AD 0 [] (AH.mk [(1,bk [iv n1,V xs3,bv b2,V xs4,bv b3,V xs5]),(0,bk [iv n,V xs,bv b,V xs1,bv b1,V xs2])] 2 none) [] r1 o1)
 (some ((ψ [bv true,bv false],[]))))
 (some ((ψ [iv 0],[]))):=by kernel_rfl
theorem An5(x0_0:Int)(x0_1:Rw)(x0_2:Bool)(x0_3:Rw)(x0_4:Bool)(x0_5:Rw)(x1_0:Int)(x1_1:Rw)(x1_2:Bool)(x1_3:Rw)(x1_4:Bool)(x1_5:Rw):By A D Al Ag9 .n 233 Aie [Ξ [iv x0_0,V x0_1,bv x0_2,V x0_3,bv x0_4,V x0_5],Ξ [iv x1_0,V x1_1,bv x1_2,V x1_3,bv x1_4,V x1_5]] [] =
 Ad D (Ω 175) [Ξ [iv x0_0,V x0_1,bv x0_2,V x0_3,bv x0_4,V x0_5]] [] [.a,.I,.L,.B,.L,.B,.L,.N,.E] λn xs b xs1 b1 xs2=>
 Ad D (Ω 175) [Ξ [iv x1_0,V x1_1,bv x1_2,V x1_3,bv x1_4,V x1_5]] [] [.a,.I,.L,.B,.L,.B,.L,.N,.E] λn1 xs3 b2 xs4 b3 xs5=>
 br (A.eq n n1)
 (br (A.eq n 2)
 (Ad D (Ω 254) [Ξ [V xs,bv b,V xs1,bv b1],Ξ [V xs3,bv b2,V xs4,bv b3]] [] [.b,.E] λb4=>
 br b4
 (Ad D (Ω 255) [V xs2,V xs5,ApE (Fn.func 233) [] []] [] [.b,.E] λb5=>
 br b5
 (some ((bv true,[])))
 (some ((bv false,[]))))
 (some ((bv false,[]))))
 (Ad D (Ω 255) [V xs2,V xs5,ApE (Fn.func 233) [] []] [] [.b,.E] λb4=>
 br b4
 (some ((bv true,[])))
 (some ((bv false,[])))))
 (some ((bv false,[]))):=by kernel_rfl
end
end
end Go.Proofs.YtlmhajfbpplpoaaGreat
