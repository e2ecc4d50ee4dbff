/- Functions of the program -/
import Derived.Test.YtlmhajfbpplpoaaGreatPAS
set_option linter.all false
open List renaming drop->ο,take->ι
namespace Go.Proofs.YtlmhajfbpplpoaaGreat
noncomputable section
open ABlk renaming mk->U
open AV renaming agg->Ξ,fn->Arj,ls->V,ptr->δ,sl->π,tup->φ
open BO renaming set->ζ
open IntKind renaming i64->Δ,u64->θ
open Key renaming fn->Φ,lp->Arh
open Tryz renaming prog->ψ
section
open Go.RowKit
def AjD:MFn:=Ce [] 207
def Ain:Hnt:=⟨[],[],[]⟩
def Ajk:MFn:=Ce [] 154
def Ah5:Hnt:=⟨[(207,(.bool,[]))],[],[]⟩
def Ajj:MFn:=Ce [] 153
def Ah4:Hnt:=⟨[(154,(.int .i64,[]))],[],[(6,[.int .i64]),(8,[.int .i64])]⟩
def Ajm:MFn:=Ce [] 157
def Ah7:Hnt:=⟨[(158,(.int .i64,[]))],[],[(4,[.bool,.ls])]⟩
def Aji:MFn:=Ia ψ AL [] false true 152
def Ah3:Hnt:=⟨[(153,(.int .i64,[])),(206,(.tup [],[.row true]))],[],[]⟩
def Am5:Bv:=[⟨63,[true,true,true,false,false,false,true,true,true],[],[],[(1,([true,true,true,false,false,false,true,true],([],[1000000])))]⟩,⟨63,[true,true,true,false,false,false,true],[],[],[(3,([true],([],[1000000])))]⟩,⟨63,[true,true,true,false,false,false,true,true,true],[],[],[(5,([true,true,true,false,false,false,true,true],([],[1000000])))]⟩]
def Nm:MFn:=Ia ψ AL Am5 false true 206
def Ip:Hnt:=⟨[(153,(.int .i64,[])),(242,(.tup [],[.row true])),(243,(.tup [],[.row true]))],[(0,[(1,([.sl 0 3,.int .i64,.fnc 153,.int .i64,.int .i64],[.row true]))]),(1,[(3,([.sl 0 3],[.row true]))]),(2,[(5,([.sl 0 3,.int .i64,.fnc 153,.int .i64,.int .i64],[.row true]))])],[]⟩
def Am8:Bv:=[⟨53,[true,true,true,true,false,false,false,false,true],[],[],[(1,([true],([],[1000000])))]⟩,⟨53,[true,true,true,true,false,false,false,false,true,true],[],[],[(3,([true,true,true,true,false,false,false,false,true],([],[1000000])))]⟩]
def QV:MFn:=Ia ψ AL Am8 false true 242
def IW:Hnt:=⟨[(153,(.int .i64,[]))],[(0,[(1,([.sl 0 3],[.row true]))]),(1,[(3,([.sl 0 3,.int .i64,.int .i64,.fnc 153,.int .i64],[.row true]))])],[(25,[.int .i64,.bool,.ls]),(26,[.int .i64,.bool,.ls]),(30,[.int .i64,.bool,.ls]),(31,[.int .i64,.bool,.ls]),(45,[.int .i64,.bool,.ls]),(46,[.int .i64,.bool,.ls]),(49,[.int .i64,.bool,.ls]),(50,[.int .i64,.bool,.ls]),(51,[.int .i64,.bool,.ls]),(52,[.int .i64,.bool,.ls])]⟩
def Am9:Bv:=[⟨220,[true,true,false,false,true,false,false,false,false,false,true,true],[],[],[(1,([true,true,false,false,false,false,false,false,false,false,true],([],[1000000])))]⟩,⟨220,[true,false,false,false,false,false,false,false,false,false,true,false,false,true],[],[],[(3,([true],([],[1000000])))]⟩,⟨220,[true,false,true,false,true,false,false,false,false,false,false,false,false,false,true,true],[],[],[(5,([true,false,true,false,false,false,false,false,false,false,false,false,false,false,true],([],[1000000])))]⟩,⟨220,[true,false,false,false,false,false,false,false,false,false,false,false,false,false,true,false,false,true],[],[],[(7,([true],([],[1000000])))]⟩,⟨220,[true,true,true,true,true,false,false,false,false,false,false,false,false,false,false,false,false,false,true,true,true,true,true],[],[],[(9,([true,true,true,true,true,false,false,false,false,false,false,false,false,false,false,false,false,false,true,true,true],([],[1000000])))]⟩]
def Ir:MFn:=Ia ψ AL Am9 false true 243
def CY:Hnt:=⟨[(153,(.int .i64,[])),(243,(.tup [],[.row true])),(260,(.tup [],[.row true]))],[(0,[(1,([.sl 0 3,.int .i64,.int .i64],[.row true]))]),(1,[(3,([.sl 0 3],[.row true]))]),(2,[(5,([.sl 0 3,.int .i64,.int .i64],[.row true]))]),(3,[(7,([.sl 0 3],[.row true]))]),(4,[(9,([.sl 0 3,.int .i64,.int .i64,.int .i64,.fnc 153,.int .i64,.int .i64,.int .i64],[.row true]))])],[(43,[.int .i64,.bool,.ls]),(44,[.int .i64,.bool,.ls]),(47,[.int .i64,.bool,.ls]),(48,[.int .i64,.bool,.ls]),(69,[.int .i64,.bool,.ls]),(70,[.int .i64,.bool,.ls]),(73,[.int .i64,.bool,.ls]),(74,[.int .i64,.bool,.ls]),(75,[.int .i64,.bool,.ls]),(76,[.int .i64,.bool,.ls]),(95,[.int .i64,.bool,.ls]),(96,[.int .i64,.bool,.ls]),(99,[.int .i64,.bool,.ls]),(100,[.int .i64,.bool,.ls]),(121,[.int .i64,.bool,.ls]),(122,[.int .i64,.bool,.ls]),(125,[.int .i64,.bool,.ls]),(126,[.int .i64,.bool,.ls]),(127,[.int .i64,.bool,.ls]),(128,[.int .i64,.bool,.ls]),(163,[.int .i64,.bool,.ls]),(164,[.int .i64,.bool,.ls]),(167,[.int .i64,.bool,.ls]),(168,[.int .i64,.bool,.ls])]⟩
def Ane:Bv:=[⟨58,[true,false,true,false,true,false,false,false,false,false,true,true],[],[],[(1,([true,false,true,false,true,false,false,false,false,false,true],([],[1000000])))]⟩]
def XQ:MFn:=Ia ψ AL Ane false true 260
def QB:Hnt:=⟨[(153,(.int .i64,[])),(273,(.tup [],[.row true]))],[(0,[(1,([.sl 0 3,.int .i64,.fnc 153,.int .i64],[.row true]))])],[]⟩
def Ang:Bv:=[⟨38,[true,true,true,true,false,false,false,false,false,false,true],[],[],[(1,([true],([],[1000000])))]⟩]
def XS:MFn:=Ia ψ AL Ang false true 273
def TH:Hnt:=⟨[(153,(.int .i64,[]))],[(0,[(1,([.sl 0 3],[.row true]))])],[(28,[.int .i64,.bool,.ls]),(29,[.int .i64,.bool,.ls]),(34,[.int .i64,.bool,.ls]),(35,[.int .i64,.bool,.ls]),(36,[.int .i64,.bool,.ls]),(37,[.int .i64,.bool,.ls])]⟩
def AmX:Bv:=[⟨42,[true,true,false,false,false,true,true],[],[],[(1,([true,false,false,false,false,true],([],[1000000])))]⟩]
def XI:MFn:=Ia ψ AL AmX true true 156
def ON:Hnt:=⟨[(157,(.bool,[])),(208,(.int .i64,[.row true]))],[(0,[(1,([.sl 0 3,.int .i64],[.row true]))])],[(24,[.int .i64,.bool,.ls]),(25,[.int .i64,.bool,.ls]),(27,[.int .i64,.bool,.ls]),(32,[.int .i64,.bool,.ls]),(33,[.int .i64,.bool,.ls])]⟩
def Am6:Bv:=[⟨19,[true,true,false,false,false,false,false,true,true],[],[],[(0,([true,false,false,false,true],([],[1000000]))),(1,([true],([],[1000000])))]⟩]
def XN:MFn:=Ia ψ AL Am6 false true 208
def OO:Hnt:=⟨[(157,(.bool,[]))],[(0,[(0,([.sl 0 3,.int .i64],[.row true])),(1,([.sl 0 3],[.row true]))])],[(14,[.int .i64,.bool,.ls]),(15,[.int .i64,.bool,.ls])]⟩
def Ga:List (Nat × MFn):=[(207,AjD),(154,Ajk),(153,Ajj),(157,Ajm),(152,Aji),(206,Nm),(242,QV),(243,Ir),(260,XQ),(273,XS),(156,XI),(208,XN)]
variable (A:Ar) (D:Orc)
theorem Apo(x0:Int):By A D Ag Ain .n 207 AjD [iv x0] [] =
 br (A.eq x0 x0)
 (some ((bv false,[])))
 (some ((bv true,[]))):=by kernel_rfl
theorem Ao2(x0 x1:Int):By A D Ag Ah5 .n 154 Ajk [iv x0,iv x1] [] =
 Ae D (Φ 207) [iv x0] [] [.b,.E] λb=>
 br b
 (Ae D (Φ 207) [iv x1] [] [.b,.E] λb1=>
 br b1
 (some ((iv 0,[])))
 (some ((iv (-1),[]))))
 (Ae D (Φ 207) [iv x1] [] [.b,.E] λb1=>
 br b1
 (some ((iv 1,[])))
 (br (A.lt x0 x1)
 (some ((iv (-1),[])))
 (br (A.lt x1 x0)
 (some ((iv 1,[])))
 (some ((iv 0,[])))))):=by kernel_rfl
theorem Ao1(x0_0:Int)(x0_1:Bool)(x0_2:Rw)(x1_0:Int)(x1_1:Bool)(x1_2:Rw):By A D Ag Ah4 .n 153 Ajj [Ξ [iv x0_0,bv x0_1,V x0_2],Ξ [iv x1_0,bv x1_1,V x1_2]] [] =
 Ae D (Φ 154) [iv x0_0,iv x1_0] [] [.i,.E] λn=>
 some ((iv n,[])):=by kernel_rfl
theorem Ao4(x0_0:Int)(x0_1:Bool)(x0_2:Rw):By A D Ag Ah7 .n 157 Ajm [Ξ [iv x0_0,bv x0_1,V x0_2]] [] =
 Ae D (Φ 158) [Ξ [bv x0_1,V x0_2]] [] [.i,.E] λn=>
 br (A.eq n 0)
 (some ((bv true,[])))
 (some ((bv false,[]))):=by kernel_rfl
theorem Ao0(n0:Nat)(c0:List AV):By A D Ag Ah3 .n 152 Aji [π 0 0 n0 3,Arj (Fn.func 153) [] []] [{ cells:=c0,st:=true,ex:=true }] =
 Ae D (Φ 206) [π 0 0 n0 3,iv ↑n0,Arj (Fn.func 153) [] []] [U c0 true true] [.t,.N,.R,.X,.E] λcs1=>
 some ((φ [],[ζ (U cs1 true true)])):=by kernel_rfl
theorem Apn(n0:Nat)(c0:List AV)(x1:Int):By A D Ag Ip .n 206 Nm [π 0 0 n0 3,iv x1,Arj (Fn.func 153) [] []] [{ cells:=c0,st:=true,ex:=true }] =
 Ae D (Arh 206 0) [π 0 0 n0 3,iv x1,Arj (Fn.func 153) [] [],iv 20,iv 0,iv 20] [U c0 true true] [.t,.C,.x,.X,.Y] λc l o=>
 br (Bb 1 c)
 (dk [.C,.q 0 3,.I,.C,.f 153,.I,.I,.N,.R,.X,.E] [.l l,.o o] λn n1 n2 n3 cs1=>
 Ae D (Φ 242) [π 0 0 n 3,iv n3,iv n1,Arj (Fn.func 153) [] []] [U cs1 true true] [.t,.N,.R,.X,.E] λcs3=>
 Ae D (Arh 206 1) [π 0 0 n 3,iv n1,Arj (Fn.func 153) [] [],iv n2] [U cs3 true true] [.t,.C,.x,.X,.Y] λc5 l8 o2=>
 br (Bb 3 c5)
 (dk [.C,.q 0 3,.N,.R,.X,.E] [.l l8,.o o2] λ_ cs5=>
 some ((φ [],[ζ (U cs5 true true)])))
 (none))
 (none):=by kernel_rfl
theorem Abo(n0:Nat)(c0:List AV)(t1 t6 t7 t8:Int):EH A D Ag Ip .n 206 0 (AW Nm 0).fst (AW Nm 0).snd [π 0 0 n0 3,iv t1,Arj (Fn.func 153) [] [],iv t6,iv t7,iv t8] [{ cells:=c0,st:=true,ex:=true }] =
 br (A.le t8 t1)
 (Ae D (Φ 242) [π 0 0 n0 3,iv t7,iv t8,Arj (Fn.func 153) [] []] [U c0 true true] [.t,.N,.R,.X,.E] λcs1=>
 AD D (Arh 206 0) [π 0 0 n0 3,iv t1,Arj (Fn.func 153) [] [],iv t6,iv t8,iv (A.add Δ t8 t6)] [U cs1 true true] λr1 o1=>
 AE 1 [0] (AH.mk [(0,U cs1 true true)] 1 none) [0] r1 o1)
 (some ((φ [iv 0,π 0 0 n0 3,iv t1,Arj (Fn.func 153) [] [],iv t6,iv t7],[ζ (U c0 true true)]))):=by kernel_rfl
theorem VD(n0:Nat)(c0:List AV)(t1 t6:Int):EH A D Ag Ip .n 206 1 (AW Nm 1).fst (AW Nm 1).snd [π 0 0 n0 3,iv t1,Arj (Fn.func 153) [] [],iv t6] [{ cells:=c0,st:=true,ex:=true }] =
 br (A.lt t6 t1)
 (Ae D (Arh 206 2) [π 0 0 n0 3,iv t1,Arj (Fn.func 153) [] [],iv t6,iv 0,iv (A.mul Δ 2 t6)] [U c0 true true] [.t,.C,.x,.X,.Y] λc l o=>
 br (Bb 5 c)
 (dk [.C,.q 0 3,.I,.C,.f 153,.I,.I,.N,.R,.X,.E] [.l l,.o o] λn n1 n2 n3 cs1=>
 br (A.lt (A.add Δ n3 n2) n1)
 (Ae D (Φ 243) [π 0 0 n 3,iv n3,iv (A.add Δ n3 n2),iv n1,Arj (Fn.func 153) [] []] [U cs1 true true] [.t,.N,.R,.X,.E] λcs3=>
 AD D (Arh 206 1) [π 0 0 n 3,iv n1,Arj (Fn.func 153) [] [],iv (A.mul Δ n2 2)] [U cs3 true true] λr2 o2=>
 AE 1 [0] (AH.mk [(0,U cs3 true true)] 1 none) [0] r2 o2)
 (AD D (Arh 206 1) [π 0 0 n 3,iv n1,Arj (Fn.func 153) [] [],iv (A.mul Δ n2 2)] [U cs1 true true] λr1 o1=>
 AE 1 [0] (AH.mk [(0,U cs1 true true)] 1 none) [0] r1 o1))
 (none))
 (some ((φ [iv 2,π 0 0 n0 3],[ζ (U c0 true true)]))):=by kernel_rfl
theorem Abp(n0:Nat)(c0:List AV)(t1 t6 t7 t8:Int):EH A D Ag Ip .n 206 2 (AW Nm 2).fst (AW Nm 2).snd [π 0 0 n0 3,iv t1,Arj (Fn.func 153) [] [],iv t6,iv t7,iv t8] [{ cells:=c0,st:=true,ex:=true }] =
 br (A.le t8 t1)
 (Ae D (Φ 243) [π 0 0 n0 3,iv t7,iv (A.add Δ t7 t6),iv t8,Arj (Fn.func 153) [] []] [U c0 true true] [.t,.N,.R,.X,.E] λcs1=>
 AD D (Arh 206 2) [π 0 0 n0 3,iv t1,Arj (Fn.func 153) [] [],iv t6,iv t8,iv (A.add Δ t8 (A.mul Δ 2 t6))] [U cs1 true true] λr1 o1=>
 AE 1 [0] (AH.mk [(0,U cs1 true true)] 1 none) [0] r1 o1)
 (some ((φ [iv 4,π 0 0 n0 3,iv t1,Arj (Fn.func 153) [] [],iv t6,iv t7],[ζ (U c0 true true)]))):=by kernel_rfl
theorem Aml(n0:Nat)(c0:List AV)(x1 x2:Int):By A D Ag IW .n 242 QV [π 0 0 n0 3,iv x1,iv x2,Arj (Fn.func 153) [] []] [{ cells:=c0,st:=true,ex:=true }] =
 Ae D (Arh 242 0) [π 0 0 n0 3,iv x1,iv x2,Arj (Fn.func 153) [] [],iv (A.add Δ x1 1)] [U c0 true true] [.t,.C,.x,.X,.Y] λc l o=>
 br (Bb 1 c)
 (dk [.C,.q 0 3,.N,.R,.X,.E] [.l l,.o o] λ_ cs1=>
 some ((φ [],[ζ (U cs1 true true)])))
 (none):=by kernel_rfl
theorem VE(n0:Nat)(c0:List AV)(t1 t2 t8:Int):EH A D Ag IW .n 242 0 (AW QV 0).fst (AW QV 0).snd [π 0 0 n0 3,iv t1,iv t2,Arj (Fn.func 153) [] [],iv t8] [{ cells:=c0,st:=true,ex:=true }] =
 br (A.lt t8 t2)
 (Ae D (Arh 242 1) [π 0 0 n0 3,iv t1,iv t2,Arj (Fn.func 153) [] [],iv t8,iv t8] [U c0 true true] [.t,.C,.x,.X,.Y] λc l o=>
 br (Bb 3 c)
 (dk [.C,.q 0 3,.I,.I,.C,.f 153,.I,.N,.R,.X,.E] [.l l,.o o] λn n1 n2 n3 cs1=>
 AD D (Arh 242 0) [π 0 0 n 3,iv n1,iv n2,Arj (Fn.func 153) [] [],iv (A.add Δ n3 1)] [U cs1 true true] λr1 o1=>
 AE 1 [0] (AH.mk [(0,U cs1 true true)] 1 none) [0] r1 o1)
 (none))
 (some ((φ [iv 0,π 0 0 n0 3],[ζ (U c0 true true)]))):=by kernel_rfl
theorem VF(n0:Nat)(c0:List AV)(t1 t2 t8 t9:Int):EH A D Ag IW .n 242 1 (AW QV 1).fst (AW QV 1).snd [π 0 0 n0 3,iv t1,iv t2,Arj (Fn.func 153) [] [],iv t8,iv t9] [{ cells:=c0,st:=true,ex:=true }] =
 br (A.lt t1 t9)
 (unI t9 λi=>
 br (i.blt n0) (Iw c0 (0+i*3) 3 λcs=>
 dk [.I,.B,.L,.N] [.l cs] λn b xs=>
 unI (A.sub Δ t9 1) λi1=>
 br (i1.blt n0) (Iw c0 (0+i1*3) 3 λcs1=>
 dk [.I,.B,.L,.N] [.l cs1] λn1 b1 xs1=>
 Ae D (Φ 153) [Ξ [iv n,bv b,V xs],Ξ [iv n1,bv b1,V xs1]] [] [.i,.E] λn2=>
 br (A.lt n2 0)
 (unI (A.sub Δ t9 1) λi2=>
 br (i2.blt n0) (Iw c0 (0+i2*3) 3 λcs2=>
 dk [.I,.B,.L,.N] [.l cs2] λn3 b2 xs2=>
 unI t9 λi3=>
 br (i3.blt n0) (Iw c0 (0+i3*3) 3 λcs3=>
 dk [.I,.B,.L,.N] [.l cs3] λn4 b3 xs3=>
 unI t9 λi4=>
 br (i4.blt n0) (br ((0+i4*3+3).ble c0.length) (unI (A.sub Δ t9 1) λi5=>
 br (i5.blt n0) (br ((0+i5*3+3).ble (AR c0 (0+i4*3) [iv n3,bv b2,V xs2]).length) (AD D (Arh 242 1) [π 0 0 n0 3,iv t1,iv t2,Arj (Fn.func 153) [] [],iv t8,iv (A.sub Δ t9 1)] [U (AR (AR c0 (0+i4*3) [iv n3,bv b2,V xs2]) (0+i5*3) [iv n4,bv b3,V xs3]) true true] λr1 o1=>
 AE 1 [0] (AH.mk [(0,U (AR (AR c0 (0+i4*3) [iv n3,bv b2,V xs2]) (0+i5*3) [iv n4,bv b3,V xs3]) true true)] 1 none) [0] r1 o1) none) none) none) none) none) none)
 (some ((φ [iv 2,π 0 0 n0 3,iv t1,iv t2,Arj (Fn.func 153) [] [],iv t8],[ζ (U c0 true true)])))) none) none)
 (some ((φ [iv 2,π 0 0 n0 3,iv t1,iv t2,Arj (Fn.func 153) [] [],iv t8],[ζ (U c0 true true)]))):=by kernel_rfl
theorem Tb(n0:Nat)(c0:List AV)(x1 x2 x3:Int):By A D Ag CY .n 243 Ir [π 0 0 n0 3,iv x1,iv x2,iv x3,Arj (Fn.func 153) [] []] [{ cells:=c0,st:=true,ex:=true }] =
 br (A.eq (A.sub Δ x2 x1) 1)
 (Ae D (Arh 243 0) [π 0 0 n0 3,iv x1,Arj (Fn.func 153) [] [],iv x2,iv x3] [U c0 true true] [.t,.C,.x,.X,.Y] λc l o=>
 br (Bb 1 c)
 (dk [.C,.q 0 3,.I,.I,.N,.R,.X,.E] [.l l,.o o] λn n1 n2 cs1=>
 Ae D (Arh 243 1) [π 0 0 n 3,iv n2,iv n1] [U cs1 true true] [.t,.C,.x,.X,.Y] λc3 l5 o1=>
 br (Bb 3 c3)
 (dk [.C,.q 0 3,.N,.R,.X,.E] [.l l5,.o o1] λ_ cs3=>
 some ((φ [],[ζ (U cs3 true true)])))
 (none))
 (none))
 (br (A.eq (A.sub Δ x3 x2) 1)
 (Ae D (Arh 243 2) [π 0 0 n0 3,iv x2,Arj (Fn.func 153) [] [],iv x1,iv x2] [U c0 true true] [.t,.C,.x,.X,.Y] λc l o=>
 br (Bb 5 c)
 (dk [.C,.q 0 3,.I,.I,.N,.R,.X,.E] [.l l,.o o] λn n1 n2 cs1=>
 Ae D (Arh 243 3) [π 0 0 n 3,iv n2,iv n1] [U cs1 true true] [.t,.C,.x,.X,.Y] λc3 l5 o1=>
 br (Bb 7 c3)
 (dk [.C,.q 0 3,.N,.R,.X,.E] [.l l5,.o o1] λ_ cs3=>
 some ((φ [],[ζ (U cs3 true true)])))
 (none))
 (none))
 (br (A.lt 1 0)
 (none)
 (br (A.lt (A.conv Δ (A.shr θ (A.conv θ (A.add Δ x1 x3)) 1)) x2)
 (Ae D (Arh 243 4) [π 0 0 n0 3,iv x1,iv x2,iv x3,Arj (Fn.func 153) [] [],iv (A.conv Δ (A.shr θ (A.conv θ (A.add Δ x1 x3)) 1)),iv (A.add Δ (A.conv Δ (A.shr θ (A.conv θ (A.add Δ x1 x3)) 1)) x2),iv (A.sub Δ (A.add Δ (A.conv Δ (A.shr θ (A.conv θ (A.add Δ x1 x3)) 1)) x2) x3),iv (A.conv Δ (A.shr θ (A.conv θ (A.add Δ x1 x3)) 1)),iv (A.sub Δ (A.add Δ (A.conv Δ (A.shr θ (A.conv θ (A.add Δ x1 x3)) 1)) x2) 1)] [U c0 true true] [.t,.C,.x,.X,.Y] λc l o=>
 br (Bb 9 c)
 (dk [.C,.q 0 3,.I,.I,.I,.C,.f 153,.I,.I,.I,.N,.R,.X,.E] [.l l,.o o] λn n1 n2 n3 n4 n5 n6 cs1=>
 br (A.lt n6 n2)
 (br (A.lt n2 (A.sub Δ n5 n6))
 (Ae D (Φ 260) [π 0 0 n 3,iv n6,iv n2,iv (A.sub Δ n5 n6),Arj (Fn.func 153) [] []] [U cs1 true true] [.t,.N,.R,.X,.E] λcs3=>
 br (A.lt n1 n6)
 (br (A.lt n6 n4)
 (Ae D (Φ 243) [π 0 0 n 3,iv n1,iv n6,iv n4,Arj (Fn.func 153) [] []] [U cs3 true true] [.t,.N,.R,.X,.E] λcs5=>
 br (A.lt n4 (A.sub Δ n5 n6))
 (br (A.lt (A.sub Δ n5 n6) n3)
 (Ae D (Φ 243) [π 0 0 n 3,iv n4,iv (A.sub Δ n5 n6),iv n3,Arj (Fn.func 153) [] []] [U cs5 true true] [.t,.N,.R,.X,.E] λcs7=>
 some ((φ [],[ζ (U cs7 true true)])))
 (some ((φ [],[ζ (U cs5 true true)]))))
 (some ((φ [],[ζ (U cs5 true true)]))))
 (br (A.lt n4 (A.sub Δ n5 n6))
 (br (A.lt (A.sub Δ n5 n6) n3)
 (Ae D (Φ 243) [π 0 0 n 3,iv n4,iv (A.sub Δ n5 n6),iv n3,Arj (Fn.func 153) [] []] [U cs3 true true] [.t,.N,.R,.X,.E] λcs5=>
 some ((φ [],[ζ (U cs5 true true)])))
 (some ((φ [],[ζ (U cs3 true true)]))))
 (some ((φ [],[ζ (U cs3 true true)])))))
 (br (A.lt n4 (A.sub Δ n5 n6))
 (br (A.lt (A.sub Δ n5 n6) n3)
 (Ae D (Φ 243) [π 0 0 n 3,iv n4,iv (A.sub Δ n5 n6),iv n3,Arj (Fn.func 153) [] []] [U cs3 true true] [.t,.N,.R,.X,.E] λcs5=>
 some ((φ [],[ζ (U cs5 true true)])))
 (some ((φ [],[ζ (U cs3 true true)]))))
 (some ((φ [],[ζ (U cs3 true true)])))))
 (br (A.lt n1 n6)
 (br (A.lt n6 n4)
 (Ae D (Φ 243) [π 0 0 n 3,iv n1,iv n6,iv n4,Arj (Fn.func 153) [] []] [U cs1 true true] [.t,.N,.R,.X,.E] λcs3=>
 br (A.lt n4 (A.sub Δ n5 n6))
 (br (A.lt (A.sub Δ n5 n6) n3)
 (Ae D (Φ 243) [π 0 0 n 3,iv n4,iv (A.sub Δ n5 n6),iv n3,Arj (Fn.func 153) [] []] [U cs3 true true] [.t,.N,.R,.X,.E] λcs5=>
 some ((φ [],[ζ (U cs5 true true)])))
 (some ((φ [],[ζ (U cs3 true true)]))))
 (some ((φ [],[ζ (U cs3 true true)]))))
 (br (A.lt n4 (A.sub Δ n5 n6))
 (br (A.lt (A.sub Δ n5 n6) n3)
 (Ae D (Φ 243) [π 0 0 n 3,iv n4,iv (A.sub Δ n5 n6),iv n3,Arj (Fn.func 153) [] []] [U cs1 true true] [.t,.N,.R,.X,.E] λcs3=>
 some ((φ [],[ζ (U cs3 true true)])))
 (some ((φ [],[ζ (U cs1 true true)]))))
 (some ((φ [],[ζ (U cs1 true true)])))))
 (br (A.lt n4 (A.sub Δ n5 n6))
 (br (A.lt (A.sub Δ n5 n6) n3)
 (Ae D (Φ 243) [π 0 0 n 3,iv n4,iv (A.sub Δ n5 n6),iv n3,Arj (Fn.func 153) [] []] [U cs1 true true] [.t,.N,.R,.X,.E] λcs3=>
 some ((φ [],[ζ (U cs3 true true)])))
 (some ((φ [],[ζ (U cs1 true true)]))))
 (some ((φ [],[ζ (U cs1 true true)]))))))
 (br (A.lt n1 n6)
 (br (A.lt n6 n4)
 (Ae D (Φ 243) [π 0 0 n 3,iv n1,iv n6,iv n4,Arj (Fn.func 153) [] []] [U cs1 true true] [.t,.N,.R,.X,.E] λcs3=>
 br (A.lt n4 (A.sub Δ n5 n6))
 (br (A.lt (A.sub Δ n5 n6) n3)
 (Ae D (Φ 243) [π 0 0 n 3,iv n4,iv (A.sub Δ n5 n6),iv n3,Arj (Fn.func 153) [] []] [U cs3 true true] [.t,.N,.R,.X,.E] λcs5=>
 some ((φ [],[ζ (U cs5 true true)])))
 (some ((φ [],[ζ (U cs3 true true)]))))
 (some ((φ [],[ζ (U cs3 true true)]))))
 (br (A.lt n4 (A.sub Δ n5 n6))
 (br (A.lt (A.sub Δ n5 n6) n3)
 (Ae D (Φ 243) [π 0 0 n 3,iv n4,iv (A.sub Δ n5 n6),iv n3,Arj (Fn.func 153) [] []] [U cs1 true true] [.t,.N,.R,.X,.E] λcs3=>
 some ((φ [],[ζ (U cs3 true true)])))
 (some ((φ [],[ζ (U cs1 true true)]))))
 (some ((φ [],[ζ (U cs1 true true)])))))
 (br (A.lt n4 (A.sub Δ n5 n6))
 (br (A.lt (A.sub Δ n5 n6) n3)
 (Ae D (Φ 243) [π 0 0 n 3,iv n4,iv (A.sub Δ n5 n6),iv n3,Arj (Fn.func 153) [] []] [U cs1 true true] [.t,.N,.R,.X,.E] λcs3=>
 some ((φ [],[ζ (U cs3 true true)])))
 (some ((φ [],[ζ (U cs1 true true)]))))
 (some ((φ [],[ζ (U cs1 true true)]))))))
 (none))
 (Ae D (Arh 243 4) [π 0 0 n0 3,iv x1,iv x2,iv x3,Arj (Fn.func 153) [] [],iv (A.conv Δ (A.shr θ (A.conv θ (A.add Δ x1 x3)) 1)),iv (A.add Δ (A.conv Δ (A.shr θ (A.conv θ (A.add Δ x1 x3)) 1)) x2),iv x1,iv x2,iv (A.sub Δ (A.add Δ (A.conv Δ (A.shr θ (A.conv θ (A.add Δ x1 x3)) 1)) x2) 1)] [U c0 true true] [.t,.C,.x,.X,.Y] λc l o=>
 br (Bb 9 c)
 (dk [.C,.q 0 3,.I,.I,.I,.C,.f 153,.I,.I,.I,.N,.R,.X,.E] [.l l,.o o] λn n1 n2 n3 n4 n5 n6 cs1=>
 br (A.lt n6 n2)
 (br (A.lt n2 (A.sub Δ n5 n6))
 (Ae D (Φ 260) [π 0 0 n 3,iv n6,iv n2,iv (A.sub Δ n5 n6),Arj (Fn.func 153) [] []] [U cs1 true true] [.t,.N,.R,.X,.E] λcs3=>
 br (A.lt n1 n6)
 (br (A.lt n6 n4)
 (Ae D (Φ 243) [π 0 0 n 3,iv n1,iv n6,iv n4,Arj (Fn.func 153) [] []] [U cs3 true true] [.t,.N,.R,.X,.E] λcs5=>
 br (A.lt n4 (A.sub Δ n5 n6))
 (br (A.lt (A.sub Δ n5 n6) n3)
 (Ae D (Φ 243) [π 0 0 n 3,iv n4,iv (A.sub Δ n5 n6),iv n3,Arj (Fn.func 153) [] []] [U cs5 true true] [.t,.N,.R,.X,.E] λcs7=>
 some ((φ [],[ζ (U cs7 true true)])))
 (some ((φ [],[ζ (U cs5 true true)]))))
 (some ((φ [],[ζ (U cs5 true true)]))))
 (br (A.lt n4 (A.sub Δ n5 n6))
 (br (A.lt (A.sub Δ n5 n6) n3)
 (Ae D (Φ 243) [π 0 0 n 3,iv n4,iv (A.sub Δ n5 n6),iv n3,Arj (Fn.func 153) [] []] [U cs3 true true] [.t,.N,.R,.X,.E] λcs5=>
 some ((φ [],[ζ (U cs5 true true)])))
 (some ((φ [],[ζ (U cs3 true true)]))))
 (some ((φ [],[ζ (U cs3 true true)])))))
 (br (A.lt n4 (A.sub Δ n5 n6))
 (br (A.lt (A.sub Δ n5 n6) n3)
 (Ae D (Φ 243) [π 0 0 n 3,iv n4,iv (A.sub Δ n5 n6),iv n3,Arj (Fn.func 153) [] []] [U cs3 true true] [.t,.N,.R,.X,.E] λcs5=>
 some ((φ [],[ζ (U cs5 true true)])))
 (some ((φ [],[ζ (U cs3 true true)]))))
 (some ((φ [],[ζ (U cs3 true true)])))))
 (br (A.lt n1 n6)
 (br (A.lt n6 n4)
 (Ae D (Φ 243) [π 0 0 n 3,iv n1,iv n6,iv n4,Arj (Fn.func 153) [] []] [U cs1 true true] [.t,.N,.R,.X,.E] λcs3=>
 br (A.lt n4 (A.sub Δ n5 n6))
 (br (A.lt (A.sub Δ n5 n6) n3)
 (Ae D (Φ 243) [π 0 0 n 3,iv n4,iv (A.sub Δ n5 n6),iv n3,Arj (Fn.func 153) [] []] [U cs3 true true] [.t,.N,.R,.X,.E] λcs5=>
 some ((φ [],[ζ (U cs5 true true)])))
 (some ((φ [],[ζ (U cs3 true true)]))))
 (some ((φ [],[ζ (U cs3 true true)]))))
 (br (A.lt n4 (A.sub Δ n5 n6))
 (br (A.lt (A.sub Δ n5 n6) n3)
 (Ae D (Φ 243) [π 0 0 n 3,iv n4,iv (A.sub Δ n5 n6),iv n3,Arj (Fn.func 153) [] []] [U cs1 true true] [.t,.N,.R,.X,.E] λcs3=>
 some ((φ [],[ζ (U cs3 true true)])))
 (some ((φ [],[ζ (U cs1 true true)]))))
 (some ((φ [],[ζ (U cs1 true true)])))))
 (br (A.lt n4 (A.sub Δ n5 n6))
 (br (A.lt (A.sub Δ n5 n6) n3)
 (Ae D (Φ 243) [π 0 0 n 3,iv n4,iv (A.sub Δ n5 n6),iv n3,Arj (Fn.func 153) [] []] [U cs1 true true] [.t,.N,.R,.X,.E] λcs3=>
 some ((φ [],[ζ (U cs3 true true)])))
 (some ((φ [],[ζ (U cs1 true true)]))))
 (some ((φ [],[ζ (U cs1 true true)]))))))
 (br (A.lt n1 n6)
 (br (A.lt n6 n4)
 (Ae D (Φ 243) [π 0 0 n 3,iv n1,iv n6,iv n4,Arj (Fn.func 153) [] []] [U cs1 true true] [.t,.N,.R,.X,.E] λcs3=>
 br (A.lt n4 (A.sub Δ n5 n6))
 (br (A.lt (A.sub Δ n5 n6) n3)
 (Ae D (Φ 243) [π 0 0 n 3,iv n4,iv (A.sub Δ n5 n6),iv n3,Arj (Fn.func 153) [] []] [U cs3 true true] [.t,.N,.R,.X,.E] λcs5=>
 some ((φ [],[ζ (U cs5 true true)])))
 (some ((φ [],[ζ (U cs3 true true)]))))
 (some ((φ [],[ζ (U cs3 true true)]))))
 (br (A.lt n4 (A.sub Δ n5 n6))
 (br (A.lt (A.sub Δ n5 n6) n3)
 (Ae D (Φ 243) [π 0 0 n 3,iv n4,iv (A.sub Δ n5 n6),iv n3,Arj (Fn.func 153) [] []] [U cs1 true true] [.t,.N,.R,.X,.E] λcs3=>
 some ((φ [],[ζ (U cs3 true true)])))
 (some ((φ [],[ζ (U cs1 true true)]))))
 (some ((φ [],[ζ (U cs1 true true)])))))
 (br (A.lt n4 (A.sub Δ n5 n6))
 (br (A.lt (A.sub Δ n5 n6) n3)
 (Ae D (Φ 243) [π 0 0 n 3,iv n4,iv (A.sub Δ n5 n6),iv n3,Arj (Fn.func 153) [] []] [U cs1 true true] [.t,.N,.R,.X,.E] λcs3=>
 some ((φ [],[ζ (U cs3 true true)])))
 (some ((φ [],[ζ (U cs1 true true)]))))
 (some ((φ [],[ζ (U cs1 true true)]))))))
 (none))))):=by kernel_rfl
theorem VG(n0:Nat)(c0:List AV)(t1 t10 t11:Int):EH A D Ag CY .n 243 0 (AW Ir 0).fst (AW Ir 0).snd [π 0 0 n0 3,iv t1,Arj (Fn.func 153) [] [],iv t10,iv t11] [{ cells:=c0,st:=true,ex:=true }] =
 br (A.lt t10 t11)
 (br (A.lt 1 0)
 (none)
 (unI (A.conv Δ (A.shr θ (A.conv θ (A.add Δ t10 t11)) 1)) λi=>
 br (i.blt n0) (Iw c0 (0+i*3) 3 λcs=>
 dk [.I,.B,.L,.N] [.l cs] λn b xs=>
 unI t1 λi1=>
 br (i1.blt n0) (Iw c0 (0+i1*3) 3 λcs1=>
 dk [.I,.B,.L,.N] [.l cs1] λn1 b1 xs1=>
 Ae D (Φ 153) [Ξ [iv n,bv b,V xs],Ξ [iv n1,bv b1,V xs1]] [] [.i,.E] λn2=>
 br (A.lt n2 0)
 (AD D (Arh 243 0) [π 0 0 n0 3,iv t1,Arj (Fn.func 153) [] [],iv (A.add Δ (A.conv Δ (A.shr θ (A.conv θ (A.add Δ t10 t11)) 1)) 1),iv t11] [U c0 true true] λr1 o1=>
 AE 1 [0] (AH.mk [(0,U c0 true true)] 1 none) [] r1 o1)
 (AD D (Arh 243 0) [π 0 0 n0 3,iv t1,Arj (Fn.func 153) [] [],iv t10,iv (A.conv Δ (A.shr θ (A.conv θ (A.add Δ t10 t11)) 1))] [U c0 true true] λr1 o1=>
 AE 1 [0] (AH.mk [(0,U c0 true true)] 1 none) [] r1 o1)) none) none))
 (some ((φ [iv 0,π 0 0 n0 3,iv t1,iv t10],[ζ (U c0 true true)]))):=by kernel_rfl
theorem Abr(n0:Nat)(c0:List AV)(t10 t13:Int):EH A D Ag CY .n 243 1 (AW Ir 1).fst (AW Ir 1).snd [π 0 0 n0 3,iv t10,iv t13] [{ cells:=c0,st:=true,ex:=true }] =
 br (A.lt t13 (A.sub Δ t10 1))
 (unI (A.add Δ t13 1) λi=>
 br (i.blt n0) (Iw c0 (0+i*3) 3 λcs=>
 dk [.I,.B,.L,.N] [.l cs] λn b xs=>
 unI t13 λi1=>
 br (i1.blt n0) (Iw c0 (0+i1*3) 3 λcs1=>
 dk [.I,.B,.L,.N] [.l cs1] λn1 b1 xs1=>
 unI t13 λi2=>
 br (i2.blt n0) (br ((0+i2*3+3).ble c0.length) (unI (A.add Δ t13 1) λi3=>
 br (i3.blt n0) (br ((0+i3*3+3).ble (AR c0 (0+i2*3) [iv n,bv b,V xs]).length) (AD D (Arh 243 1) [π 0 0 n0 3,iv t10,iv (A.add Δ t13 1)] [U (AR (AR c0 (0+i2*3) [iv n,bv b,V xs]) (0+i3*3) [iv n1,bv b1,V xs1]) true true] λr o=>
 AE 1 [0] (AH.mk [(0,U (AR (AR c0 (0+i2*3) [iv n,bv b,V xs]) (0+i3*3) [iv n1,bv b1,V xs1]) true true)] 1 none) [0] r o) none) none) none) none) none) none)
 (some ((φ [iv 2,π 0 0 n0 3],[ζ (U c0 true true)]))):=by kernel_rfl
theorem VH(n0:Nat)(c0:List AV)(t2 t14 t15:Int):EH A D Ag CY .n 243 2 (AW Ir 2).fst (AW Ir 2).snd [π 0 0 n0 3,iv t2,Arj (Fn.func 153) [] [],iv t14,iv t15] [{ cells:=c0,st:=true,ex:=true }] =
 br (A.lt t14 t15)
 (br (A.lt 1 0)
 (none)
 (unI t2 λi=>
 br (i.blt n0) (Iw c0 (0+i*3) 3 λcs=>
 dk [.I,.B,.L,.N] [.l cs] λn b xs=>
 unI (A.conv Δ (A.shr θ (A.conv θ (A.add Δ t14 t15)) 1)) λi1=>
 br (i1.blt n0) (Iw c0 (0+i1*3) 3 λcs1=>
 dk [.I,.B,.L,.N] [.l cs1] λn1 b1 xs1=>
 Ae D (Φ 153) [Ξ [iv n,bv b,V xs],Ξ [iv n1,bv b1,V xs1]] [] [.i,.E] λn2=>
 br (A.lt n2 0)
 (AD D (Arh 243 2) [π 0 0 n0 3,iv t2,Arj (Fn.func 153) [] [],iv t14,iv (A.conv Δ (A.shr θ (A.conv θ (A.add Δ t14 t15)) 1))] [U c0 true true] λr1 o1=>
 AE 1 [0] (AH.mk [(0,U c0 true true)] 1 none) [] r1 o1)
 (AD D (Arh 243 2) [π 0 0 n0 3,iv t2,Arj (Fn.func 153) [] [],iv (A.add Δ (A.conv Δ (A.shr θ (A.conv θ (A.add Δ t14 t15)) 1)) 1),iv t15] [U c0 true true] λr1 o1=>
 AE 1 [0] (AH.mk [(0,U c0 true true)] 1 none) [] r1 o1)) none) none))
 (some ((φ [iv 4,π 0 0 n0 3,iv t2,iv t14],[ζ (U c0 true true)]))):=by kernel_rfl
theorem Abs(n0:Nat)(c0:List AV)(t14 t17:Int):EH A D Ag CY .n 243 3 (AW Ir 3).fst (AW Ir 3).snd [π 0 0 n0 3,iv t14,iv t17] [{ cells:=c0,st:=true,ex:=true }] =
 br (A.lt t14 t17)
 (unI (A.sub Δ t17 1) λi=>
 br (i.blt n0) (Iw c0 (0+i*3) 3 λcs=>
 dk [.I,.B,.L,.N] [.l cs] λn b xs=>
 unI t17 λi1=>
 br (i1.blt n0) (Iw c0 (0+i1*3) 3 λcs1=>
 dk [.I,.B,.L,.N] [.l cs1] λn1 b1 xs1=>
 unI t17 λi2=>
 br (i2.blt n0) (br ((0+i2*3+3).ble c0.length) (unI (A.sub Δ t17 1) λi3=>
 br (i3.blt n0) (br ((0+i3*3+3).ble (AR c0 (0+i2*3) [iv n,bv b,V xs]).length) (AD D (Arh 243 3) [π 0 0 n0 3,iv t14,iv (A.sub Δ t17 1)] [U (AR (AR c0 (0+i2*3) [iv n,bv b,V xs]) (0+i3*3) [iv n1,bv b1,V xs1]) true true] λr o=>
 AE 1 [0] (AH.mk [(0,U (AR (AR c0 (0+i2*3) [iv n,bv b,V xs]) (0+i3*3) [iv n1,bv b1,V xs1]) true true)] 1 none) [0] r o) none) none) none) none) none) none)
 (some ((φ [iv 6,π 0 0 n0 3],[ζ (U c0 true true)]))):=by kernel_rfl
theorem VI(n0:Nat)(c0:List AV)(t1 t2 t3 t18 t19 t20 t21 t22:Int):EH A D Ag CY .n 243 4 (AW Ir 4).fst (AW Ir 4).snd [π 0 0 n0 3,iv t1,iv t2,iv t3,Arj (Fn.func 153) [] [],iv t18,iv t19,iv t20,iv t21,iv t22] [{ cells:=c0,st:=true,ex:=true }] =
 br (A.lt t20 t21)
 (br (A.lt 1 0)
 (none)
 (unI (A.sub Δ t22 (A.conv Δ (A.shr θ (A.conv θ (A.add Δ t20 t21)) 1))) λi=>
 br (i.blt n0) (Iw c0 (0+i*3) 3 λcs=>
 dk [.I,.B,.L,.N] [.l cs] λn b xs=>
 unI (A.conv Δ (A.shr θ (A.conv θ (A.add Δ t20 t21)) 1)) λi1=>
 br (i1.blt n0) (Iw c0 (0+i1*3) 3 λcs1=>
 dk [.I,.B,.L,.N] [.l cs1] λn1 b1 xs1=>
 Ae D (Φ 153) [Ξ [iv n,bv b,V xs],Ξ [iv n1,bv b1,V xs1]] [] [.i,.E] λn2=>
 br (A.lt n2 0)
 (AD D (Arh 243 4) [π 0 0 n0 3,iv t1,iv t2,iv t3,Arj (Fn.func 153) [] [],iv t18,iv t19,iv t20,iv (A.conv Δ (A.shr θ (A.conv θ (A.add Δ t20 t21)) 1)),iv t22] [U c0 true true] λr1 o1=>
 AE 1 [0] (AH.mk [(0,U c0 true true)] 1 none) [] r1 o1)
 (AD D (Arh 243 4) [π 0 0 n0 3,iv t1,iv t2,iv t3,Arj (Fn.func 153) [] [],iv t18,iv t19,iv (A.add Δ (A.conv Δ (A.shr θ (A.conv θ (A.add Δ t20 t21)) 1)) 1),iv t21,iv t22] [U c0 true true] λr1 o1=>
 AE 1 [0] (AH.mk [(0,U c0 true true)] 1 none) [] r1 o1)) none) none))
 (some ((φ [iv 8,π 0 0 n0 3,iv t1,iv t2,iv t3,Arj (Fn.func 153) [] [],iv t18,iv t19,iv t20],[ζ (U c0 true true)]))):=by kernel_rfl
theorem ApG(n0:Nat)(c0:List AV)(x1 x2 x3:Int):By A D Ag QB .n 260 XQ [π 0 0 n0 3,iv x1,iv x2,iv x3,Arj (Fn.func 153) [] []] [{ cells:=c0,st:=true,ex:=true }] =
 Ae D (Arh 260 0) [π 0 0 n0 3,iv x2,Arj (Fn.func 153) [] [],iv (A.sub Δ x2 x1),iv (A.sub Δ x3 x2)] [U c0 true true] [.t,.C,.x,.X,.Y] λc l o=>
 br (Bb 1 c)
 (dk [.C,.q 0 3,.I,.C,.f 153,.I,.N,.R,.X,.E] [.l l,.o o] λn n1 n2 cs1=>
 Ae D (Φ 273) [π 0 0 n 3,iv (A.sub Δ n1 n2),iv n1,iv n2,Arj (Fn.func 153) [] []] [U cs1 true true] [.t,.N,.R,.X,.E] λcs3=>
 some ((φ [],[ζ (U cs3 true true)])))
 (none):=by kernel_rfl
theorem VJ(n0:Nat)(c0:List AV)(t2 t10 t11:Int):EH A D Ag QB .n 260 0 (AW XQ 0).fst (AW XQ 0).snd [π 0 0 n0 3,iv t2,Arj (Fn.func 153) [] [],iv t10,iv t11] [{ cells:=c0,st:=true,ex:=true }] =
 br (A.eq t10 t11)
 (some ((φ [iv 0,π 0 0 n0 3,iv t2,Arj (Fn.func 153) [] [],iv t10],[ζ (U c0 true true)])))
 (br (A.lt t11 t10)
 (Ae D (Φ 273) [π 0 0 n0 3,iv (A.sub Δ t2 t10),iv t2,iv t11,Arj (Fn.func 153) [] []] [U c0 true true] [.t,.N,.R,.X,.E] λcs1=>
 AD D (Arh 260 0) [π 0 0 n0 3,iv t2,Arj (Fn.func 153) [] [],iv (A.sub Δ t10 t11),iv t11] [U cs1 true true] λr1 o1=>
 AE 1 [0] (AH.mk [(0,U cs1 true true)] 1 none) [0] r1 o1)
 (Ae D (Φ 273) [π 0 0 n0 3,iv (A.sub Δ t2 t10),iv (A.sub Δ (A.add Δ t2 t11) t10),iv t10,Arj (Fn.func 153) [] []] [U c0 true true] [.t,.N,.R,.X,.E] λcs1=>
 AD D (Arh 260 0) [π 0 0 n0 3,iv t2,Arj (Fn.func 153) [] [],iv t10,iv (A.sub Δ t11 t10)] [U cs1 true true] λr1 o1=>
 AE 1 [0] (AH.mk [(0,U cs1 true true)] 1 none) [0] r1 o1)):=by kernel_rfl
theorem ApN(n0:Nat)(c0:List AV)(x1 x2 x3:Int):By A D Ag TH .n 273 XS [π 0 0 n0 3,iv x1,iv x2,iv x3,Arj (Fn.func 153) [] []] [{ cells:=c0,st:=true,ex:=true }] =
 Ae D (Arh 273 0) [π 0 0 n0 3,iv x1,iv x2,iv x3,iv 0] [U c0 true true] [.t,.C,.x,.X,.Y] λc l o=>
 br (Bb 1 c)
 (dk [.C,.q 0 3,.N,.R,.X,.E] [.l l,.o o] λ_ cs1=>
 some ((φ [],[ζ (U cs1 true true)])))
 (none):=by kernel_rfl
theorem Aby(n0:Nat)(c0:List AV)(t1 t2 t3 t10:Int):EH A D Ag TH .n 273 0 (AW XS 0).fst (AW XS 0).snd [π 0 0 n0 3,iv t1,iv t2,iv t3,iv t10] [{ cells:=c0,st:=true,ex:=true }] =
 br (A.lt t10 t3)
 (unI (A.add Δ t2 t10) λi=>
 br (i.blt n0) (Iw c0 (0+i*3) 3 λcs=>
 dk [.I,.B,.L,.N] [.l cs] λn b xs=>
 unI (A.add Δ t1 t10) λi1=>
 br (i1.blt n0) (Iw c0 (0+i1*3) 3 λcs1=>
 dk [.I,.B,.L,.N] [.l cs1] λn1 b1 xs1=>
 unI (A.add Δ t1 t10) λi2=>
 br (i2.blt n0) (br ((0+i2*3+3).ble c0.length) (unI (A.add Δ t2 t10) λi3=>
 br (i3.blt n0) (br ((0+i3*3+3).ble (AR c0 (0+i2*3) [iv n,bv b,V xs]).length) (AD D (Arh 273 0) [π 0 0 n0 3,iv t1,iv t2,iv t3,iv (A.add Δ t10 1)] [U (AR (AR c0 (0+i2*3) [iv n,bv b,V xs]) (0+i3*3) [iv n1,bv b1,V xs1]) true true] λr o=>
 AE 1 [0] (AH.mk [(0,U (AR (AR c0 (0+i2*3) [iv n,bv b,V xs]) (0+i3*3) [iv n1,bv b1,V xs1]) true true)] 1 none) [0] r o) none) none) none) none) none) none)
 (some ((φ [iv 0,π 0 0 n0 3],[ζ (U c0 true true)]))):=by kernel_rfl
theorem Amd(n0:Nat)(c0:List AV):By A D Ag ON .n 156 XI [π 0 0 n0 3,Arj (Fn.func 157) [] []] [{ cells:=c0,st:=true,ex:=true }] =
 Ae D (Φ 208) [π 0 0 n0 3,Arj (Fn.func 157) [] []] [U c0 true true] [.i,.R,.X,.E] λn cs=>
 br (A.eq n (-1))
 (some ((π 0 0 n0 3,[ζ (U cs true true)])))
 (Ae D (Arh 156 0) [π 0 0 n0 3,Arj (Fn.func 157) [] [],iv n,iv (A.add Δ n 1)] [U cs true true] [.t,.C,.x,.X,.Y] λc1 l1 o1=>
 br (Bb 1 c1)
 (dk [.C,.q 0 3,.I,.N,.R,.X,.E] [.l l1,.o o1] λn1 n2 cs2=>
 unI n2 λi=>
 br (OS i n1 n1) (br ((0+i*3+(n1-i)*3).ble cs2.length) (unI n2 λi1=>
 br (OS 0 i1 n1) (some ((π 0 0 i1 3,[ζ (U (AR cs2 (0+i*3) (CE [iv 0,bv false,AV.v (Value.slice none 0 0)] ((n1-i)*3))) true true)]))) none) none) none)
 (none)):=by kernel_rfl
theorem VC(n0:Nat)(c0:List AV)(t5 t6:Int):EH A D Ag ON .n 156 0 (AW XI 0).fst (AW XI 0).snd [π 0 0 n0 3,Arj (Fn.func 157) [] [],iv t5,iv t6] [{ cells:=c0,st:=true,ex:=true }] =
 br (A.lt t6 ↑n0)
 (unI t6 λi=>
 br (i.blt n0) (Iw c0 (0+i*3) 3 λcs=>
 dk [.I,.B,.L,.N] [.l cs] λn b xs=>
 Ae D (Φ 157) [Ξ [iv n,bv b,V xs]] [] [.b,.E] λb1=>
 br b1
 (AD D (Arh 156 0) [π 0 0 n0 3,Arj (Fn.func 157) [] [],iv t5,iv (A.add Δ t6 1)] [U c0 true true] λr1 o1=>
 AE 1 [0] (AH.mk [(1,bk [iv n,bv b,V xs]),(0,U c0 true true)] 2 none) [] r1 o1)
 (unI t5 λi1=>
 br (i1.blt n0) (br ((0+i1*3+3).ble c0.length) (AD D (Arh 156 0) [π 0 0 n0 3,Arj (Fn.func 157) [] [],iv (A.add Δ t5 1),iv (A.add Δ t6 1)] [U (AR c0 (0+i1*3) [iv n,bv b,V xs]) true true] λr1 o1=>
 AE 1 [0] (AH.mk [(0,U (AR c0 (0+i1*3) [iv n,bv b,V xs]) true true),(1,bk [iv n,bv b,V xs])] 2 none) [0] r1 o1) none) none)) none)
 (some ((φ [iv 0,π 0 0 n0 3,iv t5],[ζ (U c0 true true)]))):=by kernel_rfl
theorem Apq(n0:Nat)(c0:List AV):By A D Ag OO .n 208 XN [π 0 0 n0 3,Arj (Fn.func 157) [] []] [{ cells:=c0,st:=true,ex:=true }] =
 Ae D (Arh 208 0) [π 0 0 n0 3,Arj (Fn.func 157) [] [],iv ↑n0,iv 0] [U c0 true true] [.t,.C,.x,.X,.Y] λc l o=>
 br (Bb 0 c)
 (dk [.C,.q 0 3,.I,.N,.R,.X,.E] [.l l,.o o] λ_ n1 cs1=>
 some ((iv n1,[ζ (U cs1 true true)])))
 (br (Bb 1 c)
 (dk [.C,.q 0 3,.N,.R,.X,.E] [.l l,.o o] λ_ cs1=>
 some ((iv (-1),[ζ (U cs1 true true)])))
 (none)):=by kernel_rfl
theorem RY(n0:Nat)(c0:List AV)(t7 t8:Int):EH A D Ag OO .n 208 0 (AW XN 0).fst (AW XN 0).snd [π 0 0 n0 3,Arj (Fn.func 157) [] [],iv t7,iv t8] [{ cells:=c0,st:=true,ex:=true }] =
 br (A.lt t8 t7)
 (unI t8 λi=>
 br (i.blt n0) (Iw c0 (0+i*3) 3 λcs=>
 dk [.I,.B,.L,.N] [.l cs] λn b xs=>
 Ae D (Φ 157) [Ξ [iv n,bv b,V xs]] [] [.b,.E] λb1=>
 br b1
 (some ((φ [bv true,π 0 0 n0 3,iv t8],[ζ (U c0 true true)])))
 (AD D (Arh 208 0) [π 0 0 n0 3,Arj (Fn.func 157) [] [],iv t7,iv (A.add Δ t8 1)] [U c0 true true] λr1 o1=>
 AE 1 [0] (AH.mk [(0,U c0 true true)] 1 none) [] r1 o1)) none)
 (some ((φ [iv 0,π 0 0 n0 3],[ζ (U c0 true true)]))):=by kernel_rfl
end
section
open Go.RowKit
def Ajl:MFn:=Ce [] 155
def Ah6:Hnt:=⟨[(145,(.agg [.bool,.ls],[]))],[],[(4,[.bool]),(6,[.ls])]⟩
def Aqk:Bv:=[⟨74,[false,false,true,false,true,false,false,false,false,false,false,false,false,false,false,false,false,true,true,true],[(1000004,3)],[2,17],[(1,([false,false,true,false,true],([],[])))]⟩]
def Agn:MFn:=Ce Aqk 89
def Ach:Hnt:=⟨[(87,(.agg [.bool,.ls],[])),(151,(.sl 0 3,[.row true])),(152,(.tup [],[.row true])),(155,(.agg [.bool,.ls],[])),(156,(.sl 0 3,[.row true]))],[(0,[(1,([.ptr 0 0,.ptr 1 0],[.box [.ls,.bool,.ls],.box [.sl 3 3,.bool,.ls],.del,.row true]))])],[(9,[.ls]),(14,[.bool,.ls]),(21,[.int .i64,.bool,.ls]),(22,[.int .i64,.bool,.ls]),(24,[.int .i64]),(27,[.ls]),(34,[.ls]),(36,[.int .i64,.bool,.ls]),(38,[.int .i64]),(40,[.int .i64]),(44,[.ls]),(47,[.ls]),(49,[.int .i64,.bool,.ls]),(51,[.bool,.ls]),(53,[.bool,.ls]),(55,[.int .i64,.bool,.ls]),(58,[.ls]),(60,[.int .i64]),(62,[.bool,.ls]),(70,[.ls]),(73,[.ls,.bool,.ls])]⟩
def J4:List (Nat × MFn):=[(155,Ajl),(89,Agn)]
variable (A:Ar) (D:Orc)
theorem Ao3(x0_0:Bool)(x0_1:Rw):By A D Ag Ah6 .n 155 Ajl [Ξ [bv x0_0,V x0_1]] [] =
 Ae D (Φ 145) [bv x0_0,V x0_1] [] [.a,.B,.L,.N,.E] λb xs=>
 some ((Ξ [bv b,V xs],[])):=by kernel_rfl
theorem e89(x0_0:Rw)(x0_1:Bool)(x0_2:Rw):By A D Ag Ach .n 89 Agn [Ξ [V x0_0,bv x0_1,V x0_2]] [] =
 Ae D (Φ 151) [V x0_0] [] [.q 0 3,.R,.X,.E] λn cs=>
 Ae D (Φ 152) [π 0 0 n 3,Arj (Fn.func 153) [] []] [U cs true true] [.t,.N,.R,.X,.E] λcs2=>
 Ae D (Φ 155) [Ξ [bv x0_1,V x0_2]] [] [.a,.B,.L,.N,.E] λb xs=>
 br ((0+n*3).ble cs2.length) (AD D (Arh 89 0) [δ 0 0,δ 1 0,V (BC n 3 (ι (n*3) cs2)),iv ↑n,iv 0] [bk [V [],bv false,V []],bk [π 2 0 0 3,bv b,V xs],U [] true true] λr3 o3=>
 dk [.t,.C,.x,.X] [.v r3] λc2 l4=>
 br (Bb 1 c2)
 (dk [.P 0 0,.P 1 0,.N,.T,.L,.B,.L,.N,.T,.C,.q 3 3,.B,.L,.N,.D,.R,.X,.E] [.l l4,.o o3] λ_ _ _ n1 b2 xs3 cs7=>
 Ae D (Φ 156) [π 0 0 n1 3,Arj (Fn.func 157) [] []] [U cs7 true true] [.q 0 3,.R,.X,.E] λn2 cs8=>
 br ((0+n2*3).ble cs8.length) (some ((Ξ [V (BC n2 3 (ι (n2*3) cs8)),bv b2,V xs3],[]))) none)
 (none)) none:=by kernel_rfl
theorem AhH(r0:Rw)(r1:Bool)(r2:Rw)(n4:Nat)(k1:Bool)(k2:Rw)(c4:List AV)(t17:Rw)(t18 t19:Int):EH A D Ag Ach .n 89 0 (AW Agn 0).fst (AW Agn 0).snd [δ 0 0,δ 1 0,V t17,iv t18,iv t19] [bk [V r0,bv r1,V r2],bk [π 2 0 n4 3,bv k1,V k2],{ cells:=c4,st:=true,ex:=true }] =
 br (A.lt t19 t18)
 (unI t19 λi=>
 B7 t17 i λcs=>
 dk [.I,.B,.L,.N] [.l cs] λn b xs=>
 br (A.lt n 0)
 (AD D (Arh 89 0) [δ 0 0,δ 1 0,V t17,iv t18,iv (A.add Δ t19 1)] [bk [V r0,bv r1,V r2],bk [π 2 0 n4 3,bv k1,V k2],U c4 true true] λr o=>
 AE 3 [0,1,2] (AH.mk [(0,bk [V r0,bv r1,V r2]),(3,bk [iv n,bv b,V xs]),(1,bk [π 2 0 n4 3,bv k1,V k2]),(2,U c4 true true)] 4 none) [0] r o)
 (br (A.le 0 (A.sub Δ (↑n4) 1))
 (unI (A.sub Δ (↑n4) 1) λi1=>
 br (i1.blt n4) (Iw c4 (0+i1*3+0) 1 λcs1=>
 dk [.I,.N] [.l cs1] λn1=>
 br (A.eq n1 n)
 (unI (A.sub Δ (↑n4) 1) λi2=>
 br (i2.blt n4) (Iw c4 (0+i2*3+1) 2 λcs2=>
 dk [.B,.L,.N] [.l cs2] λb1 xs1=>
 Ae D (Φ 87) [Ξ [bv b1,V xs1],Ξ [bv b,V xs]] [] [.a,.B,.L,.N,.E] λb2 xs2=>
 unI (A.sub Δ (↑n4) 1) λi3=>
 br (i3.blt n4) (br ((0+i3*3+1+2).ble c4.length) (AD D (Arh 89 0) [δ 0 0,δ 1 0,V t17,iv t18,iv (A.add Δ t19 1)] [bk [V r0,bv r1,V r2],bk [π 2 0 n4 3,bv k1,V k2],U (AR c4 (0+i3*3+1) [bv b2,V xs2]) true true] λr3 o1=>
 AE 3 [0,1,2] (AH.mk [(0,bk [V r0,bv r1,V r2]),(2,U (AR c4 (0+i3*3+1) [bv b2,V xs2]) true true),(3,bk [iv n,bv b,V xs]),(1,bk [π 2 0 n4 3,bv k1,V k2])] 4 none) [2,0] r3 o1) none) none) none)
 (Ae D (Φ 155) [Ξ [bv b,V xs]] [] [.a,.B,.L,.N,.E] λb1 xs1=>
 br (Bc (n4+1) 40) (br ((0+n4*3).ble c4.length) (AD D (Arh 89 0) [δ 0 0,δ 1 0,V t17,iv t18,iv (A.add Δ t19 1)] [bk [V r0,bv r1,V r2],bk [π 2 0 (n4+1) 3,bv k1,V k2],U (ο 0 (ι (0+n4*3) c4)++[iv n,bv b1,V xs1]) true true] λr3 o1=>
 AE 3 [0,1,5] (AH.mk [(0,bk [V r0,bv r1,V r2]),(1,bk [π 5 0 (n4+1) 3,bv k1,V k2]),(5,U (ο 0 (ι (0+n4*3) c4)++[iv n,bv b1,V xs1]) true true),(4,U [iv n,bv b1,V xs1] true true),(3,bk [iv n,bv b,V xs])] 6 none) [2,1,0] r3 o1) none) none)) none)
 (Ae D (Φ 155) [Ξ [bv b,V xs]] [] [.a,.B,.L,.N,.E] λb1 xs1=>
 br (Bc (n4+1) 40) (br ((0+n4*3).ble c4.length) (AD D (Arh 89 0) [δ 0 0,δ 1 0,V t17,iv t18,iv (A.add Δ t19 1)] [bk [V r0,bv r1,V r2],bk [π 2 0 (n4+1) 3,bv k1,V k2],U (ο 0 (ι (0+n4*3) c4)++[iv n,bv b1,V xs1]) true true] λr3 o1=>
 AE 3 [0,1,5] (AH.mk [(0,bk [V r0,bv r1,V r2]),(1,bk [π 5 0 (n4+1) 3,bv k1,V k2]),(5,U (ο 0 (ι (0+n4*3) c4)++[iv n,bv b1,V xs1]) true true),(4,U [iv n,bv b1,V xs1] true true),(3,bk [iv n,bv b,V xs])] 6 none) [2,1,0] r3 o1) none) none)))
 (some ((φ [iv 0,δ 0 0,δ 1 0],[ζ (bk [V r0,bv r1,V r2]),ζ (bk [π 3 0 n4 3,bv k1,V k2]),BO.del,ζ (U c4 true true)]))):=by kernel_rfl
end
section
open Go.RowKit
def Ana:Bv:=[⟨36,[true,false,false,true,false,false,false,false,false,true,true,true],[],[],[(1,([true,false,false,true],([],[])))]⟩,⟨36,[false,false,false,false,false,false,true,false,false,false,false,false,false,false,false,false,false,false,false,false,false,false,false,false,false,true,true,true],[(6,3)],[],[(3,([false,false,false,false,false,false,true],([],[])))]⟩]
def QW:MFn:=Ce Ana 250
def Nh:Hnt:=⟨[(263,(.sl 0 3,[.row true]))],[(0,[(1,([.ls,.int .i64],[]))]),(1,[(3,([.sl 1 3],[.del,.row true]))])],[(13,[.ls]),(14,[.ls]),(29,[.ls]),(30,[.ls])]⟩
def Ajq:MFn:=Ce [] 170
def Aib:Hnt:=⟨[(155,(.agg [.bool,.ls],[]))],[],[(3,[.bool,.ls])]⟩
def AjG:MFn:=Ce [] 223
def Air:Hnt:=⟨[(87,(.agg [.bool,.ls],[])),(89,(.agg [.ls,.bool,.ls],[])),(250,(.ls,[]))],[],[(6,[.ls]),(8,[.ls]),(12,[.bool,.ls]),(14,[.bool,.ls])]⟩
def AjH:MFn:=Ce [] 224
def Ais:Hnt:=⟨[(84,(.agg [.bool,.ls],[])),(251,(.agg [.ls,.bool,.ls],[]))],[],[(3,[.ls,.bool,.ls])]⟩
def Anb:Bv:=[⟨35,[false,false,false,true,true,true,false,false,false,false,false,false,false,false,true,true,true],[(1000005,3)],[3,4],[(1,([false,false,false,false,true,true],([],[3])))]⟩]
def XO:MFn:=Ce Anb 251
def TE:Hnt:=⟨[(89,(.agg [.ls,.bool,.ls],[])),(264,(.agg [.bool,.ls],[]))],[(0,[(1,([.ptr 1 0,.ptr 2 0],[.del,.box [.ls,.bool,.ls],.box [.sl 4 3,.bool,.ls],.del,.row true]))])],[(9,[.bool,.ls]),(10,[.bool,.ls]),(14,[.ls]),(18,[.int .i64,.bool,.ls]),(19,[.int .i64,.bool,.ls]),(21,[.ls]),(23,[.int .i64]),(25,[.bool,.ls]),(26,[.bool,.ls]),(33,[.ls,.bool,.ls])]⟩
def Ajt:MFn:=Ce [] 173
def Aie:Hnt:=⟨[(223,(.agg [.ls,.bool,.ls],[])),(224,(.agg [.ls,.bool,.ls],[]))],[],[(5,[.ls,.bool,.ls]),(6,[.ls,.bool,.ls])]⟩
def Ajs:MFn:=Ce [] 172
def Aid:Hnt:=⟨[(89,(.agg [.ls,.bool,.ls],[]))],[],[(3,[.ls,.bool,.ls])]⟩
def Aju:MFn:=Ce [] 174
def Aif:Hnt:=⟨[(89,(.agg [.ls,.bool,.ls],[]))],[],[(3,[.ls,.bool,.ls])]⟩
def Nx:List (Nat × MFn):=[(250,QW),(170,Ajq),(223,AjG),(224,AjH),(251,XO),(173,Ajt),(172,Ajs),(174,Aju)]
variable (A:Ar) (D:Orc)
theorem ApC(x0:Rw):By A D Ag Nh .n 250 QW [V x0] [] =
 Ae D (Arh 250 0) [V x0,iv 0,V x0,iv ↑(AZ x0),iv 0] [] [.t,.C,.x,.X,.Y] λc l o=>
 br (Bb 1 c)
 (dk [.L,.I,.N,.E] [.l l,.o o] λxs n=>
 Ae D (Φ 263) [AV.v (Value.slice none 0 0),iv n] [] [.q 0 3,.R,.X,.E] λn1 cs1=>
 Ae D (Arh 250 1) [π 0 0 n1 3,V xs,iv ↑(AZ xs),iv 0] [U cs1 true true] [.t,.C,.x,.X,.Y] λc2 l4 o2=>
 br (Bb 3 c2)
 (dk [.C,.q 1 3,.N,.D,.R,.X,.E] [.l l4,.o o2] λn2 cs3=>
 br ((0+n2*3).ble cs3.length) (some ((V (BC n2 3 (ι (n2*3) cs3)),[]))) none)
 (none))
 (none):=by kernel_rfl
theorem Abt(t0:Rw)(t3:Int)(t9:Rw)(t10 t11:Int):EH A D Ag Nh .n 250 0 (AW QW 0).fst (AW QW 0).snd [V t0,iv t3,V t9,iv t10,iv t11] [] =
 br (A.lt t11 t10)
 (unI t11 λi=>
 B7 t9 i λcs=>
 dk [.L,.N] [.l cs] λxs=>
 br (A.lt (A.add Δ t3 ↑(AZ xs)) 0)
 (none)
 (AD D (Arh 250 0) [V t0,iv (A.add Δ t3 ↑(AZ xs)),V t9,iv t10,iv (A.add Δ t11 1)] [] λr o=>
 AE 0 [] (AH.mk [] 0 none) [] r o))
 (some ((φ [iv 0,V t0,iv t3],[]))):=by kernel_rfl
theorem Abu(n6:Nat)(c6:List AV)(t25:Rw)(t26 t27:Int):EH A D Ag Nh .n 250 1 (AW QW 1).fst (AW QW 1).snd [π 0 0 n6 3,V t25,iv t26,iv t27] [{ cells:=c6,st:=true,ex:=true }] =
 br (A.lt t27 t26)
 (unI t27 λi=>
 B7 t25 i λcs=>
 dk [.L,.N] [.l cs] λxs=>
 br (Hm 3 xs) (br ((AZ xs).beq 0)
 (AD D (Arh 250 1) [π 0 0 n6 3,V t25,iv t26,iv (A.add Δ t27 1)] [U c6 true true] λr o=>
 AE 1 [0] (AH.mk [(0,U c6 true true)] 1 none) [] r o)
 (br (LH (JK xs)) (br (Bc (n6+AZ xs) 40) (br ((0+n6*3).ble c6.length) (AD D (Arh 250 1) [π 0 0 (n6+AZ xs) 3,V t25,iv t26,iv (A.add Δ t27 1)] [U (ο 0 (ι (0+n6*3) c6)++JK xs) true true] λr o=>
 AE 1 [1] (AH.mk [(1,U (ο 0 (ι (0+n6*3) c6)++JK xs) true true)] 2 none) [0] r o) none) none) none)) none)
 (some ((φ [iv 2,π 1 0 n6 3],[BO.del,ζ (U c6 true true)]))):=by kernel_rfl
theorem Ao8(x0_0:Bool)(x0_1:Rw):By A D Ag Aib .n 170 Ajq [Ξ [bv x0_0,V x0_1]] [] =
 Ae D (Φ 155) [Ξ [bv x0_0,V x0_1]] [] [.a,.B,.L,.N,.E] λb xs=>
 some ((Ξ [V [],bv b,V xs],[])):=by kernel_rfl
theorem Apv(x0_0:Rw)(x0_1:Bool)(x0_2 x1_0:Rw)(x1_1:Bool)(x1_2:Rw):By A D Ag Air .n 223 AjG [Ξ [V x0_0,bv x0_1,V x0_2],Ξ [V x1_0,bv x1_1,V x1_2]] [] =
 Ae D (Φ 250) [V [[V x0_0],[V x1_0]]] [] [.l,.E] λxs=>
 Ae D (Φ 87) [Ξ [bv x0_1,V x0_2],Ξ [bv x1_1,V x1_2]] [] [.a,.B,.L,.N,.E] λb xs1=>
 Ae D (Φ 89) [Ξ [V xs,bv b,V xs1]] [] [.a,.L,.B,.L,.N,.E] λxs2 b1 xs3=>
 some ((Ξ [V xs2,bv b1,V xs3],[])):=by kernel_rfl
theorem Apw(x0_0:Rw)(x0_1:Bool)(x0_2:Rw):By A D Ag Ais .n 224 AjH [Ξ [V x0_0,bv x0_1,V x0_2]] [] =
 Ae D (Φ 84) [iv (-1)] [] [.a,.B,.L,.N,.E] λb xs=>
 Ae D (Φ 251) [Ξ [V x0_0,bv x0_1,V x0_2],Ξ [bv b,V xs]] [] [.a,.L,.B,.L,.N,.E] λxs1 b1 xs2=>
 some ((Ξ [V xs1,bv b1,V xs2],[])):=by kernel_rfl
theorem ApD(x0_0:Rw)(x0_1:Bool)(x0_2:Rw)(x1_0:Bool)(x1_1:Rw):By A D Ag TE .n 251 XO [Ξ [V x0_0,bv x0_1,V x0_2],Ξ [bv x1_0,V x1_1]] [] =
 Ae D (Φ 264) [Ξ [bv x0_1,V x0_2],Ξ [bv x1_0,V x1_1]] [] [.a,.B,.L,.N,.E] λb xs=>
 Ae D (Arh 251 0) [δ 0 0,δ 1 0,δ 2 0,V x0_0,iv ↑(AZ x0_0),iv 0] [bk [bv x1_0,V x1_1],bk [V [],bv false,V []],bk [π 3 0 0 3,bv b,V xs],U [] true true] [.t,.C,.x,.X,.Y] λc l2 o1=>
 br (Bb 1 c)
 (dk [.P 1 0,.P 2 0,.N,.D,.T,.L,.B,.L,.N,.T,.C,.q 4 3,.B,.L,.N,.D,.R,.X,.E] [.l l2,.o o1] λ_ _ _ n b2 xs3 cs4=>
 br ((0+n*3).ble cs4.length) (AD D (Φ 89) [Ξ [V (BC n 3 (ι (n*3) cs4)),bv b2,V xs3]] [] λr2 o2=>
 dk [.a,.L,.B,.L,.N,.E] [.v r2,.o o2] λxs4 b3 xs5=>
 some ((Ξ [V xs4,bv b3,V xs5],[]))) none)
 (none):=by kernel_rfl
theorem Abv(i0:Bool)(i1 r0:Rw)(r1:Bool)(r2:Rw)(n5:Nat)(k1:Bool)(k2:Rw)(c5:List AV)(t14:Rw)(t15 t16:Int):EH A D Ag TE .n 251 0 (AW XO 0).fst (AW XO 0).snd [δ 0 0,δ 1 0,δ 2 0,V t14,iv t15,iv t16] [bk [bv i0,V i1],bk [V r0,bv r1,V r2],bk [π 3 0 n5 3,bv k1,V k2],{ cells:=c5,st:=true,ex:=true }] =
 br (A.lt t16 t15)
 (unI t16 λi=>
 B7 t14 i λcs=>
 dk [.I,.B,.L,.N] [.l cs] λn b xs=>
 Ae D (Φ 264) [Ξ [bv b,V xs],Ξ [bv i0,V i1]] [] [.a,.B,.L,.N,.E] λb1 xs1=>
 br (Bc (n5+1) 40) (br ((0+n5*3).ble c5.length) (AD D (Arh 251 0) [δ 0 0,δ 1 0,δ 2 0,V t14,iv t15,iv (A.add Δ t16 1)] [bk [bv i0,V i1],bk [V r0,bv r1,V r2],bk [π 3 0 (n5+1) 3,bv k1,V k2],U (ο 0 (ι (0+n5*3) c5)++[iv n,bv b1,V xs1]) true true] λr3 o1=>
 AE 4 [0,1,2,6] (AH.mk [(1,bk [V r0,bv r1,V r2]),(0,bk [bv i0,V i1]),(2,bk [π 6 0 (n5+1) 3,bv k1,V k2]),(6,U (ο 0 (ι (0+n5*3) c5)++[iv n,bv b1,V xs1]) true true),(5,U [iv n,bv b1,V xs1] true true),(4,bk [iv n,bv b,V xs])] 7 none) [3,2,0,1] r3 o1) none) none)
 (some ((φ [iv 0,δ 1 0,δ 2 0],[BO.del,ζ (bk [V r0,bv r1,V r2]),ζ (bk [π 4 0 n5 3,bv k1,V k2]),BO.del,ζ (U c5 true true)]))):=by kernel_rfl
theorem Apb(x0_0:Rw)(x0_1:Bool)(x0_2 x1_0:Rw)(x1_1:Bool)(x1_2:Rw):By A D Ag Aie .n 173 Ajt [Ξ [V x0_0,bv x0_1,V x0_2],Ξ [V x1_0,bv x1_1,V x1_2]] [] =
 Ae D (Φ 224) [Ξ [V x1_0,bv x1_1,V x1_2]] [] [.a,.L,.B,.L,.N,.E] λxs b xs1=>
 Ae D (Φ 223) [Ξ [V x0_0,bv x0_1,V x0_2],Ξ [V xs,bv b,V xs1]] [] [.a,.L,.B,.L,.N,.E] λxs2 b1 xs3=>
 some ((Ξ [V xs2,bv b1,V xs3],[])):=by kernel_rfl
theorem Apa(x0_0:Rw)(x0_1:Bool)(x0_2:Rw):By A D Ag Aid .n 172 Ajs [Ξ [V x0_0,bv x0_1,V x0_2]] [] =
 Ae D (Φ 89) [Ξ [V x0_0,bv x0_1,V x0_2]] [] [.a,.L,.B,.L,.N,.E] λxs b xs1=>
 some ((Ξ [V xs,bv b,V xs1,bv true],[])):=by kernel_rfl
theorem Apc(x0_0:Rw)(x0_1:Bool)(x0_2:Rw):By A D Ag Aif .n 174 Aju [Ξ [V x0_0,bv x0_1,V x0_2]] [] =
 Ae D (Φ 89) [Ξ [V x0_0,bv x0_1,V x0_2]] [] [.a,.L,.B,.L,.N,.E] λxs b xs1=>
 some ((Ξ [V xs,bv b,V xs1,bv false],[])):=by kernel_rfl
end
section
open Go.RowKit
def AjF:MFn:=Ce [] 222
def Aiq:Hnt:=⟨[(89,(.agg [.ls,.bool,.ls],[]))],[],[(4,[.ls,.bool,.ls]),(7,[.bool])]⟩
def Ajr:MFn:=Ce [] 171
def Aic:Hnt:=⟨[(222,(.agg [.ls,.bool,.ls,.bool],[]))],[],[(3,[.ls,.bool,.ls,.bool])]⟩
def AnU:MFn:=Ce [] 64
def AmH:Hnt:=⟨[],[],[]⟩
def AjI:MFn:=Ce [] 225
def Ait:Hnt:=⟨[],[],[(4,[.int .i64]),(9,[.ls]),(13,[.ls]),(15,[.ls])]⟩
def Ajv:MFn:=Ce [] 175
def Aig:Hnt:=⟨[(64,(.agg [.int .i64,.ls,.bool,.ls,.bool,.ls],[])),(171,(.agg [.int .i64,.ls,.bool,.ls,.bool,.ls],[])),(176,(.ls,[])),(225,(.ls,[]))],[],[(4,[.int .i64]),(11,[.ls,.bool,.ls,.bool]),(18,[.int .i64]),(19,[.int .i64,.ls,.bool,.ls,.bool,.ls])]⟩
def AmZ:Bv:=[⟨19,[false,false,false,true,false,false,true,true,true],[(3,6)],[],[(1,([false,false,false,true],([],[])))]⟩]
def XJ:MFn:=Ce AmZ 176
def Ty:Hnt:=⟨[(175,(.agg [.int .i64,.ls,.bool,.ls,.bool,.ls],[]))],[(0,[(1,([.sl 1 6],[.del,.row true]))])],[(10,[.int .i64,.ls,.bool,.ls,.bool,.ls]),(11,[.int .i64,.ls,.bool,.ls,.bool,.ls]),(13,[.int .i64,.ls,.bool,.ls,.bool,.ls])]⟩
def Ai5:MFn:=Ce [] 113
def AhR:Hnt:=⟨[(175,(.agg [.int .i64,.ls,.bool,.ls,.bool,.ls],[]))],[],[(3,[.int .i64,.ls,.bool,.ls,.bool,.ls])]⟩
def Ai6:MFn:=Ce [] 114
def AhS:Hnt:=⟨[(176,(.ls,[]))],[],[]⟩
def Ai7:MFn:=Ce [] 115
def AhT:Hnt:=⟨[(176,(.ls,[]))],[],[]⟩
def Ai4:MFn:=Ce [] 112
def Nf:Hnt:=⟨[(64,(.agg [.int .i64,.ls,.bool,.ls,.bool,.ls],[])),(84,(.agg [.bool,.ls],[])),(112,(.agg [.int .i64,.ls,.bool,.ls,.bool,.ls],[])),(113,(.agg [.int .i64,.ls,.bool,.ls,.bool,.ls],[])),(170,(.agg [.ls,.bool,.ls],[])),(171,(.agg [.int .i64,.ls,.bool,.ls,.bool,.ls],[])),(172,(.agg [.ls,.bool,.ls,.bool],[])),(173,(.agg [.ls,.bool,.ls],[])),(174,(.agg [.ls,.bool,.ls,.bool],[]))],[],[(13,[.ls,.bool,.ls]),(14,[.ls,.bool,.ls]),(20,[.ls,.bool,.ls]),(21,[.ls,.bool,.ls]),(26,[.ls,.bool,.ls]),(27,[.ls,.bool,.ls]),(29,[.ls,.bool,.ls]),(35,[.ls,.bool,.ls]),(36,[.ls,.bool,.ls]),(42,[.ls,.bool,.ls]),(43,[.ls,.bool,.ls]),(47,[.ls,.bool,.ls]),(48,[.ls,.bool,.ls])]⟩
def Nw:List (Nat × MFn):=[(222,AjF),(171,Ajr),(64,AnU),(225,AjI),(175,Ajv),(176,XJ),(113,Ai5),(114,Ai6),(115,Ai7),(112,Ai4)]
variable (A:Ar) (D:Orc)
theorem Apu(x0_0:Rw)(x0_1:Bool)(x0_2:Rw)(x0_3:Bool):By A D Ag Aiq .n 222 AjF [Ξ [V x0_0,bv x0_1,V x0_2,bv x0_3]] [] =
 Ae D (Φ 89) [Ξ [V x0_0,bv x0_1,V x0_2]] [] [.a,.L,.B,.L,.N,.E] λxs b xs1=>
 some ((Ξ [V xs,bv b,V xs1,bv x0_3],[])):=by kernel_rfl
theorem Ao9(x0_0:Rw)(x0_1:Bool)(x0_2:Rw)(x0_3:Bool):By A D Ag Aic .n 171 Ajr [Ξ [V x0_0,bv x0_1,V x0_2,bv x0_3]] [] =
 Ae D (Φ 222) [Ξ [V x0_0,bv x0_1,V x0_2,bv x0_3]] [] [.a,.L,.B,.L,.B,.N,.E] λxs b xs1 b1=>
 some ((Ξ [iv 2,V xs,bv b,V xs1,bv b1,V []],[])):=by kernel_rfl
theorem e64(x0:Bool):By A D Ag AmH .n 64 AnU [bv x0] [] =
 br x0
 (some ((Ξ [iv 0,V [],bv false,V [],bv false,V []],[])))
 (some ((Ξ [iv 1,V [],bv false,V [],bv false,V []],[]))):=by kernel_rfl
theorem Apx(x0_0:Int)(x0_1:Rw)(x0_2:Bool)(x0_3:Rw)(x0_4:Bool)(x0_5:Rw):By A D Ag Ait .n 225 AjI [Ξ [iv x0_0,V x0_1,bv x0_2,V x0_3,bv x0_4,V x0_5]] [] =
 br (A.eq x0_0 4)
 (some ((V x0_5,[])))
 (br (A.eq x0_0 5)
 (some ((V x0_5,[])))
 (br (A.eq x0_0 3)
 (unI (A.min (↑(AZ x0_5)) 1) λi=>
 br (OS 0 i (AZ x0_5)) (br (Hm 6 x0_5) (some ((V (JU (J6 x0_5 i) 0),[]))) none) none)
 (some ((V [],[]))))):=by kernel_rfl
theorem Apd(x0_0:Int)(x0_1:Rw)(x0_2:Bool)(x0_3:Rw)(x0_4:Bool)(x0_5:Rw):By A D Ag Aig .n 175 Ajv [Ξ [iv x0_0,V x0_1,bv x0_2,V x0_3,bv x0_4,V x0_5]] [] =
 br (A.eq x0_0 0)
 (Ae D (Φ 64) [bv true] [] [.a,.I,.L,.B,.L,.B,.L,.N,.E] λn xs b xs1 b1 xs2=>
 some ((Ξ [iv n,V xs,bv b,V xs1,bv b1,V xs2],[])))
 (br (A.eq x0_0 2)
 (Ae D (Φ 171) [Ξ [V x0_1,bv x0_2,V x0_3,bv x0_4]] [] [.a,.I,.L,.B,.L,.B,.L,.N,.E] λn xs b xs1 b1 xs2=>
 some ((Ξ [iv n,V xs,bv b,V xs1,bv b1,V xs2],[])))
 (br (A.eq x0_0 3)
 (Ae D (Φ 225) [Ξ [iv x0_0,V x0_1,bv x0_2,V x0_3,bv x0_4,V x0_5]] [] [.l,.E] λxs=>
 Ae D (Φ 176) [V xs] [] [.l,.E] λxs1=>
 some ((Ξ [iv x0_0,V [],bv false,V [],bv false,V xs1],[])))
 (br (A.eq x0_0 4)
 (Ae D (Φ 225) [Ξ [iv x0_0,V x0_1,bv x0_2,V x0_3,bv x0_4,V x0_5]] [] [.l,.E] λxs=>
 Ae D (Φ 176) [V xs] [] [.l,.E] λxs1=>
 some ((Ξ [iv x0_0,V [],bv false,V [],bv false,V xs1],[])))
 (br (A.eq x0_0 5)
 (Ae D (Φ 225) [Ξ [iv x0_0,V x0_1,bv x0_2,V x0_3,bv x0_4,V x0_5]] [] [.l,.E] λxs=>
 Ae D (Φ 176) [V xs] [] [.l,.E] λxs1=>
 some ((Ξ [iv x0_0,V [],bv false,V [],bv false,V xs1],[])))
 (Ae D (Φ 64) [bv false] [] [.a,.I,.L,.B,.L,.B,.L,.N,.E] λn xs b xs1 b1 xs2=>
 some ((Ξ [iv n,V xs,bv b,V xs1,bv b1,V xs2],[]))))))):=by kernel_rfl
theorem Ape(x0:Rw):By A D Ag Ty .n 176 XJ [V x0] [] =
 Ae D (Arh 176 0) [π 0 0 0 6,V x0,iv ↑(AZ x0),iv 0] [U [] true true] [.t,.C,.x,.X,.Y] λc l o=>
 br (Bb 1 c)
 (dk [.C,.q 1 6,.N,.D,.R,.X,.E] [.l l,.o o] λn cs1=>
 br ((0+n*6).ble cs1.length) (some ((V (BC n 6 (ι (n*6) cs1)),[]))) none)
 (none):=by kernel_rfl
theorem Abk(n3:Nat)(c3:List AV)(t6:Rw)(t7 t8:Int):EH A D Ag Ty .n 176 0 (AW XJ 0).fst (AW XJ 0).snd [π 0 0 n3 6,V t6,iv t7,iv t8] [{ cells:=c3,st:=true,ex:=true }] =
 br (A.lt t8 t7)
 (unI t8 λi=>
 B7 t6 i λcs=>
 dk [.I,.L,.B,.L,.B,.L,.N] [.l cs] λn xs b xs1 b1 xs2=>
 Ae D (Φ 175) [Ξ [iv n,V xs,bv b,V xs1,bv b1,V xs2]] [] [.a,.I,.L,.B,.L,.B,.L,.N,.E] λn1 xs3 b2 xs4 b3 xs5=>
 br (Bc (n3+1) 96) (br ((0+n3*6).ble c3.length) (AD D (Arh 176 0) [π 0 0 (n3+1) 6,V t6,iv t7,iv (A.add Δ t8 1)] [U (ο 0 (ι (0+n3*6) c3)++[iv n1,V xs3,bv b2,V xs4,bv b3,V xs5]) true true] λr1 o1=>
 AE 1 [3] (AH.mk [(3,U (ο 0 (ι (0+n3*6) c3)++[iv n1,V xs3,bv b2,V xs4,bv b3,V xs5]) true true),(2,U [iv n1,V xs3,bv b2,V xs4,bv b3,V xs5] true true),(1,bk [iv n,V xs,bv b,V xs1,bv b1,V xs2])] 4 none) [0] r1 o1) none) none)
 (some ((φ [iv 0,π 1 0 n3 6],[BO.del,ζ (U c3 true true)]))):=by kernel_rfl
theorem AoL(x0_0:Int)(x0_1:Rw)(x0_2:Bool)(x0_3:Rw)(x0_4:Bool)(x0_5:Rw):By A D Ag AhR .n 113 Ai5 [Ξ [iv x0_0,V x0_1,bv x0_2,V x0_3,bv x0_4,V x0_5]] [] =
 Ae D (Φ 175) [Ξ [iv x0_0,V x0_1,bv x0_2,V x0_3,bv x0_4,V x0_5]] [] [.a,.I,.L,.B,.L,.B,.L,.N,.E] λn xs b xs1 b1 xs2=>
 some ((Ξ [iv 3,V [],bv false,V [],bv false,V [[iv n,V xs,bv b,V xs1,bv b1,V xs2]]],[])):=by kernel_rfl
theorem AoM(x0:Rw):By A D Ag AhS .n 114 Ai6 [V x0] [] =
 Ae D (Φ 176) [V x0] [] [.l,.E] λxs=>
 some ((Ξ [iv 4,V [],bv false,V [],bv false,V xs],[])):=by kernel_rfl
theorem AoN(x0:Rw):By A D Ag AhT .n 115 Ai7 [V x0] [] =
 Ae D (Φ 176) [V x0] [] [.l,.E] λxs=>
 some ((Ξ [iv 5,V [],bv false,V [],bv false,V xs],[])):=by kernel_rfl
theorem VB(x0:Int)(x1_0:Rw)(x1_1:Bool)(x1_2 x2_0:Rw)(x2_1:Bool)(x2_2:Rw):By A D Ag Nf .n 112 Ai4 [iv x0,Ξ [V x1_0,bv x1_1,V x1_2],Ξ [V x2_0,bv x2_1,V x2_2]] [] =
 Ae D (Φ 84) [iv 1] [] [.a,.B,.L,.N,.E] λb xs=>
 Ae D (Φ 170) [Ξ [bv b,V xs]] [] [.a,.L,.B,.L,.N,.E] λxs1 b1 xs2=>
 br (A.eq x0 0)
 (Ae D (Φ 173) [Ξ [V x1_0,bv x1_1,V x1_2],Ξ [V x2_0,bv x2_1,V x2_2]] [] [.a,.L,.B,.L,.N,.E] λxs3 b2 xs4=>
 Ae D (Φ 172) [Ξ [V xs3,bv b2,V xs4]] [] [.a,.L,.B,.L,.B,.N,.E] λxs5 b3 xs6 b4=>
 Ae D (Φ 171) [Ξ [V xs5,bv b3,V xs6,bv b4]] [] [.a,.I,.L,.B,.L,.B,.L,.N,.E] λn xs7 b5 xs8 b6 xs9=>
 some ((Ξ [iv n,V xs7,bv b5,V xs8,bv b6,V xs9],[])))
 (br (A.eq x0 1)
 (Ae D (Φ 112) [iv 0,Ξ [V x1_0,bv x1_1,V x1_2],Ξ [V x2_0,bv x2_1,V x2_2]] [] [.a,.I,.L,.B,.L,.B,.L,.N,.E] λn xs3 b2 xs4 b3 xs5=>
 Ae D (Φ 113) [Ξ [iv n,V xs3,bv b2,V xs4,bv b3,V xs5]] [] [.a,.I,.L,.B,.L,.B,.L,.N,.E] λn1 xs6 b4 xs7 b5 xs8=>
 some ((Ξ [iv n1,V xs6,bv b4,V xs7,bv b5,V xs8],[])))
 (br (A.eq x0 2)
 (Ae D (Φ 173) [Ξ [V x2_0,bv x2_1,V x2_2],Ξ [V x1_0,bv x1_1,V x1_2]] [] [.a,.L,.B,.L,.N,.E] λxs3 b2 xs4=>
 Ae D (Φ 173) [Ξ [V xs3,bv b2,V xs4],Ξ [V xs1,bv b1,V xs2]] [] [.a,.L,.B,.L,.N,.E] λxs5 b3 xs6=>
 Ae D (Φ 174) [Ξ [V xs5,bv b3,V xs6]] [] [.a,.L,.B,.L,.B,.N,.E] λxs7 b4 xs8 b5=>
 Ae D (Φ 171) [Ξ [V xs7,bv b4,V xs8,bv b5]] [] [.a,.I,.L,.B,.L,.B,.L,.N,.E] λn xs9 b6 xs10 b7 xs11=>
 some ((Ξ [iv n,V xs9,bv b6,V xs10,bv b7,V xs11],[])))
 (br (A.eq x0 3)
 (Ae D (Φ 173) [Ξ [V x2_0,bv x2_1,V x2_2],Ξ [V x1_0,bv x1_1,V x1_2]] [] [.a,.L,.B,.L,.N,.E] λxs3 b2 xs4=>
 Ae D (Φ 174) [Ξ [V xs3,bv b2,V xs4]] [] [.a,.L,.B,.L,.B,.N,.E] λxs5 b3 xs6 b4=>
 Ae D (Φ 171) [Ξ [V xs5,bv b3,V xs6,bv b4]] [] [.a,.I,.L,.B,.L,.B,.L,.N,.E] λn xs7 b5 xs8 b6 xs9=>
 some ((Ξ [iv n,V xs7,bv b5,V xs8,bv b6,V xs9],[])))
 (br (A.eq x0 4)
 (Ae D (Φ 112) [iv 2,Ξ [V x2_0,bv x2_1,V x2_2],Ξ [V x1_0,bv x1_1,V x1_2]] [] [.a,.I,.L,.B,.L,.B,.L,.N,.E] λn xs3 b2 xs4 b3 xs5=>
 some ((Ξ [iv n,V xs3,bv b2,V xs4,bv b3,V xs5],[])))
 (br (A.eq x0 5)
 (Ae D (Φ 112) [iv 3,Ξ [V x2_0,bv x2_1,V x2_2],Ξ [V x1_0,bv x1_1,V x1_2]] [] [.a,.I,.L,.B,.L,.B,.L,.N,.E] λn xs3 b2 xs4 b3 xs5=>
 some ((Ξ [iv n,V xs3,bv b2,V xs4,bv b3,V xs5],[])))
 (Ae D (Φ 64) [bv false] [] [.a,.I,.L,.B,.L,.B,.L,.N,.E] λn xs3 b2 xs4 b3 xs5=>
 some ((Ξ [iv n,V xs3,bv b2,V xs4,bv b3,V xs5],[])))))))):=by kernel_rfl
end
section
open Go.RowKit
def Aqb:Bv:=[⟨61,[false,true,false,false,true,false,true,false,false,false,false,false,false,false,false,true,true,true],[(1000006,3),(3000006,0)],[4],[(0,([false,false,false,false,true,true],([4],[1000006,6]))),(1,([false,false,false,false,true,false,true],([],[])))]⟩]
def Agh:MFn:=Ce Aqb 44
def Acd:Hnt:=⟨[(23,(.bool,[])),(84,(.agg [.bool,.ls],[])),(85,(.tup [.agg [.bool,.ls],.int .i64],[])),(86,(.agg [.bool,.ls],[])),(87,(.agg [.bool,.ls],[])),(88,(.int .i64,[])),(89,(.agg [.ls,.bool,.ls],[]))],[(0,[(0,([.ptr 0 0,.bool],[.box [.ls,.bool,.ls],.del,.del])),(1,([.ptr 0 0,.ptr 1 0],[.box [.ls,.bool,.ls],.box [.sl 3 3,.bool,.ls],.del,.row true]))])],[(19,[.bool,.str,.str]),(20,[.bool,.str,.str]),(23,[.str]),(27,[.str]),(32,[.bool]),(33,[.bool,.ls]),(36,[.str]),(39,[.bool,.ls]),(40,[.bool,.ls]),(45,[.str]),(51,[.ls]),(53,[.bool,.ls]),(59,[.ls,.bool,.ls])]⟩
def Aqf:Bv:=[⟨82,[false,true,true,false,true,false,false,false,false,false,true,false,false,false,false,false,false,false,false,false,false,false,false,false,false,false,false,false,false,false,false,false,false,false,false,false,false,false,false,false,false,false,true,true,true],[(10,6)],[2,4],[(0,([false,false,false,false,true,true],([4],[2,10]))),(1,([false,false,true,false,true,false,false,false,false,false,true],([],[])))]⟩]
def Agk:MFn:=Ce Aqf 65
def Zc:Hnt:=⟨[(44,(.tup [.agg [.ls,.bool,.ls],.bool],[])),(64,(.agg [.int .i64,.ls,.bool,.ls,.bool,.ls],[])),(65,(.tup [.agg [.int .i64,.ls,.bool,.ls,.bool,.ls],.bool],[])),(112,(.agg [.int .i64,.ls,.bool,.ls,.bool,.ls],[])),(113,(.agg [.int .i64,.ls,.bool,.ls,.bool,.ls],[])),(114,(.agg [.int .i64,.ls,.bool,.ls,.bool,.ls],[])),(115,(.agg [.int .i64,.ls,.bool,.ls,.bool,.ls],[]))],[(0,[(0,([.ptr 1 0,.bool],[.del,.box [.int .i64,.ls,.bool,.ls,.bool,.ls],.del])),(1,([.ptr 0 0,.ptr 1 0,.sl 3 6],[.box [.int .i64,.ls,.ls,.int .i64,.str,.str,.ls],.box [.int .i64,.ls,.bool,.ls,.bool,.ls],.del,.row true]))])],[(16,[.int .i64]),(20,[.ls]),(27,[.ls]),(33,[.int .i64]),(34,[.ls,.bool,.ls]),(35,[.ls,.bool,.ls]),(42,[.ls]),(46,[.int .i64,.ls,.ls,.int .i64,.str,.str,.ls]),(47,[.int .i64,.ls,.ls,.int .i64,.str,.str,.ls]),(49,[.int .i64,.ls,.ls,.int .i64,.str,.str,.ls]),(58,[.int .i64,.ls,.bool,.ls,.bool,.ls]),(63,[.int .i64]),(70,[.int .i64,.ls,.bool,.ls,.bool,.ls]),(71,[.int .i64,.ls,.bool,.ls,.bool,.ls])]⟩
def AnG:MFn:=Ce [] 27
def Amu:Hnt:=⟨[(24,(.bool,[])),(64,(.agg [.int .i64,.ls,.bool,.ls,.bool,.ls],[])),(65,(.tup [.agg [.int .i64,.ls,.bool,.ls,.bool,.ls],.bool],[]))],[],[(8,[.int .i64,.ls,.ls,.int .i64,.str,.str,.ls]),(13,[.int .i64,.ls,.ls,.int .i64,.str,.str,.ls]),(21,[.int .i64,.ls,.bool,.ls,.bool,.ls])]⟩
def UW:List (Nat × MFn):=[(44,Agh),(65,Agk),(27,AnG)]
variable (A:Ar) (D:Orc)
theorem e44(x0 x1:Rw):By A D Ag Acd .n 44 Agh [V x0,V x1] [] =
 Ae D (Φ 23) [V x0] [] [.b,.E] λb=>
 br b
 (Ae D (Arh 44 0) [V x1,δ 0 0,δ 1 0,V x0,iv ↑(AZ x0),iv 0] [bk [V [],bv false,V []],bk [π 2 0 0 3,bv false,V []],U [] true true] [.t,.C,.x,.X,.Y] λc l o1=>
 br (Bb 0 c)
 (dk [.P 0 0,.B,.N,.T,.L,.B,.L,.N,.D,.D,.E] [.l l,.o o1] λb1 xs b2 xs1=>
 some ((φ [Ξ [V xs,bv b2,V xs1],bv b1],[])))
 (br (Bb 1 c)
 (dk [.P 0 0,.P 1 0,.N,.T,.L,.B,.L,.N,.T,.C,.q 3 3,.B,.L,.N,.D,.R,.X,.E] [.l l,.o o1] λ_ _ _ n b2 xs2 cs3=>
 br ((0+n*3).ble cs3.length) (AD D (Φ 89) [Ξ [V (BC n 3 (ι (n*3) cs3)),bv b2,V xs2]] [] λr2 o2=>
 dk [.a,.L,.B,.L,.N,.E] [.v r2,.o o2] λxs3 b3 xs4=>
 some ((φ [Ξ [V xs3,bv b3,V xs4],bv true],[]))) none)
 (none)))
 (some ((φ [Ξ [V [],bv false,V []],bv false],[]))):=by kernel_rfl
theorem AhB(t1 r0:Rw)(r1:Bool)(r2:Rw)(n6:Nat)(k1:Bool)(k2:Rw)(c6:List AV)(t15:Rw)(t16 t17:Int):EH A D Ag Acd .n 44 0 (AW Agh 0).fst (AW Agh 0).snd [V t1,δ 0 0,δ 1 0,V t15,iv t16,iv t17] [bk [V r0,bv r1,V r2],bk [π 2 0 n6 3,bv k1,V k2],{ cells:=c6,st:=true,ex:=true }] =
 br (A.lt t17 t16)
 (unI t17 λi=>
 B7 t15 i λcs=>
 dk [.B,.S,.S,.N] [.l cs] λb s s1=>
 Ae D (Φ 84) [iv 1] [] [.a,.B,.L,.N,.E] λb1 xs=>
 br (A.seq s (Af []))
 (br b
 (Ae D (Φ 86) [Ξ [bv b1,V xs]] [] [.a,.B,.L,.N,.E] λb2 xs1=>
 br (A.seq s1 (Af []))
 (Ae D (Φ 87) [Ξ [bv k1,V k2],Ξ [bv b2,V xs1]] [] [.a,.B,.L,.N,.E] λb3 xs2=>
 AD D (Arh 44 0) [V t1,δ 0 0,δ 1 0,V t15,iv t16,iv (A.add Δ t17 1)] [bk [V r0,bv r1,V r2],bk [π 2 0 n6 3,bv b3,V xs2],U c6 true true] λr5 o3=>
 AE 3 [0,1,2] (AH.mk [(0,bk [V r0,bv r1,V r2]),(1,bk [π 2 0 n6 3,bv b3,V xs2]),(4,bk [bv b2,V xs1]),(3,bk [bv b,sv s,sv s1]),(2,U c6 true true)] 5 none) [1,0] r5 o3)
 (Ae D (Φ 88) [V t1,sv s1] [] [.i,.E] λn=>
 br (A.lt n 0)
 (some ((φ [bv true,δ 0 0,bv false],[ζ (bk [V [],bv false,V []]),BO.del,BO.del])))
 (br (Bc (n6+1) 40) (br ((0+n6*3).ble c6.length) (AD D (Arh 44 0) [V t1,δ 0 0,δ 1 0,V t15,iv t16,iv (A.add Δ t17 1)] [bk [V r0,bv r1,V r2],bk [π 2 0 (n6+1) 3,bv k1,V k2],U (ο 0 (ι (0+n6*3) c6)++[iv n,bv b2,V xs1]) true true] λr5 o3=>
 AE 3 [0,1,6] (AH.mk [(0,bk [V r0,bv r1,V r2]),(1,bk [π 6 0 (n6+1) 3,bv k1,V k2]),(6,U (ο 0 (ι (0+n6*3) c6)++[iv n,bv b2,V xs1]) true true),(5,U [iv n,bv b2,V xs1] true true),(4,bk [bv b2,V xs1]),(3,bk [bv b,sv s,sv s1])] 7 none) [2,1,0] r5 o3) none) none)))
 (br (A.seq s1 (Af []))
 (Ae D (Φ 87) [Ξ [bv k1,V k2],Ξ [bv b1,V xs]] [] [.a,.B,.L,.N,.E] λb2 xs1=>
 AD D (Arh 44 0) [V t1,δ 0 0,δ 1 0,V t15,iv t16,iv (A.add Δ t17 1)] [bk [V r0,bv r1,V r2],bk [π 2 0 n6 3,bv b2,V xs1],U c6 true true] λr4 o2=>
 AE 3 [0,1,2] (AH.mk [(0,bk [V r0,bv r1,V r2]),(1,bk [π 2 0 n6 3,bv b2,V xs1]),(4,bk [bv b1,V xs]),(3,bk [bv b,sv s,sv s1]),(2,U c6 true true)] 5 none) [1,0] r4 o2)
 (Ae D (Φ 88) [V t1,sv s1] [] [.i,.E] λn=>
 br (A.lt n 0)
 (some ((φ [bv true,δ 0 0,bv false],[ζ (bk [V [],bv false,V []]),BO.del,BO.del])))
 (br (Bc (n6+1) 40) (br ((0+n6*3).ble c6.length) (AD D (Arh 44 0) [V t1,δ 0 0,δ 1 0,V t15,iv t16,iv (A.add Δ t17 1)] [bk [V r0,bv r1,V r2],bk [π 2 0 (n6+1) 3,bv k1,V k2],U (ο 0 (ι (0+n6*3) c6)++[iv n,bv b1,V xs]) true true] λr4 o2=>
 AE 3 [0,1,6] (AH.mk [(0,bk [V r0,bv r1,V r2]),(1,bk [π 6 0 (n6+1) 3,bv k1,V k2]),(6,U (ο 0 (ι (0+n6*3) c6)++[iv n,bv b1,V xs]) true true),(5,U [iv n,bv b1,V xs] true true),(4,bk [bv b1,V xs]),(3,bk [bv b,sv s,sv s1])] 7 none) [2,1,0] r4 o2) none) none))))
 (Ae D (Φ 85) [sv s] [] [.t,.A,.B,.L,.N,.I,.N,.E] λb2 xs1 _=>
 br b
 (Ae D (Φ 86) [Ξ [bv b2,V xs1]] [] [.a,.B,.L,.N,.E] λb3 xs2=>
 br (A.seq s1 (Af []))
 (Ae D (Φ 87) [Ξ [bv k1,V k2],Ξ [bv b3,V xs2]] [] [.a,.B,.L,.N,.E] λb4 xs3=>
 AD D (Arh 44 0) [V t1,δ 0 0,δ 1 0,V t15,iv t16,iv (A.add Δ t17 1)] [bk [V r0,bv r1,V r2],bk [π 2 0 n6 3,bv b4,V xs3],U c6 true true] λr6 o4=>
 AE 3 [0,1,2] (AH.mk [(0,bk [V r0,bv r1,V r2]),(1,bk [π 2 0 n6 3,bv b4,V xs3]),(4,bk [bv b3,V xs2]),(3,bk [bv b,sv s,sv s1]),(2,U c6 true true)] 5 none) [1,0] r6 o4)
 (Ae D (Φ 88) [V t1,sv s1] [] [.i,.E] λn1=>
 br (A.lt n1 0)
 (some ((φ [bv true,δ 0 0,bv false],[ζ (bk [V [],bv false,V []]),BO.del,BO.del])))
 (br (Bc (n6+1) 40) (br ((0+n6*3).ble c6.length) (AD D (Arh 44 0) [V t1,δ 0 0,δ 1 0,V t15,iv t16,iv (A.add Δ t17 1)] [bk [V r0,bv r1,V r2],bk [π 2 0 (n6+1) 3,bv k1,V k2],U (ο 0 (ι (0+n6*3) c6)++[iv n1,bv b3,V xs2]) true true] λr6 o4=>
 AE 3 [0,1,6] (AH.mk [(0,bk [V r0,bv r1,V r2]),(1,bk [π 6 0 (n6+1) 3,bv k1,V k2]),(6,U (ο 0 (ι (0+n6*3) c6)++[iv n1,bv b3,V xs2]) true true),(5,U [iv n1,bv b3,V xs2] true true),(4,bk [bv b3,V xs2]),(3,bk [bv b,sv s,sv s1])] 7 none) [2,1,0] r6 o4) none) none)))
 (br (A.seq s1 (Af []))
 (Ae D (Φ 87) [Ξ [bv k1,V k2],Ξ [bv b2,V xs1]] [] [.a,.B,.L,.N,.E] λb3 xs2=>
 AD D (Arh 44 0) [V t1,δ 0 0,δ 1 0,V t15,iv t16,iv (A.add Δ t17 1)] [bk [V r0,bv r1,V r2],bk [π 2 0 n6 3,bv b3,V xs2],U c6 true true] λr5 o3=>
 AE 3 [0,1,2] (AH.mk [(0,bk [V r0,bv r1,V r2]),(1,bk [π 2 0 n6 3,bv b3,V xs2]),(4,bk [bv b2,V xs1]),(3,bk [bv b,sv s,sv s1]),(2,U c6 true true)] 5 none) [1,0] r5 o3)
 (Ae D (Φ 88) [V t1,sv s1] [] [.i,.E] λn1=>
 br (A.lt n1 0)
 (some ((φ [bv true,δ 0 0,bv false],[ζ (bk [V [],bv false,V []]),BO.del,BO.del])))
 (br (Bc (n6+1) 40) (br ((0+n6*3).ble c6.length) (AD D (Arh 44 0) [V t1,δ 0 0,δ 1 0,V t15,iv t16,iv (A.add Δ t17 1)] [bk [V r0,bv r1,V r2],bk [π 2 0 (n6+1) 3,bv k1,V k2],U (ο 0 (ι (0+n6*3) c6)++[iv n1,bv b2,V xs1]) true true] λr5 o3=>
 AE 3 [0,1,6] (AH.mk [(0,bk [V r0,bv r1,V r2]),(1,bk [π 6 0 (n6+1) 3,bv k1,V k2]),(6,U (ο 0 (ι (0+n6*3) c6)++[iv n1,bv b2,V xs1]) true true),(5,U [iv n1,bv b2,V xs1] true true),(4,bk [bv b2,V xs1]),(3,bk [bv b,sv s,sv s1])] 7 none) [2,1,0] r5 o3) none) none)))))
 (some ((φ [iv 0,δ 0 0,δ 1 0],[ζ (bk [V r0,bv r1,V r2]),ζ (bk [π 3 0 n6 3,bv k1,V k2]),BO.del,ζ (U c6 true true)]))):=by kernel_rfl
theorem e65(x0_0:Int)(x0_1 x0_2:Rw)(x0_3:Int)(x0_4 x0_5:ByteArray)(x0_6 x1:Rw):By A D Ag Zc (.b (.b (.b (.t .n) (.f .n)) .n) .n) 65 Agk [Ξ [iv x0_0,V x0_1,V x0_2,iv x0_3,sv x0_4,sv x0_5,V x0_6],V x1] [] =
 br (A.eq x0_0 2)
 (Ae D (Φ 44) [V x0_1,V x1] [] [.t,.A,.L,.B,.L,.N,.B,.N,.E] λxs b xs1 b1=>
 Ae D (Φ 44) [V x0_2,V x1] [] [.t,.A,.L,.B,.L,.N,.B,.N,.E] λxs2 b2 xs3 b3=>
 Ae D (Φ 112) [iv x0_3,Ξ [V xs,bv b,V xs1],Ξ [V xs2,bv b2,V xs3]] [] [.a,.I,.L,.B,.L,.B,.L,.N,.E] λn xs4 b4 xs5 b5 xs6=>
 br b1
 (br b1 (br b3
 (some ((φ [Ξ [iv n,V xs4,bv b4,V xs5,bv b5,V xs6],bv true],[])))
 (some ((φ [Ξ [iv n,V xs4,bv b4,V xs5,bv b5,V xs6],bv false],[])))) none)
 (br b1 none (some ((φ [Ξ [iv n,V xs4,bv b4,V xs5,bv b5,V xs6],bv false],[])))))
 (Ae D (Arh 65 0) [V x1,δ 0 0,δ 1 0,π 2 0 0 6,V x0_6,iv ↑(AZ x0_6),iv 0] [bk [iv x0_0,V x0_1,V x0_2,iv x0_3,sv x0_4,sv x0_5,V x0_6],bk [iv 0,V [],bv false,V [],bv false,V []],U [] true true] [.t,.C,.x,.X,.Y] λc l o=>
 br (Bb 0 c)
 (dk [.P 1 0,.B,.N,.D,.T,.I,.L,.B,.L,.B,.L,.N,.D,.E] [.l l,.o o] λb n xs b1 xs1 b2 xs2=>
 some ((φ [Ξ [iv n,V xs,bv b1,V xs1,bv b2,V xs2],bv b],[])))
 (br (Bb 1 c)
 (dk [.P 0 0,.P 1 0,.C,.q 3 6,.N,.T,.I,.L,.L,.I,.S,.S,.L,.N,.T,.I,.L,.B,.L,.B,.L,.N,.D,.R,.X,.E] [.l l,.o o] λn n1 _ _ _ _ _ _ _ _ _ _ _ _ cs3=>
 br (A.eq n1 0)
 (Ae D (Φ 64) [bv true] [] [.a,.I,.L,.B,.L,.B,.L,.N,.E] λn4 xs6 b2 xs7 b3 xs8=>
 some ((φ [Ξ [iv n4,V xs6,bv b2,V xs7,bv b3,V xs8],bv true],[])))
 (br (A.eq n1 3)
 (br (Nat.blt 0 n) (Iw cs3 0 6 λcs4=>
 dk [.I,.L,.B,.L,.B,.L,.N] [.l cs4] λn4 xs6 b2 xs7 b3 xs8=>
 Ae D (Φ 113) [Ξ [iv n4,V xs6,bv b2,V xs7,bv b3,V xs8]] [] [.a,.I,.L,.B,.L,.B,.L,.N,.E] λn5 xs9 b4 xs10 b5 xs11=>
 some ((φ [Ξ [iv n5,V xs9,bv b4,V xs10,bv b5,V xs11],bv true],[]))) none)
 (br (A.eq n1 4)
 (br ((0+n*6).ble cs3.length) (AD D (Φ 114) [V (BC n 6 (ι (n*6) cs3))] [] λr1 o1=>
 dk [.a,.I,.L,.B,.L,.B,.L,.N,.E] [.v r1,.o o1] λn4 xs6 b2 xs7 b3 xs8=>
 some ((φ [Ξ [iv n4,V xs6,bv b2,V xs7,bv b3,V xs8],bv true],[]))) none)
 (br (A.eq n1 5)
 (br ((0+n*6).ble cs3.length) (AD D (Φ 115) [V (BC n 6 (ι (n*6) cs3))] [] λr1 o1=>
 dk [.a,.I,.L,.B,.L,.B,.L,.N,.E] [.v r1,.o o1] λn4 xs6 b2 xs7 b3 xs8=>
 some ((φ [Ξ [iv n4,V xs6,bv b2,V xs7,bv b3,V xs8],bv true],[]))) none)
 (Ae D (Φ 64) [bv false] [] [.a,.I,.L,.B,.L,.B,.L,.N,.E] λn4 xs6 b2 xs7 b3 xs8=>
 some ((φ [Ξ [iv n4,V xs6,bv b2,V xs7,bv b3,V xs8],bv true],[])))))))
 (none))):=by kernel_rfl
theorem AhE(t1:Rw)(b2_0:Int)(b2_1 b2_2:Rw)(b2_3:Int)(b2_4 b2_5:ByteArray)(b2_6:Rw)(b4_0:Int)(b4_1:Rw)(b4_2:Bool)(b4_3:Rw)(b4_4:Bool)(b4_5:Rw)(n10:Nat)(c10:List AV)(t42:Rw)(t43 t44:Int):EH A D Ag Zc .n 65 0 (AW Agk 0).fst (AW Agk 0).snd [V t1,δ 0 0,δ 1 0,π 2 0 n10 6,V t42,iv t43,iv t44] [bk [iv b2_0,V b2_1,V b2_2,iv b2_3,sv b2_4,sv b2_5,V b2_6],bk [iv b4_0,V b4_1,bv b4_2,V b4_3,bv b4_4,V b4_5],{ cells:=c10,st:=true,ex:=true }] =
 br (A.lt t44 t43)
 (unI t44 λi=>
 B7 t42 i λcs=>
 dk [.I,.L,.L,.I,.S,.S,.L,.N] [.l cs] λn xs xs1 n1 s s1 xs2=>
 Ae D (Φ 65) [Ξ [iv n,V xs,V xs1,iv n1,sv s,sv s1,V xs2],V t1] [] [.t,.A,.I,.L,.B,.L,.B,.L,.N,.B,.N,.E] λn2 xs3 b xs4 b1 xs5 b2=>
 br (A.not b2)
 (some ((φ [bv true,δ 1 0,bv false],[BO.del,ζ (bk [iv 0,V [],bv false,V [],bv false,V []]),BO.del])))
 (br (Bc (n10+1) 96) (br ((0+n10*6).ble c10.length) (AD D (Arh 65 0) [V t1,δ 0 0,δ 1 0,π 2 0 (n10+1) 6,V t42,iv t43,iv (A.add Δ t44 1)] [bk [iv b2_0,V b2_1,V b2_2,iv b2_3,sv b2_4,sv b2_5,V b2_6],bk [iv b4_0,V b4_1,bv b4_2,V b4_3,bv b4_4,V b4_5],U (ο 0 (ι (0+n10*6) c10)++[iv n2,V xs3,bv b,V xs4,bv b1,V xs5]) true true] λr1 o1=>
 AE 3 [0,1,6] (AH.mk [(1,bk [iv b4_0,V b4_1,bv b4_2,V b4_3,bv b4_4,V b4_5]),(0,bk [iv b2_0,V b2_1,V b2_2,iv b2_3,sv b2_4,sv b2_5,V b2_6]),(6,U (ο 0 (ι (0+n10*6) c10)++[iv n2,V xs3,bv b,V xs4,bv b1,V xs5]) true true),(5,U [iv n2,V xs3,bv b,V xs4,bv b1,V xs5] true true),(4,bk [iv n2,V xs3,bv b,V xs4,bv b1,V xs5]),(3,bk [iv n,V xs,V xs1,iv n1,sv s,sv s1,V xs2])] 7 none) [2,0,1] r1 o1) none) none))
 (some ((φ [iv 0,δ 0 0,δ 1 0,π 3 0 n10 6],[ζ (bk [iv b2_0,V b2_1,V b2_2,iv b2_3,sv b2_4,sv b2_5,V b2_6]),ζ (bk [iv b4_0,V b4_1,bv b4_2,V b4_3,bv b4_4,V b4_5]),BO.del,ζ (U c10 true true)]))):=by kernel_rfl
theorem e27(x0_0:Int)(x0_1 x0_2:Rw)(x0_3:Int)(x0_4 x0_5:ByteArray)(x0_6 x1:Rw):By A D Ag Amu .n 27 AnG [Ξ [iv x0_0,V x0_1,V x0_2,iv x0_3,sv x0_4,sv x0_5,V x0_6],V x1] [] =
 Ae D (Φ 24) [Ξ [iv x0_0,V x0_1,V x0_2,iv x0_3,sv x0_4,sv x0_5,V x0_6]] [] [.b,.E] λb=>
 br b
 (Ae D (Φ 65) [Ξ [iv x0_0,V x0_1,V x0_2,iv x0_3,sv x0_4,sv x0_5,V x0_6],V x1] [] [.t,.A,.I,.L,.B,.L,.B,.L,.N,.B,.N,.E] λn xs b1 xs1 b2 xs2 b3=>
 br (A.not b3)
 (Ae D (Φ 64) [bv false] [] [.a,.I,.L,.B,.L,.B,.L,.N,.E] λn1 xs3 b4 xs4 b5 xs5=>
 some ((φ [Ξ [iv n1,V xs3,bv b4,V xs4,bv b5,V xs5],bv false],[])))
 (some ((φ [Ξ [iv n,V xs,bv b1,V xs1,bv b2,V xs2],bv true],[]))))
 (Ae D (Φ 64) [bv false] [] [.a,.I,.L,.B,.L,.B,.L,.N,.E] λn xs b1 xs1 b2 xs2=>
 some ((φ [Ξ [iv n,V xs,bv b1,V xs1,bv b2,V xs2],bv false],[]))):=by kernel_rfl
end
section
open Go.RowKit
def Anh:Bv:=[⟨18,[false,false,false,true,false,false,true,true,true],[],[],[(0,([false,false,true],([],[]))),(1,([false,false,false,true],([],[])))]⟩]
def XT:MFn:=Ce Anh 277
def QC:Hnt:=⟨[],[(0,[(0,([.int .i64],[])),(1,([.int .i64],[]))])],[(10,[.int .i64]),(11,[.int .i64])]⟩
def AjZ:MFn:=Ce [] 284
def AiI:Hnt:=⟨[(154,(.int .i64,[])),(277,(.int .i64,[])),(285,(.int .i64,[]))],[],[(6,[.int .i64]),(8,[.int .i64]),(11,[.bool,.ls]),(13,[.bool,.ls])]⟩
def Anj:Bv:=[⟨39,[true,true,true,false,false,false,false,false,false,false,false,true,true,true],[],[],[(0,([false,false,false,false,false,false,true],([],[]))),(1,([true,true],([],[])))]⟩]
def XU:MFn:=Ce Anj 286
def TI:Hnt:=⟨[(284,(.int .i64,[]))],[(0,[(0,([.int .i64],[])),(1,([.ls,.ls],[]))])],[(16,[.int .i64,.bool,.ls]),(17,[.int .i64,.bool,.ls]),(24,[.int .i64,.bool,.ls]),(25,[.int .i64,.bool,.ls]),(27,[.int .i64,.bool,.ls]),(28,[.int .i64,.bool,.ls])]⟩
def AjX:MFn:=Ce [] 278
def AiG:Hnt:=⟨[(89,(.agg [.ls,.bool,.ls],[])),(277,(.int .i64,[])),(285,(.int .i64,[])),(286,(.int .i64,[]))],[],[(6,[.ls,.bool,.ls]),(8,[.ls,.bool,.ls]),(11,[.ls]),(13,[.ls]),(17,[.bool,.ls]),(19,[.bool,.ls])]⟩
def AjY:MFn:=Ce [] 279
def AiH:Hnt:=⟨[],[],[(4,[.bool])]⟩
def AjU:MFn:=Ce [] 270
def AiD:Hnt:=⟨[(154,(.int .i64,[])),(277,(.int .i64,[])),(278,(.int .i64,[])),(279,(.int .i64,[]))],[],[(6,[.ls,.bool,.ls]),(8,[.ls,.bool,.ls]),(10,[.ls,.bool,.ls,.bool]),(12,[.ls,.bool,.ls,.bool])]⟩
def AjP:MFn:=Ce [] 254
def Aiy:Hnt:=⟨[(270,(.int .i64,[]))],[],[(5,[.ls,.bool,.ls,.bool]),(6,[.ls,.bool,.ls,.bool])]⟩
def Anc:Bv:=[⟨32,[false,true,true,false,false,false,false,false,false,false,false,false,false,false,false,true,true,true],[],[],[(0,([false,false,false,false,false,false,true],([],[]))),(1,([],([],[])))]⟩]
def XP:MFn:=Ce Anc 255
def TF:Hnt:=⟨[(233,(.bool,[]))],[(0,[(0,([.bool],[])),(1,([],[]))])],[(20,[.int .i64,.ls,.bool,.ls,.bool,.ls]),(21,[.int .i64,.ls,.bool,.ls,.bool,.ls]),(24,[.int .i64,.ls,.bool,.ls,.bool,.ls]),(25,[.int .i64,.ls,.bool,.ls,.bool,.ls]),(27,[.int .i64,.ls,.bool,.ls,.bool,.ls]),(28,[.int .i64,.ls,.bool,.ls,.bool,.ls])]⟩
def AjK:MFn:=Ce [] 233
def Aiu:Hnt:=⟨[(175,(.agg [.int .i64,.ls,.bool,.ls,.bool,.ls],[])),(254,(.bool,[])),(255,(.bool,[]))],[],[(5,[.int .i64,.ls,.bool,.ls,.bool,.ls]),(7,[.int .i64,.ls,.bool,.ls,.bool,.ls]),(10,[.int .i64]),(12,[.int .i64]),(16,[.int .i64]),(20,[.ls,.bool,.ls,.bool]),(22,[.ls,.bool,.ls,.bool]),(28,[.ls]),(30,[.ls])]⟩
def UX:List (Nat × MFn):=[(277,XT),(284,AjZ),(286,XU),(278,AjX),(279,AjY),(270,AjU),(254,AjP),(255,XP),(233,AjK)]
variable (A:Ar) (D:Orc)
theorem ApQ(x0:Rw):By A D Ag QC .n 277 XT [V x0] [] =
 Ae D (Arh 277 0) [iv 0,V x0,iv ↑(AZ x0),iv 0] [] [.t,.C,.x,.X,.Y] λc l o=>
 br (Bb 0 c)
 (dk [.I,.N,.E] [.l l,.o o] λn=>
 some ((iv n,[])))
 (br (Bb 1 c)
 (dk [.I,.N,.E] [.l l,.o o] λn=>
 some ((iv n,[])))
 (none)):=by kernel_rfl
theorem VK(t3:Int)(t6:Rw)(t7 t8:Int):EH A D Ag QC .n 277 0 (AW XT 0).fst (AW XT 0).snd [iv t3,V t6,iv t7,iv t8] [] =
 br (A.lt t8 t7)
 (unI t8 λi=>
 B7 t6 i λcs=>
 dk [.I,.N] [.l cs] λn=>
 br (A.eq n t3)
 (AD D (Arh 277 0) [iv t3,V t6,iv t7,iv (A.add Δ t8 1)] [] λr o=>
 AE 0 [] (AH.mk [] 0 none) [] r o)
 (some ((φ [bv true,iv n],[]))))
 (some ((φ [iv 0,iv t3],[]))):=by kernel_rfl
theorem ApU(x0_0:Int)(x0_1:Bool)(x0_2:Rw)(x1_0:Int)(x1_1:Bool)(x1_2:Rw):By A D Ag AiI .n 284 AjZ [Ξ [iv x0_0,bv x0_1,V x0_2],Ξ [iv x1_0,bv x1_1,V x1_2]] [] =
 Ae D (Φ 154) [iv x0_0,iv x1_0] [] [.i,.E] λn=>
 Ae D (Φ 285) [Ξ [bv x0_1,V x0_2],Ξ [bv x1_1,V x1_2]] [] [.i,.E] λn1=>
 Ae D (Φ 277) [V [[iv n],[iv n1]]] [] [.i,.E] λn2=>
 some ((iv n2,[])):=by kernel_rfl
theorem ApW(x0 x1:Rw):By A D Ag TI .n 286 XU [V x0,V x1,Arj (Fn.func 284) [] []] [] =
 Ae D (Arh 286 0) [V x0,V x1,Arj (Fn.func 284) [] [],V x0,iv ↑(AZ x0),iv 0] [] [.t,.C,.x,.X,.Y] λc l o=>
 br (Bb 0 c)
 (dk [.I,.N,.E] [.l l,.o o] λn=>
 some ((iv n,[])))
 (br (Bb 1 c)
 (dk [.L,.L,.N,.E] [.l l,.o o] λxs xs1=>
 br (A.lt ↑(AZ xs) ↑(AZ xs1))
 (some ((iv (-1),[])))
 (some ((iv 0,[]))))
 (none)):=by kernel_rfl
theorem AbB(t0 t1 t11:Rw)(t12 t13:Int):EH A D Ag TI .n 286 0 (AW XU 0).fst (AW XU 0).snd [V t0,V t1,Arj (Fn.func 284) [] [],V t11,iv t12,iv t13] [] =
 br (A.lt t13 t12)
 (unI t13 λi=>
 B7 t11 i λcs=>
 dk [.I,.B,.L,.N] [.l cs] λn b xs=>
 br (A.le (↑(AZ t1)) t13)
 (some ((φ [bv true,iv 1],[])))
 (unI t13 λi1=>
 B7 t1 i1 λcs1=>
 dk [.I,.B,.L,.N] [.l cs1] λn1 b1 xs1=>
 Ae D (Φ 284) [Ξ [iv n,bv b,V xs],Ξ [iv n1,bv b1,V xs1]] [] [.i,.E] λn2=>
 br (A.eq n2 0)
 (AD D (Arh 286 0) [V t0,V t1,Arj (Fn.func 284) [] [],V t11,iv t12,iv (A.add Δ t13 1)] [] λr1 o1=>
 AE 0 [] (AH.mk [(1,bk [iv n1,bv b1,V xs1]),(0,bk [iv n,bv b,V xs])] 2 none) [] r1 o1)
 (some ((φ [bv true,iv n2],[])))))
 (some ((φ [iv 0,V t0,V t1],[]))):=by kernel_rfl
theorem ApR(x0_0:Rw)(x0_1:Bool)(x0_2 x1_0:Rw)(x1_1:Bool)(x1_2:Rw):By A D Ag AiG .n 278 AjX [Ξ [V x0_0,bv x0_1,V x0_2],Ξ [V x1_0,bv x1_1,V x1_2]] [] =
 Ae D (Φ 89) [Ξ [V x0_0,bv x0_1,V x0_2]] [] [.a,.L,.B,.L,.N,.E] λxs b xs1=>
 Ae D (Φ 89) [Ξ [V x1_0,bv x1_1,V x1_2]] [] [.a,.L,.B,.L,.N,.E] λxs2 b1 xs3=>
 Ae D (Φ 286) [V xs,V xs2,Arj (Fn.func 284) [] []] [] [.i,.E] λn=>
 Ae D (Φ 285) [Ξ [bv b,V xs1],Ξ [bv b1,V xs3]] [] [.i,.E] λn1=>
 Ae D (Φ 277) [V [[iv n],[iv n1]]] [] [.i,.E] λn2=>
 some ((iv n2,[])):=by kernel_rfl
theorem ApS(x0_0:Rw)(x0_1:Bool)(x0_2:Rw)(x0_3:Bool):By A D Ag AiH .n 279 AjY [Ξ [V x0_0,bv x0_1,V x0_2,bv x0_3]] [] =
 br x0_3
 (some ((iv 1,[])))
 (some ((iv 0,[]))):=by kernel_rfl
theorem ApM(x0_0:Rw)(x0_1:Bool)(x0_2:Rw)(x0_3:Bool)(x1_0:Rw)(x1_1:Bool)(x1_2:Rw)(x1_3:Bool):By A D Ag AiD .n 270 AjU [Ξ [V x0_0,bv x0_1,V x0_2,bv x0_3],Ξ [V x1_0,bv x1_1,V x1_2,bv x1_3]] [] =
 Ae D (Φ 278) [Ξ [V x0_0,bv x0_1,V x0_2],Ξ [V x1_0,bv x1_1,V x1_2]] [] [.i,.E] λn=>
 Ae D (Φ 279) [Ξ [V x0_0,bv x0_1,V x0_2,bv x0_3]] [] [.i,.E] λn1=>
 Ae D (Φ 279) [Ξ [V x1_0,bv x1_1,V x1_2,bv x1_3]] [] [.i,.E] λn2=>
 Ae D (Φ 154) [iv n1,iv n2] [] [.i,.E] λn3=>
 Ae D (Φ 277) [V [[iv n],[iv n3]]] [] [.i,.E] λn4=>
 some ((iv n4,[])):=by kernel_rfl
theorem ApE(x0_0:Rw)(x0_1:Bool)(x0_2:Rw)(x0_3:Bool)(x1_0:Rw)(x1_1:Bool)(x1_2:Rw)(x1_3:Bool):By A D Ag Aiy .n 254 AjP [Ξ [V x0_0,bv x0_1,V x0_2,bv x0_3],Ξ [V x1_0,bv x1_1,V x1_2,bv x1_3]] [] =
 Ae D (Φ 270) [Ξ [V x0_0,bv x0_1,V x0_2,bv x0_3],Ξ [V x1_0,bv x1_1,V x1_2,bv x1_3]] [] [.i,.E] λn=>
 br (A.eq n 0)
 (some ((bv true,[])))
 (some ((bv false,[]))):=by kernel_rfl
theorem ApF(x0 x1:Rw):By A D Ag TF .n 255 XP [V x0,V x1,Arj (Fn.func 233) [] []] [] =
 br (A.eq ↑(AZ x0) ↑(AZ x1))
 (Ae D (Arh 255 0) [V x1,Arj (Fn.func 233) [] [],V x0,iv ↑(AZ x0),iv 0] [] [.t,.C,.x,.X,.Y] λc l o=>
 br (Bb 0 c)
 (dk [.B,.N,.E] [.l l,.o o] λb=>
 some ((bv b,[])))
 (br (Bb 1 c)
 (Dg l<|
 C8 o<|
 some ((bv true,[])))
 (none)))
 (some ((bv false,[]))):=by kernel_rfl
theorem Abw(t1 t15:Rw)(t16 t17:Int):EH A D Ag TF .n 255 0 (AW XP 0).fst (AW XP 0).snd [V t1,Arj (Fn.func 233) [] [],V t15,iv t16,iv t17] [] =
 br (A.lt t17 t16)
 (unI t17 λi=>
 B7 t15 i λcs=>
 dk [.I,.L,.B,.L,.B,.L,.N] [.l cs] λn xs b xs1 b1 xs2=>
 unI t17 λi1=>
 B7 t1 i1 λcs1=>
 dk [.I,.L,.B,.L,.B,.L,.N] [.l cs1] λn1 xs3 b2 xs4 b3 xs5=>
 Ae D (Φ 233) [Ξ [iv n,V xs,bv b,V xs1,bv b1,V xs2],Ξ [iv n1,V xs3,bv b2,V xs4,bv b3,V xs5]] [] [.b,.E] λb4=>
 br b4
 (AD D (Arh 255 0) [V t1,Arj (Fn.func 233) [] [],V t15,iv t16,iv (A.add Δ t17 1)] [] λr1 o1=>
 AE 0 [] (AH.mk [(1,bk [iv n1,V xs3,bv b2,V xs4,bv b3,V xs5]),(0,bk [iv n,V xs,bv b,V xs1,bv b1,V xs2])] 2 none) [] r1 o1)
 (some ((φ [bv true,bv false],[]))))
 (some ((φ [iv 0],[]))):=by kernel_rfl
theorem Apy(x0_0:Int)(x0_1:Rw)(x0_2:Bool)(x0_3:Rw)(x0_4:Bool)(x0_5:Rw)(x1_0:Int)(x1_1:Rw)(x1_2:Bool)(x1_3:Rw)(x1_4:Bool)(x1_5:Rw):By A D Ag Aiu .n 233 AjK [Ξ [iv x0_0,V x0_1,bv x0_2,V x0_3,bv x0_4,V x0_5],Ξ [iv x1_0,V x1_1,bv x1_2,V x1_3,bv x1_4,V x1_5]] [] =
 Ae D (Φ 175) [Ξ [iv x0_0,V x0_1,bv x0_2,V x0_3,bv x0_4,V x0_5]] [] [.a,.I,.L,.B,.L,.B,.L,.N,.E] λn xs b xs1 b1 xs2=>
 Ae D (Φ 175) [Ξ [iv x1_0,V x1_1,bv x1_2,V x1_3,bv x1_4,V x1_5]] [] [.a,.I,.L,.B,.L,.B,.L,.N,.E] λn1 xs3 b2 xs4 b3 xs5=>
 br (A.eq n n1)
 (br (A.eq n 2)
 (Ae D (Φ 254) [Ξ [V xs,bv b,V xs1,bv b1],Ξ [V xs3,bv b2,V xs4,bv b3]] [] [.b,.E] λb4=>
 br b4
 (Ae D (Φ 255) [V xs2,V xs5,Arj (Fn.func 233) [] []] [] [.b,.E] λb5=>
 br b5
 (some ((bv true,[])))
 (some ((bv false,[]))))
 (some ((bv false,[]))))
 (Ae D (Φ 255) [V xs2,V xs5,Arj (Fn.func 233) [] []] [] [.b,.E] λb4=>
 br b4
 (some ((bv true,[])))
 (some ((bv false,[])))))
 (some ((bv false,[]))):=by kernel_rfl
end
end
end Go.Proofs.YtlmhajfbpplpoaaGreat
