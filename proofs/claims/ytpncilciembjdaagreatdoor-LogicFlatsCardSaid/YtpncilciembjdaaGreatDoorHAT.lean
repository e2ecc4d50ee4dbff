/- Functions of the program -/
import Derived.Test.YtpncilciembjdaaGreatDoorHAM
set_option linter.all false
open Bool renaming false->Φ,true->Δ
open List renaming drop->Av8,take->κ
open Option renaming none->Ξ,some->Θ
namespace Go.Proofs.YtpncilciembjdaaGreatDoor
noncomputable section
open ABlk renaming mk->θ
open AV renaming agg->δ,fn->Aw9,ls->Ψ,ptr->χ,sl->υ,tup->Awe
open BO renaming set->Awn
open IntKind renaming i64->ω,u64->Ω
open Key renaming fn->φ,lp->Awa
open Tryz renaming prog->Av9
section
open Go.RowKit
def Amo:MFn:=AN [] 145
def Alz:Hnt:=⟨[(202,(.ls,[]))],[],[]⟩
def Amm:MFn:=AN [] 142
def Alx:Hnt:=⟨[(145,(.agg AL,[]))],[],[(4,[.bool]),(6,[.ls])]⟩
def Ame:MFn:=AN [] 126
def Alp:Hnt:=⟨[(145,(.agg AL,[])),(184,(.ls,[]))],[],[]⟩
def Amy:MFn:=AN [] 161
def AlJ:Hnt:=⟨[(145,(.agg AL,[]))],[],[(4,[.bool]),(7,[.ls])]⟩
def ArB:MFn:=AN [] 64
def AqL:Hnt:=⟨[(142,(.agg AL,[]))],[],[(3,AL),(7,[.bool]),(10,[.ls])]⟩
def Amv:MFn:=AN [] 155
def AlG:Hnt:=⟨[(64,(.int .i64,[])),(201,(.int .i64,[]))],[],[(7,AL),(9,AL),(23,[.ls]),(25,[.ls]),(28,[.ls]),(30,[.ls])]⟩
def Amk:MFn:=AN [] 139
def Alv:Hnt:=⟨[(145,(.agg AL,[])),(197,(.ls,[])),(198,(.tup [.ls,.bool],[]))],[],[(10,[.bool]),(12,[.bool]),(15,[.bool]),(17,[.ls]),(19,[.ls]),(24,[.ls]),(26,[.ls]),(32,[.bool]),(37,[.ls]),(39,[.ls]),(44,[.bool])]⟩
def Amx:MFn:=AN [] 158
def AlI:Hnt:=⟨[(145,(.agg AL,[])),(212,(.ls,[]))],[],[(6,[.bool]),(8,[.bool]),(11,[.ls]),(13,[.ls])]⟩
def M3:List (Nat × MFn):=[(145,Amo),(142,Amm),(126,Ame),(161,Amy),(64,ArB),(155,Amv),(139,Amk),(158,Amx)]
variable (A:Ar) (D:Orc)
theorem Atd(x0:Bool)(x1:Rw):B3 A D Au Alz (.b (.t (.t (.b (.t .n) (.t .n)))) (.f (.f (.f .n)))) 145 Amo [bv x0,Ψ x1] [] =
 Ai D (φ 202) [Ψ x1] [] [.l,.E] λxs=>
 br x0
 (br x0 (br x0 (br (A.lt 0 ↑(AT xs))
 (br x0 (Θ ((δ [bv Δ,Ψ xs],[]))) Ξ)
 (br x0 (Θ ((δ [bv Φ,Ψ xs],[]))) Ξ)) Ξ) Ξ)
 (br x0 Ξ (br x0 Ξ (br x0 Ξ (Θ ((δ [bv Φ,Ψ xs],[])))))):=by kernel_rfl
theorem Atb(x0_0:Bool)(x0_1:Rw):B3 A D Au Alx .n 142 Amm [δ [bv x0_0,Ψ x0_1]] [] =
 Ai D (φ 145) [bv x0_0,Ψ x0_1] [] [.a,.B,.L,.N,.E] λb xs=>
 Θ ((δ [bv b,Ψ xs],[])):=by kernel_rfl
theorem As2(x0:Int):B3 A D Au Alp .n 126 Ame [iv x0] [] =
 br (A.lt x0 0)
 (Ai D (φ 184) [AV.v (Value.int Ω (A.add Ω (A.conv Ω (A.sub ω 0 (A.add ω x0 1))) 1))] [] [.l,.E] λxs=>
 Ai D (φ 145) [bv Δ,Ψ xs] [] [.a,.B,.L,.N,.E] λb xs1=>
 Θ ((δ [bv b,Ψ xs1],[])))
 (Ai D (φ 184) [AV.v (Value.int Ω (A.conv Ω x0))] [] [.l,.E] λxs=>
 Ai D (φ 145) [bv Φ,Ψ xs] [] [.a,.B,.L,.N,.E] λb xs1=>
 Θ ((δ [bv b,Ψ xs1],[]))):=by kernel_rfl
theorem Atr(x0_0:Bool)(x0_1:Rw):B3 A D Au AlJ .n 161 Amy [δ [bv x0_0,Ψ x0_1]] [] =
 br (A.not x0_0)
 (Ai D (φ 145) [bv Δ,Ψ x0_1] [] [.a,.B,.L,.N,.E] λb xs=>
 Θ ((δ [bv b,Ψ xs],[])))
 (Ai D (φ 145) [bv Φ,Ψ x0_1] [] [.a,.B,.L,.N,.E] λb xs=>
 Θ ((δ [bv b,Ψ xs],[]))):=by kernel_rfl
theorem e64(x0_0:Bool)(x0_1:Rw):B3 A D Au AqL .n 64 ArB [δ [bv x0_0,Ψ x0_1]] [] =
 Ai D (φ 142) [δ [bv x0_0,Ψ x0_1]] [] [.a,.B,.L,.N,.E] λb xs=>
 br b
 (Θ ((iv (-1),[])))
 (br (A.lt 0 ↑(AT xs))
 (Θ ((iv 1,[])))
 (Θ ((iv 0,[])))):=by kernel_rfl
theorem Atn(x0_0:Bool)(x0_1:Rw)(x1_0:Bool)(x1_1:Rw):B3 A D Au AlG .n 155 Amv [δ [bv x0_0,Ψ x0_1],δ [bv x1_0,Ψ x1_1]] [] =
 Ai D (φ 64) [δ [bv x0_0,Ψ x0_1]] [] [.i,.E] λn=>
 Ai D (φ 64) [δ [bv x1_0,Ψ x1_1]] [] [.i,.E] λn1=>
 br (A.lt n n1)
 (Θ ((iv (-1),[])))
 (br (A.lt n1 n)
 (Θ ((iv 1,[])))
 (br (A.lt n 0)
 (Ai D (φ 201) [Ψ x1_1,Ψ x0_1] [] [.i,.E] λn2=>
 Θ ((iv n2,[])))
 (Ai D (φ 201) [Ψ x0_1,Ψ x1_1] [] [.i,.E] λn2=>
 Θ ((iv n2,[]))))):=by kernel_rfl
theorem As9(x0_0:Bool)(x0_1:Rw)(x1_0:Bool)(x1_1:Rw):B3 A D Au Alv .n 139 Amk [δ [bv x0_0,Ψ x0_1],δ [bv x1_0,Ψ x1_1]] [] =
 br (A.beq x0_0 x1_0)
 (Ai D (φ 197) [Ψ x0_1,Ψ x1_1] [] [.l,.E] λxs=>
 Ai D (φ 145) [bv x0_0,Ψ xs] [] [.a,.B,.L,.N,.E] λb xs1=>
 Θ ((δ [bv b,Ψ xs1],[])))
 (Ai D (φ 198) [Ψ x0_1,Ψ x1_1] [] [.t,.L,.B,.N,.E] λxs b=>
 br b
 (Ai D (φ 145) [bv x0_0,Ψ xs] [] [.a,.B,.L,.N,.E] λb1 xs1=>
 Θ ((δ [bv b1,Ψ xs1],[])))
 (Ai D (φ 198) [Ψ x1_1,Ψ x0_1] [] [.t,.L,.B,.N,.E] λxs1 _=>
 Ai D (φ 145) [bv x1_0,Ψ xs1] [] [.a,.B,.L,.N,.E] λb2 xs2=>
 Θ ((δ [bv b2,Ψ xs2],[])))):=by kernel_rfl
theorem Atq(x0_0:Bool)(x0_1:Rw)(x1_0:Bool)(x1_1:Rw):B3 A D Au AlI .n 158 Amx [δ [bv x0_0,Ψ x0_1],δ [bv x1_0,Ψ x1_1]] [] =
 br (A.not (A.beq x0_0 x1_0))
 (Ai D (φ 212) [Ψ x0_1,Ψ x1_1] [] [.l,.E] λxs=>
 Ai D (φ 145) [bv Δ,Ψ xs] [] [.a,.B,.L,.N,.E] λb xs1=>
 Θ ((δ [bv b,Ψ xs1],[])))
 (Ai D (φ 212) [Ψ x0_1,Ψ x1_1] [] [.l,.E] λxs=>
 Ai D (φ 145) [bv Φ,Ψ xs] [] [.a,.B,.L,.N,.E] λb xs1=>
 Θ ((δ [bv b,Ψ xs1],[]))):=by kernel_rfl
end
section
open Go.RowKit
def Amw:MFn:=AN [] 157
def AlH:Hnt:=⟨[],[],[]⟩
def ArL:MFn:=AN [] 84
def AqV:Hnt:=⟨[(157,(.bool,[]))],[],[]⟩
def Ami:MFn:=AN [] 137
def Alt:Hnt:=⟨[(84,(.int .i64,[]))],[],[(6,[.int .i64]),(8,[.int .i64])]⟩
def Aml:MFn:=AN [] 141
def Alw:Hnt:=⟨[(64,(.int .i64,[]))],[],[(4,AL)]⟩
def Amh:MFn:=NB Av9 B4 [] Φ Δ 136
def Als:Hnt:=⟨[(137,(.int .i64,[])),(196,(.tup [],[.row Δ]))],[],[]⟩
def QV:MFn:=NB Av9 B4 [⟨63,(mB 455),[],[],[(1,((mB 199),([],[1000000])))]⟩,⟨63,(mB 71),[],[],[(3,([Δ],([],[1000000])))]⟩,⟨63,(mB 455),[],[],[(5,((mB 199),([],[1000000])))]⟩] Φ Δ 196
def OE:Hnt:=⟨[(137,(.int .i64,[])),(234,(.tup [],[.row Δ])),(235,(.tup [],[.row Δ]))],[(0,[(1,([.sl 0 3,.int .i64,.fnc 137,.int .i64,.int .i64],[.row Δ]))]),(1,[(3,([.sl 0 3],[.row Δ]))]),(2,[(5,([.sl 0 3,.int .i64,.fnc 137,.int .i64,.int .i64],[.row Δ]))])],[]⟩
def QZ:MFn:=NB Av9 B4 [⟨53,(mB 271),[],[],[(1,([Δ],([],[1000000])))]⟩,⟨53,(mB 783),[],[],[(3,((mB 271),([],[1000000])))]⟩] Φ Δ 234
def Iu:Hnt:=⟨[(137,(.int .i64,[]))],[(0,[(1,([.sl 0 3],[.row Δ]))]),(1,[(3,([.sl 0 3,.int .i64,.int .i64,.fnc 137,.int .i64],[.row Δ]))])],[(25,Cj),(26,Cj),(30,Cj),(31,Cj),(45,Cj),(46,Cj),(49,Cj),(50,Cj),(51,Cj),(52,Cj)]⟩
def Yd:MFn:=NB Av9 B4 [⟨42,(mB 99),[],[],[(1,((mB 33),([],[1000000])))]⟩] Δ Δ 140
def OD:Hnt:=⟨[(141,(.bool,[])),(199,(.int .i64,[.row Δ]))],[(0,[(1,([.sl 0 3,.int .i64],[.row Δ]))])],[(24,Cj),(25,Cj),(27,Cj),(32,Cj),(33,Cj)]⟩
def Yp:MFn:=NB Av9 B4 [⟨19,(mB 387),[],[],[(0,((mB 17),([],[1000000]))),(1,([Δ],([],[1000000])))]⟩] Φ Δ 199
def OF:Hnt:=⟨[(141,(.bool,[]))],[(0,[(0,([.sl 0 3,.int .i64],[.row Δ])),(1,([.sl 0 3],[.row Δ]))])],[(14,Cj),(15,Cj)]⟩
variable (A:Ar) (D:Orc)
theorem Atp(x0:Int):B3 A D Au AlH .n 157 Amw [iv x0] [] =
 br (A.eq x0 x0)
 (Θ ((bv Φ,[])))
 (Θ ((bv Δ,[]))):=by kernel_rfl
theorem e84(x0 x1:Int):B3 A D Au AqV .n 84 ArL [iv x0,iv x1] [] =
 Ai D (φ 157) [iv x0] [] [.b,.E] λb=>
 br b
 (Ai D (φ 157) [iv x1] [] [.b,.E] λb1=>
 br b1
 (Θ ((iv 0,[])))
 (Θ ((iv (-1),[]))))
 (Ai D (φ 157) [iv x1] [] [.b,.E] λb1=>
 br b1
 (Θ ((iv 1,[])))
 (br (A.lt x0 x1)
 (Θ ((iv (-1),[])))
 (br (A.lt x1 x0)
 (Θ ((iv 1,[])))
 (Θ ((iv 0,[])))))):=by kernel_rfl
theorem As7(x0_0:Int)(x0_1:Bool)(x0_2:Rw)(x1_0:Int)(x1_1:Bool)(x1_2:Rw):B3 A D Au Alt .n 137 Ami [δ [iv x0_0,bv x0_1,Ψ x0_2],δ [iv x1_0,bv x1_1,Ψ x1_2]] [] =
 Ai D (φ 84) [iv x0_0,iv x1_0] [] [.i,.E] λn=>
 Θ ((iv n,[])):=by kernel_rfl
theorem Ata(x0_0:Int)(x0_1:Bool)(x0_2:Rw):B3 A D Au Alw .n 141 Aml [δ [iv x0_0,bv x0_1,Ψ x0_2]] [] =
 Ai D (φ 64) [δ [bv x0_1,Ψ x0_2]] [] [.i,.E] λn=>
 br (A.eq n 0)
 (Θ ((bv Δ,[])))
 (Θ ((bv Φ,[]))):=by kernel_rfl
theorem As6(n0:Nat)(c0:Ab):B3 A D Au Als .n 136 Amh [υ 0 0 n0 3,Aw9 (Fn.func 137) [] []] [{ cells:=c0,st:=Δ,ex:=Δ }] =
 Ai D (φ 196) [υ 0 0 n0 3,iv ↑n0,Aw9 (Fn.func 137) [] []] [θ c0 Δ Δ] [.t,.N,.R,.X,.E] λcs1=>
 Θ ((Awe [],[Awn (θ cs1 Δ Δ)])):=by kernel_rfl
theorem AtG(n0:Nat)(c0:Ab)(x1:Int):B3 A D Au OE .n 196 QV [υ 0 0 n0 3,iv x1,Aw9 (Fn.func 137) [] []] [{ cells:=c0,st:=Δ,ex:=Δ }] =
 Ai D (Awa 196 0) [υ 0 0 n0 3,iv x1,Aw9 (Fn.func 137) [] [],iv 20,iv 0,iv 20] [θ c0 Δ Δ] [.t,.C,.x,.X,.Y] λc l o=>
 br (BA 1 c)
 (dk [.C,.q 0 3,.I,.C,.f 137,.I,.I,.N,.R,.X,.E] [.l l,.o o] λn n1 n2 n3 cs1=>
 Ai D (φ 234) [υ 0 0 n 3,iv n3,iv n1,Aw9 (Fn.func 137) [] []] [θ cs1 Δ Δ] [.t,.N,.R,.X,.E] λcs3=>
 Ai D (Awa 196 1) [υ 0 0 n 3,iv n1,Aw9 (Fn.func 137) [] [],iv n2] [θ cs3 Δ Δ] [.t,.C,.x,.X,.Y] λc5 l8 o2=>
 br (BA 3 c5)
 (dk [.C,.q 0 3,.N,.R,.X,.E] [.l l8,.o o2] λ_ cs5=>
 Θ ((Awe [],[Awn (θ cs5 Δ Δ)])))
 (Ξ))
 (Ξ):=by kernel_rfl
theorem AbV(n0:Nat)(c0:Ab)(t1 t6 t7 t8:Int):Dc A D Au OE .n 196 0 (A1 QV 0).fst (A1 QV 0).snd [υ 0 0 n0 3,iv t1,Aw9 (Fn.func 137) [] [],iv t6,iv t7,iv t8] [{ cells:=c0,st:=Δ,ex:=Δ }] =
 br (A.le t8 t1)
 (Ai D (φ 234) [υ 0 0 n0 3,iv t7,iv t8,Aw9 (Fn.func 137) [] []] [θ c0 Δ Δ] [.t,.N,.R,.X,.E] λcs1=>
 AW D (Awa 196 0) [υ 0 0 n0 3,iv t1,Aw9 (Fn.func 137) [] [],iv t6,iv t8,iv (A.add ω t8 t6)] [θ cs1 Δ Δ] λr1 o1=>
 AS 1 [0] (AH.mk [(0,θ cs1 Δ Δ)] 1 Ξ) [0] r1 o1)
 (Θ ((Awe [iv 0,υ 0 0 n0 3,iv t1,Aw9 (Fn.func 137) [] [],iv t6,iv t7],[Awn (θ c0 Δ Δ)]))):=by kernel_rfl
theorem AnB(n0:Nat)(c0:Ab)(t1 t6:Int):Dc A D Au OE .n 196 1 (A1 QV 1).fst (A1 QV 1).snd [υ 0 0 n0 3,iv t1,Aw9 (Fn.func 137) [] [],iv t6] [{ cells:=c0,st:=Δ,ex:=Δ }] =
 br (A.lt t6 t1)
 (Ai D (Awa 196 2) [υ 0 0 n0 3,iv t1,Aw9 (Fn.func 137) [] [],iv t6,iv 0,iv (A.mul ω 2 t6)] [θ c0 Δ Δ] [.t,.C,.x,.X,.Y] λc l o=>
 br (BA 5 c)
 (dk [.C,.q 0 3,.I,.C,.f 137,.I,.I,.N,.R,.X,.E] [.l l,.o o] λn n1 n2 n3 cs1=>
 br (A.lt (A.add ω n3 n2) n1)
 (Ai D (φ 235) [υ 0 0 n 3,iv n3,iv (A.add ω n3 n2),iv n1,Aw9 (Fn.func 137) [] []] [θ cs1 Δ Δ] [.t,.N,.R,.X,.E] λcs3=>
 AW D (Awa 196 1) [υ 0 0 n 3,iv n1,Aw9 (Fn.func 137) [] [],iv (A.mul ω n2 2)] [θ cs3 Δ Δ] λr2 o2=>
 AS 1 [0] (AH.mk [(0,θ cs3 Δ Δ)] 1 Ξ) [0] r2 o2)
 (AW D (Awa 196 1) [υ 0 0 n 3,iv n1,Aw9 (Fn.func 137) [] [],iv (A.mul ω n2 2)] [θ cs1 Δ Δ] λr1 o1=>
 AS 1 [0] (AH.mk [(0,θ cs1 Δ Δ)] 1 Ξ) [0] r1 o1))
 (Ξ))
 (Θ ((Awe [iv 2,υ 0 0 n0 3],[Awn (θ c0 Δ Δ)]))):=by kernel_rfl
theorem Aqa(n0:Nat)(c0:Ab)(x1 x2:Int):B3 A D Au Iu .n 234 QZ [υ 0 0 n0 3,iv x1,iv x2,Aw9 (Fn.func 137) [] []] [{ cells:=c0,st:=Δ,ex:=Δ }] =
 Ai D (Awa 234 0) [υ 0 0 n0 3,iv x1,iv x2,Aw9 (Fn.func 137) [] [],iv (A.add ω x1 1)] [θ c0 Δ Δ] [.t,.C,.x,.X,.Y] λc l o=>
 br (BA 1 c)
 (dk [.C,.q 0 3,.N,.R,.X,.E] [.l l,.o o] λ_ cs1=>
 Θ ((Awe [],[Awn (θ cs1 Δ Δ)])))
 (Ξ):=by kernel_rfl
theorem V5(n0:Nat)(c0:Ab)(t1 t2 t8:Int):Dc A D Au Iu .n 234 0 (A1 QZ 0).fst (A1 QZ 0).snd [υ 0 0 n0 3,iv t1,iv t2,Aw9 (Fn.func 137) [] [],iv t8] [{ cells:=c0,st:=Δ,ex:=Δ }] =
 br (A.lt t8 t2)
 (Ai D (Awa 234 1) [υ 0 0 n0 3,iv t1,iv t2,Aw9 (Fn.func 137) [] [],iv t8,iv t8] [θ c0 Δ Δ] [.t,.C,.x,.X,.Y] λc l o=>
 br (BA 3 c)
 (dk [.C,.q 0 3,.I,.I,.C,.f 137,.I,.N,.R,.X,.E] [.l l,.o o] λn n1 n2 n3 cs1=>
 AW D (Awa 234 0) [υ 0 0 n 3,iv n1,iv n2,Aw9 (Fn.func 137) [] [],iv (A.add ω n3 1)] [θ cs1 Δ Δ] λr1 o1=>
 AS 1 [0] (AH.mk [(0,θ cs1 Δ Δ)] 1 Ξ) [0] r1 o1)
 (Ξ))
 (Θ ((Awe [iv 0,υ 0 0 n0 3],[Awn (θ c0 Δ Δ)]))):=by kernel_rfl
theorem V6(n0:Nat)(c0:Ab)(t1 t2 t8 t9:Int):Dc A D Au Iu .n 234 1 (A1 QZ 1).fst (A1 QZ 1).snd [υ 0 0 n0 3,iv t1,iv t2,Aw9 (Fn.func 137) [] [],iv t8,iv t9] [{ cells:=c0,st:=Δ,ex:=Δ }] =
 br (A.lt t1 t9)
 (unI t9 λi=>
 br (i.blt n0) (Ia c0 (0+i*3) 3 λcs=>
 dk [.I,.B,.L,.N] [.l cs] λn b xs=>
 unI (A.sub ω t9 1) λi1=>
 br (i1.blt n0) (Ia c0 (0+i1*3) 3 λcs1=>
 dk [.I,.B,.L,.N] [.l cs1] λn1 b1 xs1=>
 Ai D (φ 137) [δ [iv n,bv b,Ψ xs],δ [iv n1,bv b1,Ψ xs1]] [] [.i,.E] λn2=>
 br (A.lt n2 0)
 (unI (A.sub ω t9 1) λi2=>
 br (i2.blt n0) (Ia c0 (0+i2*3) 3 λcs2=>
 dk [.I,.B,.L,.N] [.l cs2] λn3 b2 xs2=>
 unI t9 λi3=>
 br (i3.blt n0) (Ia c0 (0+i3*3) 3 λcs3=>
 dk [.I,.B,.L,.N] [.l cs3] λn4 b3 xs3=>
 unI t9 λi4=>
 br (i4.blt n0) (br ((0+i4*3+3).ble c0.length) (unI (A.sub ω t9 1) λi5=>
 br (i5.blt n0) (br ((0+i5*3+3).ble (Bp c0 (0+i4*3) [iv n3,bv b2,Ψ xs2]).length) (AW D (Awa 234 1) [υ 0 0 n0 3,iv t1,iv t2,Aw9 (Fn.func 137) [] [],iv t8,iv (A.sub ω t9 1)] [θ (Bp (Bp c0 (0+i4*3) [iv n3,bv b2,Ψ xs2]) (0+i5*3) [iv n4,bv b3,Ψ xs3]) Δ Δ] λr1 o1=>
 AS 1 [0] (AH.mk [(0,θ (Bp (Bp c0 (0+i4*3) [iv n3,bv b2,Ψ xs2]) (0+i5*3) [iv n4,bv b3,Ψ xs3]) Δ Δ)] 1 Ξ) [0] r1 o1) Ξ) Ξ) Ξ) Ξ) Ξ) Ξ)
 (Θ ((Awe [iv 2,υ 0 0 n0 3,iv t1,iv t2,Aw9 (Fn.func 137) [] [],iv t8],[Awn (θ c0 Δ Δ)])))) Ξ) Ξ)
 (Θ ((Awe [iv 2,υ 0 0 n0 3,iv t1,iv t2,Aw9 (Fn.func 137) [] [],iv t8],[Awn (θ c0 Δ Δ)]))):=by kernel_rfl
theorem Ap0(n0:Nat)(c0:Ab):B3 A D Au OD .n 140 Yd [υ 0 0 n0 3,Aw9 (Fn.func 141) [] []] [{ cells:=c0,st:=Δ,ex:=Δ }] =
 Ai D (φ 199) [υ 0 0 n0 3,Aw9 (Fn.func 141) [] []] [θ c0 Δ Δ] [.i,.R,.X,.E] λn cs=>
 br (A.eq n (-1))
 (Θ ((υ 0 0 n0 3,[Awn (θ cs Δ Δ)])))
 (Ai D (Awa 140 0) [υ 0 0 n0 3,Aw9 (Fn.func 141) [] [],iv n,iv (A.add ω n 1)] [θ cs Δ Δ] [.t,.C,.x,.X,.Y] λc1 l1 o1=>
 br (BA 1 c1)
 (dk [.C,.q 0 3,.I,.N,.R,.X,.E] [.l l1,.o o1] λn1 n2 cs2=>
 unI n2 λi=>
 br (HY i n1 n1) (br ((0+i*3+(n1-i)*3).ble cs2.length) (unI n2 λi1=>
 br (HY 0 i1 n1) (Θ ((υ 0 0 i1 3,[Awn (θ (Bp cs2 (0+i*3) (Ch [iv 0,bv Φ,AV.v (Value.slice Ξ 0 0)] ((n1-i)*3))) Δ Δ)]))) Ξ) Ξ) Ξ)
 (Ξ)):=by kernel_rfl
theorem V0(n0:Nat)(c0:Ab)(t5 t6:Int):Dc A D Au OD .n 140 0 (A1 Yd 0).fst (A1 Yd 0).snd [υ 0 0 n0 3,Aw9 (Fn.func 141) [] [],iv t5,iv t6] [{ cells:=c0,st:=Δ,ex:=Δ }] =
 br (A.lt t6 ↑n0)
 (unI t6 λi=>
 br (i.blt n0) (Ia c0 (0+i*3) 3 λcs=>
 dk [.I,.B,.L,.N] [.l cs] λn b xs=>
 Ai D (φ 141) [δ [iv n,bv b,Ψ xs]] [] [.b,.E] λb1=>
 br b1
 (AW D (Awa 140 0) [υ 0 0 n0 3,Aw9 (Fn.func 141) [] [],iv t5,iv (A.add ω t6 1)] [θ c0 Δ Δ] λr1 o1=>
 AS 1 [0] (AH.mk [(1,bk [iv n,bv b,Ψ xs]),(0,θ c0 Δ Δ)] 2 Ξ) [] r1 o1)
 (unI t5 λi1=>
 br (i1.blt n0) (br ((0+i1*3+3).ble c0.length) (AW D (Awa 140 0) [υ 0 0 n0 3,Aw9 (Fn.func 141) [] [],iv (A.add ω t5 1),iv (A.add ω t6 1)] [θ (Bp c0 (0+i1*3) [iv n,bv b,Ψ xs]) Δ Δ] λr1 o1=>
 AS 1 [0] (AH.mk [(0,θ (Bp c0 (0+i1*3) [iv n,bv b,Ψ xs]) Δ Δ),(1,bk [iv n,bv b,Ψ xs])] 2 Ξ) [0] r1 o1) Ξ) Ξ)) Ξ)
 (Θ ((Awe [iv 0,υ 0 0 n0 3,iv t5],[Awn (θ c0 Δ Δ)]))):=by kernel_rfl
theorem AtJ(n0:Nat)(c0:Ab):B3 A D Au OF .n 199 Yp [υ 0 0 n0 3,Aw9 (Fn.func 141) [] []] [{ cells:=c0,st:=Δ,ex:=Δ }] =
 Ai D (Awa 199 0) [υ 0 0 n0 3,Aw9 (Fn.func 141) [] [],iv ↑n0,iv 0] [θ c0 Δ Δ] [.t,.C,.x,.X,.Y] λc l o=>
 br (BA 0 c)
 (dk [.C,.q 0 3,.I,.N,.R,.X,.E] [.l l,.o o] λ_ n1 cs1=>
 Θ ((iv n1,[Awn (θ cs1 Δ Δ)])))
 (br (BA 1 c)
 (dk [.C,.q 0 3,.N,.R,.X,.E] [.l l,.o o] λ_ cs1=>
 Θ ((iv (-1),[Awn (θ cs1 Δ Δ)])))
 (Ξ)):=by kernel_rfl
theorem R3(n0:Nat)(c0:Ab)(t7 t8:Int):Dc A D Au OF .n 199 0 (A1 Yp 0).fst (A1 Yp 0).snd [υ 0 0 n0 3,Aw9 (Fn.func 141) [] [],iv t7,iv t8] [{ cells:=c0,st:=Δ,ex:=Δ }] =
 br (A.lt t8 t7)
 (unI t8 λi=>
 br (i.blt n0) (Ia c0 (0+i*3) 3 λcs=>
 dk [.I,.B,.L,.N] [.l cs] λn b xs=>
 Ai D (φ 141) [δ [iv n,bv b,Ψ xs]] [] [.b,.E] λb1=>
 br b1
 (Θ ((Awe [bv Δ,υ 0 0 n0 3,iv t8],[Awn (θ c0 Δ Δ)])))
 (AW D (Awa 199 0) [υ 0 0 n0 3,Aw9 (Fn.func 141) [] [],iv t7,iv (A.add ω t8 1)] [θ c0 Δ Δ] λr1 o1=>
 AS 1 [0] (AH.mk [(0,θ c0 Δ Δ)] 1 Ξ) [] r1 o1)) Ξ)
 (Θ ((Awe [iv 0,υ 0 0 n0 3],[Awn (θ c0 Δ Δ)]))):=by kernel_rfl
end
open Go.RowKit
def M2:List (Nat × MFn):=[(157,Amw),(84,ArL),(137,Ami),(141,Aml),(136,Amh),(196,QV),(234,QZ),(140,Yd),(199,Yp)]
section
open Go.RowKit
def Amj:MFn:=AN [] 138
def Alu:Hnt:=⟨[(145,(.agg AL,[]))],[],[(4,[.bool]),(6,[.ls])]⟩
def Agp:MFn:=AN [⟨74,(mB 917524),[(1000004,3)],[2,17],[(1,((mB 20),([],[])))]⟩] 62
def AcK:Hnt:=⟨[(135,(.sl 0 3,[.row Δ])),(136,(.tup [],[.row Δ])),(138,(.agg AL,[])),(139,(.agg AL,[])),(140,(.sl 0 3,[.row Δ]))],[(0,[(1,([.ptr 0 0,.ptr 1 0],[.box BJ,.box [.sl 3 3,.bool,.ls],.del,.row Δ]))])],[(9,[.ls]),(14,AL),(21,Cj),(22,Cj),(24,[.int .i64]),(27,[.ls]),(34,[.ls]),(36,Cj),(38,[.int .i64]),(40,[.int .i64]),(44,[.ls]),(47,[.ls]),(49,Cj),(51,AL),(53,AL),(55,Cj),(58,[.ls]),(60,[.int .i64]),(62,AL),(70,[.ls]),(73,BJ)]⟩
def Ge:List (Nat × MFn):=[(138,Amj),(62,Agp)]
variable (A:Ar) (D:Orc)
theorem As8(x0_0:Bool)(x0_1:Rw):B3 A D Au Alu .n 138 Amj [δ [bv x0_0,Ψ x0_1]] [] =
 Ai D (φ 145) [bv x0_0,Ψ x0_1] [] [.a,.B,.L,.N,.E] λb xs=>
 Θ ((δ [bv b,Ψ xs],[])):=by kernel_rfl
theorem e62(x0_0:Rw)(x0_1:Bool)(x0_2:Rw):B3 A D Au AcK .n 62 Agp [δ [Ψ x0_0,bv x0_1,Ψ x0_2]] [] =
 Ai D (φ 135) [Ψ x0_0] [] [.q 0 3,.R,.X,.E] λn cs=>
 Ai D (φ 136) [υ 0 0 n 3,Aw9 (Fn.func 137) [] []] [θ cs Δ Δ] [.t,.N,.R,.X,.E] λcs2=>
 Ai D (φ 138) [δ [bv x0_1,Ψ x0_2]] [] [.a,.B,.L,.N,.E] λb xs=>
 br ((0+n*3).ble cs2.length) (AW D (Awa 62 0) [χ 0 0,χ 1 0,Ψ (Bo n 3 (κ (n*3) cs2)),iv ↑n,iv 0] [bk [Ψ [],bv Φ,Ψ []],bk [υ 2 0 0 3,bv b,Ψ xs],θ [] Δ Δ] λr3 o3=>
 dk [.t,.C,.x,.X] [.v r3] λc2 l4=>
 br (BA 1 c2)
 (dk [.P 0 0,.P 1 0,.N,.T,.L,.B,.L,.N,.T,.C,.q 3 3,.B,.L,.N,.D,.R,.X,.E] [.l l4,.o o3] λ_ _ _ n1 b2 xs3 cs7=>
 Ai D (φ 140) [υ 0 0 n1 3,Aw9 (Fn.func 141) [] []] [θ cs7 Δ Δ] [.q 0 3,.R,.X,.E] λn2 cs8=>
 br ((0+n2*3).ble cs8.length) (Θ ((δ [Ψ (Bo n2 3 (κ (n2*3) cs8)),bv b2,Ψ xs3],[]))) Ξ)
 (Ξ)) Ξ:=by kernel_rfl
theorem Ak2(r0:Rw)(r1:Bool)(r2:Rw)(n4:Nat)(k1:Bool)(k2:Rw)(c4:Ab)(t17:Rw)(t18 t19:Int):Dc A D Au AcK .n 62 0 (A1 Agp 0).fst (A1 Agp 0).snd [χ 0 0,χ 1 0,Ψ t17,iv t18,iv t19] [bk [Ψ r0,bv r1,Ψ r2],bk [υ 2 0 n4 3,bv k1,Ψ k2],{ cells:=c4,st:=Δ,ex:=Δ }] =
 br (A.lt t19 t18)
 (unI t19 λi=>
 Bw t17 i λcs=>
 dk [.I,.B,.L,.N] [.l cs] λn b xs=>
 br (A.lt n 0)
 (AW D (Awa 62 0) [χ 0 0,χ 1 0,Ψ t17,iv t18,iv (A.add ω t19 1)] [bk [Ψ r0,bv r1,Ψ r2],bk [υ 2 0 n4 3,bv k1,Ψ k2],θ c4 Δ Δ] λr o=>
 AS 3 [0,1,2] (AH.mk [(0,bk [Ψ r0,bv r1,Ψ r2]),(3,bk [iv n,bv b,Ψ xs]),(1,bk [υ 2 0 n4 3,bv k1,Ψ k2]),(2,θ c4 Δ Δ)] 4 Ξ) [0] r o)
 (br (A.le 0 (A.sub ω (↑n4) 1))
 (unI (A.sub ω (↑n4) 1) λi1=>
 br (i1.blt n4) (Ia c4 (0+i1*3+0) 1 λcs1=>
 dk [.I,.N] [.l cs1] λn1=>
 br (A.eq n1 n)
 (unI (A.sub ω (↑n4) 1) λi2=>
 br (i2.blt n4) (Ia c4 (0+i2*3+1) 2 λcs2=>
 dk [.B,.L,.N] [.l cs2] λb1 xs1=>
 Ai D (φ 139) [δ [bv b1,Ψ xs1],δ [bv b,Ψ xs]] [] [.a,.B,.L,.N,.E] λb2 xs2=>
 unI (A.sub ω (↑n4) 1) λi3=>
 br (i3.blt n4) (br ((0+i3*3+1+2).ble c4.length) (AW D (Awa 62 0) [χ 0 0,χ 1 0,Ψ t17,iv t18,iv (A.add ω t19 1)] [bk [Ψ r0,bv r1,Ψ r2],bk [υ 2 0 n4 3,bv k1,Ψ k2],θ (Bp c4 (0+i3*3+1) [bv b2,Ψ xs2]) Δ Δ] λr3 o1=>
 AS 3 [0,1,2] (AH.mk [(0,bk [Ψ r0,bv r1,Ψ r2]),(2,θ (Bp c4 (0+i3*3+1) [bv b2,Ψ xs2]) Δ Δ),(3,bk [iv n,bv b,Ψ xs]),(1,bk [υ 2 0 n4 3,bv k1,Ψ k2])] 4 Ξ) [2,0] r3 o1) Ξ) Ξ) Ξ)
 (Ai D (φ 138) [δ [bv b,Ψ xs]] [] [.a,.B,.L,.N,.E] λb1 xs1=>
 br (Ba (n4+1) 40) (br ((0+n4*3).ble c4.length) (AW D (Awa 62 0) [χ 0 0,χ 1 0,Ψ t17,iv t18,iv (A.add ω t19 1)] [bk [Ψ r0,bv r1,Ψ r2],bk [υ 2 0 (n4+1) 3,bv k1,Ψ k2],θ (Av8 0 (κ (0+n4*3) c4)++[iv n,bv b1,Ψ xs1]) Δ Δ] λr3 o1=>
 AS 3 [0,1,5] (AH.mk [(0,bk [Ψ r0,bv r1,Ψ r2]),(1,bk [υ 5 0 (n4+1) 3,bv k1,Ψ k2]),(5,θ (Av8 0 (κ (0+n4*3) c4)++[iv n,bv b1,Ψ xs1]) Δ Δ),(4,θ [iv n,bv b1,Ψ xs1] Δ Δ),(3,bk [iv n,bv b,Ψ xs])] 6 Ξ) [2,1,0] r3 o1) Ξ) Ξ)) Ξ)
 (Ai D (φ 138) [δ [bv b,Ψ xs]] [] [.a,.B,.L,.N,.E] λb1 xs1=>
 br (Ba (n4+1) 40) (br ((0+n4*3).ble c4.length) (AW D (Awa 62 0) [χ 0 0,χ 1 0,Ψ t17,iv t18,iv (A.add ω t19 1)] [bk [Ψ r0,bv r1,Ψ r2],bk [υ 2 0 (n4+1) 3,bv k1,Ψ k2],θ (Av8 0 (κ (0+n4*3) c4)++[iv n,bv b1,Ψ xs1]) Δ Δ] λr3 o1=>
 AS 3 [0,1,5] (AH.mk [(0,bk [Ψ r0,bv r1,Ψ r2]),(1,bk [υ 5 0 (n4+1) 3,bv k1,Ψ k2]),(5,θ (Av8 0 (κ (0+n4*3) c4)++[iv n,bv b1,Ψ xs1]) Δ Δ),(4,θ [iv n,bv b1,Ψ xs1] Δ Δ),(3,bk [iv n,bv b,Ψ xs])] 6 Ξ) [2,1,0] r3 o1) Ξ) Ξ)))
 (Θ ((Awe [iv 0,χ 0 0,χ 1 0],[Awn (bk [Ψ r0,bv r1,Ψ r2]),Awn (bk [υ 3 0 n4 3,bv k1,Ψ k2]),BO.del,Awn (θ c4 Δ Δ)]))):=by kernel_rfl
end
section
open Go.RowKit
def Yu:MFn:=AN [⟨25,[Δ,Δ],[],[],[(1,([Δ],([],[])))]⟩] 205
def QJ:Hnt:=⟨[(144,(.tup Aku,[])),(202,(.ls,[]))],[(0,[(1,([.ls],[]))])],[]⟩
def Amp:MFn:=AN [] 146
def AlA:Hnt:=⟨[(139,(.agg AL,[])),(161,(.agg AL,[]))],[],[(5,AL),(6,AL)]⟩
def ArC:MFn:=AN [] 66
def AqM:Hnt:=⟨[(126,(.agg AL,[])),(139,(.agg AL,[])),(142,(.agg AL,[])),(144,(.tup Aku,[])),(145,(.agg AL,[])),(146,(.agg AL,[]))],[],[(9,AL),(11,AL),(15,[.ls]),(17,[.ls]),(28,[.bool]),(30,[.bool]),(35,[.bool]),(39,[.bool]),(41,[.bool]),(48,AL),(51,AL),(52,AL),(54,AL),(55,AL)]⟩
def Amn:MFn:=AN [] 143
def Aly:Hnt:=⟨[(64,(.int .i64,[])),(66,(.tup [.agg AL,.agg AL,.int .i64],[]))],[],[(10,AL),(11,AL),(22,AL),(26,AL)]⟩
def Amq:MFn:=AN [] 147
def AlB:Hnt:=⟨[(145,(.agg AL,[])),(205,(.ls,[]))],[],[(6,[.ls]),(8,[.ls])]⟩
def Rn:List (Nat × MFn):=[(205,Yu),(146,Amp),(66,ArC),(143,Amn),(147,Amq)]
variable (A:Ar) (D:Orc)
theorem AtN(x0 x1:Rw):B3 A D Au QJ .n 205 Yu [Ψ x0,Ψ x1] [] =
 Ai D (φ 202) [Ψ x0] [] [.l,.E] λxs=>
 Ai D (φ 202) [Ψ x1] [] [.l,.E] λxs1=>
 Ai D (Awa 205 0) [Ψ xs,Ψ xs1] [] [.t,.C,.x,.X,.Y] λc l o2=>
 br (BA 1 c)
 (dk [.L,.N,.E] [.l l,.o o2] λxs2=>
 Θ ((Ψ xs2,[])))
 (Ξ):=by kernel_rfl
theorem V1(t0 t1:Rw):Dc A D Au QJ .n 205 0 (A1 Yu 0).fst (A1 Yu 0).snd [Ψ t0,Ψ t1] [] =
 br (A.lt 0 ↑(AT t1))
 (Ai D (φ 144) [Ψ t0,Ψ t1] [] [.t,.L,.L,.I,.N,.E] λ_ xs1 _=>
 AW D (Awa 205 0) [Ψ t1,Ψ xs1] [] λr1 o1=>
 AS 0 [] (AH.mk [] 0 Ξ) [] r1 o1)
 (Θ ((Awe [iv 0,Ψ t0],[]))):=by kernel_rfl
theorem Ate(x0_0:Bool)(x0_1:Rw)(x1_0:Bool)(x1_1:Rw):B3 A D Au AlA .n 146 Amp [δ [bv x0_0,Ψ x0_1],δ [bv x1_0,Ψ x1_1]] [] =
 Ai D (φ 161) [δ [bv x1_0,Ψ x1_1]] [] [.a,.B,.L,.N,.E] λb xs=>
 Ai D (φ 139) [δ [bv x0_0,Ψ x0_1],δ [bv b,Ψ xs]] [] [.a,.B,.L,.N,.E] λb1 xs1=>
 Θ ((δ [bv b1,Ψ xs1],[])):=by kernel_rfl
theorem e66(x0_0:Bool)(x0_1:Rw)(x1_0:Bool)(x1_1:Rw):B3 A D Au AqM (.b (.b .n (.b .n (.b (.t .n) (.f .n)))) .n) 66 ArC [δ [bv x0_0,Ψ x0_1],δ [bv x1_0,Ψ x1_1]] [] =
 Ai D (φ 142) [δ [bv x0_0,Ψ x0_1]] [] [.a,.B,.L,.N,.E] λb xs=>
 Ai D (φ 142) [δ [bv x1_0,Ψ x1_1]] [] [.a,.B,.L,.N,.E] λb1 xs1=>
 Ai D (φ 144) [Ψ xs,Ψ xs1] [] [.t,.L,.L,.I,.N,.E] λxs2 xs3 n=>
 br (A.eq n 0)
 (br (A.not (A.beq b b1))
 (Ai D (φ 145) [bv Δ,Ψ xs2] [] [.a,.B,.L,.N,.E] λb2 xs4=>
 Ai D (φ 145) [bv b,Ψ xs3] [] [.a,.B,.L,.N,.E] λb3 xs5=>
 br (A.not (A.beq b b1)) (br (A.lt 0 ↑(AT xs3))
 (Ai D (φ 126) [iv 1] [] [.a,.B,.L,.N,.E] λb4 xs6=>
 Ai D (φ 146) [δ [bv b2,Ψ xs4],δ [bv b4,Ψ xs6]] [] [.a,.B,.L,.N,.E] λb5 xs7=>
 Ai D (φ 139) [δ [bv b3,Ψ xs5],δ [bv b1,Ψ xs1]] [] [.a,.B,.L,.N,.E] λb6 xs8=>
 Θ ((Awe [δ [bv b5,Ψ xs7],δ [bv b6,Ψ xs8],iv 0],[])))
 (Θ ((Awe [δ [bv b2,Ψ xs4],δ [bv b3,Ψ xs5],iv 0],[])))) Ξ)
 (Ai D (φ 145) [bv Φ,Ψ xs2] [] [.a,.B,.L,.N,.E] λb2 xs4=>
 Ai D (φ 145) [bv b,Ψ xs3] [] [.a,.B,.L,.N,.E] λb3 xs5=>
 br (A.not (A.beq b b1)) Ξ (Θ ((Awe [δ [bv b2,Ψ xs4],δ [bv b3,Ψ xs5],iv 0],[])))))
 (Θ ((Awe [δ [bv Φ,Ψ []],δ [bv Φ,Ψ []],iv n],[]))):=by kernel_rfl
theorem Atc(x0_0:Bool)(x0_1:Rw)(x1_0:Bool)(x1_1:Rw):B3 A D Au Aly .n 143 Amn [δ [bv x0_0,Ψ x0_1],δ [bv x1_0,Ψ x1_1]] [] =
 Ai D (φ 66) [δ [bv x0_0,Ψ x0_1],δ [bv x1_0,Ψ x1_1]] [] [.t,.A,.B,.L,.N,.A,.B,.L,.N,.I,.N,.E] λb xs b1 xs1 n=>
 br (A.eq n 0)
 (Ai D (φ 64) [δ [bv b1,Ψ xs1]] [] [.i,.E] λn1=>
 br (A.eq n1 0)
 (Θ ((Awe [δ [bv b,Ψ xs],iv 0],[])))
 (Θ ((Awe [δ [bv Φ,Ψ []],iv 1],[]))))
 (Θ ((Awe [δ [bv Φ,Ψ []],iv n],[]))):=by kernel_rfl
theorem Atf(x0_0:Bool)(x0_1:Rw)(x1_0:Bool)(x1_1:Rw):B3 A D Au AlB .n 147 Amq [δ [bv x0_0,Ψ x0_1],δ [bv x1_0,Ψ x1_1]] [] =
 Ai D (φ 205) [Ψ x0_1,Ψ x1_1] [] [.l,.E] λxs=>
 Ai D (φ 145) [bv Φ,Ψ xs] [] [.a,.B,.L,.N,.E] λb xs1=>
 Θ ((δ [bv b,Ψ xs1],[])):=by kernel_rfl
end
