/- Functions of the program -/
import Derived.Test.YtpncilciembjdaaGreatDoorHAW
set_option linter.all false
open Bool renaming false->Φ,true->Δ,true_and->Axv
open Int renaming natAbs_natCast->Ayh
open List renaming all_cons->Ax6,append_assoc->Awd,append_nil->AwF,drop->Av8,drop_eq_getElem_cons->η,drop_eq_nil_of_le->Awb,drop_zero->ο,eq_nil_of_length_eq_zero->AwD,filter_congr->Azp,filter_map->AzC,foldl_cons->AxY,getElem?_eq_getElem->ξ,getElem_mem->Aws,length_append->ε,length_cons->γ,length_map->Awm,length_singleton->Awp,map_cons->Awq,map_eq_nil_iff->Azg,map_map->AxE,map_nil->Axb,map_reverse->Azw,mem_cons_of_mem->Awk,mem_cons_self->Awi,mem_map->AwV,mem_reverse->AyH,nil_append->Awv,pairwise_map->Ayz,reverse_cons->AyA,singleton_append->AwO,take->κ,take_append_drop->Axf,take_left'->Ax0
open Nat renaming ble->Awf,gcd->AxG,le_refl->π,zero_add->Awt,zero_le->Awz
open Option renaming none->Ξ,some->Θ
namespace Go.Proofs.YtpncilciembjdaaGreatDoor
noncomputable section
open ABlk renaming mk->θ
open AV renaming agg->δ,fn->Aw9,ls->Ψ,ptr->χ,sl->υ,tup->Awe,v->Awc
open BO renaming set->Awn
open IntKind renaming i64->ω
open Key renaming fn->φ,lp->Awa
open Tryz renaming prog->Av9
section
open Go.RowKit
def Yb:MFn:=AN [⟨49,(mB 227),[(5,1)],[],[(1,((mB 98),([],[])))]⟩] 121
def Ub:Hnt:=⟨[],[(0,[(1,([.int .i64,.sl 1 1,.bool],[.del,.row Δ]))])],[(20,[.int .i64]),(21,[.int .i64]),(31,[.int .i64]),(32,[.int .i64]),(38,[.int .i64]),(39,[.int .i64])]⟩
def Agu:MFn:=AN [⟨29,(mB 26),[],[1,3],[(1,((mB 8),([],[1])))]⟩] 76
def AcQ:Hnt:=⟨[(69,(.int .i64,[])),(77,(.agg AL,[])),(121,(.ls,[]))],[(0,[(1,([.ls],[.del]))])],[(9,[.ls]),(15,[.ls]),(17,Cj),(19,[.int .i64]),(20,BJ)]⟩
def Agm:MFn:=AN [⟨35,(mB 62),[(1000003,3)],[1,2],[(1,((mB 12),([],[1])))]⟩] 20
def AcG:Hnt:=⟨[(75,(.agg AL,[])),(76,(.ls,[])),(77,(.agg AL,[]))],[(0,[(1,([.ptr 1 0,.ptr 2 0],[.del,.box BJ,.box [.sl 4 3,.bool,.ls],.del,.row Δ]))])],[(7,AL),(10,BJ),(19,[.ls]),(22,[.int .i64]),(23,[.int .i64]),(24,BJ),(27,[.int .i64]),(28,[.int .i64]),(34,BJ)]⟩
def QW:MFn:=AN [⟨36,(mB 99),[(5,3)],[],[(1,((mB 34),([],[])))]⟩,⟨36,(mB 162),[(5,3)],[],[(3,((mB 32),([],[])))]⟩] 211
def ML:Hnt:=⟨[],[(0,[(1,([.ls,.sl 1 3],[.del,.row Δ]))]),(1,[(3,([.sl 1 3],[.del,.row Δ]))])],[(18,Cj),(19,Cj),(31,Cj),(32,Cj)]⟩
def Amt:MFn:=AN [] 153
def AlE:Hnt:=⟨[(20,(.agg BJ,[])),(122,(.agg AL,[])),(211,(.ls,[]))],[],[(6,[.ls]),(8,[.ls]),(11,AL),(13,AL)]⟩
def Agt:MFn:=AN [⟨41,(mB 124),[(1000005,3)],[2,3,4],[(1,((mB 48),([],[2,3])))]⟩] 73
def AcP:Hnt:=⟨[(20,(.agg BJ,[])),(123,(.agg AL,[]))],[(0,[(1,([.ptr 2 0,.ptr 3 0],[.del,.del,.box BJ,.box [.sl 5 3,.bool,.ls],.del,.row Δ]))])],[(8,AL),(9,AL),(14,[.ls]),(20,[.ls]),(22,[.ls]),(24,Cj),(26,[.int .i64]),(28,[.ls]),(30,Cj),(32,AL),(33,AL),(39,BJ)]⟩
def ArJ:MFn:=AN [] 81
def AqT:Hnt:=⟨[(56,(.agg AL,[])),(73,(.agg BJ,[])),(153,(.agg BJ,[]))],[],[(5,BJ),(6,BJ)]⟩
def ArI:MFn:=AN [] 80
def AqS:Hnt:=⟨[(75,(.agg AL,[]))],[],[(3,AL)]⟩
def Agw:MFn:=AN [⟨57,(mB 44),[],[2,3],[(0,((mB 16),([],[2,3]))),(1,([],([],[2,3])))]⟩] 78
def Si:Hnt:=⟨[(152,(.bool,[]))],[(0,[(0,([.bool],[.del,.del])),(1,([],[.del,.del]))])],[(7,[.ls]),(10,[.ls]),(15,AL),(17,AL),(23,[.ls]),(29,[.ls]),(31,Cj),(33,[.int .i64]),(35,[.ls]),(37,Cj),(39,[.int .i64]),(43,[.ls]),(45,Cj),(47,AL),(49,[.ls]),(51,Cj),(53,AL)]⟩
def HQ:List (Nat × MFn):=[(121,Yb),(76,Agu),(20,Agm),(211,QW),(153,Amt),(73,Agt),(81,ArJ),(80,ArI),(78,Agw)]
variable (A:Ar) (D:Orc)
theorem AsY(x0:Rw)(x1:Int):B3 A D Au Ub .n 121 Yb [Ψ x0,iv x1] [] =
 Ai D (Awa 121 0) [Ψ x0,iv x1,υ 0 0 0 1,bv Φ,iv 0] [θ [] Δ Δ] [.t,.C,.x,.X,.Y] λc l o=>
 br (BA 1 c)
 (dk [.I,.C,.q 1 1,.B,.N,.D,.R,.X,.E] [.l l,.o o] λn n1 b cs1=>
 br (A.not b)
 (br (Ba (n1+1) 8) (br ((0+n1*1).ble cs1.length) (br ((0+(n1+1)*1).ble (Av8 0 (κ (0+n1*1) cs1)++[iv n]).length) (Θ ((Ψ (Bo (n1+1) 1 (κ ((n1+1)*1) (Av8 0 (Av8 0 (κ (0+n1*1) cs1)++[iv n])))),[]))) Ξ) Ξ) Ξ)
 (br ((0+n1*1).ble cs1.length) (Θ ((Ψ (Bo n1 1 (κ (n1*1) cs1)),[]))) Ξ))
 (Ξ):=by kernel_rfl
theorem AbI(t0:Rw)(t1:Int)(n5:Nat)(c5:Ab)(t6:Bool)(t7:Int):Dc A D Au Ub .n 121 0 (A1 Yb 0).fst (A1 Yb 0).snd [Ψ t0,iv t1,υ 0 0 n5 1,bv t6,iv t7] [{ cells:=c5,st:=Δ,ex:=Δ }] =
 br (A.lt t7 ↑(AT t0))
 (br (A.not t6)
 (unI t7 λi=>
 Bw t0 i λcs=>
 dk [.I,.N] [.l cs] λn=>
 br (A.le t1 n)
 (br (Ba (n5+1) 8) (br ((0+n5*1).ble c5.length) (unI t7 λi1=>
 Bw t0 i1 λcs1=>
 dk [.I,.N] [.l cs1] λn1=>
 br (A.eq n1 t1)
 (AW D (Awa 121 0) [Ψ t0,iv t1,υ 0 0 (n5+1) 1,bv Δ,iv (A.add ω t7 1)] [θ (Av8 0 (κ (0+n5*1) c5)++[iv t1]) Δ Δ] λr o=>
 AS 1 [2] (AH.mk [(2,θ (Av8 0 (κ (0+n5*1) c5)++[iv t1]) Δ Δ),(1,θ [iv t1] Δ Δ)] 3 Ξ) [0] r o)
 (unI t7 λi2=>
 Bw t0 i2 λcs2=>
 dk [.I,.N] [.l cs2] λn2=>
 br (Ba (n5+1+1) 8) (br ((0+(n5+1)*1).ble (Av8 0 (κ (0+n5*1) c5)++[iv t1]).length) (AW D (Awa 121 0) [Ψ t0,iv t1,υ 0 0 (n5+1+1) 1,bv Δ,iv (A.add ω t7 1)] [θ (Av8 0 (κ (0+(n5+1)*1) (Av8 0 (κ (0+n5*1) c5)++[iv t1]))++[iv n2]) Δ Δ] λr o=>
 AS 1 [4] (AH.mk [(4,θ (Av8 0 (κ (0+(n5+1)*1) (Av8 0 (κ (0+n5*1) c5)++[iv t1]))++[iv n2]) Δ Δ),(3,θ [iv n2] Δ Δ),(1,θ [iv t1] Δ Δ)] 5 Ξ) [0] r o) Ξ) Ξ)) Ξ) Ξ)
 (unI t7 λi1=>
 Bw t0 i1 λcs1=>
 dk [.I,.N] [.l cs1] λn1=>
 br (A.eq n1 t1)
 (AW D (Awa 121 0) [Ψ t0,iv t1,υ 0 0 n5 1,bv t6,iv (A.add ω t7 1)] [θ c5 Δ Δ] λr o=>
 AS 1 [0] (AH.mk [(0,θ c5 Δ Δ)] 1 Ξ) [] r o)
 (unI t7 λi2=>
 Bw t0 i2 λcs2=>
 dk [.I,.N] [.l cs2] λn2=>
 br (Ba (n5+1) 8) (br ((0+n5*1).ble c5.length) (AW D (Awa 121 0) [Ψ t0,iv t1,υ 0 0 (n5+1) 1,bv t6,iv (A.add ω t7 1)] [θ (Av8 0 (κ (0+n5*1) c5)++[iv n2]) Δ Δ] λr o=>
 AS 1 [2] (AH.mk [(2,θ (Av8 0 (κ (0+n5*1) c5)++[iv n2]) Δ Δ),(1,θ [iv n2] Δ Δ)] 3 Ξ) [0] r o) Ξ) Ξ)))
 (unI t7 λi=>
 Bw t0 i λcs=>
 dk [.I,.N] [.l cs] λn=>
 br (A.eq n t1)
 (AW D (Awa 121 0) [Ψ t0,iv t1,υ 0 0 n5 1,bv t6,iv (A.add ω t7 1)] [θ c5 Δ Δ] λr o=>
 AS 1 [0] (AH.mk [(0,θ c5 Δ Δ)] 1 Ξ) [] r o)
 (unI t7 λi1=>
 Bw t0 i1 λcs1=>
 dk [.I,.N] [.l cs1] λn1=>
 br (Ba (n5+1) 8) (br ((0+n5*1).ble c5.length) (AW D (Awa 121 0) [Ψ t0,iv t1,υ 0 0 (n5+1) 1,bv t6,iv (A.add ω t7 1)] [θ (Av8 0 (κ (0+n5*1) c5)++[iv n1]) Δ Δ] λr o=>
 AS 1 [2] (AH.mk [(2,θ (Av8 0 (κ (0+n5*1) c5)++[iv n1]) Δ Δ),(1,θ [iv n1] Δ Δ)] 3 Ξ) [0] r o) Ξ) Ξ)))
 (Θ ((Awe [iv 0,iv t1,υ 1 0 n5 1,bv t6],[BO.del,Awn (θ c5 Δ Δ)]))):=by kernel_rfl
theorem e76(x0_0:Rw)(x0_1:Bool)(x0_2:Rw):B3 A D Au AcQ .n 76 Agu [δ [Ψ x0_0,bv x0_1,Ψ x0_2]] [] =
 Ai D (Awa 76 0) [χ 0 0,Ψ [],iv 0] [bk [Ψ x0_0,bv x0_1,Ψ x0_2]] [.t,.C,.x,.X,.Y] λc l o=>
 br (BA 1 c)
 (dk [.L,.N,.D,.E] [.l l,.o o] λxs=>
 Θ ((Ψ xs,[])))
 (Ξ):=by kernel_rfl
theorem Ak7(b1_0:Rw)(b1_1:Bool)(b1_2 t3:Rw)(t4:Int):Dc A D Au AcQ .n 76 0 (A1 Agu 0).fst (A1 Agu 0).snd [χ 0 0,Ψ t3,iv t4] [bk [Ψ b1_0,bv b1_1,Ψ b1_2]] =
 br (A.lt t4 ↑(AT b1_0))
 (unI t4 λi=>
 Bw b1_0 i λcs=>
 dk [.I,.B,.L,.N] [.l cs] λn _ _=>
 Ai D (φ 77) [δ [Ψ b1_0,bv b1_1,Ψ b1_2],iv n] [] [.a,.B,.L,.N,.E] λb1 xs1=>
 Ai D (φ 69) [δ [bv b1,Ψ xs1]] [] [.i,.E] λn1=>
 br (A.eq n1 0)
 (AW D (Awa 76 0) [χ 0 0,Ψ t3,iv (A.add ω t4 1)] [bk [Ψ b1_0,bv b1_1,Ψ b1_2]] λr2 o2=>
 AS 1 [0] (AH.mk [(0,bk [Ψ b1_0,bv b1_1,Ψ b1_2])] 1 Ξ) [0] r2 o2)
 (Ai D (φ 121) [Ψ t3,iv n] [] [.l,.E] λxs2=>
 AW D (Awa 76 0) [χ 0 0,Ψ xs2,iv (A.add ω t4 1)] [bk [Ψ b1_0,bv b1_1,Ψ b1_2]] λr3 o3=>
 AS 1 [0] (AH.mk [(0,bk [Ψ b1_0,bv b1_1,Ψ b1_2])] 1 Ξ) [0] r3 o3))
 (Θ ((Awe [iv 0,Ψ t3],[BO.del]))):=by kernel_rfl
theorem e20(x0_0:Rw)(x0_1:Bool)(x0_2:Rw):B3 A D Au AcG .n 20 Agm [δ [Ψ x0_0,bv x0_1,Ψ x0_2]] [] =
 Ai D (φ 75) [δ [bv x0_1,Ψ x0_2]] [] [.a,.B,.L,.N,.E] λb xs=>
 Ai D (φ 76) [δ [Ψ x0_0,bv x0_1,Ψ x0_2]] [] [.l,.E] λxs1=>
 Ai D (Awa 20 0) [χ 0 0,χ 1 0,χ 2 0,Ψ xs1,iv 0] [bk [Ψ x0_0,bv x0_1,Ψ x0_2],bk [Ψ [],bv Φ,Ψ []],bk [υ 3 0 0 3,bv b,Ψ xs],θ [] Δ Δ] [.t,.C,.x,.X,.Y] λc l2 o2=>
 br (BA 1 c)
 (dk [.P 1 0,.P 2 0,.N,.D,.T,.L,.B,.L,.N,.T,.C,.q 4 3,.B,.L,.N,.D,.R,.X,.E] [.l l2,.o o2] λ_ _ _ n b2 xs4 cs4=>
 br ((0+n*3).ble cs4.length) (Θ ((δ [Ψ (Bo n 3 (κ (n*3) cs4)),bv b2,Ψ xs4],[]))) Ξ)
 (Ξ):=by kernel_rfl
theorem AkZ(a0:Rw)(a1:Bool)(a2 r0:Rw)(r1:Bool)(r2:Rw)(n3:Nat)(k1:Bool)(k2:Rw)(c3:Ab)(t4:Rw)(t5:Int):Dc A D Au AcG .n 20 0 (A1 Agm 0).fst (A1 Agm 0).snd [χ 0 0,χ 1 0,χ 2 0,Ψ t4,iv t5] [bk [Ψ a0,bv a1,Ψ a2],bk [Ψ r0,bv r1,Ψ r2],bk [υ 3 0 n3 3,bv k1,Ψ k2],{ cells:=c3,st:=Δ,ex:=Δ }] =
 br (A.lt t5 ↑(AT t4))
 (unI t5 λi=>
 Bw t4 i λcs=>
 dk [.I,.N] [.l cs] λn=>
 unI t5 λi1=>
 Bw t4 i1 λcs1=>
 dk [.I,.N] [.l cs1] λn1=>
 Ai D (φ 77) [δ [Ψ a0,bv a1,Ψ a2],iv n1] [] [.a,.B,.L,.N,.E] λb xs=>
 br (Ba (n3+1) 40) (br ((0+n3*3).ble c3.length) (AW D (Awa 20 0) [χ 0 0,χ 1 0,χ 2 0,Ψ t4,iv (A.add ω t5 1)] [bk [Ψ a0,bv a1,Ψ a2],bk [Ψ r0,bv r1,Ψ r2],bk [υ 3 0 (n3+1) 3,bv k1,Ψ k2],θ (Av8 0 (κ (0+n3*3) c3)++[iv n,bv b,Ψ xs]) Δ Δ] λr3 o1=>
 AS 4 [0,1,2,5] (AH.mk [(1,bk [Ψ r0,bv r1,Ψ r2]),(0,bk [Ψ a0,bv a1,Ψ a2]),(2,bk [υ 5 0 (n3+1) 3,bv k1,Ψ k2]),(5,θ (Av8 0 (κ (0+n3*3) c3)++[iv n,bv b,Ψ xs]) Δ Δ),(4,θ [iv n,bv b,Ψ xs] Δ Δ)] 6 Ξ) [3,2,0,1] r3 o1) Ξ) Ξ)
 (Θ ((Awe [iv 0,χ 1 0,χ 2 0],[BO.del,Awn (bk [Ψ r0,bv r1,Ψ r2]),Awn (bk [υ 4 0 n3 3,bv k1,Ψ k2]),BO.del,Awn (θ c3 Δ Δ)]))):=by kernel_rfl
theorem AtS(x0 x1:Rw):B3 A D Au ML .n 211 QW [Ψ x0,Ψ x1] [] =
 Ai D (Awa 211 0) [Ψ x0,Ψ x1,υ 0 0 0 3,iv 0] [θ [] Δ Δ] [.t,.C,.x,.X,.Y] λc l o=>
 br (BA 1 c)
 (dk [.L,.C,.q 1 3,.N,.D,.R,.X,.E] [.l l,.o o] λxs n cs1=>
 Ai D (Awa 211 1) [Ψ xs,υ 0 0 n 3,iv 0] [θ cs1 Δ Δ] [.t,.C,.x,.X,.Y] λc4 l5 o1=>
 br (BA 3 c4)
 (dk [.C,.q 1 3,.N,.D,.R,.X,.E] [.l l5,.o o1] λn1 cs3=>
 br ((0+n1*3).ble cs3.length) (Θ ((Ψ (Bo n1 3 (κ (n1*3) cs3)),[]))) Ξ)
 (Ξ))
 (Ξ):=by kernel_rfl
theorem Ab1(t0 t1:Rw)(n5:Nat)(c5:Ab)(t6:Int):Dc A D Au ML .n 211 0 (A1 QW 0).fst (A1 QW 0).snd [Ψ t0,Ψ t1,υ 0 0 n5 3,iv t6] [{ cells:=c5,st:=Δ,ex:=Δ }] =
 br (A.lt t6 ↑(AT t0))
 (unI t6 λi=>
 Bw t0 i λcs=>
 dk [.I,.B,.L,.N] [.l cs] λn b xs=>
 br (Ba (n5+1) 40) (br ((0+n5*3).ble c5.length) (AW D (Awa 211 0) [Ψ t0,Ψ t1,υ 0 0 (n5+1) 3,iv (A.add ω t6 1)] [θ (Av8 0 (κ (0+n5*3) c5)++[iv n,bv b,Ψ xs]) Δ Δ] λr o=>
 AS 1 [2] (AH.mk [(2,θ (Av8 0 (κ (0+n5*3) c5)++[iv n,bv b,Ψ xs]) Δ Δ),(1,θ [iv n,bv b,Ψ xs] Δ Δ)] 3 Ξ) [0] r o) Ξ) Ξ)
 (Θ ((Awe [iv 0,Ψ t1,υ 1 0 n5 3],[BO.del,Awn (θ c5 Δ Δ)]))):=by kernel_rfl
theorem Ab2(t1:Rw)(n5:Nat)(c5:Ab)(t7:Int):Dc A D Au ML .n 211 1 (A1 QW 1).fst (A1 QW 1).snd [Ψ t1,υ 0 0 n5 3,iv t7] [{ cells:=c5,st:=Δ,ex:=Δ }] =
 br (A.lt t7 ↑(AT t1))
 (unI t7 λi=>
 Bw t1 i λcs=>
 dk [.I,.B,.L,.N] [.l cs] λn b xs=>
 br (Ba (n5+1) 40) (br ((0+n5*3).ble c5.length) (AW D (Awa 211 1) [Ψ t1,υ 0 0 (n5+1) 3,iv (A.add ω t7 1)] [θ (Av8 0 (κ (0+n5*3) c5)++[iv n,bv b,Ψ xs]) Δ Δ] λr o=>
 AS 1 [2] (AH.mk [(2,θ (Av8 0 (κ (0+n5*3) c5)++[iv n,bv b,Ψ xs]) Δ Δ),(1,θ [iv n,bv b,Ψ xs] Δ Δ)] 3 Ξ) [0] r o) Ξ) Ξ)
 (Θ ((Awe [iv 2,υ 1 0 n5 3],[BO.del,Awn (θ c5 Δ Δ)]))):=by kernel_rfl
theorem Atl(x0_0:Rw)(x0_1:Bool)(x0_2 x1_0:Rw)(x1_1:Bool)(x1_2:Rw):B3 A D Au AlE .n 153 Amt [δ [Ψ x0_0,bv x0_1,Ψ x0_2],δ [Ψ x1_0,bv x1_1,Ψ x1_2]] [] =
 Ai D (φ 211) [Ψ x0_0,Ψ x1_0] [] [.l,.E] λxs=>
 Ai D (φ 122) [δ [bv x0_1,Ψ x0_2],δ [bv x1_1,Ψ x1_2]] [] [.a,.B,.L,.N,.E] λb xs1=>
 Ai D (φ 20) [δ [Ψ xs,bv b,Ψ xs1]] [] [.a,.L,.B,.L,.N,.E] λxs2 b1 xs3=>
 Θ ((δ [Ψ xs2,bv b1,Ψ xs3],[])):=by kernel_rfl
theorem e73(x0_0:Rw)(x0_1:Bool)(x0_2:Rw)(x1_0:Bool)(x1_1:Rw):B3 A D Au AcP .n 73 Agt [δ [Ψ x0_0,bv x0_1,Ψ x0_2],δ [bv x1_0,Ψ x1_1]] [] =
 Ai D (φ 123) [δ [bv x0_1,Ψ x0_2],δ [bv x1_0,Ψ x1_1]] [] [.a,.B,.L,.N,.E] λb xs=>
 Ai D (Awa 73 0) [χ 0 0,χ 1 0,χ 2 0,χ 3 0,iv 0] [bk [Ψ x0_0,bv x0_1,Ψ x0_2],bk [bv x1_0,Ψ x1_1],bk [Ψ [],bv Φ,Ψ []],bk [υ 4 0 0 3,bv b,Ψ xs],θ [] Δ Δ] [.t,.C,.x,.X,.Y] λc l2 o1=>
 br (BA 1 c)
 (dk [.P 2 0,.P 3 0,.N,.D,.D,.T,.L,.B,.L,.N,.T,.C,.q 5 3,.B,.L,.N,.D,.R,.X,.E] [.l l2,.o o1] λ_ _ _ n b2 xs3 cs4=>
 br ((0+n*3).ble cs4.length) (AW D (φ 20) [δ [Ψ (Bo n 3 (κ (n*3) cs4)),bv b2,Ψ xs3]] [] λr2 o2=>
 dk [.a,.L,.B,.L,.N,.E] [.v r2,.o o2] λxs4 b3 xs5=>
 Θ ((δ [Ψ xs4,bv b3,Ψ xs5],[]))) Ξ)
 (Ξ):=by kernel_rfl
theorem Ak6(a0:Rw)(a1:Bool)(a2:Rw)(i0:Bool)(i1 r0:Rw)(r1:Bool)(r2:Rw)(n5:Nat)(k1:Bool)(k2:Rw)(c5:Ab)(t6:Int):Dc A D Au AcP .n 73 0 (A1 Agt 0).fst (A1 Agt 0).snd [χ 0 0,χ 1 0,χ 2 0,χ 3 0,iv t6] [bk [Ψ a0,bv a1,Ψ a2],bk [bv i0,Ψ i1],bk [Ψ r0,bv r1,Ψ r2],bk [υ 4 0 n5 3,bv k1,Ψ k2],{ cells:=c5,st:=Δ,ex:=Δ }] =
 br (A.lt t6 ↑(AT a0))
 (unI t6 λi=>
 Bw a0 i λcs=>
 dk [.I,.B,.L,.N] [.l cs] λn _ _=>
 unI t6 λi2=>
 Bw a0 i2 λcs1=>
 dk [.I,.B,.L,.N] [.l cs1] λ_ b1 xs1=>
 Ai D (φ 123) [δ [bv b1,Ψ xs1],δ [bv i0,Ψ i1]] [] [.a,.B,.L,.N,.E] λb2 xs2=>
 br (Ba (n5+1) 40) (br ((0+n5*3).ble c5.length) (AW D (Awa 73 0) [χ 0 0,χ 1 0,χ 2 0,χ 3 0,iv (A.add ω t6 1)] [bk [Ψ a0,bv a1,Ψ a2],bk [bv i0,Ψ i1],bk [Ψ r0,bv r1,Ψ r2],bk [υ 4 0 (n5+1) 3,bv k1,Ψ k2],θ (Av8 0 (κ (0+n5*3) c5)++[iv n,bv b2,Ψ xs2]) Δ Δ] λr3 o1=>
 AS 5 [0,1,2,3,6] (AH.mk [(2,bk [Ψ r0,bv r1,Ψ r2]),(1,bk [bv i0,Ψ i1]),(0,bk [Ψ a0,bv a1,Ψ a2]),(3,bk [υ 6 0 (n5+1) 3,bv k1,Ψ k2]),(6,θ (Av8 0 (κ (0+n5*3) c5)++[iv n,bv b2,Ψ xs2]) Δ Δ),(5,θ [iv n,bv b2,Ψ xs2] Δ Δ)] 7 Ξ) [4,3,0,1,2] r3 o1) Ξ) Ξ)
 (Θ ((Awe [iv 0,χ 2 0,χ 3 0],[BO.del,BO.del,Awn (bk [Ψ r0,bv r1,Ψ r2]),Awn (bk [υ 5 0 n5 3,bv k1,Ψ k2]),BO.del,Awn (θ c5 Δ Δ)]))):=by kernel_rfl
theorem e81(x0_0:Rw)(x0_1:Bool)(x0_2 x1_0:Rw)(x1_1:Bool)(x1_2:Rw):B3 A D Au AqT .n 81 ArJ [δ [Ψ x0_0,bv x0_1,Ψ x0_2],δ [Ψ x1_0,bv x1_1,Ψ x1_2]] [] =
 Ai D (φ 56) [iv (-1)] [] [.a,.B,.L,.N,.E] λb xs=>
 Ai D (φ 73) [δ [Ψ x1_0,bv x1_1,Ψ x1_2],δ [bv b,Ψ xs]] [] [.a,.L,.B,.L,.N,.E] λxs1 b1 xs2=>
 Ai D (φ 153) [δ [Ψ x0_0,bv x0_1,Ψ x0_2],δ [Ψ xs1,bv b1,Ψ xs2]] [] [.a,.L,.B,.L,.N,.E] λxs3 b2 xs4=>
 Θ ((δ [Ψ xs3,bv b2,Ψ xs4],[])):=by kernel_rfl
theorem e80(x0_0:Bool)(x0_1:Rw):B3 A D Au AqS .n 80 ArI [δ [bv x0_0,Ψ x0_1]] [] =
 Ai D (φ 75) [δ [bv x0_0,Ψ x0_1]] [] [.a,.B,.L,.N,.E] λb xs=>
 Θ ((δ [Ψ [],bv b,Ψ xs],[])):=by kernel_rfl
theorem e78(x0_0:Rw)(x0_1:Bool)(x0_2 x1_0:Rw)(x1_1:Bool)(x1_2:Rw):B3 A D Au Si .n 78 Agw [δ [Ψ x0_0,bv x0_1,Ψ x0_2],δ [Ψ x1_0,bv x1_1,Ψ x1_2]] [] =
 br (A.eq ↑(AT x0_0) ↑(AT x1_0))
 (Ai D (φ 152) [δ [bv x0_1,Ψ x0_2],δ [bv x1_1,Ψ x1_2]] [] [.b,.E] λb=>
 br b
 (Ai D (Awa 78 0) [χ 0 0,χ 1 0,iv 0] [bk [Ψ x0_0,bv x0_1,Ψ x0_2],bk [Ψ x1_0,bv x1_1,Ψ x1_2]] [.t,.C,.x,.X,.Y] λc l o1=>
 br (BA 0 c)
 (dk [.B,.N,.D,.D,.E] [.l l,.o o1] λb1=>
 Θ ((bv b1,[])))
 (br (BA 1 c)
 (dk [.N,.D,.D,.E,.w] [.l l,.o o1] λ_=>
 Θ ((bv Δ,[])))
 (Ξ)))
 (Θ ((bv Φ,[]))))
 (Θ ((bv Φ,[]))):=by kernel_rfl
theorem XR(b2_0:Rw)(b2_1:Bool)(b2_2 b3_0:Rw)(b3_1:Bool)(b3_2:Rw)(t5:Int):Dc A D Au Si .n 78 0 (A1 Agw 0).fst (A1 Agw 0).snd [χ 0 0,χ 1 0,iv t5] [bk [Ψ b2_0,bv b2_1,Ψ b2_2],bk [Ψ b3_0,bv b3_1,Ψ b3_2]] =
 br (A.lt t5 ↑(AT b2_0))
 (unI t5 λi=>
 Bw b2_0 i λcs=>
 dk [.I,.B,.L,.N] [.l cs] λn _ _=>
 unI t5 λi1=>
 Bw b3_0 i1 λcs1=>
 dk [.I,.B,.L,.N] [.l cs1] λn1 _ _=>
 br (A.eq n n1)
 (unI t5 λi2=>
 Bw b2_0 i2 λcs2=>
 dk [.I,.B,.L,.N] [.l cs2] λ_ b2 xs2=>
 unI t5 λi3=>
 Bw b3_0 i3 λcs3=>
 dk [.I,.B,.L,.N] [.l cs3] λ_ b3 xs3=>
 Ai D (φ 152) [δ [bv b2,Ψ xs2],δ [bv b3,Ψ xs3]] [] [.b,.E] λb4=>
 br b4
 (AW D (Awa 78 0) [χ 0 0,χ 1 0,iv (A.add ω t5 1)] [bk [Ψ b2_0,bv b2_1,Ψ b2_2],bk [Ψ b3_0,bv b3_1,Ψ b3_2]] λr1 o1=>
 AS 2 [0,1] (AH.mk [(1,bk [Ψ b3_0,bv b3_1,Ψ b3_2]),(0,bk [Ψ b2_0,bv b2_1,Ψ b2_2])] 2 Ξ) [0,1] r1 o1)
 (Θ ((Awe [bv Δ,bv Φ],[BO.del,BO.del]))))
 (Θ ((Awe [bv Δ,bv Φ],[BO.del,BO.del]))))
 (Θ ((Awe [iv 0],[BO.del,BO.del]))):=by kernel_rfl
end
open Go.RowKit
def eI(v:Int):Ab:=[iv v]
theorem JP(v:Int):(eI v).length=1:=rfl
def bkI(l:List Int):ABlk:=θ (Ao eI l) Δ Δ
theorem apI(o:List Int)(h:o.length<=4000000)(X:KR):br (Ba (o.length+1) 8) (br (Awf (0+o.length*1) (Ao eI o).length) X Ξ) Ξ=X:=by
 rw[AP (by omega) (by omega),AK JP o (by omega)];rfl
theorem Apq(o:List Int)(v:Int):Av8 0 (κ (0+o.length*1) (Ao eI o))++[iv v]=Ao eI (o++[v]):=by
 rw[ο,Bb JP o (by omega)];exact Bc eI o v
theorem snI(o:List Int)(v:Int):o.length+1=(o++[v]).length:=by simp
section
variable {D:Orc} (Kt:Knows Au HQ D)
include Kt
theorem AnY(v:Int)(l:List Int)(hl:l.length<=1000000):∀(m i:Nat) (d:Bool) (o:List Int),l.length-i=m->i<=l.length->o.length<=2*i->
  D.ask (.lp 121 0) [.ls (l.map eI),iv v,.sl 0 0 o.length 1,bv d,iv (i:Int)] [bkI o]=Θ (.tup [iv 0,iv v,.sl 1 0 (o++(Iy v d (l.drop i)).1).length 1,bv (Iy v d (l.drop i)).2],[.del,.set (bkI (o++(Iy v d (l.drop i)).1))]):=by
 intro m
 induction m with
 |zero=>
  intro i d o hm hi ho;rw[Awb (by omega),Iy,AwF];refine AE Kt Ub (AbI ..) ?_;rw[Al];exact AA rfl
 |succ m ih=>
  intro i d o hm hi ho;have h1:i<l.length:=by omega
  have hn1:∀ kk,Bw (l.map eI) i kk=kk (eI l[i]):=λkk=>Az (ξ h1) kk
  have ih1:=λ(d:Bool) (o:List Int) (h:o.length<=2*(i+1))=>ih (i+1) d o (by omega) (by omega) h
  rw[η h1,Iy];revert hn1;generalize l[i]=x;intro hn1;refine AE Kt Ub (AbI ..) ?_;rw[Al];refine AB ?_;unfold bkI at ih1 ⊢;simp only[AI,hn1,eI,Aj,BU (show i<4611686018427387904 by omega),Apq]
  cases d with
  |true=>
   refine BR ?_
   by_cases hx:x=v
   .refine AG ?_ hx
    have g:=ih1 Δ o (by omega);refine Aa g ?_;rw[Ac hx];rfl
   .refine Ay ?_ hx
    have g:=ih1 Δ (o++[x]) (by simp;omega);rw[apI o (by omega),snI o x];refine Aa g ?_;rw[Ad hx,Awd];rfl
  |false=>
   refine Ah ?_
   by_cases hv:v<=x
   .refine Cs ?_ hv
    rw[apI o (by omega),BT hv,snI o v]
    by_cases hx:x=v
    .refine AG ?_ hx
     have g:=ih1 Δ (o++[v]) (by simp;omega);refine Aa g ?_;rw[Ac hx,Awd];rfl
    .refine Ay ?_ hx
     have g:=ih1 Δ (o++[v]++[x]) (by simp;omega);rw[apI (o++[v]) (by simp;omega),Apq,snI (o++[v]) x];refine Aa g ?_;rw[Ad hx,Awd,Awd];rfl
   .refine CN ?_ hv
    rw[BX hv]
    by_cases hx:x=v
    .omega
    .refine Ay ?_ hx
     have g:=ih1 Φ (o++[x]) (by simp;omega);rw[apI o (by omega),snI o x];refine Aa g ?_;rw[Ad hx,Awd];rfl
theorem ZP(v:Int)(l:List Int)(hl:l.length<=1000000):D.ask (.fn 121) [.ls (l.map eI),iv v] []=Θ (.ls ((JW v l).map eI),[]):=by
 have g:=AnY Kt v l hl _ 0 Φ [] rfl (by omega) (by simp);have hlen:=Uv v Φ l;rw[ο,Awv]at g;unfold JW;generalize Iy v Φ l=p at g hlen;obtain⟨o,d⟩:=p;simp only at g hlen ⊢;unfold bkI at g;refine AC Kt Ub (AsY ..) ?_;refine Aa g ?_;simp only[Aj]
 cases d with
 |true=>
  refine BR ?_;rw[AK JP o (by omega)];refine Ah ?_;rw[Bi JP o rfl,Ac rfl,AwF]
 |false=>
  refine Ah ?_;rw[Ad (by decide)];rw[Apq,snI o v,AK JP (o++[v]) (by omega)];rw[show Ba (o++[v]).length 8=Δ from AP (by simp;omega) (by omega),AK JP o (by omega),ο,Bi JP (o++[v]) rfl];rfl
end
section
variable {D:Orc} (Kt:Knows Au HQ D) (Kh:Knows Au IP D) (F:RF D)
include Kt Kh F
theorem AkJ{n k:Nat}{ps:List Pt}{kz:Zi}(ht:TmB n k ⟨ps,kz⟩)(hn:n<=1000000)(hk:k+n<=400000000):∀(m i:Nat) (out:List Int),ps.length-i=m->i<=ps.length->Asc out->out.length<=i->
  D.ask (.lp 76 0) [.ptr 0 0,.ls (out.map eI),iv (i:Int)] [⟨[.ls (ps.map eP),bv kz.neg,eN kz.abs],Δ,Φ⟩]=Θ (.tup [iv 0,.ls ((G5 (C9 (ps.map pv)) out ((ps.drop i).map Pt.v)).map eI)],[.del]):=by
 have hlen:ps.length<=n:=ht.len;intro m
 induction m with
 |zero=>
  intro i out hm hi ha ho;rw[Awb (by omega),Axb,G5];refine AE Kt AcQ (Ak7 ..) ?_;rw[Al];exact AA rfl
 |succ m ih=>
  intro i out hm hi ha ho;have h1:i<ps.length:=by omega
  have hn1:∀ kk,Bw (ps.map eP) i kk=kk (eP ps[i]):=λkk=>Az (ξ h1) kk
  rw[η h1,Awq,G5];revert hn1;generalize ps[i]=p;intro hn1;have gc:=Nu Kh F ht hn hk p.v;have hc:InB (k+n) (C9 (ps.map pv) p.v):=by
   unfold C9;split
   .exact(I1 _ _ ht.lb.ps).mono (by have:=ht.lb.len;omega)
   .exact InB.zero _
  have e1:(if 0<=p.v then BE p.v (Tm.mk ps kz).lf.ps else 0)=C9 (ps.map pv) p.v:=rfl;rw[e1]at gc;generalize C9 (ps.map pv) p.v=c at gc hc;have gs:=F.sign (AQ c) (hc.lz.mono (by omega));rw[Bm]at gs;refine AE Kt AcQ (Ak7 ..) ?_;rw[Al];refine AB ?_;rw[AI,hn1];simp only[eP,eN,Aj];refine Aa gc ?_;simp only[eZ,eN,Aj]at gs ⊢;refine Aa gs ?_;simp only[Aj];rw[BU (by omega)]
  by_cases h0:c=0
  .have g:=ih (i+1) out (by omega) (by omega) ha (by omega)
   refine AG ?_ ((Aek c).2 h0);refine Aa g ?_;rw[Ac h0];rfl
  .have g:=ih (i+1) (JW p.v out) (by omega) (by omega) (Iz _ ha) (by have:=OW p.v ha;omega)
   have gi:=ZP Kt p.v out (by omega);refine Ay ?_ (λh=>h0 ((Aek c).1 h));refine Aa gi ?_;simp only[Aj];refine Aa g ?_;rw[Ad h0];rfl
theorem Pu{n k:Nat}{t:Tm}(ht:TmB n k t)(hn:n<=1000000)(hk:k+n<=400000000):D.ask (.fn 76) [.agg (eT t)] []=Θ (.ls ((Gl t.lf.ps).map eI),[]):=by
 obtain⟨ps,kz⟩:=t;have g:=AkJ Kt Kh F ht hn hk _ 0 [] rfl (by omega) Nq (by simp);rw[ο]at g;have e1:(ps.map Pt.v)=(Tm.mk ps kz).lf.ps.map (·.1):=by
  unfold Tm.lf;rw[AxE];rfl
 rw[e1]at g;refine AC Kt AcQ (e76 ..) ?_;refine Aa g ?_;rfl
omit Kt Kh F in
theorem Mw(ps:List (Int × Int)):(Gl ps).length<=ps.length:=by
 grind [C9,Gl,Nq,Mt]
def ptV(l:List (Int × Int))(v:Int):Pt:=⟨v,AQ (C9 l v)⟩
theorem Aah{n k:Nat}{ps:List Pt}{kz:Zi}(ht:TmB n k ⟨ps,kz⟩)(hn:n<=1000000)(hk:k+n<=400000000)(vs:List Int)(hvs:vs.length<=n)(r0:Rw)(r1:Bool)(r2:Rw)(k1:Bool)(k2:Rw):∀(m i:Nat) (out:List Pt),vs.length-i=m->i<=vs.length->out.length<=i->
  D.ask (.lp 20 0) [.ptr 0 0,.ptr 1 0,.ptr 2 0,.ls (vs.map eI),iv (i:Int)] [⟨[.ls (ps.map eP),bv kz.neg,eN kz.abs],Δ,Φ⟩,⟨[.ls r0,bv r1,.ls r2],Δ,Φ⟩,⟨[.sl 3 0 out.length 3,bv k1,.ls k2],Δ,Φ⟩,Ky out]
   = Θ (.tup [iv 0,.ptr 1 0,.ptr 2 0],[.del,.set ⟨[.ls r0,bv r1,.ls r2],Δ,Φ⟩,.set ⟨[.sl 4 0 (out++(vs.drop i).map (ptV (ps.map pv))).length 3,bv k1,.ls k2],Δ,Φ⟩,.del,.set (Ky (out++(vs.drop i).map (ptV (ps.map pv))))]):=by
 intro m
 induction m with
 |zero=>
  intro i out hm hi ho;rw[Awb (by omega),Axb,AwF];refine AE Kt AcG (AkZ ..) ?_;rw[Al];exact AA rfl
 |succ m ih=>
  intro i out hm hi ho;have h1:i<vs.length:=by omega
  have hn1:∀ kk,Bw (vs.map eI) i kk=kk (eI vs[i]):=λkk=>Az (ξ h1) kk
  rw[η h1,Awq];revert hn1;generalize vs[i]=v;intro hn1;have gc:=Nu Kh F ht hn hk v;have e1:(if 0<=v then BE v (Tm.mk ps kz).lf.ps else 0)=C9 (ps.map pv) v:=rfl;rw[e1]at gc;have ih:=ih (i+1) (out++[ptV (ps.map pv) v]) (by omega) (by omega) (by simp;omega);rw[Awd,AwO,show (out++[ptV (ps.map pv) v]).length=out.length+1 by simp]at ih;have hf:Ba (out.length+1) 40=Δ:=AP (by omega) (by omega);have hb1:Awf (0+out.length*3) (Ao eP out).length=Δ:=AK AU out (by omega);have e3:Av8 0 (κ (0+out.length*3) (Ao eP out))++[iv v,bv (AQ (C9 (ps.map pv) v)).neg,eN (AQ (C9 (ps.map pv) v)).abs]=Ao eP (out++[ptV (ps.map pv) v]):=by
   rw[ο,Bb AU out (by omega)];exact Bc eP out (ptV (ps.map pv) v)
  refine AE Kt AcG (AkZ ..) ?_;rw[Al];refine AB ?_;simp only[AI,hn1,eI,Aj];refine Aa gc ?_;simp only[eZ,eN,Aj]at e3 ⊢;rw[hf];refine Ah ?_;rw[hb1];refine Ah ?_;rw[e3,BU (by omega)];refine Aa ih ?_;rfl
theorem Fq{n k:Nat}{t:Tm}(ht:TmB n k t)(hn:n<=1000000)(hk:k+n<=400000000):D.ask (.fn 20) [.agg (eT t)] []=Θ (.agg (eT t.lf.pln.tm),[]):=by
 have gv:=Pu Kt Kh F ht hn hk;have hl:=Mw t.lf.ps;have hl2:=ht.lb.len;have gk:=F.clean t.k (ht.k.mono (by omega));obtain⟨ps,kz⟩:=t;have gl:=Aah Kt Kh F ht hn hk (Gl (Tm.mk ps kz).lf.ps) (by omega) [] Φ [] (AQ (zv kz)).neg ((AQ (zv kz)).abs.map eL) _ 0 [] rfl (by omega) (by simp);rw[ο,Awv]at gl;have e2:(Gl (Tm.mk ps kz).lf.ps).map (ptV (ps.map pv))=(Tm.mk ps kz).lf.pln.tm.ps:=by
  show _=(BB (ps.map pv)).map Bg
  rw[←D7,AxE];rfl
 rw[e2]at gl;have e3:(Tm.mk ps kz).lf.pln.tm.k=AQ (zv kz):=rfl;revert gl;generalize hX:(Tm.mk ps kz).lf.pln.tm=X at e3 ⊢;obtain⟨xp,xk⟩:=X;intro gl;simp only at e3;subst e3;refine AC Kt AcG (e20 ..) ?_;refine Aa gk ?_;simp only[eZ,eN,Aj];refine Aa gv ?_;simp only[Aj];refine Aa gl ?_;simp only[Aj];rw[AK AU xp (by omega)];refine Ah ?_;rw[Bi AU _ rfl];rfl
omit Kh F in
theorem Abm(a b:List Pt)(hl:a.length<=1000000):∀(m i:Nat) (out:List Pt),a.length-i=m->i<=a.length->out.length<=i->
  D.ask (.lp 211 0) [.ls (a.map eP),.ls (b.map eP),.sl 0 0 out.length 3,iv (i:Int)] [Ky out]=Θ (.tup [iv 0,.ls (b.map eP),.sl 1 0 (out++a.drop i).length 3],[.del,.set (Ky (out++a.drop i))]):=by
 intro m
 induction m with
 |zero=>
  intro i out hm hi ho;rw[Awb (by omega),AwF];refine AE Kt ML (Ab1 ..) ?_;rw[Al];exact AA rfl
 |succ m ih=>
  intro i out hm hi ho;have h1:i<a.length:=by omega
  have hn1:∀ kk,Bw (a.map eP) i kk=kk (eP a[i]):=λkk=>Az (ξ h1) kk
  rw[η h1];revert hn1;generalize a[i]=v;intro hn1;have ih:=ih (i+1) (out++[v]) (by omega) (by omega) (by simp;omega);rw[Awd,AwO,show (out++[v]).length=out.length+1 by simp]at ih;have hf:Ba (out.length+1) 40=Δ:=AP (by omega) (by omega);have hb1:Awf (0+out.length*3) (Ao eP out).length=Δ:=AK AU out (by omega);have e3:Av8 0 (κ (0+out.length*3) (Ao eP out))++[iv v.v,bv v.z.neg,eN v.z.abs]=Ao eP (out++[v]):=by
   rw[ο,Bb AU out (by omega)];exact Bc eP out v
  refine AE Kt ML (Ab1 ..) ?_;rw[Al];refine AB ?_;simp only[AI,hn1,eP,eN,Aj]at e3 ⊢;rw[hf];refine Ah ?_;rw[hb1];refine Ah ?_;rw[e3,BU (by omega)];refine Aa ih ?_;rfl
omit Kh F in
theorem Abn(a:List Pt)(hl:a.length<=1000000):∀(m i:Nat) (out:List Pt),a.length-i=m->i<=a.length->out.length<=1000000+i->
  D.ask (.lp 211 1) [.ls (a.map eP),.sl 0 0 out.length 3,iv (i:Int)] [Ky out]=Θ (.tup [iv 2,.sl 1 0 (out++a.drop i).length 3],[.del,.set (Ky (out++a.drop i))]):=by
 intro m
 induction m with
 |zero=>
  intro i out hm hi ho;rw[Awb (by omega),AwF];refine AE Kt ML (Ab2 ..) ?_;rw[Al];exact AA rfl
 |succ m ih=>
  intro i out hm hi ho;have h1:i<a.length:=by omega
  have hn1:∀ kk,Bw (a.map eP) i kk=kk (eP a[i]):=λkk=>Az (ξ h1) kk
  rw[η h1];revert hn1;generalize a[i]=v;intro hn1;have ih:=ih (i+1) (out++[v]) (by omega) (by omega) (by simp;omega);rw[Awd,AwO,show (out++[v]).length=out.length+1 by simp]at ih;have hf:Ba (out.length+1) 40=Δ:=AP (by omega) (by omega);have hb1:Awf (0+out.length*3) (Ao eP out).length=Δ:=AK AU out (by omega);have e3:Av8 0 (κ (0+out.length*3) (Ao eP out))++[iv v.v,bv v.z.neg,eN v.z.abs]=Ao eP (out++[v]):=by
   rw[ο,Bb AU out (by omega)];exact Bc eP out v
  refine AE Kt ML (Ab2 ..) ?_;rw[Al];refine AB ?_;simp only[AI,hn1,eP,eN,Aj]at e3 ⊢;rw[hf];refine Ah ?_;rw[hb1];refine Ah ?_;rw[e3,BU (by omega)];refine Aa ih ?_;rfl
omit Kh F in
theorem Afw(a b:List Pt)(ha:a.length<=1000000)(hb:b.length<=1000000):D.ask (.fn 211) [.ls (a.map eP),.ls (b.map eP)] []=Θ (.ls ((a++b).map eP),[]):=by
 have g0:=Abm Kt a b ha _ 0 [] rfl (by omega) (by simp);have g1:=Abn Kt b hb _ 0 a rfl (by omega) (by omega);rw[ο,Awv]at g0;rw[ο]at g1;refine AC Kt ML (AtS ..) ?_;refine Aa g0 ?_;simp only[Aj];refine Aa g1 ?_;simp only[Aj];refine Ah ?_;rw[AK AU (a++b) (by omega)];refine Ah ?_;rw[Bi AU _ rfl]
theorem Akb{n m k:Nat}{a b:Tm}(ha:TmB n k a)(hb:TmB m k b)(hn:n+m<=1000000)(hk:k+1+(n+m)<=400000000):D.ask (.fn 153) [.agg (eT a),.agg (eT b)] []=Θ (.agg (eT (a.lf.add b.lf).tm),[]):=by
 obtain⟨ap,ak⟩:=a;obtain⟨bp,bk⟩:=b;have l1:ap.length<=n:=ha.len;have l2:bp.length<=m:=hb.len;have gc:=Afw Kt ap bp (by omega) (by omega);have ga:=F.add ak bk (ha.k.mono (by omega)) (hb.k.mono (by omega));have hT:TmB (n+m) (k+1) ⟨ap++bp,AQ (zv ak+zv bk)⟩:=by
  refine⟨by simp;omega,λp hp=>?_,?_⟩
  .rcases List.mem_append.1 hp with h|h
   .exact(ha.ps p h).mono (by omega)
   .exact(hb.ps p h).mono (by omega)
  .exact(InB.add ha.k.inb hb.k.inb).lz
 have gp:=Fq Kt Kh F hT hn (by omega);have el:(⟨ap++bp,AQ (zv ak+zv bk)⟩:Tm).lf.pln=Lf.add (Tm.lf ⟨ap,ak⟩) (Tm.lf ⟨bp,bk⟩):=by
  unfold Lf.add Tm.lf;simp only[List.map_append,Bm]
 rw[el]at gp;refine AC Kt AlE (Atl ..) ?_;refine Aa gc ?_;simp only[Aj];refine Aa ga ?_;simp only[eZ,eN,Aj];refine Aa gp ?_;rfl
omit Kh in
theorem Aai{k j:Nat}{x:Zi}(hx:Lz j x)(ps:List Pt)(kz:Zi)(hl:ps.length<=1000000)(hz:∀ p∈ps,Lz k p.z)(hk:k<=400000000)(hj:j<=400000000)(r0:Rw)(r1:Bool)(r2:Rw)(k1:Bool)(k2:Rw):∀(m i:Nat) (out:List Pt),ps.length-i=m->i<=ps.length->out.length<=i->
  D.ask (.lp 73 0) [.ptr 0 0,.ptr 1 0,.ptr 2 0,.ptr 3 0,iv (i:Int)] [⟨[.ls (ps.map eP),bv kz.neg,eN kz.abs],Δ,Φ⟩,⟨eZ x,Δ,Φ⟩,⟨[.ls r0,bv r1,.ls r2],Δ,Φ⟩,⟨[.sl 4 0 out.length 3,bv k1,.ls k2],Δ,Φ⟩,Ky out]
   = Θ (.tup [iv 0,.ptr 2 0,.ptr 3 0],[.del,.del,.set ⟨[.ls r0,bv r1,.ls r2],Δ,Φ⟩,.set ⟨[.sl 5 0 (out++(ps.drop i).map (Ri x)).length 3,bv k1,.ls k2],Δ,Φ⟩,.del,.set (Ky (out++(ps.drop i).map (Ri x)))]):=by
 intro m
 induction m with
 |zero=>
  intro i out hm hi ho;rw[Awb (by omega),Axb,AwF];obtain⟨xn,xa⟩:=x;refine AE Kt AcP (Ak6 ..) ?_;rw[Al];exact AA rfl
 |succ m ih=>
  intro i out hm hi ho;have h1:i<ps.length:=by omega
  have hzk:=hz ps[i] (Aws h1);have gm:=F.mul ps[i].z x (hzk.mono (by omega)) (hx.mono (by omega));rw[η h1,Awq];have ih:=ih (i+1) (out++[Ri x ps[i]]) (by omega) (by omega) (by simp;omega);rw[Awd,AwO,show (out++[Ri x ps[i]]).length=out.length+1 by simp]at ih;have hf:Ba (out.length+1) 40=Δ:=AP (by omega) (by omega);have hb1:Awf (0+out.length*3) (Ao eP out).length=Δ:=AK AU out (by omega);have e3:Av8 0 (κ (0+out.length*3) (Ao eP out))++[iv ps[i].v,bv (AQ (zv ps[i].z*zv x)).neg,eN (AQ (zv ps[i].z*zv x)).abs]=Ao eP (out++[Ri x ps[i]]):=by
   rw[ο,Bb AU out (by omega)];exact Bc eP out (Ri x ps[i])
  have hn1:∀ kk,Bw (ps.map eP) i kk=kk (eP ps[i]):=λkk=>Az (ξ h1) kk
  obtain⟨xn,xa⟩:=x;refine AE Kt AcP (Ak6 ..) ?_;rw[Al];refine AB ?_;simp only[AI,hn1,eP,eN,Aj];refine Aa gm ?_;simp only[eZ,eN,Aj]at e3 ⊢;rw[hf];refine Ah ?_;rw[hb1];refine Ah ?_;rw[e3,BU (by omega)];refine Aa ih ?_;rfl
theorem Re{n k j:Nat}{a:Tm}{x:Zi}(ha:TmB n k a)(hx:Lz j x)(hn:n<=1000000)(hj:j<=200000000)(hk:k+j+n<=400000000):D.ask (.fn 73) [.agg (eT a),.agg (eZ x)] []=Θ (.agg (eT (a.lf.scale (zv x)).tm),[]):=by
 obtain⟨ap,ak⟩:=a;have l1:ap.length<=n:=ha.len;have gm:=F.mul ak x (ha.k.mono (by omega)) (hx.mono (by omega));have gl:=Aai Kt F hx ap ak (by omega) ha.ps (by omega) (by omega) [] Φ [] (AQ (zv ak*zv x)).neg ((AQ (zv ak*zv x)).abs.map eL) _ 0 [] rfl (by omega) (by simp);rw[ο,Awv]at gl;have hT:TmB n (k+j) ⟨ap.map (Ri x),AQ (zv ak*zv x)⟩:=by
  refine⟨by simpa using l1,λp hp=>?_,(InB.mul ha.k.inb hx.inb).lz⟩;rw[AwV]at hp;obtain⟨q,hq,rfl⟩:=hp;exact(InB.mul (ha.ps q hq).inb hx.inb).lz
 have gp:=Fq Kt Kh F hT hn (by omega);have el:(⟨ap.map (Ri x),AQ (zv ak*zv x)⟩:Tm).lf.pln=Lf.scale (Tm.lf ⟨ap,ak⟩) (zv x):=by
  unfold Lf.scale Tm.lf;simp only[AxE,Bm]
  congr 2
  refine List.map_congr_left λp _=>?_
  show ((p.v,zv (AQ (zv p.z*zv x))):Int × Int)=_
  rw[Bm];rfl
 rw[el]at gp;obtain⟨xn,xa⟩:=x;refine AC Kt AcP (e73 ..) ?_;refine Aa gm ?_;simp only[eZ,eN,Aj];refine Aa gl ?_;simp only[Aj];rw[show Awf (0+(ap.map (Ri ⟨xn,xa⟩)).length*3) (Ao eP (ap.map (Ri ⟨xn,xa⟩))).length=Δ from AK AU _ (by omega)];refine Ah ?_;rw[Bi AU _ rfl];refine Aa gp ?_;rfl
theorem YR{n k:Nat}{a:Tm}(ha:TmB n k a)(hn:n<=1000000)(hk:k+1+n<=400000000):D.ask (.fn 73) [.agg (eT a),.agg (eZ (AQ (-1)))] []=Θ (.agg (eT (a.lf.scale (-1)).tm),[]):=by
 have hx:Lz 1 (AQ (-1)):=InB.lz (by unfold InB;decide);have g2:=Re Kt Kh F ha hx hn (by omega) hk;rw[Bm]at g2;exact g2
theorem YU{n m k:Nat}{a b:Tm}(ha:TmB n k a)(hb:TmB m k b)(hn:n+m<=1000000)(hk:k+2+2*(n+m)<=400000000):D.ask (.fn 81) [.agg (eT a),.agg (eT b)] []=Θ (.agg (eT (a.lf.sub b.lf).tm),[]):=by
 have g0:=F.of_ (-1) (by omega) (by omega);have g1:=YR Kt Kh F hb (by omega) (by omega);have hn1:LB m (k+1+m) (b.lf.scale (-1)):=hb.lb.scale (by unfold InB;decide);have g2:=Akb Kt Kh F (ha.mono (π _) (show k<=k+1+m by omega)) hn1.tb hn (by omega);rw[Ek]at g2;refine AC Kt AqT (e81 ..) ?_;refine Aa g0 ?_;simp only[eZ,eN,Aj]at g1 ⊢;refine Aa g1 ?_;simp only[eT,eN,Aj];refine Aa g2 ?_;rfl
omit Kh in
theorem WU{z:Zi}(hz:Lz 1000000000 z):D.ask (.fn 80) [.agg (eZ z)] []=Θ (.agg (eT (Lf.num (zv z)).tm),[]):=by
 have g:=F.clean z hz;refine AC Kt AqS (e80 ..) ?_;refine Aa g ?_;rfl
end
section
open Go.RowKit
def Agr:MFn:=AN [⟨24,(mB 62),[],[1,2,3],[(1,((mB 12),([],[1])))]⟩] 70
def AcN:Hnt:=⟨[(76,(.ls,[])),(77,(.agg AL,[])),(150,(.agg AL,[]))],[(0,[(1,([.ptr 1 0,.ptr 2 0],[.del,.box AL,.box AL]))])],[(7,BJ),(15,AL),(16,BJ),(19,[.int .i64]),(20,[.int .i64]),(23,AL)]⟩
def Ags:MFn:=AN [⟨66,(mB 254),[(1000005,3)],[1,2,3,4],[(1,((mB 62),([],[])))]⟩] 72
def AcO:Hnt:=⟨[(20,(.agg BJ,[])),(69,(.int .i64,[])),(70,(.agg AL,[])),(71,(.tup [.agg AL,.agg AL,.int .i64],[])),(76,(.ls,[])),(77,(.agg AL,[]))],[(0,[(1,([.ptr 0 0,.ptr 1 0,.ptr 2 0,.ptr 3 0,.ptr 4 0],[.box BJ,.box BJ,.box AL,.box AL,.box [.sl 6 3,.bool,.cst (.slice Ξ 0 0)],.del,.row Δ]))])],[(14,BJ),(16,AL),(19,BJ),(23,BJ),(32,BJ),(35,[.int .i64]),(36,[.int .i64]),(38,AL),(44,[.ls]),(47,[.int .i64]),(48,[.int .i64]),(49,AL),(56,AL),(57,AL),(62,AL),(64,BJ),(65,AL)]⟩
def Rq:List (Nat × MFn):=[(70,Agr),(72,Ags)]
variable (A:Ar) (D:Orc)
theorem e70(x0_0:Rw)(x0_1:Bool)(x0_2:Rw):B3 A D Au AcN .n 70 Agr [δ [Ψ x0_0,bv x0_1,Ψ x0_2]] [] =
 Ai D (φ 76) [δ [Ψ x0_0,bv x0_1,Ψ x0_2]] [] [.l,.E] λxs=>
 Ai D (Awa 70 0) [χ 0 0,χ 1 0,χ 2 0,Ψ xs,iv 0] [bk [Ψ x0_0,bv x0_1,Ψ x0_2],bk [bv Φ,Ψ []],bk [bv Φ,Ψ []]] [.t,.C,.x,.X,.Y] λc l o1=>
 br (BA 1 c)
 (dk [.P 1 0,.P 2 0,.N,.D,.T,.B,.L,.N,.T,.B,.L,.N,.E] [.l l,.o o1] λ_ _ b1 xs2=>
 Θ ((δ [bv b1,Ψ xs2],[])))
 (Ξ):=by kernel_rfl
theorem Ak4(b1_0:Rw)(b1_1:Bool)(b1_2:Rw)(b2_0:Bool)(b2_1:Rw)(b3_0:Bool)(b3_1 t4:Rw)(t5:Int):Dc A D Au AcN .n 70 0 (A1 Agr 0).fst (A1 Agr 0).snd [χ 0 0,χ 1 0,χ 2 0,Ψ t4,iv t5] [bk [Ψ b1_0,bv b1_1,Ψ b1_2],bk [bv b2_0,Ψ b2_1],bk [bv b3_0,Ψ b3_1]] =
 br (A.lt t5 ↑(AT t4))
 (unI t5 λi=>
 Bw t4 i λcs=>
 dk [.I,.N] [.l cs] λn=>
 Ai D (φ 77) [δ [Ψ b1_0,bv b1_1,Ψ b1_2],iv n] [] [.a,.B,.L,.N,.E] λb xs=>
 Ai D (φ 150) [δ [bv b3_0,Ψ b3_1],δ [bv b,Ψ xs]] [] [.a,.B,.L,.N,.E] λb1 xs1=>
 AW D (Awa 70 0) [χ 0 0,χ 1 0,χ 2 0,Ψ t4,iv (A.add ω t5 1)] [bk [Ψ b1_0,bv b1_1,Ψ b1_2],bk [bv b2_0,Ψ b2_1],bk [bv b1,Ψ xs1]] λr2 o2=>
 AS 3 [0,1,2] (AH.mk [(2,bk [bv b1,Ψ xs1]),(1,bk [bv b2_0,Ψ b2_1]),(0,bk [Ψ b1_0,bv b1_1,Ψ b1_2])] 3 Ξ) [0,1,2] r2 o2)
 (Θ ((Awe [iv 0,χ 1 0,χ 2 0],[BO.del,Awn (bk [bv b2_0,Ψ b2_1]),Awn (bk [bv b3_0,Ψ b3_1])]))):=by kernel_rfl
theorem e72(x0_0:Rw)(x0_1:Bool)(x0_2:Rw):B3 A D Au AcO .n 72 Ags [δ [Ψ x0_0,bv x0_1,Ψ x0_2]] [] =
 Ai D (φ 70) [δ [Ψ x0_0,bv x0_1,Ψ x0_2]] [] [.a,.B,.L,.N,.E] λb xs=>
 Ai D (φ 69) [δ [bv b,Ψ xs]] [] [.i,.E] λn=>
 br (A.eq n 0)
 (Ai D (φ 20) [δ [Ψ x0_0,bv x0_1,Ψ x0_2]] [] [.a,.L,.B,.L,.N,.E] λxs1 b1 xs2=>
 Θ ((Awe [δ [Ψ xs1,bv b1,Ψ xs2],δ [bv Φ,Ψ []]],[])))
 (Ai D (φ 76) [δ [Ψ x0_0,bv x0_1,Ψ x0_2]] [] [.l,.E] λxs1=>
 Ai D (Awa 72 0) [χ 0 0,χ 1 0,χ 2 0,χ 3 0,χ 4 0,Ψ xs1,iv 0] [bk [Ψ x0_0,bv x0_1,Ψ x0_2],bk [Ψ [],bv Φ,Ψ []],bk [bv Φ,Ψ []],bk [bv b,Ψ xs],bk [υ 5 0 0 3,bv Φ,Awc (Value.slice Ξ 0 0)],θ [] Δ Δ] [.t,.C,.x,.X,.Y] λc l2 o3=>
 br (BA 1 c)
 (dk [.P 0 0,.P 1 0,.P 2 0,.P 3 0,.P 4 0,.N,.T,.L,.B,.L,.N,.T,.L,.B,.L,.N,.T,.B,.L,.N,.T,.B,.L,.N,.T,.C,.q 6 3,.B,.C,.c (Value.slice Ξ 0 0),.X,.Y] [.l l2,.o o3] λ_ b1 xs3 _ _ _ _ _ b4 xs7 n1 _ l25 l22=>
 dk [.N,.D,.R,.X,.E] [.l l25,.o l22] λcs7=>
 Ai D (φ 71) [δ [bv b1,Ψ xs3],δ [bv b4,Ψ xs7]] [] [.t,.A,.B,.L,.N,.A,.B,.L,.N,.I,.N,.E] λb6 xs8 _ _ _=>
 br ((0+n1*3).ble cs7.length) (Θ ((Awe [δ [Ψ (Bo n1 3 (κ (n1*3) cs7)),bv b6,Ψ xs8],δ [bv b4,Ψ xs7]],[]))) Ξ)
 (Ξ)):=by kernel_rfl
theorem Ak5(a0:Rw)(a1:Bool)(a2 r0:Rw)(r1:Bool)(r2:Rw)(i0:Bool)(i1:Rw)(j0:Bool)(j1:Rw)(n5:Nat)(k1:Bool)(c5:Ab)(t6:Rw)(t7:Int):Dc A D Au AcO .n 72 0 (A1 Ags 0).fst (A1 Ags 0).snd [χ 0 0,χ 1 0,χ 2 0,χ 3 0,χ 4 0,Ψ t6,iv t7] [bk [Ψ a0,bv a1,Ψ a2],bk [Ψ r0,bv r1,Ψ r2],bk [bv i0,Ψ i1],bk [bv j0,Ψ j1],bk [υ 5 0 n5 3,bv k1,Awc (Value.slice Ξ 0 0)],{ cells:=c5,st:=Δ,ex:=Δ }] =
 br (A.lt t7 ↑(AT t6))
 (unI t7 λi=>
 Bw t6 i λcs=>
 dk [.I,.N] [.l cs] λn=>
 Ai D (φ 77) [δ [Ψ a0,bv a1,Ψ a2],iv n] [] [.a,.B,.L,.N,.E] λb xs=>
 Ai D (φ 71) [δ [bv b,Ψ xs],δ [bv j0,Ψ j1]] [] [.t,.A,.B,.L,.N,.A,.B,.L,.N,.I,.N,.E] λb1 xs1 b2 xs2 _=>
 unI t7 λi2=>
 Bw t6 i2 λcs5=>
 dk [.I,.N] [.l cs5] λn2=>
 br (Ba (n5+1) 40) (br ((0+n5*3).ble c5.length) (AW D (Awa 72 0) [χ 0 0,χ 1 0,χ 2 0,χ 3 0,χ 4 0,Ψ t6,iv (A.add ω t7 1)] [bk [Ψ a0,bv a1,Ψ a2],bk [Ψ r0,bv r1,Ψ r2],bk [bv i0,Ψ i1],bk [bv j0,Ψ j1],bk [υ 5 0 (n5+1) 3,bv k1,Awc (Value.slice Ξ 0 0)],θ (Av8 0 (κ (0+n5*3) c5)++[iv n2,bv b1,Ψ xs1]) Δ Δ] λr4 o2=>
 AS 6 [0,1,2,3,4,9] (AH.mk [(3,bk [bv j0,Ψ j1]),(2,bk [bv i0,Ψ i1]),(1,bk [Ψ r0,bv r1,Ψ r2]),(0,bk [Ψ a0,bv a1,Ψ a2]),(4,bk [υ 9 0 (n5+1) 3,bv k1,Awc (Value.slice Ξ 0 0)]),(9,θ (Av8 0 (κ (0+n5*3) c5)++[iv n2,bv b1,Ψ xs1]) Δ Δ),(8,θ [iv n2,bv b1,Ψ xs1] Δ Δ),(7,bk [bv b2,Ψ xs2]),(6,bk [bv b1,Ψ xs1])] 10 Ξ) [5,4,0,1,2,3] r4 o2) Ξ) Ξ)
 (Θ ((Awe [iv 0,χ 0 0,χ 1 0,χ 2 0,χ 3 0,χ 4 0],[Awn (bk [Ψ a0,bv a1,Ψ a2]),Awn (bk [Ψ r0,bv r1,Ψ r2]),Awn (bk [bv i0,Ψ i1]),Awn (bk [bv j0,Ψ j1]),Awn (bk [υ 6 0 n5 3,bv k1,Awc (Value.slice Ξ 0 0)]),BO.del,Awn (θ c5 Δ Δ)]))):=by kernel_rfl
end
structure RdF (D:Orc):Prop where
 div:∀ a b:Zi,Lz 300000000 a->Lz 300000000 b->D.ask (.fn 71) [.agg (eZ a),.agg (eZ b)] []
  = Θ (if zv b=0 then .tup [.agg [bv Φ,.ls []],.agg [bv Φ,.ls []],iv 10] else .tup [.agg (eZ (AQ (qZ (zv a) (zv b)))),.agg (eZ (AQ (rZ (zv a) (zv b)))),iv 0],[])
 gcd:∀ a b:Zi,Lz 900000000 a->Lz 900000000 b->D.ask (.fn 150) [.agg (eZ a),.agg (eZ b)] []=Θ (.agg (eZ (AQ (AxG (zv a).natAbs (zv b).natAbs:Nat))),[])
theorem Asb{D:Orc}(Kn:Knows Au Lr D)(R:Knows Au Rr D)(Km:Knows Au Vi D)(G:Knows Au Y1 D):RdF D:=⟨λ_ _ ha hb=>Aef Kn R Km G ha hb,λ_ _ ha hb=>Aeg Kn R Km G ha hb⟩
def vc(ps:List (Int × Int))(v:Int):Int × Int:=(v,C9 ps v)
theorem Mx{n k:Nat}{t:Tm}(ht:TmB n k t)(v:Int):InB (k+n) (C9 t.lf.ps v):=by
 have h:=I1 v t.lf.ps ht.lb.ps;have hl:=ht.lb.len;unfold C9;split
 .exact h.mono (by omega)
 .exact InB.zero _
def Db(t:Tm):Nat:=P4 0 (BB t.lf.ps)
def Jl(g:Int)(p:Int × Int):Pt:=Bg (p.1,qZ p.2 g)
def FL(t:Tm):Tm:=if Db t=0 then t.lf.pln.tm else ⟨(BB t.lf.ps).map (Jl (Db t)),AQ (qZ (zv t.k) (Db t))⟩
section
variable {D:Orc} (Kt:Knows Au HQ D) (Kh:Knows Au IP D) (F:RF D) (Ks:Knows Au Rq D) (W:RdF D)
include Kh F Ks W
theorem Akc{n k:Nat}{t:Tm}(ht:TmB n k t)(hn:n<=1000000)(hk:k+n<=300000000)(vs:List Int)(hvs:vs.length<=n):∀(m i g:Nat),vs.length-i=m->i<=vs.length->InB 300000000 (g:Int)->
  D.ask (.lp 70 0) [.ptr 0 0,.ptr 1 0,.ptr 2 0,.ls (vs.map eI),iv (i:Int)] [bk (eT t),bk [bv Φ,.ls []],bk (eZ (AQ (g:Int)))]
   = Θ (.tup [iv 0,.ptr 1 0,.ptr 2 0],[.del,.set (bk [bv Φ,.ls []]),.set (bk (eZ (AQ (P4 g ((vs.drop i).map (vc t.lf.ps)):Int))))]):=by
 intro m
 induction m with
 |zero=>
  intro i g hm hi hg;rw[Awb (by omega)];refine AE Ks AcN (Ak4 ..) ?_;rw[Al];exact AA rfl
 |succ m ih=>
  intro i g hm hi hg;have h1:i<vs.length:=by omega
  have hx:=(Mx ht vs[i]).mono hk;rw[η h1,Awq];have gc:=Nu Kh F ht hn (by omega) vs[i];rw[show (if 0<=vs[i] then BE vs[i] t.lf.ps else 0)=C9 t.lf.ps vs[i] from rfl]at gc;have ga:=W.gcd (AQ (g:Int)) (AQ (C9 t.lf.ps vs[i])) (hg.lz.mono (by omega)) (hx.lz.mono (by omega));rw[Bm,Bm,Ayh]at ga;have ih1:=ih (i+1) (AxG g (C9 t.lf.ps vs[i]).natAbs) (by omega) (by omega) (Nw hg hx);refine AE Ks AcN (Ak4 ..) ?_;rw[Al];refine AB ?_;rw[AI,Az (ξ h1)];simp only[eI,Aj];refine Aa gc ?_;simp only[eZ,eN,Aj];refine Aa ga ?_;simp only[eZ,eN,Aj];rw[BU (by omega)];refine Aa ih1 ?_;rfl
include Kt
theorem MX{n k:Nat}{t:Tm}(ht:TmB n k t)(hn:n<=1000000)(hk:k+n<=300000000):D.ask (.fn 70) [.agg (eT t)] []=Θ (.agg (eZ (AQ (Db t:Int))),[]):=by
 have gv:=Pu Kt Kh F ht hn (by omega);have hl:=Mw t.lf.ps;have hl2:=ht.lb.len;have g:=Akc Kh F Ks W ht hn hk (Gl t.lf.ps) (by omega) _ 0 0 rfl (by omega) (InB.zero _);rw[ο,show AQ ((0:Nat):Int)=⟨Φ,[]⟩ from PS,show eZ ⟨Φ,[]⟩=[bv Φ,.ls []] from rfl,show (Gl t.lf.ps).map (vc t.lf.ps)=BB t.lf.ps from D7 _]at g;refine AC Ks AcN (e70 ..) ?_;refine Aa gv ?_;simp only[Aj];refine Aa g ?_;rfl
omit Kt in
theorem Akp{n k:Nat}{t:Tm}(ht:TmB n k t)(hn:n<=1000000)(hk:k+n<=300000000)(g:Nat)(hg:InB 300000000 (g:Int))(hg0:g≠0)(vs:List Int)(hvs:vs.length<=n):∀(m i:Nat) (out:List Pt),vs.length-i=m->i<=vs.length->out.length<=i->
  D.ask (.lp 72 0) [.ptr 0 0,.ptr 1 0,.ptr 2 0,.ptr 3 0,.ptr 4 0,.ls (vs.map eI),iv (i:Int)] [bk (eT t),bk [.ls [],bv Φ,.ls []],bk [bv Φ,.ls []],bk (eZ (AQ (g:Int))),bk [.sl 5 0 out.length 3,bv Φ,.v (.slice Ξ 0 0)],θ (Ao eP out) Δ Δ]
   = Θ (.tup [iv 0,.ptr 0 0,.ptr 1 0,.ptr 2 0,.ptr 3 0,.ptr 4 0],[.set (bk (eT t)),.set (bk [.ls [],bv Φ,.ls []]),.set (bk [bv Φ,.ls []]),.set (bk (eZ (AQ (g:Int)))),.set (bk [.sl 6 0 (out++(vs.drop i).map λv=>Jl (g:Int) (vc t.lf.ps v)).length 3,bv Φ,.v (.slice Ξ 0 0)]),.del,.set (θ (Ao eP (out++(vs.drop i).map λv=>Jl (g:Int) (vc t.lf.ps v))) Δ Δ)]):=by
 intro m
 induction m with
 |zero=>
  intro i out hm hi ho;rw[Awb (by omega),Axb,AwF];refine AE Ks AcO (Ak5 ..) ?_;rw[Al];exact AA rfl
 |succ m ih=>
  intro i out hm hi ho;have h1:i<vs.length:=by omega
  have hx:=(Mx ht vs[i]).mono hk;have hn1:∀ kk,Bw (vs.map eI) i kk=kk (eI vs[i]):=λkk=>Az (ξ h1) kk
  rw[η h1,Awq];revert hn1 hx;generalize vs[i]=v;intro hx hn1;have gc:=Nu Kh F ht hn (by omega) v;rw[show (if 0<=v then BE v t.lf.ps else 0)=C9 t.lf.ps v from rfl]at gc;have gd:=W.div (AQ (C9 t.lf.ps v)) (AQ (g:Int)) hx.lz hg.lz;rw[Bm,Bm,Ad (by omega)]at gd;have ih:=ih (i+1) (out++[Jl (g:Int) (vc t.lf.ps v)]) (by omega) (by omega) (by simp;omega);rw[Awd,AwO,show (out++[Jl (g:Int) (vc t.lf.ps v)]).length=out.length+1 by simp]at ih;have hf:Ba (out.length+1) 40=Δ:=AP (by omega) (by omega);have hb1:Awf (0+out.length*3) (Ao eP out).length=Δ:=AK AU out (by omega);have e3:Av8 0 (κ (0+out.length*3) (Ao eP out))++[iv v,bv (AQ (qZ (C9 t.lf.ps v) (g:Int))).neg,eN (AQ (qZ (C9 t.lf.ps v) (g:Int))).abs]=Ao eP (out++[Jl (g:Int) (vc t.lf.ps v)]):=by
   rw[ο,Bb AU out (by omega)];exact Bc eP out (Jl (g:Int) (vc t.lf.ps v))
  refine AE Ks AcO (Ak5 ..) ?_;rw[Al];refine AB ?_;simp only[AI,hn1,eI,Aj];refine Aa gc ?_;simp only[eZ,eN,Aj]at e3 ⊢;refine Aa gd ?_;simp only[eZ,eN,Aj];rw[hf];refine Ah ?_;rw[hb1];refine Ah ?_;rw[e3,BU (by omega)];refine Aa ih ?_;rfl
theorem WX{n k:Nat}{t:Tm}(ht:TmB n k t)(hn:n<=1000000)(hk:k+n<=300000000):D.ask (.fn 72) [.agg (eT t)] []=Θ (.tup [.agg (eT (FL t)),.agg (eZ (AQ (Db t:Int)))],[]):=by
 have gc:=MX Kt Kh F Ks W ht hn hk;have gv:=Pu Kt Kh F ht hn (by omega);have gp:=Fq Kt Kh F ht hn (by omega);have hl:=Mw t.lf.ps;have hl2:=ht.lb.len;have hgI:InB 300000000 (Db t:Int):=Ov _ _ (InB.zero _) (λp hp=>by
  rw[←D7]at hp;obtain⟨v,_,rfl⟩:=AwV.1 hp;exact(Mx ht v).mono hk)
 have gs:=F.sign (AQ (Db t:Int)) (hgI.lz.mono (by omega));rw[Bm]at gs;refine AC Ks AcO (e72 ..) ?_;refine Aa gc ?_;simp only[eZ,eN,Aj];refine Aa gs ?_;simp only[Aj];unfold FL
 by_cases h0:Db t=0
 .rw[Ac h0,h0]
  refine AG ?_ (by decide);refine Aa gp ?_;rw[show AQ ((0:Nat):Int)=⟨Φ,[]⟩ from PS];simp only[eT,eN,Aj];rfl
 .rw[Ad h0]
  refine Ay ?_ (by unfold Cb;rw[Ad (by omega),Ac (by omega)];decide);refine Aa gv ?_;simp only[Aj];have g:=Akp Kh F Ks W ht hn hk (Db t) hgI h0 (Gl t.lf.ps) (by omega) _ 0 [] rfl (by omega) (by simp);have e2:(Gl t.lf.ps).map (λv=>Jl (Db t:Int) (vc t.lf.ps v))=(BB t.lf.ps).map (Jl (Db t:Int)):=by
   rw[←D7,AxE];rfl
  rw[ο,Awv,e2]at g;have gk:=W.div t.k (AQ (Db t:Int)) (ht.k.mono (by omega)) hgI.lz;rw[Bm,Ad (by omega)]at gk;refine Aa g ?_;simp only[eT,eZ,eN,Aj];refine(show ∀ X:KR,Rv (.slice Ξ 0 0) (.v (.slice Ξ 0 0)) X=X from λ_=>rfl) _ |>.trans ?_
  refine Aa gk ?_;simp only[eZ,eN,Aj];rw[AK AU _ (by omega)];refine Ah ?_;rw[Bi AU _ rfl]
end
section
open Go.RowKit
variable (A:Ar) (D:Orc)
end
section
open Go.RowKit
def ArH:MFn:=AN [] 79
def AqR:Hnt:=⟨[(28,(.agg Di,[])),(68,(.agg BJ,[])),(125,(.agg BJ,[])),(126,(.agg AL,[])),(127,(.agg BJ,[]))],[],[(3,BJ)]⟩
def Aro:MFn:=AN [] 23
def Aqy:Hnt:=⟨[(68,(.agg BJ,[])),(79,(.agg Di,[]))],[],[(4,[.bool]),(7,BJ),(11,BJ),(15,BJ)]⟩
def Vg:List (Nat × MFn):=[(79,ArH),(23,Aro)]
variable (A:Ar) (D:Orc)
theorem e79(x0_0:Rw)(x0_1:Bool)(x0_2:Rw):B3 A D Au AqR .n 79 ArH [δ [Ψ x0_0,bv x0_1,Ψ x0_2]] [] =
 Ai D (φ 68) [δ [Ψ x0_0,bv x0_1,Ψ x0_2]] [] [.a,.L,.B,.L,.N,.E] λxs b xs1=>
 Ai D (φ 126) [iv 1] [] [.a,.B,.L,.N,.E] λb1 xs2=>
 Ai D (φ 125) [δ [bv b1,Ψ xs2]] [] [.a,.L,.B,.L,.N,.E] λxs3 b2 xs4=>
 Ai D (φ 127) [δ [Ψ xs,bv b,Ψ xs1],δ [Ψ xs3,bv b2,Ψ xs4]] [] [.a,.L,.B,.L,.N,.E] λxs5 b3 xs6=>
 Ai D (φ 28) [δ [Ψ xs5,bv b3,Ψ xs6]] [] [.a,.L,.B,.L,.B,.N,.E] λxs7 b4 xs8 b5=>
 Θ ((δ [Ψ xs7,bv b4,Ψ xs8,bv b5],[])):=by kernel_rfl
theorem e23(x0_0:Rw)(x0_1:Bool)(x0_2:Rw)(x0_3:Bool):B3 A D Au Aqy .n 23 Aro [δ [Ψ x0_0,bv x0_1,Ψ x0_2,bv x0_3]] [] =
 br (A.not x0_3)
 (Ai D (φ 79) [δ [Ψ x0_0,bv x0_1,Ψ x0_2]] [] [.a,.L,.B,.L,.B,.N,.E] λxs b xs1 b1=>
 Θ ((Ψ [[Ψ xs,bv b,Ψ xs1,bv b1]],[])))
 (Ai D (φ 68) [δ [Ψ x0_0,bv x0_1,Ψ x0_2]] [] [.a,.L,.B,.L,.N,.E] λxs b xs1=>
 Ai D (φ 79) [δ [Ψ xs,bv b,Ψ xs1]] [] [.a,.L,.B,.L,.B,.N,.E] λxs2 b1 xs3 b2=>
 Ai D (φ 79) [δ [Ψ x0_0,bv x0_1,Ψ x0_2]] [] [.a,.L,.B,.L,.B,.N,.E] λxs4 b3 xs5 b4=>
 Θ ((Ψ [[Ψ xs2,bv b1,Ψ xs3,bv b2],[Ψ xs4,bv b3,Ψ xs5,bv b4]],[]))):=by kernel_rfl
end
section
open Go.RowKit
def ZX:MFn:=AN [⟨64,(mB 133),[],[],[(0,((mB 64),([],[]))),(1,([],([],[])))]⟩,⟨64,(mB 389),[],[],[(0,((mB 64),([],[]))),(3,((mB 133),([],[])))]⟩] 16
def Ug:Hnt:=⟨[],[(0,[(0,([.bool],[])),(1,([],[]))]),(1,[(0,([.bool],[])),(3,([.ls,.int .i64,.int .i64],[]))])],[(21,Di),(24,[.ls]),(30,Di),(34,[.ls]),(42,Di),(45,[.ls]),(52,Di),(55,[.ls]),(57,Cj),(60,[.ls])]⟩
def Ve:List (Nat × MFn):=[(16,ZX)]
variable (A:Ar) (D:Orc)
theorem e16(x0:Rw)(x1 x2:Int):B3 A D Au Ug .n 16 ZX [Ψ x0,iv x1,iv x2] [] =
 br (A.lt x1 ↑(AT x0))
 (Θ ((bv Φ,[])))
 (Ai D (Awa 16 0) [Ψ x0,iv x2,iv 0] [] [.t,.C,.x,.X,.Y] λc l o=>
 br (BA 0 c)
 (dk [.B,.N,.E] [.l l,.o o] λb=>
 Θ ((bv b,[])))
 (br (BA 1 c)
 (FQ l<|
 D2 o<|
 Θ ((bv Δ,[])))
 (Ξ))):=by kernel_rfl
theorem AkX(t0:Rw)(t2 t7:Int):Dc A D Au Ug .n 16 0 (A1 ZX 0).fst (A1 ZX 0).snd [Ψ t0,iv t2,iv t7] [] =
 br (A.lt t7 ↑(AT t0))
 (unI t7 λi=>
 Bw t0 i λcs=>
 dk [.L,.B,.L,.B,.N] [.l cs] λxs _ _ _=>
 br (A.lt 20 ↑(AT xs))
 (Θ ((Awe [bv Δ,bv Φ],[])))
 (unI t7 λi1=>
 Bw t0 i1 λcs1=>
 dk [.L,.B,.L,.B,.N] [.l cs1] λ_ _ xs3 _=>
 br (A.lt t2 ↑(AT xs3))
 (Θ ((Awe [bv Δ,bv Φ],[])))
 (Ai D (Awa 16 1) [Ψ t0,iv t2,iv t7,iv 0] [] [.t,.C,.x,.X,.Y] λc l8 o=>
 br (BA 0 c)
 (dk [.B,.N,.E] [.l l8,.o o] λb4=>
 Θ ((Awe [bv Δ,bv b4],[])))
 (br (BA 3 c)
 (dk [.L,.I,.I,.N,.E] [.l l8,.o o] λxs4 n n1=>
 AW D (Awa 16 0) [Ψ xs4,iv n,iv (A.add ω n1 1)] [] λr1 o1=>
 AS 0 [] (AH.mk [] 0 Ξ) [] r1 o1)
 (Ξ)))))
 (Θ ((Awe [iv 0],[]))):=by kernel_rfl
theorem AkY(t0:Rw)(t2 t7 t8:Int):Dc A D Au Ug .n 16 1 (A1 ZX 1).fst (A1 ZX 1).snd [Ψ t0,iv t2,iv t7,iv t8] [] =
 unI t7 λi=>
 Bw t0 i λcs=>
 dk [.L,.B,.L,.B,.N] [.l cs] λxs _ _ _=>
 br (A.lt t8 ↑(AT xs))
 (unI t7 λi1=>
 Bw t0 i1 λcs1=>
 dk [.L,.B,.L,.B,.N] [.l cs1] λxs2 _ _ _=>
 unI t8 λi2=>
 Bw xs2 i2 λcs2=>
 dk [.I,.B,.L,.N] [.l cs2] λ_ _ xs4=>
 br (A.lt t2 ↑(AT xs4))
 (Θ ((Awe [bv Δ,bv Φ],[])))
 (AW D (Awa 16 1) [Ψ t0,iv t2,iv t7,iv (A.add ω t8 1)] [] λr o=>
 AS 0 [] (AH.mk [] 0 Ξ) [] r o))
 (Θ ((Awe [iv 2,Ψ t0,iv t2,iv t7],[]))):=by kernel_rfl
end
section
open Go.RowKit
variable (A:Ar) (D:Orc)
end
section
open Go.RowKit
variable (A:Ar) (D:Orc)
end
def JQ(r:Tm × Bool):Ab:=eT r.1++[bv r.2]
theorem E9(ps:List Pt)(kz:Zi)(e:Bool):JQ (⟨ps,kz⟩,e)=[.ls (ps.map eP),bv kz.neg,eN kz.abs,bv e]:=rfl
section
variable {D:Orc} (Kw:Knows Au Ve D)
include Kw
def Z3(L:Int)(ps:List Pt):Bool:=ps.all λp=>decide ((p.z.abs.length:Int)<=L)
def P8(L:Int)(r:Tm × Bool):Bool:=decide (r.1.ps.length<=20)&&(decide ((r.1.k.abs.length:Int)<=L)&&Z3 L r.1.ps)
theorem AfU(rs:List (Tm × Bool))(L:Int)(i:Nat)(h1:i<rs.length)(hl:rs[i].1.ps.length<=20):∀(m k:Nat),rs[i].1.ps.length-k=m->k<=rs[i].1.ps.length->
  D.ask (.lp 16 1) [.ls (rs.map JQ),iv L,iv (i:Int),iv (k:Int)] []=Θ (if Z3 L (rs[i].1.ps.drop k)=Δ then .tup [iv 2,.ls (rs.map JQ),iv L,iv (i:Int)] else .tup [bv Δ,bv Φ],[]):=by
 have hn1:∀ kk,Bw (rs.map JQ) i kk=kk (JQ rs[i]):=λkk=>Az (ξ h1) kk
 revert hn1 hl;generalize rs[i]=r;intro hl hn1;obtain⟨⟨ps,kz⟩,e⟩:=r;simp only at hl ⊢;intro m
 induction m with
 |zero=>
  intro k hm hk;rw[Awb (by omega)];refine AE Kw Ug (AkY ..) ?_;simp only[AI,hn1,E9,eN,Aj,Al];exact AA rfl
 |succ m ih=>
  intro k hm hk;have h2:k<ps.length:=by omega
  have ih:=ih (k+1) (by omega) (by omega);have hn2:∀ kk,Bw (ps.map eP) k kk=kk (eP ps[k]):=λkk=>Az (ξ h2) kk
  rw[η h2];revert hn2;generalize ps[k]=p;intro hn2;unfold Z3 at ih ⊢;rw[Ax6];refine AE Kw Ug (AkY ..) ?_;simp only[AI,hn1,hn2,E9,eP,eN,Aj,Al];refine AB ?_
  by_cases hz:L<(p.z.abs.length:Int)
  .refine AB ?_ hz
   rw[BX (by omega:¬ (p.z.abs.length:Int)<=L)];rfl
  .refine AA ?_ hz
   rw[BT (by omega:(p.z.abs.length:Int)<=L),Axv,BU (by omega)];refine Aa ih ?_
   cases (ps.drop (k+1)).all λp=>decide ((p.z.abs.length:Int)<=L)<;>rfl
theorem AfT(rs:List (Tm × Bool))(L:Int)(hrl:rs.length<=1000000):∀(m i:Nat),rs.length-i=m->i<=rs.length->
  D.ask (.lp 16 0) [.ls (rs.map JQ),iv L,iv (i:Int)] []=Θ (if(rs.drop i).all (P8 L)=Δ then .tup [iv 0] else .tup [bv Δ,bv Φ],[]):=by
 intro m
 induction m with
 |zero=>
  intro i hm hi;rw[Awb (by omega)];refine AE Kw Ug (AkX ..) ?_;rw[Al];exact AA rfl
 |succ m ih=>
  intro i hm hi;have h1:i<rs.length:=by omega
  have ih:=ih (i+1) (by omega) (by omega);have hn1:∀ kk,Bw (rs.map JQ) i kk=kk (JQ rs[i]):=λkk=>Az (ξ h1) kk
  have g1:=AfU Kw rs L i h1;rw[η h1,Ax6];revert hn1 g1;generalize rs[i]=r;obtain⟨⟨ps,kz⟩,e⟩:=r;intro hn1 g1;simp only at g1;unfold P8;simp only;refine AE Kw Ug (AkX ..) ?_;rw[Al];refine AB ?_;simp only[AI,hn1,E9,eN,Aj,Al]
  by_cases hp:ps.length<=20
  .refine AA ?_
   rw[BT hp,Axv]
   by_cases hk:(kz.abs.length:Int)<=L
   .refine AA ?_
    rw[BT hk,Axv];have g1:=g1 hp _ 0 rfl (Awz _);rw[ο]at g1;refine Aa g1 ?_
    cases hr:Z3 L ps with
    |true=>
     rw[Ac rfl,Axv];simp only[Aj,AsP];rw[BU (by omega)];refine Aa ih ?_;unfold P8
     cases (rs.drop (i+1)).all λr=>decide (r.1.ps.length<=20)&&(decide ((r.1.k.abs.length:Int)<=L)&&Z3 L r.1.ps)<;>rfl
    |false=>rfl
   .refine AB ?_
    rw[BX hk];rfl
  .refine AB ?_
   rw[BX hp];rfl
theorem AnE(rs:List (Tm × Bool))(n:Nat)(L:Int)(hn:n<=1000000):D.ask (.fn 16) [.ls (rs.map JQ),iv (n:Int),iv L] []=Θ (bv (decide (rs.length<=n)&&rs.all (P8 L)),[]):=by
 refine AC Kw Ug (e16 ..) ?_;rw[Al]
 by_cases h:n<rs.length
 .rw[BX (by omega:¬ rs.length<=n)]
  exact N8 (by omega)
 .have g:=AfT Kw rs L (by omega) _ 0 rfl (by omega)
  rw[ο]at g;rw[BT (by omega:rs.length<=n),Axv];refine AA ?_;refine Aa g ?_
  cases rs.all (P8 L)<;>rfl
end
structure LmT (t:Tm):Prop where
 ps:∀ p∈t.ps,Limbs p.z.abs
 k:Limbs t.k.abs
theorem LmT.tmb{t:Tm}{e:Bool}{L:Nat}(h:LmT t)(ho:P8 (L:Int) (t,e)=Δ):TmB 20 L t:=by
 unfold P8 Z3 at ho;simp only[Bool.and_eq_true,decide_eq_true_eq,List.all_eq_true]at ho;exact⟨ho.1,λp hp=>⟨h.ps p hp,by have:=ho.2.2 p hp;omega⟩,⟨h.k,by have:=ho.2.1;omega⟩⟩
def DO(l:Lf):Lf:=(l.scale (-1)).sub (Lf.num 1)
theorem NC(k:Nat)(h:1<=k):LB 0 k (Lf.num 1):=⟨π _,by simp[Lf.num],InB.one h⟩
theorem IY{n k:Nat}{l:Lf}(h:LB n k l):LB n (2*(k+1+n)+2+2*n) (DO l):=by
 have h1:LB n (k+1+n) (l.scale (-1)):=h.scale (by unfold InB;decide);exact(LB.sub h1 (NC (k+1+n) (by omega)):LB (n+0) _ _)
def EX(l:Lf)(e:Bool):List (Tm × Bool):=if e then [((DO (l.scale (-1))).tm,Φ),((DO l).tm,Φ)] else [((DO l).tm,Φ)]
section
variable {D:Orc} {M:Nat} (Kt:Knows Au Ge D) (Kf:Knows Au Ls D) (Ks:SrtF D M) (Z:ZF D) (C:PartF D) (Kd:Knows Au Vg D)
include Kt Kf Ks Z C Kd
theorem Ts{n k:Nat}{t:Tm}(ht:TmB n k t)(hn:n<=1000)(hnM:n<=M)(hk:k<=1000):D.ask (.fn 79) [.agg (eT t)] []=Θ (.agg (JQ ((DO t.lf).tm,Φ)),[]):=by
 have g1:=SG Kt Kf Ks Z C ht (by omega) (by omega);have hs:LB n (k+1+n) (t.lf.scale (-1)):=ht.lb.scale (by unfold InB;decide);have g2:=Z.of_ 1 (by omega) (by omega);have g3:=Z2 Kt Kf Z (z:=AQ 1) ((InB.one (π 1)).lz.mono (by omega));rw[Bm]at g3;have g4:=Apw Kt Kf Ks Z C hs.tb (NC (k+1+n) (by omega)).tb (by omega) (by omega);rw[Ek,Ek]at g4;have g5:=Adc Kt Kf Ks Z C (IY ht.lb).tb (by omega) (by omega);rw[Ek,show (DO t.lf).pln=DO t.lf from AkA _ _]at g5
 change D.ask _ [.agg (eT (t.lf.scale (-1)).tm),.agg (eT (Lf.num 1).tm)] []=Θ (.agg (eT (DO t.lf).tm),[]) at g4
 revert g1 g4 g5;unfold JQ;simp only;generalize (t.lf.scale (-1)).tm=a;generalize (DO t.lf).tm=c;generalize (Lf.num 1).tm=b at g3 ⊢;generalize AQ 1=z at g2 g3;intro g1 g5 g4;obtain⟨ps,kz⟩:=t;refine AC Kd AqR (e79 ..) ?_;simp only[eT,eZ,eN,Aj]at g1 g2 g3 g4 g5 ⊢;refine Aa g1 ?_;simp only[Aj];refine Aa g2 ?_;simp only[Aj];refine Aa g3 ?_;simp only[Aj];refine Aa g4 ?_;simp only[Aj];refine Aa g5 ?_;rfl
theorem Abz{n k:Nat}{t:Tm}(ht:TmB n k t)(hn:n<=500)(hnM:n<=M)(hk:k+n+1<=1000)(e:Bool):D.ask (.fn 23) [.agg (JQ (t,e))] []=Θ (.ls ((EX t.lf e).map JQ),[]):=by
 have gb:=Ts Kt Kf Ks Z C Kd ht (by omega) hnM (by omega);have g1:=SG Kt Kf Ks Z C ht (by omega) (by omega);have hs:LB n (k+1+n) (t.lf.scale (-1)):=ht.lb.scale (by unfold InB;decide);have gc:=Ts Kt Kf Ks Z C Kd hs.tb (by omega) hnM (by omega);rw[Ek]at gc;revert gb g1 gc;unfold EX;generalize (DO (t.lf.scale (-1))).tm=d;generalize (t.lf.scale (-1)).tm=a;generalize (DO t.lf).tm=c;intro gb g1 gc;obtain⟨ps,kz⟩:=t;refine AC Kd Aqy (e23 ..) ?_;simp only[eT,JQ,eN,List.cons_append,Awv]at gb g1 gc ⊢
 cases e with
 |false=>
  refine Ah ?_;refine Aa gb ?_;rfl
 |true=>
  refine BR ?_;refine Aa g1 ?_;simp only[Aj];refine Aa gc ?_;simp only[Aj];refine Aa gb ?_;rfl
end
section
open Go.RowKit
def Arm:MFn:=AN [] 18
def Aqx:Hnt:=⟨[(20,(.agg BJ,[])),(56,(.agg AL,[])),(69,(.int .i64,[])),(70,(.agg AL,[])),(71,(.tup [.agg AL,.agg AL,.int .i64],[])),(72,(.tup [.agg BJ,.agg AL],[])),(73,(.agg BJ,[]))],[],[(13,BJ),(16,AL),(19,[.ls]),(26,[.bool]),(35,BJ),(39,AL),(40,AL),(46,[.bool]),(48,AL),(54,BJ),(59,[.bool]),(62,[.ls]),(63,Cj),(65,AL),(69,BJ),(72,BJ),(74,[.bool])]⟩
def Vj:List (Nat × MFn):=[(18,Arm)]
variable (A:Ar) (D:Orc)
theorem e18(x0_0:Rw)(x0_1:Bool)(x0_2:Rw)(x0_3:Bool):B3 A D Au Aqx (.b .n (.b .n (.b (.t (.t (.b (.b .n (.t (.b .n (.b .n (.t (.t (.t (.t (.t (.t (.t (.b (.t .n) (.t .n))))))))))))) (.b (.t .n) .n)))) (.f (.f (.f (.b .n (.b .n (.f (.f (.f (.f (.f (.f (.f (.f .n)))))))))))))))) 18 Arm [δ [Ψ x0_0,bv x0_1,Ψ x0_2,bv x0_3]] [] =
 Ai D (φ 20) [δ [Ψ x0_0,bv x0_1,Ψ x0_2]] [] [.a,.L,.B,.L,.N,.E] λxs b xs1=>
 Ai D (φ 69) [δ [bv b,Ψ xs1]] [] [.i,.E] λn=>
 br (A.eq (↑(AT xs)) 0)
 (br (A.eq n 0)
 (Θ ((Awe [δ [Ψ [],bv Φ,Ψ [],bv Φ],iv 1],[])))
 (br (A.not x0_3)
 (br (A.lt 0 n)
 (Θ ((Awe [δ [Ψ [],bv Φ,Ψ [],bv Φ],iv 1],[])))
 (Θ ((Awe [δ [Ψ [],bv Φ,Ψ [],bv Φ],iv (-1)],[]))))
 (Θ ((Awe [δ [Ψ [],bv Φ,Ψ [],bv Φ],iv (-1)],[])))))
 (Ai D (φ 70) [δ [Ψ xs,bv b,Ψ xs1]] [] [.a,.B,.L,.N,.E] λb1 xs2=>
 Ai D (φ 71) [δ [bv b,Ψ xs1],δ [bv b1,Ψ xs2]] [] [.t,.A,.B,.L,.N,.A,.B,.L,.N,.I,.N,.E] λ_ _ b3 xs4 _=>
 br x0_3
 (br x0_3 (AW D (φ 69) [δ [bv b3,Ψ xs4]] [] λr4 o4=>
 dk [.i,.E] [.v r4,.o o4] λn2=>
 br x0_3 (br (A.eq n2 0)
 (br x0_3 (AW D (φ 72) [δ [Ψ xs,bv b,Ψ xs1]] [] λr5 o5=>
 dk [.t,.A,.L,.B,.L,.N,.A,.B,.L,.N,.N,.E] [.v r5,.o o5] λxs5 b4 xs6 _ _=>
 br x0_3 (br x0_3 (br x0_3 (Bw xs5 0 λcs8=>
 dk [.I,.B,.L,.N] [.l cs8] λ_ b6 xs8=>
 br x0_3 (br x0_3 (br x0_3 (AW D (φ 69) [δ [bv b6,Ψ xs8]] [] λr6 o6=>
 dk [.i,.E] [.v r6,.o o6] λn4=>
 br x0_3 (br (A.lt n4 0)
 (br x0_3 (AW D (φ 56) [iv (-1)] [] λr7 o7=>
 dk [.a,.B,.L,.N,.E] [.v r7,.o o7] λb7 xs9=>
 Ai D (φ 73) [δ [Ψ xs5,bv b4,Ψ xs6],δ [bv b7,Ψ xs9]] [] [.a,.L,.B,.L,.N,.E] λxs10 b8 xs11=>
 Θ ((Awe [δ [Ψ xs10,bv b8,Ψ xs11,bv x0_3],iv 0],[]))) Ξ)
 (br x0_3 (Θ ((Awe [δ [Ψ xs5,bv b4,Ψ xs6,bv x0_3],iv 0],[]))) Ξ)) Ξ) Ξ) Ξ) Ξ) Ξ) Ξ) Ξ) Ξ)
 (br x0_3 (Θ ((Awe [δ [Ψ [],bv Φ,Ψ [],bv Φ],iv (-1)],[]))) Ξ)) Ξ) Ξ)
 (br x0_3 Ξ (br x0_3 Ξ (br x0_3 Ξ (AW D (φ 72) [δ [Ψ xs,bv b,Ψ xs1]] [] λr4 o4=>
 dk [.t,.A,.L,.B,.L,.N,.A,.B,.L,.N,.N,.E] [.v r4,.o o4] λxs5 b4 xs6 _ _=>
 br x0_3 Ξ (br x0_3 Ξ (br x0_3 Ξ (br x0_3 Ξ (br x0_3 Ξ (br x0_3 Ξ (br x0_3 Ξ (br x0_3 Ξ (Θ ((Awe [δ [Ψ xs5,bv b4,Ψ xs6,bv x0_3],iv 0],[]))))))))))))))):=by kernel_rfl
end
theorem AdJ{k:Nat}{x:Int}(hx:InB k x)(hk:1<=k)(y:Int):InB (k+1) (qZ x y):=by
 unfold qZ;split
 .rw[Int.sub_eq_add_neg]
  exact(XY hx y _).add ((InB.one hk).neg)
 .exact(XY hx y _).mono (by omega)
def hdS(t:Tm):Int:=match t.ps with
 |[]=>0
 |q::_=>zv q.z
def zrR:Tm × Bool:=(⟨[],⟨Φ,[]⟩⟩,Φ)
def Jm(p:Tm)(eq:Bool):(Tm × Bool) × Int:=
 if p.ps=[] then(zrR,if zv p.k=0\/(eq=Φ/\0<zv p.k) then 1 else -1)
 else if eq=Δ then
  (if rZ (zv p.k) (Db p)=0 then((if hdS (FL p)<0 then((FL p).lf.scale (-1)).tm else FL p,Δ),0) else(zrR,-1))
 else((FL p,Φ),0)
theorem XG{l:Lf}(h:l.pln.tm.ps≠[]):Db l.pln.tm≠0:=by
 intro h0;have hp:=DI l.ps;unfold Db at h0;rw[Ek,show l.pln.ps=BB l.ps from rfl,J4 hp]at h0;have hd:=(Ou (BB l.ps) 0).2;rw[h0]at hd
 cases hl:BB l.ps with
 |nil=>
  apply h
  show (BB l.ps).map Bg=[]
  rw[hl];rfl
 |cons q r=>
  have hq:q∈BB l.ps:=by rw[hl];exact Awi ..
  have h1:=Nat.eq_zero_of_zero_dvd (hd q hq);exact hp.nz q hq (by omega)
theorem M0(x:Int):Cb x=0 ↔ x=0:=by unfold Cb;split<;>(try split)<;>omega
theorem YW(x:Int):0<Cb x ↔ 0<x:=by unfold Cb;split<;>(try split)<;>omega
theorem YV(x:Int):Cb x<0 ↔ x<0:=by unfold Cb;split<;>(try split)<;>omega
theorem R2{n k:Nat}{t:Tm}(ht:TmB n k t):InB (k+n) (Db t:Int):=Ov _ _ (InB.zero _) (λp hp=>by
 rw[←D7]at hp;obtain⟨v,_,rfl⟩:=AwV.1 hp;exact Mx ht v)
theorem W7{n k:Nat}{t:Tm}(ht:TmB n k t)(hk:1<=k):TmB n (k+n+1) (FL t):=by
 unfold FL;have hl:=GR t.lf.ps;have hl2:=ht.lb.len;split
 .exact(ht.lb.pln.tb).mono (π _) (by omega)
 .refine⟨by simp;omega,λp hp=>?_,((AdJ ht.k.inb hk _).mono (by omega)).lz⟩
  obtain⟨q,hq,rfl⟩:=AwV.1 hp;rw[←D7]at hq;obtain⟨v,_,rfl⟩:=AwV.1 hq;exact(AdJ (Mx ht v) (by omega) _).lz
section
variable {D:Orc} (Kt:Knows Au HQ D) (Kh:Knows Au IP D) (F:RF D) (Ks:Knows Au Rq D) (W:RdF D) (Ku:Knows Au Vj D)
include Kt Kh F Ks W Ku
theorem Aak{n k:Nat}{t:Tm}(ht:TmB n k t)(hn:n<=1000000)(hk1:1<=k)(hk:k+3*n<=100000000)(eq:Bool):D.ask (.fn 18) [.agg (JQ (t,eq))] []
  = Θ (.tup [.agg (JQ (Jm t.lf.pln.tm eq).1),iv (Jm t.lf.pln.tm eq).2],[]):=by
 have gp:=Fq Kt Kh F ht hn (by omega);have hp:=ht.lb.pln.tb;have hc:t.lf.pln.tm.ps≠[]->Db t.lf.pln.tm≠0:=XG;refine AC Ku Aqx (e18 ..) ?_;refine Aa gp ?_;generalize t.lf.pln.tm=p at *;have gs:=F.sign p.k (hp.k.mono (by omega));simp only[eT,eN,Aj];refine Aa gs ?_;simp only[Al,Aj];unfold Jm
 by_cases h0:p.ps=[]
 .rw[Ac h0,h0]
  refine AG ?_ (by decide)
  by_cases hz:zv p.k=0
  .rw[Ac (.inl hz)]
   exact DP ((M0 _).2 hz)
  .refine Ay ?_ (λh=>hz ((M0 _).1 h))
   cases eq with
   |true=>
    refine BR ?_;rw[Ad (λh=>h.elim hz λh=>by cases h.1)];rfl
   |false=>
    refine Ah ?_
    by_cases hpz:0<zv p.k
    .rw[Ac (.inr ⟨rfl,hpz⟩)]
     exact N8 ((YW _).2 hpz)
    .rw[Ad (λh=>h.elim hz λh=>hpz h.2)]
     exact Da (λh=>hpz ((YW _).1 h))
 .have hc:=hc h0
  have hpl:p.ps.length≠0:=λh=>h0 (AwD h)
  rw[Ad h0];refine Ay ?_;have gc:=MX Kt Kh F Ks W hp hn (by omega);have hci:=R2 hp;have gd:=W.div p.k (AQ (Db p:Int)) (hp.k.mono (by omega)) (hci.lz.mono (by omega));rw[Bm,Ad (by omega)]at gd;have gh:=WX Kt Kh F Ks W hp hn (by omega);simp only[eT,eN]at gc;refine Aa gc ?_;simp only[eZ,eN,Aj];refine Aa gd ?_;simp only[eZ,eN,CC,Bz,Cn,BG,B6,DD,Br,AZ,DK];simp only[eT,eN]at gh
  cases eq with
  |false=>
   rw[Ad (by decide)]
   iterate 4 refine BR ?_
   refine Aa gh ?_;rfl
  |true=>
   rw[Ac rfl];have hri:InB 300000001 (rZ (zv p.k) (Db p:Int)):=by
    unfold rZ;split
    .exact((MP hci (by omega) _ _).mono (by omega)).add (hci.mono (by omega))
    .exact(MP hci (by omega) _ _).mono (by omega)
   have gr:=F.sign (AQ (rZ (zv p.k) (Db p:Int))) (hri.lz.mono (by omega));rw[Bm]at gr
   iterate 2 refine Ah ?_
   refine Aa gr ?_;simp only[Dj,AZ,DK];refine Ah ?_
   by_cases hr:rZ (zv p.k) (Db p:Int)=0
   .rw[Ac hr]
    refine AG ?_ ((M0 _).2 hr);refine Ah ?_;refine Aa gh ?_;have hst:=W7 hp (show 1<=k+n by omega);have hne:(FL p).ps≠[]:=by
     unfold FL;rw[Ad hc];intro h1;have h2:BB p.lf.ps=[]:=Azg.1 h1;apply hc;unfold Db;rw[h2];rfl
    have gsc:=Re Kt Kh F (a:=FL p) (x:=AQ (-1)) hst (j:=1) ((InB.one (k:=1) (π _)).neg.lz) hn (by omega) (by omega);rw[Bm]at gsc;revert gsc hne;have hq1:∀ q∈(FL p).ps,Lz 1000000000 q.z:=λq hq=>(hst.ps q hq).mono (by omega)
    revert hq1;generalize FL p=S;obtain⟨sp,sk⟩:=S
    cases sp with
    |nil=>intro _ h;exact absurd rfl h
    |cons q sp=>
     intro hq1 _ gsc;have gq:=F.sign q.z (hq1 q (Awi ..));simp only[eZ,eN,CC,Bz,Cn,BG,B6,DD,Br,AZ,DK]
     iterate 3 refine Ah ?_
     rw[Az (show (q::sp)[0]? = Θ q from rfl)];simp only[eP,eN,CC,Bz,Cn,BG,B6,DD,Br,AZ,DK]
     iterate 3 refine Ah ?_
     refine Aa gq ?_;simp only[Dj,AZ,DK];refine Ah ?_
     show _=Θ (Awe [.agg (JQ (if zv q.z<0 then _ else _,Δ)),iv 0],[])
     by_cases hs:zv q.z<0
     .rw[Ac hs]
      refine AB ?_ ((YV _).2 hs);refine Ah ?_;refine Aa (F.of_ (-1) (by decide) (by decide)) ?_;simp only[eZ,eN,CC,Bz,Cn,BG,B6,DD,Br,AZ,DK];refine Aa gsc ?_;rfl
     .rw[Ad hs]
      refine AA ?_ (λh=>hs ((YV _).1 h));exact Afy _ _
   .rw[Ad hr]
    refine Ay ?_ (λh=>hr ((M0 _).1 h));exact Afy _ _
end
section
open Go.RowKit
def ArA:MFn:=AN [] 63
def AqK:Hnt:=⟨[],[],[]⟩
def Arl:MFn:=AN [] 17
def Aqw:Hnt:=⟨[(62,(.agg BJ,[])),(63,(.tup [.agg Di,.int .i64],[])),(64,(.int .i64,[])),(65,(.tup [.agg BJ,.agg AL],[])),(66,(.tup [.agg AL,.agg AL,.int .i64],[])),(67,(.agg AL,[])),(68,(.agg BJ,[]))],[],[(9,BJ),(12,[.ls]),(16,AL),(21,[.bool]),(25,AL),(34,[.bool]),(37,BJ),(41,BJ),(45,AL),(46,BJ),(52,AL),(59,BJ),(64,[.ls]),(65,Cj),(67,AL),(70,BJ),(72,BJ)]⟩
def Vm:List (Nat × MFn):=[(63,ArA),(17,Arl)]
variable (A:Ar) (D:Orc)
theorem e63(x0:Bool):B3 A D Au AqK .n 63 ArA [bv x0] [] =
 br x0
 (Θ ((Awe [δ [Ψ [],bv Φ,Ψ [],bv Φ],iv 1],[])))
 (Θ ((Awe [δ [Ψ [],bv Φ,Ψ [],bv Φ],iv (-1)],[]))):=by kernel_rfl
theorem e17(x0_0:Rw)(x0_1:Bool)(x0_2:Rw)(x0_3:Bool):B3 A D Au Aqw .n 17 Arl [δ [Ψ x0_0,bv x0_1,Ψ x0_2,bv x0_3]] [] =
 Ai D (φ 62) [δ [Ψ x0_0,bv x0_1,Ψ x0_2]] [] [.a,.L,.B,.L,.N,.E] λxs b xs1=>
 br (A.eq (↑(AT xs)) 0)
 (Ai D (φ 64) [δ [bv b,Ψ xs1]] [] [.i,.E] λn=>
 br (A.eq n 0)
 (Ai D (φ 63) [bv Δ] [] [.t,.A,.L,.B,.L,.B,.N,.I,.N,.E] λxs2 b1 xs3 b2 n1=>
 Θ ((Awe [δ [Ψ xs2,bv b1,Ψ xs3,bv b2],iv n1],[])))
 (br (A.not x0_3)
 (Ai D (φ 64) [δ [bv b,Ψ xs1]] [] [.i,.E] λn1=>
 br (A.lt 0 n1)
 (Ai D (φ 63) [bv Δ] [] [.t,.A,.L,.B,.L,.B,.N,.I,.N,.E] λxs2 b1 xs3 b2 n2=>
 Θ ((Awe [δ [Ψ xs2,bv b1,Ψ xs3,bv b2],iv n2],[])))
 (Ai D (φ 63) [bv Φ] [] [.t,.A,.L,.B,.L,.B,.N,.I,.N,.E] λxs2 b1 xs3 b2 n2=>
 Θ ((Awe [δ [Ψ xs2,bv b1,Ψ xs3,bv b2],iv n2],[]))))
 (Ai D (φ 63) [bv Φ] [] [.t,.A,.L,.B,.L,.B,.N,.I,.N,.E] λxs2 b1 xs3 b2 n1=>
 Θ ((Awe [δ [Ψ xs2,bv b1,Ψ xs3,bv b2],iv n1],[])))))
 (br (A.not x0_3)
 (Ai D (φ 65) [δ [Ψ xs,bv b,Ψ xs1]] [] [.t,.A,.L,.B,.L,.N,.A,.B,.L,.N,.N,.E] λxs2 b1 xs3 _ _=>
 Θ ((Awe [δ [Ψ xs2,bv b1,Ψ xs3,bv Φ],iv 0],[])))
 (Ai D (φ 67) [δ [Ψ xs,bv b,Ψ xs1]] [] [.a,.B,.L,.N,.E] λb1 xs2=>
 Ai D (φ 66) [δ [bv b,Ψ xs1],δ [bv b1,Ψ xs2]] [] [.t,.A,.B,.L,.N,.A,.B,.L,.N,.I,.N,.E] λ_ _ b3 xs4 _=>
 Ai D (φ 64) [δ [bv b3,Ψ xs4]] [] [.i,.E] λn1=>
 br (A.eq n1 0)
 (Ai D (φ 65) [δ [Ψ xs,bv b,Ψ xs1]] [] [.t,.A,.L,.B,.L,.N,.A,.B,.L,.N,.N,.E] λxs5 b4 xs6 _ _=>
 Bw xs5 0 λcs8=>
 dk [.I,.B,.L,.N] [.l cs8] λ_ b6 xs8=>
 Ai D (φ 64) [δ [bv b6,Ψ xs8]] [] [.i,.E] λn3=>
 br (A.lt n3 0)
 (Ai D (φ 68) [δ [Ψ xs5,bv b4,Ψ xs6]] [] [.a,.L,.B,.L,.N,.E] λxs9 b7 xs10=>
 Θ ((Awe [δ [Ψ xs9,bv b7,Ψ xs10,bv Δ],iv 0],[])))
 (Θ ((Awe [δ [Ψ xs5,bv b4,Ψ xs6,bv Δ],iv 0],[]))))
 (Ai D (φ 63) [bv Φ] [] [.t,.A,.L,.B,.L,.B,.N,.I,.N,.E] λxs5 b4 xs6 b5 n2=>
 Θ ((Awe [δ [Ψ xs5,bv b4,Ψ xs6,bv b5],iv n2],[]))))):=by kernel_rfl
end
structure TiF (D:Orc) (M:Nat):Prop where
 le:M<=1000000
 plain:∀{n k:Nat} {t:Tm},TmB n k t->n<=M->k+n<=300000000->D.ask (.fn 62) [.agg (eT t)] []=Θ (.agg (eT t.lf.pln.tm),[])
 content:∀{n k:Nat} {t:Tm},TmB n k t->n<=M->k+n<=300000000->D.ask (.fn 67) [.agg (eT t)] []=Θ (.agg (eZ (AQ (Db t:Int))),[])
 shrink:∀{n k:Nat} {t:Tm},TmB n k t->n<=M->k+n<=300000000->D.ask (.fn 65) [.agg (eT t)] []=Θ (.tup [.agg (eT (FL t)),.agg (eZ (AQ (Db t:Int)))],[])
 neg:∀{n k:Nat} {t:Tm},TmB n k t->n<=M->k+n<=300000000->D.ask (.fn 68) [.agg (eT t)] []=Θ (.agg (eT (t.lf.scale (-1)).tm),[])
section
variable {D:Orc} {M:Nat} (Kt:Knows Au Vm D) (Z:ZF D) (W:ZdF D) (T:TiF D M)
include Kt
theorem UA(b:Bool):D.ask (.fn 63) [bv b] []=Θ (.tup [.agg (JQ zrR),iv (if b=Δ then 1 else -1)],[]):=by
 refine AC Kt AqK (e63 ..) ?_
 cases b<;>rfl
include Z W T
theorem Vt{n k:Nat}{t:Tm}(ht:TmB n k t)(hn:n<=M)(hk1:1<=k)(hk:k+3*n<=100000000)(eq:Bool):D.ask (.fn 17) [.agg (JQ (t,eq))] []
  = Θ (.tup [.agg (JQ (Jm t.lf.pln.tm eq).1),iv (Jm t.lf.pln.tm eq).2],[]):=by
 have hM:=T.le;have gp:=T.plain ht hn (by omega);have hp:=ht.lb.pln.tb;have hc:t.lf.pln.tm.ps≠[]->Db t.lf.pln.tm≠0:=XG;have k1:=UA Kt Δ;have k0:=UA Kt Φ;refine AC Kt Aqw (e17 ..) ?_;refine Aa gp ?_;generalize t.lf.pln.tm=p at *;have gs:=Z.sign p.k (hp.k.mono (by omega));simp only[eT,eN,Aj];simp only[Al];unfold Jm
 by_cases h0:p.ps=[]
 .rw[Ac h0,h0]
  refine AG ?_ (by decide);refine Aa gs ?_;simp only[Dj,AZ,DK]
  by_cases hz:zv p.k=0
  .rw[Ac (.inl hz)]
   refine AG ?_ ((M0 _).2 hz);refine Aa k1 ?_;rfl
  .refine Ay ?_ (λh=>hz ((M0 _).1 h))
   cases eq with
   |true=>
    refine BR ?_;rw[Ad (λh=>h.elim hz λh=>by cases h.1)];refine Aa k0 ?_;rfl
   |false=>
    refine Ah ?_;refine Aa gs ?_;simp only[Dj,AZ,DK]
    by_cases hpz:0<zv p.k
    .rw[Ac (.inr ⟨by trivial,hpz⟩)]
     refine AB ?_ ((YW _).2 hpz);refine Aa k1 ?_;rfl
    .rw[Ad (λh=>h.elim hz λh=>hpz h.2)]
     refine AA ?_ (λh=>hpz ((YW _).1 h));refine Aa k0 ?_;rfl
 .have hc:=hc h0
  have hpl:p.ps.length≠0:=λh=>h0 (AwD h)
  rw[Ad h0];refine Ay ?_;have hci:=R2 hp;have gc:=T.content hp hn (by omega);have gd:=W.div p.k (AQ (Db p:Int)) (hp.k.mono (by omega)) (hci.lz.mono (by omega));rw[Bm,Ad (by omega)]at gd;have gh:=T.shrink hp hn (by omega);simp only[eT,eN]at gc gh
  cases eq with
  |false=>
   rw[Ad (by decide)];refine Ah ?_;refine Aa gh ?_;rfl
  |true=>
   rw[Ac rfl];refine BR ?_;refine Aa gc ?_;simp only[eZ,eN,CC,Bz,Cn,BG,B6,DD,Br,AZ,DK];refine Aa gd ?_;simp only[eZ,eN,CC,Bz,Cn,BG,B6,DD,Br,AZ,DK];have hri:InB 300000001 (rZ (zv p.k) (Db p:Int)):=by
    unfold rZ;split
    .exact((MP hci (by omega) _ _).mono (by omega)).add (hci.mono (by omega))
    .exact(MP hci (by omega) _ _).mono (by omega)
   have gr:=Z.sign (AQ (rZ (zv p.k) (Db p:Int))) (hri.lz.mono (by omega));rw[Bm]at gr;refine Aa gr ?_;simp only[Dj,AZ,DK]
   by_cases hr:rZ (zv p.k) (Db p:Int)=0
   .rw[Ac hr]
    refine AG ?_ ((M0 _).2 hr);refine Aa gh ?_;have hst:=W7 hp (show 1<=k+n by omega);have hne:(FL p).ps≠[]:=by
     unfold FL;rw[Ad hc];intro h1;have h2:BB p.lf.ps=[]:=Azg.1 h1;apply hc;unfold Db;rw[h2];rfl
    have gsc:=T.neg hst hn (by omega);revert gsc hne;have hq1:∀ q∈(FL p).ps,Lz 1000000000 q.z:=λq hq=>(hst.ps q hq).mono (by omega)
    revert hq1;generalize FL p=S;obtain⟨sp,sk⟩:=S
    cases sp with
    |nil=>intro _ h;exact absurd rfl h
    |cons q sp=>
     intro hq1 _ gsc;have gq:=Z.sign q.z (hq1 q (Awi ..));simp only[eZ,eN,CC,Bz,Cn,BG,B6,DD,Br,AZ,DK];rw[Az (show (q::sp)[0]? = Θ q from rfl)];simp only[eP,eN,CC,Bz,Cn,BG,B6,DD,Br,AZ,DK];refine Aa gq ?_;simp only[Dj,AZ,DK]
     show _=Θ (Awe [.agg (JQ (if zv q.z<0 then _ else _,Δ)),iv 0],[])
     by_cases hs:zv q.z<0
     .rw[Ac hs]
      refine AB ?_ ((YV _).2 hs);refine Aa gsc ?_;rfl
     .rw[Ad hs]
      exact Da (λh=>hs ((YV _).1 h))
   .rw[Ad hr]
    refine Ay ?_ (λh=>hr ((M0 _).1 h));refine Aa k0 ?_;rfl
end
section
variable {D:Orc} {M:Nat} (Kt:Knows Au Ge D) (Kf:Knows Au Ls D) (Ks:SrtF D M) (Z:ZF D) (C:PartF D) (Kc:Knows Au Y2 D) (W:ZdF D)
include Kt Kf Ks Z C Kc W
theorem ApB(hs:∀{n k:Nat} {t:Tm},TmB n k t->n<=M->k+n<=300000000->D.ask (.fn 65) [.agg (eT t)] []=Θ (.tup [.agg (eT (FL t)),.agg (eZ (AQ (Db t:Int)))],[])):TiF D M where
 le:=Ks.le
 plain h hn hk:=E6 Kt Ks Z C h hn (by omega)
 content {n k t} h hn hk:=by
  have hM:=Ks.le;have hp:=E6 Kt Ks Z C h hn (by omega);have hl:=GR t.lf.ps;have hl2:=h.lb.len;have hb:=h.lb.pln.ps;refine VV Kc W (l:=BB t.lf.ps) (k:=t.lf.pln.tm.k) ?_ (by omega) (λp hp=>(hb p hp).mono (by omega));rw[hp]
  show Θ (δ [.ls (((BB t.lf.ps).map Bg).map eP),_,_],[])=_
  rw[AxE];rfl
 shrink h hn hk:=hs h hn hk
 neg h hn hk:=SG Kt Kf Ks Z C h hn (by omega)
end
section
open Go.RowKit
def Nm:List (Nat × Nat):=[(67,0),(62,0),(135,0),(136,0),(196,0),(234,0),(235,0),(265,0),(275,0),(140,0),(199,0)]
def UH:MFn:=NB Av9 B4 [⟨74,(mB 917524),[(1000004,3)],[2,17],[(1,((mB 20),([],[1000000])))]⟩] Δ Φ 62
def OP:Hnt:=⟨[(135,(.sl 0 3,[.row Δ])),(136,(.tup [],[.row Δ])),(138,(.agg AL,[])),(139,(.agg AL,[])),(140,(.sl 0 3,[.row Δ]))],[(0,[(1,([.ptr 0 0,.ptr 1 0],[.box BJ,.box [.sl 3 3,.bool,.ls],.del,.row Δ]))])],[(9,[.ls]),(14,AL),(21,Cj),(22,Cj),(24,[.int .i64]),(27,[.ls]),(34,[.ls]),(36,Cj),(38,[.int .i64]),(40,[.int .i64]),(44,[.ls]),(47,[.ls]),(49,Cj),(51,AL),(53,AL),(55,Cj),(58,[.ls]),(60,[.int .i64]),(62,AL),(70,[.ls]),(73,BJ)]⟩
def AcL:Hnt:=⟨[(135,(.sl 1 3,[.keep,.row Δ])),(136,(.tup [],[.row Δ])),(138,(.agg AL,[])),(139,(.agg AL,[])),(140,(.sl 0 3,[.row Δ]))],[(0,[(1,([.ptr 0 0,.ptr 1 0],[.box BJ,.box [.sl 3 3,.bool,.ls],.del,.row Δ]))])],[(9,[.ls]),(14,AL),(21,Cj),(22,Cj),(24,[.int .i64]),(27,[.ls]),(34,[.ls]),(36,Cj),(38,[.int .i64]),(40,[.int .i64]),(44,[.ls]),(47,[.ls]),(49,Cj),(51,AL),(53,AL),(55,Cj),(58,[.ls]),(60,[.int .i64]),(62,AL),(70,[.ls]),(73,BJ)]⟩
def YC:MFn:=AN [⟨21,(mB 3596),[],[2,3,9],[(1,((mB 12),([],[1000000])))]⟩] 67
def OQ:Hnt:=⟨[(62,(.agg [.sl 1 3,.bool,.ls],[.keep,.row Δ])),(147,(.agg AL,[]))],[(0,[(1,([.ptr 0 0,.ptr 1 0],[.box AL,.box AL]))])],[(7,BJ),(13,Cj),(14,Cj),(15,AL),(17,AL),(20,AL)]⟩
def YB:MFn:=AN [⟨49,(mB 1835068),[],[2,3,5],[(1,((mB 60),([],[])))]⟩] 65
def Ut:Hnt:=⟨[(62,(.agg [.sl 0 3,.bool,.ls],[.row Δ])),(64,(.int .i64,[])),(66,(.tup [.agg AL,.agg AL,.int .i64],[])),(67,(.agg AL,[.keep])),(143,(.tup [.agg AL,.int .i64],[]))],[(0,[(1,([.ptr 0 0,.ptr 1 0,.ptr 2 0,.ptr 3 0],[.box BJ,.box AL,.box [.sl 5 3,.bool,.ls],.box AL,.del,.row Δ]))])],[(8,BJ),(10,BJ),(12,AL),(15,BJ),(16,AL),(18,[.ls]),(23,Cj),(24,Cj),(27,[.ls]),(30,AL),(31,AL),(35,Cj),(40,AL),(41,AL),(47,BJ),(48,AL)]⟩
def Vl:List (Nat × MFn):=[(62,UH),(67,YC),(65,YB)]
variable (A:Ar) (D:Orc)
theorem Aqh(x0:Rw)(x1:Bool)(x2:Rw):B3 A D Nm OP .n 62 UH [δ [Ψ x0,bv x1,Ψ x2]] [] =
 Ai D (φ 135) [Ψ x0] [] [.q 0 3,.R,.X,.E] λn cs=>
 Ai D (φ 136) [υ 0 0 n 3,Aw9 (Fn.func 137) [] []] [θ cs Δ Δ] [.t,.N,.R,.X,.E] λcs2=>
 Ai D (φ 138) [δ [bv x1,Ψ x2]] [] [.a,.B,.L,.N,.E] λb xs=>
 br ((0+n*3).ble cs2.length) (AW D (Awa 62 0) [χ 0 0,χ 1 0,Ψ (Bo n 3 (κ (n*3) cs2)),iv ↑n,iv 0] [bk [Ψ [],bv Φ,Ψ []],bk [υ 2 0 0 3,bv b,Ψ xs],θ [] Δ Δ] λr3 o3=>
 dk [.t,.C,.x,.X] [.v r3] λc2 l4=>
 br (BA 1 c2)
 (dk [.P 0 0,.P 1 0,.N,.T,.L,.B,.L,.N,.T,.C,.q 3 3,.B,.L,.N,.D,.R,.X,.E] [.l l4,.o o3] λ_ _ _ n1 b2 xs3 cs7=>
 Ai D (φ 140) [υ 0 0 n1 3,Aw9 (Fn.func 141) [] []] [θ cs7 Δ Δ] [.q 0 3,.R,.X,.E] λn2 cs8=>
 Θ ((δ [υ 0 0 n2 3,bv b2,Ψ xs3],[Awn (θ cs8 Δ Δ)])))
 (Ξ)) Ξ:=by kernel_rfl
theorem XP(r0:Rw)(r1:Bool)(r2:Rw)(n4:Nat)(k1:Bool)(k2:Rw)(c4:Ab)(t17:Rw)(t18 t19:Int):Dc A D Nm OP .n 62 0 (A1 UH 0).fst (A1 UH 0).snd [χ 0 0,χ 1 0,Ψ t17,iv t18,iv t19] [bk [Ψ r0,bv r1,Ψ r2],bk [υ 2 0 n4 3,bv k1,Ψ k2],{ cells:=c4,st:=Δ,ex:=Δ }] =
 br (A.lt t19 t18)
 (unI t19 λi=>
 Bw t17 i λcs=>
 dk [.I,.B,.L,.N] [.l cs] λn b xs=>
 br (A.lt n 0)
 (AW D (Awa 62 0) [χ 0 0,χ 1 0,Ψ t17,iv t18,iv (A.add ω t19 1)] [bk [Ψ r0,bv r1,Ψ r2],bk [υ 2 0 n4 3,bv k1,Ψ k2],θ c4 Δ Δ] λr o=>
 AS 3 [0,1,2] (AH.mk [(0,bk [Ψ r0,bv r1,Ψ r2]),(3,bk [iv n,bv b,Ψ xs]),(1,bk [υ 2 0 n4 3,bv k1,Ψ k2]),(2,θ c4 Δ Δ)] 4 Ξ) [0] r o)
 (br (A.le 0 (A.sub ω (↑n4) 1))
 (unI (A.sub ω (↑n4) 1) λi1=>
 br (i1.blt n4) (Ia c4 (0+i1*3+0) 1 λcs1=>
 dk [.I,.N] [.l cs1] λn1=>
 br (A.eq n1 n)
 (unI (A.sub ω (↑n4) 1) λi2=>
 br (i2.blt n4) (Ia c4 (0+i2*3+1) 2 λcs2=>
 dk [.B,.L,.N] [.l cs2] λb1 xs1=>
 Ai D (φ 139) [δ [bv b1,Ψ xs1],δ [bv b,Ψ xs]] [] [.a,.B,.L,.N,.E] λb2 xs2=>
 unI (A.sub ω (↑n4) 1) λi3=>
 br (i3.blt n4) (br ((0+i3*3+1+2).ble c4.length) (AW D (Awa 62 0) [χ 0 0,χ 1 0,Ψ t17,iv t18,iv (A.add ω t19 1)] [bk [Ψ r0,bv r1,Ψ r2],bk [υ 2 0 n4 3,bv k1,Ψ k2],θ (Bp c4 (0+i3*3+1) [bv b2,Ψ xs2]) Δ Δ] λr3 o1=>
 AS 3 [0,1,2] (AH.mk [(0,bk [Ψ r0,bv r1,Ψ r2]),(2,θ (Bp c4 (0+i3*3+1) [bv b2,Ψ xs2]) Δ Δ),(3,bk [iv n,bv b,Ψ xs]),(1,bk [υ 2 0 n4 3,bv k1,Ψ k2])] 4 Ξ) [2,0] r3 o1) Ξ) Ξ) Ξ)
 (Ai D (φ 138) [δ [bv b,Ψ xs]] [] [.a,.B,.L,.N,.E] λb1 xs1=>
 br (Ba (n4+1) 40) (br ((0+n4*3).ble c4.length) (AW D (Awa 62 0) [χ 0 0,χ 1 0,Ψ t17,iv t18,iv (A.add ω t19 1)] [bk [Ψ r0,bv r1,Ψ r2],bk [υ 2 0 (n4+1) 3,bv k1,Ψ k2],θ (Av8 0 (κ (0+n4*3) c4)++[iv n,bv b1,Ψ xs1]) Δ Δ] λr3 o1=>
 AS 3 [0,1,5] (AH.mk [(0,bk [Ψ r0,bv r1,Ψ r2]),(1,bk [υ 5 0 (n4+1) 3,bv k1,Ψ k2]),(5,θ (Av8 0 (κ (0+n4*3) c4)++[iv n,bv b1,Ψ xs1]) Δ Δ),(4,θ [iv n,bv b1,Ψ xs1] Δ Δ),(3,bk [iv n,bv b,Ψ xs])] 6 Ξ) [2,1,0] r3 o1) Ξ) Ξ)) Ξ)
 (Ai D (φ 138) [δ [bv b,Ψ xs]] [] [.a,.B,.L,.N,.E] λb1 xs1=>
 br (Ba (n4+1) 40) (br ((0+n4*3).ble c4.length) (AW D (Awa 62 0) [χ 0 0,χ 1 0,Ψ t17,iv t18,iv (A.add ω t19 1)] [bk [Ψ r0,bv r1,Ψ r2],bk [υ 2 0 (n4+1) 3,bv k1,Ψ k2],θ (Av8 0 (κ (0+n4*3) c4)++[iv n,bv b1,Ψ xs1]) Δ Δ] λr3 o1=>
 AS 3 [0,1,5] (AH.mk [(0,bk [Ψ r0,bv r1,Ψ r2]),(1,bk [υ 5 0 (n4+1) 3,bv k1,Ψ k2]),(5,θ (Av8 0 (κ (0+n4*3) c4)++[iv n,bv b1,Ψ xs1]) Δ Δ),(4,θ [iv n,bv b1,Ψ xs1] Δ Δ),(3,bk [iv n,bv b,Ψ xs])] 6 Ξ) [2,1,0] r3 o1) Ξ) Ξ)))
 (Θ ((Awe [iv 0,χ 0 0,χ 1 0],[Awn (bk [Ψ r0,bv r1,Ψ r2]),Awn (bk [υ 3 0 n4 3,bv k1,Ψ k2]),BO.del,Awn (θ c4 Δ Δ)]))):=by kernel_rfl
theorem Aqi(n0:Nat)(c0:Ab)(x1:Bool)(x2:Rw):B3 A D Nm AcL .n 62 UH [δ [υ 0 0 n0 3,bv x1,Ψ x2]] [{ cells:=c0,st:=Δ,ex:=Δ }] =
 Ai D (φ 135) [υ 0 0 n0 3] [θ c0 Δ Δ] [.q 1 3,.K,.R,.X,.E] λn cs=>
 Ai D (φ 136) [υ 0 0 n 3,Aw9 (Fn.func 137) [] []] [θ cs Δ Δ] [.t,.N,.R,.X,.E] λcs2=>
 Ai D (φ 138) [δ [bv x1,Ψ x2]] [] [.a,.B,.L,.N,.E] λb xs=>
 br ((0+n*3).ble cs2.length) (AW D (Awa 62 0) [χ 0 0,χ 1 0,Ψ (Bo n 3 (κ (n*3) cs2)),iv ↑n,iv 0] [bk [Ψ [],bv Φ,Ψ []],bk [υ 2 0 0 3,bv b,Ψ xs],θ [] Δ Δ] λr3 o3=>
 dk [.t,.C,.x,.X] [.v r3] λc3 l5=>
 br (BA 1 c3)
 (dk [.P 0 0,.P 1 0,.N,.T,.L,.B,.L,.N,.T,.C,.q 3 3,.B,.L,.N,.D,.R,.X,.E] [.l l5,.o o3] λ_ _ _ n1 b2 xs3 cs7=>
 Ai D (φ 140) [υ 0 0 n1 3,Aw9 (Fn.func 141) [] []] [θ cs7 Δ Δ] [.q 0 3,.R,.X,.E] λn2 cs8=>
 Θ ((δ [υ 1 0 n2 3,bv b2,Ψ xs3],[BO.keep,Awn (θ cs8 Δ Δ)])))
 (Ξ)) Ξ:=by kernel_rfl
theorem Aqj(n0:Nat)(c0:Ab)(x1:Bool)(x2:Rw):B3 A D Nm OQ .n 67 YC [δ [υ 0 0 n0 3,bv x1,Ψ x2]] [{ cells:=c0,st:=Δ,ex:=Δ }] =
 Ai D (φ 62) [δ [υ 0 0 n0 3,bv x1,Ψ x2]] [θ c0 Δ Δ] [.a,.C,.q 1 3,.B,.L,.N,.K,.R,.X,.E] λn _ _ cs1=>
 br ((0+n*3).ble cs1.length) (AW D (Awa 67 0) [χ 0 0,χ 1 0,Ψ (Bo n 3 (κ (n*3) cs1)),iv ↑n,iv 0] [bk [bv Φ,Ψ []],bk [bv Φ,Ψ []]] λr1 o1=>
 dk [.t,.C,.x,.X] [.v r1] λc3 l5=>
 br (BA 1 c3)
 (dk [.P 0 0,.P 1 0,.N,.T,.B,.L,.N,.T,.B,.L,.N,.E] [.l l5,.o o1] λ_ _ b2 xs2=>
 Θ ((δ [bv b2,Ψ xs2],[BO.keep])))
 (Ξ)) Ξ:=by kernel_rfl
theorem XQ(b2_0:Bool)(b2_1:Rw)(b3_0:Bool)(b3_1 t9:Rw)(t10 t11:Int):Dc A D Nm OQ .n 67 0 (A1 YC 0).fst (A1 YC 0).snd [χ 0 0,χ 1 0,Ψ t9,iv t10,iv t11] [bk [bv b2_0,Ψ b2_1],bk [bv b3_0,Ψ b3_1]] =
 br (A.lt t11 t10)
 (unI t11 λi=>
 Bw t9 i λcs=>
 dk [.I,.B,.L,.N] [.l cs] λn b xs=>
 Ai D (φ 147) [δ [bv b3_0,Ψ b3_1],δ [bv b,Ψ xs]] [] [.a,.B,.L,.N,.E] λb1 xs1=>
 AW D (Awa 67 0) [χ 0 0,χ 1 0,Ψ t9,iv t10,iv (A.add ω t11 1)] [bk [bv b2_0,Ψ b2_1],bk [bv b1,Ψ xs1]] λr1 o1=>
 AS 2 [0,1] (AH.mk [(1,bk [bv b1,Ψ xs1]),(0,bk [bv b2_0,Ψ b2_1]),(2,bk [iv n,bv b,Ψ xs])] 3 Ξ) [0,1] r1 o1)
 (Θ ((Awe [iv 0,χ 0 0,χ 1 0],[Awn (bk [bv b2_0,Ψ b2_1]),Awn (bk [bv b3_0,Ψ b3_1])]))):=by kernel_rfl
theorem AtY(x0_0:Rw)(x0_1:Bool)(x0_2:Rw):B3 A D Nm Ut .n 65 YB [δ [Ψ x0_0,bv x0_1,Ψ x0_2]] [] =
 Ai D (φ 62) [δ [Ψ x0_0,bv x0_1,Ψ x0_2]] [] [.a,.C,.q 0 3,.B,.L,.N,.R,.X,.E] λn b xs cs1=>
 Ai D (φ 67) [δ [υ 0 0 n 3,bv b,Ψ xs]] [θ cs1 Δ Δ] [.a,.B,.L,.N,.K,.E] λb1 xs1=>
 Ai D (φ 64) [δ [bv b1,Ψ xs1]] [] [.i,.E] λn1=>
 br (A.eq n1 0)
 (br ((0+n*3).ble cs1.length) (Θ ((Awe [δ [Ψ (Bo n 3 (κ (n*3) cs1)),bv b,Ψ xs],δ [bv b1,Ψ xs1]],[]))) Ξ)
 (Ai D (Awa 65 0) [χ 0 0,χ 1 0,χ 2 0,χ 3 0,υ 4 0 n 3,iv ↑n,iv 0] [bk [Ψ [],bv Φ,Ψ []],bk [bv Φ,Ψ []],bk [υ 4 0 n 3,bv b,Ψ xs],bk [bv b1,Ψ xs1],θ cs1 Δ Δ] [.t,.C,.x,.X,.Y] λc3 l7 o3=>
 br (BA 1 c3)
 (dk [.P 0 0,.P 1 0,.P 2 0,.P 3 0,.N,.T,.L,.B,.L,.N,.T,.B,.L,.N,.T,.C,.q 5 3,.B,.L,.N,.T,.B,.L,.N,.D,.R,.X,.E] [.l l7,.o o3] λ_ _ _ _ _ n2 b4 xs5 b5 xs6 cs8=>
 Ai D (φ 66) [δ [bv b4,Ψ xs5],δ [bv b5,Ψ xs6]] [] [.t,.A,.B,.L,.N,.A,.B,.L,.N,.I,.N,.E] λb6 xs7 _ _ _=>
 br ((0+n2*3).ble cs8.length) (Θ ((Awe [δ [Ψ (Bo n2 3 (κ (n2*3) cs8)),bv b6,Ψ xs7],δ [bv b5,Ψ xs6]],[]))) Ξ)
 (Ξ)):=by kernel_rfl
theorem Ab9(r0:Rw)(r1:Bool)(r2:Rw)(i0:Bool)(i1:Rw)(j0:Bool)(j1:Rw)(n0:Nat)(k1:Bool)(k2:Rw)(c0:Ab)(t19 t20:Int):Dc A D Nm Ut .n 65 0 (A1 YB 0).fst (A1 YB 0).snd [χ 0 0,χ 1 0,χ 2 0,χ 3 0,υ 4 0 n0 3,iv t19,iv t20] [bk [Ψ r0,bv r1,Ψ r2],bk [bv i0,Ψ i1],bk [υ 4 0 n0 3,bv k1,Ψ k2],bk [bv j0,Ψ j1],{ cells:=c0,st:=Δ,ex:=Δ }] =
 br (A.lt t20 t19)
 (unI t20 λi=>
 br (i.blt n0) (Ia c0 (0+i*3) 3 λcs=>
 dk [.I,.B,.L,.N] [.l cs] λn b xs=>
 Ai D (φ 143) [δ [bv b,Ψ xs],δ [bv j0,Ψ j1]] [] [.t,.A,.B,.L,.N,.I,.N,.E] λb1 xs1 _=>
 unI t20 λi2=>
 br (i2.blt n0) (br ((0+i2*3+1+2).ble c0.length) (AW D (Awa 65 0) [χ 0 0,χ 1 0,χ 2 0,χ 3 0,υ 4 0 n0 3,iv t19,iv (A.add ω t20 1)] [bk [Ψ r0,bv r1,Ψ r2],bk [bv i0,Ψ i1],bk [υ 4 0 n0 3,bv k1,Ψ k2],bk [bv j0,Ψ j1],θ (Bp c0 (0+i2*3+1) [bv b1,Ψ xs1]) Δ Δ] λr3 o1=>
 AS 5 [0,1,2,3,4] (AH.mk [(3,bk [bv j0,Ψ j1]),(1,bk [bv i0,Ψ i1]),(0,bk [Ψ r0,bv r1,Ψ r2]),(4,θ (Bp c0 (0+i2*3+1) [bv b1,Ψ xs1]) Δ Δ),(5,bk [iv n,bv b,Ψ xs]),(2,bk [υ 4 0 n0 3,bv k1,Ψ k2])] 6 Ξ) [4,0,1,3] r3 o1) Ξ) Ξ) Ξ)
 (Θ ((Awe [iv 0,χ 0 0,χ 1 0,χ 2 0,χ 3 0],[Awn (bk [Ψ r0,bv r1,Ψ r2]),Awn (bk [bv i0,Ψ i1]),Awn (bk [υ 5 0 n0 3,bv k1,Ψ k2]),Awn (bk [bv j0,Ψ j1]),BO.del,Awn (θ c0 Δ Δ)]))):=by kernel_rfl
end
theorem rdW(A:List Pt)(x:Pt)(tl:Ab)(k:Ab->KR):Ia (Ao eP A++(eP x++tl)) (0+A.length*3) 3 k=k (eP x):=by
 have hl:=BC AU A;unfold Ia;rw[show Awf (0+A.length*3+3) (Ao eP A++(eP x++tl)).length=Δ by simp[hl,AU],Awt,←hl,List.drop_left' rfl];rfl
theorem spW(A:List Pt)(x y:Pt)(tl:Ab):Bp (Ao eP A++(eP x++tl)) (0+A.length*3+1) [bv y.z.neg,eN y.z.abs]=Ao eP A++(eP ⟨x.v,y.z⟩++tl):=by
 have hl:=BC AU A;unfold Bp;rw[Awt,←hl,List.take_append,List.drop_append];simp[eP,List.take_of_length_le,Awb,Nat.add_sub_cancel_left,Nat.add_assoc]
section
variable {D:Orc} (Ks:Knows Nm Vl D) (W:ZdF D)
include Ks W
theorem Apt(g:Int)(hg:InB 300000000 g)(hg0:g≠0)(r0:Rw)(r1:Bool)(r2:Rw)(i0:Bool)(i1:Rw)(k1:Bool)(k2:Rw)(n:Nat)(hn:n<=4000000)(tl:Ab):∀(r:List (Int × Int)) (A:List Pt),A.length+r.length=n->(∀ p∈r,InB 300000000 p.2/\g ∣ p.2)->
  D.ask (.lp 65 0) [.ptr 0 0,.ptr 1 0,.ptr 2 0,.ptr 3 0,.sl 4 0 n 3,iv (n:Int),iv (A.length:Int)] [bk [.ls r0,bv r1,.ls r2],bk [bv i0,.ls i1],bk [.sl 4 0 n 3,bv k1,.ls k2],bk (eZ (AQ g)),θ (Ao eP A++(Ao eP (r.map Bg)++tl)) Δ Δ]
   = Θ (.tup [iv 0,.ptr 0 0,.ptr 1 0,.ptr 2 0,.ptr 3 0],[.set (bk [.ls r0,bv r1,.ls r2]),.set (bk [bv i0,.ls i1]),.set (bk [.sl 5 0 n 3,bv k1,.ls k2]),.set (bk (eZ (AQ g))),.del,.set (θ (Ao eP A++(Ao eP (r.map (Jl g))++tl)) Δ Δ)]):=by
 intro r
 induction r with
 |nil=>
  intro A hA _;refine AE Ks Ut (Ab9 ..) ?_;rw[List.length_nil]at hA;exact AA rfl
 |cons p r ih=>
  intro A hA hr;rw[γ]at hA;obtain⟨hp,hd⟩:=hr p (Awi ..);obtain⟨d1,d2⟩:=Aph hd hg0;have ge:=W.exact (AQ p.2) (AQ g) (hp.lz.mono (by omega)) (hg.lz.mono (by omega));rw[Bm,Bm,Ad hg0,Ac d1]at ge;have ih:=ih (A++[Jl g p]) (by simp;omega) (λq hq=>hr q (Awk _ hq));have e1:∀(x:Pt) (t:Ab),Ao eP (A++[x])++t=Ao eP A++(eP x++t):=λx t=>by
   rw[←Bc eP A x,Awd]
  rw[e1,e1,ε,Awp]at ih;have e2:∀(f:Int × Int->Pt) (t:Ab),Ao eP ((p::r).map f)++t=eP (f p)++(Ao eP (r.map f)++t):=λf t=>by
   unfold Ao;rw[Awq,List.flatMap_cons,Awd]
  rw[e2,e2];have hrd:=rdW A (Bg p) (Ao eP (r.map Bg)++tl);have hsp:=spW A (Bg p) (Jl g p) (Ao eP (r.map Bg)++tl);have hlen:Awf (0+A.length*3+1+2) (Ao eP A++(eP (Bg p)++(Ao eP (r.map Bg)++tl))).length=Δ:=by
   rw[ε,ε,BC AU,AU];simp;omega
  have hx:(⟨(Bg p).v,(Jl g p).z⟩:Pt)=Jl g p:=rfl;have hz:([bv (Jl g p).z.neg,eN (Jl g p).z.abs]:Ab)=[bv (AQ (qZ p.2 g)).neg,eN (AQ (qZ p.2 g)).abs]:=rfl;rw[hx,hz]at hsp;generalize Ao eP A++(eP (Bg p)++(Ao eP (r.map Bg)++tl))=cs at *;refine AE Ks Ut (Ab9 ..) ?_;refine AB ?_;rw[AI,show Nat.blt A.length n=Δ from B1 (by omega)];refine Ah ?_;refine(hrd _).trans ?_;simp only[eP,Bg,eN,DD,BG,B6,Br,DK];refine Aa ge ?_;simp only[eZ,eN,CC,Bz,Cn,BG,B6,DD,Br,AZ,DK];rw[AI,show Nat.blt A.length n=Δ from B1 (by omega),hlen];refine Ah ?_;refine Ah ?_;simp only[eN]at hsp;rw[hsp,BU (by omega)];refine Aa ih ?_;rfl
theorem AfE(l:List (Int × Int))(hlen:l.length<=4000000)(hl:∀ p∈l,InB 800000000 p.2):∀(m i g:Nat),l.length-i=m->i<=l.length->InB 800000000 (g:Int)->
  D.ask (.lp 67 0) [.ptr 0 0,.ptr 1 0,.ls (l.map λp=>eP (Bg p)),iv (l.length:Int),iv (i:Int)] [bk [bv Φ,.ls []],bk (eZ (AQ (g:Int)))]
   = Θ (.tup [iv 0,.ptr 0 0,.ptr 1 0],[.set (bk [bv Φ,.ls []]),.set (bk (eZ (AQ (P4 g (l.drop i):Int))))]):=by
 intro m
 induction m with
 |zero=>
  intro i g hm hi hg;rw[Awb (by omega)];refine AE Ks OQ (XQ ..) ?_;exact AA rfl
 |succ m ih=>
  intro i g hm hi hg;have h1:i<l.length:=by omega
  have hx:=hl _ (Aws h1);rw[η h1];have ga:=W.gcd (AQ (g:Int)) (AQ l[i].2) (hg.lz.mono (by omega)) (hx.lz.mono (by omega));rw[Bm,Bm,Ayh]at ga;have ih1:=ih (i+1) (AxG g l[i].2.natAbs) (by omega) (by omega) (Nw hg hx);refine AE Ks OQ (XQ ..) ?_;refine AB ?_;rw[AI,Az (f:=λp=>eP (Bg p)) (ξ h1)];simp only[eP,Bg,eN,Aj];refine Aa ga ?_;simp only[eZ,eN,Aj];rw[BU (by omega)];refine Aa ih1 ?_;rfl
theorem TH{l:List (Int × Int)}{cs:Ab}{b:Bool}{xs:Rw}{tl:Ab}{b2:Bool}{xs2:Rw}(hp:D.ask (.fn 62) [.agg [.sl 0 0 l.length 3,bv b,.ls xs]] [θ cs Δ Δ]=Θ (.agg [.sl 1 0 l.length 3,bv b2,.ls xs2],[.keep,.set (θ (Ao eP (l.map Bg)++tl) Δ Δ)]))(hlen:l.length<=4000000)(hl:∀ p∈l,InB 800000000 p.2) :
  D.ask (.fn 67) [.agg [.sl 0 0 l.length 3,bv b,.ls xs]] [θ cs Δ Δ]=Θ (.agg (eZ (AQ (P4 0 l:Int))),[.keep]):=by
 have g:=AfE Ks W l hlen hl _ 0 0 rfl (by omega) (InB.zero _);rw[ο,show AQ ((0:Nat):Int)=⟨Φ,[]⟩ from PS,show eZ ⟨Φ,[]⟩=[bv Φ,.ls []] from rfl]at g;have hll:(Ao eP (l.map Bg)).length=l.length*3:=by rw[BC AU,Awm]
 refine AC Ks OQ (Aqj ..) ?_;refine Aa hp ?_;simp only[eZ,eN,Aj];rw[show Awf (0+l.length*3) (Ao eP (l.map Bg)++tl).length=Δ by rw[ε,hll];simp];refine Ah ?_;rw[←hll,Ax0 rfl,show Bo l.length 3 (Ao eP (l.map Bg))=l.map λp=>eP (Bg p) by
  have:=CZ AU (l.map Bg);rw[Awm,AxE]at this;exact this]
 refine Aa g ?_;rfl
theorem Aay{n k:Nat}{t:Tm}(ht:TmB n k t)(hn:n<=1000000)(hk:k+n<=300000000)(hs:∀ z:Zi,Lz 1000000000 z->D.ask (.fn 64) [.agg (eZ z)] []=Θ (iv (Cb (zv z)),[])){tl tl':Ab}{b2:Bool}{xs2:Rw}
  (hPn:D.ask (.fn 62) [.agg (eT t)] []=Θ (.agg [.sl 0 0 (BB t.lf.ps).length 3,bv (AQ (zv t.k)).neg,eN (AQ (zv t.k)).abs],[.set (θ (Ao eP ((BB t.lf.ps).map Bg)++tl) Δ Δ)]))
  (hPo:D.ask (.fn 62) [.agg [.sl 0 0 (BB t.lf.ps).length 3,bv (AQ (zv t.k)).neg,.ls ((AQ (zv t.k)).abs.map eL)]] [θ (Ao eP ((BB t.lf.ps).map Bg)++tl) Δ Δ]=Θ (.agg [.sl 1 0 (BB t.lf.ps).length 3,bv b2,.ls xs2],[.keep,.set (θ (Ao eP ((BB t.lf.ps).map Bg)++tl') Δ Δ)])) :
  D.ask (.fn 65) [.agg (eT t)] []=Θ (.tup [.agg (eT (FL t)),.agg (eZ (AQ (Db t:Int)))],[]):=by
 have hll:=GR t.lf.ps;have hl2:=ht.lb.len;have hci:=R2 ht;have hlI:∀ p∈BB t.lf.ps,InB 300000000 p.2:=λp hp=>by
  rw[←D7]at hp;obtain⟨v,_,rfl⟩:=AwV.1 hp;exact(Mx ht v).mono hk
 have gc:=TH Ks W (l:=BB t.lf.ps) hPo (by omega) (λp hp=>(hlI p hp).mono (by omega));have hki:InB 300000000 (zv t.k):=ht.k.inb.mono (by omega);have gs:=hs (AQ (Db t:Int)) (hci.lz.mono (by omega));rw[Bm]at gs;have hch:∀(f:Int × Int->Pt) (tl:Ab),Bo (BB t.lf.ps).length 3 (κ ((BB t.lf.ps).length*3) (Ao eP ((BB t.lf.ps).map f)++tl))=((BB t.lf.ps).map f).map eP:=λf tl=>by
  have h:(Ao eP ((BB t.lf.ps).map f)).length=(BB t.lf.ps).length*3:=by rw[BC AU,Awm]
  have:=CZ AU ((BB t.lf.ps).map f);rw[Awm]at this;rw[←h,Ax0 rfl,this]
 have hbl:∀(f:Int × Int->Pt) (tl:Ab),Awf (0+(BB t.lf.ps).length*3) (Ao eP ((BB t.lf.ps).map f)++tl).length=Δ:=λf tl=>by
  rw[ε,BC AU,Awm];simp
 refine AC Ks Ut (AtY ..) ?_;refine Aa hPn ?_;simp only[eN,Aj];refine Aa gc ?_;rw[show P4 0 (BB t.lf.ps)=Db t from rfl];simp only[eZ,eN,CC,Bz,Cn,BG,B6,DD,Br,AZ,PK,M8,DK];refine Aa gs ?_;simp only[Dj,AZ,DK];rw[hbl,hch];unfold FL
 by_cases h0:Db t=0
 .rw[Ac h0,h0]
  refine AG ?_ (by decide);refine Ah ?_;rfl
 .rw[Ad h0]
  refine Ay ?_ (by unfold Cb;rw[Ad (by omega),Ac (by omega)];decide);have hdv:∀ p∈BB t.lf.ps,InB 300000000 p.2/\(Db t:Int) ∣ p.2:=λp hp=>⟨hlI p hp,Int.natAbs_dvd_natAbs.1 (by rw[Ayh];exact(Ou (BB t.lf.ps) 0).2 p hp)⟩
  have g:=Apt Ks W (Db t:Int) (hci.mono (by omega)) (by omega) [] Φ [] Φ [] (AQ (zv t.k)).neg ((AQ (zv t.k)).abs.map eL) (BB t.lf.ps).length (by omega) tl (BB t.lf.ps) [] (by simp) hdv;rw[show Ao eP ([]:List Pt)=[] from rfl,Awv,Awv]at g;have gk:=W.div (AQ (zv t.k)) (AQ (Db t:Int)) (hki.lz.mono (by omega)) (hci.lz.mono (by omega));rw[Bm,Bm,Ad (by omega)]at gk;refine Aa g ?_;simp only[eZ,eN,Aj];refine Aa gk ?_;simp only[eZ,eN,CC,Bz,Cn,BG,B6,DD,Br,AZ,DK];rw[hbl,hch];refine Ah ?_;rfl
end
section
variable {D:Orc} (Kt:Knows Nm Vl D) (Z:ZF D) (hcp:∀{z:Zi},Lz 1000000000 z->D.ask (.fn 138) [.agg (eZ z)] []=Θ (.agg (eZ (AQ (zv z))),[]))
include Z
include Kt hcp in
theorem Q8{k:Nat}(ps:List Pt)(hl:ps.length<=1000000)(hk:k+ps.length<=900000000)(hz:∀ p∈ps,Lz k p.z)(r0:Rw)(r1:Bool)(r2:Rw)(k1:Bool)(k2:Rw):∀(m i:Nat) (s:List (Int × Int)),ps.length-i=m->i<=ps.length->s.length<=i->(∀ q∈s,InB (k+i) q.2)->
  D.ask (.lp 62 0) [.ptr 0 0,.ptr 1 0,.ls (ps.map eP),iv (ps.length:Int),iv (i:Int)] [⟨[.ls r0,bv r1,.ls r2],Δ,Φ⟩,⟨[.sl 2 0 (s.map Bg).reverse.length 3,bv k1,.ls k2],Δ,Φ⟩,Ky (s.map Bg).reverse]
   = Θ (.tup [iv 0,.ptr 0 0,.ptr 1 0],[.set ⟨[.ls r0,bv r1,.ls r2],Δ,Φ⟩,.set ⟨[.sl 3 0 ((((ps.drop i).map pv).foldl Do s).map Bg).reverse.length 3,bv k1,.ls k2],Δ,Φ⟩,.del,.set (Ky ((((ps.drop i).map pv).foldl Do s).map Bg).reverse)]):=by
 intro m
 induction m with
 |zero=>
  intro i s hm hi hs hb;rw[Awb (by omega),Axb,List.foldl_nil];refine AE Kt OP (XP ..) ?_;exact AA rfl
 |succ m ih0=>
  intro i s hm hi hs hb;have h1:i<ps.length:=by omega
  have hzk:=hz ps[i] (Aws h1);have hzi:=hzk.mono (show k<=1000000000 by omega);rw[η h1,Awq,AxY];have ih:=ih0 (i+1) (Do s (pv ps[i])) (by omega) (by omega) (by have:=Ip s (pv ps[i]);omega) (Io hb (hzk.inb.mono (show k<=k+i by omega)));refine AE Kt OP (XP ..) ?_;refine AB ?_;rw[AI,Az (ξ h1)];simp only[eP,eN,Aj];generalize hS:((ps.drop (i+1)).map pv).foldl Do (Do s (pv ps[i]))=S at ih ⊢
  by_cases hneg:ps[i].v<0
  .have e:Do s (pv ps[i])=s:=by
    have hn:(pv ps[i]).1<0:=hneg
    cases s with
    |nil=>rw[EZ,Ac hn]
    |cons q r=>rw[Ee,Ac hn]
   rw[e]at ih;refine AB ?_ hneg;rw[BU (by omega)];refine Aa ih ?_;rfl
  have hn:¬(pv ps[i]).1<0:=hneg;refine AA ?_ hneg
  cases s with
  |nil=>
   rw[EZ,Ad hn]at ih;refine CN ?_ (by decide);obtain⟨o,ho0⟩:∃ o:List Pt,o=[]:=⟨_,rfl⟩;have eo:(([pv ps[i]].map Bg).reverse)=o++[Bg (pv ps[i])]:=by rw[ho0];rfl
   rw[eo]at ih;have ho:o.length<=i:=by rw[ho0];exact Awz _
   rw[show ((([]:List (Int × Int)).map Bg).reverse)=o from ho0.symm];have hf:Ba (o.length+1) 40=Δ:=AP (by omega) (by omega);have hb1:Awf (0+o.length*3) (Ao eP o).length=Δ:=AK AU o (by omega);have e3:Av8 0 (κ (0+o.length*3) (Ao eP o))++[iv ps[i].v,bv (AQ (zv ps[i].z)).neg,eN (AQ (zv ps[i].z)).abs]=Ao eP (o++[Bg (pv ps[i])]):=by
    rw[ο,Bb AU o (by omega)];exact Bc eP o (Bg (pv ps[i]))
   refine Aa (hcp hzi) ?_;simp only[eZ,eN,Aj]at e3 ⊢;rw[hf];refine Ah ?_;rw[hb1];refine Ah ?_;rw[e3,BU (by omega)];rw[ε,Awp]at ih;refine Aa ih ?_;rfl
  |cons q r=>
   have eo:(((q::r).map Bg).reverse)=(r.map Bg).reverse++[Bg q]:=by simp
   have hq:=hb q (Awi ..);rw[eo];rw[Ee,Ad hn]at ih;have hro:(r.map Bg).reverse.length<=i:=by simp at hs ⊢;omega
   by_cases heq:q.1=(pv ps[i]).1
   .rw[Ac heq,Awq,AyA]at ih
    generalize (r.map Bg).reverse=o at hro ih ⊢;have e1:Ap.sub .i64 (((o++[Bg q]).length:Nat):Int) 1=((o.length:Nat):Int):=by
     rw[ε,Awp];exact Rl (by omega)
    have hlt:o.length<(o++[Bg q]).length:=by simp
    have ga:=Z.add (AQ q.2) ps[i].z (hq.lz.mono (by omega)) (hzk.mono (by omega));rw[Bm]at ga;have sp:=Asl o (Bg q) (AQ (q.2+zv ps[i].z));rw[e1];refine Cs ?_;rw[AI,Co hlt];refine Ah ?_;refine(Akd o (Bg q) _).trans ?_;simp only[Aj];refine AG ?_ (show (Bg q).v=ps[i].v from heq);rw[AI,Co hlt];refine Ah ?_;refine(Asa o (Bg q) _).trans ?_;simp only[eN,Aj];refine Aa ga ?_;simp only[eZ,eN,Aj]at sp ⊢;rw[AI,Co hlt];refine Ah ?_;rw[show Awf (0+o.length*3+1+2) (Ao eP (o++[Bg q])).length=Δ by rw[BC AU];simp;omega];refine Ah ?_;rw[sp,BU (by omega)];have el:(o++[Bg q]).length=(o++[Bg (q.1,q.2+(pv ps[i]).2)]).length:=by simp
    rw[el];refine Aa ih ?_;rfl
   .rw[Ad heq,Awq,AyA,eo]at ih
    have hlen:((r.map Bg).reverse++[Bg q]).length<=i:=by simp at hs ⊢;omega
    have e1:Ap.sub .i64 ((((r.map Bg).reverse++[Bg q]).length:Nat):Int) 1=(((r.map Bg).reverse.length:Nat):Int):=by
     rw[ε,Awp];exact Rl (by omega)
    have hlt:(r.map Bg).reverse.length<((r.map Bg).reverse++[Bg q]).length:=by simp
    rw[e1];refine Cs ?_;rw[AI,Co hlt];refine Ah ?_;refine(Akd _ (Bg q) _).trans ?_;simp only[Aj];refine Ay ?_ (show ¬(Bg q).v=ps[i].v from heq);generalize (r.map Bg).reverse++[Bg q]=o at hlen ih ⊢;have ho:=hlen;have hf:Ba (o.length+1) 40=Δ:=AP (by omega) (by omega);have hb1:Awf (0+o.length*3) (Ao eP o).length=Δ:=AK AU o (by omega);have e3:Av8 0 (κ (0+o.length*3) (Ao eP o))++[iv ps[i].v,bv (AQ (zv ps[i].z)).neg,eN (AQ (zv ps[i].z)).abs]=Ao eP (o++[Bg (pv ps[i])]):=by
     rw[ο,Bb AU o (by omega)];exact Bc eP o (Bg (pv ps[i]))
    refine Aa (hcp hzi) ?_;simp only[eZ,eN,Aj]at e3 ⊢;rw[hf];refine Ah ?_;rw[hb1];refine Ah ?_;rw[e3,BU (by omega)];rw[ε,Awp]at ih;refine Aa ih ?_;rfl
end
section
variable {D:Orc} {M:Nat} (Kt:Knows Nm Vl D) (Z:ZF D) (hcp:∀{z:Zi},Lz 1000000000 z->D.ask (.fn 138) [.agg (eZ z)] []=Θ (.agg (eZ (AQ (zv z))),[]))
 (hsort:∀ l:List Pt,l.length<=M->∃ r:List Pt,D.ask (.fn 136) [.sl 0 0 l.length 3,TU] [Ky l]=Θ (.tup [],[.set (Ky r)])/\r.length=l.length/\r.Perm l/\Srt Pt.v r 0 r.length)
 (hdel:∀ l:List Pt,l.length<=1000000000->(∀ p∈l,Lz 1000000000 p.z)->∃ cells:Ab,D.ask (.fn 140) [.sl 0 0 l.length 3,fnZ] [θ (Ao eP l) Δ Δ]
   = Θ (.sl 0 0 (l.filter λp=>!decide (zv p.z=0)).length 3,[.set (θ cells Δ Δ)])
   ∧ cells.take ((l.filter λp=>!decide (zv p.z=0)).length*3)=Ao eP (l.filter λp=>!decide (zv p.z=0))/\(l.filter λp=>!decide (zv p.z=0)).length*3<=cells.length)
include Kt Z hcp hsort hdel
theorem Z5{n k:Nat}{t:Tm}(h:TmB n k t)(hn:n<=1000000)(hnM:n<=M)(hk:k+n<=900000000)(gc:D.ask (.fn 135) [.ls (t.ps.map eP)] []=Θ (.sl 0 0 t.ps.length 3,[.set (Ky t.ps)])):∃ tl:Ab,D.ask (.fn 62) [.agg (eT t)] []=Θ (.agg [.sl 0 0 (BB t.lf.ps).length 3,bv (AQ (zv t.k)).neg,eN (AQ (zv t.k)).abs],[.set (θ (Ao eP ((BB t.lf.ps).map Bg)++tl) Δ Δ)]):=by
 obtain⟨ps,kz⟩:=t;have hlen:ps.length<=n:=h.len;obtain⟨r,gs,gr,gp,go⟩:=hsort ps (by omega);have gk:=hcp (h.k.mono (show k<=1000000000 by omega));have hzr:∀ p∈r,Lz k p.z:=λp hp=>h.ps p (gp.mem_iff.1 hp)
 have gl:=Q8 Kt Z hcp r (k:=k) (by omega) (by omega) hzr [] Φ [] (AQ (zv kz)).neg ((AQ (zv kz)).abs.map eL) _ 0 [] rfl (by omega) (by simp) (by simp);rw[ο]at gl;have hsrt:(r.map pv).Pairwise λa b=>a.1<=b.1:=by
  rw[Ayz];exact Hu Pt.v go
 have hpl:=Se hsrt (gp.map pv);generalize hS:(r.map pv).foldl Do []=S at gl hpl;have hsb:∀ p∈((S.map Bg).reverse),Lz 1000000000 p.z:=by
  have key:∀(t s:List (Int × Int)) (j:Nat),(∀ q∈s,InB (k+j) q.2)->(∀ q∈t,InB k q.2)->∀ q∈t.foldl Do s,InB (k+j+t.length) q.2:=by
   intro t
   induction t with
   |nil=>intro s j hs _ q hq;exact hs q hq
   |cons p t ih=>
    intro s j hs ht q hq;have:=ih (Do s p) (j+1) (Io hs ((ht p (Awi ..)).mono (show k<=k+j by omega))) (λq hq=>ht q (Awk _ hq)) q hq;rw[γ];exact this.mono (by omega)
  intro p hp;rw[AyH,AwV]at hp;obtain⟨q,hq,rfl⟩:=hp;have:=key (r.map pv) [] 0 (by simp) (λq hq=>by
   rw[AwV]at hq;obtain⟨p,hp,rfl⟩:=hq;exact(hzr p hp).inb) q (by rw[hS];exact hq)
  rw[Awm]at this;exact(this.lz).mono (by omega)
 have hSl:S.length<=1000000:=by
  have key:∀(t s:List (Int × Int)),(t.foldl Do s).length<=s.length+t.length:=by
   intro t
   induction t with
   |nil=>intro s;simp
   |cons p t ih=>
    intro s;have:=ih (Do s p);have h2:=Ip s p;rw[AxY,γ];omega
  have:=key (r.map pv) [];rw[hS,Awm]at this;simp at this;omega
 obtain⟨cells,gd,gt,gle⟩:=hdel (S.map Bg).reverse (by simp;omega) hsb;have hfin:((S.map Bg).reverse).filter (λp=>!decide (zv p.z=0))=(BB (ps.map pv)).map Bg:=by
  rw[←hpl,←Azw,AzC]
  congr 1
  refine Azp λq _=>?_
  show (!decide (zv (AQ q.2)=0))=_
  rw[Bm]
 rw[hfin]at gd gt gle;have hce:cells=Ao eP ((BB (ps.map pv)).map Bg)++cells.drop (((BB (ps.map pv)).map Bg).length*3):=by
  rw[←gt,Axf]
 refine⟨cells.drop (((BB (ps.map pv)).map Bg).length*3),?_⟩
 show _=Θ (δ [.sl 0 0 (BB (ps.map pv)).length 3,bv (AQ (zv kz)).neg,eN (AQ (zv kz)).abs],([.set (θ (Ao eP ((BB (ps.map pv)).map Bg)++cells.drop (((BB (ps.map pv)).map Bg).length*3)) Δ Δ)]:List BO))
 rw[←hce];refine AC Kt OP (Aqh ..) ?_;refine Aa gc ?_;simp only[Aj];refine Aa gs ?_;simp only[Aj];refine Aa gk ?_;simp only[eZ,eN,Aj];rw[show Awf (0+ps.length*3) (Ao eP r).length=Δ from AK AU r (by omega)];refine Ah ?_;rw[Bi AU r (by omega),←gr];refine Aa gl ?_;simp only[Aj];refine Aa gd ?_;simp only[Awm,Aj]
theorem Z6{n k:Nat}{t:Tm}(h:TmB n k t)(hn:n<=1000000)(hnM:n<=M)(hk:k+n<=900000000){cs:Ab}(gc:D.ask (.fn 135) [.sl 0 0 t.ps.length 3] [θ cs Δ Δ]=Θ (.sl 1 0 t.ps.length 3,[.keep,.set (Ky t.ps)])):∃ tl:Ab,D.ask (.fn 62) [.agg [.sl 0 0 t.ps.length 3,bv t.k.neg,eN t.k.abs]] [θ cs Δ Δ]=Θ (.agg [.sl 1 0 (BB t.lf.ps).length 3,bv (AQ (zv t.k)).neg,eN (AQ (zv t.k)).abs],[.keep,.set (θ (Ao eP ((BB t.lf.ps).map Bg)++tl) Δ Δ)]):=by
 obtain⟨ps,kz⟩:=t;have hlen:ps.length<=n:=h.len;obtain⟨r,gs,gr,gp,go⟩:=hsort ps (by omega);have gk:=hcp (h.k.mono (show k<=1000000000 by omega));have hzr:∀ p∈r,Lz k p.z:=λp hp=>h.ps p (gp.mem_iff.1 hp)
 have gl:=Q8 Kt Z hcp r (k:=k) (by omega) (by omega) hzr [] Φ [] (AQ (zv kz)).neg ((AQ (zv kz)).abs.map eL) _ 0 [] rfl (by omega) (by simp) (by simp);rw[ο]at gl;have hsrt:(r.map pv).Pairwise λa b=>a.1<=b.1:=by
  rw[Ayz];exact Hu Pt.v go
 have hpl:=Se hsrt (gp.map pv);generalize hS:(r.map pv).foldl Do []=S at gl hpl;have hsb:∀ p∈((S.map Bg).reverse),Lz 1000000000 p.z:=by
  have key:∀(t s:List (Int × Int)) (j:Nat),(∀ q∈s,InB (k+j) q.2)->(∀ q∈t,InB k q.2)->∀ q∈t.foldl Do s,InB (k+j+t.length) q.2:=by
   intro t
   induction t with
   |nil=>intro s j hs _ q hq;exact hs q hq
   |cons p t ih=>
    intro s j hs ht q hq;have:=ih (Do s p) (j+1) (Io hs ((ht p (Awi ..)).mono (show k<=k+j by omega))) (λq hq=>ht q (Awk _ hq)) q hq;rw[γ];exact this.mono (by omega)
  intro p hp;rw[AyH,AwV]at hp;obtain⟨q,hq,rfl⟩:=hp;have:=key (r.map pv) [] 0 (by simp) (λq hq=>by
   rw[AwV]at hq;obtain⟨p,hp,rfl⟩:=hq;exact(hzr p hp).inb) q (by rw[hS];exact hq)
  rw[Awm]at this;exact(this.lz).mono (by omega)
 have hSl:S.length<=1000000:=by
  have key:∀(t s:List (Int × Int)),(t.foldl Do s).length<=s.length+t.length:=by
   intro t
   induction t with
   |nil=>intro s;simp
   |cons p t ih=>
    intro s;have:=ih (Do s p);have h2:=Ip s p;rw[AxY,γ];omega
  have:=key (r.map pv) [];rw[hS,Awm]at this;simp at this;omega
 obtain⟨cells,gd,gt,gle⟩:=hdel (S.map Bg).reverse (by simp;omega) hsb;have hfin:((S.map Bg).reverse).filter (λp=>!decide (zv p.z=0))=(BB (ps.map pv)).map Bg:=by
  rw[←hpl,←Azw,AzC]
  congr 1
  refine Azp λq _=>?_
  show (!decide (zv (AQ q.2)=0))=_
  rw[Bm]
 rw[hfin]at gd gt gle;have hce:cells=Ao eP ((BB (ps.map pv)).map Bg)++cells.drop (((BB (ps.map pv)).map Bg).length*3):=by
  rw[←gt,Axf]
 refine⟨cells.drop (((BB (ps.map pv)).map Bg).length*3),?_⟩
 show _=Θ (δ [.sl 1 0 (BB (ps.map pv)).length 3,bv (AQ (zv kz)).neg,eN (AQ (zv kz)).abs],([.keep,.set (θ (Ao eP ((BB (ps.map pv)).map Bg)++cells.drop (((BB (ps.map pv)).map Bg).length*3)) Δ Δ)]:List BO))
 rw[←hce];refine AC Kt AcL (Aqi ..) ?_;refine Aa gc ?_;simp only[Aj];refine Aa gs ?_;simp only[Aj];refine Aa gk ?_;simp only[eZ,eN,Aj];rw[show Awf (0+ps.length*3) (Ao eP r).length=Δ from AK AU r (by omega)];refine Ah ?_;rw[Bi AU r (by omega),←gr];refine Aa gl ?_;simp only[Aj];refine Aa gd ?_;simp only[Awm,Aj]
end
theorem Qq:CloneF Nc where
 nat l h:=Xp (LI h)
theorem Lx:ZF Nc:=AmV AcY AcZ Qq
theorem AfH:DivF Nc where
 div _ _ ha hal hb hbl:=Ae0 (ArP ha hal hb hbl)
theorem Ae9:ZdF Nc:=AmU AcY AcZ Qq An1 AfH
theorem S0:SeatOk Av9 B4 BW:=W4 ⟨Fk,JM,(Aqq _),trivial⟩
theorem LO(f:Nat):BD (BL Av9 f) ((By Ap BW).ask (.fn f)):=GY S0 f
theorem Anv(l:List Pt)(hl:l.length<=1000000000)(hz:∀ p∈l,Lz 1000000000 p.z):∃ cells:Ab,Nc.ask (.fn 140) [.sl 0 0 l.length 3,fnZ] [θ (Ao eP l) Δ Δ]
   = Θ (.sl 0 0 (l.filter λp=>!decide (zv p.z=0)).length 3,[.set (θ cells Δ Δ)])
   ∧ cells.take ((l.filter λp=>!decide (zv p.z=0)).length*3)=Ao eP (l.filter λp=>!decide (zv p.z=0))/\(l.filter λp=>!decide (zv p.z=0)).length*3<=cells.length:=
 Aby (Wt) (λp=>decide (zv p.z=0)) l hl (λp hp=>QM (Wt) Lx (hz p hp))
