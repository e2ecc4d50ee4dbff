/- Functions of the program -/
import Derived.Test.YtmbfbclboenajaaGreatFAM
set_option linter.all false
open Bool renaming false->Φ,true->Δ
open List renaming drop->AqT,take->ε
open Option renaming none->Ξ,some->Θ
namespace Go.Proofs.YtmbfbclboenajaaGreat
noncomputable section
open ABlk renaming mk->θ
open AV renaming agg->φ,fn->Arb,ls->Ψ,ptr->η,sl->χ,tup->γ
open BO renaming set->AqV
open IntKind renaming i64->δ,u64->Ω
open Key renaming fn->ω,lp->ι
open Tryz renaming prog->Aq1
section
open Go.RowKit
def Anm:MFn:=BI [] 71
def Al3:Hnt:=⟨[(109,(.ls,[]))],[],[]⟩
def Ank:MFn:=BI [] 68
def Al1:Hnt:=⟨[(71,(.agg Ay,[]))],[],[(4,[.bool]),(6,[.ls])]⟩
def Ano:MFn:=BI [] 73
def Al5:Hnt:=⟨[(71,(.agg Ay,[])),(111,(.ls,[]))],[],[]⟩
def Am0:MFn:=BI [] 39
def AlI:Hnt:=⟨[(71,(.agg Ay,[]))],[],[(4,[.bool]),(7,[.ls])]⟩
def AmU:MFn:=BI [] 30
def AlC:Hnt:=⟨[(68,(.agg Ay,[]))],[],[(3,Ay),(7,[.bool]),(10,[.ls])]⟩
def Am2:MFn:=BI [] 41
def AlK:Hnt:=⟨[(30,(.int .i64,[])),(78,(.int .i64,[]))],[],[(7,Ay),(9,Ay),(23,[.ls]),(25,[.ls]),(28,[.ls]),(30,[.ls])]⟩
def Anh:MFn:=BI [] 63
def AlY:Hnt:=⟨[(71,(.agg Ay,[])),(102,(.ls,[])),(103,(.tup U0,[]))],[],[(10,[.bool]),(12,[.bool]),(15,[.bool]),(17,[.ls]),(19,[.ls]),(24,[.ls]),(26,[.ls]),(32,[.bool]),(37,[.ls]),(39,[.ls]),(44,[.bool])]⟩
def Ah9:MFn:=BI [] 114
def AhK:Hnt:=⟨[(71,(.agg Ay,[])),(137,(.ls,[]))],[],[(6,[.bool]),(8,[.bool]),(11,[.ls]),(13,[.ls])]⟩
def Jl:List (Nat × MFn):=[(71,Anm),(68,Ank),(73,Ano),(39,Am0),(30,AmU),(41,Am2),(63,Anh),(114,Ah9)]
variable (A:Ar) (D:Orc)
theorem e71(x0:Bool)(x1:Rw):BN A D Al Al3 (.b (.t (.t (.b (.t .n) (.t .n)))) (.f (.f (.f .n)))) 71 Anm [bv x0,Ψ x1] [] =
 Ae D (ω 109) [Ψ x1] [] [.l,.E] λxs=>
 br x0
 (br x0 (br x0 (br (A.lt 0 ↑(AL xs))
 (br x0 (Θ ((φ [bv Δ,Ψ xs],[]))) Ξ)
 (br x0 (Θ ((φ [bv Φ,Ψ xs],[]))) Ξ)) Ξ) Ξ)
 (br x0 Ξ (br x0 Ξ (br x0 Ξ (Θ ((φ [bv Φ,Ψ xs],[])))))):=by kernel_rfl
theorem e68(x0_0:Bool)(x0_1:Rw):BN A D Al Al1 .n 68 Ank [φ [bv x0_0,Ψ x0_1]] [] =
 Ae D (ω 71) [bv x0_0,Ψ x0_1] [] [.a,.B,.L,.N,.E] λb xs=>
 Θ ((φ [bv b,Ψ xs],[])):=by kernel_rfl
theorem e73(x0:Int):BN A D Al Al5 .n 73 Ano [iv x0] [] =
 br (A.lt x0 0)
 (Ae D (ω 111) [AV.v (Value.int Ω (A.add Ω (A.conv Ω (A.sub δ 0 (A.add δ x0 1))) 1))] [] [.l,.E] λxs=>
 Ae D (ω 71) [bv Δ,Ψ xs] [] [.a,.B,.L,.N,.E] λb xs1=>
 Θ ((φ [bv b,Ψ xs1],[])))
 (Ae D (ω 111) [AV.v (Value.int Ω (A.conv Ω x0))] [] [.l,.E] λxs=>
 Ae D (ω 71) [bv Φ,Ψ xs] [] [.a,.B,.L,.N,.E] λb xs1=>
 Θ ((φ [bv b,Ψ xs1],[]))):=by kernel_rfl
theorem e39(x0_0:Bool)(x0_1:Rw):BN A D Al AlI .n 39 Am0 [φ [bv x0_0,Ψ x0_1]] [] =
 br (A.not x0_0)
 (Ae D (ω 71) [bv Δ,Ψ x0_1] [] [.a,.B,.L,.N,.E] λb xs=>
 Θ ((φ [bv b,Ψ xs],[])))
 (Ae D (ω 71) [bv Φ,Ψ x0_1] [] [.a,.B,.L,.N,.E] λb xs=>
 Θ ((φ [bv b,Ψ xs],[]))):=by kernel_rfl
theorem e30(x0_0:Bool)(x0_1:Rw):BN A D Al AlC .n 30 AmU [φ [bv x0_0,Ψ x0_1]] [] =
 Ae D (ω 68) [φ [bv x0_0,Ψ x0_1]] [] [.a,.B,.L,.N,.E] λb xs=>
 br b
 (Θ ((iv (-1),[])))
 (br (A.lt 0 ↑(AL xs))
 (Θ ((iv 1,[])))
 (Θ ((iv 0,[])))):=by kernel_rfl
theorem e41(x0_0:Bool)(x0_1:Rw)(x1_0:Bool)(x1_1:Rw):BN A D Al AlK .n 41 Am2 [φ [bv x0_0,Ψ x0_1],φ [bv x1_0,Ψ x1_1]] [] =
 Ae D (ω 30) [φ [bv x0_0,Ψ x0_1]] [] [.i,.E] λn=>
 Ae D (ω 30) [φ [bv x1_0,Ψ x1_1]] [] [.i,.E] λn1=>
 br (A.lt n n1)
 (Θ ((iv (-1),[])))
 (br (A.lt n1 n)
 (Θ ((iv 1,[])))
 (br (A.lt n 0)
 (Ae D (ω 78) [Ψ x1_1,Ψ x0_1] [] [.i,.E] λn2=>
 Θ ((iv n2,[])))
 (Ae D (ω 78) [Ψ x0_1,Ψ x1_1] [] [.i,.E] λn2=>
 Θ ((iv n2,[]))))):=by kernel_rfl
theorem e63(x0_0:Bool)(x0_1:Rw)(x1_0:Bool)(x1_1:Rw):BN A D Al AlY .n 63 Anh [φ [bv x0_0,Ψ x0_1],φ [bv x1_0,Ψ x1_1]] [] =
 br (A.beq x0_0 x1_0)
 (Ae D (ω 102) [Ψ x0_1,Ψ x1_1] [] [.l,.E] λxs=>
 Ae D (ω 71) [bv x0_0,Ψ xs] [] [.a,.B,.L,.N,.E] λb xs1=>
 Θ ((φ [bv b,Ψ xs1],[])))
 (Ae D (ω 103) [Ψ x0_1,Ψ x1_1] [] [.t,.L,.B,.N,.E] λxs b=>
 br b
 (Ae D (ω 71) [bv x0_0,Ψ xs] [] [.a,.B,.L,.N,.E] λb1 xs1=>
 Θ ((φ [bv b1,Ψ xs1],[])))
 (Ae D (ω 103) [Ψ x1_1,Ψ x0_1] [] [.t,.L,.B,.N,.E] λxs1 _=>
 Ae D (ω 71) [bv x1_0,Ψ xs1] [] [.a,.B,.L,.N,.E] λb2 xs2=>
 Θ ((φ [bv b2,Ψ xs2],[])))):=by kernel_rfl
theorem AoF(x0_0:Bool)(x0_1:Rw)(x1_0:Bool)(x1_1:Rw):BN A D Al AhK .n 114 Ah9 [φ [bv x0_0,Ψ x0_1],φ [bv x1_0,Ψ x1_1]] [] =
 br (A.not (A.beq x0_0 x1_0))
 (Ae D (ω 137) [Ψ x0_1,Ψ x1_1] [] [.l,.E] λxs=>
 Ae D (ω 71) [bv Δ,Ψ xs] [] [.a,.B,.L,.N,.E] λb xs1=>
 Θ ((φ [bv b,Ψ xs1],[])))
 (Ae D (ω 137) [Ψ x0_1,Ψ x1_1] [] [.l,.E] λxs=>
 Ae D (ω 71) [bv Φ,Ψ xs] [] [.a,.B,.L,.N,.E] λb xs1=>
 Θ ((φ [bv b,Ψ xs1],[]))):=by kernel_rfl
end
section
open Go.RowKit
def Ant:MFn:=BI [] 91
def Amb:Hnt:=⟨[],[],[]⟩
def Am5:MFn:=BI [] 47
def AlN:Hnt:=⟨[(91,(.bool,[]))],[],[]⟩
def Anf:MFn:=BI [] 61
def AlW:Hnt:=⟨[(47,(.int .i64,[]))],[],[(6,[.int .i64]),(8,[.int .i64])]⟩
def Ani:MFn:=BI [] 65
def AlZ:Hnt:=⟨[(30,(.int .i64,[]))],[],[(4,Ay)]⟩
def Ane:MFn:=PN Aq1 BP [] Φ Δ 60
def AlV:Hnt:=⟨[(61,(.int .i64,[])),(101,(.tup [],[.row Δ]))],[],[]⟩
def MM:MFn:=PN Aq1 BP [⟨63,(mB 455),[],[],[(1,((mB 199),([],[1000000])))]⟩,⟨63,(mB 71),[],[],[(3,([Δ],([],[1000000])))]⟩,⟨63,(mB 455),[],[],[(5,((mB 199),([],[1000000])))]⟩] Φ Δ 101
def Hf:Hnt:=⟨[(61,(.int .i64,[])),(128,(.tup [],[.row Δ])),(129,(.tup [],[.row Δ]))],[(0,[(1,([.sl 0 3,.int .i64,.fnc 61,.int .i64,.int .i64],[.row Δ]))]),(1,[(3,([.sl 0 3],[.row Δ]))]),(2,[(5,([.sl 0 3,.int .i64,.fnc 61,.int .i64,.int .i64],[.row Δ]))])],[]⟩
def QK:MFn:=PN Aq1 BP [⟨53,(mB 271),[],[],[(1,([Δ],([],[1000000])))]⟩,⟨53,(mB 783),[],[],[(3,((mB 271),([],[1000000])))]⟩] Φ Δ 128
def HQ:Hnt:=⟨[(61,(.int .i64,[]))],[(0,[(1,([.sl 0 3],[.row Δ]))]),(1,[(3,([.sl 0 3,.int .i64,.int .i64,.fnc 61,.int .i64],[.row Δ]))])],[(25,Br),(26,Br),(30,Br),(31,Br),(45,Br),(46,Br),(49,Br),(50,Br),(51,Br),(52,Br)]⟩
def Hh:MFn:=PN Aq1 BP [⟨220,(mB 3091),[],[],[(1,((mB 1027),([],[1000000])))]⟩,⟨220,(mB 9217),[],[],[(3,([Δ],([],[1000000])))]⟩,⟨220,(mB 49173),[],[],[(5,((mB 16389),([],[1000000])))]⟩,⟨220,(mB 147457),[],[],[(7,([Δ],([],[1000000])))]⟩,⟨220,(mB 8126495),[],[],[(9,((mB 1835039),([],[1000000])))]⟩] Φ Δ 129
def CM:Hnt:=⟨[(61,(.int .i64,[])),(129,(.tup [],[.row Δ])),(142,(.tup [],[.row Δ]))],[(0,[(1,([.sl 0 3,.int .i64,.int .i64],[.row Δ]))]),(1,[(3,([.sl 0 3],[.row Δ]))]),(2,[(5,([.sl 0 3,.int .i64,.int .i64],[.row Δ]))]),(3,[(7,([.sl 0 3],[.row Δ]))]),(4,[(9,([.sl 0 3,.int .i64,.int .i64,.int .i64,.fnc 61,.int .i64,.int .i64,.int .i64],[.row Δ]))])],[(43,Br),(44,Br),(47,Br),(48,Br),(69,Br),(70,Br),(73,Br),(74,Br),(75,Br),(76,Br),(95,Br),(96,Br),(99,Br),(100,Br),(121,Br),(122,Br),(125,Br),(126,Br),(127,Br),(128,Br),(163,Br),(164,Br),(167,Br),(168,Br)]⟩
def XZ:MFn:=PN Aq1 BP [⟨58,(mB 3093),[],[],[(1,((mB 1045),([],[1000000])))]⟩] Φ Δ 142
def Qx:Hnt:=⟨[(61,(.int .i64,[])),(145,(.tup [],[.row Δ]))],[(0,[(1,([.sl 0 3,.int .i64,.fnc 61,.int .i64],[.row Δ]))])],[]⟩
def X0:MFn:=PN Aq1 BP [⟨38,(mB 1039),[],[],[(1,([Δ],([],[1000000])))]⟩] Φ Δ 145
def T5:Hnt:=⟨[(61,(.int .i64,[]))],[(0,[(1,([.sl 0 3],[.row Δ]))])],[(28,Br),(29,Br),(34,Br),(35,Br),(36,Br),(37,Br)]⟩
def Afw:MFn:=PN Aq1 BP [⟨42,(mB 99),[],[],[(1,((mB 33),([],[1000000])))]⟩] Δ Δ 64
def Wh:Hnt:=⟨[(65,(.bool,[])),(104,(.int .i64,[.row Δ]))],[(0,[(1,([.sl 0 3,.int .i64],[.row Δ]))])],[(24,Br),(25,Br),(27,Br),(32,Br),(33,Br)]⟩
def XO:MFn:=PN Aq1 BP [⟨19,(mB 387),[],[],[(0,((mB 17),([],[1000000]))),(1,([Δ],([],[1000000])))]⟩] Φ Δ 104
def Ot:Hnt:=⟨[(65,(.bool,[]))],[(0,[(0,([.sl 0 3,.int .i64],[.row Δ])),(1,([.sl 0 3],[.row Δ]))])],[(14,Br),(15,Br)]⟩
def Ed:List (Nat × MFn):=[(91,Ant),(47,Am5),(61,Anf),(65,Ani),(60,Ane),(101,MM),(128,QK),(129,Hh),(142,XZ),(145,X0),(64,Afw),(104,XO)]
variable (A:Ar) (D:Orc)
theorem e91(x0:Int):BN A D Al Amb .n 91 Ant [iv x0] [] =
 br (A.eq x0 x0)
 (Θ ((bv Φ,[])))
 (Θ ((bv Δ,[]))):=by kernel_rfl
theorem e47(x0 x1:Int):BN A D Al AlN .n 47 Am5 [iv x0,iv x1] [] =
 Ae D (ω 91) [iv x0] [] [.b,.E] λb=>
 br b
 (Ae D (ω 91) [iv x1] [] [.b,.E] λb1=>
 br b1
 (Θ ((iv 0,[])))
 (Θ ((iv (-1),[]))))
 (Ae D (ω 91) [iv x1] [] [.b,.E] λb1=>
 br b1
 (Θ ((iv 1,[])))
 (br (A.lt x0 x1)
 (Θ ((iv (-1),[])))
 (br (A.lt x1 x0)
 (Θ ((iv 1,[])))
 (Θ ((iv 0,[])))))):=by kernel_rfl
theorem e61(x0_0:Int)(x0_1:Bool)(x0_2:Rw)(x1_0:Int)(x1_1:Bool)(x1_2:Rw):BN A D Al AlW .n 61 Anf [φ [iv x0_0,bv x0_1,Ψ x0_2],φ [iv x1_0,bv x1_1,Ψ x1_2]] [] =
 Ae D (ω 47) [iv x0_0,iv x1_0] [] [.i,.E] λn=>
 Θ ((iv n,[])):=by kernel_rfl
theorem e65(x0_0:Int)(x0_1:Bool)(x0_2:Rw):BN A D Al AlZ .n 65 Ani [φ [iv x0_0,bv x0_1,Ψ x0_2]] [] =
 Ae D (ω 30) [φ [bv x0_1,Ψ x0_2]] [] [.i,.E] λn=>
 br (A.eq n 0)
 (Θ ((bv Δ,[])))
 (Θ ((bv Φ,[]))):=by kernel_rfl
theorem e60(n0:Nat)(c0:List AV):BN A D Al AlV .n 60 Ane [χ 0 0 n0 3,Arb (Fn.func 61) [] []] [{ cells:=c0,st:=Δ,ex:=Δ }] =
 Ae D (ω 101) [χ 0 0 n0 3,iv ↑n0,Arb (Fn.func 61) [] []] [θ c0 Δ Δ] [.t,.N,.R,.X,.E] λcs1=>
 Θ ((γ [],[AqV (θ cs1 Δ Δ)])):=by kernel_rfl
theorem Aou(n0:Nat)(c0:List AV)(x1:Int):BN A D Al Hf .n 101 MM [χ 0 0 n0 3,iv x1,Arb (Fn.func 61) [] []] [{ cells:=c0,st:=Δ,ex:=Δ }] =
 Ae D (ι 101 0) [χ 0 0 n0 3,iv x1,Arb (Fn.func 61) [] [],iv 20,iv 0,iv 20] [θ c0 Δ Δ] [.t,.C,.x,.X,.Y] λc l o=>
 br (Bm 1 c)
 (dk [.C,.q 0 3,.I,.C,.f 61,.I,.I,.N,.R,.X,.E] [.l l,.o o] λn n1 n2 n3 cs1=>
 Ae D (ω 128) [χ 0 0 n 3,iv n3,iv n1,Arb (Fn.func 61) [] []] [θ cs1 Δ Δ] [.t,.N,.R,.X,.E] λcs3=>
 Ae D (ι 101 1) [χ 0 0 n 3,iv n1,Arb (Fn.func 61) [] [],iv n2] [θ cs3 Δ Δ] [.t,.C,.x,.X,.Y] λc5 l8 o2=>
 br (Bm 3 c5)
 (dk [.C,.q 0 3,.N,.R,.X,.E] [.l l8,.o o2] λ_ cs5=>
 Θ ((γ [],[AqV (θ cs5 Δ Δ)])))
 (Ξ))
 (Ξ):=by kernel_rfl
theorem Abe(n0:Nat)(c0:List AV)(t1 t6 t7 t8:Int):CS A D Al Hf .n 101 0 (AJ MM 0).fst (AJ MM 0).snd [χ 0 0 n0 3,iv t1,Arb (Fn.func 61) [] [],iv t6,iv t7,iv t8] [{ cells:=c0,st:=Δ,ex:=Δ }] =
 br (A.le t8 t1)
 (Ae D (ω 128) [χ 0 0 n0 3,iv t7,iv t8,Arb (Fn.func 61) [] []] [θ c0 Δ Δ] [.t,.N,.R,.X,.E] λcs1=>
 AA D (ι 101 0) [χ 0 0 n0 3,iv t1,Arb (Fn.func 61) [] [],iv t6,iv t8,iv (A.add δ t8 t6)] [θ cs1 Δ Δ] λr1 o1=>
 As 1 [0] (AH.mk [(0,θ cs1 Δ Δ)] 1 Ξ) [0] r1 o1)
 (Θ ((γ [iv 0,χ 0 0 n0 3,iv t1,Arb (Fn.func 61) [] [],iv t6,iv t7],[AqV (θ c0 Δ Δ)]))):=by kernel_rfl
theorem VJ(n0:Nat)(c0:List AV)(t1 t6:Int):CS A D Al Hf .n 101 1 (AJ MM 1).fst (AJ MM 1).snd [χ 0 0 n0 3,iv t1,Arb (Fn.func 61) [] [],iv t6] [{ cells:=c0,st:=Δ,ex:=Δ }] =
 br (A.lt t6 t1)
 (Ae D (ι 101 2) [χ 0 0 n0 3,iv t1,Arb (Fn.func 61) [] [],iv t6,iv 0,iv (A.mul δ 2 t6)] [θ c0 Δ Δ] [.t,.C,.x,.X,.Y] λc l o=>
 br (Bm 5 c)
 (dk [.C,.q 0 3,.I,.C,.f 61,.I,.I,.N,.R,.X,.E] [.l l,.o o] λn n1 n2 n3 cs1=>
 br (A.lt (A.add δ n3 n2) n1)
 (Ae D (ω 129) [χ 0 0 n 3,iv n3,iv (A.add δ n3 n2),iv n1,Arb (Fn.func 61) [] []] [θ cs1 Δ Δ] [.t,.N,.R,.X,.E] λcs3=>
 AA D (ι 101 1) [χ 0 0 n 3,iv n1,Arb (Fn.func 61) [] [],iv (A.mul δ n2 2)] [θ cs3 Δ Δ] λr2 o2=>
 As 1 [0] (AH.mk [(0,θ cs3 Δ Δ)] 1 Ξ) [0] r2 o2)
 (AA D (ι 101 1) [χ 0 0 n 3,iv n1,Arb (Fn.func 61) [] [],iv (A.mul δ n2 2)] [θ cs1 Δ Δ] λr1 o1=>
 As 1 [0] (AH.mk [(0,θ cs1 Δ Δ)] 1 Ξ) [0] r1 o1))
 (Ξ))
 (Θ ((γ [iv 2,χ 0 0 n0 3],[AqV (θ c0 Δ Δ)]))):=by kernel_rfl
theorem Abf(n0:Nat)(c0:List AV)(t1 t6 t7 t8:Int):CS A D Al Hf .n 101 2 (AJ MM 2).fst (AJ MM 2).snd [χ 0 0 n0 3,iv t1,Arb (Fn.func 61) [] [],iv t6,iv t7,iv t8] [{ cells:=c0,st:=Δ,ex:=Δ }] =
 br (A.le t8 t1)
 (Ae D (ω 129) [χ 0 0 n0 3,iv t7,iv (A.add δ t7 t6),iv t8,Arb (Fn.func 61) [] []] [θ c0 Δ Δ] [.t,.N,.R,.X,.E] λcs1=>
 AA D (ι 101 2) [χ 0 0 n0 3,iv t1,Arb (Fn.func 61) [] [],iv t6,iv t8,iv (A.add δ t8 (A.mul δ 2 t6))] [θ cs1 Δ Δ] λr1 o1=>
 As 1 [0] (AH.mk [(0,θ cs1 Δ Δ)] 1 Ξ) [0] r1 o1)
 (Θ ((γ [iv 4,χ 0 0 n0 3,iv t1,Arb (Fn.func 61) [] [],iv t6,iv t7],[AqV (θ c0 Δ Δ)]))):=by kernel_rfl
theorem Ak0(n0:Nat)(c0:List AV)(x1 x2:Int):BN A D Al HQ .n 128 QK [χ 0 0 n0 3,iv x1,iv x2,Arb (Fn.func 61) [] []] [{ cells:=c0,st:=Δ,ex:=Δ }] =
 Ae D (ι 128 0) [χ 0 0 n0 3,iv x1,iv x2,Arb (Fn.func 61) [] [],iv (A.add δ x1 1)] [θ c0 Δ Δ] [.t,.C,.x,.X,.Y] λc l o=>
 br (Bm 1 c)
 (dk [.C,.q 0 3,.N,.R,.X,.E] [.l l,.o o] λ_ cs1=>
 Θ ((γ [],[AqV (θ cs1 Δ Δ)])))
 (Ξ):=by kernel_rfl
theorem VN(n0:Nat)(c0:List AV)(t1 t2 t8:Int):CS A D Al HQ .n 128 0 (AJ QK 0).fst (AJ QK 0).snd [χ 0 0 n0 3,iv t1,iv t2,Arb (Fn.func 61) [] [],iv t8] [{ cells:=c0,st:=Δ,ex:=Δ }] =
 br (A.lt t8 t2)
 (Ae D (ι 128 1) [χ 0 0 n0 3,iv t1,iv t2,Arb (Fn.func 61) [] [],iv t8,iv t8] [θ c0 Δ Δ] [.t,.C,.x,.X,.Y] λc l o=>
 br (Bm 3 c)
 (dk [.C,.q 0 3,.I,.I,.C,.f 61,.I,.N,.R,.X,.E] [.l l,.o o] λn n1 n2 n3 cs1=>
 AA D (ι 128 0) [χ 0 0 n 3,iv n1,iv n2,Arb (Fn.func 61) [] [],iv (A.add δ n3 1)] [θ cs1 Δ Δ] λr1 o1=>
 As 1 [0] (AH.mk [(0,θ cs1 Δ Δ)] 1 Ξ) [0] r1 o1)
 (Ξ))
 (Θ ((γ [iv 0,χ 0 0 n0 3],[AqV (θ c0 Δ Δ)]))):=by kernel_rfl
theorem VO(n0:Nat)(c0:List AV)(t1 t2 t8 t9:Int):CS A D Al HQ .n 128 1 (AJ QK 1).fst (AJ QK 1).snd [χ 0 0 n0 3,iv t1,iv t2,Arb (Fn.func 61) [] [],iv t8,iv t9] [{ cells:=c0,st:=Δ,ex:=Δ }] =
 br (A.lt t1 t9)
 (unI t9 λi=>
 br (i.blt n0) (EX c0 (0+i*3) 3 λcs=>
 dk [.I,.B,.L,.N] [.l cs] λn b xs=>
 unI (A.sub δ t9 1) λi1=>
 br (i1.blt n0) (EX c0 (0+i1*3) 3 λcs1=>
 dk [.I,.B,.L,.N] [.l cs1] λn1 b1 xs1=>
 Ae D (ω 61) [φ [iv n,bv b,Ψ xs],φ [iv n1,bv b1,Ψ xs1]] [] [.i,.E] λn2=>
 br (A.lt n2 0)
 (unI (A.sub δ t9 1) λi2=>
 br (i2.blt n0) (EX c0 (0+i2*3) 3 λcs2=>
 dk [.I,.B,.L,.N] [.l cs2] λn3 b2 xs2=>
 unI t9 λi3=>
 br (i3.blt n0) (EX c0 (0+i3*3) 3 λcs3=>
 dk [.I,.B,.L,.N] [.l cs3] λn4 b3 xs3=>
 unI t9 λi4=>
 br (i4.blt n0) (br ((0+i4*3+3).ble c0.length) (unI (A.sub δ t9 1) λi5=>
 br (i5.blt n0) (br ((0+i5*3+3).ble (AI c0 (0+i4*3) [iv n3,bv b2,Ψ xs2]).length) (AA D (ι 128 1) [χ 0 0 n0 3,iv t1,iv t2,Arb (Fn.func 61) [] [],iv t8,iv (A.sub δ t9 1)] [θ (AI (AI c0 (0+i4*3) [iv n3,bv b2,Ψ xs2]) (0+i5*3) [iv n4,bv b3,Ψ xs3]) Δ Δ] λr1 o1=>
 As 1 [0] (AH.mk [(0,θ (AI (AI c0 (0+i4*3) [iv n3,bv b2,Ψ xs2]) (0+i5*3) [iv n4,bv b3,Ψ xs3]) Δ Δ)] 1 Ξ) [0] r1 o1) Ξ) Ξ) Ξ) Ξ) Ξ) Ξ)
 (Θ ((γ [iv 2,χ 0 0 n0 3,iv t1,iv t2,Arb (Fn.func 61) [] [],iv t8],[AqV (θ c0 Δ Δ)])))) Ξ) Ξ)
 (Θ ((γ [iv 2,χ 0 0 n0 3,iv t1,iv t2,Arb (Fn.func 61) [] [],iv t8],[AqV (θ c0 Δ Δ)]))):=by kernel_rfl
theorem TB(n0:Nat)(c0:List AV)(x1 x2 x3:Int):BN A D Al CM .n 129 Hh [χ 0 0 n0 3,iv x1,iv x2,iv x3,Arb (Fn.func 61) [] []] [{ cells:=c0,st:=Δ,ex:=Δ }] =
 br (A.eq (A.sub δ x2 x1) 1)
 (Ae D (ι 129 0) [χ 0 0 n0 3,iv x1,Arb (Fn.func 61) [] [],iv x2,iv x3] [θ c0 Δ Δ] [.t,.C,.x,.X,.Y] λc l o=>
 br (Bm 1 c)
 (dk [.C,.q 0 3,.I,.I,.N,.R,.X,.E] [.l l,.o o] λn n1 n2 cs1=>
 Ae D (ι 129 1) [χ 0 0 n 3,iv n2,iv n1] [θ cs1 Δ Δ] [.t,.C,.x,.X,.Y] λc3 l5 o1=>
 br (Bm 3 c3)
 (dk [.C,.q 0 3,.N,.R,.X,.E] [.l l5,.o o1] λ_ cs3=>
 Θ ((γ [],[AqV (θ cs3 Δ Δ)])))
 (Ξ))
 (Ξ))
 (br (A.eq (A.sub δ x3 x2) 1)
 (Ae D (ι 129 2) [χ 0 0 n0 3,iv x2,Arb (Fn.func 61) [] [],iv x1,iv x2] [θ c0 Δ Δ] [.t,.C,.x,.X,.Y] λc l o=>
 br (Bm 5 c)
 (dk [.C,.q 0 3,.I,.I,.N,.R,.X,.E] [.l l,.o o] λn n1 n2 cs1=>
 Ae D (ι 129 3) [χ 0 0 n 3,iv n2,iv n1] [θ cs1 Δ Δ] [.t,.C,.x,.X,.Y] λc3 l5 o1=>
 br (Bm 7 c3)
 (dk [.C,.q 0 3,.N,.R,.X,.E] [.l l5,.o o1] λ_ cs3=>
 Θ ((γ [],[AqV (θ cs3 Δ Δ)])))
 (Ξ))
 (Ξ))
 (br (A.lt 1 0)
 (Ξ)
 (br (A.lt (A.conv δ (A.shr Ω (A.conv Ω (A.add δ x1 x3)) 1)) x2)
 (Ae D (ι 129 4) [χ 0 0 n0 3,iv x1,iv x2,iv x3,Arb (Fn.func 61) [] [],iv (A.conv δ (A.shr Ω (A.conv Ω (A.add δ x1 x3)) 1)),iv (A.add δ (A.conv δ (A.shr Ω (A.conv Ω (A.add δ x1 x3)) 1)) x2),iv (A.sub δ (A.add δ (A.conv δ (A.shr Ω (A.conv Ω (A.add δ x1 x3)) 1)) x2) x3),iv (A.conv δ (A.shr Ω (A.conv Ω (A.add δ x1 x3)) 1)),iv (A.sub δ (A.add δ (A.conv δ (A.shr Ω (A.conv Ω (A.add δ x1 x3)) 1)) x2) 1)] [θ c0 Δ Δ] [.t,.C,.x,.X,.Y] λc l o=>
 br (Bm 9 c)
 (dk [.C,.q 0 3,.I,.I,.I,.C,.f 61,.I,.I,.I,.N,.R,.X,.E] [.l l,.o o] λn n1 n2 n3 n4 n5 n6 cs1=>
 br (A.lt n6 n2)
 (br (A.lt n2 (A.sub δ n5 n6))
 (Ae D (ω 142) [χ 0 0 n 3,iv n6,iv n2,iv (A.sub δ n5 n6),Arb (Fn.func 61) [] []] [θ cs1 Δ Δ] [.t,.N,.R,.X,.E] λcs3=>
 br (A.lt n1 n6)
 (br (A.lt n6 n4)
 (Ae D (ω 129) [χ 0 0 n 3,iv n1,iv n6,iv n4,Arb (Fn.func 61) [] []] [θ cs3 Δ Δ] [.t,.N,.R,.X,.E] λcs5=>
 br (A.lt n4 (A.sub δ n5 n6))
 (br (A.lt (A.sub δ n5 n6) n3)
 (Ae D (ω 129) [χ 0 0 n 3,iv n4,iv (A.sub δ n5 n6),iv n3,Arb (Fn.func 61) [] []] [θ cs5 Δ Δ] [.t,.N,.R,.X,.E] λcs7=>
 Θ ((γ [],[AqV (θ cs7 Δ Δ)])))
 (Θ ((γ [],[AqV (θ cs5 Δ Δ)]))))
 (Θ ((γ [],[AqV (θ cs5 Δ Δ)]))))
 (br (A.lt n4 (A.sub δ n5 n6))
 (br (A.lt (A.sub δ n5 n6) n3)
 (Ae D (ω 129) [χ 0 0 n 3,iv n4,iv (A.sub δ n5 n6),iv n3,Arb (Fn.func 61) [] []] [θ cs3 Δ Δ] [.t,.N,.R,.X,.E] λcs5=>
 Θ ((γ [],[AqV (θ cs5 Δ Δ)])))
 (Θ ((γ [],[AqV (θ cs3 Δ Δ)]))))
 (Θ ((γ [],[AqV (θ cs3 Δ Δ)])))))
 (br (A.lt n4 (A.sub δ n5 n6))
 (br (A.lt (A.sub δ n5 n6) n3)
 (Ae D (ω 129) [χ 0 0 n 3,iv n4,iv (A.sub δ n5 n6),iv n3,Arb (Fn.func 61) [] []] [θ cs3 Δ Δ] [.t,.N,.R,.X,.E] λcs5=>
 Θ ((γ [],[AqV (θ cs5 Δ Δ)])))
 (Θ ((γ [],[AqV (θ cs3 Δ Δ)]))))
 (Θ ((γ [],[AqV (θ cs3 Δ Δ)])))))
 (br (A.lt n1 n6)
 (br (A.lt n6 n4)
 (Ae D (ω 129) [χ 0 0 n 3,iv n1,iv n6,iv n4,Arb (Fn.func 61) [] []] [θ cs1 Δ Δ] [.t,.N,.R,.X,.E] λcs3=>
 br (A.lt n4 (A.sub δ n5 n6))
 (br (A.lt (A.sub δ n5 n6) n3)
 (Ae D (ω 129) [χ 0 0 n 3,iv n4,iv (A.sub δ n5 n6),iv n3,Arb (Fn.func 61) [] []] [θ cs3 Δ Δ] [.t,.N,.R,.X,.E] λcs5=>
 Θ ((γ [],[AqV (θ cs5 Δ Δ)])))
 (Θ ((γ [],[AqV (θ cs3 Δ Δ)]))))
 (Θ ((γ [],[AqV (θ cs3 Δ Δ)]))))
 (br (A.lt n4 (A.sub δ n5 n6))
 (br (A.lt (A.sub δ n5 n6) n3)
 (Ae D (ω 129) [χ 0 0 n 3,iv n4,iv (A.sub δ n5 n6),iv n3,Arb (Fn.func 61) [] []] [θ cs1 Δ Δ] [.t,.N,.R,.X,.E] λcs3=>
 Θ ((γ [],[AqV (θ cs3 Δ Δ)])))
 (Θ ((γ [],[AqV (θ cs1 Δ Δ)]))))
 (Θ ((γ [],[AqV (θ cs1 Δ Δ)])))))
 (br (A.lt n4 (A.sub δ n5 n6))
 (br (A.lt (A.sub δ n5 n6) n3)
 (Ae D (ω 129) [χ 0 0 n 3,iv n4,iv (A.sub δ n5 n6),iv n3,Arb (Fn.func 61) [] []] [θ cs1 Δ Δ] [.t,.N,.R,.X,.E] λcs3=>
 Θ ((γ [],[AqV (θ cs3 Δ Δ)])))
 (Θ ((γ [],[AqV (θ cs1 Δ Δ)]))))
 (Θ ((γ [],[AqV (θ cs1 Δ Δ)]))))))
 (br (A.lt n1 n6)
 (br (A.lt n6 n4)
 (Ae D (ω 129) [χ 0 0 n 3,iv n1,iv n6,iv n4,Arb (Fn.func 61) [] []] [θ cs1 Δ Δ] [.t,.N,.R,.X,.E] λcs3=>
 br (A.lt n4 (A.sub δ n5 n6))
 (br (A.lt (A.sub δ n5 n6) n3)
 (Ae D (ω 129) [χ 0 0 n 3,iv n4,iv (A.sub δ n5 n6),iv n3,Arb (Fn.func 61) [] []] [θ cs3 Δ Δ] [.t,.N,.R,.X,.E] λcs5=>
 Θ ((γ [],[AqV (θ cs5 Δ Δ)])))
 (Θ ((γ [],[AqV (θ cs3 Δ Δ)]))))
 (Θ ((γ [],[AqV (θ cs3 Δ Δ)]))))
 (br (A.lt n4 (A.sub δ n5 n6))
 (br (A.lt (A.sub δ n5 n6) n3)
 (Ae D (ω 129) [χ 0 0 n 3,iv n4,iv (A.sub δ n5 n6),iv n3,Arb (Fn.func 61) [] []] [θ cs1 Δ Δ] [.t,.N,.R,.X,.E] λcs3=>
 Θ ((γ [],[AqV (θ cs3 Δ Δ)])))
 (Θ ((γ [],[AqV (θ cs1 Δ Δ)]))))
 (Θ ((γ [],[AqV (θ cs1 Δ Δ)])))))
 (br (A.lt n4 (A.sub δ n5 n6))
 (br (A.lt (A.sub δ n5 n6) n3)
 (Ae D (ω 129) [χ 0 0 n 3,iv n4,iv (A.sub δ n5 n6),iv n3,Arb (Fn.func 61) [] []] [θ cs1 Δ Δ] [.t,.N,.R,.X,.E] λcs3=>
 Θ ((γ [],[AqV (θ cs3 Δ Δ)])))
 (Θ ((γ [],[AqV (θ cs1 Δ Δ)]))))
 (Θ ((γ [],[AqV (θ cs1 Δ Δ)]))))))
 (Ξ))
 (Ae D (ι 129 4) [χ 0 0 n0 3,iv x1,iv x2,iv x3,Arb (Fn.func 61) [] [],iv (A.conv δ (A.shr Ω (A.conv Ω (A.add δ x1 x3)) 1)),iv (A.add δ (A.conv δ (A.shr Ω (A.conv Ω (A.add δ x1 x3)) 1)) x2),iv x1,iv x2,iv (A.sub δ (A.add δ (A.conv δ (A.shr Ω (A.conv Ω (A.add δ x1 x3)) 1)) x2) 1)] [θ c0 Δ Δ] [.t,.C,.x,.X,.Y] λc l o=>
 br (Bm 9 c)
 (dk [.C,.q 0 3,.I,.I,.I,.C,.f 61,.I,.I,.I,.N,.R,.X,.E] [.l l,.o o] λn n1 n2 n3 n4 n5 n6 cs1=>
 br (A.lt n6 n2)
 (br (A.lt n2 (A.sub δ n5 n6))
 (Ae D (ω 142) [χ 0 0 n 3,iv n6,iv n2,iv (A.sub δ n5 n6),Arb (Fn.func 61) [] []] [θ cs1 Δ Δ] [.t,.N,.R,.X,.E] λcs3=>
 br (A.lt n1 n6)
 (br (A.lt n6 n4)
 (Ae D (ω 129) [χ 0 0 n 3,iv n1,iv n6,iv n4,Arb (Fn.func 61) [] []] [θ cs3 Δ Δ] [.t,.N,.R,.X,.E] λcs5=>
 br (A.lt n4 (A.sub δ n5 n6))
 (br (A.lt (A.sub δ n5 n6) n3)
 (Ae D (ω 129) [χ 0 0 n 3,iv n4,iv (A.sub δ n5 n6),iv n3,Arb (Fn.func 61) [] []] [θ cs5 Δ Δ] [.t,.N,.R,.X,.E] λcs7=>
 Θ ((γ [],[AqV (θ cs7 Δ Δ)])))
 (Θ ((γ [],[AqV (θ cs5 Δ Δ)]))))
 (Θ ((γ [],[AqV (θ cs5 Δ Δ)]))))
 (br (A.lt n4 (A.sub δ n5 n6))
 (br (A.lt (A.sub δ n5 n6) n3)
 (Ae D (ω 129) [χ 0 0 n 3,iv n4,iv (A.sub δ n5 n6),iv n3,Arb (Fn.func 61) [] []] [θ cs3 Δ Δ] [.t,.N,.R,.X,.E] λcs5=>
 Θ ((γ [],[AqV (θ cs5 Δ Δ)])))
 (Θ ((γ [],[AqV (θ cs3 Δ Δ)]))))
 (Θ ((γ [],[AqV (θ cs3 Δ Δ)])))))
 (br (A.lt n4 (A.sub δ n5 n6))
 (br (A.lt (A.sub δ n5 n6) n3)
 (Ae D (ω 129) [χ 0 0 n 3,iv n4,iv (A.sub δ n5 n6),iv n3,Arb (Fn.func 61) [] []] [θ cs3 Δ Δ] [.t,.N,.R,.X,.E] λcs5=>
 Θ ((γ [],[AqV (θ cs5 Δ Δ)])))
 (Θ ((γ [],[AqV (θ cs3 Δ Δ)]))))
 (Θ ((γ [],[AqV (θ cs3 Δ Δ)])))))
 (br (A.lt n1 n6)
 (br (A.lt n6 n4)
 (Ae D (ω 129) [χ 0 0 n 3,iv n1,iv n6,iv n4,Arb (Fn.func 61) [] []] [θ cs1 Δ Δ] [.t,.N,.R,.X,.E] λcs3=>
 br (A.lt n4 (A.sub δ n5 n6))
 (br (A.lt (A.sub δ n5 n6) n3)
 (Ae D (ω 129) [χ 0 0 n 3,iv n4,iv (A.sub δ n5 n6),iv n3,Arb (Fn.func 61) [] []] [θ cs3 Δ Δ] [.t,.N,.R,.X,.E] λcs5=>
 Θ ((γ [],[AqV (θ cs5 Δ Δ)])))
 (Θ ((γ [],[AqV (θ cs3 Δ Δ)]))))
 (Θ ((γ [],[AqV (θ cs3 Δ Δ)]))))
 (br (A.lt n4 (A.sub δ n5 n6))
 (br (A.lt (A.sub δ n5 n6) n3)
 (Ae D (ω 129) [χ 0 0 n 3,iv n4,iv (A.sub δ n5 n6),iv n3,Arb (Fn.func 61) [] []] [θ cs1 Δ Δ] [.t,.N,.R,.X,.E] λcs3=>
 Θ ((γ [],[AqV (θ cs3 Δ Δ)])))
 (Θ ((γ [],[AqV (θ cs1 Δ Δ)]))))
 (Θ ((γ [],[AqV (θ cs1 Δ Δ)])))))
 (br (A.lt n4 (A.sub δ n5 n6))
 (br (A.lt (A.sub δ n5 n6) n3)
 (Ae D (ω 129) [χ 0 0 n 3,iv n4,iv (A.sub δ n5 n6),iv n3,Arb (Fn.func 61) [] []] [θ cs1 Δ Δ] [.t,.N,.R,.X,.E] λcs3=>
 Θ ((γ [],[AqV (θ cs3 Δ Δ)])))
 (Θ ((γ [],[AqV (θ cs1 Δ Δ)]))))
 (Θ ((γ [],[AqV (θ cs1 Δ Δ)]))))))
 (br (A.lt n1 n6)
 (br (A.lt n6 n4)
 (Ae D (ω 129) [χ 0 0 n 3,iv n1,iv n6,iv n4,Arb (Fn.func 61) [] []] [θ cs1 Δ Δ] [.t,.N,.R,.X,.E] λcs3=>
 br (A.lt n4 (A.sub δ n5 n6))
 (br (A.lt (A.sub δ n5 n6) n3)
 (Ae D (ω 129) [χ 0 0 n 3,iv n4,iv (A.sub δ n5 n6),iv n3,Arb (Fn.func 61) [] []] [θ cs3 Δ Δ] [.t,.N,.R,.X,.E] λcs5=>
 Θ ((γ [],[AqV (θ cs5 Δ Δ)])))
 (Θ ((γ [],[AqV (θ cs3 Δ Δ)]))))
 (Θ ((γ [],[AqV (θ cs3 Δ Δ)]))))
 (br (A.lt n4 (A.sub δ n5 n6))
 (br (A.lt (A.sub δ n5 n6) n3)
 (Ae D (ω 129) [χ 0 0 n 3,iv n4,iv (A.sub δ n5 n6),iv n3,Arb (Fn.func 61) [] []] [θ cs1 Δ Δ] [.t,.N,.R,.X,.E] λcs3=>
 Θ ((γ [],[AqV (θ cs3 Δ Δ)])))
 (Θ ((γ [],[AqV (θ cs1 Δ Δ)]))))
 (Θ ((γ [],[AqV (θ cs1 Δ Δ)])))))
 (br (A.lt n4 (A.sub δ n5 n6))
 (br (A.lt (A.sub δ n5 n6) n3)
 (Ae D (ω 129) [χ 0 0 n 3,iv n4,iv (A.sub δ n5 n6),iv n3,Arb (Fn.func 61) [] []] [θ cs1 Δ Δ] [.t,.N,.R,.X,.E] λcs3=>
 Θ ((γ [],[AqV (θ cs3 Δ Δ)])))
 (Θ ((γ [],[AqV (θ cs1 Δ Δ)]))))
 (Θ ((γ [],[AqV (θ cs1 Δ Δ)]))))))
 (Ξ))))):=by kernel_rfl
theorem VP(n0:Nat)(c0:List AV)(t1 t10 t11:Int):CS A D Al CM .n 129 0 (AJ Hh 0).fst (AJ Hh 0).snd [χ 0 0 n0 3,iv t1,Arb (Fn.func 61) [] [],iv t10,iv t11] [{ cells:=c0,st:=Δ,ex:=Δ }] =
 br (A.lt t10 t11)
 (br (A.lt 1 0)
 (Ξ)
 (unI (A.conv δ (A.shr Ω (A.conv Ω (A.add δ t10 t11)) 1)) λi=>
 br (i.blt n0) (EX c0 (0+i*3) 3 λcs=>
 dk [.I,.B,.L,.N] [.l cs] λn b xs=>
 unI t1 λi1=>
 br (i1.blt n0) (EX c0 (0+i1*3) 3 λcs1=>
 dk [.I,.B,.L,.N] [.l cs1] λn1 b1 xs1=>
 Ae D (ω 61) [φ [iv n,bv b,Ψ xs],φ [iv n1,bv b1,Ψ xs1]] [] [.i,.E] λn2=>
 br (A.lt n2 0)
 (AA D (ι 129 0) [χ 0 0 n0 3,iv t1,Arb (Fn.func 61) [] [],iv (A.add δ (A.conv δ (A.shr Ω (A.conv Ω (A.add δ t10 t11)) 1)) 1),iv t11] [θ c0 Δ Δ] λr1 o1=>
 As 1 [0] (AH.mk [(0,θ c0 Δ Δ)] 1 Ξ) [] r1 o1)
 (AA D (ι 129 0) [χ 0 0 n0 3,iv t1,Arb (Fn.func 61) [] [],iv t10,iv (A.conv δ (A.shr Ω (A.conv Ω (A.add δ t10 t11)) 1))] [θ c0 Δ Δ] λr1 o1=>
 As 1 [0] (AH.mk [(0,θ c0 Δ Δ)] 1 Ξ) [] r1 o1)) Ξ) Ξ))
 (Θ ((γ [iv 0,χ 0 0 n0 3,iv t1,iv t10],[AqV (θ c0 Δ Δ)]))):=by kernel_rfl
theorem Abq(n0:Nat)(c0:List AV)(t10 t13:Int):CS A D Al CM .n 129 1 (AJ Hh 1).fst (AJ Hh 1).snd [χ 0 0 n0 3,iv t10,iv t13] [{ cells:=c0,st:=Δ,ex:=Δ }] =
 br (A.lt t13 (A.sub δ t10 1))
 (unI (A.add δ t13 1) λi=>
 br (i.blt n0) (EX c0 (0+i*3) 3 λcs=>
 dk [.I,.B,.L,.N] [.l cs] λn b xs=>
 unI t13 λi1=>
 br (i1.blt n0) (EX c0 (0+i1*3) 3 λcs1=>
 dk [.I,.B,.L,.N] [.l cs1] λn1 b1 xs1=>
 unI t13 λi2=>
 br (i2.blt n0) (br ((0+i2*3+3).ble c0.length) (unI (A.add δ t13 1) λi3=>
 br (i3.blt n0) (br ((0+i3*3+3).ble (AI c0 (0+i2*3) [iv n,bv b,Ψ xs]).length) (AA D (ι 129 1) [χ 0 0 n0 3,iv t10,iv (A.add δ t13 1)] [θ (AI (AI c0 (0+i2*3) [iv n,bv b,Ψ xs]) (0+i3*3) [iv n1,bv b1,Ψ xs1]) Δ Δ] λr o=>
 As 1 [0] (AH.mk [(0,θ (AI (AI c0 (0+i2*3) [iv n,bv b,Ψ xs]) (0+i3*3) [iv n1,bv b1,Ψ xs1]) Δ Δ)] 1 Ξ) [0] r o) Ξ) Ξ) Ξ) Ξ) Ξ) Ξ)
 (Θ ((γ [iv 2,χ 0 0 n0 3],[AqV (θ c0 Δ Δ)]))):=by kernel_rfl
theorem VQ(n0:Nat)(c0:List AV)(t2 t14 t15:Int):CS A D Al CM .n 129 2 (AJ Hh 2).fst (AJ Hh 2).snd [χ 0 0 n0 3,iv t2,Arb (Fn.func 61) [] [],iv t14,iv t15] [{ cells:=c0,st:=Δ,ex:=Δ }] =
 br (A.lt t14 t15)
 (br (A.lt 1 0)
 (Ξ)
 (unI t2 λi=>
 br (i.blt n0) (EX c0 (0+i*3) 3 λcs=>
 dk [.I,.B,.L,.N] [.l cs] λn b xs=>
 unI (A.conv δ (A.shr Ω (A.conv Ω (A.add δ t14 t15)) 1)) λi1=>
 br (i1.blt n0) (EX c0 (0+i1*3) 3 λcs1=>
 dk [.I,.B,.L,.N] [.l cs1] λn1 b1 xs1=>
 Ae D (ω 61) [φ [iv n,bv b,Ψ xs],φ [iv n1,bv b1,Ψ xs1]] [] [.i,.E] λn2=>
 br (A.lt n2 0)
 (AA D (ι 129 2) [χ 0 0 n0 3,iv t2,Arb (Fn.func 61) [] [],iv t14,iv (A.conv δ (A.shr Ω (A.conv Ω (A.add δ t14 t15)) 1))] [θ c0 Δ Δ] λr1 o1=>
 As 1 [0] (AH.mk [(0,θ c0 Δ Δ)] 1 Ξ) [] r1 o1)
 (AA D (ι 129 2) [χ 0 0 n0 3,iv t2,Arb (Fn.func 61) [] [],iv (A.add δ (A.conv δ (A.shr Ω (A.conv Ω (A.add δ t14 t15)) 1)) 1),iv t15] [θ c0 Δ Δ] λr1 o1=>
 As 1 [0] (AH.mk [(0,θ c0 Δ Δ)] 1 Ξ) [] r1 o1)) Ξ) Ξ))
 (Θ ((γ [iv 4,χ 0 0 n0 3,iv t2,iv t14],[AqV (θ c0 Δ Δ)]))):=by kernel_rfl
theorem Abr(n0:Nat)(c0:List AV)(t14 t17:Int):CS A D Al CM .n 129 3 (AJ Hh 3).fst (AJ Hh 3).snd [χ 0 0 n0 3,iv t14,iv t17] [{ cells:=c0,st:=Δ,ex:=Δ }] =
 br (A.lt t14 t17)
 (unI (A.sub δ t17 1) λi=>
 br (i.blt n0) (EX c0 (0+i*3) 3 λcs=>
 dk [.I,.B,.L,.N] [.l cs] λn b xs=>
 unI t17 λi1=>
 br (i1.blt n0) (EX c0 (0+i1*3) 3 λcs1=>
 dk [.I,.B,.L,.N] [.l cs1] λn1 b1 xs1=>
 unI t17 λi2=>
 br (i2.blt n0) (br ((0+i2*3+3).ble c0.length) (unI (A.sub δ t17 1) λi3=>
 br (i3.blt n0) (br ((0+i3*3+3).ble (AI c0 (0+i2*3) [iv n,bv b,Ψ xs]).length) (AA D (ι 129 3) [χ 0 0 n0 3,iv t14,iv (A.sub δ t17 1)] [θ (AI (AI c0 (0+i2*3) [iv n,bv b,Ψ xs]) (0+i3*3) [iv n1,bv b1,Ψ xs1]) Δ Δ] λr o=>
 As 1 [0] (AH.mk [(0,θ (AI (AI c0 (0+i2*3) [iv n,bv b,Ψ xs]) (0+i3*3) [iv n1,bv b1,Ψ xs1]) Δ Δ)] 1 Ξ) [0] r o) Ξ) Ξ) Ξ) Ξ) Ξ) Ξ)
 (Θ ((γ [iv 6,χ 0 0 n0 3],[AqV (θ c0 Δ Δ)]))):=by kernel_rfl
theorem VR(n0:Nat)(c0:List AV)(t1 t2 t3 t18 t19 t20 t21 t22:Int):CS A D Al CM .n 129 4 (AJ Hh 4).fst (AJ Hh 4).snd [χ 0 0 n0 3,iv t1,iv t2,iv t3,Arb (Fn.func 61) [] [],iv t18,iv t19,iv t20,iv t21,iv t22] [{ cells:=c0,st:=Δ,ex:=Δ }] =
 br (A.lt t20 t21)
 (br (A.lt 1 0)
 (Ξ)
 (unI (A.sub δ t22 (A.conv δ (A.shr Ω (A.conv Ω (A.add δ t20 t21)) 1))) λi=>
 br (i.blt n0) (EX c0 (0+i*3) 3 λcs=>
 dk [.I,.B,.L,.N] [.l cs] λn b xs=>
 unI (A.conv δ (A.shr Ω (A.conv Ω (A.add δ t20 t21)) 1)) λi1=>
 br (i1.blt n0) (EX c0 (0+i1*3) 3 λcs1=>
 dk [.I,.B,.L,.N] [.l cs1] λn1 b1 xs1=>
 Ae D (ω 61) [φ [iv n,bv b,Ψ xs],φ [iv n1,bv b1,Ψ xs1]] [] [.i,.E] λn2=>
 br (A.lt n2 0)
 (AA D (ι 129 4) [χ 0 0 n0 3,iv t1,iv t2,iv t3,Arb (Fn.func 61) [] [],iv t18,iv t19,iv t20,iv (A.conv δ (A.shr Ω (A.conv Ω (A.add δ t20 t21)) 1)),iv t22] [θ c0 Δ Δ] λr1 o1=>
 As 1 [0] (AH.mk [(0,θ c0 Δ Δ)] 1 Ξ) [] r1 o1)
 (AA D (ι 129 4) [χ 0 0 n0 3,iv t1,iv t2,iv t3,Arb (Fn.func 61) [] [],iv t18,iv t19,iv (A.add δ (A.conv δ (A.shr Ω (A.conv Ω (A.add δ t20 t21)) 1)) 1),iv t21,iv t22] [θ c0 Δ Δ] λr1 o1=>
 As 1 [0] (AH.mk [(0,θ c0 Δ Δ)] 1 Ξ) [] r1 o1)) Ξ) Ξ))
 (Θ ((γ [iv 8,χ 0 0 n0 3,iv t1,iv t2,iv t3,Arb (Fn.func 61) [] [],iv t18,iv t19,iv t20],[AqV (θ c0 Δ Δ)]))):=by kernel_rfl
theorem AoQ(n0:Nat)(c0:List AV)(x1 x2 x3:Int):BN A D Al Qx .n 142 XZ [χ 0 0 n0 3,iv x1,iv x2,iv x3,Arb (Fn.func 61) [] []] [{ cells:=c0,st:=Δ,ex:=Δ }] =
 Ae D (ι 142 0) [χ 0 0 n0 3,iv x2,Arb (Fn.func 61) [] [],iv (A.sub δ x2 x1),iv (A.sub δ x3 x2)] [θ c0 Δ Δ] [.t,.C,.x,.X,.Y] λc l o=>
 br (Bm 1 c)
 (dk [.C,.q 0 3,.I,.C,.f 61,.I,.N,.R,.X,.E] [.l l,.o o] λn n1 n2 cs1=>
 Ae D (ω 145) [χ 0 0 n 3,iv (A.sub δ n1 n2),iv n1,iv n2,Arb (Fn.func 61) [] []] [θ cs1 Δ Δ] [.t,.N,.R,.X,.E] λcs3=>
 Θ ((γ [],[AqV (θ cs3 Δ Δ)])))
 (Ξ):=by kernel_rfl
theorem VS(n0:Nat)(c0:List AV)(t2 t10 t11:Int):CS A D Al Qx .n 142 0 (AJ XZ 0).fst (AJ XZ 0).snd [χ 0 0 n0 3,iv t2,Arb (Fn.func 61) [] [],iv t10,iv t11] [{ cells:=c0,st:=Δ,ex:=Δ }] =
 br (A.eq t10 t11)
 (Θ ((γ [iv 0,χ 0 0 n0 3,iv t2,Arb (Fn.func 61) [] [],iv t10],[AqV (θ c0 Δ Δ)])))
 (br (A.lt t11 t10)
 (Ae D (ω 145) [χ 0 0 n0 3,iv (A.sub δ t2 t10),iv t2,iv t11,Arb (Fn.func 61) [] []] [θ c0 Δ Δ] [.t,.N,.R,.X,.E] λcs1=>
 AA D (ι 142 0) [χ 0 0 n0 3,iv t2,Arb (Fn.func 61) [] [],iv (A.sub δ t10 t11),iv t11] [θ cs1 Δ Δ] λr1 o1=>
 As 1 [0] (AH.mk [(0,θ cs1 Δ Δ)] 1 Ξ) [0] r1 o1)
 (Ae D (ω 145) [χ 0 0 n0 3,iv (A.sub δ t2 t10),iv (A.sub δ (A.add δ t2 t11) t10),iv t10,Arb (Fn.func 61) [] []] [θ c0 Δ Δ] [.t,.N,.R,.X,.E] λcs1=>
 AA D (ι 142 0) [χ 0 0 n0 3,iv t2,Arb (Fn.func 61) [] [],iv t10,iv (A.sub δ t11 t10)] [θ cs1 Δ Δ] λr1 o1=>
 As 1 [0] (AH.mk [(0,θ cs1 Δ Δ)] 1 Ξ) [0] r1 o1)):=by kernel_rfl
theorem AoS(n0:Nat)(c0:List AV)(x1 x2 x3:Int):BN A D Al T5 .n 145 X0 [χ 0 0 n0 3,iv x1,iv x2,iv x3,Arb (Fn.func 61) [] []] [{ cells:=c0,st:=Δ,ex:=Δ }] =
 Ae D (ι 145 0) [χ 0 0 n0 3,iv x1,iv x2,iv x3,iv 0] [θ c0 Δ Δ] [.t,.C,.x,.X,.Y] λc l o=>
 br (Bm 1 c)
 (dk [.C,.q 0 3,.N,.R,.X,.E] [.l l,.o o] λ_ cs1=>
 Θ ((γ [],[AqV (θ cs1 Δ Δ)])))
 (Ξ):=by kernel_rfl
theorem Abw(n0:Nat)(c0:List AV)(t1 t2 t3 t10:Int):CS A D Al T5 .n 145 0 (AJ X0 0).fst (AJ X0 0).snd [χ 0 0 n0 3,iv t1,iv t2,iv t3,iv t10] [{ cells:=c0,st:=Δ,ex:=Δ }] =
 br (A.lt t10 t3)
 (unI (A.add δ t2 t10) λi=>
 br (i.blt n0) (EX c0 (0+i*3) 3 λcs=>
 dk [.I,.B,.L,.N] [.l cs] λn b xs=>
 unI (A.add δ t1 t10) λi1=>
 br (i1.blt n0) (EX c0 (0+i1*3) 3 λcs1=>
 dk [.I,.B,.L,.N] [.l cs1] λn1 b1 xs1=>
 unI (A.add δ t1 t10) λi2=>
 br (i2.blt n0) (br ((0+i2*3+3).ble c0.length) (unI (A.add δ t2 t10) λi3=>
 br (i3.blt n0) (br ((0+i3*3+3).ble (AI c0 (0+i2*3) [iv n,bv b,Ψ xs]).length) (AA D (ι 145 0) [χ 0 0 n0 3,iv t1,iv t2,iv t3,iv (A.add δ t10 1)] [θ (AI (AI c0 (0+i2*3) [iv n,bv b,Ψ xs]) (0+i3*3) [iv n1,bv b1,Ψ xs1]) Δ Δ] λr o=>
 As 1 [0] (AH.mk [(0,θ (AI (AI c0 (0+i2*3) [iv n,bv b,Ψ xs]) (0+i3*3) [iv n1,bv b1,Ψ xs1]) Δ Δ)] 1 Ξ) [0] r o) Ξ) Ξ) Ξ) Ξ) Ξ) Ξ)
 (Θ ((γ [iv 0,χ 0 0 n0 3],[AqV (θ c0 Δ Δ)]))):=by kernel_rfl
theorem e64(n0:Nat)(c0:List AV):BN A D Al Wh .n 64 Afw [χ 0 0 n0 3,Arb (Fn.func 65) [] []] [{ cells:=c0,st:=Δ,ex:=Δ }] =
 Ae D (ω 104) [χ 0 0 n0 3,Arb (Fn.func 65) [] []] [θ c0 Δ Δ] [.i,.R,.X,.E] λn cs=>
 br (A.eq n (-1))
 (Θ ((χ 0 0 n0 3,[AqV (θ cs Δ Δ)])))
 (Ae D (ι 64 0) [χ 0 0 n0 3,Arb (Fn.func 65) [] [],iv n,iv (A.add δ n 1)] [θ cs Δ Δ] [.t,.C,.x,.X,.Y] λc1 l1 o1=>
 br (Bm 1 c1)
 (dk [.C,.q 0 3,.I,.N,.R,.X,.E] [.l l1,.o o1] λn1 n2 cs2=>
 unI n2 λi=>
 br (KA i n1 n1) (br ((0+i*3+(n1-i)*3).ble cs2.length) (unI n2 λi1=>
 br (KA 0 i1 n1) (Θ ((χ 0 0 i1 3,[AqV (θ (AI cs2 (0+i*3) (BW [iv 0,bv Φ,AV.v (Value.slice Ξ 0 0)] ((n1-i)*3))) Δ Δ)]))) Ξ) Ξ) Ξ)
 (Ξ)):=by kernel_rfl
theorem Abz(n0:Nat)(c0:List AV)(t5 t6:Int):CS A D Al Wh .n 64 0 (AJ Afw 0).fst (AJ Afw 0).snd [χ 0 0 n0 3,Arb (Fn.func 65) [] [],iv t5,iv t6] [{ cells:=c0,st:=Δ,ex:=Δ }] =
 br (A.lt t6 ↑n0)
 (unI t6 λi=>
 br (i.blt n0) (EX c0 (0+i*3) 3 λcs=>
 dk [.I,.B,.L,.N] [.l cs] λn b xs=>
 Ae D (ω 65) [φ [iv n,bv b,Ψ xs]] [] [.b,.E] λb1=>
 br b1
 (AA D (ι 64 0) [χ 0 0 n0 3,Arb (Fn.func 65) [] [],iv t5,iv (A.add δ t6 1)] [θ c0 Δ Δ] λr1 o1=>
 As 1 [0] (AH.mk [(1,bk [iv n,bv b,Ψ xs]),(0,θ c0 Δ Δ)] 2 Ξ) [] r1 o1)
 (unI t5 λi1=>
 br (i1.blt n0) (br ((0+i1*3+3).ble c0.length) (AA D (ι 64 0) [χ 0 0 n0 3,Arb (Fn.func 65) [] [],iv (A.add δ t5 1),iv (A.add δ t6 1)] [θ (AI c0 (0+i1*3) [iv n,bv b,Ψ xs]) Δ Δ] λr1 o1=>
 As 1 [0] (AH.mk [(0,θ (AI c0 (0+i1*3) [iv n,bv b,Ψ xs]) Δ Δ),(1,bk [iv n,bv b,Ψ xs])] 2 Ξ) [0] r1 o1) Ξ) Ξ)) Ξ)
 (Θ ((γ [iv 0,χ 0 0 n0 3,iv t5],[AqV (θ c0 Δ Δ)]))):=by kernel_rfl
theorem Aox(n0:Nat)(c0:List AV):BN A D Al Ot .n 104 XO [χ 0 0 n0 3,Arb (Fn.func 65) [] []] [{ cells:=c0,st:=Δ,ex:=Δ }] =
 Ae D (ι 104 0) [χ 0 0 n0 3,Arb (Fn.func 65) [] [],iv ↑n0,iv 0] [θ c0 Δ Δ] [.t,.C,.x,.X,.Y] λc l o=>
 br (Bm 0 c)
 (dk [.C,.q 0 3,.I,.N,.R,.X,.E] [.l l,.o o] λ_ n1 cs1=>
 Θ ((iv n1,[AqV (θ cs1 Δ Δ)])))
 (br (Bm 1 c)
 (dk [.C,.q 0 3,.N,.R,.X,.E] [.l l,.o o] λ_ cs1=>
 Θ ((iv (-1),[AqV (θ cs1 Δ Δ)])))
 (Ξ)):=by kernel_rfl
theorem RM(n0:Nat)(c0:List AV)(t7 t8:Int):CS A D Al Ot .n 104 0 (AJ XO 0).fst (AJ XO 0).snd [χ 0 0 n0 3,Arb (Fn.func 65) [] [],iv t7,iv t8] [{ cells:=c0,st:=Δ,ex:=Δ }] =
 br (A.lt t8 t7)
 (unI t8 λi=>
 br (i.blt n0) (EX c0 (0+i*3) 3 λcs=>
 dk [.I,.B,.L,.N] [.l cs] λn b xs=>
 Ae D (ω 65) [φ [iv n,bv b,Ψ xs]] [] [.b,.E] λb1=>
 br b1
 (Θ ((γ [bv Δ,χ 0 0 n0 3,iv t8],[AqV (θ c0 Δ Δ)])))
 (AA D (ι 104 0) [χ 0 0 n0 3,Arb (Fn.func 65) [] [],iv t7,iv (A.add δ t8 1)] [θ c0 Δ Δ] λr1 o1=>
 As 1 [0] (AH.mk [(0,θ c0 Δ Δ)] 1 Ξ) [] r1 o1)) Ξ)
 (Θ ((γ [iv 0,χ 0 0 n0 3],[AqV (θ c0 Δ Δ)]))):=by kernel_rfl
end
section
open Go.RowKit
def Ang:MFn:=BI [] 62
def AlX:Hnt:=⟨[(71,(.agg Ay,[]))],[],[(4,[.bool]),(6,[.ls])]⟩
def Afo:MFn:=BI [⟨74,(mB 917524),[(1000004,3)],[2,17],[(1,((mB 20),([],[])))]⟩] 26
def AbY:Hnt:=⟨[(59,(.sl 0 3,[.row Δ])),(60,(.tup [],[.row Δ])),(62,(.agg Ay,[])),(63,(.agg Ay,[])),(64,(.sl 0 3,[.row Δ]))],[(0,[(1,([.ptr 0 0,.ptr 1 0],[.box Bl,.box [.sl 3 3,.bool,.ls],.del,.row Δ]))])],[(9,[.ls]),(14,Ay),(21,Br),(22,Br),(24,[.int .i64]),(27,[.ls]),(34,[.ls]),(36,Br),(38,[.int .i64]),(40,[.int .i64]),(44,[.ls]),(47,[.ls]),(49,Br),(51,Ay),(53,Ay),(55,Br),(58,[.ls]),(60,[.int .i64]),(62,Ay),(70,[.ls]),(73,Bl)]⟩
def FP:List (Nat × MFn):=[(62,Ang),(26,Afo)]
variable (A:Ar) (D:Orc)
theorem e62(x0_0:Bool)(x0_1:Rw):BN A D Al AlX .n 62 Ang [φ [bv x0_0,Ψ x0_1]] [] =
 Ae D (ω 71) [bv x0_0,Ψ x0_1] [] [.a,.B,.L,.N,.E] λb xs=>
 Θ ((φ [bv b,Ψ xs],[])):=by kernel_rfl
theorem e26(x0_0:Rw)(x0_1:Bool)(x0_2:Rw):BN A D Al AbY .n 26 Afo [φ [Ψ x0_0,bv x0_1,Ψ x0_2]] [] =
 Ae D (ω 59) [Ψ x0_0] [] [.q 0 3,.R,.X,.E] λn cs=>
 Ae D (ω 60) [χ 0 0 n 3,Arb (Fn.func 61) [] []] [θ cs Δ Δ] [.t,.N,.R,.X,.E] λcs2=>
 Ae D (ω 62) [φ [bv x0_1,Ψ x0_2]] [] [.a,.B,.L,.N,.E] λb xs=>
 br ((0+n*3).ble cs2.length) (AA D (ι 26 0) [η 0 0,η 1 0,Ψ (Bi n 3 (ε (n*3) cs2)),iv ↑n,iv 0] [bk [Ψ [],bv Φ,Ψ []],bk [χ 2 0 0 3,bv b,Ψ xs],θ [] Δ Δ] λr3 o3=>
 dk [.t,.C,.x,.X] [.v r3] λc2 l4=>
 br (Bm 1 c2)
 (dk [.P 0 0,.P 1 0,.N,.T,.L,.B,.L,.N,.T,.C,.q 3 3,.B,.L,.N,.D,.R,.X,.E] [.l l4,.o o3] λ_ _ _ n1 b2 xs3 cs7=>
 Ae D (ω 64) [χ 0 0 n1 3,Arb (Fn.func 65) [] []] [θ cs7 Δ Δ] [.q 0 3,.R,.X,.E] λn2 cs8=>
 br ((0+n2*3).ble cs8.length) (Θ ((φ [Ψ (Bi n2 3 (ε (n2*3) cs8)),bv b2,Ψ xs3],[]))) Ξ)
 (Ξ)) Ξ:=by kernel_rfl
theorem Ahj(r0:Rw)(r1:Bool)(r2:Rw)(n4:Nat)(k1:Bool)(k2:Rw)(c4:List AV)(t17:Rw)(t18 t19:Int):CS A D Al AbY .n 26 0 (AJ Afo 0).fst (AJ Afo 0).snd [η 0 0,η 1 0,Ψ t17,iv t18,iv t19] [bk [Ψ r0,bv r1,Ψ r2],bk [χ 2 0 n4 3,bv k1,Ψ k2],{ cells:=c4,st:=Δ,ex:=Δ }] =
 br (A.lt t19 t18)
 (unI t19 λi=>
 Bj t17 i λcs=>
 dk [.I,.B,.L,.N] [.l cs] λn b xs=>
 br (A.lt n 0)
 (AA D (ι 26 0) [η 0 0,η 1 0,Ψ t17,iv t18,iv (A.add δ t19 1)] [bk [Ψ r0,bv r1,Ψ r2],bk [χ 2 0 n4 3,bv k1,Ψ k2],θ c4 Δ Δ] λr o=>
 As 3 [0,1,2] (AH.mk [(0,bk [Ψ r0,bv r1,Ψ r2]),(3,bk [iv n,bv b,Ψ xs]),(1,bk [χ 2 0 n4 3,bv k1,Ψ k2]),(2,θ c4 Δ Δ)] 4 Ξ) [0] r o)
 (br (A.le 0 (A.sub δ (↑n4) 1))
 (unI (A.sub δ (↑n4) 1) λi1=>
 br (i1.blt n4) (EX c4 (0+i1*3+0) 1 λcs1=>
 dk [.I,.N] [.l cs1] λn1=>
 br (A.eq n1 n)
 (unI (A.sub δ (↑n4) 1) λi2=>
 br (i2.blt n4) (EX c4 (0+i2*3+1) 2 λcs2=>
 dk [.B,.L,.N] [.l cs2] λb1 xs1=>
 Ae D (ω 63) [φ [bv b1,Ψ xs1],φ [bv b,Ψ xs]] [] [.a,.B,.L,.N,.E] λb2 xs2=>
 unI (A.sub δ (↑n4) 1) λi3=>
 br (i3.blt n4) (br ((0+i3*3+1+2).ble c4.length) (AA D (ι 26 0) [η 0 0,η 1 0,Ψ t17,iv t18,iv (A.add δ t19 1)] [bk [Ψ r0,bv r1,Ψ r2],bk [χ 2 0 n4 3,bv k1,Ψ k2],θ (AI c4 (0+i3*3+1) [bv b2,Ψ xs2]) Δ Δ] λr3 o1=>
 As 3 [0,1,2] (AH.mk [(0,bk [Ψ r0,bv r1,Ψ r2]),(2,θ (AI c4 (0+i3*3+1) [bv b2,Ψ xs2]) Δ Δ),(3,bk [iv n,bv b,Ψ xs]),(1,bk [χ 2 0 n4 3,bv k1,Ψ k2])] 4 Ξ) [2,0] r3 o1) Ξ) Ξ) Ξ)
 (Ae D (ω 62) [φ [bv b,Ψ xs]] [] [.a,.B,.L,.N,.E] λb1 xs1=>
 br (AZ (n4+1) 40) (br ((0+n4*3).ble c4.length) (AA D (ι 26 0) [η 0 0,η 1 0,Ψ t17,iv t18,iv (A.add δ t19 1)] [bk [Ψ r0,bv r1,Ψ r2],bk [χ 2 0 (n4+1) 3,bv k1,Ψ k2],θ (AqT 0 (ε (0+n4*3) c4)++[iv n,bv b1,Ψ xs1]) Δ Δ] λr3 o1=>
 As 3 [0,1,5] (AH.mk [(0,bk [Ψ r0,bv r1,Ψ r2]),(1,bk [χ 5 0 (n4+1) 3,bv k1,Ψ k2]),(5,θ (AqT 0 (ε (0+n4*3) c4)++[iv n,bv b1,Ψ xs1]) Δ Δ),(4,θ [iv n,bv b1,Ψ xs1] Δ Δ),(3,bk [iv n,bv b,Ψ xs])] 6 Ξ) [2,1,0] r3 o1) Ξ) Ξ)) Ξ)
 (Ae D (ω 62) [φ [bv b,Ψ xs]] [] [.a,.B,.L,.N,.E] λb1 xs1=>
 br (AZ (n4+1) 40) (br ((0+n4*3).ble c4.length) (AA D (ι 26 0) [η 0 0,η 1 0,Ψ t17,iv t18,iv (A.add δ t19 1)] [bk [Ψ r0,bv r1,Ψ r2],bk [χ 2 0 (n4+1) 3,bv k1,Ψ k2],θ (AqT 0 (ε (0+n4*3) c4)++[iv n,bv b1,Ψ xs1]) Δ Δ] λr3 o1=>
 As 3 [0,1,5] (AH.mk [(0,bk [Ψ r0,bv r1,Ψ r2]),(1,bk [χ 5 0 (n4+1) 3,bv k1,Ψ k2]),(5,θ (AqT 0 (ε (0+n4*3) c4)++[iv n,bv b1,Ψ xs1]) Δ Δ),(4,θ [iv n,bv b1,Ψ xs1] Δ Δ),(3,bk [iv n,bv b,Ψ xs])] 6 Ξ) [2,1,0] r3 o1) Ξ) Ξ)))
 (Θ ((γ [iv 0,η 0 0,η 1 0],[AqV (bk [Ψ r0,bv r1,Ψ r2]),AqV (bk [χ 3 0 n4 3,bv k1,Ψ k2]),BO.del,AqV (θ c4 Δ Δ)]))):=by kernel_rfl
end
section
open Go.RowKit
def XR:MFn:=BI [⟨25,[Δ,Δ],[],[],[(1,([Δ],([],[])))]⟩] 113
def Qv:Hnt:=⟨[(70,(.tup AgA,[])),(109,(.ls,[]))],[(0,[(1,([.ls],[]))])],[]⟩
def Ann:MFn:=BI [] 72
def Al4:Hnt:=⟨[(39,(.agg Ay,[])),(63,(.agg Ay,[]))],[],[(5,Ay),(6,Ay)]⟩
def AmV:MFn:=BI [] 32
def AlD:Hnt:=⟨[(63,(.agg Ay,[])),(68,(.agg Ay,[])),(70,(.tup AgA,[])),(71,(.agg Ay,[])),(72,(.agg Ay,[])),(73,(.agg Ay,[]))],[],[(9,Ay),(11,Ay),(15,[.ls]),(17,[.ls]),(28,[.bool]),(30,[.bool]),(35,[.bool]),(39,[.bool]),(41,[.bool]),(48,Ay),(51,Ay),(52,Ay),(54,Ay),(55,Ay)]⟩
def Anl:MFn:=BI [] 69
def Al2:Hnt:=⟨[(30,(.int .i64,[])),(32,(.tup [.agg Ay,.agg Ay,.int .i64],[]))],[],[(10,Ay),(11,Ay),(22,Ay),(26,Ay)]⟩
def Anp:MFn:=BI [] 74
def Al6:Hnt:=⟨[(71,(.agg Ay,[])),(113,(.ls,[]))],[],[(6,[.ls]),(8,[.ls])]⟩
def Q6:List (Nat × MFn):=[(113,XR),(72,Ann),(32,AmV),(69,Anl),(74,Anp)]
variable (A:Ar) (D:Orc)
theorem AoE(x0 x1:Rw):BN A D Al Qv .n 113 XR [Ψ x0,Ψ x1] [] =
 Ae D (ω 109) [Ψ x0] [] [.l,.E] λxs=>
 Ae D (ω 109) [Ψ x1] [] [.l,.E] λxs1=>
 Ae D (ι 113 0) [Ψ xs,Ψ xs1] [] [.t,.C,.x,.X,.Y] λc l o2=>
 br (Bm 1 c)
 (dk [.L,.N,.E] [.l l,.o o2] λxs2=>
 Θ ((Ψ xs2,[])))
 (Ξ):=by kernel_rfl
theorem VK(t0 t1:Rw):CS A D Al Qv .n 113 0 (AJ XR 0).fst (AJ XR 0).snd [Ψ t0,Ψ t1] [] =
 br (A.lt 0 ↑(AL t1))
 (Ae D (ω 70) [Ψ t0,Ψ t1] [] [.t,.L,.L,.I,.N,.E] λ_ xs1 _=>
 AA D (ι 113 0) [Ψ t1,Ψ xs1] [] λr1 o1=>
 As 0 [] (AH.mk [] 0 Ξ) [] r1 o1)
 (Θ ((γ [iv 0,Ψ t0],[]))):=by kernel_rfl
theorem e72(x0_0:Bool)(x0_1:Rw)(x1_0:Bool)(x1_1:Rw):BN A D Al Al4 .n 72 Ann [φ [bv x0_0,Ψ x0_1],φ [bv x1_0,Ψ x1_1]] [] =
 Ae D (ω 39) [φ [bv x1_0,Ψ x1_1]] [] [.a,.B,.L,.N,.E] λb xs=>
 Ae D (ω 63) [φ [bv x0_0,Ψ x0_1],φ [bv b,Ψ xs]] [] [.a,.B,.L,.N,.E] λb1 xs1=>
 Θ ((φ [bv b1,Ψ xs1],[])):=by kernel_rfl
theorem e32(x0_0:Bool)(x0_1:Rw)(x1_0:Bool)(x1_1:Rw):BN A D Al AlD (.b (.b .n (.b .n (.b (.t .n) (.f .n)))) .n) 32 AmV [φ [bv x0_0,Ψ x0_1],φ [bv x1_0,Ψ x1_1]] [] =
 Ae D (ω 68) [φ [bv x0_0,Ψ x0_1]] [] [.a,.B,.L,.N,.E] λb xs=>
 Ae D (ω 68) [φ [bv x1_0,Ψ x1_1]] [] [.a,.B,.L,.N,.E] λb1 xs1=>
 Ae D (ω 70) [Ψ xs,Ψ xs1] [] [.t,.L,.L,.I,.N,.E] λxs2 xs3 n=>
 br (A.eq n 0)
 (br (A.not (A.beq b b1))
 (Ae D (ω 71) [bv Δ,Ψ xs2] [] [.a,.B,.L,.N,.E] λb2 xs4=>
 Ae D (ω 71) [bv b,Ψ xs3] [] [.a,.B,.L,.N,.E] λb3 xs5=>
 br (A.not (A.beq b b1)) (br (A.lt 0 ↑(AL xs3))
 (Ae D (ω 73) [iv 1] [] [.a,.B,.L,.N,.E] λb4 xs6=>
 Ae D (ω 72) [φ [bv b2,Ψ xs4],φ [bv b4,Ψ xs6]] [] [.a,.B,.L,.N,.E] λb5 xs7=>
 Ae D (ω 63) [φ [bv b3,Ψ xs5],φ [bv b1,Ψ xs1]] [] [.a,.B,.L,.N,.E] λb6 xs8=>
 Θ ((γ [φ [bv b5,Ψ xs7],φ [bv b6,Ψ xs8],iv 0],[])))
 (Θ ((γ [φ [bv b2,Ψ xs4],φ [bv b3,Ψ xs5],iv 0],[])))) Ξ)
 (Ae D (ω 71) [bv Φ,Ψ xs2] [] [.a,.B,.L,.N,.E] λb2 xs4=>
 Ae D (ω 71) [bv b,Ψ xs3] [] [.a,.B,.L,.N,.E] λb3 xs5=>
 br (A.not (A.beq b b1)) Ξ (Θ ((γ [φ [bv b2,Ψ xs4],φ [bv b3,Ψ xs5],iv 0],[])))))
 (Θ ((γ [φ [bv Φ,Ψ []],φ [bv Φ,Ψ []],iv n],[]))):=by kernel_rfl
theorem e69(x0_0:Bool)(x0_1:Rw)(x1_0:Bool)(x1_1:Rw):BN A D Al Al2 .n 69 Anl [φ [bv x0_0,Ψ x0_1],φ [bv x1_0,Ψ x1_1]] [] =
 Ae D (ω 32) [φ [bv x0_0,Ψ x0_1],φ [bv x1_0,Ψ x1_1]] [] [.t,.A,.B,.L,.N,.A,.B,.L,.N,.I,.N,.E] λb xs b1 xs1 n=>
 br (A.eq n 0)
 (Ae D (ω 30) [φ [bv b1,Ψ xs1]] [] [.i,.E] λn1=>
 br (A.eq n1 0)
 (Θ ((γ [φ [bv b,Ψ xs],iv 0],[])))
 (Θ ((γ [φ [bv Φ,Ψ []],iv 1],[]))))
 (Θ ((γ [φ [bv Φ,Ψ []],iv n],[]))):=by kernel_rfl
theorem e74(x0_0:Bool)(x0_1:Rw)(x1_0:Bool)(x1_1:Rw):BN A D Al Al6 .n 74 Anp [φ [bv x0_0,Ψ x0_1],φ [bv x1_0,Ψ x1_1]] [] =
 Ae D (ω 113) [Ψ x0_1,Ψ x1_1] [] [.l,.E] λxs=>
 Ae D (ω 71) [bv Φ,Ψ xs] [] [.a,.B,.L,.N,.E] λb xs1=>
 Θ ((φ [bv b,Ψ xs1],[])):=by kernel_rfl
end
