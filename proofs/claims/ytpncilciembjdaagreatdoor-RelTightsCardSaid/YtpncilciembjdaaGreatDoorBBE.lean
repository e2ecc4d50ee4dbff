/- Functions of the program -/
import Derived.Test.YtpncilciembjdaaGreatDoorBBD
import Derived.Test.YtpncilciembjdaaGreatDoorBAY
set_option linter.all false
open Int renaming natAbs_natCast->Ari
open List renaming append_assoc->Ao9,drop->ι,drop_eq_getElem_cons->ω,drop_eq_nil_of_le->υ,drop_zero->χ,filter_congr->Asr,filter_map->AsD,foldl_cons->AqQ,getElem?_eq_getElem->Ψ,getElem_mem->ApP,length_append->η,length_cons->π,length_map->Api,length_singleton->Apm,map_cons->Aps,map_reverse->AsA,mem_cons_of_mem->ApB,mem_cons_self->Apn,mem_map->ApY,mem_reverse->ArC,nil_append->Apv,pairwise_map->Arr,reverse_cons->Ars,take->κ,take_append_drop->Ap5,take_left'->AqR
open Nat renaming ble->Apa,zero_add->Apy
namespace Go.Proofs.YtpncilciembjdaaGreatDoor
noncomputable section
open ABlk renaming mk->Ξ
open AV renaming agg->Ω,fn->Apq,ls->Δ,ptr->ε,sl->ζ,tup->ν
open BO renaming set->ο
open IntKind renaming i64->Φ
open Key renaming fn->θ,lp->γ
open Tryz renaming prog->ψ
section
open Go.RowKit
def K4:List (Nat × Nat):=[(67,0),(62,0),(135,0),(136,0),(196,0),(234,0),(235,0),(265,0),(275,0),(140,0),(199,0)]
def AkN:AB:=[⟨74,[false,false,true,false,true,false,false,false,false,false,false,false,false,false,false,false,false,true,true,true],[(1000004,3)],[2,17],[(1,([false,false,true,false,true],([],[1000000])))]⟩]
def Q7:MFn:=P6 ψ Bb AkN true false 62
def Mx:Hnt:=⟨[(135,(.sl 0 3,[.row true])),(136,(.tup [],[.row true])),(138,(.agg [.bool,.ls],[])),(139,(.agg [.bool,.ls],[])),(140,(.sl 0 3,[.row true]))],[(0,[(1,([.ptr 0 0,.ptr 1 0],[.box [.ls,.bool,.ls],.box [.sl 3 3,.bool,.ls],.del,.row true]))])],[(9,[.ls]),(14,[.bool,.ls]),(21,[.int .i64,.bool,.ls]),(22,[.int .i64,.bool,.ls]),(24,[.int .i64]),(27,[.ls]),(34,[.ls]),(36,[.int .i64,.bool,.ls]),(38,[.int .i64]),(40,[.int .i64]),(44,[.ls]),(47,[.ls]),(49,[.int .i64,.bool,.ls]),(51,[.bool,.ls]),(53,[.bool,.ls]),(55,[.int .i64,.bool,.ls]),(58,[.ls]),(60,[.int .i64]),(62,[.bool,.ls]),(70,[.ls]),(73,[.ls,.bool,.ls])]⟩
def X7:Hnt:=⟨[(135,(.sl 1 3,[.keep,.row true])),(136,(.tup [],[.row true])),(138,(.agg [.bool,.ls],[])),(139,(.agg [.bool,.ls],[])),(140,(.sl 0 3,[.row true]))],[(0,[(1,([.ptr 0 0,.ptr 1 0],[.box [.ls,.bool,.ls],.box [.sl 3 3,.bool,.ls],.del,.row true]))])],[(9,[.ls]),(14,[.bool,.ls]),(21,[.int .i64,.bool,.ls]),(22,[.int .i64,.bool,.ls]),(24,[.int .i64]),(27,[.ls]),(34,[.ls]),(36,[.int .i64,.bool,.ls]),(38,[.int .i64]),(40,[.int .i64]),(44,[.ls]),(47,[.ls]),(49,[.int .i64,.bool,.ls]),(51,[.bool,.ls]),(53,[.bool,.ls]),(55,[.int .i64,.bool,.ls]),(58,[.ls]),(60,[.int .i64]),(62,[.bool,.ls]),(70,[.ls]),(73,[.ls,.bool,.ls])]⟩
def AkP:AB:=[⟨21,[false,false,true,true,false,false,false,false,false,true,true,true],[],[2,3,9],[(1,([false,false,true,true],([],[1000000])))]⟩]
def Uo:MFn:=AS AkP 67
def My:Hnt:=⟨[(62,(.agg [.sl 1 3,.bool,.ls],[.keep,.row true])),(147,(.agg [.bool,.ls],[]))],[(0,[(1,([.ptr 0 0,.ptr 1 0],[.box [.bool,.ls],.box [.bool,.ls]]))])],[(7,[.ls,.bool,.ls]),(13,[.int .i64,.bool,.ls]),(14,[.int .i64,.bool,.ls]),(15,[.bool,.ls]),(17,[.bool,.ls]),(20,[.bool,.ls])]⟩
def AkO:AB:=[⟨49,[false,false,true,true,true,true,false,false,false,false,false,false,false,false,false,false,false,false,true,true,true],[],[2,3,5],[(1,([false,false,true,true,true,true],([],[])))]⟩]
def Un:MFn:=AS AkO 65
def QQ:Hnt:=⟨[(62,(.agg [.sl 0 3,.bool,.ls],[.row true])),(64,(.int .i64,[])),(66,(.tup [.agg [.bool,.ls],.agg [.bool,.ls],.int .i64],[])),(67,(.agg [.bool,.ls],[.keep])),(143,(.tup [.agg [.bool,.ls],.int .i64],[]))],[(0,[(1,([.ptr 0 0,.ptr 1 0,.ptr 2 0,.ptr 3 0],[.box [.ls,.bool,.ls],.box [.bool,.ls],.box [.sl 5 3,.bool,.ls],.box [.bool,.ls],.del,.row true]))])],[(8,[.ls,.bool,.ls]),(10,[.ls,.bool,.ls]),(12,[.bool,.ls]),(15,[.ls,.bool,.ls]),(16,[.bool,.ls]),(18,[.ls]),(23,[.int .i64,.bool,.ls]),(24,[.int .i64,.bool,.ls]),(27,[.ls]),(30,[.bool,.ls]),(31,[.bool,.ls]),(35,[.int .i64,.bool,.ls]),(40,[.bool,.ls]),(41,[.bool,.ls]),(47,[.ls,.bool,.ls]),(48,[.bool,.ls])]⟩
def Oy:List (Nat × MFn):=[(62,Q7),(67,Uo),(65,Un)]
variable (A:Ar) (D:Orc)
theorem AjN(x0:Rw)(x1:Bool)(x2:Rw):BP A D K4 Mx .n 62 Q7 [Ω [Δ x0,bv x1,Δ x2]] [] =
 Af D (θ 135) [Δ x0] [] [.q 0 3,.R,.X,.E] λn cs=>
 Af D (θ 136) [ζ 0 0 n 3,Apq (Fn.func 137) [] []] [Ξ cs true true] [.t,.N,.R,.X,.E] λcs2=>
 Af D (θ 138) [Ω [bv x1,Δ x2]] [] [.a,.B,.L,.N,.E] λb xs=>
 br ((0+n*3).ble cs2.length) (AI D (γ 62 0) [ε 0 0,ε 1 0,Δ (Bh n 3 (κ (n*3) cs2)),iv ↑n,iv 0] [bk [Δ [],bv false,Δ []],bk [ζ 2 0 0 3,bv b,Δ xs],Ξ [] true true] λr3 o3=>
 dk [.t,.C,.x,.X] [.v r3] λc2 l4=>
 br (Bo 1 c2)
 (dk [.P 0 0,.P 1 0,.N,.T,.L,.B,.L,.N,.T,.C,.q 3 3,.B,.L,.N,.D,.R,.X,.E] [.l l4,.o o3] λ_ _ _ n1 b2 xs3 cs7=>
 Af D (θ 140) [ζ 0 0 n1 3,Apq (Fn.func 141) [] []] [Ξ cs7 true true] [.q 0 3,.R,.X,.E] λn2 cs8=>
 some ((Ω [ζ 0 0 n2 3,bv b2,Δ xs3],[ο (Ξ cs8 true true)])))
 (none)) none:=by kernel_rfl
theorem TM(r0:Rw)(r1:Bool)(r2:Rw)(n4:Nat)(k1:Bool)(k2:Rw)(c4:List AV)(t17:Rw)(t18 t19:Int):CO A D K4 Mx .n 62 0 (AN Q7 0).fst (AN Q7 0).snd [ε 0 0,ε 1 0,Δ t17,iv t18,iv t19] [bk [Δ r0,bv r1,Δ r2],bk [ζ 2 0 n4 3,bv k1,Δ k2],{ cells:=c4,st:=true,ex:=true }] =
 br (A.lt t19 t18)
 (unI t19 λi=>
 Bl t17 i λcs=>
 dk [.I,.B,.L,.N] [.l cs] λn b xs=>
 br (A.lt n 0)
 (AI D (γ 62 0) [ε 0 0,ε 1 0,Δ t17,iv t18,iv (A.add Φ t19 1)] [bk [Δ r0,bv r1,Δ r2],bk [ζ 2 0 n4 3,bv k1,Δ k2],Ξ c4 true true] λr o=>
 AE 3 [0,1,2] (AH.mk [(0,bk [Δ r0,bv r1,Δ r2]),(3,bk [iv n,bv b,Δ xs]),(1,bk [ζ 2 0 n4 3,bv k1,Δ k2]),(2,Ξ c4 true true)] 4 none) [0] r o)
 (br (A.le 0 (A.sub Φ (↑n4) 1))
 (unI (A.sub Φ (↑n4) 1) λi1=>
 br (i1.blt n4) (EQ c4 (0+i1*3+0) 1 λcs1=>
 dk [.I,.N] [.l cs1] λn1=>
 br (A.eq n1 n)
 (unI (A.sub Φ (↑n4) 1) λi2=>
 br (i2.blt n4) (EQ c4 (0+i2*3+1) 2 λcs2=>
 dk [.B,.L,.N] [.l cs2] λb1 xs1=>
 Af D (θ 139) [Ω [bv b1,Δ xs1],Ω [bv b,Δ xs]] [] [.a,.B,.L,.N,.E] λb2 xs2=>
 unI (A.sub Φ (↑n4) 1) λi3=>
 br (i3.blt n4) (br ((0+i3*3+1+2).ble c4.length) (AI D (γ 62 0) [ε 0 0,ε 1 0,Δ t17,iv t18,iv (A.add Φ t19 1)] [bk [Δ r0,bv r1,Δ r2],bk [ζ 2 0 n4 3,bv k1,Δ k2],Ξ (AG c4 (0+i3*3+1) [bv b2,Δ xs2]) true true] λr3 o1=>
 AE 3 [0,1,2] (AH.mk [(0,bk [Δ r0,bv r1,Δ r2]),(2,Ξ (AG c4 (0+i3*3+1) [bv b2,Δ xs2]) true true),(3,bk [iv n,bv b,Δ xs]),(1,bk [ζ 2 0 n4 3,bv k1,Δ k2])] 4 none) [2,0] r3 o1) none) none) none)
 (Af D (θ 138) [Ω [bv b,Δ xs]] [] [.a,.B,.L,.N,.E] λb1 xs1=>
 br (Be (n4+1) 40) (br ((0+n4*3).ble c4.length) (AI D (γ 62 0) [ε 0 0,ε 1 0,Δ t17,iv t18,iv (A.add Φ t19 1)] [bk [Δ r0,bv r1,Δ r2],bk [ζ 2 0 (n4+1) 3,bv k1,Δ k2],Ξ (ι 0 (κ (0+n4*3) c4)++[iv n,bv b1,Δ xs1]) true true] λr3 o1=>
 AE 3 [0,1,5] (AH.mk [(0,bk [Δ r0,bv r1,Δ r2]),(1,bk [ζ 5 0 (n4+1) 3,bv k1,Δ k2]),(5,Ξ (ι 0 (κ (0+n4*3) c4)++[iv n,bv b1,Δ xs1]) true true),(4,Ξ [iv n,bv b1,Δ xs1] true true),(3,bk [iv n,bv b,Δ xs])] 6 none) [2,1,0] r3 o1) none) none)) none)
 (Af D (θ 138) [Ω [bv b,Δ xs]] [] [.a,.B,.L,.N,.E] λb1 xs1=>
 br (Be (n4+1) 40) (br ((0+n4*3).ble c4.length) (AI D (γ 62 0) [ε 0 0,ε 1 0,Δ t17,iv t18,iv (A.add Φ t19 1)] [bk [Δ r0,bv r1,Δ r2],bk [ζ 2 0 (n4+1) 3,bv k1,Δ k2],Ξ (ι 0 (κ (0+n4*3) c4)++[iv n,bv b1,Δ xs1]) true true] λr3 o1=>
 AE 3 [0,1,5] (AH.mk [(0,bk [Δ r0,bv r1,Δ r2]),(1,bk [ζ 5 0 (n4+1) 3,bv k1,Δ k2]),(5,Ξ (ι 0 (κ (0+n4*3) c4)++[iv n,bv b1,Δ xs1]) true true),(4,Ξ [iv n,bv b1,Δ xs1] true true),(3,bk [iv n,bv b,Δ xs])] 6 none) [2,1,0] r3 o1) none) none)))
 (some ((ν [iv 0,ε 0 0,ε 1 0],[ο (bk [Δ r0,bv r1,Δ r2]),ο (bk [ζ 3 0 n4 3,bv k1,Δ k2]),BO.del,ο (Ξ c4 true true)]))):=by kernel_rfl
theorem AjO(n0:Nat)(c0:List AV)(x1:Bool)(x2:Rw):BP A D K4 X7 .n 62 Q7 [Ω [ζ 0 0 n0 3,bv x1,Δ x2]] [{ cells:=c0,st:=true,ex:=true }] =
 Af D (θ 135) [ζ 0 0 n0 3] [Ξ c0 true true] [.q 1 3,.K,.R,.X,.E] λn cs=>
 Af D (θ 136) [ζ 0 0 n 3,Apq (Fn.func 137) [] []] [Ξ cs true true] [.t,.N,.R,.X,.E] λcs2=>
 Af D (θ 138) [Ω [bv x1,Δ x2]] [] [.a,.B,.L,.N,.E] λb xs=>
 br ((0+n*3).ble cs2.length) (AI D (γ 62 0) [ε 0 0,ε 1 0,Δ (Bh n 3 (κ (n*3) cs2)),iv ↑n,iv 0] [bk [Δ [],bv false,Δ []],bk [ζ 2 0 0 3,bv b,Δ xs],Ξ [] true true] λr3 o3=>
 dk [.t,.C,.x,.X] [.v r3] λc3 l5=>
 br (Bo 1 c3)
 (dk [.P 0 0,.P 1 0,.N,.T,.L,.B,.L,.N,.T,.C,.q 3 3,.B,.L,.N,.D,.R,.X,.E] [.l l5,.o o3] λ_ _ _ n1 b2 xs3 cs7=>
 Af D (θ 140) [ζ 0 0 n1 3,Apq (Fn.func 141) [] []] [Ξ cs7 true true] [.q 0 3,.R,.X,.E] λn2 cs8=>
 some ((Ω [ζ 1 0 n2 3,bv b2,Δ xs3],[BO.keep,ο (Ξ cs8 true true)])))
 (none)) none:=by kernel_rfl
theorem AjP(n0:Nat)(c0:List AV)(x1:Bool)(x2:Rw):BP A D K4 My .n 67 Uo [Ω [ζ 0 0 n0 3,bv x1,Δ x2]] [{ cells:=c0,st:=true,ex:=true }] =
 Af D (θ 62) [Ω [ζ 0 0 n0 3,bv x1,Δ x2]] [Ξ c0 true true] [.a,.C,.q 1 3,.B,.L,.N,.K,.R,.X,.E] λn _ _ cs1=>
 br ((0+n*3).ble cs1.length) (AI D (γ 67 0) [ε 0 0,ε 1 0,Δ (Bh n 3 (κ (n*3) cs1)),iv ↑n,iv 0] [bk [bv false,Δ []],bk [bv false,Δ []]] λr1 o1=>
 dk [.t,.C,.x,.X] [.v r1] λc3 l5=>
 br (Bo 1 c3)
 (dk [.P 0 0,.P 1 0,.N,.T,.B,.L,.N,.T,.B,.L,.N,.E] [.l l5,.o o1] λ_ _ b2 xs2=>
 some ((Ω [bv b2,Δ xs2],[BO.keep])))
 (none)) none:=by kernel_rfl
theorem TN(b2_0:Bool)(b2_1:Rw)(b3_0:Bool)(b3_1 t9:Rw)(t10 t11:Int):CO A D K4 My .n 67 0 (AN Uo 0).fst (AN Uo 0).snd [ε 0 0,ε 1 0,Δ t9,iv t10,iv t11] [bk [bv b2_0,Δ b2_1],bk [bv b3_0,Δ b3_1]] =
 br (A.lt t11 t10)
 (unI t11 λi=>
 Bl t9 i λcs=>
 dk [.I,.B,.L,.N] [.l cs] λn b xs=>
 Af D (θ 147) [Ω [bv b3_0,Δ b3_1],Ω [bv b,Δ xs]] [] [.a,.B,.L,.N,.E] λb1 xs1=>
 AI D (γ 67 0) [ε 0 0,ε 1 0,Δ t9,iv t10,iv (A.add Φ t11 1)] [bk [bv b2_0,Δ b2_1],bk [bv b1,Δ xs1]] λr1 o1=>
 AE 2 [0,1] (AH.mk [(1,bk [bv b1,Δ xs1]),(0,bk [bv b2_0,Δ b2_1]),(2,bk [iv n,bv b,Δ xs])] 3 none) [0,1] r1 o1)
 (some ((ν [iv 0,ε 0 0,ε 1 0],[ο (bk [bv b2_0,Δ b2_1]),ο (bk [bv b3_0,Δ b3_1])]))):=by kernel_rfl
theorem Ank(x0_0:Rw)(x0_1:Bool)(x0_2:Rw):BP A D K4 QQ .n 65 Un [Ω [Δ x0_0,bv x0_1,Δ x0_2]] [] =
 Af D (θ 62) [Ω [Δ x0_0,bv x0_1,Δ x0_2]] [] [.a,.C,.q 0 3,.B,.L,.N,.R,.X,.E] λn b xs cs1=>
 Af D (θ 67) [Ω [ζ 0 0 n 3,bv b,Δ xs]] [Ξ cs1 true true] [.a,.B,.L,.N,.K,.E] λb1 xs1=>
 Af D (θ 64) [Ω [bv b1,Δ xs1]] [] [.i,.E] λn1=>
 br (A.eq n1 0)
 (br ((0+n*3).ble cs1.length) (some ((ν [Ω [Δ (Bh n 3 (κ (n*3) cs1)),bv b,Δ xs],Ω [bv b1,Δ xs1]],[]))) none)
 (Af D (γ 65 0) [ε 0 0,ε 1 0,ε 2 0,ε 3 0,ζ 4 0 n 3,iv ↑n,iv 0] [bk [Δ [],bv false,Δ []],bk [bv false,Δ []],bk [ζ 4 0 n 3,bv b,Δ xs],bk [bv b1,Δ xs1],Ξ cs1 true true] [.t,.C,.x,.X,.Y] λc3 l7 o3=>
 br (Bo 1 c3)
 (dk [.P 0 0,.P 1 0,.P 2 0,.P 3 0,.N,.T,.L,.B,.L,.N,.T,.B,.L,.N,.T,.C,.q 5 3,.B,.L,.N,.T,.B,.L,.N,.D,.R,.X,.E] [.l l7,.o o3] λ_ _ _ _ _ n2 b4 xs5 b5 xs6 cs8=>
 Af D (θ 66) [Ω [bv b4,Δ xs5],Ω [bv b5,Δ xs6]] [] [.t,.A,.B,.L,.N,.A,.B,.L,.N,.I,.N,.E] λb6 xs7 _ _ _=>
 br ((0+n2*3).ble cs8.length) (some ((ν [Ω [Δ (Bh n2 3 (κ (n2*3) cs8)),bv b6,Δ xs7],Ω [bv b5,Δ xs6]],[]))) none)
 (none)):=by kernel_rfl
theorem XA(r0:Rw)(r1:Bool)(r2:Rw)(i0:Bool)(i1:Rw)(j0:Bool)(j1:Rw)(n0:Nat)(k1:Bool)(k2:Rw)(c0:List AV)(t19 t20:Int):CO A D K4 QQ .n 65 0 (AN Un 0).fst (AN Un 0).snd [ε 0 0,ε 1 0,ε 2 0,ε 3 0,ζ 4 0 n0 3,iv t19,iv t20] [bk [Δ r0,bv r1,Δ r2],bk [bv i0,Δ i1],bk [ζ 4 0 n0 3,bv k1,Δ k2],bk [bv j0,Δ j1],{ cells:=c0,st:=true,ex:=true }] =
 br (A.lt t20 t19)
 (unI t20 λi=>
 br (i.blt n0) (EQ c0 (0+i*3) 3 λcs=>
 dk [.I,.B,.L,.N] [.l cs] λn b xs=>
 Af D (θ 143) [Ω [bv b,Δ xs],Ω [bv j0,Δ j1]] [] [.t,.A,.B,.L,.N,.I,.N,.E] λb1 xs1 _=>
 unI t20 λi2=>
 br (i2.blt n0) (br ((0+i2*3+1+2).ble c0.length) (AI D (γ 65 0) [ε 0 0,ε 1 0,ε 2 0,ε 3 0,ζ 4 0 n0 3,iv t19,iv (A.add Φ t20 1)] [bk [Δ r0,bv r1,Δ r2],bk [bv i0,Δ i1],bk [ζ 4 0 n0 3,bv k1,Δ k2],bk [bv j0,Δ j1],Ξ (AG c0 (0+i2*3+1) [bv b1,Δ xs1]) true true] λr3 o1=>
 AE 5 [0,1,2,3,4] (AH.mk [(3,bk [bv j0,Δ j1]),(1,bk [bv i0,Δ i1]),(0,bk [Δ r0,bv r1,Δ r2]),(4,Ξ (AG c0 (0+i2*3+1) [bv b1,Δ xs1]) true true),(5,bk [iv n,bv b,Δ xs]),(2,bk [ζ 4 0 n0 3,bv k1,Δ k2])] 6 none) [4,0,1,3] r3 o1) none) none) none)
 (some ((ν [iv 0,ε 0 0,ε 1 0,ε 2 0,ε 3 0],[ο (bk [Δ r0,bv r1,Δ r2]),ο (bk [bv i0,Δ i1]),ο (bk [ζ 5 0 n0 3,bv k1,Δ k2]),ο (bk [bv j0,Δ j1]),BO.del,ο (Ξ c0 true true)]))):=by kernel_rfl
end
open Go.RowKit
theorem rdW(A:List Pt)(x:Pt)(tl:List AV)(k:List AV->KR):EQ (Ai eP A++(eP x++tl)) (0+A.length*3) 3 k=k (eP x):=by
 have hl:=AT Au A;unfold EQ;rw[show Apa (0+A.length*3+3) (Ai eP A++(eP x++tl)).length=true by simp[hl,Au],Apy,←hl,List.drop_left' rfl];rfl
theorem spW(A:List Pt)(x y:Pt)(tl:List AV):AG (Ai eP A++(eP x++tl)) (0+A.length*3+1) [bv y.z.neg,eN y.z.abs]=Ai eP A++(eP ⟨x.v,y.z⟩++tl):=by
 have hl:=AT Au A;unfold AG;rw[Apy,←hl,List.take_append,List.drop_append];simp[eP,List.take_of_length_le,υ,Nat.add_sub_cancel_left,Nat.add_assoc]
section
variable {D:Orc} (Ks:Knows K4 Oy D) (W:ZdF D)
include Ks W
theorem Ai6(g:Int)(hg:InB 300000000 g)(hg0:g≠0)(r0:List (List AV))(r1:Bool)(r2:List (List AV))(i0:Bool)(i1:List (List AV))(k1:Bool)(k2:List (List AV))(n:Nat)(hn:n<=4000000)(tl:List AV):∀(r:List (Int × Int)) (A:List Pt),A.length+r.length=n->(∀ p∈r,InB 300000000 p.2/\g ∣ p.2)->
  D.ask (.lp 65 0) [.ptr 0 0,.ptr 1 0,.ptr 2 0,.ptr 3 0,.sl 4 0 n 3,iv (n:Int),iv (A.length:Int)] [bk [.ls r0,bv r1,.ls r2],bk [bv i0,.ls i1],bk [.sl 4 0 n 3,bv k1,.ls k2],bk (eZ (Az g)),Ξ (Ai eP A++(Ai eP (r.map AO)++tl)) true true]
   = some (.tup [iv 0,.ptr 0 0,.ptr 1 0,.ptr 2 0,.ptr 3 0],[.set (bk [.ls r0,bv r1,.ls r2]),.set (bk [bv i0,.ls i1]),.set (bk [.sl 5 0 n 3,bv k1,.ls k2]),.set (bk (eZ (Az g))),.del,.set (Ξ (Ai eP A++(Ai eP (r.map (Hk g))++tl)) true true)]):=by
 intro r
 induction r with
 |nil=>
  intro A hA _;refine Ks.lp' QQ _ rfl (by kernel_rfl) ((XA ..).trans ?_);rw[List.length_nil]at hA;exact Ak (by omega) rfl
 |cons p r ih=>
  intro A hA hr;rw[π]at hA;obtain⟨hp,hd⟩:=hr p (Apn ..);obtain⟨d1,d2⟩:=AiT hd hg0;have ge:=W.exact (Az p.2) (Az g) (hp.lz.mono (by omega)) (hg.lz.mono (by omega));rw[AU,AU,if_neg hg0,if_pos d1]at ge;have ih:=ih (A++[Hk g p]) (by simp;omega) (λq hq=>hr q (ApB _ hq));have e1:∀(x:Pt) (t:List AV),Ai eP (A++[x])++t=Ai eP A++(eP x++t):=λx t=>by
   rw[←Bc eP A x,Ao9]
  rw[e1,e1,η,Apm]at ih;have e2:∀(f:Int × Int->Pt) (t:List AV),Ai eP ((p::r).map f)++t=eP (f p)++(Ai eP (r.map f)++t):=λf t=>by
   unfold Ai;rw[Aps,List.flatMap_cons,Ao9]
  rw[e2,e2];have hrd:=rdW A (AO p) (Ai eP (r.map AO)++tl);have hsp:=spW A (AO p) (Hk g p) (Ai eP (r.map AO)++tl);have hlen:Apa (0+A.length*3+1+2) (Ai eP A++(eP (AO p)++(Ai eP (r.map AO)++tl))).length=true:=by
   rw[η,η,AT Au,Au];simp;omega
  have hx:(⟨(AO p).v,(Hk g p).z⟩:Pt)=Hk g p:=rfl;have hz:([bv (Hk g p).z.neg,eN (Hk g p).z.abs]:List AV)=[bv (Az (qZ p.2 g)).neg,eN (Az (qZ p.2 g)).abs]:=rfl;rw[hx,hz]at hsp;generalize Ai eP A++(eP (AO p)++(Ai eP (r.map AO)++tl))=cs at *;refine Ks.lp' QQ _ rfl (by kernel_rfl) ((XA ..).trans ?_);refine Aq (by omega) ?_;rw[Av,show Nat.blt A.length n=true from BB (by omega)];refine Ae ?_;refine(hrd _).trans ?_;simp only[eP,AO,eN,CW,Bg,BE,AY,DK];refine Aa ge ?_;simp only[eZ,eN,B3,A9,BS,Bg,BE,CW,AY,AD,DK];rw[Av,show Nat.blt A.length n=true from BB (by omega),hlen];refine Ae ?_;refine Ae ?_;simp only[eN]at hsp;rw[hsp,BC (by omega)];refine Aa ih ?_;rfl
theorem AaX(l:List (Int × Int))(hlen:l.length<=4000000)(hl:∀ p∈l,InB 800000000 p.2):∀(m i g:Nat),l.length-i=m->i<=l.length->InB 800000000 (g:Int)->
  D.ask (.lp 67 0) [.ptr 0 0,.ptr 1 0,.ls (l.map λp=>eP (AO p)),iv (l.length:Int),iv (i:Int)] [bk [bv false,.ls []],bk (eZ (Az (g:Int)))]
   = some (.tup [iv 0,.ptr 0 0,.ptr 1 0],[.set (bk [bv false,.ls []]),.set (bk (eZ (Az (Nz g (l.drop i):Int))))]):=by
 intro m
 induction m with
 |zero=>
  intro i g hm hi hg;rw[υ (by omega)];refine Ks.lp' My _ rfl (by kernel_rfl) ((TN ..).trans ?_);exact Ak (by omega) rfl
 |succ m ih=>
  intro i g hm hi hg;have h1:i<l.length:=by omega
  have hx:=hl _ (ApP h1);rw[ω h1];have ga:=W.gcd (Az (g:Int)) (Az l[i].2) (hg.lz.mono (by omega)) (hx.lz.mono (by omega));rw[AU,AU,Ari]at ga;have ih1:=ih (i+1) (Nat.gcd g l[i].2.natAbs) (by omega) (by omega) (Ll hg hx);refine Ks.lp' My _ rfl (by kernel_rfl) ((TN ..).trans ?_);refine Aq (by omega) ?_;rw[Av,Aw (f:=λp=>eP (AO p)) (Ψ h1)];simp only[eP,AO,eN,ND,DK,Ab];refine Aa ga ?_;simp only[eZ,eN,ND,DK,Ab];rw[BC (by omega)];refine Aa ih1 ?_;rfl
theorem Qm{l:List (Int × Int)}{cs:List AV}{b:Bool}{xs:List (List AV)}{tl:List AV}{b2:Bool}{xs2:List (List AV)}(hp:D.ask (.fn 62) [.agg [.sl 0 0 l.length 3,bv b,.ls xs]] [Ξ cs true true]=some (.agg [.sl 1 0 l.length 3,bv b2,.ls xs2],[.keep,.set (Ξ (Ai eP (l.map AO)++tl) true true)]))(hlen:l.length<=4000000)(hl:∀ p∈l,InB 800000000 p.2) :
  D.ask (.fn 67) [.agg [.sl 0 0 l.length 3,bv b,.ls xs]] [Ξ cs true true]=some (.agg (eZ (Az (Nz 0 l:Int))),[.keep]):=by
 have g:=AaX Ks W l hlen hl _ 0 0 rfl (by omega) (InB.zero _);rw[χ,show Az ((0:Nat):Int)=⟨false,[]⟩ from No,show eZ ⟨false,[]⟩=[bv false,.ls []] from rfl]at g;have hll:(Ai eP (l.map AO)).length=l.length*3:=by rw[AT Au,Api]
 refine Ks.fn' My _ rfl ((AjP ..).trans ?_);refine Aa hp ?_;simp only[eZ,eN,ND,DK,Ab];rw[show Apa (0+l.length*3) (Ai eP (l.map AO)++tl).length=true by rw[η,hll];simp];refine Ae ?_;rw[←hll,AqR rfl,show Bh l.length 3 (Ai eP (l.map AO))=l.map λp=>eP (AO p) by
  have:=Co Au (l.map AO);rw[Api,List.map_map]at this;exact this]
 refine Aa g ?_;rfl
theorem V8{n k:Nat}{t:Tm}(ht:TmB n k t)(hn:n<=1000000)(hk:k+n<=300000000)(hs:∀ z:Zi,Lz 1000000000 z->D.ask (.fn 64) [.agg (eZ z)] []=some (iv (BF (zv z)),[])){tl tl':List AV}{b2:Bool}{xs2:List (List AV)}
  (hPn:D.ask (.fn 62) [.agg (eT t)] []=some (.agg [.sl 0 0 (A8 t.lf.ps).length 3,bv (Az (zv t.k)).neg,eN (Az (zv t.k)).abs],[.set (Ξ (Ai eP ((A8 t.lf.ps).map AO)++tl) true true)]))
  (hPo:D.ask (.fn 62) [.agg [.sl 0 0 (A8 t.lf.ps).length 3,bv (Az (zv t.k)).neg,.ls ((Az (zv t.k)).abs.map eL)]] [Ξ (Ai eP ((A8 t.lf.ps).map AO)++tl) true true]=some (.agg [.sl 1 0 (A8 t.lf.ps).length 3,bv b2,.ls xs2],[.keep,.set (Ξ (Ai eP ((A8 t.lf.ps).map AO)++tl') true true)])) :
  D.ask (.fn 65) [.agg (eT t)] []=some (.tup [.agg (eT (EJ t)),.agg (eZ (Az (CB t:Int)))],[]):=by
 have hll:=Fu t.lf.ps;have hl2:=ht.lb.len;have hci:=O1 ht;have hlI:∀ p∈A8 t.lf.ps,InB 300000000 p.2:=λp hp=>by
  rw[←Di]at hp;obtain⟨v,_,rfl⟩:=ApY.1 hp;exact(JW ht v).mono hk
 have gc:=Qm Ks W (l:=A8 t.lf.ps) hPo (by omega) (λp hp=>(hlI p hp).mono (by omega));have hki:InB 300000000 (zv t.k):=ht.k.inb.mono (by omega);have gs:=hs (Az (CB t:Int)) (hci.lz.mono (by omega));rw[AU]at gs;have hch:∀(f:Int × Int->Pt) (tl:List AV),Bh (A8 t.lf.ps).length 3 (κ ((A8 t.lf.ps).length*3) (Ai eP ((A8 t.lf.ps).map f)++tl))=((A8 t.lf.ps).map f).map eP:=λf tl=>by
  have h:(Ai eP ((A8 t.lf.ps).map f)).length=(A8 t.lf.ps).length*3:=by rw[AT Au,Api]
  have:=Co Au ((A8 t.lf.ps).map f);rw[Api]at this;rw[←h,AqR rfl,this]
 have hbl:∀(f:Int × Int->Pt) (tl:List AV),Apa (0+(A8 t.lf.ps).length*3) (Ai eP ((A8 t.lf.ps).map f)++tl).length=true:=λf tl=>by
  rw[η,AT Au,Api];simp
 refine Ks.fn' QQ _ rfl ((Ank ..).trans ?_);refine Aa hPn ?_;simp only[eN,ND,DK,Ab];refine Aa gc ?_;rw[show Nz 0 (A8 t.lf.ps)=CB t from rfl];simp only[eZ,eN,B3,A9,BS,Bg,BE,CW,AY,AD,Nh,KT,DK];refine Aa gs ?_;simp only[CG,AD,DK];rw[hbl,hch];unfold EJ
 by_cases h0:CB t=0
 .rw[if_pos h0,h0]
  refine Bi (by decide) ?_;refine Ae ?_;rfl
 .rw[if_neg h0]
  refine AK (by unfold BF;rw[if_neg (by omega),if_pos (by omega)];decide) ?_;have hdv:∀ p∈A8 t.lf.ps,InB 300000000 p.2/\(CB t:Int) ∣ p.2:=λp hp=>⟨hlI p hp,Int.natAbs_dvd_natAbs.1 (by rw[Ari];exact(Me (A8 t.lf.ps) 0).2 p hp)⟩
  have g:=Ai6 Ks W (CB t:Int) (hci.mono (by omega)) (by omega) [] false [] false [] (Az (zv t.k)).neg ((Az (zv t.k)).abs.map eL) (A8 t.lf.ps).length (by omega) tl (A8 t.lf.ps) [] (by simp) hdv;rw[show Ai eP ([]:List Pt)=[] from rfl,Apv,Apv]at g;have gk:=W.div (Az (zv t.k)) (Az (CB t:Int)) (hki.lz.mono (by omega)) (hci.lz.mono (by omega));rw[AU,AU,if_neg (by omega)]at gk;refine Aa g ?_;simp only[eZ,eN,ND,DK,Ab];refine Aa gk ?_;simp only[eZ,eN,B3,A9,BS,Bg,BE,CW,AY,AD,DK];rw[hbl,hch];refine Ae ?_;rfl
end
section
variable {D:Orc} (Kt:Knows K4 Oy D) (Z:ZF D) (hcp:∀{z:Zi},Lz 1000000000 z->D.ask (.fn 138) [.agg (eZ z)] []=some (.agg (eZ (Az (zv z))),[]))
include Z
include Kt hcp in
theorem Oi{k:Nat}(ps:List Pt)(hl:ps.length<=1000000)(hk:k+ps.length<=900000000)(hz:∀ p∈ps,Lz k p.z)(r0:List (List AV))(r1:Bool)(r2:List (List AV))(k1:Bool)(k2:List (List AV)):∀(m i:Nat) (s:List (Int × Int)),ps.length-i=m->i<=ps.length->s.length<=i->(∀ q∈s,InB (k+i) q.2)->
  D.ask (.lp 62 0) [.ptr 0 0,.ptr 1 0,.ls (ps.map eP),iv (ps.length:Int),iv (i:Int)] [⟨[.ls r0,bv r1,.ls r2],true,false⟩,⟨[.sl 2 0 (s.map AO).reverse.length 3,bv k1,.ls k2],true,false⟩,D8 (s.map AO).reverse]
   = some (.tup [iv 0,.ptr 0 0,.ptr 1 0],[.set ⟨[.ls r0,bv r1,.ls r2],true,false⟩,.set ⟨[.sl 3 0 ((((ps.drop i).map pv).foldl CK s).map AO).reverse.length 3,bv k1,.ls k2],true,false⟩,.del,.set (D8 ((((ps.drop i).map pv).foldl CK s).map AO).reverse)]):=by
 intro m
 induction m with
 |zero=>
  intro i s hm hi hs hb;rw[υ (by omega),List.map_nil,List.foldl_nil];refine Kt.lp' Mx _ rfl (by kernel_rfl) ((TM ..).trans ?_);exact Ak (by omega) rfl
 |succ m ih0=>
  intro i s hm hi hs hb;have h1:i<ps.length:=by omega
  have hzk:=hz ps[i] (ApP h1);have hzi:=hzk.mono (show k<=1000000000 by omega);rw[ω h1,Aps,AqQ];have ih:=ih0 (i+1) (CK s (pv ps[i])) (by omega) (by omega) (by have:=Gu s (pv ps[i]);omega) (Gt hb (hzk.inb.mono (show k<=k+i by omega)));refine Kt.lp' Mx _ rfl (by kernel_rfl) ((TM ..).trans ?_);refine Aq (by omega) ?_;rw[Av,Aw (Ψ h1)];simp only[eP,eN,ND,DK,Ab];generalize hS:((ps.drop (i+1)).map pv).foldl CK (CK s (pv ps[i]))=S at ih ⊢
  by_cases hneg:ps[i].v<0
  .have e:CK s (pv ps[i])=s:=by
    have hn:(pv ps[i]).1<0:=hneg
    cases s with
    |nil=>rw[D9,if_pos hn]
    |cons q r=>rw[Dp,if_pos hn]
   rw[e]at ih;refine Aq hneg ?_;rw[BC (by omega)];refine Aa ih ?_;rfl
  have hn:¬(pv ps[i]).1<0:=hneg;refine Ak hneg ?_
  cases s with
  |nil=>
   rw[D9,if_neg hn]at ih;refine Ca (by decide) ?_;obtain⟨o,ho0⟩:∃ o:List Pt,o=[]:=⟨_,rfl⟩;have eo:(([pv ps[i]].map AO).reverse)=o++[AO (pv ps[i])]:=by rw[ho0];rfl
   rw[eo]at ih;have ho:o.length<=i:=by rw[ho0];exact Nat.zero_le _
   rw[show ((([]:List (Int × Int)).map AO).reverse)=o from ho0.symm];have hf:Be (o.length+1) 40=true:=AL (by omega) (by omega);have hb1:Apa (0+o.length*3) (Ai eP o).length=true:=AJ Au o (by omega);have e3:ι 0 (κ (0+o.length*3) (Ai eP o))++[iv ps[i].v,bv (Az (zv ps[i].z)).neg,eN (Az (zv ps[i].z)).abs]=Ai eP (o++[AO (pv ps[i])]):=by
    rw[χ,Bf Au o (by omega)];exact Bc eP o (AO (pv ps[i]))
   refine Aa (hcp hzi) ?_;simp only[eZ,eN,ND,DK,Ab]at e3 ⊢;rw[hf];refine Ae ?_;rw[hb1];refine Ae ?_;rw[e3,BC (by omega)];rw[η,Apm]at ih;refine Aa ih ?_;rfl
  |cons q r=>
   have eo:(((q::r).map AO).reverse)=(r.map AO).reverse++[AO q]:=by simp
   have hq:=hb q (Apn ..);rw[eo];rw[Dp,if_neg hn]at ih;have hro:(r.map AO).reverse.length<=i:=by simp at hs ⊢;omega
   by_cases heq:q.1=(pv ps[i]).1
   .rw[if_pos heq,Aps,Ars]at ih
    generalize (r.map AO).reverse=o at hro ih ⊢;have e1:Ag.sub .i64 (((o++[AO q]).length:Nat):Int) 1=((o.length:Nat):Int):=by
     rw[η,Apm];exact Na (by omega)
    have hlt:o.length<(o++[AO q]).length:=by simp
    have ga:=Z.add (Az q.2) ps[i].z (hq.lz.mono (by omega)) (hzk.mono (by omega));rw[AU]at ga;have sp:=AlZ o (AO q) (Az (q.2+zv ps[i].z));rw[e1];refine BW (by omega) ?_;rw[Av,A0 hlt];refine Ae ?_;refine(Aev o (AO q) _).trans ?_;simp only[ND,DK,Ab];refine Bi (show (AO q).v=ps[i].v from heq) ?_;rw[Av,A0 hlt];refine Ae ?_;refine(AlU o (AO q) _).trans ?_;simp only[eN,ND,DK,Ab];refine Aa ga ?_;simp only[eZ,eN,ND,DK,Ab]at sp ⊢;rw[Av,A0 hlt];refine Ae ?_;rw[show Apa (0+o.length*3+1+2) (Ai eP (o++[AO q])).length=true by rw[AT Au];simp;omega];refine Ae ?_;rw[sp,BC (by omega)];have el:(o++[AO q]).length=(o++[AO (q.1,q.2+(pv ps[i]).2)]).length:=by simp
    rw[el];refine Aa ih ?_;rfl
   .rw[if_neg heq,Aps,Ars,eo]at ih
    have hlen:((r.map AO).reverse++[AO q]).length<=i:=by simp at hs ⊢;omega
    have e1:Ag.sub .i64 ((((r.map AO).reverse++[AO q]).length:Nat):Int) 1=(((r.map AO).reverse.length:Nat):Int):=by
     rw[η,Apm];exact Na (by omega)
    have hlt:(r.map AO).reverse.length<((r.map AO).reverse++[AO q]).length:=by simp
    rw[e1];refine BW (by omega) ?_;rw[Av,A0 hlt];refine Ae ?_;refine(Aev _ (AO q) _).trans ?_;simp only[ND,DK,Ab];refine AK (show ¬(AO q).v=ps[i].v from heq) ?_;generalize (r.map AO).reverse++[AO q]=o at hlen ih ⊢;have ho:=hlen;have hf:Be (o.length+1) 40=true:=AL (by omega) (by omega);have hb1:Apa (0+o.length*3) (Ai eP o).length=true:=AJ Au o (by omega);have e3:ι 0 (κ (0+o.length*3) (Ai eP o))++[iv ps[i].v,bv (Az (zv ps[i].z)).neg,eN (Az (zv ps[i].z)).abs]=Ai eP (o++[AO (pv ps[i])]):=by
     rw[χ,Bf Au o (by omega)];exact Bc eP o (AO (pv ps[i]))
    refine Aa (hcp hzi) ?_;simp only[eZ,eN,ND,DK,Ab]at e3 ⊢;rw[hf];refine Ae ?_;rw[hb1];refine Ae ?_;rw[e3,BC (by omega)];rw[η,Apm]at ih;refine Aa ih ?_;rfl
end
section
variable {D:Orc} (Kt:Knows K4 Oy D) (Z:ZF D) (hcp:∀{z:Zi},Lz 1000000000 z->D.ask (.fn 138) [.agg (eZ z)] []=some (.agg (eZ (Az (zv z))),[]))
 (hsort:∀ l:List Pt,l.length<=1000000000->∃ r:List Pt,D.ask (.fn 136) [.sl 0 0 l.length 3,EO] [D8 l]=some (.tup [],[.set (D8 r)])/\r.length=l.length/\r.Perm l/\Srt Pt.v r 0 r.length)
 (hdel:∀ l:List Pt,l.length<=1000000000->(∀ p∈l,Lz 1000000000 p.z)->∃ cells:List AV,D.ask (.fn 140) [.sl 0 0 l.length 3,fnZ] [Ξ (Ai eP l) true true]
   = some (.sl 0 0 (l.filter λp=>!decide (zv p.z=0)).length 3,[.set (Ξ cells true true)])
   ∧ cells.take ((l.filter λp=>!decide (zv p.z=0)).length*3)=Ai eP (l.filter λp=>!decide (zv p.z=0))/\(l.filter λp=>!decide (zv p.z=0)).length*3<=cells.length)
include Kt Z hcp hsort hdel
theorem VH{n k:Nat}{t:Tm}(h:TmB n k t)(hn:n<=1000000)(hk:k+n<=900000000)(gc:D.ask (.fn 135) [.ls (t.ps.map eP)] []=some (.sl 0 0 t.ps.length 3,[.set (D8 t.ps)])):∃ tl:List AV,D.ask (.fn 62) [.agg (eT t)] []=some (.agg [.sl 0 0 (A8 t.lf.ps).length 3,bv (Az (zv t.k)).neg,eN (Az (zv t.k)).abs],[.set (Ξ (Ai eP ((A8 t.lf.ps).map AO)++tl) true true)]):=by
 obtain⟨ps,kz⟩:=t;have hlen:ps.length<=n:=h.len;obtain⟨r,gs,gr,gp,go⟩:=hsort ps (by omega);have gk:=hcp (h.k.mono (show k<=1000000000 by omega));have hzr:∀ p∈r,Lz k p.z:=λp hp=>h.ps p (gp.mem_iff.1 hp)
 have gl:=Oi Kt Z hcp r (k:=k) (by omega) (by omega) hzr [] false [] (Az (zv kz)).neg ((Az (zv kz)).abs.map eL) _ 0 [] rfl (by omega) (by simp) (by simp);rw[χ]at gl;have hsrt:(r.map pv).Pairwise λa b=>a.1<=b.1:=by
  rw[Arr];exact FU Pt.v go
 have hpl:=O9 hsrt (gp.map pv);generalize hS:(r.map pv).foldl CK []=S at gl hpl;have hsb:∀ p∈((S.map AO).reverse),Lz 1000000000 p.z:=by
  have key:∀(t s:List (Int × Int)) (j:Nat),(∀ q∈s,InB (k+j) q.2)->(∀ q∈t,InB k q.2)->∀ q∈t.foldl CK s,InB (k+j+t.length) q.2:=by
   intro t
   induction t with
   |nil=>intro s j hs _ q hq;exact hs q hq
   |cons p t ih=>
    intro s j hs ht q hq;have:=ih (CK s p) (j+1) (Gt hs ((ht p (Apn ..)).mono (show k<=k+j by omega))) (λq hq=>ht q (ApB _ hq)) q hq;rw[π];exact this.mono (by omega)
  intro p hp;rw[ArC,ApY]at hp;obtain⟨q,hq,rfl⟩:=hp;have:=key (r.map pv) [] 0 (by simp) (λq hq=>by
   rw[ApY]at hq;obtain⟨p,hp,rfl⟩:=hq;exact(hzr p hp).inb) q (by rw[hS];exact hq)
  rw[Api]at this;exact(this.lz).mono (by omega)
 have hSl:S.length<=1000000:=by
  have key:∀(t s:List (Int × Int)),(t.foldl CK s).length<=s.length+t.length:=by
   intro t
   induction t with
   |nil=>intro s;simp
   |cons p t ih=>
    intro s;have:=ih (CK s p);have h2:=Gu s p;rw[AqQ,π];omega
  have:=key (r.map pv) [];rw[hS,Api]at this;simp at this;omega
 obtain⟨cells,gd,gt,gle⟩:=hdel (S.map AO).reverse (by simp;omega) hsb;have hfin:((S.map AO).reverse).filter (λp=>!decide (zv p.z=0))=(A8 (ps.map pv)).map AO:=by
  rw[←hpl,←AsA,AsD]
  congr 1
  refine Asr λq _=>?_
  show (!decide (zv (Az q.2)=0))=_
  rw[AU]
 rw[hfin]at gd gt gle;have hce:cells=Ai eP ((A8 (ps.map pv)).map AO)++cells.drop (((A8 (ps.map pv)).map AO).length*3):=by
  rw[←gt,Ap5]
 refine⟨cells.drop (((A8 (ps.map pv)).map AO).length*3),?_⟩
 show _=some (Ω [.sl 0 0 (A8 (ps.map pv)).length 3,bv (Az (zv kz)).neg,eN (Az (zv kz)).abs],([.set (Ξ (Ai eP ((A8 (ps.map pv)).map AO)++cells.drop (((A8 (ps.map pv)).map AO).length*3)) true true)]:List BO))
 rw[←hce];refine Kt.fn' Mx _ rfl ((AjN ..).trans ?_);refine Aa gc ?_;simp only[ND,DK,Ab];refine Aa gs ?_;simp only[ND,DK,Ab];refine Aa gk ?_;simp only[eZ,eN,ND,DK,Ab];rw[show Apa (0+ps.length*3) (Ai eP r).length=true from AJ Au r (by omega)];refine Ae ?_;rw[Bp Au r (by omega),←gr];refine Aa gl ?_;simp only[ND,DK,Ab];refine Aa gd ?_;simp only[Api,ND,DK,Ab]
theorem VI{n k:Nat}{t:Tm}(h:TmB n k t)(hn:n<=1000000)(hk:k+n<=900000000){cs:List AV}(gc:D.ask (.fn 135) [.sl 0 0 t.ps.length 3] [Ξ cs true true]=some (.sl 1 0 t.ps.length 3,[.keep,.set (D8 t.ps)])):∃ tl:List AV,D.ask (.fn 62) [.agg [.sl 0 0 t.ps.length 3,bv t.k.neg,eN t.k.abs]] [Ξ cs true true]=some (.agg [.sl 1 0 (A8 t.lf.ps).length 3,bv (Az (zv t.k)).neg,eN (Az (zv t.k)).abs],[.keep,.set (Ξ (Ai eP ((A8 t.lf.ps).map AO)++tl) true true)]):=by
 obtain⟨ps,kz⟩:=t;have hlen:ps.length<=n:=h.len;obtain⟨r,gs,gr,gp,go⟩:=hsort ps (by omega);have gk:=hcp (h.k.mono (show k<=1000000000 by omega));have hzr:∀ p∈r,Lz k p.z:=λp hp=>h.ps p (gp.mem_iff.1 hp)
 have gl:=Oi Kt Z hcp r (k:=k) (by omega) (by omega) hzr [] false [] (Az (zv kz)).neg ((Az (zv kz)).abs.map eL) _ 0 [] rfl (by omega) (by simp) (by simp);rw[χ]at gl;have hsrt:(r.map pv).Pairwise λa b=>a.1<=b.1:=by
  rw[Arr];exact FU Pt.v go
 have hpl:=O9 hsrt (gp.map pv);generalize hS:(r.map pv).foldl CK []=S at gl hpl;have hsb:∀ p∈((S.map AO).reverse),Lz 1000000000 p.z:=by
  have key:∀(t s:List (Int × Int)) (j:Nat),(∀ q∈s,InB (k+j) q.2)->(∀ q∈t,InB k q.2)->∀ q∈t.foldl CK s,InB (k+j+t.length) q.2:=by
   intro t
   induction t with
   |nil=>intro s j hs _ q hq;exact hs q hq
   |cons p t ih=>
    intro s j hs ht q hq;have:=ih (CK s p) (j+1) (Gt hs ((ht p (Apn ..)).mono (show k<=k+j by omega))) (λq hq=>ht q (ApB _ hq)) q hq;rw[π];exact this.mono (by omega)
  intro p hp;rw[ArC,ApY]at hp;obtain⟨q,hq,rfl⟩:=hp;have:=key (r.map pv) [] 0 (by simp) (λq hq=>by
   rw[ApY]at hq;obtain⟨p,hp,rfl⟩:=hq;exact(hzr p hp).inb) q (by rw[hS];exact hq)
  rw[Api]at this;exact(this.lz).mono (by omega)
 have hSl:S.length<=1000000:=by
  have key:∀(t s:List (Int × Int)),(t.foldl CK s).length<=s.length+t.length:=by
   intro t
   induction t with
   |nil=>intro s;simp
   |cons p t ih=>
    intro s;have:=ih (CK s p);have h2:=Gu s p;rw[AqQ,π];omega
  have:=key (r.map pv) [];rw[hS,Api]at this;simp at this;omega
 obtain⟨cells,gd,gt,gle⟩:=hdel (S.map AO).reverse (by simp;omega) hsb;have hfin:((S.map AO).reverse).filter (λp=>!decide (zv p.z=0))=(A8 (ps.map pv)).map AO:=by
  rw[←hpl,←AsA,AsD]
  congr 1
  refine Asr λq _=>?_
  show (!decide (zv (Az q.2)=0))=_
  rw[AU]
 rw[hfin]at gd gt gle;have hce:cells=Ai eP ((A8 (ps.map pv)).map AO)++cells.drop (((A8 (ps.map pv)).map AO).length*3):=by
  rw[←gt,Ap5]
 refine⟨cells.drop (((A8 (ps.map pv)).map AO).length*3),?_⟩
 show _=some (Ω [.sl 1 0 (A8 (ps.map pv)).length 3,bv (Az (zv kz)).neg,eN (Az (zv kz)).abs],([.keep,.set (Ξ (Ai eP ((A8 (ps.map pv)).map AO)++cells.drop (((A8 (ps.map pv)).map AO).length*3)) true true)]:List BO))
 rw[←hce];refine Kt.fn' X7 _ rfl ((AjO ..).trans ?_);refine Aa gc ?_;simp only[ND,DK,Ab];refine Aa gs ?_;simp only[ND,DK,Ab];refine Aa gk ?_;simp only[eZ,eN,ND,DK,Ab];rw[show Apa (0+ps.length*3) (Ai eP r).length=true from AJ Au r (by omega)];refine Ae ?_;rw[Bp Au r (by omega),←gr];refine Aa gl ?_;simp only[ND,DK,Ab];refine Aa gd ?_;simp only[Api,ND,DK,Ab]
end
theorem Qj:CloneF WB where
 nat l h:=Wq (Jm h)
theorem P4:ZF WB:=Ag6 Agf Agm Qj
theorem AhA:DivF WB where
 div _ _ ha hal hb hbl:=Ae9 (AlE ha hal hb hbl)
theorem Ajk:ZdF WB:=Ag5 Agf Agm Qj AkU AhA
theorem Rt:SeatOk ψ Bb A7:=V6 Fk HV (AjS _)
theorem Vg(f:Nat):AW (Ba ψ f) ((AC Ag A7).ask (.fn f)):=Fz Rt f
theorem Aju(l:List Pt)(hl:l.length<=1000000000)(hz:∀ p∈l,Lz 1000000000 p.z):∃ cells:List AV,WB.ask (.fn 140) [.sl 0 0 l.length 3,fnZ] [Ξ (Ai eP l) true true]
   = some (.sl 0 0 (l.filter λp=>!decide (zv p.z=0)).length 3,[.set (Ξ cells true true)])
   ∧ cells.take ((l.filter λp=>!decide (zv p.z=0)).length*3)=Ai eP (l.filter λp=>!decide (zv p.z=0))/\(l.filter λp=>!decide (zv p.z=0)).length*3<=cells.length:=
 W5 Yi (λp=>decide (zv p.z=0)) l hl (λp hp=>N4 Yi P4 (hz p hp))
end
end Go.Proofs.YtpncilciembjdaaGreatDoor
