/- A seat of D: tables of f -/
import Derived.Test.YtlmhajfbpplpoaaGreatMAQ
import Derived.Lib.Join
set_option linter.all false
open Bool renaming false->Θ,true->U,and_eq_true->AvF,false_and->Awb,true_and->AvR
open List renaming all_cons->Axc,drop->AvI,drop_eq_getElem_cons->ω,drop_eq_nil_of_le->ο,drop_zero->κ,getElem?_eq_getElem->Ω,getElem_mem->AvN,length_cons->ε,take->AvG
open Nat renaming blt->Awv,lt_succ_self->AvS
open Option renaming none->Δ,some->V
namespace Go.Proofs.YtlmhajfbpplpoaaGreat
noncomputable section
open ABlk renaming mk->Ψ
open AV renaming agg->Φ,ls->Ξ,ptr->ψ,sl->ν,tup->γ,v->AvM
open BO renaming set->AvH
open IntKind renaming i64->φ
open Key renaming fn->δ,lp->ι
open Tryz renaming prog->π
open Go.RowKit
def OE:List (List (Nat × MFn)):=[Wo,Qr,Ni,YE,TY,Sl,Aaq,NW,Mn,Qs,Ag5]
def S4:List (Nat × DF):=[(77,CO CH),(195,CO BZ)]
def Cz:Seat:=ID Ak OE.flatten S4
def IK:Orc:=Bf Ai Cz
set_option maxRecDepth 100000 in
theorem AnE:JU π BI OE:=by
 repeat' first|exact trivial|refine⟨⟨_,_,_,rfl⟩,by kernel_rfl,?_⟩|refine⟨?_,?_⟩
theorem FI:(GK OE&&NN OE.flatten S4)=U:=by kernel_rfl
theorem Afc:Knows Ak Wo IK:=Bg FI (i:=0) rfl
theorem Aix:Knows Ak Qr IK:=Bg FI (i:=1) rfl
theorem Te:Knows Ak Ni IK:=Bg FI (i:=2) rfl
theorem Aiw:Knows Ak YE IK:=Bg FI (i:=3) rfl
theorem Zj:Knows Ak TY IK:=Bg FI (i:=4) rfl
theorem Aoo:Knows Ak Sl IK:=Bg FI (i:=5) rfl
theorem Aop:Knows Ak Aaq IK:=Bg FI (i:=6) rfl
theorem Afb:Knows Ak NW IK:=Bg FI (i:=7) rfl
theorem Afe:Knows Ak Mn IK:=Bg FI (i:=8) rfl
theorem Afd:Knows Ak Qs IK:=Bg FI (i:=9) rfl
theorem Aor:Knows Ak Ag5 IK:=Bg FI (i:=10) rfl
section
variable {args:Ab} {bs:List ABlk} {r:AV × List BO}
theorem AcL(h:(CO CH) args bs=V r):IK.ask (.fn 77) args bs=V r:=BB rfl h
theorem WI(h:(CO BZ) args bs=V r):IK.ask (.fn 195) args bs=V r:=BB rfl h
end
theorem Yu(h:JW π S4):SeatOk π BI Cz:=Ik X4 HW AnE h
section
open Go.RowKit
def Ei:List (Nat × Nat):=[(73,2)]
def Tn:MFn:=Bj [⟨22,(mB 38),[],[2],[(0,((mB 16),([],[2]))),(1,([],([],[2])))]⟩] 192
def Ph:Hnt:=⟨[],[(0,[(0,([.int .i64],[.del])),(1,([],[.del]))])],[(8,[.ls]),(14,[.ls]),(16,Qj),(18,[.str])]⟩
def AfB:MFn:=Bj [] 131
def XJ:Hnt:=⟨[(121,(.int .i64,[])),(192,(.int .i64,[])),(193,(.tup [.agg BS,.bool],[]))],[],[(11,[.int .i64]),(13,Fs),(15,[.str]),(21,[.ls]),(23,Qj),(25,[.ls]),(27,[.str]),(35,A8),(37,[.ls]),(41,BS)]⟩
def Gw:MFn:=I5 π BI [⟨90,(mB 2628),[],[6],[(0,((mB 448),([],[9]))),(1,((mB 580),([],[1000002])))]⟩,⟨90,(mB 12380),[(3000012,3)],[6],[(0,((mB 448),([],[3000012,12,3,4]))),(3,((mB 4164),([12],[3,4])))]⟩] U Θ 73
def Iz:Hnt:=⟨[(41,(.bool,[])),(73,(.tup [.agg [.int .i64,.int .i64,.cst (.slice Δ 0 0)],.sl 1 9,.bool],[.del,.row U])),(131,(.tup [.agg Cg,.bool],[]))],[(0,[(0,([.ptr 1 0,.sl 3 9,.bool],[.del,.box [.int .i64,.int .i64,.cst (.slice Δ 0 0)],.del,.row U])),(1,([.sl 0 9,.ptr 1 0,.ptr 2 0],[.row U,.box Cj,.box Cg]))]),(1,[(0,([.ptr 3 0,.cst (.slice Δ 0 0),.bool],[.del,.del,.del,.box [.int .i64,.int .i64,.cst (.slice Δ 0 0)],.del,.del])),(3,([.sl 6 9,.ptr 3 0,.ptr 4 0],[.del,.del,.del,.box Cj,.box Cj,.del,.row U]))])],[(18,[.int .i64]),(22,[.int .i64]),(26,A8),(27,Fs),(42,Cg),(43,Cg),(44,Cg),(53,Cg),(57,[.int .i64]),(61,[.ls]),(68,[.ls]),(70,A8),(71,A8),(72,Fs),(82,[.ls]),(83,Cj),(88,Cj)]⟩
def XK:Hnt:=⟨[(41,(.bool,[])),(73,(.tup [.agg Cj,.sl 1 9,.bool],[.del,.row U])),(131,(.tup [.agg Cg,.bool],[]))],[(0,[(0,([.ptr 1 0,.sl 3 9,.bool],[.del,.box [.int .i64,.int .i64,.cst (.slice Δ 0 0)],.del,.row U])),(1,([.sl 0 9,.ptr 1 0,.ptr 2 0],[.row U,.box Cj,.box Cg]))]),(1,[(0,([.ptr 3 0,.cst (.slice Δ 0 0),.bool],[.del,.del,.del,.box [.int .i64,.int .i64,.cst (.slice Δ 0 0)],.del,.del])),(3,([.sl 6 9,.ptr 3 0,.ptr 4 0],[.del,.del,.del,.box Cj,.box Cj,.del,.row U]))])],[(18,[.int .i64]),(22,[.int .i64]),(26,A8),(27,Fs),(42,Cg),(43,Cg),(44,Cg),(53,Cg),(57,[.int .i64]),(61,[.ls]),(68,[.ls]),(70,A8),(71,A8),(72,Fs),(82,[.ls]),(83,Cj),(88,Cj)]⟩
def AeU:Hnt:=⟨[(41,(.bool,[])),(73,(.tup [.agg [.int .i64,.int .i64,.cst (.slice Δ 0 0)],.cst (.slice Δ 0 0),.bool],[.keep])),(131,(.tup [.agg Cg,.bool],[]))],[(0,[(0,([.ptr 1 0,.sl 3 9,.bool],[.del,.box [.int .i64,.int .i64,.cst (.slice Δ 0 0)],.del,.row U])),(1,([.sl 0 9,.ptr 1 0,.ptr 2 0],[.row U,.box Cj,.box Cg]))]),(1,[(0,([.ptr 3 0,.cst (.slice Δ 0 0),.bool],[.del,.del,.del,.box [.int .i64,.int .i64,.cst (.slice Δ 0 0)],.del,.del])),(3,([.sl 6 9,.ptr 3 0,.ptr 4 0],[.del,.del,.del,.box Cj,.box Cj,.del,.row U]))])],[(18,[.int .i64]),(22,[.int .i64]),(26,A8),(27,Fs),(42,Cg),(43,Cg),(44,Cg),(53,Cg),(57,[.int .i64]),(61,[.ls]),(68,[.ls]),(70,A8),(71,A8),(72,Fs),(82,[.ls]),(83,Cj),(88,Cj)]⟩
def AeV:Hnt:=⟨[(41,(.bool,[])),(73,(.tup [.agg [.int .i64,.int .i64,.cst (.slice Δ 0 0)],.cst (.slice Δ 0 0),.bool],[.del])),(131,(.tup [.agg Cg,.bool],[]))],[(0,[(0,([.ptr 1 0,.sl 3 9,.bool],[.del,.box [.int .i64,.int .i64,.cst (.slice Δ 0 0)],.del,.row U])),(1,([.sl 0 9,.ptr 1 0,.ptr 2 0],[.row U,.box Cj,.box Cg]))]),(1,[(0,([.ptr 3 0,.cst (.slice Δ 0 0),.bool],[.del,.del,.del,.box [.int .i64,.int .i64,.cst (.slice Δ 0 0)],.del,.del])),(3,([.sl 6 9,.ptr 3 0,.ptr 4 0],[.del,.del,.del,.box Cj,.box Cj,.del,.row U]))])],[(18,[.int .i64]),(22,[.int .i64]),(26,A8),(27,Fs),(42,Cg),(43,Cg),(44,Cg),(53,Cg),(57,[.int .i64]),(61,[.ls]),(68,[.ls]),(70,A8),(71,A8),(72,Fs),(82,[.ls]),(83,Cj),(88,Cj)]⟩
def AeW:Hnt:=⟨[(41,(.bool,[])),(73,(.tup [.agg [.int .i64,.int .i64,.cst (.slice Δ 0 0)],.sl 1 9,.bool],[.del,.row U])),(131,(.tup [.agg Cg,.bool],[]))],[(0,[(0,([.ptr 1 0,.sl 3 9,.bool],[.del,.box [.int .i64,.int .i64,.cst (.slice Δ 0 0)],.del,.row U])),(1,([.sl 0 9,.ptr 1 0,.ptr 2 0],[.row U,.box Cj,.box Cg]))]),(1,[(0,([.ptr 3 0,.cst (.slice Δ 0 0),.bool],[.keep,.del,.del,.box [.int .i64,.int .i64,.cst (.slice Δ 0 0)],.del,.del])),(3,([.sl 6 9,.ptr 3 0,.ptr 4 0],[.del,.del,.del,.box Cj,.box Cj,.del,.row U]))])],[(18,[.int .i64]),(22,[.int .i64]),(26,A8),(27,Fs),(42,Cg),(43,Cg),(44,Cg),(53,Cg),(57,[.int .i64]),(61,[.ls]),(68,[.ls]),(70,A8),(71,A8),(72,Fs),(82,[.ls]),(83,Cj),(88,Cj)]⟩
def AeX:Hnt:=⟨[(41,(.bool,[])),(73,(.tup [.agg [.int .i64,.int .i64,.cst (.slice Δ 0 0)],.sl 1 9,.bool],[.del,.row U])),(131,(.tup [.agg Cg,.bool],[]))],[(0,[(0,([.ptr 1 0,.sl 3 9,.bool],[.del,.box [.int .i64,.int .i64,.cst (.slice Δ 0 0)],.del,.row U])),(1,([.sl 0 9,.ptr 1 0,.ptr 2 0],[.row U,.box Cj,.box Cg]))]),(1,[(0,([.ptr 3 0,.cst (.slice Δ 0 0),.bool],[.del,.del,.del,.box [.int .i64,.int .i64,.cst (.slice Δ 0 0)],.del,.del])),(3,([.sl 6 9,.ptr 3 0,.ptr 4 0],[.del,.del,.del,.box Cj,.box Cj,.row Θ,.row U]))])],[(18,[.int .i64]),(22,[.int .i64]),(26,A8),(27,Fs),(42,Cg),(43,Cg),(44,Cg),(53,Cg),(57,[.int .i64]),(61,[.ls]),(68,[.ls]),(70,A8),(71,A8),(72,Fs),(82,[.ls]),(83,Cj),(88,Cj)]⟩
def VD:MFn:=Bj [] 35
def AeN:Hnt:=⟨[(37,(.bool,[])),(73,(.tup [.agg [.int .i64,.int .i64,.cst (.slice Δ 0 0)],.sl 1 9,.bool],[.del,.row U]))],[],[(7,A8),(11,A8),(12,Fs)]⟩
def AeO:Hnt:=⟨[(37,(.bool,[])),(73,(.tup [.agg Cj,.sl 1 9,.bool],[.del,.row U]))],[],[(7,A8),(11,A8),(12,Fs)]⟩
def AeP:Hnt:=⟨[(37,(.bool,[])),(73,(.tup [.agg [.int .i64,.int .i64,.cst (.slice Δ 0 0)],.cst (.slice Δ 0 0),.bool],[.keep]))],[],[(7,A8),(11,A8),(12,Fs)]⟩
def AeQ:Hnt:=⟨[(37,(.bool,[])),(73,(.tup [.agg [.int .i64,.int .i64,.cst (.slice Δ 0 0)],.cst (.slice Δ 0 0),.bool],[.del]))],[],[(7,A8),(11,A8),(12,Fs)]⟩
def TW:List (Nat × MFn):=[(192,Tn),(131,AfB),(73,Gw),(35,VD)]
variable (A:Ar) (D:Orc)
theorem Aqd(x0_0 x0_1:Rw)(x0_2:Int)(x0_3:Rw)(x0_4:Bool)(x0_5:Rw)(x0_6:Bool)(x0_7 x0_8 x0_9:Rw)(x1:ByteArray):Bp A D Ei Ph .n 192 Tn [Φ [Ξ x0_0,Ξ x0_1,iv x0_2,Ξ x0_3,bv x0_4,Ξ x0_5,bv x0_6,Ξ x0_7,Ξ x0_8,Ξ x0_9],sv x1] [] =
 Ah D (ι 192 0) [sv x1,ψ 0 0,iv 0] [bk [Ξ x0_0,Ξ x0_1,iv x0_2,Ξ x0_3,bv x0_4,Ξ x0_5,bv x0_6,Ξ x0_7,Ξ x0_8,Ξ x0_9]] [.t,.C,.x,.X,.Y] λc l o=>
 br (AT 0 c)
 (dk [.I,.N,.D,.E] [.l l,.o o] λn=>
 V ((iv n,[])))
 (br (AT 1 c)
 (dk [.N,.D,.E,.w] [.l l,.o o] λ_=>
 V ((iv (-1),[])))
 (Δ)):=by kernel_rfl
theorem Y4(t1:ByteArray)(b2_0 b2_1:Rw)(b2_2:Int)(b2_3:Rw)(b2_4:Bool)(b2_5:Rw)(b2_6:Bool)(b2_7 b2_8 b2_9:Rw)(t5:Int):CT A D Ei Ph .n 192 0 (AI Tn 0).fst (AI Tn 0).snd [sv t1,ψ 0 0,iv t5] [bk [Ξ b2_0,Ξ b2_1,iv b2_2,Ξ b2_3,bv b2_4,Ξ b2_5,bv b2_6,Ξ b2_7,Ξ b2_8,Ξ b2_9]] =
 br (A.lt t5 ↑(AP b2_8)) (unI t5 λi=>A4 b2_8 i λcs=>dk [.S,.L,.L,.N] [.l cs] λs _ _=>br (A.seq s t1) (V (γ [bv U,iv t5],[BO.del]))
 (let y1:=bk [Ξ b2_0,Ξ b2_1,iv b2_2,Ξ b2_3,bv b2_4,Ξ b2_5,bv b2_6,Ξ b2_7,Ξ b2_8,Ξ b2_9];AJ D (ι 192 0) [sv t1,ψ 0 0,iv (A.add φ t5 1)] [y1] λr o=>AG 1 [0]
 (AH.mk [(0,y1)] 1 Δ) [0] r o)) (V (γ [iv 0],[BO.del])):=by kernel_rfl
theorem Akw(x0_0:Int)(x0_1 x0_2:Rw)(x0_3:Int)(x0_4 x0_5:ByteArray)(x0_6 x1_0 x1_1:Rw)(x1_2:Int)(x1_3:Rw)(x1_4:Bool)(x1_5:Rw)(x1_6:Bool)(x1_7 x1_8 x1_9:Rw):Bp A D Ei XJ .n 131 AfB [Φ [iv x0_0,Ξ x0_1,Ξ x0_2,iv x0_3,sv x0_4,sv x0_5,Ξ x0_6],Φ [Ξ x1_0,Ξ x1_1,iv x1_2,Ξ x1_3,bv x1_4,Ξ x1_5,bv x1_6,Ξ x1_7,Ξ x1_8,Ξ x1_9]] [] =
 br (A.eq x0_0 6) (Ah D (δ 192) [Φ [Ξ x1_0,Ξ x1_1,iv x1_2,Ξ x1_3,bv x1_4,Ξ x1_5,bv x1_6,Ξ x1_7,Ξ x1_8,Ξ x1_9],sv x0_4] [] [.i,.E] λn=>br (A.lt n 0) (V (γ [Φ [bv
 Θ,iv 0,iv 0,iv 0,Ξ [],bv Θ,Ξ [],bv Θ,Ξ []],bv Θ],[])) (unI n λi=>A4 x1_8 i λcs=>dk [.S,.L,.L,.N] [.l cs] λ_ xs _=>Ah D (δ 121) [Ξ xs,sv x0_5] [] [.i,.E] fun
 n1=>let y1:=Φ [bv U,iv n,iv n1,iv 0,Ξ [],bv Θ,Ξ [],bv Θ,Ξ []];br (A.le 0 n1) (V (γ [y1,bv U],[])) (V (γ [y1,bv Θ],[])))) (Ah D (δ 193) [Φ [iv x0_0,
 Ξ x0_1,Ξ x0_2,iv x0_3,sv x0_4,sv x0_5,Ξ x0_6],Ξ x1_0] [] [.t,.A,.I,.L,.B,.L,.B,.L,.N,.B,.N,.E] λn xs b xs1 b1 xs2 b2=>V (γ [Φ [bv Θ,iv 0,iv 0,iv n,Ξ xs,bv b,Ξ
 xs1,bv b1,Ξ xs2],bv b2],[])):=by kernel_rfl
theorem Ah7(x0_0:Int)(x0_1 x0_2:Rw)(x0_3:Int)(x0_4 x0_5:ByteArray)(x0_6 x1_0 x1_1:Rw)(x1_2:Int)(x1_3:Rw)(x1_4:Bool)(x1_5:Rw)(x1_6:Bool)(x1_7 x1_8 x1_9:Rw)(n2:Nat)(c2:Ab):Bp A D Ei Iz .n 73 Gw [Φ [iv x0_0,Ξ x0_1,Ξ x0_2,iv x0_3,sv x0_4,sv x0_5,Ξ x0_6],Φ [Ξ x1_0,Ξ x1_1,iv x1_2,Ξ x1_3,bv x1_4,Ξ x1_5,bv x1_6,Ξ x1_7,Ξ x1_8,Ξ x1_9],ν 0 0 n2 9] [{ cells:=c2,st:=U,ex:=U }] =
 let y2:=[Ξ x1_0,Ξ x1_1,iv x1_2,Ξ x1_3,bv x1_4,Ξ x1_5,bv x1_6,Ξ x1_7,Ξ x1_8,Ξ x1_9];let y3:=[iv x0_0,Ξ x0_1,Ξ x0_2,iv x0_3,sv x0_4,sv x0_5,Ξ x0_6];
 let y1:=Ah D (δ 131) [Φ y3,Φ y2] [] [.t,.A,.B,.I,.I,.I,.L,.B,.L,.B,.L,.N,.B,.N,.E] λb n n1 n3 xs b1 xs1 b2 xs2 b3=>br (A.not b3) (V (γ [Φ [iv 0,iv 0,AvM (Value.slice Δ 0 0)],AvM (Value.slice Δ 0 0),bv Θ],[BO.keep])) (Ah D (ι 73 0) [ν 0 0 n2 9,ψ 1 0,ψ 2 0,iv 0] [Ψ c2 U U,bk [iv 0,iv 0,Ξ []],bk [bv b,iv n,iv n1,iv n3,Ξ xs,bv b1,Ξ xs1,bv b2,Ξ xs2]] [.t,.C,.x,.X,.Y] λc1 l11 o1=>br (AT 0 c1) (dk [.P 1 0,.C,.q 3 9,.B,.N,.D,.T,.I,.I,.C,.c (Value.slice Δ 0 0),.N,.D,.R,.X,.E] [.l l11,.o o1] λn4 b4 n5 n6 cs4=>V (γ [Φ [iv n5,iv n6,AvM (Value.slice Δ 0 0)],ν 1 0 n4 9,bv b4],[BO.del,AvH (Ψ cs4 U U)])) (br (AT 1 c1) (dk [.C,.q 0 9,.P 1 0,.P 2 0,.N,.R,.X,.T,.I,.I,.L,.N,.T,.B,.I,.I,.I,.L,.B,.L,.B,.L,.N,.E] [.l l11,.o o1] λn4 cs3 _ _ _ b4 n7 n8 n9 xs4 b5 xs5 b6 xs6=>br (AU (n4+1) 120) (br ((0+n4*9).ble cs3.length) (V (γ [Φ [iv 2,iv ↑n4,AvM (Value.slice Δ 0 0)],ν 1 0 (n4+1) 9,bv U],[BO.del,AvH (Ψ (AvI 0 (AvG (0+n4*9) cs3)++[bv b4,iv n7,iv n8,iv n9,Ξ xs4,bv b5,Ξ xs5,bv b6,Ξ xs6]) U U)])) Δ) Δ) Δ));
 br (A.eq x0_0 2) y1 (br (A.eq x0_0 6) y1 (Ah D (ι 73 1) [ν 0 0 n2 9,ψ 1 0,ψ 2 0,ψ 3 0,ψ 4 0,iv 0] [Ψ c2 U U,bk y3,bk y2,bk [iv 0,iv 0,Ξ []],bk [iv x0_0,iv 0,ν 5 0 0
 3],Ψ [] U U] [.t,.C,.x,.X,.Y] λc l o=>br (AT 0 c) (dk [.P 3 0,.C,.c (Value.slice Δ 0 0),.B,.N,.D,.D,.D,.T,.I,.I,.C,.c (Value.slice Δ 0 0),.N,.D,.D,.E] [.l l,.o o] λb n n1=>V
 (γ [Φ [iv n,iv n1,AvM (Value.slice Δ 0 0)],AvM (Value.slice Δ 0 0),bv b],[BO.del])) (br (AT 3 c) (dk [.C,.q 6 9,.P 3 0,.P 4 0,.N,.D,.D,.D,.T,.I,.I,.L,.N,.T,.I,.I,.L,.N,.D,.R,.X,.E]
 [.l l,.o o] λn _ _ _ n4 n5 xs1 cs3=>V (γ [Φ [iv n4,iv n5,Ξ xs1],ν 1 0 n 9,bv U],[BO.del,AvH (Ψ cs3 U U)])) Δ))):=by kernel_rfl
theorem Aej(n2:Nat)(c2:Ab)(b6_0 b6_1:Int)(b6_2:Rw)(b9_0:Bool)(b9_1 b9_2 b9_3:Int)(b9_4:Rw)(b9_5:Bool)(b9_6:Rw)(b9_7:Bool)(b9_8:Rw)(t11:Int):CT A D Ei Iz .n 73 0 (AI Gw 0).fst (AI Gw 0).snd [ν 0 0 n2 9,ψ 1 0,ψ 2 0,iv t11] [{ cells:=c2,st:=U,ex:=U },bk [iv b6_0,iv b6_1,Ξ b6_2],bk [bv b9_0,iv b9_1,iv b9_2,iv b9_3,Ξ b9_4,bv b9_5,Ξ b9_6,bv b9_7,Ξ b9_8]] =
 let y1:=[bv b9_0,iv b9_1,iv b9_2,iv b9_3,Ξ b9_4,bv b9_5,Ξ b9_6,bv b9_7,Ξ b9_8];let y2:=bk [iv b6_0,iv b6_1,Ξ b6_2];br (A.lt t11 ↑n2) (unI t11 λi=>br (i.blt n2) (Gf c2 (0+i*9) 9 λcs=>
 dk [.B,.I,.I,.I,.L,.B,.L,.B,.L,.N] [.l cs] λb n n1 n3 xs b1 xs1 b2 xs2=>Ah D (δ 41) [Φ [bv b,iv n,iv n1,iv n3,Ξ xs,bv b1,Ξ xs1,bv b2,Ξ xs2],Φ y1] [] [.b,.E] λb3=>br b3
 (V (γ [bv U,ψ 1 0,ν 3 0 n2 9,bv U],[BO.del,AvH (bk [iv 2,iv t11,AvM (Value.slice Δ 0 0)]),BO.del,AvH (Ψ c2 U U)])) (AJ D (ι 73 0) [ν 0 0 n2 9,ψ 1 0,ψ 2
 0,iv (A.add φ t11 1)] [Ψ c2 U U,y2,bk y1] λr1 o1=>AG 3 [0,1,2] (AH.mk [(1,y2),(0,Ψ c2 U U),(2,bk y1)] 3 Δ) [1] r1 o1)) Δ) (V (γ [iv 0,ν 0 0 n2 9,ψ 1 0,
 ψ 2 0],[AvH (Ψ c2 U U),AvH y2,AvH (bk y1)])):=by kernel_rfl
theorem Xs(n2:Nat)(c2:Ab)(a1:Int)(a2 a3:Rw)(a4:Int)(a5 a6:ByteArray)(a7 s1 s2:Rw)(s3:Int)(s4:Rw)(s5:Bool)(s6:Rw)(s7:Bool)(s8 s9 s10:Rw)(y0 y1:Int)(y2:Rw)(k0 k1:Int)(n12:Nat)(c12:Ab)(t13:Int):CT A D Ei Iz .n 73 1 (AI Gw 1).fst (AI Gw 1).snd [ν 0 0 n2 9,ψ 1 0,ψ 2 0,ψ 3 0,ψ 4 0,iv t13] [{ cells:=c2,st:=U,ex:=U },bk [iv a1,Ξ a2,Ξ a3,iv a4,sv a5,sv a6,Ξ a7],bk [Ξ s1,Ξ s2,iv s3,Ξ s4,bv s5,Ξ s6,bv s7,Ξ s8,Ξ s9,Ξ s10],bk [iv y0,iv y1,Ξ y2],bk [iv k0,iv k1,ν 5 0 n12 3],{ cells:=c12,st:=U,ex:=U }] =
 let y4:=bk [iv y0,iv y1,Ξ y2];br (A.lt t13 ↑(AP a7)) (unI t13 λi=>A4 a7 i λcs=>dk [.I,.L,.L,.I,.S,.S,.L,.N] [.l cs] λn xs xs1 n1 s s11 xs2=>
 let y1:=[Ξ s1,Ξ s2,iv s3,Ξ s4,bv s5,Ξ s6,bv s7,Ξ s8,Ξ s9,Ξ s10];Ah D (δ 73) [Φ [iv n,Ξ xs,Ξ xs1,iv n1,sv s,sv s11,Ξ xs2],Φ y1,ν 0 0 n2 9] [Ψ
 c2 U U] [.t,.A,.I,.I,.C,.c (Value.slice Δ 0 0),.N,.C,.q 1 9,.B,.N,.D,.R,.X,.E] λn3 n4 n5 b cs3=>br (A.not b) (V (γ [bv U,ψ 3 0,AvM (Value.slice Δ 0 0),bv Θ],[BO.del,
 BO.del,BO.del,AvH (bk [iv 0,iv 0,AvM (Value.slice Δ 0 0)]),BO.del,BO.del])) (br (AU (n12+1) 40) (br ((0+n12*3).ble c12.length) (let y2:=[iv n3,iv n4,AvM (Value.slice Δ 0 0)];
 let y3:=bk [iv a1,Ξ a2,Ξ a3,iv a4,sv a5,sv a6,Ξ a7];let y5:=Ψ (AvI 0 (AvG (0+n12*3) c12)++y2) U U;AJ D (ι 73 1) [ν 0 0 n5 9,ψ 1 0,ψ 2 0,ψ 3 0,
 ψ 4 0,iv (A.add φ t13 1)] [Ψ cs3 U U,y3,bk y1,y4,bk [iv k0,iv k1,ν 5 0 (n12+1) 3],y5] λr1 o1=>AG 6 [6,1,2,3,4,9] (AH.mk [(3,y4),(4,bk [iv k0,iv k1,ν 9 0 (n12+1)
 3]),(9,y5),(8,Ψ y2 U U),(7,bk y2),(6,Ψ cs3 U U),(1,y3),(2,bk y1)] 10 Δ) [0,5,4,3] r1 o1) Δ) Δ)) (br ((0+n12*3).ble c12.length) (V (γ [iv 2,ν 6 0 n2 9,ψ 3 0,
 ψ 4 0],[BO.del,BO.del,BO.del,AvH y4,AvH (bk [iv k0,iv k1,Ξ (Bo n12 3 (AvG (n12*3) c12))]),AvH (Ψ c12 Θ U),AvH (Ψ c2 U U)])) Δ):=by kernel_rfl
theorem Y5(n2:Nat)(c2:Ab)(a1:Int)(a2 a3:Rw)(a4:Int)(a5 a6:ByteArray)(a7 s1 s2:Rw)(s3:Int)(s4:Rw)(s5:Bool)(s6:Rw)(s7:Bool)(s8 s9 s10:Rw)(y0 y1:Int)(y2:Rw)(k0 k1:Int)(n12:Nat)(c12:Ab)(t13:Int):CT A D Ei XK .n 73 1 (AI Gw 1).fst (AI Gw 1).snd [ν 0 0 n2 9,ψ 1 0,ψ 2 0,ψ 3 0,ψ 4 0,iv t13] [{ cells:=c2,st:=U,ex:=U },bk [iv a1,Ξ a2,Ξ a3,iv a4,sv a5,sv a6,Ξ a7],bk [Ξ s1,Ξ s2,iv s3,Ξ s4,bv s5,Ξ s6,bv s7,Ξ s8,Ξ s9,Ξ s10],bk [iv y0,iv y1,Ξ y2],bk [iv k0,iv k1,ν 5 0 n12 3],{ cells:=c12,st:=U,ex:=U }] =
 let y4:=bk [iv y0,iv y1,Ξ y2];br (A.lt t13 ↑(AP a7)) (unI t13 λi=>A4 a7 i λcs=>dk [.I,.L,.L,.I,.S,.S,.L,.N] [.l cs] λn xs xs1 n1 s s11 xs2=>
 let y1:=[Ξ s1,Ξ s2,iv s3,Ξ s4,bv s5,Ξ s6,bv s7,Ξ s8,Ξ s9,Ξ s10];Ah D (δ 73) [Φ [iv n,Ξ xs,Ξ xs1,iv n1,sv s,sv s11,Ξ xs2],Φ y1,ν 0 0 n2 9] [Ψ
 c2 U U] [.t,.A,.I,.I,.L,.N,.C,.q 1 9,.B,.N,.D,.R,.X,.E] λn3 n4 xs3 n5 b cs3=>br (A.not b) (V (γ [bv U,ψ 3 0,AvM (Value.slice Δ 0 0),bv Θ],[BO.del,BO.del,BO.del,AvH (bk
 [iv 0,iv 0,AvM (Value.slice Δ 0 0)]),BO.del,BO.del])) (br (AU (n12+1) 40) (br ((0+n12*3).ble c12.length) (let y5:=[iv n3,iv n4,Ξ xs3];
 let y2:=Ψ (AvI 0 (AvG (0+n12*3) c12)++y5) U U;let y3:=bk [iv a1,Ξ a2,Ξ a3,iv a4,sv a5,sv a6,Ξ a7];AJ D (ι 73 1) [ν 0 0 n5 9,ψ 1 0,ψ 2 0,ψ 3 0,
 ψ 4 0,iv (A.add φ t13 1)] [Ψ cs3 U U,y3,bk y1,y4,bk [iv k0,iv k1,ν 5 0 (n12+1) 3],y2] λr1 o1=>AG 6 [6,1,2,3,4,9] (AH.mk [(3,y4),(4,bk [iv k0,iv k1,ν 9 0 (n12+1)
 3]),(9,y2),(8,Ψ y5 U U),(7,bk y5),(6,Ψ cs3 U U),(1,y3),(2,bk y1)] 10 Δ) [0,5,4,3] r1 o1) Δ) Δ)) (br ((0+n12*3).ble c12.length) (V (γ [iv 2,ν 6 0 n2 9,ψ 3 0,
 ψ 4 0],[BO.del,BO.del,BO.del,AvH y4,AvH (bk [iv k0,iv k1,Ξ (Bo n12 3 (AvG (n12*3) c12))]),AvH (Ψ c12 Θ U),AvH (Ψ c2 U U)])) Δ):=by kernel_rfl
theorem Ah8(n2:Nat)(c2:Ab)(a1:Int)(a2 a3:Rw)(a4:Int)(a5 a6:ByteArray)(a7 s1 s2:Rw)(s3:Int)(s4:Rw)(s5:Bool)(s6:Rw)(s7:Bool)(s8 s9 s10:Rw)(y0 y1:Int)(y2:Rw)(k0 k1:Int)(n12:Nat)(c12:Ab)(t13:Int):CT A D Ei AeU .n 73 1 (AI Gw 1).fst (AI Gw 1).snd [ν 0 0 n2 9,ψ 1 0,ψ 2 0,ψ 3 0,ψ 4 0,iv t13] [{ cells:=c2,st:=U,ex:=U },bk [iv a1,Ξ a2,Ξ a3,iv a4,sv a5,sv a6,Ξ a7],bk [Ξ s1,Ξ s2,iv s3,Ξ s4,bv s5,Ξ s6,bv s7,Ξ s8,Ξ s9,Ξ s10],bk [iv y0,iv y1,Ξ y2],bk [iv k0,iv k1,ν 5 0 n12 3],{ cells:=c12,st:=U,ex:=U }] =
 let y4:=bk [iv y0,iv y1,Ξ y2];br (A.lt t13 ↑(AP a7)) (unI t13 λi=>A4 a7 i λcs=>dk [.I,.L,.L,.I,.S,.S,.L,.N] [.l cs] λn xs xs1 n1 s s11 xs2=>
 let y1:=[Ξ s1,Ξ s2,iv s3,Ξ s4,bv s5,Ξ s6,bv s7,Ξ s8,Ξ s9,Ξ s10];Ah D (δ 73) [Φ [iv n,Ξ xs,Ξ xs1,iv n1,sv s,sv s11,Ξ xs2],Φ y1,ν 0 0 n2 9] [Ψ
 c2 U U] [.t,.A,.I,.I,.C,.c (Value.slice Δ 0 0),.N,.C,.c (Value.slice Δ 0 0),.B,.N,.K,.E] λn3 n4 b=>br (A.not b) (V (γ [bv U,ψ 3 0,AvM (Value.slice Δ 0 0),bv Θ],[BO.keep,
 BO.del,BO.del,AvH (bk [iv 0,iv 0,AvM (Value.slice Δ 0 0)]),BO.del,BO.del])) (br (AU (n12+1) 40) (br ((0+n12*3).ble c12.length) (let y2:=[iv n3,iv n4,AvM (Value.slice Δ 0 0)];
 let y3:=bk [iv a1,Ξ a2,Ξ a3,iv a4,sv a5,sv a6,Ξ a7];let y5:=Ψ (AvI 0 (AvG (0+n12*3) c12)++y2) U U;AJ D (ι 73 1) [AvM (Value.slice Δ 0 0),ψ 0 0,ψ 1 0,
 ψ 2 0,ψ 3 0,iv (A.add φ t13 1)] [y3,bk y1,y4,bk [iv k0,iv k1,ν 4 0 (n12+1) 3],y5] λr1 o1=>AG 6 [1,2,3,4,8] (AH.mk [(3,y4),(4,bk [iv k0,iv k1,ν 8 0 (n12+1) 3]),(8,y5),
 (7,Ψ y2 U U),(6,bk y2),(0,Ψ c2 U U),(1,y3),(2,bk y1)] 9 Δ) [5,4,3] r1 o1) Δ) Δ)) (br ((0+n12*3).ble c12.length) (V (γ [iv 2,ν 6 0 n2 9,ψ 3 0,ψ 4 0],
 [BO.del,BO.del,BO.del,AvH y4,AvH (bk [iv k0,iv k1,Ξ (Bo n12 3 (AvG (n12*3) c12))]),AvH (Ψ c12 Θ U),AvH (Ψ c2 U U)])) Δ):=by kernel_rfl
theorem Ah9(n2:Nat)(c2:Ab)(a1:Int)(a2 a3:Rw)(a4:Int)(a5 a6:ByteArray)(a7 s1 s2:Rw)(s3:Int)(s4:Rw)(s5:Bool)(s6:Rw)(s7:Bool)(s8 s9 s10:Rw)(y0 y1:Int)(y2:Rw)(k0 k1:Int)(n12:Nat)(c12:Ab)(t13:Int):CT A D Ei AeV .n 73 1 (AI Gw 1).fst (AI Gw 1).snd [ν 0 0 n2 9,ψ 1 0,ψ 2 0,ψ 3 0,ψ 4 0,iv t13] [{ cells:=c2,st:=U,ex:=U },bk [iv a1,Ξ a2,Ξ a3,iv a4,sv a5,sv a6,Ξ a7],bk [Ξ s1,Ξ s2,iv s3,Ξ s4,bv s5,Ξ s6,bv s7,Ξ s8,Ξ s9,Ξ s10],bk [iv y0,iv y1,Ξ y2],bk [iv k0,iv k1,ν 5 0 n12 3],{ cells:=c12,st:=U,ex:=U }] =
 let y4:=bk [iv y0,iv y1,Ξ y2];br (A.lt t13 ↑(AP a7)) (unI t13 λi=>A4 a7 i λcs=>dk [.I,.L,.L,.I,.S,.S,.L,.N] [.l cs] λn xs xs1 n1 s s11 xs2=>
 let y1:=[Ξ s1,Ξ s2,iv s3,Ξ s4,bv s5,Ξ s6,bv s7,Ξ s8,Ξ s9,Ξ s10];Ah D (δ 73) [Φ [iv n,Ξ xs,Ξ xs1,iv n1,sv s,sv s11,Ξ xs2],Φ y1,ν 0 0 n2 9] [Ψ
 c2 U U] [.t,.A,.I,.I,.C,.c (Value.slice Δ 0 0),.N,.C,.c (Value.slice Δ 0 0),.B,.N,.D,.E] λn3 n4 b=>br (A.not b) (V (γ [bv U,ψ 3 0,AvM (Value.slice Δ 0 0),bv Θ],[BO.del,
 BO.del,BO.del,AvH (bk [iv 0,iv 0,AvM (Value.slice Δ 0 0)]),BO.del,BO.del])) (br (AU (n12+1) 40) (br ((0+n12*3).ble c12.length) (let y2:=[iv n3,iv n4,AvM (Value.slice Δ 0 0)];
 let y3:=bk [iv a1,Ξ a2,Ξ a3,iv a4,sv a5,sv a6,Ξ a7];let y5:=Ψ (AvI 0 (AvG (0+n12*3) c12)++y2) U U;AJ D (ι 73 1) [AvM (Value.slice Δ 0 0),ψ 0 0,ψ 1 0,
 ψ 2 0,ψ 3 0,iv (A.add φ t13 1)] [y3,bk y1,y4,bk [iv k0,iv k1,ν 4 0 (n12+1) 3],y5] λr1 o1=>AG 6 [1,2,3,4,8] (AH.mk [(3,y4),(4,bk [iv k0,iv k1,ν 8 0 (n12+1) 3]),(8,y5),
 (7,Ψ y2 U U),(6,bk y2),(1,y3),(2,bk y1)] 9 Δ) [0,5,4,3] r1 o1) Δ) Δ)) (br ((0+n12*3).ble c12.length) (V (γ [iv 2,ν 6 0 n2 9,ψ 3 0,ψ 4 0],[BO.del,BO.del,BO.del,
 AvH y4,AvH (bk [iv k0,iv k1,Ξ (Bo n12 3 (AvG (n12*3) c12))]),AvH (Ψ c12 Θ U),AvH (Ψ c2 U U)])) Δ):=by kernel_rfl
theorem Aql(x0_0:Int)(x0_1 x0_2:Rw)(x0_3:Int)(x0_4 x0_5:ByteArray)(x0_6 x1_0 x1_1:Rw)(x1_2:Int)(x1_3:Rw)(x1_4:Bool)(x1_5:Rw)(x1_6:Bool)(x1_7 x1_8 x1_9:Rw)(n2:Nat)(c2:Ab):Bp A D Ei AeW .n 73 Gw [Φ [iv x0_0,Ξ x0_1,Ξ x0_2,iv x0_3,sv x0_4,sv x0_5,Ξ x0_6],Φ [Ξ x1_0,Ξ x1_1,iv x1_2,Ξ x1_3,bv x1_4,Ξ x1_5,bv x1_6,Ξ x1_7,Ξ x1_8,Ξ x1_9],ν 0 0 n2 9] [{ cells:=c2,st:=U,ex:=U }] =
 let y2:=[Ξ x1_0,Ξ x1_1,iv x1_2,Ξ x1_3,bv x1_4,Ξ x1_5,bv x1_6,Ξ x1_7,Ξ x1_8,Ξ x1_9];let y3:=[iv x0_0,Ξ x0_1,Ξ x0_2,iv x0_3,sv x0_4,sv x0_5,Ξ x0_6];
 let y1:=Ah D (δ 131) [Φ y3,Φ y2] [] [.t,.A,.B,.I,.I,.I,.L,.B,.L,.B,.L,.N,.B,.N,.E] λb n n1 n3 xs b1 xs1 b2 xs2 b3=>br (A.not b3) (V (γ [Φ [iv 0,iv 0,AvM (Value.slice Δ 0 0)],AvM (Value.slice Δ 0 0),bv Θ],[BO.keep])) (Ah D (ι 73 0) [ν 0 0 n2 9,ψ 1 0,ψ 2 0,iv 0] [Ψ c2 U U,bk [iv 0,iv 0,Ξ []],bk [bv b,iv n,iv n1,iv n3,Ξ xs,bv b1,Ξ xs1,bv b2,Ξ xs2]] [.t,.C,.x,.X,.Y] λc1 l11 o1=>br (AT 0 c1) (dk [.P 1 0,.C,.q 3 9,.B,.N,.D,.T,.I,.I,.C,.c (Value.slice Δ 0 0),.N,.D,.R,.X,.E] [.l l11,.o o1] λn4 b4 n5 n6 cs4=>V (γ [Φ [iv n5,iv n6,AvM (Value.slice Δ 0 0)],ν 1 0 n4 9,bv b4],[BO.del,AvH (Ψ cs4 U U)])) (br (AT 1 c1) (dk [.C,.q 0 9,.P 1 0,.P 2 0,.N,.R,.X,.T,.I,.I,.L,.N,.T,.B,.I,.I,.I,.L,.B,.L,.B,.L,.N,.E] [.l l11,.o o1] λn4 cs3 _ _ _ b4 n7 n8 n9 xs4 b5 xs5 b6 xs6=>br (AU (n4+1) 120) (br ((0+n4*9).ble cs3.length) (V (γ [Φ [iv 2,iv ↑n4,AvM (Value.slice Δ 0 0)],ν 1 0 (n4+1) 9,bv U],[BO.del,AvH (Ψ (AvI 0 (AvG (0+n4*9) cs3)++[bv b4,iv n7,iv n8,iv n9,Ξ xs4,bv b5,Ξ xs5,bv b6,Ξ xs6]) U U)])) Δ) Δ) Δ));
 br (A.eq x0_0 2) y1 (br (A.eq x0_0 6) y1 (Ah D (ι 73 1) [ν 0 0 n2 9,ψ 1 0,ψ 2 0,ψ 3 0,ψ 4 0,iv 0] [Ψ c2 U U,bk y3,bk y2,bk [iv 0,iv 0,Ξ []],bk [iv x0_0,iv 0,ν 5 0 0
 3],Ψ [] U U] [.t,.C,.x,.X,.Y] λc l o=>br (AT 0 c) (dk [.P 3 0,.C,.c (Value.slice Δ 0 0),.B,.N,.K,.D,.D,.T,.I,.I,.C,.c (Value.slice Δ 0 0),.N,.D,.D,.E] [.l l,.o o] λb n n1=>V
 (γ [Φ [iv n,iv n1,AvM (Value.slice Δ 0 0)],AvM (Value.slice Δ 0 0),bv b],[BO.keep])) (br (AT 3 c) (dk [.C,.q 6 9,.P 3 0,.P 4 0,.N,.D,.D,.D,.T,.I,.I,.L,.N,.T,.I,.I,.L,.N,.D,.R,.X,.E]
 [.l l,.o o] λn _ _ _ n4 n5 xs1 cs3=>V (γ [Φ [iv n4,iv n5,Ξ xs1],ν 1 0 n 9,bv U],[BO.del,AvH (Ψ cs3 U U)])) Δ))):=by kernel_rfl
theorem Aqm(x0_0:Int)(x0_1 x0_2:Rw)(x0_3:Int)(x0_4 x0_5:ByteArray)(x0_6 x1_0 x1_1:Rw)(x1_2:Int)(x1_3:Rw)(x1_4:Bool)(x1_5:Rw)(x1_6:Bool)(x1_7 x1_8 x1_9:Rw)(n2:Nat)(c2:Ab):Bp A D Ei AeX .n 73 Gw [Φ [iv x0_0,Ξ x0_1,Ξ x0_2,iv x0_3,sv x0_4,sv x0_5,Ξ x0_6],Φ [Ξ x1_0,Ξ x1_1,iv x1_2,Ξ x1_3,bv x1_4,Ξ x1_5,bv x1_6,Ξ x1_7,Ξ x1_8,Ξ x1_9],ν 0 0 n2 9] [{ cells:=c2,st:=U,ex:=U }] =
 let y2:=[Ξ x1_0,Ξ x1_1,iv x1_2,Ξ x1_3,bv x1_4,Ξ x1_5,bv x1_6,Ξ x1_7,Ξ x1_8,Ξ x1_9];let y3:=[iv x0_0,Ξ x0_1,Ξ x0_2,iv x0_3,sv x0_4,sv x0_5,Ξ x0_6];
 let y1:=Ah D (δ 131) [Φ y3,Φ y2] [] [.t,.A,.B,.I,.I,.I,.L,.B,.L,.B,.L,.N,.B,.N,.E] λb n n1 n3 xs b1 xs1 b2 xs2 b3=>br (A.not b3) (V (γ [Φ [iv 0,iv 0,AvM (Value.slice Δ 0 0)],AvM (Value.slice Δ 0 0),bv Θ],[BO.keep])) (Ah D (ι 73 0) [ν 0 0 n2 9,ψ 1 0,ψ 2 0,iv 0] [Ψ c2 U U,bk [iv 0,iv 0,Ξ []],bk [bv b,iv n,iv n1,iv n3,Ξ xs,bv b1,Ξ xs1,bv b2,Ξ xs2]] [.t,.C,.x,.X,.Y] λc1 l11 o1=>br (AT 0 c1) (dk [.P 1 0,.C,.q 3 9,.B,.N,.D,.T,.I,.I,.C,.c (Value.slice Δ 0 0),.N,.D,.R,.X,.E] [.l l11,.o o1] λn4 b4 n5 n6 cs4=>V (γ [Φ [iv n5,iv n6,AvM (Value.slice Δ 0 0)],ν 1 0 n4 9,bv b4],[BO.del,AvH (Ψ cs4 U U)])) (br (AT 1 c1) (dk [.C,.q 0 9,.P 1 0,.P 2 0,.N,.R,.X,.T,.I,.I,.L,.N,.T,.B,.I,.I,.I,.L,.B,.L,.B,.L,.N,.E] [.l l11,.o o1] λn4 cs3 _ _ _ b4 n7 n8 n9 xs4 b5 xs5 b6 xs6=>br (AU (n4+1) 120) (br ((0+n4*9).ble cs3.length) (V (γ [Φ [iv 2,iv ↑n4,AvM (Value.slice Δ 0 0)],ν 1 0 (n4+1) 9,bv U],[BO.del,AvH (Ψ (AvI 0 (AvG (0+n4*9) cs3)++[bv b4,iv n7,iv n8,iv n9,Ξ xs4,bv b5,Ξ xs5,bv b6,Ξ xs6]) U U)])) Δ) Δ) Δ));
 br (A.eq x0_0 2) y1 (br (A.eq x0_0 6) y1 (Ah D (ι 73 1) [ν 0 0 n2 9,ψ 1 0,ψ 2 0,ψ 3 0,ψ 4 0,iv 0] [Ψ c2 U U,bk y3,bk y2,bk [iv 0,iv 0,Ξ []],bk [iv x0_0,iv 0,ν 5 0 0
 3],Ψ [] U U] [.t,.C,.x,.X,.Y] λc l o=>br (AT 0 c) (dk [.P 3 0,.C,.c (Value.slice Δ 0 0),.B,.N,.D,.D,.D,.T,.I,.I,.C,.c (Value.slice Δ 0 0),.N,.D,.D,.E] [.l l,.o o] λb n n1=>V
 (γ [Φ [iv n,iv n1,AvM (Value.slice Δ 0 0)],AvM (Value.slice Δ 0 0),bv b],[BO.del])) (br (AT 3 c) (dk [.C,.q 6 9,.P 3 0,.P 4 0,.N,.D,.D,.D,.T,.I,.I,.L,.N,.T,.I,.I,.L,.N,.O,.Z,.Y] [.l
 l,.o o] λn _ _ _ n4 n5 xs1 c10 l15=>GD Θ U c10 λ_=>dk [.R,.X,.E] [.o l15] λcs4=>V (γ [Φ [iv n4,iv n5,Ξ xs1],ν 1 0 n 9,bv U],[BO.del,AvH (Ψ cs4 U U)]))
 Δ))):=by kernel_rfl
theorem Aqh(x0_0:Int)(x0_1 x0_2:Rw)(x0_3:Int)(x0_4 x0_5:ByteArray)(x0_6 x1_0 x1_1:Rw)(x1_2:Int)(x1_3:Rw)(x1_4:Bool)(x1_5:Rw)(x1_6:Bool)(x1_7 x1_8 x1_9:Rw):Bp A D Ei AeN .n 35 VD [Φ [iv x0_0,Ξ x0_1,Ξ x0_2,iv x0_3,sv x0_4,sv x0_5,Ξ x0_6],Φ [Ξ x1_0,Ξ x1_1,iv x1_2,Ξ x1_3,bv x1_4,Ξ x1_5,bv x1_6,Ξ x1_7,Ξ x1_8,Ξ x1_9]] [] =
 let y1:=Φ [iv x0_0,Ξ x0_1,Ξ x0_2,iv x0_3,sv x0_4,sv x0_5,Ξ x0_6];Ah D (δ 37) [y1,iv 0] [] [.b,.E] λb=>br b (Ah D (δ 73) [y1,Φ [Ξ x1_0,Ξ x1_1,iv x1_2,Ξ x1_3,bv
 x1_4,Ξ x1_5,bv x1_6,Ξ x1_7,Ξ x1_8,Ξ x1_9],ν 0 0 0 9] [Ψ [] U U] [.t,.A,.I,.I,.C,.c (Value.slice Δ 0 0),.N,.C,.q 1 9,.B,.N,.D,.R,.X,.E] λn n1 n2 b1 cs2=>br ((0+n2 *
 9).ble cs2.length) (V (γ [Φ [iv n,iv n1,Ξ []],Ξ (Bo n2 9 (AvG (n2*9) cs2)),bv b1],[])) Δ) (V (γ [Φ [iv 0,iv 0,Ξ []],Ξ [],bv Θ],[])):=by kernel_rfl
theorem Aqi(x0_0:Int)(x0_1 x0_2:Rw)(x0_3:Int)(x0_4 x0_5:ByteArray)(x0_6 x1_0 x1_1:Rw)(x1_2:Int)(x1_3:Rw)(x1_4:Bool)(x1_5:Rw)(x1_6:Bool)(x1_7 x1_8 x1_9:Rw):Bp A D Ei AeO .n 35 VD [Φ [iv x0_0,Ξ x0_1,Ξ x0_2,iv x0_3,sv x0_4,sv x0_5,Ξ x0_6],Φ [Ξ x1_0,Ξ x1_1,iv x1_2,Ξ x1_3,bv x1_4,Ξ x1_5,bv x1_6,Ξ x1_7,Ξ x1_8,Ξ x1_9]] [] =
 let y1:=Φ [iv x0_0,Ξ x0_1,Ξ x0_2,iv x0_3,sv x0_4,sv x0_5,Ξ x0_6];Ah D (δ 37) [y1,iv 0] [] [.b,.E] λb=>br b (Ah D (δ 73) [y1,Φ [Ξ x1_0,Ξ x1_1,iv x1_2,Ξ x1_3,bv
 x1_4,Ξ x1_5,bv x1_6,Ξ x1_7,Ξ x1_8,Ξ x1_9],ν 0 0 0 9] [Ψ [] U U] [.t,.A,.I,.I,.L,.N,.C,.q 1 9,.B,.N,.D,.R,.X,.E] λn n1 xs n2 b1 cs2=>br ((0+n2*9).ble cs2.length) (V
 (γ [Φ [iv n,iv n1,Ξ xs],Ξ (Bo n2 9 (AvG (n2*9) cs2)),bv b1],[])) Δ) (V (γ [Φ [iv 0,iv 0,Ξ []],Ξ [],bv Θ],[])):=by kernel_rfl
theorem Aqj(x0_0:Int)(x0_1 x0_2:Rw)(x0_3:Int)(x0_4 x0_5:ByteArray)(x0_6 x1_0 x1_1:Rw)(x1_2:Int)(x1_3:Rw)(x1_4:Bool)(x1_5:Rw)(x1_6:Bool)(x1_7 x1_8 x1_9:Rw):Bp A D Ei AeP .n 35 VD [Φ [iv x0_0,Ξ x0_1,Ξ x0_2,iv x0_3,sv x0_4,sv x0_5,Ξ x0_6],Φ [Ξ x1_0,Ξ x1_1,iv x1_2,Ξ x1_3,bv x1_4,Ξ x1_5,bv x1_6,Ξ x1_7,Ξ x1_8,Ξ x1_9]] [] =
 let y1:=Φ [iv x0_0,Ξ x0_1,Ξ x0_2,iv x0_3,sv x0_4,sv x0_5,Ξ x0_6];Ah D (δ 37) [y1,iv 0] [] [.b,.E] λb=>br b (Ah D (δ 73) [y1,Φ [Ξ x1_0,Ξ x1_1,iv x1_2,Ξ x1_3,bv
 x1_4,Ξ x1_5,bv x1_6,Ξ x1_7,Ξ x1_8,Ξ x1_9],ν 0 0 0 9] [Ψ [] U U] [.t,.A,.I,.I,.C,.c (Value.slice Δ 0 0),.N,.C,.c (Value.slice Δ 0 0),.B,.N,.K,.E] λn n1 b1=>V (γ
 [Φ [iv n,iv n1,Ξ []],Ξ [],bv b1],[])) (V (γ [Φ [iv 0,iv 0,Ξ []],Ξ [],bv Θ],[])):=by kernel_rfl
theorem Aqk(x0_0:Int)(x0_1 x0_2:Rw)(x0_3:Int)(x0_4 x0_5:ByteArray)(x0_6 x1_0 x1_1:Rw)(x1_2:Int)(x1_3:Rw)(x1_4:Bool)(x1_5:Rw)(x1_6:Bool)(x1_7 x1_8 x1_9:Rw):Bp A D Ei AeQ .n 35 VD [Φ [iv x0_0,Ξ x0_1,Ξ x0_2,iv x0_3,sv x0_4,sv x0_5,Ξ x0_6],Φ [Ξ x1_0,Ξ x1_1,iv x1_2,Ξ x1_3,bv x1_4,Ξ x1_5,bv x1_6,Ξ x1_7,Ξ x1_8,Ξ x1_9]] [] =
 let y1:=Φ [iv x0_0,Ξ x0_1,Ξ x0_2,iv x0_3,sv x0_4,sv x0_5,Ξ x0_6];Ah D (δ 37) [y1,iv 0] [] [.b,.E] λb=>br b (Ah D (δ 73) [y1,Φ [Ξ x1_0,Ξ x1_1,iv x1_2,Ξ x1_3,bv
 x1_4,Ξ x1_5,bv x1_6,Ξ x1_7,Ξ x1_8,Ξ x1_9],ν 0 0 0 9] [Ψ [] U U] [.t,.A,.I,.I,.C,.c (Value.slice Δ 0 0),.N,.C,.c (Value.slice Δ 0 0),.B,.N,.D,.E] λn n1 b1=>V (γ
 [Φ [iv n,iv n1,Ξ []],Ξ [],bv b1],[])) (V (γ [Φ [iv 0,iv 0,Ξ []],Ξ [],bv Θ],[])):=by kernel_rfl
end
def TZ:List (List (Nat × MFn)):=[TW]
def Xu:List (Nat × DF):=[(193,(Bf Ai Cz).ask (.fn 193)),(41,(Bf Ai Cz).ask (.fn 41)),(121,(Bf Ai Cz).ask (.fn 121)),(37,(Bf Ai Cz).ask (.fn 37))]
def K0:Seat:=ID Ei TZ.flatten Xu
def DR4:Orc:=Bf Ai K0
set_option maxRecDepth 100000 in
theorem ApR:JU π BI TZ:=by
 repeat' first|exact trivial|refine⟨⟨_,_,_,rfl⟩,by kernel_rfl,?_⟩|refine⟨?_,?_⟩
theorem ApW:(GK TZ&&NN TZ.flatten Xu)=U:=by kernel_rfl
theorem Aon:Knows Ei TW DR4:=Bg ApW (i:=0) rfl
section
variable {args:Ab} {bs:List ABlk} {r:AV × List BO}
theorem Akh(h:((Bf Ai Cz).ask (.fn 193)) args bs=V r):DR4.ask (.fn 193) args bs=V r:=BB rfl h
theorem WK(h:((Bf Ai Cz).ask (.fn 41)) args bs=V r):DR4.ask (.fn 41) args bs=V r:=BB rfl h
theorem Ahs(h:((Bf Ai Cz).ask (.fn 121)) args bs=V r):DR4.ask (.fn 121) args bs=V r:=BB rfl h
theorem AcM(h:((Bf Ai Cz).ask (.fn 37)) args bs=V r):DR4.ask (.fn 37) args bs=V r:=BB rfl h
end
theorem Acg(h:JW π Xu):SeatOk π BI K0:=Ik X4 HW ApR h
def Aus:AV->AV
 |.v z=>PJ z
 |x=>x
section
variable {μ:Mu} {F:AQ} {w:World}
theorem Ago:∀{x:AV} {u:Value},Rep μ F w x u->Rep μ F w (Aus x) u
 |.v z,u,h=>by
  show Rep μ F w (PJ z) u
  unfold PJ;split
  .rename_i e
   rw[G5 e]at h;unfold Rep at h;obtain⟨rfl,_⟩:=h;unfold Rep;exact⟨rfl,Δ,0,rfl,Nat.le_refl _,Nat.zero_le _,λh=>absurd rfl h⟩
  .exact h
 |.ptr ..,_,h=>h
 |.sl ..,_,h=>h
 |.ls _,_,h=>h
 |.lp _,_,h=>h
 |.agg _,_,h=>h
 |.tup _,_,h=>h
 |.fn ..,_,h=>h
 |.any,_,h=>h
end
mutual
def AV.nf:AV->AV
 |.v z=>PJ z
 |.ls xs=>.ls (nfR xs)
 |.agg cs=>.agg (X8 cs)
 |.ptr b o=>.ptr b o
 |.sl b o n e=>.sl b o n e
 |.lp cs=>.lp cs
 |.tup cs=>.tup cs
 |.fn f a c=>.fn f a c
 |.any=>.any
def X8:Ab->Ab
 |[]=>[]
 |x::r=>x.nf::X8 r
def nfR:Rw->Rw
 |[]=>[]
 |x::r=>X8 x::nfR r
end
theorem ZX:∀ l:Ab,(X8 l).length=l.length
 |[]=>rfl
 |x::r=>by rw[X8,ε,ε,ZX r]
theorem Tq:∀ l:Rw,(nfR l).length=l.length
 |[]=>rfl
 |x::r=>by rw[nfR,ε,ε,Tq r]
theorem AbA(z:Value):(PJ z).noid=U:=by
 unfold PJ;split<;>rfl
mutual
theorem Ajo:∀ x:AV,x.noid=U->x.nf.noid=U
 |.v z,_=>by rw[AV.nf];exact AbA z
 |.ls xs,_=>rfl
 |.agg cs,h=>by
  rw[AV.nf];exact PM cs h
 |.ptr ..,h=>h
 |.sl ..,h=>h
 |.lp _,_=>rfl
 |.tup _,h=>h
 |.fn ..,h=>h
 |.any,_=>rfl
theorem PM:∀ l:Ab,A6 l=U->A6 (X8 l)=U
 |[],_=>rfl
 |x::r,h=>by
  unfold A6 at h;rw[AvF]at h;rw[X8];unfold A6;rw[Ajo x h.1,PM r h.2];rfl
end
theorem VL:∀ xs:Rw,GA xs=U->GA (nfR xs)=U
 |[],_=>rfl
 |x::r,h=>by
  unfold GA at h ⊢;rw[Axc,AvF]at h;rw[nfR,Axc,PM x h.1];exact VL r h.2
section
variable {μ:Mu} {F:AQ} {w:World}
mutual
theorem Yo:∀(x:AV) (u:Value),Rep μ F w x u->Rep μ F w x.nf u
 |.v z,u,h=>Ago (x:=.v z) h
 |.ls xs,u,h=>by
  rw[AV.nf];unfold Rep at h ⊢;obtain⟨h1,A,c,h2,h3,h4,h5⟩:=h;refine⟨VL xs h1,A,c,by rw[Tq];exact h2,by rw[Tq];exact h3,h4,λhn=>?_⟩;obtain⟨g,o,e,h6,h7⟩:=h5 λe=>hn (by rw[e];rfl)
  exact⟨g,o,e,h6,P7 xs g e o h7⟩
 |.agg cs,u,h=>by
  rw[AV.nf];unfold Rep at h ⊢;obtain⟨us,h1,h2⟩:=h;exact⟨us,h1,P6 cs _ h2⟩
 |.ptr ..,_,h=>h
 |.sl ..,_,h=>h
 |.lp _,_,h=>h
 |.tup _,_,h=>h
 |.fn ..,_,h=>h
 |.any,_,h=>h
theorem P6:∀(l:Ab) (us:AN),RepList μ F w l us->RepList μ F w (X8 l) us
 |[],_,h=>h
 |x::r,us,h=>by
  rw[X8];unfold RepList at h ⊢;obtain⟨u,t,h1,h2,h3⟩:=h;exact⟨u,t,h1,Yo x u h2,P6 r t h3⟩
theorem V4:∀(l:Ab) (g o:Nat),RepAt μ F w g l o->RepAt μ F w g (X8 l) o
 |[],_,_,h=>h
 |x::r,g,o,h=>by
  rw[X8];unfold RepAt at h ⊢;obtain⟨⟨h1,u,h2,h3⟩,h4⟩:=h;exact⟨⟨h1,u,h2,Yo x u h3⟩,V4 r g _ h4⟩
theorem P7:∀(l:Rw) (g e o:Nat),RepRows μ F w g e l o->RepRows μ F w g e (nfR l) o
 |[],_,_,_,h=>h
 |x::r,g,e,o,h=>by
  rw[nfR];unfold RepRows at h ⊢;exact⟨by rw[ZX];exact h.1,V4 x g o h.2.1,P7 r g e _ h.2.2⟩
end
end
def nfT:AV->AV
 |.tup (x::r)=>.tup (x.nf::r)
 |x=>x
theorem AjH{μ:Mu}{F:AQ}{w:World}{x:AV}{u:Value}(h:Rep μ F w x u):Rep μ F w (nfT x) u:=by
 unfold nfT;split
 .rename_i y r
  unfold Rep at h ⊢;obtain⟨us,h1,h2⟩:=h;refine⟨us,h1,?_⟩;unfold RepList at h2 ⊢;obtain⟨u,t,k1,k2,k3⟩:=h2;exact⟨u,t,k1,Yo y u k2,k3⟩
 .exact h
def nfO(d:DF):DF:=λa b=>(d a b).map λp=>(nfT p.1,p.2)
theorem AeC{S:Mw}(hm:Nr S){d:DF}(h:Ca S d):Ca S (nfO d):=λargs bs r out e=>by
 unfold nfO at e;obtain⟨⟨r0,o0⟩,e1,e2⟩:=Option.map_eq_some_iff.1 e
 cases e2
 obtain⟨h1,t0,h2,h3⟩:=h args bs r0 o0 e1;refine⟨h1,t0,h2,λt ht μ F w KL us a b c d=>hm _ _ _ _ (h3 t ht μ F w KL us a b c d) λu w' h=>?_⟩;obtain⟨μ',F',k1,k2⟩:=h;exact⟨μ',F',AjH k1,k2⟩
section
open Go.RowKit
def Arx:MFn:=Bj [] 47
def AqG:Hnt:=⟨[(22,(.str,[])),(46,(.bool,[])),(90,(.ls,[]))],[],[(3,A8),(7,[.ls]),(12,[.int .i64]),(13,[.str]),(14,[.str]),(18,[.ls])]⟩
def AuH:MFn:=Bj [⟨64,(mB 1802),[(3,1)],[1],[(1,((mB 10),([],[])))]⟩] 63
def AuD:MFn:=Bj [] 25
def Wr:List (Nat × MFn):=[(47,Arx),(63,AuH),(25,AuD)]
variable (A:Ar) (D:Orc)
theorem e47(x0_0:Int)(x0_1 x0_2:Rw)(x0_3:Int)(x0_4 x0_5:ByteArray)(x0_6:Rw):Bp A D Ak AqG .n 47 Arx [Φ [iv x0_0,Ξ x0_1,Ξ x0_2,iv x0_3,sv x0_4,sv x0_5,Ξ x0_6]] [] =
 Ah D (δ 46) [Φ [iv x0_0,Ξ x0_1,Ξ x0_2,iv x0_3,sv x0_4,sv x0_5,Ξ x0_6]] [] [.b,.E] λb=>
 br b
 (Ah D (δ 22) [Ξ x0_1] [] [.s,.E] λs=>
 br ((A.slen s+A.slen (Ag [32])).ble 9223372036854775807) (AJ D (δ 90) [] [] λr2 o2=>
 Mr r2 λxs=>
 CB o2<|
 unI x0_3 λi=>
 A4 xs i λcs=>
 dk [.S,.N] [.l cs] λs1=>
 br ((A.slen (A.cat s (Ag [32]))+A.slen s1).ble 9223372036854775807) (br ((A.slen (A.cat (A.cat s (Ag [32])) s1)+A.slen (Ag [32])).ble 9223372036854775807) (AJ D (δ 22) [Ξ x0_2] [] λr3 o3=>
 N1 r3 λs2=>
 CB o3<|
 br ((A.slen (A.cat (A.cat (A.cat s (Ag [32])) s1) (Ag [32]))+A.slen s2).ble 9223372036854775807) (V ((sv (A.cat (A.cat (A.cat (A.cat s (Ag [32])) s1) (Ag [32])) s2),[]))) Δ) Δ) Δ) Δ)
 (V ((sv (Ag []),[]))):=by kernel_rfl
end
section
open Go.RowKit
def Amp:MFn:=Bj [] 138
def Ak4:Hnt:=⟨[],[],[]⟩
def Amo:MFn:=Bj [] 137
def UU:Hnt:=⟨[(47,(.str,[]))],[],[(4,[.int .i64]),(12,[.str]),(16,[.str]),(18,A8)]⟩
def AiS:MFn:=Bj [⟨56,(mB 1802),[(3,1)],[1],[(1,((mB 10),([],[])))]⟩] 80
def XL:Hnt:=⟨[(80,(.str,[])),(134,(.bool,[])),(137,(.str,[])),(138,(.str,[]))],[(0,[(1,([.ptr 0 0,.sl 2 1],[.box A8,.del,.row U]))])],[(8,[.ls]),(13,A8),(14,A8),(15,A8),(18,[.int .i64]),(20,A8),(34,A8),(39,[.int .i64]),(42,[.str]),(43,[.str]),(46,[.str]),(47,[.str]),(49,[.int .i64]),(53,[.str]),(54,[.str])]⟩
def Arr:MFn:=Bj [] 38
def Aod:Hnt:=⟨[(36,(.bool,[])),(80,(.str,[]))],[],[(3,A8),(6,A8)]⟩
def Wq:List (Nat × MFn):=[(138,Amp),(137,Amo),(80,AiS),(38,Arr)]
variable (A:Ar) (D:Orc)
theorem AsS(x0:Int):Bp A D Ak Ak4 .n 138 Amp [iv x0] [] =
 br (A.eq x0 3)
 (V ((sv (Ag [33]),[])))
 (br (A.eq x0 8)
 (V ((sv (Ag [88,32]),[])))
 (br (A.eq x0 9)
 (V ((sv (Ag [71,32]),[])))
 (br (A.eq x0 10)
 (V ((sv (Ag [70,32]),[])))
 (br (A.eq x0 4)
 (V ((sv (Ag [32,38,32]),[])))
 (br (A.eq x0 5)
 (V ((sv (Ag [32,124,32]),[])))
 (br (A.eq x0 7)
 (V ((sv (Ag [32,45,62,32]),[])))
 (br (A.eq x0 11)
 (V ((sv (Ag [32,85,32]),[])))
 (V ((sv (Ag [32,82,32]),[])))))))))):=by kernel_rfl
theorem Ah5(x0_0:Int)(x0_1 x0_2:Rw)(x0_3:Int)(x0_4 x0_5:ByteArray)(x0_6:Rw):Bp A D Ak UU .n 137 Amo [Φ [iv x0_0,Ξ x0_1,Ξ x0_2,iv x0_3,sv x0_4,sv x0_5,Ξ x0_6]] [] =
 br (A.eq x0_0 0)
 (V ((sv (Ag [116,114,117,101]),[])))
 (br (A.eq x0_0 1)
 (V ((sv (Ag [102,97,108,115,101]),[])))
 (br (A.eq x0_0 6)
 (br ((A.slen (Ag [64])+A.slen x0_4).ble 9223372036854775807) (br ((A.slen (A.cat (Ag [64]) x0_4)+A.slen (Ag [46])).ble 9223372036854775807) (br ((A.slen (A.cat (A.cat (Ag [64]) x0_4) (Ag [46]))+A.slen x0_5).ble 9223372036854775807) (V ((sv (A.cat (A.cat (A.cat (Ag [64]) x0_4) (Ag [46])) x0_5),[]))) Δ) Δ) Δ)
 (Ah D (δ 47) [Φ [iv x0_0,Ξ x0_1,Ξ x0_2,iv x0_3,sv x0_4,sv x0_5,Ξ x0_6]] [] [.s,.E] λs=>
 V ((sv s,[]))))):=by kernel_rfl
theorem e80(x0_0:Int)(x0_1 x0_2:Rw)(x0_3:Int)(x0_4 x0_5:ByteArray)(x0_6:Rw):Bp A D Ak XL .n 80 AiS [Φ [iv x0_0,Ξ x0_1,Ξ x0_2,iv x0_3,sv x0_4,sv x0_5,Ξ x0_6]] [] =
 Ah D (ι 80 0) [ψ 0 0,ν 1 0 0 1,Ξ x0_6,iv ↑(AP x0_6),iv 0] [bk [iv x0_0,Ξ x0_1,Ξ x0_2,iv x0_3,sv x0_4,sv x0_5,Ξ x0_6],Ψ [] U U] [.t,.C,.x,.X,.Y] λc l o=>
 br (AT 1 c)
 (dk [.P 0 0,.C,.q 2 1,.N,.T,.I,.L,.L,.I,.S,.S,.L,.N,.D,.R,.X,.E] [.l l,.o o] λn n1 xs xs1 n2 s s1 xs2 cs2=>
 br (A.eq (↑n) 0)
 (Ah D (δ 137) [Φ [iv n1,Ξ xs,Ξ xs1,iv n2,sv s,sv s1,Ξ xs2]] [] [.s,.E] λs2=>
 V ((sv s2,[])))
 (br (A.eq (↑n) 1)
 (Ah D (δ 138) [iv n1] [] [.s,.E] λs2=>
 br (Awv 0 n) (Gf cs2 0 1 λcs3=>
 dk [.S,.N] [.l cs3] λs3=>
 br ((A.slen s2+A.slen s3).ble 9223372036854775807) (V ((sv (A.cat s2 s3),[]))) Δ) Δ)
 (br (Awv 0 n) (Gf cs2 0 1 λcs3=>
 dk [.S,.N] [.l cs3] λs2=>
 Ah D (δ 138) [iv n1] [] [.s,.E] λs3=>
 br ((A.slen s2+A.slen s3).ble 9223372036854775807) (br (Awv 1 n) (Gf cs2 1 1 λcs4=>
 dk [.S,.N] [.l cs4] λs4=>
 br ((A.slen (A.cat s2 s3)+A.slen s4).ble 9223372036854775807) (V ((sv (A.cat (A.cat s2 s3) s4),[]))) Δ) Δ) Δ) Δ)))
 (Δ):=by kernel_rfl
theorem AkD(b1_0:Int)(b1_1 b1_2:Rw)(b1_3:Int)(b1_4 b1_5:ByteArray)(b1_6:Rw)(n3:Nat)(c3:Ab)(t8:Rw)(t9 t10:Int):CT A D Ak XL .n 80 0 (AI AiS 0).fst (AI AiS 0).snd [ψ 0 0,ν 1 0 n3 1,Ξ t8,iv t9,iv t10] [bk [iv b1_0,Ξ b1_1,Ξ b1_2,iv b1_3,sv b1_4,sv b1_5,Ξ b1_6],{ cells:=c3,st:=U,ex:=U }] =
 let y1:=bk [iv b1_0,Ξ b1_1,Ξ b1_2,iv b1_3,sv b1_4,sv b1_5,Ξ b1_6];br (A.lt t10 t9) (unI t10 λi=>A4 t8 i λcs=>dk [.I,.L,.L,.I,.S,.S,.L,.N] [.l cs] λn xs xs1 n1 s s1 xs2=>
 let y2:=[iv n,Ξ xs,Ξ xs1,iv n1,sv s,sv s1,Ξ xs2];Ah D (δ 80) [Φ y2] [] [.s,.E] λs2=>Ah D (δ 134) [iv b1_0,iv t10,Φ y2] [] [.b,.E] λb=>
 let y4:=[ψ 0 0,ν 1 0 (n3+1) 1,Ξ t8,iv t9,iv (A.add φ t10 1)];br b (br ((A.slen (Ag [40])+A.slen s2).ble 9223372036854775807) (br ((A.slen (A.cat (Ag [40]) s2)+A.slen (Ag [41])).ble
 9223372036854775807) (br (AU (n3+1) 16) (br ((0+n3*1).ble c3.length) (let y6:=[sv (A.cat (A.cat (Ag [40]) s2) (Ag [41]))];let y3:=Ψ (AvI 0 (AvG (0+n3*1) c3)++y6) U U;AJ D
 (ι 80 0) y4 [y1,y3] λr2 o2=>AG 2 [0,4] (AH.mk [(0,y1),(4,y3),(3,Ψ y6 U U),(2,bk y2)] 5 Δ) [1,0] r2 o2) Δ) Δ) Δ) Δ) (br (AU (n3+1) 16) (br ((0+n3*1).ble c3.length)
 (let y5:=Ψ (AvI 0 (AvG (0+n3*1) c3)++[sv s2]) U U;AJ D (ι 80 0) y4 [y1,y5] λr2 o2=>AG 2 [0,4] (AH.mk [(0,y1),(4,y5),(3,Ψ [sv s2] U U),(2,bk y2)] 5 Δ) [1,0]
 r2 o2) Δ) Δ)) (V (γ [iv 0,ψ 0 0,ν 2 0 n3 1],[AvH y1,BO.del,AvH (Ψ c3 U U)])):=by kernel_rfl
theorem e38(x0_0:Int)(x0_1 x0_2:Rw)(x0_3:Int)(x0_4 x0_5:ByteArray)(x0_6:Rw):Bp A D Ak Aod .n 38 Arr [Φ [iv x0_0,Ξ x0_1,Ξ x0_2,iv x0_3,sv x0_4,sv x0_5,Ξ x0_6]] [] =
 let y1:=[Φ [iv x0_0,Ξ x0_1,Ξ x0_2,iv x0_3,sv x0_4,sv x0_5,Ξ x0_6]];Ah D (δ 36) y1 [] [.b,.E] λb=>br b (Ah D (δ 80) y1 [] [.s,.E] λs=>V (sv s,[])) (V (sv (Ag []),[])):=by kernel_rfl
end
section
open Go.RowKit
def Aru:MFn:=Bj [] 42
def AqD:Hnt:=⟨[],[],[]⟩
def Arp:MFn:=Bj [] 30
def Aqy:Hnt:=⟨[(32,(.tup [.agg A8,.agg [.int .i64,.int .i64],.int .i64],[])),(34,(.tup [.agg Cj,.ls,.bool],[])),(36,(.bool,[])),(38,(.str,[])),(42,(.agg Fs,[]))],[],[(38,[.int .i64]),(43,[.ls]),(44,A8),(46,[.int .i64]),(54,[.int .i64,.int .i64]),(63,A8),(76,A8),(80,A8),(88,[.int .i64]),(98,Cg),(100,[.bool]),(104,Cg),(106,[.int .i64])]⟩
def AiL:MFn:=Bj [⟨27,(mB 458752),[],[],[(0,([Θ,Θ,U],([],[]))),(1,([],([],[])))]⟩] 31
def AeM:Hnt:=⟨[],[(0,[(0,([.bool],[])),(1,([],[]))])],[(6,[.ls]),(11,[.ls]),(16,[.ls]),(20,Qj),(21,Qj),(23,[.ls])]⟩
def La:List (Nat × MFn):=[(42,Aru),(30,Arp),(31,AiL)]
variable (A:Ar) (D:Orc)
theorem e42:Bp A D Ak AqD .n 42 Aru [] [] =
 V ((Φ [Ξ [[sv (Ag [120])],[sv (Ag [121])]],Ξ [],iv 0,Ξ [],bv Θ,Ξ [],bv Θ,Ξ [],Ξ [[sv (Ag [112]),Ξ [[sv (Ag [97])],[sv (Ag [98])]],Ξ []]],Ξ []],[])):=by kernel_rfl
theorem e30:Bp A D Ak Aqy .n 30 Arp [] [] =
 Ah D (δ 42) [] [] [.a,.L,.L,.I,.L,.B,.L,.B,.L,.L,.L,.N,.E] λxs xs1 n xs2 b xs3 b1 xs4 xs5 xs6=>
 let y2:=λz1 z2 z3 z4 z5 z6 z7 z8 z9 z10=>Φ [Ξ z1,Ξ z2,iv z3,Ξ z4,bv z5,Ξ z6,bv z7,Ξ z8,Ξ z9,Ξ z10];Ah D (δ 32) [sv (Ag [71,32,40,120,32,62,32,48,32,45,62,32,
 70,32,64,112,46,98,41]),y2 xs xs1 n xs2 b xs3 b1 xs4 xs5 xs6] [] [.t,.A,.I,.L,.L,.I,.S,.S,.L,.N,.A,.I,.I,.N,.I,.N,.E] λn1 xs7 xs8 n2 s s1 xs9 _ _ n5=>Ah D (δ 42) [] [] [.a,.L,.L,.I,.L,.B,
 .L,.B,.L,.L,.L,.N,.E] λxs10 xs11 n6 xs12 b2 xs13 b3 xs14 xs15 xs16=>Ah D (δ 32) [sv (Ag [120,32,61,32,49,32,85]),y2 xs10 xs11 n6 xs12 b2 xs13 b3 xs14 xs15 xs16] [] [.t,.A,.I,.L,.L,.I,.S,.S,.L,
 .N,.A,.I,.I,.N,.I,.N,.E] λ_ _ _ _ _ _ _ n9 n10 n11=>Ah D (δ 42) [] [] [.a,.L,.L,.I,.L,.B,.L,.B,.L,.L,.L,.N,.E] λxs20 xs21 n12 xs22 b4 xs23 b5 xs24 xs25 xs26=>Ah D (δ 32) [sv (Ag [64,
 112,46,99]),y2 xs20 xs21 n12 xs22 b4 xs23 b5 xs24 xs25 xs26] [] [.t,.A,.I,.L,.L,.I,.S,.S,.L,.N,.A,.I,.I,.N,.I,.N,.E] λ_ _ _ _ _ _ _ _ _ n17=>let y1:=V (bv Θ,[]);br (A.eq n5 0) (br (A.eq n1 9)
 (A4 xs9 0 λcs12=>dk [.I,.L,.L,.I,.S,.S,.L,.N] [.l cs12] λn18 _ _ _ _ _ _=>br (A.eq n18 7) (br (A.eq n11 101) (br (A.not (A.band (A.eq n9 1) (A.band (A.eq n10 8) U))) y1 (br (A.eq n17 110) (Ah D (δ
 42) [] [] [.a,.L,.L,.I,.L,.B,.L,.B,.L,.L,.L,.N,.E] λxs33 xs34 n20 xs35 b6 xs36 b7 xs37 xs38 xs39=>let y3:=Φ [iv n1,Ξ xs7,Ξ xs8,iv n2,sv s,sv s1,Ξ xs9];Ah D (δ 34) [y3,y2 xs33
 xs34 n20 xs35 b6 xs36 b7 xs37 xs38 xs39] [] [.t,.A,.I,.I,.L,.N,.L,.B,.N,.E] λn21 _ _ xs41 b8=>Ah D (δ 42) [] [] [.a,.L,.L,.I,.L,.B,.L,.B,.L,.L,.L,.N,.E] λxs42 xs43 n23 xs44 b9 xs45 b10 xs46
 xs47 xs48=>Ah D (δ 34) [Φ [iv 99,Ξ [],Ξ [],iv 0,sv (Ag []),sv (Ag []),Ξ []],y2 xs42 xs43 n23 xs44 b9 xs45 b10 xs46 xs47 xs48] [] [.t,.A,.I,.I,.L,.N,.L,.B,.N,.E] λ_ _ _ _ b11=>
 Ah D (δ 38) [y3] [] [.s,.E] λs8=>br (A.seq s8 (Ag [71,32,40,120,32,62,32,48,32,45,62,32,70,32,64,112,46,98,41])) (Ah D (δ 36) [y3] [] [.b,.E] λb12=>br b12 (br b8 (br (A.eq n21 9) (br
 (A.eq (↑(AP xs41)) 2) (A4 xs41 1 λcs19=>dk [.B,.I,.I,.I,.L,.B,.L,.B,.L,.N] [.l cs19] λb13 _ _ _ _ _ _ _ _=>br b13 (A4 xs41 1 λcs20=>dk [.B,.I,.I,.I,.L,.B,.L,.B,.L,.N] [.l cs20] λ_ _ n30
 _ _ _ _ _ _=>br (A.eq n30 1) (br (A.not b11) (V (bv U,[])) y1) y1) y1) y1) y1) y1) y1) y1) y1)) y1) y1) y1) y1:=by kernel_rfl
theorem e31(x0_0 x0_1:Rw)(x0_2:Int)(x0_3:Rw)(x0_4:Bool)(x0_5:Rw)(x0_6:Bool)(x0_7 x0_8 x0_9:Rw):Bp A D Ak AeM .n 31 AiL [Φ [Ξ x0_0,Ξ x0_1,iv x0_2,Ξ x0_3,bv x0_4,Ξ x0_5,bv x0_6,Ξ x0_7,Ξ x0_8,Ξ x0_9]] [] =
 br (A.lt 50 ↑(AP x0_0))
 (V ((bv Θ,[])))
 (br (A.lt 12 ↑(AP x0_8))
 (V ((bv Θ,[])))
 (Ah D (ι 31 0) [Ξ x0_8,iv ↑(AP x0_8),iv 0] [] [.t,.C,.x,.X,.Y] λc l o=>
 br (AT 0 c)
 (dk [.B,.N,.E] [.l l,.o o] λb=>
 V ((bv b,[])))
 (br (AT 1 c)
 (EB l<|
 CB o<|
 V ((bv U,[])))
 (Δ)))):=by kernel_rfl
theorem Akx(t16:Rw)(t17 t18:Int):CT A D Ak AeM .n 31 0 (AI AiL 0).fst (AI AiL 0).snd [Ξ t16,iv t17,iv t18] [] =
 br (A.lt t18 t17)
 (unI t18 λi=>
 A4 t16 i λcs=>
 dk [.S,.L,.L,.N] [.l cs] λs xs xs1=>
 br (A.lt 50 ↑(AP xs))
 (V ((γ [bv U,bv Θ],[])))
 (AJ D (ι 31 0) [Ξ t16,iv t17,iv (A.add φ t18 1)] [] λr o=>
 AG 0 [] (AH.mk [(0,bk [sv s,Ξ xs,Ξ xs1])] 1 Δ) [] r o))
 (V ((γ [iv 0],[]))):=by kernel_rfl
end
section
open Go.RowKit
def AiN:MFn:=Bj [⟨46,(mB 44),[],[2,3],[(0,((mB 16),([],[2,3]))),(1,([],([],[2,3])))]⟩] 40
def AeR:Hnt:=⟨[(40,(.bool,[]))],[(0,[(0,([.bool],[.del,.del])),(1,([],[.del,.del]))])],[(7,[.int .i64]),(9,[.int .i64]),(13,[.int .i64]),(15,[.int .i64]),(20,[.ls]),(23,[.ls]),(29,[.ls]),(35,[.ls]),(37,Cj),(38,Cj),(40,[.ls]),(42,Cj),(43,Cj)]⟩
def TX:List (Nat × MFn):=[(40,AiN)]
variable (A:Ar) (D:Orc)
theorem e40(x0_0 x0_1:Int)(x0_2:Rw)(x1_0 x1_1:Int)(x1_2:Rw):Bp A D Ak AeR .n 40 AiN [Φ [iv x0_0,iv x0_1,Ξ x0_2],Φ [iv x1_0,iv x1_1,Ξ x1_2]] [] =
 br (A.eq x0_0 x1_0)
 (br (A.eq x0_1 x1_1)
 (br (A.eq ↑(AP x0_2) ↑(AP x1_2))
 (Ah D (ι 40 0) [ψ 0 0,ψ 1 0,iv 0] [bk [iv x0_0,iv x0_1,Ξ x0_2],bk [iv x1_0,iv x1_1,Ξ x1_2]] [.t,.C,.x,.X,.Y] λc l o=>
 br (AT 0 c)
 (dk [.B,.N,.D,.D,.E] [.l l,.o o] λb=>
 V ((bv b,[])))
 (br (AT 1 c)
 (dk [.N,.D,.D,.E,.w] [.l l,.o o] λ_=>
 V ((bv U,[])))
 (Δ)))
 (V ((bv Θ,[]))))
 (V ((bv Θ,[]))))
 (V ((bv Θ,[]))):=by kernel_rfl
theorem Aky(b2_0 b2_1:Int)(b2_2:Rw)(b3_0 b3_1:Int)(b3_2:Rw)(t5:Int):CT A D Ak AeR .n 40 0 (AI AiN 0).fst (AI AiN 0).snd [ψ 0 0,ψ 1 0,iv t5] [bk [iv b2_0,iv b2_1,Ξ b2_2],bk [iv b3_0,iv b3_1,Ξ b3_2]] =
 br (A.lt t5 ↑(AP b2_2))
 (unI t5 λi=>
 A4 b2_2 i λcs=>
 dk [.I,.I,.L,.N] [.l cs] λn n1 xs=>
 unI t5 λi1=>
 A4 b3_2 i1 λcs1=>
 dk [.I,.I,.L,.N] [.l cs1] λn2 n3 xs1=>
 Ah D (δ 40) [Φ [iv n,iv n1,Ξ xs],Φ [iv n2,iv n3,Ξ xs1]] [] [.b,.E] λb=>
 br b
 (AJ D (ι 40 0) [ψ 0 0,ψ 1 0,iv (A.add φ t5 1)] [bk [iv b2_0,iv b2_1,Ξ b2_2],bk [iv b3_0,iv b3_1,Ξ b3_2]] λr1 o1=>
 AG 2 [0,1] (AH.mk [(1,bk [iv b3_0,iv b3_1,Ξ b3_2]),(0,bk [iv b2_0,iv b2_1,Ξ b2_2])] 2 Δ) [0,1] r1 o1)
 (V ((γ [bv U,bv Θ],[BO.del,BO.del]))))
 (V ((γ [iv 0],[BO.del,BO.del]))):=by kernel_rfl
end
section
open Go.RowKit
def mf9:MFn:=Bj [⟨82,(mB 442721857769029239360),[],[],[(0,((mB 16),([],[]))),(1,([],([],[])))]⟩] 9
def hn9:Hnt:=⟨[(21,(.int .i64,[])),(30,(.bool,[])),(31,(.bool,[])),(34,(.tup [.agg Cj,.ls,.bool],[])),(35,(.tup [.agg Cj,.ls,.bool],[])),(36,(.bool,[])),(37,(.bool,[])),(38,(.str,[])),(39,(.str,[])),(40,(.bool,[])),(41,(.bool,[]))],[(0,[(0,([.bool],[])),(1,([],[]))])],[(14,A8),(18,Fs),(23,A8),(24,Fs),(30,A8),(31,Fs),(36,A8),(38,A8),(42,A8),(44,A8),(54,Cj),(55,Cj),(73,Cg),(74,Cg),(77,Cg),(78,Cg)]⟩
def YD:List (Nat × MFn):=[(9,mf9)]
variable (A:Ar) (D:Orc)
theorem e9(x0_0:Int)(x0_1 x0_2:Rw)(x0_3:Int)(x0_4 x0_5:ByteArray)(x0_6 x1_0 x1_1:Rw)(x1_2:Int)(x1_3:Rw)(x1_4:Bool)(x1_5:Rw)(x1_6:Bool)(x1_7 x1_8 x1_9:Rw):Bp A D Ak hn9 .n 9 mf9 [Φ [iv x0_0,Ξ x0_1,Ξ x0_2,iv x0_3,sv x0_4,sv x0_5,Ξ x0_6],Φ [Ξ x1_0,Ξ x1_1,iv x1_2,Ξ x1_3,bv x1_4,Ξ x1_5,bv x1_6,Ξ x1_7,Ξ x1_8,Ξ x1_9]] [] =
 Ah D (δ 30) [] [] [.b,.E] λb=>let y4:=V (bv Θ,[]);br b (let y2:=Φ [iv x0_0,Ξ x0_1,Ξ x0_2,iv x0_3,sv x0_4,sv x0_5,Ξ x0_6];Ah D (δ 21) [y2,iv 100] [] [.i,.E] λn=>br
 (A.lt 100 n) (V (bv U,[])) (let y3:=Φ [Ξ x1_0,Ξ x1_1,iv x1_2,Ξ x1_3,bv x1_4,Ξ x1_5,bv x1_6,Ξ x1_7,Ξ x1_8,Ξ x1_9];Ah D (δ 31) [y3] [] [.b,.E] λb1=>br b1 (Ah D
 (δ 34) [y2,y3] [] [.t,.A,.I,.I,.L,.N,.L,.B,.N,.E] λn1 n2 xs xs1 b2=>Ah D (δ 35) [y2,y3] [] [.t,.A,.I,.I,.L,.N,.L,.B,.N,.E] λn3 n4 xs2 xs3 b3=>Ah D (δ 36) [y2] [] [.b,.E] λb4
 =>
 let y1:=Ah D (δ 38) [y2] [] [.s,.E] λs=>Ah D (δ 39) [y2] [] [.s,.E] λs1=>br (A.seq s s1) (br (A.not (A.beq b2 b3)) y4 (Ah D (δ 40) [Φ [iv n1,iv n2,Ξ xs],Φ [iv n3,iv n4,Ξ xs2]] [] [.b,.E] λb6=>br b6 (br (A.eq ↑(AP xs1) ↑(AP xs3)) (Ah D (ι 9 0) [Ξ xs1,Ξ xs3,iv ↑(AP xs1),iv 0] [] [.t,.C,.x,.X,.Y] λc2 l12 o10=>br (AT 0 c2) (dk [.B,.N,.E] [.l l12,.o o10] λb7=>V (bv b7,[])) (br (AT 1 c2) (EB l12<|CB o10<|some (bv U,[])) Δ)) y4) y4)) y4;
 br b4 (Ah D (δ 37) [y2,iv 0] [] [.b,.E] λb5=>br b5 (br (A.not (A.beq U U)) y4 y1) (br (A.not (A.beq U Θ)) y4 y1)) (Ah D (δ 37) [y2,iv 0] [] [.b,.E] λb5=>br b5 (br (A.not (A.beq Θ
 U)) y4 y1) (br (A.not (A.beq Θ Θ)) y4 y1))) (V (bv U,[])))) y4:=by kernel_rfl
theorem Aqn(t6 t9:Rw)(t67 t68:Int):CT A D Ak hn9 .n 9 0 (AI mf9 0).fst (AI mf9 0).snd [Ξ t6,Ξ t9,iv t67,iv t68] [] =
 br (A.lt t68 t67)
 (unI t68 λi=>
 A4 t6 i λcs=>
 dk [.B,.I,.I,.I,.L,.B,.L,.B,.L,.N] [.l cs] λb n n1 n2 xs b1 xs1 b2 xs2=>
 unI t68 λi1=>
 A4 t9 i1 λcs1=>
 dk [.B,.I,.I,.I,.L,.B,.L,.B,.L,.N] [.l cs1] λb3 n3 n4 n5 xs3 b4 xs4 b5 xs5=>
 Ah D (δ 41) [Φ [bv b,iv n,iv n1,iv n2,Ξ xs,bv b1,Ξ xs1,bv b2,Ξ xs2],Φ [bv b3,iv n3,iv n4,iv n5,Ξ xs3,bv b4,Ξ xs4,bv b5,Ξ xs5]] [] [.b,.E] λb6=>
 br b6
 (AJ D (ι 9 0) [Ξ t6,Ξ t9,iv t67,iv (A.add φ t68 1)] [] λr1 o1=>
 AG 0 [] (AH.mk [] 0 Δ) [] r1 o1)
 (V ((γ [bv U,bv Θ],[]))))
 (V ((γ [iv 0],[]))):=by kernel_rfl
end
def OD:List (List (Nat × MFn)):=[Qq,Wp,Fi,Wr,NX,Wq,La,TX,YD]
def S3:List (Nat × DF):=[(109,CO CH),(108,CO BZ),(22,CO DG),(32,(Dn Ai KZ 200).ask (.fn 32)),(34,(Bf Ai K3).ask (.fn 34)),(41,(Bf Ai Cz).ask (.fn 41)),(37,(Bf Ai Cz).ask (.fn 37)),(39,(Bf Ai Cz).ask (.fn 39)),(35,nfO ((Bf Ai K0).ask (.fn 35)))]
def TL:Seat:=ID Ak OD.flatten S3
def Fk:Orc:=Bf Ai TL
set_option maxRecDepth 100000 in
theorem AnD:JU π BI OD:=by
 repeat' first|exact trivial|refine⟨⟨_,_,_,rfl⟩,by kernel_rfl,?_⟩|refine⟨?_,?_⟩
theorem Hs:(GK OD&&NN OD.flatten S3)=U:=by kernel_rfl
theorem Afa:Knows Ak Qq Fk:=Bg Hs (i:=0) rfl
theorem Aoq:Knows Ak Wp Fk:=Bg Hs (i:=1) rfl
theorem XT:Knows Ak Fi Fk:=Bg Hs (i:=2) rfl
theorem Afg:Knows Ak Wr Fk:=Bg Hs (i:=3) rfl
theorem XU:Knows Ak NX Fk:=Bg Hs (i:=4) rfl
theorem Aff:Knows Ak Wq Fk:=Bg Hs (i:=5) rfl
theorem Zh:Knows Ak La Fk:=Bg Hs (i:=6) rfl
theorem Aiv:Knows Ak TX Fk:=Bg Hs (i:=7) rfl
theorem Aiu:Knows Ak YD Fk:=Bg Hs (i:=8) rfl
section
variable {args:Ab} {bs:List ABlk} {r:AV × List BO}
theorem Ahq(h:(CO CH) args bs=V r):Fk.ask (.fn 109) args bs=V r:=BB rfl h
theorem YK(h:(CO BZ) args bs=V r):Fk.ask (.fn 108) args bs=V r:=BB rfl h
theorem WL(h:(CO DG) args bs=V r):Fk.ask (.fn 22) args bs=V r:=BB rfl h
theorem Np(h:((Dn Ai KZ 200).ask (.fn 32)) args bs=V r):Fk.ask (.fn 32) args bs=V r:=BB rfl h
theorem WJ(h:((Bf Ai K3).ask (.fn 34)) args bs=V r):Fk.ask (.fn 34) args bs=V r:=BB rfl h
theorem Ug(h:((Bf Ai Cz).ask (.fn 41)) args bs=V r):Fk.ask (.fn 41) args bs=V r:=BB rfl h
theorem YL(h:((Bf Ai Cz).ask (.fn 37)) args bs=V r):Fk.ask (.fn 37) args bs=V r:=BB rfl h
theorem AcN(h:((Bf Ai Cz).ask (.fn 39)) args bs=V r):Fk.ask (.fn 39) args bs=V r:=BB rfl h
theorem Uf(h:(nfO ((Bf Ai K0).ask (.fn 35))) args bs=V r):Fk.ask (.fn 35) args bs=V r:=BB rfl h
end
theorem Yt(h:JW π S3):SeatOk π BI TL:=Ik X4 HW AnD h
def Tr.kind:Tr->Int
 |.mk k _ _ _ _ _ _=>k
def Tr.kids:Tr->List Tr
 |.mk _ _ _ _ _ _ ks=>ks
def C3:Tr->Bool
 |.mk _ l r op p q _=>decide (l.length=0)&&decide (r.length=0)&&decide (op=0)&&decide (p=Ag [])&&decide (q=Ag [])
def Ec:Tr->Bool
 |.mk k l r op p q ks=>decide (k=2)&&Ji l&&Ji r&&decide (0<=op)&&decide (op<=5)&&decide (p=Ag [])&&decide (q=Ag [])&&decide (ks.length=0)
def arI(k:Int):Int:=if k=0 then 0 else if k=1 then 0 else if k=3 then 1 else if k=4 then 2 else if k=5 then 2 else -1
def brk(p:Int)(i:Nat)(k:Int):Bool:=if p=3 then decide (k=4)||decide (k=5) else if p=4 then decide (k=5)||(decide (i=1)&&decide (k=4)) else if p=5 then decide (i=1)&&decide (k=5) else Θ
def Et(b:Bool)(d:Nat):Nat:=if b then d+1 else d
mutual
def BJ:Tr->Nat->Bool
 |.mk k l r op p q ks,d=>if k=2 then Ec (.mk k l r op p q ks) else C3 (.mk k l r op p q ks)&&decide ((ks.length:Int)=arI k)&&decide (Et (decide (k=3)) d<=60)&&Ey k (Et (decide (k=3)) d) 0 ks
def Ey(k:Int)(d:Nat):Nat->List Tr->Bool
 |_,[]=>U
 |i,x::r=>(decide (Et (brk k i x.kind) d<=60)&&BJ x (Et (brk k i x.kind) d))&&Ey k d (i+1) r
end
inductive WzT:Tr->Prop where
 |mk {k:Int} {l r:List Mo} {op:Int} {p q:ByteArray} {ks:List Tr} (hl:l.length<4611686018427387904) (hr:r.length<4611686018427387904) (hk:ks.length<4611686018427387904)
  (zl:∀ m∈l,m.num.size<=9223372036854775807/\m.var.size<=9223372036854775807) (zr:∀ m∈r,m.num.size<=9223372036854775807/\m.var.size<=9223372036854775807) (h:∀ x∈ks,WzT x):WzT (.mk k l r op p q ks)
section
variable {D:Orc}
variable (K:Knows Ak Fi D)
include K
theorem SG(t:Tr):D.ask (.fn 45) [.agg (BH t)] []=V (bv (C3 t),[]):=by
 obtain⟨k,l,r,op,p,q,ks⟩:=t;refine Aq K AqE (e45 ..) ?_;unfold C3;rw[Aj,Aj];simp only[Jh,J5,EV,decide_eq_true_eq,ci0]
 by_cases h1:l.length=0<;>by_cases h2:r.length=0<;>by_cases h3:op=0<;>by_cases h4:p=Ag []<;>by_cases h5:q=Ag []<;>simp[h1,h2,h3,h4,h5]
theorem Ac8(k:Int):D.ask (.fn 110) [iv k] []=V (iv (arI k),[]):=by
 refine Aq K AkQ (AsC ..) ?_;unfold arI;simp only[Jh,EV,decide_eq_true_eq]
 repeat' split
 all_goals rfl
theorem SL(p:Int)(i:Nat)(t:Tr):D.ask (.fn 111) [iv p,iv (i:Int),.agg (BH t)] []=V (bv (brk p i t.kind),[]):=by
 obtain⟨k,l,r,op,q,v,ks⟩:=t;refine Aq K AkR (AsD ..) ?_;unfold brk Tr.kind;simp only[Jh,EV,decide_eq_true_eq,ci1]
 by_cases h1:p=3
 .by_cases h2:k=4<;>by_cases h3:k=5<;>simp[h1,h2,h3]
 .by_cases h4:p=4
  .by_cases h2:k=4<;>by_cases h3:k=5<;>by_cases h5:i=1<;>simp[h4,h2,h3,h5]
  .by_cases h6:p=5
   .by_cases h3:k=5<;>by_cases h5:i=1<;>simp[h6,h3,h5]
   .simp[h1,h4,h6]
theorem Lb(L:LexN D)(t:Tr)(hz:WzT t):D.ask (.fn 46) [.agg (BH t)] []=V (bv (Ec t),[]):=by
 obtain⟨k,l,r,op,p,q,ks⟩:=t;obtain⟨hl,hr,hk,zl,zr,_⟩:=hz;have g1:=GC K L l zl hl;have g2:=GC K L r zr hr;refine Aq K AqF (e46 ..) ?_;unfold Ec;rw[B1,Aj]
 by_cases h0:k=2
 .refine Aw ?_ h0
  refine Aa g1 ?_;simp only[Ae]
  cases Ji l with
  |false=>simp[h0,Ae]
  |true=>
   simp only[Ae];refine Aa g2 ?_;simp only[Ae]
   cases Ji r with
   |false=>simp[h0,Ae]
   |true=>
    simp only[Ae,Tz,Jh,J5,EV,decide_eq_true_eq,ci0]
    by_cases h3:0<=op<;>by_cases h4:op<=5<;>by_cases h5:p=Ag []<;>by_cases h6:q=Ag []<;>by_cases h7:ks.length=0<;>simp[h0,h3,h4,h5,h6,h7]
 .refine Ap ?_ h0
  simp[h0]
omit K in
theorem LC{x:Tr}{ks:List Tr}(h:x∈ks):SizeOf.sizeOf x<SizeOf.sizeOf ks:=List.sizeOf_lt_of_mem h
def IE(t:Tr):ABlk:=Ψ (BH t) U Θ
theorem Agr(t:Tr)(d:Nat)(hd:d<=60)(ks:List Tr)(hk:ks.length<4611686018427387904)(g:∀ x∈ks,∀ d:Nat,d<=60->D.ask (.fn 62) [.agg (BH x),iv (d:Int)] []=V (bv (BJ x d),[])):∀(n i:Nat),ks.length-i=n->
  D.ask (.lp 62 0) [iv (d:Int),.ptr 0 0,.ls (ks.map BH),iv (ks.length:Int),iv (i:Int)] [IE t]=V (if Ey t.kind d i (ks.drop i) then .tup [iv 0] else .tup [bv U,bv Θ],[.del]):=by
 intro n;obtain⟨k,l,r,op,p,q,kz⟩:=t
 induction n with
 |zero=>
  intro i hi;refine Ax K AeT (AkA ..) ?_;rw[show ks.drop i=[] from ο (by omega)];refine Am ?_;rfl
 |succ n ih=>
  intro i hi;have hlt:i<ks.length:=by omega
  have ih:=ih (i+1) (by omega);rw[show ks.drop i=ks[i]::ks.drop (i+1) from ω hlt];have gx:=g ks[i] (AvN hlt);have hb:=SL K k i ks[i];refine Ax K AeT (AkA ..) ?_;refine Ao ?_;rw[AA,Az (Ω hlt)];revert gx hb;generalize ks[i]=x;obtain⟨xk,xl,xr,xo,xp,xq,xs⟩:=x;intro gx hb;unfold Ey Tr.kind;unfold Tr.kind at hb ih;simp only[BH,Ae];refine Aa hb ?_;simp only[Ae];have tl:∀(b:Bool),(if b=U then Ey k d (i+1) (ks.drop (i+1))=U else False)->True:=λ_ _=>trivial
  cases hbk:brk k i xk with
  |true=>
   refine Af ?_;rw[Bn (by omega)]
   by_cases h60:d+1<=60
   .refine Am ?_
    refine Aa (gx (d+1) h60) ?_;simp only[Ae];rw[show Et U d=d+1 from rfl,Ba h60,AvR]
    cases BJ (.mk xk xl xr xo xp xq xs) (d+1) with
    |false=>rfl
    |true=>
     refine Af ?_;rw[Bn (by omega)];refine Aa ih ?_;rw[AvR]
     cases Ey k d (i+1) (ks.drop (i+1))<;>rfl
   .refine Ao ?_
    rw[show Et U d=d+1 from rfl,Bu h60,Awb,Awb];rfl
  |false=>
   refine Bm ?_;refine Am ?_;refine Aa (gx d hd) ?_;simp only[Ae];rw[show Et Θ d=d from rfl,Ba hd,AvR]
   cases BJ (.mk xk xl xr xo xp xq xs) d with
   |false=>rfl
   |true=>
    refine Af ?_;rw[Bn (by omega)];refine Aa ih ?_;rw[AvR]
    cases Ey k d (i+1) (ks.drop (i+1))<;>rfl
theorem Agt(L:LexN D):∀(n:Nat) (t:Tr),SizeOf.sizeOf t<n->WzT t->∀ d:Nat,d<=60->D.ask (.fn 62) [.agg (BH t),iv (d:Int)] []=V (bv (BJ t d),[]):=by
 intro n
 induction n with
 |zero=>intro t h;omega
 |succ n ih=>
  intro t ht hz d hd;have gb:=SG K t;have gc:=Lb K L t hz;obtain⟨k,l,r,op,p,q,ks⟩:=t;obtain⟨hl,hr,hk,zl,zr,hx⟩:=hz;have ga:=Ac8 K k;have gk:∀ x∈ks,∀ d:Nat,d<=60->D.ask (.fn 62) [.agg (BH x),iv (d:Int)] []=V (bv (BJ x d),[]):=λx hm d hd=>ih x (by
   have h1:=LC hm;simp only[Tr.mk.sizeOf_spec]at ht;omega) (hx x hm) d hd
  have glp:=λ(d:Nat) (hd:d<=60)=>Agr K (.mk k l r op p q ks) d hd ks hk gk _ 0 rfl
  simp only[κ,Tr.kind,IE,BH]at glp;refine Aq K AeT (e62 ..) ?_;unfold BJ;rw[B1]at glp ⊢;rw[Aj];simp only[BH,B1]at gb gc
  by_cases h2:k=2
  .refine Aw ?_ h2
   refine Aa gc ?_;simp only[Ae];rw[Ac h2]
   cases Ec (.mk k l r op p q ks)<;>rfl
  .refine Ap ?_ h2
   rw[Ad h2];have fin:∀(d:Nat),d<=61->∀(X:KR),(d<=60->X=V (bv (Ey k d 0 ks),[]))->br (Ai.lt 60 (d:Int)) (V (bv Θ,[])) X=V (bv (decide (d<=60)&&Ey k d 0 ks),[]):=λd h61 X hX=>by
    by_cases h:d<=60
    .refine Am ?_
     rw[hX h,Ba h,AvR]
    .refine Ao ?_
     rw[Bu h,Awb]
   by_cases h3:k=3
   .refine Aw ?_ h3
    refine Aa gb ?_;simp only[Ae]
    cases C3 (.mk k l r op p q ks) with
    |false=>rfl
    |true=>
     refine Af ?_;refine Aa ga ?_;simp only[Ae]
     by_cases h4:(ks.length:Int)=arI k
     .refine Aw ?_ h4
      rw[Ba h4,AvR,AvR,Ba h3,Bn (by omega)];refine fin (d+1) (by omega) _ λh=>?_
      refine Aa (glp (d+1) h) ?_
      cases Ey k (d+1) 0 ks<;>rfl
     .refine Ap ?_ h4
      rw[Bu h4,AvR,Awb,Awb]
   .refine Ap ?_ h3
    refine Aa gb ?_;simp only[Ae]
    cases C3 (.mk k l r op p q ks) with
    |false=>rfl
    |true=>
     refine Af ?_;refine Aa ga ?_;simp only[Ae]
     by_cases h4:(ks.length:Int)=arI k
     .refine Aw ?_ h4
      rw[Ba h4,AvR,AvR,Bu h3];refine fin d (by omega) _ λh=>?_
      refine Aa (glp d h) ?_
      cases Ey k d 0 ks<;>rfl
     .refine Ap ?_ h4
      rw[Bu h4,AvR,Awb,Awb]
theorem AcZ(L:LexN D)(t:Tr)(hz:WzT t):D.ask (.fn 24) [.agg (BH t)] []=V (bv (BJ t 0),[]):=by
 have g:=Agt K L _ t (AvS _) hz 0 (by omega);obtain⟨k,l,r,op,p,q,ks⟩:=t;refine Aq K Aqw (e24 ..) ?_;refine Aa g ?_;simp only[Ae]
 cases BJ (.mk k l r op p q ks) 0<;>rfl
end
def C1(k:Int):Int:=if k=0 then 0 else if k=1 then 0 else if k=2 then 0 else if k=6 then 0 else if k=3 then 1 else if k=8 then 1 else if k=9 then 1 else if k=10 then 1 else if k=4 then 2 else if k=5 then 2 else if k=7 then 2 else if k=11 then 2 else if k=12 then 2 else -1
def Ga(k:Int):Int:=if k=7 then 1 else if k=5 then 2 else if k=4 then 3 else if k=11 then 4 else if k=12 then 4 else 5
def Cd(p:Int)(i:Nat)(k:Int):Bool:=if C1 p=1 then decide (Ga k<5) else if Ga p=Ga k then((decide (Ga p=1)||decide (Ga p=4)) == decide (i=0)) else decide (Ga k<Ga p)
def IB:Tr->Bool
 |.mk k l r op p q ks=>if k=2 then Ec (.mk k l r op p q ks) else if k=6 then decide (l.length=0)&&decide (r.length=0)&&decide (op=0)&&CA p.data.toList&&CA q.data.toList else C3 (.mk k l r op p q ks)
mutual
def AO:Tr->Nat->Bool
 |.mk k l r op p q ks,d=>if(ks.length:Int)=C1 k then(if C1 k=0 then IB (.mk k l r op p q ks) else decide (Et (decide (C1 k=1)) d<=60)&&C3 (.mk k l r op p q ks)&&C8 k (Et (decide (C1 k=1)) d) 0 ks) else Θ
def C8(k:Int)(d:Nat):Nat->List Tr->Bool
 |_,[]=>U
 |i,x::r=>(decide (Et (Cd k i x.kind) d<=60)&&AO x (Et (Cd k i x.kind) d))&&C8 k d (i+1) r
end
inductive WzP:Tr->Prop where
 |mk {k:Int} {l r:List Mo} {op:Int} {p q:ByteArray} {ks:List Tr} (zp:p.size<=9223372036854775807) (zq:q.size<=9223372036854775807) (h:∀ x∈ks,WzP x):WzP (.mk k l r op p q ks)
theorem XS(c:Prop)[Decidable c](a b:Int):(if c then V (iv a,([]:List BO)) else V (iv b,[]))=V (iv (if c then a else b),[]):=by
 by_cases h:c
 .rw[Ac h,Ac h]
 .rw[Ad h,Ad h]
section
variable {D:Orc}
variable (K:Knows Ak NX D)
include K
theorem RD(k:Int):D.ask (.fn 132) [iv k] []=V (iv (C1 k),[]):=by
 refine Aq K Ak1 (AsO ..) ?_;unfold C1;simp only[Jh,EV,decide_eq_true_eq,XS]
theorem RJ(k:Int):D.ask (.fn 194) [iv k] []=V (iv (Ga k),[]):=by
 refine Aq K Alu (Ats ..) ?_;unfold Ga;simp only[Jh,EV,decide_eq_true_eq,XS]
theorem J3(p:Int)(i:Nat)(t:Tr):D.ask (.fn 134) [iv p,iv (i:Int),.agg (BH t)] []=V (bv (Cd p i t.kind),[]):=by
 obtain⟨k,l,r,op,q,v,ks⟩:=t;refine Aq K Ak3 (AsQ ..) ?_;refine Aa (RJ K p) ?_;simp only[Ae];refine Aa (RJ K k) ?_;simp only[Ae];refine Aa (RD K p) ?_;simp only[Ae];unfold Cd Tr.kind;have e1:Ai.beq U U=U:=rfl;have e2:Ai.beq U Θ=Θ:=rfl;have e3:Ai.beq Θ U=Θ:=rfl;have e4:Ai.beq Θ Θ=U:=rfl;simp only[Jh,V2,EV,decide_eq_true_eq,e1,e2,e3,e4,ci0];generalize Ga p=a;generalize Ga k=b
 by_cases h1:C1 p=1
 .by_cases h2:b<5<;>simp[h1,h2]
 .by_cases h2:a=b
  .by_cases h3:a=1
   .by_cases h5:i=0<;>simp_all
   .by_cases h4:a=4<;>by_cases h5:i=0<;>simp_all
  .by_cases h3:b<a<;>simp[h1,h2,h3]
theorem Abt(t:Tr)(d:Nat)(hd:d<=60)(ks:List Tr)(hk:ks.length<4611686018427387904)(g:∀ x∈ks,∀ d:Nat,d<=60->D.ask (.fn 74) [.agg (BH x),iv (d:Int)] []=V (bv (AO x d),[])):∀(n i:Nat),ks.length-i=n->
  D.ask (.lp 74 0) [iv (d:Int),.ptr 0 0,.ls (ks.map BH),iv (ks.length:Int),iv (i:Int)] [IE t]=V (if C8 t.kind d i (ks.drop i) then .tup [iv 0] else .tup [bv U,bv Θ],[.del]):=by
 intro n;obtain⟨k,l,r,op,p,q,kz⟩:=t
 induction n with
 |zero=>
  intro i hi;refine Ax K AeY (AkC ..) ?_;rw[show ks.drop i=[] from ο (by omega)];refine Am ?_;rfl
 |succ n ih=>
  intro i hi;have hlt:i<ks.length:=by omega
  have ih:=ih (i+1) (by omega);rw[show ks.drop i=ks[i]::ks.drop (i+1) from ω hlt];have gx:=g ks[i] (AvN hlt);have hb:=J3 K k i ks[i];refine Ax K AeY (AkC ..) ?_;refine Ao ?_;rw[AA,Az (Ω hlt)];revert gx hb;generalize ks[i]=x;obtain⟨xk,xl,xr,xo,xp,xq,xs⟩:=x;intro gx hb;unfold C8 Tr.kind;unfold Tr.kind at hb ih;simp only[BH,Ae];refine Aa hb ?_;simp only[Ae];have tl:∀(b:Bool),(if b=U then C8 k d (i+1) (ks.drop (i+1))=U else False)->True:=λ_ _=>trivial
  cases hbk:Cd k i xk with
  |true=>
   refine Af ?_;rw[Bn (by omega)]
   by_cases h60:d+1<=60
   .refine Am ?_
    refine Aa (gx (d+1) h60) ?_;simp only[Ae];rw[show Et U d=d+1 from rfl,Ba h60,AvR]
    cases AO (.mk xk xl xr xo xp xq xs) (d+1) with
    |false=>rfl
    |true=>
     refine Af ?_;rw[Bn (by omega)];refine Aa ih ?_;rw[AvR]
     cases C8 k d (i+1) (ks.drop (i+1))<;>rfl
   .refine Ao ?_
    rw[show Et U d=d+1 from rfl,Bu h60,Awb,Awb];rfl
  |false=>
   refine Bm ?_;refine Am ?_;refine Aa (gx d hd) ?_;simp only[Ae];rw[show Et Θ d=d from rfl,Ba hd,AvR]
   cases AO (.mk xk xl xr xo xp xq xs) d with
   |false=>rfl
   |true=>
    refine Af ?_;rw[Bn (by omega)];refine Aa ih ?_;rw[AvR]
    cases C8 k d (i+1) (ks.drop (i+1))<;>rfl
theorem Afu(Kt:Knows Ak Fi D)(L:LexN D)(t:Tr)(hz:WzT t)(hp:WzP t):D.ask (.fn 133) [.agg (BH t)] []=V (bv (IB t),[]):=by
 have gb:=SG Kt t;have gc:=Lb Kt L t hz;obtain⟨k,l,r,op,p,q,ks⟩:=t;obtain⟨z1,z2,_⟩:=hp;have gp:=L.name p z1;have gq:=L.name q z2;refine Aq K Ak2 (AsP ..) ?_;rw[IB];rw[Aj,Aj];simp only[BH]at gb gc
 by_cases h2:k=2
 .refine Aw ?_ h2
  refine Aa gc ?_;rw[Ac h2]
  cases Ec (.mk k l r op p q ks)<;>rfl
 .refine Ap ?_ h2
  rw[Ad h2]
  by_cases h6:k=6
  .refine Aw ?_ h6
   rw[Ac h6]
   by_cases h3:l.length=0
   .refine Aw ?_
    by_cases h4:r.length=0
    .refine Aw ?_
     by_cases h5:op=0
     .refine Aw ?_ h5
      refine Aa gp ?_;simp only[Ae];rw[Ba h3,Ba h4,Ba h5]
      cases CA p.data.toList with
      |false=>rfl
      |true=>
       refine Af ?_;refine Aa gq ?_
       cases CA q.data.toList<;>rfl
     .refine Ap ?_ h5
      simp[h5]
    .refine Ap ?_
     simp[h4]
   .refine Ap ?_
    simp[h3]
  .refine Ap ?_ h6
   rw[Ad h6];refine Aa gb ?_
   cases C3 (.mk k l r op p q ks)<;>rfl
theorem Abu(Kt:Knows Ak Fi D)(L:LexN D):∀(n:Nat) (t:Tr),SizeOf.sizeOf t<n->WzT t->WzP t->∀ d:Nat,d<=60->D.ask (.fn 74) [.agg (BH t),iv (d:Int)] []=V (bv (AO t d),[]):=by
 intro n
 induction n with
 |zero=>intro t h;omega
 |succ n ih=>
  intro t ht hz hp d hd;have gb:=SG Kt t;have gl:=Afu K Kt L t hz hp;obtain⟨k,l,r,op,p,q,ks⟩:=t;obtain⟨hl,hr,hk,zl,zr,hx⟩:=hz;obtain⟨_,_,hy⟩:=hp;have ga:=RD K k;have gk:∀ x∈ks,∀ d:Nat,d<=60->D.ask (.fn 74) [.agg (BH x),iv (d:Int)] []=V (bv (AO x d),[]):=λx hm d hd=>ih x (by
   have h1:=LC hm;simp only[Tr.mk.sizeOf_spec]at ht;omega) (hx x hm) (hy x hm) d hd
  have glp:=λ(d:Nat) (hd:d<=60)=>Abt K (.mk k l r op p q ks) d hd ks hk gk _ 0 rfl
  simp only[κ,Tr.kind,IE,BH]at glp;refine Aq K AeY (e74 ..) ?_;rw[AO];rw[B1]at glp ⊢;rw[Aj];simp only[BH,B1]at gb gl;refine Aa ga ?_;simp only[Ae]
  by_cases h4:(ks.length:Int)=C1 k
  .refine Aw ?_ h4
   rw[Ac h4]
   by_cases h0:C1 k=0
   .refine Aw ?_ h0
    rw[Ac h0];refine Aa gl ?_
    cases IB (.mk k l r op p q ks)<;>rfl
   .refine Ap ?_ h0
    rw[Ad h0]
    by_cases h1:C1 k=1
    .refine Aw ?_ h1
     rw[Ba h1,Bn (by omega)]
     by_cases h60:d+1<=60
     .refine Am ?_
      rw[show Et U d=d+1 from rfl,Ba h60,AvR];refine Aa gb ?_;simp only[Ae]
      cases C3 (.mk k l r op p q ks) with
      |false=>rfl
      |true=>
       refine Af ?_;refine Aa (glp (d+1) h60) ?_;rw[AvR]
       cases C8 k (d+1) 0 ks<;>rfl
     .refine Ao ?_
      rw[show Et U d=d+1 from rfl,Bu h60,Awb,Awb]
    .refine Ap ?_ h1
     rw[Bu h1];refine Am ?_;rw[show Et Θ d=d from rfl,Ba hd,AvR];refine Aa gb ?_;simp only[Ae]
     cases C3 (.mk k l r op p q ks) with
     |false=>rfl
     |true=>
      refine Af ?_;refine Aa (glp d hd) ?_;rw[AvR]
      cases C8 k d 0 ks<;>rfl
  .refine Ap ?_ h4
   rw[Ad h4]
theorem G8(Kt:Knows Ak Fi D)(L:LexN D)(t:Tr)(hz:WzT t)(hp:WzP t):D.ask (.fn 36) [.agg (BH t)] []=V (bv (AO t 0),[]):=by
 have g:=Abu K Kt L _ t (AvS _) hz hp 0 (by omega);obtain⟨k,l,r,op,p,q,ks⟩:=t;refine Aq K AqA (e36 ..) ?_;refine Aa g ?_;simp only[Ae]
 cases AO (.mk k l r op p q ks) 0<;>rfl
end
def Lp(l r:List Mo)(op:Int):List UInt8:=CY l++[32]++M4.getD op.toNat []++[32]++CY r
def Aom(k:Int)(ts:List (List UInt8)):List UInt8:=if k=3 then [33]++ts.getD 0 [] else if k=4 then ts.getD 0 []++[32,38,32]++ts.getD 1 [] else if k=5 then ts.getD 0 []++[32,124,32]++ts.getD 1 [] else [116,114,117,101]
mutual
def txt:Tr->List UInt8
 |.mk k l r op p q ks=>if k=1 then [102,97,108,115,101] else if k=2 then(if Ec (.mk k l r op p q ks) then Lp l r op else []) else Aom k (Al6 k 0 ks)
def Al6(k:Int):Nat->List Tr->List (List UInt8)
 |_,[]=>[]
 |i,x::r=>(if brk k i x.kind then [40]++txt x++[41] else txt x)::Al6 k (i+1) r
end
abbrev KT:=Nat × List UInt8
def kt(t:Tk):KT:=(t.kind,t.text)
def moK(m:Mo):List KT:=if m.num≠Ag [] then(if m.var≠Ag [] then [(3,m.num.data.toList),(2,[42]),(1,m.var.data.toList)] else [(3,m.num.data.toList)]) else [(1,m.var.data.toList)]
def AuP(i:Nat)(m:Mo):List KT:=if m.neg then [(2,[45])] else if i=0 then [] else [(2,[43])]
def Ag0:Nat->List Mo->List KT
 |_,[]=>[]
 |i,m::r=>AuP i m++moK m++Ag0 (i+1) r
def AqX(k:Int)(ts:List (List KT)):List KT:=if k=3 then [(2,[33])]++ts.getD 0 [] else if k=4 then ts.getD 0 []++[(2,[38])]++ts.getD 1 [] else if k=5 then ts.getD 0 []++[(2,[124])]++ts.getD 1 [] else [(1,[116,114,117,101])]
mutual
def Nj:Tr->List KT
 |.mk k l r op _ _ ks=>if k=1 then [(1,[102,97,108,115,101])] else if k=2 then Ag0 0 l++[(2,M4.getD op.toNat [])]++Ag0 0 r else AqX k (Aq7 k 0 ks)
def Aq7(k:Int):Nat->List Tr->List (List KT)
 |_,[]=>[]
 |i,x::r=>(if brk k i x.kind then [(2,[40])]++Nj x++[(2,[41])] else Nj x)::Aq7 k (i+1) r
end
def CU(k:Int):List UInt8:=if k=3 then [33] else if k=8 then [88,32] else if k=9 then [71,32] else if k=10 then [70,32] else if k=4 then [32,38,32] else if k=5 then [32,124,32] else if k=7 then [32,45,62,32] else if k=11 then [32,85,32] else [32,82,32]
def FT:Tr->List UInt8
 |.mk k l r op p q ks=>if k=0 then [116,114,117,101] else if k=1 then [102,97,108,115,101] else if k=6 then [64]++p.data.toList++[46]++q.data.toList else if Ec (.mk k l r op p q ks) then Lp l r op else []
def Vu(t:Tr):List (List UInt8)->List UInt8
 |[]=>FT t
 |[a]=>CU t.kind++a
 |a::b::_=>a++CU t.kind++b
mutual
def BP:Tr->List UInt8
 |.mk k l r op p q ks=>Vu (.mk k l r op p q []) (D0 k 0 ks)
def D0(k:Int):Nat->List Tr->List (List UInt8)
 |_,[]=>[]
 |i,x::r=>(if Cd k i x.kind then [40]++BP x++[41] else BP x)::D0 k (i+1) r
end
section
open Go.RowKit
variable (A:Ar) (D:Orc)
end
structure AllF (D:Orc) (s:ByteArray) (ts:List Tk) (ln co e:Nat):Prop where
 all:D.ask (.fn 91) [sv s] []=V (.tup [.ls (ts.map eTk),.agg [iv (ln:Int),iv (co:Int)],iv (e:Int)],[])
 rall:D.ask (.fn 50) [sv s] []=V (.tup [.ls (ts.map eTk),.agg [iv (ln:Int),iv (co:Int)],iv (e:Int)],[])
 zero:e=0->ln=0/\co=0
theorem AfS(a b:Int):Ai.not (Ai.band (Ai.eq a a) (Ai.band (Ai.eq b b) U))=Θ:=by
 rw[Jh,Jh,Ba rfl,Ba rfl];rfl
section
open Go.RowKit
variable (A:Ar) (D:Orc)
end
section
open Go.RowKit
variable (A:Ar) (D:Orc)
end
structure TksF (n:Nat) (ts:List Tk):Prop where
 len:ts.length<=n+1
 ne:ts≠[]
 last:∀ d,(ts.getLastD d).kind=5
 each:∀ t∈ts,t.text.length<=n/\(t.kind≠5->t.text≠[])
theorem Ao3{ts:List Tk}(h:ts≠[])(i:Nat):nx ts i∈ts:=by
 unfold nx
 cases e:ts[i]? with
 |some t=>exact List.mem_of_getElem? e
 |none=>
  simp only;rw[List.getLastD_eq_getLast?,List.getLast?_eq_some_getLast h];exact List.getLast_mem h
theorem TksF.num{n:Nat}{ts:List Tk}(f:TksF n ts)(i:Nat)(h:(nx ts i).kind=3):(nx ts i).text≠[]:=(f.each _ (Ao3 f.ne i)).2 (by omega)
section
variable {D:Orc}
structure LexF (D:Orc):Prop where
 ok:∀(s:ByteArray) (ts:List Tk),s.size<=9223372036854775807->Ib s.data.toList=.ok ts->AllF D s ts 0 0 0
 err:∀(s:ByteArray) (c ln co:Nat),s.size<=9223372036854775807->Ib s.data.toList=.err c ln co->AllF D s [] ln co c
structure LexA (D:Orc):Prop where
 ok:∀(s:ByteArray) (ts:List Tk),s.size<=9223372036854775807->Ib s.data.toList=.ok ts->D.ask (.fn 91) [sv s] []=V (.tup [.ls (ts.map eTk),.agg [iv 0,iv 0],iv 0],[])
 err:∀(s:ByteArray) (c ln co:Nat),s.size<=9223372036854775807->Ib s.data.toList=.err c ln co->D.ask (.fn 91) [sv s] []=V (.tup [.ls [],.agg [iv (ln:Int),iv (co:Int)],iv (c:Int)],[])
set_option linter.unusedSectionVars false
variable (K:Knows Ak Qq D)  (L:NameF D)
variable  (R:RNameF D)  (A:LexF D)
include R A
end
def Ar2(n m:Nat):Nat:=if n=45/\m=62 then 2 else if n=58/\m=61 then 2 else if n=33/\m=61 then 2 else if n=60/\m=61 then 2 else if n=62/\m=61 then 2 else if n=46/\m=46 then 2
 else if [40,41,44,59,58,46,43,42,38,124,33,64,61,60,62,47,45].contains n then 1 else 0
def Apx(c d:UInt8):Bool:=decide (Ar2 c.toNat d.toNat=2)

section
open Go.RowKit
variable (A:Ar) (D:Orc)
end
theorem D9(a b:List UInt8):Ag a++Ag b=Ag (a++b):=by
 rw[DA,BG,BG]
def Aqu(c:UInt8):Bool:=c.toNat == 10||c.toNat == 32||c.toNat == 9||c.toNat == 35
def Sep(b:List UInt8):Prop:=∃ c r,b=c::r/\Aqu c=U
def Ass(rest:List UInt8):Prop:=rest=[]\/Sep rest
def ApJ(k:Nat)(text:List UInt8):Prop:=(∃ c r,text=c::r/\Aqu c=Θ)/\∀ rest,Ass rest->Ip (text++rest)=.tok k text.length
def GoodToks:List Tk->Prop
 |[]=>False
 |[t]=>t.kind=5/\t.text=[]
 |t::u::r=>ApJ t.kind t.text/\GoodToks (u::r)
theorem GoodToks.ne{ts:List Tk}(h:GoodToks ts):ts≠[]:=by rintro rfl;exact h
theorem GoodToks.cons{t:Tk}{ts:List Tk}(h:ApJ t.kind t.text)(hs:GoodToks ts):GoodToks (t::ts):=by
 cases ts with
 |nil=>exact hs.elim
 |cons u r=>exact⟨h,hs⟩
