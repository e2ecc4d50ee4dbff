/- Layer 5's alive answers -/
import Derived.Test.YtpncilciembjdaaGreatDoorJBQ
import Derived.Test.YtpncilciembjdaaGreatDoorJAW
import Derived.Test.YtpncilciembjdaaGreatDoorJBB
set_option linter.all false
open Bool renaming false->Ξ,true->U
open Option renaming some->Δ
namespace Go.Proofs.YtpncilciembjdaaGreatDoor
noncomputable section
open AV renaming agg->ξ,ls->Φ,ptr->ψ
open Key renaming fn->ω
open Tryz renaming prog->ζ
section
open Go.RowKit
abbrev IB:Aa:=[iv 2,.ls [X0],bv Ξ,.ls [OV 2],bv Ξ,.ls []]
abbrev R4:Aa:=[iv 2,.ls [pY],bv Ξ,.ls [],bv U,.ls []]
abbrev fGe:Aa:=[iv 2,.ls [pX,U4],bv Ξ,.ls [],bv Ξ,.ls []]
abbrev fK(k:Int)(l:Rw):Aa:=[iv k,.ls [],bv Ξ,.ls [],bv Ξ,.ls l]
abbrev Alf:Aa:=fK 4 [IB,R4]
abbrev AdP:Aa:=fK 5 [IB,R4]
abbrev Aol:Aa:=fK 4 [AdP,fGe]
abbrev Aom:Aa:=fK 3 [Alf]
abbrev fF:Aa:=fK 5 [[iv 2,.ls [pX],bv U,.ls [OV 3],bv Ξ,.ls []],[iv 2,.ls [pY],bv U,.ls [OV 1],bv Ξ,.ls []],[iv 2,.ls [U4],bv U,.ls [OV 1],bv Ξ,.ls []]]
abbrev AdQ:Aa:=[iv 2,.ls [U4],bv Ξ,.ls [OV 2],bv Ξ,.ls []]
set_option maxRecDepth 1000000
theorem a1:Ds 91 [iv 0,.ls [[iv 1]]] []=Δ (.agg [.ls [pX],bv Ξ,.ls []],[]):=by kernel_rfl
theorem a2:Ds 91 [iv 0,.ls [[iv 0],[iv 1]]] []=Δ (.agg [.ls [pY],bv Ξ,.ls []],[]):=by kernel_rfl
theorem a3:Ds 91 [iv 3,.ls []] []=Δ (.agg [.ls [],bv Ξ,.ls [OV 3]],[]):=by kernel_rfl
theorem a4:Ds 54 [iv 2,.agg [.ls [pX],bv Ξ,.ls []],.agg [.ls [],bv Ξ,.ls [OV 3]]] []=Δ (.agg IB,[]):=by kernel_rfl
theorem a5:Ds 91 [iv 0,.ls []] []=Δ (.agg [.ls [],bv Ξ,.ls []],[]):=by kernel_rfl
theorem a6:Ds 54 [iv 0,.agg [.ls [pY],bv Ξ,.ls []],.agg [.ls [],bv Ξ,.ls []]] []=Δ (.agg R4,[]):=by kernel_rfl
theorem a7:Ds 92 [.ls [IB,R4]] []=Δ (.agg Alf,[]):=by kernel_rfl
theorem a8:Ds 49 [.agg Alf] []=Δ (.agg Aom,[]):=by kernel_rfl
theorem a9:dBu 39 [.agg Aom] []=Δ (.agg fF,[]):=by kernel_rfl
theorem a10:Ds 93 [.agg fF,.ls [[sv (CP [120])],[sv (CP [121])]]] []=Δ (sv (CP [40,120,32,45,32,51,32,62,61,32,48,32,124,32,121,32,45,32,49,32,62,61,32,48,32,124,32,45,121,32,45,32,49,32,62,61,32,48,41]),[]):=by kernel_rfl
theorem a11:Ds 94 [.ls [IB,R4]] []=Δ (.agg AdP,[]):=by kernel_rfl
theorem a12:Ds 54 [iv 5,.agg [.ls [pX],bv Ξ,.ls []],.agg [.ls [pY],bv Ξ,.ls []]] []=Δ (.agg fGe,[]):=by kernel_rfl
theorem a13:Ds 92 [.ls [AdP,fGe]] []=Δ (.agg Aol,[]):=by kernel_rfl
theorem a14:dBu 47 [.agg Aol,iv 9] []=Δ (.tup [.ls [[.ls [rL,rG]],[.ls [rG,U8]]],iv 0],[]):=by kernel_rfl
theorem a15:dBu 47 [.agg AdP,iv 1] []=Δ (.tup [.ls [],iv 3],[]):=by kernel_rfl
theorem a16:Ds 56 [iv 2] []=Δ (.agg [bv Ξ,.ls [OV 2]],[]):=by kernel_rfl
theorem a17:Ds 36 [.agg IB,.ls [[bv Ξ,.ls [OV 2]]]] []=Δ (bv U,[]):=by kernel_rfl
theorem a18:Ds 95 [bv Ξ] []=Δ (.agg (fK 1 []),[]):=by kernel_rfl
theorem a19:Ds 36 [.agg (fK 1 []),.ls []] []=Δ (bv Ξ,[]):=by kernel_rfl
theorem a20:Ds 96 [.agg fF] []=Δ (iv 4,[]):=by kernel_rfl
theorem a21:Ds 97 [.agg fF] []=Δ (.ls [[iv 0],[iv 1]],[]):=by kernel_rfl
theorem a22:Ds 41 [.agg fF,.agg fF] []=Δ (bv U,[]):=by kernel_rfl
theorem a23:Ds 41 [.agg fF,.agg IB] []=Δ (bv Ξ,[]):=by kernel_rfl
theorem a24:Ds 43 [.agg IB,.ls [[iv 0]],.ls [[.ls [pY],bv Ξ,.ls []]]] []=Δ (.agg AdQ,[]):=by kernel_rfl
theorem a25:Ds 45 [.agg IB,iv 1] []=Δ (.agg AdQ,[]):=by kernel_rfl
theorem a26:Ds 41 [.agg AdQ,.agg AdQ] []=Δ (bv U,[]):=by kernel_rfl
theorem a27:Ds 98 [.agg [.ls [X0],bv Ξ,.ls [OV 2],bv Ξ]] []=Δ (.agg IB,[]):=by kernel_rfl
theorem Ad8:Qb.ask (.fn 34) [] []=Δ (bv U,[]):=by
 refine Az AoS Aox (e34 ..) ?_;refine Ab (RD a1) ?_;simp only[Ai];refine Ab (RD a2) ?_;simp only[Ai];refine Ab (RD a3) ?_;simp only[Ai];refine Ab (Jl a4) ?_;simp only[Ai];refine Ab (RD a5) ?_;simp only[Ai];refine Ab (Jl a6) ?_;simp only[Ai];refine Ab (Ac6 a7) ?_;simp only[Ai];refine Ab (Ac9 a8) ?_;simp only[Ai];refine Ab (AiI a9) ?_;simp only[Ai];refine Ba ?_ rfl;refine Ba ?_ rfl;refine Ab (Adb a10) ?_;simp only[Ai];refine Aii rfl ?_;refine Ab (Ac7 a11) ?_;simp only[Ai];refine Ab (Jl a12) ?_;simp only[Ai];refine Ab (Ac6 a13) ?_;simp only[Ai];refine Ab (TQ a14) ?_;simp only[Ai];refine Ab (Ac7 a11) ?_;simp only[Ai];refine Ab (TQ a15) ?_;simp only[Ai];refine Ab (Anh a16) ?_;simp only[Ai];refine Ba ?_ rfl;refine Ba ?_ rfl;refine Ba ?_ rfl;refine Ab (Qa a17) ?_;simp only[Ai];refine Ab (Adj a18) ?_;simp only[Ai];refine Ab (Qa a19) ?_;simp only[Ai];refine Ab (AiQ a20) ?_;simp only[Ai];refine Ba ?_ rfl;refine Ab (Adc a21) ?_;simp only[Ai];refine Ba ?_ rfl;refine Ab (OF a22) ?_;simp only[Ai];refine Ab (OF a23) ?_;simp only[Ai];refine Ab (VI a24) ?_;simp only[Ai];refine Ab (Ada a25) ?_;simp only[Ai];refine Ab (OF a26) ?_;simp only[Ai];refine Ab (Ang a27) ?_;simp only[Ai];refine Ba ?_ rfl;rfl
theorem Aot:A1 (Bi ζ 34) ((AB Ah Oo).ask (.fn 34)):=
 Cq (YE ⟨(GU _),(GU _),(GU _),(GU _),(Aow _),(GU _),(GU _),(Aow _),(GU _),(GU _),(GU _),(GU _),(GU _),(GU _),(GU _),(GU _),(GU _),trivial⟩) _
end
section
open Go.RowKit
def Wg:MFn:=AE [⟨56,(mB 469762078),[],[4],[(0,((mB 256),([],[4]))),(1,((mB 30),([],[])))]⟩] 10
def Sk:Hnt:=⟨[(16,(.bool,[])),(34,(.bool,[])),(35,(.bool,[])),(38,(.bool,[])),(43,(.agg AL,[])),(44,(.agg AL,[])),(45,(.agg AL,[])),(46,(.agg AL,[]))],[(0,[(0,([.bool],[.del])),(1,([.ls,.ls,.int .i64,.ptr 0 0],[.box AL]))])],[(13,AL),(30,Bx),(31,Bx),(32,Bx),(38,AL),(42,AL),(48,AL),(51,AL)]⟩
def VE:List (Nat × MFn):=[(10,Wg)]
variable (A:Ar) (D:Orc)
theorem Aqh(x0_0:Int)(x0_1:Rw)(x0_2:Bool)(x0_3:Rw)(x0_4:Bool)(x0_5 x1 x2:Rw)(x3:Int):BZ A D Aq Sk .n 10 Wg [ξ [iv x0_0,Φ x0_1,bv x0_2,Φ x0_3,bv x0_4,Φ x0_5],Φ x1,Φ x2,iv x3] [] =
 Ag D (ω 34) [] [] [.b,.E] λb=>
 br b
 (Ag D (ω 35) [ξ [iv x0_0,Φ x0_1,bv x0_2,Φ x0_3,bv x0_4,Φ x0_5],iv 40,iv 8] [] [.b,.E] λb1=>
 br b1
 (br (A.lt 6 ↑(Bb x1))
 (Δ ((bv U,[])))
 (br (A.lt 6 ↑(Bb x2))
 (Δ ((bv U,[])))
 (Ag D (Key.lp 10 0) [Φ x1,Φ x2,iv x3,ψ 0 0,Φ x2,iv ↑(Bb x2),iv 0] [bk [iv x0_0,Φ x0_1,bv x0_2,Φ x0_3,bv x0_4,Φ x0_5]] [.t,.C,.x,.X,.Y] λc l o2=>
 br (Bg 0 c)
 (dk [.B,.N,.D,.E] [.l l,.o o2] λb2=>
 Δ ((bv b2,[])))
 (br (Bg 1 c)
 (dk [.L,.L,.I,.P 0 0,.N,.T,.I,.L,.B,.L,.B,.L,.N,.E] [.l l,.o o2] λxs xs1 n n1 xs2 b2 xs3 b3 xs4=>
 Ag D (ω 43) [ξ [iv n1,Φ xs2,bv b2,Φ xs3,bv b3,Φ xs4],Φ xs,Φ xs1] [] [.a,.I,.L,.B,.L,.B,.L,.N,.E] λn2 xs5 b4 xs6 b5 xs7=>
 Ag D (ω 44) [ξ [iv n1,Φ xs2,bv b2,Φ xs3,bv b3,Φ xs4],Φ xs,Φ xs1] [] [.a,.I,.L,.B,.L,.B,.L,.N,.E] λn3 xs8 b6 xs9 b7 xs10=>
 Ag D (ω 38) [ξ [iv n2,Φ xs5,bv b4,Φ xs6,bv b5,Φ xs7],ξ [iv n3,Φ xs8,bv b6,Φ xs9,bv b7,Φ xs10]] [] [.b,.E] λb8=>
 br b8
 (Ag D (ω 45) [ξ [iv n1,Φ xs2,bv b2,Φ xs3,bv b3,Φ xs4],iv n] [] [.a,.I,.L,.B,.L,.B,.L,.N,.E] λn4 xs11 b9 xs12 b10 xs13=>
 Ag D (ω 46) [ξ [iv n1,Φ xs2,bv b2,Φ xs3,bv b3,Φ xs4],iv n] [] [.a,.I,.L,.B,.L,.B,.L,.N,.E] λn5 xs14 b11 xs15 b12 xs16=>
 Ag D (ω 38) [ξ [iv n4,Φ xs11,bv b9,Φ xs12,bv b10,Φ xs13],ξ [iv n5,Φ xs14,bv b11,Φ xs15,bv b12,Φ xs16]] [] [.b,.E] λb13=>
 br b13
 (Δ ((bv U,[])))
 (Δ ((bv Ξ,[]))))
 (Δ ((bv Ξ,[]))))
 (none)))))
 (Δ ((bv U,[]))))
 (Δ ((bv Ξ,[]))):=by kernel_rfl
theorem ZQ(t1 t2:Rw)(t3 b4_0:Int)(b4_1:Rw)(b4_2:Bool)(b4_3:Rw)(b4_4:Bool)(b4_5 t26:Rw)(t27 t28:Int):C2 A D Aq Sk .n 10 0 (AN Wg 0).fst (AN Wg 0).snd [Φ t1,Φ t2,iv t3,ψ 0 0,Φ t26,iv t27,iv t28] [bk [iv b4_0,Φ b4_1,bv b4_2,Φ b4_3,bv b4_4,Φ b4_5]] =
 br (A.lt t28 t27)
 (unI t28 λi=>
 Bh t26 i λcs=>
 dk [.L,.B,.L,.N] [.l cs] λxs b xs1=>
 Ag D (ω 16) [Φ [[Φ xs,bv b,Φ xs1,bv Ξ]],iv 1,iv 8] [] [.b,.E] λb1=>
 br b1
 (AT D (Key.lp 10 0) [Φ t1,Φ t2,iv t3,ψ 0 0,Φ t26,iv t27,iv (A.add IntKind.i64 t28 1)] [bk [iv b4_0,Φ b4_1,bv b4_2,Φ b4_3,bv b4_4,Φ b4_5]] λr1 o1=>
 AI 1 [0] (AH.mk [(0,bk [iv b4_0,Φ b4_1,bv b4_2,Φ b4_3,bv b4_4,Φ b4_5]),(2,ABlk.mk [Φ xs,bv b,Φ xs1,bv Ξ] Ξ U),(1,bk [Φ xs,bv b,Φ xs1])] 3 none) [0] r1 o1)
 (Δ ((AV.tup [bv U,bv U],[BO.del]))))
 (Δ ((AV.tup [iv 0,Φ t1,Φ t2,iv t3,ψ 0 0],[BO.set (bk [iv b4_0,Φ b4_1,bv b4_2,Φ b4_3,bv b4_4,Φ b4_5])]))):=by kernel_rfl
end
open Go.RowKit
def Ri:List (List (Nat × MFn)):=[VE]
def Uw:List (Nat × DF):=[(34,(AB Ah Oo).ask (.fn 34)),(43,(AB Ah Ol).ask (.fn 43)),(45,(AB Ah Om).ask (.fn 45)),(44,(AB Ah Jg).ask (.fn 44)),(46,(AB Ah Jg).ask (.fn 46)),(38,(AB Ah CE).ask (.fn 38)),(35,(AB Ah CE).ask (.fn 35)),(16,(AB Ah CE).ask (.fn 16))]
def Vp:Seat:=CU Aq Ri.flatten Uw
def DP6:Orc:=AB Ah Vp
set_option maxRecDepth 100000 in
theorem AnE:Dp ζ Bn Ri:=by
 repeat' first|exact trivial|refine⟨⟨_,_,_,rfl⟩,by kernel_rfl,?_⟩|refine⟨?_,?_⟩
theorem AnU:(Da Ri&&Fk Ri.flatten Uw)=U:=by kernel_rfl
theorem AlC:Knows Aq VE DP6:=BD AnU (i:=0) rfl
section
variable {args:Aa} {bs:List ABlk} {r:AV × List BO}
theorem AiK(h:((AB Ah Oo).ask (.fn 34)) args bs=Δ r):DP6.ask (.fn 34) args bs=Δ r:=AF rfl h
theorem Y9(h:((AB Ah Ol).ask (.fn 43)) args bs=Δ r):DP6.ask (.fn 43) args bs=Δ r:=AF rfl h
theorem AiL(h:((AB Ah Om).ask (.fn 45)) args bs=Δ r):DP6.ask (.fn 45) args bs=Δ r:=AF rfl h
theorem AiO(h:((AB Ah Jg).ask (.fn 44)) args bs=Δ r):DP6.ask (.fn 44) args bs=Δ r:=AF rfl h
theorem Adg(h:((AB Ah Jg).ask (.fn 46)) args bs=Δ r):DP6.ask (.fn 46) args bs=Δ r:=AF rfl h
theorem AiP(h:((AB Ah CE).ask (.fn 38)) args bs=Δ r):DP6.ask (.fn 38) args bs=Δ r:=AF rfl h
theorem Anf(h:((AB Ah CE).ask (.fn 35)) args bs=Δ r):DP6.ask (.fn 35) args bs=Δ r:=AF rfl h
theorem AiH(h:((AB Ah CE).ask (.fn 16)) args bs=Δ r):DP6.ask (.fn 16) args bs=Δ r:=AF rfl h
end
theorem Yz(h:Dr ζ Uw):SeatOk ζ Bn Vp:=Cx GW Cv AnE h

def WT:List (Nat × MFn):=[(111,Wh)]
section
open Go.RowKit
variable (A:Ar) (D:Orc)
end
section
open Go.RowKit
variable (A:Ar) (D:Orc)
end
section
open Go.RowKit
variable (A:Ar) (D:Orc)
end

