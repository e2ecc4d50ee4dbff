/- A seat of D: tables of f -/
import Derived.Test.YtpncilciembjdaaGreatDoorJAR
set_option linter.all false
open Bool renaming false->Ξ,true->U
open List renaming drop->Atg,take->ε
open Option renaming some->Δ
namespace Go.Proofs.YtpncilciembjdaaGreatDoor
noncomputable section
open ABlk renaming mk->Ψ
open AV renaming agg->ξ,ls->Φ,sl->π,v->Ati
open BO renaming set->Atb
open Key renaming fn->ω
open Tryz renaming prog->ζ
open Go.RowKit
def Re:List (List (Nat × MFn)):=[PV,WW,Es,OA,Tz,ApO,ApP,AcF,AcL]
def Us:List (Nat × DF):=[(236,DS 1 (Ce 1 4)),(135,DS 3 (Ce 3 40)),(262,DS 3 (Dy 40))]
def BN:Seat:=CU Aq Re.flatten Us
def TV:Orc:=AB Ah BN
set_option maxRecDepth 100000 in
theorem AnA:Dp ζ Bn Re:=by
 repeat' first|exact trivial|refine⟨⟨_,_,_,rfl⟩,by kernel_rfl,?_⟩|refine⟨?_,?_⟩
theorem MW:(Da Re&&Fk Re.flatten Us)=U:=by kernel_rfl
theorem AoL:Knows Aq PV TV:=BD MW (i:=0) rfl
theorem AoV:Knows Aq WW TV:=BD MW (i:=1) rfl
theorem NO:Knows Aq Es TV:=BD MW (i:=2) rfl
theorem SI:Knows Aq OA TV:=BD MW (i:=3) rfl
theorem AoT:Knows Aq Tz TV:=BD MW (i:=4) rfl
theorem NN:Knows Aq AcF TV:=BD MW (i:=7) rfl
theorem AoP:Knows Aq AcL TV:=BD MW (i:=8) rfl
section
variable {args:Aa} {bs:List ABlk} {r:AV × List BO}
theorem Y4(h:(DS 1 (Ce 1 4)) args bs=Δ r):TV.ask (.fn 236) args bs=Δ r:=AF rfl h
theorem Y5(h:(DS 3 (Ce 3 40)) args bs=Δ r):TV.ask (.fn 135) args bs=Δ r:=AF rfl h
theorem Ac8(h:(DS 3 (Dy 40)) args bs=Δ r):TV.ask (.fn 262) args bs=Δ r:=AF rfl h
end
theorem Yv(h:Dr ζ Us):SeatOk ζ Bn BN:=Cx GW Cv AnA h
section
open Go.RowKit
def QJ:MFn:=JP ζ Bn [⟨19,(mB 456),[(3,6)],[],[(1,((mB 8),([],[])))]⟩] U Ξ 165
def Nz:Hnt:=⟨[(107,(.agg AL,[]))],[(0,[(1,([.sl 1 6],[.del,.row U]))])],[(10,AL),(11,AL),(13,AL)]⟩
def AcJ:List (Nat × MFn):=[(165,QJ)]
variable (A:Ar) (D:Orc)
theorem Aoa(x0:Rw):BZ A D Aq Nz .n 165 QJ [Φ x0] [] =
 Ag D (Key.lp 165 0) [π 0 0 0 6,Φ x0,iv ↑(Bb x0),iv 0] [Ψ [] U U] [.t,.C,.x,.X,.Y] λc l o=>
 br (Bg 1 c)
 (dk [.C,.q 1 6,.N,.D,.R,.X,.E] [.l l,.o o] λn cs1=>
 Δ ((π 0 0 n 6,[Atb (Ψ cs1 U U)])))
 (none):=by kernel_rfl
theorem VX(n3:Nat)(c3:Aa)(t6:Rw)(t7 t8:Int):C2 A D Aq Nz .n 165 0 (AN QJ 0).fst (AN QJ 0).snd [π 0 0 n3 6,Φ t6,iv t7,iv t8] [{ cells:=c3,st:=U,ex:=U }] =
 br (A.lt t8 t7)
 (unI t8 λi=>
 Bh t6 i λcs=>
 dk [.I,.L,.B,.L,.B,.L,.N] [.l cs] λn xs b xs1 b1 xs2=>
 Ag D (ω 107) [ξ [iv n,Φ xs,bv b,Φ xs1,bv b1,Φ xs2]] [] [.a,.I,.L,.B,.L,.B,.L,.N,.E] λn1 xs3 b2 xs4 b3 xs5=>
 br (Bo (n3+1) 96) (br ((0+n3*6).ble c3.length) (AT D (Key.lp 165 0) [π 0 0 (n3+1) 6,Φ t6,iv t7,iv (A.add IntKind.i64 t8 1)] [Ψ (Atg 0 (ε (0+n3*6) c3)++[iv n1,Φ xs3,bv b2,Φ xs4,bv b3,Φ xs5]) U U] λr1 o1=>
 AI 1 [3] (AH.mk [(3,Ψ (Atg 0 (ε (0+n3*6) c3)++[iv n1,Φ xs3,bv b2,Φ xs4,bv b3,Φ xs5]) U U),(2,Ψ [iv n1,Φ xs3,bv b2,Φ xs4,bv b3,Φ xs5] U U),(1,bk [iv n,Φ xs,bv b,Φ xs1,bv b1,Φ xs2])] 4 none) [0] r1 o1) none) none)
 (Δ ((AV.tup [iv 0,π 1 0 n3 6],[BO.del,Atb (Ψ c3 U U)]))):=by kernel_rfl
end
def Rg:List (List (Nat × MFn)):=[AcJ]
def Uu:List (Nat × DF):=[(107,(AB Ah BN).ask (.fn 107))]
def Ok:Seat:=CU Aq Rg.flatten Uu
def DP3:Orc:=AB Ah Ok
set_option maxRecDepth 100000 in
theorem AnC:Dp ζ Bn Rg:=by
 repeat' first|exact trivial|refine⟨⟨_,_,_,rfl⟩,by kernel_rfl,?_⟩|refine⟨?_,?_⟩
theorem AnS:(Da Rg&&Fk Rg.flatten Uu)=U:=by kernel_rfl
theorem AjX:Knows Aq AcJ DP3:=BD AnS (i:=0) rfl
section
variable {args:Aa} {bs:List ABlk} {r:AV × List BO}
theorem TN(h:((AB Ah BN).ask (.fn 107)) args bs=Δ r):DP3.ask (.fn 107) args bs=Δ r:=AF rfl h
end
theorem Yx(h:Dr ζ Uu):SeatOk ζ Bn Ok:=Cx GW Cv AnC h
section
open Go.RowKit
def Abk:MFn:=JP ζ Bn [] U Ξ 107
def UK:Hnt:=⟨[(95,(.agg AL,[])),(98,(.agg AL,[])),(165,(.sl 0 6,[.row U])),(166,(.ls,[]))],[],[(4,[.int .i64]),(11,Er),(18,[.int .i64]),(19,AL)]⟩
def AcK:List (Nat × MFn):=[(107,Abk)]
variable (A:Ar) (D:Orc)
theorem Ai3(x0_0:Int)(x0_1:Rw)(x0_2:Bool)(x0_3:Rw)(x0_4:Bool)(x0_5:Rw):BZ A D Aq UK .n 107 Abk [ξ [iv x0_0,Φ x0_1,bv x0_2,Φ x0_3,bv x0_4,Φ x0_5]] [] =
 br (A.eq x0_0 0)
 (Ag D (ω 95) [bv U] [] [.a,.I,.L,.B,.L,.B,.L,.N,.E] λn xs b xs1 b1 xs2=>
 Δ ((ξ [iv n,Φ xs,bv b,Φ xs1,bv b1,Φ xs2],[])))
 (br (A.eq x0_0 2)
 (Ag D (ω 98) [ξ [Φ x0_1,bv x0_2,Φ x0_3,bv x0_4]] [] [.a,.I,.L,.B,.L,.B,.L,.N,.E] λn xs b xs1 b1 xs2=>
 Δ ((ξ [iv n,Φ xs,bv b,Φ xs1,bv b1,Φ xs2],[])))
 (br (A.eq x0_0 3)
 (Ag D (ω 166) [ξ [iv x0_0,Φ x0_1,bv x0_2,Φ x0_3,bv x0_4,Φ x0_5]] [] [.l,.E] λxs=>
 Ag D (ω 165) [Φ xs] [] [.q 0 6,.R,.X,.E] λn cs=>
 Δ ((ξ [iv x0_0,Ati (Value.slice none 0 0),bv Ξ,Ati (Value.slice none 0 0),bv Ξ,π 0 0 n 6],[Atb (Ψ cs U U)])))
 (br (A.eq x0_0 4)
 (Ag D (ω 166) [ξ [iv x0_0,Φ x0_1,bv x0_2,Φ x0_3,bv x0_4,Φ x0_5]] [] [.l,.E] λxs=>
 Ag D (ω 165) [Φ xs] [] [.q 0 6,.R,.X,.E] λn cs=>
 Δ ((ξ [iv x0_0,Ati (Value.slice none 0 0),bv Ξ,Ati (Value.slice none 0 0),bv Ξ,π 0 0 n 6],[Atb (Ψ cs U U)])))
 (br (A.eq x0_0 5)
 (Ag D (ω 166) [ξ [iv x0_0,Φ x0_1,bv x0_2,Φ x0_3,bv x0_4,Φ x0_5]] [] [.l,.E] λxs=>
 Ag D (ω 165) [Φ xs] [] [.q 0 6,.R,.X,.E] λn cs=>
 Δ ((ξ [iv x0_0,Ati (Value.slice none 0 0),bv Ξ,Ati (Value.slice none 0 0),bv Ξ,π 0 0 n 6],[Atb (Ψ cs U U)])))
 (Ag D (ω 95) [bv Ξ] [] [.a,.I,.L,.B,.L,.B,.L,.N,.E] λn xs b xs1 b1 xs2=>
 Δ ((ξ [iv n,Φ xs,bv b,Φ xs1,bv b1,Φ xs2],[]))))))):=by kernel_rfl
end
def Rf:List (List (Nat × MFn)):=[AcK]
def Ut:List (Nat × DF):=[(165,(AB Ah Ok).ask (.fn 165)),(166,(AB Ah BN).ask (.fn 166)),(95,(AB Ah BN).ask (.fn 95)),(98,(AB Ah BN).ask (.fn 98))]
def Jf:Seat:=CU Aq Rf.flatten Ut
def DP2:Orc:=AB Ah Jf
set_option maxRecDepth 100000 in
theorem AnB:Dp ζ Bn Rf:=by
 repeat' first|exact trivial|refine⟨⟨_,_,_,rfl⟩,by kernel_rfl,?_⟩|refine⟨?_,?_⟩
theorem AnR:(Da Rf&&Fk Rf.flatten Ut)=U:=by kernel_rfl
theorem V9:Knows Aq AcK DP2:=BD AnR (i:=0) rfl
section
variable {args:Aa} {bs:List ABlk} {r:AV × List BO}
theorem P9(h:((AB Ah Ok).ask (.fn 165)) args bs=Δ r):DP2.ask (.fn 165) args bs=Δ r:=AF rfl h
theorem WZ(h:((AB Ah BN).ask (.fn 166)) args bs=Δ r):DP2.ask (.fn 166) args bs=Δ r:=AF rfl h
theorem TR(h:((AB Ah BN).ask (.fn 95)) args bs=Δ r):DP2.ask (.fn 95) args bs=Δ r:=AF rfl h
theorem AkG(h:((AB Ah BN).ask (.fn 98)) args bs=Δ r):DP2.ask (.fn 98) args bs=Δ r:=AF rfl h
end
theorem Yw(h:Dr ζ Ut):SeatOk ζ Bn Jf:=Cx GW Cv AnB h
