/- A seat of D: tables of f -/
import Derived.Test.YtpncilciembjdaaGreatDoorEBR
set_option linter.all false
namespace Go.Proofs.YtpncilciembjdaaGreatDoor
noncomputable section
open Tryz renaming prog->ArP
open Go.RowKit
def SM:List (List (Nat × MFn)):=[QY,Ys,AdZ,Q0,QZ,Yr,Yq,WR]
def VP:List (Nat × DF):=[(15,(AL Ae Pk).ask (.fn 15)),(32,(AL Ae Pm).ask (.fn 32)),(17,(AL Ae LW).ask (.fn 17)),(33,Jr (CN (EO Ix)))]
def WI:Seat:=ER At SM.flatten VP
def YI:Orc:=AL Ae WI
set_option maxRecDepth 100000 in
theorem AmA:Fy ArP Bx SM:=by
 repeat' first|exact trivial|refine⟨⟨_,_,_,rfl⟩,by kernel_rfl,?_⟩|refine⟨?_,?_⟩
theorem NC:(Ei SM&&Ib SM.flatten VP)=true:=by kernel_rfl
theorem AnM:Knows At QY YI:=Bh NC (i:=0) rfl
theorem AnQ:Knows At Ys YI:=Bh NC (i:=1) rfl
theorem AnO:Knows At Q0 YI:=Bh NC (i:=3) rfl
theorem AnN:Knows At QZ YI:=Bh NC (i:=4) rfl
theorem AnP:Knows At Yr YI:=Bh NC (i:=5) rfl
theorem AnF:Knows At Yq YI:=Bh NC (i:=6) rfl
theorem Ak3:Knows At WR YI:=Bh NC (i:=7) rfl
section
variable {args:List AV} {bs:List ABlk} {r:AV × List BO}
theorem Amk(h:((AL Ae Pk).ask (.fn 15)) args bs=some r):YI.ask (.fn 15) args bs=some r:=AE rfl h
theorem WZ(h:((AL Ae Pm).ask (.fn 32)) args bs=some r):YI.ask (.fn 32) args bs=some r:=AE rfl h
theorem Aep(h:((AL Ae LW).ask (.fn 17)) args bs=some r):YI.ask (.fn 17) args bs=some r:=AE rfl h
theorem Aik(h:(Jr (CN (EO Ix))) args bs=some r):YI.ask (.fn 33) args bs=some r:=AE rfl h
end
theorem Z1(h:Fz ArP VP):SeatOk ArP Bx WI:=D8 OO DW AmA h
