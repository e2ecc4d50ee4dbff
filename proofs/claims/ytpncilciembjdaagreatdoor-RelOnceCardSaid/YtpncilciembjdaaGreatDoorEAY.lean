/- A seat of D: tables of f -/
import Derived.Test.YtpncilciembjdaaGreatDoorEAX
set_option linter.all false
open Option renaming some->Θ
namespace Go.Proofs.YtpncilciembjdaaGreatDoor
noncomputable section
open Tryz renaming prog->ArP
open Go.RowKit
def SN:List (List (Nat × MFn)):=[UZ]
def VQ:List (Nat × DF):=[(135,FY 3 40),(145,(AL Ae BT).ask (.fn 145)),(161,(AL Ae BT).ask (.fn 161)),(64,(AL Ae BT).ask (.fn 64)),(126,(AL Ae BT).ask (.fn 126)),(155,(AL Ae BT).ask (.fn 155)),(139,(AL Ae BT).ask (.fn 139)),(158,(AL Ae BT).ask (.fn 158)),(143,(AL Ae BT).ask (.fn 143)),(147,(AL Ae BT).ask (.fn 147)),(66,(AL Ae BT).ask (.fn 66)),(138,(AL Ae BT).ask (.fn 138)),(136,(AL Ae BT).ask (.fn 136)),(140,(AL Ae BT).ask (.fn 140))]
def LU:Seat:=ER MW SN.flatten VQ
def PJ:Orc:=AL Ae LU
set_option maxRecDepth 100000 in
theorem AmB:Fy ArP Bx SN:=by
 repeat' first|exact trivial|refine⟨⟨_,_,_,rfl⟩,by kernel_rfl,?_⟩|refine⟨?_,?_⟩
theorem AmJ:(Ei SN&&Ib SN.flatten VQ)=true:=by kernel_rfl
theorem Acl:Knows MW UZ PJ:=Bh AmJ (i:=0) rfl
section
variable {args:List AV} {bs:List ABlk} {r:AV × List BO}
theorem Rf(h:(FY 3 40) args bs=Θ r):PJ.ask (.fn 135) args bs=Θ r:=AE rfl h
theorem Aeq(h:((AL Ae BT).ask (.fn 145)) args bs=Θ r):PJ.ask (.fn 145) args bs=Θ r:=AE rfl h
theorem Air(h:((AL Ae BT).ask (.fn 161)) args bs=Θ r):PJ.ask (.fn 161) args bs=Θ r:=AE rfl h
theorem Aer(h:((AL Ae BT).ask (.fn 64)) args bs=Θ r):PJ.ask (.fn 64) args bs=Θ r:=AE rfl h
theorem Aml(h:((AL Ae BT).ask (.fn 126)) args bs=Θ r):PJ.ask (.fn 126) args bs=Θ r:=AE rfl h
theorem Ain(h:((AL Ae BT).ask (.fn 155)) args bs=Θ r):PJ.ask (.fn 155) args bs=Θ r:=AE rfl h
theorem Aim(h:((AL Ae BT).ask (.fn 139)) args bs=Θ r):PJ.ask (.fn 139) args bs=Θ r:=AE rfl h
theorem Aiq(h:((AL Ae BT).ask (.fn 158)) args bs=Θ r):PJ.ask (.fn 158) args bs=Θ r:=AE rfl h
theorem AaE(h:((AL Ae BT).ask (.fn 143)) args bs=Θ r):PJ.ask (.fn 143) args bs=Θ r:=AE rfl h
theorem Aip(h:((AL Ae BT).ask (.fn 147)) args bs=Θ r):PJ.ask (.fn 147) args bs=Θ r:=AE rfl h
theorem Aio(h:((AL Ae BT).ask (.fn 66)) args bs=Θ r):PJ.ask (.fn 66) args bs=Θ r:=AE rfl h
theorem AaB(h:((AL Ae BT).ask (.fn 138)) args bs=Θ r):PJ.ask (.fn 138) args bs=Θ r:=AE rfl h
theorem Aeo(h:((AL Ae BT).ask (.fn 136)) args bs=Θ r):PJ.ask (.fn 136) args bs=Θ r:=AE rfl h
theorem Aid(h:((AL Ae BT).ask (.fn 140)) args bs=Θ r):PJ.ask (.fn 140) args bs=Θ r:=AE rfl h
end
theorem Z2(h:Fz ArP VQ):SeatOk ArP Bx LU:=D8 OO DW AmB h
