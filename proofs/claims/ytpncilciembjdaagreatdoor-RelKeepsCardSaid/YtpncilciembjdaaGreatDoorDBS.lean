/- A seat of D: tables of f -/
import Derived.Test.YtpncilciembjdaaGreatDoorDBR
set_option linter.all false
open Option renaming some->Θ
namespace Go.Proofs.YtpncilciembjdaaGreatDoor
noncomputable section
open Tryz renaming prog->υ
open Go.RowKit
def Sj:List (List (Nat × MFn)):=[XR,Uy,Wp]
def Vq:List (Nat × DF):=[(15,(AD Ad OR).ask (.fn 15)),(32,(AD Ad OS).ask (.fn 32)),(17,(AD Ad FW).ask (.fn 17)),(30,(AD Ad FW).ask (.fn 30)),(25,(AD Ad FW).ask (.fn 25)),(33,Ji (CJ (ED G6)))]
def Wg:Seat:=EI Av Sj.flatten Vq
def DKe:Orc:=AD Ad Wg
set_option maxRecDepth 100000 in
theorem Alt:Fu υ Bn Sj:=by
 repeat' first|exact trivial|refine⟨⟨_,_,_,rfl⟩,by kernel_rfl,?_⟩|refine⟨?_,?_⟩
theorem Aai:(D7 Sj&&HD Sj.flatten Vq)=true:=by kernel_rfl
theorem Amt:Knows Av XR DKe:=Be Aai (i:=0) rfl
theorem AmA:Knows Av Uy DKe:=Be Aai (i:=1) rfl
theorem AjV:Knows Av Wp DKe:=Be Aai (i:=2) rfl
section
variable {args:List AV} {bs:List ABlk} {r:AV × List BO}
theorem Alc(h:((AD Ad OR).ask (.fn 15)) args bs=Θ r):DKe.ask (.fn 15) args bs=Θ r:=AA rfl h
theorem Wz(h:((AD Ad OS).ask (.fn 32)) args bs=Θ r):DKe.ask (.fn 32) args bs=Θ r:=AA rfl h
theorem Adx(h:((AD Ad FW).ask (.fn 17)) args bs=Θ r):DKe.ask (.fn 17) args bs=Θ r:=AA rfl h
theorem Adu(h:((AD Ad FW).ask (.fn 30)) args bs=Θ r):DKe.ask (.fn 30) args bs=Θ r:=AA rfl h
theorem Ak7(h:((AD Ad FW).ask (.fn 25)) args bs=Θ r):DKe.ask (.fn 25) args bs=Θ r:=AA rfl h
theorem Ahr(h:(Ji (CJ (ED G6))) args bs=Θ r):DKe.ask (.fn 33) args bs=Θ r:=AA rfl h
end
theorem Zl(h:Fv υ Vq):SeatOk υ Bn Wg:=DX Og DP Alt h
