/- A seat of D: tables of f -/
import Derived.Test.YtmbfbclboenajaaGreatFBA
set_option linter.all false
open Option renaming some->Θ
namespace Go.Proofs.YtmbfbclboenajaaGreat
noncomputable section
open Tryz renaming prog->Aq1
open Go.RowKit
def SV:List (List (Nat × MFn)):=[U9]
def VZ:List (Nat × DF):=[(59,GM 3 40),(71,(AY Af B4).ask (.fn 71)),(39,(AY Af B4).ask (.fn 39)),(30,(AY Af B4).ask (.fn 30)),(73,(AY Af B4).ask (.fn 73)),(41,(AY Af B4).ask (.fn 41)),(63,(AY Af B4).ask (.fn 63)),(114,(AY Af B4).ask (.fn 114)),(69,(AY Af B4).ask (.fn 69)),(74,(AY Af B4).ask (.fn 74)),(32,(AY Af B4).ask (.fn 32)),(62,(AY Af B4).ask (.fn 62)),(60,(AY Af B4).ask (.fn 60)),(64,(AY Af B4).ask (.fn 64))]
def Mh:Seat:=FO Nb SV.flatten VZ
def PO:Orc:=AY Af Mh
set_option maxRecDepth 100000 in
theorem AkI:Ha Aq1 BP SV:=by
 repeat' first|exact trivial|refine⟨⟨_,_,_,rfl⟩,by kernel_rfl,?_⟩|refine⟨?_,?_⟩
theorem AkP:(EM SV&&Je SV.flatten VZ)=true:=by kernel_rfl
theorem Acl:Knows Nb U9 PO:=Bg AkP (i:=0) rfl
section
variable {args:List AV} {bs:List ABlk} {r:AV × List BO}
theorem Rk(h:(GM 3 40) args bs=Θ r):PO.ask (.fn 59) args bs=Θ r:=Bq rfl h
theorem Aek(h:((AY Af B4).ask (.fn 71)) args bs=Θ r):PO.ask (.fn 71) args bs=Θ r:=Bq rfl h
theorem Ag9(h:((AY Af B4).ask (.fn 39)) args bs=Θ r):PO.ask (.fn 39) args bs=Θ r:=Bq rfl h
theorem Ael(h:((AY Af B4).ask (.fn 30)) args bs=Θ r):PO.ask (.fn 30) args bs=Θ r:=Bq rfl h
theorem Akp(h:((AY Af B4).ask (.fn 73)) args bs=Θ r):PO.ask (.fn 73) args bs=Θ r:=Bq rfl h
theorem Ag5(h:((AY Af B4).ask (.fn 41)) args bs=Θ r):PO.ask (.fn 41) args bs=Θ r:=Bq rfl h
theorem Ag4(h:((AY Af B4).ask (.fn 63)) args bs=Θ r):PO.ask (.fn 63) args bs=Θ r:=Bq rfl h
theorem Ag8(h:((AY Af B4).ask (.fn 114)) args bs=Θ r):PO.ask (.fn 114) args bs=Θ r:=Bq rfl h
theorem Aay(h:((AY Af B4).ask (.fn 69)) args bs=Θ r):PO.ask (.fn 69) args bs=Θ r:=Bq rfl h
theorem Ag7(h:((AY Af B4).ask (.fn 74)) args bs=Θ r):PO.ask (.fn 74) args bs=Θ r:=Bq rfl h
theorem Ag6(h:((AY Af B4).ask (.fn 32)) args bs=Θ r):PO.ask (.fn 32) args bs=Θ r:=Bq rfl h
theorem Aaw(h:((AY Af B4).ask (.fn 62)) args bs=Θ r):PO.ask (.fn 62) args bs=Θ r:=Bq rfl h
theorem Aej(h:((AY Af B4).ask (.fn 60)) args bs=Θ r):PO.ask (.fn 60) args bs=Θ r:=Bq rfl h
theorem Ag0(h:((AY Af B4).ask (.fn 64)) args bs=Θ r):PO.ask (.fn 64) args bs=Θ r:=Bq rfl h
end
theorem Z3(h:Hb Aq1 VZ):SeatOk Aq1 BP Mh:=EZ Sn ER AkI h
