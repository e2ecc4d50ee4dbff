/- A seat of D: tables of f -/
import Derived.Test.YtmbfbclboenajaaGreatFBR
set_option linter.all false
namespace Go.Proofs.YtmbfbclboenajaaGreat
noncomputable section
open Tryz renaming prog->Aq1
open Go.RowKit
def SU:List (List (Nat × MFn)):=[Lg,Q8,U6,Yu,Hj,GA,U7,Yv,Q7,U8,PA,Yt,W4]
def VY:List (Nat × DF):=[(4,(AY Af Pu).ask (.fn 4)),(6,M8 (CX (EL ID)))]
def WT:Seat:=FO Al SU.flatten VY
def Tc:Orc:=AY Af WT
set_option maxRecDepth 100000 in
theorem AkH:Ha Aq1 BP SU:=by
 repeat' first|exact trivial|refine⟨⟨_,_,_,rfl⟩,by kernel_rfl,?_⟩|refine⟨?_,?_⟩
theorem F8:(EM SU&&Je SU.flatten VY)=true:=by kernel_rfl
theorem AhV:Knows Al Lg Tc:=Bg F8 (i:=0) rfl
theorem AhW:Knows Al Q8 Tc:=Bg F8 (i:=1) rfl
theorem Amq:Knows Al U6 Tc:=Bg F8 (i:=2) rfl
theorem Amo:Knows Al Yu Tc:=Bg F8 (i:=3) rfl
theorem Amp:Knows Al Hj Tc:=Bg F8 (i:=4) rfl
theorem Amt:Knows Al GA Tc:=Bg F8 (i:=5) rfl
theorem Ams:Knows Al U7 Tc:=Bg F8 (i:=6) rfl
theorem Amu:Knows Al Yv Tc:=Bg F8 (i:=7) rfl
theorem Amr:Knows Al Q7 Tc:=Bg F8 (i:=8) rfl
theorem Amv:Knows Al U8 Tc:=Bg F8 (i:=9) rfl
theorem Amw:Knows Al PA Tc:=Bg F8 (i:=10) rfl
theorem Amh:Knows Al Yt Tc:=Bg F8 (i:=11) rfl
theorem Ajp:Knows Al W4 Tc:=Bg F8 (i:=12) rfl
section
variable {args:List AV} {bs:List ABlk} {r:AV × List BO}
theorem Xa(h:((AY Af Pu).ask (.fn 4)) args bs=some r):Tc.ask (.fn 4) args bs=some r:=Bq rfl h
theorem Ag3(h:(M8 (CX (EL ID))) args bs=some r):Tc.ask (.fn 6) args bs=some r:=Bq rfl h
end
theorem Z2(h:Hb Aq1 VY):SeatOk Aq1 BP WT:=EZ Sn ER AkH h
