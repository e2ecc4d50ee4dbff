/- A seat of D: tables of f -/
import Derived.Test.YtmbfbclboenajaaGreatFBC
set_option linter.all false
namespace Go.Proofs.YtmbfbclboenajaaGreat
noncomputable section
open Tryz renaming prog->Aq1
open Go.RowKit
def SR:List (List (Nat × MFn)):=[Hi,Jl,Ed,FP,Ld]
def VW:List (Nat × DF):=[(130,Dz 1 (BF 1 4)),(59,Dz 3 (BF 3 40)),(138,Dz 3 (FN 40))]
def Mg:Seat:=FO Al SR.flatten VW
def DCp:Orc:=AY Af Mg
set_option maxRecDepth 100000 in
theorem AkF:Ha Aq1 BP SR:=by
 repeat' first|exact trivial|refine⟨⟨_,_,_,rfl⟩,by kernel_rfl,?_⟩|refine⟨?_,?_⟩
theorem Ti:(EM SR&&Je SR.flatten VW)=true:=by kernel_rfl
theorem Amk:Knows Al Hi DCp:=Bg Ti (i:=0) rfl
theorem AmD:Knows Al Jl DCp:=Bg Ti (i:=1) rfl
theorem Amx:Knows Al Ed DCp:=Bg Ti (i:=2) rfl
theorem AmA:Knows Al FP DCp:=Bg Ti (i:=3) rfl
theorem Ami:Knows Al Ld DCp:=Bg Ti (i:=4) rfl
section
variable {args:List AV} {bs:List ABlk} {r:AV × List BO}
theorem Aaq(h:(Dz 1 (BF 1 4)) args bs=some r):DCp.ask (.fn 130) args bs=some r:=Bq rfl h
theorem Aau(h:(Dz 3 (BF 3 40)) args bs=some r):DCp.ask (.fn 59) args bs=some r:=Bq rfl h
theorem Aeg(h:(Dz 3 (FN 40)) args bs=some r):DCp.ask (.fn 138) args bs=some r:=Bq rfl h
end
theorem Z0(h:Hb Aq1 VW):SeatOk Aq1 BP Mg:=EZ Sn ER AkF h
