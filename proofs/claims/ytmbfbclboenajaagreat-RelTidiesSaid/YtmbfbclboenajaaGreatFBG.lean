/- A seat of D: tables of f -/
import Derived.Test.YtmbfbclboenajaaGreatFBF
set_option linter.all false
open Option renaming some->Θ
namespace Go.Proofs.YtmbfbclboenajaaGreat
noncomputable section
open Tryz renaming prog->Aq1
open Go.RowKit
def SY:List (List (Nat × MFn)):=[Hi,Jl,Ed,FP,Lh,Q6,Yx,AdX,Ld,Q9,AnY]
def V3:List (Nat × DF):=[(130,Dz 1 (BF 1 4)),(59,Dz 3 (BF 3 40)),(138,Dz 3 (FN 40)),(70,(AY Af G0).ask (.fn 70)),(31,(AY Af Mh).ask (.fn 31)),(15,(AY Af Mi).ask (.fn 15))]
def SG:Seat:=FO Al SY.flatten V3
def ID:Orc:=AY Af SG
set_option maxRecDepth 100000 in
theorem AkL:Ha Aq1 BP SY:=by
 repeat' first|exact trivial|refine⟨⟨_,_,_,rfl⟩,by kernel_rfl,?_⟩|refine⟨?_,?_⟩
theorem I8:(EM SY&&Je SY.flatten V3)=true:=by kernel_rfl
theorem AhT:Knows Al Hi ID:=Bg I8 (i:=0) rfl
theorem Ah1:Knows Al Jl ID:=Bg I8 (i:=1) rfl
theorem AhX:Knows Al Ed ID:=Bg I8 (i:=2) rfl
theorem AhZ:Knows Al FP ID:=Bg I8 (i:=3) rfl
theorem Ah0:Knows Al Lh ID:=Bg I8 (i:=4) rfl
theorem Amm:Knows Al Q6 ID:=Bg I8 (i:=5) rfl
theorem Amy:Knows Al Yx ID:=Bg I8 (i:=6) rfl
theorem AmC:Knows Al AdX ID:=Bg I8 (i:=7) rfl
theorem Amj:Knows Al Ld ID:=Bg I8 (i:=8) rfl
theorem Amz:Knows Al Q9 ID:=Bg I8 (i:=9) rfl
section
variable {args:List AV} {bs:List ABlk} {r:AV × List BO}
theorem Aas(h:(Dz 1 (BF 1 4)) args bs=Θ r):ID.ask (.fn 130) args bs=Θ r:=Bq rfl h
theorem Aav(h:(Dz 3 (BF 3 40)) args bs=Θ r):ID.ask (.fn 59) args bs=Θ r:=Bq rfl h
theorem Aeh(h:(Dz 3 (FN 40)) args bs=Θ r):ID.ask (.fn 138) args bs=Θ r:=Bq rfl h
theorem Ag1(h:((AY Af G0).ask (.fn 70)) args bs=Θ r):ID.ask (.fn 70) args bs=Θ r:=Bq rfl h
theorem Aax(h:((AY Af Mh).ask (.fn 31)) args bs=Θ r):ID.ask (.fn 31) args bs=Θ r:=Bq rfl h
theorem YE(h:((AY Af Mi).ask (.fn 15)) args bs=Θ r):ID.ask (.fn 15) args bs=Θ r:=Bq rfl h
end
theorem Z6(h:Hb Aq1 V3):SeatOk Aq1 BP SG:=EZ Sn ER AkL h
