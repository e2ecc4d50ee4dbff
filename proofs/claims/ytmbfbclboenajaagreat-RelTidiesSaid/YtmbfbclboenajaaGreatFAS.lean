/- A seat of D: tables of f -/
import Derived.Test.YtmbfbclboenajaaGreatFAR
set_option linter.all false
namespace Go.Proofs.YtmbfbclboenajaaGreat
noncomputable section
open Tryz renaming prog->Aq1
open Go.RowKit
def SS:List (List (Nat × MFn)):=[Jk]
def VX:List (Nat × DF):=[(130,Dz 1 (BF 1 4))]
def G0:Seat:=FO DA SS.flatten VX
def DDv:Orc:=AY Af G0
set_option maxRecDepth 100000 in
theorem AkG:Ha Aq1 BP SS:=by
 repeat' first|exact trivial|refine⟨⟨_,_,_,rfl⟩,by kernel_rfl,?_⟩|refine⟨?_,?_⟩
theorem AkO:(EM SS&&Je SS.flatten VX)=true:=by kernel_rfl
theorem Aml:Knows DA Jk DDv:=Bg AkO (i:=0) rfl
section
variable {args:List AV} {bs:List ABlk} {r:AV × List BO}
theorem Aar(h:(Dz 1 (BF 1 4)) args bs=some r):DDv.ask (.fn 130) args bs=some r:=Bq rfl h
end
theorem Z1(h:Hb Aq1 VX):SeatOk Aq1 BP G0:=EZ Sn ER AkG h
theorem Aa5:CloneF DDv where
 nat l h:=Aar (IF h)
theorem US:SeatOk Aq1 BP G0:=Z1 ⟨Ga,trivial⟩
theorem Aln(f:Nat):BS (B5 Aq1 f) ((AY Af G0).ask (.fn f)):=DX US f
theorem Any{a b:List Nat}(ha:Limbs a)(hal:a.length<=999999990)(hb:Limbs b)(hbl:b.length<=999999990):(AY Af G0).ask (.fn 70) [eN a,eN b] []
  = some (if Ad b=0 then .tup [.ls [],.ls [],iv 10] else .tup [eN (Ai (Ad a / Ad b)),eN (Ai (Ad a % Ad b)),iv 0],[]):=AiC Aml Aa5 ha hal hb hbl
