/- A seat of D: tables of f -/
import Derived.Test.YtpncilciembjdaaGreatDoorBBO
set_option linter.all false
namespace Go.Proofs.YtpncilciembjdaaGreatDoor
noncomputable section
open Tryz renaming prog->ψ
open Go.RowKit
def ZJ:List (Nat × MFn):=ZC
def SD:List (Nat × DF):=[(55,Ch 55),(28,Ch 28),(27,Ch 27),(17,Ch 17),(21,Ch 21),(56,Ch 56),(30,Ch 30),(26,Ch 26),(25,Ch 25),(57,Ch 57),(23,Ch 23),(58,Ch 58),(59,Ch 59),(61,Ch 61),(60,Ch 60)]
def Io:Seat:=Ht As ZJ SD
def P7:Orc:=AC Ag Io
set_option maxRecDepth 100000 in
theorem Aax:BI ψ Bb ZC:=⟨⟨_,_,_,rfl⟩,by kernel_rfl,trivial⟩
theorem UV:BI ψ Bb ZJ:=Aax
set_option maxRecDepth 100000 in
theorem XJ:Ex ψ Bb:=ED (n:=310) (by kernel_rfl)
theorem Ak4:Knows As ZC P7:=Bq (λ_ _ h=>h) (by kernel_rfl)
theorem GZ{args:List AV}{bs:List ABlk}{r:AV × List BO}(h:(Ch 55:DF) args bs=some r):P7.ask (.fn 55) args bs=some r:=A4 (d:=Ch 55) rfl h
theorem Je{args:List AV}{bs:List ABlk}{r:AV × List BO}(h:(Ch 28:DF) args bs=some r):P7.ask (.fn 28) args bs=some r:=A4 (d:=Ch 28) rfl h
theorem UL{args:List AV}{bs:List ABlk}{r:AV × List BO}(h:(Ch 27:DF) args bs=some r):P7.ask (.fn 27) args bs=some r:=A4 (d:=Ch 27) rfl h
theorem Nm{args:List AV}{bs:List ABlk}{r:AV × List BO}(h:(Ch 17:DF) args bs=some r):P7.ask (.fn 17) args bs=some r:=A4 (d:=Ch 17) rfl h
theorem Nl{args:List AV}{bs:List ABlk}{r:AV × List BO}(h:(Ch 21:DF) args bs=some r):P7.ask (.fn 21) args bs=some r:=A4 (d:=Ch 21) rfl h
theorem Ajh{args:List AV}{bs:List ABlk}{r:AV × List BO}(h:(Ch 56:DF) args bs=some r):P7.ask (.fn 56) args bs=some r:=A4 (d:=Ch 56) rfl h
theorem R0{args:List AV}{bs:List ABlk}{r:AV × List BO}(h:(Ch 30:DF) args bs=some r):P7.ask (.fn 30) args bs=some r:=A4 (d:=Ch 30) rfl h
theorem Afa{args:List AV}{bs:List ABlk}{r:AV × List BO}(h:(Ch 26:DF) args bs=some r):P7.ask (.fn 26) args bs=some r:=A4 (d:=Ch 26) rfl h
theorem Ajf{args:List AV}{bs:List ABlk}{r:AV × List BO}(h:(Ch 25:DF) args bs=some r):P7.ask (.fn 25) args bs=some r:=A4 (d:=Ch 25) rfl h
theorem Afb{args:List AV}{bs:List ABlk}{r:AV × List BO}(h:(Ch 57:DF) args bs=some r):P7.ask (.fn 57) args bs=some r:=A4 (d:=Ch 57) rfl h
theorem Ae6{args:List AV}{bs:List ABlk}{r:AV × List BO}(h:(Ch 23:DF) args bs=some r):P7.ask (.fn 23) args bs=some r:=A4 (d:=Ch 23) rfl h
theorem Ajg{args:List AV}{bs:List ABlk}{r:AV × List BO}(h:(Ch 58:DF) args bs=some r):P7.ask (.fn 58) args bs=some r:=A4 (d:=Ch 58) rfl h
theorem Wu{args:List AV}{bs:List ABlk}{r:AV × List BO}(h:(Ch 59:DF) args bs=some r):P7.ask (.fn 59) args bs=some r:=A4 (d:=Ch 59) rfl h
theorem Ae7{args:List AV}{bs:List ABlk}{r:AV × List BO}(h:(Ch 61:DF) args bs=some r):P7.ask (.fn 61) args bs=some r:=A4 (d:=Ch 61) rfl h
theorem Afc{args:List AV}{bs:List ABlk}{r:AV × List BO}(h:(Ch 60:DF) args bs=some r):P7.ask (.fn 60) args bs=some r:=A4 (d:=Ch 60) rfl h
theorem V5(hOf:AW (Ba ψ 55) (Ch 55))(hLeast:AW (Ba ψ 28) (Ch 28))(hZero:AW (Ba ψ 27) (Ch 27))(hTight:AW (Ba ψ 17) (Ch 17))(hRSame:AW (Ba ψ 21) (Ch 21))(hROf:AW (Ba ψ 56) (Ch 56))(hHolds:AW (Ba ψ 30) (Ch 30))(hSame:AW (Ba ψ 26) (Ch 26))(hCmp:AW (Ba ψ 25) (Ch 25))(hText:AW (Ba ψ 57) (Ch 57))(hDeny:AW (Ba ψ 23) (Ch 23))(hPut:AW (Ba ψ 58) (Ch 58))(hPutAll:AW (Ba ψ 59) (Ch 59))(hMove:AW (Ba ψ 61) (Ch 61))(hVars:AW (Ba ψ 60) (Ch 60)):SeatOk ψ Bb Io where
 mixed:=by kernel_rfl
 ent:=XJ
 fns f mf h:=Dm UV f mf (BN h)
 ext f d h:=by
  have hm:(f,d)∈SD:=BN h;unfold SD at hm;simp only[List.mem_cons,Prod.mk.injEq,List.not_mem_nil,or_false]at hm;rcases hm with⟨rfl,rfl⟩|⟨rfl,rfl⟩|⟨rfl,rfl⟩|⟨rfl,rfl⟩|⟨rfl,rfl⟩|⟨rfl,rfl⟩|⟨rfl,rfl⟩|⟨rfl,rfl⟩|⟨rfl,rfl⟩|⟨rfl,rfl⟩|⟨rfl,rfl⟩|⟨rfl,rfl⟩|⟨rfl,rfl⟩|⟨rfl,rfl⟩|⟨rfl,rfl⟩
  .exact hOf
  .exact hLeast
  .exact hZero
  .exact hTight
  .exact hRSame
  .exact hROf
  .exact hHolds
  .exact hSame
  .exact hCmp
  .exact hText
  .exact hDeny
  .exact hPut
  .exact hPutAll
  .exact hMove
  .exact hVars
end
end Go.Proofs.YtpncilciembjdaaGreatDoor
