/-
  A seat of D: tables of functions, and what is told from elsewhere.
-/
import Derived.Test.YtpncilciembjdaaGreatDoorTAO
import Derived.Test.YtpncilciembjdaaGreatDoorTBD
set_option linter.unusedSectionVars false
set_option linter.unusedSimpArgs false
set_option linter.unusedVariables false
namespace Go.Proofs.YtpncilciembjdaaGreatDoor
open Go.RowKit
noncomputable def tabsSy:List (Nat × MFn):=tabSy
noncomputable def extsSy:List (Nat × DF):=[(55,dAw 55),(28,dAw 28),(27,dAw 27),(17,dAw 17),(21,dAw 21),(56,dAw 56),(30,dAw 30),(26,dAw 26),(25,dAw 25),(57,dAw 57),(23,dAw 23),(58,dAw 58),(59,dAw 59),(61,dAw 61),(60,dAw 60)]
noncomputable def seatSy:Seat:=seatD ownC tabsSy extsSy
noncomputable def DSy:Orc:=Dstar realA seatSy
set_option maxRecDepth 100000 in
theorem allSySy:AllFn Tryz.prog entsC tabSy:=⟨⟨_,_,_,rfl⟩,by kernel_rfl,trivial⟩
theorem allTabsSy:AllFn Tryz.prog entsC tabsSy:=allSySy
set_option maxRecDepth 100000 in
theorem entSy_ok:EntOk Tryz.prog entsC:=entOk_of (n:=310) (by kernel_rfl)
theorem kSySy:Knows ownC tabSy DSy:=knows_of (fun _ _ h=>h) (by kernel_rfl)
theorem xOfSy{args:List AV}{bs:List ABlk}{r:AV × List BO}(h:(dAw 55:DF) args bs=some r):DSy.ask (.fn 55) args bs=some r:=star_ext (d:=dAw 55) rfl h
theorem xLeastSy{args:List AV}{bs:List ABlk}{r:AV × List BO}(h:(dAw 28:DF) args bs=some r):DSy.ask (.fn 28) args bs=some r:=star_ext (d:=dAw 28) rfl h
theorem xZeroSy{args:List AV}{bs:List ABlk}{r:AV × List BO}(h:(dAw 27:DF) args bs=some r):DSy.ask (.fn 27) args bs=some r:=star_ext (d:=dAw 27) rfl h
theorem xTightSy{args:List AV}{bs:List ABlk}{r:AV × List BO}(h:(dAw 17:DF) args bs=some r):DSy.ask (.fn 17) args bs=some r:=star_ext (d:=dAw 17) rfl h
theorem xRSameSy{args:List AV}{bs:List ABlk}{r:AV × List BO}(h:(dAw 21:DF) args bs=some r):DSy.ask (.fn 21) args bs=some r:=star_ext (d:=dAw 21) rfl h
theorem xROfSy{args:List AV}{bs:List ABlk}{r:AV × List BO}(h:(dAw 56:DF) args bs=some r):DSy.ask (.fn 56) args bs=some r:=star_ext (d:=dAw 56) rfl h
theorem xHoldsSy{args:List AV}{bs:List ABlk}{r:AV × List BO}(h:(dAw 30:DF) args bs=some r):DSy.ask (.fn 30) args bs=some r:=star_ext (d:=dAw 30) rfl h
theorem xSameSy{args:List AV}{bs:List ABlk}{r:AV × List BO}(h:(dAw 26:DF) args bs=some r):DSy.ask (.fn 26) args bs=some r:=star_ext (d:=dAw 26) rfl h
theorem xCmpSy{args:List AV}{bs:List ABlk}{r:AV × List BO}(h:(dAw 25:DF) args bs=some r):DSy.ask (.fn 25) args bs=some r:=star_ext (d:=dAw 25) rfl h
theorem xTextSy{args:List AV}{bs:List ABlk}{r:AV × List BO}(h:(dAw 57:DF) args bs=some r):DSy.ask (.fn 57) args bs=some r:=star_ext (d:=dAw 57) rfl h
theorem xDenySy{args:List AV}{bs:List ABlk}{r:AV × List BO}(h:(dAw 23:DF) args bs=some r):DSy.ask (.fn 23) args bs=some r:=star_ext (d:=dAw 23) rfl h
theorem xPutSy{args:List AV}{bs:List ABlk}{r:AV × List BO}(h:(dAw 58:DF) args bs=some r):DSy.ask (.fn 58) args bs=some r:=star_ext (d:=dAw 58) rfl h
theorem xPutAllSy{args:List AV}{bs:List ABlk}{r:AV × List BO}(h:(dAw 59:DF) args bs=some r):DSy.ask (.fn 59) args bs=some r:=star_ext (d:=dAw 59) rfl h
theorem xMoveSy{args:List AV}{bs:List ABlk}{r:AV × List BO}(h:(dAw 61:DF) args bs=some r):DSy.ask (.fn 61) args bs=some r:=star_ext (d:=dAw 61) rfl h
theorem xVarsSy{args:List AV}{bs:List ABlk}{r:AV × List BO}(h:(dAw 60:DF) args bs=some r):DSy.ask (.fn 60) args bs=some r:=star_ext (d:=dAw 60) rfl h
theorem seatSy_ok(hOf:GoodD (SemFn Tryz.prog 55) (dAw 55))(hLeast:GoodD (SemFn Tryz.prog 28) (dAw 28))(hZero:GoodD (SemFn Tryz.prog 27) (dAw 27))(hTight:GoodD (SemFn Tryz.prog 17) (dAw 17))(hRSame:GoodD (SemFn Tryz.prog 21) (dAw 21))(hROf:GoodD (SemFn Tryz.prog 56) (dAw 56))(hHolds:GoodD (SemFn Tryz.prog 30) (dAw 30))(hSame:GoodD (SemFn Tryz.prog 26) (dAw 26))(hCmp:GoodD (SemFn Tryz.prog 25) (dAw 25))(hText:GoodD (SemFn Tryz.prog 57) (dAw 57))(hDeny:GoodD (SemFn Tryz.prog 23) (dAw 23))(hPut:GoodD (SemFn Tryz.prog 58) (dAw 58))(hPutAll:GoodD (SemFn Tryz.prog 59) (dAw 59))(hMove:GoodD (SemFn Tryz.prog 61) (dAw 61))(hVars:GoodD (SemFn Tryz.prog 60) (dAw 60)):SeatOk Tryz.prog entsC seatSy where
 mixed:=by kernel_rfl
 ent:=entSy_ok
 fns f mf h:=allFn_mem allTabsSy f mf (findN_mem h)
 ext f d h:=by
  have hm:(f,d)∈extsSy:=findN_mem h
  unfold extsSy at hm
  simp only[List.mem_cons,Prod.mk.injEq,List.not_mem_nil,or_false]at hm
  rcases hm with⟨rfl,rfl⟩|⟨rfl,rfl⟩|⟨rfl,rfl⟩|⟨rfl,rfl⟩|⟨rfl,rfl⟩|⟨rfl,rfl⟩|⟨rfl,rfl⟩|⟨rfl,rfl⟩|⟨rfl,rfl⟩|⟨rfl,rfl⟩|⟨rfl,rfl⟩|⟨rfl,rfl⟩|⟨rfl,rfl⟩|⟨rfl,rfl⟩|⟨rfl,rfl⟩
  .exact hOf
  .exact hLeast
  .exact hZero
  .exact hTight
  .exact hRSame
  .exact hROf
  .exact hHolds
  .exact hSame
  .exact hCmp
  .exact hText
  .exact hDeny
  .exact hPut
  .exact hPutAll
  .exact hMove
  .exact hVars
end Go.Proofs.YtpncilciembjdaaGreatDoor
