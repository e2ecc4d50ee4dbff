/-
  A seat of D: tables of functions, and what is told from elsewhere.
-/
import Derived.Test.YtpncilciembjdaaGreatDoorAAO
import Derived.Test.YtpncilciembjdaaGreatDoorABP
set_option linter.unusedSectionVars false
set_option linter.unusedSimpArgs false
set_option linter.unusedVariables false
namespace Go.Proofs.YtpncilciembjdaaGreatDoor
open Go.RowKit
noncomputable def tabsSv:List (Nat × MFn):=tabSv
noncomputable def extsSv:List (Nat × DF):=[(91,dAu 91),(54,dAu 54),(92,dAu 92),(49,dAu 49),(39,dBu 39),(93,dAu 93),(94,dAu 94),(47,dBu 47),(56,dAu 56),(36,dAu 36),(95,dAu 95),(96,dAu 96),(97,dAu 97),(41,dAu 41),(43,dAu 43),(45,dAu 45),(98,dAu 98)]
noncomputable def seatSv:Seat:=seatD ownC tabsSv extsSv
noncomputable def DSv:Orc:=Dstar realA seatSv
set_option maxRecDepth 100000 in
theorem allSvSv:AllFn Tryz.prog entsC tabSv:=⟨⟨_,_,_,rfl⟩,by kernel_rfl,trivial⟩
theorem allTabsSv:AllFn Tryz.prog entsC tabsSv:=allSvSv
set_option maxRecDepth 100000 in
theorem entSv_ok:EntOk Tryz.prog entsC:=entOk_of (n:=310) (by kernel_rfl)
theorem kSvSv:Knows ownC tabSv DSv:=knows_of (fun _ _ h=>h) (by kernel_rfl)
theorem xOf5Sv{args:List AV}{bs:List ABlk}{r:AV × List BO}(h:(dAu 91:DF) args bs=some r):DSv.ask (.fn 91) args bs=some r:=star_ext (d:=dAu 91) rfl h
theorem xCompareSv{args:List AV}{bs:List ABlk}{r:AV × List BO}(h:(dAu 54:DF) args bs=some r):DSv.ask (.fn 54) args bs=some r:=star_ext (d:=dAu 54) rfl h
theorem xAllSv{args:List AV}{bs:List ABlk}{r:AV × List BO}(h:(dAu 92:DF) args bs=some r):DSv.ask (.fn 92) args bs=some r:=star_ext (d:=dAu 92) rfl h
theorem xLDenySv{args:List AV}{bs:List ABlk}{r:AV × List BO}(h:(dAu 49:DF) args bs=some r):DSv.ask (.fn 49) args bs=some r:=star_ext (d:=dAu 49) rfl h
theorem xFlatSv{args:List AV}{bs:List ABlk}{r:AV × List BO}(h:(dBu 39:DF) args bs=some r):DSv.ask (.fn 39) args bs=some r:=star_ext (d:=dBu 39) rfl h
theorem xLTextSv{args:List AV}{bs:List ABlk}{r:AV × List BO}(h:(dAu 93:DF) args bs=some r):DSv.ask (.fn 93) args bs=some r:=star_ext (d:=dAu 93) rfl h
theorem xAnySv{args:List AV}{bs:List ABlk}{r:AV × List BO}(h:(dAu 94:DF) args bs=some r):DSv.ask (.fn 94) args bs=some r:=star_ext (d:=dAu 94) rfl h
theorem xCubesSv{args:List AV}{bs:List ABlk}{r:AV × List BO}(h:(dBu 47:DF) args bs=some r):DSv.ask (.fn 47) args bs=some r:=star_ext (d:=dBu 47) rfl h
theorem xROfSv{args:List AV}{bs:List ABlk}{r:AV × List BO}(h:(dAu 56:DF) args bs=some r):DSv.ask (.fn 56) args bs=some r:=star_ext (d:=dAu 56) rfl h
theorem xLHoldsSv{args:List AV}{bs:List ABlk}{r:AV × List BO}(h:(dAu 36:DF) args bs=some r):DSv.ask (.fn 36) args bs=some r:=star_ext (d:=dAu 36) rfl h
theorem xTruthSv{args:List AV}{bs:List ABlk}{r:AV × List BO}(h:(dAu 95:DF) args bs=some r):DSv.ask (.fn 95) args bs=some r:=star_ext (d:=dAu 95) rfl h
theorem xSizeSv{args:List AV}{bs:List ABlk}{r:AV × List BO}(h:(dAu 96:DF) args bs=some r):DSv.ask (.fn 96) args bs=some r:=star_ext (d:=dAu 96) rfl h
theorem xLVarsSv{args:List AV}{bs:List ABlk}{r:AV × List BO}(h:(dAu 97:DF) args bs=some r):DSv.ask (.fn 97) args bs=some r:=star_ext (d:=dAu 97) rfl h
theorem xLSameSv{args:List AV}{bs:List ABlk}{r:AV × List BO}(h:(dAu 41:DF) args bs=some r):DSv.ask (.fn 41) args bs=some r:=star_ext (d:=dAu 41) rfl h
theorem xLPutAllSv{args:List AV}{bs:List ABlk}{r:AV × List BO}(h:(dAu 43:DF) args bs=some r):DSv.ask (.fn 43) args bs=some r:=star_ext (d:=dAu 43) rfl h
theorem xLMoveSv{args:List AV}{bs:List ABlk}{r:AV × List BO}(h:(dAu 45:DF) args bs=some r):DSv.ask (.fn 45) args bs=some r:=star_ext (d:=dAu 45) rfl h
theorem xLOfSv{args:List AV}{bs:List ABlk}{r:AV × List BO}(h:(dAu 98:DF) args bs=some r):DSv.ask (.fn 98) args bs=some r:=star_ext (d:=dAu 98) rfl h
theorem seatSv_ok(hOf5:GoodD (SemFn Tryz.prog 91) (dAu 91))(hCompare:GoodD (SemFn Tryz.prog 54) (dAu 54))(hAll:GoodD (SemFn Tryz.prog 92) (dAu 92))(hLDeny:GoodD (SemFn Tryz.prog 49) (dAu 49))(hFlat:GoodD (SemFn Tryz.prog 39) (dBu 39))(hLText:GoodD (SemFn Tryz.prog 93) (dAu 93))(hAny:GoodD (SemFn Tryz.prog 94) (dAu 94))(hCubes:GoodD (SemFn Tryz.prog 47) (dBu 47))(hROf:GoodD (SemFn Tryz.prog 56) (dAu 56))(hLHolds:GoodD (SemFn Tryz.prog 36) (dAu 36))(hTruth:GoodD (SemFn Tryz.prog 95) (dAu 95))(hSize:GoodD (SemFn Tryz.prog 96) (dAu 96))(hLVars:GoodD (SemFn Tryz.prog 97) (dAu 97))(hLSame:GoodD (SemFn Tryz.prog 41) (dAu 41))(hLPutAll:GoodD (SemFn Tryz.prog 43) (dAu 43))(hLMove:GoodD (SemFn Tryz.prog 45) (dAu 45))(hLOf:GoodD (SemFn Tryz.prog 98) (dAu 98)):SeatOk Tryz.prog entsC seatSv where
 mixed:=by kernel_rfl
 ent:=entSv_ok
 fns f mf h:=allFn_mem allTabsSv f mf (findN_mem h)
 ext f d h:=by
  have hm:(f,d)∈extsSv:=findN_mem h
  unfold extsSv at hm
  simp only[List.mem_cons,Prod.mk.injEq,List.not_mem_nil,or_false]at hm
  rcases hm with⟨rfl,rfl⟩|⟨rfl,rfl⟩|⟨rfl,rfl⟩|⟨rfl,rfl⟩|⟨rfl,rfl⟩|⟨rfl,rfl⟩|⟨rfl,rfl⟩|⟨rfl,rfl⟩|⟨rfl,rfl⟩|⟨rfl,rfl⟩|⟨rfl,rfl⟩|⟨rfl,rfl⟩|⟨rfl,rfl⟩|⟨rfl,rfl⟩|⟨rfl,rfl⟩|⟨rfl,rfl⟩|⟨rfl,rfl⟩
  .exact hOf5
  .exact hCompare
  .exact hAll
  .exact hLDeny
  .exact hFlat
  .exact hLText
  .exact hAny
  .exact hCubes
  .exact hROf
  .exact hLHolds
  .exact hTruth
  .exact hSize
  .exact hLVars
  .exact hLSame
  .exact hLPutAll
  .exact hLMove
  .exact hLOf
end Go.Proofs.YtpncilciembjdaaGreatDoor
