/- A seat of D: tables of f -/
import Derived.Test.YtpncilciembjdaaGreatDoorBBE
set_option linter.all false
namespace Go.Proofs.YtpncilciembjdaaGreatDoor
noncomputable section
open Tryz renaming prog->ψ
open Go.RowKit
def ZI:List (Nat × MFn):=Oy
def SC:List (Nat × DF):=[(135,DU 3 40),(145,(AC Ag A7).ask (.fn 145)),(161,(AC Ag A7).ask (.fn 161)),(64,(AC Ag A7).ask (.fn 64)),(126,(AC Ag A7).ask (.fn 126)),(155,(AC Ag A7).ask (.fn 155)),(139,(AC Ag A7).ask (.fn 139)),(158,(AC Ag A7).ask (.fn 158)),(143,(AC Ag A7).ask (.fn 143)),(147,(AC Ag A7).ask (.fn 147)),(66,(AC Ag A7).ask (.fn 66)),(138,(AC Ag A7).ask (.fn 138)),(136,(AC Ag A7).ask (.fn 136)),(140,(AC Ag A7).ask (.fn 140))]
def GQ:Seat:=Ht K4 ZI SC
def Nq:Orc:=AC Ag GQ
set_option maxRecDepth 100000 in
theorem AaC:BI ψ Bb Oy:=⟨⟨_,_,_,rfl⟩,by kernel_rfl,⟨_,_,_,rfl⟩,by kernel_rfl,⟨_,_,_,rfl⟩,by kernel_rfl,trivial⟩
theorem UU:BI ψ Bb ZI:=AaC
set_option maxRecDepth 100000 in
theorem XI:Ex ψ Bb:=ED (n:=310) (by kernel_rfl)
theorem Yj:Knows K4 Oy Nq:=Bq (λ_ _ h=>h) (by kernel_rfl)
theorem OK{args:List AV}{bs:List ABlk}{r:AV × List BO}(h:(DU 3 40:DF) args bs=some r):Nq.ask (.fn 135) args bs=some r:=A4 (d:=DU 3 40) rfl h
theorem ZZ{args:List AV}{bs:List ABlk}{r:AV × List BO}(h:((AC Ag A7).ask (.fn 145):DF) args bs=some r):Nq.ask (.fn 145) args bs=some r:=A4 (d:=(AC Ag A7).ask (.fn 145)) rfl h
theorem Afi{args:List AV}{bs:List ABlk}{r:AV × List BO}(h:((AC Ag A7).ask (.fn 161):DF) args bs=some r):Nq.ask (.fn 161) args bs=some r:=A4 (d:=(AC Ag A7).ask (.fn 161)) rfl h
theorem Z0{args:List AV}{bs:List ABlk}{r:AV × List BO}(h:((AC Ag A7).ask (.fn 64):DF) args bs=some r):Nq.ask (.fn 64) args bs=some r:=A4 (d:=(AC Ag A7).ask (.fn 64)) rfl h
theorem Ajj{args:List AV}{bs:List ABlk}{r:AV × List BO}(h:((AC Ag A7).ask (.fn 126):DF) args bs=some r):Nq.ask (.fn 126) args bs=some r:=A4 (d:=(AC Ag A7).ask (.fn 126)) rfl h
theorem Afe{args:List AV}{bs:List ABlk}{r:AV × List BO}(h:((AC Ag A7).ask (.fn 155):DF) args bs=some r):Nq.ask (.fn 155) args bs=some r:=A4 (d:=(AC Ag A7).ask (.fn 155)) rfl h
theorem Afd{args:List AV}{bs:List ABlk}{r:AV × List BO}(h:((AC Ag A7).ask (.fn 139):DF) args bs=some r):Nq.ask (.fn 139) args bs=some r:=A4 (d:=(AC Ag A7).ask (.fn 139)) rfl h
theorem Afh{args:List AV}{bs:List ABlk}{r:AV × List BO}(h:((AC Ag A7).ask (.fn 158):DF) args bs=some r):Nq.ask (.fn 158) args bs=some r:=A4 (d:=(AC Ag A7).ask (.fn 158)) rfl h
theorem Ww{args:List AV}{bs:List ABlk}{r:AV × List BO}(h:((AC Ag A7).ask (.fn 143):DF) args bs=some r):Nq.ask (.fn 143) args bs=some r:=A4 (d:=(AC Ag A7).ask (.fn 143)) rfl h
theorem Afg{args:List AV}{bs:List ABlk}{r:AV × List BO}(h:((AC Ag A7).ask (.fn 147):DF) args bs=some r):Nq.ask (.fn 147) args bs=some r:=A4 (d:=(AC Ag A7).ask (.fn 147)) rfl h
theorem Aff{args:List AV}{bs:List ABlk}{r:AV × List BO}(h:((AC Ag A7).ask (.fn 66):DF) args bs=some r):Nq.ask (.fn 66) args bs=some r:=A4 (d:=(AC Ag A7).ask (.fn 66)) rfl h
theorem Wt{args:List AV}{bs:List ABlk}{r:AV × List BO}(h:((AC Ag A7).ask (.fn 138):DF) args bs=some r):Nq.ask (.fn 138) args bs=some r:=A4 (d:=(AC Ag A7).ask (.fn 138)) rfl h
theorem ZY{args:List AV}{bs:List ABlk}{r:AV × List BO}(h:((AC Ag A7).ask (.fn 136):DF) args bs=some r):Nq.ask (.fn 136) args bs=some r:=A4 (d:=(AC Ag A7).ask (.fn 136)) rfl h
theorem Ae5{args:List AV}{bs:List ABlk}{r:AV × List BO}(h:((AC Ag A7).ask (.fn 140):DF) args bs=some r):Nq.ask (.fn 140) args bs=some r:=A4 (d:=(AC Ag A7).ask (.fn 140)) rfl h
theorem V4(hCloneP:AW (Ba ψ 135) (DU 3 40))(hZFrom:AW (Ba ψ 145) ((AC Ag A7).ask (.fn 145)))(hZNeg:AW (Ba ψ 161) ((AC Ag A7).ask (.fn 161)))(hZSign:AW (Ba ψ 64) ((AC Ag A7).ask (.fn 64)))(hZOf:AW (Ba ψ 126) ((AC Ag A7).ask (.fn 126)))(hZCmp:AW (Ba ψ 155) ((AC Ag A7).ask (.fn 155)))(hZAdd:AW (Ba ψ 139) ((AC Ag A7).ask (.fn 139)))(hZMul:AW (Ba ψ 158) ((AC Ag A7).ask (.fn 158)))(hZExact:AW (Ba ψ 143) ((AC Ag A7).ask (.fn 143)))(hZGcd:AW (Ba ψ 147) ((AC Ag A7).ask (.fn 147)))(hZDiv:AW (Ba ψ 66) ((AC Ag A7).ask (.fn 66)))(hCopied:AW (Ba ψ 138) ((AC Ag A7).ask (.fn 138)))(hSortP:AW (Ba ψ 136) ((AC Ag A7).ask (.fn 136)))(hDelP:AW (Ba ψ 140) ((AC Ag A7).ask (.fn 140))):SeatOk ψ Bb GQ where
 mixed:=by kernel_rfl
 ent:=XI
 fns f mf h:=Dm UU f mf (BN h)
 ext f d h:=by
  have hm:(f,d)∈SC:=BN h;unfold SC at hm;simp only[List.mem_cons,Prod.mk.injEq,List.not_mem_nil,or_false]at hm;rcases hm with⟨rfl,rfl⟩|⟨rfl,rfl⟩|⟨rfl,rfl⟩|⟨rfl,rfl⟩|⟨rfl,rfl⟩|⟨rfl,rfl⟩|⟨rfl,rfl⟩|⟨rfl,rfl⟩|⟨rfl,rfl⟩|⟨rfl,rfl⟩|⟨rfl,rfl⟩|⟨rfl,rfl⟩|⟨rfl,rfl⟩|⟨rfl,rfl⟩
  .exact hCloneP
  .exact hZFrom
  .exact hZNeg
  .exact hZSign
  .exact hZOf
  .exact hZCmp
  .exact hZAdd
  .exact hZMul
  .exact hZExact
  .exact hZGcd
  .exact hZDiv
  .exact hCopied
  .exact hSortP
  .exact hDelP
end
end Go.Proofs.YtpncilciembjdaaGreatDoor
