/- A seat of D: tables of f -/
import Derived.Test.YtpncilciembjdaaGreatDoorGAU
import Derived.Test.YtpncilciembjdaaGreatDoorGBO
set_option linter.all false
namespace Go.Proofs.YtpncilciembjdaaGreatDoor
noncomputable section
open Tryz renaming prog->η
open Go.RowKit
def QZ:List (List (Nat × MFn)):=[Px,Pz,VZ,NZ,PA,S0,VW,QS,QR,QQ]
def TU:List (Nat × DF):=[(34,(AY Ah NS).ask (.fn 34)),(43,(AY Ah NR).ask (.fn 43)),(36,λa b=>(AY Ah Dd).ask (.fn 36) (a.map T4) b)]
def UH:Seat:=D9 Al QZ.flatten TU
def Re:Orc:=AY Ah UH
set_option maxRecDepth 100000 in
theorem Alt:EK η Bt QZ:=by
 repeat' first|exact trivial|refine⟨⟨_,_,_,rfl⟩,by kernel_rfl,?_⟩|refine⟨?_,?_⟩
theorem Ir:(E7 QZ&&LD QZ.flatten TU)=true:=by kernel_rfl
theorem Amb:Knows Al Px Re:=Bu Ir (i:=0) rfl
theorem Aml:Knows Al Pz Re:=Bu Ir (i:=1) rfl
theorem Amn:Knows Al VZ Re:=Bu Ir (i:=2) rfl
theorem Amj:Knows Al NZ Re:=Bu Ir (i:=3) rfl
theorem Amm:Knows Al PA Re:=Bu Ir (i:=4) rfl
theorem Amk:Knows Al S0 Re:=Bu Ir (i:=5) rfl
theorem Amc:Knows Al VW Re:=Bu Ir (i:=6) rfl
theorem AjB:Knows Al QS Re:=Bu Ir (i:=7) rfl
theorem AjA:Knows Al QR Re:=Bu Ir (i:=8) rfl
theorem Ajz:Knows Al QQ Re:=Bu Ir (i:=9) rfl
section
variable {args:List AV} {bs:List ABlk} {r:AV × List BO}
theorem AgX(h:((AY Ah NS).ask (.fn 34)) args bs=some r):Re.ask (.fn 34) args bs=some r:=AZ rfl h
theorem Yb(h:((AY Ah NR).ask (.fn 43)) args bs=some r):Re.ask (.fn 43) args bs=some r:=AZ rfl h
theorem AbE(h:(λa b=>(AY Ah Dd).ask (.fn 36) (a.map T4) b) args bs=some r):Re.ask (.fn 36) args bs=some r:=AZ rfl h
end
theorem Xz(h:EL η TU):SeatOk η Bt UH:=DD Nt Dt Alt h
