/- What layer 4's saying ca -/
import Derived.Test.YtpncilciembjdaaGreatDoorBBN
set_option linter.all false
namespace Go.Proofs.YtpncilciembjdaaGreatDoor
open AV renaming agg->Ω,ls->Δ
open Key renaming fn->θ
open Tryz renaming prog->ψ
open Go.RowKit
theorem gAw(f:Nat):AW (Ba ψ f) ((Dn Ag Tg 60).ask (.fn f)):=(Lk (VZ Fk J1 Ju RL) 60).1 f
noncomputable def Ch(f:Nat):DF:=(Dn Ag Tg 60).ask (.fn f)
theorem Ib(f:Nat):AW (Ba ψ f) (Ch f):=gAw f
section
open Go.RowKit
noncomputable def Ale:MFn:=AS [] 15
def AjU:Hnt:=⟨[(17,(.tup [.agg [.ls,.bool,.ls,.bool],.int .i64],[])),(21,(.bool,[])),(23,(.ls,[])),(25,(.int .i64,[])),(26,(.bool,[])),(27,(.agg [.ls,.bool,.ls,.bool],[])),(28,(.agg [.ls,.bool,.ls,.bool],[])),(30,(.bool,[])),(55,(.agg [.ls,.bool,.ls],[])),(56,(.agg [.bool,.ls],[])),(57,(.str,[])),(58,(.agg [.ls,.bool,.ls,.bool],[])),(59,(.agg [.ls,.bool,.ls,.bool],[])),(60,(.ls,[])),(61,(.agg [.ls,.bool,.ls,.bool],[]))],[],[(27,[.ls,.bool,.ls,.bool]),(45,[.ls,.bool,.ls,.bool]),(51,[.ls,.bool,.ls,.bool]),(56,[.ls,.bool,.ls,.bool]),(57,[.ls,.bool,.ls,.bool]),(69,[.ls,.bool,.ls,.bool]),(83,[.ls,.bool,.ls,.bool]),(91,[.ls,.bool,.ls,.bool]),(101,[.ls,.bool,.ls,.bool])]⟩
noncomputable def ZC:List (Nat × MFn):=[(15,Ale)]
variable (A:Ar) (D:Orc)
theorem e15:BP A D As AjU .n 15 Ale [] [] =
 Af D (θ 55) [iv (-6),Δ [[iv 4]]] [] [.a,.L,.B,.L,.N,.E] λxs b xs1=>
 Af D (θ 28) [Ω [Δ xs,bv b,Δ xs1]] [] [.a,.L,.B,.L,.B,.N,.E] λxs2 b1 xs3 b2=>
 Af D (θ 17) [Ω [Δ xs2,bv b1,Δ xs3,bv b2]] [] [.t,.A,.L,.B,.L,.B,.N,.I,.N,.E] λxs4 b3 xs5 b4 n=>
 Af D (θ 55) [iv (-6),Δ [[iv 4]]] [] [.a,.L,.B,.L,.N,.E] λxs6 b5 xs7=>
 Af D (θ 27) [Ω [Δ xs6,bv b5,Δ xs7]] [] [.a,.L,.B,.L,.B,.N,.E] λxs8 b6 xs9 b7=>
 Af D (θ 17) [Ω [Δ xs8,bv b6,Δ xs9,bv b7]] [] [.t,.A,.L,.B,.L,.B,.N,.I,.N,.E] λ_ _ _ _ n1=>
 Af D (θ 55) [iv 3,Δ []] [] [.a,.L,.B,.L,.N,.E] λxs12 b10 xs13=>
 Af D (θ 28) [Ω [Δ xs12,bv b10,Δ xs13]] [] [.a,.L,.B,.L,.B,.N,.E] λxs14 b11 xs15 b12=>
 Af D (θ 17) [Ω [Δ xs14,bv b11,Δ xs15,bv b12]] [] [.t,.A,.L,.B,.L,.B,.N,.I,.N,.E] λ_ _ _ _ n2=>
 Af D (θ 55) [iv (-2),Δ [[iv 1]]] [] [.a,.L,.B,.L,.N,.E] λxs18 b15 xs19=>
 Af D (θ 21) [Ω [Δ xs4,bv b3,Δ xs5,bv b4],Ω [Δ xs18,bv b15,Δ xs19,bv false]] [] [.b,.E] λb16=>
 br b16
 (br (A.eq n 0)
 (br (A.eq n1 (-1))
 (br (A.eq n2 1)
 (Af D (θ 56) [iv 2] [] [.a,.B,.L,.N,.E] λb17 xs20=>
 Af D (θ 30) [Ω [Δ xs4,bv b3,Δ xs5,bv b4],Δ [[bv b17,Δ xs20]]] [] [.b,.E] λb18=>
 br b18
 (Af D (θ 30) [Ω [Δ xs4,bv b3,Δ xs5,bv b4],Δ []] [] [.b,.E] λb19=>
 br b19
 (some ((bv false,[])))
 (Af D (θ 26) [Ω [Δ xs4,bv b3,Δ xs5,bv b4],Ω [Δ xs4,bv b3,Δ xs5,bv b4]] [] [.b,.E] λb20=>
 br b20
 (Af D (θ 55) [iv 1,Δ []] [] [.a,.L,.B,.L,.N,.E] λxs21 b21 xs22=>
 Af D (θ 28) [Ω [Δ xs21,bv b21,Δ xs22]] [] [.a,.L,.B,.L,.B,.N,.E] λxs23 b22 xs24 b23=>
 Af D (θ 55) [iv 2,Δ []] [] [.a,.L,.B,.L,.N,.E] λxs25 b24 xs26=>
 Af D (θ 28) [Ω [Δ xs25,bv b24,Δ xs26]] [] [.a,.L,.B,.L,.B,.N,.E] λxs27 b25 xs28 b26=>
 Af D (θ 25) [Ω [Δ xs23,bv b22,Δ xs24,bv b23],Ω [Δ xs27,bv b25,Δ xs28,bv b26]] [] [.i,.E] λn3=>
 br (A.eq n3 (-1))
 (Af D (θ 57) [Ω [Δ xs4,bv b3,Δ xs5,bv b4],Δ [[sv (CV [120])]]] [] [.s,.E] λs=>
 br (A.seq s (CV [120,32,45,32,50,32,62,61,32,48]))
 (Af D (θ 55) [iv 0,Δ [[iv 1]]] [] [.a,.L,.B,.L,.N,.E] λxs29 b27 xs30=>
 Af D (θ 27) [Ω [Δ xs29,bv b27,Δ xs30]] [] [.a,.L,.B,.L,.B,.N,.E] λxs31 b28 xs32 b29=>
 Af D (θ 23) [Ω [Δ xs31,bv b28,Δ xs32,bv b29]] [] [.l,.E] λxs33=>
 br (A.eq (↑(AF xs33)) 2)
 (Af D (θ 55) [iv 5,Δ []] [] [.a,.L,.B,.L,.N,.E] λxs34 b30 xs35=>
 Af D (θ 58) [Ω [Δ xs4,bv b3,Δ xs5,bv b4],iv 0,Ω [Δ xs34,bv b30,Δ xs35]] [] [.a,.L,.B,.L,.B,.N,.E] λxs36 b31 xs37 b32=>
 Af D (θ 55) [iv 3,Δ []] [] [.a,.L,.B,.L,.N,.E] λxs38 b33 xs39=>
 Af D (θ 21) [Ω [Δ xs36,bv b31,Δ xs37,bv b32],Ω [Δ xs38,bv b33,Δ xs39,bv false]] [] [.b,.E] λb34=>
 br b34
 (Af D (θ 55) [iv 5,Δ []] [] [.a,.L,.B,.L,.N,.E] λxs40 b35 xs41=>
 Af D (θ 59) [Ω [Δ xs4,bv b3,Δ xs5,bv b4],Δ [[iv 0]],Δ [[Δ xs40,bv b35,Δ xs41]]] [] [.a,.L,.B,.L,.B,.N,.E] λxs42 b36 xs43 b37=>
 Af D (θ 55) [iv 3,Δ []] [] [.a,.L,.B,.L,.N,.E] λxs44 b38 xs45=>
 Af D (θ 21) [Ω [Δ xs42,bv b36,Δ xs43,bv b37],Ω [Δ xs44,bv b38,Δ xs45,bv false]] [] [.b,.E] λb39=>
 br b39
 (Af D (θ 61) [Ω [Δ xs4,bv b3,Δ xs5,bv b4],iv 2] [] [.a,.L,.B,.L,.B,.N,.E] λxs46 b40 xs47 b41=>
 Af D (θ 60) [Ω [Δ xs46,bv b40,Δ xs47,bv b41]] [] [.l,.E] λxs48=>
 br (A.eq (↑(AF xs48)) 1)
 (some ((bv true,[])))
 (some ((bv false,[]))))
 (some ((bv false,[]))))
 (some ((bv false,[]))))
 (some ((bv false,[]))))
 (some ((bv false,[]))))
 (some ((bv false,[]))))
 (some ((bv false,[])))))
 (some ((bv false,[]))))
 (some ((bv false,[]))))
 (some ((bv false,[]))))
 (some ((bv false,[]))))
 (some ((bv false,[]))):=by kernel_rfl
end
end Go.Proofs.YtpncilciembjdaaGreatDoor
