/-
  What layer 4's saying calls answers, computed.
  Functions of the program as trees: what a call comes to.
-/
import Derived.Test.YtpncilciembjdaaGreatDoorTBC
import Derived.Test.YtpncilciembjdaaGreatDoorTAS
set_option linter.unusedSectionVars false
set_option linter.unusedSimpArgs false
set_option linter.unusedVariables false
namespace Go.Proofs.YtpncilciembjdaaGreatDoor
open Go.RowKit
theorem gAw(f:Nat):GoodD (SemFn Tryz.prog f) ((Dn realA seatAw 60).ask (.fn f)):=(dn_good (seatAw_ok clone_nat cloneD_part grow_part textAx_good) 60).1 f
noncomputable def dAw(f:Nat):DF:=(Dn realA seatAw 60).ask (.fn f)
theorem gdAw(f:Nat):GoodD (SemFn Tryz.prog f) (dAw f):=gAw f
end Go.Proofs.YtpncilciembjdaaGreatDoor
namespace Go.Proofs.YtpncilciembjdaaGreatDoor
open Go.RowKit
def hs15:Hints:=[]
noncomputable def mf15:MFn:=mfD Tryz.prog entsC hs15 false false 15
def hn15:Hnt:=⟨[(17,(.tup [.agg [.ls,.bool,.ls,.bool],.int .i64],[])),(21,(.bool,[])),(23,(.ls,[])),(25,(.int .i64,[])),(26,(.bool,[])),(27,(.agg [.ls,.bool,.ls,.bool],[])),(28,(.agg [.ls,.bool,.ls,.bool],[])),(30,(.bool,[])),(55,(.agg [.ls,.bool,.ls],[])),(56,(.agg [.bool,.ls],[])),(57,(.str,[])),(58,(.agg [.ls,.bool,.ls,.bool],[])),(59,(.agg [.ls,.bool,.ls,.bool],[])),(60,(.ls,[])),(61,(.agg [.ls,.bool,.ls,.bool],[]))],[],[(27,[.ls,.bool,.ls,.bool]),(45,[.ls,.bool,.ls,.bool]),(51,[.ls,.bool,.ls,.bool]),(56,[.ls,.bool,.ls,.bool]),(57,[.ls,.bool,.ls,.bool]),(69,[.ls,.bool,.ls,.bool]),(83,[.ls,.bool,.ls,.bool]),(91,[.ls,.bool,.ls,.bool]),(101,[.ls,.bool,.ls,.bool])]⟩
noncomputable def tabSy:List (Nat × MFn):=[(15,mf15)]
variable (A:Ar) (D:Orc)
theorem e15:fnK A D ownC hn15 .n 15 mf15 [] [] =
 askD D (Key.fn 55) [iv (-6),AV.ls [[iv 4]]] [] [.a,.L,.B,.L,.N,.E] fun xs b xs1=>
 askD D (Key.fn 28) [AV.agg [AV.ls xs,bv b,AV.ls xs1]] [] [.a,.L,.B,.L,.B,.N,.E] fun xs2 b1 xs3 b2=>
 askD D (Key.fn 17) [AV.agg [AV.ls xs2,bv b1,AV.ls xs3,bv b2]] [] [.t,.A,.L,.B,.L,.B,.N,.I,.N,.E] fun xs4 b3 xs5 b4 n=>
 askD D (Key.fn 55) [iv (-6),AV.ls [[iv 4]]] [] [.a,.L,.B,.L,.N,.E] fun xs6 b5 xs7=>
 askD D (Key.fn 27) [AV.agg [AV.ls xs6,bv b5,AV.ls xs7]] [] [.a,.L,.B,.L,.B,.N,.E] fun xs8 b6 xs9 b7=>
 askD D (Key.fn 17) [AV.agg [AV.ls xs8,bv b6,AV.ls xs9,bv b7]] [] [.t,.A,.L,.B,.L,.B,.N,.I,.N,.E] fun _ _ _ _ n1=>
 askD D (Key.fn 55) [iv 3,AV.ls []] [] [.a,.L,.B,.L,.N,.E] fun xs12 b10 xs13=>
 askD D (Key.fn 28) [AV.agg [AV.ls xs12,bv b10,AV.ls xs13]] [] [.a,.L,.B,.L,.B,.N,.E] fun xs14 b11 xs15 b12=>
 askD D (Key.fn 17) [AV.agg [AV.ls xs14,bv b11,AV.ls xs15,bv b12]] [] [.t,.A,.L,.B,.L,.B,.N,.I,.N,.E] fun _ _ _ _ n2=>
 askD D (Key.fn 55) [iv (-2),AV.ls [[iv 1]]] [] [.a,.L,.B,.L,.N,.E] fun xs18 b15 xs19=>
 askD D (Key.fn 21) [AV.agg [AV.ls xs4,bv b3,AV.ls xs5,bv b4],AV.agg [AV.ls xs18,bv b15,AV.ls xs19,bv false]] [] [.b,.E] fun b16=>
 br b16
 (br (A.eq n 0)
 (br (A.eq n1 (-1))
 (br (A.eq n2 1)
 (askD D (Key.fn 56) [iv 2] [] [.a,.B,.L,.N,.E] fun b17 xs20=>
 askD D (Key.fn 30) [AV.agg [AV.ls xs4,bv b3,AV.ls xs5,bv b4],AV.ls [[bv b17,AV.ls xs20]]] [] [.b,.E] fun b18=>
 br b18
 (askD D (Key.fn 30) [AV.agg [AV.ls xs4,bv b3,AV.ls xs5,bv b4],AV.ls []] [] [.b,.E] fun b19=>
 br b19
 (some ((bv false,[])))
 (askD D (Key.fn 26) [AV.agg [AV.ls xs4,bv b3,AV.ls xs5,bv b4],AV.agg [AV.ls xs4,bv b3,AV.ls xs5,bv b4]] [] [.b,.E] fun b20=>
 br b20
 (askD D (Key.fn 55) [iv 1,AV.ls []] [] [.a,.L,.B,.L,.N,.E] fun xs21 b21 xs22=>
 askD D (Key.fn 28) [AV.agg [AV.ls xs21,bv b21,AV.ls xs22]] [] [.a,.L,.B,.L,.B,.N,.E] fun xs23 b22 xs24 b23=>
 askD D (Key.fn 55) [iv 2,AV.ls []] [] [.a,.L,.B,.L,.N,.E] fun xs25 b24 xs26=>
 askD D (Key.fn 28) [AV.agg [AV.ls xs25,bv b24,AV.ls xs26]] [] [.a,.L,.B,.L,.B,.N,.E] fun xs27 b25 xs28 b26=>
 askD D (Key.fn 25) [AV.agg [AV.ls xs23,bv b22,AV.ls xs24,bv b23],AV.agg [AV.ls xs27,bv b25,AV.ls xs28,bv b26]] [] [.i,.E] fun n3=>
 br (A.eq n3 (-1))
 (askD D (Key.fn 57) [AV.agg [AV.ls xs4,bv b3,AV.ls xs5,bv b4],AV.ls [[sv (bstr [120])]]] [] [.s,.E] fun s=>
 br (A.seq s (bstr [120,32,45,32,50,32,62,61,32,48]))
 (askD D (Key.fn 55) [iv 0,AV.ls [[iv 1]]] [] [.a,.L,.B,.L,.N,.E] fun xs29 b27 xs30=>
 askD D (Key.fn 27) [AV.agg [AV.ls xs29,bv b27,AV.ls xs30]] [] [.a,.L,.B,.L,.B,.N,.E] fun xs31 b28 xs32 b29=>
 askD D (Key.fn 23) [AV.agg [AV.ls xs31,bv b28,AV.ls xs32,bv b29]] [] [.l,.E] fun xs33=>
 br (A.eq (↑(lenR xs33)) 2)
 (askD D (Key.fn 55) [iv 5,AV.ls []] [] [.a,.L,.B,.L,.N,.E] fun xs34 b30 xs35=>
 askD D (Key.fn 58) [AV.agg [AV.ls xs4,bv b3,AV.ls xs5,bv b4],iv 0,AV.agg [AV.ls xs34,bv b30,AV.ls xs35]] [] [.a,.L,.B,.L,.B,.N,.E] fun xs36 b31 xs37 b32=>
 askD D (Key.fn 55) [iv 3,AV.ls []] [] [.a,.L,.B,.L,.N,.E] fun xs38 b33 xs39=>
 askD D (Key.fn 21) [AV.agg [AV.ls xs36,bv b31,AV.ls xs37,bv b32],AV.agg [AV.ls xs38,bv b33,AV.ls xs39,bv false]] [] [.b,.E] fun b34=>
 br b34
 (askD D (Key.fn 55) [iv 5,AV.ls []] [] [.a,.L,.B,.L,.N,.E] fun xs40 b35 xs41=>
 askD D (Key.fn 59) [AV.agg [AV.ls xs4,bv b3,AV.ls xs5,bv b4],AV.ls [[iv 0]],AV.ls [[AV.ls xs40,bv b35,AV.ls xs41]]] [] [.a,.L,.B,.L,.B,.N,.E] fun xs42 b36 xs43 b37=>
 askD D (Key.fn 55) [iv 3,AV.ls []] [] [.a,.L,.B,.L,.N,.E] fun xs44 b38 xs45=>
 askD D (Key.fn 21) [AV.agg [AV.ls xs42,bv b36,AV.ls xs43,bv b37],AV.agg [AV.ls xs44,bv b38,AV.ls xs45,bv false]] [] [.b,.E] fun b39=>
 br b39
 (askD D (Key.fn 61) [AV.agg [AV.ls xs4,bv b3,AV.ls xs5,bv b4],iv 2] [] [.a,.L,.B,.L,.B,.N,.E] fun xs46 b40 xs47 b41=>
 askD D (Key.fn 60) [AV.agg [AV.ls xs46,bv b40,AV.ls xs47,bv b41]] [] [.l,.E] fun xs48=>
 br (A.eq (↑(lenR xs48)) 1)
 (some ((bv true,[])))
 (some ((bv false,[]))))
 (some ((bv false,[]))))
 (some ((bv false,[]))))
 (some ((bv false,[]))))
 (some ((bv false,[]))))
 (some ((bv false,[]))))
 (some ((bv false,[])))))
 (some ((bv false,[]))))
 (some ((bv false,[]))))
 (some ((bv false,[]))))
 (some ((bv false,[]))))
 (some ((bv false,[]))):=by kernel_rfl
end Go.Proofs.YtpncilciembjdaaGreatDoor
