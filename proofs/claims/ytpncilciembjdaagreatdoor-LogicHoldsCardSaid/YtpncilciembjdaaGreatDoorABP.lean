/-
  What layer 5's alive calls answers, computed: Flat and Cubes.
  Functions of the program as trees: what a call comes to.
-/
import Derived.Test.YtpncilciembjdaaGreatDoorABO
import Derived.Test.YtpncilciembjdaaGreatDoorAAX
set_option linter.unusedSectionVars false
set_option linter.unusedSimpArgs false
set_option linter.unusedVariables false
namespace Go.Proofs.YtpncilciembjdaaGreatDoor
open Go.RowKit
theorem gBu(f:Nat):GoodD (SemFn Tryz.prog f) ((Dn realA seatBu 60).ask (.fn f)):=(dn_good (seatBu_ok gTight gDeny gTidyT grow_rel) 60).1 f
noncomputable def dBu(f:Nat):DF:=(Dn realA seatBu 60).ask (.fn f)
theorem gdBu(f:Nat):GoodD (SemFn Tryz.prog f) (dBu f):=gBu f
end Go.Proofs.YtpncilciembjdaaGreatDoor
namespace Go.Proofs.YtpncilciembjdaaGreatDoor
open Go.RowKit
def hs34:Hints:=[]
noncomputable def mf34:MFn:=mfD Tryz.prog entsC hs34 false false 34
def hn34:Hnt:=⟨[(36,(.bool,[])),(39,(.agg [.int .i64,.ls,.bool,.ls,.bool,.ls],[])),(41,(.bool,[])),(43,(.agg [.int .i64,.ls,.bool,.ls,.bool,.ls],[])),(45,(.agg [.int .i64,.ls,.bool,.ls,.bool,.ls],[])),(47,(.tup [.ls,.int .i64],[])),(49,(.agg [.int .i64,.ls,.bool,.ls,.bool,.ls],[])),(54,(.agg [.int .i64,.ls,.bool,.ls,.bool,.ls],[])),(56,(.agg [.bool,.ls],[])),(91,(.agg [.ls,.bool,.ls],[])),(92,(.agg [.int .i64,.ls,.bool,.ls,.bool,.ls],[])),(93,(.str,[])),(94,(.agg [.int .i64,.ls,.bool,.ls,.bool,.ls],[])),(95,(.agg [.int .i64,.ls,.bool,.ls,.bool,.ls],[])),(96,(.int .i64,[])),(97,(.ls,[])),(98,(.agg [.int .i64,.ls,.bool,.ls,.bool,.ls],[]))],[],[(15,[.ls,.bool,.ls]),(18,[.ls,.bool,.ls]),(21,[.int .i64,.ls,.bool,.ls,.bool,.ls]),(22,[.int .i64,.ls,.bool,.ls,.bool,.ls]),(28,[.int .i64]),(32,[.ls]),(37,[.int .i64,.ls,.bool,.ls,.bool,.ls]),(43,[.int .i64,.ls,.bool,.ls,.bool,.ls]),(44,[.int .i64,.ls,.bool,.ls,.bool,.ls]),(47,[.ls,.bool,.ls]),(48,[.ls,.bool,.ls]),(56,[.int .i64,.ls,.bool,.ls,.bool,.ls]),(57,[.int .i64,.ls,.bool,.ls,.bool,.ls]),(76,[.int .i64,.ls,.bool,.ls,.bool,.ls]),(77,[.bool,.ls]),(87,[.int .i64,.ls,.bool,.ls,.bool,.ls]),(92,[.int .i64,.ls,.bool,.ls,.bool,.ls]),(98,[.int .i64,.ls,.bool,.ls,.bool,.ls]),(99,[.int .i64,.ls,.bool,.ls,.bool,.ls]),(103,[.int .i64,.ls,.bool,.ls,.bool,.ls]),(104,[.int .i64,.ls,.bool,.ls,.bool,.ls]),(109,[.int .i64,.ls,.bool,.ls,.bool,.ls]),(111,[.ls,.bool,.ls]),(114,[.int .i64,.ls,.bool,.ls,.bool,.ls]),(120,[.ls,.bool,.ls,.bool])]⟩
noncomputable def tabSv:List (Nat × MFn):=[(34,mf34)]
variable (A:Ar) (D:Orc)
theorem e34:fnK A D ownC hn34 .n 34 mf34 [] [] =
 askD D (Key.fn 91) [iv 0,AV.ls [[iv 1]]] [] [.a,.L,.B,.L,.N,.E] fun xs b xs1=>
 askD D (Key.fn 91) [iv 0,AV.ls [[iv 0],[iv 1]]] [] [.a,.L,.B,.L,.N,.E] fun xs2 b1 xs3=>
 askD D (Key.fn 91) [iv 3,AV.ls []] [] [.a,.L,.B,.L,.N,.E] fun xs4 b2 xs5=>
 askD D (Key.fn 54) [iv 2,AV.agg [AV.ls xs,bv b,AV.ls xs1],AV.agg [AV.ls xs4,bv b2,AV.ls xs5]] [] [.a,.I,.L,.B,.L,.B,.L,.N,.E] fun n xs6 b3 xs7 b4 xs8=>
 askD D (Key.fn 91) [iv 0,AV.ls []] [] [.a,.L,.B,.L,.N,.E] fun xs9 b5 xs10=>
 askD D (Key.fn 54) [iv 0,AV.agg [AV.ls xs2,bv b1,AV.ls xs3],AV.agg [AV.ls xs9,bv b5,AV.ls xs10]] [] [.a,.I,.L,.B,.L,.B,.L,.N,.E] fun n1 xs11 b6 xs12 b7 xs13=>
 askD D (Key.fn 92) [AV.ls [[iv n,AV.ls xs6,bv b3,AV.ls xs7,bv b4,AV.ls xs8],[iv n1,AV.ls xs11,bv b6,AV.ls xs12,bv b7,AV.ls xs13]]] [] [.a,.I,.L,.B,.L,.B,.L,.N,.E] fun n2 xs14 b8 xs15 b9 xs16=>
 askD D (Key.fn 49) [AV.agg [iv n2,AV.ls xs14,bv b8,AV.ls xs15,bv b9,AV.ls xs16]] [] [.a,.I,.L,.B,.L,.B,.L,.N,.E] fun n3 xs17 b10 xs18 b11 xs19=>
 askD D (Key.fn 39) [AV.agg [iv n3,AV.ls xs17,bv b10,AV.ls xs18,bv b11,AV.ls xs19]] [] [.a,.I,.L,.B,.L,.B,.L,.N,.E] fun n4 xs20 b12 xs21 b13 xs22=>
 br (A.eq n4 5)
 (br (A.eq (↑(lenR xs22)) 3)
 (askD D (Key.fn 93) [AV.agg [iv n4,AV.ls xs20,bv b12,AV.ls xs21,bv b13,AV.ls xs22],AV.ls [[sv (bstr [120])],[sv (bstr [121])]]] [] [.s,.E] fun s=>
 br (A.seq s (bstr [40,120,32,45,32,51,32,62,61,32,48,32,124,32,121,32,45,32,49,32,62,61,32,48,32,124,32,45,121,32,45,32,49,32,62,61,32,48,41]))
 (askD D (Key.fn 94) [AV.ls [[iv n,AV.ls xs6,bv b3,AV.ls xs7,bv b4,AV.ls xs8],[iv n1,AV.ls xs11,bv b6,AV.ls xs12,bv b7,AV.ls xs13]]] [] [.a,.I,.L,.B,.L,.B,.L,.N,.E] fun n5 xs23 b14 xs24 b15 xs25=>
 askD D (Key.fn 54) [iv 5,AV.agg [AV.ls xs,bv b,AV.ls xs1],AV.agg [AV.ls xs2,bv b1,AV.ls xs3]] [] [.a,.I,.L,.B,.L,.B,.L,.N,.E] fun n6 xs26 b16 xs27 b17 xs28=>
 askD D (Key.fn 92) [AV.ls [[iv n5,AV.ls xs23,bv b14,AV.ls xs24,bv b15,AV.ls xs25],[iv n6,AV.ls xs26,bv b16,AV.ls xs27,bv b17,AV.ls xs28]]] [] [.a,.I,.L,.B,.L,.B,.L,.N,.E] fun n7 xs29 b18 xs30 b19 xs31=>
 askD D (Key.fn 47) [AV.agg [iv n7,AV.ls xs29,bv b18,AV.ls xs30,bv b19,AV.ls xs31],iv 9] [] [.t,.L,.I,.N,.E] fun xs32 n8=>
 askD D (Key.fn 94) [AV.ls [[iv n,AV.ls xs6,bv b3,AV.ls xs7,bv b4,AV.ls xs8],[iv n1,AV.ls xs11,bv b6,AV.ls xs12,bv b7,AV.ls xs13]]] [] [.a,.I,.L,.B,.L,.B,.L,.N,.E] fun n9 xs33 b20 xs34 b21 xs35=>
 askD D (Key.fn 47) [AV.agg [iv n9,AV.ls xs33,bv b20,AV.ls xs34,bv b21,AV.ls xs35],iv 1] [] [.t,.L,.I,.N,.E] fun _ n10=>
 askD D (Key.fn 56) [iv 2] [] [.a,.B,.L,.N,.E] fun b22 xs37=>
 br (A.eq n8 0)
 (br (A.eq (↑(lenR xs32)) 2)
 (br (A.eq n10 3)
 (askD D (Key.fn 36) [AV.agg [iv n,AV.ls xs6,bv b3,AV.ls xs7,bv b4,AV.ls xs8],AV.ls [[bv b22,AV.ls xs37]]] [] [.b,.E] fun b23=>
 br b23
 (askD D (Key.fn 95) [bv false] [] [.a,.I,.L,.B,.L,.B,.L,.N,.E] fun n11 xs38 b24 xs39 b25 xs40=>
 askD D (Key.fn 36) [AV.agg [iv n11,AV.ls xs38,bv b24,AV.ls xs39,bv b25,AV.ls xs40],AV.ls []] [] [.b,.E] fun b26=>
 br b26
 (some ((bv false,[])))
 (askD D (Key.fn 96) [AV.agg [iv n4,AV.ls xs20,bv b12,AV.ls xs21,bv b13,AV.ls xs22]] [] [.i,.E] fun n12=>
 br (A.eq n12 4)
 (askD D (Key.fn 97) [AV.agg [iv n4,AV.ls xs20,bv b12,AV.ls xs21,bv b13,AV.ls xs22]] [] [.l,.E] fun xs41=>
 br (A.eq (↑(lenR xs41)) 2)
 (askD D (Key.fn 41) [AV.agg [iv n4,AV.ls xs20,bv b12,AV.ls xs21,bv b13,AV.ls xs22],AV.agg [iv n4,AV.ls xs20,bv b12,AV.ls xs21,bv b13,AV.ls xs22]] [] [.b,.E] fun b27=>
 br b27
 (askD D (Key.fn 41) [AV.agg [iv n4,AV.ls xs20,bv b12,AV.ls xs21,bv b13,AV.ls xs22],AV.agg [iv n,AV.ls xs6,bv b3,AV.ls xs7,bv b4,AV.ls xs8]] [] [.b,.E] fun b28=>
 br b28
 (some ((bv false,[])))
 (askD D (Key.fn 43) [AV.agg [iv n,AV.ls xs6,bv b3,AV.ls xs7,bv b4,AV.ls xs8],AV.ls [[iv 0]],AV.ls [[AV.ls xs2,bv b1,AV.ls xs3]]] [] [.a,.I,.L,.B,.L,.B,.L,.N,.E] fun n13 xs42 b29 xs43 b30 xs44=>
 askD D (Key.fn 45) [AV.agg [iv n,AV.ls xs6,bv b3,AV.ls xs7,bv b4,AV.ls xs8],iv 1] [] [.a,.I,.L,.B,.L,.B,.L,.N,.E] fun n14 xs45 b31 xs46 b32 xs47=>
 askD D (Key.fn 41) [AV.agg [iv n13,AV.ls xs42,bv b29,AV.ls xs43,bv b30,AV.ls xs44],AV.agg [iv n14,AV.ls xs45,bv b31,AV.ls xs46,bv b32,AV.ls xs47]] [] [.b,.E] fun b33=>
 br b33
 (askD D (Key.fn 98) [AV.agg [AV.ls xs6,bv b3,AV.ls xs7,bv b4]] [] [.a,.I,.L,.B,.L,.B,.L,.N,.E] fun n15 _ _ _ _ _=>
 br (A.eq n15 2)
 (some ((bv true,[])))
 (some ((bv false,[]))))
 (some ((bv false,[])))))
 (some ((bv false,[]))))
 (some ((bv false,[]))))
 (some ((bv false,[])))))
 (some ((bv false,[]))))
 (some ((bv false,[]))))
 (some ((bv false,[]))))
 (some ((bv false,[]))))
 (some ((bv false,[]))))
 (some ((bv false,[]))))
 (some ((bv false,[]))):=by kernel_rfl
end Go.Proofs.YtpncilciembjdaaGreatDoor
