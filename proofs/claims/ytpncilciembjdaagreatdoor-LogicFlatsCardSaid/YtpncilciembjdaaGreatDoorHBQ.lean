/- What layer 5's alive cal -/
import Derived.Test.YtpncilciembjdaaGreatDoorHBP
set_option linter.all false
open Bool renaming false->Φ
open Option renaming some->Θ
namespace Go.Proofs.YtpncilciembjdaaGreatDoor
noncomputable section
open AV renaming agg->δ,ls->Ψ
open Key renaming fn->φ
open Tryz renaming prog->Av9
open Go.RowKit
theorem gBu(f:Nat):BD (BL Av9 f) ((Dn Ap W0 60).ask (.fn f)):=(He (Aar ⟨Acu,Aqp,AnN,T4,trivial⟩) 60).1 f
def dBu(f:Nat):DF:=(Dn Ap W0 60).ask (.fn f)
theorem Aqv(f:Nat):BD (BL Av9 f) (dBu f):=gBu f
section
open Go.RowKit
def Art:MFn:=AN [] 34
def AqD:Hnt:=⟨[(36,(.bool,[])),(39,(.agg Bn,[])),(41,(.bool,[])),(43,(.agg Bn,[])),(45,(.agg Bn,[])),(47,(.tup [.ls,.int .i64],[])),(49,(.agg Bn,[])),(54,(.agg Bn,[])),(56,(.agg AL,[])),(91,(.agg BJ,[])),(92,(.agg Bn,[])),(93,(.str,[])),(94,(.agg Bn,[])),(95,(.agg Bn,[])),(96,(.int .i64,[])),(97,(.ls,[])),(98,(.agg Bn,[]))],[],[(15,BJ),(18,BJ),(21,Bn),(22,Bn),(28,[.int .i64]),(32,[.ls]),(37,Bn),(43,Bn),(44,Bn),(47,BJ),(48,BJ),(56,Bn),(57,Bn),(76,Bn),(77,AL),(87,Bn),(92,Bn),(98,Bn),(99,Bn),(103,Bn),(104,Bn),(109,Bn),(111,BJ),(114,Bn),(120,Di)]⟩
def AmR:List (Nat × MFn):=[(34,Art)]
variable (A:Ar) (D:Orc)
theorem e34:B3 A D Au AqD .n 34 Art [] [] =
 Ai D (φ 91) [iv 0,Ψ [[iv 1]]] [] [.a,.L,.B,.L,.N,.E] λxs b xs1=>
 Ai D (φ 91) [iv 0,Ψ [[iv 0],[iv 1]]] [] [.a,.L,.B,.L,.N,.E] λxs2 b1 xs3=>
 Ai D (φ 91) [iv 3,Ψ []] [] [.a,.L,.B,.L,.N,.E] λxs4 b2 xs5=>
 Ai D (φ 54) [iv 2,δ [Ψ xs,bv b,Ψ xs1],δ [Ψ xs4,bv b2,Ψ xs5]] [] [.a,.I,.L,.B,.L,.B,.L,.N,.E] λn xs6 b3 xs7 b4 xs8=>
 Ai D (φ 91) [iv 0,Ψ []] [] [.a,.L,.B,.L,.N,.E] λxs9 b5 xs10=>
 Ai D (φ 54) [iv 0,δ [Ψ xs2,bv b1,Ψ xs3],δ [Ψ xs9,bv b5,Ψ xs10]] [] [.a,.I,.L,.B,.L,.B,.L,.N,.E] λn1 xs11 b6 xs12 b7 xs13=>
 Ai D (φ 92) [Ψ [[iv n,Ψ xs6,bv b3,Ψ xs7,bv b4,Ψ xs8],[iv n1,Ψ xs11,bv b6,Ψ xs12,bv b7,Ψ xs13]]] [] [.a,.I,.L,.B,.L,.B,.L,.N,.E] λn2 xs14 b8 xs15 b9 xs16=>
 Ai D (φ 49) [δ [iv n2,Ψ xs14,bv b8,Ψ xs15,bv b9,Ψ xs16]] [] [.a,.I,.L,.B,.L,.B,.L,.N,.E] λn3 xs17 b10 xs18 b11 xs19=>
 Ai D (φ 39) [δ [iv n3,Ψ xs17,bv b10,Ψ xs18,bv b11,Ψ xs19]] [] [.a,.I,.L,.B,.L,.B,.L,.N,.E] λn4 xs20 b12 xs21 b13 xs22=>
 br (A.eq n4 5)
 (br (A.eq (↑(AT xs22)) 3)
 (Ai D (φ 93) [δ [iv n4,Ψ xs20,bv b12,Ψ xs21,bv b13,Ψ xs22],Ψ [[sv (CH [120])],[sv (CH [121])]]] [] [.s,.E] λs=>
 br (A.seq s (CH [40,120,32,45,32,51,32,62,61,32,48,32,124,32,121,32,45,32,49,32,62,61,32,48,32,124,32,45,121,32,45,32,49,32,62,61,32,48,41]))
 (Ai D (φ 94) [Ψ [[iv n,Ψ xs6,bv b3,Ψ xs7,bv b4,Ψ xs8],[iv n1,Ψ xs11,bv b6,Ψ xs12,bv b7,Ψ xs13]]] [] [.a,.I,.L,.B,.L,.B,.L,.N,.E] λn5 xs23 b14 xs24 b15 xs25=>
 Ai D (φ 54) [iv 5,δ [Ψ xs,bv b,Ψ xs1],δ [Ψ xs2,bv b1,Ψ xs3]] [] [.a,.I,.L,.B,.L,.B,.L,.N,.E] λn6 xs26 b16 xs27 b17 xs28=>
 Ai D (φ 92) [Ψ [[iv n5,Ψ xs23,bv b14,Ψ xs24,bv b15,Ψ xs25],[iv n6,Ψ xs26,bv b16,Ψ xs27,bv b17,Ψ xs28]]] [] [.a,.I,.L,.B,.L,.B,.L,.N,.E] λn7 xs29 b18 xs30 b19 xs31=>
 Ai D (φ 47) [δ [iv n7,Ψ xs29,bv b18,Ψ xs30,bv b19,Ψ xs31],iv 9] [] [.t,.L,.I,.N,.E] λxs32 n8=>
 Ai D (φ 94) [Ψ [[iv n,Ψ xs6,bv b3,Ψ xs7,bv b4,Ψ xs8],[iv n1,Ψ xs11,bv b6,Ψ xs12,bv b7,Ψ xs13]]] [] [.a,.I,.L,.B,.L,.B,.L,.N,.E] λn9 xs33 b20 xs34 b21 xs35=>
 Ai D (φ 47) [δ [iv n9,Ψ xs33,bv b20,Ψ xs34,bv b21,Ψ xs35],iv 1] [] [.t,.L,.I,.N,.E] λ_ n10=>
 Ai D (φ 56) [iv 2] [] [.a,.B,.L,.N,.E] λb22 xs37=>
 br (A.eq n8 0)
 (br (A.eq (↑(AT xs32)) 2)
 (br (A.eq n10 3)
 (Ai D (φ 36) [δ [iv n,Ψ xs6,bv b3,Ψ xs7,bv b4,Ψ xs8],Ψ [[bv b22,Ψ xs37]]] [] [.b,.E] λb23=>
 br b23
 (Ai D (φ 95) [bv Φ] [] [.a,.I,.L,.B,.L,.B,.L,.N,.E] λn11 xs38 b24 xs39 b25 xs40=>
 Ai D (φ 36) [δ [iv n11,Ψ xs38,bv b24,Ψ xs39,bv b25,Ψ xs40],Ψ []] [] [.b,.E] λb26=>
 br b26
 (Θ ((bv Φ,[])))
 (Ai D (φ 96) [δ [iv n4,Ψ xs20,bv b12,Ψ xs21,bv b13,Ψ xs22]] [] [.i,.E] λn12=>
 br (A.eq n12 4)
 (Ai D (φ 97) [δ [iv n4,Ψ xs20,bv b12,Ψ xs21,bv b13,Ψ xs22]] [] [.l,.E] λxs41=>
 br (A.eq (↑(AT xs41)) 2)
 (Ai D (φ 41) [δ [iv n4,Ψ xs20,bv b12,Ψ xs21,bv b13,Ψ xs22],δ [iv n4,Ψ xs20,bv b12,Ψ xs21,bv b13,Ψ xs22]] [] [.b,.E] λb27=>
 br b27
 (Ai D (φ 41) [δ [iv n4,Ψ xs20,bv b12,Ψ xs21,bv b13,Ψ xs22],δ [iv n,Ψ xs6,bv b3,Ψ xs7,bv b4,Ψ xs8]] [] [.b,.E] λb28=>
 br b28
 (Θ ((bv Φ,[])))
 (Ai D (φ 43) [δ [iv n,Ψ xs6,bv b3,Ψ xs7,bv b4,Ψ xs8],Ψ [[iv 0]],Ψ [[Ψ xs2,bv b1,Ψ xs3]]] [] [.a,.I,.L,.B,.L,.B,.L,.N,.E] λn13 xs42 b29 xs43 b30 xs44=>
 Ai D (φ 45) [δ [iv n,Ψ xs6,bv b3,Ψ xs7,bv b4,Ψ xs8],iv 1] [] [.a,.I,.L,.B,.L,.B,.L,.N,.E] λn14 xs45 b31 xs46 b32 xs47=>
 Ai D (φ 41) [δ [iv n13,Ψ xs42,bv b29,Ψ xs43,bv b30,Ψ xs44],δ [iv n14,Ψ xs45,bv b31,Ψ xs46,bv b32,Ψ xs47]] [] [.b,.E] λb33=>
 br b33
 (Ai D (φ 98) [δ [Ψ xs6,bv b3,Ψ xs7,bv b4]] [] [.a,.I,.L,.B,.L,.B,.L,.N,.E] λn15 _ _ _ _ _=>
 br (A.eq n15 2)
 (Θ ((bv true,[])))
 (Θ ((bv Φ,[]))))
 (Θ ((bv Φ,[])))))
 (Θ ((bv Φ,[]))))
 (Θ ((bv Φ,[]))))
 (Θ ((bv Φ,[])))))
 (Θ ((bv Φ,[]))))
 (Θ ((bv Φ,[]))))
 (Θ ((bv Φ,[]))))
 (Θ ((bv Φ,[]))))
 (Θ ((bv Φ,[]))))
 (Θ ((bv Φ,[]))))
 (Θ ((bv Φ,[]))):=by kernel_rfl
end
def Td:List (List (Nat × MFn)):=[AmR]
def Wa:List (Nat × DF):=[(91,DU 91),(54,DU 54),(92,DU 92),(49,DU 49),(39,dBu 39),(93,DU 93),(94,DU 94),(47,dBu 47),(56,DU 56),(36,DU 36),(95,DU 95),(96,DU 96),(97,DU 97),(41,DU 41),(43,DU 43),(45,DU 45),(98,DU 98)]
def Px:Seat:=FK Au Td.flatten Wa
def RJ:Orc:=By Ap Px
set_option maxRecDepth 100000 in
theorem ApP:Gy Av9 B4 Td:=by
 repeat' first|exact trivial|refine⟨⟨_,_,_,rfl⟩,by kernel_rfl,?_⟩|refine⟨?_,?_⟩
theorem ApU:(G7 Td&&O8 Td.flatten Wa)=true:=by kernel_rfl
theorem Arg:Knows Au AmR RJ:=BH ApU (i:=0) rfl
section
variable {args:Ab} {bs:List ABlk} {r:AV × List BO}
theorem Tn(h:(DU 91) args bs=Θ r):RJ.ask (.fn 91) args bs=Θ r:=Bq rfl h
theorem Kx(h:(DU 54) args bs=Θ r):RJ.ask (.fn 54) args bs=Θ r:=Bq rfl h
theorem AeS(h:(DU 92) args bs=Θ r):RJ.ask (.fn 92) args bs=Θ r:=Bq rfl h
theorem AeW(h:(DU 49) args bs=Θ r):RJ.ask (.fn 49) args bs=Θ r:=Bq rfl h
theorem AkM(h:(dBu 39) args bs=Θ r):RJ.ask (.fn 39) args bs=Θ r:=Bq rfl h
theorem AeY(h:(DU 93) args bs=Θ r):RJ.ask (.fn 93) args bs=Θ r:=Bq rfl h
theorem AeT(h:(DU 94) args bs=Θ r):RJ.ask (.fn 94) args bs=Θ r:=Bq rfl h
theorem VF(h:(dBu 47) args bs=Θ r):RJ.ask (.fn 47) args bs=Θ r:=Bq rfl h
theorem ApD(h:(DU 56) args bs=Θ r):RJ.ask (.fn 56) args bs=Θ r:=Bq rfl h
theorem RI(h:(DU 36) args bs=Θ r):RJ.ask (.fn 36) args bs=Θ r:=Bq rfl h
theorem Ae1(h:(DU 95) args bs=Θ r):RJ.ask (.fn 95) args bs=Θ r:=Bq rfl h
theorem AkP(h:(DU 96) args bs=Θ r):RJ.ask (.fn 96) args bs=Θ r:=Bq rfl h
theorem AeZ(h:(DU 97) args bs=Θ r):RJ.ask (.fn 97) args bs=Θ r:=Bq rfl h
theorem PQ(h:(DU 41) args bs=Θ r):RJ.ask (.fn 41) args bs=Θ r:=Bq rfl h
theorem Xr(h:(DU 43) args bs=Θ r):RJ.ask (.fn 43) args bs=Θ r:=Bq rfl h
theorem AeX(h:(DU 45) args bs=Θ r):RJ.ask (.fn 45) args bs=Θ r:=Bq rfl h
theorem ApC(h:(DU 98) args bs=Θ r):RJ.ask (.fn 98) args bs=Θ r:=Bq rfl h
end
theorem Aau(h:GA Av9 Wa):SeatOk Av9 B4 Px:=EU P7 ES ApP h
