/- What layer 5's alive cal -/
import Derived.Test.YtpncilciembjdaaGreatDoorGBM
set_option linter.all false
open Bool renaming false->Ξ
open Option renaming some->Δ
namespace Go.Proofs.YtpncilciembjdaaGreatDoor
noncomputable section
open AV renaming agg->ψ,ls->Φ
open Key renaming fn->φ
open Tryz renaming prog->η
open Go.RowKit
theorem gBu(f:Nat):AN (AT η f) ((Dn Ah UG 60).ask (.fn f)):=(FZ (Xu ⟨Zq,AlT,Ajo,RQ,trivial⟩) 60).1 f
def dBu(f:Nat):DF:=(Dn Ah UG 60).ask (.fn f)
theorem AlY(f:Nat):AN (AT η f) (dBu f):=gBu f
section
open Go.RowKit
def Amw:MFn:=Au [] 34
def Al0:Hnt:=⟨[(36,(.bool,[])),(39,(.agg Bg,[])),(41,(.bool,[])),(43,(.agg Bg,[])),(45,(.agg Bg,[])),(47,(.tup [.ls,.int .i64],[])),(49,(.agg Bg,[])),(54,(.agg Bg,[])),(56,(.agg Bb,[])),(91,(.agg CH,[])),(92,(.agg Bg,[])),(93,(.str,[])),(94,(.agg Bg,[])),(95,(.agg Bg,[])),(96,(.int .i64,[])),(97,(.ls,[])),(98,(.agg Bg,[]))],[],[(15,CH),(18,CH),(21,Bg),(22,Bg),(28,[.int .i64]),(32,[.ls]),(37,Bg),(43,Bg),(44,Bg),(47,CH),(48,CH),(56,Bg),(57,Bg),(76,Bg),(77,Bb),(87,Bg),(92,Bg),(98,Bg),(99,Bg),(103,Bg),(104,Bg),(109,Bg),(111,CH),(114,Bg),(120,GG)]⟩
def AiA:List (Nat × MFn):=[(34,Amw)]
variable (A:Ar) (D:Orc)
theorem e34:BZ A D Al Al0 .n 34 Amw [] [] =
 Ad D (φ 91) [iv 0,Φ [[iv 1]]] [] [.a,.L,.B,.L,.N,.E] λxs b xs1=>
 Ad D (φ 91) [iv 0,Φ [[iv 0],[iv 1]]] [] [.a,.L,.B,.L,.N,.E] λxs2 b1 xs3=>
 Ad D (φ 91) [iv 3,Φ []] [] [.a,.L,.B,.L,.N,.E] λxs4 b2 xs5=>
 Ad D (φ 54) [iv 2,ψ [Φ xs,bv b,Φ xs1],ψ [Φ xs4,bv b2,Φ xs5]] [] [.a,.I,.L,.B,.L,.B,.L,.N,.E] λn xs6 b3 xs7 b4 xs8=>
 Ad D (φ 91) [iv 0,Φ []] [] [.a,.L,.B,.L,.N,.E] λxs9 b5 xs10=>
 Ad D (φ 54) [iv 0,ψ [Φ xs2,bv b1,Φ xs3],ψ [Φ xs9,bv b5,Φ xs10]] [] [.a,.I,.L,.B,.L,.B,.L,.N,.E] λn1 xs11 b6 xs12 b7 xs13=>
 Ad D (φ 92) [Φ [[iv n,Φ xs6,bv b3,Φ xs7,bv b4,Φ xs8],[iv n1,Φ xs11,bv b6,Φ xs12,bv b7,Φ xs13]]] [] [.a,.I,.L,.B,.L,.B,.L,.N,.E] λn2 xs14 b8 xs15 b9 xs16=>
 Ad D (φ 49) [ψ [iv n2,Φ xs14,bv b8,Φ xs15,bv b9,Φ xs16]] [] [.a,.I,.L,.B,.L,.B,.L,.N,.E] λn3 xs17 b10 xs18 b11 xs19=>
 Ad D (φ 39) [ψ [iv n3,Φ xs17,bv b10,Φ xs18,bv b11,Φ xs19]] [] [.a,.I,.L,.B,.L,.B,.L,.N,.E] λn4 xs20 b12 xs21 b13 xs22=>
 br (A.eq n4 5)
 (br (A.eq (↑(AP xs22)) 3)
 (Ad D (φ 93) [ψ [iv n4,Φ xs20,bv b12,Φ xs21,bv b13,Φ xs22],Φ [[sv (Cw [120])],[sv (Cw [121])]]] [] [.s,.E] λs=>
 br (A.seq s (Cw [40,120,32,45,32,51,32,62,61,32,48,32,124,32,121,32,45,32,49,32,62,61,32,48,32,124,32,45,121,32,45,32,49,32,62,61,32,48,41]))
 (Ad D (φ 94) [Φ [[iv n,Φ xs6,bv b3,Φ xs7,bv b4,Φ xs8],[iv n1,Φ xs11,bv b6,Φ xs12,bv b7,Φ xs13]]] [] [.a,.I,.L,.B,.L,.B,.L,.N,.E] λn5 xs23 b14 xs24 b15 xs25=>
 Ad D (φ 54) [iv 5,ψ [Φ xs,bv b,Φ xs1],ψ [Φ xs2,bv b1,Φ xs3]] [] [.a,.I,.L,.B,.L,.B,.L,.N,.E] λn6 xs26 b16 xs27 b17 xs28=>
 Ad D (φ 92) [Φ [[iv n5,Φ xs23,bv b14,Φ xs24,bv b15,Φ xs25],[iv n6,Φ xs26,bv b16,Φ xs27,bv b17,Φ xs28]]] [] [.a,.I,.L,.B,.L,.B,.L,.N,.E] λn7 xs29 b18 xs30 b19 xs31=>
 Ad D (φ 47) [ψ [iv n7,Φ xs29,bv b18,Φ xs30,bv b19,Φ xs31],iv 9] [] [.t,.L,.I,.N,.E] λxs32 n8=>
 Ad D (φ 94) [Φ [[iv n,Φ xs6,bv b3,Φ xs7,bv b4,Φ xs8],[iv n1,Φ xs11,bv b6,Φ xs12,bv b7,Φ xs13]]] [] [.a,.I,.L,.B,.L,.B,.L,.N,.E] λn9 xs33 b20 xs34 b21 xs35=>
 Ad D (φ 47) [ψ [iv n9,Φ xs33,bv b20,Φ xs34,bv b21,Φ xs35],iv 1] [] [.t,.L,.I,.N,.E] λ_ n10=>
 Ad D (φ 56) [iv 2] [] [.a,.B,.L,.N,.E] λb22 xs37=>
 br (A.eq n8 0)
 (br (A.eq (↑(AP xs32)) 2)
 (br (A.eq n10 3)
 (Ad D (φ 36) [ψ [iv n,Φ xs6,bv b3,Φ xs7,bv b4,Φ xs8],Φ [[bv b22,Φ xs37]]] [] [.b,.E] λb23=>
 br b23
 (Ad D (φ 95) [bv Ξ] [] [.a,.I,.L,.B,.L,.B,.L,.N,.E] λn11 xs38 b24 xs39 b25 xs40=>
 Ad D (φ 36) [ψ [iv n11,Φ xs38,bv b24,Φ xs39,bv b25,Φ xs40],Φ []] [] [.b,.E] λb26=>
 br b26
 (Δ ((bv Ξ,[])))
 (Ad D (φ 96) [ψ [iv n4,Φ xs20,bv b12,Φ xs21,bv b13,Φ xs22]] [] [.i,.E] λn12=>
 br (A.eq n12 4)
 (Ad D (φ 97) [ψ [iv n4,Φ xs20,bv b12,Φ xs21,bv b13,Φ xs22]] [] [.l,.E] λxs41=>
 br (A.eq (↑(AP xs41)) 2)
 (Ad D (φ 41) [ψ [iv n4,Φ xs20,bv b12,Φ xs21,bv b13,Φ xs22],ψ [iv n4,Φ xs20,bv b12,Φ xs21,bv b13,Φ xs22]] [] [.b,.E] λb27=>
 br b27
 (Ad D (φ 41) [ψ [iv n4,Φ xs20,bv b12,Φ xs21,bv b13,Φ xs22],ψ [iv n,Φ xs6,bv b3,Φ xs7,bv b4,Φ xs8]] [] [.b,.E] λb28=>
 br b28
 (Δ ((bv Ξ,[])))
 (Ad D (φ 43) [ψ [iv n,Φ xs6,bv b3,Φ xs7,bv b4,Φ xs8],Φ [[iv 0]],Φ [[Φ xs2,bv b1,Φ xs3]]] [] [.a,.I,.L,.B,.L,.B,.L,.N,.E] λn13 xs42 b29 xs43 b30 xs44=>
 Ad D (φ 45) [ψ [iv n,Φ xs6,bv b3,Φ xs7,bv b4,Φ xs8],iv 1] [] [.a,.I,.L,.B,.L,.B,.L,.N,.E] λn14 xs45 b31 xs46 b32 xs47=>
 Ad D (φ 41) [ψ [iv n13,Φ xs42,bv b29,Φ xs43,bv b30,Φ xs44],ψ [iv n14,Φ xs45,bv b31,Φ xs46,bv b32,Φ xs47]] [] [.b,.E] λb33=>
 br b33
 (Ad D (φ 98) [ψ [Φ xs6,bv b3,Φ xs7,bv b4]] [] [.a,.I,.L,.B,.L,.B,.L,.N,.E] λn15 _ _ _ _ _=>
 br (A.eq n15 2)
 (Δ ((bv true,[])))
 (Δ ((bv Ξ,[]))))
 (Δ ((bv Ξ,[])))))
 (Δ ((bv Ξ,[]))))
 (Δ ((bv Ξ,[]))))
 (Δ ((bv Ξ,[])))))
 (Δ ((bv Ξ,[]))))
 (Δ ((bv Ξ,[]))))
 (Δ ((bv Ξ,[]))))
 (Δ ((bv Ξ,[]))))
 (Δ ((bv Ξ,[]))))
 (Δ ((bv Ξ,[]))))
 (Δ ((bv Ξ,[]))):=by kernel_rfl
end
def Q0:List (List (Nat × MFn)):=[AiA]
def TV:List (Nat × DF):=[(91,C4 91),(54,C4 54),(92,C4 92),(49,C4 49),(39,dBu 39),(93,C4 93),(94,C4 94),(47,dBu 47),(56,C4 56),(36,C4 36),(95,C4 95),(96,C4 96),(97,C4 97),(41,C4 41),(43,C4 43),(45,C4 45),(98,C4 98)]
def NS:Seat:=D9 Al Q0.flatten TV
def PN:Orc:=AY Ah NS
set_option maxRecDepth 100000 in
theorem Alu:EK η Bt Q0:=by
 repeat' first|exact trivial|refine⟨⟨_,_,_,rfl⟩,by kernel_rfl,?_⟩|refine⟨?_,?_⟩
theorem AlB:(E7 Q0&&LD Q0.flatten TV)=true:=by kernel_rfl
theorem Amo:Knows Al AiA PN:=Bu AlB (i:=0) rfl
section
variable {args:List AV} {bs:List ABlk} {r:AV × List BO}
theorem Rc(h:(C4 91) args bs=Δ r):PN.ask (.fn 91) args bs=Δ r:=AZ rfl h
theorem Je(h:(C4 54) args bs=Δ r):PN.ask (.fn 54) args bs=Δ r:=AZ rfl h
theorem AbA(h:(C4 92) args bs=Δ r):PN.ask (.fn 92) args bs=Δ r:=AZ rfl h
theorem AbF(h:(C4 49) args bs=Δ r):PN.ask (.fn 49) args bs=Δ r:=AZ rfl h
theorem AgV(h:(dBu 39) args bs=Δ r):PN.ask (.fn 39) args bs=Δ r:=AZ rfl h
theorem AbH(h:(C4 93) args bs=Δ r):PN.ask (.fn 93) args bs=Δ r:=AZ rfl h
theorem AbB(h:(C4 94) args bs=Δ r):PN.ask (.fn 94) args bs=Δ r:=AZ rfl h
theorem Ti(h:(dBu 47) args bs=Δ r):PN.ask (.fn 47) args bs=Δ r:=AZ rfl h
theorem Ak9(h:(C4 56) args bs=Δ r):PN.ask (.fn 56) args bs=Δ r:=AZ rfl h
theorem PM(h:(C4 36) args bs=Δ r):PN.ask (.fn 36) args bs=Δ r:=AZ rfl h
theorem AbK(h:(C4 95) args bs=Δ r):PN.ask (.fn 95) args bs=Δ r:=AZ rfl h
theorem AgY(h:(C4 96) args bs=Δ r):PN.ask (.fn 96) args bs=Δ r:=AZ rfl h
theorem AbI(h:(C4 97) args bs=Δ r):PN.ask (.fn 97) args bs=Δ r:=AZ rfl h
theorem N8(h:(C4 41) args bs=Δ r):PN.ask (.fn 41) args bs=Δ r:=AZ rfl h
theorem UX(h:(C4 43) args bs=Δ r):PN.ask (.fn 43) args bs=Δ r:=AZ rfl h
theorem AbG(h:(C4 45) args bs=Δ r):PN.ask (.fn 45) args bs=Δ r:=AZ rfl h
theorem Ak8(h:(C4 98) args bs=Δ r):PN.ask (.fn 98) args bs=Δ r:=AZ rfl h
end
theorem XA(h:EL η TV):SeatOk η Bt NS:=DD Nt Dt Alu h
