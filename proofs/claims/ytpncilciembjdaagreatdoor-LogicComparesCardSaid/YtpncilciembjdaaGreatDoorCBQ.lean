/- What layer 5's alive cal -/
import Derived.Test.YtpncilciembjdaaGreatDoorCBP
set_option linter.all false
open Bool renaming false->Φ
open Option renaming some->Θ
namespace Go.Proofs.YtpncilciembjdaaGreatDoor
noncomputable section
open AV renaming agg->ψ,ls->Ψ
open Key renaming fn->ω
open Tryz renaming prog->ι
open Go.RowKit
theorem gBu(f:Nat):Be (Bk ι f) ((Dn Af Wg 60).ask (.fn f)):=(GR (Zw ⟨Abq,AoZ,Amb,Tq,trivial⟩) 60).1 f
def dBu(f:Nat):DF:=(Dn Af Wg 60).ask (.fn f)
theorem Ao5(f:Nat):Be (Bk ι f) (dBu f):=gBu f
section
open Go.RowKit
def ApP:MFn:=AC [] 34
def Apb:Hnt:=⟨[(36,(.bool,[])),(39,(.agg BD,[])),(41,(.bool,[])),(43,(.agg BD,[])),(45,(.agg BD,[])),(47,(.tup [.ls,.int .i64],[])),(49,(.agg BD,[])),(54,(.agg BD,[])),(56,(.agg AK,[])),(91,(.agg Br,[])),(92,(.agg BD,[])),(93,(.str,[])),(94,(.agg BD,[])),(95,(.agg BD,[])),(96,(.int .i64,[])),(97,(.ls,[])),(98,(.agg BD,[]))],[],[(15,Br),(18,Br),(21,BD),(22,BD),(28,[.int .i64]),(32,[.ls]),(37,BD),(43,BD),(44,BD),(47,Br),(48,Br),(56,BD),(57,BD),(76,BD),(77,AK),(87,BD),(92,BD),(98,BD),(99,BD),(103,BD),(104,BD),(109,BD),(111,Br),(114,BD),(120,Fs)]⟩
def Alg:List (Nat × MFn):=[(34,ApP)]
variable (A:Ar) (D:Orc)
theorem e34:BZ A D As Apb .n 34 ApP [] [] =
 Ae D (ω 91) [iv 0,Ψ [[iv 1]]] [] [.a,.L,.B,.L,.N,.E] λxs b xs1=>
 Ae D (ω 91) [iv 0,Ψ [[iv 0],[iv 1]]] [] [.a,.L,.B,.L,.N,.E] λxs2 b1 xs3=>
 Ae D (ω 91) [iv 3,Ψ []] [] [.a,.L,.B,.L,.N,.E] λxs4 b2 xs5=>
 Ae D (ω 54) [iv 2,ψ [Ψ xs,bv b,Ψ xs1],ψ [Ψ xs4,bv b2,Ψ xs5]] [] [.a,.I,.L,.B,.L,.B,.L,.N,.E] λn xs6 b3 xs7 b4 xs8=>
 Ae D (ω 91) [iv 0,Ψ []] [] [.a,.L,.B,.L,.N,.E] λxs9 b5 xs10=>
 Ae D (ω 54) [iv 0,ψ [Ψ xs2,bv b1,Ψ xs3],ψ [Ψ xs9,bv b5,Ψ xs10]] [] [.a,.I,.L,.B,.L,.B,.L,.N,.E] λn1 xs11 b6 xs12 b7 xs13=>
 Ae D (ω 92) [Ψ [[iv n,Ψ xs6,bv b3,Ψ xs7,bv b4,Ψ xs8],[iv n1,Ψ xs11,bv b6,Ψ xs12,bv b7,Ψ xs13]]] [] [.a,.I,.L,.B,.L,.B,.L,.N,.E] λn2 xs14 b8 xs15 b9 xs16=>
 Ae D (ω 49) [ψ [iv n2,Ψ xs14,bv b8,Ψ xs15,bv b9,Ψ xs16]] [] [.a,.I,.L,.B,.L,.B,.L,.N,.E] λn3 xs17 b10 xs18 b11 xs19=>
 Ae D (ω 39) [ψ [iv n3,Ψ xs17,bv b10,Ψ xs18,bv b11,Ψ xs19]] [] [.a,.I,.L,.B,.L,.B,.L,.N,.E] λn4 xs20 b12 xs21 b13 xs22=>
 br (A.eq n4 5)
 (br (A.eq (↑(AI xs22)) 3)
 (Ae D (ω 93) [ψ [iv n4,Ψ xs20,bv b12,Ψ xs21,bv b13,Ψ xs22],Ψ [[sv (Cl [120])],[sv (Cl [121])]]] [] [.s,.E] λs=>
 br (A.seq s (Cl [40,120,32,45,32,51,32,62,61,32,48,32,124,32,121,32,45,32,49,32,62,61,32,48,32,124,32,45,121,32,45,32,49,32,62,61,32,48,41]))
 (Ae D (ω 94) [Ψ [[iv n,Ψ xs6,bv b3,Ψ xs7,bv b4,Ψ xs8],[iv n1,Ψ xs11,bv b6,Ψ xs12,bv b7,Ψ xs13]]] [] [.a,.I,.L,.B,.L,.B,.L,.N,.E] λn5 xs23 b14 xs24 b15 xs25=>
 Ae D (ω 54) [iv 5,ψ [Ψ xs,bv b,Ψ xs1],ψ [Ψ xs2,bv b1,Ψ xs3]] [] [.a,.I,.L,.B,.L,.B,.L,.N,.E] λn6 xs26 b16 xs27 b17 xs28=>
 Ae D (ω 92) [Ψ [[iv n5,Ψ xs23,bv b14,Ψ xs24,bv b15,Ψ xs25],[iv n6,Ψ xs26,bv b16,Ψ xs27,bv b17,Ψ xs28]]] [] [.a,.I,.L,.B,.L,.B,.L,.N,.E] λn7 xs29 b18 xs30 b19 xs31=>
 Ae D (ω 47) [ψ [iv n7,Ψ xs29,bv b18,Ψ xs30,bv b19,Ψ xs31],iv 9] [] [.t,.L,.I,.N,.E] λxs32 n8=>
 Ae D (ω 94) [Ψ [[iv n,Ψ xs6,bv b3,Ψ xs7,bv b4,Ψ xs8],[iv n1,Ψ xs11,bv b6,Ψ xs12,bv b7,Ψ xs13]]] [] [.a,.I,.L,.B,.L,.B,.L,.N,.E] λn9 xs33 b20 xs34 b21 xs35=>
 Ae D (ω 47) [ψ [iv n9,Ψ xs33,bv b20,Ψ xs34,bv b21,Ψ xs35],iv 1] [] [.t,.L,.I,.N,.E] λ_ n10=>
 Ae D (ω 56) [iv 2] [] [.a,.B,.L,.N,.E] λb22 xs37=>
 br (A.eq n8 0)
 (br (A.eq (↑(AI xs32)) 2)
 (br (A.eq n10 3)
 (Ae D (ω 36) [ψ [iv n,Ψ xs6,bv b3,Ψ xs7,bv b4,Ψ xs8],Ψ [[bv b22,Ψ xs37]]] [] [.b,.E] λb23=>
 br b23
 (Ae D (ω 95) [bv Φ] [] [.a,.I,.L,.B,.L,.B,.L,.N,.E] λn11 xs38 b24 xs39 b25 xs40=>
 Ae D (ω 36) [ψ [iv n11,Ψ xs38,bv b24,Ψ xs39,bv b25,Ψ xs40],Ψ []] [] [.b,.E] λb26=>
 br b26
 (Θ ((bv Φ,[])))
 (Ae D (ω 96) [ψ [iv n4,Ψ xs20,bv b12,Ψ xs21,bv b13,Ψ xs22]] [] [.i,.E] λn12=>
 br (A.eq n12 4)
 (Ae D (ω 97) [ψ [iv n4,Ψ xs20,bv b12,Ψ xs21,bv b13,Ψ xs22]] [] [.l,.E] λxs41=>
 br (A.eq (↑(AI xs41)) 2)
 (Ae D (ω 41) [ψ [iv n4,Ψ xs20,bv b12,Ψ xs21,bv b13,Ψ xs22],ψ [iv n4,Ψ xs20,bv b12,Ψ xs21,bv b13,Ψ xs22]] [] [.b,.E] λb27=>
 br b27
 (Ae D (ω 41) [ψ [iv n4,Ψ xs20,bv b12,Ψ xs21,bv b13,Ψ xs22],ψ [iv n,Ψ xs6,bv b3,Ψ xs7,bv b4,Ψ xs8]] [] [.b,.E] λb28=>
 br b28
 (Θ ((bv Φ,[])))
 (Ae D (ω 43) [ψ [iv n,Ψ xs6,bv b3,Ψ xs7,bv b4,Ψ xs8],Ψ [[iv 0]],Ψ [[Ψ xs2,bv b1,Ψ xs3]]] [] [.a,.I,.L,.B,.L,.B,.L,.N,.E] λn13 xs42 b29 xs43 b30 xs44=>
 Ae D (ω 45) [ψ [iv n,Ψ xs6,bv b3,Ψ xs7,bv b4,Ψ xs8],iv 1] [] [.a,.I,.L,.B,.L,.B,.L,.N,.E] λn14 xs45 b31 xs46 b32 xs47=>
 Ae D (ω 41) [ψ [iv n13,Ψ xs42,bv b29,Ψ xs43,bv b30,Ψ xs44],ψ [iv n14,Ψ xs45,bv b31,Ψ xs46,bv b32,Ψ xs47]] [] [.b,.E] λb33=>
 br b33
 (Ae D (ω 98) [ψ [Ψ xs6,bv b3,Ψ xs7,bv b4]] [] [.a,.I,.L,.B,.L,.B,.L,.N,.E] λn15 _ _ _ _ _=>
 br (A.eq n15 2)
 (Θ ((bv true,[])))
 (Θ ((bv Φ,[]))))
 (Θ ((bv Φ,[])))))
 (Θ ((bv Φ,[]))))
 (Θ ((bv Φ,[]))))
 (Θ ((bv Φ,[])))))
 (Θ ((bv Φ,[]))))
 (Θ ((bv Φ,[]))))
 (Θ ((bv Φ,[]))))
 (Θ ((bv Φ,[]))))
 (Θ ((bv Φ,[]))))
 (Θ ((bv Φ,[]))))
 (Θ ((bv Φ,[]))):=by kernel_rfl
end
def Sw:List (List (Nat × MFn)):=[Alg]
def Vw:List (Nat × DF):=[(91,Dw 91),(54,Dw 54),(92,Dw 92),(49,Dw 49),(39,dBu 39),(93,Dw 93),(94,Dw 94),(47,dBu 47),(56,Dw 56),(36,Dw 36),(95,Dw 95),(96,Dw 96),(97,Dw 97),(41,Dw 41),(43,Dw 43),(45,Dw 45),(98,Dw 98)]
def Pa:Seat:=Fr As Sw.flatten Vw
def Q7:Orc:=A1 Af Pa
set_option maxRecDepth 100000 in
theorem Aok:Ga ι Bz Sw:=by
 repeat' first|exact trivial|refine⟨⟨_,_,_,rfl⟩,by kernel_rfl,?_⟩|refine⟨?_,?_⟩
theorem Aor:(GL Sw&&OQ Sw.flatten Vw)=true:=by kernel_rfl
theorem ApE:Knows As Alg Q7:=Bv Aor (i:=0) rfl
section
variable {args:List AV} {bs:List ABlk} {r:AV × List BO}
theorem SG(h:(Dw 91) args bs=Θ r):Q7.ask (.fn 91) args bs=Θ r:=AW rfl h
theorem J3(h:(Dw 54) args bs=Θ r):Q7.ask (.fn 54) args bs=Θ r:=AW rfl h
theorem AdP(h:(Dw 92) args bs=Θ r):Q7.ask (.fn 92) args bs=Θ r:=AW rfl h
theorem AdS(h:(Dw 49) args bs=Θ r):Q7.ask (.fn 49) args bs=Θ r:=AW rfl h
theorem Ajk(h:(dBu 39) args bs=Θ r):Q7.ask (.fn 39) args bs=Θ r:=AW rfl h
theorem AdU(h:(Dw 93) args bs=Θ r):Q7.ask (.fn 93) args bs=Θ r:=AW rfl h
theorem AdQ(h:(Dw 94) args bs=Θ r):Q7.ask (.fn 94) args bs=Θ r:=AW rfl h
theorem UZ(h:(dBu 47) args bs=Θ r):Q7.ask (.fn 47) args bs=Θ r:=AW rfl h
theorem An2(h:(Dw 56) args bs=Θ r):Q7.ask (.fn 56) args bs=Θ r:=AW rfl h
theorem Q6(h:(Dw 36) args bs=Θ r):Q7.ask (.fn 36) args bs=Θ r:=AW rfl h
theorem AdX(h:(Dw 95) args bs=Θ r):Q7.ask (.fn 95) args bs=Θ r:=AW rfl h
theorem Ajo(h:(Dw 96) args bs=Θ r):Q7.ask (.fn 96) args bs=Θ r:=AW rfl h
theorem AdV(h:(Dw 97) args bs=Θ r):Q7.ask (.fn 97) args bs=Θ r:=AW rfl h
theorem Px(h:(Dw 41) args bs=Θ r):Q7.ask (.fn 41) args bs=Θ r:=AW rfl h
theorem WA(h:(Dw 43) args bs=Θ r):Q7.ask (.fn 43) args bs=Θ r:=AW rfl h
theorem AdT(h:(Dw 45) args bs=Θ r):Q7.ask (.fn 45) args bs=Θ r:=AW rfl h
theorem An1(h:(Dw 98) args bs=Θ r):Q7.ask (.fn 98) args bs=Θ r:=AW rfl h
end
theorem ZA(h:Gb ι Vw):SeatOk ι Bz Pa:=ED PN EB Aok h
