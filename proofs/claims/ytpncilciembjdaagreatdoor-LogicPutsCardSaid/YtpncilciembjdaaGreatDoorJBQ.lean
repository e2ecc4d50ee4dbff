/- A seat of D: tables of f -/
import Derived.Test.YtpncilciembjdaaGreatDoorJBP
set_option linter.all false
open Bool renaming false->Ξ
open Option renaming some->Δ
namespace Go.Proofs.YtpncilciembjdaaGreatDoor
noncomputable section
open AV renaming agg->ξ,ls->Φ
open Key renaming fn->ω
open Tryz renaming prog->ζ
open Go.RowKit
def AcQ:List (List (Nat × MFn)):=[ApR]
def Aau:List (Nat × DF):=[(17,CS (Cs Ra)),(125,CS (Cs Q9)),(127,CS (Cs Am9)),(64,CS (Cs AcA)),(213,CS (Cs Acz)),(161,CS (Cs Am8)),(68,CS (Cs AcB)),(28,CS (Cs VD)),(27,CS (Cs AcE)),(155,CS (Cs AcD)),(25,CS (Cs Am7))]
def Vr:Seat:=CU Apr AcQ.flatten Aau
set_option maxRecDepth 100000 in
theorem AnM:Dp ζ Bn AcQ:=by
 repeat' first|exact trivial|refine⟨⟨_,_,_,rfl⟩,by kernel_rfl,?_⟩|refine⟨?_,?_⟩
theorem YF(h:Dr ζ Aau):SeatOk ζ Bn Vr:=Cx GW Cv AnM h
section
open Go.RowKit
theorem gTy(f:Nat):A1 (Bi ζ f) ((Dn Ah Vr 60).ask (.fn f)):=(Fa (YF ⟨AaD,AaC,Aov,Alm,All,Aou,Aln,AdV,Alr,Alq,Aop,trivial⟩) 60).1 f
def An1(f:Nat):DF:=(Dn Ah Vr 60).ask (.fn f)
def ZN:DF:=CS (J5 An1)
theorem TC:A1 (Bi ζ 33) ZN:=PX An1 gTy
def AcC:List (Aa × AV):=[([.ls [rL,rG]],.tup [.ls [rL,rG],bv true]),([.ls [U8,rG]],.tup [.ls [rG,U8],bv true])]
set_option maxRecDepth 1000000
theorem Ari:ZN [.ls [rL,rG]] []=Δ (.tup [.ls [rL,rG],bv true],[]):=by kernel_rfl
theorem Arj:ZN [.ls [U8,rG]] []=Δ (.tup [.ls [rG,U8],bv true],[]):=by kernel_rfl
theorem Alo:A1 (Bi ζ 33) (CS (Cs AcC)):=CF TC _ (by
 unfold AcC;simp only[List.mem_cons,List.not_mem_nil,or_false];rintro p (rfl|rfl)
 .exact Ari
 .exact Arj)
end
def Apq:List (Nat × Nat):=[(136,0),(196,0),(234,0),(235,0),(265,0),(275,0),(140,0),(199,0),(262,0),(264,0),(261,0)]
def Amo:MFn:=AE [] 39
def Agr:MFn:=AE [⟨69,(mB 234881072),[],[],[(2,((mB 48),([],[])))]⟩] 104
def Amq:MFn:=AE [] 95
def Agt:MFn:=AE [] 172
def Agu:MFn:=AE [⟨68,(mB 1841),[],[],[(0,((mB 16),([],[]))),(1,((mB 49),([],[])))]⟩] 173
def Agv:MFn:=AE [⟨22,(mB 1826),[],[],[(1,((mB 32),([],[])))]⟩] 174
def Amp:MFn:=AE [⟨41,(mB 58720512),[],[],[(1,((mB 256),([],[])))]⟩] 47
def Ags:MFn:=AE [] 117
def Agw:MFn:=AE [⟨39,(mB 14402),[],[],[(0,((mB 48),([],[]))),(1,((mB 64),([],[])))]⟩] 176
def Agx:MFn:=AE [⟨69,(mB 917570),[],[],[(0,((mB 48),([],[]))),(1,((mB 64),([],[])))]⟩,⟨69,(mB 246290605541890),[],[],[(3,((mB 919554),([],[])))]⟩,⟨69,(mB 16008889301346818),[],[],[(5,((mB 246290605541890),([],[])))]⟩] 177
def Agy:MFn:=AE [⟨36,(mB 3593),[],[],[(1,((mB 9),([],[])))]⟩,⟨36,(mB 234881088),[],[],[(3,((mB 64),([],[])))]⟩] 227
def ApN:List (Nat × MFn):=[(39,Amo),(104,Agr),(95,Amq),(172,Agt),(173,Agu),(174,Agv),(47,Amp),(117,Ags),(176,Agw),(177,Agx),(227,Agy)]
def AcP:List (List (Nat × MFn)):=[ApN]
def Aat:List (Nat × DF):=[(17,CS (Cs Ra)),(23,CS (Cs Acy)),(33,CS (Cs AcC)),(261,DS 4 (Dy 64))]
def Vo:Seat:=CU Apq AcP.flatten Aat
set_option maxRecDepth 100000 in
theorem Anw:Dp ζ Bn AcP:=by
 repeat' first|exact trivial|refine⟨⟨_,_,_,rfl⟩,by kernel_rfl,?_⟩|refine⟨?_,?_⟩
theorem Ys(h:Dr ζ Aat):SeatOk ζ Bn Vo:=Cx GW Cv Anw h
theorem gBu(f:Nat):A1 (Bi ζ f) ((Dn Ah Vo 60).ask (.fn f)):=(Fa (Ys ⟨AaD,Aor,Alo,Sb,trivial⟩) 60).1 f
def dBu(f:Nat):DF:=(Dn Ah Vo 60).ask (.fn f)
theorem Aow(f:Nat):A1 (Bi ζ f) (dBu f):=gBu f
section
open Go.RowKit
def Ao3:MFn:=AE [] 34
def Aox:Hnt:=⟨[(36,(.bool,[])),(39,(.agg AL,[])),(41,(.bool,[])),(43,(.agg AL,[])),(45,(.agg AL,[])),(47,(.tup [.ls,.int .i64],[])),(49,(.agg AL,[])),(54,(.agg AL,[])),(56,(.agg Bv,[])),(91,(.agg Bx,[])),(92,(.agg AL,[])),(93,(.str,[])),(94,(.agg AL,[])),(95,(.agg AL,[])),(96,(.int .i64,[])),(97,(.ls,[])),(98,(.agg AL,[]))],[],[(15,Bx),(18,Bx),(21,AL),(22,AL),(28,[.int .i64]),(32,[.ls]),(37,AL),(43,AL),(44,AL),(47,Bx),(48,Bx),(56,AL),(57,AL),(76,AL),(77,Bv),(87,AL),(92,AL),(98,AL),(99,AL),(103,AL),(104,AL),(109,AL),(111,Bx),(114,AL),(120,Er)]⟩
def AkB:List (Nat × MFn):=[(34,Ao3)]
variable (A:Ar) (D:Orc)
theorem e34:BZ A D Aq Aox .n 34 Ao3 [] [] =
 Ag D (ω 91) [iv 0,Φ [[iv 1]]] [] [.a,.L,.B,.L,.N,.E] λxs b xs1=>
 Ag D (ω 91) [iv 0,Φ [[iv 0],[iv 1]]] [] [.a,.L,.B,.L,.N,.E] λxs2 b1 xs3=>
 Ag D (ω 91) [iv 3,Φ []] [] [.a,.L,.B,.L,.N,.E] λxs4 b2 xs5=>
 Ag D (ω 54) [iv 2,ξ [Φ xs,bv b,Φ xs1],ξ [Φ xs4,bv b2,Φ xs5]] [] [.a,.I,.L,.B,.L,.B,.L,.N,.E] λn xs6 b3 xs7 b4 xs8=>
 Ag D (ω 91) [iv 0,Φ []] [] [.a,.L,.B,.L,.N,.E] λxs9 b5 xs10=>
 Ag D (ω 54) [iv 0,ξ [Φ xs2,bv b1,Φ xs3],ξ [Φ xs9,bv b5,Φ xs10]] [] [.a,.I,.L,.B,.L,.B,.L,.N,.E] λn1 xs11 b6 xs12 b7 xs13=>
 Ag D (ω 92) [Φ [[iv n,Φ xs6,bv b3,Φ xs7,bv b4,Φ xs8],[iv n1,Φ xs11,bv b6,Φ xs12,bv b7,Φ xs13]]] [] [.a,.I,.L,.B,.L,.B,.L,.N,.E] λn2 xs14 b8 xs15 b9 xs16=>
 Ag D (ω 49) [ξ [iv n2,Φ xs14,bv b8,Φ xs15,bv b9,Φ xs16]] [] [.a,.I,.L,.B,.L,.B,.L,.N,.E] λn3 xs17 b10 xs18 b11 xs19=>
 Ag D (ω 39) [ξ [iv n3,Φ xs17,bv b10,Φ xs18,bv b11,Φ xs19]] [] [.a,.I,.L,.B,.L,.B,.L,.N,.E] λn4 xs20 b12 xs21 b13 xs22=>
 br (A.eq n4 5)
 (br (A.eq (↑(Bb xs22)) 3)
 (Ag D (ω 93) [ξ [iv n4,Φ xs20,bv b12,Φ xs21,bv b13,Φ xs22],Φ [[sv (CP [120])],[sv (CP [121])]]] [] [.s,.E] λs=>
 br (A.seq s (CP [40,120,32,45,32,51,32,62,61,32,48,32,124,32,121,32,45,32,49,32,62,61,32,48,32,124,32,45,121,32,45,32,49,32,62,61,32,48,41]))
 (Ag D (ω 94) [Φ [[iv n,Φ xs6,bv b3,Φ xs7,bv b4,Φ xs8],[iv n1,Φ xs11,bv b6,Φ xs12,bv b7,Φ xs13]]] [] [.a,.I,.L,.B,.L,.B,.L,.N,.E] λn5 xs23 b14 xs24 b15 xs25=>
 Ag D (ω 54) [iv 5,ξ [Φ xs,bv b,Φ xs1],ξ [Φ xs2,bv b1,Φ xs3]] [] [.a,.I,.L,.B,.L,.B,.L,.N,.E] λn6 xs26 b16 xs27 b17 xs28=>
 Ag D (ω 92) [Φ [[iv n5,Φ xs23,bv b14,Φ xs24,bv b15,Φ xs25],[iv n6,Φ xs26,bv b16,Φ xs27,bv b17,Φ xs28]]] [] [.a,.I,.L,.B,.L,.B,.L,.N,.E] λn7 xs29 b18 xs30 b19 xs31=>
 Ag D (ω 47) [ξ [iv n7,Φ xs29,bv b18,Φ xs30,bv b19,Φ xs31],iv 9] [] [.t,.L,.I,.N,.E] λxs32 n8=>
 Ag D (ω 94) [Φ [[iv n,Φ xs6,bv b3,Φ xs7,bv b4,Φ xs8],[iv n1,Φ xs11,bv b6,Φ xs12,bv b7,Φ xs13]]] [] [.a,.I,.L,.B,.L,.B,.L,.N,.E] λn9 xs33 b20 xs34 b21 xs35=>
 Ag D (ω 47) [ξ [iv n9,Φ xs33,bv b20,Φ xs34,bv b21,Φ xs35],iv 1] [] [.t,.L,.I,.N,.E] λ_ n10=>
 Ag D (ω 56) [iv 2] [] [.a,.B,.L,.N,.E] λb22 xs37=>
 br (A.eq n8 0)
 (br (A.eq (↑(Bb xs32)) 2)
 (br (A.eq n10 3)
 (Ag D (ω 36) [ξ [iv n,Φ xs6,bv b3,Φ xs7,bv b4,Φ xs8],Φ [[bv b22,Φ xs37]]] [] [.b,.E] λb23=>
 br b23
 (Ag D (ω 95) [bv Ξ] [] [.a,.I,.L,.B,.L,.B,.L,.N,.E] λn11 xs38 b24 xs39 b25 xs40=>
 Ag D (ω 36) [ξ [iv n11,Φ xs38,bv b24,Φ xs39,bv b25,Φ xs40],Φ []] [] [.b,.E] λb26=>
 br b26
 (Δ ((bv Ξ,[])))
 (Ag D (ω 96) [ξ [iv n4,Φ xs20,bv b12,Φ xs21,bv b13,Φ xs22]] [] [.i,.E] λn12=>
 br (A.eq n12 4)
 (Ag D (ω 97) [ξ [iv n4,Φ xs20,bv b12,Φ xs21,bv b13,Φ xs22]] [] [.l,.E] λxs41=>
 br (A.eq (↑(Bb xs41)) 2)
 (Ag D (ω 41) [ξ [iv n4,Φ xs20,bv b12,Φ xs21,bv b13,Φ xs22],ξ [iv n4,Φ xs20,bv b12,Φ xs21,bv b13,Φ xs22]] [] [.b,.E] λb27=>
 br b27
 (Ag D (ω 41) [ξ [iv n4,Φ xs20,bv b12,Φ xs21,bv b13,Φ xs22],ξ [iv n,Φ xs6,bv b3,Φ xs7,bv b4,Φ xs8]] [] [.b,.E] λb28=>
 br b28
 (Δ ((bv Ξ,[])))
 (Ag D (ω 43) [ξ [iv n,Φ xs6,bv b3,Φ xs7,bv b4,Φ xs8],Φ [[iv 0]],Φ [[Φ xs2,bv b1,Φ xs3]]] [] [.a,.I,.L,.B,.L,.B,.L,.N,.E] λn13 xs42 b29 xs43 b30 xs44=>
 Ag D (ω 45) [ξ [iv n,Φ xs6,bv b3,Φ xs7,bv b4,Φ xs8],iv 1] [] [.a,.I,.L,.B,.L,.B,.L,.N,.E] λn14 xs45 b31 xs46 b32 xs47=>
 Ag D (ω 41) [ξ [iv n13,Φ xs42,bv b29,Φ xs43,bv b30,Φ xs44],ξ [iv n14,Φ xs45,bv b31,Φ xs46,bv b32,Φ xs47]] [] [.b,.E] λb33=>
 br b33
 (Ag D (ω 98) [ξ [Φ xs6,bv b3,Φ xs7,bv b4]] [] [.a,.I,.L,.B,.L,.B,.L,.N,.E] λn15 _ _ _ _ _=>
 br (A.eq n15 2)
 (Δ ((bv true,[])))
 (Δ ((bv Ξ,[]))))
 (Δ ((bv Ξ,[])))))
 (Δ ((bv Ξ,[]))))
 (Δ ((bv Ξ,[]))))
 (Δ ((bv Ξ,[])))))
 (Δ ((bv Ξ,[]))))
 (Δ ((bv Ξ,[]))))
 (Δ ((bv Ξ,[]))))
 (Δ ((bv Ξ,[]))))
 (Δ ((bv Ξ,[]))))
 (Δ ((bv Ξ,[]))))
 (Δ ((bv Ξ,[]))):=by kernel_rfl
end
def Rq:List (List (Nat × MFn)):=[AkB]
def UA:List (Nat × DF):=[(91,Ds 91),(54,Ds 54),(92,Ds 92),(49,Ds 49),(39,dBu 39),(93,Ds 93),(94,Ds 94),(47,dBu 47),(56,Ds 56),(36,Ds 36),(95,Ds 95),(96,Ds 96),(97,Ds 97),(41,Ds 41),(43,Ds 43),(45,Ds 45),(98,Ds 98)]
def Oo:Seat:=CU Aq Rq.flatten UA
def Qb:Orc:=AB Ah Oo
set_option maxRecDepth 100000 in
theorem AnL:Dp ζ Bn Rq:=by
 repeat' first|exact trivial|refine⟨⟨_,_,_,rfl⟩,by kernel_rfl,?_⟩|refine⟨?_,?_⟩
theorem AnX:(Da Rq&&Fk Rq.flatten UA)=true:=by kernel_rfl
theorem AoS:Knows Aq AkB Qb:=BD AnX (i:=0) rfl
section
variable {args:Aa} {bs:List ABlk} {r:AV × List BO}
theorem RD(h:(Ds 91) args bs=Δ r):Qb.ask (.fn 91) args bs=Δ r:=AF rfl h
theorem Jl(h:(Ds 54) args bs=Δ r):Qb.ask (.fn 54) args bs=Δ r:=AF rfl h
theorem Ac6(h:(Ds 92) args bs=Δ r):Qb.ask (.fn 92) args bs=Δ r:=AF rfl h
theorem Ac9(h:(Ds 49) args bs=Δ r):Qb.ask (.fn 49) args bs=Δ r:=AF rfl h
theorem AiI(h:(dBu 39) args bs=Δ r):Qb.ask (.fn 39) args bs=Δ r:=AF rfl h
theorem Adb(h:(Ds 93) args bs=Δ r):Qb.ask (.fn 93) args bs=Δ r:=AF rfl h
theorem Ac7(h:(Ds 94) args bs=Δ r):Qb.ask (.fn 94) args bs=Δ r:=AF rfl h
theorem TQ(h:(dBu 47) args bs=Δ r):Qb.ask (.fn 47) args bs=Δ r:=AF rfl h
theorem Anh(h:(Ds 56) args bs=Δ r):Qb.ask (.fn 56) args bs=Δ r:=AF rfl h
theorem Qa(h:(Ds 36) args bs=Δ r):Qb.ask (.fn 36) args bs=Δ r:=AF rfl h
theorem Adj(h:(Ds 95) args bs=Δ r):Qb.ask (.fn 95) args bs=Δ r:=AF rfl h
theorem AiQ(h:(Ds 96) args bs=Δ r):Qb.ask (.fn 96) args bs=Δ r:=AF rfl h
theorem Adc(h:(Ds 97) args bs=Δ r):Qb.ask (.fn 97) args bs=Δ r:=AF rfl h
theorem OF(h:(Ds 41) args bs=Δ r):Qb.ask (.fn 41) args bs=Δ r:=AF rfl h
theorem VI(h:(Ds 43) args bs=Δ r):Qb.ask (.fn 43) args bs=Δ r:=AF rfl h
theorem Ada(h:(Ds 45) args bs=Δ r):Qb.ask (.fn 45) args bs=Δ r:=AF rfl h
theorem Ang(h:(Ds 98) args bs=Δ r):Qb.ask (.fn 98) args bs=Δ r:=AF rfl h
end
theorem YE(h:Dr ζ UA):SeatOk ζ Bn Oo:=Cx GW Cv AnL h
