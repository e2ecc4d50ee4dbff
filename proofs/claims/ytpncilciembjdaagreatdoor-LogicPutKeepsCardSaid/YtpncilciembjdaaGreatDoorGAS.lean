/- A seat of D: tables of f -/
import Derived.Test.YtpncilciembjdaaGreatDoorGAR
set_option linter.all false
open Bool renaming false->Ξ,true->U
open List renaming drop->Aqp,take->Aqj
open Option renaming some->Δ
namespace Go.Proofs.YtpncilciembjdaaGreatDoor
noncomputable section
open ABlk renaming mk->Ω
open AV renaming agg->ψ,ls->Φ,sl->κ,v->AqC
open BO renaming set->Aqu
open Key renaming fn->φ
open Tryz renaming prog->η
open Go.RowKit
def QU:List (List (Nat × MFn)):=[Py,V0,Hp,LN,S1,VX,Abd,Abc,Abg]
def TQ:List (Nat × DF):=[(236,Dy 1 (BP 1 4)),(135,Dy 3 (BP 3 40)),(262,Dy 3 (C9 40))]
def Dd:Seat:=D9 Al QU.flatten TQ
def Tj:Orc:=AY Ah Dd
set_option maxRecDepth 100000 in
theorem Alp:EK η Bt QU:=by
 repeat' first|exact trivial|refine⟨⟨_,_,_,rfl⟩,by kernel_rfl,?_⟩|refine⟨?_,?_⟩
theorem Jh:(E7 QU&&LD QU.flatten TQ)=U:=by kernel_rfl
theorem Amf:Knows Al Py Tj:=Bu Jh (i:=0) rfl
theorem Amq:Knows Al V0 Tj:=Bu Jh (i:=1) rfl
theorem ZM:Knows Al Hp Tj:=Bu Jh (i:=2) rfl
theorem Vf:Knows Al LN Tj:=Bu Jh (i:=3) rfl
theorem Amp:Knows Al S1 Tj:=Bu Jh (i:=4) rfl
theorem Amd:Knows Al VX Tj:=Bu Jh (i:=5) rfl
theorem Ame:Knows Al Abd Tj:=Bu Jh (i:=6) rfl
theorem Ve:Knows Al Abc Tj:=Bu Jh (i:=7) rfl
theorem Ami:Knows Al Abg Tj:=Bu Jh (i:=8) rfl
section
variable {args:List AV} {bs:List ABlk} {r:AV × List BO}
theorem X7(h:(Dy 1 (BP 1 4)) args bs=Δ r):Tj.ask (.fn 236) args bs=Δ r:=AZ rfl h
theorem X8(h:(Dy 3 (BP 3 40)) args bs=Δ r):Tj.ask (.fn 135) args bs=Δ r:=AZ rfl h
theorem AbD(h:(Dy 3 (C9 40)) args bs=Δ r):Tj.ask (.fn 262) args bs=Δ r:=AZ rfl h
end
theorem Xv(h:EL η TQ):SeatOk η Bt Dd:=DD Nt Dt Alp h
section
open Go.RowKit
def Qm:MFn:=LA η Bt [⟨19,(mB 456),[(3,6)],[],[(1,((mB 8),([],[])))]⟩] U Ξ 165
def M8:Hnt:=⟨[(107,(.agg Bg,[]))],[(0,[(1,([.sl 1 6],[.del,.row U]))])],[(10,Bg),(11,Bg),(13,Bg)]⟩
def Abe:List (Nat × MFn):=[(165,Qm)]
variable (A:Ar) (D:Orc)
theorem AlI(x0:Rw):BZ A D Al M8 .n 165 Qm [Φ x0] [] =
 Ad D (Key.lp 165 0) [κ 0 0 0 6,Φ x0,iv ↑(AP x0),iv 0] [Ω [] U U] [.t,.C,.x,.X,.Y] λc l o=>
 br (Bf 1 c)
 (dk [.C,.q 1 6,.N,.D,.R,.X,.E] [.l l,.o o] λn cs1=>
 Δ ((κ 0 0 n 6,[Aqu (Ω cs1 U U)])))
 (none):=by kernel_rfl
theorem U5(n3:Nat)(c3:List AV)(t6:Rw)(t7 t8:Int):Dl A D Al M8 .n 165 0 (AL Qm 0).fst (AL Qm 0).snd [κ 0 0 n3 6,Φ t6,iv t7,iv t8] [{ cells:=c3,st:=U,ex:=U }] =
 br (A.lt t8 t7)
 (unI t8 λi=>
 Bh t6 i λcs=>
 dk [.I,.L,.B,.L,.B,.L,.N] [.l cs] λn xs b xs1 b1 xs2=>
 Ad D (φ 107) [ψ [iv n,Φ xs,bv b,Φ xs1,bv b1,Φ xs2]] [] [.a,.I,.L,.B,.L,.B,.L,.N,.E] λn1 xs3 b2 xs4 b3 xs5=>
 br (Bc (n3+1) 96) (br ((0+n3*6).ble c3.length) (AG D (Key.lp 165 0) [κ 0 0 (n3+1) 6,Φ t6,iv t7,iv (A.add IntKind.i64 t8 1)] [Ω (Aqp 0 (Aqj (0+n3*6) c3)++[iv n1,Φ xs3,bv b2,Φ xs4,bv b3,Φ xs5]) U U] λr1 o1=>
 AF 1 [3] (AH.mk [(3,Ω (Aqp 0 (Aqj (0+n3*6) c3)++[iv n1,Φ xs3,bv b2,Φ xs4,bv b3,Φ xs5]) U U),(2,Ω [iv n1,Φ xs3,bv b2,Φ xs4,bv b3,Φ xs5] U U),(1,bk [iv n,Φ xs,bv b,Φ xs1,bv b1,Φ xs2])] 4 none) [0] r1 o1) none) none)
 (Δ ((AV.tup [iv 0,κ 1 0 n3 6],[BO.del,Aqu (Ω c3 U U)]))):=by kernel_rfl
end
def QW:List (List (Nat × MFn)):=[Abe]
def TS:List (Nat × DF):=[(107,(AY Ah Dd).ask (.fn 107))]
def NQ:Seat:=D9 Al QW.flatten TS
def DP3:Orc:=AY Ah NQ
set_option maxRecDepth 100000 in
theorem Alr:EK η Bt QW:=by
 repeat' first|exact trivial|refine⟨⟨_,_,_,rfl⟩,by kernel_rfl,?_⟩|refine⟨?_,?_⟩
theorem Alz:(E7 QW&&LD QW.flatten TS)=U:=by kernel_rfl
theorem Amg:Knows Al Abe DP3:=Bu Alz (i:=0) rfl
section
variable {args:List AV} {bs:List ABlk} {r:AV × List BO}
theorem AbC(h:((AY Ah Dd).ask (.fn 107)) args bs=Δ r):DP3.ask (.fn 107) args bs=Δ r:=AZ rfl h
end
theorem Xx(h:EL η TS):SeatOk η Bt NQ:=DD Nt Dt Alr h
section
open Go.RowKit
def Z3:MFn:=LA η Bt [] U Ξ 107
def T9:Hnt:=⟨[(95,(.agg Bg,[])),(98,(.agg Bg,[])),(165,(.sl 0 6,[.row U])),(166,(.ls,[]))],[],[(4,[.int .i64]),(11,GG),(18,[.int .i64]),(19,Bg)]⟩
def Abf:List (Nat × MFn):=[(107,Z3)]
variable (A:Ar) (D:Orc)
theorem Ag7(x0_0:Int)(x0_1:Rw)(x0_2:Bool)(x0_3:Rw)(x0_4:Bool)(x0_5:Rw):BZ A D Al T9 .n 107 Z3 [ψ [iv x0_0,Φ x0_1,bv x0_2,Φ x0_3,bv x0_4,Φ x0_5]] [] =
 br (A.eq x0_0 0)
 (Ad D (φ 95) [bv U] [] [.a,.I,.L,.B,.L,.B,.L,.N,.E] λn xs b xs1 b1 xs2=>
 Δ ((ψ [iv n,Φ xs,bv b,Φ xs1,bv b1,Φ xs2],[])))
 (br (A.eq x0_0 2)
 (Ad D (φ 98) [ψ [Φ x0_1,bv x0_2,Φ x0_3,bv x0_4]] [] [.a,.I,.L,.B,.L,.B,.L,.N,.E] λn xs b xs1 b1 xs2=>
 Δ ((ψ [iv n,Φ xs,bv b,Φ xs1,bv b1,Φ xs2],[])))
 (br (A.eq x0_0 3)
 (Ad D (φ 166) [ψ [iv x0_0,Φ x0_1,bv x0_2,Φ x0_3,bv x0_4,Φ x0_5]] [] [.l,.E] λxs=>
 Ad D (φ 165) [Φ xs] [] [.q 0 6,.R,.X,.E] λn cs=>
 Δ ((ψ [iv x0_0,AqC (Value.slice none 0 0),bv Ξ,AqC (Value.slice none 0 0),bv Ξ,κ 0 0 n 6],[Aqu (Ω cs U U)])))
 (br (A.eq x0_0 4)
 (Ad D (φ 166) [ψ [iv x0_0,Φ x0_1,bv x0_2,Φ x0_3,bv x0_4,Φ x0_5]] [] [.l,.E] λxs=>
 Ad D (φ 165) [Φ xs] [] [.q 0 6,.R,.X,.E] λn cs=>
 Δ ((ψ [iv x0_0,AqC (Value.slice none 0 0),bv Ξ,AqC (Value.slice none 0 0),bv Ξ,κ 0 0 n 6],[Aqu (Ω cs U U)])))
 (br (A.eq x0_0 5)
 (Ad D (φ 166) [ψ [iv x0_0,Φ x0_1,bv x0_2,Φ x0_3,bv x0_4,Φ x0_5]] [] [.l,.E] λxs=>
 Ad D (φ 165) [Φ xs] [] [.q 0 6,.R,.X,.E] λn cs=>
 Δ ((ψ [iv x0_0,AqC (Value.slice none 0 0),bv Ξ,AqC (Value.slice none 0 0),bv Ξ,κ 0 0 n 6],[Aqu (Ω cs U U)])))
 (Ad D (φ 95) [bv Ξ] [] [.a,.I,.L,.B,.L,.B,.L,.N,.E] λn xs b xs1 b1 xs2=>
 Δ ((ψ [iv n,Φ xs,bv b,Φ xs1,bv b1,Φ xs2],[]))))))):=by kernel_rfl
end
def QV:List (List (Nat × MFn)):=[Abf]
def TR:List (Nat × DF):=[(165,(AY Ah NQ).ask (.fn 165)),(166,(AY Ah Dd).ask (.fn 166)),(95,(AY Ah Dd).ask (.fn 95)),(98,(AY Ah Dd).ask (.fn 98))]
def NP:Seat:=D9 Al QV.flatten TR
def DP2:Orc:=AY Ah NP
set_option maxRecDepth 100000 in
theorem Alq:EK η Bt QV:=by
 repeat' first|exact trivial|refine⟨⟨_,_,_,rfl⟩,by kernel_rfl,?_⟩|refine⟨?_,?_⟩
theorem Aly:(E7 QV&&LD QV.flatten TR)=U:=by kernel_rfl
theorem AhX:Knows Al Abf DP2:=Bu Aly (i:=0) rfl
section
variable {args:List AV} {bs:List ABlk} {r:AV × List BO}
theorem X9(h:((AY Ah NQ).ask (.fn 165)) args bs=Δ r):DP2.ask (.fn 165) args bs=Δ r:=AZ rfl h
theorem AgW(h:((AY Ah Dd).ask (.fn 166)) args bs=Δ r):DP2.ask (.fn 166) args bs=Δ r:=AZ rfl h
theorem AbJ(h:((AY Ah Dd).ask (.fn 95)) args bs=Δ r):DP2.ask (.fn 95) args bs=Δ r:=AZ rfl h
theorem Ane(h:((AY Ah Dd).ask (.fn 98)) args bs=Δ r):DP2.ask (.fn 98) args bs=Δ r:=AZ rfl h
end
theorem Xw(h:EL η TR):SeatOk η Bt NP:=DD Nt Dt Alq h
