/- Layer 5's alive answers -/
import Derived.Test.YtpncilciembjdaaGreatDoorHBQ
set_option linter.all false
open Bool renaming false->Φ,true->Δ
open List renaming drop->Av8,take->κ
open Nat renaming blt->Aw0
open Option renaming none->Ξ,some->Θ
namespace Go.Proofs.YtpncilciembjdaaGreatDoor
noncomputable section
open ABlk renaming mk->θ
open AV renaming agg->δ,fn->Aw9,ls->Ψ,ptr->χ,sl->υ,tup->Awe,v->Awc
open BO renaming set->Awn
open IntKind renaming i64->ω
open Key renaming fn->φ,lp->Awa
section
open Go.RowKit
abbrev Js:Ab:=[iv 2,.ls [Z4],bv Φ,.ls [Qb 2],bv Φ,.ls []]
abbrev TO:Ab:=[iv 2,.ls [pY],bv Φ,.ls [],bv Δ,.ls []]
abbrev fGe:Ab:=[iv 2,.ls [pX,WL],bv Φ,.ls [],bv Φ,.ls []]
abbrev fK(k:Int)(l:Rw):Ab:=[iv k,.ls [],bv Φ,.ls [],bv Φ,.ls l]
abbrev AnD:Ab:=fK 4 [Js,TO]
abbrev AfR:Ab:=fK 5 [Js,TO]
abbrev Aqm:Ab:=fK 4 [AfR,fGe]
abbrev Aqn:Ab:=fK 3 [AnD]
abbrev fF:Ab:=fK 5 [[iv 2,.ls [pX],bv Δ,.ls [Qb 3],bv Φ,.ls []],[iv 2,.ls [pY],bv Δ,.ls [Qb 1],bv Φ,.ls []],[iv 2,.ls [WL],bv Δ,.ls [Qb 1],bv Φ,.ls []]]
abbrev AfS:Ab:=[iv 2,.ls [WL],bv Φ,.ls [Qb 2],bv Φ,.ls []]
set_option maxRecDepth 1000000
theorem a1:DU 91 [iv 0,.ls [[iv 1]]] []=Θ (.agg [.ls [pX],bv Φ,.ls []],[]):=by kernel_rfl
theorem a2:DU 91 [iv 0,.ls [[iv 0],[iv 1]]] []=Θ (.agg [.ls [pY],bv Φ,.ls []],[]):=by kernel_rfl
theorem a3:DU 91 [iv 3,.ls []] []=Θ (.agg [.ls [],bv Φ,.ls [Qb 3]],[]):=by kernel_rfl
theorem a4:DU 54 [iv 2,.agg [.ls [pX],bv Φ,.ls []],.agg [.ls [],bv Φ,.ls [Qb 3]]] []=Θ (.agg Js,[]):=by kernel_rfl
theorem a5:DU 91 [iv 0,.ls []] []=Θ (.agg [.ls [],bv Φ,.ls []],[]):=by kernel_rfl
theorem a6:DU 54 [iv 0,.agg [.ls [pY],bv Φ,.ls []],.agg [.ls [],bv Φ,.ls []]] []=Θ (.agg TO,[]):=by kernel_rfl
theorem a7:DU 92 [.ls [Js,TO]] []=Θ (.agg AnD,[]):=by kernel_rfl
theorem a8:DU 49 [.agg AnD] []=Θ (.agg Aqn,[]):=by kernel_rfl
theorem a9:dBu 39 [.agg Aqn] []=Θ (.agg fF,[]):=by kernel_rfl
theorem a10:DU 93 [.agg fF,.ls [[sv (CH [120])],[sv (CH [121])]]] []=Θ (sv (CH [40,120,32,45,32,51,32,62,61,32,48,32,124,32,121,32,45,32,49,32,62,61,32,48,32,124,32,45,121,32,45,32,49,32,62,61,32,48,41]),[]):=by kernel_rfl
theorem a11:DU 94 [.ls [Js,TO]] []=Θ (.agg AfR,[]):=by kernel_rfl
theorem a12:DU 54 [iv 5,.agg [.ls [pX],bv Φ,.ls []],.agg [.ls [pY],bv Φ,.ls []]] []=Θ (.agg fGe,[]):=by kernel_rfl
theorem a13:DU 92 [.ls [AfR,fGe]] []=Θ (.agg Aqm,[]):=by kernel_rfl
theorem a14:dBu 47 [.agg Aqm,iv 9] []=Θ (.tup [.ls [[.ls [rL,rG]],[.ls [rG,WO]]],iv 0],[]):=by kernel_rfl
theorem a15:dBu 47 [.agg AfR,iv 1] []=Θ (.tup [.ls [],iv 3],[]):=by kernel_rfl
theorem a16:DU 56 [iv 2] []=Θ (.agg [bv Φ,.ls [Qb 2]],[]):=by kernel_rfl
theorem a17:DU 36 [.agg Js,.ls [[bv Φ,.ls [Qb 2]]]] []=Θ (bv Δ,[]):=by kernel_rfl
theorem a18:DU 95 [bv Φ] []=Θ (.agg (fK 1 []),[]):=by kernel_rfl
theorem a19:DU 36 [.agg (fK 1 []),.ls []] []=Θ (bv Φ,[]):=by kernel_rfl
theorem a20:DU 96 [.agg fF] []=Θ (iv 4,[]):=by kernel_rfl
theorem a21:DU 97 [.agg fF] []=Θ (.ls [[iv 0],[iv 1]],[]):=by kernel_rfl
theorem a22:DU 41 [.agg fF,.agg fF] []=Θ (bv Δ,[]):=by kernel_rfl
theorem a23:DU 41 [.agg fF,.agg Js] []=Θ (bv Φ,[]):=by kernel_rfl
theorem a24:DU 43 [.agg Js,.ls [[iv 0]],.ls [[.ls [pY],bv Φ,.ls []]]] []=Θ (.agg AfS,[]):=by kernel_rfl
theorem a25:DU 45 [.agg Js,iv 1] []=Θ (.agg AfS,[]):=by kernel_rfl
theorem a26:DU 41 [.agg AfS,.agg AfS] []=Θ (bv Δ,[]):=by kernel_rfl
theorem a27:DU 98 [.agg [.ls [Z4],bv Φ,.ls [Qb 2],bv Φ]] []=Θ (.agg Js,[]):=by kernel_rfl
theorem Agh:RJ.ask (.fn 34) [] []=Θ (bv Δ,[]):=by
 refine AC Arg AqD (e34 ..) ?_;refine Aa (Tn a1) ?_;simp only[Aj];refine Aa (Tn a2) ?_;simp only[Aj];refine Aa (Tn a3) ?_;simp only[Aj];refine Aa (Kx a4) ?_;simp only[Aj];refine Aa (Tn a5) ?_;simp only[Aj];refine Aa (Kx a6) ?_;simp only[Aj];refine Aa (AeS a7) ?_;simp only[Aj];refine Aa (AeW a8) ?_;simp only[Aj];refine Aa (AkM a9) ?_;simp only[Aj];refine AG ?_ rfl;refine AG ?_ rfl;refine Aa (AeY a10) ?_;simp only[Aj];refine Akr rfl ?_;refine Aa (AeT a11) ?_;simp only[Aj];refine Aa (Kx a12) ?_;simp only[Aj];refine Aa (AeS a13) ?_;simp only[Aj];refine Aa (VF a14) ?_;simp only[Aj];refine Aa (AeT a11) ?_;simp only[Aj];refine Aa (VF a15) ?_;simp only[Aj];refine Aa (ApD a16) ?_;simp only[Aj];refine AG ?_ rfl;refine AG ?_ rfl;refine AG ?_ rfl;refine Aa (RI a17) ?_;simp only[Aj];refine Aa (Ae1 a18) ?_;simp only[Aj];refine Aa (RI a19) ?_;simp only[Aj];refine Aa (AkP a20) ?_;simp only[Aj];refine AG ?_ rfl;refine Aa (AeZ a21) ?_;simp only[Aj];refine AG ?_ rfl;refine Aa (PQ a22) ?_;simp only[Aj];refine Aa (PQ a23) ?_;simp only[Aj];refine Aa (Xr a24) ?_;simp only[Aj];refine Aa (AeX a25) ?_;simp only[Aj];refine Aa (PQ a26) ?_;simp only[Aj];refine Aa (ApC a27) ?_;simp only[Aj];refine AG ?_ rfl;rfl
theorem Aqs:BD (BL Tryz.prog 34) ((By Ap Px).ask (.fn 34)):=
 GY (Aau ⟨(HW _),(HW _),(HW _),(HW _),(Aqv _),(HW _),(HW _),(Aqv _),(HW _),(HW _),(HW _),(HW _),(HW _),(HW _),(HW _),(HW _),(HW _),trivial⟩) _
end
section
open Go.RowKit
def Agx:MFn:=AN [⟨18,(mB 456),[],[],[(0,([Φ,Φ,Δ],([],[]))),(1,((mB 8),([],[])))]⟩] 82
def ZL:Hnt:=⟨[],[(0,[(0,([.int .i64],[])),(1,([.int .i64],[]))])],[(10,[.int .i64]),(11,[.int .i64])]⟩
def Amu:MFn:=AN [] 154
def AlF:Hnt:=⟨[(82,(.int .i64,[])),(84,(.int .i64,[])),(155,(.int .i64,[]))],[],[(6,[.int .i64]),(8,[.int .i64]),(11,AL),(13,AL)]⟩
def Yh:MFn:=AN [⟨39,(mB 14343),[],[],[(0,((mB 64),([],[]))),(1,([Δ,Δ],([],[])))]⟩] 156
def Uf:Hnt:=⟨[(154,(.int .i64,[]))],[(0,[(0,([.int .i64],[])),(1,([.ls,.ls],[]))])],[(16,Cj),(17,Cj),(24,Cj),(25,Cj),(27,Cj),(28,Cj)]⟩
def ArK:MFn:=AN [] 83
def AqU:Hnt:=⟨[(62,(.agg BJ,[])),(82,(.int .i64,[])),(155,(.int .i64,[])),(156,(.int .i64,[]))],[],[(6,BJ),(8,BJ),(11,[.ls]),(13,[.ls]),(17,AL),(19,AL)]⟩
def ArM:MFn:=AN [] 85
def AqW:Hnt:=⟨[],[],[(4,[.bool])]⟩
def Arq:MFn:=AN [] 25
def AqA:Hnt:=⟨[(82,(.int .i64,[])),(83,(.int .i64,[])),(84,(.int .i64,[])),(85,(.int .i64,[]))],[],[(6,BJ),(8,BJ),(10,Di),(12,Di)]⟩
def Arr:MFn:=AN [] 26
def AqB:Hnt:=⟨[(25,(.int .i64,[]))],[],[(5,Di),(6,Di)]⟩
def X9:MFn:=AN [⟨32,(mB 229382),[],[],[(0,((mB 64),([],[]))),(1,([],([],[])))]⟩] 108
def Ua:Hnt:=⟨[(41,(.bool,[]))],[(0,[(0,([.bool],[])),(1,([],[]))])],[(20,Bn),(21,Bn),(24,Bn),(25,Bn),(27,Bn),(28,Bn)]⟩
def Arx:MFn:=AN [] 41
def AqH:Hnt:=⟨[(26,(.bool,[])),(107,(.agg Bn,[])),(108,(.bool,[]))],[],[(5,Bn),(7,Bn),(10,[.int .i64]),(12,[.int .i64]),(16,[.int .i64]),(20,Di),(22,Di),(28,[.ls]),(30,[.ls])]⟩
def Vf:List (Nat × MFn):=[(82,Agx),(154,Amu),(156,Yh),(83,ArK),(85,ArM),(25,Arq),(26,Arr),(108,X9),(41,Arx)]
variable (A:Ar) (D:Orc)
theorem e82(x0:Rw):B3 A D Au ZL .n 82 Agx [Ψ x0] [] =
 Ai D (Awa 82 0) [iv 0,Ψ x0,iv ↑(AT x0),iv 0] [] [.t,.C,.x,.X,.Y] λc l o=>
 br (BA 0 c)
 (dk [.I,.N,.E] [.l l,.o o] λn=>
 Θ ((iv n,[])))
 (br (BA 1 c)
 (dk [.I,.N,.E] [.l l,.o o] λn=>
 Θ ((iv n,[])))
 (Ξ)):=by kernel_rfl
theorem Aca(t3:Int)(t6:Rw)(t7 t8:Int):Dc A D Au ZL .n 82 0 (A1 Agx 0).fst (A1 Agx 0).snd [iv t3,Ψ t6,iv t7,iv t8] [] =
 br (A.lt t8 t7)
 (unI t8 λi=>
 Bw t6 i λcs=>
 dk [.I,.N] [.l cs] λn=>
 br (A.eq n t3)
 (AW D (Awa 82 0) [iv t3,Ψ t6,iv t7,iv (A.add ω t8 1)] [] λr o=>
 AS 0 [] (AH.mk [] 0 Ξ) [] r o)
 (Θ ((Awe [bv Δ,iv n],[]))))
 (Θ ((Awe [iv 0,iv t3],[]))):=by kernel_rfl
theorem Atm(x0_0:Int)(x0_1:Bool)(x0_2:Rw)(x1_0:Int)(x1_1:Bool)(x1_2:Rw):B3 A D Au AlF .n 154 Amu [δ [iv x0_0,bv x0_1,Ψ x0_2],δ [iv x1_0,bv x1_1,Ψ x1_2]] [] =
 Ai D (φ 84) [iv x0_0,iv x1_0] [] [.i,.E] λn=>
 Ai D (φ 155) [δ [bv x0_1,Ψ x0_2],δ [bv x1_1,Ψ x1_2]] [] [.i,.E] λn1=>
 Ai D (φ 82) [Ψ [[iv n],[iv n1]]] [] [.i,.E] λn2=>
 Θ ((iv n2,[])):=by kernel_rfl
theorem Ato(x0 x1:Rw):B3 A D Au Uf .n 156 Yh [Ψ x0,Ψ x1,Aw9 (Fn.func 154) [] []] [] =
 Ai D (Awa 156 0) [Ψ x0,Ψ x1,Aw9 (Fn.func 154) [] [],Ψ x0,iv ↑(AT x0),iv 0] [] [.t,.C,.x,.X,.Y] λc l o=>
 br (BA 0 c)
 (dk [.I,.N,.E] [.l l,.o o] λn=>
 Θ ((iv n,[])))
 (br (BA 1 c)
 (dk [.L,.L,.N,.E] [.l l,.o o] λxs xs1=>
 br (A.lt ↑(AT xs) ↑(AT xs1))
 (Θ ((iv (-1),[])))
 (Θ ((iv 0,[]))))
 (Ξ)):=by kernel_rfl
theorem AbO(t0 t1 t11:Rw)(t12 t13:Int):Dc A D Au Uf .n 156 0 (A1 Yh 0).fst (A1 Yh 0).snd [Ψ t0,Ψ t1,Aw9 (Fn.func 154) [] [],Ψ t11,iv t12,iv t13] [] =
 br (A.lt t13 t12)
 (unI t13 λi=>
 Bw t11 i λcs=>
 dk [.I,.B,.L,.N] [.l cs] λn b xs=>
 br (A.le (↑(AT t1)) t13)
 (Θ ((Awe [bv Δ,iv 1],[])))
 (unI t13 λi1=>
 Bw t1 i1 λcs1=>
 dk [.I,.B,.L,.N] [.l cs1] λn1 b1 xs1=>
 Ai D (φ 154) [δ [iv n,bv b,Ψ xs],δ [iv n1,bv b1,Ψ xs1]] [] [.i,.E] λn2=>
 br (A.eq n2 0)
 (AW D (Awa 156 0) [Ψ t0,Ψ t1,Aw9 (Fn.func 154) [] [],Ψ t11,iv t12,iv (A.add ω t13 1)] [] λr1 o1=>
 AS 0 [] (AH.mk [(1,bk [iv n1,bv b1,Ψ xs1]),(0,bk [iv n,bv b,Ψ xs])] 2 Ξ) [] r1 o1)
 (Θ ((Awe [bv Δ,iv n2],[])))))
 (Θ ((Awe [iv 0,Ψ t0,Ψ t1],[]))):=by kernel_rfl
theorem e83(x0_0:Rw)(x0_1:Bool)(x0_2 x1_0:Rw)(x1_1:Bool)(x1_2:Rw):B3 A D Au AqU .n 83 ArK [δ [Ψ x0_0,bv x0_1,Ψ x0_2],δ [Ψ x1_0,bv x1_1,Ψ x1_2]] [] =
 Ai D (φ 62) [δ [Ψ x0_0,bv x0_1,Ψ x0_2]] [] [.a,.L,.B,.L,.N,.E] λxs b xs1=>
 Ai D (φ 62) [δ [Ψ x1_0,bv x1_1,Ψ x1_2]] [] [.a,.L,.B,.L,.N,.E] λxs2 b1 xs3=>
 Ai D (φ 156) [Ψ xs,Ψ xs2,Aw9 (Fn.func 154) [] []] [] [.i,.E] λn=>
 Ai D (φ 155) [δ [bv b,Ψ xs1],δ [bv b1,Ψ xs3]] [] [.i,.E] λn1=>
 Ai D (φ 82) [Ψ [[iv n],[iv n1]]] [] [.i,.E] λn2=>
 Θ ((iv n2,[])):=by kernel_rfl
theorem e85(x0_0:Rw)(x0_1:Bool)(x0_2:Rw)(x0_3:Bool):B3 A D Au AqW .n 85 ArM [δ [Ψ x0_0,bv x0_1,Ψ x0_2,bv x0_3]] [] =
 br x0_3
 (Θ ((iv 1,[])))
 (Θ ((iv 0,[]))):=by kernel_rfl
theorem e25(x0_0:Rw)(x0_1:Bool)(x0_2:Rw)(x0_3:Bool)(x1_0:Rw)(x1_1:Bool)(x1_2:Rw)(x1_3:Bool):B3 A D Au AqA .n 25 Arq [δ [Ψ x0_0,bv x0_1,Ψ x0_2,bv x0_3],δ [Ψ x1_0,bv x1_1,Ψ x1_2,bv x1_3]] [] =
 Ai D (φ 83) [δ [Ψ x0_0,bv x0_1,Ψ x0_2],δ [Ψ x1_0,bv x1_1,Ψ x1_2]] [] [.i,.E] λn=>
 Ai D (φ 85) [δ [Ψ x0_0,bv x0_1,Ψ x0_2,bv x0_3]] [] [.i,.E] λn1=>
 Ai D (φ 85) [δ [Ψ x1_0,bv x1_1,Ψ x1_2,bv x1_3]] [] [.i,.E] λn2=>
 Ai D (φ 84) [iv n1,iv n2] [] [.i,.E] λn3=>
 Ai D (φ 82) [Ψ [[iv n],[iv n3]]] [] [.i,.E] λn4=>
 Θ ((iv n4,[])):=by kernel_rfl
theorem e26(x0_0:Rw)(x0_1:Bool)(x0_2:Rw)(x0_3:Bool)(x1_0:Rw)(x1_1:Bool)(x1_2:Rw)(x1_3:Bool):B3 A D Au AqB .n 26 Arr [δ [Ψ x0_0,bv x0_1,Ψ x0_2,bv x0_3],δ [Ψ x1_0,bv x1_1,Ψ x1_2,bv x1_3]] [] =
 Ai D (φ 25) [δ [Ψ x0_0,bv x0_1,Ψ x0_2,bv x0_3],δ [Ψ x1_0,bv x1_1,Ψ x1_2,bv x1_3]] [] [.i,.E] λn=>
 br (A.eq n 0)
 (Θ ((bv Δ,[])))
 (Θ ((bv Φ,[]))):=by kernel_rfl
theorem AsV(x0 x1:Rw):B3 A D Au Ua .n 108 X9 [Ψ x0,Ψ x1,Aw9 (Fn.func 41) [] []] [] =
 br (A.eq ↑(AT x0) ↑(AT x1))
 (Ai D (Awa 108 0) [Ψ x1,Aw9 (Fn.func 41) [] [],Ψ x0,iv ↑(AT x0),iv 0] [] [.t,.C,.x,.X,.Y] λc l o=>
 br (BA 0 c)
 (dk [.B,.N,.E] [.l l,.o o] λb=>
 Θ ((bv b,[])))
 (br (BA 1 c)
 (FQ l<|
 D2 o<|
 Θ ((bv Δ,[])))
 (Ξ)))
 (Θ ((bv Φ,[]))):=by kernel_rfl
theorem AbH(t1 t15:Rw)(t16 t17:Int):Dc A D Au Ua .n 108 0 (A1 X9 0).fst (A1 X9 0).snd [Ψ t1,Aw9 (Fn.func 41) [] [],Ψ t15,iv t16,iv t17] [] =
 br (A.lt t17 t16)
 (unI t17 λi=>
 Bw t15 i λcs=>
 dk [.I,.L,.B,.L,.B,.L,.N] [.l cs] λn xs b xs1 b1 xs2=>
 unI t17 λi1=>
 Bw t1 i1 λcs1=>
 dk [.I,.L,.B,.L,.B,.L,.N] [.l cs1] λn1 xs3 b2 xs4 b3 xs5=>
 Ai D (φ 41) [δ [iv n,Ψ xs,bv b,Ψ xs1,bv b1,Ψ xs2],δ [iv n1,Ψ xs3,bv b2,Ψ xs4,bv b3,Ψ xs5]] [] [.b,.E] λb4=>
 br b4
 (AW D (Awa 108 0) [Ψ t1,Aw9 (Fn.func 41) [] [],Ψ t15,iv t16,iv (A.add ω t17 1)] [] λr1 o1=>
 AS 0 [] (AH.mk [(1,bk [iv n1,Ψ xs3,bv b2,Ψ xs4,bv b3,Ψ xs5]),(0,bk [iv n,Ψ xs,bv b,Ψ xs1,bv b1,Ψ xs2])] 2 Ξ) [] r1 o1)
 (Θ ((Awe [bv Δ,bv Φ],[]))))
 (Θ ((Awe [iv 0],[]))):=by kernel_rfl
theorem e41(x0_0:Int)(x0_1:Rw)(x0_2:Bool)(x0_3:Rw)(x0_4:Bool)(x0_5:Rw)(x1_0:Int)(x1_1:Rw)(x1_2:Bool)(x1_3:Rw)(x1_4:Bool)(x1_5:Rw):B3 A D Au AqH .n 41 Arx [δ [iv x0_0,Ψ x0_1,bv x0_2,Ψ x0_3,bv x0_4,Ψ x0_5],δ [iv x1_0,Ψ x1_1,bv x1_2,Ψ x1_3,bv x1_4,Ψ x1_5]] [] =
 Ai D (φ 107) [δ [iv x0_0,Ψ x0_1,bv x0_2,Ψ x0_3,bv x0_4,Ψ x0_5]] [] [.a,.I,.L,.B,.L,.B,.L,.N,.E] λn xs b xs1 b1 xs2=>
 Ai D (φ 107) [δ [iv x1_0,Ψ x1_1,bv x1_2,Ψ x1_3,bv x1_4,Ψ x1_5]] [] [.a,.I,.L,.B,.L,.B,.L,.N,.E] λn1 xs3 b2 xs4 b3 xs5=>
 br (A.eq n n1)
 (br (A.eq n 2)
 (Ai D (φ 26) [δ [Ψ xs,bv b,Ψ xs1,bv b1],δ [Ψ xs3,bv b2,Ψ xs4,bv b3]] [] [.b,.E] λb4=>
 br b4
 (Ai D (φ 108) [Ψ xs2,Ψ xs5,Aw9 (Fn.func 41) [] []] [] [.b,.E] λb5=>
 br b5
 (Θ ((bv Δ,[])))
 (Θ ((bv Φ,[]))))
 (Θ ((bv Φ,[]))))
 (Ai D (φ 108) [Ψ xs2,Ψ xs5,Aw9 (Fn.func 41) [] []] [] [.b,.E] λb4=>
 br b4
 (Θ ((bv Δ,[])))
 (Θ ((bv Φ,[])))))
 (Θ ((bv Φ,[]))):=by kernel_rfl
end
section
open Go.RowKit
def AmB:MFn:=AN [] 172
def AlM:Hnt:=⟨[(17,(.tup [.agg Di,.int .i64],[])),(95,(.agg Bn,[]))],[],[(6,Di),(15,Di)]⟩
def Yj:MFn:=AN [⟨68,(mB 1841),[(5,6)],[4],[(0,((mB 16),([4],[5]))),(1,((mB 49),([],[])))]⟩] 173
def Ui:Hnt:=⟨[(95,(.agg Bn,[]))],[(0,[(0,([.ptr 0 0],[.box Bn,.del])),(1,([.int .i64,.ptr 0 0,.sl 2 6],[.box Bn,.del,.row Δ]))])],[(12,Bn),(13,Bn),(15,Bn),(23,[.int .i64]),(30,[.int .i64]),(33,Bn),(36,[.int .i64]),(40,[.int .i64]),(45,[.int .i64]),(50,[.ls]),(63,Bn),(64,Bn)]⟩
def Yl:MFn:=AN [⟨22,(mB 1826),[(5,6)],[],[(1,((mB 32),([],[])))]⟩] 174
def Uj:Hnt:=⟨[(104,(.agg Bn,[]))],[(0,[(1,([.sl 1 6],[.del,.row Δ]))])],[(12,Bn),(13,Bn),(15,Bn)]⟩
def X8:MFn:=AN [⟨69,(mB 234881072),[(5,6)],[4],[(2,((mB 48),([],[])))]⟩] 104
def Ir:Hnt:=⟨[(23,(.ls,[])),(95,(.agg Bn,[])),(104,(.agg Bn,[])),(172,(.agg Bn,[])),(173,(.agg Bn,[])),(174,(.ls,[]))],[(0,[(2,([.ptr 0 0,.sl 2 6],[.box Bn,.del,.row Δ]))])],[(10,[.int .i64]),(21,Di),(24,Di),(29,Di),(30,Di),(32,Di),(42,[.ls]),(46,[.ls]),(47,Bn),(48,Bn),(56,[.int .i64]),(59,[.int .i64]),(63,[.ls])]⟩
def Arv:MFn:=AN [] 39
def AqF:Hnt:=⟨[(104,(.agg Bn,[]))],[],[(3,Bn)]⟩
def YY:List (Nat × MFn):=[(172,AmB),(173,Yj),(174,Yl),(104,X8),(39,Arv)]
variable (A:Ar) (D:Orc)
theorem Atv(x0_0:Rw)(x0_1:Bool)(x0_2:Rw)(x0_3:Bool):B3 A D Au AlM .n 172 AmB [δ [Ψ x0_0,bv x0_1,Ψ x0_2,bv x0_3]] [] =
 Ai D (φ 17) [δ [Ψ x0_0,bv x0_1,Ψ x0_2,bv x0_3]] [] [.t,.A,.L,.B,.L,.B,.N,.I,.N,.E] λxs b xs1 b1 n=>
 br (A.eq n 0)
 (Θ ((δ [iv 2,Ψ xs,bv b,Ψ xs1,bv b1,Ψ []],[])))
 (br (A.lt 0 n)
 (Ai D (φ 95) [bv Δ] [] [.a,.I,.L,.B,.L,.B,.L,.N,.E] λn1 xs2 b2 xs3 b3 xs4=>
 Θ ((δ [iv n1,Ψ xs2,bv b2,Ψ xs3,bv b3,Ψ xs4],[])))
 (Ai D (φ 95) [bv Φ] [] [.a,.I,.L,.B,.L,.B,.L,.N,.E] λn1 xs2 b2 xs3 b3 xs4=>
 Θ ((δ [iv n1,Ψ xs2,bv b2,Ψ xs3,bv b3,Ψ xs4],[])))):=by kernel_rfl
theorem Atw(x0:Int)(x1:Rw):B3 A D Au Ui .n 173 Yj [iv x0,Ψ x1] [] =
 Ai D (Awa 173 0) [iv x0,χ 0 0,υ 1 0 0 6,Ψ x1,iv ↑(AT x1),iv 0] [bk [iv 0,Ψ [],bv Φ,Ψ [],bv Φ,Ψ []],θ [] Δ Δ] [.t,.C,.x,.X,.Y] λc l o=>
 br (BA 0 c)
 (dk [.P 0 0,.N,.T,.I,.L,.B,.L,.B,.L,.N,.D,.E] [.l l,.o o] λn xs b xs1 b1 xs2=>
 Θ ((δ [iv n,Ψ xs,bv b,Ψ xs1,bv b1,Ψ xs2],[])))
 (br (BA 1 c)
 (dk [.I,.P 0 0,.C,.q 2 6,.N,.T,.I,.L,.B,.L,.B,.L,.N,.D,.R,.X,.E] [.l l,.o o] λn n1 _ _ _ _ _ _ cs2=>
 br (A.eq (↑n1) 0)
 (br (A.eq n 4)
 (Ai D (φ 95) [bv Δ] [] [.a,.I,.L,.B,.L,.B,.L,.N,.E] λn3 xs3 b2 xs4 b3 xs5=>
 Θ ((δ [iv n3,Ψ xs3,bv b2,Ψ xs4,bv b3,Ψ xs5],[])))
 (Ai D (φ 95) [bv Φ] [] [.a,.I,.L,.B,.L,.B,.L,.N,.E] λn3 xs3 b2 xs4 b3 xs5=>
 Θ ((δ [iv n3,Ψ xs3,bv b2,Ψ xs4,bv b3,Ψ xs5],[]))))
 (br (A.eq (↑n1) 1)
 (br (Aw0 0 n1) (Ia cs2 0 6 λcs3=>
 dk [.I,.L,.B,.L,.B,.L,.N] [.l cs3] λn3 xs3 b2 xs4 b3 xs5=>
 Θ ((δ [iv n3,Ψ xs3,bv b2,Ψ xs4,bv b3,Ψ xs5],[]))) Ξ)
 (br ((0+n1*6).ble cs2.length) (Θ ((δ [iv n,Ψ [],bv Φ,Ψ [],bv Φ,Ψ (Bo n1 6 (κ (n1*6) cs2))],[]))) Ξ)))
 (Ξ)):=by kernel_rfl
theorem AbQ(t0 b4_0:Int)(b4_1:Rw)(b4_2:Bool)(b4_3:Rw)(b4_4:Bool)(b4_5:Rw)(n5:Nat)(c5:Ab)(t8:Rw)(t9 t10:Int):Dc A D Au Ui (.b (.b (.b (.b (.b (.b (.b .n (.b (.b .n (.b .n (.f (.b .n (.b .n (.b .n (.b .n (.b .n (.b .n (.b .n (.b (.b (.b (.f .n) .n) .n) .n))))))))))) .n)) .n) .n) .n) (.b .n (.b .n (.b .n (.b .n (.b .n (.b .n (.b (.b (.b (.b (.b .n (.b (.b .n (.b .n (.f .n))) .n)) .n) .n) .n) .n)))))))) .n) .n) 173 0 (A1 Yj 0).fst (A1 Yj 0).snd [iv t0,χ 0 0,υ 1 0 n5 6,Ψ t8,iv t9,iv t10] [bk [iv b4_0,Ψ b4_1,bv b4_2,Ψ b4_3,bv b4_4,Ψ b4_5],{ cells:=c5,st:=Δ,ex:=Δ }] =
 br (A.lt t10 t9)
 (unI t10 λi=>
 Bw t8 i λcs=>
 dk [.I,.L,.B,.L,.B,.L,.N] [.l cs] λn xs b xs1 b1 xs2=>
 br (A.eq t0 4)
 (br (A.eq n 1)
 (Θ ((Awe [bv Δ,χ 0 0],[Awn (bk [iv n,Ψ xs,bv b,Ψ xs1,bv b1,Ψ xs2]),BO.del])))
 (br (A.eq t0 5) Ξ (br (A.eq n 0)
 (AW D (Awa 173 0) [iv t0,χ 0 0,υ 1 0 n5 6,Ψ t8,iv t9,iv (A.add ω t10 1)] [bk [iv b4_0,Ψ b4_1,bv b4_2,Ψ b4_3,bv b4_4,Ψ b4_5],θ c5 Δ Δ] λr o=>
 AS 2 [0,1] (AH.mk [(0,bk [iv b4_0,Ψ b4_1,bv b4_2,Ψ b4_3,bv b4_4,Ψ b4_5]),(2,bk [iv n,Ψ xs,bv b,Ψ xs1,bv b1,Ψ xs2]),(1,θ c5 Δ Δ)] 3 Ξ) [0] r o)
 (br (A.eq n 1) Ξ (br (A.eq n t0)
 (br (EG 6 xs2) (br ((AT xs2).beq 0)
 (AW D (Awa 173 0) [iv t0,χ 0 0,υ 1 0 n5 6,Ψ t8,iv t9,iv (A.add ω t10 1)] [bk [iv b4_0,Ψ b4_1,bv b4_2,Ψ b4_3,bv b4_4,Ψ b4_5],θ c5 Δ Δ] λr o=>
 AS 2 [0,1] (AH.mk [(0,bk [iv b4_0,Ψ b4_1,bv b4_2,Ψ b4_3,bv b4_4,Ψ b4_5]),(2,bk [iv n,Ψ xs,bv b,Ψ xs1,bv b1,Ψ xs2]),(1,θ c5 Δ Δ)] 3 Ξ) [0] r o)
 (br (Gv (E8 xs2)) (br (Ba (n5+AT xs2) 96) (br ((0+n5*6).ble c5.length) (AW D (Awa 173 0) [iv t0,χ 0 0,υ 1 0 (n5+AT xs2) 6,Ψ t8,iv t9,iv (A.add ω t10 1)] [bk [iv b4_0,Ψ b4_1,bv b4_2,Ψ b4_3,bv b4_4,Ψ b4_5],θ (Av8 0 (κ (0+n5*6) c5)++E8 xs2) Δ Δ] λr o=>
 AS 2 [0,3] (AH.mk [(0,bk [iv b4_0,Ψ b4_1,bv b4_2,Ψ b4_3,bv b4_4,Ψ b4_5]),(3,θ (Av8 0 (κ (0+n5*6) c5)++E8 xs2) Δ Δ),(2,bk [iv n,Ψ xs,bv b,Ψ xs1,bv b1,Ψ xs2])] 4 Ξ) [1,0] r o) Ξ) Ξ) Ξ)) Ξ)
 (br (Ba (n5+1) 96) (br ((0+n5*6).ble c5.length) (AW D (Awa 173 0) [iv t0,χ 0 0,υ 1 0 (n5+1) 6,Ψ t8,iv t9,iv (A.add ω t10 1)] [bk [iv b4_0,Ψ b4_1,bv b4_2,Ψ b4_3,bv b4_4,Ψ b4_5],θ (Av8 0 (κ (0+n5*6) c5)++[iv n,Ψ xs,bv b,Ψ xs1,bv b1,Ψ xs2]) Δ Δ] λr o=>
 AS 2 [0,4] (AH.mk [(0,bk [iv b4_0,Ψ b4_1,bv b4_2,Ψ b4_3,bv b4_4,Ψ b4_5]),(4,θ (Av8 0 (κ (0+n5*6) c5)++[iv n,Ψ xs,bv b,Ψ xs1,bv b1,Ψ xs2]) Δ Δ),(3,θ [iv n,Ψ xs,bv b,Ψ xs1,bv b1,Ψ xs2] Δ Δ),(2,bk [iv n,Ψ xs,bv b,Ψ xs1,bv b1,Ψ xs2])] 5 Ξ) [1,0] r o) Ξ) Ξ))))))
 (br (A.eq t0 5)
 (br (A.eq n 0)
 (Θ ((Awe [bv Δ,χ 0 0],[Awn (bk [iv n,Ψ xs,bv b,Ψ xs1,bv b1,Ψ xs2]),BO.del])))
 (br (A.eq n 0) Ξ (br (A.eq n 1)
 (AW D (Awa 173 0) [iv t0,χ 0 0,υ 1 0 n5 6,Ψ t8,iv t9,iv (A.add ω t10 1)] [bk [iv b4_0,Ψ b4_1,bv b4_2,Ψ b4_3,bv b4_4,Ψ b4_5],θ c5 Δ Δ] λr o=>
 AS 2 [0,1] (AH.mk [(0,bk [iv b4_0,Ψ b4_1,bv b4_2,Ψ b4_3,bv b4_4,Ψ b4_5]),(2,bk [iv n,Ψ xs,bv b,Ψ xs1,bv b1,Ψ xs2]),(1,θ c5 Δ Δ)] 3 Ξ) [0] r o)
 (br (A.eq n t0)
 (br (EG 6 xs2) (br ((AT xs2).beq 0)
 (AW D (Awa 173 0) [iv t0,χ 0 0,υ 1 0 n5 6,Ψ t8,iv t9,iv (A.add ω t10 1)] [bk [iv b4_0,Ψ b4_1,bv b4_2,Ψ b4_3,bv b4_4,Ψ b4_5],θ c5 Δ Δ] λr o=>
 AS 2 [0,1] (AH.mk [(0,bk [iv b4_0,Ψ b4_1,bv b4_2,Ψ b4_3,bv b4_4,Ψ b4_5]),(2,bk [iv n,Ψ xs,bv b,Ψ xs1,bv b1,Ψ xs2]),(1,θ c5 Δ Δ)] 3 Ξ) [0] r o)
 (br (Gv (E8 xs2)) (br (Ba (n5+AT xs2) 96) (br ((0+n5*6).ble c5.length) (AW D (Awa 173 0) [iv t0,χ 0 0,υ 1 0 (n5+AT xs2) 6,Ψ t8,iv t9,iv (A.add ω t10 1)] [bk [iv b4_0,Ψ b4_1,bv b4_2,Ψ b4_3,bv b4_4,Ψ b4_5],θ (Av8 0 (κ (0+n5*6) c5)++E8 xs2) Δ Δ] λr o=>
 AS 2 [0,3] (AH.mk [(0,bk [iv b4_0,Ψ b4_1,bv b4_2,Ψ b4_3,bv b4_4,Ψ b4_5]),(3,θ (Av8 0 (κ (0+n5*6) c5)++E8 xs2) Δ Δ),(2,bk [iv n,Ψ xs,bv b,Ψ xs1,bv b1,Ψ xs2])] 4 Ξ) [1,0] r o) Ξ) Ξ) Ξ)) Ξ)
 (br (Ba (n5+1) 96) (br ((0+n5*6).ble c5.length) (AW D (Awa 173 0) [iv t0,χ 0 0,υ 1 0 (n5+1) 6,Ψ t8,iv t9,iv (A.add ω t10 1)] [bk [iv b4_0,Ψ b4_1,bv b4_2,Ψ b4_3,bv b4_4,Ψ b4_5],θ (Av8 0 (κ (0+n5*6) c5)++[iv n,Ψ xs,bv b,Ψ xs1,bv b1,Ψ xs2]) Δ Δ] λr o=>
 AS 2 [0,4] (AH.mk [(0,bk [iv b4_0,Ψ b4_1,bv b4_2,Ψ b4_3,bv b4_4,Ψ b4_5]),(4,θ (Av8 0 (κ (0+n5*6) c5)++[iv n,Ψ xs,bv b,Ψ xs1,bv b1,Ψ xs2]) Δ Δ),(3,θ [iv n,Ψ xs,bv b,Ψ xs1,bv b1,Ψ xs2] Δ Δ),(2,bk [iv n,Ψ xs,bv b,Ψ xs1,bv b1,Ψ xs2])] 5 Ξ) [1,0] r o) Ξ) Ξ)))))
 (br (A.eq n 0)
 (AW D (Awa 173 0) [iv t0,χ 0 0,υ 1 0 n5 6,Ψ t8,iv t9,iv (A.add ω t10 1)] [bk [iv b4_0,Ψ b4_1,bv b4_2,Ψ b4_3,bv b4_4,Ψ b4_5],θ c5 Δ Δ] λr o=>
 AS 2 [0,1] (AH.mk [(0,bk [iv b4_0,Ψ b4_1,bv b4_2,Ψ b4_3,bv b4_4,Ψ b4_5]),(2,bk [iv n,Ψ xs,bv b,Ψ xs1,bv b1,Ψ xs2]),(1,θ c5 Δ Δ)] 3 Ξ) [0] r o)
 (br (A.eq n 1)
 (AW D (Awa 173 0) [iv t0,χ 0 0,υ 1 0 n5 6,Ψ t8,iv t9,iv (A.add ω t10 1)] [bk [iv b4_0,Ψ b4_1,bv b4_2,Ψ b4_3,bv b4_4,Ψ b4_5],θ c5 Δ Δ] λr o=>
 AS 2 [0,1] (AH.mk [(0,bk [iv b4_0,Ψ b4_1,bv b4_2,Ψ b4_3,bv b4_4,Ψ b4_5]),(2,bk [iv n,Ψ xs,bv b,Ψ xs1,bv b1,Ψ xs2]),(1,θ c5 Δ Δ)] 3 Ξ) [0] r o)
 (br (A.eq n t0)
 (br (EG 6 xs2) (br ((AT xs2).beq 0)
 (AW D (Awa 173 0) [iv t0,χ 0 0,υ 1 0 n5 6,Ψ t8,iv t9,iv (A.add ω t10 1)] [bk [iv b4_0,Ψ b4_1,bv b4_2,Ψ b4_3,bv b4_4,Ψ b4_5],θ c5 Δ Δ] λr o=>
 AS 2 [0,1] (AH.mk [(0,bk [iv b4_0,Ψ b4_1,bv b4_2,Ψ b4_3,bv b4_4,Ψ b4_5]),(2,bk [iv n,Ψ xs,bv b,Ψ xs1,bv b1,Ψ xs2]),(1,θ c5 Δ Δ)] 3 Ξ) [0] r o)
 (br (Gv (E8 xs2)) (br (Ba (n5+AT xs2) 96) (br ((0+n5*6).ble c5.length) (AW D (Awa 173 0) [iv t0,χ 0 0,υ 1 0 (n5+AT xs2) 6,Ψ t8,iv t9,iv (A.add ω t10 1)] [bk [iv b4_0,Ψ b4_1,bv b4_2,Ψ b4_3,bv b4_4,Ψ b4_5],θ (Av8 0 (κ (0+n5*6) c5)++E8 xs2) Δ Δ] λr o=>
 AS 2 [0,3] (AH.mk [(0,bk [iv b4_0,Ψ b4_1,bv b4_2,Ψ b4_3,bv b4_4,Ψ b4_5]),(3,θ (Av8 0 (κ (0+n5*6) c5)++E8 xs2) Δ Δ),(2,bk [iv n,Ψ xs,bv b,Ψ xs1,bv b1,Ψ xs2])] 4 Ξ) [1,0] r o) Ξ) Ξ) Ξ)) Ξ)
 (br (Ba (n5+1) 96) (br ((0+n5*6).ble c5.length) (AW D (Awa 173 0) [iv t0,χ 0 0,υ 1 0 (n5+1) 6,Ψ t8,iv t9,iv (A.add ω t10 1)] [bk [iv b4_0,Ψ b4_1,bv b4_2,Ψ b4_3,bv b4_4,Ψ b4_5],θ (Av8 0 (κ (0+n5*6) c5)++[iv n,Ψ xs,bv b,Ψ xs1,bv b1,Ψ xs2]) Δ Δ] λr o=>
 AS 2 [0,4] (AH.mk [(0,bk [iv b4_0,Ψ b4_1,bv b4_2,Ψ b4_3,bv b4_4,Ψ b4_5]),(4,θ (Av8 0 (κ (0+n5*6) c5)++[iv n,Ψ xs,bv b,Ψ xs1,bv b1,Ψ xs2]) Δ Δ),(3,θ [iv n,Ψ xs,bv b,Ψ xs1,bv b1,Ψ xs2] Δ Δ),(2,bk [iv n,Ψ xs,bv b,Ψ xs1,bv b1,Ψ xs2])] 5 Ξ) [1,0] r o) Ξ) Ξ))))))
 (Θ ((Awe [iv 0,iv t0,χ 0 0,υ 2 0 n5 6],[Awn (bk [iv b4_0,Ψ b4_1,bv b4_2,Ψ b4_3,bv b4_4,Ψ b4_5]),BO.del,Awn (θ c5 Δ Δ)]))):=by kernel_rfl
theorem Atx(x0:Rw)(x1:Bool):B3 A D Au Uj .n 174 Yl [Ψ x0,bv x1] [] =
 Ai D (Awa 174 0) [bv x1,υ 0 0 0 6,Ψ x0,iv ↑(AT x0),iv 0] [θ [] Δ Δ] [.t,.C,.x,.X,.Y] λc l o=>
 br (BA 1 c)
 (dk [.C,.q 1 6,.N,.D,.R,.X,.E] [.l l,.o o] λn cs1=>
 br ((0+n*6).ble cs1.length) (Θ ((Ψ (Bo n 6 (κ (n*6) cs1)),[]))) Ξ)
 (Ξ):=by kernel_rfl
theorem AbR(t1:Bool)(n5:Nat)(c5:Ab)(t8:Rw)(t9 t10:Int):Dc A D Au Uj .n 174 0 (A1 Yl 0).fst (A1 Yl 0).snd [bv t1,υ 0 0 n5 6,Ψ t8,iv t9,iv t10] [{ cells:=c5,st:=Δ,ex:=Δ }] =
 br (A.lt t10 t9)
 (unI t10 λi=>
 Bw t8 i λcs=>
 dk [.I,.L,.B,.L,.B,.L,.N] [.l cs] λn xs b xs1 b1 xs2=>
 Ai D (φ 104) [δ [iv n,Ψ xs,bv b,Ψ xs1,bv b1,Ψ xs2],bv t1] [] [.a,.I,.L,.B,.L,.B,.L,.N,.E] λn1 xs3 b2 xs4 b3 xs5=>
 br (Ba (n5+1) 96) (br ((0+n5*6).ble c5.length) (AW D (Awa 174 0) [bv t1,υ 0 0 (n5+1) 6,Ψ t8,iv t9,iv (A.add ω t10 1)] [θ (Av8 0 (κ (0+n5*6) c5)++[iv n1,Ψ xs3,bv b2,Ψ xs4,bv b3,Ψ xs5]) Δ Δ] λr1 o1=>
 AS 1 [3] (AH.mk [(3,θ (Av8 0 (κ (0+n5*6) c5)++[iv n1,Ψ xs3,bv b2,Ψ xs4,bv b3,Ψ xs5]) Δ Δ),(2,θ [iv n1,Ψ xs3,bv b2,Ψ xs4,bv b3,Ψ xs5] Δ Δ),(1,bk [iv n,Ψ xs,bv b,Ψ xs1,bv b1,Ψ xs2])] 4 Ξ) [0] r1 o1) Ξ) Ξ)
 (Θ ((Awe [iv 0,υ 1 0 n5 6],[BO.del,Awn (θ c5 Δ Δ)]))):=by kernel_rfl
theorem VY(x0_0:Int)(x0_1:Rw)(x0_2:Bool)(x0_3:Rw)(x0_4:Bool)(x0_5:Rw)(x1:Bool):B3 A D Au Ir .n 104 X8 [δ [iv x0_0,Ψ x0_1,bv x0_2,Ψ x0_3,bv x0_4,Ψ x0_5],bv x1] [] =
 br (A.eq x0_0 0)
 (br (A.not x1)
 (Ai D (φ 95) [bv Δ] [] [.a,.I,.L,.B,.L,.B,.L,.N,.E] λn xs b xs1 b1 xs2=>
 Θ ((δ [iv n,Ψ xs,bv b,Ψ xs1,bv b1,Ψ xs2],[])))
 (Ai D (φ 95) [bv Φ] [] [.a,.I,.L,.B,.L,.B,.L,.N,.E] λn xs b xs1 b1 xs2=>
 Θ ((δ [iv n,Ψ xs,bv b,Ψ xs1,bv b1,Ψ xs2],[]))))
 (br (A.eq x0_0 2)
 (br (A.not x1)
 (Ai D (φ 172) [δ [Ψ x0_1,bv x0_2,Ψ x0_3,bv x0_4]] [] [.a,.I,.L,.B,.L,.B,.L,.N,.E] λn xs b xs1 b1 xs2=>
 Θ ((δ [iv n,Ψ xs,bv b,Ψ xs1,bv b1,Ψ xs2],[])))
 (Ai D (φ 23) [δ [Ψ x0_1,bv x0_2,Ψ x0_3,bv x0_4]] [] [.l,.E] λxs=>
 Ai D (Awa 104 0) [χ 0 0,υ 1 0 0 6,Ψ xs,iv ↑(AT xs),iv 0] [bk [iv 0,Ψ [],bv Φ,Ψ [],bv Φ,Ψ []],θ [] Δ Δ] [.t,.C,.x,.X,.Y] λc l o1=>
 br (BA 2 c)
 (dk [.P 0 0,.C,.q 2 6,.N,.T,.I,.L,.B,.L,.B,.L,.N,.D,.R,.X,.E] [.l l,.o o1] λn _ _ _ _ _ _ cs2=>
 br ((0+n*6).ble cs2.length) (AW D (φ 173) [iv 5,Ψ (Bo n 6 (κ (n*6) cs2))] [] λr2 o2=>
 dk [.a,.I,.L,.B,.L,.B,.L,.N,.E] [.v r2,.o o2] λn2 xs4 b2 xs5 b3 xs6=>
 Θ ((δ [iv n2,Ψ xs4,bv b2,Ψ xs5,bv b3,Ψ xs6],[]))) Ξ)
 (Ξ)))
 (br (A.eq x0_0 3)
 (br (A.lt 0 ↑(AT x0_5))
 (Bw x0_5 0 λcs=>
 dk [.I,.L,.B,.L,.B,.L,.N] [.l cs] λn xs b xs1 b1 xs2=>
 br (A.not x1)
 (Ai D (φ 104) [δ [iv n,Ψ xs,bv b,Ψ xs1,bv b1,Ψ xs2],bv Δ] [] [.a,.I,.L,.B,.L,.B,.L,.N,.E] λn1 xs3 b2 xs4 b3 xs5=>
 Θ ((δ [iv n1,Ψ xs3,bv b2,Ψ xs4,bv b3,Ψ xs5],[])))
 (Ai D (φ 104) [δ [iv n,Ψ xs,bv b,Ψ xs1,bv b1,Ψ xs2],bv Φ] [] [.a,.I,.L,.B,.L,.B,.L,.N,.E] λn1 xs3 b2 xs4 b3 xs5=>
 Θ ((δ [iv n1,Ψ xs3,bv b2,Ψ xs4,bv b3,Ψ xs5],[]))))
 (Ai D (φ 95) [bv x1] [] [.a,.I,.L,.B,.L,.B,.L,.N,.E] λn xs b xs1 b1 xs2=>
 Θ ((δ [iv n,Ψ xs,bv b,Ψ xs1,bv b1,Ψ xs2],[]))))
 (br (A.eq x0_0 4)
 (br x1
 (Ai D (φ 174) [Ψ x0_5,bv x1] [] [.l,.E] λxs=>
 Ai D (φ 173) [iv (A.sub ω 9 x0_0),Ψ xs] [] [.a,.I,.L,.B,.L,.B,.L,.N,.E] λn xs1 b xs2 b1 xs3=>
 Θ ((δ [iv n,Ψ xs1,bv b,Ψ xs2,bv b1,Ψ xs3],[])))
 (Ai D (φ 174) [Ψ x0_5,bv x1] [] [.l,.E] λxs=>
 Ai D (φ 173) [iv x0_0,Ψ xs] [] [.a,.I,.L,.B,.L,.B,.L,.N,.E] λn xs1 b xs2 b1 xs3=>
 Θ ((δ [iv n,Ψ xs1,bv b,Ψ xs2,bv b1,Ψ xs3],[]))))
 (br (A.eq x0_0 5)
 (br x1
 (Ai D (φ 174) [Ψ x0_5,bv x1] [] [.l,.E] λxs=>
 Ai D (φ 173) [iv (A.sub ω 9 x0_0),Ψ xs] [] [.a,.I,.L,.B,.L,.B,.L,.N,.E] λn xs1 b xs2 b1 xs3=>
 Θ ((δ [iv n,Ψ xs1,bv b,Ψ xs2,bv b1,Ψ xs3],[])))
 (Ai D (φ 174) [Ψ x0_5,bv x1] [] [.l,.E] λxs=>
 Ai D (φ 173) [iv x0_0,Ψ xs] [] [.a,.I,.L,.B,.L,.B,.L,.N,.E] λn xs1 b xs2 b1 xs3=>
 Θ ((δ [iv n,Ψ xs1,bv b,Ψ xs2,bv b1,Ψ xs3],[]))))
 (Ai D (φ 95) [bv x1] [] [.a,.I,.L,.B,.L,.B,.L,.N,.E] λn xs b xs1 b1 xs2=>
 Θ ((δ [iv n,Ψ xs,bv b,Ψ xs1,bv b1,Ψ xs2],[]))))))):=by kernel_rfl
theorem AbC(b4_0:Int)(b4_1:Rw)(b4_2:Bool)(b4_3:Rw)(b4_4:Bool)(b4_5:Rw)(n5:Nat)(c5:Ab)(t25:Rw)(t26 t27:Int):Dc A D Au Ir .n 104 0 (A1 X8 0).fst (A1 X8 0).snd [χ 0 0,υ 1 0 n5 6,Ψ t25,iv t26,iv t27] [bk [iv b4_0,Ψ b4_1,bv b4_2,Ψ b4_3,bv b4_4,Ψ b4_5],{ cells:=c5,st:=Δ,ex:=Δ }] =
 br (A.lt t27 t26)
 (unI t27 λi=>
 Bw t25 i λcs=>
 dk [.L,.B,.L,.B,.N] [.l cs] λxs b xs1 b1=>
 Ai D (φ 172) [δ [Ψ xs,bv b,Ψ xs1,bv b1]] [] [.a,.I,.L,.B,.L,.B,.L,.N,.E] λn xs2 b2 xs3 b3 xs4=>
 br (Ba (n5+1) 96) (br ((0+n5*6).ble c5.length) (AW D (Awa 104 0) [χ 0 0,υ 1 0 (n5+1) 6,Ψ t25,iv t26,iv (A.add ω t27 1)] [bk [iv b4_0,Ψ b4_1,bv b4_2,Ψ b4_3,bv b4_4,Ψ b4_5],θ (Av8 0 (κ (0+n5*6) c5)++[iv n,Ψ xs2,bv b2,Ψ xs3,bv b3,Ψ xs4]) Δ Δ] λr1 o1=>
 AS 2 [0,4] (AH.mk [(0,bk [iv b4_0,Ψ b4_1,bv b4_2,Ψ b4_3,bv b4_4,Ψ b4_5]),(4,θ (Av8 0 (κ (0+n5*6) c5)++[iv n,Ψ xs2,bv b2,Ψ xs3,bv b3,Ψ xs4]) Δ Δ),(3,θ [iv n,Ψ xs2,bv b2,Ψ xs3,bv b3,Ψ xs4] Δ Δ),(2,bk [Ψ xs,bv b,Ψ xs1,bv b1])] 5 Ξ) [1,0] r1 o1) Ξ) Ξ)
 (Θ ((Awe [iv 1,χ 0 0,υ 2 0 n5 6],[Awn (bk [iv b4_0,Ψ b4_1,bv b4_2,Ψ b4_3,bv b4_4,Ψ b4_5]),BO.del,Awn (θ c5 Δ Δ)]))):=by kernel_rfl
theorem e39(x0_0:Int)(x0_1:Rw)(x0_2:Bool)(x0_3:Rw)(x0_4:Bool)(x0_5:Rw):B3 A D Au AqF .n 39 Arv [δ [iv x0_0,Ψ x0_1,bv x0_2,Ψ x0_3,bv x0_4,Ψ x0_5]] [] =
 Ai D (φ 104) [δ [iv x0_0,Ψ x0_1,bv x0_2,Ψ x0_3,bv x0_4,Ψ x0_5],bv Φ] [] [.a,.I,.L,.B,.L,.B,.L,.N,.E] λn xs b xs1 b1 xs2=>
 Θ ((δ [iv n,Ψ xs,bv b,Ψ xs1,bv b1,Ψ xs2],[])):=by kernel_rfl
end
section
open Go.RowKit
def Arn:MFn:=AN [] 21
def AnU:Hnt:=⟨[(78,(.bool,[]))],[],[(6,[.bool]),(8,[.bool]),(12,BJ),(14,BJ)]⟩
def Al8:MFn:=AN [] 109
def Alk:Hnt:=⟨[],[],[]⟩
def Ya:MFn:=AN [] 111
def AcC:Hnt:=⟨[],[],[(4,[.int .i64]),(8,[.int .i64]),(12,[.ls]),(14,[.int .i64]),(18,[.ls]),(23,[.ls])]⟩
def Al9:MFn:=AN [] 110
def All:Hnt:=⟨[(20,(.agg BJ,[]))],[],[(4,BJ),(7,[.bool])]⟩
def Ago:MFn:=AN [⟨43,(mB 60),[(6000003,6)],[2],[(2,((mB 12),([],[])))]⟩] 42
def AcJ:Hnt:=⟨[(42,(.agg Bn,[])),(109,(.agg Bn,[])),(110,(.agg Bn,[])),(111,(.ls,[]))],[(0,[(2,([.ptr 0 0,.ptr 1 0],[.box Bn,.box [.int .i64,.cst (.slice Ξ 0 0),.bool,.cst (.slice Ξ 0 0),.bool,.sl 3 6],.del,.row Δ]))])],[(7,[.int .i64]),(14,Di),(21,[.int .i64]),(23,Bn),(32,[.ls]),(35,Bn),(36,Bn),(41,Bn)]⟩
def Agn:MFn:=AN [⟨52,(mB 44),[],[2,3],[(0,((mB 16),([],[2,3]))),(1,([],([],[2,3])))]⟩] 38
def Us:Hnt:=⟨[(21,(.bool,[])),(38,(.bool,[]))],[(0,[(0,([.bool],[.del,.del])),(1,([],[.del,.del]))])],[(7,[.int .i64]),(9,[.int .i64]),(13,[.ls]),(16,[.ls]),(22,[.int .i64]),(26,Di),(28,Di),(35,[.ls]),(41,[.ls]),(43,Bn),(44,Bn),(46,[.ls]),(48,Bn),(49,Bn)]⟩
def JA:List (Nat × MFn):=[(21,Arn),(109,Al8),(111,Ya),(110,Al9),(42,Ago),(38,Agn)]
variable (A:Ar) (D:Orc)
theorem e21(x0_0:Rw)(x0_1:Bool)(x0_2:Rw)(x0_3:Bool)(x1_0:Rw)(x1_1:Bool)(x1_2:Rw)(x1_3:Bool):B3 A D Au AnU .n 21 Arn [δ [Ψ x0_0,bv x0_1,Ψ x0_2,bv x0_3],δ [Ψ x1_0,bv x1_1,Ψ x1_2,bv x1_3]] [] =
 br (A.beq x0_3 x1_3)
 (Ai D (φ 78) [δ [Ψ x0_0,bv x0_1,Ψ x0_2],δ [Ψ x1_0,bv x1_1,Ψ x1_2]] [] [.b,.E] λb=>
 br b
 (Θ ((bv Δ,[])))
 (Θ ((bv Φ,[]))))
 (Θ ((bv Φ,[]))):=by kernel_rfl
theorem AsW(x0:Bool):B3 A D Au Alk .n 109 Al8 [bv x0] [] =
 br x0
 (Θ ((δ [iv 0,Ψ [],bv Φ,Ψ [],bv Φ,Ψ []],[])))
 (Θ ((δ [iv 1,Ψ [],bv Φ,Ψ [],bv Φ,Ψ []],[]))):=by kernel_rfl
theorem ApY(x0_0:Int)(x0_1:Rw)(x0_2:Bool)(x0_3:Rw)(x0_4:Bool)(x0_5:Rw):B3 A D Au AcC .n 111 Ya [δ [iv x0_0,Ψ x0_1,bv x0_2,Ψ x0_3,bv x0_4,Ψ x0_5]] [] =
 br (A.eq x0_0 4)
 (Θ ((Ψ x0_5,[])))
 (br (A.eq x0_0 5)
 (Θ ((Ψ x0_5,[])))
 (br (A.eq x0_0 3)
 (br (A.lt 0 ↑(AT x0_5))
 (br (HY 0 1 (AT x0_5)) (br (EG 6 x0_5) (Θ ((Ψ (HL (HT x0_5 1) 0),[]))) Ξ) Ξ)
 (Θ ((Ψ [],[]))))
 (Θ ((Ψ [],[]))))):=by kernel_rfl
theorem AsX(x0_0:Rw)(x0_1:Bool)(x0_2:Rw)(x0_3:Bool):B3 A D Au All .n 110 Al9 [δ [Ψ x0_0,bv x0_1,Ψ x0_2,bv x0_3]] [] =
 Ai D (φ 20) [δ [Ψ x0_0,bv x0_1,Ψ x0_2]] [] [.a,.L,.B,.L,.N,.E] λxs b xs1=>
 Θ ((δ [iv 2,Ψ xs,bv b,Ψ xs1,bv x0_3,Ψ []],[])):=by kernel_rfl
theorem e42(x0_0:Int)(x0_1:Rw)(x0_2:Bool)(x0_3:Rw)(x0_4:Bool)(x0_5:Rw):B3 A D Au AcJ .n 42 Ago [δ [iv x0_0,Ψ x0_1,bv x0_2,Ψ x0_3,bv x0_4,Ψ x0_5]] [] =
 br (A.eq x0_0 0)
 (Ai D (φ 109) [bv Δ] [] [.a,.I,.L,.B,.L,.B,.L,.N,.E] λn xs b xs1 b1 xs2=>
 Θ ((δ [iv n,Ψ xs,bv b,Ψ xs1,bv b1,Ψ xs2],[])))
 (br (A.eq x0_0 2)
 (Ai D (φ 110) [δ [Ψ x0_1,bv x0_2,Ψ x0_3,bv x0_4]] [] [.a,.I,.L,.B,.L,.B,.L,.N,.E] λn xs b xs1 b1 xs2=>
 Θ ((δ [iv n,Ψ xs,bv b,Ψ xs1,bv b1,Ψ xs2],[])))
 (br (A.eq x0_0 3)
 (Ai D (φ 111) [δ [iv x0_0,Ψ x0_1,bv x0_2,Ψ x0_3,bv x0_4,Ψ x0_5]] [] [.l,.E] λxs=>
 Ai D (Awa 42 0) [χ 0 0,χ 1 0,Ψ xs,iv 0] [bk [iv 0,Ψ [],bv Φ,Ψ [],bv Φ,Ψ []],bk [iv x0_0,Awc (Value.slice Ξ 0 0),bv Φ,Awc (Value.slice Ξ 0 0),bv Φ,υ 2 0 0 6],θ [] Δ Δ] [.t,.C,.x,.X,.Y] λc l o1=>
 br (BA 2 c)
 (dk [.P 0 0,.P 1 0,.N,.T,.I,.L,.B,.L,.B,.L,.N,.T,.I,.C,.c (Value.slice Ξ 0 0),.B,.C,.c (Value.slice Ξ 0 0),.B,.C,.q 3 6,.N,.D,.R,.X,.E] [.l l,.o o1] λ_ _ _ _ _ _ n1 b2 b3 n2 cs3=>
 br ((0+n2*6).ble cs3.length) (Θ ((δ [iv n1,Ψ [],bv b2,Ψ [],bv b3,Ψ (Bo n2 6 (κ (n2*6) cs3))],[]))) Ξ)
 (Ξ))
 (br (A.eq x0_0 4)
 (Ai D (φ 111) [δ [iv x0_0,Ψ x0_1,bv x0_2,Ψ x0_3,bv x0_4,Ψ x0_5]] [] [.l,.E] λxs=>
 Ai D (Awa 42 0) [χ 0 0,χ 1 0,Ψ xs,iv 0] [bk [iv 0,Ψ [],bv Φ,Ψ [],bv Φ,Ψ []],bk [iv x0_0,Awc (Value.slice Ξ 0 0),bv Φ,Awc (Value.slice Ξ 0 0),bv Φ,υ 2 0 0 6],θ [] Δ Δ] [.t,.C,.x,.X,.Y] λc l o1=>
 br (BA 2 c)
 (dk [.P 0 0,.P 1 0,.N,.T,.I,.L,.B,.L,.B,.L,.N,.T,.I,.C,.c (Value.slice Ξ 0 0),.B,.C,.c (Value.slice Ξ 0 0),.B,.C,.q 3 6,.N,.D,.R,.X,.E] [.l l,.o o1] λ_ _ _ _ _ _ n1 b2 b3 n2 cs3=>
 br ((0+n2*6).ble cs3.length) (Θ ((δ [iv n1,Ψ [],bv b2,Ψ [],bv b3,Ψ (Bo n2 6 (κ (n2*6) cs3))],[]))) Ξ)
 (Ξ))
 (br (A.eq x0_0 5)
 (Ai D (φ 111) [δ [iv x0_0,Ψ x0_1,bv x0_2,Ψ x0_3,bv x0_4,Ψ x0_5]] [] [.l,.E] λxs=>
 Ai D (Awa 42 0) [χ 0 0,χ 1 0,Ψ xs,iv 0] [bk [iv 0,Ψ [],bv Φ,Ψ [],bv Φ,Ψ []],bk [iv x0_0,Awc (Value.slice Ξ 0 0),bv Φ,Awc (Value.slice Ξ 0 0),bv Φ,υ 2 0 0 6],θ [] Δ Δ] [.t,.C,.x,.X,.Y] λc l o1=>
 br (BA 2 c)
 (dk [.P 0 0,.P 1 0,.N,.T,.I,.L,.B,.L,.B,.L,.N,.T,.I,.C,.c (Value.slice Ξ 0 0),.B,.C,.c (Value.slice Ξ 0 0),.B,.C,.q 3 6,.N,.D,.R,.X,.E] [.l l,.o o1] λ_ _ _ _ _ _ n1 b2 b3 n2 cs3=>
 br ((0+n2*6).ble cs3.length) (Θ ((δ [iv n1,Ψ [],bv b2,Ψ [],bv b3,Ψ (Bo n2 6 (κ (n2*6) cs3))],[]))) Ξ)
 (Ξ))
 (Ai D (φ 109) [bv Φ] [] [.a,.I,.L,.B,.L,.B,.L,.N,.E] λn xs b xs1 b1 xs2=>
 Θ ((δ [iv n,Ψ xs,bv b,Ψ xs1,bv b1,Ψ xs2],[]))))))):=by kernel_rfl
theorem Ak1(r0:Int)(r1:Rw)(r2:Bool)(r3:Rw)(r4:Bool)(r5:Rw)(k0:Int)(k2 k4:Bool)(n3:Nat)(c3:Ab)(t4:Rw)(t5:Int):Dc A D Au AcJ .n 42 0 (A1 Ago 0).fst (A1 Ago 0).snd [χ 0 0,χ 1 0,Ψ t4,iv t5] [bk [iv r0,Ψ r1,bv r2,Ψ r3,bv r4,Ψ r5],bk [iv k0,Awc (Value.slice Ξ 0 0),bv k2,Awc (Value.slice Ξ 0 0),bv k4,υ 2 0 n3 6],{ cells:=c3,st:=Δ,ex:=Δ }] =
 br (A.lt t5 ↑(AT t4))
 (unI t5 λi=>
 Bw t4 i λcs=>
 dk [.I,.L,.B,.L,.B,.L,.N] [.l cs] λn xs b xs1 b1 xs2=>
 Ai D (φ 42) [δ [iv n,Ψ xs,bv b,Ψ xs1,bv b1,Ψ xs2]] [] [.a,.I,.L,.B,.L,.B,.L,.N,.E] λn1 xs3 b2 xs4 b3 xs5=>
 br (Ba (n3+1) 96) (br ((0+n3*6).ble c3.length) (AW D (Awa 42 0) [χ 0 0,χ 1 0,Ψ t4,iv (A.add ω t5 1)] [bk [iv r0,Ψ r1,bv r2,Ψ r3,bv r4,Ψ r5],bk [iv k0,Awc (Value.slice Ξ 0 0),bv k2,Awc (Value.slice Ξ 0 0),bv k4,υ 2 0 (n3+1) 6],θ (Av8 0 (κ (0+n3*6) c3)++[iv n1,Ψ xs3,bv b2,Ψ xs4,bv b3,Ψ xs5]) Δ Δ] λr6 o1=>
 AS 3 [0,1,4] (AH.mk [(0,bk [iv r0,Ψ r1,bv r2,Ψ r3,bv r4,Ψ r5]),(1,bk [iv k0,Awc (Value.slice Ξ 0 0),bv k2,Awc (Value.slice Ξ 0 0),bv k4,υ 4 0 (n3+1) 6]),(4,θ (Av8 0 (κ (0+n3*6) c3)++[iv n1,Ψ xs3,bv b2,Ψ xs4,bv b3,Ψ xs5]) Δ Δ),(3,θ [iv n1,Ψ xs3,bv b2,Ψ xs4,bv b3,Ψ xs5] Δ Δ)] 5 Ξ) [2,1,0] r6 o1) Ξ) Ξ)
 (Θ ((Awe [iv 1,χ 0 0,χ 1 0],[Awn (bk [iv r0,Ψ r1,bv r2,Ψ r3,bv r4,Ψ r5]),Awn (bk [iv k0,Awc (Value.slice Ξ 0 0),bv k2,Awc (Value.slice Ξ 0 0),bv k4,υ 3 0 n3 6]),BO.del,Awn (θ c3 Δ Δ)]))):=by kernel_rfl
theorem e38(x0_0:Int)(x0_1:Rw)(x0_2:Bool)(x0_3:Rw)(x0_4:Bool)(x0_5:Rw)(x1_0:Int)(x1_1:Rw)(x1_2:Bool)(x1_3:Rw)(x1_4:Bool)(x1_5:Rw):B3 A D Au Us .n 38 Agn [δ [iv x0_0,Ψ x0_1,bv x0_2,Ψ x0_3,bv x0_4,Ψ x0_5],δ [iv x1_0,Ψ x1_1,bv x1_2,Ψ x1_3,bv x1_4,Ψ x1_5]] [] =
 br (A.eq x0_0 x1_0)
 (br (A.eq ↑(AT x0_5) ↑(AT x1_5))
 (br (A.eq x0_0 2)
 (Ai D (φ 21) [δ [Ψ x0_1,bv x0_2,Ψ x0_3,bv x0_4],δ [Ψ x1_1,bv x1_2,Ψ x1_3,bv x1_4]] [] [.b,.E] λb=>
 br b
 (Ai D (Awa 38 0) [χ 0 0,χ 1 0,iv 0] [bk [iv x0_0,Ψ x0_1,bv x0_2,Ψ x0_3,bv x0_4,Ψ x0_5],bk [iv x1_0,Ψ x1_1,bv x1_2,Ψ x1_3,bv x1_4,Ψ x1_5]] [.t,.C,.x,.X,.Y] λc l o1=>
 br (BA 0 c)
 (dk [.B,.N,.D,.D,.E] [.l l,.o o1] λb1=>
 Θ ((bv b1,[])))
 (br (BA 1 c)
 (dk [.N,.D,.D,.E,.w] [.l l,.o o1] λ_=>
 Θ ((bv Δ,[])))
 (Ξ)))
 (Θ ((bv Φ,[]))))
 (Ai D (Awa 38 0) [χ 0 0,χ 1 0,iv 0] [bk [iv x0_0,Ψ x0_1,bv x0_2,Ψ x0_3,bv x0_4,Ψ x0_5],bk [iv x1_0,Ψ x1_1,bv x1_2,Ψ x1_3,bv x1_4,Ψ x1_5]] [.t,.C,.x,.X,.Y] λc l o=>
 br (BA 0 c)
 (dk [.B,.N,.D,.D,.E] [.l l,.o o] λb=>
 Θ ((bv b,[])))
 (br (BA 1 c)
 (dk [.N,.D,.D,.E,.w] [.l l,.o o] λ_=>
 Θ ((bv Δ,[])))
 (Ξ))))
 (Θ ((bv Φ,[]))))
 (Θ ((bv Φ,[]))):=by kernel_rfl
theorem Ak0(b2_0:Int)(b2_1:Rw)(b2_2:Bool)(b2_3:Rw)(b2_4:Bool)(b2_5:Rw)(b3_0:Int)(b3_1:Rw)(b3_2:Bool)(b3_3:Rw)(b3_4:Bool)(b3_5:Rw)(t5:Int):Dc A D Au Us .n 38 0 (A1 Agn 0).fst (A1 Agn 0).snd [χ 0 0,χ 1 0,iv t5] [bk [iv b2_0,Ψ b2_1,bv b2_2,Ψ b2_3,bv b2_4,Ψ b2_5],bk [iv b3_0,Ψ b3_1,bv b3_2,Ψ b3_3,bv b3_4,Ψ b3_5]] =
 br (A.lt t5 ↑(AT b2_5))
 (unI t5 λi=>
 Bw b2_5 i λcs=>
 dk [.I,.L,.B,.L,.B,.L,.N] [.l cs] λn xs b xs1 b1 xs2=>
 unI t5 λi1=>
 Bw b3_5 i1 λcs1=>
 dk [.I,.L,.B,.L,.B,.L,.N] [.l cs1] λn1 xs3 b2 xs4 b3 xs5=>
 Ai D (φ 38) [δ [iv n,Ψ xs,bv b,Ψ xs1,bv b1,Ψ xs2],δ [iv n1,Ψ xs3,bv b2,Ψ xs4,bv b3,Ψ xs5]] [] [.b,.E] λb4=>
 br b4
 (AW D (Awa 38 0) [χ 0 0,χ 1 0,iv (A.add ω t5 1)] [bk [iv b2_0,Ψ b2_1,bv b2_2,Ψ b2_3,bv b2_4,Ψ b2_5],bk [iv b3_0,Ψ b3_1,bv b3_2,Ψ b3_3,bv b3_4,Ψ b3_5]] λr1 o1=>
 AS 2 [0,1] (AH.mk [(1,bk [iv b3_0,Ψ b3_1,bv b3_2,Ψ b3_3,bv b3_4,Ψ b3_5]),(0,bk [iv b2_0,Ψ b2_1,bv b2_2,Ψ b2_3,bv b2_4,Ψ b2_5])] 2 Ξ) [0,1] r1 o1)
 (Θ ((Awe [bv Δ,bv Φ],[BO.del,BO.del]))))
 (Θ ((Awe [iv 0],[BO.del,BO.del]))):=by kernel_rfl
end
section
open Go.RowKit
def Auh:MFn:=AN [⟨76,(mB 224),[],[5,6],[(0,((mB 16),([],[5,6]))),(1,((mB 96),([],[])))]⟩] 74
def Arp:MFn:=AN [] 24
def Aqz:Hnt:=⟨[(20,(.agg BJ,[])),(56,(.agg AL,[])),(73,(.agg BJ,[])),(80,(.agg BJ,[])),(81,(.agg BJ,[]))],[],[(9,BJ),(12,BJ),(13,BJ),(17,[.bool]),(19,Di),(22,BJ),(24,BJ),(27,Di)]⟩
def At9:MFn:=AN [] 19
def Aua:MFn:=AN [⟨27,(mB 35),[],[],[(0,((mB 16),([],[]))),(1,([],([],[])))]⟩] 22
def Vk:List (Nat × MFn):=[(74,Auh),(24,Arp),(19,At9),(22,Aua)]
variable (A:Ar) (D:Orc)
theorem e24(x0_0:Rw)(x0_1:Bool)(x0_2:Rw)(x0_3:Bool):B3 A D Au Aqz .n 24 Arp [δ [Ψ x0_0,bv x0_1,Ψ x0_2,bv x0_3]] [] =
 Ai D (φ 56) [iv 1] [] [.a,.B,.L,.N,.E] λb xs=>
 Ai D (φ 80) [δ [bv b,Ψ xs]] [] [.a,.L,.B,.L,.N,.E] λxs1 b1 xs2=>
 Ai D (φ 56) [iv (-1)] [] [.a,.B,.L,.N,.E] λb2 xs3=>
 Ai D (φ 73) [δ [Ψ x0_0,bv x0_1,Ψ x0_2],δ [bv b2,Ψ xs3]] [] [.a,.L,.B,.L,.N,.E] λxs4 b3 xs5=>
 Ai D (φ 81) [δ [Ψ xs4,bv b3,Ψ xs5],δ [Ψ xs1,bv b1,Ψ xs2]] [] [.a,.L,.B,.L,.N,.E] λxs6 b4 xs7=>
 br (A.not x0_3)
 (Θ ((Ψ [[Ψ xs6,bv b4,Ψ xs7,bv Φ]],[])))
 (Ai D (φ 20) [δ [Ψ x0_0,bv x0_1,Ψ x0_2]] [] [.a,.L,.B,.L,.N,.E] λxs8 b5 xs9=>
 Ai D (φ 81) [δ [Ψ xs8,bv b5,Ψ xs9],δ [Ψ xs1,bv b1,Ψ xs2]] [] [.a,.L,.B,.L,.N,.E] λxs10 b6 xs11=>
 Θ ((Ψ [[Ψ xs10,bv b6,Ψ xs11,bv Φ],[Ψ xs6,bv b4,Ψ xs7,bv Φ]],[]))):=by kernel_rfl
end
section
open Go.RowKit
def QS:MFn:=AN [⟨91,(mB 240),[(6000005,6)],[4],[(2,((mB 48),([],[])))]⟩,⟨91,(mB 790),[(6000008,6)],[2,4],[(4,((mB 272),([],[2])))]⟩] 106
def F5:Hnt:=⟨[(24,(.ls,[])),(106,(.agg Bn,[])),(109,(.agg Bn,[])),(110,(.agg Bn,[]))],[(0,[(2,([.ptr 0 0,.ptr 1 0],[.box Bn,.box [.int .i64,.cst (.slice Ξ 0 0),.bool,.cst (.slice Ξ 0 0),.bool,.sl 3 6],.del,.row Δ]))]),(1,[(4,([.ptr 1 0,.ptr 2 0],[.del,.box Bn,.box [.int .i64,.cst (.slice Ξ 0 0),.bool,.cst (.slice Ξ 0 0),.bool,.sl 4 6],.del,.row Δ]))])],[(11,[.int .i64]),(22,Di),(26,Di),(35,[.ls]),(38,Di),(39,Di),(44,Bn),(48,[.ls]),(52,[.ls]),(53,Bn),(54,Bn),(62,[.int .i64]),(66,[.int .i64]),(71,[.ls]),(77,[.ls]),(79,[.ls]),(81,Bn),(82,Bn),(88,Bn)]⟩
def QR:MFn:=AN [⟨111,(mB 102),[(6000005,6)],[1,2],[(0,([Φ,Φ,Δ],([2],[1,6000005,5]))),(1,((mB 38),([],[])))]⟩,⟨111,(mB 486),[(6000005,6)],[1,2,7],[(3,((mB 102),([],[7])))]⟩] 105
def Jt:Hnt:=⟨[(18,(.tup [.agg Di,.int .i64],[])),(105,(.agg Bn,[])),(109,(.agg Bn,[]))],[(0,[(0,([.ptr 1 0],[.del,.box Bn,.del,.del])),(1,([.ptr 0 0,.ptr 1 0,.ptr 2 0],[.box Bn,.box Bn,.box [.int .i64,.cst (.slice Ξ 0 0),.bool,.cst (.slice Ξ 0 0),.bool,.sl 4 6],.del,.row Δ]))]),(1,[(3,([.ptr 0 0,.ptr 1 0,.ptr 2 0,.int .i64],[.box Bn,.box Bn,.box [.int .i64,.cst (.slice Ξ 0 0),.bool,.cst (.slice Ξ 0 0),.bool,.sl 5 6],.del,.del,.row Δ]))])],[(10,[.int .i64]),(14,Di),(23,Di),(26,[.int .i64]),(30,[.int .i64]),(33,Bn),(35,[.int .i64]),(39,[.ls]),(45,[.ls]),(47,Bn),(48,Bn),(51,[.int .i64]),(55,[.int .i64]),(59,[.int .i64]),(62,[.int .i64]),(65,Bn),(67,[.int .i64]),(69,[.int .i64]),(73,[.ls]),(79,[.ls]),(81,[.ls]),(83,Bn),(84,Bn),(89,[.ls]),(90,Bn),(95,[.ls]),(99,[.int .i64]),(103,[.ls]),(107,[.ls]),(108,Bn),(109,Bn),(110,Bn)]⟩
def Arw:MFn:=AN [] 40
def AqG:Hnt:=⟨[(105,(.agg Bn,[])),(106,(.agg Bn,[]))],[],[(3,Bn)]⟩
def YZ:List (Nat × MFn):=[(106,QS),(105,QR),(40,Arw)]
variable (A:Ar) (D:Orc)
theorem VZ(x0_0:Int)(x0_1:Rw)(x0_2:Bool)(x0_3:Rw)(x0_4:Bool)(x0_5:Rw)(x1:Bool):B3 A D Au F5 .n 106 QS [δ [iv x0_0,Ψ x0_1,bv x0_2,Ψ x0_3,bv x0_4,Ψ x0_5],bv x1] [] =
 br (A.eq x0_0 0)
 (br (A.not x1)
 (Ai D (φ 109) [bv Δ] [] [.a,.I,.L,.B,.L,.B,.L,.N,.E] λn xs b xs1 b1 xs2=>
 Θ ((δ [iv n,Ψ xs,bv b,Ψ xs1,bv b1,Ψ xs2],[])))
 (Ai D (φ 109) [bv Φ] [] [.a,.I,.L,.B,.L,.B,.L,.N,.E] λn xs b xs1 b1 xs2=>
 Θ ((δ [iv n,Ψ xs,bv b,Ψ xs1,bv b1,Ψ xs2],[]))))
 (br (A.eq x0_0 2)
 (br (A.not x1)
 (Ai D (φ 110) [δ [Ψ x0_1,bv x0_2,Ψ x0_3,bv x0_4]] [] [.a,.I,.L,.B,.L,.B,.L,.N,.E] λn xs b xs1 b1 xs2=>
 Θ ((δ [iv n,Ψ xs,bv b,Ψ xs1,bv b1,Ψ xs2],[])))
 (Ai D (φ 24) [δ [Ψ x0_1,bv x0_2,Ψ x0_3,bv x0_4]] [] [.l,.E] λxs=>
 Ai D (Awa 106 0) [χ 0 0,χ 1 0,Ψ xs,iv 0] [bk [iv 0,Ψ [],bv Φ,Ψ [],bv Φ,Ψ []],bk [iv 5,Awc (Value.slice Ξ 0 0),bv Φ,Awc (Value.slice Ξ 0 0),bv Φ,υ 2 0 0 6],θ [] Δ Δ] [.t,.C,.x,.X,.Y] λc l o1=>
 br (BA 2 c)
 (dk [.P 0 0,.P 1 0,.N,.T,.I,.L,.B,.L,.B,.L,.N,.T,.I,.C,.c (Value.slice Ξ 0 0),.B,.C,.c (Value.slice Ξ 0 0),.B,.C,.q 3 6,.N,.D,.R,.X,.E] [.l l,.o o1] λ_ _ _ _ _ _ n1 b2 b3 n2 cs3=>
 br ((0+n2*6).ble cs3.length) (Θ ((δ [iv n1,Ψ [],bv b2,Ψ [],bv b3,Ψ (Bo n2 6 (κ (n2*6) cs3))],[]))) Ξ)
 (Ξ)))
 (br (A.eq x0_0 3)
 (br (A.lt 0 ↑(AT x0_5))
 (Bw x0_5 0 λcs=>
 dk [.I,.L,.B,.L,.B,.L,.N] [.l cs] λn xs b xs1 b1 xs2=>
 br (A.not x1)
 (Ai D (φ 106) [δ [iv n,Ψ xs,bv b,Ψ xs1,bv b1,Ψ xs2],bv Δ] [] [.a,.I,.L,.B,.L,.B,.L,.N,.E] λn1 xs3 b2 xs4 b3 xs5=>
 Θ ((δ [iv n1,Ψ xs3,bv b2,Ψ xs4,bv b3,Ψ xs5],[])))
 (Ai D (φ 106) [δ [iv n,Ψ xs,bv b,Ψ xs1,bv b1,Ψ xs2],bv Φ] [] [.a,.I,.L,.B,.L,.B,.L,.N,.E] λn1 xs3 b2 xs4 b3 xs5=>
 Θ ((δ [iv n1,Ψ xs3,bv b2,Ψ xs4,bv b3,Ψ xs5],[]))))
 (Ai D (φ 109) [bv x1] [] [.a,.I,.L,.B,.L,.B,.L,.N,.E] λn xs b xs1 b1 xs2=>
 Θ ((δ [iv n,Ψ xs,bv b,Ψ xs1,bv b1,Ψ xs2],[]))))
 (br (A.eq x0_0 4)
 (br x1
 (Ai D (Awa 106 1) [bv x1,χ 0 0,χ 1 0,χ 2 0,iv 0] [bk [iv x0_0,Ψ x0_1,bv x0_2,Ψ x0_3,bv x0_4,Ψ x0_5],bk [iv 0,Ψ [],bv Φ,Ψ [],bv Φ,Ψ []],bk [iv (A.sub ω 9 x0_0),Awc (Value.slice Ξ 0 0),bv Φ,Awc (Value.slice Ξ 0 0),bv Φ,υ 3 0 0 6],θ [] Δ Δ] [.t,.C,.x,.X,.Y] λc l o=>
 br (BA 4 c)
 (dk [.P 1 0,.P 2 0,.N,.D,.T,.I,.L,.B,.L,.B,.L,.N,.T,.I,.C,.c (Value.slice Ξ 0 0),.B,.C,.c (Value.slice Ξ 0 0),.B,.C,.q 4 6,.N,.D,.R,.X,.E] [.l l,.o o] λ_ _ _ _ _ _ n1 b2 b3 n2 cs3=>
 br ((0+n2*6).ble cs3.length) (Θ ((δ [iv n1,Ψ [],bv b2,Ψ [],bv b3,Ψ (Bo n2 6 (κ (n2*6) cs3))],[]))) Ξ)
 (Ξ))
 (Ai D (Awa 106 1) [bv x1,χ 0 0,χ 1 0,χ 2 0,iv 0] [bk [iv x0_0,Ψ x0_1,bv x0_2,Ψ x0_3,bv x0_4,Ψ x0_5],bk [iv 0,Ψ [],bv Φ,Ψ [],bv Φ,Ψ []],bk [iv x0_0,Awc (Value.slice Ξ 0 0),bv Φ,Awc (Value.slice Ξ 0 0),bv Φ,υ 3 0 0 6],θ [] Δ Δ] [.t,.C,.x,.X,.Y] λc l o=>
 br (BA 4 c)
 (dk [.P 1 0,.P 2 0,.N,.D,.T,.I,.L,.B,.L,.B,.L,.N,.T,.I,.C,.c (Value.slice Ξ 0 0),.B,.C,.c (Value.slice Ξ 0 0),.B,.C,.q 4 6,.N,.D,.R,.X,.E] [.l l,.o o] λ_ _ _ _ _ _ n1 b2 b3 n2 cs3=>
 br ((0+n2*6).ble cs3.length) (Θ ((δ [iv n1,Ψ [],bv b2,Ψ [],bv b3,Ψ (Bo n2 6 (κ (n2*6) cs3))],[]))) Ξ)
 (Ξ)))
 (br (A.eq x0_0 5)
 (br x1
 (Ai D (Awa 106 1) [bv x1,χ 0 0,χ 1 0,χ 2 0,iv 0] [bk [iv x0_0,Ψ x0_1,bv x0_2,Ψ x0_3,bv x0_4,Ψ x0_5],bk [iv 0,Ψ [],bv Φ,Ψ [],bv Φ,Ψ []],bk [iv (A.sub ω 9 x0_0),Awc (Value.slice Ξ 0 0),bv Φ,Awc (Value.slice Ξ 0 0),bv Φ,υ 3 0 0 6],θ [] Δ Δ] [.t,.C,.x,.X,.Y] λc l o=>
 br (BA 4 c)
 (dk [.P 1 0,.P 2 0,.N,.D,.T,.I,.L,.B,.L,.B,.L,.N,.T,.I,.C,.c (Value.slice Ξ 0 0),.B,.C,.c (Value.slice Ξ 0 0),.B,.C,.q 4 6,.N,.D,.R,.X,.E] [.l l,.o o] λ_ _ _ _ _ _ n1 b2 b3 n2 cs3=>
 br ((0+n2*6).ble cs3.length) (Θ ((δ [iv n1,Ψ [],bv b2,Ψ [],bv b3,Ψ (Bo n2 6 (κ (n2*6) cs3))],[]))) Ξ)
 (Ξ))
 (Ai D (Awa 106 1) [bv x1,χ 0 0,χ 1 0,χ 2 0,iv 0] [bk [iv x0_0,Ψ x0_1,bv x0_2,Ψ x0_3,bv x0_4,Ψ x0_5],bk [iv 0,Ψ [],bv Φ,Ψ [],bv Φ,Ψ []],bk [iv x0_0,Awc (Value.slice Ξ 0 0),bv Φ,Awc (Value.slice Ξ 0 0),bv Φ,υ 3 0 0 6],θ [] Δ Δ] [.t,.C,.x,.X,.Y] λc l o=>
 br (BA 4 c)
 (dk [.P 1 0,.P 2 0,.N,.D,.T,.I,.L,.B,.L,.B,.L,.N,.T,.I,.C,.c (Value.slice Ξ 0 0),.B,.C,.c (Value.slice Ξ 0 0),.B,.C,.q 4 6,.N,.D,.R,.X,.E] [.l l,.o o] λ_ _ _ _ _ _ n1 b2 b3 n2 cs3=>
 br ((0+n2*6).ble cs3.length) (Θ ((δ [iv n1,Ψ [],bv b2,Ψ [],bv b3,Ψ (Bo n2 6 (κ (n2*6) cs3))],[]))) Ξ)
 (Ξ)))
 (Ai D (φ 109) [bv x1] [] [.a,.I,.L,.B,.L,.B,.L,.N,.E] λn xs b xs1 b1 xs2=>
 Θ ((δ [iv n,Ψ xs,bv b,Ψ xs1,bv b1,Ψ xs2],[]))))))):=by kernel_rfl
theorem AbF(r0:Int)(r1:Rw)(r2:Bool)(r3:Rw)(r4:Bool)(r5:Rw)(k0:Int)(k2 k4:Bool)(n5:Nat)(c5:Ab)(t6:Rw)(t7:Int):Dc A D Au F5 .n 106 0 (A1 QS 0).fst (A1 QS 0).snd [χ 0 0,χ 1 0,Ψ t6,iv t7] [bk [iv r0,Ψ r1,bv r2,Ψ r3,bv r4,Ψ r5],bk [iv k0,Awc (Value.slice Ξ 0 0),bv k2,Awc (Value.slice Ξ 0 0),bv k4,υ 2 0 n5 6],{ cells:=c5,st:=Δ,ex:=Δ }] =
 br (A.lt t7 ↑(AT t6))
 (unI t7 λi=>
 Bw t6 i λcs=>
 dk [.L,.B,.L,.B,.N] [.l cs] λxs b xs1 b1=>
 Ai D (φ 110) [δ [Ψ xs,bv b,Ψ xs1,bv b1]] [] [.a,.I,.L,.B,.L,.B,.L,.N,.E] λn xs2 b2 xs3 b3 xs4=>
 br (Ba (n5+1) 96) (br ((0+n5*6).ble c5.length) (AW D (Awa 106 0) [χ 0 0,χ 1 0,Ψ t6,iv (A.add ω t7 1)] [bk [iv r0,Ψ r1,bv r2,Ψ r3,bv r4,Ψ r5],bk [iv k0,Awc (Value.slice Ξ 0 0),bv k2,Awc (Value.slice Ξ 0 0),bv k4,υ 2 0 (n5+1) 6],θ (Av8 0 (κ (0+n5*6) c5)++[iv n,Ψ xs2,bv b2,Ψ xs3,bv b3,Ψ xs4]) Δ Δ] λr6 o1=>
 AS 3 [0,1,4] (AH.mk [(0,bk [iv r0,Ψ r1,bv r2,Ψ r3,bv r4,Ψ r5]),(1,bk [iv k0,Awc (Value.slice Ξ 0 0),bv k2,Awc (Value.slice Ξ 0 0),bv k4,υ 4 0 (n5+1) 6]),(4,θ (Av8 0 (κ (0+n5*6) c5)++[iv n,Ψ xs2,bv b2,Ψ xs3,bv b3,Ψ xs4]) Δ Δ),(3,θ [iv n,Ψ xs2,bv b2,Ψ xs3,bv b3,Ψ xs4] Δ Δ)] 5 Ξ) [2,1,0] r6 o1) Ξ) Ξ)
 (Θ ((Awe [iv 1,χ 0 0,χ 1 0],[Awn (bk [iv r0,Ψ r1,bv r2,Ψ r3,bv r4,Ψ r5]),Awn (bk [iv k0,Awc (Value.slice Ξ 0 0),bv k2,Awc (Value.slice Ξ 0 0),bv k4,υ 3 0 n5 6]),BO.del,Awn (θ c5 Δ Δ)]))):=by kernel_rfl
theorem AbG(t1:Bool)(a0:Int)(a1:Rw)(a2:Bool)(a3:Rw)(a4:Bool)(a5:Rw)(r0:Int)(r1:Rw)(r2:Bool)(r3:Rw)(r4:Bool)(r5:Rw)(k0:Int)(k2 k4:Bool)(n5:Nat)(c5:Ab)(t9:Int):Dc A D Au F5 .n 106 1 (A1 QS 1).fst (A1 QS 1).snd [bv t1,χ 0 0,χ 1 0,χ 2 0,iv t9] [bk [iv a0,Ψ a1,bv a2,Ψ a3,bv a4,Ψ a5],bk [iv r0,Ψ r1,bv r2,Ψ r3,bv r4,Ψ r5],bk [iv k0,Awc (Value.slice Ξ 0 0),bv k2,Awc (Value.slice Ξ 0 0),bv k4,υ 3 0 n5 6],{ cells:=c5,st:=Δ,ex:=Δ }] =
 br (A.lt t9 ↑(AT a5))
 (unI t9 λi=>
 Bw a5 i λcs=>
 dk [.I,.L,.B,.L,.B,.L,.N] [.l cs] λn xs b xs1 b1 xs2=>
 Ai D (φ 106) [δ [iv n,Ψ xs,bv b,Ψ xs1,bv b1,Ψ xs2],bv t1] [] [.a,.I,.L,.B,.L,.B,.L,.N,.E] λn1 xs3 b2 xs4 b3 xs5=>
 br (Ba (n5+1) 96) (br ((0+n5*6).ble c5.length) (AW D (Awa 106 1) [bv t1,χ 0 0,χ 1 0,χ 2 0,iv (A.add ω t9 1)] [bk [iv a0,Ψ a1,bv a2,Ψ a3,bv a4,Ψ a5],bk [iv r0,Ψ r1,bv r2,Ψ r3,bv r4,Ψ r5],bk [iv k0,Awc (Value.slice Ξ 0 0),bv k2,Awc (Value.slice Ξ 0 0),bv k4,υ 3 0 (n5+1) 6],θ (Av8 0 (κ (0+n5*6) c5)++[iv n1,Ψ xs3,bv b2,Ψ xs4,bv b3,Ψ xs5]) Δ Δ] λr6 o1=>
 AS 4 [0,1,2,5] (AH.mk [(1,bk [iv r0,Ψ r1,bv r2,Ψ r3,bv r4,Ψ r5]),(0,bk [iv a0,Ψ a1,bv a2,Ψ a3,bv a4,Ψ a5]),(2,bk [iv k0,Awc (Value.slice Ξ 0 0),bv k2,Awc (Value.slice Ξ 0 0),bv k4,υ 5 0 (n5+1) 6]),(5,θ (Av8 0 (κ (0+n5*6) c5)++[iv n1,Ψ xs3,bv b2,Ψ xs4,bv b3,Ψ xs5]) Δ Δ),(4,θ [iv n1,Ψ xs3,bv b2,Ψ xs4,bv b3,Ψ xs5] Δ Δ)] 6 Ξ) [3,2,0,1] r6 o1) Ξ) Ξ)
 (Θ ((Awe [iv 3,χ 1 0,χ 2 0],[BO.del,Awn (bk [iv r0,Ψ r1,bv r2,Ψ r3,bv r4,Ψ r5]),Awn (bk [iv k0,Awc (Value.slice Ξ 0 0),bv k2,Awc (Value.slice Ξ 0 0),bv k4,υ 4 0 n5 6]),BO.del,Awn (θ c5 Δ Δ)]))):=by kernel_rfl
theorem AnA(x0_0:Int)(x0_1:Rw)(x0_2:Bool)(x0_3:Rw)(x0_4:Bool)(x0_5:Rw):B3 A D Au Jt .n 105 QR [δ [iv x0_0,Ψ x0_1,bv x0_2,Ψ x0_3,bv x0_4,Ψ x0_5]] [] =
 br (A.eq x0_0 2)
 (Ai D (φ 18) [δ [Ψ x0_1,bv x0_2,Ψ x0_3,bv x0_4]] [] [.t,.A,.L,.B,.L,.B,.N,.I,.N,.E] λxs b xs1 b1 n=>
 br (A.eq n 0)
 (Θ ((δ [iv 2,Ψ xs,bv b,Ψ xs1,bv b1,Ψ []],[])))
 (br (A.lt 0 n)
 (Ai D (φ 109) [bv Δ] [] [.a,.I,.L,.B,.L,.B,.L,.N,.E] λn1 xs2 b2 xs3 b3 xs4=>
 Θ ((δ [iv n1,Ψ xs2,bv b2,Ψ xs3,bv b3,Ψ xs4],[])))
 (Ai D (φ 109) [bv Φ] [] [.a,.I,.L,.B,.L,.B,.L,.N,.E] λn1 xs2 b2 xs3 b3 xs4=>
 Θ ((δ [iv n1,Ψ xs2,bv b2,Ψ xs3,bv b3,Ψ xs4],[])))))
 (br (A.eq x0_0 4)
 (Ai D (Awa 105 0) [χ 0 0,χ 1 0,χ 2 0,iv 0] [bk [iv x0_0,Ψ x0_1,bv x0_2,Ψ x0_3,bv x0_4,Ψ x0_5],bk [iv 0,Ψ [],bv Φ,Ψ [],bv Φ,Ψ []],bk [iv x0_0,Awc (Value.slice Ξ 0 0),bv Φ,Awc (Value.slice Ξ 0 0),bv Φ,υ 3 0 0 6],θ [] Δ Δ] [.t,.C,.x,.X,.Y] λc l o=>
 br (BA 0 c)
 (dk [.P 1 0,.N,.D,.T,.I,.L,.B,.L,.B,.L,.N,.D,.D,.E] [.l l,.o o] λn xs b xs1 b1 xs2=>
 Θ ((δ [iv n,Ψ xs,bv b,Ψ xs1,bv b1,Ψ xs2],[])))
 (br (BA 1 c)
 (dk [.P 0 0,.P 1 0,.P 2 0,.N,.T,.I,.L,.B,.L,.B,.L,.N,.T,.I,.L,.B,.L,.B,.L,.N,.T,.I,.C,.c (Value.slice Ξ 0 0),.B,.C,.c (Value.slice Ξ 0 0),.B,.C,.q 4 6,.X,.Y] [.l l,.o o] λn _ _ _ _ _ _ _ _ _ _ _ n2 b4 b5 n3 l24 l18=>
 dk [.N,.D,.R,.X,.E] [.l l24,.o l18] λcs4=>
 br (A.eq (↑n3) 0)
 (br (A.eq n 4)
 (Ai D (φ 109) [bv Δ] [] [.a,.I,.L,.B,.L,.B,.L,.N,.E] λn4 xs6 b6 xs7 b7 xs8=>
 Θ ((δ [iv n4,Ψ xs6,bv b6,Ψ xs7,bv b7,Ψ xs8],[])))
 (Ai D (φ 109) [bv Φ] [] [.a,.I,.L,.B,.L,.B,.L,.N,.E] λn4 xs6 b6 xs7 b7 xs8=>
 Θ ((δ [iv n4,Ψ xs6,bv b6,Ψ xs7,bv b7,Ψ xs8],[]))))
 (br (A.eq (↑n3) 1)
 (br (Aw0 0 n3) (Ia cs4 0 6 λcs5=>
 dk [.I,.L,.B,.L,.B,.L,.N] [.l cs5] λn4 xs6 b6 xs7 b7 xs8=>
 Θ ((δ [iv n4,Ψ xs6,bv b6,Ψ xs7,bv b7,Ψ xs8],[]))) Ξ)
 (br ((0+n3*6).ble cs4.length) (Θ ((δ [iv n2,Ψ [],bv b4,Ψ [],bv b5,Ψ (Bo n3 6 (κ (n3*6) cs4))],[]))) Ξ)))
 (Ξ)))
 (br (A.eq x0_0 5)
 (Ai D (Awa 105 0) [χ 0 0,χ 1 0,χ 2 0,iv 0] [bk [iv x0_0,Ψ x0_1,bv x0_2,Ψ x0_3,bv x0_4,Ψ x0_5],bk [iv 0,Ψ [],bv Φ,Ψ [],bv Φ,Ψ []],bk [iv x0_0,Awc (Value.slice Ξ 0 0),bv Φ,Awc (Value.slice Ξ 0 0),bv Φ,υ 3 0 0 6],θ [] Δ Δ] [.t,.C,.x,.X,.Y] λc l o=>
 br (BA 0 c)
 (dk [.P 1 0,.N,.D,.T,.I,.L,.B,.L,.B,.L,.N,.D,.D,.E] [.l l,.o o] λn xs b xs1 b1 xs2=>
 Θ ((δ [iv n,Ψ xs,bv b,Ψ xs1,bv b1,Ψ xs2],[])))
 (br (BA 1 c)
 (dk [.P 0 0,.P 1 0,.P 2 0,.N,.T,.I,.L,.B,.L,.B,.L,.N,.T,.I,.L,.B,.L,.B,.L,.N,.T,.I,.C,.c (Value.slice Ξ 0 0),.B,.C,.c (Value.slice Ξ 0 0),.B,.C,.q 4 6,.X,.Y] [.l l,.o o] λn _ _ _ _ _ _ _ _ _ _ _ n2 b4 b5 n3 l24 l18=>
 dk [.N,.D,.R,.X,.E] [.l l24,.o l18] λcs4=>
 br (A.eq (↑n3) 0)
 (br (A.eq n 4)
 (Ai D (φ 109) [bv Δ] [] [.a,.I,.L,.B,.L,.B,.L,.N,.E] λn4 xs6 b6 xs7 b7 xs8=>
 Θ ((δ [iv n4,Ψ xs6,bv b6,Ψ xs7,bv b7,Ψ xs8],[])))
 (Ai D (φ 109) [bv Φ] [] [.a,.I,.L,.B,.L,.B,.L,.N,.E] λn4 xs6 b6 xs7 b7 xs8=>
 Θ ((δ [iv n4,Ψ xs6,bv b6,Ψ xs7,bv b7,Ψ xs8],[]))))
 (br (A.eq (↑n3) 1)
 (br (Aw0 0 n3) (Ia cs4 0 6 λcs5=>
 dk [.I,.L,.B,.L,.B,.L,.N] [.l cs5] λn4 xs6 b6 xs7 b7 xs8=>
 Θ ((δ [iv n4,Ψ xs6,bv b6,Ψ xs7,bv b7,Ψ xs8],[]))) Ξ)
 (br ((0+n3*6).ble cs4.length) (Θ ((δ [iv n2,Ψ [],bv b4,Ψ [],bv b5,Ψ (Bo n3 6 (κ (n3*6) cs4))],[]))) Ξ)))
 (Ξ)))
 (Θ ((δ [iv x0_0,Ψ x0_1,bv x0_2,Ψ x0_3,bv x0_4,Ψ x0_5],[]))))):=by kernel_rfl
theorem AbD(a0:Int)(a1:Rw)(a2:Bool)(a3:Rw)(a4:Bool)(a5:Rw)(r0:Int)(r1:Rw)(r2:Bool)(r3:Rw)(r4:Bool)(r5:Rw)(k0:Int)(k2 k4:Bool)(n5:Nat)(c5:Ab)(t6:Int):Dc A D Au Jt (.b (.b (.b (.b .n (.b .n (.b .n (.b (.b (.b (.b (.f .n) (.f .n)) .n) .n) .n)))) (.b (.b (.b (.b (.b .n (.b (.b (.b (.t .n) (.t .n)) .n) .n)) .n) .n) .n) .n)) .n) .n) 105 0 (A1 QR 0).fst (A1 QR 0).snd [χ 0 0,χ 1 0,χ 2 0,iv t6] [bk [iv a0,Ψ a1,bv a2,Ψ a3,bv a4,Ψ a5],bk [iv r0,Ψ r1,bv r2,Ψ r3,bv r4,Ψ r5],bk [iv k0,Awc (Value.slice Ξ 0 0),bv k2,Awc (Value.slice Ξ 0 0),bv k4,υ 3 0 n5 6],{ cells:=c5,st:=Δ,ex:=Δ }] =
 br (A.lt t6 ↑(AT a5))
 (unI t6 λi=>
 Bw a5 i λcs=>
 dk [.I,.L,.B,.L,.B,.L,.N] [.l cs] λn xs b xs1 b1 xs2=>
 Ai D (φ 105) [δ [iv n,Ψ xs,bv b,Ψ xs1,bv b1,Ψ xs2]] [] [.a,.I,.L,.B,.L,.B,.L,.N,.E] λn1 xs3 b2 xs4 b3 xs5=>
 br (A.eq n1 0)
 (br (A.eq a0 4)
 (br (A.eq n1 1) Ξ (br (A.beq Δ Φ)
 (Θ ((Awe [bv Δ,χ 1 0],[BO.del,Awn (bk [iv n1,Ψ xs3,bv b2,Ψ xs4,bv b3,Ψ xs5]),BO.del,BO.del])))
 (AW D (Awa 105 0) [χ 0 0,χ 1 0,χ 2 0,iv (A.add ω t6 1)] [bk [iv a0,Ψ a1,bv a2,Ψ a3,bv a4,Ψ a5],bk [iv r0,Ψ r1,bv r2,Ψ r3,bv r4,Ψ r5],bk [iv k0,Awc (Value.slice Ξ 0 0),bv k2,Awc (Value.slice Ξ 0 0),bv k4,υ 3 0 n5 6],θ c5 Δ Δ] λr6 o1=>
 AS 4 [0,1,2,3] (AH.mk [(1,bk [iv r0,Ψ r1,bv r2,Ψ r3,bv r4,Ψ r5]),(0,bk [iv a0,Ψ a1,bv a2,Ψ a3,bv a4,Ψ a5]),(4,bk [iv n1,Ψ xs3,bv b2,Ψ xs4,bv b3,Ψ xs5]),(2,bk [iv k0,Awc (Value.slice Ξ 0 0),bv k2,Awc (Value.slice Ξ 0 0),bv k4,υ 3 0 n5 6]),(3,θ c5 Δ Δ)] 5 Ξ) [0,1] r6 o1)))
 (br (A.eq n1 1) Ξ (br (A.beq Φ Φ)
 (Θ ((Awe [bv Δ,χ 1 0],[BO.del,Awn (bk [iv n1,Ψ xs3,bv b2,Ψ xs4,bv b3,Ψ xs5]),BO.del,BO.del])))
 (AW D (Awa 105 0) [χ 0 0,χ 1 0,χ 2 0,iv (A.add ω t6 1)] [bk [iv a0,Ψ a1,bv a2,Ψ a3,bv a4,Ψ a5],bk [iv r0,Ψ r1,bv r2,Ψ r3,bv r4,Ψ r5],bk [iv k0,Awc (Value.slice Ξ 0 0),bv k2,Awc (Value.slice Ξ 0 0),bv k4,υ 3 0 n5 6],θ c5 Δ Δ] λr6 o1=>
 AS 4 [0,1,2,3] (AH.mk [(1,bk [iv r0,Ψ r1,bv r2,Ψ r3,bv r4,Ψ r5]),(0,bk [iv a0,Ψ a1,bv a2,Ψ a3,bv a4,Ψ a5]),(4,bk [iv n1,Ψ xs3,bv b2,Ψ xs4,bv b3,Ψ xs5]),(2,bk [iv k0,Awc (Value.slice Ξ 0 0),bv k2,Awc (Value.slice Ξ 0 0),bv k4,υ 3 0 n5 6]),(3,θ c5 Δ Δ)] 5 Ξ) [0,1] r6 o1))))
 (br (A.eq n1 1)
 (br (A.eq a0 4)
 (br (A.eq n1 1) (br (A.beq Δ Δ)
 (Θ ((Awe [bv Δ,χ 1 0],[BO.del,Awn (bk [iv n1,Ψ xs3,bv b2,Ψ xs4,bv b3,Ψ xs5]),BO.del,BO.del])))
 (AW D (Awa 105 0) [χ 0 0,χ 1 0,χ 2 0,iv (A.add ω t6 1)] [bk [iv a0,Ψ a1,bv a2,Ψ a3,bv a4,Ψ a5],bk [iv r0,Ψ r1,bv r2,Ψ r3,bv r4,Ψ r5],bk [iv k0,Awc (Value.slice Ξ 0 0),bv k2,Awc (Value.slice Ξ 0 0),bv k4,υ 3 0 n5 6],θ c5 Δ Δ] λr6 o1=>
 AS 4 [0,1,2,3] (AH.mk [(1,bk [iv r0,Ψ r1,bv r2,Ψ r3,bv r4,Ψ r5]),(0,bk [iv a0,Ψ a1,bv a2,Ψ a3,bv a4,Ψ a5]),(4,bk [iv n1,Ψ xs3,bv b2,Ψ xs4,bv b3,Ψ xs5]),(2,bk [iv k0,Awc (Value.slice Ξ 0 0),bv k2,Awc (Value.slice Ξ 0 0),bv k4,υ 3 0 n5 6]),(3,θ c5 Δ Δ)] 5 Ξ) [0,1] r6 o1)) Ξ)
 (br (A.eq n1 1) (br (A.beq Φ Δ)
 (Θ ((Awe [bv Δ,χ 1 0],[BO.del,Awn (bk [iv n1,Ψ xs3,bv b2,Ψ xs4,bv b3,Ψ xs5]),BO.del,BO.del])))
 (AW D (Awa 105 0) [χ 0 0,χ 1 0,χ 2 0,iv (A.add ω t6 1)] [bk [iv a0,Ψ a1,bv a2,Ψ a3,bv a4,Ψ a5],bk [iv r0,Ψ r1,bv r2,Ψ r3,bv r4,Ψ r5],bk [iv k0,Awc (Value.slice Ξ 0 0),bv k2,Awc (Value.slice Ξ 0 0),bv k4,υ 3 0 n5 6],θ c5 Δ Δ] λr6 o1=>
 AS 4 [0,1,2,3] (AH.mk [(1,bk [iv r0,Ψ r1,bv r2,Ψ r3,bv r4,Ψ r5]),(0,bk [iv a0,Ψ a1,bv a2,Ψ a3,bv a4,Ψ a5]),(4,bk [iv n1,Ψ xs3,bv b2,Ψ xs4,bv b3,Ψ xs5]),(2,bk [iv k0,Awc (Value.slice Ξ 0 0),bv k2,Awc (Value.slice Ξ 0 0),bv k4,υ 3 0 n5 6]),(3,θ c5 Δ Δ)] 5 Ξ) [0,1] r6 o1)) Ξ))
 (br (A.eq n1 a0)
 (Ai D (Awa 105 1) [χ 0 0,χ 1 0,χ 2 0,iv t6,χ 3 0,iv 0] [bk [iv a0,Ψ a1,bv a2,Ψ a3,bv a4,Ψ a5],bk [iv r0,Ψ r1,bv r2,Ψ r3,bv r4,Ψ r5],bk [iv k0,Awc (Value.slice Ξ 0 0),bv k2,Awc (Value.slice Ξ 0 0),bv k4,υ 4 0 n5 6],bk [iv n1,Ψ xs3,bv b2,Ψ xs4,bv b3,Ψ xs5],θ c5 Δ Δ] [.t,.C,.x,.X,.Y] λc l12 o1=>
 br (BA 3 c)
 (dk [.P 0 0,.P 1 0,.P 2 0,.I,.N,.T,.I,.L,.B,.L,.B,.L,.N,.T,.I,.L,.B,.L,.B,.L,.N,.T,.I,.C,.c (Value.slice Ξ 0 0),.B,.C,.c (Value.slice Ξ 0 0),.B,.X,.Y] [.l l12,.o o1] λn2 n3 xs6 b4 xs7 b5 xs8 n4 xs9 b6 xs10 b7 xs11 n6 b8 b9 l36 l31=>
 dk [.C,.q 5 6,.N,.D,.D,.R,.X,.E] [.l l36,.o l31] λn7 cs6=>
 AW D (Awa 105 0) [χ 0 0,χ 1 0,χ 2 0,iv (A.add ω n2 1)] [bk [iv n3,Ψ xs6,bv b4,Ψ xs7,bv b5,Ψ xs8],bk [iv n4,Ψ xs9,bv b6,Ψ xs10,bv b7,Ψ xs11],bk [iv n6,Awc (Value.slice Ξ 0 0),bv b8,Awc (Value.slice Ξ 0 0),bv b9,υ 3 0 n7 6],θ cs6 Δ Δ] λr7 o2=>
 AS 4 [0,1,2,5] (AH.mk [(1,bk [iv n4,Ψ xs9,bv b6,Ψ xs10,bv b7,Ψ xs11]),(0,bk [iv n3,Ψ xs6,bv b4,Ψ xs7,bv b5,Ψ xs8]),(5,θ cs6 Δ Δ),(2,bk [iv n6,Awc (Value.slice Ξ 0 0),bv b8,Awc (Value.slice Ξ 0 0),bv b9,υ 5 0 n7 6])] 6 Ξ) [2,3,0,1] r7 o2)
 (Ξ))
 (br (Ba (n5+1) 96) (br ((0+n5*6).ble c5.length) (AW D (Awa 105 0) [χ 0 0,χ 1 0,χ 2 0,iv (A.add ω t6 1)] [bk [iv a0,Ψ a1,bv a2,Ψ a3,bv a4,Ψ a5],bk [iv r0,Ψ r1,bv r2,Ψ r3,bv r4,Ψ r5],bk [iv k0,Awc (Value.slice Ξ 0 0),bv k2,Awc (Value.slice Ξ 0 0),bv k4,υ 3 0 (n5+1) 6],θ (Av8 0 (κ (0+n5*6) c5)++[iv n1,Ψ xs3,bv b2,Ψ xs4,bv b3,Ψ xs5]) Δ Δ] λr6 o1=>
 AS 4 [0,1,2,6] (AH.mk [(1,bk [iv r0,Ψ r1,bv r2,Ψ r3,bv r4,Ψ r5]),(0,bk [iv a0,Ψ a1,bv a2,Ψ a3,bv a4,Ψ a5]),(2,bk [iv k0,Awc (Value.slice Ξ 0 0),bv k2,Awc (Value.slice Ξ 0 0),bv k4,υ 6 0 (n5+1) 6]),(6,θ (Av8 0 (κ (0+n5*6) c5)++[iv n1,Ψ xs3,bv b2,Ψ xs4,bv b3,Ψ xs5]) Δ Δ),(5,θ [iv n1,Ψ xs3,bv b2,Ψ xs4,bv b3,Ψ xs5] Δ Δ),(4,bk [iv n1,Ψ xs3,bv b2,Ψ xs4,bv b3,Ψ xs5])] 7 Ξ) [3,2,0,1] r6 o1) Ξ) Ξ))))
 (Θ ((Awe [iv 0,χ 0 0,χ 1 0,χ 2 0],[Awn (bk [iv a0,Ψ a1,bv a2,Ψ a3,bv a4,Ψ a5]),Awn (bk [iv r0,Ψ r1,bv r2,Ψ r3,bv r4,Ψ r5]),Awn (bk [iv k0,Awc (Value.slice Ξ 0 0),bv k2,Awc (Value.slice Ξ 0 0),bv k4,υ 4 0 n5 6]),BO.del,Awn (θ c5 Δ Δ)]))):=by kernel_rfl
theorem AbE(a0:Int)(a1:Rw)(a2:Bool)(a3:Rw)(a4:Bool)(a5:Rw)(r0:Int)(r1:Rw)(r2:Bool)(r3:Rw)(r4:Bool)(r5:Rw)(k0:Int)(k2 k4:Bool)(n5:Nat)(c5:Ab)(t6 g0:Int)(g1:Rw)(g2:Bool)(g3:Rw)(g4:Bool)(g5:Rw)(t8:Int):Dc A D Au Jt .n 105 1 (A1 QR 1).fst (A1 QR 1).snd [χ 0 0,χ 1 0,χ 2 0,iv t6,χ 3 0,iv t8] [bk [iv a0,Ψ a1,bv a2,Ψ a3,bv a4,Ψ a5],bk [iv r0,Ψ r1,bv r2,Ψ r3,bv r4,Ψ r5],bk [iv k0,Awc (Value.slice Ξ 0 0),bv k2,Awc (Value.slice Ξ 0 0),bv k4,υ 4 0 n5 6],bk [iv g0,Ψ g1,bv g2,Ψ g3,bv g4,Ψ g5],{ cells:=c5,st:=Δ,ex:=Δ }] =
 br (A.lt t8 ↑(AT g5))
 (unI t8 λi=>
 Bw g5 i λcs=>
 dk [.I,.L,.B,.L,.B,.L,.N] [.l cs] λn xs b xs1 b1 xs2=>
 br (Ba (n5+1) 96) (br ((0+n5*6).ble c5.length) (AW D (Awa 105 1) [χ 0 0,χ 1 0,χ 2 0,iv t6,χ 3 0,iv (A.add ω t8 1)] [bk [iv a0,Ψ a1,bv a2,Ψ a3,bv a4,Ψ a5],bk [iv r0,Ψ r1,bv r2,Ψ r3,bv r4,Ψ r5],bk [iv k0,Awc (Value.slice Ξ 0 0),bv k2,Awc (Value.slice Ξ 0 0),bv k4,υ 4 0 (n5+1) 6],bk [iv g0,Ψ g1,bv g2,Ψ g3,bv g4,Ψ g5],θ (Av8 0 (κ (0+n5*6) c5)++[iv n,Ψ xs,bv b,Ψ xs1,bv b1,Ψ xs2]) Δ Δ] λr o=>
 AS 5 [0,1,2,3,6] (AH.mk [(3,bk [iv g0,Ψ g1,bv g2,Ψ g3,bv g4,Ψ g5]),(1,bk [iv r0,Ψ r1,bv r2,Ψ r3,bv r4,Ψ r5]),(0,bk [iv a0,Ψ a1,bv a2,Ψ a3,bv a4,Ψ a5]),(2,bk [iv k0,Awc (Value.slice Ξ 0 0),bv k2,Awc (Value.slice Ξ 0 0),bv k4,υ 6 0 (n5+1) 6]),(6,θ (Av8 0 (κ (0+n5*6) c5)++[iv n,Ψ xs,bv b,Ψ xs1,bv b1,Ψ xs2]) Δ Δ),(5,θ [iv n,Ψ xs,bv b,Ψ xs1,bv b1,Ψ xs2] Δ Δ)] 7 Ξ) [4,2,0,1,3] r o) Ξ) Ξ)
 (Θ ((Awe [iv 2,χ 0 0,χ 1 0,χ 2 0,iv t6],[Awn (bk [iv a0,Ψ a1,bv a2,Ψ a3,bv a4,Ψ a5]),Awn (bk [iv r0,Ψ r1,bv r2,Ψ r3,bv r4,Ψ r5]),Awn (bk [iv k0,Awc (Value.slice Ξ 0 0),bv k2,Awc (Value.slice Ξ 0 0),bv k4,υ 5 0 n5 6]),BO.del,BO.del,Awn (θ c5 Δ Δ)]))):=by kernel_rfl
theorem e40(x0_0:Int)(x0_1:Rw)(x0_2:Bool)(x0_3:Rw)(x0_4:Bool)(x0_5:Rw):B3 A D Au AqG .n 40 Arw [δ [iv x0_0,Ψ x0_1,bv x0_2,Ψ x0_3,bv x0_4,Ψ x0_5]] [] =
 Ai D (φ 106) [δ [iv x0_0,Ψ x0_1,bv x0_2,Ψ x0_3,bv x0_4,Ψ x0_5],bv Φ] [] [.a,.I,.L,.B,.L,.B,.L,.N,.E] λn xs b xs1 b1 xs2=>
 Ai D (φ 105) [δ [iv n,Ψ xs,bv b,Ψ xs1,bv b1,Ψ xs2]] [] [.a,.I,.L,.B,.L,.B,.L,.N,.E] λn1 xs3 b2 xs4 b3 xs5=>
 Θ ((δ [iv n1,Ψ xs3,bv b2,Ψ xs4,bv b3,Ψ xs5],[])):=by kernel_rfl
end
section
open Go.RowKit
def Agy:MFn:=AN [⟨32,(mB 226),[],[],[(1,((mB 32),([],[])))]⟩] 99
def AcS:Hnt:=⟨[(99,(.int .i64,[])),(111,(.ls,[]))],[(0,[(1,([.int .i64],[]))])],[(8,Bn),(24,Bn),(25,Bn)]⟩
def X7:MFn:=AN [⟨33,(mB 98),[],[],[(0,((mB 16),([],[]))),(1,([],([],[])))]⟩] 100
def T9:Hnt:=⟨[(16,(.bool,[])),(100,(.bool,[])),(111,(.ls,[]))],[(0,[(0,([.bool],[])),(1,([],[]))])],[(8,[.int .i64]),(12,Di),(18,Bn),(28,Bn),(29,Bn)]⟩
def Aru:MFn:=AN [] 35
def AqE:Hnt:=⟨[(99,(.int .i64,[])),(100,(.bool,[]))],[],[(7,Bn),(12,Bn)]⟩
def Y0:List (Nat × MFn):=[(99,Agy),(100,X7),(35,Aru)]
variable (A:Ar) (D:Orc)
theorem e99(x0_0:Int)(x0_1:Rw)(x0_2:Bool)(x0_3:Rw)(x0_4:Bool)(x0_5:Rw)(x1:Int):B3 A D Au AcS .n 99 Agy [δ [iv x0_0,Ψ x0_1,bv x0_2,Ψ x0_3,bv x0_4,Ψ x0_5],iv x1] [] =
 Ai D (φ 111) [δ [iv x0_0,Ψ x0_1,bv x0_2,Ψ x0_3,bv x0_4,Ψ x0_5]] [] [.l,.E] λxs=>
 Ai D (Awa 99 0) [iv x1,iv 1,Ψ xs,iv 0] [] [.t,.C,.x,.X,.Y] λc l o1=>
 br (BA 1 c)
 (dk [.I,.N,.E] [.l l,.o o1] λn=>
 Θ ((iv n,[])))
 (Ξ):=by kernel_rfl
theorem Ak9(t1 t5:Int)(t6:Rw)(t7:Int):Dc A D Au AcS .n 99 0 (A1 Agy 0).fst (A1 Agy 0).snd [iv t1,iv t5,Ψ t6,iv t7] [] =
 br (A.lt t7 ↑(AT t6))
 (br (A.le t5 t1)
 (unI t7 λi=>
 Bw t6 i λcs=>
 dk [.I,.L,.B,.L,.B,.L,.N] [.l cs] λn xs b xs1 b1 xs2=>
 Ai D (φ 99) [δ [iv n,Ψ xs,bv b,Ψ xs1,bv b1,Ψ xs2],iv (A.sub ω t1 t5)] [] [.i,.E] λn1=>
 AW D (Awa 99 0) [iv t1,iv (A.add ω t5 n1),Ψ t6,iv (A.add ω t7 1)] [] λr1 o1=>
 AS 0 [] (AH.mk [] 0 Ξ) [] r1 o1)
 (Θ ((Awe [iv 0,iv t5],[]))))
 (Θ ((Awe [iv 0,iv t5],[]))):=by kernel_rfl
theorem AsT(x0_0:Int)(x0_1:Rw)(x0_2:Bool)(x0_3:Rw)(x0_4:Bool)(x0_5:Rw)(x1:Int):B3 A D Au T9 .n 100 X7 [δ [iv x0_0,Ψ x0_1,bv x0_2,Ψ x0_3,bv x0_4,Ψ x0_5],iv x1] [] =
 br (A.eq x0_0 2)
 (Ai D (φ 16) [Ψ [[Ψ x0_1,bv x0_2,Ψ x0_3,bv x0_4]],iv 1,iv x1] [] [.b,.E] λb=>
 br b
 (Ai D (φ 111) [δ [iv x0_0,Ψ x0_1,bv x0_2,Ψ x0_3,bv x0_4,Ψ x0_5]] [] [.l,.E] λxs=>
 Ai D (Awa 100 0) [iv x1,Ψ xs,iv 0] [] [.t,.C,.x,.X,.Y] λc l o2=>
 br (BA 0 c)
 (dk [.B,.N,.E] [.l l,.o o2] λb1=>
 Θ ((bv b1,[])))
 (br (BA 1 c)
 (FQ l<|
 D2 o2<|
 Θ ((bv Δ,[])))
 (Ξ)))
 (Θ ((bv Φ,[]))))
 (Ai D (φ 111) [δ [iv x0_0,Ψ x0_1,bv x0_2,Ψ x0_3,bv x0_4,Ψ x0_5]] [] [.l,.E] λxs=>
 Ai D (Awa 100 0) [iv x1,Ψ xs,iv 0] [] [.t,.C,.x,.X,.Y] λc l o1=>
 br (BA 0 c)
 (dk [.B,.N,.E] [.l l,.o o1] λb=>
 Θ ((bv b,[])))
 (br (BA 1 c)
 (FQ l<|
 D2 o1<|
 Θ ((bv Δ,[])))
 (Ξ))):=by kernel_rfl
theorem AbB(t1:Int)(t5:Rw)(t6:Int):Dc A D Au T9 .n 100 0 (A1 X7 0).fst (A1 X7 0).snd [iv t1,Ψ t5,iv t6] [] =
 br (A.lt t6 ↑(AT t5))
 (unI t6 λi=>
 Bw t5 i λcs=>
 dk [.I,.L,.B,.L,.B,.L,.N] [.l cs] λn xs b xs1 b1 xs2=>
 Ai D (φ 100) [δ [iv n,Ψ xs,bv b,Ψ xs1,bv b1,Ψ xs2],iv t1] [] [.b,.E] λb2=>
 br b2
 (AW D (Awa 100 0) [iv t1,Ψ t5,iv (A.add ω t6 1)] [] λr1 o1=>
 AS 0 [] (AH.mk [] 0 Ξ) [] r1 o1)
 (Θ ((Awe [bv Δ,bv Φ],[]))))
 (Θ ((Awe [iv 0],[]))):=by kernel_rfl
theorem e35(x0_0:Int)(x0_1:Rw)(x0_2:Bool)(x0_3:Rw)(x0_4:Bool)(x0_5:Rw)(x1 x2:Int):B3 A D Au AqE .n 35 Aru [δ [iv x0_0,Ψ x0_1,bv x0_2,Ψ x0_3,bv x0_4,Ψ x0_5],iv x1,iv x2] [] =
 Ai D (φ 99) [δ [iv x0_0,Ψ x0_1,bv x0_2,Ψ x0_3,bv x0_4,Ψ x0_5],iv x1] [] [.i,.E] λn=>
 br (A.lt x1 n)
 (Θ ((bv Φ,[])))
 (Ai D (φ 100) [δ [iv x0_0,Ψ x0_1,bv x0_2,Ψ x0_3,bv x0_4,Ψ x0_5],iv x2] [] [.b,.E] λb=>
 br b
 (Θ ((bv Δ,[])))
 (Θ ((bv Φ,[])))):=by kernel_rfl
end
section
open Go.RowKit
def mf9:MFn:=AN [] 9
def hn9:Hnt:=⟨[(34,(.bool,[])),(35,(.bool,[])),(38,(.bool,[])),(39,(.agg Bn,[])),(40,(.agg Bn,[])),(41,(.bool,[])),(42,(.agg Bn,[]))],[],[(7,Bn),(11,Bn),(15,Bn),(17,Bn),(21,Bn),(22,Bn),(24,Bn),(26,Bn)]⟩
def Xl:List (Nat × MFn):=[(9,mf9)]
variable (A:Ar) (D:Orc)
theorem e9(x0_0:Int)(x0_1:Rw)(x0_2:Bool)(x0_3:Rw)(x0_4:Bool)(x0_5:Rw)(x1_0:Int)(x1_1:Rw)(x1_2:Bool)(x1_3:Rw)(x1_4:Bool)(x1_5:Rw):B3 A D Au hn9 .n 9 mf9 [δ [iv x0_0,Ψ x0_1,bv x0_2,Ψ x0_3,bv x0_4,Ψ x0_5],δ [iv x1_0,Ψ x1_1,bv x1_2,Ψ x1_3,bv x1_4,Ψ x1_5]] [] =
 Ai D (φ 34) [] [] [.b,.E] λb=>
 br b
 (Ai D (φ 35) [δ [iv x0_0,Ψ x0_1,bv x0_2,Ψ x0_3,bv x0_4,Ψ x0_5],iv 60,iv 8] [] [.b,.E] λb1=>
 br b1
 (Ai D (φ 35) [δ [iv x1_0,Ψ x1_1,bv x1_2,Ψ x1_3,bv x1_4,Ψ x1_5],iv 60,iv 8] [] [.b,.E] λb2=>
 br b2
 (Ai D (φ 39) [δ [iv x0_0,Ψ x0_1,bv x0_2,Ψ x0_3,bv x0_4,Ψ x0_5]] [] [.a,.I,.L,.B,.L,.B,.L,.N,.E] λn xs b3 xs1 b4 xs2=>
 Ai D (φ 40) [δ [iv x0_0,Ψ x0_1,bv x0_2,Ψ x0_3,bv x0_4,Ψ x0_5]] [] [.a,.I,.L,.B,.L,.B,.L,.N,.E] λn1 xs3 b5 xs4 b6 xs5=>
 Ai D (φ 38) [δ [iv n,Ψ xs,bv b3,Ψ xs1,bv b4,Ψ xs2],δ [iv n1,Ψ xs3,bv b5,Ψ xs4,bv b6,Ψ xs5]] [] [.b,.E] λb7=>
 br b7
 (Ai D (φ 41) [δ [iv x0_0,Ψ x0_1,bv x0_2,Ψ x0_3,bv x0_4,Ψ x0_5],δ [iv x1_0,Ψ x1_1,bv x1_2,Ψ x1_3,bv x1_4,Ψ x1_5]] [] [.b,.E] λb8=>
 br b8
 (Ai D (φ 42) [δ [iv x0_0,Ψ x0_1,bv x0_2,Ψ x0_3,bv x0_4,Ψ x0_5]] [] [.a,.I,.L,.B,.L,.B,.L,.N,.E] λn2 xs6 b9 xs7 b10 xs8=>
 Ai D (φ 42) [δ [iv x1_0,Ψ x1_1,bv x1_2,Ψ x1_3,bv x1_4,Ψ x1_5]] [] [.a,.I,.L,.B,.L,.B,.L,.N,.E] λn3 xs9 b11 xs10 b12 xs11=>
 Ai D (φ 38) [δ [iv n2,Ψ xs6,bv b9,Ψ xs7,bv b10,Ψ xs8],δ [iv n3,Ψ xs9,bv b11,Ψ xs10,bv b12,Ψ xs11]] [] [.b,.E] λb13=>
 br b13
 (br (A.beq Δ Δ)
 (Θ ((bv Δ,[])))
 (Θ ((bv Φ,[]))))
 (br (A.beq Δ Φ)
 (Θ ((bv Δ,[])))
 (Θ ((bv Φ,[])))))
 (Ai D (φ 42) [δ [iv x0_0,Ψ x0_1,bv x0_2,Ψ x0_3,bv x0_4,Ψ x0_5]] [] [.a,.I,.L,.B,.L,.B,.L,.N,.E] λn2 xs6 b9 xs7 b10 xs8=>
 Ai D (φ 42) [δ [iv x1_0,Ψ x1_1,bv x1_2,Ψ x1_3,bv x1_4,Ψ x1_5]] [] [.a,.I,.L,.B,.L,.B,.L,.N,.E] λn3 xs9 b11 xs10 b12 xs11=>
 Ai D (φ 38) [δ [iv n2,Ψ xs6,bv b9,Ψ xs7,bv b10,Ψ xs8],δ [iv n3,Ψ xs9,bv b11,Ψ xs10,bv b12,Ψ xs11]] [] [.b,.E] λb13=>
 br b13
 (br (A.beq Φ Δ)
 (Θ ((bv Δ,[])))
 (Θ ((bv Φ,[]))))
 (br (A.beq Φ Φ)
 (Θ ((bv Δ,[])))
 (Θ ((bv Φ,[]))))))
 (Θ ((bv Φ,[]))))
 (Θ ((bv Δ,[]))))
 (Θ ((bv Δ,[]))))
 (Θ ((bv Φ,[]))):=by kernel_rfl
end
