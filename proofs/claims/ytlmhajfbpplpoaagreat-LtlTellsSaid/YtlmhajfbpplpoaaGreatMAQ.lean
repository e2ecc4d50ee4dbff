/- A seat of D: tables of f -/
import Derived.Test.YtlmhajfbpplpoaaGreatMAP
set_option linter.all false
open Bool renaming false->Θ,true->U
open List renaming drop->AvI,take->AvG
open Nat renaming blt->Awv
open Option renaming none->Δ,some->V
namespace Go.Proofs.YtlmhajfbpplpoaaGreat
noncomputable section
open ABlk renaming mk->Ψ
open AV renaming agg->Φ,fn->Av2,ls->Ξ,ptr->ψ,sl->ν,tup->γ,v->AvM
open BO renaming set->AvH
open IntKind renaming i64->φ,u32->χ,u64->υ,u8->AxI
open Key renaming fn->δ,lp->ι
open Tryz renaming prog->π
open Go.RowKit
def T4:List (List (Nat × MFn)):=[Sj,Aap,Fi,NX,NV,Ws,Fc,J7,Qu,Sk,Aan,Aao]
def Xv:List (Nat × DF):=[(109,CO CH),(108,CO BZ),(240,JQ 1 (Dh 1 4)),(151,JQ 3 (Dh 3 40)),(263,JQ 3 (Mb 40))]
def EO:Seat:=ID Ak T4.flatten Xv
def QH:Orc:=Bf Ai EO
set_option maxRecDepth 100000 in
theorem ApS:JU π BI T4:=by
 repeat' first|exact trivial|refine⟨⟨_,_,_,rfl⟩,by kernel_rfl,?_⟩|refine⟨?_,?_⟩
theorem Iu:(GK T4&&NN T4.flatten Xv)=U:=by kernel_rfl
theorem Al1:Knows Ak Sj QH:=Bg Iu (i:=0) rfl
theorem Aq1:Knows Ak Aap QH:=Bg Iu (i:=1) rfl
theorem Al4:Knows Ak Fi QH:=Bg Iu (i:=2) rfl
theorem Aq4:Knows Ak NX QH:=Bg Iu (i:=3) rfl
theorem Aq0:Knows Ak NV QH:=Bg Iu (i:=4) rfl
theorem Aq6:Knows Ak Ws QH:=Bg Iu (i:=5) rfl
theorem Al3:Knows Ak Fc QH:=Bg Iu (i:=6) rfl
theorem Al5:Knows Ak J7 QH:=Bg Iu (i:=7) rfl
theorem Aq3:Knows Ak Qu QH:=Bg Iu (i:=8) rfl
theorem Al2:Knows Ak Sk QH:=Bg Iu (i:=9) rfl
theorem AqY:Knows Ak Aan QH:=Bg Iu (i:=10) rfl
theorem AqZ:Knows Ak Aao QH:=Bg Iu (i:=11) rfl
section
variable {args:Ab} {bs:List ABlk} {r:AV × List BO}
theorem Akj(h:(CO CH) args bs=V r):QH.ask (.fn 109) args bs=V r:=BB rfl h
theorem AcK(h:(CO BZ) args bs=V r):QH.ask (.fn 108) args bs=V r:=BB rfl h
theorem AcI(h:(JQ 1 (Dh 1 4)) args bs=V r):QH.ask (.fn 240) args bs=V r:=BB rfl h
theorem AcJ(h:(JQ 3 (Dh 3 40)) args bs=V r):QH.ask (.fn 151) args bs=V r:=BB rfl h
theorem Aho(h:(JQ 3 (Mb 40)) args bs=V r):QH.ask (.fn 263) args bs=V r:=BB rfl h
end
theorem Ach(h:JW π Xv):SeatOk π BI EO:=Ik X4 HW ApS h
section
open Go.RowKit
def FV:List (Nat × Nat):=[(72,0),(129,0),(130,0),(188,0),(189,0)]
def AmK:MFn:=Bj [] 191
def Als:Hnt:=⟨[(233,(.bool,[]))],[],[(6,[.bool]),(8,[.bool]),(12,[.int .i64]),(14,[.int .i64]),(19,[.int .i64]),(21,[.int .i64]),(26,BS),(28,BS)]⟩
def AmJ:MFn:=Bj [] 190
def Alr:Hnt:=⟨[(191,(.bool,[]))],[],[(4,Cg),(5,Cg)]⟩
def PB:MFn:=Bj [⟨19,(mB 387),[],[],[(0,((mB 17),([],[1000000]))),(1,([U],([],[1000000])))]⟩] 189
def U1:Hnt:=⟨[(190,(.bool,[.keep]))],[(0,[(0,([.sl 0 9,.int .i64],[.row U,.keep])),(1,([.sl 0 9],[.row U,.keep]))])],[(14,Cg),(15,Cg)]⟩
def S8:Hnt:=⟨[(190,(.bool,[.keep]))],[(0,[(0,([.cst (.slice Δ 0 0),.int .i64],[.keep])),(1,([.cst (.slice Δ 0 0)],[.keep]))])],[(14,Cg),(15,Cg)]⟩
def AfA:MFn:=I5 π BI [] Θ U 130
def AeJ:Hnt:=⟨[(189,(.int .i64,[.row U,.keep]))],[],[(9,[.ls]),(17,[.ls]),(23,[.ls]),(24,Cg)]⟩
def AeI:Hnt:=⟨[(189,(.int .i64,[.keep]))],[],[(9,[.ls]),(17,[.ls]),(23,[.ls]),(24,Cg)]⟩
def AfG:MFn:=Bj [] 188
def Zf:Hnt:=⟨[(88,(.int .i64,[])),(232,(.ls,[]))],[],[(11,Fs),(14,[.str]),(23,[.ls]),(25,Qj),(27,[.ls]),(29,[.str])]⟩
def Afz:MFn:=Bj [] 129
def AeH:Hnt:=⟨[(27,(.tup [.agg BS,.bool],[])),(188,(.tup [.agg Cg,.bool],[.keep,.keep]))],[],[(9,[.int .i64]),(12,A8),(17,A8),(22,[.ls]),(26,BS)]⟩
def AeG:Hnt:=⟨[(27,(.tup [.agg BS,.bool],[])),(188,(.tup [.agg Cg,.bool],[.keep]))],[],[(9,[.int .i64]),(12,A8),(17,A8),(22,[.ls]),(26,BS)]⟩
def AfI:MFn:=I5 π BI [⟨61,(mB 1924145348881),[(11000000,9),(3000008,3)],[4],[(0,((mB 49),([4],[3000008,8,1000000]))),(1,((mB 273),([],[1000000])))]⟩] Θ U 72
def Vh:Hnt:=⟨[(72,(.tup [.agg Cj,.bool],[.box [.ls,.ls,.int .i64,.ls,.bool,.ls,.bool,.ls,.ls,.ls,.sl 2 9],.del,.row U])),(129,(.tup [.agg Cg,.bool],[.keep,.keep])),(130,(.int .i64,[.box [.ls,.ls,.int .i64,.ls,.bool,.ls,.bool,.ls,.ls,.ls,.sl 2 9],.del,.row U]))],[(0,[(0,([.ptr 0 0,.ptr 1 0,.bool],[.box [.ls,.ls,.int .i64,.ls,.bool,.ls,.bool,.ls,.ls,.ls,.sl 5 9],.box Cj,.del,.del,.del,.row U])),(1,([.ptr 0 0,.ptr 1 0,.ptr 2 0],[.box [.ls,.ls,.int .i64,.ls,.bool,.ls,.bool,.ls,.ls,.ls,.sl 5 9],.box Cj,.box [.int .i64,.int .i64,.sl 6 3],.del,.del,.row U,.row U]))])],[(14,[.int .i64]),(18,[.int .i64]),(23,A8),(31,Cg),(35,[.int .i64]),(38,[.ls]),(42,A8),(43,A8),(46,A8),(54,[.ls]),(55,Cj),(60,Cj)]⟩
def AlY:Hnt:=⟨[(72,(.tup [.agg Cj,.bool],[.box [.ls,.ls,.int .i64,.ls,.bool,.ls,.bool,.ls,.ls,.ls,.sl 2 9],.del,.row U])),(129,(.tup [.agg Cg,.bool],[.keep])),(130,(.int .i64,[.box [.ls,.ls,.int .i64,.ls,.bool,.ls,.bool,.ls,.ls,.ls,.sl 1 9],.row U]))],[(0,[(0,([.ptr 0 0,.ptr 1 0,.bool],[.box [.ls,.ls,.int .i64,.ls,.bool,.ls,.bool,.ls,.ls,.ls,.sl 5 9],.box Cj,.del,.del,.del,.row U])),(1,([.ptr 0 0,.ptr 1 0,.ptr 2 0],[.box [.ls,.ls,.int .i64,.ls,.bool,.ls,.bool,.ls,.ls,.ls,.sl 5 9],.box Cj,.box [.int .i64,.int .i64,.sl 6 3],.del,.del,.row U,.row U]))])],[(14,[.int .i64]),(18,[.int .i64]),(23,A8),(31,Cg),(35,[.int .i64]),(38,[.ls]),(42,A8),(43,A8),(46,A8),(54,[.ls]),(55,Cj),(60,Cj)]⟩
def AoB:MFn:=Bj [] 34
def Aqz:Hnt:=⟨[(36,(.bool,[])),(72,(.tup [.agg Cj,.bool],[.box [.ls,.ls,.int .i64,.ls,.bool,.ls,.bool,.ls,.ls,.ls,.sl 1 9],.row U]))],[],[(10,Fs),(13,A8),(19,A8),(26,Cj),(30,[.ls])]⟩
def AlX:Hnt:=⟨[(36,(.bool,[])),(72,(.tup [.agg Cj,.bool],[.box [.ls,.ls,.int .i64,.ls,.bool,.ls,.bool,.ls,.ls,.ls,.cst (.slice Δ 0 0)]]))],[],[(10,Fs),(13,A8),(19,A8),(26,Cj),(30,[.ls])]⟩
def Sm:List (Nat × MFn):=[(191,AmK),(190,AmJ),(189,PB),(130,AfA),(188,AfG),(129,Afz),(72,AfI),(34,AoB)]
variable (A:Ar) (D:Orc)
theorem Atq(x0_0:Bool)(x0_1 x0_2 x0_3:Int)(x0_4:Rw)(x0_5:Bool)(x0_6:Rw)(x0_7:Bool)(x0_8:Rw)(x1_0:Bool)(x1_1 x1_2 x1_3:Int)(x1_4:Rw)(x1_5:Bool)(x1_6:Rw)(x1_7:Bool)(x1_8:Rw):Bp A D FV Als .n 191 AmK [Φ [bv x0_0,iv x0_1,iv x0_2,iv x0_3,Ξ x0_4,bv x0_5,Ξ x0_6,bv x0_7,Ξ x0_8],Φ [bv x1_0,iv x1_1,iv x1_2,iv x1_3,Ξ x1_4,bv x1_5,Ξ x1_6,bv x1_7,Ξ x1_8]] [] =
 let y1:=V (bv Θ,[]);br (A.beq x0_0 x1_0) (br (A.eq x0_1 x1_1) (br (A.eq x0_2 x1_2) (Ah D (δ 233) [Φ [iv x0_3,Ξ x0_4,bv x0_5,Ξ x0_6,bv x0_7,Ξ x0_8],Φ [iv x1_3,Ξ x1_4,bv x1_5,
 Ξ x1_6,bv x1_7,Ξ x1_8]] [] [.b,.E] λb=>br b (V (bv U,[])) y1) y1) y1) y1:=by kernel_rfl
theorem Atp(y1:Bool)(y2 y3 y4:Int)(y5:Rw)(y6:Bool)(y7:Rw)(y8:Bool)(y9:Rw)(x1:Bool)(x2 x3 x4:Int)(x5:Rw)(x6:Bool)(x7:Rw)(x8:Bool)(x9:Rw):Bp A D FV Alr .n 190 AmJ [Φ [bv y1,iv y2,iv y3,iv y4,Ξ y5,bv y6,Ξ y7,bv y8,Ξ y9],ψ 0 0] [bk [bv x1,iv x2,iv x3,iv x4,Ξ x5,bv x6,Ξ x7,bv x8,Ξ x9]] =
 Ah D (δ 191) [Φ [bv x1,iv x2,iv x3,iv x4,Ξ x5,bv x6,Ξ x7,bv x8,Ξ x9],Φ [bv y1,iv y2,iv y3,iv y4,Ξ y5,bv y6,Ξ y7,bv y8,Ξ y9]] [] [.b,.E] λb=>
 br b
 (V ((bv U,[BO.keep])))
 (V ((bv Θ,[BO.keep]))):=by kernel_rfl
theorem Aqc(n0:Nat)(c0:Ab)(x1:Bool)(x2 x3 x4:Int)(x5:Rw)(x6:Bool)(x7:Rw)(x8:Bool)(x9:Rw):Bp A D FV U1 .n 189 PB [ν 0 0 n0 9,Av2 (Fn.func 190) [] [ψ 1 0]] [{ cells:=c0,st:=U,ex:=U },bk [bv x1,iv x2,iv x3,iv x4,Ξ x5,bv x6,Ξ x7,bv x8,Ξ x9]] =
 Ah D (ι 189 0) [ν 0 0 n0 9,Av2 (Fn.func 190) [] [ψ 1 0],iv ↑n0,iv 0] [Ψ c0 U U,bk [bv x1,iv x2,iv x3,iv x4,Ξ x5,bv x6,Ξ x7,bv x8,Ξ x9]] [.t,.C,.x,.X,.Y] λc l o=>
 br (AT 0 c)
 (dk [.C,.q 0 9,.I,.N,.R,.X,.K,.E] [.l l,.o o] λ_ n1 cs1=>
 V ((iv n1,[AvH (Ψ cs1 U U),BO.keep])))
 (br (AT 1 c)
 (dk [.C,.q 0 9,.N,.R,.X,.K,.E] [.l l,.o o] λ_ cs1=>
 V ((iv (-1),[AvH (Ψ cs1 U U),BO.keep])))
 (Δ)):=by kernel_rfl
theorem Y3(n0:Nat)(c0:Ab)(x1:Bool)(x2 x3 x4:Int)(x5:Rw)(x6:Bool)(x7:Rw)(x8:Bool)(x9:Rw)(t7 t8:Int):CT A D FV U1 .n 189 0 (AI PB 0).fst (AI PB 0).snd [ν 0 0 n0 9,Av2 (Fn.func 190) [] [ψ 1 0],iv t7,iv t8] [{ cells:=c0,st:=U,ex:=U },bk [bv x1,iv x2,iv x3,iv x4,Ξ x5,bv x6,Ξ x7,bv x8,Ξ x9]] =
 br (A.lt t8 t7) (unI t8 λi=>br (i.blt n0) (Gf c0 (0+i*9) 9 λcs=>dk [.B,.I,.I,.I,.L,.B,.L,.B,.L,.N] [.l cs] λb n n1 n2 xs b1 xs1 b2 xs2=>
 let y1:=bk [bv x1,iv x2,iv x3,iv x4,Ξ x5,bv x6,Ξ x7,bv x8,Ξ x9];Ah D (δ 190) [Φ [bv b,iv n,iv n1,iv n2,Ξ xs,bv b1,Ξ xs1,bv b2,Ξ xs2],ψ 0 0] [y1] [.b,.K,.E] λb3=>
 br b3 (V (γ [bv U,ν 0 0 n0 9,iv t8],[AvH (Ψ c0 U U),BO.keep])) (AJ D (ι 189 0) [ν 0 0 n0 9,Av2 (Fn.func 190) [] [ψ 1 0],iv t7,iv (A.add φ t8 1)] [Ψ c0 U
 U,y1] λr1 o1=>AG 2 [0,1] (AH.mk [(0,Ψ c0 U U),(1,y1)] 2 Δ) [] r1 o1)) Δ) (V (γ [iv 0,ν 0 0 n0 9],[AvH (Ψ c0 U U),BO.keep])):=by kernel_rfl
theorem Aqb(x1:Bool)(x2 x3 x4:Int)(x5:Rw)(x6:Bool)(x7:Rw)(x8:Bool)(x9:Rw):Bp A D FV S8 .n 189 PB [AvM (Value.slice Δ 0 0),Av2 (Fn.func 190) [] [ψ 0 0]] [bk [bv x1,iv x2,iv x3,iv x4,Ξ x5,bv x6,Ξ x7,bv x8,Ξ x9]] =
 Ah D (ι 189 0) [AvM (Value.slice Δ 0 0),Av2 (Fn.func 190) [] [ψ 0 0],iv 0,iv 0] [bk [bv x1,iv x2,iv x3,iv x4,Ξ x5,bv x6,Ξ x7,bv x8,Ξ x9]] [.t,.C,.x,.X,.Y] λc l o=>
 br (AT 0 c)
 (dk [.C,.c (Value.slice Δ 0 0),.I,.N,.K,.E] [.l l,.o o] λn=>
 V ((iv n,[BO.keep])))
 (br (AT 1 c)
 (dk [.C,.c (Value.slice Δ 0 0),.N,.K,.E,.w] [.l l,.o o] λ_=>
 V ((iv (-1),[BO.keep])))
 (Δ)):=by kernel_rfl
theorem Ah6(x1:Bool)(x2 x3 x4:Int)(x5:Rw)(x6:Bool)(x7:Rw)(x8:Bool)(x9:Rw)(t7 t8:Int):CT A D FV S8 .n 189 0 (AI PB 0).fst (AI PB 0).snd [AvM (Value.slice Δ 0 0),Av2 (Fn.func 190) [] [ψ 0 0],iv t7,iv t8] [bk [bv x1,iv x2,iv x3,iv x4,Ξ x5,bv x6,Ξ x7,bv x8,Ξ x9]] =
 br (A.lt t8 t7)
 (unI t8 λ_=>
 Δ)
 (V ((γ [iv 0,AvM (Value.slice Δ 0 0)],[BO.keep]))):=by kernel_rfl
theorem Ap6(s1 s2:Rw)(s3:Int)(s4:Rw)(s5:Bool)(s6:Rw)(s7:Bool)(s8 s9 s10:Rw)(n0:Nat)(c0:Ab)(x1:Bool)(x2 x3 x4:Int)(x5:Rw)(x6:Bool)(x7:Rw)(x8:Bool)(x9:Rw):Bp A D FV AeJ .n 130 AfA [ψ 0 0,Φ [bv x1,iv x2,iv x3,iv x4,Ξ x5,bv x6,Ξ x7,bv x8,Ξ x9]] [bk [Ξ s1,Ξ s2,iv s3,Ξ s4,bv s5,Ξ s6,bv s7,Ξ s8,Ξ s9,Ξ s10,ν 1 0 n0 9],{ cells:=c0,st:=U,ex:=U }] =
 let y1:=[bv x1,iv x2,iv x3,iv x4,Ξ x5,bv x6,Ξ x7,bv x8,Ξ x9];Ah D (δ 189) [ν 0 0 n0 9,Av2 (Fn.func 190) [] [ψ 1 0]] [Ψ c0 U U,bk y1] [.i,.R,.X,.K,.E] λn cs=>br (A.lt
 n 0) (br (AU (n0+1) 120) (br ((0+n0*9).ble cs.length) (V (iv ↑n0,[AvH (bk [Ξ s1,Ξ s2,iv s3,Ξ s4,bv s5,Ξ s6,bv s7,Ξ s8,Ξ s9,Ξ s10,ν 2 0 (n0+1) 9]),BO.del,AvH
 (Ψ (AvI 0 (AvG (0+n0*9) cs)++y1) U U)])) Δ) Δ) (V (iv n,[AvH (bk [Ξ s1,Ξ s2,iv s3,Ξ s4,bv s5,Ξ s6,bv s7,Ξ s8,Ξ s9,Ξ s10,ν 2 0 n0 9]),BO.del,
 AvH (Ψ cs U U)])):=by kernel_rfl
theorem Ap5(s1 s2:Rw)(s3:Int)(s4:Rw)(s5:Bool)(s6:Rw)(s7:Bool)(s8 s9 s10:Rw)(x1:Bool)(x2 x3 x4:Int)(x5:Rw)(x6:Bool)(x7:Rw)(x8:Bool)(x9:Rw):Bp A D FV AeI .n 130 AfA [ψ 0 0,Φ [bv x1,iv x2,iv x3,iv x4,Ξ x5,bv x6,Ξ x7,bv x8,Ξ x9]] [bk [Ξ s1,Ξ s2,iv s3,Ξ s4,bv s5,Ξ s6,bv s7,Ξ s8,Ξ s9,Ξ s10,AvM (Value.slice Δ 0 0)]] =
 let y1:=[bv x1,iv x2,iv x3,iv x4,Ξ x5,bv x6,Ξ x7,bv x8,Ξ x9];Ah D (δ 189) [AvM (Value.slice Δ 0 0),Av2 (Fn.func 190) [] [ψ 0 0]] [bk y1] [.i,.K,.E] λn=>br (A.lt n 0) (V (iv 0,
 [AvH (bk [Ξ s1,Ξ s2,iv s3,Ξ s4,bv s5,Ξ s6,bv s7,Ξ s8,Ξ s9,Ξ s10,ν 1 0 1 9]),AvH (Ψ y1 U U)])) (V (iv n,[AvH (bk [Ξ s1,Ξ s2,iv s3,Ξ s4,bv s5,
 Ξ s6,bv s7,Ξ s8,Ξ s9,Ξ s10,AvM (Value.slice Δ 0 0)])])):=by kernel_rfl
theorem Aqa(s1 s2:Rw)(s3:Int)(s4:Rw)(s5:Bool)(s6:Rw)(s7:Bool)(s8 s9 s10:Rw)(n0:Nat)(c0:Ab)(x1:Int)(x2 x3:Rw)(x4:Int)(x5 x6:ByteArray)(x7:Rw):Bp A D FV Zf .n 188 AfG [ψ 0 0,Φ [iv x1,Ξ x2,Ξ x3,iv x4,sv x5,sv x6,Ξ x7]] [bk [Ξ s1,Ξ s2,iv s3,Ξ s4,bv s5,Ξ s6,bv s7,Ξ s8,Ξ s9,Ξ s10,ν 1 0 n0 9],{ cells:=c0,st:=U,ex:=U }] =
 Ah D (δ 232) [Φ [Ξ s1,Ξ s2,iv s3,Ξ s4,bv s5,Ξ s6,bv s7,Ξ s8,Ξ s9,Ξ s10]] [] [.l,.E] λxs=>Ah D (δ 88) [Ξ xs,sv x5] [] [.i,.E] λn=>br (A.lt n 0) (V (γ
 [Φ [bv Θ,iv 0,iv 0,iv 0,Ξ [],bv Θ,Ξ [],bv Θ,Ξ []],bv Θ],[BO.keep,BO.keep])) (unI n λi=>A4 s9 i λcs=>dk [.S,.L,.L,.N] [.l cs] λ_ xs1 _=>Ah D (δ 88) [Ξ
 xs1,sv x6] [] [.i,.E] λn1=>let y1:=Φ [bv U,iv n,iv n1,iv 0,Ξ [],bv Θ,Ξ [],bv Θ,Ξ []];br (A.le 0 n1) (V (γ [y1,bv U],[BO.keep,BO.keep])) (V (γ [y1,bv Θ],
 [BO.keep,BO.keep]))):=by kernel_rfl
theorem Ap9(s1 s2:Rw)(s3:Int)(s4:Rw)(s5:Bool)(s6:Rw)(s7:Bool)(s8 s9 s10:Rw)(x1:Int)(x2 x3:Rw)(x4:Int)(x5 x6:ByteArray)(x7:Rw):Bp A D FV Zf .n 188 AfG [ψ 0 0,Φ [iv x1,Ξ x2,Ξ x3,iv x4,sv x5,sv x6,Ξ x7]] [bk [Ξ s1,Ξ s2,iv s3,Ξ s4,bv s5,Ξ s6,bv s7,Ξ s8,Ξ s9,Ξ s10,AvM (Value.slice Δ 0 0)]] =
 Ah D (δ 232) [Φ [Ξ s1,Ξ s2,iv s3,Ξ s4,bv s5,Ξ s6,bv s7,Ξ s8,Ξ s9,Ξ s10]] [] [.l,.E] λxs=>Ah D (δ 88) [Ξ xs,sv x5] [] [.i,.E] λn=>br (A.lt n 0) (V (γ
 [Φ [bv Θ,iv 0,iv 0,iv 0,Ξ [],bv Θ,Ξ [],bv Θ,Ξ []],bv Θ],[BO.keep])) (unI n λi=>A4 s9 i λcs=>dk [.S,.L,.L,.N] [.l cs] λ_ xs1 _=>Ah D (δ 88) [Ξ xs1,sv x6]
 [] [.i,.E] λn1=>let y1:=Φ [bv U,iv n,iv n1,iv 0,Ξ [],bv Θ,Ξ [],bv Θ,Ξ []];br (A.le 0 n1) (V (γ [y1,bv U],[BO.keep])) (V (γ [y1,bv Θ],[BO.keep]))):=by kernel_rfl
theorem Ap4(s1 s2:Rw)(s3:Int)(s4:Rw)(s5:Bool)(s6:Rw)(s7:Bool)(s8 s9 s10:Rw)(n0:Nat)(c0:Ab)(x1:Int)(x2 x3:Rw)(x4:Int)(x5 x6:ByteArray)(x7:Rw):Bp A D FV AeH .n 129 Afz [ψ 0 0,Φ [iv x1,Ξ x2,Ξ x3,iv x4,sv x5,sv x6,Ξ x7]] [bk [Ξ s1,Ξ s2,iv s3,Ξ s4,bv s5,Ξ s6,bv s7,Ξ s8,Ξ s9,Ξ s10,ν 1 0 n0 9],{ cells:=c0,st:=U,ex:=U }] =
 let y1:=Φ [iv x1,Ξ x2,Ξ x3,iv x4,sv x5,sv x6,Ξ x7];br (A.eq x1 6) (Ah D (δ 188) [ψ 0 0,y1] [bk [Ξ s1,Ξ s2,iv s3,Ξ s4,bv s5,Ξ s6,bv s7,Ξ s8,Ξ s9,Ξ s10,
 ν 1 0 n0 9],Ψ c0 U U] [.t,.A,.B,.I,.I,.I,.L,.B,.L,.B,.L,.N,.B,.N,.K,.K,.E] λb n n1 n2 xs b1 xs1 b2 xs2 b3=>V (γ [Φ [bv b,iv n,iv n1,iv n2,Ξ xs,bv b1,Ξ xs1,bv b2,
 Ξ xs2],bv b3],[BO.keep,BO.keep])) (Ah D (δ 27) [y1,Ξ s1] [] [.t,.A,.I,.L,.B,.L,.B,.L,.N,.B,.N,.E] λn xs b xs1 b1 xs2 b2=>V (γ [Φ [bv Θ,iv 0,iv 0,iv n,Ξ xs,bv b,Ξ
 xs1,bv b1,Ξ xs2],bv b2],[BO.keep,BO.keep])):=by kernel_rfl
theorem Ap3(s1 s2:Rw)(s3:Int)(s4:Rw)(s5:Bool)(s6:Rw)(s7:Bool)(s8 s9 s10:Rw)(x1:Int)(x2 x3:Rw)(x4:Int)(x5 x6:ByteArray)(x7:Rw):Bp A D FV AeG .n 129 Afz [ψ 0 0,Φ [iv x1,Ξ x2,Ξ x3,iv x4,sv x5,sv x6,Ξ x7]] [bk [Ξ s1,Ξ s2,iv s3,Ξ s4,bv s5,Ξ s6,bv s7,Ξ s8,Ξ s9,Ξ s10,AvM (Value.slice Δ 0 0)]] =
 let y1:=Φ [iv x1,Ξ x2,Ξ x3,iv x4,sv x5,sv x6,Ξ x7];br (A.eq x1 6) (Ah D (δ 188) [ψ 0 0,y1] [bk [Ξ s1,Ξ s2,iv s3,Ξ s4,bv s5,Ξ s6,bv s7,Ξ s8,Ξ s9,Ξ s10,
 AvM (Value.slice Δ 0 0)]] [.t,.A,.B,.I,.I,.I,.L,.B,.L,.B,.L,.N,.B,.N,.K,.E] λb n n1 n2 xs b1 xs1 b2 xs2 b3=>V (γ [Φ [bv b,iv n,iv n1,iv n2,Ξ xs,bv b1,Ξ xs1,bv b2,Ξ xs2],
 bv b3],[BO.keep])) (Ah D (δ 27) [y1,Ξ s1] [] [.t,.A,.I,.L,.B,.L,.B,.L,.N,.B,.N,.E] λn xs b xs1 b1 xs2 b2=>V (γ [Φ [bv Θ,iv 0,iv 0,iv n,Ξ xs,bv b,Ξ xs1,bv b1,Ξ
 xs2],bv b2],[BO.keep])):=by kernel_rfl
theorem Aup(s1 s2:Rw)(s3:Int)(s4:Rw)(s5:Bool)(s6:Rw)(s7:Bool)(s8 s9 s10:Rw)(n0:Nat)(c0:Ab)(x1:Int)(x2 x3:Rw)(x4:Int)(x5 x6:ByteArray)(x7:Rw):Bp A D FV Vh .n 72 AfI [ψ 0 0,Φ [iv x1,Ξ x2,Ξ x3,iv x4,sv x5,sv x6,Ξ x7]] [bk [Ξ s1,Ξ s2,iv s3,Ξ s4,bv s5,Ξ s6,bv s7,Ξ s8,Ξ s9,Ξ s10,ν 1 0 n0 9],{ cells:=c0,st:=U,ex:=U }] =
 let y3:=λz1 z2 z3 z4 z5 z6 z7 z8 z9 z10 z11 z12=>[AvH (bk [Ξ z1,Ξ z2,iv z3,Ξ z4,bv z5,Ξ z6,bv z7,Ξ z8,Ξ z9,Ξ z10,ν 2 0 z11 9]),BO.del,AvH (Ψ z12 U U)];
 let y1:=let y2:=[bk [Ξ s1,Ξ s2,iv s3,Ξ s4,bv s5,Ξ s6,bv s7,Ξ s8,Ξ s9,Ξ s10,ν 1 0 n0 9],Ψ c0 U U];Ah D (δ 129) [ψ 0 0,Φ [iv x1,Ξ x2,Ξ x3,iv x4,sv x5,sv x6,Ξ x7]] y2 [.t,.A,.B,.I,.I,.I,.L,.B,.L,.B,.L,.N,.B,.N,.K,.K,.E] λb n n1 n2 xs b1 xs1 b2 xs2 b3=>br (A.not b3) (V (γ [Φ [iv 0,iv 0,Ξ []],bv Θ],[AvH (bk [Ξ s1,Ξ s2,iv s3,Ξ s4,bv s5,Ξ s6,bv s7,Ξ s8,Ξ s9,Ξ s10,ν 2 0 n0 9]),BO.del,AvH (Ψ c0 U U)])) (Ah D (δ 130) [ψ 0 0,Φ [bv b,iv n,iv n1,iv n2,Ξ xs,bv b1,Ξ xs1,bv b2,Ξ xs2]] y2 [.i,.T,.L,.L,.I,.L,.B,.L,.B,.L,.L,.L,.C,.q 2 9,.N,.D,.R,.X,.E] λn3 xs3 xs4 n4 xs5 b4 xs6 b5 xs7 xs8 xs9 n5 cs3=>V (γ [Φ [iv 2,iv n3,Ξ []],bv U],y3 xs3 xs4 n4 xs5 b4 xs6 b5 xs7 xs8 xs9 n5 cs3));
 br (A.eq x1 2) y1 (br (A.eq x1 6) y1 (Ah D (ι 72 0) [ψ 0 0,ψ 1 0,ψ 2 0,Ξ x7,iv ↑(AP x7),iv 0] [bk [Ξ s1,Ξ s2,iv s3,Ξ s4,bv s5,Ξ s6,bv s7,Ξ s8,Ξ s9,Ξ s10,
 ν 3 0 n0 9],bk [iv 0,iv 0,Ξ []],bk [iv x1,iv 0,ν 4 0 0 3],Ψ c0 U U,Ψ [] U U] [.t,.C,.x,.X,.Y] λc l o=>br (AT 0 c) (dk [.P 0 0,.P 1 0,.B,.N,.T,.L,.L,.I,.L,.B,.L,
 .B,.L,.L,.L,.C,.q 5 9,.N,.T,.I,.I,.L,.N,.D,.D,.D,.R,.X,.E] [.l l,.o o] λb xs xs1 n xs2 b1 xs3 b2 xs4 xs5 xs6 n1 n2 n3 xs7 cs3=>V (γ [Φ [iv n2,iv n3,Ξ xs7],bv b],y3 xs xs1 n xs2 b1 xs3
 b2 xs4 xs5 xs6 n1 cs3)) (br (AT 1 c) (dk [.P 0 0,.P 1 0,.P 2 0,.N,.T,.L,.L,.I,.L,.B,.L,.B,.L,.L,.L,.C,.q 5 9,.N,.T,.I,.I,.L,.N,.T,.I,.I,.C,.q 6 3,.N,.Y] [.l l,.o o] λxs xs1 n xs2 b xs3 b1 xs4
 xs5 xs6 n1 _ _ _ n4 n5 n6 l20=>dk [.D,.D,.R,.X,.R,.X,.E] [.o l20] λcs4 cs5=>br ((0+n6*3).ble cs5.length) (V (γ [Φ [iv n4,iv n5,Ξ (Bo n6 3 (AvG (n6*3) cs5))],bv U],y3 xs xs1 n
 xs2 b xs3 b1 xs4 xs5 xs6 n1 cs4)) Δ) Δ))):=by kernel_rfl
theorem Aei(s1 s2:Rw)(s3:Int)(s4:Rw)(s5:Bool)(s6:Rw)(s7:Bool)(s8 s9 s10:Rw)(n0:Nat)(a0 a1:Int)(a2:Rw)(k0 k1:Int)(n8:Nat)(c0 c8:Ab)(t38:Rw)(t39 t40:Int):CT A D FV Vh .n 72 0 (AI AfI 0).fst (AI AfI 0).snd [ψ 0 0,ψ 1 0,ψ 2 0,Ξ t38,iv t39,iv t40] [bk [Ξ s1,Ξ s2,iv s3,Ξ s4,bv s5,Ξ s6,bv s7,Ξ s8,Ξ s9,Ξ s10,ν 3 0 n0 9],bk [iv a0,iv a1,Ξ a2],bk [iv k0,iv k1,ν 4 0 n8 3],{ cells:=c0,st:=U,ex:=U },{ cells:=c8,st:=U,ex:=U }] =
 let y3:=bk [iv a0,iv a1,Ξ a2];br (A.lt t40 t39) (unI t40 λi=>A4 t38 i λcs=>dk [.I,.L,.L,.I,.S,.S,.L,.N] [.l cs] λn xs xs1 n1 s s11 xs2=>
 let y2:=[iv n,Ξ xs,Ξ xs1,iv n1,sv s,sv s11,Ξ xs2];Ah D (δ 72) [ψ 0 0,Φ y2] [bk [Ξ s1,Ξ s2,iv s3,Ξ s4,bv s5,Ξ s6,bv s7,Ξ s8,Ξ s9,Ξ s10,ν 1 0 n0 9],
 Ψ c0 U U] [.t,.A,.I,.I,.L,.N,.B,.N,.T,.L,.L,.I,.L,.B,.L,.B,.L,.L,.L,.C,.q 2 9,.N,.D,.R,.X,.E] λn2 n3 xs3 b xs4 xs5 n4 xs6 b1 xs7 b2 xs8 xs9 xs10 n5 cs4=>br (A.not b) (V (γ [bv
 U,ψ 0 0,ψ 1 0,bv Θ],[AvH (bk [Ξ xs4,Ξ xs5,iv n4,Ξ xs6,bv b1,Ξ xs7,bv b2,Ξ xs8,Ξ xs9,Ξ xs10,ν 5 0 n5 9]),AvH (bk [iv 0,iv 0,Ξ []]),BO.del,BO.del,
 BO.del,AvH (Ψ cs4 U U)])) (br (AU (n8+1) 40) (br ((0+n8*3).ble c8.length) (let y4:=[iv n2,iv n3,Ξ xs3];let y1:=Ψ (AvI 0 (AvG (0+n8*3) c8)++y4) U U;AJ D (ι
 72 0) [ψ 0 0,ψ 1 0,ψ 2 0,Ξ t38,iv t39,iv (A.add φ t40 1)] [bk [Ξ xs4,Ξ xs5,iv n4,Ξ xs6,bv b1,Ξ xs7,bv b2,Ξ xs8,Ξ xs9,Ξ xs10,ν 3 0 n5 9],y3,bk [iv k0,
 iv k1,ν 4 0 (n8+1) 3],Ψ cs4 U U,y1] λr1 o1=>AG 5 [0,1,2,6,9] (AH.mk [(1,y3),(2,bk [iv k0,iv k1,ν 9 0 (n8+1) 3]),(9,y1),(8,Ψ y4 U U),(7,bk y4),(6,Ψ cs4 U
 U),(0,bk [Ξ xs4,Ξ xs5,iv n4,Ξ xs6,bv b1,Ξ xs7,bv b2,Ξ xs8,Ξ xs9,Ξ xs10,ν 6 0 n5 9]),(5,bk y2)] 10 Δ) [0,3,4,2,1] r1 o1) Δ) Δ)) (V (γ [iv 0,ψ 0 0,ψ
 1 0,ψ 2 0],[AvH (bk [Ξ s1,Ξ s2,iv s3,Ξ s4,bv s5,Ξ s6,bv s7,Ξ s8,Ξ s9,Ξ s10,ν 5 0 n0 9]),AvH y3,AvH (bk [iv k0,iv k1,ν 6 0 n8 3]),BO.del,BO.del,AvH (Ψ
 c0 U U),AvH (Ψ c8 U U)])):=by kernel_rfl
theorem Auo(s1 s2:Rw)(s3:Int)(s4:Rw)(s5:Bool)(s6:Rw)(s7:Bool)(s8 s9 s10:Rw)(x1:Int)(x2 x3:Rw)(x4:Int)(x5 x6:ByteArray)(x7:Rw):Bp A D FV AlY .n 72 AfI [ψ 0 0,Φ [iv x1,Ξ x2,Ξ x3,iv x4,sv x5,sv x6,Ξ x7]] [bk [Ξ s1,Ξ s2,iv s3,Ξ s4,bv s5,Ξ s6,bv s7,Ξ s8,Ξ s9,Ξ s10,AvM (Value.slice Δ 0 0)]] =
 let y3:=λz1 z2 z3 z4 z5 z6 z7 z8 z9 z10 z11 z12=>[AvH (bk [Ξ z1,Ξ z2,iv z3,Ξ z4,bv z5,Ξ z6,bv z7,Ξ z8,Ξ z9,Ξ z10,ν 1 0 z11 9]),AvH (Ψ z12 U U)];
 let y1:=let y2:=bk [Ξ s1,Ξ s2,iv s3,Ξ s4,bv s5,Ξ s6,bv s7,Ξ s8,Ξ s9,Ξ s10,AvM (Value.slice Δ 0 0)];Ah D (δ 129) [ψ 0 0,Φ [iv x1,Ξ x2,Ξ x3,iv x4,sv x5,sv x6,Ξ x7]] [y2] [.t,.A,.B,.I,.I,.I,.L,.B,.L,.B,.L,.N,.B,.N,.K,.E] λb n n1 n2 xs b1 xs1 b2 xs2 b3=>br (A.not b3) (V (γ [Φ [iv 0,iv 0,Ξ []],bv Θ],[AvH y2])) (Ah D (δ 130) [ψ 0 0,Φ [bv b,iv n,iv n1,iv n2,Ξ xs,bv b1,Ξ xs1,bv b2,Ξ xs2]] [y2] [.i,.T,.L,.L,.I,.L,.B,.L,.B,.L,.L,.L,.C,.q 1 9,.N,.R,.X,.E] λn3 xs3 xs4 n4 xs5 b4 xs6 b5 xs7 xs8 xs9 n5 cs3=>V (γ [Φ [iv 2,iv n3,Ξ []],bv U],y3 xs3 xs4 n4 xs5 b4 xs6 b5 xs7 xs8 xs9 n5 cs3));
 br (A.eq x1 2) y1 (br (A.eq x1 6) y1 (Ah D (ι 72 0) [ψ 0 0,ψ 1 0,ψ 2 0,Ξ x7,iv ↑(AP x7),iv 0] [bk [Ξ s1,Ξ s2,iv s3,Ξ s4,bv s5,Ξ s6,bv s7,Ξ s8,Ξ s9,Ξ s10,
 ν 3 0 0 9],bk [iv 0,iv 0,Ξ []],bk [iv x1,iv 0,ν 4 0 0 3],Ψ [] U U,Ψ [] U U] [.t,.C,.x,.X,.Y] λc l o=>br (AT 0 c) (dk [.P 0 0,.P 1 0,.B,.N,.T,.L,.L,.I,.L,.B,.L,.B,
 .L,.L,.L,.C,.q 5 9,.N,.T,.I,.I,.L,.N,.D,.D,.D,.R,.X,.E] [.l l,.o o] λb xs xs1 n xs2 b1 xs3 b2 xs4 xs5 xs6 n1 n2 n3 xs7 cs3=>V (γ [Φ [iv n2,iv n3,Ξ xs7],bv b],y3 xs xs1 n xs2 b1 xs3 b2
 xs4 xs5 xs6 n1 cs3)) (br (AT 1 c) (dk [.P 0 0,.P 1 0,.P 2 0,.N,.T,.L,.L,.I,.L,.B,.L,.B,.L,.L,.L,.C,.q 5 9,.N,.T,.I,.I,.L,.N,.T,.I,.I,.C,.q 6 3,.N,.Y] [.l l,.o o] λxs xs1 n xs2 b xs3 b1 xs4 xs5
 xs6 n1 _ _ _ n4 n5 n6 l20=>dk [.D,.D,.R,.X,.R,.X,.E] [.o l20] λcs4 cs5=>br ((0+n6*3).ble cs5.length) (V (γ [Φ [iv n4,iv n5,Ξ (Bo n6 3 (AvG (n6*3) cs5))],bv U],y3 xs xs1 n xs2 b
 xs3 b1 xs4 xs5 xs6 n1 cs4)) Δ) Δ))):=by kernel_rfl
theorem Aun(x0_0:Int)(x0_1 x0_2:Rw)(x0_3:Int)(x0_4 x0_5:ByteArray)(x0_6 x1_0 x1_1:Rw)(x1_2:Int)(x1_3:Rw)(x1_4:Bool)(x1_5:Rw)(x1_6:Bool)(x1_7 x1_8 x1_9:Rw):Bp A D FV Aqz .n 34 AoB [Φ [iv x0_0,Ξ x0_1,Ξ x0_2,iv x0_3,sv x0_4,sv x0_5,Ξ x0_6],Φ [Ξ x1_0,Ξ x1_1,iv x1_2,Ξ x1_3,bv x1_4,Ξ x1_5,bv x1_6,Ξ x1_7,Ξ x1_8,Ξ x1_9]] [] =
 let y1:=Φ [iv x0_0,Ξ x0_1,Ξ x0_2,iv x0_3,sv x0_4,sv x0_5,Ξ x0_6];Ah D (δ 36) [y1] [] [.b,.E] λb=>let y2:=V (γ [Φ [iv 0,iv 0,Ξ []],Ξ [],bv Θ],[]);br b (Ah D
 (δ 72) [ψ 0 0,y1] [bk [Ξ x1_0,Ξ x1_1,iv x1_2,Ξ x1_3,bv x1_4,Ξ x1_5,bv x1_6,Ξ x1_7,Ξ x1_8,Ξ x1_9,AvM (Value.slice Δ 0 0)]] [.t,.A,.I,.I,.L,.N,.B,.N,.T,.L,.L,.I,.L,
 .B,.L,.B,.L,.L,.L,.C,.q 1 9,.N,.R,.X,.E] λn n1 xs b1 _ _ _ _ _ _ _ _ _ _ n3 cs3=>br (A.not b1) y2 (br ((0+n3*9).ble cs3.length) (V (γ [Φ [iv n,iv n1,Ξ xs],Ξ (Bo n3 9 (AvG (n3
 * 9) cs3)),bv U],[])) Δ)) y2:=by kernel_rfl
theorem Aum(x0_0:Int)(x0_1 x0_2:Rw)(x0_3:Int)(x0_4 x0_5:ByteArray)(x0_6 x1_0 x1_1:Rw)(x1_2:Int)(x1_3:Rw)(x1_4:Bool)(x1_5:Rw)(x1_6:Bool)(x1_7 x1_8 x1_9:Rw):Bp A D FV AlX .n 34 AoB [Φ [iv x0_0,Ξ x0_1,Ξ x0_2,iv x0_3,sv x0_4,sv x0_5,Ξ x0_6],Φ [Ξ x1_0,Ξ x1_1,iv x1_2,Ξ x1_3,bv x1_4,Ξ x1_5,bv x1_6,Ξ x1_7,Ξ x1_8,Ξ x1_9]] [] =
 let y1:=Φ [iv x0_0,Ξ x0_1,Ξ x0_2,iv x0_3,sv x0_4,sv x0_5,Ξ x0_6];Ah D (δ 36) [y1] [] [.b,.E] λb=>let y2:=V (γ [Φ [iv 0,iv 0,Ξ []],Ξ [],bv Θ],[]);br b (Ah D
 (δ 72) [ψ 0 0,y1] [bk [Ξ x1_0,Ξ x1_1,iv x1_2,Ξ x1_3,bv x1_4,Ξ x1_5,bv x1_6,Ξ x1_7,Ξ x1_8,Ξ x1_9,AvM (Value.slice Δ 0 0)]] [.t,.A,.I,.I,.L,.N,.B,.N,.T,.L,.L,.I,.L,
 .B,.L,.B,.L,.L,.L,.C,.c (Value.slice Δ 0 0),.N,.E] λn n1 xs b1 _ _ _ _ _ _ _ _ _ _=>br (A.not b1) y2 (V (γ [Φ [iv n,iv n1,Ξ xs],Ξ [],bv U],[]))) y2:=by kernel_rfl
end
def T5:List (List (Nat × MFn)):=[Sm]
def Xw:List (Nat × DF):=[(27,(Bf Ai EO).ask (.fn 27)),(233,(Bf Ai EO).ask (.fn 233)),(88,(Bf Ai EO).ask (.fn 88)),(232,(Bf Ai EO).ask (.fn 232)),(36,(Bf Ai EO).ask (.fn 36))]
def K3:Seat:=ID FV T5.flatten Xw
def DRv:Orc:=Bf Ai K3
set_option maxRecDepth 100000 in
theorem ApT:JU π BI T5:=by
 repeat' first|exact trivial|refine⟨⟨_,_,_,rfl⟩,by kernel_rfl,?_⟩|refine⟨?_,?_⟩
theorem ApX:(GK T5&&NN T5.flatten Xw)=U:=by kernel_rfl
theorem Aq5:Knows FV Sm DRv:=Bg ApX (i:=0) rfl
section
variable {args:Ab} {bs:List ABlk} {r:AV × List BO}
theorem Aki(h:((Bf Ai EO).ask (.fn 27)) args bs=V r):DRv.ask (.fn 27) args bs=V r:=BB rfl h
theorem Akk(h:((Bf Ai EO).ask (.fn 233)) args bs=V r):DRv.ask (.fn 233) args bs=V r:=BB rfl h
theorem Ahp(h:((Bf Ai EO).ask (.fn 88)) args bs=V r):DRv.ask (.fn 88) args bs=V r:=BB rfl h
theorem Aht(h:((Bf Ai EO).ask (.fn 232)) args bs=V r):DRv.ask (.fn 232) args bs=V r:=BB rfl h
theorem Ahu(h:((Bf Ai EO).ask (.fn 36)) args bs=V r):DRv.ask (.fn 36) args bs=V r:=BB rfl h
end
theorem Aci(h:JW π Xw):SeatOk π BI K3:=Ik X4 HW ApT h
def Qr:List (Nat × MFn):=[(237,Am1)]
section
open Go.RowKit
def ArG:MFn:=Bj [] 78
def AqP:Hnt:=⟨[],[],[(4,[.ls]),(7,[.ls]),(13,[.int .i64]),(18,[.str]),(23,[.str])]⟩
def Zr:MFn:=Bj [⟨53,(mB 9),[],[],[(0,([Θ,Θ,U],([],[]))),(1,([],([],[])))]⟩] 135
def UT:Hnt:=⟨[(77,(.bool,[])),(195,(.bool,[]))],[(0,[(0,([.bool],[])),(1,([],[]))])],[(21,Mi),(22,Mi),(24,[.str]),(28,[.str]),(33,[.str]),(37,[.str]),(44,[.str]),(48,[.str])]⟩
def ArF:MFn:=Bj [] 76
def AqO:Hnt:=⟨[(135,(.bool,[]))],[],[(4,[.int .i64]),(8,[.ls]),(13,[.ls]),(18,[.int .i64]),(23,[.int .i64]),(28,[.str]),(33,[.str]),(38,[.ls])]⟩
def AmN:MFn:=Bj [⟨70,(mB 70),[],[2],[(0,((mB 16),([],[2]))),(2,([],([],[2])))]⟩] 196
def Alv:Hnt:=⟨[(76,(.bool,[])),(78,(.bool,[])),(196,(.bool,[])),(235,(.bool,[]))],[(0,[(0,([.bool],[.del])),(2,([],[.del]))])],[(9,[.int .i64]),(11,A8),(14,[.int .i64]),(25,A8),(30,[.ls]),(41,[.ls]),(48,[.int .i64]),(51,[.ls]),(53,A8),(54,A8),(62,[.ls]),(64,A8),(65,A8)]⟩
def ZJ:MFn:=Bj [⟨61,(mB 25),[],[],[(1,((mB 8),([],[])))]⟩] 236
def U8:Hnt:=⟨[(135,(.bool,[]))],[(0,[(1,([.str],[]))])],[(17,Mi),(18,Mi),(23,[.bool]),(29,[.bool]),(37,[.bool]),(44,[.str]),(47,[.str]),(51,[.str]),(58,[.str])]⟩
def Zz:MFn:=Bj [⟨81,(mB 26),[(3,1)],[1],[(1,((mB 10),([],[])))]⟩] 197
def Zg:Hnt:=⟨[(197,(.str,[])),(235,(.bool,[])),(236,(.str,[])),(237,(.str,[]))],[(0,[(1,([.ptr 0 0,.sl 2 1],[.box A8,.del,.row U]))])],[(9,[.ls]),(15,[.ls]),(17,A8),(18,A8),(21,[.int .i64]),(24,[.ls]),(26,A8),(27,A8),(37,[.int .i64]),(43,[.ls]),(47,[.int .i64]),(52,[.ls]),(58,[.str]),(59,[.str]),(64,[.str]),(65,[.str]),(68,[.str]),(69,[.str]),(74,[.str]),(75,[.str]),(78,[.str]),(79,[.str])]⟩
def Amq:MFn:=Bj [] 139
def Ak5:Hnt:=⟨[(196,(.bool,[])),(197,(.str,[]))],[],[(3,A8),(6,A8)]⟩
def Ni:List (Nat × MFn):=[(78,ArG),(135,Zr),(76,ArF),(196,AmN),(236,ZJ),(197,Zz),(139,Amq)]
variable (A:Ar) (D:Orc)
theorem e78(x0_0:Int)(x0_1 x0_2:Rw)(x0_3:Int)(x0_4 x0_5:ByteArray)(x0_6:Rw):Bp A D Ak AqP .n 78 ArG [Φ [iv x0_0,Ξ x0_1,Ξ x0_2,iv x0_3,sv x0_4,sv x0_5,Ξ x0_6]] [] =
 let y1:=V (bv Θ,[]);br (A.eq (A.add φ ↑(AP x0_1) ↑(AP x0_2)) 0) (br (A.eq x0_3 0) (br (A.seq x0_4 (Ag [])) (br (A.seq x0_5 (Ag [])) (V (bv U,[])) y1) y1) y1) y1:=by kernel_rfl
theorem AsR(x0:Rw):Bp A D Ak UT .n 135 Zr [Ξ x0] [] =
 br (A.eq (↑(AP x0)) 0)
 (V ((bv Θ,[])))
 (br (A.lt 64 ↑(AP x0))
 (V ((bv Θ,[])))
 (Ah D (ι 135 0) [Ξ x0,iv 0] [] [.t,.C,.x,.X,.Y] λc l o=>
 br (AT 0 c)
 (dk [.B,.N,.E] [.l l,.o o] λb=>
 V ((bv b,[])))
 (br (AT 1 c)
 (EB l<|
 CB o<|
 V ((bv U,[])))
 (Δ)))):=by kernel_rfl
theorem AdF(t0:Rw)(t3:Int):CT A D Ak UT (.b (.b (.b (.b (.b (.b (.b .n (.b (.b .n (.b (.b (.b (.t (.b .n (.b (.b .n (.b .n (.b .n (.b .n (.b (.b .n (.b .n (.b .n (.b .n (.b (.b (.b (.f .n) .n) .n) .n))))) .n))))) .n))) .n) .n) .n)) .n)) .n) .n) .n) (.b .n (.b .n (.b .n (.b .n (.b .n (.b (.b (.b (.f .n) .n) .n) .n))))))) .n) .n) 135 0 (AI Zr 0).fst (AI Zr 0).snd [Ξ t0,iv t3] [] =
 br (A.lt t3 ↑(AP t0)) (unI t3 λi=>A4 t0 i λcs=>dk [.B,.S,.S,.N] [.l cs] λb s s1=>
 let y1:=AJ D (ι 135 0) [Ξ t0,iv (A.add φ t3 1)] [] λr1 o1=>AG 0 [] (AH.mk [(0,bk [bv b,sv s,sv s1])] 1 Δ) [] r1 o1;let y2:=V (γ [bv U,bv Θ],[]);br (A.seq s (Ag []))
 (br (A.seq s1 (Ag [])) y2 (br (A.seq s (Ag [])) (br (A.seq s1 (Ag [])) Δ (AJ D (δ 77) [sv s1] [] λr o=>GU r λb1=>CB o<|br b1 y1 y2)) Δ)) (br (A.seq s (Ag [])) Δ (AJ D (δ 195) [sv
 s] [] λr o=>GU r λb1=>CB o<|br b1 (br (A.seq s1 (Ag [])) y1 (Ah D (δ 77) [sv s1] [] [.b,.E] λb2=>br b2 y1 y2)) y2))) (V (γ [iv 0],[])):=by kernel_rfl
theorem e76(x0_0:Int)(x0_1 x0_2:Rw)(x0_3:Int)(x0_4 x0_5:ByteArray)(x0_6:Rw):Bp A D Ak AqO .n 76 ArF [Φ [iv x0_0,Ξ x0_1,Ξ x0_2,iv x0_3,sv x0_4,sv x0_5,Ξ x0_6]] [] =
 let y1:=V (bv Θ,[]);br (A.eq x0_0 2) (Ah D (δ 135) [Ξ x0_1] [] [.b,.E] λb=>br b (Ah D (δ 135) [Ξ x0_2] [] [.b,.E] λb1=>br b1 (br (A.le 0 x0_3) (br (A.le x0_3 5) (br (A.seq x0_4 (Ag
 [])) (br (A.seq x0_5 (Ag [])) (br (A.eq (↑(AP x0_6)) 0) (V (bv U,[])) y1) y1) y1) y1) y1) y1) y1) y1:=by kernel_rfl
theorem Att(x0_0:Int)(x0_1 x0_2:Rw)(x0_3:Int)(x0_4 x0_5:ByteArray)(x0_6:Rw)(x1:Int):Bp A D Ak Alv .n 196 AmN [Φ [iv x0_0,Ξ x0_1,Ξ x0_2,iv x0_3,sv x0_4,sv x0_5,Ξ x0_6],iv x1] [] =
 let y2:=[iv x0_0,Ξ x0_1,Ξ x0_2,iv x0_3,sv x0_4,sv x0_5,Ξ x0_6];let y3:=V (bv Θ,[]);br (A.eq x0_0 2) (Ah D (δ 76) [Φ y2] [] [.b,.E] λb=>br b (V (bv U,[])) y3)
 (let y4:=λz1 z2 z3=>br (AT 0 z1) (dk [.B,.N,.D,.E] [.l z2,.o z3] λb1=>V (bv b1,[])) (br (AT 2 z1) (dk [.N,.D,.E,.w] [.l z2,.o z3] λ_=>V (bv U,[])) Δ);
 let y1:=br (A.lt 60 x1) y3 (Ah D (ι 196 0) [iv x1,ψ 0 0,iv 0] [bk y2] [.t,.C,.x,.X,.Y] y4);let y5:=Ah D (δ 78) [Φ y2] [] [.b,.E] λb=>br b (br (A.eq (↑(AP x0_6)) 0) y1 y3) y3;br (A.eq
 x0_0 0) y5 (br (A.eq x0_0 1) y5 (br (A.eq x0_0 3) (Ah D (δ 78) [Φ y2] [] [.b,.E] λb=>br b (br (A.eq (↑(AP x0_6)) 1) (br (A.lt 60 (A.add φ x1 1)) y3 (Ah D (ι 196 0) [iv (A.add φ x1
 1),ψ 0 0,iv 0] [bk y2] [.t,.C,.x,.X,.Y] y4)) y3) y3) (let y6:=Ah D (δ 78) [Φ y2] [] [.b,.E] λb=>br b (br (A.eq (↑(AP x0_6)) 2) y1 y3) y3;br (A.eq x0_0 4) y6 (br (A.eq x0_0 5) y6 y3))))):=by kernel_rfl
theorem AtS(x0:Rw):Bp A D Ak U8 .n 236 ZJ [Ξ x0] [] =
 Ah D (δ 135) [Ξ x0] [] [.b,.E] λb=>
 br b
 (Ah D (ι 236 0) [Ξ x0,sv (Ag []),iv 0] [] [.t,.C,.x,.X,.Y] λc l o1=>
 br (AT 1 c)
 (dk [.S,.N,.E] [.l l,.o o1] λs=>
 V ((sv s,[])))
 (Δ))
 (V ((sv (Ag []),[]))):=by kernel_rfl
theorem Ad0(t0:Rw)(t3:ByteArray)(t4:Int):CT A D Ak U8 (.b (.b (.b (.b (.b (.b (.b (.b (.f (.b .n (.b .n (.b .n (.b .n (.b .n (.f .n))))))) .n) (.b .n (.f (.b .n (.b .n (.b .n (.b .n (.b .n (.f .n))))))))) .n) .n) .n) (.b .n (.b .n (.b .n (.b .n (.b .n (.b (.b (.b (.b (.b (.b (.t .n) .n) (.b .n (.t .n))) .n) .n) .n) (.b .n (.b .n (.b .n (.b .n (.b .n (.f .n))))))))))))) .n) .n) 236 0 (AI ZJ 0).fst (AI ZJ 0).snd [Ξ t0,sv t3,iv t4] [] =
 br (A.lt t4 ↑(AP t0)) (unI t4 λi=>A4 t0 i λcs=>dk [.B,.S,.S,.N] [.l cs] λb s s1=>let y2:=λz1 z2=>AG 0 [] (AH.mk [(0,bk [bv b,sv s,sv s1])] 1 Δ) [] z1 z2;
 let y4:=iv (A.add φ t4 1);
 let y1:=br ((A.slen t3+A.slen s).ble 9223372036854775807) (let y8:=br ((A.slen (A.cat t3 s)+A.slen s1).ble 9223372036854775807) (AJ D (ι 236 0) [Ξ t0,sv (A.cat (A.cat t3 s) s1),y4] [] y2) Δ;br (A.seq s (Ag [])) y8 (br (A.seq s1 (Ag [])) y8 (br ((A.slen (A.cat t3 s)+A.slen (Ag [42])).ble 9223372036854775807) (br ((A.slen (A.cat (A.cat t3 s) (Ag [42]))+A.slen s1).ble 9223372036854775807) (AJ D (ι 236 0) [Ξ t0,sv (A.cat (A.cat (A.cat t3 s) (Ag [42])) s1),y4] [] y2) Δ) Δ))) Δ;
 br (A.eq t4 0) (br b (br (A.lt 0 t4) Δ (br (A.lt 0 t4) Δ (br ((A.slen (Ag [45])+A.slen s).ble 9223372036854775807)
 (let y7:=br ((A.slen (A.cat (Ag [45]) s)+A.slen s1).ble 9223372036854775807) (AJ D (ι 236 0) [Ξ t0,sv (A.cat (A.cat (Ag [45]) s) s1),y4] [] y2) Δ;br (A.seq s (Ag [])) y7 (br (A.seq s1 (Ag [])) y7 (br
 ((A.slen (A.cat (Ag [45]) s)+A.slen (Ag [42])).ble 9223372036854775807) (br ((A.slen (A.cat (A.cat (Ag [45]) s) (Ag [42]))+A.slen s1).ble 9223372036854775807) (AJ D (ι 236 0) [Ξ t0,sv (A.cat (A.cat (A.cat
 (Ag [45]) s) (Ag [42])) s1),y4] [] y2) Δ) Δ))) Δ))) (br (A.lt 0 t4) Δ (br (A.lt 0 t4) Δ y1))) (br (A.lt 0 t4) (br b (br ((A.slen t3+A.slen (Ag [32,45,32])).ble 9223372036854775807) (br (A.lt 0 t4) (br
 (A.not b) (br ((A.slen (A.cat t3 (Ag [32,45,32]))+A.slen (Ag [32,43,32])).ble 9223372036854775807) (br ((A.slen (A.cat (A.cat t3 (Ag [32,45,32])) (Ag [32,43,32]))+A.slen s).ble 9223372036854775807)
 (let y3:=br ((A.slen (A.cat (A.cat (A.cat t3 (Ag [32,45,32])) (Ag [32,43,32])) s)+A.slen s1).ble 9223372036854775807) (AJ D (ι 236 0) [Ξ t0,sv (A.cat (A.cat (A.cat (A.cat t3 (Ag [32,45,32])) (Ag [32,43,32])) s) s1),y4] [] y2) Δ;
 br (A.seq s (Ag [])) y3 (br (A.seq s1 (Ag [])) y3 (br ((A.slen (A.cat (A.cat (A.cat t3 (Ag [32,45,32])) (Ag [32,43,32])) s)+A.slen (Ag [42])).ble 9223372036854775807) (br ((A.slen (A.cat (A.cat (A.cat (A.cat t3
 (Ag [32,45,32])) (Ag [32,43,32])) s) (Ag [42]))+A.slen s1).ble 9223372036854775807) (AJ D (ι 236 0) [Ξ t0,sv (A.cat (A.cat (A.cat (A.cat (A.cat t3 (Ag [32,45,32])) (Ag [32,43,32])) s) (Ag [42]))
 s1),y4] [] y2) Δ) Δ))) Δ) Δ) (br ((A.slen (A.cat t3 (Ag [32,45,32]))+A.slen s).ble 9223372036854775807)
 (let y5:=br ((A.slen (A.cat (A.cat t3 (Ag [32,45,32])) s)+A.slen s1).ble 9223372036854775807) (AJ D (ι 236 0) [Ξ t0,sv (A.cat (A.cat (A.cat t3 (Ag [32,45,32])) s) s1),y4] [] y2) Δ;br (A.seq s (Ag
 [])) y5 (br (A.seq s1 (Ag [])) y5 (br ((A.slen (A.cat (A.cat t3 (Ag [32,45,32])) s)+A.slen (Ag [42])).ble 9223372036854775807) (br ((A.slen (A.cat (A.cat (A.cat t3 (Ag [32,45,32])) s) (Ag [42]))+A.slen s1).ble
 9223372036854775807) (AJ D (ι 236 0) [Ξ t0,sv (A.cat (A.cat (A.cat (A.cat t3 (Ag [32,45,32])) s) (Ag [42])) s1),y4] [] y2) Δ) Δ))) Δ)) Δ) Δ) (br (A.lt 0 t4) (br (A.not b) (br ((A.slen t3 +
 A.slen (Ag [32,43,32])).ble 9223372036854775807) (br ((A.slen (A.cat t3 (Ag [32,43,32]))+A.slen s).ble 9223372036854775807)
 (let y6:=br ((A.slen (A.cat (A.cat t3 (Ag [32,43,32])) s)+A.slen s1).ble 9223372036854775807) (AJ D (ι 236 0) [Ξ t0,sv (A.cat (A.cat (A.cat t3 (Ag [32,43,32])) s) s1),y4] [] y2) Δ;br (A.seq s (Ag
 [])) y6 (br (A.seq s1 (Ag [])) y6 (br ((A.slen (A.cat (A.cat t3 (Ag [32,43,32])) s)+A.slen (Ag [42])).ble 9223372036854775807) (br ((A.slen (A.cat (A.cat (A.cat t3 (Ag [32,43,32])) s) (Ag [42]))+A.slen s1).ble
 9223372036854775807) (AJ D (ι 236 0) [Ξ t0,sv (A.cat (A.cat (A.cat (A.cat t3 (Ag [32,43,32])) s) (Ag [42])) s1),y4] [] y2) Δ) Δ))) Δ) Δ) y1) Δ)) (br (A.lt 0 t4) Δ y1))) (V (γ [iv 0,
 sv t3],[])):=by kernel_rfl
theorem Atu(x0_0:Int)(x0_1 x0_2:Rw)(x0_3:Int)(x0_4 x0_5:ByteArray)(x0_6:Rw):Bp A D Ak Zg .n 197 Zz [Φ [iv x0_0,Ξ x0_1,Ξ x0_2,iv x0_3,sv x0_4,sv x0_5,Ξ x0_6]] [] =
 Ah D (ι 197 0) [ψ 0 0,ν 1 0 0 1,iv 0] [bk [iv x0_0,Ξ x0_1,Ξ x0_2,iv x0_3,sv x0_4,sv x0_5,Ξ x0_6],Ψ [] U U] [.t,.C,.x,.X,.Y] λc l o=>
 br (AT 1 c)
 (dk [.P 0 0,.C,.q 2 1,.N,.T,.I,.L,.L,.I,.S,.S,.L,.N,.D,.R,.X,.E] [.l l,.o o] λn n1 xs xs1 n2 _ _ _ cs2=>
 br (A.eq n1 1)
 (V ((sv (Ag [102,97,108,115,101]),[])))
 (br (A.eq n1 2)
 (Ah D (δ 236) [Ξ xs] [] [.s,.E] λs2=>
 br ((A.slen s2+A.slen (Ag [32])).ble 9223372036854775807) (AJ D (δ 237) [iv n2] [] λr2 o2=>
 N1 r2 λs3=>
 CB o2<|
 br ((A.slen (A.cat s2 (Ag [32]))+A.slen s3).ble 9223372036854775807) (br ((A.slen (A.cat (A.cat s2 (Ag [32])) s3)+A.slen (Ag [32])).ble 9223372036854775807) (AJ D (δ 236) [Ξ xs1] [] λr3 o3=>
 dk [.s,.E] [.v r3,.o o3] λs4=>
 br ((A.slen (A.cat (A.cat (A.cat s2 (Ag [32])) s3) (Ag [32]))+A.slen s4).ble 9223372036854775807) (V ((sv (A.cat (A.cat (A.cat (A.cat s2 (Ag [32])) s3) (Ag [32])) s4),[]))) Δ) Δ) Δ) Δ)
 (br (A.eq n1 3)
 (br (Awv 0 n) (Gf cs2 0 1 λcs3=>
 dk [.S,.N] [.l cs3] λs2=>
 br ((A.slen (Ag [33])+A.slen s2).ble 9223372036854775807) (V ((sv (A.cat (Ag [33]) s2),[]))) Δ) Δ)
 (br (A.eq n1 4)
 (br (Awv 0 n) (Gf cs2 0 1 λcs3=>
 dk [.S,.N] [.l cs3] λs2=>
 br ((A.slen s2+A.slen (Ag [32,38,32])).ble 9223372036854775807) (br (Awv 1 n) (Gf cs2 1 1 λcs4=>
 dk [.S,.N] [.l cs4] λs3=>
 br ((A.slen (A.cat s2 (Ag [32,38,32]))+A.slen s3).ble 9223372036854775807) (V ((sv (A.cat (A.cat s2 (Ag [32,38,32])) s3),[]))) Δ) Δ) Δ) Δ)
 (br (A.eq n1 5)
 (br (Awv 0 n) (Gf cs2 0 1 λcs3=>
 dk [.S,.N] [.l cs3] λs2=>
 br ((A.slen s2+A.slen (Ag [32,124,32])).ble 9223372036854775807) (br (Awv 1 n) (Gf cs2 1 1 λcs4=>
 dk [.S,.N] [.l cs4] λs3=>
 br ((A.slen (A.cat s2 (Ag [32,124,32]))+A.slen s3).ble 9223372036854775807) (V ((sv (A.cat (A.cat s2 (Ag [32,124,32])) s3),[]))) Δ) Δ) Δ) Δ)
 (V ((sv (Ag [116,114,117,101]),[]))))))))
 (Δ):=by kernel_rfl
theorem AnY(b1_0:Int)(b1_1 b1_2:Rw)(b1_3:Int)(b1_4 b1_5:ByteArray)(b1_6:Rw)(n3:Nat)(c3:Ab)(t4:Int):CT A D Ak Zg .n 197 0 (AI Zz 0).fst (AI Zz 0).snd [ψ 0 0,ν 1 0 n3 1,iv t4] [bk [iv b1_0,Ξ b1_1,Ξ b1_2,iv b1_3,sv b1_4,sv b1_5,Ξ b1_6],{ cells:=c3,st:=U,ex:=U }] =
 let y1:=bk [iv b1_0,Ξ b1_1,Ξ b1_2,iv b1_3,sv b1_4,sv b1_5,Ξ b1_6];br (A.lt t4 ↑(AP b1_6)) (unI t4 λi=>A4 b1_6 i λcs=>dk [.I,.L,.L,.I,.S,.S,.L,.N] [.l cs] λn xs xs1 n1 s s1 xs2=>Ah
 D (δ 197) [Φ [iv n,Ξ xs,Ξ xs1,iv n1,sv s,sv s1,Ξ xs2]] [] [.s,.E] λs2=>unI t4 λi1=>A4 b1_6 i1 λcs1=>dk [.I,.L,.L,.I,.S,.S,.L,.N] [.l cs1] λn2 xs3 xs4 n4 s3 s4 xs5=>Ah D
 (δ 235) [iv b1_0,iv t4,Φ [iv n2,Ξ xs3,Ξ xs4,iv n4,sv s3,sv s4,Ξ xs5]] [] [.b,.E] λb=>let y4:=[ψ 0 0,ν 1 0 (n3+1) 1,iv (A.add φ t4 1)];br b (br ((A.slen (Ag [40]) +
 A.slen s2).ble 9223372036854775807) (br ((A.slen (A.cat (Ag [40]) s2)+A.slen (Ag [41])).ble 9223372036854775807) (br (AU (n3+1) 16) (br ((0+n3*1).ble c3.length)
 (let y5:=[sv (A.cat (A.cat (Ag [40]) s2) (Ag [41]))];let y2:=Ψ (AvI 0 (AvG (0+n3*1) c3)++y5) U U;AJ D (ι 197 0) y4 [y1,y2] λr2 o2=>AG 2 [0,3] (AH.mk [(0,y1),(3,y2),(2,
 Ψ y5 U U)] 4 Δ) [1,0] r2 o2) Δ) Δ) Δ) Δ) (br (AU (n3+1) 16) (br ((0+n3*1).ble c3.length) (let y3:=Ψ (AvI 0 (AvG (0+n3*1) c3)++[sv s2]) U U;AJ D (ι 197
 0) y4 [y1,y3] λr2 o2=>AG 2 [0,3] (AH.mk [(0,y1),(3,y3),(2,Ψ [sv s2] U U)] 4 Δ) [1,0] r2 o2) Δ) Δ)) (V (γ [iv 0,ψ 0 0,ν 2 0 n3 1],[AvH y1,BO.del,AvH (Ψ c3
 U U)])):=by kernel_rfl
theorem AsT(x0_0:Int)(x0_1 x0_2:Rw)(x0_3:Int)(x0_4 x0_5:ByteArray)(x0_6:Rw):Bp A D Ak Ak5 .n 139 Amq [Φ [iv x0_0,Ξ x0_1,Ξ x0_2,iv x0_3,sv x0_4,sv x0_5,Ξ x0_6]] [] =
 let y1:=Φ [iv x0_0,Ξ x0_1,Ξ x0_2,iv x0_3,sv x0_4,sv x0_5,Ξ x0_6];Ah D (δ 196) [y1,iv 0] [] [.b,.E] λb=>br b (Ah D (δ 197) [y1] [] [.s,.E] λs=>V (sv s,[])) (V (sv (Ag
 []),[])):=by kernel_rfl
end
section
open Go.RowKit
def ZN:MFn:=Bj [⟨76,(mB 211),[(1000006,3),(3000006,0)],[4],[(0,((mB 48),([4],[1000006,6]))),(1,((mB 80),([],[])))]⟩] 256
def Vc:Hnt:=⟨[(119,(.agg Bk,[])),(120,(.tup [.agg Bk,.int .i64],[])),(121,(.int .i64,[])),(123,(.agg Bk,[])),(124,(.agg Bk,[])),(135,(.bool,[])),(199,(.agg BA,[]))],[(0,[(0,([.ptr 0 0,.bool],[.box BA,.del,.del])),(1,([.ptr 0 0,.ptr 1 0],[.box BA,.box [.sl 3 3,.bool,.ls],.del,.row U]))])],[(25,Mi),(27,[.str]),(33,Mi),(35,[.str]),(40,Mi),(42,[.bool]),(43,Bk),(47,Mi),(49,[.str]),(52,Bk),(53,Bk),(59,Mi),(61,[.str]),(67,[.ls]),(69,Bk),(74,BA)]⟩
def Am0:MFn:=Bj [⟨82,(mB 3094),[],[2,4,10],[(0,((mB 48),([4],[2,10]))),(2,((mB 1040),([],[2])))]⟩] 234
def AlH:Hnt:=⟨[(234,(.tup [.agg BS,.bool],[])),(256,(.tup [.agg BA,.bool],[])),(257,(.agg BS,[]))],[(0,[(0,([.ptr 1 0,.bool],[.del,.box BS,.del])),(2,([.ptr 1 0,.ptr 2 0],[.del,.box BS,.box BS]))])],[(15,[.int .i64]),(19,[.ls]),(26,[.ls]),(32,[.int .i64]),(33,BA),(34,BA),(42,[.int .i64]),(57,[.ls]),(64,[.ls]),(66,A8),(67,A8),(76,[.ls]),(77,BS),(81,BS)]⟩
def AmL:MFn:=Bj [] 193
def Alt:Hnt:=⟨[(196,(.bool,[])),(234,(.tup [.agg BS,.bool],[]))],[],[(8,A8),(13,A8),(21,BS)]⟩
def Am5:MFn:=Bj [] 257
def AlM:Hnt:=⟨[(119,(.agg Bk,[])),(142,(.agg BS,[])),(143,(.agg BS,[])),(271,(.agg BA,[])),(272,(.agg BA,[]))],[],[(12,BA),(13,BA),(15,BA),(16,BA),(21,BA),(26,BA),(33,BA),(34,BA),(40,BA),(45,BA),(46,BA),(52,BA)]⟩
def YE:List (Nat × MFn):=[(256,ZN),(234,Am0),(193,AmL),(257,Am5)]
variable (A:Ar) (D:Orc)
theorem At1(x0 x1:Rw):Bp A D Ak Vc .n 256 ZN [Ξ x0,Ξ x1] [] =
 Ah D (δ 135) [Ξ x0] [] [.b,.E] λb=>
 br b
 (Ah D (ι 256 0) [Ξ x0,Ξ x1,ψ 0 0,ψ 1 0,iv 0] [bk [Ξ [],bv Θ,Ξ []],bk [ν 2 0 0 3,bv Θ,Ξ []],Ψ [] U U] [.t,.C,.x,.X,.Y] λc l o1=>
 br (AT 0 c)
 (dk [.P 0 0,.B,.N,.T,.L,.B,.L,.N,.D,.D,.E] [.l l,.o o1] λb1 xs b2 xs1=>
 V ((γ [Φ [Ξ xs,bv b2,Ξ xs1],bv b1],[])))
 (br (AT 1 c)
 (dk [.P 0 0,.P 1 0,.N,.T,.L,.B,.L,.N,.T,.C,.q 3 3,.B,.L,.N,.D,.R,.X,.E] [.l l,.o o1] λ_ _ _ n b2 xs2 cs3=>
 br ((0+n*3).ble cs3.length) (AJ D (δ 199) [Φ [Ξ (Bo n 3 (AvG (n*3) cs3)),bv b2,Ξ xs2]] [] λr2 o2=>
 dk [.a,.L,.B,.L,.N,.E] [.v r2,.o o2] λxs3 b3 xs4=>
 V ((γ [Φ [Ξ xs3,bv b3,Ξ xs4],bv U],[]))) Δ)
 (Δ)))
 (V ((γ [Φ [Ξ [],bv Θ,Ξ []],bv Θ],[]))):=by kernel_rfl
theorem Ad8(t0 t1 r0:Rw)(r1:Bool)(r2:Rw)(n6:Nat)(k1:Bool)(k2:Rw)(c6:Ab)(t7:Int):CT A D Ak Vc .n 256 0 (AI ZN 0).fst (AI ZN 0).snd [Ξ t0,Ξ t1,ψ 0 0,ψ 1 0,iv t7] [bk [Ξ r0,bv r1,Ξ r2],bk [ν 2 0 n6 3,bv k1,Ξ k2],{ cells:=c6,st:=U,ex:=U }] =
 let y3:=bk [Ξ r0,bv r1,Ξ r2];br (A.lt t7 ↑(AP t0)) (unI t7 λi=>A4 t0 i λcs=>dk [.B,.S,.S,.N] [.l cs] λ_ s _=>Ah D (δ 120) [sv s] [] [.t,.A,.B,.L,.N,.I,.N,.E] λb1 xs _=>unI t7
 λi1=>A4 t0 i1 λcs3=>dk [.B,.S,.S,.N] [.l cs3] λ_ s2 _=>
 let y1:=λz1 z2=>unI t7 λi3=>A4 t0 i3 λcs7=>dk [.B,.S,.S,.N] [.l cs7] λ_ _ s7=>let y5:=[Ξ t0,Ξ t1,ψ 0 0,ψ 1 0,iv (A.add φ t7 1)];br (A.seq s7 (Ag [])) (Ah D (δ 124) [Φ [bv k1,Ξ k2],Φ [bv z1,Ξ z2]] [] [.a,.B,.L,.N,.E] λb7 xs3=>AJ D (ι 256 0) y5 [y3,bk [ν 2 0 n6 3,bv b7,Ξ xs3],Ψ c6 U U] λr6 o4=>AG 3 [0,1,2] (AH.mk [(0,y3),(1,bk [ν 2 0 n6 3,bv b7,Ξ xs3]),(3,bk [bv z1,Ξ z2]),(2,Ψ c6 U U)] 4 Δ) [1,0] r6 o4) (unI t7 λi4=>A4 t0 i4 λcs8=>dk [.B,.S,.S,.N] [.l cs8] λ_ _ s9=>Ah D (δ 121) [Ξ t1,sv s9] [] [.i,.E] λn1=>br (A.lt n1 0) (V (γ [bv U,ψ 0 0,bv Θ],[AvH (bk [Ξ [],bv Θ,Ξ []]),BO.del,BO.del])) (br (AU (n6+1) 40) (br ((0+n6*3).ble c6.length) (let y4:=Ψ (AvI 0 (AvG (0+n6*3) c6)++[iv n1,bv z1,Ξ z2]) U U;AJ D (ι 256 0) y5 [y3,bk [ν 2 0 (n6+1) 3,bv k1,Ξ k2],y4] λr6 o4=>AG 3 [0,1,5] (AH.mk [(0,y3),(1,bk [ν 5 0 (n6+1) 3,bv k1,Ξ k2]),(5,y4),(4,Ψ [iv n1,bv z1,Ξ z2] U U),(3,bk [bv z1,Ξ z2])] 6 Δ) [2,1,0] r6 o4) Δ) Δ));
 let y2:=λz1 z2=>unI t7 λi2=>A4 t0 i2 λcs5=>dk [.B,.S,.S,.N] [.l cs5] λb4 _ _=>br b4 (Ah D (δ 123) [Φ [bv z1,Ξ z2]] [] [.a,.B,.L,.N,.E] y1) (y1 z1 z2);br (A.seq s2 (Ag [])) (Ah
 D (δ 119) [iv 1] [] [.a,.B,.L,.N,.E] y2) (y2 b1 xs)) (V (γ [iv 0,ψ 0 0,ψ 1 0],[AvH y3,AvH (bk [ν 3 0 n6 3,bv k1,Ξ k2]),BO.del,AvH (Ψ c6 U U)])):=by kernel_rfl
theorem AtR(x0_0:Int)(x0_1 x0_2:Rw)(x0_3:Int)(x0_4 x0_5:ByteArray)(x0_6 x1:Rw):Bp A D Ak AlH (.b (.b (.b (.t .n) (.f .n)) .n) .n) 234 Am0 [Φ [iv x0_0,Ξ x0_1,Ξ x0_2,iv x0_3,sv x0_4,sv x0_5,Ξ x0_6],Ξ x1] [] =
 let y5:=λz1 z2 z3 z4 z5 z6=>Φ [iv z1,Ξ z2,bv z3,Ξ z4,bv z5,Ξ z6];br (A.eq x0_0 2) (Ah D (δ 256) [Ξ x0_1,Ξ x1] [] [.t,.A,.L,.B,.L,.N,.B,.N,.E] λxs b xs1 b1=>Ah D (δ
 256) [Ξ x0_2,Ξ x1] [] [.t,.A,.L,.B,.L,.N,.B,.N,.E] λxs2 b2 xs3 b3=>Ah D (δ 257) [iv x0_3,Φ [Ξ xs,bv b,Ξ xs1],Φ [Ξ xs2,bv b2,Ξ xs3]] [] [.a,.I,.L,.B,.L,.B,.L,.N,
 .E] λn xs4 b4 xs5 b5 xs6=>let y6:=V (γ [y5 n xs4 b4 xs5 b5 xs6,bv Θ],[]);br b1 (br b1 (br b3 (V (γ [y5 n xs4 b4 xs5 b5 xs6,bv U],[])) y6) Δ) (br b1 Δ y6))
 (let y1:=λz1 z2 z3=>br (AT 0 z1) (dk [.P 1 0,.B,.N,.D,.T,.I,.L,.B,.L,.B,.L,.N,.D,.E] [.l z2,.o z3] λb n xs b1 xs1 b2 xs2=>V (γ [y5 n xs b1 xs1 b2 xs2,bv b],[])) (br (AT 2 z1) (dk [.P 1 0,.P 2 0,.N,.D,.T,.I,.L,.B,.L,.B,.L,.N,.T,.I,.L,.B,.L,.B,.L,.N,.E] [.l z2,.o z3] λ_ _ _ _ _ _ n1 xs3 b2 xs4 b3 xs5=>V (γ [y5 n1 xs3 b2 xs4 b3 xs5,bv U],[])) Δ);
 let y2:=bk [iv x0_0,Ξ x0_1,Ξ x0_2,iv x0_3,sv x0_4,sv x0_5,Ξ x0_6];let y3:=bk [iv 0,Ξ [],bv Θ,Ξ [],bv Θ,Ξ []];let y4:=[Ξ x1,ψ 0 0,ψ 1 0,ψ 2 0,iv 0];br
 (A.eq x0_0 1) (Ah D (ι 234 0) y4 [y2,y3,bk [iv 1,Ξ [],bv Θ,Ξ [],bv Θ,Ξ []]] [.t,.C,.x,.X,.Y] y1) (br (A.eq x0_0 3) (Ah D (ι 234 0) y4 [y2,y3,bk [iv 3,Ξ [],bv Θ,Ξ [],
 bv Θ,Ξ []]] [.t,.C,.x,.X,.Y] y1) (br (A.eq x0_0 4) (Ah D (ι 234 0) y4 [y2,y3,bk [iv 4,Ξ [],bv Θ,Ξ [],bv Θ,Ξ []]] [.t,.C,.x,.X,.Y] y1) (br (A.eq x0_0 5) (Ah D (ι 234 0) y4
 [y2,y3,bk [iv 5,Ξ [],bv Θ,Ξ [],bv Θ,Ξ []]] [.t,.C,.x,.X,.Y] y1) (Ah D (ι 234 0) y4 [y2,y3,y3] [.t,.C,.x,.X,.Y] y1))))):=by kernel_rfl
theorem Atr(x0_0:Int)(x0_1 x0_2:Rw)(x0_3:Int)(x0_4 x0_5:ByteArray)(x0_6 x1:Rw):Bp A D Ak Alt .n 193 AmL [Φ [iv x0_0,Ξ x0_1,Ξ x0_2,iv x0_3,sv x0_4,sv x0_5,Ξ x0_6],Ξ x1] [] =
 let y2:=Φ [iv x0_0,Ξ x0_1,Ξ x0_2,iv x0_3,sv x0_4,sv x0_5,Ξ x0_6];Ah D (δ 196) [y2,iv 0] [] [.b,.E] λb=>
 let y1:=V (γ [Φ [iv 1,Ξ [],bv Θ,Ξ [],bv Θ,Ξ []],bv Θ],[]);br b (Ah D (δ 234) [y2,Ξ x1] [] [.t,.A,.I,.L,.B,.L,.B,.L,.N,.B,.N,.E] λn xs b1 xs1 b2 xs2 b3=>
 br (A.not b3) y1 (V (γ [Φ [iv n,Ξ xs,bv b1,Ξ xs1,bv b2,Ξ xs2],bv U],[]))) y1:=by kernel_rfl
theorem At2(x0:Int)(x1_0:Rw)(x1_1:Bool)(x1_2 x2_0:Rw)(x2_1:Bool)(x2_2:Rw):Bp A D Ak AlM .n 257 Am5 [iv x0,Φ [Ξ x1_0,bv x1_1,Ξ x1_2],Φ [Ξ x2_0,bv x2_1,Ξ x2_2]] [] =
 Ah D (δ 119) [iv 1] [] [.a,.B,.L,.N,.E] λb xs=>Ah D (δ 271) [Φ [bv b,Ξ xs]] [] [.a,.L,.B,.L,.N,.E] λxs1 b1 xs2=>Ah D (δ 272) [Φ [Ξ x1_0,bv x1_1,Ξ x1_2],Φ
 [Ξ x2_0,bv x2_1,Ξ x2_2]] [] [.a,.L,.B,.L,.N,.E] λxs3 b2 xs4=>Ah D (δ 272) [Φ [Ξ x2_0,bv x2_1,Ξ x2_2],Φ [Ξ x1_0,bv x1_1,Ξ x1_2]] [] [.a,.L,.B,.L,.N,.E] λxs5 b3 xs6
 =>let y3:=λz1 z2 z3 z4 z5 z6=>V (Φ [iv z1,Ξ z2,bv z3,Ξ z4,bv z5,Ξ z6],[]);br (A.eq x0 0) (Ah D (δ 143) [Φ [Ξ xs3,bv b2,Ξ xs4,bv U]] [] [.a,.I,.L,.B,.L,.B,.L,.N,
 .E] y3) (br (A.eq x0 1) (Ah D (δ 143) [Φ [Ξ xs3,bv b2,Ξ xs4,bv U]] [] [.a,.I,.L,.B,.L,.B,.L,.N,.E] λn xs7 b4 xs8 b5 xs9=>V (Φ [iv 3,Ξ [],bv Θ,Ξ [],bv Θ,Ξ
 [[iv n,Ξ xs7,bv b4,Ξ xs8,bv b5,Ξ xs9]]],[])) (let y1:=λz1 z2 z3=>Ah D (δ 143) [Φ [Ξ z1,bv z2,Ξ z3,bv Θ]] [] [.a,.I,.L,.B,.L,.B,.L,.N,.E] y3;
 let y2:=λz1 z2 z3=>Ah D (δ 272) [Φ [Ξ z1,bv z2,Ξ z3],Φ [Ξ xs1,bv b1,Ξ xs2]] [] [.a,.L,.B,.L,.N,.E] y1;br (A.eq x0 2) (y2 xs5 b3 xs6) (br (A.eq x0 3) (y1 xs5 b3 xs6) (br (A.eq x0
 4) (y2 xs3 b2 xs4) (br (A.eq x0 5) (y1 xs3 b2 xs4) (Ah D (δ 142) [bv Θ] [] [.a,.I,.L,.B,.L,.B,.L,.N,.E] y3)))))):=by kernel_rfl
end
section
open Go.RowKit
def ArE:MFn:=Bj [] 75
def AqN:Hnt:=⟨[],[],[]⟩
def ArH:MFn:=Bj [] 79
def AqQ:Hnt:=⟨[(75,(.int .i64,[]))],[],[]⟩
def AiM:MFn:=Bj [⟨88,(mB 102),[],[2],[(0,((mB 16),([],[2]))),(1,([],([],[2])))]⟩] 37
def Abe:Hnt:=⟨[(37,(.bool,[])),(75,(.int .i64,[])),(76,(.bool,[])),(77,(.bool,[])),(78,(.bool,[])),(79,(.bool,[]))],[(0,[(0,([.bool],[.del])),(1,([],[.del]))])],[(9,[.int .i64]),(13,[.ls]),(17,[.int .i64]),(19,A8),(22,[.int .i64]),(25,[.ls]),(28,[.ls]),(34,[.int .i64]),(39,[.str]),(44,[.str]),(51,A8),(65,[.int .i64]),(68,[.ls]),(70,A8),(72,[.int .i64]),(80,[.ls]),(82,A8),(83,A8)]⟩
def Amr:MFn:=Bj [] 140
def Ak6:Hnt:=⟨[],[],[]⟩
def AiT:MFn:=Bj [⟨68,(mB 26),[],[1],[(2,((mB 8),([],[1])))]⟩] 81
def QT:Hnt:=⟨[(79,(.bool,[])),(81,(.str,[])),(139,(.str,[])),(140,(.str,[]))],[(0,[(2,([.str],[.del]))])],[(7,[.int .i64]),(14,A8),(19,[.str]),(23,[.str]),(27,[.ls]),(36,[.ls]),(42,[.int .i64]),(46,[.ls]),(48,A8),(49,A8),(52,[.int .i64]),(55,[.ls]),(57,A8),(59,[.int .i64])]⟩
def Ars:MFn:=Bj [] 39
def AqB:Hnt:=⟨[(37,(.bool,[])),(81,(.str,[]))],[],[(3,A8),(6,A8)]⟩
def TY:List (Nat × MFn):=[(75,ArE),(79,ArH),(37,AiM),(140,Amr),(81,AiT),(39,Ars)]
variable (A:Ar) (D:Orc)
theorem e75(x0:Int):Bp A D Ak AqN .n 75 ArE [iv x0] [] =
 let y2:=V (iv 0,[]);br (A.eq x0 0) y2 (br (A.eq x0 1) y2 (br (A.eq x0 2) y2 (br (A.eq x0 6) y2 (let y3:=V (iv 1,[]);br (A.eq x0 3) y3 (br (A.eq x0 8) y3 (br (A.eq x0 9) y3 (br (A.eq x0 10) y3
 (let y1:=V (iv 2,[]);br (A.eq x0 4) y1 (br (A.eq x0 5) y1 (br (A.eq x0 7) y1 (br (A.eq x0 11) y1 (br (A.eq x0 12) y1 (V (iv (- 1),[])))))))))))))):=by kernel_rfl
theorem e79(x0 x1 x2:Int):Bp A D Ak AqQ .n 79 ArH [iv x0,iv x1,iv x2] [] =
 Ah D (δ 75) [iv x2] [] [.i,.E] λn=>let y2:=V (bv Θ,[]);br (A.lt n 2) y2 (let y1:=V (bv U,[]);br (A.eq x0 7) (br (A.eq x2 7) (br (A.eq x1 0) y1 y2) y2) (br (A.eq x0 5) (br (A.eq x2 7) y1 (br (A.eq
 x2 5) (br (A.eq x1 1) y1 y2) y2)) (br (A.eq x0 4) (br (A.eq x2 7) y1 (br (A.eq x2 5) y1 (br (A.eq x2 4) (br (A.eq x1 1) y1 y2) y2))) (let y3:=br (A.eq x2 7) y1 (br (A.eq x2 5) y1 (br (A.eq x2 4) y1 (br (A.eq x1 0) y1 y2)));br
 (A.eq x0 11) y3 (br (A.eq x0 12) y3 y1))))):=by kernel_rfl
theorem e37(x0_0:Int)(x0_1 x0_2:Rw)(x0_3:Int)(x0_4 x0_5:ByteArray)(x0_6:Rw)(x1:Int):Bp A D Ak Abe .n 37 AiM [Φ [iv x0_0,Ξ x0_1,Ξ x0_2,iv x0_3,sv x0_4,sv x0_5,Ξ x0_6],iv x1] [] =
 Ah D (δ 75) [iv x0_0] [] [.i,.E] λn=>let y2:=V (bv Θ,[]);br (A.eq n ↑(AP x0_6)) (let y1:=[iv x0_0,Ξ x0_1,Ξ x0_2,iv x0_3,sv x0_4,sv x0_5,Ξ x0_6];br (A.eq x0_0 2) (Ah D (δ 76)
 [Φ y1] [] [.b,.E] λb=>br b (V (bv U,[])) y2) (br (A.eq x0_0 6) (br (A.eq (A.add φ ↑(AP x0_1) ↑(AP x0_2)) 0) (br (A.eq x0_3 0) (Ah D (δ 77) [sv x0_4] [] [.b,.E] λb=>br b (Ah D
 (δ 77) [sv x0_5] [] [.b,.E] λb1=>br b1 (V (bv U,[])) y2) y2) y2) y2)
 (let y3:=λz1 z2 z3=>br (AT 0 z1) (dk [.B,.N,.D,.E] [.l z2,.o z3] λb1=>V (bv b1,[])) (br (AT 1 z1) (dk [.N,.D,.E,.w] [.l z2,.o z3] λ_=>V (bv U,[])) Δ);br (A.eq n 1) (Ah D (δ 78)
 [Φ y1] [] [.b,.E] λb=>br b (br (A.lt 60 (A.add φ x1 1)) y2 (Ah D (ι 37 0) [iv (A.add φ x1 1),ψ 0 0,iv n,iv 0] [bk y1] [.t,.C,.x,.X,.Y] y3)) y2) (Ah D (δ 78) [Φ y1] []
 [.b,.E] λb=>br b (br (A.lt 60 x1) y2 (Ah D (ι 37 0) [iv x1,ψ 0 0,iv n,iv 0] [bk y1] [.t,.C,.x,.X,.Y] y3)) y2)))) y2:=by kernel_rfl
theorem Aeh(t1 b2_0:Int)(b2_1 b2_2:Rw)(b2_3:Int)(b2_4 b2_5:ByteArray)(b2_6:Rw)(t5 t6:Int):CT A D Ak Abe .n 37 0 (AI AiM 0).fst (AI AiM 0).snd [iv t1,ψ 0 0,iv t5,iv t6] [bk [iv b2_0,Ξ b2_1,Ξ b2_2,iv b2_3,sv b2_4,sv b2_5,Ξ b2_6]] =
 br (A.lt t6 t5) (unI t6 λi=>A4 b2_6 i λcs=>dk [.I,.L,.L,.I,.S,.S,.L,.N] [.l cs] λn _ _ _ _ _ _=>Ah D (δ 79) [iv b2_0,iv t6,iv n] [] [.b,.E] λb=>
 let y2:=V (γ [bv U,bv Θ],[BO.del]);
 let y1:=λz1=>br z1 (let y3:=bk [iv b2_0,Ξ b2_1,Ξ b2_2,iv b2_3,sv b2_4,sv b2_5,Ξ b2_6];AJ D (ι 37 0) [iv t1,ψ 0 0,iv t5,iv (A.add φ t6 1)] [y3] λr2 o2=>AG 1 [0] (AH.mk [(0,y3)] 1 Δ) [0] r2 o2) y2;
 br b (br (A.lt 60 (A.add φ t1 1)) y2 (unI t6 λi1=>A4 b2_6 i1 λcs1=>dk [.I,.L,.L,.I,.S,.S,.L,.N] [.l cs1] λn2 xs3 xs4 n3 s2 s3 xs5=>Ah D (δ 37) [Φ [iv n2,Ξ xs3,Ξ xs4,iv n3,
 sv s2,sv s3,Ξ xs5],iv (A.add φ t1 1)] [] [.b,.E] y1)) (br (A.lt 60 t1) y2 (unI t6 λi1=>A4 b2_6 i1 λcs1=>dk [.I,.L,.L,.I,.S,.S,.L,.N] [.l cs1] λn2 xs3 xs4 n3 s2 s3 xs5=>Ah D (δ 37)
 [Φ [iv n2,Ξ xs3,Ξ xs4,iv n3,sv s2,sv s3,Ξ xs5],iv t1] [] [.b,.E] y1))) (V (γ [iv 0],[BO.del])):=by kernel_rfl
theorem AsU(x0:Int):Bp A D Ak Ak6 .n 140 Amr [iv x0] [] =
 br (A.eq x0 3)
 (V ((sv (Ag [33]),[])))
 (br (A.eq x0 4)
 (V ((sv (Ag [32,38,32]),[])))
 (br (A.eq x0 5)
 (V ((sv (Ag [32,124,32]),[])))
 (br (A.eq x0 7)
 (V ((sv (Ag [32,45,62,32]),[])))
 (br (A.eq x0 8)
 (V ((sv (Ag [88,32]),[])))
 (br (A.eq x0 9)
 (V ((sv (Ag [71,32]),[])))
 (br (A.eq x0 10)
 (V ((sv (Ag [70,32]),[])))
 (br (A.eq x0 11)
 (V ((sv (Ag [32,85,32]),[])))
 (V ((sv (Ag [32,82,32]),[])))))))))):=by kernel_rfl
theorem e81(x0_0:Int)(x0_1 x0_2:Rw)(x0_3:Int)(x0_4 x0_5:ByteArray)(x0_6:Rw):Bp A D Ak QT .n 81 AiT [Φ [iv x0_0,Ξ x0_1,Ξ x0_2,iv x0_3,sv x0_4,sv x0_5,Ξ x0_6]] [] =
 br (A.eq x0_0 0) (V (sv (Ag [116,114,117,101]),[])) (br (A.eq x0_0 1) (V (sv (Ag [102,97,108,115,101]),[])) (let y1:=[iv x0_0,Ξ x0_1,Ξ x0_2,iv x0_3,sv x0_4,sv x0_5,Ξ x0_6];br (A.eq x0_0 2)
 (Ah D (δ 139) [Φ y1] [] [.s,.E] λs=>V (sv s,[])) (br (A.eq x0_0 6) (br ((A.slen (Ag [64])+A.slen x0_4).ble 9223372036854775807) (br ((A.slen (A.cat (Ag [64]) x0_4)+A.slen (Ag [46])).ble
 9223372036854775807) (br ((A.slen (A.cat (A.cat (Ag [64]) x0_4) (Ag [46]))+A.slen x0_5).ble 9223372036854775807) (V (sv (A.cat (A.cat (A.cat (Ag [64]) x0_4) (Ag [46])) x0_5),[])) Δ) Δ) Δ) (Ah D (ι
 81 0) [ψ 0 0,sv (Ag []),iv 0] [bk y1] [.t,.C,.x,.X,.Y] λc l o=>br (AT 2 c) (dk [.S,.N,.D,.E] [.l l,.o o] λs=>V (sv s,[])) Δ)))):=by kernel_rfl
theorem AkE(b1_0:Int)(b1_1 b1_2:Rw)(b1_3:Int)(b1_4 b1_5:ByteArray)(b1_6:Rw)(t3:ByteArray)(t4:Int):CT A D Ak QT .n 81 0 (AI AiT 0).fst (AI AiT 0).snd [ψ 0 0,sv t3,iv t4] [bk [iv b1_0,Ξ b1_1,Ξ b1_2,iv b1_3,sv b1_4,sv b1_5,Ξ b1_6]] =
 br (A.lt t4 ↑(AP b1_6)) (let y2:=bk [iv b1_0,Ξ b1_1,Ξ b1_2,iv b1_3,sv b1_4,sv b1_5,Ξ b1_6];let y3:=λz1 z2=>AG 1 [0] (AH.mk [(0,y2)] 1 Δ) [0] z1 z2;let y4:=iv (A.add φ t4 1);
 let y1:=Ah D (δ 140) [iv b1_0] [] [.s,.E] λs=>br ((A.slen t3+A.slen s).ble 9223372036854775807) (unI t4 λi=>A4 b1_6 i λcs=>dk [.I,.L,.L,.I,.S,.S,.L,.N] [.l cs] λn xs xs1 n1 s1 s2 xs2=>Ah D (δ 81) [Φ [iv n,Ξ xs,Ξ xs1,iv n1,sv s1,sv s2,Ξ xs2]] [] [.s,.E] λs3=>unI t4 λi1=>A4 b1_6 i1 λcs1=>dk [.I,.L,.L,.I,.S,.S,.L,.N] [.l cs1] λn2 _ _ _ _ _ _=>Ah D (δ 79) [iv b1_0,iv t4,iv n2] [] [.b,.E] λb=>br b (br ((A.slen (Ag [40])+A.slen s3).ble 9223372036854775807) (br ((A.slen (A.cat (Ag [40]) s3)+A.slen (Ag [41])).ble 9223372036854775807) (br ((A.slen (A.cat t3 s)+A.slen (A.cat (A.cat (Ag [40]) s3) (Ag [41]))).ble 9223372036854775807) (AJ D (ι 81 0) [ψ 0 0,sv (A.cat (A.cat t3 s) (A.cat (A.cat (Ag [40]) s3) (Ag [41]))),y4] [y2] y3) Δ) Δ) Δ) (br ((A.slen (A.cat t3 s)+A.slen s3).ble 9223372036854775807) (AJ D (ι 81 0) [ψ 0 0,sv (A.cat (A.cat t3 s) s3),y4] [y2] y3) Δ)) Δ;
 br (A.lt 0 t4) y1 (br (A.eq (↑(AP b1_6)) 1) y1 (unI t4 λi=>A4 b1_6 i λcs=>dk [.I,.L,.L,.I,.S,.S,.L,.N] [.l cs] λn xs xs1 n1 s s1 xs2=>Ah D (δ 81) [Φ [iv n,Ξ xs,Ξ xs1,iv n1,sv s,
 sv s1,Ξ xs2]] [] [.s,.E] λs2=>unI t4 λi1=>A4 b1_6 i1 λcs1=>dk [.I,.L,.L,.I,.S,.S,.L,.N] [.l cs1] λn2 _ _ _ _ _ _=>Ah D (δ 79) [iv b1_0,iv t4,iv n2] [] [.b,.E] λb=>br b (br
 ((A.slen (Ag [40])+A.slen s2).ble 9223372036854775807) (br ((A.slen (A.cat (Ag [40]) s2)+A.slen (Ag [41])).ble 9223372036854775807) (br ((A.slen t3+A.slen (A.cat (A.cat (Ag [40]) s2) (Ag [41]))).ble
 9223372036854775807) (AJ D (ι 81 0) [ψ 0 0,sv (A.cat t3 (A.cat (A.cat (Ag [40]) s2) (Ag [41]))),y4] [y2] y3) Δ) Δ) Δ) (br ((A.slen t3+A.slen s2).ble 9223372036854775807) (AJ D (ι 81 0) [ψ
 0 0,sv (A.cat t3 s2),y4] [y2] y3) Δ)))) (V (γ [iv 1,sv t3],[BO.del])):=by kernel_rfl
theorem e39(x0_0:Int)(x0_1 x0_2:Rw)(x0_3:Int)(x0_4 x0_5:ByteArray)(x0_6:Rw):Bp A D Ak AqB .n 39 Ars [Φ [iv x0_0,Ξ x0_1,Ξ x0_2,iv x0_3,sv x0_4,sv x0_5,Ξ x0_6]] [] =
 let y1:=Φ [iv x0_0,Ξ x0_1,Ξ x0_2,iv x0_3,sv x0_4,sv x0_5,Ξ x0_6];Ah D (δ 37) [y1,iv 0] [] [.b,.E] λb=>br b (Ah D (δ 81) [y1] [] [.s,.E] λs=>V (sv s,[])) (V (sv (Ag
 []),[])):=by kernel_rfl
end
section
open Go.RowKit
def RL:MFn:=Bj [⟨37,(mB 25),[(3,1)],[],[(1,((mB 8),([],[])))]⟩,⟨37,(mB 8),[(3,1)],[],[(3,((mB 8),([],[])))]⟩] 177
def NE:Hnt:=⟨[],[(0,[(1,([.sl 1 1],[.del,.row U]))]),(1,[(3,([.sl 1 1],[.del,.row U]))])],[(15,[.int .u32]),(16,[.int .u32]),(27,[.int .u32]),(28,[.int .u32])]⟩
def AmX:MFn:=Bj [] 226
def AlE:Hnt:=⟨[],[],[]⟩
def AmY:MFn:=Bj [] 227
def AlF:Hnt:=⟨[],[],[(15,[.int .u32]),(16,[.int .u32])]⟩
def ZH:MFn:=Bj [⟨28,(mB 35),[],[],[(0,((mB 16),([],[]))),(1,([],([],[])))]⟩] 229
def U6:Hnt:=⟨[(226,(.int .i64,[])),(227,(.int .u64,[]))],[(0,[(0,([.int .i64],[])),(1,([],[]))])],[]⟩
def Zw:MFn:=Bj [⟨36,(mB 227),[(5,1)],[],[(1,((mB 32),([],[])))]⟩] 181
def UZ:Hnt:=⟨[(177,(.ls,[])),(226,(.int .i64,[])),(227,(.int .u64,[]))],[(0,[(1,([.sl 1 1],[.del,.row U]))])],[]⟩
def Zy:MFn:=Bj [⟨43,(mB 451),[(6,1)],[],[(1,((mB 64),([],[])))]⟩] 184
def U0:Hnt:=⟨[(177,(.ls,[])),(226,(.int .i64,[])),(227,(.int .u64,[])),(229,(.int .i64,[]))],[(0,[(1,([.sl 1 1],[.del,.row U]))])],[]⟩
def ZG:MFn:=Bj [⟨37,(mB 227),[(5,1)],[],[(1,((mB 96),([],[])))]⟩] 228
def U5:Hnt:=⟨[(177,(.ls,[])),(227,(.int .u64,[]))],[(0,[(1,([.sl 1 1,.int .u64],[.del,.row U]))])],[]⟩
def RM:MFn:=Bj [⟨42,(mB 99),[],[5],[(1,((mB 32),([],[])))]⟩,⟨42,(mB 483),[(7,1)],[],[(3,((mB 195),([],[])))]⟩] 183
def NF:Hnt:=⟨[(177,(.ls,[])),(181,(.ls,[])),(228,(.ls,[]))],[(0,[(1,([.ls],[]))]),(1,[(3,([.ls,.ls,.int .i64,.sl 1 1],[.del,.row U]))])],[(27,[.int .u32]),(28,[.int .u32]),(35,[.int .u32]),(36,[.int .u32])]⟩
def Zx:MFn:=Bj [⟨40,(mB 49),[],[4],[(0,((mB 12),([2],[]))),(1,((mB 17),([],[])))]⟩] 182
def Pg:Hnt:=⟨[(177,(.ls,[])),(181,(.ls,[])),(228,(.ls,[]))],[(0,[(0,(Se,[])),(1,([.str,.ls],[]))])],[]⟩
def ZO:MFn:=Bj [⟨26,(mB 35),[],[],[(0,((mB 16),([],[]))),(1,([],([],[])))]⟩] 258
def Pk:Hnt:=⟨[],[(0,[(0,([.bool],[])),(1,([],[]))])],[(19,[.int .u32]),(20,[.int .u32]),(23,[.int .u32]),(24,[.int .u32])]⟩
def Sl:List (Nat × MFn):=[(177,RL),(226,AmX),(227,AmY),(229,ZH),(181,Zw),(184,Zy),(228,ZG),(183,RM),(182,Zx),(258,ZO)]
variable (A:Ar) (D:Orc)
theorem Ath(x0:Rw):Bp A D Ak NE .n 177 RL [Ξ x0] [] =
 Ah D (ι 177 0) [Ξ x0,ν 0 0 0 1,iv 0] [Ψ [] U U] [.t,.C,.x,.X,.Y] λc l o=>
 br (AT 1 c)
 (dk [.C,.q 1 1,.N,.D,.R,.X,.E] [.l l,.o o] λn cs1=>
 Ah D (ι 177 1) [ν 0 0 n 1] [Ψ cs1 U U] [.t,.C,.x,.X,.Y] λc4 l4 o1=>
 br (AT 3 c4)
 (dk [.C,.q 1 1,.N,.D,.R,.X,.E] [.l l4,.o o1] λn1 cs3=>
 br ((0+n1*1).ble cs3.length) (V ((Ξ (Bo n1 1 (AvG (n1*1) cs3)),[]))) Δ)
 (Δ))
 (Δ):=by kernel_rfl
theorem AdJ(t0:Rw)(n3:Nat)(c3:Ab)(t4:Int):CT A D Ak NE .n 177 0 (AI RL 0).fst (AI RL 0).snd [Ξ t0,ν 0 0 n3 1,iv t4] [{ cells:=c3,st:=U,ex:=U }] =
 br (A.lt t4 ↑(AP t0)) (unI t4 λi=>A4 t0 i λcs=>dk [.J .u32,.N] [.l cs] λn=>br (AU (n3+1) 4) (br ((0+n3*1).ble c3.length)
 (let y1:=Ψ (AvI 0 (AvG (0+n3*1) c3)++[AvM (Value.int χ n)]) U U;AJ D (ι 177 0) [Ξ t0,ν 0 0 (n3+1) 1,iv (A.add φ t4 1)] [y1] λr o=>AG 1 [2] (AH.mk
 [(2,y1),(1,Ψ [AvM (Value.int χ n)] U U)] 3 Δ) [0] r o) Δ) Δ) (V (γ [iv 0,ν 1 0 n3 1],[BO.del,AvH (Ψ c3 U U)])):=by kernel_rfl
theorem AdK(n3:Nat)(c3:Ab):CT A D Ak NE .n 177 1 (AI RL 1).fst (AI RL 1).snd [ν 0 0 n3 1] [{ cells:=c3,st:=U,ex:=U }] =
 let y1:=V (γ [iv 2,ν 1 0 n3 1],[BO.del,AvH (Ψ c3 U U)]);br (A.lt 0 ↑n3) (unI (A.sub φ (↑n3) 1) λi=>br (i.blt n3) (Gf c3 (0+i*1) 1 λcs=>dk [.J .u32,.N] [.l cs] λn=>br
 (A.eq n 0) (unI (A.sub φ (↑n3) 1) λi1=>br (J1 0 i1 n3) (AJ D (ι 177 1) [ν 0 0 i1 1] [Ψ c3 U U] λr o=>AG 1 [0] (AH.mk [(0,Ψ c3 U U)] 1 Δ) [] r o) Δ) y1) Δ) y1:=by kernel_rfl
theorem AtL(x0 x1:Rw):Bp A D Ak AlE .n 226 AmX [Ξ x0,Ξ x1] [] =
 br (A.lt ↑(AP x1) ↑(AP x0))
 (V ((iv ↑(AP x0),[])))
 (V ((iv ↑(AP x1),[]))):=by kernel_rfl
theorem AtM(x0:Rw)(x1:Int):Bp A D Ak AlF .n 227 AmY [Ξ x0,iv x1] [] =
 br (A.lt x1 0)
 (V ((AvM (Value.int υ 0),[])))
 (br (A.le (↑(AP x0)) x1)
 (V ((AvM (Value.int υ 0),[])))
 (unI x1 λi=>
 A4 x0 i λcs=>
 dk [.J .u32,.N] [.l cs] λn=>
 V ((AvM (Value.int υ (A.conv υ n)),[])))):=by kernel_rfl
theorem AtO(x0 x1:Rw):Bp A D Ak U6 .n 229 ZH [Ξ x0,Ξ x1] [] =
 Ah D (δ 226) [Ξ x0,Ξ x1] [] [.i,.E] λn=>
 Ah D (ι 229 0) [Ξ x0,Ξ x1,iv (A.sub φ n 1)] [] [.t,.C,.x,.X,.Y] λc l o1=>
 br (AT 0 c)
 (dk [.I,.N,.E] [.l l,.o o1] λn1=>
 V ((iv n1,[])))
 (br (AT 1 c)
 (EB l<|
 CB o1<|
 V ((iv 0,[])))
 (Δ)):=by kernel_rfl
theorem AdY(t0 t1:Rw)(t5:Int):CT A D Ak U6 .n 229 0 (AI ZH 0).fst (AI ZH 0).snd [Ξ t0,Ξ t1,iv t5] [] =
 br (A.le 0 t5)
 (Ah D (δ 227) [Ξ t0,iv t5] [] [.j .u64,.E] λn=>
 Ah D (δ 227) [Ξ t1,iv t5] [] [.j .u64,.E] λn1=>
 br (A.lt n n1)
 (V ((γ [bv U,iv (-1)],[])))
 (Ah D (δ 227) [Ξ t0,iv t5] [] [.j .u64,.E] λn2=>
 Ah D (δ 227) [Ξ t1,iv t5] [] [.j .u64,.E] λn3=>
 br (A.lt n3 n2)
 (V ((γ [bv U,iv 1],[])))
 (AJ D (ι 229 0) [Ξ t0,Ξ t1,iv (A.sub φ t5 1)] [] λr4 o4=>
 AG 0 [] (AH.mk [] 0 Δ) [] r4 o4)))
 (V ((γ [iv 0],[]))):=by kernel_rfl
theorem Atl(x0 x1:Rw):Bp A D Ak UZ .n 181 Zw [Ξ x0,Ξ x1] [] =
 Ah D (ι 181 0) [Ξ x0,Ξ x1,ν 0 0 0 1,AvM (Value.int υ 0),iv 0] [Ψ [] U U] [.t,.C,.x,.X,.Y] λc l o=>
 br (AT 1 c)
 (dk [.C,.q 1 1,.N,.D,.R,.X,.E] [.l l,.o o] λn cs1=>
 br ((0+n*1).ble cs1.length) (AJ D (δ 177) [Ξ (Bo n 1 (AvG (n*1) cs1))] [] λr1 o1=>
 Mr r1 λxs=>
 CB o1<|
 V ((Ξ xs,[]))) Δ)
 (Δ):=by kernel_rfl
theorem AdM(t0 t1:Rw)(n5:Nat)(c5:Ab)(t6 t7:Int):CT A D Ak UZ (.b (.b (.b .n (.b .n (.f .n))) .n) .n) 181 0 (AI Zw 0).fst (AI Zw 0).snd [Ξ t0,Ξ t1,ν 0 0 n5 1,AvM (Value.int υ t6),iv t7] [{ cells:=c5,st:=U,ex:=U }] =
 Ah D (δ 226) [Ξ t0,Ξ t1] [] [.i,.E] λn=>br (A.le t7 n) (Ah D (δ 227) [Ξ t0,iv t7] [] [.j .u64,.E] λn1=>Ah D (δ 227) [Ξ t1,iv t7] [] [.j .u64,.E] λn2=>br (A.eq 4294967296
 0) Δ (br (AU (n5+1) 4) (br ((0+n5*1).ble c5.length) (br (A.eq 4294967296 0) Δ (let y2:=A.conv χ (A.rem υ (A.add υ (A.add υ n1 n2) t6) 4294967296);
 let y1:=Ψ (AvI 0 (AvG (0+n5*1) c5)++[AvM (Value.int χ y2)]) U U;AJ D (ι 181 0) [Ξ t0,Ξ t1,ν 0 0 (n5+1) 1,AvM (Value.int υ (A.quo υ (A.add
 υ (A.add υ n1 n2) t6) 4294967296)),iv (A.add φ t7 1)] [y1] λr3 o3=>AG 1 [2] (AH.mk [(2,y1),(1,Ψ [AvM (Value.int χ y2)] U U)] 3 Δ) [0] r3 o3)) Δ) Δ)) (V
 (γ [iv 0,ν 1 0 n5 1],[BO.del,AvH (Ψ c5 U U)])):=by kernel_rfl
theorem Ato(x0 x1:Rw):Bp A D Ak U0 .n 184 Zy [Ξ x0,Ξ x1] [] =
 Ah D (δ 229) [Ξ x0,Ξ x1] [] [.i,.E] λn=>
 br (A.lt n 0)
 (V ((γ [Ξ [],bv Θ],[])))
 (Ah D (ι 184 0) [Ξ x0,Ξ x1,ν 0 0 0 1,AvM (Value.int υ 0),iv 0] [Ψ [] U U] [.t,.C,.x,.X,.Y] λc l o1=>
 br (AT 1 c)
 (dk [.C,.q 1 1,.N,.D,.R,.X,.E] [.l l,.o o1] λn1 cs1=>
 br ((0+n1*1).ble cs1.length) (AJ D (δ 177) [Ξ (Bo n1 1 (AvG (n1*1) cs1))] [] λr2 o2=>
 Mr r2 λxs=>
 CB o2<|
 V ((γ [Ξ xs,bv U],[]))) Δ)
 (Δ)):=by kernel_rfl
theorem AdP(t0 t1:Rw)(n6:Nat)(c6:Ab)(t7 t8:Int):CT A D Ak U0 (.b (.b (.b .n (.b .n (.f .n))) .n) .n) 184 0 (AI Zy 0).fst (AI Zy 0).snd [Ξ t0,Ξ t1,ν 0 0 n6 1,AvM (Value.int υ t7),iv t8] [{ cells:=c6,st:=U,ex:=U }] =
 Ah D (δ 226) [Ξ t0,Ξ t1] [] [.i,.E] λn=>br (A.lt t8 n) (Ah D (δ 227) [Ξ t0,iv t8] [] [.j .u64,.E] λn1=>Ah D (δ 227) [Ξ t1,iv t8] [] [.j .u64,.E] λn2=>br (A.eq 4294967296
 0) Δ (br (AU (n6+1) 4) (br ((0+n6*1).ble c6.length) (br (A.eq 4294967296 0) Δ (let y3:=A.sub υ (A.sub υ (A.add υ n1 4294967296) n2) t7;
 let y1:=A.conv χ (A.rem υ y3 4294967296);let y2:=Ψ (AvI 0 (AvG (0+n6*1) c6)++[AvM (Value.int χ y1)]) U U;AJ D (ι 184 0) [Ξ t0,Ξ t1,ν 0 0 (n6
 + 1) 1,AvM (Value.int υ (A.sub υ 1 (A.quo υ y3 4294967296))),iv (A.add φ t8 1)] [y2] λr3 o3=>AG 1 [2] (AH.mk [(2,y2),(1,Ψ [AvM (Value.int χ y1)] U U)]
 3 Δ) [0] r3 o3)) Δ) Δ)) (V (γ [iv 0,ν 1 0 n6 1],[BO.del,AvH (Ψ c6 U U)])):=by kernel_rfl
theorem AtN(x0:Rw)(x1:Int):Bp A D Ak U5 .n 228 ZG [Ξ x0,AvM (Value.int υ x1)] [] =
 Ah D (ι 228 0) [Ξ x0,AvM (Value.int υ x1),ν 0 0 0 1,AvM (Value.int υ 0),iv 0] [Ψ [] U U] [.t,.C,.x,.X,.Y] λc l o=>
 br (AT 1 c)
 (dk [.C,.q 1 1,.J .u64,.N,.D,.R,.X,.E] [.l l,.o o] λn n1 cs1=>
 br (AU (n+1) 4) (br ((0+n*1).ble cs1.length) (br ((0+(n+1)*1).ble (AvI 0 (AvG (0+n*1) cs1)++[AvM (Value.int χ (A.conv χ n1))]).length) (AJ D (δ 177) [Ξ (Bo (n+1) 1 (AvG ((n+1)*1) (AvI 0 (AvI 0 (AvG (0+n*1) cs1)++[AvM (Value.int χ (A.conv χ n1))]))))] [] λr1 o1=>
 Mr r1 λxs=>
 CB o1<|
 V ((Ξ xs,[]))) Δ) Δ) Δ)
 (Δ):=by kernel_rfl
theorem AdX(t0:Rw)(t1:Int)(n5:Nat)(c5:Ab)(t6 t7:Int):CT A D Ak U5 (.b (.b (.b .n (.b .n (.f .n))) .n) .n) 228 0 (AI ZG 0).fst (AI ZG 0).snd [Ξ t0,AvM (Value.int υ t1),ν 0 0 n5 1,AvM (Value.int υ t6),iv t7] [{ cells:=c5,st:=U,ex:=U }] =
 br (A.lt t7 ↑(AP t0)) (Ah D (δ 227) [Ξ t0,iv t7] [] [.j .u64,.E] λn=>br (A.eq 4294967296 0) Δ (br (AU (n5+1) 4) (br ((0+n5*1).ble c5.length) (br (A.eq 4294967296 0) Δ
 (let y2:=A.conv χ (A.rem υ (A.add υ (A.mul υ n t1) t6) 4294967296);let y1:=Ψ (AvI 0 (AvG (0+n5*1) c5)++[AvM (Value.int χ y2)]) U U;AJ D
 (ι 228 0) [Ξ t0,AvM (Value.int υ t1),ν 0 0 (n5+1) 1,AvM (Value.int υ (A.quo υ (A.add υ (A.mul υ n t1) t6) 4294967296)),iv (A.add φ t7 1)] [y1] fun
 r1 o1=>AG 1 [2] (AH.mk [(2,y1),(1,Ψ [AvM (Value.int χ y2)] U U)] 3 Δ) [0] r1 o1)) Δ) Δ)) (V (γ [iv 0,ν 1 0 n5 1,AvM (Value.int υ t6)],[BO.del,AvH (Ψ c5
 U U)])):=by kernel_rfl
theorem Atn(x0 x1:Rw):Bp A D Ak NF .n 183 RM [Ξ x0,Ξ x1] [] =
 Ah D (ι 183 0) [Ξ x0,Ξ x1,Ξ [],iv (A.sub φ (↑(AP x1)) 1)] [] [.t,.C,.x,.X,.Y] λc l o=>
 br (AT 1 c)
 (dk [.L,.N,.E] [.l l,.o o] λxs=>
 Ah D (δ 177) [Ξ xs] [] [.l,.E] λxs1=>
 V ((Ξ xs1,[])))
 (Δ):=by kernel_rfl
theorem AdN(t0 t1 t5:Rw)(t6:Int):CT A D Ak NF .n 183 0 (AI RM 0).fst (AI RM 0).snd [Ξ t0,Ξ t1,Ξ t5,iv t6] [] =
 br (A.le 0 t6)
 (Ah D (ι 183 1) [Ξ t0,Ξ t1,Ξ t5,iv t6,ν 0 0 1 1,iv 0] [Ψ [AvM (Value.int χ 0)] U U] [.t,.C,.x,.X,.Y] λc l o=>
 br (AT 3 c)
 (dk [.L,.L,.I,.C,.q 1 1,.N,.D,.R,.X,.E] [.l l,.o o] λxs xs1 n n1 cs1=>
 unI n λi=>
 A4 xs1 i λcs2=>
 dk [.J .u32,.N] [.l cs2] λn2=>
 Ah D (δ 228) [Ξ xs,AvM (Value.int υ (A.conv υ n2))] [] [.l,.E] λxs2=>
 br ((0+n1*1).ble cs1.length) (AJ D (δ 181) [Ξ (Bo n1 1 (AvG (n1*1) cs1)),Ξ xs2] [] λr2 o2=>
 Mr r2 λxs3=>
 CB o2<|
 AJ D (ι 183 0) [Ξ xs,Ξ xs1,Ξ xs3,iv (A.sub φ n 1)] [] λr3 o3=>
 AG 0 [] (AH.mk [(1,Ψ cs1 Θ U)] 2 Δ) [] r3 o3) Δ)
 (Δ))
 (V ((γ [iv 0,Ξ t5],[]))):=by kernel_rfl
theorem AdO(t0 t1 t5:Rw)(t6:Int)(n7:Nat)(c7:Ab)(t8:Int):CT A D Ak NF .n 183 1 (AI RM 1).fst (AI RM 1).snd [Ξ t0,Ξ t1,Ξ t5,iv t6,ν 0 0 n7 1,iv t8] [{ cells:=c7,st:=U,ex:=U }] =
 br (A.lt t8 ↑(AP t5)) (unI t8 λi=>A4 t5 i λcs=>dk [.J .u32,.N] [.l cs] λn=>br (AU (n7+1) 4) (br ((0+n7*1).ble c7.length)
 (let y1:=Ψ (AvI 0 (AvG (0+n7*1) c7)++[AvM (Value.int χ n)]) U U;AJ D (ι 183 1) [Ξ t0,Ξ t1,Ξ t5,iv t6,ν 0 0 (n7+1) 1,iv (A.add φ t8 1)] [y1] fun
 r o=>AG 1 [2] (AH.mk [(2,y1),(1,Ψ [AvM (Value.int χ n)] U U)] 3 Δ) [0] r o) Δ) Δ) (V (γ [iv 2,Ξ t0,Ξ t1,iv t6,ν 1 0 n7 1],[BO.del,AvH (Ψ c7 U U)])):=by kernel_rfl
theorem Atm(x0:ByteArray):Bp A D Ak Pg .n 182 Zx [sv x0] [] =
 br (A.lt 4000 ↑(A.slen x0))
 (V ((γ [Ξ [],iv 2],[])))
 (Ah D (ι 182 0) [sv x0,Ξ [],iv 0] [] [.t,.C,.x,.X,.Y] λc l o=>
 br (AT 0 c)
 (dk [.L,.I,.N,.E] [.l l,.o o] λxs n=>
 V ((γ [Ξ xs,iv n],[])))
 (br (AT 1 c)
 (dk [.S,.L,.N,.E] [.l l,.o o] λs xs=>
 br (A.eq (↑(A.slen s)) 0)
 (V ((γ [Ξ [],iv 20],[])))
 (Ah D (δ 177) [Ξ xs] [] [.l,.E] λxs1=>
 V ((γ [Ξ xs1,iv 0],[]))))
 (Δ))):=by kernel_rfl
theorem SX(t0:ByteArray)(t4:Rw)(t5:Int):CT A D Ak Pg .n 182 0 (AI Zx 0).fst (AI Zx 0).snd [sv t0,Ξ t4,iv t5] [] =
 br (A.lt t5 ↑(A.slen t0)) (unI t5 λi=>br (i.blt (A.slen t0)) (let y1:=V (γ [bv U,Ξ [],iv 20],[]);br (A.lt (A.sat t0 i) 48) y1 (unI t5 λi1=>br (i1.blt (A.slen t0)) (br (A.lt 57 (A.sat t0 i1)) y1
 (Ah D (δ 228) [Ξ t4,AvM (Value.int υ 10)] [] [.l,.E] λxs=>unI t5 λi2=>br (i2.blt (A.slen t0)) (AJ D (δ 181) [Ξ xs,Ξ [[AvM (Value.int χ (A.conv χ (A.sub
 AxI (A.sat t0 i2) 48)))]]] [] λr1 o1=>dk [.l,.E] [.v r1,.o o1] λxs1=>AJ D (ι 182 0) [sv t0,Ξ xs1,iv (A.add φ t5 1)] [] λr2 o2=>AG 0 [] (AH.mk [(0,Ψ [AvM (Value.int
 χ (A.conv χ (A.sub AxI (A.sat t0 i2) 48)))] Θ U)] 1 Δ) [] r2 o2) Δ)) Δ)) Δ) (V (γ [iv 0,sv t0,Ξ t4],[])):=by kernel_rfl
theorem At3(x0 x1:Rw):Bp A D Ak Pk .n 258 ZO [Ξ x0,Ξ x1] [] =
 br (A.eq ↑(AP x0) ↑(AP x1))
 (Ah D (ι 258 0) [Ξ x0,Ξ x1,iv 0] [] [.t,.C,.x,.X,.Y] λc l o=>
 br (AT 0 c)
 (dk [.B,.N,.E] [.l l,.o o] λb=>
 V ((bv b,[])))
 (br (AT 1 c)
 (EB l<|
 CB o<|
 V ((bv U,[])))
 (Δ)))
 (V ((bv Θ,[]))):=by kernel_rfl
theorem S0(t0 t1:Rw)(t5:Int):CT A D Ak Pk .n 258 0 (AI ZO 0).fst (AI ZO 0).snd [Ξ t0,Ξ t1,iv t5] [] =
 br (A.lt t5 ↑(AP t0))
 (unI t5 λi=>
 A4 t0 i λcs=>
 dk [.J .u32,.N] [.l cs] λn=>
 unI t5 λi1=>
 A4 t1 i1 λcs1=>
 dk [.J .u32,.N] [.l cs1] λn1=>
 br (A.eq n n1)
 (AJ D (ι 258 0) [Ξ t0,Ξ t1,iv (A.add φ t5 1)] [] λr o=>
 AG 0 [] (AH.mk [] 0 Δ) [] r o)
 (V ((γ [bv U,bv Θ],[]))))
 (V ((γ [iv 0],[]))):=by kernel_rfl
end
section
open Go.RowKit
def AmI:MFn:=Bj [] 180
def Alq:Hnt:=⟨[(177,(.ls,[]))],[],[]⟩
def AmH:MFn:=Bj [] 179
def Alp:Hnt:=⟨[(180,(.agg Bk,[]))],[],[(4,[.bool]),(6,[.ls])]⟩
def Amg:MFn:=Bj [] 119
def AkX:Hnt:=⟨[(180,(.agg Bk,[])),(181,(.ls,[]))],[],[]⟩
def Ame:MFn:=Bj [] 116
def AkV:Hnt:=⟨[(177,(.ls,[]))],[],[(4,[.ls]),(9,[.bool])]⟩
def Amj:MFn:=Bj [] 123
def Ak0:Hnt:=⟨[(180,(.agg Bk,[]))],[],[(4,[.bool]),(7,[.ls])]⟩
def Amk:MFn:=Bj [] 124
def AeF:Hnt:=⟨[(116,(.int .i64,[])),(124,(.agg Bk,[])),(180,(.agg Bk,[])),(181,(.ls,[])),(184,(.tup [.ls,.bool],[]))],[],[(7,Bk),(11,Bk),(16,[.ls]),(18,[.ls]),(21,Bk),(25,Bk),(30,[.ls]),(32,[.ls]),(35,Bk),(38,Bk),(39,Bk),(43,[.ls]),(45,[.ls]),(54,[.ls]),(56,[.ls])]⟩
def Amf:MFn:=Bj [] 118
def AkW:Hnt:=⟨[(123,(.agg Bk,[])),(124,(.agg Bk,[]))],[],[(5,Bk),(6,Bk)]⟩
def Ami:MFn:=Bj [] 122
def AkZ:Hnt:=⟨[(116,(.int .i64,[])),(180,(.agg Bk,[])),(183,(.ls,[]))],[],[(5,Bk),(7,Bk),(12,[.ls]),(14,[.ls])]⟩
def ArD:MFn:=Bj [] 67
def AqM:Hnt:=⟨[(116,(.int .i64,[])),(118,(.agg Bk,[]))],[],[(5,Bk),(6,Bk)]⟩
def Amh:MFn:=Bj [] 120
def AkY:Hnt:=⟨[(180,(.agg Bk,[])),(182,(.tup Se,[]))],[],[]⟩
def Am2:MFn:=Bj [] 238
def AlJ:Hnt:=⟨[(258,(.bool,[]))],[],[(6,[.bool]),(8,[.bool]),(12,[.ls]),(14,[.ls])]⟩
def Aaq:List (Nat × MFn):=[(180,AmI),(179,AmH),(119,Amg),(116,Ame),(123,Amj),(124,Amk),(118,Amf),(122,Ami),(67,ArD),(120,Amh),(238,Am2)]
variable (A:Ar) (D:Orc)
theorem Atk(x0:Bool)(x1:Rw):Bp A D Ak Alq .n 180 AmI [bv x0,Ξ x1] [] =
 Ah D (δ 177) [Ξ x1] [] [.l,.E] λxs=>
 br (A.eq (↑(AP xs)) 0)
 (V ((Φ [bv Θ,Ξ []],[])))
 (V ((Φ [bv x0,Ξ xs],[]))):=by kernel_rfl
theorem Atj(x0_0:Bool)(x0_1:Rw):Bp A D Ak Alp .n 179 AmH [Φ [bv x0_0,Ξ x0_1]] [] =
 Ah D (δ 180) [bv x0_0,Ξ x0_1] [] [.a,.B,.L,.N,.E] λb xs=>
 V ((Φ [bv b,Ξ xs],[])):=by kernel_rfl
theorem AsJ(x0:Int):Bp A D Ak AkX (.b (.b (.b .n (.f .n)) .n) (.b .n (.b .n (.f .n)))) 119 Amg [iv x0] [] =
 let y1:=A.eq 4294967296 0;br (A.le 0 x0) (br y1 Δ (br y1 Δ (AJ D (δ 180) [bv Θ,Ξ [[AvM (Value.int χ (A.conv χ (A.rem φ x0 4294967296)))],[AvM (Value.int χ
 (A.conv χ (A.quo φ x0 4294967296)))]]] [] λr o=>dk [.a,.B,.L,.N,.E] [.v r,.o o] λb xs=>V (Φ [bv b,Ξ xs],[])))) (br y1 Δ (br y1 Δ (AJ D (δ 181) [Ξ [[AvM
 (Value.int χ (A.conv χ (A.rem φ (A.sub φ 0 (A.add φ x0 1)) 4294967296)))],[AvM (Value.int χ (A.conv χ (A.quo φ (A.sub φ 0 (A.add
 φ x0 1)) 4294967296)))]],Ξ [[AvM (Value.int χ 1)]]] [] λr o=>Mr r λxs=>CB o<|Ah D (δ 180) [bv U,Ξ xs] [] [.a,.B,.L,.N,.E] λb xs1=>V (Φ [bv b,Ξ xs1],
 [])))):=by kernel_rfl
theorem AsH(x0_0:Bool)(x0_1:Rw):Bp A D Ak AkV .n 116 Ame [Φ [bv x0_0,Ξ x0_1]] [] =
 Ah D (δ 177) [Ξ x0_1] [] [.l,.E] λxs=>
 br (A.eq (↑(AP xs)) 0)
 (V ((iv 0,[])))
 (br x0_0
 (V ((iv (-1),[])))
 (V ((iv 1,[])))):=by kernel_rfl
theorem AsN(x0_0:Bool)(x0_1:Rw):Bp A D Ak Ak0 .n 123 Amj [Φ [bv x0_0,Ξ x0_1]] [] =
 br (A.not x0_0)
 (Ah D (δ 180) [bv U,Ξ x0_1] [] [.a,.B,.L,.N,.E] λb xs=>
 V ((Φ [bv b,Ξ xs],[])))
 (Ah D (δ 180) [bv Θ,Ξ x0_1] [] [.a,.B,.L,.N,.E] λb xs=>
 V ((Φ [bv b,Ξ xs],[]))):=by kernel_rfl
theorem Ap2(x0_0:Bool)(x0_1:Rw)(x1_0:Bool)(x1_1:Rw):Bp A D Ak AeF .n 124 Amk [Φ [bv x0_0,Ξ x0_1],Φ [bv x1_0,Ξ x1_1]] [] =
 let y5:=Φ [bv x0_0,Ξ x0_1];Ah D (δ 116) [y5] [] [.i,.E] λn=>let y3:=λz1=>Ah D (δ 180) [bv Θ,Ξ z1] [] [.a,.B,.L,.N,.E] λb1 xs1=>V (Φ [bv b1,Ξ xs1],[]);
 let y4:=λz1=>Ah D (δ 180) [bv U,Ξ z1] [] [.a,.B,.L,.N,.E] λb2 xs2=>V (Φ [bv b2,Ξ xs2],[]);let y7:=Φ [bv x1_0,Ξ x1_1];
 let y1:=Ah D (δ 116) [y5] [] [.i,.E] λn4=>br (A.lt n4 0) (Ah D (δ 124) [y7,y5] [] [.a,.B,.L,.N,.E] λb xs=>V (Φ [bv b,Ξ xs],[])) (Ah D (δ 184) [Ξ x0_1,Ξ x1_1] [] [.t,.L,.B,.N,.E] λxs b=>br b (y3 xs) (Ah D (δ 184) [Ξ x1_1,Ξ x0_1] [] [.t,.L,.B,.N,.E] λxs1 _=>y4 xs1));
 let y6:=λz1=>Ah D (δ 181) [Ξ x0_1,Ξ x1_1] [] [.l,.E] λxs=>z1 xs;
 let y2:=Ah D (δ 116) [y5] [] [.i,.E] λn2=>br (A.le 0 n2) (Ah D (δ 116) [y7] [] [.i,.E] λn3=>br (A.le 0 n3) (y6 y3) y1) y1;br (A.lt n 0) (Ah D (δ 116) [y7] [] [.i,.E] λn1=>br (A.lt n1 0)
 (y6 y4) y2) y2:=by kernel_rfl
theorem AsI(x0_0:Bool)(x0_1:Rw)(x1_0:Bool)(x1_1:Rw):Bp A D Ak AkW .n 118 Amf [Φ [bv x0_0,Ξ x0_1],Φ [bv x1_0,Ξ x1_1]] [] =
 Ah D (δ 123) [Φ [bv x1_0,Ξ x1_1]] [] [.a,.B,.L,.N,.E] λb xs=>
 Ah D (δ 124) [Φ [bv x0_0,Ξ x0_1],Φ [bv b,Ξ xs]] [] [.a,.B,.L,.N,.E] λb1 xs1=>
 V ((Φ [bv b1,Ξ xs1],[])):=by kernel_rfl
theorem AsM(x0_0:Bool)(x0_1:Rw)(x1_0:Bool)(x1_1:Rw):Bp A D Ak AkZ .n 122 Ami [Φ [bv x0_0,Ξ x0_1],Φ [bv x1_0,Ξ x1_1]] [] =
 Ah D (δ 116) [Φ [bv x0_0,Ξ x0_1]] [] [.i,.E] λn=>
 Ah D (δ 116) [Φ [bv x1_0,Ξ x1_1]] [] [.i,.E] λn1=>
 br (A.lt (A.mul φ n n1) 0)
 (Ah D (δ 183) [Ξ x0_1,Ξ x1_1] [] [.l,.E] λxs=>
 Ah D (δ 180) [bv U,Ξ xs] [] [.a,.B,.L,.N,.E] λb xs1=>
 V ((Φ [bv b,Ξ xs1],[])))
 (Ah D (δ 183) [Ξ x0_1,Ξ x1_1] [] [.l,.E] λxs=>
 Ah D (δ 180) [bv Θ,Ξ xs] [] [.a,.B,.L,.N,.E] λb xs1=>
 V ((Φ [bv b,Ξ xs1],[]))):=by kernel_rfl
theorem e67(x0_0:Bool)(x0_1:Rw)(x1_0:Bool)(x1_1:Rw):Bp A D Ak AqM .n 67 ArD [Φ [bv x0_0,Ξ x0_1],Φ [bv x1_0,Ξ x1_1]] [] =
 Ah D (δ 118) [Φ [bv x0_0,Ξ x0_1],Φ [bv x1_0,Ξ x1_1]] [] [.a,.B,.L,.N,.E] λb xs=>
 Ah D (δ 116) [Φ [bv b,Ξ xs]] [] [.i,.E] λn=>
 V ((iv n,[])):=by kernel_rfl
theorem AsK(x0:ByteArray):Bp A D Ak AkY .n 120 Amh [sv x0] [] =
 let y1:=Ah D (δ 182) [sv x0] [] [.t,.L,.I,.N,.E] λxs n=>br (A.eq n 0) (Ah D (δ 180) [bv Θ,Ξ xs] [] [.a,.B,.L,.N,.E] λb xs1=>V (γ [Φ [bv b,Ξ xs1],iv 0],[])) (V (γ [Φ [bv Θ,Ξ []],iv n],[]));
 br (A.lt 0 ↑(A.slen x0)) (br (Awv 0 (A.slen x0)) (br (A.eq (A.sat x0 0) 45) (br (J1 1 (A.slen x0) (A.slen x0)) (AJ D (δ 182) [sv (A.ssub x0 1 (A.slen x0))] [] λr o=>dk [.t,.L,.I,.N,.E] [.v r,.o o] λxs n
 =>br (A.eq n 0) (Ah D (δ 180) [bv U,Ξ xs] [] [.a,.B,.L,.N,.E] λb xs1=>V (γ [Φ [bv b,Ξ xs1],iv 0],[])) (V (γ [Φ [bv Θ,Ξ []],iv n],[]))) Δ) y1) Δ) y1:=by kernel_rfl
theorem AtU(x0_0:Bool)(x0_1:Rw)(x1_0:Bool)(x1_1:Rw):Bp A D Ak AlJ .n 238 Am2 [Φ [bv x0_0,Ξ x0_1],Φ [bv x1_0,Ξ x1_1]] [] =
 br (A.beq x0_0 x1_0)
 (Ah D (δ 258) [Ξ x0_1,Ξ x1_1] [] [.b,.E] λb=>
 br b
 (V ((bv U,[])))
 (V ((bv Θ,[]))))
 (V ((bv Θ,[]))):=by kernel_rfl
end
section
open Go.RowKit
def Zv:MFn:=Bj [⟨36,(mB 118),[],[2,4,5],[(1,((mB 48),([],[2])))]⟩] 178
def UY:Hnt:=⟨[(124,(.agg Bk,[]))],[(0,[(1,([.ptr 1 0,.ptr 2 0],[.del,.box Bk,.box Bk]))])],[(10,[.ls]),(16,[.ls]),(18,BM),(20,[.int .i64]),(27,Bk),(29,[.ls]),(31,BM),(33,Bk),(35,Bk)]⟩
def Ari:MFn:=Bj [⟨27,(mB 118),[],[2,4,5],[(1,((mB 48),([],[2])))]⟩] 117
def AuI:MFn:=Bj [] 66
def AuE:MFn:=Bj [⟨26,(mB 133),[],[],[(0,((mB 64),([],[]))),(1,([],([],[])))]⟩] 26
def AuF:MFn:=Bj [⟨65,(mB 38),[],[2],[(0,((mB 16),([],[2]))),(2,([],([],[2])))]⟩,⟨65,(mB 70),[],[2],[(0,((mB 16),([],[2]))),(4,([],([],[2])))]⟩] 28
def NW:List (Nat × MFn):=[(178,Zv),(117,Ari),(66,AuI),(26,AuE),(28,AuF)]
variable (A:Ar) (D:Orc)
theorem Ati(x0_0:Rw)(x0_1:Bool)(x0_2:Rw)(x1:Int):Bp A D Ak UY .n 178 Zv [Φ [Ξ x0_0,bv x0_1,Ξ x0_2],iv x1] [] =
 Ah D (ι 178 0) [iv x1,ψ 0 0,ψ 1 0,ψ 2 0,iv 0] [bk [Ξ x0_0,bv x0_1,Ξ x0_2],bk [bv Θ,Ξ []],bk [bv Θ,Ξ []]] [.t,.C,.x,.X,.Y] λc l o=>
 br (AT 1 c)
 (dk [.P 1 0,.P 2 0,.N,.D,.T,.B,.L,.N,.T,.B,.L,.N,.E] [.l l,.o o] λ_ _ b1 xs1=>
 V ((Φ [bv b1,Ξ xs1],[])))
 (Δ):=by kernel_rfl
theorem AdL(t1:Int)(b2_0:Rw)(b2_1:Bool)(b2_2:Rw)(b4_0:Bool)(b4_1:Rw)(b5_0:Bool)(b5_1:Rw)(t6:Int):CT A D Ak UY .n 178 0 (AI Zv 0).fst (AI Zv 0).snd [iv t1,ψ 0 0,ψ 1 0,ψ 2 0,iv t6] [bk [Ξ b2_0,bv b2_1,Ξ b2_2],bk [bv b4_0,Ξ b4_1],bk [bv b5_0,Ξ b5_1]] =
 let y3:=bk [bv b4_0,Ξ b4_1];let y5:=[bv b5_0,Ξ b5_1];br (A.lt t6 ↑(AP b2_0)) (unI t6 λi=>A4 b2_0 i λcs=>dk [.I,.B,.L,.N] [.l cs] λn _ _=>let y2:=bk [Ξ b2_0,bv b2_1,Ξ b2_2];
 let y4:=[iv t1,ψ 0 0,ψ 1 0,ψ 2 0,iv (A.add φ t6 1)];let y1:=AJ D (ι 178 0) y4 [y2,y3,bk y5] λr o=>AG 3 [0,1,2] (AH.mk [(2,bk y5),(1,y3),(0,y2)] 3 Δ) [0,1,2] r o;br
 (A.eq n t1) (br (A.le 0 t1) (unI t6 λi1=>A4 b2_0 i1 λcs1=>dk [.I,.B,.L,.N] [.l cs1] λ_ b1 xs1=>Ah D (δ 124) [Φ y5,Φ [bv b1,Ξ xs1]] [] [.a,.B,.L,.N,.E] λb2 xs2=>AJ D (ι
 178 0) y4 [y2,y3,bk [bv b2,Ξ xs2]] λr1 o1=>AG 3 [0,1,2] (AH.mk [(2,bk [bv b2,Ξ xs2]),(1,y3),(0,y2)] 3 Δ) [0,1,2] r1 o1) y1) y1) (V (γ [iv 0,ψ 1 0,ψ 2 0],[BO.del,AvH y3,
 AvH (bk y5)])):=by kernel_rfl
end
section
open Go.RowKit
def ZP:MFn:=Bj [⟨49,(mB 227),[(5,1)],[],[(1,((mB 98),([],[])))]⟩] 259
def Vd:Hnt:=⟨[],[(0,[(1,([.int .i64,.sl 1 1,.bool],[.del,.row U]))])],[(20,[.int .i64]),(21,[.int .i64]),(31,[.int .i64]),(32,[.int .i64]),(38,[.int .i64]),(39,[.int .i64])]⟩
def ZK:MFn:=Bj [⟨29,(mB 26),[],[1,3],[(1,((mB 8),([],[1])))]⟩] 239
def U9:Hnt:=⟨[(116,(.int .i64,[])),(178,(.agg Bk,[])),(259,(.ls,[]))],[(0,[(1,([.ls],[.del]))])],[(9,[.ls]),(15,[.ls]),(17,BM),(19,[.int .i64]),(20,BA)]⟩
def ZB:MFn:=Bj [⟨35,(mB 62),[(1000003,3)],[1,2],[(1,((mB 12),([],[1])))]⟩] 199
def U2:Hnt:=⟨[(178,(.agg Bk,[])),(179,(.agg Bk,[])),(239,(.ls,[]))],[(0,[(1,([.ptr 1 0,.ptr 2 0],[.del,.box BA,.box [.sl 4 3,.bool,.ls],.del,.row U]))])],[(7,Bk),(10,BA),(19,[.ls]),(22,[.int .i64]),(23,[.int .i64]),(24,BA),(27,[.int .i64]),(28,[.int .i64]),(34,BA)]⟩
def RP:MFn:=Bj [⟨36,(mB 99),[(5,3)],[],[(1,((mB 34),([],[])))]⟩,⟨36,(mB 162),[(5,3)],[],[(3,((mB 32),([],[])))]⟩] 287
def NI:Hnt:=⟨[],[(0,[(1,([.ls,.sl 1 3],[.del,.row U]))]),(1,[(3,([.sl 1 3],[.del,.row U]))])],[(18,BM),(19,BM),(31,BM),(32,BM)]⟩
def Ane:MFn:=Bj [] 280
def AlU:Hnt:=⟨[(124,(.agg Bk,[])),(199,(.agg BA,[])),(287,(.ls,[]))],[],[(6,[.ls]),(8,[.ls]),(11,Bk),(13,Bk)]⟩
def ZT:MFn:=Bj [⟨41,(mB 124),[(1000005,3)],[2,3,4],[(1,((mB 48),([],[2,3])))]⟩] 281
def Vf:Hnt:=⟨[(122,(.agg Bk,[])),(199,(.agg BA,[]))],[(0,[(1,([.ptr 2 0,.ptr 3 0],[.del,.del,.box BA,.box [.sl 5 3,.bool,.ls],.del,.row U]))])],[(8,Bk),(9,Bk),(14,[.ls]),(20,[.ls]),(22,[.ls]),(24,BM),(26,[.int .i64]),(28,[.ls]),(30,BM),(32,Bk),(33,Bk),(39,BA)]⟩
def Am9:MFn:=Bj [] 272
def AlQ:Hnt:=⟨[(119,(.agg Bk,[])),(280,(.agg BA,[])),(281,(.agg BA,[]))],[],[(5,BA),(6,BA)]⟩
def Am8:MFn:=Bj [] 271
def AlP:Hnt:=⟨[(179,(.agg Bk,[]))],[],[(3,Bk)]⟩
def ZA:MFn:=Bj [⟨57,(mB 44),[],[2,3],[(0,((mB 16),([],[2,3]))),(1,([],([],[2,3])))]⟩] 198
def Lx:Hnt:=⟨[(238,(.bool,[]))],[(0,[(0,([.bool],[.del,.del])),(1,([],[.del,.del]))])],[(7,[.ls]),(10,[.ls]),(15,Bk),(17,Bk),(23,[.ls]),(29,[.ls]),(31,BM),(33,[.int .i64]),(35,[.ls]),(37,BM),(39,[.int .i64]),(43,[.ls]),(45,BM),(47,Bk),(49,[.ls]),(51,BM),(53,Bk)]⟩
def Mn:List (Nat × MFn):=[(259,ZP),(239,ZK),(199,ZB),(287,RP),(280,Ane),(281,ZT),(272,Am9),(271,Am8),(198,ZA)]
variable (A:Ar) (D:Orc)
theorem At4(x0:Rw)(x1:Int):Bp A D Ak Vd .n 259 ZP [Ξ x0,iv x1] [] =
 Ah D (ι 259 0) [Ξ x0,iv x1,ν 0 0 0 1,bv Θ,iv 0] [Ψ [] U U] [.t,.C,.x,.X,.Y] λc l o=>
 br (AT 1 c)
 (dk [.I,.C,.q 1 1,.B,.N,.D,.R,.X,.E] [.l l,.o o] λn n1 b cs1=>
 br (A.not b)
 (br (AU (n1+1) 8) (br ((0+n1*1).ble cs1.length) (br ((0+(n1+1)*1).ble (AvI 0 (AvG (0+n1*1) cs1)++[iv n]).length) (V ((Ξ (Bo (n1+1) 1 (AvG ((n1+1)*1) (AvI 0 (AvI 0 (AvG (0+n1*1) cs1)++[iv n])))),[]))) Δ) Δ) Δ)
 (br ((0+n1*1).ble cs1.length) (V ((Ξ (Bo n1 1 (AvG (n1*1) cs1)),[]))) Δ))
 (Δ):=by kernel_rfl
theorem Ad9(t0:Rw)(t1:Int)(n5:Nat)(c5:Ab)(t6:Bool)(t7:Int):CT A D Ak Vd .n 259 0 (AI ZP 0).fst (AI ZP 0).snd [Ξ t0,iv t1,ν 0 0 n5 1,bv t6,iv t7] [{ cells:=c5,st:=U,ex:=U }] =
 br (A.lt t7 ↑(AP t0)) (let y5:=iv (A.add φ t7 1);
 let y1:=unI t7 λi1=>A4 t0 i1 λcs1=>dk [.I,.N] [.l cs1] λn1=>br (A.eq n1 t1) (AJ D (ι 259 0) [Ξ t0,iv t1,ν 0 0 n5 1,bv t6,y5] [Ψ c5 U U] λr o=>AG 1 [0] (AH.mk [(0,Ψ c5 U U)] 1 Δ) [] r o) (unI t7 λi2=>A4 t0 i2 λcs2=>dk [.I,.N] [.l cs2] λn2=>br (AU (n5+1) 8) (br ((0+n5*1).ble c5.length) (let y3:=Ψ (AvI 0 (AvG (0+n5*1) c5)++[iv n2]) U U;AJ D (ι 259 0) [Ξ t0,iv t1,ν 0 0 (n5+1) 1,bv t6,y5] [y3] λr o=>AG 1 [2] (AH.mk [(2,y3),(1,Ψ [iv n2] U U)] 3 Δ) [0] r o) Δ) Δ);
 br (A.not t6) (unI t7 λi=>A4 t0 i λcs=>dk [.I,.N] [.l cs] λn=>br (A.le t1 n) (br (AU (n5+1) 8) (br ((0+n5*1).ble c5.length) (unI t7 λi1=>A4 t0 i1 λcs1=>dk [.I,.N] [.l cs1] λn1=>br
 (A.eq n1 t1) (let y4:=Ψ (AvI 0 (AvG (0+n5*1) c5)++[iv t1]) U U;AJ D (ι 259 0) [Ξ t0,iv t1,ν 0 0 (n5+1) 1,bv U,y5] [y4] λr o=>AG 1 [2] (AH.mk [(2,y4),(1,Ψ
 [iv t1] U U)] 3 Δ) [0] r o) (unI t7 λi2=>A4 t0 i2 λcs2=>dk [.I,.N] [.l cs2] λn2=>br (AU (n5+1+1) 8) (br ((0+(n5+1)*1).ble (AvI 0 (AvG (0+n5*1) c5)++[iv t1]).length)
 (let y2:=Ψ (AvI 0 (AvG (0+(n5+1)*1) (AvI 0 (AvG (0+n5*1) c5)++[iv t1]))++[iv n2]) U U;AJ D (ι 259 0) [Ξ t0,iv t1,ν 0 0 (n5+1+1) 1,bv U,y5] [y2] λr
 o=>AG 1 [4] (AH.mk [(4,y2),(3,Ψ [iv n2] U U),(1,Ψ [iv t1] U U)] 5 Δ) [0] r o) Δ) Δ)) Δ) Δ) y1) y1) (V (γ [iv 0,iv t1,ν 1 0 n5 1,bv t6],[BO.del,AvH (Ψ c5
 U U)])):=by kernel_rfl
theorem AtV(x0_0:Rw)(x0_1:Bool)(x0_2:Rw):Bp A D Ak U9 .n 239 ZK [Φ [Ξ x0_0,bv x0_1,Ξ x0_2]] [] =
 Ah D (ι 239 0) [ψ 0 0,Ξ [],iv 0] [bk [Ξ x0_0,bv x0_1,Ξ x0_2]] [.t,.C,.x,.X,.Y] λc l o=>
 br (AT 1 c)
 (dk [.L,.N,.D,.E] [.l l,.o o] λxs=>
 V ((Ξ xs,[])))
 (Δ):=by kernel_rfl
theorem Ad1(b1_0:Rw)(b1_1:Bool)(b1_2 t3:Rw)(t4:Int):CT A D Ak U9 .n 239 0 (AI ZK 0).fst (AI ZK 0).snd [ψ 0 0,Ξ t3,iv t4] [bk [Ξ b1_0,bv b1_1,Ξ b1_2]] =
 br (A.lt t4 ↑(AP b1_0)) (unI t4 λi=>A4 b1_0 i λcs=>dk [.I,.B,.L,.N] [.l cs] λn _ _=>let y1:=[Ξ b1_0,bv b1_1,Ξ b1_2];Ah D (δ 178) [Φ y1,iv n] [] [.a,.B,.L,.N,.E] λb1 xs1=>
 Ah D (δ 116) [Φ [bv b1,Ξ xs1]] [] [.i,.E] λn1=>br (A.eq n1 0) (AJ D (ι 239 0) [ψ 0 0,Ξ t3,iv (A.add φ t4 1)] [bk y1] λr2 o2=>AG 1 [0] (AH.mk [(0,bk y1)] 1 Δ) [0] r2
 o2) (Ah D (δ 259) [Ξ t3,iv n] [] [.l,.E] λxs2=>AJ D (ι 239 0) [ψ 0 0,Ξ xs2,iv (A.add φ t4 1)] [bk y1] λr3 o3=>AG 1 [0] (AH.mk [(0,bk y1)] 1 Δ) [0] r3 o3)) (V (γ
 [iv 0,Ξ t3],[BO.del])):=by kernel_rfl
theorem Atv(x0_0:Rw)(x0_1:Bool)(x0_2:Rw):Bp A D Ak U2 .n 199 ZB [Φ [Ξ x0_0,bv x0_1,Ξ x0_2]] [] =
 Ah D (δ 179) [Φ [bv x0_1,Ξ x0_2]] [] [.a,.B,.L,.N,.E] λb xs=>
 Ah D (δ 239) [Φ [Ξ x0_0,bv x0_1,Ξ x0_2]] [] [.l,.E] λxs1=>
 Ah D (ι 199 0) [ψ 0 0,ψ 1 0,ψ 2 0,Ξ xs1,iv 0] [bk [Ξ x0_0,bv x0_1,Ξ x0_2],bk [Ξ [],bv Θ,Ξ []],bk [ν 3 0 0 3,bv b,Ξ xs],Ψ [] U U] [.t,.C,.x,.X,.Y] λc l2 o2=>
 br (AT 1 c)
 (dk [.P 1 0,.P 2 0,.N,.D,.T,.L,.B,.L,.N,.T,.C,.q 4 3,.B,.L,.N,.D,.R,.X,.E] [.l l2,.o o2] λ_ _ _ n b2 xs4 cs4=>
 br ((0+n*3).ble cs4.length) (V ((Φ [Ξ (Bo n 3 (AvG (n*3) cs4)),bv b2,Ξ xs4],[]))) Δ)
 (Δ):=by kernel_rfl
theorem AdQ(a0:Rw)(a1:Bool)(a2 r0:Rw)(r1:Bool)(r2:Rw)(n3:Nat)(k1:Bool)(k2:Rw)(c3:Ab)(t4:Rw)(t5:Int):CT A D Ak U2 .n 199 0 (AI ZB 0).fst (AI ZB 0).snd [ψ 0 0,ψ 1 0,ψ 2 0,Ξ t4,iv t5] [bk [Ξ a0,bv a1,Ξ a2],bk [Ξ r0,bv r1,Ξ r2],bk [ν 3 0 n3 3,bv k1,Ξ k2],{ cells:=c3,st:=U,ex:=U }] =
 let y2:=bk [Ξ r0,bv r1,Ξ r2];br (A.lt t5 ↑(AP t4)) (unI t5 λi=>A4 t4 i λcs=>dk [.I,.N] [.l cs] λn=>unI t5 λi1=>A4 t4 i1 λcs1=>dk [.I,.N] [.l cs1] λn1=>
 let y3:=[Ξ a0,bv a1,Ξ a2];Ah D (δ 178) [Φ y3,iv n1] [] [.a,.B,.L,.N,.E] λb xs=>br (AU (n3+1) 40) (br ((0+n3*3).ble c3.length)
 (let y1:=Ψ (AvI 0 (AvG (0+n3*3) c3)++[iv n,bv b,Ξ xs]) U U;AJ D (ι 199 0) [ψ 0 0,ψ 1 0,ψ 2 0,Ξ t4,iv (A.add φ t5 1)] [bk y3,y2,bk [ν 3 0 (n3 +
 1) 3,bv k1,Ξ k2],y1] λr3 o1=>AG 4 [0,1,2,5] (AH.mk [(1,y2),(0,bk y3),(2,bk [ν 5 0 (n3+1) 3,bv k1,Ξ k2]),(5,y1),(4,Ψ [iv n,bv b,Ξ xs] U U)] 6 Δ) [3,2,0,1] r3 o1)
 Δ) Δ) (V (γ [iv 0,ψ 1 0,ψ 2 0],[BO.del,AvH y2,AvH (bk [ν 4 0 n3 3,bv k1,Ξ k2]),BO.del,AvH (Ψ c3 U U)])):=by kernel_rfl
theorem Aul(x0 x1:Rw):Bp A D Ak NI .n 287 RP [Ξ x0,Ξ x1] [] =
 Ah D (ι 287 0) [Ξ x0,Ξ x1,ν 0 0 0 3,iv 0] [Ψ [] U U] [.t,.C,.x,.X,.Y] λc l o=>
 br (AT 1 c)
 (dk [.L,.C,.q 1 3,.N,.D,.R,.X,.E] [.l l,.o o] λxs n cs1=>
 Ah D (ι 287 1) [Ξ xs,ν 0 0 n 3,iv 0] [Ψ cs1 U U] [.t,.C,.x,.X,.Y] λc4 l5 o1=>
 br (AT 3 c4)
 (dk [.C,.q 1 3,.N,.D,.R,.X,.E] [.l l5,.o o1] λn1 cs3=>
 br ((0+n1*3).ble cs3.length) (V ((Ξ (Bo n1 3 (AvG (n1*3) cs3)),[]))) Δ)
 (Δ))
 (Δ):=by kernel_rfl
theorem Aef(t0 t1:Rw)(n5:Nat)(c5:Ab)(t6:Int):CT A D Ak NI .n 287 0 (AI RP 0).fst (AI RP 0).snd [Ξ t0,Ξ t1,ν 0 0 n5 3,iv t6] [{ cells:=c5,st:=U,ex:=U }] =
 br (A.lt t6 ↑(AP t0)) (unI t6 λi=>A4 t0 i λcs=>dk [.I,.B,.L,.N] [.l cs] λn b xs=>br (AU (n5+1) 40) (br ((0+n5*3).ble c5.length)
 (let y1:=Ψ (AvI 0 (AvG (0+n5*3) c5)++[iv n,bv b,Ξ xs]) U U;AJ D (ι 287 0) [Ξ t0,Ξ t1,ν 0 0 (n5+1) 3,iv (A.add φ t6 1)] [y1] λr o=>AG 1 [2] (AH.mk
 [(2,y1),(1,Ψ [iv n,bv b,Ξ xs] U U)] 3 Δ) [0] r o) Δ) Δ) (V (γ [iv 0,Ξ t1,ν 1 0 n5 3],[BO.del,AvH (Ψ c5 U U)])):=by kernel_rfl
theorem Aeg(t1:Rw)(n5:Nat)(c5:Ab)(t7:Int):CT A D Ak NI .n 287 1 (AI RP 1).fst (AI RP 1).snd [Ξ t1,ν 0 0 n5 3,iv t7] [{ cells:=c5,st:=U,ex:=U }] =
 br (A.lt t7 ↑(AP t1)) (unI t7 λi=>A4 t1 i λcs=>dk [.I,.B,.L,.N] [.l cs] λn b xs=>br (AU (n5+1) 40) (br ((0+n5*3).ble c5.length)
 (let y1:=Ψ (AvI 0 (AvG (0+n5*3) c5)++[iv n,bv b,Ξ xs]) U U;AJ D (ι 287 1) [Ξ t1,ν 0 0 (n5+1) 3,iv (A.add φ t7 1)] [y1] λr o=>AG 1 [2] (AH.mk [(2,y1),
 (1,Ψ [iv n,bv b,Ξ xs] U U)] 3 Δ) [0] r o) Δ) Δ) (V (γ [iv 2,ν 1 0 n5 3],[BO.del,AvH (Ψ c5 U U)])):=by kernel_rfl
theorem Auf(x0_0:Rw)(x0_1:Bool)(x0_2 x1_0:Rw)(x1_1:Bool)(x1_2:Rw):Bp A D Ak AlU .n 280 Ane [Φ [Ξ x0_0,bv x0_1,Ξ x0_2],Φ [Ξ x1_0,bv x1_1,Ξ x1_2]] [] =
 Ah D (δ 287) [Ξ x0_0,Ξ x1_0] [] [.l,.E] λxs=>
 Ah D (δ 124) [Φ [bv x0_1,Ξ x0_2],Φ [bv x1_1,Ξ x1_2]] [] [.a,.B,.L,.N,.E] λb xs1=>
 Ah D (δ 199) [Φ [Ξ xs,bv b,Ξ xs1]] [] [.a,.L,.B,.L,.N,.E] λxs2 b1 xs3=>
 V ((Φ [Ξ xs2,bv b1,Ξ xs3],[])):=by kernel_rfl
theorem Aug(x0_0:Rw)(x0_1:Bool)(x0_2:Rw)(x1_0:Bool)(x1_1:Rw):Bp A D Ak Vf .n 281 ZT [Φ [Ξ x0_0,bv x0_1,Ξ x0_2],Φ [bv x1_0,Ξ x1_1]] [] =
 Ah D (δ 122) [Φ [bv x0_1,Ξ x0_2],Φ [bv x1_0,Ξ x1_1]] [] [.a,.B,.L,.N,.E] λb xs=>
 Ah D (ι 281 0) [ψ 0 0,ψ 1 0,ψ 2 0,ψ 3 0,iv 0] [bk [Ξ x0_0,bv x0_1,Ξ x0_2],bk [bv x1_0,Ξ x1_1],bk [Ξ [],bv Θ,Ξ []],bk [ν 4 0 0 3,bv b,Ξ xs],Ψ [] U U] [.t,.C,.x,.X,.Y] λc l2 o1=>
 br (AT 1 c)
 (dk [.P 2 0,.P 3 0,.N,.D,.D,.T,.L,.B,.L,.N,.T,.C,.q 5 3,.B,.L,.N,.D,.R,.X,.E] [.l l2,.o o1] λ_ _ _ n b2 xs3 cs4=>
 br ((0+n*3).ble cs4.length) (AJ D (δ 199) [Φ [Ξ (Bo n 3 (AvG (n*3) cs4)),bv b2,Ξ xs3]] [] λr2 o2=>
 dk [.a,.L,.B,.L,.N,.E] [.v r2,.o o2] λxs4 b3 xs5=>
 V ((Φ [Ξ xs4,bv b3,Ξ xs5],[]))) Δ)
 (Δ):=by kernel_rfl
theorem Aeb(a0:Rw)(a1:Bool)(a2:Rw)(i0:Bool)(i1 r0:Rw)(r1:Bool)(r2:Rw)(n5:Nat)(k1:Bool)(k2:Rw)(c5:Ab)(t6:Int):CT A D Ak Vf .n 281 0 (AI ZT 0).fst (AI ZT 0).snd [ψ 0 0,ψ 1 0,ψ 2 0,ψ 3 0,iv t6] [bk [Ξ a0,bv a1,Ξ a2],bk [bv i0,Ξ i1],bk [Ξ r0,bv r1,Ξ r2],bk [ν 4 0 n5 3,bv k1,Ξ k2],{ cells:=c5,st:=U,ex:=U }] =
 let y2:=bk [Ξ r0,bv r1,Ξ r2];br (A.lt t6 ↑(AP a0)) (unI t6 λi=>A4 a0 i λcs=>dk [.I,.B,.L,.N] [.l cs] λn _ _=>unI t6 λi2=>A4 a0 i2 λcs1=>dk [.I,.B,.L,.N] [.l cs1] λ_ b1 xs1=>
 Ah D (δ 122) [Φ [bv b1,Ξ xs1],Φ [bv i0,Ξ i1]] [] [.a,.B,.L,.N,.E] λb2 xs2=>br (AU (n5+1) 40) (br ((0+n5*3).ble c5.length)
 (let y1:=Ψ (AvI 0 (AvG (0+n5*3) c5)++[iv n,bv b2,Ξ xs2]) U U;AJ D (ι 281 0) [ψ 0 0,ψ 1 0,ψ 2 0,ψ 3 0,iv (A.add φ t6 1)] [bk [Ξ a0,bv a1,Ξ
 a2],bk [bv i0,Ξ i1],y2,bk [ν 4 0 (n5+1) 3,bv k1,Ξ k2],y1] λr3 o1=>AG 5 [0,1,2,3,6] (AH.mk [(2,y2),(1,bk [bv i0,Ξ i1]),(0,bk [Ξ a0,bv a1,Ξ a2]),(3,bk [ν 6 0 (n5+1) 3,
 bv k1,Ξ k2]),(6,y1),(5,Ψ [iv n,bv b2,Ξ xs2] U U)] 7 Δ) [4,3,0,1,2] r3 o1) Δ) Δ) (V (γ [iv 0,ψ 2 0,ψ 3 0],[BO.del,BO.del,AvH y2,AvH (bk [ν 5 0 n5 3,bv k1,
 Ξ k2]),BO.del,AvH (Ψ c5 U U)])):=by kernel_rfl
theorem At9(x0_0:Rw)(x0_1:Bool)(x0_2 x1_0:Rw)(x1_1:Bool)(x1_2:Rw):Bp A D Ak AlQ .n 272 Am9 [Φ [Ξ x0_0,bv x0_1,Ξ x0_2],Φ [Ξ x1_0,bv x1_1,Ξ x1_2]] [] =
 Ah D (δ 119) [iv (-1)] [] [.a,.B,.L,.N,.E] λb xs=>
 Ah D (δ 281) [Φ [Ξ x1_0,bv x1_1,Ξ x1_2],Φ [bv b,Ξ xs]] [] [.a,.L,.B,.L,.N,.E] λxs1 b1 xs2=>
 Ah D (δ 280) [Φ [Ξ x0_0,bv x0_1,Ξ x0_2],Φ [Ξ xs1,bv b1,Ξ xs2]] [] [.a,.L,.B,.L,.N,.E] λxs3 b2 xs4=>
 V ((Φ [Ξ xs3,bv b2,Ξ xs4],[])):=by kernel_rfl
theorem At8(x0_0:Bool)(x0_1:Rw):Bp A D Ak AlP .n 271 Am8 [Φ [bv x0_0,Ξ x0_1]] [] =
 Ah D (δ 179) [Φ [bv x0_0,Ξ x0_1]] [] [.a,.B,.L,.N,.E] λb xs=>
 V ((Φ [Ξ [],bv b,Ξ xs],[])):=by kernel_rfl
theorem AnZ(x0_0:Rw)(x0_1:Bool)(x0_2 x1_0:Rw)(x1_1:Bool)(x1_2:Rw):Bp A D Ak Lx .n 198 ZA [Φ [Ξ x0_0,bv x0_1,Ξ x0_2],Φ [Ξ x1_0,bv x1_1,Ξ x1_2]] [] =
 br (A.eq ↑(AP x0_0) ↑(AP x1_0))
 (Ah D (δ 238) [Φ [bv x0_1,Ξ x0_2],Φ [bv x1_1,Ξ x1_2]] [] [.b,.E] λb=>
 br b
 (Ah D (ι 198 0) [ψ 0 0,ψ 1 0,iv 0] [bk [Ξ x0_0,bv x0_1,Ξ x0_2],bk [Ξ x1_0,bv x1_1,Ξ x1_2]] [.t,.C,.x,.X,.Y] λc l o1=>
 br (AT 0 c)
 (dk [.B,.N,.D,.D,.E] [.l l,.o o1] λb1=>
 V ((bv b1,[])))
 (br (AT 1 c)
 (dk [.N,.D,.D,.E,.w] [.l l,.o o1] λ_=>
 V ((bv U,[])))
 (Δ)))
 (V ((bv Θ,[]))))
 (V ((bv Θ,[]))):=by kernel_rfl
theorem SY(b2_0:Rw)(b2_1:Bool)(b2_2 b3_0:Rw)(b3_1:Bool)(b3_2:Rw)(t5:Int):CT A D Ak Lx .n 198 0 (AI ZA 0).fst (AI ZA 0).snd [ψ 0 0,ψ 1 0,iv t5] [bk [Ξ b2_0,bv b2_1,Ξ b2_2],bk [Ξ b3_0,bv b3_1,Ξ b3_2]] =
 br (A.lt t5 ↑(AP b2_0)) (unI t5 λi=>A4 b2_0 i λcs=>dk [.I,.B,.L,.N] [.l cs] λn _ _=>unI t5 λi1=>A4 b3_0 i1 λcs1=>dk [.I,.B,.L,.N] [.l cs1] λn1 _ _=>
 let y1:=V (γ [bv U,bv Θ],[BO.del,BO.del]);br (A.eq n n1) (unI t5 λi2=>A4 b2_0 i2 λcs2=>dk [.I,.B,.L,.N] [.l cs2] λ_ b2 xs2=>unI t5 λi3=>A4 b3_0 i3 λcs3=>dk [.I,.B,.L,.N]
 [.l cs3] λ_ b3 xs3=>Ah D (δ 238) [Φ [bv b2,Ξ xs2],Φ [bv b3,Ξ xs3]] [] [.b,.E] λb4=>br b4 (AJ D (ι 198 0) [ψ 0 0,ψ 1 0,iv (A.add φ t5 1)] [bk [Ξ b2_0,bv
 b2_1,Ξ b2_2],bk [Ξ b3_0,bv b3_1,Ξ b3_2]] λr1 o1=>AG 2 [0,1] (AH.mk [(1,bk [Ξ b3_0,bv b3_1,Ξ b3_2]),(0,bk [Ξ b2_0,bv b2_1,Ξ b2_2])] 2 Δ) [0,1] r1 o1) y1) y1) (V (γ [iv
 0],[BO.del,BO.del])):=by kernel_rfl
end
section
open Go.RowKit
def Ams:MFn:=Bj [] 141
def AeK:Hnt:=⟨[(198,(.bool,[]))],[],[(6,[.bool]),(8,[.bool]),(12,BA),(14,BA)]⟩
def Amt:MFn:=Bj [] 142
def Ak7:Hnt:=⟨[],[],[]⟩
def Amv:MFn:=Bj [] 144
def Ak9:Hnt:=⟨[],[],[(4,[.int .i64]),(8,[.int .i64]),(12,[.ls]),(14,[.int .i64]),(18,[.ls]),(23,[.ls])]⟩
def Amu:MFn:=Bj [] 143
def Ak8:Hnt:=⟨[(199,(.agg BA,[]))],[],[(4,BA),(7,[.bool])]⟩
def AiV:MFn:=Bj [⟨43,(mB 60),[(6000003,6)],[2],[(2,((mB 12),([],[])))]⟩] 83
def AeZ:Hnt:=⟨[(83,(.agg BS,[])),(142,(.agg BS,[])),(143,(.agg BS,[])),(144,(.ls,[]))],[(0,[(2,([.ptr 0 0,.ptr 1 0],[.box BS,.box [.int .i64,.cst (.slice Δ 0 0),.bool,.cst (.slice Δ 0 0),.bool,.sl 3 6],.del,.row U]))])],[(7,[.int .i64]),(14,Mj),(21,[.int .i64]),(23,BS),(32,[.ls]),(35,BS),(36,BS),(41,BS)]⟩
def AiU:MFn:=Bj [⟨52,(mB 44),[],[2,3],[(0,((mB 16),([],[2,3]))),(1,([],([],[2,3])))]⟩] 82
def Vi:Hnt:=⟨[(82,(.bool,[])),(141,(.bool,[]))],[(0,[(0,([.bool],[.del,.del])),(1,([],[.del,.del]))])],[(7,[.int .i64]),(9,[.int .i64]),(13,[.ls]),(16,[.ls]),(22,[.int .i64]),(26,Mj),(28,Mj),(35,[.ls]),(41,[.ls]),(43,BS),(44,BS),(46,[.ls]),(48,BS),(49,BS)]⟩
def Qs:List (Nat × MFn):=[(141,Ams),(142,Amt),(144,Amv),(143,Amu),(83,AiV),(82,AiU)]
variable (A:Ar) (D:Orc)
theorem Ap7(x0_0:Rw)(x0_1:Bool)(x0_2:Rw)(x0_3:Bool)(x1_0:Rw)(x1_1:Bool)(x1_2:Rw)(x1_3:Bool):Bp A D Ak AeK .n 141 Ams [Φ [Ξ x0_0,bv x0_1,Ξ x0_2,bv x0_3],Φ [Ξ x1_0,bv x1_1,Ξ x1_2,bv x1_3]] [] =
 br (A.beq x0_3 x1_3)
 (Ah D (δ 198) [Φ [Ξ x0_0,bv x0_1,Ξ x0_2],Φ [Ξ x1_0,bv x1_1,Ξ x1_2]] [] [.b,.E] λb=>
 br b
 (V ((bv U,[])))
 (V ((bv Θ,[]))))
 (V ((bv Θ,[]))):=by kernel_rfl
theorem AsV(x0:Bool):Bp A D Ak Ak7 .n 142 Amt [bv x0] [] =
 br x0
 (V ((Φ [iv 0,Ξ [],bv Θ,Ξ [],bv Θ,Ξ []],[])))
 (V ((Φ [iv 1,Ξ [],bv Θ,Ξ [],bv Θ,Ξ []],[]))):=by kernel_rfl
theorem AsX(x0_0:Int)(x0_1:Rw)(x0_2:Bool)(x0_3:Rw)(x0_4:Bool)(x0_5:Rw):Bp A D Ak Ak9 .n 144 Amv [Φ [iv x0_0,Ξ x0_1,bv x0_2,Ξ x0_3,bv x0_4,Ξ x0_5]] [] =
 br (A.eq x0_0 4)
 (V ((Ξ x0_5,[])))
 (br (A.eq x0_0 5)
 (V ((Ξ x0_5,[])))
 (br (A.eq x0_0 3)
 (br (A.lt 0 ↑(AP x0_5))
 (br (J1 0 1 (AP x0_5)) (br (GH 6 x0_5) (V ((Ξ (IS (Jo x0_5 1) 0),[]))) Δ) Δ)
 (V ((Ξ [],[]))))
 (V ((Ξ [],[]))))):=by kernel_rfl
theorem AsW(x0_0:Rw)(x0_1:Bool)(x0_2:Rw)(x0_3:Bool):Bp A D Ak Ak8 .n 143 Amu [Φ [Ξ x0_0,bv x0_1,Ξ x0_2,bv x0_3]] [] =
 Ah D (δ 199) [Φ [Ξ x0_0,bv x0_1,Ξ x0_2]] [] [.a,.L,.B,.L,.N,.E] λxs b xs1=>
 V ((Φ [iv 2,Ξ xs,bv b,Ξ xs1,bv x0_3,Ξ []],[])):=by kernel_rfl
theorem e83(x0_0:Int)(x0_1:Rw)(x0_2:Bool)(x0_3:Rw)(x0_4:Bool)(x0_5:Rw):Bp A D Ak AeZ .n 83 AiV [Φ [iv x0_0,Ξ x0_1,bv x0_2,Ξ x0_3,bv x0_4,Ξ x0_5]] [] =
 let y2:=λz1 z2 z3 z4 z5 z6=>V (Φ [iv z1,Ξ z2,bv z3,Ξ z4,bv z5,Ξ z6],[]);br (A.eq x0_0 0) (Ah D (δ 142) [bv U] [] [.a,.I,.L,.B,.L,.B,.L,.N,.E] y2) (br (A.eq x0_0 2) (Ah D
 (δ 143) [Φ [Ξ x0_1,bv x0_2,Ξ x0_3,bv x0_4]] [] [.a,.I,.L,.B,.L,.B,.L,.N,.E] y2)
 (let y1:=Ah D (δ 144) [Φ [iv x0_0,Ξ x0_1,bv x0_2,Ξ x0_3,bv x0_4,Ξ x0_5]] [] [.l,.E] λxs=>Ah D (ι 83 0) [ψ 0 0,ψ 1 0,Ξ xs,iv 0] [bk [iv 0,Ξ [],bv Θ,Ξ [],bv Θ,Ξ []],bk [iv x0_0,AvM (Value.slice Δ 0 0),bv Θ,AvM (Value.slice Δ 0 0),bv Θ,ν 2 0 0 6],Ψ [] U U] [.t,.C,.x,.X,.Y] λc l o1=>br (AT 2 c) (dk [.P 0 0,.P 1 0,.N,.T,.I,.L,.B,.L,.B,.L,.N,.T,.I,.C,.c (Value.slice Δ 0 0),.B,.C,.c (Value.slice Δ 0 0),.B,.C,.q 3 6,.N,.D,.R,.X,.E] [.l l,.o o1] λ_ _ _ _ _ _ n1 b2 b3 n2 cs3=>br ((0+n2*6).ble cs3.length) (V (Φ [iv n1,Ξ [],bv b2,Ξ [],bv b3,Ξ (Bo n2 6 (AvG (n2*6) cs3))],[])) Δ) Δ;
 br (A.eq x0_0 3) y1 (br (A.eq x0_0 4) y1 (br (A.eq x0_0 5) y1 (Ah D (δ 142) [bv Θ] [] [.a,.I,.L,.B,.L,.B,.L,.N,.E] y2))))):=by kernel_rfl
theorem AkG(r0:Int)(r1:Rw)(r2:Bool)(r3:Rw)(r4:Bool)(r5:Rw)(k0:Int)(k2 k4:Bool)(n3:Nat)(c3:Ab)(t4:Rw)(t5:Int):CT A D Ak AeZ .n 83 0 (AI AiV 0).fst (AI AiV 0).snd [ψ 0 0,ψ 1 0,Ξ t4,iv t5] [bk [iv r0,Ξ r1,bv r2,Ξ r3,bv r4,Ξ r5],bk [iv k0,AvM (Value.slice Δ 0 0),bv k2,AvM (Value.slice Δ 0 0),bv k4,ν 2 0 n3 6],{ cells:=c3,st:=U,ex:=U }] =
 let y1:=bk [iv r0,Ξ r1,bv r2,Ξ r3,bv r4,Ξ r5];br (A.lt t5 ↑(AP t4)) (unI t5 λi=>A4 t4 i λcs=>dk [.I,.L,.B,.L,.B,.L,.N] [.l cs] λn xs b xs1 b1 xs2=>Ah D (δ 83) [Φ [iv n,
 Ξ xs,bv b,Ξ xs1,bv b1,Ξ xs2]] [] [.a,.I,.L,.B,.L,.B,.L,.N,.E] λn1 xs3 b2 xs4 b3 xs5=>br (AU (n3+1) 96) (br ((0+n3*6).ble c3.length)
 (let y2:=Ψ (AvI 0 (AvG (0+n3*6) c3)++[iv n1,Ξ xs3,bv b2,Ξ xs4,bv b3,Ξ xs5]) U U;AJ D (ι 83 0) [ψ 0 0,ψ 1 0,Ξ t4,iv (A.add φ t5 1)] [y1,bk [iv
 k0,AvM (Value.slice Δ 0 0),bv k2,AvM (Value.slice Δ 0 0),bv k4,ν 2 0 (n3+1) 6],y2] λr6 o1=>AG 3 [0,1,4] (AH.mk [(0,y1),(1,bk [iv k0,AvM (Value.slice Δ 0 0),bv k2,AvM (Value.slice Δ 0
 0),bv k4,ν 4 0 (n3+1) 6]),(4,y2),(3,Ψ [iv n1,Ξ xs3,bv b2,Ξ xs4,bv b3,Ξ xs5] U U)] 5 Δ) [2,1,0] r6 o1) Δ) Δ) (V (γ [iv 1,ψ 0 0,ψ 1 0],[AvH y1,AvH (bk
 [iv k0,AvM (Value.slice Δ 0 0),bv k2,AvM (Value.slice Δ 0 0),bv k4,ν 3 0 n3 6]),BO.del,AvH (Ψ c3 U U)])):=by kernel_rfl
theorem e82(x0_0:Int)(x0_1:Rw)(x0_2:Bool)(x0_3:Rw)(x0_4:Bool)(x0_5:Rw)(x1_0:Int)(x1_1:Rw)(x1_2:Bool)(x1_3:Rw)(x1_4:Bool)(x1_5:Rw):Bp A D Ak Vi .n 82 AiU [Φ [iv x0_0,Ξ x0_1,bv x0_2,Ξ x0_3,bv x0_4,Ξ x0_5],Φ [iv x1_0,Ξ x1_1,bv x1_2,Ξ x1_3,bv x1_4,Ξ x1_5]] [] =
 br (A.eq x0_0 x1_0) (br (A.eq ↑(AP x0_5) ↑(AP x1_5))
 (let y1:=Ah D (ι 82 0) [ψ 0 0,ψ 1 0,iv 0] [bk [iv x0_0,Ξ x0_1,bv x0_2,Ξ x0_3,bv x0_4,Ξ x0_5],bk [iv x1_0,Ξ x1_1,bv x1_2,Ξ x1_3,bv x1_4,Ξ x1_5]] [.t,.C,.x,.X,.Y] λc l o1=>br (AT 0 c) (dk [.B,.N,.D,.D,.E] [.l l,.o o1] λb1=>V (bv b1,[])) (br (AT 1 c) (dk [.N,.D,.D,.E,.w] [.l l,.o o1] λ_=>V (bv U,[])) Δ);
 br (A.eq x0_0 2) (Ah D (δ 141) [Φ [Ξ x0_1,bv x0_2,Ξ x0_3,bv x0_4],Φ [Ξ x1_1,bv x1_2,Ξ x1_3,bv x1_4]] [] [.b,.E] λb=>br b y1 (V (bv Θ,[]))) y1) (V (bv Θ,[]))) (V
 (bv Θ,[])):=by kernel_rfl
theorem AkF(b2_0:Int)(b2_1:Rw)(b2_2:Bool)(b2_3:Rw)(b2_4:Bool)(b2_5:Rw)(b3_0:Int)(b3_1:Rw)(b3_2:Bool)(b3_3:Rw)(b3_4:Bool)(b3_5:Rw)(t5:Int):CT A D Ak Vi .n 82 0 (AI AiU 0).fst (AI AiU 0).snd [ψ 0 0,ψ 1 0,iv t5] [bk [iv b2_0,Ξ b2_1,bv b2_2,Ξ b2_3,bv b2_4,Ξ b2_5],bk [iv b3_0,Ξ b3_1,bv b3_2,Ξ b3_3,bv b3_4,Ξ b3_5]] =
 br (A.lt t5 ↑(AP b2_5)) (unI t5 λi=>A4 b2_5 i λcs=>dk [.I,.L,.B,.L,.B,.L,.N] [.l cs] λn xs b xs1 b1 xs2=>unI t5 λi1=>A4 b3_5 i1 λcs1=>dk [.I,.L,.B,.L,.B,.L,.N] [.l cs1] λn1 xs3 b2 xs4
 b3 xs5=>Ah D (δ 82) [Φ [iv n,Ξ xs,bv b,Ξ xs1,bv b1,Ξ xs2],Φ [iv n1,Ξ xs3,bv b2,Ξ xs4,bv b3,Ξ xs5]] [] [.b,.E] λb4=>br b4
 (let y1:=bk [iv b2_0,Ξ b2_1,bv b2_2,Ξ b2_3,bv b2_4,Ξ b2_5];let y2:=bk [iv b3_0,Ξ b3_1,bv b3_2,Ξ b3_3,bv b3_4,Ξ b3_5];AJ D (ι 82 0) [ψ 0 0,ψ 1 0,iv (A.add φ t5
 1)] [y1,y2] λr1 o1=>AG 2 [0,1] (AH.mk [(1,y2),(0,y1)] 2 Δ) [0,1] r1 o1) (V (γ [bv U,bv Θ],[BO.del,BO.del]))) (V (γ [iv 0],[BO.del,BO.del])):=by kernel_rfl
end
section
open Go.RowKit
def Art:MFn:=Bj [] 41
def AqC:Hnt:=⟨[(82,(.bool,[])),(83,(.agg BS,[]))],[],[(6,[.bool]),(8,[.bool]),(12,[.int .i64]),(14,[.int .i64]),(19,[.int .i64]),(21,[.int .i64]),(26,BS),(29,BS)]⟩
def Ag5:List (Nat × MFn):=[(41,Art)]
variable (A:Ar) (D:Orc)
theorem e41(x0_0:Bool)(x0_1 x0_2 x0_3:Int)(x0_4:Rw)(x0_5:Bool)(x0_6:Rw)(x0_7:Bool)(x0_8:Rw)(x1_0:Bool)(x1_1 x1_2 x1_3:Int)(x1_4:Rw)(x1_5:Bool)(x1_6:Rw)(x1_7:Bool)(x1_8:Rw):Bp A D Ak AqC .n 41 Art [Φ [bv x0_0,iv x0_1,iv x0_2,iv x0_3,Ξ x0_4,bv x0_5,Ξ x0_6,bv x0_7,Ξ x0_8],Φ [bv x1_0,iv x1_1,iv x1_2,iv x1_3,Ξ x1_4,bv x1_5,Ξ x1_6,bv x1_7,Ξ x1_8]] [] =
 let y1:=V (bv Θ,[]);br (A.beq x0_0 x1_0) (br (A.eq x0_1 x1_1) (br (A.eq x0_2 x1_2) (Ah D (δ 83) [Φ [iv x0_3,Ξ x0_4,bv x0_5,Ξ x0_6,bv x0_7,Ξ x0_8]] [] [.a,.I,.L,.B,.L,.B,.L,.N,.E]
 λn xs b xs1 b1 xs2=>Ah D (δ 83) [Φ [iv x1_3,Ξ x1_4,bv x1_5,Ξ x1_6,bv x1_7,Ξ x1_8]] [] [.a,.I,.L,.B,.L,.B,.L,.N,.E] λn1 xs3 b2 xs4 b3 xs5=>Ah D (δ 82) [Φ [iv n,Ξ xs,
 bv b,Ξ xs1,bv b1,Ξ xs2],Φ [iv n1,Ξ xs3,bv b2,Ξ xs4,bv b3,Ξ xs5]] [] [.b,.E] λb4=>br b4 (V (bv U,[])) y1) y1) y1) y1:=by kernel_rfl
end
