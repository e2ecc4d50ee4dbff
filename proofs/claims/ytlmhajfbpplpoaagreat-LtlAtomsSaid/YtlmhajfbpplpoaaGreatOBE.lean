/- Functions of the program -/
import Derived.Test.YtlmhajfbpplpoaaGreatOAS
set_option linter.all false
open List renaming drop->Apx,take->ο
namespace Go.Proofs.YtlmhajfbpplpoaaGreat
noncomputable section
open ABlk renaming mk->Δ
open AV renaming agg->Ξ,fn->ApE,ls->V,ptr->η,sl->ζ,tup->ψ,v->ApB
open BO renaming set->γ
open IntKind renaming i64->U
open Key renaming fn->Ω,lp->ι
open Tryz renaming prog->φ
open Go.RowKit
def E0:List (Nat × Nat):=[(72,0),(129,0),(130,0),(188,0),(189,0)]
def Ah1:MFn:=Bm [] 191
def AgX:Hnt:=⟨[(233,(.bool,[]))],[],[(6,[.bool]),(8,[.bool]),(12,[.int .i64]),(14,[.int .i64]),(19,[.int .i64]),(21,[.int .i64]),(26,[.int .i64,.ls,.bool,.ls,.bool,.ls]),(28,[.int .i64,.ls,.bool,.ls,.bool,.ls])]⟩
def Ah0:MFn:=Bm [] 190
def AgW:Hnt:=⟨[(191,(.bool,[]))],[],[(4,[.bool,.int .i64,.int .i64,.int .i64,.ls,.bool,.ls,.bool,.ls]),(5,[.bool,.int .i64,.int .i64,.int .i64,.ls,.bool,.ls,.bool,.ls])]⟩
def Alu:A3:=[⟨19,[true,true,false,false,false,false,false,true,true],[],[],[(0,([true,false,false,false,true],([],[1000000]))),(1,([true],([],[1000000])))]⟩]
def NW:MFn:=Bm Alu 189
def Sv:Hnt:=⟨[(190,(.bool,[.keep]))],[(0,[(0,([.sl 0 9,.int .i64],[.row true,.keep])),(1,([.sl 0 9],[.row true,.keep]))])],[(14,[.bool,.int .i64,.int .i64,.int .i64,.ls,.bool,.ls,.bool,.ls]),(15,[.bool,.int .i64,.int .i64,.int .i64,.ls,.bool,.ls,.bool,.ls])]⟩
def Q5:Hnt:=⟨[(190,(.bool,[.keep]))],[(0,[(0,([.cst (.slice none 0 0),.int .i64],[.keep])),(1,([.cst (.slice none 0 0)],[.keep]))])],[(14,[.bool,.int .i64,.int .i64,.int .i64,.ls,.bool,.ls,.bool,.ls]),(15,[.bool,.int .i64,.int .i64,.int .i64,.ls,.bool,.ls,.bool,.ls])]⟩
def Abn:MFn:=MF φ Bb [] false true 130
def AaQ:Hnt:=⟨[(189,(.int .i64,[.row true,.keep]))],[],[(9,[.ls]),(17,[.ls]),(23,[.ls]),(24,[.bool,.int .i64,.int .i64,.int .i64,.ls,.bool,.ls,.bool,.ls])]⟩
def AaP:Hnt:=⟨[(189,(.int .i64,[.keep]))],[],[(9,[.ls]),(17,[.ls]),(23,[.ls]),(24,[.bool,.int .i64,.int .i64,.int .i64,.ls,.bool,.ls,.bool,.ls])]⟩
def Abo:MFn:=Bm [] 188
def VZ:Hnt:=⟨[(88,(.int .i64,[])),(232,(.ls,[]))],[],[(11,[.ls,.ls,.int .i64,.ls,.bool,.ls,.bool,.ls,.ls,.ls]),(14,[.str]),(23,[.ls]),(25,[.str,.ls,.ls]),(27,[.ls]),(29,[.str])]⟩
def Abm:MFn:=Bm [] 129
def AaO:Hnt:=⟨[(27,(.tup [.agg [.int .i64,.ls,.bool,.ls,.bool,.ls],.bool],[])),(188,(.tup [.agg [.bool,.int .i64,.int .i64,.int .i64,.ls,.bool,.ls,.bool,.ls],.bool],[.keep,.keep]))],[],[(9,[.int .i64]),(12,[.int .i64,.ls,.ls,.int .i64,.str,.str,.ls]),(17,[.int .i64,.ls,.ls,.int .i64,.str,.str,.ls]),(22,[.ls]),(26,[.int .i64,.ls,.bool,.ls,.bool,.ls])]⟩
def AaN:Hnt:=⟨[(27,(.tup [.agg [.int .i64,.ls,.bool,.ls,.bool,.ls],.bool],[])),(188,(.tup [.agg [.bool,.int .i64,.int .i64,.int .i64,.ls,.bool,.ls,.bool,.ls],.bool],[.keep]))],[],[(9,[.int .i64]),(12,[.int .i64,.ls,.ls,.int .i64,.str,.str,.ls]),(17,[.int .i64,.ls,.ls,.int .i64,.str,.str,.ls]),(22,[.ls]),(26,[.int .i64,.ls,.bool,.ls,.bool,.ls])]⟩
def AoL:A3:=[⟨61,[true,false,false,false,true,false,false,false,true,false,false,false,false,false,false,false,false,false,false,false,false,false,false,false,false,false,false,false,false,false,false,false,false,false,false,false,false,false,true,true,true],[(11000000,9),(3000008,3)],[4],[(0,([true,false,false,false,true,true],([4],[3000008,8,1000000]))),(1,([true,false,false,false,true,false,false,false,true],([],[1000000])))]⟩]
def Abp:MFn:=MF φ Bb AoL false true 72
def SH:Hnt:=⟨[(72,(.tup [.agg [.int .i64,.int .i64,.ls],.bool],[.box [.ls,.ls,.int .i64,.ls,.bool,.ls,.bool,.ls,.ls,.ls,.sl 2 9],.del,.row true])),(129,(.tup [.agg [.bool,.int .i64,.int .i64,.int .i64,.ls,.bool,.ls,.bool,.ls],.bool],[.keep,.keep])),(130,(.int .i64,[.box [.ls,.ls,.int .i64,.ls,.bool,.ls,.bool,.ls,.ls,.ls,.sl 2 9],.del,.row true]))],[(0,[(0,([.ptr 0 0,.ptr 1 0,.bool],[.box [.ls,.ls,.int .i64,.ls,.bool,.ls,.bool,.ls,.ls,.ls,.sl 5 9],.box [.int .i64,.int .i64,.ls],.del,.del,.del,.row true])),(1,([.ptr 0 0,.ptr 1 0,.ptr 2 0],[.box [.ls,.ls,.int .i64,.ls,.bool,.ls,.bool,.ls,.ls,.ls,.sl 5 9],.box [.int .i64,.int .i64,.ls],.box [.int .i64,.int .i64,.sl 6 3],.del,.del,.row true,.row true]))])],[(14,[.int .i64]),(18,[.int .i64]),(23,[.int .i64,.ls,.ls,.int .i64,.str,.str,.ls]),(31,[.bool,.int .i64,.int .i64,.int .i64,.ls,.bool,.ls,.bool,.ls]),(35,[.int .i64]),(38,[.ls]),(42,[.int .i64,.ls,.ls,.int .i64,.str,.str,.ls]),(43,[.int .i64,.ls,.ls,.int .i64,.str,.str,.ls]),(46,[.int .i64,.ls,.ls,.int .i64,.str,.str,.ls]),(54,[.ls]),(55,[.int .i64,.int .i64,.ls]),(60,[.int .i64,.int .i64,.ls])]⟩
def Ahl:Hnt:=⟨[(72,(.tup [.agg [.int .i64,.int .i64,.ls],.bool],[.box [.ls,.ls,.int .i64,.ls,.bool,.ls,.bool,.ls,.ls,.ls,.sl 2 9],.del,.row true])),(129,(.tup [.agg [.bool,.int .i64,.int .i64,.int .i64,.ls,.bool,.ls,.bool,.ls],.bool],[.keep])),(130,(.int .i64,[.box [.ls,.ls,.int .i64,.ls,.bool,.ls,.bool,.ls,.ls,.ls,.sl 1 9],.row true]))],[(0,[(0,([.ptr 0 0,.ptr 1 0,.bool],[.box [.ls,.ls,.int .i64,.ls,.bool,.ls,.bool,.ls,.ls,.ls,.sl 5 9],.box [.int .i64,.int .i64,.ls],.del,.del,.del,.row true])),(1,([.ptr 0 0,.ptr 1 0,.ptr 2 0],[.box [.ls,.ls,.int .i64,.ls,.bool,.ls,.bool,.ls,.ls,.ls,.sl 5 9],.box [.int .i64,.int .i64,.ls],.box [.int .i64,.int .i64,.sl 6 3],.del,.del,.row true,.row true]))])],[(14,[.int .i64]),(18,[.int .i64]),(23,[.int .i64,.ls,.ls,.int .i64,.str,.str,.ls]),(31,[.bool,.int .i64,.int .i64,.int .i64,.ls,.bool,.ls,.bool,.ls]),(35,[.int .i64]),(38,[.ls]),(42,[.int .i64,.ls,.ls,.int .i64,.str,.str,.ls]),(43,[.int .i64,.ls,.ls,.int .i64,.str,.str,.ls]),(46,[.int .i64,.ls,.ls,.int .i64,.str,.str,.ls]),(54,[.ls]),(55,[.int .i64,.int .i64,.ls]),(60,[.int .i64,.int .i64,.ls])]⟩
def Ajt:MFn:=Bm [] 34
def Ak0:Hnt:=⟨[(36,(.bool,[])),(72,(.tup [.agg [.int .i64,.int .i64,.ls],.bool],[.box [.ls,.ls,.int .i64,.ls,.bool,.ls,.bool,.ls,.ls,.ls,.sl 1 9],.row true]))],[],[(10,[.ls,.ls,.int .i64,.ls,.bool,.ls,.bool,.ls,.ls,.ls]),(13,[.int .i64,.ls,.ls,.int .i64,.str,.str,.ls]),(19,[.int .i64,.ls,.ls,.int .i64,.str,.str,.ls]),(26,[.int .i64,.int .i64,.ls]),(30,[.ls])]⟩
def Ahk:Hnt:=⟨[(36,(.bool,[])),(72,(.tup [.agg [.int .i64,.int .i64,.ls],.bool],[.box [.ls,.ls,.int .i64,.ls,.bool,.ls,.bool,.ls,.ls,.ls,.cst (.slice none 0 0)]]))],[],[(10,[.ls,.ls,.int .i64,.ls,.bool,.ls,.bool,.ls,.ls,.ls]),(13,[.int .i64,.ls,.ls,.int .i64,.str,.str,.ls]),(19,[.int .i64,.ls,.ls,.int .i64,.str,.str,.ls]),(26,[.int .i64,.int .i64,.ls]),(30,[.ls])]⟩
def OC:List (Nat × MFn):=[(191,Ah1),(190,Ah0),(189,NW),(130,Abn),(188,Abo),(129,Abm),(72,Abp),(34,Ajt)]
variable (A:Ar) (D:Orc)
theorem AnL(x0_0:Bool)(x0_1 x0_2 x0_3:Int)(x0_4:Rw)(x0_5:Bool)(x0_6:Rw)(x0_7:Bool)(x0_8:Rw)(x1_0:Bool)(x1_1 x1_2 x1_3:Int)(x1_4:Rw)(x1_5:Bool)(x1_6:Rw)(x1_7:Bool)(x1_8:Rw):By A D E0 AgX .n 191 Ah1 [Ξ [bv x0_0,iv x0_1,iv x0_2,iv x0_3,V x0_4,bv x0_5,V x0_6,bv x0_7,V x0_8],Ξ [bv x1_0,iv x1_1,iv x1_2,iv x1_3,V x1_4,bv x1_5,V x1_6,bv x1_7,V x1_8]] [] =
 br (A.beq x0_0 x1_0)
 (br (A.eq x0_1 x1_1)
 (br (A.eq x0_2 x1_2)
 (Ad D (Ω 233) [Ξ [iv x0_3,V x0_4,bv x0_5,V x0_6,bv x0_7,V x0_8],Ξ [iv x1_3,V x1_4,bv x1_5,V x1_6,bv x1_7,V x1_8]] [] [.b,.E] λb=>
 br b
 (some ((bv true,[])))
 (some ((bv false,[]))))
 (some ((bv false,[]))))
 (some ((bv false,[]))))
 (some ((bv false,[]))):=by kernel_rfl
theorem AnK(y1:Bool)(y2 y3 y4:Int)(y5:Rw)(y6:Bool)(y7:Rw)(y8:Bool)(y9:Rw)(x1:Bool)(x2 x3 x4:Int)(x5:Rw)(x6:Bool)(x7:Rw)(x8:Bool)(x9:Rw):By A D E0 AgW .n 190 Ah0 [Ξ [bv y1,iv y2,iv y3,iv y4,V y5,bv y6,V y7,bv y8,V y9],η 0 0] [bk [bv x1,iv x2,iv x3,iv x4,V x5,bv x6,V x7,bv x8,V x9]] =
 Ad D (Ω 191) [Ξ [bv x1,iv x2,iv x3,iv x4,V x5,bv x6,V x7,bv x8,V x9],Ξ [bv y1,iv y2,iv y3,iv y4,V y5,bv y6,V y7,bv y8,V y9]] [] [.b,.E] λb=>
 br b
 (some ((bv true,[BO.keep])))
 (some ((bv false,[BO.keep]))):=by kernel_rfl
theorem AkN(n0:Nat)(c0:List AV)(x1:Bool)(x2 x3 x4:Int)(x5:Rw)(x6:Bool)(x7:Rw)(x8:Bool)(x9:Rw):By A D E0 Sv .n 189 NW [ζ 0 0 n0 9,ApE (Fn.func 190) [] [η 1 0]] [{ cells:=c0,st:=true,ex:=true },bk [bv x1,iv x2,iv x3,iv x4,V x5,bv x6,V x7,bv x8,V x9]] =
 Ad D (ι 189 0) [ζ 0 0 n0 9,ApE (Fn.func 190) [] [η 1 0],iv ↑n0,iv 0] [Δ c0 true true,bk [bv x1,iv x2,iv x3,iv x4,V x5,bv x6,V x7,bv x8,V x9]] [.t,.C,.x,.X,.Y] λc l o=>
 br (A9 0 c)
 (dk [.C,.q 0 9,.I,.N,.R,.X,.K,.E] [.l l,.o o] λ_ n1 cs1=>
 some ((iv n1,[γ (Δ cs1 true true),BO.keep])))
 (br (A9 1 c)
 (dk [.C,.q 0 9,.N,.R,.X,.K,.E] [.l l,.o o] λ_ cs1=>
 some ((iv (-1),[γ (Δ cs1 true true),BO.keep])))
 (none)):=by kernel_rfl
theorem VT(n0:Nat)(c0:List AV)(x1:Bool)(x2 x3 x4:Int)(x5:Rw)(x6:Bool)(x7:Rw)(x8:Bool)(x9:Rw)(t7 t8:Int):Di A D E0 Sv .n 189 0 (AL NW 0).fst (AL NW 0).snd [ζ 0 0 n0 9,ApE (Fn.func 190) [] [η 1 0],iv t7,iv t8] [{ cells:=c0,st:=true,ex:=true },bk [bv x1,iv x2,iv x3,iv x4,V x5,bv x6,V x7,bv x8,V x9]] =
 br (A.lt t8 t7)
 (unI t8 λi=>
 br (i.blt n0) (IE c0 (0+i*9) 9 λcs=>
 dk [.B,.I,.I,.I,.L,.B,.L,.B,.L,.N] [.l cs] λb n n1 n2 xs b1 xs1 b2 xs2=>
 Ad D (Ω 190) [Ξ [bv b,iv n,iv n1,iv n2,V xs,bv b1,V xs1,bv b2,V xs2],η 0 0] [bk [bv x1,iv x2,iv x3,iv x4,V x5,bv x6,V x7,bv x8,V x9]] [.b,.K,.E] λb3=>
 br b3
 (some ((ψ [bv true,ζ 0 0 n0 9,iv t8],[γ (Δ c0 true true),BO.keep])))
 (AE D (ι 189 0) [ζ 0 0 n0 9,ApE (Fn.func 190) [] [η 1 0],iv t7,iv (A.add U t8 1)] [Δ c0 true true,bk [bv x1,iv x2,iv x3,iv x4,V x5,bv x6,V x7,bv x8,V x9]] λr1 o1=>
 AD 2 [0,1] (AH.mk [(0,Δ c0 true true),(1,bk [bv x1,iv x2,iv x3,iv x4,V x5,bv x6,V x7,bv x8,V x9])] 2 none) [] r1 o1)) none)
 (some ((ψ [iv 0,ζ 0 0 n0 9],[γ (Δ c0 true true),BO.keep]))):=by kernel_rfl
theorem AkM(x1:Bool)(x2 x3 x4:Int)(x5:Rw)(x6:Bool)(x7:Rw)(x8:Bool)(x9:Rw):By A D E0 Q5 .n 189 NW [ApB (Value.slice none 0 0),ApE (Fn.func 190) [] [η 0 0]] [bk [bv x1,iv x2,iv x3,iv x4,V x5,bv x6,V x7,bv x8,V x9]] =
 Ad D (ι 189 0) [ApB (Value.slice none 0 0),ApE (Fn.func 190) [] [η 0 0],iv 0,iv 0] [bk [bv x1,iv x2,iv x3,iv x4,V x5,bv x6,V x7,bv x8,V x9]] [.t,.C,.x,.X,.Y] λc l o=>
 br (A9 0 c)
 (dk [.C,.c (Value.slice none 0 0),.I,.N,.K,.E] [.l l,.o o] λn=>
 some ((iv n,[BO.keep])))
 (br (A9 1 c)
 (dk [.C,.c (Value.slice none 0 0),.N,.K,.E,.w] [.l l,.o o] λ_=>
 some ((iv (-1),[BO.keep])))
 (none)):=by kernel_rfl
theorem AdU(x1:Bool)(x2 x3 x4:Int)(x5:Rw)(x6:Bool)(x7:Rw)(x8:Bool)(x9:Rw)(t7 t8:Int):Di A D E0 Q5 .n 189 0 (AL NW 0).fst (AL NW 0).snd [ApB (Value.slice none 0 0),ApE (Fn.func 190) [] [η 0 0],iv t7,iv t8] [bk [bv x1,iv x2,iv x3,iv x4,V x5,bv x6,V x7,bv x8,V x9]] =
 br (A.lt t8 t7)
 (unI t8 λ_=>
 none)
 (some ((ψ [iv 0,ApB (Value.slice none 0 0)],[BO.keep]))):=by kernel_rfl
theorem AkI(s1 s2:Rw)(s3:Int)(s4:Rw)(s5:Bool)(s6:Rw)(s7:Bool)(s8 s9 s10:Rw)(n0:Nat)(c0:List AV)(x1:Bool)(x2 x3 x4:Int)(x5:Rw)(x6:Bool)(x7:Rw)(x8:Bool)(x9:Rw):By A D E0 AaQ .n 130 Abn [η 0 0,Ξ [bv x1,iv x2,iv x3,iv x4,V x5,bv x6,V x7,bv x8,V x9]] [bk [V s1,V s2,iv s3,V s4,bv s5,V s6,bv s7,V s8,V s9,V s10,ζ 1 0 n0 9],{ cells:=c0,st:=true,ex:=true }] =
 Ad D (Ω 189) [ζ 0 0 n0 9,ApE (Fn.func 190) [] [η 1 0]] [Δ c0 true true,bk [bv x1,iv x2,iv x3,iv x4,V x5,bv x6,V x7,bv x8,V x9]] [.i,.R,.X,.K,.E] λn cs=>
 br (A.lt n 0)
 (br (Bf (n0+1) 120) (br ((0+n0*9).ble cs.length) (some ((iv ↑n0,[γ (bk [V s1,V s2,iv s3,V s4,bv s5,V s6,bv s7,V s8,V s9,V s10,ζ 2 0 (n0+1) 9]),BO.del,γ (Δ (Apx 0 (ο (0+n0*9) cs)++[bv x1,iv x2,iv x3,iv x4,V x5,bv x6,V x7,bv x8,V x9]) true true)]))) none) none)
 (some ((iv n,[γ (bk [V s1,V s2,iv s3,V s4,bv s5,V s6,bv s7,V s8,V s9,V s10,ζ 2 0 n0 9]),BO.del,γ (Δ cs true true)]))):=by kernel_rfl
theorem AkH(s1 s2:Rw)(s3:Int)(s4:Rw)(s5:Bool)(s6:Rw)(s7:Bool)(s8 s9 s10:Rw)(x1:Bool)(x2 x3 x4:Int)(x5:Rw)(x6:Bool)(x7:Rw)(x8:Bool)(x9:Rw):By A D E0 AaP .n 130 Abn [η 0 0,Ξ [bv x1,iv x2,iv x3,iv x4,V x5,bv x6,V x7,bv x8,V x9]] [bk [V s1,V s2,iv s3,V s4,bv s5,V s6,bv s7,V s8,V s9,V s10,ApB (Value.slice none 0 0)]] =
 Ad D (Ω 189) [ApB (Value.slice none 0 0),ApE (Fn.func 190) [] [η 0 0]] [bk [bv x1,iv x2,iv x3,iv x4,V x5,bv x6,V x7,bv x8,V x9]] [.i,.K,.E] λn=>
 br (A.lt n 0)
 (some ((iv 0,[γ (bk [V s1,V s2,iv s3,V s4,bv s5,V s6,bv s7,V s8,V s9,V s10,ζ 1 0 1 9]),γ (Δ [bv x1,iv x2,iv x3,iv x4,V x5,bv x6,V x7,bv x8,V x9] true true)])))
 (some ((iv n,[γ (bk [V s1,V s2,iv s3,V s4,bv s5,V s6,bv s7,V s8,V s9,V s10,ApB (Value.slice none 0 0)])]))):=by kernel_rfl
theorem AkL(s1 s2:Rw)(s3:Int)(s4:Rw)(s5:Bool)(s6:Rw)(s7:Bool)(s8 s9 s10:Rw)(n0:Nat)(c0:List AV)(x1:Int)(x2 x3:Rw)(x4:Int)(x5 x6:ByteArray)(x7:Rw):By A D E0 VZ .n 188 Abo [η 0 0,Ξ [iv x1,V x2,V x3,iv x4,sv x5,sv x6,V x7]] [bk [V s1,V s2,iv s3,V s4,bv s5,V s6,bv s7,V s8,V s9,V s10,ζ 1 0 n0 9],{ cells:=c0,st:=true,ex:=true }] =
 Ad D (Ω 232) [Ξ [V s1,V s2,iv s3,V s4,bv s5,V s6,bv s7,V s8,V s9,V s10]] [] [.l,.E] λxs=>
 Ad D (Ω 88) [V xs,sv x5] [] [.i,.E] λn=>
 br (A.lt n 0)
 (some ((ψ [Ξ [bv false,iv 0,iv 0,iv 0,V [],bv false,V [],bv false,V []],bv false],[BO.keep,BO.keep])))
 (unI n λi=>
 Bh s9 i λcs=>
 dk [.S,.L,.L,.N] [.l cs] λ_ xs1 _=>
 Ad D (Ω 88) [V xs1,sv x6] [] [.i,.E] λn1=>
 br (A.le 0 n1)
 (some ((ψ [Ξ [bv true,iv n,iv n1,iv 0,V [],bv false,V [],bv false,V []],bv true],[BO.keep,BO.keep])))
 (some ((ψ [Ξ [bv true,iv n,iv n1,iv 0,V [],bv false,V [],bv false,V []],bv false],[BO.keep,BO.keep])))):=by kernel_rfl
theorem AkK(s1 s2:Rw)(s3:Int)(s4:Rw)(s5:Bool)(s6:Rw)(s7:Bool)(s8 s9 s10:Rw)(x1:Int)(x2 x3:Rw)(x4:Int)(x5 x6:ByteArray)(x7:Rw):By A D E0 VZ .n 188 Abo [η 0 0,Ξ [iv x1,V x2,V x3,iv x4,sv x5,sv x6,V x7]] [bk [V s1,V s2,iv s3,V s4,bv s5,V s6,bv s7,V s8,V s9,V s10,ApB (Value.slice none 0 0)]] =
 Ad D (Ω 232) [Ξ [V s1,V s2,iv s3,V s4,bv s5,V s6,bv s7,V s8,V s9,V s10]] [] [.l,.E] λxs=>
 Ad D (Ω 88) [V xs,sv x5] [] [.i,.E] λn=>
 br (A.lt n 0)
 (some ((ψ [Ξ [bv false,iv 0,iv 0,iv 0,V [],bv false,V [],bv false,V []],bv false],[BO.keep])))
 (unI n λi=>
 Bh s9 i λcs=>
 dk [.S,.L,.L,.N] [.l cs] λ_ xs1 _=>
 Ad D (Ω 88) [V xs1,sv x6] [] [.i,.E] λn1=>
 br (A.le 0 n1)
 (some ((ψ [Ξ [bv true,iv n,iv n1,iv 0,V [],bv false,V [],bv false,V []],bv true],[BO.keep])))
 (some ((ψ [Ξ [bv true,iv n,iv n1,iv 0,V [],bv false,V [],bv false,V []],bv false],[BO.keep])))):=by kernel_rfl
theorem AkG(s1 s2:Rw)(s3:Int)(s4:Rw)(s5:Bool)(s6:Rw)(s7:Bool)(s8 s9 s10:Rw)(n0:Nat)(c0:List AV)(x1:Int)(x2 x3:Rw)(x4:Int)(x5 x6:ByteArray)(x7:Rw):By A D E0 AaO .n 129 Abm [η 0 0,Ξ [iv x1,V x2,V x3,iv x4,sv x5,sv x6,V x7]] [bk [V s1,V s2,iv s3,V s4,bv s5,V s6,bv s7,V s8,V s9,V s10,ζ 1 0 n0 9],{ cells:=c0,st:=true,ex:=true }] =
 br (A.eq x1 6)
 (Ad D (Ω 188) [η 0 0,Ξ [iv x1,V x2,V x3,iv x4,sv x5,sv x6,V x7]] [bk [V s1,V s2,iv s3,V s4,bv s5,V s6,bv s7,V s8,V s9,V s10,ζ 1 0 n0 9],Δ c0 true true] [.t,.A,.B,.I,.I,.I,.L,.B,.L,.B,.L,.N,.B,.N,.K,.K,.E] λb n n1 n2 xs b1 xs1 b2 xs2 b3=>
 some ((ψ [Ξ [bv b,iv n,iv n1,iv n2,V xs,bv b1,V xs1,bv b2,V xs2],bv b3],[BO.keep,BO.keep])))
 (Ad D (Ω 27) [Ξ [iv x1,V x2,V x3,iv x4,sv x5,sv x6,V x7],V s1] [] [.t,.A,.I,.L,.B,.L,.B,.L,.N,.B,.N,.E] λn xs b xs1 b1 xs2 b2=>
 some ((ψ [Ξ [bv false,iv 0,iv 0,iv n,V xs,bv b,V xs1,bv b1,V xs2],bv b2],[BO.keep,BO.keep]))):=by kernel_rfl
theorem AkF(s1 s2:Rw)(s3:Int)(s4:Rw)(s5:Bool)(s6:Rw)(s7:Bool)(s8 s9 s10:Rw)(x1:Int)(x2 x3:Rw)(x4:Int)(x5 x6:ByteArray)(x7:Rw):By A D E0 AaN .n 129 Abm [η 0 0,Ξ [iv x1,V x2,V x3,iv x4,sv x5,sv x6,V x7]] [bk [V s1,V s2,iv s3,V s4,bv s5,V s6,bv s7,V s8,V s9,V s10,ApB (Value.slice none 0 0)]] =
 br (A.eq x1 6)
 (Ad D (Ω 188) [η 0 0,Ξ [iv x1,V x2,V x3,iv x4,sv x5,sv x6,V x7]] [bk [V s1,V s2,iv s3,V s4,bv s5,V s6,bv s7,V s8,V s9,V s10,ApB (Value.slice none 0 0)]] [.t,.A,.B,.I,.I,.I,.L,.B,.L,.B,.L,.N,.B,.N,.K,.E] λb n n1 n2 xs b1 xs1 b2 xs2 b3=>
 some ((ψ [Ξ [bv b,iv n,iv n1,iv n2,V xs,bv b1,V xs1,bv b2,V xs2],bv b3],[BO.keep])))
 (Ad D (Ω 27) [Ξ [iv x1,V x2,V x3,iv x4,sv x5,sv x6,V x7],V s1] [] [.t,.A,.I,.L,.B,.L,.B,.L,.N,.B,.N,.E] λn xs b xs1 b1 xs2 b2=>
 some ((ψ [Ξ [bv false,iv 0,iv 0,iv n,V xs,bv b,V xs1,bv b1,V xs2],bv b2],[BO.keep]))):=by kernel_rfl
theorem Aot(s1 s2:Rw)(s3:Int)(s4:Rw)(s5:Bool)(s6:Rw)(s7:Bool)(s8 s9 s10:Rw)(n0:Nat)(c0:List AV)(x1:Int)(x2 x3:Rw)(x4:Int)(x5 x6:ByteArray)(x7:Rw):By A D E0 SH .n 72 Abp [η 0 0,Ξ [iv x1,V x2,V x3,iv x4,sv x5,sv x6,V x7]] [bk [V s1,V s2,iv s3,V s4,bv s5,V s6,bv s7,V s8,V s9,V s10,ζ 1 0 n0 9],{ cells:=c0,st:=true,ex:=true }] =
 br (A.eq x1 2)
 (Ad D (Ω 129) [η 0 0,Ξ [iv x1,V x2,V x3,iv x4,sv x5,sv x6,V x7]] [bk [V s1,V s2,iv s3,V s4,bv s5,V s6,bv s7,V s8,V s9,V s10,ζ 1 0 n0 9],Δ c0 true true] [.t,.A,.B,.I,.I,.I,.L,.B,.L,.B,.L,.N,.B,.N,.K,.K,.E] λb n n1 n2 xs b1 xs1 b2 xs2 b3=>
 br (A.not b3)
 (some ((ψ [Ξ [iv 0,iv 0,V []],bv false],[γ (bk [V s1,V s2,iv s3,V s4,bv s5,V s6,bv s7,V s8,V s9,V s10,ζ 2 0 n0 9]),BO.del,γ (Δ c0 true true)])))
 (Ad D (Ω 130) [η 0 0,Ξ [bv b,iv n,iv n1,iv n2,V xs,bv b1,V xs1,bv b2,V xs2]] [bk [V s1,V s2,iv s3,V s4,bv s5,V s6,bv s7,V s8,V s9,V s10,ζ 1 0 n0 9],Δ c0 true true] [.i,.T,.L,.L,.I,.L,.B,.L,.B,.L,.L,.L,.C,.q 2 9,.N,.D,.R,.X,.E] λn3 xs3 xs4 n4 xs5 b4 xs6 b5 xs7 xs8 xs9 n5 cs3=>
 some ((ψ [Ξ [iv 2,iv n3,V []],bv true],[γ (bk [V xs3,V xs4,iv n4,V xs5,bv b4,V xs6,bv b5,V xs7,V xs8,V xs9,ζ 2 0 n5 9]),BO.del,γ (Δ cs3 true true)]))))
 (br (A.eq x1 6)
 (Ad D (Ω 129) [η 0 0,Ξ [iv x1,V x2,V x3,iv x4,sv x5,sv x6,V x7]] [bk [V s1,V s2,iv s3,V s4,bv s5,V s6,bv s7,V s8,V s9,V s10,ζ 1 0 n0 9],Δ c0 true true] [.t,.A,.B,.I,.I,.I,.L,.B,.L,.B,.L,.N,.B,.N,.K,.K,.E] λb n n1 n2 xs b1 xs1 b2 xs2 b3=>
 br (A.not b3)
 (some ((ψ [Ξ [iv 0,iv 0,V []],bv false],[γ (bk [V s1,V s2,iv s3,V s4,bv s5,V s6,bv s7,V s8,V s9,V s10,ζ 2 0 n0 9]),BO.del,γ (Δ c0 true true)])))
 (Ad D (Ω 130) [η 0 0,Ξ [bv b,iv n,iv n1,iv n2,V xs,bv b1,V xs1,bv b2,V xs2]] [bk [V s1,V s2,iv s3,V s4,bv s5,V s6,bv s7,V s8,V s9,V s10,ζ 1 0 n0 9],Δ c0 true true] [.i,.T,.L,.L,.I,.L,.B,.L,.B,.L,.L,.L,.C,.q 2 9,.N,.D,.R,.X,.E] λn3 xs3 xs4 n4 xs5 b4 xs6 b5 xs7 xs8 xs9 n5 cs3=>
 some ((ψ [Ξ [iv 2,iv n3,V []],bv true],[γ (bk [V xs3,V xs4,iv n4,V xs5,bv b4,V xs6,bv b5,V xs7,V xs8,V xs9,ζ 2 0 n5 9]),BO.del,γ (Δ cs3 true true)]))))
 (Ad D (ι 72 0) [η 0 0,η 1 0,η 2 0,V x7,iv ↑(AQ x7),iv 0] [bk [V s1,V s2,iv s3,V s4,bv s5,V s6,bv s7,V s8,V s9,V s10,ζ 3 0 n0 9],bk [iv 0,iv 0,V []],bk [iv x1,iv 0,ζ 4 0 0 3],Δ c0 true true,Δ [] true true] [.t,.C,.x,.X,.Y] λc l o=>
 br (A9 0 c)
 (dk [.P 0 0,.P 1 0,.B,.N,.T,.L,.L,.I,.L,.B,.L,.B,.L,.L,.L,.C,.q 5 9,.N,.T,.I,.I,.L,.N,.D,.D,.D,.R,.X,.E] [.l l,.o o] λb xs xs1 n xs2 b1 xs3 b2 xs4 xs5 xs6 n1 n2 n3 xs7 cs3=>
 some ((ψ [Ξ [iv n2,iv n3,V xs7],bv b],[γ (bk [V xs,V xs1,iv n,V xs2,bv b1,V xs3,bv b2,V xs4,V xs5,V xs6,ζ 2 0 n1 9]),BO.del,γ (Δ cs3 true true)])))
 (br (A9 1 c)
 (dk [.P 0 0,.P 1 0,.P 2 0,.N,.T,.L,.L,.I,.L,.B,.L,.B,.L,.L,.L,.C,.q 5 9,.N,.T,.I,.I,.L,.N,.T,.I,.I,.C,.q 6 3,.N,.Y] [.l l,.o o] λxs xs1 n xs2 b xs3 b1 xs4 xs5 xs6 n1 _ _ _ n4 n5 n6 l20=>
 dk [.D,.D,.R,.X,.R,.X,.E] [.o l20] λcs4 cs5=>
 br ((0+n6*3).ble cs5.length) (some ((ψ [Ξ [iv n4,iv n5,V (Bp n6 3 (ο (n6*3) cs5))],bv true],[γ (bk [V xs,V xs1,iv n,V xs2,bv b,V xs3,bv b1,V xs4,V xs5,V xs6,ζ 2 0 n1 9]),BO.del,γ (Δ cs4 true true)]))) none)
 (none)))):=by kernel_rfl
theorem Aan(s1 s2:Rw)(s3:Int)(s4:Rw)(s5:Bool)(s6:Rw)(s7:Bool)(s8 s9 s10:Rw)(n0:Nat)(a0 a1:Int)(a2:Rw)(k0 k1:Int)(n8:Nat)(c0 c8:List AV)(t38:Rw)(t39 t40:Int):Di A D E0 SH .n 72 0 (AL Abp 0).fst (AL Abp 0).snd [η 0 0,η 1 0,η 2 0,V t38,iv t39,iv t40] [bk [V s1,V s2,iv s3,V s4,bv s5,V s6,bv s7,V s8,V s9,V s10,ζ 3 0 n0 9],bk [iv a0,iv a1,V a2],bk [iv k0,iv k1,ζ 4 0 n8 3],{ cells:=c0,st:=true,ex:=true },{ cells:=c8,st:=true,ex:=true }] =
 br (A.lt t40 t39)
 (unI t40 λi=>
 Bh t38 i λcs=>
 dk [.I,.L,.L,.I,.S,.S,.L,.N] [.l cs] λn xs xs1 n1 s s11 xs2=>
 Ad D (Ω 72) [η 0 0,Ξ [iv n,V xs,V xs1,iv n1,sv s,sv s11,V xs2]] [bk [V s1,V s2,iv s3,V s4,bv s5,V s6,bv s7,V s8,V s9,V s10,ζ 1 0 n0 9],Δ c0 true true] [.t,.A,.I,.I,.L,.N,.B,.N,.T,.L,.L,.I,.L,.B,.L,.B,.L,.L,.L,.C,.q 2 9,.N,.D,.R,.X,.E] λn2 n3 xs3 b xs4 xs5 n4 xs6 b1 xs7 b2 xs8 xs9 xs10 n5 cs4=>
 br (A.not b)
 (some ((ψ [bv true,η 0 0,η 1 0,bv false],[γ (bk [V xs4,V xs5,iv n4,V xs6,bv b1,V xs7,bv b2,V xs8,V xs9,V xs10,ζ 5 0 n5 9]),γ (bk [iv 0,iv 0,V []]),BO.del,BO.del,BO.del,γ (Δ cs4 true true)])))
 (br (Bf (n8+1) 40) (br ((0+n8*3).ble c8.length) (AE D (ι 72 0) [η 0 0,η 1 0,η 2 0,V t38,iv t39,iv (A.add U t40 1)] [bk [V xs4,V xs5,iv n4,V xs6,bv b1,V xs7,bv b2,V xs8,V xs9,V xs10,ζ 3 0 n5 9],bk [iv a0,iv a1,V a2],bk [iv k0,iv k1,ζ 4 0 (n8+1) 3],Δ cs4 true true,Δ (Apx 0 (ο (0+n8*3) c8)++[iv n2,iv n3,V xs3]) true true] λr1 o1=>
 AD 5 [0,1,2,6,9] (AH.mk [(1,bk [iv a0,iv a1,V a2]),(2,bk [iv k0,iv k1,ζ 9 0 (n8+1) 3]),(9,Δ (Apx 0 (ο (0+n8*3) c8)++[iv n2,iv n3,V xs3]) true true),(8,Δ [iv n2,iv n3,V xs3] true true),(7,bk [iv n2,iv n3,V xs3]),(6,Δ cs4 true true),(0,bk [V xs4,V xs5,iv n4,V xs6,bv b1,V xs7,bv b2,V xs8,V xs9,V xs10,ζ 6 0 n5 9]),(5,bk [iv n,V xs,V xs1,iv n1,sv s,sv s11,V xs2])] 10 none) [0,3,4,2,1] r1 o1) none) none))
 (some ((ψ [iv 0,η 0 0,η 1 0,η 2 0],[γ (bk [V s1,V s2,iv s3,V s4,bv s5,V s6,bv s7,V s8,V s9,V s10,ζ 5 0 n0 9]),γ (bk [iv a0,iv a1,V a2]),γ (bk [iv k0,iv k1,ζ 6 0 n8 3]),BO.del,BO.del,γ (Δ c0 true true),γ (Δ c8 true true)]))):=by kernel_rfl
theorem Aos(s1 s2:Rw)(s3:Int)(s4:Rw)(s5:Bool)(s6:Rw)(s7:Bool)(s8 s9 s10:Rw)(x1:Int)(x2 x3:Rw)(x4:Int)(x5 x6:ByteArray)(x7:Rw):By A D E0 Ahl .n 72 Abp [η 0 0,Ξ [iv x1,V x2,V x3,iv x4,sv x5,sv x6,V x7]] [bk [V s1,V s2,iv s3,V s4,bv s5,V s6,bv s7,V s8,V s9,V s10,ApB (Value.slice none 0 0)]] =
 br (A.eq x1 2)
 (Ad D (Ω 129) [η 0 0,Ξ [iv x1,V x2,V x3,iv x4,sv x5,sv x6,V x7]] [bk [V s1,V s2,iv s3,V s4,bv s5,V s6,bv s7,V s8,V s9,V s10,ApB (Value.slice none 0 0)]] [.t,.A,.B,.I,.I,.I,.L,.B,.L,.B,.L,.N,.B,.N,.K,.E] λb n n1 n2 xs b1 xs1 b2 xs2 b3=>
 br (A.not b3)
 (some ((ψ [Ξ [iv 0,iv 0,V []],bv false],[γ (bk [V s1,V s2,iv s3,V s4,bv s5,V s6,bv s7,V s8,V s9,V s10,ApB (Value.slice none 0 0)])])))
 (Ad D (Ω 130) [η 0 0,Ξ [bv b,iv n,iv n1,iv n2,V xs,bv b1,V xs1,bv b2,V xs2]] [bk [V s1,V s2,iv s3,V s4,bv s5,V s6,bv s7,V s8,V s9,V s10,ApB (Value.slice none 0 0)]] [.i,.T,.L,.L,.I,.L,.B,.L,.B,.L,.L,.L,.C,.q 1 9,.N,.R,.X,.E] λn3 xs3 xs4 n4 xs5 b4 xs6 b5 xs7 xs8 xs9 n5 cs3=>
 some ((ψ [Ξ [iv 2,iv n3,V []],bv true],[γ (bk [V xs3,V xs4,iv n4,V xs5,bv b4,V xs6,bv b5,V xs7,V xs8,V xs9,ζ 1 0 n5 9]),γ (Δ cs3 true true)]))))
 (br (A.eq x1 6)
 (Ad D (Ω 129) [η 0 0,Ξ [iv x1,V x2,V x3,iv x4,sv x5,sv x6,V x7]] [bk [V s1,V s2,iv s3,V s4,bv s5,V s6,bv s7,V s8,V s9,V s10,ApB (Value.slice none 0 0)]] [.t,.A,.B,.I,.I,.I,.L,.B,.L,.B,.L,.N,.B,.N,.K,.E] λb n n1 n2 xs b1 xs1 b2 xs2 b3=>
 br (A.not b3)
 (some ((ψ [Ξ [iv 0,iv 0,V []],bv false],[γ (bk [V s1,V s2,iv s3,V s4,bv s5,V s6,bv s7,V s8,V s9,V s10,ApB (Value.slice none 0 0)])])))
 (Ad D (Ω 130) [η 0 0,Ξ [bv b,iv n,iv n1,iv n2,V xs,bv b1,V xs1,bv b2,V xs2]] [bk [V s1,V s2,iv s3,V s4,bv s5,V s6,bv s7,V s8,V s9,V s10,ApB (Value.slice none 0 0)]] [.i,.T,.L,.L,.I,.L,.B,.L,.B,.L,.L,.L,.C,.q 1 9,.N,.R,.X,.E] λn3 xs3 xs4 n4 xs5 b4 xs6 b5 xs7 xs8 xs9 n5 cs3=>
 some ((ψ [Ξ [iv 2,iv n3,V []],bv true],[γ (bk [V xs3,V xs4,iv n4,V xs5,bv b4,V xs6,bv b5,V xs7,V xs8,V xs9,ζ 1 0 n5 9]),γ (Δ cs3 true true)]))))
 (Ad D (ι 72 0) [η 0 0,η 1 0,η 2 0,V x7,iv ↑(AQ x7),iv 0] [bk [V s1,V s2,iv s3,V s4,bv s5,V s6,bv s7,V s8,V s9,V s10,ζ 3 0 0 9],bk [iv 0,iv 0,V []],bk [iv x1,iv 0,ζ 4 0 0 3],Δ [] true true,Δ [] true true] [.t,.C,.x,.X,.Y] λc l o=>
 br (A9 0 c)
 (dk [.P 0 0,.P 1 0,.B,.N,.T,.L,.L,.I,.L,.B,.L,.B,.L,.L,.L,.C,.q 5 9,.N,.T,.I,.I,.L,.N,.D,.D,.D,.R,.X,.E] [.l l,.o o] λb xs xs1 n xs2 b1 xs3 b2 xs4 xs5 xs6 n1 n2 n3 xs7 cs3=>
 some ((ψ [Ξ [iv n2,iv n3,V xs7],bv b],[γ (bk [V xs,V xs1,iv n,V xs2,bv b1,V xs3,bv b2,V xs4,V xs5,V xs6,ζ 1 0 n1 9]),γ (Δ cs3 true true)])))
 (br (A9 1 c)
 (dk [.P 0 0,.P 1 0,.P 2 0,.N,.T,.L,.L,.I,.L,.B,.L,.B,.L,.L,.L,.C,.q 5 9,.N,.T,.I,.I,.L,.N,.T,.I,.I,.C,.q 6 3,.N,.Y] [.l l,.o o] λxs xs1 n xs2 b xs3 b1 xs4 xs5 xs6 n1 _ _ _ n4 n5 n6 l20=>
 dk [.D,.D,.R,.X,.R,.X,.E] [.o l20] λcs4 cs5=>
 br ((0+n6*3).ble cs5.length) (some ((ψ [Ξ [iv n4,iv n5,V (Bp n6 3 (ο (n6*3) cs5))],bv true],[γ (bk [V xs,V xs1,iv n,V xs2,bv b,V xs3,bv b1,V xs4,V xs5,V xs6,ζ 1 0 n1 9]),γ (Δ cs4 true true)]))) none)
 (none)))):=by kernel_rfl
theorem Aoq(x0_0:Int)(x0_1 x0_2:Rw)(x0_3:Int)(x0_4 x0_5:ByteArray)(x0_6 x1_0 x1_1:Rw)(x1_2:Int)(x1_3:Rw)(x1_4:Bool)(x1_5:Rw)(x1_6:Bool)(x1_7 x1_8 x1_9:Rw):By A D E0 Ak0 .n 34 Ajt [Ξ [iv x0_0,V x0_1,V x0_2,iv x0_3,sv x0_4,sv x0_5,V x0_6],Ξ [V x1_0,V x1_1,iv x1_2,V x1_3,bv x1_4,V x1_5,bv x1_6,V x1_7,V x1_8,V x1_9]] [] =
 Ad D (Ω 36) [Ξ [iv x0_0,V x0_1,V x0_2,iv x0_3,sv x0_4,sv x0_5,V x0_6]] [] [.b,.E] λb=>
 br b
 (Ad D (Ω 72) [η 0 0,Ξ [iv x0_0,V x0_1,V x0_2,iv x0_3,sv x0_4,sv x0_5,V x0_6]] [bk [V x1_0,V x1_1,iv x1_2,V x1_3,bv x1_4,V x1_5,bv x1_6,V x1_7,V x1_8,V x1_9,ApB (Value.slice none 0 0)]] [.t,.A,.I,.I,.L,.N,.B,.N,.T,.L,.L,.I,.L,.B,.L,.B,.L,.L,.L,.C,.q 1 9,.N,.R,.X,.E] λn n1 xs b1 _ _ _ _ _ _ _ _ _ _ n3 cs3=>
 br (A.not b1)
 (some ((ψ [Ξ [iv 0,iv 0,V []],V [],bv false],[])))
 (br ((0+n3*9).ble cs3.length) (some ((ψ [Ξ [iv n,iv n1,V xs],V (Bp n3 9 (ο (n3*9) cs3)),bv true],[]))) none))
 (some ((ψ [Ξ [iv 0,iv 0,V []],V [],bv false],[]))):=by kernel_rfl
theorem Aop(x0_0:Int)(x0_1 x0_2:Rw)(x0_3:Int)(x0_4 x0_5:ByteArray)(x0_6 x1_0 x1_1:Rw)(x1_2:Int)(x1_3:Rw)(x1_4:Bool)(x1_5:Rw)(x1_6:Bool)(x1_7 x1_8 x1_9:Rw):By A D E0 Ahk .n 34 Ajt [Ξ [iv x0_0,V x0_1,V x0_2,iv x0_3,sv x0_4,sv x0_5,V x0_6],Ξ [V x1_0,V x1_1,iv x1_2,V x1_3,bv x1_4,V x1_5,bv x1_6,V x1_7,V x1_8,V x1_9]] [] =
 Ad D (Ω 36) [Ξ [iv x0_0,V x0_1,V x0_2,iv x0_3,sv x0_4,sv x0_5,V x0_6]] [] [.b,.E] λb=>
 br b
 (Ad D (Ω 72) [η 0 0,Ξ [iv x0_0,V x0_1,V x0_2,iv x0_3,sv x0_4,sv x0_5,V x0_6]] [bk [V x1_0,V x1_1,iv x1_2,V x1_3,bv x1_4,V x1_5,bv x1_6,V x1_7,V x1_8,V x1_9,ApB (Value.slice none 0 0)]] [.t,.A,.I,.I,.L,.N,.B,.N,.T,.L,.L,.I,.L,.B,.L,.B,.L,.L,.L,.C,.c (Value.slice none 0 0),.N,.E] λn n1 xs b1 _ _ _ _ _ _ _ _ _ _=>
 br (A.not b1)
 (some ((ψ [Ξ [iv 0,iv 0,V []],V [],bv false],[])))
 (some ((ψ [Ξ [iv n,iv n1,V xs],V [],bv true],[]))))
 (some ((ψ [Ξ [iv 0,iv 0,V []],V [],bv false],[]))):=by kernel_rfl
end
end Go.Proofs.YtlmhajfbpplpoaaGreat
