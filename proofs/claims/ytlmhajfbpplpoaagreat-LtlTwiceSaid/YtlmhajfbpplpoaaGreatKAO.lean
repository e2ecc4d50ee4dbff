/- Functions of the program -/
import Derived.Test.YtlmhajfbpplpoaaGreatKAN
import Derived.Lib.Join
set_option linter.all false
open Bool renaming false->Θ,true->U,and_eq_false_iff->AxP,and_eq_true->η,false_and->Aw3,or_eq_false_iff->AxT,or_eq_true->AxM,or_false->AyW,true_and->AwD
open List renaming cons_append->AwI,contains_cons->Ays,contains_nil->Ayy,drop->Awv,drop_eq_getElem_cons->χ,drop_eq_nil_of_le->υ,drop_zero->κ,find?_cons->Ayo,getElem?_eq_getElem->Ψ,getElem_mem->Awy,isPrefixOf->Ayp,length_cons->π,length_drop->AwR,length_eq_zero_iff->AwX,length_nil->Aw4,length_take->AwL,nil_append->AwC,take->Aws,take_succ_cons->AxY
open Nat renaming blt->Axu,lt_succ_self->Awz
open Option renaming none->Δ,some->V
namespace Go.Proofs.YtlmhajfbpplpoaaGreat
noncomputable section
open ABlk renaming mk->θ
open AV renaming agg->Φ,fn->AwG,ls->Ξ,ptr->ψ,sl->ο,tup->γ,v->AwB
open BO renaming set->Awp
open IntKind renaming i64->φ,u32->ν,u64->ι,u8->Ayu
open Key renaming fn->Ω,lp->Awq
open Tryz renaming prog->ε
section
open Go.RowKit
def Akf:MFn:=BL [⟨61,(mB 229458),[(1000006,3),(3000006,0)],[4],[(0,((mB 48),([4],[1000006,6]))),(1,((mB 80),([],[])))]⟩] 44
def Af8:Hnt:=⟨[(23,(.bool,[])),(84,(.agg BD,[])),(85,(.tup [.agg BD,.int .i64],[])),(86,(.agg BD,[])),(87,(.agg BD,[])),(88,(.int .i64,[])),(89,(.agg Cq,[]))],[(0,[(0,([.ptr 0 0,.bool],[.box Cq,.del,.del])),(1,([.ptr 0 0,.ptr 1 0],[.box Cq,.box [.sl 3 3,.bool,.ls],.del,.row U]))])],[(19,Iz),(20,Iz),(23,[.str]),(27,[.str]),(32,[.bool]),(33,BD),(36,[.str]),(39,BD),(40,BD),(45,[.str]),(51,[.ls]),(53,BD),(59,Cq)]⟩
def Aki:MFn:=BL [⟨82,(mB 30786325578774),[(10,6)],[2,4],[(0,((mB 48),([4],[2,10]))),(1,((mB 1044),([],[])))]⟩] 65
def AcG:Hnt:=⟨[(44,(.tup [.agg Cq,.bool],[])),(64,(.agg Ch,[])),(65,(.tup [.agg Ch,.bool],[])),(112,(.agg Ch,[])),(113,(.agg Ch,[])),(114,(.agg Ch,[])),(115,(.agg Ch,[]))],[(0,[(0,([.ptr 1 0,.bool],[.del,.box Ch,.del])),(1,([.ptr 0 0,.ptr 1 0,.sl 3 6],[.box Bb,.box Ch,.del,.row U]))])],[(16,[.int .i64]),(20,[.ls]),(27,[.ls]),(33,[.int .i64]),(34,Cq),(35,Cq),(42,[.ls]),(46,Bb),(47,Bb),(49,Bb),(58,Ch),(63,[.int .i64]),(70,Ch),(71,Ch)]⟩
def Asb:MFn:=BL [] 27
def Arl:Hnt:=⟨[(24,(.bool,[])),(64,(.agg Ch,[])),(65,(.tup [.agg Ch,.bool],[]))],[],[(8,Bb),(13,Bb),(21,Ch)]⟩
def AbL:List (Nat × MFn):=[(44,Akf),(65,Aki),(27,Asb)]
variable (A:Ar) (D:Orc)
theorem e44(x0 x1:Rw):Bp A D Ah Af8 .n 44 Akf [Ξ x0,Ξ x1] [] =
 Ag D (Ω 23) [Ξ x0] [] [.b,.E] λb=>
 br b
 (Ag D (Awq 44 0) [Ξ x1,ψ 0 0,ψ 1 0,Ξ x0,iv ↑(AU x0),iv 0] [bk [Ξ [],bv Θ,Ξ []],bk [ο 2 0 0 3,bv Θ,Ξ []],θ [] U U] [.t,.C,.x,.X,.Y] λc l o1=>
 br (Bf 0 c)
 (dk [.P 0 0,.B,.N,.T,.L,.B,.L,.N,.D,.D,.E] [.l l,.o o1] λb1 xs b2 xs1=>
 V ((γ [Φ [Ξ xs,bv b2,Ξ xs1],bv b1],[])))
 (br (Bf 1 c)
 (dk [.P 0 0,.P 1 0,.N,.T,.L,.B,.L,.N,.T,.C,.q 3 3,.B,.L,.N,.D,.R,.X,.E] [.l l,.o o1] λ_ _ _ n b2 xs2 cs3=>
 br ((0+n*3).ble cs3.length) (AN D (Ω 89) [Φ [Ξ (By n 3 (Aws (n*3) cs3)),bv b2,Ξ xs2]] [] λr2 o2=>
 dk [.a,.L,.B,.L,.N,.E] [.v r2,.o o2] λxs3 b3 xs4=>
 V ((γ [Φ [Ξ xs3,bv b3,Ξ xs4],bv U],[]))) Δ)
 (Δ)))
 (V ((γ [Φ [Ξ [],bv Θ,Ξ []],bv Θ],[]))):=by kernel_rfl
theorem AlM(t1 r0:Rw)(r1:Bool)(r2:Rw)(n6:Nat)(k1:Bool)(k2:Rw)(c6:Ad)(t15:Rw)(t16 t17:Int):DI A D Ah Af8 .n 44 0 (AK Akf 0).fst (AK Akf 0).snd [Ξ t1,ψ 0 0,ψ 1 0,Ξ t15,iv t16,iv t17] [bk [Ξ r0,bv r1,Ξ r2],bk [ο 2 0 n6 3,bv k1,Ξ k2],{ cells:=c6,st:=U,ex:=U }] =
 let y2:=bk [Ξ r0,bv r1,Ξ r2];br (A.lt t17 t16) (unI t17 λi=>Bt t15 i λcs=>dk [.B,.S,.S,.N] [.l cs] λb s s1=>Ag D (Ω 84) [iv 1] [] [.a,.B,.L,.N,.E] λb1 xs=>
 let y1:=λz1 z2=>let y5:=[Ξ t1,ψ 0 0,ψ 1 0,Ξ t15,iv t16,iv (A.add φ t17 1)];br (A.seq s1 (Ai [])) (Ag D (Ω 87) [Φ [bv k1,Ξ k2],Φ [bv z1,Ξ z2]] [] [.a,.B,.L,.N,.E] λb3 xs2=>AN D (Awq 44 0) y5 [y2,bk [ο 2 0 n6 3,bv b3,Ξ xs2],θ c6 U U] λr5 o3=>AO 3 [0,1,2] (AH.mk [(0,y2),(1,bk [ο 2 0 n6 3,bv b3,Ξ xs2]),(4,bk [bv z1,Ξ z2]),(3,bk [bv b,sv s,sv s1]),(2,θ c6 U U)] 5 Δ) [1,0] r5 o3) (Ag D (Ω 88) [Ξ t1,sv s1] [] [.i,.E] λn=>br (A.lt n 0) (V (γ [bv U,ψ 0 0,bv Θ],[Awp (bk [Ξ [],bv Θ,Ξ []]),BO.del,BO.del])) (br (Bh (n6+1) 40) (br ((0+n6*3).ble c6.length) (let y4:=θ (Awv 0 (Aws (0+n6*3) c6)++[iv n,bv z1,Ξ z2]) U U;AN D (Awq 44 0) y5 [y2,bk [ο 2 0 (n6+1) 3,bv k1,Ξ k2],y4] λr5 o3=>AO 3 [0,1,6] (AH.mk [(0,y2),(1,bk [ο 6 0 (n6+1) 3,bv k1,Ξ k2]),(6,y4),(5,θ [iv n,bv z1,Ξ z2] U U),(4,bk [bv z1,Ξ z2]),(3,bk [bv b,sv s,sv s1])] 7 Δ) [2,1,0] r5 o3) Δ) Δ));
 let y3:=λz1 z2=>br b (Ag D (Ω 86) [Φ [bv z1,Ξ z2]] [] [.a,.B,.L,.N,.E] y1) (y1 z1 z2);br (A.seq s (Ai [])) (y3 b1 xs) (Ag D (Ω 85) [sv s] [] [.t,.A,.B,.L,.N,.I,.N,.E] λb2 xs1 _=>
 y3 b2 xs1)) (V (γ [iv 0,ψ 0 0,ψ 1 0],[Awp y2,Awp (bk [ο 3 0 n6 3,bv k1,Ξ k2]),BO.del,Awp (θ c6 U U)])):=by kernel_rfl
theorem e65(x0_0:Int)(x0_1 x0_2:Rw)(x0_3:Int)(x0_4 x0_5:ByteArray)(x0_6 x1:Rw):Bp A D Ah AcG (.b (.b (.b (.t .n) (.f .n)) .n) .n) 65 Aki [Φ [iv x0_0,Ξ x0_1,Ξ x0_2,iv x0_3,sv x0_4,sv x0_5,Ξ x0_6],Ξ x1] [] =
 let y2:=λz1 z2 z3 z4 z5 z6=>Φ [iv z1,Ξ z2,bv z3,Ξ z4,bv z5,Ξ z6];let y1:=λz1 z2 z3 z4 z5 z6=>V (γ [y2 z1 z2 z3 z4 z5 z6,bv U],[]);br (A.eq x0_0 2) (Ag D (Ω 44) [Ξ
 x0_1,Ξ x1] [] [.t,.A,.L,.B,.L,.N,.B,.N,.E] λxs b xs1 b1=>Ag D (Ω 44) [Ξ x0_2,Ξ x1] [] [.t,.A,.L,.B,.L,.N,.B,.N,.E] λxs2 b2 xs3 b3=>Ag D (Ω 112) [iv x0_3,Φ [Ξ xs,bv
 b,Ξ xs1],Φ [Ξ xs2,bv b2,Ξ xs3]] [] [.a,.I,.L,.B,.L,.B,.L,.N,.E] λn xs4 b4 xs5 b5 xs6=>let y4:=V (γ [y2 n xs4 b4 xs5 b5 xs6,bv Θ],[]);br b1 (br b1 (br b3 (y1 n xs4 b4 xs5 b5 xs6)
 y4) Δ) (br b1 Δ y4)) (Ag D (Awq 65 0) [Ξ x1,ψ 0 0,ψ 1 0,ο 2 0 0 6,Ξ x0_6,iv ↑(AU x0_6),iv 0] [bk [iv x0_0,Ξ x0_1,Ξ x0_2,iv x0_3,sv x0_4,sv x0_5,Ξ x0_6],bk [iv 0,Ξ
 [],bv Θ,Ξ [],bv Θ,Ξ []],θ [] U U] [.t,.C,.x,.X,.Y] λc l o=>br (Bf 0 c) (dk [.P 1 0,.B,.N,.D,.T,.I,.L,.B,.L,.B,.L,.N,.D,.E] [.l l,.o o] λb n xs b1 xs1 b2 xs2=>V
 (γ [y2 n xs b1 xs1 b2 xs2,bv b],[])) (br (Bf 1 c) (dk [.P 0 0,.P 1 0,.C,.q 3 6,.N,.T,.I,.L,.L,.I,.S,.S,.L,.N,.T,.I,.L,.B,.L,.B,.L,.N,.D,.R,.X,.E] [.l l,.o o] λn n1 _ _ _ _ _ _ _ _ _ _ _ _
 cs3=>br (A.eq n1 0) (Ag D (Ω 64) [bv U] [] [.a,.I,.L,.B,.L,.B,.L,.N,.E] y1) (br (A.eq n1 3) (br (Axu 0 n) (I5 cs3 0 6 λcs4=>dk [.I,.L,.B,.L,.B,.L,.N] [.l cs4] λn4 xs6 b2 xs7 b3 xs8=>Ag
 D (Ω 113) [y2 n4 xs6 b2 xs7 b3 xs8] [] [.a,.I,.L,.B,.L,.B,.L,.N,.E] y1) Δ) (let y3:=λz1 z2=>dk [.a,.I,.L,.B,.L,.B,.L,.N,.E] [.v z1,.o z2] y1;br (A.eq n1 4) (br ((0+n*6).ble cs3.length) (AN
 D (Ω 114) [Ξ (By n 6 (Aws (n*6) cs3))] [] y3) Δ) (br (A.eq n1 5) (br ((0+n*6).ble cs3.length) (AN D (Ω 115) [Ξ (By n 6 (Aws (n*6) cs3))] [] y3) Δ) (Ag D (Ω 64) [bv
 Θ] [] [.a,.I,.L,.B,.L,.B,.L,.N,.E] y1))))) Δ)):=by kernel_rfl
theorem AlP(t1:Rw)(b2_0:Int)(b2_1 b2_2:Rw)(b2_3:Int)(b2_4 b2_5:ByteArray)(b2_6:Rw)(b4_0:Int)(b4_1:Rw)(b4_2:Bool)(b4_3:Rw)(b4_4:Bool)(b4_5:Rw)(n10:Nat)(c10:Ad)(t42:Rw)(t43 t44:Int):DI A D Ah AcG .n 65 0 (AK Aki 0).fst (AK Aki 0).snd [Ξ t1,ψ 0 0,ψ 1 0,ο 2 0 n10 6,Ξ t42,iv t43,iv t44] [bk [iv b2_0,Ξ b2_1,Ξ b2_2,iv b2_3,sv b2_4,sv b2_5,Ξ b2_6],bk [iv b4_0,Ξ b4_1,bv b4_2,Ξ b4_3,bv b4_4,Ξ b4_5],{ cells:=c10,st:=U,ex:=U }] =
 let y2:=bk [iv b2_0,Ξ b2_1,Ξ b2_2,iv b2_3,sv b2_4,sv b2_5,Ξ b2_6];let y3:=bk [iv b4_0,Ξ b4_1,bv b4_2,Ξ b4_3,bv b4_4,Ξ b4_5];br (A.lt t44 t43) (unI t44 λi=>Bt t42 i λcs=>dk [.I,
 .L,.L,.I,.S,.S,.L,.N] [.l cs] λn xs xs1 n1 s s1 xs2=>let y4:=[iv n,Ξ xs,Ξ xs1,iv n1,sv s,sv s1,Ξ xs2];Ag D (Ω 65) [Φ y4,Ξ t1] [] [.t,.A,.I,.L,.B,.L,.B,.L,.N,.B,.N,.E]
 λn2 xs3 b xs4 b1 xs5 b2=>br (A.not b2) (V (γ [bv U,ψ 1 0,bv Θ],[BO.del,Awp (bk [iv 0,Ξ [],bv Θ,Ξ [],bv Θ,Ξ []]),BO.del])) (br (Bh (n10+1) 96) (br ((0+n10*6).ble
 c10.length) (let y1:=[iv n2,Ξ xs3,bv b,Ξ xs4,bv b1,Ξ xs5];let y5:=θ (Awv 0 (Aws (0+n10*6) c10)++y1) U U;AN D (Awq 65 0) [Ξ t1,ψ 0 0,ψ 1 0,ο 2 0 (n10
 + 1) 6,Ξ t42,iv t43,iv (A.add φ t44 1)] [y2,y3,y5] λr1 o1=>AO 3 [0,1,6] (AH.mk [(1,y3),(0,y2),(6,y5),(5,θ y1 U U),(4,bk y1),(3,bk y4)] 7 Δ) [2,0,1] r1 o1) Δ) Δ))
 (V (γ [iv 0,ψ 0 0,ψ 1 0,ο 3 0 n10 6],[Awp y2,Awp y3,BO.del,Awp (θ c10 U U)])):=by kernel_rfl
theorem e27(x0_0:Int)(x0_1 x0_2:Rw)(x0_3:Int)(x0_4 x0_5:ByteArray)(x0_6 x1:Rw):Bp A D Ah Arl .n 27 Asb [Φ [iv x0_0,Ξ x0_1,Ξ x0_2,iv x0_3,sv x0_4,sv x0_5,Ξ x0_6],Ξ x1] [] =
 let y2:=Φ [iv x0_0,Ξ x0_1,Ξ x0_2,iv x0_3,sv x0_4,sv x0_5,Ξ x0_6];Ag D (Ω 24) [y2] [] [.b,.E] λb=>
 let y1:=Ag D (Ω 64) [bv Θ] [] [.a,.I,.L,.B,.L,.B,.L,.N,.E] λn1 xs3 b4 xs4 b5 xs5=>V (γ [Φ [iv n1,Ξ xs3,bv b4,Ξ xs4,bv b5,Ξ xs5],bv Θ],[]);br b (Ag D (Ω 65)
 [y2,Ξ x1] [] [.t,.A,.I,.L,.B,.L,.B,.L,.N,.B,.N,.E] λn xs b1 xs1 b2 xs2 b3=>br (A.not b3) y1 (V (γ [Φ [iv n,Ξ xs,bv b1,Ξ xs1,bv b2,Ξ xs2],bv U],[]))) y1:=by kernel_rfl
end
section
open Go.RowKit
def Abd:MFn:=BL [⟨18,(mB 456),[],[],[(0,([Θ,Θ,U],([],[]))),(1,((mB 8),([],[])))]⟩] 277
def SL:Hnt:=⟨[],[(0,[(0,([.int .i64],[])),(1,([.int .i64],[]))])],[(10,[.int .i64]),(11,[.int .i64])]⟩
def Aoy:MFn:=BL [] 284
def Am9:Hnt:=⟨[(154,(.int .i64,[])),(277,(.int .i64,[])),(285,(.int .i64,[]))],[],[(6,[.int .i64]),(8,[.int .i64]),(11,BD),(13,BD)]⟩
def Abe:MFn:=BL [⟨39,(mB 14343),[],[],[(0,((mB 64),([],[]))),(1,([U,U],([],[])))]⟩] 286
def Wx:Hnt:=⟨[(284,(.int .i64,[]))],[(0,[(0,([.int .i64],[])),(1,([.ls,.ls],[]))])],[(16,BX),(17,BX),(24,BX),(25,BX),(27,BX),(28,BX)]⟩
def Aow:MFn:=BL [] 278
def Am7:Hnt:=⟨[(89,(.agg Cq,[])),(277,(.int .i64,[])),(285,(.int .i64,[])),(286,(.int .i64,[]))],[],[(6,Cq),(8,Cq),(11,[.ls]),(13,[.ls]),(17,BD),(19,BD)]⟩
def Aox:MFn:=BL [] 279
def Am8:Hnt:=⟨[],[],[(4,[.bool])]⟩
def Aot:MFn:=BL [] 270
def Am4:Hnt:=⟨[(154,(.int .i64,[])),(277,(.int .i64,[])),(278,(.int .i64,[])),(279,(.int .i64,[]))],[],[(6,Cq),(8,Cq),(10,Nr),(12,Nr)]⟩
def Aoo:MFn:=BL [] 254
def AmZ:Hnt:=⟨[(270,(.int .i64,[]))],[],[(5,Nr),(6,Nr)]⟩
def Aa7:MFn:=BL [⟨32,(mB 229382),[],[],[(0,((mB 64),([],[]))),(1,([],([],[])))]⟩] 255
def Wt:Hnt:=⟨[(233,(.bool,[]))],[(0,[(0,([.bool],[])),(1,([],[]))])],[(20,Ch),(21,Ch),(24,Ch),(25,Ch),(27,Ch),(28,Ch)]⟩
def Aoi:MFn:=BL [] 233
def AmU:Hnt:=⟨[(175,(.agg Ch,[])),(254,(.bool,[])),(255,(.bool,[]))],[],[(5,Ch),(7,Ch),(10,[.int .i64]),(12,[.int .i64]),(16,[.int .i64]),(20,Nr),(22,Nr),(28,[.ls]),(30,[.ls])]⟩
def AbM:List (Nat × MFn):=[(277,Abd),(284,Aoy),(286,Abe),(278,Aow),(279,Aox),(270,Aot),(254,Aoo),(255,Aa7),(233,Aoi)]
variable (A:Ar) (D:Orc)
theorem Au5(x0:Rw):Bp A D Ah SL .n 277 Abd [Ξ x0] [] =
 Ag D (Awq 277 0) [iv 0,Ξ x0,iv ↑(AU x0),iv 0] [] [.t,.C,.x,.X,.Y] λc l o=>let y1:=dk [.I,.N,.E] [.l l,.o o] λn=>V (iv n,[]);br (Bf 0 c) y1 (br (Bf 1 c) y1 Δ):=by kernel_rfl
theorem YN(t3:Int)(t6:Rw)(t7 t8:Int):DI A D Ah SL .n 277 0 (AK Abd 0).fst (AK Abd 0).snd [iv t3,Ξ t6,iv t7,iv t8] [] =
 br (A.lt t8 t7)
 (unI t8 λi=>
 Bt t6 i λcs=>
 dk [.I,.N] [.l cs] λn=>
 br (A.eq n t3)
 (AN D (Awq 277 0) [iv t3,Ξ t6,iv t7,iv (A.add φ t8 1)] [] λr o=>
 AO 0 [] (AH.mk [] 0 Δ) [] r o)
 (V ((γ [bv U,iv n],[]))))
 (V ((γ [iv 0,iv t3],[]))):=by kernel_rfl
theorem Au9(x0_0:Int)(x0_1:Bool)(x0_2:Rw)(x1_0:Int)(x1_1:Bool)(x1_2:Rw):Bp A D Ah Am9 .n 284 Aoy [Φ [iv x0_0,bv x0_1,Ξ x0_2],Φ [iv x1_0,bv x1_1,Ξ x1_2]] [] =
 Ag D (Ω 154) [iv x0_0,iv x1_0] [] [.i,.E] λn=>
 Ag D (Ω 285) [Φ [bv x0_1,Ξ x0_2],Φ [bv x1_1,Ξ x1_2]] [] [.i,.E] λn1=>
 Ag D (Ω 277) [Ξ [[iv n],[iv n1]]] [] [.i,.E] λn2=>
 V ((iv n2,[])):=by kernel_rfl
theorem Avb(x0 x1:Rw):Bp A D Ah Wx .n 286 Abe [Ξ x0,Ξ x1,AwG (Fn.func 284) [] []] [] =
 Ag D (Awq 286 0) [Ξ x0,Ξ x1,AwG (Fn.func 284) [] [],Ξ x0,iv ↑(AU x0),iv 0] [] [.t,.C,.x,.X,.Y] λc l o=>
 br (Bf 0 c)
 (dk [.I,.N,.E] [.l l,.o o] λn=>
 V ((iv n,[])))
 (br (Bf 1 c)
 (dk [.L,.L,.N,.E] [.l l,.o o] λxs xs1=>
 br (A.lt ↑(AU xs) ↑(AU xs1))
 (V ((iv (-1),[])))
 (V ((iv 0,[]))))
 (Δ)):=by kernel_rfl
theorem Afv(t0 t1 t11:Rw)(t12 t13:Int):DI A D Ah Wx .n 286 0 (AK Abe 0).fst (AK Abe 0).snd [Ξ t0,Ξ t1,AwG (Fn.func 284) [] [],Ξ t11,iv t12,iv t13] [] =
 br (A.lt t13 t12)
 (unI t13 λi=>
 Bt t11 i λcs=>
 dk [.I,.B,.L,.N] [.l cs] λn b xs=>
 br (A.le (↑(AU t1)) t13)
 (V ((γ [bv U,iv 1],[])))
 (unI t13 λi1=>
 Bt t1 i1 λcs1=>
 dk [.I,.B,.L,.N] [.l cs1] λn1 b1 xs1=>
 Ag D (Ω 284) [Φ [iv n,bv b,Ξ xs],Φ [iv n1,bv b1,Ξ xs1]] [] [.i,.E] λn2=>
 br (A.eq n2 0)
 (AN D (Awq 286 0) [Ξ t0,Ξ t1,AwG (Fn.func 284) [] [],Ξ t11,iv t12,iv (A.add φ t13 1)] [] λr1 o1=>
 AO 0 [] (AH.mk [(1,bk [iv n1,bv b1,Ξ xs1]),(0,bk [iv n,bv b,Ξ xs])] 2 Δ) [] r1 o1)
 (V ((γ [bv U,iv n2],[])))))
 (V ((γ [iv 0,Ξ t0,Ξ t1],[]))):=by kernel_rfl
theorem Au6(x0_0:Rw)(x0_1:Bool)(x0_2 x1_0:Rw)(x1_1:Bool)(x1_2:Rw):Bp A D Ah Am7 .n 278 Aow [Φ [Ξ x0_0,bv x0_1,Ξ x0_2],Φ [Ξ x1_0,bv x1_1,Ξ x1_2]] [] =
 Ag D (Ω 89) [Φ [Ξ x0_0,bv x0_1,Ξ x0_2]] [] [.a,.L,.B,.L,.N,.E] λxs b xs1=>
 Ag D (Ω 89) [Φ [Ξ x1_0,bv x1_1,Ξ x1_2]] [] [.a,.L,.B,.L,.N,.E] λxs2 b1 xs3=>
 Ag D (Ω 286) [Ξ xs,Ξ xs2,AwG (Fn.func 284) [] []] [] [.i,.E] λn=>
 Ag D (Ω 285) [Φ [bv b,Ξ xs1],Φ [bv b1,Ξ xs3]] [] [.i,.E] λn1=>
 Ag D (Ω 277) [Ξ [[iv n],[iv n1]]] [] [.i,.E] λn2=>
 V ((iv n2,[])):=by kernel_rfl
theorem Au7(x0_0:Rw)(x0_1:Bool)(x0_2:Rw)(x0_3:Bool):Bp A D Ah Am8 .n 279 Aox [Φ [Ξ x0_0,bv x0_1,Ξ x0_2,bv x0_3]] [] =
 br x0_3
 (V ((iv 1,[])))
 (V ((iv 0,[]))):=by kernel_rfl
theorem Au1(x0_0:Rw)(x0_1:Bool)(x0_2:Rw)(x0_3:Bool)(x1_0:Rw)(x1_1:Bool)(x1_2:Rw)(x1_3:Bool):Bp A D Ah Am4 .n 270 Aot [Φ [Ξ x0_0,bv x0_1,Ξ x0_2,bv x0_3],Φ [Ξ x1_0,bv x1_1,Ξ x1_2,bv x1_3]] [] =
 Ag D (Ω 278) [Φ [Ξ x0_0,bv x0_1,Ξ x0_2],Φ [Ξ x1_0,bv x1_1,Ξ x1_2]] [] [.i,.E] λn=>
 Ag D (Ω 279) [Φ [Ξ x0_0,bv x0_1,Ξ x0_2,bv x0_3]] [] [.i,.E] λn1=>
 Ag D (Ω 279) [Φ [Ξ x1_0,bv x1_1,Ξ x1_2,bv x1_3]] [] [.i,.E] λn2=>
 Ag D (Ω 154) [iv n1,iv n2] [] [.i,.E] λn3=>
 Ag D (Ω 277) [Ξ [[iv n],[iv n3]]] [] [.i,.E] λn4=>
 V ((iv n4,[])):=by kernel_rfl
theorem AuR(x0_0:Rw)(x0_1:Bool)(x0_2:Rw)(x0_3:Bool)(x1_0:Rw)(x1_1:Bool)(x1_2:Rw)(x1_3:Bool):Bp A D Ah AmZ .n 254 Aoo [Φ [Ξ x0_0,bv x0_1,Ξ x0_2,bv x0_3],Φ [Ξ x1_0,bv x1_1,Ξ x1_2,bv x1_3]] [] =
 Ag D (Ω 270) [Φ [Ξ x0_0,bv x0_1,Ξ x0_2,bv x0_3],Φ [Ξ x1_0,bv x1_1,Ξ x1_2,bv x1_3]] [] [.i,.E] λn=>
 br (A.eq n 0)
 (V ((bv U,[])))
 (V ((bv Θ,[]))):=by kernel_rfl
theorem AuS(x0 x1:Rw):Bp A D Ah Wt .n 255 Aa7 [Ξ x0,Ξ x1,AwG (Fn.func 233) [] []] [] =
 br (A.eq ↑(AU x0) ↑(AU x1))
 (Ag D (Awq 255 0) [Ξ x1,AwG (Fn.func 233) [] [],Ξ x0,iv ↑(AU x0),iv 0] [] [.t,.C,.x,.X,.Y] λc l o=>
 br (Bf 0 c)
 (dk [.B,.N,.E] [.l l,.o o] λb=>
 V ((bv b,[])))
 (br (Bf 1 c)
 (Dp l<|
 CG o<|
 V ((bv U,[])))
 (Δ)))
 (V ((bv Θ,[]))):=by kernel_rfl
theorem Afp(t1 t15:Rw)(t16 t17:Int):DI A D Ah Wt .n 255 0 (AK Aa7 0).fst (AK Aa7 0).snd [Ξ t1,AwG (Fn.func 233) [] [],Ξ t15,iv t16,iv t17] [] =
 br (A.lt t17 t16)
 (unI t17 λi=>
 Bt t15 i λcs=>
 dk [.I,.L,.B,.L,.B,.L,.N] [.l cs] λn xs b xs1 b1 xs2=>
 unI t17 λi1=>
 Bt t1 i1 λcs1=>
 dk [.I,.L,.B,.L,.B,.L,.N] [.l cs1] λn1 xs3 b2 xs4 b3 xs5=>
 Ag D (Ω 233) [Φ [iv n,Ξ xs,bv b,Ξ xs1,bv b1,Ξ xs2],Φ [iv n1,Ξ xs3,bv b2,Ξ xs4,bv b3,Ξ xs5]] [] [.b,.E] λb4=>
 br b4
 (AN D (Awq 255 0) [Ξ t1,AwG (Fn.func 233) [] [],Ξ t15,iv t16,iv (A.add φ t17 1)] [] λr1 o1=>
 AO 0 [] (AH.mk [(1,bk [iv n1,Ξ xs3,bv b2,Ξ xs4,bv b3,Ξ xs5]),(0,bk [iv n,Ξ xs,bv b,Ξ xs1,bv b1,Ξ xs2])] 2 Δ) [] r1 o1)
 (V ((γ [bv U,bv Θ],[]))))
 (V ((γ [iv 0],[]))):=by kernel_rfl
theorem AuJ(x0_0:Int)(x0_1:Rw)(x0_2:Bool)(x0_3:Rw)(x0_4:Bool)(x0_5:Rw)(x1_0:Int)(x1_1:Rw)(x1_2:Bool)(x1_3:Rw)(x1_4:Bool)(x1_5:Rw):Bp A D Ah AmU .n 233 Aoi [Φ [iv x0_0,Ξ x0_1,bv x0_2,Ξ x0_3,bv x0_4,Ξ x0_5],Φ [iv x1_0,Ξ x1_1,bv x1_2,Ξ x1_3,bv x1_4,Ξ x1_5]] [] =
 Ag D (Ω 175) [Φ [iv x0_0,Ξ x0_1,bv x0_2,Ξ x0_3,bv x0_4,Ξ x0_5]] [] [.a,.I,.L,.B,.L,.B,.L,.N,.E] λn xs b xs1 b1 xs2=>Ag D (Ω 175) [Φ [iv x1_0,Ξ x1_1,bv x1_2,Ξ x1_3,
 bv x1_4,Ξ x1_5]] [] [.a,.I,.L,.B,.L,.B,.L,.N,.E] λn1 xs3 b2 xs4 b3 xs5=>br (A.eq n n1)
 (let y1:=Ag D (Ω 255) [Ξ xs2,Ξ xs5,AwG (Fn.func 233) [] []] [] [.b,.E] λb5=>br b5 (V (bv U,[])) (V (bv Θ,[]));br (A.eq n 2) (Ag D (Ω 254) [Φ [Ξ xs,bv b,Ξ xs1,bv
 b1],Φ [Ξ xs3,bv b2,Ξ xs4,bv b3]] [] [.b,.E] λb4=>br b4 y1 (V (bv Θ,[]))) y1) (V (bv Θ,[])):=by kernel_rfl
end
open Go.RowKit
def Vl:List (List (Nat × MFn)):=[TC,AbN,FS,Nv,O1,XQ,FR,LD,RC,TD,AbL,AbM]
def YR:List (Nat × DF):=[(109,DP DY),(108,DP CM),(240,Lg 1 (DC 1 4)),(151,Lg 3 (DC 3 40)),(263,Lg 3 (Nl 40))]
def Fo:Seat:=Nm Ah Vl.flatten YR
def RR:Orc:=BJ Ak Fo
set_option maxRecDepth 100000 in
theorem AqL:PU ε BM Vl:=by
 repeat' first|exact trivial|refine⟨⟨_,_,_,rfl⟩,by kernel_rfl,?_⟩|refine⟨?_,?_⟩
theorem Jj:(JC Vl&&Tg Vl.flatten YR)=U:=by kernel_rfl
theorem Anh:Knows Ah TC RR:=Bk Jj (i:=0) rfl
theorem ArR:Knows Ah AbN RR:=Bk Jj (i:=1) rfl
theorem Ank:Knows Ah FS RR:=Bk Jj (i:=2) rfl
theorem ArU:Knows Ah Nv RR:=Bk Jj (i:=3) rfl
theorem ArQ:Knows Ah O1 RR:=Bk Jj (i:=4) rfl
theorem ArW:Knows Ah XQ RR:=Bk Jj (i:=5) rfl
theorem Anj:Knows Ah FR RR:=Bk Jj (i:=6) rfl
theorem Anl:Knows Ah LD RR:=Bk Jj (i:=7) rfl
theorem ArT:Knows Ah RC RR:=Bk Jj (i:=8) rfl
theorem Ani:Knows Ah TD RR:=Bk Jj (i:=9) rfl
theorem ArO:Knows Ah AbL RR:=Bk Jj (i:=10) rfl
theorem ArP:Knows Ah AbM RR:=Bk Jj (i:=11) rfl
section
variable {args:Ad} {bs:List ABlk} {r:AV × List BO}
theorem Als(h:(DP DY) args bs=V r):RR.ask (.fn 109) args bs=V r:=Cw rfl h
theorem Aee(h:(DP CM) args bs=V r):RR.ask (.fn 108) args bs=V r:=Cw rfl h
theorem Aec(h:(Lg 1 (DC 1 4)) args bs=V r):RR.ask (.fn 240) args bs=V r:=Cw rfl h
theorem Aed(h:(Lg 3 (DC 3 40)) args bs=V r):RR.ask (.fn 151) args bs=V r:=Cw rfl h
theorem AiR(h:(Lg 3 (Nl 40)) args bs=V r):RR.ask (.fn 263) args bs=V r:=Cw rfl h
end
theorem AdH(h:PW ε YR):SeatOk ε BM Fo:=PN Ako PG AqL h
section
open Go.RowKit
def GC:List (Nat × Nat):=[(72,0),(129,0),(130,0),(188,0),(189,0)]
def An5:MFn:=BL [] 191
def AmH:Hnt:=⟨[(233,(.bool,[]))],[],[(6,[.bool]),(8,[.bool]),(12,[.int .i64]),(14,[.int .i64]),(19,[.int .i64]),(21,[.int .i64]),(26,Ch),(28,Ch)]⟩
def An4:MFn:=BL [] 190
def AmG:Hnt:=⟨[(191,(.bool,[]))],[],[(4,GZ),(5,GZ)]⟩
def QQ:MFn:=BL [⟨19,(mB 387),[],[],[(0,((mB 17),([],[1000000]))),(1,([U],([],[1000000])))]⟩] 189
def Wk:Hnt:=⟨[(190,(.bool,[.keep]))],[(0,[(0,([.sl 0 9,.int .i64],[.row U,.keep])),(1,([.sl 0 9],[.row U,.keep]))])],[(14,GZ),(15,GZ)]⟩
def Uy:Hnt:=⟨[(190,(.bool,[.keep]))],[(0,[(0,([.cst (.slice Δ 0 0),.int .i64],[.keep])),(1,([.cst (.slice Δ 0 0)],[.keep]))])],[(14,GZ),(15,GZ)]⟩
def AgT:MFn:=IZ ε BM [] Θ U 130
def Af2:Hnt:=⟨[(189,(.int .i64,[.row U,.keep]))],[],[(9,[.ls]),(17,[.ls]),(23,[.ls]),(24,GZ)]⟩
def Af1:Hnt:=⟨[(189,(.int .i64,[.keep]))],[],[(9,[.ls]),(17,[.ls]),(23,[.ls]),(24,GZ)]⟩
def AgY:MFn:=BL [] 188
def AaF:Hnt:=⟨[(88,(.int .i64,[])),(232,(.ls,[]))],[],[(11,Kn),(14,[.str]),(23,[.ls]),(25,OY),(27,[.ls]),(29,[.str])]⟩
def AgS:MFn:=BL [] 129
def Af0:Hnt:=⟨[(27,(.tup [.agg Ch,.bool],[])),(188,(.tup [.agg GZ,.bool],[.keep,.keep]))],[],[(9,[.int .i64]),(12,Bb),(17,Bb),(22,[.ls]),(26,Ch)]⟩
def AfZ:Hnt:=⟨[(27,(.tup [.agg Ch,.bool],[])),(188,(.tup [.agg GZ,.bool],[.keep]))],[],[(9,[.int .i64]),(12,Bb),(17,Bb),(22,[.ls]),(26,Ch)]⟩
def Ag1:MFn:=IZ ε BM [⟨61,(mB 1924145348881),[(11000000,9),(3000008,3)],[4],[(0,((mB 49),([4],[3000008,8,1000000]))),(1,((mB 273),([],[1000000])))]⟩] Θ U 72
def Wy:Hnt:=⟨[(72,(.tup [.agg Lj,.bool],[.box [.ls,.ls,.int .i64,.ls,.bool,.ls,.bool,.ls,.ls,.ls,.sl 2 9],.del,.row U])),(129,(.tup [.agg GZ,.bool],[.keep,.keep])),(130,(.int .i64,[.box [.ls,.ls,.int .i64,.ls,.bool,.ls,.bool,.ls,.ls,.ls,.sl 2 9],.del,.row U]))],[(0,[(0,([.ptr 0 0,.ptr 1 0,.bool],[.box [.ls,.ls,.int .i64,.ls,.bool,.ls,.bool,.ls,.ls,.ls,.sl 5 9],.box Lj,.del,.del,.del,.row U])),(1,([.ptr 0 0,.ptr 1 0,.ptr 2 0],[.box [.ls,.ls,.int .i64,.ls,.bool,.ls,.bool,.ls,.ls,.ls,.sl 5 9],.box Lj,.box [.int .i64,.int .i64,.sl 6 3],.del,.del,.row U,.row U]))])],[(14,[.int .i64]),(18,[.int .i64]),(23,Bb),(31,GZ),(35,[.int .i64]),(38,[.ls]),(42,Bb),(43,Bb),(46,Bb),(54,[.ls]),(55,Lj),(60,Lj)]⟩
def Anc:Hnt:=⟨[(72,(.tup [.agg Lj,.bool],[.box [.ls,.ls,.int .i64,.ls,.bool,.ls,.bool,.ls,.ls,.ls,.sl 2 9],.del,.row U])),(129,(.tup [.agg GZ,.bool],[.keep])),(130,(.int .i64,[.box [.ls,.ls,.int .i64,.ls,.bool,.ls,.bool,.ls,.ls,.ls,.sl 1 9],.row U]))],[(0,[(0,([.ptr 0 0,.ptr 1 0,.bool],[.box [.ls,.ls,.int .i64,.ls,.bool,.ls,.bool,.ls,.ls,.ls,.sl 5 9],.box Lj,.del,.del,.del,.row U])),(1,([.ptr 0 0,.ptr 1 0,.ptr 2 0],[.box [.ls,.ls,.int .i64,.ls,.bool,.ls,.bool,.ls,.ls,.ls,.sl 5 9],.box Lj,.box [.int .i64,.int .i64,.sl 6 3],.del,.del,.row U,.row U]))])],[(14,[.int .i64]),(18,[.int .i64]),(23,Bb),(31,GZ),(35,[.int .i64]),(38,[.ls]),(42,Bb),(43,Bb),(46,Bb),(54,[.ls]),(55,Lj),(60,Lj)]⟩
def ApX:MFn:=BL [] 34
def Aro:Hnt:=⟨[(36,(.bool,[])),(72,(.tup [.agg Lj,.bool],[.box [.ls,.ls,.int .i64,.ls,.bool,.ls,.bool,.ls,.ls,.ls,.sl 1 9],.row U]))],[],[(10,Kn),(13,Bb),(19,Bb),(26,Lj),(30,[.ls])]⟩
def Anb:Hnt:=⟨[(36,(.bool,[])),(72,(.tup [.agg Lj,.bool],[.box [.ls,.ls,.int .i64,.ls,.bool,.ls,.bool,.ls,.ls,.ls,.cst (.slice Δ 0 0)]]))],[],[(10,Kn),(13,Bb),(19,Bb),(26,Lj),(30,[.ls])]⟩
def TH:List (Nat × MFn):=[(191,An5),(190,An4),(189,QQ),(130,AgT),(188,AgY),(129,AgS),(72,Ag1),(34,ApX)]
variable (A:Ar) (D:Orc)
theorem Aup(x0_0:Bool)(x0_1 x0_2 x0_3:Int)(x0_4:Rw)(x0_5:Bool)(x0_6:Rw)(x0_7:Bool)(x0_8:Rw)(x1_0:Bool)(x1_1 x1_2 x1_3:Int)(x1_4:Rw)(x1_5:Bool)(x1_6:Rw)(x1_7:Bool)(x1_8:Rw):Bp A D GC AmH .n 191 An5 [Φ [bv x0_0,iv x0_1,iv x0_2,iv x0_3,Ξ x0_4,bv x0_5,Ξ x0_6,bv x0_7,Ξ x0_8],Φ [bv x1_0,iv x1_1,iv x1_2,iv x1_3,Ξ x1_4,bv x1_5,Ξ x1_6,bv x1_7,Ξ x1_8]] [] =
 let y1:=V (bv Θ,[]);br (A.beq x0_0 x1_0) (br (A.eq x0_1 x1_1) (br (A.eq x0_2 x1_2) (Ag D (Ω 233) [Φ [iv x0_3,Ξ x0_4,bv x0_5,Ξ x0_6,bv x0_7,Ξ x0_8],Φ [iv x1_3,Ξ x1_4,bv x1_5,
 Ξ x1_6,bv x1_7,Ξ x1_8]] [] [.b,.E] λb=>br b (V (bv U,[])) y1) y1) y1) y1:=by kernel_rfl
theorem Auo(y1:Bool)(y2 y3 y4:Int)(y5:Rw)(y6:Bool)(y7:Rw)(y8:Bool)(y9:Rw)(x1:Bool)(x2 x3 x4:Int)(x5:Rw)(x6:Bool)(x7:Rw)(x8:Bool)(x9:Rw):Bp A D GC AmG .n 190 An4 [Φ [bv y1,iv y2,iv y3,iv y4,Ξ y5,bv y6,Ξ y7,bv y8,Ξ y9],ψ 0 0] [bk [bv x1,iv x2,iv x3,iv x4,Ξ x5,bv x6,Ξ x7,bv x8,Ξ x9]] =
 Ag D (Ω 191) [Φ [bv x1,iv x2,iv x3,iv x4,Ξ x5,bv x6,Ξ x7,bv x8,Ξ x9],Φ [bv y1,iv y2,iv y3,iv y4,Ξ y5,bv y6,Ξ y7,bv y8,Ξ y9]] [] [.b,.E] λb=>
 br b
 (V ((bv U,[BO.keep])))
 (V ((bv Θ,[BO.keep]))):=by kernel_rfl
theorem Aq9(n0:Nat)(c0:Ad)(x1:Bool)(x2 x3 x4:Int)(x5:Rw)(x6:Bool)(x7:Rw)(x8:Bool)(x9:Rw):Bp A D GC Wk .n 189 QQ [ο 0 0 n0 9,AwG (Fn.func 190) [] [ψ 1 0]] [{ cells:=c0,st:=U,ex:=U },bk [bv x1,iv x2,iv x3,iv x4,Ξ x5,bv x6,Ξ x7,bv x8,Ξ x9]] =
 Ag D (Awq 189 0) [ο 0 0 n0 9,AwG (Fn.func 190) [] [ψ 1 0],iv ↑n0,iv 0] [θ c0 U U,bk [bv x1,iv x2,iv x3,iv x4,Ξ x5,bv x6,Ξ x7,bv x8,Ξ x9]] [.t,.C,.x,.X,.Y] λc l o=>
 br (Bf 0 c)
 (dk [.C,.q 0 9,.I,.N,.R,.X,.K,.E] [.l l,.o o] λ_ n1 cs1=>
 V ((iv n1,[Awp (θ cs1 U U),BO.keep])))
 (br (Bf 1 c)
 (dk [.C,.q 0 9,.N,.R,.X,.K,.E] [.l l,.o o] λ_ cs1=>
 V ((iv (-1),[Awp (θ cs1 U U),BO.keep])))
 (Δ)):=by kernel_rfl
theorem Aaw(n0:Nat)(c0:Ad)(x1:Bool)(x2 x3 x4:Int)(x5:Rw)(x6:Bool)(x7:Rw)(x8:Bool)(x9:Rw)(t7 t8:Int):DI A D GC Wk .n 189 0 (AK QQ 0).fst (AK QQ 0).snd [ο 0 0 n0 9,AwG (Fn.func 190) [] [ψ 1 0],iv t7,iv t8] [{ cells:=c0,st:=U,ex:=U },bk [bv x1,iv x2,iv x3,iv x4,Ξ x5,bv x6,Ξ x7,bv x8,Ξ x9]] =
 br (A.lt t8 t7) (unI t8 λi=>br (i.blt n0) (I5 c0 (0+i*9) 9 λcs=>dk [.B,.I,.I,.I,.L,.B,.L,.B,.L,.N] [.l cs] λb n n1 n2 xs b1 xs1 b2 xs2=>
 let y1:=bk [bv x1,iv x2,iv x3,iv x4,Ξ x5,bv x6,Ξ x7,bv x8,Ξ x9];Ag D (Ω 190) [Φ [bv b,iv n,iv n1,iv n2,Ξ xs,bv b1,Ξ xs1,bv b2,Ξ xs2],ψ 0 0] [y1] [.b,.K,.E] λb3=>
 br b3 (V (γ [bv U,ο 0 0 n0 9,iv t8],[Awp (θ c0 U U),BO.keep])) (AN D (Awq 189 0) [ο 0 0 n0 9,AwG (Fn.func 190) [] [ψ 1 0],iv t7,iv (A.add φ t8 1)] [θ c0 U
 U,y1] λr1 o1=>AO 2 [0,1] (AH.mk [(0,θ c0 U U),(1,y1)] 2 Δ) [] r1 o1)) Δ) (V (γ [iv 0,ο 0 0 n0 9],[Awp (θ c0 U U),BO.keep])):=by kernel_rfl
theorem Aq8(x1:Bool)(x2 x3 x4:Int)(x5:Rw)(x6:Bool)(x7:Rw)(x8:Bool)(x9:Rw):Bp A D GC Uy .n 189 QQ [AwB (Value.slice Δ 0 0),AwG (Fn.func 190) [] [ψ 0 0]] [bk [bv x1,iv x2,iv x3,iv x4,Ξ x5,bv x6,Ξ x7,bv x8,Ξ x9]] =
 Ag D (Awq 189 0) [AwB (Value.slice Δ 0 0),AwG (Fn.func 190) [] [ψ 0 0],iv 0,iv 0] [bk [bv x1,iv x2,iv x3,iv x4,Ξ x5,bv x6,Ξ x7,bv x8,Ξ x9]] [.t,.C,.x,.X,.Y] λc l o=>
 br (Bf 0 c)
 (dk [.C,.c (Value.slice Δ 0 0),.I,.N,.K,.E] [.l l,.o o] λn=>
 V ((iv n,[BO.keep])))
 (br (Bf 1 c)
 (dk [.C,.c (Value.slice Δ 0 0),.N,.K,.E,.w] [.l l,.o o] λ_=>
 V ((iv (-1),[BO.keep])))
 (Δ)):=by kernel_rfl
theorem Ajy(x1:Bool)(x2 x3 x4:Int)(x5:Rw)(x6:Bool)(x7:Rw)(x8:Bool)(x9:Rw)(t7 t8:Int):DI A D GC Uy .n 189 0 (AK QQ 0).fst (AK QQ 0).snd [AwB (Value.slice Δ 0 0),AwG (Fn.func 190) [] [ψ 0 0],iv t7,iv t8] [bk [bv x1,iv x2,iv x3,iv x4,Ξ x5,bv x6,Ξ x7,bv x8,Ξ x9]] =
 br (A.lt t8 t7)
 (unI t8 λ_=>
 Δ)
 (V ((γ [iv 0,AwB (Value.slice Δ 0 0)],[BO.keep]))):=by kernel_rfl
theorem Aq3(s1 s2:Rw)(s3:Int)(s4:Rw)(s5:Bool)(s6:Rw)(s7:Bool)(s8 s9 s10:Rw)(n0:Nat)(c0:Ad)(x1:Bool)(x2 x3 x4:Int)(x5:Rw)(x6:Bool)(x7:Rw)(x8:Bool)(x9:Rw):Bp A D GC Af2 .n 130 AgT [ψ 0 0,Φ [bv x1,iv x2,iv x3,iv x4,Ξ x5,bv x6,Ξ x7,bv x8,Ξ x9]] [bk [Ξ s1,Ξ s2,iv s3,Ξ s4,bv s5,Ξ s6,bv s7,Ξ s8,Ξ s9,Ξ s10,ο 1 0 n0 9],{ cells:=c0,st:=U,ex:=U }] =
 let y1:=[bv x1,iv x2,iv x3,iv x4,Ξ x5,bv x6,Ξ x7,bv x8,Ξ x9];Ag D (Ω 189) [ο 0 0 n0 9,AwG (Fn.func 190) [] [ψ 1 0]] [θ c0 U U,bk y1] [.i,.R,.X,.K,.E] λn cs=>br (A.lt
 n 0) (br (Bh (n0+1) 120) (br ((0+n0*9).ble cs.length) (V (iv ↑n0,[Awp (bk [Ξ s1,Ξ s2,iv s3,Ξ s4,bv s5,Ξ s6,bv s7,Ξ s8,Ξ s9,Ξ s10,ο 2 0 (n0+1) 9]),BO.del,Awp
 (θ (Awv 0 (Aws (0+n0*9) cs)++y1) U U)])) Δ) Δ) (V (iv n,[Awp (bk [Ξ s1,Ξ s2,iv s3,Ξ s4,bv s5,Ξ s6,bv s7,Ξ s8,Ξ s9,Ξ s10,ο 2 0 n0 9]),BO.del,
 Awp (θ cs U U)])):=by kernel_rfl
theorem Aq2(s1 s2:Rw)(s3:Int)(s4:Rw)(s5:Bool)(s6:Rw)(s7:Bool)(s8 s9 s10:Rw)(x1:Bool)(x2 x3 x4:Int)(x5:Rw)(x6:Bool)(x7:Rw)(x8:Bool)(x9:Rw):Bp A D GC Af1 .n 130 AgT [ψ 0 0,Φ [bv x1,iv x2,iv x3,iv x4,Ξ x5,bv x6,Ξ x7,bv x8,Ξ x9]] [bk [Ξ s1,Ξ s2,iv s3,Ξ s4,bv s5,Ξ s6,bv s7,Ξ s8,Ξ s9,Ξ s10,AwB (Value.slice Δ 0 0)]] =
 let y1:=[bv x1,iv x2,iv x3,iv x4,Ξ x5,bv x6,Ξ x7,bv x8,Ξ x9];Ag D (Ω 189) [AwB (Value.slice Δ 0 0),AwG (Fn.func 190) [] [ψ 0 0]] [bk y1] [.i,.K,.E] λn=>br (A.lt n 0) (V (iv 0,
 [Awp (bk [Ξ s1,Ξ s2,iv s3,Ξ s4,bv s5,Ξ s6,bv s7,Ξ s8,Ξ s9,Ξ s10,ο 1 0 1 9]),Awp (θ y1 U U)])) (V (iv n,[Awp (bk [Ξ s1,Ξ s2,iv s3,Ξ s4,bv s5,
 Ξ s6,bv s7,Ξ s8,Ξ s9,Ξ s10,AwB (Value.slice Δ 0 0)])])):=by kernel_rfl
theorem Aq7(s1 s2:Rw)(s3:Int)(s4:Rw)(s5:Bool)(s6:Rw)(s7:Bool)(s8 s9 s10:Rw)(n0:Nat)(c0:Ad)(x1:Int)(x2 x3:Rw)(x4:Int)(x5 x6:ByteArray)(x7:Rw):Bp A D GC AaF .n 188 AgY [ψ 0 0,Φ [iv x1,Ξ x2,Ξ x3,iv x4,sv x5,sv x6,Ξ x7]] [bk [Ξ s1,Ξ s2,iv s3,Ξ s4,bv s5,Ξ s6,bv s7,Ξ s8,Ξ s9,Ξ s10,ο 1 0 n0 9],{ cells:=c0,st:=U,ex:=U }] =
 Ag D (Ω 232) [Φ [Ξ s1,Ξ s2,iv s3,Ξ s4,bv s5,Ξ s6,bv s7,Ξ s8,Ξ s9,Ξ s10]] [] [.l,.E] λxs=>Ag D (Ω 88) [Ξ xs,sv x5] [] [.i,.E] λn=>br (A.lt n 0) (V (γ
 [Φ [bv Θ,iv 0,iv 0,iv 0,Ξ [],bv Θ,Ξ [],bv Θ,Ξ []],bv Θ],[BO.keep,BO.keep])) (unI n λi=>Bt s9 i λcs=>dk [.S,.L,.L,.N] [.l cs] λ_ xs1 _=>Ag D (Ω 88) [Ξ
 xs1,sv x6] [] [.i,.E] λn1=>let y1:=Φ [bv U,iv n,iv n1,iv 0,Ξ [],bv Θ,Ξ [],bv Θ,Ξ []];br (A.le 0 n1) (V (γ [y1,bv U],[BO.keep,BO.keep])) (V (γ [y1,bv Θ],
 [BO.keep,BO.keep]))):=by kernel_rfl
theorem Aq6(s1 s2:Rw)(s3:Int)(s4:Rw)(s5:Bool)(s6:Rw)(s7:Bool)(s8 s9 s10:Rw)(x1:Int)(x2 x3:Rw)(x4:Int)(x5 x6:ByteArray)(x7:Rw):Bp A D GC AaF .n 188 AgY [ψ 0 0,Φ [iv x1,Ξ x2,Ξ x3,iv x4,sv x5,sv x6,Ξ x7]] [bk [Ξ s1,Ξ s2,iv s3,Ξ s4,bv s5,Ξ s6,bv s7,Ξ s8,Ξ s9,Ξ s10,AwB (Value.slice Δ 0 0)]] =
 Ag D (Ω 232) [Φ [Ξ s1,Ξ s2,iv s3,Ξ s4,bv s5,Ξ s6,bv s7,Ξ s8,Ξ s9,Ξ s10]] [] [.l,.E] λxs=>Ag D (Ω 88) [Ξ xs,sv x5] [] [.i,.E] λn=>br (A.lt n 0) (V (γ
 [Φ [bv Θ,iv 0,iv 0,iv 0,Ξ [],bv Θ,Ξ [],bv Θ,Ξ []],bv Θ],[BO.keep])) (unI n λi=>Bt s9 i λcs=>dk [.S,.L,.L,.N] [.l cs] λ_ xs1 _=>Ag D (Ω 88) [Ξ xs1,sv x6]
 [] [.i,.E] λn1=>let y1:=Φ [bv U,iv n,iv n1,iv 0,Ξ [],bv Θ,Ξ [],bv Θ,Ξ []];br (A.le 0 n1) (V (γ [y1,bv U],[BO.keep])) (V (γ [y1,bv Θ],[BO.keep]))):=by kernel_rfl
theorem Aq1(s1 s2:Rw)(s3:Int)(s4:Rw)(s5:Bool)(s6:Rw)(s7:Bool)(s8 s9 s10:Rw)(n0:Nat)(c0:Ad)(x1:Int)(x2 x3:Rw)(x4:Int)(x5 x6:ByteArray)(x7:Rw):Bp A D GC Af0 .n 129 AgS [ψ 0 0,Φ [iv x1,Ξ x2,Ξ x3,iv x4,sv x5,sv x6,Ξ x7]] [bk [Ξ s1,Ξ s2,iv s3,Ξ s4,bv s5,Ξ s6,bv s7,Ξ s8,Ξ s9,Ξ s10,ο 1 0 n0 9],{ cells:=c0,st:=U,ex:=U }] =
 let y1:=Φ [iv x1,Ξ x2,Ξ x3,iv x4,sv x5,sv x6,Ξ x7];br (A.eq x1 6) (Ag D (Ω 188) [ψ 0 0,y1] [bk [Ξ s1,Ξ s2,iv s3,Ξ s4,bv s5,Ξ s6,bv s7,Ξ s8,Ξ s9,Ξ s10,
 ο 1 0 n0 9],θ c0 U U] [.t,.A,.B,.I,.I,.I,.L,.B,.L,.B,.L,.N,.B,.N,.K,.K,.E] λb n n1 n2 xs b1 xs1 b2 xs2 b3=>V (γ [Φ [bv b,iv n,iv n1,iv n2,Ξ xs,bv b1,Ξ xs1,bv b2,
 Ξ xs2],bv b3],[BO.keep,BO.keep])) (Ag D (Ω 27) [y1,Ξ s1] [] [.t,.A,.I,.L,.B,.L,.B,.L,.N,.B,.N,.E] λn xs b xs1 b1 xs2 b2=>V (γ [Φ [bv Θ,iv 0,iv 0,iv n,Ξ xs,bv b,Ξ
 xs1,bv b1,Ξ xs2],bv b2],[BO.keep,BO.keep])):=by kernel_rfl
theorem Aq0(s1 s2:Rw)(s3:Int)(s4:Rw)(s5:Bool)(s6:Rw)(s7:Bool)(s8 s9 s10:Rw)(x1:Int)(x2 x3:Rw)(x4:Int)(x5 x6:ByteArray)(x7:Rw):Bp A D GC AfZ .n 129 AgS [ψ 0 0,Φ [iv x1,Ξ x2,Ξ x3,iv x4,sv x5,sv x6,Ξ x7]] [bk [Ξ s1,Ξ s2,iv s3,Ξ s4,bv s5,Ξ s6,bv s7,Ξ s8,Ξ s9,Ξ s10,AwB (Value.slice Δ 0 0)]] =
 let y1:=Φ [iv x1,Ξ x2,Ξ x3,iv x4,sv x5,sv x6,Ξ x7];br (A.eq x1 6) (Ag D (Ω 188) [ψ 0 0,y1] [bk [Ξ s1,Ξ s2,iv s3,Ξ s4,bv s5,Ξ s6,bv s7,Ξ s8,Ξ s9,Ξ s10,
 AwB (Value.slice Δ 0 0)]] [.t,.A,.B,.I,.I,.I,.L,.B,.L,.B,.L,.N,.B,.N,.K,.E] λb n n1 n2 xs b1 xs1 b2 xs2 b3=>V (γ [Φ [bv b,iv n,iv n1,iv n2,Ξ xs,bv b1,Ξ xs1,bv b2,Ξ xs2],
 bv b3],[BO.keep])) (Ag D (Ω 27) [y1,Ξ s1] [] [.t,.A,.I,.L,.B,.L,.B,.L,.N,.B,.N,.E] λn xs b xs1 b1 xs2 b2=>V (γ [Φ [bv Θ,iv 0,iv 0,iv n,Ξ xs,bv b,Ξ xs1,bv b1,Ξ
 xs2],bv b2],[BO.keep])):=by kernel_rfl
theorem Avg(s1 s2:Rw)(s3:Int)(s4:Rw)(s5:Bool)(s6:Rw)(s7:Bool)(s8 s9 s10:Rw)(n0:Nat)(c0:Ad)(x1:Int)(x2 x3:Rw)(x4:Int)(x5 x6:ByteArray)(x7:Rw):Bp A D GC Wy .n 72 Ag1 [ψ 0 0,Φ [iv x1,Ξ x2,Ξ x3,iv x4,sv x5,sv x6,Ξ x7]] [bk [Ξ s1,Ξ s2,iv s3,Ξ s4,bv s5,Ξ s6,bv s7,Ξ s8,Ξ s9,Ξ s10,ο 1 0 n0 9],{ cells:=c0,st:=U,ex:=U }] =
 let y3:=λz1 z2 z3 z4 z5 z6 z7 z8 z9 z10 z11 z12=>[Awp (bk [Ξ z1,Ξ z2,iv z3,Ξ z4,bv z5,Ξ z6,bv z7,Ξ z8,Ξ z9,Ξ z10,ο 2 0 z11 9]),BO.del,Awp (θ z12 U U)];
 let y1:=let y2:=[bk [Ξ s1,Ξ s2,iv s3,Ξ s4,bv s5,Ξ s6,bv s7,Ξ s8,Ξ s9,Ξ s10,ο 1 0 n0 9],θ c0 U U];Ag D (Ω 129) [ψ 0 0,Φ [iv x1,Ξ x2,Ξ x3,iv x4,sv x5,sv x6,Ξ x7]] y2 [.t,.A,.B,.I,.I,.I,.L,.B,.L,.B,.L,.N,.B,.N,.K,.K,.E] λb n n1 n2 xs b1 xs1 b2 xs2 b3=>br (A.not b3) (V (γ [Φ [iv 0,iv 0,Ξ []],bv Θ],[Awp (bk [Ξ s1,Ξ s2,iv s3,Ξ s4,bv s5,Ξ s6,bv s7,Ξ s8,Ξ s9,Ξ s10,ο 2 0 n0 9]),BO.del,Awp (θ c0 U U)])) (Ag D (Ω 130) [ψ 0 0,Φ [bv b,iv n,iv n1,iv n2,Ξ xs,bv b1,Ξ xs1,bv b2,Ξ xs2]] y2 [.i,.T,.L,.L,.I,.L,.B,.L,.B,.L,.L,.L,.C,.q 2 9,.N,.D,.R,.X,.E] λn3 xs3 xs4 n4 xs5 b4 xs6 b5 xs7 xs8 xs9 n5 cs3=>V (γ [Φ [iv 2,iv n3,Ξ []],bv U],y3 xs3 xs4 n4 xs5 b4 xs6 b5 xs7 xs8 xs9 n5 cs3));
 br (A.eq x1 2) y1 (br (A.eq x1 6) y1 (Ag D (Awq 72 0) [ψ 0 0,ψ 1 0,ψ 2 0,Ξ x7,iv ↑(AU x7),iv 0] [bk [Ξ s1,Ξ s2,iv s3,Ξ s4,bv s5,Ξ s6,bv s7,Ξ s8,Ξ s9,Ξ s10,
 ο 3 0 n0 9],bk [iv 0,iv 0,Ξ []],bk [iv x1,iv 0,ο 4 0 0 3],θ c0 U U,θ [] U U] [.t,.C,.x,.X,.Y] λc l o=>br (Bf 0 c) (dk [.P 0 0,.P 1 0,.B,.N,.T,.L,.L,.I,.L,.B,.L,
 .B,.L,.L,.L,.C,.q 5 9,.N,.T,.I,.I,.L,.N,.D,.D,.D,.R,.X,.E] [.l l,.o o] λb xs xs1 n xs2 b1 xs3 b2 xs4 xs5 xs6 n1 n2 n3 xs7 cs3=>V (γ [Φ [iv n2,iv n3,Ξ xs7],bv b],y3 xs xs1 n xs2 b1 xs3
 b2 xs4 xs5 xs6 n1 cs3)) (br (Bf 1 c) (dk [.P 0 0,.P 1 0,.P 2 0,.N,.T,.L,.L,.I,.L,.B,.L,.B,.L,.L,.L,.C,.q 5 9,.N,.T,.I,.I,.L,.N,.T,.I,.I,.C,.q 6 3,.N,.Y] [.l l,.o o] λxs xs1 n xs2 b xs3 b1 xs4
 xs5 xs6 n1 _ _ _ n4 n5 n6 l20=>dk [.D,.D,.R,.X,.R,.X,.E] [.o l20] λcs4 cs5=>br ((0+n6*3).ble cs5.length) (V (γ [Φ [iv n4,iv n5,Ξ (By n6 3 (Aws (n6*3) cs5))],bv U],y3 xs xs1 n
 xs2 b xs3 b1 xs4 xs5 xs6 n1 cs4)) Δ) Δ))):=by kernel_rfl
theorem Afw(s1 s2:Rw)(s3:Int)(s4:Rw)(s5:Bool)(s6:Rw)(s7:Bool)(s8 s9 s10:Rw)(n0:Nat)(a0 a1:Int)(a2:Rw)(k0 k1:Int)(n8:Nat)(c0 c8:Ad)(t38:Rw)(t39 t40:Int):DI A D GC Wy .n 72 0 (AK Ag1 0).fst (AK Ag1 0).snd [ψ 0 0,ψ 1 0,ψ 2 0,Ξ t38,iv t39,iv t40] [bk [Ξ s1,Ξ s2,iv s3,Ξ s4,bv s5,Ξ s6,bv s7,Ξ s8,Ξ s9,Ξ s10,ο 3 0 n0 9],bk [iv a0,iv a1,Ξ a2],bk [iv k0,iv k1,ο 4 0 n8 3],{ cells:=c0,st:=U,ex:=U },{ cells:=c8,st:=U,ex:=U }] =
 let y3:=bk [iv a0,iv a1,Ξ a2];br (A.lt t40 t39) (unI t40 λi=>Bt t38 i λcs=>dk [.I,.L,.L,.I,.S,.S,.L,.N] [.l cs] λn xs xs1 n1 s s11 xs2=>
 let y2:=[iv n,Ξ xs,Ξ xs1,iv n1,sv s,sv s11,Ξ xs2];Ag D (Ω 72) [ψ 0 0,Φ y2] [bk [Ξ s1,Ξ s2,iv s3,Ξ s4,bv s5,Ξ s6,bv s7,Ξ s8,Ξ s9,Ξ s10,ο 1 0 n0 9],
 θ c0 U U] [.t,.A,.I,.I,.L,.N,.B,.N,.T,.L,.L,.I,.L,.B,.L,.B,.L,.L,.L,.C,.q 2 9,.N,.D,.R,.X,.E] λn2 n3 xs3 b xs4 xs5 n4 xs6 b1 xs7 b2 xs8 xs9 xs10 n5 cs4=>br (A.not b) (V (γ [bv
 U,ψ 0 0,ψ 1 0,bv Θ],[Awp (bk [Ξ xs4,Ξ xs5,iv n4,Ξ xs6,bv b1,Ξ xs7,bv b2,Ξ xs8,Ξ xs9,Ξ xs10,ο 5 0 n5 9]),Awp (bk [iv 0,iv 0,Ξ []]),BO.del,BO.del,
 BO.del,Awp (θ cs4 U U)])) (br (Bh (n8+1) 40) (br ((0+n8*3).ble c8.length) (let y4:=[iv n2,iv n3,Ξ xs3];let y1:=θ (Awv 0 (Aws (0+n8*3) c8)++y4) U U;AN D (Awq
 72 0) [ψ 0 0,ψ 1 0,ψ 2 0,Ξ t38,iv t39,iv (A.add φ t40 1)] [bk [Ξ xs4,Ξ xs5,iv n4,Ξ xs6,bv b1,Ξ xs7,bv b2,Ξ xs8,Ξ xs9,Ξ xs10,ο 3 0 n5 9],y3,bk [iv k0,
 iv k1,ο 4 0 (n8+1) 3],θ cs4 U U,y1] λr1 o1=>AO 5 [0,1,2,6,9] (AH.mk [(1,y3),(2,bk [iv k0,iv k1,ο 9 0 (n8+1) 3]),(9,y1),(8,θ y4 U U),(7,bk y4),(6,θ cs4 U
 U),(0,bk [Ξ xs4,Ξ xs5,iv n4,Ξ xs6,bv b1,Ξ xs7,bv b2,Ξ xs8,Ξ xs9,Ξ xs10,ο 6 0 n5 9]),(5,bk y2)] 10 Δ) [0,3,4,2,1] r1 o1) Δ) Δ)) (V (γ [iv 0,ψ 0 0,ψ
 1 0,ψ 2 0],[Awp (bk [Ξ s1,Ξ s2,iv s3,Ξ s4,bv s5,Ξ s6,bv s7,Ξ s8,Ξ s9,Ξ s10,ο 5 0 n0 9]),Awp y3,Awp (bk [iv k0,iv k1,ο 6 0 n8 3]),BO.del,BO.del,Awp (θ
 c0 U U),Awp (θ c8 U U)])):=by kernel_rfl
theorem Avf(s1 s2:Rw)(s3:Int)(s4:Rw)(s5:Bool)(s6:Rw)(s7:Bool)(s8 s9 s10:Rw)(x1:Int)(x2 x3:Rw)(x4:Int)(x5 x6:ByteArray)(x7:Rw):Bp A D GC Anc .n 72 Ag1 [ψ 0 0,Φ [iv x1,Ξ x2,Ξ x3,iv x4,sv x5,sv x6,Ξ x7]] [bk [Ξ s1,Ξ s2,iv s3,Ξ s4,bv s5,Ξ s6,bv s7,Ξ s8,Ξ s9,Ξ s10,AwB (Value.slice Δ 0 0)]] =
 let y3:=λz1 z2 z3 z4 z5 z6 z7 z8 z9 z10 z11 z12=>[Awp (bk [Ξ z1,Ξ z2,iv z3,Ξ z4,bv z5,Ξ z6,bv z7,Ξ z8,Ξ z9,Ξ z10,ο 1 0 z11 9]),Awp (θ z12 U U)];
 let y1:=let y2:=bk [Ξ s1,Ξ s2,iv s3,Ξ s4,bv s5,Ξ s6,bv s7,Ξ s8,Ξ s9,Ξ s10,AwB (Value.slice Δ 0 0)];Ag D (Ω 129) [ψ 0 0,Φ [iv x1,Ξ x2,Ξ x3,iv x4,sv x5,sv x6,Ξ x7]] [y2] [.t,.A,.B,.I,.I,.I,.L,.B,.L,.B,.L,.N,.B,.N,.K,.E] λb n n1 n2 xs b1 xs1 b2 xs2 b3=>br (A.not b3) (V (γ [Φ [iv 0,iv 0,Ξ []],bv Θ],[Awp y2])) (Ag D (Ω 130) [ψ 0 0,Φ [bv b,iv n,iv n1,iv n2,Ξ xs,bv b1,Ξ xs1,bv b2,Ξ xs2]] [y2] [.i,.T,.L,.L,.I,.L,.B,.L,.B,.L,.L,.L,.C,.q 1 9,.N,.R,.X,.E] λn3 xs3 xs4 n4 xs5 b4 xs6 b5 xs7 xs8 xs9 n5 cs3=>V (γ [Φ [iv 2,iv n3,Ξ []],bv U],y3 xs3 xs4 n4 xs5 b4 xs6 b5 xs7 xs8 xs9 n5 cs3));
 br (A.eq x1 2) y1 (br (A.eq x1 6) y1 (Ag D (Awq 72 0) [ψ 0 0,ψ 1 0,ψ 2 0,Ξ x7,iv ↑(AU x7),iv 0] [bk [Ξ s1,Ξ s2,iv s3,Ξ s4,bv s5,Ξ s6,bv s7,Ξ s8,Ξ s9,Ξ s10,
 ο 3 0 0 9],bk [iv 0,iv 0,Ξ []],bk [iv x1,iv 0,ο 4 0 0 3],θ [] U U,θ [] U U] [.t,.C,.x,.X,.Y] λc l o=>br (Bf 0 c) (dk [.P 0 0,.P 1 0,.B,.N,.T,.L,.L,.I,.L,.B,.L,.B,
 .L,.L,.L,.C,.q 5 9,.N,.T,.I,.I,.L,.N,.D,.D,.D,.R,.X,.E] [.l l,.o o] λb xs xs1 n xs2 b1 xs3 b2 xs4 xs5 xs6 n1 n2 n3 xs7 cs3=>V (γ [Φ [iv n2,iv n3,Ξ xs7],bv b],y3 xs xs1 n xs2 b1 xs3 b2
 xs4 xs5 xs6 n1 cs3)) (br (Bf 1 c) (dk [.P 0 0,.P 1 0,.P 2 0,.N,.T,.L,.L,.I,.L,.B,.L,.B,.L,.L,.L,.C,.q 5 9,.N,.T,.I,.I,.L,.N,.T,.I,.I,.C,.q 6 3,.N,.Y] [.l l,.o o] λxs xs1 n xs2 b xs3 b1 xs4 xs5
 xs6 n1 _ _ _ n4 n5 n6 l20=>dk [.D,.D,.R,.X,.R,.X,.E] [.o l20] λcs4 cs5=>br ((0+n6*3).ble cs5.length) (V (γ [Φ [iv n4,iv n5,Ξ (By n6 3 (Aws (n6*3) cs5))],bv U],y3 xs xs1 n xs2 b
 xs3 b1 xs4 xs5 xs6 n1 cs4)) Δ) Δ))):=by kernel_rfl
theorem Avd(x0_0:Int)(x0_1 x0_2:Rw)(x0_3:Int)(x0_4 x0_5:ByteArray)(x0_6 x1_0 x1_1:Rw)(x1_2:Int)(x1_3:Rw)(x1_4:Bool)(x1_5:Rw)(x1_6:Bool)(x1_7 x1_8 x1_9:Rw):Bp A D GC Aro .n 34 ApX [Φ [iv x0_0,Ξ x0_1,Ξ x0_2,iv x0_3,sv x0_4,sv x0_5,Ξ x0_6],Φ [Ξ x1_0,Ξ x1_1,iv x1_2,Ξ x1_3,bv x1_4,Ξ x1_5,bv x1_6,Ξ x1_7,Ξ x1_8,Ξ x1_9]] [] =
 let y1:=Φ [iv x0_0,Ξ x0_1,Ξ x0_2,iv x0_3,sv x0_4,sv x0_5,Ξ x0_6];Ag D (Ω 36) [y1] [] [.b,.E] λb=>let y2:=V (γ [Φ [iv 0,iv 0,Ξ []],Ξ [],bv Θ],[]);br b (Ag D
 (Ω 72) [ψ 0 0,y1] [bk [Ξ x1_0,Ξ x1_1,iv x1_2,Ξ x1_3,bv x1_4,Ξ x1_5,bv x1_6,Ξ x1_7,Ξ x1_8,Ξ x1_9,AwB (Value.slice Δ 0 0)]] [.t,.A,.I,.I,.L,.N,.B,.N,.T,.L,.L,.I,.L,
 .B,.L,.B,.L,.L,.L,.C,.q 1 9,.N,.R,.X,.E] λn n1 xs b1 _ _ _ _ _ _ _ _ _ _ n3 cs3=>br (A.not b1) y2 (br ((0+n3*9).ble cs3.length) (V (γ [Φ [iv n,iv n1,Ξ xs],Ξ (By n3 9 (Aws (n3
 * 9) cs3)),bv U],[])) Δ)) y2:=by kernel_rfl
theorem Avc(x0_0:Int)(x0_1 x0_2:Rw)(x0_3:Int)(x0_4 x0_5:ByteArray)(x0_6 x1_0 x1_1:Rw)(x1_2:Int)(x1_3:Rw)(x1_4:Bool)(x1_5:Rw)(x1_6:Bool)(x1_7 x1_8 x1_9:Rw):Bp A D GC Anb .n 34 ApX [Φ [iv x0_0,Ξ x0_1,Ξ x0_2,iv x0_3,sv x0_4,sv x0_5,Ξ x0_6],Φ [Ξ x1_0,Ξ x1_1,iv x1_2,Ξ x1_3,bv x1_4,Ξ x1_5,bv x1_6,Ξ x1_7,Ξ x1_8,Ξ x1_9]] [] =
 let y1:=Φ [iv x0_0,Ξ x0_1,Ξ x0_2,iv x0_3,sv x0_4,sv x0_5,Ξ x0_6];Ag D (Ω 36) [y1] [] [.b,.E] λb=>let y2:=V (γ [Φ [iv 0,iv 0,Ξ []],Ξ [],bv Θ],[]);br b (Ag D
 (Ω 72) [ψ 0 0,y1] [bk [Ξ x1_0,Ξ x1_1,iv x1_2,Ξ x1_3,bv x1_4,Ξ x1_5,bv x1_6,Ξ x1_7,Ξ x1_8,Ξ x1_9,AwB (Value.slice Δ 0 0)]] [.t,.A,.I,.I,.L,.N,.B,.N,.T,.L,.L,.I,.L,
 .B,.L,.B,.L,.L,.L,.C,.c (Value.slice Δ 0 0),.N,.E] λn n1 xs b1 _ _ _ _ _ _ _ _ _ _=>br (A.not b1) y2 (V (γ [Φ [iv n,iv n1,Ξ xs],Ξ [],bv U],[]))) y2:=by kernel_rfl
end
def Vm:List (List (Nat × MFn)):=[TH]
def YS:List (Nat × DF):=[(27,(BJ Ak Fo).ask (.fn 27)),(233,(BJ Ak Fo).ask (.fn 233)),(88,(BJ Ak Fo).ask (.fn 88)),(232,(BJ Ak Fo).ask (.fn 232)),(36,(BJ Ak Fo).ask (.fn 36))]
def Mp:Seat:=Nm GC Vm.flatten YS
def DRv:Orc:=BJ Ak Mp
set_option maxRecDepth 100000 in
theorem AqM:PU ε BM Vm:=by
 repeat' first|exact trivial|refine⟨⟨_,_,_,rfl⟩,by kernel_rfl,?_⟩|refine⟨?_,?_⟩
theorem AqP:(JC Vm&&Tg Vm.flatten YS)=U:=by kernel_rfl
theorem ArV:Knows GC TH DRv:=Bk AqP (i:=0) rfl
section
variable {args:Ad} {bs:List ABlk} {r:AV × List BO}
theorem Alr(h:((BJ Ak Fo).ask (.fn 27)) args bs=V r):DRv.ask (.fn 27) args bs=V r:=Cw rfl h
theorem Alt(h:((BJ Ak Fo).ask (.fn 233)) args bs=V r):DRv.ask (.fn 233) args bs=V r:=Cw rfl h
theorem AiS(h:((BJ Ak Fo).ask (.fn 88)) args bs=V r):DRv.ask (.fn 88) args bs=V r:=Cw rfl h
theorem AiU(h:((BJ Ak Fo).ask (.fn 232)) args bs=V r):DRv.ask (.fn 232) args bs=V r:=Cw rfl h
theorem AiV(h:((BJ Ak Fo).ask (.fn 36)) args bs=V r):DRv.ask (.fn 36) args bs=V r:=Cw rfl h
end
theorem AdI(h:PW ε YS):SeatOk ε BM Mp:=PN Ako PG AqM h
section
open Go.RowKit
def Ass:MFn:=BL [] 53
def Apx:Hnt:=⟨[(54,(.tup [.agg Bb,.int .i64],[.box CJ])),(69,(.tup [.agg Bb,.int .i64],[.box CJ,.keep])),(91,(.tup [.ls,.agg Rs,.int .i64],[])),(92,(.agg Kj,[.box CJ]))],[],[(25,Bb),(26,Rs),(49,Bb),(54,Bb)]⟩
def RD:List (Nat × MFn):=[(53,Ass)]
variable (A:Ar) (D:Orc)
theorem Are(x0:ByteArray)(x1:Rw)(x2:Bool)(s1 s2:Rw)(s3:Int)(s4:Rw)(s5:Bool)(s6:Rw)(s7:Bool)(s8 s9 s10:Rw):Bp A D Ah Apx (.b (.b .n (.b .n (.b (.b (.b (.b (.b (.b (.b .n (.b (.b .n (.b .n (.t .n))) .n)) .n) .n) .n) .n) .n) (.b .n (.b .n (.b .n (.b .n (.b .n (.b .n (.b .n (.f .n))))))))))) .n) 53 Ass [sv x0,Ξ x1,bv x2,AwG (Fn.func 69) [] [ψ 0 0]] [bk [Ξ s1,Ξ s2,iv s3,Ξ s4,bv s5,Ξ s6,bv s7,Ξ s8,Ξ s9,Ξ s10]] =
 Ag D (Ω 91) [sv x0] [] [.t,.L,.A,.I,.I,.N,.I,.N,.E] λxs n n1 n2=>let y1:=Φ [iv 0,Ξ [],Ξ [],iv 0,sv (Ai []),sv (Ai []),Ξ []];br (A.eq n2 0) (Ag D (Ω 69) [ψ 0 0,ψ
 1 0] [bk [Ξ xs,iv 0,Ξ x1,bv x2],bk [Ξ s1,Ξ s2,iv s3,Ξ s4,bv s5,Ξ s6,bv s7,Ξ s8,Ξ s9,Ξ s10]] [.t,.A,.I,.L,.L,.I,.S,.S,.L,.N,.I,.N,.T,.L,.I,.L,.B,.N,.K,.E] λn3
 xs1 xs2 n4 s s11 xs3 n5 xs4 n6 xs5 b=>br (A.eq n5 0) (Ag D (Ω 92) [ψ 0 0] [bk [Ξ xs4,iv n6,Ξ xs5,bv b]] [.a,.I,.S,.I,.I,.N,.T,.L,.I,.L,.B,.N,.E] λn7 _ _ _ xs6 n10 xs7 b1=>
 let y2:=V (γ [Φ [iv n3,Ξ xs1,Ξ xs2,iv n4,sv s,sv s11,Ξ xs3],Φ [iv 0,iv 0],iv 0],[BO.keep]);br (A.eq n7 5) (br (A.eq n5 0) y2 Δ) (br (A.eq 101 0) y2 (Ag D (Ω 92) [ψ 0 0]
 [bk [Ξ xs6,iv n10,Ξ xs7,bv b1]] [.a,.I,.S,.I,.I,.N,.T,.L,.I,.L,.B,.N,.E] λ_ _ n12 n13 _ _ _ _=>V (γ [y1,Φ [iv n12,iv n13],iv 101],[BO.keep])))) (br (A.eq n5 0) Δ (AN D (Ω
 92) [ψ 0 0] [bk [Ξ xs4,iv n6,Ξ xs5,bv b]] λr2 o2=>dk [.a,.I,.S,.I,.I,.N,.T,.L,.I,.L,.B,.N,.E] [.v r2,.o o2] λ_ _ n8 n9 _ _ _ _=>V (γ [y1,Φ [iv n8,iv n9],iv n5],
 [BO.keep])))) (V (γ [y1,Φ [iv n,iv n1],iv n2],[BO.keep])):=by kernel_rfl
end
section
open Go.RowKit
def Asr:MFn:=BL [] 47
def Arv:Hnt:=⟨[(22,(.str,[])),(46,(.bool,[])),(90,(.ls,[]))],[],[(3,Bb),(7,[.ls]),(12,[.int .i64]),(13,[.str]),(14,[.str]),(18,[.ls])]⟩
def Avt:MFn:=BL [⟨64,(mB 1802),[(3,1)],[1],[(1,((mB 10),([],[])))]⟩] 63
def Avp:MFn:=BL [] 25
def XP:List (Nat × MFn):=[(47,Asr),(63,Avt),(25,Avp)]
variable (A:Ar) (D:Orc)
theorem e47(x0_0:Int)(x0_1 x0_2:Rw)(x0_3:Int)(x0_4 x0_5:ByteArray)(x0_6:Rw):Bp A D Ah Arv .n 47 Asr [Φ [iv x0_0,Ξ x0_1,Ξ x0_2,iv x0_3,sv x0_4,sv x0_5,Ξ x0_6]] [] =
 Ag D (Ω 46) [Φ [iv x0_0,Ξ x0_1,Ξ x0_2,iv x0_3,sv x0_4,sv x0_5,Ξ x0_6]] [] [.b,.E] λb=>
 br b
 (Ag D (Ω 22) [Ξ x0_1] [] [.s,.E] λs=>
 br ((A.slen s+A.slen (Ai [32])).ble 9223372036854775807) (AN D (Ω 90) [] [] λr2 o2=>
 NA r2 λxs=>
 CG o2<|
 unI x0_3 λi=>
 Bt xs i λcs=>
 dk [.S,.N] [.l cs] λs1=>
 br ((A.slen (A.cat s (Ai [32]))+A.slen s1).ble 9223372036854775807) (br ((A.slen (A.cat (A.cat s (Ai [32])) s1)+A.slen (Ai [32])).ble 9223372036854775807) (AN D (Ω 22) [Ξ x0_2] [] λr3 o3=>
 RJ r3 λs2=>
 CG o3<|
 br ((A.slen (A.cat (A.cat (A.cat s (Ai [32])) s1) (Ai [32]))+A.slen s2).ble 9223372036854775807) (V ((sv (A.cat (A.cat (A.cat (A.cat s (Ai [32])) s1) (Ai [32])) s2),[]))) Δ) Δ) Δ) Δ)
 (V ((sv (Ai []),[]))):=by kernel_rfl
end
section
open Go.RowKit
def AnJ:MFn:=BL [] 138
def Ami:Hnt:=⟨[],[],[]⟩
def AnI:MFn:=BL [] 137
def Wd:Hnt:=⟨[(47,(.str,[]))],[],[(4,[.int .i64]),(12,[.str]),(16,[.str]),(18,Bb)]⟩
def Akk:MFn:=BL [⟨56,(mB 1802),[(3,1)],[1],[(1,((mB 10),([],[])))]⟩] 80
def Y4:Hnt:=⟨[(80,(.str,[])),(134,(.bool,[])),(137,(.str,[])),(138,(.str,[]))],[(0,[(1,([.ptr 0 0,.sl 2 1],[.box Bb,.del,.row U]))])],[(8,[.ls]),(13,Bb),(14,Bb),(15,Bb),(18,[.int .i64]),(20,Bb),(34,Bb),(39,[.int .i64]),(42,[.str]),(43,[.str]),(46,[.str]),(47,[.str]),(49,[.int .i64]),(53,[.str]),(54,[.str])]⟩
def Asm:MFn:=BL [] 38
def Arq:Hnt:=⟨[(36,(.bool,[])),(80,(.str,[]))],[],[(3,Bb),(6,Bb)]⟩
def XN:List (Nat × MFn):=[(138,AnJ),(137,AnI),(80,Akk),(38,Asm)]
variable (A:Ar) (D:Orc)
theorem AtQ(x0:Int):Bp A D Ah Ami .n 138 AnJ [iv x0] [] =
 br (A.eq x0 3)
 (V ((sv (Ai [33]),[])))
 (br (A.eq x0 8)
 (V ((sv (Ai [88,32]),[])))
 (br (A.eq x0 9)
 (V ((sv (Ai [71,32]),[])))
 (br (A.eq x0 10)
 (V ((sv (Ai [70,32]),[])))
 (br (A.eq x0 4)
 (V ((sv (Ai [32,38,32]),[])))
 (br (A.eq x0 5)
 (V ((sv (Ai [32,124,32]),[])))
 (br (A.eq x0 7)
 (V ((sv (Ai [32,45,62,32]),[])))
 (br (A.eq x0 11)
 (V ((sv (Ai [32,85,32]),[])))
 (V ((sv (Ai [32,82,32]),[])))))))))):=by kernel_rfl
theorem Ajx(x0_0:Int)(x0_1 x0_2:Rw)(x0_3:Int)(x0_4 x0_5:ByteArray)(x0_6:Rw):Bp A D Ah Wd .n 137 AnI [Φ [iv x0_0,Ξ x0_1,Ξ x0_2,iv x0_3,sv x0_4,sv x0_5,Ξ x0_6]] [] =
 br (A.eq x0_0 0)
 (V ((sv (Ai [116,114,117,101]),[])))
 (br (A.eq x0_0 1)
 (V ((sv (Ai [102,97,108,115,101]),[])))
 (br (A.eq x0_0 6)
 (br ((A.slen (Ai [64])+A.slen x0_4).ble 9223372036854775807) (br ((A.slen (A.cat (Ai [64]) x0_4)+A.slen (Ai [46])).ble 9223372036854775807) (br ((A.slen (A.cat (A.cat (Ai [64]) x0_4) (Ai [46]))+A.slen x0_5).ble 9223372036854775807) (V ((sv (A.cat (A.cat (A.cat (Ai [64]) x0_4) (Ai [46])) x0_5),[]))) Δ) Δ) Δ)
 (Ag D (Ω 47) [Φ [iv x0_0,Ξ x0_1,Ξ x0_2,iv x0_3,sv x0_4,sv x0_5,Ξ x0_6]] [] [.s,.E] λs=>
 V ((sv s,[]))))):=by kernel_rfl
theorem e80(x0_0:Int)(x0_1 x0_2:Rw)(x0_3:Int)(x0_4 x0_5:ByteArray)(x0_6:Rw):Bp A D Ah Y4 .n 80 Akk [Φ [iv x0_0,Ξ x0_1,Ξ x0_2,iv x0_3,sv x0_4,sv x0_5,Ξ x0_6]] [] =
 Ag D (Awq 80 0) [ψ 0 0,ο 1 0 0 1,Ξ x0_6,iv ↑(AU x0_6),iv 0] [bk [iv x0_0,Ξ x0_1,Ξ x0_2,iv x0_3,sv x0_4,sv x0_5,Ξ x0_6],θ [] U U] [.t,.C,.x,.X,.Y] λc l o=>
 br (Bf 1 c)
 (dk [.P 0 0,.C,.q 2 1,.N,.T,.I,.L,.L,.I,.S,.S,.L,.N,.D,.R,.X,.E] [.l l,.o o] λn n1 xs xs1 n2 s s1 xs2 cs2=>
 br (A.eq (↑n) 0)
 (Ag D (Ω 137) [Φ [iv n1,Ξ xs,Ξ xs1,iv n2,sv s,sv s1,Ξ xs2]] [] [.s,.E] λs2=>
 V ((sv s2,[])))
 (br (A.eq (↑n) 1)
 (Ag D (Ω 138) [iv n1] [] [.s,.E] λs2=>
 br (Axu 0 n) (I5 cs2 0 1 λcs3=>
 dk [.S,.N] [.l cs3] λs3=>
 br ((A.slen s2+A.slen s3).ble 9223372036854775807) (V ((sv (A.cat s2 s3),[]))) Δ) Δ)
 (br (Axu 0 n) (I5 cs2 0 1 λcs3=>
 dk [.S,.N] [.l cs3] λs2=>
 Ag D (Ω 138) [iv n1] [] [.s,.E] λs3=>
 br ((A.slen s2+A.slen s3).ble 9223372036854775807) (br (Axu 1 n) (I5 cs2 1 1 λcs4=>
 dk [.S,.N] [.l cs4] λs4=>
 br ((A.slen (A.cat s2 s3)+A.slen s4).ble 9223372036854775807) (V ((sv (A.cat (A.cat s2 s3) s4),[]))) Δ) Δ) Δ) Δ)))
 (Δ):=by kernel_rfl
theorem AlR(b1_0:Int)(b1_1 b1_2:Rw)(b1_3:Int)(b1_4 b1_5:ByteArray)(b1_6:Rw)(n3:Nat)(c3:Ad)(t8:Rw)(t9 t10:Int):DI A D Ah Y4 .n 80 0 (AK Akk 0).fst (AK Akk 0).snd [ψ 0 0,ο 1 0 n3 1,Ξ t8,iv t9,iv t10] [bk [iv b1_0,Ξ b1_1,Ξ b1_2,iv b1_3,sv b1_4,sv b1_5,Ξ b1_6],{ cells:=c3,st:=U,ex:=U }] =
 let y1:=bk [iv b1_0,Ξ b1_1,Ξ b1_2,iv b1_3,sv b1_4,sv b1_5,Ξ b1_6];br (A.lt t10 t9) (unI t10 λi=>Bt t8 i λcs=>dk [.I,.L,.L,.I,.S,.S,.L,.N] [.l cs] λn xs xs1 n1 s s1 xs2=>
 let y2:=[iv n,Ξ xs,Ξ xs1,iv n1,sv s,sv s1,Ξ xs2];Ag D (Ω 80) [Φ y2] [] [.s,.E] λs2=>Ag D (Ω 134) [iv b1_0,iv t10,Φ y2] [] [.b,.E] λb=>
 let y4:=[ψ 0 0,ο 1 0 (n3+1) 1,Ξ t8,iv t9,iv (A.add φ t10 1)];br b (br ((A.slen (Ai [40])+A.slen s2).ble 9223372036854775807) (br ((A.slen (A.cat (Ai [40]) s2)+A.slen (Ai [41])).ble
 9223372036854775807) (br (Bh (n3+1) 16) (br ((0+n3*1).ble c3.length) (let y6:=[sv (A.cat (A.cat (Ai [40]) s2) (Ai [41]))];let y3:=θ (Awv 0 (Aws (0+n3*1) c3)++y6) U U;AN D
 (Awq 80 0) y4 [y1,y3] λr2 o2=>AO 2 [0,4] (AH.mk [(0,y1),(4,y3),(3,θ y6 U U),(2,bk y2)] 5 Δ) [1,0] r2 o2) Δ) Δ) Δ) Δ) (br (Bh (n3+1) 16) (br ((0+n3*1).ble c3.length)
 (let y5:=θ (Awv 0 (Aws (0+n3*1) c3)++[sv s2]) U U;AN D (Awq 80 0) y4 [y1,y5] λr2 o2=>AO 2 [0,4] (AH.mk [(0,y1),(4,y5),(3,θ [sv s2] U U),(2,bk y2)] 5 Δ) [1,0]
 r2 o2) Δ) Δ)) (V (γ [iv 0,ψ 0 0,ο 2 0 n3 1],[Awp y1,BO.del,Awp (θ c3 U U)])):=by kernel_rfl
theorem e38(x0_0:Int)(x0_1 x0_2:Rw)(x0_3:Int)(x0_4 x0_5:ByteArray)(x0_6:Rw):Bp A D Ah Arq .n 38 Asm [Φ [iv x0_0,Ξ x0_1,Ξ x0_2,iv x0_3,sv x0_4,sv x0_5,Ξ x0_6]] [] =
 let y1:=[Φ [iv x0_0,Ξ x0_1,Ξ x0_2,iv x0_3,sv x0_4,sv x0_5,Ξ x0_6]];Ag D (Ω 36) y1 [] [.b,.E] λb=>br b (Ag D (Ω 80) y1 [] [.s,.E] λs=>V (sv s,[])) (V (sv (Ai []),[])):=by kernel_rfl
end
section
open Go.RowKit
def Asz:MFn:=BL [] 69
def ArC:Hnt:=⟨[(70,(.tup [.agg Bb,.int .i64],[.box CJ]))],[],[(6,Kn)]⟩
def Asj:MFn:=BL [] 32
def Arn:Hnt:=⟨[(53,(.tup [.agg Bb,.agg Rs,.int .i64],[.keep]))],[],[(9,[.ls])]⟩
def XO:List (Nat × MFn):=[(69,Asz),(32,Asj)]
variable (A:Ar) (D:Orc)
theorem e69(p_0:Rw)(p_1:Int)(p_2:Rw)(p_3:Bool)(s1 s2:Rw)(s3:Int)(s4:Rw)(s5:Bool)(s6:Rw)(s7:Bool)(s8 s9 s10:Rw):Bp A D Ah ArC .n 69 Asz [ψ 0 0,ψ 1 0] [bk [Ξ p_0,iv p_1,Ξ p_2,bv p_3],bk [Ξ s1,Ξ s2,iv s3,Ξ s4,bv s5,Ξ s6,bv s7,Ξ s8,Ξ s9,Ξ s10]] =
 Ag D (Ω 70) [Φ [ψ 0 0,Ξ s1,Ξ s2,iv s3,Ξ s4,bv s5,Ξ s6,bv s7,Ξ s8,Ξ s9,Ξ s10],iv 0] [bk [Ξ p_0,iv p_1,Ξ p_2,bv p_3]] [.t,.A,.I,.L,.L,.I,.S,.S,.L,.N,.I,.N,.T,.L,.I,.L,.B,.N,.E] λn xs xs1 n1 s s11 xs2 n2 xs3 n3 xs4 b=>
 V ((γ [Φ [iv n,Ξ xs,Ξ xs1,iv n1,sv s,sv s11,Ξ xs2],iv n2],[Awp (bk [Ξ xs3,iv n3,Ξ xs4,bv b]),BO.keep])):=by kernel_rfl
theorem e32(x0:ByteArray)(x1_0 x1_1:Rw)(x1_2:Int)(x1_3:Rw)(x1_4:Bool)(x1_5:Rw)(x1_6:Bool)(x1_7 x1_8 x1_9:Rw):Bp A D Ah Arn .n 32 Asj [sv x0,Φ [Ξ x1_0,Ξ x1_1,iv x1_2,Ξ x1_3,bv x1_4,Ξ x1_5,bv x1_6,Ξ x1_7,Ξ x1_8,Ξ x1_9]] [] =
 Ag D (Ω 53) [sv x0,Ξ x1_0,bv U,AwG (Fn.func 69) [] [ψ 0 0]] [bk [Ξ x1_0,Ξ x1_1,iv x1_2,Ξ x1_3,bv x1_4,Ξ x1_5,bv x1_6,Ξ x1_7,Ξ x1_8,Ξ x1_9]] [.t,.A,.I,.L,.L,.I,.S,.S,.L,.N,.A,.I,.I,.N,.I,.N,.K,.E] λn xs xs1 n1 s s1 xs2 n2 n3 n4=>
 V ((γ [Φ [iv n,Ξ xs,Ξ xs1,iv n1,sv s,sv s1,Ξ xs2],Φ [iv n2,iv n3],iv n4],[])):=by kernel_rfl
end
section
open Go.RowKit
def Aso:MFn:=BL [] 42
def Ars:Hnt:=⟨[],[],[]⟩
def Asi:MFn:=BL [] 30
def Arm:Hnt:=⟨[(32,(.tup [.agg Bb,.agg Rs,.int .i64],[])),(34,(.tup [.agg Lj,.ls,.bool],[])),(36,(.bool,[])),(38,(.str,[])),(42,(.agg Kn,[]))],[],[(38,[.int .i64]),(43,[.ls]),(44,Bb),(46,[.int .i64]),(54,Rs),(63,Bb),(76,Bb),(80,Bb),(88,[.int .i64]),(98,GZ),(100,[.bool]),(104,GZ),(106,[.int .i64])]⟩
def Ake:MFn:=BL [⟨27,(mB 458752),[],[],[(0,([Θ,Θ,U],([],[]))),(1,([],([],[])))]⟩] 31
def Af7:Hnt:=⟨[],[(0,[(0,([.bool],[])),(1,([],[]))])],[(6,[.ls]),(11,[.ls]),(16,[.ls]),(20,OY),(21,OY),(23,[.ls])]⟩
def Mt:List (Nat × MFn):=[(42,Aso),(30,Asi),(31,Ake)]
variable (A:Ar) (D:Orc)
theorem e42:Bp A D Ah Ars .n 42 Aso [] [] =
 V ((Φ [Ξ [[sv (Ai [120])],[sv (Ai [121])]],Ξ [],iv 0,Ξ [],bv Θ,Ξ [],bv Θ,Ξ [],Ξ [[sv (Ai [112]),Ξ [[sv (Ai [97])],[sv (Ai [98])]],Ξ []]],Ξ []],[])):=by kernel_rfl
theorem e30:Bp A D Ah Arm .n 30 Asi [] [] =
 Ag D (Ω 42) [] [] [.a,.L,.L,.I,.L,.B,.L,.B,.L,.L,.L,.N,.E] λxs xs1 n xs2 b xs3 b1 xs4 xs5 xs6=>
 let y2:=λz1 z2 z3 z4 z5 z6 z7 z8 z9 z10=>Φ [Ξ z1,Ξ z2,iv z3,Ξ z4,bv z5,Ξ z6,bv z7,Ξ z8,Ξ z9,Ξ z10];Ag D (Ω 32) [sv (Ai [71,32,40,120,32,62,32,48,32,45,62,32,
 70,32,64,112,46,98,41]),y2 xs xs1 n xs2 b xs3 b1 xs4 xs5 xs6] [] [.t,.A,.I,.L,.L,.I,.S,.S,.L,.N,.A,.I,.I,.N,.I,.N,.E] λn1 xs7 xs8 n2 s s1 xs9 _ _ n5=>Ag D (Ω 42) [] [] [.a,.L,.L,.I,.L,.B,
 .L,.B,.L,.L,.L,.N,.E] λxs10 xs11 n6 xs12 b2 xs13 b3 xs14 xs15 xs16=>Ag D (Ω 32) [sv (Ai [120,32,61,32,49,32,85]),y2 xs10 xs11 n6 xs12 b2 xs13 b3 xs14 xs15 xs16] [] [.t,.A,.I,.L,.L,.I,.S,.S,.L,
 .N,.A,.I,.I,.N,.I,.N,.E] λ_ _ _ _ _ _ _ n9 n10 n11=>Ag D (Ω 42) [] [] [.a,.L,.L,.I,.L,.B,.L,.B,.L,.L,.L,.N,.E] λxs20 xs21 n12 xs22 b4 xs23 b5 xs24 xs25 xs26=>Ag D (Ω 32) [sv (Ai [64,
 112,46,99]),y2 xs20 xs21 n12 xs22 b4 xs23 b5 xs24 xs25 xs26] [] [.t,.A,.I,.L,.L,.I,.S,.S,.L,.N,.A,.I,.I,.N,.I,.N,.E] λ_ _ _ _ _ _ _ _ _ n17=>let y1:=V (bv Θ,[]);br (A.eq n5 0) (br (A.eq n1 9)
 (Bt xs9 0 λcs12=>dk [.I,.L,.L,.I,.S,.S,.L,.N] [.l cs12] λn18 _ _ _ _ _ _=>br (A.eq n18 7) (br (A.eq n11 101) (br (A.not (A.band (A.eq n9 1) (A.band (A.eq n10 8) U))) y1 (br (A.eq n17 110) (Ag D (Ω
 42) [] [] [.a,.L,.L,.I,.L,.B,.L,.B,.L,.L,.L,.N,.E] λxs33 xs34 n20 xs35 b6 xs36 b7 xs37 xs38 xs39=>let y3:=Φ [iv n1,Ξ xs7,Ξ xs8,iv n2,sv s,sv s1,Ξ xs9];Ag D (Ω 34) [y3,y2 xs33
 xs34 n20 xs35 b6 xs36 b7 xs37 xs38 xs39] [] [.t,.A,.I,.I,.L,.N,.L,.B,.N,.E] λn21 _ _ xs41 b8=>Ag D (Ω 42) [] [] [.a,.L,.L,.I,.L,.B,.L,.B,.L,.L,.L,.N,.E] λxs42 xs43 n23 xs44 b9 xs45 b10 xs46
 xs47 xs48=>Ag D (Ω 34) [Φ [iv 99,Ξ [],Ξ [],iv 0,sv (Ai []),sv (Ai []),Ξ []],y2 xs42 xs43 n23 xs44 b9 xs45 b10 xs46 xs47 xs48] [] [.t,.A,.I,.I,.L,.N,.L,.B,.N,.E] λ_ _ _ _ b11=>
 Ag D (Ω 38) [y3] [] [.s,.E] λs8=>br (A.seq s8 (Ai [71,32,40,120,32,62,32,48,32,45,62,32,70,32,64,112,46,98,41])) (Ag D (Ω 36) [y3] [] [.b,.E] λb12=>br b12 (br b8 (br (A.eq n21 9) (br
 (A.eq (↑(AU xs41)) 2) (Bt xs41 1 λcs19=>dk [.B,.I,.I,.I,.L,.B,.L,.B,.L,.N] [.l cs19] λb13 _ _ _ _ _ _ _ _=>br b13 (Bt xs41 1 λcs20=>dk [.B,.I,.I,.I,.L,.B,.L,.B,.L,.N] [.l cs20] λ_ _ n30
 _ _ _ _ _ _=>br (A.eq n30 1) (br (A.not b11) (V (bv U,[])) y1) y1) y1) y1) y1) y1) y1) y1) y1)) y1) y1) y1) y1:=by kernel_rfl
theorem e31(x0_0 x0_1:Rw)(x0_2:Int)(x0_3:Rw)(x0_4:Bool)(x0_5:Rw)(x0_6:Bool)(x0_7 x0_8 x0_9:Rw):Bp A D Ah Af7 .n 31 Ake [Φ [Ξ x0_0,Ξ x0_1,iv x0_2,Ξ x0_3,bv x0_4,Ξ x0_5,bv x0_6,Ξ x0_7,Ξ x0_8,Ξ x0_9]] [] =
 br (A.lt 50 ↑(AU x0_0))
 (V ((bv Θ,[])))
 (br (A.lt 12 ↑(AU x0_8))
 (V ((bv Θ,[])))
 (Ag D (Awq 31 0) [Ξ x0_8,iv ↑(AU x0_8),iv 0] [] [.t,.C,.x,.X,.Y] λc l o=>
 br (Bf 0 c)
 (dk [.B,.N,.E] [.l l,.o o] λb=>
 V ((bv b,[])))
 (br (Bf 1 c)
 (Dp l<|
 CG o<|
 V ((bv U,[])))
 (Δ)))):=by kernel_rfl
theorem AlL(t16:Rw)(t17 t18:Int):DI A D Ah Af7 .n 31 0 (AK Ake 0).fst (AK Ake 0).snd [Ξ t16,iv t17,iv t18] [] =
 br (A.lt t18 t17)
 (unI t18 λi=>
 Bt t16 i λcs=>
 dk [.S,.L,.L,.N] [.l cs] λs xs xs1=>
 br (A.lt 50 ↑(AU xs))
 (V ((γ [bv U,bv Θ],[])))
 (AN D (Awq 31 0) [Ξ t16,iv t17,iv (A.add φ t18 1)] [] λr o=>
 AO 0 [] (AH.mk [(0,bk [sv s,Ξ xs,Ξ xs1])] 1 Δ) [] r o))
 (V ((γ [iv 0],[]))):=by kernel_rfl
end
section
open Go.RowKit
def S6:MFn:=BL [⟨37,(mB 25),[(3,1)],[],[(1,((mB 8),([],[])))]⟩,⟨37,(mB 8),[(3,1)],[],[(3,((mB 8),([],[])))]⟩] 177
def OI:Hnt:=⟨[],[(0,[(1,([.sl 1 1],[.del,.row U]))]),(1,[(3,([.sl 1 1],[.del,.row U]))])],[(15,[.int .u32]),(16,[.int .u32]),(27,[.int .u32]),(28,[.int .u32])]⟩
def Aof:MFn:=BL [] 226
def AmS:Hnt:=⟨[],[],[]⟩
def Aog:MFn:=BL [] 227
def AmT:Hnt:=⟨[],[],[(15,[.int .u32]),(16,[.int .u32])]⟩
def Aa4:MFn:=BL [⟨28,(mB 35),[],[],[(0,((mB 16),([],[]))),(1,([],([],[])))]⟩] 229
def Wp:Hnt:=⟨[(226,(.int .i64,[])),(227,(.int .u64,[]))],[(0,[(0,([.int .i64],[])),(1,([],[]))])],[]⟩
def AaV:MFn:=BL [⟨36,(mB 227),[(5,1)],[],[(1,((mB 32),([],[])))]⟩] 181
def Wi:Hnt:=⟨[(177,(.ls,[])),(226,(.int .i64,[])),(227,(.int .u64,[]))],[(0,[(1,([.sl 1 1],[.del,.row U]))])],[]⟩
def AaX:MFn:=BL [⟨43,(mB 451),[(6,1)],[],[(1,((mB 64),([],[])))]⟩] 184
def Wj:Hnt:=⟨[(177,(.ls,[])),(226,(.int .i64,[])),(227,(.int .u64,[])),(229,(.int .i64,[]))],[(0,[(1,([.sl 1 1],[.del,.row U]))])],[]⟩
def Aa3:MFn:=BL [⟨37,(mB 227),[(5,1)],[],[(1,((mB 96),([],[])))]⟩] 228
def Wo:Hnt:=⟨[(177,(.ls,[])),(227,(.int .u64,[]))],[(0,[(1,([.sl 1 1,.int .u64],[.del,.row U]))])],[]⟩
def S7:MFn:=BL [⟨42,(mB 99),[],[5],[(1,((mB 32),([],[])))]⟩,⟨42,(mB 483),[(7,1)],[],[(3,((mB 195),([],[])))]⟩] 183
def OJ:Hnt:=⟨[(177,(.ls,[])),(181,(.ls,[])),(228,(.ls,[]))],[(0,[(1,([.ls],[]))]),(1,[(3,([.ls,.ls,.int .i64,.sl 1 1],[.del,.row U]))])],[(27,[.int .u32]),(28,[.int .u32]),(35,[.int .u32]),(36,[.int .u32])]⟩
def AaW:MFn:=BL [⟨40,(mB 49),[],[4],[(0,((mB 12),([2],[]))),(1,((mB 17),([],[])))]⟩] 182
def Qw:Hnt:=⟨[(177,(.ls,[])),(181,(.ls,[])),(228,(.ls,[]))],[(0,[(0,(Rr,[])),(1,([.str,.ls],[]))])],[]⟩
def Aa8:MFn:=BL [⟨26,(mB 35),[],[],[(0,((mB 16),([],[]))),(1,([],([],[])))]⟩] 258
def Qy:Hnt:=⟨[],[(0,[(0,([.bool],[])),(1,([],[]))])],[(19,[.int .u32]),(20,[.int .u32]),(23,[.int .u32]),(24,[.int .u32])]⟩
def TE:List (Nat × MFn):=[(177,S6),(226,Aof),(227,Aog),(229,Aa4),(181,AaV),(184,AaX),(228,Aa3),(183,S7),(182,AaW),(258,Aa8)]
variable (A:Ar) (D:Orc)
theorem Auf(x0:Rw):Bp A D Ah OI .n 177 S6 [Ξ x0] [] =
 Ag D (Awq 177 0) [Ξ x0,ο 0 0 0 1,iv 0] [θ [] U U] [.t,.C,.x,.X,.Y] λc l o=>
 br (Bf 1 c)
 (dk [.C,.q 1 1,.N,.D,.R,.X,.E] [.l l,.o o] λn cs1=>
 Ag D (Awq 177 1) [ο 0 0 n 1] [θ cs1 U U] [.t,.C,.x,.X,.Y] λc4 l4 o1=>
 br (Bf 3 c4)
 (dk [.C,.q 1 1,.N,.D,.R,.X,.E] [.l l4,.o o1] λn1 cs3=>
 br ((0+n1*1).ble cs3.length) (V ((Ξ (By n1 1 (Aws (n1*1) cs3)),[]))) Δ)
 (Δ))
 (Δ):=by kernel_rfl
theorem Ae4(t0:Rw)(n3:Nat)(c3:Ad)(t4:Int):DI A D Ah OI .n 177 0 (AK S6 0).fst (AK S6 0).snd [Ξ t0,ο 0 0 n3 1,iv t4] [{ cells:=c3,st:=U,ex:=U }] =
 br (A.lt t4 ↑(AU t0)) (unI t4 λi=>Bt t0 i λcs=>dk [.J .u32,.N] [.l cs] λn=>br (Bh (n3+1) 4) (br ((0+n3*1).ble c3.length)
 (let y1:=θ (Awv 0 (Aws (0+n3*1) c3)++[AwB (Value.int ν n)]) U U;AN D (Awq 177 0) [Ξ t0,ο 0 0 (n3+1) 1,iv (A.add φ t4 1)] [y1] λr o=>AO 1 [2] (AH.mk
 [(2,y1),(1,θ [AwB (Value.int ν n)] U U)] 3 Δ) [0] r o) Δ) Δ) (V (γ [iv 0,ο 1 0 n3 1],[BO.del,Awp (θ c3 U U)])):=by kernel_rfl
theorem Ae5(n3:Nat)(c3:Ad):DI A D Ah OI .n 177 1 (AK S6 1).fst (AK S6 1).snd [ο 0 0 n3 1] [{ cells:=c3,st:=U,ex:=U }] =
 let y1:=V (γ [iv 2,ο 1 0 n3 1],[BO.del,Awp (θ c3 U U)]);br (A.lt 0 ↑n3) (unI (A.sub φ (↑n3) 1) λi=>br (i.blt n3) (I5 c3 (0+i*1) 1 λcs=>dk [.J .u32,.N] [.l cs] λn=>br
 (A.eq n 0) (unI (A.sub φ (↑n3) 1) λi1=>br (Lr 0 i1 n3) (AN D (Awq 177 1) [ο 0 0 i1 1] [θ c3 U U] λr o=>AO 1 [0] (AH.mk [(0,θ c3 U U)] 1 Δ) [] r o) Δ) y1) Δ) y1:=by kernel_rfl
theorem AuF(x0 x1:Rw):Bp A D Ah AmS .n 226 Aof [Ξ x0,Ξ x1] [] =
 br (A.lt ↑(AU x1) ↑(AU x0))
 (V ((iv ↑(AU x0),[])))
 (V ((iv ↑(AU x1),[]))):=by kernel_rfl
theorem AuG(x0:Rw)(x1:Int):Bp A D Ah AmT .n 227 Aog [Ξ x0,iv x1] [] =
 br (A.lt x1 0)
 (V ((AwB (Value.int ι 0),[])))
 (br (A.le (↑(AU x0)) x1)
 (V ((AwB (Value.int ι 0),[])))
 (unI x1 λi=>
 Bt x0 i λcs=>
 dk [.J .u32,.N] [.l cs] λn=>
 V ((AwB (Value.int ι (A.conv ι n)),[])))):=by kernel_rfl
theorem AuI(x0 x1:Rw):Bp A D Ah Wp .n 229 Aa4 [Ξ x0,Ξ x1] [] =
 Ag D (Ω 226) [Ξ x0,Ξ x1] [] [.i,.E] λn=>
 Ag D (Awq 229 0) [Ξ x0,Ξ x1,iv (A.sub φ n 1)] [] [.t,.C,.x,.X,.Y] λc l o1=>
 br (Bf 0 c)
 (dk [.I,.N,.E] [.l l,.o o1] λn1=>
 V ((iv n1,[])))
 (br (Bf 1 c)
 (Dp l<|
 CG o1<|
 V ((iv 0,[])))
 (Δ)):=by kernel_rfl
theorem Afi(t0 t1:Rw)(t5:Int):DI A D Ah Wp .n 229 0 (AK Aa4 0).fst (AK Aa4 0).snd [Ξ t0,Ξ t1,iv t5] [] =
 br (A.le 0 t5)
 (Ag D (Ω 227) [Ξ t0,iv t5] [] [.j .u64,.E] λn=>
 Ag D (Ω 227) [Ξ t1,iv t5] [] [.j .u64,.E] λn1=>
 br (A.lt n n1)
 (V ((γ [bv U,iv (-1)],[])))
 (Ag D (Ω 227) [Ξ t0,iv t5] [] [.j .u64,.E] λn2=>
 Ag D (Ω 227) [Ξ t1,iv t5] [] [.j .u64,.E] λn3=>
 br (A.lt n3 n2)
 (V ((γ [bv U,iv 1],[])))
 (AN D (Awq 229 0) [Ξ t0,Ξ t1,iv (A.sub φ t5 1)] [] λr4 o4=>
 AO 0 [] (AH.mk [] 0 Δ) [] r4 o4)))
 (V ((γ [iv 0],[]))):=by kernel_rfl
theorem Auj(x0 x1:Rw):Bp A D Ah Wi .n 181 AaV [Ξ x0,Ξ x1] [] =
 Ag D (Awq 181 0) [Ξ x0,Ξ x1,ο 0 0 0 1,AwB (Value.int ι 0),iv 0] [θ [] U U] [.t,.C,.x,.X,.Y] λc l o=>
 br (Bf 1 c)
 (dk [.C,.q 1 1,.N,.D,.R,.X,.E] [.l l,.o o] λn cs1=>
 br ((0+n*1).ble cs1.length) (AN D (Ω 177) [Ξ (By n 1 (Aws (n*1) cs1))] [] λr1 o1=>
 NA r1 λxs=>
 CG o1<|
 V ((Ξ xs,[]))) Δ)
 (Δ):=by kernel_rfl
theorem Ae7(t0 t1:Rw)(n5:Nat)(c5:Ad)(t6 t7:Int):DI A D Ah Wi (.b (.b (.b .n (.b .n (.f .n))) .n) .n) 181 0 (AK AaV 0).fst (AK AaV 0).snd [Ξ t0,Ξ t1,ο 0 0 n5 1,AwB (Value.int ι t6),iv t7] [{ cells:=c5,st:=U,ex:=U }] =
 Ag D (Ω 226) [Ξ t0,Ξ t1] [] [.i,.E] λn=>br (A.le t7 n) (Ag D (Ω 227) [Ξ t0,iv t7] [] [.j .u64,.E] λn1=>Ag D (Ω 227) [Ξ t1,iv t7] [] [.j .u64,.E] λn2=>br (A.eq 4294967296
 0) Δ (br (Bh (n5+1) 4) (br ((0+n5*1).ble c5.length) (br (A.eq 4294967296 0) Δ (let y2:=A.conv ν (A.rem ι (A.add ι (A.add ι n1 n2) t6) 4294967296);
 let y1:=θ (Awv 0 (Aws (0+n5*1) c5)++[AwB (Value.int ν y2)]) U U;AN D (Awq 181 0) [Ξ t0,Ξ t1,ο 0 0 (n5+1) 1,AwB (Value.int ι (A.quo ι (A.add
 ι (A.add ι n1 n2) t6) 4294967296)),iv (A.add φ t7 1)] [y1] λr3 o3=>AO 1 [2] (AH.mk [(2,y1),(1,θ [AwB (Value.int ν y2)] U U)] 3 Δ) [0] r3 o3)) Δ) Δ)) (V
 (γ [iv 0,ο 1 0 n5 1],[BO.del,Awp (θ c5 U U)])):=by kernel_rfl
theorem Aum(x0 x1:Rw):Bp A D Ah Wj .n 184 AaX [Ξ x0,Ξ x1] [] =
 Ag D (Ω 229) [Ξ x0,Ξ x1] [] [.i,.E] λn=>
 br (A.lt n 0)
 (V ((γ [Ξ [],bv Θ],[])))
 (Ag D (Awq 184 0) [Ξ x0,Ξ x1,ο 0 0 0 1,AwB (Value.int ι 0),iv 0] [θ [] U U] [.t,.C,.x,.X,.Y] λc l o1=>
 br (Bf 1 c)
 (dk [.C,.q 1 1,.N,.D,.R,.X,.E] [.l l,.o o1] λn1 cs1=>
 br ((0+n1*1).ble cs1.length) (AN D (Ω 177) [Ξ (By n1 1 (Aws (n1*1) cs1))] [] λr2 o2=>
 NA r2 λxs=>
 CG o2<|
 V ((γ [Ξ xs,bv U],[]))) Δ)
 (Δ)):=by kernel_rfl
theorem Afa(t0 t1:Rw)(n6:Nat)(c6:Ad)(t7 t8:Int):DI A D Ah Wj (.b (.b (.b .n (.b .n (.f .n))) .n) .n) 184 0 (AK AaX 0).fst (AK AaX 0).snd [Ξ t0,Ξ t1,ο 0 0 n6 1,AwB (Value.int ι t7),iv t8] [{ cells:=c6,st:=U,ex:=U }] =
 Ag D (Ω 226) [Ξ t0,Ξ t1] [] [.i,.E] λn=>br (A.lt t8 n) (Ag D (Ω 227) [Ξ t0,iv t8] [] [.j .u64,.E] λn1=>Ag D (Ω 227) [Ξ t1,iv t8] [] [.j .u64,.E] λn2=>br (A.eq 4294967296
 0) Δ (br (Bh (n6+1) 4) (br ((0+n6*1).ble c6.length) (br (A.eq 4294967296 0) Δ (let y3:=A.sub ι (A.sub ι (A.add ι n1 4294967296) n2) t7;
 let y1:=A.conv ν (A.rem ι y3 4294967296);let y2:=θ (Awv 0 (Aws (0+n6*1) c6)++[AwB (Value.int ν y1)]) U U;AN D (Awq 184 0) [Ξ t0,Ξ t1,ο 0 0 (n6
 + 1) 1,AwB (Value.int ι (A.sub ι 1 (A.quo ι y3 4294967296))),iv (A.add φ t8 1)] [y2] λr3 o3=>AO 1 [2] (AH.mk [(2,y2),(1,θ [AwB (Value.int ν y1)] U U)]
 3 Δ) [0] r3 o3)) Δ) Δ)) (V (γ [iv 0,ο 1 0 n6 1],[BO.del,Awp (θ c6 U U)])):=by kernel_rfl
theorem AuH(x0:Rw)(x1:Int):Bp A D Ah Wo .n 228 Aa3 [Ξ x0,AwB (Value.int ι x1)] [] =
 Ag D (Awq 228 0) [Ξ x0,AwB (Value.int ι x1),ο 0 0 0 1,AwB (Value.int ι 0),iv 0] [θ [] U U] [.t,.C,.x,.X,.Y] λc l o=>
 br (Bf 1 c)
 (dk [.C,.q 1 1,.J .u64,.N,.D,.R,.X,.E] [.l l,.o o] λn n1 cs1=>
 br (Bh (n+1) 4) (br ((0+n*1).ble cs1.length) (br ((0+(n+1)*1).ble (Awv 0 (Aws (0+n*1) cs1)++[AwB (Value.int ν (A.conv ν n1))]).length) (AN D (Ω 177) [Ξ (By (n+1) 1 (Aws ((n+1)*1) (Awv 0 (Awv 0 (Aws (0+n*1) cs1)++[AwB (Value.int ν (A.conv ν n1))]))))] [] λr1 o1=>
 NA r1 λxs=>
 CG o1<|
 V ((Ξ xs,[]))) Δ) Δ) Δ)
 (Δ):=by kernel_rfl
theorem Afh(t0:Rw)(t1:Int)(n5:Nat)(c5:Ad)(t6 t7:Int):DI A D Ah Wo (.b (.b (.b .n (.b .n (.f .n))) .n) .n) 228 0 (AK Aa3 0).fst (AK Aa3 0).snd [Ξ t0,AwB (Value.int ι t1),ο 0 0 n5 1,AwB (Value.int ι t6),iv t7] [{ cells:=c5,st:=U,ex:=U }] =
 br (A.lt t7 ↑(AU t0)) (Ag D (Ω 227) [Ξ t0,iv t7] [] [.j .u64,.E] λn=>br (A.eq 4294967296 0) Δ (br (Bh (n5+1) 4) (br ((0+n5*1).ble c5.length) (br (A.eq 4294967296 0) Δ
 (let y2:=A.conv ν (A.rem ι (A.add ι (A.mul ι n t1) t6) 4294967296);let y1:=θ (Awv 0 (Aws (0+n5*1) c5)++[AwB (Value.int ν y2)]) U U;AN D
 (Awq 228 0) [Ξ t0,AwB (Value.int ι t1),ο 0 0 (n5+1) 1,AwB (Value.int ι (A.quo ι (A.add ι (A.mul ι n t1) t6) 4294967296)),iv (A.add φ t7 1)] [y1] fun
 r1 o1=>AO 1 [2] (AH.mk [(2,y1),(1,θ [AwB (Value.int ν y2)] U U)] 3 Δ) [0] r1 o1)) Δ) Δ)) (V (γ [iv 0,ο 1 0 n5 1,AwB (Value.int ι t6)],[BO.del,Awp (θ c5
 U U)])):=by kernel_rfl
theorem Aul(x0 x1:Rw):Bp A D Ah OJ .n 183 S7 [Ξ x0,Ξ x1] [] =
 Ag D (Awq 183 0) [Ξ x0,Ξ x1,Ξ [],iv (A.sub φ (↑(AU x1)) 1)] [] [.t,.C,.x,.X,.Y] λc l o=>
 br (Bf 1 c)
 (dk [.L,.N,.E] [.l l,.o o] λxs=>
 Ag D (Ω 177) [Ξ xs] [] [.l,.E] λxs1=>
 V ((Ξ xs1,[])))
 (Δ):=by kernel_rfl
theorem Ae8(t0 t1 t5:Rw)(t6:Int):DI A D Ah OJ .n 183 0 (AK S7 0).fst (AK S7 0).snd [Ξ t0,Ξ t1,Ξ t5,iv t6] [] =
 br (A.le 0 t6)
 (Ag D (Awq 183 1) [Ξ t0,Ξ t1,Ξ t5,iv t6,ο 0 0 1 1,iv 0] [θ [AwB (Value.int ν 0)] U U] [.t,.C,.x,.X,.Y] λc l o=>
 br (Bf 3 c)
 (dk [.L,.L,.I,.C,.q 1 1,.N,.D,.R,.X,.E] [.l l,.o o] λxs xs1 n n1 cs1=>
 unI n λi=>
 Bt xs1 i λcs2=>
 dk [.J .u32,.N] [.l cs2] λn2=>
 Ag D (Ω 228) [Ξ xs,AwB (Value.int ι (A.conv ι n2))] [] [.l,.E] λxs2=>
 br ((0+n1*1).ble cs1.length) (AN D (Ω 181) [Ξ (By n1 1 (Aws (n1*1) cs1)),Ξ xs2] [] λr2 o2=>
 NA r2 λxs3=>
 CG o2<|
 AN D (Awq 183 0) [Ξ xs,Ξ xs1,Ξ xs3,iv (A.sub φ n 1)] [] λr3 o3=>
 AO 0 [] (AH.mk [(1,θ cs1 Θ U)] 2 Δ) [] r3 o3) Δ)
 (Δ))
 (V ((γ [iv 0,Ξ t5],[]))):=by kernel_rfl
theorem Ae9(t0 t1 t5:Rw)(t6:Int)(n7:Nat)(c7:Ad)(t8:Int):DI A D Ah OJ .n 183 1 (AK S7 1).fst (AK S7 1).snd [Ξ t0,Ξ t1,Ξ t5,iv t6,ο 0 0 n7 1,iv t8] [{ cells:=c7,st:=U,ex:=U }] =
 br (A.lt t8 ↑(AU t5)) (unI t8 λi=>Bt t5 i λcs=>dk [.J .u32,.N] [.l cs] λn=>br (Bh (n7+1) 4) (br ((0+n7*1).ble c7.length)
 (let y1:=θ (Awv 0 (Aws (0+n7*1) c7)++[AwB (Value.int ν n)]) U U;AN D (Awq 183 1) [Ξ t0,Ξ t1,Ξ t5,iv t6,ο 0 0 (n7+1) 1,iv (A.add φ t8 1)] [y1] fun
 r o=>AO 1 [2] (AH.mk [(2,y1),(1,θ [AwB (Value.int ν n)] U U)] 3 Δ) [0] r o) Δ) Δ) (V (γ [iv 2,Ξ t0,Ξ t1,iv t6,ο 1 0 n7 1],[BO.del,Awp (θ c7 U U)])):=by kernel_rfl
theorem Auk(x0:ByteArray):Bp A D Ah Qw .n 182 AaW [sv x0] [] =
 br (A.lt 4000 ↑(A.slen x0))
 (V ((γ [Ξ [],iv 2],[])))
 (Ag D (Awq 182 0) [sv x0,Ξ [],iv 0] [] [.t,.C,.x,.X,.Y] λc l o=>
 br (Bf 0 c)
 (dk [.L,.I,.N,.E] [.l l,.o o] λxs n=>
 V ((γ [Ξ xs,iv n],[])))
 (br (Bf 1 c)
 (dk [.S,.L,.N,.E] [.l l,.o o] λs xs=>
 br (A.eq (↑(A.slen s)) 0)
 (V ((γ [Ξ [],iv 20],[])))
 (Ag D (Ω 177) [Ξ xs] [] [.l,.E] λxs1=>
 V ((γ [Ξ xs1,iv 0],[]))))
 (Δ))):=by kernel_rfl
theorem Uk(t0:ByteArray)(t4:Rw)(t5:Int):DI A D Ah Qw .n 182 0 (AK AaW 0).fst (AK AaW 0).snd [sv t0,Ξ t4,iv t5] [] =
 br (A.lt t5 ↑(A.slen t0)) (unI t5 λi=>br (i.blt (A.slen t0)) (let y1:=V (γ [bv U,Ξ [],iv 20],[]);br (A.lt (A.sat t0 i) 48) y1 (unI t5 λi1=>br (i1.blt (A.slen t0)) (br (A.lt 57 (A.sat t0 i1)) y1
 (Ag D (Ω 228) [Ξ t4,AwB (Value.int ι 10)] [] [.l,.E] λxs=>unI t5 λi2=>br (i2.blt (A.slen t0)) (AN D (Ω 181) [Ξ xs,Ξ [[AwB (Value.int ν (A.conv ν (A.sub
 Ayu (A.sat t0 i2) 48)))]]] [] λr1 o1=>dk [.l,.E] [.v r1,.o o1] λxs1=>AN D (Awq 182 0) [sv t0,Ξ xs1,iv (A.add φ t5 1)] [] λr2 o2=>AO 0 [] (AH.mk [(0,θ [AwB (Value.int
 ν (A.conv ν (A.sub Ayu (A.sat t0 i2) 48)))] Θ U)] 1 Δ) [] r2 o2) Δ)) Δ)) Δ) (V (γ [iv 0,sv t0,Ξ t4],[])):=by kernel_rfl
theorem AuT(x0 x1:Rw):Bp A D Ah Qy .n 258 Aa8 [Ξ x0,Ξ x1] [] =
 br (A.eq ↑(AU x0) ↑(AU x1))
 (Ag D (Awq 258 0) [Ξ x0,Ξ x1,iv 0] [] [.t,.C,.x,.X,.Y] λc l o=>
 br (Bf 0 c)
 (dk [.B,.N,.E] [.l l,.o o] λb=>
 V ((bv b,[])))
 (br (Bf 1 c)
 (Dp l<|
 CG o<|
 V ((bv U,[])))
 (Δ)))
 (V ((bv Θ,[]))):=by kernel_rfl
theorem Uo(t0 t1:Rw)(t5:Int):DI A D Ah Qy .n 258 0 (AK Aa8 0).fst (AK Aa8 0).snd [Ξ t0,Ξ t1,iv t5] [] =
 br (A.lt t5 ↑(AU t0))
 (unI t5 λi=>
 Bt t0 i λcs=>
 dk [.J .u32,.N] [.l cs] λn=>
 unI t5 λi1=>
 Bt t1 i1 λcs1=>
 dk [.J .u32,.N] [.l cs1] λn1=>
 br (A.eq n n1)
 (AN D (Awq 258 0) [Ξ t0,Ξ t1,iv (A.add φ t5 1)] [] λr o=>
 AO 0 [] (AH.mk [] 0 Δ) [] r o)
 (V ((γ [bv U,bv Θ],[]))))
 (V ((γ [iv 0],[]))):=by kernel_rfl
end
section
open Go.RowKit
def An2:MFn:=BL [] 180
def AmE:Hnt:=⟨[(177,(.ls,[]))],[],[]⟩
def An1:MFn:=BL [] 179
def AmD:Hnt:=⟨[(180,(.agg BD,[]))],[],[(4,[.bool]),(6,[.ls])]⟩
def Anx:MFn:=BL [] 119
def Al9:Hnt:=⟨[(180,(.agg BD,[])),(181,(.ls,[]))],[],[]⟩
def Anv:MFn:=BL [] 116
def Al7:Hnt:=⟨[(177,(.ls,[]))],[],[(4,[.ls]),(9,[.bool])]⟩
def AnB:MFn:=BL [] 123
def Amc:Hnt:=⟨[(180,(.agg BD,[]))],[],[(4,[.bool]),(7,[.ls])]⟩
def AnC:MFn:=BL [] 124
def AfY:Hnt:=⟨[(116,(.int .i64,[])),(124,(.agg BD,[])),(180,(.agg BD,[])),(181,(.ls,[])),(184,(.tup [.ls,.bool],[]))],[],[(7,BD),(11,BD),(16,[.ls]),(18,[.ls]),(21,BD),(25,BD),(30,[.ls]),(32,[.ls]),(35,BD),(38,BD),(39,BD),(43,[.ls]),(45,[.ls]),(54,[.ls]),(56,[.ls])]⟩
def Anw:MFn:=BL [] 118
def Al8:Hnt:=⟨[(123,(.agg BD,[])),(124,(.agg BD,[]))],[],[(5,BD),(6,BD)]⟩
def AnA:MFn:=BL [] 122
def Amb:Hnt:=⟨[(116,(.int .i64,[])),(180,(.agg BD,[])),(183,(.ls,[]))],[],[(5,BD),(7,BD),(12,[.ls]),(14,[.ls])]⟩
def Asy:MFn:=BL [] 67
def ArB:Hnt:=⟨[(116,(.int .i64,[])),(118,(.agg BD,[]))],[],[(5,BD),(6,BD)]⟩
def Anz:MFn:=BL [] 120
def Ama:Hnt:=⟨[(180,(.agg BD,[])),(182,(.tup Rr,[]))],[],[]⟩
def Aoj:MFn:=BL [] 238
def AmV:Hnt:=⟨[(258,(.bool,[]))],[],[(6,[.bool]),(8,[.bool]),(12,[.ls]),(14,[.ls])]⟩
def AbO:List (Nat × MFn):=[(180,An2),(179,An1),(119,Anx),(116,Anv),(123,AnB),(124,AnC),(118,Anw),(122,AnA),(67,Asy),(120,Anz),(238,Aoj)]
variable (A:Ar) (D:Orc)
theorem Aui(x0:Bool)(x1:Rw):Bp A D Ah AmE .n 180 An2 [bv x0,Ξ x1] [] =
 Ag D (Ω 177) [Ξ x1] [] [.l,.E] λxs=>
 br (A.eq (↑(AU xs)) 0)
 (V ((Φ [bv Θ,Ξ []],[])))
 (V ((Φ [bv x0,Ξ xs],[]))):=by kernel_rfl
theorem Auh(x0_0:Bool)(x0_1:Rw):Bp A D Ah AmD .n 179 An1 [Φ [bv x0_0,Ξ x0_1]] [] =
 Ag D (Ω 180) [bv x0_0,Ξ x0_1] [] [.a,.B,.L,.N,.E] λb xs=>
 V ((Φ [bv b,Ξ xs],[])):=by kernel_rfl
theorem AtG(x0:Int):Bp A D Ah Al9 (.b (.b (.b .n (.f .n)) .n) (.b .n (.b .n (.f .n)))) 119 Anx [iv x0] [] =
 let y1:=A.eq 4294967296 0;br (A.le 0 x0) (br y1 Δ (br y1 Δ (AN D (Ω 180) [bv Θ,Ξ [[AwB (Value.int ν (A.conv ν (A.rem φ x0 4294967296)))],[AwB (Value.int ν
 (A.conv ν (A.quo φ x0 4294967296)))]]] [] λr o=>dk [.a,.B,.L,.N,.E] [.v r,.o o] λb xs=>V (Φ [bv b,Ξ xs],[])))) (br y1 Δ (br y1 Δ (AN D (Ω 181) [Ξ [[AwB
 (Value.int ν (A.conv ν (A.rem φ (A.sub φ 0 (A.add φ x0 1)) 4294967296)))],[AwB (Value.int ν (A.conv ν (A.quo φ (A.sub φ 0 (A.add
 φ x0 1)) 4294967296)))]],Ξ [[AwB (Value.int ν 1)]]] [] λr o=>NA r λxs=>CG o<|Ag D (Ω 180) [bv U,Ξ xs] [] [.a,.B,.L,.N,.E] λb xs1=>V (Φ [bv b,Ξ xs1],
 [])))):=by kernel_rfl
theorem AtD(x0_0:Bool)(x0_1:Rw):Bp A D Ah Al7 .n 116 Anv [Φ [bv x0_0,Ξ x0_1]] [] =
 Ag D (Ω 177) [Ξ x0_1] [] [.l,.E] λxs=>
 br (A.eq (↑(AU xs)) 0)
 (V ((iv 0,[])))
 (br x0_0
 (V ((iv (-1),[])))
 (V ((iv 1,[])))):=by kernel_rfl
theorem AtJ(x0_0:Bool)(x0_1:Rw):Bp A D Ah Amc .n 123 AnB [Φ [bv x0_0,Ξ x0_1]] [] =
 br (A.not x0_0)
 (Ag D (Ω 180) [bv U,Ξ x0_1] [] [.a,.B,.L,.N,.E] λb xs=>
 V ((Φ [bv b,Ξ xs],[])))
 (Ag D (Ω 180) [bv Θ,Ξ x0_1] [] [.a,.B,.L,.N,.E] λb xs=>
 V ((Φ [bv b,Ξ xs],[]))):=by kernel_rfl
theorem AqZ(x0_0:Bool)(x0_1:Rw)(x1_0:Bool)(x1_1:Rw):Bp A D Ah AfY .n 124 AnC [Φ [bv x0_0,Ξ x0_1],Φ [bv x1_0,Ξ x1_1]] [] =
 let y5:=Φ [bv x0_0,Ξ x0_1];Ag D (Ω 116) [y5] [] [.i,.E] λn=>let y3:=λz1=>Ag D (Ω 180) [bv Θ,Ξ z1] [] [.a,.B,.L,.N,.E] λb1 xs1=>V (Φ [bv b1,Ξ xs1],[]);
 let y4:=λz1=>Ag D (Ω 180) [bv U,Ξ z1] [] [.a,.B,.L,.N,.E] λb2 xs2=>V (Φ [bv b2,Ξ xs2],[]);let y7:=Φ [bv x1_0,Ξ x1_1];
 let y1:=Ag D (Ω 116) [y5] [] [.i,.E] λn4=>br (A.lt n4 0) (Ag D (Ω 124) [y7,y5] [] [.a,.B,.L,.N,.E] λb xs=>V (Φ [bv b,Ξ xs],[])) (Ag D (Ω 184) [Ξ x0_1,Ξ x1_1] [] [.t,.L,.B,.N,.E] λxs b=>br b (y3 xs) (Ag D (Ω 184) [Ξ x1_1,Ξ x0_1] [] [.t,.L,.B,.N,.E] λxs1 _=>y4 xs1));
 let y6:=λz1=>Ag D (Ω 181) [Ξ x0_1,Ξ x1_1] [] [.l,.E] λxs=>z1 xs;
 let y2:=Ag D (Ω 116) [y5] [] [.i,.E] λn2=>br (A.le 0 n2) (Ag D (Ω 116) [y7] [] [.i,.E] λn3=>br (A.le 0 n3) (y6 y3) y1) y1;br (A.lt n 0) (Ag D (Ω 116) [y7] [] [.i,.E] λn1=>br (A.lt n1 0)
 (y6 y4) y2) y2:=by kernel_rfl
theorem AtF(x0_0:Bool)(x0_1:Rw)(x1_0:Bool)(x1_1:Rw):Bp A D Ah Al8 .n 118 Anw [Φ [bv x0_0,Ξ x0_1],Φ [bv x1_0,Ξ x1_1]] [] =
 Ag D (Ω 123) [Φ [bv x1_0,Ξ x1_1]] [] [.a,.B,.L,.N,.E] λb xs=>
 Ag D (Ω 124) [Φ [bv x0_0,Ξ x0_1],Φ [bv b,Ξ xs]] [] [.a,.B,.L,.N,.E] λb1 xs1=>
 V ((Φ [bv b1,Ξ xs1],[])):=by kernel_rfl
theorem AtI(x0_0:Bool)(x0_1:Rw)(x1_0:Bool)(x1_1:Rw):Bp A D Ah Amb .n 122 AnA [Φ [bv x0_0,Ξ x0_1],Φ [bv x1_0,Ξ x1_1]] [] =
 Ag D (Ω 116) [Φ [bv x0_0,Ξ x0_1]] [] [.i,.E] λn=>
 Ag D (Ω 116) [Φ [bv x1_0,Ξ x1_1]] [] [.i,.E] λn1=>
 br (A.lt (A.mul φ n n1) 0)
 (Ag D (Ω 183) [Ξ x0_1,Ξ x1_1] [] [.l,.E] λxs=>
 Ag D (Ω 180) [bv U,Ξ xs] [] [.a,.B,.L,.N,.E] λb xs1=>
 V ((Φ [bv b,Ξ xs1],[])))
 (Ag D (Ω 183) [Ξ x0_1,Ξ x1_1] [] [.l,.E] λxs=>
 Ag D (Ω 180) [bv Θ,Ξ xs] [] [.a,.B,.L,.N,.E] λb xs1=>
 V ((Φ [bv b,Ξ xs1],[]))):=by kernel_rfl
theorem e67(x0_0:Bool)(x0_1:Rw)(x1_0:Bool)(x1_1:Rw):Bp A D Ah ArB .n 67 Asy [Φ [bv x0_0,Ξ x0_1],Φ [bv x1_0,Ξ x1_1]] [] =
 Ag D (Ω 118) [Φ [bv x0_0,Ξ x0_1],Φ [bv x1_0,Ξ x1_1]] [] [.a,.B,.L,.N,.E] λb xs=>
 Ag D (Ω 116) [Φ [bv b,Ξ xs]] [] [.i,.E] λn=>
 V ((iv n,[])):=by kernel_rfl
theorem AtH(x0:ByteArray):Bp A D Ah Ama .n 120 Anz [sv x0] [] =
 let y1:=Ag D (Ω 182) [sv x0] [] [.t,.L,.I,.N,.E] λxs n=>br (A.eq n 0) (Ag D (Ω 180) [bv Θ,Ξ xs] [] [.a,.B,.L,.N,.E] λb xs1=>V (γ [Φ [bv b,Ξ xs1],iv 0],[])) (V (γ [Φ [bv Θ,Ξ []],iv n],[]));
 br (A.lt 0 ↑(A.slen x0)) (br (Axu 0 (A.slen x0)) (br (A.eq (A.sat x0 0) 45) (br (Lr 1 (A.slen x0) (A.slen x0)) (AN D (Ω 182) [sv (A.ssub x0 1 (A.slen x0))] [] λr o=>dk [.t,.L,.I,.N,.E] [.v r,.o o] λxs n
 =>br (A.eq n 0) (Ag D (Ω 180) [bv U,Ξ xs] [] [.a,.B,.L,.N,.E] λb xs1=>V (γ [Φ [bv b,Ξ xs1],iv 0],[])) (V (γ [Φ [bv Θ,Ξ []],iv n],[]))) Δ) y1) Δ) y1:=by kernel_rfl
theorem AuK(x0_0:Bool)(x0_1:Rw)(x1_0:Bool)(x1_1:Rw):Bp A D Ah AmV .n 238 Aoj [Φ [bv x0_0,Ξ x0_1],Φ [bv x1_0,Ξ x1_1]] [] =
 br (A.beq x0_0 x1_0)
 (Ag D (Ω 258) [Ξ x0_1,Ξ x1_1] [] [.b,.E] λb=>
 br b
 (V ((bv U,[])))
 (V ((bv Θ,[]))))
 (V ((bv Θ,[]))):=by kernel_rfl
end
section
open Go.RowKit
def AaU:MFn:=BL [⟨36,(mB 118),[],[2,4,5],[(1,((mB 48),([],[2])))]⟩] 178
def Wh:Hnt:=⟨[(124,(.agg BD,[]))],[(0,[(1,([.ptr 1 0,.ptr 2 0],[.del,.box BD,.box BD]))])],[(10,[.ls]),(16,[.ls]),(18,BX),(20,[.int .i64]),(27,BD),(29,[.ls]),(31,BX),(33,BD),(35,BD)]⟩
def Ar5:MFn:=BL [⟨27,(mB 118),[],[2,4,5],[(1,((mB 48),([],[2])))]⟩] 117
def Avu:MFn:=BL [] 66
def Avq:MFn:=BL [⟨26,(mB 133),[],[],[(0,((mB 64),([],[]))),(1,([],([],[])))]⟩] 26
def Avr:MFn:=BL [⟨65,(mB 38),[],[2],[(0,((mB 16),([],[2]))),(2,([],([],[2])))]⟩,⟨65,(mB 70),[],[2],[(0,((mB 16),([],[2]))),(4,([],([],[2])))]⟩] 28
def RA:List (Nat × MFn):=[(178,AaU),(117,Ar5),(66,Avu),(26,Avq),(28,Avr)]
variable (A:Ar) (D:Orc)
theorem Aug(x0_0:Rw)(x0_1:Bool)(x0_2:Rw)(x1:Int):Bp A D Ah Wh .n 178 AaU [Φ [Ξ x0_0,bv x0_1,Ξ x0_2],iv x1] [] =
 Ag D (Awq 178 0) [iv x1,ψ 0 0,ψ 1 0,ψ 2 0,iv 0] [bk [Ξ x0_0,bv x0_1,Ξ x0_2],bk [bv Θ,Ξ []],bk [bv Θ,Ξ []]] [.t,.C,.x,.X,.Y] λc l o=>
 br (Bf 1 c)
 (dk [.P 1 0,.P 2 0,.N,.D,.T,.B,.L,.N,.T,.B,.L,.N,.E] [.l l,.o o] λ_ _ b1 xs1=>
 V ((Φ [bv b1,Ξ xs1],[])))
 (Δ):=by kernel_rfl
theorem Ae6(t1:Int)(b2_0:Rw)(b2_1:Bool)(b2_2:Rw)(b4_0:Bool)(b4_1:Rw)(b5_0:Bool)(b5_1:Rw)(t6:Int):DI A D Ah Wh .n 178 0 (AK AaU 0).fst (AK AaU 0).snd [iv t1,ψ 0 0,ψ 1 0,ψ 2 0,iv t6] [bk [Ξ b2_0,bv b2_1,Ξ b2_2],bk [bv b4_0,Ξ b4_1],bk [bv b5_0,Ξ b5_1]] =
 let y3:=bk [bv b4_0,Ξ b4_1];let y5:=[bv b5_0,Ξ b5_1];br (A.lt t6 ↑(AU b2_0)) (unI t6 λi=>Bt b2_0 i λcs=>dk [.I,.B,.L,.N] [.l cs] λn _ _=>let y2:=bk [Ξ b2_0,bv b2_1,Ξ b2_2];
 let y4:=[iv t1,ψ 0 0,ψ 1 0,ψ 2 0,iv (A.add φ t6 1)];let y1:=AN D (Awq 178 0) y4 [y2,y3,bk y5] λr o=>AO 3 [0,1,2] (AH.mk [(2,bk y5),(1,y3),(0,y2)] 3 Δ) [0,1,2] r o;br
 (A.eq n t1) (br (A.le 0 t1) (unI t6 λi1=>Bt b2_0 i1 λcs1=>dk [.I,.B,.L,.N] [.l cs1] λ_ b1 xs1=>Ag D (Ω 124) [Φ y5,Φ [bv b1,Ξ xs1]] [] [.a,.B,.L,.N,.E] λb2 xs2=>AN D (Awq
 178 0) y4 [y2,y3,bk [bv b2,Ξ xs2]] λr1 o1=>AO 3 [0,1,2] (AH.mk [(2,bk [bv b2,Ξ xs2]),(1,y3),(0,y2)] 3 Δ) [0,1,2] r1 o1) y1) y1) (V (γ [iv 0,ψ 1 0,ψ 2 0],[BO.del,Awp y3,
 Awp (bk y5)])):=by kernel_rfl
end
section
open Go.RowKit
def Aa9:MFn:=BL [⟨49,(mB 227),[(5,1)],[],[(1,((mB 98),([],[])))]⟩] 259
def Wu:Hnt:=⟨[],[(0,[(1,([.int .i64,.sl 1 1,.bool],[.del,.row U]))])],[(20,[.int .i64]),(21,[.int .i64]),(31,[.int .i64]),(32,[.int .i64]),(38,[.int .i64]),(39,[.int .i64])]⟩
def Aa5:MFn:=BL [⟨29,(mB 26),[],[1,3],[(1,((mB 8),([],[1])))]⟩] 239
def Wr:Hnt:=⟨[(116,(.int .i64,[])),(178,(.agg BD,[])),(259,(.ls,[]))],[(0,[(1,([.ls],[.del]))])],[(9,[.ls]),(15,[.ls]),(17,BX),(19,[.int .i64]),(20,Cq)]⟩
def AaZ:MFn:=BL [⟨35,(mB 62),[(1000003,3)],[1,2],[(1,((mB 12),([],[1])))]⟩] 199
def Wl:Hnt:=⟨[(178,(.agg BD,[])),(179,(.agg BD,[])),(239,(.ls,[]))],[(0,[(1,([.ptr 1 0,.ptr 2 0],[.del,.box Cq,.box [.sl 4 3,.bool,.ls],.del,.row U]))])],[(7,BD),(10,Cq),(19,[.ls]),(22,[.int .i64]),(23,[.int .i64]),(24,Cq),(27,[.int .i64]),(28,[.int .i64]),(34,Cq)]⟩
def Ash:MFn:=BL [⟨36,(mB 99),[(5,3)],[],[(1,((mB 34),([],[])))]⟩,⟨36,(mB 162),[(5,3)],[],[(3,((mB 32),([],[])))]⟩] 287
def Asf:MFn:=BL [] 280
def Asg:MFn:=BL [⟨41,(mB 124),[(1000005,3)],[2,3,4],[(1,((mB 48),([],[2,3])))]⟩] 281
def Ase:MFn:=BL [] 272
def Asd:MFn:=BL [] 271
def AaY:MFn:=BL [⟨57,(mB 44),[],[2,3],[(0,((mB 16),([],[2,3]))),(1,([],([],[2,3])))]⟩] 198
def MV:Hnt:=⟨[(238,(.bool,[]))],[(0,[(0,([.bool],[.del,.del])),(1,([],[.del,.del]))])],[(7,[.ls]),(10,[.ls]),(15,BD),(17,BD),(23,[.ls]),(29,[.ls]),(31,BX),(33,[.int .i64]),(35,[.ls]),(37,BX),(39,[.int .i64]),(43,[.ls]),(45,BX),(47,BD),(49,[.ls]),(51,BX),(53,BD)]⟩
def O2:List (Nat × MFn):=[(259,Aa9),(239,Aa5),(199,AaZ),(287,Ash),(280,Asf),(281,Asg),(272,Ase),(271,Asd),(198,AaY)]
variable (A:Ar) (D:Orc)
theorem AuU(x0:Rw)(x1:Int):Bp A D Ah Wu .n 259 Aa9 [Ξ x0,iv x1] [] =
 Ag D (Awq 259 0) [Ξ x0,iv x1,ο 0 0 0 1,bv Θ,iv 0] [θ [] U U] [.t,.C,.x,.X,.Y] λc l o=>
 br (Bf 1 c)
 (dk [.I,.C,.q 1 1,.B,.N,.D,.R,.X,.E] [.l l,.o o] λn n1 b cs1=>
 br (A.not b)
 (br (Bh (n1+1) 8) (br ((0+n1*1).ble cs1.length) (br ((0+(n1+1)*1).ble (Awv 0 (Aws (0+n1*1) cs1)++[iv n]).length) (V ((Ξ (By (n1+1) 1 (Aws ((n1+1)*1) (Awv 0 (Awv 0 (Aws (0+n1*1) cs1)++[iv n])))),[]))) Δ) Δ) Δ)
 (br ((0+n1*1).ble cs1.length) (V ((Ξ (By n1 1 (Aws (n1*1) cs1)),[]))) Δ))
 (Δ):=by kernel_rfl
theorem Afq(t0:Rw)(t1:Int)(n5:Nat)(c5:Ad)(t6:Bool)(t7:Int):DI A D Ah Wu .n 259 0 (AK Aa9 0).fst (AK Aa9 0).snd [Ξ t0,iv t1,ο 0 0 n5 1,bv t6,iv t7] [{ cells:=c5,st:=U,ex:=U }] =
 br (A.lt t7 ↑(AU t0)) (let y5:=iv (A.add φ t7 1);
 let y1:=unI t7 λi1=>Bt t0 i1 λcs1=>dk [.I,.N] [.l cs1] λn1=>br (A.eq n1 t1) (AN D (Awq 259 0) [Ξ t0,iv t1,ο 0 0 n5 1,bv t6,y5] [θ c5 U U] λr o=>AO 1 [0] (AH.mk [(0,θ c5 U U)] 1 Δ) [] r o) (unI t7 λi2=>Bt t0 i2 λcs2=>dk [.I,.N] [.l cs2] λn2=>br (Bh (n5+1) 8) (br ((0+n5*1).ble c5.length) (let y3:=θ (Awv 0 (Aws (0+n5*1) c5)++[iv n2]) U U;AN D (Awq 259 0) [Ξ t0,iv t1,ο 0 0 (n5+1) 1,bv t6,y5] [y3] λr o=>AO 1 [2] (AH.mk [(2,y3),(1,θ [iv n2] U U)] 3 Δ) [0] r o) Δ) Δ);
 br (A.not t6) (unI t7 λi=>Bt t0 i λcs=>dk [.I,.N] [.l cs] λn=>br (A.le t1 n) (br (Bh (n5+1) 8) (br ((0+n5*1).ble c5.length) (unI t7 λi1=>Bt t0 i1 λcs1=>dk [.I,.N] [.l cs1] λn1=>br
 (A.eq n1 t1) (let y4:=θ (Awv 0 (Aws (0+n5*1) c5)++[iv t1]) U U;AN D (Awq 259 0) [Ξ t0,iv t1,ο 0 0 (n5+1) 1,bv U,y5] [y4] λr o=>AO 1 [2] (AH.mk [(2,y4),(1,θ
 [iv t1] U U)] 3 Δ) [0] r o) (unI t7 λi2=>Bt t0 i2 λcs2=>dk [.I,.N] [.l cs2] λn2=>br (Bh (n5+1+1) 8) (br ((0+(n5+1)*1).ble (Awv 0 (Aws (0+n5*1) c5)++[iv t1]).length)
 (let y2:=θ (Awv 0 (Aws (0+(n5+1)*1) (Awv 0 (Aws (0+n5*1) c5)++[iv t1]))++[iv n2]) U U;AN D (Awq 259 0) [Ξ t0,iv t1,ο 0 0 (n5+1+1) 1,bv U,y5] [y2] λr
 o=>AO 1 [4] (AH.mk [(4,y2),(3,θ [iv n2] U U),(1,θ [iv t1] U U)] 5 Δ) [0] r o) Δ) Δ)) Δ) Δ) y1) y1) (V (γ [iv 0,iv t1,ο 1 0 n5 1,bv t6],[BO.del,Awp (θ c5
 U U)])):=by kernel_rfl
theorem AuL(x0_0:Rw)(x0_1:Bool)(x0_2:Rw):Bp A D Ah Wr .n 239 Aa5 [Φ [Ξ x0_0,bv x0_1,Ξ x0_2]] [] =
 Ag D (Awq 239 0) [ψ 0 0,Ξ [],iv 0] [bk [Ξ x0_0,bv x0_1,Ξ x0_2]] [.t,.C,.x,.X,.Y] λc l o=>
 br (Bf 1 c)
 (dk [.L,.N,.D,.E] [.l l,.o o] λxs=>
 V ((Ξ xs,[])))
 (Δ):=by kernel_rfl
theorem Afj(b1_0:Rw)(b1_1:Bool)(b1_2 t3:Rw)(t4:Int):DI A D Ah Wr .n 239 0 (AK Aa5 0).fst (AK Aa5 0).snd [ψ 0 0,Ξ t3,iv t4] [bk [Ξ b1_0,bv b1_1,Ξ b1_2]] =
 br (A.lt t4 ↑(AU b1_0)) (unI t4 λi=>Bt b1_0 i λcs=>dk [.I,.B,.L,.N] [.l cs] λn _ _=>let y1:=[Ξ b1_0,bv b1_1,Ξ b1_2];Ag D (Ω 178) [Φ y1,iv n] [] [.a,.B,.L,.N,.E] λb1 xs1=>
 Ag D (Ω 116) [Φ [bv b1,Ξ xs1]] [] [.i,.E] λn1=>br (A.eq n1 0) (AN D (Awq 239 0) [ψ 0 0,Ξ t3,iv (A.add φ t4 1)] [bk y1] λr2 o2=>AO 1 [0] (AH.mk [(0,bk y1)] 1 Δ) [0] r2
 o2) (Ag D (Ω 259) [Ξ t3,iv n] [] [.l,.E] λxs2=>AN D (Awq 239 0) [ψ 0 0,Ξ xs2,iv (A.add φ t4 1)] [bk y1] λr3 o3=>AO 1 [0] (AH.mk [(0,bk y1)] 1 Δ) [0] r3 o3)) (V (γ
 [iv 0,Ξ t3],[BO.del])):=by kernel_rfl
theorem Aur(x0_0:Rw)(x0_1:Bool)(x0_2:Rw):Bp A D Ah Wl .n 199 AaZ [Φ [Ξ x0_0,bv x0_1,Ξ x0_2]] [] =
 Ag D (Ω 179) [Φ [bv x0_1,Ξ x0_2]] [] [.a,.B,.L,.N,.E] λb xs=>
 Ag D (Ω 239) [Φ [Ξ x0_0,bv x0_1,Ξ x0_2]] [] [.l,.E] λxs1=>
 Ag D (Awq 199 0) [ψ 0 0,ψ 1 0,ψ 2 0,Ξ xs1,iv 0] [bk [Ξ x0_0,bv x0_1,Ξ x0_2],bk [Ξ [],bv Θ,Ξ []],bk [ο 3 0 0 3,bv b,Ξ xs],θ [] U U] [.t,.C,.x,.X,.Y] λc l2 o2=>
 br (Bf 1 c)
 (dk [.P 1 0,.P 2 0,.N,.D,.T,.L,.B,.L,.N,.T,.C,.q 4 3,.B,.L,.N,.D,.R,.X,.E] [.l l2,.o o2] λ_ _ _ n b2 xs4 cs4=>
 br ((0+n*3).ble cs4.length) (V ((Φ [Ξ (By n 3 (Aws (n*3) cs4)),bv b2,Ξ xs4],[]))) Δ)
 (Δ):=by kernel_rfl
theorem Afb(a0:Rw)(a1:Bool)(a2 r0:Rw)(r1:Bool)(r2:Rw)(n3:Nat)(k1:Bool)(k2:Rw)(c3:Ad)(t4:Rw)(t5:Int):DI A D Ah Wl .n 199 0 (AK AaZ 0).fst (AK AaZ 0).snd [ψ 0 0,ψ 1 0,ψ 2 0,Ξ t4,iv t5] [bk [Ξ a0,bv a1,Ξ a2],bk [Ξ r0,bv r1,Ξ r2],bk [ο 3 0 n3 3,bv k1,Ξ k2],{ cells:=c3,st:=U,ex:=U }] =
 let y2:=bk [Ξ r0,bv r1,Ξ r2];br (A.lt t5 ↑(AU t4)) (unI t5 λi=>Bt t4 i λcs=>dk [.I,.N] [.l cs] λn=>unI t5 λi1=>Bt t4 i1 λcs1=>dk [.I,.N] [.l cs1] λn1=>
 let y3:=[Ξ a0,bv a1,Ξ a2];Ag D (Ω 178) [Φ y3,iv n1] [] [.a,.B,.L,.N,.E] λb xs=>br (Bh (n3+1) 40) (br ((0+n3*3).ble c3.length)
 (let y1:=θ (Awv 0 (Aws (0+n3*3) c3)++[iv n,bv b,Ξ xs]) U U;AN D (Awq 199 0) [ψ 0 0,ψ 1 0,ψ 2 0,Ξ t4,iv (A.add φ t5 1)] [bk y3,y2,bk [ο 3 0 (n3 +
 1) 3,bv k1,Ξ k2],y1] λr3 o1=>AO 4 [0,1,2,5] (AH.mk [(1,y2),(0,bk y3),(2,bk [ο 5 0 (n3+1) 3,bv k1,Ξ k2]),(5,y1),(4,θ [iv n,bv b,Ξ xs] U U)] 6 Δ) [3,2,0,1] r3 o1)
 Δ) Δ) (V (γ [iv 0,ψ 1 0,ψ 2 0],[BO.del,Awp y2,Awp (bk [ο 4 0 n3 3,bv k1,Ξ k2]),BO.del,Awp (θ c3 U U)])):=by kernel_rfl
theorem Api(x0_0:Rw)(x0_1:Bool)(x0_2 x1_0:Rw)(x1_1:Bool)(x1_2:Rw):Bp A D Ah MV .n 198 AaY [Φ [Ξ x0_0,bv x0_1,Ξ x0_2],Φ [Ξ x1_0,bv x1_1,Ξ x1_2]] [] =
 br (A.eq ↑(AU x0_0) ↑(AU x1_0))
 (Ag D (Ω 238) [Φ [bv x0_1,Ξ x0_2],Φ [bv x1_1,Ξ x1_2]] [] [.b,.E] λb=>
 br b
 (Ag D (Awq 198 0) [ψ 0 0,ψ 1 0,iv 0] [bk [Ξ x0_0,bv x0_1,Ξ x0_2],bk [Ξ x1_0,bv x1_1,Ξ x1_2]] [.t,.C,.x,.X,.Y] λc l o1=>
 br (Bf 0 c)
 (dk [.B,.N,.D,.D,.E] [.l l,.o o1] λb1=>
 V ((bv b1,[])))
 (br (Bf 1 c)
 (dk [.N,.D,.D,.E,.w] [.l l,.o o1] λ_=>
 V ((bv U,[])))
 (Δ)))
 (V ((bv Θ,[]))))
 (V ((bv Θ,[]))):=by kernel_rfl
theorem Ul(b2_0:Rw)(b2_1:Bool)(b2_2 b3_0:Rw)(b3_1:Bool)(b3_2:Rw)(t5:Int):DI A D Ah MV .n 198 0 (AK AaY 0).fst (AK AaY 0).snd [ψ 0 0,ψ 1 0,iv t5] [bk [Ξ b2_0,bv b2_1,Ξ b2_2],bk [Ξ b3_0,bv b3_1,Ξ b3_2]] =
 br (A.lt t5 ↑(AU b2_0)) (unI t5 λi=>Bt b2_0 i λcs=>dk [.I,.B,.L,.N] [.l cs] λn _ _=>unI t5 λi1=>Bt b3_0 i1 λcs1=>dk [.I,.B,.L,.N] [.l cs1] λn1 _ _=>
 let y1:=V (γ [bv U,bv Θ],[BO.del,BO.del]);br (A.eq n n1) (unI t5 λi2=>Bt b2_0 i2 λcs2=>dk [.I,.B,.L,.N] [.l cs2] λ_ b2 xs2=>unI t5 λi3=>Bt b3_0 i3 λcs3=>dk [.I,.B,.L,.N]
 [.l cs3] λ_ b3 xs3=>Ag D (Ω 238) [Φ [bv b2,Ξ xs2],Φ [bv b3,Ξ xs3]] [] [.b,.E] λb4=>br b4 (AN D (Awq 198 0) [ψ 0 0,ψ 1 0,iv (A.add φ t5 1)] [bk [Ξ b2_0,bv
 b2_1,Ξ b2_2],bk [Ξ b3_0,bv b3_1,Ξ b3_2]] λr1 o1=>AO 2 [0,1] (AH.mk [(1,bk [Ξ b3_0,bv b3_1,Ξ b3_2]),(0,bk [Ξ b2_0,bv b2_1,Ξ b2_2])] 2 Δ) [0,1] r1 o1) y1) y1) (V (γ [iv
 0],[BO.del,BO.del])):=by kernel_rfl
end
section
open Go.RowKit
def AnK:MFn:=BL [] 141
def Af3:Hnt:=⟨[(198,(.bool,[]))],[],[(6,[.bool]),(8,[.bool]),(12,Cq),(14,Cq)]⟩
def AnL:MFn:=BL [] 142
def Amj:Hnt:=⟨[],[],[]⟩
def AnN:MFn:=BL [] 144
def Aml:Hnt:=⟨[],[],[(4,[.int .i64]),(8,[.int .i64]),(12,[.ls]),(14,[.int .i64]),(18,[.ls]),(23,[.ls])]⟩
def AnM:MFn:=BL [] 143
def Amk:Hnt:=⟨[(199,(.agg Cq,[]))],[],[(4,Cq),(7,[.bool])]⟩
def Akm:MFn:=BL [⟨43,(mB 60),[(6000003,6)],[2],[(2,((mB 12),([],[])))]⟩] 83
def Agc:Hnt:=⟨[(83,(.agg Ch,[])),(142,(.agg Ch,[])),(143,(.agg Ch,[])),(144,(.ls,[]))],[(0,[(2,([.ptr 0 0,.ptr 1 0],[.box Ch,.box [.int .i64,.cst (.slice Δ 0 0),.bool,.cst (.slice Δ 0 0),.bool,.sl 3 6],.del,.row U]))])],[(7,[.int .i64]),(14,Nr),(21,[.int .i64]),(23,Ch),(32,[.ls]),(35,Ch),(36,Ch),(41,Ch)]⟩
def Akl:MFn:=BL [⟨52,(mB 44),[],[2,3],[(0,((mB 16),([],[2,3]))),(1,([],([],[2,3])))]⟩] 82
def Wz:Hnt:=⟨[(82,(.bool,[])),(141,(.bool,[]))],[(0,[(0,([.bool],[.del,.del])),(1,([],[.del,.del]))])],[(7,[.int .i64]),(9,[.int .i64]),(13,[.ls]),(16,[.ls]),(22,[.int .i64]),(26,Nr),(28,Nr),(35,[.ls]),(41,[.ls]),(43,Ch),(44,Ch),(46,[.ls]),(48,Ch),(49,Ch)]⟩
def TF:List (Nat × MFn):=[(141,AnK),(142,AnL),(144,AnN),(143,AnM),(83,Akm),(82,Akl)]
variable (A:Ar) (D:Orc)
theorem Aq4(x0_0:Rw)(x0_1:Bool)(x0_2:Rw)(x0_3:Bool)(x1_0:Rw)(x1_1:Bool)(x1_2:Rw)(x1_3:Bool):Bp A D Ah Af3 .n 141 AnK [Φ [Ξ x0_0,bv x0_1,Ξ x0_2,bv x0_3],Φ [Ξ x1_0,bv x1_1,Ξ x1_2,bv x1_3]] [] =
 br (A.beq x0_3 x1_3)
 (Ag D (Ω 198) [Φ [Ξ x0_0,bv x0_1,Ξ x0_2],Φ [Ξ x1_0,bv x1_1,Ξ x1_2]] [] [.b,.E] λb=>
 br b
 (V ((bv U,[])))
 (V ((bv Θ,[]))))
 (V ((bv Θ,[]))):=by kernel_rfl
theorem AtR(x0:Bool):Bp A D Ah Amj .n 142 AnL [bv x0] [] =
 br x0
 (V ((Φ [iv 0,Ξ [],bv Θ,Ξ [],bv Θ,Ξ []],[])))
 (V ((Φ [iv 1,Ξ [],bv Θ,Ξ [],bv Θ,Ξ []],[]))):=by kernel_rfl
theorem AtT(x0_0:Int)(x0_1:Rw)(x0_2:Bool)(x0_3:Rw)(x0_4:Bool)(x0_5:Rw):Bp A D Ah Aml .n 144 AnN [Φ [iv x0_0,Ξ x0_1,bv x0_2,Ξ x0_3,bv x0_4,Ξ x0_5]] [] =
 br (A.eq x0_0 4)
 (V ((Ξ x0_5,[])))
 (br (A.eq x0_0 5)
 (V ((Ξ x0_5,[])))
 (br (A.eq x0_0 3)
 (br (A.lt 0 ↑(AU x0_5))
 (br (Lr 0 1 (AU x0_5)) (br (Hk 6 x0_5) (V ((Ξ (JJ (Kz x0_5 1) 0),[]))) Δ) Δ)
 (V ((Ξ [],[]))))
 (V ((Ξ [],[]))))):=by kernel_rfl
theorem AtS(x0_0:Rw)(x0_1:Bool)(x0_2:Rw)(x0_3:Bool):Bp A D Ah Amk .n 143 AnM [Φ [Ξ x0_0,bv x0_1,Ξ x0_2,bv x0_3]] [] =
 Ag D (Ω 199) [Φ [Ξ x0_0,bv x0_1,Ξ x0_2]] [] [.a,.L,.B,.L,.N,.E] λxs b xs1=>
 V ((Φ [iv 2,Ξ xs,bv b,Ξ xs1,bv x0_3,Ξ []],[])):=by kernel_rfl
theorem e83(x0_0:Int)(x0_1:Rw)(x0_2:Bool)(x0_3:Rw)(x0_4:Bool)(x0_5:Rw):Bp A D Ah Agc .n 83 Akm [Φ [iv x0_0,Ξ x0_1,bv x0_2,Ξ x0_3,bv x0_4,Ξ x0_5]] [] =
 let y2:=λz1 z2 z3 z4 z5 z6=>V (Φ [iv z1,Ξ z2,bv z3,Ξ z4,bv z5,Ξ z6],[]);br (A.eq x0_0 0) (Ag D (Ω 142) [bv U] [] [.a,.I,.L,.B,.L,.B,.L,.N,.E] y2) (br (A.eq x0_0 2) (Ag D
 (Ω 143) [Φ [Ξ x0_1,bv x0_2,Ξ x0_3,bv x0_4]] [] [.a,.I,.L,.B,.L,.B,.L,.N,.E] y2)
 (let y1:=Ag D (Ω 144) [Φ [iv x0_0,Ξ x0_1,bv x0_2,Ξ x0_3,bv x0_4,Ξ x0_5]] [] [.l,.E] λxs=>Ag D (Awq 83 0) [ψ 0 0,ψ 1 0,Ξ xs,iv 0] [bk [iv 0,Ξ [],bv Θ,Ξ [],bv Θ,Ξ []],bk [iv x0_0,AwB (Value.slice Δ 0 0),bv Θ,AwB (Value.slice Δ 0 0),bv Θ,ο 2 0 0 6],θ [] U U] [.t,.C,.x,.X,.Y] λc l o1=>br (Bf 2 c) (dk [.P 0 0,.P 1 0,.N,.T,.I,.L,.B,.L,.B,.L,.N,.T,.I,.C,.c (Value.slice Δ 0 0),.B,.C,.c (Value.slice Δ 0 0),.B,.C,.q 3 6,.N,.D,.R,.X,.E] [.l l,.o o1] λ_ _ _ _ _ _ n1 b2 b3 n2 cs3=>br ((0+n2*6).ble cs3.length) (V (Φ [iv n1,Ξ [],bv b2,Ξ [],bv b3,Ξ (By n2 6 (Aws (n2*6) cs3))],[])) Δ) Δ;
 br (A.eq x0_0 3) y1 (br (A.eq x0_0 4) y1 (br (A.eq x0_0 5) y1 (Ag D (Ω 142) [bv Θ] [] [.a,.I,.L,.B,.L,.B,.L,.N,.E] y2))))):=by kernel_rfl
theorem AlT(r0:Int)(r1:Rw)(r2:Bool)(r3:Rw)(r4:Bool)(r5:Rw)(k0:Int)(k2 k4:Bool)(n3:Nat)(c3:Ad)(t4:Rw)(t5:Int):DI A D Ah Agc .n 83 0 (AK Akm 0).fst (AK Akm 0).snd [ψ 0 0,ψ 1 0,Ξ t4,iv t5] [bk [iv r0,Ξ r1,bv r2,Ξ r3,bv r4,Ξ r5],bk [iv k0,AwB (Value.slice Δ 0 0),bv k2,AwB (Value.slice Δ 0 0),bv k4,ο 2 0 n3 6],{ cells:=c3,st:=U,ex:=U }] =
 let y1:=bk [iv r0,Ξ r1,bv r2,Ξ r3,bv r4,Ξ r5];br (A.lt t5 ↑(AU t4)) (unI t5 λi=>Bt t4 i λcs=>dk [.I,.L,.B,.L,.B,.L,.N] [.l cs] λn xs b xs1 b1 xs2=>Ag D (Ω 83) [Φ [iv n,
 Ξ xs,bv b,Ξ xs1,bv b1,Ξ xs2]] [] [.a,.I,.L,.B,.L,.B,.L,.N,.E] λn1 xs3 b2 xs4 b3 xs5=>br (Bh (n3+1) 96) (br ((0+n3*6).ble c3.length)
 (let y2:=θ (Awv 0 (Aws (0+n3*6) c3)++[iv n1,Ξ xs3,bv b2,Ξ xs4,bv b3,Ξ xs5]) U U;AN D (Awq 83 0) [ψ 0 0,ψ 1 0,Ξ t4,iv (A.add φ t5 1)] [y1,bk [iv
 k0,AwB (Value.slice Δ 0 0),bv k2,AwB (Value.slice Δ 0 0),bv k4,ο 2 0 (n3+1) 6],y2] λr6 o1=>AO 3 [0,1,4] (AH.mk [(0,y1),(1,bk [iv k0,AwB (Value.slice Δ 0 0),bv k2,AwB (Value.slice Δ 0
 0),bv k4,ο 4 0 (n3+1) 6]),(4,y2),(3,θ [iv n1,Ξ xs3,bv b2,Ξ xs4,bv b3,Ξ xs5] U U)] 5 Δ) [2,1,0] r6 o1) Δ) Δ) (V (γ [iv 1,ψ 0 0,ψ 1 0],[Awp y1,Awp (bk
 [iv k0,AwB (Value.slice Δ 0 0),bv k2,AwB (Value.slice Δ 0 0),bv k4,ο 3 0 n3 6]),BO.del,Awp (θ c3 U U)])):=by kernel_rfl
theorem e82(x0_0:Int)(x0_1:Rw)(x0_2:Bool)(x0_3:Rw)(x0_4:Bool)(x0_5:Rw)(x1_0:Int)(x1_1:Rw)(x1_2:Bool)(x1_3:Rw)(x1_4:Bool)(x1_5:Rw):Bp A D Ah Wz .n 82 Akl [Φ [iv x0_0,Ξ x0_1,bv x0_2,Ξ x0_3,bv x0_4,Ξ x0_5],Φ [iv x1_0,Ξ x1_1,bv x1_2,Ξ x1_3,bv x1_4,Ξ x1_5]] [] =
 br (A.eq x0_0 x1_0) (br (A.eq ↑(AU x0_5) ↑(AU x1_5))
 (let y1:=Ag D (Awq 82 0) [ψ 0 0,ψ 1 0,iv 0] [bk [iv x0_0,Ξ x0_1,bv x0_2,Ξ x0_3,bv x0_4,Ξ x0_5],bk [iv x1_0,Ξ x1_1,bv x1_2,Ξ x1_3,bv x1_4,Ξ x1_5]] [.t,.C,.x,.X,.Y] λc l o1=>br (Bf 0 c) (dk [.B,.N,.D,.D,.E] [.l l,.o o1] λb1=>V (bv b1,[])) (br (Bf 1 c) (dk [.N,.D,.D,.E,.w] [.l l,.o o1] λ_=>V (bv U,[])) Δ);
 br (A.eq x0_0 2) (Ag D (Ω 141) [Φ [Ξ x0_1,bv x0_2,Ξ x0_3,bv x0_4],Φ [Ξ x1_1,bv x1_2,Ξ x1_3,bv x1_4]] [] [.b,.E] λb=>br b y1 (V (bv Θ,[]))) y1) (V (bv Θ,[]))) (V
 (bv Θ,[])):=by kernel_rfl
theorem AlS(b2_0:Int)(b2_1:Rw)(b2_2:Bool)(b2_3:Rw)(b2_4:Bool)(b2_5:Rw)(b3_0:Int)(b3_1:Rw)(b3_2:Bool)(b3_3:Rw)(b3_4:Bool)(b3_5:Rw)(t5:Int):DI A D Ah Wz .n 82 0 (AK Akl 0).fst (AK Akl 0).snd [ψ 0 0,ψ 1 0,iv t5] [bk [iv b2_0,Ξ b2_1,bv b2_2,Ξ b2_3,bv b2_4,Ξ b2_5],bk [iv b3_0,Ξ b3_1,bv b3_2,Ξ b3_3,bv b3_4,Ξ b3_5]] =
 br (A.lt t5 ↑(AU b2_5)) (unI t5 λi=>Bt b2_5 i λcs=>dk [.I,.L,.B,.L,.B,.L,.N] [.l cs] λn xs b xs1 b1 xs2=>unI t5 λi1=>Bt b3_5 i1 λcs1=>dk [.I,.L,.B,.L,.B,.L,.N] [.l cs1] λn1 xs3 b2 xs4
 b3 xs5=>Ag D (Ω 82) [Φ [iv n,Ξ xs,bv b,Ξ xs1,bv b1,Ξ xs2],Φ [iv n1,Ξ xs3,bv b2,Ξ xs4,bv b3,Ξ xs5]] [] [.b,.E] λb4=>br b4
 (let y1:=bk [iv b2_0,Ξ b2_1,bv b2_2,Ξ b2_3,bv b2_4,Ξ b2_5];let y2:=bk [iv b3_0,Ξ b3_1,bv b3_2,Ξ b3_3,bv b3_4,Ξ b3_5];AN D (Awq 82 0) [ψ 0 0,ψ 1 0,iv (A.add φ t5
 1)] [y1,y2] λr1 o1=>AO 2 [0,1] (AH.mk [(1,y2),(0,y1)] 2 Δ) [0,1] r1 o1) (V (γ [bv U,bv Θ],[BO.del,BO.del]))) (V (γ [iv 0],[BO.del,BO.del])):=by kernel_rfl
end
section
open Go.RowKit
def Asn:MFn:=BL [] 41
def Arr:Hnt:=⟨[(82,(.bool,[])),(83,(.agg Ch,[]))],[],[(6,[.bool]),(8,[.bool]),(12,[.int .i64]),(14,[.int .i64]),(19,[.int .i64]),(21,[.int .i64]),(26,Ch),(29,Ch)]⟩
def Aiy:List (Nat × MFn):=[(41,Asn)]
variable (A:Ar) (D:Orc)
theorem e41(x0_0:Bool)(x0_1 x0_2 x0_3:Int)(x0_4:Rw)(x0_5:Bool)(x0_6:Rw)(x0_7:Bool)(x0_8:Rw)(x1_0:Bool)(x1_1 x1_2 x1_3:Int)(x1_4:Rw)(x1_5:Bool)(x1_6:Rw)(x1_7:Bool)(x1_8:Rw):Bp A D Ah Arr .n 41 Asn [Φ [bv x0_0,iv x0_1,iv x0_2,iv x0_3,Ξ x0_4,bv x0_5,Ξ x0_6,bv x0_7,Ξ x0_8],Φ [bv x1_0,iv x1_1,iv x1_2,iv x1_3,Ξ x1_4,bv x1_5,Ξ x1_6,bv x1_7,Ξ x1_8]] [] =
 let y1:=V (bv Θ,[]);br (A.beq x0_0 x1_0) (br (A.eq x0_1 x1_1) (br (A.eq x0_2 x1_2) (Ag D (Ω 83) [Φ [iv x0_3,Ξ x0_4,bv x0_5,Ξ x0_6,bv x0_7,Ξ x0_8]] [] [.a,.I,.L,.B,.L,.B,.L,.N,.E]
 λn xs b xs1 b1 xs2=>Ag D (Ω 83) [Φ [iv x1_3,Ξ x1_4,bv x1_5,Ξ x1_6,bv x1_7,Ξ x1_8]] [] [.a,.I,.L,.B,.L,.B,.L,.N,.E] λn1 xs3 b2 xs4 b3 xs5=>Ag D (Ω 82) [Φ [iv n,Ξ xs,
 bv b,Ξ xs1,bv b1,Ξ xs2],Φ [iv n1,Ξ xs3,bv b2,Ξ xs4,bv b3,Ξ xs5]] [] [.b,.E] λb4=>br b4 (V (bv U,[])) y1) y1) y1) y1:=by kernel_rfl
end
section
open Go.RowKit
def Ada:MFn:=BL [⟨136,(mB 129127208515966885160),[],[3,5,12],[(0,((mB 16),([],[3,5,12]))),(1,((mB 22816),([],[3])))]⟩,⟨136,(mB 129127208515967114536),[],[3,5,12,16],[(0,((mB 16),([],[3,5,12,16]))),(3,((mB 129127208515966950696),([],[])))]⟩] 11
def Wc:Hnt:=⟨[(20,(.bool,[])),(30,(.bool,[])),(31,(.bool,[])),(32,(.tup [.agg Bb,.agg Rs,.int .i64],[])),(34,(.tup [.agg Lj,.ls,.bool],[])),(36,(.bool,[])),(38,(.str,[])),(41,(.bool,[]))],[(0,[(0,([.bool],[.del,.del,.del])),(1,([.ptr 1 0,.str,.bool,.ptr 2 0,.int .i64],[.del,.box Bb,.box Bb]))]),(1,[(0,([.bool],[.del,.del,.del,.del])),(3,([.ptr 0 0,.ptr 1 0,.str,.ls,.bool,.ptr 2 0,.int .i64,.ptr 3 0,.ls,.int .i64,.int .i64],[.box Kn,.box Bb,.box Bb,.box GZ]))])],[(24,Kn),(30,Kn),(38,[.int .i64]),(41,Bb),(45,Bb),(48,Bb),(49,Kn),(56,Kn),(69,GZ),(70,GZ),(76,GZ),(79,GZ),(80,GZ),(83,[.bool]),(86,[.int .i64]),(90,[.int .i64]),(92,[.ls]),(98,[.int .i64]),(103,[.int .i64]),(105,[.ls]),(107,[.int .i64]),(108,OY),(110,[.ls]),(116,Bb),(126,Bb),(127,Bb),(131,Bb)]⟩
def Vk:List (Nat × MFn):=[(11,Ada)]
variable (A:Ar) (D:Orc)
theorem e11(x0:ByteArray)(x1_0 x1_1:Rw)(x1_2:Int)(x1_3:Rw)(x1_4:Bool)(x1_5:Rw)(x1_6:Bool)(x1_7 x1_8 x1_9:Rw):Bp A D Ah Wc .n 11 Ada [sv x0,Φ [Ξ x1_0,Ξ x1_1,iv x1_2,Ξ x1_3,bv x1_4,Ξ x1_5,bv x1_6,Ξ x1_7,Ξ x1_8,Ξ x1_9]] [] =
 Ag D (Ω 30) [] [] [.b,.E] λb=>let y3:=V (bv Θ,[]);br b (let y4:=V (bv U,[]);br (A.lt 4000 ↑(A.slen x0)) y4
 (let y1:=[Ξ x1_0,Ξ x1_1,iv x1_2,Ξ x1_3,bv x1_4,Ξ x1_5,bv x1_6,Ξ x1_7,Ξ x1_8,Ξ x1_9];Ag D (Ω 31) [Φ y1] [] [.b,.E] λb1=>br b1 (Ag D (Ω 32) [sv x0,Φ y1] []
 [.t,.A,.I,.L,.L,.I,.S,.S,.L,.N,.A,.I,.I,.N,.I,.N,.E] λn xs xs1 n1 s s1 xs2 n2 _ n4=>let y2:=λz1 z2 z3 z4 z5 z6 z7=>[iv z1,Ξ z2,Ξ z3,iv z4,sv z5,sv z6,Ξ z7];br (A.eq n4 0) (Ag D
 (Ω 38) [Φ (y2 n xs xs1 n1 s s1 xs2)] [] [.s,.E] λs2=>Ag D (Ω 34) [Φ (y2 n xs xs1 n1 s s1 xs2),Φ y1] [] [.t,.A,.I,.I,.L,.N,.L,.B,.N,.E] λ_ _ _ xs4 b2=>Ag D (Ω 32) [sv s2,
 Φ y1] [] [.t,.A,.I,.L,.L,.I,.S,.S,.L,.N,.A,.I,.I,.N,.I,.N,.E] λn7 xs5 xs6 n8 s3 s4 xs7 _ _ n11=>br (A.lt 16384 ↑(A.slen s2)) y4 (Ag D (Awq 11 0) [ψ 0 0,ψ 1 0,sv s2,Ξ xs4,bv b2,
 ψ 2 0,iv n11,Ξ xs4,iv ↑(AU xs4),iv 0] [bk y1,bk (y2 n xs xs1 n1 s s1 xs2),bk (y2 n7 xs5 xs6 n8 s3 s4 xs7)] [.t,.C,.x,.X,.Y] λc5 l30 o6=>br (Bf 0 c5) (dk [.B,.N,.D,.D,.D,.E] [.l l30,.o o6] λb3
 =>V (bv b3,[])) (br (Bf 1 c5) (dk [.P 1 0,.S,.B,.P 2 0,.I,.N,.D,.T,.I,.L,.L,.I,.S,.S,.L,.N,.T,.I,.L,.L,.I,.S,.S,.L,.N,.E] [.l l30,.o o6] λs5 b3 n12 n13 xs8 xs9 n14 s6 s7 xs10 n15 xs11 xs12 n16
 s8 s9 xs13=>Ag D (Ω 36) [Φ (y2 n13 xs8 xs9 n14 s6 s7 xs10)] [] [.b,.E] λb4=>br b4 (br b3 (br (A.eq n12 0) (Ag D (Ω 20) [Φ (y2 n15 xs11 xs12 n16 s8 s9 xs13),Φ (y2 n13 xs8 xs9 n14 s6 s7 xs10)]
 [] [.b,.E] λb5=>br b5 (Ag D (Ω 38) [Φ (y2 n15 xs11 xs12 n16 s8 s9 xs13)] [] [.s,.E] λs10=>br (A.seq s10 s5) y4 y3) y3) y3) y3) y3) Δ))) (br (A.le 1 n2) (Ag D (Ω 20) [Φ (y2 n xs xs1 n1 s s1
 xs2),Φ [iv 0,Ξ [],Ξ [],iv 0,sv (Ai []),sv (Ai []),Ξ []]] [] [.b,.E] λb2=>br b2 y4 y3) y3)) y4)) y3:=by kernel_rfl
theorem AlF(b3_0 b3_1:Rw)(b3_2:Int)(b3_3:Rw)(b3_4:Bool)(b3_5:Rw)(b3_6:Bool)(b3_7 b3_8 b3_9:Rw)(b5_0:Int)(b5_1 b5_2:Rw)(b5_3:Int)(b5_4 b5_5:ByteArray)(b5_6:Rw)(t8:ByteArray)(t10:Rw)(t11:Bool)(b12_0:Int)(b12_1 b12_2:Rw)(b12_3:Int)(b12_4 b12_5:ByteArray)(b12_6:Rw)(t14:Int)(t64:Rw)(t65 t66:Int):DI A D Ah Wc (.b (.b (.b .n (.b (.b (.t (.t (.b (.t (.b .n (.b .n (.b .n (.b .n (.b .n (.b .n (.t (.b (.b (.t (.b .n (.b .n (.b .n (.t (.b (.b (.t (.b .n (.b .n (.b .n (.b .n (.b .n (.b .n (.b .n (.b .n (.b .n (.b .n (.b .n (.t (.b (.b (.t .n) .n) .n)))))))))))))) .n) .n)))))) .n) .n))))))))) (.t (.b (.b (.b (.b (.b (.b (.b (.t (.b .n (.b (.t (.b .n (.b .n (.b .n (.t (.b (.b (.t (.b .n (.b .n (.b .n (.b .n (.b .n (.b .n (.b .n (.b .n (.b .n (.b .n (.b .n (.t (.b (.b (.t .n) .n) .n)))))))))))))) .n) .n)))))) .n))) (.t (.b .n (.b .n (.t (.b (.b (.b (.b (.t (.b .n (.b (.t (.b .n (.b .n (.b .n (.b .n (.b .n (.b .n (.b .n (.b .n (.b .n (.b .n (.b .n (.t (.b (.b (.t .n) .n) .n)))))))))))))) .n))) (.t (.b .n (.b .n (.t (.b (.b (.b (.b (.b (.b (.b (.b (.b (.b (.b (.b (.t (.b .n (.b (.t .n) .n))) (.t (.b .n (.b .n (.t .n))))) .n) .n) .n) .n) .n) .n) .n) .n) .n) .n) .n)))))) .n) .n) .n)))))) .n) .n) .n) .n) .n) .n))))) (.f (.f (.f (.f (.f (.f (.f (.f (.f .n)))))))))) .n)) .n) .n) 11 0 (AK Ada 0).fst (AK Ada 0).snd [ψ 0 0,ψ 1 0,sv t8,Ξ t10,bv t11,ψ 2 0,iv t14,Ξ t64,iv t65,iv t66] [bk [Ξ b3_0,Ξ b3_1,iv b3_2,Ξ b3_3,bv b3_4,Ξ b3_5,bv b3_6,Ξ b3_7,Ξ b3_8,Ξ b3_9],bk [iv b5_0,Ξ b5_1,Ξ b5_2,iv b5_3,sv b5_4,sv b5_5,Ξ b5_6],bk [iv b12_0,Ξ b12_1,Ξ b12_2,iv b12_3,sv b12_4,sv b12_5,Ξ b12_6]] =
 let y4:=bk [iv b5_0,Ξ b5_1,Ξ b5_2,iv b5_3,sv b5_4,sv b5_5,Ξ b5_6];let y5:=bk [iv b12_0,Ξ b12_1,Ξ b12_2,iv b12_3,sv b12_4,sv b12_5,Ξ b12_6];br (A.lt t66 t65) (unI t66 λi=>Bt t64 i
 λcs=>dk [.B,.I,.I,.I,.L,.B,.L,.B,.L,.N] [.l cs] λb n n1 n2 xs b1 xs1 b2 xs2=>Ag D (Awq 11 1) [ψ 0 0,ψ 1 0,sv t8,Ξ t10,bv t11,ψ 2 0,iv t14,iv t66,ψ 3 0,iv 0,Ξ t64,iv
 t65,iv t66] [bk [Ξ b3_0,Ξ b3_1,iv b3_2,Ξ b3_3,bv b3_4,Ξ b3_5,bv b3_6,Ξ b3_7,Ξ b3_8,Ξ b3_9],y4,y5,bk [bv b,iv n,iv n1,iv n2,Ξ xs,bv b1,Ξ xs1,bv b2,Ξ xs2]] [.t,.C,.x,
 .X,.Y] λc l9 o=>br (Bf 0 c) (dk [.B,.N,.D,.D,.D,.D,.E] [.l l9,.o o] λb3=>V (γ [bv U,bv b3],[BO.del,BO.del,BO.del])) (br (Bf 3 c) (dk [.P 0 0,.P 1 0,.S,.L,.B,.P 2 0,.I,.P 3 0,.L,.I,
 .I,.N,.T,.L,.L,.I,.L,.B,.L,.B,.L,.L,.L,.N,.T,.I,.L,.L,.I,.X,.Y] [.l l9,.o o] λs xs3 b3 n3 xs4 n4 n5 xs5 xs6 n6 xs7 b4 xs8 b5 xs9 xs10 xs11 n7 xs12 xs13 n8 l36 l32=>dk [.S,.S,.L,.N,.T,.I,.L,.L,
 .I,.S,.S,.L,.N,.T,.B,.I,.I,.I,.L,.B,.L,.B,.L,.N,.E] [.l l36,.o l32] λs1 s2 xs14 n9 xs15 xs16 n10 s3 s4 xs17 b6 n11 n12 n13 xs18 b7 xs19 b8 xs20=>
 let y1:=let y3:=bk [Ξ xs5,Ξ xs6,iv n6,Ξ xs7,bv b4,Ξ xs8,bv b5,Ξ xs9,Ξ xs10,Ξ xs11];let y6:=λz1 z2 z3 z4 z5 z6 z7=>bk [iv z1,Ξ z2,Ξ z3,iv z4,sv z5,sv z6,Ξ z7];AN D (Awq 11 0) [ψ 0 0,ψ 1 0,sv s,Ξ xs3,bv b3,ψ 2 0,iv n3,Ξ xs4,iv n4,iv (A.add φ n5 1)] [y3,y6 n7 xs12 xs13 n8 s1 s2 xs14,y6 n9 xs15 xs16 n10 s3 s4 xs17] λr1 o1=>AO 3 [0,1,2] (AH.mk [(2,y6 n9 xs15 xs16 n10 s3 s4 xs17),(1,y6 n7 xs12 xs13 n8 s1 s2 xs14),(0,y3),(3,bk [bv b6,iv n11,iv n12,iv n13,Ξ xs18,bv b7,Ξ xs19,bv b8,Ξ xs20])] 4 Δ) [0,1,2] r1 o1;
 br b6 (br b6 (br b6 (let y2:=br b6 (br b6 (V (γ [bv U,bv Θ],[BO.del,BO.del,BO.del])) Δ) Δ;let y7:=λz1=>br b6 (br b6 z1 Δ) Δ;br (A.lt n11 0) (br b6 (br b6 (br b6 (y7 y2) Δ) Δ) Δ)
 (br b6 (br (A.le (↑(AU xs10)) n11) (br b6 (br b6 (y7 y2) Δ) Δ) (br b6 (br b6 (br (A.lt n12 0) (y7 y2) (br b6 (br b6 (unI n11 λi1=>Bt xs10 i1 λcs6=>dk [.S,.L,.L,.N] [.l cs6] λ_ xs21 _=>br (A.le (↑(AU
 xs21)) n12) y2 (y7 y1)) Δ) Δ)) Δ) Δ)) Δ)) Δ) Δ) (br b6 Δ (br b6 Δ (br b6 Δ (br b6 Δ (br b6 Δ (br b6 Δ (br b6 Δ (br b6 Δ (br b6 Δ y1)))))))))) Δ)) (V (γ [iv 0,ψ 1
 0,sv t8,bv t11,ψ 2 0,iv t14],[BO.del,Awp y4,Awp y5])):=by kernel_rfl
theorem AlG(b3_0 b3_1:Rw)(b3_2:Int)(b3_3:Rw)(b3_4:Bool)(b3_5:Rw)(b3_6:Bool)(b3_7 b3_8 b3_9:Rw)(b5_0:Int)(b5_1 b5_2:Rw)(b5_3:Int)(b5_4 b5_5:ByteArray)(b5_6:Rw)(t8:ByteArray)(t10:Rw)(t11:Bool)(b12_0:Int)(b12_1 b12_2:Rw)(b12_3:Int)(b12_4 b12_5:ByteArray)(b12_6:Rw)(t14 t15:Int)(b16_0:Bool)(b16_1 b16_2 b16_3:Int)(b16_4:Rw)(b16_5:Bool)(b16_6:Rw)(b16_7:Bool)(b16_8:Rw)(t17:Int)(t64:Rw)(t65 t66:Int):DI A D Ah Wc .n 11 1 (AK Ada 1).fst (AK Ada 1).snd [ψ 0 0,ψ 1 0,sv t8,Ξ t10,bv t11,ψ 2 0,iv t14,iv t15,ψ 3 0,iv t17,Ξ t64,iv t65,iv t66] [bk [Ξ b3_0,Ξ b3_1,iv b3_2,Ξ b3_3,bv b3_4,Ξ b3_5,bv b3_6,Ξ b3_7,Ξ b3_8,Ξ b3_9],bk [iv b5_0,Ξ b5_1,Ξ b5_2,iv b5_3,sv b5_4,sv b5_5,Ξ b5_6],bk [iv b12_0,Ξ b12_1,Ξ b12_2,iv b12_3,sv b12_4,sv b12_5,Ξ b12_6],bk [bv b16_0,iv b16_1,iv b16_2,iv b16_3,Ξ b16_4,bv b16_5,Ξ b16_6,bv b16_7,Ξ b16_8]] =
 let y1:=[bv b16_0,iv b16_1,iv b16_2,iv b16_3,Ξ b16_4,bv b16_5,Ξ b16_6,bv b16_7,Ξ b16_8];
 let y2:=bk [Ξ b3_0,Ξ b3_1,iv b3_2,Ξ b3_3,bv b3_4,Ξ b3_5,bv b3_6,Ξ b3_7,Ξ b3_8,Ξ b3_9];let y3:=bk [iv b5_0,Ξ b5_1,Ξ b5_2,iv b5_3,sv b5_4,sv b5_5,Ξ b5_6];
 let y4:=bk [iv b12_0,Ξ b12_1,Ξ b12_2,iv b12_3,sv b12_4,sv b12_5,Ξ b12_6];br (A.lt t17 t15) (unI t17 λi=>Bt t10 i λcs=>dk [.B,.I,.I,.I,.L,.B,.L,.B,.L,.N] [.l cs] λb n n1 n2 xs b1 xs1
 b2 xs2=>Ag D (Ω 41) [Φ y1,Φ [bv b,iv n,iv n1,iv n2,Ξ xs,bv b1,Ξ xs1,bv b2,Ξ xs2]] [] [.b,.E] λb3=>br b3 (V (γ [bv U,bv Θ],[BO.del,BO.del,BO.del,BO.del])) (AN D
 (Awq 11 1) [ψ 0 0,ψ 1 0,sv t8,Ξ t10,bv t11,ψ 2 0,iv t14,iv t15,ψ 3 0,iv (A.add φ t17 1),Ξ t64,iv t65,iv t66] [y2,y3,y4,bk y1] λr1 o1=>AO 4 [0,1,2,3] (AH.mk [(3,
 bk y1),(2,y4),(1,y3),(0,y2)] 4 Δ) [0,1,2,3] r1 o1)) (V (γ [iv 2,ψ 0 0,ψ 1 0,sv t8,Ξ t10,bv t11,ψ 2 0,iv t14,ψ 3 0,Ξ t64,iv t65,iv t66],[Awp y2,Awp y3,Awp y4,
 Awp (bk y1)])):=by kernel_rfl
end
def PQ:List (List (Nat × MFn)):=[De,Jq,TG,RD,FS,XP,Nv,XN,GM,XO,Mt,TE,AbO,RA,O2,TF,Aiy,Vk]
def Ut:List (Nat × DF):=[(91,DP Mm),(109,DP DY),(108,DP CM),(22,DP Ex),(34,(BJ Ak Mp).ask (.fn 34))]
def U9:Seat:=Nm Ah PQ.flatten Ut
def Ed:Orc:=BJ Ak U9
set_option maxRecDepth 100000 in
theorem AoW:PU ε BM PQ:=by
 repeat' first|exact trivial|refine⟨⟨_,_,_,rfl⟩,by kernel_rfl,?_⟩|refine⟨?_,?_⟩
theorem DN:(JC PQ&&Tg PQ.flatten Ut)=U:=by kernel_rfl
theorem Zd:Knows Ah De Ed:=Bk DN (i:=0) rfl
theorem Agm:Knows Ah Jq Ed:=Bk DN (i:=1) rfl
theorem ApO:Knows Ah TG Ed:=Bk DN (i:=2) rfl
theorem Agr:Knows Ah RD Ed:=Bk DN (i:=3) rfl
theorem Ze:Knows Ah FS Ed:=Bk DN (i:=4) rfl
theorem Agq:Knows Ah XP Ed:=Bk DN (i:=5) rfl
theorem Zf:Knows Ah Nv Ed:=Bk DN (i:=6) rfl
theorem Agn:Knows Ah XN Ed:=Bk DN (i:=7) rfl
theorem Ago:Knows Ah GM Ed:=Bk DN (i:=8) rfl
theorem Agp:Knows Ah XO Ed:=Bk DN (i:=9) rfl
theorem AaH:Knows Ah Mt Ed:=Bk DN (i:=10) rfl
theorem ApK:Knows Ah TE Ed:=Bk DN (i:=11) rfl
theorem ApN:Knows Ah AbO Ed:=Bk DN (i:=12) rfl
theorem ApJ:Knows Ah RA Ed:=Bk DN (i:=13) rfl
theorem ApM:Knows Ah O2 Ed:=Bk DN (i:=14) rfl
theorem ApL:Knows Ah TF Ed:=Bk DN (i:=15) rfl
theorem ApP:Knows Ah Aiy Ed:=Bk DN (i:=16) rfl
theorem AjX:Knows Ah Vk Ed:=Bk DN (i:=17) rfl
section
variable {args:Ad} {bs:List ABlk} {r:AV × List BO}
theorem AbY(h:(DP Mm) args bs=V r):Ed.ask (.fn 91) args bs=V r:=Cw rfl h
theorem X6(h:(DP DY) args bs=V r):Ed.ask (.fn 109) args bs=V r:=Cw rfl h
theorem Aab(h:(DP CM) args bs=V r):Ed.ask (.fn 108) args bs=V r:=Cw rfl h
theorem X8(h:(DP Ex) args bs=V r):Ed.ask (.fn 22) args bs=V r:=Cw rfl h
theorem X7(h:((BJ Ak Mp).ask (.fn 34)) args bs=V r):Ed.ask (.fn 34) args bs=V r:=Cw rfl h
end
theorem ZW(h:PW ε Ut):SeatOk ε BM U9:=PN Ako PG AoW h
def Tr.kind:Tr->Int
 |.mk k _ _ _ _ _ _=>k
def Tr.kids:Tr->List Tr
 |.mk _ _ _ _ _ _ ks=>ks
def Eh:Tr->Bool
 |.mk _ l r op p q _=>decide (l.length=0)&&decide (r.length=0)&&decide (op=0)&&decide (p=Ai [])&&decide (q=Ai [])
def Hp:Tr->Bool
 |.mk k l r op p q ks=>decide (k=2)&&IG l&&IG r&&decide (0<=op)&&decide (op<=5)&&decide (p=Ai [])&&decide (q=Ai [])&&decide (ks.length=0)
def arI(k:Int):Int:=if k=0 then 0 else if k=1 then 0 else if k=3 then 1 else if k=4 then 2 else if k=5 then 2 else -1
def brk(p:Int)(i:Nat)(k:Int):Bool:=if p=3 then decide (k=4)||decide (k=5) else if p=4 then decide (k=5)||(decide (i=1)&&decide (k=4)) else if p=5 then decide (i=1)&&decide (k=5) else Θ
def E0(b:Bool)(d:Nat):Nat:=if b then d+1 else d
mutual
def BI:Tr->Nat->Bool
 |.mk k l r op p q ks,d=>if k=2 then Hp (.mk k l r op p q ks) else Eh (.mk k l r op p q ks)&&decide ((ks.length:Int)=arI k)&&decide (E0 (decide (k=3)) d<=60)&&E4 k (E0 (decide (k=3)) d) 0 ks
def E4(k:Int)(d:Nat):Nat->List Tr->Bool
 |_,[]=>U
 |i,x::r=>(decide (E0 (brk k i x.kind) d<=60)&&BI x (E0 (brk k i x.kind) d))&&E4 k d (i+1) r
end
inductive WzT:Tr->Prop where
 |mk {k:Int} {l r:List Mo} {op:Int} {p q:ByteArray} {ks:List Tr} (hl:l.length<4611686018427387904) (hr:r.length<4611686018427387904) (hk:ks.length<4611686018427387904)
  (zl:∀ m∈l,m.num.size<=9223372036854775807/\m.var.size<=9223372036854775807) (zr:∀ m∈r,m.num.size<=9223372036854775807/\m.var.size<=9223372036854775807) (h:∀ x∈ks,WzT x):WzT (.mk k l r op p q ks)
section
variable {D:Orc}
variable (K:Knows Ah FS D)
include K
theorem TZ(t:Tr):D.ask (.fn 45) [.agg (BR t)] []=V (bv (Eh t),[]):=by
 obtain⟨k,l,r,op,p,q,ks⟩:=t;refine Ao K Art (e45 ..) ?_;unfold Eh;rw[Al,Al];simp only[F9,GJ,FX,decide_eq_true_eq,ci0]
 by_cases h1:l.length=0<;>by_cases h2:r.length=0<;>by_cases h3:op=0<;>by_cases h4:p=Ai []<;>by_cases h5:q=Ai []<;>simp[h1,h2,h3,h4,h5]
theorem Aex(k:Int):D.ask (.fn 110) [iv k] []=V (iv (arI k),[]):=by
 refine Ao K Al2 (Aty ..) ?_;unfold arI;simp only[F9,FX,decide_eq_true_eq]
 repeat' split
 all_goals rfl
theorem T9(p:Int)(i:Nat)(t:Tr):D.ask (.fn 111) [iv p,iv (i:Int),.agg (BR t)] []=V (bv (brk p i t.kind),[]):=by
 obtain⟨k,l,r,op,q,v,ks⟩:=t;refine Ao K Al3 (Atz ..) ?_;unfold brk Tr.kind;simp only[F9,FX,decide_eq_true_eq,ci1]
 by_cases h1:p=3
 .by_cases h2:k=4<;>by_cases h3:k=5<;>simp[h1,h2,h3]
 .by_cases h4:p=4
  .by_cases h2:k=4<;>by_cases h3:k=5<;>by_cases h5:i=1<;>simp[h4,h2,h3,h5]
  .by_cases h6:p=5
   .by_cases h3:k=5<;>by_cases h5:i=1<;>simp[h6,h3,h5]
   .simp[h1,h4,h6]
theorem Mv(L:LexN D)(t:Tr)(hz:WzT t):D.ask (.fn 46) [.agg (BR t)] []=V (bv (Hp t),[]):=by
 obtain⟨k,l,r,op,p,q,ks⟩:=t;obtain⟨hl,hr,hk,zl,zr,_⟩:=hz;have g1:=Hh K L l zl hl;have g2:=Hh K L r zr hr;refine Ao K Aru (e46 ..) ?_;unfold Hp;rw[CP,Al]
 by_cases h0:k=2
 .refine Aw ?_ h0
  refine Aa g1 ?_;simp only[Ae]
  cases IG l with
  |false=>simp[h0,Ae]
  |true=>
   simp only[Ae];refine Aa g2 ?_;simp only[Ae]
   cases IG r with
   |false=>simp[h0,Ae]
   |true=>
    simp only[Ae,Po,F9,GJ,FX,decide_eq_true_eq,ci0]
    by_cases h3:0<=op<;>by_cases h4:op<=5<;>by_cases h5:p=Ai []<;>by_cases h6:q=Ai []<;>by_cases h7:ks.length=0<;>simp[h0,h3,h4,h5,h6,h7]
 .refine As ?_ h0
  simp[h0]
omit K in
theorem QH{x:Tr}{ks:List Tr}(h:x∈ks):SizeOf.sizeOf x<SizeOf.sizeOf ks:=List.sizeOf_lt_of_mem h
def Lb(t:Tr):ABlk:=θ (BR t) U Θ
theorem AhR(t:Tr)(d:Nat)(hd:d<=60)(ks:List Tr)(hk:ks.length<4611686018427387904)(g:∀ x∈ks,∀ d:Nat,d<=60->D.ask (.fn 62) [.agg (BR x),iv (d:Int)] []=V (bv (BI x d),[])):∀(n i:Nat),ks.length-i=n->
  D.ask (.lp 62 0) [iv (d:Int),.ptr 0 0,.ls (ks.map BR),iv (ks.length:Int),iv (i:Int)] [Lb t]=V (if E4 t.kind d i (ks.drop i) then .tup [iv 0] else .tup [bv U,bv Θ],[.del]):=by
 intro n;obtain⟨k,l,r,op,p,q,kz⟩:=t
 induction n with
 |zero=>
  intro i hi;refine Ax K Aga (AlO ..) ?_;rw[show ks.drop i=[] from υ (by omega)];refine Ap ?_;rfl
 |succ n ih=>
  intro i hi;have hlt:i<ks.length:=by omega
  have ih:=ih (i+1) (by omega);rw[show ks.drop i=ks[i]::ks.drop (i+1) from χ hlt];have gx:=g ks[i] (Awy hlt);have hb:=T9 K k i ks[i];refine Ax K Aga (AlO ..) ?_;refine Au ?_;rw[AD,AA (Ψ hlt)];revert gx hb;generalize ks[i]=x;obtain⟨xk,xl,xr,xo,xp,xq,xs⟩:=x;intro gx hb;unfold E4 Tr.kind;unfold Tr.kind at hb ih;simp only[BR,Ae];refine Aa hb ?_;simp only[Ae];have tl:∀(b:Bool),(if b=U then E4 k d (i+1) (ks.drop (i+1))=U else False)->True:=λ_ _=>trivial
  cases hbk:brk k i xk with
  |true=>
   refine Af ?_;rw[Bv (by omega)]
   by_cases h60:d+1<=60
   .refine Ap ?_
    refine Aa (gx (d+1) h60) ?_;simp only[Ae];rw[show E0 U d=d+1 from rfl,AW h60,AwD]
    cases BI (.mk xk xl xr xo xp xq xs) (d+1) with
    |false=>rfl
    |true=>
     refine Af ?_;rw[Bv (by omega)];refine Aa ih ?_;rw[AwD]
     cases E4 k d (i+1) (ks.drop (i+1))<;>rfl
   .refine Au ?_
    rw[show E0 U d=d+1 from rfl,Be h60,Aw3,Aw3];rfl
  |false=>
   refine BF ?_;refine Ap ?_;refine Aa (gx d hd) ?_;simp only[Ae];rw[show E0 Θ d=d from rfl,AW hd,AwD]
   cases BI (.mk xk xl xr xo xp xq xs) d with
   |false=>rfl
   |true=>
    refine Af ?_;rw[Bv (by omega)];refine Aa ih ?_;rw[AwD]
    cases E4 k d (i+1) (ks.drop (i+1))<;>rfl
theorem AhT(L:LexN D):∀(n:Nat) (t:Tr),SizeOf.sizeOf t<n->WzT t->∀ d:Nat,d<=60->D.ask (.fn 62) [.agg (BR t),iv (d:Int)] []=V (bv (BI t d),[]):=by
 intro n
 induction n with
 |zero=>intro t h;omega
 |succ n ih=>
  intro t ht hz d hd;have gb:=TZ K t;have gc:=Mv K L t hz;obtain⟨k,l,r,op,p,q,ks⟩:=t;obtain⟨hl,hr,hk,zl,zr,hx⟩:=hz;have ga:=Aex K k;have gk:∀ x∈ks,∀ d:Nat,d<=60->D.ask (.fn 62) [.agg (BR x),iv (d:Int)] []=V (bv (BI x d),[]):=λx hm d hd=>ih x (by
   have h1:=QH hm;simp only[Tr.mk.sizeOf_spec]at ht;omega) (hx x hm) d hd
  have glp:=λ(d:Nat) (hd:d<=60)=>AhR K (.mk k l r op p q ks) d hd ks hk gk _ 0 rfl
  simp only[κ,Tr.kind,Lb,BR]at glp;refine Ao K Aga (e62 ..) ?_;unfold BI;rw[CP]at glp ⊢;rw[Al];simp only[BR,CP]at gb gc
  by_cases h2:k=2
  .refine Aw ?_ h2
   refine Aa gc ?_;simp only[Ae];rw[Ac h2]
   cases Hp (.mk k l r op p q ks)<;>rfl
  .refine As ?_ h2
   rw[Ab h2];have fin:∀(d:Nat),d<=61->∀(X:KR),(d<=60->X=V (bv (E4 k d 0 ks),[]))->br (Ak.lt 60 (d:Int)) (V (bv Θ,[])) X=V (bv (decide (d<=60)&&E4 k d 0 ks),[]):=λd h61 X hX=>by
    by_cases h:d<=60
    .refine Ap ?_
     rw[hX h,AW h,AwD]
    .refine Au ?_
     rw[Be h,Aw3]
   by_cases h3:k=3
   .refine Aw ?_ h3
    refine Aa gb ?_;simp only[Ae]
    cases Eh (.mk k l r op p q ks) with
    |false=>rfl
    |true=>
     refine Af ?_;refine Aa ga ?_;simp only[Ae]
     by_cases h4:(ks.length:Int)=arI k
     .refine Aw ?_ h4
      rw[AW h4,AwD,AwD,AW h3,Bv (by omega)];refine fin (d+1) (by omega) _ λh=>?_
      refine Aa (glp (d+1) h) ?_
      cases E4 k (d+1) 0 ks<;>rfl
     .refine As ?_ h4
      rw[Be h4,AwD,Aw3,Aw3]
   .refine As ?_ h3
    refine Aa gb ?_;simp only[Ae]
    cases Eh (.mk k l r op p q ks) with
    |false=>rfl
    |true=>
     refine Af ?_;refine Aa ga ?_;simp only[Ae]
     by_cases h4:(ks.length:Int)=arI k
     .refine Aw ?_ h4
      rw[AW h4,AwD,AwD,Be h3];refine fin d (by omega) _ λh=>?_
      refine Aa (glp d h) ?_
      cases E4 k d 0 ks<;>rfl
     .refine As ?_ h4
      rw[Be h4,AwD,Aw3,Aw3]
theorem Aeq(L:LexN D)(t:Tr)(hz:WzT t):D.ask (.fn 24) [.agg (BR t)] []=V (bv (BI t 0),[]):=by
 have g:=AhT K L _ t (Awz _) hz 0 (by omega);obtain⟨k,l,r,op,p,q,ks⟩:=t;refine Ao K Ark (e24 ..) ?_;refine Aa g ?_;simp only[Ae]
 cases BI (.mk k l r op p q ks) 0<;>rfl
end
def DQ(k:Int):Int:=if k=0 then 0 else if k=1 then 0 else if k=2 then 0 else if k=6 then 0 else if k=3 then 1 else if k=8 then 1 else if k=9 then 1 else if k=10 then 1 else if k=4 then 2 else if k=5 then 2 else if k=7 then 2 else if k=11 then 2 else if k=12 then 2 else -1
def Bl(k:Int):Int:=if k=7 then 1 else if k=5 then 2 else if k=4 then 3 else if k=11 then 4 else if k=12 then 4 else 5
def Bx(p:Int)(i:Nat)(k:Int):Bool:=if DQ p=1 then decide (Bl k<5) else if Bl p=Bl k then((decide (Bl p=1)||decide (Bl p=4)) == decide (i=0)) else decide (Bl k<Bl p)
def MZ:Tr->Bool
 |.mk k l r op p q ks=>if k=2 then Hp (.mk k l r op p q ks) else if k=6 then decide (l.length=0)&&decide (r.length=0)&&decide (op=0)&&Ce p.data.toList&&Ce q.data.toList else Eh (.mk k l r op p q ks)
mutual
def AR:Tr->Nat->Bool
 |.mk k l r op p q ks,d=>if(ks.length:Int)=DQ k then(if DQ k=0 then MZ (.mk k l r op p q ks) else decide (E0 (decide (DQ k=1)) d<=60)&&Eh (.mk k l r op p q ks)&&EM k (E0 (decide (DQ k=1)) d) 0 ks) else Θ
def EM(k:Int)(d:Nat):Nat->List Tr->Bool
 |_,[]=>U
 |i,x::r=>(decide (E0 (Bx k i x.kind) d<=60)&&AR x (E0 (Bx k i x.kind) d))&&EM k d (i+1) r
end
inductive WzP:Tr->Prop where
 |mk {k:Int} {l r:List Mo} {op:Int} {p q:ByteArray} {ks:List Tr} (zp:p.size<=9223372036854775807) (zq:q.size<=9223372036854775807) (h:∀ x∈ks,WzP x):WzP (.mk k l r op p q ks)
theorem Agl(c:Prop)[Decidable c](a b:Int):(if c then V (iv a,([]:List BO)) else V (iv b,[]))=V (iv (if c then a else b),[]):=by
 by_cases h:c
 .rw[Ac h,Ac h]
 .rw[Ab h,Ab h]
section
variable {D:Orc}
variable (K:Knows Ah Nv D)
include K
theorem SQ(k:Int):D.ask (.fn 132) [iv k] []=V (iv (DQ k),[]):=by
 refine Ao K Amf (AtN ..) ?_;unfold DQ;simp only[F9,FX,decide_eq_true_eq,Agl]
theorem S2(k:Int):D.ask (.fn 194) [iv k] []=V (iv (Bl k),[]):=by
 refine Ao K AmI (Auq ..) ?_;unfold Bl;simp only[F9,FX,decide_eq_true_eq,Agl]
theorem Lu(p:Int)(i:Nat)(t:Tr):D.ask (.fn 134) [iv p,iv (i:Int),.agg (BR t)] []=V (bv (Bx p i t.kind),[]):=by
 obtain⟨k,l,r,op,q,v,ks⟩:=t;refine Ao K Amh (AtP ..) ?_;refine Aa (S2 K p) ?_;simp only[Ae];refine Aa (S2 K k) ?_;simp only[Ae];refine Aa (SQ K p) ?_;simp only[Ae];unfold Bx Tr.kind;have e1:Ak.beq U U=U:=rfl;have e2:Ak.beq U Θ=Θ:=rfl;have e3:Ak.beq Θ U=Θ:=rfl;have e4:Ak.beq Θ Θ=U:=rfl;simp only[F9,Lh,FX,decide_eq_true_eq,e1,e2,e3,e4,ci0];generalize Bl p=a;generalize Bl k=b
 by_cases h1:DQ p=1
 .by_cases h2:b<5<;>simp[h1,h2]
 .by_cases h2:a=b
  .by_cases h3:a=1
   .by_cases h5:i=0<;>simp_all
   .by_cases h4:a=4<;>by_cases h5:i=0<;>simp_all
  .by_cases h3:b<a<;>simp[h1,h2,h3]
theorem Ac3(t:Tr)(d:Nat)(hd:d<=60)(ks:List Tr)(hk:ks.length<4611686018427387904)(g:∀ x∈ks,∀ d:Nat,d<=60->D.ask (.fn 74) [.agg (BR x),iv (d:Int)] []=V (bv (AR x d),[])):∀(n i:Nat),ks.length-i=n->
  D.ask (.lp 74 0) [iv (d:Int),.ptr 0 0,.ls (ks.map BR),iv (ks.length:Int),iv (i:Int)] [Lb t]=V (if EM t.kind d i (ks.drop i) then .tup [iv 0] else .tup [bv U,bv Θ],[.del]):=by
 intro n;obtain⟨k,l,r,op,p,q,kz⟩:=t
 induction n with
 |zero=>
  intro i hi;refine Ax K Agb (AlQ ..) ?_;rw[show ks.drop i=[] from υ (by omega)];refine Ap ?_;rfl
 |succ n ih=>
  intro i hi;have hlt:i<ks.length:=by omega
  have ih:=ih (i+1) (by omega);rw[show ks.drop i=ks[i]::ks.drop (i+1) from χ hlt];have gx:=g ks[i] (Awy hlt);have hb:=Lu K k i ks[i];refine Ax K Agb (AlQ ..) ?_;refine Au ?_;rw[AD,AA (Ψ hlt)];revert gx hb;generalize ks[i]=x;obtain⟨xk,xl,xr,xo,xp,xq,xs⟩:=x;intro gx hb;unfold EM Tr.kind;unfold Tr.kind at hb ih;simp only[BR,Ae];refine Aa hb ?_;simp only[Ae];have tl:∀(b:Bool),(if b=U then EM k d (i+1) (ks.drop (i+1))=U else False)->True:=λ_ _=>trivial
  cases hbk:Bx k i xk with
  |true=>
   refine Af ?_;rw[Bv (by omega)]
   by_cases h60:d+1<=60
   .refine Ap ?_
    refine Aa (gx (d+1) h60) ?_;simp only[Ae];rw[show E0 U d=d+1 from rfl,AW h60,AwD]
    cases AR (.mk xk xl xr xo xp xq xs) (d+1) with
    |false=>rfl
    |true=>
     refine Af ?_;rw[Bv (by omega)];refine Aa ih ?_;rw[AwD]
     cases EM k d (i+1) (ks.drop (i+1))<;>rfl
   .refine Au ?_
    rw[show E0 U d=d+1 from rfl,Be h60,Aw3,Aw3];rfl
  |false=>
   refine BF ?_;refine Ap ?_;refine Aa (gx d hd) ?_;simp only[Ae];rw[show E0 Θ d=d from rfl,AW hd,AwD]
   cases AR (.mk xk xl xr xo xp xq xs) d with
   |false=>rfl
   |true=>
    refine Af ?_;rw[Bv (by omega)];refine Aa ih ?_;rw[AwD]
    cases EM k d (i+1) (ks.drop (i+1))<;>rfl
theorem AgI(Kt:Knows Ah FS D)(L:LexN D)(t:Tr)(hz:WzT t)(hp:WzP t):D.ask (.fn 133) [.agg (BR t)] []=V (bv (MZ t),[]):=by
 have gb:=TZ Kt t;have gc:=Mv Kt L t hz;obtain⟨k,l,r,op,p,q,ks⟩:=t;obtain⟨z1,z2,_⟩:=hp;have gp:=L.name p z1;have gq:=L.name q z2;refine Ao K Amg (AtO ..) ?_;rw[MZ];rw[Al,Al];simp only[BR]at gb gc
 by_cases h2:k=2
 .refine Aw ?_ h2
  refine Aa gc ?_;rw[Ac h2]
  cases Hp (.mk k l r op p q ks)<;>rfl
 .refine As ?_ h2
  rw[Ab h2]
  by_cases h6:k=6
  .refine Aw ?_ h6
   rw[Ac h6]
   by_cases h3:l.length=0
   .refine Aw ?_
    by_cases h4:r.length=0
    .refine Aw ?_
     by_cases h5:op=0
     .refine Aw ?_ h5
      refine Aa gp ?_;simp only[Ae];rw[AW h3,AW h4,AW h5]
      cases Ce p.data.toList with
      |false=>rfl
      |true=>
       refine Af ?_;refine Aa gq ?_
       cases Ce q.data.toList<;>rfl
     .refine As ?_ h5
      simp[h5]
    .refine As ?_
     simp[h4]
   .refine As ?_
    simp[h3]
  .refine As ?_ h6
   rw[Ab h6];refine Aa gb ?_
   cases Eh (.mk k l r op p q ks)<;>rfl
theorem Ac4(Kt:Knows Ah FS D)(L:LexN D):∀(n:Nat) (t:Tr),SizeOf.sizeOf t<n->WzT t->WzP t->∀ d:Nat,d<=60->D.ask (.fn 74) [.agg (BR t),iv (d:Int)] []=V (bv (AR t d),[]):=by
 intro n
 induction n with
 |zero=>intro t h;omega
 |succ n ih=>
  intro t ht hz hp d hd;have gb:=TZ Kt t;have gl:=AgI K Kt L t hz hp;obtain⟨k,l,r,op,p,q,ks⟩:=t;obtain⟨hl,hr,hk,zl,zr,hx⟩:=hz;obtain⟨_,_,hy⟩:=hp;have ga:=SQ K k;have gk:∀ x∈ks,∀ d:Nat,d<=60->D.ask (.fn 74) [.agg (BR x),iv (d:Int)] []=V (bv (AR x d),[]):=λx hm d hd=>ih x (by
   have h1:=QH hm;simp only[Tr.mk.sizeOf_spec]at ht;omega) (hx x hm) (hy x hm) d hd
  have glp:=λ(d:Nat) (hd:d<=60)=>Ac3 K (.mk k l r op p q ks) d hd ks hk gk _ 0 rfl
  simp only[κ,Tr.kind,Lb,BR]at glp;refine Ao K Agb (e74 ..) ?_;rw[AR];rw[CP]at glp ⊢;rw[Al];simp only[BR,CP]at gb gl;refine Aa ga ?_;simp only[Ae]
  by_cases h4:(ks.length:Int)=DQ k
  .refine Aw ?_ h4
   rw[Ac h4]
   by_cases h0:DQ k=0
   .refine Aw ?_ h0
    rw[Ac h0];refine Aa gl ?_
    cases MZ (.mk k l r op p q ks)<;>rfl
   .refine As ?_ h0
    rw[Ab h0]
    by_cases h1:DQ k=1
    .refine Aw ?_ h1
     rw[AW h1,Bv (by omega)]
     by_cases h60:d+1<=60
     .refine Ap ?_
      rw[show E0 U d=d+1 from rfl,AW h60,AwD];refine Aa gb ?_;simp only[Ae]
      cases Eh (.mk k l r op p q ks) with
      |false=>rfl
      |true=>
       refine Af ?_;refine Aa (glp (d+1) h60) ?_;rw[AwD]
       cases EM k (d+1) 0 ks<;>rfl
     .refine Au ?_
      rw[show E0 U d=d+1 from rfl,Be h60,Aw3,Aw3]
    .refine As ?_ h1
     rw[Be h1];refine Ap ?_;rw[show E0 Θ d=d from rfl,AW hd,AwD];refine Aa gb ?_;simp only[Ae]
     cases Eh (.mk k l r op p q ks) with
     |false=>rfl
     |true=>
      refine Af ?_;refine Aa (glp d hd) ?_;rw[AwD]
      cases EM k d 0 ks<;>rfl
  .refine As ?_ h4
   rw[Ab h4]
theorem KV(Kt:Knows Ah FS D)(L:LexN D)(t:Tr)(hz:WzT t)(hp:WzP t):D.ask (.fn 36) [.agg (BR t)] []=V (bv (AR t 0),[]):=by
 have g:=Ac4 K Kt L _ t (Awz _) hz hp 0 (by omega);obtain⟨k,l,r,op,p,q,ks⟩:=t;refine Ao K Arp (e36 ..) ?_;refine Aa g ?_;simp only[Ae]
 cases AR (.mk k l r op p q ks) 0<;>rfl
end
def JI(l r:List Mo)(op:Int):List UInt8:=C0 l++[32]++E2.getD op.toNat []++[32]++C0 r
def ApI(k:Int)(ts:List (List UInt8)):List UInt8:=if k=3 then [33]++ts.getD 0 [] else if k=4 then ts.getD 0 []++[32,38,32]++ts.getD 1 [] else if k=5 then ts.getD 0 []++[32,124,32]++ts.getD 1 [] else [116,114,117,101]
mutual
def txt:Tr->List UInt8
 |.mk k l r op p q ks=>if k=1 then [102,97,108,115,101] else if k=2 then(if Hp (.mk k l r op p q ks) then JI l r op else []) else ApI k (Anm k 0 ks)
def Anm(k:Int):Nat->List Tr->List (List UInt8)
 |_,[]=>[]
 |i,x::r=>(if brk k i x.kind then [40]++txt x++[41] else txt x)::Anm k (i+1) r
end
abbrev KT:=Nat × List UInt8
def kt(t:Tk):KT:=(t.kind,t.text)
def NC(m:Mo):List KT:=if m.num≠Ai [] then(if m.var≠Ai [] then [(3,m.num.data.toList),(2,[42]),(1,m.var.data.toList)] else [(3,m.num.data.toList)]) else [(1,m.var.data.toList)]
def AdJ(i:Nat)(m:Mo):List KT:=if m.neg then [(2,[45])] else if i=0 then [] else [(2,[43])]
def Df:Nat->List Mo->List KT
 |_,[]=>[]
 |i,m::r=>AdJ i m++NC m++Df (i+1) r
def ArN(k:Int)(ts:List (List KT)):List KT:=if k=3 then [(2,[33])]++ts.getD 0 [] else if k=4 then ts.getD 0 []++[(2,[38])]++ts.getD 1 [] else if k=5 then ts.getD 0 []++[(2,[124])]++ts.getD 1 [] else [(1,[116,114,117,101])]
mutual
def Nz:Tr->List KT
 |.mk k l r op _ _ ks=>if k=1 then [(1,[102,97,108,115,101])] else if k=2 then Df 0 l++[(2,E2.getD op.toNat [])]++Df 0 r else ArN k (ArY k 0 ks)
def ArY(k:Int):Nat->List Tr->List (List KT)
 |_,[]=>[]
 |i,x::r=>(if brk k i x.kind then [(2,[40])]++Nz x++[(2,[41])] else Nz x)::ArY k (i+1) r
end
def Eu(k:Int):List UInt8:=if k=3 then [33] else if k=8 then [88,32] else if k=9 then [71,32] else if k=10 then [70,32] else if k=4 then [32,38,32] else if k=5 then [32,124,32] else if k=7 then [32,45,62,32] else if k=11 then [32,85,32] else [32,82,32]
def GA:Tr->List UInt8
 |.mk k l r op p q ks=>if k=0 then [116,114,117,101] else if k=1 then [102,97,108,115,101] else if k=6 then [64]++p.data.toList++[46]++q.data.toList else if Hp (.mk k l r op p q ks) then JI l r op else []
def AgH(t:Tr):List (List UInt8)->List UInt8
 |[]=>GA t
 |[a]=>Eu t.kind++a
 |a::b::_=>a++Eu t.kind++b
mutual
def Cb:Tr->List UInt8
 |.mk k l r op p q ks=>AgH (.mk k l r op p q []) (CY k 0 ks)
def CY(k:Int):Nat->List Tr->List (List UInt8)
 |_,[]=>[]
 |i,x::r=>(if Bx k i x.kind then [40]++Cb x++[41] else Cb x)::CY k (i+1) r
end
def YO(ts:List Tk)(i e:Nat):Nat × Nat × Nat:=if e=0 then(if(nx ts i).kind=5 then(0,0,0) else((nx ts i).ln,(nx ts i).co,101)) else((nx ts i).ln,(nx ts i).co,e)
def R2(e:Nat)(x:Tr):Tr:=if e=0 then x else T0
def HH(x:Tr)(q:Nat × Nat × Nat):AV:=.tup [.agg (BR (R2 q.2.2 x)),.agg [iv (q.1:Int),iv (q.2.1:Int)],iv (q.2.2:Int)]
structure AllF (D:Orc) (s:ByteArray) (ts:List Tk) (ln co e:Nat):Prop where
 all:D.ask (.fn 91) [sv s] []=V (.tup [.ls (ts.map NT),.agg [iv (ln:Int),iv (co:Int)],iv (e:Int)],[])
 rall:D.ask (.fn 50) [sv s] []=V (.tup [.ls (ts.map NT),.agg [iv (ln:Int),iv (co:Int)],iv (e:Int)],[])
 zero:e=0->ln=0/\co=0
theorem Ahd(a b:Int):Ak.not (Ak.band (Ak.eq a a) (Ak.band (Ak.eq b b) U))=Θ:=by
 rw[F9,F9,AW rfl,AW rfl];rfl
section
open Go.RowKit
variable (A:Ar) (D:Orc)
end
section
open Go.RowKit
variable (A:Ar) (D:Orc)
end
theorem Alf{l:List UInt8}{e:Nat}(h:Dr l=.err e):e≠0:=by
 cases l with
 |nil=>simp[Dr]at h
 |cons c l=>
  rw[BG]at h
  repeat' split at h
  all_goals simp at h
  all_goals omega
theorem UO{t:Tk}{r:LexR}{ts:List Tk}(h:r.more t=.ok ts):∃ us,r=.ok us/\ts=t::us:=by
 cases r with
 |ok us=>exact⟨us,rfl,by injection h with h;exact h.symm⟩
 |err=>cases h
theorem W8{t:Tk}{r:LexR}{c ln co:Nat}(h:r.more t=.err c ln co):r=.err c ln co:=by
 cases r with
 |ok us=>cases h
 |err=>exact h
structure TksF (n:Nat) (ts:List Tk):Prop where
 len:ts.length<=n+1
 ne:ts≠[]
 last:∀ d,(ts.getLastD d).kind=5
 each:∀ t∈ts,t.text.length<=n/\(t.kind≠5->t.text≠[])
theorem Zo:∀(n:Nat) (l:List UInt8) (p:Nat × Nat),l.length<=n->(∀ ts,GX l p=.ok ts->TksF n ts)/\∀ c ln co,GX l p=.err c ln co->c≠0:=by
 intro n
 induction n with
 |zero=>
  intro l p hl;have:l=[]:=AwX.1 (by omega);subst this;rw[CU];refine⟨λts h=>?_,λc ln co h=>?_⟩
  .have h:LexR.ok [⟨5,[],(adv p []).1,(adv p []).2⟩]=.ok ts:=h
   injection h with h
   subst h;exact⟨by simp,by simp,λd=>rfl,by simp⟩
  .have h:LexR.ok [⟨5,[],(adv p []).1,(adv p []).2⟩]=.err c ln co:=h
   cases h
 |succ n ih=>
  intro l p hl;rw[CU]
  cases ht:Dr (l.drop (Ei Θ l)) with
  |fin=>
   refine⟨λts h=>?_,λc ln co h=>(by cases h)⟩;injection h with h
   subst h;exact⟨by simp,by simp,λd=>rfl,by simp⟩
  |err e=>
   refine⟨λts h=>(by cases h),λc ln co h=>?_⟩;injection h with h
   rw[←h];exact Alf ht
  |tok k m=>
   have hm:=EX ht;rw[AwR]at hm;have ih:=ih (l.drop (Ei Θ l+m)) (adv (adv p (l.take (Ei Θ l))) ((l.drop (Ei Θ l)).take m)) (by rw[AwR];omega);refine⟨λts h=>?_,λc ln co h=>ih.2 c ln co (W8 h)⟩;obtain⟨us,hu,rfl⟩:=UO h;have f:=ih.1 us hu;have hlen:((l.drop (Ei Θ l)).take m).length=m:=by rw[AwL,AwR];omega
   refine⟨by have:=f.len;simp;omega,by simp,λd=>?_,λt h=>?_⟩
   .rw[List.getLastD_cons]
    exact f.last _
   .rcases List.mem_cons.1 h with rfl|h
    .refine⟨by rw[hlen];omega,λ_ h0=>?_⟩
     have h0:(l.drop (Ei Θ l)).take m=[]:=h0;rw[h0]at hlen;simp at hlen;omega
    .have:=f.each t h
     exact⟨by omega,this.2⟩
theorem Dv(l:List UInt8):(∀ ts,BV l=.ok ts->TksF l.length ts)/\∀ c ln co,BV l=.err c ln co->c≠0:=by
 unfold BV;split
 .refine⟨λts h=>(by cases h),λc ln co h=>?_⟩
  injection h with h
  omega
 .exact Zo l.length l (1,1) (Nat.le_refl _)
theorem UW{ts:List Tk}(h:ts≠[])(i:Nat):nx ts i∈ts:=by
 unfold nx
 cases e:ts[i]? with
 |some t=>exact List.mem_of_getElem? e
 |none=>
  simp only;rw[List.getLastD_eq_getLast?,List.getLast?_eq_some_getLast h];exact List.getLast_mem h
theorem TksF.toks{n:Nat}{ts:List Tk}(f:TksF n ts)(hn:n<=1000000):Toks ts where
 len:=by have:=f.len;omega
 short i:=by have:=(f.each _ (UW f.ne i)).1;omega
 fin:=f.last _
theorem QK{l:List UInt8}{ts:List Tk}(h:BV l=.ok ts):l.length<=16384:=by
 unfold BV at h;split at h
 .cases h
 .omega
section
variable {D:Orc}
structure LexF (D:Orc):Prop where
 ok:∀(s:ByteArray) (ts:List Tk),s.size<=9223372036854775807->BV s.data.toList=.ok ts->AllF D s ts 0 0 0
 err:∀(s:ByteArray) (c ln co:Nat),s.size<=9223372036854775807->BV s.data.toList=.err c ln co->AllF D s [] ln co c
structure LexA (D:Orc):Prop where
 ok:∀(s:ByteArray) (ts:List Tk),s.size<=9223372036854775807->BV s.data.toList=.ok ts->D.ask (.fn 91) [sv s] []=V (.tup [.ls (ts.map NT),.agg [iv 0,iv 0],iv 0],[])
 err:∀(s:ByteArray) (c ln co:Nat),s.size<=9223372036854775807->BV s.data.toList=.err c ln co->D.ask (.fn 91) [sv s] []=V (.tup [.ls [],.agg [iv (ln:Int),iv (co:Int)],iv (c:Int)],[])
set_option linter.unusedSectionVars false
variable (K:Knows Ah De D) (Kb:Knows Ah Jq D) (L:NameF D) (Kw:Knows Ah RD D)
variable  (R:RNameF D)  (A:LexF D)
include R A
end
def J3(c:UInt8):Bool:=[40,41,44,59,58,46,43,42,38,124,33,64,61,60,62,47,45].contains c.toNat
theorem AkY:∀ x∈Iy,x.length<=2:=by decide
theorem ZP(x:List UInt8)(c d:UInt8)(l:List UInt8)(h:x.length<=2):x.isPrefixOf (c::d::l)=x.isPrefixOf [c,d]:=by
 match x,h with
 |[],_=>rfl
 |[a],_=>rfl
 |[a,b],_=>simp[Ayp]
theorem OF{p q:List UInt8->Bool}:∀(l:List (List UInt8)),(∀ x∈l,p x=q x)->l.find? p=l.find? q
 |[],_=>rfl
 |a::l,h=>by rw[Ayo,Ayo,h a (List.mem_cons_self ..),OF l λx hx=>h x (List.mem_cons_of_mem _ hx)]
theorem AdK(c d:UInt8)(l:List UInt8):Cc (c::d::l)=Cc [c,d]:=by
 unfold Cc;rw[OF Iy λx hx=>ZP x c d l (AkY x hx)]
theorem C5(a:Nat)(ha:a<256)(c:UInt8):(UInt8.ofNat a == c)=(c.toNat == a):=by
 rw[Bool.eq_iff_iff,beq_iff_eq,beq_iff_eq];constructor
 .rintro rfl
  simp[Nat.mod_eq_of_lt ha]
 .intro h
  subst h;simp
def R8(n m:Nat):Nat:=if n=45/\m=62 then 2 else if n=58/\m=61 then 2 else if n=33/\m=61 then 2 else if n=60/\m=61 then 2 else if n=62/\m=61 then 2 else if n=46/\m=46 then 2
 else if [40,41,44,59,58,46,43,42,38,124,33,64,61,60,62,47,45].contains n then 1 else 0
def Ib:Option (List UInt8)->Nat|some y=>y.length|none=>0
theorem Tv(l:List UInt8):Cc l=Ib (Iy.find? (·.isPrefixOf l)):=by unfold Cc Ib;rfl
theorem Sz(x:List UInt8)(xs:List (List UInt8))(l:List UInt8):Ib ((x::xs).find? (·.isPrefixOf l))=if x.isPrefixOf l then x.length else Ib (xs.find? (·.isPrefixOf l)):=by
 rw[Ayo]
 cases h:x.isPrefixOf l<;>simp[Ib]
theorem SC(q:List UInt8->Bool):Ib (([]:List (List UInt8)).find? q)=0:=rfl
theorem Avw(a b c d:UInt8):[a,b].isPrefixOf [c,d]=(a == c&&b == d):=by simp[Ayp]
theorem Avv(a c d:UInt8):[a].isPrefixOf [c,d]=(a == c):=by simp[Ayp]
theorem AsU(a b c:UInt8):[a,b].isPrefixOf [c]=Θ:=by simp[Ayp]
theorem AsT(a c:UInt8):[a].isPrefixOf [c]=(a == c):=by simp[Ayp]
theorem bE(c:UInt8):((45:UInt8) == c)=(c.toNat == 45)/\((62:UInt8) == c)=(c.toNat == 62)/\((58:UInt8) == c)=(c.toNat == 58)/\((61:UInt8) == c)=(c.toNat == 61)/\((33:UInt8) == c)=(c.toNat == 33)/\((60:UInt8) == c)=(c.toNat == 60)/\((46:UInt8) == c)=(c.toNat == 46) ∧
  ((40:UInt8) == c)=(c.toNat == 40)/\((41:UInt8) == c)=(c.toNat == 41)/\((44:UInt8) == c)=(c.toNat == 44)/\((59:UInt8) == c)=(c.toNat == 59)/\((43:UInt8) == c)=(c.toNat == 43)/\((42:UInt8) == c)=(c.toNat == 42)/\((38:UInt8) == c)=(c.toNat == 38)/\((124:UInt8) == c)=(c.toNat == 124)/\((64:UInt8) == c)=(c.toNat == 64)/\((47:UInt8) == c)=(c.toNat == 47):=
 ⟨C5 45 (by decide) c,C5 62 (by decide) c,C5 58 (by decide) c,C5 61 (by decide) c,C5 33 (by decide) c,C5 60 (by decide) c,C5 46 (by decide) c,C5 40 (by decide) c,C5 41 (by decide) c,C5 44 (by decide) c,C5 59 (by decide) c,C5 43 (by decide) c,C5 42 (by decide) c,C5 38 (by decide) c,C5 124 (by decide) c,C5 64 (by decide) c,C5 47 (by decide) c⟩
set_option maxHeartbeats 2000000 in
theorem Aih(c d:UInt8):Cc [c,d]=R8 c.toNat d.toNat:=by
 rw[Tv];unfold Iy;simp only[Sz,Avw,Avv,SC,π,Aw4];obtain⟨h1,h2,h3,h4,h5,h6,h7,h8,h9,h10,h11,h12,h13,h14,h15,h16,h17⟩:=bE c;obtain⟨k1,k2,k3,k4,k5,k6,k7,_⟩:=bE d;simp only[h1,h2,h3,h4,h5,h6,h7,h8,h9,h10,h11,h12,h13,h14,h15,h16,h17,k2,k4,k7];clear h1 h2 h3 h4 h5 h6 h7 h8 h9 h10 h11 h12 h13 h14 h15 h16 h17 k1 k2 k3 k4 k5 k6 k7;generalize c.toNat=n;generalize d.toNat=m;unfold R8;rcases (by omega:n=40\/n=41\/n=44\/n=59\/n=58\/n=46\/n=43\/n=42\/n=38\/n=124\/n=33\/n=64\/n=61\/n=60\/n=62\/n=47\/n=45\/(n≠40/\n≠41/\n≠44/\n≠59/\n≠58/\n≠46/\n≠43/\n≠42/\n≠38/\n≠124/\n≠33/\n≠64/\n≠61/\n≠60/\n≠62/\n≠47/\n≠45)) with rfl|rfl|rfl|rfl|rfl|rfl|rfl|rfl|rfl|rfl|rfl|rfl|rfl|rfl|rfl|rfl|rfl|h
 all_goals
  rcases (by omega:m=62\/m=61\/m=46\/(m≠62/\m≠61/\m≠46)) with rfl|rfl|rfl|hm
  all_goals first
   |rfl
   |(simp[h,hm];done)
   |(simp[hm.1,hm.2.1,hm.2.2];done)
   |(simp[h];done)
theorem I8(c:UInt8):Cc [c]=if J3 c then 1 else 0:=by
 rw[Tv];unfold Iy;simp only[Sz,AsU,AsT,SC,π,Aw4];obtain⟨h1,h2,h3,h4,h5,h6,h7,h8,h9,h10,h11,h12,h13,h14,h15,h16,h17⟩:=bE c;simp only[h1,h2,h3,h4,h5,h6,h7,h8,h9,h10,h11,h12,h13,h14,h15,h16,h17];clear h1 h2 h3 h4 h5 h6 h7 h8 h9 h10 h11 h12 h13 h14 h15 h16 h17;unfold J3;generalize c.toNat=n;rcases (by omega:n=40\/n=41\/n=44\/n=59\/n=58\/n=46\/n=43\/n=42\/n=38\/n=124\/n=33\/n=64\/n=61\/n=60\/n=62\/n=47\/n=45\/(n≠40/\n≠41/\n≠44/\n≠59/\n≠58/\n≠46/\n≠43/\n≠42/\n≠38/\n≠124/\n≠33/\n≠64/\n≠61/\n≠60/\n≠62/\n≠47/\n≠45)) with rfl|rfl|rfl|rfl|rfl|rfl|rfl|rfl|rfl|rfl|rfl|rfl|rfl|rfl|rfl|rfl|rfl|h
 all_goals first
  |rfl
  |(simp[h])
def Jh(c d:UInt8):Bool:=decide (R8 c.toNat d.toNat=2)
theorem K5(c d:UInt8)(l:List UInt8):Cc (c::d::l)=if Jh c d then 2 else if J3 c then 1 else 0:=by
 rw[AdK,Aih];unfold Jh J3
 by_cases h:R8 c.toNat d.toNat=2
 .simp[h]
 .simp only[h,decide_false,Bool.false_eq_true,if_false]
  unfold R8 at h ⊢
  repeat' split at h
  all_goals first
   |exact absurd rfl h
   |(simp only[*,if_false,if_true])
theorem AbR{c d:UInt8}(h:Jh c d=U):J3 c=U:=by
 unfold Jh at h;rw[decide_eq_true_eq]at h;unfold J3;unfold R8 at h
 repeat' split at h
 all_goals first
  |(rename_i hh;rw[hh.1];rfl)
  |omega
theorem XF(c:UInt8)(l:List UInt8):Cc (c::l)=0 ↔ J3 c=Θ:=by
 cases l with
 |nil=>rw[I8];cases J3 c<;>simp
 |cons d l=>
  rw[K5]
  cases h:Jh c d
  .cases J3 c<;>simp
  .rw[AbR h];simp

section
open Go.RowKit
variable (A:Ar) (D:Orc)
end
theorem JF(a b:List UInt8):Ai a++Ai b=Ai (a++b):=by
 rw[JG,Dg,Dg]
def Jt(c:UInt8):Bool:=c.toNat == 10||c.toNat == 32||c.toNat == 9||c.toNat == 35
def Sep(b:List UInt8):Prop:=∃ c r,b=c::r/\Jt c=U
def AqF(rest:List UInt8):Prop:=rest=[]\/Sep rest
def Aeo(k:Nat)(text:List UInt8):Prop:=(∃ c r,text=c::r/\Jt c=Θ)/\∀ rest,AqF rest->Dr (text++rest)=.tok k text.length
theorem L7{c:UInt8}(h:Jt c=U):c.toNat=10\/c.toNat=32\/c.toNat=9\/c.toNat=35:=by
 unfold Jt at h;simp only[AxM,beq_iff_eq]at h;omega
theorem AfR{c:UInt8}(h:Jt c=U):EL c=Θ:=by
 have:=L7 h;unfold EL D6 BE;simp only[AxT,AxP,decide_eq_false_iff_not,beq_eq_false_iff_ne];omega
theorem AfQ{c:UInt8}(h:Jt c=U):BE c=Θ:=by
 have:=L7 h;unfold BE;simp only[AxP,decide_eq_false_iff_not];omega
theorem AfS{c d:UInt8}(h:Jt d=U):Jh c d=Θ:=by
 have:=L7 h;unfold Jh R8;rw[decide_eq_false_iff_not]
 repeat' split
 all_goals omega
theorem UL{c:UInt8}(h:D6 c=U):Jt c=Θ:=by
 unfold D6 at h;unfold Jt;simp only[η,decide_eq_true_eq]at h;simp only[AxT,beq_eq_false_iff_ne];omega
theorem Aau{c:UInt8}(h:BE c=U):Jt c=Θ:=by
 unfold BE at h;unfold Jt;simp only[η,decide_eq_true_eq]at h;simp only[AxT,beq_eq_false_iff_ne];omega
theorem Aal{c:UInt8}(h:Ho c=U):Jt c=Θ:=by
 unfold Ho at h;unfold Jt;simp only[Ays,Ayy,AxM,beq_iff_eq,AyW]at h;simp only[AxT,beq_eq_false_iff_ne];omega
theorem UX{c:UInt8}(h:J3 c=U):Jt c=Θ:=by
 unfold J3 at h;unfold Jt;simp only[Ays,Ayy,AxM,beq_iff_eq,AyW]at h;simp only[AxT,beq_eq_false_iff_ne];omega
theorem Ie{c:UInt8}(l:List UInt8)(h:Jt c=Θ):Ei Θ (c::l)=0:=by
 unfold Jt at h;simp only[AxT,beq_eq_false_iff_ne]at h;unfold Ei;rw[Ab h.1.1.1,Ab (by decide),Ab h.2,Ab (by rintro (h1|h1);exact h.1.1.2 h1;exact h.1.2 h1)]
theorem Ol(q:UInt8->Bool)(hq:∀ c,Jt c=U->q c=Θ)(rest:List UInt8)(hr:AqF rest):∀ l:List UInt8,DD q (l.take (DD q l)++rest)=DD q l
 |[]=>by
  rcases hr with rfl|⟨c,r,rfl,hc⟩
  .rfl
  .show DD q (c::r)=0
   unfold DD;rw[Ab (by rw[hq c hc];decide)]
 |c::l=>by
  have ih:=Ol q hq rest hr l
  by_cases hc:q c=U
  .have e:DD q (c::l)=DD q l+1:=by rw[DD,Ac hc]
   rw[e,AxY,AwI,DD,Ac hc,ih]
  .have e:DD q (c::l)=0:=by rw[DD,Ab hc]
   rw[e,List.take_zero,AwC];rcases hr with rfl|⟨d,r,rfl,hd⟩
   .rfl
   .unfold DD
    rw[Ab (by rw[hq d hd];decide)]
theorem AdU{l:List UInt8}{k n:Nat}(h:Dr l=.tok k n):Aeo k (l.take n):=by
 have hlen:=EX h;have hl:(l.take n).length=n:=by rw[AwL];omega
 cases l with
 |nil=>simp[Dr]at h
 |cons c l=>
  obtain⟨m,rfl⟩:∃ m,n=m+1:=⟨n-1,by omega⟩;rw[BG]at h;refine⟨⟨c,l.take m,AxY,?_⟩,λrest hr=>?_⟩
  .by_cases h1:D6 c=U
   .exact UL h1
   rw[Ab h1]at h
   by_cases h2:BE c=U
   .exact Aau h2
   rw[Ab h2]at h
   by_cases h3:Ho c=U
   .exact Aal h3
   rw[Ab h3]at h;split at h
   .cases h
   .rename_i h4
    refine UX ?_;rcases ho:J3 c with _|_
    .exact absurd ((XF c l).2 ho) h4
    .rfl
  .rw[hl]
   by_cases h1:D6 c=U
   .rw[Ac h1]at h
    split at h
    .cases h
    .rename_i h20
     injection h with h3 h4
     subst h3;have e:=Ol EL (λc=>AfR) rest hr (c::l);rw[h4]at e h20;rw[AxY,AwI]at e ⊢;rw[BG,Ac h1,e,Ab h20]
   rw[Ab h1]at h
   by_cases h2:BE c=U
   .rw[Ac h2]at h
    split at h
    .cases h
    .split at h
     .cases h
     .rename_i h60 hz
      injection h with h3 h4
      subst h3;have e:=Ol BE (λc=>AfQ) rest hr (c::l);rw[h4]at e h60 hz;rw[AxY,AwI]at e ⊢;rw[BG,Ab h1,Ac h2,e,Ab h60,Ab hz]
   rw[Ab h2]at h
   by_cases h3:Ho c=U
   .rw[Ac h3]at h
    injection h with h4 h5
    subst h4;obtain rfl:m=0:=by omega
    rw[AxY,AwI,BG,Ab h1,Ab h2,Ac h3]
   rw[Ab h3]at h;split at h
   .cases h
   .rename_i h0
    injection h with h4 h5
    subst h4;rw[AxY,AwI,BG,Ab h1,Ab h2,Ab h3];have hs:Cc (c::(l.take m++rest))=m+1:=by
     have ho:J3 c=U:=by
      rcases ho:J3 c with _|_
      .exact absurd ((XF c l).2 ho) h0
      .rfl
     have one_rest:Cc (c::rest)=1:=by
      rcases hr with rfl|⟨d,r,rfl,hd⟩
      .rw[I8,Ac ho]
      .rw[K5,AfS hd,Ab (by decide),Ac ho]
     cases l with
     |nil=>
      rw[I8,Ac ho]at h5;obtain rfl:m=0:=by omega
      simpa using one_rest
     |cons d l=>
      rw[K5]at h5
      by_cases ht:Jh c d=U
      .rw[Ac ht]at h5
       obtain rfl:m=1:=by omega
       rw[show (d::l).take 1=[d] from rfl,AwI,AwC,K5,Ac ht]
      .rw[Ab ht,Ac ho]at h5
       obtain rfl:m=0:=by omega
       simpa using one_rest
    rw[hs,Ab (by omega)]
def GoodToks:List Tk->Prop
 |[]=>False
 |[t]=>t.kind=5/\t.text=[]
 |t::u::r=>Aeo t.kind t.text/\GoodToks (u::r)
theorem GoodToks.cons{t:Tk}{ts:List Tk}(h:Aeo t.kind t.text)(hs:GoodToks ts):GoodToks (t::ts):=by
 cases ts with
 |nil=>exact hs.elim
 |cons u r=>exact⟨h,hs⟩
def K8(ts:List Tk):Nat:=(ts.map (·.text.length)).sum
theorem SU:∀(N:Nat) (l:List UInt8) (p:Nat × Nat) (ts:List Tk),l.length<=N->GX l p=.ok ts->GoodToks ts/\K8 ts<=l.length/\ts.length<=l.length+1:=by
 intro N
 induction N with
 |zero=>
  intro l p ts hl h;obtain rfl:l=[]:=AwX.1 (by omega);rw[CU]at h;simp[Ei,Dr]at h;subst h;exact⟨⟨rfl,rfl⟩,by simp[K8],by simp⟩
 |succ N ih=>
  intro l p ts hl h;rw[CU]at h
  cases ht:Dr (l.drop (Ei Θ l)) with
  |fin=>
   rw[ht]at h;injection h with h
   subst h;exact⟨⟨rfl,rfl⟩,by simp[K8],by simp⟩
  |err e=>rw[ht]at h;cases h
  |tok k n=>
   rw[ht]at h;have hn:=EX ht;rw[AwR]at hn;simp only at h;generalize hr:GX (l.drop (Ei Θ l+n)) (adv (adv p (l.take (Ei Θ l))) ((l.drop (Ei Θ l)).take n))=r at h
   cases r with
   |err e a b=>cases h
   |ok us=>
    injection h with h
    subst h;obtain⟨g1,g2,g3⟩:=ih _ _ _ (by rw[AwR];omega) hr;rw[AwR]at g2 g3;have hg:=AdU ht;have hl2:((l.drop (Ei Θ l)).take n).length=n:=by rw[AwL,AwR];omega
    refine⟨GoodToks.cons hg g1,?_,by simp;omega⟩;unfold K8 at *;rw[List.map_cons,List.sum_cons];simp only[hl2];omega
