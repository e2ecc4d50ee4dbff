/- Functions of the program -/
import Derived.Test.YtpncilciembjdaaGreatDoorHAU
set_option linter.all false
open Bool renaming false->Φ,true->Δ
open Int renaming eq_ofNat_of_zero_le->Ay4,mul_neg->AzY,mul_zero->AyY,natAbs_neg->Ayc,natCast_mul->AyK,neg_mul->AyB,sub_eq_add_neg->AyO,tdiv->Ayr,tmod->AzP,zero_mul->Azi
open List renaming append_assoc->Awd,append_nil->AwF,drop->Av8,drop_eq_getElem_cons->η,drop_eq_nil_of_le->Awb,drop_zero->ο,getD_eq_getElem?_getD->Ax7,getElem?_eq_getElem->ξ,getElem?_eq_none->Axw,length_append->ε,length_cons->γ,length_singleton->Awp,length_take->Awo,nil_append->Awv,replicate->Axl,tail_drop->Ax3,take->κ,take_of_length_le->Aw5,take_succ_eq_append_getElem->AwK
open Nat renaming add_mul_div_left->Ax8,add_zero->Aw1,ble->Awf,div_div_eq_div_mul->AyE,div_eq_of_lt->AxU,div_le_self->Ay8,div_one->AzZ,eq_zero_or_pos->Axk,gcd->AxG,gcd_comm->Ay3,gcd_le_left->AzE,gcd_rec->Az0,gcd_zero_left->Azr,gcd_zero_right->Ays,le_refl->π,le_trans->Awy,lt_of_lt_of_le->AwZ,min_eq_left->Aw4,mod_eq_of_lt->Aw8,mod_lt->AwU,mul_add_div->AzG,mul_add_mod->AzH,mul_assoc->Aw3,mul_comm->Aw2,mul_zero->Ayt,pow_add->Ayb,pow_le_pow_right->Axi,pow_succ->Aw6,pow_zero->AzW,succ_pos->Azm,zero_add->Awt,zero_div->AzX,zero_le->Awz
open Option renaming none->Ξ,some->Θ
namespace Go.Proofs.YtpncilciembjdaaGreatDoor
noncomputable section
open ABlk renaming mk->θ
open AV renaming agg->δ,ls->Ψ,sl->υ,tup->Awe,v->Awc
open BO renaming set->Awn
open IntKind renaming i64->ω,u32->ζ,u64->Ω
open Key renaming fn->φ,lp->Awa
section
open Go.RowKit
def QT:MFn:=AN [⟨37,(mB 25),[(3,1)],[],[(1,((mB 8),([],[])))]⟩,⟨37,(mB 8),[(3,1)],[],[(3,((mB 8),([],[])))]⟩] 149
def MJ:Hnt:=⟨[],[(0,[(1,([.sl 1 1],[.del,.row Δ]))]),(1,[(3,([.sl 1 1],[.del,.row Δ]))])],[(15,[.int .u32]),(16,[.int .u32]),(27,[.int .u32]),(28,[.int .u32])]⟩
def AmF:MFn:=AN [] 186
def AlQ:Hnt:=⟨[],[],[]⟩
def AmG:MFn:=AN [] 187
def AlR:Hnt:=⟨[],[],[(15,[.int .u32]),(16,[.int .u32])]⟩
def Yz:MFn:=AN [⟨28,(mB 35),[],[],[(0,((mB 16),([],[]))),(1,([],([],[])))]⟩] 228
def Uq:Hnt:=⟨[(186,(.int .i64,[])),(187,(.int .u64,[]))],[(0,[(0,([.int .i64],[])),(1,([],[]))])],[]⟩
def Yc:MFn:=AN [⟨36,(mB 227),[(5,1)],[],[(1,((mB 32),([],[])))]⟩] 129
def Uc:Hnt:=⟨[(149,(.ls,[])),(186,(.int .i64,[])),(187,(.int .u64,[]))],[(0,[(1,([.sl 1 1],[.del,.row Δ]))])],[]⟩
def Ym:MFn:=AN [⟨43,(mB 451),[(6,1)],[],[(1,((mB 64),([],[])))]⟩] 182
def Uk:Hnt:=⟨[(149,(.ls,[])),(186,(.int .i64,[])),(187,(.int .u64,[])),(228,(.int .i64,[]))],[(0,[(1,([.sl 1 1],[.del,.row Δ]))])],[]⟩
def YA:MFn:=AN [⟨37,(mB 227),[(5,1)],[],[(1,((mB 96),([],[])))]⟩] 229
def Ur:Hnt:=⟨[(149,(.ls,[])),(187,(.int .u64,[]))],[(0,[(1,([.sl 1 1,.int .u64],[.del,.row Δ]))])],[]⟩
def QU:MFn:=AN [⟨42,(mB 99),[],[5],[(1,((mB 32),([],[])))]⟩,⟨42,(mB 483),[(7,1)],[],[(3,((mB 195),([],[])))]⟩] 183
def MK:Hnt:=⟨[(129,(.ls,[])),(149,(.ls,[])),(229,(.ls,[]))],[(0,[(1,([.ls],[]))]),(1,[(3,([.ls,.ls,.int .i64,.sl 1 1],[.del,.row Δ]))])],[(27,[.int .u32]),(28,[.int .u32]),(35,[.int .u32]),(36,[.int .u32])]⟩
def Yy:MFn:=AN [⟨26,(mB 35),[],[],[(0,((mB 16),([],[]))),(1,([],([],[])))]⟩] 210
def OK:Hnt:=⟨[],[(0,[(0,([.bool],[])),(1,([],[]))])],[(19,[.int .u32]),(20,[.int .u32]),(23,[.int .u32]),(24,[.int .u32])]⟩
def Lr:List (Nat × MFn):=[(149,QT),(186,AmF),(187,AmG),(228,Yz),(129,Yc),(182,Ym),(229,YA),(183,QU),(210,Yy)]
variable (A:Ar) (D:Orc)
theorem Ath(x0:Rw):B3 A D Au MJ .n 149 QT [Ψ x0] [] =
 Ai D (Awa 149 0) [Ψ x0,υ 0 0 0 1,iv 0] [θ [] Δ Δ] [.t,.C,.x,.X,.Y] λc l o=>
 br (BA 1 c)
 (dk [.C,.q 1 1,.N,.D,.R,.X,.E] [.l l,.o o] λn cs1=>
 Ai D (Awa 149 1) [υ 0 0 n 1] [θ cs1 Δ Δ] [.t,.C,.x,.X,.Y] λc4 l4 o1=>
 br (BA 3 c4)
 (dk [.C,.q 1 1,.N,.D,.R,.X,.E] [.l l4,.o o1] λn1 cs3=>
 br ((0+n1*1).ble cs3.length) (Θ ((Ψ (Bo n1 1 (κ (n1*1) cs3)),[]))) Ξ)
 (Ξ))
 (Ξ):=by kernel_rfl
theorem AbL(t0:Rw)(n3:Nat)(c3:Ab)(t4:Int):Dc A D Au MJ .n 149 0 (A1 QT 0).fst (A1 QT 0).snd [Ψ t0,υ 0 0 n3 1,iv t4] [{ cells:=c3,st:=Δ,ex:=Δ }] =
 br (A.lt t4 ↑(AT t0))
 (unI t4 λi=>
 Bw t0 i λcs=>
 dk [.J .u32,.N] [.l cs] λn=>
 br (Ba (n3+1) 4) (br ((0+n3*1).ble c3.length) (AW D (Awa 149 0) [Ψ t0,υ 0 0 (n3+1) 1,iv (A.add ω t4 1)] [θ (Av8 0 (κ (0+n3*1) c3)++[Awc (Value.int ζ n)]) Δ Δ] λr o=>
 AS 1 [2] (AH.mk [(2,θ (Av8 0 (κ (0+n3*1) c3)++[Awc (Value.int ζ n)]) Δ Δ),(1,θ [Awc (Value.int ζ n)] Δ Δ)] 3 Ξ) [0] r o) Ξ) Ξ)
 (Θ ((Awe [iv 0,υ 1 0 n3 1],[BO.del,Awn (θ c3 Δ Δ)]))):=by kernel_rfl
theorem AbM(n3:Nat)(c3:Ab):Dc A D Au MJ .n 149 1 (A1 QT 1).fst (A1 QT 1).snd [υ 0 0 n3 1] [{ cells:=c3,st:=Δ,ex:=Δ }] =
 br (A.lt 0 ↑n3)
 (unI (A.sub ω (↑n3) 1) λi=>
 br (i.blt n3) (Ia c3 (0+i*1) 1 λcs=>
 dk [.J .u32,.N] [.l cs] λn=>
 br (A.eq n 0)
 (unI (A.sub ω (↑n3) 1) λi1=>
 br (HY 0 i1 n3) (AW D (Awa 149 1) [υ 0 0 i1 1] [θ c3 Δ Δ] λr o=>
 AS 1 [0] (AH.mk [(0,θ c3 Δ Δ)] 1 Ξ) [] r o) Ξ)
 (Θ ((Awe [iv 2,υ 1 0 n3 1],[BO.del,Awn (θ c3 Δ Δ)])))) Ξ)
 (Θ ((Awe [iv 2,υ 1 0 n3 1],[BO.del,Awn (θ c3 Δ Δ)]))):=by kernel_rfl
theorem AtD(x0 x1:Rw):B3 A D Au AlQ .n 186 AmF [Ψ x0,Ψ x1] [] =
 br (A.lt ↑(AT x1) ↑(AT x0))
 (Θ ((iv ↑(AT x0),[])))
 (Θ ((iv ↑(AT x1),[]))):=by kernel_rfl
theorem AtF(x0:Rw)(x1:Int):B3 A D Au AlR .n 187 AmG [Ψ x0,iv x1] [] =
 br (A.lt x1 0)
 (Θ ((Awc (Value.int Ω 0),[])))
 (br (A.le (↑(AT x0)) x1)
 (Θ ((Awc (Value.int Ω 0),[])))
 (unI x1 λi=>
 Bw x0 i λcs=>
 dk [.J .u32,.N] [.l cs] λn=>
 Θ ((Awc (Value.int Ω (A.conv Ω n)),[])))):=by kernel_rfl
theorem AtU(x0 x1:Rw):B3 A D Au Uq .n 228 Yz [Ψ x0,Ψ x1] [] =
 Ai D (φ 186) [Ψ x0,Ψ x1] [] [.i,.E] λn=>
 Ai D (Awa 228 0) [Ψ x0,Ψ x1,iv (A.sub ω n 1)] [] [.t,.C,.x,.X,.Y] λc l o1=>
 br (BA 0 c)
 (dk [.I,.N,.E] [.l l,.o o1] λn1=>
 Θ ((iv n1,[])))
 (br (BA 1 c)
 (FQ l<|
 D2 o1<|
 Θ ((iv 0,[])))
 (Ξ)):=by kernel_rfl
theorem Ab3(t0 t1:Rw)(t5:Int):Dc A D Au Uq .n 228 0 (A1 Yz 0).fst (A1 Yz 0).snd [Ψ t0,Ψ t1,iv t5] [] =
 br (A.le 0 t5)
 (Ai D (φ 187) [Ψ t0,iv t5] [] [.j .u64,.E] λn=>
 Ai D (φ 187) [Ψ t1,iv t5] [] [.j .u64,.E] λn1=>
 br (A.lt n n1)
 (Θ ((Awe [bv Δ,iv (-1)],[])))
 (Ai D (φ 187) [Ψ t0,iv t5] [] [.j .u64,.E] λn2=>
 Ai D (φ 187) [Ψ t1,iv t5] [] [.j .u64,.E] λn3=>
 br (A.lt n3 n2)
 (Θ ((Awe [bv Δ,iv 1],[])))
 (AW D (Awa 228 0) [Ψ t0,Ψ t1,iv (A.sub ω t5 1)] [] λr4 o4=>
 AS 0 [] (AH.mk [] 0 Ξ) [] r4 o4)))
 (Θ ((Awe [iv 0],[]))):=by kernel_rfl
theorem As5(x0 x1:Rw):B3 A D Au Uc .n 129 Yc [Ψ x0,Ψ x1] [] =
 Ai D (Awa 129 0) [Ψ x0,Ψ x1,υ 0 0 0 1,Awc (Value.int Ω 0),iv 0] [θ [] Δ Δ] [.t,.C,.x,.X,.Y] λc l o=>
 br (BA 1 c)
 (dk [.C,.q 1 1,.N,.D,.R,.X,.E] [.l l,.o o] λn cs1=>
 br ((0+n*1).ble cs1.length) (AW D (φ 149) [Ψ (Bo n 1 (κ (n*1) cs1))] [] λr1 o1=>
 Mr r1 λxs=>
 D2 o1<|
 Θ ((Ψ xs,[]))) Ξ)
 (Ξ):=by kernel_rfl
theorem AbJ(t0 t1:Rw)(n5:Nat)(c5:Ab)(t6 t7:Int):Dc A D Au Uc (.b (.b (.b .n (.b .n (.f .n))) .n) .n) 129 0 (A1 Yc 0).fst (A1 Yc 0).snd [Ψ t0,Ψ t1,υ 0 0 n5 1,Awc (Value.int Ω t6),iv t7] [{ cells:=c5,st:=Δ,ex:=Δ }] =
 Ai D (φ 186) [Ψ t0,Ψ t1] [] [.i,.E] λn=>
 br (A.le t7 n)
 (Ai D (φ 187) [Ψ t0,iv t7] [] [.j .u64,.E] λn1=>
 Ai D (φ 187) [Ψ t1,iv t7] [] [.j .u64,.E] λn2=>
 br (A.eq 4294967296 0)
 (Ξ)
 (br (Ba (n5+1) 4) (br ((0+n5*1).ble c5.length) (br (A.eq 4294967296 0) Ξ (AW D (Awa 129 0) [Ψ t0,Ψ t1,υ 0 0 (n5+1) 1,Awc (Value.int Ω (A.quo Ω (A.add Ω (A.add Ω n1 n2) t6) 4294967296)),iv (A.add ω t7 1)] [θ (Av8 0 (κ (0+n5*1) c5)++[Awc (Value.int ζ (A.conv ζ (A.rem Ω (A.add Ω (A.add Ω n1 n2) t6) 4294967296)))]) Δ Δ] λr3 o3=>
 AS 1 [2] (AH.mk [(2,θ (Av8 0 (κ (0+n5*1) c5)++[Awc (Value.int ζ (A.conv ζ (A.rem Ω (A.add Ω (A.add Ω n1 n2) t6) 4294967296)))]) Δ Δ),(1,θ [Awc (Value.int ζ (A.conv ζ (A.rem Ω (A.add Ω (A.add Ω n1 n2) t6) 4294967296)))] Δ Δ)] 3 Ξ) [0] r3 o3)) Ξ) Ξ))
 (Θ ((Awe [iv 0,υ 1 0 n5 1],[BO.del,Awn (θ c5 Δ Δ)]))):=by kernel_rfl
theorem Atz(x0 x1:Rw):B3 A D Au Uk .n 182 Ym [Ψ x0,Ψ x1] [] =
 Ai D (φ 228) [Ψ x0,Ψ x1] [] [.i,.E] λn=>
 br (A.lt n 0)
 (Θ ((Awe [Ψ [],bv Φ],[])))
 (Ai D (Awa 182 0) [Ψ x0,Ψ x1,υ 0 0 0 1,Awc (Value.int Ω 0),iv 0] [θ [] Δ Δ] [.t,.C,.x,.X,.Y] λc l o1=>
 br (BA 1 c)
 (dk [.C,.q 1 1,.N,.D,.R,.X,.E] [.l l,.o o1] λn1 cs1=>
 br ((0+n1*1).ble cs1.length) (AW D (φ 149) [Ψ (Bo n1 1 (κ (n1*1) cs1))] [] λr2 o2=>
 Mr r2 λxs=>
 D2 o2<|
 Θ ((Awe [Ψ xs,bv Δ],[]))) Ξ)
 (Ξ)):=by kernel_rfl
theorem AbS(t0 t1:Rw)(n6:Nat)(c6:Ab)(t7 t8:Int):Dc A D Au Uk (.b (.b (.b .n (.b .n (.f .n))) .n) .n) 182 0 (A1 Ym 0).fst (A1 Ym 0).snd [Ψ t0,Ψ t1,υ 0 0 n6 1,Awc (Value.int Ω t7),iv t8] [{ cells:=c6,st:=Δ,ex:=Δ }] =
 Ai D (φ 186) [Ψ t0,Ψ t1] [] [.i,.E] λn=>
 br (A.lt t8 n)
 (Ai D (φ 187) [Ψ t0,iv t8] [] [.j .u64,.E] λn1=>
 Ai D (φ 187) [Ψ t1,iv t8] [] [.j .u64,.E] λn2=>
 br (A.eq 4294967296 0)
 (Ξ)
 (br (Ba (n6+1) 4) (br ((0+n6*1).ble c6.length) (br (A.eq 4294967296 0) Ξ (AW D (Awa 182 0) [Ψ t0,Ψ t1,υ 0 0 (n6+1) 1,Awc (Value.int Ω (A.sub Ω 1 (A.quo Ω (A.sub Ω (A.sub Ω (A.add Ω n1 4294967296) n2) t7) 4294967296))),iv (A.add ω t8 1)] [θ (Av8 0 (κ (0+n6*1) c6)++[Awc (Value.int ζ (A.conv ζ (A.rem Ω (A.sub Ω (A.sub Ω (A.add Ω n1 4294967296) n2) t7) 4294967296)))]) Δ Δ] λr3 o3=>
 AS 1 [2] (AH.mk [(2,θ (Av8 0 (κ (0+n6*1) c6)++[Awc (Value.int ζ (A.conv ζ (A.rem Ω (A.sub Ω (A.sub Ω (A.add Ω n1 4294967296) n2) t7) 4294967296)))]) Δ Δ),(1,θ [Awc (Value.int ζ (A.conv ζ (A.rem Ω (A.sub Ω (A.sub Ω (A.add Ω n1 4294967296) n2) t7) 4294967296)))] Δ Δ)] 3 Ξ) [0] r3 o3)) Ξ) Ξ))
 (Θ ((Awe [iv 0,υ 1 0 n6 1],[BO.del,Awn (θ c6 Δ Δ)]))):=by kernel_rfl
theorem AtV(x0:Rw)(x1:Int):B3 A D Au Ur .n 229 YA [Ψ x0,Awc (Value.int Ω x1)] [] =
 Ai D (Awa 229 0) [Ψ x0,Awc (Value.int Ω x1),υ 0 0 0 1,Awc (Value.int Ω 0),iv 0] [θ [] Δ Δ] [.t,.C,.x,.X,.Y] λc l o=>
 br (BA 1 c)
 (dk [.C,.q 1 1,.J .u64,.N,.D,.R,.X,.E] [.l l,.o o] λn n1 cs1=>
 br (Ba (n+1) 4) (br ((0+n*1).ble cs1.length) (br ((0+(n+1)*1).ble (Av8 0 (κ (0+n*1) cs1)++[Awc (Value.int ζ (A.conv ζ n1))]).length) (AW D (φ 149) [Ψ (Bo (n+1) 1 (κ ((n+1)*1) (Av8 0 (Av8 0 (κ (0+n*1) cs1)++[Awc (Value.int ζ (A.conv ζ n1))]))))] [] λr1 o1=>
 Mr r1 λxs=>
 D2 o1<|
 Θ ((Ψ xs,[]))) Ξ) Ξ) Ξ)
 (Ξ):=by kernel_rfl
theorem Ab4(t0:Rw)(t1:Int)(n5:Nat)(c5:Ab)(t6 t7:Int):Dc A D Au Ur (.b (.b (.b .n (.b .n (.f .n))) .n) .n) 229 0 (A1 YA 0).fst (A1 YA 0).snd [Ψ t0,Awc (Value.int Ω t1),υ 0 0 n5 1,Awc (Value.int Ω t6),iv t7] [{ cells:=c5,st:=Δ,ex:=Δ }] =
 br (A.lt t7 ↑(AT t0))
 (Ai D (φ 187) [Ψ t0,iv t7] [] [.j .u64,.E] λn=>
 br (A.eq 4294967296 0)
 (Ξ)
 (br (Ba (n5+1) 4) (br ((0+n5*1).ble c5.length) (br (A.eq 4294967296 0) Ξ (AW D (Awa 229 0) [Ψ t0,Awc (Value.int Ω t1),υ 0 0 (n5+1) 1,Awc (Value.int Ω (A.quo Ω (A.add Ω (A.mul Ω n t1) t6) 4294967296)),iv (A.add ω t7 1)] [θ (Av8 0 (κ (0+n5*1) c5)++[Awc (Value.int ζ (A.conv ζ (A.rem Ω (A.add Ω (A.mul Ω n t1) t6) 4294967296)))]) Δ Δ] λr1 o1=>
 AS 1 [2] (AH.mk [(2,θ (Av8 0 (κ (0+n5*1) c5)++[Awc (Value.int ζ (A.conv ζ (A.rem Ω (A.add Ω (A.mul Ω n t1) t6) 4294967296)))]) Δ Δ),(1,θ [Awc (Value.int ζ (A.conv ζ (A.rem Ω (A.add Ω (A.mul Ω n t1) t6) 4294967296)))] Δ Δ)] 3 Ξ) [0] r1 o1)) Ξ) Ξ))
 (Θ ((Awe [iv 0,υ 1 0 n5 1,Awc (Value.int Ω t6)],[BO.del,Awn (θ c5 Δ Δ)]))):=by kernel_rfl
theorem AtA(x0 x1:Rw):B3 A D Au MK .n 183 QU [Ψ x0,Ψ x1] [] =
 Ai D (Awa 183 0) [Ψ x0,Ψ x1,Ψ [],iv (A.sub ω (↑(AT x1)) 1)] [] [.t,.C,.x,.X,.Y] λc l o=>
 br (BA 1 c)
 (dk [.L,.N,.E] [.l l,.o o] λxs=>
 Ai D (φ 149) [Ψ xs] [] [.l,.E] λxs1=>
 Θ ((Ψ xs1,[])))
 (Ξ):=by kernel_rfl
theorem AbT(t0 t1 t5:Rw)(t6:Int):Dc A D Au MK .n 183 0 (A1 QU 0).fst (A1 QU 0).snd [Ψ t0,Ψ t1,Ψ t5,iv t6] [] =
 br (A.le 0 t6)
 (Ai D (Awa 183 1) [Ψ t0,Ψ t1,Ψ t5,iv t6,υ 0 0 1 1,iv 0] [θ [Awc (Value.int ζ 0)] Δ Δ] [.t,.C,.x,.X,.Y] λc l o=>
 br (BA 3 c)
 (dk [.L,.L,.I,.C,.q 1 1,.N,.D,.R,.X,.E] [.l l,.o o] λxs xs1 n n1 cs1=>
 unI n λi=>
 Bw xs1 i λcs2=>
 dk [.J .u32,.N] [.l cs2] λn2=>
 Ai D (φ 229) [Ψ xs,Awc (Value.int Ω (A.conv Ω n2))] [] [.l,.E] λxs2=>
 br ((0+n1*1).ble cs1.length) (AW D (φ 129) [Ψ (Bo n1 1 (κ (n1*1) cs1)),Ψ xs2] [] λr2 o2=>
 Mr r2 λxs3=>
 D2 o2<|
 AW D (Awa 183 0) [Ψ xs,Ψ xs1,Ψ xs3,iv (A.sub ω n 1)] [] λr3 o3=>
 AS 0 [] (AH.mk [(1,θ cs1 Φ Δ)] 2 Ξ) [] r3 o3) Ξ)
 (Ξ))
 (Θ ((Awe [iv 0,Ψ t5],[]))):=by kernel_rfl
theorem AbU(t0 t1 t5:Rw)(t6:Int)(n7:Nat)(c7:Ab)(t8:Int):Dc A D Au MK .n 183 1 (A1 QU 1).fst (A1 QU 1).snd [Ψ t0,Ψ t1,Ψ t5,iv t6,υ 0 0 n7 1,iv t8] [{ cells:=c7,st:=Δ,ex:=Δ }] =
 br (A.lt t8 ↑(AT t5))
 (unI t8 λi=>
 Bw t5 i λcs=>
 dk [.J .u32,.N] [.l cs] λn=>
 br (Ba (n7+1) 4) (br ((0+n7*1).ble c7.length) (AW D (Awa 183 1) [Ψ t0,Ψ t1,Ψ t5,iv t6,υ 0 0 (n7+1) 1,iv (A.add ω t8 1)] [θ (Av8 0 (κ (0+n7*1) c7)++[Awc (Value.int ζ n)]) Δ Δ] λr o=>
 AS 1 [2] (AH.mk [(2,θ (Av8 0 (κ (0+n7*1) c7)++[Awc (Value.int ζ n)]) Δ Δ),(1,θ [Awc (Value.int ζ n)] Δ Δ)] 3 Ξ) [0] r o) Ξ) Ξ)
 (Θ ((Awe [iv 2,Ψ t0,Ψ t1,iv t6,υ 1 0 n7 1],[BO.del,Awn (θ c7 Δ Δ)]))):=by kernel_rfl
theorem AtR(x0 x1:Rw):B3 A D Au OK .n 210 Yy [Ψ x0,Ψ x1] [] =
 br (A.eq ↑(AT x0) ↑(AT x1))
 (Ai D (Awa 210 0) [Ψ x0,Ψ x1,iv 0] [] [.t,.C,.x,.X,.Y] λc l o=>
 br (BA 0 c)
 (dk [.B,.N,.E] [.l l,.o o] λb=>
 Θ ((bv b,[])))
 (br (BA 1 c)
 (FQ l<|
 D2 o<|
 Θ ((bv Δ,[])))
 (Ξ)))
 (Θ ((bv Φ,[]))):=by kernel_rfl
theorem R5(t0 t1:Rw)(t5:Int):Dc A D Au OK .n 210 0 (A1 Yy 0).fst (A1 Yy 0).snd [Ψ t0,Ψ t1,iv t5] [] =
 br (A.lt t5 ↑(AT t0))
 (unI t5 λi=>
 Bw t0 i λcs=>
 dk [.J .u32,.N] [.l cs] λn=>
 unI t5 λi1=>
 Bw t1 i1 λcs1=>
 dk [.J .u32,.N] [.l cs1] λn1=>
 br (A.eq n n1)
 (AW D (Awa 210 0) [Ψ t0,Ψ t1,iv (A.add ω t5 1)] [] λr o=>
 AS 0 [] (AH.mk [] 0 Ξ) [] r o)
 (Θ ((Awe [bv Δ,bv Φ],[]))))
 (Θ ((Awe [iv 0],[]))):=by kernel_rfl
end
open Go.RowKit
theorem SP(x:Nat)(h:x<18446744073709551616):Ap.quo .u64 (x:Int) 4294967296=((x / 4294967296:Nat):Int):=by
 show IntKind.u64.wrap ((x:Int).tdiv 4294967296)=_
 have:(x:Int).tdiv 4294967296=((x / 4294967296:Nat):Int):=rfl;rw[this,IntKind.wrap_u64];omega
theorem SQ(x:Nat):Ap.rem .u64 (x:Int) 4294967296=((x % 4294967296:Nat):Int):=by
 show (x:Int).tmod 4294967296=_
 rfl
theorem AaF(l:Af)(n:Nat):(Ao eL l).take n=Ao eL (l.take n):=by rw[EB,EB,List.map_take]
theorem VP(l:Af)(n:Nat)(h:n<=l.length):Bo n 1 ((Ao eL l).take (n*1))=(l.take n).map eL:=by
 rw[Nat.mul_one,AaF];have:=CZ AR (l.take n)
 rwa [Awo,Aw4 h]at this
theorem LQ(l:Af)(i:Nat):(l.drop i).headD 0=l.getD i 0:=by
 rw[Ax7]
 by_cases h:i<l.length
 .rw[η h,ξ h];rfl
 .rw[Awb (by omega),Axw (by omega)];rfl
theorem Nx{l:Af}(h:Limbs l)(i:Nat):l.getD i 0<4294967296:=by
 rw[←LQ];exact Es (h.drop i)
def EF(n:Nat)(l:Af):Af:=l++Axl (n-l.length) 0
theorem AkI(n:Nat):Ag (Axl n 0)=0:=by
 induction n with
 |zero=>rfl
 |succ n ih=>rw[List.replicate_succ,Ag,ih]
theorem G4(n:Nat)(l:Af):Ag (EF n l)=Ag l:=by
 unfold EF;rw[BV,AkI];omega
theorem Ex{n:Nat}{l:Af}(h:l.length<=n):(EF n l).length=n:=by
 unfold EF;rw[ε,List.length_replicate];omega
theorem EO{n:Nat}{l:Af}(h:Limbs l):Limbs (EF n l):=C1 h λx hx=>by
 rw[(List.mem_replicate.1 hx).2];omega
theorem K5{n i:Nat}{l:Af}(h:l.length<=n)(hi:i<n):(EF n l)[i]'(by rw[Ex h];exact hi)=l.getD i 0:=by
 rw[Ax7];unfold EF
 by_cases h2:i<l.length
 .rw[List.getElem_append_left h2,ξ h2];rfl
 .rw[List.getElem_append_right (by omega),List.getElem_replicate,Axw (by omega)];rfl
section
variable {D:Orc} (K:Knows Au Lr D)
include K
theorem Aea(l:Af)(hl:B5 l):∀(k i:Nat) (out:Af),l.length-i=k->out.length+k<=2000000000->D.ask (.lp 149 0) [eN l,.sl 0 0 out.length 1,iv (i:Int)] [θ (Ao eL out) Δ Δ]
  = Θ (.tup [iv 0,.sl 1 0 (out++l.drop i).length 1],[.del,.set (θ (Ao eL (out++l.drop i)) Δ Δ)]):=by
 intro k;unfold B5 at hl
 induction k with
 |zero=>
  intro i out hi ho;refine AE K MJ (AbL ..) ?_;rw[Al,show l.drop i=[] from Awb (by omega),AwF];refine AA ?_;rfl
 |succ k ih=>
  intro i out hi ho;have hlt:i<l.length:=by omega
  have ih':=ih (i+1) (out++[l[i]]) (by omega) (by simp;omega);rw[Awd,ε,Awp]at ih';refine AE K MJ (AbL ..) ?_;rw[Al,η hlt];refine AB ?_;rw[AI,Az (ξ hlt)];have hf:Ba (out.length+1) 4=Δ:=AP (by omega) (by omega);have hb1:Awf (0+out.length*1) (Ao eL out).length=Δ:=AK AR out (by omega);have e3:∀ s:Nat,Av8 0 (κ (0+out.length*1) (Ao eL out))++[.v (.int .u32 (s:Int))]=Ao eL (out++[s]):=λs=>by
   rw[ο,Bb AR out (by omega)];exact Bc eL out s
  simp only[eL,FR,Aj];rw[BU (by omega),hf,hb1,e3];refine Ah ?_;refine Ah ?_;refine Aa ih' ?_;rfl
theorem Aeb(l:Af)(hl:B5 l):∀(n:Nat),n<=l.length->CX l<=n->D.ask (.lp 149 1) [.sl 0 0 n 1] [θ (Ao eL l) Δ Δ]=Θ (.tup [iv 2,.sl 1 0 (CX l) 1],[.del,.set (θ (Ao eL l) Δ Δ)]):=by
 intro n;unfold B5 at hl
 induction n with
 |zero=>
  intro _ ht;refine AE K MJ (AbM ..) ?_;refine AA ?_;rw[show CX l=0 by omega]
 |succ n ih=>
  intro hn ht;refine AE K MJ (AbM ..) ?_;refine AB ?_;rw[show Ap.sub .i64 ((n+1:Nat):Int) 1=(n:Int) from (Np (i:=n+1) (j:=1) (by omega) (by omega)).trans (by simp)];rw[AI,B1 (Nat.lt_succ_self n)];refine Ah ?_;refine(IJ l n (by omega) _).trans ?_;simp only[FR,Aj]
  by_cases h0:l[n]=0
  .refine AG ?_ (by rw[h0];rfl)
   rw[AI,show HY 0 n (n+1)=Δ by unfold HY;rw[show Awf 0 n=Δ by simp];simp];refine Ah ?_;refine Aa (ih (by omega) (Mn ht (by rw[ξ (show n<l.length by omega),h0]))) ?_;rfl
  .refine Ay ?_
   have:=NO (ξ (show n<l.length by omega)) h0;rw[show CX l=n+1 by omega]
theorem C3{l:Af}(hl:B5 l)(h:Limbs l):D.ask (.fn 149) [eN l] []=Θ (eN (Aq (Ag l)),[]):=by
 have hs:=hl;unfold B5 at hs;refine AC K MJ (Ath ..) ?_;have g:=Aea K l hl l.length 0 [] rfl (by simp;omega);rw[Awv,ο]at g;refine Aa g ?_;simp only[Aj];refine Aa (Aeb K l hl l.length (π _) (Cx l)) ?_;simp only[Aj];have ht:=Cx l;rw[show Awf (0+CX l*1) (Ao eL l).length=Δ by rw[BC AR];simp;omega];refine Ah ?_;rw[VP l _ ht,IQ h];rfl
theorem GO(a b:Af):D.ask (.fn 186) [eN a,eN b] []=Θ (iv ((max a.length b.length:Nat):Int),[]):=by
 refine AC K AlQ (AtD ..) ?_;rw[Al,Al]
 by_cases h:b.length<a.length
 .refine AB ?_
  rw[show max a.length b.length=a.length by omega]
 .refine AA ?_
  rw[show max a.length b.length=b.length by omega]
theorem Ho{a:Af}(ha:Limbs a)(i:Nat):D.ask (.fn 187) [eN a,iv (i:Int)] []=Θ (.v (.int .u64 (a.getD i 0:Int)),[]):=by
 refine AC K AlR (AtF ..) ?_;rw[Al,Ax7];refine AA ?_
 by_cases h:i<a.length
 .refine CN ?_
  have hx:=ha.get h;rw[AI,Az (ξ h),ξ h];simp only[eL,FR,Aj];rw[BK (by omega)];rfl
 .refine Cs ?_
  rw[Axw (by omega)];rfl
theorem Aj5{a b:Af}(ha:Limbs a)(hb:Limbs b)(m:Nat)(hma:a.length<=m)(hmb:b.length<=m)(hm:m<=1000000000):∀(n:Nat),n<=m->D.ask (.lp 228 0) [eN a,eN b,iv ((n:Int)-1)] []
  = Θ (if C7 (Ag ((EF m a).take n)) (Ag ((EF m b).take n))=0 then .tup [iv 0] else .tup [bv Δ,iv (C7 (Ag ((EF m a).take n)) (Ag ((EF m b).take n)))],[]):=by
 intro n
 induction n with
 |zero=>
  intro _;refine AE K Uq (Ab3 ..) ?_;refine CN ?_;rfl
 |succ n ih=>
  intro hn;refine AE K Uq (Ab3 ..) ?_;rw[show (((n+1:Nat):Int)-1)=(n:Int) by omega];refine Cs ?_;have h1:n<(EF m a).length:=by rw[Ex hma];omega
  have h2:n<(EF m b).length:=by rw[Ex hmb];omega
  have e1:(EF m a).take (n+1)=(EF m a).take n++[a.getD n 0]:=by rw[AwK h1,K5 hma (by omega)]
  have e2:(EF m b).take (n+1)=(EF m b).take n++[b.getD n 0]:=by rw[AwK h2,K5 hmb (by omega)]
  rw[e1,e2,Og ((EO ha).take n) ((EO hb).take n) (by simp;omega)];refine Aa (Ho K ha n) ?_;simp only[Qa,Aj];refine Aa (Ho K hb n) ?_;simp only[Qa,Aj]
  by_cases h3:a.getD n 0<b.getD n 0
  .refine AB ?_
   rw[Ac h3];rfl
  .refine AA ?_
   rw[Ad h3];refine Aa (Ho K ha n) ?_;simp only[Qa,Aj];refine Aa (Ho K hb n) ?_;simp only[Qa,Aj]
   by_cases h4:b.getD n 0<a.getD n 0
   .refine AB ?_
    rw[Ac h4];rfl
   .refine AA ?_
    rw[Ad h4];rw[show Ap.sub .i64 (n:Int) 1=(n:Int)-1 from DZ (by omega) (by omega)];refine Aa (ih (by omega)) ?_
    by_cases h5:C7 (Ag ((EF m a).take n)) (Ag ((EF m b).take n))=0
    .rw[Ac h5];rfl
    .rw[Ad h5];rfl
theorem Aj6{a b:Af}(hsa:B5 a)(ha:Limbs a)(hsb:B5 b)(hb:Limbs b):D.ask (.fn 228) [eN a,eN b] []=Θ (iv (C7 (Ag a) (Ag b)),[]):=by
 unfold B5 at hsa hsb;refine AC K Uq (AtU ..) ?_;refine Aa (GO K a b) ?_;simp only[Aj];rw[show Ap.sub .i64 ((max a.length b.length:Nat):Int) 1=((max a.length b.length:Nat):Int)-1 from DZ (by omega) (by omega)];have g:=Aj5 K ha hb (max a.length b.length) (by omega) (by omega) (by omega) (max a.length b.length) (π _);rw[Aw5 (by rw[Ex (by omega)];omega),Aw5 (by rw[Ex (by omega)];omega),G4,G4]at g;refine Aa g ?_
 by_cases h5:C7 (Ag a) (Ag b)=0
 .rw[Ac h5,h5];rfl
 .rw[Ad h5];rfl
theorem Aj4{a b:Af}(ha:Limbs a)(hb:Limbs b)(hm:max a.length b.length<=1000000000):∀(k i:Nat) (out:Af) (c:Nat),max a.length b.length+1-i=k->c<=1->out.length+k<=2000000000->
  D.ask (.lp 129 0) [eN a,eN b,.sl 0 0 out.length 1,.v (.int .u64 (c:Int)),iv (i:Int)] [θ (Ao eL out) Δ Δ]
   = Θ (.tup [iv 0,.sl 1 0 (out++Nf k c (a.drop i) (b.drop i)).length 1],[.del,.set (θ (Ao eL (out++Nf k c (a.drop i) (b.drop i))) Δ Δ)]):=by
 intro k
 induction k with
 |zero=>
  intro i out c hi hc ho;refine AE K Uc (AbJ ..) ?_;refine Aa (GO K a b) ?_;simp only[Aj];refine CN ?_;rw[Nf,AwF]
 |succ k ih=>
  intro i out c hi hc ho;have h1:=Nx ha i;have h2:=Nx hb i;have ih':=ih (i+1) (out++[(a.getD i 0+b.getD i 0+c) % 4294967296]) ((a.getD i 0+b.getD i 0+c) / 4294967296) (by omega) (by omega) (by simp;omega);rw[Awd,ε,Awp]at ih';refine AE K Uc (AbJ ..) ?_;refine Aa (GO K a b) ?_;simp only[Aj];refine Cs ?_;refine Aa (Ho K ha i) ?_;simp only[Qa,Aj];refine Aa (Ho K hb i) ?_;simp only[Qa,Aj];refine Ay ?_ (by decide);have hf:Ba (out.length+1) 4=Δ:=AP (by omega) (by omega);have hb1:Awf (0+out.length*1) (Ao eL out).length=Δ:=AK AR out (by omega);have e3:∀ s:Nat,Av8 0 (κ (0+out.length*1) (Ao eL out))++[.v (.int .u32 (s:Int))]=Ao eL (out++[s]):=λs=>by
   rw[ο,Bb AR out (by omega)];exact Bc eL out s
  rw[Cp (by omega),Cp (by omega),SQ,SP _ (by omega),BQ (AwU _ (by omega)),BU (by omega),hf,hb1,e3];refine Ah ?_;refine Ah ?_;refine Ay ?_ (by decide);refine Aa ih' ?_;rw[Nf,LQ,LQ,Ax3,Ax3];rfl
theorem K9{a b:Af}(hsa:a.length<=999999999)(ha:Limbs a)(hsb:b.length<=999999999)(hb:Limbs b):D.ask (.fn 129) [eN a,eN b] []=Θ (eN (Aq (Ag a+Ag b)),[]):=by
 refine AC K Uc (As5 ..) ?_;have g:=Aj4 K ha hb (by omega) (max a.length b.length+1) 0 [] 0 rfl (by omega) (by simp;omega);rw[Awv,ο,ο]at g;refine Aa g ?_;simp only[Aj];rw[AK AR _ (by omega)];refine Ah ?_;rw[Bi AR _ rfl];have hlen:∀(k c:Nat) (a b:Af),(Nf k c a b).length=k:=λk=>by
  induction k with
  |zero=>intro c a b;rfl
  |succ k ih=>intro c a b;rw[Nf,γ,ih]
 have gt:=C3 K (l:=Nf (max a.length b.length+1) 0 a b) (by unfold B5;rw[hlen];omega) (NR _ _ _ _);rw[RB]at gt;have h1:=BM ha;have h2:=BM hb;have p1:4294967296 ^ a.length<=4294967296 ^ (max a.length b.length):=Axi (by omega) (by omega);have p2:4294967296 ^ b.length<=4294967296 ^ (max a.length b.length):=Axi (by omega) (by omega);rw[Aw8 (by rw[Aw6];omega),Awt]at gt;refine Aa gt ?_;rfl
theorem Aj9{a b:Af}(ha:Limbs a)(hb:Limbs b)(m:Nat)(hma:max a.length b.length=m)(hm:m<=1000000000):∀(k i:Nat) (out:Af) (c:Nat),m-i=k->c<=1->out.length+k<=2000000000->
  D.ask (.lp 182 0) [eN a,eN b,.sl 0 0 out.length 1,.v (.int .u64 (c:Int)),iv (i:Int)] [θ (Ao eL out) Δ Δ]
   = Θ (.tup [iv 0,.sl 1 0 (out++Hv c ((EF m a).drop i) ((EF m b).drop i)).length 1],[.del,.set (θ (Ao eL (out++Hv c ((EF m a).drop i) ((EF m b).drop i))) Δ Δ)]):=by
 intro k;have la:=Ex (n:=m) (l:=a) (by omega);have lb:=Ex (n:=m) (l:=b) (by omega)
 induction k with
 |zero=>
  intro i out c hi hc ho;refine AE K Uk (AbS ..) ?_;refine Aa (GO K a b) ?_;simp only[Aj];refine AA ?_;rw[show (EF m a).drop i=[] from Awb (by omega),Hv,AwF]
 |succ k ih=>
  intro i out c hi hc ho;have h1:=Nx ha i;have h2:=Nx hb i;have ia:i<(EF m a).length:=by omega
  have ib:i<(EF m b).length:=by omega
  rw[η ia,K5 (by omega) (by omega),η ib,K5 (by omega) (by omega),Hv,List.headD_cons,List.tail_cons];refine AE K Uk (AbS ..) ?_;refine Aa (GO K a b) ?_;simp only[Aj];refine AB ?_;refine Aa (Ho K ha i) ?_;simp only[Qa,Aj];refine Aa (Ho K hb i) ?_;simp only[Qa,Aj];refine Ay ?_ (by decide);have hf:Ba (out.length+1) 4=Δ:=AP (by omega) (by omega);have hb1:Awf (0+out.length*1) (Ao eL out).length=Δ:=AK AR out (by omega);have e3:∀ s:Nat,Av8 0 (κ (0+out.length*1) (Ao eL out))++[.v (.int .u32 (s:Int))]=Ao eL (out++[s]):=λs=>by
   rw[ο,Bb AR out (by omega)];exact Bc eL out s
  rw[show (4294967296:Int)=((4294967296:Nat):Int) from rfl,Cp (by omega),Ey (by omega) (by omega),Ey (by omega) (by omega)];rw[show ((4294967296:Nat):Int)=(4294967296:Int) from rfl,SQ,SP _ (by omega),BQ (AwU _ (by omega)),BU (by omega),show (1:Int)=((1:Nat):Int) from rfl,Ey (by omega) (by omega),hf,hb1,e3];refine Ah ?_;refine Ah ?_;refine Ay ?_ (by decide)
  by_cases hlt:a.getD i 0<b.getD i 0+c
  .rw[Ac hlt,Ac hlt]
   have ih':=ih (i+1) (out++[a.getD i 0+4294967296-(b.getD i 0+c)]) 1 (by omega) (by omega) (by simp;omega);rw[Awd,ε,Awp]at ih';rw[show (a.getD i 0+4294967296-b.getD i 0-c) % 4294967296=a.getD i 0+4294967296-(b.getD i 0+c) by omega,show 1-(a.getD i 0+4294967296-b.getD i 0-c) / 4294967296=1 by omega];refine Aa ih' ?_;rfl
  .rw[Ad hlt,Ad hlt]
   have ih':=ih (i+1) (out++[a.getD i 0-(b.getD i 0+c)]) 0 (by omega) (by omega) (by simp;omega);rw[Awd,ε,Awp]at ih';rw[show (a.getD i 0+4294967296-b.getD i 0-c) % 4294967296=a.getD i 0-(b.getD i 0+c) by omega,show 1-(a.getD i 0+4294967296-b.getD i 0-c) / 4294967296=0 by omega];refine Aa ih' ?_;rfl
theorem SO{a b:Af}(hsa:B5 a)(ha:Limbs a)(hsb:B5 b)(hb:Limbs b):D.ask (.fn 182) [eN a,eN b] []=Θ (MF (Ag a) (Ag b),[]):=by
 have s1:=hsa;have s2:=hsb;unfold B5 at s1 s2;refine AC K Uk (Atz ..) ?_;refine Aa (Aj6 K hsa ha hsb hb) ?_;simp only[Aj];unfold MF
 by_cases h1:Ag a<Ag b
 .rw[show C7 (Ag a) (Ag b)=-1 by unfold C7;rw[Ac h1]]
  refine AB ?_ (by decide);rw[Ad (by omega)];rfl
 .refine AA ?_ (by unfold C7;rw[Ad h1];split<;>omega)
  rw[Ac (by omega)];have la:=Ex (n:=max a.length b.length) (l:=a) (by omega);have lb:=Ex (n:=max a.length b.length) (l:=b) (by omega);have g:=Aj9 K ha hb (max a.length b.length) rfl (by omega) (max a.length b.length) 0 [] 0 (by omega) (by omega) (by simp;omega);rw[Awv,ο,ο]at g;refine Aa g ?_;simp only[Aj];rw[AK AR _ (by omega)];refine Ah ?_;rw[Bi AR _ rfl];have gt:=C3 K (l:=Hv 0 (EF (max a.length b.length) a) (EF (max a.length b.length) b)) (by unfold B5;rw[Lq];omega) (Hw _ _ _ (EO ha) (EO hb) (by omega));rw[Vz (EO ha) (EO hb) (by omega) (by rw[G4,G4];omega),G4,G4]at gt;refine Aa gt ?_;rfl
theorem Aaj{a:Af}(ha:Limbs a)(hs:B5 a)(m:Nat)(hm:m<4294967296):∀(k i:Nat) (out:Af) (c:Nat),a.length-i=k->i<=a.length->c<4294967296->out.length+k<=2000000000->
  ∃(o:Af) (c':Nat),D.ask (.lp 229 0) [eN a,.v (.int .u64 (m:Int)),.sl 0 0 out.length 1,.v (.int .u64 (c:Int)),iv (i:Int)] [θ (Ao eL out) Δ Δ]
   = Θ (.tup [iv 0,.sl 1 0 o.length 1,.v (.int .u64 (c':Int))],[.del,.set (θ (Ao eL o) Δ Δ)])/\c'<4294967296/\o++[c']=out++D8 m c (a.drop i):=by
 intro k;unfold B5 at hs
 induction k with
 |zero=>
  intro i out c hi hle hc ho;refine⟨out,c,?_,hc,?_⟩
  .refine AE K Ur (Ab4 ..) ?_
   rw[Al];refine AA ?_;rfl
  .rw[show a.drop i=[] from Awb (by omega)]
   rfl
 |succ k ih=>
  intro i out c hi hle hc ho;have hlt:i<a.length:=by omega
  have hx:=ha.get hlt;have hp:=J0 hx hm;have hg:a.getD i 0=a[i]:=by rw[Ax7,ξ hlt];rfl
  obtain⟨o,c',h1,h2,h3⟩:=ih (i+1) (out++[(a[i]*m+c) % 4294967296]) ((a[i]*m+c) / 4294967296) (by omega) (by omega) (by omega) (by simp;omega);refine⟨o,c',?_,h2,?_⟩
  .refine AE K Ur (Ab4 ..) ?_
   rw[Al];refine AB ?_;refine Aa (Ho K ha i) ?_;simp only[Qa,Aj,hg];refine Ay ?_ (by decide);have hf:Ba (out.length+1) 4=Δ:=AP (by omega) (by omega);have hb1:Awf (0+out.length*1) (Ao eL out).length=Δ:=AK AR out (by omega);have e3:∀ s:Nat,Av8 0 (κ (0+out.length*1) (Ao eL out))++[.v (.int .u32 (s:Int))]=Ao eL (out++[s]):=λs=>by
    rw[ο,Bb AR out (by omega)];exact Bc eL out s
   rw[ε,Awp]at h1;rw[La (by omega),Cp (by omega),SQ,SP _ (by omega),BQ (AwU _ (by omega)),BU (by omega),hf,hb1,e3];refine Ah ?_;refine Ah ?_;refine Ay ?_ (by decide);refine Aa h1 ?_;rfl
  .rw[h3,η hlt,D8,Awd]
   rfl
omit K in
theorem Kb:∀(m c:Nat) (a:Af),(D8 m c a).length=a.length+1
 |_,_,[]=>rfl
 |m,c,x::a=>by rw[D8,γ,Kb,γ]
theorem Rf{a:Af}(ha:Limbs a)(hs:a.length<=999999999)(m:Nat)(hm:m<4294967296):D.ask (.fn 229) [eN a,.v (.int .u64 (m:Int))] []=Θ (eN (Aq (Ag a*m)),[]):=by
 obtain⟨o,c',g,hc,ho⟩:=Aaj K ha (by unfold B5;omega) m hm a.length 0 [] 0 (by omega) (by omega) (by omega) (by simp;omega);rw[Awv,ο]at ho;have hol:o.length=a.length:=by
  have:=congrArg List.length ho;rw[ε,Kb]at this;simpa using this
 refine AC K Ur (AtV ..) ?_;refine Aa g ?_;simp only[FR,Aj];rw[BQ hc];have e3:Av8 0 (κ (0+o.length*1) (Ao eL o))++[.v (.int .u32 (c':Int))]=Ao eL (o++[c']):=by
  rw[ο,Bb AR o (by omega)];exact Bc eL o c'
 rw[AP (n:=o.length+1) (b:=4) (by omega) (by omega),AK AR o (by omega),e3,AK AR (o++[c']) (by simp)];refine Ah ?_;refine Ah ?_;refine Ah ?_;rw[ο,Bb AR (o++[c']) (by simp),show Bo (o.length+1) 1 (Ao eL (o++[c']))=(o++[c']).map eL from by have:=CZ AR (o++[c']);rwa [ε]at this];rw[ho];have gt:=C3 K (l:=D8 m 0 a) (by unfold B5;rw[Kb];omega) (Ht _ _ _ hm ha (by omega));rw[IS,Aw1]at gt;refine Aa gt ?_;rfl
end
theorem Fc{a b:Af}(ha:Limbs a)(hb:Limbs b):(Aq (Ag a*Ag b)).length<=a.length+b.length:=by
 refine Bu ?_;rw[Ayb];exact Nat.mul_lt_mul'' (BM ha) (BM hb)
theorem Adr(va x vd:Nat):0+4294967296*(va*vd)+va*x=va*(x+4294967296*vd):=by
 rw[Nat.mul_add,Nat.mul_left_comm va];omega
theorem Aep{d:Nat}(h:d<4294967296):Limbs [d]:=Bv h BY
section
variable {D:Orc} (K:Knows Au Lr D)
include K
theorem Akl(A B:AV)(t:Int){xs ys:Rw}(hA:A=.ls xs)(hB:B=.ls ys){out:Af}(hs:out.length<=999999999):∀(k i:Nat) (up:Af),out.length-i=k->i<=out.length->up=0::out.take i->
  D.ask (.lp 183 1) [A,B,eN out,iv t,.sl 0 0 (i+1) 1,iv (i:Int)] [θ (Ao eL up) Δ Δ]=Θ (.tup [iv 2,A,B,iv t,.sl 1 0 (out.length+1) 1],[.del,.set (θ (Ao eL (0::out)) Δ Δ)]):=by
 subst hA hB;intro k
 induction k with
 |zero=>
  intro i up hk hi hu;obtain rfl:i=out.length:=by omega
  rw[List.take_length]at hu;subst hu;refine AE K MK (AbU ..) ?_;rw[Al];exact AA rfl
 |succ k ih=>
  intro i up hk hi hu;have hlt:i<out.length:=by omega
  have hl:up.length=i+1:=by rw[hu,γ,Awo,Aw4 hi]
  have ih':=ih (i+1) (up++[out[i]]) (by omega) (by omega) (by rw[hu,AwK hlt];rfl);have e3:Av8 0 (κ (0+(i+1)*1) (Ao eL up))++[.v (.int .u32 (out[i]:Int))]=Ao eL (up++[out[i]]):=by
   rw[ο,Bb AR up (by omega)];exact Bc eL up out[i]
  refine AE K MK (AbU ..) ?_;rw[Al];refine AB ?_;rw[AI,Az (ξ hlt)];simp only[eL,FR,Aj];rw[BU (by omega),AP (n:=i+1+1) (b:=4) (by omega) (by omega),AK AR up (by omega),e3];refine Ah ?_;refine Ah ?_;refine Aa ih' ?_;rfl
theorem Akm{a b:Af}(ha:Limbs a)(hb:Limbs b)(hs:a.length+b.length<=900000000):∀ i:Nat,i<=b.length->D.ask (.lp 183 0) [eN a,eN b,eN (Aq (Ag a*Ag (b.drop i))),iv ((i:Int)-1)] []=Θ (.tup [iv 0,eN (Aq (Ag a*Ag b))],[]):=by
 intro i
 induction i with
 |zero=>
  intro _;refine AE K MK (AbT ..) ?_;refine CN ?_;rw[ο];rfl
 |succ i ih=>
  intro hi;have hlt:i<b.length:=by omega
  have hx:=hb.get hlt;have ln:∀ j:Nat,(Aq (Ag a*Ag (b.drop j))).length<=a.length+b.length:=λj=>by
   have:=Fc ha (hb.drop j);rw[List.length_drop]at this;omega
  have l1:=ln (i+1);rw[show (((i+1:Nat):Int)-1)=(i:Int) by omega];refine AE K MK (AbT ..) ?_;refine Cs ?_;have g:=Akl K (eN a) (eN b) (i:Int) rfl rfl (out:=Aq (Ag a*Ag (b.drop (i+1)))) (by omega) _ 0 [0] rfl (by omega) rfl;refine Aa g ?_;simp only[eN,FR,Aj];rw[AI,Az (ξ hlt)];simp only[eL,FR,Aj];rw[BK (show b[i]<_ by omega)];refine Ah ?_;refine Aa (Rf K ha (by omega) b[i] hx) ?_;simp only[eN,FR,Aj];rw[AK AR (0::Aq (Ag a*Ag (b.drop (i+1)))) (by simp)];refine Ah ?_;rw[Bb AR (0::Aq (Ag a*Ag (b.drop (i+1)))) (by simp),show Bo ((Aq (Ag a*Ag (b.drop (i+1)))).length+1) 1 (Ao eL (0::Aq (Ag a*Ag (b.drop (i+1)))))=(0::Aq (Ag a*Ag (b.drop (i+1)))).map eL from CZ AR (0::Aq (Ag a*Ag (b.drop (i+1))))];have l3:(Aq (Ag a*b[i])).length<=a.length+1:=by
   have:=Fc ha (Aep hx)
   rwa [show Ag [b[i]]=b[i] by simp[Ag]]at this
  have g2:=K9 K (a:=0::Aq (Ag a*Ag (b.drop (i+1)))) (b:=Aq (Ag a*b[i])) (by rw[γ];omega) (Bv (by omega) (Av _)) (by omega) (Av _);rw[Ag,AF,AF,Adr,show b[i]+4294967296*Ag (b.drop (i+1))=Ag (b.drop i) by rw[η hlt,Ag]]at g2;refine Aa g2 ?_;simp only[eN,FR,Aj];rw[DZ (by omega) (by omega)];refine Aa (ih (by omega)) ?_;rfl
theorem Aj8{a b:Af}(ha:Limbs a)(hb:Limbs b)(hs:a.length+b.length<=900000000):D.ask (.fn 183) [eN a,eN b] []=Θ (eN (Aq (Ag a*Ag b)),[]):=by
 have g:=Akm K ha hb hs b.length (π _);rw[List.drop_length,Ag,Ayt,CJ]at g;refine AC K MK (AtA ..) ?_;rw[Al,DZ (by omega) (by omega)];refine Aa g ?_;simp only[eN,Aj];have l1:=Fc ha hb;have g2:=C3 K (l:=Aq (Ag a*Ag b)) (by unfold B5;omega) (Av _);rw[AF]at g2;refine Aa g2 ?_;rfl
theorem Ad7{a b:Af}(hl:a.length=b.length)(hs:B5 a):∀(k i:Nat),a.length-i=k->i<=a.length->D.ask (.lp 210 0) [eN a,eN b,iv (i:Int)] []=if a.drop i=b.drop i then Θ (.tup [iv 0],[]) else Θ (.tup [bv Δ,bv Φ],[]):=by
 intro k;unfold B5 at hs
 induction k with
 |zero=>
  intro i hk hi;rw[Awb (show a.length<=i by omega),Awb (show b.length<=i by omega),Ac rfl];refine AE K OK (R5 ..) ?_;rw[Al];exact AA rfl
 |succ k ih=>
  intro i hk hi;have h1:i<a.length:=by omega
  have h2:i<b.length:=by omega
  have ih':=ih (i+1) (by omega) (by omega);rw[η h1,η h2]
  by_cases h:a[i]=b[i]
  .by_cases h3:a.drop (i+1)=b.drop (i+1)
   .rw[Ac h3]at ih'
    rw[Ac (by rw[h,h3])];refine AE K OK (R5 ..) ?_;rw[Al];refine AB ?_;rw[AI,Az (ξ h1)];simp only[eL,FR,Aj];rw[AI,Az (ξ h2)];simp only[eL,FR,Aj];rw[BU (by omega)];refine AG ?_;refine Aa ih' ?_;rfl
   .rw[Ad h3]at ih'
    rw[Ad (λe=>h3 (List.cons.inj e).2)];refine AE K OK (R5 ..) ?_;rw[Al];refine AB ?_;rw[AI,Az (ξ h1)];simp only[eL,FR,Aj];rw[AI,Az (ξ h2)];simp only[eL,FR,Aj];rw[BU (by omega)];refine AG ?_;refine Aa ih' ?_;rfl
  .rw[Ad (λe=>h (List.cons.inj e).1)]
   refine AE K OK (R5 ..) ?_;rw[Al];refine AB ?_;rw[AI,Az (ξ h1)];simp only[eL,FR,Aj];rw[AI,Az (ξ h2)];simp only[eL,FR,Aj];rw[BU (by omega)];exact Ay rfl
theorem AdM{a b:Af}(hs:B5 a):D.ask (.fn 210) [eN a,eN b] []=Θ (bv (decide (a=b)),[]):=by
 refine AC K OK (AtR ..) ?_;rw[Al,Al]
 by_cases hl:a.length=b.length
 .refine AG ?_
  have g:=Ad7 K hl hs a.length 0 (by omega) (by omega);rw[ο,ο]at g
  by_cases h:a=b
  .rw[Ac h]at g
   rw[BT h];refine Aa g ?_;rfl
  .rw[Ad h]at g
   rw[BX h];refine Aa g ?_;rfl
 .refine Ay ?_
  rw[BX (λe=>hl (by rw[e]))]
end
section
variable {D:Orc} (K:Knows Au Jy D) (Z:Knows Au M3 D) (C:CloneF D)
include K Z C
theorem EQ(neg:Bool){a:Af}(ha:Limbs a)(hs:B5 a):D.ask (.fn 145) [bv neg,eN a] []=Θ (.agg (eZ (AQ (CY neg (Ag a)))),[]):=by
 refine AC Z Alz (Atd ..) ?_;refine Aa (FV K C hs ha) ?_;simp only[eN,Aj,Al];rw[Ly];unfold eZ eN
 cases neg with
 |false=>rfl
 |true=>
  refine Ah ?_;refine Ah ?_;refine Ah ?_;have hp:=@DE (Ag a)
  by_cases h:0<Ag a
  .refine AB ?_ (by have:=hp.2 h;omega)
   rw[BT h];rfl
  .refine AA ?_ (by intro e;exact h (hp.1 (by omega)))
   rw[BX h];rfl
theorem Oc{z:Zi}(hz:Lz 1000000000 z):D.ask (.fn 142) [.agg (eZ z)] []=Θ (.agg (eZ (AQ (zv z))),[]):=by
 refine AC Z Alx (Atb ..) ?_;refine Aa (EQ K Z C z.neg hz.lim hz.len) ?_;rfl
theorem Y5{z:Zi}(hz:Lz 1000000000 z):D.ask (.fn 161) [.agg (eZ z)] []=Θ (.agg (eZ (AQ (-zv z))),[]):=by
 have e:-zv z=CY (!z.neg) (Ag z.abs):=by
  unfold zv CY
  cases z.neg<;>simp
 rw[e];refine AC Z AlJ (Atr ..) ?_;rw[AdN];have g:=λb=>EQ K Z C b hz.lim hz.len
 cases z.neg with
 |false=>
  refine Ah ?_;refine Aa (g Δ) ?_;rfl
 |true=>
  refine BR ?_;refine Aa (g Φ) ?_;rfl
theorem Lw{z:Zi}(hz:Lz 1000000000 z):D.ask (.fn 64) [.agg (eZ z)] []=Θ (iv (Cb (zv z)),[]):=by
 refine AC Z AqL (e64 ..) ?_;refine Aa (Oc K Z C hz) ?_;simp only[eZ,eN,Aj,Al];unfold AQ Cb
 by_cases h:zv z<0
 .rw[Ac h,BT h]
  rfl
 .rw[Ad h,BX h]
  refine BR ?_;have hp:=@DE (zv z).natAbs
  by_cases h2:0<zv z
  .rw[Ac h2]
   refine AB ?_ (by have:=hp.2 (by omega);dsimp only;omega);rfl
  .rw[Ad h2]
   refine AA ?_ (by dsimp only;intro e;have:=hp.1 (by omega);omega);rfl
theorem Ae8(n:Int)(h1:-9223372036854775808<=n)(h2:n<9223372036854775808):D.ask (.fn 126) [iv n] []=Θ (.agg (eZ (AQ n)),[]):=by
 refine AC Z Alp (As2 ..) ?_;have hl:∀ m:Nat,m<18446744073709551616->(Aq m).length<=2:=λm h=>Bu (by omega)
 by_cases h:n<0
 .refine AB ?_ h
  have e1:Ap.add .i64 n 1=n+1:=GU (by omega) (by omega);have e2:Ap.sub .i64 0 (n+1)=((n.natAbs-1:Nat):Int):=by rw[DZ (by omega) (by omega)];omega
  rw[e1,e2,BK (by omega),show (1:Int)=((1:Nat):Int) from rfl,Cp (by omega),show n.natAbs-1+1=n.natAbs by omega];refine Aa (AkV K C n.natAbs (by omega)) ?_;simp only[eN,Aj];have g:=EQ K Z C Δ (Av n.natAbs) (by unfold B5;have:=hl n.natAbs (by omega);omega);rw[AF,show CY Δ n.natAbs=n by unfold CY;rw[Ac rfl];omega]at g;refine Aa g ?_;rfl
 .refine AA ?_ h
  obtain⟨m,rfl⟩:=Ay4 (show 0<=n by omega);rw[BK (by omega)];refine Aa (AkV K C m (by omega)) ?_;simp only[eN,Aj];have g:=EQ K Z C Φ (Av m) (by unfold B5;have:=hl m (by omega);omega);rw[AF,show CY Φ m=(m:Int) from rfl]at g;refine Aa g ?_;rfl
theorem AkR{a b:Zi}(ha:Lz 1000000000 a)(hb:Lz 1000000000 b):D.ask (.fn 155) [.agg (eZ a),.agg (eZ b)] []=Θ (iv (FS (zv a) (zv b)),[]):=by
 refine AC Z AlG (Atn ..) ?_;refine Aa (Lw K Z C ha) ?_;simp only[Aj];refine Aa (Lw K Z C hb) ?_;simp only[Aj];have g1:=VG K (a:=b.abs) (b:=a.abs) hb.len hb.lim ha.len ha.lim;have g2:=VG K (a:=a.abs) (b:=b.abs) ha.len ha.lim hb.len hb.lim;have na:=Afc a;have nb:=Afc b;have za:=Y6 a;have zb:=Y6 b;have va:zv a=CY a.neg (Ag a.abs):=rfl;have vb:zv b=CY b.neg (Ag b.abs):=rfl;unfold Cb
 by_cases h1:zv a<0
 .rw[Ac h1]
  rw[CY,Ac (na.1 h1).1]at va
  by_cases h2:zv b<0
  .rw[Ac h2]
   rw[CY,Ac (nb.1 h2).1]at vb;refine AA ?_ (by decide);refine AA ?_ (by decide);refine AB ?_ (by decide);refine Aa g1 ?_;rw[show FS (zv a) (zv b)=C7 (Ag b.abs) (Ag a.abs) by
    unfold FS C7;rw[va,vb]
    by_cases h3:Ag b.abs<Ag a.abs
    .rw[Ac (by omega),Ac h3]
    .rw[Ad (by omega),Ad h3]
     by_cases h4:Ag a.abs<Ag b.abs
     .rw[Ac (by omega),Ac h4]
     .rw[Ad (by omega),Ad h4]]
   rfl
  .rw[Ad h2]
   rw[show FS (zv a) (zv b)=-1 by unfold FS;rw[Ac (by omega)]]
   by_cases h3:0<zv b
   .rw[Ac h3];rfl
   .rw[Ad h3];rfl
 .rw[Ad h1]
  by_cases h2:zv b<0
  .rw[Ac h2]
   rw[show FS (zv a) (zv b)=1 by unfold FS;rw[Ad (by omega),Ac (by omega)]]
   by_cases h3:0<zv a
   .rw[Ac h3];rfl
   .rw[Ad h3];rfl
  .rw[Ad h2]
   have ea:zv a=(Ag a.abs:Int):=by
    by_cases h:0<Ag a.abs
    .rw[va,CY,Ad (λe=>h1 (na.2 ⟨e,h⟩))]
    .rw[za.2 (by omega)];omega
   have eb:zv b=(Ag b.abs:Int):=by
    by_cases h:0<Ag b.abs
    .rw[vb,CY,Ad (λe=>h2 (nb.2 ⟨e,h⟩))]
    .rw[zb.2 (by omega)];omega
   have ec:FS (zv a) (zv b)=C7 (Ag a.abs) (Ag b.abs):=by
    unfold FS C7;rw[ea,eb]
    by_cases h3:Ag a.abs<Ag b.abs
    .rw[Ac (by omega),Ac h3]
    .rw[Ad (by omega),Ad h3]
     by_cases h4:Ag b.abs<Ag a.abs
     .rw[Ac (by omega),Ac h4]
     .rw[Ad (by omega),Ad h4]
   rw[ec]
   by_cases h3:0<zv a
   .rw[Ac h3]
    by_cases h4:0<zv b
    .rw[Ac h4]
     refine AA ?_ (by decide);refine AA ?_ (by decide);refine AA ?_ (by decide);refine Aa g2 ?_;rfl
    .rw[Ad h4]
     refine AA ?_ (by decide);refine AB ?_ (by decide);rw[show C7 (Ag a.abs) (Ag b.abs)=1 by unfold C7;rw[Ad (by omega),Ac (by omega)]]
   .rw[Ad h3]
    by_cases h4:0<zv b
    .rw[Ac h4]
     refine AB ?_ (by decide);rw[show C7 (Ag a.abs) (Ag b.abs)=-1 by unfold C7;rw[Ac (by omega)]]
    .rw[Ad h4]
     refine AA ?_ (by decide);refine AA ?_ (by decide);refine AA ?_ (by decide);refine Aa g2 ?_;rfl
theorem To{k:Nat}(hk:k<=900000000){a b:Zi}(ha:Lz k a)(hb:Lz k b):D.ask (.fn 139) [.agg (eZ a),.agg (eZ b)] []=Θ (.agg (eZ (AQ (zv a+zv b))),[]):=by
 have la:=ha.len;have lb:=hb.len;refine AC Z Alv (As9 ..) ?_;have hfr:∀(neg:Bool) (n:Nat),n<4294967296 ^ (k+1)->D.ask (.fn 145) [bv neg,eN (Aq n)] []=Θ (.agg (eZ (AQ (CY neg n))),[]):=λneg n h=>by
  have:=EQ K Z C neg (Av n) (by unfold B5;have:=Bu h;omega)
  rwa [AF]at this
 have ba:=BM ha.lim;have bb:=BM hb.lim;have pa:4294967296 ^ a.abs.length<=4294967296 ^ k:=Axi (by omega) la;have pb:4294967296 ^ b.abs.length<=4294967296 ^ k:=Axi (by omega) lb;have ps:4294967296 ^ (k+1)=4294967296 ^ k*4294967296:=Aw6 ..
 by_cases h:a.neg=b.neg
 .rw[Ra,show (a.neg == b.neg)=Δ by simpa using h]
  refine Ah ?_;refine Aa (AmX K C (by omega) ha.lim (by omega) hb.lim) ?_;simp only[eN,Aj];refine Aa (hfr a.neg (Ag a.abs+Ag b.abs) (by omega)) ?_;rw[show CY a.neg (Ag a.abs+Ag b.abs)=zv a+zv b by
   unfold zv;rw[←h];unfold CY;split<;>omega]
  rfl
 .rw[Ra,show (a.neg == b.neg)=Φ by simpa using h]
  refine BR ?_;have hop:zv a+zv b=CY a.neg (Ag a.abs)+CY (!a.neg) (Ag b.abs):=by
   unfold zv;have:b.neg = !a.neg:=by
    revert h
    cases a.neg<;>cases b.neg<;>simp
   rw[this]
  have g1:=Aa6 K C (a:=a.abs) (b:=b.abs) (by unfold B5;omega) ha.lim (by unfold B5;omega) hb.lim;have g2:=Aa6 K C (a:=b.abs) (b:=a.abs) (by unfold B5;omega) hb.lim (by unfold B5;omega) ha.lim;unfold MF at g1 g2;refine Aa g1 ?_
  by_cases hle:Ag b.abs<=Ag a.abs
  .rw[Ac hle]
   simp only[eN,Aj];refine Aa (hfr a.neg (Ag a.abs-Ag b.abs) (by omega)) ?_;rw[show CY a.neg (Ag a.abs-Ag b.abs)=zv a+zv b by
    rw[hop];unfold CY
    cases a.neg<;>simp<;>omega]
   rfl
  .rw[Ad hle]
   rw[Ac (by omega)]at g2;simp only[eN,Aj];refine Aa g2 ?_;simp only[eN,Aj];refine Aa (hfr b.neg (Ag b.abs-Ag a.abs) (by omega)) ?_;rw[show CY b.neg (Ag b.abs-Ag a.abs)=zv a+zv b by
    rw[hop];have:b.neg = !a.neg:=by
     revert h
     cases a.neg<;>cases b.neg<;>simp
    rw[this];unfold CY
    cases a.neg<;>simp<;>omega]
   rfl
theorem AkT{k m:Nat}(hk:k<=400000000)(hkm:m<=400000000){a b:Zi}(ha:Lz k a)(hb:Lz m b)(h24:a.abs.length<24\/b.abs.length<24):D.ask (.fn 158) [.agg (eZ a),.agg (eZ b)] []=Θ (.agg (eZ (AQ (zv a*zv b))),[]):=by
 have la:=ha.len;have lb:=hb.len;refine AC Z AlI (Atq ..) ?_;have hm:InB (k+m) (zv a*zv b):=ha.inb.mul hb.inb;have hab:(zv a*zv b).natAbs=Ag a.abs*Ag b.abs:=by
  have f:∀ z:Zi,(zv z).natAbs=Ag z.abs:=λz=>by
   unfold zv CY;split
   .rw[Ayc];rfl
   .rfl
  rw[Int.natAbs_mul,f,f]
 unfold InB at hm;rw[hab]at hm;have hl:=Bu hm;have hfr:∀(neg:Bool),D.ask (.fn 145) [bv neg,eN (Aq (Ag a.abs*Ag b.abs))] []=Θ (.agg (eZ (AQ (CY neg (Ag a.abs*Ag b.abs)))),[]):=λneg=>by
  have:=EQ K Z C neg (Av (Ag a.abs*Ag b.abs)) (by unfold B5;omega)
  rwa [AF]at this
 have g:=Am2 K C (by omega) ha.lim (by omega) hb.lim h24;have hs:CY (a.neg != b.neg) (Ag a.abs*Ag b.abs)=zv a*zv b:=by
  unfold zv CY
  cases a.neg<;>cases b.neg<;>simp[AzY,AyB]
 rw[AdN,Ra]
 by_cases h:a.neg=b.neg
 .rw[show (!(a.neg == b.neg))=Φ by simp[h]]
  rw[show (a.neg != b.neg)=Φ by simp[h]]at hs;refine BR ?_;refine Aa g ?_;simp only[eN,Aj];refine Aa (hfr Φ) ?_;rw[hs];rfl
 .rw[show (!(a.neg == b.neg))=Δ by simp[h]]
  rw[show (a.neg != b.neg)=Δ by simp[h]]at hs;refine Ah ?_;refine Aa g ?_;simp only[eN,Aj];refine Aa (hfr Δ) ?_;rw[hs];rfl
end
section
open Go.RowKit
def Amg:MFn:=AN [] 128
def Alr:Hnt:=⟨[(149,(.ls,[]))],[],[]⟩
def ArG:MFn:=AN [] 75
def AqQ:Hnt:=⟨[(128,(.agg AL,[]))],[],[(4,[.bool]),(6,[.ls])]⟩
def Arz:MFn:=AN [] 56
def AqJ:Hnt:=⟨[(128,(.agg AL,[])),(129,(.ls,[]))],[],[]⟩
def ArE:MFn:=AN [] 69
def AqO:Hnt:=⟨[(149,(.ls,[]))],[],[(4,[.ls]),(9,[.bool])]⟩
def AmC:MFn:=AN [] 179
def AlN:Hnt:=⟨[(128,(.agg AL,[]))],[],[(4,[.bool]),(7,[.ls])]⟩
def Ama:MFn:=AN [] 122
def AcD:Hnt:=⟨[(69,(.int .i64,[])),(122,(.agg AL,[])),(128,(.agg AL,[])),(129,(.ls,[])),(182,(.tup [.ls,.bool],[]))],[],[(7,AL),(11,AL),(16,[.ls]),(18,[.ls]),(21,AL),(25,AL),(30,[.ls]),(32,[.ls]),(35,AL),(38,AL),(39,AL),(43,[.ls]),(45,[.ls]),(54,[.ls]),(56,[.ls])]⟩
def Amc:MFn:=AN [] 124
def Aln:Hnt:=⟨[(122,(.agg AL,[])),(179,(.agg AL,[]))],[],[(5,AL),(6,AL)]⟩
def Amb:MFn:=AN [] 123
def Alm:Hnt:=⟨[(69,(.int .i64,[])),(128,(.agg AL,[])),(183,(.ls,[]))],[],[(5,AL),(7,AL),(12,[.ls]),(14,[.ls])]⟩
def Ary:MFn:=AN [] 53
def AqI:Hnt:=⟨[(69,(.int .i64,[])),(124,(.agg AL,[]))],[],[(5,AL),(6,AL)]⟩
def Ams:MFn:=AN [] 152
def AlD:Hnt:=⟨[(210,(.bool,[]))],[],[(6,[.bool]),(8,[.bool]),(12,[.ls]),(14,[.ls])]⟩
def Rr:List (Nat × MFn):=[(128,Amg),(75,ArG),(56,Arz),(69,ArE),(179,AmC),(122,Ama),(124,Amc),(123,Amb),(53,Ary),(152,Ams)]
variable (A:Ar) (D:Orc)
theorem As4(x0:Bool)(x1:Rw):B3 A D Au Alr .n 128 Amg [bv x0,Ψ x1] [] =
 Ai D (φ 149) [Ψ x1] [] [.l,.E] λxs=>
 br (A.eq (↑(AT xs)) 0)
 (Θ ((δ [bv Φ,Ψ []],[])))
 (Θ ((δ [bv x0,Ψ xs],[]))):=by kernel_rfl
theorem e75(x0_0:Bool)(x0_1:Rw):B3 A D Au AqQ .n 75 ArG [δ [bv x0_0,Ψ x0_1]] [] =
 Ai D (φ 128) [bv x0_0,Ψ x0_1] [] [.a,.B,.L,.N,.E] λb xs=>
 Θ ((δ [bv b,Ψ xs],[])):=by kernel_rfl
theorem e56(x0:Int):B3 A D Au AqJ (.b (.b (.b .n (.f .n)) .n) (.b .n (.b .n (.f .n)))) 56 Arz [iv x0] [] =
 br (A.le 0 x0)
 (br (A.eq 4294967296 0)
 (Ξ)
 (br (A.eq 4294967296 0) Ξ (AW D (φ 128) [bv Φ,Ψ [[Awc (Value.int ζ (A.conv ζ (A.rem ω x0 4294967296)))],[Awc (Value.int ζ (A.conv ζ (A.quo ω x0 4294967296)))]]] [] λr o=>
 dk [.a,.B,.L,.N,.E] [.v r,.o o] λb xs=>
 Θ ((δ [bv b,Ψ xs],[])))))
 (br (A.eq 4294967296 0)
 (Ξ)
 (br (A.eq 4294967296 0) Ξ (AW D (φ 129) [Ψ [[Awc (Value.int ζ (A.conv ζ (A.rem ω (A.sub ω 0 (A.add ω x0 1)) 4294967296)))],[Awc (Value.int ζ (A.conv ζ (A.quo ω (A.sub ω 0 (A.add ω x0 1)) 4294967296)))]],Ψ [[Awc (Value.int ζ 1)]]] [] λr o=>
 Mr r λxs=>
 D2 o<|
 Ai D (φ 128) [bv Δ,Ψ xs] [] [.a,.B,.L,.N,.E] λb xs1=>
 Θ ((δ [bv b,Ψ xs1],[]))))):=by kernel_rfl
theorem e69(x0_0:Bool)(x0_1:Rw):B3 A D Au AqO .n 69 ArE [δ [bv x0_0,Ψ x0_1]] [] =
 Ai D (φ 149) [Ψ x0_1] [] [.l,.E] λxs=>
 br (A.eq (↑(AT xs)) 0)
 (Θ ((iv 0,[])))
 (br x0_0
 (Θ ((iv (-1),[])))
 (Θ ((iv 1,[])))):=by kernel_rfl
theorem Aty(x0_0:Bool)(x0_1:Rw):B3 A D Au AlN .n 179 AmC [δ [bv x0_0,Ψ x0_1]] [] =
 br (A.not x0_0)
 (Ai D (φ 128) [bv Δ,Ψ x0_1] [] [.a,.B,.L,.N,.E] λb xs=>
 Θ ((δ [bv b,Ψ xs],[])))
 (Ai D (φ 128) [bv Φ,Ψ x0_1] [] [.a,.B,.L,.N,.E] λb xs=>
 Θ ((δ [bv b,Ψ xs],[]))):=by kernel_rfl
theorem ApZ(x0_0:Bool)(x0_1:Rw)(x1_0:Bool)(x1_1:Rw):B3 A D Au AcD .n 122 Ama [δ [bv x0_0,Ψ x0_1],δ [bv x1_0,Ψ x1_1]] [] =
 Ai D (φ 69) [δ [bv x0_0,Ψ x0_1]] [] [.i,.E] λn=>
 br (A.lt n 0)
 (Ai D (φ 69) [δ [bv x1_0,Ψ x1_1]] [] [.i,.E] λn1=>
 br (A.lt n1 0)
 (Ai D (φ 129) [Ψ x0_1,Ψ x1_1] [] [.l,.E] λxs=>
 Ai D (φ 128) [bv Δ,Ψ xs] [] [.a,.B,.L,.N,.E] λb xs1=>
 Θ ((δ [bv b,Ψ xs1],[])))
 (Ai D (φ 69) [δ [bv x0_0,Ψ x0_1]] [] [.i,.E] λn2=>
 br (A.le 0 n2)
 (Ai D (φ 69) [δ [bv x1_0,Ψ x1_1]] [] [.i,.E] λn3=>
 br (A.le 0 n3)
 (Ai D (φ 129) [Ψ x0_1,Ψ x1_1] [] [.l,.E] λxs=>
 Ai D (φ 128) [bv Φ,Ψ xs] [] [.a,.B,.L,.N,.E] λb xs1=>
 Θ ((δ [bv b,Ψ xs1],[])))
 (Ai D (φ 69) [δ [bv x0_0,Ψ x0_1]] [] [.i,.E] λn4=>
 br (A.lt n4 0)
 (Ai D (φ 122) [δ [bv x1_0,Ψ x1_1],δ [bv x0_0,Ψ x0_1]] [] [.a,.B,.L,.N,.E] λb xs=>
 Θ ((δ [bv b,Ψ xs],[])))
 (Ai D (φ 182) [Ψ x0_1,Ψ x1_1] [] [.t,.L,.B,.N,.E] λxs b=>
 br b
 (Ai D (φ 128) [bv Φ,Ψ xs] [] [.a,.B,.L,.N,.E] λb1 xs1=>
 Θ ((δ [bv b1,Ψ xs1],[])))
 (Ai D (φ 182) [Ψ x1_1,Ψ x0_1] [] [.t,.L,.B,.N,.E] λxs1 _=>
 Ai D (φ 128) [bv Δ,Ψ xs1] [] [.a,.B,.L,.N,.E] λb2 xs2=>
 Θ ((δ [bv b2,Ψ xs2],[]))))))
 (Ai D (φ 69) [δ [bv x0_0,Ψ x0_1]] [] [.i,.E] λn3=>
 br (A.lt n3 0)
 (Ai D (φ 122) [δ [bv x1_0,Ψ x1_1],δ [bv x0_0,Ψ x0_1]] [] [.a,.B,.L,.N,.E] λb xs=>
 Θ ((δ [bv b,Ψ xs],[])))
 (Ai D (φ 182) [Ψ x0_1,Ψ x1_1] [] [.t,.L,.B,.N,.E] λxs b=>
 br b
 (Ai D (φ 128) [bv Φ,Ψ xs] [] [.a,.B,.L,.N,.E] λb1 xs1=>
 Θ ((δ [bv b1,Ψ xs1],[])))
 (Ai D (φ 182) [Ψ x1_1,Ψ x0_1] [] [.t,.L,.B,.N,.E] λxs1 _=>
 Ai D (φ 128) [bv Δ,Ψ xs1] [] [.a,.B,.L,.N,.E] λb2 xs2=>
 Θ ((δ [bv b2,Ψ xs2],[])))))))
 (Ai D (φ 69) [δ [bv x0_0,Ψ x0_1]] [] [.i,.E] λn1=>
 br (A.le 0 n1)
 (Ai D (φ 69) [δ [bv x1_0,Ψ x1_1]] [] [.i,.E] λn2=>
 br (A.le 0 n2)
 (Ai D (φ 129) [Ψ x0_1,Ψ x1_1] [] [.l,.E] λxs=>
 Ai D (φ 128) [bv Φ,Ψ xs] [] [.a,.B,.L,.N,.E] λb xs1=>
 Θ ((δ [bv b,Ψ xs1],[])))
 (Ai D (φ 69) [δ [bv x0_0,Ψ x0_1]] [] [.i,.E] λn3=>
 br (A.lt n3 0)
 (Ai D (φ 122) [δ [bv x1_0,Ψ x1_1],δ [bv x0_0,Ψ x0_1]] [] [.a,.B,.L,.N,.E] λb xs=>
 Θ ((δ [bv b,Ψ xs],[])))
 (Ai D (φ 182) [Ψ x0_1,Ψ x1_1] [] [.t,.L,.B,.N,.E] λxs b=>
 br b
 (Ai D (φ 128) [bv Φ,Ψ xs] [] [.a,.B,.L,.N,.E] λb1 xs1=>
 Θ ((δ [bv b1,Ψ xs1],[])))
 (Ai D (φ 182) [Ψ x1_1,Ψ x0_1] [] [.t,.L,.B,.N,.E] λxs1 _=>
 Ai D (φ 128) [bv Δ,Ψ xs1] [] [.a,.B,.L,.N,.E] λb2 xs2=>
 Θ ((δ [bv b2,Ψ xs2],[]))))))
 (Ai D (φ 69) [δ [bv x0_0,Ψ x0_1]] [] [.i,.E] λn2=>
 br (A.lt n2 0)
 (Ai D (φ 122) [δ [bv x1_0,Ψ x1_1],δ [bv x0_0,Ψ x0_1]] [] [.a,.B,.L,.N,.E] λb xs=>
 Θ ((δ [bv b,Ψ xs],[])))
 (Ai D (φ 182) [Ψ x0_1,Ψ x1_1] [] [.t,.L,.B,.N,.E] λxs b=>
 br b
 (Ai D (φ 128) [bv Φ,Ψ xs] [] [.a,.B,.L,.N,.E] λb1 xs1=>
 Θ ((δ [bv b1,Ψ xs1],[])))
 (Ai D (φ 182) [Ψ x1_1,Ψ x0_1] [] [.t,.L,.B,.N,.E] λxs1 _=>
 Ai D (φ 128) [bv Δ,Ψ xs1] [] [.a,.B,.L,.N,.E] λb2 xs2=>
 Θ ((δ [bv b2,Ψ xs2],[])))))):=by kernel_rfl
theorem As0(x0_0:Bool)(x0_1:Rw)(x1_0:Bool)(x1_1:Rw):B3 A D Au Aln .n 124 Amc [δ [bv x0_0,Ψ x0_1],δ [bv x1_0,Ψ x1_1]] [] =
 Ai D (φ 179) [δ [bv x1_0,Ψ x1_1]] [] [.a,.B,.L,.N,.E] λb xs=>
 Ai D (φ 122) [δ [bv x0_0,Ψ x0_1],δ [bv b,Ψ xs]] [] [.a,.B,.L,.N,.E] λb1 xs1=>
 Θ ((δ [bv b1,Ψ xs1],[])):=by kernel_rfl
theorem AsZ(x0_0:Bool)(x0_1:Rw)(x1_0:Bool)(x1_1:Rw):B3 A D Au Alm .n 123 Amb [δ [bv x0_0,Ψ x0_1],δ [bv x1_0,Ψ x1_1]] [] =
 Ai D (φ 69) [δ [bv x0_0,Ψ x0_1]] [] [.i,.E] λn=>
 Ai D (φ 69) [δ [bv x1_0,Ψ x1_1]] [] [.i,.E] λn1=>
 br (A.lt (A.mul ω n n1) 0)
 (Ai D (φ 183) [Ψ x0_1,Ψ x1_1] [] [.l,.E] λxs=>
 Ai D (φ 128) [bv Δ,Ψ xs] [] [.a,.B,.L,.N,.E] λb xs1=>
 Θ ((δ [bv b,Ψ xs1],[])))
 (Ai D (φ 183) [Ψ x0_1,Ψ x1_1] [] [.l,.E] λxs=>
 Ai D (φ 128) [bv Φ,Ψ xs] [] [.a,.B,.L,.N,.E] λb xs1=>
 Θ ((δ [bv b,Ψ xs1],[]))):=by kernel_rfl
theorem e53(x0_0:Bool)(x0_1:Rw)(x1_0:Bool)(x1_1:Rw):B3 A D Au AqI .n 53 Ary [δ [bv x0_0,Ψ x0_1],δ [bv x1_0,Ψ x1_1]] [] =
 Ai D (φ 124) [δ [bv x0_0,Ψ x0_1],δ [bv x1_0,Ψ x1_1]] [] [.a,.B,.L,.N,.E] λb xs=>
 Ai D (φ 69) [δ [bv b,Ψ xs]] [] [.i,.E] λn=>
 Θ ((iv n,[])):=by kernel_rfl
theorem Atk(x0_0:Bool)(x0_1:Rw)(x1_0:Bool)(x1_1:Rw):B3 A D Au AlD .n 152 Ams [δ [bv x0_0,Ψ x0_1],δ [bv x1_0,Ψ x1_1]] [] =
 br (A.beq x0_0 x1_0)
 (Ai D (φ 210) [Ψ x0_1,Ψ x1_1] [] [.b,.E] λb=>
 br b
 (Θ ((bv Δ,[])))
 (Θ ((bv Φ,[]))))
 (Θ ((bv Φ,[]))):=by kernel_rfl
end
theorem HE{z:Zi}(h:zv z<0):zv z=-(Ag z.abs:Int):=by
 unfold zv CY at *
 cases e:z.neg<;>rw[e]at h<;>simp at h ⊢
 omega
theorem Fj{z:Zi}(h:¬ zv z<0):zv z=(Ag z.abs:Int):=by
 unfold zv CY at *
 cases e:z.neg<;>rw[e]at h<;>simp at h ⊢
 omega
theorem Mj{n:Int}:Cb n<0 ↔ n<0:=by
 unfold Cb;split
 .omega
 .split<;>omega
theorem Af3{k:Nat}{x y:Int}(hx:InB k x)(hy:InB k y):InB (k+1) (x+y):=by
 unfold InB at *;rw[Aw6];have:=Int.natAbs_add_le x y;omega
theorem Q3{k:Nat}(hk:k<=900000000){a b:Zi}(ha:Lz k a)(hb:Lz k b):B5 (Aq (Ag a.abs+Ag b.abs)):=by
 unfold B5;have h1:=ha.inb;have h2:=hb.inb;have f:∀ z:Zi,(zv z).natAbs=Ag z.abs:=λz=>by
  unfold zv CY;split
  .rw[Ayc];rfl
  .rfl
 unfold InB at h1 h2;rw[f]at h1 h2;have:=Bu (n:=Ag a.abs+Ag b.abs) (k:=k+1) (by rw[Aw6];omega);omega
theorem DM(n:Int):Cb n=-1/\n<0\/Cb n=1/\0<n\/Cb n=0/\n=0:=by
 unfold Cb;split
 .omega
 .split<;>omega
theorem S2(x y:Int):Ap.mul .i64 (Cb x) (Cb y)=Cb x*Cb y:=by
 show IntKind.i64.wrap (Cb x*Cb y)=_
 rw[IntKind.wrap_i64];rcases DM x with h|h|h<;>rcases DM y with h2|h2|h2<;>rw[h.1,h2.1]<;>rfl
theorem WC{a b:Zi}(h:Cb (zv a)*Cb (zv b)<0):CY Δ (Ag a.abs*Ag b.abs)=zv a*zv b:=by
 unfold CY;rw[Ac rfl,AyK]
 by_cases ha:zv a<0
 .rw[HE ha]
  by_cases hb:zv b<0
  .exfalso
   rcases DM (zv a) with h1|h1|h1<;>rcases DM (zv b) with h2|h2|h2<;>rw[h1.1,h2.1]at h<;>omega
  .rw[Fj hb,AyB]
 .rw[Fj ha]
  by_cases hb:zv b<0
  .rw[HE hb,AzY]
  .exfalso
   rcases DM (zv a) with h1|h1|h1<;>rcases DM (zv b) with h2|h2|h2<;>rw[h1.1,h2.1]at h<;>omega
theorem WD{a b:Zi}(h:¬ Cb (zv a)*Cb (zv b)<0):CY Φ (Ag a.abs*Ag b.abs)=zv a*zv b:=by
 unfold CY;rw[Ad (by simp),AyK];rcases DM (zv a) with h1|h1|h1
 .rcases DM (zv b) with h2|h2|h2
  .rw[HE h1.2,HE h2.2,Int.neg_mul_neg]
  .exfalso
   rw[h1.1,h2.1]at h;omega
  .have:=Fj (z:=b) (by omega)
   rw[h2.2,AyY,←this,h2.2,AyY]
 .rcases DM (zv b) with h2|h2|h2
  .exfalso
   rw[h1.1,h2.1]at h;omega
  .rw[←Fj (z:=a) (by omega),←Fj (z:=b) (by omega)]
  .have:=Fj (z:=b) (by omega)
   rw[h2.2,AyY,←this,h2.2,AyY]
 .have:=Fj (z:=a) (by omega)
  rw[h1.2,Azi,←this,h1.2,Azi]
section
variable {D:Orc} (K:Knows Au Lr D) (R:Knows Au Rr D)
include K R
theorem DA(neg:Bool){a:Af}(ha:Limbs a)(hs:B5 a):D.ask (.fn 128) [bv neg,eN a] []=Θ (.agg (eZ (AQ (CY neg (Ag a)))),[]):=by
 refine AC R Alr (As4 ..) ?_;refine Aa (C3 K hs ha) ?_;simp only[eN,Aj,Al];rw[Ly];unfold eZ eN;have hp:=@DE (Ag a)
 by_cases h:0<Ag a
 .refine Ay ?_ (by have:=hp.2 h;omega)
  rw[BT h,Bool.and_true]
 .have h0:Ag a=0:=by omega
  rw[BX h,Bool.and_false,h0,CJ];exact AG rfl rfl
theorem Z8{z:Zi}(hz:Lz 1000000000 z):D.ask (.fn 75) [.agg (eZ z)] []=Θ (.agg (eZ (AQ (zv z))),[]):=by
 refine AC R AqQ (e75 ..) ?_;refine Aa (DA K R z.neg hz.lim hz.len) ?_;rfl
theorem DB{z:Zi}(hz:Lz 1000000000 z):D.ask (.fn 69) [.agg (eZ z)] []=Θ (iv (Cb (zv z)),[]):=by
 refine AC R AqO (e69 ..) ?_;refine Aa (C3 K hz.len hz.lim) ?_;simp only[eN,Aj,Al];have hp:=@DE (Ag z.abs);unfold zv CY
 by_cases h:0<Ag z.abs
 .refine Ay ?_ (by have:=hp.2 h;omega)
  cases z.neg with
  |false=>
   refine BR ?_;rw[Ad (by simp)];unfold Cb;rw[Ad (by omega)]
   first|rw[Ac (by omega)] | rw[Ad (by omega)]
  |true=>
   refine Ah ?_;rw[Ac rfl];unfold Cb
   first|rw[Ac (by omega)] | rw[Ad (by omega),Ad (by omega)]
 .have h0:Ag z.abs=0:=by omega
  rw[h0,CJ];refine AG ?_ rfl
  cases z.neg<;>rfl
theorem YK{z:Zi}(hz:Lz 1000000000 z):D.ask (.fn 179) [.agg (eZ z)] []=Θ (.agg (eZ (AQ (-zv z))),[]):=by
 have e:-zv z=CY (!z.neg) (Ag z.abs):=by
  unfold zv CY
  cases z.neg<;>simp
 rw[e];refine AC R AlN (Aty ..) ?_;rw[AdN];have g:=λb=>DA K R b hz.lim hz.len
 cases z.neg with
 |false=>
  refine Ah ?_;refine Aa (g Δ) ?_;rfl
 |true=>
  refine BR ?_;refine Aa (g Φ) ?_;rfl
theorem Rh{k:Nat}(hk:k<=900000000){a b:Zi}(ha:Lz k a)(hb:Lz k b)(hp:¬ zv a<0):D.ask (.fn 122) [.agg (eZ a),.agg (eZ b)] []=Θ (.agg (eZ (AQ (zv a+zv b))),[]):=by
 have la:=ha.len;have lb:=hb.len;have sa:=DB K R (ha.mono (show k<=1000000000 by omega));have sb:=DB K R (hb.mono (show k<=1000000000 by omega));have ea:=Fj hp;have hsa:¬ Cb (zv a)<0:=λh=>hp (Mj.1 h)
 refine AC R AcD (ApZ ..) ?_;refine Aa sa ?_;simp only[Qa,Aj];refine AA ?_ hsa;refine Aa sa ?_;simp only[Qa,Aj];refine Cs ?_;refine Aa sb ?_;simp only[Qa,Aj]
 by_cases hb0:zv b<0
 .have hsb:=Mj.2 hb0
  have eb:=HE hb0;refine CN ?_;refine Aa sa ?_;simp only[Qa,Aj];refine AA ?_ hsa;have g1:=SO K (a:=a.abs) (b:=b.abs) (by unfold B5;omega) ha.lim (by unfold B5;omega) hb.lim;unfold MF at g1;refine Aa g1 ?_
  by_cases hle:Ag b.abs<=Ag a.abs
  .rw[Ac hle]
   simp only[eN,Aj];have g2:=DA K R Φ (a:=Aq (Ag a.abs-Ag b.abs)) (Av _) (by
    unfold B5;have:=Bu (n:=Ag a.abs-Ag b.abs) (k:=a.abs.length) (by have:=BM ha.lim;omega);omega)
   rw[AF,show CY Φ (Ag a.abs-Ag b.abs)=zv a+zv b by unfold CY;rw[Ad (by simp)];omega]at g2;refine Aa g2 ?_;rfl
  .rw[Ad hle]
   simp only[eN,Aj];have g3:=SO K (a:=b.abs) (b:=a.abs) (by unfold B5;omega) hb.lim (by unfold B5;omega) ha.lim;unfold MF at g3;rw[Ac (show Ag a.abs<=Ag b.abs by omega)]at g3;refine Aa g3 ?_;simp only[eN,Aj];have g2:=DA K R Δ (a:=Aq (Ag b.abs-Ag a.abs)) (Av _) (by
    unfold B5;have:=Bu (n:=Ag b.abs-Ag a.abs) (k:=b.abs.length) (by have:=BM hb.lim;omega);omega)
   rw[AF,show CY Δ (Ag b.abs-Ag a.abs)=zv a+zv b by unfold CY;rw[Ac rfl];omega]at g2;refine Aa g2 ?_;rfl
 .have hsb:¬ Cb (zv b)<0:=λh=>hb0 (Mj.1 h)
  have eb:=Fj hb0;refine Cs ?_;refine Aa (K9 K (by omega) ha.lim (by omega) hb.lim) ?_;simp only[eN,Aj];have g2:=DA K R Φ (a:=Aq (Ag a.abs+Ag b.abs)) (Av _) (Q3 hk ha hb);rw[AF,show CY Φ (Ag a.abs+Ag b.abs)=zv a+zv b by unfold CY;rw[Ad (by simp)];omega]at g2;refine Aa g2 ?_;rfl
theorem Pv{k:Nat}(hk:k<=900000000){a b:Zi}(ha:Lz k a)(hb:Lz k b):D.ask (.fn 122) [.agg (eZ a),.agg (eZ b)] []=Θ (.agg (eZ (AQ (zv a+zv b))),[]):=by
 by_cases hp:zv a<0
 .have la:=ha.len
  have lb:=hb.len;have sa:=DB K R (ha.mono (show k<=1000000000 by omega));have sb:=DB K R (hb.mono (show k<=1000000000 by omega));have ea:=HE hp;have hsa:=Mj.2 hp;refine AC R AcD (ApZ ..) ?_;refine Aa sa ?_;simp only[Qa,Aj];refine AB ?_ hsa;refine Aa sb ?_;simp only[Qa,Aj]
  by_cases hb0:zv b<0
  .have eb:=HE hb0
   refine AB ?_ (Mj.2 hb0);refine Aa (K9 K (by omega) ha.lim (by omega) hb.lim) ?_;simp only[eN,Aj];have g2:=DA K R Δ (a:=Aq (Ag a.abs+Ag b.abs)) (Av _) (Q3 hk ha hb);rw[AF,show CY Δ (Ag a.abs+Ag b.abs)=zv a+zv b by unfold CY;rw[Ac rfl];omega]at g2;refine Aa g2 ?_;rfl
  .refine AA ?_ (λh=>hb0 (Mj.1 h))
   refine Aa sa ?_;simp only[Qa,Aj];refine CN ?_;refine Aa sa ?_;simp only[Qa,Aj];refine AB ?_ hsa;have g:=Rh K R hk hb ha hb0;rw[Int.add_comm]at g;refine Aa g ?_;rfl
 .exact Rh K R hk ha hb hp
theorem Pw{k:Nat}(hk:k<=900000000){a b:Zi}(ha:Lz k a)(hb:Lz k b):D.ask (.fn 124) [.agg (eZ a),.agg (eZ b)] []=Θ (.agg (eZ (AQ (zv a-zv b))),[]):=by
 refine AC R Aln (As0 ..) ?_;refine Aa (YK K R (hb.mono (show k<=1000000000 by omega))) ?_;have hn:Lz k (AQ (-zv b)):=InB.lz (by have:=hb.inb;unfold InB at *;rwa [Ayc]);have g:=Pv K R hk ha hn;rw[Bm,←AyO]at g;simp only[eZ,eN,Aj];refine Aa g ?_;rfl
theorem Aee{k:Nat}(hk:k<=900000000){a b:Zi}(ha:Lz k a)(hb:Lz k b):D.ask (.fn 53) [.agg (eZ a),.agg (eZ b)] []=Θ (iv (Cb (zv a-zv b)),[]):=by
 refine AC R AqI (e53 ..) ?_;refine Aa (Pw K R hk ha hb) ?_;have hs:Lz (k+1) (AQ (zv a-zv b)):=InB.lz (by rw[AyO];exact Af3 ha.inb (by have:=hb.inb;unfold InB at *;rwa [Ayc]));have g:=DB K R (hs.mono (show k+1<=1000000000 by omega));rw[Bm]at g;simp only[eZ,eN,Aj];refine Aa g ?_;rfl
theorem U6{k m:Nat}(hk:k<=400000000)(hm:m<=400000000){a b:Zi}(ha:Lz k a)(hb:Lz m b):D.ask (.fn 123) [.agg (eZ a),.agg (eZ b)] []=Θ (.agg (eZ (AQ (zv a*zv b))),[]):=by
 have la:=ha.len;have lb:=hb.len;have sa:=DB K R (ha.mono (show k<=1000000000 by omega));have sb:=DB K R (hb.mono (show m<=1000000000 by omega));refine AC R Alm (AsZ ..) ?_;refine Aa sa ?_;simp only[Qa,Aj];refine Aa sb ?_;simp only[Qa,Aj];have g:=Aj8 K ha.lim hb.lim (by omega);have l1:=Fc ha.lim hb.lim;have gf:∀ ng,D.ask (.fn 128) [bv ng,eN (Aq (Ag a.abs*Ag b.abs))] []=Θ (.agg (eZ (AQ (CY ng (Ag a.abs*Ag b.abs)))),[]):=λng=>by
  have:=DA K R ng (a:=Aq (Ag a.abs*Ag b.abs)) (Av _) (by unfold B5;omega)
  rwa [AF]at this
 have hmul:Ap.mul .i64 (Cb (zv a)) (Cb (zv b))=Cb (zv a)*Cb (zv b):=S2 _ _;rw[hmul]
 by_cases h:Cb (zv a)*Cb (zv b)<0
 .refine AB ?_ h
  refine Aa g ?_;simp only[eN,Aj];have g2:=gf Δ;rw[WC h]at g2;refine Aa g2 ?_;rfl
 .refine AA ?_ h
  refine Aa g ?_;simp only[eN,Aj];have g2:=gf Φ;rw[WD h]at g2;refine Aa g2 ?_;rfl
theorem Aal{a b:Zi}(ha:Lz 1000000000 a):D.ask (.fn 152) [.agg (eZ a),.agg (eZ b)] []=Θ (bv (decide (a.neg=b.neg/\a.abs=b.abs)),[]):=by
 refine AC R AlD (Atk ..) ?_;rw[Ra]
 by_cases h:a.neg=b.neg
 .rw[show (a.neg == b.neg)=Δ by simp[h]]
  refine Ah ?_;refine Aa (AdM K (a:=a.abs) (b:=b.abs) ha.len) ?_
  by_cases h2:a.abs=b.abs
  .rw[BT h2,BT ⟨h,h2⟩]
   rfl
  .rw[BX h2,BX (λe=>h2 e.2)]
   rfl
 .rw[show (a.neg == b.neg)=Φ by simp[h],BX (λe=>h e.1)]
  exact BR rfl
end
structure ZF (D:Orc):Prop where
 frm:∀ z:Zi,Lz 1000000000 z->D.ask (.fn 145) [bv z.neg,eN z.abs] []=Θ (.agg (eZ (AQ (zv z))),[])
 neg:∀ z:Zi,Lz 1000000000 z->D.ask (.fn 161) [.agg (eZ z)] []=Θ (.agg (eZ (AQ (-zv z))),[])
 sign:∀ z:Zi,Lz 1000000000 z->D.ask (.fn 64) [.agg (eZ z)] []=Θ (iv (Cb (zv z)),[])
 of_:∀ n:Int,-9223372036854775808<=n->n<9223372036854775808->D.ask (.fn 126) [iv n] []=Θ (.agg (eZ (AQ n)),[])
 cmp:∀ a b:Zi,Lz 1000000000 a->Lz 1000000000 b->D.ask (.fn 155) [.agg (eZ a),.agg (eZ b)] []=Θ (iv (FS (zv a) (zv b)),[])
 add:∀ a b:Zi,Lz 900000000 a->Lz 900000000 b->D.ask (.fn 139) [.agg (eZ a),.agg (eZ b)] []=Θ (.agg (eZ (AQ (zv a+zv b))),[])
 mul:∀ a b:Zi,Lz 400000000 a->Lz 400000000 b->a.abs.length<24\/b.abs.length<24->D.ask (.fn 158) [.agg (eZ a),.agg (eZ b)] []=Θ (.agg (eZ (AQ (zv a*zv b))),[])
theorem AmV{D:Orc}(K:Knows Au Jy D)(Z:Knows Au M3 D)(C:CloneF D):ZF D where
 frm z h:=by
  have:=EQ K Z C z.neg h.lim (by unfold B5;exact h.len);exact this
 neg z h:=Y5 K Z C h
 sign z h:=Lw K Z C h
 of_ n h1 h2:=Ae8 K Z C n h1 h2
 cmp a b ha hb:=AkR K Z C ha hb
 add a b ha hb:=To K Z C (π _) ha hb
 mul a b ha hb h:=AkT K Z C (π _) (π _) ha hb h
theorem AdT(m:Nat)(h:m<9223372036854775808):Ap.rem .i64 (m:Int) 4294967296=((m % 4294967296:Nat):Int):=by
 show AzP (m:Int) 4294967296=_
 rw[show (4294967296:Int)=((4294967296:Nat):Int) from rfl,←Int.ofNat_tmod]
theorem AdQ(m:Nat)(h:m<9223372036854775808):Ap.quo .i64 (m:Int) 4294967296=((m / 4294967296:Nat):Int):=by
 show IntKind.i64.wrap (Ayr (m:Int) 4294967296)=_
 rw[IntKind.wrap_i64,show (4294967296:Int)=((4294967296:Nat):Int) from rfl,←Int.ofNat_tdiv];omega
theorem VA(m:Nat):Ag [m % 4294967296,m / 4294967296]=m:=by
 unfold Ag Ag Ag;omega
theorem QO(m:Nat)(h:m<9223372036854775808):Limbs [m % 4294967296,m / 4294967296]:=Bv (by omega) (Bv (by omega) BY)
structure RF (D:Orc):Prop where
 clean:∀ z:Zi,Lz 1000000000 z->D.ask (.fn 75) [.agg (eZ z)] []=Θ (.agg (eZ (AQ (zv z))),[])
 neg:∀ z:Zi,Lz 1000000000 z->D.ask (.fn 179) [.agg (eZ z)] []=Θ (.agg (eZ (AQ (-zv z))),[])
 sign:∀ z:Zi,Lz 1000000000 z->D.ask (.fn 69) [.agg (eZ z)] []=Θ (iv (Cb (zv z)),[])
 of_:∀ n:Int,-9223372036854775808<n->n<9223372036854775808->D.ask (.fn 56) [iv n] []=Θ (.agg (eZ (AQ n)),[])
 cmp:∀ a b:Zi,Lz 900000000 a->Lz 900000000 b->D.ask (.fn 53) [.agg (eZ a),.agg (eZ b)] []=Θ (iv (Cb (zv a-zv b)),[])
 add:∀ a b:Zi,Lz 900000000 a->Lz 900000000 b->D.ask (.fn 122) [.agg (eZ a),.agg (eZ b)] []=Θ (.agg (eZ (AQ (zv a+zv b))),[])
 mul:∀ a b:Zi,Lz 400000000 a->Lz 400000000 b->D.ask (.fn 123) [.agg (eZ a),.agg (eZ b)] []=Θ (.agg (eZ (AQ (zv a*zv b))),[])
 same:∀ a b:Zi,Lz 1000000000 a->D.ask (.fn 152) [.agg (eZ a),.agg (eZ b)] []=Θ (bv (decide (a.neg=b.neg/\a.abs=b.abs)),[])
section
variable {D:Orc} (K:Knows Au Lr D) (R:Knows Au Rr D)
include K R
theorem AdL(n:Int)(h1:-9223372036854775808<n)(h2:n<9223372036854775808):D.ask (.fn 56) [iv n] []=Θ (.agg (eZ (AQ n)),[]):=by
 refine AC R AqJ (e56 ..) ?_
 by_cases h:0<=n
 .obtain⟨m,rfl⟩:=Ay4 h
  have g:=DA K R Φ (QO m (by omega)) (by unfold B5;simp);rw[VA,show CY Φ m=(m:Int) from rfl]at g;refine Cs ?_ h;refine Ay ?_ (by decide);refine Ay ?_ (by decide);rw[AdT m (by omega),AdQ m (by omega),BQ (by omega),BQ (by omega)];refine Aa g ?_;rfl
 .obtain⟨m,hm⟩:∃ m:Nat,n=-((m+1:Nat):Int):=⟨n.natAbs-1,by omega⟩
  have e1:Ap.sub .i64 0 (Ap.add .i64 n 1)=(m:Int):=by
   rw[GU (by omega) (by omega),DZ (by omega) (by omega)];omega
  have ga:=K9 K (a:=[m % 4294967296,m / 4294967296]) (b:=[1]) (by simp) (QO m (by omega)) (by simp) (Bv (by omega) BY);rw[VA,show Ag [1]=1 from rfl]at ga;have hl:(Aq (m+1)).length<=2:=Bu (by omega);have g:=DA K R Δ (Av (m+1)) (by unfold B5;omega);rw[AF,show CY Δ (m+1)=n by rw[hm];rfl]at g;refine CN ?_ h;refine Ay ?_ (by decide);refine Ay ?_ (by decide);rw[e1,AdT m (by omega),AdQ m (by omega),BQ (by omega),BQ (by omega)];refine Aa ga ?_;simp only[eN,Aj];refine Aa g ?_;rfl
theorem Asd:RF D where
 clean z h:=Z8 K R h
 neg z h:=YK K R h
 sign z h:=DB K R h
 of_ n h1 h2:=AdL K R n h1 h2
 cmp a b ha hb:=Aee K R (π _) ha hb
 add a b ha hb:=Pv K R (π _) ha hb
 mul a b ha hb:=U6 K R (π _) (π _) ha hb
 same a b ha:=Aal K R ha
end
section
open Go.RowKit
def Yw:MFn:=AN [⟨28,(mB 48),[],[],[(1,((mB 16),([],[])))]⟩] 207
def OJ:Hnt:=⟨[(149,(.ls,[]))],[(0,[(1,([.int .i64],[]))])],[(19,[.int .u32]),(20,[.int .u32])]⟩
def Yx:MFn:=AN [⟨32,(mB 98),[],[],[(1,((mB 32),([],[])))]⟩] 209
def Up:Hnt:=⟨[],[(0,[(1,([.int .u32],[]))])],[(19,[.int .u32]),(20,[.int .u32])]⟩
def AmI:MFn:=AN [] 208
def AlT:Hnt:=⟨[(129,(.ls,[])),(229,(.ls,[]))],[],[]⟩
def Yg:MFn:=AN [⟨45,(mB 899),[],[7,8],[(1,((mB 384),([],[])))]⟩] 151
def Ue:Hnt:=⟨[(149,(.ls,[])),(182,(.tup [.ls,.bool],[])),(207,(.int .i64,[])),(208,(.ls,[])),(209,(.bool,[]))],[(0,[(1,([.ls,.ls],[]))])],[]⟩
def Yv:MFn:=AN [⟨27,(mB 96),[],[],[(1,((mB 32),([],[])))]⟩] 206
def QK:Hnt:=⟨[(149,(.ls,[])),(151,(.tup Aku,[]))],[(0,[(1,([.ls],[]))])],[]⟩
def Vi:List (Nat × MFn):=[(207,Yw),(209,Yx),(208,AmI),(151,Yg),(206,Yv)]
variable (A:Ar) (D:Orc)
theorem Ap8(x0:Rw):B3 A D Au OJ .n 207 Yw [Ψ x0] [] =
 Ai D (φ 149) [Ψ x0] [] [.l,.E] λxs=>
 br (A.eq (↑(AT xs)) 0)
 (Θ ((iv 0,[])))
 (unI (A.sub ω (↑(AT xs)) 1) λi=>
 Bw xs i λcs=>
 dk [.J .u32,.N] [.l cs] λn=>
 Ai D (Awa 207 0) [iv (A.mul ω 32 (A.sub ω (↑(AT xs)) 1)),Awc (Value.int ζ n)] [] [.t,.C,.x,.X,.Y] λc l1 o1=>
 br (BA 1 c)
 (dk [.I,.N,.E] [.l l1,.o o1] λn1=>
 Θ ((iv n1,[])))
 (Ξ)):=by kernel_rfl
theorem V4(t4 t5:Int):Dc A D Au OJ .n 207 0 (A1 Yw 0).fst (A1 Yw 0).snd [iv t4,Awc (Value.int ζ t5)] [] =
 br (A.lt 0 t5)
 (br (A.eq 2 0)
 (Ξ)
 (AW D (Awa 207 0) [iv (A.add ω t4 1),Awc (Value.int ζ (A.quo ζ t5 2))] [] λr o=>
 AS 0 [] (AH.mk [] 0 Ξ) [] r o))
 (Θ ((Awe [iv 0,iv t4],[]))):=by kernel_rfl
theorem AtQ(x0:Rw)(x1:Int):B3 A D Au Up .n 209 Yx [Ψ x0,iv x1] [] =
 br (A.lt x1 0)
 (Θ ((bv Φ,[])))
 (br (A.le (A.mul ω 32 ↑(AT x0)) x1)
 (Θ ((bv Φ,[])))
 (br (A.eq 32 0)
 (Ξ)
 (unI (A.quo ω x1 32) λi=>
 Bw x0 i λcs=>
 dk [.J .u32,.N] [.l cs] λn=>
 Ai D (Awa 209 0) [iv x1,Awc (Value.int ζ n),iv 0] [] [.t,.C,.x,.X,.Y] λc l1 o=>
 br (BA 1 c)
 (dk [.J .u32,.N,.E] [.l l1,.o o] λn1=>
 br (A.eq 2 0)
 (Ξ)
 (br (A.eq (A.rem ζ n1 2) 1)
 (Θ ((bv Δ,[])))
 (Θ ((bv Φ,[])))))
 (Ξ)))):=by kernel_rfl
theorem Ab0(t1 t5 t6:Int):Dc A D Au Up .n 209 0 (A1 Yx 0).fst (A1 Yx 0).snd [iv t1,Awc (Value.int ζ t5),iv t6] [] =
 br (A.eq 32 0)
 (Ξ)
 (br (A.lt t6 (A.rem ω t1 32))
 (br (A.eq 2 0)
 (Ξ)
 (AW D (Awa 209 0) [iv t1,Awc (Value.int ζ (A.quo ζ t5 2)),iv (A.add ω t6 1)] [] λr o=>
 AS 0 [] (AH.mk [] 0 Ξ) [] r o))
 (Θ ((Awe [iv 0,Awc (Value.int ζ t5)],[])))):=by kernel_rfl
theorem AtP(x0:Rw)(x1:Bool):B3 A D Au AlT .n 208 AmI [Ψ x0,bv x1] [] =
 Ai D (φ 229) [Ψ x0,Awc (Value.int Ω 2)] [] [.l,.E] λxs=>
 br x1
 (Ai D (φ 129) [Ψ xs,Ψ [[Awc (Value.int ζ 1)]]] [] [.l,.E] λxs1=>
 Θ ((Ψ xs1,[])))
 (Θ ((Ψ xs,[]))):=by kernel_rfl
theorem Atj(x0 x1:Rw):B3 A D Au Ue .n 151 Yg [Ψ x0,Ψ x1] [] =
 Ai D (φ 149) [Ψ x1] [] [.l,.E] λxs=>
 br (A.eq (↑(AT xs)) 0)
 (Θ ((Awe [Ψ [],Ψ [],iv 10],[])))
 (Ai D (φ 207) [Ψ x0] [] [.i,.E] λn=>
 Ai D (Awa 151 0) [Ψ x0,Ψ x1,Ψ [],Ψ [],iv (A.sub ω n 1)] [] [.t,.C,.x,.X,.Y] λc l o2=>
 br (BA 1 c)
 (dk [.L,.L,.N,.E] [.l l,.o o2] λxs1 xs2=>
 Ai D (φ 149) [Ψ xs1] [] [.l,.E] λxs3=>
 Ai D (φ 149) [Ψ xs2] [] [.l,.E] λxs4=>
 Θ ((Awe [Ψ xs3,Ψ xs4,iv 0],[])))
 (Ξ)):=by kernel_rfl
theorem AbN(t0 t1 t7 t8:Rw)(t9:Int):Dc A D Au Ue .n 151 0 (A1 Yg 0).fst (A1 Yg 0).snd [Ψ t0,Ψ t1,Ψ t7,Ψ t8,iv t9] [] =
 br (A.le 0 t9)
 (Ai D (φ 209) [Ψ t0,iv t9] [] [.b,.E] λb=>
 br b
 (Ai D (φ 208) [Ψ t8,bv Δ] [] [.l,.E] λxs=>
 Ai D (φ 182) [Ψ xs,Ψ t1] [] [.t,.L,.B,.N,.E] λxs1 b1=>
 br b1
 (Ai D (φ 208) [Ψ t7,bv b1] [] [.l,.E] λxs2=>
 AW D (Awa 151 0) [Ψ t0,Ψ t1,Ψ xs2,Ψ xs1,iv (A.sub ω t9 1)] [] λr4 o4=>
 AS 0 [] (AH.mk [] 0 Ξ) [] r4 o4)
 (Ai D (φ 208) [Ψ t7,bv b1] [] [.l,.E] λxs2=>
 AW D (Awa 151 0) [Ψ t0,Ψ t1,Ψ xs2,Ψ xs,iv (A.sub ω t9 1)] [] λr4 o4=>
 AS 0 [] (AH.mk [] 0 Ξ) [] r4 o4))
 (Ai D (φ 208) [Ψ t8,bv Φ] [] [.l,.E] λxs=>
 Ai D (φ 182) [Ψ xs,Ψ t1] [] [.t,.L,.B,.N,.E] λxs1 b1=>
 br b1
 (Ai D (φ 208) [Ψ t7,bv b1] [] [.l,.E] λxs2=>
 AW D (Awa 151 0) [Ψ t0,Ψ t1,Ψ xs2,Ψ xs1,iv (A.sub ω t9 1)] [] λr4 o4=>
 AS 0 [] (AH.mk [] 0 Ξ) [] r4 o4)
 (Ai D (φ 208) [Ψ t7,bv b1] [] [.l,.E] λxs2=>
 AW D (Awa 151 0) [Ψ t0,Ψ t1,Ψ xs2,Ψ xs,iv (A.sub ω t9 1)] [] λr4 o4=>
 AS 0 [] (AH.mk [] 0 Ξ) [] r4 o4)))
 (Θ ((Awe [iv 0,Ψ t7,Ψ t8],[]))):=by kernel_rfl
theorem AtO(x0 x1:Rw):B3 A D Au QK .n 206 Yv [Ψ x0,Ψ x1] [] =
 Ai D (φ 149) [Ψ x0] [] [.l,.E] λxs=>
 Ai D (φ 149) [Ψ x1] [] [.l,.E] λxs1=>
 Ai D (Awa 206 0) [Ψ xs,Ψ xs1] [] [.t,.C,.x,.X,.Y] λc l o2=>
 br (BA 1 c)
 (dk [.L,.N,.E] [.l l,.o o2] λxs2=>
 Θ ((Ψ xs2,[])))
 (Ξ):=by kernel_rfl
theorem V3(t5 t6:Rw):Dc A D Au QK .n 206 0 (A1 Yv 0).fst (A1 Yv 0).snd [Ψ t5,Ψ t6] [] =
 br (A.lt 0 ↑(AT t6))
 (Ai D (φ 151) [Ψ t5,Ψ t6] [] [.t,.L,.L,.I,.N,.E] λ_ xs1 _=>
 AW D (Awa 206 0) [Ψ t6,Ψ xs1] [] λr1 o1=>
 AS 0 [] (AH.mk [] 0 Ξ) [] r1 o1)
 (Θ ((Awe [iv 0,Ψ t5],[]))):=by kernel_rfl
end
theorem Ar3{x:Nat}(h:x<4294967296):Ap.quo .u32 (x:Int) 2=((x / 2:Nat):Int):=by
 show IntKind.u32.wrap (Ayr (x:Int) ((2:Nat):Int))=_
 rw[show Ayr (x:Int) ((2:Nat):Int)=((x / 2:Nat):Int) from rfl,IntKind.wrap_u32];omega
theorem At8(x:Nat):Ap.rem .u32 (x:Int) 2=((x % 2:Nat):Int):=by
 show AzP (x:Int) ((2:Nat):Int)=_
 rfl
theorem q_i{x:Nat}(h:x<4611686018427387904):Ap.quo .i64 (x:Int) 32=((x / 32:Nat):Int):=by
 show IntKind.i64.wrap (Ayr (x:Int) ((32:Nat):Int))=_
 rw[show Ayr (x:Int) ((32:Nat):Int)=((x / 32:Nat):Int) from rfl,IntKind.wrap_i64];omega
theorem m_i(x:Nat):Ap.rem .i64 (x:Int) 32=((x % 32:Nat):Int):=by
 show AzP (x:Int) ((32:Nat):Int)=_
 rfl
theorem x_i{x:Nat}(h:x<4611686018427387):Ap.mul .i64 32 (x:Int)=((32*x:Nat):Int):=by
 show IntKind.i64.wrap ((32:Int)*(x:Int))=_
 rw[IntKind.wrap_i64];omega
theorem AdH(n:Nat):4294967296 ^ n=2 ^ (32*n):=by
 rw[Nat.pow_mul]
theorem Anm{a:Af}(ha:Limbs a){i:Nat}(h:i / 32<a.length):Ag a / 2 ^ i % 2=a[i / 32] / 2 ^ (i % 32) % 2:=by
 have e:a=a.take (i / 32)++(a[i / 32]::a.drop (i / 32+1)):=by
  simp_all
 have hv:=congrArg Ag e;rw[BV,Awo,Aw4 (by omega),Ag]at hv;have hlo:=BM (ha.take (i / 32));rw[Awo,Aw4 (by omega)]at hlo;have hP:0<4294967296 ^ (i / 32):=Nat.pow_pos (by omega);have h2:2 ^ i=4294967296 ^ (i / 32)*2 ^ (i % 32):=by
  rw[AdH,←Ayb]
  congr 1
  omega
 have hr:i % 32<=31:=by omega
 rw[h2,←AyE,hv,Ax8 _ _ hP,AxU hlo,Awt];generalize a[i / 32]=y;generalize Ag (a.drop (i / 32+1))=z;generalize i % 32=r at *;have hp:=Nat.two_pow_pos r;have e3:y+4294967296*z=y+2 ^ r*(2*(2 ^ (31-r)*z)):=by
  rw[←Aw3 2,←Aw3,←Nat.pow_succ',←Ayb,show r+(31-r).succ=32 by omega]
 rw[e3,Ax8 _ _ hp,Nat.add_mul_mod_self_left]
theorem Abj{a:Af}(ha:Limbs a){i:Nat}(h:32*a.length<=i):Ag a / 2 ^ i=0:=by
 refine AxU (AwZ (BM ha) ?_);rw[AdH];exact Axi (by omega) h
theorem AbA{M N b c:Nat}(hN:N=2*M+c)(hc:c<=1)(hb:0<b):(b<=2*(M % b)+c->N / b=2*(M / b)+1/\N % b=2*(M % b)+c-b)/\(¬ b<=2*(M % b)+c->N / b=2*(M / b)/\N % b=2*(M % b)+c):=by
 have hd:=Nat.div_add_mod M b;have hm:=AwU M hb;generalize M / b=Q at *;generalize M % b=R at *;have e:N=b*(2*Q)+(2*R+c):=by
  grind
 refine⟨λh=>?_,λh=>?_⟩
 .have e2:N=b*(2*Q+1)+(2*R+c-b):=by
   grind
  rw[e2,AzG hb,AzH,AxU (by omega),Aw8 (by omega)];exact⟨rfl,rfl⟩
 .grind [AxU,Aw8,AzG,AzH]
section
variable {D:Orc} (Kn:Knows Au Lr D) (K:Knows Au Vi D)
include K
theorem Afu:∀(k x t:Nat),x<2 ^ k->k<=32->t+k<4611686018427387000->∃ L:Nat,D.ask (.lp 207 0) [iv (t:Int),.v (.int .u32 (x:Int))] []=Θ (.tup [iv 0,iv ((t+L:Nat):Int)],[])/\x<2 ^ L/\L<=k:=by
 intro k
 induction k with
 |zero=>
  intro x t h _ ht;obtain rfl:x=0:=by simpa using h
  refine⟨0,?_,by simp,π _⟩;refine AE K OJ (V4 ..) ?_;exact Da (by omega)
 |succ k ih=>
  intro x t h hk ht
  by_cases h0:x=0
  .subst h0
   refine⟨0,?_,by simp,Awz _⟩;refine AE K OJ (V4 ..) ?_;exact Da (by omega)
  .obtain⟨L,g,h1,h2⟩:=ih (x / 2) (t+1) (by rw[Aw6]at h;omega) (by omega) (by omega)
   have hx:x<4294967296:=AwZ h (Axi (n:=2) (by omega) hk);refine⟨L+1,?_,by rw[Aw6];omega,by omega⟩;refine AE K OJ (V4 ..) ?_;refine AB ?_;refine Ay ?_ (by decide);rw[BU (by omega),Ar3 hx];refine Aa g ?_;rw[show t+1+L=t+(L+1) by omega];rfl
theorem Ann(i:Nat):∀(k x t:Nat),k+t=i % 32->x<4294967296->D.ask (.lp 209 0) [iv (i:Int),.v (.int .u32 (x:Int)),iv (t:Int)] []=Θ (.tup [iv 0,.v (.int .u32 ((x / 2 ^ k:Nat):Int))],[]):=by
 intro k
 induction k with
 |zero=>
  intro x t h hx;refine AE K Up (Ab0 ..) ?_;refine Ay ?_ (by decide);rw[m_i];refine AA ?_;rw[AzW,AzZ]
 |succ k ih=>
  intro x t h hx;refine AE K Up (Ab0 ..) ?_;refine Ay ?_ (by decide);rw[m_i];refine AB ?_;refine Ay ?_ (by decide);rw[Ar3 hx,BU (by omega)];refine Aa (ih (x / 2) (t+1) (by omega) (by omega)) ?_;rw[AyE,show 2*2 ^ k=2 ^ (k+1) by rw[Aw6,Aw2]];rfl
theorem Ano{a:Af}(ha:Limbs a)(hs:B5 a){i:Nat}(hi:i<4611686018427387904):D.ask (.fn 209) [eN a,iv (i:Int)] []=Θ (bv (decide (Ag a / 2 ^ i % 2=1)),[]):=by
 unfold B5 at hs;refine AC K Up (AtQ ..) ?_;refine AA ?_;rw[Al,x_i (by omega)]
 by_cases h:32*a.length<=i
 .rw[Abj ha h]
  exact RR (by omega)
 .have hj:i / 32<a.length:=by omega
  refine CN ?_;refine Ay ?_ (by decide);rw[q_i hi,AI,Az (ξ hj)];simp only[eL,FR,Aj];refine Aa (Ann K i (i % 32) a[i / 32] 0 (by omega) (ha.get hj)) ?_;simp only[FR,Aj];refine Ay ?_ (by decide);rw[At8,Anm ha hj]
  by_cases h1:a[i / 32] / 2 ^ (i % 32) % 2=1
  .rw[BT h1]
   exact DP (by omega)
  .rw[BX h1]
   exact EI (by omega)
include Kn
theorem Afv{a:Af}(ha:Limbs a)(hs:B5 a):∃ B:Nat,D.ask (.fn 207) [eN a] []=Θ (iv (B:Int),[])/\Ag a<2 ^ B/\B<=32*a.length:=by
 have hl:=C2 a ha;have htl:=Cx a;unfold B5 at hs
 by_cases h0:Ag a=0
 .refine⟨0,?_,by rw[h0];decide,Awz _⟩
  refine AC K OJ (Ap8 ..) ?_;refine Aa (C3 Kn (by unfold B5;omega) ha) ?_;rw[h0,CJ];simp only[eN,Aj];exact DP (by decide)
 .have hne:0<(Aq (Ag a)).length:=by
   rw[DX h0];exact Azm _
  have hk:(Aq (Ag a)).length-1<(Aq (Ag a)).length:=by omega
  obtain⟨L,g,h1,h2⟩:=Afu K 32 ((Aq (Ag a))[(Aq (Ag a)).length-1]) (32*((Aq (Ag a)).length-1)) ((Av _).get hk) (π _) (by omega);refine⟨32*((Aq (Ag a)).length-1)+L,?_,?_,by omega⟩
  .refine AC K OJ (Ap8 ..) ?_
   refine Aa (C3 Kn (by unfold B5;omega) ha) ?_;simp only[eN,Al,Aj];refine Ay ?_;rw[show Ap.sub .i64 ((Aq (Ag a)).length:Int) 1=(((Aq (Ag a)).length-1:Nat):Int) from Np (j:=1) (by omega) (by omega),AI,Az (ξ hk),x_i (by omega)];simp only[eL,FR,Aj];refine Aa g ?_;simp only[Aj]
  .have hlast:(Aq (Ag a))=(Aq (Ag a)).take ((Aq (Ag a)).length-1)++[(Aq (Ag a))[(Aq (Ag a)).length-1]]:=by
    rw[←AwK hk,Aw5 (by omega)]
   have hv:=congrArg Ag hlast;rw[AF,BV,Awo,Aw4 (by omega)]at hv;have hlo:=BM ((Av (Ag a)).take ((Aq (Ag a)).length-1));rw[Awo,Aw4 (by omega)]at hlo;simp only[Ag,Ayt,Aw1]at hv;rw[Ayb,←AdH];have:=Nat.mul_le_mul_left (4294967296 ^ ((Aq (Ag a)).length-1)) h1;rw[Nat.mul_succ]at this;omega
theorem Vw{l:Af}(hl:Limbs l)(hs:l.length<=999999990)(c:Bool):D.ask (.fn 208) [eN l,bv c] []=Θ (eN (Aq (2*Ag l+(if c then 1 else 0))),[]):=by
 have hlen:(Aq (Ag l*2)).length<=l.length+1:=by
  refine Bu ?_;have:=BM hl;rw[Aw6];omega
 refine AC K AlT (AtP ..) ?_;refine Aa (Rf Kn hl (by omega) 2 (by omega)) ?_;simp only[eN,Aj]
 cases c with
 |true=>
  refine Ah ?_;have g:=K9 Kn (a:=Aq (Ag l*2)) (b:=[1]) (by omega) (Av _) (by simp) (Bv (by omega) BY);rw[AF]at g;refine Aa g ?_;simp only[eN,Aj];rw[show Ag [1]=1 from rfl,Aw2];rfl
 |false=>
  refine BR ?_;rw[Aw2];rfl
theorem Ake{a b:Af}(ha:Limbs a)(hal:a.length<=999999980)(hb:Limbs b)(hbl:b.length<=999999980)(h0:0<Ag b):∀ k:Nat,k<=32*a.length->
  D.ask (.lp 151 0) [eN a,eN b,eN (Aq (Ag a / 2 ^ k / Ag b)),eN (Aq (Ag a / 2 ^ k % Ag b)),iv ((k:Int)-1)] []=Θ (.tup [iv 0,eN (Aq (Ag a / Ag b)),eN (Aq (Ag a % Ag b))],[]):=by
 intro k
 induction k with
 |zero=>
  intro _;refine AE K Ue (AbN ..) ?_;rw[AzW,AzZ];exact N7 (by omega)
 |succ k ih=>
  intro hk;have ih:=ih (by omega);have hbit:=Ano K ha (by unfold B5;omega) (i:=k) (by omega);obtain⟨c,hc⟩:∃ c,c=decide (Ag a / 2 ^ k % 2=1):=⟨_,rfl⟩;obtain⟨M,hM⟩:∃ M,M=Ag a / 2 ^ (k+1):=⟨_,rfl⟩;have hMN:Ag a / 2 ^ k=2*M+(if c=Δ then 1 else 0):=by
   rw[hM,Aw6,←AyE,hc];generalize Ag a / 2 ^ k=N
   by_cases h:N % 2=1
   .rw[BT h,Ac rfl];omega
   .rw[BX h,Ad (by decide)];omega
  have hMa:M<=Ag a:=by rw[hM];exact Ay8 ..
  have hav:=BM ha;have hbv:=BM hb;rw[←hc]at hbit;rw[←hM];obtain⟨d1,d2⟩:=AbA (b:=Ag b) hMN (by split<;>omega) h0;have hm:=AwU M h0;have hq:=Ay8 M (Ag b);have lr:(Aq (M % Ag b)).length<=b.length:=Bu (by omega);have lq:(Aq (M / Ag b)).length<=a.length:=Bu (by omega);have hcs:(if c=Δ then 1 else 0)<=1:=by split<;>omega
  have lr2:(Aq (2*(M % Ag b)+(if c=Δ then 1 else 0))).length<=b.length+1:=Bu (by rw[Aw6];omega);have t1:=Vw Kn K (Av (M % Ag b)) (by omega) c;have t2:=λx=>Vw Kn K (Av (M / Ag b)) (by omega) x
  have s1:=SO Kn (a:=Aq (2*(M % Ag b)+(if c=Δ then 1 else 0))) (b:=b) (by unfold B5;omega) (Av _) (by unfold B5;omega) hb;rw[AF]at t1 s1;simp only[AF]at t2;unfold MF at s1;generalize hR:2*(M % Ag b)+(if c=Δ then 1 else 0)=R at *;have hsub:Ap.sub .i64 (k:Int) 1=(k:Int)-1:=DZ (by omega) (by omega);refine AE K Ue (AbN ..) ?_;rw[show (((k+1:Nat):Int)-1)=(k:Int) by omega];refine Cs ?_;refine Aa hbit ?_;simp only[Aj];have t2t:D.ask (.fn 208) [eN (Aq (M / Ag b)),bv Δ] []=Θ (eN (Aq (2*(M / Ag b)+1)),[]):=t2 Δ;have t2f:D.ask (.fn 208) [eN (Aq (M / Ag b)),bv Φ] []=Θ (eN (Aq (2*(M / Ag b))),[]):=t2 Φ;clear t2
  cases c
  all_goals
   first
    |refine BR ?_
    |refine Ah ?_
   refine Aa t1 ?_;simp only[eN,Aj];refine Aa s1 ?_
   by_cases h:Ag b<=R
   .rw[Ac h,hsub]
    rw[(d1 h).1,(d1 h).2]at ih;simp only[eN,CC,B6,BG,Br,AZ,DK];refine Ah ?_;refine Aa t2t ?_;simp only[eN,Aj];refine Aa ih ?_;rfl
   .rw[Ad h,hsub]
    rw[(d2 h).1,(d2 h).2]at ih;simp only[eN,CC,B6,BG,Br,AZ,DK];refine BR ?_;refine Aa t2f ?_;simp only[eN,Aj];refine Aa ih ?_;rfl
theorem YI{a b:Af}(ha:Limbs a)(hal:a.length<=999999980)(hb:Limbs b)(hbl:b.length<=999999980):D.ask (.fn 151) [eN a,eN b] []
  = Θ (if Ag b=0 then .tup [.ls [],.ls [],iv 10] else .tup [eN (Aq (Ag a / Ag b)),eN (Aq (Ag a % Ag b)),iv 0],[]):=by
 refine AC K Ue (Atj ..) ?_;refine Aa (C3 Kn (by unfold B5;omega) hb) ?_;simp only[eN,Al,Aj]
 by_cases h0:Ag b=0
 .rw[Ac h0,h0,CJ]
  exact DP (by decide)
 .have hne:0<(Aq (Ag b)).length:=by
   rw[DX h0];exact Azm _
  rw[Ad h0];refine Ay ?_;obtain⟨B,g,h1,h2⟩:=Afv Kn K ha (by unfold B5;omega);have hlp:=Ake Kn K ha hal hb hbl (by omega) B h2;rw[AxU h1,AzX,Nat.zero_mod,CJ]at hlp;refine Aa g ?_;simp only[Aj];rw[show Ap.sub .i64 (B:Int) 1=(B:Int)-1 from DZ (by omega) (by omega)];refine Aa hlp ?_;simp only[eN,Aj];have hq:=Ay8 (Ag a) (Ag b);have hm:=AwU (Ag a) (show 0<Ag b by omega);have hav:=BM ha;have hbv:=BM hb;have lr:(Aq (Ag a % Ag b)).length<=b.length:=Bu (by omega);have lq:(Aq (Ag a / Ag b)).length<=a.length:=Bu (by omega);have gq:=C3 Kn (l:=Aq (Ag a / Ag b)) (by unfold B5;omega) (Av _);have gr:=C3 Kn (l:=Aq (Ag a % Ag b)) (by unfold B5;omega) (Av _);rw[AF]at gq gr;refine Aa gq ?_;simp only[eN,Aj];refine Aa gr ?_;simp only[eN,Aj]
theorem Akk:∀(n a b:Nat),b<=n->(Aq a).length<=999999980->(Aq b).length<=999999980->D.ask (.lp 206 0) [eN (Aq a),eN (Aq b)] []=Θ (.tup [iv 0,eN (Aq (AxG a b))],[]):=by
 intro n
 induction n with
 |zero=>
  intro a b hb _ _;obtain rfl:b=0:=by omega
  refine AE K QK (V3 ..) ?_;rw[CJ,Ays];exact Da (by decide)
 |succ n ih=>
  intro a b hb hal hbl
  by_cases h0:b=0
  .subst h0
   refine AE K QK (V3 ..) ?_;rw[CJ,Ays];exact Da (by decide)
  .have hne:0<(Aq b).length:=by
    rw[DX h0];exact Azm _
   have hm:=AwU a (show 0<b by omega);have lr:(Aq (a % b)).length<=(Aq b).length:=Bu (by
    have:=BM (Av b);rw[AF]at this;omega)
   have g:=YI Kn K (Av a) hal (Av b) hbl;rw[AF,AF,Ad h0]at g;refine AE K QK (V3 ..) ?_;rw[Al];refine AB ?_;refine Aa g ?_;simp only[eN,Aj];refine Aa (ih b (a % b) (by omega) hbl (by omega)) ?_;rw[Ay3 b,←Az0,Ay3];rfl
theorem Aj7{a b:Af}(ha:Limbs a)(hal:a.length<=999999980)(hb:Limbs b)(hbl:b.length<=999999980):D.ask (.fn 206) [eN a,eN b] []=Θ (eN (Aq (AxG (Ag a) (Ag b))),[]):=by
 have la:(Aq (Ag a)).length<=999999980:=by rw[C2 a ha];have:=Cx a;omega
 have lb:(Aq (Ag b)).length<=999999980:=by rw[C2 b hb];have:=Cx b;omega
 refine AC K QK (AtO ..) ?_;refine Aa (C3 Kn (by unfold B5;omega) ha) ?_;simp only[eN,Aj];refine Aa (C3 Kn (by unfold B5;omega) hb) ?_;simp only[eN,Aj];refine Aa (Akk Kn K _ _ _ (π _) la lb) ?_;simp only[eN,Aj]
end
section
open Go.RowKit
def ArF:MFn:=AN [] 71
def AqP:Hnt:=⟨[(56,(.agg AL,[])),(69,(.int .i64,[])),(122,(.agg AL,[])),(123,(.agg AL,[])),(124,(.agg AL,[])),(128,(.agg AL,[])),(151,(.tup Aku,[]))],[],[(14,[.ls]),(16,[.ls]),(26,AL),(28,AL),(34,AL),(35,AL),(36,AL),(39,AL),(41,AL),(45,AL),(48,AL),(49,AL),(51,AL),(52,AL)]⟩
def Amr:MFn:=AN [] 150
def AlC:Hnt:=⟨[(128,(.agg AL,[])),(206,(.ls,[]))],[],[(6,[.ls]),(8,[.ls])]⟩
def Y1:List (Nat × MFn):=[(71,ArF),(150,Amr)]
variable (A:Ar) (D:Orc)
theorem e71(x0_0:Bool)(x0_1:Rw)(x1_0:Bool)(x1_1:Rw):B3 A D Au AqP .n 71 ArF [δ [bv x0_0,Ψ x0_1],δ [bv x1_0,Ψ x1_1]] [] =
 Ai D (φ 151) [Ψ x0_1,Ψ x1_1] [] [.t,.L,.L,.I,.N,.E] λxs _ n=>
 br (A.eq n 0)
 (Ai D (φ 69) [δ [bv x0_0,Ψ x0_1]] [] [.i,.E] λn1=>
 Ai D (φ 69) [δ [bv x1_0,Ψ x1_1]] [] [.i,.E] λn2=>
 br (A.lt (A.mul ω n1 n2) 0)
 (Ai D (φ 128) [bv Δ,Ψ xs] [] [.a,.B,.L,.N,.E] λb xs2=>
 Ai D (φ 123) [δ [bv b,Ψ xs2],δ [bv x1_0,Ψ x1_1]] [] [.a,.B,.L,.N,.E] λb1 xs3=>
 Ai D (φ 124) [δ [bv x0_0,Ψ x0_1],δ [bv b1,Ψ xs3]] [] [.a,.B,.L,.N,.E] λb2 xs4=>
 Ai D (φ 69) [δ [bv b2,Ψ xs4]] [] [.i,.E] λn3=>
 Ai D (φ 69) [δ [bv x1_0,Ψ x1_1]] [] [.i,.E] λn4=>
 br (A.lt (A.mul ω n3 n4) 0)
 (Ai D (φ 56) [iv 1] [] [.a,.B,.L,.N,.E] λb3 xs5=>
 Ai D (φ 124) [δ [bv b,Ψ xs2],δ [bv b3,Ψ xs5]] [] [.a,.B,.L,.N,.E] λb4 xs6=>
 Ai D (φ 122) [δ [bv b2,Ψ xs4],δ [bv x1_0,Ψ x1_1]] [] [.a,.B,.L,.N,.E] λb5 xs7=>
 Θ ((Awe [δ [bv b4,Ψ xs6],δ [bv b5,Ψ xs7],iv 0],[])))
 (Θ ((Awe [δ [bv b,Ψ xs2],δ [bv b2,Ψ xs4],iv 0],[]))))
 (Ai D (φ 128) [bv Φ,Ψ xs] [] [.a,.B,.L,.N,.E] λb xs2=>
 Ai D (φ 123) [δ [bv b,Ψ xs2],δ [bv x1_0,Ψ x1_1]] [] [.a,.B,.L,.N,.E] λb1 xs3=>
 Ai D (φ 124) [δ [bv x0_0,Ψ x0_1],δ [bv b1,Ψ xs3]] [] [.a,.B,.L,.N,.E] λb2 xs4=>
 Ai D (φ 69) [δ [bv b2,Ψ xs4]] [] [.i,.E] λn3=>
 Ai D (φ 69) [δ [bv x1_0,Ψ x1_1]] [] [.i,.E] λn4=>
 br (A.lt (A.mul ω n3 n4) 0)
 (Ai D (φ 56) [iv 1] [] [.a,.B,.L,.N,.E] λb3 xs5=>
 Ai D (φ 124) [δ [bv b,Ψ xs2],δ [bv b3,Ψ xs5]] [] [.a,.B,.L,.N,.E] λb4 xs6=>
 Ai D (φ 122) [δ [bv b2,Ψ xs4],δ [bv x1_0,Ψ x1_1]] [] [.a,.B,.L,.N,.E] λb5 xs7=>
 Θ ((Awe [δ [bv b4,Ψ xs6],δ [bv b5,Ψ xs7],iv 0],[])))
 (Θ ((Awe [δ [bv b,Ψ xs2],δ [bv b2,Ψ xs4],iv 0],[])))))
 (Θ ((Awe [δ [bv Φ,Ψ []],δ [bv Φ,Ψ []],iv n],[]))):=by kernel_rfl
theorem Ati(x0_0:Bool)(x0_1:Rw)(x1_0:Bool)(x1_1:Rw):B3 A D Au AlC .n 150 Amr [δ [bv x0_0,Ψ x0_1],δ [bv x1_0,Ψ x1_1]] [] =
 Ai D (φ 206) [Ψ x0_1,Ψ x1_1] [] [.l,.E] λxs=>
 Ai D (φ 128) [bv Φ,Ψ xs] [] [.a,.B,.L,.N,.E] λb xs1=>
 Θ ((δ [bv b,Ψ xs1],[])):=by kernel_rfl
end
theorem U9(x y:Int):Cb x*Cb y<0 ↔ (x<0/\0<y)\/(0<x/\y<0):=by
 unfold Cb
 by_cases h1:x<0
 .rw[Ac h1]
  by_cases h2:y<0
  .rw[Ac h2];omega
  .rw[Ad h2]
   by_cases h3:0<y
   .rw[Ac h3];omega
   .rw[Ad h3];omega
 .rw[Ad h1]
  by_cases h4:0<x
  .rw[Ac h4]
   by_cases h2:y<0
   .rw[Ac h2];omega
   .rw[Ad h2]
    by_cases h3:0<y
    .rw[Ac h3];omega
    .rw[Ad h3];omega
  .rw[Ad h4,Azi];omega
theorem WP(x y:Int):Ap.mul .i64 (Cb x) (Cb y)=Cb x*Cb y:=by
 show IntKind.i64.wrap (Cb x*Cb y)=_
 have h:-1<=Cb x*Cb y/\Cb x*Cb y<=1:=by
  unfold Cb;split<;>split<;>(try split)<;>(try split)<;>decide
 rw[IntKind.wrap_i64];omega
theorem AmP(b:Bool):CY b 0=0:=by unfold CY;cases b<;>rfl
theorem Ar2{x y:Int}(hy:y≠0):CY (decide (Cb x*Cb y<0)) (uN x y)=CY (dS x y) (uN x y):=by
 by_cases hx:x=0
 .rw[show uN x y=0 by unfold uN;rw[hx];exact AzX _,AmP,AmP]
 .congr 1
  unfold dS;have:=U9 x y
  by_cases h1:x<0
  .rw[BT h1]
   by_cases h2:y<0
   .rw[BT h2,BX (by omega)];rfl
   .rw[BX h2,BT (by omega)];rfl
  .rw[BX h1]
   by_cases h2:y<0
   .rw[BT h2,BT (by omega)];rfl
   .rw[BX h2,BX (by omega)];rfl
theorem Ar4(x y:Int):x-CY (dS x y) (uN x y)*y=CY (decide (x<0)) (vN x y):=by
 have:=Vv x y;omega
theorem ApW{x y:Int}(hy:y≠0):Cb (CY (decide (x<0)) (vN x y))*Cb y<0 ↔ dS x y=Δ/\0<vN x y:=by
 rw[U9];unfold CY dS;generalize vN x y=v
 by_cases h1:x<0
 .rw[BT h1,Ac rfl]
  by_cases h2:y<0
  .rw[BT h2];simp;omega
  .rw[BX h2];simp;omega
 .rw[BX h1,Ad (by simp)]
  by_cases h2:y<0
  .rw[BT h2];simp;omega
  .rw[BX h2];simp;omega
section
variable {D:Orc} (Kn:Knows Au Lr D) (R:Knows Au Rr D) (Km:Knows Au Vi D) (G:Knows Au Y1 D)
include Kn R Km G
theorem Aef{a b:Zi}(ha:Lz 300000000 a)(hb:Lz 300000000 b):D.ask (.fn 71) [.agg (eZ a),.agg (eZ b)] []
  = Θ (if zv b=0 then .tup [.agg [bv Φ,.ls []],.agg [bv Φ,.ls []],iv 10] else .tup [.agg (eZ (AQ (qZ (zv a) (zv b)))),.agg (eZ (AQ (rZ (zv a) (zv b)))),iv 0],[]):=by
 have hia:=ha.inb;have hib:=hb.inb;have gd:=YI Kn Km ha.lim (by have:=ha.len;omega) hb.lim (by have:=hb.len;omega);have gsa:=DB Kn R (ha.mono (show 300000000<=1000000000 by omega));have gsb:=DB Kn R (hb.mono (show 300000000<=1000000000 by omega));refine AC G AqP (e71 ..) ?_;refine Aa gd ?_;rw[←Fp,←Fp,show (zv a).natAbs / (zv b).natAbs=uN (zv a) (zv b) from rfl]
 by_cases h0:zv b=0
 .rw[Ac h0,Ac (by rw[h0];rfl)]
  simp only[Aj];exact EI (by decide)
 .rw[Ad h0,Ad (by omega)]
  simp only[eN,Aj];refine AG ?_ (by decide);refine Aa gsa ?_;simp only[Aj];refine Aa gsb ?_;simp only[Aj];have hu:=XY hia (zv b);have hv:=MP hib h0 (zv a);have fu:=λs=>DA Kn R s (Av (uN (zv a) (zv b))) (by unfold B5;have:=(hu Δ).lz.len;rw[Ly]at this;dsimp only at this;omega)
  simp only[AF]at fu;have gm:=U6 Kn R (a:=AQ (CY (dS (zv a) (zv b)) (uN (zv a) (zv b)))) (b:=b) (k:=400000000) (m:=400000000) (π _) (π _) ((hu _).lz.mono (by omega)) (hb.mono (by omega));have gs:=Pw Kn R (k:=900000000) (π _) (a:=a) (b:=AQ (CY (dS (zv a) (zv b)) (uN (zv a) (zv b))*zv b)) (ha.mono (by omega)) (((hu _).mul hib).lz.mono (by omega));rw[Bm]at gm gs;rw[Ar4]at gs;have gt:=DB Kn R (z:=AQ (CY (decide (zv a<0)) (vN (zv a) (zv b)))) ((hv _).lz.mono (by omega));rw[Bm]at gt;have g1:=AdL Kn R 1 (by decide) (by decide);have g2:=Pw Kn R (k:=900000000) (π _) (a:=AQ (CY (dS (zv a) (zv b)) (uN (zv a) (zv b)))) (b:=AQ 1) ((hu _).lz.mono (by omega)) ((InB.one (k:=1) (by omega)).lz.mono (by omega));have g3:=Pv Kn R (k:=900000000) (π _) (a:=AQ (CY (decide (zv a<0)) (vN (zv a) (zv b)))) (b:=b) ((hv _).lz.mono (by omega)) (hb.mono (by omega));rw[Bm,Bm]at g2;rw[Bm]at g3;have hc:=ApW (x:=zv a) h0;have hq:=Ar2 (x:=zv a) h0;have rest:∀ s:Bool,CY s (uN (zv a) (zv b))=CY (dS (zv a) (zv b)) (uN (zv a) (zv b))->D.ask (.fn 128) [bv s,eN (Aq (uN (zv a) (zv b)))] []=Θ (.agg (eZ (AQ (CY (dS (zv a) (zv b)) (uN (zv a) (zv b))))),[]):=λs h=>by rw[fu s,h]
  rw[WP];unfold qZ rZ
  by_cases hs:Cb (zv a)*Cb (zv b)<0
  .refine AB ?_ hs
   refine Aa (rest Δ (by rw[←hq,BT hs])) ?_;simp only[eZ,eN,Bz,BG,B6,Br,AZ,DK];refine Aa gm ?_;simp only[eZ,eN,Bz,BG,B6,Br,AZ,DK];refine Aa gs ?_;simp only[eZ,eN,Bz,BG,B6,Br,AZ,DK];refine Aa gt ?_;simp only[Dj,AZ,DK];refine Aa gsb ?_;simp only[Dj,AZ,DK];rw[WP]
   by_cases hb2:dS (zv a) (zv b)=Δ/\0<vN (zv a) (zv b)
   .rw[Ac hb2,Ac hb2]
    refine AB ?_ (hc.2 hb2);refine Aa g1 ?_;simp only[eZ,eN,Bz,BG,B6,Br,AZ,DK];refine Aa g2 ?_;simp only[eZ,eN,Bz,BG,B6,Br,AZ,DK];refine Aa g3 ?_;simp only[eZ,eN,Bz,BG,B6,Br,AZ,DK];rw[hb2.1]
   .rw[Ad hb2,Ad hb2]
    exact Da (λh=>hb2 (hc.1 h))
  .refine AA ?_ hs
   refine Aa (rest Φ (by rw[←hq,BX hs])) ?_;simp only[eZ,eN,Bz,BG,B6,Br,AZ,DK];refine Aa gm ?_;simp only[eZ,eN,Bz,BG,B6,Br,AZ,DK];refine Aa gs ?_;simp only[eZ,eN,Bz,BG,B6,Br,AZ,DK];refine Aa gt ?_;simp only[Dj,AZ,DK];refine Aa gsb ?_;simp only[Dj,AZ,DK];rw[WP]
   by_cases hb2:dS (zv a) (zv b)=Δ/\0<vN (zv a) (zv b)
   .rw[Ac hb2,Ac hb2]
    refine AB ?_ (hc.2 hb2);refine Aa g1 ?_;simp only[eZ,eN,Bz,BG,B6,Br,AZ,DK];refine Aa g2 ?_;simp only[eZ,eN,Bz,BG,B6,Br,AZ,DK];refine Aa g3 ?_;simp only[eZ,eN,Bz,BG,B6,Br,AZ,DK];rw[hb2.1]
   .rw[Ad hb2,Ad hb2]
    exact Da (λh=>hb2 (hc.1 h))
theorem Aeg{a b:Zi}(ha:Lz 900000000 a)(hb:Lz 900000000 b):D.ask (.fn 150) [.agg (eZ a),.agg (eZ b)] []=Θ (.agg (eZ (AQ (AxG (zv a).natAbs (zv b).natAbs:Nat))),[]):=by
 have la:=ha.len;have lb:=hb.len;rw[Fp,Fp];have hlen:(Aq (AxG (Ag a.abs) (Ag b.abs))).length<=900000000:=by
  rcases Axk (Ag a.abs) with h|h
  .rw[h,Azr]
   exact Awy (Bu (BM hb.lim)) lb
  .refine Awy (Bu (k:=a.abs.length) ?_) la
   have:=AzE (Ag b.abs) h;have:=BM ha.lim;omega
 have g:=DA Kn R Φ (Av (AxG (Ag a.abs) (Ag b.abs))) (by unfold B5;omega);rw[AF,show CY Φ (AxG (Ag a.abs) (Ag b.abs))=((AxG (Ag a.abs) (Ag b.abs):Nat):Int) from rfl]at g;refine AC G AlC (Ati ..) ?_;refine Aa (Aj7 Kn Km ha.lim (by omega) hb.lim (by omega)) ?_;simp only[eN,Aj];refine Aa g ?_;simp only[eZ,eN,Aj]
end
structure DivF (D:Orc):Prop where
 div:∀ a b:Af,Limbs a->a.length<=999999990->Limbs b->b.length<=999999990->D.ask (.fn 144) [eN a,eN b] []
  = Θ (if Ag b=0 then .tup [.ls [],.ls [],iv 10] else .tup [eN (Aq (Ag a / Ag b)),eN (Aq (Ag a % Ag b)),iv 0],[])
section
variable {D:Orc} (K:Knows Au Jy D) (Z:Knows Au M3 D) (C:CloneF D) (G:Knows Au Rn D) (V:DivF D)
include G V
theorem AnT:∀(n a b:Nat),b<=n->(Aq a).length<=999999980->(Aq b).length<=999999980->D.ask (.lp 205 0) [eN (Aq a),eN (Aq b)] []=Θ (.tup [iv 0,eN (Aq (AxG a b))],[]):=by
 intro n
 induction n with
 |zero=>
  intro a b hb _ _;obtain rfl:b=0:=by omega
  refine AE G QJ (V1 ..) ?_;rw[CJ,Ays];exact Da (by decide)
 |succ n ih=>
  intro a b hb hal hbl
  by_cases h0:b=0
  .subst h0
   refine AE G QJ (V1 ..) ?_;rw[CJ,Ays];exact Da (by decide)
  .have hne:0<(Aq b).length:=DE.2 (by omega)
   have hm:=AwU a (show 0<b by omega);have lr:(Aq (a % b)).length<=(Aq b).length:=Bu (by
    have:=BM (Av b);rw[AF]at this;omega)
   have g:=V.div _ _ (Av a) (by omega) (Av b) (by omega);rw[AF,AF,Ad h0]at g;refine AE G QJ (V1 ..) ?_;rw[Al];refine AB ?_;refine Aa g ?_;simp only[eN,Aj];refine Aa (ih b (a % b) (by omega) hbl (by omega)) ?_;rw[Ay3 b,←Az0,Ay3];rfl
include K C
theorem Am1{a b:Af}(ha:Limbs a)(hal:a.length<=999999980)(hb:Limbs b)(hbl:b.length<=999999980):D.ask (.fn 205) [eN a,eN b] []=Θ (eN (Aq (AxG (Ag a) (Ag b))),[]):=by
 have la:(Aq (Ag a)).length<=999999980:=by rw[C2 a ha];have:=Cx a;omega
 have lb:(Aq (Ag b)).length<=999999980:=by rw[C2 b hb];have:=Cx b;omega
 refine AC G QJ (AtN ..) ?_;refine Aa (FV K C (by unfold B5;omega) ha) ?_;simp only[eN,Aj];refine Aa (FV K C (by unfold B5;omega) hb) ?_;simp only[eN,Aj];refine Aa (AnT G V _ _ _ (π _) la lb) ?_;simp only[eN,Aj]
include Z
omit V in
theorem AkU{a b:Zi}(ha:Lz 900000000 a)(hb:Lz 900000000 b):D.ask (.fn 146) [.agg (eZ a),.agg (eZ b)] []=Θ (.agg (eZ (AQ (zv a-zv b))),[]):=by
 have g:=To K Z C (π _) ha (hb.inb.neg.lz);rw[Bm,←AyO]at g;refine AC G AlA (Ate ..) ?_;refine Aa (Y5 K Z C (hb.mono (by omega))) ?_;simp only[eZ,eN,Aj];refine Aa g ?_;simp only[eZ,eN,Aj]
theorem Y4{a b:Zi}(ha:Lz 800000000 a)(hb:Lz 800000000 b):D.ask (.fn 66) [.agg (eZ a),.agg (eZ b)] []
  = Θ (if zv b=0 then .tup [.agg [bv Φ,.ls []],.agg [bv Φ,.ls []],iv 10] else .tup [.agg (eZ (AQ (qZ (zv a) (zv b)))),.agg (eZ (AQ (rZ (zv a) (zv b)))),iv 0],[]):=by
 have hia:=ha.inb;have hib:=hb.inb;have la:=hia.lz;have lb:=hib.lz;have gd:=V.div _ _ la.lim (by have:=la.len;omega) lb.lim (by have:=lb.len;omega);rw[show (AQ (zv a)).abs=Aq (zv a).natAbs from rfl,show (AQ (zv b)).abs=Aq (zv b).natAbs from rfl,AF,AF]at gd;refine AC G AqM (e66 ..) ?_;refine Aa (Oc K Z C (ha.mono (by omega))) ?_;simp only[eZ,eN,Aj];refine Aa (Oc K Z C (hb.mono (by omega))) ?_;simp only[eZ,eN,Aj];rw[show (AQ (zv a)).neg=decide (zv a<0) from rfl,show (AQ (zv b)).neg=decide (zv b<0) from rfl];generalize zv a=x at *;generalize zv b=y at *;refine Aa gd ?_
 by_cases h0:y=0
 .rw[Ac h0,Ac (by rw[h0];rfl)]
  simp only[Aj];exact EI (by decide)
 .rw[Ad h0,Ad (by omega)]
  simp only[eN,Aj];refine AG ?_ (by decide);have hu:=XY hia y;have hv:=MP hib h0 x;have fu:=λs=>EQ K Z C s (Av (uN x y)) (by unfold B5;have:=(hu Δ).lz.len;rw[Ly]at this;dsimp only at this;omega)
  have fv:=λs=>EQ K Z C s (Av (vN x y)) (by unfold B5;have:=(hv Δ).lz.len;rw[Ly]at this;dsimp only at this;omega)
  simp only[AF]at fu fv;rw[show x.natAbs / y.natAbs=uN x y from rfl,show x.natAbs % y.natAbs=vN x y from rfl,Al];rw[show Ap.not (Ap.beq (decide (x<0)) (decide (y<0)))=dS x y from rfl];unfold qZ rZ;have hlv:=@DE (vN x y)
  cases hs:dS x y with
  |true=>
   refine Ah ?_;refine Aa (fu Δ) ?_;simp only[eZ,eN,Bz,BG,B6,Br,AZ,DK];refine Aa (fv _) ?_;simp only[eZ,eN,Bz,BG,B6,Br,AZ,DK];refine Ah ?_
   by_cases hv0:0<vN x y
   .refine AB ?_ (by have:=hlv.2 hv0;omega)
    rw[Ac ⟨trivial,hv0⟩,Ac ⟨trivial,hv0⟩];have g1:=Ae8 K Z C 1 (by decide) (by decide);have g2:=AkU K Z C G (a:=AQ (CY Δ (uN x y))) (b:=AQ 1) ((hu Δ).lz.mono (by omega)) ((InB.one (k:=1) (by omega)).lz.mono (by omega));have g3:=To K Z C (π _) (a:=AQ (CY (decide (x<0)) (vN x y))) (b:=AQ y) ((hv _).lz.mono (by omega)) (lb.mono (by omega));rw[Bm,Bm]at g2 g3;refine Aa g1 ?_;simp only[eZ,eN,Bz,BG,B6,Br,AZ,DK];refine Aa g2 ?_;simp only[eZ,eN,Bz,BG,B6,Br,AZ,DK];refine Aa g3 ?_;simp only[eZ,eN,Bz,BG,B6,Br,AZ,DK]
   .refine AA ?_ (by intro h;exact hv0 (hlv.1 (by omega)))
    rw[Ad (λh=>hv0 h.2),Ad (λh=>hv0 h.2)]
  |false=>
   refine BR ?_;refine Aa (fu Φ) ?_;simp only[eZ,eN,Bz,BG,B6,Br,AZ,DK];refine Aa (fv _) ?_;simp only[eZ,eN,Bz,BG,B6,Br,AZ,DK];refine BR ?_;rw[Ad (λh=>by cases h.1),Ad (λh=>by cases h.1)]
theorem AaW{a b:Zi}(ha:Lz 800000000 a)(hb:Lz 800000000 b):D.ask (.fn 143) [.agg (eZ a),.agg (eZ b)] []
  = Θ (if zv b=0 then .tup [.agg [bv Φ,.ls []],iv 10] else if rZ (zv a) (zv b)=0 then .tup [.agg (eZ (AQ (qZ (zv a) (zv b)))),iv 0] else .tup [.agg [bv Φ,.ls []],iv 1],[]):=by
 have hia:=ha.inb;have hib:=hb.inb;refine AC G Aly (Atc ..) ?_;refine Aa (Y4 K Z C G V ha hb) ?_;generalize zv a=x at *;generalize zv b=y at *
 by_cases h0:y=0
 .rw[Ac h0,Ac h0]
  simp only[Aj];exact EI (by decide)
 .rw[Ad h0,Ad h0]
  have hr:InB 800000001 (rZ x y):=by
   unfold rZ;split
   .exact(MP hib h0 x _).add hib
   .exact(MP hib h0 x _).mono (by omega)
  have gs:=Lw K Z C (z:=AQ (rZ x y)) (hr.lz.mono (by omega));rw[Bm]at gs;simp only[eZ,eN,Aj];refine AG ?_ (by decide);refine Aa gs ?_;simp only[Aj]
  by_cases h1:rZ x y=0
  .rw[Ac h1,h1]
   exact DP (by decide)
  .rw[Ad h1]
   refine(EI ?_).trans ?_
   .unfold Cb
    split
    .omega
    .rw[Ac (by omega)];omega
   .rfl
theorem AkS{a b:Zi}(ha:Lz 900000000 a)(hb:Lz 900000000 b):D.ask (.fn 147) [.agg (eZ a),.agg (eZ b)] []=Θ (.agg (eZ (AQ (AxG (zv a).natAbs (zv b).natAbs:Nat))),[]):=by
 have hia:=ha.inb;have la:=ha.len;have lb:=hb.len;rw[Fp,Fp];have hlen:(Aq (AxG (Ag a.abs) (Ag b.abs))).length<=900000000:=by
  rcases Axk (Ag a.abs) with h|h
  .rw[h,Azr]
   exact Awy (Bu (BM hb.lim)) lb
  .refine Awy (Bu (k:=a.abs.length) ?_) la
   have:=AzE (Ag b.abs) h;have:=BM ha.lim;omega
 have g:=EQ K Z C Φ (Av (AxG (Ag a.abs) (Ag b.abs))) (by unfold B5;omega);rw[AF,show CY Φ (AxG (Ag a.abs) (Ag b.abs))=((AxG (Ag a.abs) (Ag b.abs):Nat):Int) from rfl]at g;refine AC G AlB (Atf ..) ?_;refine Aa (Am1 K C G V ha.lim (by omega) hb.lim (by omega)) ?_;simp only[eN,Aj];refine Aa g ?_;simp only[eZ,eN,Aj]
end
