/- Functions of the program -/
import Derived.Test.YtmbfbclboenajaaGreatFAW
set_option linter.all false
open Bool renaming false->Φ,true->Δ
open Int renaming eq_ofNat_of_zero_le->At1,mul_neg->At5,mul_zero->AtS,natAbs_neg->AsW,natCast_mul->As3,neg_mul->Atm,sub_eq_add_neg->AtH,tdiv->Atd,tmod->AuR,zero_mul->Aug
open List renaming append_assoc->AqY,append_nil->ArB,drop->AqT,drop_eq_getElem_cons->κ,drop_eq_nil_of_le->AqX,drop_zero->AqQ,getD_eq_getElem?_getD->AsN,getElem?_eq_getElem->ξ,getElem?_eq_none->ArZ,length_append->υ,length_cons->AqR,length_singleton->Ari,length_take->Aq9,nil_append->Aq4,replicate->AsH,tail_drop->AsI,take->ε,take_of_length_le->ArS,take_succ_eq_append_getElem->Arw
open Nat renaming add_mul_div_left->AsT,add_zero->ArG,ble->AqZ,div_div_eq_div_mul->Atp,div_eq_of_lt->AsB,div_le_self->At4,div_one->Au5,eq_zero_or_pos->Ar8,gcd->Asi,gcd_comm->AtY,gcd_le_left->AuG,gcd_rec->Au6,gcd_zero_left->Aut,gcd_zero_right->Ate,le_refl->π,le_trans->ArJ,lt_of_lt_of_le->ArL,min_eq_left->ArH,mod_eq_of_lt->ArT,mod_lt->ArF,mul_add->ArR,mul_add_div->AuI,mul_add_mod->AuJ,mul_assoc->Ark,mul_comm->Arz,mul_left_comm->Auu,mul_one->AsC,mul_zero->Atf,pow_add->AsV,pow_le_pow_right->Ar7,pow_succ->ArP,pow_zero->Au0,succ_pos->Aul,zero_add->Ara,zero_div->Au1,zero_le->ArC
open Option renaming none->Ξ,some->Θ
namespace Go.Proofs.YtmbfbclboenajaaGreat
noncomputable section
open ABlk renaming mk->θ
open AV renaming agg->φ,ls->Ψ,sl->χ,tup->γ,v->Aq0
open BO renaming set->AqV
open IntKind renaming i64->δ,u32->ζ,u64->Ω
open Key renaming fn->ω,lp->ι
section
open Go.RowKit
def Zu:MFn:=BI [⟨37,(mB 25),[(3,1)],[],[(1,((mB 8),([],[])))]⟩,⟨37,(mB 8),[(3,1)],[],[(3,((mB 8),([],[])))]⟩] 94
def T9:Hnt:=⟨[],[(0,[(1,([.sl 1 1],[.del,.row Δ]))]),(1,[(3,([.sl 1 1],[.del,.row Δ]))])],[(15,[.int .u32]),(16,[.int .u32]),(27,[.int .u32]),(28,[.int .u32])]⟩
def Ah5:MFn:=BI [] 105
def AhG:Hnt:=⟨[],[],[]⟩
def Ah6:MFn:=BI [] 106
def AhH:Hnt:=⟨[],[],[(15,[.int .u32]),(16,[.int .u32])]⟩
def XY:MFn:=BI [⟨28,(mB 35),[],[],[(0,((mB 16),([],[]))),(1,([],([],[])))]⟩] 141
def T4:Hnt:=⟨[(105,(.int .i64,[])),(106,(.int .u64,[]))],[(0,[(0,([.int .i64],[])),(1,([],[]))])],[]⟩
def Afx:MFn:=BI [⟨36,(mB 227),[(5,1)],[],[(1,((mB 32),([],[])))]⟩] 66
def Ab5:Hnt:=⟨[(94,(.ls,[])),(105,(.int .i64,[])),(106,(.int .u64,[]))],[(0,[(1,([.sl 1 1],[.del,.row Δ]))])],[]⟩
def XW:MFn:=BI [⟨43,(mB 451),[(6,1)],[],[(1,((mB 64),([],[])))]⟩] 126
def TY:Hnt:=⟨[(94,(.ls,[])),(105,(.int .i64,[])),(106,(.int .u64,[])),(141,(.int .i64,[]))],[(0,[(1,([.sl 1 1],[.del,.row Δ]))])],[]⟩
def XX:MFn:=BI [⟨37,(mB 227),[(5,1)],[],[(1,((mB 96),([],[])))]⟩] 140
def TZ:Hnt:=⟨[(94,(.ls,[])),(106,(.int .u64,[]))],[(0,[(1,([.sl 1 1,.int .u64],[.del,.row Δ]))])],[]⟩
def QJ:MFn:=BI [⟨42,(mB 99),[],[5],[(1,((mB 32),([],[])))]⟩,⟨42,(mB 483),[(7,1)],[],[(3,((mB 195),([],[])))]⟩] 127
def MI:Hnt:=⟨[(66,(.ls,[])),(94,(.ls,[])),(140,(.ls,[]))],[(0,[(1,([.ls],[]))]),(1,[(3,([.ls,.ls,.int .i64,.sl 1 1],[.del,.row Δ]))])],[(27,[.int .u32]),(28,[.int .u32]),(35,[.int .u32]),(36,[.int .u32])]⟩
def XP:MFn:=BI [⟨26,(mB 35),[],[],[(0,((mB 16),([],[]))),(1,([],([],[])))]⟩] 107
def Ou:Hnt:=⟨[],[(0,[(0,([.bool],[])),(1,([],[]))])],[(19,[.int .u32]),(20,[.int .u32]),(23,[.int .u32]),(24,[.int .u32])]⟩
def Lg:List (Nat × MFn):=[(94,Zu),(105,Ah5),(106,Ah6),(141,XY),(66,Afx),(126,XW),(140,XX),(127,QJ),(107,XP)]
variable (A:Ar) (D:Orc)
theorem e94(x0:Rw):BN A D Al T9 .n 94 Zu [Ψ x0] [] =
 Ae D (ι 94 0) [Ψ x0,χ 0 0 0 1,iv 0] [θ [] Δ Δ] [.t,.C,.x,.X,.Y] λc l o=>
 br (Bm 1 c)
 (dk [.C,.q 1 1,.N,.D,.R,.X,.E] [.l l,.o o] λn cs1=>
 Ae D (ι 94 1) [χ 0 0 n 1] [θ cs1 Δ Δ] [.t,.C,.x,.X,.Y] λc4 l4 o1=>
 br (Bm 3 c4)
 (dk [.C,.q 1 1,.N,.D,.R,.X,.E] [.l l4,.o o1] λn1 cs3=>
 br ((0+n1*1).ble cs3.length) (Θ ((Ψ (Bi n1 1 (ε (n1*1) cs3)),[]))) Ξ)
 (Ξ))
 (Ξ):=by kernel_rfl
theorem Ahv(t0:Rw)(n3:Nat)(c3:List AV)(t4:Int):CS A D Al T9 .n 94 0 (AJ Zu 0).fst (AJ Zu 0).snd [Ψ t0,χ 0 0 n3 1,iv t4] [{ cells:=c3,st:=Δ,ex:=Δ }] =
 br (A.lt t4 ↑(AL t0))
 (unI t4 λi=>
 Bj t0 i λcs=>
 dk [.J .u32,.N] [.l cs] λn=>
 br (AZ (n3+1) 4) (br ((0+n3*1).ble c3.length) (AA D (ι 94 0) [Ψ t0,χ 0 0 (n3+1) 1,iv (A.add δ t4 1)] [θ (AqT 0 (ε (0+n3*1) c3)++[Aq0 (Value.int ζ n)]) Δ Δ] λr o=>
 As 1 [2] (AH.mk [(2,θ (AqT 0 (ε (0+n3*1) c3)++[Aq0 (Value.int ζ n)]) Δ Δ),(1,θ [Aq0 (Value.int ζ n)] Δ Δ)] 3 Ξ) [0] r o) Ξ) Ξ)
 (Θ ((γ [iv 0,χ 1 0 n3 1],[BO.del,AqV (θ c3 Δ Δ)]))):=by kernel_rfl
theorem Ahw(n3:Nat)(c3:List AV):CS A D Al T9 .n 94 1 (AJ Zu 1).fst (AJ Zu 1).snd [χ 0 0 n3 1] [{ cells:=c3,st:=Δ,ex:=Δ }] =
 br (A.lt 0 ↑n3)
 (unI (A.sub δ (↑n3) 1) λi=>
 br (i.blt n3) (EX c3 (0+i*1) 1 λcs=>
 dk [.J .u32,.N] [.l cs] λn=>
 br (A.eq n 0)
 (unI (A.sub δ (↑n3) 1) λi1=>
 br (KA 0 i1 n3) (AA D (ι 94 1) [χ 0 0 i1 1] [θ c3 Δ Δ] λr o=>
 As 1 [0] (AH.mk [(0,θ c3 Δ Δ)] 1 Ξ) [] r o) Ξ)
 (Θ ((γ [iv 2,χ 1 0 n3 1],[BO.del,AqV (θ c3 Δ Δ)])))) Ξ)
 (Θ ((γ [iv 2,χ 1 0 n3 1],[BO.del,AqV (θ c3 Δ Δ)]))):=by kernel_rfl
theorem Aoy(x0 x1:Rw):BN A D Al AhG .n 105 Ah5 [Ψ x0,Ψ x1] [] =
 br (A.lt ↑(AL x1) ↑(AL x0))
 (Θ ((iv ↑(AL x0),[])))
 (Θ ((iv ↑(AL x1),[]))):=by kernel_rfl
theorem Aoz(x0:Rw)(x1:Int):BN A D Al AhH .n 106 Ah6 [Ψ x0,iv x1] [] =
 br (A.lt x1 0)
 (Θ ((Aq0 (Value.int Ω 0),[])))
 (br (A.le (↑(AL x0)) x1)
 (Θ ((Aq0 (Value.int Ω 0),[])))
 (unI x1 λi=>
 Bj x0 i λcs=>
 dk [.J .u32,.N] [.l cs] λn=>
 Θ ((Aq0 (Value.int Ω (A.conv Ω n)),[])))):=by kernel_rfl
theorem AoP(x0 x1:Rw):BN A D Al T4 .n 141 XY [Ψ x0,Ψ x1] [] =
 Ae D (ω 105) [Ψ x0,Ψ x1] [] [.i,.E] λn=>
 Ae D (ι 141 0) [Ψ x0,Ψ x1,iv (A.sub δ n 1)] [] [.t,.C,.x,.X,.Y] λc l o1=>
 br (Bm 0 c)
 (dk [.I,.N,.E] [.l l,.o o1] λn1=>
 Θ ((iv n1,[])))
 (br (Bm 1 c)
 (Ft l<|
 DI o1<|
 Θ ((iv 0,[])))
 (Ξ)):=by kernel_rfl
theorem Abt(t0 t1:Rw)(t5:Int):CS A D Al T4 .n 141 0 (AJ XY 0).fst (AJ XY 0).snd [Ψ t0,Ψ t1,iv t5] [] =
 br (A.le 0 t5)
 (Ae D (ω 106) [Ψ t0,iv t5] [] [.j .u64,.E] λn=>
 Ae D (ω 106) [Ψ t1,iv t5] [] [.j .u64,.E] λn1=>
 br (A.lt n n1)
 (Θ ((γ [bv Δ,iv (-1)],[])))
 (Ae D (ω 106) [Ψ t0,iv t5] [] [.j .u64,.E] λn2=>
 Ae D (ω 106) [Ψ t1,iv t5] [] [.j .u64,.E] λn3=>
 br (A.lt n3 n2)
 (Θ ((γ [bv Δ,iv 1],[])))
 (AA D (ι 141 0) [Ψ t0,Ψ t1,iv (A.sub δ t5 1)] [] λr4 o4=>
 As 0 [] (AH.mk [] 0 Ξ) [] r4 o4)))
 (Θ ((γ [iv 0],[]))):=by kernel_rfl
theorem e66(x0 x1:Rw):BN A D Al Ab5 .n 66 Afx [Ψ x0,Ψ x1] [] =
 Ae D (ι 66 0) [Ψ x0,Ψ x1,χ 0 0 0 1,Aq0 (Value.int Ω 0),iv 0] [θ [] Δ Δ] [.t,.C,.x,.X,.Y] λc l o=>
 br (Bm 1 c)
 (dk [.C,.q 1 1,.N,.D,.R,.X,.E] [.l l,.o o] λn cs1=>
 br ((0+n*1).ble cs1.length) (AA D (ω 94) [Ψ (Bi n 1 (ε (n*1) cs1))] [] λr1 o1=>
 Mr r1 λxs=>
 DI o1<|
 Θ ((Ψ xs,[]))) Ξ)
 (Ξ):=by kernel_rfl
theorem Ahp(t0 t1:Rw)(n5:Nat)(c5:List AV)(t6 t7:Int):CS A D Al Ab5 (.b (.b (.b .n (.b .n (.f .n))) .n) .n) 66 0 (AJ Afx 0).fst (AJ Afx 0).snd [Ψ t0,Ψ t1,χ 0 0 n5 1,Aq0 (Value.int Ω t6),iv t7] [{ cells:=c5,st:=Δ,ex:=Δ }] =
 Ae D (ω 105) [Ψ t0,Ψ t1] [] [.i,.E] λn=>
 br (A.le t7 n)
 (Ae D (ω 106) [Ψ t0,iv t7] [] [.j .u64,.E] λn1=>
 Ae D (ω 106) [Ψ t1,iv t7] [] [.j .u64,.E] λn2=>
 br (A.eq 4294967296 0)
 (Ξ)
 (br (AZ (n5+1) 4) (br ((0+n5*1).ble c5.length) (br (A.eq 4294967296 0) Ξ (AA D (ι 66 0) [Ψ t0,Ψ t1,χ 0 0 (n5+1) 1,Aq0 (Value.int Ω (A.quo Ω (A.add Ω (A.add Ω n1 n2) t6) 4294967296)),iv (A.add δ t7 1)] [θ (AqT 0 (ε (0+n5*1) c5)++[Aq0 (Value.int ζ (A.conv ζ (A.rem Ω (A.add Ω (A.add Ω n1 n2) t6) 4294967296)))]) Δ Δ] λr3 o3=>
 As 1 [2] (AH.mk [(2,θ (AqT 0 (ε (0+n5*1) c5)++[Aq0 (Value.int ζ (A.conv ζ (A.rem Ω (A.add Ω (A.add Ω n1 n2) t6) 4294967296)))]) Δ Δ),(1,θ [Aq0 (Value.int ζ (A.conv ζ (A.rem Ω (A.add Ω (A.add Ω n1 n2) t6) 4294967296)))] Δ Δ)] 3 Ξ) [0] r3 o3)) Ξ) Ξ))
 (Θ ((γ [iv 0,χ 1 0 n5 1],[BO.del,AqV (θ c5 Δ Δ)]))):=by kernel_rfl
theorem AoL(x0 x1:Rw):BN A D Al TY .n 126 XW [Ψ x0,Ψ x1] [] =
 Ae D (ω 141) [Ψ x0,Ψ x1] [] [.i,.E] λn=>
 br (A.lt n 0)
 (Θ ((γ [Ψ [],bv Φ],[])))
 (Ae D (ι 126 0) [Ψ x0,Ψ x1,χ 0 0 0 1,Aq0 (Value.int Ω 0),iv 0] [θ [] Δ Δ] [.t,.C,.x,.X,.Y] λc l o1=>
 br (Bm 1 c)
 (dk [.C,.q 1 1,.N,.D,.R,.X,.E] [.l l,.o o1] λn1 cs1=>
 br ((0+n1*1).ble cs1.length) (AA D (ω 94) [Ψ (Bi n1 1 (ε (n1*1) cs1))] [] λr2 o2=>
 Mr r2 λxs=>
 DI o2<|
 Θ ((γ [Ψ xs,bv Δ],[]))) Ξ)
 (Ξ)):=by kernel_rfl
theorem Abn(t0 t1:Rw)(n6:Nat)(c6:List AV)(t7 t8:Int):CS A D Al TY (.b (.b (.b .n (.b .n (.f .n))) .n) .n) 126 0 (AJ XW 0).fst (AJ XW 0).snd [Ψ t0,Ψ t1,χ 0 0 n6 1,Aq0 (Value.int Ω t7),iv t8] [{ cells:=c6,st:=Δ,ex:=Δ }] =
 Ae D (ω 105) [Ψ t0,Ψ t1] [] [.i,.E] λn=>
 br (A.lt t8 n)
 (Ae D (ω 106) [Ψ t0,iv t8] [] [.j .u64,.E] λn1=>
 Ae D (ω 106) [Ψ t1,iv t8] [] [.j .u64,.E] λn2=>
 br (A.eq 4294967296 0)
 (Ξ)
 (br (AZ (n6+1) 4) (br ((0+n6*1).ble c6.length) (br (A.eq 4294967296 0) Ξ (AA D (ι 126 0) [Ψ t0,Ψ t1,χ 0 0 (n6+1) 1,Aq0 (Value.int Ω (A.sub Ω 1 (A.quo Ω (A.sub Ω (A.sub Ω (A.add Ω n1 4294967296) n2) t7) 4294967296))),iv (A.add δ t8 1)] [θ (AqT 0 (ε (0+n6*1) c6)++[Aq0 (Value.int ζ (A.conv ζ (A.rem Ω (A.sub Ω (A.sub Ω (A.add Ω n1 4294967296) n2) t7) 4294967296)))]) Δ Δ] λr3 o3=>
 As 1 [2] (AH.mk [(2,θ (AqT 0 (ε (0+n6*1) c6)++[Aq0 (Value.int ζ (A.conv ζ (A.rem Ω (A.sub Ω (A.sub Ω (A.add Ω n1 4294967296) n2) t7) 4294967296)))]) Δ Δ),(1,θ [Aq0 (Value.int ζ (A.conv ζ (A.rem Ω (A.sub Ω (A.sub Ω (A.add Ω n1 4294967296) n2) t7) 4294967296)))] Δ Δ)] 3 Ξ) [0] r3 o3)) Ξ) Ξ))
 (Θ ((γ [iv 0,χ 1 0 n6 1],[BO.del,AqV (θ c6 Δ Δ)]))):=by kernel_rfl
theorem AoO(x0:Rw)(x1:Int):BN A D Al TZ .n 140 XX [Ψ x0,Aq0 (Value.int Ω x1)] [] =
 Ae D (ι 140 0) [Ψ x0,Aq0 (Value.int Ω x1),χ 0 0 0 1,Aq0 (Value.int Ω 0),iv 0] [θ [] Δ Δ] [.t,.C,.x,.X,.Y] λc l o=>
 br (Bm 1 c)
 (dk [.C,.q 1 1,.J .u64,.N,.D,.R,.X,.E] [.l l,.o o] λn n1 cs1=>
 br (AZ (n+1) 4) (br ((0+n*1).ble cs1.length) (br ((0+(n+1)*1).ble (AqT 0 (ε (0+n*1) cs1)++[Aq0 (Value.int ζ (A.conv ζ n1))]).length) (AA D (ω 94) [Ψ (Bi (n+1) 1 (ε ((n+1)*1) (AqT 0 (AqT 0 (ε (0+n*1) cs1)++[Aq0 (Value.int ζ (A.conv ζ n1))]))))] [] λr1 o1=>
 Mr r1 λxs=>
 DI o1<|
 Θ ((Ψ xs,[]))) Ξ) Ξ) Ξ)
 (Ξ):=by kernel_rfl
theorem Abs(t0:Rw)(t1:Int)(n5:Nat)(c5:List AV)(t6 t7:Int):CS A D Al TZ (.b (.b (.b .n (.b .n (.f .n))) .n) .n) 140 0 (AJ XX 0).fst (AJ XX 0).snd [Ψ t0,Aq0 (Value.int Ω t1),χ 0 0 n5 1,Aq0 (Value.int Ω t6),iv t7] [{ cells:=c5,st:=Δ,ex:=Δ }] =
 br (A.lt t7 ↑(AL t0))
 (Ae D (ω 106) [Ψ t0,iv t7] [] [.j .u64,.E] λn=>
 br (A.eq 4294967296 0)
 (Ξ)
 (br (AZ (n5+1) 4) (br ((0+n5*1).ble c5.length) (br (A.eq 4294967296 0) Ξ (AA D (ι 140 0) [Ψ t0,Aq0 (Value.int Ω t1),χ 0 0 (n5+1) 1,Aq0 (Value.int Ω (A.quo Ω (A.add Ω (A.mul Ω n t1) t6) 4294967296)),iv (A.add δ t7 1)] [θ (AqT 0 (ε (0+n5*1) c5)++[Aq0 (Value.int ζ (A.conv ζ (A.rem Ω (A.add Ω (A.mul Ω n t1) t6) 4294967296)))]) Δ Δ] λr1 o1=>
 As 1 [2] (AH.mk [(2,θ (AqT 0 (ε (0+n5*1) c5)++[Aq0 (Value.int ζ (A.conv ζ (A.rem Ω (A.add Ω (A.mul Ω n t1) t6) 4294967296)))]) Δ Δ),(1,θ [Aq0 (Value.int ζ (A.conv ζ (A.rem Ω (A.add Ω (A.mul Ω n t1) t6) 4294967296)))] Δ Δ)] 3 Ξ) [0] r1 o1)) Ξ) Ξ))
 (Θ ((γ [iv 0,χ 1 0 n5 1,Aq0 (Value.int Ω t6)],[BO.del,AqV (θ c5 Δ Δ)]))):=by kernel_rfl
theorem AoM(x0 x1:Rw):BN A D Al MI .n 127 QJ [Ψ x0,Ψ x1] [] =
 Ae D (ι 127 0) [Ψ x0,Ψ x1,Ψ [],iv (A.sub δ (↑(AL x1)) 1)] [] [.t,.C,.x,.X,.Y] λc l o=>
 br (Bm 1 c)
 (dk [.L,.N,.E] [.l l,.o o] λxs=>
 Ae D (ω 94) [Ψ xs] [] [.l,.E] λxs1=>
 Θ ((Ψ xs1,[])))
 (Ξ):=by kernel_rfl
theorem Abo(t0 t1 t5:Rw)(t6:Int):CS A D Al MI .n 127 0 (AJ QJ 0).fst (AJ QJ 0).snd [Ψ t0,Ψ t1,Ψ t5,iv t6] [] =
 br (A.le 0 t6)
 (Ae D (ι 127 1) [Ψ t0,Ψ t1,Ψ t5,iv t6,χ 0 0 1 1,iv 0] [θ [Aq0 (Value.int ζ 0)] Δ Δ] [.t,.C,.x,.X,.Y] λc l o=>
 br (Bm 3 c)
 (dk [.L,.L,.I,.C,.q 1 1,.N,.D,.R,.X,.E] [.l l,.o o] λxs xs1 n n1 cs1=>
 unI n λi=>
 Bj xs1 i λcs2=>
 dk [.J .u32,.N] [.l cs2] λn2=>
 Ae D (ω 140) [Ψ xs,Aq0 (Value.int Ω (A.conv Ω n2))] [] [.l,.E] λxs2=>
 br ((0+n1*1).ble cs1.length) (AA D (ω 66) [Ψ (Bi n1 1 (ε (n1*1) cs1)),Ψ xs2] [] λr2 o2=>
 Mr r2 λxs3=>
 DI o2<|
 AA D (ι 127 0) [Ψ xs,Ψ xs1,Ψ xs3,iv (A.sub δ n 1)] [] λr3 o3=>
 As 0 [] (AH.mk [(1,θ cs1 Φ Δ)] 2 Ξ) [] r3 o3) Ξ)
 (Ξ))
 (Θ ((γ [iv 0,Ψ t5],[]))):=by kernel_rfl
theorem Abp(t0 t1 t5:Rw)(t6:Int)(n7:Nat)(c7:List AV)(t8:Int):CS A D Al MI .n 127 1 (AJ QJ 1).fst (AJ QJ 1).snd [Ψ t0,Ψ t1,Ψ t5,iv t6,χ 0 0 n7 1,iv t8] [{ cells:=c7,st:=Δ,ex:=Δ }] =
 br (A.lt t8 ↑(AL t5))
 (unI t8 λi=>
 Bj t5 i λcs=>
 dk [.J .u32,.N] [.l cs] λn=>
 br (AZ (n7+1) 4) (br ((0+n7*1).ble c7.length) (AA D (ι 127 1) [Ψ t0,Ψ t1,Ψ t5,iv t6,χ 0 0 (n7+1) 1,iv (A.add δ t8 1)] [θ (AqT 0 (ε (0+n7*1) c7)++[Aq0 (Value.int ζ n)]) Δ Δ] λr o=>
 As 1 [2] (AH.mk [(2,θ (AqT 0 (ε (0+n7*1) c7)++[Aq0 (Value.int ζ n)]) Δ Δ),(1,θ [Aq0 (Value.int ζ n)] Δ Δ)] 3 Ξ) [0] r o) Ξ) Ξ)
 (Θ ((γ [iv 2,Ψ t0,Ψ t1,iv t6,χ 1 0 n7 1],[BO.del,AqV (θ c7 Δ Δ)]))):=by kernel_rfl
theorem AoA(x0 x1:Rw):BN A D Al Ou .n 107 XP [Ψ x0,Ψ x1] [] =
 br (A.eq ↑(AL x0) ↑(AL x1))
 (Ae D (ι 107 0) [Ψ x0,Ψ x1,iv 0] [] [.t,.C,.x,.X,.Y] λc l o=>
 br (Bm 0 c)
 (dk [.B,.N,.E] [.l l,.o o] λb=>
 Θ ((bv b,[])))
 (br (Bm 1 c)
 (Ft l<|
 DI o<|
 Θ ((bv Δ,[])))
 (Ξ)))
 (Θ ((bv Φ,[]))):=by kernel_rfl
theorem RN(t0 t1:Rw)(t5:Int):CS A D Al Ou .n 107 0 (AJ XP 0).fst (AJ XP 0).snd [Ψ t0,Ψ t1,iv t5] [] =
 br (A.lt t5 ↑(AL t0))
 (unI t5 λi=>
 Bj t0 i λcs=>
 dk [.J .u32,.N] [.l cs] λn=>
 unI t5 λi1=>
 Bj t1 i1 λcs1=>
 dk [.J .u32,.N] [.l cs1] λn1=>
 br (A.eq n n1)
 (AA D (ι 107 0) [Ψ t0,Ψ t1,iv (A.add δ t5 1)] [] λr o=>
 As 0 [] (AH.mk [] 0 Ξ) [] r o)
 (Θ ((γ [bv Δ,bv Φ],[]))))
 (Θ ((γ [iv 0],[]))):=by kernel_rfl
end
open Go.RowKit
theorem Sx(x:Nat)(h:x<18446744073709551616):Af.quo .u64 (x:Int) 4294967296=((x / 4294967296:Nat):Int):=by
 show IntKind.u64.wrap ((x:Int).tdiv 4294967296)=_
 have:(x:Int).tdiv 4294967296=((x / 4294967296:Nat):Int):=rfl;rw[this,IntKind.wrap_u64];omega
theorem Sy(x:Nat):Af.rem .u64 (x:Int) 4294967296=((x % 4294967296:Nat):Int):=by
 show (x:Int).tmod 4294967296=_
 rfl
theorem Aag(l:List Nat)(n:Nat):(Ah eL l).take n=Ah eL (l.take n):=by rw[Eb,Eb,List.map_take]
theorem Vy(l:List Nat)(n:Nat)(h:n<=l.length):Bi n 1 ((Ah eL l).take (n*1))=(l.take n).map eL:=by
 rw[AsC,Aag];have:=CL AD (l.take n)
 rwa [Aq9,ArH h]at this
theorem LH(l:List Nat)(i:Nat):(l.drop i).headD 0=l.getD i 0:=by
 rw[AsN]
 by_cases h:i<l.length
 .rw[κ h,ξ h];rfl
 .rw[AqX (by omega),ArZ (by omega)];rfl
theorem Nq{l:List Nat}(h:Limbs l)(i:Nat):l.getD i 0<4294967296:=by
 rw[←LH];exact D5 (h.drop i)
def Eg(n:Nat)(l:List Nat):List Nat:=l++AsH (n-l.length) 0
theorem AgW(n:Nat):Ad (AsH n 0)=0:=by
 induction n with
 |zero=>rfl
 |succ n ih=>rw[List.replicate_succ,Ad,ih]
theorem GC(n:Nat)(l:List Nat):Ad (Eg n l)=Ad l:=by
 unfold Eg;rw[BD,AgW];omega
theorem D8{n:Nat}{l:List Nat}(h:l.length<=n):(Eg n l).length=n:=by
 unfold Eg;rw[υ,List.length_replicate];omega
theorem Et{n:Nat}{l:List Nat}(h:Limbs l):Limbs (Eg n l):=CN h λx hx=>by
 rw[(List.mem_replicate.1 hx).2];omega
theorem KQ{n i:Nat}{l:List Nat}(h:l.length<=n)(hi:i<n):(Eg n l)[i]'(by rw[D8 h];exact hi)=l.getD i 0:=by
 rw[AsN];unfold Eg
 by_cases h2:i<l.length
 .rw[List.getElem_append_left h2,ξ h2];rfl
 .rw[List.getElem_append_right (by omega),List.getElem_replicate,ArZ (by omega)];rfl
section
variable {D:Orc} (K:Knows Al Lg D)
include K
theorem AdB(l:List Nat)(hl:BL l):∀(k i:Nat) (out:List Nat),l.length-i=k->out.length+k<=2000000000->D.ask (.lp 94 0) [eN l,.sl 0 0 out.length 1,iv (i:Int)] [θ (Ah eL out) Δ Δ]
  = Θ (.tup [iv 0,.sl 1 0 (out++l.drop i).length 1],[.del,.set (θ (Ah eL (out++l.drop i)) Δ Δ)]):=by
 intro k;unfold BL at hl
 induction k with
 |zero=>
  intro i out hi ho;refine Au K T9 (Ahv ..) ?_;rw[Ak,show l.drop i=[] from AqX (by omega),ArB];refine Ag ?_;rfl
 |succ k ih=>
  intro i out hi ho;have hlt:i<l.length:=by omega
  have ih':=ih (i+1) (out++[l[i]]) (by omega) (by simp;omega);rw[AqY,υ,Ari]at ih';refine Au K T9 (Ahv ..) ?_;rw[Ak,κ hlt];refine Aj ?_;rw[Av,At (ξ hlt)];have hf:AZ (out.length+1) 4=Δ:=AG (by omega) (by omega);have hb1:AqZ (0+out.length*1) (Ah eL out).length=Δ:=AF AD out (by omega);have e3:∀ s:Nat,AqT 0 (ε (0+out.length*1) (Ah eL out))++[.v (.int .u32 (s:Int))]=Ah eL (out++[s]):=λs=>by
   rw[AqQ,Be AD out (by omega)];exact Bb eL out s
  simp only[eL,Fu,ND,DK,Ab];rw[BA (by omega),hf,hb1,e3];refine Ac ?_;refine Ac ?_;refine Aa ih' ?_;rfl
theorem AdC(l:List Nat)(hl:BL l):∀(n:Nat),n<=l.length->CI l<=n->D.ask (.lp 94 1) [.sl 0 0 n 1] [θ (Ah eL l) Δ Δ]=Θ (.tup [iv 2,.sl 1 0 (CI l) 1],[.del,.set (θ (Ah eL l) Δ Δ)]):=by
 intro n;unfold BL at hl
 induction n with
 |zero=>
  intro _ ht;refine Au K T9 (Ahw ..) ?_;refine Ag ?_;rw[show CI l=0 by omega]
 |succ n ih=>
  intro hn ht;refine Au K T9 (Ahw ..) ?_;refine Aj ?_;rw[show Af.sub .i64 ((n+1:Nat):Int) 1=(n:Int) from (Ng (i:=n+1) (j:=1) (by omega) (by omega)).trans (by simp)];rw[Av,BK (Nat.lt_succ_self n)];refine Ac ?_;refine(In l n (by omega) _).trans ?_;simp only[Fu,ND,DK,Ab]
  by_cases h0:l[n]=0
  .refine Bu ?_ (by rw[h0];rfl)
   rw[Av,show KA 0 n (n+1)=Δ by unfold KA;rw[show AqZ 0 n=Δ by simp];simp];refine Ac ?_;refine Aa (ih (by omega) (Mo ht (by rw[ξ (show n<l.length by omega),h0]))) ?_;rfl
  .refine AN ?_
   have:=NB (ξ (show n<l.length by omega)) h0;rw[show CI l=n+1 by omega]
theorem CP{l:List Nat}(hl:BL l)(h:Limbs l):D.ask (.fn 94) [eN l] []=Θ (eN (Ai (Ad l)),[]):=by
 have hs:=hl;unfold BL at hs;refine AB K T9 (e94 ..) ?_;have g:=AdB K l hl l.length 0 [] rfl (by simp;omega);rw[Aq4,AqQ]at g;refine Aa g ?_;simp only[ND,DK,Ab];refine Aa (AdC K l hl l.length (π _) (Ch l)) ?_;simp only[ND,DK,Ab];have ht:=Ch l;rw[show AqZ (0+CI l*1) (Ah eL l).length=Δ by rw[AT AD];simp;omega];refine Ac ?_;rw[Vy l _ ht,Iu h];rfl
theorem Gm(a b:List Nat):D.ask (.fn 105) [eN a,eN b] []=Θ (iv ((max a.length b.length:Nat):Int),[]):=by
 refine AB K AhG (Aoy ..) ?_;rw[Ak,Ak]
 by_cases h:b.length<a.length
 .refine Aj ?_
  rw[show max a.length b.length=a.length by omega]
 .refine Ag ?_
  rw[show max a.length b.length=b.length by omega]
theorem GX{a:List Nat}(ha:Limbs a)(i:Nat):D.ask (.fn 106) [eN a,iv (i:Int)] []=Θ (.v (.int .u64 (a.getD i 0:Int)),[]):=by
 refine AB K AhH (Aoz ..) ?_;rw[Ak,AsN];refine Ag ?_
 by_cases h:i<a.length
 .refine Cr ?_
  have hx:=ha.get h;rw[Av,At (ξ h),ξ h];simp only[eL,Fu,ND,DK,Ab];rw[Bo (by omega)];rfl
 .refine B6 ?_
  rw[ArZ (by omega)];rfl
theorem Af3{a b:List Nat}(ha:Limbs a)(hb:Limbs b)(m:Nat)(hma:a.length<=m)(hmb:b.length<=m)(hm:m<=1000000000):∀(n:Nat),n<=m->D.ask (.lp 141 0) [eN a,eN b,iv ((n:Int)-1)] []
  = Θ (if CT (Ad ((Eg m a).take n)) (Ad ((Eg m b).take n))=0 then .tup [iv 0] else .tup [bv Δ,iv (CT (Ad ((Eg m a).take n)) (Ad ((Eg m b).take n)))],[]):=by
 intro n
 induction n with
 |zero=>
  intro _;refine Au K T4 (Abt ..) ?_;refine Cr ?_;rfl
 |succ n ih=>
  intro hn;refine Au K T4 (Abt ..) ?_;rw[show (((n+1:Nat):Int)-1)=(n:Int) by omega];refine B6 ?_;have h1:n<(Eg m a).length:=by rw[D8 hma];omega
  have h2:n<(Eg m b).length:=by rw[D8 hmb];omega
  have e1:(Eg m a).take (n+1)=(Eg m a).take n++[a.getD n 0]:=by rw[Arw h1,KQ hma (by omega)]
  have e2:(Eg m b).take (n+1)=(Eg m b).take n++[b.getD n 0]:=by rw[Arw h2,KQ hmb (by omega)]
  rw[e1,e2,N6 ((Et ha).take n) ((Et hb).take n) (by simp;omega)];refine Aa (GX K ha n) ?_;simp only[P2,ND,DK,Ab];refine Aa (GX K hb n) ?_;simp only[P2,ND,DK,Ab]
  by_cases h3:a.getD n 0<b.getD n 0
  .refine Aj ?_
   rw[if_pos h3];rfl
  .refine Ag ?_
   rw[if_neg h3];refine Aa (GX K ha n) ?_;simp only[P2,ND,DK,Ab];refine Aa (GX K hb n) ?_;simp only[P2,ND,DK,Ab]
   by_cases h4:b.getD n 0<a.getD n 0
   .refine Aj ?_
    rw[if_pos h4];rfl
   .refine Ag ?_
    rw[if_neg h4];rw[show Af.sub .i64 (n:Int) 1=(n:Int)-1 from Dm (by omega) (by omega)];refine Aa (ih (by omega)) ?_
    by_cases h5:CT (Ad ((Eg m a).take n)) (Ad ((Eg m b).take n))=0
    .rw[if_pos h5];rfl
    .rw[if_neg h5];rfl
theorem Af4{a b:List Nat}(hsa:BL a)(ha:Limbs a)(hsb:BL b)(hb:Limbs b):D.ask (.fn 141) [eN a,eN b] []=Θ (iv (CT (Ad a) (Ad b)),[]):=by
 unfold BL at hsa hsb;refine AB K T4 (AoP ..) ?_;refine Aa (Gm K a b) ?_;simp only[ND,DK,Ab];rw[show Af.sub .i64 ((max a.length b.length:Nat):Int) 1=((max a.length b.length:Nat):Int)-1 from Dm (by omega) (by omega)];have g:=Af3 K ha hb (max a.length b.length) (by omega) (by omega) (by omega) (max a.length b.length) (π _);rw[ArS (by rw[D8 (by omega)];omega),ArS (by rw[D8 (by omega)];omega),GC,GC]at g;refine Aa g ?_
 by_cases h5:CT (Ad a) (Ad b)=0
 .rw[if_pos h5,h5];rfl
 .rw[if_neg h5];rfl
theorem Af2{a b:List Nat}(ha:Limbs a)(hb:Limbs b)(hm:max a.length b.length<=1000000000):∀(k i:Nat) (out:List Nat) (c:Nat),max a.length b.length+1-i=k->c<=1->out.length+k<=2000000000->
  D.ask (.lp 66 0) [eN a,eN b,.sl 0 0 out.length 1,.v (.int .u64 (c:Int)),iv (i:Int)] [θ (Ah eL out) Δ Δ]
   = Θ (.tup [iv 0,.sl 1 0 (out++M4 k c (a.drop i) (b.drop i)).length 1],[.del,.set (θ (Ah eL (out++M4 k c (a.drop i) (b.drop i))) Δ Δ)]):=by
 intro k
 induction k with
 |zero=>
  intro i out c hi hc ho;refine Au K Ab5 (Ahp ..) ?_;refine Aa (Gm K a b) ?_;simp only[ND,DK,Ab];refine Cr ?_;rw[M4,ArB]
 |succ k ih=>
  intro i out c hi hc ho;have h1:=Nq ha i;have h2:=Nq hb i;have ih':=ih (i+1) (out++[(a.getD i 0+b.getD i 0+c) % 4294967296]) ((a.getD i 0+b.getD i 0+c) / 4294967296) (by omega) (by omega) (by simp;omega);rw[AqY,υ,Ari]at ih';refine Au K Ab5 (Ahp ..) ?_;refine Aa (Gm K a b) ?_;simp only[ND,DK,Ab];refine B6 ?_;refine Aa (GX K ha i) ?_;simp only[P2,ND,DK,Ab];refine Aa (GX K hb i) ?_;simp only[P2,ND,DK,Ab];refine AN ?_ (by decide);have hf:AZ (out.length+1) 4=Δ:=AG (by omega) (by omega);have hb1:AqZ (0+out.length*1) (Ah eL out).length=Δ:=AF AD out (by omega);have e3:∀ s:Nat,AqT 0 (ε (0+out.length*1) (Ah eL out))++[.v (.int .u32 (s:Int))]=Ah eL (out++[s]):=λs=>by
   rw[AqQ,Be AD out (by omega)];exact Bb eL out s
  rw[Cc (by omega),Cc (by omega),Sy,Sx _ (by omega),Bz (ArF _ (by omega)),BA (by omega),hf,hb1,e3];refine Ac ?_;refine Ac ?_;refine AN ?_ (by decide);refine Aa ih' ?_;rw[M4,LH,LH,AsI,AsI];rfl
theorem KU{a b:List Nat}(hsa:a.length<=999999999)(ha:Limbs a)(hsb:b.length<=999999999)(hb:Limbs b):D.ask (.fn 66) [eN a,eN b] []=Θ (eN (Ai (Ad a+Ad b)),[]):=by
 refine AB K Ab5 (e66 ..) ?_;have g:=Af2 K ha hb (by omega) (max a.length b.length+1) 0 [] 0 rfl (by omega) (by simp;omega);rw[Aq4,AqQ,AqQ]at g;refine Aa g ?_;simp only[ND,DK,Ab];rw[AF AD _ (by omega)];refine Ac ?_;rw[Bp AD _ rfl];have hlen:∀(k c:Nat) (a b:List Nat),(M4 k c a b).length=k:=λk=>by
  induction k with
  |zero=>intro c a b;rfl
  |succ k ih=>intro c a b;rw[M4,AqR,ih]
 have gt:=CP K (l:=M4 (max a.length b.length+1) 0 a b) (by unfold BL;rw[hlen];omega) (NG _ _ _ _);rw[Re]at gt;have h1:=Bt ha;have h2:=Bt hb;have p1:4294967296 ^ a.length<=4294967296 ^ (max a.length b.length):=Ar7 (by omega) (by omega);have p2:4294967296 ^ b.length<=4294967296 ^ (max a.length b.length):=Ar7 (by omega) (by omega);rw[ArT (by rw[ArP];omega),Ara]at gt;refine Aa gt ?_;rfl
theorem Af7{a b:List Nat}(ha:Limbs a)(hb:Limbs b)(m:Nat)(hma:max a.length b.length=m)(hm:m<=1000000000):∀(k i:Nat) (out:List Nat) (c:Nat),m-i=k->c<=1->out.length+k<=2000000000->
  D.ask (.lp 126 0) [eN a,eN b,.sl 0 0 out.length 1,.v (.int .u64 (c:Int)),iv (i:Int)] [θ (Ah eL out) Δ Δ]
   = Θ (.tup [iv 0,.sl 1 0 (out++G4 c ((Eg m a).drop i) ((Eg m b).drop i)).length 1],[.del,.set (θ (Ah eL (out++G4 c ((Eg m a).drop i) ((Eg m b).drop i))) Δ Δ)]):=by
 intro k;have la:=D8 (n:=m) (l:=a) (by omega);have lb:=D8 (n:=m) (l:=b) (by omega)
 induction k with
 |zero=>
  intro i out c hi hc ho;refine Au K TY (Abn ..) ?_;refine Aa (Gm K a b) ?_;simp only[ND,DK,Ab];refine Ag ?_;rw[show (Eg m a).drop i=[] from AqX (by omega),G4,ArB]
 |succ k ih=>
  intro i out c hi hc ho;have h1:=Nq ha i;have h2:=Nq hb i;have ia:i<(Eg m a).length:=by omega
  have ib:i<(Eg m b).length:=by omega
  rw[κ ia,KQ (by omega) (by omega),κ ib,KQ (by omega) (by omega),G4,List.headD_cons,List.tail_cons];refine Au K TY (Abn ..) ?_;refine Aa (Gm K a b) ?_;simp only[ND,DK,Ab];refine Aj ?_;refine Aa (GX K ha i) ?_;simp only[P2,ND,DK,Ab];refine Aa (GX K hb i) ?_;simp only[P2,ND,DK,Ab];refine AN ?_ (by decide);have hf:AZ (out.length+1) 4=Δ:=AG (by omega) (by omega);have hb1:AqZ (0+out.length*1) (Ah eL out).length=Δ:=AF AD out (by omega);have e3:∀ s:Nat,AqT 0 (ε (0+out.length*1) (Ah eL out))++[.v (.int .u32 (s:Int))]=Ah eL (out++[s]):=λs=>by
   rw[AqQ,Be AD out (by omega)];exact Bb eL out s
  rw[show (4294967296:Int)=((4294967296:Nat):Int) from rfl,Cc (by omega),D9 (by omega) (by omega),D9 (by omega) (by omega)];rw[show ((4294967296:Nat):Int)=(4294967296:Int) from rfl,Sy,Sx _ (by omega),Bz (ArF _ (by omega)),BA (by omega),show (1:Int)=((1:Nat):Int) from rfl,D9 (by omega) (by omega),hf,hb1,e3];refine Ac ?_;refine Ac ?_;refine AN ?_ (by decide)
  by_cases hlt:a.getD i 0<b.getD i 0+c
  .rw[if_pos hlt,if_pos hlt]
   have ih':=ih (i+1) (out++[a.getD i 0+4294967296-(b.getD i 0+c)]) 1 (by omega) (by omega) (by simp;omega);rw[AqY,υ,Ari]at ih';rw[show (a.getD i 0+4294967296-b.getD i 0-c) % 4294967296=a.getD i 0+4294967296-(b.getD i 0+c) by omega,show 1-(a.getD i 0+4294967296-b.getD i 0-c) / 4294967296=1 by omega];refine Aa ih' ?_;rfl
  .rw[if_neg hlt,if_neg hlt]
   have ih':=ih (i+1) (out++[a.getD i 0-(b.getD i 0+c)]) 0 (by omega) (by omega) (by simp;omega);rw[AqY,υ,Ari]at ih';rw[show (a.getD i 0+4294967296-b.getD i 0-c) % 4294967296=a.getD i 0-(b.getD i 0+c) by omega,show 1-(a.getD i 0+4294967296-b.getD i 0-c) / 4294967296=0 by omega];refine Aa ih' ?_;rfl
theorem Sw{a b:List Nat}(hsa:BL a)(ha:Limbs a)(hsb:BL b)(hb:Limbs b):D.ask (.fn 126) [eN a,eN b] []=Θ (ME (Ad a) (Ad b),[]):=by
 have s1:=hsa;have s2:=hsb;unfold BL at s1 s2;refine AB K TY (AoL ..) ?_;refine Aa (Af4 K hsa ha hsb hb) ?_;simp only[ND,DK,Ab];unfold ME
 by_cases h1:Ad a<Ad b
 .rw[show CT (Ad a) (Ad b)=-1 by unfold CT;rw[if_pos h1]]
  refine Aj ?_ (by decide);rw[if_neg (by omega)];rfl
 .refine Ag ?_ (by unfold CT;rw[if_neg h1];split<;>omega)
  rw[if_pos (by omega)];have la:=D8 (n:=max a.length b.length) (l:=a) (by omega);have lb:=D8 (n:=max a.length b.length) (l:=b) (by omega);have g:=Af7 K ha hb (max a.length b.length) rfl (by omega) (max a.length b.length) 0 [] 0 (by omega) (by omega) (by simp;omega);rw[Aq4,AqQ,AqQ]at g;refine Aa g ?_;simp only[ND,DK,Ab];rw[AF AD _ (by omega)];refine Ac ?_;rw[Bp AD _ rfl];have gt:=CP K (l:=G4 0 (Eg (max a.length b.length) a) (Eg (max a.length b.length) b)) (by unfold BL;rw[Lb];omega) (G5 _ _ _ (Et ha) (Et hb) (by omega));rw[Vh (Et ha) (Et hb) (by omega) (by rw[GC,GC];omega),GC,GC]at gt;refine Aa gt ?_;rfl
theorem ZT{a:List Nat}(ha:Limbs a)(hs:BL a)(m:Nat)(hm:m<4294967296):∀(k i:Nat) (out:List Nat) (c:Nat),a.length-i=k->i<=a.length->c<4294967296->out.length+k<=2000000000->
  ∃(o:List Nat) (c':Nat),D.ask (.lp 140 0) [eN a,.v (.int .u64 (m:Int)),.sl 0 0 out.length 1,.v (.int .u64 (c:Int)),iv (i:Int)] [θ (Ah eL out) Δ Δ]
   = Θ (.tup [iv 0,.sl 1 0 o.length 1,.v (.int .u64 (c':Int))],[.del,.set (θ (Ah eL o) Δ Δ)])/\c'<4294967296/\o++[c']=out++DQ m c (a.drop i):=by
 intro k;unfold BL at hs
 induction k with
 |zero=>
  intro i out c hi hle hc ho;refine⟨out,c,?_,hc,?_⟩
  .refine Au K TZ (Abs ..) ?_
   rw[Ak];refine Ag ?_;rfl
  .rw[show a.drop i=[] from AqX (by omega)]
   rfl
 |succ k ih=>
  intro i out c hi hle hc ho;have hlt:i<a.length:=by omega
  have hx:=ha.get hlt;have hp:=JL hx hm;have hg:a.getD i 0=a[i]:=by rw[AsN,ξ hlt];rfl
  obtain⟨o,c',h1,h2,h3⟩:=ih (i+1) (out++[(a[i]*m+c) % 4294967296]) ((a[i]*m+c) / 4294967296) (by omega) (by omega) (by omega) (by simp;omega);refine⟨o,c',?_,h2,?_⟩
  .refine Au K TZ (Abs ..) ?_
   rw[Ak];refine Aj ?_;refine Aa (GX K ha i) ?_;simp only[P2,ND,DK,Ab,hg];refine AN ?_ (by decide);have hf:AZ (out.length+1) 4=Δ:=AG (by omega) (by omega);have hb1:AqZ (0+out.length*1) (Ah eL out).length=Δ:=AF AD out (by omega);have e3:∀ s:Nat,AqT 0 (ε (0+out.length*1) (Ah eL out))++[.v (.int .u32 (s:Int))]=Ah eL (out++[s]):=λs=>by
    rw[AqQ,Be AD out (by omega)];exact Bb eL out s
   rw[υ,Ari]at h1;rw[KV (by omega),Cc (by omega),Sy,Sx _ (by omega),Bz (ArF _ (by omega)),BA (by omega),hf,hb1,e3];refine Ac ?_;refine Ac ?_;refine AN ?_ (by decide);refine Aa h1 ?_;rfl
  .rw[h3,κ hlt,DQ,AqY]
   rfl
omit K in
theorem JV:∀(m c:Nat) (a:List Nat),(DQ m c a).length=a.length+1
 |_,_,[]=>rfl
 |m,c,x::a=>by rw[DQ,AqR,JV,AqR]
theorem QW{a:List Nat}(ha:Limbs a)(hs:a.length<=999999999)(m:Nat)(hm:m<4294967296):D.ask (.fn 140) [eN a,.v (.int .u64 (m:Int))] []=Θ (eN (Ai (Ad a*m)),[]):=by
 obtain⟨o,c',g,hc,ho⟩:=ZT K ha (by unfold BL;omega) m hm a.length 0 [] 0 (by omega) (by omega) (by omega) (by simp;omega);rw[Aq4,AqQ]at ho;have hol:o.length=a.length:=by
  have:=congrArg List.length ho;rw[υ,JV]at this;simpa using this
 refine AB K TZ (AoO ..) ?_;refine Aa g ?_;simp only[Fu,ND,DK,Ab];rw[Bz hc];have e3:AqT 0 (ε (0+o.length*1) (Ah eL o))++[.v (.int .u32 (c':Int))]=Ah eL (o++[c']):=by
  rw[AqQ,Be AD o (by omega)];exact Bb eL o c'
 rw[AG (n:=o.length+1) (b:=4) (by omega) (by omega),AF AD o (by omega),e3,AF AD (o++[c']) (by simp)];refine Ac ?_;refine Ac ?_;refine Ac ?_;rw[AqQ,Be AD (o++[c']) (by simp),show Bi (o.length+1) 1 (Ah eL (o++[c']))=(o++[c']).map eL from by have:=CL AD (o++[c']);rwa [υ]at this];rw[ho];have gt:=CP K (l:=DQ m 0 a) (by unfold BL;rw[JV];omega) (G3 _ _ _ hm ha (by omega));rw[Ix,ArG]at gt;refine Aa gt ?_;rfl
end
theorem EV{a b:List Nat}(ha:Limbs a)(hb:Limbs b):(Ai (Ad a*Ad b)).length<=a.length+b.length:=by
 refine Bc ?_;rw[AsV];exact Nat.mul_lt_mul'' (Bt ha) (Bt hb)
theorem AcQ(va x vd:Nat):0+4294967296*(va*vd)+va*x=va*(x+4294967296*vd):=by
 rw[ArR,Auu va];omega
theorem AdP{d:Nat}(h:d<4294967296):Limbs [d]:=Bf h BH
section
variable {D:Orc} (K:Knows Al Lg D)
include K
theorem Ago(A B:AV)(t:Int){xs ys:List (List AV)}(hA:A=.ls xs)(hB:B=.ls ys){out:List Nat}(hs:out.length<=999999999):∀(k i:Nat) (up:List Nat),out.length-i=k->i<=out.length->up=0::out.take i->
  D.ask (.lp 127 1) [A,B,eN out,iv t,.sl 0 0 (i+1) 1,iv (i:Int)] [θ (Ah eL up) Δ Δ]=Θ (.tup [iv 2,A,B,iv t,.sl 1 0 (out.length+1) 1],[.del,.set (θ (Ah eL (0::out)) Δ Δ)]):=by
 subst hA hB;intro k
 induction k with
 |zero=>
  intro i up hk hi hu;obtain rfl:i=out.length:=by omega
  rw[List.take_length]at hu;subst hu;refine Au K MI (Abp ..) ?_;rw[Ak];exact Ag rfl
 |succ k ih=>
  intro i up hk hi hu;have hlt:i<out.length:=by omega
  have hl:up.length=i+1:=by rw[hu,AqR,Aq9,ArH hi]
  have ih':=ih (i+1) (up++[out[i]]) (by omega) (by omega) (by rw[hu,Arw hlt];rfl);have e3:AqT 0 (ε (0+(i+1)*1) (Ah eL up))++[.v (.int .u32 (out[i]:Int))]=Ah eL (up++[out[i]]):=by
   rw[AqQ,Be AD up (by omega)];exact Bb eL up out[i]
  refine Au K MI (Abp ..) ?_;rw[Ak];refine Aj ?_;rw[Av,At (ξ hlt)];simp only[eL,Fu,ND,DK,Ab];rw[BA (by omega),AG (n:=i+1+1) (b:=4) (by omega) (by omega),AF AD up (by omega),e3];refine Ac ?_;refine Ac ?_;refine Aa ih' ?_;rfl
theorem Agp{a b:List Nat}(ha:Limbs a)(hb:Limbs b)(hs:a.length+b.length<=900000000):∀ i:Nat,i<=b.length->D.ask (.lp 127 0) [eN a,eN b,eN (Ai (Ad a*Ad (b.drop i))),iv ((i:Int)-1)] []=Θ (.tup [iv 0,eN (Ai (Ad a*Ad b))],[]):=by
 intro i
 induction i with
 |zero=>
  intro _;refine Au K MI (Abo ..) ?_;refine Cr ?_;rw[AqQ];rfl
 |succ i ih=>
  intro hi;have hlt:i<b.length:=by omega
  have hx:=hb.get hlt;have ln:∀ j:Nat,(Ai (Ad a*Ad (b.drop j))).length<=a.length+b.length:=λj=>by
   have:=EV ha (hb.drop j);rw[List.length_drop]at this;omega
  have l1:=ln (i+1);rw[show (((i+1:Nat):Int)-1)=(i:Int) by omega];refine Au K MI (Abo ..) ?_;refine B6 ?_;have g:=Ago K (eN a) (eN b) (i:Int) rfl rfl (out:=Ai (Ad a*Ad (b.drop (i+1)))) (by omega) _ 0 [0] rfl (by omega) rfl;refine Aa g ?_;simp only[eN,Fu,ND,DK,Ab];rw[Av,At (ξ hlt)];simp only[eL,Fu,ND,DK,Ab];rw[Bo (show b[i]<_ by omega)];refine Ac ?_;refine Aa (QW K ha (by omega) b[i] hx) ?_;simp only[eN,Fu,ND,DK,Ab];rw[AF AD (0::Ai (Ad a*Ad (b.drop (i+1)))) (by simp)];refine Ac ?_;rw[Be AD (0::Ai (Ad a*Ad (b.drop (i+1)))) (by simp),show Bi ((Ai (Ad a*Ad (b.drop (i+1)))).length+1) 1 (Ah eL (0::Ai (Ad a*Ad (b.drop (i+1)))))=(0::Ai (Ad a*Ad (b.drop (i+1)))).map eL from CL AD (0::Ai (Ad a*Ad (b.drop (i+1))))];have l3:(Ai (Ad a*b[i])).length<=a.length+1:=by
   have:=EV ha (AdP hx)
   rwa [show Ad [b[i]]=b[i] by simp[Ad]]at this
  have g2:=KU K (a:=0::Ai (Ad a*Ad (b.drop (i+1)))) (b:=Ai (Ad a*b[i])) (by rw[AqR];omega) (Bf (by omega) (Am _)) (by omega) (Am _);rw[Ad,Az,Az,AcQ,show b[i]+4294967296*Ad (b.drop (i+1))=Ad (b.drop i) by rw[κ hlt,Ad]]at g2;refine Aa g2 ?_;simp only[eN,Fu,ND,DK,Ab];rw[Dm (by omega) (by omega)];refine Aa (ih (by omega)) ?_;rfl
theorem Af6{a b:List Nat}(ha:Limbs a)(hb:Limbs b)(hs:a.length+b.length<=900000000):D.ask (.fn 127) [eN a,eN b] []=Θ (eN (Ai (Ad a*Ad b)),[]):=by
 have g:=Agp K ha hb hs b.length (π _);rw[List.drop_length,Ad,Atf,Cj]at g;refine AB K MI (AoM ..) ?_;rw[Ak,Dm (by omega) (by omega)];refine Aa g ?_;simp only[eN,ND,DK,Ab];have l1:=EV ha hb;have g2:=CP K (l:=Ai (Ad a*Ad b)) (by unfold BL;omega) (Am _);rw[Az]at g2;refine Aa g2 ?_;rfl
theorem Adz{a b:List Nat}(hl:a.length=b.length)(hs:BL a):∀(k i:Nat),a.length-i=k->i<=a.length->D.ask (.lp 107 0) [eN a,eN b,iv (i:Int)] []=if a.drop i=b.drop i then Θ (.tup [iv 0],[]) else Θ (.tup [bv Δ,bv Φ],[]):=by
 intro k;unfold BL at hs
 induction k with
 |zero=>
  intro i hk hi;rw[AqX (show a.length<=i by omega),AqX (show b.length<=i by omega),if_pos rfl];refine Au K Ou (RN ..) ?_;rw[Ak];exact Ag rfl
 |succ k ih=>
  intro i hk hi;have h1:i<a.length:=by omega
  have h2:i<b.length:=by omega
  have ih':=ih (i+1) (by omega) (by omega);rw[κ h1,κ h2]
  by_cases h:a[i]=b[i]
  .by_cases h3:a.drop (i+1)=b.drop (i+1)
   .rw[if_pos h3]at ih'
    rw[if_pos (by rw[h,h3])];refine Au K Ou (RN ..) ?_;rw[Ak];refine Aj ?_;rw[Av,At (ξ h1)];simp only[eL,Fu,ND,DK,Ab];rw[Av,At (ξ h2)];simp only[eL,Fu,ND,DK,Ab];rw[BA (by omega)];refine Bu ?_;refine Aa ih' ?_;rfl
   .rw[if_neg h3]at ih'
    rw[if_neg (λe=>h3 (List.cons.inj e).2)];refine Au K Ou (RN ..) ?_;rw[Ak];refine Aj ?_;rw[Av,At (ξ h1)];simp only[eL,Fu,ND,DK,Ab];rw[Av,At (ξ h2)];simp only[eL,Fu,ND,DK,Ab];rw[BA (by omega)];refine Bu ?_;refine Aa ih' ?_;rfl
  .rw[if_neg (λe=>h (List.cons.inj e).1)]
   refine Au K Ou (RN ..) ?_;rw[Ak];refine Aj ?_;rw[Av,At (ξ h1)];simp only[eL,Fu,ND,DK,Ab];rw[Av,At (ξ h2)];simp only[eL,Fu,ND,DK,Ab];rw[BA (by omega)];exact AN rfl
theorem Ac9{a b:List Nat}(hs:BL a):D.ask (.fn 107) [eN a,eN b] []=Θ (bv (decide (a=b)),[]):=by
 refine AB K Ou (AoA ..) ?_;rw[Ak,Ak]
 by_cases hl:a.length=b.length
 .refine Bu ?_
  have g:=Adz K hl hs a.length 0 (by omega) (by omega);rw[AqQ,AqQ]at g
  by_cases h:a=b
  .rw[if_pos h]at g
   rw[decide_eq_true h];refine Aa g ?_;rfl
  .rw[if_neg h]at g
   rw[decide_eq_false h];refine Aa g ?_;rfl
 .refine AN ?_
  rw[decide_eq_false (λe=>hl (by rw[e]))]
end
section
variable {D:Orc} (K:Knows Al Hi D) (Z:Knows Al Jl D) (C:CloneF D)
include K Z C
theorem Ex(neg:Bool){a:List Nat}(ha:Limbs a)(hs:BL a):D.ask (.fn 71) [bv neg,eN a] []=Θ (.agg (eZ (Aq (CJ neg (Ad a)))),[]):=by
 refine AB Z Al3 (e71 ..) ?_;refine Aa (Fy K C hs ha) ?_;simp only[eN,ND,DK,Ab,Ak];rw[Lp];unfold eZ eN
 cases neg with
 |false=>rfl
 |true=>
  refine Ac ?_;refine Ac ?_;refine Ac ?_;have hp:=@Dr (Ad a)
  by_cases h:0<Ad a
  .refine Aj ?_ (by have:=hp.2 h;omega)
   rw[decide_eq_true h];rfl
  .refine Ag ?_ (by intro e;exact h (hp.1 (by omega)))
   rw[decide_eq_false h];rfl
theorem N1{z:Zi}(hz:Lz 1000000000 z):D.ask (.fn 68) [.agg (eZ z)] []=Θ (.agg (eZ (Aq (zv z))),[]):=by
 refine AB Z Al1 (e68 ..) ?_;refine Aa (Ex K Z C z.neg hz.lim hz.len) ?_;rfl
theorem YH{z:Zi}(hz:Lz 1000000000 z):D.ask (.fn 39) [.agg (eZ z)] []=Θ (.agg (eZ (Aq (-zv z))),[]):=by
 have e:-zv z=CJ (!z.neg) (Ad z.abs):=by
  unfold zv CJ
  cases z.neg<;>simp
 rw[e];refine AB Z AlI (e39 ..) ?_;rw[Ada];have g:=λb=>Ex K Z C b hz.lim hz.len
 cases z.neg with
 |false=>
  refine Ac ?_;refine Aa (g Δ) ?_;rfl
 |true=>
  refine Ba ?_;refine Aa (g Φ) ?_;rfl
theorem Lo{z:Zi}(hz:Lz 1000000000 z):D.ask (.fn 30) [.agg (eZ z)] []=Θ (iv (BC (zv z)),[]):=by
 refine AB Z AlC (e30 ..) ?_;refine Aa (N1 K Z C hz) ?_;simp only[eZ,eN,ND,DK,Ab,Ak];unfold Aq BC
 by_cases h:zv z<0
 .rw[if_pos h,decide_eq_true h]
  rfl
 .rw[if_neg h,decide_eq_false h]
  refine Ba ?_;have hp:=@Dr (zv z).natAbs
  by_cases h2:0<zv z
  .rw[if_pos h2]
   refine Aj ?_ (by have:=hp.2 (by omega);dsimp only;omega);rfl
  .rw[if_neg h2]
   refine Ag ?_ (by dsimp only;intro e;have:=hp.1 (by omega);omega);rfl
theorem Aem(n:Int)(h1:-9223372036854775808<=n)(h2:n<9223372036854775808):D.ask (.fn 73) [iv n] []=Θ (.agg (eZ (Aq n)),[]):=by
 refine AB Z Al5 (e73 ..) ?_;have hl:∀ m:Nat,m<18446744073709551616->(Ai m).length<=2:=λm h=>Bc (by omega)
 by_cases h:n<0
 .refine Aj ?_ h
  have e1:Af.add .i64 n 1=n+1:=EJ (by omega) (by omega);have e2:Af.sub .i64 0 (n+1)=((n.natAbs-1:Nat):Int):=by rw[Dm (by omega) (by omega)];omega
  rw[e1,e2,Bo (by omega),show (1:Int)=((1:Nat):Int) from rfl,Cc (by omega),show n.natAbs-1+1=n.natAbs by omega];refine Aa (Ahg K C n.natAbs (by omega)) ?_;simp only[eN,ND,DK,Ab];have g:=Ex K Z C Δ (Am n.natAbs) (by unfold BL;have:=hl n.natAbs (by omega);omega);rw[Az,show CJ Δ n.natAbs=n by unfold CJ;rw[if_pos rfl];omega]at g;refine Aa g ?_;rfl
 .refine Ag ?_ h
  obtain⟨m,rfl⟩:=At1 (show 0<=n by omega);rw[Bo (by omega)];refine Aa (Ahg K C m (by omega)) ?_;simp only[eN,ND,DK,Ab];have g:=Ex K Z C Φ (Am m) (by unfold BL;have:=hl m (by omega);omega);rw[Az,show CJ Φ m=(m:Int) from rfl]at g;refine Aa g ?_;rfl
theorem Aha{a b:Zi}(ha:Lz 1000000000 a)(hb:Lz 1000000000 b):D.ask (.fn 41) [.agg (eZ a),.agg (eZ b)] []=Θ (iv (Cp (zv a) (zv b)),[]):=by
 refine AB Z AlK (e41 ..) ?_;refine Aa (Lo K Z C ha) ?_;simp only[ND,DK,Ab];refine Aa (Lo K Z C hb) ?_;simp only[ND,DK,Ab];have g1:=Vq K (a:=b.abs) (b:=a.abs) hb.len hb.lim ha.len ha.lim;have g2:=Vq K (a:=a.abs) (b:=b.abs) ha.len ha.lim hb.len hb.lim;have na:=Aeo a;have nb:=Aeo b;have za:=YI a;have zb:=YI b;have va:zv a=CJ a.neg (Ad a.abs):=rfl;have vb:zv b=CJ b.neg (Ad b.abs):=rfl;unfold BC
 by_cases h1:zv a<0
 .rw[if_pos h1]
  rw[CJ,if_pos (na.1 h1).1]at va
  by_cases h2:zv b<0
  .rw[if_pos h2]
   rw[CJ,if_pos (nb.1 h2).1]at vb;refine Ag ?_ (by decide);refine Ag ?_ (by decide);refine Aj ?_ (by decide);refine Aa g1 ?_;rw[show Cp (zv a) (zv b)=CT (Ad b.abs) (Ad a.abs) by
    unfold Cp CT;rw[va,vb]
    by_cases h3:Ad b.abs<Ad a.abs
    .rw[if_pos (by omega),if_pos h3]
    .rw[if_neg (by omega),if_neg h3]
     by_cases h4:Ad a.abs<Ad b.abs
     .rw[if_pos (by omega),if_pos h4]
     .rw[if_neg (by omega),if_neg h4]]
   rfl
  .rw[if_neg h2]
   rw[show Cp (zv a) (zv b)=-1 by unfold Cp;rw[if_pos (by omega)]]
   by_cases h3:0<zv b
   .rw[if_pos h3];rfl
   .rw[if_neg h3];rfl
 .rw[if_neg h1]
  by_cases h2:zv b<0
  .rw[if_pos h2]
   rw[show Cp (zv a) (zv b)=1 by unfold Cp;rw[if_neg (by omega),if_pos (by omega)]]
   by_cases h3:0<zv a
   .rw[if_pos h3];rfl
   .rw[if_neg h3];rfl
  .rw[if_neg h2]
   have ea:zv a=(Ad a.abs:Int):=by
    by_cases h:0<Ad a.abs
    .rw[va,CJ,if_neg (λe=>h1 (na.2 ⟨e,h⟩))]
    .rw[za.2 (by omega)];omega
   have eb:zv b=(Ad b.abs:Int):=by
    by_cases h:0<Ad b.abs
    .rw[vb,CJ,if_neg (λe=>h2 (nb.2 ⟨e,h⟩))]
    .rw[zb.2 (by omega)];omega
   have ec:Cp (zv a) (zv b)=CT (Ad a.abs) (Ad b.abs):=by
    unfold Cp CT;rw[ea,eb]
    by_cases h3:Ad a.abs<Ad b.abs
    .rw[if_pos (by omega),if_pos h3]
    .rw[if_neg (by omega),if_neg h3]
     by_cases h4:Ad b.abs<Ad a.abs
     .rw[if_pos (by omega),if_pos h4]
     .rw[if_neg (by omega),if_neg h4]
   rw[ec]
   by_cases h3:0<zv a
   .rw[if_pos h3]
    by_cases h4:0<zv b
    .rw[if_pos h4]
     refine Ag ?_ (by decide);refine Ag ?_ (by decide);refine Ag ?_ (by decide);refine Aa g2 ?_;rfl
    .rw[if_neg h4]
     refine Ag ?_ (by decide);refine Aj ?_ (by decide);rw[show CT (Ad a.abs) (Ad b.abs)=1 by unfold CT;rw[if_neg (by omega),if_pos (by omega)]]
   .rw[if_neg h3]
    by_cases h4:0<zv b
    .rw[if_pos h4]
     refine Aj ?_ (by decide);rw[show CT (Ad a.abs) (Ad b.abs)=-1 by unfold CT;rw[if_pos (by omega)]]
    .rw[if_neg h4]
     refine Ag ?_ (by decide);refine Ag ?_ (by decide);refine Ag ?_ (by decide);refine Aa g2 ?_;rfl
theorem S9{k:Nat}(hk:k<=900000000){a b:Zi}(ha:Lz k a)(hb:Lz k b):D.ask (.fn 63) [.agg (eZ a),.agg (eZ b)] []=Θ (.agg (eZ (Aq (zv a+zv b))),[]):=by
 have la:=ha.len;have lb:=hb.len;refine AB Z AlY (e63 ..) ?_;have hfr:∀(neg:Bool) (n:Nat),n<4294967296 ^ (k+1)->D.ask (.fn 71) [bv neg,eN (Ai n)] []=Θ (.agg (eZ (Aq (CJ neg n))),[]):=λneg n h=>by
  have:=Ex K Z C neg (Am n) (by unfold BL;have:=Bc h;omega)
  rwa [Az]at this
 have ba:=Bt ha.lim;have bb:=Bt hb.lim;have pa:4294967296 ^ a.abs.length<=4294967296 ^ k:=Ar7 (by omega) la;have pb:4294967296 ^ b.abs.length<=4294967296 ^ k:=Ar7 (by omega) lb;have ps:4294967296 ^ (k+1)=4294967296 ^ k*4294967296:=ArP ..
 by_cases h:a.neg=b.neg
 .rw[QU,show (a.neg == b.neg)=Δ by simpa using h]
  refine Ac ?_;refine Aa (AiA K C (by omega) ha.lim (by omega) hb.lim) ?_;simp only[eN,ND,DK,Ab];refine Aa (hfr a.neg (Ad a.abs+Ad b.abs) (by omega)) ?_;rw[show CJ a.neg (Ad a.abs+Ad b.abs)=zv a+zv b by
   unfold zv;rw[←h];unfold CJ;split<;>omega]
  rfl
 .rw[QU,show (a.neg == b.neg)=Φ by simpa using h]
  refine Ba ?_;have hop:zv a+zv b=CJ a.neg (Ad a.abs)+CJ (!a.neg) (Ad b.abs):=by
   unfold zv;have:b.neg = !a.neg:=by
    revert h
    cases a.neg<;>cases b.neg<;>simp
   rw[this]
  have g1:=AaM K C (a:=a.abs) (b:=b.abs) (by unfold BL;omega) ha.lim (by unfold BL;omega) hb.lim;have g2:=AaM K C (a:=b.abs) (b:=a.abs) (by unfold BL;omega) hb.lim (by unfold BL;omega) ha.lim;unfold ME at g1 g2;refine Aa g1 ?_
  by_cases hle:Ad b.abs<=Ad a.abs
  .rw[if_pos hle]
   simp only[eN,ND,DK,Ab];refine Aa (hfr a.neg (Ad a.abs-Ad b.abs) (by omega)) ?_;rw[show CJ a.neg (Ad a.abs-Ad b.abs)=zv a+zv b by
    rw[hop];unfold CJ
    cases a.neg<;>simp<;>omega]
   rfl
  .rw[if_neg hle]
   rw[if_pos (by omega)]at g2;simp only[eN,ND,DK,Ab];refine Aa g2 ?_;simp only[eN,ND,DK,Ab];refine Aa (hfr b.neg (Ad b.abs-Ad a.abs) (by omega)) ?_;rw[show CJ b.neg (Ad b.abs-Ad a.abs)=zv a+zv b by
    rw[hop];have:b.neg = !a.neg:=by
     revert h
     cases a.neg<;>cases b.neg<;>simp
    rw[this];unfold CJ
    cases a.neg<;>simp<;>omega]
   rfl
theorem Ahc{k m:Nat}(hk:k<=400000000)(hkm:m<=400000000){a b:Zi}(ha:Lz k a)(hb:Lz m b)(h24:a.abs.length<24\/b.abs.length<24):D.ask (.fn 114) [.agg (eZ a),.agg (eZ b)] []=Θ (.agg (eZ (Aq (zv a*zv b))),[]):=by
 have la:=ha.len;have lb:=hb.len;refine AB Z AhK (AoF ..) ?_;have hm:InB (k+m) (zv a*zv b):=ha.inb.mul hb.inb;have hab:(zv a*zv b).natAbs=Ad a.abs*Ad b.abs:=by
  have f:∀ z:Zi,(zv z).natAbs=Ad z.abs:=λz=>by
   unfold zv CJ;split
   .rw[AsW];rfl
   .rfl
  rw[Int.natAbs_mul,f,f]
 unfold InB at hm;rw[hab]at hm;have hl:=Bc hm;have hfr:∀(neg:Bool),D.ask (.fn 71) [bv neg,eN (Ai (Ad a.abs*Ad b.abs))] []=Θ (.agg (eZ (Aq (CJ neg (Ad a.abs*Ad b.abs)))),[]):=λneg=>by
  have:=Ex K Z C neg (Am (Ad a.abs*Ad b.abs)) (by unfold BL;omega)
  rwa [Az]at this
 have g:=AiF K C (by omega) ha.lim (by omega) hb.lim h24;have hs:CJ (a.neg != b.neg) (Ad a.abs*Ad b.abs)=zv a*zv b:=by
  unfold zv CJ
  cases a.neg<;>cases b.neg<;>simp[At5,Atm]
 rw[Ada,QU]
 by_cases h:a.neg=b.neg
 .rw[show (!(a.neg == b.neg))=Φ by simp[h]]
  rw[show (a.neg != b.neg)=Φ by simp[h]]at hs;refine Ba ?_;refine Aa g ?_;simp only[eN,ND,DK,Ab];refine Aa (hfr Φ) ?_;rw[hs];rfl
 .rw[show (!(a.neg == b.neg))=Δ by simp[h]]
  rw[show (a.neg != b.neg)=Δ by simp[h]]at hs;refine Ac ?_;refine Aa g ?_;simp only[eN,ND,DK,Ab];refine Aa (hfr Δ) ?_;rw[hs];rfl
end
section
open Go.RowKit
def Am9:MFn:=BI [] 55
def AlR:Hnt:=⟨[(94,(.ls,[]))],[],[]⟩
def AmN:MFn:=BI [] 20
def Alv:Hnt:=⟨[(55,(.agg Ay,[]))],[],[(4,[.bool]),(6,[.ls])]⟩
def AmS:MFn:=BI [] 27
def AlA:Hnt:=⟨[(55,(.agg Ay,[])),(66,(.ls,[]))],[],[]⟩
def Am7:MFn:=BI [] 50
def AlP:Hnt:=⟨[(94,(.ls,[]))],[],[(4,[.ls]),(9,[.bool])]⟩
def AmM:MFn:=BI [] 19
def Alu:Hnt:=⟨[(55,(.agg Ay,[]))],[],[(4,[.bool]),(7,[.ls])]⟩
def Anw:MFn:=BI [] 98
def Ajj:Hnt:=⟨[(50,(.int .i64,[])),(55,(.agg Ay,[])),(66,(.ls,[])),(98,(.agg Ay,[])),(126,(.tup U0,[]))],[],[(7,Ay),(11,Ay),(16,[.ls]),(18,[.ls]),(21,Ay),(25,Ay),(30,[.ls]),(32,[.ls]),(35,Ay),(38,Ay),(39,Ay),(43,[.ls]),(45,[.ls]),(54,[.ls]),(56,[.ls])]⟩
def Ana:MFn:=BI [] 56
def AlS:Hnt:=⟨[(19,(.agg Ay,[])),(98,(.agg Ay,[]))],[],[(5,Ay),(6,Ay)]⟩
def Anv:MFn:=BI [] 97
def Amd:Hnt:=⟨[(50,(.int .i64,[])),(55,(.agg Ay,[])),(127,(.ls,[]))],[],[(5,Ay),(7,Ay),(12,[.ls]),(14,[.ls])]⟩
def AmO:MFn:=BI [] 21
def Alw:Hnt:=⟨[(50,(.int .i64,[])),(56,(.agg Ay,[]))],[],[(5,Ay),(6,Ay)]⟩
def Anj:MFn:=BI [] 67
def Al0:Hnt:=⟨[(107,(.bool,[]))],[],[(6,[.bool]),(8,[.bool]),(12,[.ls]),(14,[.ls])]⟩
def Q8:List (Nat × MFn):=[(55,Am9),(20,AmN),(27,AmS),(50,Am7),(19,AmM),(98,Anw),(56,Ana),(97,Anv),(21,AmO),(67,Anj)]
variable (A:Ar) (D:Orc)
theorem e55(x0:Bool)(x1:Rw):BN A D Al AlR .n 55 Am9 [bv x0,Ψ x1] [] =
 Ae D (ω 94) [Ψ x1] [] [.l,.E] λxs=>
 br (A.eq (↑(AL xs)) 0)
 (Θ ((φ [bv Φ,Ψ []],[])))
 (Θ ((φ [bv x0,Ψ xs],[]))):=by kernel_rfl
theorem e20(x0_0:Bool)(x0_1:Rw):BN A D Al Alv .n 20 AmN [φ [bv x0_0,Ψ x0_1]] [] =
 Ae D (ω 55) [bv x0_0,Ψ x0_1] [] [.a,.B,.L,.N,.E] λb xs=>
 Θ ((φ [bv b,Ψ xs],[])):=by kernel_rfl
theorem e27(x0:Int):BN A D Al AlA (.b (.b (.b .n (.f .n)) .n) (.b .n (.b .n (.f .n)))) 27 AmS [iv x0] [] =
 br (A.le 0 x0)
 (br (A.eq 4294967296 0)
 (Ξ)
 (br (A.eq 4294967296 0) Ξ (AA D (ω 55) [bv Φ,Ψ [[Aq0 (Value.int ζ (A.conv ζ (A.rem δ x0 4294967296)))],[Aq0 (Value.int ζ (A.conv ζ (A.quo δ x0 4294967296)))]]] [] λr o=>
 dk [.a,.B,.L,.N,.E] [.v r,.o o] λb xs=>
 Θ ((φ [bv b,Ψ xs],[])))))
 (br (A.eq 4294967296 0)
 (Ξ)
 (br (A.eq 4294967296 0) Ξ (AA D (ω 66) [Ψ [[Aq0 (Value.int ζ (A.conv ζ (A.rem δ (A.sub δ 0 (A.add δ x0 1)) 4294967296)))],[Aq0 (Value.int ζ (A.conv ζ (A.quo δ (A.sub δ 0 (A.add δ x0 1)) 4294967296)))]],Ψ [[Aq0 (Value.int ζ 1)]]] [] λr o=>
 Mr r λxs=>
 DI o<|
 Ae D (ω 55) [bv Δ,Ψ xs] [] [.a,.B,.L,.N,.E] λb xs1=>
 Θ ((φ [bv b,Ψ xs1],[]))))):=by kernel_rfl
theorem e50(x0_0:Bool)(x0_1:Rw):BN A D Al AlP .n 50 Am7 [φ [bv x0_0,Ψ x0_1]] [] =
 Ae D (ω 94) [Ψ x0_1] [] [.l,.E] λxs=>
 br (A.eq (↑(AL xs)) 0)
 (Θ ((iv 0,[])))
 (br x0_0
 (Θ ((iv (-1),[])))
 (Θ ((iv 1,[])))):=by kernel_rfl
theorem e19(x0_0:Bool)(x0_1:Rw):BN A D Al Alu .n 19 AmM [φ [bv x0_0,Ψ x0_1]] [] =
 br (A.not x0_0)
 (Ae D (ω 55) [bv Δ,Ψ x0_1] [] [.a,.B,.L,.N,.E] λb xs=>
 Θ ((φ [bv b,Ψ xs],[])))
 (Ae D (ω 55) [bv Φ,Ψ x0_1] [] [.a,.B,.L,.N,.E] λb xs=>
 Θ ((φ [bv b,Ψ xs],[]))):=by kernel_rfl
theorem e98(x0_0:Bool)(x0_1:Rw)(x1_0:Bool)(x1_1:Rw):BN A D Al Ajj .n 98 Anw [φ [bv x0_0,Ψ x0_1],φ [bv x1_0,Ψ x1_1]] [] =
 Ae D (ω 50) [φ [bv x0_0,Ψ x0_1]] [] [.i,.E] λn=>
 br (A.lt n 0)
 (Ae D (ω 50) [φ [bv x1_0,Ψ x1_1]] [] [.i,.E] λn1=>
 br (A.lt n1 0)
 (Ae D (ω 66) [Ψ x0_1,Ψ x1_1] [] [.l,.E] λxs=>
 Ae D (ω 55) [bv Δ,Ψ xs] [] [.a,.B,.L,.N,.E] λb xs1=>
 Θ ((φ [bv b,Ψ xs1],[])))
 (Ae D (ω 50) [φ [bv x0_0,Ψ x0_1]] [] [.i,.E] λn2=>
 br (A.le 0 n2)
 (Ae D (ω 50) [φ [bv x1_0,Ψ x1_1]] [] [.i,.E] λn3=>
 br (A.le 0 n3)
 (Ae D (ω 66) [Ψ x0_1,Ψ x1_1] [] [.l,.E] λxs=>
 Ae D (ω 55) [bv Φ,Ψ xs] [] [.a,.B,.L,.N,.E] λb xs1=>
 Θ ((φ [bv b,Ψ xs1],[])))
 (Ae D (ω 50) [φ [bv x0_0,Ψ x0_1]] [] [.i,.E] λn4=>
 br (A.lt n4 0)
 (Ae D (ω 98) [φ [bv x1_0,Ψ x1_1],φ [bv x0_0,Ψ x0_1]] [] [.a,.B,.L,.N,.E] λb xs=>
 Θ ((φ [bv b,Ψ xs],[])))
 (Ae D (ω 126) [Ψ x0_1,Ψ x1_1] [] [.t,.L,.B,.N,.E] λxs b=>
 br b
 (Ae D (ω 55) [bv Φ,Ψ xs] [] [.a,.B,.L,.N,.E] λb1 xs1=>
 Θ ((φ [bv b1,Ψ xs1],[])))
 (Ae D (ω 126) [Ψ x1_1,Ψ x0_1] [] [.t,.L,.B,.N,.E] λxs1 _=>
 Ae D (ω 55) [bv Δ,Ψ xs1] [] [.a,.B,.L,.N,.E] λb2 xs2=>
 Θ ((φ [bv b2,Ψ xs2],[]))))))
 (Ae D (ω 50) [φ [bv x0_0,Ψ x0_1]] [] [.i,.E] λn3=>
 br (A.lt n3 0)
 (Ae D (ω 98) [φ [bv x1_0,Ψ x1_1],φ [bv x0_0,Ψ x0_1]] [] [.a,.B,.L,.N,.E] λb xs=>
 Θ ((φ [bv b,Ψ xs],[])))
 (Ae D (ω 126) [Ψ x0_1,Ψ x1_1] [] [.t,.L,.B,.N,.E] λxs b=>
 br b
 (Ae D (ω 55) [bv Φ,Ψ xs] [] [.a,.B,.L,.N,.E] λb1 xs1=>
 Θ ((φ [bv b1,Ψ xs1],[])))
 (Ae D (ω 126) [Ψ x1_1,Ψ x0_1] [] [.t,.L,.B,.N,.E] λxs1 _=>
 Ae D (ω 55) [bv Δ,Ψ xs1] [] [.a,.B,.L,.N,.E] λb2 xs2=>
 Θ ((φ [bv b2,Ψ xs2],[])))))))
 (Ae D (ω 50) [φ [bv x0_0,Ψ x0_1]] [] [.i,.E] λn1=>
 br (A.le 0 n1)
 (Ae D (ω 50) [φ [bv x1_0,Ψ x1_1]] [] [.i,.E] λn2=>
 br (A.le 0 n2)
 (Ae D (ω 66) [Ψ x0_1,Ψ x1_1] [] [.l,.E] λxs=>
 Ae D (ω 55) [bv Φ,Ψ xs] [] [.a,.B,.L,.N,.E] λb xs1=>
 Θ ((φ [bv b,Ψ xs1],[])))
 (Ae D (ω 50) [φ [bv x0_0,Ψ x0_1]] [] [.i,.E] λn3=>
 br (A.lt n3 0)
 (Ae D (ω 98) [φ [bv x1_0,Ψ x1_1],φ [bv x0_0,Ψ x0_1]] [] [.a,.B,.L,.N,.E] λb xs=>
 Θ ((φ [bv b,Ψ xs],[])))
 (Ae D (ω 126) [Ψ x0_1,Ψ x1_1] [] [.t,.L,.B,.N,.E] λxs b=>
 br b
 (Ae D (ω 55) [bv Φ,Ψ xs] [] [.a,.B,.L,.N,.E] λb1 xs1=>
 Θ ((φ [bv b1,Ψ xs1],[])))
 (Ae D (ω 126) [Ψ x1_1,Ψ x0_1] [] [.t,.L,.B,.N,.E] λxs1 _=>
 Ae D (ω 55) [bv Δ,Ψ xs1] [] [.a,.B,.L,.N,.E] λb2 xs2=>
 Θ ((φ [bv b2,Ψ xs2],[]))))))
 (Ae D (ω 50) [φ [bv x0_0,Ψ x0_1]] [] [.i,.E] λn2=>
 br (A.lt n2 0)
 (Ae D (ω 98) [φ [bv x1_0,Ψ x1_1],φ [bv x0_0,Ψ x0_1]] [] [.a,.B,.L,.N,.E] λb xs=>
 Θ ((φ [bv b,Ψ xs],[])))
 (Ae D (ω 126) [Ψ x0_1,Ψ x1_1] [] [.t,.L,.B,.N,.E] λxs b=>
 br b
 (Ae D (ω 55) [bv Φ,Ψ xs] [] [.a,.B,.L,.N,.E] λb1 xs1=>
 Θ ((φ [bv b1,Ψ xs1],[])))
 (Ae D (ω 126) [Ψ x1_1,Ψ x0_1] [] [.t,.L,.B,.N,.E] λxs1 _=>
 Ae D (ω 55) [bv Δ,Ψ xs1] [] [.a,.B,.L,.N,.E] λb2 xs2=>
 Θ ((φ [bv b2,Ψ xs2],[])))))):=by kernel_rfl
theorem e56(x0_0:Bool)(x0_1:Rw)(x1_0:Bool)(x1_1:Rw):BN A D Al AlS .n 56 Ana [φ [bv x0_0,Ψ x0_1],φ [bv x1_0,Ψ x1_1]] [] =
 Ae D (ω 19) [φ [bv x1_0,Ψ x1_1]] [] [.a,.B,.L,.N,.E] λb xs=>
 Ae D (ω 98) [φ [bv x0_0,Ψ x0_1],φ [bv b,Ψ xs]] [] [.a,.B,.L,.N,.E] λb1 xs1=>
 Θ ((φ [bv b1,Ψ xs1],[])):=by kernel_rfl
theorem e97(x0_0:Bool)(x0_1:Rw)(x1_0:Bool)(x1_1:Rw):BN A D Al Amd .n 97 Anv [φ [bv x0_0,Ψ x0_1],φ [bv x1_0,Ψ x1_1]] [] =
 Ae D (ω 50) [φ [bv x0_0,Ψ x0_1]] [] [.i,.E] λn=>
 Ae D (ω 50) [φ [bv x1_0,Ψ x1_1]] [] [.i,.E] λn1=>
 br (A.lt (A.mul δ n n1) 0)
 (Ae D (ω 127) [Ψ x0_1,Ψ x1_1] [] [.l,.E] λxs=>
 Ae D (ω 55) [bv Δ,Ψ xs] [] [.a,.B,.L,.N,.E] λb xs1=>
 Θ ((φ [bv b,Ψ xs1],[])))
 (Ae D (ω 127) [Ψ x0_1,Ψ x1_1] [] [.l,.E] λxs=>
 Ae D (ω 55) [bv Φ,Ψ xs] [] [.a,.B,.L,.N,.E] λb xs1=>
 Θ ((φ [bv b,Ψ xs1],[]))):=by kernel_rfl
theorem e21(x0_0:Bool)(x0_1:Rw)(x1_0:Bool)(x1_1:Rw):BN A D Al Alw .n 21 AmO [φ [bv x0_0,Ψ x0_1],φ [bv x1_0,Ψ x1_1]] [] =
 Ae D (ω 56) [φ [bv x0_0,Ψ x0_1],φ [bv x1_0,Ψ x1_1]] [] [.a,.B,.L,.N,.E] λb xs=>
 Ae D (ω 50) [φ [bv b,Ψ xs]] [] [.i,.E] λn=>
 Θ ((iv n,[])):=by kernel_rfl
theorem e67(x0_0:Bool)(x0_1:Rw)(x1_0:Bool)(x1_1:Rw):BN A D Al Al0 .n 67 Anj [φ [bv x0_0,Ψ x0_1],φ [bv x1_0,Ψ x1_1]] [] =
 br (A.beq x0_0 x1_0)
 (Ae D (ω 107) [Ψ x0_1,Ψ x1_1] [] [.b,.E] λb=>
 br b
 (Θ ((bv Δ,[])))
 (Θ ((bv Φ,[]))))
 (Θ ((bv Φ,[]))):=by kernel_rfl
end
theorem G9{z:Zi}(h:zv z<0):zv z=-(Ad z.abs:Int):=by
 unfold zv CJ at *
 cases e:z.neg<;>rw[e]at h<;>simp at h ⊢
 omega
theorem E5{z:Zi}(h:¬ zv z<0):zv z=(Ad z.abs:Int):=by
 unfold zv CJ at *
 cases e:z.neg<;>rw[e]at h<;>simp at h ⊢
 omega
theorem Mj{n:Int}:BC n<0 ↔ n<0:=by
 unfold BC;split
 .omega
 .split<;>omega
theorem Ae6{k:Nat}{x y:Int}(hx:InB k x)(hy:InB k y):InB (k+1) (x+y):=by
 unfold InB at *;rw[ArP];have:=Int.natAbs_add_le x y;omega
theorem QN{k:Nat}(hk:k<=900000000){a b:Zi}(ha:Lz k a)(hb:Lz k b):BL (Ai (Ad a.abs+Ad b.abs)):=by
 unfold BL;have h1:=ha.inb;have h2:=hb.inb;have f:∀ z:Zi,(zv z).natAbs=Ad z.abs:=λz=>by
  unfold zv CJ;split
  .rw[AsW];rfl
  .rfl
 unfold InB at h1 h2;rw[f]at h1 h2;have:=Bc (n:=Ad a.abs+Ad b.abs) (k:=k+1) (by rw[ArP];omega);omega
theorem Dw(n:Int):BC n=-1/\n<0\/BC n=1/\0<n\/BC n=0/\n=0:=by
 unfold BC;split
 .omega
 .split<;>omega
theorem SI(x y:Int):Af.mul .i64 (BC x) (BC y)=BC x*BC y:=by
 show IntKind.i64.wrap (BC x*BC y)=_
 rw[IntKind.wrap_i64];rcases Dw x with h|h|h<;>rcases Dw y with h2|h2|h2<;>rw[h.1,h2.1]<;>rfl
theorem Wv{a b:Zi}(h:BC (zv a)*BC (zv b)<0):CJ Δ (Ad a.abs*Ad b.abs)=zv a*zv b:=by
 unfold CJ;rw[if_pos rfl,As3]
 by_cases ha:zv a<0
 .rw[G9 ha]
  by_cases hb:zv b<0
  .exfalso
   rcases Dw (zv a) with h1|h1|h1<;>rcases Dw (zv b) with h2|h2|h2<;>rw[h1.1,h2.1]at h<;>omega
  .rw[E5 hb,Atm]
 .rw[E5 ha]
  by_cases hb:zv b<0
  .rw[G9 hb,At5]
  .exfalso
   rcases Dw (zv a) with h1|h1|h1<;>rcases Dw (zv b) with h2|h2|h2<;>rw[h1.1,h2.1]at h<;>omega
theorem Ww{a b:Zi}(h:¬ BC (zv a)*BC (zv b)<0):CJ Φ (Ad a.abs*Ad b.abs)=zv a*zv b:=by
 unfold CJ;rw[if_neg (by simp),As3];rcases Dw (zv a) with h1|h1|h1
 .rcases Dw (zv b) with h2|h2|h2
  .rw[G9 h1.2,G9 h2.2,Int.neg_mul_neg]
  .exfalso
   rw[h1.1,h2.1]at h;omega
  .have:=E5 (z:=b) (by omega)
   rw[h2.2,AtS,←this,h2.2,AtS]
 .rcases Dw (zv b) with h2|h2|h2
  .exfalso
   rw[h1.1,h2.1]at h;omega
  .rw[←E5 (z:=a) (by omega),←E5 (z:=b) (by omega)]
  .have:=E5 (z:=b) (by omega)
   rw[h2.2,AtS,←this,h2.2,AtS]
 .have:=E5 (z:=a) (by omega)
  rw[h1.2,Aug,←this,h1.2,Aug]
section
variable {D:Orc} (K:Knows Al Lg D) (R:Knows Al Q8 D)
include K R
theorem Dk(neg:Bool){a:List Nat}(ha:Limbs a)(hs:BL a):D.ask (.fn 55) [bv neg,eN a] []=Θ (.agg (eZ (Aq (CJ neg (Ad a)))),[]):=by
 refine AB R AlR (e55 ..) ?_;refine Aa (CP K hs ha) ?_;simp only[eN,ND,DK,Ab,Ak];rw[Lp];unfold eZ eN;have hp:=@Dr (Ad a)
 by_cases h:0<Ad a
 .refine AN ?_ (by have:=hp.2 h;omega)
  rw[decide_eq_true h,Bool.and_true]
 .have h0:Ad a=0:=by omega
  rw[decide_eq_false h,Bool.and_false,h0,Cj];exact Bu rfl rfl
theorem ZH{z:Zi}(hz:Lz 1000000000 z):D.ask (.fn 20) [.agg (eZ z)] []=Θ (.agg (eZ (Aq (zv z))),[]):=by
 refine AB R Alv (e20 ..) ?_;refine Aa (Dk K R z.neg hz.lim hz.len) ?_;rfl
theorem Dl{z:Zi}(hz:Lz 1000000000 z):D.ask (.fn 50) [.agg (eZ z)] []=Θ (iv (BC (zv z)),[]):=by
 refine AB R AlP (e50 ..) ?_;refine Aa (CP K hz.len hz.lim) ?_;simp only[eN,ND,DK,Ab,Ak];have hp:=@Dr (Ad z.abs);unfold zv CJ
 by_cases h:0<Ad z.abs
 .refine AN ?_ (by have:=hp.2 h;omega)
  cases z.neg with
  |false=>
   refine Ba ?_;rw[if_neg (by simp)];unfold BC;rw[if_neg (by omega)]
   first|rw[if_pos (by omega)] | rw[if_neg (by omega)]
  |true=>
   refine Ac ?_;rw[if_pos rfl];unfold BC
   first|rw[if_pos (by omega)] | rw[if_neg (by omega),if_neg (by omega)]
 .have h0:Ad z.abs=0:=by omega
  rw[h0,Cj];refine Bu ?_ rfl
  cases z.neg<;>rfl
theorem Yc{z:Zi}(hz:Lz 1000000000 z):D.ask (.fn 19) [.agg (eZ z)] []=Θ (.agg (eZ (Aq (-zv z))),[]):=by
 have e:-zv z=CJ (!z.neg) (Ad z.abs):=by
  unfold zv CJ
  cases z.neg<;>simp
 rw[e];refine AB R Alu (e19 ..) ?_;rw[Ada];have g:=λb=>Dk K R b hz.lim hz.len
 cases z.neg with
 |false=>
  refine Ac ?_;refine Aa (g Δ) ?_;rfl
 |true=>
  refine Ba ?_;refine Aa (g Φ) ?_;rfl
theorem QZ{k:Nat}(hk:k<=900000000){a b:Zi}(ha:Lz k a)(hb:Lz k b)(hp:¬ zv a<0):D.ask (.fn 98) [.agg (eZ a),.agg (eZ b)] []=Θ (.agg (eZ (Aq (zv a+zv b))),[]):=by
 have la:=ha.len;have lb:=hb.len;have sa:=Dl K R (ha.mono (show k<=1000000000 by omega));have sb:=Dl K R (hb.mono (show k<=1000000000 by omega));have ea:=E5 hp;have hsa:¬ BC (zv a)<0:=λh=>hp (Mj.1 h)
 refine AB R Ajj (e98 ..) ?_;refine Aa sa ?_;simp only[P2,ND,DK,Ab];refine Ag ?_ hsa;refine Aa sa ?_;simp only[P2,ND,DK,Ab];refine B6 ?_;refine Aa sb ?_;simp only[P2,ND,DK,Ab]
 by_cases hb0:zv b<0
 .have hsb:=Mj.2 hb0
  have eb:=G9 hb0;refine Cr ?_;refine Aa sa ?_;simp only[P2,ND,DK,Ab];refine Ag ?_ hsa;have g1:=Sw K (a:=a.abs) (b:=b.abs) (by unfold BL;omega) ha.lim (by unfold BL;omega) hb.lim;unfold ME at g1;refine Aa g1 ?_
  by_cases hle:Ad b.abs<=Ad a.abs
  .rw[if_pos hle]
   simp only[eN,ND,DK,Ab];have g2:=Dk K R Φ (a:=Ai (Ad a.abs-Ad b.abs)) (Am _) (by
    unfold BL;have:=Bc (n:=Ad a.abs-Ad b.abs) (k:=a.abs.length) (by have:=Bt ha.lim;omega);omega)
   rw[Az,show CJ Φ (Ad a.abs-Ad b.abs)=zv a+zv b by unfold CJ;rw[if_neg (by simp)];omega]at g2;refine Aa g2 ?_;rfl
  .rw[if_neg hle]
   simp only[eN,ND,DK,Ab];have g3:=Sw K (a:=b.abs) (b:=a.abs) (by unfold BL;omega) hb.lim (by unfold BL;omega) ha.lim;unfold ME at g3;rw[if_pos (show Ad a.abs<=Ad b.abs by omega)]at g3;refine Aa g3 ?_;simp only[eN,ND,DK,Ab];have g2:=Dk K R Δ (a:=Ai (Ad b.abs-Ad a.abs)) (Am _) (by
    unfold BL;have:=Bc (n:=Ad b.abs-Ad a.abs) (k:=b.abs.length) (by have:=Bt hb.lim;omega);omega)
   rw[Az,show CJ Δ (Ad b.abs-Ad a.abs)=zv a+zv b by unfold CJ;rw[if_pos rfl];omega]at g2;refine Aa g2 ?_;rfl
 .have hsb:¬ BC (zv b)<0:=λh=>hb0 (Mj.1 h)
  have eb:=E5 hb0;refine B6 ?_;refine Aa (KU K (by omega) ha.lim (by omega) hb.lim) ?_;simp only[eN,ND,DK,Ab];have g2:=Dk K R Φ (a:=Ai (Ad a.abs+Ad b.abs)) (Am _) (QN hk ha hb);rw[Az,show CJ Φ (Ad a.abs+Ad b.abs)=zv a+zv b by unfold CJ;rw[if_neg (by simp)];omega]at g2;refine Aa g2 ?_;rfl
theorem Pr{k:Nat}(hk:k<=900000000){a b:Zi}(ha:Lz k a)(hb:Lz k b):D.ask (.fn 98) [.agg (eZ a),.agg (eZ b)] []=Θ (.agg (eZ (Aq (zv a+zv b))),[]):=by
 by_cases hp:zv a<0
 .have la:=ha.len
  have lb:=hb.len;have sa:=Dl K R (ha.mono (show k<=1000000000 by omega));have sb:=Dl K R (hb.mono (show k<=1000000000 by omega));have ea:=G9 hp;have hsa:=Mj.2 hp;refine AB R Ajj (e98 ..) ?_;refine Aa sa ?_;simp only[P2,ND,DK,Ab];refine Aj ?_ hsa;refine Aa sb ?_;simp only[P2,ND,DK,Ab]
  by_cases hb0:zv b<0
  .have eb:=G9 hb0
   refine Aj ?_ (Mj.2 hb0);refine Aa (KU K (by omega) ha.lim (by omega) hb.lim) ?_;simp only[eN,ND,DK,Ab];have g2:=Dk K R Δ (a:=Ai (Ad a.abs+Ad b.abs)) (Am _) (QN hk ha hb);rw[Az,show CJ Δ (Ad a.abs+Ad b.abs)=zv a+zv b by unfold CJ;rw[if_pos rfl];omega]at g2;refine Aa g2 ?_;rfl
  .refine Ag ?_ (λh=>hb0 (Mj.1 h))
   refine Aa sa ?_;simp only[P2,ND,DK,Ab];refine Cr ?_;refine Aa sa ?_;simp only[P2,ND,DK,Ab];refine Aj ?_ hsa;have g:=QZ K R hk hb ha hb0;rw[Int.add_comm]at g;refine Aa g ?_;rfl
 .exact QZ K R hk ha hb hp
theorem Ps{k:Nat}(hk:k<=900000000){a b:Zi}(ha:Lz k a)(hb:Lz k b):D.ask (.fn 56) [.agg (eZ a),.agg (eZ b)] []=Θ (.agg (eZ (Aq (zv a-zv b))),[]):=by
 refine AB R AlS (e56 ..) ?_;refine Aa (Yc K R (hb.mono (show k<=1000000000 by omega))) ?_;have hn:Lz k (Aq (-zv b)):=InB.lz (by have:=hb.inb;unfold InB at *;rwa [AsW]);have g:=Pr K R hk ha hn;rw[AE,←AtH]at g;simp only[eZ,eN,ND,DK,Ab];refine Aa g ?_;rfl
theorem AdF{k:Nat}(hk:k<=900000000){a b:Zi}(ha:Lz k a)(hb:Lz k b):D.ask (.fn 21) [.agg (eZ a),.agg (eZ b)] []=Θ (iv (BC (zv a-zv b)),[]):=by
 refine AB R Alw (e21 ..) ?_;refine Aa (Ps K R hk ha hb) ?_;have hs:Lz (k+1) (Aq (zv a-zv b)):=InB.lz (by rw[AtH];exact Ae6 ha.inb (by have:=hb.inb;unfold InB at *;rwa [AsW]));have g:=Dl K R (hs.mono (show k+1<=1000000000 by omega));rw[AE]at g;simp only[eZ,eN,ND,DK,Ab];refine Aa g ?_;rfl
theorem UP{k m:Nat}(hk:k<=400000000)(hm:m<=400000000){a b:Zi}(ha:Lz k a)(hb:Lz m b):D.ask (.fn 97) [.agg (eZ a),.agg (eZ b)] []=Θ (.agg (eZ (Aq (zv a*zv b))),[]):=by
 have la:=ha.len;have lb:=hb.len;have sa:=Dl K R (ha.mono (show k<=1000000000 by omega));have sb:=Dl K R (hb.mono (show m<=1000000000 by omega));refine AB R Amd (e97 ..) ?_;refine Aa sa ?_;simp only[P2,ND,DK,Ab];refine Aa sb ?_;simp only[P2,ND,DK,Ab];have g:=Af6 K ha.lim hb.lim (by omega);have l1:=EV ha.lim hb.lim;have gf:∀ ng,D.ask (.fn 55) [bv ng,eN (Ai (Ad a.abs*Ad b.abs))] []=Θ (.agg (eZ (Aq (CJ ng (Ad a.abs*Ad b.abs)))),[]):=λng=>by
  have:=Dk K R ng (a:=Ai (Ad a.abs*Ad b.abs)) (Am _) (by unfold BL;omega)
  rwa [Az]at this
 have hmul:Af.mul .i64 (BC (zv a)) (BC (zv b))=BC (zv a)*BC (zv b):=SI _ _;rw[hmul]
 by_cases h:BC (zv a)*BC (zv b)<0
 .refine Aj ?_ h
  refine Aa g ?_;simp only[eN,ND,DK,Ab];have g2:=gf Δ;rw[Wv h]at g2;refine Aa g2 ?_;rfl
 .refine Ag ?_ h
  refine Aa g ?_;simp only[eN,ND,DK,Ab];have g2:=gf Φ;rw[Ww h]at g2;refine Aa g2 ?_;rfl
theorem ZV{a b:Zi}(ha:Lz 1000000000 a):D.ask (.fn 67) [.agg (eZ a),.agg (eZ b)] []=Θ (bv (decide (a.neg=b.neg/\a.abs=b.abs)),[]):=by
 refine AB R Al0 (e67 ..) ?_;rw[QU]
 by_cases h:a.neg=b.neg
 .rw[show (a.neg == b.neg)=Δ by simp[h]]
  refine Ac ?_;refine Aa (Ac9 K (a:=a.abs) (b:=b.abs) ha.len) ?_
  by_cases h2:a.abs=b.abs
  .rw[decide_eq_true h2,decide_eq_true ⟨h,h2⟩]
   rfl
  .rw[decide_eq_false h2,decide_eq_false (λe=>h2 e.2)]
   rfl
 .rw[show (a.neg == b.neg)=Φ by simp[h],decide_eq_false (λe=>h e.1)]
  exact Ba rfl
end
structure ZF (D:Orc):Prop where
 frm:∀ z:Zi,Lz 1000000000 z->D.ask (.fn 71) [bv z.neg,eN z.abs] []=Θ (.agg (eZ (Aq (zv z))),[])
 neg:∀ z:Zi,Lz 1000000000 z->D.ask (.fn 39) [.agg (eZ z)] []=Θ (.agg (eZ (Aq (-zv z))),[])
 sign:∀ z:Zi,Lz 1000000000 z->D.ask (.fn 30) [.agg (eZ z)] []=Θ (iv (BC (zv z)),[])
 of_:∀ n:Int,-9223372036854775808<=n->n<9223372036854775808->D.ask (.fn 73) [iv n] []=Θ (.agg (eZ (Aq n)),[])
 cmp:∀ a b:Zi,Lz 1000000000 a->Lz 1000000000 b->D.ask (.fn 41) [.agg (eZ a),.agg (eZ b)] []=Θ (iv (Cp (zv a) (zv b)),[])
 add:∀ a b:Zi,Lz 900000000 a->Lz 900000000 b->D.ask (.fn 63) [.agg (eZ a),.agg (eZ b)] []=Θ (.agg (eZ (Aq (zv a+zv b))),[])
 mul:∀ a b:Zi,Lz 400000000 a->Lz 400000000 b->a.abs.length<24\/b.abs.length<24->D.ask (.fn 114) [.agg (eZ a),.agg (eZ b)] []=Θ (.agg (eZ (Aq (zv a*zv b))),[])
theorem Aen{D:Orc}(K:Knows Al Hi D)(Z:Knows Al Jl D)(C:CloneF D):ZF D where
 frm z h:=by
  have:=Ex K Z C z.neg h.lim (by unfold BL;exact h.len);exact this
 neg z h:=YH K Z C h
 sign z h:=Lo K Z C h
 of_ n h1 h2:=Aem K Z C n h1 h2
 cmp a b ha hb:=Aha K Z C ha hb
 add a b ha hb:=S9 K Z C (π _) ha hb
 mul a b ha hb h:=Ahc K Z C (π _) (π _) ha hb h
theorem Adh(m:Nat)(h:m<9223372036854775808):Af.rem .i64 (m:Int) 4294967296=((m % 4294967296:Nat):Int):=by
 show AuR (m:Int) 4294967296=_
 rw[show (4294967296:Int)=((4294967296:Nat):Int) from rfl,←Int.ofNat_tmod]
theorem Ade(m:Nat)(h:m<9223372036854775808):Af.quo .i64 (m:Int) 4294967296=((m / 4294967296:Nat):Int):=by
 show IntKind.i64.wrap (Atd (m:Int) 4294967296)=_
 rw[IntKind.wrap_i64,show (4294967296:Int)=((4294967296:Nat):Int) from rfl,←Int.ofNat_tdiv];omega
theorem Vi(m:Nat):Ad [m % 4294967296,m / 4294967296]=m:=by
 unfold Ad Ad Ad;omega
theorem QE(m:Nat)(h:m<9223372036854775808):Limbs [m % 4294967296,m / 4294967296]:=Bf (by omega) (Bf (by omega) BH)
structure RF (D:Orc):Prop where
 clean:∀ z:Zi,Lz 1000000000 z->D.ask (.fn 20) [.agg (eZ z)] []=Θ (.agg (eZ (Aq (zv z))),[])
 neg:∀ z:Zi,Lz 1000000000 z->D.ask (.fn 19) [.agg (eZ z)] []=Θ (.agg (eZ (Aq (-zv z))),[])
 sign:∀ z:Zi,Lz 1000000000 z->D.ask (.fn 50) [.agg (eZ z)] []=Θ (iv (BC (zv z)),[])
 of_:∀ n:Int,-9223372036854775808<n->n<9223372036854775808->D.ask (.fn 27) [iv n] []=Θ (.agg (eZ (Aq n)),[])
 cmp:∀ a b:Zi,Lz 900000000 a->Lz 900000000 b->D.ask (.fn 21) [.agg (eZ a),.agg (eZ b)] []=Θ (iv (BC (zv a-zv b)),[])
 add:∀ a b:Zi,Lz 900000000 a->Lz 900000000 b->D.ask (.fn 98) [.agg (eZ a),.agg (eZ b)] []=Θ (.agg (eZ (Aq (zv a+zv b))),[])
 mul:∀ a b:Zi,Lz 400000000 a->Lz 400000000 b->D.ask (.fn 97) [.agg (eZ a),.agg (eZ b)] []=Θ (.agg (eZ (Aq (zv a*zv b))),[])
 same:∀ a b:Zi,Lz 1000000000 a->D.ask (.fn 67) [.agg (eZ a),.agg (eZ b)] []=Θ (bv (decide (a.neg=b.neg/\a.abs=b.abs)),[])
section
variable {D:Orc} (K:Knows Al Lg D) (R:Knows Al Q8 D)
include K R
theorem Ac8(n:Int)(h1:-9223372036854775808<n)(h2:n<9223372036854775808):D.ask (.fn 27) [iv n] []=Θ (.agg (eZ (Aq n)),[]):=by
 refine AB R AlA (e27 ..) ?_
 by_cases h:0<=n
 .obtain⟨m,rfl⟩:=At1 h
  have g:=Dk K R Φ (QE m (by omega)) (by unfold BL;simp);rw[Vi,show CJ Φ m=(m:Int) from rfl]at g;refine B6 ?_ h;refine AN ?_ (by decide);refine AN ?_ (by decide);rw[Adh m (by omega),Ade m (by omega),Bz (by omega),Bz (by omega)];refine Aa g ?_;rfl
 .obtain⟨m,hm⟩:∃ m:Nat,n=-((m+1:Nat):Int):=⟨n.natAbs-1,by omega⟩
  have e1:Af.sub .i64 0 (Af.add .i64 n 1)=(m:Int):=by
   rw[EJ (by omega) (by omega),Dm (by omega) (by omega)];omega
  have ga:=KU K (a:=[m % 4294967296,m / 4294967296]) (b:=[1]) (by simp) (QE m (by omega)) (by simp) (Bf (by omega) BH);rw[Vi,show Ad [1]=1 from rfl]at ga;have hl:(Ai (m+1)).length<=2:=Bc (by omega);have g:=Dk K R Δ (Am (m+1)) (by unfold BL;omega);rw[Az,show CJ Δ (m+1)=n by rw[hm];rfl]at g;refine Cr ?_ h;refine AN ?_ (by decide);refine AN ?_ (by decide);rw[e1,Adh m (by omega),Ade m (by omega),Bz (by omega),Bz (by omega)];refine Aa ga ?_;simp only[eN,ND,DK,Ab];refine Aa g ?_;rfl
theorem AnO:RF D where
 clean z h:=ZH K R h
 neg z h:=Yc K R h
 sign z h:=Dl K R h
 of_ n h1 h2:=Ac8 K R n h1 h2
 cmp a b ha hb:=AdF K R (π _) ha hb
 add a b ha hb:=Pr K R (π _) ha hb
 mul a b ha hb:=UP K R (π _) (π _) ha hb
 same a b ha:=ZV K R ha
end
section
open Go.RowKit
def XU:MFn:=BI [⟨28,(mB 48),[],[],[(1,((mB 16),([],[])))]⟩] 123
def Ox:Hnt:=⟨[(94,(.ls,[]))],[(0,[(1,([.int .i64],[]))])],[(19,[.int .u32]),(20,[.int .u32])]⟩
def XV:MFn:=BI [⟨32,(mB 98),[],[],[(1,((mB 32),([],[])))]⟩] 125
def TX:Hnt:=⟨[],[(0,[(1,([.int .u32],[]))])],[(19,[.int .u32]),(20,[.int .u32])]⟩
def Aia:MFn:=BI [] 124
def AhL:Hnt:=⟨[(66,(.ls,[])),(140,(.ls,[]))],[],[]⟩
def AfD:MFn:=BI [⟨45,(mB 899),[],[7,8],[(1,((mB 384),([],[])))]⟩] 96
def Acb:Hnt:=⟨[(94,(.ls,[])),(123,(.int .i64,[])),(124,(.ls,[])),(125,(.bool,[])),(126,(.tup U0,[]))],[(0,[(1,([.ls,.ls],[]))])],[]⟩
def XT:MFn:=BI [⟨27,(mB 96),[],[],[(1,((mB 32),([],[])))]⟩] 122
def Qw:Hnt:=⟨[(94,(.ls,[])),(96,(.tup AgA,[]))],[(0,[(1,([.ls],[]))])],[]⟩
def U6:List (Nat × MFn):=[(123,XU),(125,XV),(124,Aia),(96,AfD),(122,XT)]
variable (A:Ar) (D:Orc)
theorem AkZ(x0:Rw):BN A D Al Ox .n 123 XU [Ψ x0] [] =
 Ae D (ω 94) [Ψ x0] [] [.l,.E] λxs=>
 br (A.eq (↑(AL xs)) 0)
 (Θ ((iv 0,[])))
 (unI (A.sub δ (↑(AL xs)) 1) λi=>
 Bj xs i λcs=>
 dk [.J .u32,.N] [.l cs] λn=>
 Ae D (ι 123 0) [iv (A.mul δ 32 (A.sub δ (↑(AL xs)) 1)),Aq0 (Value.int ζ n)] [] [.t,.C,.x,.X,.Y] λc l1 o1=>
 br (Bm 1 c)
 (dk [.I,.N,.E] [.l l1,.o o1] λn1=>
 Θ ((iv n1,[])))
 (Ξ)):=by kernel_rfl
theorem VM(t4 t5:Int):CS A D Al Ox .n 123 0 (AJ XU 0).fst (AJ XU 0).snd [iv t4,Aq0 (Value.int ζ t5)] [] =
 br (A.lt 0 t5)
 (br (A.eq 2 0)
 (Ξ)
 (AA D (ι 123 0) [iv (A.add δ t4 1),Aq0 (Value.int ζ (A.quo ζ t5 2))] [] λr o=>
 As 0 [] (AH.mk [] 0 Ξ) [] r o))
 (Θ ((γ [iv 0,iv t4],[]))):=by kernel_rfl
theorem AoK(x0:Rw)(x1:Int):BN A D Al TX .n 125 XV [Ψ x0,iv x1] [] =
 br (A.lt x1 0)
 (Θ ((bv Φ,[])))
 (br (A.le (A.mul δ 32 ↑(AL x0)) x1)
 (Θ ((bv Φ,[])))
 (br (A.eq 32 0)
 (Ξ)
 (unI (A.quo δ x1 32) λi=>
 Bj x0 i λcs=>
 dk [.J .u32,.N] [.l cs] λn=>
 Ae D (ι 125 0) [iv x1,Aq0 (Value.int ζ n),iv 0] [] [.t,.C,.x,.X,.Y] λc l1 o=>
 br (Bm 1 c)
 (dk [.J .u32,.N,.E] [.l l1,.o o] λn1=>
 br (A.eq 2 0)
 (Ξ)
 (br (A.eq (A.rem ζ n1 2) 1)
 (Θ ((bv Δ,[])))
 (Θ ((bv Φ,[])))))
 (Ξ)))):=by kernel_rfl
theorem Abm(t1 t5 t6:Int):CS A D Al TX .n 125 0 (AJ XV 0).fst (AJ XV 0).snd [iv t1,Aq0 (Value.int ζ t5),iv t6] [] =
 br (A.eq 32 0)
 (Ξ)
 (br (A.lt t6 (A.rem δ t1 32))
 (br (A.eq 2 0)
 (Ξ)
 (AA D (ι 125 0) [iv t1,Aq0 (Value.int ζ (A.quo ζ t5 2)),iv (A.add δ t6 1)] [] λr o=>
 As 0 [] (AH.mk [] 0 Ξ) [] r o))
 (Θ ((γ [iv 0,Aq0 (Value.int ζ t5)],[])))):=by kernel_rfl
theorem AoJ(x0:Rw)(x1:Bool):BN A D Al AhL .n 124 Aia [Ψ x0,bv x1] [] =
 Ae D (ω 140) [Ψ x0,Aq0 (Value.int Ω 2)] [] [.l,.E] λxs=>
 br x1
 (Ae D (ω 66) [Ψ xs,Ψ [[Aq0 (Value.int ζ 1)]]] [] [.l,.E] λxs1=>
 Θ ((Ψ xs1,[])))
 (Θ ((Ψ xs,[]))):=by kernel_rfl
theorem e96(x0 x1:Rw):BN A D Al Acb .n 96 AfD [Ψ x0,Ψ x1] [] =
 Ae D (ω 94) [Ψ x1] [] [.l,.E] λxs=>
 br (A.eq (↑(AL xs)) 0)
 (Θ ((γ [Ψ [],Ψ [],iv 10],[])))
 (Ae D (ω 123) [Ψ x0] [] [.i,.E] λn=>
 Ae D (ι 96 0) [Ψ x0,Ψ x1,Ψ [],Ψ [],iv (A.sub δ n 1)] [] [.t,.C,.x,.X,.Y] λc l o2=>
 br (Bm 1 c)
 (dk [.L,.L,.N,.E] [.l l,.o o2] λxs1 xs2=>
 Ae D (ω 94) [Ψ xs1] [] [.l,.E] λxs3=>
 Ae D (ω 94) [Ψ xs2] [] [.l,.E] λxs4=>
 Θ ((γ [Ψ xs3,Ψ xs4,iv 0],[])))
 (Ξ)):=by kernel_rfl
theorem Ahx(t0 t1 t7 t8:Rw)(t9:Int):CS A D Al Acb .n 96 0 (AJ AfD 0).fst (AJ AfD 0).snd [Ψ t0,Ψ t1,Ψ t7,Ψ t8,iv t9] [] =
 br (A.le 0 t9)
 (Ae D (ω 125) [Ψ t0,iv t9] [] [.b,.E] λb=>
 br b
 (Ae D (ω 124) [Ψ t8,bv Δ] [] [.l,.E] λxs=>
 Ae D (ω 126) [Ψ xs,Ψ t1] [] [.t,.L,.B,.N,.E] λxs1 b1=>
 br b1
 (Ae D (ω 124) [Ψ t7,bv b1] [] [.l,.E] λxs2=>
 AA D (ι 96 0) [Ψ t0,Ψ t1,Ψ xs2,Ψ xs1,iv (A.sub δ t9 1)] [] λr4 o4=>
 As 0 [] (AH.mk [] 0 Ξ) [] r4 o4)
 (Ae D (ω 124) [Ψ t7,bv b1] [] [.l,.E] λxs2=>
 AA D (ι 96 0) [Ψ t0,Ψ t1,Ψ xs2,Ψ xs,iv (A.sub δ t9 1)] [] λr4 o4=>
 As 0 [] (AH.mk [] 0 Ξ) [] r4 o4))
 (Ae D (ω 124) [Ψ t8,bv Φ] [] [.l,.E] λxs=>
 Ae D (ω 126) [Ψ xs,Ψ t1] [] [.t,.L,.B,.N,.E] λxs1 b1=>
 br b1
 (Ae D (ω 124) [Ψ t7,bv b1] [] [.l,.E] λxs2=>
 AA D (ι 96 0) [Ψ t0,Ψ t1,Ψ xs2,Ψ xs1,iv (A.sub δ t9 1)] [] λr4 o4=>
 As 0 [] (AH.mk [] 0 Ξ) [] r4 o4)
 (Ae D (ω 124) [Ψ t7,bv b1] [] [.l,.E] λxs2=>
 AA D (ι 96 0) [Ψ t0,Ψ t1,Ψ xs2,Ψ xs,iv (A.sub δ t9 1)] [] λr4 o4=>
 As 0 [] (AH.mk [] 0 Ξ) [] r4 o4)))
 (Θ ((γ [iv 0,Ψ t7,Ψ t8],[]))):=by kernel_rfl
theorem AoI(x0 x1:Rw):BN A D Al Qw .n 122 XT [Ψ x0,Ψ x1] [] =
 Ae D (ω 94) [Ψ x0] [] [.l,.E] λxs=>
 Ae D (ω 94) [Ψ x1] [] [.l,.E] λxs1=>
 Ae D (ι 122 0) [Ψ xs,Ψ xs1] [] [.t,.C,.x,.X,.Y] λc l o2=>
 br (Bm 1 c)
 (dk [.L,.N,.E] [.l l,.o o2] λxs2=>
 Θ ((Ψ xs2,[])))
 (Ξ):=by kernel_rfl
theorem VL(t5 t6:Rw):CS A D Al Qw .n 122 0 (AJ XT 0).fst (AJ XT 0).snd [Ψ t5,Ψ t6] [] =
 br (A.lt 0 ↑(AL t6))
 (Ae D (ω 96) [Ψ t5,Ψ t6] [] [.t,.L,.L,.I,.N,.E] λ_ xs1 _=>
 AA D (ι 122 0) [Ψ t6,Ψ xs1] [] λr1 o1=>
 As 0 [] (AH.mk [] 0 Ξ) [] r1 o1)
 (Θ ((γ [iv 0,Ψ t5],[]))):=by kernel_rfl
end
theorem AnH{x:Nat}(h:x<4294967296):Af.quo .u32 (x:Int) 2=((x / 2:Nat):Int):=by
 show IntKind.u32.wrap (Atd (x:Int) ((2:Nat):Int))=_
 rw[show Atd (x:Int) ((2:Nat):Int)=((x / 2:Nat):Int) from rfl,IntKind.wrap_u32];omega
theorem Ao5(x:Nat):Af.rem .u32 (x:Int) 2=((x % 2:Nat):Int):=by
 show AuR (x:Int) ((2:Nat):Int)=_
 rfl
theorem q_i{x:Nat}(h:x<4611686018427387904):Af.quo .i64 (x:Int) 32=((x / 32:Nat):Int):=by
 show IntKind.i64.wrap (Atd (x:Int) ((32:Nat):Int))=_
 rw[show Atd (x:Int) ((32:Nat):Int)=((x / 32:Nat):Int) from rfl,IntKind.wrap_i64];omega
theorem m_i(x:Nat):Af.rem .i64 (x:Int) 32=((x % 32:Nat):Int):=by
 show AuR (x:Int) ((32:Nat):Int)=_
 rfl
theorem x_i{x:Nat}(h:x<4611686018427387):Af.mul .i64 32 (x:Int)=((32*x:Nat):Int):=by
 show IntKind.i64.wrap ((32:Int)*(x:Int))=_
 rw[IntKind.wrap_i64];omega
theorem Ac5(n:Nat):4294967296 ^ n=2 ^ (32*n):=by
 rw[Nat.pow_mul]
theorem AiQ{a:List Nat}(ha:Limbs a){i:Nat}(h:i / 32<a.length):Ad a / 2 ^ i % 2=a[i / 32] / 2 ^ (i % 32) % 2:=by
 have e:a=a.take (i / 32)++(a[i / 32]::a.drop (i / 32+1)):=by
  rw[←κ h,List.take_append_drop]
 have hv:=congrArg Ad e;rw[BD,Aq9,ArH (by omega),Ad]at hv;have hlo:=Bt (ha.take (i / 32));rw[Aq9,ArH (by omega)]at hlo;have hP:0<4294967296 ^ (i / 32):=Nat.pow_pos (by omega);have h2:2 ^ i=4294967296 ^ (i / 32)*2 ^ (i % 32):=by
  rw[Ac5,←AsV]
  congr 1
  omega
 have hr:i % 32<=31:=by omega
 rw[h2,←Atp,hv,AsT _ _ hP,AsB hlo,Ara];generalize a[i / 32]=y;generalize Ad (a.drop (i / 32+1))=z;generalize i % 32=r at *;have hp:=Nat.two_pow_pos r;have e3:y+4294967296*z=y+2 ^ r*(2*(2 ^ (31-r)*z)):=by
  rw[←Ark 2,←Ark,←Nat.pow_succ',←AsV,show r+(31-r).succ=32 by omega]
 rw[e3,AsT _ _ hp,Nat.add_mul_mod_self_left]
theorem AaZ{a:List Nat}(ha:Limbs a){i:Nat}(h:32*a.length<=i):Ad a / 2 ^ i=0:=by
 refine AsB (ArL (Bt ha) ?_);rw[Ac5];exact Ar7 (by omega) h
theorem Abd{M N b c:Nat}(hN:N=2*M+c)(hc:c<=1)(hb:0<b):(b<=2*(M % b)+c->N / b=2*(M / b)+1/\N % b=2*(M % b)+c-b)/\(¬ b<=2*(M % b)+c->N / b=2*(M / b)/\N % b=2*(M % b)+c):=by
 have hd:=Nat.div_add_mod M b;have hm:=ArF M hb;generalize M / b=Q at *;generalize M % b=R at *;have e:N=b*(2*Q)+(2*R+c):=by
  rw[hN,←hd,Auu];omega
 refine⟨λh=>?_,λh=>?_⟩
 .have e2:N=b*(2*Q+1)+(2*R+c-b):=by
   rw[ArR,AsC];omega
  rw[e2,AuI hb,AuJ,AsB (by omega),ArT (by omega)];exact⟨rfl,rfl⟩
 .rw[e,AuI hb,AuJ,AsB (by omega),ArT (by omega)]
  exact⟨rfl,rfl⟩
section
variable {D:Orc} (Kn:Knows Al Lg D) (K:Knows Al U6 D)
include K
theorem AeG:∀(k x t:Nat),x<2 ^ k->k<=32->t+k<4611686018427387000->∃ L:Nat,D.ask (.lp 123 0) [iv (t:Int),.v (.int .u32 (x:Int))] []=Θ (.tup [iv 0,iv ((t+L:Nat):Int)],[])/\x<2 ^ L/\L<=k:=by
 intro k
 induction k with
 |zero=>
  intro x t h _ ht;obtain rfl:x=0:=by simpa using h
  refine⟨0,?_,by simp,π _⟩;refine Au K Ox (VM ..) ?_;exact CK (by omega)
 |succ k ih=>
  intro x t h hk ht
  by_cases h0:x=0
  .subst h0
   refine⟨0,?_,by simp,ArC _⟩;refine Au K Ox (VM ..) ?_;exact CK (by omega)
  .obtain⟨L,g,h1,h2⟩:=ih (x / 2) (t+1) (by rw[ArP]at h;omega) (by omega) (by omega)
   have hx:x<4294967296:=ArL h (Ar7 (n:=2) (by omega) hk);refine⟨L+1,?_,by rw[ArP];omega,by omega⟩;refine Au K Ox (VM ..) ?_;refine Aj ?_;refine AN ?_ (by decide);rw[BA (by omega),AnH hx];refine Aa g ?_;rw[show t+1+L=t+(L+1) by omega];rfl
theorem AiR(i:Nat):∀(k x t:Nat),k+t=i % 32->x<4294967296->D.ask (.lp 125 0) [iv (i:Int),.v (.int .u32 (x:Int)),iv (t:Int)] []=Θ (.tup [iv 0,.v (.int .u32 ((x / 2 ^ k:Nat):Int))],[]):=by
 intro k
 induction k with
 |zero=>
  intro x t h hx;refine Au K TX (Abm ..) ?_;refine AN ?_ (by decide);rw[m_i];refine Ag ?_;rw[Au0,Au5]
 |succ k ih=>
  intro x t h hx;refine Au K TX (Abm ..) ?_;refine AN ?_ (by decide);rw[m_i];refine Aj ?_;refine AN ?_ (by decide);rw[AnH hx,BA (by omega)];refine Aa (ih (x / 2) (t+1) (by omega) (by omega)) ?_;rw[Atp,show 2*2 ^ k=2 ^ (k+1) by rw[ArP,Arz]];rfl
theorem AiS{a:List Nat}(ha:Limbs a)(hs:BL a){i:Nat}(hi:i<4611686018427387904):D.ask (.fn 125) [eN a,iv (i:Int)] []=Θ (bv (decide (Ad a / 2 ^ i % 2=1)),[]):=by
 unfold BL at hs;refine AB K TX (AoK ..) ?_;refine Ag ?_;rw[Ak,x_i (by omega)]
 by_cases h:32*a.length<=i
 .rw[AaZ ha h]
  exact NW (by omega)
 .have hj:i / 32<a.length:=by omega
  refine Cr ?_;refine AN ?_ (by decide);rw[q_i hi,Av,At (ξ hj)];simp only[eL,Fu,ND,DK,Ab];refine Aa (AiR K i (i % 32) a[i / 32] 0 (by omega) (ha.get hj)) ?_;simp only[Fu,ND,DK,Ab];refine AN ?_ (by decide);rw[Ao5,AiQ ha hj]
  by_cases h1:a[i / 32] / 2 ^ (i % 32) % 2=1
  .rw[decide_eq_true h1]
   exact GJ (by omega)
  .rw[decide_eq_false h1]
   exact FU (by omega)
include Kn
theorem AeH{a:List Nat}(ha:Limbs a)(hs:BL a):∃ B:Nat,D.ask (.fn 123) [eN a] []=Θ (iv (B:Int),[])/\Ad a<2 ^ B/\B<=32*a.length:=by
 have hl:=CO a ha;have htl:=Ch a;unfold BL at hs
 by_cases h0:Ad a=0
 .refine⟨0,?_,by rw[h0];decide,ArC _⟩
  refine AB K Ox (AkZ ..) ?_;refine Aa (CP Kn (by unfold BL;omega) ha) ?_;rw[h0,Cj];simp only[eN,ND,DK,Ab];exact GJ (by decide)
 .have hne:0<(Ai (Ad a)).length:=by
   rw[Dh h0];exact Aul _
  have hk:(Ai (Ad a)).length-1<(Ai (Ad a)).length:=by omega
  obtain⟨L,g,h1,h2⟩:=AeG K 32 ((Ai (Ad a))[(Ai (Ad a)).length-1]) (32*((Ai (Ad a)).length-1)) ((Am _).get hk) (π _) (by omega);refine⟨32*((Ai (Ad a)).length-1)+L,?_,?_,by omega⟩
  .refine AB K Ox (AkZ ..) ?_
   refine Aa (CP Kn (by unfold BL;omega) ha) ?_;simp only[eN,Ak,ND,DK,Ab];refine AN ?_;rw[show Af.sub .i64 ((Ai (Ad a)).length:Int) 1=(((Ai (Ad a)).length-1:Nat):Int) from Ng (j:=1) (by omega) (by omega),Av,At (ξ hk),x_i (by omega)];simp only[eL,Fu,ND,DK,Ab];refine Aa g ?_;simp only[ND,DK,Ab]
  .have hlast:(Ai (Ad a))=(Ai (Ad a)).take ((Ai (Ad a)).length-1)++[(Ai (Ad a))[(Ai (Ad a)).length-1]]:=by
    rw[←Arw hk,ArS (by omega)]
   have hv:=congrArg Ad hlast;rw[Az,BD,Aq9,ArH (by omega)]at hv;have hlo:=Bt ((Am (Ad a)).take ((Ai (Ad a)).length-1));rw[Aq9,ArH (by omega)]at hlo;simp only[Ad,Atf,ArG]at hv;rw[AsV,←Ac5];have:=Nat.mul_le_mul_left (4294967296 ^ ((Ai (Ad a)).length-1)) h1;rw[Nat.mul_succ]at this;omega
theorem Vd{l:List Nat}(hl:Limbs l)(hs:l.length<=999999990)(c:Bool):D.ask (.fn 124) [eN l,bv c] []=Θ (eN (Ai (2*Ad l+(if c then 1 else 0))),[]):=by
 have hlen:(Ai (Ad l*2)).length<=l.length+1:=by
  refine Bc ?_;have:=Bt hl;rw[ArP];omega
 refine AB K AhL (AoJ ..) ?_;refine Aa (QW Kn hl (by omega) 2 (by omega)) ?_;simp only[eN,ND,DK,Ab]
 cases c with
 |true=>
  refine Ac ?_;have g:=KU Kn (a:=Ai (Ad l*2)) (b:=[1]) (by omega) (Am _) (by simp) (Bf (by omega) BH);rw[Az]at g;refine Aa g ?_;simp only[eN,ND,DK,Ab];rw[show Ad [1]=1 from rfl,Arz];rfl
 |false=>
  refine Ba ?_;rw[Arz];rfl
theorem Age{a b:List Nat}(ha:Limbs a)(hal:a.length<=999999980)(hb:Limbs b)(hbl:b.length<=999999980)(h0:0<Ad b):∀ k:Nat,k<=32*a.length->
  D.ask (.lp 96 0) [eN a,eN b,eN (Ai (Ad a / 2 ^ k / Ad b)),eN (Ai (Ad a / 2 ^ k % Ad b)),iv ((k:Int)-1)] []=Θ (.tup [iv 0,eN (Ai (Ad a / Ad b)),eN (Ai (Ad a % Ad b))],[]):=by
 intro k
 induction k with
 |zero=>
  intro _;refine Au K Acb (Ahx ..) ?_;rw[Au0,Au5];exact Rx (by omega)
 |succ k ih=>
  intro hk;have ih:=ih (by omega);have hbit:=AiS K ha (by unfold BL;omega) (i:=k) (by omega);obtain⟨c,hc⟩:∃ c,c=decide (Ad a / 2 ^ k % 2=1):=⟨_,rfl⟩;obtain⟨M,hM⟩:∃ M,M=Ad a / 2 ^ (k+1):=⟨_,rfl⟩;have hMN:Ad a / 2 ^ k=2*M+(if c=Δ then 1 else 0):=by
   rw[hM,ArP,←Atp,hc];generalize Ad a / 2 ^ k=N
   by_cases h:N % 2=1
   .rw[decide_eq_true h,if_pos rfl];omega
   .rw[decide_eq_false h,if_neg (by decide)];omega
  have hMa:M<=Ad a:=by rw[hM];exact At4 ..
  have hav:=Bt ha;have hbv:=Bt hb;rw[←hc]at hbit;rw[←hM];obtain⟨d1,d2⟩:=Abd (b:=Ad b) hMN (by split<;>omega) h0;have hm:=ArF M h0;have hq:=At4 M (Ad b);have lr:(Ai (M % Ad b)).length<=b.length:=Bc (by omega);have lq:(Ai (M / Ad b)).length<=a.length:=Bc (by omega);have hcs:(if c=Δ then 1 else 0)<=1:=by split<;>omega
  have lr2:(Ai (2*(M % Ad b)+(if c=Δ then 1 else 0))).length<=b.length+1:=Bc (by rw[ArP];omega);have t1:=Vd Kn K (Am (M % Ad b)) (by omega) c;have t2:=λx=>Vd Kn K (Am (M / Ad b)) (by omega) x
  have s1:=Sw Kn (a:=Ai (2*(M % Ad b)+(if c=Δ then 1 else 0))) (b:=b) (by unfold BL;omega) (Am _) (by unfold BL;omega) hb;rw[Az]at t1 s1;simp only[Az]at t2;unfold ME at s1;generalize hR:2*(M % Ad b)+(if c=Δ then 1 else 0)=R at *;have hsub:Af.sub .i64 (k:Int) 1=(k:Int)-1:=Dm (by omega) (by omega);refine Au K Acb (Ahx ..) ?_;rw[show (((k+1:Nat):Int)-1)=(k:Int) by omega];refine B6 ?_;refine Aa hbit ?_;simp only[ND,DK,Ab];have t2t:D.ask (.fn 124) [eN (Ai (M / Ad b)),bv Δ] []=Θ (eN (Ai (2*(M / Ad b)+1)),[]):=t2 Δ;have t2f:D.ask (.fn 124) [eN (Ai (M / Ad b)),bv Φ] []=Θ (eN (Ai (2*(M / Ad b))),[]):=t2 Φ;clear t2
  cases c
  all_goals
   first
    |refine Ba ?_
    |refine Ac ?_
   refine Aa t1 ?_;simp only[eN,ND,DK,Ab];refine Aa s1 ?_
   by_cases h:Ad b<=R
   .rw[if_pos h,hsub]
    rw[(d1 h).1,(d1 h).2]at ih;simp only[eN,Co,BM,Bn,A1,AK,DK];refine Ac ?_;refine Aa t2t ?_;simp only[eN,ND,DK,Ab];refine Aa ih ?_;rfl
   .rw[if_neg h,hsub]
    rw[(d2 h).1,(d2 h).2]at ih;simp only[eN,Co,BM,Bn,A1,AK,DK];refine Ba ?_;refine Aa t2f ?_;simp only[eN,ND,DK,Ab];refine Aa ih ?_;rfl
theorem Yb{a b:List Nat}(ha:Limbs a)(hal:a.length<=999999980)(hb:Limbs b)(hbl:b.length<=999999980):D.ask (.fn 96) [eN a,eN b] []
  = Θ (if Ad b=0 then .tup [.ls [],.ls [],iv 10] else .tup [eN (Ai (Ad a / Ad b)),eN (Ai (Ad a % Ad b)),iv 0],[]):=by
 refine AB K Acb (e96 ..) ?_;refine Aa (CP Kn (by unfold BL;omega) hb) ?_;simp only[eN,Ak,ND,DK,Ab]
 by_cases h0:Ad b=0
 .rw[if_pos h0,h0,Cj]
  exact GJ (by decide)
 .have hne:0<(Ai (Ad b)).length:=by
   rw[Dh h0];exact Aul _
  rw[if_neg h0];refine AN ?_;obtain⟨B,g,h1,h2⟩:=AeH Kn K ha (by unfold BL;omega);have hlp:=Age Kn K ha hal hb hbl (by omega) B h2;rw[AsB h1,Au1,Nat.zero_mod,Cj]at hlp;refine Aa g ?_;simp only[ND,DK,Ab];rw[show Af.sub .i64 (B:Int) 1=(B:Int)-1 from Dm (by omega) (by omega)];refine Aa hlp ?_;simp only[eN,ND,DK,Ab];have hq:=At4 (Ad a) (Ad b);have hm:=ArF (Ad a) (show 0<Ad b by omega);have hav:=Bt ha;have hbv:=Bt hb;have lr:(Ai (Ad a % Ad b)).length<=b.length:=Bc (by omega);have lq:(Ai (Ad a / Ad b)).length<=a.length:=Bc (by omega);have gq:=CP Kn (l:=Ai (Ad a / Ad b)) (by unfold BL;omega) (Am _);have gr:=CP Kn (l:=Ai (Ad a % Ad b)) (by unfold BL;omega) (Am _);rw[Az]at gq gr;refine Aa gq ?_;simp only[eN,ND,DK,Ab];refine Aa gr ?_;simp only[eN,ND,DK,Ab]
theorem Agi:∀(n a b:Nat),b<=n->(Ai a).length<=999999980->(Ai b).length<=999999980->D.ask (.lp 122 0) [eN (Ai a),eN (Ai b)] []=Θ (.tup [iv 0,eN (Ai (Asi a b))],[]):=by
 intro n
 induction n with
 |zero=>
  intro a b hb _ _;obtain rfl:b=0:=by omega
  refine Au K Qw (VL ..) ?_;rw[Cj,Ate];exact CK (by decide)
 |succ n ih=>
  intro a b hb hal hbl
  by_cases h0:b=0
  .subst h0
   refine Au K Qw (VL ..) ?_;rw[Cj,Ate];exact CK (by decide)
  .have hne:0<(Ai b).length:=by
    rw[Dh h0];exact Aul _
   have hm:=ArF a (show 0<b by omega);have lr:(Ai (a % b)).length<=(Ai b).length:=Bc (by
    have:=Bt (Am b);rw[Az]at this;omega)
   have g:=Yb Kn K (Am a) hal (Am b) hbl;rw[Az,Az,if_neg h0]at g;refine Au K Qw (VL ..) ?_;rw[Ak];refine Aj ?_;refine Aa g ?_;simp only[eN,ND,DK,Ab];refine Aa (ih b (a % b) (by omega) hbl (by omega)) ?_;rw[AtY b,←Au6,AtY];rfl
theorem Af5{a b:List Nat}(ha:Limbs a)(hal:a.length<=999999980)(hb:Limbs b)(hbl:b.length<=999999980):D.ask (.fn 122) [eN a,eN b] []=Θ (eN (Ai (Asi (Ad a) (Ad b))),[]):=by
 have la:(Ai (Ad a)).length<=999999980:=by rw[CO a ha];have:=Ch a;omega
 have lb:(Ai (Ad b)).length<=999999980:=by rw[CO b hb];have:=Ch b;omega
 refine AB K Qw (AoI ..) ?_;refine Aa (CP Kn (by unfold BL;omega) ha) ?_;simp only[eN,ND,DK,Ab];refine Aa (CP Kn (by unfold BL;omega) hb) ?_;simp only[eN,ND,DK,Ab];refine Aa (Agi Kn K _ _ _ (π _) la lb) ?_;simp only[eN,ND,DK,Ab]
end
section
open Go.RowKit
def Am8:MFn:=BI [] 52
def AlQ:Hnt:=⟨[(27,(.agg Ay,[])),(50,(.int .i64,[])),(55,(.agg Ay,[])),(56,(.agg Ay,[])),(96,(.tup AgA,[])),(97,(.agg Ay,[])),(98,(.agg Ay,[]))],[],[(14,[.ls]),(16,[.ls]),(26,Ay),(28,Ay),(34,Ay),(35,Ay),(36,Ay),(39,Ay),(41,Ay),(45,Ay),(48,Ay),(49,Ay),(51,Ay),(52,Ay)]⟩
def Anu:MFn:=BI [] 95
def Amc:Hnt:=⟨[(55,(.agg Ay,[])),(122,(.ls,[]))],[],[(6,[.ls]),(8,[.ls])]⟩
def Yu:List (Nat × MFn):=[(52,Am8),(95,Anu)]
variable (A:Ar) (D:Orc)
theorem e52(x0_0:Bool)(x0_1:Rw)(x1_0:Bool)(x1_1:Rw):BN A D Al AlQ .n 52 Am8 [φ [bv x0_0,Ψ x0_1],φ [bv x1_0,Ψ x1_1]] [] =
 Ae D (ω 96) [Ψ x0_1,Ψ x1_1] [] [.t,.L,.L,.I,.N,.E] λxs _ n=>
 br (A.eq n 0)
 (Ae D (ω 50) [φ [bv x0_0,Ψ x0_1]] [] [.i,.E] λn1=>
 Ae D (ω 50) [φ [bv x1_0,Ψ x1_1]] [] [.i,.E] λn2=>
 br (A.lt (A.mul δ n1 n2) 0)
 (Ae D (ω 55) [bv Δ,Ψ xs] [] [.a,.B,.L,.N,.E] λb xs2=>
 Ae D (ω 97) [φ [bv b,Ψ xs2],φ [bv x1_0,Ψ x1_1]] [] [.a,.B,.L,.N,.E] λb1 xs3=>
 Ae D (ω 56) [φ [bv x0_0,Ψ x0_1],φ [bv b1,Ψ xs3]] [] [.a,.B,.L,.N,.E] λb2 xs4=>
 Ae D (ω 50) [φ [bv b2,Ψ xs4]] [] [.i,.E] λn3=>
 Ae D (ω 50) [φ [bv x1_0,Ψ x1_1]] [] [.i,.E] λn4=>
 br (A.lt (A.mul δ n3 n4) 0)
 (Ae D (ω 27) [iv 1] [] [.a,.B,.L,.N,.E] λb3 xs5=>
 Ae D (ω 56) [φ [bv b,Ψ xs2],φ [bv b3,Ψ xs5]] [] [.a,.B,.L,.N,.E] λb4 xs6=>
 Ae D (ω 98) [φ [bv b2,Ψ xs4],φ [bv x1_0,Ψ x1_1]] [] [.a,.B,.L,.N,.E] λb5 xs7=>
 Θ ((γ [φ [bv b4,Ψ xs6],φ [bv b5,Ψ xs7],iv 0],[])))
 (Θ ((γ [φ [bv b,Ψ xs2],φ [bv b2,Ψ xs4],iv 0],[]))))
 (Ae D (ω 55) [bv Φ,Ψ xs] [] [.a,.B,.L,.N,.E] λb xs2=>
 Ae D (ω 97) [φ [bv b,Ψ xs2],φ [bv x1_0,Ψ x1_1]] [] [.a,.B,.L,.N,.E] λb1 xs3=>
 Ae D (ω 56) [φ [bv x0_0,Ψ x0_1],φ [bv b1,Ψ xs3]] [] [.a,.B,.L,.N,.E] λb2 xs4=>
 Ae D (ω 50) [φ [bv b2,Ψ xs4]] [] [.i,.E] λn3=>
 Ae D (ω 50) [φ [bv x1_0,Ψ x1_1]] [] [.i,.E] λn4=>
 br (A.lt (A.mul δ n3 n4) 0)
 (Ae D (ω 27) [iv 1] [] [.a,.B,.L,.N,.E] λb3 xs5=>
 Ae D (ω 56) [φ [bv b,Ψ xs2],φ [bv b3,Ψ xs5]] [] [.a,.B,.L,.N,.E] λb4 xs6=>
 Ae D (ω 98) [φ [bv b2,Ψ xs4],φ [bv x1_0,Ψ x1_1]] [] [.a,.B,.L,.N,.E] λb5 xs7=>
 Θ ((γ [φ [bv b4,Ψ xs6],φ [bv b5,Ψ xs7],iv 0],[])))
 (Θ ((γ [φ [bv b,Ψ xs2],φ [bv b2,Ψ xs4],iv 0],[])))))
 (Θ ((γ [φ [bv Φ,Ψ []],φ [bv Φ,Ψ []],iv n],[]))):=by kernel_rfl
theorem e95(x0_0:Bool)(x0_1:Rw)(x1_0:Bool)(x1_1:Rw):BN A D Al Amc .n 95 Anu [φ [bv x0_0,Ψ x0_1],φ [bv x1_0,Ψ x1_1]] [] =
 Ae D (ω 122) [Ψ x0_1,Ψ x1_1] [] [.l,.E] λxs=>
 Ae D (ω 55) [bv Φ,Ψ xs] [] [.a,.B,.L,.N,.E] λb xs1=>
 Θ ((φ [bv b,Ψ xs1],[])):=by kernel_rfl
end
theorem UY(x y:Int):BC x*BC y<0 ↔ (x<0/\0<y)\/(0<x/\y<0):=by
 unfold BC
 by_cases h1:x<0
 .rw[if_pos h1]
  by_cases h2:y<0
  .rw[if_pos h2];omega
  .rw[if_neg h2]
   by_cases h3:0<y
   .rw[if_pos h3];omega
   .rw[if_neg h3];omega
 .rw[if_neg h1]
  by_cases h4:0<x
  .rw[if_pos h4]
   by_cases h2:y<0
   .rw[if_pos h2];omega
   .rw[if_neg h2]
    by_cases h3:0<y
    .rw[if_pos h3];omega
    .rw[if_neg h3];omega
  .rw[if_neg h4,Aug];omega
theorem WJ(x y:Int):Af.mul .i64 (BC x) (BC y)=BC x*BC y:=by
 show IntKind.i64.wrap (BC x*BC y)=_
 have h:-1<=BC x*BC y/\BC x*BC y<=1:=by
  unfold BC;split<;>split<;>(try split)<;>(try split)<;>decide
 rw[IntKind.wrap_i64];omega
theorem Ais(b:Bool):CJ b 0=0:=by unfold CJ;cases b<;>rfl
theorem AnG{x y:Int}(hy:y≠0):CJ (decide (BC x*BC y<0)) (uN x y)=CJ (dS x y) (uN x y):=by
 by_cases hx:x=0
 .rw[show uN x y=0 by unfold uN;rw[hx];exact Au1 _,Ais,Ais]
 .congr 1
  unfold dS;have:=UY x y
  by_cases h1:x<0
  .rw[decide_eq_true h1]
   by_cases h2:y<0
   .rw[decide_eq_true h2,decide_eq_false (by omega)];rfl
   .rw[decide_eq_false h2,decide_eq_true (by omega)];rfl
  .rw[decide_eq_false h1]
   by_cases h2:y<0
   .rw[decide_eq_true h2,decide_eq_true (by omega)];rfl
   .rw[decide_eq_false h2,decide_eq_false (by omega)];rfl
theorem AnI(x y:Int):x-CJ (dS x y) (uN x y)*y=CJ (decide (x<0)) (vN x y):=by
 have:=Vc x y;omega
theorem AkS{x y:Int}(hy:y≠0):BC (CJ (decide (x<0)) (vN x y))*BC y<0 ↔ dS x y=Δ/\0<vN x y:=by
 rw[UY];unfold CJ dS;generalize vN x y=v
 by_cases h1:x<0
 .rw[decide_eq_true h1,if_pos rfl]
  by_cases h2:y<0
  .rw[decide_eq_true h2];simp;omega
  .rw[decide_eq_false h2];simp;omega
 .rw[decide_eq_false h1,if_neg (by simp)]
  by_cases h2:y<0
  .rw[decide_eq_true h2];simp;omega
  .rw[decide_eq_false h2];simp;omega
section
variable {D:Orc} (Kn:Knows Al Lg D) (R:Knows Al Q8 D) (Km:Knows Al U6 D) (G:Knows Al Yu D)
include Kn R Km G
theorem AdG{a b:Zi}(ha:Lz 300000000 a)(hb:Lz 300000000 b):D.ask (.fn 52) [.agg (eZ a),.agg (eZ b)] []
  = Θ (if zv b=0 then .tup [.agg [bv Φ,.ls []],.agg [bv Φ,.ls []],iv 10] else .tup [.agg (eZ (Aq (qZ (zv a) (zv b)))),.agg (eZ (Aq (rZ (zv a) (zv b)))),iv 0],[]):=by
 have hia:=ha.inb;have hib:=hb.inb;have gd:=Yb Kn Km ha.lim (by have:=ha.len;omega) hb.lim (by have:=hb.len;omega);have gsa:=Dl Kn R (ha.mono (show 300000000<=1000000000 by omega));have gsb:=Dl Kn R (hb.mono (show 300000000<=1000000000 by omega));refine AB G AlQ (e52 ..) ?_;refine Aa gd ?_;rw[←E8,←E8,show (zv a).natAbs / (zv b).natAbs=uN (zv a) (zv b) from rfl]
 by_cases h0:zv b=0
 .rw[if_pos h0,if_pos (by rw[h0];rfl)]
  simp only[ND,DK,Ab];exact FU (by decide)
 .rw[if_neg h0,if_neg (by omega)]
  simp only[eN,ND,DK,Ab];refine Bu ?_ (by decide);refine Aa gsa ?_;simp only[ND,DK,Ab];refine Aa gsb ?_;simp only[ND,DK,Ab];have hu:=XD hia (zv b);have hv:=MK hib h0 (zv a);have fu:=λs=>Dk Kn R s (Am (uN (zv a) (zv b))) (by unfold BL;have:=(hu Δ).lz.len;rw[Lp]at this;dsimp only at this;omega)
  simp only[Az]at fu;have gm:=UP Kn R (a:=Aq (CJ (dS (zv a) (zv b)) (uN (zv a) (zv b)))) (b:=b) (k:=400000000) (m:=400000000) (π _) (π _) ((hu _).lz.mono (by omega)) (hb.mono (by omega));have gs:=Ps Kn R (k:=900000000) (π _) (a:=a) (b:=Aq (CJ (dS (zv a) (zv b)) (uN (zv a) (zv b))*zv b)) (ha.mono (by omega)) (((hu _).mul hib).lz.mono (by omega));rw[AE]at gm gs;rw[AnI]at gs;have gt:=Dl Kn R (z:=Aq (CJ (decide (zv a<0)) (vN (zv a) (zv b)))) ((hv _).lz.mono (by omega));rw[AE]at gt;have g1:=Ac8 Kn R 1 (by decide) (by decide);have g2:=Ps Kn R (k:=900000000) (π _) (a:=Aq (CJ (dS (zv a) (zv b)) (uN (zv a) (zv b)))) (b:=Aq 1) ((hu _).lz.mono (by omega)) ((InB.one (k:=1) (by omega)).lz.mono (by omega));have g3:=Pr Kn R (k:=900000000) (π _) (a:=Aq (CJ (decide (zv a<0)) (vN (zv a) (zv b)))) (b:=b) ((hv _).lz.mono (by omega)) (hb.mono (by omega));rw[AE,AE]at g2;rw[AE]at g3;have hc:=AkS (x:=zv a) h0;have hq:=AnG (x:=zv a) h0;have rest:∀ s:Bool,CJ s (uN (zv a) (zv b))=CJ (dS (zv a) (zv b)) (uN (zv a) (zv b))->D.ask (.fn 55) [bv s,eN (Ai (uN (zv a) (zv b)))] []=Θ (.agg (eZ (Aq (CJ (dS (zv a) (zv b)) (uN (zv a) (zv b))))),[]):=λs h=>by rw[fu s,h]
  rw[WJ];unfold qZ rZ
  by_cases hs:BC (zv a)*BC (zv b)<0
  .refine Aj ?_ hs
   refine Aa (rest Δ (by rw[←hq,decide_eq_true hs])) ?_;simp only[eZ,eN,Bh,Bn,BM,A1,AK,DK];refine Aa gm ?_;simp only[eZ,eN,Bh,Bn,BM,A1,AK,DK];refine Aa gs ?_;simp only[eZ,eN,Bh,Bn,BM,A1,AK,DK];refine Aa gt ?_;simp only[C3,AK,DK];refine Aa gsb ?_;simp only[C3,AK,DK];rw[WJ]
   by_cases hb2:dS (zv a) (zv b)=Δ/\0<vN (zv a) (zv b)
   .rw[if_pos hb2,if_pos hb2]
    refine Aj ?_ (hc.2 hb2);refine Aa g1 ?_;simp only[eZ,eN,Bh,Bn,BM,A1,AK,DK];refine Aa g2 ?_;simp only[eZ,eN,Bh,Bn,BM,A1,AK,DK];refine Aa g3 ?_;simp only[eZ,eN,Bh,Bn,BM,A1,AK,DK];rw[hb2.1]
   .rw[if_neg hb2,if_neg hb2]
    exact CK (λh=>hb2 (hc.1 h))
  .refine Ag ?_ hs
   refine Aa (rest Φ (by rw[←hq,decide_eq_false hs])) ?_;simp only[eZ,eN,Bh,Bn,BM,A1,AK,DK];refine Aa gm ?_;simp only[eZ,eN,Bh,Bn,BM,A1,AK,DK];refine Aa gs ?_;simp only[eZ,eN,Bh,Bn,BM,A1,AK,DK];refine Aa gt ?_;simp only[C3,AK,DK];refine Aa gsb ?_;simp only[C3,AK,DK];rw[WJ]
   by_cases hb2:dS (zv a) (zv b)=Δ/\0<vN (zv a) (zv b)
   .rw[if_pos hb2,if_pos hb2]
    refine Aj ?_ (hc.2 hb2);refine Aa g1 ?_;simp only[eZ,eN,Bh,Bn,BM,A1,AK,DK];refine Aa g2 ?_;simp only[eZ,eN,Bh,Bn,BM,A1,AK,DK];refine Aa g3 ?_;simp only[eZ,eN,Bh,Bn,BM,A1,AK,DK];rw[hb2.1]
   .rw[if_neg hb2,if_neg hb2]
    exact CK (λh=>hb2 (hc.1 h))
theorem AdH{a b:Zi}(ha:Lz 900000000 a)(hb:Lz 900000000 b):D.ask (.fn 95) [.agg (eZ a),.agg (eZ b)] []=Θ (.agg (eZ (Aq (Asi (zv a).natAbs (zv b).natAbs:Nat))),[]):=by
 have la:=ha.len;have lb:=hb.len;rw[E8,E8];have hlen:(Ai (Asi (Ad a.abs) (Ad b.abs))).length<=900000000:=by
  rcases Ar8 (Ad a.abs) with h|h
  .rw[h,Aut]
   exact ArJ (Bc (Bt hb.lim)) lb
  .refine ArJ (Bc (k:=a.abs.length) ?_) la
   have:=AuG (Ad b.abs) h;have:=Bt ha.lim;omega
 have g:=Dk Kn R Φ (Am (Asi (Ad a.abs) (Ad b.abs))) (by unfold BL;omega);rw[Az,show CJ Φ (Asi (Ad a.abs) (Ad b.abs))=((Asi (Ad a.abs) (Ad b.abs):Nat):Int) from rfl]at g;refine AB G Amc (e95 ..) ?_;refine Aa (Af5 Kn Km ha.lim (by omega) hb.lim (by omega)) ?_;simp only[eN,ND,DK,Ab];refine Aa g ?_;simp only[eZ,eN,ND,DK,Ab]
end
structure DivF (D:Orc):Prop where
 div:∀ a b:List Nat,Limbs a->a.length<=999999990->Limbs b->b.length<=999999990->D.ask (.fn 70) [eN a,eN b] []
  = Θ (if Ad b=0 then .tup [.ls [],.ls [],iv 10] else .tup [eN (Ai (Ad a / Ad b)),eN (Ai (Ad a % Ad b)),iv 0],[])
section
variable {D:Orc} (K:Knows Al Hi D) (Z:Knows Al Jl D) (C:CloneF D) (G:Knows Al Q6 D) (V:DivF D)
include G V
theorem Ajf:∀(n a b:Nat),b<=n->(Ai a).length<=999999980->(Ai b).length<=999999980->D.ask (.lp 113 0) [eN (Ai a),eN (Ai b)] []=Θ (.tup [iv 0,eN (Ai (Asi a b))],[]):=by
 intro n
 induction n with
 |zero=>
  intro a b hb _ _;obtain rfl:b=0:=by omega
  refine Au G Qv (VK ..) ?_;rw[Cj,Ate];exact CK (by decide)
 |succ n ih=>
  intro a b hb hal hbl
  by_cases h0:b=0
  .subst h0
   refine Au G Qv (VK ..) ?_;rw[Cj,Ate];exact CK (by decide)
  .have hne:0<(Ai b).length:=Dr.2 (by omega)
   have hm:=ArF a (show 0<b by omega);have lr:(Ai (a % b)).length<=(Ai b).length:=Bc (by
    have:=Bt (Am b);rw[Az]at this;omega)
   have g:=V.div _ _ (Am a) (by omega) (Am b) (by omega);rw[Az,Az,if_neg h0]at g;refine Au G Qv (VK ..) ?_;rw[Ak];refine Aj ?_;refine Aa g ?_;simp only[eN,ND,DK,Ab];refine Aa (ih b (a % b) (by omega) hbl (by omega)) ?_;rw[AtY b,←Au6,AtY];rfl
include K C
theorem AiD{a b:List Nat}(ha:Limbs a)(hal:a.length<=999999980)(hb:Limbs b)(hbl:b.length<=999999980):D.ask (.fn 113) [eN a,eN b] []=Θ (eN (Ai (Asi (Ad a) (Ad b))),[]):=by
 have la:(Ai (Ad a)).length<=999999980:=by rw[CO a ha];have:=Ch a;omega
 have lb:(Ai (Ad b)).length<=999999980:=by rw[CO b hb];have:=Ch b;omega
 refine AB G Qv (AoE ..) ?_;refine Aa (Fy K C (by unfold BL;omega) ha) ?_;simp only[eN,ND,DK,Ab];refine Aa (Fy K C (by unfold BL;omega) hb) ?_;simp only[eN,ND,DK,Ab];refine Aa (Ajf G V _ _ _ (π _) la lb) ?_;simp only[eN,ND,DK,Ab]
include Z
omit V in
theorem Ahd{a b:Zi}(ha:Lz 900000000 a)(hb:Lz 900000000 b):D.ask (.fn 72) [.agg (eZ a),.agg (eZ b)] []=Θ (.agg (eZ (Aq (zv a-zv b))),[]):=by
 have g:=S9 K Z C (π _) ha (hb.inb.neg.lz);rw[AE,←AtH]at g;refine AB G Al4 (e72 ..) ?_;refine Aa (YH K Z C (hb.mono (by omega))) ?_;simp only[eZ,eN,ND,DK,Ab];refine Aa g ?_;simp only[eZ,eN,ND,DK,Ab]
theorem YG{a b:Zi}(ha:Lz 800000000 a)(hb:Lz 800000000 b):D.ask (.fn 32) [.agg (eZ a),.agg (eZ b)] []
  = Θ (if zv b=0 then .tup [.agg [bv Φ,.ls []],.agg [bv Φ,.ls []],iv 10] else .tup [.agg (eZ (Aq (qZ (zv a) (zv b)))),.agg (eZ (Aq (rZ (zv a) (zv b)))),iv 0],[]):=by
 have hia:=ha.inb;have hib:=hb.inb;have la:=hia.lz;have lb:=hib.lz;have gd:=V.div _ _ la.lim (by have:=la.len;omega) lb.lim (by have:=lb.len;omega);rw[show (Aq (zv a)).abs=Ai (zv a).natAbs from rfl,show (Aq (zv b)).abs=Ai (zv b).natAbs from rfl,Az,Az]at gd;refine AB G AlD (e32 ..) ?_;refine Aa (N1 K Z C (ha.mono (by omega))) ?_;simp only[eZ,eN,ND,DK,Ab];refine Aa (N1 K Z C (hb.mono (by omega))) ?_;simp only[eZ,eN,ND,DK,Ab];rw[show (Aq (zv a)).neg=decide (zv a<0) from rfl,show (Aq (zv b)).neg=decide (zv b<0) from rfl];generalize zv a=x at *;generalize zv b=y at *;refine Aa gd ?_
 by_cases h0:y=0
 .rw[if_pos h0,if_pos (by rw[h0];rfl)]
  simp only[ND,DK,Ab];exact FU (by decide)
 .rw[if_neg h0,if_neg (by omega)]
  simp only[eN,ND,DK,Ab];refine Bu ?_ (by decide);have hu:=XD hia y;have hv:=MK hib h0 x;have fu:=λs=>Ex K Z C s (Am (uN x y)) (by unfold BL;have:=(hu Δ).lz.len;rw[Lp]at this;dsimp only at this;omega)
  have fv:=λs=>Ex K Z C s (Am (vN x y)) (by unfold BL;have:=(hv Δ).lz.len;rw[Lp]at this;dsimp only at this;omega)
  simp only[Az]at fu fv;rw[show x.natAbs / y.natAbs=uN x y from rfl,show x.natAbs % y.natAbs=vN x y from rfl,Ak];rw[show Af.not (Af.beq (decide (x<0)) (decide (y<0)))=dS x y from rfl];unfold qZ rZ;have hlv:=@Dr (vN x y)
  cases hs:dS x y with
  |true=>
   refine Ac ?_;refine Aa (fu Δ) ?_;simp only[eZ,eN,Bh,Bn,BM,A1,AK,DK];refine Aa (fv _) ?_;simp only[eZ,eN,Bh,Bn,BM,A1,AK,DK];refine Ac ?_
   by_cases hv0:0<vN x y
   .refine Aj ?_ (by have:=hlv.2 hv0;omega)
    rw[if_pos ⟨trivial,hv0⟩,if_pos ⟨trivial,hv0⟩];have g1:=Aem K Z C 1 (by decide) (by decide);have g2:=Ahd K Z C G (a:=Aq (CJ Δ (uN x y))) (b:=Aq 1) ((hu Δ).lz.mono (by omega)) ((InB.one (k:=1) (by omega)).lz.mono (by omega));have g3:=S9 K Z C (π _) (a:=Aq (CJ (decide (x<0)) (vN x y))) (b:=Aq y) ((hv _).lz.mono (by omega)) (lb.mono (by omega));rw[AE,AE]at g2 g3;refine Aa g1 ?_;simp only[eZ,eN,Bh,Bn,BM,A1,AK,DK];refine Aa g2 ?_;simp only[eZ,eN,Bh,Bn,BM,A1,AK,DK];refine Aa g3 ?_;simp only[eZ,eN,Bh,Bn,BM,A1,AK,DK]
   .refine Ag ?_ (by intro h;exact hv0 (hlv.1 (by omega)))
    rw[if_neg (λh=>hv0 h.2),if_neg (λh=>hv0 h.2)]
  |false=>
   refine Ba ?_;refine Aa (fu Φ) ?_;simp only[eZ,eN,Bh,Bn,BM,A1,AK,DK];refine Aa (fv _) ?_;simp only[eZ,eN,Bh,Bn,BM,A1,AK,DK];refine Ba ?_;rw[if_neg (λh=>by cases h.1),if_neg (λh=>by cases h.1)]
theorem Aaz{a b:Zi}(ha:Lz 800000000 a)(hb:Lz 800000000 b):D.ask (.fn 69) [.agg (eZ a),.agg (eZ b)] []
  = Θ (if zv b=0 then .tup [.agg [bv Φ,.ls []],iv 10] else if rZ (zv a) (zv b)=0 then .tup [.agg (eZ (Aq (qZ (zv a) (zv b)))),iv 0] else .tup [.agg [bv Φ,.ls []],iv 1],[]):=by
 have hia:=ha.inb;have hib:=hb.inb;refine AB G Al2 (e69 ..) ?_;refine Aa (YG K Z C G V ha hb) ?_;generalize zv a=x at *;generalize zv b=y at *
 by_cases h0:y=0
 .rw[if_pos h0,if_pos h0]
  simp only[ND,DK,Ab];exact FU (by decide)
 .rw[if_neg h0,if_neg h0]
  have hr:InB 800000001 (rZ x y):=by
   unfold rZ;split
   .exact(MK hib h0 x _).add hib
   .exact(MK hib h0 x _).mono (by omega)
  have gs:=Lo K Z C (z:=Aq (rZ x y)) (hr.lz.mono (by omega));rw[AE]at gs;simp only[eZ,eN,ND,DK,Ab];refine Bu ?_ (by decide);refine Aa gs ?_;simp only[ND,DK,Ab]
  by_cases h1:rZ x y=0
  .rw[if_pos h1,h1]
   exact GJ (by decide)
  .rw[if_neg h1]
   refine(FU ?_).trans ?_
   .unfold BC
    split
    .omega
    .rw[if_pos (by omega)];omega
   .rfl
theorem Ahb{a b:Zi}(ha:Lz 900000000 a)(hb:Lz 900000000 b):D.ask (.fn 74) [.agg (eZ a),.agg (eZ b)] []=Θ (.agg (eZ (Aq (Asi (zv a).natAbs (zv b).natAbs:Nat))),[]):=by
 have hia:=ha.inb;have la:=ha.len;have lb:=hb.len;rw[E8,E8];have hlen:(Ai (Asi (Ad a.abs) (Ad b.abs))).length<=900000000:=by
  rcases Ar8 (Ad a.abs) with h|h
  .rw[h,Aut]
   exact ArJ (Bc (Bt hb.lim)) lb
  .refine ArJ (Bc (k:=a.abs.length) ?_) la
   have:=AuG (Ad b.abs) h;have:=Bt ha.lim;omega
 have g:=Ex K Z C Φ (Am (Asi (Ad a.abs) (Ad b.abs))) (by unfold BL;omega);rw[Az,show CJ Φ (Asi (Ad a.abs) (Ad b.abs))=((Asi (Ad a.abs) (Ad b.abs):Nat):Int) from rfl]at g;refine AB G Al6 (e74 ..) ?_;refine Aa (AiD K C G V ha.lim (by omega) hb.lim (by omega)) ?_;simp only[eN,ND,DK,Ab];refine Aa g ?_;simp only[eZ,eN,ND,DK,Ab]
end
