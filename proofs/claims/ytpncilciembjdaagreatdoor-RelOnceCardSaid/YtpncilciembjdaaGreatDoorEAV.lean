/- Functions of the program -/
import Derived.Test.YtpncilciembjdaaGreatDoorEAU
set_option linter.all false
open Bool renaming false->Φ,true->Δ
open Int renaming eq_ofNat_of_zero_le->Au1,mul_neg->Au5,mul_zero->AuT,natAbs_natCast->AtS,natAbs_neg->At1,natCast_mul->At8,neg_mul->Aup,sub_eq_add_neg->AuJ,zero_mul->AvQ
open List renaming append_assoc->Ar4,append_nil->AsX,drop->ArV,drop_append->Avw,drop_eq_getElem_cons->ο,drop_eq_nil_of_le->Ar6,drop_zero->ArT,getD_eq_getElem?_getD->AtU,getElem?_eq_getElem->φ,getElem?_eq_none->AsZ,getElem?_set_ne->As8,getElem?_set_self->Ati,length_append->η,length_cons->ε,length_set->Asd,length_singleton->Asi,length_take->Asb,mem_cons->ArR,mem_cons_of_mem->γ,mem_cons_self->υ,mem_map->Asj,nil_append->Asg,pairwise_cons->AsH,replicate->Atb,tail_drop->AtQ,take->ArQ,take_of_length_le->AsW,take_succ_eq_append_getElem->AsD
open Nat renaming add_mul->Asz,add_sub_cancel->As2,ble->ArY,dvd_trans->AvP,eq_zero_or_pos->As9,gcd->AtL,gcd_comm->AvW,gcd_le_left->AvG,gcd_zero_left->Avr,gcd_zero_right->Avl,le_refl->κ,le_trans->Asr,min_eq_left->AsR,mod_lt->AsJ,pow_le_pow_right->Att,pow_succ->As7,zero_add->Ar5
open Option renaming none->Ξ,some->Θ
namespace Go.Proofs.YtpncilciembjdaaGreatDoor
noncomputable section
open ABlk renaming mk->δ
open AV renaming agg->ω,ls->Ψ,ptr->Asm,sl->χ,tup->ι,v->ArZ
open BO renaming set->ArU
open IntKind renaming i64->θ,u32->ζ,u64->Ω
open Key renaming fn->ψ,lp->ArW
section
open Go.RowKit
def QB:MFn:=AU [⟨37,(mB 25),[(3,1)],[],[(1,((mB 8),([],[])))]⟩,⟨37,(mB 8),[(3,1)],[],[(3,((mB 8),([],[])))]⟩] 149
def Mm:Hnt:=⟨[],[(0,[(1,([.sl 1 1],[.del,.row Δ]))]),(1,[(3,([.sl 1 1],[.del,.row Δ]))])],[(15,[.int .u32]),(16,[.int .u32]),(27,[.int .u32]),(28,[.int .u32])]⟩
def AjW:MFn:=AU [] 186
def Ajc:Hnt:=⟨[],[],[]⟩
def AjX:MFn:=AU [] 187
def Ajd:Hnt:=⟨[],[],[(15,[.int .u32]),(16,[.int .u32])]⟩
def XV:MFn:=AU [⟨28,(mB 35),[],[],[(0,((mB 16),([],[]))),(1,([],([],[])))]⟩] 228
def TX:Hnt:=⟨[(186,(.int .i64,[])),(187,(.int .u64,[]))],[(0,[(0,([.int .i64],[])),(1,([],[]))])],[]⟩
def XJ:MFn:=AU [⟨36,(mB 227),[(5,1)],[],[(1,((mB 32),([],[])))]⟩] 129
def TO:Hnt:=⟨[(149,(.ls,[])),(186,(.int .i64,[])),(187,(.int .u64,[]))],[(0,[(1,([.sl 1 1],[.del,.row Δ]))])],[]⟩
def XN:MFn:=AU [⟨43,(mB 451),[(6,1)],[],[(1,((mB 64),([],[])))]⟩] 182
def TS:Hnt:=⟨[(149,(.ls,[])),(186,(.int .i64,[])),(187,(.int .u64,[])),(228,(.int .i64,[]))],[(0,[(1,([.sl 1 1],[.del,.row Δ]))])],[]⟩
def XW:MFn:=AU [⟨37,(mB 227),[(5,1)],[],[(1,((mB 96),([],[])))]⟩] 229
def TY:Hnt:=⟨[(149,(.ls,[])),(187,(.int .u64,[]))],[(0,[(1,([.sl 1 1,.int .u64],[.del,.row Δ]))])],[]⟩
def QC:MFn:=AU [⟨42,(mB 99),[],[5],[(1,((mB 32),([],[])))]⟩,⟨42,(mB 483),[(7,1)],[],[(3,((mB 195),([],[])))]⟩] 183
def Mn:Hnt:=⟨[(129,(.ls,[])),(149,(.ls,[])),(229,(.ls,[]))],[(0,[(1,([.ls],[]))]),(1,[(3,([.ls,.ls,.int .i64,.sl 1 1],[.del,.row Δ]))])],[(27,[.int .u32]),(28,[.int .u32]),(35,[.int .u32]),(36,[.int .u32])]⟩
def XU:MFn:=AU [⟨26,(mB 35),[],[],[(0,((mB 16),([],[]))),(1,([],([],[])))]⟩] 210
def Ou:Hnt:=⟨[],[(0,[(0,([.bool],[])),(1,([],[]))])],[(19,[.int .u32]),(20,[.int .u32]),(23,[.int .u32]),(24,[.int .u32])]⟩
def QY:List (Nat × MFn):=[(149,QB),(186,AjW),(187,AjX),(228,XV),(129,XJ),(182,XN),(229,XW),(183,QC),(210,XU)]
variable (A:Ar) (D:Orc)
theorem ApE(x0:Rw):BY A D At Mm .n 149 QB [Ψ x0] [] =
 Af D (ArW 149 0) [Ψ x0,χ 0 0 0 1,iv 0] [δ [] Δ Δ] [.t,.C,.x,.X,.Y] λc l o=>
 br (Bo 1 c)
 (dk [.C,.q 1 1,.N,.D,.R,.X,.E] [.l l,.o o] λn cs1=>
 Af D (ArW 149 1) [χ 0 0 n 1] [δ cs1 Δ Δ] [.t,.C,.x,.X,.Y] λc4 l4 o1=>
 br (Bo 3 c4)
 (dk [.C,.q 1 1,.N,.D,.R,.X,.E] [.l l4,.o o1] λn1 cs3=>
 br ((0+n1*1).ble cs3.length) (Θ ((Ψ (Be n1 1 (ArQ (n1*1) cs3)),[]))) Ξ)
 (Ξ))
 (Ξ):=by kernel_rfl
theorem Abi(t0:Rw)(n3:Nat)(c3:List AV)(t4:Int):Dy A D At Mm .n 149 0 (AZ QB 0).fst (AZ QB 0).snd [Ψ t0,χ 0 0 n3 1,iv t4] [{ cells:=c3,st:=Δ,ex:=Δ }] =
 br (A.lt t4 ↑(Al t0))
 (unI t4 λi=>
 BH t0 i λcs=>
 dk [.J .u32,.N] [.l cs] λn=>
 br (Bj (n3+1) 4) (br ((0+n3*1).ble c3.length) (AF D (ArW 149 0) [Ψ t0,χ 0 0 (n3+1) 1,iv (A.add θ t4 1)] [δ (ArV 0 (ArQ (0+n3*1) c3)++[ArZ (Value.int ζ n)]) Δ Δ] λr o=>
 AW 1 [2] (AH.mk [(2,δ (ArV 0 (ArQ (0+n3*1) c3)++[ArZ (Value.int ζ n)]) Δ Δ),(1,δ [ArZ (Value.int ζ n)] Δ Δ)] 3 Ξ) [0] r o) Ξ) Ξ)
 (Θ ((ι [iv 0,χ 1 0 n3 1],[BO.del,ArU (δ c3 Δ Δ)]))):=by kernel_rfl
theorem Abj(n3:Nat)(c3:List AV):Dy A D At Mm .n 149 1 (AZ QB 1).fst (AZ QB 1).snd [χ 0 0 n3 1] [{ cells:=c3,st:=Δ,ex:=Δ }] =
 br (A.lt 0 ↑n3)
 (unI (A.sub θ (↑n3) 1) λi=>
 br (i.blt n3) (EX c3 (0+i*1) 1 λcs=>
 dk [.J .u32,.N] [.l cs] λn=>
 br (A.eq n 0)
 (unI (A.sub θ (↑n3) 1) λi1=>
 br (IJ 0 i1 n3) (AF D (ArW 149 1) [χ 0 0 i1 1] [δ c3 Δ Δ] λr o=>
 AW 1 [0] (AH.mk [(0,δ c3 Δ Δ)] 1 Ξ) [] r o) Ξ)
 (Θ ((ι [iv 2,χ 1 0 n3 1],[BO.del,ArU (δ c3 Δ Δ)])))) Ξ)
 (Θ ((ι [iv 2,χ 1 0 n3 1],[BO.del,ArU (δ c3 Δ Δ)]))):=by kernel_rfl
theorem ApT(x0 x1:Rw):BY A D At Ajc .n 186 AjW [Ψ x0,Ψ x1] [] =
 br (A.lt ↑(Al x1) ↑(Al x0))
 (Θ ((iv ↑(Al x0),[])))
 (Θ ((iv ↑(Al x1),[]))):=by kernel_rfl
theorem ApU(x0:Rw)(x1:Int):BY A D At Ajd .n 187 AjX [Ψ x0,iv x1] [] =
 br (A.lt x1 0)
 (Θ ((ArZ (Value.int Ω 0),[])))
 (br (A.le (↑(Al x0)) x1)
 (Θ ((ArZ (Value.int Ω 0),[])))
 (unI x1 λi=>
 BH x0 i λcs=>
 dk [.J .u32,.N] [.l cs] λn=>
 Θ ((ArZ (Value.int Ω (A.conv Ω n)),[])))):=by kernel_rfl
theorem Ap6(x0 x1:Rw):BY A D At TX .n 228 XV [Ψ x0,Ψ x1] [] =
 Af D (ψ 186) [Ψ x0,Ψ x1] [] [.i,.E] λn=>
 Af D (ArW 228 0) [Ψ x0,Ψ x1,iv (A.sub θ n 1)] [] [.t,.C,.x,.X,.Y] λc l o1=>
 br (Bo 0 c)
 (dk [.I,.N,.E] [.l l,.o o1] λn1=>
 Θ ((iv n1,[])))
 (br (Bo 1 c)
 (Fr l<|
 DE o1<|
 Θ ((iv 0,[])))
 (Ξ)):=by kernel_rfl
theorem Abw(t0 t1:Rw)(t5:Int):Dy A D At TX .n 228 0 (AZ XV 0).fst (AZ XV 0).snd [Ψ t0,Ψ t1,iv t5] [] =
 br (A.le 0 t5)
 (Af D (ψ 187) [Ψ t0,iv t5] [] [.j .u64,.E] λn=>
 Af D (ψ 187) [Ψ t1,iv t5] [] [.j .u64,.E] λn1=>
 br (A.lt n n1)
 (Θ ((ι [bv Δ,iv (-1)],[])))
 (Af D (ψ 187) [Ψ t0,iv t5] [] [.j .u64,.E] λn2=>
 Af D (ψ 187) [Ψ t1,iv t5] [] [.j .u64,.E] λn3=>
 br (A.lt n3 n2)
 (Θ ((ι [bv Δ,iv 1],[])))
 (AF D (ArW 228 0) [Ψ t0,Ψ t1,iv (A.sub θ t5 1)] [] λr4 o4=>
 AW 0 [] (AH.mk [] 0 Ξ) [] r4 o4)))
 (Θ ((ι [iv 0],[]))):=by kernel_rfl
theorem Aps(x0 x1:Rw):BY A D At TO .n 129 XJ [Ψ x0,Ψ x1] [] =
 Af D (ArW 129 0) [Ψ x0,Ψ x1,χ 0 0 0 1,ArZ (Value.int Ω 0),iv 0] [δ [] Δ Δ] [.t,.C,.x,.X,.Y] λc l o=>
 br (Bo 1 c)
 (dk [.C,.q 1 1,.N,.D,.R,.X,.E] [.l l,.o o] λn cs1=>
 br ((0+n*1).ble cs1.length) (AF D (ψ 149) [Ψ (Be n 1 (ArQ (n*1) cs1))] [] λr1 o1=>
 Mb r1 λxs=>
 DE o1<|
 Θ ((Ψ xs,[]))) Ξ)
 (Ξ):=by kernel_rfl
theorem Abg(t0 t1:Rw)(n5:Nat)(c5:List AV)(t6 t7:Int):Dy A D At TO (.b (.b (.b .n (.b .n (.f .n))) .n) .n) 129 0 (AZ XJ 0).fst (AZ XJ 0).snd [Ψ t0,Ψ t1,χ 0 0 n5 1,ArZ (Value.int Ω t6),iv t7] [{ cells:=c5,st:=Δ,ex:=Δ }] =
 Af D (ψ 186) [Ψ t0,Ψ t1] [] [.i,.E] λn=>
 br (A.le t7 n)
 (Af D (ψ 187) [Ψ t0,iv t7] [] [.j .u64,.E] λn1=>
 Af D (ψ 187) [Ψ t1,iv t7] [] [.j .u64,.E] λn2=>
 br (A.eq 4294967296 0)
 (Ξ)
 (br (Bj (n5+1) 4) (br ((0+n5*1).ble c5.length) (br (A.eq 4294967296 0) Ξ (AF D (ArW 129 0) [Ψ t0,Ψ t1,χ 0 0 (n5+1) 1,ArZ (Value.int Ω (A.quo Ω (A.add Ω (A.add Ω n1 n2) t6) 4294967296)),iv (A.add θ t7 1)] [δ (ArV 0 (ArQ (0+n5*1) c5)++[ArZ (Value.int ζ (A.conv ζ (A.rem Ω (A.add Ω (A.add Ω n1 n2) t6) 4294967296)))]) Δ Δ] λr3 o3=>
 AW 1 [2] (AH.mk [(2,δ (ArV 0 (ArQ (0+n5*1) c5)++[ArZ (Value.int ζ (A.conv ζ (A.rem Ω (A.add Ω (A.add Ω n1 n2) t6) 4294967296)))]) Δ Δ),(1,δ [ArZ (Value.int ζ (A.conv ζ (A.rem Ω (A.add Ω (A.add Ω n1 n2) t6) 4294967296)))] Δ Δ)] 3 Ξ) [0] r3 o3)) Ξ) Ξ))
 (Θ ((ι [iv 0,χ 1 0 n5 1],[BO.del,ArU (δ c5 Δ Δ)]))):=by kernel_rfl
theorem ApP(x0 x1:Rw):BY A D At TS .n 182 XN [Ψ x0,Ψ x1] [] =
 Af D (ψ 228) [Ψ x0,Ψ x1] [] [.i,.E] λn=>
 br (A.lt n 0)
 (Θ ((ι [Ψ [],bv Φ],[])))
 (Af D (ArW 182 0) [Ψ x0,Ψ x1,χ 0 0 0 1,ArZ (Value.int Ω 0),iv 0] [δ [] Δ Δ] [.t,.C,.x,.X,.Y] λc l o1=>
 br (Bo 1 c)
 (dk [.C,.q 1 1,.N,.D,.R,.X,.E] [.l l,.o o1] λn1 cs1=>
 br ((0+n1*1).ble cs1.length) (AF D (ψ 149) [Ψ (Be n1 1 (ArQ (n1*1) cs1))] [] λr2 o2=>
 Mb r2 λxs=>
 DE o2<|
 Θ ((ι [Ψ xs,bv Δ],[]))) Ξ)
 (Ξ)):=by kernel_rfl
theorem Abm(t0 t1:Rw)(n6:Nat)(c6:List AV)(t7 t8:Int):Dy A D At TS (.b (.b (.b .n (.b .n (.f .n))) .n) .n) 182 0 (AZ XN 0).fst (AZ XN 0).snd [Ψ t0,Ψ t1,χ 0 0 n6 1,ArZ (Value.int Ω t7),iv t8] [{ cells:=c6,st:=Δ,ex:=Δ }] =
 Af D (ψ 186) [Ψ t0,Ψ t1] [] [.i,.E] λn=>
 br (A.lt t8 n)
 (Af D (ψ 187) [Ψ t0,iv t8] [] [.j .u64,.E] λn1=>
 Af D (ψ 187) [Ψ t1,iv t8] [] [.j .u64,.E] λn2=>
 br (A.eq 4294967296 0)
 (Ξ)
 (br (Bj (n6+1) 4) (br ((0+n6*1).ble c6.length) (br (A.eq 4294967296 0) Ξ (AF D (ArW 182 0) [Ψ t0,Ψ t1,χ 0 0 (n6+1) 1,ArZ (Value.int Ω (A.sub Ω 1 (A.quo Ω (A.sub Ω (A.sub Ω (A.add Ω n1 4294967296) n2) t7) 4294967296))),iv (A.add θ t8 1)] [δ (ArV 0 (ArQ (0+n6*1) c6)++[ArZ (Value.int ζ (A.conv ζ (A.rem Ω (A.sub Ω (A.sub Ω (A.add Ω n1 4294967296) n2) t7) 4294967296)))]) Δ Δ] λr3 o3=>
 AW 1 [2] (AH.mk [(2,δ (ArV 0 (ArQ (0+n6*1) c6)++[ArZ (Value.int ζ (A.conv ζ (A.rem Ω (A.sub Ω (A.sub Ω (A.add Ω n1 4294967296) n2) t7) 4294967296)))]) Δ Δ),(1,δ [ArZ (Value.int ζ (A.conv ζ (A.rem Ω (A.sub Ω (A.sub Ω (A.add Ω n1 4294967296) n2) t7) 4294967296)))] Δ Δ)] 3 Ξ) [0] r3 o3)) Ξ) Ξ))
 (Θ ((ι [iv 0,χ 1 0 n6 1],[BO.del,ArU (δ c6 Δ Δ)]))):=by kernel_rfl
theorem Ap7(x0:Rw)(x1:Int):BY A D At TY .n 229 XW [Ψ x0,ArZ (Value.int Ω x1)] [] =
 Af D (ArW 229 0) [Ψ x0,ArZ (Value.int Ω x1),χ 0 0 0 1,ArZ (Value.int Ω 0),iv 0] [δ [] Δ Δ] [.t,.C,.x,.X,.Y] λc l o=>
 br (Bo 1 c)
 (dk [.C,.q 1 1,.J .u64,.N,.D,.R,.X,.E] [.l l,.o o] λn n1 cs1=>
 br (Bj (n+1) 4) (br ((0+n*1).ble cs1.length) (br ((0+(n+1)*1).ble (ArV 0 (ArQ (0+n*1) cs1)++[ArZ (Value.int ζ (A.conv ζ n1))]).length) (AF D (ψ 149) [Ψ (Be (n+1) 1 (ArQ ((n+1)*1) (ArV 0 (ArV 0 (ArQ (0+n*1) cs1)++[ArZ (Value.int ζ (A.conv ζ n1))]))))] [] λr1 o1=>
 Mb r1 λxs=>
 DE o1<|
 Θ ((Ψ xs,[]))) Ξ) Ξ) Ξ)
 (Ξ):=by kernel_rfl
theorem Abx(t0:Rw)(t1:Int)(n5:Nat)(c5:List AV)(t6 t7:Int):Dy A D At TY (.b (.b (.b .n (.b .n (.f .n))) .n) .n) 229 0 (AZ XW 0).fst (AZ XW 0).snd [Ψ t0,ArZ (Value.int Ω t1),χ 0 0 n5 1,ArZ (Value.int Ω t6),iv t7] [{ cells:=c5,st:=Δ,ex:=Δ }] =
 br (A.lt t7 ↑(Al t0))
 (Af D (ψ 187) [Ψ t0,iv t7] [] [.j .u64,.E] λn=>
 br (A.eq 4294967296 0)
 (Ξ)
 (br (Bj (n5+1) 4) (br ((0+n5*1).ble c5.length) (br (A.eq 4294967296 0) Ξ (AF D (ArW 229 0) [Ψ t0,ArZ (Value.int Ω t1),χ 0 0 (n5+1) 1,ArZ (Value.int Ω (A.quo Ω (A.add Ω (A.mul Ω n t1) t6) 4294967296)),iv (A.add θ t7 1)] [δ (ArV 0 (ArQ (0+n5*1) c5)++[ArZ (Value.int ζ (A.conv ζ (A.rem Ω (A.add Ω (A.mul Ω n t1) t6) 4294967296)))]) Δ Δ] λr1 o1=>
 AW 1 [2] (AH.mk [(2,δ (ArV 0 (ArQ (0+n5*1) c5)++[ArZ (Value.int ζ (A.conv ζ (A.rem Ω (A.add Ω (A.mul Ω n t1) t6) 4294967296)))]) Δ Δ),(1,δ [ArZ (Value.int ζ (A.conv ζ (A.rem Ω (A.add Ω (A.mul Ω n t1) t6) 4294967296)))] Δ Δ)] 3 Ξ) [0] r1 o1)) Ξ) Ξ))
 (Θ ((ι [iv 0,χ 1 0 n5 1,ArZ (Value.int Ω t6)],[BO.del,ArU (δ c5 Δ Δ)]))):=by kernel_rfl
theorem ApQ(x0 x1:Rw):BY A D At Mn .n 183 QC [Ψ x0,Ψ x1] [] =
 Af D (ArW 183 0) [Ψ x0,Ψ x1,Ψ [],iv (A.sub θ (↑(Al x1)) 1)] [] [.t,.C,.x,.X,.Y] λc l o=>
 br (Bo 1 c)
 (dk [.L,.N,.E] [.l l,.o o] λxs=>
 Af D (ψ 149) [Ψ xs] [] [.l,.E] λxs1=>
 Θ ((Ψ xs1,[])))
 (Ξ):=by kernel_rfl
theorem Abn(t0 t1 t5:Rw)(t6:Int):Dy A D At Mn .n 183 0 (AZ QC 0).fst (AZ QC 0).snd [Ψ t0,Ψ t1,Ψ t5,iv t6] [] =
 br (A.le 0 t6)
 (Af D (ArW 183 1) [Ψ t0,Ψ t1,Ψ t5,iv t6,χ 0 0 1 1,iv 0] [δ [ArZ (Value.int ζ 0)] Δ Δ] [.t,.C,.x,.X,.Y] λc l o=>
 br (Bo 3 c)
 (dk [.L,.L,.I,.C,.q 1 1,.N,.D,.R,.X,.E] [.l l,.o o] λxs xs1 n n1 cs1=>
 unI n λi=>
 BH xs1 i λcs2=>
 dk [.J .u32,.N] [.l cs2] λn2=>
 Af D (ψ 229) [Ψ xs,ArZ (Value.int Ω (A.conv Ω n2))] [] [.l,.E] λxs2=>
 br ((0+n1*1).ble cs1.length) (AF D (ψ 129) [Ψ (Be n1 1 (ArQ (n1*1) cs1)),Ψ xs2] [] λr2 o2=>
 Mb r2 λxs3=>
 DE o2<|
 AF D (ArW 183 0) [Ψ xs,Ψ xs1,Ψ xs3,iv (A.sub θ n 1)] [] λr3 o3=>
 AW 0 [] (AH.mk [(1,δ cs1 Φ Δ)] 2 Ξ) [] r3 o3) Ξ)
 (Ξ))
 (Θ ((ι [iv 0,Ψ t5],[]))):=by kernel_rfl
theorem Abo(t0 t1 t5:Rw)(t6:Int)(n7:Nat)(c7:List AV)(t8:Int):Dy A D At Mn .n 183 1 (AZ QC 1).fst (AZ QC 1).snd [Ψ t0,Ψ t1,Ψ t5,iv t6,χ 0 0 n7 1,iv t8] [{ cells:=c7,st:=Δ,ex:=Δ }] =
 br (A.lt t8 ↑(Al t5))
 (unI t8 λi=>
 BH t5 i λcs=>
 dk [.J .u32,.N] [.l cs] λn=>
 br (Bj (n7+1) 4) (br ((0+n7*1).ble c7.length) (AF D (ArW 183 1) [Ψ t0,Ψ t1,Ψ t5,iv t6,χ 0 0 (n7+1) 1,iv (A.add θ t8 1)] [δ (ArV 0 (ArQ (0+n7*1) c7)++[ArZ (Value.int ζ n)]) Δ Δ] λr o=>
 AW 1 [2] (AH.mk [(2,δ (ArV 0 (ArQ (0+n7*1) c7)++[ArZ (Value.int ζ n)]) Δ Δ),(1,δ [ArZ (Value.int ζ n)] Δ Δ)] 3 Ξ) [0] r o) Ξ) Ξ)
 (Θ ((ι [iv 2,Ψ t0,Ψ t1,iv t6,χ 1 0 n7 1],[BO.del,ArU (δ c7 Δ Δ)]))):=by kernel_rfl
theorem Ap3(x0 x1:Rw):BY A D At Ou .n 210 XU [Ψ x0,Ψ x1] [] =
 br (A.eq ↑(Al x0) ↑(Al x1))
 (Af D (ArW 210 0) [Ψ x0,Ψ x1,iv 0] [] [.t,.C,.x,.X,.Y] λc l o=>
 br (Bo 0 c)
 (dk [.B,.N,.E] [.l l,.o o] λb=>
 Θ ((bv b,[])))
 (br (Bo 1 c)
 (Fr l<|
 DE o<|
 Θ ((bv Δ,[])))
 (Ξ)))
 (Θ ((bv Φ,[]))):=by kernel_rfl
theorem RG(t0 t1:Rw)(t5:Int):Dy A D At Ou .n 210 0 (AZ XU 0).fst (AZ XU 0).snd [Ψ t0,Ψ t1,iv t5] [] =
 br (A.lt t5 ↑(Al t0))
 (unI t5 λi=>
 BH t0 i λcs=>
 dk [.J .u32,.N] [.l cs] λn=>
 unI t5 λi1=>
 BH t1 i1 λcs1=>
 dk [.J .u32,.N] [.l cs1] λn1=>
 br (A.eq n n1)
 (AF D (ArW 210 0) [Ψ t0,Ψ t1,iv (A.add θ t5 1)] [] λr o=>
 AW 0 [] (AH.mk [] 0 Ξ) [] r o)
 (Θ ((ι [bv Δ,bv Φ],[]))))
 (Θ ((ι [iv 0],[]))):=by kernel_rfl
end
open Go.RowKit
theorem Sp(x:Nat)(h:x<18446744073709551616):Ae.quo .u64 (x:Int) 4294967296=((x / 4294967296:Nat):Int):=by
 show IntKind.u64.wrap ((x:Int).tdiv 4294967296)=_
 have:(x:Int).tdiv 4294967296=((x / 4294967296:Nat):Int):=rfl;rw[this,IntKind.wrap_u64];omega
theorem Sq(x:Nat):Ae.rem .u64 (x:Int) 4294967296=((x % 4294967296:Nat):Int):=by
 show (x:Int).tmod 4294967296=_
 rfl
theorem Aah(l:List Nat)(n:Nat):(Ag eL l).take n=Ag eL (l.take n):=by rw[D6,D6,List.map_take]
theorem Vu(l:List Nat)(n:Nat)(h:n<=l.length):Be n 1 ((Ag eL l).take (n*1))=(l.take n).map eL:=by
 rw[Nat.mul_one,Aah];have:=CE AA (l.take n)
 rwa [Asb,AsR h]at this
theorem Lm(l:List Nat)(i:Nat):(l.drop i).headD 0=l.getD i 0:=by
 rw[AtU]
 by_cases h:i<l.length
 .rw[ο h,φ h];rfl
 .rw[Ar6 (by omega),AsZ (by omega)];rfl
theorem M8{l:List Nat}(h:Limbs l)(i:Nat):l.getD i 0<4294967296:=by
 rw[←Lm];exact DZ (h.drop i)
def Ee(n:Nat)(l:List Nat):List Nat:=l++Atb (n-l.length) 0
theorem Aia(n:Nat):Ad (Atb n 0)=0:=by
 induction n with
 |zero=>rfl
 |succ n ih=>rw[List.replicate_succ,Ad,ih]
theorem GG(n:Nat)(l:List Nat):Ad (Ee n l)=Ad l:=by
 unfold Ee;rw[BF,Aia];omega
theorem D2{n:Nat}{l:List Nat}(h:l.length<=n):(Ee n l).length=n:=by
 unfold Ee;rw[η,List.length_replicate];omega
theorem Et{n:Nat}{l:List Nat}(h:Limbs l):Limbs (Ee n l):=CG h λx hx=>by
 rw[(List.mem_replicate.1 hx).2];omega
theorem KB{n i:Nat}{l:List Nat}(h:l.length<=n)(hi:i<n):(Ee n l)[i]'(by rw[D2 h];exact hi)=l.getD i 0:=by
 rw[AtU];unfold Ee
 by_cases h2:i<l.length
 .rw[List.getElem_append_left h2,φ h2];rfl
 .rw[List.getElem_append_right (by omega),List.getElem_replicate,AsZ (by omega)];rfl
section
variable {D:Orc} (K:Knows At QY D)
include K
theorem AdC(l:List Nat)(hl:BU l):∀(k i:Nat) (out:List Nat),l.length-i=k->out.length+k<=2000000000->D.ask (.lp 149 0) [eN l,.sl 0 0 out.length 1,iv (i:Int)] [δ (Ag eL out) Δ Δ]
  = Θ (.tup [iv 0,.sl 1 0 (out++l.drop i).length 1],[.del,.set (δ (Ag eL (out++l.drop i)) Δ Δ)]):=by
 intro k;unfold BU at hl
 induction k with
 |zero=>
  intro i out hi ho;refine Ax K Mm (Abi ..) ?_;rw[Ao,show l.drop i=[] from Ar6 (by omega),AsX];refine Ak ?_;rfl
 |succ k ih=>
  intro i out hi ho;have hlt:i<l.length:=by omega
  have ih':=ih (i+1) (out++[l[i]]) (by omega) (by simp;omega);rw[Ar4,η,Asi]at ih';refine Ax K Mm (Abi ..) ?_;rw[Ao,ο hlt];refine Ap ?_;rw[Au,AB (φ hlt)];have hf:Bj (out.length+1) 4=Δ:=AY (by omega) (by omega);have hb1:ArY (0+out.length*1) (Ag eL out).length=Δ:=A1 AA out (by omega);have e3:∀ s:Nat,ArV 0 (ArQ (0+out.length*1) (Ag eL out))++[.v (.int .u32 (s:Int))]=Ag eL (out++[s]):=λs=>by
   rw[ArT,Bk AA out (by omega)];exact Bn eL out s
  simp only[eL,FX,ND,DK,Aa];rw[BV (by omega),hf,hb1,e3];refine Ac ?_;refine Ac ?_;refine Ab ih' ?_;rfl
theorem AdD(l:List Nat)(hl:BU l):∀(n:Nat),n<=l.length->CC l<=n->D.ask (.lp 149 1) [.sl 0 0 n 1] [δ (Ag eL l) Δ Δ]=Θ (.tup [iv 2,.sl 1 0 (CC l) 1],[.del,.set (δ (Ag eL l) Δ Δ)]):=by
 intro n;unfold BU at hl
 induction n with
 |zero=>
  intro _ ht;refine Ax K Mm (Abj ..) ?_;refine Ak ?_;rw[show CC l=0 by omega]
 |succ n ih=>
  intro hn ht;refine Ax K Mm (Abj ..) ?_;refine Ap ?_;rw[show Ae.sub .i64 ((n+1:Nat):Int) 1=(n:Int) from (Ps (i:=n+1) (j:=1) (by omega) (by omega)).trans (by simp)];rw[Au,BE (Nat.lt_succ_self n)];refine Ac ?_;refine(Ii l n (by omega) _).trans ?_;simp only[FX,ND,DK,Aa]
  by_cases h0:l[n]=0
  .refine Bt ?_ (by rw[h0];rfl)
   rw[Au,show IJ 0 n (n+1)=Δ by unfold IJ;rw[show ArY 0 n=Δ by simp];simp];refine Ac ?_;refine Ab (ih (by omega) (L8 ht (by rw[φ (show n<l.length by omega),h0]))) ?_;rfl
  .refine Ba ?_
   have:=Ns (φ (show n<l.length by omega)) h0;rw[show CC l=n+1 by omega]
theorem Gu{l:List Nat}(hl:BU l)(h:Limbs l):D.ask (.fn 149) [eN l] []=Θ (eN (Ah (Ad l)),[]):=by
 have hs:=hl;unfold BU at hs;refine AC K Mm (ApE ..) ?_;have g:=AdC K l hl l.length 0 [] rfl (by simp;omega);rw[Asg,ArT]at g;refine Ab g ?_;simp only[ND,DK,Aa];refine Ab (AdD K l hl l.length (κ _) (Cs l)) ?_;simp only[ND,DK,Aa];have ht:=Cs l;rw[show ArY (0+CC l*1) (Ag eL l).length=Δ by rw[AR AA];simp;omega];refine Ac ?_;rw[Vu l _ ht,In h];rfl
theorem Gl(a b:List Nat):D.ask (.fn 186) [eN a,eN b] []=Θ (iv ((max a.length b.length:Nat):Int),[]):=by
 refine AC K Ajc (ApT ..) ?_;rw[Ao,Ao]
 by_cases h:b.length<a.length
 .refine Ap ?_
  rw[show max a.length b.length=a.length by omega]
 .refine Ak ?_
  rw[show max a.length b.length=b.length by omega]
theorem GY{a:List Nat}(ha:Limbs a)(i:Nat):D.ask (.fn 187) [eN a,iv (i:Int)] []=Θ (.v (.int .u64 (a.getD i 0:Int)),[]):=by
 refine AC K Ajd (ApU ..) ?_;rw[Ao,AtU];refine Ak ?_
 by_cases h:i<a.length
 .refine CA ?_
  have hx:=ha.get h;rw[Au,AB (φ h),φ h];simp only[eL,FX,ND,DK,Aa];rw[Bg (by omega)];rfl
 .refine Cg ?_
  rw[AsZ (by omega)];rfl
theorem Ahu{a b:List Nat}(ha:Limbs a)(hb:Limbs b)(m:Nat)(hma:a.length<=m)(hmb:b.length<=m)(hm:m<=1000000000):∀(n:Nat),n<=m->D.ask (.lp 228 0) [eN a,eN b,iv ((n:Int)-1)] []
  = Θ (if CJ (Ad ((Ee m a).take n)) (Ad ((Ee m b).take n))=0 then .tup [iv 0] else .tup [bv Δ,iv (CJ (Ad ((Ee m a).take n)) (Ad ((Ee m b).take n)))],[]):=by
 intro n
 induction n with
 |zero=>
  intro _;refine Ax K TX (Abw ..) ?_;refine CA ?_;rfl
 |succ n ih=>
  intro hn;refine Ax K TX (Abw ..) ?_;rw[show (((n+1:Nat):Int)-1)=(n:Int) by omega];refine Cg ?_;have h1:n<(Ee m a).length:=by rw[D2 hma];omega
  have h2:n<(Ee m b).length:=by rw[D2 hmb];omega
  have e1:(Ee m a).take (n+1)=(Ee m a).take n++[a.getD n 0]:=by rw[AsD h1,KB hma (by omega)]
  have e2:(Ee m b).take (n+1)=(Ee m b).take n++[b.getD n 0]:=by rw[AsD h2,KB hmb (by omega)]
  rw[e1,e2,NZ ((Et ha).take n) ((Et hb).take n) (by simp;omega)];refine Ab (GY K ha n) ?_;simp only[PX,ND,DK,Aa];refine Ab (GY K hb n) ?_;simp only[PX,ND,DK,Aa]
  by_cases h3:a.getD n 0<b.getD n 0
  .refine Ap ?_
   rw[if_pos h3];rfl
  .refine Ak ?_
   rw[if_neg h3];refine Ab (GY K ha n) ?_;simp only[PX,ND,DK,Aa];refine Ab (GY K hb n) ?_;simp only[PX,ND,DK,Aa]
   by_cases h4:b.getD n 0<a.getD n 0
   .refine Ap ?_
    rw[if_pos h4];rfl
   .refine Ak ?_
    rw[if_neg h4];rw[show Ae.sub .i64 (n:Int) 1=(n:Int)-1 from DB (by omega) (by omega)];refine Ab (ih (by omega)) ?_
    by_cases h5:CJ (Ad ((Ee m a).take n)) (Ad ((Ee m b).take n))=0
    .rw[if_pos h5];rfl
    .rw[if_neg h5];rfl
theorem Ahv{a b:List Nat}(hsa:BU a)(ha:Limbs a)(hsb:BU b)(hb:Limbs b):D.ask (.fn 228) [eN a,eN b] []=Θ (iv (CJ (Ad a) (Ad b)),[]):=by
 unfold BU at hsa hsb;refine AC K TX (Ap6 ..) ?_;refine Ab (Gl K a b) ?_;simp only[ND,DK,Aa];rw[show Ae.sub .i64 ((max a.length b.length:Nat):Int) 1=((max a.length b.length:Nat):Int)-1 from DB (by omega) (by omega)];have g:=Ahu K ha hb (max a.length b.length) (by omega) (by omega) (by omega) (max a.length b.length) (κ _);rw[AsW (by rw[D2 (by omega)];omega),AsW (by rw[D2 (by omega)];omega),GG,GG]at g;refine Ab g ?_
 by_cases h5:CJ (Ad a) (Ad b)=0
 .rw[if_pos h5,h5];rfl
 .rw[if_neg h5];rfl
theorem Aht{a b:List Nat}(ha:Limbs a)(hb:Limbs b)(hm:max a.length b.length<=1000000000):∀(k i:Nat) (out:List Nat) (c:Nat),max a.length b.length+1-i=k->c<=1->out.length+k<=2000000000->
  D.ask (.lp 129 0) [eN a,eN b,.sl 0 0 out.length 1,.v (.int .u64 (c:Int)),iv (i:Int)] [δ (Ag eL out) Δ Δ]
   = Θ (.tup [iv 0,.sl 1 0 (out++MN k c (a.drop i) (b.drop i)).length 1],[.del,.set (δ (Ag eL (out++MN k c (a.drop i) (b.drop i))) Δ Δ)]):=by
 intro k
 induction k with
 |zero=>
  intro i out c hi hc ho;refine Ax K TO (Abg ..) ?_;refine Ab (Gl K a b) ?_;simp only[ND,DK,Aa];refine CA ?_;rw[MN,AsX]
 |succ k ih=>
  intro i out c hi hc ho;have h1:=M8 ha i;have h2:=M8 hb i;have ih':=ih (i+1) (out++[(a.getD i 0+b.getD i 0+c) % 4294967296]) ((a.getD i 0+b.getD i 0+c) / 4294967296) (by omega) (by omega) (by simp;omega);rw[Ar4,η,Asi]at ih';refine Ax K TO (Abg ..) ?_;refine Ab (Gl K a b) ?_;simp only[ND,DK,Aa];refine Cg ?_;refine Ab (GY K ha i) ?_;simp only[PX,ND,DK,Aa];refine Ab (GY K hb i) ?_;simp only[PX,ND,DK,Aa];refine Ba ?_ (by decide);have hf:Bj (out.length+1) 4=Δ:=AY (by omega) (by omega);have hb1:ArY (0+out.length*1) (Ag eL out).length=Δ:=A1 AA out (by omega);have e3:∀ s:Nat,ArV 0 (ArQ (0+out.length*1) (Ag eL out))++[.v (.int .u32 (s:Int))]=Ag eL (out++[s]):=λs=>by
   rw[ArT,Bk AA out (by omega)];exact Bn eL out s
  rw[BZ (by omega),BZ (by omega),Sq,Sp _ (by omega),Bq (AsJ _ (by omega)),BV (by omega),hf,hb1,e3];refine Ac ?_;refine Ac ?_;refine Ba ?_ (by decide);refine Ab ih' ?_;rw[MN,Lm,Lm,AtQ,AtQ];rfl
theorem Nl{a b:List Nat}(hsa:a.length<=999999999)(ha:Limbs a)(hsb:b.length<=999999999)(hb:Limbs b):D.ask (.fn 129) [eN a,eN b] []=Θ (eN (Ah (Ad a+Ad b)),[]):=by
 refine AC K TO (Aps ..) ?_;have g:=Aht K ha hb (by omega) (max a.length b.length+1) 0 [] 0 rfl (by omega) (by simp;omega);rw[Asg,ArT,ArT]at g;refine Ab g ?_;simp only[ND,DK,Aa];rw[A1 AA _ (by omega)];refine Ac ?_;rw[Bw AA _ rfl];have hlen:∀(k c:Nat) (a b:List Nat),(MN k c a b).length=k:=λk=>by
  induction k with
  |zero=>intro c a b;rfl
  |succ k ih=>intro c a b;rw[MN,ε,ih]
 have gt:=Gu K (l:=MN (max a.length b.length+1) 0 a b) (by unfold BU;rw[hlen];omega) (Nz _ _ _ _);rw[Q9]at gt;have h1:=BK ha;have h2:=BK hb;have p1:4294967296 ^ a.length<=4294967296 ^ (max a.length b.length):=Att (by omega) (by omega);have p2:4294967296 ^ b.length<=4294967296 ^ (max a.length b.length):=Att (by omega) (by omega);rw[Nat.mod_eq_of_lt (by rw[As7];omega),Ar5]at gt;refine Ab gt ?_;rfl
theorem Ahx{a b:List Nat}(ha:Limbs a)(hb:Limbs b)(m:Nat)(hma:max a.length b.length=m)(hm:m<=1000000000):∀(k i:Nat) (out:List Nat) (c:Nat),m-i=k->c<=1->out.length+k<=2000000000->
  D.ask (.lp 182 0) [eN a,eN b,.sl 0 0 out.length 1,.v (.int .u64 (c:Int)),iv (i:Int)] [δ (Ag eL out) Δ Δ]
   = Θ (.tup [iv 0,.sl 1 0 (out++G5 c ((Ee m a).drop i) ((Ee m b).drop i)).length 1],[.del,.set (δ (Ag eL (out++G5 c ((Ee m a).drop i) ((Ee m b).drop i))) Δ Δ)]):=by
 intro k;have la:=D2 (n:=m) (l:=a) (by omega);have lb:=D2 (n:=m) (l:=b) (by omega)
 induction k with
 |zero=>
  intro i out c hi hc ho;refine Ax K TS (Abm ..) ?_;refine Ab (Gl K a b) ?_;simp only[ND,DK,Aa];refine Ak ?_;rw[show (Ee m a).drop i=[] from Ar6 (by omega),G5,AsX]
 |succ k ih=>
  intro i out c hi hc ho;have h1:=M8 ha i;have h2:=M8 hb i;have ia:i<(Ee m a).length:=by omega
  have ib:i<(Ee m b).length:=by omega
  rw[ο ia,KB (by omega) (by omega),ο ib,KB (by omega) (by omega),G5,List.headD_cons,List.tail_cons];refine Ax K TS (Abm ..) ?_;refine Ab (Gl K a b) ?_;simp only[ND,DK,Aa];refine Ap ?_;refine Ab (GY K ha i) ?_;simp only[PX,ND,DK,Aa];refine Ab (GY K hb i) ?_;simp only[PX,ND,DK,Aa];refine Ba ?_ (by decide);have hf:Bj (out.length+1) 4=Δ:=AY (by omega) (by omega);have hb1:ArY (0+out.length*1) (Ag eL out).length=Δ:=A1 AA out (by omega);have e3:∀ s:Nat,ArV 0 (ArQ (0+out.length*1) (Ag eL out))++[.v (.int .u32 (s:Int))]=Ag eL (out++[s]):=λs=>by
   rw[ArT,Bk AA out (by omega)];exact Bn eL out s
  rw[show (4294967296:Int)=((4294967296:Nat):Int) from rfl,BZ (by omega),D4 (by omega) (by omega),D4 (by omega) (by omega)];rw[show ((4294967296:Nat):Int)=(4294967296:Int) from rfl,Sq,Sp _ (by omega),Bq (AsJ _ (by omega)),BV (by omega),show (1:Int)=((1:Nat):Int) from rfl,D4 (by omega) (by omega),hf,hb1,e3];refine Ac ?_;refine Ac ?_;refine Ba ?_ (by decide)
  by_cases hlt:a.getD i 0<b.getD i 0+c
  .rw[if_pos hlt,if_pos hlt]
   have ih':=ih (i+1) (out++[a.getD i 0+4294967296-(b.getD i 0+c)]) 1 (by omega) (by omega) (by simp;omega);rw[Ar4,η,Asi]at ih';rw[show (a.getD i 0+4294967296-b.getD i 0-c) % 4294967296=a.getD i 0+4294967296-(b.getD i 0+c) by omega,show 1-(a.getD i 0+4294967296-b.getD i 0-c) / 4294967296=1 by omega];refine Ab ih' ?_;rfl
  .rw[if_neg hlt,if_neg hlt]
   have ih':=ih (i+1) (out++[a.getD i 0-(b.getD i 0+c)]) 0 (by omega) (by omega) (by simp;omega);rw[Ar4,η,Asi]at ih';rw[show (a.getD i 0+4294967296-b.getD i 0-c) % 4294967296=a.getD i 0-(b.getD i 0+c) by omega,show 1-(a.getD i 0+4294967296-b.getD i 0-c) / 4294967296=0 by omega];refine Ab ih' ?_;rfl
theorem X8{a b:List Nat}(hsa:BU a)(ha:Limbs a)(hsb:BU b)(hb:Limbs b):D.ask (.fn 182) [eN a,eN b] []=Θ (N6 (Ad a) (Ad b),[]):=by
 have s1:=hsa;have s2:=hsb;unfold BU at s1 s2;refine AC K TS (ApP ..) ?_;refine Ab (Ahv K hsa ha hsb hb) ?_;simp only[ND,DK,Aa];unfold N6
 by_cases h1:Ad a<Ad b
 .rw[show CJ (Ad a) (Ad b)=-1 by unfold CJ;rw[if_pos h1]]
  refine Ap ?_ (by decide);rw[if_neg (by omega)];rfl
 .refine Ak ?_ (by unfold CJ;rw[if_neg h1];split<;>omega)
  rw[if_pos (by omega)];have la:=D2 (n:=max a.length b.length) (l:=a) (by omega);have lb:=D2 (n:=max a.length b.length) (l:=b) (by omega);have g:=Ahx K ha hb (max a.length b.length) rfl (by omega) (max a.length b.length) 0 [] 0 (by omega) (by omega) (by simp;omega);rw[Asg,ArT,ArT]at g;refine Ab g ?_;simp only[ND,DK,Aa];rw[A1 AA _ (by omega)];refine Ac ?_;rw[Bw AA _ rfl];have gt:=Gu K (l:=G5 0 (Ee (max a.length b.length) a) (Ee (max a.length b.length) b)) (by unfold BU;rw[KW];omega) (G6 _ _ _ (Et ha) (Et hb) (by omega));rw[U8 (Et ha) (Et hb) (by omega) (by rw[GG,GG];omega),GG,GG]at gt;refine Ab gt ?_;rfl
theorem ZR{a:List Nat}(ha:Limbs a)(hs:BU a)(m:Nat)(hm:m<4294967296):∀(k i:Nat) (out:List Nat) (c:Nat),a.length-i=k->i<=a.length->c<4294967296->out.length+k<=2000000000->
  ∃(o:List Nat) (c':Nat),D.ask (.lp 229 0) [eN a,.v (.int .u64 (m:Int)),.sl 0 0 out.length 1,.v (.int .u64 (c:Int)),iv (i:Int)] [δ (Ag eL out) Δ Δ]
   = Θ (.tup [iv 0,.sl 1 0 o.length 1,.v (.int .u64 (c':Int))],[.del,.set (δ (Ag eL o) Δ Δ)])/\c'<4294967296/\o++[c']=out++DL m c (a.drop i):=by
 intro k;unfold BU at hs
 induction k with
 |zero=>
  intro i out c hi hle hc ho;refine⟨out,c,?_,hc,?_⟩
  .refine Ax K TY (Abx ..) ?_
   rw[Ao];refine Ak ?_;rfl
  .rw[show a.drop i=[] from Ar6 (by omega)]
   rfl
 |succ k ih=>
  intro i out c hi hle hc ho;have hlt:i<a.length:=by omega
  have hx:=ha.get hlt;have hp:=JA hx hm;have hg:a.getD i 0=a[i]:=by rw[AtU,φ hlt];rfl
  obtain⟨o,c',h1,h2,h3⟩:=ih (i+1) (out++[(a[i]*m+c) % 4294967296]) ((a[i]*m+c) / 4294967296) (by omega) (by omega) (by omega) (by simp;omega);refine⟨o,c',?_,h2,?_⟩
  .refine Ax K TY (Abx ..) ?_
   rw[Ao];refine Ap ?_;refine Ab (GY K ha i) ?_;simp only[PX,ND,DK,Aa,hg];refine Ba ?_ (by decide);have hf:Bj (out.length+1) 4=Δ:=AY (by omega) (by omega);have hb1:ArY (0+out.length*1) (Ag eL out).length=Δ:=A1 AA out (by omega);have e3:∀ s:Nat,ArV 0 (ArQ (0+out.length*1) (Ag eL out))++[.v (.int .u32 (s:Int))]=Ag eL (out++[s]):=λs=>by
    rw[ArT,Bk AA out (by omega)];exact Bn eL out s
   rw[η,Asi]at h1;rw[KE (by omega),BZ (by omega),Sq,Sp _ (by omega),Bq (AsJ _ (by omega)),BV (by omega),hf,hb1,e3];refine Ac ?_;refine Ac ?_;refine Ba ?_ (by decide);refine Ab h1 ?_;rfl
  .rw[h3,ο hlt,DL,Ar4]
   rfl
omit K in
theorem JM:∀(m c:Nat) (a:List Nat),(DL m c a).length=a.length+1
 |_,_,[]=>rfl
 |m,c,x::a=>by rw[DL,ε,JM,ε]
theorem ZS{a:List Nat}(ha:Limbs a)(hs:a.length<=999999999)(m:Nat)(hm:m<4294967296):D.ask (.fn 229) [eN a,.v (.int .u64 (m:Int))] []=Θ (eN (Ah (Ad a*m)),[]):=by
 obtain⟨o,c',g,hc,ho⟩:=ZR K ha (by unfold BU;omega) m hm a.length 0 [] 0 (by omega) (by omega) (by omega) (by simp;omega);rw[Asg,ArT]at ho;have hol:o.length=a.length:=by
  have:=congrArg List.length ho;rw[η,JM]at this;simpa using this
 refine AC K TY (Ap7 ..) ?_;refine Ab g ?_;simp only[FX,ND,DK,Aa];rw[Bq hc];have e3:ArV 0 (ArQ (0+o.length*1) (Ag eL o))++[.v (.int .u32 (c':Int))]=Ag eL (o++[c']):=by
  rw[ArT,Bk AA o (by omega)];exact Bn eL o c'
 rw[AY (n:=o.length+1) (b:=4) (by omega) (by omega),A1 AA o (by omega),e3,A1 AA (o++[c']) (by simp)];refine Ac ?_;refine Ac ?_;refine Ac ?_;rw[ArT,Bk AA (o++[c']) (by simp),show Be (o.length+1) 1 (Ag eL (o++[c']))=(o++[c']).map eL from by have:=CE AA (o++[c']);rwa [η]at this];rw[ho];have gt:=Gu K (l:=DL m 0 a) (by unfold BU;rw[JM];omega) (G4 _ _ _ hm ha (by omega));rw[Io,Nat.add_zero]at gt;refine Ab gt ?_;rfl
end
theorem EV{a b:List Nat}(ha:Limbs a)(hb:Limbs b):(Ah (Ad a*Ad b)).length<=a.length+b.length:=by
 refine Bz ?_;rw[Nat.pow_add];exact Nat.mul_lt_mul'' (BK ha) (BK hb)
theorem AcU(va x vd:Nat):0+4294967296*(va*vd)+va*x=va*(x+4294967296*vd):=by
 rw[Nat.mul_add,Nat.mul_left_comm va];omega
theorem AdQ{d:Nat}(h:d<4294967296):Limbs [d]:=Bc h BG
section
variable {D:Orc} (K:Knows At QY D)
include K
theorem AhG(A B:AV)(t:Int){xs ys:List (List AV)}(hA:A=.ls xs)(hB:B=.ls ys){out:List Nat}(hs:out.length<=999999999):∀(k i:Nat) (up:List Nat),out.length-i=k->i<=out.length->up=0::out.take i->
  D.ask (.lp 183 1) [A,B,eN out,iv t,.sl 0 0 (i+1) 1,iv (i:Int)] [δ (Ag eL up) Δ Δ]=Θ (.tup [iv 2,A,B,iv t,.sl 1 0 (out.length+1) 1],[.del,.set (δ (Ag eL (0::out)) Δ Δ)]):=by
 subst hA hB;intro k
 induction k with
 |zero=>
  intro i up hk hi hu;obtain rfl:i=out.length:=by omega
  rw[List.take_length]at hu;subst hu;refine Ax K Mn (Abo ..) ?_;rw[Ao];exact Ak rfl
 |succ k ih=>
  intro i up hk hi hu;have hlt:i<out.length:=by omega
  have hl:up.length=i+1:=by rw[hu,ε,Asb,AsR hi]
  have ih':=ih (i+1) (up++[out[i]]) (by omega) (by omega) (by rw[hu,AsD hlt];rfl);have e3:ArV 0 (ArQ (0+(i+1)*1) (Ag eL up))++[.v (.int .u32 (out[i]:Int))]=Ag eL (up++[out[i]]):=by
   rw[ArT,Bk AA up (by omega)];exact Bn eL up out[i]
  refine Ax K Mn (Abo ..) ?_;rw[Ao];refine Ap ?_;rw[Au,AB (φ hlt)];simp only[eL,FX,ND,DK,Aa];rw[BV (by omega),AY (n:=i+1+1) (b:=4) (by omega) (by omega),A1 AA up (by omega),e3];refine Ac ?_;refine Ac ?_;refine Ab ih' ?_;rfl
theorem AhH{a b:List Nat}(ha:Limbs a)(hb:Limbs b)(hs:a.length+b.length<=900000000):∀ i:Nat,i<=b.length->D.ask (.lp 183 0) [eN a,eN b,eN (Ah (Ad a*Ad (b.drop i))),iv ((i:Int)-1)] []=Θ (.tup [iv 0,eN (Ah (Ad a*Ad b))],[]):=by
 intro i
 induction i with
 |zero=>
  intro _;refine Ax K Mn (Abn ..) ?_;refine CA ?_;rw[ArT];rfl
 |succ i ih=>
  intro hi;have hlt:i<b.length:=by omega
  have hx:=hb.get hlt;have ln:∀ j:Nat,(Ah (Ad a*Ad (b.drop j))).length<=a.length+b.length:=λj=>by
   have:=EV ha (hb.drop j);rw[List.length_drop]at this;omega
  have l1:=ln (i+1);rw[show (((i+1:Nat):Int)-1)=(i:Int) by omega];refine Ax K Mn (Abn ..) ?_;refine Cg ?_;have g:=AhG K (eN a) (eN b) (i:Int) rfl rfl (out:=Ah (Ad a*Ad (b.drop (i+1)))) (by omega) _ 0 [0] rfl (by omega) rfl;refine Ab g ?_;simp only[eN,FX,ND,DK,Aa];rw[Au,AB (φ hlt)];simp only[eL,FX,ND,DK,Aa];rw[Bg (show b[i]<_ by omega)];refine Ac ?_;refine Ab (ZS K ha (by omega) b[i] hx) ?_;simp only[eN,FX,ND,DK,Aa];rw[A1 AA (0::Ah (Ad a*Ad (b.drop (i+1)))) (by simp)];refine Ac ?_;rw[Bk AA (0::Ah (Ad a*Ad (b.drop (i+1)))) (by simp),show Be ((Ah (Ad a*Ad (b.drop (i+1)))).length+1) 1 (Ag eL (0::Ah (Ad a*Ad (b.drop (i+1)))))=(0::Ah (Ad a*Ad (b.drop (i+1)))).map eL from CE AA (0::Ah (Ad a*Ad (b.drop (i+1))))];have l3:(Ah (Ad a*b[i])).length<=a.length+1:=by
   have:=EV ha (AdQ hx)
   rwa [show Ad [b[i]]=b[i] by simp[Ad]]at this
  have g2:=Nl K (a:=0::Ah (Ad a*Ad (b.drop (i+1)))) (b:=Ah (Ad a*b[i])) (by rw[ε];omega) (Bc (by omega) (Aq _)) (by omega) (Aq _);rw[Ad,Az,Az,AcU,show b[i]+4294967296*Ad (b.drop (i+1))=Ad (b.drop i) by rw[ο hlt,Ad]]at g2;refine Ab g2 ?_;simp only[eN,FX,ND,DK,Aa];rw[DB (by omega) (by omega)];refine Ab (ih (by omega)) ?_;rfl
theorem Ahw{a b:List Nat}(ha:Limbs a)(hb:Limbs b)(hs:a.length+b.length<=900000000):D.ask (.fn 183) [eN a,eN b] []=Θ (eN (Ah (Ad a*Ad b)),[]):=by
 have g:=AhH K ha hb hs b.length (κ _);rw[List.drop_length,Ad,Nat.mul_zero,CB]at g;refine AC K Mn (ApQ ..) ?_;rw[Ao,DB (by omega) (by omega)];refine Ab g ?_;simp only[eN,ND,DK,Aa];have l1:=EV ha hb;have g2:=Gu K (l:=Ah (Ad a*Ad b)) (by unfold BU;omega) (Aq _);rw[Az]at g2;refine Ab g2 ?_;rfl
theorem AdB{a b:List Nat}(hl:a.length=b.length)(hs:BU a):∀(k i:Nat),a.length-i=k->i<=a.length->D.ask (.lp 210 0) [eN a,eN b,iv (i:Int)] []=if a.drop i=b.drop i then Θ (.tup [iv 0],[]) else Θ (.tup [bv Δ,bv Φ],[]):=by
 intro k;unfold BU at hs
 induction k with
 |zero=>
  intro i hk hi;rw[Ar6 (show a.length<=i by omega),Ar6 (show b.length<=i by omega),if_pos rfl];refine Ax K Ou (RG ..) ?_;rw[Ao];exact Ak rfl
 |succ k ih=>
  intro i hk hi;have h1:i<a.length:=by omega
  have h2:i<b.length:=by omega
  have ih':=ih (i+1) (by omega) (by omega);rw[ο h1,ο h2]
  by_cases h:a[i]=b[i]
  .by_cases h3:a.drop (i+1)=b.drop (i+1)
   .rw[if_pos h3]at ih'
    rw[if_pos (by rw[h,h3])];refine Ax K Ou (RG ..) ?_;rw[Ao];refine Ap ?_;rw[Au,AB (φ h1)];simp only[eL,FX,ND,DK,Aa];rw[Au,AB (φ h2)];simp only[eL,FX,ND,DK,Aa];rw[BV (by omega)];refine Bt ?_;refine Ab ih' ?_;rfl
   .rw[if_neg h3]at ih'
    rw[if_neg (λe=>h3 (List.cons.inj e).2)];refine Ax K Ou (RG ..) ?_;rw[Ao];refine Ap ?_;rw[Au,AB (φ h1)];simp only[eL,FX,ND,DK,Aa];rw[Au,AB (φ h2)];simp only[eL,FX,ND,DK,Aa];rw[BV (by omega)];refine Bt ?_;refine Ab ih' ?_;rfl
  .rw[if_neg (λe=>h (List.cons.inj e).1)]
   refine Ax K Ou (RG ..) ?_;rw[Ao];refine Ap ?_;rw[Au,AB (φ h1)];simp only[eL,FX,ND,DK,Aa];rw[Au,AB (φ h2)];simp only[eL,FX,ND,DK,Aa];rw[BV (by omega)];exact Ba rfl
theorem Adc{a b:List Nat}(hs:BU a):D.ask (.fn 210) [eN a,eN b] []=Θ (bv (decide (a=b)),[]):=by
 refine AC K Ou (Ap3 ..) ?_;rw[Ao,Ao]
 by_cases hl:a.length=b.length
 .refine Bt ?_
  have g:=AdB K hl hs a.length 0 (by omega) (by omega);rw[ArT,ArT]at g
  by_cases h:a=b
  .rw[if_pos h]at g
   rw[decide_eq_true h];refine Ab g ?_;rfl
  .rw[if_neg h]at g
   rw[decide_eq_false h];refine Ab g ?_;rfl
 .refine Ba ?_
  rw[decide_eq_false (λe=>hl (by rw[e]))]
end
section
variable {D:Orc} (K:Knows At Hg D) (Z:Knows At Ja D) (C:CloneF D)
include K Z C
theorem Ex(neg:Bool){a:List Nat}(ha:Limbs a)(hs:BU a):D.ask (.fn 145) [bv neg,eN a] []=Θ (.agg (eZ (Av (Dl neg (Ad a)))),[]):=by
 refine AC Z AiY (ApA ..) ?_;refine Ab (FA K C hs ha) ?_;simp only[eN,ND,DK,Aa,Ao];rw[Nu];unfold eZ eN
 cases neg with
 |false=>rfl
 |true=>
  refine Ac ?_;refine Ac ?_;refine Ac ?_;have hp:=@Dh (Ad a)
  by_cases h:0<Ad a
  .refine Ap ?_ (by have:=hp.2 h;omega)
   rw[decide_eq_true h];rfl
  .refine Ak ?_ (by intro e;exact h (hp.1 (by omega)))
   rw[decide_eq_false h];rfl
theorem NU{z:Zi}(hz:Lz 1000000000 z):D.ask (.fn 142) [.agg (eZ z)] []=Θ (.agg (eZ (Av (zv z))),[]):=by
 refine AC Z AiW (Apy ..) ?_;refine Ab (Ex K Z C z.neg hz.lim hz.len) ?_;rfl
theorem YG{z:Zi}(hz:Lz 1000000000 z):D.ask (.fn 161) [.agg (eZ z)] []=Θ (.agg (eZ (Av (-zv z))),[]):=by
 have e:-zv z=Dl (!z.neg) (Ad z.abs):=by
  unfold zv Dl
  cases z.neg<;>simp
 rw[e];refine AC Z Ai7 (ApM ..) ?_;rw[Ade];have g:=λb=>Ex K Z C b hz.lim hz.len
 cases z.neg with
 |false=>
  refine Ac ?_;refine Ab (g Δ) ?_;rfl
 |true=>
  refine BX ?_;refine Ab (g Φ) ?_;rfl
theorem K7{z:Zi}(hz:Lz 1000000000 z):D.ask (.fn 64) [.agg (eZ z)] []=Θ (iv (Cu (zv z)),[]):=by
 refine AC Z Anr (e64 ..) ?_;refine Ab (NU K Z C hz) ?_;simp only[eZ,eN,ND,DK,Aa,Ao];unfold Av Cu
 by_cases h:zv z<0
 .rw[if_pos h,decide_eq_true h]
  rfl
 .rw[if_neg h,decide_eq_false h]
  refine BX ?_;have hp:=@Dh (zv z).natAbs
  by_cases h2:0<zv z
  .rw[if_pos h2]
   refine Ap ?_ (by have:=hp.2 (by omega);dsimp only;omega);rfl
  .rw[if_neg h2]
   refine Ak ?_ (by dsimp only;intro e;have:=hp.1 (by omega);omega);rfl
theorem Aes(n:Int)(h1:-9223372036854775808<=n)(h2:n<9223372036854775808):D.ask (.fn 126) [iv n] []=Θ (.agg (eZ (Av n)),[]):=by
 refine AC Z AiO (Apo ..) ?_;have hl:∀ m:Nat,m<18446744073709551616->(Ah m).length<=2:=λm h=>Bz (by omega)
 by_cases h:n<0
 .refine Ap ?_ h
  have e1:Ae.add .i64 n 1=n+1:=EM (by omega) (by omega);have e2:Ae.sub .i64 0 (n+1)=((n.natAbs-1:Nat):Int):=by rw[DB (by omega) (by omega)];omega
  rw[e1,e2,Bg (by omega),show (1:Int)=((1:Nat):Int) from rfl,BZ (by omega),show n.natAbs-1+1=n.natAbs by omega];refine Ab (Aix K C n.natAbs (by omega)) ?_;simp only[eN,ND,DK,Aa];have g:=Ex K Z C Δ (Aq n.natAbs) (by unfold BU;have:=hl n.natAbs (by omega);omega);rw[Az,show Dl Δ n.natAbs=n by unfold Dl;rw[if_pos rfl];omega]at g;refine Ab g ?_;rfl
 .refine Ak ?_ h
  obtain⟨m,rfl⟩:=Au1 (show 0<=n by omega);rw[Bg (by omega)];refine Ab (Aix K C m (by omega)) ?_;simp only[eN,ND,DK,Aa];have g:=Ex K Z C Φ (Aq m) (by unfold BU;have:=hl m (by omega);omega);rw[Az,show Dl Φ m=(m:Int) from rfl]at g;refine Ab g ?_;rfl
theorem Ais{a b:Zi}(ha:Lz 1000000000 a)(hb:Lz 1000000000 b):D.ask (.fn 155) [.agg (eZ a),.agg (eZ b)] []=Θ (iv (CD (zv a) (zv b)),[]):=by
 refine AC Z Ai3 (ApH ..) ?_;refine Ab (K7 K Z C ha) ?_;simp only[ND,DK,Aa];refine Ab (K7 K Z C hb) ?_;simp only[ND,DK,Aa];have g1:=Vi K (a:=b.abs) (b:=a.abs) hb.len hb.lim ha.len ha.lim;have g2:=Vi K (a:=a.abs) (b:=b.abs) ha.len ha.lim hb.len hb.lim;have na:=Aev a;have nb:=Aev b;have za:=YH a;have zb:=YH b;have va:zv a=Dl a.neg (Ad a.abs):=rfl;have vb:zv b=Dl b.neg (Ad b.abs):=rfl;unfold Cu
 by_cases h1:zv a<0
 .rw[if_pos h1]
  rw[Dl,if_pos (na.1 h1).1]at va
  by_cases h2:zv b<0
  .rw[if_pos h2]
   rw[Dl,if_pos (nb.1 h2).1]at vb;refine Ak ?_ (by decide);refine Ak ?_ (by decide);refine Ap ?_ (by decide);refine Ab g1 ?_;rw[show CD (zv a) (zv b)=CJ (Ad b.abs) (Ad a.abs) by
    unfold CD CJ;rw[va,vb]
    by_cases h3:Ad b.abs<Ad a.abs
    .rw[if_pos (by omega),if_pos h3]
    .rw[if_neg (by omega),if_neg h3]
     by_cases h4:Ad a.abs<Ad b.abs
     .rw[if_pos (by omega),if_pos h4]
     .rw[if_neg (by omega),if_neg h4]]
   rfl
  .rw[if_neg h2]
   rw[show CD (zv a) (zv b)=-1 by unfold CD;rw[if_pos (by omega)]]
   by_cases h3:0<zv b
   .rw[if_pos h3];rfl
   .rw[if_neg h3];rfl
 .rw[if_neg h1]
  by_cases h2:zv b<0
  .rw[if_pos h2]
   rw[show CD (zv a) (zv b)=1 by unfold CD;rw[if_neg (by omega),if_pos (by omega)]]
   by_cases h3:0<zv a
   .rw[if_pos h3];rfl
   .rw[if_neg h3];rfl
  .rw[if_neg h2]
   have ea:zv a=(Ad a.abs:Int):=by
    by_cases h:0<Ad a.abs
    .rw[va,Dl,if_neg (λe=>h1 (na.2 ⟨e,h⟩))]
    .rw[za.2 (by omega)];omega
   have eb:zv b=(Ad b.abs:Int):=by
    by_cases h:0<Ad b.abs
    .rw[vb,Dl,if_neg (λe=>h2 (nb.2 ⟨e,h⟩))]
    .rw[zb.2 (by omega)];omega
   have ec:CD (zv a) (zv b)=CJ (Ad a.abs) (Ad b.abs):=by
    unfold CD CJ;rw[ea,eb]
    by_cases h3:Ad a.abs<Ad b.abs
    .rw[if_pos (by omega),if_pos h3]
    .rw[if_neg (by omega),if_neg h3]
     by_cases h4:Ad b.abs<Ad a.abs
     .rw[if_pos (by omega),if_pos h4]
     .rw[if_neg (by omega),if_neg h4]
   rw[ec]
   by_cases h3:0<zv a
   .rw[if_pos h3]
    by_cases h4:0<zv b
    .rw[if_pos h4]
     refine Ak ?_ (by decide);refine Ak ?_ (by decide);refine Ak ?_ (by decide);refine Ab g2 ?_;rfl
    .rw[if_neg h4]
     refine Ak ?_ (by decide);refine Ap ?_ (by decide);rw[show CJ (Ad a.abs) (Ad b.abs)=1 by unfold CJ;rw[if_neg (by omega),if_pos (by omega)]]
   .rw[if_neg h3]
    by_cases h4:0<zv b
    .rw[if_pos h4]
     refine Ap ?_ (by decide);rw[show CJ (Ad a.abs) (Ad b.abs)=-1 by unfold CJ;rw[if_pos (by omega)]]
    .rw[if_neg h4]
     refine Ak ?_ (by decide);refine Ak ?_ (by decide);refine Ak ?_ (by decide);refine Ab g2 ?_;rfl
theorem S5{k:Nat}(hk:k<=900000000){a b:Zi}(ha:Lz k a)(hb:Lz k b):D.ask (.fn 139) [.agg (eZ a),.agg (eZ b)] []=Θ (.agg (eZ (Av (zv a+zv b))),[]):=by
 have la:=ha.len;have lb:=hb.len;refine AC Z AiU (Apw ..) ?_;have hfr:∀(neg:Bool) (n:Nat),n<4294967296 ^ (k+1)->D.ask (.fn 145) [bv neg,eN (Ah n)] []=Θ (.agg (eZ (Av (Dl neg n))),[]):=λneg n h=>by
  have:=Ex K Z C neg (Aq n) (by unfold BU;have:=Bz h;omega)
  rwa [Az]at this
 have ba:=BK ha.lim;have bb:=BK hb.lim;have pa:4294967296 ^ a.abs.length<=4294967296 ^ k:=Att (by omega) la;have pb:4294967296 ^ b.abs.length<=4294967296 ^ k:=Att (by omega) lb;have ps:4294967296 ^ (k+1)=4294967296 ^ k*4294967296:=As7 ..
 by_cases h:a.neg=b.neg
 .rw[QQ,show (a.neg == b.neg)=Δ by simpa using h]
  refine Ac ?_;refine Ab (Aki K C (by omega) ha.lim (by omega) hb.lim) ?_;simp only[eN,ND,DK,Aa];refine Ab (hfr a.neg (Ad a.abs+Ad b.abs) (by omega)) ?_;rw[show Dl a.neg (Ad a.abs+Ad b.abs)=zv a+zv b by
   unfold zv;rw[←h];unfold Dl;split<;>omega]
  rfl
 .rw[QQ,show (a.neg == b.neg)=Φ by simpa using h]
  refine BX ?_;have hop:zv a+zv b=Dl a.neg (Ad a.abs)+Dl (!a.neg) (Ad b.abs):=by
   unfold zv;have:b.neg = !a.neg:=by
    revert h
    cases a.neg<;>cases b.neg<;>simp
   rw[this]
  have g1:=AaR K C (a:=a.abs) (b:=b.abs) (by unfold BU;omega) ha.lim (by unfold BU;omega) hb.lim;have g2:=AaR K C (a:=b.abs) (b:=a.abs) (by unfold BU;omega) hb.lim (by unfold BU;omega) ha.lim;unfold N6 at g1 g2;refine Ab g1 ?_
  by_cases hle:Ad b.abs<=Ad a.abs
  .rw[if_pos hle]
   simp only[eN,ND,DK,Aa];refine Ab (hfr a.neg (Ad a.abs-Ad b.abs) (by omega)) ?_;rw[show Dl a.neg (Ad a.abs-Ad b.abs)=zv a+zv b by
    rw[hop];unfold Dl
    cases a.neg<;>simp<;>omega]
   rfl
  .rw[if_neg hle]
   rw[if_pos (by omega)]at g2;simp only[eN,ND,DK,Aa];refine Ab g2 ?_;simp only[eN,ND,DK,Aa];refine Ab (hfr b.neg (Ad b.abs-Ad a.abs) (by omega)) ?_;rw[show Dl b.neg (Ad b.abs-Ad a.abs)=zv a+zv b by
    rw[hop];have:b.neg = !a.neg:=by
     revert h
     cases a.neg<;>cases b.neg<;>simp
    rw[this];unfold Dl
    cases a.neg<;>simp<;>omega]
   rfl
theorem Aiu{k m:Nat}(hk:k<=400000000)(hkm:m<=400000000){a b:Zi}(ha:Lz k a)(hb:Lz m b)(h24:a.abs.length<24\/b.abs.length<24):D.ask (.fn 158) [.agg (eZ a),.agg (eZ b)] []=Θ (.agg (eZ (Av (zv a*zv b))),[]):=by
 have la:=ha.len;have lb:=hb.len;refine AC Z Ai5 (ApK ..) ?_;have hm:InB (k+m) (zv a*zv b):=ha.inb.mul hb.inb;have hab:(zv a*zv b).natAbs=Ad a.abs*Ad b.abs:=by
  have f:∀ z:Zi,(zv z).natAbs=Ad z.abs:=λz=>by
   unfold zv Dl;split
   .rw[At1];rfl
   .rfl
  rw[Int.natAbs_mul,f,f]
 unfold InB at hm;rw[hab]at hm;have hl:=Bz hm;have hfr:∀(neg:Bool),D.ask (.fn 145) [bv neg,eN (Ah (Ad a.abs*Ad b.abs))] []=Θ (.agg (eZ (Av (Dl neg (Ad a.abs*Ad b.abs)))),[]):=λneg=>by
  have:=Ex K Z C neg (Aq (Ad a.abs*Ad b.abs)) (by unfold BU;omega)
  rwa [Az]at this
 have g:=Akn K C (by omega) ha.lim (by omega) hb.lim h24;have hs:Dl (a.neg != b.neg) (Ad a.abs*Ad b.abs)=zv a*zv b:=by
  unfold zv Dl
  cases a.neg<;>cases b.neg<;>simp[Au5,Aup]
 rw[Ade,QQ]
 by_cases h:a.neg=b.neg
 .rw[show (!(a.neg == b.neg))=Φ by simp[h]]
  rw[show (a.neg != b.neg)=Φ by simp[h]]at hs;refine BX ?_;refine Ab g ?_;simp only[eN,ND,DK,Aa];refine Ab (hfr Φ) ?_;rw[hs];rfl
 .rw[show (!(a.neg == b.neg))=Δ by simp[h]]
  rw[show (a.neg != b.neg)=Δ by simp[h]]at hs;refine Ac ?_;refine Ab g ?_;simp only[eN,ND,DK,Aa];refine Ab (hfr Δ) ?_;rw[hs];rfl
end
section
open Go.RowKit
def AjA:MFn:=AU [] 128
def AiQ:Hnt:=⟨[(149,(.ls,[]))],[],[]⟩
def Aom:MFn:=AU [] 75
def Anw:Hnt:=⟨[(128,(.agg AK,[]))],[],[(4,[.bool]),(6,[.ls])]⟩
def Aog:MFn:=AU [] 56
def Anp:Hnt:=⟨[(128,(.agg AK,[])),(129,(.ls,[]))],[],[]⟩
def Aol:MFn:=AU [] 69
def Anu:Hnt:=⟨[(149,(.ls,[]))],[],[(4,[.ls]),(9,[.bool])]⟩
def AjT:MFn:=AU [] 179
def Ai9:Hnt:=⟨[(128,(.agg AK,[]))],[],[(4,[.bool]),(7,[.ls])]⟩
def Aju:MFn:=AU [] 122
def Ab2:Hnt:=⟨[(69,(.int .i64,[])),(122,(.agg AK,[])),(128,(.agg AK,[])),(129,(.ls,[])),(182,(.tup [.ls,.bool],[]))],[],[(7,AK),(11,AK),(16,[.ls]),(18,[.ls]),(21,AK),(25,AK),(30,[.ls]),(32,[.ls]),(35,AK),(38,AK),(39,AK),(43,[.ls]),(45,[.ls]),(54,[.ls]),(56,[.ls])]⟩
def Ajw:MFn:=AU [] 124
def AiM:Hnt:=⟨[(122,(.agg AK,[])),(179,(.agg AK,[]))],[],[(5,AK),(6,AK)]⟩
def Ajv:MFn:=AU [] 123
def AiL:Hnt:=⟨[(69,(.int .i64,[])),(128,(.agg AK,[])),(183,(.ls,[]))],[],[(5,AK),(7,AK),(12,[.ls]),(14,[.ls])]⟩
def Aof:MFn:=AU [] 53
def Ano:Hnt:=⟨[(69,(.int .i64,[])),(124,(.agg AK,[]))],[],[(5,AK),(6,AK)]⟩
def AjL:MFn:=AU [] 152
def Ai1:Hnt:=⟨[(210,(.bool,[]))],[],[(6,[.bool]),(8,[.bool]),(12,[.ls]),(14,[.ls])]⟩
def Ys:List (Nat × MFn):=[(128,AjA),(75,Aom),(56,Aog),(69,Aol),(179,AjT),(122,Aju),(124,Ajw),(123,Ajv),(53,Aof),(152,AjL)]
variable (A:Ar) (D:Orc)
theorem Apr(x0:Bool)(x1:Rw):BY A D At AiQ .n 128 AjA [bv x0,Ψ x1] [] =
 Af D (ψ 149) [Ψ x1] [] [.l,.E] λxs=>
 br (A.eq (↑(Al xs)) 0)
 (Θ ((ω [bv Φ,Ψ []],[])))
 (Θ ((ω [bv x0,Ψ xs],[]))):=by kernel_rfl
theorem e75(x0_0:Bool)(x0_1:Rw):BY A D At Anw .n 75 Aom [ω [bv x0_0,Ψ x0_1]] [] =
 Af D (ψ 128) [bv x0_0,Ψ x0_1] [] [.a,.B,.L,.N,.E] λb xs=>
 Θ ((ω [bv b,Ψ xs],[])):=by kernel_rfl
theorem e56(x0:Int):BY A D At Anp (.b (.b (.b .n (.f .n)) .n) (.b .n (.b .n (.f .n)))) 56 Aog [iv x0] [] =
 br (A.le 0 x0)
 (br (A.eq 4294967296 0)
 (Ξ)
 (br (A.eq 4294967296 0) Ξ (AF D (ψ 128) [bv Φ,Ψ [[ArZ (Value.int ζ (A.conv ζ (A.rem θ x0 4294967296)))],[ArZ (Value.int ζ (A.conv ζ (A.quo θ x0 4294967296)))]]] [] λr o=>
 dk [.a,.B,.L,.N,.E] [.v r,.o o] λb xs=>
 Θ ((ω [bv b,Ψ xs],[])))))
 (br (A.eq 4294967296 0)
 (Ξ)
 (br (A.eq 4294967296 0) Ξ (AF D (ψ 129) [Ψ [[ArZ (Value.int ζ (A.conv ζ (A.rem θ (A.sub θ 0 (A.add θ x0 1)) 4294967296)))],[ArZ (Value.int ζ (A.conv ζ (A.quo θ (A.sub θ 0 (A.add θ x0 1)) 4294967296)))]],Ψ [[ArZ (Value.int ζ 1)]]] [] λr o=>
 Mb r λxs=>
 DE o<|
 Af D (ψ 128) [bv Δ,Ψ xs] [] [.a,.B,.L,.N,.E] λb xs1=>
 Θ ((ω [bv b,Ψ xs1],[]))))):=by kernel_rfl
theorem e69(x0_0:Bool)(x0_1:Rw):BY A D At Anu .n 69 Aol [ω [bv x0_0,Ψ x0_1]] [] =
 Af D (ψ 149) [Ψ x0_1] [] [.l,.E] λxs=>
 br (A.eq (↑(Al xs)) 0)
 (Θ ((iv 0,[])))
 (br x0_0
 (Θ ((iv (-1),[])))
 (Θ ((iv 1,[])))):=by kernel_rfl
theorem ApO(x0_0:Bool)(x0_1:Rw):BY A D At Ai9 .n 179 AjT [ω [bv x0_0,Ψ x0_1]] [] =
 br (A.not x0_0)
 (Af D (ψ 128) [bv Δ,Ψ x0_1] [] [.a,.B,.L,.N,.E] λb xs=>
 Θ ((ω [bv b,Ψ xs],[])))
 (Af D (ψ 128) [bv Φ,Ψ x0_1] [] [.a,.B,.L,.N,.E] λb xs=>
 Θ ((ω [bv b,Ψ xs],[]))):=by kernel_rfl
theorem AmO(x0_0:Bool)(x0_1:Rw)(x1_0:Bool)(x1_1:Rw):BY A D At Ab2 .n 122 Aju [ω [bv x0_0,Ψ x0_1],ω [bv x1_0,Ψ x1_1]] [] =
 Af D (ψ 69) [ω [bv x0_0,Ψ x0_1]] [] [.i,.E] λn=>
 br (A.lt n 0)
 (Af D (ψ 69) [ω [bv x1_0,Ψ x1_1]] [] [.i,.E] λn1=>
 br (A.lt n1 0)
 (Af D (ψ 129) [Ψ x0_1,Ψ x1_1] [] [.l,.E] λxs=>
 Af D (ψ 128) [bv Δ,Ψ xs] [] [.a,.B,.L,.N,.E] λb xs1=>
 Θ ((ω [bv b,Ψ xs1],[])))
 (Af D (ψ 69) [ω [bv x0_0,Ψ x0_1]] [] [.i,.E] λn2=>
 br (A.le 0 n2)
 (Af D (ψ 69) [ω [bv x1_0,Ψ x1_1]] [] [.i,.E] λn3=>
 br (A.le 0 n3)
 (Af D (ψ 129) [Ψ x0_1,Ψ x1_1] [] [.l,.E] λxs=>
 Af D (ψ 128) [bv Φ,Ψ xs] [] [.a,.B,.L,.N,.E] λb xs1=>
 Θ ((ω [bv b,Ψ xs1],[])))
 (Af D (ψ 69) [ω [bv x0_0,Ψ x0_1]] [] [.i,.E] λn4=>
 br (A.lt n4 0)
 (Af D (ψ 122) [ω [bv x1_0,Ψ x1_1],ω [bv x0_0,Ψ x0_1]] [] [.a,.B,.L,.N,.E] λb xs=>
 Θ ((ω [bv b,Ψ xs],[])))
 (Af D (ψ 182) [Ψ x0_1,Ψ x1_1] [] [.t,.L,.B,.N,.E] λxs b=>
 br b
 (Af D (ψ 128) [bv Φ,Ψ xs] [] [.a,.B,.L,.N,.E] λb1 xs1=>
 Θ ((ω [bv b1,Ψ xs1],[])))
 (Af D (ψ 182) [Ψ x1_1,Ψ x0_1] [] [.t,.L,.B,.N,.E] λxs1 _=>
 Af D (ψ 128) [bv Δ,Ψ xs1] [] [.a,.B,.L,.N,.E] λb2 xs2=>
 Θ ((ω [bv b2,Ψ xs2],[]))))))
 (Af D (ψ 69) [ω [bv x0_0,Ψ x0_1]] [] [.i,.E] λn3=>
 br (A.lt n3 0)
 (Af D (ψ 122) [ω [bv x1_0,Ψ x1_1],ω [bv x0_0,Ψ x0_1]] [] [.a,.B,.L,.N,.E] λb xs=>
 Θ ((ω [bv b,Ψ xs],[])))
 (Af D (ψ 182) [Ψ x0_1,Ψ x1_1] [] [.t,.L,.B,.N,.E] λxs b=>
 br b
 (Af D (ψ 128) [bv Φ,Ψ xs] [] [.a,.B,.L,.N,.E] λb1 xs1=>
 Θ ((ω [bv b1,Ψ xs1],[])))
 (Af D (ψ 182) [Ψ x1_1,Ψ x0_1] [] [.t,.L,.B,.N,.E] λxs1 _=>
 Af D (ψ 128) [bv Δ,Ψ xs1] [] [.a,.B,.L,.N,.E] λb2 xs2=>
 Θ ((ω [bv b2,Ψ xs2],[])))))))
 (Af D (ψ 69) [ω [bv x0_0,Ψ x0_1]] [] [.i,.E] λn1=>
 br (A.le 0 n1)
 (Af D (ψ 69) [ω [bv x1_0,Ψ x1_1]] [] [.i,.E] λn2=>
 br (A.le 0 n2)
 (Af D (ψ 129) [Ψ x0_1,Ψ x1_1] [] [.l,.E] λxs=>
 Af D (ψ 128) [bv Φ,Ψ xs] [] [.a,.B,.L,.N,.E] λb xs1=>
 Θ ((ω [bv b,Ψ xs1],[])))
 (Af D (ψ 69) [ω [bv x0_0,Ψ x0_1]] [] [.i,.E] λn3=>
 br (A.lt n3 0)
 (Af D (ψ 122) [ω [bv x1_0,Ψ x1_1],ω [bv x0_0,Ψ x0_1]] [] [.a,.B,.L,.N,.E] λb xs=>
 Θ ((ω [bv b,Ψ xs],[])))
 (Af D (ψ 182) [Ψ x0_1,Ψ x1_1] [] [.t,.L,.B,.N,.E] λxs b=>
 br b
 (Af D (ψ 128) [bv Φ,Ψ xs] [] [.a,.B,.L,.N,.E] λb1 xs1=>
 Θ ((ω [bv b1,Ψ xs1],[])))
 (Af D (ψ 182) [Ψ x1_1,Ψ x0_1] [] [.t,.L,.B,.N,.E] λxs1 _=>
 Af D (ψ 128) [bv Δ,Ψ xs1] [] [.a,.B,.L,.N,.E] λb2 xs2=>
 Θ ((ω [bv b2,Ψ xs2],[]))))))
 (Af D (ψ 69) [ω [bv x0_0,Ψ x0_1]] [] [.i,.E] λn2=>
 br (A.lt n2 0)
 (Af D (ψ 122) [ω [bv x1_0,Ψ x1_1],ω [bv x0_0,Ψ x0_1]] [] [.a,.B,.L,.N,.E] λb xs=>
 Θ ((ω [bv b,Ψ xs],[])))
 (Af D (ψ 182) [Ψ x0_1,Ψ x1_1] [] [.t,.L,.B,.N,.E] λxs b=>
 br b
 (Af D (ψ 128) [bv Φ,Ψ xs] [] [.a,.B,.L,.N,.E] λb1 xs1=>
 Θ ((ω [bv b1,Ψ xs1],[])))
 (Af D (ψ 182) [Ψ x1_1,Ψ x0_1] [] [.t,.L,.B,.N,.E] λxs1 _=>
 Af D (ψ 128) [bv Δ,Ψ xs1] [] [.a,.B,.L,.N,.E] λb2 xs2=>
 Θ ((ω [bv b2,Ψ xs2],[])))))):=by kernel_rfl
theorem Apm(x0_0:Bool)(x0_1:Rw)(x1_0:Bool)(x1_1:Rw):BY A D At AiM .n 124 Ajw [ω [bv x0_0,Ψ x0_1],ω [bv x1_0,Ψ x1_1]] [] =
 Af D (ψ 179) [ω [bv x1_0,Ψ x1_1]] [] [.a,.B,.L,.N,.E] λb xs=>
 Af D (ψ 122) [ω [bv x0_0,Ψ x0_1],ω [bv b,Ψ xs]] [] [.a,.B,.L,.N,.E] λb1 xs1=>
 Θ ((ω [bv b1,Ψ xs1],[])):=by kernel_rfl
theorem Apl(x0_0:Bool)(x0_1:Rw)(x1_0:Bool)(x1_1:Rw):BY A D At AiL .n 123 Ajv [ω [bv x0_0,Ψ x0_1],ω [bv x1_0,Ψ x1_1]] [] =
 Af D (ψ 69) [ω [bv x0_0,Ψ x0_1]] [] [.i,.E] λn=>
 Af D (ψ 69) [ω [bv x1_0,Ψ x1_1]] [] [.i,.E] λn1=>
 br (A.lt (A.mul θ n n1) 0)
 (Af D (ψ 183) [Ψ x0_1,Ψ x1_1] [] [.l,.E] λxs=>
 Af D (ψ 128) [bv Δ,Ψ xs] [] [.a,.B,.L,.N,.E] λb xs1=>
 Θ ((ω [bv b,Ψ xs1],[])))
 (Af D (ψ 183) [Ψ x0_1,Ψ x1_1] [] [.l,.E] λxs=>
 Af D (ψ 128) [bv Φ,Ψ xs] [] [.a,.B,.L,.N,.E] λb xs1=>
 Θ ((ω [bv b,Ψ xs1],[]))):=by kernel_rfl
theorem e53(x0_0:Bool)(x0_1:Rw)(x1_0:Bool)(x1_1:Rw):BY A D At Ano .n 53 Aof [ω [bv x0_0,Ψ x0_1],ω [bv x1_0,Ψ x1_1]] [] =
 Af D (ψ 124) [ω [bv x0_0,Ψ x0_1],ω [bv x1_0,Ψ x1_1]] [] [.a,.B,.L,.N,.E] λb xs=>
 Af D (ψ 69) [ω [bv b,Ψ xs]] [] [.i,.E] λn=>
 Θ ((iv n,[])):=by kernel_rfl
theorem ApF(x0_0:Bool)(x0_1:Rw)(x1_0:Bool)(x1_1:Rw):BY A D At Ai1 .n 152 AjL [ω [bv x0_0,Ψ x0_1],ω [bv x1_0,Ψ x1_1]] [] =
 br (A.beq x0_0 x1_0)
 (Af D (ψ 210) [Ψ x0_1,Ψ x1_1] [] [.b,.E] λb=>
 br b
 (Θ ((bv Δ,[])))
 (Θ ((bv Φ,[]))))
 (Θ ((bv Φ,[]))):=by kernel_rfl
end
theorem Ha{z:Zi}(h:zv z<0):zv z=-(Ad z.abs:Int):=by
 unfold zv Dl at *
 cases e:z.neg<;>rw[e]at h<;>simp at h ⊢
 omega
theorem E6{z:Zi}(h:¬ zv z<0):zv z=(Ad z.abs:Int):=by
 unfold zv Dl at *
 cases e:z.neg<;>rw[e]at h<;>simp at h ⊢
 omega
theorem LX{n:Int}:Cu n<0 ↔ n<0:=by
 unfold Cu;split
 .omega
 .split<;>omega
theorem Afb{k:Nat}{x y:Int}(hx:InB k x)(hy:InB k y):InB (k+1) (x+y):=by
 unfold InB at *;rw[As7];have:=Int.natAbs_add_le x y;omega
theorem QI{k:Nat}(hk:k<=900000000){a b:Zi}(ha:Lz k a)(hb:Lz k b):BU (Ah (Ad a.abs+Ad b.abs)):=by
 unfold BU;have h1:=ha.inb;have h2:=hb.inb;have f:∀ z:Zi,(zv z).natAbs=Ad z.abs:=λz=>by
  unfold zv Dl;split
  .rw[At1];rfl
  .rfl
 unfold InB at h1 h2;rw[f]at h1 h2;have:=Bz (n:=Ad a.abs+Ad b.abs) (k:=k+1) (by rw[As7];omega);omega
theorem Dm(n:Int):Cu n=-1/\n<0\/Cu n=1/\0<n\/Cu n=0/\n=0:=by
 unfold Cu;split
 .omega
 .split<;>omega
theorem SB(x y:Int):Ae.mul .i64 (Cu x) (Cu y)=Cu x*Cu y:=by
 show IntKind.i64.wrap (Cu x*Cu y)=_
 rw[IntKind.wrap_i64];rcases Dm x with h|h|h<;>rcases Dm y with h2|h2|h2<;>rw[h.1,h2.1]<;>rfl
theorem Wk{a b:Zi}(h:Cu (zv a)*Cu (zv b)<0):Dl Δ (Ad a.abs*Ad b.abs)=zv a*zv b:=by
 unfold Dl;rw[if_pos rfl,At8]
 by_cases ha:zv a<0
 .rw[Ha ha]
  by_cases hb:zv b<0
  .exfalso
   rcases Dm (zv a) with h1|h1|h1<;>rcases Dm (zv b) with h2|h2|h2<;>rw[h1.1,h2.1]at h<;>omega
  .rw[E6 hb,Aup]
 .rw[E6 ha]
  by_cases hb:zv b<0
  .rw[Ha hb,Au5]
  .exfalso
   rcases Dm (zv a) with h1|h1|h1<;>rcases Dm (zv b) with h2|h2|h2<;>rw[h1.1,h2.1]at h<;>omega
theorem Wl{a b:Zi}(h:¬ Cu (zv a)*Cu (zv b)<0):Dl Φ (Ad a.abs*Ad b.abs)=zv a*zv b:=by
 unfold Dl;rw[if_neg (by simp),At8];rcases Dm (zv a) with h1|h1|h1
 .rcases Dm (zv b) with h2|h2|h2
  .rw[Ha h1.2,Ha h2.2,Int.neg_mul_neg]
  .exfalso
   rw[h1.1,h2.1]at h;omega
  .have:=E6 (z:=b) (by omega)
   rw[h2.2,AuT,←this,h2.2,AuT]
 .rcases Dm (zv b) with h2|h2|h2
  .exfalso
   rw[h1.1,h2.1]at h;omega
  .rw[←E6 (z:=a) (by omega),←E6 (z:=b) (by omega)]
  .have:=E6 (z:=b) (by omega)
   rw[h2.2,AuT,←this,h2.2,AuT]
 .have:=E6 (z:=a) (by omega)
  rw[h1.2,AvQ,←this,h1.2,AvQ]
section
variable {D:Orc} (K:Knows At QY D) (R:Knows At Ys D)
include K R
theorem D3(neg:Bool){a:List Nat}(ha:Limbs a)(hs:BU a):D.ask (.fn 128) [bv neg,eN a] []=Θ (.agg (eZ (Av (Dl neg (Ad a)))),[]):=by
 refine AC R AiQ (Apr ..) ?_;refine Ab (Gu K hs ha) ?_;simp only[eN,ND,DK,Aa,Ao];rw[Nu];unfold eZ eN;have hp:=@Dh (Ad a)
 by_cases h:0<Ad a
 .refine Ba ?_ (by have:=hp.2 h;omega)
  rw[decide_eq_true h,Bool.and_true]
 .have h0:Ad a=0:=by omega
  rw[decide_eq_false h,Bool.and_false,h0,CB];exact Bt rfl rfl
theorem ZI{z:Zi}(hz:Lz 1000000000 z):D.ask (.fn 75) [.agg (eZ z)] []=Θ (.agg (eZ (Av (zv z))),[]):=by
 refine AC R Anw (e75 ..) ?_;refine Ab (D3 K R z.neg hz.lim hz.len) ?_;rfl
theorem EL{z:Zi}(hz:Lz 1000000000 z):D.ask (.fn 69) [.agg (eZ z)] []=Θ (iv (Cu (zv z)),[]):=by
 refine AC R Anu (e69 ..) ?_;refine Ab (Gu K hz.len hz.lim) ?_;simp only[eN,ND,DK,Aa,Ao];have hp:=@Dh (Ad z.abs);unfold zv Dl
 by_cases h:0<Ad z.abs
 .refine Ba ?_ (by have:=hp.2 h;omega)
  cases z.neg with
  |false=>
   refine BX ?_;rw[if_neg (by simp)];unfold Cu;rw[if_neg (by omega)]
   first|rw[if_pos (by omega)] | rw[if_neg (by omega)]
  |true=>
   refine Ac ?_;rw[if_pos rfl];unfold Cu
   first|rw[if_pos (by omega)] | rw[if_neg (by omega),if_neg (by omega)]
 .have h0:Ad z.abs=0:=by omega
  rw[h0,CB];refine Bt ?_ rfl
  cases z.neg<;>rfl
theorem X7{z:Zi}(hz:Lz 1000000000 z):D.ask (.fn 179) [.agg (eZ z)] []=Θ (.agg (eZ (Av (-zv z))),[]):=by
 have e:-zv z=Dl (!z.neg) (Ad z.abs):=by
  unfold zv Dl
  cases z.neg<;>simp
 rw[e];refine AC R Ai9 (ApO ..) ?_;rw[Ade];have g:=λb=>D3 K R b hz.lim hz.len
 cases z.neg with
 |false=>
  refine Ac ?_;refine Ab (g Δ) ?_;rfl
 |true=>
  refine BX ?_;refine Ab (g Φ) ?_;rfl
theorem QS{k:Nat}(hk:k<=900000000){a b:Zi}(ha:Lz k a)(hb:Lz k b)(hp:¬ zv a<0):D.ask (.fn 122) [.agg (eZ a),.agg (eZ b)] []=Θ (.agg (eZ (Av (zv a+zv b))),[]):=by
 have la:=ha.len;have lb:=hb.len;have sa:=EL K R (ha.mono (show k<=1000000000 by omega));have sb:=EL K R (hb.mono (show k<=1000000000 by omega));have ea:=E6 hp;have hsa:¬ Cu (zv a)<0:=λh=>hp (LX.1 h)
 refine AC R Ab2 (AmO ..) ?_;refine Ab sa ?_;simp only[PX,ND,DK,Aa];refine Ak ?_ hsa;refine Ab sa ?_;simp only[PX,ND,DK,Aa];refine Cg ?_;refine Ab sb ?_;simp only[PX,ND,DK,Aa]
 by_cases hb0:zv b<0
 .have hsb:=LX.2 hb0
  have eb:=Ha hb0;refine CA ?_;refine Ab sa ?_;simp only[PX,ND,DK,Aa];refine Ak ?_ hsa;have g1:=X8 K (a:=a.abs) (b:=b.abs) (by unfold BU;omega) ha.lim (by unfold BU;omega) hb.lim;unfold N6 at g1;refine Ab g1 ?_
  by_cases hle:Ad b.abs<=Ad a.abs
  .rw[if_pos hle]
   simp only[eN,ND,DK,Aa];have g2:=D3 K R Φ (a:=Ah (Ad a.abs-Ad b.abs)) (Aq _) (by
    unfold BU;have:=Bz (n:=Ad a.abs-Ad b.abs) (k:=a.abs.length) (by have:=BK ha.lim;omega);omega)
   rw[Az,show Dl Φ (Ad a.abs-Ad b.abs)=zv a+zv b by unfold Dl;rw[if_neg (by simp)];omega]at g2;refine Ab g2 ?_;rfl
  .rw[if_neg hle]
   simp only[eN,ND,DK,Aa];have g3:=X8 K (a:=b.abs) (b:=a.abs) (by unfold BU;omega) hb.lim (by unfold BU;omega) ha.lim;unfold N6 at g3;rw[if_pos (show Ad a.abs<=Ad b.abs by omega)]at g3;refine Ab g3 ?_;simp only[eN,ND,DK,Aa];have g2:=D3 K R Δ (a:=Ah (Ad b.abs-Ad a.abs)) (Aq _) (by
    unfold BU;have:=Bz (n:=Ad b.abs-Ad a.abs) (k:=b.abs.length) (by have:=BK hb.lim;omega);omega)
   rw[Az,show Dl Δ (Ad b.abs-Ad a.abs)=zv a+zv b by unfold Dl;rw[if_pos rfl];omega]at g2;refine Ab g2 ?_;rfl
 .have hsb:¬ Cu (zv b)<0:=λh=>hb0 (LX.1 h)
  have eb:=E6 hb0;refine Cg ?_;refine Ab (Nl K (by omega) ha.lim (by omega) hb.lim) ?_;simp only[eN,ND,DK,Aa];have g2:=D3 K R Φ (a:=Ah (Ad a.abs+Ad b.abs)) (Aq _) (QI hk ha hb);rw[Az,show Dl Φ (Ad a.abs+Ad b.abs)=zv a+zv b by unfold Dl;rw[if_neg (by simp)];omega]at g2;refine Ab g2 ?_;rfl
theorem UN{k:Nat}(hk:k<=900000000){a b:Zi}(ha:Lz k a)(hb:Lz k b):D.ask (.fn 122) [.agg (eZ a),.agg (eZ b)] []=Θ (.agg (eZ (Av (zv a+zv b))),[]):=by
 by_cases hp:zv a<0
 .have la:=ha.len
  have lb:=hb.len;have sa:=EL K R (ha.mono (show k<=1000000000 by omega));have sb:=EL K R (hb.mono (show k<=1000000000 by omega));have ea:=Ha hp;have hsa:=LX.2 hp;refine AC R Ab2 (AmO ..) ?_;refine Ab sa ?_;simp only[PX,ND,DK,Aa];refine Ap ?_ hsa;refine Ab sb ?_;simp only[PX,ND,DK,Aa]
  by_cases hb0:zv b<0
  .have eb:=Ha hb0
   refine Ap ?_ (LX.2 hb0);refine Ab (Nl K (by omega) ha.lim (by omega) hb.lim) ?_;simp only[eN,ND,DK,Aa];have g2:=D3 K R Δ (a:=Ah (Ad a.abs+Ad b.abs)) (Aq _) (QI hk ha hb);rw[Az,show Dl Δ (Ad a.abs+Ad b.abs)=zv a+zv b by unfold Dl;rw[if_pos rfl];omega]at g2;refine Ab g2 ?_;rfl
  .refine Ak ?_ (λh=>hb0 (LX.1 h))
   refine Ab sa ?_;simp only[PX,ND,DK,Aa];refine CA ?_;refine Ab sa ?_;simp only[PX,ND,DK,Aa];refine Ap ?_ hsa;have g:=QS K R hk hb ha hb0;rw[Int.add_comm]at g;refine Ab g ?_;rfl
 .exact QS K R hk ha hb hp
theorem AdI{k:Nat}(hk:k<=900000000){a b:Zi}(ha:Lz k a)(hb:Lz k b):D.ask (.fn 124) [.agg (eZ a),.agg (eZ b)] []=Θ (.agg (eZ (Av (zv a-zv b))),[]):=by
 refine AC R AiM (Apm ..) ?_;refine Ab (X7 K R (hb.mono (show k<=1000000000 by omega))) ?_;have hn:Lz k (Av (-zv b)):=InB.lz (by have:=hb.inb;unfold InB at *;rwa [At1]);have g:=UN K R hk ha hn;rw[Bf,←AuJ]at g;simp only[eZ,eN,ND,DK,Aa];refine Ab g ?_;rfl
theorem AdG{k:Nat}(hk:k<=900000000){a b:Zi}(ha:Lz k a)(hb:Lz k b):D.ask (.fn 53) [.agg (eZ a),.agg (eZ b)] []=Θ (iv (Cu (zv a-zv b)),[]):=by
 refine AC R Ano (e53 ..) ?_;refine Ab (AdI K R hk ha hb) ?_;have hs:Lz (k+1) (Av (zv a-zv b)):=InB.lz (by rw[AuJ];exact Afb ha.inb (by have:=hb.inb;unfold InB at *;rwa [At1]));have g:=EL K R (hs.mono (show k+1<=1000000000 by omega));rw[Bf]at g;simp only[eZ,eN,ND,DK,Aa];refine Ab g ?_;rfl
theorem AdH{k m:Nat}(hk:k<=400000000)(hm:m<=400000000){a b:Zi}(ha:Lz k a)(hb:Lz m b):D.ask (.fn 123) [.agg (eZ a),.agg (eZ b)] []=Θ (.agg (eZ (Av (zv a*zv b))),[]):=by
 have la:=ha.len;have lb:=hb.len;have sa:=EL K R (ha.mono (show k<=1000000000 by omega));have sb:=EL K R (hb.mono (show m<=1000000000 by omega));refine AC R AiL (Apl ..) ?_;refine Ab sa ?_;simp only[PX,ND,DK,Aa];refine Ab sb ?_;simp only[PX,ND,DK,Aa];have g:=Ahw K ha.lim hb.lim (by omega);have l1:=EV ha.lim hb.lim;have gf:∀ ng,D.ask (.fn 128) [bv ng,eN (Ah (Ad a.abs*Ad b.abs))] []=Θ (.agg (eZ (Av (Dl ng (Ad a.abs*Ad b.abs)))),[]):=λng=>by
  have:=D3 K R ng (a:=Ah (Ad a.abs*Ad b.abs)) (Aq _) (by unfold BU;omega)
  rwa [Az]at this
 have hmul:Ae.mul .i64 (Cu (zv a)) (Cu (zv b))=Cu (zv a)*Cu (zv b):=SB _ _;rw[hmul]
 by_cases h:Cu (zv a)*Cu (zv b)<0
 .refine Ap ?_ h
  refine Ab g ?_;simp only[eN,ND,DK,Aa];have g2:=gf Δ;rw[Wk h]at g2;refine Ab g2 ?_;rfl
 .refine Ak ?_ h
  refine Ab g ?_;simp only[eN,ND,DK,Aa];have g2:=gf Φ;rw[Wl h]at g2;refine Ab g2 ?_;rfl
theorem ZT{a b:Zi}(ha:Lz 1000000000 a):D.ask (.fn 152) [.agg (eZ a),.agg (eZ b)] []=Θ (bv (decide (a.neg=b.neg/\a.abs=b.abs)),[]):=by
 refine AC R Ai1 (ApF ..) ?_;rw[QQ]
 by_cases h:a.neg=b.neg
 .rw[show (a.neg == b.neg)=Δ by simp[h]]
  refine Ac ?_;refine Ab (Adc K (a:=a.abs) (b:=b.abs) ha.len) ?_
  by_cases h2:a.abs=b.abs
  .rw[decide_eq_true h2,decide_eq_true ⟨h,h2⟩]
   rfl
  .rw[decide_eq_false h2,decide_eq_false (λe=>h2 e.2)]
   rfl
 .rw[show (a.neg == b.neg)=Φ by simp[h],decide_eq_false (λe=>h e.1)]
  exact BX rfl
end
structure ZF (D:Orc):Prop where
 frm:∀ z:Zi,Lz 1000000000 z->D.ask (.fn 145) [bv z.neg,eN z.abs] []=Θ (.agg (eZ (Av (zv z))),[])
 neg:∀ z:Zi,Lz 1000000000 z->D.ask (.fn 161) [.agg (eZ z)] []=Θ (.agg (eZ (Av (-zv z))),[])
 sign:∀ z:Zi,Lz 1000000000 z->D.ask (.fn 64) [.agg (eZ z)] []=Θ (iv (Cu (zv z)),[])
 of_:∀ n:Int,-9223372036854775808<=n->n<9223372036854775808->D.ask (.fn 126) [iv n] []=Θ (.agg (eZ (Av n)),[])
 cmp:∀ a b:Zi,Lz 1000000000 a->Lz 1000000000 b->D.ask (.fn 155) [.agg (eZ a),.agg (eZ b)] []=Θ (iv (CD (zv a) (zv b)),[])
 add:∀ a b:Zi,Lz 900000000 a->Lz 900000000 b->D.ask (.fn 139) [.agg (eZ a),.agg (eZ b)] []=Θ (.agg (eZ (Av (zv a+zv b))),[])
 mul:∀ a b:Zi,Lz 400000000 a->Lz 400000000 b->a.abs.length<24\/b.abs.length<24->D.ask (.fn 158) [.agg (eZ a),.agg (eZ b)] []=Θ (.agg (eZ (Av (zv a*zv b))),[])
theorem Aet{D:Orc}(K:Knows At Hg D)(Z:Knows At Ja D)(C:CloneF D):ZF D where
 frm z h:=by
  have:=Ex K Z C z.neg h.lim (by unfold BU;exact h.len);exact this
 neg z h:=YG K Z C h
 sign z h:=K7 K Z C h
 of_ n h1 h2:=Aes K Z C n h1 h2
 cmp a b ha hb:=Ais K Z C ha hb
 add a b ha hb:=S5 K Z C (κ _) ha hb
 mul a b ha hb h:=Aiu K Z C (κ _) (κ _) ha hb h
theorem Adk(m:Nat)(h:m<9223372036854775808):Ae.rem .i64 (m:Int) 4294967296=((m % 4294967296:Nat):Int):=by
 show Int.tmod (m:Int) 4294967296=_
 rw[show (4294967296:Int)=((4294967296:Nat):Int) from rfl,←Int.ofNat_tmod]
theorem Adh(m:Nat)(h:m<9223372036854775808):Ae.quo .i64 (m:Int) 4294967296=((m / 4294967296:Nat):Int):=by
 show IntKind.i64.wrap (Int.tdiv (m:Int) 4294967296)=_
 rw[IntKind.wrap_i64,show (4294967296:Int)=((4294967296:Nat):Int) from rfl,←Int.ofNat_tdiv];omega
theorem U9(m:Nat):Ad [m % 4294967296,m / 4294967296]=m:=by
 unfold Ad Ad Ad;omega
theorem Qx(m:Nat)(h:m<9223372036854775808):Limbs [m % 4294967296,m / 4294967296]:=Bc (by omega) (Bc (by omega) BG)
structure RF (D:Orc):Prop where
 clean:∀ z:Zi,Lz 1000000000 z->D.ask (.fn 75) [.agg (eZ z)] []=Θ (.agg (eZ (Av (zv z))),[])
 neg:∀ z:Zi,Lz 1000000000 z->D.ask (.fn 179) [.agg (eZ z)] []=Θ (.agg (eZ (Av (-zv z))),[])
 sign:∀ z:Zi,Lz 1000000000 z->D.ask (.fn 69) [.agg (eZ z)] []=Θ (iv (Cu (zv z)),[])
 of_:∀ n:Int,-9223372036854775808<n->n<9223372036854775808->D.ask (.fn 56) [iv n] []=Θ (.agg (eZ (Av n)),[])
 cmp:∀ a b:Zi,Lz 900000000 a->Lz 900000000 b->D.ask (.fn 53) [.agg (eZ a),.agg (eZ b)] []=Θ (iv (Cu (zv a-zv b)),[])
 add:∀ a b:Zi,Lz 900000000 a->Lz 900000000 b->D.ask (.fn 122) [.agg (eZ a),.agg (eZ b)] []=Θ (.agg (eZ (Av (zv a+zv b))),[])
 mul:∀ a b:Zi,Lz 400000000 a->Lz 400000000 b->D.ask (.fn 123) [.agg (eZ a),.agg (eZ b)] []=Θ (.agg (eZ (Av (zv a*zv b))),[])
 same:∀ a b:Zi,Lz 1000000000 a->D.ask (.fn 152) [.agg (eZ a),.agg (eZ b)] []=Θ (bv (decide (a.neg=b.neg/\a.abs=b.abs)),[])
section
variable {D:Orc} (K:Knows At QY D) (R:Knows At Ys D)
include K R
theorem AlQ(n:Int)(h1:-9223372036854775808<n)(h2:n<9223372036854775808):D.ask (.fn 56) [iv n] []=Θ (.agg (eZ (Av n)),[]):=by
 refine AC R Anp (e56 ..) ?_
 by_cases h:0<=n
 .obtain⟨m,rfl⟩:=Au1 h
  have g:=D3 K R Φ (Qx m (by omega)) (by unfold BU;simp);rw[U9,show Dl Φ m=(m:Int) from rfl]at g;refine Cg ?_ h;refine Ba ?_ (by decide);refine Ba ?_ (by decide);rw[Adk m (by omega),Adh m (by omega),Bq (by omega),Bq (by omega)];refine Ab g ?_;rfl
 .obtain⟨m,hm⟩:∃ m:Nat,n=-((m+1:Nat):Int):=⟨n.natAbs-1,by omega⟩
  have e1:Ae.sub .i64 0 (Ae.add .i64 n 1)=(m:Int):=by
   rw[EM (by omega) (by omega),DB (by omega) (by omega)];omega
  have ga:=Nl K (a:=[m % 4294967296,m / 4294967296]) (b:=[1]) (by simp) (Qx m (by omega)) (by simp) (Bc (by omega) BG);rw[U9,show Ad [1]=1 from rfl]at ga;have hl:(Ah (m+1)).length<=2:=Bz (by omega);have g:=D3 K R Δ (Aq (m+1)) (by unfold BU;omega);rw[Az,show Dl Δ (m+1)=n by rw[hm];rfl]at g;refine CA ?_ h;refine Ba ?_ (by decide);refine Ba ?_ (by decide);rw[e1,Adk m (by omega),Adh m (by omega),Bq (by omega),Bq (by omega)];refine Ab ga ?_;simp only[eN,ND,DK,Aa];refine Ab g ?_;rfl
theorem AoH:RF D where
 clean z h:=ZI K R h
 neg z h:=X7 K R h
 sign z h:=EL K R h
 of_ n h1 h2:=AlQ K R n h1 h2
 cmp a b ha hb:=AdG K R (κ _) ha hb
 add a b ha hb:=UN K R (κ _) ha hb
 mul a b ha hb:=AdH K R (κ _) (κ _) ha hb
 same a b ha:=ZT K R ha
end
section
open Go.RowKit
variable (A:Ar) (D:Orc)
end

section
open Go.RowKit
variable (A:Ar) (D:Orc)
end

structure DivF (D:Orc):Prop where
 div:∀ a b:List Nat,Limbs a->a.length<=999999990->Limbs b->b.length<=999999990->D.ask (.fn 144) [eN a,eN b] []
  = Θ (if Ad b=0 then .tup [.ls [],.ls [],iv 10] else .tup [eN (Ah (Ad a / Ad b)),eN (Ah (Ad a % Ad b)),iv 0],[])
section
variable {D:Orc} (K:Knows At Hg D) (Z:Knows At Ja D) (C:CloneF D) (G:Knows At QW D) (V:DivF D)
include G V
theorem AkW:∀(n a b:Nat),b<=n->(Ah a).length<=999999980->(Ah b).length<=999999980->D.ask (.lp 205 0) [eN (Ah a),eN (Ah b)] []=Θ (.tup [iv 0,eN (Ah (AtL a b))],[]):=by
 intro n
 induction n with
 |zero=>
  intro a b hb _ _;obtain rfl:b=0:=by omega
  refine Ax G Qr (VG ..) ?_;rw[CB,Avl];exact Ek (by decide)
 |succ n ih=>
  intro a b hb hal hbl
  by_cases h0:b=0
  .subst h0
   refine Ax G Qr (VG ..) ?_;rw[CB,Avl];exact Ek (by decide)
  .have hne:0<(Ah b).length:=Dh.2 (by omega)
   have hm:=AsJ a (show 0<b by omega);have lr:(Ah (a % b)).length<=(Ah b).length:=Bz (by
    have:=BK (Aq b);rw[Az]at this;omega)
   have g:=V.div _ _ (Aq a) (by omega) (Aq b) (by omega);rw[Az,Az,if_neg h0]at g;refine Ax G Qr (VG ..) ?_;rw[Ao];refine Ap ?_;refine Ab g ?_;simp only[eN,ND,DK,Aa];refine Ab (ih b (a % b) (by omega) hbl (by omega)) ?_;rw[AvW b,←Nat.gcd_rec,AvW];rfl
include K C
theorem Akl{a b:List Nat}(ha:Limbs a)(hal:a.length<=999999980)(hb:Limbs b)(hbl:b.length<=999999980):D.ask (.fn 205) [eN a,eN b] []=Θ (eN (Ah (AtL (Ad a) (Ad b))),[]):=by
 have la:(Ah (Ad a)).length<=999999980:=by rw[Dz a ha];have:=Cs a;omega
 have lb:(Ah (Ad b)).length<=999999980:=by rw[Dz b hb];have:=Cs b;omega
 refine AC G Qr (Ap2 ..) ?_;refine Ab (FA K C (by unfold BU;omega) ha) ?_;simp only[eN,ND,DK,Aa];refine Ab (FA K C (by unfold BU;omega) hb) ?_;simp only[eN,ND,DK,Aa];refine Ab (AkW G V _ _ _ (κ _) la lb) ?_;simp only[eN,ND,DK,Aa]
include Z
omit V in
theorem Aiv{a b:Zi}(ha:Lz 900000000 a)(hb:Lz 900000000 b):D.ask (.fn 146) [.agg (eZ a),.agg (eZ b)] []=Θ (.agg (eZ (Av (zv a-zv b))),[]):=by
 have g:=S5 K Z C (κ _) ha (hb.inb.neg.lz);rw[Bf,←AuJ]at g;refine AC G AiZ (ApB ..) ?_;refine Ab (YG K Z C (hb.mono (by omega))) ?_;simp only[eZ,eN,ND,DK,Aa];refine Ab g ?_;simp only[eZ,eN,ND,DK,Aa]
theorem YF{a b:Zi}(ha:Lz 800000000 a)(hb:Lz 800000000 b):D.ask (.fn 66) [.agg (eZ a),.agg (eZ b)] []
  = Θ (if zv b=0 then .tup [.agg [bv Φ,.ls []],.agg [bv Φ,.ls []],iv 10] else .tup [.agg (eZ (Av (qZ (zv a) (zv b)))),.agg (eZ (Av (rZ (zv a) (zv b)))),iv 0],[]):=by
 have hia:=ha.inb;have hib:=hb.inb;have la:=hia.lz;have lb:=hib.lz;have gd:=V.div _ _ la.lim (by have:=la.len;omega) lb.lim (by have:=lb.len;omega);rw[show (Av (zv a)).abs=Ah (zv a).natAbs from rfl,show (Av (zv b)).abs=Ah (zv b).natAbs from rfl,Az,Az]at gd;refine AC G Ans (e66 ..) ?_;refine Ab (NU K Z C (ha.mono (by omega))) ?_;simp only[eZ,eN,ND,DK,Aa];refine Ab (NU K Z C (hb.mono (by omega))) ?_;simp only[eZ,eN,ND,DK,Aa];rw[show (Av (zv a)).neg=decide (zv a<0) from rfl,show (Av (zv b)).neg=decide (zv b<0) from rfl];generalize zv a=x at *;generalize zv b=y at *;refine Ab gd ?_
 by_cases h0:y=0
 .rw[if_pos h0,if_pos (by rw[h0];rfl)]
  simp only[ND,DK,Aa];exact GK (by decide)
 .rw[if_neg h0,if_neg (by omega)]
  simp only[eN,ND,DK,Aa];refine Bt ?_ (by decide);have hu:=Acg hia y;have hv:=T7 hib h0 x;have fu:=λs=>Ex K Z C s (Aq (uN x y)) (by unfold BU;have:=(hu Δ).lz.len;rw[Nu]at this;dsimp only at this;omega)
  have fv:=λs=>Ex K Z C s (Aq (vN x y)) (by unfold BU;have:=(hv Δ).lz.len;rw[Nu]at this;dsimp only at this;omega)
  simp only[Az]at fu fv;rw[show x.natAbs / y.natAbs=uN x y from rfl,show x.natAbs % y.natAbs=vN x y from rfl,Ao];rw[show Ae.not (Ae.beq (decide (x<0)) (decide (y<0)))=dS x y from rfl];unfold qZ rZ;have hlv:=@Dh (vN x y)
  cases hs:dS x y with
  |true=>
   refine Ac ?_;refine Ab (fu Δ) ?_;simp only[eZ,eN,B5,Cj,Dq,BW,BC,DK];refine Ab (fv _) ?_;simp only[eZ,eN,B5,Cj,Dq,BW,BC,DK];refine Ac ?_
   by_cases hv0:0<vN x y
   .refine Ap ?_ (by have:=hlv.2 hv0;omega)
    rw[if_pos ⟨trivial,hv0⟩,if_pos ⟨trivial,hv0⟩];have g1:=Aes K Z C 1 (by decide) (by decide);have g2:=Aiv K Z C G (a:=Av (Dl Δ (uN x y))) (b:=Av 1) ((hu Δ).lz.mono (by omega)) ((InB.one (k:=1) (by omega)).lz.mono (by omega));have g3:=S5 K Z C (κ _) (a:=Av (Dl (decide (x<0)) (vN x y))) (b:=Av y) ((hv _).lz.mono (by omega)) (lb.mono (by omega));rw[Bf,Bf]at g2 g3;refine Ab g1 ?_;simp only[eZ,eN,B5,Cj,Dq,BW,BC,DK];refine Ab g2 ?_;simp only[eZ,eN,B5,Cj,Dq,BW,BC,DK];refine Ab g3 ?_;simp only[eZ,eN,B5,Cj,Dq,BW,BC,DK]
   .refine Ak ?_ (by intro h;exact hv0 (hlv.1 (by omega)))
    rw[if_neg (λh=>hv0 h.2),if_neg (λh=>hv0 h.2)]
  |false=>
   refine BX ?_;refine Ab (fu Φ) ?_;simp only[eZ,eN,B5,Cj,Dq,BW,BC,DK];refine Ab (fv _) ?_;simp only[eZ,eN,B5,Cj,Dq,BW,BC,DK];refine BX ?_;rw[if_neg (λh=>by cases h.1),if_neg (λh=>by cases h.1)]
theorem AaF{a b:Zi}(ha:Lz 800000000 a)(hb:Lz 800000000 b):D.ask (.fn 143) [.agg (eZ a),.agg (eZ b)] []
  = Θ (if zv b=0 then .tup [.agg [bv Φ,.ls []],iv 10] else if rZ (zv a) (zv b)=0 then .tup [.agg (eZ (Av (qZ (zv a) (zv b)))),iv 0] else .tup [.agg [bv Φ,.ls []],iv 1],[]):=by
 have hia:=ha.inb;have hib:=hb.inb;refine AC G AiX (Apz ..) ?_;refine Ab (YF K Z C G V ha hb) ?_;generalize zv a=x at *;generalize zv b=y at *
 by_cases h0:y=0
 .rw[if_pos h0,if_pos h0]
  simp only[ND,DK,Aa];exact GK (by decide)
 .rw[if_neg h0,if_neg h0]
  have hr:InB 800000001 (rZ x y):=by
   unfold rZ;split
   .exact(T7 hib h0 x _).add hib
   .exact(T7 hib h0 x _).mono (by omega)
  have gs:=K7 K Z C (z:=Av (rZ x y)) (hr.lz.mono (by omega));rw[Bf]at gs;simp only[eZ,eN,ND,DK,Aa];refine Bt ?_ (by decide);refine Ab gs ?_;simp only[ND,DK,Aa]
  by_cases h1:rZ x y=0
  .rw[if_pos h1,h1]
   exact GL (by decide)
  .rw[if_neg h1]
   refine(GK ?_).trans ?_
   .unfold Cu
    split
    .omega
    .rw[if_pos (by omega)];omega
   .rfl
theorem Ait{a b:Zi}(ha:Lz 900000000 a)(hb:Lz 900000000 b):D.ask (.fn 147) [.agg (eZ a),.agg (eZ b)] []=Θ (.agg (eZ (Av (AtL (zv a).natAbs (zv b).natAbs:Nat))),[]):=by
 have hia:=ha.inb;have la:=ha.len;have lb:=hb.len;rw[QH,QH];have hlen:(Ah (AtL (Ad a.abs) (Ad b.abs))).length<=900000000:=by
  rcases As9 (Ad a.abs) with h|h
  .rw[h,Avr]
   exact Asr (Bz (BK hb.lim)) lb
  .refine Asr (Bz (k:=a.abs.length) ?_) la
   have:=AvG (Ad b.abs) h;have:=BK ha.lim;omega
 have g:=Ex K Z C Φ (Aq (AtL (Ad a.abs) (Ad b.abs))) (by unfold BU;omega);rw[Az,show Dl Φ (AtL (Ad a.abs) (Ad b.abs))=((AtL (Ad a.abs) (Ad b.abs):Nat):Int) from rfl]at g;refine AC G Ai0 (ApC ..) ?_;refine Ab (Akl K C G V ha.lim (by omega) hb.lim (by omega)) ?_;simp only[eN,ND,DK,Aa];refine Ab g ?_;simp only[eZ,eN,ND,DK,Aa]
end
def Bi(v:Int):List (Int × Int)->Int
 |[]=>0
 |p::r=>(if p.1=v then p.2 else 0)+Bi v r
theorem Fe{v:Int}:∀{l:List (Int × Int)},(∀ p∈l,p.1≠v)->Bi v l=0
 |[],_=>rfl
 |p::r,h=>by
  rw[Bi,if_neg (h p (υ ..)),Fe λq hq=>h q (γ _ hq)];rfl
theorem N1{v:Int}{a b:List (Int × Int)}(h:a.Perm b):Bi v a=Bi v b:=by
 induction h with
 |nil=>rfl
 |cons x _ ih=>rw[Bi,Bi,ih]
 |swap x y l=>rw[Bi,Bi,Bi,Bi];omega
 |trans _ _ ih1 ih2=>rw[ih1,ih2]
structure Pln (l:List (Int × Int)):Prop where
 asc:l.Pairwise λa b=>a.1<b.1
 pos:∀ p∈l,0<=p.1
 nz:∀ p∈l,p.2≠0
theorem Sl:Pln []:=⟨.nil,by simp,by simp⟩
theorem Pln.tail{p:Int × Int}{r:List (Int × Int)}(h:Pln (p::r)):Pln r:=⟨(AsH.1 h.asc).2,λq hq=>h.pos q (γ _ hq),λq hq=>h.nz q (γ _ hq)⟩
theorem Pln.head{p:Int × Int}{r:List (Int × Int)}(h:Pln (p::r)):Bi p.1 (p::r)=p.2:=by
 rw[Bi,if_pos rfl,Fe λq hq=>by have:=(AsH.1 h.asc).1 q hq;omega];omega
theorem Pln.below{p:Int × Int}{r:List (Int × Int)}(h:Pln (p::r)){v:Int}(hv:v<p.1):Bi v (p::r)=0:=by
 refine Fe λq hq=>?_
 rcases ArR.1 hq with rfl|hq
 .omega
 .have:=(AsH.1 h.asc).1 q hq
  omega
theorem Pln.ext:∀{a b:List (Int × Int)},Pln a->Pln b->(∀ v,Bi v a=Bi v b)->a=b
 |[],[],_,_,_=>rfl
 |[],q::s,_,hb,h=>by
  have h1:=hb.head;rw[←h q.1]at h1;exact absurd h1.symm (hb.nz q (υ ..))
 |p::r,[],ha,_,h=>by
  have h1:=ha.head;rw[h p.1]at h1;exact absurd h1.symm (ha.nz p (υ ..))
 |p::r,q::s,ha,hb,h=>by
  have h1:=ha.head;have h2:=hb.head;have n1:=ha.nz p (υ ..);have n2:=hb.nz q (υ ..);have e:p.1=q.1:=by
   rcases Int.lt_trichotomy p.1 q.1 with h3|h3|h3
   .rw[h p.1,hb.below h3]at h1
    exact absurd h1.symm n1
   .exact h3
   .rw[←h q.1,ha.below h3]at h2
    exact absurd h2.symm n2
  have e2:p.2=q.2:=by rw[←h1,←h2,h p.1,e]
  have ep:p=q:=Prod.ext e e2;rw[ep,Pln.ext ha.tail hb.tail λv=>by
   have:=h v;rw[Bi,Bi,ep]at this;omega]
def Kg(v c:Int):List (Int × Int)->List (Int × Int)
 |[]=>if c=0 then [] else [(v,c)]
 |p::r=>if v<p.1 then(if c=0 then p::r else(v,c)::p::r) else if p.1<v then p::Kg v c r else if p.2+c=0 then r else(v,p.2+c)::r
theorem Ly(v c u:Int):∀ l:List (Int × Int),Bi u (Kg v c l)=(if v=u then c else 0)+Bi u l
 |[]=>by
  unfold Kg;split
  .rename_i h;simp[Bi,h]
  .simp[Bi]
 |p::r=>by
  have ih:=Ly v c u r;unfold Kg;split
  .split
   .rename_i h;rw[h];simp
   .rfl
  .split
   .rw[Bi,ih,Bi];omega
   .have e:p.1=v:=by omega
    split
    .rename_i h
     rw[Bi,e];split<;>omega
    .rw[Bi,Bi,e]
     split<;>omega
theorem T8{v c:Int}:∀{l:List (Int × Int)} {q:Int × Int},q∈Kg v c l->q.1=v\/q∈l
 |[],q,h=>by
  unfold Kg at h;split at h
  .exact .inr h
  .rw[List.mem_singleton.1 h];exact .inl rfl
 |p::r,q,h=>by
  unfold Kg at h;split at h
  .split at h
   .exact .inr h
   .rcases ArR.1 h with h|h
    .rw[h];exact .inl rfl
    .exact .inr h
  .split at h
   .rcases ArR.1 h with h|h
    .rw[h];exact .inr (υ ..)
    .rcases T8 h with h|h
     .exact .inl h
     .exact .inr (γ _ h)
   .split at h
    .exact .inr (γ _ h)
    .rcases ArR.1 h with h|h
     .rw[h];exact .inl rfl
     .exact .inr (γ _ h)
theorem T9{v c:Int}(hv:0<=v):∀{l:List (Int × Int)},Pln l->Pln (Kg v c l)
 |[],_=>by
  unfold Kg;split
  .exact Sl
  .rename_i h
   exact⟨List.pairwise_singleton _ _,by simpa using hv,by simpa using h⟩
 |p::r,h=>by
  have ih:=T9 (c:=c) hv h.tail;have hp:=AsH.1 h.asc;unfold Kg;split
  .rename_i h1
   split
   .exact h
   .rename_i h2
    refine⟨AsH.2 ⟨λq hq=>?_,h.asc⟩,λq hq=>?_,λq hq=>?_⟩
    .rcases ArR.1 hq with rfl|hq
     .exact h1
     .have:=hp.1 q hq;simp only;omega
    .rcases ArR.1 hq with rfl|hq
     .exact hv
     .exact h.pos q hq
    .rcases ArR.1 hq with rfl|hq
     .exact h2
     .exact h.nz q hq
  .split
   .rename_i h1 h2
    refine⟨AsH.2 ⟨λq hq=>?_,ih.asc⟩,λq hq=>?_,λq hq=>?_⟩
    .rcases T8 hq with e|hq
     .rw[e];exact h2
     .exact hp.1 q hq
    .rcases ArR.1 hq with rfl|hq
     .exact h.pos _ (υ ..)
     .exact ih.pos q hq
    .rcases ArR.1 hq with rfl|hq
     .exact h.nz _ (υ ..)
     .exact ih.nz q hq
   .rename_i h1 h2
    split
    .exact h.tail
    .rename_i h3
     refine⟨AsH.2 ⟨λq hq=>?_,hp.2⟩,λq hq=>?_,λq hq=>?_⟩
     .have:=hp.1 q hq;simp only;omega
     .rcases ArR.1 hq with rfl|hq
      .exact hv
      .exact h.tail.pos q hq
     .rcases ArR.1 hq with rfl|hq
      .exact h3
      .exact h.tail.nz q hq
def AG:List (Int × Int)->List (Int × Int)
 |[]=>[]
 |p::r=>if 0<=p.1 then Kg p.1 p.2 (AG r) else AG r
theorem CW:∀ l:List (Int × Int),Pln (AG l)
 |[]=>Sl
 |p::r=>by
  unfold AG;split
  .rename_i h;exact T9 h (CW r)
  .exact CW r
theorem JE(v:Int):∀ l:List (Int × Int),Bi v (AG l)=if 0<=v then Bi v l else 0
 |[]=>by simp[AG,Bi]
 |p::r=>by
  have ih:=JE v r;unfold AG
  by_cases h:0<=p.1
  .by_cases hv:0<=v
   .rw[if_pos h,Ly,ih,Bi,if_pos hv,if_pos hv]
   .rw[if_pos h,Ly,ih,if_neg hv,if_neg hv,if_neg (by omega)]
    rfl
  .by_cases hv:0<=v
   .rw[if_neg h,ih,Bi,if_pos hv,if_pos hv,if_neg (show ¬ p.1=v by omega)]
    omega
   .rw[if_neg h,ih,if_neg hv,if_neg hv]
theorem O1{l r:List (Int × Int)}(h:Pln r)(hc:∀ v,0<=v->Bi v r=Bi v l):r=AG l:=by
 refine Pln.ext h (CW l) λv=>?_
 rw[JE]
 by_cases hv:0<=v
 .rw[if_pos hv,hc v hv]
 .rw[if_neg hv]
  refine Fe λp hp e=>?_
  have:=h.pos p hp;omega
theorem Cp{l:List (Int × Int)}(h:Pln l):AG l=l:=(O1 h λ_ _=>rfl).symm
theorem Gr:∀ l:List (Int × Int),(AG l).length<=l.length
 |[]=>κ _
 |p::r=>by
  have ih:=Gr r;have ins:∀ l:List (Int × Int),(Kg p.1 p.2 l).length<=l.length+1:=λl=>by
   induction l with
   |nil=>unfold Kg;split<;>simp
   |cons q s ih=>
    unfold Kg;split
    .split<;>simp
    .split
     .simpa using ih
     .split
      .simp;omega
      .simp
  unfold AG;split
  .have:=ins (AG r)
   rw[ε];omega
  .rw[ε]
   omega
section
variable {α:Type} (key:α->Int)
def kf(l:List α)(p:Nat):Int:=match l[p]? with
 |some x=>key x
 |none=>0
theorem EP{l:List α}{p:Nat}(h:p<l.length):kf key l p=key l[p]:=by
 unfold kf;rw[φ h]
def CT(l:List α)(i j:Nat):List α:=match l[i]?,l[j]? with
 |some x,Θ y=>(l.set i y).set j x
 |_,_=>l
theorem DD{l:List α}{i j:Nat}(hi:i<l.length)(hj:j<l.length):CT l i j=(l.set i l[j]).set j l[i]:=by
 unfold CT;rw[φ hi,φ hj]
theorem Gz(l:List α)(i j:Nat):(CT l i j).length=l.length:=by
 unfold CT;split<;>simp
theorem XC{l:List α}{i j:Nat}(hi:i<l.length)(hj:j<l.length)(p:Nat):kf key (CT l i j) p=if p=j then kf key l i else if p=i then kf key l j else kf key l p:=by
 rw[DD hi hj];unfold kf
 by_cases h1:p=j
 .subst h1
  rw[if_pos rfl,Ati (by simpa using hj),φ hi]
 .rw[if_neg h1,As8 (λe=>h1 e.symm)]
  by_cases h2:p=i
  .subst h2
   rw[if_pos rfl,Ati hi,φ hj]
  .rw[if_neg h2,As8 (λe=>h2 e.symm)]
theorem Ew(l:List α)(i j:Nat):(CT l i j).Perm l:=by
 by_cases hi:i<l.length
 .by_cases hj:j<l.length
  .rw[DD hi hj]
   have:=Array.swap_perm (xs:=l.toArray) (i:=i) (j:=j) (by simpa using hi) (by simpa using hj);have h2:=this.toList;simpa[Array.swap]using h2
  .unfold CT
   rw[AsZ (show l.length<=j by omega)];split
   .rename_i h;cases h
   .exact List.Perm.refl _
 .unfold CT
  rw[AsZ (show l.length<=i by omega)]
theorem Aaf{l:List α}{i j p:Nat}(h1:p≠i)(h2:p≠j):(CT l i j)[p]? = l[p]?:=by
 unfold CT;split
 .rw[As8 (λe=>h2 e.symm),As8 (λe=>h1 e.symm)]
 .rfl
def Srt(l:List α)(a b:Nat):Prop:=∀ p q,a<=p->p<q->q<b->kf key l p<=kf key l q
def S9(l:List α)(a i j:Nat):Prop:=∀ p q,a<=p->p<q->q<=i->q≠j->kf key l p<=kf key l q
def Same0(l r:List α)(a b:Nat):Prop:=∀ p,(p<a\/b<=p)->r[p]? = l[p]?
theorem De(l:List α)(a b:Nat):Same0 l l a b:=λ_ _=>rfl
theorem Same0.trans{l r s:List α}{a b:Nat}(h1:Same0 l r a b)(h2:Same0 r s a b):Same0 l s a b:=λp hp=>(h2 p hp).trans (h1 p hp)
theorem Same0.wide{l r:List α}{a b c d:Nat}(h1:Same0 l r a b)(hc:c<=a)(hd:b<=d):Same0 l r c d:=λp hp=>h1 p (by omega)
theorem Same0.kf{l r:List α}{a b p:Nat}(h:Same0 l r a b)(hp:p<a\/b<=p):kf key r p=kf key l p:=by
 unfold Go.Proofs.YtpncilciembjdaaGreatDoor.kf;rw[h p hp]
theorem Aag{l:List α}{i j a b:Nat}(h1:a<=i)(h2:i<b)(h3:a<=j)(h4:j<b):Same0 l (CT l i j) a b:=λp hp=>Aaf (by omega) (by omega)
theorem QU{l:List α}{a i j:Nat}(hi:i<l.length)(ha:a<j)(hj:j<=i)(h:S9 key l a i j)(hlt:kf key l j<kf key l (j-1)):S9 key (CT l j (j-1)) a i (j-1):=by
 intro p q h1 h2 h3 h4;rw[XC key (by omega) (by omega),XC key (by omega) (by omega)]
 by_cases q1:q=j
 .subst q1
  rw[if_neg (show ¬ q=q-1 by omega),if_pos rfl]
  by_cases p1:p=q-1
  .rw[if_pos p1];omega
  .rw[if_neg p1,if_neg (by omega)]
   exact h p (q-1) h1 (by omega) (by omega) (by omega)
 .rw[if_neg h4,if_neg q1]
  by_cases p1:p=j-1
  .rw[if_pos p1]
   exact h j q (by omega) (by omega) h3 q1
  .rw[if_neg p1]
   by_cases p2:p=j
   .rw[if_pos p2]
    exact h (j-1) q (by omega) (by omega) h3 q1
   .rw[if_neg p2]
    exact h p q h1 h2 h3 q1
theorem KT{l:List α}{a i j:Nat}(hj:j<=i)(h:S9 key l a i j)(he:j=a\/kf key l (j-1)<=kf key l j):Srt key l a (i+1):=by
 intro p q h1 h2 h3
 by_cases hq:q=j
 .subst hq
  rcases he with he|he
  .omega
  .by_cases hp:p=q-1
   .rw[hp];exact he
   .have:=h p (q-1) h1 (by omega) (by omega) (by omega)
    omega
 .exact h p q h1 h2 (by omega) hq
theorem Pr{l:List α}{a i:Nat}(h:Srt key l a i):S9 key l a i i:=λp q h1 h2 h3 h4=>h p q h1 h2 (by omega)
theorem E0{l:List α}(h:Srt key l 0 l.length):l.Pairwise λx y=>key x<=key y:=by
 rw[List.pairwise_iff_getElem];intro i j hi hj hij;have:=h i j (by omega) hij hj
 rwa [EP key hi,EP key hj]at this
theorem Ym(l:List α)(a:Nat):Srt key l a (a+1):=λp q h1 h2 h3=>by omega
theorem Yl(l:List α)(a:Nat):Srt key l a a:=λp q h1 h2 h3=>by omega
end
structure Pt where
 v:Int
 z:Zi
def eP(p:Pt):List AV:=[iv p.v,bv p.z.neg,eN p.z.abs]
theorem Ay(p:Pt):(eP p).length=3:=rfl
section
variable {α:Type} {e:α->List AV} {w:Nat} (he:∀ x,(e x).length=w)
include he
theorem Yf(l:List α):∀(i:Nat) (h:i<l.length),(Ag e l).drop (i*w)=e l[i]++(Ag e l).drop (i*w+w):=by
 induction l with
 |nil=>intro i h;cases h
 |cons x r ih=>
  intro i h;have hx:=he x
  cases i with
  |zero=>
   rw[Nat.zero_mul,ArT,Ar5]
   show e x++Ag e r=e x++(e x++Ag e r).drop w
   rw[←hx,List.drop_left]
  |succ i=>
   have:=ih i (by simpa using h);have e1:∀ n,(Ag e (x::r)).drop (w+n)=(Ag e r).drop n:=λn=>by
    show (e x++Ag e r).drop (w+n)=_
    rw[←hx,Avw];simp
   rw[show (i+1)*w=w+i*w by rw[Asz];omega,e1,this,show w+i*w+w=w+(i*w+w) by omega,e1];rfl
theorem Bm(l:List α)(i:Nat)(h:i<l.length)(k:List AV->KR):EX (Ag e l) (0+i*w) w k=k (e l[i]):=by
 have hw:i*w+w<=l.length*w:=by
  rw[←Nat.succ_mul];exact Nat.mul_le_mul_right w h
 unfold EX;have:ArY (0+i*w+w) (Ag e l).length=Δ:=by rw[AR he];simp;omega
 rw[this]
 show k (((Ag e l).drop (0+i*w)).take w)=_
 rw[Ar5,Yf he l i h,List.take_left' (he _)]
theorem Cq(l:List α)(i:Nat)(h:i<l.length)(x:α):AD (Ag e l) (0+i*w) (e x)=Ag e (l.set i x):=by
 unfold AD;rw[he x,Ar5];have e1:=Yf he l i h;have e2:∀(l:List α) (i:Nat),i<=l.length->(Ag e l).take (i*w)=Ag e (l.take i):=λl=>by
  induction l with
  |nil=>intro i _;simp[Ag]
  |cons y r ih=>
   intro i hi
   cases i with
   |zero=>simp[Ag]
   |succ i=>
    rw[show (i+1)*w=w+i*w by rw[Asz];omega]
    show (e y++Ag e r).take (w+i*w)=e y++Ag e (r.take i)
    rw[←he y,List.take_append,AsW (by omega),show (e y).length+i*(e y).length-(e y).length=i*(e y).length by omega,he y,ih i (by simpa using hi)]
 have e3:∀(l:List α) (i:Nat),i<=l.length->(Ag e l).drop (i*w)=Ag e (l.drop i):=λl=>by
  induction l with
  |nil=>intro i _;simp[Ag]
  |cons y r ih=>
   intro i hi
   cases i with
   |zero=>simp[Ag]
   |succ i=>
    rw[show (i+1)*w=w+i*w by rw[Asz];omega]
    show (e y++Ag e r).drop (w+i*w)=Ag e (r.drop i)
    rw[←he y,Avw,List.drop_of_length_le (by omega),show (e y).length+i*(e y).length-(e y).length=i*(e y).length by omega,he y,ih i (by simpa using hi),Asg]
 rw[e2 l i (by omega),show i*w+w=(i+1)*w by rw[Asz];omega,e3 l (i+1) (by omega),List.set_eq_take_append_cons_drop,if_pos h];simp[Ag]
end
theorem FC{a b:Int}:CD a b<0 ↔ a<b:=by
 unfold CD;split
 .omega
 .split<;>omega
theorem KX{j:Nat}(h:j<4611686018427387904):Ae.sub .i64 ((j+1:Nat):Int) 1=(j:Int):=by
 rw[DB (by omega) (by omega)];omega
theorem AN{a b:Nat}(h:a<b):Nat.blt a b=Δ:=by simpa using h
section
variable {D:Orc} (K:Knows At D9 D)
include K
theorem Ub(x:Int):D.ask (.fn 157) [iv x] []=Θ (bv Φ,[]):=by
 refine AC K Ai4 (ApJ ..) ?_;exact Bt rfl rfl
theorem Rz(x y:Int):D.ask (.fn 84) [iv x,iv y] []=Θ (iv (CD x y),[]):=by
 refine AC K Anz (e84 ..) ?_;refine Ab (Ub K x) ?_;simp only[ND,DK,Aa];refine Ab (Ub K y) ?_;simp only[ND,DK,Aa];unfold CD
 by_cases h:x<y
 .rw[if_pos h]
  exact Ap rfl h
 .rw[if_neg h]
  refine Ak ?_ h
  by_cases h2:y<x
  .rw[if_pos h2]
   exact Ap rfl h2
  .rw[if_neg h2]
   exact Ak rfl h2
theorem Hz(p q:Pt):D.ask (.fn 137) [.agg (eP p),.agg (eP q)] []=Θ (iv (CD p.v q.v),[]):=by
 refine AC K AiS (Apu ..) ?_;refine Ab (Rz K p.v q.v) ?_;rfl
def Fs:AV:=.fn (.func 137) [] []
theorem Ak0(a i:Nat)(b:Int):∀(m j:Nat) (l:List Pt),j-a=m->a<=j->j<=i->i<l.length->l.length<=1000000000->S9 Pt.v l a i j->
  ∃ r:List Pt,D.ask (.lp 234 1) [.sl 0 0 l.length 3,iv (a:Int),iv b,Fs,iv (i:Int),iv (j:Int)] [δ (Ag eP l) Δ Δ]
   = Θ (.tup [iv 2,.sl 0 0 l.length 3,iv (a:Int),iv b,Fs,iv (i:Int)],[.set (δ (Ag eP r) Δ Δ)])
   ∧ r.length=l.length/\r.Perm l/\Srt Pt.v r a (i+1)/\Same0 l r a (i+1):=by
 intro m
 induction m with
 |zero=>
  intro j l hm ha hj hi hl hs;obtain rfl:j=a:=by omega
  refine⟨l,?_,rfl,List.Perm.refl _,KT Pt.v hj hs (.inl rfl),De _ _ _⟩;refine Ax K HL (VI ..) ?_;exact Ak rfl
 |succ m ih=>
  intro j l hm ha hj hi hl hs;obtain⟨k,rfl⟩:∃ k,j=k+1:=⟨j-1,by omega⟩;have h1:k+1<l.length:=by omega
  have h0:k<l.length:=by omega
  have kf1:kf Pt.v l (k+1)=l[k+1].v:=EP Pt.v h1;have kf0:kf Pt.v l k=l[k].v:=EP Pt.v h0
  by_cases hlt:l[k+1].v<l[k].v
  .have hs2:S9 Pt.v (CT l (k+1) k) a i k:=QU (j:=k+1) Pt.v hi (by omega) hj hs (by rw[As2,kf1,kf0];exact hlt)
   have hlen:=Gz l (k+1) k;obtain⟨r,g,hr,hp,ho,hsm⟩:=ih k (CT l (k+1) k) (by omega) (by omega) (by omega) (by omega) (by omega) hs2;rw[hlen]at g hr;refine⟨r,?_,hr,hp.trans (Ew _ _ _),ho,(Aag (by omega) (by omega) (by omega) (by omega)).trans hsm⟩;refine Ax K HL (VI ..) ?_;refine Ap ?_;rw[KX (by omega),Au,AN h1];refine Ac ?_;refine(Bm Ay l (k+1) h1 _).trans ?_;simp only[eP,eN,ND,DK,Aa];rw[Au,AN h0];refine Ac ?_;refine(Bm Ay l k h0 _).trans ?_;simp only[eP,eN,ND,DK,Aa];refine Ab (Hz K l[k+1] l[k]) ?_;simp only[ND,DK,Aa];refine Ap ?_ (FC.2 hlt);rw[Au,AN h0];refine Ac ?_;refine(Bm Ay l k h0 _).trans ?_;simp only[eP,eN,ND,DK,Aa];rw[Au,AN h1];refine Ac ?_;refine(Bm Ay l (k+1) h1 _).trans ?_;simp only[eP,eN,ND,DK,Aa];rw[Au,AN h1];refine Ac ?_;have s1:=Cq Ay l (k+1) h1 l[k];have s2:=Cq Ay (l.set (k+1) l[k]) k (by rw[Asd];exact h0) l[k+1];rw[←DD h1 h0]at s2;simp only[eP,eN]at s1 s2;rw[show ArY (0+(k+1)*3+3) (Ag eP l).length=Δ by rw[AR Ay];simp;omega];refine Ac ?_;rw[Au,AN h0];refine Ac ?_;rw[s1,s2];rw[show ArY (0+k*3+3) (Ag eP (l.set (k+1) l[k])).length=Δ by rw[AR Ay,Asd];simp;omega];refine Ac ?_;refine Ab g ?_;rfl
  .refine⟨l,?_,rfl,List.Perm.refl _,KT Pt.v hj hs (.inr ?_),De _ _ _⟩
   .skip
    refine Ax K HL (VI ..) ?_;refine Ap ?_;rw[KX (by omega),Au,AN h1];refine Ac ?_;refine(Bm Ay l (k+1) h1 _).trans ?_;simp only[eP,eN,ND,DK,Aa];rw[Au,AN h0];refine Ac ?_;refine(Bm Ay l k h0 _).trans ?_;simp only[eP,eN,ND,DK,Aa];refine Ab (Hz K l[k+1] l[k]) ?_;simp only[ND,DK,Aa];exact Ak rfl (λh=>hlt (FC.1 h))
   .rw[As2,kf1,kf0]
    omega
theorem Afc(a b:Nat):∀(m i:Nat) (l:List Pt),b-i=m->a<i->i<=b->b<=l.length->l.length<=1000000000->Srt Pt.v l a i->
  ∃ r:List Pt,D.ask (.lp 234 0) [.sl 0 0 l.length 3,iv (a:Int),iv (b:Int),Fs,iv (i:Int)] [δ (Ag eP l) Δ Δ]
   = Θ (.tup [iv 0,.sl 0 0 l.length 3],[.set (δ (Ag eP r) Δ Δ)])
   ∧ r.length=l.length/\r.Perm l/\Srt Pt.v r a b/\Same0 l r a b:=by
 intro m
 induction m with
 |zero=>
  intro i l hm ha hi hb hl hs;obtain rfl:i=b:=by omega
  refine⟨l,?_,rfl,List.Perm.refl _,hs,De _ _ _⟩;refine Ax K HL (VH ..) ?_;exact Ak rfl
 |succ m ih=>
  intro i l hm ha hi hb hl hs;obtain⟨r,g,hr,hp,ho,hsm⟩:=Ak0 K a i (b:Int) _ i l rfl (by omega) (κ _) (by omega) hl (Pr Pt.v hs);obtain⟨r2,g2,hr2,hp2,ho2,hsm2⟩:=ih (i+1) r (by omega) (by omega) (by omega) (by omega) (by omega) ho;rw[hr]at g2;refine⟨r2,?_,by omega,hp2.trans hp,ho2,(hsm.wide (κ _) (by omega)).trans hsm2⟩;refine Ax K HL (VH ..) ?_;refine Ap ?_;refine Ab g ?_;simp only[Fs,ND,DK,Aa];refine Ac ?_;rw[BV (by omega)];refine Ab g2 ?_;rfl
theorem Aci{a b:Nat}{l:List Pt}(hab:a<=b)(hb:b<=l.length)(hl:l.length<=1000000000) :
  ∃ r:List Pt,D.ask (.fn 234) [.sl 0 0 l.length 3,iv (a:Int),iv (b:Int),Fs] [δ (Ag eP l) Δ Δ]=Θ (.tup [],[.set (δ (Ag eP r) Δ Δ)])
   ∧ r.length=l.length/\r.Perm l/\Srt Pt.v r a b/\Same0 l r a b:=by
 by_cases h:a<b
 .obtain⟨r,g,hr⟩:=Afc K a b _ (a+1) l rfl (by omega) (by omega) hb hl (Ym Pt.v l a)
  refine⟨r,?_,hr⟩;refine AC K HL (Am0 ..) ?_;rw[BV (by omega)];refine Ab g ?_;rfl
 .obtain rfl:a=b:=by omega
  have g:D.ask (.lp 234 0) [.sl 0 0 l.length 3,iv (a:Int),iv (a:Int),Fs,iv ((a+1:Nat):Int)] [δ (Ag eP l) Δ Δ]=Θ (.tup [iv 0,.sl 0 0 l.length 3],[.set (δ (Ag eP l) Δ Δ)]):=by
   refine Ax K HL (VH ..) ?_;exact Ak rfl
  refine⟨l,?_,rfl,List.Perm.refl _,Yl Pt.v l a,De _ _ _⟩;refine AC K HL (Am0 ..) ?_;rw[BV (by omega)];refine Ab g ?_;rfl
end
structure Tm where
 ps:List Pt
 k:Zi
def eT(t:Tm):List AV:=[.ls (t.ps.map eP),bv t.k.neg,eN t.k.abs]
structure Lf where
 ps:List (Int × Int)
 k:Int
def pv(p:Pt):Int × Int:=(p.v,zv p.z)
def AJ(p:Int × Int):Pt:=⟨p.1,Av p.2⟩
def Tm.lf(t:Tm):Lf:=⟨t.ps.map pv,zv t.k⟩
def Lf.tm(l:Lf):Tm:=⟨l.ps.map AJ,Av l.k⟩
def Lf.pln(l:Lf):Lf:=⟨AG l.ps,l.k⟩
theorem Ahs(p:Int × Int):pv (AJ p)=p:=by
 unfold pv AJ;rw[Bf]
theorem Cd(l:Lf):l.tm.lf=l:=by
 obtain⟨ps,k⟩:=l;unfold Lf.tm Tm.lf;simp only[List.map_map,Bf];rw[show (pv ∘ AJ)=id from funext Ahs,List.map_id]
structure TmB (n k:Nat) (t:Tm):Prop where
 len:t.ps.length<=n
 ps:∀ p∈t.ps,Lz k p.z
 k:Lz k t.k
structure LB (n k:Nat) (l:Lf):Prop where
 len:l.ps.length<=n
 ps:∀ p∈l.ps,InB k p.2
 k:InB k l.k
theorem TmB.lb{n k:Nat}{t:Tm}(h:TmB n k t):LB n k t.lf:=by
 refine⟨by simpa[Tm.lf]using h.len,λp hp=>?_,h.k.inb⟩;simp only[Tm.lf,Asj]at hp;obtain⟨q,hq,rfl⟩:=hp;exact(h.ps q hq).inb
theorem LB.tb{n k:Nat}{l:Lf}(h:LB n k l):TmB n k l.tm:=by
 refine⟨by simpa[Lf.tm]using h.len,λp hp=>?_,h.k.lz⟩;simp only[Lf.tm,Asj]at hp;obtain⟨q,hq,rfl⟩:=hp;exact(h.ps q hq).lz
theorem LB.mono{n k m j:Nat}{l:Lf}(h:LB n k l)(hn:n<=m)(hk:k<=j):LB m j l:=⟨by have:=h.len;omega,λp hp=>(h.ps p hp).mono hk,h.k.mono hk⟩
theorem TmB.mono{n k m j:Nat}{t:Tm}(h:TmB n k t)(hn:n<=m)(hk:k<=j):TmB m j t:=⟨by have:=h.len;omega,λp hp=>(h.ps p hp).mono hk,h.k.mono hk⟩
theorem Lj{k:Nat}(v:Int):∀ l:List (Int × Int),(∀ p∈l,InB k p.2)->InB (k+l.length) (Bi v l)
 |[],_=>InB.zero _
 |p::r,h=>by
  have h1:=Lj v r λq hq=>h q (γ _ hq)
  have h2:=h p (υ ..);rw[Bi,ε,←Nat.add_assoc];refine InB.add ?_ h1;split
  .exact h2.mono (by omega)
  .exact InB.zero _
theorem Pln.mem:∀{l:List (Int × Int)},Pln l->∀ p∈l,Bi p.1 l=p.2
 |q::r,h,p,hp=>by
  rcases ArR.1 hp with rfl|hp
  .exact h.head
  .rw[Bi,if_neg (by have:=(AsH.1 h.asc).1 p hp;omega),h.tail.mem p hp]
   omega
theorem LB.pln{n k:Nat}{l:Lf}(h:LB n k l):LB n (k+n) l.pln:=by
 have hl:=Gr l.ps;refine⟨by have:=h.len;simp only[Lf.pln];omega,λp hp=>?_,h.k.mono (by omega)⟩;have h1:=(CW l.ps).mem p hp;rw[JE,if_pos ((CW l.ps).pos p hp)]at h1;rw[←h1];exact(Lj p.1 l.ps h.ps).mono (by have:=h.len;omega)
def Lf.add(a b:Lf):Lf:=Lf.pln ⟨a.ps++b.ps,a.k+b.k⟩
def Lf.scale(a:Lf)(n:Int):Lf:=Lf.pln ⟨a.ps.map λp=>(p.1,p.2*n),a.k*n⟩
def Lf.sub(a b:Lf):Lf:=a.add (b.scale (-1))
def Lf.num(k:Int):Lf:=⟨[],k⟩
theorem LB.mul{n k j:Nat}{a:Lf}{x:Int}(ha:LB n k a)(hx:InB j x):LB n (k+j) ⟨a.ps.map λp=>(p.1,p.2*x),a.k*x⟩:=by
 refine⟨by simpa using ha.len,λp hp=>?_,InB.mul ha.k hx⟩;simp only[Asj]at hp;obtain⟨q,hq,rfl⟩:=hp;exact InB.mul (ha.ps q hq) hx
theorem LB.scale{n k j:Nat}{a:Lf}{x:Int}(ha:LB n k a)(hx:InB j x):LB n (k+j+n) (a.scale x):=(ha.mul hx).pln
def AoO(f:Int->Int):List (Int × Int)->Int
 |[]=>0
 |p::r=>p.2*f p.1+AoO f r
def Lf.val(f:Int->Int)(l:Lf):Int:=AoO f l.ps+l.k
section
open Go.RowKit
def Afs:MFn:=AU [⟨21,(mB 3596),[],[2,3],[(1,((mB 12),([],[])))]⟩] 67
def Acb:Hnt:=⟨[(62,(.agg B7,[])),(147,(.agg AK,[]))],[(0,[(1,([.ptr 0 0,.ptr 1 0],[.box AK,.box AK]))])],[(7,B7),(13,Br),(14,Br),(15,AK),(17,AK),(20,AK)]⟩
def Yu:List (Nat × MFn):=[(67,Afs)]
variable (A:Ar) (D:Orc)
theorem e67(x0_0:Rw)(x0_1:Bool)(x0_2:Rw):BY A D At Acb .n 67 Afs [ω [Ψ x0_0,bv x0_1,Ψ x0_2]] [] =
 Af D (ψ 62) [ω [Ψ x0_0,bv x0_1,Ψ x0_2]] [] [.a,.L,.B,.L,.N,.E] λxs _ _=>
 Af D (ArW 67 0) [Asm 0 0,Asm 1 0,Ψ xs,iv ↑(Al xs),iv 0] [bk [bv Φ,Ψ []],bk [bv Φ,Ψ []]] [.t,.C,.x,.X,.Y] λc l3 o1=>
 br (Bo 1 c)
 (dk [.P 0 0,.P 1 0,.N,.T,.B,.L,.N,.T,.B,.L,.N,.E] [.l l3,.o o1] λ_ _ b2 xs3=>
 Θ ((ω [bv b2,Ψ xs3],[])))
 (Ξ):=by kernel_rfl
theorem AiE(b2_0:Bool)(b2_1:Rw)(b3_0:Bool)(b3_1 t9:Rw)(t10 t11:Int):Dy A D At Acb .n 67 0 (AZ Afs 0).fst (AZ Afs 0).snd [Asm 0 0,Asm 1 0,Ψ t9,iv t10,iv t11] [bk [bv b2_0,Ψ b2_1],bk [bv b3_0,Ψ b3_1]] =
 br (A.lt t11 t10)
 (unI t11 λi=>
 BH t9 i λcs=>
 dk [.I,.B,.L,.N] [.l cs] λn b xs=>
 Af D (ψ 147) [ω [bv b3_0,Ψ b3_1],ω [bv b,Ψ xs]] [] [.a,.B,.L,.N,.E] λb1 xs1=>
 AF D (ArW 67 0) [Asm 0 0,Asm 1 0,Ψ t9,iv t10,iv (A.add θ t11 1)] [bk [bv b2_0,Ψ b2_1],bk [bv b1,Ψ xs1]] λr1 o1=>
 AW 2 [0,1] (AH.mk [(1,bk [bv b1,Ψ xs1]),(0,bk [bv b2_0,Ψ b2_1]),(2,bk [iv n,bv b,Ψ xs])] 3 Ξ) [0,1] r1 o1)
 (Θ ((ι [iv 0,Asm 0 0,Asm 1 0],[ArU (bk [bv b2_0,Ψ b2_1]),ArU (bk [bv b3_0,Ψ b3_1])]))):=by kernel_rfl
end
structure ZdF (D:Orc):Prop where
 div:∀ a b:Zi,Lz 800000000 a->Lz 800000000 b->D.ask (.fn 66) [.agg (eZ a),.agg (eZ b)] []
  = Θ (if zv b=0 then .tup [.agg [bv Φ,.ls []],.agg [bv Φ,.ls []],iv 10] else .tup [.agg (eZ (Av (qZ (zv a) (zv b)))),.agg (eZ (Av (rZ (zv a) (zv b)))),iv 0],[])
 exact:∀ a b:Zi,Lz 800000000 a->Lz 800000000 b->D.ask (.fn 143) [.agg (eZ a),.agg (eZ b)] []
  = Θ (if zv b=0 then .tup [.agg [bv Φ,.ls []],iv 10] else if rZ (zv a) (zv b)=0 then .tup [.agg (eZ (Av (qZ (zv a) (zv b)))),iv 0] else .tup [.agg [bv Φ,.ls []],iv 1],[])
 gcd:∀ a b:Zi,Lz 900000000 a->Lz 900000000 b->D.ask (.fn 147) [.agg (eZ a),.agg (eZ b)] []=Θ (.agg (eZ (Av (AtL (zv a).natAbs (zv b).natAbs:Nat))),[])
theorem Akf{D:Orc}(K:Knows At Hg D)(Z:Knows At Ja D)(C:CloneF D)(G:Knows At QW D)(V:DivF D):ZdF D:=⟨λ_ _ ha hb=>YF K Z C G V ha hb,λ_ _ ha hb=>AaF K Z C G V ha hb,λ_ _ ha hb=>Ait K Z C G V ha hb⟩
def Ed(g:Nat)(l:List (Int × Int)):Nat:=l.foldl (λg p=>AtL g p.2.natAbs) g
theorem RO{k g:Nat}{x:Int}(hg:InB k (g:Int))(hx:InB k x):InB k ((AtL g x.natAbs:Nat):Int):=by
 unfold InB at *;rw[AtS]at *;rcases As9 g with h|h
 .rw[h,Avr]
  exact hx
 .have:=AvG x.natAbs h
  omega
theorem TJ{k:Nat}:∀(l:List (Int × Int)) (g:Nat),InB k (g:Int)->(∀ p∈l,InB k p.2)->InB k (Ed g l:Int)
 |[],_,h,_=>h
 |p::r,g,h,hl=>TJ r _ (RO h (hl p (υ ..))) λq hq=>hl q (γ _ hq)
theorem Ka:∀(l:List (Int × Int)) (g:Nat),Ed g l ∣ g/\∀ p∈l,Ed g l ∣ p.2.natAbs
 |[],g=>⟨Nat.dvd_refl _,λ_ h=>by cases h⟩
 |p::r,g=>by
  obtain⟨h1,h2⟩:=Ka r (AtL g p.2.natAbs);refine⟨AvP h1 (Nat.gcd_dvd_left ..),λq hq=>?_⟩;rcases ArR.1 hq with rfl|h
  .exact AvP h1 (Nat.gcd_dvd_right ..)
  .exact h2 q h
section
variable {D:Orc} (T:Knows At Yu D) (W:ZdF D)
include T W
theorem AkC(l:List (Int × Int))(hlen:l.length<=4000000)(hl:∀ p∈l,InB 800000000 p.2):∀(m i g:Nat),l.length-i=m->i<=l.length->InB 800000000 (g:Int)->
  D.ask (.lp 67 0) [.ptr 0 0,.ptr 1 0,.ls (l.map λp=>eP (AJ p)),iv (l.length:Int),iv (i:Int)] [bk [bv Φ,.ls []],bk (eZ (Av (g:Int)))]
   = Θ (.tup [iv 0,.ptr 0 0,.ptr 1 0],[.set (bk [bv Φ,.ls []]),.set (bk (eZ (Av (Ed g (l.drop i):Int))))]):=by
 intro m
 induction m with
 |zero=>
  intro i g hm hi hg;rw[Ar6 (by omega)];refine Ax T Acb (AiE ..) ?_;exact Ak rfl
 |succ m ih=>
  intro i g hm hi hg;have h1:i<l.length:=by omega
  have hx:=hl _ (List.getElem_mem h1);rw[ο h1];have ga:=W.gcd (Av (g:Int)) (Av l[i].2) (hg.lz.mono (by omega)) (hx.lz.mono (by omega));rw[Bf,Bf,AtS]at ga;have ih1:=ih (i+1) (AtL g l[i].2.natAbs) (by omega) (by omega) (RO hg hx);refine Ax T Acb (AiE ..) ?_;refine Ap ?_;rw[Au,AB (f:=λp=>eP (AJ p)) (φ h1)];simp only[eP,AJ,eN,ND,DK,Aa];refine Ab ga ?_;simp only[eZ,eN,ND,DK,Aa];rw[BV (by omega)];refine Ab ih1 ?_;rfl
theorem VB{t:Tm}{l:List (Int × Int)}{k:Zi}(hp:D.ask (.fn 62) [.agg (eT t)] []=Θ (.agg [.ls (l.map λp=>eP (AJ p)),bv k.neg,eN k.abs],[]))(hlen:l.length<=4000000)(hl:∀ p∈l,InB 800000000 p.2) :
  D.ask (.fn 67) [.agg (eT t)] []=Θ (.agg (eZ (Av (Ed 0 l:Int))),[]):=by
 have g:=AkC T W l hlen hl _ 0 0 rfl (by omega) (InB.zero _);rw[ArT,show Av ((0:Nat):Int)=⟨Φ,[]⟩ from W0,show eZ ⟨Φ,[]⟩=[bv Φ,.ls []] from rfl]at g;refine AC T Acb (e67 ..) ?_;refine Ab hp ?_;simp only[eZ,eN,Ao,ND,DK,Aa];refine Ab g ?_;rfl
end
