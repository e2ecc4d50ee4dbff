/- Functions of the program -/
import Derived.Test.YtpncilciembjdaaGreatDoorCAU
set_option linter.all false
open Bool renaming false->Φ,true->Δ
open Int renaming add_comm->Awt,add_mul->Av3,eq_ofNat_of_zero_le->AwE,mul_assoc->Awm,mul_neg->AxD,mul_zero->AvU,natAbs_natCast->AvV,natAbs_neg->AvB,natCast_mul->AvJ,neg_mul->Av4,sub_eq_add_neg->Awk,zero_mul->Awv
open List renaming append_assoc->AtK,append_nil->Auu,drop->AtD,drop_append->Aw9,drop_eq_getElem_cons->ε,drop_eq_nil_of_le->AtM,drop_zero->Aty,getD_eq_getElem?_getD->Avc,getElem?_eq_getElem->ξ,getElem?_eq_none->AuG,getElem?_set_ne->AuN,getElem?_set_self->Au1,length_append->κ,length_cons->γ,length_set->AtX,length_singleton->AtT,length_take->AtV,mem_cons->AtC,mem_cons_of_mem->AtF,mem_cons_self->AtL,mem_map->Auw,nil_append->AtZ,pairwise_cons->Aup,replicate->AuQ,tail_drop->Avv,take->ο,take_of_length_le->AuD,take_succ_eq_append_getElem->Auh
open Nat renaming add_mul->Aue,add_sub_cancel->Au0,ble->AtG,dvd_trans->Axs,eq_zero_or_pos->AuO,gcd->AvR,gcd_comm->AxA,gcd_le_left->Axi,gcd_zero_left->Aw5,gcd_zero_right->AwX,le_refl->η,le_trans->Auf,min_eq_left->Auy,mod_lt->Auo,pow_le_pow_right->Au9,pow_succ->AuM,zero_add->AtQ
open Option renaming none->Ξ,some->Θ
namespace Go.Proofs.YtpncilciembjdaaGreatDoor
noncomputable section
open ABlk renaming mk->δ
open AV renaming agg->ψ,ls->Ψ,ptr->AtA,sl->χ,tup->υ,v->AtO
open BO renaming set->AtH
open IntKind renaming i64->θ,u32->ζ,u64->Ω
open Key renaming fn->ω,lp->AtB
section
open Go.RowKit
def Qs:MFn:=AC [⟨37,(mB 25),[(3,1)],[],[(1,((mB 8),([],[])))]⟩,⟨37,(mB 8),[(3,1)],[],[(3,((mB 8),([],[])))]⟩] 149
def Mr:Hnt:=⟨[],[(0,[(1,([.sl 1 1],[.del,.row Δ]))]),(1,[(3,([.sl 1 1],[.del,.row Δ]))])],[(15,[.int .u32]),(16,[.int .u32]),(27,[.int .u32]),(28,[.int .u32])]⟩
def Ak5:MFn:=AC [] 186
def Akk:Hnt:=⟨[],[],[]⟩
def Ak6:MFn:=AC [] 187
def Akl:Hnt:=⟨[],[],[(15,[.int .u32]),(16,[.int .u32])]⟩
def XA:MFn:=AC [⟨28,(mB 35),[],[],[(0,((mB 16),([],[]))),(1,([],([],[])))]⟩] 228
def TG:Hnt:=⟨[(186,(.int .i64,[])),(187,(.int .u64,[]))],[(0,[(0,([.int .i64],[])),(1,([],[]))])],[]⟩
def Xj:MFn:=AC [⟨36,(mB 227),[(5,1)],[],[(1,((mB 32),([],[])))]⟩] 129
def Tv:Hnt:=⟨[(149,(.ls,[])),(186,(.int .i64,[])),(187,(.int .u64,[]))],[(0,[(1,([.sl 1 1],[.del,.row Δ]))])],[]⟩
def Xq:MFn:=AC [⟨43,(mB 451),[(6,1)],[],[(1,((mB 64),([],[])))]⟩] 182
def TB:Hnt:=⟨[(149,(.ls,[])),(186,(.int .i64,[])),(187,(.int .u64,[])),(228,(.int .i64,[]))],[(0,[(1,([.sl 1 1],[.del,.row Δ]))])],[]⟩
def XB:MFn:=AC [⟨37,(mB 227),[(5,1)],[],[(1,((mB 96),([],[])))]⟩] 229
def TH:Hnt:=⟨[(149,(.ls,[])),(187,(.int .u64,[]))],[(0,[(1,([.sl 1 1,.int .u64],[.del,.row Δ]))])],[]⟩
def Qt:MFn:=AC [⟨42,(mB 99),[],[5],[(1,((mB 32),([],[])))]⟩,⟨42,(mB 483),[(7,1)],[],[(3,((mB 195),([],[])))]⟩] 183
def Ms:Hnt:=⟨[(129,(.ls,[])),(149,(.ls,[])),(229,(.ls,[]))],[(0,[(1,([.ls],[]))]),(1,[(3,([.ls,.ls,.int .i64,.sl 1 1],[.del,.row Δ]))])],[(27,[.int .u32]),(28,[.int .u32]),(35,[.int .u32]),(36,[.int .u32])]⟩
def Xz:MFn:=AC [⟨26,(mB 35),[],[],[(0,((mB 16),([],[]))),(1,([],([],[])))]⟩] 210
def Ok:Hnt:=⟨[],[(0,[(0,([.bool],[])),(1,([],[]))])],[(19,[.int .u32]),(20,[.int .u32]),(23,[.int .u32]),(24,[.int .u32])]⟩
def QO:List (Nat × MFn):=[(149,Qs),(186,Ak5),(187,Ak6),(228,XA),(129,Xj),(182,Xq),(229,XB),(183,Qt),(210,Xz)]
variable (A:Ar) (D:Orc)
theorem Ard(x0:Rw):BZ A D As Mr .n 149 Qs [Ψ x0] [] =
 Ae D (AtB 149 0) [Ψ x0,χ 0 0 0 1,iv 0] [δ [] Δ Δ] [.t,.C,.x,.X,.Y] λc l o=>
 br (Bn 1 c)
 (dk [.C,.q 1 1,.N,.D,.R,.X,.E] [.l l,.o o] λn cs1=>
 Ae D (AtB 149 1) [χ 0 0 n 1] [δ cs1 Δ Δ] [.t,.C,.x,.X,.Y] λc4 l4 o1=>
 br (Bn 3 c4)
 (dk [.C,.q 1 1,.N,.D,.R,.X,.E] [.l l4,.o o1] λn1 cs3=>
 br ((0+n1*1).ble cs3.length) (Θ ((Ψ (Bh n1 1 (ο (n1*1) cs3)),[]))) Ξ)
 (Ξ))
 (Ξ):=by kernel_rfl
theorem AaL(t0:Rw)(n3:Nat)(c3:List AV)(t4:Int):Dy A D As Mr .n 149 0 (AU Qs 0).fst (AU Qs 0).snd [Ψ t0,χ 0 0 n3 1,iv t4] [{ cells:=c3,st:=Δ,ex:=Δ }] =
 br (A.lt t4 ↑(AI t0))
 (unI t4 λi=>
 BC t0 i λcs=>
 dk [.J .u32,.N] [.l cs] λn=>
 br (Bf (n3+1) 4) (br ((0+n3*1).ble c3.length) (AG D (AtB 149 0) [Ψ t0,χ 0 0 (n3+1) 1,iv (A.add θ t4 1)] [δ (AtD 0 (ο (0+n3*1) c3)++[AtO (Value.int ζ n)]) Δ Δ] λr o=>
 AE 1 [2] (AH.mk [(2,δ (AtD 0 (ο (0+n3*1) c3)++[AtO (Value.int ζ n)]) Δ Δ),(1,δ [AtO (Value.int ζ n)] Δ Δ)] 3 Ξ) [0] r o) Ξ) Ξ)
 (Θ ((υ [iv 0,χ 1 0 n3 1],[BO.del,AtH (δ c3 Δ Δ)]))):=by kernel_rfl
theorem AaM(n3:Nat)(c3:List AV):Dy A D As Mr .n 149 1 (AU Qs 1).fst (AU Qs 1).snd [χ 0 0 n3 1] [{ cells:=c3,st:=Δ,ex:=Δ }] =
 br (A.lt 0 ↑n3)
 (unI (A.sub θ (↑n3) 1) λi=>
 br (i.blt n3) (EW c3 (0+i*1) 1 λcs=>
 dk [.J .u32,.N] [.l cs] λn=>
 br (A.eq n 0)
 (unI (A.sub θ (↑n3) 1) λi1=>
 br (Jf 0 i1 n3) (AG D (AtB 149 1) [χ 0 0 i1 1] [δ c3 Δ Δ] λr o=>
 AE 1 [0] (AH.mk [(0,δ c3 Δ Δ)] 1 Ξ) [] r o) Ξ)
 (Θ ((υ [iv 2,χ 1 0 n3 1],[BO.del,AtH (δ c3 Δ Δ)])))) Ξ)
 (Θ ((υ [iv 2,χ 1 0 n3 1],[BO.del,AtH (δ c3 Δ Δ)]))):=by kernel_rfl
theorem Aru(x0 x1:Rw):BZ A D As Akk .n 186 Ak5 [Ψ x0,Ψ x1] [] =
 br (A.lt ↑(AI x1) ↑(AI x0))
 (Θ ((iv ↑(AI x0),[])))
 (Θ ((iv ↑(AI x1),[]))):=by kernel_rfl
theorem Arv(x0:Rw)(x1:Int):BZ A D As Akl .n 187 Ak6 [Ψ x0,iv x1] [] =
 br (A.lt x1 0)
 (Θ ((AtO (Value.int Ω 0),[])))
 (br (A.le (↑(AI x0)) x1)
 (Θ ((AtO (Value.int Ω 0),[])))
 (unI x1 λi=>
 BC x0 i λcs=>
 dk [.J .u32,.N] [.l cs] λn=>
 Θ ((AtO (Value.int Ω (A.conv Ω n)),[])))):=by kernel_rfl
theorem ArG(x0 x1:Rw):BZ A D As TG .n 228 XA [Ψ x0,Ψ x1] [] =
 Ae D (ω 186) [Ψ x0,Ψ x1] [] [.i,.E] λn=>
 Ae D (AtB 228 0) [Ψ x0,Ψ x1,iv (A.sub θ n 1)] [] [.t,.C,.x,.X,.Y] λc l o1=>
 br (Bn 0 c)
 (dk [.I,.N,.E] [.l l,.o o1] λn1=>
 Θ ((iv n1,[])))
 (br (Bn 1 c)
 (Fv l<|
 DE o1<|
 Θ ((iv 0,[])))
 (Ξ)):=by kernel_rfl
theorem AaZ(t0 t1:Rw)(t5:Int):Dy A D As TG .n 228 0 (AU XA 0).fst (AU XA 0).snd [Ψ t0,Ψ t1,iv t5] [] =
 br (A.le 0 t5)
 (Ae D (ω 187) [Ψ t0,iv t5] [] [.j .u64,.E] λn=>
 Ae D (ω 187) [Ψ t1,iv t5] [] [.j .u64,.E] λn1=>
 br (A.lt n n1)
 (Θ ((υ [bv Δ,iv (-1)],[])))
 (Ae D (ω 187) [Ψ t0,iv t5] [] [.j .u64,.E] λn2=>
 Ae D (ω 187) [Ψ t1,iv t5] [] [.j .u64,.E] λn3=>
 br (A.lt n3 n2)
 (Θ ((υ [bv Δ,iv 1],[])))
 (AG D (AtB 228 0) [Ψ t0,Ψ t1,iv (A.sub θ t5 1)] [] λr4 o4=>
 AE 0 [] (AH.mk [] 0 Ξ) [] r4 o4)))
 (Θ ((υ [iv 0],[]))):=by kernel_rfl
theorem Aq1(x0 x1:Rw):BZ A D As Tv .n 129 Xj [Ψ x0,Ψ x1] [] =
 Ae D (AtB 129 0) [Ψ x0,Ψ x1,χ 0 0 0 1,AtO (Value.int Ω 0),iv 0] [δ [] Δ Δ] [.t,.C,.x,.X,.Y] λc l o=>
 br (Bn 1 c)
 (dk [.C,.q 1 1,.N,.D,.R,.X,.E] [.l l,.o o] λn cs1=>
 br ((0+n*1).ble cs1.length) (AG D (ω 149) [Ψ (Bh n 1 (ο (n*1) cs1))] [] λr1 o1=>
 Mg r1 λxs=>
 DE o1<|
 Θ ((Ψ xs,[]))) Ξ)
 (Ξ):=by kernel_rfl
theorem AaJ(t0 t1:Rw)(n5:Nat)(c5:List AV)(t6 t7:Int):Dy A D As Tv (.b (.b (.b .n (.b .n (.f .n))) .n) .n) 129 0 (AU Xj 0).fst (AU Xj 0).snd [Ψ t0,Ψ t1,χ 0 0 n5 1,AtO (Value.int Ω t6),iv t7] [{ cells:=c5,st:=Δ,ex:=Δ }] =
 Ae D (ω 186) [Ψ t0,Ψ t1] [] [.i,.E] λn=>
 br (A.le t7 n)
 (Ae D (ω 187) [Ψ t0,iv t7] [] [.j .u64,.E] λn1=>
 Ae D (ω 187) [Ψ t1,iv t7] [] [.j .u64,.E] λn2=>
 br (A.eq 4294967296 0)
 (Ξ)
 (br (Bf (n5+1) 4) (br ((0+n5*1).ble c5.length) (br (A.eq 4294967296 0) Ξ (AG D (AtB 129 0) [Ψ t0,Ψ t1,χ 0 0 (n5+1) 1,AtO (Value.int Ω (A.quo Ω (A.add Ω (A.add Ω n1 n2) t6) 4294967296)),iv (A.add θ t7 1)] [δ (AtD 0 (ο (0+n5*1) c5)++[AtO (Value.int ζ (A.conv ζ (A.rem Ω (A.add Ω (A.add Ω n1 n2) t6) 4294967296)))]) Δ Δ] λr3 o3=>
 AE 1 [2] (AH.mk [(2,δ (AtD 0 (ο (0+n5*1) c5)++[AtO (Value.int ζ (A.conv ζ (A.rem Ω (A.add Ω (A.add Ω n1 n2) t6) 4294967296)))]) Δ Δ),(1,δ [AtO (Value.int ζ (A.conv ζ (A.rem Ω (A.add Ω (A.add Ω n1 n2) t6) 4294967296)))] Δ Δ)] 3 Ξ) [0] r3 o3)) Ξ) Ξ))
 (Θ ((υ [iv 0,χ 1 0 n5 1],[BO.del,AtH (δ c5 Δ Δ)]))):=by kernel_rfl
theorem Arq(x0 x1:Rw):BZ A D As TB .n 182 Xq [Ψ x0,Ψ x1] [] =
 Ae D (ω 228) [Ψ x0,Ψ x1] [] [.i,.E] λn=>
 br (A.lt n 0)
 (Θ ((υ [Ψ [],bv Φ],[])))
 (Ae D (AtB 182 0) [Ψ x0,Ψ x1,χ 0 0 0 1,AtO (Value.int Ω 0),iv 0] [δ [] Δ Δ] [.t,.C,.x,.X,.Y] λc l o1=>
 br (Bn 1 c)
 (dk [.C,.q 1 1,.N,.D,.R,.X,.E] [.l l,.o o1] λn1 cs1=>
 br ((0+n1*1).ble cs1.length) (AG D (ω 149) [Ψ (Bh n1 1 (ο (n1*1) cs1))] [] λr2 o2=>
 Mg r2 λxs=>
 DE o2<|
 Θ ((υ [Ψ xs,bv Δ],[]))) Ξ)
 (Ξ)):=by kernel_rfl
theorem AaQ(t0 t1:Rw)(n6:Nat)(c6:List AV)(t7 t8:Int):Dy A D As TB (.b (.b (.b .n (.b .n (.f .n))) .n) .n) 182 0 (AU Xq 0).fst (AU Xq 0).snd [Ψ t0,Ψ t1,χ 0 0 n6 1,AtO (Value.int Ω t7),iv t8] [{ cells:=c6,st:=Δ,ex:=Δ }] =
 Ae D (ω 186) [Ψ t0,Ψ t1] [] [.i,.E] λn=>
 br (A.lt t8 n)
 (Ae D (ω 187) [Ψ t0,iv t8] [] [.j .u64,.E] λn1=>
 Ae D (ω 187) [Ψ t1,iv t8] [] [.j .u64,.E] λn2=>
 br (A.eq 4294967296 0)
 (Ξ)
 (br (Bf (n6+1) 4) (br ((0+n6*1).ble c6.length) (br (A.eq 4294967296 0) Ξ (AG D (AtB 182 0) [Ψ t0,Ψ t1,χ 0 0 (n6+1) 1,AtO (Value.int Ω (A.sub Ω 1 (A.quo Ω (A.sub Ω (A.sub Ω (A.add Ω n1 4294967296) n2) t7) 4294967296))),iv (A.add θ t8 1)] [δ (AtD 0 (ο (0+n6*1) c6)++[AtO (Value.int ζ (A.conv ζ (A.rem Ω (A.sub Ω (A.sub Ω (A.add Ω n1 4294967296) n2) t7) 4294967296)))]) Δ Δ] λr3 o3=>
 AE 1 [2] (AH.mk [(2,δ (AtD 0 (ο (0+n6*1) c6)++[AtO (Value.int ζ (A.conv ζ (A.rem Ω (A.sub Ω (A.sub Ω (A.add Ω n1 4294967296) n2) t7) 4294967296)))]) Δ Δ),(1,δ [AtO (Value.int ζ (A.conv ζ (A.rem Ω (A.sub Ω (A.sub Ω (A.add Ω n1 4294967296) n2) t7) 4294967296)))] Δ Δ)] 3 Ξ) [0] r3 o3)) Ξ) Ξ))
 (Θ ((υ [iv 0,χ 1 0 n6 1],[BO.del,AtH (δ c6 Δ Δ)]))):=by kernel_rfl
theorem ArH(x0:Rw)(x1:Int):BZ A D As TH .n 229 XB [Ψ x0,AtO (Value.int Ω x1)] [] =
 Ae D (AtB 229 0) [Ψ x0,AtO (Value.int Ω x1),χ 0 0 0 1,AtO (Value.int Ω 0),iv 0] [δ [] Δ Δ] [.t,.C,.x,.X,.Y] λc l o=>
 br (Bn 1 c)
 (dk [.C,.q 1 1,.J .u64,.N,.D,.R,.X,.E] [.l l,.o o] λn n1 cs1=>
 br (Bf (n+1) 4) (br ((0+n*1).ble cs1.length) (br ((0+(n+1)*1).ble (AtD 0 (ο (0+n*1) cs1)++[AtO (Value.int ζ (A.conv ζ n1))]).length) (AG D (ω 149) [Ψ (Bh (n+1) 1 (ο ((n+1)*1) (AtD 0 (AtD 0 (ο (0+n*1) cs1)++[AtO (Value.int ζ (A.conv ζ n1))]))))] [] λr1 o1=>
 Mg r1 λxs=>
 DE o1<|
 Θ ((Ψ xs,[]))) Ξ) Ξ) Ξ)
 (Ξ):=by kernel_rfl
theorem Aa0(t0:Rw)(t1:Int)(n5:Nat)(c5:List AV)(t6 t7:Int):Dy A D As TH (.b (.b (.b .n (.b .n (.f .n))) .n) .n) 229 0 (AU XB 0).fst (AU XB 0).snd [Ψ t0,AtO (Value.int Ω t1),χ 0 0 n5 1,AtO (Value.int Ω t6),iv t7] [{ cells:=c5,st:=Δ,ex:=Δ }] =
 br (A.lt t7 ↑(AI t0))
 (Ae D (ω 187) [Ψ t0,iv t7] [] [.j .u64,.E] λn=>
 br (A.eq 4294967296 0)
 (Ξ)
 (br (Bf (n5+1) 4) (br ((0+n5*1).ble c5.length) (br (A.eq 4294967296 0) Ξ (AG D (AtB 229 0) [Ψ t0,AtO (Value.int Ω t1),χ 0 0 (n5+1) 1,AtO (Value.int Ω (A.quo Ω (A.add Ω (A.mul Ω n t1) t6) 4294967296)),iv (A.add θ t7 1)] [δ (AtD 0 (ο (0+n5*1) c5)++[AtO (Value.int ζ (A.conv ζ (A.rem Ω (A.add Ω (A.mul Ω n t1) t6) 4294967296)))]) Δ Δ] λr1 o1=>
 AE 1 [2] (AH.mk [(2,δ (AtD 0 (ο (0+n5*1) c5)++[AtO (Value.int ζ (A.conv ζ (A.rem Ω (A.add Ω (A.mul Ω n t1) t6) 4294967296)))]) Δ Δ),(1,δ [AtO (Value.int ζ (A.conv ζ (A.rem Ω (A.add Ω (A.mul Ω n t1) t6) 4294967296)))] Δ Δ)] 3 Ξ) [0] r1 o1)) Ξ) Ξ))
 (Θ ((υ [iv 0,χ 1 0 n5 1,AtO (Value.int Ω t6)],[BO.del,AtH (δ c5 Δ Δ)]))):=by kernel_rfl
theorem Arr(x0 x1:Rw):BZ A D As Ms .n 183 Qt [Ψ x0,Ψ x1] [] =
 Ae D (AtB 183 0) [Ψ x0,Ψ x1,Ψ [],iv (A.sub θ (↑(AI x1)) 1)] [] [.t,.C,.x,.X,.Y] λc l o=>
 br (Bn 1 c)
 (dk [.L,.N,.E] [.l l,.o o] λxs=>
 Ae D (ω 149) [Ψ xs] [] [.l,.E] λxs1=>
 Θ ((Ψ xs1,[])))
 (Ξ):=by kernel_rfl
theorem AaR(t0 t1 t5:Rw)(t6:Int):Dy A D As Ms .n 183 0 (AU Qt 0).fst (AU Qt 0).snd [Ψ t0,Ψ t1,Ψ t5,iv t6] [] =
 br (A.le 0 t6)
 (Ae D (AtB 183 1) [Ψ t0,Ψ t1,Ψ t5,iv t6,χ 0 0 1 1,iv 0] [δ [AtO (Value.int ζ 0)] Δ Δ] [.t,.C,.x,.X,.Y] λc l o=>
 br (Bn 3 c)
 (dk [.L,.L,.I,.C,.q 1 1,.N,.D,.R,.X,.E] [.l l,.o o] λxs xs1 n n1 cs1=>
 unI n λi=>
 BC xs1 i λcs2=>
 dk [.J .u32,.N] [.l cs2] λn2=>
 Ae D (ω 229) [Ψ xs,AtO (Value.int Ω (A.conv Ω n2))] [] [.l,.E] λxs2=>
 br ((0+n1*1).ble cs1.length) (AG D (ω 129) [Ψ (Bh n1 1 (ο (n1*1) cs1)),Ψ xs2] [] λr2 o2=>
 Mg r2 λxs3=>
 DE o2<|
 AG D (AtB 183 0) [Ψ xs,Ψ xs1,Ψ xs3,iv (A.sub θ n 1)] [] λr3 o3=>
 AE 0 [] (AH.mk [(1,δ cs1 Φ Δ)] 2 Ξ) [] r3 o3) Ξ)
 (Ξ))
 (Θ ((υ [iv 0,Ψ t5],[]))):=by kernel_rfl
theorem AaS(t0 t1 t5:Rw)(t6:Int)(n7:Nat)(c7:List AV)(t8:Int):Dy A D As Ms .n 183 1 (AU Qt 1).fst (AU Qt 1).snd [Ψ t0,Ψ t1,Ψ t5,iv t6,χ 0 0 n7 1,iv t8] [{ cells:=c7,st:=Δ,ex:=Δ }] =
 br (A.lt t8 ↑(AI t5))
 (unI t8 λi=>
 BC t5 i λcs=>
 dk [.J .u32,.N] [.l cs] λn=>
 br (Bf (n7+1) 4) (br ((0+n7*1).ble c7.length) (AG D (AtB 183 1) [Ψ t0,Ψ t1,Ψ t5,iv t6,χ 0 0 (n7+1) 1,iv (A.add θ t8 1)] [δ (AtD 0 (ο (0+n7*1) c7)++[AtO (Value.int ζ n)]) Δ Δ] λr o=>
 AE 1 [2] (AH.mk [(2,δ (AtD 0 (ο (0+n7*1) c7)++[AtO (Value.int ζ n)]) Δ Δ),(1,δ [AtO (Value.int ζ n)] Δ Δ)] 3 Ξ) [0] r o) Ξ) Ξ)
 (Θ ((υ [iv 2,Ψ t0,Ψ t1,iv t6,χ 1 0 n7 1],[BO.del,AtH (δ c7 Δ Δ)]))):=by kernel_rfl
theorem ArE(x0 x1:Rw):BZ A D As Ok .n 210 Xz [Ψ x0,Ψ x1] [] =
 br (A.eq ↑(AI x0) ↑(AI x1))
 (Ae D (AtB 210 0) [Ψ x0,Ψ x1,iv 0] [] [.t,.C,.x,.X,.Y] λc l o=>
 br (Bn 0 c)
 (dk [.B,.N,.E] [.l l,.o o] λb=>
 Θ ((bv b,[])))
 (br (Bn 1 c)
 (Fv l<|
 DE o<|
 Θ ((bv Δ,[])))
 (Ξ)))
 (Θ ((bv Φ,[]))):=by kernel_rfl
theorem Rt(t0 t1:Rw)(t5:Int):Dy A D As Ok .n 210 0 (AU Xz 0).fst (AU Xz 0).snd [Ψ t0,Ψ t1,iv t5] [] =
 br (A.lt t5 ↑(AI t0))
 (unI t5 λi=>
 BC t0 i λcs=>
 dk [.J .u32,.N] [.l cs] λn=>
 unI t5 λi1=>
 BC t1 i1 λcs1=>
 dk [.J .u32,.N] [.l cs1] λn1=>
 br (A.eq n n1)
 (AG D (AtB 210 0) [Ψ t0,Ψ t1,iv (A.add θ t5 1)] [] λr o=>
 AE 0 [] (AH.mk [] 0 Ξ) [] r o)
 (Θ ((υ [bv Δ,bv Φ],[]))))
 (Θ ((υ [iv 0],[]))):=by kernel_rfl
end
open Go.RowKit
theorem R5(x:Nat)(h:x<18446744073709551616):Af.quo .u64 (x:Int) 4294967296=((x / 4294967296:Nat):Int):=by
 show IntKind.u64.wrap ((x:Int).tdiv 4294967296)=_
 have:(x:Int).tdiv 4294967296=((x / 4294967296:Nat):Int):=rfl;rw[this,IntKind.wrap_u64];omega
theorem R6(x:Nat):Af.rem .u64 (x:Int) 4294967296=((x % 4294967296:Nat):Int):=by
 show (x:Int).tmod 4294967296=_
 rfl
theorem ZO(l:List Nat)(n:Nat):(Ag eL l).take n=Ag eL (l.take n):=by rw[Ed,Ed,List.map_take]
theorem Vb(l:List Nat)(n:Nat)(h:n<=l.length):Bh n 1 ((Ag eL l).take (n*1))=(l.take n).map eL:=by
 rw[Nat.mul_one,ZO];have:=CG AB (l.take n)
 rwa [AtV,Auy h]at this
theorem Lu(l:List Nat)(i:Nat):(l.drop i).headD 0=l.getD i 0:=by
 rw[Avc]
 by_cases h:i<l.length
 .rw[ε h,ξ h];rfl
 .rw[AtM (by omega),AuG (by omega)];rfl
theorem Na{l:List Nat}(h:Limbs l)(i:Nat):l.getD i 0<4294967296:=by
 rw[←Lu];exact D5 (h.drop i)
def Ei(n:Nat)(l:List Nat):List Nat:=l++AuQ (n-l.length) 0
theorem Ajg(n:Nat):Ad (AuQ n 0)=0:=by
 induction n with
 |zero=>rfl
 |succ n ih=>rw[List.replicate_succ,Ad,ih]
theorem GJ(n:Nat)(l:List Nat):Ad (Ei n l)=Ad l:=by
 unfold Ei;rw[BG,Ajg];omega
theorem D9{n:Nat}{l:List Nat}(h:l.length<=n):(Ei n l).length=n:=by
 unfold Ei;rw[κ,List.length_replicate];omega
theorem Ex{n:Nat}{l:List Nat}(h:Limbs l):Limbs (Ei n l):=CJ h λx hx=>by
 rw[(List.mem_replicate.1 hx).2];omega
theorem KJ{n i:Nat}{l:List Nat}(h:l.length<=n)(hi:i<n):(Ei n l)[i]'(by rw[D9 h];exact hi)=l.getD i 0:=by
 rw[Avc];unfold Ei
 by_cases h2:i<l.length
 .rw[List.getElem_append_left h2,ξ h2];rfl
 .rw[List.getElem_append_right (by omega),List.getElem_replicate,AuG (by omega)];rfl
section
variable {D:Orc} (K:Knows As QO D)
include K
theorem Ac3(l:List Nat)(hl:BX l):∀(k i:Nat) (out:List Nat),l.length-i=k->out.length+k<=2000000000->D.ask (.lp 149 0) [eN l,.sl 0 0 out.length 1,iv (i:Int)] [δ (Ag eL out) Δ Δ]
  = Θ (.tup [iv 0,.sl 1 0 (out++l.drop i).length 1],[.del,.set (δ (Ag eL (out++l.drop i)) Δ Δ)]):=by
 intro k;unfold BX at hl
 induction k with
 |zero=>
  intro i out hi ho;refine Ay K Mr (AaL ..) ?_;rw[Ao,show l.drop i=[] from AtM (by omega),Auu];refine Ai ?_;rfl
 |succ k ih=>
  intro i out hi ho;have hlt:i<l.length:=by omega
  have ih':=ih (i+1) (out++[l[i]]) (by omega) (by simp;omega);rw[AtK,κ,AtT]at ih';refine Ay K Mr (AaL ..) ?_;rw[Ao,ε hlt];refine Al ?_;rw[Au,Ax (ξ hlt)];have hf:Bf (out.length+1) 4=Δ:=AJ (by omega) (by omega);have hb1:AtG (0+out.length*1) (Ag eL out).length=Δ:=AL AB out (by omega);have e3:∀ s:Nat,AtD 0 (ο (0+out.length*1) (Ag eL out))++[.v (.int .u32 (s:Int))]=Ag eL (out++[s]):=λs=>by
   rw[Aty,Bc AB out (by omega)];exact Bg eL out s
  simp only[eL,FW,ND,DK,Ab];rw[BQ (by omega),hf,hb1,e3];refine Ac ?_;refine Ac ?_;refine Aa ih' ?_;rfl
theorem Ac4(l:List Nat)(hl:BX l):∀(n:Nat),n<=l.length->CE l<=n->D.ask (.lp 149 1) [.sl 0 0 n 1] [δ (Ag eL l) Δ Δ]=Θ (.tup [iv 2,.sl 1 0 (CE l) 1],[.del,.set (δ (Ag eL l) Δ Δ)]):=by
 intro n;unfold BX at hl
 induction n with
 |zero=>
  intro _ ht;refine Ay K Mr (AaM ..) ?_;refine Ai ?_;rw[show CE l=0 by omega]
 |succ n ih=>
  intro hn ht;refine Ay K Mr (AaM ..) ?_;refine Al ?_;rw[show Af.sub .i64 ((n+1:Nat):Int) 1=(n:Int) from (Pg (i:=n+1) (j:=1) (by omega) (by omega)).trans (by simp)];rw[Au,By (Nat.lt_succ_self n)];refine Ac ?_;refine(Iq l n (by omega) _).trans ?_;simp only[FW,ND,DK,Ab]
  by_cases h0:l[n]=0
  .refine AO ?_ (by rw[h0];rfl)
   rw[Au,show Jf 0 n (n+1)=Δ by unfold Jf;rw[show AtG 0 n=Δ by simp];simp];refine Ac ?_;refine Aa (ih (by omega) (Mc ht (by rw[ξ (show n<l.length by omega),h0]))) ?_;rfl
  .refine Aq ?_
   have:=Nq (ξ (show n<l.length by omega)) h0;rw[show CE l=n+1 by omega]
theorem Gw{l:List Nat}(hl:BX l)(h:Limbs l):D.ask (.fn 149) [eN l] []=Θ (eN (Ah (Ad l)),[]):=by
 have hs:=hl;unfold BX at hs;refine Aw K Mr (Ard ..) ?_;have g:=Ac3 K l hl l.length 0 [] rfl (by simp;omega);rw[AtZ,Aty]at g;refine Aa g ?_;simp only[ND,DK,Ab];refine Aa (Ac4 K l hl l.length (η _) (Cx l)) ?_;simp only[ND,DK,Ab];have ht:=Cx l;rw[show AtG (0+CE l*1) (Ag eL l).length=Δ by rw[AT AB];simp;omega];refine Ac ?_;rw[Vb l _ ht,IA h];rfl
theorem Gq(a b:List Nat):D.ask (.fn 186) [eN a,eN b] []=Θ (iv ((max a.length b.length:Nat):Int),[]):=by
 refine Aw K Akk (Aru ..) ?_;rw[Ao,Ao]
 by_cases h:b.length<a.length
 .refine Al ?_
  rw[show max a.length b.length=a.length by omega]
 .refine Ai ?_
  rw[show max a.length b.length=b.length by omega]
theorem G2{a:List Nat}(ha:Limbs a)(i:Nat):D.ask (.fn 187) [eN a,iv (i:Int)] []=Θ (.v (.int .u64 (a.getD i 0:Int)),[]):=by
 refine Aw K Akl (Arv ..) ?_;rw[Ao,Avc];refine Ai ?_
 by_cases h:i<a.length
 .refine Cn ?_
  have hx:=ha.get h;rw[Au,Ax (ξ h),ξ h];simp only[eL,FW,ND,DK,Ab];rw[Bi (by omega)];rfl
 .refine BV ?_
  rw[AuG (by omega)];rfl
theorem AiE{a b:List Nat}(ha:Limbs a)(hb:Limbs b)(m:Nat)(hma:a.length<=m)(hmb:b.length<=m)(hm:m<=1000000000):∀(n:Nat),n<=m->D.ask (.lp 228 0) [eN a,eN b,iv ((n:Int)-1)] []
  = Θ (if CM (Ad ((Ei m a).take n)) (Ad ((Ei m b).take n))=0 then .tup [iv 0] else .tup [bv Δ,iv (CM (Ad ((Ei m a).take n)) (Ad ((Ei m b).take n)))],[]):=by
 intro n
 induction n with
 |zero=>
  intro _;refine Ay K TG (AaZ ..) ?_;refine Cn ?_;rfl
 |succ n ih=>
  intro hn;refine Ay K TG (AaZ ..) ?_;rw[show (((n+1:Nat):Int)-1)=(n:Int) by omega];refine BV ?_;have h1:n<(Ei m a).length:=by rw[D9 hma];omega
  have h2:n<(Ei m b).length:=by rw[D9 hmb];omega
  have e1:(Ei m a).take (n+1)=(Ei m a).take n++[a.getD n 0]:=by rw[Auh h1,KJ hma (by omega)]
  have e2:(Ei m b).take (n+1)=(Ei m b).take n++[b.getD n 0]:=by rw[Auh h2,KJ hmb (by omega)]
  rw[e1,e2,NU ((Ex ha).take n) ((Ex hb).take n) (by simp;omega)];refine Aa (G2 K ha n) ?_;simp only[PP,ND,DK,Ab];refine Aa (G2 K hb n) ?_;simp only[PP,ND,DK,Ab]
  by_cases h3:a.getD n 0<b.getD n 0
  .refine Al ?_
   rw[if_pos h3];rfl
  .refine Ai ?_
   rw[if_neg h3];refine Aa (G2 K ha n) ?_;simp only[PP,ND,DK,Ab];refine Aa (G2 K hb n) ?_;simp only[PP,ND,DK,Ab]
   by_cases h4:b.getD n 0<a.getD n 0
   .refine Al ?_
    rw[if_pos h4];rfl
   .refine Ai ?_
    rw[if_neg h4];rw[show Af.sub .i64 (n:Int) 1=(n:Int)-1 from DW (by omega) (by omega)];refine Aa (ih (by omega)) ?_
    by_cases h5:CM (Ad ((Ei m a).take n)) (Ad ((Ei m b).take n))=0
    .rw[if_pos h5];rfl
    .rw[if_neg h5];rfl
theorem AiF{a b:List Nat}(hsa:BX a)(ha:Limbs a)(hsb:BX b)(hb:Limbs b):D.ask (.fn 228) [eN a,eN b] []=Θ (iv (CM (Ad a) (Ad b)),[]):=by
 unfold BX at hsa hsb;refine Aw K TG (ArG ..) ?_;refine Aa (Gq K a b) ?_;simp only[ND,DK,Ab];rw[show Af.sub .i64 ((max a.length b.length:Nat):Int) 1=((max a.length b.length:Nat):Int)-1 from DW (by omega) (by omega)];have g:=AiE K ha hb (max a.length b.length) (by omega) (by omega) (by omega) (max a.length b.length) (η _);rw[AuD (by rw[D9 (by omega)];omega),AuD (by rw[D9 (by omega)];omega),GJ,GJ]at g;refine Aa g ?_
 by_cases h5:CM (Ad a) (Ad b)=0
 .rw[if_pos h5,h5];rfl
 .rw[if_neg h5];rfl
theorem AiD{a b:List Nat}(ha:Limbs a)(hb:Limbs b)(hm:max a.length b.length<=1000000000):∀(k i:Nat) (out:List Nat) (c:Nat),max a.length b.length+1-i=k->c<=1->out.length+k<=2000000000->
  D.ask (.lp 129 0) [eN a,eN b,.sl 0 0 out.length 1,.v (.int .u64 (c:Int)),iv (i:Int)] [δ (Ag eL out) Δ Δ]
   = Θ (.tup [iv 0,.sl 1 0 (out++MV k c (a.drop i) (b.drop i)).length 1],[.del,.set (δ (Ag eL (out++MV k c (a.drop i) (b.drop i))) Δ Δ)]):=by
 intro k
 induction k with
 |zero=>
  intro i out c hi hc ho;refine Ay K Tv (AaJ ..) ?_;refine Aa (Gq K a b) ?_;simp only[ND,DK,Ab];refine Cn ?_;rw[MV,Auu]
 |succ k ih=>
  intro i out c hi hc ho;have h1:=Na ha i;have h2:=Na hb i;have ih':=ih (i+1) (out++[(a.getD i 0+b.getD i 0+c) % 4294967296]) ((a.getD i 0+b.getD i 0+c) / 4294967296) (by omega) (by omega) (by simp;omega);rw[AtK,κ,AtT]at ih';refine Ay K Tv (AaJ ..) ?_;refine Aa (Gq K a b) ?_;simp only[ND,DK,Ab];refine BV ?_;refine Aa (G2 K ha i) ?_;simp only[PP,ND,DK,Ab];refine Aa (G2 K hb i) ?_;simp only[PP,ND,DK,Ab];refine Aq ?_ (by decide);have hf:Bf (out.length+1) 4=Δ:=AJ (by omega) (by omega);have hb1:AtG (0+out.length*1) (Ag eL out).length=Δ:=AL AB out (by omega);have e3:∀ s:Nat,AtD 0 (ο (0+out.length*1) (Ag eL out))++[.v (.int .u32 (s:Int))]=Ag eL (out++[s]):=λs=>by
   rw[Aty,Bc AB out (by omega)];exact Bg eL out s
  rw[B3 (by omega),B3 (by omega),R6,R5 _ (by omega),Bt (Auo _ (by omega)),BQ (by omega),hf,hb1,e3];refine Ac ?_;refine Ac ?_;refine Aq ?_ (by decide);refine Aa ih' ?_;rw[MV,Lu,Lu,Avv,Avv];rfl
theorem Nk{a b:List Nat}(hsa:a.length<=999999999)(ha:Limbs a)(hsb:b.length<=999999999)(hb:Limbs b):D.ask (.fn 129) [eN a,eN b] []=Θ (eN (Ah (Ad a+Ad b)),[]):=by
 refine Aw K Tv (Aq1 ..) ?_;have g:=AiD K ha hb (by omega) (max a.length b.length+1) 0 [] 0 rfl (by omega) (by simp;omega);rw[AtZ,Aty,Aty]at g;refine Aa g ?_;simp only[ND,DK,Ab];rw[AL AB _ (by omega)];refine Ac ?_;rw[Bp AB _ rfl];have hlen:∀(k c:Nat) (a b:List Nat),(MV k c a b).length=k:=λk=>by
  induction k with
  |zero=>intro c a b;rfl
  |succ k ih=>intro c a b;rw[MV,γ,ih]
 have gt:=Gw K (l:=MV (max a.length b.length+1) 0 a b) (by unfold BX;rw[hlen];omega) (Nv _ _ _ _);rw[QW]at gt;have h1:=BM ha;have h2:=BM hb;have p1:4294967296 ^ a.length<=4294967296 ^ (max a.length b.length):=Au9 (by omega) (by omega);have p2:4294967296 ^ b.length<=4294967296 ^ (max a.length b.length):=Au9 (by omega) (by omega);rw[Nat.mod_eq_of_lt (by rw[AuM];omega),AtQ]at gt;refine Aa gt ?_;rfl
theorem AiH{a b:List Nat}(ha:Limbs a)(hb:Limbs b)(m:Nat)(hma:max a.length b.length=m)(hm:m<=1000000000):∀(k i:Nat) (out:List Nat) (c:Nat),m-i=k->c<=1->out.length+k<=2000000000->
  D.ask (.lp 182 0) [eN a,eN b,.sl 0 0 out.length 1,.v (.int .u64 (c:Int)),iv (i:Int)] [δ (Ag eL out) Δ Δ]
   = Θ (.tup [iv 0,.sl 1 0 (out++G8 c ((Ei m a).drop i) ((Ei m b).drop i)).length 1],[.del,.set (δ (Ag eL (out++G8 c ((Ei m a).drop i) ((Ei m b).drop i))) Δ Δ)]):=by
 intro k;have la:=D9 (n:=m) (l:=a) (by omega);have lb:=D9 (n:=m) (l:=b) (by omega)
 induction k with
 |zero=>
  intro i out c hi hc ho;refine Ay K TB (AaQ ..) ?_;refine Aa (Gq K a b) ?_;simp only[ND,DK,Ab];refine Ai ?_;rw[show (Ei m a).drop i=[] from AtM (by omega),G8,Auu]
 |succ k ih=>
  intro i out c hi hc ho;have h1:=Na ha i;have h2:=Na hb i;have ia:i<(Ei m a).length:=by omega
  have ib:i<(Ei m b).length:=by omega
  rw[ε ia,KJ (by omega) (by omega),ε ib,KJ (by omega) (by omega),G8,List.headD_cons,List.tail_cons];refine Ay K TB (AaQ ..) ?_;refine Aa (Gq K a b) ?_;simp only[ND,DK,Ab];refine Al ?_;refine Aa (G2 K ha i) ?_;simp only[PP,ND,DK,Ab];refine Aa (G2 K hb i) ?_;simp only[PP,ND,DK,Ab];refine Aq ?_ (by decide);have hf:Bf (out.length+1) 4=Δ:=AJ (by omega) (by omega);have hb1:AtG (0+out.length*1) (Ag eL out).length=Δ:=AL AB out (by omega);have e3:∀ s:Nat,AtD 0 (ο (0+out.length*1) (Ag eL out))++[.v (.int .u32 (s:Int))]=Ag eL (out++[s]):=λs=>by
   rw[Aty,Bc AB out (by omega)];exact Bg eL out s
  rw[show (4294967296:Int)=((4294967296:Nat):Int) from rfl,B3 (by omega),Eb (by omega) (by omega),Eb (by omega) (by omega)];rw[show ((4294967296:Nat):Int)=(4294967296:Int) from rfl,R6,R5 _ (by omega),Bt (Auo _ (by omega)),BQ (by omega),show (1:Int)=((1:Nat):Int) from rfl,Eb (by omega) (by omega),hf,hb1,e3];refine Ac ?_;refine Ac ?_;refine Aq ?_ (by decide)
  by_cases hlt:a.getD i 0<b.getD i 0+c
  .rw[if_pos hlt,if_pos hlt]
   have ih':=ih (i+1) (out++[a.getD i 0+4294967296-(b.getD i 0+c)]) 1 (by omega) (by omega) (by simp;omega);rw[AtK,κ,AtT]at ih';rw[show (a.getD i 0+4294967296-b.getD i 0-c) % 4294967296=a.getD i 0+4294967296-(b.getD i 0+c) by omega,show 1-(a.getD i 0+4294967296-b.getD i 0-c) / 4294967296=1 by omega];refine Aa ih' ?_;rfl
  .rw[if_neg hlt,if_neg hlt]
   have ih':=ih (i+1) (out++[a.getD i 0-(b.getD i 0+c)]) 0 (by omega) (by omega) (by simp;omega);rw[AtK,κ,AtT]at ih';rw[show (a.getD i 0+4294967296-b.getD i 0-c) % 4294967296=a.getD i 0-(b.getD i 0+c) by omega,show 1-(a.getD i 0+4294967296-b.getD i 0-c) / 4294967296=0 by omega];refine Aa ih' ?_;rfl
theorem XP{a b:List Nat}(hsa:BX a)(ha:Limbs a)(hsb:BX b)(hb:Limbs b):D.ask (.fn 182) [eN a,eN b] []=Θ (NZ (Ad a) (Ad b),[]):=by
 have s1:=hsa;have s2:=hsb;unfold BX at s1 s2;refine Aw K TB (Arq ..) ?_;refine Aa (AiF K hsa ha hsb hb) ?_;simp only[ND,DK,Ab];unfold NZ
 by_cases h1:Ad a<Ad b
 .rw[show CM (Ad a) (Ad b)=-1 by unfold CM;rw[if_pos h1]]
  refine Al ?_ (by decide);rw[if_neg (by omega)];rfl
 .refine Ai ?_ (by unfold CM;rw[if_neg h1];split<;>omega)
  rw[if_pos (by omega)];have la:=D9 (n:=max a.length b.length) (l:=a) (by omega);have lb:=D9 (n:=max a.length b.length) (l:=b) (by omega);have g:=AiH K ha hb (max a.length b.length) rfl (by omega) (max a.length b.length) 0 [] 0 (by omega) (by omega) (by simp;omega);rw[AtZ,Aty,Aty]at g;refine Aa g ?_;simp only[ND,DK,Ab];rw[AL AB _ (by omega)];refine Ac ?_;rw[Bp AB _ rfl];have gt:=Gw K (l:=G8 0 (Ei (max a.length b.length) a) (Ei (max a.length b.length) b)) (by unfold BX;rw[K5];omega) (G9 _ _ _ (Ex ha) (Ex hb) (by omega));rw[US (Ex ha) (Ex hb) (by omega) (by rw[GJ,GJ];omega),GJ,GJ]at gt;refine Aa gt ?_;rfl
theorem Zo{a:List Nat}(ha:Limbs a)(hs:BX a)(m:Nat)(hm:m<4294967296):∀(k i:Nat) (out:List Nat) (c:Nat),a.length-i=k->i<=a.length->c<4294967296->out.length+k<=2000000000->
  ∃(o:List Nat) (c':Nat),D.ask (.lp 229 0) [eN a,.v (.int .u64 (m:Int)),.sl 0 0 out.length 1,.v (.int .u64 (c:Int)),iv (i:Int)] [δ (Ag eL out) Δ Δ]
   = Θ (.tup [iv 0,.sl 1 0 o.length 1,.v (.int .u64 (c':Int))],[.del,.set (δ (Ag eL o) Δ Δ)])/\c'<4294967296/\o++[c']=out++DN m c (a.drop i):=by
 intro k;unfold BX at hs
 induction k with
 |zero=>
  intro i out c hi hle hc ho;refine⟨out,c,?_,hc,?_⟩
  .refine Ay K TH (Aa0 ..) ?_
   rw[Ao];refine Ai ?_;rfl
  .rw[show a.drop i=[] from AtM (by omega)]
   rfl
 |succ k ih=>
  intro i out c hi hle hc ho;have hlt:i<a.length:=by omega
  have hx:=ha.get hlt;have hp:=JM hx hm;have hg:a.getD i 0=a[i]:=by rw[Avc,ξ hlt];rfl
  obtain⟨o,c',h1,h2,h3⟩:=ih (i+1) (out++[(a[i]*m+c) % 4294967296]) ((a[i]*m+c) / 4294967296) (by omega) (by omega) (by omega) (by simp;omega);refine⟨o,c',?_,h2,?_⟩
  .refine Ay K TH (Aa0 ..) ?_
   rw[Ao];refine Al ?_;refine Aa (G2 K ha i) ?_;simp only[PP,ND,DK,Ab,hg];refine Aq ?_ (by decide);have hf:Bf (out.length+1) 4=Δ:=AJ (by omega) (by omega);have hb1:AtG (0+out.length*1) (Ag eL out).length=Δ:=AL AB out (by omega);have e3:∀ s:Nat,AtD 0 (ο (0+out.length*1) (Ag eL out))++[.v (.int .u32 (s:Int))]=Ag eL (out++[s]):=λs=>by
    rw[Aty,Bc AB out (by omega)];exact Bg eL out s
   rw[κ,AtT]at h1;rw[KO (by omega),B3 (by omega),R6,R5 _ (by omega),Bt (Auo _ (by omega)),BQ (by omega),hf,hb1,e3];refine Ac ?_;refine Ac ?_;refine Aq ?_ (by decide);refine Aa h1 ?_;rfl
  .rw[h3,ε hlt,DN,AtK]
   rfl
omit K in
theorem JX:∀(m c:Nat) (a:List Nat),(DN m c a).length=a.length+1
 |_,_,[]=>rfl
 |m,c,x::a=>by rw[DN,γ,JX,γ]
theorem Zp{a:List Nat}(ha:Limbs a)(hs:a.length<=999999999)(m:Nat)(hm:m<4294967296):D.ask (.fn 229) [eN a,.v (.int .u64 (m:Int))] []=Θ (eN (Ah (Ad a*m)),[]):=by
 obtain⟨o,c',g,hc,ho⟩:=Zo K ha (by unfold BX;omega) m hm a.length 0 [] 0 (by omega) (by omega) (by omega) (by simp;omega);rw[AtZ,Aty]at ho;have hol:o.length=a.length:=by
  have:=congrArg List.length ho;rw[κ,JX]at this;simpa using this
 refine Aw K TH (ArH ..) ?_;refine Aa g ?_;simp only[FW,ND,DK,Ab];rw[Bt hc];have e3:AtD 0 (ο (0+o.length*1) (Ag eL o))++[.v (.int .u32 (c':Int))]=Ag eL (o++[c']):=by
  rw[Aty,Bc AB o (by omega)];exact Bg eL o c'
 rw[AJ (n:=o.length+1) (b:=4) (by omega) (by omega),AL AB o (by omega),e3,AL AB (o++[c']) (by simp)];refine Ac ?_;refine Ac ?_;refine Ac ?_;rw[Aty,Bc AB (o++[c']) (by simp),show Bh (o.length+1) 1 (Ag eL (o++[c']))=(o++[c']).map eL from by have:=CG AB (o++[c']);rwa [κ]at this];rw[ho];have gt:=Gw K (l:=DN m 0 a) (by unfold BX;rw[JX];omega) (G6 _ _ _ hm ha (by omega));rw[IB,Nat.add_zero]at gt;refine Aa gt ?_;rfl
end
theorem EU{a b:List Nat}(ha:Limbs a)(hb:Limbs b):(Ah (Ad a*Ad b)).length<=a.length+b.length:=by
 refine Bx ?_;rw[Nat.pow_add];exact Nat.mul_lt_mul'' (BM ha) (BM hb)
theorem Acl(va x vd:Nat):0+4294967296*(va*vd)+va*x=va*(x+4294967296*vd):=by
 rw[Nat.mul_add,Nat.mul_left_comm va];omega
theorem Adk{d:Nat}(h:d<4294967296):Limbs [d]:=Bb h BH
section
variable {D:Orc} (K:Knows As QO D)
include K
theorem AiN(A B:AV)(t:Int){xs ys:List (List AV)}(hA:A=.ls xs)(hB:B=.ls ys){out:List Nat}(hs:out.length<=999999999):∀(k i:Nat) (up:List Nat),out.length-i=k->i<=out.length->up=0::out.take i->
  D.ask (.lp 183 1) [A,B,eN out,iv t,.sl 0 0 (i+1) 1,iv (i:Int)] [δ (Ag eL up) Δ Δ]=Θ (.tup [iv 2,A,B,iv t,.sl 1 0 (out.length+1) 1],[.del,.set (δ (Ag eL (0::out)) Δ Δ)]):=by
 subst hA hB;intro k
 induction k with
 |zero=>
  intro i up hk hi hu;obtain rfl:i=out.length:=by omega
  rw[List.take_length]at hu;subst hu;refine Ay K Ms (AaS ..) ?_;rw[Ao];exact Ai rfl
 |succ k ih=>
  intro i up hk hi hu;have hlt:i<out.length:=by omega
  have hl:up.length=i+1:=by rw[hu,γ,AtV,Auy hi]
  have ih':=ih (i+1) (up++[out[i]]) (by omega) (by omega) (by rw[hu,Auh hlt];rfl);have e3:AtD 0 (ο (0+(i+1)*1) (Ag eL up))++[.v (.int .u32 (out[i]:Int))]=Ag eL (up++[out[i]]):=by
   rw[Aty,Bc AB up (by omega)];exact Bg eL up out[i]
  refine Ay K Ms (AaS ..) ?_;rw[Ao];refine Al ?_;rw[Au,Ax (ξ hlt)];simp only[eL,FW,ND,DK,Ab];rw[BQ (by omega),AJ (n:=i+1+1) (b:=4) (by omega) (by omega),AL AB up (by omega),e3];refine Ac ?_;refine Ac ?_;refine Aa ih' ?_;rfl
theorem AiO{a b:List Nat}(ha:Limbs a)(hb:Limbs b)(hs:a.length+b.length<=900000000):∀ i:Nat,i<=b.length->D.ask (.lp 183 0) [eN a,eN b,eN (Ah (Ad a*Ad (b.drop i))),iv ((i:Int)-1)] []=Θ (.tup [iv 0,eN (Ah (Ad a*Ad b))],[]):=by
 intro i
 induction i with
 |zero=>
  intro _;refine Ay K Ms (AaR ..) ?_;refine Cn ?_;rw[Aty];rfl
 |succ i ih=>
  intro hi;have hlt:i<b.length:=by omega
  have hx:=hb.get hlt;have ln:∀ j:Nat,(Ah (Ad a*Ad (b.drop j))).length<=a.length+b.length:=λj=>by
   have:=EU ha (hb.drop j);rw[List.length_drop]at this;omega
  have l1:=ln (i+1);rw[show (((i+1:Nat):Int)-1)=(i:Int) by omega];refine Ay K Ms (AaR ..) ?_;refine BV ?_;have g:=AiN K (eN a) (eN b) (i:Int) rfl rfl (out:=Ah (Ad a*Ad (b.drop (i+1)))) (by omega) _ 0 [0] rfl (by omega) rfl;refine Aa g ?_;simp only[eN,FW,ND,DK,Ab];rw[Au,Ax (ξ hlt)];simp only[eL,FW,ND,DK,Ab];rw[Bi (show b[i]<_ by omega)];refine Ac ?_;refine Aa (Zp K ha (by omega) b[i] hx) ?_;simp only[eN,FW,ND,DK,Ab];rw[AL AB (0::Ah (Ad a*Ad (b.drop (i+1)))) (by simp)];refine Ac ?_;rw[Bc AB (0::Ah (Ad a*Ad (b.drop (i+1)))) (by simp),show Bh ((Ah (Ad a*Ad (b.drop (i+1)))).length+1) 1 (Ag eL (0::Ah (Ad a*Ad (b.drop (i+1)))))=(0::Ah (Ad a*Ad (b.drop (i+1)))).map eL from CG AB (0::Ah (Ad a*Ad (b.drop (i+1))))];have l3:(Ah (Ad a*b[i])).length<=a.length+1:=by
   have:=EU ha (Adk hx)
   rwa [show Ad [b[i]]=b[i] by simp[Ad]]at this
  have g2:=Nk K (a:=0::Ah (Ad a*Ad (b.drop (i+1)))) (b:=Ah (Ad a*b[i])) (by rw[γ];omega) (Bb (by omega) (Ap _)) (by omega) (Ap _);rw[Ad,AA,AA,Acl,show b[i]+4294967296*Ad (b.drop (i+1))=Ad (b.drop i) by rw[ε hlt,Ad]]at g2;refine Aa g2 ?_;simp only[eN,FW,ND,DK,Ab];rw[DW (by omega) (by omega)];refine Aa (ih (by omega)) ?_;rfl
theorem AiG{a b:List Nat}(ha:Limbs a)(hb:Limbs b)(hs:a.length+b.length<=900000000):D.ask (.fn 183) [eN a,eN b] []=Θ (eN (Ah (Ad a*Ad b)),[]):=by
 have g:=AiO K ha hb hs b.length (η _);rw[List.drop_length,Ad,Nat.mul_zero,CR]at g;refine Aw K Ms (Arr ..) ?_;rw[Ao,DW (by omega) (by omega)];refine Aa g ?_;simp only[eN,ND,DK,Ab];have l1:=EU ha hb;have g2:=Gw K (l:=Ah (Ad a*Ad b)) (by unfold BX;omega) (Ap _);rw[AA]at g2;refine Aa g2 ?_;rfl
theorem Ac2{a b:List Nat}(hl:a.length=b.length)(hs:BX a):∀(k i:Nat),a.length-i=k->i<=a.length->D.ask (.lp 210 0) [eN a,eN b,iv (i:Int)] []=if a.drop i=b.drop i then Θ (.tup [iv 0],[]) else Θ (.tup [bv Δ,bv Φ],[]):=by
 intro k;unfold BX at hs
 induction k with
 |zero=>
  intro i hk hi;rw[AtM (show a.length<=i by omega),AtM (show b.length<=i by omega),if_pos rfl];refine Ay K Ok (Rt ..) ?_;rw[Ao];exact Ai rfl
 |succ k ih=>
  intro i hk hi;have h1:i<a.length:=by omega
  have h2:i<b.length:=by omega
  have ih':=ih (i+1) (by omega) (by omega);rw[ε h1,ε h2]
  by_cases h:a[i]=b[i]
  .by_cases h3:a.drop (i+1)=b.drop (i+1)
   .rw[if_pos h3]at ih'
    rw[if_pos (by rw[h,h3])];refine Ay K Ok (Rt ..) ?_;rw[Ao];refine Al ?_;rw[Au,Ax (ξ h1)];simp only[eL,FW,ND,DK,Ab];rw[Au,Ax (ξ h2)];simp only[eL,FW,ND,DK,Ab];rw[BQ (by omega)];refine AO ?_;refine Aa ih' ?_;rfl
   .rw[if_neg h3]at ih'
    rw[if_neg (λe=>h3 (List.cons.inj e).2)];refine Ay K Ok (Rt ..) ?_;rw[Ao];refine Al ?_;rw[Au,Ax (ξ h1)];simp only[eL,FW,ND,DK,Ab];rw[Au,Ax (ξ h2)];simp only[eL,FW,ND,DK,Ab];rw[BQ (by omega)];refine AO ?_;refine Aa ih' ?_;rfl
  .rw[if_neg (λe=>h (List.cons.inj e).1)]
   refine Ay K Ok (Rt ..) ?_;rw[Ao];refine Al ?_;rw[Au,Ax (ξ h1)];simp only[eL,FW,ND,DK,Ab];rw[Au,Ax (ξ h2)];simp only[eL,FW,ND,DK,Ab];rw[BQ (by omega)];exact Aq rfl
theorem AcE{a b:List Nat}(hs:BX a):D.ask (.fn 210) [eN a,eN b] []=Θ (bv (decide (a=b)),[]):=by
 refine Aw K Ok (ArE ..) ?_;rw[Ao,Ao]
 by_cases hl:a.length=b.length
 .refine AO ?_
  have g:=Ac2 K hl hs a.length 0 (by omega) (by omega);rw[Aty,Aty]at g
  by_cases h:a=b
  .rw[if_pos h]at g
   rw[decide_eq_true h];refine Aa g ?_;rfl
  .rw[if_neg h]at g
   rw[decide_eq_false h];refine Aa g ?_;rfl
 .refine Aq ?_
  rw[decide_eq_false (λe=>hl (by rw[e]))]
end
section
variable {D:Orc} (K:Knows As Jk D) (Z:Knows As MJ D) (C:CloneF D)
include K Z C
theorem Ez(neg:Bool){a:List Nat}(ha:Limbs a)(hs:BX a):D.ask (.fn 145) [bv neg,eN a] []=Θ (.agg (eZ (AD (Df neg (Ad a)))),[]):=by
 refine Aw Z Aj6 (Aq9 ..) ?_;refine Aa (FE K C hs ha) ?_;simp only[eN,ND,DK,Ab,Ao];rw[Ns];unfold eZ eN
 cases neg with
 |false=>rfl
 |true=>
  refine Ac ?_;refine Ac ?_;refine Ac ?_;have hp:=@Dh (Ad a)
  by_cases h:0<Ad a
  .refine Al ?_ (by have:=hp.2 h;omega)
   rw[decide_eq_true h];rfl
  .refine Ai ?_ (by intro e;exact h (hp.1 (by omega)))
   rw[decide_eq_false h];rfl
theorem NR{z:Zi}(hz:Lz 1000000000 z):D.ask (.fn 142) [.agg (eZ z)] []=Θ (.agg (eZ (AD (zv z))),[]):=by
 refine Aw Z Aj4 (Aq7 ..) ?_;refine Aa (Ez K Z C z.neg hz.lim hz.len) ?_;rfl
theorem Yb{z:Zi}(hz:Lz 1000000000 z):D.ask (.fn 161) [.agg (eZ z)] []=Θ (.agg (eZ (AD (-zv z))),[]):=by
 have e:-zv z=Df (!z.neg) (Ad z.abs):=by
  unfold zv Df
  cases z.neg<;>simp
 rw[e];refine Aw Z Akd (Ari ..) ?_;rw[AcG];have g:=λb=>Ez K Z C b hz.lim hz.len
 cases z.neg with
 |false=>
  refine Ac ?_;refine Aa (g Δ) ?_;rfl
 |true=>
  refine BY ?_;refine Aa (g Φ) ?_;rfl
theorem Lh{z:Zi}(hz:Lz 1000000000 z):D.ask (.fn 64) [.agg (eZ z)] []=Θ (iv (Ck (zv z)),[]):=by
 refine Aw Z Aph (e64 ..) ?_;refine Aa (NR K Z C hz) ?_;simp only[eZ,eN,ND,DK,Ab,Ao];unfold AD Ck
 by_cases h:zv z<0
 .rw[if_pos h,decide_eq_true h]
  rfl
 .rw[if_neg h,decide_eq_false h]
  refine BY ?_;have hp:=@Dh (zv z).natAbs
  by_cases h2:0<zv z
  .rw[if_pos h2]
   refine Al ?_ (by have:=hp.2 (by omega);dsimp only;omega);rfl
  .rw[if_neg h2]
   refine Ai ?_ (by dsimp only;intro e;have:=hp.1 (by omega);omega);rfl
theorem Ad0(n:Int)(h1:-9223372036854775808<=n)(h2:n<9223372036854775808):D.ask (.fn 126) [iv n] []=Θ (.agg (eZ (AD n)),[]):=by
 refine Aw Z AjW (AqY ..) ?_;have hl:∀ m:Nat,m<18446744073709551616->(Ah m).length<=2:=λm h=>Bx (by omega)
 by_cases h:n<0
 .refine Al ?_ h
  have e1:Af.add .i64 n 1=n+1:=EM (by omega) (by omega);have e2:Af.sub .i64 0 (n+1)=((n.natAbs-1:Nat):Int):=by rw[DW (by omega) (by omega)];omega
  rw[e1,e2,Bi (by omega),show (1:Int)=((1:Nat):Int) from rfl,B3 (by omega),show n.natAbs-1+1=n.natAbs by omega];refine Aa (AjA K C n.natAbs (by omega)) ?_;simp only[eN,ND,DK,Ab];have g:=Ez K Z C Δ (Ap n.natAbs) (by unfold BX;have:=hl n.natAbs (by omega);omega);rw[AA,show Df Δ n.natAbs=n by unfold Df;rw[if_pos rfl];omega]at g;refine Aa g ?_;rfl
 .refine Ai ?_ h
  obtain⟨m,rfl⟩:=AwE (show 0<=n by omega);rw[Bi (by omega)];refine Aa (AjA K C m (by omega)) ?_;simp only[eN,ND,DK,Ab];have g:=Ez K Z C Φ (Ap m) (by unfold BX;have:=hl m (by omega);omega);rw[AA,show Df Φ m=(m:Int) from rfl]at g;refine Aa g ?_;rfl
theorem Ajv{a b:Zi}(ha:Lz 1000000000 a)(hb:Lz 1000000000 b):D.ask (.fn 155) [.agg (eZ a),.agg (eZ b)] []=Θ (iv (FX (zv a) (zv b)),[]):=by
 refine Aw Z Aka (Arf ..) ?_;refine Aa (Lh K Z C ha) ?_;simp only[ND,DK,Ab];refine Aa (Lh K Z C hb) ?_;simp only[ND,DK,Ab];have g1:=U1 K (a:=b.abs) (b:=a.abs) hb.len hb.lim ha.len ha.lim;have g2:=U1 K (a:=a.abs) (b:=b.abs) ha.len ha.lim hb.len hb.lim;have na:=Ad4 a;have nb:=Ad4 b;have za:=Yc a;have zb:=Yc b;have va:zv a=Df a.neg (Ad a.abs):=rfl;have vb:zv b=Df b.neg (Ad b.abs):=rfl;unfold Ck
 by_cases h1:zv a<0
 .rw[if_pos h1]
  rw[Df,if_pos (na.1 h1).1]at va
  by_cases h2:zv b<0
  .rw[if_pos h2]
   rw[Df,if_pos (nb.1 h2).1]at vb;refine Ai ?_ (by decide);refine Ai ?_ (by decide);refine Al ?_ (by decide);refine Aa g1 ?_;rw[show FX (zv a) (zv b)=CM (Ad b.abs) (Ad a.abs) by
    unfold FX CM;rw[va,vb]
    by_cases h3:Ad b.abs<Ad a.abs
    .rw[if_pos (by omega),if_pos h3]
    .rw[if_neg (by omega),if_neg h3]
     by_cases h4:Ad a.abs<Ad b.abs
     .rw[if_pos (by omega),if_pos h4]
     .rw[if_neg (by omega),if_neg h4]]
   rfl
  .rw[if_neg h2]
   rw[show FX (zv a) (zv b)=-1 by unfold FX;rw[if_pos (by omega)]]
   by_cases h3:0<zv b
   .rw[if_pos h3];rfl
   .rw[if_neg h3];rfl
 .rw[if_neg h1]
  by_cases h2:zv b<0
  .rw[if_pos h2]
   rw[show FX (zv a) (zv b)=1 by unfold FX;rw[if_neg (by omega),if_pos (by omega)]]
   by_cases h3:0<zv a
   .rw[if_pos h3];rfl
   .rw[if_neg h3];rfl
  .rw[if_neg h2]
   have ea:zv a=(Ad a.abs:Int):=by
    by_cases h:0<Ad a.abs
    .rw[va,Df,if_neg (λe=>h1 (na.2 ⟨e,h⟩))]
    .rw[za.2 (by omega)];omega
   have eb:zv b=(Ad b.abs:Int):=by
    by_cases h:0<Ad b.abs
    .rw[vb,Df,if_neg (λe=>h2 (nb.2 ⟨e,h⟩))]
    .rw[zb.2 (by omega)];omega
   have ec:FX (zv a) (zv b)=CM (Ad a.abs) (Ad b.abs):=by
    unfold FX CM;rw[ea,eb]
    by_cases h3:Ad a.abs<Ad b.abs
    .rw[if_pos (by omega),if_pos h3]
    .rw[if_neg (by omega),if_neg h3]
     by_cases h4:Ad b.abs<Ad a.abs
     .rw[if_pos (by omega),if_pos h4]
     .rw[if_neg (by omega),if_neg h4]
   rw[ec]
   by_cases h3:0<zv a
   .rw[if_pos h3]
    by_cases h4:0<zv b
    .rw[if_pos h4]
     refine Ai ?_ (by decide);refine Ai ?_ (by decide);refine Ai ?_ (by decide);refine Aa g2 ?_;rfl
    .rw[if_neg h4]
     refine Ai ?_ (by decide);refine Al ?_ (by decide);rw[show CM (Ad a.abs) (Ad b.abs)=1 by unfold CM;rw[if_neg (by omega),if_pos (by omega)]]
   .rw[if_neg h3]
    by_cases h4:0<zv b
    .rw[if_pos h4]
     refine Al ?_ (by decide);rw[show CM (Ad a.abs) (Ad b.abs)=-1 by unfold CM;rw[if_pos (by omega)]]
    .rw[if_neg h4]
     refine Ai ?_ (by decide);refine Ai ?_ (by decide);refine Ai ?_ (by decide);refine Aa g2 ?_;rfl
theorem SH{k:Nat}(hk:k<=900000000){a b:Zi}(ha:Lz k a)(hb:Lz k b):D.ask (.fn 139) [.agg (eZ a),.agg (eZ b)] []=Θ (.agg (eZ (AD (zv a+zv b))),[]):=by
 have la:=ha.len;have lb:=hb.len;refine Aw Z Aj2 (Aq5 ..) ?_;have hfr:∀(neg:Bool) (n:Nat),n<4294967296 ^ (k+1)->D.ask (.fn 145) [bv neg,eN (Ah n)] []=Θ (.agg (eZ (AD (Df neg n))),[]):=λneg n h=>by
  have:=Ez K Z C neg (Ap n) (by unfold BX;have:=Bx h;omega)
  rwa [AA]at this
 have ba:=BM ha.lim;have bb:=BM hb.lim;have pa:4294967296 ^ a.abs.length<=4294967296 ^ k:=Au9 (by omega) la;have pb:4294967296 ^ b.abs.length<=4294967296 ^ k:=Au9 (by omega) lb;have ps:4294967296 ^ (k+1)=4294967296 ^ k*4294967296:=AuM ..
 by_cases h:a.neg=b.neg
 .rw[XR,show (a.neg == b.neg)=Δ by simpa using h]
  refine Ac ?_;refine Aa (Aln K C (by omega) ha.lim (by omega) hb.lim) ?_;simp only[eN,ND,DK,Ab];refine Aa (hfr a.neg (Ad a.abs+Ad b.abs) (by omega)) ?_;rw[show Df a.neg (Ad a.abs+Ad b.abs)=zv a+zv b by
   unfold zv;rw[←h];unfold Df;split<;>omega]
  rfl
 .rw[XR,show (a.neg == b.neg)=Φ by simpa using h]
  refine BY ?_;have hop:zv a+zv b=Df a.neg (Ad a.abs)+Df (!a.neg) (Ad b.abs):=by
   unfold zv;have:b.neg = !a.neg:=by
    revert h
    cases a.neg<;>cases b.neg<;>simp
   rw[this]
  have g1:=Aaj K C (a:=a.abs) (b:=b.abs) (by unfold BX;omega) ha.lim (by unfold BX;omega) hb.lim;have g2:=Aaj K C (a:=b.abs) (b:=a.abs) (by unfold BX;omega) hb.lim (by unfold BX;omega) ha.lim;unfold NZ at g1 g2;refine Aa g1 ?_
  by_cases hle:Ad b.abs<=Ad a.abs
  .rw[if_pos hle]
   simp only[eN,ND,DK,Ab];refine Aa (hfr a.neg (Ad a.abs-Ad b.abs) (by omega)) ?_;rw[show Df a.neg (Ad a.abs-Ad b.abs)=zv a+zv b by
    rw[hop];unfold Df
    cases a.neg<;>simp<;>omega]
   rfl
  .rw[if_neg hle]
   rw[if_pos (by omega)]at g2;simp only[eN,ND,DK,Ab];refine Aa g2 ?_;simp only[eN,ND,DK,Ab];refine Aa (hfr b.neg (Ad b.abs-Ad a.abs) (by omega)) ?_;rw[show Df b.neg (Ad b.abs-Ad a.abs)=zv a+zv b by
    rw[hop];have:b.neg = !a.neg:=by
     revert h
     cases a.neg<;>cases b.neg<;>simp
    rw[this];unfold Df
    cases a.neg<;>simp<;>omega]
   rfl
theorem Ajx{k m:Nat}(hk:k<=400000000)(hkm:m<=400000000){a b:Zi}(ha:Lz k a)(hb:Lz m b)(h24:a.abs.length<24\/b.abs.length<24):D.ask (.fn 158) [.agg (eZ a),.agg (eZ b)] []=Θ (.agg (eZ (AD (zv a*zv b))),[]):=by
 have la:=ha.len;have lb:=hb.len;refine Aw Z Akc (Arh ..) ?_;have hm:InB (k+m) (zv a*zv b):=ha.inb.mul hb.inb;have hab:(zv a*zv b).natAbs=Ad a.abs*Ad b.abs:=by
  have f:∀ z:Zi,(zv z).natAbs=Ad z.abs:=λz=>by
   unfold zv Df;split
   .rw[AvB];rfl
   .rfl
  rw[Int.natAbs_mul,f,f]
 unfold InB at hm;rw[hab]at hm;have hl:=Bx hm;have hfr:∀(neg:Bool),D.ask (.fn 145) [bv neg,eN (Ah (Ad a.abs*Ad b.abs))] []=Θ (.agg (eZ (AD (Df neg (Ad a.abs*Ad b.abs)))),[]):=λneg=>by
  have:=Ez K Z C neg (Ap (Ad a.abs*Ad b.abs)) (by unfold BX;omega)
  rwa [AA]at this
 have g:=Als K C (by omega) ha.lim (by omega) hb.lim h24;have hs:Df (a.neg != b.neg) (Ad a.abs*Ad b.abs)=zv a*zv b:=by
  unfold zv Df
  cases a.neg<;>cases b.neg<;>simp[AxD,Av4]
 rw[AcG,XR]
 by_cases h:a.neg=b.neg
 .rw[show (!(a.neg == b.neg))=Φ by simp[h]]
  rw[show (a.neg != b.neg)=Φ by simp[h]]at hs;refine BY ?_;refine Aa g ?_;simp only[eN,ND,DK,Ab];refine Aa (hfr Φ) ?_;rw[hs];rfl
 .rw[show (!(a.neg == b.neg))=Δ by simp[h]]
  rw[show (a.neg != b.neg)=Δ by simp[h]]at hs;refine Ac ?_;refine Aa g ?_;simp only[eN,ND,DK,Ab];refine Aa (hfr Δ) ?_;rw[hs];rfl
end
section
open Go.RowKit
def AkJ:MFn:=AC [] 128
def AjY:Hnt:=⟨[(149,(.ls,[]))],[],[]⟩
def Ap0:MFn:=AC [] 75
def Apl:Hnt:=⟨[(128,(.agg AK,[]))],[],[(4,[.bool]),(6,[.ls])]⟩
def ApU:MFn:=AC [] 56
def Apf:Hnt:=⟨[(128,(.agg AK,[])),(129,(.ls,[]))],[],[]⟩
def ApZ:MFn:=AC [] 69
def Apk:Hnt:=⟨[(149,(.ls,[]))],[],[(4,[.ls]),(9,[.bool])]⟩
def Ak2:MFn:=AC [] 179
def Akh:Hnt:=⟨[(128,(.agg AK,[]))],[],[(4,[.bool]),(7,[.ls])]⟩
def AkD:MFn:=AC [] 122
def AbD:Hnt:=⟨[(69,(.int .i64,[])),(122,(.agg AK,[])),(128,(.agg AK,[])),(129,(.ls,[])),(182,(.tup [.ls,.bool],[]))],[],[(7,AK),(11,AK),(16,[.ls]),(18,[.ls]),(21,AK),(25,AK),(30,[.ls]),(32,[.ls]),(35,AK),(38,AK),(39,AK),(43,[.ls]),(45,[.ls]),(54,[.ls]),(56,[.ls])]⟩
def AkF:MFn:=AC [] 124
def AjU:Hnt:=⟨[(122,(.agg AK,[])),(179,(.agg AK,[]))],[],[(5,AK),(6,AK)]⟩
def AkE:MFn:=AC [] 123
def AjT:Hnt:=⟨[(69,(.int .i64,[])),(128,(.agg AK,[])),(183,(.ls,[]))],[],[(5,AK),(7,AK),(12,[.ls]),(14,[.ls])]⟩
def ApS:MFn:=AC [] 53
def Ape:Hnt:=⟨[(69,(.int .i64,[])),(124,(.agg AK,[]))],[],[(5,AK),(6,AK)]⟩
def AkU:MFn:=AC [] 152
def Aj9:Hnt:=⟨[(210,(.bool,[]))],[],[(6,[.bool]),(8,[.bool]),(12,[.ls]),(14,[.ls])]⟩
def X5:List (Nat × MFn):=[(128,AkJ),(75,Ap0),(56,ApU),(69,ApZ),(179,Ak2),(122,AkD),(124,AkF),(123,AkE),(53,ApS),(152,AkU)]
variable (A:Ar) (D:Orc)
theorem Aq0(x0:Bool)(x1:Rw):BZ A D As AjY .n 128 AkJ [bv x0,Ψ x1] [] =
 Ae D (ω 149) [Ψ x1] [] [.l,.E] λxs=>
 br (A.eq (↑(AI xs)) 0)
 (Θ ((ψ [bv Φ,Ψ []],[])))
 (Θ ((ψ [bv x0,Ψ xs],[]))):=by kernel_rfl
theorem e75(x0_0:Bool)(x0_1:Rw):BZ A D As Apl .n 75 Ap0 [ψ [bv x0_0,Ψ x0_1]] [] =
 Ae D (ω 128) [bv x0_0,Ψ x0_1] [] [.a,.B,.L,.N,.E] λb xs=>
 Θ ((ψ [bv b,Ψ xs],[])):=by kernel_rfl
theorem e56(x0:Int):BZ A D As Apf (.b (.b (.b .n (.f .n)) .n) (.b .n (.b .n (.f .n)))) 56 ApU [iv x0] [] =
 br (A.le 0 x0)
 (br (A.eq 4294967296 0)
 (Ξ)
 (br (A.eq 4294967296 0) Ξ (AG D (ω 128) [bv Φ,Ψ [[AtO (Value.int ζ (A.conv ζ (A.rem θ x0 4294967296)))],[AtO (Value.int ζ (A.conv ζ (A.quo θ x0 4294967296)))]]] [] λr o=>
 dk [.a,.B,.L,.N,.E] [.v r,.o o] λb xs=>
 Θ ((ψ [bv b,Ψ xs],[])))))
 (br (A.eq 4294967296 0)
 (Ξ)
 (br (A.eq 4294967296 0) Ξ (AG D (ω 129) [Ψ [[AtO (Value.int ζ (A.conv ζ (A.rem θ (A.sub θ 0 (A.add θ x0 1)) 4294967296)))],[AtO (Value.int ζ (A.conv ζ (A.quo θ (A.sub θ 0 (A.add θ x0 1)) 4294967296)))]],Ψ [[AtO (Value.int ζ 1)]]] [] λr o=>
 Mg r λxs=>
 DE o<|
 Ae D (ω 128) [bv Δ,Ψ xs] [] [.a,.B,.L,.N,.E] λb xs1=>
 Θ ((ψ [bv b,Ψ xs1],[]))))):=by kernel_rfl
theorem e69(x0_0:Bool)(x0_1:Rw):BZ A D As Apk .n 69 ApZ [ψ [bv x0_0,Ψ x0_1]] [] =
 Ae D (ω 149) [Ψ x0_1] [] [.l,.E] λxs=>
 br (A.eq (↑(AI xs)) 0)
 (Θ ((iv 0,[])))
 (br x0_0
 (Θ ((iv (-1),[])))
 (Θ ((iv 1,[])))):=by kernel_rfl
theorem Arp(x0_0:Bool)(x0_1:Rw):BZ A D As Akh .n 179 Ak2 [ψ [bv x0_0,Ψ x0_1]] [] =
 br (A.not x0_0)
 (Ae D (ω 128) [bv Δ,Ψ x0_1] [] [.a,.B,.L,.N,.E] λb xs=>
 Θ ((ψ [bv b,Ψ xs],[])))
 (Ae D (ω 128) [bv Φ,Ψ x0_1] [] [.a,.B,.L,.N,.E] λb xs=>
 Θ ((ψ [bv b,Ψ xs],[]))):=by kernel_rfl
theorem Aoy(x0_0:Bool)(x0_1:Rw)(x1_0:Bool)(x1_1:Rw):BZ A D As AbD .n 122 AkD [ψ [bv x0_0,Ψ x0_1],ψ [bv x1_0,Ψ x1_1]] [] =
 Ae D (ω 69) [ψ [bv x0_0,Ψ x0_1]] [] [.i,.E] λn=>
 br (A.lt n 0)
 (Ae D (ω 69) [ψ [bv x1_0,Ψ x1_1]] [] [.i,.E] λn1=>
 br (A.lt n1 0)
 (Ae D (ω 129) [Ψ x0_1,Ψ x1_1] [] [.l,.E] λxs=>
 Ae D (ω 128) [bv Δ,Ψ xs] [] [.a,.B,.L,.N,.E] λb xs1=>
 Θ ((ψ [bv b,Ψ xs1],[])))
 (Ae D (ω 69) [ψ [bv x0_0,Ψ x0_1]] [] [.i,.E] λn2=>
 br (A.le 0 n2)
 (Ae D (ω 69) [ψ [bv x1_0,Ψ x1_1]] [] [.i,.E] λn3=>
 br (A.le 0 n3)
 (Ae D (ω 129) [Ψ x0_1,Ψ x1_1] [] [.l,.E] λxs=>
 Ae D (ω 128) [bv Φ,Ψ xs] [] [.a,.B,.L,.N,.E] λb xs1=>
 Θ ((ψ [bv b,Ψ xs1],[])))
 (Ae D (ω 69) [ψ [bv x0_0,Ψ x0_1]] [] [.i,.E] λn4=>
 br (A.lt n4 0)
 (Ae D (ω 122) [ψ [bv x1_0,Ψ x1_1],ψ [bv x0_0,Ψ x0_1]] [] [.a,.B,.L,.N,.E] λb xs=>
 Θ ((ψ [bv b,Ψ xs],[])))
 (Ae D (ω 182) [Ψ x0_1,Ψ x1_1] [] [.t,.L,.B,.N,.E] λxs b=>
 br b
 (Ae D (ω 128) [bv Φ,Ψ xs] [] [.a,.B,.L,.N,.E] λb1 xs1=>
 Θ ((ψ [bv b1,Ψ xs1],[])))
 (Ae D (ω 182) [Ψ x1_1,Ψ x0_1] [] [.t,.L,.B,.N,.E] λxs1 _=>
 Ae D (ω 128) [bv Δ,Ψ xs1] [] [.a,.B,.L,.N,.E] λb2 xs2=>
 Θ ((ψ [bv b2,Ψ xs2],[]))))))
 (Ae D (ω 69) [ψ [bv x0_0,Ψ x0_1]] [] [.i,.E] λn3=>
 br (A.lt n3 0)
 (Ae D (ω 122) [ψ [bv x1_0,Ψ x1_1],ψ [bv x0_0,Ψ x0_1]] [] [.a,.B,.L,.N,.E] λb xs=>
 Θ ((ψ [bv b,Ψ xs],[])))
 (Ae D (ω 182) [Ψ x0_1,Ψ x1_1] [] [.t,.L,.B,.N,.E] λxs b=>
 br b
 (Ae D (ω 128) [bv Φ,Ψ xs] [] [.a,.B,.L,.N,.E] λb1 xs1=>
 Θ ((ψ [bv b1,Ψ xs1],[])))
 (Ae D (ω 182) [Ψ x1_1,Ψ x0_1] [] [.t,.L,.B,.N,.E] λxs1 _=>
 Ae D (ω 128) [bv Δ,Ψ xs1] [] [.a,.B,.L,.N,.E] λb2 xs2=>
 Θ ((ψ [bv b2,Ψ xs2],[])))))))
 (Ae D (ω 69) [ψ [bv x0_0,Ψ x0_1]] [] [.i,.E] λn1=>
 br (A.le 0 n1)
 (Ae D (ω 69) [ψ [bv x1_0,Ψ x1_1]] [] [.i,.E] λn2=>
 br (A.le 0 n2)
 (Ae D (ω 129) [Ψ x0_1,Ψ x1_1] [] [.l,.E] λxs=>
 Ae D (ω 128) [bv Φ,Ψ xs] [] [.a,.B,.L,.N,.E] λb xs1=>
 Θ ((ψ [bv b,Ψ xs1],[])))
 (Ae D (ω 69) [ψ [bv x0_0,Ψ x0_1]] [] [.i,.E] λn3=>
 br (A.lt n3 0)
 (Ae D (ω 122) [ψ [bv x1_0,Ψ x1_1],ψ [bv x0_0,Ψ x0_1]] [] [.a,.B,.L,.N,.E] λb xs=>
 Θ ((ψ [bv b,Ψ xs],[])))
 (Ae D (ω 182) [Ψ x0_1,Ψ x1_1] [] [.t,.L,.B,.N,.E] λxs b=>
 br b
 (Ae D (ω 128) [bv Φ,Ψ xs] [] [.a,.B,.L,.N,.E] λb1 xs1=>
 Θ ((ψ [bv b1,Ψ xs1],[])))
 (Ae D (ω 182) [Ψ x1_1,Ψ x0_1] [] [.t,.L,.B,.N,.E] λxs1 _=>
 Ae D (ω 128) [bv Δ,Ψ xs1] [] [.a,.B,.L,.N,.E] λb2 xs2=>
 Θ ((ψ [bv b2,Ψ xs2],[]))))))
 (Ae D (ω 69) [ψ [bv x0_0,Ψ x0_1]] [] [.i,.E] λn2=>
 br (A.lt n2 0)
 (Ae D (ω 122) [ψ [bv x1_0,Ψ x1_1],ψ [bv x0_0,Ψ x0_1]] [] [.a,.B,.L,.N,.E] λb xs=>
 Θ ((ψ [bv b,Ψ xs],[])))
 (Ae D (ω 182) [Ψ x0_1,Ψ x1_1] [] [.t,.L,.B,.N,.E] λxs b=>
 br b
 (Ae D (ω 128) [bv Φ,Ψ xs] [] [.a,.B,.L,.N,.E] λb1 xs1=>
 Θ ((ψ [bv b1,Ψ xs1],[])))
 (Ae D (ω 182) [Ψ x1_1,Ψ x0_1] [] [.t,.L,.B,.N,.E] λxs1 _=>
 Ae D (ω 128) [bv Δ,Ψ xs1] [] [.a,.B,.L,.N,.E] λb2 xs2=>
 Θ ((ψ [bv b2,Ψ xs2],[])))))):=by kernel_rfl
theorem AqW(x0_0:Bool)(x0_1:Rw)(x1_0:Bool)(x1_1:Rw):BZ A D As AjU .n 124 AkF [ψ [bv x0_0,Ψ x0_1],ψ [bv x1_0,Ψ x1_1]] [] =
 Ae D (ω 179) [ψ [bv x1_0,Ψ x1_1]] [] [.a,.B,.L,.N,.E] λb xs=>
 Ae D (ω 122) [ψ [bv x0_0,Ψ x0_1],ψ [bv b,Ψ xs]] [] [.a,.B,.L,.N,.E] λb1 xs1=>
 Θ ((ψ [bv b1,Ψ xs1],[])):=by kernel_rfl
theorem AqV(x0_0:Bool)(x0_1:Rw)(x1_0:Bool)(x1_1:Rw):BZ A D As AjT .n 123 AkE [ψ [bv x0_0,Ψ x0_1],ψ [bv x1_0,Ψ x1_1]] [] =
 Ae D (ω 69) [ψ [bv x0_0,Ψ x0_1]] [] [.i,.E] λn=>
 Ae D (ω 69) [ψ [bv x1_0,Ψ x1_1]] [] [.i,.E] λn1=>
 br (A.lt (A.mul θ n n1) 0)
 (Ae D (ω 183) [Ψ x0_1,Ψ x1_1] [] [.l,.E] λxs=>
 Ae D (ω 128) [bv Δ,Ψ xs] [] [.a,.B,.L,.N,.E] λb xs1=>
 Θ ((ψ [bv b,Ψ xs1],[])))
 (Ae D (ω 183) [Ψ x0_1,Ψ x1_1] [] [.l,.E] λxs=>
 Ae D (ω 128) [bv Φ,Ψ xs] [] [.a,.B,.L,.N,.E] λb xs1=>
 Θ ((ψ [bv b,Ψ xs1],[]))):=by kernel_rfl
theorem e53(x0_0:Bool)(x0_1:Rw)(x1_0:Bool)(x1_1:Rw):BZ A D As Ape .n 53 ApS [ψ [bv x0_0,Ψ x0_1],ψ [bv x1_0,Ψ x1_1]] [] =
 Ae D (ω 124) [ψ [bv x0_0,Ψ x0_1],ψ [bv x1_0,Ψ x1_1]] [] [.a,.B,.L,.N,.E] λb xs=>
 Ae D (ω 69) [ψ [bv b,Ψ xs]] [] [.i,.E] λn=>
 Θ ((iv n,[])):=by kernel_rfl
theorem Are(x0_0:Bool)(x0_1:Rw)(x1_0:Bool)(x1_1:Rw):BZ A D As Aj9 .n 152 AkU [ψ [bv x0_0,Ψ x0_1],ψ [bv x1_0,Ψ x1_1]] [] =
 br (A.beq x0_0 x1_0)
 (Ae D (ω 210) [Ψ x0_1,Ψ x1_1] [] [.b,.E] λb=>
 br b
 (Θ ((bv Δ,[])))
 (Θ ((bv Φ,[]))))
 (Θ ((bv Φ,[]))):=by kernel_rfl
end
theorem Hf{z:Zi}(h:zv z<0):zv z=-(Ad z.abs:Int):=by
 unfold zv Df at *
 cases e:z.neg<;>rw[e]at h<;>simp at h ⊢
 omega
theorem E4{z:Zi}(h:¬ zv z<0):zv z=(Ad z.abs:Int):=by
 unfold zv Df at *
 cases e:z.neg<;>rw[e]at h<;>simp at h ⊢
 omega
theorem L6{n:Int}:Ck n<0 ↔ n<0:=by
 unfold Ck;split
 .omega
 .split<;>omega
theorem AeR{k:Nat}{x y:Int}(hx:InB k x)(hy:InB k y):InB (k+1) (x+y):=by
 unfold InB at *;rw[AuM];have:=Int.natAbs_add_le x y;omega
theorem Qz{k:Nat}(hk:k<=900000000){a b:Zi}(ha:Lz k a)(hb:Lz k b):BX (Ah (Ad a.abs+Ad b.abs)):=by
 unfold BX;have h1:=ha.inb;have h2:=hb.inb;have f:∀ z:Zi,(zv z).natAbs=Ad z.abs:=λz=>by
  unfold zv Df;split
  .rw[AvB];rfl
  .rfl
 unfold InB at h1 h2;rw[f]at h1 h2;have:=Bx (n:=Ad a.abs+Ad b.abs) (k:=k+1) (by rw[AuM];omega);omega
theorem Dm(n:Int):Ck n=-1/\n<0\/Ck n=1/\0<n\/Ck n=0/\n=0:=by
 unfold Ck;split
 .omega
 .split<;>omega
theorem Si(x y:Int):Af.mul .i64 (Ck x) (Ck y)=Ck x*Ck y:=by
 show IntKind.i64.wrap (Ck x*Ck y)=_
 rw[IntKind.wrap_i64];rcases Dm x with h|h|h<;>rcases Dm y with h2|h2|h2<;>rw[h.1,h2.1]<;>rfl
theorem VW{a b:Zi}(h:Ck (zv a)*Ck (zv b)<0):Df Δ (Ad a.abs*Ad b.abs)=zv a*zv b:=by
 unfold Df;rw[if_pos rfl,AvJ]
 by_cases ha:zv a<0
 .rw[Hf ha]
  by_cases hb:zv b<0
  .exfalso
   rcases Dm (zv a) with h1|h1|h1<;>rcases Dm (zv b) with h2|h2|h2<;>rw[h1.1,h2.1]at h<;>omega
  .rw[E4 hb,Av4]
 .rw[E4 ha]
  by_cases hb:zv b<0
  .rw[Hf hb,AxD]
  .exfalso
   rcases Dm (zv a) with h1|h1|h1<;>rcases Dm (zv b) with h2|h2|h2<;>rw[h1.1,h2.1]at h<;>omega
theorem VY{a b:Zi}(h:¬ Ck (zv a)*Ck (zv b)<0):Df Φ (Ad a.abs*Ad b.abs)=zv a*zv b:=by
 unfold Df;rw[if_neg (by simp),AvJ];rcases Dm (zv a) with h1|h1|h1
 .rcases Dm (zv b) with h2|h2|h2
  .rw[Hf h1.2,Hf h2.2,Int.neg_mul_neg]
  .exfalso
   rw[h1.1,h2.1]at h;omega
  .have:=E4 (z:=b) (by omega)
   rw[h2.2,AvU,←this,h2.2,AvU]
 .rcases Dm (zv b) with h2|h2|h2
  .exfalso
   rw[h1.1,h2.1]at h;omega
  .rw[←E4 (z:=a) (by omega),←E4 (z:=b) (by omega)]
  .have:=E4 (z:=b) (by omega)
   rw[h2.2,AvU,←this,h2.2,AvU]
 .have:=E4 (z:=a) (by omega)
  rw[h1.2,Awv,←this,h1.2,Awv]
section
variable {D:Orc} (K:Knows As QO D) (R:Knows As X5 D)
include K R
theorem Ea(neg:Bool){a:List Nat}(ha:Limbs a)(hs:BX a):D.ask (.fn 128) [bv neg,eN a] []=Θ (.agg (eZ (AD (Df neg (Ad a)))),[]):=by
 refine Aw R AjY (Aq0 ..) ?_;refine Aa (Gw K hs ha) ?_;simp only[eN,ND,DK,Ab,Ao];rw[Ns];unfold eZ eN;have hp:=@Dh (Ad a)
 by_cases h:0<Ad a
 .refine Aq ?_ (by have:=hp.2 h;omega)
  rw[decide_eq_true h,Bool.and_true]
 .have h0:Ad a=0:=by omega
  rw[decide_eq_false h,Bool.and_false,h0,CR];exact AO rfl rfl
theorem Zg{z:Zi}(hz:Lz 1000000000 z):D.ask (.fn 75) [.agg (eZ z)] []=Θ (.agg (eZ (AD (zv z))),[]):=by
 refine Aw R Apl (e75 ..) ?_;refine Aa (Ea K R z.neg hz.lim hz.len) ?_;rfl
theorem EL{z:Zi}(hz:Lz 1000000000 z):D.ask (.fn 69) [.agg (eZ z)] []=Θ (iv (Ck (zv z)),[]):=by
 refine Aw R Apk (e69 ..) ?_;refine Aa (Gw K hz.len hz.lim) ?_;simp only[eN,ND,DK,Ab,Ao];have hp:=@Dh (Ad z.abs);unfold zv Df
 by_cases h:0<Ad z.abs
 .refine Aq ?_ (by have:=hp.2 h;omega)
  cases z.neg with
  |false=>
   refine BY ?_;rw[if_neg (by simp)];unfold Ck;rw[if_neg (by omega)]
   first|rw[if_pos (by omega)] | rw[if_neg (by omega)]
  |true=>
   refine Ac ?_;rw[if_pos rfl];unfold Ck
   first|rw[if_pos (by omega)] | rw[if_neg (by omega),if_neg (by omega)]
 .have h0:Ad z.abs=0:=by omega
  rw[h0,CR];refine AO ?_ rfl
  cases z.neg<;>rfl
theorem XO{z:Zi}(hz:Lz 1000000000 z):D.ask (.fn 179) [.agg (eZ z)] []=Θ (.agg (eZ (AD (-zv z))),[]):=by
 have e:-zv z=Df (!z.neg) (Ad z.abs):=by
  unfold zv Df
  cases z.neg<;>simp
 rw[e];refine Aw R Akh (Arp ..) ?_;rw[AcG];have g:=λb=>Ea K R b hz.lim hz.len
 cases z.neg with
 |false=>
  refine Ac ?_;refine Aa (g Δ) ?_;rfl
 |true=>
  refine BY ?_;refine Aa (g Φ) ?_;rfl
theorem QI{k:Nat}(hk:k<=900000000){a b:Zi}(ha:Lz k a)(hb:Lz k b)(hp:¬ zv a<0):D.ask (.fn 122) [.agg (eZ a),.agg (eZ b)] []=Θ (.agg (eZ (AD (zv a+zv b))),[]):=by
 have la:=ha.len;have lb:=hb.len;have sa:=EL K R (ha.mono (show k<=1000000000 by omega));have sb:=EL K R (hb.mono (show k<=1000000000 by omega));have ea:=E4 hp;have hsa:¬ Ck (zv a)<0:=λh=>hp (L6.1 h)
 refine Aw R AbD (Aoy ..) ?_;refine Aa sa ?_;simp only[PP,ND,DK,Ab];refine Ai ?_ hsa;refine Aa sa ?_;simp only[PP,ND,DK,Ab];refine BV ?_;refine Aa sb ?_;simp only[PP,ND,DK,Ab]
 by_cases hb0:zv b<0
 .have hsb:=L6.2 hb0
  have eb:=Hf hb0;refine Cn ?_;refine Aa sa ?_;simp only[PP,ND,DK,Ab];refine Ai ?_ hsa;have g1:=XP K (a:=a.abs) (b:=b.abs) (by unfold BX;omega) ha.lim (by unfold BX;omega) hb.lim;unfold NZ at g1;refine Aa g1 ?_
  by_cases hle:Ad b.abs<=Ad a.abs
  .rw[if_pos hle]
   simp only[eN,ND,DK,Ab];have g2:=Ea K R Φ (a:=Ah (Ad a.abs-Ad b.abs)) (Ap _) (by
    unfold BX;have:=Bx (n:=Ad a.abs-Ad b.abs) (k:=a.abs.length) (by have:=BM ha.lim;omega);omega)
   rw[AA,show Df Φ (Ad a.abs-Ad b.abs)=zv a+zv b by unfold Df;rw[if_neg (by simp)];omega]at g2;refine Aa g2 ?_;rfl
  .rw[if_neg hle]
   simp only[eN,ND,DK,Ab];have g3:=XP K (a:=b.abs) (b:=a.abs) (by unfold BX;omega) hb.lim (by unfold BX;omega) ha.lim;unfold NZ at g3;rw[if_pos (show Ad a.abs<=Ad b.abs by omega)]at g3;refine Aa g3 ?_;simp only[eN,ND,DK,Ab];have g2:=Ea K R Δ (a:=Ah (Ad b.abs-Ad a.abs)) (Ap _) (by
    unfold BX;have:=Bx (n:=Ad b.abs-Ad a.abs) (k:=b.abs.length) (by have:=BM hb.lim;omega);omega)
   rw[AA,show Df Δ (Ad b.abs-Ad a.abs)=zv a+zv b by unfold Df;rw[if_pos rfl];omega]at g2;refine Aa g2 ?_;rfl
 .have hsb:¬ Ck (zv b)<0:=λh=>hb0 (L6.1 h)
  have eb:=E4 hb0;refine BV ?_;refine Aa (Nk K (by omega) ha.lim (by omega) hb.lim) ?_;simp only[eN,ND,DK,Ab];have g2:=Ea K R Φ (a:=Ah (Ad a.abs+Ad b.abs)) (Ap _) (Qz hk ha hb);rw[AA,show Df Φ (Ad a.abs+Ad b.abs)=zv a+zv b by unfold Df;rw[if_neg (by simp)];omega]at g2;refine Aa g2 ?_;rfl
theorem Up{k:Nat}(hk:k<=900000000){a b:Zi}(ha:Lz k a)(hb:Lz k b):D.ask (.fn 122) [.agg (eZ a),.agg (eZ b)] []=Θ (.agg (eZ (AD (zv a+zv b))),[]):=by
 by_cases hp:zv a<0
 .have la:=ha.len
  have lb:=hb.len;have sa:=EL K R (ha.mono (show k<=1000000000 by omega));have sb:=EL K R (hb.mono (show k<=1000000000 by omega));have ea:=Hf hp;have hsa:=L6.2 hp;refine Aw R AbD (Aoy ..) ?_;refine Aa sa ?_;simp only[PP,ND,DK,Ab];refine Al ?_ hsa;refine Aa sb ?_;simp only[PP,ND,DK,Ab]
  by_cases hb0:zv b<0
  .have eb:=Hf hb0
   refine Al ?_ (L6.2 hb0);refine Aa (Nk K (by omega) ha.lim (by omega) hb.lim) ?_;simp only[eN,ND,DK,Ab];have g2:=Ea K R Δ (a:=Ah (Ad a.abs+Ad b.abs)) (Ap _) (Qz hk ha hb);rw[AA,show Df Δ (Ad a.abs+Ad b.abs)=zv a+zv b by unfold Df;rw[if_pos rfl];omega]at g2;refine Aa g2 ?_;rfl
  .refine Ai ?_ (λh=>hb0 (L6.1 h))
   refine Aa sa ?_;simp only[PP,ND,DK,Ab];refine Cn ?_;refine Aa sa ?_;simp only[PP,ND,DK,Ab];refine Al ?_ hsa;have g:=QI K R hk hb ha hb0;rw[Awt]at g;refine Aa g ?_;rfl
 .exact QI K R hk ha hb hp
theorem Ac9{k:Nat}(hk:k<=900000000){a b:Zi}(ha:Lz k a)(hb:Lz k b):D.ask (.fn 124) [.agg (eZ a),.agg (eZ b)] []=Θ (.agg (eZ (AD (zv a-zv b))),[]):=by
 refine Aw R AjU (AqW ..) ?_;refine Aa (XO K R (hb.mono (show k<=1000000000 by omega))) ?_;have hn:Lz k (AD (-zv b)):=InB.lz (by have:=hb.inb;unfold InB at *;rwa [AvB]);have g:=Up K R hk ha hn;rw[Bm,←Awk]at g;simp only[eZ,eN,ND,DK,Ab];refine Aa g ?_;rfl
theorem Ac7{k:Nat}(hk:k<=900000000){a b:Zi}(ha:Lz k a)(hb:Lz k b):D.ask (.fn 53) [.agg (eZ a),.agg (eZ b)] []=Θ (iv (Ck (zv a-zv b)),[]):=by
 refine Aw R Ape (e53 ..) ?_;refine Aa (Ac9 K R hk ha hb) ?_;have hs:Lz (k+1) (AD (zv a-zv b)):=InB.lz (by rw[Awk];exact AeR ha.inb (by have:=hb.inb;unfold InB at *;rwa [AvB]));have g:=EL K R (hs.mono (show k+1<=1000000000 by omega));rw[Bm]at g;simp only[eZ,eN,ND,DK,Ab];refine Aa g ?_;rfl
theorem Ac8{k m:Nat}(hk:k<=400000000)(hm:m<=400000000){a b:Zi}(ha:Lz k a)(hb:Lz m b):D.ask (.fn 123) [.agg (eZ a),.agg (eZ b)] []=Θ (.agg (eZ (AD (zv a*zv b))),[]):=by
 have la:=ha.len;have lb:=hb.len;have sa:=EL K R (ha.mono (show k<=1000000000 by omega));have sb:=EL K R (hb.mono (show m<=1000000000 by omega));refine Aw R AjT (AqV ..) ?_;refine Aa sa ?_;simp only[PP,ND,DK,Ab];refine Aa sb ?_;simp only[PP,ND,DK,Ab];have g:=AiG K ha.lim hb.lim (by omega);have l1:=EU ha.lim hb.lim;have gf:∀ ng,D.ask (.fn 128) [bv ng,eN (Ah (Ad a.abs*Ad b.abs))] []=Θ (.agg (eZ (AD (Df ng (Ad a.abs*Ad b.abs)))),[]):=λng=>by
  have:=Ea K R ng (a:=Ah (Ad a.abs*Ad b.abs)) (Ap _) (by unfold BX;omega)
  rwa [AA]at this
 have hmul:Af.mul .i64 (Ck (zv a)) (Ck (zv b))=Ck (zv a)*Ck (zv b):=Si _ _;rw[hmul]
 by_cases h:Ck (zv a)*Ck (zv b)<0
 .refine Al ?_ h
  refine Aa g ?_;simp only[eN,ND,DK,Ab];have g2:=gf Δ;rw[VW h]at g2;refine Aa g2 ?_;rfl
 .refine Ai ?_ h
  refine Aa g ?_;simp only[eN,ND,DK,Ab];have g2:=gf Φ;rw[VY h]at g2;refine Aa g2 ?_;rfl
theorem Zq{a b:Zi}(ha:Lz 1000000000 a):D.ask (.fn 152) [.agg (eZ a),.agg (eZ b)] []=Θ (bv (decide (a.neg=b.neg/\a.abs=b.abs)),[]):=by
 refine Aw R Aj9 (Are ..) ?_;rw[XR]
 by_cases h:a.neg=b.neg
 .rw[show (a.neg == b.neg)=Δ by simp[h]]
  refine Ac ?_;refine Aa (AcE K (a:=a.abs) (b:=b.abs) ha.len) ?_
  by_cases h2:a.abs=b.abs
  .rw[decide_eq_true h2,decide_eq_true ⟨h,h2⟩]
   rfl
  .rw[decide_eq_false h2,decide_eq_false (λe=>h2 e.2)]
   rfl
 .rw[show (a.neg == b.neg)=Φ by simp[h],decide_eq_false (λe=>h e.1)]
  exact BY rfl
end
structure ZF (D:Orc):Prop where
 frm:∀ z:Zi,Lz 1000000000 z->D.ask (.fn 145) [bv z.neg,eN z.abs] []=Θ (.agg (eZ (AD (zv z))),[])
 neg:∀ z:Zi,Lz 1000000000 z->D.ask (.fn 161) [.agg (eZ z)] []=Θ (.agg (eZ (AD (-zv z))),[])
 sign:∀ z:Zi,Lz 1000000000 z->D.ask (.fn 64) [.agg (eZ z)] []=Θ (iv (Ck (zv z)),[])
 of_:∀ n:Int,-9223372036854775808<=n->n<9223372036854775808->D.ask (.fn 126) [iv n] []=Θ (.agg (eZ (AD n)),[])
 cmp:∀ a b:Zi,Lz 1000000000 a->Lz 1000000000 b->D.ask (.fn 155) [.agg (eZ a),.agg (eZ b)] []=Θ (iv (FX (zv a) (zv b)),[])
 add:∀ a b:Zi,Lz 900000000 a->Lz 900000000 b->D.ask (.fn 139) [.agg (eZ a),.agg (eZ b)] []=Θ (.agg (eZ (AD (zv a+zv b))),[])
 mul:∀ a b:Zi,Lz 400000000 a->Lz 400000000 b->a.abs.length<24\/b.abs.length<24->D.ask (.fn 158) [.agg (eZ a),.agg (eZ b)] []=Θ (.agg (eZ (AD (zv a*zv b))),[])
theorem Alm{D:Orc}(K:Knows As Jk D)(Z:Knows As MJ D)(C:CloneF D):ZF D where
 frm z h:=by
  have:=Ez K Z C z.neg h.lim (by unfold BX;exact h.len);exact this
 neg z h:=Yb K Z C h
 sign z h:=Lh K Z C h
 of_ n h1 h2:=Ad0 K Z C n h1 h2
 cmp a b ha hb:=Ajv K Z C ha hb
 add a b ha hb:=SH K Z C (η _) ha hb
 mul a b ha hb h:=Ajx K Z C (η _) (η _) ha hb h
theorem AcM(m:Nat)(h:m<9223372036854775808):Af.rem .i64 (m:Int) 4294967296=((m % 4294967296:Nat):Int):=by
 show Int.tmod (m:Int) 4294967296=_
 rw[show (4294967296:Int)=((4294967296:Nat):Int) from rfl,←Int.ofNat_tmod]
theorem AcJ(m:Nat)(h:m<9223372036854775808):Af.quo .i64 (m:Int) 4294967296=((m / 4294967296:Nat):Int):=by
 show IntKind.i64.wrap (Int.tdiv (m:Int) 4294967296)=_
 rw[IntKind.wrap_i64,show (4294967296:Int)=((4294967296:Nat):Int) from rfl,←Int.ofNat_tdiv];omega
theorem UT(m:Nat):Ad [m % 4294967296,m / 4294967296]=m:=by
 unfold Ad Ad Ad;omega
theorem Qp(m:Nat)(h:m<9223372036854775808):Limbs [m % 4294967296,m / 4294967296]:=Bb (by omega) (Bb (by omega) BH)
structure RF (D:Orc):Prop where
 clean:∀ z:Zi,Lz 1000000000 z->D.ask (.fn 75) [.agg (eZ z)] []=Θ (.agg (eZ (AD (zv z))),[])
 neg:∀ z:Zi,Lz 1000000000 z->D.ask (.fn 179) [.agg (eZ z)] []=Θ (.agg (eZ (AD (-zv z))),[])
 sign:∀ z:Zi,Lz 1000000000 z->D.ask (.fn 69) [.agg (eZ z)] []=Θ (iv (Ck (zv z)),[])
 of_:∀ n:Int,-9223372036854775808<n->n<9223372036854775808->D.ask (.fn 56) [iv n] []=Θ (.agg (eZ (AD n)),[])
 cmp:∀ a b:Zi,Lz 900000000 a->Lz 900000000 b->D.ask (.fn 53) [.agg (eZ a),.agg (eZ b)] []=Θ (iv (Ck (zv a-zv b)),[])
 add:∀ a b:Zi,Lz 900000000 a->Lz 900000000 b->D.ask (.fn 122) [.agg (eZ a),.agg (eZ b)] []=Θ (.agg (eZ (AD (zv a+zv b))),[])
 mul:∀ a b:Zi,Lz 400000000 a->Lz 400000000 b->D.ask (.fn 123) [.agg (eZ a),.agg (eZ b)] []=Θ (.agg (eZ (AD (zv a*zv b))),[])
 same:∀ a b:Zi,Lz 1000000000 a->D.ask (.fn 152) [.agg (eZ a),.agg (eZ b)] []=Θ (bv (decide (a.neg=b.neg/\a.abs=b.abs)),[])
section
variable {D:Orc} (K:Knows As QO D) (R:Knows As X5 D)
include K R
theorem AnD(n:Int)(h1:-9223372036854775808<n)(h2:n<9223372036854775808):D.ask (.fn 56) [iv n] []=Θ (.agg (eZ (AD n)),[]):=by
 refine Aw R Apf (e56 ..) ?_
 by_cases h:0<=n
 .obtain⟨m,rfl⟩:=AwE h
  have g:=Ea K R Φ (Qp m (by omega)) (by unfold BX;simp);rw[UT,show Df Φ m=(m:Int) from rfl]at g;refine BV ?_ h;refine Aq ?_ (by decide);refine Aq ?_ (by decide);rw[AcM m (by omega),AcJ m (by omega),Bt (by omega),Bt (by omega)];refine Aa g ?_;rfl
 .obtain⟨m,hm⟩:∃ m:Nat,n=-((m+1:Nat):Int):=⟨n.natAbs-1,by omega⟩
  have e1:Af.sub .i64 0 (Af.add .i64 n 1)=(m:Int):=by
   rw[EM (by omega) (by omega),DW (by omega) (by omega)];omega
  have ga:=Nk K (a:=[m % 4294967296,m / 4294967296]) (b:=[1]) (by simp) (Qp m (by omega)) (by simp) (Bb (by omega) BH);rw[UT,show Ad [1]=1 from rfl]at ga;have hl:(Ah (m+1)).length<=2:=Bx (by omega);have g:=Ea K R Δ (Ap (m+1)) (by unfold BX;omega);rw[AA,show Df Δ (m+1)=n by rw[hm];rfl]at g;refine Cn ?_ h;refine Aq ?_ (by decide);refine Aq ?_ (by decide);rw[e1,AcM m (by omega),AcJ m (by omega),Bt (by omega),Bt (by omega)];refine Aa ga ?_;simp only[eN,ND,DK,Ab];refine Aa g ?_;rfl
theorem Aqn:RF D where
 clean z h:=Zg K R h
 neg z h:=XO K R h
 sign z h:=EL K R h
 of_ n h1 h2:=AnD K R n h1 h2
 cmp a b ha hb:=Ac7 K R (η _) ha hb
 add a b ha hb:=Up K R (η _) ha hb
 mul a b ha hb:=Ac8 K R (η _) (η _) ha hb
 same a b ha:=Zq K R ha
end
section
open Go.RowKit
variable (A:Ar) (D:Orc)
end

section
open Go.RowKit
variable (A:Ar) (D:Orc)
end

structure DivF (D:Orc):Prop where
 div:∀ a b:List Nat,Limbs a->a.length<=999999990->Limbs b->b.length<=999999990->D.ask (.fn 144) [eN a,eN b] []
  = Θ (if Ad b=0 then .tup [.ls [],.ls [],iv 10] else .tup [eN (Ah (Ad a / Ad b)),eN (Ah (Ad a % Ad b)),iv 0],[])
section
variable {D:Orc} (K:Knows As Jk D) (Z:Knows As MJ D) (C:CloneF D) (G:Knows As QN D) (V:DivF D)
include G V
theorem Amh:∀(n a b:Nat),b<=n->(Ah a).length<=999999980->(Ah b).length<=999999980->D.ask (.lp 205 0) [eN (Ah a),eN (Ah b)] []=Θ (.tup [iv 0,eN (Ah (AvR a b))],[]):=by
 intro n
 induction n with
 |zero=>
  intro a b hb _ _;obtain rfl:b=0:=by omega
  refine Ay G Qh (Vm ..) ?_;rw[CR,AwX];exact DL (by decide)
 |succ n ih=>
  intro a b hb hal hbl
  by_cases h0:b=0
  .subst h0
   refine Ay G Qh (Vm ..) ?_;rw[CR,AwX];exact DL (by decide)
  .have hne:0<(Ah b).length:=Dh.2 (by omega)
   have hm:=Auo a (show 0<b by omega);have lr:(Ah (a % b)).length<=(Ah b).length:=Bx (by
    have:=BM (Ap b);rw[AA]at this;omega)
   have g:=V.div _ _ (Ap a) (by omega) (Ap b) (by omega);rw[AA,AA,if_neg h0]at g;refine Ay G Qh (Vm ..) ?_;rw[Ao];refine Al ?_;refine Aa g ?_;simp only[eN,ND,DK,Ab];refine Aa (ih b (a % b) (by omega) hbl (by omega)) ?_;rw[AxA b,←Nat.gcd_rec,AxA];rfl
include K C
theorem Alq{a b:List Nat}(ha:Limbs a)(hal:a.length<=999999980)(hb:Limbs b)(hbl:b.length<=999999980):D.ask (.fn 205) [eN a,eN b] []=Θ (eN (Ah (AvR (Ad a) (Ad b))),[]):=by
 have la:(Ah (Ad a)).length<=999999980:=by rw[Dz a ha];have:=Cx a;omega
 have lb:(Ah (Ad b)).length<=999999980:=by rw[Dz b hb];have:=Cx b;omega
 refine Aw G Qh (ArD ..) ?_;refine Aa (FE K C (by unfold BX;omega) ha) ?_;simp only[eN,ND,DK,Ab];refine Aa (FE K C (by unfold BX;omega) hb) ?_;simp only[eN,ND,DK,Ab];refine Aa (Amh G V _ _ _ (η _) la lb) ?_;simp only[eN,ND,DK,Ab]
include Z
omit V in
theorem Ajy{a b:Zi}(ha:Lz 900000000 a)(hb:Lz 900000000 b):D.ask (.fn 146) [.agg (eZ a),.agg (eZ b)] []=Θ (.agg (eZ (AD (zv a-zv b))),[]):=by
 have g:=SH K Z C (η _) ha (hb.inb.neg.lz);rw[Bm,←Awk]at g;refine Aw G Aj7 (Ara ..) ?_;refine Aa (Yb K Z C (hb.mono (by omega))) ?_;simp only[eZ,eN,ND,DK,Ab];refine Aa g ?_;simp only[eZ,eN,ND,DK,Ab]
theorem Ya{a b:Zi}(ha:Lz 800000000 a)(hb:Lz 800000000 b):D.ask (.fn 66) [.agg (eZ a),.agg (eZ b)] []
  = Θ (if zv b=0 then .tup [.agg [bv Φ,.ls []],.agg [bv Φ,.ls []],iv 10] else .tup [.agg (eZ (AD (qZ (zv a) (zv b)))),.agg (eZ (AD (rZ (zv a) (zv b)))),iv 0],[]):=by
 have hia:=ha.inb;have hib:=hb.inb;have la:=hia.lz;have lb:=hib.lz;have gd:=V.div _ _ la.lim (by have:=la.len;omega) lb.lim (by have:=lb.len;omega);rw[show (AD (zv a)).abs=Ah (zv a).natAbs from rfl,show (AD (zv b)).abs=Ah (zv b).natAbs from rfl,AA,AA]at gd;refine Aw G Api (e66 ..) ?_;refine Aa (NR K Z C (ha.mono (by omega))) ?_;simp only[eZ,eN,ND,DK,Ab];refine Aa (NR K Z C (hb.mono (by omega))) ?_;simp only[eZ,eN,ND,DK,Ab];rw[show (AD (zv a)).neg=decide (zv a<0) from rfl,show (AD (zv b)).neg=decide (zv b<0) from rfl];generalize zv a=x at *;generalize zv b=y at *;refine Aa gd ?_
 by_cases h0:y=0
 .rw[if_pos h0,if_pos (by rw[h0];rfl)]
  simp only[ND,DK,Ab];exact Jt (by decide)
 .rw[if_neg h0,if_neg (by omega)]
  simp only[eN,ND,DK,Ab];refine AO ?_ (by decide);have hu:=AbQ hia y;have hv:=TM hib h0 x;have fu:=λs=>Ez K Z C s (Ap (uN x y)) (by unfold BX;have:=(hu Δ).lz.len;rw[Ns]at this;dsimp only at this;omega)
  have fv:=λs=>Ez K Z C s (Ap (vN x y)) (by unfold BX;have:=(hv Δ).lz.len;rw[Ns]at this;dsimp only at this;omega)
  simp only[AA]at fu fv;rw[show x.natAbs / y.natAbs=uN x y from rfl,show x.natAbs % y.natAbs=vN x y from rfl,Ao];rw[show Af.not (Af.beq (decide (x<0)) (decide (y<0)))=dS x y from rfl];unfold qZ rZ;have hlv:=@Dh (vN x y)
  cases hs:dS x y with
  |true=>
   refine Ac ?_;refine Aa (fu Δ) ?_;simp only[eZ,eN,B7,Cj,Dr,B1,BF,DK];refine Aa (fv _) ?_;simp only[eZ,eN,B7,Cj,Dr,B1,BF,DK];refine Ac ?_
   by_cases hv0:0<vN x y
   .refine Al ?_ (by have:=hlv.2 hv0;omega)
    rw[if_pos ⟨trivial,hv0⟩,if_pos ⟨trivial,hv0⟩];have g1:=Ad0 K Z C 1 (by decide) (by decide);have g2:=Ajy K Z C G (a:=AD (Df Δ (uN x y))) (b:=AD 1) ((hu Δ).lz.mono (by omega)) ((InB.one (k:=1) (by omega)).lz.mono (by omega));have g3:=SH K Z C (η _) (a:=AD (Df (decide (x<0)) (vN x y))) (b:=AD y) ((hv _).lz.mono (by omega)) (lb.mono (by omega));rw[Bm,Bm]at g2 g3;refine Aa g1 ?_;simp only[eZ,eN,B7,Cj,Dr,B1,BF,DK];refine Aa g2 ?_;simp only[eZ,eN,B7,Cj,Dr,B1,BF,DK];refine Aa g3 ?_;simp only[eZ,eN,B7,Cj,Dr,B1,BF,DK]
   .refine Ai ?_ (by intro h;exact hv0 (hlv.1 (by omega)))
    rw[if_neg (λh=>hv0 h.2),if_neg (λh=>hv0 h.2)]
  |false=>
   refine BY ?_;refine Aa (fu Φ) ?_;simp only[eZ,eN,B7,Cj,Dr,B1,BF,DK];refine Aa (fv _) ?_;simp only[eZ,eN,B7,Cj,Dr,B1,BF,DK];refine BY ?_;rw[if_neg (λh=>by cases h.1),if_neg (λh=>by cases h.1)]
theorem Z9{a b:Zi}(ha:Lz 800000000 a)(hb:Lz 800000000 b):D.ask (.fn 143) [.agg (eZ a),.agg (eZ b)] []
  = Θ (if zv b=0 then .tup [.agg [bv Φ,.ls []],iv 10] else if rZ (zv a) (zv b)=0 then .tup [.agg (eZ (AD (qZ (zv a) (zv b)))),iv 0] else .tup [.agg [bv Φ,.ls []],iv 1],[]):=by
 have hia:=ha.inb;have hib:=hb.inb;refine Aw G Aj5 (Aq8 ..) ?_;refine Aa (Ya K Z C G V ha hb) ?_;generalize zv a=x at *;generalize zv b=y at *
 by_cases h0:y=0
 .rw[if_pos h0,if_pos h0]
  simp only[ND,DK,Ab];exact Jt (by decide)
 .rw[if_neg h0,if_neg h0]
  have hr:InB 800000001 (rZ x y):=by
   unfold rZ;split
   .exact(TM hib h0 x _).add hib
   .exact(TM hib h0 x _).mono (by omega)
  have gs:=Lh K Z C (z:=AD (rZ x y)) (hr.lz.mono (by omega));rw[Bm]at gs;simp only[eZ,eN,ND,DK,Ab];refine AO ?_ (by decide);refine Aa gs ?_;simp only[ND,DK,Ab]
  by_cases h1:rZ x y=0
  .rw[if_pos h1,h1]
   exact HD (by decide)
  .rw[if_neg h1]
   refine(Jt ?_).trans ?_
   .unfold Ck
    split
    .omega
    .rw[if_pos (by omega)];omega
   .rfl
theorem Ajw{a b:Zi}(ha:Lz 900000000 a)(hb:Lz 900000000 b):D.ask (.fn 147) [.agg (eZ a),.agg (eZ b)] []=Θ (.agg (eZ (AD (AvR (zv a).natAbs (zv b).natAbs:Nat))),[]):=by
 have hia:=ha.inb;have la:=ha.len;have lb:=hb.len;rw[Qy,Qy];have hlen:(Ah (AvR (Ad a.abs) (Ad b.abs))).length<=900000000:=by
  rcases AuO (Ad a.abs) with h|h
  .rw[h,Aw5]
   exact Auf (Bx (BM hb.lim)) lb
  .refine Auf (Bx (k:=a.abs.length) ?_) la
   have:=Axi (Ad b.abs) h;have:=BM ha.lim;omega
 have g:=Ez K Z C Φ (Ap (AvR (Ad a.abs) (Ad b.abs))) (by unfold BX;omega);rw[AA,show Df Φ (AvR (Ad a.abs) (Ad b.abs))=((AvR (Ad a.abs) (Ad b.abs):Nat):Int) from rfl]at g;refine Aw G Aj8 (Arb ..) ?_;refine Aa (Alq K C G V ha.lim (by omega) hb.lim (by omega)) ?_;simp only[eN,ND,DK,Ab];refine Aa g ?_;simp only[eZ,eN,ND,DK,Ab]
end
def Bj(v:Int):List (Int × Int)->Int
 |[]=>0
 |p::r=>(if p.1=v then p.2 else 0)+Bj v r
theorem Fc{v:Int}:∀{l:List (Int × Int)},(∀ p∈l,p.1≠v)->Bj v l=0
 |[],_=>rfl
 |p::r,h=>by
  rw[Bj,if_neg (h p (AtL ..)),Fc λq hq=>h q (AtF _ hq)];rfl
theorem NV{v:Int}{a b:List (Int × Int)}(h:a.Perm b):Bj v a=Bj v b:=by
 induction h with
 |nil=>rfl
 |cons x _ ih=>rw[Bj,Bj,ih]
 |swap x y l=>rw[Bj,Bj,Bj,Bj];omega
 |trans _ _ ih1 ih2=>rw[ih1,ih2]
structure Pln (l:List (Int × Int)):Prop where
 asc:l.Pairwise λa b=>a.1<b.1
 pos:∀ p∈l,0<=p.1
 nz:∀ p∈l,p.2≠0
theorem XM:Pln []:=⟨.nil,by simp,by simp⟩
theorem Pln.tail{p:Int × Int}{r:List (Int × Int)}(h:Pln (p::r)):Pln r:=⟨(Aup.1 h.asc).2,λq hq=>h.pos q (AtF _ hq),λq hq=>h.nz q (AtF _ hq)⟩
theorem Pln.head{p:Int × Int}{r:List (Int × Int)}(h:Pln (p::r)):Bj p.1 (p::r)=p.2:=by
 rw[Bj,if_pos rfl,Fc λq hq=>by have:=(Aup.1 h.asc).1 q hq;omega];omega
theorem Pln.below{p:Int × Int}{r:List (Int × Int)}(h:Pln (p::r)){v:Int}(hv:v<p.1):Bj v (p::r)=0:=by
 refine Fc λq hq=>?_
 rcases AtC.1 hq with rfl|hq
 .omega
 .have:=(Aup.1 h.asc).1 q hq
  omega
theorem Pln.ext:∀{a b:List (Int × Int)},Pln a->Pln b->(∀ v,Bj v a=Bj v b)->a=b
 |[],[],_,_,_=>rfl
 |[],q::s,_,hb,h=>by
  have h1:=hb.head;rw[←h q.1]at h1;exact absurd h1.symm (hb.nz q (AtL ..))
 |p::r,[],ha,_,h=>by
  have h1:=ha.head;rw[h p.1]at h1;exact absurd h1.symm (ha.nz p (AtL ..))
 |p::r,q::s,ha,hb,h=>by
  have h1:=ha.head;have h2:=hb.head;have n1:=ha.nz p (AtL ..);have n2:=hb.nz q (AtL ..);have e:p.1=q.1:=by
   rcases Int.lt_trichotomy p.1 q.1 with h3|h3|h3
   .rw[h p.1,hb.below h3]at h1
    exact absurd h1.symm n1
   .exact h3
   .rw[←h q.1,ha.below h3]at h2
    exact absurd h2.symm n2
  have e2:p.2=q.2:=by rw[←h1,←h2,h p.1,e]
  have ep:p=q:=Prod.ext e e2;rw[ep,Pln.ext ha.tail hb.tail λv=>by
   have:=h v;rw[Bj,Bj,ep]at this;omega]
def Ib(v c:Int):List (Int × Int)->List (Int × Int)
 |[]=>if c=0 then [] else [(v,c)]
 |p::r=>if v<p.1 then(if c=0 then p::r else(v,c)::p::r) else if p.1<v then p::Ib v c r else if p.2+c=0 then r else(v,p.2+c)::r
theorem LH(v c u:Int):∀ l:List (Int × Int),Bj u (Ib v c l)=(if v=u then c else 0)+Bj u l
 |[]=>by
  unfold Ib;split
  .rename_i h;simp[Bj,h]
  .simp[Bj]
 |p::r=>by
  have ih:=LH v c u r;unfold Ib;split
  .split
   .rename_i h;rw[h];simp
   .rfl
  .split
   .rw[Bj,ih,Bj];omega
   .have e:p.1=v:=by omega
    split
    .rename_i h
     rw[Bj,e];split<;>omega
    .rw[Bj,Bj,e]
     split<;>omega
theorem TN{v c:Int}:∀{l:List (Int × Int)} {q:Int × Int},q∈Ib v c l->q.1=v\/q∈l
 |[],q,h=>by
  unfold Ib at h;split at h
  .exact .inr h
  .rw[List.mem_singleton.1 h];exact .inl rfl
 |p::r,q,h=>by
  unfold Ib at h;split at h
  .split at h
   .exact .inr h
   .rcases AtC.1 h with h|h
    .rw[h];exact .inl rfl
    .exact .inr h
  .split at h
   .rcases AtC.1 h with h|h
    .rw[h];exact .inr (AtL ..)
    .rcases TN h with h|h
     .exact .inl h
     .exact .inr (AtF _ h)
   .split at h
    .exact .inr (AtF _ h)
    .rcases AtC.1 h with h|h
     .rw[h];exact .inl rfl
     .exact .inr (AtF _ h)
theorem TO{v c:Int}(hv:0<=v):∀{l:List (Int × Int)},Pln l->Pln (Ib v c l)
 |[],_=>by
  unfold Ib;split
  .exact XM
  .rename_i h
   exact⟨List.pairwise_singleton _ _,by simpa using hv,by simpa using h⟩
 |p::r,h=>by
  have ih:=TO (c:=c) hv h.tail;have hp:=Aup.1 h.asc;unfold Ib;split
  .rename_i h1
   split
   .exact h
   .rename_i h2
    refine⟨Aup.2 ⟨λq hq=>?_,h.asc⟩,λq hq=>?_,λq hq=>?_⟩
    .rcases AtC.1 hq with rfl|hq
     .exact h1
     .have:=hp.1 q hq;simp only;omega
    .rcases AtC.1 hq with rfl|hq
     .exact hv
     .exact h.pos q hq
    .rcases AtC.1 hq with rfl|hq
     .exact h2
     .exact h.nz q hq
  .split
   .rename_i h1 h2
    refine⟨Aup.2 ⟨λq hq=>?_,ih.asc⟩,λq hq=>?_,λq hq=>?_⟩
    .rcases TN hq with e|hq
     .rw[e];exact h2
     .exact hp.1 q hq
    .rcases AtC.1 hq with rfl|hq
     .exact h.pos _ (AtL ..)
     .exact ih.pos q hq
    .rcases AtC.1 hq with rfl|hq
     .exact h.nz _ (AtL ..)
     .exact ih.nz q hq
   .rename_i h1 h2
    split
    .exact h.tail
    .rename_i h3
     refine⟨Aup.2 ⟨λq hq=>?_,hp.2⟩,λq hq=>?_,λq hq=>?_⟩
     .have:=hp.1 q hq;simp only;omega
     .rcases AtC.1 hq with rfl|hq
      .exact hv
      .exact h.tail.pos q hq
     .rcases AtC.1 hq with rfl|hq
      .exact h3
      .exact h.tail.nz q hq
def Ba:List (Int × Int)->List (Int × Int)
 |[]=>[]
 |p::r=>if 0<=p.1 then Ib p.1 p.2 (Ba r) else Ba r
theorem DU:∀ l:List (Int × Int),Pln (Ba l)
 |[]=>XM
 |p::r=>by
  unfold Ba;split
  .rename_i h;exact TO h (DU r)
  .exact DU r
theorem JO(v:Int):∀ l:List (Int × Int),Bj v (Ba l)=if 0<=v then Bj v l else 0
 |[]=>by simp[Ba,Bj]
 |p::r=>by
  have ih:=JO v r;unfold Ba
  by_cases h:0<=p.1
  .by_cases hv:0<=v
   .rw[if_pos h,LH,ih,Bj,if_pos hv,if_pos hv]
   .rw[if_pos h,LH,ih,if_neg hv,if_neg hv,if_neg (by omega)]
    rfl
  .by_cases hv:0<=v
   .rw[if_neg h,ih,Bj,if_pos hv,if_pos hv,if_neg (show ¬ p.1=v by omega)]
    omega
   .rw[if_neg h,ih,if_neg hv,if_neg hv]
theorem OY{l r:List (Int × Int)}(h:Pln r)(hc:∀ v,0<=v->Bj v r=Bj v l):r=Ba l:=by
 refine Pln.ext h (DU l) λv=>?_
 rw[JO]
 by_cases hv:0<=v
 .rw[if_pos hv,hc v hv]
 .rw[if_neg hv]
  refine Fc λp hp e=>?_
  have:=h.pos p hp;omega
theorem JP{l:List (Int × Int)}(h:Pln l):Ba l=l:=(OY h λ_ _=>rfl).symm
theorem Gu:∀ l:List (Int × Int),(Ba l).length<=l.length
 |[]=>η _
 |p::r=>by
  have ih:=Gu r;have ins:∀ l:List (Int × Int),(Ib p.1 p.2 l).length<=l.length+1:=λl=>by
   induction l with
   |nil=>unfold Ib;split<;>simp
   |cons q s ih=>
    unfold Ib;split
    .split<;>simp
    .split
     .simpa using ih
     .split
      .simp;omega
      .simp
  unfold Ba;split
  .have:=ins (Ba r)
   rw[γ];omega
  .rw[γ]
   omega
section
variable {α:Type} (key:α->Int)
def kf(l:List α)(p:Nat):Int:=match l[p]? with
 |some x=>key x
 |none=>0
theorem F5{l:List α}{p:Nat}(h:p<l.length):kf key l p=key l[p]:=by
 unfold kf;rw[ξ h]
def Dc(l:List α)(i j:Nat):List α:=match l[i]?,l[j]? with
 |some x,Θ y=>(l.set i y).set j x
 |_,_=>l
theorem Ef{l:List α}{i j:Nat}(hi:i<l.length)(hj:j<l.length):Dc l i j=(l.set i l[j]).set j l[i]:=by
 unfold Dc;rw[ξ hi,ξ hj]
theorem I2(l:List α)(i j:Nat):(Dc l i j).length=l.length:=by
 unfold Dc;split<;>simp
theorem Xc{l:List α}{i j:Nat}(hi:i<l.length)(hj:j<l.length)(p:Nat):kf key (Dc l i j) p=if p=j then kf key l i else if p=i then kf key l j else kf key l p:=by
 rw[Ef hi hj];unfold kf
 by_cases h1:p=j
 .subst h1
  rw[if_pos rfl,Au1 (by simpa using hj),ξ hi]
 .rw[if_neg h1,AuN (λe=>h1 e.symm)]
  by_cases h2:p=i
  .subst h2
   rw[if_pos rfl,Au1 hi,ξ hj]
  .rw[if_neg h2,AuN (λe=>h2 e.symm)]
theorem Hc(l:List α)(i j:Nat):(Dc l i j).Perm l:=by
 by_cases hi:i<l.length
 .by_cases hj:j<l.length
  .rw[Ef hi hj]
   have:=Array.swap_perm (xs:=l.toArray) (i:=i) (j:=j) (by simpa using hi) (by simpa using hj);have h2:=this.toList;simpa[Array.swap]using h2
  .unfold Dc
   rw[AuG (show l.length<=j by omega)];split
   .rename_i h;cases h
   .exact List.Perm.refl _
 .unfold Dc
  rw[AuG (show l.length<=i by omega)]
theorem ZM{l:List α}{i j p:Nat}(h1:p≠i)(h2:p≠j):(Dc l i j)[p]? = l[p]?:=by
 unfold Dc;split
 .rw[AuN (λe=>h2 e.symm),AuN (λe=>h1 e.symm)]
 .rfl
def Srt(l:List α)(a b:Nat):Prop:=∀ p q,a<=p->p<q->q<b->kf key l p<=kf key l q
def Yd(l:List α)(a i j:Nat):Prop:=∀ p q,a<=p->p<q->q<=i->q≠j->kf key l p<=kf key l q
def Same0(l r:List α)(a b:Nat):Prop:=∀ p,(p<a\/b<=p)->r[p]? = l[p]?
theorem Db(l:List α)(a b:Nat):Same0 l l a b:=λ_ _=>rfl
theorem Same0.trans{l r s:List α}{a b:Nat}(h1:Same0 l r a b)(h2:Same0 r s a b):Same0 l s a b:=λp hp=>(h2 p hp).trans (h1 p hp)
theorem Same0.wide{l r:List α}{a b c d:Nat}(h1:Same0 l r a b)(hc:c<=a)(hd:b<=d):Same0 l r c d:=λp hp=>h1 p (by omega)
theorem Same0.kf{l r:List α}{a b p:Nat}(h:Same0 l r a b)(hp:p<a\/b<=p):kf key r p=kf key l p:=by
 unfold Go.Proofs.YtpncilciembjdaaGreatDoor.kf;rw[h p hp]
theorem ZN{l:List α}{i j a b:Nat}(h1:a<=i)(h2:i<b)(h3:a<=j)(h4:j<b):Same0 l (Dc l i j) a b:=λp hp=>ZM (by omega) (by omega)
theorem ZK{l:List α}{a i j:Nat}(hi:i<l.length)(ha:a<j)(hj:j<=i)(h:Yd key l a i j)(hlt:kf key l j<kf key l (j-1)):Yd key (Dc l j (j-1)) a i (j-1):=by
 intro p q h1 h2 h3 h4;rw[Xc key (by omega) (by omega),Xc key (by omega) (by omega)]
 by_cases q1:q=j
 .subst q1
  rw[if_neg (show ¬ q=q-1 by omega),if_pos rfl]
  by_cases p1:p=q-1
  .rw[if_pos p1];omega
  .rw[if_neg p1,if_neg (by omega)]
   exact h p (q-1) h1 (by omega) (by omega) (by omega)
 .rw[if_neg h4,if_neg q1]
  by_cases p1:p=j-1
  .rw[if_pos p1]
   exact h j q (by omega) (by omega) h3 q1
  .rw[if_neg p1]
   by_cases p2:p=j
   .rw[if_pos p2]
    exact h (j-1) q (by omega) (by omega) h3 q1
   .rw[if_neg p2]
    exact h p q h1 h2 h3 q1
theorem Ux{l:List α}{a i j:Nat}(hj:j<=i)(h:Yd key l a i j)(he:j=a\/kf key l (j-1)<=kf key l j):Srt key l a (i+1):=by
 intro p q h1 h2 h3
 by_cases hq:q=j
 .subst hq
  rcases he with he|he
  .omega
  .by_cases hp:p=q-1
   .rw[hp];exact he
   .have:=h p (q-1) h1 (by omega) (by omega) (by omega)
    omega
 .exact h p q h1 h2 (by omega) hq
theorem Wp{l:List α}{a i:Nat}(h:Srt key l a i):Yd key l a i i:=λp q h1 h2 h3 h4=>h p q h1 h2 (by omega)
theorem G7{l:List α}(h:Srt key l 0 l.length):l.Pairwise λx y=>key x<=key y:=by
 rw[List.pairwise_iff_getElem];intro i j hi hj hij;have:=h i j (by omega) hij hj
 rwa [F5 key hi,F5 key hj]at this
theorem Ai0(l:List α)(a:Nat):Srt key l a (a+1):=λp q h1 h2 h3=>by omega
theorem AiZ(l:List α)(a:Nat):Srt key l a a:=λp q h1 h2 h3=>by omega
end
structure Pt where
 v:Int
 z:Zi
def eP(p:Pt):List AV:=[iv p.v,bv p.z.neg,eN p.z.abs]
theorem Az(p:Pt):(eP p).length=3:=rfl
section
variable {α:Type} {e:α->List AV} {w:Nat} (he:∀ x,(e x).length=w)
include he
theorem XW(l:List α):∀(i:Nat) (h:i<l.length),(Ag e l).drop (i*w)=e l[i]++(Ag e l).drop (i*w+w):=by
 induction l with
 |nil=>intro i h;cases h
 |cons x r ih=>
  intro i h;have hx:=he x
  cases i with
  |zero=>
   rw[Nat.zero_mul,Aty,AtQ]
   show e x++Ag e r=e x++(e x++Ag e r).drop w
   rw[←hx,List.drop_left]
  |succ i=>
   have:=ih i (by simpa using h);have e1:∀ n,(Ag e (x::r)).drop (w+n)=(Ag e r).drop n:=λn=>by
    show (e x++Ag e r).drop (w+n)=_
    rw[←hx,Aw9];simp
   rw[show (i+1)*w=w+i*w by rw[Aue];omega,e1,this,show w+i*w+w=w+(i*w+w) by omega,e1];rfl
theorem BA(l:List α)(i:Nat)(h:i<l.length)(k:List AV->KR):EW (Ag e l) (0+i*w) w k=k (e l[i]):=by
 have hw:i*w+w<=l.length*w:=by
  rw[←Nat.succ_mul];exact Nat.mul_le_mul_right w h
 unfold EW;have:AtG (0+i*w+w) (Ag e l).length=Δ:=by rw[AT he];simp;omega
 rw[this]
 show k (((Ag e l).drop (0+i*w)).take w)=_
 rw[AtQ,XW he l i h,List.take_left' (he _)]
theorem CS(l:List α)(i:Nat)(h:i<l.length)(x:α):AF (Ag e l) (0+i*w) (e x)=Ag e (l.set i x):=by
 unfold AF;rw[he x,AtQ];have e1:=XW he l i h;have e2:∀(l:List α) (i:Nat),i<=l.length->(Ag e l).take (i*w)=Ag e (l.take i):=λl=>by
  induction l with
  |nil=>intro i _;simp[Ag]
  |cons y r ih=>
   intro i hi
   cases i with
   |zero=>simp[Ag]
   |succ i=>
    rw[show (i+1)*w=w+i*w by rw[Aue];omega]
    show (e y++Ag e r).take (w+i*w)=e y++Ag e (r.take i)
    rw[←he y,List.take_append,AuD (by omega),show (e y).length+i*(e y).length-(e y).length=i*(e y).length by omega,he y,ih i (by simpa using hi)]
 have e3:∀(l:List α) (i:Nat),i<=l.length->(Ag e l).drop (i*w)=Ag e (l.drop i):=λl=>by
  induction l with
  |nil=>intro i _;simp[Ag]
  |cons y r ih=>
   intro i hi
   cases i with
   |zero=>simp[Ag]
   |succ i=>
    rw[show (i+1)*w=w+i*w by rw[Aue];omega]
    show (e y++Ag e r).drop (w+i*w)=Ag e (r.drop i)
    rw[←he y,Aw9,List.drop_of_length_le (by omega),show (e y).length+i*(e y).length-(e y).length=i*(e y).length by omega,he y,ih i (by simpa using hi),AtZ]
 rw[e2 l i (by omega),show i*w+w=(i+1)*w by rw[Aue];omega,e3 l (i+1) (by omega),List.set_eq_take_append_cons_drop,if_pos h];simp[Ag]
end
theorem FF{a b:Int}:FX a b<0 ↔ a<b:=by
 unfold FX;split
 .omega
 .split<;>omega
theorem Ph{j:Nat}(h:j<4611686018427387904):Af.sub .i64 ((j+1:Nat):Int) 1=(j:Int):=by
 rw[DW (by omega) (by omega)];omega
theorem AY{a b:Nat}(h:a<b):Nat.blt a b=Δ:=by simpa using h
section
variable {D:Orc} (K:Knows As EQ D)
include K
theorem TQ(x:Int):D.ask (.fn 157) [iv x] []=Θ (bv Φ,[]):=by
 refine Aw K Akb (Arg ..) ?_;exact AO rfl rfl
theorem Aer(x y:Int):D.ask (.fn 84) [iv x,iv y] []=Θ (iv (FX x y),[]):=by
 refine Aw K Apn (e84 ..) ?_;refine Aa (TQ K x) ?_;simp only[ND,DK,Ab];refine Aa (TQ K y) ?_;simp only[ND,DK,Ab];unfold FX
 by_cases h:x<y
 .rw[if_pos h]
  exact Al rfl h
 .rw[if_neg h]
  refine Ai ?_ h
  by_cases h2:y<x
  .rw[if_pos h2]
   exact Al rfl h2
  .rw[if_neg h2]
   exact Ai rfl h2
theorem HE(p q:Pt):D.ask (.fn 137) [.agg (eP p),.agg (eP q)] []=Θ (iv (FX p.v q.v),[]):=by
 refine Aw K Aj0 (Aq3 ..) ?_;refine Aa (Aer K p.v q.v) ?_;rfl
def Fw:AV:=.fn (.func 137) [] []
theorem Amk(a i:Nat)(b:Int):∀(m j:Nat) (l:List Pt),j-a=m->a<=j->j<=i->i<l.length->l.length<=1000000000->Yd Pt.v l a i j->
  ∃ r:List Pt,D.ask (.lp 234 1) [.sl 0 0 l.length 3,iv (a:Int),iv b,Fw,iv (i:Int),iv (j:Int)] [δ (Ag eP l) Δ Δ]
   = Θ (.tup [iv 2,.sl 0 0 l.length 3,iv (a:Int),iv b,Fw,iv (i:Int)],[.set (δ (Ag eP r) Δ Δ)])
   ∧ r.length=l.length/\r.Perm l/\Srt Pt.v r a (i+1)/\Same0 l r a (i+1):=by
 intro m
 induction m with
 |zero=>
  intro j l hm ha hj hi hl hs;obtain rfl:j=a:=by omega
  refine⟨l,?_,rfl,List.Perm.refl _,Ux Pt.v hj hs (.inl rfl),Db _ _ _⟩;refine Ay K H7 (Vo ..) ?_;exact Ai rfl
 |succ m ih=>
  intro j l hm ha hj hi hl hs;obtain⟨k,rfl⟩:∃ k,j=k+1:=⟨j-1,by omega⟩;have h1:k+1<l.length:=by omega
  have h0:k<l.length:=by omega
  have kf1:kf Pt.v l (k+1)=l[k+1].v:=F5 Pt.v h1;have kf0:kf Pt.v l k=l[k].v:=F5 Pt.v h0
  by_cases hlt:l[k+1].v<l[k].v
  .have hs2:Yd Pt.v (Dc l (k+1) k) a i k:=ZK (j:=k+1) Pt.v hi (by omega) hj hs (by rw[Au0,kf1,kf0];exact hlt)
   have hlen:=I2 l (k+1) k;obtain⟨r,g,hr,hp,ho,hsm⟩:=ih k (Dc l (k+1) k) (by omega) (by omega) (by omega) (by omega) (by omega) hs2;rw[hlen]at g hr;refine⟨r,?_,hr,hp.trans (Hc _ _ _),ho,(ZN (by omega) (by omega) (by omega) (by omega)).trans hsm⟩;refine Ay K H7 (Vo ..) ?_;refine Al ?_;rw[Ph (by omega),Au,AY h1];refine Ac ?_;refine(BA Az l (k+1) h1 _).trans ?_;simp only[eP,eN,ND,DK,Ab];rw[Au,AY h0];refine Ac ?_;refine(BA Az l k h0 _).trans ?_;simp only[eP,eN,ND,DK,Ab];refine Aa (HE K l[k+1] l[k]) ?_;simp only[ND,DK,Ab];refine Al ?_ (FF.2 hlt);rw[Au,AY h0];refine Ac ?_;refine(BA Az l k h0 _).trans ?_;simp only[eP,eN,ND,DK,Ab];rw[Au,AY h1];refine Ac ?_;refine(BA Az l (k+1) h1 _).trans ?_;simp only[eP,eN,ND,DK,Ab];rw[Au,AY h1];refine Ac ?_;have s1:=CS Az l (k+1) h1 l[k];have s2:=CS Az (l.set (k+1) l[k]) k (by rw[AtX];exact h0) l[k+1];rw[←Ef h1 h0]at s2;simp only[eP,eN]at s1 s2;rw[show AtG (0+(k+1)*3+3) (Ag eP l).length=Δ by rw[AT Az];simp;omega];refine Ac ?_;rw[Au,AY h0];refine Ac ?_;rw[s1,s2];rw[show AtG (0+k*3+3) (Ag eP (l.set (k+1) l[k])).length=Δ by rw[AT Az,AtX];simp;omega];refine Ac ?_;refine Aa g ?_;rfl
  .refine⟨l,?_,rfl,List.Perm.refl _,Ux Pt.v hj hs (.inr ?_),Db _ _ _⟩
   .skip
    refine Ay K H7 (Vo ..) ?_;refine Al ?_;rw[Ph (by omega),Au,AY h1];refine Ac ?_;refine(BA Az l (k+1) h1 _).trans ?_;simp only[eP,eN,ND,DK,Ab];rw[Au,AY h0];refine Ac ?_;refine(BA Az l k h0 _).trans ?_;simp only[eP,eN,ND,DK,Ab];refine Aa (HE K l[k+1] l[k]) ?_;simp only[ND,DK,Ab];exact Ai rfl (λh=>hlt (FF.1 h))
   .rw[Au0,kf1,kf0]
    omega
theorem AeS(a b:Nat):∀(m i:Nat) (l:List Pt),b-i=m->a<i->i<=b->b<=l.length->l.length<=1000000000->Srt Pt.v l a i->
  ∃ r:List Pt,D.ask (.lp 234 0) [.sl 0 0 l.length 3,iv (a:Int),iv (b:Int),Fw,iv (i:Int)] [δ (Ag eP l) Δ Δ]
   = Θ (.tup [iv 0,.sl 0 0 l.length 3],[.set (δ (Ag eP r) Δ Δ)])
   ∧ r.length=l.length/\r.Perm l/\Srt Pt.v r a b/\Same0 l r a b:=by
 intro m
 induction m with
 |zero=>
  intro i l hm ha hi hb hl hs;obtain rfl:i=b:=by omega
  refine⟨l,?_,rfl,List.Perm.refl _,hs,Db _ _ _⟩;refine Ay K H7 (Vn ..) ?_;exact Ai rfl
 |succ m ih=>
  intro i l hm ha hi hb hl hs;obtain⟨r,g,hr,hp,ho,hsm⟩:=Amk K a i (b:Int) _ i l rfl (by omega) (η _) (by omega) hl (Wp Pt.v hs);obtain⟨r2,g2,hr2,hp2,ho2,hsm2⟩:=ih (i+1) r (by omega) (by omega) (by omega) (by omega) (by omega) ho;rw[hr]at g2;refine⟨r2,?_,by omega,hp2.trans hp,ho2,(hsm.wide (η _) (by omega)).trans hsm2⟩;refine Ay K H7 (Vn ..) ?_;refine Al ?_;refine Aa g ?_;simp only[Fw,ND,DK,Ab];refine Ac ?_;rw[BQ (by omega)];refine Aa g2 ?_;rfl
theorem AbR{a b:Nat}{l:List Pt}(hab:a<=b)(hb:b<=l.length)(hl:l.length<=1000000000) :
  ∃ r:List Pt,D.ask (.fn 234) [.sl 0 0 l.length 3,iv (a:Int),iv (b:Int),Fw] [δ (Ag eP l) Δ Δ]=Θ (.tup [],[.set (δ (Ag eP r) Δ Δ)])
   ∧ r.length=l.length/\r.Perm l/\Srt Pt.v r a b/\Same0 l r a b:=by
 by_cases h:a<b
 .obtain⟨r,g,hr⟩:=AeS K a b _ (a+1) l rfl (by omega) (by omega) hb hl (Ai0 Pt.v l a)
  refine⟨r,?_,hr⟩;refine Aw K H7 (AoK ..) ?_;rw[BQ (by omega)];refine Aa g ?_;rfl
 .obtain rfl:a=b:=by omega
  have g:D.ask (.lp 234 0) [.sl 0 0 l.length 3,iv (a:Int),iv (a:Int),Fw,iv ((a+1:Nat):Int)] [δ (Ag eP l) Δ Δ]=Θ (.tup [iv 0,.sl 0 0 l.length 3],[.set (δ (Ag eP l) Δ Δ)]):=by
   refine Ay K H7 (Vn ..) ?_;exact Ai rfl
  refine⟨l,?_,rfl,List.Perm.refl _,AiZ Pt.v l a,Db _ _ _⟩;refine Aw K H7 (AoK ..) ?_;rw[BQ (by omega)];refine Aa g ?_;rfl
end
structure Tm where
 ps:List Pt
 k:Zi
def eT(t:Tm):List AV:=[.ls (t.ps.map eP),bv t.k.neg,eN t.k.abs]
structure Lf where
 ps:List (Int × Int)
 k:Int
def pv(p:Pt):Int × Int:=(p.v,zv p.z)
def AR(p:Int × Int):Pt:=⟨p.1,AD p.2⟩
def Tm.lf(t:Tm):Lf:=⟨t.ps.map pv,zv t.k⟩
def Lf.tm(l:Lf):Tm:=⟨l.ps.map AR,AD l.k⟩
def Lf.pln(l:Lf):Lf:=⟨Ba l.ps,l.k⟩
theorem AiC(p:Int × Int):pv (AR p)=p:=by
 unfold pv AR;rw[Bm]
theorem DC(l:Lf):l.tm.lf=l:=by
 obtain⟨ps,k⟩:=l;unfold Lf.tm Tm.lf;simp only[List.map_map,Bm];rw[show (pv ∘ AR)=id from funext AiC,List.map_id]
theorem XN(l:Lf):l.pln.pln=l.pln:=by
 unfold Lf.pln;rw[JP (DU _)]
structure TmB (n k:Nat) (t:Tm):Prop where
 len:t.ps.length<=n
 ps:∀ p∈t.ps,Lz k p.z
 k:Lz k t.k
structure LB (n k:Nat) (l:Lf):Prop where
 len:l.ps.length<=n
 ps:∀ p∈l.ps,InB k p.2
 k:InB k l.k
theorem TmB.lb{n k:Nat}{t:Tm}(h:TmB n k t):LB n k t.lf:=by
 refine⟨by simpa[Tm.lf]using h.len,λp hp=>?_,h.k.inb⟩;simp only[Tm.lf,Auw]at hp;obtain⟨q,hq,rfl⟩:=hp;exact(h.ps q hq).inb
theorem LB.tb{n k:Nat}{l:Lf}(h:LB n k l):TmB n k l.tm:=by
 refine⟨by simpa[Lf.tm]using h.len,λp hp=>?_,h.k.lz⟩;simp only[Lf.tm,Auw]at hp;obtain⟨q,hq,rfl⟩:=hp;exact(h.ps q hq).lz
theorem LB.mono{n k m j:Nat}{l:Lf}(h:LB n k l)(hn:n<=m)(hk:k<=j):LB m j l:=⟨by have:=h.len;omega,λp hp=>(h.ps p hp).mono hk,h.k.mono hk⟩
theorem TmB.mono{n k m j:Nat}{t:Tm}(h:TmB n k t)(hn:n<=m)(hk:k<=j):TmB m j t:=⟨by have:=h.len;omega,λp hp=>(h.ps p hp).mono hk,h.k.mono hk⟩
theorem IK{k:Nat}(v:Int):∀ l:List (Int × Int),(∀ p∈l,InB k p.2)->InB (k+l.length) (Bj v l)
 |[],_=>InB.zero _
 |p::r,h=>by
  have h1:=IK v r λq hq=>h q (AtF _ hq)
  have h2:=h p (AtL ..);rw[Bj,γ,←Nat.add_assoc];refine InB.add ?_ h1;split
  .exact h2.mono (by omega)
  .exact InB.zero _
theorem Pln.mem:∀{l:List (Int × Int)},Pln l->∀ p∈l,Bj p.1 l=p.2
 |q::r,h,p,hp=>by
  rcases AtC.1 hp with rfl|hp
  .exact h.head
  .rw[Bj,if_neg (by have:=(Aup.1 h.asc).1 p hp;omega),h.tail.mem p hp]
   omega
theorem LB.pln{n k:Nat}{l:Lf}(h:LB n k l):LB n (k+n) l.pln:=by
 have hl:=Gu l.ps;refine⟨by have:=h.len;simp only[Lf.pln];omega,λp hp=>?_,h.k.mono (by omega)⟩;have h1:=(DU l.ps).mem p hp;rw[JO,if_pos ((DU l.ps).pos p hp)]at h1;rw[←h1];exact(IK p.1 l.ps h.ps).mono (by have:=h.len;omega)
def Lf.add(a b:Lf):Lf:=Lf.pln ⟨a.ps++b.ps,a.k+b.k⟩
def Lf.scale(a:Lf)(n:Int):Lf:=Lf.pln ⟨a.ps.map λp=>(p.1,p.2*n),a.k*n⟩
def Lf.sub(a b:Lf):Lf:=a.add (b.scale (-1))
def Lf.num(k:Int):Lf:=⟨[],k⟩
theorem LB.app{n k m j:Nat}{a b:Lf}(ha:LB n k a)(hb:LB m j b):LB (n+m) (k+j+1) ⟨a.ps++b.ps,a.k+b.k⟩:=by
 refine⟨by have:=ha.len;have:=hb.len;simp only[κ];omega,λp hp=>?_,InB.add (ha.k.mono (by omega)) (hb.k.mono (by omega))⟩;rcases List.mem_append.1 hp with h|h
 .exact(ha.ps p h).mono (by omega)
 .exact(hb.ps p h).mono (by omega)
theorem LB.mul{n k j:Nat}{a:Lf}{x:Int}(ha:LB n k a)(hx:InB j x):LB n (k+j) ⟨a.ps.map λp=>(p.1,p.2*x),a.k*x⟩:=by
 refine⟨by simpa using ha.len,λp hp=>?_,InB.mul ha.k hx⟩;simp only[Auw]at hp;obtain⟨q,hq,rfl⟩:=hp;exact InB.mul (ha.ps q hq) hx
theorem LB.add{n k m j:Nat}{a b:Lf}(ha:LB n k a)(hb:LB m j b):LB (n+m) (k+j+1+(n+m)) (a.add b):=(ha.app hb).pln
theorem LB.scale{n k j:Nat}{a:Lf}{x:Int}(ha:LB n k a)(hx:InB j x):LB n (k+j+n) (a.scale x):=(ha.mul hx).pln
def Cz(f:Int->Int):List (Int × Int)->Int
 |[]=>0
 |p::r=>p.2*f p.1+Cz f r
def Lf.val(f:Int->Int)(l:Lf):Int:=Cz f l.ps+l.k
theorem UB(f:Int->Int):∀ a b,Cz f (a++b)=Cz f a+Cz f b
 |[],b=>by simp[Cz]
 |p::r,b=>by rw[List.cons_append,Cz,Cz,UB f r b];omega
theorem Pk(f:Int->Int)(n:Int):∀ a:List (Int × Int),Cz f (a.map λp=>(p.1,p.2*n))=Cz f a*n
 |[]=>by simp[Cz]
 |p::r=>by
  rw[List.map_cons,Cz,Cz,Pk f n r,Av3,Awm,Awm,Int.mul_comm n]
theorem QL(f:Int->Int)(v c:Int):∀ l,Cz f (Ib v c l)=c*f v+Cz f l
 |[]=>by
  unfold Ib;split
  .rename_i h;simp[Cz,h]
  .simp[Cz]
 |p::r=>by
  have ih:=QL f v c r;unfold Ib;split
  .split
   .rename_i h;rw[h];simp
   .rfl
  .split
   .rw[Cz,ih,Cz];omega
   .have e:p.1=v:=by omega
    split
    .rename_i h
     rw[Cz,e,←Int.add_assoc,←Av3,Awt c,h];simp
    .show (p.2+c)*f v+Cz f r=c*f v+(p.2*f p.1+Cz f r)
     rw[e,Av3];omega
theorem Pj{f:Int->Int}(hf:∀ v,v<0->f v=0):∀ l,Cz f (Ba l)=Cz f l
 |[]=>rfl
 |p::r=>by
  have ih:=Pj hf r;unfold Ba;split
  .rw[QL,ih,Cz]
  .rename_i h
   rw[ih,Cz,hf p.1 (by omega)];simp
theorem SD{f:Int->Int}(hf:∀ v,v<0->f v=0)(l:Lf):l.pln.val f=l.val f:=by
 unfold Lf.pln Lf.val;rw[Pj hf]
theorem Aje{f:Int->Int}(hf:∀ v,v<0->f v=0)(a b:Lf):(a.add b).val f=a.val f+b.val f:=by
 unfold Lf.add;rw[SD hf];unfold Lf.val;simp only[UB];omega
theorem I4{f:Int->Int}(hf:∀ v,v<0->f v=0)(a:Lf)(n:Int):(a.scale n).val f=a.val f*n:=by
 unfold Lf.scale;rw[SD hf];unfold Lf.val;simp only[Pk,Av3]
theorem Lg{f:Int->Int}(hf:∀ v,v<0->f v=0)(a b:Lf):(a.sub b).val f=a.val f-b.val f:=by
 unfold Lf.sub;rw[Aje hf,I4 hf];omega
def CT(vals:List Int)(v:Int):Int:=if v<0 then 0 else vals.getD v.toNat 0
theorem Ld(vals:List Int)(v:Int)(h:v<0):CT vals v=0:=if_pos h
section
open Go.RowKit
def Afb:MFn:=AC [⟨21,(mB 3596),[],[2,3],[(1,((mB 12),([],[])))]⟩] 67
def AbM:Hnt:=⟨[(62,(.agg Br,[])),(147,(.agg AK,[]))],[(0,[(1,([.ptr 0 0,.ptr 1 0],[.box AK,.box AK]))])],[(7,Br),(13,Bw),(14,Bw),(15,AK),(17,AK),(20,AK)]⟩
def X6:List (Nat × MFn):=[(67,Afb)]
variable (A:Ar) (D:Orc)
theorem e67(x0_0:Rw)(x0_1:Bool)(x0_2:Rw):BZ A D As AbM .n 67 Afb [ψ [Ψ x0_0,bv x0_1,Ψ x0_2]] [] =
 Ae D (ω 62) [ψ [Ψ x0_0,bv x0_1,Ψ x0_2]] [] [.a,.L,.B,.L,.N,.E] λxs _ _=>
 Ae D (AtB 67 0) [AtA 0 0,AtA 1 0,Ψ xs,iv ↑(AI xs),iv 0] [bk [bv Φ,Ψ []],bk [bv Φ,Ψ []]] [.t,.C,.x,.X,.Y] λc l3 o1=>
 br (Bn 1 c)
 (dk [.P 0 0,.P 1 0,.N,.T,.B,.L,.N,.T,.B,.L,.N,.E] [.l l3,.o o1] λ_ _ b2 xs3=>
 Θ ((ψ [bv b2,Ψ xs3],[])))
 (Ξ):=by kernel_rfl
theorem AjI(b2_0:Bool)(b2_1:Rw)(b3_0:Bool)(b3_1 t9:Rw)(t10 t11:Int):Dy A D As AbM .n 67 0 (AU Afb 0).fst (AU Afb 0).snd [AtA 0 0,AtA 1 0,Ψ t9,iv t10,iv t11] [bk [bv b2_0,Ψ b2_1],bk [bv b3_0,Ψ b3_1]] =
 br (A.lt t11 t10)
 (unI t11 λi=>
 BC t9 i λcs=>
 dk [.I,.B,.L,.N] [.l cs] λn b xs=>
 Ae D (ω 147) [ψ [bv b3_0,Ψ b3_1],ψ [bv b,Ψ xs]] [] [.a,.B,.L,.N,.E] λb1 xs1=>
 AG D (AtB 67 0) [AtA 0 0,AtA 1 0,Ψ t9,iv t10,iv (A.add θ t11 1)] [bk [bv b2_0,Ψ b2_1],bk [bv b1,Ψ xs1]] λr1 o1=>
 AE 2 [0,1] (AH.mk [(1,bk [bv b1,Ψ xs1]),(0,bk [bv b2_0,Ψ b2_1]),(2,bk [iv n,bv b,Ψ xs])] 3 Ξ) [0,1] r1 o1)
 (Θ ((υ [iv 0,AtA 0 0,AtA 1 0],[AtH (bk [bv b2_0,Ψ b2_1]),AtH (bk [bv b3_0,Ψ b3_1])]))):=by kernel_rfl
end
structure ZdF (D:Orc):Prop where
 div:∀ a b:Zi,Lz 800000000 a->Lz 800000000 b->D.ask (.fn 66) [.agg (eZ a),.agg (eZ b)] []
  = Θ (if zv b=0 then .tup [.agg [bv Φ,.ls []],.agg [bv Φ,.ls []],iv 10] else .tup [.agg (eZ (AD (qZ (zv a) (zv b)))),.agg (eZ (AD (rZ (zv a) (zv b)))),iv 0],[])
 exact:∀ a b:Zi,Lz 800000000 a->Lz 800000000 b->D.ask (.fn 143) [.agg (eZ a),.agg (eZ b)] []
  = Θ (if zv b=0 then .tup [.agg [bv Φ,.ls []],iv 10] else if rZ (zv a) (zv b)=0 then .tup [.agg (eZ (AD (qZ (zv a) (zv b)))),iv 0] else .tup [.agg [bv Φ,.ls []],iv 1],[])
 gcd:∀ a b:Zi,Lz 900000000 a->Lz 900000000 b->D.ask (.fn 147) [.agg (eZ a),.agg (eZ b)] []=Θ (.agg (eZ (AD (AvR (zv a).natAbs (zv b).natAbs:Nat))),[])
theorem All{D:Orc}(K:Knows As Jk D)(Z:Knows As MJ D)(C:CloneF D)(G:Knows As QN D)(V:DivF D):ZdF D:=⟨λ_ _ ha hb=>Ya K Z C G V ha hb,λ_ _ ha hb=>Z9 K Z C G V ha hb,λ_ _ ha hb=>Ajw K Z C G V ha hb⟩
def Rz(g:Nat)(l:List (Int × Int)):Nat:=l.foldl (λg p=>AvR g p.2.natAbs) g
theorem RB{k g:Nat}{x:Int}(hg:InB k (g:Int))(hx:InB k x):InB k ((AvR g x.natAbs:Nat):Int):=by
 unfold InB at *;rw[AvV]at *;rcases AuO g with h|h
 .rw[h,Aw5]
  exact hx
 .have:=Axi x.natAbs h
  omega
theorem To{k:Nat}:∀(l:List (Int × Int)) (g:Nat),InB k (g:Int)->(∀ p∈l,InB k p.2)->InB k (Rz g l:Int)
 |[],_,h,_=>h
 |p::r,g,h,hl=>To r _ (RB h (hl p (AtL ..))) λq hq=>hl q (AtF _ hq)
theorem Ky:∀(l:List (Int × Int)) (g:Nat),Rz g l ∣ g/\∀ p∈l,Rz g l ∣ p.2.natAbs
 |[],g=>⟨Nat.dvd_refl _,λ_ h=>by cases h⟩
 |p::r,g=>by
  obtain⟨h1,h2⟩:=Ky r (AvR g p.2.natAbs);refine⟨Axs h1 (Nat.gcd_dvd_left ..),λq hq=>?_⟩;rcases AtC.1 hq with rfl|h
  .exact Axs h1 (Nat.gcd_dvd_right ..)
  .exact h2 q h
section
variable {D:Orc} (T:Knows As X6 D) (W:ZdF D)
include T W
theorem AlS(l:List (Int × Int))(hlen:l.length<=4000000)(hl:∀ p∈l,InB 800000000 p.2):∀(m i g:Nat),l.length-i=m->i<=l.length->InB 800000000 (g:Int)->
  D.ask (.lp 67 0) [.ptr 0 0,.ptr 1 0,.ls (l.map λp=>eP (AR p)),iv (l.length:Int),iv (i:Int)] [bk [bv Φ,.ls []],bk (eZ (AD (g:Int)))]
   = Θ (.tup [iv 0,.ptr 0 0,.ptr 1 0],[.set (bk [bv Φ,.ls []]),.set (bk (eZ (AD (Rz g (l.drop i):Int))))]):=by
 intro m
 induction m with
 |zero=>
  intro i g hm hi hg;rw[AtM (by omega)];refine Ay T AbM (AjI ..) ?_;exact Ai rfl
 |succ m ih=>
  intro i g hm hi hg;have h1:i<l.length:=by omega
  have hx:=hl _ (List.getElem_mem h1);rw[ε h1];have ga:=W.gcd (AD (g:Int)) (AD l[i].2) (hg.lz.mono (by omega)) (hx.lz.mono (by omega));rw[Bm,Bm,AvV]at ga;have ih1:=ih (i+1) (AvR g l[i].2.natAbs) (by omega) (by omega) (RB hg hx);refine Ay T AbM (AjI ..) ?_;refine Al ?_;rw[Au,Ax (f:=λp=>eP (AR p)) (ξ h1)];simp only[eP,AR,eN,ND,DK,Ab];refine Aa ga ?_;simp only[eZ,eN,ND,DK,Ab];rw[BQ (by omega)];refine Aa ih1 ?_;rfl
theorem Vf{t:Tm}{l:List (Int × Int)}{k:Zi}(hp:D.ask (.fn 62) [.agg (eT t)] []=Θ (.agg [.ls (l.map λp=>eP (AR p)),bv k.neg,eN k.abs],[]))(hlen:l.length<=4000000)(hl:∀ p∈l,InB 800000000 p.2) :
  D.ask (.fn 67) [.agg (eT t)] []=Θ (.agg (eZ (AD (Rz 0 l:Int))),[]):=by
 have g:=AlS T W l hlen hl _ 0 0 rfl (by omega) (InB.zero _);rw[Aty,show AD ((0:Nat):Int)=⟨Φ,[]⟩ from Ad2,show eZ ⟨Φ,[]⟩=[bv Φ,.ls []] from rfl]at g;refine Aw T AbM (e67 ..) ?_;refine Aa hp ?_;simp only[eZ,eN,Ao,ND,DK,Ab];refine Aa g ?_;rfl
end
