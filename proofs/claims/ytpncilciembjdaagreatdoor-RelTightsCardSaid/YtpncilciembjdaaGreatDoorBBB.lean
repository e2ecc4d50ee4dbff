/- Functions of the program -/
import Derived.Test.YtpncilciembjdaaGreatDoorBAS
import Derived.Test.YtpncilciembjdaaGreatDoorBAX
import Derived.Test.YtpncilciembjdaaGreatDoorBBA
set_option linter.all false
open Int renaming eq_ofNat_of_zero_le->Ar3,mul_neg->As4,mul_zero->ArU,natAbs_neg->Aq2,natCast_mul->Aq8,neg_mul->Aru,sub_eq_add_neg->ArK,tdiv->Arj,tmod->AsU,zero_mul->Asj
open List renaming append_assoc->Ao9,append_nil->ApQ,drop->ι,drop_eq_getElem_cons->ω,drop_eq_nil_of_le->υ,drop_zero->χ,getD_eq_getElem?_getD->AqY,getElem?_eq_getElem->Ψ,getElem?_eq_none->Ap9,length_append->η,length_cons->π,length_singleton->Apm,length_take->Apg,nil_append->Apv,replicate->Aqj,tail_drop->AqV,take->κ,take_of_length_le->ApZ,take_succ_eq_append_getElem->ApC
open Nat renaming add_mul_div_left->AqZ,add_zero->ApJ,ble->Apa,div_div_eq_div_mul->Arx,div_eq_of_lt->AqL,div_le_self->Ar6,div_one->As6,eq_zero_or_pos->Aqh,gcd->AqJ,gcd_comm->ArZ,gcd_le_left->AsG,gcd_rec->As7,gcd_zero_left->Asu,gcd_zero_right->Ark,le_refl->φ,le_trans->Apx,lt_of_lt_of_le->Aqc,min_eq_left->ApL,mod_eq_of_lt->Ap1,mod_lt->ApI,mul_add->ApW,mul_add_div->AsI,mul_add_mod->AsJ,mul_assoc->Apo,mul_comm->ApD,mul_left_comm->Asv,mul_one->AqP,mul_zero->Arl,pow_add->Aq1,pow_le_pow_right->Aqf,pow_succ->ApU,pow_zero->As2,succ_pos->Asn,zero_add->Apy,zero_div->As3,zero_le->ApM
namespace Go.Proofs.YtpncilciembjdaaGreatDoor
noncomputable section
open ABlk renaming mk->Ξ
open AV renaming agg->Ω,ls->Δ,sl->ζ,tup->ν,v->Apc
open BO renaming set->ο
open IntKind renaming i64->Φ,u32->ξ,u64->Θ
open Key renaming fn->θ,lp->γ
section
open Go.RowKit
def Ako:AB:=[⟨37,[true,false,false,true,true],[(3,1)],[],[(1,([false,false,false,true],([],[])))]⟩,⟨37,[false,false,false,true],[(3,1)],[],[(3,([false,false,false,true],([],[])))]⟩]
def N6:MFn:=AS Ako 149
def J9:Hnt:=⟨[],[(0,[(1,([.sl 1 1],[.del,.row true]))]),(1,[(3,([.sl 1 1],[.del,.row true]))])],[(15,[.int .u32]),(16,[.int .u32]),(27,[.int .u32]),(28,[.int .u32])]⟩
def AgR:MFn:=AS [] 186
def Af7:Hnt:=⟨[],[],[]⟩
def AgS:MFn:=AS [] 187
def Af8:Hnt:=⟨[],[],[(15,[.int .u32]),(16,[.int .u32])]⟩
def AkF:AB:=[⟨28,[true,true,false,false,false,true],[],[],[(0,([false,false,false,false,true],([],[]))),(1,([],([],[])))]⟩]
def Uj:MFn:=AS AkF 228
def QN:Hnt:=⟨[(186,(.int .i64,[])),(187,(.int .u64,[]))],[(0,[(0,([.int .i64],[])),(1,([],[]))])],[]⟩
def Akl:AB:=[⟨36,[true,true,false,false,false,true,true,true],[(5,1)],[],[(1,([false,false,false,false,false,true],([],[])))]⟩]
def TZ:MFn:=AS Akl 129
def QC:Hnt:=⟨[(149,(.ls,[])),(186,(.int .i64,[])),(187,(.int .u64,[]))],[(0,[(1,([.sl 1 1],[.del,.row true]))])],[]⟩
def Akr:AB:=[⟨43,[true,true,false,false,false,false,true,true,true],[(6,1)],[],[(1,([false,false,false,false,false,false,true],([],[])))]⟩]
def T8:MFn:=AS Akr 182
def QH:Hnt:=⟨[(149,(.ls,[])),(186,(.int .i64,[])),(187,(.int .u64,[])),(228,(.int .i64,[]))],[(0,[(1,([.sl 1 1],[.del,.row true]))])],[]⟩
def AkG:AB:=[⟨37,[true,true,false,false,false,true,true,true],[(5,1)],[],[(1,([false,false,false,false,false,true,true],([],[])))]⟩]
def Uk:MFn:=AS AkG 229
def QO:Hnt:=⟨[(149,(.ls,[])),(187,(.int .u64,[]))],[(0,[(1,([.sl 1 1,.int .u64],[.del,.row true]))])],[]⟩
def Aks:AB:=[⟨42,[true,true,false,false,false,true,true],[],[5],[(1,([false,false,false,false,false,true],([],[])))]⟩,⟨42,[true,true,false,false,false,true,true,true,true],[(7,1)],[],[(3,([true,true,false,false,false,false,true,true],([],[])))]⟩]
def N7:MFn:=AS Aks 183
def Ka:Hnt:=⟨[(129,(.ls,[])),(149,(.ls,[])),(229,(.ls,[]))],[(0,[(1,([.ls],[]))]),(1,[(3,([.ls,.ls,.int .i64,.sl 1 1],[.del,.row true]))])],[(27,[.int .u32]),(28,[.int .u32]),(35,[.int .u32]),(36,[.int .u32])]⟩
def AkD:AB:=[⟨26,[true,true,false,false,false,true],[],[],[(0,([false,false,false,false,true],([],[]))),(1,([],([],[])))]⟩]
def Ui:MFn:=AS AkD 210
def Mr:Hnt:=⟨[],[(0,[(0,([.bool],[])),(1,([],[]))])],[(19,[.int .u32]),(20,[.int .u32]),(23,[.int .u32]),(24,[.int .u32])]⟩
def Hw:List (Nat × MFn):=[(149,N6),(186,AgR),(187,AgS),(228,Uj),(129,TZ),(182,T8),(229,Uk),(183,N7),(210,Ui)]
variable (A:Ar) (D:Orc)
theorem AmH(x0:Rw):BP A D As J9 .n 149 N6 [Δ x0] [] =
 Af D (γ 149 0) [Δ x0,ζ 0 0 0 1,iv 0] [Ξ [] true true] [.t,.C,.x,.X,.Y] λc l o=>
 br (Bo 1 c)
 (dk [.C,.q 1 1,.N,.D,.R,.X,.E] [.l l,.o o] λn cs1=>
 Af D (γ 149 1) [ζ 0 0 n 1] [Ξ cs1 true true] [.t,.C,.x,.X,.Y] λc4 l4 o1=>
 br (Bo 3 c4)
 (dk [.C,.q 1 1,.N,.D,.R,.X,.E] [.l l4,.o o1] λn1 cs3=>
 br ((0+n1*1).ble cs3.length) (some ((Δ (Bh n1 1 (κ (n1*1) cs3)),[]))) none)
 (none))
 (none):=by kernel_rfl
theorem Xb(t0:Rw)(n3:Nat)(c3:List AV)(t4:Int):CO A D As J9 .n 149 0 (AN N6 0).fst (AN N6 0).snd [Δ t0,ζ 0 0 n3 1,iv t4] [{ cells:=c3,st:=true,ex:=true }] =
 br (A.lt t4 ↑(AF t0))
 (unI t4 λi=>
 Bl t0 i λcs=>
 dk [.J .u32,.N] [.l cs] λn=>
 br (Be (n3+1) 4) (br ((0+n3*1).ble c3.length) (AI D (γ 149 0) [Δ t0,ζ 0 0 (n3+1) 1,iv (A.add Φ t4 1)] [Ξ (ι 0 (κ (0+n3*1) c3)++[Apc (Value.int ξ n)]) true true] λr o=>
 AE 1 [2] (AH.mk [(2,Ξ (ι 0 (κ (0+n3*1) c3)++[Apc (Value.int ξ n)]) true true),(1,Ξ [Apc (Value.int ξ n)] true true)] 3 none) [0] r o) none) none)
 (some ((ν [iv 0,ζ 1 0 n3 1],[BO.del,ο (Ξ c3 true true)]))):=by kernel_rfl
theorem Xc(n3:Nat)(c3:List AV):CO A D As J9 .n 149 1 (AN N6 1).fst (AN N6 1).snd [ζ 0 0 n3 1] [{ cells:=c3,st:=true,ex:=true }] =
 br (A.lt 0 ↑n3)
 (unI (A.sub Φ (↑n3) 1) λi=>
 br (i.blt n3) (EQ c3 (0+i*1) 1 λcs=>
 dk [.J .u32,.N] [.l cs] λn=>
 br (A.eq n 0)
 (unI (A.sub Φ (↑n3) 1) λi1=>
 br (IK 0 i1 n3) (AI D (γ 149 1) [ζ 0 0 i1 1] [Ξ c3 true true] λr o=>
 AE 1 [0] (AH.mk [(0,Ξ c3 true true)] 1 none) [] r o) none)
 (some ((ν [iv 2,ζ 1 0 n3 1],[BO.del,ο (Ξ c3 true true)])))) none)
 (some ((ν [iv 2,ζ 1 0 n3 1],[BO.del,ο (Ξ c3 true true)]))):=by kernel_rfl
theorem AmX(x0 x1:Rw):BP A D As Af7 .n 186 AgR [Δ x0,Δ x1] [] =
 br (A.lt ↑(AF x1) ↑(AF x0))
 (some ((iv ↑(AF x0),[])))
 (some ((iv ↑(AF x1),[]))):=by kernel_rfl
theorem AmY(x0:Rw)(x1:Int):BP A D As Af8 .n 187 AgS [Δ x0,iv x1] [] =
 br (A.lt x1 0)
 (some ((Apc (Value.int Θ 0),[])))
 (br (A.le (↑(AF x0)) x1)
 (some ((Apc (Value.int Θ 0),[])))
 (unI x1 λi=>
 Bl x0 i λcs=>
 dk [.J .u32,.N] [.l cs] λn=>
 some ((Apc (Value.int Θ (A.conv Θ n)),[])))):=by kernel_rfl
theorem Ane(x0 x1:Rw):BP A D As QN .n 228 Uj [Δ x0,Δ x1] [] =
 Af D (θ 186) [Δ x0,Δ x1] [] [.i,.E] λn=>
 Af D (γ 228 0) [Δ x0,Δ x1,iv (A.sub Φ n 1)] [] [.t,.C,.x,.X,.Y] λc l o1=>
 br (Bo 0 c)
 (dk [.I,.N,.E] [.l l,.o o1] λn1=>
 some ((iv n1,[])))
 (br (Bo 1 c)
 (EM l<|
 Dd o1<|
 some ((iv 0,[])))
 (none)):=by kernel_rfl
theorem Xr(t0 t1:Rw)(t5:Int):CO A D As QN .n 228 0 (AN Uj 0).fst (AN Uj 0).snd [Δ t0,Δ t1,iv t5] [] =
 br (A.le 0 t5)
 (Af D (θ 187) [Δ t0,iv t5] [] [.j .u64,.E] λn=>
 Af D (θ 187) [Δ t1,iv t5] [] [.j .u64,.E] λn1=>
 br (A.lt n n1)
 (some ((ν [bv true,iv (-1)],[])))
 (Af D (θ 187) [Δ t0,iv t5] [] [.j .u64,.E] λn2=>
 Af D (θ 187) [Δ t1,iv t5] [] [.j .u64,.E] λn3=>
 br (A.lt n3 n2)
 (some ((ν [bv true,iv 1],[])))
 (AI D (γ 228 0) [Δ t0,Δ t1,iv (A.sub Φ t5 1)] [] λr4 o4=>
 AE 0 [] (AH.mk [] 0 none) [] r4 o4)))
 (some ((ν [iv 0],[]))):=by kernel_rfl
theorem Amv(x0 x1:Rw):BP A D As QC .n 129 TZ [Δ x0,Δ x1] [] =
 Af D (γ 129 0) [Δ x0,Δ x1,ζ 0 0 0 1,Apc (Value.int Θ 0),iv 0] [Ξ [] true true] [.t,.C,.x,.X,.Y] λc l o=>
 br (Bo 1 c)
 (dk [.C,.q 1 1,.N,.D,.R,.X,.E] [.l l,.o o] λn cs1=>
 br ((0+n*1).ble cs1.length) (AI D (θ 149) [Δ (Bh n 1 (κ (n*1) cs1))] [] λr1 o1=>
 JR r1 λxs=>
 Dd o1<|
 some ((Δ xs,[]))) none)
 (none):=by kernel_rfl
theorem W9(t0 t1:Rw)(n5:Nat)(c5:List AV)(t6 t7:Int):CO A D As QC (.b (.b (.b .n (.b .n (.f .n))) .n) .n) 129 0 (AN TZ 0).fst (AN TZ 0).snd [Δ t0,Δ t1,ζ 0 0 n5 1,Apc (Value.int Θ t6),iv t7] [{ cells:=c5,st:=true,ex:=true }] =
 Af D (θ 186) [Δ t0,Δ t1] [] [.i,.E] λn=>
 br (A.le t7 n)
 (Af D (θ 187) [Δ t0,iv t7] [] [.j .u64,.E] λn1=>
 Af D (θ 187) [Δ t1,iv t7] [] [.j .u64,.E] λn2=>
 br (A.eq 4294967296 0)
 (none)
 (br (Be (n5+1) 4) (br ((0+n5*1).ble c5.length) (br (A.eq 4294967296 0) none (AI D (γ 129 0) [Δ t0,Δ t1,ζ 0 0 (n5+1) 1,Apc (Value.int Θ (A.quo Θ (A.add Θ (A.add Θ n1 n2) t6) 4294967296)),iv (A.add Φ t7 1)] [Ξ (ι 0 (κ (0+n5*1) c5)++[Apc (Value.int ξ (A.conv ξ (A.rem Θ (A.add Θ (A.add Θ n1 n2) t6) 4294967296)))]) true true] λr3 o3=>
 AE 1 [2] (AH.mk [(2,Ξ (ι 0 (κ (0+n5*1) c5)++[Apc (Value.int ξ (A.conv ξ (A.rem Θ (A.add Θ (A.add Θ n1 n2) t6) 4294967296)))]) true true),(1,Ξ [Apc (Value.int ξ (A.conv ξ (A.rem Θ (A.add Θ (A.add Θ n1 n2) t6) 4294967296)))] true true)] 3 none) [0] r3 o3)) none) none))
 (some ((ν [iv 0,ζ 1 0 n5 1],[BO.del,ο (Ξ c5 true true)]))):=by kernel_rfl
theorem AmT(x0 x1:Rw):BP A D As QH .n 182 T8 [Δ x0,Δ x1] [] =
 Af D (θ 228) [Δ x0,Δ x1] [] [.i,.E] λn=>
 br (A.lt n 0)
 (some ((ν [Δ [],bv false],[])))
 (Af D (γ 182 0) [Δ x0,Δ x1,ζ 0 0 0 1,Apc (Value.int Θ 0),iv 0] [Ξ [] true true] [.t,.C,.x,.X,.Y] λc l o1=>
 br (Bo 1 c)
 (dk [.C,.q 1 1,.N,.D,.R,.X,.E] [.l l,.o o1] λn1 cs1=>
 br ((0+n1*1).ble cs1.length) (AI D (θ 149) [Δ (Bh n1 1 (κ (n1*1) cs1))] [] λr2 o2=>
 JR r2 λxs=>
 Dd o2<|
 some ((ν [Δ xs,bv true],[]))) none)
 (none)):=by kernel_rfl
theorem Xf(t0 t1:Rw)(n6:Nat)(c6:List AV)(t7 t8:Int):CO A D As QH (.b (.b (.b .n (.b .n (.f .n))) .n) .n) 182 0 (AN T8 0).fst (AN T8 0).snd [Δ t0,Δ t1,ζ 0 0 n6 1,Apc (Value.int Θ t7),iv t8] [{ cells:=c6,st:=true,ex:=true }] =
 Af D (θ 186) [Δ t0,Δ t1] [] [.i,.E] λn=>
 br (A.lt t8 n)
 (Af D (θ 187) [Δ t0,iv t8] [] [.j .u64,.E] λn1=>
 Af D (θ 187) [Δ t1,iv t8] [] [.j .u64,.E] λn2=>
 br (A.eq 4294967296 0)
 (none)
 (br (Be (n6+1) 4) (br ((0+n6*1).ble c6.length) (br (A.eq 4294967296 0) none (AI D (γ 182 0) [Δ t0,Δ t1,ζ 0 0 (n6+1) 1,Apc (Value.int Θ (A.sub Θ 1 (A.quo Θ (A.sub Θ (A.sub Θ (A.add Θ n1 4294967296) n2) t7) 4294967296))),iv (A.add Φ t8 1)] [Ξ (ι 0 (κ (0+n6*1) c6)++[Apc (Value.int ξ (A.conv ξ (A.rem Θ (A.sub Θ (A.sub Θ (A.add Θ n1 4294967296) n2) t7) 4294967296)))]) true true] λr3 o3=>
 AE 1 [2] (AH.mk [(2,Ξ (ι 0 (κ (0+n6*1) c6)++[Apc (Value.int ξ (A.conv ξ (A.rem Θ (A.sub Θ (A.sub Θ (A.add Θ n1 4294967296) n2) t7) 4294967296)))]) true true),(1,Ξ [Apc (Value.int ξ (A.conv ξ (A.rem Θ (A.sub Θ (A.sub Θ (A.add Θ n1 4294967296) n2) t7) 4294967296)))] true true)] 3 none) [0] r3 o3)) none) none))
 (some ((ν [iv 0,ζ 1 0 n6 1],[BO.del,ο (Ξ c6 true true)]))):=by kernel_rfl
theorem Anf(x0:Rw)(x1:Int):BP A D As QO .n 229 Uk [Δ x0,Apc (Value.int Θ x1)] [] =
 Af D (γ 229 0) [Δ x0,Apc (Value.int Θ x1),ζ 0 0 0 1,Apc (Value.int Θ 0),iv 0] [Ξ [] true true] [.t,.C,.x,.X,.Y] λc l o=>
 br (Bo 1 c)
 (dk [.C,.q 1 1,.J .u64,.N,.D,.R,.X,.E] [.l l,.o o] λn n1 cs1=>
 br (Be (n+1) 4) (br ((0+n*1).ble cs1.length) (br ((0+(n+1)*1).ble (ι 0 (κ (0+n*1) cs1)++[Apc (Value.int ξ (A.conv ξ n1))]).length) (AI D (θ 149) [Δ (Bh (n+1) 1 (κ ((n+1)*1) (ι 0 (ι 0 (κ (0+n*1) cs1)++[Apc (Value.int ξ (A.conv ξ n1))]))))] [] λr1 o1=>
 JR r1 λxs=>
 Dd o1<|
 some ((Δ xs,[]))) none) none) none)
 (none):=by kernel_rfl
theorem Xs(t0:Rw)(t1:Int)(n5:Nat)(c5:List AV)(t6 t7:Int):CO A D As QO (.b (.b (.b .n (.b .n (.f .n))) .n) .n) 229 0 (AN Uk 0).fst (AN Uk 0).snd [Δ t0,Apc (Value.int Θ t1),ζ 0 0 n5 1,Apc (Value.int Θ t6),iv t7] [{ cells:=c5,st:=true,ex:=true }] =
 br (A.lt t7 ↑(AF t0))
 (Af D (θ 187) [Δ t0,iv t7] [] [.j .u64,.E] λn=>
 br (A.eq 4294967296 0)
 (none)
 (br (Be (n5+1) 4) (br ((0+n5*1).ble c5.length) (br (A.eq 4294967296 0) none (AI D (γ 229 0) [Δ t0,Apc (Value.int Θ t1),ζ 0 0 (n5+1) 1,Apc (Value.int Θ (A.quo Θ (A.add Θ (A.mul Θ n t1) t6) 4294967296)),iv (A.add Φ t7 1)] [Ξ (ι 0 (κ (0+n5*1) c5)++[Apc (Value.int ξ (A.conv ξ (A.rem Θ (A.add Θ (A.mul Θ n t1) t6) 4294967296)))]) true true] λr1 o1=>
 AE 1 [2] (AH.mk [(2,Ξ (ι 0 (κ (0+n5*1) c5)++[Apc (Value.int ξ (A.conv ξ (A.rem Θ (A.add Θ (A.mul Θ n t1) t6) 4294967296)))]) true true),(1,Ξ [Apc (Value.int ξ (A.conv ξ (A.rem Θ (A.add Θ (A.mul Θ n t1) t6) 4294967296)))] true true)] 3 none) [0] r1 o1)) none) none))
 (some ((ν [iv 0,ζ 1 0 n5 1,Apc (Value.int Θ t6)],[BO.del,ο (Ξ c5 true true)]))):=by kernel_rfl
theorem AmU(x0 x1:Rw):BP A D As Ka .n 183 N7 [Δ x0,Δ x1] [] =
 Af D (γ 183 0) [Δ x0,Δ x1,Δ [],iv (A.sub Φ (↑(AF x1)) 1)] [] [.t,.C,.x,.X,.Y] λc l o=>
 br (Bo 1 c)
 (dk [.L,.N,.E] [.l l,.o o] λxs=>
 Af D (θ 149) [Δ xs] [] [.l,.E] λxs1=>
 some ((Δ xs1,[])))
 (none):=by kernel_rfl
theorem Xg(t0 t1 t5:Rw)(t6:Int):CO A D As Ka .n 183 0 (AN N7 0).fst (AN N7 0).snd [Δ t0,Δ t1,Δ t5,iv t6] [] =
 br (A.le 0 t6)
 (Af D (γ 183 1) [Δ t0,Δ t1,Δ t5,iv t6,ζ 0 0 1 1,iv 0] [Ξ [Apc (Value.int ξ 0)] true true] [.t,.C,.x,.X,.Y] λc l o=>
 br (Bo 3 c)
 (dk [.L,.L,.I,.C,.q 1 1,.N,.D,.R,.X,.E] [.l l,.o o] λxs xs1 n n1 cs1=>
 unI n λi=>
 Bl xs1 i λcs2=>
 dk [.J .u32,.N] [.l cs2] λn2=>
 Af D (θ 229) [Δ xs,Apc (Value.int Θ (A.conv Θ n2))] [] [.l,.E] λxs2=>
 br ((0+n1*1).ble cs1.length) (AI D (θ 129) [Δ (Bh n1 1 (κ (n1*1) cs1)),Δ xs2] [] λr2 o2=>
 JR r2 λxs3=>
 Dd o2<|
 AI D (γ 183 0) [Δ xs,Δ xs1,Δ xs3,iv (A.sub Φ n 1)] [] λr3 o3=>
 AE 0 [] (AH.mk [(1,Ξ cs1 false true)] 2 none) [] r3 o3) none)
 (none))
 (some ((ν [iv 0,Δ t5],[]))):=by kernel_rfl
theorem Xh(t0 t1 t5:Rw)(t6:Int)(n7:Nat)(c7:List AV)(t8:Int):CO A D As Ka .n 183 1 (AN N7 1).fst (AN N7 1).snd [Δ t0,Δ t1,Δ t5,iv t6,ζ 0 0 n7 1,iv t8] [{ cells:=c7,st:=true,ex:=true }] =
 br (A.lt t8 ↑(AF t5))
 (unI t8 λi=>
 Bl t5 i λcs=>
 dk [.J .u32,.N] [.l cs] λn=>
 br (Be (n7+1) 4) (br ((0+n7*1).ble c7.length) (AI D (γ 183 1) [Δ t0,Δ t1,Δ t5,iv t6,ζ 0 0 (n7+1) 1,iv (A.add Φ t8 1)] [Ξ (ι 0 (κ (0+n7*1) c7)++[Apc (Value.int ξ n)]) true true] λr o=>
 AE 1 [2] (AH.mk [(2,Ξ (ι 0 (κ (0+n7*1) c7)++[Apc (Value.int ξ n)]) true true),(1,Ξ [Apc (Value.int ξ n)] true true)] 3 none) [0] r o) none) none)
 (some ((ν [iv 2,Δ t0,Δ t1,iv t6,ζ 1 0 n7 1],[BO.del,ο (Ξ c7 true true)]))):=by kernel_rfl
theorem Ana(x0 x1:Rw):BP A D As Mr .n 210 Ui [Δ x0,Δ x1] [] =
 br (A.eq ↑(AF x0) ↑(AF x1))
 (Af D (γ 210 0) [Δ x0,Δ x1,iv 0] [] [.t,.C,.x,.X,.Y] λc l o=>
 br (Bo 0 c)
 (dk [.B,.N,.E] [.l l,.o o] λb=>
 some ((bv b,[])))
 (br (Bo 1 c)
 (EM l<|
 Dd o<|
 some ((bv true,[])))
 (none)))
 (some ((bv false,[]))):=by kernel_rfl
theorem O4(t0 t1:Rw)(t5:Int):CO A D As Mr .n 210 0 (AN Ui 0).fst (AN Ui 0).snd [Δ t0,Δ t1,iv t5] [] =
 br (A.lt t5 ↑(AF t0))
 (unI t5 λi=>
 Bl t0 i λcs=>
 dk [.J .u32,.N] [.l cs] λn=>
 unI t5 λi1=>
 Bl t1 i1 λcs1=>
 dk [.J .u32,.N] [.l cs1] λn1=>
 br (A.eq n n1)
 (AI D (γ 210 0) [Δ t0,Δ t1,iv (A.add Φ t5 1)] [] λr o=>
 AE 0 [] (AH.mk [] 0 none) [] r o)
 (some ((ν [bv true,bv false],[]))))
 (some ((ν [iv 0],[]))):=by kernel_rfl
end
open Go.RowKit
theorem PG(x:Nat)(h:x<18446744073709551616):Ag.quo .u64 (x:Int) 4294967296=((x / 4294967296:Nat):Int):=by
 show IntKind.u64.wrap ((x:Int).tdiv 4294967296)=_
 have:(x:Int).tdiv 4294967296=((x / 4294967296:Nat):Int):=rfl;rw[this,IntKind.wrap_u64];omega
theorem PH(x:Nat):Ag.rem .u64 (x:Int) 4294967296=((x % 4294967296:Nat):Int):=by
 show (x:Int).tmod 4294967296=_
 rfl
theorem Wf(l:List Nat)(n:Nat):(Ai eL l).take n=Ai eL (l.take n):=by rw[DM,DM,List.map_take]
theorem Sb(l:List Nat)(n:Nat)(h:n<=l.length):Bh n 1 ((Ai eL l).take (n*1))=(l.take n).map eL:=by
 rw[AqP,Wf];have:=Co AA (l.take n)
 rwa [Apg,ApL h]at this
theorem Js(l:List Nat)(i:Nat):(l.drop i).headD 0=l.getD i 0:=by
 rw[AqY]
 by_cases h:i<l.length
 .rw[ω h,Ψ h];rfl
 .rw[υ (by omega),Ap9 (by omega)];rfl
theorem Lm{l:List Nat}(h:Limbs l)(i:Nat):l.getD i 0<4294967296:=by
 rw[←Js];exact DB (h.drop i)
def DS(n:Nat)(l:List Nat):List Nat:=l++Aqj (n-l.length) 0
theorem Ae1(n:Nat):Ad (Aqj n 0)=0:=by
 induction n with
 |zero=>rfl
 |succ n ih=>rw[List.replicate_succ,Ad,ih]
theorem FD(n:Nat)(l:List Nat):Ad (DS n l)=Ad l:=by
 unfold DS;rw[Bw,Ae1];omega
theorem DG{n:Nat}{l:List Nat}(h:l.length<=n):(DS n l).length=n:=by
 unfold DS;rw[η,List.length_replicate];omega
theorem D1{n:Nat}{l:List Nat}(h:Limbs l):Limbs (DS n l):=Cr h λx hx=>by
 rw[(List.mem_replicate.1 hx).2];omega
theorem IT{n i:Nat}{l:List Nat}(h:l.length<=n)(hi:i<n):(DS n l)[i]'(by rw[DG h];exact hi)=l.getD i 0:=by
 rw[AqY];unfold DS
 by_cases h2:i<l.length
 .rw[List.getElem_append_left h2,Ψ h2];rfl
 .rw[List.getElem_append_right (by omega),List.getElem_replicate,Ap9 (by omega)];rfl
section
variable {D:Orc} (K:Knows As Hw D)
include K
theorem Zj(l:List Nat)(hl:BD l):∀(k i:Nat) (out:List Nat),l.length-i=k->out.length+k<=2000000000->D.ask (.lp 149 0) [eN l,.sl 0 0 out.length 1,iv (i:Int)] [Ξ (Ai eL out) true true]
  = some (.tup [iv 0,.sl 1 0 (out++l.drop i).length 1],[.del,.set (Ξ (Ai eL (out++l.drop i)) true true)]):=by
 intro k;unfold BD at hl
 induction k with
 |zero=>
  intro i out hi ho;refine K.lp' J9 _ rfl (by kernel_rfl) ((Xb ..).trans ?_);rw[Aj,show l.drop i=[] from υ (by omega),ApQ];refine Ak (by omega) ?_;rfl
 |succ k ih=>
  intro i out hi ho;have hlt:i<l.length:=by omega
  have ih':=ih (i+1) (out++[l[i]]) (by omega) (by simp;omega);rw[Ao9,η,Apm]at ih';refine K.lp' J9 _ rfl (by kernel_rfl) ((Xb ..).trans ?_);rw[Aj,ω hlt];refine Aq (by omega) ?_;rw[Av,Aw (Ψ hlt)];have hf:Be (out.length+1) 4=true:=AL (by omega) (by omega);have hb1:Apa (0+out.length*1) (Ai eL out).length=true:=AJ AA out (by omega);have e3:∀ s:Nat,ι 0 (κ (0+out.length*1) (Ai eL out))++[.v (.int .u32 (s:Int))]=Ai eL (out++[s]):=λs=>by
   rw[χ,Bf AA out (by omega)];exact Bc eL out s
  simp only[eL,EN,ND,DK,Ab];rw[BC (by omega),hf,hb1,e3];refine Ae ?_;refine Ae ?_;refine Aa ih' ?_;rfl
theorem Zk(l:List Nat)(hl:BD l):∀(n:Nat),n<=l.length->Cm l<=n->D.ask (.lp 149 1) [.sl 0 0 n 1] [Ξ (Ai eL l) true true]=some (.tup [iv 2,.sl 1 0 (Cm l) 1],[.del,.set (Ξ (Ai eL l) true true)]):=by
 intro n;unfold BD at hl
 induction n with
 |zero=>
  intro _ ht;refine K.lp' J9 _ rfl (by kernel_rfl) ((Xc ..).trans ?_);refine Ak (by omega) ?_;rw[show Cm l=0 by omega]
 |succ n ih=>
  intro hn ht;refine K.lp' J9 _ rfl (by kernel_rfl) ((Xc ..).trans ?_);refine Aq (by omega) ?_;rw[show Ag.sub .i64 ((n+1:Nat):Int) 1=(n:Int) from (K9 (i:=n+1) (j:=1) (by omega) (by omega)).trans (by simp)];rw[Av,BB (Nat.lt_succ_self n)];refine Ae ?_;refine(GN l n (by omega) _).trans ?_;simp only[EN,ND,DK,Ab]
  by_cases h0:l[n]=0
  .refine Bi (by rw[h0];rfl) ?_
   rw[Av,show IK 0 n (n+1)=true by unfold IK;rw[show Apa 0 n=true by simp];simp];refine Ae ?_;refine Aa (ih (by omega) (JO ht (by rw[Ψ (show n<l.length by omega),h0]))) ?_;rfl
  .refine AK (by omega) ?_
   have:=Lv (Ψ (show n<l.length by omega)) h0;rw[show Cm l=n+1 by omega]
theorem Cu{l:List Nat}(hl:BD l)(h:Limbs l):D.ask (.fn 149) [eN l] []=some (eN (Ah (Ad l)),[]):=by
 have hs:=hl;unfold BD at hs;refine K.fn' J9 _ rfl ((AmH ..).trans ?_);have g:=Zj K l hl l.length 0 [] rfl (by simp;omega);rw[Apv,χ]at g;refine Aa g ?_;simp only[ND,DK,Ab];refine Aa (Zk K l hl l.length (φ _) (BZ l)) ?_;simp only[ND,DK,Ab];have ht:=BZ l;rw[show Apa (0+Cm l*1) (Ai eL l).length=true by rw[AT AA];simp;omega];refine Ae ?_;rw[Sb l _ ht,GV h];rfl
theorem Ft(a b:List Nat):D.ask (.fn 186) [eN a,eN b] []=some (iv ((max a.length b.length:Nat):Int),[]):=by
 refine K.fn' Af7 _ rfl ((AmX ..).trans ?_);rw[Aj,Aj]
 by_cases h:b.length<a.length
 .refine Aq (by omega) ?_
  rw[show max a.length b.length=a.length by omega]
 .refine Ak (by omega) ?_
  rw[show max a.length b.length=b.length by omega]
theorem FR{a:List Nat}(ha:Limbs a)(i:Nat):D.ask (.fn 187) [eN a,iv (i:Int)] []=some (.v (.int .u64 (a.getD i 0:Int)),[]):=by
 refine K.fn' Af8 _ rfl ((AmY ..).trans ?_);rw[Aj,AqY];refine Ak (by omega) ?_
 by_cases h:i<a.length
 .refine Ca (by omega) ?_
  have hx:=ha.get h;rw[Av,Aw (Ψ h),Ψ h];simp only[eL,EN,ND,DK,Ab];rw[Bj (by omega)];rfl
 .refine BW (by omega) ?_
  rw[Ap9 (by omega)];rfl
theorem Aem{a b:List Nat}(ha:Limbs a)(hb:Limbs b)(m:Nat)(hma:a.length<=m)(hmb:b.length<=m)(hm:m<=1000000000):∀(n:Nat),n<=m->D.ask (.lp 228 0) [eN a,eN b,iv ((n:Int)-1)] []
  = some (if Cx (Ad ((DS m a).take n)) (Ad ((DS m b).take n))=0 then .tup [iv 0] else .tup [bv true,iv (Cx (Ad ((DS m a).take n)) (Ad ((DS m b).take n)))],[]):=by
 intro n
 induction n with
 |zero=>
  intro _;refine K.lp' QN _ rfl (by kernel_rfl) ((Xr ..).trans ?_);refine Ca (by omega) ?_;rfl
 |succ n ih=>
  intro hn;refine K.lp' QN _ rfl (by kernel_rfl) ((Xr ..).trans ?_);rw[show (((n+1:Nat):Int)-1)=(n:Int) by omega];refine BW (by omega) ?_;have h1:n<(DS m a).length:=by rw[DG hma];omega
  have h2:n<(DS m b).length:=by rw[DG hmb];omega
  have e1:(DS m a).take (n+1)=(DS m a).take n++[a.getD n 0]:=by rw[ApC h1,IT hma (by omega)]
  have e2:(DS m b).take (n+1)=(DS m b).take n++[b.getD n 0]:=by rw[ApC h2,IT hmb (by omega)]
  rw[e1,e2,LW ((D1 ha).take n) ((D1 hb).take n) (by simp;omega)];refine Aa (FR K ha n) ?_;simp only[NH,ND,DK,Ab];refine Aa (FR K hb n) ?_;simp only[NH,ND,DK,Ab]
  by_cases h3:a.getD n 0<b.getD n 0
  .refine Aq (by omega) ?_
   rw[if_pos h3];rfl
  .refine Ak (by omega) ?_
   rw[if_neg h3];refine Aa (FR K ha n) ?_;simp only[NH,ND,DK,Ab];refine Aa (FR K hb n) ?_;simp only[NH,ND,DK,Ab]
   by_cases h4:b.getD n 0<a.getD n 0
   .refine Aq (by omega) ?_
    rw[if_pos h4];rfl
   .refine Ak (by omega) ?_
    rw[if_neg h4];rw[show Ag.sub .i64 (n:Int) 1=(n:Int)-1 from C4 (by omega) (by omega)];refine Aa (ih (by omega)) ?_
    by_cases h5:Cx (Ad ((DS m a).take n)) (Ad ((DS m b).take n))=0
    .rw[if_pos h5];rfl
    .rw[if_neg h5];rfl
theorem Aen{a b:List Nat}(hsa:BD a)(ha:Limbs a)(hsb:BD b)(hb:Limbs b):D.ask (.fn 228) [eN a,eN b] []=some (iv (Cx (Ad a) (Ad b)),[]):=by
 unfold BD at hsa hsb;refine K.fn' QN _ rfl ((Ane ..).trans ?_);refine Aa (Ft K a b) ?_;simp only[ND,DK,Ab];rw[show Ag.sub .i64 ((max a.length b.length:Nat):Int) 1=((max a.length b.length:Nat):Int)-1 from C4 (by omega) (by omega)];have g:=Aem K ha hb (max a.length b.length) (by omega) (by omega) (by omega) (max a.length b.length) (φ _);rw[ApZ (by rw[DG (by omega)];omega),ApZ (by rw[DG (by omega)];omega),FD,FD]at g;refine Aa g ?_
 by_cases h5:Cx (Ad a) (Ad b)=0
 .rw[if_pos h5,h5];rfl
 .rw[if_neg h5];rfl
theorem Ael{a b:List Nat}(ha:Limbs a)(hb:Limbs b)(hm:max a.length b.length<=1000000000):∀(k i:Nat) (out:List Nat) (c:Nat),max a.length b.length+1-i=k->c<=1->out.length+k<=2000000000->
  D.ask (.lp 129 0) [eN a,eN b,.sl 0 0 out.length 1,.v (.int .u64 (c:Int)),iv (i:Int)] [Ξ (Ai eL out) true true]
   = some (.tup [iv 0,.sl 1 0 (out++KX k c (a.drop i) (b.drop i)).length 1],[.del,.set (Ξ (Ai eL (out++KX k c (a.drop i) (b.drop i))) true true)]):=by
 intro k
 induction k with
 |zero=>
  intro i out c hi hc ho;refine K.lp' QC _ rfl (by kernel_rfl) ((W9 ..).trans ?_);refine Aa (Ft K a b) ?_;simp only[ND,DK,Ab];refine Ca (by omega) ?_;rw[KX,ApQ]
 |succ k ih=>
  intro i out c hi hc ho;have h1:=Lm ha i;have h2:=Lm hb i;have ih':=ih (i+1) (out++[(a.getD i 0+b.getD i 0+c) % 4294967296]) ((a.getD i 0+b.getD i 0+c) / 4294967296) (by omega) (by omega) (by simp;omega);rw[Ao9,η,Apm]at ih';refine K.lp' QC _ rfl (by kernel_rfl) ((W9 ..).trans ?_);refine Aa (Ft K a b) ?_;simp only[ND,DK,Ab];refine BW (by omega) ?_;refine Aa (FR K ha i) ?_;simp only[NH,ND,DK,Ab];refine Aa (FR K hb i) ?_;simp only[NH,ND,DK,Ab];refine AK (by decide) ?_;have hf:Be (out.length+1) 4=true:=AL (by omega) (by omega);have hb1:Apa (0+out.length*1) (Ai eL out).length=true:=AJ AA out (by omega);have e3:∀ s:Nat,ι 0 (κ (0+out.length*1) (Ai eL out))++[.v (.int .u32 (s:Int))]=Ai eL (out++[s]):=λs=>by
   rw[χ,Bf AA out (by omega)];exact Bc eL out s
  rw[BT (by omega),BT (by omega),PH,PG _ (by omega),Bu (ApI _ (by omega)),BC (by omega),hf,hb1,e3];refine Ae ?_;refine Ae ?_;refine AK (by decide) ?_;refine Aa ih' ?_;rw[KX,Js,Js,AqV,AqV];rfl
theorem IX{a b:List Nat}(hsa:a.length<=999999999)(ha:Limbs a)(hsb:b.length<=999999999)(hb:Limbs b):D.ask (.fn 129) [eN a,eN b] []=some (eN (Ah (Ad a+Ad b)),[]):=by
 refine K.fn' QC _ rfl ((Amv ..).trans ?_);have g:=Ael K ha hb (by omega) (max a.length b.length+1) 0 [] 0 rfl (by omega) (by simp;omega);rw[Apv,χ,χ]at g;refine Aa g ?_;simp only[ND,DK,Ab];rw[AJ AA _ (by omega)];refine Ae ?_;rw[Bp AA _ rfl];have hlen:∀(k c:Nat) (a b:List Nat),(KX k c a b).length=k:=λk=>by
  induction k with
  |zero=>intro c a b;rfl
  |succ k ih=>intro c a b;rw[KX,π,ih]
 have gt:=Cu K (l:=KX (max a.length b.length+1) 0 a b) (by unfold BD;rw[hlen];omega) (LA _ _ _ _);rw[OE]at gt;have h1:=Bm ha;have h2:=Bm hb;have p1:4294967296 ^ a.length<=4294967296 ^ (max a.length b.length):=Aqf (by omega) (by omega);have p2:4294967296 ^ b.length<=4294967296 ^ (max a.length b.length):=Aqf (by omega) (by omega);rw[Ap1 (by rw[ApU];omega),Apy]at gt;refine Aa gt ?_;rfl
theorem Aeq{a b:List Nat}(ha:Limbs a)(hb:Limbs b)(m:Nat)(hma:max a.length b.length=m)(hm:m<=1000000000):∀(k i:Nat) (out:List Nat) (c:Nat),m-i=k->c<=1->out.length+k<=2000000000->
  D.ask (.lp 182 0) [eN a,eN b,.sl 0 0 out.length 1,.v (.int .u64 (c:Int)),iv (i:Int)] [Ξ (Ai eL out) true true]
   = some (.tup [iv 0,.sl 1 0 (out++FV c ((DS m a).drop i) ((DS m b).drop i)).length 1],[.del,.set (Ξ (Ai eL (out++FV c ((DS m a).drop i) ((DS m b).drop i))) true true)]):=by
 intro k;have la:=DG (n:=m) (l:=a) (by omega);have lb:=DG (n:=m) (l:=b) (by omega)
 induction k with
 |zero=>
  intro i out c hi hc ho;refine K.lp' QH _ rfl (by kernel_rfl) ((Xf ..).trans ?_);refine Aa (Ft K a b) ?_;simp only[ND,DK,Ab];refine Ak (by omega) ?_;rw[show (DS m a).drop i=[] from υ (by omega),FV,ApQ]
 |succ k ih=>
  intro i out c hi hc ho;have h1:=Lm ha i;have h2:=Lm hb i;have ia:i<(DS m a).length:=by omega
  have ib:i<(DS m b).length:=by omega
  rw[ω ia,IT (by omega) (by omega),ω ib,IT (by omega) (by omega),FV,List.headD_cons,List.tail_cons];refine K.lp' QH _ rfl (by kernel_rfl) ((Xf ..).trans ?_);refine Aa (Ft K a b) ?_;simp only[ND,DK,Ab];refine Aq (by omega) ?_;refine Aa (FR K ha i) ?_;simp only[NH,ND,DK,Ab];refine Aa (FR K hb i) ?_;simp only[NH,ND,DK,Ab];refine AK (by decide) ?_;have hf:Be (out.length+1) 4=true:=AL (by omega) (by omega);have hb1:Apa (0+out.length*1) (Ai eL out).length=true:=AJ AA out (by omega);have e3:∀ s:Nat,ι 0 (κ (0+out.length*1) (Ai eL out))++[.v (.int .u32 (s:Int))]=Ai eL (out++[s]):=λs=>by
   rw[χ,Bf AA out (by omega)];exact Bc eL out s
  rw[show (4294967296:Int)=((4294967296:Nat):Int) from rfl,BT (by omega),DH (by omega) (by omega),DH (by omega) (by omega)];rw[show ((4294967296:Nat):Int)=(4294967296:Int) from rfl,PH,PG _ (by omega),Bu (ApI _ (by omega)),BC (by omega),show (1:Int)=((1:Nat):Int) from rfl,DH (by omega) (by omega),hf,hb1,e3];refine Ae ?_;refine Ae ?_;refine AK (by decide) ?_
  by_cases hlt:a.getD i 0<b.getD i 0+c
  .rw[if_pos hlt,if_pos hlt]
   have ih':=ih (i+1) (out++[a.getD i 0+4294967296-(b.getD i 0+c)]) 1 (by omega) (by omega) (by simp;omega);rw[Ao9,η,Apm]at ih';rw[show (a.getD i 0+4294967296-b.getD i 0-c) % 4294967296=a.getD i 0+4294967296-(b.getD i 0+c) by omega,show 1-(a.getD i 0+4294967296-b.getD i 0-c) / 4294967296=1 by omega];refine Aa ih' ?_;rfl
  .rw[if_neg hlt,if_neg hlt]
   have ih':=ih (i+1) (out++[a.getD i 0-(b.getD i 0+c)]) 0 (by omega) (by omega) (by simp;omega);rw[Ao9,η,Apm]at ih';rw[show (a.getD i 0+4294967296-b.getD i 0-c) % 4294967296=a.getD i 0-(b.getD i 0+c) by omega,show 1-(a.getD i 0+4294967296-b.getD i 0-c) / 4294967296=0 by omega];refine Aa ih' ?_;rfl
theorem PF{a b:List Nat}(hsa:BD a)(ha:Limbs a)(hsb:BD b)(hb:Limbs b):D.ask (.fn 182) [eN a,eN b] []=some (J5 (Ad a) (Ad b),[]):=by
 have s1:=hsa;have s2:=hsb;unfold BD at s1 s2;refine K.fn' QH _ rfl ((AmT ..).trans ?_);refine Aa (Aen K hsa ha hsb hb) ?_;simp only[ND,DK,Ab];unfold J5
 by_cases h1:Ad a<Ad b
 .rw[show Cx (Ad a) (Ad b)=-1 by unfold Cx;rw[if_pos h1]]
  refine Aq (by decide) ?_;rw[if_neg (by omega)];rfl
 .refine Ak (by unfold Cx;rw[if_neg h1];split<;>omega) ?_
  rw[if_pos (by omega)];have la:=DG (n:=max a.length b.length) (l:=a) (by omega);have lb:=DG (n:=max a.length b.length) (l:=b) (by omega);have g:=Aeq K ha hb (max a.length b.length) rfl (by omega) (max a.length b.length) 0 [] 0 (by omega) (by omega) (by simp;omega);rw[Apv,χ,χ]at g;refine Aa g ?_;simp only[ND,DK,Ab];rw[AJ AA _ (by omega)];refine Ae ?_;rw[Bp AA _ rfl];have gt:=Cu K (l:=FV 0 (DS (max a.length b.length) a) (DS (max a.length b.length) b)) (by unfold BD;rw[Ja];omega) (FW _ _ _ (D1 ha) (D1 hb) (by omega));rw[RU (D1 ha) (D1 hb) (by omega) (by rw[FD,FD];omega),FD,FD]at gt;refine Aa gt ?_;rfl
theorem VT{a:List Nat}(ha:Limbs a)(hs:BD a)(m:Nat)(hm:m<4294967296):∀(k i:Nat) (out:List Nat) (c:Nat),a.length-i=k->i<=a.length->c<4294967296->out.length+k<=2000000000->
  ∃(o:List Nat) (c':Nat),D.ask (.lp 229 0) [eN a,.v (.int .u64 (m:Int)),.sl 0 0 out.length 1,.v (.int .u64 (c:Int)),iv (i:Int)] [Ξ (Ai eL out) true true]
   = some (.tup [iv 0,.sl 1 0 o.length 1,.v (.int .u64 (c':Int))],[.del,.set (Ξ (Ai eL o) true true)])/\c'<4294967296/\o++[c']=out++Dk m c (a.drop i):=by
 intro k;unfold BD at hs
 induction k with
 |zero=>
  intro i out c hi hle hc ho;refine⟨out,c,?_,hc,?_⟩
  .refine K.lp' QO _ rfl (by kernel_rfl) ((Xs ..).trans ?_)
   rw[Aj];refine Ak (by omega) ?_;rfl
  .rw[show a.drop i=[] from υ (by omega)]
   rfl
 |succ k ih=>
  intro i out c hi hle hc ho;have hlt:i<a.length:=by omega
  have hx:=ha.get hlt;have hp:=Ih hx hm;have hg:a.getD i 0=a[i]:=by rw[AqY,Ψ hlt];rfl
  obtain⟨o,c',h1,h2,h3⟩:=ih (i+1) (out++[(a[i]*m+c) % 4294967296]) ((a[i]*m+c) / 4294967296) (by omega) (by omega) (by omega) (by simp;omega);refine⟨o,c',?_,h2,?_⟩
  .refine K.lp' QO _ rfl (by kernel_rfl) ((Xs ..).trans ?_)
   rw[Aj];refine Aq (by omega) ?_;refine Aa (FR K ha i) ?_;simp only[NH,ND,DK,Ab,hg];refine AK (by decide) ?_;have hf:Be (out.length+1) 4=true:=AL (by omega) (by omega);have hb1:Apa (0+out.length*1) (Ai eL out).length=true:=AJ AA out (by omega);have e3:∀ s:Nat,ι 0 (κ (0+out.length*1) (Ai eL out))++[.v (.int .u32 (s:Int))]=Ai eL (out++[s]):=λs=>by
    rw[χ,Bf AA out (by omega)];exact Bc eL out s
   rw[η,Apm]at h1;rw[IY (by omega),BT (by omega),PH,PG _ (by omega),Bu (ApI _ (by omega)),BC (by omega),hf,hb1,e3];refine Ae ?_;refine Ae ?_;refine AK (by decide) ?_;refine Aa h1 ?_;rfl
  .rw[h3,ω hlt,Dk,Ao9]
   rfl
omit K in
theorem Ir:∀(m c:Nat) (a:List Nat),(Dk m c a).length=a.length+1
 |_,_,[]=>rfl
 |m,c,x::a=>by rw[Dk,π,Ir,π]
theorem Oo{a:List Nat}(ha:Limbs a)(hs:a.length<=999999999)(m:Nat)(hm:m<4294967296):D.ask (.fn 229) [eN a,.v (.int .u64 (m:Int))] []=some (eN (Ah (Ad a*m)),[]):=by
 obtain⟨o,c',g,hc,ho⟩:=VT K ha (by unfold BD;omega) m hm a.length 0 [] 0 (by omega) (by omega) (by omega) (by simp;omega);rw[Apv,χ]at ho;have hol:o.length=a.length:=by
  have:=congrArg List.length ho;rw[η,Ir]at this;simpa using this
 refine K.fn' QO _ rfl ((Anf ..).trans ?_);refine Aa g ?_;simp only[EN,ND,DK,Ab];rw[Bu hc];have e3:ι 0 (κ (0+o.length*1) (Ai eL o))++[.v (.int .u32 (c':Int))]=Ai eL (o++[c']):=by
  rw[χ,Bf AA o (by omega)];exact Bc eL o c'
 rw[AL (n:=o.length+1) (b:=4) (by omega) (by omega),AJ AA o (by omega),e3,AJ AA (o++[c']) (by simp)];refine Ae ?_;refine Ae ?_;refine Ae ?_;rw[χ,Bf AA (o++[c']) (by simp),show Bh (o.length+1) 1 (Ai eL (o++[c']))=(o++[c']).map eL from by have:=Co AA (o++[c']);rwa [η]at this];rw[ho];have gt:=Cu K (l:=Dk m 0 a) (by unfold BD;rw[Ir];omega) (FT _ _ _ hm ha (by omega));rw[GW,ApJ]at gt;refine Aa gt ?_;rfl
end
theorem Ek{a b:List Nat}(ha:Limbs a)(hb:Limbs b):(Ah (Ad a*Ad b)).length<=a.length+b.length:=by
 refine A1 ?_;rw[Aq1];exact Nat.mul_lt_mul'' (Bm ha) (Bm hb)
theorem YE(va x vd:Nat):0+4294967296*(va*vd)+va*x=va*(x+4294967296*vd):=by
 rw[ApW,Asv va];omega
theorem Zw{d:Nat}(h:d<4294967296):Limbs [d]:=A5 h Bz
section
variable {D:Orc} (K:Knows As Hw D)
include K
theorem AeB(A B:AV)(t:Int){xs ys:List (List AV)}(hA:A=.ls xs)(hB:B=.ls ys){out:List Nat}(hs:out.length<=999999999):∀(k i:Nat) (up:List Nat),out.length-i=k->i<=out.length->up=0::out.take i->
  D.ask (.lp 183 1) [A,B,eN out,iv t,.sl 0 0 (i+1) 1,iv (i:Int)] [Ξ (Ai eL up) true true]=some (.tup [iv 2,A,B,iv t,.sl 1 0 (out.length+1) 1],[.del,.set (Ξ (Ai eL (0::out)) true true)]):=by
 subst hA hB;intro k
 induction k with
 |zero=>
  intro i up hk hi hu;obtain rfl:i=out.length:=by omega
  rw[List.take_length]at hu;subst hu;refine K.lp' Ka _ rfl (by kernel_rfl) ((Xh ..).trans ?_);rw[Aj];exact Ak (by omega) rfl
 |succ k ih=>
  intro i up hk hi hu;have hlt:i<out.length:=by omega
  have hl:up.length=i+1:=by rw[hu,π,Apg,ApL hi]
  have ih':=ih (i+1) (up++[out[i]]) (by omega) (by omega) (by rw[hu,ApC hlt];rfl);have e3:ι 0 (κ (0+(i+1)*1) (Ai eL up))++[.v (.int .u32 (out[i]:Int))]=Ai eL (up++[out[i]]):=by
   rw[χ,Bf AA up (by omega)];exact Bc eL up out[i]
  refine K.lp' Ka _ rfl (by kernel_rfl) ((Xh ..).trans ?_);rw[Aj];refine Aq (by omega) ?_;rw[Av,Aw (Ψ hlt)];simp only[eL,EN,ND,DK,Ab];rw[BC (by omega),AL (n:=i+1+1) (b:=4) (by omega) (by omega),AJ AA up (by omega),e3];refine Ae ?_;refine Ae ?_;refine Aa ih' ?_;rfl
theorem AeC{a b:List Nat}(ha:Limbs a)(hb:Limbs b)(hs:a.length+b.length<=900000000):∀ i:Nat,i<=b.length->D.ask (.lp 183 0) [eN a,eN b,eN (Ah (Ad a*Ad (b.drop i))),iv ((i:Int)-1)] []=some (.tup [iv 0,eN (Ah (Ad a*Ad b))],[]):=by
 intro i
 induction i with
 |zero=>
  intro _;refine K.lp' Ka _ rfl (by kernel_rfl) ((Xg ..).trans ?_);refine Ca (by omega) ?_;rw[χ];rfl
 |succ i ih=>
  intro hi;have hlt:i<b.length:=by omega
  have hx:=hb.get hlt;have ln:∀ j:Nat,(Ah (Ad a*Ad (b.drop j))).length<=a.length+b.length:=λj=>by
   have:=Ek ha (hb.drop j);rw[List.length_drop]at this;omega
  have l1:=ln (i+1);rw[show (((i+1:Nat):Int)-1)=(i:Int) by omega];refine K.lp' Ka _ rfl (by kernel_rfl) ((Xg ..).trans ?_);refine BW (by omega) ?_;have g:=AeB K (eN a) (eN b) (i:Int) rfl rfl (out:=Ah (Ad a*Ad (b.drop (i+1)))) (by omega) _ 0 [0] rfl (by omega) rfl;refine Aa g ?_;simp only[eN,EN,ND,DK,Ab];rw[Av,Aw (Ψ hlt)];simp only[eL,EN,ND,DK,Ab];rw[Bj (show b[i]<_ by omega)];refine Ae ?_;refine Aa (Oo K ha (by omega) b[i] hx) ?_;simp only[eN,EN,ND,DK,Ab];rw[AJ AA (0::Ah (Ad a*Ad (b.drop (i+1)))) (by simp)];refine Ae ?_;rw[Bf AA (0::Ah (Ad a*Ad (b.drop (i+1)))) (by simp),show Bh ((Ah (Ad a*Ad (b.drop (i+1)))).length+1) 1 (Ai eL (0::Ah (Ad a*Ad (b.drop (i+1)))))=(0::Ah (Ad a*Ad (b.drop (i+1)))).map eL from Co AA (0::Ah (Ad a*Ad (b.drop (i+1))))];have l3:(Ah (Ad a*b[i])).length<=a.length+1:=by
   have:=Ek ha (Zw hx)
   rwa [show Ad [b[i]]=b[i] by simp[Ad]]at this
  have g2:=IX K (a:=0::Ah (Ad a*Ad (b.drop (i+1)))) (b:=Ah (Ad a*b[i])) (by rw[π];omega) (A5 (by omega) (Al _)) (by omega) (Al _);rw[Ad,Ax,Ax,YE,show b[i]+4294967296*Ad (b.drop (i+1))=Ad (b.drop i) by rw[ω hlt,Ad]]at g2;refine Aa g2 ?_;simp only[eN,EN,ND,DK,Ab];rw[C4 (by omega) (by omega)];refine Aa (ih (by omega)) ?_;rfl
theorem Aep{a b:List Nat}(ha:Limbs a)(hb:Limbs b)(hs:a.length+b.length<=900000000):D.ask (.fn 183) [eN a,eN b] []=some (eN (Ah (Ad a*Ad b)),[]):=by
 have g:=AeC K ha hb hs b.length (φ _);rw[List.drop_length,Ad,Arl,Cb]at g;refine K.fn' Ka _ rfl ((AmU ..).trans ?_);rw[Aj,C4 (by omega) (by omega)];refine Aa g ?_;simp only[eN,ND,DK,Ab];have l1:=Ek ha hb;have g2:=Cu K (l:=Ah (Ad a*Ad b)) (by unfold BD;omega) (Al _);rw[Ax]at g2;refine Aa g2 ?_;rfl
theorem Zh{a b:List Nat}(hl:a.length=b.length)(hs:BD a):∀(k i:Nat),a.length-i=k->i<=a.length->D.ask (.lp 210 0) [eN a,eN b,iv (i:Int)] []=if a.drop i=b.drop i then some (.tup [iv 0],[]) else some (.tup [bv true,bv false],[]):=by
 intro k;unfold BD at hs
 induction k with
 |zero=>
  intro i hk hi;rw[υ (show a.length<=i by omega),υ (show b.length<=i by omega),if_pos rfl];refine K.lp' Mr _ rfl (by kernel_rfl) ((O4 ..).trans ?_);rw[Aj];exact Ak (by omega) rfl
 |succ k ih=>
  intro i hk hi;have h1:i<a.length:=by omega
  have h2:i<b.length:=by omega
  have ih':=ih (i+1) (by omega) (by omega);rw[ω h1,ω h2]
  by_cases h:a[i]=b[i]
  .by_cases h3:a.drop (i+1)=b.drop (i+1)
   .rw[if_pos h3]at ih'
    rw[if_pos (by rw[h,h3])];refine K.lp' Mr _ rfl (by kernel_rfl) ((O4 ..).trans ?_);rw[Aj];refine Aq (by omega) ?_;rw[Av,Aw (Ψ h1)];simp only[eL,EN,ND,DK,Ab];rw[Av,Aw (Ψ h2)];simp only[eL,EN,ND,DK,Ab];rw[BC (by omega)];refine Bi (by omega) ?_;refine Aa ih' ?_;rfl
   .rw[if_neg h3]at ih'
    rw[if_neg (λe=>h3 (List.cons.inj e).2)];refine K.lp' Mr _ rfl (by kernel_rfl) ((O4 ..).trans ?_);rw[Aj];refine Aq (by omega) ?_;rw[Av,Aw (Ψ h1)];simp only[eL,EN,ND,DK,Ab];rw[Av,Aw (Ψ h2)];simp only[eL,EN,ND,DK,Ab];rw[BC (by omega)];refine Bi (by omega) ?_;refine Aa ih' ?_;rfl
  .rw[if_neg (λe=>h (List.cons.inj e).1)]
   refine K.lp' Mr _ rfl (by kernel_rfl) ((O4 ..).trans ?_);rw[Aj];refine Aq (by omega) ?_;rw[Av,Aw (Ψ h1)];simp only[eL,EN,ND,DK,Ab];rw[Av,Aw (Ψ h2)];simp only[eL,EN,ND,DK,Ab];rw[BC (by omega)];exact AK (by omega) rfl
theorem YV{a b:List Nat}(hs:BD a):D.ask (.fn 210) [eN a,eN b] []=some (bv (decide (a=b)),[]):=by
 refine K.fn' Mr _ rfl ((Ana ..).trans ?_);rw[Aj,Aj]
 by_cases hl:a.length=b.length
 .refine Bi (by omega) ?_
  have g:=Zh K hl hs a.length 0 (by omega) (by omega);rw[χ,χ]at g
  by_cases h:a=b
  .rw[if_pos h]at g
   rw[decide_eq_true h];refine Aa g ?_;rfl
  .rw[if_neg h]at g
   rw[decide_eq_false h];refine Aa g ?_;rfl
 .refine AK (by omega) ?_
  rw[decide_eq_false (λe=>hl (by rw[e]))]
end
section
variable {D:Orc} (K:Knows As Gb D) (Z:Knows As Hx D) (C:CloneF D)
include K Z C
theorem D4(neg:Bool){a:List Nat}(ha:Limbs a)(hs:BD a):D.ask (.fn 145) [bv neg,eN a] []=some (.agg (eZ (Az (Cn neg (Ad a)))),[]):=by
 refine Z.fn' AfT _ rfl ((AmD ..).trans ?_);refine Aa (ES K C hs ha) ?_;simp only[eN,ND,DK,Ab,Aj];rw[Jg];unfold eZ eN
 cases neg with
 |false=>rfl
 |true=>
  refine Ae ?_;refine Ae ?_;refine Ae ?_;have hp:=@CX (Ad a)
  by_cases h:0<Ad a
  .refine Aq (by have:=hp.2 h;omega) ?_
   rw[decide_eq_true h];rfl
  .refine Ak (by intro e;exact h (hp.1 (by omega))) ?_
   rw[decide_eq_false h];rfl
theorem LS{z:Zi}(hz:Lz 1000000000 z):D.ask (.fn 142) [.agg (eZ z)] []=some (.agg (eZ (Az (zv z))),[]):=by
 refine Z.fn' AfR _ rfl ((AmB ..).trans ?_);refine Aa (D4 K Z C z.neg hz.lim hz.len) ?_;rfl
theorem UN{z:Zi}(hz:Lz 1000000000 z):D.ask (.fn 161) [.agg (eZ z)] []=some (.agg (eZ (Az (-zv z))),[]):=by
 have e:-zv z=Cn (!z.neg) (Ad z.abs):=by
  unfold zv Cn
  cases z.neg<;>simp
 rw[e];refine Z.fn' Af3 _ rfl ((AmR ..).trans ?_);rw[YW];have g:=λb=>D4 K Z C b hz.lim hz.len
 cases z.neg with
 |false=>
  refine Ae ?_;refine Aa (g true) ?_;rfl
 |true=>
  refine B8 ?_;refine Aa (g false) ?_;rfl
theorem Jf{z:Zi}(hz:Lz 1000000000 z):D.ask (.fn 64) [.agg (eZ z)] []=some (iv (BF (zv z)),[]):=by
 refine Z.fn' Aj7 _ rfl ((e64 ..).trans ?_);refine Aa (LS K Z C hz) ?_;simp only[eZ,eN,ND,DK,Ab,Aj];unfold Az BF
 by_cases h:zv z<0
 .rw[if_pos h,decide_eq_true h]
  rfl
 .rw[if_neg h,decide_eq_false h]
  refine B8 ?_;have hp:=@CX (zv z).natAbs
  by_cases h2:0<zv z
  .rw[if_pos h2]
   refine Aq (by have:=hp.2 (by omega);dsimp only;omega) ?_;rfl
  .rw[if_neg h2]
   refine Ak (by dsimp only;intro e;have:=hp.1 (by omega);omega) ?_;rfl
theorem Z1(n:Int)(h1:-9223372036854775808<=n)(h2:n<9223372036854775808):D.ask (.fn 126) [iv n] []=some (.agg (eZ (Az n)),[]):=by
 refine Z.fn' AfJ _ rfl ((Ams ..).trans ?_);have hl:∀ m:Nat,m<18446744073709551616->(Ah m).length<=2:=λm h=>A1 (by omega)
 by_cases h:n<0
 .refine Aq h ?_
  have e1:Ag.add .i64 n 1=n+1:=Ef (by omega) (by omega);have e2:Ag.sub .i64 0 (n+1)=((n.natAbs-1:Nat):Int):=by rw[C4 (by omega) (by omega)];omega
  rw[e1,e2,Bj (by omega),show (1:Int)=((1:Nat):Int) from rfl,BT (by omega),show n.natAbs-1+1=n.natAbs by omega];refine Aa (Afo K C n.natAbs (by omega)) ?_;simp only[eN,ND,DK,Ab];have g:=D4 K Z C true (Al n.natAbs) (by unfold BD;have:=hl n.natAbs (by omega);omega);rw[Ax,show Cn true n.natAbs=n by unfold Cn;rw[if_pos rfl];omega]at g;refine Aa g ?_;rfl
 .refine Ak h ?_
  obtain⟨m,rfl⟩:=Ar3 (show 0<=n by omega);rw[Bj (by omega)];refine Aa (Afo K C m (by omega)) ?_;simp only[eN,ND,DK,Ab];have g:=D4 K Z C false (Al m) (by unfold BD;have:=hl m (by omega);omega);rw[Ax,show Cn false m=(m:Int) from rfl]at g;refine Aa g ?_;rfl
theorem Afj{a b:Zi}(ha:Lz 1000000000 a)(hb:Lz 1000000000 b):D.ask (.fn 155) [.agg (eZ a),.agg (eZ b)] []=some (iv (DR (zv a) (zv b)),[]):=by
 refine Z.fn' Af0 _ rfl ((AmN ..).trans ?_);refine Aa (Jf K Z C ha) ?_;simp only[ND,DK,Ab];refine Aa (Jf K Z C hb) ?_;simp only[ND,DK,Ab];have g1:=R2 K (a:=b.abs) (b:=a.abs) hb.len hb.lim ha.len ha.lim;have g2:=R2 K (a:=a.abs) (b:=b.abs) ha.len ha.lim hb.len hb.lim;have na:=Z3 a;have nb:=Z3 b;have za:=UO a;have zb:=UO b;have va:zv a=Cn a.neg (Ad a.abs):=rfl;have vb:zv b=Cn b.neg (Ad b.abs):=rfl;unfold BF
 by_cases h1:zv a<0
 .rw[if_pos h1]
  rw[Cn,if_pos (na.1 h1).1]at va
  by_cases h2:zv b<0
  .rw[if_pos h2]
   rw[Cn,if_pos (nb.1 h2).1]at vb;refine Ak (by decide) ?_;refine Ak (by decide) ?_;refine Aq (by decide) ?_;refine Aa g1 ?_;rw[show DR (zv a) (zv b)=Cx (Ad b.abs) (Ad a.abs) by
    unfold DR Cx;rw[va,vb]
    by_cases h3:Ad b.abs<Ad a.abs
    .rw[if_pos (by omega),if_pos h3]
    .rw[if_neg (by omega),if_neg h3]
     by_cases h4:Ad a.abs<Ad b.abs
     .rw[if_pos (by omega),if_pos h4]
     .rw[if_neg (by omega),if_neg h4]]
   rfl
  .rw[if_neg h2]
   rw[show DR (zv a) (zv b)=-1 by unfold DR;rw[if_pos (by omega)]]
   by_cases h3:0<zv b
   .rw[if_pos h3];rfl
   .rw[if_neg h3];rfl
 .rw[if_neg h1]
  by_cases h2:zv b<0
  .rw[if_pos h2]
   rw[show DR (zv a) (zv b)=1 by unfold DR;rw[if_neg (by omega),if_pos (by omega)]]
   by_cases h3:0<zv a
   .rw[if_pos h3];rfl
   .rw[if_neg h3];rfl
  .rw[if_neg h2]
   have ea:zv a=(Ad a.abs:Int):=by
    by_cases h:0<Ad a.abs
    .rw[va,Cn,if_neg (λe=>h1 (na.2 ⟨e,h⟩))]
    .rw[za.2 (by omega)];omega
   have eb:zv b=(Ad b.abs:Int):=by
    by_cases h:0<Ad b.abs
    .rw[vb,Cn,if_neg (λe=>h2 (nb.2 ⟨e,h⟩))]
    .rw[zb.2 (by omega)];omega
   have ec:DR (zv a) (zv b)=Cx (Ad a.abs) (Ad b.abs):=by
    unfold DR Cx;rw[ea,eb]
    by_cases h3:Ad a.abs<Ad b.abs
    .rw[if_pos (by omega),if_pos h3]
    .rw[if_neg (by omega),if_neg h3]
     by_cases h4:Ad b.abs<Ad a.abs
     .rw[if_pos (by omega),if_pos h4]
     .rw[if_neg (by omega),if_neg h4]
   rw[ec]
   by_cases h3:0<zv a
   .rw[if_pos h3]
    by_cases h4:0<zv b
    .rw[if_pos h4]
     refine Ak (by decide) ?_;refine Ak (by decide) ?_;refine Ak (by decide) ?_;refine Aa g2 ?_;rfl
    .rw[if_neg h4]
     refine Ak (by decide) ?_;refine Aq (by decide) ?_;rw[show Cx (Ad a.abs) (Ad b.abs)=1 by unfold Cx;rw[if_neg (by omega),if_pos (by omega)]]
   .rw[if_neg h3]
    by_cases h4:0<zv b
    .rw[if_pos h4]
     refine Aq (by decide) ?_;rw[show Cx (Ad a.abs) (Ad b.abs)=-1 by unfold Cx;rw[if_pos (by omega)]]
    .rw[if_neg h4]
     refine Ak (by decide) ?_;refine Ak (by decide) ?_;refine Ak (by decide) ?_;refine Aa g2 ?_;rfl
theorem P3{k:Nat}(hk:k<=900000000){a b:Zi}(ha:Lz k a)(hb:Lz k b):D.ask (.fn 139) [.agg (eZ a),.agg (eZ b)] []=some (.agg (eZ (Az (zv a+zv b))),[]):=by
 have la:=ha.len;have lb:=hb.len;refine Z.fn' AfP _ rfl ((Amz ..).trans ?_);have hfr:∀(neg:Bool) (n:Nat),n<4294967296 ^ (k+1)->D.ask (.fn 145) [bv neg,eN (Ah n)] []=some (.agg (eZ (Az (Cn neg n))),[]):=λneg n h=>by
  have:=D4 K Z C neg (Al n) (by unfold BD;have:=A1 h;omega)
  rwa [Ax]at this
 have ba:=Bm ha.lim;have bb:=Bm hb.lim;have pa:4294967296 ^ a.abs.length<=4294967296 ^ k:=Aqf (by omega) la;have pb:4294967296 ^ b.abs.length<=4294967296 ^ k:=Aqf (by omega) lb;have ps:4294967296 ^ (k+1)=4294967296 ^ k*4294967296:=ApU ..
 by_cases h:a.neg=b.neg
 .rw[Ok,show (a.neg == b.neg)=true by simpa using h]
  refine Ae ?_;refine Aa (Ag8 K C (by omega) ha.lim (by omega) hb.lim) ?_;simp only[eN,ND,DK,Ab];refine Aa (hfr a.neg (Ad a.abs+Ad b.abs) (by omega)) ?_;rw[show Cn a.neg (Ad a.abs+Ad b.abs)=zv a+zv b by
   unfold zv;rw[←h];unfold Cn;split<;>omega]
  rfl
 .rw[Ok,show (a.neg == b.neg)=false by simpa using h]
  refine B8 ?_;have hop:zv a+zv b=Cn a.neg (Ad a.abs)+Cn (!a.neg) (Ad b.abs):=by
   unfold zv;have:b.neg = !a.neg:=by
    revert h
    cases a.neg<;>cases b.neg<;>simp
   rw[this]
  have g1:=WG K C (a:=a.abs) (b:=b.abs) (by unfold BD;omega) ha.lim (by unfold BD;omega) hb.lim;have g2:=WG K C (a:=b.abs) (b:=a.abs) (by unfold BD;omega) hb.lim (by unfold BD;omega) ha.lim;unfold J5 at g1 g2;refine Aa g1 ?_
  by_cases hle:Ad b.abs<=Ad a.abs
  .rw[if_pos hle]
   simp only[eN,ND,DK,Ab];refine Aa (hfr a.neg (Ad a.abs-Ad b.abs) (by omega)) ?_;rw[show Cn a.neg (Ad a.abs-Ad b.abs)=zv a+zv b by
    rw[hop];unfold Cn
    cases a.neg<;>simp<;>omega]
   rfl
  .rw[if_neg hle]
   rw[if_pos (by omega)]at g2;simp only[eN,ND,DK,Ab];refine Aa g2 ?_;simp only[eN,ND,DK,Ab];refine Aa (hfr b.neg (Ad b.abs-Ad a.abs) (by omega)) ?_;rw[show Cn b.neg (Ad b.abs-Ad a.abs)=zv a+zv b by
    rw[hop];have:b.neg = !a.neg:=by
     revert h
     cases a.neg<;>cases b.neg<;>simp
    rw[this];unfold Cn
    cases a.neg<;>simp<;>omega]
   rfl
theorem Afl{k m:Nat}(hk:k<=400000000)(hkm:m<=400000000){a b:Zi}(ha:Lz k a)(hb:Lz m b)(h24:a.abs.length<24\/b.abs.length<24):D.ask (.fn 158) [.agg (eZ a),.agg (eZ b)] []=some (.agg (eZ (Az (zv a*zv b))),[]):=by
 have la:=ha.len;have lb:=hb.len;refine Z.fn' Af2 _ rfl ((AmQ ..).trans ?_);have hm:InB (k+m) (zv a*zv b):=ha.inb.mul hb.inb;have hab:(zv a*zv b).natAbs=Ad a.abs*Ad b.abs:=by
  have f:∀ z:Zi,(zv z).natAbs=Ad z.abs:=λz=>by
   unfold zv Cn;split
   .rw[Aq2];rfl
   .rfl
  rw[Int.natAbs_mul,f,f]
 unfold InB at hm;rw[hab]at hm;have hl:=A1 hm;have hfr:∀(neg:Bool),D.ask (.fn 145) [bv neg,eN (Ah (Ad a.abs*Ad b.abs))] []=some (.agg (eZ (Az (Cn neg (Ad a.abs*Ad b.abs)))),[]):=λneg=>by
  have:=D4 K Z C neg (Al (Ad a.abs*Ad b.abs)) (by unfold BD;omega)
  rwa [Ax]at this
 have g:=Ahd K C (by omega) ha.lim (by omega) hb.lim h24;have hs:Cn (a.neg != b.neg) (Ad a.abs*Ad b.abs)=zv a*zv b:=by
  unfold zv Cn
  cases a.neg<;>cases b.neg<;>simp[As4,Aru]
 rw[YW,Ok]
 by_cases h:a.neg=b.neg
 .rw[show (!(a.neg == b.neg))=false by simp[h]]
  rw[show (a.neg != b.neg)=false by simp[h]]at hs;refine B8 ?_;refine Aa g ?_;simp only[eN,ND,DK,Ab];refine Aa (hfr false) ?_;rw[hs];rfl
 .rw[show (!(a.neg == b.neg))=true by simp[h]]
  rw[show (a.neg != b.neg)=true by simp[h]]at hs;refine Ae ?_;refine Aa g ?_;simp only[eN,ND,DK,Ab];refine Aa (hfr true) ?_;rw[hs];rfl
end
section
open Go.RowKit
def Agv:MFn:=AS [] 128
def AfL:Hnt:=⟨[(149,(.ls,[]))],[],[]⟩
def Alx:MFn:=AS [] 75
def Akc:Hnt:=⟨[(128,(.agg [.bool,.ls],[]))],[],[(4,[.bool]),(6,[.ls])]⟩
def Alq:MFn:=AS [] 56
def Aj5:Hnt:=⟨[(128,(.agg [.bool,.ls],[])),(129,(.ls,[]))],[],[]⟩
def Alv:MFn:=AS [] 69
def Aka:Hnt:=⟨[(149,(.ls,[]))],[],[(4,[.ls]),(9,[.bool])]⟩
def AgO:MFn:=AS [] 179
def Af4:Hnt:=⟨[(128,(.agg [.bool,.ls],[]))],[],[(4,[.bool]),(7,[.ls])]⟩
def Agp:MFn:=AS [] 122
def XZ:Hnt:=⟨[(69,(.int .i64,[])),(122,(.agg [.bool,.ls],[])),(128,(.agg [.bool,.ls],[])),(129,(.ls,[])),(182,(.tup [.ls,.bool],[]))],[],[(7,[.bool,.ls]),(11,[.bool,.ls]),(16,[.ls]),(18,[.ls]),(21,[.bool,.ls]),(25,[.bool,.ls]),(30,[.ls]),(32,[.ls]),(35,[.bool,.ls]),(38,[.bool,.ls]),(39,[.bool,.ls]),(43,[.ls]),(45,[.ls]),(54,[.ls]),(56,[.ls])]⟩
def Agr:MFn:=AS [] 124
def AfH:Hnt:=⟨[(122,(.agg [.bool,.ls],[])),(179,(.agg [.bool,.ls],[]))],[],[(5,[.bool,.ls]),(6,[.bool,.ls])]⟩
def Agq:MFn:=AS [] 123
def AfG:Hnt:=⟨[(69,(.int .i64,[])),(128,(.agg [.bool,.ls],[])),(183,(.ls,[]))],[],[(5,[.bool,.ls]),(7,[.bool,.ls]),(12,[.ls]),(14,[.ls])]⟩
def Alp:MFn:=AS [] 53
def Aj4:Hnt:=⟨[(69,(.int .i64,[])),(124,(.agg [.bool,.ls],[]))],[],[(5,[.bool,.ls]),(6,[.bool,.ls])]⟩
def AgH:MFn:=AS [] 152
def AfX:Hnt:=⟨[(210,(.bool,[]))],[],[(6,[.bool]),(8,[.bool]),(12,[.ls]),(14,[.ls])]⟩
def Nc:List (Nat × MFn):=[(128,Agv),(75,Alx),(56,Alq),(69,Alv),(179,AgO),(122,Agp),(124,Agr),(123,Agq),(53,Alp),(152,AgH)]
variable (A:Ar) (D:Orc)
theorem Amu(x0:Bool)(x1:Rw):BP A D As AfL .n 128 Agv [bv x0,Δ x1] [] =
 Af D (θ 149) [Δ x1] [] [.l,.E] λxs=>
 br (A.eq (↑(AF xs)) 0)
 (some ((Ω [bv false,Δ []],[])))
 (some ((Ω [bv x0,Δ xs],[]))):=by kernel_rfl
theorem e75(x0_0:Bool)(x0_1:Rw):BP A D As Akc .n 75 Alx [Ω [bv x0_0,Δ x0_1]] [] =
 Af D (θ 128) [bv x0_0,Δ x0_1] [] [.a,.B,.L,.N,.E] λb xs=>
 some ((Ω [bv b,Δ xs],[])):=by kernel_rfl
theorem e56(x0:Int):BP A D As Aj5 (.b (.b (.b .n (.f .n)) .n) (.b .n (.b .n (.f .n)))) 56 Alq [iv x0] [] =
 br (A.le 0 x0)
 (br (A.eq 4294967296 0)
 (none)
 (br (A.eq 4294967296 0) none (AI D (θ 128) [bv false,Δ [[Apc (Value.int ξ (A.conv ξ (A.rem Φ x0 4294967296)))],[Apc (Value.int ξ (A.conv ξ (A.quo Φ x0 4294967296)))]]] [] λr o=>
 dk [.a,.B,.L,.N,.E] [.v r,.o o] λb xs=>
 some ((Ω [bv b,Δ xs],[])))))
 (br (A.eq 4294967296 0)
 (none)
 (br (A.eq 4294967296 0) none (AI D (θ 129) [Δ [[Apc (Value.int ξ (A.conv ξ (A.rem Φ (A.sub Φ 0 (A.add Φ x0 1)) 4294967296)))],[Apc (Value.int ξ (A.conv ξ (A.quo Φ (A.sub Φ 0 (A.add Φ x0 1)) 4294967296)))]],Δ [[Apc (Value.int ξ 1)]]] [] λr o=>
 JR r λxs=>
 Dd o<|
 Af D (θ 128) [bv true,Δ xs] [] [.a,.B,.L,.N,.E] λb xs1=>
 some ((Ω [bv b,Δ xs1],[]))))):=by kernel_rfl
theorem e69(x0_0:Bool)(x0_1:Rw):BP A D As Aka .n 69 Alv [Ω [bv x0_0,Δ x0_1]] [] =
 Af D (θ 149) [Δ x0_1] [] [.l,.E] λxs=>
 br (A.eq (↑(AF xs)) 0)
 (some ((iv 0,[])))
 (br x0_0
 (some ((iv (-1),[])))
 (some ((iv 1,[])))):=by kernel_rfl
theorem AmS(x0_0:Bool)(x0_1:Rw):BP A D As Af4 .n 179 AgO [Ω [bv x0_0,Δ x0_1]] [] =
 br (A.not x0_0)
 (Af D (θ 128) [bv true,Δ x0_1] [] [.a,.B,.L,.N,.E] λb xs=>
 some ((Ω [bv b,Δ xs],[])))
 (Af D (θ 128) [bv false,Δ x0_1] [] [.a,.B,.L,.N,.E] λb xs=>
 some ((Ω [bv b,Δ xs],[]))):=by kernel_rfl
theorem Ajv(x0_0:Bool)(x0_1:Rw)(x1_0:Bool)(x1_1:Rw):BP A D As XZ .n 122 Agp [Ω [bv x0_0,Δ x0_1],Ω [bv x1_0,Δ x1_1]] [] =
 Af D (θ 69) [Ω [bv x0_0,Δ x0_1]] [] [.i,.E] λn=>
 br (A.lt n 0)
 (Af D (θ 69) [Ω [bv x1_0,Δ x1_1]] [] [.i,.E] λn1=>
 br (A.lt n1 0)
 (Af D (θ 129) [Δ x0_1,Δ x1_1] [] [.l,.E] λxs=>
 Af D (θ 128) [bv true,Δ xs] [] [.a,.B,.L,.N,.E] λb xs1=>
 some ((Ω [bv b,Δ xs1],[])))
 (Af D (θ 69) [Ω [bv x0_0,Δ x0_1]] [] [.i,.E] λn2=>
 br (A.le 0 n2)
 (Af D (θ 69) [Ω [bv x1_0,Δ x1_1]] [] [.i,.E] λn3=>
 br (A.le 0 n3)
 (Af D (θ 129) [Δ x0_1,Δ x1_1] [] [.l,.E] λxs=>
 Af D (θ 128) [bv false,Δ xs] [] [.a,.B,.L,.N,.E] λb xs1=>
 some ((Ω [bv b,Δ xs1],[])))
 (Af D (θ 69) [Ω [bv x0_0,Δ x0_1]] [] [.i,.E] λn4=>
 br (A.lt n4 0)
 (Af D (θ 122) [Ω [bv x1_0,Δ x1_1],Ω [bv x0_0,Δ x0_1]] [] [.a,.B,.L,.N,.E] λb xs=>
 some ((Ω [bv b,Δ xs],[])))
 (Af D (θ 182) [Δ x0_1,Δ x1_1] [] [.t,.L,.B,.N,.E] λxs b=>
 br b
 (Af D (θ 128) [bv false,Δ xs] [] [.a,.B,.L,.N,.E] λb1 xs1=>
 some ((Ω [bv b1,Δ xs1],[])))
 (Af D (θ 182) [Δ x1_1,Δ x0_1] [] [.t,.L,.B,.N,.E] λxs1 _=>
 Af D (θ 128) [bv true,Δ xs1] [] [.a,.B,.L,.N,.E] λb2 xs2=>
 some ((Ω [bv b2,Δ xs2],[]))))))
 (Af D (θ 69) [Ω [bv x0_0,Δ x0_1]] [] [.i,.E] λn3=>
 br (A.lt n3 0)
 (Af D (θ 122) [Ω [bv x1_0,Δ x1_1],Ω [bv x0_0,Δ x0_1]] [] [.a,.B,.L,.N,.E] λb xs=>
 some ((Ω [bv b,Δ xs],[])))
 (Af D (θ 182) [Δ x0_1,Δ x1_1] [] [.t,.L,.B,.N,.E] λxs b=>
 br b
 (Af D (θ 128) [bv false,Δ xs] [] [.a,.B,.L,.N,.E] λb1 xs1=>
 some ((Ω [bv b1,Δ xs1],[])))
 (Af D (θ 182) [Δ x1_1,Δ x0_1] [] [.t,.L,.B,.N,.E] λxs1 _=>
 Af D (θ 128) [bv true,Δ xs1] [] [.a,.B,.L,.N,.E] λb2 xs2=>
 some ((Ω [bv b2,Δ xs2],[])))))))
 (Af D (θ 69) [Ω [bv x0_0,Δ x0_1]] [] [.i,.E] λn1=>
 br (A.le 0 n1)
 (Af D (θ 69) [Ω [bv x1_0,Δ x1_1]] [] [.i,.E] λn2=>
 br (A.le 0 n2)
 (Af D (θ 129) [Δ x0_1,Δ x1_1] [] [.l,.E] λxs=>
 Af D (θ 128) [bv false,Δ xs] [] [.a,.B,.L,.N,.E] λb xs1=>
 some ((Ω [bv b,Δ xs1],[])))
 (Af D (θ 69) [Ω [bv x0_0,Δ x0_1]] [] [.i,.E] λn3=>
 br (A.lt n3 0)
 (Af D (θ 122) [Ω [bv x1_0,Δ x1_1],Ω [bv x0_0,Δ x0_1]] [] [.a,.B,.L,.N,.E] λb xs=>
 some ((Ω [bv b,Δ xs],[])))
 (Af D (θ 182) [Δ x0_1,Δ x1_1] [] [.t,.L,.B,.N,.E] λxs b=>
 br b
 (Af D (θ 128) [bv false,Δ xs] [] [.a,.B,.L,.N,.E] λb1 xs1=>
 some ((Ω [bv b1,Δ xs1],[])))
 (Af D (θ 182) [Δ x1_1,Δ x0_1] [] [.t,.L,.B,.N,.E] λxs1 _=>
 Af D (θ 128) [bv true,Δ xs1] [] [.a,.B,.L,.N,.E] λb2 xs2=>
 some ((Ω [bv b2,Δ xs2],[]))))))
 (Af D (θ 69) [Ω [bv x0_0,Δ x0_1]] [] [.i,.E] λn2=>
 br (A.lt n2 0)
 (Af D (θ 122) [Ω [bv x1_0,Δ x1_1],Ω [bv x0_0,Δ x0_1]] [] [.a,.B,.L,.N,.E] λb xs=>
 some ((Ω [bv b,Δ xs],[])))
 (Af D (θ 182) [Δ x0_1,Δ x1_1] [] [.t,.L,.B,.N,.E] λxs b=>
 br b
 (Af D (θ 128) [bv false,Δ xs] [] [.a,.B,.L,.N,.E] λb1 xs1=>
 some ((Ω [bv b1,Δ xs1],[])))
 (Af D (θ 182) [Δ x1_1,Δ x0_1] [] [.t,.L,.B,.N,.E] λxs1 _=>
 Af D (θ 128) [bv true,Δ xs1] [] [.a,.B,.L,.N,.E] λb2 xs2=>
 some ((Ω [bv b2,Δ xs2],[])))))):=by kernel_rfl
theorem Amq(x0_0:Bool)(x0_1:Rw)(x1_0:Bool)(x1_1:Rw):BP A D As AfH .n 124 Agr [Ω [bv x0_0,Δ x0_1],Ω [bv x1_0,Δ x1_1]] [] =
 Af D (θ 179) [Ω [bv x1_0,Δ x1_1]] [] [.a,.B,.L,.N,.E] λb xs=>
 Af D (θ 122) [Ω [bv x0_0,Δ x0_1],Ω [bv b,Δ xs]] [] [.a,.B,.L,.N,.E] λb1 xs1=>
 some ((Ω [bv b1,Δ xs1],[])):=by kernel_rfl
theorem Amp(x0_0:Bool)(x0_1:Rw)(x1_0:Bool)(x1_1:Rw):BP A D As AfG .n 123 Agq [Ω [bv x0_0,Δ x0_1],Ω [bv x1_0,Δ x1_1]] [] =
 Af D (θ 69) [Ω [bv x0_0,Δ x0_1]] [] [.i,.E] λn=>
 Af D (θ 69) [Ω [bv x1_0,Δ x1_1]] [] [.i,.E] λn1=>
 br (A.lt (A.mul Φ n n1) 0)
 (Af D (θ 183) [Δ x0_1,Δ x1_1] [] [.l,.E] λxs=>
 Af D (θ 128) [bv true,Δ xs] [] [.a,.B,.L,.N,.E] λb xs1=>
 some ((Ω [bv b,Δ xs1],[])))
 (Af D (θ 183) [Δ x0_1,Δ x1_1] [] [.l,.E] λxs=>
 Af D (θ 128) [bv false,Δ xs] [] [.a,.B,.L,.N,.E] λb xs1=>
 some ((Ω [bv b,Δ xs1],[]))):=by kernel_rfl
theorem e53(x0_0:Bool)(x0_1:Rw)(x1_0:Bool)(x1_1:Rw):BP A D As Aj4 .n 53 Alp [Ω [bv x0_0,Δ x0_1],Ω [bv x1_0,Δ x1_1]] [] =
 Af D (θ 124) [Ω [bv x0_0,Δ x0_1],Ω [bv x1_0,Δ x1_1]] [] [.a,.B,.L,.N,.E] λb xs=>
 Af D (θ 69) [Ω [bv b,Δ xs]] [] [.i,.E] λn=>
 some ((iv n,[])):=by kernel_rfl
theorem AmK(x0_0:Bool)(x0_1:Rw)(x1_0:Bool)(x1_1:Rw):BP A D As AfX .n 152 AgH [Ω [bv x0_0,Δ x0_1],Ω [bv x1_0,Δ x1_1]] [] =
 br (A.beq x0_0 x1_0)
 (Af D (θ 210) [Δ x0_1,Δ x1_1] [] [.b,.E] λb=>
 br b
 (some ((bv true,[])))
 (some ((bv false,[]))))
 (some ((bv false,[]))):=by kernel_rfl
end
theorem F6{z:Zi}(h:zv z<0):zv z=-(Ad z.abs:Int):=by
 unfold zv Cn at *
 cases e:z.neg<;>rw[e]at h<;>simp at h ⊢
 omega
theorem Er{z:Zi}(h:¬ zv z<0):zv z=(Ad z.abs:Int):=by
 unfold zv Cn at *
 cases e:z.neg<;>rw[e]at h<;>simp at h ⊢
 omega
theorem JL{n:Int}:BF n<0 ↔ n<0:=by
 unfold BF;split
 .omega
 .split<;>omega
theorem AbY{k:Nat}{x y:Int}(hx:InB k x)(hy:InB k y):InB (k+1) (x+y):=by
 unfold InB at *;rw[ApU];have:=Int.natAbs_add_le x y;omega
theorem Od{k:Nat}(hk:k<=900000000){a b:Zi}(ha:Lz k a)(hb:Lz k b):BD (Ah (Ad a.abs+Ad b.abs)):=by
 unfold BD;have h1:=ha.inb;have h2:=hb.inb;have f:∀ z:Zi,(zv z).natAbs=Ad z.abs:=λz=>by
  unfold zv Cn;split
  .rw[Aq2];rfl
  .rfl
 unfold InB at h1 h2;rw[f]at h1 h2;have:=A1 (n:=Ad a.abs+Ad b.abs) (k:=k+1) (by rw[ApU];omega);omega
theorem C1(n:Int):BF n=-1/\n<0\/BF n=1/\0<n\/BF n=0/\n=0:=by
 unfold BF;split
 .omega
 .split<;>omega
theorem PO(x y:Int):Ag.mul .i64 (BF x) (BF y)=BF x*BF y:=by
 show IntKind.i64.wrap (BF x*BF y)=_
 rw[IntKind.wrap_i64];rcases C1 x with h|h|h<;>rcases C1 y with h2|h2|h2<;>rw[h.1,h2.1]<;>rfl
theorem S0{a b:Zi}(h:BF (zv a)*BF (zv b)<0):Cn true (Ad a.abs*Ad b.abs)=zv a*zv b:=by
 unfold Cn;rw[if_pos rfl,Aq8]
 by_cases ha:zv a<0
 .rw[F6 ha]
  by_cases hb:zv b<0
  .exfalso
   rcases C1 (zv a) with h1|h1|h1<;>rcases C1 (zv b) with h2|h2|h2<;>rw[h1.1,h2.1]at h<;>omega
  .rw[Er hb,Aru]
 .rw[Er ha]
  by_cases hb:zv b<0
  .rw[F6 hb,As4]
  .exfalso
   rcases C1 (zv a) with h1|h1|h1<;>rcases C1 (zv b) with h2|h2|h2<;>rw[h1.1,h2.1]at h<;>omega
theorem S1{a b:Zi}(h:¬ BF (zv a)*BF (zv b)<0):Cn false (Ad a.abs*Ad b.abs)=zv a*zv b:=by
 unfold Cn;rw[if_neg (by simp),Aq8];rcases C1 (zv a) with h1|h1|h1
 .rcases C1 (zv b) with h2|h2|h2
  .rw[F6 h1.2,F6 h2.2,Int.neg_mul_neg]
  .exfalso
   rw[h1.1,h2.1]at h;omega
  .have:=Er (z:=b) (by omega)
   rw[h2.2,ArU,←this,h2.2,ArU]
 .rcases C1 (zv b) with h2|h2|h2
  .exfalso
   rw[h1.1,h2.1]at h;omega
  .rw[←Er (z:=a) (by omega),←Er (z:=b) (by omega)]
  .have:=Er (z:=b) (by omega)
   rw[h2.2,ArU,←this,h2.2,ArU]
 .have:=Er (z:=a) (by omega)
  rw[h1.2,Asj,←this,h1.2,Asj]
section
variable {D:Orc} (K:Knows As Hw D) (R:Knows As Nc D)
include K R
theorem CR(neg:Bool){a:List Nat}(ha:Limbs a)(hs:BD a):D.ask (.fn 128) [bv neg,eN a] []=some (.agg (eZ (Az (Cn neg (Ad a)))),[]):=by
 refine R.fn' AfL _ rfl ((Amu ..).trans ?_);refine Aa (Cu K hs ha) ?_;simp only[eN,ND,DK,Ab,Aj];rw[Jg];unfold eZ eN;have hp:=@CX (Ad a)
 by_cases h:0<Ad a
 .refine AK (by have:=hp.2 h;omega) ?_
  rw[decide_eq_true h,Bool.and_true]
 .have h0:Ad a=0:=by omega
  rw[decide_eq_false h,Bool.and_false,h0,Cb];exact Bi rfl rfl
theorem VK{z:Zi}(hz:Lz 1000000000 z):D.ask (.fn 75) [.agg (eZ z)] []=some (.agg (eZ (Az (zv z))),[]):=by
 refine R.fn' Akc _ rfl ((e75 ..).trans ?_);refine Aa (CR K R z.neg hz.lim hz.len) ?_;rfl
theorem CS{z:Zi}(hz:Lz 1000000000 z):D.ask (.fn 69) [.agg (eZ z)] []=some (iv (BF (zv z)),[]):=by
 refine R.fn' Aka _ rfl ((e69 ..).trans ?_);refine Aa (Cu K hz.len hz.lim) ?_;simp only[eN,ND,DK,Ab,Aj];have hp:=@CX (Ad z.abs);unfold zv Cn
 by_cases h:0<Ad z.abs
 .refine AK (by have:=hp.2 h;omega) ?_
  cases z.neg with
  |false=>
   refine B8 ?_;rw[if_neg (by simp)];unfold BF;rw[if_neg (by omega)]
   first|rw[if_pos (by omega)] | rw[if_neg (by omega)]
  |true=>
   refine Ae ?_;rw[if_pos rfl];unfold BF
   first|rw[if_pos (by omega)] | rw[if_neg (by omega),if_neg (by omega)]
 .have h0:Ad z.abs=0:=by omega
  rw[h0,Cb];refine Bi rfl ?_
  cases z.neg<;>rfl
theorem Uw{z:Zi}(hz:Lz 1000000000 z):D.ask (.fn 179) [.agg (eZ z)] []=some (.agg (eZ (Az (-zv z))),[]):=by
 have e:-zv z=Cn (!z.neg) (Ad z.abs):=by
  unfold zv Cn
  cases z.neg<;>simp
 rw[e];refine R.fn' Af4 _ rfl ((AmS ..).trans ?_);rw[YW];have g:=λb=>CR K R b hz.lim hz.len
 cases z.neg with
 |false=>
  refine Ae ?_;refine Aa (g true) ?_;rfl
 |true=>
  refine B8 ?_;refine Aa (g false) ?_;rfl
theorem Ot{k:Nat}(hk:k<=900000000){a b:Zi}(ha:Lz k a)(hb:Lz k b)(hp:¬ zv a<0):D.ask (.fn 122) [.agg (eZ a),.agg (eZ b)] []=some (.agg (eZ (Az (zv a+zv b))),[]):=by
 have la:=ha.len;have lb:=hb.len;have sa:=CS K R (ha.mono (show k<=1000000000 by omega));have sb:=CS K R (hb.mono (show k<=1000000000 by omega));have ea:=Er hp;have hsa:¬ BF (zv a)<0:=λh=>hp (JL.1 h)
 refine R.fn' XZ _ rfl ((Ajv ..).trans ?_);refine Aa sa ?_;simp only[NH,ND,DK,Ab];refine Ak hsa ?_;refine Aa sa ?_;simp only[NH,ND,DK,Ab];refine BW (by omega) ?_;refine Aa sb ?_;simp only[NH,ND,DK,Ab]
 by_cases hb0:zv b<0
 .have hsb:=JL.2 hb0
  have eb:=F6 hb0;refine Ca (by omega) ?_;refine Aa sa ?_;simp only[NH,ND,DK,Ab];refine Ak hsa ?_;have g1:=PF K (a:=a.abs) (b:=b.abs) (by unfold BD;omega) ha.lim (by unfold BD;omega) hb.lim;unfold J5 at g1;refine Aa g1 ?_
  by_cases hle:Ad b.abs<=Ad a.abs
  .rw[if_pos hle]
   simp only[eN,ND,DK,Ab];have g2:=CR K R false (a:=Ah (Ad a.abs-Ad b.abs)) (Al _) (by
    unfold BD;have:=A1 (n:=Ad a.abs-Ad b.abs) (k:=a.abs.length) (by have:=Bm ha.lim;omega);omega)
   rw[Ax,show Cn false (Ad a.abs-Ad b.abs)=zv a+zv b by unfold Cn;rw[if_neg (by simp)];omega]at g2;refine Aa g2 ?_;rfl
  .rw[if_neg hle]
   simp only[eN,ND,DK,Ab];have g3:=PF K (a:=b.abs) (b:=a.abs) (by unfold BD;omega) hb.lim (by unfold BD;omega) ha.lim;unfold J5 at g3;rw[if_pos (show Ad a.abs<=Ad b.abs by omega)]at g3;refine Aa g3 ?_;simp only[eN,ND,DK,Ab];have g2:=CR K R true (a:=Ah (Ad b.abs-Ad a.abs)) (Al _) (by
    unfold BD;have:=A1 (n:=Ad b.abs-Ad a.abs) (k:=b.abs.length) (by have:=Bm hb.lim;omega);omega)
   rw[Ax,show Cn true (Ad b.abs-Ad a.abs)=zv a+zv b by unfold Cn;rw[if_pos rfl];omega]at g2;refine Aa g2 ?_;rfl
 .have hsb:¬ BF (zv b)<0:=λh=>hb0 (JL.1 h)
  have eb:=Er hb0;refine BW (by omega) ?_;refine Aa (IX K (by omega) ha.lim (by omega) hb.lim) ?_;simp only[eN,ND,DK,Ab];have g2:=CR K R false (a:=Ah (Ad a.abs+Ad b.abs)) (Al _) (Od hk ha hb);rw[Ax,show Cn false (Ad a.abs+Ad b.abs)=zv a+zv b by unfold Cn;rw[if_neg (by simp)];omega]at g2;refine Aa g2 ?_;rfl
theorem M4{k:Nat}(hk:k<=900000000){a b:Zi}(ha:Lz k a)(hb:Lz k b):D.ask (.fn 122) [.agg (eZ a),.agg (eZ b)] []=some (.agg (eZ (Az (zv a+zv b))),[]):=by
 by_cases hp:zv a<0
 .have la:=ha.len
  have lb:=hb.len;have sa:=CS K R (ha.mono (show k<=1000000000 by omega));have sb:=CS K R (hb.mono (show k<=1000000000 by omega));have ea:=F6 hp;have hsa:=JL.2 hp;refine R.fn' XZ _ rfl ((Ajv ..).trans ?_);refine Aa sa ?_;simp only[NH,ND,DK,Ab];refine Aq hsa ?_;refine Aa sb ?_;simp only[NH,ND,DK,Ab]
  by_cases hb0:zv b<0
  .have eb:=F6 hb0
   refine Aq (JL.2 hb0) ?_;refine Aa (IX K (by omega) ha.lim (by omega) hb.lim) ?_;simp only[eN,ND,DK,Ab];have g2:=CR K R true (a:=Ah (Ad a.abs+Ad b.abs)) (Al _) (Od hk ha hb);rw[Ax,show Cn true (Ad a.abs+Ad b.abs)=zv a+zv b by unfold Cn;rw[if_pos rfl];omega]at g2;refine Aa g2 ?_;rfl
  .refine Ak (λh=>hb0 (JL.1 h)) ?_
   refine Aa sa ?_;simp only[NH,ND,DK,Ab];refine Ca (by omega) ?_;refine Aa sa ?_;simp only[NH,ND,DK,Ab];refine Aq hsa ?_;have g:=Ot K R hk hb ha hb0;rw[Int.add_comm]at g;refine Aa g ?_;rfl
 .exact Ot K R hk ha hb hp
theorem M5{k:Nat}(hk:k<=900000000){a b:Zi}(ha:Lz k a)(hb:Lz k b):D.ask (.fn 124) [.agg (eZ a),.agg (eZ b)] []=some (.agg (eZ (Az (zv a-zv b))),[]):=by
 refine R.fn' AfH _ rfl ((Amq ..).trans ?_);refine Aa (Uw K R (hb.mono (show k<=1000000000 by omega))) ?_;have hn:Lz k (Az (-zv b)):=InB.lz (by have:=hb.inb;unfold InB at *;rwa [Aq2]);have g:=M4 K R hk ha hn;rw[AU,←ArK]at g;simp only[eZ,eN,ND,DK,Ab];refine Aa g ?_;rfl
theorem Zn{k:Nat}(hk:k<=900000000){a b:Zi}(ha:Lz k a)(hb:Lz k b):D.ask (.fn 53) [.agg (eZ a),.agg (eZ b)] []=some (iv (BF (zv a-zv b)),[]):=by
 refine R.fn' Aj4 _ rfl ((e53 ..).trans ?_);refine Aa (M5 K R hk ha hb) ?_;have hs:Lz (k+1) (Az (zv a-zv b)):=InB.lz (by rw[ArK];exact AbY ha.inb (by have:=hb.inb;unfold InB at *;rwa [Aq2]));have g:=CS K R (hs.mono (show k+1<=1000000000 by omega));rw[AU]at g;simp only[eZ,eN,ND,DK,Ab];refine Aa g ?_;rfl
theorem Ro{k m:Nat}(hk:k<=400000000)(hm:m<=400000000){a b:Zi}(ha:Lz k a)(hb:Lz m b):D.ask (.fn 123) [.agg (eZ a),.agg (eZ b)] []=some (.agg (eZ (Az (zv a*zv b))),[]):=by
 have la:=ha.len;have lb:=hb.len;have sa:=CS K R (ha.mono (show k<=1000000000 by omega));have sb:=CS K R (hb.mono (show m<=1000000000 by omega));refine R.fn' AfG _ rfl ((Amp ..).trans ?_);refine Aa sa ?_;simp only[NH,ND,DK,Ab];refine Aa sb ?_;simp only[NH,ND,DK,Ab];have g:=Aep K ha.lim hb.lim (by omega);have l1:=Ek ha.lim hb.lim;have gf:∀ ng,D.ask (.fn 128) [bv ng,eN (Ah (Ad a.abs*Ad b.abs))] []=some (.agg (eZ (Az (Cn ng (Ad a.abs*Ad b.abs)))),[]):=λng=>by
  have:=CR K R ng (a:=Ah (Ad a.abs*Ad b.abs)) (Al _) (by unfold BD;omega)
  rwa [Ax]at this
 have hmul:Ag.mul .i64 (BF (zv a)) (BF (zv b))=BF (zv a)*BF (zv b):=PO _ _;rw[hmul]
 by_cases h:BF (zv a)*BF (zv b)<0
 .refine Aq h ?_
  refine Aa g ?_;simp only[eN,ND,DK,Ab];have g2:=gf true;rw[S0 h]at g2;refine Aa g2 ?_;rfl
 .refine Ak h ?_
  refine Aa g ?_;simp only[eN,ND,DK,Ab];have g2:=gf false;rw[S1 h]at g2;refine Aa g2 ?_;rfl
theorem VV{a b:Zi}(ha:Lz 1000000000 a):D.ask (.fn 152) [.agg (eZ a),.agg (eZ b)] []=some (bv (decide (a.neg=b.neg/\a.abs=b.abs)),[]):=by
 refine R.fn' AfX _ rfl ((AmK ..).trans ?_);rw[Ok]
 by_cases h:a.neg=b.neg
 .rw[show (a.neg == b.neg)=true by simp[h]]
  refine Ae ?_;refine Aa (YV K (a:=a.abs) (b:=b.abs) ha.len) ?_
  by_cases h2:a.abs=b.abs
  .rw[decide_eq_true h2,decide_eq_true ⟨h,h2⟩]
   rfl
  .rw[decide_eq_false h2,decide_eq_false (λe=>h2 e.2)]
   rfl
 .rw[show (a.neg == b.neg)=false by simp[h],decide_eq_false (λe=>h e.1)]
  exact B8 rfl
end
structure ZF (D:Orc):Prop where
 frm:∀ z:Zi,Lz 1000000000 z->D.ask (.fn 145) [bv z.neg,eN z.abs] []=some (.agg (eZ (Az (zv z))),[])
 neg:∀ z:Zi,Lz 1000000000 z->D.ask (.fn 161) [.agg (eZ z)] []=some (.agg (eZ (Az (-zv z))),[])
 sign:∀ z:Zi,Lz 1000000000 z->D.ask (.fn 64) [.agg (eZ z)] []=some (iv (BF (zv z)),[])
 of_:∀ n:Int,-9223372036854775808<=n->n<9223372036854775808->D.ask (.fn 126) [iv n] []=some (.agg (eZ (Az n)),[])
 cmp:∀ a b:Zi,Lz 1000000000 a->Lz 1000000000 b->D.ask (.fn 155) [.agg (eZ a),.agg (eZ b)] []=some (iv (DR (zv a) (zv b)),[])
 add:∀ a b:Zi,Lz 900000000 a->Lz 900000000 b->D.ask (.fn 139) [.agg (eZ a),.agg (eZ b)] []=some (.agg (eZ (Az (zv a+zv b))),[])
 mul:∀ a b:Zi,Lz 400000000 a->Lz 400000000 b->a.abs.length<24\/b.abs.length<24->D.ask (.fn 158) [.agg (eZ a),.agg (eZ b)] []=some (.agg (eZ (Az (zv a*zv b))),[])
theorem Ag6{D:Orc}(K:Knows As Gb D)(Z:Knows As Hx D)(C:CloneF D):ZF D where
 frm z h:=by
  have:=D4 K Z C z.neg h.lim (by unfold BD;exact h.len);exact this
 neg z h:=UN K Z C h
 sign z h:=Jf K Z C h
 of_ n h1 h2:=Z1 K Z C n h1 h2
 cmp a b ha hb:=Afj K Z C ha hb
 add a b ha hb:=P3 K Z C (φ _) ha hb
 mul a b ha hb h:=Afl K Z C (φ _) (φ _) ha hb h
theorem Y2(m:Nat)(h:m<9223372036854775808):Ag.rem .i64 (m:Int) 4294967296=((m % 4294967296:Nat):Int):=by
 show AsU (m:Int) 4294967296=_
 rw[show (4294967296:Int)=((4294967296:Nat):Int) from rfl,←Int.ofNat_tmod]
theorem YZ(m:Nat)(h:m<9223372036854775808):Ag.quo .i64 (m:Int) 4294967296=((m / 4294967296:Nat):Int):=by
 show IntKind.i64.wrap (Arj (m:Int) 4294967296)=_
 rw[IntKind.wrap_i64,show (4294967296:Int)=((4294967296:Nat):Int) from rfl,←Int.ofNat_tdiv];omega
theorem RV(m:Nat):Ad [m % 4294967296,m / 4294967296]=m:=by
 unfold Ad Ad Ad;omega
theorem N5(m:Nat)(h:m<9223372036854775808):Limbs [m % 4294967296,m / 4294967296]:=A5 (by omega) (A5 (by omega) Bz)
structure RF (D:Orc):Prop where
 clean:∀ z:Zi,Lz 1000000000 z->D.ask (.fn 75) [.agg (eZ z)] []=some (.agg (eZ (Az (zv z))),[])
 neg:∀ z:Zi,Lz 1000000000 z->D.ask (.fn 179) [.agg (eZ z)] []=some (.agg (eZ (Az (-zv z))),[])
 sign:∀ z:Zi,Lz 1000000000 z->D.ask (.fn 69) [.agg (eZ z)] []=some (iv (BF (zv z)),[])
 of_:∀ n:Int,-9223372036854775808<n->n<9223372036854775808->D.ask (.fn 56) [iv n] []=some (.agg (eZ (Az n)),[])
 cmp:∀ a b:Zi,Lz 900000000 a->Lz 900000000 b->D.ask (.fn 53) [.agg (eZ a),.agg (eZ b)] []=some (iv (BF (zv a-zv b)),[])
 add:∀ a b:Zi,Lz 900000000 a->Lz 900000000 b->D.ask (.fn 122) [.agg (eZ a),.agg (eZ b)] []=some (.agg (eZ (Az (zv a+zv b))),[])
 mul:∀ a b:Zi,Lz 400000000 a->Lz 400000000 b->D.ask (.fn 123) [.agg (eZ a),.agg (eZ b)] []=some (.agg (eZ (Az (zv a*zv b))),[])
 same:∀ a b:Zi,Lz 1000000000 a->D.ask (.fn 152) [.agg (eZ a),.agg (eZ b)] []=some (bv (decide (a.neg=b.neg/\a.abs=b.abs)),[])
section
variable {D:Orc} (K:Knows As Hw D) (R:Knows As Nc D)
include K R
theorem YU(n:Int)(h1:-9223372036854775808<n)(h2:n<9223372036854775808):D.ask (.fn 56) [iv n] []=some (.agg (eZ (Az n)),[]):=by
 refine R.fn' Aj5 _ rfl ((e56 ..).trans ?_)
 by_cases h:0<=n
 .obtain⟨m,rfl⟩:=Ar3 h
  have g:=CR K R false (N5 m (by omega)) (by unfold BD;simp);rw[RV,show Cn false m=(m:Int) from rfl]at g;refine BW h ?_;refine AK (by decide) ?_;refine AK (by decide) ?_;rw[Y2 m (by omega),YZ m (by omega),Bu (by omega),Bu (by omega)];refine Aa g ?_;rfl
 .obtain⟨m,hm⟩:∃ m:Nat,n=-((m+1:Nat):Int):=⟨n.natAbs-1,by omega⟩
  have e1:Ag.sub .i64 0 (Ag.add .i64 n 1)=(m:Int):=by
   rw[Ef (by omega) (by omega),C4 (by omega) (by omega)];omega
  have ga:=IX K (a:=[m % 4294967296,m / 4294967296]) (b:=[1]) (by simp) (N5 m (by omega)) (by simp) (A5 (by omega) Bz);rw[RV,show Ad [1]=1 from rfl]at ga;have hl:(Ah (m+1)).length<=2:=A1 (by omega);have g:=CR K R true (Al (m+1)) (by unfold BD;omega);rw[Ax,show Cn true (m+1)=n by rw[hm];rfl]at g;refine Ca h ?_;refine AK (by decide) ?_;refine AK (by decide) ?_;rw[e1,Y2 m (by omega),YZ m (by omega),Bu (by omega),Bu (by omega)];refine Aa ga ?_;simp only[eN,ND,DK,Ab];refine Aa g ?_;rfl
theorem AlW:RF D where
 clean z h:=VK K R h
 neg z h:=Uw K R h
 sign z h:=CS K R h
 of_ n h1 h2:=YU K R n h1 h2
 cmp a b ha hb:=Zn K R (φ _) ha hb
 add a b ha hb:=M4 K R (φ _) ha hb
 mul a b ha hb:=Ro K R (φ _) (φ _) ha hb
 same a b ha:=VV K R ha
end
section
open Go.RowKit
def AkB:AB:=[⟨28,[false,false,false,false,true,true],[],[],[(1,([false,false,false,false,true],([],[])))]⟩]
def Ug:MFn:=AS AkB 207
def Mq:Hnt:=⟨[(149,(.ls,[]))],[(0,[(1,([.int .i64],[]))])],[(19,[.int .u32]),(20,[.int .u32])]⟩
def AkC:AB:=[⟨32,[false,true,false,false,false,true,true],[],[],[(1,([false,false,false,false,false,true],([],[])))]⟩]
def Uh:MFn:=AS AkC 209
def QM:Hnt:=⟨[],[(0,[(1,([.int .u32],[]))])],[(19,[.int .u32]),(20,[.int .u32])]⟩
def AgU:MFn:=AS [] 208
def Aga:Hnt:=⟨[(129,(.ls,[])),(229,(.ls,[]))],[],[]⟩
def Akp:AB:=[⟨45,[true,true,false,false,false,false,false,true,true,true],[],[7,8],[(1,([false,false,false,false,false,false,false,true,true],([],[])))]⟩]
def T6:MFn:=AS Akp 151
def QE:Hnt:=⟨[(149,(.ls,[])),(182,(.tup [.ls,.bool],[])),(207,(.int .i64,[])),(208,(.ls,[])),(209,(.bool,[]))],[(0,[(1,([.ls,.ls],[]))])],[]⟩
def AkA:AB:=[⟨27,[false,false,false,false,false,true,true],[],[],[(1,([false,false,false,false,false,true],([],[])))]⟩]
def Uf:MFn:=AS AkA 206
def N1:Hnt:=⟨[(149,(.ls,[])),(151,(.tup [.ls,.ls,.int .i64],[]))],[(0,[(1,([.ls],[]))])],[]⟩
def Ow:List (Nat × MFn):=[(207,Ug),(209,Uh),(208,AgU),(151,T6),(206,Uf)]
variable (A:Ar) (D:Orc)
theorem AjE(x0:Rw):BP A D As Mq .n 207 Ug [Δ x0] [] =
 Af D (θ 149) [Δ x0] [] [.l,.E] λxs=>
 br (A.eq (↑(AF xs)) 0)
 (some ((iv 0,[])))
 (unI (A.sub Φ (↑(AF xs)) 1) λi=>
 Bl xs i λcs=>
 dk [.J .u32,.N] [.l cs] λn=>
 Af D (γ 207 0) [iv (A.mul Φ 32 (A.sub Φ (↑(AF xs)) 1)),Apc (Value.int ξ n)] [] [.t,.C,.x,.X,.Y] λc l1 o1=>
 br (Bo 1 c)
 (dk [.I,.N,.E] [.l l1,.o o1] λn1=>
 some ((iv n1,[])))
 (none)):=by kernel_rfl
theorem Sr(t4 t5:Int):CO A D As Mq .n 207 0 (AN Ug 0).fst (AN Ug 0).snd [iv t4,Apc (Value.int ξ t5)] [] =
 br (A.lt 0 t5)
 (br (A.eq 2 0)
 (none)
 (AI D (γ 207 0) [iv (A.add Φ t4 1),Apc (Value.int ξ (A.quo ξ t5 2))] [] λr o=>
 AE 0 [] (AH.mk [] 0 none) [] r o))
 (some ((ν [iv 0,iv t4],[]))):=by kernel_rfl
theorem Am9(x0:Rw)(x1:Int):BP A D As QM .n 209 Uh [Δ x0,iv x1] [] =
 br (A.lt x1 0)
 (some ((bv false,[])))
 (br (A.le (A.mul Φ 32 ↑(AF x0)) x1)
 (some ((bv false,[])))
 (br (A.eq 32 0)
 (none)
 (unI (A.quo Φ x1 32) λi=>
 Bl x0 i λcs=>
 dk [.J .u32,.N] [.l cs] λn=>
 Af D (γ 209 0) [iv x1,Apc (Value.int ξ n),iv 0] [] [.t,.C,.x,.X,.Y] λc l1 o=>
 br (Bo 1 c)
 (dk [.J .u32,.N,.E] [.l l1,.o o] λn1=>
 br (A.eq 2 0)
 (none)
 (br (A.eq (A.rem ξ n1 2) 1)
 (some ((bv true,[])))
 (some ((bv false,[])))))
 (none)))):=by kernel_rfl
theorem Xo(t1 t5 t6:Int):CO A D As QM .n 209 0 (AN Uh 0).fst (AN Uh 0).snd [iv t1,Apc (Value.int ξ t5),iv t6] [] =
 br (A.eq 32 0)
 (none)
 (br (A.lt t6 (A.rem Φ t1 32))
 (br (A.eq 2 0)
 (none)
 (AI D (γ 209 0) [iv t1,Apc (Value.int ξ (A.quo ξ t5 2)),iv (A.add Φ t6 1)] [] λr o=>
 AE 0 [] (AH.mk [] 0 none) [] r o))
 (some ((ν [iv 0,Apc (Value.int ξ t5)],[])))):=by kernel_rfl
theorem Am8(x0:Rw)(x1:Bool):BP A D As Aga .n 208 AgU [Δ x0,bv x1] [] =
 Af D (θ 229) [Δ x0,Apc (Value.int Θ 2)] [] [.l,.E] λxs=>
 br x1
 (Af D (θ 129) [Δ xs,Δ [[Apc (Value.int ξ 1)]]] [] [.l,.E] λxs1=>
 some ((Δ xs1,[])))
 (some ((Δ xs,[]))):=by kernel_rfl
theorem AmJ(x0 x1:Rw):BP A D As QE .n 151 T6 [Δ x0,Δ x1] [] =
 Af D (θ 149) [Δ x1] [] [.l,.E] λxs=>
 br (A.eq (↑(AF xs)) 0)
 (some ((ν [Δ [],Δ [],iv 10],[])))
 (Af D (θ 207) [Δ x0] [] [.i,.E] λn=>
 Af D (γ 151 0) [Δ x0,Δ x1,Δ [],Δ [],iv (A.sub Φ n 1)] [] [.t,.C,.x,.X,.Y] λc l o2=>
 br (Bo 1 c)
 (dk [.L,.L,.N,.E] [.l l,.o o2] λxs1 xs2=>
 Af D (θ 149) [Δ xs1] [] [.l,.E] λxs3=>
 Af D (θ 149) [Δ xs2] [] [.l,.E] λxs4=>
 some ((ν [Δ xs3,Δ xs4,iv 0],[])))
 (none)):=by kernel_rfl
theorem Xd(t0 t1 t7 t8:Rw)(t9:Int):CO A D As QE .n 151 0 (AN T6 0).fst (AN T6 0).snd [Δ t0,Δ t1,Δ t7,Δ t8,iv t9] [] =
 br (A.le 0 t9)
 (Af D (θ 209) [Δ t0,iv t9] [] [.b,.E] λb=>
 br b
 (Af D (θ 208) [Δ t8,bv true] [] [.l,.E] λxs=>
 Af D (θ 182) [Δ xs,Δ t1] [] [.t,.L,.B,.N,.E] λxs1 b1=>
 br b1
 (Af D (θ 208) [Δ t7,bv b1] [] [.l,.E] λxs2=>
 AI D (γ 151 0) [Δ t0,Δ t1,Δ xs2,Δ xs1,iv (A.sub Φ t9 1)] [] λr4 o4=>
 AE 0 [] (AH.mk [] 0 none) [] r4 o4)
 (Af D (θ 208) [Δ t7,bv b1] [] [.l,.E] λxs2=>
 AI D (γ 151 0) [Δ t0,Δ t1,Δ xs2,Δ xs,iv (A.sub Φ t9 1)] [] λr4 o4=>
 AE 0 [] (AH.mk [] 0 none) [] r4 o4))
 (Af D (θ 208) [Δ t8,bv false] [] [.l,.E] λxs=>
 Af D (θ 182) [Δ xs,Δ t1] [] [.t,.L,.B,.N,.E] λxs1 b1=>
 br b1
 (Af D (θ 208) [Δ t7,bv b1] [] [.l,.E] λxs2=>
 AI D (γ 151 0) [Δ t0,Δ t1,Δ xs2,Δ xs1,iv (A.sub Φ t9 1)] [] λr4 o4=>
 AE 0 [] (AH.mk [] 0 none) [] r4 o4)
 (Af D (θ 208) [Δ t7,bv b1] [] [.l,.E] λxs2=>
 AI D (γ 151 0) [Δ t0,Δ t1,Δ xs2,Δ xs,iv (A.sub Φ t9 1)] [] λr4 o4=>
 AE 0 [] (AH.mk [] 0 none) [] r4 o4)))
 (some ((ν [iv 0,Δ t7,Δ t8],[]))):=by kernel_rfl
theorem Am7(x0 x1:Rw):BP A D As N1 .n 206 Uf [Δ x0,Δ x1] [] =
 Af D (θ 149) [Δ x0] [] [.l,.E] λxs=>
 Af D (θ 149) [Δ x1] [] [.l,.E] λxs1=>
 Af D (γ 206 0) [Δ xs,Δ xs1] [] [.t,.C,.x,.X,.Y] λc l o2=>
 br (Bo 1 c)
 (dk [.L,.N,.E] [.l l,.o o2] λxs2=>
 some ((Δ xs2,[])))
 (none):=by kernel_rfl
theorem Sq(t5 t6:Rw):CO A D As N1 .n 206 0 (AN Uf 0).fst (AN Uf 0).snd [Δ t5,Δ t6] [] =
 br (A.lt 0 ↑(AF t6))
 (Af D (θ 151) [Δ t5,Δ t6] [] [.t,.L,.L,.I,.N,.E] λ_ xs1 _=>
 AI D (γ 206 0) [Δ t6,Δ xs1] [] λr1 o1=>
 AE 0 [] (AH.mk [] 0 none) [] r1 o1)
 (some ((ν [iv 0,Δ t5],[]))):=by kernel_rfl
end
theorem AlO{x:Nat}(h:x<4294967296):Ag.quo .u32 (x:Int) 2=((x / 2:Nat):Int):=by
 show IntKind.u32.wrap (Arj (x:Int) ((2:Nat):Int))=_
 rw[show Arj (x:Int) ((2:Nat):Int)=((x / 2:Nat):Int) from rfl,IntKind.wrap_u32];omega
theorem AnK(x:Nat):Ag.rem .u32 (x:Int) 2=((x % 2:Nat):Int):=by
 show AsU (x:Int) ((2:Nat):Int)=_
 rfl
theorem q_i{x:Nat}(h:x<4611686018427387904):Ag.quo .i64 (x:Int) 32=((x / 32:Nat):Int):=by
 show IntKind.i64.wrap (Arj (x:Int) ((32:Nat):Int))=_
 rw[show Arj (x:Int) ((32:Nat):Int)=((x / 32:Nat):Int) from rfl,IntKind.wrap_i64];omega
theorem m_i(x:Nat):Ag.rem .i64 (x:Int) 32=((x % 32:Nat):Int):=by
 show AsU (x:Int) ((32:Nat):Int)=_
 rfl
theorem x_i{x:Nat}(h:x<4611686018427387):Ag.mul .i64 32 (x:Int)=((32*x:Nat):Int):=by
 show IntKind.i64.wrap ((32:Int)*(x:Int))=_
 rw[IntKind.wrap_i64];omega
theorem YR(n:Nat):4294967296 ^ n=2 ^ (32*n):=by
 rw[Nat.pow_mul]
theorem Ahp{a:List Nat}(ha:Limbs a){i:Nat}(h:i / 32<a.length):Ad a / 2 ^ i % 2=a[i / 32] / 2 ^ (i % 32) % 2:=by
 have e:a=a.take (i / 32)++(a[i / 32]::a.drop (i / 32+1)):=by
  rw[←ω h,List.take_append_drop]
 have hv:=congrArg Ad e;rw[Bw,Apg,ApL (by omega),Ad]at hv;have hlo:=Bm (ha.take (i / 32));rw[Apg,ApL (by omega)]at hlo;have hP:0<4294967296 ^ (i / 32):=Nat.pow_pos (by omega);have h2:2 ^ i=4294967296 ^ (i / 32)*2 ^ (i % 32):=by
  rw[YR,←Aq1]
  congr 1
  omega
 have hr:i % 32<=31:=by omega
 rw[h2,←Arx,hv,AqZ _ _ hP,AqL hlo,Apy];generalize a[i / 32]=y;generalize Ad (a.drop (i / 32+1))=z;generalize i % 32=r at *;have hp:=Nat.two_pow_pos r;have e3:y+4294967296*z=y+2 ^ r*(2*(2 ^ (31-r)*z)):=by
  rw[←Apo 2,←Apo,←Nat.pow_succ',←Aq1,show r+(31-r).succ=32 by omega]
 rw[e3,AqZ _ _ hp,Nat.add_mul_mod_self_left]
theorem WU{a:List Nat}(ha:Limbs a){i:Nat}(h:32*a.length<=i):Ad a / 2 ^ i=0:=by
 refine AqL (Aqc (Bm ha) ?_);rw[YR];exact Aqf (by omega) h
theorem W7{M N b c:Nat}(hN:N=2*M+c)(hc:c<=1)(hb:0<b):(b<=2*(M % b)+c->N / b=2*(M / b)+1/\N % b=2*(M % b)+c-b)/\(¬ b<=2*(M % b)+c->N / b=2*(M / b)/\N % b=2*(M % b)+c):=by
 have hd:=Nat.div_add_mod M b;have hm:=ApI M hb;generalize M / b=Q at *;generalize M % b=R at *;have e:N=b*(2*Q)+(2*R+c):=by
  rw[hN,←hd,Asv];omega
 refine⟨λh=>?_,λh=>?_⟩
 .have e2:N=b*(2*Q+1)+(2*R+c-b):=by
   rw[ApW,AqP];omega
  rw[e2,AsI hb,AsJ,AqL (by omega),Ap1 (by omega)];exact⟨rfl,rfl⟩
 .rw[e,AsI hb,AsJ,AqL (by omega),Ap1 (by omega)]
  exact⟨rfl,rfl⟩
section
variable {D:Orc} (Kn:Knows As Hw D) (K:Knows As Ow D)
include K
theorem AaM:∀(k x t:Nat),x<2 ^ k->k<=32->t+k<4611686018427387000->∃ L:Nat,D.ask (.lp 207 0) [iv (t:Int),.v (.int .u32 (x:Int))] []=some (.tup [iv 0,iv ((t+L:Nat):Int)],[])/\x<2 ^ L/\L<=k:=by
 intro k
 induction k with
 |zero=>
  intro x t h _ ht;obtain rfl:x=0:=by simpa using h
  refine⟨0,?_,by simp,φ _⟩;refine K.lp' Mq _ rfl (by kernel_rfl) ((Sr ..).trans ?_);exact CA (by omega)
 |succ k ih=>
  intro x t h hk ht
  by_cases h0:x=0
  .subst h0
   refine⟨0,?_,by simp,ApM _⟩;refine K.lp' Mq _ rfl (by kernel_rfl) ((Sr ..).trans ?_);exact CA (by omega)
  .obtain⟨L,g,h1,h2⟩:=ih (x / 2) (t+1) (by rw[ApU]at h;omega) (by omega) (by omega)
   have hx:x<4294967296:=Aqc h (Aqf (n:=2) (by omega) hk);refine⟨L+1,?_,by rw[ApU];omega,by omega⟩;refine K.lp' Mq _ rfl (by kernel_rfl) ((Sr ..).trans ?_);refine Aq (by omega) ?_;refine AK (by decide) ?_;rw[BC (by omega),AlO hx];refine Aa g ?_;rw[show t+1+L=t+(L+1) by omega];rfl
theorem Ahq(i:Nat):∀(k x t:Nat),k+t=i % 32->x<4294967296->D.ask (.lp 209 0) [iv (i:Int),.v (.int .u32 (x:Int)),iv (t:Int)] []=some (.tup [iv 0,.v (.int .u32 ((x / 2 ^ k:Nat):Int))],[]):=by
 intro k
 induction k with
 |zero=>
  intro x t h hx;refine K.lp' QM _ rfl (by kernel_rfl) ((Xo ..).trans ?_);refine AK (by decide) ?_;rw[m_i];refine Ak (by omega) ?_;rw[As2,As6]
 |succ k ih=>
  intro x t h hx;refine K.lp' QM _ rfl (by kernel_rfl) ((Xo ..).trans ?_);refine AK (by decide) ?_;rw[m_i];refine Aq (by omega) ?_;refine AK (by decide) ?_;rw[AlO hx,BC (by omega)];refine Aa (ih (x / 2) (t+1) (by omega) (by omega)) ?_;rw[Arx,show 2*2 ^ k=2 ^ (k+1) by rw[ApU,ApD]];rfl
theorem Ahr{a:List Nat}(ha:Limbs a)(hs:BD a){i:Nat}(hi:i<4611686018427387904):D.ask (.fn 209) [eN a,iv (i:Int)] []=some (bv (decide (Ad a / 2 ^ i % 2=1)),[]):=by
 unfold BD at hs;refine K.fn' QM _ rfl ((Am9 ..).trans ?_);refine Ak (by omega) ?_;rw[Aj,x_i (by omega)]
 by_cases h:32*a.length<=i
 .rw[WU ha h]
  exact OT (by omega)
 .have hj:i / 32<a.length:=by omega
  refine Ca (by omega) ?_;refine AK (by decide) ?_;rw[q_i hi,Av,Aw (Ψ hj)];simp only[eL,EN,ND,DK,Ab];refine Aa (Ahq K i (i % 32) a[i / 32] 0 (by omega) (ha.get hj)) ?_;simp only[EN,ND,DK,Ab];refine AK (by decide) ?_;rw[AnK,Ahp ha hj]
  by_cases h1:a[i / 32] / 2 ^ (i % 32) % 2=1
  .rw[decide_eq_true h1]
   exact Gp (by omega)
  .rw[decide_eq_false h1]
   exact FI (by omega)
include Kn
theorem AaN{a:List Nat}(ha:Limbs a)(hs:BD a):∃ B:Nat,D.ask (.fn 207) [eN a] []=some (iv (B:Int),[])/\Ad a<2 ^ B/\B<=32*a.length:=by
 have hl:=Cs a ha;have htl:=BZ a;unfold BD at hs
 by_cases h0:Ad a=0
 .refine⟨0,?_,by rw[h0];decide,ApM _⟩
  refine K.fn' Mq _ rfl ((AjE ..).trans ?_);refine Aa (Cu Kn (by unfold BD;omega) ha) ?_;rw[h0,Cb];simp only[eN,ND,DK,Ab];exact Gp (by decide)
 .have hne:0<(Ah (Ad a)).length:=by
   rw[Da h0];exact Asn _
  have hk:(Ah (Ad a)).length-1<(Ah (Ad a)).length:=by omega
  obtain⟨L,g,h1,h2⟩:=AaM K 32 ((Ah (Ad a))[(Ah (Ad a)).length-1]) (32*((Ah (Ad a)).length-1)) ((Al _).get hk) (φ _) (by omega);refine⟨32*((Ah (Ad a)).length-1)+L,?_,?_,by omega⟩
  .refine K.fn' Mq _ rfl ((AjE ..).trans ?_)
   refine Aa (Cu Kn (by unfold BD;omega) ha) ?_;simp only[eN,Aj,ND,DK,Ab];refine AK (by omega) ?_;rw[show Ag.sub .i64 ((Ah (Ad a)).length:Int) 1=(((Ah (Ad a)).length-1:Nat):Int) from K9 (j:=1) (by omega) (by omega),Av,Aw (Ψ hk),x_i (by omega)];simp only[eL,EN,ND,DK,Ab];refine Aa g ?_;simp only[ND,DK,Ab]
  .have hlast:(Ah (Ad a))=(Ah (Ad a)).take ((Ah (Ad a)).length-1)++[(Ah (Ad a))[(Ah (Ad a)).length-1]]:=by
    rw[←ApC hk,ApZ (by omega)]
   have hv:=congrArg Ad hlast;rw[Ax,Bw,Apg,ApL (by omega)]at hv;have hlo:=Bm ((Al (Ad a)).take ((Ah (Ad a)).length-1));rw[Apg,ApL (by omega)]at hlo;simp only[Ad,Arl,ApJ]at hv;rw[Aq1,←YR];have:=Nat.mul_le_mul_left (4294967296 ^ ((Ah (Ad a)).length-1)) h1;rw[Nat.mul_succ]at this;omega
theorem RO{l:List Nat}(hl:Limbs l)(hs:l.length<=999999990)(c:Bool):D.ask (.fn 208) [eN l,bv c] []=some (eN (Ah (2*Ad l+(if c then 1 else 0))),[]):=by
 have hlen:(Ah (Ad l*2)).length<=l.length+1:=by
  refine A1 ?_;have:=Bm hl;rw[ApU];omega
 refine K.fn' Aga _ rfl ((Am8 ..).trans ?_);refine Aa (Oo Kn hl (by omega) 2 (by omega)) ?_;simp only[eN,ND,DK,Ab]
 cases c with
 |true=>
  refine Ae ?_;have g:=IX Kn (a:=Ah (Ad l*2)) (b:=[1]) (by omega) (Al _) (by simp) (A5 (by omega) Bz);rw[Ax]at g;refine Aa g ?_;simp only[eN,ND,DK,Ab];rw[show Ad [1]=1 from rfl,ApD];rfl
 |false=>
  refine B8 ?_;rw[ApD];rfl
theorem Aew{a b:List Nat}(ha:Limbs a)(hal:a.length<=999999980)(hb:Limbs b)(hbl:b.length<=999999980)(h0:0<Ad b):∀ k:Nat,k<=32*a.length->
  D.ask (.lp 151 0) [eN a,eN b,eN (Ah (Ad a / 2 ^ k / Ad b)),eN (Ah (Ad a / 2 ^ k % Ad b)),iv ((k:Int)-1)] []=some (.tup [iv 0,eN (Ah (Ad a / Ad b)),eN (Ah (Ad a % Ad b))],[]):=by
 intro k
 induction k with
 |zero=>
  intro _;refine K.lp' QE _ rfl (by kernel_rfl) ((Xd ..).trans ?_);rw[As2,As6];exact OS (by omega)
 |succ k ih=>
  intro hk;have ih:=ih (by omega);have hbit:=Ahr K ha (by unfold BD;omega) (i:=k) (by omega);obtain⟨c,hc⟩:∃ c,c=decide (Ad a / 2 ^ k % 2=1):=⟨_,rfl⟩;obtain⟨M,hM⟩:∃ M,M=Ad a / 2 ^ (k+1):=⟨_,rfl⟩;have hMN:Ad a / 2 ^ k=2*M+(if c=true then 1 else 0):=by
   rw[hM,ApU,←Arx,hc];generalize Ad a / 2 ^ k=N
   by_cases h:N % 2=1
   .rw[decide_eq_true h,if_pos rfl];omega
   .rw[decide_eq_false h,if_neg (by decide)];omega
  have hMa:M<=Ad a:=by rw[hM];exact Ar6 ..
  have hav:=Bm ha;have hbv:=Bm hb;rw[←hc]at hbit;rw[←hM];obtain⟨d1,d2⟩:=W7 (b:=Ad b) hMN (by split<;>omega) h0;have hm:=ApI M h0;have hq:=Ar6 M (Ad b);have lr:(Ah (M % Ad b)).length<=b.length:=A1 (by omega);have lq:(Ah (M / Ad b)).length<=a.length:=A1 (by omega);have hcs:(if c=true then 1 else 0)<=1:=by split<;>omega
  have lr2:(Ah (2*(M % Ad b)+(if c=true then 1 else 0))).length<=b.length+1:=A1 (by rw[ApU];omega);have t1:=RO Kn K (Al (M % Ad b)) (by omega) c;have t2:=λx=>RO Kn K (Al (M / Ad b)) (by omega) x
  have s1:=PF Kn (a:=Ah (2*(M % Ad b)+(if c=true then 1 else 0))) (b:=b) (by unfold BD;omega) (Al _) (by unfold BD;omega) hb;rw[Ax]at t1 s1;simp only[Ax]at t2;unfold J5 at s1;generalize hR:2*(M % Ad b)+(if c=true then 1 else 0)=R at *;have hsub:Ag.sub .i64 (k:Int) 1=(k:Int)-1:=C4 (by omega) (by omega);refine K.lp' QE _ rfl (by kernel_rfl) ((Xd ..).trans ?_);rw[show (((k+1:Nat):Int)-1)=(k:Int) by omega];refine BW (by omega) ?_;refine Aa hbit ?_;simp only[ND,DK,Ab];have t2t:D.ask (.fn 208) [eN (Ah (M / Ad b)),bv true] []=some (eN (Ah (2*(M / Ad b)+1)),[]):=t2 true;have t2f:D.ask (.fn 208) [eN (Ah (M / Ad b)),bv false] []=some (eN (Ah (2*(M / Ad b))),[]):=t2 false;clear t2
  cases c
  all_goals
   first
    |refine B8 ?_
    |refine Ae ?_
   refine Aa t1 ?_;simp only[eN,ND,DK,Ab];refine Aa s1 ?_
   by_cases h:Ad b<=R
   .rw[if_pos h,hsub]
    rw[(d1 h).1,(d1 h).2]at ih;simp only[eN,B3,BE,Bg,AY,AD,DK];refine Ae ?_;refine Aa t2t ?_;simp only[eN,ND,DK,Ab];refine Aa ih ?_;rfl
   .rw[if_neg h,hsub]
    rw[(d2 h).1,(d2 h).2]at ih;simp only[eN,B3,BE,Bg,AY,AD,DK];refine B8 ?_;refine Aa t2f ?_;simp only[eN,ND,DK,Ab];refine Aa ih ?_;rfl
theorem Uv{a b:List Nat}(ha:Limbs a)(hal:a.length<=999999980)(hb:Limbs b)(hbl:b.length<=999999980):D.ask (.fn 151) [eN a,eN b] []
  = some (if Ad b=0 then .tup [.ls [],.ls [],iv 10] else .tup [eN (Ah (Ad a / Ad b)),eN (Ah (Ad a % Ad b)),iv 0],[]):=by
 refine K.fn' QE _ rfl ((AmJ ..).trans ?_);refine Aa (Cu Kn (by unfold BD;omega) hb) ?_;simp only[eN,Aj,ND,DK,Ab]
 by_cases h0:Ad b=0
 .rw[if_pos h0,h0,Cb]
  exact Gp (by decide)
 .have hne:0<(Ah (Ad b)).length:=by
   rw[Da h0];exact Asn _
  rw[if_neg h0];refine AK (by omega) ?_;obtain⟨B,g,h1,h2⟩:=AaN Kn K ha (by unfold BD;omega);have hlp:=Aew Kn K ha hal hb hbl (by omega) B h2;rw[AqL h1,As3,Nat.zero_mod,Cb]at hlp;refine Aa g ?_;simp only[ND,DK,Ab];rw[show Ag.sub .i64 (B:Int) 1=(B:Int)-1 from C4 (by omega) (by omega)];refine Aa hlp ?_;simp only[eN,ND,DK,Ab];have hq:=Ar6 (Ad a) (Ad b);have hm:=ApI (Ad a) (show 0<Ad b by omega);have hav:=Bm ha;have hbv:=Bm hb;have lr:(Ah (Ad a % Ad b)).length<=b.length:=A1 (by omega);have lq:(Ah (Ad a / Ad b)).length<=a.length:=A1 (by omega);have gq:=Cu Kn (l:=Ah (Ad a / Ad b)) (by unfold BD;omega) (Al _);have gr:=Cu Kn (l:=Ah (Ad a % Ad b)) (by unfold BD;omega) (Al _);rw[Ax]at gq gr;refine Aa gq ?_;simp only[eN,ND,DK,Ab];refine Aa gr ?_;simp only[eN,ND,DK,Ab]
theorem AeA:∀(n a b:Nat),b<=n->(Ah a).length<=999999980->(Ah b).length<=999999980->D.ask (.lp 206 0) [eN (Ah a),eN (Ah b)] []=some (.tup [iv 0,eN (Ah (AqJ a b))],[]):=by
 intro n
 induction n with
 |zero=>
  intro a b hb _ _;obtain rfl:b=0:=by omega
  refine K.lp' N1 _ rfl (by kernel_rfl) ((Sq ..).trans ?_);rw[Cb,Ark];exact CA (by decide)
 |succ n ih=>
  intro a b hb hal hbl
  by_cases h0:b=0
  .subst h0
   refine K.lp' N1 _ rfl (by kernel_rfl) ((Sq ..).trans ?_);rw[Cb,Ark];exact CA (by decide)
  .have hne:0<(Ah b).length:=by
    rw[Da h0];exact Asn _
   have hm:=ApI a (show 0<b by omega);have lr:(Ah (a % b)).length<=(Ah b).length:=A1 (by
    have:=Bm (Al b);rw[Ax]at this;omega)
   have g:=Uv Kn K (Al a) hal (Al b) hbl;rw[Ax,Ax,if_neg h0]at g;refine K.lp' N1 _ rfl (by kernel_rfl) ((Sq ..).trans ?_);rw[Aj];refine Aq (by omega) ?_;refine Aa g ?_;simp only[eN,ND,DK,Ab];refine Aa (ih b (a % b) (by omega) hbl (by omega)) ?_;rw[ArZ b,←As7,ArZ];rfl
theorem Aeo{a b:List Nat}(ha:Limbs a)(hal:a.length<=999999980)(hb:Limbs b)(hbl:b.length<=999999980):D.ask (.fn 206) [eN a,eN b] []=some (eN (Ah (AqJ (Ad a) (Ad b))),[]):=by
 have la:(Ah (Ad a)).length<=999999980:=by rw[Cs a ha];have:=BZ a;omega
 have lb:(Ah (Ad b)).length<=999999980:=by rw[Cs b hb];have:=BZ b;omega
 refine K.fn' N1 _ rfl ((Am7 ..).trans ?_);refine Aa (Cu Kn (by unfold BD;omega) ha) ?_;simp only[eN,ND,DK,Ab];refine Aa (Cu Kn (by unfold BD;omega) hb) ?_;simp only[eN,ND,DK,Ab];refine Aa (AeA Kn K _ _ _ (φ _) la lb) ?_;simp only[eN,ND,DK,Ab]
end
section
open Go.RowKit
def Alw:MFn:=AS [] 71
def Akb:Hnt:=⟨[(56,(.agg [.bool,.ls],[])),(69,(.int .i64,[])),(122,(.agg [.bool,.ls],[])),(123,(.agg [.bool,.ls],[])),(124,(.agg [.bool,.ls],[])),(128,(.agg [.bool,.ls],[])),(151,(.tup [.ls,.ls,.int .i64],[]))],[],[(14,[.ls]),(16,[.ls]),(26,[.bool,.ls]),(28,[.bool,.ls]),(34,[.bool,.ls]),(35,[.bool,.ls]),(36,[.bool,.ls]),(39,[.bool,.ls]),(41,[.bool,.ls]),(45,[.bool,.ls]),(48,[.bool,.ls]),(49,[.bool,.ls]),(51,[.bool,.ls]),(52,[.bool,.ls])]⟩
def AgG:MFn:=AS [] 150
def AfW:Hnt:=⟨[(128,(.agg [.bool,.ls],[])),(206,(.ls,[]))],[],[(6,[.ls]),(8,[.ls])]⟩
def RE:List (Nat × MFn):=[(71,Alw),(150,AgG)]
variable (A:Ar) (D:Orc)
theorem e71(x0_0:Bool)(x0_1:Rw)(x1_0:Bool)(x1_1:Rw):BP A D As Akb .n 71 Alw [Ω [bv x0_0,Δ x0_1],Ω [bv x1_0,Δ x1_1]] [] =
 Af D (θ 151) [Δ x0_1,Δ x1_1] [] [.t,.L,.L,.I,.N,.E] λxs _ n=>
 br (A.eq n 0)
 (Af D (θ 69) [Ω [bv x0_0,Δ x0_1]] [] [.i,.E] λn1=>
 Af D (θ 69) [Ω [bv x1_0,Δ x1_1]] [] [.i,.E] λn2=>
 br (A.lt (A.mul Φ n1 n2) 0)
 (Af D (θ 128) [bv true,Δ xs] [] [.a,.B,.L,.N,.E] λb xs2=>
 Af D (θ 123) [Ω [bv b,Δ xs2],Ω [bv x1_0,Δ x1_1]] [] [.a,.B,.L,.N,.E] λb1 xs3=>
 Af D (θ 124) [Ω [bv x0_0,Δ x0_1],Ω [bv b1,Δ xs3]] [] [.a,.B,.L,.N,.E] λb2 xs4=>
 Af D (θ 69) [Ω [bv b2,Δ xs4]] [] [.i,.E] λn3=>
 Af D (θ 69) [Ω [bv x1_0,Δ x1_1]] [] [.i,.E] λn4=>
 br (A.lt (A.mul Φ n3 n4) 0)
 (Af D (θ 56) [iv 1] [] [.a,.B,.L,.N,.E] λb3 xs5=>
 Af D (θ 124) [Ω [bv b,Δ xs2],Ω [bv b3,Δ xs5]] [] [.a,.B,.L,.N,.E] λb4 xs6=>
 Af D (θ 122) [Ω [bv b2,Δ xs4],Ω [bv x1_0,Δ x1_1]] [] [.a,.B,.L,.N,.E] λb5 xs7=>
 some ((ν [Ω [bv b4,Δ xs6],Ω [bv b5,Δ xs7],iv 0],[])))
 (some ((ν [Ω [bv b,Δ xs2],Ω [bv b2,Δ xs4],iv 0],[]))))
 (Af D (θ 128) [bv false,Δ xs] [] [.a,.B,.L,.N,.E] λb xs2=>
 Af D (θ 123) [Ω [bv b,Δ xs2],Ω [bv x1_0,Δ x1_1]] [] [.a,.B,.L,.N,.E] λb1 xs3=>
 Af D (θ 124) [Ω [bv x0_0,Δ x0_1],Ω [bv b1,Δ xs3]] [] [.a,.B,.L,.N,.E] λb2 xs4=>
 Af D (θ 69) [Ω [bv b2,Δ xs4]] [] [.i,.E] λn3=>
 Af D (θ 69) [Ω [bv x1_0,Δ x1_1]] [] [.i,.E] λn4=>
 br (A.lt (A.mul Φ n3 n4) 0)
 (Af D (θ 56) [iv 1] [] [.a,.B,.L,.N,.E] λb3 xs5=>
 Af D (θ 124) [Ω [bv b,Δ xs2],Ω [bv b3,Δ xs5]] [] [.a,.B,.L,.N,.E] λb4 xs6=>
 Af D (θ 122) [Ω [bv b2,Δ xs4],Ω [bv x1_0,Δ x1_1]] [] [.a,.B,.L,.N,.E] λb5 xs7=>
 some ((ν [Ω [bv b4,Δ xs6],Ω [bv b5,Δ xs7],iv 0],[])))
 (some ((ν [Ω [bv b,Δ xs2],Ω [bv b2,Δ xs4],iv 0],[])))))
 (some ((ν [Ω [bv false,Δ []],Ω [bv false,Δ []],iv n],[]))):=by kernel_rfl
theorem AmI(x0_0:Bool)(x0_1:Rw)(x1_0:Bool)(x1_1:Rw):BP A D As AfW .n 150 AgG [Ω [bv x0_0,Δ x0_1],Ω [bv x1_0,Δ x1_1]] [] =
 Af D (θ 206) [Δ x0_1,Δ x1_1] [] [.l,.E] λxs=>
 Af D (θ 128) [bv false,Δ xs] [] [.a,.B,.L,.N,.E] λb xs1=>
 some ((Ω [bv b,Δ xs1],[])):=by kernel_rfl
end
theorem Ru(x y:Int):BF x*BF y<0 ↔ (x<0/\0<y)\/(0<x/\y<0):=by
 unfold BF
 by_cases h1:x<0
 .rw[if_pos h1]
  by_cases h2:y<0
  .rw[if_pos h2];omega
  .rw[if_neg h2]
   by_cases h3:0<y
   .rw[if_pos h3];omega
   .rw[if_neg h3];omega
 .rw[if_neg h1]
  by_cases h4:0<x
  .rw[if_pos h4]
   by_cases h2:y<0
   .rw[if_pos h2];omega
   .rw[if_neg h2]
    by_cases h3:0<y
    .rw[if_pos h3];omega
    .rw[if_neg h3];omega
  .rw[if_neg h4,Asj];omega
theorem Ta(x y:Int):Ag.mul .i64 (BF x) (BF y)=BF x*BF y:=by
 show IntKind.i64.wrap (BF x*BF y)=_
 have h:-1<=BF x*BF y/\BF x*BF y<=1:=by
  unfold BF;split<;>split<;>(try split)<;>(try split)<;>decide
 rw[IntKind.wrap_i64];omega
theorem AgZ(b:Bool):Cn b 0=0:=by unfold Cn;cases b<;>rfl
theorem AlN{x y:Int}(hy:y≠0):Cn (decide (BF x*BF y<0)) (uN x y)=Cn (dS x y) (uN x y):=by
 by_cases hx:x=0
 .rw[show uN x y=0 by unfold uN;rw[hx];exact As3 _,AgZ,AgZ]
 .congr 1
  unfold dS;have:=Ru x y
  by_cases h1:x<0
  .rw[decide_eq_true h1]
   by_cases h2:y<0
   .rw[decide_eq_true h2,decide_eq_false (by omega)];rfl
   .rw[decide_eq_false h2,decide_eq_true (by omega)];rfl
  .rw[decide_eq_false h1]
   by_cases h2:y<0
   .rw[decide_eq_true h2,decide_eq_true (by omega)];rfl
   .rw[decide_eq_false h2,decide_eq_false (by omega)];rfl
theorem AlP(x y:Int):x-Cn (dS x y) (uN x y)*y=Cn (decide (x<0)) (vN x y):=by
 have:=RN x y;omega
theorem Ajt{x y:Int}(hy:y≠0):BF (Cn (decide (x<0)) (vN x y))*BF y<0 ↔ dS x y=true/\0<vN x y:=by
 rw[Ru];unfold Cn dS;generalize vN x y=v
 by_cases h1:x<0
 .rw[decide_eq_true h1,if_pos rfl]
  by_cases h2:y<0
  .rw[decide_eq_true h2];simp;omega
  .rw[decide_eq_false h2];simp;omega
 .rw[decide_eq_false h1,if_neg (by simp)]
  by_cases h2:y<0
  .rw[decide_eq_true h2];simp;omega
  .rw[decide_eq_false h2];simp;omega
section
variable {D:Orc} (Kn:Knows As Hw D) (R:Knows As Nc D) (Km:Knows As Ow D) (G:Knows As RE D)
include Kn R Km G
theorem Zo{a b:Zi}(ha:Lz 300000000 a)(hb:Lz 300000000 b):D.ask (.fn 71) [.agg (eZ a),.agg (eZ b)] []
  = some (if zv b=0 then .tup [.agg [bv false,.ls []],.agg [bv false,.ls []],iv 10] else .tup [.agg (eZ (Az (qZ (zv a) (zv b)))),.agg (eZ (Az (rZ (zv a) (zv b)))),iv 0],[]):=by
 have hia:=ha.inb;have hib:=hb.inb;have gd:=Uv Kn Km ha.lim (by have:=ha.len;omega) hb.lim (by have:=hb.len;omega);have gsa:=CS Kn R (ha.mono (show 300000000<=1000000000 by omega));have gsb:=CS Kn R (hb.mono (show 300000000<=1000000000 by omega));refine G.fn' Akb _ rfl ((e71 ..).trans ?_);refine Aa gd ?_;rw[←Eu,←Eu,show (zv a).natAbs / (zv b).natAbs=uN (zv a) (zv b) from rfl]
 by_cases h0:zv b=0
 .rw[if_pos h0,if_pos (by rw[h0];rfl)]
  simp only[ND,DK,Ab];exact FI (by decide)
 .rw[if_neg h0,if_neg (by omega)]
  simp only[eN,ND,DK,Ab];refine Bi (by decide) ?_;refine Aa gsa ?_;simp only[ND,DK,Ab];refine Aa gsb ?_;simp only[ND,DK,Ab];have hu:=TS hia (zv b);have hv:=Kj hib h0 (zv a);have fu:=λs=>CR Kn R s (Al (uN (zv a) (zv b))) (by unfold BD;have:=(hu true).lz.len;rw[Jg]at this;dsimp only at this;omega)
  simp only[Ax]at fu;have gm:=Ro Kn R (a:=Az (Cn (dS (zv a) (zv b)) (uN (zv a) (zv b)))) (b:=b) (k:=400000000) (m:=400000000) (φ _) (φ _) ((hu _).lz.mono (by omega)) (hb.mono (by omega));have gs:=M5 Kn R (k:=900000000) (φ _) (a:=a) (b:=Az (Cn (dS (zv a) (zv b)) (uN (zv a) (zv b))*zv b)) (ha.mono (by omega)) (((hu _).mul hib).lz.mono (by omega));rw[AU]at gm gs;rw[AlP]at gs;have gt:=CS Kn R (z:=Az (Cn (decide (zv a<0)) (vN (zv a) (zv b)))) ((hv _).lz.mono (by omega));rw[AU]at gt;have g1:=YU Kn R 1 (by decide) (by decide);have g2:=M5 Kn R (k:=900000000) (φ _) (a:=Az (Cn (dS (zv a) (zv b)) (uN (zv a) (zv b)))) (b:=Az 1) ((hu _).lz.mono (by omega)) ((InB.one (k:=1) (by omega)).lz.mono (by omega));have g3:=M4 Kn R (k:=900000000) (φ _) (a:=Az (Cn (decide (zv a<0)) (vN (zv a) (zv b)))) (b:=b) ((hv _).lz.mono (by omega)) (hb.mono (by omega));rw[AU,AU]at g2;rw[AU]at g3;have hc:=Ajt (x:=zv a) h0;have hq:=AlN (x:=zv a) h0;have rest:∀ s:Bool,Cn s (uN (zv a) (zv b))=Cn (dS (zv a) (zv b)) (uN (zv a) (zv b))->D.ask (.fn 128) [bv s,eN (Ah (uN (zv a) (zv b)))] []=some (.agg (eZ (Az (Cn (dS (zv a) (zv b)) (uN (zv a) (zv b))))),[]):=λs h=>by rw[fu s,h]
  rw[Ta];unfold qZ rZ
  by_cases hs:BF (zv a)*BF (zv b)<0
  .refine Aq hs ?_
   refine Aa (rest true (by rw[←hq,decide_eq_true hs])) ?_;simp only[eZ,eN,A9,Bg,BE,AY,AD,DK];refine Aa gm ?_;simp only[eZ,eN,A9,Bg,BE,AY,AD,DK];refine Aa gs ?_;simp only[eZ,eN,A9,Bg,BE,AY,AD,DK];refine Aa gt ?_;simp only[CG,AD,DK];refine Aa gsb ?_;simp only[CG,AD,DK];rw[Ta]
   by_cases hb2:dS (zv a) (zv b)=true/\0<vN (zv a) (zv b)
   .rw[if_pos hb2,if_pos hb2]
    refine Aq (hc.2 hb2) ?_;refine Aa g1 ?_;simp only[eZ,eN,A9,Bg,BE,AY,AD,DK];refine Aa g2 ?_;simp only[eZ,eN,A9,Bg,BE,AY,AD,DK];refine Aa g3 ?_;simp only[eZ,eN,A9,Bg,BE,AY,AD,DK];rw[hb2.1]
   .rw[if_neg hb2,if_neg hb2]
    exact CA (λh=>hb2 (hc.1 h))
  .refine Ak hs ?_
   refine Aa (rest false (by rw[←hq,decide_eq_false hs])) ?_;simp only[eZ,eN,A9,Bg,BE,AY,AD,DK];refine Aa gm ?_;simp only[eZ,eN,A9,Bg,BE,AY,AD,DK];refine Aa gs ?_;simp only[eZ,eN,A9,Bg,BE,AY,AD,DK];refine Aa gt ?_;simp only[CG,AD,DK];refine Aa gsb ?_;simp only[CG,AD,DK];rw[Ta]
   by_cases hb2:dS (zv a) (zv b)=true/\0<vN (zv a) (zv b)
   .rw[if_pos hb2,if_pos hb2]
    refine Aq (hc.2 hb2) ?_;refine Aa g1 ?_;simp only[eZ,eN,A9,Bg,BE,AY,AD,DK];refine Aa g2 ?_;simp only[eZ,eN,A9,Bg,BE,AY,AD,DK];refine Aa g3 ?_;simp only[eZ,eN,A9,Bg,BE,AY,AD,DK];rw[hb2.1]
   .rw[if_neg hb2,if_neg hb2]
    exact CA (λh=>hb2 (hc.1 h))
theorem Zp{a b:Zi}(ha:Lz 900000000 a)(hb:Lz 900000000 b):D.ask (.fn 150) [.agg (eZ a),.agg (eZ b)] []=some (.agg (eZ (Az (AqJ (zv a).natAbs (zv b).natAbs:Nat))),[]):=by
 have la:=ha.len;have lb:=hb.len;rw[Eu,Eu];have hlen:(Ah (AqJ (Ad a.abs) (Ad b.abs))).length<=900000000:=by
  rcases Aqh (Ad a.abs) with h|h
  .rw[h,Asu]
   exact Apx (A1 (Bm hb.lim)) lb
  .refine Apx (A1 (k:=a.abs.length) ?_) la
   have:=AsG (Ad b.abs) h;have:=Bm ha.lim;omega
 have g:=CR Kn R false (Al (AqJ (Ad a.abs) (Ad b.abs))) (by unfold BD;omega);rw[Ax,show Cn false (AqJ (Ad a.abs) (Ad b.abs))=((AqJ (Ad a.abs) (Ad b.abs):Nat):Int) from rfl]at g;refine G.fn' AfW _ rfl ((AmI ..).trans ?_);refine Aa (Aeo Kn Km ha.lim (by omega) hb.lim (by omega)) ?_;simp only[eN,ND,DK,Ab];refine Aa g ?_;simp only[eZ,eN,ND,DK,Ab]
end
structure DivF (D:Orc):Prop where
 div:∀ a b:List Nat,Limbs a->a.length<=999999990->Limbs b->b.length<=999999990->D.ask (.fn 144) [eN a,eN b] []
  = some (if Ad b=0 then .tup [.ls [],.ls [],iv 10] else .tup [eN (Ah (Ad a / Ad b)),eN (Ah (Ad a % Ad b)),iv 0],[])
section
variable {D:Orc} (K:Knows As Gb D) (Z:Knows As Hx D) (C:CloneF D) (G:Knows As KK D) (V:DivF D)
include G V
theorem AhM:∀(n a b:Nat),b<=n->(Ah a).length<=999999980->(Ah b).length<=999999980->D.ask (.lp 205 0) [eN (Ah a),eN (Ah b)] []=some (.tup [iv 0,eN (Ah (AqJ a b))],[]):=by
 intro n
 induction n with
 |zero=>
  intro a b hb _ _;obtain rfl:b=0:=by omega
  refine G.lp' N0 _ rfl (by kernel_rfl) ((Sp ..).trans ?_);rw[Cb,Ark];exact CA (by decide)
 |succ n ih=>
  intro a b hb hal hbl
  by_cases h0:b=0
  .subst h0
   refine G.lp' N0 _ rfl (by kernel_rfl) ((Sp ..).trans ?_);rw[Cb,Ark];exact CA (by decide)
  .have hne:0<(Ah b).length:=CX.2 (by omega)
   have hm:=ApI a (show 0<b by omega);have lr:(Ah (a % b)).length<=(Ah b).length:=A1 (by
    have:=Bm (Al b);rw[Ax]at this;omega)
   have g:=V.div _ _ (Al a) (by omega) (Al b) (by omega);rw[Ax,Ax,if_neg h0]at g;refine G.lp' N0 _ rfl (by kernel_rfl) ((Sp ..).trans ?_);rw[Aj];refine Aq (by omega) ?_;refine Aa g ?_;simp only[eN,ND,DK,Ab];refine Aa (ih b (a % b) (by omega) hbl (by omega)) ?_;rw[ArZ b,←As7,ArZ];rfl
include K C
theorem Ahb{a b:List Nat}(ha:Limbs a)(hal:a.length<=999999980)(hb:Limbs b)(hbl:b.length<=999999980):D.ask (.fn 205) [eN a,eN b] []=some (eN (Ah (AqJ (Ad a) (Ad b))),[]):=by
 have la:(Ah (Ad a)).length<=999999980:=by rw[Cs a ha];have:=BZ a;omega
 have lb:(Ah (Ad b)).length<=999999980:=by rw[Cs b hb];have:=BZ b;omega
 refine G.fn' N0 _ rfl ((Am6 ..).trans ?_);refine Aa (ES K C (by unfold BD;omega) ha) ?_;simp only[eN,ND,DK,Ab];refine Aa (ES K C (by unfold BD;omega) hb) ?_;simp only[eN,ND,DK,Ab];refine Aa (AhM G V _ _ _ (φ _) la lb) ?_;simp only[eN,ND,DK,Ab]
include Z
omit V in
theorem Afm{a b:Zi}(ha:Lz 900000000 a)(hb:Lz 900000000 b):D.ask (.fn 146) [.agg (eZ a),.agg (eZ b)] []=some (.agg (eZ (Az (zv a-zv b))),[]):=by
 have g:=P3 K Z C (φ _) ha (hb.inb.neg.lz);rw[AU,←ArK]at g;refine G.fn' AfU _ rfl ((AmE ..).trans ?_);refine Aa (UN K Z C (hb.mono (by omega))) ?_;simp only[eZ,eN,ND,DK,Ab];refine Aa g ?_;simp only[eZ,eN,ND,DK,Ab]
theorem UM{a b:Zi}(ha:Lz 800000000 a)(hb:Lz 800000000 b):D.ask (.fn 66) [.agg (eZ a),.agg (eZ b)] []
  = some (if zv b=0 then .tup [.agg [bv false,.ls []],.agg [bv false,.ls []],iv 10] else .tup [.agg (eZ (Az (qZ (zv a) (zv b)))),.agg (eZ (Az (rZ (zv a) (zv b)))),iv 0],[]):=by
 have hia:=ha.inb;have hib:=hb.inb;have la:=hia.lz;have lb:=hib.lz;have gd:=V.div _ _ la.lim (by have:=la.len;omega) lb.lim (by have:=lb.len;omega);rw[show (Az (zv a)).abs=Ah (zv a).natAbs from rfl,show (Az (zv b)).abs=Ah (zv b).natAbs from rfl,Ax,Ax]at gd;refine G.fn' Aj8 _ rfl ((e66 ..).trans ?_);refine Aa (LS K Z C (ha.mono (by omega))) ?_;simp only[eZ,eN,ND,DK,Ab];refine Aa (LS K Z C (hb.mono (by omega))) ?_;simp only[eZ,eN,ND,DK,Ab];rw[show (Az (zv a)).neg=decide (zv a<0) from rfl,show (Az (zv b)).neg=decide (zv b<0) from rfl];generalize zv a=x at *;generalize zv b=y at *;refine Aa gd ?_
 by_cases h0:y=0
 .rw[if_pos h0,if_pos (by rw[h0];rfl)]
  simp only[ND,DK,Ab];exact FI (by decide)
 .rw[if_neg h0,if_neg (by omega)]
  simp only[eN,ND,DK,Ab];refine Bi (by decide) ?_;have hu:=TS hia y;have hv:=Kj hib h0 x;have fu:=λs=>D4 K Z C s (Al (uN x y)) (by unfold BD;have:=(hu true).lz.len;rw[Jg]at this;dsimp only at this;omega)
  have fv:=λs=>D4 K Z C s (Al (vN x y)) (by unfold BD;have:=(hv true).lz.len;rw[Jg]at this;dsimp only at this;omega)
  simp only[Ax]at fu fv;rw[show x.natAbs / y.natAbs=uN x y from rfl,show x.natAbs % y.natAbs=vN x y from rfl,Aj];rw[show Ag.not (Ag.beq (decide (x<0)) (decide (y<0)))=dS x y from rfl];unfold qZ rZ;have hlv:=@CX (vN x y)
  cases hs:dS x y with
  |true=>
   refine Ae ?_;refine Aa (fu true) ?_;simp only[eZ,eN,A9,Bg,BE,AY,AD,DK];refine Aa (fv _) ?_;simp only[eZ,eN,A9,Bg,BE,AY,AD,DK];refine Ae ?_
   by_cases hv0:0<vN x y
   .refine Aq (by have:=hlv.2 hv0;omega) ?_
    rw[if_pos ⟨trivial,hv0⟩,if_pos ⟨trivial,hv0⟩];have g1:=Z1 K Z C 1 (by decide) (by decide);have g2:=Afm K Z C G (a:=Az (Cn true (uN x y))) (b:=Az 1) ((hu true).lz.mono (by omega)) ((InB.one (k:=1) (by omega)).lz.mono (by omega));have g3:=P3 K Z C (φ _) (a:=Az (Cn (decide (x<0)) (vN x y))) (b:=Az y) ((hv _).lz.mono (by omega)) (lb.mono (by omega));rw[AU,AU]at g2 g3;refine Aa g1 ?_;simp only[eZ,eN,A9,Bg,BE,AY,AD,DK];refine Aa g2 ?_;simp only[eZ,eN,A9,Bg,BE,AY,AD,DK];refine Aa g3 ?_;simp only[eZ,eN,A9,Bg,BE,AY,AD,DK]
   .refine Ak (by intro h;exact hv0 (hlv.1 (by omega))) ?_
    rw[if_neg (λh=>hv0 h.2),if_neg (λh=>hv0 h.2)]
  |false=>
   refine B8 ?_;refine Aa (fu false) ?_;simp only[eZ,eN,A9,Bg,BE,AY,AD,DK];refine Aa (fv _) ?_;simp only[eZ,eN,A9,Bg,BE,AY,AD,DK];refine B8 ?_;rw[if_neg (λh=>by cases h.1),if_neg (λh=>by cases h.1)]
theorem Wx{a b:Zi}(ha:Lz 800000000 a)(hb:Lz 800000000 b):D.ask (.fn 143) [.agg (eZ a),.agg (eZ b)] []
  = some (if zv b=0 then .tup [.agg [bv false,.ls []],iv 10] else if rZ (zv a) (zv b)=0 then .tup [.agg (eZ (Az (qZ (zv a) (zv b)))),iv 0] else .tup [.agg [bv false,.ls []],iv 1],[]):=by
 have hia:=ha.inb;have hib:=hb.inb;refine G.fn' AfS _ rfl ((AmC ..).trans ?_);refine Aa (UM K Z C G V ha hb) ?_;generalize zv a=x at *;generalize zv b=y at *
 by_cases h0:y=0
 .rw[if_pos h0,if_pos h0]
  simp only[ND,DK,Ab];exact FI (by decide)
 .rw[if_neg h0,if_neg h0]
  have hr:InB 800000001 (rZ x y):=by
   unfold rZ;split
   .exact(Kj hib h0 x _).add hib
   .exact(Kj hib h0 x _).mono (by omega)
  have gs:=Jf K Z C (z:=Az (rZ x y)) (hr.lz.mono (by omega));rw[AU]at gs;simp only[eZ,eN,ND,DK,Ab];refine Bi (by decide) ?_;refine Aa gs ?_;simp only[ND,DK,Ab]
  by_cases h1:rZ x y=0
  .rw[if_pos h1,h1]
   exact Gp (by decide)
  .rw[if_neg h1]
   refine(FI ?_).trans ?_
   .unfold BF
    split
    .omega
    .rw[if_pos (by omega)];omega
   .rfl
theorem Afk{a b:Zi}(ha:Lz 900000000 a)(hb:Lz 900000000 b):D.ask (.fn 147) [.agg (eZ a),.agg (eZ b)] []=some (.agg (eZ (Az (AqJ (zv a).natAbs (zv b).natAbs:Nat))),[]):=by
 have hia:=ha.inb;have la:=ha.len;have lb:=hb.len;rw[Eu,Eu];have hlen:(Ah (AqJ (Ad a.abs) (Ad b.abs))).length<=900000000:=by
  rcases Aqh (Ad a.abs) with h|h
  .rw[h,Asu]
   exact Apx (A1 (Bm hb.lim)) lb
  .refine Apx (A1 (k:=a.abs.length) ?_) la
   have:=AsG (Ad b.abs) h;have:=Bm ha.lim;omega
 have g:=D4 K Z C false (Al (AqJ (Ad a.abs) (Ad b.abs))) (by unfold BD;omega);rw[Ax,show Cn false (AqJ (Ad a.abs) (Ad b.abs))=((AqJ (Ad a.abs) (Ad b.abs):Nat):Int) from rfl]at g;refine G.fn' AfV _ rfl ((AmF ..).trans ?_);refine Aa (Ahb K C G V ha.lim (by omega) hb.lim (by omega)) ?_;simp only[eN,ND,DK,Ab];refine Aa g ?_;simp only[eZ,eN,ND,DK,Ab]
end
end
end Go.Proofs.YtpncilciembjdaaGreatDoor
