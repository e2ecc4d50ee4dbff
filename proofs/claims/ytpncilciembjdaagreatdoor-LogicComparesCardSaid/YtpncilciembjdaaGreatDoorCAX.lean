/- Functions of the program -/
import Derived.Test.YtpncilciembjdaaGreatDoorCAW
set_option linter.all false
open Bool renaming false->Φ,true->Δ,true_and->Avy
open Int renaming add_comm->Awt,add_zero->Axt,natAbs_natCast->AvV
open List renaming all_cons->Ava,append_assoc->AtK,cons_append->AuH,drop->AtD,drop_eq_getElem_cons->ε,drop_eq_nil_of_le->AtM,drop_zero->Aty,filter_congr->Aw2,filter_map->Axg,foldl_cons->Avr,getElem?_eq_getElem->ξ,getElem_mem->At1,length_append->κ,length_cons->γ,length_map->AtP,length_singleton->AtT,map_cons->At5,map_map->Awd,map_nil->AuY,map_reverse->Axc,mem_cons_of_mem->AtF,mem_cons_self->AtL,mem_map->Auw,mem_reverse->Av8,nil_append->AtZ,pairwise_map->Av0,reverse_cons->Av1,take->ο,take_append_drop->AuB,take_left'->AvM
open Nat renaming ble->AtG,ble_eq_true_of_le->Avp,le_refl->η,zero_add->AtQ,zero_le->At7
open Option renaming none->Ξ,some->Θ
namespace Go.Proofs.YtpncilciembjdaaGreatDoor
noncomputable section
open ABlk renaming mk->δ
open AV renaming agg->ψ,fn->AtR,ls->Ψ,ptr->AtA,sl->χ,tup->υ
open BO renaming set->AtH
open IntKind renaming i64->θ
open Key renaming fn->ω,lp->AtB
open Tryz renaming prog->ι
section
open Go.RowKit
def Ak0:MFn:=AC [] 170
def Akf:Hnt:=⟨[(62,(.agg Br,[]))],[],[(4,Br),(7,[.bool])]⟩
def Ap4:MFn:=AC [] 98
def Apq:Hnt:=⟨[(170,(.agg Fs,[]))],[],[(3,Fs)]⟩
def Ap3:MFn:=AC [] 95
def Apo:Hnt:=⟨[],[],[]⟩
def AkZ:MFn:=AC [] 166
def Ake:Hnt:=⟨[],[],[(4,[.int .i64]),(9,[.ls]),(13,[.ls]),(15,[.ls])]⟩
def AkC:MFn:=AC [] 107
def AjS:Hnt:=⟨[(95,(.agg BD,[])),(98,(.agg BD,[])),(165,(.ls,[])),(166,(.ls,[]))],[],[(4,[.int .i64]),(11,Fs),(18,[.int .i64]),(19,BD)]⟩
def Xn:MFn:=AC [⟨19,(mB 456),[(3,6)],[],[(1,((mB 8),([],[])))]⟩] 165
def Ty:Hnt:=⟨[(107,(.agg BD,[]))],[(0,[(1,([.sl 1 6],[.del,.row Δ]))])],[(10,BD),(11,BD),(13,BD)]⟩
def ApR:MFn:=AC [] 49
def Apd:Hnt:=⟨[(107,(.agg BD,[]))],[],[(3,BD)]⟩
def Ar2:MFn:=AC [] 92
def Ar3:MFn:=AC [] 94
def ApT:MFn:=AC [] 54
def TJ:Hnt:=⟨[(27,(.agg Fs,[])),(28,(.agg Fs,[])),(49,(.agg BD,[])),(54,(.agg BD,[])),(95,(.agg BD,[])),(98,(.agg BD,[])),(125,(.agg Br,[])),(126,(.agg AK,[])),(127,(.agg Br,[]))],[],[(13,Br),(14,Br),(20,Br),(21,Br),(26,Br),(27,Br),(29,Br),(35,Br),(36,Br),(42,Br),(43,Br),(47,Br),(48,Br)]⟩
def UD:List (Nat × MFn):=[(170,Ak0),(98,Ap4),(95,Ap3),(166,AkZ),(107,AkC),(165,Xn),(49,ApR),(92,Ar2),(94,Ar3),(54,ApT)]
variable (A:Ar) (D:Orc)
theorem Arl(x0_0:Rw)(x0_1:Bool)(x0_2:Rw)(x0_3:Bool):BZ A D As Akf .n 170 Ak0 [ψ [Ψ x0_0,bv x0_1,Ψ x0_2,bv x0_3]] [] =
 Ae D (ω 62) [ψ [Ψ x0_0,bv x0_1,Ψ x0_2]] [] [.a,.L,.B,.L,.N,.E] λxs b xs1=>
 Θ ((ψ [Ψ xs,bv b,Ψ xs1,bv x0_3],[])):=by kernel_rfl
theorem e98(x0_0:Rw)(x0_1:Bool)(x0_2:Rw)(x0_3:Bool):BZ A D As Apq .n 98 Ap4 [ψ [Ψ x0_0,bv x0_1,Ψ x0_2,bv x0_3]] [] =
 Ae D (ω 170) [ψ [Ψ x0_0,bv x0_1,Ψ x0_2,bv x0_3]] [] [.a,.L,.B,.L,.B,.N,.E] λxs b xs1 b1=>
 Θ ((ψ [iv 2,Ψ xs,bv b,Ψ xs1,bv b1,Ψ []],[])):=by kernel_rfl
theorem e95(x0:Bool):BZ A D As Apo .n 95 Ap3 [bv x0] [] =
 br x0
 (Θ ((ψ [iv 0,Ψ [],bv Φ,Ψ [],bv Φ,Ψ []],[])))
 (Θ ((ψ [iv 1,Ψ [],bv Φ,Ψ [],bv Φ,Ψ []],[]))):=by kernel_rfl
theorem Ark(x0_0:Int)(x0_1:Rw)(x0_2:Bool)(x0_3:Rw)(x0_4:Bool)(x0_5:Rw):BZ A D As Ake .n 166 AkZ [ψ [iv x0_0,Ψ x0_1,bv x0_2,Ψ x0_3,bv x0_4,Ψ x0_5]] [] =
 br (A.eq x0_0 4)
 (Θ ((Ψ x0_5,[])))
 (br (A.eq x0_0 5)
 (Θ ((Ψ x0_5,[])))
 (br (A.eq x0_0 3)
 (unI (A.min (↑(AI x0_5)) 1) λi=>
 br (Jf 0 i (AI x0_5)) (br (EO 6 x0_5) (Θ ((Ψ (HM (Iz x0_5 i) 0),[]))) Ξ) Ξ)
 (Θ ((Ψ [],[]))))):=by kernel_rfl
theorem AqU(x0_0:Int)(x0_1:Rw)(x0_2:Bool)(x0_3:Rw)(x0_4:Bool)(x0_5:Rw):BZ A D As AjS .n 107 AkC [ψ [iv x0_0,Ψ x0_1,bv x0_2,Ψ x0_3,bv x0_4,Ψ x0_5]] [] =
 br (A.eq x0_0 0)
 (Ae D (ω 95) [bv Δ] [] [.a,.I,.L,.B,.L,.B,.L,.N,.E] λn xs b xs1 b1 xs2=>
 Θ ((ψ [iv n,Ψ xs,bv b,Ψ xs1,bv b1,Ψ xs2],[])))
 (br (A.eq x0_0 2)
 (Ae D (ω 98) [ψ [Ψ x0_1,bv x0_2,Ψ x0_3,bv x0_4]] [] [.a,.I,.L,.B,.L,.B,.L,.N,.E] λn xs b xs1 b1 xs2=>
 Θ ((ψ [iv n,Ψ xs,bv b,Ψ xs1,bv b1,Ψ xs2],[])))
 (br (A.eq x0_0 3)
 (Ae D (ω 166) [ψ [iv x0_0,Ψ x0_1,bv x0_2,Ψ x0_3,bv x0_4,Ψ x0_5]] [] [.l,.E] λxs=>
 Ae D (ω 165) [Ψ xs] [] [.l,.E] λxs1=>
 Θ ((ψ [iv x0_0,Ψ [],bv Φ,Ψ [],bv Φ,Ψ xs1],[])))
 (br (A.eq x0_0 4)
 (Ae D (ω 166) [ψ [iv x0_0,Ψ x0_1,bv x0_2,Ψ x0_3,bv x0_4,Ψ x0_5]] [] [.l,.E] λxs=>
 Ae D (ω 165) [Ψ xs] [] [.l,.E] λxs1=>
 Θ ((ψ [iv x0_0,Ψ [],bv Φ,Ψ [],bv Φ,Ψ xs1],[])))
 (br (A.eq x0_0 5)
 (Ae D (ω 166) [ψ [iv x0_0,Ψ x0_1,bv x0_2,Ψ x0_3,bv x0_4,Ψ x0_5]] [] [.l,.E] λxs=>
 Ae D (ω 165) [Ψ xs] [] [.l,.E] λxs1=>
 Θ ((ψ [iv x0_0,Ψ [],bv Φ,Ψ [],bv Φ,Ψ xs1],[])))
 (Ae D (ω 95) [bv Φ] [] [.a,.I,.L,.B,.L,.B,.L,.N,.E] λn xs b xs1 b1 xs2=>
 Θ ((ψ [iv n,Ψ xs,bv b,Ψ xs1,bv b1,Ψ xs2],[]))))))):=by kernel_rfl
theorem Arj(x0:Rw):BZ A D As Ty .n 165 Xn [Ψ x0] [] =
 Ae D (AtB 165 0) [χ 0 0 0 6,Ψ x0,iv ↑(AI x0),iv 0] [δ [] Δ Δ] [.t,.C,.x,.X,.Y] λc l o=>
 br (Bn 1 c)
 (dk [.C,.q 1 6,.N,.D,.R,.X,.E] [.l l,.o o] λn cs1=>
 br ((0+n*6).ble cs1.length) (Θ ((Ψ (Bh n 6 (ο (n*6) cs1)),[]))) Ξ)
 (Ξ):=by kernel_rfl
theorem AaN(n3:Nat)(c3:List AV)(t6:Rw)(t7 t8:Int):Dy A D As Ty .n 165 0 (AU Xn 0).fst (AU Xn 0).snd [χ 0 0 n3 6,Ψ t6,iv t7,iv t8] [{ cells:=c3,st:=Δ,ex:=Δ }] =
 br (A.lt t8 t7)
 (unI t8 λi=>
 BC t6 i λcs=>
 dk [.I,.L,.B,.L,.B,.L,.N] [.l cs] λn xs b xs1 b1 xs2=>
 Ae D (ω 107) [ψ [iv n,Ψ xs,bv b,Ψ xs1,bv b1,Ψ xs2]] [] [.a,.I,.L,.B,.L,.B,.L,.N,.E] λn1 xs3 b2 xs4 b3 xs5=>
 br (Bf (n3+1) 96) (br ((0+n3*6).ble c3.length) (AG D (AtB 165 0) [χ 0 0 (n3+1) 6,Ψ t6,iv t7,iv (A.add θ t8 1)] [δ (AtD 0 (ο (0+n3*6) c3)++[iv n1,Ψ xs3,bv b2,Ψ xs4,bv b3,Ψ xs5]) Δ Δ] λr1 o1=>
 AE 1 [3] (AH.mk [(3,δ (AtD 0 (ο (0+n3*6) c3)++[iv n1,Ψ xs3,bv b2,Ψ xs4,bv b3,Ψ xs5]) Δ Δ),(2,δ [iv n1,Ψ xs3,bv b2,Ψ xs4,bv b3,Ψ xs5] Δ Δ),(1,bk [iv n,Ψ xs,bv b,Ψ xs1,bv b1,Ψ xs2])] 4 Ξ) [0] r1 o1) Ξ) Ξ)
 (Θ ((υ [iv 0,χ 1 0 n3 6],[BO.del,AtH (δ c3 Δ Δ)]))):=by kernel_rfl
theorem e49(x0_0:Int)(x0_1:Rw)(x0_2:Bool)(x0_3:Rw)(x0_4:Bool)(x0_5:Rw):BZ A D As Apd .n 49 ApR [ψ [iv x0_0,Ψ x0_1,bv x0_2,Ψ x0_3,bv x0_4,Ψ x0_5]] [] =
 Ae D (ω 107) [ψ [iv x0_0,Ψ x0_1,bv x0_2,Ψ x0_3,bv x0_4,Ψ x0_5]] [] [.a,.I,.L,.B,.L,.B,.L,.N,.E] λn xs b xs1 b1 xs2=>
 Θ ((ψ [iv 3,Ψ [],bv Φ,Ψ [],bv Φ,Ψ [[iv n,Ψ xs,bv b,Ψ xs1,bv b1,Ψ xs2]]],[])):=by kernel_rfl
theorem e54(x0:Int)(x1_0:Rw)(x1_1:Bool)(x1_2 x2_0:Rw)(x2_1:Bool)(x2_2:Rw):BZ A D As TJ .n 54 ApT [iv x0,ψ [Ψ x1_0,bv x1_1,Ψ x1_2],ψ [Ψ x2_0,bv x2_1,Ψ x2_2]] [] =
 Ae D (ω 126) [iv 1] [] [.a,.B,.L,.N,.E] λb xs=>
 Ae D (ω 125) [ψ [bv b,Ψ xs]] [] [.a,.L,.B,.L,.N,.E] λxs1 b1 xs2=>
 br (A.eq x0 0)
 (Ae D (ω 127) [ψ [Ψ x1_0,bv x1_1,Ψ x1_2],ψ [Ψ x2_0,bv x2_1,Ψ x2_2]] [] [.a,.L,.B,.L,.N,.E] λxs3 b2 xs4=>
 Ae D (ω 27) [ψ [Ψ xs3,bv b2,Ψ xs4]] [] [.a,.L,.B,.L,.B,.N,.E] λxs5 b3 xs6 b4=>
 Ae D (ω 98) [ψ [Ψ xs5,bv b3,Ψ xs6,bv b4]] [] [.a,.I,.L,.B,.L,.B,.L,.N,.E] λn xs7 b5 xs8 b6 xs9=>
 Θ ((ψ [iv n,Ψ xs7,bv b5,Ψ xs8,bv b6,Ψ xs9],[])))
 (br (A.eq x0 1)
 (Ae D (ω 54) [iv 0,ψ [Ψ x1_0,bv x1_1,Ψ x1_2],ψ [Ψ x2_0,bv x2_1,Ψ x2_2]] [] [.a,.I,.L,.B,.L,.B,.L,.N,.E] λn xs3 b2 xs4 b3 xs5=>
 Ae D (ω 49) [ψ [iv n,Ψ xs3,bv b2,Ψ xs4,bv b3,Ψ xs5]] [] [.a,.I,.L,.B,.L,.B,.L,.N,.E] λn1 xs6 b4 xs7 b5 xs8=>
 Θ ((ψ [iv n1,Ψ xs6,bv b4,Ψ xs7,bv b5,Ψ xs8],[])))
 (br (A.eq x0 2)
 (Ae D (ω 127) [ψ [Ψ x2_0,bv x2_1,Ψ x2_2],ψ [Ψ x1_0,bv x1_1,Ψ x1_2]] [] [.a,.L,.B,.L,.N,.E] λxs3 b2 xs4=>
 Ae D (ω 127) [ψ [Ψ xs3,bv b2,Ψ xs4],ψ [Ψ xs1,bv b1,Ψ xs2]] [] [.a,.L,.B,.L,.N,.E] λxs5 b3 xs6=>
 Ae D (ω 28) [ψ [Ψ xs5,bv b3,Ψ xs6]] [] [.a,.L,.B,.L,.B,.N,.E] λxs7 b4 xs8 b5=>
 Ae D (ω 98) [ψ [Ψ xs7,bv b4,Ψ xs8,bv b5]] [] [.a,.I,.L,.B,.L,.B,.L,.N,.E] λn xs9 b6 xs10 b7 xs11=>
 Θ ((ψ [iv n,Ψ xs9,bv b6,Ψ xs10,bv b7,Ψ xs11],[])))
 (br (A.eq x0 3)
 (Ae D (ω 127) [ψ [Ψ x2_0,bv x2_1,Ψ x2_2],ψ [Ψ x1_0,bv x1_1,Ψ x1_2]] [] [.a,.L,.B,.L,.N,.E] λxs3 b2 xs4=>
 Ae D (ω 28) [ψ [Ψ xs3,bv b2,Ψ xs4]] [] [.a,.L,.B,.L,.B,.N,.E] λxs5 b3 xs6 b4=>
 Ae D (ω 98) [ψ [Ψ xs5,bv b3,Ψ xs6,bv b4]] [] [.a,.I,.L,.B,.L,.B,.L,.N,.E] λn xs7 b5 xs8 b6 xs9=>
 Θ ((ψ [iv n,Ψ xs7,bv b5,Ψ xs8,bv b6,Ψ xs9],[])))
 (br (A.eq x0 4)
 (Ae D (ω 54) [iv 2,ψ [Ψ x2_0,bv x2_1,Ψ x2_2],ψ [Ψ x1_0,bv x1_1,Ψ x1_2]] [] [.a,.I,.L,.B,.L,.B,.L,.N,.E] λn xs3 b2 xs4 b3 xs5=>
 Θ ((ψ [iv n,Ψ xs3,bv b2,Ψ xs4,bv b3,Ψ xs5],[])))
 (br (A.eq x0 5)
 (Ae D (ω 54) [iv 3,ψ [Ψ x2_0,bv x2_1,Ψ x2_2],ψ [Ψ x1_0,bv x1_1,Ψ x1_2]] [] [.a,.I,.L,.B,.L,.B,.L,.N,.E] λn xs3 b2 xs4 b3 xs5=>
 Θ ((ψ [iv n,Ψ xs3,bv b2,Ψ xs4,bv b3,Ψ xs5],[])))
 (Ae D (ω 95) [bv Φ] [] [.a,.I,.L,.B,.L,.B,.L,.N,.E] λn xs3 b2 xs4 b3 xs5=>
 Θ ((ψ [iv n,Ψ xs3,bv b2,Ψ xs4,bv b3,Ψ xs5],[])))))))):=by kernel_rfl
end
open Go.RowKit
theorem D8(k:Int)(t:Tm)(e:Bool)(ks:List Fm):Gl (.mk k t e ks)=if k=4\/k=5 then ks else if k=3 then ks.take 1 else []:=rfl
theorem Gm{k:Int}{t:Tm}{e:Bool}{ks:List Fm}{x:Fm}(hx:x∈Gl (.mk k t e ks)):x∈ks:=by
 rw[D8]at hx;split at hx
 .exact hx
 .split at hx
  .exact List.mem_of_mem_take hx
  .cases hx
theorem YX(k:Int)(t:Tm)(e:Bool)(ks:List Fm):(Gl (.mk k t e ks)).length<=ks.length:=by
 rw[D8];split
 .exact η _
 .split
  .simp;omega
  .simp
theorem Cf(x:Fm):(eF x).length=6:=by
 obtain⟨k,t,e,ks⟩:=x;rw[eF];rfl
inductive FB (n k:Nat):Fm->Prop
 |mk {kind:Int} {t:Tm} {e:Bool} {ks:List Fm} (ht:TmB n k t) (hl:ks.length<=1000000) (h:∀ x∈ks,FB n k x):FB n k (.mk kind t e ks)
inductive FC (n k:Nat):Fm->Prop
 |mk {kind:Int} {t:Tm} {e:Bool} {ks:List Fm} (ht:kind=2->TmB n k t) (hl:(Gl (.mk kind t e ks)).length<=1000000) (h:∀ x∈Gl (.mk kind t e ks),FC n k x):FC n k (.mk kind t e ks)
theorem LB.sub{n m k:Nat}{a b:Lf}(ha:LB n k a)(hb:LB m k b):LB (n+m) (2*k+2+2*(n+m)) (a.sub b):=by
 have h1:LB m (k+1+m) (b.scale (-1)):=hb.scale (by unfold InB;decide);exact(ha.add h1).mono (η _) (by omega)
theorem EI{k:Int}{t:Tm}{e:Bool}{ks:List Fm}{x:Fm}(h:x∈ks):SizeOf.sizeOf x<SizeOf.sizeOf (Fm.mk k t e ks):=by
 have:=List.sizeOf_lt_of_mem h;simp only[Fm.mk.sizeOf_spec];omega
theorem FB.fc{n k:Nat}:∀(N:Nat) (x:Fm),SizeOf.sizeOf x<N->FB n k x->FC n k x:=by
 intro N
 induction N with
 |zero=>intro x h;omega
 |succ N ih=>
  intro x hN hx;obtain⟨ht,hl,h⟩:=hx;rename_i kd t e ks;exact .mk (λ_=>ht) (Nat.le_trans (YX kd t e ks) hl) λy hy=>ih y (by have:=EI (k:=kd) (t:=t) (e:=e) (Gm hy);omega) (h y (Gm hy))
section
variable {D:Orc} (Kt:Knows As GD D) (Kf:Knows As MI D) (Ks:Knows As EQ D) (Z:ZF D) (C:PartF D) (Ko:Knows As UD D)
include Ko
theorem Dd(b:Bool):D.ask (.fn 95) [bv b] []=Θ (.agg (eF (K9 b)),[]):=by
 refine Aw Ko Apo (e95 ..) ?_
 cases b<;>rfl
include Kt Ks Z C in
theorem Lm{n k:Nat}{t:Tm}(h:TmB n k t)(hn:n<=1000000)(hk:k+n<=900000000)(e:Bool):D.ask (.fn 98) [.agg [.ls (t.ps.map eP),bv t.k.neg,eN t.k.abs,bv e]] []=Θ (.agg (eF (DY t.lf.pln e)),[]):=by
 have g:=Fo Kt Ks Z C h hn hk;obtain⟨ps,kz⟩:=t;have g2:D.ask (.fn 170) [.agg [.ls (ps.map eP),bv kz.neg,eN kz.abs,bv e]] []=Θ (.agg (eT (Tm.lf ⟨ps,kz⟩).pln.tm++[bv e]),[]):=by
  refine Aw Ko Akf (Arl ..) ?_;refine Aa g ?_;rfl
 refine Aw Ko Apq (e98 ..) ?_;refine Aa g2 ?_;rfl
theorem RK(x:Fm):D.ask (.fn 166) [.agg (eF x)] []=Θ (.ls ((Gl x).map eF),[]):=by
 obtain⟨k,t,e,ks⟩:=x;refine Aw Ko Ake (Ark ..) ?_;rw[BL];rw[D8]
 by_cases h4:k=4
 .rw[if_pos (.inl h4)]
  exact HD h4
 refine Aq ?_ h4
 by_cases h5:k=5
 .rw[if_pos (.inr h5)]
  exact HD h5
 refine Aq ?_ h5;rw[if_neg (by omega)]
 by_cases h3:k=3
 .rw[if_pos h3]
  refine AO ?_ h3;rw[Ao,Aqk,show min (ks.length:Int) 1=((min ks.length 1:Nat):Int) by omega,Au];rw[show Jf 0 (min ks.length 1) ks.length=Δ by unfold Jf;rw[Avp (At7 _),Avp (Nat.min_le_left ..)]];refine Ac ?_;rw[E8 Cf];refine Ac ?_;rw[K6,Kk,Aty,←List.map_take];have:ks.take (min ks.length 1)=ks.take 1:=by
   rw[List.take_eq_take_iff];omega
  rw[this]
 .rw[if_neg h3]
  exact Aq rfl h3
theorem YA(ks:List Fm)(hl:ks.length<=1000000)(g:∀ x∈ks,D.ask (.fn 107) [.agg (eF x)] []=Θ (.agg (eF (Ca x)),[])):∀(m i:Nat) (out:List Fm),ks.length-i=m->i<=ks.length->out.length<=i->
  D.ask (.lp 165 0) [.sl 0 0 out.length 6,.ls (ks.map eF),iv (ks.length:Int),iv (i:Int)] [δ (Ag eF out) Δ Δ]=Θ (.tup [iv 0,.sl 1 0 (out++(ks.drop i).map Ca).length 6],[.del,.set (δ (Ag eF (out++(ks.drop i).map Ca)) Δ Δ)]):=by
 intro m
 induction m with
 |zero=>
  intro i out hm hi ho;rw[AtM (by omega),AuY,List.append_nil];refine Ay Ko Ty (AaN ..) ?_;exact Ai rfl
 |succ m ih=>
  intro i out hm hi ho;have h1:i<ks.length:=by omega
  have gx:=g ks[i] (At1 h1);rw[ε h1,At5];have ih:=ih (i+1) (out++[Ca ks[i]]) (by omega) (by omega) (by simp;omega);rw[AtK,List.singleton_append,show (out++[Ca ks[i]]).length=out.length+1 by simp]at ih;have hf:Bf (out.length+1) 96=Δ:=AJ (by omega) (by omega);have hb1:AtG (0+out.length*6) (Ag eF out).length=Δ:=AL Cf out (by omega);have e3:AtD 0 (ο (0+out.length*6) (Ag eF out))++eF (Ca ks[i])=Ag eF (out++[Ca ks[i]]):=by
   rw[Aty,Bc Cf out (by omega)];exact Bg eF out _
  refine Ay Ko Ty (AaN ..) ?_;refine Al ?_;rw[Au,Ax (ξ h1)];revert gx ih e3;generalize Ca ks[i]=y;generalize ks[i]=x;obtain⟨xk,xt,xe,xs⟩:=x;obtain⟨yk,yt,ye,ys⟩:=y;intro gx ih e3;simp only[eF,eN,ND,DK,Ab]at gx e3 ⊢;refine Aa gx ?_;simp only[ND,DK,Ab];rw[hf];refine Ac ?_;rw[hb1];refine Ac ?_;rw[e3,BQ (by omega)];refine Aa ih ?_;rfl
theorem Lq{ks:List Fm}(hl:ks.length<=1000000)(g:∀ x∈ks,D.ask (.fn 107) [.agg (eF x)] []=Θ (.agg (eF (Ca x)),[])):D.ask (.fn 165) [.ls (ks.map eF)] []=Θ (.ls ((ks.map Ca).map eF),[]):=by
 have gl:=YA Ko ks hl g _ 0 [] rfl (by omega) (by simp);rw[Aty,AtZ]at gl;refine Aw Ko Ty (Arj ..) ?_;rw[Ao];refine Aa gl ?_;simp only[ND,DK,Ab];rw[show AtG (0+(ks.map Ca).length*6) (Ag eF (ks.map Ca)).length=Δ from AL Cf _ (by omega)];refine Ac ?_;rw[Bp Cf _ rfl]
include Kt Ks Z C in
theorem Yy{n k:Nat}(hn:n<=1000000)(hk:k+n<=900000000):∀(N:Nat) (x:Fm),SizeOf.sizeOf x<N->FC n k x->D.ask (.fn 107) [.agg (eF x)] []=Θ (.agg (eF (Ca x)),[]):=by
 intro N
 induction N with
 |zero=>intro x h;omega
 |succ N ih=>
  intro x hN hx;obtain⟨ht,hl,h⟩:=hx;rename_i kd t e ks;refine Aw Ko AjS (AqU ..) ?_;rw[Ca]
  by_cases h0:kd=0
  .rw[if_pos h0]
   refine AO ?_ h0;refine Aa (Dd Ko Δ) ?_;rfl
  rw[if_neg h0];refine Aq ?_ h0
  by_cases h2:kd=2
  .rw[if_pos h2]
   refine AO ?_ h2;refine Aa (Lm Kt Ks Z C Ko (ht h2) hn hk e) ?_;rfl
  rw[if_neg h2];refine Aq ?_ h2
  by_cases h3:kd=3
  .rw[if_pos h3,SZ]
   refine AO ?_ h3;have hk:=RK Ko (.mk kd t e ks);have gc:=Lq Ko hl λx hx=>ih x (by have:=EI (k:=kd) (t:=t) (e:=e) (Gm hx);omega) (h x hx)
   simp only[eF,eN,ND,DK,Ab]at hk ⊢;refine Aa hk ?_;simp only[ND,DK,Ab];refine Aa gc ?_;rw[D8];rw[if_neg (by omega),if_pos h3,h3];unfold kF;rw[eF,BL];rfl
  rw[if_neg h3];refine Aq ?_ h3
  by_cases h4:kd=4
  .rw[if_pos (.inl h4),HK]
   refine AO ?_ h4;have hk:=RK Ko (.mk kd t e ks);have gc:=Lq Ko hl λx hx=>ih x (by have:=EI (k:=kd) (t:=t) (e:=e) (Gm hx);omega) (h x hx)
   simp only[eF,eN,ND,DK,Ab]at hk ⊢;refine Aa hk ?_;simp only[ND,DK,Ab];refine Aa gc ?_;rw[D8];rw[if_pos (.inl h4)];unfold kF;rw[eF,BL];rfl
  refine Aq ?_ h4
  by_cases h5:kd=5
  .rw[if_pos (.inr h5),HK]
   refine AO ?_ h5;have hk:=RK Ko (.mk kd t e ks);have gc:=Lq Ko hl λx hx=>ih x (by have:=EI (k:=kd) (t:=t) (e:=e) (Gm hx);omega) (h x hx)
   simp only[eF,eN,ND,DK,Ab]at hk ⊢;refine Aa hk ?_;simp only[ND,DK,Ab];refine Aa gc ?_;rw[D8];rw[if_pos (.inr h5)];unfold kF;rw[eF,BL];rfl
  rw[if_neg (by omega)];refine Aq ?_ h5;refine Aa (Dd Ko Φ) ?_;rfl
include Kt Ks Z C in
theorem Aaz{n k:Nat}(hn:n<=1000000)(hk:k+n<=900000000)(N:Nat)(x:Fm)(hN:SizeOf.sizeOf x<N)(h:FB n k x):D.ask (.fn 107) [.agg (eF x)] []=Θ (.agg (eF (Ca x)),[]):=Yy Kt Ks Z C Ko hn hk N x hN (FB.fc N x hN h)
include Kt Ks Z C in
theorem Aew{n k:Nat}(hn:n<=1000000)(hk:k+n<=900000000){x:Fm}(h:FB n k x):D.ask (.fn 49) [.agg (eF x)] []=Θ (.agg (eF (kF 3 [Ca x])),[]):=by
 have g:=Aaz Kt Ks Z C Ko hn hk _ x (Nat.lt_succ_self _) h;obtain⟨xk,xt,xe,xs⟩:=x;refine Aw Ko Apd (e49 ..) ?_;generalize Ca (.mk xk xt xe xs)=y at g ⊢;obtain⟨yk,yt,ye,ys⟩:=y;simp only[eF,eN]at g;refine Aa g ?_;unfold kF;rw[eF,eFs,eFs,eF];rfl
omit Ko in
theorem SN{n k:Nat}{l:Lf}(h:LB n k l)(e:Bool):FB n k (DY l e):=.mk h.tb (by simp) (by simp)
omit Ko in
theorem XJ:LB 0 1 (Lf.num 1):=⟨by simp[Lf.num],by simp[Lf.num],by unfold InB Lf.num;decide⟩
include Kt Kf Ks Z C
theorem Aeq{l r:Tm}(hl:TmB 64 5000 l)(hr:TmB 64 5000 r)(op:Int):D.ask (.fn 54) [iv op,.agg (eT l),.agg (eT r)] []=Θ (.agg (eF (Rq op l.lf r.lf)),[]):=by
 have g1:=Z.of_ 1 (by omega) (by omega);have g2:=QC Kt Kf Z (z:=AD 1) ((InB.lz (k:=1) (by unfold InB;decide)).mono (by omega));rw[Bm]at g2;have s1:∀{a b:Tm},TmB 64 5000 a->TmB 64 5000 b->D.ask (.fn 127) [.agg (eT a),.agg (eT b)] []=Θ (.agg (eT (a.lf.sub b.lf).tm),[]):=λha hb=>Wr Kt Kf Ks Z C ha hb (by omega) (by omega)
 have b1:∀{a b:Tm},TmB 64 5000 a->TmB 64 5000 b->LB 128 11000 (a.lf.sub b.lf):=λha hb=>(ha.lb.sub hb.lb).mono (by omega) (by omega)
 have z1:∀{a b:Tm},TmB 64 5000 a->TmB 64 5000 b->∀ e:Bool,D.ask (.fn 98) [.agg [.ls ((a.lf.sub b.lf).tm.ps.map eP),bv (a.lf.sub b.lf).tm.k.neg,eN (a.lf.sub b.lf).tm.k.abs,bv e]] []=Θ (.agg (eF (DY (a.lf.sub b.lf) e)),[]):=λha hb e=>by
  have:=Lm Kt Ks Z C Ko (b1 ha hb).tb (by omega) (by omega) e
  rwa [DC,Ha]at this
 have q0:∀{l r:Tm},TmB 64 5000 l->TmB 64 5000 r->D.ask (.fn 54) [iv 0,.agg (eT l),.agg (eT r)] []=Θ (.agg (eF (DY (l.lf.sub r.lf) Δ)),[]):=λ{l r} hl hr=>by
  have gs:=s1 hl hr;have gz:=Ajz Kt Kf Ks Z C (b1 hl hr).tb (by omega) (by omega);rw[DC,Ha]at gz;have go:=z1 hl hr Δ;obtain⟨lp,lk⟩:=l;obtain⟨rp,rk⟩:=r;refine Aw Ko TJ (e54 ..) ?_;refine Aa g1 ?_;simp only[eZ,eN,ND,DK,Ab];refine Aa g2 ?_;simp only[eT,eN,ND,DK,Ab];refine AO ?_ rfl;refine Aa gs ?_;simp only[eT,eN,ND,DK,Ab,AuH,AtZ]at gz ⊢;refine Aa gz ?_;simp only[ND,DK,Ab];refine Aa go ?_;rfl
 have q3:∀{l r:Tm},TmB 64 5000 l->TmB 64 5000 r->D.ask (.fn 54) [iv 3,.agg (eT l),.agg (eT r)] []=Θ (.agg (eF (DY (r.lf.sub l.lf) Φ)),[]):=λ{l r} hl hr=>by
  have gs:=s1 hr hl;have gz:=OI Kt Kf Ks Z C (b1 hr hl).tb (by omega) (by omega);rw[DC,Ha]at gz;have go:=z1 hr hl Φ;obtain⟨lp,lk⟩:=l;obtain⟨rp,rk⟩:=r;refine Aw Ko TJ (e54 ..) ?_;refine Aa g1 ?_;simp only[eZ,eN,ND,DK,Ab];refine Aa g2 ?_;simp only[eT,eN,ND,DK,Ab];refine Aq ?_ (by decide);refine Aq ?_ (by decide);refine Aq ?_ (by decide);refine AO ?_ rfl;refine Aa gs ?_;simp only[eT,eN,ND,DK,Ab,AuH,AtZ]at gz ⊢;refine Aa gz ?_;simp only[ND,DK,Ab];refine Aa go ?_;rfl
 have q2:∀{l r:Tm},TmB 64 5000 l->TmB 64 5000 r->D.ask (.fn 54) [iv 2,.agg (eT l),.agg (eT r)] []=Θ (.agg (eF (DY ((r.lf.sub l.lf).sub (.num 1)) Φ)),[]):=λ{l r} hl hr=>by
  have gs:=s1 hr hl;have n1:=(XJ.mono (η 0) (show 1<=11000 by omega)).tb;have gs2:=Wr Kt Kf Ks Z C (b1 hr hl).tb n1 (by omega) (by omega);have b2:LB 128 30000 ((r.lf.sub l.lf).sub (.num 1)):=((b1 hr hl).sub (XJ.mono (η 0) (show 1<=11000 by omega))).mono (by omega) (by omega);rw[DC,DC]at gs2;have gz:=OI Kt Kf Ks Z C b2.tb (by omega) (by omega);rw[DC,Ha]at gz;have go:=Lm Kt Ks Z C Ko b2.tb (by omega) (by omega) Φ;rw[DC,Ha]at go;obtain⟨lp,lk⟩:=l;obtain⟨rp,rk⟩:=r;refine Aw Ko TJ (e54 ..) ?_;refine Aa g1 ?_;simp only[eZ,eN,ND,DK,Ab];refine Aa g2 ?_;simp only[eT,eN,ND,DK,Ab];refine Aq ?_ (by decide);refine Aq ?_ (by decide);refine AO ?_ rfl;refine Aa gs ?_;simp only[eT,eN,ND,DK,Ab,AuH,AtZ]at gz gs2 ⊢;refine Aa gs2 ?_;simp only[ND,DK,Ab];refine Aa gz ?_;simp only[ND,DK,Ab];refine Aa go ?_;rfl
 unfold Rq
 by_cases h0:op=0
 .rw[if_pos h0,h0]
  exact q0 hl hr
 rw[if_neg h0]
 by_cases h1:op=1
 .rw[if_pos h1,h1]
  have g:=q0 hl hr;have gd:=Aew Kt Ks Z C Ko (n:=128) (k:=11000) (by omega) (by omega) (SN (b1 hl hr) Δ);rw[(CanF.atom _ _ (Ha _ _)).clone]at gd;obtain⟨lp,lk⟩:=l;obtain⟨rp,rk⟩:=r;refine Aw Ko TJ (e54 ..) ?_;refine Aa g1 ?_;simp only[eZ,eN,ND,DK,Ab];refine Aa g2 ?_;simp only[eT,eN,ND,DK,Ab];refine Aq ?_ (by decide);refine AO ?_ rfl;refine Aa g ?_;unfold DY at gd ⊢;simp only[eF,eN,ND,DK,Ab]at gd ⊢;refine Aa gd ?_;unfold kF;rw[eF,eFs,eFs,eF];rfl
 rw[if_neg h1]
 by_cases h2:op=2
 .rw[if_pos h2,h2]
  exact q2 hl hr
 rw[if_neg h2]
 by_cases h3:op=3
 .rw[if_pos h3,h3]
  exact q3 hl hr
 rw[if_neg h3]
 by_cases h4:op=4
 .rw[if_pos h4,h4]
  have g:=q2 hr hl;obtain⟨lp,lk⟩:=l;obtain⟨rp,rk⟩:=r;refine Aw Ko TJ (e54 ..) ?_;refine Aa g1 ?_;simp only[eZ,eN,ND,DK,Ab];refine Aa g2 ?_;simp only[eT,eN,ND,DK,Ab];refine Aq ?_ (by decide);refine Aq ?_ (by decide);refine Aq ?_ (by decide);refine Aq ?_ (by decide);refine AO ?_ rfl;refine Aa g ?_;rfl
 rw[if_neg h4]
 by_cases h5:op=5
 .rw[if_pos h5,h5]
  have g:=q3 hr hl;obtain⟨lp,lk⟩:=l;obtain⟨rp,rk⟩:=r;refine Aw Ko TJ (e54 ..) ?_;refine Aa g1 ?_;simp only[eZ,eN,ND,DK,Ab];refine Aa g2 ?_;simp only[eT,eN,ND,DK,Ab];refine Aq ?_ (by decide);refine Aq ?_ (by decide);refine Aq ?_ (by decide);refine Aq ?_ (by decide);refine Aq ?_ (by decide);refine AO ?_ rfl;refine Aa g ?_;rfl
 rw[if_neg h5];obtain⟨lp,lk⟩:=l;obtain⟨rp,rk⟩:=r;refine Aw Ko TJ (e54 ..) ?_;refine Aa g1 ?_;simp only[eZ,eN,ND,DK,Ab];refine Aa g2 ?_;simp only[eT,eN,ND,DK,Ab];refine Aq ?_ h0;refine Aq ?_ h1;refine Aq ?_ h2;refine Aq ?_ h3;refine Aq ?_ h4;refine Aq ?_ h5;refine Aa (Dd Ko Φ) ?_;rfl
end
section
open Go.RowKit
def ArZ:MFn:=AC [⟨36,(mB 118),[],[2,4,5],[(1,((mB 48),([],[2])))]⟩] 77
def Ar1:MFn:=AC [⟨27,(mB 118),[],[2,4,5],[(1,((mB 48),([],[2])))]⟩] 87
def ArX:MFn:=AC [] 31
def Ae8:MFn:=AC [⟨26,(mB 133),[],[],[(0,((mB 64),([],[]))),(1,([],([],[])))]⟩] 29
def AbJ:Hnt:=⟨[],[(0,[(0,([.bool],[])),(1,([],[]))])],[(20,AK),(22,[.ls])]⟩
def ArY:MFn:=AC [⟨65,(mB 38),[],[2],[(0,((mB 16),([],[2]))),(2,([],([],[2])))]⟩,⟨65,(mB 70),[],[2],[(0,((mB 16),([],[2]))),(4,([],([],[2])))]⟩] 37
def UG:List (Nat × MFn):=[(77,ArZ),(87,Ar1),(31,ArX),(29,Ae8),(37,ArY)]
variable (A:Ar) (D:Orc)
theorem e29(x0:Rw)(x1 x2:Int):BZ A D As AbJ .n 29 Ae8 [Ψ x0,iv x1,iv x2] [] =
 br (A.lt x1 ↑(AI x0))
 (Θ ((bv Φ,[])))
 (Ae D (AtB 29 0) [Ψ x0,iv x2,iv 0] [] [.t,.C,.x,.X,.Y] λc l o=>
 br (Bn 0 c)
 (dk [.B,.N,.E] [.l l,.o o] λb=>
 Θ ((bv b,[])))
 (br (Bn 1 c)
 (Fv l<|
 DE o<|
 Θ ((bv Δ,[])))
 (Ξ))):=by kernel_rfl
theorem AjG(t0:Rw)(t2 t7:Int):Dy A D As AbJ .n 29 0 (AU Ae8 0).fst (AU Ae8 0).snd [Ψ t0,iv t2,iv t7] [] =
 br (A.lt t7 ↑(AI t0))
 (unI t7 λi=>
 BC t0 i λcs=>
 dk [.B,.L,.N] [.l cs] λ_ xs=>
 br (A.lt t2 ↑(AI xs))
 (Θ ((υ [bv Δ,bv Φ],[])))
 (AG D (AtB 29 0) [Ψ t0,iv t2,iv (A.add θ t7 1)] [] λr o=>
 AE 0 [] (AH.mk [] 0 Ξ) [] r o))
 (Θ ((υ [iv 0],[]))):=by kernel_rfl
end
theorem Ade(n:Int):Ck n=0 ↔ n=0:=by
 unfold Ck
 repeat' split
 all_goals omega
theorem XY(n:Int):0<Ck n ↔ 0<n:=by
 unfold Ck
 repeat' split
 all_goals omega
section
variable {D:Orc} (Kh:Knows As UG D) (F:RF D)
include Kh F
omit Kh F in
theorem Y0{n k j:Nat}{l:Lf}(hl:LB n k l){vals:List Int}(hv:∀ x∈vals,InB j x):InB (k+n+j+vals.length+1) (l.val (CT vals)):=by
 rw[AdN,Awt];exact InB.add (Uz hl hv _) (hl.k.mono (by omega))
end
section
variable {D:Orc} (Kh:Knows As UG D)
include Kh
theorem AeF(vals:List Zi)(m:Int)(hl:vals.length<=1000000):∀(k i:Nat),vals.length-i=k->i<=vals.length->
  D.ask (.lp 29 0) [.ls (vals.map eZ),iv m,iv (i:Int)] []=Θ (if ∀ z∈vals.drop i,(z.abs.length:Int)<=m then .tup [iv 0] else .tup [bv Δ,bv Φ],[]):=by
 intro k
 induction k with
 |zero=>
  intro i hm hi;rw[AtM (by omega),if_pos (by simp)];refine Ay Kh AbJ (AjG ..) ?_;rw[Ao];exact Ai rfl
 |succ k ih=>
  intro i hm hi;have h1:i<vals.length:=by omega
  have ih:=ih (i+1) (by omega) (by omega);rw[ε h1];refine Ay Kh AbJ (AjG ..) ?_;rw[Ao];refine Al ?_;rw[Au,Ax (ξ h1)];simp only[eZ,eN,ND,DK,Ab];rw[Ao]
  by_cases hz:m<(vals[i].abs.length:Int)
  .refine Al ?_ hz
   rw[if_neg (λh=>by have:=h vals[i] (AtL ..);omega)]
  .refine Ai ?_ hz
   rw[BQ (by omega)];refine Aa ih ?_
   by_cases hr:∀ z∈vals.drop (i+1),(z.abs.length:Int)<=m
   .rw[if_pos hr,if_pos (λz hz2=>by
     rcases List.mem_cons.1 hz2 with rfl|hz2
     .omega
     .exact hr z hz2)]
    rfl
   .rw[if_neg hr,if_neg (λh=>hr λz hz=>h z (AtF _ hz))]
    rfl
theorem AeG(vals:List Zi)(n m:Nat)(hn:n<=1000000)(hl:vals.length<4611686018427387904):D.ask (.fn 29) [.ls (vals.map eZ),iv (n:Int),iv (m:Int)] []=Θ (bv (decide (vals.length<=n/\∀ z∈vals,z.abs.length<=m)),[]):=by
 refine Aw Kh AbJ (e29 ..) ?_;rw[Ao]
 by_cases h:n<vals.length
 .rw[decide_eq_false (λe=>by omega)]
  exact Rg (by omega)
 .have g:=AeF Kh vals m (by omega) _ 0 rfl (by omega)
  rw[Aty]at g;refine Ai ?_;refine Aa g ?_
  by_cases hr:∀ z∈vals,(z.abs.length:Int)<=(m:Int)
  .rw[if_pos hr,decide_eq_true ⟨by omega,λz hz=>by have:=hr z hz;omega⟩]
   rfl
  .rw[if_neg hr,decide_eq_false (λe=>hr λz hz=>by have:=e.2 z hz;omega)]
   rfl
end
section
open Go.RowKit
variable (A:Ar) (D:Orc)
end

section
open Go.RowKit
variable (A:Ar) (D:Orc)
end
structure RdF (D:Orc):Prop where
 div:∀ a b:Zi,Lz 300000000 a->Lz 300000000 b->D.ask (.fn 71) [.agg (eZ a),.agg (eZ b)] []
  = Θ (if zv b=0 then .tup [.agg [bv Φ,.ls []],.agg [bv Φ,.ls []],iv 10] else .tup [.agg (eZ (AD (qZ (zv a) (zv b)))),.agg (eZ (AD (rZ (zv a) (zv b)))),iv 0],[])
 gcd:∀ a b:Zi,Lz 900000000 a->Lz 900000000 b->D.ask (.fn 150) [.agg (eZ a),.agg (eZ b)] []=Θ (.agg (eZ (AD (Nat.gcd (zv a).natAbs (zv b).natAbs:Nat))),[])
def vc(ps:List (Int × Int))(v:Int):Int × Int:=(v,Kg ps v)
theorem Wz{n k:Nat}{t:Tm}(ht:TmB n k t)(v:Int):InB (k+n) (Kg t.lf.ps v):=by
 have h:=IK v t.lf.ps ht.lb.ps;have hl:=ht.lb.len;unfold Kg;split
 .exact h.mono (by omega)
 .exact InB.zero _
def CQ(t:Tm):Nat:=Rz 0 (Ba t.lf.ps)
def Uu(g:Int)(p:Int × Int):Pt:=AR (p.1,qZ p.2 g)
def FD(t:Tm):Tm:=if CQ t=0 then t.lf.pln.tm else ⟨(Ba t.lf.ps).map (Uu (CQ t)),AD (qZ (zv t.k) (CQ t))⟩
section
open Go.RowKit
def Afc:MFn:=AC [⟨40,(mB 28722),[],[4,5],[(1,((mB 48),([],[])))]⟩] 86
def AbN:Hnt:=⟨[(138,(.agg AK,[])),(139,(.agg AK,[])),(158,(.agg AK,[]))],[(0,[(1,([.ptr 0 0,.ptr 1 0],[.box AK,.box AK]))])],[(9,AK),(12,[.ls]),(16,Bw),(17,Bw),(19,[.int .i64]),(23,[.int .i64]),(28,AK),(30,AK),(33,[.int .i64]),(34,AK),(35,AK),(39,AK)]⟩
def ApO:MFn:=AC [] 30
def Apa:Hnt:=⟨[(64,(.int .i64,[])),(86,(.agg AK,[]))],[],[(7,Br),(15,[.bool])]⟩
def UE:List (Nat × MFn):=[(86,Afc),(30,ApO)]
variable (A:Ar) (D:Orc)
theorem e86(x0_0:Rw)(x0_1:Bool)(x0_2 x1:Rw):BZ A D As AbN .n 86 Afc [ψ [Ψ x0_0,bv x0_1,Ψ x0_2],Ψ x1] [] =
 Ae D (ω 138) [ψ [bv x0_1,Ψ x0_2]] [] [.a,.B,.L,.N,.E] λb xs=>
 Ae D (AtB 86 0) [Ψ x1,AtA 0 0,AtA 1 0,Ψ x0_0,iv ↑(AI x0_0),iv 0] [bk [bv Φ,Ψ []],bk [bv b,Ψ xs]] [.t,.C,.x,.X,.Y] λc l2 o1=>
 br (Bn 1 c)
 (dk [.P 0 0,.P 1 0,.N,.T,.B,.L,.N,.T,.B,.L,.N,.E] [.l l2,.o o1] λ_ _ b2 xs2=>
 Θ ((ψ [bv b2,Ψ xs2],[])))
 (Ξ):=by kernel_rfl
theorem AjJ(t1:Rw)(b4_0:Bool)(b4_1:Rw)(b5_0:Bool)(b5_1 t12:Rw)(t13 t14:Int):Dy A D As AbN .n 86 0 (AU Afc 0).fst (AU Afc 0).snd [Ψ t1,AtA 0 0,AtA 1 0,Ψ t12,iv t13,iv t14] [bk [bv b4_0,Ψ b4_1],bk [bv b5_0,Ψ b5_1]] =
 br (A.lt t14 t13)
 (unI t14 λi=>
 BC t12 i λcs=>
 dk [.I,.B,.L,.N] [.l cs] λn b xs=>
 br (A.le 0 n)
 (br (A.lt n ↑(AI t1))
 (unI n λi1=>
 BC t1 i1 λcs1=>
 dk [.B,.L,.N] [.l cs1] λb1 xs1=>
 Ae D (ω 158) [ψ [bv b,Ψ xs],ψ [bv b1,Ψ xs1]] [] [.a,.B,.L,.N,.E] λb2 xs2=>
 Ae D (ω 139) [ψ [bv b5_0,Ψ b5_1],ψ [bv b2,Ψ xs2]] [] [.a,.B,.L,.N,.E] λb3 xs3=>
 AG D (AtB 86 0) [Ψ t1,AtA 0 0,AtA 1 0,Ψ t12,iv t13,iv (A.add θ t14 1)] [bk [bv b4_0,Ψ b4_1],bk [bv b3,Ψ xs3]] λr2 o2=>
 AE 2 [0,1] (AH.mk [(1,bk [bv b3,Ψ xs3]),(0,bk [bv b4_0,Ψ b4_1]),(2,bk [iv n,bv b,Ψ xs])] 3 Ξ) [0,1] r2 o2)
 (AG D (AtB 86 0) [Ψ t1,AtA 0 0,AtA 1 0,Ψ t12,iv t13,iv (A.add θ t14 1)] [bk [bv b4_0,Ψ b4_1],bk [bv b5_0,Ψ b5_1]] λr o=>
 AE 2 [0,1] (AH.mk [(1,bk [bv b5_0,Ψ b5_1]),(0,bk [bv b4_0,Ψ b4_1]),(2,bk [iv n,bv b,Ψ xs])] 3 Ξ) [0,1] r o))
 (AG D (AtB 86 0) [Ψ t1,AtA 0 0,AtA 1 0,Ψ t12,iv t13,iv (A.add θ t14 1)] [bk [bv b4_0,Ψ b4_1],bk [bv b5_0,Ψ b5_1]] λr o=>
 AE 2 [0,1] (AH.mk [(1,bk [bv b5_0,Ψ b5_1]),(0,bk [bv b4_0,Ψ b4_1]),(2,bk [iv n,bv b,Ψ xs])] 3 Ξ) [0,1] r o))
 (Θ ((υ [iv 0,AtA 0 0,AtA 1 0],[AtH (bk [bv b4_0,Ψ b4_1]),AtH (bk [bv b5_0,Ψ b5_1])]))):=by kernel_rfl
theorem e30(x0_0:Rw)(x0_1:Bool)(x0_2:Rw)(x0_3:Bool)(x1:Rw):BZ A D As Apa .n 30 ApO [ψ [Ψ x0_0,bv x0_1,Ψ x0_2,bv x0_3],Ψ x1] [] =
 Ae D (ω 86) [ψ [Ψ x0_0,bv x0_1,Ψ x0_2],Ψ x1] [] [.a,.B,.L,.N,.E] λb xs=>
 Ae D (ω 64) [ψ [bv b,Ψ xs]] [] [.i,.E] λn=>
 br (A.eq n 0)
 (Θ ((bv Δ,[])))
 (br (A.not x0_3)
 (br (A.lt 0 n)
 (Θ ((bv Δ,[])))
 (Θ ((bv Φ,[]))))
 (Θ ((bv Φ,[])))):=by kernel_rfl
end
section
open Go.RowKit
def Ap1:MFn:=AC [] 79
def Apm:Hnt:=⟨[(28,(.agg Fs,[])),(68,(.agg Br,[])),(125,(.agg Br,[])),(126,(.agg AK,[])),(127,(.agg Br,[]))],[],[(3,Br)]⟩
def ApL:MFn:=AC [] 23
def Ao7:Hnt:=⟨[(68,(.agg Br,[])),(79,(.agg Fs,[]))],[],[(4,[.bool]),(7,Br),(11,Br),(15,Br)]⟩
def UF:List (Nat × MFn):=[(79,Ap1),(23,ApL)]
variable (A:Ar) (D:Orc)
theorem e79(x0_0:Rw)(x0_1:Bool)(x0_2:Rw):BZ A D As Apm .n 79 Ap1 [ψ [Ψ x0_0,bv x0_1,Ψ x0_2]] [] =
 Ae D (ω 68) [ψ [Ψ x0_0,bv x0_1,Ψ x0_2]] [] [.a,.L,.B,.L,.N,.E] λxs b xs1=>
 Ae D (ω 126) [iv 1] [] [.a,.B,.L,.N,.E] λb1 xs2=>
 Ae D (ω 125) [ψ [bv b1,Ψ xs2]] [] [.a,.L,.B,.L,.N,.E] λxs3 b2 xs4=>
 Ae D (ω 127) [ψ [Ψ xs,bv b,Ψ xs1],ψ [Ψ xs3,bv b2,Ψ xs4]] [] [.a,.L,.B,.L,.N,.E] λxs5 b3 xs6=>
 Ae D (ω 28) [ψ [Ψ xs5,bv b3,Ψ xs6]] [] [.a,.L,.B,.L,.B,.N,.E] λxs7 b4 xs8 b5=>
 Θ ((ψ [Ψ xs7,bv b4,Ψ xs8,bv b5],[])):=by kernel_rfl
theorem e23(x0_0:Rw)(x0_1:Bool)(x0_2:Rw)(x0_3:Bool):BZ A D As Ao7 .n 23 ApL [ψ [Ψ x0_0,bv x0_1,Ψ x0_2,bv x0_3]] [] =
 br (A.not x0_3)
 (Ae D (ω 79) [ψ [Ψ x0_0,bv x0_1,Ψ x0_2]] [] [.a,.L,.B,.L,.B,.N,.E] λxs b xs1 b1=>
 Θ ((Ψ [[Ψ xs,bv b,Ψ xs1,bv b1]],[])))
 (Ae D (ω 68) [ψ [Ψ x0_0,bv x0_1,Ψ x0_2]] [] [.a,.L,.B,.L,.N,.E] λxs b xs1=>
 Ae D (ω 79) [ψ [Ψ xs,bv b,Ψ xs1]] [] [.a,.L,.B,.L,.B,.N,.E] λxs2 b1 xs3 b2=>
 Ae D (ω 79) [ψ [Ψ x0_0,bv x0_1,Ψ x0_2]] [] [.a,.L,.B,.L,.B,.N,.E] λxs4 b3 xs5 b4=>
 Θ ((Ψ [[Ψ xs2,bv b1,Ψ xs3,bv b2],[Ψ xs4,bv b3,Ψ xs5,bv b4]],[]))):=by kernel_rfl
end
section
open Go.RowKit
def Y6:MFn:=AC [⟨64,(mB 133),[],[],[(0,((mB 64),([],[]))),(1,([],([],[])))]⟩,⟨64,(mB 389),[],[],[(0,((mB 64),([],[]))),(3,((mB 133),([],[])))]⟩] 16
def Tx:Hnt:=⟨[],[(0,[(0,([.bool],[])),(1,([],[]))]),(1,[(0,([.bool],[])),(3,([.ls,.int .i64,.int .i64],[]))])],[(21,Fs),(24,[.ls]),(30,Fs),(34,[.ls]),(42,Fs),(45,[.ls]),(52,Fs),(55,[.ls]),(57,Bw),(60,[.ls])]⟩
def X3:List (Nat × MFn):=[(16,Y6)]
variable (A:Ar) (D:Orc)
theorem e16(x0:Rw)(x1 x2:Int):BZ A D As Tx .n 16 Y6 [Ψ x0,iv x1,iv x2] [] =
 br (A.lt x1 ↑(AI x0))
 (Θ ((bv Φ,[])))
 (Ae D (AtB 16 0) [Ψ x0,iv x2,iv 0] [] [.t,.C,.x,.X,.Y] λc l o=>
 br (Bn 0 c)
 (dk [.B,.N,.E] [.l l,.o o] λb=>
 Θ ((bv b,[])))
 (br (Bn 1 c)
 (Fv l<|
 DE o<|
 Θ ((bv Δ,[])))
 (Ξ))):=by kernel_rfl
theorem AjE(t0:Rw)(t2 t7:Int):Dy A D As Tx .n 16 0 (AU Y6 0).fst (AU Y6 0).snd [Ψ t0,iv t2,iv t7] [] =
 br (A.lt t7 ↑(AI t0))
 (unI t7 λi=>
 BC t0 i λcs=>
 dk [.L,.B,.L,.B,.N] [.l cs] λxs _ _ _=>
 br (A.lt 20 ↑(AI xs))
 (Θ ((υ [bv Δ,bv Φ],[])))
 (unI t7 λi1=>
 BC t0 i1 λcs1=>
 dk [.L,.B,.L,.B,.N] [.l cs1] λ_ _ xs3 _=>
 br (A.lt t2 ↑(AI xs3))
 (Θ ((υ [bv Δ,bv Φ],[])))
 (Ae D (AtB 16 1) [Ψ t0,iv t2,iv t7,iv 0] [] [.t,.C,.x,.X,.Y] λc l8 o=>
 br (Bn 0 c)
 (dk [.B,.N,.E] [.l l8,.o o] λb4=>
 Θ ((υ [bv Δ,bv b4],[])))
 (br (Bn 3 c)
 (dk [.L,.I,.I,.N,.E] [.l l8,.o o] λxs4 n n1=>
 AG D (AtB 16 0) [Ψ xs4,iv n,iv (A.add θ n1 1)] [] λr1 o1=>
 AE 0 [] (AH.mk [] 0 Ξ) [] r1 o1)
 (Ξ)))))
 (Θ ((υ [iv 0],[]))):=by kernel_rfl
theorem AjF(t0:Rw)(t2 t7 t8:Int):Dy A D As Tx .n 16 1 (AU Y6 1).fst (AU Y6 1).snd [Ψ t0,iv t2,iv t7,iv t8] [] =
 unI t7 λi=>
 BC t0 i λcs=>
 dk [.L,.B,.L,.B,.N] [.l cs] λxs _ _ _=>
 br (A.lt t8 ↑(AI xs))
 (unI t7 λi1=>
 BC t0 i1 λcs1=>
 dk [.L,.B,.L,.B,.N] [.l cs1] λxs2 _ _ _=>
 unI t8 λi2=>
 BC xs2 i2 λcs2=>
 dk [.I,.B,.L,.N] [.l cs2] λ_ _ xs4=>
 br (A.lt t2 ↑(AI xs4))
 (Θ ((υ [bv Δ,bv Φ],[])))
 (AG D (AtB 16 1) [Ψ t0,iv t2,iv t7,iv (A.add θ t8 1)] [] λr o=>
 AE 0 [] (AH.mk [] 0 Ξ) [] r o))
 (Θ ((υ [iv 2,Ψ t0,iv t2,iv t7],[]))):=by kernel_rfl
end
section
open Go.RowKit
variable (A:Ar) (D:Orc)
end
section
open Go.RowKit
variable (A:Ar) (D:Orc)
end
def M9(r:Tm × Bool):List AV:=eT r.1++[bv r.2]
theorem GU(ps:List Pt)(kz:Zi)(e:Bool):M9 (⟨ps,kz⟩,e)=[.ls (ps.map eP),bv kz.neg,eN kz.abs,bv e]:=rfl
section
variable {D:Orc} (Kv:Knows As UE D) (Kt:Knows As GD D) (Z:ZF D)
include Kv Z
theorem ZT{n k j:Nat}(ps:List Pt)(hl:ps.length<=n)(hn:n<=1000000)(hz:∀ p∈ps,Lz k p.z)(vals:List Zi)(hv:∀ z∈vals,Lz j z)(hv24:∀ z∈vals,z.abs.length<24)(hvl:vals.length<=1000000)(hk:k+j+1+n<=400000000)(y0:Bool)(y1:List (List AV)):∀(m i:Nat) (acc:Int),ps.length-i=m->i<=ps.length->InB (k+j+1+i) acc->
  D.ask (.lp 86 0) [.ls (vals.map eZ),.ptr 0 0,.ptr 1 0,.ls (ps.map eP),iv (ps.length:Int),iv (i:Int)] [⟨[bv y0,.ls y1],Δ,Φ⟩,⟨eZ (AD acc),Δ,Φ⟩]
   = Θ (.tup [iv 0,.ptr 0 0,.ptr 1 0],[.set ⟨[bv y0,.ls y1],Δ,Φ⟩,.set ⟨eZ (AD (acc+Cz (CT (vals.map zv)) ((ps.drop i).map pv))),Δ,Φ⟩]):=by
 intro m
 induction m with
 |zero=>
  intro i acc hm hi ha;rw[AtM (by omega),AuY,Cz,Axt];refine Ay Kv AbN (AjJ ..) ?_;exact Ai rfl
 |succ m ih=>
  intro i acc hm hi ha;have h1:i<ps.length:=by omega
  have hn1:∀ kk,BC (ps.map eP) i kk=kk (eP ps[i]):=λkk=>Ax (ξ h1) kk
  have hzp:=hz ps[i] (At1 h1);rw[ε h1,At5,Cz];revert hn1 hzp;generalize ps[i]=p;intro hn1 hzp;have hp:∀ v:Int,(pv p).2*CT (vals.map zv) (pv p).1=v->acc+(v+Cz (CT (vals.map zv)) ((ps.drop (i+1)).map pv))=acc+v+Cz (CT (vals.map zv)) ((ps.drop (i+1)).map pv):=λv _=>by omega
  rw[hp _ rfl];have skip:CT (vals.map zv) (pv p).1=0->D.ask (.lp 86 0) [.ls (vals.map eZ),.ptr 0 0,.ptr 1 0,.ls (ps.map eP),iv (ps.length:Int),iv ((i+1:Nat):Int)] [⟨[bv y0,.ls y1],Δ,Φ⟩,⟨eZ (AD acc),Δ,Φ⟩]
   = Θ (.tup [iv 0,.ptr 0 0,.ptr 1 0],[.set ⟨[bv y0,.ls y1],Δ,Φ⟩,.set ⟨eZ (AD (acc+(pv p).2*CT (vals.map zv) (pv p).1+Cz (CT (vals.map zv)) ((ps.drop (i+1)).map pv))),Δ,Φ⟩]):=λh0=>by
   have g:=ih (i+1) acc (by omega) (by omega) (ha.mono (by omega));rw[h0,Int.mul_zero,Axt];exact g
  refine Ay Kv AbN (AjJ ..) ?_;refine Al ?_;rw[Au,hn1];simp only[eP,eN,ND,DK,Ab];rw[Ao,BQ (by omega)]
  by_cases h0:0<=p.v
  .refine BV ?_ h0
   by_cases h2:p.v<(vals.length:Int)
   .refine Al ?_ h2
    obtain⟨v,hvv⟩:=Int.eq_ofNat_of_zero_le h0;have h3:v<vals.length:=by omega
    have hn2:∀ kk,BC (vals.map eZ) v kk=kk (eZ vals[v]):=λkk=>Ax (ξ h3) kk
    have hx:=hv vals[v] (At1 h3);have hx24:=hv24 vals[v] (At1 h3);have ev:CT (vals.map zv) (pv p).1=zv vals[v]:=by
     show CT _ p.v=_
     rw[hvv,Pr,List.getD_eq_getElem?_getD,List.getElem?_map,ξ h3];rfl
    rw[ev];rw[hvv,Au,hn2];revert hn2 hx hx24;generalize vals[v]=x;intro _ hx hx24;have gm:=Z.mul p.z x (hzp.mono (by omega)) (hx.mono (by omega)) (.inr hx24);have hpr:InB (k+j) (zv p.z*zv x):=InB.mul hzp.inb hx.inb;have ga:=Z.add (AD acc) (AD (zv p.z*zv x)) (ha.lz.mono (by omega)) (hpr.lz.mono (by omega));rw[Bm,Bm]at ga;have g:=ih (i+1) (acc+zv p.z*zv x) (by omega) (by omega) (by
     show InB (k+j+1+i+1) _
     exact InB.add ha (hpr.mono (by omega)))
    obtain⟨xn,xa⟩:=x;simp only[eZ,eN,ND,DK,Ab]at gm ga g ⊢;refine Aa gm ?_;simp only[ND,DK,Ab];refine Aa ga ?_;simp only[ND,DK,Ab];refine Aa g ?_;rfl
   .refine Ai ?_ h2
    have g:=skip (Pq _ (by rw[AtP];show _<=p.v;omega));simp only[eZ,eN]at g ⊢;refine Aa g ?_;rfl
  .refine Cn ?_ h0
   have g:=skip (Ld _ _ (by show p.v<0;omega));simp only[eZ,eN]at g ⊢;refine Aa g ?_;rfl
include Kt in
theorem ZU{n k j:Nat}{t:Tm}(ht:TmB n k t)(hn:n<=1000000)(vals:List Zi)(hv:∀ z∈vals,Lz j z)(hv24:∀ z∈vals,z.abs.length<24)(hvl:vals.length<=1000000)(hk:k+j+1+n<=400000000):D.ask (.fn 86) [.agg (eT t),.ls (vals.map eZ)] []=Θ (.agg (eZ (AD (t.lf.val (CT (vals.map zv))))),[]):=by
 obtain⟨ps,kz⟩:=t;have gc:=Em Kt Z (ht.k.mono (show k<=1000000000 by omega));have hl:ps.length<=n:=ht.len;have g:=ZT Kv Z ps hl hn ht.ps vals hv hv24 hvl hk Φ [] _ 0 (zv kz) rfl (by omega) (ht.k.inb.mono (by omega));rw[Aty]at g;have el:zv kz+Cz (CT (vals.map zv)) (ps.map pv)=(Tm.mk ps kz).lf.val (CT (vals.map zv)):=by
  unfold Lf.val Tm.lf;exact Awt _ _
 rw[el]at g;refine Aw Kv AbN (e86 ..) ?_;refine Aa gc ?_;simp only[eZ,eN,ND,DK,Ab,Ao]at g ⊢;refine Aa g ?_;rfl
include Kt in
theorem Uh{n k j:Nat}{t:Tm}(ht:TmB n k t)(hn:n<=1000000)(e:Bool)(vals:List Zi)(hv:∀ z∈vals,Lz j z)(hv24:∀ z∈vals,z.abs.length<24)(hvl:vals.length<=1000000)(hk:k+n+j+1+vals.length<=400000000):D.ask (.fn 30) [.agg (M9 (t,e)),.ls (vals.map eZ)] []=Θ (bv (Fz (t.lf.val (CT (vals.map zv))) e),[]):=by
 have g:=ZU Kv Kt Z ht hn vals hv hv24 hvl (by omega);have hb:=Y0 ht.lb (vals:=vals.map zv) (λx hx=>by
  rw[Auw]at hx;obtain⟨z,hz,rfl⟩:=hx;exact(hv z hz).inb)
 rw[AtP]at hb;generalize t.lf.val (CT (vals.map zv))=x at g hb;have gs:=Z.sign (AD x) (hb.lz.mono (by omega));rw[Bm]at gs;obtain⟨ps,kz⟩:=t;refine Aw Kv Apa (e30 ..) ?_;refine Aa g ?_;simp only[eZ,eN,ND,DK,Ab]at gs ⊢;refine Aa gs ?_;simp only[ND,DK,Ab];unfold Fz
 by_cases h0:x=0
 .refine AO ?_ ((Ade x).2 h0)
  rw[decide_eq_true h0];rfl
 .refine(Jt λh=>h0 ((Ade x).1 h)).trans ?_
  rw[decide_eq_false h0]
  cases e with
  |true=>rfl
  |false=>
   refine Ac ?_
   by_cases h1:0<x
   .refine Al ?_ ((XY x).2 h1)
    rw[decide_eq_true h1];rfl
   .refine(DL λh=>h1 ((XY x).1 h)).trans ?_
    rw[decide_eq_false h1];rfl
end
section
variable {D:Orc} (Kw:Knows As X3 D)
include Kw
def Zb(L:Int)(ps:List Pt):Bool:=ps.all λp=>decide ((p.z.abs.length:Int)<=L)
def OT(L:Int)(r:Tm × Bool):Bool:=decide (r.1.ps.length<=20)&&(decide ((r.1.k.abs.length:Int)<=L)&&Zb L r.1.ps)
theorem AeE(rs:List (Tm × Bool))(L:Int)(i:Nat)(h1:i<rs.length)(hl:rs[i].1.ps.length<=20):∀(m k:Nat),rs[i].1.ps.length-k=m->k<=rs[i].1.ps.length->
  D.ask (.lp 16 1) [.ls (rs.map M9),iv L,iv (i:Int),iv (k:Int)] []=Θ (if Zb L (rs[i].1.ps.drop k)=Δ then .tup [iv 2,.ls (rs.map M9),iv L,iv (i:Int)] else .tup [bv Δ,bv Φ],[]):=by
 have hn1:∀ kk,BC (rs.map M9) i kk=kk (M9 rs[i]):=λkk=>Ax (ξ h1) kk
 revert hn1 hl;generalize rs[i]=r;intro hl hn1;obtain⟨⟨ps,kz⟩,e⟩:=r;simp only at hl ⊢;intro m
 induction m with
 |zero=>
  intro k hm hk;rw[AtM (by omega)];refine Ay Kw Tx (AjF ..) ?_;simp only[Au,hn1,GU,eN,ND,DK,Ab,Ao];exact Ai rfl
 |succ m ih=>
  intro k hm hk;have h2:k<ps.length:=by omega
  have ih:=ih (k+1) (by omega) (by omega);have hn2:∀ kk,BC (ps.map eP) k kk=kk (eP ps[k]):=λkk=>Ax (ξ h2) kk
  rw[ε h2];revert hn2;generalize ps[k]=p;intro hn2;unfold Zb at ih ⊢;rw[Ava];refine Ay Kw Tx (AjF ..) ?_;simp only[Au,hn1,hn2,GU,eP,eN,ND,DK,Ab,Ao];refine Al ?_
  by_cases hz:L<(p.z.abs.length:Int)
  .refine Al ?_ hz
   rw[decide_eq_false (by omega:¬ (p.z.abs.length:Int)<=L)];rfl
  .refine Ai ?_ hz
   rw[decide_eq_true (by omega:(p.z.abs.length:Int)<=L),Avy,BQ (by omega)];refine Aa ih ?_
   cases (ps.drop (k+1)).all λp=>decide ((p.z.abs.length:Int)<=L)<;>rfl
theorem AeD(rs:List (Tm × Bool))(L:Int)(hrl:rs.length<=1000000):∀(m i:Nat),rs.length-i=m->i<=rs.length->
  D.ask (.lp 16 0) [.ls (rs.map M9),iv L,iv (i:Int)] []=Θ (if(rs.drop i).all (OT L)=Δ then .tup [iv 0] else .tup [bv Δ,bv Φ],[]):=by
 intro m
 induction m with
 |zero=>
  intro i hm hi;rw[AtM (by omega)];refine Ay Kw Tx (AjE ..) ?_;rw[Ao];exact Ai rfl
 |succ m ih=>
  intro i hm hi;have h1:i<rs.length:=by omega
  have ih:=ih (i+1) (by omega) (by omega);have hn1:∀ kk,BC (rs.map M9) i kk=kk (M9 rs[i]):=λkk=>Ax (ξ h1) kk
  have g1:=AeE Kw rs L i h1;rw[ε h1,Ava];revert hn1 g1;generalize rs[i]=r;obtain⟨⟨ps,kz⟩,e⟩:=r;intro hn1 g1;simp only at g1;unfold OT;simp only;refine Ay Kw Tx (AjE ..) ?_;rw[Ao];refine Al ?_;simp only[Au,hn1,GU,eN,ND,DK,Ab,Ao]
  by_cases hp:ps.length<=20
  .refine Ai ?_
   rw[decide_eq_true hp,Avy]
   by_cases hk:(kz.abs.length:Int)<=L
   .refine Ai ?_
    rw[decide_eq_true hk,Avy];have g1:=g1 hp _ 0 rfl (At7 _);rw[Aty]at g1;refine Aa g1 ?_
    cases hr:Zb L ps with
    |true=>
     rw[if_pos rfl,Avy];simp only[ND,DK,Ab,AqO];rw[BQ (by omega)];refine Aa ih ?_;unfold OT
     cases (rs.drop (i+1)).all λr=>decide (r.1.ps.length<=20)&&(decide ((r.1.k.abs.length:Int)<=L)&&Zb L r.1.ps)<;>rfl
    |false=>rfl
   .refine Al ?_
    rw[decide_eq_false hk];rfl
  .refine Al ?_
   rw[decide_eq_false hp];rfl
theorem Al1(rs:List (Tm × Bool))(n:Nat)(L:Int)(hn:n<=1000000):D.ask (.fn 16) [.ls (rs.map M9),iv (n:Int),iv L] []=Θ (bv (decide (rs.length<=n)&&rs.all (OT L)),[]):=by
 refine Aw Kw Tx (e16 ..) ?_;rw[Ao]
 by_cases h:n<rs.length
 .rw[decide_eq_false (by omega:¬ rs.length<=n)]
  exact Rg (by omega)
 .have g:=AeD Kw rs L (by omega) _ 0 rfl (by omega)
  rw[Aty]at g;rw[decide_eq_true (by omega:rs.length<=n),Avy];refine Ai ?_;refine Aa g ?_
  cases rs.all (OT L)<;>rfl
end
structure LmT (t:Tm):Prop where
 ps:∀ p∈t.ps,Limbs p.z.abs
 k:Limbs t.k.abs
theorem LmT.tmb{t:Tm}{e:Bool}{L:Nat}(h:LmT t)(ho:OT (L:Int) (t,e)=Δ):TmB 20 L t:=by
 unfold OT Zb at ho;simp only[Bool.and_eq_true,decide_eq_true_eq,List.all_eq_true]at ho;exact⟨ho.1,λp hp=>⟨h.ps p hp,by have:=ho.2.2 p hp;omega⟩,⟨h.k,by have:=ho.2.1;omega⟩⟩
def Dq(l:Lf):Lf:=(l.scale (-1)).sub (Lf.num 1)
theorem Js{f:Int->Int}(hf:∀ v,v<0->f v=0)(l:Lf):(Dq l).val f=-(l.val f)-1:=by
 unfold Dq;rw[Lg hf,I4 hf,X8];omega
theorem Nh(k:Nat)(h:1<=k):LB 0 k (Lf.num 1):=⟨η _,by simp[Lf.num],InB.one h⟩
theorem IH{n k:Nat}{l:Lf}(h:LB n k l):LB n (2*(k+1+n)+2+2*n) (Dq l):=by
 have h1:LB n (k+1+n) (l.scale (-1)):=h.scale (by unfold InB;decide);exact(LB.sub h1 (Nh (k+1+n) (by omega)):LB (n+0) _ _)
def FG(l:Lf)(e:Bool):List (Tm × Bool):=if e then [((Dq (l.scale (-1))).tm,Φ),((Dq l).tm,Φ)] else [((Dq l).tm,Φ)]
section
variable {D:Orc} (Kt:Knows As GD D) (Kf:Knows As MI D) (Ks:Knows As EQ D) (Z:ZF D) (C:PartF D) (Kd:Knows As UF D)
include Kt Kf Ks Z C Kd
theorem SP{n k:Nat}{t:Tm}(ht:TmB n k t)(hn:n<=1000)(hk:k<=1000):D.ask (.fn 79) [.agg (eT t)] []=Θ (.agg (M9 ((Dq t.lf).tm,Φ)),[]):=by
 have g1:=RZ Kt Kf Ks Z C ht (by omega) (by omega);have hs:LB n (k+1+n) (t.lf.scale (-1)):=ht.lb.scale (by unfold InB;decide);have g2:=Z.of_ 1 (by omega) (by omega);have g3:=QC Kt Kf Z (z:=AD 1) ((InB.one (η 1)).lz.mono (by omega));rw[Bm]at g3;have g4:=Wr Kt Kf Ks Z C hs.tb (Nh (k+1+n) (by omega)).tb (by omega) (by omega);rw[DC,DC]at g4;have g5:=OI Kt Kf Ks Z C (IH ht.lb).tb (by omega) (by omega);rw[DC,show (Dq t.lf).pln=Dq t.lf from Ha _ _]at g5
 change D.ask _ [.agg (eT (t.lf.scale (-1)).tm),.agg (eT (Lf.num 1).tm)] []=Θ (.agg (eT (Dq t.lf).tm),[]) at g4
 revert g1 g4 g5;unfold M9;simp only;generalize (t.lf.scale (-1)).tm=a;generalize (Dq t.lf).tm=c;generalize (Lf.num 1).tm=b at g3 ⊢;generalize AD 1=z at g2 g3;intro g1 g5 g4;obtain⟨ps,kz⟩:=t;refine Aw Kd Apm (e79 ..) ?_;simp only[eT,eZ,eN,ND,DK,Ab]at g1 g2 g3 g4 g5 ⊢;refine Aa g1 ?_;simp only[ND,DK,Ab];refine Aa g2 ?_;simp only[ND,DK,Ab];refine Aa g3 ?_;simp only[ND,DK,Ab];refine Aa g4 ?_;simp only[ND,DK,Ab];refine Aa g5 ?_;rfl
theorem AaH{n k:Nat}{t:Tm}(ht:TmB n k t)(hn:n<=500)(hk:k+n+1<=1000)(e:Bool):D.ask (.fn 23) [.agg (M9 (t,e))] []=Θ (.ls ((FG t.lf e).map M9),[]):=by
 have gb:=SP Kt Kf Ks Z C Kd ht (by omega) (by omega);have g1:=RZ Kt Kf Ks Z C ht (by omega) (by omega);have hs:LB n (k+1+n) (t.lf.scale (-1)):=ht.lb.scale (by unfold InB;decide);have gc:=SP Kt Kf Ks Z C Kd hs.tb (by omega) (by omega);rw[DC]at gc;revert gb g1 gc;unfold FG;generalize (Dq (t.lf.scale (-1))).tm=d;generalize (t.lf.scale (-1)).tm=a;generalize (Dq t.lf).tm=c;intro gb g1 gc;obtain⟨ps,kz⟩:=t;refine Aw Kd Ao7 (e23 ..) ?_;simp only[eT,M9,eN,AuH,AtZ]at gb g1 gc ⊢
 cases e with
 |false=>
  refine Ac ?_;refine Aa gb ?_;rfl
 |true=>
  refine BY ?_;refine Aa g1 ?_;simp only[ND,DK,Ab];refine Aa gc ?_;simp only[ND,DK,Ab];refine Aa gb ?_;rfl
end
section
open Go.RowKit
variable (A:Ar) (D:Orc)
end
theorem AcD{k:Nat}{x:Int}(hx:InB k x)(hk:1<=k)(y:Int):InB (k+1) (qZ x y):=by
 unfold qZ;split
 .rw[Int.sub_eq_add_neg]
  exact(AbQ hx y _).add ((InB.one hk).neg)
 .exact(AbQ hx y _).mono (by omega)
def hdS(t:Tm):Int:=match t.ps with
 |[]=>0
 |q::_=>zv q.z
def zrR:Tm × Bool:=(⟨[],⟨Φ,[]⟩⟩,Φ)
def Hp(p:Tm)(eq:Bool):(Tm × Bool) × Int:=
 if p.ps=[] then(zrR,if zv p.k=0\/(eq=Φ/\0<zv p.k) then 1 else -1)
 else if eq=Δ then
  (if rZ (zv p.k) (CQ p)=0 then((if hdS (FD p)<0 then((FD p).lf.scale (-1)).tm else FD p,Δ),0) else(zrR,-1))
 else((FD p,Φ),0)
theorem WK{l:Lf}(h:l.pln.tm.ps≠[]):CQ l.pln.tm≠0:=by
 intro h0;have hp:=DU l.ps;unfold CQ at h0;rw[DC,show l.pln.ps=Ba l.ps from rfl,JP hp]at h0;have hd:=(Ky (Ba l.ps) 0).2;rw[h0]at hd
 cases hl:Ba l.ps with
 |nil=>
  apply h
  show (Ba l.ps).map AR=[]
  rw[hl];rfl
 |cons q r=>
  have hq:q∈Ba l.ps:=by rw[hl];exact AtL ..
  have h1:=Nat.eq_zero_of_zero_dvd (hd q hq);exact hp.nz q hq (by omega)
theorem XZ(x:Int):Ck x=0 ↔ x=0:=by unfold Ck;split<;>(try split)<;>omega
theorem Ale(x:Int):0<Ck x ↔ 0<x:=by unfold Ck;split<;>(try split)<;>omega
theorem Ald(x:Int):Ck x<0 ↔ x<0:=by unfold Ck;split<;>(try split)<;>omega
theorem WL{n k:Nat}{t:Tm}(ht:TmB n k t):InB (k+n) (CQ t:Int):=To _ _ (InB.zero _) (λp hp=>by
 rw[←JQ]at hp;obtain⟨v,_,rfl⟩:=Auw.1 hp;exact Wz ht v)
theorem Adg{n k:Nat}{t:Tm}(ht:TmB n k t)(hk:1<=k):TmB n (k+n+1) (FD t):=by
 unfold FD;have hl:=Gu t.lf.ps;have hl2:=ht.lb.len;split
 .exact(ht.lb.pln.tb).mono (η _) (by omega)
 .refine⟨by simp;omega,λp hp=>?_,((AcD ht.k.inb hk _).mono (by omega)).lz⟩
  obtain⟨q,hq,rfl⟩:=Auw.1 hp;rw[←JQ]at hq;obtain⟨v,_,rfl⟩:=Auw.1 hq;exact(AcD (Wz ht v) (by omega) _).lz
section
open Go.RowKit
def ApV:MFn:=AC [] 63
def Apg:Hnt:=⟨[],[],[]⟩
def ApK:MFn:=AC [] 17
def Ao6:Hnt:=⟨[(62,(.agg Br,[])),(63,(.tup [.agg Fs,.int .i64],[])),(64,(.int .i64,[])),(65,(.tup [.agg Br,.agg AK],[])),(66,(.tup [.agg AK,.agg AK,.int .i64],[])),(67,(.agg AK,[])),(68,(.agg Br,[]))],[],[(9,Br),(12,[.ls]),(16,AK),(21,[.bool]),(25,AK),(34,[.bool]),(37,Br),(41,Br),(45,AK),(46,Br),(52,AK),(59,Br),(64,[.ls]),(65,Bw),(67,AK),(70,Br),(72,Br)]⟩
def UI:List (Nat × MFn):=[(63,ApV),(17,ApK)]
variable (A:Ar) (D:Orc)
theorem e63(x0:Bool):BZ A D As Apg .n 63 ApV [bv x0] [] =
 br x0
 (Θ ((υ [ψ [Ψ [],bv Φ,Ψ [],bv Φ],iv 1],[])))
 (Θ ((υ [ψ [Ψ [],bv Φ,Ψ [],bv Φ],iv (-1)],[]))):=by kernel_rfl
theorem e17(x0_0:Rw)(x0_1:Bool)(x0_2:Rw)(x0_3:Bool):BZ A D As Ao6 .n 17 ApK [ψ [Ψ x0_0,bv x0_1,Ψ x0_2,bv x0_3]] [] =
 Ae D (ω 62) [ψ [Ψ x0_0,bv x0_1,Ψ x0_2]] [] [.a,.L,.B,.L,.N,.E] λxs b xs1=>
 br (A.eq (↑(AI xs)) 0)
 (Ae D (ω 64) [ψ [bv b,Ψ xs1]] [] [.i,.E] λn=>
 br (A.eq n 0)
 (Ae D (ω 63) [bv Δ] [] [.t,.A,.L,.B,.L,.B,.N,.I,.N,.E] λxs2 b1 xs3 b2 n1=>
 Θ ((υ [ψ [Ψ xs2,bv b1,Ψ xs3,bv b2],iv n1],[])))
 (br (A.not x0_3)
 (Ae D (ω 64) [ψ [bv b,Ψ xs1]] [] [.i,.E] λn1=>
 br (A.lt 0 n1)
 (Ae D (ω 63) [bv Δ] [] [.t,.A,.L,.B,.L,.B,.N,.I,.N,.E] λxs2 b1 xs3 b2 n2=>
 Θ ((υ [ψ [Ψ xs2,bv b1,Ψ xs3,bv b2],iv n2],[])))
 (Ae D (ω 63) [bv Φ] [] [.t,.A,.L,.B,.L,.B,.N,.I,.N,.E] λxs2 b1 xs3 b2 n2=>
 Θ ((υ [ψ [Ψ xs2,bv b1,Ψ xs3,bv b2],iv n2],[]))))
 (Ae D (ω 63) [bv Φ] [] [.t,.A,.L,.B,.L,.B,.N,.I,.N,.E] λxs2 b1 xs3 b2 n1=>
 Θ ((υ [ψ [Ψ xs2,bv b1,Ψ xs3,bv b2],iv n1],[])))))
 (br (A.not x0_3)
 (Ae D (ω 65) [ψ [Ψ xs,bv b,Ψ xs1]] [] [.t,.A,.L,.B,.L,.N,.A,.B,.L,.N,.N,.E] λxs2 b1 xs3 _ _=>
 Θ ((υ [ψ [Ψ xs2,bv b1,Ψ xs3,bv Φ],iv 0],[])))
 (Ae D (ω 67) [ψ [Ψ xs,bv b,Ψ xs1]] [] [.a,.B,.L,.N,.E] λb1 xs2=>
 Ae D (ω 66) [ψ [bv b,Ψ xs1],ψ [bv b1,Ψ xs2]] [] [.t,.A,.B,.L,.N,.A,.B,.L,.N,.I,.N,.E] λ_ _ b3 xs4 _=>
 Ae D (ω 64) [ψ [bv b3,Ψ xs4]] [] [.i,.E] λn1=>
 br (A.eq n1 0)
 (Ae D (ω 65) [ψ [Ψ xs,bv b,Ψ xs1]] [] [.t,.A,.L,.B,.L,.N,.A,.B,.L,.N,.N,.E] λxs5 b4 xs6 _ _=>
 BC xs5 0 λcs8=>
 dk [.I,.B,.L,.N] [.l cs8] λ_ b6 xs8=>
 Ae D (ω 64) [ψ [bv b6,Ψ xs8]] [] [.i,.E] λn3=>
 br (A.lt n3 0)
 (Ae D (ω 68) [ψ [Ψ xs5,bv b4,Ψ xs6]] [] [.a,.L,.B,.L,.N,.E] λxs9 b7 xs10=>
 Θ ((υ [ψ [Ψ xs9,bv b7,Ψ xs10,bv Δ],iv 0],[])))
 (Θ ((υ [ψ [Ψ xs5,bv b4,Ψ xs6,bv Δ],iv 0],[]))))
 (Ae D (ω 63) [bv Φ] [] [.t,.A,.L,.B,.L,.B,.N,.I,.N,.E] λxs5 b4 xs6 b5 n2=>
 Θ ((υ [ψ [Ψ xs5,bv b4,Ψ xs6,bv b5],iv n2],[]))))):=by kernel_rfl
end
structure TiF (D:Orc):Prop where
 plain:∀{n k:Nat} {t:Tm},TmB n k t->n<=1000000->k+n<=300000000->D.ask (.fn 62) [.agg (eT t)] []=Θ (.agg (eT t.lf.pln.tm),[])
 content:∀{n k:Nat} {t:Tm},TmB n k t->n<=1000000->k+n<=300000000->D.ask (.fn 67) [.agg (eT t)] []=Θ (.agg (eZ (AD (CQ t:Int))),[])
 shrink:∀{n k:Nat} {t:Tm},TmB n k t->n<=1000000->k+n<=300000000->D.ask (.fn 65) [.agg (eT t)] []=Θ (.tup [.agg (eT (FD t)),.agg (eZ (AD (CQ t:Int)))],[])
 neg:∀{n k:Nat} {t:Tm},TmB n k t->n<=1000000->k+n<=300000000->D.ask (.fn 68) [.agg (eT t)] []=Θ (.agg (eT (t.lf.scale (-1)).tm),[])
section
variable {D:Orc} (Kt:Knows As UI D) (Z:ZF D) (W:ZdF D) (T:TiF D)
include Kt
theorem TS(b:Bool):D.ask (.fn 63) [bv b] []=Θ (.tup [.agg (M9 zrR),iv (if b=Δ then 1 else -1)],[]):=by
 refine Aw Kt Apg (e63 ..) ?_
 cases b<;>rfl
include Z W T
theorem UO{n k:Nat}{t:Tm}(ht:TmB n k t)(hn:n<=1000000)(hk1:1<=k)(hk:k+3*n<=100000000)(eq:Bool):D.ask (.fn 17) [.agg (M9 (t,eq))] []
  = Θ (.tup [.agg (M9 (Hp t.lf.pln.tm eq).1),iv (Hp t.lf.pln.tm eq).2],[]):=by
 have gp:=T.plain ht hn (by omega);have hp:=ht.lb.pln.tb;have hc:t.lf.pln.tm.ps≠[]->CQ t.lf.pln.tm≠0:=WK;have k1:=TS Kt Δ;have k0:=TS Kt Φ;refine Aw Kt Ao6 (e17 ..) ?_;refine Aa gp ?_;generalize t.lf.pln.tm=p at *;have gs:=Z.sign p.k (hp.k.mono (by omega));simp only[eT,eN,ND,DK,Ab];simp only[Ao];unfold Hp
 by_cases h0:p.ps=[]
 .rw[if_pos h0,h0]
  refine AO ?_ (by decide);refine Aa gs ?_;simp only[GH,BF,DK]
  by_cases hz:zv p.k=0
  .rw[if_pos (.inl hz)]
   refine AO ?_ ((XZ _).2 hz);refine Aa k1 ?_;rfl
  .refine Aq ?_ (λh=>hz ((XZ _).1 h))
   cases eq with
   |true=>
    refine BY ?_;rw[if_neg (λh=>h.elim hz λh=>by cases h.1)];refine Aa k0 ?_;rfl
   |false=>
    refine Ac ?_;refine Aa gs ?_;simp only[GH,BF,DK]
    by_cases hpz:0<zv p.k
    .rw[if_pos (.inr ⟨by trivial,hpz⟩)]
     refine Al ?_ ((Ale _).2 hpz);refine Aa k1 ?_;rfl
    .rw[if_neg (λh=>h.elim hz λh=>hpz h.2)]
     refine Ai ?_ (λh=>hpz ((Ale _).1 h));refine Aa k0 ?_;rfl
 .have hc:=hc h0
  have hpl:p.ps.length≠0:=λh=>h0 (List.eq_nil_of_length_eq_zero h)
  rw[if_neg h0];refine Aq ?_;have hci:=WL hp;have gc:=T.content hp hn (by omega);have gd:=W.div p.k (AD (CQ p:Int)) (hp.k.mono (by omega)) (hci.lz.mono (by omega));rw[Bm,if_neg (by omega)]at gd;have gh:=T.shrink hp hn (by omega);simp only[eT,eN]at gc gh
  cases eq with
  |false=>
   rw[if_neg (by decide)];refine Ac ?_;refine Aa gh ?_;rfl
  |true=>
   rw[if_pos rfl];refine BY ?_;refine Aa gc ?_;simp only[eZ,eN,DX,B7,CP,Cj,Dr,ET,B1,BF,DK];refine Aa gd ?_;simp only[eZ,eN,DX,B7,CP,Cj,Dr,ET,B1,BF,DK];have hri:InB 300000001 (rZ (zv p.k) (CQ p:Int)):=by
    unfold rZ;split
    .exact((TM hci (by omega) _ _).mono (by omega)).add (hci.mono (by omega))
    .exact(TM hci (by omega) _ _).mono (by omega)
   have gr:=Z.sign (AD (rZ (zv p.k) (CQ p:Int))) (hri.lz.mono (by omega));rw[Bm]at gr;refine Aa gr ?_;simp only[GH,BF,DK]
   by_cases hr:rZ (zv p.k) (CQ p:Int)=0
   .rw[if_pos hr]
    refine AO ?_ ((XZ _).2 hr);refine Aa gh ?_;have hst:=Adg hp (show 1<=k+n by omega);have hne:(FD p).ps≠[]:=by
     unfold FD;rw[if_neg hc];intro h1;have h2:Ba p.lf.ps=[]:=List.map_eq_nil_iff.1 h1;apply hc;unfold CQ;rw[h2];rfl
    have gsc:=T.neg hst hn (by omega);revert gsc hne;have hq1:∀ q∈(FD p).ps,Lz 1000000000 q.z:=λq hq=>(hst.ps q hq).mono (by omega)
    revert hq1;generalize FD p=S;obtain⟨sp,sk⟩:=S
    cases sp with
    |nil=>intro _ h;exact absurd rfl h
    |cons q sp=>
     intro hq1 _ gsc;have gq:=Z.sign q.z (hq1 q (AtL ..));simp only[eZ,eN,DX,B7,CP,Cj,Dr,ET,B1,BF,DK];rw[Ax (show (q::sp)[0]? = Θ q from rfl)];simp only[eP,eN,DX,B7,CP,Cj,Dr,ET,B1,BF,DK];refine Aa gq ?_;simp only[GH,BF,DK]
     show _=Θ (υ [.agg (M9 (if zv q.z<0 then _ else _,Δ)),iv 0],[])
     by_cases hs:zv q.z<0
     .rw[if_pos hs]
      refine Al ?_ ((Ald _).2 hs);refine Aa gsc ?_;rfl
     .rw[if_neg hs]
      exact DL (λh=>hs ((Ald _).1 h))
   .rw[if_neg hr]
    refine Aq ?_ (λh=>hr ((XZ _).1 h));refine Aa k0 ?_;rfl
end
section
variable {D:Orc} (Kt:Knows As GD D) (Kf:Knows As MI D) (Ks:Knows As EQ D) (Z:ZF D) (C:PartF D) (Kc:Knows As X6 D) (W:ZdF D)
include Kt Kf Ks Z C Kc W
theorem AnZ(hs:∀{n k:Nat} {t:Tm},TmB n k t->n<=1000000->k+n<=300000000->D.ask (.fn 65) [.agg (eT t)] []=Θ (.tup [.agg (eT (FD t)),.agg (eZ (AD (CQ t:Int)))],[])):TiF D where
 plain h hn hk:=Fo Kt Ks Z C h hn (by omega)
 content {n k t} h hn hk:=by
  have hp:=Fo Kt Ks Z C h hn (by omega);have hl:=Gu t.lf.ps;have hl2:=h.lb.len;have hb:=h.lb.pln.ps;refine Vf Kc W (l:=Ba t.lf.ps) (k:=t.lf.pln.tm.k) ?_ (by omega) (λp hp=>(hb p hp).mono (by omega));rw[hp]
  show Θ (ψ [.ls (((Ba t.lf.ps).map AR).map eP),_,_],[])=_
  rw[Awd];rfl
 shrink h hn hk:=hs h hn hk
 neg h hn hk:=RZ Kt Kf Ks Z C h hn (by omega)
end
section
open Go.RowKit
def M0:List (Nat × Nat):=[(67,0),(62,0),(135,0),(136,0),(196,0),(234,0),(235,0),(265,0),(275,0),(140,0),(199,0)]
def T4:MFn:=LO ι Bz [⟨74,(mB 917524),[(1000004,3)],[2,17],[(1,((mB 20),([],[1000000])))]⟩] Δ Φ 62
def Oq:Hnt:=⟨[(135,(.sl 0 3,[.row Δ])),(136,(.tup [],[.row Δ])),(138,(.agg AK,[])),(139,(.agg AK,[])),(140,(.sl 0 3,[.row Δ]))],[(0,[(1,([.ptr 0 0,.ptr 1 0],[.box Br,.box [.sl 3 3,.bool,.ls],.del,.row Δ]))])],[(9,[.ls]),(14,AK),(21,Bw),(22,Bw),(24,[.int .i64]),(27,[.ls]),(34,[.ls]),(36,Bw),(38,[.int .i64]),(40,[.int .i64]),(44,[.ls]),(47,[.ls]),(49,Bw),(51,AK),(53,AK),(55,Bw),(58,[.ls]),(60,[.int .i64]),(62,AK),(70,[.ls]),(73,Br)]⟩
def AbL:Hnt:=⟨[(135,(.sl 1 3,[.keep,.row Δ])),(136,(.tup [],[.row Δ])),(138,(.agg AK,[])),(139,(.agg AK,[])),(140,(.sl 0 3,[.row Δ]))],[(0,[(1,([.ptr 0 0,.ptr 1 0],[.box Br,.box [.sl 3 3,.bool,.ls],.del,.row Δ]))])],[(9,[.ls]),(14,AK),(21,Bw),(22,Bw),(24,[.int .i64]),(27,[.ls]),(34,[.ls]),(36,Bw),(38,[.int .i64]),(40,[.int .i64]),(44,[.ls]),(47,[.ls]),(49,Bw),(51,AK),(53,AK),(55,Bw),(58,[.ls]),(60,[.int .i64]),(62,AK),(70,[.ls]),(73,Br)]⟩
def XF:MFn:=AC [⟨21,(mB 3596),[],[2,3,9],[(1,((mB 12),([],[1000000])))]⟩] 67
def Ot:Hnt:=⟨[(62,(.agg [.sl 1 3,.bool,.ls],[.keep,.row Δ])),(147,(.agg AK,[]))],[(0,[(1,([.ptr 0 0,.ptr 1 0],[.box AK,.box AK]))])],[(7,Br),(13,Bw),(14,Bw),(15,AK),(17,AK),(20,AK)]⟩
def XE:MFn:=AC [⟨49,(mB 1835068),[],[2,3,5],[(1,((mB 60),([],[])))]⟩] 65
def TK:Hnt:=⟨[(62,(.agg [.sl 0 3,.bool,.ls],[.row Δ])),(64,(.int .i64,[])),(66,(.tup [.agg AK,.agg AK,.int .i64],[])),(67,(.agg AK,[.keep])),(143,(.tup [.agg AK,.int .i64],[]))],[(0,[(1,([.ptr 0 0,.ptr 1 0,.ptr 2 0,.ptr 3 0],[.box Br,.box AK,.box [.sl 5 3,.bool,.ls],.box AK,.del,.row Δ]))])],[(8,Br),(10,Br),(12,AK),(15,Br),(16,AK),(18,[.ls]),(23,Bw),(24,Bw),(27,[.ls]),(30,AK),(31,AK),(35,Bw),(40,AK),(41,AK),(47,Br),(48,AK)]⟩
def UH:List (Nat × MFn):=[(62,T4),(67,XF),(65,XE)]
variable (A:Ar) (D:Orc)
theorem AoR(x0:Rw)(x1:Bool)(x2:Rw):BZ A D M0 Oq .n 62 T4 [ψ [Ψ x0,bv x1,Ψ x2]] [] =
 Ae D (ω 135) [Ψ x0] [] [.q 0 3,.R,.X,.E] λn cs=>
 Ae D (ω 136) [χ 0 0 n 3,AtR (Fn.func 137) [] []] [δ cs Δ Δ] [.t,.N,.R,.X,.E] λcs2=>
 Ae D (ω 138) [ψ [bv x1,Ψ x2]] [] [.a,.B,.L,.N,.E] λb xs=>
 br ((0+n*3).ble cs2.length) (AG D (AtB 62 0) [AtA 0 0,AtA 1 0,Ψ (Bh n 3 (ο (n*3) cs2)),iv ↑n,iv 0] [bk [Ψ [],bv Φ,Ψ []],bk [χ 2 0 0 3,bv b,Ψ xs],δ [] Δ Δ] λr3 o3=>
 dk [.t,.C,.x,.X] [.v r3] λc2 l4=>
 br (Bn 1 c2)
 (dk [.P 0 0,.P 1 0,.N,.T,.L,.B,.L,.N,.T,.C,.q 3 3,.B,.L,.N,.D,.R,.X,.E] [.l l4,.o o3] λ_ _ _ n1 b2 xs3 cs7=>
 Ae D (ω 140) [χ 0 0 n1 3,AtR (Fn.func 141) [] []] [δ cs7 Δ Δ] [.q 0 3,.R,.X,.E] λn2 cs8=>
 Θ ((ψ [χ 0 0 n2 3,bv b2,Ψ xs3],[AtH (δ cs8 Δ Δ)])))
 (Ξ)) Ξ:=by kernel_rfl
theorem WY(r0:Rw)(r1:Bool)(r2:Rw)(n4:Nat)(k1:Bool)(k2:Rw)(c4:List AV)(t17:Rw)(t18 t19:Int):Dy A D M0 Oq .n 62 0 (AU T4 0).fst (AU T4 0).snd [AtA 0 0,AtA 1 0,Ψ t17,iv t18,iv t19] [bk [Ψ r0,bv r1,Ψ r2],bk [χ 2 0 n4 3,bv k1,Ψ k2],{ cells:=c4,st:=Δ,ex:=Δ }] =
 br (A.lt t19 t18)
 (unI t19 λi=>
 BC t17 i λcs=>
 dk [.I,.B,.L,.N] [.l cs] λn b xs=>
 br (A.lt n 0)
 (AG D (AtB 62 0) [AtA 0 0,AtA 1 0,Ψ t17,iv t18,iv (A.add θ t19 1)] [bk [Ψ r0,bv r1,Ψ r2],bk [χ 2 0 n4 3,bv k1,Ψ k2],δ c4 Δ Δ] λr o=>
 AE 3 [0,1,2] (AH.mk [(0,bk [Ψ r0,bv r1,Ψ r2]),(3,bk [iv n,bv b,Ψ xs]),(1,bk [χ 2 0 n4 3,bv k1,Ψ k2]),(2,δ c4 Δ Δ)] 4 Ξ) [0] r o)
 (br (A.le 0 (A.sub θ (↑n4) 1))
 (unI (A.sub θ (↑n4) 1) λi1=>
 br (i1.blt n4) (EW c4 (0+i1*3+0) 1 λcs1=>
 dk [.I,.N] [.l cs1] λn1=>
 br (A.eq n1 n)
 (unI (A.sub θ (↑n4) 1) λi2=>
 br (i2.blt n4) (EW c4 (0+i2*3+1) 2 λcs2=>
 dk [.B,.L,.N] [.l cs2] λb1 xs1=>
 Ae D (ω 139) [ψ [bv b1,Ψ xs1],ψ [bv b,Ψ xs]] [] [.a,.B,.L,.N,.E] λb2 xs2=>
 unI (A.sub θ (↑n4) 1) λi3=>
 br (i3.blt n4) (br ((0+i3*3+1+2).ble c4.length) (AG D (AtB 62 0) [AtA 0 0,AtA 1 0,Ψ t17,iv t18,iv (A.add θ t19 1)] [bk [Ψ r0,bv r1,Ψ r2],bk [χ 2 0 n4 3,bv k1,Ψ k2],δ (AF c4 (0+i3*3+1) [bv b2,Ψ xs2]) Δ Δ] λr3 o1=>
 AE 3 [0,1,2] (AH.mk [(0,bk [Ψ r0,bv r1,Ψ r2]),(2,δ (AF c4 (0+i3*3+1) [bv b2,Ψ xs2]) Δ Δ),(3,bk [iv n,bv b,Ψ xs]),(1,bk [χ 2 0 n4 3,bv k1,Ψ k2])] 4 Ξ) [2,0] r3 o1) Ξ) Ξ) Ξ)
 (Ae D (ω 138) [ψ [bv b,Ψ xs]] [] [.a,.B,.L,.N,.E] λb1 xs1=>
 br (Bf (n4+1) 40) (br ((0+n4*3).ble c4.length) (AG D (AtB 62 0) [AtA 0 0,AtA 1 0,Ψ t17,iv t18,iv (A.add θ t19 1)] [bk [Ψ r0,bv r1,Ψ r2],bk [χ 2 0 (n4+1) 3,bv k1,Ψ k2],δ (AtD 0 (ο (0+n4*3) c4)++[iv n,bv b1,Ψ xs1]) Δ Δ] λr3 o1=>
 AE 3 [0,1,5] (AH.mk [(0,bk [Ψ r0,bv r1,Ψ r2]),(1,bk [χ 5 0 (n4+1) 3,bv k1,Ψ k2]),(5,δ (AtD 0 (ο (0+n4*3) c4)++[iv n,bv b1,Ψ xs1]) Δ Δ),(4,δ [iv n,bv b1,Ψ xs1] Δ Δ),(3,bk [iv n,bv b,Ψ xs])] 6 Ξ) [2,1,0] r3 o1) Ξ) Ξ)) Ξ)
 (Ae D (ω 138) [ψ [bv b,Ψ xs]] [] [.a,.B,.L,.N,.E] λb1 xs1=>
 br (Bf (n4+1) 40) (br ((0+n4*3).ble c4.length) (AG D (AtB 62 0) [AtA 0 0,AtA 1 0,Ψ t17,iv t18,iv (A.add θ t19 1)] [bk [Ψ r0,bv r1,Ψ r2],bk [χ 2 0 (n4+1) 3,bv k1,Ψ k2],δ (AtD 0 (ο (0+n4*3) c4)++[iv n,bv b1,Ψ xs1]) Δ Δ] λr3 o1=>
 AE 3 [0,1,5] (AH.mk [(0,bk [Ψ r0,bv r1,Ψ r2]),(1,bk [χ 5 0 (n4+1) 3,bv k1,Ψ k2]),(5,δ (AtD 0 (ο (0+n4*3) c4)++[iv n,bv b1,Ψ xs1]) Δ Δ),(4,δ [iv n,bv b1,Ψ xs1] Δ Δ),(3,bk [iv n,bv b,Ψ xs])] 6 Ξ) [2,1,0] r3 o1) Ξ) Ξ)))
 (Θ ((υ [iv 0,AtA 0 0,AtA 1 0],[AtH (bk [Ψ r0,bv r1,Ψ r2]),AtH (bk [χ 3 0 n4 3,bv k1,Ψ k2]),BO.del,AtH (δ c4 Δ Δ)]))):=by kernel_rfl
theorem AoS(n0:Nat)(c0:List AV)(x1:Bool)(x2:Rw):BZ A D M0 AbL .n 62 T4 [ψ [χ 0 0 n0 3,bv x1,Ψ x2]] [{ cells:=c0,st:=Δ,ex:=Δ }] =
 Ae D (ω 135) [χ 0 0 n0 3] [δ c0 Δ Δ] [.q 1 3,.K,.R,.X,.E] λn cs=>
 Ae D (ω 136) [χ 0 0 n 3,AtR (Fn.func 137) [] []] [δ cs Δ Δ] [.t,.N,.R,.X,.E] λcs2=>
 Ae D (ω 138) [ψ [bv x1,Ψ x2]] [] [.a,.B,.L,.N,.E] λb xs=>
 br ((0+n*3).ble cs2.length) (AG D (AtB 62 0) [AtA 0 0,AtA 1 0,Ψ (Bh n 3 (ο (n*3) cs2)),iv ↑n,iv 0] [bk [Ψ [],bv Φ,Ψ []],bk [χ 2 0 0 3,bv b,Ψ xs],δ [] Δ Δ] λr3 o3=>
 dk [.t,.C,.x,.X] [.v r3] λc3 l5=>
 br (Bn 1 c3)
 (dk [.P 0 0,.P 1 0,.N,.T,.L,.B,.L,.N,.T,.C,.q 3 3,.B,.L,.N,.D,.R,.X,.E] [.l l5,.o o3] λ_ _ _ n1 b2 xs3 cs7=>
 Ae D (ω 140) [χ 0 0 n1 3,AtR (Fn.func 141) [] []] [δ cs7 Δ Δ] [.q 0 3,.R,.X,.E] λn2 cs8=>
 Θ ((ψ [χ 1 0 n2 3,bv b2,Ψ xs3],[BO.keep,AtH (δ cs8 Δ Δ)])))
 (Ξ)) Ξ:=by kernel_rfl
theorem AoT(n0:Nat)(c0:List AV)(x1:Bool)(x2:Rw):BZ A D M0 Ot .n 67 XF [ψ [χ 0 0 n0 3,bv x1,Ψ x2]] [{ cells:=c0,st:=Δ,ex:=Δ }] =
 Ae D (ω 62) [ψ [χ 0 0 n0 3,bv x1,Ψ x2]] [δ c0 Δ Δ] [.a,.C,.q 1 3,.B,.L,.N,.K,.R,.X,.E] λn _ _ cs1=>
 br ((0+n*3).ble cs1.length) (AG D (AtB 67 0) [AtA 0 0,AtA 1 0,Ψ (Bh n 3 (ο (n*3) cs1)),iv ↑n,iv 0] [bk [bv Φ,Ψ []],bk [bv Φ,Ψ []]] λr1 o1=>
 dk [.t,.C,.x,.X] [.v r1] λc3 l5=>
 br (Bn 1 c3)
 (dk [.P 0 0,.P 1 0,.N,.T,.B,.L,.N,.T,.B,.L,.N,.E] [.l l5,.o o1] λ_ _ b2 xs2=>
 Θ ((ψ [bv b2,Ψ xs2],[BO.keep])))
 (Ξ)) Ξ:=by kernel_rfl
theorem WZ(b2_0:Bool)(b2_1:Rw)(b3_0:Bool)(b3_1 t9:Rw)(t10 t11:Int):Dy A D M0 Ot .n 67 0 (AU XF 0).fst (AU XF 0).snd [AtA 0 0,AtA 1 0,Ψ t9,iv t10,iv t11] [bk [bv b2_0,Ψ b2_1],bk [bv b3_0,Ψ b3_1]] =
 br (A.lt t11 t10)
 (unI t11 λi=>
 BC t9 i λcs=>
 dk [.I,.B,.L,.N] [.l cs] λn b xs=>
 Ae D (ω 147) [ψ [bv b3_0,Ψ b3_1],ψ [bv b,Ψ xs]] [] [.a,.B,.L,.N,.E] λb1 xs1=>
 AG D (AtB 67 0) [AtA 0 0,AtA 1 0,Ψ t9,iv t10,iv (A.add θ t11 1)] [bk [bv b2_0,Ψ b2_1],bk [bv b1,Ψ xs1]] λr1 o1=>
 AE 2 [0,1] (AH.mk [(1,bk [bv b1,Ψ xs1]),(0,bk [bv b2_0,Ψ b2_1]),(2,bk [iv n,bv b,Ψ xs])] 3 Ξ) [0,1] r1 o1)
 (Θ ((υ [iv 0,AtA 0 0,AtA 1 0],[AtH (bk [bv b2_0,Ψ b2_1]),AtH (bk [bv b3_0,Ψ b3_1])]))):=by kernel_rfl
theorem ArN(x0_0:Rw)(x0_1:Bool)(x0_2:Rw):BZ A D M0 TK .n 65 XE [ψ [Ψ x0_0,bv x0_1,Ψ x0_2]] [] =
 Ae D (ω 62) [ψ [Ψ x0_0,bv x0_1,Ψ x0_2]] [] [.a,.C,.q 0 3,.B,.L,.N,.R,.X,.E] λn b xs cs1=>
 Ae D (ω 67) [ψ [χ 0 0 n 3,bv b,Ψ xs]] [δ cs1 Δ Δ] [.a,.B,.L,.N,.K,.E] λb1 xs1=>
 Ae D (ω 64) [ψ [bv b1,Ψ xs1]] [] [.i,.E] λn1=>
 br (A.eq n1 0)
 (br ((0+n*3).ble cs1.length) (Θ ((υ [ψ [Ψ (Bh n 3 (ο (n*3) cs1)),bv b,Ψ xs],ψ [bv b1,Ψ xs1]],[]))) Ξ)
 (Ae D (AtB 65 0) [AtA 0 0,AtA 1 0,AtA 2 0,AtA 3 0,χ 4 0 n 3,iv ↑n,iv 0] [bk [Ψ [],bv Φ,Ψ []],bk [bv Φ,Ψ []],bk [χ 4 0 n 3,bv b,Ψ xs],bk [bv b1,Ψ xs1],δ cs1 Δ Δ] [.t,.C,.x,.X,.Y] λc3 l7 o3=>
 br (Bn 1 c3)
 (dk [.P 0 0,.P 1 0,.P 2 0,.P 3 0,.N,.T,.L,.B,.L,.N,.T,.B,.L,.N,.T,.C,.q 5 3,.B,.L,.N,.T,.B,.L,.N,.D,.R,.X,.E] [.l l7,.o o3] λ_ _ _ _ _ n2 b4 xs5 b5 xs6 cs8=>
 Ae D (ω 66) [ψ [bv b4,Ψ xs5],ψ [bv b5,Ψ xs6]] [] [.t,.A,.B,.L,.N,.A,.B,.L,.N,.I,.N,.E] λb6 xs7 _ _ _=>
 br ((0+n2*3).ble cs8.length) (Θ ((υ [ψ [Ψ (Bh n2 3 (ο (n2*3) cs8)),bv b6,Ψ xs7],ψ [bv b5,Ψ xs6]],[]))) Ξ)
 (Ξ)):=by kernel_rfl
theorem Aa9(r0:Rw)(r1:Bool)(r2:Rw)(i0:Bool)(i1:Rw)(j0:Bool)(j1:Rw)(n0:Nat)(k1:Bool)(k2:Rw)(c0:List AV)(t19 t20:Int):Dy A D M0 TK .n 65 0 (AU XE 0).fst (AU XE 0).snd [AtA 0 0,AtA 1 0,AtA 2 0,AtA 3 0,χ 4 0 n0 3,iv t19,iv t20] [bk [Ψ r0,bv r1,Ψ r2],bk [bv i0,Ψ i1],bk [χ 4 0 n0 3,bv k1,Ψ k2],bk [bv j0,Ψ j1],{ cells:=c0,st:=Δ,ex:=Δ }] =
 br (A.lt t20 t19)
 (unI t20 λi=>
 br (i.blt n0) (EW c0 (0+i*3) 3 λcs=>
 dk [.I,.B,.L,.N] [.l cs] λn b xs=>
 Ae D (ω 143) [ψ [bv b,Ψ xs],ψ [bv j0,Ψ j1]] [] [.t,.A,.B,.L,.N,.I,.N,.E] λb1 xs1 _=>
 unI t20 λi2=>
 br (i2.blt n0) (br ((0+i2*3+1+2).ble c0.length) (AG D (AtB 65 0) [AtA 0 0,AtA 1 0,AtA 2 0,AtA 3 0,χ 4 0 n0 3,iv t19,iv (A.add θ t20 1)] [bk [Ψ r0,bv r1,Ψ r2],bk [bv i0,Ψ i1],bk [χ 4 0 n0 3,bv k1,Ψ k2],bk [bv j0,Ψ j1],δ (AF c0 (0+i2*3+1) [bv b1,Ψ xs1]) Δ Δ] λr3 o1=>
 AE 5 [0,1,2,3,4] (AH.mk [(3,bk [bv j0,Ψ j1]),(1,bk [bv i0,Ψ i1]),(0,bk [Ψ r0,bv r1,Ψ r2]),(4,δ (AF c0 (0+i2*3+1) [bv b1,Ψ xs1]) Δ Δ),(5,bk [iv n,bv b,Ψ xs]),(2,bk [χ 4 0 n0 3,bv k1,Ψ k2])] 6 Ξ) [4,0,1,3] r3 o1) Ξ) Ξ) Ξ)
 (Θ ((υ [iv 0,AtA 0 0,AtA 1 0,AtA 2 0,AtA 3 0],[AtH (bk [Ψ r0,bv r1,Ψ r2]),AtH (bk [bv i0,Ψ i1]),AtH (bk [χ 5 0 n0 3,bv k1,Ψ k2]),AtH (bk [bv j0,Ψ j1]),BO.del,AtH (δ c0 Δ Δ)]))):=by kernel_rfl
end
theorem rdW(A:List Pt)(x:Pt)(tl:List AV)(k:List AV->KR):EW (Ag eP A++(eP x++tl)) (0+A.length*3) 3 k=k (eP x):=by
 have hl:=AT Az A;unfold EW;rw[show AtG (0+A.length*3+3) (Ag eP A++(eP x++tl)).length=Δ by simp[hl,Az],AtQ,←hl,List.drop_left' rfl];rfl
theorem spW(A:List Pt)(x y:Pt)(tl:List AV):AF (Ag eP A++(eP x++tl)) (0+A.length*3+1) [bv y.z.neg,eN y.z.abs]=Ag eP A++(eP ⟨x.v,y.z⟩++tl):=by
 have hl:=AT Az A;unfold AF;rw[AtQ,←hl,List.take_append,List.drop_append];simp[eP,List.take_of_length_le,AtM,Nat.add_sub_cancel_left,Nat.add_assoc]
section
variable {D:Orc} (Ks:Knows M0 UH D) (W:ZdF D)
include Ks W
theorem AnP(g:Int)(hg:InB 300000000 g)(hg0:g≠0)(r0:List (List AV))(r1:Bool)(r2:List (List AV))(i0:Bool)(i1:List (List AV))(k1:Bool)(k2:List (List AV))(n:Nat)(hn:n<=4000000)(tl:List AV):∀(r:List (Int × Int)) (A:List Pt),A.length+r.length=n->(∀ p∈r,InB 300000000 p.2/\g ∣ p.2)->
  D.ask (.lp 65 0) [.ptr 0 0,.ptr 1 0,.ptr 2 0,.ptr 3 0,.sl 4 0 n 3,iv (n:Int),iv (A.length:Int)] [bk [.ls r0,bv r1,.ls r2],bk [bv i0,.ls i1],bk [.sl 4 0 n 3,bv k1,.ls k2],bk (eZ (AD g)),δ (Ag eP A++(Ag eP (r.map AR)++tl)) Δ Δ]
   = Θ (.tup [iv 0,.ptr 0 0,.ptr 1 0,.ptr 2 0,.ptr 3 0],[.set (bk [.ls r0,bv r1,.ls r2]),.set (bk [bv i0,.ls i1]),.set (bk [.sl 5 0 n 3,bv k1,.ls k2]),.set (bk (eZ (AD g))),.del,.set (δ (Ag eP A++(Ag eP (r.map (Uu g))++tl)) Δ Δ)]):=by
 intro r
 induction r with
 |nil=>
  intro A hA _;refine Ay Ks TK (Aa9 ..) ?_;rw[List.length_nil]at hA;exact Ai rfl
 |cons p r ih=>
  intro A hA hr;rw[γ]at hA;obtain⟨hp,hd⟩:=hr p (AtL ..);obtain⟨d1,d2⟩:=AcF hd hg0;have ge:=W.exact (AD p.2) (AD g) (hp.lz.mono (by omega)) (hg.lz.mono (by omega));rw[Bm,Bm,if_neg hg0,if_pos d1]at ge;have ih:=ih (A++[Uu g p]) (by simp;omega) (λq hq=>hr q (AtF _ hq));have e1:∀(x:Pt) (t:List AV),Ag eP (A++[x])++t=Ag eP A++(eP x++t):=λx t=>by
   rw[←Bg eP A x,AtK]
  rw[e1,e1,κ,AtT]at ih;have e2:∀(f:Int × Int->Pt) (t:List AV),Ag eP ((p::r).map f)++t=eP (f p)++(Ag eP (r.map f)++t):=λf t=>by
   unfold Ag;rw[At5,List.flatMap_cons,AtK]
  rw[e2,e2];have hrd:=rdW A (AR p) (Ag eP (r.map AR)++tl);have hsp:=spW A (AR p) (Uu g p) (Ag eP (r.map AR)++tl);have hlen:AtG (0+A.length*3+1+2) (Ag eP A++(eP (AR p)++(Ag eP (r.map AR)++tl))).length=Δ:=by
   rw[κ,κ,AT Az,Az];simp;omega
  have hx:(⟨(AR p).v,(Uu g p).z⟩:Pt)=Uu g p:=rfl;have hz:([bv (Uu g p).z.neg,eN (Uu g p).z.abs]:List AV)=[bv (AD (qZ p.2 g)).neg,eN (AD (qZ p.2 g)).abs]:=rfl;rw[hx,hz]at hsp;generalize Ag eP A++(eP (AR p)++(Ag eP (r.map AR)++tl))=cs at *;refine Ay Ks TK (Aa9 ..) ?_;refine Al ?_;rw[Au,show Nat.blt A.length n=Δ from By (by omega)];refine Ac ?_;refine(hrd _).trans ?_;simp only[eP,AR,eN,ET,Cj,Dr,B1,DK];refine Aa ge ?_;simp only[eZ,eN,DX,B7,CP,Cj,Dr,ET,B1,BF,DK];rw[Au,show Nat.blt A.length n=Δ from By (by omega),hlen];refine Ac ?_;refine Ac ?_;simp only[eN]at hsp;rw[hsp,BQ (by omega)];refine Aa ih ?_;rfl
theorem Aeu(l:List (Int × Int))(hlen:l.length<=4000000)(hl:∀ p∈l,InB 800000000 p.2):∀(m i g:Nat),l.length-i=m->i<=l.length->InB 800000000 (g:Int)->
  D.ask (.lp 67 0) [.ptr 0 0,.ptr 1 0,.ls (l.map λp=>eP (AR p)),iv (l.length:Int),iv (i:Int)] [bk [bv Φ,.ls []],bk (eZ (AD (g:Int)))]
   = Θ (.tup [iv 0,.ptr 0 0,.ptr 1 0],[.set (bk [bv Φ,.ls []]),.set (bk (eZ (AD (Rz g (l.drop i):Int))))]):=by
 intro m
 induction m with
 |zero=>
  intro i g hm hi hg;rw[AtM (by omega)];refine Ay Ks Ot (WZ ..) ?_;exact Ai rfl
 |succ m ih=>
  intro i g hm hi hg;have h1:i<l.length:=by omega
  have hx:=hl _ (At1 h1);rw[ε h1];have ga:=W.gcd (AD (g:Int)) (AD l[i].2) (hg.lz.mono (by omega)) (hx.lz.mono (by omega));rw[Bm,Bm,AvV]at ga;have ih1:=ih (i+1) (Nat.gcd g l[i].2.natAbs) (by omega) (by omega) (RB hg hx);refine Ay Ks Ot (WZ ..) ?_;refine Al ?_;rw[Au,Ax (f:=λp=>eP (AR p)) (ξ h1)];simp only[eP,AR,eN,ND,DK,Ab];refine Aa ga ?_;simp only[eZ,eN,ND,DK,Ab];rw[BQ (by omega)];refine Aa ih1 ?_;rfl
theorem S3{l:List (Int × Int)}{cs:List AV}{b:Bool}{xs:List (List AV)}{tl:List AV}{b2:Bool}{xs2:List (List AV)}(hp:D.ask (.fn 62) [.agg [.sl 0 0 l.length 3,bv b,.ls xs]] [δ cs Δ Δ]=Θ (.agg [.sl 1 0 l.length 3,bv b2,.ls xs2],[.keep,.set (δ (Ag eP (l.map AR)++tl) Δ Δ)]))(hlen:l.length<=4000000)(hl:∀ p∈l,InB 800000000 p.2) :
  D.ask (.fn 67) [.agg [.sl 0 0 l.length 3,bv b,.ls xs]] [δ cs Δ Δ]=Θ (.agg (eZ (AD (Rz 0 l:Int))),[.keep]):=by
 have g:=Aeu Ks W l hlen hl _ 0 0 rfl (by omega) (InB.zero _);rw[Aty,show AD ((0:Nat):Int)=⟨Φ,[]⟩ from Ad2,show eZ ⟨Φ,[]⟩=[bv Φ,.ls []] from rfl]at g;have hll:(Ag eP (l.map AR)).length=l.length*3:=by rw[AT Az,AtP]
 refine Aw Ks Ot (AoT ..) ?_;refine Aa hp ?_;simp only[eZ,eN,ND,DK,Ab];rw[show AtG (0+l.length*3) (Ag eP (l.map AR)++tl).length=Δ by rw[κ,hll];simp];refine Ac ?_;rw[←hll,AvM rfl,show Bh l.length 3 (Ag eP (l.map AR))=l.map λp=>eP (AR p) by
  have:=CG Az (l.map AR);rw[AtP,Awd]at this;exact this]
 refine Aa g ?_;rfl
theorem ZG{n k:Nat}{t:Tm}(ht:TmB n k t)(hn:n<=1000000)(hk:k+n<=300000000)(hs:∀ z:Zi,Lz 1000000000 z->D.ask (.fn 64) [.agg (eZ z)] []=Θ (iv (Ck (zv z)),[])){tl tl':List AV}{b2:Bool}{xs2:List (List AV)}
  (hPn:D.ask (.fn 62) [.agg (eT t)] []=Θ (.agg [.sl 0 0 (Ba t.lf.ps).length 3,bv (AD (zv t.k)).neg,eN (AD (zv t.k)).abs],[.set (δ (Ag eP ((Ba t.lf.ps).map AR)++tl) Δ Δ)]))
  (hPo:D.ask (.fn 62) [.agg [.sl 0 0 (Ba t.lf.ps).length 3,bv (AD (zv t.k)).neg,.ls ((AD (zv t.k)).abs.map eL)]] [δ (Ag eP ((Ba t.lf.ps).map AR)++tl) Δ Δ]=Θ (.agg [.sl 1 0 (Ba t.lf.ps).length 3,bv b2,.ls xs2],[.keep,.set (δ (Ag eP ((Ba t.lf.ps).map AR)++tl') Δ Δ)])) :
  D.ask (.fn 65) [.agg (eT t)] []=Θ (.tup [.agg (eT (FD t)),.agg (eZ (AD (CQ t:Int)))],[]):=by
 have hll:=Gu t.lf.ps;have hl2:=ht.lb.len;have hci:=WL ht;have hlI:∀ p∈Ba t.lf.ps,InB 300000000 p.2:=λp hp=>by
  rw[←JQ]at hp;obtain⟨v,_,rfl⟩:=Auw.1 hp;exact(Wz ht v).mono hk
 have gc:=S3 Ks W (l:=Ba t.lf.ps) hPo (by omega) (λp hp=>(hlI p hp).mono (by omega));have hki:InB 300000000 (zv t.k):=ht.k.inb.mono (by omega);have gs:=hs (AD (CQ t:Int)) (hci.lz.mono (by omega));rw[Bm]at gs;have hch:∀(f:Int × Int->Pt) (tl:List AV),Bh (Ba t.lf.ps).length 3 (ο ((Ba t.lf.ps).length*3) (Ag eP ((Ba t.lf.ps).map f)++tl))=((Ba t.lf.ps).map f).map eP:=λf tl=>by
  have h:(Ag eP ((Ba t.lf.ps).map f)).length=(Ba t.lf.ps).length*3:=by rw[AT Az,AtP]
  have:=CG Az ((Ba t.lf.ps).map f);rw[AtP]at this;rw[←h,AvM rfl,this]
 have hbl:∀(f:Int × Int->Pt) (tl:List AV),AtG (0+(Ba t.lf.ps).length*3) (Ag eP ((Ba t.lf.ps).map f)++tl).length=Δ:=λf tl=>by
  rw[κ,AT Az,AtP];simp
 refine Aw Ks TK (ArN ..) ?_;refine Aa hPn ?_;simp only[eN,ND,DK,Ab];refine Aa gc ?_;rw[show Rz 0 (Ba t.lf.ps)=CQ t from rfl];simp only[eZ,eN,DX,B7,CP,Cj,Dr,ET,B1,BF,Pp,MQ,DK];refine Aa gs ?_;simp only[GH,BF,DK];rw[hbl,hch];unfold FD
 by_cases h0:CQ t=0
 .rw[if_pos h0,h0]
  refine AO ?_ (by decide);refine Ac ?_;rfl
 .rw[if_neg h0]
  refine Aq ?_ (by unfold Ck;rw[if_neg (by omega),if_pos (by omega)];decide);have hdv:∀ p∈Ba t.lf.ps,InB 300000000 p.2/\(CQ t:Int) ∣ p.2:=λp hp=>⟨hlI p hp,Int.natAbs_dvd_natAbs.1 (by rw[AvV];exact(Ky (Ba t.lf.ps) 0).2 p hp)⟩
  have g:=AnP Ks W (CQ t:Int) (hci.mono (by omega)) (by omega) [] Φ [] Φ [] (AD (zv t.k)).neg ((AD (zv t.k)).abs.map eL) (Ba t.lf.ps).length (by omega) tl (Ba t.lf.ps) [] (by simp) hdv;rw[show Ag eP ([]:List Pt)=[] from rfl,AtZ,AtZ]at g;have gk:=W.div (AD (zv t.k)) (AD (CQ t:Int)) (hki.lz.mono (by omega)) (hci.lz.mono (by omega));rw[Bm,Bm,if_neg (by omega)]at gk;refine Aa g ?_;simp only[eZ,eN,ND,DK,Ab];refine Aa gk ?_;simp only[eZ,eN,DX,B7,CP,Cj,Dr,ET,B1,BF,DK];rw[hbl,hch];refine Ac ?_;rfl
end
section
variable {D:Orc} (Kt:Knows M0 UH D) (Z:ZF D) (hcp:∀{z:Zi},Lz 1000000000 z->D.ask (.fn 138) [.agg (eZ z)] []=Θ (.agg (eZ (AD (zv z))),[]))
include Z
include Kt hcp in
theorem QF{k:Nat}(ps:List Pt)(hl:ps.length<=1000000)(hk:k+ps.length<=900000000)(hz:∀ p∈ps,Lz k p.z)(r0:List (List AV))(r1:Bool)(r2:List (List AV))(k1:Bool)(k2:List (List AV)):∀(m i:Nat) (s:List (Int × Int)),ps.length-i=m->i<=ps.length->s.length<=i->(∀ q∈s,InB (k+i) q.2)->
  D.ask (.lp 62 0) [.ptr 0 0,.ptr 1 0,.ls (ps.map eP),iv (ps.length:Int),iv (i:Int)] [⟨[.ls r0,bv r1,.ls r2],Δ,Φ⟩,⟨[.sl 2 0 (s.map AR).reverse.length 3,bv k1,.ls k2],Δ,Φ⟩,Fx (s.map AR).reverse]
   = Θ (.tup [iv 0,.ptr 0 0,.ptr 1 0],[.set ⟨[.ls r0,bv r1,.ls r2],Δ,Φ⟩,.set ⟨[.sl 3 0 ((((ps.drop i).map pv).foldl C1 s).map AR).reverse.length 3,bv k1,.ls k2],Δ,Φ⟩,.del,.set (Fx ((((ps.drop i).map pv).foldl C1 s).map AR).reverse)]):=by
 intro m
 induction m with
 |zero=>
  intro i s hm hi hs hb;rw[AtM (by omega),AuY,List.foldl_nil];refine Ay Kt Oq (WY ..) ?_;exact Ai rfl
 |succ m ih0=>
  intro i s hm hi hs hb;have h1:i<ps.length:=by omega
  have hzk:=hz ps[i] (At1 h1);have hzi:=hzk.mono (show k<=1000000000 by omega);rw[ε h1,At5,Avr];have ih:=ih0 (i+1) (C1 s (pv ps[i])) (by omega) (by omega) (by have:=HT s (pv ps[i]);omega) (HQ hb (hzk.inb.mono (show k<=k+i by omega)));refine Ay Kt Oq (WY ..) ?_;refine Al ?_;rw[Au,Ax (ξ h1)];simp only[eP,eN,ND,DK,Ab];generalize hS:((ps.drop (i+1)).map pv).foldl C1 (C1 s (pv ps[i]))=S at ih ⊢
  by_cases hneg:ps[i].v<0
  .have e:C1 s (pv ps[i])=s:=by
    have hn:(pv ps[i]).1<0:=hneg
    cases s with
    |nil=>rw[EF,if_pos hn]
    |cons q r=>rw[DR,if_pos hn]
   rw[e]at ih;refine Al ?_ hneg;rw[BQ (by omega)];refine Aa ih ?_;rfl
  have hn:¬(pv ps[i]).1<0:=hneg;refine Ai ?_ hneg
  cases s with
  |nil=>
   rw[EF,if_neg hn]at ih;refine Cn ?_ (by decide);obtain⟨o,ho0⟩:∃ o:List Pt,o=[]:=⟨_,rfl⟩;have eo:(([pv ps[i]].map AR).reverse)=o++[AR (pv ps[i])]:=by rw[ho0];rfl
   rw[eo]at ih;have ho:o.length<=i:=by rw[ho0];exact At7 _
   rw[show ((([]:List (Int × Int)).map AR).reverse)=o from ho0.symm];have hf:Bf (o.length+1) 40=Δ:=AJ (by omega) (by omega);have hb1:AtG (0+o.length*3) (Ag eP o).length=Δ:=AL Az o (by omega);have e3:AtD 0 (ο (0+o.length*3) (Ag eP o))++[iv ps[i].v,bv (AD (zv ps[i].z)).neg,eN (AD (zv ps[i].z)).abs]=Ag eP (o++[AR (pv ps[i])]):=by
    rw[Aty,Bc Az o (by omega)];exact Bg eP o (AR (pv ps[i]))
   refine Aa (hcp hzi) ?_;simp only[eZ,eN,ND,DK,Ab]at e3 ⊢;rw[hf];refine Ac ?_;rw[hb1];refine Ac ?_;rw[e3,BQ (by omega)];rw[κ,AtT]at ih;refine Aa ih ?_;rfl
  |cons q r=>
   have eo:(((q::r).map AR).reverse)=(r.map AR).reverse++[AR q]:=by simp
   have hq:=hb q (AtL ..);rw[eo];rw[DR,if_neg hn]at ih;have hro:(r.map AR).reverse.length<=i:=by simp at hs ⊢;omega
   by_cases heq:q.1=(pv ps[i]).1
   .rw[if_pos heq,At5,Av1]at ih
    generalize (r.map AR).reverse=o at hro ih ⊢;have e1:Af.sub .i64 (((o++[AR q]).length:Nat):Int) 1=((o.length:Nat):Int):=by
     rw[κ,AtT];exact Ph (by omega)
    have hlt:o.length<(o++[AR q]).length:=by simp
    have ga:=Z.add (AD q.2) ps[i].z (hq.lz.mono (by omega)) (hzk.mono (by omega));rw[Bm]at ga;have sp:=Aqr o (AR q) (AD (q.2+zv ps[i].z));rw[e1];refine BV ?_;rw[Au,AY hlt];refine Ac ?_;refine(AiJ o (AR q) _).trans ?_;simp only[ND,DK,Ab];refine AO ?_ (show (AR q).v=ps[i].v from heq);rw[Au,AY hlt];refine Ac ?_;refine(Aqm o (AR q) _).trans ?_;simp only[eN,ND,DK,Ab];refine Aa ga ?_;simp only[eZ,eN,ND,DK,Ab]at sp ⊢;rw[Au,AY hlt];refine Ac ?_;rw[show AtG (0+o.length*3+1+2) (Ag eP (o++[AR q])).length=Δ by rw[AT Az];simp;omega];refine Ac ?_;rw[sp,BQ (by omega)];have el:(o++[AR q]).length=(o++[AR (q.1,q.2+(pv ps[i]).2)]).length:=by simp
    rw[el];refine Aa ih ?_;rfl
   .rw[if_neg heq,At5,Av1,eo]at ih
    have hlen:((r.map AR).reverse++[AR q]).length<=i:=by simp at hs ⊢;omega
    have e1:Af.sub .i64 ((((r.map AR).reverse++[AR q]).length:Nat):Int) 1=(((r.map AR).reverse.length:Nat):Int):=by
     rw[κ,AtT];exact Ph (by omega)
    have hlt:(r.map AR).reverse.length<((r.map AR).reverse++[AR q]).length:=by simp
    rw[e1];refine BV ?_;rw[Au,AY hlt];refine Ac ?_;refine(AiJ _ (AR q) _).trans ?_;simp only[ND,DK,Ab];refine Aq ?_ (show ¬(AR q).v=ps[i].v from heq);generalize (r.map AR).reverse++[AR q]=o at hlen ih ⊢;have ho:=hlen;have hf:Bf (o.length+1) 40=Δ:=AJ (by omega) (by omega);have hb1:AtG (0+o.length*3) (Ag eP o).length=Δ:=AL Az o (by omega);have e3:AtD 0 (ο (0+o.length*3) (Ag eP o))++[iv ps[i].v,bv (AD (zv ps[i].z)).neg,eN (AD (zv ps[i].z)).abs]=Ag eP (o++[AR (pv ps[i])]):=by
     rw[Aty,Bc Az o (by omega)];exact Bg eP o (AR (pv ps[i]))
    refine Aa (hcp hzi) ?_;simp only[eZ,eN,ND,DK,Ab]at e3 ⊢;rw[hf];refine Ac ?_;rw[hb1];refine Ac ?_;rw[e3,BQ (by omega)];rw[κ,AtT]at ih;refine Aa ih ?_;rfl
end
section
variable {D:Orc} (Kt:Knows M0 UH D) (Z:ZF D) (hcp:∀{z:Zi},Lz 1000000000 z->D.ask (.fn 138) [.agg (eZ z)] []=Θ (.agg (eZ (AD (zv z))),[]))
 (hsort:∀ l:List Pt,l.length<=1000000000->∃ r:List Pt,D.ask (.fn 136) [.sl 0 0 l.length 3,Fw] [Fx l]=Θ (.tup [],[.set (Fx r)])/\r.length=l.length/\r.Perm l/\Srt Pt.v r 0 r.length)
 (hdel:∀ l:List Pt,l.length<=1000000000->(∀ p∈l,Lz 1000000000 p.z)->∃ cells:List AV,D.ask (.fn 140) [.sl 0 0 l.length 3,fnZ] [δ (Ag eP l) Δ Δ]
   = Θ (.sl 0 0 (l.filter λp=>!decide (zv p.z=0)).length 3,[.set (δ cells Δ Δ)])
   ∧ cells.take ((l.filter λp=>!decide (zv p.z=0)).length*3)=Ag eP (l.filter λp=>!decide (zv p.z=0))/\(l.filter λp=>!decide (zv p.z=0)).length*3<=cells.length)
include Kt Z hcp hsort hdel
theorem Zd{n k:Nat}{t:Tm}(h:TmB n k t)(hn:n<=1000000)(hk:k+n<=900000000)(gc:D.ask (.fn 135) [.ls (t.ps.map eP)] []=Θ (.sl 0 0 t.ps.length 3,[.set (Fx t.ps)])):∃ tl:List AV,D.ask (.fn 62) [.agg (eT t)] []=Θ (.agg [.sl 0 0 (Ba t.lf.ps).length 3,bv (AD (zv t.k)).neg,eN (AD (zv t.k)).abs],[.set (δ (Ag eP ((Ba t.lf.ps).map AR)++tl) Δ Δ)]):=by
 obtain⟨ps,kz⟩:=t;have hlen:ps.length<=n:=h.len;obtain⟨r,gs,gr,gp,go⟩:=hsort ps (by omega);have gk:=hcp (h.k.mono (show k<=1000000000 by omega));have hzr:∀ p∈r,Lz k p.z:=λp hp=>h.ps p (gp.mem_iff.1 hp)
 have gl:=QF Kt Z hcp r (k:=k) (by omega) (by omega) hzr [] Φ [] (AD (zv kz)).neg ((AD (zv kz)).abs.map eL) _ 0 [] rfl (by omega) (by simp) (by simp);rw[Aty]at gl;have hsrt:(r.map pv).Pairwise λa b=>a.1<=b.1:=by
  rw[Av0];exact G7 Pt.v go
 have hpl:=RC hsrt (gp.map pv);generalize hS:(r.map pv).foldl C1 []=S at gl hpl;have hsb:∀ p∈((S.map AR).reverse),Lz 1000000000 p.z:=by
  have key:∀(t s:List (Int × Int)) (j:Nat),(∀ q∈s,InB (k+j) q.2)->(∀ q∈t,InB k q.2)->∀ q∈t.foldl C1 s,InB (k+j+t.length) q.2:=by
   intro t
   induction t with
   |nil=>intro s j hs _ q hq;exact hs q hq
   |cons p t ih=>
    intro s j hs ht q hq;have:=ih (C1 s p) (j+1) (HQ hs ((ht p (AtL ..)).mono (show k<=k+j by omega))) (λq hq=>ht q (AtF _ hq)) q hq;rw[γ];exact this.mono (by omega)
  intro p hp;rw[Av8,Auw]at hp;obtain⟨q,hq,rfl⟩:=hp;have:=key (r.map pv) [] 0 (by simp) (λq hq=>by
   rw[Auw]at hq;obtain⟨p,hp,rfl⟩:=hq;exact(hzr p hp).inb) q (by rw[hS];exact hq)
  rw[AtP]at this;exact(this.lz).mono (by omega)
 have hSl:S.length<=1000000:=by
  have key:∀(t s:List (Int × Int)),(t.foldl C1 s).length<=s.length+t.length:=by
   intro t
   induction t with
   |nil=>intro s;simp
   |cons p t ih=>
    intro s;have:=ih (C1 s p);have h2:=HT s p;rw[Avr,γ];omega
  have:=key (r.map pv) [];rw[hS,AtP]at this;simp at this;omega
 obtain⟨cells,gd,gt,gle⟩:=hdel (S.map AR).reverse (by simp;omega) hsb;have hfin:((S.map AR).reverse).filter (λp=>!decide (zv p.z=0))=(Ba (ps.map pv)).map AR:=by
  rw[←hpl,←Axc,Axg]
  congr 1
  refine Aw2 λq _=>?_
  show (!decide (zv (AD q.2)=0))=_
  rw[Bm]
 rw[hfin]at gd gt gle;have hce:cells=Ag eP ((Ba (ps.map pv)).map AR)++cells.drop (((Ba (ps.map pv)).map AR).length*3):=by
  rw[←gt,AuB]
 refine⟨cells.drop (((Ba (ps.map pv)).map AR).length*3),?_⟩
 show _=Θ (ψ [.sl 0 0 (Ba (ps.map pv)).length 3,bv (AD (zv kz)).neg,eN (AD (zv kz)).abs],([.set (δ (Ag eP ((Ba (ps.map pv)).map AR)++cells.drop (((Ba (ps.map pv)).map AR).length*3)) Δ Δ)]:List BO))
 rw[←hce];refine Aw Kt Oq (AoR ..) ?_;refine Aa gc ?_;simp only[ND,DK,Ab];refine Aa gs ?_;simp only[ND,DK,Ab];refine Aa gk ?_;simp only[eZ,eN,ND,DK,Ab];rw[show AtG (0+ps.length*3) (Ag eP r).length=Δ from AL Az r (by omega)];refine Ac ?_;rw[Bp Az r (by omega),←gr];refine Aa gl ?_;simp only[ND,DK,Ab];refine Aa gd ?_;simp only[AtP,ND,DK,Ab]
theorem Ze{n k:Nat}{t:Tm}(h:TmB n k t)(hn:n<=1000000)(hk:k+n<=900000000){cs:List AV}(gc:D.ask (.fn 135) [.sl 0 0 t.ps.length 3] [δ cs Δ Δ]=Θ (.sl 1 0 t.ps.length 3,[.keep,.set (Fx t.ps)])):∃ tl:List AV,D.ask (.fn 62) [.agg [.sl 0 0 t.ps.length 3,bv t.k.neg,eN t.k.abs]] [δ cs Δ Δ]=Θ (.agg [.sl 1 0 (Ba t.lf.ps).length 3,bv (AD (zv t.k)).neg,eN (AD (zv t.k)).abs],[.keep,.set (δ (Ag eP ((Ba t.lf.ps).map AR)++tl) Δ Δ)]):=by
 obtain⟨ps,kz⟩:=t;have hlen:ps.length<=n:=h.len;obtain⟨r,gs,gr,gp,go⟩:=hsort ps (by omega);have gk:=hcp (h.k.mono (show k<=1000000000 by omega));have hzr:∀ p∈r,Lz k p.z:=λp hp=>h.ps p (gp.mem_iff.1 hp)
 have gl:=QF Kt Z hcp r (k:=k) (by omega) (by omega) hzr [] Φ [] (AD (zv kz)).neg ((AD (zv kz)).abs.map eL) _ 0 [] rfl (by omega) (by simp) (by simp);rw[Aty]at gl;have hsrt:(r.map pv).Pairwise λa b=>a.1<=b.1:=by
  rw[Av0];exact G7 Pt.v go
 have hpl:=RC hsrt (gp.map pv);generalize hS:(r.map pv).foldl C1 []=S at gl hpl;have hsb:∀ p∈((S.map AR).reverse),Lz 1000000000 p.z:=by
  have key:∀(t s:List (Int × Int)) (j:Nat),(∀ q∈s,InB (k+j) q.2)->(∀ q∈t,InB k q.2)->∀ q∈t.foldl C1 s,InB (k+j+t.length) q.2:=by
   intro t
   induction t with
   |nil=>intro s j hs _ q hq;exact hs q hq
   |cons p t ih=>
    intro s j hs ht q hq;have:=ih (C1 s p) (j+1) (HQ hs ((ht p (AtL ..)).mono (show k<=k+j by omega))) (λq hq=>ht q (AtF _ hq)) q hq;rw[γ];exact this.mono (by omega)
  intro p hp;rw[Av8,Auw]at hp;obtain⟨q,hq,rfl⟩:=hp;have:=key (r.map pv) [] 0 (by simp) (λq hq=>by
   rw[Auw]at hq;obtain⟨p,hp,rfl⟩:=hq;exact(hzr p hp).inb) q (by rw[hS];exact hq)
  rw[AtP]at this;exact(this.lz).mono (by omega)
 have hSl:S.length<=1000000:=by
  have key:∀(t s:List (Int × Int)),(t.foldl C1 s).length<=s.length+t.length:=by
   intro t
   induction t with
   |nil=>intro s;simp
   |cons p t ih=>
    intro s;have:=ih (C1 s p);have h2:=HT s p;rw[Avr,γ];omega
  have:=key (r.map pv) [];rw[hS,AtP]at this;simp at this;omega
 obtain⟨cells,gd,gt,gle⟩:=hdel (S.map AR).reverse (by simp;omega) hsb;have hfin:((S.map AR).reverse).filter (λp=>!decide (zv p.z=0))=(Ba (ps.map pv)).map AR:=by
  rw[←hpl,←Axc,Axg]
  congr 1
  refine Aw2 λq _=>?_
  show (!decide (zv (AD q.2)=0))=_
  rw[Bm]
 rw[hfin]at gd gt gle;have hce:cells=Ag eP ((Ba (ps.map pv)).map AR)++cells.drop (((Ba (ps.map pv)).map AR).length*3):=by
  rw[←gt,AuB]
 refine⟨cells.drop (((Ba (ps.map pv)).map AR).length*3),?_⟩
 show _=Θ (ψ [.sl 1 0 (Ba (ps.map pv)).length 3,bv (AD (zv kz)).neg,eN (AD (zv kz)).abs],([.keep,.set (δ (Ag eP ((Ba (ps.map pv)).map AR)++cells.drop (((Ba (ps.map pv)).map AR).length*3)) Δ Δ)]:List BO))
 rw[←hce];refine Aw Kt AbL (AoS ..) ?_;refine Aa gc ?_;simp only[ND,DK,Ab];refine Aa gs ?_;simp only[ND,DK,Ab];refine Aa gk ?_;simp only[eZ,eN,ND,DK,Ab];rw[show AtG (0+ps.length*3) (Ag eP r).length=Δ from AL Az r (by omega)];refine Ac ?_;rw[Bp Az r (by omega),←gr];refine Aa gl ?_;simp only[ND,DK,Ab];refine Aa gd ?_;simp only[AtP,ND,DK,Ab]
end
theorem S1:CloneF DTk where
 nat l h:=Z4 (Lp h)
theorem SI:ZF DTk:=Alm Aks Akx S1
theorem AlW:DivF DTk where
 div _ _ ha hal hb hbl:=Ajn (Ap5 ha hal hb hbl)
theorem An4:ZdF DTk:=All Aks Akx S1 Apz AlW
theorem Ut:SeatOk ι Bz BW:=ZB ⟨E5,Jy,(Ao0 _),trivial⟩
theorem YJ(f:Nat):Be (Bk ι f) ((A1 Af BW).ask (.fn f)):=GC Ut f
theorem Aou(l:List Pt)(hl:l.length<=1000000000)(hz:∀ p∈l,Lz 1000000000 p.z):∃ cells:List AV,DTk.ask (.fn 140) [.sl 0 0 l.length 3,fnZ] [δ (Ag eP l) Δ Δ]
   = Θ (.sl 0 0 (l.filter λp=>!decide (zv p.z=0)).length 3,[.set (δ cells Δ Δ)])
   ∧ cells.take ((l.filter λp=>!decide (zv p.z=0)).length*3)=Ag eP (l.filter λp=>!decide (zv p.z=0))/\(l.filter λp=>!decide (zv p.z=0)).length*3<=cells.length:=
 AaG AbT (λp=>decide (zv p.z=0)) l hl (λp hp=>Qn AbT SI (hz p hp))
