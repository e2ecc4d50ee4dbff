/-
  Formulas of few parts. No program in sight.
  What the reference's Size and Few of formulas come to.
  When formulas hold: the program and the reference; layer 5's law LogicHolds, over D.
-/
import Derived.Test.YtpncilciembjdaaGreatDoorABT
import Derived.Test.YtpncilciembjdaaGreatDoorABR
set_option linter.unusedSectionVars false
set_option linter.unusedSimpArgs false
set_option linter.unusedVariables false
namespace Go.Proofs.YtpncilciembjdaaGreatDoor
open Go.RowKit

mutual
def sizF:Fm->Int->Int
 |.mk k _ _ ks,lim=>if k=4\/k=5 then sizFs ks lim 1 else if k=3 then sizF1 ks lim else 1
def sizF1:List Fm->Int->Int
 |[],_=>1
 |x::_,lim=>if 1<=lim then 1+sizF x (lim-1) else 1
def sizFs:List Fm->Int->Int->Int
 |[],_,n=>n
 |x::r,lim,n=>if n<=lim then sizFs r lim (n+sizF x (lim-n)) else n
end
theorem sizF_kids(x:Fm)(lim:Int):sizF x lim=sizFs (kidsF x) lim 1:=by
 obtain⟨k,t,e,ks⟩:=x
 rw[sizF,kidsF]
 by_cases h:k=4\/k=5
 .rw[if_pos h,if_pos h]
 rw[if_neg h,if_neg h]
 by_cases h3:k=3
 .rw[if_pos h3,if_pos h3]
  cases ks with
  |nil=>rfl
  |cons y r=>
   rw[sizF1,List.take_succ_cons,List.take_zero,sizFs]
   by_cases h1:1<=lim
   .rw[if_pos h1,if_pos h1,sizFs]
   .rw[if_neg h1,if_neg h1]
 .rw[if_neg h3,if_neg h3]
  rfl
mutual
theorem sizF_bd:∀(x:Fm) (lim:Int),1<=sizF x lim/\(sizF x lim<=1\/sizF x lim<=lim+1)
 |.mk k _ _ ks,lim=>by
  rw[sizF]
  by_cases h:k=4\/k=5
  .rw[if_pos h]
   have:=sizFs_bd ks lim 1
   omega
  rw[if_neg h]
  by_cases h3:k=3
  .rw[if_pos h3]
   exact sizF1_bd ks lim
  .rw[if_neg h3]
   omega
theorem sizF1_bd:∀(l:List Fm) (lim:Int),1<=sizF1 l lim/\(sizF1 l lim<=1\/sizF1 l lim<=lim+1)
 |[],lim=>by rw[sizF1];omega
 |x::_,lim=>by
  rw[sizF1]
  by_cases h:1<=lim
  .rw[if_pos h]
   have:=sizF_bd x (lim-1)
   omega
  .rw[if_neg h]
   omega
theorem sizFs_bd:∀(l:List Fm) (lim n:Int),n<=sizFs l lim n/\(sizFs l lim n<=n\/sizFs l lim n<=lim+1)
 |[],lim,n=>by rw[sizFs];omega
 |x::r,lim,n=>by
  rw[sizFs]
  by_cases h:n<=lim
  .rw[if_pos h]
   have h1:=sizF_bd x (lim-n)
   have h2:=sizFs_bd r lim (n+sizF x (lim-n))
   omega
  .rw[if_neg h]
   omega
end
theorem sizFs_in:∀(l:List Fm) (lim n:Int),sizFs l lim n<=lim->n+l.length<=lim/\∀ x∈l,∃ m,m<=lim-n/\sizF x m<=m
 |[],lim,n,h=>by rw[sizFs]at h;simpa using h
 |x::r,lim,n,h=>by
  rw[sizFs]at h
  by_cases h1:n<=lim
  .rw[if_pos h1]at h
   have h2:=sizF_bd x (lim-n)
   obtain⟨h3,h4⟩:=sizFs_in r lim _ h
   rw[List.length_cons]
   refine⟨by omega,fun y hy=>?_⟩
   rcases List.mem_cons.1 hy with rfl|hy
   .exact⟨lim-n,Int.le_refl _,by omega⟩
   .obtain⟨m,h5,h6⟩:=h4 y hy
    exact⟨m,by omega,h6⟩
  .rw[if_neg h1]at h
   omega
theorem kidsC_mem{k:Int}{t:Tm}{e:Bool}{ks:List Fm}{x:Fm}(h:x∈kidsF (.mk k t e ks)):x∈ks:=by
 rw[kidsF]at h
 by_cases h4:k=4\/k=5
 .rw[if_pos h4]at h;exact h
 rw[if_neg h4]at h
 by_cases h3:k=3
 .rw[if_pos h3]at h;exact List.mem_of_mem_take h
 .rw[if_neg h3]at h;cases h
mutual
def fewF(L:Int):Fm->Bool
 |.mk k t e ks=>(if k=2 then okRl L (t,e) else true)&&(if k=4\/k=5 then fewFs L ks else if k=3 then fewF1 L ks else true)
def fewF1(L:Int):List Fm->Bool
 |[]=>true
 |x::_=>fewF L x
def fewFs(L:Int):List Fm->Bool
 |[]=>true
 |x::r=>fewF L x&&fewFs L r
end
theorem fewFs_all(L:Int):∀ l,fewFs L l=l.all (fewF L)
 |[]=>rfl
 |x::r=>by rw[fewFs,fewFs_all L r,List.all_cons]
theorem fewF_kids(L:Int)(k:Int)(t:Tm)(e:Bool)(ks:List Fm):fewF L (.mk k t e ks)=((if k=2 then okRl L (t,e) else true)&&(kidsF (.mk k t e ks)).all (fewF L)):=by
 rw[fewF,kidsF]
 by_cases h:k=4\/k=5
 .rw[if_pos h,if_pos h,fewFs_all]
 rw[if_neg h,if_neg h]
 by_cases h3:k=3
 .rw[if_pos h3,if_pos h3]
  cases ks with
  |nil=>rfl
  |cons y r=>rw[fewF1,List.take_succ_cons,List.take_zero,List.all_cons,List.all_nil,Bool.and_true]
 .rw[if_neg h3,if_neg h3]
  rfl
inductive WzF:Fm->Prop
 |mk {k:Int} {t:Tm} {e:Bool} {ks:List Fm} (ht:LmT t) (hl:ks.length<4611686018427387904) (h:∀ x∈ks,WzF x):WzF (.mk k t e ks)
inductive FC (n k:Nat):Fm->Prop
 |mk {kind:Int} {t:Tm} {e:Bool} {ks:List Fm} (ht:kind=2->TmB n k t) (hl:(kidsF (.mk kind t e ks)).length<=1000000) (h:∀ x∈kidsF (.mk kind t e ks),FC n k x):FC n k (.mk kind t e ks)
theorem fc_of(L:Nat):∀(N:Nat) (x:Fm) (lim:Int),SizeOf.sizeOf x<N->lim<=1000000->sizF x lim<=lim->fewF (L:Int) x=true->WzF x->FC 20 L x:=by
 intro N
 induction N with
 |zero=>intro x lim h;omega
 |succ N ih=>
  intro x lim hN hlim hs hf hw
  rw[sizF_kids]at hs
  obtain⟨h1,h2⟩:=sizFs_in _ lim 1 hs
  obtain⟨ht,hl0,hk⟩:=hw
  rename_i k t e ks
  rw[fewF_kids,Bool.and_eq_true,List.all_eq_true]at hf
  refine .mk (fun h=>?_) (by omega) fun y hy=>?_
  .have:=hf.1
   rw[if_pos h]at this
   exact ht.tmb this
  .obtain⟨m,h3,h4⟩:=h2 y hy
   have hm:=kidsC_mem hy
   exact ih y m (by have:=kid_size (k:=k) (t:=t) (e:=e) hm;omega) (by omega) h4 (hf.2 y hy) (hk y hm)
end Go.Proofs.YtpncilciembjdaaGreatDoor
namespace Go.Proofs.YtpncilciembjdaaGreatDoor
open Go.RowKit
section
variable {D:Orc} (Kk:Knows ownC tabRk D)
include Kk
theorem rkidsU_ok(x:Fm):D.ask (.fn 111) [.agg (eF x)] []=some (.ls ((kidsF x).map eF),[]):=by
 obtain⟨k,t,e,ks⟩:=x
 refine Kk.fn' (f:=111) (mf:=mf111) hn111 _ rfl ((e111 ..).trans ?_)
 rw[eFs_map,kidsF]
 by_cases h4:k=4
 .rw[if_pos (.inl h4)]
  exact br_eqT h4
 refine(br_eqF h4).trans ?_
 by_cases h5:k=5
 .rw[if_pos (.inr h5)]
  exact br_eqT h5
 refine(br_eqF h5).trans ?_
 rw[if_neg (by omega)]
 by_cases h3:k=3
 .rw[if_pos h3]
  refine(br_eqT h3).trans ?_
  rw[lenR_map]
  cases ks with
  |nil=>rfl
  |cons y r=>
   refine(br_ltT (by rw[List.length_cons];omega)).trans ?_
   rw[show inB 0 1 (y::r).length=true by simp[inB],wideR_map (fun x=>by obtain⟨k,t,e,ks⟩:=x;rfl),takeR_eq,dropR_eq]
   rfl
 .rw[if_neg h3]
  exact br_eqF h3
variable (Kz:Knows ownC tabFz D)
include Kz
omit Kk in
theorem rsize_lp(ks:List Fm)(lim:Int)(hlim:-1000000<=lim/\lim<=1000000)(hl:ks.length<4611686018427387904)(g:∀ x∈ks,∀ m:Int,-1000000<=m->m<=1000000->D.ask (.fn 99) [.agg (eF x),iv m] []=some (iv (sizF x m),[])):∀(m i:Nat) (n:Int),ks.length-i=m->i<=ks.length->1<=n->n<=1000001->
  D.ask (.lp 99 0) [iv lim,iv n,.ls (ks.map eF),iv (i:Int)] []=some (.tup [iv 0,iv (sizFs (ks.drop i) lim n)],[]):=by
 intro m
 induction m with
 |zero=>
  intro i n hm hi h1 h2
  rw[List.drop_eq_nil_of_le (by omega),sizFs]
  refine Kz.lp' hn99 _ rfl (by kernel_rfl) ((e99_0 ..).trans ?_)
  rw[lenR_map]
  exact br_ltF (by omega)
 |succ m ih=>
  intro i n hm hi h1 h2
  have hlt:i<ks.length:=by omega
  rw[List.drop_eq_getElem_cons hlt,sizFs]
  refine Kz.lp' hn99 _ rfl (by kernel_rfl) ((e99_0 ..).trans ?_)
  rw[lenR_map]
  refine(br_ltT (by omega)).trans ?_
  by_cases hn:n<=lim
  .rw[if_pos hn]
   refine(br_leT hn).trans ?_
   rw[unI_n,nthK_some (List.getElem?_eq_getElem hlt)]
   have gy:=g ks[i] (List.getElem_mem hlt) (lim-n) (by omega) (by omega)
   have hb:=sizF_bd ks[i] (lim-n)
   revert gy hb
   generalize ks[i]=y
   obtain⟨yk,yt,ye,ys⟩:=y
   intro gy hb
   simp only[eF,eN,ND,DK,unFn_fn]at gy ⊢
   rw[r_sub (by omega) (by omega)]
   refine(askK_of gy _).trans ?_
   simp only[ND,DK,unFn_fn]
   rw[r_add (by omega) (by omega),add1 (by omega)]
   refine(askK_of (ih (i+1) _ (by omega) (by omega) (by omega) (by omega)) _).trans ?_
   rfl
  .rw[if_neg hn]
   exact br_leF hn
theorem rsize_ok:∀(N:Nat) (x:Fm),SizeOf.sizeOf x<N->WzF x->∀ lim:Int,-1000000<=lim->lim<=1000000->D.ask (.fn 99) [.agg (eF x),iv lim] []=some (iv (sizF x lim),[]):=by
 intro N
 induction N with
 |zero=>intro x h;omega
 |succ N ih=>
  intro x hN hw lim hlim hlim2
  have gk:=rkidsU_ok Kk x
  have hwk:(kidsF x).length<4611686018427387904/\∀ y∈kidsF x,SizeOf.sizeOf y<N/\WzF y:=by
   obtain⟨ht,hl,h⟩:=hw
   rename_i k t e ks
   refine⟨?_,fun y hy=>?_⟩
   .rw[kidsF]
    split
    .exact hl
    .split
     .rw[List.length_take];omega
     .simp
   .have hm:=kidsC_mem hy
    exact⟨by have:=kid_size (k:=k) (t:=t) (e:=e) hm;omega,h y hm⟩
  have gl:=rsize_lp Kz (kidsF x) lim ⟨hlim,hlim2⟩ hwk.1 (fun y hy m h1 h2=>ih y (hwk.2 y hy).1 (hwk.2 y hy).2 m h1 h2) _ 0 1 rfl (by omega) (by omega) (by omega)
  rw[List.drop_zero,←sizF_kids]at gl
  obtain⟨k,t,e,ks⟩:=x
  simp only[eF,eN]at gk ⊢
  refine Kz.fn' hn99 _ rfl ((e99 ..).trans ?_)
  refine(askK_of gk _).trans ?_
  simp only[ND,DK,unFn_fn]
  refine(askK_of gl _).trans ?_
  rfl
variable (Kw:Knows ownC tabFw D)
include Kw
omit Kk Kw in
theorem rfew_lp(ks:List Fm)(L:Int)(hl:ks.length<4611686018427387904)(g:∀ x∈ks,D.ask (.fn 100) [.agg (eF x),iv L] []=some (bv (fewF L x),[])):∀(m i:Nat),ks.length-i=m->i<=ks.length->
  D.ask (.lp 100 0) [iv L,.ls (ks.map eF),iv (i:Int)] []=some (if(ks.drop i).all (fewF L) then .tup [iv 0] else .tup [bv true,bv false],[]):=by
 intro m
 induction m with
 |zero=>
  intro i hm hi
  rw[List.drop_eq_nil_of_le (by omega),List.all_nil,if_pos rfl]
  refine Kz.lp' hn100 _ rfl (by kernel_rfl) ((e100_0 ..).trans ?_)
  rw[lenR_map]
  exact br_ltF (by omega)
 |succ m ih=>
  intro i hm hi
  have hlt:i<ks.length:=by omega
  rw[List.drop_eq_getElem_cons hlt,List.all_cons]
  refine Kz.lp' hn100 _ rfl (by kernel_rfl) ((e100_0 ..).trans ?_)
  rw[lenR_map]
  refine(br_ltT (by omega)).trans ?_
  rw[unI_n,nthK_some (List.getElem?_eq_getElem hlt)]
  have gy:=g ks[i] (List.getElem_mem hlt)
  revert gy
  generalize ks[i]=y
  obtain⟨yk,yt,ye,ys⟩:=y
  intro gy
  generalize hb:fewF L (.mk yk yt ye ys)=b at gy
  simp only[eF,eN,ND,DK,unFn_fn]at gy ⊢
  refine(askK_of gy _).trans ?_
  simp only[ND,DK,unFn_fn]
  cases b with
  |false=>rfl
  |true=>
   refine(br_t _ _).trans ?_
   rw[add1 (by omega),Bool.true_and]
   refine(askK_of (ih (i+1) (by omega) (by omega)) _).trans ?_
   cases (ks.drop (i+1)).all (fewF L)<;>rfl
theorem rfew_ok(L:Int):∀(N:Nat) (x:Fm),SizeOf.sizeOf x<N->WzF x->D.ask (.fn 100) [.agg (eF x),iv L] []=some (bv (fewF L x),[]):=by
 intro N
 induction N with
 |zero=>intro x h;omega
 |succ N ih=>
  intro x hN hw
  have gk:=rkidsU_ok Kk x
  have hwk:(kidsF x).length<4611686018427387904/\∀ y∈kidsF x,SizeOf.sizeOf y<N/\WzF y:=by
   obtain⟨ht,hl,h⟩:=hw
   rename_i k t e ks
   refine⟨?_,fun y hy=>?_⟩
   .rw[kidsF]
    split
    .exact hl
    .split
     .rw[List.length_take];omega
     .simp
   .have hm:=kidsC_mem hy
    exact⟨by have:=kid_size (k:=k) (t:=t) (e:=e) hm;omega,h y hm⟩
  have gl:=rfew_lp Kz (kidsF x) L hwk.1 (fun y hy=>ih y (hwk.2 y hy).1 (hwk.2 y hy).2) _ 0 rfl (by omega)
  rw[List.drop_zero]at gl
  obtain⟨k,t,e,ks⟩:=x
  rw[fewF_kids]
  generalize (kidsF (.mk k t e ks)).all (fewF L)=b at gl
  have gf:=few_ok Kw [(t,e)] 1 L (by omega)
  rw[List.map_cons,List.map_nil,List.all_cons,List.all_nil,Bool.and_true,show (decide ([(t,e)].length<=1))=true from rfl,Bool.true_and]at gf
  obtain⟨ps,kz⟩:=t
  simp only[eRl_mk,eF,eN]at gk gf gl ⊢
  refine Kz.fn' hn100 _ rfl ((e100 ..).trans ?_)
  by_cases h2:k=2
  .rw[if_pos h2]
   refine(br_eqT h2).trans ?_
   refine(askK_of gf _).trans ?_
   simp only[ND,DK,unFn_fn]
   cases okRl L (⟨ps,kz⟩,e) with
   |false=>rfl
   |true=>
    refine(br_t _ _).trans ?_
    refine(askK_of gk _).trans ?_
    simp only[ND,DK,unFn_fn]
    refine(askK_of gl _).trans ?_
    cases b<;>rfl
  .rw[if_neg h2]
   refine(br_eqF h2).trans ?_
   refine(askK_of gk _).trans ?_
   simp only[ND,DK,unFn_fn]
   refine(askK_of gl _).trans ?_
   cases b<;>rfl
theorem rFew_ok(x:Fm)(hw:WzF x)(most L:Int)(h1:-1000000<=most)(h2:most<=1000000):D.ask (.fn 35) [.agg (eF x),iv most,iv L] []=some (bv (decide (sizF x most<=most)&&fewF L x),[]):=by
 have gs:=rsize_ok Kk Kz _ x (Nat.lt_succ_self _) hw most h1 h2
 have gf:=rfew_ok Kk Kz Kw L _ x (Nat.lt_succ_self _) hw
 obtain⟨k,t,e,ks⟩:=x
 generalize hs:sizF (.mk k t e ks) most=s at gs
 generalize hb:fewF L (.mk k t e ks)=b at gf
 simp only[eF,eN]at gs gf ⊢
 refine Kz.fn' hn35 _ rfl ((e35 ..).trans ?_)
 refine(askK_of gs _).trans ?_
 simp only[ND,DK,unFn_fn]
 by_cases h:s<=most
 .rw[decide_eq_true h,Bool.true_and]
  refine(br_ltF (by omega)).trans ?_
  refine(askK_of gf _).trans ?_
  cases b<;>rfl
 .rw[decide_eq_false h]
  exact br_ltT (by omega)
end
end Go.Proofs.YtpncilciembjdaaGreatDoor
namespace Go.Proofs.YtpncilciembjdaaGreatDoor
open Go.RowKit

def idxK(h:Fm->Bool):List Fm->Nat->AV
 |[],_=>.tup [iv 0]
 |y::r,i=>if h y then .tup [bv true,iv (i:Int)] else idxK h r (i+1)
def idxI(h:Fm->Bool):List Fm->Nat->Int
 |[],_=>-1
 |y::r,i=>if h y then(i:Int) else idxI h r (i+1)
theorem idxK_or(h:Fm->Bool):∀(l:List Fm) (i:Nat),(idxK h l i=.tup [iv 0]/\idxI h l i=-1)\/∃ j:Nat,idxK h l i=.tup [bv true,iv (j:Int)]/\idxI h l i=(j:Int)
 |[],i=>.inl ⟨rfl,rfl⟩
 |y::r,i=>by
  rw[idxK,idxI]
  by_cases e:h y=true
  .rw[if_pos e,if_pos e];exact .inr ⟨i,rfl,rfl⟩
  .rw[if_neg e,if_neg e];exact idxK_or h r (i+1)
theorem idxI_any(h:Fm->Bool):∀(l:List Fm) (i:Nat),decide (0<=idxI h l i)=l.any h
 |[],i=>rfl
 |y::r,i=>by
  rw[idxI,List.any_cons]
  by_cases e:h y=true
  .rw[if_pos e,e,Bool.true_or]
   exact decide_eq_true (by omega)
  .rw[if_neg e,Bool.eq_false_iff.2 e,Bool.false_or]
   exact idxI_any h r (i+1)
theorem holdsO_any(f:Int->Int):∀ l,holdsO f l=l.any (holdsF f)
 |[]=>rfl
 |x::r=>by rw[holdsO,holdsO_any f r,List.any_cons]
theorem holdsA_any(f:Int->Int):∀ l,holdsA f l = !l.any fun x=>!holdsF f x
 |[]=>rfl
 |x::r=>by rw[holdsA,holdsA_any f r,List.any_cons,Bool.not_or,Bool.not_not]
abbrev bkL(vals:List (List AV)):ABlk:=⟨[.ls vals],true,false⟩
abbrev bkH:ABlk:=⟨[.fn (.func 101) [] [.ptr 1 0]],true,false⟩
section
variable {D:Orc} (Kl:Knows ownC tabLw D)
include Kl
theorem cfa_lp(vals:List (List AV))(h:Fm->Bool)(ks:List Fm)(hl:ks.length<=1000000)(g:∀ y∈ks,D.ask (.fn 101) [.agg (eF y),.ptr 0 0] [bkL vals]=some (bv (h y),[.keep])):∀(m i:Nat),ks.length-i=m->i<=ks.length->
  D.ask (.lp 171 0) [.ls (ks.map eF),.fn (.func 101) [] [.ptr 0 0],iv (ks.length:Int),iv (i:Int)] [bkL vals]=some (idxK h (ks.drop i) i,[.keep]):=by
 intro m
 induction m with
 |zero=>
  intro i hm hi
  rw[List.drop_eq_nil_of_le (by omega),idxK]
  refine Kl.lp' hn171a _ rfl (by kernel_rfl) ((e171a_0 ..).trans ?_)
  exact br_ltF (by omega)
 |succ m ih=>
  intro i hm hi
  have hlt:i<ks.length:=by omega
  rw[List.drop_eq_getElem_cons hlt,idxK]
  refine Kl.lp' hn171a _ rfl (by kernel_rfl) ((e171a_0 ..).trans ?_)
  refine(br_ltT (by omega)).trans ?_
  rw[unI_n,nthK_some (List.getElem?_eq_getElem hlt)]
  have gy:=g ks[i] (List.getElem_mem hlt)
  revert gy
  generalize ks[i]=y
  obtain⟨yk,yt,ye,ys⟩:=y
  intro gy
  generalize hb:h (.mk yk yt ye ys)=b at gy
  simp only[eF,eN,ND,DK,unFn_fn]at gy ⊢
  refine(askK_of gy _).trans ?_
  simp only[ND,DK,unFn_fn]
  cases b with
  |true=>rfl
  |false=>
   refine(br_f _ _).trans ?_
   rw[add1 (by omega),if_neg (by decide)]
   refine(askK_of (ih (i+1) (by omega) (by omega)) _).trans ?_
   rcases idxK_or h (ks.drop (i+1)) (i+1) with⟨e,_⟩|⟨j,e,_⟩ <;>
   .rw[e];rfl
theorem cfa_ok(vals:List (List AV))(h:Fm->Bool)(ks:List Fm)(hl:ks.length<=1000000)(g:∀ y∈ks,D.ask (.fn 101) [.agg (eF y),.ptr 0 0] [bkL vals]=some (bv (h y),[.keep])):D.ask (.fn 102) [.ls (ks.map eF),.fn (.func 101) [] [.ptr 0 0]] [bkL vals]=some (bv (ks.any h),[.keep]):=by
 have gl:=cfa_lp Kl vals h ks hl g _ 0 rfl (by omega)
 rw[List.drop_zero]at gl
 have gi:D.ask (.fn 171) [.ls (ks.map eF),.fn (.func 101) [] [.ptr 0 0]] [bkL vals]=some (iv (idxI h ks 0),[.keep]):=by
  refine Kl.fn' hn171a _ rfl ((e171a ..).trans ?_)
  rw[lenR_map]
  refine(askK_of gl _).trans ?_
  rcases idxK_or h ks 0 with⟨e,e'⟩|⟨j,e,e'⟩ <;>
  .rw[e,e'];rfl
 refine Kl.fn' hn102a _ rfl ((e102a ..).trans ?_)
 refine(askK_of gi _).trans ?_
 simp only[ND,DK,unFn_fn]
 rw[←idxI_any h ks 0]
 by_cases e:0<=idxI h ks 0
 .rw[decide_eq_true e];exact br_leT e
 .rw[decide_eq_false e];exact br_leF e
theorem cfb_lp(vals:List (List AV))(h:Fm->Bool)(ks:List Fm)(hl:ks.length<=1000000)(g:∀ y∈ks,D.ask (.fn 103) [.agg (eF y),.ptr 0 0] [bkH,bkL vals]=some (bv (h y),[.keep,.keep])):∀(m i:Nat),ks.length-i=m->i<=ks.length->
  D.ask (.lp 171 0) [.ls (ks.map eF),.fn (.func 103) [] [.ptr 0 0],iv (ks.length:Int),iv (i:Int)] [bkH,bkL vals]=some (idxK h (ks.drop i) i,[.keep,.keep]):=by
 intro m
 induction m with
 |zero=>
  intro i hm hi
  rw[List.drop_eq_nil_of_le (by omega),idxK]
  refine Kl.lp' hn171b _ rfl (by kernel_rfl) ((e171b_0 ..).trans ?_)
  exact br_ltF (by omega)
 |succ m ih=>
  intro i hm hi
  have hlt:i<ks.length:=by omega
  rw[List.drop_eq_getElem_cons hlt,idxK]
  refine Kl.lp' hn171b _ rfl (by kernel_rfl) ((e171b_0 ..).trans ?_)
  refine(br_ltT (by omega)).trans ?_
  rw[unI_n,nthK_some (List.getElem?_eq_getElem hlt)]
  have gy:=g ks[i] (List.getElem_mem hlt)
  revert gy
  generalize ks[i]=y
  obtain⟨yk,yt,ye,ys⟩:=y
  intro gy
  generalize hb:h (.mk yk yt ye ys)=b at gy
  simp only[eF,eN,ND,DK,unFn_fn]at gy ⊢
  refine(askK_of gy _).trans ?_
  simp only[ND,DK,unFn_fn]
  cases b with
  |true=>rfl
  |false=>
   refine(br_f _ _).trans ?_
   rw[add1 (by omega),if_neg (by decide)]
   refine(askK_of (ih (i+1) (by omega) (by omega)) _).trans ?_
   rcases idxK_or h (ks.drop (i+1)) (i+1) with⟨e,_⟩|⟨j,e,_⟩ <;>
   .rw[e];rfl
theorem cfb_ok(vals:List (List AV))(h:Fm->Bool)(ks:List Fm)(hl:ks.length<=1000000)(g:∀ y∈ks,D.ask (.fn 103) [.agg (eF y),.ptr 0 0] [bkH,bkL vals]=some (bv (h y),[.keep,.keep])):D.ask (.fn 102) [.ls (ks.map eF),.fn (.func 103) [] [.ptr 0 0]] [bkH,bkL vals]=some (bv (ks.any h),[.keep,.keep]):=by
 have gl:=cfb_lp Kl vals h ks hl g _ 0 rfl (by omega)
 rw[List.drop_zero]at gl
 have gi:D.ask (.fn 171) [.ls (ks.map eF),.fn (.func 103) [] [.ptr 0 0]] [bkH,bkL vals]=some (iv (idxI h ks 0),[.keep,.keep]):=by
  refine Kl.fn' hn171b _ rfl ((e171b ..).trans ?_)
  rw[lenR_map]
  refine(askK_of gl _).trans ?_
  rcases idxK_or h ks 0 with⟨e,e'⟩|⟨j,e,e'⟩ <;>
  .rw[e,e'];rfl
 refine Kl.fn' hn102b _ rfl ((e102b ..).trans ?_)
 refine(askK_of gi _).trans ?_
 simp only[ND,DK,unFn_fn]
 rw[←idxI_any h ks 0]
 by_cases e:0<=idxI h ks 0
 .rw[decide_eq_true e];exact br_leT e
 .rw[decide_eq_false e];exact br_leF e
theorem holds1_ok(vals:List (List AV))(b:Bool)(y:Fm)(g:D.ask (.fn 36) [.agg (eF y),.ls vals] []=some (bv b,[])):D.ask (.fn 101) [.agg (eF y),.ptr 0 0] [bkL vals]=some (bv b,[.keep]):=by
 obtain⟨yk,yt,ye,ys⟩:=y
 simp only[eF,eN]at g ⊢
 refine Kl.fn' hn101 _ rfl ((e101 ..).trans ?_)
 refine(askK_of g _).trans ?_
 cases b<;>rfl
theorem holds2_ok(vals:List (List AV))(b:Bool)(y:Fm)(g:D.ask (.fn 36) [.agg (eF y),.ls vals] []=some (bv b,[])):D.ask (.fn 103) [.agg (eF y),.ptr 0 0] [bkH,bkL vals]=some (bv (!b),[.keep,.keep]):=by
 have g1:=holds1_ok Kl vals b y g
 obtain⟨yk,yt,ye,ys⟩:=y
 simp only[eF,eN]at g1 ⊢
 refine Kl.fn' hn103 _ rfl ((e103 ..).trans ?_)
 refine(askK_of g1 _).trans ?_
 cases b<;>rfl
variable (Kv:Knows ownC tabHv D) (Kt:Knows ownC tabTe D) (Z:ZF D)
include Kv Kt Z
theorem lholds_ok{n k j:Nat}(hn:n<=1000000)(vals:List Zi)(hv:∀ z∈vals,Lz j z)(hv24:∀ z∈vals,z.abs.length<24)(hl:vals.length<=1000000)(hk:k+n+j+1+vals.length<=400000000):∀(N:Nat) (x:Fm),SizeOf.sizeOf x<N->FC n k x->
  D.ask (.fn 36) [.agg (eF x),.ls (vals.map eZ)] []=some (bv (holdsF (valF (vals.map zv)) x),[]):=by
 intro N
 induction N with
 |zero=>intro x h;omega
 |succ N ih=>
  intro x hN hx
  obtain⟨ht,hkl,h⟩:=hx
  rename_i kd t e ks
  have gks:∀ y∈kidsF (.mk kd t e ks),D.ask (.fn 36) [.agg (eF y),.ls (vals.map eZ)] []=some (bv (holdsF (valF (vals.map zv)) y),[]):=fun y hy=>ih y (by have:=kid_size (k:=kd) (t:=t) (e:=e) (kidsC_mem hy);omega) (h y hy)
  rw[kidsF]at hkl gks
  rw[holdsF]
  by_cases h0:kd=0
  .rw[if_pos h0,eF,eFs_map]
   exact Kl.fn' hn36a _ rfl ((e36a ..).trans (br_eqT h0))
  rw[if_neg h0]
  by_cases h2:kd=2
  .have gr:=relholds_ok Kv Kt Z (ht h2) hn e vals hv hv24 hl hk
   rw[if_pos h2,eF,eFs_map]
   generalize relH (t.lf.val (valF (vals.map zv))) e=b at gr
   obtain⟨ps,kz⟩:=t
   simp only[eRl_mk,eN]at gr ⊢
   refine Kl.fn' hn36a _ rfl ((e36a ..).trans ?_)
   refine(br_eqF h0).trans ?_
   refine(br_eqT h2).trans ?_
   refine(askK_of gr _).trans ?_
   cases b<;>rfl
  rw[if_neg h2]
  by_cases h3:kd=3
  .rw[if_pos h3]
   rw[if_neg (by omega),if_pos h3]at gks
   rw[eF,eFs_map]
   refine Kl.fn' hn36a _ rfl ((e36a ..).trans ?_)
   refine(br_eqF h0).trans ?_
   refine(br_eqF h2).trans ?_
   refine(br_eqT h3).trans ?_
   rw[lenR_map]
   cases ks with
   |nil=>rfl
   |cons y r=>
    have gy:=holds1_ok Kl _ _ y (gks y (by simp))
    refine(br_ltT (by rw[List.length_cons];omega)).trans ?_
    rw[nthK_some (x:=y) (show (y::r)[0]? = some y from rfl),holdsN]
    generalize holdsF (valF (vals.map zv)) y=b at gy
    obtain⟨yk,yt,ye,ys⟩:=y
    simp only[eF,eN,ND,DK,unFn_fn]at gy ⊢
    refine(askK_of gy _).trans ?_
    cases b<;>rfl
  rw[if_neg h3]
  by_cases h4:kd=4
  .rw[if_pos h4]
   rw[if_pos (.inl h4)]at gks hkl
   have gc:=cfb_ok Kl (vals.map eZ) (fun x=>!holdsF (valF (vals.map zv)) x) ks hkl fun y hy=>holds2_ok Kl _ _ y (gks y hy)
   rw[holdsA_any]
   generalize ks.any (fun x=>!holdsF (valF (vals.map zv)) x)=b at gc
   rw[eF,eFs_map]
   refine Kl.fn' hn36b _ rfl ((e36b ..).trans ?_)
   refine(br_eqF h0).trans ?_
   refine(br_eqF h2).trans ?_
   refine(br_eqF h3).trans ?_
   refine(br_eqT h4).trans ?_
   refine(askK_of gc _).trans ?_
   cases b<;>rfl
  rw[if_neg h4]
  by_cases h5:kd=5
  .rw[if_pos h5]
   rw[if_pos (.inr h5)]at gks hkl
   have gc:=cfa_ok Kl (vals.map eZ) (holdsF (valF (vals.map zv))) ks hkl fun y hy=>holds1_ok Kl _ _ y (gks y hy)
   rw[holdsO_any]
   generalize ks.any (holdsF (valF (vals.map zv)))=b at gc
   rw[eF,eFs_map]
   refine Kl.fn' hn36a _ rfl ((e36a ..).trans ?_)
   refine(br_eqF h0).trans ?_
   refine(br_eqF h2).trans ?_
   refine(br_eqF h3).trans ?_
   refine(br_eqF h4).trans ?_
   refine(br_eqT h5).trans ?_
   refine(askK_of gc _).trans ?_
   cases b<;>rfl
  rw[if_neg h5,eF,eFs_map]
  refine Kl.fn' hn36a _ rfl ((e36a ..).trans ?_)
  refine(br_eqF h0).trans ?_
  refine(br_eqF h2).trans ?_
  refine(br_eqF h3).trans ?_
  refine(br_eqF h4).trans ?_
  exact br_eqF h5
end
section
variable {D:Orc} (Kh:Knows ownC tabRh D) (F:RF D)
include Kh F
theorem fholdsC_ok{n k j:Nat}(hn:n<=1000000)(vals:List Zi)(hv:∀ z∈vals,Lz j z)(hl:vals.length<=1000000)(hk:k+n+j+1+vals.length<=400000000):∀(N:Nat) (x:Fm),SizeOf.sizeOf x<N->FC n k x->
  D.ask (.fn 37) [.agg (eF x),.ls (vals.map eZ)] []=some (bv (holdsF (valF (vals.map zv)) x),[]):=by
 intro N
 induction N with
 |zero=>intro x h;omega
 |succ N ih=>
  intro x hN hx
  obtain⟨ht,hkl,h⟩:=hx
  rename_i kd t e ks
  have gks:∀ y∈kidsF (.mk kd t e ks),D.ask (.fn 37) [.agg (eF y),.ls (vals.map eZ)] []=some (bv (holdsF (valF (vals.map zv)) y),[]):=fun y hy=>ih y (by have:=kid_size (k:=kd) (t:=t) (e:=e) (kidsC_mem hy);omega) (h y hy)
  rw[kidsF]at hkl gks
  have gA:kd=4->D.ask (.lp 37 0) [.ls (vals.map eZ),.ptr 0 0,iv 0] [boxF (.mk kd t e ks)]=some (if holdsA (valF (vals.map zv)) ks then .tup [iv 1] else .tup [bv true,bv false],[.del]):=fun h4=>by
   rw[if_pos (.inl h4)]at gks hkl
   have:=hoA_lp Kh (valF (vals.map zv)) (vals.map eZ) kd t e ks hkl gks _ 0 rfl (by omega)
   rw[List.drop_zero]at this
   exact this
  have gO:kd=5->D.ask (.lp 37 1) [.ls (vals.map eZ),.ptr 0 0,iv 0] [boxF (.mk kd t e ks)]=some (if holdsO (valF (vals.map zv)) ks then .tup [bv true,bv true] else .tup [iv 3],[.del]):=fun h5=>by
   rw[if_pos (.inr h5)]at gks hkl
   have:=hoO_lp Kh (valF (vals.map zv)) (vals.map eZ) kd t e ks hkl gks _ 0 rfl (by omega)
   rw[List.drop_zero]at this
   exact this
  unfold boxF at gA gO
  rw[eF,eFs_map]at gA gO
  refine Kh.fn' hn37 _ rfl ((e37 ..).trans ?_)
  rw[holdsF,eFs_map]
  by_cases h0:kd=0
  .rw[if_pos h0]
   exact br_eqT h0
  rw[if_neg h0]
  refine(br_eqF h0).trans ?_
  by_cases h2:kd=2
  .rw[if_pos h2]
   refine(br_eqT h2).trans ?_
   refine(askK_of (rholds_ok Kh F (ht h2) hn e vals hv hl hk) _).trans ?_
   simp only[ND,DK,unFn_fn]
   exact br_same _
  rw[if_neg h2]
  refine(br_eqF h2).trans ?_
  by_cases h3:kd=3
  .rw[if_pos h3]
   rw[if_neg (by omega),if_pos h3]at gks
   refine(br_eqT h3).trans ?_
   rw[lenR_map]
   cases ks with
   |nil=>rfl
   |cons y r=>
    have gy:=gks y (by simp)
    refine(br_ltT (by rw[List.length_cons];omega)).trans ?_
    rw[nthK_some (x:=y) (show (y::r)[0]? = some y from rfl),holdsN]
    obtain⟨yk,yt,ye,ys⟩:=y
    simp only[eF,eN,ND,DK,unFn_fn]at gy ⊢
    refine(askK_of gy _).trans ?_
    simp only[ND,DK,unFn_fn]
    exact br_notS _
  rw[if_neg h3]
  refine(br_eqF h3).trans ?_
  by_cases h4:kd=4
  .rw[if_pos h4]
   refine(br_eqT h4).trans ?_
   refine(askK_of (gA h4) _).trans ?_
   cases holdsA (valF (vals.map zv)) ks<;>rfl
  rw[if_neg h4]
  refine(br_eqF h4).trans ?_
  by_cases h5:kd=5
  .rw[if_pos h5]
   refine(br_eqT h5).trans ?_
   refine(askK_of (gO h5) _).trans ?_
   cases holdsO (valF (vals.map zv)) ks<;>rfl
  rw[if_neg h5]
  exact br_eqF h5
end
section
variable {D:Orc} (Kl:Knows ownC tabLw D) (Kv:Knows ownC tabHv D) (Kt:Knows ownC tabTe D) (Z:ZF D) (Kh:Knows ownC tabRh D) (F:RF D) (Kk:Knows ownC tabRk D) (Kz:Knows ownC tabFz D) (Kw:Knows ownC tabFw D) (K1:Knows ownC tabL51 D)
include Kl Kv Kt Z Kh F Kk Kz Kw K1
theorem llholds_ok(S:D.ask (.fn 34) [] []=some (bv true,[]))(x:Fm)(hx:WzF x)(vals:List Zi)(hv:∀ z∈vals,Limbs z.abs)(hl:vals.length<4611686018427387904):D.ask (.fn 8) [.agg (eF x),.ls (vals.map eZ)] []=some (bv true,[]):=by
 have gf:=rFew_ok Kk Kz Kw x hx 60 8 (by omega) (by omega)
 have gv:=fewV_ok Kh vals 20 8 (by omega) hl
 have body:decide (sizF x 60<=60)=true->fewF 8 x=true->(vals.length<=20/\∀ z∈vals,z.abs.length<=8)->∃ b,D.ask (.fn 36) [.agg (eF x),.ls (vals.map eZ)] []=some (bv b,[])/\D.ask (.fn 37) [.agg (eF x),.ls (vals.map eZ)] []=some (bv b,[]):=fun h1 h1' h2=>by
  have hc:=fc_of 8 _ x 60 (Nat.lt_succ_self _) (by omega) (of_decide_eq_true h1) h1' hx
  have hz:∀ z∈vals,Lz 8 z:=fun z hz=>⟨hv z hz,h2.2 z hz⟩
  exact⟨_,lholds_ok Kl Kv Kt Z (by omega) vals hz (fun z hz=>by have:=h2.2 z hz;omega) (by omega) (by omega) _ x (Nat.lt_succ_self _) hc,
   fholdsC_ok Kh F (by omega) vals hz (by omega) (by omega) _ x (Nat.lt_succ_self _) hc⟩
 obtain⟨k,t,e,ks⟩:=x
 generalize hd:decide (sizF (.mk k t e ks) 60<=60)=d1 at gf body
 generalize hd2:fewF 8 (.mk k t e ks)=d2 at gf body
 simp only[eF,eN]at gf body ⊢
 refine K1.fn' hn8 _ rfl ((e8 ..).trans ?_)
 refine(askK_of S _).trans ?_
 simp only[ND,DK,unFn_fn]
 refine(askK_of gf _).trans ?_
 simp only[ND,DK,unFn_fn]
 by_cases h1:d1=true/\d2=true
 .obtain⟨rfl,rfl⟩:=h1
  refine(br_t _ _).trans ?_
  refine(askK_of gv _).trans ?_
  simp only[ND,DK,unFn_fn]
  by_cases h2:vals.length<=20/\∀ z∈vals,z.abs.length<=8
  .rw[decide_eq_true h2]
   refine(br_t _ _).trans ?_
   obtain⟨b,g1,g2⟩:=body rfl rfl h2
   refine(askK_of g1 _).trans ?_
   simp only[ND,DK,unFn_fn]
   cases b with
   |true=>
    refine(br_t _ _).trans ?_
    refine(askK_of g2 _).trans ?_
    rfl
   |false=>
    refine(br_f _ _).trans ?_
    refine(askK_of g2 _).trans ?_
    rfl
  .rw[decide_eq_false h2]
   rfl
 .have:(d1&&d2)=false:=by
   cases d1<;>cases d2<;>simp_all
  rw[this]
  rfl
end
end Go.Proofs.YtpncilciembjdaaGreatDoor
