/- Formulas of few parts. N -/
import Derived.Test.YtpncilciembjdaaGreatDoorJBR
set_option linter.all false
open Bool renaming true->U,and_true->Awe,true_and->AuC
open List renaming all_cons->AuD,all_nil->Avl,drop_eq_getElem_cons->χ,drop_eq_nil_of_le->Atc,drop_zero->ι,getElem?_eq_getElem->δ,getElem_mem->Ats,length_cons->Ate,length_take->AtN,take_succ_cons->Au9,take_zero->Au6
open Nat renaming lt_succ_self->AtT
namespace Go.Proofs.YtpncilciembjdaaGreatDoor
open Go.RowKit
mutual
def GY:Fm->Int->Int
 |.mk k _ _ ks,lim=>if k=4\/k=5 then Ex ks lim 1 else if k=3 then Ot ks lim else 1
def Ot:List Fm->Int->Int
 |[],_=>1
 |x::_,lim=>if 1<=lim then 1+GY x (lim-1) else 1
def Ex:List Fm->Int->Int->Int
 |[],_,n=>n
 |x::r,lim,n=>if n<=lim then Ex r lim (n+GY x (lim-n)) else n
end
theorem PT(x:Fm)(lim:Int):GY x lim=Ex (Bq x) lim 1:=by
 obtain⟨k,t,e,ks⟩:=x;rw[GY,Bq]
 by_cases h:k=4\/k=5
 .rw[Ac h,Ac h]
 rw[Ad h,Ad h]
 by_cases h3:k=3
 .rw[Ac h3,Ac h3]
  cases ks with
  |nil=>rfl
  |cons y r=>
   rw[Ot,Au9,Au6,Ex]
   by_cases h1:1<=lim
   .rw[Ac h1,Ac h1,Ex]
   .rw[Ad h1,Ad h1]
 .rw[Ad h3,Ad h3]
  rfl
mutual
theorem MN:∀(x:Fm) (lim:Int),1<=GY x lim/\(GY x lim<=1\/GY x lim<=lim+1)
 |.mk k _ _ ks,lim=>by
  rw[GY]
  by_cases h:k=4\/k=5
  .rw[Ac h]
   have:=Tt ks lim 1;omega
  rw[Ad h]
  by_cases h3:k=3
  .rw[Ac h3]
   exact Acp ks lim
  .rw[Ad h3]
   omega
theorem Acp:∀(l:List Fm) (lim:Int),1<=Ot l lim/\(Ot l lim<=1\/Ot l lim<=lim+1)
 |[],lim=>by rw[Ot];omega
 |x::_,lim=>by
  rw[Ot]
  by_cases h:1<=lim
  .rw[Ac h]
   have:=MN x (lim-1);omega
  .rw[Ad h]
   omega
theorem Tt:∀(l:List Fm) (lim n:Int),n<=Ex l lim n/\(Ex l lim n<=n\/Ex l lim n<=lim+1)
 |[],lim,n=>by rw[Ex];omega
 |x::r,lim,n=>by
  rw[Ex]
  by_cases h:n<=lim
  .rw[Ac h]
   have h1:=MN x (lim-n);have h2:=Tt r lim (n+GY x (lim-n));omega
  .rw[Ad h]
   omega
end
theorem Tu:∀(l:List Fm) (lim n:Int),Ex l lim n<=lim->n+l.length<=lim/\∀ x∈l,∃ m,m<=lim-n/\GY x m<=m
 |[],lim,n,h=>by rw[Ex]at h;simpa using h
 |x::r,lim,n,h=>by
  rw[Ex]at h
  by_cases h1:n<=lim
  .rw[Ac h1]at h
   have h2:=MN x (lim-n);obtain⟨h3,h4⟩:=Tu r lim _ h;rw[Ate];refine⟨by omega,λy hy=>?_⟩;rcases List.mem_cons.1 hy with rfl|hy
   .exact⟨lim-n,Int.le_refl _,by omega⟩
   .obtain⟨m,h5,h6⟩:=h4 y hy
    exact⟨m,by omega,h6⟩
  .rw[Ad h1]at h
   omega
theorem Ic{k:Int}{t:Tm}{e:Bool}{ks:List Fm}{x:Fm}(h:x∈Bq (.mk k t e ks)):x∈ks:=by
 rw[Bq]at h
 by_cases h4:k=4\/k=5
 .rw[Ac h4]at h;exact h
 rw[Ad h4]at h
 by_cases h3:k=3
 .rw[Ac h3]at h;exact List.mem_of_mem_take h
 .rw[Ad h3]at h;cases h
mutual
def GS(L:Int):Fm->Bool
 |.mk k t e ks=>(if k=2 then Ir L (t,e) else U)&&(if k=4\/k=5 then V5 L ks else if k=3 then Ajh L ks else U)
def Ajh(L:Int):List Fm->Bool
 |[]=>U
 |x::_=>GS L x
def V5(L:Int):List Fm->Bool
 |[]=>U
 |x::r=>GS L x&&V5 L r
end
theorem Ph(L:Int):∀ l,V5 L l=l.all (GS L)
 |[]=>rfl
 |x::r=>by rw[V5,Ph L r,AuD]
theorem Pg(L:Int)(k:Int)(t:Tm)(e:Bool)(ks:List Fm):GS L (.mk k t e ks)=((if k=2 then Ir L (t,e) else U)&&(Bq (.mk k t e ks)).all (GS L)):=by
 rw[GS,Bq]
 by_cases h:k=4\/k=5
 .rw[Ac h,Ac h,Ph]
 rw[Ad h,Ad h]
 by_cases h3:k=3
 .rw[Ac h3,Ac h3]
  cases ks with
  |nil=>rfl
  |cons y r=>rw[Ajh,Au9,Au6,AuD,Avl,Awe]
 .rw[Ad h3,Ad h3]
  rfl
inductive WzF:Fm->Prop
 |mk {k:Int} {t:Tm} {e:Bool} {ks:List Fm} (ht:LmT t) (hl:ks.length<4611686018427387904) (h:∀ x∈ks,WzF x):WzF (.mk k t e ks)
theorem Aon(L:Nat):∀(N:Nat) (x:Fm) (lim:Int),SizeOf.sizeOf x<N->lim<=1000000->GY x lim<=lim->GS (L:Int) x=U->WzF x->FC 20 L x:=by
 intro N
 induction N with
 |zero=>intro x lim h;omega
 |succ N ih=>
  intro x lim hN hlim hs hf hw;rw[PT]at hs;obtain⟨h1,h2⟩:=Tu _ lim 1 hs;obtain⟨ht,hl0,hk⟩:=hw;rename_i k t e ks;rw[Pg,Bool.and_eq_true,List.all_eq_true]at hf;refine .mk (λh=>?_) (by omega) λy hy=>?_
  .have:=hf.1
   rw[Ac h]at this;exact ht.tmb this
  .obtain⟨m,h3,h4⟩:=h2 y hy
   have hm:=Ic hy;exact ih y m (by have:=BW (k:=k) (t:=t) (e:=e) hm;omega) (by omega) h4 (hf.2 y hy) (hk y hm)
section
variable {D:Orc} (Kk:Knows Aq WT D)
include Kk
theorem PQ(x:Fm):D.ask (.fn 111) [.agg (eF x)] []=some (.ls ((Bq x).map eF),[]):=by
 obtain⟨k,t,e,ks⟩:=x;refine Az Kk AaH (An2 ..) ?_;rw[BI,Bq]
 by_cases h4:k=4
 .rw[Ac (.inl h4)]
  exact CO h4
 refine AO ?_ h4
 by_cases h5:k=5
 .rw[Ac (.inr h5)]
  exact CO h5
 refine AO ?_ h5;rw[Ad (by omega)]
 by_cases h3:k=3
 .rw[Ac h3]
  refine Ba ?_ h3;rw[Ao]
  cases ks with
  |nil=>rfl
  |cons y r=>
   refine Au ?_ (by rw[Ate];omega);rw[show I4 0 1 (y::r).length=U by simp[I4],EJ (λx=>by obtain⟨k,t,e,ks⟩:=x;rfl),F5,FH];rfl
 .rw[Ad h3]
  exact BA h3
variable (Kz:Knows Aq AcG D)
include Kz
omit Kk in
theorem Ab9(ks:List Fm)(lim:Int)(hlim:-1000000<=lim/\lim<=1000000)(hl:ks.length<4611686018427387904)(g:∀ x∈ks,∀ m:Int,-1000000<=m->m<=1000000->D.ask (.fn 99) [.agg (eF x),iv m] []=some (iv (GY x m),[])):∀(m i:Nat) (n:Int),ks.length-i=m->i<=ks.length->1<=n->n<=1000001->
  D.ask (.lp 99 0) [iv lim,iv n,.ls (ks.map eF),iv (i:Int)] []=some (.tup [iv 0,iv (Ex (ks.drop i) lim n)],[]):=by
 intro m
 induction m with
 |zero=>
  intro i n hm hi h1 h2;rw[Atc (by omega),Ex];refine Ax Kz AaU (Aje ..) ?_;rw[Ao];exact DO (by omega)
 |succ m ih=>
  intro i n hm hi h1 h2;have hlt:i<ks.length:=by omega
  rw[χ hlt,Ex];refine Ax Kz AaU (Aje ..) ?_;rw[Ao];refine Au ?_
  by_cases hn:n<=lim
  .rw[Ac hn]
   refine Cz ?_ hn;rw[AC,AD (δ hlt)];have gy:=g ks[i] (Ats hlt) (lim-n) (by omega) (by omega);have hb:=MN ks[i] (lim-n);revert gy hb;generalize ks[i]=y;obtain⟨yk,yt,ye,ys⟩:=y;intro gy hb;simp only[eF,eN,Ai]at gy ⊢;rw[DL (by omega) (by omega)];refine Ab gy ?_;simp only[Ai];rw[Fo (by omega) (by omega),BE (by omega)];refine Ab (ih (i+1) _ (by omega) (by omega) (by omega) (by omega)) ?_;rfl
  .rw[Ad hn]
   exact ZA hn
theorem Aca:∀(N:Nat) (x:Fm),SizeOf.sizeOf x<N->WzF x->∀ lim:Int,-1000000<=lim->lim<=1000000->D.ask (.fn 99) [.agg (eF x),iv lim] []=some (iv (GY x lim),[]):=by
 intro N
 induction N with
 |zero=>intro x h;omega
 |succ N ih=>
  intro x hN hw lim hlim hlim2;have gk:=PQ Kk x;have hwk:(Bq x).length<4611686018427387904/\∀ y∈Bq x,SizeOf.sizeOf y<N/\WzF y:=by
   obtain⟨ht,hl,h⟩:=hw;rename_i k t e ks;refine⟨?_,λy hy=>?_⟩
   .rw[Bq]
    split
    .exact hl
    .split
     .rw[AtN];omega
     .simp
   .have hm:=Ic hy
    exact⟨by have:=BW (k:=k) (t:=t) (e:=e) hm;omega,h y hm⟩
  have gl:=Ab9 Kz (Bq x) lim ⟨hlim,hlim2⟩ hwk.1 (λy hy m h1 h2=>ih y (hwk.2 y hy).1 (hwk.2 y hy).2 m h1 h2) _ 0 1 rfl (by omega) (by omega) (by omega);rw[ι,←PT]at gl;obtain⟨k,t,e,ks⟩:=x;simp only[eF,eN]at gk ⊢;refine Az Kz AaU (e99 ..) ?_;refine Ab gk ?_;simp only[Ai];refine Ab gl ?_;rfl
variable (Kw:Knows Aq WR D)
include Kw
omit Kk Kw in
theorem Aia(ks:List Fm)(L:Int)(hl:ks.length<4611686018427387904)(g:∀ x∈ks,D.ask (.fn 100) [.agg (eF x),iv L] []=some (bv (GS L x),[])):∀(m i:Nat),ks.length-i=m->i<=ks.length->
  D.ask (.lp 100 0) [iv L,.ls (ks.map eF),iv (i:Int)] []=some (if(ks.drop i).all (GS L) then .tup [iv 0] else .tup [bv U,bv false],[]):=by
 intro m
 induction m with
 |zero=>
  intro i hm hi;rw[Atc (by omega),Avl,Ac rfl];refine Ax Kz Sj (ZP ..) ?_;rw[Ao];exact DO (by omega)
 |succ m ih=>
  intro i hm hi;have hlt:i<ks.length:=by omega
  rw[χ hlt,AuD];refine Ax Kz Sj (ZP ..) ?_;rw[Ao];refine Au ?_;rw[AC,AD (δ hlt)];have gy:=g ks[i] (Ats hlt);revert gy;generalize ks[i]=y;obtain⟨yk,yt,ye,ys⟩:=y;intro gy;generalize hb:GS L (.mk yk yt ye ys)=b at gy;simp only[eF,eN,Ai]at gy ⊢;refine Ab gy ?_;simp only[Ai]
  cases b with
  |false=>rfl
  |true=>
   refine Af ?_;rw[BE (by omega),AuC];refine Ab (ih (i+1) (by omega) (by omega)) ?_
   cases (ks.drop (i+1)).all (GS L)<;>rfl
theorem Aib(L:Int):∀(N:Nat) (x:Fm),SizeOf.sizeOf x<N->WzF x->D.ask (.fn 100) [.agg (eF x),iv L] []=some (bv (GS L x),[]):=by
 intro N
 induction N with
 |zero=>intro x h;omega
 |succ N ih=>
  intro x hN hw;have gk:=PQ Kk x;have hwk:(Bq x).length<4611686018427387904/\∀ y∈Bq x,SizeOf.sizeOf y<N/\WzF y:=by
   obtain⟨ht,hl,h⟩:=hw;rename_i k t e ks;refine⟨?_,λy hy=>?_⟩
   .rw[Bq]
    split
    .exact hl
    .split
     .rw[AtN];omega
     .simp
   .have hm:=Ic hy
    exact⟨by have:=BW (k:=k) (t:=t) (e:=e) hm;omega,h y hm⟩
  have gl:=Aia Kz (Bq x) L hwk.1 (λy hy=>ih y (hwk.2 y hy).1 (hwk.2 y hy).2) _ 0 rfl (by omega);rw[ι]at gl;obtain⟨k,t,e,ks⟩:=x;rw[Pg];generalize (Bq (.mk k t e ks)).all (GS L)=b at gl;have gf:=Aaw Kw [(t,e)] 1 L (by omega);rw[List.map_cons,List.map_nil,AuD,Avl,Awe,show (decide ([(t,e)].length<=1))=U from rfl,AuC]at gf;obtain⟨ps,kz⟩:=t;simp only[KN,eF,eN]at gk gf gl ⊢;refine Az Kz Sj (Aqe ..) ?_
  by_cases h2:k=2
  .rw[Ac h2]
   refine Ba ?_ h2;refine Ab gf ?_;simp only[Ai]
   cases Ir L (⟨ps,kz⟩,e) with
   |false=>rfl
   |true=>
    refine Af ?_;refine Ab gk ?_;simp only[Ai];refine Ab gl ?_
    cases b<;>rfl
  .rw[Ad h2]
   refine AO ?_ h2;refine Ab gk ?_;simp only[Ai];refine Ab gl ?_
   cases b<;>rfl
theorem Ah1(x:Fm)(hw:WzF x)(most L:Int)(h1:-1000000<=most)(h2:most<=1000000):D.ask (.fn 35) [.agg (eF x),iv most,iv L] []=some (bv (decide (GY x most<=most)&&GS L x),[]):=by
 have gs:=Aca Kk Kz _ x (AtT _) hw most h1 h2;have gf:=Aib Kk Kz Kw L _ x (AtT _) hw;obtain⟨k,t,e,ks⟩:=x;generalize hs:GY (.mk k t e ks) most=s at gs;generalize hb:GS L (.mk k t e ks)=b at gf;simp only[eF,eN]at gs gf ⊢;refine Az Kz Aoy (e35 ..) ?_;refine Ab gs ?_;simp only[Ai]
 by_cases h:s<=most
 .rw[B3 h,AuC]
  refine At ?_;refine Ab gf ?_
  cases b<;>rfl
 .rw[Cn h]
  exact Qi (by omega)
end
def uN(x y:Int):Nat:=x.natAbs / y.natAbs
def vN(x y:Int):Nat:=x.natAbs % y.natAbs
def dS(x y:Int):Bool:=decide (x<0) != decide (y<0)
def qZ(x y:Int):Int:=if dS x y=U/\0<vN x y then DX U (uN x y)-1 else DX (dS x y) (uN x y)
def rZ(x y:Int):Int:=if dS x y=U/\0<vN x y then DX (decide (x<0)) (vN x y)+y else DX (decide (x<0)) (vN x y)
