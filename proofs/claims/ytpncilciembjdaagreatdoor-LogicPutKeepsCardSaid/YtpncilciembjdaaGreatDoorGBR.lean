/- logic.PutAll: what it co -/
import Derived.Test.YtpncilciembjdaaGreatDoorGBQ
set_option linter.all false
open Bool renaming true->U,and_true->Atz,true_and->ArJ
open List renaming all_cons->ArP,all_nil->Asg,drop_eq_getElem_cons->π,drop_eq_nil_of_le->Aqq,drop_zero->Aqk,getElem?_eq_getElem->θ,getElem_mem->Aqz,length_cons->ε,length_map->Aqy,length_take->AqT,mem_cons->ι,mem_map->Aq6,take_succ_cons->ArF,take_zero->ArM
open Nat renaming lt_succ_self->Arr
open Option renaming some->Δ
namespace Go.Proofs.YtpncilciembjdaaGreatDoor
open Go.RowKit
theorem CanFs.memP:∀{l:List Fm},CanFs l->∀ y∈l,CanF y
 |_,.nil,y,hy=>by cases hy
 |_,.cons h hr,y,hy=>by
  rcases ι.1 hy with rfl|hy
  .exact h
  .exact CanFs.memP hr y hy
theorem CanF.kid{x:Fm}(h:CanF x):∀ y∈Bq x,CanF y:=by
 intro y hy
 cases h with
 |tru b=>cases b<;>cases hy
 |atom l e h=>cases hy
 |no x h=>
  have hy:y∈[x]:=hy;rw[List.mem_singleton]at hy;rw[hy];exact h
 |and l h=>exact h.memP y hy
 |or l h=>exact h.memP y hy
 |no0=>cases hy
theorem FC.kid{n k:Nat}{x:Fm}(h:FC n k x):∀ y∈Bq x,FC n k y:=by
 cases h with
 |mk ht hl h=>exact h
theorem FC.num{n k:Nat}{x:Fm}(h:FC n k x):(Bq x).length<=1000000:=by
 cases h with
 |mk ht hl h=>exact hl
theorem G4(x:Fm):Bq (AB x)=(Bq x).map AB:=by
 obtain⟨k,t,e,ks⟩:=x;rw[AB]
 by_cases h0:k=0
 .rw[if_pos h0,BI,if_neg (by omega),if_neg (by omega)]
  rfl
 rw[if_neg h0]
 by_cases h2:k=2
 .rw[if_pos h2,BI,if_neg (by omega),if_neg (by omega)]
  rfl
 rw[if_neg h2]
 by_cases h3:k=3
 .rw[if_pos h3,BI,if_neg (by omega),if_pos h3,GQ]
  unfold kF;rw[BI,if_neg (by decide),if_pos rfl,List.take_of_length_le (by rw[Aqy,AqT];omega)]
 rw[if_neg h3]
 by_cases h4:k=4\/k=5
 .rw[if_pos h4,BI,if_pos h4,DY]
  unfold kF;rw[BI,if_pos h4]
 rw[if_neg h4,BI,if_neg h4,if_neg h3];rfl
theorem RG:∀(N:Nat) (x:Fm),SizeOf.sizeOf x<N->FC 20 8 x->FC 20 9 (AB x):=by
 intro N
 induction N with
 |zero=>intro x h;omega
 |succ N ih=>
  intro x hN hx;have hk:∀ y∈Bq (AB x),FC 20 9 y:=λy hy=>by
   rw[G4]at hy;obtain⟨z,hz,rfl⟩:=Aq6.1 hy;refine ih z ?_ (hx.kid z hz);obtain⟨k,t,e,ks⟩:=x;have:=Cq (k:=k) (t:=t) (e:=e) (Di hz);omega
  have hn:(Bq (AB x)).length<=1000000:=by
   rw[G4,Aqy];exact hx.num
  have ht:∀ k t e ks,AB x=.mk k t e ks->k=2->TmB 20 9 t:=λk t e ks h h2=>by
   obtain⟨xk,xt,xe,xs⟩:=x;rw[AB]at h
   by_cases g0:xk=0
   .rw[if_pos g0]at h
    injection h with h
    rw[if_pos rfl]at h;omega
   rw[if_neg g0]at h
   by_cases g2:xk=2
   .rw[if_pos g2]at h
    unfold Eo at h;injection h with _ h
    subst h;have b:TmB 20 8 xt:=by
     cases hx with
     |mk ht hl h=>exact ht g2
    exact LB.tb ⟨b.lb.pln.len,VH b.lb (by omega),b.lb.k.mono (by omega)⟩
   rw[if_neg g2]at h
   by_cases g3:xk=3
   .rw[if_pos g3]at h
    injection h with h
    omega
   rw[if_neg g3]at h
   by_cases g4:xk=4\/xk=5
   .rw[if_pos g4]at h
    injection h with h
    omega
   rw[if_neg g4]at h;injection h with h
   rw[if_neg (by decide)]at h;omega
  generalize AB x=c at *;obtain⟨k,t,e,ks⟩:=c;exact .mk (ht k t e ks rfl) hn hk
structure EachF (D:Orc) (V W:List (List AV)) (s:Int->Lf):Prop where
 own:∀{kd:Int} {t:Tm} {e:Bool} {ks:List Fm},kd=3\/kd=4\/kd=5->FC 20 9 (.mk kd t e ks)->D.ask (.fn 107) [.agg (eF (.mk kd t e ks))] []=Δ (.agg (AjC kd ((Bq (.mk kd t e ks)).map AB).length),[.set (ABlk.mk (Ao eF ((Bq (.mk kd t e ks)).map AB)) U U)])
 oth:∀{kd:Int} {t:Tm} {e:Bool} {ks:List Fm},kd≠3->kd≠4->kd≠5->FC 20 9 (.mk kd t e ks)->D.ask (.fn 107) [.agg (eF (.mk kd t e ks))] []=Δ (.agg (eF (AB (.mk kd t e ks))),[])
 put:∀{l:Lf} {e:Bool},TmB 20 9 l.tm->D.ask (.fn 59) [.agg (MS (l.tm,e)),.ls V,.ls W] []=Δ (.agg (MS ((Qu s l).tm,e)),[])
theorem Agf(s:Int->Lf){k:Int}(h:k≠2)(l:List Fm):EI s (kF k l)=kF k (l.map (EI s)):=by
 unfold kF;rw[EI,if_neg h,KO]
section
variable {D:Orc} (Ke:Knows Al VY D) (V W:List (List AV)) (s:Int->Lf) (E:EachF D V W s)
include Ke E
theorem OM{x:Fm}(h1:FC 20 9 x)(h2:FC 20 9 (AB x))(g:∀ y∈(Bq x).map AB,D.ask (.fn 112) [.agg (eF y),Gu] [bk [.ls V],bk [.ls W]]=Δ (.agg (eF (EI s y)),[.keep,.keep])) :
  D.ask (.fn 112) [.agg (eF x),Gu] [bk [.ls V],bk [.ls W]]=Δ (.agg (eF (EI s (AB x))),[.keep,.keep]):=by
 have hn:=h1.num;obtain⟨k,t,e,ks⟩:=x
 by_cases h3:k=3\/k=4\/k=5
 .have k2:k≠2:=by omega
  have:=Wv Ke V W k2 (EI s) _ (by rw[Aqy];exact hn) (E.own h3 h1) g;have ec:AB (.mk k t e ks)=kF k ((Bq (.mk k t e ks)).map AB):=by
   rw[AB,if_neg (by omega),if_neg k2,BI]
   by_cases g3:k=3
   .rw[if_pos g3,if_neg (by omega),if_pos g3,GQ,g3]
   .rw[if_neg g3,if_pos (by omega),if_pos (by omega),DY]
  rw[ec,Agf s k2];exact this
 .have hc:=E.oth (by omega) (by omega) (by omega) h1
  by_cases k2:k=2
  .have ec:AB (.mk k t e ks)=Eo t.lf.pln e:=by rw[AB,if_neg (by omega),if_pos k2]
   rw[ec]at hc h2 ⊢;have b:TmB 20 9 t.lf.pln.tm:=by
    cases h2 with
    |mk ht hl h=>exact ht rfl
   have:=Wu Ke V W hc (E.put b);have ep:EI s (Eo t.lf.pln e)=Eo (Qu s t.lf.pln) e:=by
    unfold Eo;rw[EI,if_pos rfl,LO,Hi]
   rw[ep];exact this
  .obtain⟨b,ec⟩:∃ b,AB (.mk k t e ks)=K6 b:=by
    rw[AB]
    by_cases h0:k=0
    .exact⟨U,by rw[if_pos h0]⟩
    .exact⟨false,by rw[if_neg h0,if_neg k2,if_neg (by omega),if_neg (by omega)]⟩
   rw[ec]at hc ⊢;have ep:EI s (K6 b)=K6 b:=by cases b<;>rfl
   rw[ep];exact Za Ke V W hc
theorem Y9:∀(N:Nat) (c:Fm),SizeOf.sizeOf c<N->CanF c->FC 20 9 c->D.ask (.fn 112) [.agg (eF c),Gu] [bk [.ls V],bk [.ls W]]=Δ (.agg (eF (EI s c)),[.keep,.keep]):=by
 intro N
 induction N with
 |zero=>intro x h;omega
 |succ N ih=>
  intro c hN hc hf;have ec:=hc.clone;have:=OM Ke V W s E hf (by rw[ec];exact hf) (λy hy=>by
   obtain⟨z,hz,rfl⟩:=Aq6.1 hy;have cz:=hc.kid z hz;rw[cz.clone];refine ih z ?_ cz (hf.kid z hz);obtain⟨k,t,e,ks⟩:=c;have:=Cq (k:=k) (t:=t) (e:=e) (Di hz);omega)
  rw[ec]at this;exact this
theorem Age{x:Fm}(hx:FC 20 8 x)(hx9:FC 20 9 x):D.ask (.fn 43) [.agg (eF x),.ls V,.ls W] []=Δ (.agg (eF (EI s (AB x))),[]):=by
 have hc:=RG _ x (Arr _) hx;refine Uz Ke V W (OM Ke V W s E hx9 hc λy hy=>?_);obtain⟨z,hz,rfl⟩:=Aq6.1 hy;exact Y9 Ke V W s E _ _ (Arr _) (Kg z) (hc.kid _ (by rw[G4];exact hy))
end
mutual
def Fi:Fm->Int->Int
 |.mk k _ _ ks,lim=>if k=4\/k=5 then Dk ks lim 1 else if k=3 then Hm ks lim else 1
def Hm:List Fm->Int->Int
 |[],_=>1
 |x::_,lim=>if 1<=lim then 1+Fi x (lim-1) else 1
def Dk:List Fm->Int->Int->Int
 |[],_,n=>n
 |x::r,lim,n=>if n<=lim then Dk r lim (n+Fi x (lim-n)) else n
end
theorem Pp(x:Fm)(lim:Int):Fi x lim=Dk (Bq x) lim 1:=by
 obtain⟨k,t,e,ks⟩:=x;rw[Fi,Bq]
 by_cases h:k=4\/k=5
 .rw[if_pos h,if_pos h]
 rw[if_neg h,if_neg h]
 by_cases h3:k=3
 .rw[if_pos h3,if_pos h3]
  cases ks with
  |nil=>rfl
  |cons y r=>
   rw[Hm,ArF,ArM,Dk]
   by_cases h1:1<=lim
   .rw[if_pos h1,if_pos h1,Dk]
   .rw[if_neg h1,if_neg h1]
 .rw[if_neg h3,if_neg h3]
  rfl
mutual
theorem Mp:∀(x:Fm) (lim:Int),1<=Fi x lim/\(Fi x lim<=1\/Fi x lim<=lim+1)
 |.mk k _ _ ks,lim=>by
  rw[Fi]
  by_cases h:k=4\/k=5
  .rw[if_pos h]
   have:=NU ks lim 1;omega
  rw[if_neg h]
  by_cases h3:k=3
  .rw[if_pos h3]
   exact AaX ks lim
  .rw[if_neg h3]
   omega
theorem AaX:∀(l:List Fm) (lim:Int),1<=Hm l lim/\(Hm l lim<=1\/Hm l lim<=lim+1)
 |[],lim=>by rw[Hm];omega
 |x::_,lim=>by
  rw[Hm]
  by_cases h:1<=lim
  .rw[if_pos h]
   have:=Mp x (lim-1);omega
  .rw[if_neg h]
   omega
theorem NU:∀(l:List Fm) (lim n:Int),n<=Dk l lim n/\(Dk l lim n<=n\/Dk l lim n<=lim+1)
 |[],lim,n=>by rw[Dk];omega
 |x::r,lim,n=>by
  rw[Dk]
  by_cases h:n<=lim
  .rw[if_pos h]
   have h1:=Mp x (lim-n);have h2:=NU r lim (n+Fi x (lim-n));omega
  .rw[if_neg h]
   omega
end
theorem SU:∀(l:List Fm) (lim n:Int),Dk l lim n<=lim->n+l.length<=lim/\∀ x∈l,∃ m,m<=lim-n/\Fi x m<=m
 |[],lim,n,h=>by rw[Dk]at h;simpa using h
 |x::r,lim,n,h=>by
  rw[Dk]at h
  by_cases h1:n<=lim
  .rw[if_pos h1]at h
   have h2:=Mp x (lim-n);obtain⟨h3,h4⟩:=SU r lim _ h;rw[ε];refine⟨by omega,λy hy=>?_⟩;rcases ι.1 hy with rfl|hy
   .exact⟨lim-n,Int.le_refl _,by omega⟩
   .obtain⟨m,h5,h6⟩:=h4 y hy
    exact⟨m,by omega,h6⟩
  .rw[if_neg h1]at h
   omega
theorem H8{k:Int}{t:Tm}{e:Bool}{ks:List Fm}{x:Fm}(h:x∈Bq (.mk k t e ks)):x∈ks:=by
 rw[Bq]at h
 by_cases h4:k=4\/k=5
 .rw[if_pos h4]at h;exact h
 rw[if_neg h4]at h
 by_cases h3:k=3
 .rw[if_pos h3]at h;exact List.mem_of_mem_take h
 .rw[if_neg h3]at h;cases h
mutual
def GU(L:Int):Fm->Bool
 |.mk k t e ks=>(if k=2 then EH L (t,e) else U)&&(if k=4\/k=5 then Va L ks else if k=3 then Ahk L ks else U)
def Ahk(L:Int):List Fm->Bool
 |[]=>U
 |x::_=>GU L x
def Va(L:Int):List Fm->Bool
 |[]=>U
 |x::r=>GU L x&&Va L r
end
theorem OP(L:Int):∀ l,Va L l=l.all (GU L)
 |[]=>rfl
 |x::r=>by rw[Va,OP L r,ArP]
theorem OO(L:Int)(k:Int)(t:Tm)(e:Bool)(ks:List Fm):GU L (.mk k t e ks)=((if k=2 then EH L (t,e) else U)&&(Bq (.mk k t e ks)).all (GU L)):=by
 rw[GU,Bq]
 by_cases h:k=4\/k=5
 .rw[if_pos h,if_pos h,OP]
 rw[if_neg h,if_neg h]
 by_cases h3:k=3
 .rw[if_pos h3,if_pos h3]
  cases ks with
  |nil=>rfl
  |cons y r=>rw[Ahk,ArF,ArM,ArP,Asg,Atz]
 .rw[if_neg h3,if_neg h3]
  rfl
inductive WzF:Fm->Prop
 |mk {k:Int} {t:Tm} {e:Bool} {ks:List Fm} (ht:LmT t) (hl:ks.length<4611686018427387904) (h:∀ x∈ks,WzF x):WzF (.mk k t e ks)
theorem AlQ(L:Nat):∀(N:Nat) (x:Fm) (lim:Int),SizeOf.sizeOf x<N->lim<=1000000->Fi x lim<=lim->GU (L:Int) x=U->WzF x->FC 20 L x:=by
 intro N
 induction N with
 |zero=>intro x lim h;omega
 |succ N ih=>
  intro x lim hN hlim hs hf hw;rw[Pp]at hs;obtain⟨h1,h2⟩:=SU _ lim 1 hs;obtain⟨ht,hl0,hk⟩:=hw;rename_i k t e ks;rw[OO,Bool.and_eq_true,List.all_eq_true]at hf;refine .mk (λh=>?_) (by omega) λy hy=>?_
  .have:=hf.1
   rw[if_pos h]at this;exact ht.tmb this
  .obtain⟨m,h3,h4⟩:=h2 y hy
   have hm:=H8 hy;exact ih y m (by have:=Cq (k:=k) (t:=t) (e:=e) hm;omega) (by omega) h4 (hf.2 y hy) (hk y hm)
section
variable {D:Orc} (Kk:Knows Al S0 D)
include Kk
theorem KS(x:Fm):D.ask (.fn 111) [.agg (eF x)] []=Δ (.ls ((Bq x).map eF),[]):=by
 obtain⟨k,t,e,ks⟩:=x;refine Aw Kk Ahr (AnC ..) ?_;rw[CJ,Bq]
 by_cases h4:k=4
 .rw[if_pos (.inl h4)]
  exact Dq h4
 refine AC ?_ h4
 by_cases h5:k=5
 .rw[if_pos (.inr h5)]
  exact Dq h5
 refine AC ?_ h5;rw[if_neg (by omega)]
 by_cases h3:k=3
 .rw[if_pos h3]
  refine Bk ?_ h3;rw[Ai]
  cases ks with
  |nil=>rfl
  |cons y r=>
   refine Ak ?_ (by rw[ε];omega);rw[show Nm 0 1 (y::r).length=U by simp[Nm],FR (λx=>by obtain⟨k,t,e,ks⟩:=x;rfl),Hr,GS];rfl
 .rw[if_neg h3]
  exact Cn h3
variable (Kz:Knows Al VW D)
include Kz
omit Kk in
theorem AaH(ks:List Fm)(lim:Int)(hlim:-1000000<=lim/\lim<=1000000)(hl:ks.length<4611686018427387904)(g:∀ x∈ks,∀ m:Int,-1000000<=m->m<=1000000->D.ask (.fn 99) [.agg (eF x),iv m] []=Δ (iv (Fi x m),[])):∀(m i:Nat) (n:Int),ks.length-i=m->i<=ks.length->1<=n->n<=1000001->
  D.ask (.lp 99 0) [iv lim,iv n,.ls (ks.map eF),iv (i:Int)] []=Δ (.tup [iv 0,iv (Dk (ks.drop i) lim n)],[]):=by
 intro m
 induction m with
 |zero=>
  intro i n hm hi h1 h2;rw[Aqq (by omega),Dk];refine As Kz ZE (Ahh ..) ?_;rw[Ai];exact E8 (by omega)
 |succ m ih=>
  intro i n hm hi h1 h2;have hlt:i<ks.length:=by omega
  rw[π hlt,Dk];refine As Kz ZE (Ahh ..) ?_;rw[Ai];refine Ak ?_
  by_cases hn:n<=lim
  .rw[if_pos hn]
   refine Cx ?_ hn;rw[Av,At (θ hlt)];have gy:=g ks[i] (Aqz hlt) (lim-n) (by omega) (by omega);have hb:=Mp ks[i] (lim-n);revert gy hb;generalize ks[i]=y;obtain⟨yk,yt,ye,ys⟩:=y;intro gy hb;simp only[eF,eN,ND,DK,Ab]at gy ⊢;rw[FH (by omega) (by omega)];refine Aa gy ?_;simp only[ND,DK,Ab];rw[Gy (by omega) (by omega),BB (by omega)];refine Aa (ih (i+1) _ (by omega) (by omega) (by omega) (by omega)) ?_;rfl
  .rw[if_neg hn]
   exact PV hn
theorem AaI:∀(N:Nat) (x:Fm),SizeOf.sizeOf x<N->WzF x->∀ lim:Int,-1000000<=lim->lim<=1000000->D.ask (.fn 99) [.agg (eF x),iv lim] []=Δ (iv (Fi x lim),[]):=by
 intro N
 induction N with
 |zero=>intro x h;omega
 |succ N ih=>
  intro x hN hw lim hlim hlim2;have gk:=KS Kk x;have hwk:(Bq x).length<4611686018427387904/\∀ y∈Bq x,SizeOf.sizeOf y<N/\WzF y:=by
   obtain⟨ht,hl,h⟩:=hw;rename_i k t e ks;refine⟨?_,λy hy=>?_⟩
   .rw[Bq]
    split
    .exact hl
    .split
     .rw[AqT];omega
     .simp
   .have hm:=H8 hy
    exact⟨by have:=Cq (k:=k) (t:=t) (e:=e) hm;omega,h y hm⟩
  have gl:=AaH Kz (Bq x) lim ⟨hlim,hlim2⟩ hwk.1 (λy hy m h1 h2=>ih y (hwk.2 y hy).1 (hwk.2 y hy).2 m h1 h2) _ 0 1 rfl (by omega) (by omega) (by omega);rw[Aqk,←Pp]at gl;obtain⟨k,t,e,ks⟩:=x;simp only[eF,eN]at gk ⊢;refine Aw Kz ZE (e99 ..) ?_;refine Aa gk ?_;simp only[ND,DK,Ab];refine Aa gl ?_;rfl
variable (Kw:Knows Al Px D)
include Kw
omit Kk Kw in
theorem Agr(ks:List Fm)(L:Int)(hl:ks.length<4611686018427387904)(g:∀ x∈ks,D.ask (.fn 100) [.agg (eF x),iv L] []=Δ (bv (GU L x),[])):∀(m i:Nat),ks.length-i=m->i<=ks.length->
  D.ask (.lp 100 0) [iv L,.ls (ks.map eF),iv (i:Int)] []=Δ (if(ks.drop i).all (GU L) then .tup [iv 0] else .tup [bv U,bv false],[]):=by
 intro m
 induction m with
 |zero=>
  intro i hm hi;rw[Aqq (by omega),Asg,if_pos rfl];refine As Kz RY (YG ..) ?_;rw[Ai];exact E8 (by omega)
 |succ m ih=>
  intro i hm hi;have hlt:i<ks.length:=by omega
  rw[π hlt,ArP];refine As Kz RY (YG ..) ?_;rw[Ai];refine Ak ?_;rw[Av,At (θ hlt)];have gy:=g ks[i] (Aqz hlt);revert gy;generalize ks[i]=y;obtain⟨yk,yt,ye,ys⟩:=y;intro gy;generalize hb:GU L (.mk yk yt ye ys)=b at gy;simp only[eF,eN,ND,DK,Ab]at gy ⊢;refine Aa gy ?_;simp only[ND,DK,Ab]
  cases b with
  |false=>rfl
  |true=>
   refine Ac ?_;rw[BB (by omega),ArJ];refine Aa (ih (i+1) (by omega) (by omega)) ?_
   cases (ks.drop (i+1)).all (GU L)<;>rfl
theorem Ags(L:Int):∀(N:Nat) (x:Fm),SizeOf.sizeOf x<N->WzF x->D.ask (.fn 100) [.agg (eF x),iv L] []=Δ (bv (GU L x),[]):=by
 intro N
 induction N with
 |zero=>intro x h;omega
 |succ N ih=>
  intro x hN hw;have gk:=KS Kk x;have hwk:(Bq x).length<4611686018427387904/\∀ y∈Bq x,SizeOf.sizeOf y<N/\WzF y:=by
   obtain⟨ht,hl,h⟩:=hw;rename_i k t e ks;refine⟨?_,λy hy=>?_⟩
   .rw[Bq]
    split
    .exact hl
    .split
     .rw[AqT];omega
     .simp
   .have hm:=H8 hy
    exact⟨by have:=Cq (k:=k) (t:=t) (e:=e) hm;omega,h y hm⟩
  have gl:=Agr Kz (Bq x) L hwk.1 (λy hy=>ih y (hwk.2 y hy).1 (hwk.2 y hy).2) _ 0 rfl (by omega);rw[Aqk]at gl;obtain⟨k,t,e,ks⟩:=x;rw[OO];generalize (Bq (.mk k t e ks)).all (GU L)=b at gl;have gf:=Zl Kw [(t,e)] 1 L (by omega);rw[List.map_cons,List.map_nil,ArP,Asg,Atz,show (decide ([(t,e)].length<=1))=U from rfl,ArJ]at gf;obtain⟨ps,kz⟩:=t;simp only[IS,eF,eN]at gk gf gl ⊢;refine Aw Kz RY (Anx ..) ?_
  by_cases h2:k=2
  .rw[if_pos h2]
   refine Bk ?_ h2;refine Aa gf ?_;simp only[ND,DK,Ab]
   cases EH L (⟨ps,kz⟩,e) with
   |false=>rfl
   |true=>
    refine Ac ?_;refine Aa gk ?_;simp only[ND,DK,Ab];refine Aa gl ?_
    cases b<;>rfl
  .rw[if_neg h2]
   refine AC ?_ h2;refine Aa gk ?_;simp only[ND,DK,Ab];refine Aa gl ?_
   cases b<;>rfl
theorem Agl(x:Fm)(hw:WzF x)(most L:Int)(h1:-1000000<=most)(h2:most<=1000000):D.ask (.fn 35) [.agg (eF x),iv most,iv L] []=Δ (bv (decide (Fi x most<=most)&&GU L x),[]):=by
 have gs:=AaI Kk Kz _ x (Arr _) hw most h1 h2;have gf:=Ags Kk Kz Kw L _ x (Arr _) hw;obtain⟨k,t,e,ks⟩:=x;generalize hs:Fi (.mk k t e ks) most=s at gs;generalize hb:GU L (.mk k t e ks)=b at gf;simp only[eF,eN]at gs gf ⊢;refine Aw Kz Al1 (e35 ..) ?_;refine Aa gs ?_;simp only[ND,DK,Ab]
 by_cases h:s<=most
 .rw[decide_eq_true h,ArJ]
  refine Aj ?_;refine Aa gf ?_
  cases b<;>rfl
 .rw[decide_eq_false h]
  exact PW (by omega)
