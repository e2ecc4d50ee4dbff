/- Functions of the program -/
import Derived.Test.YtpncilciembjdaaGreatDoorGBS
import Derived.Test.YtpncilciembjdaaGreatDoorGBR
import Derived.Test.YtpncilciembjdaaGreatDoorGBP
set_option linter.all false
open Bool renaming false->Ξ,true->U,true_and->ArJ
open Int renaming eq_ofNat_of_zero_le->Ar8
open List renaming all_cons->ArP,all_nil->Asg,any_cons->As6,drop->Aqp,drop_eq_getElem_cons->π,drop_eq_nil_of_le->Aqq,drop_zero->Aqk,getD_eq_getElem?_getD->Aq7,getElem?_eq_getElem->θ,getElem?_map->AqD,getElem_mem->Aqz,length_cons->ε,length_map->Aqy,length_nil->Aq8,map_congr_left->ArN,map_cons->AqF,map_map->Ar2,map_nil->Are,mem_cons->ι,mem_cons_self->Aqs,mem_map->Aq6,range->AqV,range_succ->Atr,take->Aqj,take_nil->AtC,take_succ_cons->ArF,take_zero->ArM
open Nat renaming ble->Aqv,gcd->AtJ,le_refl->ω,lt_succ_self->Arr,min_eq_left->ArG,min_eq_right->Ar5,zero_le->AqR
open Option renaming some->Δ
namespace Go.Proofs.YtpncilciembjdaaGreatDoor
open ABlk renaming mk->Ω
open Tryz renaming prog->η
section
open Go.RowKit
variable (A:Ar) (D:Orc)
end
open Go.RowKit
section
open Go.RowKit
variable (A:Ar) (D:Orc)
end

section
open Go.RowKit
variable (A:Ar) (D:Orc)
end
structure DivF (D:Orc):Prop where
 div:∀ a b:List Nat,Limbs a->a.length<=999999990->Limbs b->b.length<=999999990->D.ask (.fn 144) [eN a,eN b] []
  = Δ (if Ae b=0 then .tup [.ls [],.ls [],iv 10] else .tup [eN (AK (Ae a / Ae b)),eN (AK (Ae a % Ae b)),iv 0],[])
section
open Go.RowKit
variable (A:Ar) (D:Orc)
end
structure ZdF (D:Orc):Prop where
 div:∀ a b:Zi,Lz 800000000 a->Lz 800000000 b->D.ask (.fn 66) [.agg (eZ a),.agg (eZ b)] []
  = Δ (if zv b=0 then .tup [.agg [bv Ξ,.ls []],.agg [bv Ξ,.ls []],iv 10] else .tup [.agg (eZ (A1 (qZ (zv a) (zv b)))),.agg (eZ (A1 (rZ (zv a) (zv b)))),iv 0],[])
 exact:∀ a b:Zi,Lz 800000000 a->Lz 800000000 b->D.ask (.fn 143) [.agg (eZ a),.agg (eZ b)] []
  = Δ (if zv b=0 then .tup [.agg [bv Ξ,.ls []],iv 10] else if rZ (zv a) (zv b)=0 then .tup [.agg (eZ (A1 (qZ (zv a) (zv b)))),iv 0] else .tup [.agg [bv Ξ,.ls []],iv 1],[])
 gcd:∀ a b:Zi,Lz 900000000 a->Lz 900000000 b->D.ask (.fn 147) [.agg (eZ a),.agg (eZ b)] []=Δ (.agg (eZ (A1 (AtJ (zv a).natAbs (zv b).natAbs:Nat))),[])
def Aov(g:Nat)(l:List (Int × Int)):Nat:=l.foldl (λg p=>AtJ g p.2.natAbs) g
section
open Go.RowKit
variable (A:Ar) (D:Orc)
end
structure RdF (D:Orc):Prop where
 div:∀ a b:Zi,Lz 300000000 a->Lz 300000000 b->D.ask (.fn 71) [.agg (eZ a),.agg (eZ b)] []
  = Δ (if zv b=0 then .tup [.agg [bv Ξ,.ls []],.agg [bv Ξ,.ls []],iv 10] else .tup [.agg (eZ (A1 (qZ (zv a) (zv b)))),.agg (eZ (A1 (rZ (zv a) (zv b)))),iv 0],[])
 gcd:∀ a b:Zi,Lz 900000000 a->Lz 900000000 b->D.ask (.fn 150) [.agg (eZ a),.agg (eZ b)] []=Δ (.agg (eZ (A1 (AtJ (zv a).natAbs (zv b).natAbs:Nat))),[])
def vc(ps:List (Int × Int))(v:Int):Int × Int:=(v,Fl ps v)
def YB(t:Tm):Nat:=Aov 0 (B3 t.lf.ps)
def AoX(g:Int)(p:Int × Int):Pt:=BR (p.1,qZ p.2 g)
def AoY(t:Tm):Tm:=if YB t=0 then t.lf.pln.tm else ⟨(B3 t.lf.ps).map (AoX (YB t)),A1 (qZ (zv t.k) (YB t))⟩
section
open Go.RowKit
variable (A:Ar) (D:Orc)
end



mutual
def Jp:Fm->Nat
 |.mk k _ _ ks=>1+(if k=4\/k=5 then Dh ks else if k=3 then Lm ks else 0)
def Lm:List Fm->Nat
 |[]=>0
 |x::_=>Jp x
def Dh:List Fm->Nat
 |[]=>0
 |x::r=>Jp x+Dh r
end
theorem YA(x:Fm):1<=Jp x:=by
 obtain⟨k,t,e,ks⟩:=x;rw[Jp];omega
mutual
theorem P4:∀(x:Fm) (lim:Int),Fi x lim<=lim->(Jp x:Int)<=Fi x lim
 |.mk k t e ks,lim,h=>by
  rw[Fi]at h ⊢;rw[Jp]
  by_cases h4:k=4\/k=5
  .rw[if_pos h4]at h ⊢
   rw[if_pos h4];have:=Rt ks lim 1 h;omega
  rw[if_neg h4]at h ⊢;rw[if_neg h4]
  by_cases h3:k=3
  .rw[if_pos h3]at h ⊢
   rw[if_pos h3];exact Yz ks lim h
  .rw[if_neg h3]
   rw[if_neg h3];omega
theorem Yz:∀(l:List Fm) (lim:Int),Hm l lim<=lim->((1+Lm l:Nat):Int)<=Hm l lim
 |[],lim,h=>by rw[Hm,Lm];omega
 |x::r,lim,h=>by
  rw[Hm]at h ⊢;rw[Lm]
  by_cases h1:1<=lim
  .rw[if_pos h1]at h ⊢
   have:=P4 x (lim-1) (by omega);omega
  .rw[if_neg h1]at h
   omega
theorem Rt:∀(l:List Fm) (lim n:Int),Dk l lim n<=lim->n+(Dh l:Int)<=Dk l lim n
 |[],lim,n,h=>by rw[Dk,Dh];omega
 |x::r,lim,n,h=>by
  rw[Dk]at h ⊢;rw[Dh]
  by_cases h1:n<=lim
  .rw[if_pos h1]at h ⊢
   have h2:=NU r lim (n+Fi x (lim-n));have h3:=P4 x (lim-n) (by omega);have h4:=Rt r lim _ h;omega
  .rw[if_neg h1]at h
   omega
end
theorem FB.mono{n k m j:Nat}(hn:n<=m)(hk:k<=j):∀(N:Nat) (x:Fm),SizeOf.sizeOf x<N->FB n k x->FB m j x:=by
 intro N
 induction N with
 |zero=>intro x h;omega
 |succ N ih=>
  intro x hN hx;obtain⟨ht,hl,h⟩:=hx;rename_i kd t e ks;exact .mk (ht.mono hn hk) hl λy hy=>ih y (by have:=Cq (k:=kd) (t:=t) (e:=e) hy;omega) (h y hy)
section
open Go.RowKit
theorem KE:∀(vs out:List Int),Ob out->(Iz out vs).length<=out.length+vs.length
 |[],_,_=>ω _
 |v::r,out,h=>by
  have h1:=KE r (Fe v out) (D1 v h);have h2:=G0 v h
  show (Iz (Fe v out) r).length<=_
  rw[ε];omega
mutual
theorem Ik{k:Nat}:∀(x:Fm),FC 20 k x->(Cd x).length<=20*Jp x
 |.mk kd t e ks,h=>by
  have hk:=h.kid;rw[BI]at hk;rw[Cd,Jp]
  by_cases h2:kd=2
  .rw[if_pos h2]
   have b:TmB 20 k t:=by
    cases h with
    |mk ht hl h=>exact ht h2
   have:=X6 t.lf.ps;have hl:t.lf.ps.length<=20:=b.lb.len;omega
  rw[if_neg h2]
  by_cases h3:kd=3
  .rw[if_pos h3,if_neg (by omega),if_pos h3]
   rw[if_neg (by omega),if_pos h3]at hk;have:=X5 ks hk;omega
  rw[if_neg h3]
  by_cases h4:kd=4\/kd=5
  .rw[if_pos h4,if_pos h4]
   rw[if_pos h4]at hk;have:=Lb ks [] Cf hk;rw[Aq8]at this;omega
  .rw[if_neg h4]
   exact AqR _
theorem X5{k:Nat}:∀(ks:List Fm),(∀ y∈ks.take 1,FC 20 k y)->(Hv ks).length<=20*Lm ks
 |[],_=>by rw[Hv];exact AqR _
 |y::r,h=>by
  have h1:=Ik y (h y (Aqs ..));have h2:=KE (Cd y) [] Cf;rw[Aq8]at h2;rw[Hv,Lm];omega
theorem Lb{k:Nat}:∀(ks:List Fm) (out:List Int),Ob out->(∀ y∈ks,FC 20 k y)->(DL out ks).length<=out.length+20*Dh ks
 |[],out,_,_=>by rw[DL];omega
 |y::r,out,ho,h=>by
  have h1:=Ik y (h y (Aqs ..));have h2:=KE (Cd y) out ho;have h3:=Lb r _ (EA (Cd y) out ho).1 λz hz=>h z (List.mem_cons_of_mem _ hz)
  rw[DL,Dh];omega
end
theorem ML(x:Fm):Jp x=1+Dh (Bq x):=by
 obtain⟨k,t,e,ks⟩:=x;rw[Jp,BI]
 by_cases h4:k=4\/k=5
 .rw[if_pos h4,if_pos h4]
 rw[if_neg h4,if_neg h4]
 by_cases h3:k=3
 .rw[if_pos h3,if_pos h3]
  cases ks with
  |nil=>rw[Lm,AtC,Dh]
  |cons y r=>rw[Lm,ArF,ArM,Dh,Dh];omega
 .rw[if_neg h3,if_neg h3,Dh]
theorem MN:∀(l:List Fm) (n:Nat),Dh (l.take n)<=Dh l
 |[],n=>by rw[AtC];exact ω _
 |x::r,0=>by rw[ArM,Dh];omega
 |x::r,n+1=>by
  have:=MN r n;rw[ArF,Dh,Dh];omega
theorem MM:∀{l:List Fm},l.length<=Dh l/\∀ y∈l,Jp y<=Dh l
 |[]=>⟨AqR _,λy hy=>by cases hy⟩
 |x::r=>by
  obtain⟨h1,h2⟩:=MM (l:=r);have:=YA x;rw[Dh,ε];refine⟨by omega,λy hy=>?_⟩;rcases ι.1 hy with rfl|hy
  .omega
  .have:=h2 y hy
   omega
section
variable {D:Orc} (Kt:Knows Al PA D) (Kh:Knows Al NZ D) (F:RF D) (Kk:Knows Al S0 D) (Kv:Knows Al QS D)
include Kt Kv
theorem Abz(t4:List (List AV))(t5:Int)(vs:List Int)(hl:vs.length<=10000):∀(m i:Nat) (out:List Int),vs.length-i=m->i<=vs.length->Ob out->out.length<=100000+i->
  D.ask (.lp 51 1) [.ls (out.map eI),.ls t4,iv t5,.ls (vs.map eI),iv (i:Int)] []=Δ (.tup [iv 2,.ls ((Iz out (vs.drop i)).map eI),.ls t4,iv t5],[]):=by
 intro m
 induction m with
 |zero=>
  intro i out hm hi ho hol;rw[Aqq (by omega)];refine As Kv Qb (Ahc ..) ?_;rw[Ai];exact Aj rfl
 |succ m ih=>
  intro i out hm hi ho hol;have h1:i<vs.length:=by omega
  have hn1:∀ kk,Bh (vs.map eI) i kk=kk (eI vs[i]):=λkk=>At (θ h1) kk
  rw[π h1];generalize vs[i]=v at *;have gi:=O1 Kt v out (by omega);have hlen:=G0 v ho;have ih:=ih (i+1) (Fe v out) (by omega) (by omega) (D1 v ho) (by omega);refine As Kv Qb (Ahc ..) ?_;rw[Ai];refine Ak ?_;rw[Av,hn1];simp only[eI,ND,DK,Ab];refine Aa gi ?_;simp only[ND,DK,Ab];rw[BB (by omega)];refine Aa ih ?_;rfl
theorem Aby(ks:List Fm)(hl:ks.length<=100000)(g:∀ y∈ks,D.ask (.fn 51) [.agg (eF y)] []=Δ (.ls ((Cd y).map eI),[]))(hv:∀ y∈ks,(Cd y).length<=10000):∀(m i:Nat) (out:List Int),ks.length-i=m->i<=ks.length->Ob out->(∀ j,i<=j->(DL out ((ks.drop i).take (j-i))).length<=100000)->
  D.ask (.lp 51 0) [.ls (out.map eI),.ls (ks.map eF),iv (i:Int)] []=Δ (.tup [iv 0,.ls ((DL out (ks.drop i)).map eI)],[]):=by
 intro m
 induction m with
 |zero=>
  intro i out hm hi ho hb;rw[Aqq (by omega),DL];refine As Kv Qb (Ahb ..) ?_;rw[Ai];exact Aj rfl
 |succ m ih=>
  intro i out hm hi ho hb;have h1:i<ks.length:=by omega
  have gy:=g ks[i] (Aqz h1);have hy:=hv ks[i] (Aqz h1);have ed:ks.drop i=ks[i]::ks.drop (i+1):=π h1;have b0:=hb i (ω _);rw[Nat.sub_self,ArM,DL]at b0;have g1:=Abz Kt Kv (ks.map eF) (i:Int) (Cd ks[i]) hy _ 0 out rfl (by omega) ho (by omega);have ih:=ih (i+1) (Iz out (Cd ks[i])) (by omega) (by omega) (EA _ out ho).1 (λj hj=>by
   have:=hb j (by omega);rw[ed,show j-i=(j-(i+1))+1 by omega,ArF,DL]at this;exact this)
  rw[Aqk]at g1;rw[ed,DL];have hn1:∀ kk,Bh (ks.map eF) i kk=kk (eF ks[i]):=λkk=>At (θ h1) kk
  refine As Kv Qb (Ahb ..) ?_;rw[Ai];refine Ak ?_;rw[Av,hn1];generalize ks[i]=y at *;generalize Cd y=vs at *;obtain⟨yk,yt,ye,ys⟩:=y;simp only[eF,eN,ND,DK,Ab]at gy ⊢;refine Aa gy ?_;simp only[ND,DK,Ab];refine Aa g1 ?_;simp only[ND,DK,Ab];rw[BB (by omega)];refine Aa ih ?_;rfl
include Kh F Kk
theorem Xm{k:Nat}(hk:k<=1000):∀(N:Nat) (x:Fm),SizeOf.sizeOf x<N->FC 20 k x->Jp x<=100->D.ask (.fn 51) [.agg (eF x)] []=Δ (.ls ((Cd x).map eI),[]):=by
 intro N
 induction N with
 |zero=>intro x h;omega
 |succ N ih=>
  intro x hN hx hc;obtain⟨kd,t,e,ks⟩:=x;have gk:=KS Kk (.mk kd t e ks)
  by_cases h2:kd=2
  .have b:TmB 20 k t:=by
    cases hx with
    |mk ht hl h=>exact ht h2
   have gv:=AaN Kt Kh F b (by omega) (by omega);rw[Cd,if_pos h2,eF];obtain⟨ps,kz⟩:=t;refine Aw Kv Qb (e51 ..) ?_;exact(Dq h2).trans ((Dm gv _).trans rfl)
  .have hcl:∀ y∈Bq (.mk kd t e ks),Jp y<=100/\(Bq (.mk kd t e ks)).length<=100:=λy hy=>by
    rw[ML]at hc;obtain⟨h1,h2⟩:=MM (l:=Bq (.mk kd t e ks));have:=h2 y hy;omega
   have hvl:∀ y∈Bq (.mk kd t e ks),(Cd y).length<=10000:=λy hy=>by
    have:=Ik y (hx.kid y hy);have:=(hcl y hy).1;omega
   have hl:(Bq (.mk kd t e ks)).length<=100:=by
    cases hk2:Bq (.mk kd t e ks) with
    |nil=>exact AqR _
    |cons y r=>
     have:=(hcl y (by rw[hk2];exact Aqs ..)).2
     rwa [hk2]at this
   have hA:DL [] (Bq (.mk kd t e ks))=Cd (.mk kd t e ks):=by
    rw[Cd,if_neg h2,BI]
    by_cases h3:kd=3
    .rw[if_neg (by omega),if_pos h3,if_pos h3]
     cases ks with
     |nil=>rfl
     |cons y r=>rw[ArF,ArM,DL,DL,Hv]
    rw[if_neg h3,if_neg h3];split
    .rfl
    .rfl
   have g:=Aby Kt Kv (Bq (.mk kd t e ks)) (by omega) (λy hy=>ih y (by have:=Cq (k:=kd) (t:=t) (e:=e) (Di hy);omega) (hx.kid y hy) (hcl y hy).1) hvl _ 0 [] rfl (by omega) Cf (λj _=>by
    rw[Aqk];have h1:=Lb ((Bq (.mk kd t e ks)).take (j-0)) [] Cf λy hy=>hx.kid y (List.mem_of_mem_take hy)
    have h2:=MN (Bq (.mk kd t e ks)) (j-0);rw[ML]at hc;rw[Aq8]at h1;omega)
   rw[Aqk,hA]at g;rw[eF]at gk ⊢;refine Aw Kv Qb (e51 ..) ?_;refine AC ?_ h2;refine Aa gk ?_;simp only[ND,DK,Ab];refine Aa g ?_;rfl
end
end
section
open Go.RowKit
variable (A:Ar) (D:Orc)
end
def On(h:Fm->Bool):List Fm->Nat->AV
 |[],_=>.tup [iv 0]
 |y::r,i=>if h y then .tup [bv U,iv (i:Int)] else On h r (i+1)
def Om(h:Fm->Bool):List Fm->Nat->Int
 |[],_=>-1
 |y::r,i=>if h y then(i:Int) else Om h r (i+1)
theorem Jz(h:Fm->Bool):∀(l:List Fm) (i:Nat),(On h l i=.tup [iv 0]/\Om h l i=-1)\/∃ j:Nat,On h l i=.tup [bv U,iv (j:Int)]/\Om h l i=(j:Int)
 |[],i=>.inl ⟨rfl,rfl⟩
 |y::r,i=>by
  rw[On,Om]
  by_cases e:h y=U
  .rw[if_pos e,if_pos e];exact .inr ⟨i,rfl,rfl⟩
  .rw[if_neg e,if_neg e];exact Jz h r (i+1)
theorem Nl(h:Fm->Bool):∀(l:List Fm) (i:Nat),decide (0<=Om h l i)=l.any h
 |[],i=>rfl
 |y::r,i=>by
  rw[Om,As6]
  by_cases e:h y=U
  .rw[if_pos e,e,Bool.true_or]
   exact decide_eq_true (by omega)
  .rw[if_neg e,Bool.eq_false_iff.2 e,Bool.false_or]
   exact Nl h r (i+1)
theorem Nf(f:Int->Int):∀ l,C1 f l=l.any (BA f)
 |[]=>rfl
 |x::r=>by rw[C1,Nf f r,As6]
theorem Nd(f:Int->Int):∀ l,C0 f l = !l.any λx=>!BA f x
 |[]=>rfl
 |x::r=>by rw[C0,Nd f r,As6,Bool.not_or,Bool.not_not]
abbrev Ye(vals:List (List AV)):ABlk:=⟨[.ls vals],U,Ξ⟩
abbrev bkH:ABlk:=⟨[.fn (.func 101) [] [.ptr 1 0]],U,Ξ⟩
section
variable {D:Orc} (Kl:Knows Al Abd D)
include Kl
theorem AiZ(vals:List (List AV))(h:Fm->Bool)(ks:List Fm)(hl:ks.length<=1000000)(g:∀ y∈ks,D.ask (.fn 101) [.agg (eF y),.ptr 0 0] [Ye vals]=Δ (bv (h y),[.keep])):∀(m i:Nat),ks.length-i=m->i<=ks.length->
  D.ask (.lp 171 0) [.ls (ks.map eF),.fn (.func 101) [] [.ptr 0 0],iv (ks.length:Int),iv (i:Int)] [Ye vals]=Δ (On h (ks.drop i) i,[.keep]):=by
 intro m
 induction m with
 |zero=>
  intro i hm hi;rw[Aqq (by omega),On];refine As Kl M9 (U6 ..) ?_;exact E8 (by omega)
 |succ m ih=>
  intro i hm hi;have hlt:i<ks.length:=by omega
  rw[π hlt,On];refine As Kl M9 (U6 ..) ?_;refine Ak ?_;rw[Av,At (θ hlt)];have gy:=g ks[i] (Aqz hlt);revert gy;generalize ks[i]=y;obtain⟨yk,yt,ye,ys⟩:=y;intro gy;generalize hb:h (.mk yk yt ye ys)=b at gy;simp only[eF,eN,ND,DK,Ab]at gy ⊢;refine Aa gy ?_;simp only[ND,DK,Ab]
  cases b with
  |true=>rfl
  |false=>
   refine D6 ?_;rw[BB (by omega),if_neg (by decide)];refine Aa (ih (i+1) (by omega) (by omega)) ?_;rcases Jz h (ks.drop (i+1)) (i+1) with⟨e,_⟩|⟨j,e,_⟩ <;>
   .rw[e];rfl
theorem Ai0(vals:List (List AV))(h:Fm->Bool)(ks:List Fm)(hl:ks.length<=1000000)(g:∀ y∈ks,D.ask (.fn 101) [.agg (eF y),.ptr 0 0] [Ye vals]=Δ (bv (h y),[.keep])):D.ask (.fn 102) [.ls (ks.map eF),.fn (.func 101) [] [.ptr 0 0]] [Ye vals]=Δ (bv (ks.any h),[.keep]):=by
 have gl:=AiZ Kl vals h ks hl g _ 0 rfl (by omega);rw[Aqk]at gl;have gi:D.ask (.fn 171) [.ls (ks.map eF),.fn (.func 101) [] [.ptr 0 0]] [Ye vals]=Δ (iv (Om h ks 0),[.keep]):=by
  refine Aw Kl M9 (AlJ ..) ?_;rw[Ai];refine Aa gl ?_;rcases Jz h ks 0 with⟨e,e'⟩|⟨j,e,e'⟩ <;>
  .rw[e,e'];rfl
 refine Aw Kl Zv (AlD ..) ?_;refine Aa gi ?_;simp only[ND,DK,Ab];rw[←Nl h ks 0]
 by_cases e:0<=Om h ks 0
 .rw[decide_eq_true e];exact Tv e
 .rw[decide_eq_false e];exact PV e
theorem Ai1(vals:List (List AV))(h:Fm->Bool)(ks:List Fm)(hl:ks.length<=1000000)(g:∀ y∈ks,D.ask (.fn 103) [.agg (eF y),.ptr 0 0] [bkH,Ye vals]=Δ (bv (h y),[.keep,.keep])):∀(m i:Nat),ks.length-i=m->i<=ks.length->
  D.ask (.lp 171 0) [.ls (ks.map eF),.fn (.func 103) [] [.ptr 0 0],iv (ks.length:Int),iv (i:Int)] [bkH,Ye vals]=Δ (On h (ks.drop i) i,[.keep,.keep]):=by
 intro m
 induction m with
 |zero=>
  intro i hm hi;rw[Aqq (by omega),On];refine As Kl Na (U7 ..) ?_;exact E8 (by omega)
 |succ m ih=>
  intro i hm hi;have hlt:i<ks.length:=by omega
  rw[π hlt,On];refine As Kl Na (U7 ..) ?_;refine Ak ?_;rw[Av,At (θ hlt)];have gy:=g ks[i] (Aqz hlt);revert gy;generalize ks[i]=y;obtain⟨yk,yt,ye,ys⟩:=y;intro gy;generalize hb:h (.mk yk yt ye ys)=b at gy;simp only[eF,eN,ND,DK,Ab]at gy ⊢;refine Aa gy ?_;simp only[ND,DK,Ab]
  cases b with
  |true=>rfl
  |false=>
   refine D6 ?_;rw[BB (by omega),if_neg (by decide)];refine Aa (ih (i+1) (by omega) (by omega)) ?_;rcases Jz h (ks.drop (i+1)) (i+1) with⟨e,_⟩|⟨j,e,_⟩ <;>
   .rw[e];rfl
theorem Ai2(vals:List (List AV))(h:Fm->Bool)(ks:List Fm)(hl:ks.length<=1000000)(g:∀ y∈ks,D.ask (.fn 103) [.agg (eF y),.ptr 0 0] [bkH,Ye vals]=Δ (bv (h y),[.keep,.keep])):D.ask (.fn 102) [.ls (ks.map eF),.fn (.func 103) [] [.ptr 0 0]] [bkH,Ye vals]=Δ (bv (ks.any h),[.keep,.keep]):=by
 have gl:=Ai1 Kl vals h ks hl g _ 0 rfl (by omega);rw[Aqk]at gl;have gi:D.ask (.fn 171) [.ls (ks.map eF),.fn (.func 103) [] [.ptr 0 0]] [bkH,Ye vals]=Δ (iv (Om h ks 0),[.keep,.keep]):=by
  refine Aw Kl Na (AlK ..) ?_;rw[Ai];refine Aa gl ?_;rcases Jz h ks 0 with⟨e,e'⟩|⟨j,e,e'⟩ <;>
  .rw[e,e'];rfl
 refine Aw Kl Zw (AlE ..) ?_;refine Aa gi ?_;simp only[ND,DK,Ab];rw[←Nl h ks 0]
 by_cases e:0<=Om h ks 0
 .rw[decide_eq_true e];exact Tv e
 .rw[decide_eq_false e];exact PV e
theorem Ky(vals:List (List AV))(b:Bool)(y:Fm)(g:D.ask (.fn 36) [.agg (eF y),.ls vals] []=Δ (bv b,[])):D.ask (.fn 101) [.agg (eF y),.ptr 0 0] [Ye vals]=Δ (bv b,[.keep]):=by
 obtain⟨yk,yt,ye,ys⟩:=y;simp only[eF,eN]at g ⊢;refine Aw Kl Aho (Anz ..) ?_;refine Aa g ?_
 cases b<;>rfl
theorem WK(vals:List (List AV))(b:Bool)(y:Fm)(g:D.ask (.fn 36) [.agg (eF y),.ls vals] []=Δ (bv b,[])):D.ask (.fn 103) [.agg (eF y),.ptr 0 0] [bkH,Ye vals]=Δ (bv (!b),[.keep,.keep]):=by
 have g1:=Ky Kl vals b y g;obtain⟨yk,yt,ye,ys⟩:=y;simp only[eF,eN]at g1 ⊢;refine Aw Kl Ahp (AnA ..) ?_;refine Aa g1 ?_
 cases b<;>rfl
variable (Kv:Knows Al VX D) (Kt:Knows Al LN D) (Z:ZF D)
include Kv Kt Z
theorem WU{n k j:Nat}(hn:n<=1000000)(vals:List Zi)(hv:∀ z∈vals,Lz j z)(hv24:k<24\/∀ z∈vals,z.abs.length<24)(hl:vals.length<=1000000)(hk:k+n+j+1+vals.length<=400000000):∀(N:Nat) (x:Fm),SizeOf.sizeOf x<N->FC n k x->
  D.ask (.fn 36) [.agg (eF x),.ls (vals.map eZ)] []=Δ (bv (BA (Cm (vals.map zv)) x),[]):=by
 intro N
 induction N with
 |zero=>intro x h;omega
 |succ N ih=>
  intro x hN hx;obtain⟨ht,hkl,h⟩:=hx;rename_i kd t e ks;have gks:∀ y∈Bq (.mk kd t e ks),D.ask (.fn 36) [.agg (eF y),.ls (vals.map eZ)] []=Δ (bv (BA (Cm (vals.map zv)) y),[]):=λy hy=>ih y (by have:=Cq (k:=kd) (t:=t) (e:=e) (H8 hy);omega) (h y hy)
  rw[Bq]at hkl gks;rw[BA]
  by_cases h0:kd=0
  .rw[if_pos h0,eF,CJ]
   exact Kl.fn' OY _ rfl ((Y8 ..).trans (Dq h0))
  rw[if_neg h0]
  by_cases h2:kd=2
  .have gr:=SI Kv Kt Z (ht h2) hn e vals hv hv24 hl hk
   rw[if_pos h2,eF,CJ];generalize Aar (t.lf.val (Cm (vals.map zv))) e=b at gr;obtain⟨ps,kz⟩:=t;simp only[IS,eN]at gr ⊢;refine Aw Kl OY (Y8 ..) ?_;refine AC ?_ h0;refine Bk ?_ h2;refine Aa gr ?_
   cases b<;>rfl
  rw[if_neg h2]
  by_cases h3:kd=3
  .rw[if_pos h3]
   rw[if_neg (by omega),if_pos h3]at gks;rw[eF,CJ];refine Aw Kl OY (Y8 ..) ?_;refine AC ?_ h0;refine AC ?_ h2;refine Bk ?_ h3;rw[Ai]
   cases ks with
   |nil=>rfl
   |cons y r=>
    have gy:=Ky Kl _ _ y (gks y (by simp));refine Ak ?_ (by rw[ε];omega);rw[At (x:=y) (show (y::r)[0]? = Δ y from rfl),Dw];generalize BA (Cm (vals.map zv)) y=b at gy;obtain⟨yk,yt,ye,ys⟩:=y;simp only[eF,eN,ND,DK,Ab]at gy ⊢;refine Aa gy ?_
    cases b<;>rfl
  rw[if_neg h3]
  by_cases h4:kd=4
  .rw[if_pos h4]
   rw[if_pos (.inl h4)]at gks hkl;have gc:=Ai2 Kl (vals.map eZ) (λx=>!BA (Cm (vals.map zv)) x) ks hkl λy hy=>WK Kl _ _ y (gks y hy)
   rw[Nd];generalize ks.any (λx=>!BA (Cm (vals.map zv)) x)=b at gc;rw[eF,CJ];refine Aw Kl AhT (Aoq ..) ?_;refine AC ?_ h0;refine AC ?_ h2;refine AC ?_ h3;refine Bk ?_ h4;refine Aa gc ?_
   cases b<;>rfl
  rw[if_neg h4]
  by_cases h5:kd=5
  .rw[if_pos h5]
   rw[if_pos (.inr h5)]at gks hkl;have gc:=Ai0 Kl (vals.map eZ) (BA (Cm (vals.map zv))) ks hkl λy hy=>Ky Kl _ _ y (gks y hy)
   rw[Nf];generalize ks.any (BA (Cm (vals.map zv)))=b at gc;rw[eF,CJ];refine Aw Kl OY (Y8 ..) ?_;refine AC ?_ h0;refine AC ?_ h2;refine AC ?_ h3;refine AC ?_ h4;refine Bk ?_ h5;refine Aa gc ?_
   cases b<;>rfl
  rw[if_neg h5,eF,CJ];refine Aw Kl OY (Y8 ..) ?_;refine AC ?_ h0;refine AC ?_ h2;refine AC ?_ h3;refine AC ?_ h4;exact Cn h5
end
section
open Go.RowKit
variable (A:Ar) (D:Orc)
end
structure TiF (D:Orc):Prop where
 plain:∀{n k:Nat} {t:Tm},TmB n k t->n<=1000000->k+n<=300000000->D.ask (.fn 62) [.agg (eT t)] []=Δ (.agg (eT t.lf.pln.tm),[])
 content:∀{n k:Nat} {t:Tm},TmB n k t->n<=1000000->k+n<=300000000->D.ask (.fn 67) [.agg (eT t)] []=Δ (.agg (eZ (A1 (YB t:Int))),[])
 shrink:∀{n k:Nat} {t:Tm},TmB n k t->n<=1000000->k+n<=300000000->D.ask (.fn 65) [.agg (eT t)] []=Δ (.tup [.agg (eT (AoY t)),.agg (eZ (A1 (YB t:Int)))],[])
 neg:∀{n k:Nat} {t:Tm},TmB n k t->n<=1000000->k+n<=300000000->D.ask (.fn 68) [.agg (eT t)] []=Δ (.agg (eT (t.lf.scale (-1)).tm),[])
section
open Go.RowKit
variable (A:Ar) (D:Orc)
end

theorem CanFs.mem:∀{l:List Fm},CanFs l->∀ x∈l,CanF x
 |_::_,.cons h hr,x,hx=>by
  rcases ι.1 hx with rfl|hx
  .exact h
  .exact hr.mem x hx
theorem CanF.kids{x:Fm}(h:CanF x):∀ y∈x.kids,CanF y:=by
 cases h with
 |tru b=>intro y hy;cases b<;>cases hy
 |atom l e h=>intro y hy;cases hy
 |no x h=>intro y hy;rcases List.mem_singleton.1 hy with rfl;exact h
 |and l h=>exact h.mem
 |or l h=>exact h.mem
 |no0=>intro y hy;cases hy
theorem CanF.head{x:Fm}(h:CanF x):(x.kind=2/\x.kids=[]/\∃ l:Lf,l.pln=l/\x.tm=l.tm)\/(x.kind≠2/\x.tm=Tm0/\x.eq=Ξ):=by
 cases h with
 |tru b=>exact .inr ⟨by cases b<;>decide,rfl,rfl⟩
 |atom l e h=>exact .inl ⟨rfl,rfl,l,h,rfl⟩
 |no x h=>exact .inr ⟨by show (3:Int)≠2;decide,rfl,rfl⟩
 |and l h=>exact .inr ⟨by show (4:Int)≠2;decide,rfl,rfl⟩
 |or l h=>exact .inr ⟨by show (5:Int)≠2;decide,rfl,rfl⟩
 |no0=>exact .inr ⟨by show (3:Int)≠2;decide,rfl,rfl⟩
section
open Go.RowKit
variable (A:Ar) (D:Orc)
end

theorem FB.kids{n k:Nat}{x:Fm}(h:FB n k x):x.kids.length<=1000000/\(∀ y∈x.kids,FB n k y)/\TmB n k x.tm:=by
 cases h with
 |mk ht hl h=>exact⟨hl,h,ht⟩

section
open Go.RowKit
variable (A:Ar) (D:Orc)
end

section
variable {D:Orc} (Kl:Knows Al QR D) (F:RF D)
include Kl F
theorem X1{n k j:Nat}(ps:List Pt)(hl:ps.length<=n)(hn:n<=1000000)(hz:∀ p∈ps,Lz k p.z)(vals:List Zi)(hv:∀ z∈vals,Lz j z)(hvl:vals.length<=1000000)(hk:k+j+1+n<=400000000)(y0:Bool)(y1:List (List AV)):∀(m i:Nat) (z:Zi),ps.length-i=m->i<=ps.length->Lz (k+j+1+i) z->
  ∃ z':Zi,D.ask (.lp 52 0) [.ls (vals.map eZ),.ptr 0 0,.ptr 1 0,.ls (ps.map eP),iv (ps.length:Int),iv (i:Int)] [bk [bv y0,.ls y1],bk (eZ z)]
   = Δ (.tup [iv 0,.ptr 0 0,.ptr 1 0],[.set (bk [bv y0,.ls y1]),.set (bk (eZ z'))])/\zv z'=zv z+Cl (Cm (vals.map zv)) ((ps.drop i).map pv)/\Lz (k+j+1+ps.length) z':=by
 intro m
 induction m with
 |zero=>
  intro i z hm hi ha;obtain⟨zn,za⟩:=z;refine⟨⟨zn,za⟩,?_,?_,ha.mono (by omega)⟩
  .refine As Kl Ua (U8 ..) ?_
   exact Aj rfl
  .rw[Aqq (by omega),Are,Cl,Int.add_zero]
 |succ m ih=>
  intro i z hm hi ha;have h1:i<ps.length:=by omega
  have hn1:∀ kk,Bh (ps.map eP) i kk=kk (eP ps[i]):=λkk=>At (θ h1) kk
  have hzp:=hz ps[i] (Aqz h1);rw[π h1,AqF,Cl];revert hn1 hzp;generalize ps[i]=p;intro hn1 hzp;have skip:Cm (vals.map zv) (pv p).1=0->∃ z':Zi,D.ask (.lp 52 0) [.ls (vals.map eZ),.ptr 0 0,.ptr 1 0,.ls (ps.map eP),iv (ps.length:Int),iv ((i+1:Nat):Int)] [bk [bv y0,.ls y1],bk (eZ z)]
   = Δ (.tup [iv 0,.ptr 0 0,.ptr 1 0],[.set (bk [bv y0,.ls y1]),.set (bk (eZ z'))])/\zv z'=zv z+((pv p).2*Cm (vals.map zv) (pv p).1+Cl (Cm (vals.map zv)) ((ps.drop (i+1)).map pv))/\Lz (k+j+1+ps.length) z':=λh0=>by
   obtain⟨z',g,h2,h3⟩:=ih (i+1) z (by omega) (by omega) (ha.mono (by omega));refine⟨z',g,?_,h3⟩;rw[h2,h0,Int.mul_zero,Int.zero_add]
  by_cases h0:0<=p.v
  .by_cases h2:p.v<(vals.length:Int)
   .clear skip
    obtain⟨v,hvv⟩:=Ar8 h0;have h3:v<vals.length:=by omega
    have hn2:∀ kk,Bh (vals.map eZ) v kk=kk (eZ vals[v]):=λkk=>At (θ h3) kk
    have hx:=hv vals[v] (Aqz h3);have ev:Cm (vals.map zv) (pv p).1=zv vals[v]:=by
     show Cm _ p.v=_
     rw[hvv,Hs,Aq7,AqD,θ h3];rfl
    rw[ev];revert hn2 hx;generalize vals[v]=x;intro hn2 hx;have gm:=F.mul p.z x (hzp.mono (by omega)) (hx.mono (by omega));have hpr:InB (k+j) (zv p.z*zv x):=InB.mul hzp.inb hx.inb;have ga:=F.add z (A1 (zv p.z*zv x)) (ha.mono (by omega)) (hpr.lz.mono (by omega));rw[Cb]at ga;have hm2:ps.length-(i+1)=m:=by omega
    have hl2:Lz (k+j+1+(i+1)) (A1 (zv z+zv p.z*zv x)):=(InB.add ha.inb (hpr.mono (show k+j<=k+j+1+i by omega))).lz;obtain⟨z',g,h4,h5⟩:=ih (i+1) (A1 (zv z+zv p.z*zv x)) hm2 h1 hl2;refine⟨z',?_,?_,h5⟩
    .obtain⟨xn,xa⟩:=x
     obtain⟨zn,za⟩:=z;refine As Kl Ua (U8 ..) ?_;refine Ak ?_;rw[Av,hn1];simp only[eP,eN,ND,DK,Ab];rw[Ai,BB (by omega)];refine Cx ?_ h0;refine Ak ?_ h2;rw[hvv,Av,hn2];simp only[eZ,eN,ND,DK,Ab]at gm ga g ⊢;refine Aa gm ?_;simp only[ND,DK,Ab];refine Aa ga ?_;simp only[ND,DK,Ab];refine Aa g ?_;rfl
    .rw[h4,Cb]
     show _=zv z+(zv p.z*zv x+_)
     omega
   .obtain⟨z',g,h4,h5⟩:=skip (N4 _ (by rw[Aqy];show _<=p.v;omega))
    refine⟨z',?_,h4,h5⟩;obtain⟨zn,za⟩:=z;refine As Kl Ua (U8 ..) ?_;refine Ak ?_;rw[Av,hn1];simp only[eP,eN,ND,DK,Ab];rw[Ai,BB (by omega)];refine Cx ?_ h0;refine Aj ?_ h2;simp only[eZ,eN]at g ⊢;refine Aa g ?_;rfl
  .obtain⟨z',g,h4,h5⟩:=skip (Ht _ _ (by show p.v<0;omega))
   refine⟨z',?_,h4,h5⟩;obtain⟨zn,za⟩:=z;refine As Kl Ua (U8 ..) ?_;refine Ak ?_;rw[Av,hn1];simp only[eP,eN,ND,DK,Ab];rw[Ai,BB (by omega)];refine C2 ?_ h0;simp only[eZ,eN]at g ⊢;refine Aa g ?_;rfl
theorem X2{n k j:Nat}{t:Tm}(ht:TmB n k t)(hn:n<=1000000)(vals:List Zi)(hv:∀ z∈vals,Lz j z)(hvl:vals.length<=1000000)(hk:k+j+1+n<=400000000):∃ z:Zi,D.ask (.fn 52) [.agg (eT t),.ls (vals.map eZ)] []=Δ (.agg (eZ z),[])/\zv z=t.lf.val (Cm (vals.map zv))/\Lz (k+j+1+n) z:=by
 obtain⟨ps,kz⟩:=t;have hl:ps.length<=n:=ht.len;obtain⟨z,g,h1,h2⟩:=X1 Kl F ps hl hn ht.ps vals hv hvl hk Ξ [] _ 0 kz rfl (by omega) (ht.k.mono (by omega));rw[Aqk]at h1;refine⟨z,?_,?_,h2.mono (by omega)⟩
 .refine Aw Kl Ua (e52 ..) ?_
  rw[Ai];refine Aa g ?_;obtain⟨zn,za⟩:=z;rfl
 .rw[h1]
  unfold Lf.val Tm.lf;exact Int.add_comm _ _
end
def TP(n:Nat):List AV:=[iv (n:Int)]
theorem Mc(n:Nat):(TP n).length=1:=rfl
def Fc(zf:Nat->Zi)(nb:Nat)(vals:List Zi)(i:Nat):List AV:=if i<nb then eZ (zf i) else match vals[i]? with
 |some z=>eZ z
 |none=>[bv Ξ,.v (.slice none 0 0)]
def Si(zf:Nat->Zi)(nb:Nat)(vals:List Zi)(i:Nat):Zi:=if i<nb then zf i else match vals[i]? with
 |some z=>z
 |none=>⟨Ξ,[]⟩
theorem JA(zf:Nat->Zi)(nb:Nat)(vals:List Zi)(i:Nat):(Fc zf nb vals i).length=2:=by
 unfold Fc;split
 .rfl
 .split<;>rfl
theorem Ajh(z:Zi):(eZ z).map Kn=eZ z:=rfl
theorem Acl(zf:Nat->Zi)(nb:Nat)(vals:List Zi)(i:Nat):(Fc zf nb vals i).map Kn=eZ (Si zf nb vals i):=by
 unfold Fc Si;split
 .rfl
 .split<;>rfl
theorem WO{n k:Nat}:(k<n->GB (k:Int) ((AqV n).map λj:Nat=>(j:Int))=k)/\(n<=k->¬ GB (k:Int) ((AqV n).map λj:Nat=>(j:Int))<n):=by
 refine⟨λh=>?_,λh=>?_⟩
 .unfold GB
  rw[List.findIdx_eq (by simpa using h)];refine⟨by simp,λj hj=>?_⟩;simp;omega
 .have:GB (k:Int) ((AqV n).map λj:Nat=>(j:Int))=n:=by
   unfold GB;have:=(List.findIdx_eq_length (p:=λx=>decide ((k:Int)=x)) (xs:=(AqV n).map λj:Nat=>(j:Int))).2 λx hx=>by
    obtain⟨j,hj,rfl⟩:=Aq6.1 hx;rw[List.mem_range]at hj;rw[decide_eq_false_iff_not];omega
   rw[this];simp
  omega
theorem Aje{s:Int->Lf}(hs:∀ v,LB 20 8 (s v)):∀(N:Nat) (x:Fm),SizeOf.sizeOf x<N->FC 20 9 x->FC 400 20100 (EI s x):=by
 intro N
 induction N with
 |zero=>intro x h;omega
 |succ N ih=>
  intro x hN hx;have hk:=hx.kid;have hn:=hx.num;obtain⟨k,t,e,ks⟩:=x;have ek:Bq (EI s (.mk k t e ks))=(Bq (.mk k t e ks)).map (EI s):=by
   rw[EI,BI,BI,KO];split
   .rfl
   split
   .rw[List.map_take]
   .rfl
  have h2:k=2->TmB 20 9 t:=λh=>by
   cases hx with
   |mk ht hl hh=>exact ht h
  rw[EI]at ek ⊢;refine .mk (λh=>?_) (by rw[ek,Aqy];exact hn) λy hy=>?_
  .rw[if_pos h]
   exact(Agg hs (by omega) (h2 h).lb).tb
  .rw[ek]at hy
   obtain⟨z,hz,rfl⟩:=Aq6.1 hy;refine ih z ?_ (hk z hz);have:=Cq (k:=k) (t:=t) (e:=e) (Di hz);omega
section
variable {D:Orc} (Kl:Knows Al QQ D) (Kw:Knows Al Px D)
include Kl Kw
theorem Acu(x:Fm)(bys:List Tm)(hnb:bys.length<=6)(vals:List Zi)(zf:Nat->Zi)
  (gz:∀ i (h:i<bys.length),EH ((8:Nat):Int) (bys[i],Ξ)=U->D.ask (.fn 52) [.agg (eT bys[i]),.ls (vals.map eZ)] []=Δ (.agg (eZ (zf i)),[])):∀(m i:Nat),6-i=m->i<=6->
  D.ask (.lp 13 0) [.ls (bys.map eT),.ls (vals.map eZ),.ptr 0 0,.sl 1 0 (min i bys.length) 1,.sl 2 0 i 2,iv (i:Int)] [bk (eF x),Ω (Ao TP (AqV (min i bys.length))) U U,Ω (Ao (Fc zf bys.length vals) (AqV i)) U U]
   = Δ (if((bys.drop i).all λt=>EH ((8:Nat):Int) (t,Ξ))=U then(.tup [iv 0,.ls (bys.map eT),.ls (vals.map eZ),.ptr 0 0,.sl 3 0 bys.length 1,.sl 4 0 6 2],[.set (bk (eF x)),.del,.del,.set (Ω (Ao TP (AqV bys.length)) U U),.set (Ω (Ao (Fc zf bys.length vals) (AqV 6)) U U)])
    else(.tup [bv U,bv U],[.del,.del,.del])):=by
 obtain⟨xk,⟨xp,xz⟩,xe,xs⟩:=x;rw[eF];intro m
 induction m with
 |zero=>
  intro i hm hi;obtain rfl:i=6:=by omega
  rw[Aqq (by omega),Asg,if_pos rfl,Ar5 hnb];refine As Kl WJ (YK ..) ?_;exact Aj rfl (by decide)
 |succ m ih=>
  intro i hm hi;have h1:i<6:=by omega
  have ih:=ih (i+1) (by omega) (by omega);have f2:Bc (i+1) 32=U:=AS (by omega) (by omega);have hble2:Aqv (0+i*2) (Ao (Fc zf bys.length vals) (AqV i)).length=U:=AU (JA zf bys.length vals) _ (by simp);have a2:Aqp 0 (Aqj (0+i*2) (Ao (Fc zf bys.length vals) (AqV i)))++Fc zf bys.length vals i=Ao (Fc zf bys.length vals) (AqV (i+1)):=by
   rw[Aqk,Bm (JA zf bys.length vals) _ (by simp),Atr];exact Bj _ _ _
  by_cases hb:i<bys.length
  .have gz:=gz i hb
   have hb1:∀ kk,Bh (bys.map eT) i kk=kk (eT bys[i]):=λkk=>At (θ hb) kk
   have gf:=Zl Kw [(bys[i],Ξ)] 1 (8:Nat) (by omega);have m1:min i bys.length=i:=ArG (by omega);have m2:min (i+1) bys.length=i+1:=ArG (by omega);have f1:Bc (i+1) 8=U:=AS (by omega) (by omega);have hble1:Aqv (0+i*1) (Ao TP (AqV i)).length=U:=AU Mc _ (by simp);have a1:Aqp 0 (Aqj (0+i*1) (Ao TP (AqV i)))++TP i=Ao TP (AqV (i+1)):=by
    rw[Aqk,Bm Mc _ (by simp),Atr];exact Bj _ _ _
   have ei:Fc zf bys.length vals i=eZ (zf i):=if_pos hb;rw[m2]at ih;rw[m1,π hb,ArP];rw[ei]at a2;generalize bys[i]=t at *;obtain⟨tp,tk⟩:=t;rw[AqF,Are,ArP,Asg,Bool.and_true,show (decide ([((⟨tp,tk⟩:Tm),Ξ)].length<=1))=U from rfl,ArJ]at gf;simp only[IS,eN]at gf;refine As Kl WJ (YK ..) ?_;refine Ak ?_;rw[Ai]
   by_cases hv:i<vals.length
   .refine Ak ?_
    rw[Av,At (θ hv)];simp only[eZ,eN,ND,DK,Ab];rw[Ai];refine Ak ?_;rw[Av,hb1];simp only[eT,eN,ND,DK,Ab];refine Aa gf ?_;simp only[ND,DK,Ab]
    cases hok:EH ((8:Nat):Int) (⟨tp,tk⟩,Ξ) with
    |false=>rfl
    |true=>
     have gz:=gz hok;rw[ArJ];refine Ac ?_;rw[f1];refine Ac ?_;rw[hble1];refine Ac ?_;rw[Av,hb1];simp only[eT,eN,eZ,ND,DK,Ab]at gz ⊢;refine Aa gz ?_;simp only[ND,DK,Ab];rw[f2];refine Ac ?_;rw[hble2];refine Ac ?_;simp only[eZ,eN,TP]at a1 a2;rw[a1,a2,BB (by omega)];generalize ((bys.drop (i+1)).all λt=>EH ((8:Nat):Int) (t,Ξ))=ba at *
     cases ba with
     |true=>exact Aa ih rfl
     |false=>exact Aa ih rfl
   .refine Aj ?_
    rw[Ai];refine Ak ?_;rw[Av,hb1];simp only[eT,eN,ND,DK,Ab];refine Aa gf ?_;simp only[ND,DK,Ab]
    cases hok:EH ((8:Nat):Int) (⟨tp,tk⟩,Ξ) with
    |false=>rfl
    |true=>
     have gz:=gz hok;rw[ArJ];refine Ac ?_;rw[f1];refine Ac ?_;rw[hble1];refine Ac ?_;rw[Av,hb1];simp only[eT,eN,eZ,ND,DK,Ab]at gz ⊢;refine Aa gz ?_;simp only[ND,DK,Ab];rw[f2];refine Ac ?_;rw[hble2];refine Ac ?_;simp only[eZ,eN,TP]at a1 a2;rw[a1,a2,BB (by omega)];generalize ((bys.drop (i+1)).all λt=>EH ((8:Nat):Int) (t,Ξ))=ba at *
     cases ba with
     |true=>exact Aa ih rfl
     |false=>exact Aa ih rfl
  .have m1:min i bys.length=bys.length:=Ar5 (by omega)
   have m2:min (i+1) bys.length=bys.length:=Ar5 (by omega);rw[m2,Aqq (by omega),Asg,if_pos rfl]at ih;rw[m1,Aqq (by omega),Asg,if_pos rfl];refine As Kl WJ (YK ..) ?_;refine Ak ?_;rw[Ai]
   by_cases hv:i<vals.length
   .have ei:Fc zf bys.length vals i=eZ vals[i]:=by
     unfold Fc;rw[if_neg hb,θ hv]
    rw[ei]at a2;refine Ak ?_;rw[Av,At (θ hv)];simp only[eZ,eN,ND,DK,Ab]at a2 ⊢;rw[Ai];refine Aj ?_;rw[f2];refine Ac ?_;rw[hble2];refine Ac ?_;rw[a2,BB (by omega)];refine Aa ih ?_;rfl
   .have ei:Fc zf bys.length vals i=[bv Ξ,.v (.slice none 0 0)]:=by
     unfold Fc;rw[if_neg hb,List.getElem?_eq_none (by omega)]
    rw[ei]at a2;refine Aj ?_;rw[Ai];refine Aj ?_;rw[f2];refine Ac ?_;rw[hble2];refine Ac ?_;rw[a2,BB (by omega)];refine Aa ih ?_;rfl
end
theorem FC.mono{n k n' k':Nat}(h1:n<=n')(h2:k<=k'):∀(N:Nat) (x:Fm),SizeOf.sizeOf x<N->FC n k x->FC n' k' x:=by
 intro N
 induction N with
 |zero=>intro x h;omega
 |succ N ih=>
  intro x hN hx;obtain⟨kd,t,e,ks⟩:=x
  cases hx with
  |mk ht hl h=>
   refine .mk (λh=>(ht h).mono h1 h2) hl λy hy=>ih y ?_ (h y hy)
   have:=Cq (k:=kd) (t:=t) (e:=e) (Di hy);omega
theorem Abx{f:Int->Int}(hf:∀ v,v<0->f v=0)(v:Int):(N6 v).val f=f v:=by
 unfold N6;rw[Ij hf]
 show 1*f v+0+0=f v
 omega
section
variable {D:Orc} (Kl:Knows Al QQ D) (Kw:Knows Al Px D) (K5:Knows Al QR D) (F:RF D) (Kt:Knows Al PA D) (Kh:Knows Al NZ D) (Kk:Knows Al S0 D) (Kz:Knows Al VW D) (Kv:Knows Al QS D)
include Kl Kw K5 F Kt Kh Kk Kz Kv
theorem Ql(S:D.ask (.fn 34) [] []=Δ (bv U,[]))
  (gp:∀{x:Fm} {vs:List Int} {bys:List Tm},FC 20 8 x->FC 20 9 x->vs.length<=1000->bys.length<=1000->(∀ t∈bys,TmB 20 8 t)->D.ask (.fn 43) [.agg (eF x),.ls (vs.map eI),.ls (bys.map eT)] []=Δ (.agg (eF (EI (NO vs bys) (AB x))),[]))
  (gh:∀{n k j:Nat} {x:Fm} {vals:List Zi} {rows:List (List AV)},FC n k x->n<=1000000->(∀ z∈vals,Lz j z)->(k<24\/∀ z∈vals,z.abs.length<24)->vals.length<=1000000->k+n+j+1+vals.length<=400000000->rows.map (·.map Kn)=vals.map eZ->D.ask (.fn 36) [.agg (eF x),.ls rows] []=Δ (bv (BA (Cm (vals.map zv)) x),[]))
  (x:Fm) (hw:WzF x) (bys:List Tm) (hbl:bys.length<4611686018427387904) (hb:∀ t∈bys,LmT t) (vals:List Zi) (hvl:vals.length<4611686018427387904) (hv:∀ z∈vals,Limbs z.abs) :
  D.ask (.fn 13) [.agg (eF x),.ls (bys.map eT),.ls (vals.map eZ)] []=Δ (bv U,[]):=by
 have gf:=Agl Kk Kz Kw x hw 40 8 (by omega) (by omega);have gv:=Ack Kh vals 6 8 (by omega) hvl;have body:decide (Fi x 40<=40)=U->GU 8 x=U->bys.length<=6->(vals.length<=6/\∀ z∈vals,z.abs.length<=8)->D.ask (.fn 51) [.agg (eF x)] []=Δ (.ls ((Cd x).map eI),[])/\(Cd x).length<=10000/\∃ zf:Nat->Zi,
   (D.ask (.lp 13 0) [.ls (bys.map eT),.ls (vals.map eZ),.ptr 0 0,.sl 1 0 0 1,.sl 2 0 0 2,iv 0] [bk (eF x),Ω [] U U,Ω [] U U]
   = Δ (if(bys.all λt=>EH ((8:Nat):Int) (t,Ξ))=U then(.tup [iv 0,.ls (bys.map eT),.ls (vals.map eZ),.ptr 0 0,.sl 3 0 bys.length 1,.sl 4 0 6 2],[.set (bk (eF x)),.del,.del,.set (Ω (Ao TP (AqV bys.length)) U U),.set (Ω (Ao (Fc zf bys.length vals) (AqV 6)) U U)])
    else(.tup [bv U,bv U],[.del,.del,.del]))) ∧
   ((∀ v∈Cd x,v<=5)->(bys.all λt=>EH ((8:Nat):Int) (t,Ξ))=U->∃(y:Fm) (b:Bool),D.ask (.fn 43) [.agg (eF x),.ls ((AqV bys.length).map TP),.ls (bys.map eT)] []=Δ (.agg (eF y),[])/\D.ask (.fn 36) [.agg (eF y),.ls (vals.map eZ)] []=Δ (bv b,[]) ∧
     D.ask (.fn 36) [.agg (eF x),.ls ((AqV 6).map (Fc zf bys.length vals))] []=Δ (bv b,[])):=λh1 h1' h2 h3=>by
  have h1:=of_decide_eq_true h1;have hc:=AlQ 8 _ x 40 (Arr _) (by omega) h1 h1' hw;have hc9:FC 20 9 x:=FC.mono (ω _) (by omega) _ x (Arr _) hc;have hcnt:Jp x<=100:=by
   have:=P4 x 40 h1;omega
  have hz:∀ z∈vals,Lz 8 z:=λz hz=>⟨hv z hz,h3.2 z hz⟩
  have hf:∀ v,v<0->Cm (vals.map zv) v=0:=Ht _;have hlen:=Ik x hc;refine⟨Xm Kt Kh F Kk Kv (k:=8) (by omega) _ x (Arr _) hc hcnt,by omega,?_⟩;have ex:∀ i:Nat,∃ z:Zi,∀(h:i<bys.length),EH ((8:Nat):Int) (bys[i],Ξ)=U->D.ask (.fn 52) [.agg (eT bys[i]),.ls (vals.map eZ)] []=Δ (.agg (eZ z),[])/\zv z=bys[i].lf.val (Cm (vals.map zv))/\Lz 37 z:=λi=>by
   by_cases h:i<bys.length
   .by_cases ho:EH ((8:Nat):Int) (bys[i],Ξ)=U
    .obtain⟨z,g1,g2,g3⟩:=X2 K5 F ((hb bys[i] (Aqz h)).tmb ho) (by omega) vals hz (by omega) (by omega)
     exact⟨z,λ_ _=>⟨g1,g2,g3⟩⟩
    .exact⟨⟨Ξ,[]⟩,λ_ h=>absurd h ho⟩
   .exact⟨⟨Ξ,[]⟩,λh'=>absurd h' h⟩
  obtain⟨zf,hzf⟩:=Classical.axiomOfChoice ex;have gl:=Acu Kl Kw x bys h2 vals zf (λi h ho=>(hzf i h ho).1) _ 0 rfl (by omega);rw[Aqk,Nat.zero_min]at gl;refine⟨zf,gl,λhv5 hA=>?_⟩;rw[List.all_eq_true]at hA;have hbt:∀ t∈bys,TmB 20 8 t:=λt ht=>(hb t ht).tmb (hA t ht)
  have em:(AqV bys.length).map TP=((AqV bys.length).map λj:Nat=>(j:Int)).map eI:=by
   rw[Ar2];rfl
  generalize hvs:(AqV bys.length).map (λj:Nat=>(j:Int))=vs at em;have hvsl:vs.length=bys.length:=by rw[←hvs];simp
  have g1:=gp (vs:=vs) hc hc9 (by omega) (by omega) hbt;rw[em];have hsb:=AaR (vs:=vs) hbt;have hput:=Aje hsb _ (AB x) (Arr _) (RG _ x (Arr _) hc);have e1:(vals.map eZ).map (·.map Kn)=vals.map eZ:=by
   rw[Ar2];exact ArN λz _=>Ajh z
  have g2:=gh hput (by omega) hz (.inr λz hz=>by have:=h3.2 z hz;omega) (by omega) (by omega) e1;have e2:((AqV 6).map (Fc zf bys.length vals)).map (·.map Kn)=((AqV 6).map (Si zf bys.length vals)).map eZ:=by
   rw[Ar2,Ar2];exact ArN λi _=>Acl zf bys.length vals i
  have hin:∀ z∈(AqV 6).map (Si zf bys.length vals),Lz 37 z:=λz hzm=>by
   obtain⟨i,_,rfl⟩:=Aq6.1 hzm;unfold Si
   by_cases h:i<bys.length
   .rw[if_pos h]
    exact(hzf i h (hA _ (Aqz h))).2.2
   .rw[if_neg h]
    split
    .rename_i z e
     exact(hz z (List.mem_of_getElem? e)).mono (by omega)
    .exact⟨Cr,AqR _⟩
  have g3:=gh hc (by omega) hin (.inl (by omega)) (by simp) (by simp) e2;refine⟨_,_,g1,g2,g3.trans ?_⟩
  congr 3
  rw[HW hf,ES (N5 _ _)];refine(GW (N5 _ _) (Ht _) x λv hvm=>?_).symm;have h0:=X4 _ x (Arr _) v hvm;have h5:=hv5 v hvm;obtain⟨k,rfl⟩:=Ar8 h0;have hk6:k<6:=by omega
  unfold Q9;rw[if_neg (by omega)];have er:Cm (((AqV 6).map (Si zf bys.length vals)).map zv) (k:Int)=zv (Si zf bys.length vals k):=by
   rw[Hs,Aq7,AqD,AqD,List.getElem?_range hk6];rfl
  rw[er];obtain⟨ir1,ir2⟩:=WO (n:=bys.length) (k:=k);rw[hvs]at ir1 ir2;unfold NO Si
  by_cases h:k<bys.length
  .rw[ir1 h,if_pos (by omega),if_pos h,θ h]
   exact((hzf k h (hA _ (Aqz h))).2.1).symm
  .rw[if_neg (by rw[hvsl];exact ir2 (by omega)),if_neg h,Abx hf,Hs,Aq7,AqD]
   cases vals[k]?<;>rfl
 have hasc:=X3 x;obtain⟨k,⟨xp,xz⟩,e,ks⟩:=x;generalize hd:decide (Fi (.mk k ⟨xp,xz⟩ e ks) 40<=40)=d1 at gf body;generalize hd2:GU 8 (.mk k ⟨xp,xz⟩ e ks)=d2 at gf body;simp only[eF,eN]at gf body ⊢;refine Aw Kl WJ (e13 ..) ?_;refine Aa S ?_;simp only[ND,DK,Ab];refine Aa gf ?_;simp only[ND,DK,Ab]
 by_cases h1:d1=U/\d2=U
 .obtain⟨rfl,rfl⟩:=h1
  refine Ac ?_;rw[Ai]
  by_cases h2:6<bys.length
  .exact Ak rfl
  refine Aj ?_;refine Aa gv ?_;simp only[ND,DK,Ab]
  by_cases h3:vals.length<=6/\∀ z∈vals,z.abs.length<=8
  .rw[decide_eq_true h3]
   obtain⟨gvs,hvl2,zf,gl,fin⟩:=body rfl rfl (by omega) h3;generalize Cd (.mk k ⟨xp,xz⟩ e ks)=vs at *;have hbl1:Aqv (0+bys.length*1) (Ao TP (AqV bys.length)).length=U:=AU Mc _ (by simp);have hch1:Bl bys.length 1 ((Ao TP (AqV bys.length)).take (bys.length*1))=(AqV bys.length).map TP:=Cg Mc _ (by simp);have hbl2:Aqv (0+6*2) (Ao (Fc zf bys.length vals) (AqV 6)).length=U:=AU (JA zf bys.length vals) _ (by simp);have hch2:Bl 6 2 ((Ao (Fc zf bys.length vals) (AqV 6)).take (6*2))=(AqV 6).map (Fc zf bys.length vals):=Cg (JA zf bys.length vals) _ (by simp);refine Ac ?_;refine Aa gvs ?_;simp only[ND,DK,Ab];rw[Ai]
   by_cases h4:vs.length=0
   .have fin:=fin λv hv=>by
     rw[List.length_eq_zero_iff.1 h4]at hv
     cases hv
    refine Aj ?_
    cases hA:(bys.all λt=>EH ((8:Nat):Int) (t,Ξ)) with
    |false=>
     rw[hA,if_neg (by decide)]at gl;exact Aa gl rfl
    |true=>
     rw[hA,if_pos rfl]at gl;refine Aa gl ?_;obtain⟨⟨yk,⟨yp,yz⟩,ye,ys⟩,b,gp,g1,g2⟩:=fin hA;simp only[eF,eN]at gp g1 g2;simp only[ND,DK,Ab];rw[hbl1];refine Ac ?_;rw[hch1];refine Aa gp ?_;simp only[ND,DK,Ab];refine Aa g1 ?_;simp only[ND,DK,Ab];rw[hbl2,hch2]
     cases b with
     |true=>
      refine(Rk _ _).trans ((Rk _ _).trans ((Dm g2 _).trans ?_));rfl
     |false=>
      refine(Ab1 _ _).trans ((Rk _ _).trans ((Dm g2 _).trans ?_));rfl
   .refine Ak ?_
    obtain⟨n,hn⟩:∃ n,vs.length=n+1:=⟨vs.length-1,by omega⟩;have hn1:∀ kk,Bh (vs.map eI) n kk=kk (eI vs[n]):=λkk=>At (θ (by omega)) kk
    rw[hn,Ps (by omega),Av,hn1];simp only[eI,ND,DK,Ab]
    by_cases h5:5<vs[n]
    .exact Ak rfl h5
    refine Aj ?_ h5;have fin:=fin λv hv=>by
     obtain⟨i,hi,rfl⟩:=List.mem_iff_getElem.1 hv
     by_cases he:i=n
     .subst he
      omega
     .have:=List.pairwise_iff_getElem.1 hasc i n hi (by omega) (by omega)
      omega
    cases hA:(bys.all λt=>EH ((8:Nat):Int) (t,Ξ)) with
    |false=>
     rw[hA,if_neg (by decide)]at gl;exact Aa gl rfl
    |true=>
     rw[hA,if_pos rfl]at gl;refine Aa gl ?_;obtain⟨⟨yk,⟨yp,yz⟩,ye,ys⟩,b,gp,g1,g2⟩:=fin hA;simp only[eF,eN]at gp g1 g2;simp only[ND,DK,Ab];rw[hbl1];refine Ac ?_;rw[hch1];refine Aa gp ?_;simp only[ND,DK,Ab];refine Aa g1 ?_;simp only[ND,DK,Ab];rw[hbl2,hch2]
     cases b with
     |true=>
      refine(Rk _ _).trans ((Rk _ _).trans ((Dm g2 _).trans ?_));rfl
     |false=>
      refine(Ab1 _ _).trans ((Rk _ _).trans ((Dm g2 _).trans ?_));rfl
  .rw[decide_eq_false h3]
   rfl
 .cases d1 with
  |false=>rfl
  |true=>
   cases d2 with
   |false=>rfl
   |true=>exact absurd ⟨rfl,rfl⟩ h1
end
theorem Yy:CloneF Tj where
 nat l h:=X7 (Wo h)
theorem Ag3:ZF Tj:=Anf Amf Amq Yy
theorem Qs:PartF Tj where
 clone l h:=X8 (Tz h)
 grow n h:=AbD (WD h)
theorem gP1(f:Nat):AN (AT η f) ((AY Ah Dd).ask (.fn f)):=Em (Xv ⟨HI,MJ,HT,trivial⟩) f
theorem gP3(f:Nat):AN (AT η f) ((AY Ah NQ).ask (.fn f)):=Em (Xx ⟨gP1 _,trivial⟩) f
theorem gP2(f:Nat):AN (AT η f) ((AY Ah NP).ask (.fn f)):=Em (Xw ⟨gP3 _,gP1 _,gP1 _,gP1 _,trivial⟩) f
theorem gP4(f:Nat):AN (AT η f) ((AY Ah NR).ask (.fn f)):=Em (Xy ⟨gP2 _,gP1 _,trivial⟩) f
theorem Ai3{x:Fm}(h:FC 20 9 x):Tj.ask (.fn 107) [.agg (eF x)] []=Δ (.agg (eF (AB x)),[]):=
 Wl Vf ZM Ag3 Qs Ve (by omega) (by omega) _ x (Arr _) h
theorem Ajb(vs:List Int)(bys:List Tm)(h1:vs.length<=1000)(h2:bys.length<=1000)(hb:∀ t∈bys,TmB 20 8 t):EachF DP4 (vs.map eI) (bys.map eT) (NO vs bys) where
 own h hx:=Th (Wn AhX h (AgW (Me Ve _)) _ (X9 (TC Amg hx.num λy hy=>AbC (Ai3 (hx.kid y hy)))))
 oth h3 h4 h5 hx:=Th (Wm AhX h3 h4 h5 (λb=>AbJ (N3 Ve b)) (λh2=>Ane (OD Vf ZM Ag3 Qs Ve (by
  cases hx with
  |mk ht hl h=>exact ht h2) (by omega) (by omega) _)))
 put {l e} h:=Ya (by
  have:=Qx Vf Amp ZM Ag3 Qs Ami vs bys h1 h2 hb h e;rw[LO]at this;exact this)
theorem Aox{x:Fm}{vs:List Int}{bys:List Tm}(hx:FC 20 8 x)(hx9:FC 20 9 x)(h1:vs.length<=1000)(h2:bys.length<=1000)(hb:∀ t∈bys,TmB 20 8 t):Re.ask (.fn 43) [.agg (eF x),.ls (vs.map eI),.ls (bys.map eT)] []=Δ (.agg (eF (EI (NO vs bys) (AB x))),[]):=
 Yb (Age Amh (vs.map eI) (bys.map eT) (NO vs bys) (Ajb vs bys h1 h2 hb) hx hx9)
theorem Aow{n k j:Nat}{x:Fm}{vals:List Zi}{rows:List (List AV)}(fc:FC n k x)(hn:n<=1000000)(hv:∀ z∈vals,Lz j z)(h24:k<24\/∀ z∈vals,z.abs.length<24)(hl:vals.length<=1000000)(hk:k+n+j+1+vals.length<=400000000)(e:rows.map (·.map Kn)=vals.map eZ):Re.ask (.fn 36) [.agg (eF x),.ls rows] []=Δ (bv (BA (Cm (vals.map zv)) x),[]):=
 AbE (by
  have:=WU Ame Amd Vf Ag3 hn vals hv h24 hl hk _ x (Arr _) fc;rw[←e]at this;exact this)
theorem AoW:RF Re:=AmY Aml Amn
theorem AjE:Re.ask (.fn 34) [] []=Δ (bv U,[]):=AgX AcA
theorem SR:SeatOk η Bt UH:=Xz ⟨AlV,gP4 _,WC (gP1 _),trivial⟩
