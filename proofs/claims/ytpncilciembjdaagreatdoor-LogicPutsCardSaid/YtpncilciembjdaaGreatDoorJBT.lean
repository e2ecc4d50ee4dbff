/- Functions of the program -/
import Derived.Test.YtpncilciembjdaaGreatDoorJBS
set_option linter.all false
open Bool renaming false->Ξ,true->U,true_and->AuC
open List renaming all_cons->AuD,all_nil->Avl,append_assoc->Atp,drop->Atg,drop_append_of_le_length->Avn,drop_eq_getElem_cons->χ,drop_eq_nil_of_le->Atc,drop_zero->ι,filter_map->Av8,foldl_cons->AuZ,getElem?_eq_getElem->δ,getElem_mem->Ats,length_append->γ,length_cons->Ate,length_map->Atm,length_set->AtL,length_singleton->AtP,length_take->AtN,map_cons->Atu,map_map->AuQ,map_nil->AtO,mem_cons_of_mem->Atj,mem_cons_self->Atq,mem_map->AtH,nil_append->Atw,reverse_cons->Avd,singleton_append->AtU,take->ε,take_append_drop->AuR,take_append_of_le_length->Au2,take_left'->AuS
open Nat renaming add_zero->At3,ble->Atl,ble_eq_true_of_le->At0,gcd->Awn,le_refl->η,le_trans->AtA,lt_succ_self->AtT,zero_add->Ato,zero_le->AtI
open Option renaming some->Δ
namespace Go.Proofs.YtpncilciembjdaaGreatDoor
open ABlk renaming mk->Ψ
open Tryz renaming prog->ζ
section
open Go.RowKit
variable (A:Ar) (D:Orc)
end
open Go.RowKit
section
open Go.RowKit
variable (A:Ar) (D:Orc)
end

section
open Go.RowKit
variable (A:Ar) (D:Orc)
end
structure DivF (D:Orc):Prop where
 div:∀ a b:Ae,Limbs a->a.length<=999999990->Limbs b->b.length<=999999990->D.ask (.fn 144) [eN a,eN b] []
  = Δ (if Ak b=0 then .tup [.ls [],.ls [],iv 10] else .tup [eN (Bf (Ak a / Ak b)),eN (Bf (Ak a % Ak b)),iv 0],[])
section
open Go.RowKit
variable (A:Ar) (D:Orc)
end
structure ZdF (D:Orc):Prop where
 div:∀ a b:Zi,Lz 800000000 a->Lz 800000000 b->D.ask (.fn 66) [.agg (eZ a),.agg (eZ b)] []
  = Δ (if zv b=0 then .tup [.agg [bv Ξ,.ls []],.agg [bv Ξ,.ls []],iv 10] else .tup [.agg (eZ (AY (qZ (zv a) (zv b)))),.agg (eZ (AY (rZ (zv a) (zv b)))),iv 0],[])
 exact:∀ a b:Zi,Lz 800000000 a->Lz 800000000 b->D.ask (.fn 143) [.agg (eZ a),.agg (eZ b)] []
  = Δ (if zv b=0 then .tup [.agg [bv Ξ,.ls []],iv 10] else if rZ (zv a) (zv b)=0 then .tup [.agg (eZ (AY (qZ (zv a) (zv b)))),iv 0] else .tup [.agg [bv Ξ,.ls []],iv 1],[])
 gcd:∀ a b:Zi,Lz 900000000 a->Lz 900000000 b->D.ask (.fn 147) [.agg (eZ a),.agg (eZ b)] []=Δ (.agg (eZ (AY (Awn (zv a).natAbs (zv b).natAbs:Nat))),[])
def Arg(g:Nat)(l:List (Int × Int)):Nat:=l.foldl (λg p=>Awn g p.2.natAbs) g
section
open Go.RowKit
variable (A:Ar) (D:Orc)
end
structure RdF (D:Orc):Prop where
 div:∀ a b:Zi,Lz 300000000 a->Lz 300000000 b->D.ask (.fn 71) [.agg (eZ a),.agg (eZ b)] []
  = Δ (if zv b=0 then .tup [.agg [bv Ξ,.ls []],.agg [bv Ξ,.ls []],iv 10] else .tup [.agg (eZ (AY (qZ (zv a) (zv b)))),.agg (eZ (AY (rZ (zv a) (zv b)))),iv 0],[])
 gcd:∀ a b:Zi,Lz 900000000 a->Lz 900000000 b->D.ask (.fn 150) [.agg (eZ a),.agg (eZ b)] []=Δ (.agg (eZ (AY (Awn (zv a).natAbs (zv b).natAbs:Nat))),[])
def vc(ps:List (Int × Int))(v:Int):Int × Int:=(v,BS ps v)
def ZH(t:Tm):Nat:=Arg 0 (Bu t.lf.ps)
def ArG(g:Int)(p:Int × Int):Pt:=Bc (p.1,qZ p.2 g)
def ArH(t:Tm):Tm:=if ZH t=0 then t.lf.pln.tm else ⟨(Bu t.lf.ps).map (ArG (ZH t)),AY (qZ (zv t.k) (ZH t))⟩
section
open Go.RowKit
variable (A:Ar) (D:Orc)
end



theorem FB.mono{n k m j:Nat}(hn:n<=m)(hk:k<=j):∀(N:Nat) (x:Fm),SizeOf.sizeOf x<N->FB n k x->FB m j x:=by
 intro N
 induction N with
 |zero=>intro x h;omega
 |succ N ih=>
  intro x hN hx;obtain⟨ht,hl,h⟩:=hx;rename_i kd t e ks;exact .mk (ht.mono hn hk) hl λy hy=>ih y (by have:=BW (k:=kd) (t:=t) (e:=e) hy;omega) (h y hy)
theorem Rt(n k:Nat):TmB n k Zd:=⟨AtI _,λp hp=>(by cases hp),⟨λx hx=>(by cases hx),AtI _⟩⟩
theorem Ac0(n k:Nat)(b:Bool):FB n k (C9 b):=.mk (Rt n k) (AtI _) λy hy=>by cases hy

section
open Go.RowKit
variable (A:Ar) (D:Orc)
end

section
open Go.RowKit
variable (A:Ar) (D:Orc)
end
structure TiF (D:Orc) (M:Nat):Prop where
 le:M<=1000000
 plain:∀{n k:Nat} {t:Tm},TmB n k t->n<=M->k+n<=300000000->D.ask (.fn 62) [.agg (eT t)] []=Δ (.agg (eT t.lf.pln.tm),[])
 content:∀{n k:Nat} {t:Tm},TmB n k t->n<=M->k+n<=300000000->D.ask (.fn 67) [.agg (eT t)] []=Δ (.agg (eZ (AY (ZH t:Int))),[])
 shrink:∀{n k:Nat} {t:Tm},TmB n k t->n<=M->k+n<=300000000->D.ask (.fn 65) [.agg (eT t)] []=Δ (.tup [.agg (eT (ArH t)),.agg (eZ (AY (ZH t:Int)))],[])
 neg:∀{n k:Nat} {t:Tm},TmB n k t->n<=M->k+n<=300000000->D.ask (.fn 68) [.agg (eT t)] []=Δ (.agg (eT (t.lf.scale (-1)).tm),[])
section
open Go.RowKit
variable (A:Ar) (D:Orc)
end

section
open Go.RowKit
variable (A:Ar) (D:Orc)
end



theorem FC.mono{n k n' k':Nat}(h1:n<=n')(h2:k<=k'):∀(N:Nat) (x:Fm),SizeOf.sizeOf x<N->FC n k x->FC n' k' x:=by
 intro N
 induction N with
 |zero=>intro x h;omega
 |succ N ih=>
  intro x hN hx;obtain⟨kd,t,e,ks⟩:=x
  cases hx with
  |mk ht hl h=>
   refine .mk (λh=>(ht h).mono h1 h2) hl λy hy=>ih y ?_ (h y hy)
   have:=BW (k:=kd) (t:=t) (e:=e) (CY hy);omega
theorem ZE:CloneF TV where
 nat l h:=Y4 (Xk h)
theorem LC:ZF TV:=ApW AoL AoV ZE
theorem MH:PartF TV where
 clone l h:=Y5 (M7 h)
 grow n h:=Ac8 (Xy h)
theorem UG(f:Nat):A1 (Bi ζ f) ((AB Ah BN).ask (.fn f)):=Cq (Yv ⟨HT,M9,H8,trivial⟩) f
theorem gP3(f:Nat):A1 (Bi ζ f) ((AB Ah Ok).ask (.fn f)):=Cq (Yx ⟨UG _,trivial⟩) f
theorem gP2(f:Nat):A1 (Bi ζ f) ((AB Ah Jf).ask (.fn f)):=Cq (Yw ⟨gP3 _,UG _,UG _,UG _,trivial⟩) f
theorem gP4(f:Nat):A1 (Bi ζ f) ((AB Ah Ol).ask (.fn f)):=Cq (Yy ⟨gP2 _,UG _,trivial⟩) f
theorem ZD{x:Fm}(h:FC 20 9 x):TV.ask (.fn 107) [.agg (eF x)] []=Δ (.agg (eF (As x)),[]):=
 Xi SI (Ail NO) LC MH NN (by omega) (by omega) _ x (AtT _) h
theorem Alb(vs:List Int)(bys:List Tm)(h1:vs.length<=1000)(h2:bys.length<=1000)(hb:∀ t∈bys,TmB 20 8 t):EachF DP4 (vs.map eI) (bys.map eT) (GR vs bys) where
 own h hx:=TO (Pb V9 h (WZ (JH NN _)) _ (P9 (Na AjX hx.num λy hy=>TN (ZD (hx.kid y hy)))))
 oth h3 h4 h5 hx:=TO (Pa V9 h3 h4 h5 (λb=>TR (Ku NN b)) (λh2=>AkG (KF SI (Ail NO) LC MH NN (by
  cases hx with
  |mk ht hl h=>exact ht h2) (by omega) (by omega) _)))
 put {l e} h:=Y8 (by
  have:=QT SI AoT (Ail NO) LC MH AoP vs bys h1 h2 hb h e;rw[Ey]at this;exact this)
section
variable {D:Orc} (Ke:Knows Aq Ma D) (Km:Knows Aq WS D) (nn:Int)
include Ke Km
def GM:AV:=.fn (.func 115) [] [.ptr 0 0]
theorem AhD{t u:Tm}{e:Bool}(g:D.ask (.fn 61) [.agg (Hb (t,e)),iv nn] []=Δ (.agg (Hb (u,e)),[])):D.ask (.fn 115) [.agg (Hb (t,e)),.ptr 0 0] [bk [iv nn]]=Δ (.agg (Hb (u,e)),[.keep]):=by
 obtain⟨ps,kz⟩:=t;obtain⟨qs,jz⟩:=u;refine Az Km AaJ (An5 ..) ?_;refine Ab g ?_;rfl
theorem Abi(kd:Int)(F:Fm->Fm)(L:List Fm)(hl:L.length<=1000000)(g:∀ x∈L,D.ask (.fn 112) [.agg (eF x),GM] [bk [iv nn]]=Δ (.agg (eF (F x)),[.keep])):∀(m i:Nat) (R:List Fm),L.length-i=m->i<=L.length->R.length=i->
  D.ask (.lp 112 0) [GM,.ptr 1 0,.ptr 2 0,.sl 3 0 L.length 6,iv (L.length:Int),iv (i:Int)] [bk [iv nn],JS,bk [iv kd,.v (.slice none 0 0),bv Ξ,.v (.slice none 0 0),bv Ξ,.sl 3 0 L.length 6],Ψ (Aj eF (R++L.drop i)) U U]
   = Δ (.tup [iv 0,.ptr 1 0,.ptr 2 0],[.keep,.set JS,.set (bk [iv kd,.v (.slice none 0 0),bv Ξ,.v (.slice none 0 0),bv Ξ,.sl 4 0 L.length 6]),.del,.set (Ψ (Aj eF (R++(L.drop i).map F)) U U)]):=by
 intro m
 induction m with
 |zero=>
  intro i R hm hi hR;rw[Atc (by omega),AtO];refine Ax Ke JF (RZ ..) ?_;exact At rfl
 |succ m ih=>
  intro i R hm hi hR;have h1:i<L.length:=by omega
  have gx:=g L[i] (Ats h1);have ed:L.drop i=L[i]::L.drop (i+1):=χ h1;have ih:=ih (i+1) (R++[F L[i]]) (by omega) (by omega) (by simp;omega);rw[Atp,AtU,Atp,AtU]at ih;have hlt:i<(R++L.drop i).length:=by rw[ed];simp;omega
  have hget:(R++L.drop i)[i]=L[i]:=by
   rw[List.getElem_append_right (by omega)];simp[hR]
  have hset:(R++L.drop i).set i (F L[i])=R++F L[i]::L.drop (i+1):=by
   rw[List.set_append_right _ _ (by omega),ed,hR,Nat.sub_self];rfl
  have rd:=λk=>By BJ (R++L.drop i) i hlt k
  have sp:=BX BJ (R++L.drop i) i hlt (F L[i]);rw[hget]at rd;rw[hset]at sp;have hble:Atl (0+i*6+6) (Aj eF (R++L.drop i)).length=U:=by rw[AR BJ];simp;omega
  refine Ax Ke JF (RZ ..) ?_;refine Au ?_;rw[AC,AJ h1];refine Af ?_;refine(rd _).trans ?_;have e2:(L.drop i).map F=F L[i]::(L.drop (i+1)).map F:=by rw[ed];rfl
  rw[e2];generalize F L[i]=y at *;generalize L[i]=x at *;obtain⟨xk,xt,xe,xs⟩:=x;obtain⟨yk,yt,ye,ys⟩:=y;simp only[eF,eN,Ai]at gx sp ⊢;refine Ab gx ?_;simp only[Ai];rw[AC,AJ h1];refine Af ?_;rw[hble];refine Af ?_;rw[sp,BE (by omega)];refine Ab ih ?_;rfl
theorem UV{kd:Int}{t:Tm}{e:Bool}{ks:List Fm}(h2:kd≠2)(F:Fm->Fm)(L:List Fm)(hl:L.length<=1000000)(hc:D.ask (.fn 107) [.agg (eF (.mk kd t e ks))] []=Δ (.agg (NP kd L.length),[.set (Ψ (Aj eF L) U U)]))
  (g:∀ x∈L,D.ask (.fn 112) [.agg (eF x),GM] [bk [iv nn]]=Δ (.agg (eF (F x)),[.keep])) :
  D.ask (.fn 112) [.agg (eF (.mk kd t e ks)),GM] [bk [iv nn]]=Δ (.agg (eF (kF kd (L.map F))),[.keep]):=by
 have gl:=Abi Ke Km nn kd F L hl g _ 0 [] rfl (by omega) rfl;rw[ι,Atw,Atw]at gl;have hbl:Atl (0+L.length*6) (Aj eF (L.map F)).length=U:=AQ BJ (L.map F) (by simp);have hch:Bk L.length 6 ((Aj eF (L.map F)).take (L.length*6))=(L.map F).map eF:=BF BJ (L.map F) (by simp);rw[eF]at hc ⊢;refine Az Ke JF (Ala ..) ?_;refine Ab hc ?_;simp only[Ai];refine AO ?_ h2;refine Ab gl ?_;simp only[JS,bk,DC,Ai];rw[hbl];refine Af ?_;rw[hch];unfold kF;rw[eF,BI];rfl
theorem XR{x:Fm}{b:Bool}(hc:D.ask (.fn 107) [.agg (eF x)] []=Δ (.agg (eF (C9 b)),[])):D.ask (.fn 112) [.agg (eF x),GM] [bk [iv nn]]=Δ (.agg (eF (C9 b)),[.keep]):=by
 have gl:∀(k0:Int) (k1:Rw) (k2:Bool) (k3:Rw) (k4:Bool),D.ask (.lp 112 0) [GM,.ptr 1 0,.ptr 2 0,.ls [],iv 0,iv 0] [bk [iv nn],JS,bk [iv k0,.ls k1,bv k2,.ls k3,bv k4,.ls []]]=Δ (.tup [iv 0,.ptr 1 0,.ptr 2 0],[.keep,.set JS,.set (bk [iv k0,.ls k1,bv k2,.ls k3,bv k4,.ls []])]):=λk0 k1 k2 k3 k4=>
  Ke.lp' Gq _ rfl (by kernel_rfl) ((R0 ..).trans ((DO (by decide)).trans rfl))
 obtain⟨xk,xt,xe,xs⟩:=x
 cases b with
 |true=>
  unfold C9 kF Zd at hc ⊢;simp only[eF,TS,eN,AtO,if_true]at hc ⊢;refine Az Ke Gq (Uh ..) ?_;refine Ab hc ?_;simp only[Ai];exact(BA (by decide)).trans ((CN (gl ..) _).trans rfl)
 |false=>
  unfold C9 kF Zd at hc ⊢;simp only[eF,TS,eN,AtO]at hc ⊢;refine Az Ke Gq (Uh ..) ?_;refine Ab hc ?_;simp only[Ai];exact(BA (by decide)).trans ((CN (gl ..) _).trans rfl)
theorem UU{x:Fm}{l m:Lf}{e:Bool}(hc:D.ask (.fn 107) [.agg (eF x)] []=Δ (.agg (eF (B8 l e)),[]))
  (g:D.ask (.fn 61) [.agg (Hb (l.tm,e)),iv nn] []=Δ (.agg (Hb (m.tm,e)),[])):D.ask (.fn 112) [.agg (eF x),GM] [bk [iv nn]]=Δ (.agg (eF (B8 m e)),[.keep]):=by
 have g1:=AhD Ke Km nn g;have gl:∀(k0:Int) (k1:Rw) (k2:Bool) (k3:Rw) (k4:Bool),D.ask (.lp 112 0) [GM,.ptr 1 0,.ptr 2 0,.ls [],iv 0,iv 0] [bk [iv nn],JS,bk [iv k0,.ls k1,bv k2,.ls k3,bv k4,.ls []]]=Δ (.tup [iv 0,.ptr 1 0,.ptr 2 0],[.keep,.set JS,.set (bk [iv k0,.ls k1,bv k2,.ls k3,bv k4,.ls []])]):=λk0 k1 k2 k3 k4=>
  Ke.lp' Gq _ rfl (by kernel_rfl) ((R0 ..).trans ((DO (by decide)).trans rfl))
 obtain⟨xk,xt,xe,xs⟩:=x;unfold B8 at hc ⊢;simp only[eF,TS,eN]at hc ⊢;simp only[Hb,eT,eN,List.cons_append,Atw]at g1;refine Az Ke Gq (Uh ..) ?_;refine Ab hc ?_;simp only[Ai];refine Ba ?_ rfl;refine Ab g1 ?_;simp only[Ai];refine Ab (gl ..) ?_;rfl
theorem Abw{x y:Fm}(g:D.ask (.fn 112) [.agg (eF x),GM] [bk [iv nn]]=Δ (.agg (eF y),[.keep])):D.ask (.fn 45) [.agg (eF x),iv nn] []=Δ (.agg (eF y),[]):=by
 obtain⟨xk,xt,xe,xs⟩:=x;obtain⟨yk,yt,ye,ys⟩:=y;rw[eF]at g;rw[eF]at g ⊢;rw[eF];refine Az Km AjR (Aq9 ..) ?_;refine Ab g ?_;rfl
end
structure MEachF (D:Orc) (nn:Int):Prop where
 own:∀{kd:Int} {t:Tm} {e:Bool} {ks:List Fm},kd=3\/kd=4\/kd=5->FC 20 9 (.mk kd t e ks)->D.ask (.fn 107) [.agg (eF (.mk kd t e ks))] []=Δ (.agg (NP kd ((Bq (.mk kd t e ks)).map As).length),[.set (Ψ (Aj eF ((Bq (.mk kd t e ks)).map As)) U U)])
 oth:∀{kd:Int} {t:Tm} {e:Bool} {ks:List Fm},kd≠3->kd≠4->kd≠5->FC 20 9 (.mk kd t e ks)->D.ask (.fn 107) [.agg (eF (.mk kd t e ks))] []=Δ (.agg (eF (As (.mk kd t e ks))),[])
 mov:∀{l:Lf} {e:Bool},TmB 20 9 l.tm->D.ask (.fn 61) [.agg (Hb (l.tm,e)),iv nn] []=Δ (.agg (Hb ((EU nn l).tm,e)),[])
section
variable {D:Orc} (Ke:Knows Aq Ma D) (Km:Knows Aq WS D) (nn:Int) (E:MEachF D nn)
include Ke Km E
theorem NU{x:Fm}(h1:FC 20 9 x)(h2:FC 20 9 (As x))(g:∀ y∈(Bq x).map As,D.ask (.fn 112) [.agg (eF y),GM] [bk [iv nn]]=Δ (.agg (eF (CV (EU nn) y)),[.keep])) :
  D.ask (.fn 112) [.agg (eF x),GM] [bk [iv nn]]=Δ (.agg (eF (CV (EU nn) (As x))),[.keep]):=by
 have hn:=h1.num;obtain⟨k,t,e,ks⟩:=x
 by_cases h3:k=3\/k=4\/k=5
 .have k2:k≠2:=by omega
  have:=UV Ke Km nn k2 (CV (EU nn)) _ (by rw[Atm];exact hn) (E.own h3 h1) g;have ec:As (.mk k t e ks)=kF k ((Bq (.mk k t e ks)).map As):=by
   rw[As,Ad (by omega),Ad k2,Cc]
   by_cases g3:k=3
   .rw[Ac g3,Ad (by omega),Ac g3,CL,g3]
   .rw[Ad g3,Ac (by omega),Ac (by omega),Cm]
  rw[ec,Rz (EU nn) k2];exact this
 .have hc:=E.oth (by omega) (by omega) (by omega) h1
  by_cases k2:k=2
  .have ec:As (.mk k t e ks)=B8 t.lf.pln e:=by rw[As,Ad (by omega),Ac k2]
   rw[ec]at hc h2 ⊢;have b:TmB 20 9 t.lf.pln.tm:=by
    cases h2 with
    |mk ht hl h=>exact ht rfl
   have:=UU Ke Km nn hc (E.mov b);have ep:CV (EU nn) (B8 t.lf.pln e)=B8 (EU nn t.lf.pln) e:=by
    unfold B8;rw[CV,Ac rfl,Ey,Kr]
   rw[ep];exact this
  .obtain⟨b,ec⟩:∃ b,As (.mk k t e ks)=C9 b:=by
    rw[As]
    by_cases h0:k=0
    .exact⟨U,by rw[Ac h0]⟩
    .exact⟨Ξ,by rw[Ad h0,Ad k2,Ad (by omega),Ad (by omega)]⟩
   rw[ec]at hc ⊢;have ep:CV (EU nn) (C9 b)=C9 b:=by cases b<;>rfl
   rw[ep];exact XR Ke Km nn hc
theorem XQ:∀(N:Nat) (c:Fm),SizeOf.sizeOf c<N->CanF c->FC 20 9 c->D.ask (.fn 112) [.agg (eF c),GM] [bk [iv nn]]=Δ (.agg (eF (CV (EU nn) c)),[.keep]):=by
 intro N
 induction N with
 |zero=>intro x h;omega
 |succ N ih=>
  intro c hN hc hf;have ec:=hc.clone;have:=NU Ke Km nn E hf (by rw[ec];exact hf) (λy hy=>by
   obtain⟨z,hz,rfl⟩:=AtH.1 hy;have cz:=hc.kid z hz;rw[cz.clone];refine ih z ?_ cz (hf.kid z hz);obtain⟨k,t,e,ks⟩:=c;have:=BW (k:=k) (t:=t) (e:=e) (CY hz);omega)
  rw[ec]at this;exact this
theorem Abv{x:Fm}(hx:FC 20 8 x)(hx9:FC 20 9 x):D.ask (.fn 45) [.agg (eF x),iv nn] []=Δ (.agg (eF (CV (EU nn) (As x))),[]):=by
 have hc:=Jz _ x (AtT _) hx;refine Abw Ke Km nn (NU Ke Km nn E hx9 hc λy hy=>?_);obtain⟨z,hz,rfl⟩:=AtH.1 hy;exact XQ Ke Km nn E _ _ (AtT _) (D3 z) (hc.kid _ (by rw[DH];exact hy))
end
def Xw:AV:=.fn (.func 195) [] [.ptr 1 0]
theorem Ah5{a tl:Aa}{p w:Nat}(h:p+w<=a.length)(k:Aa->KR):EX (a++tl) p w k=EX a p w k:=by
 unfold EX;rw[At0 h,At0 (show p+w<=(a++tl).length by rw[γ];omega),Avn (by omega),Au2 (by rw[List.length_drop];omega)]
theorem Vx{a tl x:Aa}{p:Nat}(h:p+x.length<=a.length):AG (a++tl) p x=AG a p x++tl:=by
 unfold AG;rw[Au2 (by omega),Avn h];simp only[Atp]
theorem rdT(l:List Pt)(tl:Aa)(i:Nat)(h:i<l.length)(k:Aa->KR):EX (Aj eP l++tl) (0+i*3) 3 k=k (eP l[i]):=(Ah5 (by rw[AR Av];omega) k).trans (By Av l i h k)
theorem spT(l:List Pt)(tl:Aa)(i:Nat)(h:i<l.length)(x:Pt):AG (Aj eP l++tl) (0+i*3) (eP x)=Aj eP (l.set i x)++tl:=by
 rw[Vx (by rw[AR Av,Av];omega),BX Av l i h x]
section
variable {D:Orc} (K:Knows Aq AcH D) (b:Int) (tl:Aa)
include K
theorem AmI(hb:-2147483648<=b)(hb2:b<=2147483647)(p:Pt):D.ask (.fn 195) [.agg (eP p),.ptr 0 0] [bk [iv b]]=Δ (bv (decide (2147483647-b<p.v)),[.keep]):=by
 refine Az K AaM (Aoc ..) ?_;rw[DL (by omega) (by omega)]
 by_cases h:2147483647-b<p.v
 .rw[B3 h]
  exact Qi h
 .rw[Cn h]
  exact DO h
theorem AdZ(P:Pt->Bool)(l:List Pt)(hl:l.length<=1000000000)(hP:∀ p∈l,D.ask (.fn 195) [.agg (eP p),.ptr 0 0] [bk [iv b]]=Δ (bv (P p),[.keep])):∀(m i:Nat),l.length-i=m->i<=l.length->
  D.ask (.lp 199 0) [.sl 0 0 l.length 3,Xw,iv (l.length:Int),iv (i:Int)] [Ψ (Aj eP l++tl) U U,bk [iv b]]
   = if i+(l.drop i).findIdx P<l.length then Δ (.tup [bv U,iv ((i+(l.drop i).findIdx P:Nat):Int)],[.keep,.keep]) else Δ (.tup [iv 0],[.keep,.keep]):=by
 intro m
 induction m with
 |zero=>
  intro i hm hi;rw[Ad (by omega)];refine Ax K I1 (Mz ..) ?_;exact At rfl
 |succ m ih=>
  intro i hm hi;have h1:i<l.length:=by omega
  have g:=hP l[i] (Ats h1);have ih':=ih (i+1) (by omega) (by omega);rw[χ h1,List.findIdx_cons]
  cases hp:P l[i]with
  |true=>
   rw[hp]at g;rw[Ac (by simpa using h1)];refine Ax K I1 (Mz ..) ?_;refine Au ?_;rw[AC,AJ h1];refine Af ?_;refine(rdT l tl i h1 _).trans ?_;simp only[eP,eN,Ai]at g ⊢;refine Ab g ?_;simp only[Ai];rfl
  |false=>
   rw[hp]at g;rw[show (bif Ξ then 0 else(l.drop (i+1)).findIdx P+1)=(l.drop (i+1)).findIdx P+1 from rfl,show i+((l.drop (i+1)).findIdx P+1)=i+1+(l.drop (i+1)).findIdx P by omega]
   by_cases h:i+1+(l.drop (i+1)).findIdx P<l.length
   .rw[Ac h]at ih' ⊢
    refine Ax K I1 (Mz ..) ?_;refine Au ?_;rw[AC,AJ h1];refine Af ?_;refine(rdT l tl i h1 _).trans ?_;simp only[eP,eN,Ai]at g ⊢;refine Ab g ?_;simp only[Ai];rw[BE (by omega)];refine Ab ih' ?_;rfl
   .rw[Ad h]at ih' ⊢
    refine Ax K I1 (Mz ..) ?_;refine Au ?_;rw[AC,AJ h1];refine Af ?_;refine(rdT l tl i h1 _).trans ?_;simp only[eP,eN,Ai]at g ⊢;refine Ab g ?_;simp only[Ai];rw[BE (by omega)];refine Ab ih' ?_;rfl
theorem Ad0(P:Pt->Bool)(l:List Pt)(hl:l.length<=1000000000)(hP:∀ p∈l,D.ask (.fn 195) [.agg (eP p),.ptr 0 0] [bk [iv b]]=Δ (bv (P p),[.keep])) :
  D.ask (.fn 199) [.sl 0 0 l.length 3,Xw] [Ψ (Aj eP l++tl) U U,bk [iv b]]
   = Δ (iv (if l.findIdx P<l.length then(l.findIdx P:Int) else -1),[.keep,.keep]):=by
 have g:=AdZ K b tl P l hl hP _ 0 rfl (by omega);rw[ι,Ato]at g;refine Az K I1 (Aod ..) ?_
 by_cases h:l.findIdx P<l.length
 .rw[Ac h]at g ⊢
  refine Ab g ?_;rfl
 .rw[Ad h]at g ⊢
  refine Ab g ?_;rfl
theorem AdJ(P:Pt->Bool)(Q:Pt->Prop)(hP:∀ p,Q p->D.ask (.fn 195) [.agg (eP p),.ptr 0 0] [bk [iv b]]=Δ (bv (P p),[.keep])):∀(m j i:Nat) (l:List Pt),l.length-j=m->i<=j->j<=l.length->l.length<=1000000000->(∀ p∈l.drop j,Q p)->
  ∃(r:List Pt) (c:Nat),D.ask (.lp 140 0) [.sl 0 0 l.length 3,Xw,iv (i:Int),iv (j:Int)] [Ψ (Aj eP l++tl) U U,bk [iv b]]
   = Δ (.tup [iv 0,.sl 0 0 l.length 3,iv (c:Int)],[.set (Ψ (Aj eP r++tl) U U),.keep])
   ∧ r.length=l.length/\c<=l.length/\r.take c=l.take i++(l.drop j).filter (λp=>!P p):=by
 intro m
 induction m with
 |zero=>
  intro j i l hm hi hj hl hq;refine⟨l,i,?_,rfl,by omega,?_⟩
  .refine Ax K I0 (Qp ..) ?_
   exact At rfl
  .rw[Atc (by omega),List.filter_nil,List.append_nil]
 |succ m ih=>
  intro j i l hm hi hj hl hq;have h1:j<l.length:=by omega
  have h0:i<l.length:=by omega
  have ed:=χ h1;have g:=hP l[j] (hq _ (by rw[ed];exact Atq ..));rw[ed,List.filter_cons]
  cases hp:P l[j]with
  |true=>
   rw[hp]at g;obtain⟨r,c,g2,hr,hc,he⟩:=ih (j+1) i l (by omega) (by omega) (by omega) hl (λp h=>hq p (by rw[ed];exact Atj _ h));refine⟨r,c,?_,hr,hc,he⟩;refine Ax K I0 (Qp ..) ?_;refine Au ?_;rw[AC,AJ h1];refine Af ?_;refine(rdT l tl j h1 _).trans ?_;simp only[eP,eN,Ai]at g ⊢;refine Ab g ?_;simp only[Ai];rw[BE (by omega)];refine Ab g2 ?_;rfl
  |false=>
   rw[hp]at g;have hd:(l.set i l[j]).drop (j+1)=l.drop (j+1):=List.drop_set_of_lt (by omega);obtain⟨r,c,g2,hr,hc,he⟩:=ih (j+1) (i+1) (l.set i l[j]) (by rw[AtL];omega) (by omega) (by rw[AtL];omega) (by rw[AtL];exact hl) (λp h=>hq p (by rw[ed];rw[hd]at h;exact Atj _ h));rw[AtL]at g2 hr hc;have s1:=spT l tl i h0 l[j];simp only[eP,eN]at s1;refine⟨r,c,?_,hr,hc,?_⟩
   .skip
    refine Ax K I0 (Qp ..) ?_;refine Au ?_;rw[AC,AJ h1];refine Af ?_;refine(rdT l tl j h1 _).trans ?_;simp only[eP,eN,Ai]at g ⊢;refine Ab g ?_;simp only[Ai];rw[AC,AJ h0];refine Af ?_;rw[show Atl (0+i*3+3) (Aj eP l++tl).length=U by rw[γ,AR Av];simp;omega];refine Af ?_;rw[s1,BE (by omega),BE (by omega)];refine Ab g2 ?_;rfl
   .rw[he,hd,List.take_succ_eq_append_getElem (by rw[AtL];exact h0),List.getElem_set_self,List.take_set_of_le (η _),Atp]
    rfl
theorem AdK(P:Pt->Bool)(l:List Pt)(hl:l.length<=1000000000)(hP:∀ p∈l,D.ask (.fn 195) [.agg (eP p),.ptr 0 0] [bk [iv b]]=Δ (bv (P p),[.keep])) :
  ∃ cells:Aa,D.ask (.fn 140) [.sl 0 0 l.length 3,Xw] [Ψ (Aj eP l++tl) U U,bk [iv b]]
   = Δ (.sl 0 0 (l.filter λp=>!P p).length 3,[.set (Ψ cells U U),.set (bk [iv b])])
   ∧ cells.take ((l.filter λp=>!P p).length*3)=Aj eP (l.filter λp=>!P p)/\(l.filter λp=>!P p).length*3<=cells.length:=by
 have g:=Ad0 K b tl P l hl hP
 by_cases h:l.findIdx P<l.length
 .rw[Ac h]at g
  obtain⟨r,c,g2,hr,hc,he⟩:=AdJ K b tl P (λp=>p∈l) hP _ (l.findIdx P+1) (l.findIdx P) l rfl (by omega) (by omega) hl (λp hp=>List.mem_of_mem_drop hp);rw[IV P l h]at he;have hk:(l.filter λp=>!P p).length=c:=by
   rw[←he,AtN];omega
  rw[hk,←he];refine⟨AG (Aj eP r++tl) (0+c*3) (B5 [iv 0,bv Ξ,.v (.slice none 0 0)] ((l.length-c)*3)),?_,?_,?_⟩
  .refine Az K I0 (Ai4 ..) ?_
   refine Ab g ?_;simp only[Ai];refine AO ?_;rw[BE (by omega)];refine Ab g2 ?_;simp only[Ai];rw[AC,show I4 c l.length l.length=U by unfold I4;rw[At0 hc,At0 (η _)]];refine Af ?_;rw[show Atl (0+c*3+(l.length-c)*3) (Aj eP r++tl).length=U by rw[γ,AR Av];simp;omega];refine Af ?_;rw[AC,show I4 0 c l.length=U by unfold I4;rw[At0 (AtI _),At0 hc]];rfl
  .unfold AG
   have hlen:((Aj eP r++tl).take (0+c*3)).length=c*3:=by
    rw[AtN,γ,AR Av];omega
   rw[Atp,AuS hlen,Ato,Au2 (by rw[AR Av];omega),Jd r c (by omega)]
  .unfold AG
   rw[γ,γ,AtN,γ,AR Av];omega
 .rw[Ad h]at g
  rw[LL P l h];refine⟨Aj eP l++tl,?_,by rw[←AR Av l,AuS rfl],by rw[γ,AR Av];omega⟩;refine Az K I0 (Ai4 ..) ?_;refine Ab g ?_;simp only[Ai];exact Ba rfl rfl
end
theorem rdV(A:List Pt)(x:Pt)(tl:Aa)(k:Aa->KR):EX (Aj eP A++(eP x++tl)) (0+A.length*3+0) 1 k=k [iv x.v]:=by
 have hl:=AR Av A;unfold EX;rw[show Atl (0+A.length*3+0+1) (Aj eP A++(eP x++tl)).length=U by simp[hl,Av];omega,Ato,At3,←hl,List.drop_left' rfl];rfl
theorem spV(A:List Pt)(x:Pt)(v:Int)(tl:Aa):AG (Aj eP A++(eP x++tl)) (0+A.length*3+0) [iv v]=Aj eP A++(eP ⟨v,x.z⟩++tl):=by
 have hl:=AR Av A;unfold AG;rw[Ato,At3,←hl,AuS rfl,List.drop_append];simp[eP,Atc]
def N1(b:Int)(p:Pt):Pt:=⟨p.v+b,p.z⟩
section
variable {D:Orc} (K:Knows Aq AcI D)
include K
theorem Aph(b:Int)(hb:-2147483648<=b)(hb2:b<=2147483647)(r0:Rw)(r1:Bool)(r2:Rw)(k1:Bool)(k2:Rw)(n:Nat)(hn:n<=4000000)(tl:Aa):∀(r A:List Pt),A.length+r.length=n->(∀ p∈r,0<=p.v/\p.v<=2147483647-b)->
  D.ask (.lp 134 0) [.ptr 0 0,.ptr 1 0,.ptr 2 0,iv (n:Int),iv (A.length:Int)] [bk [iv b],bk [.ls r0,bv r1,.ls r2],bk [.sl 3 0 n 3,bv k1,.ls k2],Ψ (Aj eP A++(Aj eP r++tl)) U U]
   = Δ (.tup [iv 0,.ptr 1 0,.ptr 2 0],[.del,.set (bk [.ls r0,bv r1,.ls r2]),.set (bk [.sl 4 0 n 3,bv k1,.ls k2]),.del,.set (Ψ (Aj eP A++(Aj eP (r.map (N1 b))++tl)) U U)]):=by
 intro r
 induction r with
 |nil=>
  intro A hA _;refine Ax K Nx (VW ..) ?_;rw[List.length_nil]at hA;exact At rfl
 |cons p r ih=>
  intro A hA hr;rw[Ate]at hA;have hp:=hr p (Atq ..);have ih:=ih (A++[N1 b p]) (by simp;omega) (λq hq=>hr q (Atj _ hq));have e1:∀(x:Pt) (t:Aa),Aj eP (A++[x])++t=Aj eP A++(eP x++t):=λx t=>by
   rw[←Bl eP A x,Atp]
  rw[e1,e1,γ,AtP]at ih;have e2:∀(p:Pt) (r:List Pt) (t:Aa),Aj eP (p::r)++t=eP p++(Aj eP r++t):=λp r t=>by
   unfold Aj;rw[List.flatMap_cons,Atp]
  rw[Atu,e2,e2];have hrd:=rdV A p (Aj eP r++tl);have hsp:=spV A p (p.v+b) (Aj eP r++tl);have hlen:Atl (0+A.length*3+0+1) (Aj eP A++(eP p++(Aj eP r++tl))).length=U:=by
   rw[γ,γ,AR Av,Av];simp;omega
  have hx:(⟨p.v+b,p.z⟩:Pt)=N1 b p:=rfl;rw[hx]at hsp;generalize Aj eP A++(eP p++(Aj eP r++tl))=cs at *;refine Ax K Nx (VW ..) ?_;refine Au ?_;rw[AC,show Nat.blt A.length n=U from FF (by omega)];refine Af ?_;refine(hrd _).trans ?_;simp only[Ai];rw[AC,show Nat.blt A.length n=U from FF (by omega),hlen];refine Af ?_;refine Af ?_;rw[BE (by omega),Fo (a:=p.v) (b:=b) (by omega) (by omega),hsp];refine Ab ih ?_;rfl
structure MvF (D:Orc):Prop where
 plain:∀{n k:Nat} {t:Tm},TmB n k t->n<=1000000->k+n<=300000000->∃ tl:Aa,D.ask (.fn 62) [.agg (eT t)] []=Δ (.agg [.sl 0 0 (Bu t.lf.ps).length 3,bv (AY (zv t.k)).neg,eN (AY (zv t.k)).abs],[.set (Ψ (Aj eP ((Bu t.lf.ps).map Bc)++tl) U U)])
 del:∀(b:Int) (tl:Aa) (l:List Pt),-2147483648<=b->b<=2147483647->l.length<=1000000000->∃ cells:Aa,D.ask (.fn 140) [.sl 0 0 l.length 3,Xw] [Ψ (Aj eP l++tl) U U,bk [iv b]]
   = Δ (.sl 0 0 (l.filter λp=>!decide (2147483647-b<p.v)).length 3,[.set (Ψ cells U U),.set (bk [iv b])])
   ∧ cells.take ((l.filter λp=>!decide (2147483647-b<p.v)).length*3)=Aj eP (l.filter λp=>!decide (2147483647-b<p.v))/\(l.filter λp=>!decide (2147483647-b<p.v)).length*3<=cells.length
omit K in
theorem AhG(b:Int)(ps:List (Int × Int)):((((ps.map Bc).filter λp=>!decide (2147483647-b<p.v)).map (N1 b)).map pv)=K7 b ps:=by
 unfold K7;rw[Av8,AuQ,AuQ];have e:((λp:Pt=>!decide (2147483647-b<p.v)) ∘ Bc)=λp:Int × Int=>decide (p.1<=2147483647-b):=funext λp=>by
  show (!decide (2147483647-b<p.1))=_
  by_cases h:p.1<=2147483647-b
  .rw[B3 h,Cn (by omega)]
   rfl
  .rw[Cn h,B3 (by omega)]
   rfl
 rw[e];refine List.map_congr_left λp _=>?_
 show (p.1+b,zv (AY p.2))=_
 rw[BY]
variable (F:MvF D)
include F
theorem AhI{n k:Nat}{t:Tm}(ht:TmB n k t)(hn:n<=100000)(hk:k+n<=100000000)(m:Int):D.ask (.fn 134) [.agg (eT t),iv m] []=Δ (.agg (eT (EU m t.lf).tm),[]):=by
 have hc1:-2147483648<=Bt m:=by unfold Bt;omega
 have hc2:Bt m<=2147483647:=by unfold Bt;omega
 obtain⟨tl,gp⟩:=F.plain ht (by omega) (by omega);have hl:((Bu t.lf.ps).map Bc).length<=n:=by
  rw[Atm];exact AtA (Ii _) ht.lb.len
 obtain⟨cells,gd,gt,gle⟩:=F.del (Bt m) tl ((Bu t.lf.ps).map Bc) hc1 hc2 (by omega);rw[Atm]at gd;have hL:∀ p∈((Bu t.lf.ps).map Bc).filter (λp=>!decide (2147483647-Bt m<p.v)),0<=p.v/\p.v<=2147483647-Bt m/\Lz (k+1) p.z:=λp hp=>by
  obtain⟨h1,h2⟩:=List.mem_filter.1 hp;obtain⟨q,hq,rfl⟩:=AtH.1 h1;refine⟨(Dj t.lf.ps).pos q hq,?_,(Gx ht.lb (by omega) q hq).lz⟩;simp at h2;exact h2
 have hLl:=AtA (List.length_filter_le (λp:Pt=>!decide (2147483647-Bt m<p.v)) ((Bu t.lf.ps).map Bc)) hl;have eM:=AhG (Bt m) (Bu t.lf.ps);generalize ((Bu t.lf.ps).map Bc).filter (λp=>!decide (2147483647-Bt m<p.v))=L at *;have ec:cells=Aj eP []++(Aj eP L++cells.drop (L.length*3)):=by
  show cells=[]++_
  rw[Atw,←gt,AuR]
 rw[ec]at gd;generalize cells.drop (L.length*3)=YR at gd;have gl:=Aph K (Bt m) hc1 hc2 [] Ξ [] (AY (zv t.k)).neg ((AY (zv t.k)).abs.map eL) L.length (by omega) YR L [] (by simp) λp hp=>⟨(hL p hp).1,(hL p hp).2.1⟩
 have hT:TmB n (k+1) ⟨L.map (N1 (Bt m)),AY (zv t.k)⟩:=by
  refine⟨by simpa using hLl,λp hp=>?_,(ht.k.inb.mono (by omega)).lz⟩;obtain⟨q,hq,rfl⟩:=AtH.1 hp;exact(hL q hq).2.2
 obtain⟨tl3,gq⟩:=F.plain hT (by omega) (by omega);have eL2:(Tm.lf ⟨L.map (N1 (Bt m)),AY (zv t.k)⟩).ps=K7 (Bt m) (Bu t.lf.ps):=eM;have eR:(EU m t.lf).tm=⟨(Bu (K7 (Bt m) (Bu t.lf.ps))).map Bc,AY (zv t.k)⟩:=rfl;rw[eR];rw[eL2]at gq;generalize Bu (K7 (Bt m) (Bu t.lf.ps))=Q at *;have hb1:Atl (0+L.length*3) (Aj eP []++(Aj eP (L.map (N1 (Bt m)))++YR)).length=U:=by
  show Atl (0+L.length*3) ([]++_:Aa).length=U
  rw[Atw,γ,AR Av,Atm];simp
 have hch1:Bk L.length 3 (ε (L.length*3) (Aj eP []++(Aj eP (L.map (N1 (Bt m)))++YR)))=(L.map (N1 (Bt m))).map eP:=by
  show Bk L.length 3 (ε (L.length*3) ([]++_))=_
  have h:(Aj eP (L.map (N1 (Bt m)))).length=L.length*3:=by rw[AR Av,Atm]
  have:=CX Av (L.map (N1 (Bt m)));rw[Atm]at this;rw[Atw,←h,AuS rfl,this]
 have hb2:Atl (0+Q.length*3) (Aj eP (Q.map Bc)++tl3).length=U:=by
  rw[γ,AR Av,Atm];simp
 have hch2:Bk Q.length 3 (ε (Q.length*3) (Aj eP (Q.map Bc)++tl3))=(Q.map Bc).map eP:=by
  have h:(Aj eP (Q.map Bc)).length=Q.length*3:=by rw[AR Av,Atm]
  have:=CX Av (Q.map Bc);rw[Atm]at this;rw[←h,AuS rfl,this]
 have em:Ah.min (Ah.max m (-2147483648)) 2147483647=Bt m:=by rw[Apx,Aky];rfl
 obtain⟨ps,kz⟩:=t;refine Az K Nx (An8 ..) ?_;rw[em];simp only[eT,eN,Xw]at gp gq gd ⊢;refine Ab gp ?_;simp only[Ai];refine Ab gd ?_;simp only[Ai];refine Ab gl ?_;simp only[bk,Ai];rw[hb1];refine Af ?_;rw[hch1];refine Ab gq ?_;simp only[Ai];rw[hb2];refine Af ?_;rw[hch2,BY]
theorem Vd{n k:Nat}{t:Tm}(ht:TmB n k t)(hn:n<=100000)(hk:k+n<=100000000)(m:Int)(e:Bool):D.ask (.fn 61) [.agg (Hb (t,e)),iv m] []=Δ (.agg (Hb ((EU m t.lf).tm,e)),[]):=by
 have g:=AhI K F ht hn hk m;generalize (EU m t.lf).tm=y at *;obtain⟨ps,kz⟩:=t;obtain⟨qs,jz⟩:=y;refine Az K AjS (Ara ..) ?_;refine Ab g ?_;rfl
end
section
open Go.RowKit
variable (A:Ar) (D:Orc)
end

section
open Go.RowKit
variable (A:Ar) (D:Orc)
end
theorem ApC{D:Orc}(K:Knows Aq Hz D):Knows Aq WT D:=
 have h:∀ f mf,BG f WT=Δ mf->BG f Hz=Δ mf:=λf mf h=>by
  have hm:=D6 h;unfold WT at hm;rw[List.mem_singleton]at hm
  cases hm
  show BG 111 Hz=Δ Wh
  kernel_rfl
 ⟨λHn s f mf args bs r h1 h2=>K.fn Hn s f mf args bs r (h f mf h1) h2,λHn s f i mf q c args bs r h1 h2 h3=>K.lp Hn s f i mf q c args bs r (h f mf h1) h2 h3⟩
theorem ZG{n k:Nat}:∀(N:Nat) (x:Fm),SizeOf.sizeOf x<N->FC n k x->FB n (k+n) (As x):=by
 intro N
 induction N with
 |zero=>intro x h;omega
 |succ N ih=>
  intro x hN hx;obtain⟨ht,hkl,h⟩:=hx;rename_i kd t e ks;have hh:∀ y∈Bq (.mk kd t e ks),FB n (k+n) (As y):=λy hy=>ih y (by have:=BW (k:=kd) (t:=t) (e:=e) (Ic hy);omega) (h y hy)
  rw[Cc]at hh hkl;rw[As]
  by_cases h0:kd=0
  .rw[Ac h0]
   exact Ac0 _ _ _
  rw[Ad h0]
  by_cases h2:kd=2
  .rw[Ac h2]
   exact .mk (ht h2).lb.pln.tb (AtI _) λy hy=>(by cases hy)
  rw[Ad h2]
  by_cases h3:kd=3
  .rw[Ac h3,CL]
   rw[Ad (by omega),Ac h3]at hh hkl;refine .mk (Rt _ _) (by rw[Atm];exact hkl) λy hy=>?_
   obtain⟨z,hz,rfl⟩:=AtH.1 hy;exact hh z hz
  rw[Ad h3]
  by_cases h4:kd=4\/kd=5
  .rw[Ac h4,Cm]
   rw[Ac h4]at hh hkl;refine .mk (Rt _ _) (by rw[Atm];exact hkl) λy hy=>?_
   obtain⟨z,hz,rfl⟩:=AtH.1 hy;exact hh z hz
  .rw[Ad h4]
   exact Ac0 _ _ _
section
variable {D:Orc} (Kw:Knows Aq Oy D)
include Kw
theorem Vi(V W:Rw)(T:Lf->Lf)(E:RwF D V W T){x:Fm}(hx:FC 20 8 x)(hx9:FC 20 9 x):D.ask (.fn 44) [.agg (eF x),.ls V,.ls W] []=Δ (.agg (eF (CV T (As x))),[]):=by
 have hc:=Jz _ x (AtT _) hx;refine L6 Kw V W T E hx9 hc λy hy=>?_
 obtain⟨z,hz,rfl⟩:=AtH.1 hy;exact Va Kw V W T E _ _ (AtT _) (D3 z) (hc.kid _ (by rw[DH];exact hy))
theorem Tg(nn:Int)(T:Lf->Lf)(E:RmF D nn T){x:Fm}(hx:FC 20 8 x)(hx9:FC 20 9 x):D.ask (.fn 46) [.agg (eF x),iv nn] []=Δ (.agg (eF (CV T (As x))),[]):=by
 have hc:=Jz _ x (AtT _) hx;refine LZ Kw nn T E hx9 hc λy hy=>?_
 obtain⟨z,hz,rfl⟩:=AtH.1 hy;exact U9 Kw nn T E _ _ (AtT _) (D3 z) (hc.kid _ (by rw[DH];exact hy))
end
structure PutsF (D:Orc):Prop where
 live:D.ask (.fn 34) [] []=Δ (bv U,[])
 few:∀ x:Fm,WzF x->D.ask (.fn 35) [.agg (eF x),iv 40,iv 8] []=Δ (bv (decide (GY x 40<=40)&&GS 8 x),[])
 fewT:∀ t:Tm,D.ask (.fn 16) [.ls ([(t,Ξ)].map Hb),iv 1,iv 8] []=Δ (bv (decide ([(t,Ξ)].length<=1)&&[(t,Ξ)].all (Ir 8)),[])
 put:∀{x:Fm} {vs:List Int} {bys:List Tm},FC 20 8 x->FC 20 9 x->vs.length<=1000->bys.length<=1000->(∀ t∈bys,TmB 20 8 t)->D.ask (.fn 43) [.agg (eF x),.ls (vs.map eI),.ls (bys.map eT)] []=Δ (.agg (eF (Iu (GR vs bys) (As x))),[])
 move:∀{x:Fm},FC 20 8 x->FC 20 9 x->∀ nn:Int,D.ask (.fn 45) [.agg (eF x),iv nn] []=Δ (.agg (eF (CV (EU nn) (As x))),[])
 rput:∀{x:Fm} {vs:List Int} {bys:List Tm},FC 20 8 x->FC 20 9 x->vs.length<=1000->bys.length<=1000->(∀ t∈bys,TmB 20 8 t)->D.ask (.fn 44) [.agg (eF x),.ls (vs.map eI),.ls (bys.map eT)] []=Δ (.agg (eF (CV (K9 (GR vs bys)) (As x))),[])
 rmove:∀{x:Fm},FC 20 8 x->FC 20 9 x->∀ nn:Int,D.ask (.fn 46) [.agg (eF x),iv nn] []=Δ (.agg (eF (CV (EU nn) (As x))),[])
 same:∀{y:Fm},FB 400 20100 y->CnF y->D.ask (.fn 38) [.agg (eF y),.agg (eF y)] []=Δ (bv U,[])
section
variable {D:Orc} (K:Knows Aq VE D) (P:PutsF D)
include K P
theorem AhW(x:Fm)(V:Rw)(nn:Int)(bys:List Tm)(hl:bys.length<=6):∀(m i:Nat),bys.length-i=m->i<=bys.length->
  D.ask (.lp 10 0) [.ls V,.ls (bys.map eT),iv nn,.ptr 0 0,.ls (bys.map eT),iv (bys.length:Int),iv (i:Int)] [bk (eF x)]
   = Δ (if(bys.drop i).all (λt=>Ir 8 (t,Ξ))=U then(.tup [iv 0,.ls V,.ls (bys.map eT),iv nn,.ptr 0 0],[.set (bk (eF x))]) else(.tup [bv U,bv U],[.del])):=by
 obtain⟨xk,⟨xp,xz⟩,xe,xs⟩:=x;rw[eF];intro m
 induction m with
 |zero=>
  intro i hm hi;rw[Atc (by omega),Avl,Ac rfl];refine Ax K Sk (ZQ ..) ?_;exact At rfl
 |succ m ih=>
  intro i hm hi;have h1:i<bys.length:=by omega
  have ih:=ih (i+1) (by omega) (by omega);have hn1:∀ kk,Bh (bys.map eT) i kk=kk (eT bys[i]):=λkk=>AD (δ h1) kk
  have gf:=P.fewT bys[i];rw[χ h1,AuD];generalize bys[i]=t at *;simp only[AtP,AuD,Avl,Bool.and_true,η,decide_true,AuC,Atu,AtO]at gf;generalize (bys.drop (i+1)).all (λt=>Ir 8 (t,Ξ))=ba at *;obtain⟨tp,tz⟩:=t;rw[KN]at gf;refine Ax K Sk (ZQ ..) ?_;refine Au ?_;rw[AC,hn1];simp only[eT,eN,Ai]at gf ⊢;refine Ab gf ?_;simp only[Ai]
  cases Ir 8 (⟨tp,tz⟩,Ξ) with
  |false=>rfl
  |true=>
   rw[AuC];refine Af ?_;rw[BE (by omega)]
   cases ba with
   |true=>exact Ab ih rfl
   |false=>exact Ab ih rfl
theorem Abh(x:Fm)(hw:WzF x)(vs:List Int)(hvl:vs.length<4611686018427387904)(bys:List Tm)(hbl:bys.length<4611686018427387904)(hb:∀ t∈bys,LmT t)(nn:Int):D.ask (.fn 10) [.agg (eF x),.ls (vs.map eI),.ls (bys.map eT),iv nn] []=Δ (bv U,[]):=by
 have gf:=P.few x hw;have body:decide (GY x 40<=40)=U->GS 8 x=U->vs.length<=6->bys.length<=6->(bys.all λt=>Ir 8 (t,Ξ))=U->∃ y z:Fm,D.ask (.fn 43) [.agg (eF x),.ls (vs.map eI),.ls (bys.map eT)] []=Δ (.agg (eF y),[])/\D.ask (.fn 44) [.agg (eF x),.ls (vs.map eI),.ls (bys.map eT)] []=Δ (.agg (eF y),[])/\D.ask (.fn 38) [.agg (eF y),.agg (eF y)] []=Δ (bv U,[])
   ∧ D.ask (.fn 45) [.agg (eF x),iv nn] []=Δ (.agg (eF z),[])/\D.ask (.fn 46) [.agg (eF x),iv nn] []=Δ (.agg (eF z),[])/\D.ask (.fn 38) [.agg (eF z),.agg (eF z)] []=Δ (bv U,[]):=λh1 h1' h2 h3 hA=>by
  have h1:=of_decide_eq_true h1;have hc:=Aon 8 _ x 40 (AtT _) (by omega) h1 h1' hw;have hc9:FC 20 9 x:=FC.mono (η _) (by omega) _ x (AtT _) hc;rw[List.all_eq_true]at hA;have hbt:∀ t∈bys,TmB 20 8 t:=λt ht=>(hb t ht).tmb (L:=8) (hA t ht)
  have hfb:=ZG _ x (AtT _) hc;have hcn:=(D3 x).cn;have g1:=P.put (vs:=vs) hc hc9 (by omega) (by omega) hbt;rw[S7]at g1;refine⟨_,_,g1,P.rput hc hc9 (by omega) (by omega) hbt,P.same ?_ ?_,P.move hc hc9 nn,P.rmove hc hc9 nn,P.same ?_ ?_⟩
  .exact AcY (λl hl=>AhV (Vl hbt) (by omega) hl) (by omega) (by omega) _ _ (AtT _) hfb
  .exact AcX _ _ (AtT _) hcn
  .exact AcY (λl hl=>(AhE hl (by omega)).mono (by omega) (by omega)) (by omega) (by omega) _ _ (AtT _) hfb
  .exact AcX _ _ (AtT _) hcn
 have gl:=λh=>AhW K P x (vs.map eI) nn bys h _ 0 rfl (by omega)
 rw[ι]at gl;obtain⟨k,⟨xp,xz⟩,e,ks⟩:=x;generalize hd:decide (GY (.mk k ⟨xp,xz⟩ e ks) 40<=40)=d1 at gf body;generalize hd2:GS 8 (.mk k ⟨xp,xz⟩ e ks)=d2 at gf body;simp only[eF,eN]at gf body gl ⊢;refine Az K Sk (Aqh ..) ?_;refine Ab P.live ?_;simp only[Ai];refine Ab gf ?_;simp only[Ai]
 by_cases h1:d1=U/\d2=U
 .obtain⟨rfl,rfl⟩:=h1
  refine Af ?_;rw[Ao,Ao]
  by_cases h2:6<vs.length
  .exact Au rfl
  refine At ?_
  by_cases h3:6<bys.length
  .exact Au rfl
  refine At ?_;have gl:=gl (by omega)
  cases hA:(bys.all λt=>Ir 8 (t,Ξ)) with
  |false=>
   rw[hA,Ad (by decide)]at gl;exact Ab gl rfl
  |true=>
   rw[hA,Ac rfl]at gl;obtain⟨⟨yk,⟨yp,yz⟩,ye,ys⟩,⟨zk,⟨zp,zz⟩,ze,zs⟩,g1,g2,g3,g4,g5,g6⟩:=body rfl rfl (by omega) (by omega) hA;simp only[eF,eN]at g1 g2 g3 g4 g5 g6;refine Ab gl ?_;simp only[bk,Ai];refine Ab g1 ?_;simp only[Ai];refine Ab g2 ?_;simp only[Ai];refine Ab g3 ?_;simp only[Ai];refine Ab g4 ?_;simp only[Ai];refine Ab g5 ?_;simp only[Ai];refine Ab g6 ?_;rfl
 .cases d1 with
  |false=>rfl
  |true=>
   cases d2 with
   |false=>rfl
   |true=>exact absurd ⟨rfl,rfl⟩ h1
end

section
variable {D:Orc} (Kt:Knows XZ WV D) (Z:ZF D) (hcp:∀{z:Zi},Lz 1000000000 z->D.ask (.fn 138) [.agg (eZ z)] []=Δ (.agg (eZ (AY (zv z))),[]))
include Z
include Kt hcp in
theorem X2{k:Nat}(ps:List Pt)(hl:ps.length<=1000000)(hk:k+ps.length<=900000000)(hz:∀ p∈ps,Lz k p.z)(r0:Rw)(r1:Bool)(r2:Rw)(k1:Bool)(k2:Rw):∀(m i:Nat) (s:List (Int × Int)),ps.length-i=m->i<=ps.length->s.length<=i->(∀ q∈s,InB (k+i) q.2)->
  D.ask (.lp 62 0) [.ptr 0 0,.ptr 1 0,.ls (ps.map eP),iv (ps.length:Int),iv (i:Int)] [⟨[.ls r0,bv r1,.ls r2],U,Ξ⟩,⟨[.sl 2 0 (s.map Bc).reverse.length 3,bv k1,.ls k2],U,Ξ⟩,Eh (s.map Bc).reverse]
   = Δ (.tup [iv 0,.ptr 0 0,.ptr 1 0],[.set ⟨[.ls r0,bv r1,.ls r2],U,Ξ⟩,.set ⟨[.sl 3 0 ((((ps.drop i).map pv).foldl Dt s).map Bc).reverse.length 3,bv k1,.ls k2],U,Ξ⟩,.del,.set (Eh ((((ps.drop i).map pv).foldl Dt s).map Bc).reverse)]):=by
 intro m
 induction m with
 |zero=>
  intro i s hm hi hs hb;rw[Atc (by omega),AtO,List.foldl_nil];refine Ax Kt NF (V2 ..) ?_;exact At rfl
 |succ m ih0=>
  intro i s hm hi hs hb;have h1:i<ps.length:=by omega
  have hzk:=hz ps[i] (Ats h1);have hzi:=hzk.mono (show k<=1000000000 by omega);rw[χ h1,Atu,AuZ];have ih:=ih0 (i+1) (Dt s (pv ps[i])) (by omega) (by omega) (by have:=JD s (pv ps[i]);omega) (JC hb (hzk.inb.mono (show k<=k+i by omega)));refine Ax Kt NF (V2 ..) ?_;refine Au ?_;rw[AC,AD (δ h1)];simp only[eP,eN,Ai];generalize hS:((ps.drop (i+1)).map pv).foldl Dt (Dt s (pv ps[i]))=S at ih ⊢
  by_cases hneg:ps[i].v<0
  .have e:Dt s (pv ps[i])=s:=by
    have hn:(pv ps[i]).1<0:=hneg
    cases s with
    |nil=>rw[Ej,Ac hn]
    |cons q r=>rw[DG,Ac hn]
   rw[e]at ih;refine Au ?_ hneg;rw[BE (by omega)];refine Ab ih ?_;rfl
  have hn:¬(pv ps[i]).1<0:=hneg;refine At ?_ hneg
  cases s with
  |nil=>
   rw[Ej,Ad hn]at ih;refine CQ ?_ (by decide);obtain⟨o,ho0⟩:∃ o:List Pt,o=[]:=⟨_,rfl⟩;have eo:(([pv ps[i]].map Bc).reverse)=o++[Bc (pv ps[i])]:=by rw[ho0];rfl
   rw[eo]at ih;have ho:o.length<=i:=by rw[ho0];exact AtI _
   rw[show ((([]:List (Int × Int)).map Bc).reverse)=o from ho0.symm];have hf:Bo (o.length+1) 40=U:=AZ (by omega) (by omega);have hb1:Atl (0+o.length*3) (Aj eP o).length=U:=AQ Av o (by omega);have e3:Atg 0 (ε (0+o.length*3) (Aj eP o))++[iv ps[i].v,bv (AY (zv ps[i].z)).neg,eN (AY (zv ps[i].z)).abs]=Aj eP (o++[Bc (pv ps[i])]):=by
    rw[ι,Br Av o (by omega)];exact Bl eP o (Bc (pv ps[i]))
   refine Ab (hcp hzi) ?_;simp only[eZ,eN,Ai]at e3 ⊢;rw[hf];refine Af ?_;rw[hb1];refine Af ?_;rw[e3,BE (by omega)];rw[γ,AtP]at ih;refine Ab ih ?_;rfl
  |cons q r=>
   have eo:(((q::r).map Bc).reverse)=(r.map Bc).reverse++[Bc q]:=by simp
   have hq:=hb q (Atq ..);rw[eo];rw[DG,Ad hn]at ih;have hro:(r.map Bc).reverse.length<=i:=by simp at hs ⊢;omega
   by_cases heq:q.1=(pv ps[i]).1
   .rw[Ac heq,Atu,Avd]at ih
    generalize (r.map Bc).reverse=o at hro ih ⊢;have e1:Ah.sub .i64 (((o++[Bc q]).length:Nat):Int) 1=((o.length:Nat):Int):=by
     rw[γ,AtP];exact Ow (by omega)
    have hlt:o.length<(o++[Bc q]).length:=by simp
    have ga:=Z.add (AY q.2) ps[i].z (hq.lz.mono (by omega)) (hzk.mono (by omega));rw[BY]at ga;have sp:=ApI o (Bc q) (AY (q.2+zv ps[i].z));rw[e1];refine Cz ?_;rw[AC,AJ hlt];refine Af ?_;refine(Ah6 o (Bc q) _).trans ?_;simp only[Ai];refine Ba ?_ (show (Bc q).v=ps[i].v from heq);rw[AC,AJ hlt];refine Af ?_;refine(Apz o (Bc q) _).trans ?_;simp only[eN,Ai];refine Ab ga ?_;simp only[eZ,eN,Ai]at sp ⊢;rw[AC,AJ hlt];refine Af ?_;rw[show Atl (0+o.length*3+1+2) (Aj eP (o++[Bc q])).length=U by rw[AR Av];simp;omega];refine Af ?_;rw[sp,BE (by omega)];have el:(o++[Bc q]).length=(o++[Bc (q.1,q.2+(pv ps[i]).2)]).length:=by simp
    rw[el];refine Ab ih ?_;rfl
   .rw[Ad heq,Atu,Avd,eo]at ih
    have hlen:((r.map Bc).reverse++[Bc q]).length<=i:=by simp at hs ⊢;omega
    have e1:Ah.sub .i64 ((((r.map Bc).reverse++[Bc q]).length:Nat):Int) 1=(((r.map Bc).reverse.length:Nat):Int):=by
     rw[γ,AtP];exact Ow (by omega)
    have hlt:(r.map Bc).reverse.length<((r.map Bc).reverse++[Bc q]).length:=by simp
    rw[e1];refine Cz ?_;rw[AC,AJ hlt];refine Af ?_;refine(Ah6 _ (Bc q) _).trans ?_;simp only[Ai];refine AO ?_ (show ¬(Bc q).v=ps[i].v from heq);generalize (r.map Bc).reverse++[Bc q]=o at hlen ih ⊢;have ho:=hlen;have hf:Bo (o.length+1) 40=U:=AZ (by omega) (by omega);have hb1:Atl (0+o.length*3) (Aj eP o).length=U:=AQ Av o (by omega);have e3:Atg 0 (ε (0+o.length*3) (Aj eP o))++[iv ps[i].v,bv (AY (zv ps[i].z)).neg,eN (AY (zv ps[i].z)).abs]=Aj eP (o++[Bc (pv ps[i])]):=by
     rw[ι,Br Av o (by omega)];exact Bl eP o (Bc (pv ps[i]))
    refine Ab (hcp hzi) ?_;simp only[eZ,eN,Ai]at e3 ⊢;rw[hf];refine Af ?_;rw[hb1];refine Af ?_;rw[e3,BE (by omega)];rw[γ,AtP]at ih;refine Ab ih ?_;rfl
end
section
variable {D:Orc} {M:Nat} (Kt:Knows XZ WV D) (Z:ZF D) (hcp:∀{z:Zi},Lz 1000000000 z->D.ask (.fn 138) [.agg (eZ z)] []=Δ (.agg (eZ (AY (zv z))),[]))
 (hsort:∀ l:List Pt,l.length<=M->∃ r:List Pt,D.ask (.fn 136) [.sl 0 0 l.length 3,E5] [Eh l]=Δ (.tup [],[.set (Eh r)])/\r.length=l.length/\r.Perm l/\Srt Pt.v r 0 r.length)
 (hdel:∀ l:List Pt,l.length<=1000000000->(∀ p∈l,Lz 1000000000 p.z)->∃ cells:Aa,D.ask (.fn 140) [.sl 0 0 l.length 3,fnZ] [Ψ (Aj eP l) U U]
   = Δ (.sl 0 0 (l.filter λp=>!decide (zv p.z=0)).length 3,[.set (Ψ cells U U)])
   ∧ cells.take ((l.filter λp=>!decide (zv p.z=0)).length*3)=Aj eP (l.filter λp=>!decide (zv p.z=0))/\(l.filter λp=>!decide (zv p.z=0)).length*3<=cells.length)
include Kt Z hcp hsort hdel
theorem X1{n k:Nat}{t:Tm}(h:TmB n k t)(hn:n<=1000000)(hnM:n<=M)(hk:k+n<=900000000)(gc:D.ask (.fn 135) [.ls (t.ps.map eP)] []=Δ (.sl 0 0 t.ps.length 3,[.set (Eh t.ps)])):∃ tl:Aa,D.ask (.fn 62) [.agg (eT t)] []=Δ (.agg [.sl 0 0 (Bu t.lf.ps).length 3,bv (AY (zv t.k)).neg,eN (AY (zv t.k)).abs],[.set (Ψ (Aj eP ((Bu t.lf.ps).map Bc)++tl) U U)]):=by
 obtain⟨ps,kz⟩:=t;have hlen:ps.length<=n:=h.len;obtain⟨r,gs,gr,gp,go⟩:=hsort ps (by omega);have gk:=hcp (h.k.mono (show k<=1000000000 by omega));have hzr:∀ p∈r,Lz k p.z:=λp hp=>h.ps p (gp.mem_iff.1 hp)
 have gl:=X2 Kt Z hcp r (k:=k) (by omega) (by omega) hzr [] Ξ [] (AY (zv kz)).neg ((AY (zv kz)).abs.map eL) _ 0 [] rfl (by omega) (by simp) (by simp);rw[ι]at gl;have hsrt:(r.map pv).Pairwise λa b=>a.1<=b.1:=by
  rw[List.pairwise_map];exact Kd Pt.v go
 have hpl:=V7 hsrt (gp.map pv);generalize hS:(r.map pv).foldl Dt []=S at gl hpl;have hsb:∀ p∈((S.map Bc).reverse),Lz 1000000000 p.z:=by
  have key:∀(t s:List (Int × Int)) (j:Nat),(∀ q∈s,InB (k+j) q.2)->(∀ q∈t,InB k q.2)->∀ q∈t.foldl Dt s,InB (k+j+t.length) q.2:=by
   intro t
   induction t with
   |nil=>intro s j hs _ q hq;exact hs q hq
   |cons p t ih=>
    intro s j hs ht q hq;have:=ih (Dt s p) (j+1) (JC hs ((ht p (Atq ..)).mono (show k<=k+j by omega))) (λq hq=>ht q (Atj _ hq)) q hq;rw[Ate];exact this.mono (by omega)
  intro p hp;rw[List.mem_reverse,AtH]at hp;obtain⟨q,hq,rfl⟩:=hp;have:=key (r.map pv) [] 0 (by simp) (λq hq=>by
   rw[AtH]at hq;obtain⟨p,hp,rfl⟩:=hq;exact(hzr p hp).inb) q (by rw[hS];exact hq)
  rw[Atm]at this;exact(this.lz).mono (by omega)
 have hSl:S.length<=1000000:=by
  have key:∀(t s:List (Int × Int)),(t.foldl Dt s).length<=s.length+t.length:=by
   intro t
   induction t with
   |nil=>intro s;simp
   |cons p t ih=>
    intro s;have:=ih (Dt s p);have h2:=JD s p;rw[AuZ,Ate];omega
  have:=key (r.map pv) [];rw[hS,Atm]at this;simp at this;omega
 obtain⟨cells,gd,gt,gle⟩:=hdel (S.map Bc).reverse (by simp;omega) hsb;have hfin:((S.map Bc).reverse).filter (λp=>!decide (zv p.z=0))=(Bu (ps.map pv)).map Bc:=by
  rw[←hpl,←List.map_reverse,Av8]
  congr 1
  refine List.filter_congr λq _=>?_
  show (!decide (zv (AY q.2)=0))=_
  rw[BY]
 rw[hfin]at gd gt gle;have hce:cells=Aj eP ((Bu (ps.map pv)).map Bc)++cells.drop (((Bu (ps.map pv)).map Bc).length*3):=by
  rw[←gt,AuR]
 refine⟨cells.drop (((Bu (ps.map pv)).map Bc).length*3),?_⟩
 show _=Δ (AV.agg [.sl 0 0 (Bu (ps.map pv)).length 3,bv (AY (zv kz)).neg,eN (AY (zv kz)).abs],([.set (Ψ (Aj eP ((Bu (ps.map pv)).map Bc)++cells.drop (((Bu (ps.map pv)).map Bc).length*3)) U U)]:List BO))
 rw[←hce];refine Az Kt NF (Aoi ..) ?_;refine Ab gc ?_;simp only[Ai];refine Ab gs ?_;simp only[Ai];refine Ab gk ?_;simp only[eZ,eN,Ai];rw[show Atl (0+ps.length*3) (Aj eP r).length=U from AQ Av r (by omega)];refine Af ?_;rw[BF Av r (by omega),←gr];refine Ab gl ?_;simp only[Ai];refine Ab gd ?_;simp only[Atm,Ai]
end
theorem Xj{l:List Pt}(h:l.length<=1000000000):Gg 3 40 [.ls (l.map eP)] []=Δ (.sl 0 0 l.length 3,[.set (Eh l)]):=M7 h
theorem ArJ:ZF VJ where
 frm z h:=Adk (LC.frm z h)
 neg z h:=AiU (LC.neg z h)
 sign z h:=Adl (LC.sign z h)
 of_ n h1 h2:=Ani (LC.of_ n h1 h2)
 cmp a b ha hb:=AiS (LC.cmp a b ha hb)
 add a b ha hb:=AiR (LC.add a b ha hb)
 mul a b ha hb h:=AiT (LC.mul a b ha hb h)
theorem Arf(f:Nat):A1 (Bi ζ f) ((AB Ah On).ask (.fn f)):=Cq (YD ⟨G9,UG _,UG _,UG _,UG _,UG _,UG _,UG _,UG _,UG _,UG _,trivial⟩) f
theorem gM0(f:Nat):A1 (Bi ζ f) ((AB Ah Oi).ask (.fn f)):=Cq (Yt trivial) f
theorem gM1(f:Nat):A1 (Bi ζ f) ((AB Ah Oj).ask (.fn f)):=Cq (Yu ⟨Arf _,gM0 _,trivial⟩) f
theorem gP7(f:Nat):A1 (Bi ζ f) ((AB Ah Om).ask (.fn f)):=Cq (YA ⟨gP2 _,gM1 _,trivial⟩) f
theorem Alu:Dr ζ Ni:=by
 unfold Ni;refine⟨?_,gR1 _,gR1 _,trivial⟩;dsimp only;exact Aoq
theorem gR3(f:Nat):A1 (Bi ζ f) ((AB Ah Jg).ask (.fn f)):=Cq (YC Alu) f
theorem An0(l:List Pt)(hl:l.length<=1000000000)(hz:∀ p∈l,Lz 1000000000 p.z):∃ cells:Aa,TV.ask (.fn 140) [.sl 0 0 l.length 3,fnZ] [Ψ (Aj eP l) U U]
   = Δ (.sl 0 0 (l.filter λp=>!decide (zv p.z=0)).length 3,[.set (Ψ cells U U)])
   ∧ cells.take ((l.filter λp=>!decide (zv p.z=0)).length*3)=Aj eP (l.filter λp=>!decide (zv p.z=0))/\(l.filter λp=>!decide (zv p.z=0)).length*3<=cells.length:=
 ZO (FZ NO) (λp=>decide (zv p.z=0)) l hl (λp hp=>Pv (FZ NO) LC (hz p hp))
theorem AhO{n k:Nat}{t:Tm}(ht:TmB n k t)(hn:n<=1000000)(hk:k+n<=300000000):∃ tl:Aa,VJ.ask (.fn 62) [.agg (eT t)] []=Δ (.agg [.sl 0 0 (Bu t.lf.ps).length 3,bv (AY (zv t.k)).neg,eN (AY (zv t.k)).abs],[.set (Ψ (Aj eP ((Bu t.lf.ps).map Bc)++tl) U U)]):=by
 have hl:=ht.len;refine X1 (M:=1000000) AoU ArJ (λh=>Y7 (EO SI LC h)) (λl hl=>?_) (λl hl hz=>?_) ht hn hn (by omega) (Y6 (Xj (by omega)))
 .obtain⟨r,g,h⟩:=Tv NO (l:=l) (by omega)
  exact⟨r,Adh g,h⟩
 .obtain⟨c,g,h⟩:=An0 l hl hz
  exact⟨c,AiG g,h⟩
theorem Apg:MvF DM1 where
 plain ht hn hk:=by
  obtain⟨tl,g⟩:=AhO ht hn hk;exact⟨tl,Adf g⟩
 del b tl l h1 h2 hl:=by
  obtain⟨c,g,h⟩:=AdK AjW b tl (λp=>decide (2147483647-b<p.v)) l hl λp _=>AmI AjW b h1 h2 p
  exact⟨c,Ane g,h⟩
theorem Alc(nn:Int):MEachF DP7 nn where
 own h hx:=TP (Pb V9 h (WZ (JH NN _)) _ (P9 (Na AjX hx.num λy hy=>TN (ZD (hx.kid y hy)))))
 oth h3 h4 h5 hx:=TP (Pa V9 h3 h4 h5 (λb=>TR (Ku NN b)) (λh2=>AkG (KF SI (Ail NO) LC MH NN (by
  cases hx with
  |mk ht hl h=>exact ht h2) (by omega) (by omega) _)))
 mov {l e} h:=AiM (by
  have:=Vd AoK Apg h (by omega) (by omega) nn e;rw[Ey]at this;exact this)
theorem ArF(vs:List Int)(bys:List Tm)(h1:vs.length<=1000)(hb:∀ t∈bys,TmB 20 8 t):RwF DR3 (vs.map eI) (bys.map eT) (K9 (GR vs bys)) where
 own h hx:=MQ (ZM h hx)
 oth h3 h4 h5 hx:=MQ (ZL h3 h4 h5 hx)
 put {l} h:=AiN (by
  have:=Vk SH Wa AbY AjZ vs bys h1 hb h;rw[Ey]at this;exact this)
theorem ArE(nn:Int):RmF DR3 nn (EU nn) where
 own h hx:=MQ (ZM h hx)
 oth h3 h4 h5 hx:=MQ (ZL h3 h4 h5 hx)
 put {l} h:=Ade (by
  have:=Ab1 SH Wa AbY AjZ h (by omega) (by omega) nn;rw[Ey]at this;exact this)
theorem Tq:SeatOk ζ Bn Vp:=Yz ⟨Aot,gP4 _,gP7 _,gR3 _,gR3 _,gR1 _,gR1 _,gR1 _,trivial⟩
theorem AmO:PutsF DP6 where
 live:=AiK Ad8
 few x hw:=Anf (Ah1 (ApC Pw) AoJ AjV x hw 40 (8:Nat) (by omega) (by omega))
 fewT t:=AiH (Aaw AjV [(t,Ξ)] 1 (8:Nat) (by omega))
 put hx hx9 h1 h2 hb:=Y9 (AhT AoM _ _ _ (Alb _ _ h1 h2 hb) hx hx9)
 move hx hx9 nn:=AiL (Abv AoN AoO nn (Alc nn) hx hx9)
 rput hx hx9 h1 h2 hb:=AiO (Vi AjY _ _ _ (ArF _ _ h1 hb) hx hx9)
 rmove hx hx9 nn:=Adg (Tg AjY nn _ (ArE nn) hx hx9)
 same h1 h2:=by
  obtain⟨b,g,h⟩:=Yf SH Pw AbY (by omega) (by omega) _ _ _ (AtT _) h1 h2 h2;obtain rfl:b=U:=h.2 rfl;exact AiP g
