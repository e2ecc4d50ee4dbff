/- Formulas as they lie in -/
import Derived.Test.YtpncilciembjdaaGreatDoorJAX
import Derived.Test.YtpncilciembjdaaGreatDoorJAS
import Derived.Test.YtpncilciembjdaaGreatDoorJAT
set_option linter.all false
open Bool renaming false->Ξ,true->U,false_or->Avs,true_and->AuC
open Int renaming lt_trichotomy->Avv,mul_zero->Avy,natAbs_neg->Au4,natCast_mul->Av6,sub_eq_add_neg->AvS,zero_add->Awf,zero_mul->Awg
open List renaming all_cons->AuD,append_assoc->Atp,append_nil->AtY,drop->Atg,drop_eq_getElem_cons->χ,drop_eq_nil_of_le->Atc,drop_zero->ι,getD_eq_getElem?_getD->AuT,getElem?_eq_getElem->δ,getElem?_eq_none->Aum,getElem_append_right->AuV,getElem_mem->Ats,length_append->γ,length_cons->Ate,length_map->Atm,length_singleton->AtP,length_take->AtN,map_cons->Atu,map_map->AuQ,map_nil->AtO,map_take->Avt,mem_cons->Atd,mem_cons_of_mem->Atj,mem_cons_self->Atq,mem_map->AtH,mem_of_getElem?->Atx,mem_singleton->AtX,nil_append->Atw,pairwise_cons->AtV,replicate->Auu,singleton_append->AtU,tail_drop->Au5,take->ε,take_of_length_le->Auv,take_succ_eq_append_getElem->Auf
open Nat renaming add_zero->At3,ble->Atl,ble_eq_true_of_le->At0,le_add_right->Avj,le_refl->η,lt_succ_self->AtT,min_eq_left->AuL,mod_lt->AuP,pow_le_pow_right->Aus,pow_succ->Auy,zero_add->Ato,zero_le->AtI
open Option renaming none->Θ,some->Δ
namespace Go.Proofs.YtpncilciembjdaaGreatDoor
open ABlk renaming mk->Ψ
open Go.RowKit
inductive Fm where
 |mk (kind:Int) (t:Tm) (eq:Bool) (kids:List Fm)
mutual
def eF:Fm->Aa
 |.mk k t e ks=>[iv k,.ls (t.ps.map eP),bv t.k.neg,eN t.k.abs,bv e,.ls (TS ks)]
def TS:List Fm->Rw
 |[]=>[]
 |x::r=>eF x::TS r
end
theorem BI:∀ l,TS l=l.map eF
 |[]=>rfl
 |x::r=>by simp[TS,BI r]
def Fm.kind:Fm->Int
 |.mk k _ _ _=>k
def Fm.tm:Fm->Tm
 |.mk _ t _ _=>t
def Fm.eq:Fm->Bool
 |.mk _ _ e _=>e
def Fm.kids:Fm->List Fm
 |.mk _ _ _ ks=>ks
def Zd:Tm:=⟨[],⟨Ξ,[]⟩⟩
def kF(k:Int)(ks:List Fm):Fm:=.mk k Zd Ξ ks
def C9(b:Bool):Fm:=kF (if b then 0 else 1) []
def B8(l:Lf)(e:Bool):Fm:=.mk 2 l.tm e []
def Bq:Fm->List Fm
 |.mk k _ _ ks=>if k=4\/k=5 then ks else if k=3 then ks.take 1 else []
mutual
def As:Fm->Fm
 |.mk k t e ks=>if k=0 then C9 U else if k=2 then B8 t.lf.pln e else if k=3 then kF 3 (Jv ks) else if k=4\/k=5 then kF k (Gi ks) else C9 Ξ
def Jv:List Fm->List Fm
 |[]=>[]
 |x::_=>[As x]
def Gi:List Fm->List Fm
 |[]=>[]
 |x::r=>As x::Gi r
end
theorem Cm:∀ l,Gi l=l.map As
 |[]=>rfl
 |x::r=>by simp[Gi,Cm r]
theorem CL:∀ l,Jv l=(l.take 1).map As
 |[]=>rfl
 |x::r=>by simp[Jv]
mutual
inductive CanF:Fm->Prop
 |tru (b:Bool):CanF (C9 b)
 |atom (l:Lf) (e:Bool) (h:l.pln=l):CanF (B8 l e)
 |no (x:Fm) (h:CanF x):CanF (kF 3 [x])
 |and (l:List Fm) (h:CanFs l):CanF (kF 4 l)
 |or (l:List Fm) (h:CanFs l):CanF (kF 5 l)
 |no0:CanF (kF 3 [])
inductive CanFs:List Fm->Prop
 |nil:CanFs []
 |cons {x:Fm} {r:List Fm} (h:CanF x) (hr:CanFs r):CanFs (x::r)
end
mutual
theorem CanF.clone:∀{x:Fm},CanF x->As x=x
 |_,.tru b=>by cases b<;>rfl
 |_,.atom l e h=>by
  unfold B8;rw[As,Ad (by decide),Ac rfl,Ey,h];rfl
 |_,.no x h=>by
  unfold kF;rw[As,Ad (by decide),Ad (by decide),Ac rfl,Jv,h.clone];rfl
 |_,.and l h=>by
  unfold kF;rw[As,Ad (by decide),Ad (by decide),Ad (by decide),Ac (.inl rfl),h.clone];rfl
 |_,.or l h=>by
  unfold kF;rw[As,Ad (by decide),Ad (by decide),Ad (by decide),Ac (.inr rfl),h.clone];rfl
 |_,.no0=>rfl
theorem CanFs.clone:∀{l:List Fm},CanFs l->Gi l=l
 |_,.nil=>rfl
 |_,.cons h hr=>by rw[Gi,h.clone,hr.clone]
end
mutual
theorem D3:∀ x:Fm,CanF (As x)
 |.mk k t e ks=>by
  rw[As];split
  .exact .tru _
  split
  .exact .atom _ _ (AhP _)
  split
  .exact Ub ks
  split
  .rename_i h
   rcases h with h|h
   .rw[h];exact .and _ (IQ ks)
   .rw[h];exact .or _ (IQ ks)
  .exact .tru _
theorem Ub:∀ l:List Fm,CanF (kF 3 (Jv l))
 |[]=>.no0
 |x::_=>.no _ (D3 x)
theorem IQ:∀ l:List Fm,CanFs (Gi l)
 |[]=>.nil
 |x::r=>.cons (D3 x) (IQ r)
end
def Hg(v:Int):Bool->List Int->List Int × Bool
 |d,[]=>([],d)
 |d,x::r=>((if !d&&decide (v<=x) then [v] else [])++((if x=v then [] else [x])++(Hg v (d||decide (v<=x)) r).1),(Hg v (d||decide (v<=x)) r).2)
def I5(v:Int)(l:List Int):List Int:=(Hg v Ξ l).1++(if(Hg v Ξ l).2 then [] else [v])
theorem KV(v:Int):∀ l:List Int,(∀ x∈l,v<x)->Hg v U l=(l,U)
 |[],_=>rfl
 |x::r,h=>by
  have h1:=h x Atq;rw[Hg,Bool.true_or,KV v r λy hy=>h y (Atj _ hy),Ad (show ¬ x=v by omega)];rfl
theorem SF(v:Int):I5 v []=[v]:=rfl
theorem QB{v x:Int}{r:List Int}(h:v<x)(hr:∀ y∈r,x<y):I5 v (x::r)=v::x::r:=by
 unfold I5;rw[Hg,B3 (by omega:v<=x),Avs,KV v r λy hy=>by have:=hr y hy;omega,Ad (show ¬ x=v by omega)];simp
theorem Qz{v:Int}{r:List Int}(hr:∀ y∈r,v<y):I5 v (v::r)=v::r:=by
 unfold I5;rw[Hg,B3 (Int.le_refl v),Avs,KV v r hr,Ac rfl];simp
theorem QA{v x:Int}{r:List Int}(h:x<v):I5 v (x::r)=x::I5 v r:=by
 grind [Hg,I5]
def Zc(l:List Int):Prop:=l.Pairwise (· < ·)
theorem NM(v:Int):∀{l:List Int},Zc l->∀ y,y∈I5 v l ↔ y=v\/y∈l
 |[],_,y=>by rw[SF];simp
 |x::r,h,y=>by
  have h1:=AtV.1 h;have ih:=NM v h1.2 y;rcases Avv v x with hv|hv|hv
  .grind [QB]
  .grind [Qz]
  .simp_all [Atd,QA,or_left_comm]
theorem Hi(v:Int):∀{l:List Int},Zc l->Zc (I5 v l)
 |[],_=>by rw[SF];exact List.pairwise_singleton _ _
 |x::r,h=>by
  have h1:=AtV.1 h;rcases Avv v x with hv|hv|hv
  .rw[QB hv h1.1]
   refine AtV.2 ⟨λy hy=>?_,h⟩;rcases Atd.1 hy with rfl|hy
   .exact hv
   .have:=h1.1 y hy;omega
  .grind [Qz]
  .rw[QA hv]
   refine AtV.2 ⟨λy hy=>?_,Hi v h1.2⟩;rcases (NM v h1.2 y).1 hy with rfl|hy
   .exact hv
   .exact h1.1 y hy
theorem SC(v:Int):∀(d:Bool) (l:List Int),(Hg v d l).1.length<=2*l.length
 |_,[]=>η _
 |d,x::r=>by
  have:=SC v (d||decide (v<=x)) r;rw[Hg,γ,γ,Ate];have h1:(if(!d&&decide (v<=x))=U then [v] else []).length<=1:=by split<;>simp
  have h2:(if x=v then [] else [x]).length<=1:=by split<;>simp
  omega
theorem NL(v:Int):∀{l:List Int},Zc l->(I5 v l).length<=l.length+1
 |[],_=>η _
 |x::r,h=>by
  have h1:=AtV.1 h;have ih:=NL v h1.2;rcases Avv v x with hv|hv|hv
  .grind [QB]
  .grind [Qz]
  .grind [Ate,QA]
def Ga(f:Int->Int):List Int->List Int->List Int
 |out,[]=>out
 |out,v::r=>Ga f (if f v=0 then out else I5 v out) r
theorem P7(f:Int->Int):∀(l:List Int) {out:List Int},Zc out->Zc (Ga f out l)
 |[],_,h=>h
 |v::r,out,h=>by
  rw[Ga];refine P7 f r ?_;split
  .exact h
  .exact Hi v h
theorem Ly(f:Int->Int)(y:Int):∀(l:List Int) {out:List Int},Zc out->(y∈Ga f out l ↔ y∈out\/(y∈l/\f y≠0))
 |[],out,_=>by rw[Ga];simp
 |v::r,out,h=>by
  rw[Ga]
  by_cases hv:f v=0
  .rw[Ac hv,Ly f y r h,Atd]
   constructor
   .grind
   .grind
  .rw[Ad hv,Ly f y r (Hi v h),NM v h,Atd]
   constructor
   .grind
   .grind
theorem Lx(f:Int->Int):∀(l:List Int) {out:List Int},Zc out->(Ga f out l).length<=out.length+l.length
 |[],out,_=>by rw[Ga];simp
 |v::r,out,h=>by
  rw[Ga,Ate]
  by_cases hv:f v=0
  .rw[Ac hv]
   have:=Lx f r h;omega
  .rw[Ad hv]
   have:=Lx f r (Hi v h);have:=NL v h;omega
def BS(ps:List (Int × Int))(v:Int):Int:=if 0<=v then Bj v ps else 0
def CM(ps:List (Int × Int)):List Int:=Ga (BS ps) [] (ps.map (·.1))
theorem Mt:Zc []:=List.Pairwise.nil
theorem Pc(c:Int->Int)(v:Int):∀{l:List Int},Zc l->Bj v (l.map λu=>(u,c u))=if v∈l then c v else 0
 |[],_=>by simp[Bj]
 |x::r,h=>by
  have h1:=AtV.1 h;rw[Atu,Bj,Pc c v h1.2]
  by_cases hx:x=v
  .grind
  .grind
theorem Ec(ps:List (Int × Int)):(CM ps).map (λv=>(v,BS ps v))=Bu ps:=by
 have ha:Zc (CM ps):=P7 _ _ Mt;have hm:∀ y,y∈CM ps ↔ y∈ps.map (·.1)/\BS ps y≠0:=λy=>by
  grind [BS,CM,Mt,Ly]
 refine JY ⟨?_,?_,?_⟩ λv hv=>?_
 .rw[List.pairwise_map]
  exact ha
 .intro p hp
  rw[AtH]at hp;obtain⟨v,hv,rfl⟩:=hp;have:=((hm v).1 hv).2;unfold BS at this
  by_cases h0:0<=v
  .exact h0
  .omega
 .grind
 .rw[Pc _ _ ha]
  have hc:BS ps v=Bj v ps:=Ac hv
  by_cases hv2:v∈CM ps
  .rw[Ac hv2,hc]
  .rw[Ad hv2]
   by_cases hz:Bj v ps=0
   .exact hz.symm
   .grind [List.mem_map_of_mem,EN]
theorem Y3(ps:List (Int × Int)):CM ps=(Bu ps).map (·.1):=by
 rw[←Ec,AuQ];exact(List.map_id _).symm
def Mq(s:Int->Lf)(acc:Lf)(ps:List (Int × Int)):Lf:=ps.foldl (λa p=>a.add ((s p.1).scale p.2)) acc
def K9(s:Int->Lf)(l:Lf):Lf:=Mq s (Lf.num l.k) (Bu l.ps)
theorem WF{s:Int->Lf}{j m:Nat}(hs:∀ v,LB 20 j (s v))(hm:m+j<=500):∀(ps:List (Int × Int)) (i:Nat) (acc:Lf),i+ps.length<=20->(∀ p∈ps,InB m p.2)->LB (20*i) (100+1000*i) acc->LB (20*(i+ps.length)) (100+1000*(i+ps.length)) (Mq s acc ps)
 |[],i,acc,_,_,h=>h
 |p::r,i,acc,hi,hp,h=>by
  rw[Ate]at hi;have h1:=(hs p.1).scale (hp p (Atq ..));have h2:=h.add h1;have:=WF hs hm r (i+1) (acc.add ((s p.1).scale p.2)) (by omega) (λq hq=>hp q (Atj _ hq)) (h2.mono (by omega) (by omega));rw[show i+1+r.length=i+(p::r).length by rw[Ate];omega]at this;exact this
theorem AhV{s:Int->Lf}{j m:Nat}(hs:∀ v,LB 20 j (s v))(hm:m+j<=100){l:Lf}(h:LB 20 m l):LB 400 20100 (K9 s l):=by
 have hp:=h.pln;have hl:=hp.len;have:=WF hs (m:=m+20) (by omega) (Bu l.ps) 0 (Lf.num l.k) (by rw[Ato];exact hl) (λp hq=>hp.ps p hq) ⟨AtI _,(λp hp=>nomatch hp),h.k.mono (by omega)⟩;exact this.mono (by have:l.pln.ps.length<=20:=hl;show 20*(0+l.pln.ps.length)<=_;omega) (by have:l.pln.ps.length<=20:=hl;show 100+1000*(0+l.pln.ps.length)<=_;omega)
mutual
def Iu(s:Int->Lf):Fm->Fm
 |.mk k t e ks=>.mk k (if k=2 then(K9 s t.lf).tm else t) e (N9 s ks)
def N9(s:Int->Lf):List Fm->List Fm
 |[]=>[]
 |x::r=>Iu s x::N9 s r
end
theorem PN(s:Int->Lf):∀ l,N9 s l=l.map (Iu s)
 |[]=>rfl
 |x::r=>by rw[N9,PN s r];rfl

theorem Cc(k:Int)(t:Tm)(e:Bool)(ks:List Fm):Bq (.mk k t e ks)=if k=4\/k=5 then ks else if k=3 then ks.take 1 else []:=rfl
theorem CY{k:Int}{t:Tm}{e:Bool}{ks:List Fm}{x:Fm}(hx:x∈Bq (.mk k t e ks)):x∈ks:=by
 rw[Cc]at hx;split at hx
 .exact hx
 .split at hx
  .exact List.mem_of_mem_take hx
  .cases hx
theorem BJ(x:Fm):(eF x).length=6:=by
 obtain⟨k,t,e,ks⟩:=x;rw[eF];rfl
inductive FB (n k:Nat):Fm->Prop
 |mk {kind:Int} {t:Tm} {e:Bool} {ks:List Fm} (ht:TmB n k t) (hl:ks.length<=1000000) (h:∀ x∈ks,FB n k x):FB n k (.mk kind t e ks)
inductive FC (n k:Nat):Fm->Prop
 |mk {kind:Int} {t:Tm} {e:Bool} {ks:List Fm} (ht:kind=2->TmB n k t) (hl:(Bq (.mk kind t e ks)).length<=1000000) (h:∀ x∈Bq (.mk kind t e ks),FC n k x):FC n k (.mk kind t e ks)
theorem LB.sub{n m k:Nat}{a b:Lf}(ha:LB n k a)(hb:LB m k b):LB (n+m) (2*k+2+2*(n+m)) (a.sub b):=by
 have h1:LB m (k+1+m) (b.scale (-1)):=hb.scale (by unfold InB;decide);exact(ha.add h1).mono (η _) (by omega)
theorem BW{k:Int}{t:Tm}{e:Bool}{ks:List Fm}{x:Fm}(h:x∈ks):SizeOf.sizeOf x<SizeOf.sizeOf (Fm.mk k t e ks):=by
 have:=List.sizeOf_lt_of_mem h;simp only[Fm.mk.sizeOf_spec];omega
section
variable {D:Orc} {M:Nat} (Kt:Knows Aq OA D) (Kf:Knows Aq Tz D) (Ks:SrtF D M) (Z:ZF D) (C:PartF D) (Ko:Knows Aq AcF D)
include Ko
theorem Ku(b:Bool):D.ask (.fn 95) [bv b] []=Δ (.agg (eF (C9 b)),[]):=by
 refine Az Ko AoH (e95 ..) ?_
 cases b<;>rfl
include Kt Ks Z C in
theorem KF{n k:Nat}{t:Tm}(h:TmB n k t)(hn:n<=M)(hk:k+n<=900000000)(e:Bool):D.ask (.fn 98) [.agg [.ls (t.ps.map eP),bv t.k.neg,eN t.k.abs,bv e]] []=Δ (.agg (eF (B8 t.lf.pln e)),[]):=by
 have g:=Hs Kt Ks Z C h hn hk;obtain⟨ps,kz⟩:=t;have g2:D.ask (.fn 170) [.agg [.ls (ps.map eP),bv kz.neg,eN kz.abs,bv e]] []=Δ (.agg (eT (Tm.lf ⟨ps,kz⟩).pln.tm++[bv e]),[]):=by
  refine Az Ko AjH (AqI ..) ?_;refine Ab g ?_;rfl
 refine Az Ko AoI (e98 ..) ?_;refine Ab g2 ?_;rfl
theorem JH(x:Fm):D.ask (.fn 166) [.agg (eF x)] []=Δ (.ls ((Bq x).map eF),[]):=by
 obtain⟨k,t,e,ks⟩:=x;refine Az Ko AjG (AqH ..) ?_;rw[BI];rw[Cc]
 by_cases h4:k=4
 .rw[Ac (.inl h4)]
  exact CO h4
 refine AO ?_ h4
 by_cases h5:k=5
 .rw[Ac (.inr h5)]
  exact CO h5
 refine AO ?_ h5;rw[Ad (by omega)]
 by_cases h3:k=3
 .rw[Ac h3]
  refine Ba ?_ h3;rw[Ao,Aky,show min (ks.length:Int) 1=((min ks.length 1:Nat):Int) by omega,AC];rw[show I4 0 (min ks.length 1) ks.length=U by unfold I4;rw[At0 (AtI _),At0 (Nat.min_le_left ..)]];refine Af ?_;rw[EJ BJ];refine Af ?_;rw[F5,FH,ι,←Avt];have:ks.take (min ks.length 1)=ks.take 1:=by
   rw[List.take_eq_take_iff];omega
  rw[this]
 .rw[Ad h3]
  exact AO rfl h3
theorem Xl(ks:List Fm)(hl:ks.length<=1000000)(g:∀ x∈ks,D.ask (.fn 107) [.agg (eF x)] []=Δ (.agg (eF (As x)),[])):∀(m i:Nat) (out:List Fm),ks.length-i=m->i<=ks.length->out.length<=i->
  D.ask (.lp 165 0) [.sl 0 0 out.length 6,.ls (ks.map eF),iv (ks.length:Int),iv (i:Int)] [Ψ (Aj eF out) U U]=Δ (.tup [iv 0,.sl 1 0 (out++(ks.drop i).map As).length 6],[.del,.set (Ψ (Aj eF (out++(ks.drop i).map As)) U U)]):=by
 intro m
 induction m with
 |zero=>
  intro i out hm hi ho;rw[Atc (by omega),AtO,AtY];refine Ax Ko Sq (ZX ..) ?_;exact At rfl
 |succ m ih=>
  intro i out hm hi ho;have h1:i<ks.length:=by omega
  have gx:=g ks[i] (Ats h1);rw[χ h1,Atu];have ih:=ih (i+1) (out++[As ks[i]]) (by omega) (by omega) (by simp;omega);rw[Atp,AtU,show (out++[As ks[i]]).length=out.length+1 by simp]at ih;have hf:Bo (out.length+1) 96=U:=AZ (by omega) (by omega);have hb1:Atl (0+out.length*6) (Aj eF out).length=U:=AQ BJ out (by omega);have e3:Atg 0 (ε (0+out.length*6) (Aj eF out))++eF (As ks[i])=Aj eF (out++[As ks[i]]):=by
   rw[ι,Br BJ out (by omega)];exact Bl eF out _
  refine Ax Ko Sq (ZX ..) ?_;refine Au ?_;rw[AC,AD (δ h1)];revert gx ih e3;generalize As ks[i]=y;generalize ks[i]=x;obtain⟨xk,xt,xe,xs⟩:=x;obtain⟨yk,yt,ye,ys⟩:=y;intro gx ih e3;simp only[eF,eN,Ai]at gx e3 ⊢;refine Ab gx ?_;simp only[Ai];rw[hf];refine Af ?_;rw[hb1];refine Af ?_;rw[e3,BE (by omega)];refine Ab ih ?_;rfl
theorem KJ{ks:List Fm}(hl:ks.length<=1000000)(g:∀ x∈ks,D.ask (.fn 107) [.agg (eF x)] []=Δ (.agg (eF (As x)),[])):D.ask (.fn 165) [.ls (ks.map eF)] []=Δ (.ls ((ks.map As).map eF),[]):=by
 have gl:=Xl Ko ks hl g _ 0 [] rfl (by omega) (by simp);rw[ι,Atw]at gl;refine Az Ko Sq (AqG ..) ?_;rw[Ao];refine Ab gl ?_;simp only[Ai];rw[show Atl (0+(ks.map As).length*6) (Aj eF (ks.map As)).length=U from AQ BJ _ (by omega)];refine Af ?_;rw[BF BJ _ rfl]
include Kt Ks Z C in
theorem Xi{n k:Nat}(hn:n<=M)(hk:k+n<=900000000):∀(N:Nat) (x:Fm),SizeOf.sizeOf x<N->FC n k x->D.ask (.fn 107) [.agg (eF x)] []=Δ (.agg (eF (As x)),[]):=by
 intro N
 induction N with
 |zero=>intro x h;omega
 |succ N ih=>
  intro x hN hx;obtain⟨ht,hl,h⟩:=hx;rename_i kd t e ks;refine Az Ko Ajl (Aqf ..) ?_;rw[As]
  by_cases h0:kd=0
  .rw[Ac h0]
   refine Ba ?_ h0;refine Ab (Ku Ko U) ?_;rfl
  rw[Ad h0];refine AO ?_ h0
  by_cases h2:kd=2
  .rw[Ac h2]
   refine Ba ?_ h2;refine Ab (KF Kt Ks Z C Ko (ht h2) hn hk e) ?_;rfl
  rw[Ad h2];refine AO ?_ h2
  by_cases h3:kd=3
  .rw[Ac h3,CL]
   refine Ba ?_ h3;have hk:=JH Ko (.mk kd t e ks);have gc:=KJ Ko hl λx hx=>ih x (by have:=BW (k:=kd) (t:=t) (e:=e) (CY hx);omega) (h x hx)
   simp only[eF,eN,Ai]at hk ⊢;refine Ab hk ?_;simp only[Ai];refine Ab gc ?_;rw[Cc];rw[Ad (by omega),Ac h3,h3];unfold kF;rw[eF,BI];rfl
  rw[Ad h3];refine AO ?_ h3
  by_cases h4:kd=4
  .rw[Ac (.inl h4),Cm]
   refine Ba ?_ h4;have hk:=JH Ko (.mk kd t e ks);have gc:=KJ Ko hl λx hx=>ih x (by have:=BW (k:=kd) (t:=t) (e:=e) (CY hx);omega) (h x hx)
   simp only[eF,eN,Ai]at hk ⊢;refine Ab hk ?_;simp only[Ai];refine Ab gc ?_;rw[Cc];rw[Ac (.inl h4)];unfold kF;rw[eF,BI];rfl
  refine AO ?_ h4
  by_cases h5:kd=5
  .rw[Ac (.inr h5),Cm]
   refine Ba ?_ h5;have hk:=JH Ko (.mk kd t e ks);have gc:=KJ Ko hl λx hx=>ih x (by have:=BW (k:=kd) (t:=t) (e:=e) (CY hx);omega) (h x hx)
   simp only[eF,eN,Ai]at hk ⊢;refine Ab hk ?_;simp only[Ai];refine Ab gc ?_;rw[Cc];rw[Ac (.inr h5)];unfold kF;rw[eF,BI];rfl
  rw[Ad (by omega)];refine AO ?_ h5;refine Ab (Ku Ko Ξ) ?_;rfl
include Kt Kf Ks Z C
end
theorem QR(x:Nat)(h:x<18446744073709551616):Ah.quo .u64 (x:Int) 4294967296=((x / 4294967296:Nat):Int):=by
 show IntKind.u64.wrap ((x:Int).tdiv 4294967296)=_
 have:(x:Int).tdiv 4294967296=((x / 4294967296:Nat):Int):=rfl;rw[this,IntKind.wrap_u64];omega
theorem QS(x:Nat):Ah.rem .u64 (x:Int) 4294967296=((x % 4294967296:Nat):Int):=by
 show (x:Int).tmod 4294967296=_
 rfl
theorem YP(l:Ae)(n:Nat):(Aj eL l).take n=Aj eL (l.take n):=by rw[GB,GB,Avt]
theorem T9(l:Ae)(n:Nat)(h:n<=l.length):Bk n 1 ((Aj eL l).take (n*1))=(l.take n).map eL:=by
 rw[Nat.mul_one,YP];have:=CX Bp (l.take n)
 rwa [AtN,AuL h]at this
theorem KQ(l:Ae)(i:Nat):(l.drop i).headD 0=l.getD i 0:=by
 rw[AuT]
 by_cases h:i<l.length
 .rw[χ h,δ h];rfl
 .rw[Atc (by omega),Aum (by omega)];rfl
theorem MA{l:Ae}(h:Limbs l)(i:Nat):l.getD i 0<4294967296:=by
 rw[←KQ];exact ES (h.drop i)
def D1(n:Nat)(l:Ae):Ae:=l++Auu (n-l.length) 0
theorem AiC(n:Nat):Ak (Auu n 0)=0:=by
 induction n with
 |zero=>rfl
 |succ n ih=>rw[List.replicate_succ,Ak,ih]
theorem F9(n:Nat)(l:Ae):Ak (D1 n l)=Ak l:=by
 unfold D1;rw[F8,AiC];omega
theorem DT{n:Nat}{l:Ae}(h:l.length<=n):(D1 n l).length=n:=by
 unfold D1;rw[γ,List.length_replicate];omega
theorem Eb{n:Nat}{l:Ae}(h:Limbs l):Limbs (D1 n l):=Px h λx hx=>by
 rw[(List.mem_replicate.1 hx).2];omega
theorem JV{n i:Nat}{l:Ae}(h:l.length<=n)(hi:i<n):(D1 n l)[i]'(by rw[DT h];exact hi)=l.getD i 0:=by
 rw[AuT];unfold D1
 by_cases h2:i<l.length
 .rw[List.getElem_append_left h2,δ h2];rfl
 .rw[AuV (by omega),List.getElem_replicate,Aum (by omega)];rfl
section
variable {D:Orc} (K:Knows Aq PW D)
include K
theorem Acb(l:Ae)(hl:CK l):∀(k i:Nat) (out:Ae),l.length-i=k->out.length+k<=2000000000->D.ask (.lp 149 0) [eN l,.sl 0 0 out.length 1,iv (i:Int)] [Ψ (Aj eL out) U U]
  = Δ (.tup [iv 0,.sl 1 0 (out++l.drop i).length 1],[.del,.set (Ψ (Aj eL (out++l.drop i)) U U)]):=by
 intro k;unfold CK at hl
 induction k with
 |zero=>
  intro i out hi ho;refine Ax K LM (ZV ..) ?_;rw[Ao,show l.drop i=[] from Atc (by omega),AtY];refine At ?_;rfl
 |succ k ih=>
  intro i out hi ho;have hlt:i<l.length:=by omega
  have ih':=ih (i+1) (out++[l[i]]) (by omega) (by simp;omega);rw[Atp,γ,AtP]at ih';refine Ax K LM (ZV ..) ?_;rw[Ao,χ hlt];refine Au ?_;rw[AC,AD (δ hlt)];have hf:Bo (out.length+1) 4=U:=AZ (by omega) (by omega);have hb1:Atl (0+out.length*1) (Aj eL out).length=U:=AQ Bp out (by omega);have e3:∀ s:Nat,Atg 0 (ε (0+out.length*1) (Aj eL out))++[.v (.int .u32 (s:Int))]=Aj eL (out++[s]):=λs=>by
   rw[ι,Br Bp out (by omega)];exact Bl eL out s
  simp only[eL,OP,Ai];rw[BE (by omega),hf,hb1,e3];refine Af ?_;refine Af ?_;refine Ab ih' ?_;rfl
theorem Acd(l:Ae)(hl:CK l):∀(n:Nat),n<=l.length->C5 l<=n->D.ask (.lp 149 1) [.sl 0 0 n 1] [Ψ (Aj eL l) U U]=Δ (.tup [iv 2,.sl 1 0 (C5 l) 1],[.del,.set (Ψ (Aj eL l) U U)]):=by
 intro n;unfold CK at hl
 induction n with
 |zero=>
  intro _ ht;refine Ax K LM (ZW ..) ?_;refine At ?_;rw[show C5 l=0 by omega]
 |succ n ih=>
  intro hn ht;refine Ax K LM (ZW ..) ?_;refine Au ?_;rw[show Ah.sub .i64 ((n+1:Nat):Int) 1=(n:Int) from (ApJ (i:=n+1) (j:=1) (by omega) (by omega)).trans (by simp)];rw[AC,FF (AtT n)];refine Af ?_;refine(AbS l n (by omega) _).trans ?_;simp only[OP,Ai]
  by_cases h0:l[n]=0
  .refine Ba ?_ (by rw[h0];rfl)
   rw[AC,show I4 0 n (n+1)=U by unfold I4;rw[show Atl 0 n=U by simp];simp];refine Af ?_;refine Ab (ih (by omega) (PY ht (by rw[δ (show n<l.length by omega),h0]))) ?_;rfl
  .refine AO ?_
   have:=Ru (δ (show n<l.length by omega)) h0;rw[show C5 l=n+1 by omega]
theorem FS{l:Ae}(hl:CK l)(h:Limbs l):D.ask (.fn 149) [eN l] []=Δ (eN (Bf (Ak l)),[]):=by
 have hs:=hl;unfold CK at hs;refine Az K LM (Aqz ..) ?_;have g:=Acb K l hl l.length 0 [] rfl (by simp;omega);rw[Atw,ι]at g;refine Ab g ?_;simp only[Ai];refine Ab (Acd K l hl l.length (η _) (DZ l)) ?_;simp only[Ai];have ht:=DZ l;rw[show Atl (0+C5 l*1) (Aj eL l).length=U by rw[AR Bp];simp;omega];refine Af ?_;rw[T9 l _ ht,Kl h];rfl
theorem FO(a b:Ae):D.ask (.fn 186) [eN a,eN b] []=Δ (iv ((max a.length b.length:Nat):Int),[]):=by
 refine Az K AjL (AqO ..) ?_;rw[Ao,Ao]
 by_cases h:b.length<a.length
 .refine Au ?_
  rw[show max a.length b.length=a.length by omega]
 .refine At ?_
  rw[show max a.length b.length=b.length by omega]
theorem Gy{a:Ae}(ha:Limbs a)(i:Nat):D.ask (.fn 187) [eN a,iv (i:Int)] []=Δ (.v (.int .u64 (a.getD i 0:Int)),[]):=by
 refine Az K AjM (AqP ..) ?_;rw[Ao,AuT];refine At ?_
 by_cases h:i<a.length
 .refine CQ ?_
  have hx:=ha.get h;rw[AC,AD (δ h),δ h];simp only[eL,OP,Ai];rw[CD (by omega)];rfl
 .refine Cz ?_
  rw[Aum (by omega)];rfl
theorem AhZ{a b:Ae}(ha:Limbs a)(hb:Limbs b)(m:Nat)(hma:a.length<=m)(hmb:b.length<=m)(hm:m<=1000000000):∀(n:Nat),n<=m->D.ask (.lp 228 0) [eN a,eN b,iv ((n:Int)-1)] []
  = Δ (if DA (Ak ((D1 m a).take n)) (Ak ((D1 m b).take n))=0 then .tup [iv 0] else .tup [bv U,iv (DA (Ak ((D1 m a).take n)) (Ak ((D1 m b).take n)))],[]):=by
 intro n
 induction n with
 |zero=>
  intro _;refine Ax K Sx (Aaa ..) ?_;refine CQ ?_;rfl
 |succ n ih=>
  intro hn;refine Ax K Sx (Aaa ..) ?_;rw[show (((n+1:Nat):Int)-1)=(n:Int) by omega];refine Cz ?_;have h1:n<(D1 m a).length:=by rw[DT hma];omega
  have h2:n<(D1 m b).length:=by rw[DT hmb];omega
  have e1:(D1 m a).take (n+1)=(D1 m a).take n++[a.getD n 0]:=by rw[Auf h1,JV hma (by omega)]
  have e2:(D1 m b).take (n+1)=(D1 m b).take n++[b.getD n 0]:=by rw[Auf h2,JV hmb (by omega)]
  rw[e1,e2,RR ((Eb ha).take n) ((Eb hb).take n) (by simp;omega)];refine Ab (Gy K ha n) ?_;simp only[RB,Ai];refine Ab (Gy K hb n) ?_;simp only[RB,Ai]
  by_cases h3:a.getD n 0<b.getD n 0
  .refine Au ?_
   rw[Ac h3];rfl
  .refine At ?_
   rw[Ad h3];refine Ab (Gy K ha n) ?_;simp only[RB,Ai];refine Ab (Gy K hb n) ?_;simp only[RB,Ai]
   by_cases h4:b.getD n 0<a.getD n 0
   .refine Au ?_
    rw[Ac h4];rfl
   .refine At ?_
    rw[Ad h4];rw[show Ah.sub .i64 (n:Int) 1=(n:Int)-1 from DL (by omega) (by omega)];refine Ab (ih (by omega)) ?_
    by_cases h5:DA (Ak ((D1 m a).take n)) (Ak ((D1 m b).take n))=0
    .rw[Ac h5];rfl
    .rw[Ad h5];rfl
theorem Ah0{a b:Ae}(hsa:CK a)(ha:Limbs a)(hsb:CK b)(hb:Limbs b):D.ask (.fn 228) [eN a,eN b] []=Δ (iv (DA (Ak a) (Ak b)),[]):=by
 unfold CK at hsa hsb;refine Az K Sx (Aq2 ..) ?_;refine Ab (FO K a b) ?_;simp only[Ai];rw[show Ah.sub .i64 ((max a.length b.length:Nat):Int) 1=((max a.length b.length:Nat):Int)-1 from DL (by omega) (by omega)];have g:=AhZ K ha hb (max a.length b.length) (by omega) (by omega) (by omega) (max a.length b.length) (η _);rw[Auv (by rw[DT (by omega)];omega),Auv (by rw[DT (by omega)];omega),F9,F9]at g;refine Ab g ?_
 by_cases h5:DA (Ak a) (Ak b)=0
 .rw[Ac h5,h5];rfl
 .rw[Ad h5];rfl
theorem AhY{a b:Ae}(ha:Limbs a)(hb:Limbs b)(hm:max a.length b.length<=1000000000):∀(k i:Nat) (out:Ae) (c:Nat),max a.length b.length+1-i=k->c<=1->out.length+k<=2000000000->
  D.ask (.lp 129 0) [eN a,eN b,.sl 0 0 out.length 1,.v (.int .u64 (c:Int)),iv (i:Int)] [Ψ (Aj eL out) U U]
   = Δ (.tup [iv 0,.sl 1 0 (out++Mj k c (a.drop i) (b.drop i)).length 1],[.del,.set (Ψ (Aj eL (out++Mj k c (a.drop i) (b.drop i))) U U)]):=by
 intro k
 induction k with
 |zero=>
  intro i out c hi hc ho;refine Ax K Sm (ZS ..) ?_;refine Ab (FO K a b) ?_;simp only[Ai];refine CQ ?_;rw[Mj,AtY]
 |succ k ih=>
  intro i out c hi hc ho;have h1:=MA ha i;have h2:=MA hb i;have ih':=ih (i+1) (out++[(a.getD i 0+b.getD i 0+c) % 4294967296]) ((a.getD i 0+b.getD i 0+c) / 4294967296) (by omega) (by omega) (by simp;omega);rw[Atp,γ,AtP]at ih';refine Ax K Sm (ZS ..) ?_;refine Ab (FO K a b) ?_;simp only[Ai];refine Cz ?_;refine Ab (Gy K ha i) ?_;simp only[RB,Ai];refine Ab (Gy K hb i) ?_;simp only[RB,Ai];refine AO ?_ (by decide);have hf:Bo (out.length+1) 4=U:=AZ (by omega) (by omega);have hb1:Atl (0+out.length*1) (Aj eL out).length=U:=AQ Bp out (by omega);have e3:∀ s:Nat,Atg 0 (ε (0+out.length*1) (Aj eL out))++[.v (.int .u32 (s:Int))]=Aj eL (out++[s]):=λs=>by
   rw[ι,Br Bp out (by omega)];exact Bl eL out s
  rw[Dk (by omega),Dk (by omega),QS,QR _ (by omega),B7 (AuP _ (by omega)),BE (by omega),hf,hb1,e3];refine Af ?_;refine Af ?_;refine AO ?_ (by decide);refine Ab ih' ?_;rw[Mj,KQ,KQ,Au5,Au5];rfl
theorem MI{a b:Ae}(hsa:a.length<=999999999)(ha:Limbs a)(hsb:b.length<=999999999)(hb:Limbs b):D.ask (.fn 129) [eN a,eN b] []=Δ (eN (Bf (Ak a+Ak b)),[]):=by
 refine Az K Sm (Aqp ..) ?_;have g:=AhY K ha hb (by omega) (max a.length b.length+1) 0 [] 0 rfl (by omega) (by simp;omega);rw[Atw,ι,ι]at g;refine Ab g ?_;simp only[Ai];rw[AQ Bp _ (by omega)];refine Af ?_;rw[BF Bp _ rfl];have hlen:∀(k c:Nat) (a b:Ae),(Mj k c a b).length=k:=λk=>by
  induction k with
  |zero=>intro c a b;rfl
  |succ k ih=>intro c a b;rw[Mj,Ate,ih]
 have gt:=FS K (l:=Mj (max a.length b.length+1) 0 a b) (by unfold CK;rw[hlen];omega) (MT _ _ _ _);rw[P4]at gt;have h1:=CR ha;have h2:=CR hb;have p1:4294967296 ^ a.length<=4294967296 ^ (max a.length b.length):=Aus (by omega) (by omega);have p2:4294967296 ^ b.length<=4294967296 ^ (max a.length b.length):=Aus (by omega) (by omega);rw[Nat.mod_eq_of_lt (by rw[Auy];omega),Ato]at gt;refine Ab gt ?_;rfl
theorem Ah3{a b:Ae}(ha:Limbs a)(hb:Limbs b)(m:Nat)(hma:max a.length b.length=m)(hm:m<=1000000000):∀(k i:Nat) (out:Ae) (c:Nat),m-i=k->c<=1->out.length+k<=2000000000->
  D.ask (.lp 182 0) [eN a,eN b,.sl 0 0 out.length 1,.v (.int .u64 (c:Int)),iv (i:Int)] [Ψ (Aj eL out) U U]
   = Δ (.tup [iv 0,.sl 1 0 (out++GD c ((D1 m a).drop i) ((D1 m b).drop i)).length 1],[.del,.set (Ψ (Aj eL (out++GD c ((D1 m a).drop i) ((D1 m b).drop i))) U U)]):=by
 intro k;have la:=DT (n:=m) (l:=a) (by omega);have lb:=DT (n:=m) (l:=b) (by omega)
 induction k with
 |zero=>
  intro i out c hi hc ho;refine Ax K Sr (ZY ..) ?_;refine Ab (FO K a b) ?_;simp only[Ai];refine At ?_;rw[show (D1 m a).drop i=[] from Atc (by omega),GD,AtY]
 |succ k ih=>
  intro i out c hi hc ho;have h1:=MA ha i;have h2:=MA hb i;have ia:i<(D1 m a).length:=by omega
  have ib:i<(D1 m b).length:=by omega
  rw[χ ia,JV (by omega) (by omega),χ ib,JV (by omega) (by omega),GD,List.headD_cons,List.tail_cons];refine Ax K Sr (ZY ..) ?_;refine Ab (FO K a b) ?_;simp only[Ai];refine Au ?_;refine Ab (Gy K ha i) ?_;simp only[RB,Ai];refine Ab (Gy K hb i) ?_;simp only[RB,Ai];refine AO ?_ (by decide);have hf:Bo (out.length+1) 4=U:=AZ (by omega) (by omega);have hb1:Atl (0+out.length*1) (Aj eL out).length=U:=AQ Bp out (by omega);have e3:∀ s:Nat,Atg 0 (ε (0+out.length*1) (Aj eL out))++[.v (.int .u32 (s:Int))]=Aj eL (out++[s]):=λs=>by
   rw[ι,Br Bp out (by omega)];exact Bl eL out s
  rw[show (4294967296:Int)=((4294967296:Nat):Int) from rfl,Dk (by omega),Gz (by omega) (by omega),Gz (by omega) (by omega)];rw[show ((4294967296:Nat):Int)=(4294967296:Int) from rfl,QS,QR _ (by omega),B7 (AuP _ (by omega)),BE (by omega),show (1:Int)=((1:Nat):Int) from rfl,Gz (by omega) (by omega),hf,hb1,e3];refine Af ?_;refine Af ?_;refine AO ?_ (by decide)
  by_cases hlt:a.getD i 0<b.getD i 0+c
  .rw[Ac hlt,Ac hlt]
   have ih':=ih (i+1) (out++[a.getD i 0+4294967296-(b.getD i 0+c)]) 1 (by omega) (by omega) (by simp;omega);rw[Atp,γ,AtP]at ih';rw[show (a.getD i 0+4294967296-b.getD i 0-c) % 4294967296=a.getD i 0+4294967296-(b.getD i 0+c) by omega,show 1-(a.getD i 0+4294967296-b.getD i 0-c) / 4294967296=1 by omega];refine Ab ih' ?_;rfl
  .rw[Ad hlt,Ad hlt]
   have ih':=ih (i+1) (out++[a.getD i 0-(b.getD i 0+c)]) 0 (by omega) (by omega) (by simp;omega);rw[Atp,γ,AtP]at ih';rw[show (a.getD i 0+4294967296-b.getD i 0-c) % 4294967296=a.getD i 0-(b.getD i 0+c) by omega,show 1-(a.getD i 0+4294967296-b.getD i 0-c) / 4294967296=0 by omega];refine Ab ih' ?_;rfl
theorem WH{a b:Ae}(hsa:CK a)(ha:Limbs a)(hsb:CK b)(hb:Limbs b):D.ask (.fn 182) [eN a,eN b] []=Δ (Ng (Ak a) (Ak b),[]):=by
 have s1:=hsa;have s2:=hsb;unfold CK at s1 s2;refine Az K Sr (AqK ..) ?_;refine Ab (Ah0 K hsa ha hsb hb) ?_;simp only[Ai];unfold Ng
 by_cases h1:Ak a<Ak b
 .rw[show DA (Ak a) (Ak b)=-1 by unfold DA;rw[Ac h1]]
  refine Au ?_ (by decide);rw[Ad (by omega)];rfl
 .refine At ?_ (by unfold DA;rw[Ad h1];split<;>omega)
  rw[Ac (by omega)];have la:=DT (n:=max a.length b.length) (l:=a) (by omega);have lb:=DT (n:=max a.length b.length) (l:=b) (by omega);have g:=Ah3 K ha hb (max a.length b.length) rfl (by omega) (max a.length b.length) 0 [] 0 (by omega) (by omega) (by simp;omega);rw[Atw,ι,ι]at g;refine Ab g ?_;simp only[Ai];rw[AQ Bp _ (by omega)];refine Af ?_;rw[BF Bp _ rfl];have gt:=FS K (l:=GD 0 (D1 (max a.length b.length) a) (D1 (max a.length b.length) b)) (by unfold CK;rw[Kj];omega) (GF _ _ _ (Eb ha) (Eb hb) (by omega));rw[TI (Eb ha) (Eb hb) (by omega) (by rw[F9,F9];omega),F9,F9]at gt;refine Ab gt ?_;rfl
theorem Yk{a:Ae}(ha:Limbs a)(hs:CK a)(m:Nat)(hm:m<4294967296):∀(k i:Nat) (out:Ae) (c:Nat),a.length-i=k->i<=a.length->c<4294967296->out.length+k<=2000000000->
  ∃(o:Ae) (c':Nat),D.ask (.lp 229 0) [eN a,.v (.int .u64 (m:Int)),.sl 0 0 out.length 1,.v (.int .u64 (c:Int)),iv (i:Int)] [Ψ (Aj eL out) U U]
   = Δ (.tup [iv 0,.sl 1 0 o.length 1,.v (.int .u64 (c':Int))],[.del,.set (Ψ (Aj eL o) U U)])/\c'<4294967296/\o++[c']=out++FD m c (a.drop i):=by
 intro k;unfold CK at hs
 induction k with
 |zero=>
  intro i out c hi hle hc ho;refine⟨out,c,?_,hc,?_⟩
  .refine Ax K Sy (Aab ..) ?_
   rw[Ao];refine At ?_;rfl
  .rw[show a.drop i=[] from Atc (by omega)]
   rfl
 |succ k ih=>
  intro i out c hi hle hc ho;have hlt:i<a.length:=by omega
  have hx:=ha.get hlt;have hp:=QL hx hm;have hg:a.getD i 0=a[i]:=by rw[AuT,δ hlt];rfl
  obtain⟨o,c',h1,h2,h3⟩:=ih (i+1) (out++[(a[i]*m+c) % 4294967296]) ((a[i]*m+c) / 4294967296) (by omega) (by omega) (by omega) (by simp;omega);refine⟨o,c',?_,h2,?_⟩
  .refine Ax K Sy (Aab ..) ?_
   rw[Ao];refine Au ?_;refine Ab (Gy K ha i) ?_;simp only[RB,Ai,hg];refine AO ?_ (by decide);have hf:Bo (out.length+1) 4=U:=AZ (by omega) (by omega);have hb1:Atl (0+out.length*1) (Aj eL out).length=U:=AQ Bp out (by omega);have e3:∀ s:Nat,Atg 0 (ε (0+out.length*1) (Aj eL out))++[.v (.int .u32 (s:Int))]=Aj eL (out++[s]):=λs=>by
    rw[ι,Br Bp out (by omega)];exact Bl eL out s
   rw[γ,AtP]at h1;rw[WI (by omega),Dk (by omega),QS,QR _ (by omega),B7 (AuP _ (by omega)),BE (by omega),hf,hb1,e3];refine Af ?_;refine Af ?_;refine AO ?_ (by decide);refine Ab h1 ?_;rfl
  .rw[h3,χ hlt,FD,Atp]
   rfl
omit K in
theorem Ji:∀(m c:Nat) (a:Ae),(FD m c a).length=a.length+1
 |_,_,[]=>rfl
 |m,c,x::a=>by rw[FD,Ate,Ji,Ate]
theorem Yl{a:Ae}(ha:Limbs a)(hs:a.length<=999999999)(m:Nat)(hm:m<4294967296):D.ask (.fn 229) [eN a,.v (.int .u64 (m:Int))] []=Δ (eN (Bf (Ak a*m)),[]):=by
 obtain⟨o,c',g,hc,ho⟩:=Yk K ha (by unfold CK;omega) m hm a.length 0 [] 0 (by omega) (by omega) (by omega) (by simp;omega);rw[Atw,ι]at ho;have hol:o.length=a.length:=by
  have:=congrArg List.length ho;rw[γ,Ji]at this;simpa using this
 refine Az K Sy (Aq3 ..) ?_;refine Ab g ?_;simp only[OP,Ai];rw[B7 hc];have e3:Atg 0 (ε (0+o.length*1) (Aj eL o))++[.v (.int .u32 (c':Int))]=Aj eL (o++[c']):=by
  rw[ι,Br Bp o (by omega)];exact Bl eL o c'
 rw[AZ (n:=o.length+1) (b:=4) (by omega) (by omega),AQ Bp o (by omega),e3,AQ Bp (o++[c']) (by simp)];refine Af ?_;refine Af ?_;refine Af ?_;rw[ι,Br Bp (o++[c']) (by simp),show Bk (o.length+1) 1 (Aj eL (o++[c']))=(o++[c']).map eL from by have:=CX Bp (o++[c']);rwa [γ]at this];rw[ho];have gt:=FS K (l:=FD m 0 a) (by unfold CK;rw[Ji];omega) (Ka _ _ _ hm ha (by omega));rw[Mf,At3]at gt;refine Ab gt ?_;rfl
end
theorem EB{a b:Ae}(ha:Limbs a)(hb:Limbs b):(Bf (Ak a*Ak b)).length<=a.length+b.length:=by
 refine Co ?_;rw[Nat.pow_add];exact Nat.mul_lt_mul'' (CR ha) (CR hb)
theorem Abx(va x vd:Nat):0+4294967296*(va*vd)+va*x=va*(x+4294967296*vd):=by
 rw[Nat.mul_add,Nat.mul_left_comm va];omega
theorem Acr{d:Nat}(h:d<4294967296):Limbs [d]:=BM h CH
section
variable {D:Orc} (K:Knows Aq PW D)
include K
theorem Aic(A B:AV)(t:Int){xs ys:Rw}(hA:A=.ls xs)(hB:B=.ls ys){out:Ae}(hs:out.length<=999999999):∀(k i:Nat) (up:Ae),out.length-i=k->i<=out.length->up=0::out.take i->
  D.ask (.lp 183 1) [A,B,eN out,iv t,.sl 0 0 (i+1) 1,iv (i:Int)] [Ψ (Aj eL up) U U]=Δ (.tup [iv 2,A,B,iv t,.sl 1 0 (out.length+1) 1],[.del,.set (Ψ (Aj eL (0::out)) U U)]):=by
 subst hA hB;intro k
 induction k with
 |zero=>
  intro i up hk hi hu;obtain rfl:i=out.length:=by omega
  rw[List.take_length]at hu;subst hu;refine Ax K LN (Z0 ..) ?_;rw[Ao];exact At rfl
 |succ k ih=>
  intro i up hk hi hu;have hlt:i<out.length:=by omega
  have hl:up.length=i+1:=by rw[hu,Ate,AtN,AuL hi]
  have ih':=ih (i+1) (up++[out[i]]) (by omega) (by omega) (by rw[hu,Auf hlt];rfl);have e3:Atg 0 (ε (0+(i+1)*1) (Aj eL up))++[.v (.int .u32 (out[i]:Int))]=Aj eL (up++[out[i]]):=by
   rw[ι,Br Bp up (by omega)];exact Bl eL up out[i]
  refine Ax K LN (Z0 ..) ?_;rw[Ao];refine Au ?_;rw[AC,AD (δ hlt)];simp only[eL,OP,Ai];rw[BE (by omega),AZ (n:=i+1+1) (b:=4) (by omega) (by omega),AQ Bp up (by omega),e3];refine Af ?_;refine Af ?_;refine Ab ih' ?_;rfl
theorem Aid{a b:Ae}(ha:Limbs a)(hb:Limbs b)(hs:a.length+b.length<=900000000):∀ i:Nat,i<=b.length->D.ask (.lp 183 0) [eN a,eN b,eN (Bf (Ak a*Ak (b.drop i))),iv ((i:Int)-1)] []=Δ (.tup [iv 0,eN (Bf (Ak a*Ak b))],[]):=by
 intro i
 induction i with
 |zero=>
  intro _;refine Ax K LN (ZZ ..) ?_;refine CQ ?_;rw[ι];rfl
 |succ i ih=>
  intro hi;have hlt:i<b.length:=by omega
  have hx:=hb.get hlt;have ln:∀ j:Nat,(Bf (Ak a*Ak (b.drop j))).length<=a.length+b.length:=λj=>by
   have:=EB ha (hb.drop j);rw[List.length_drop]at this;omega
  have l1:=ln (i+1);rw[show (((i+1:Nat):Int)-1)=(i:Int) by omega];refine Ax K LN (ZZ ..) ?_;refine Cz ?_;have g:=Aic K (eN a) (eN b) (i:Int) rfl rfl (out:=Bf (Ak a*Ak (b.drop (i+1)))) (by omega) _ 0 [0] rfl (by omega) rfl;refine Ab g ?_;simp only[eN,OP,Ai];rw[AC,AD (δ hlt)];simp only[eL,OP,Ai];rw[CD (show b[i]<_ by omega)];refine Af ?_;refine Ab (Yl K ha (by omega) b[i] hx) ?_;simp only[eN,OP,Ai];rw[AQ Bp (0::Bf (Ak a*Ak (b.drop (i+1)))) (by simp)];refine Af ?_;rw[Br Bp (0::Bf (Ak a*Ak (b.drop (i+1)))) (by simp),show Bk ((Bf (Ak a*Ak (b.drop (i+1)))).length+1) 1 (Aj eL (0::Bf (Ak a*Ak (b.drop (i+1)))))=(0::Bf (Ak a*Ak (b.drop (i+1)))).map eL from CX Bp (0::Bf (Ak a*Ak (b.drop (i+1))))];have l3:(Bf (Ak a*b[i])).length<=a.length+1:=by
   have:=EB ha (Acr hx)
   rwa [show Ak [b[i]]=b[i] by simp[Ak]]at this
  have g2:=MI K (a:=0::Bf (Ak a*Ak (b.drop (i+1)))) (b:=Bf (Ak a*b[i])) (by rw[Ate];omega) (BM (by omega) (AK _)) (by omega) (AK _);rw[Ak,Bm,Bm,Abx,show b[i]+4294967296*Ak (b.drop (i+1))=Ak (b.drop i) by rw[χ hlt,Ak]]at g2;refine Ab g2 ?_;simp only[eN,OP,Ai];rw[DL (by omega) (by omega)];refine Ab (ih (by omega)) ?_;rfl
theorem Ah2{a b:Ae}(ha:Limbs a)(hb:Limbs b)(hs:a.length+b.length<=900000000):D.ask (.fn 183) [eN a,eN b] []=Δ (eN (Bf (Ak a*Ak b)),[]):=by
 have g:=Aid K ha hb hs b.length (η _);rw[List.drop_length,Ak,Nat.mul_zero,EV]at g;refine Az K LN (AqL ..) ?_;rw[Ao,DL (by omega) (by omega)];refine Ab g ?_;simp only[eN,Ai];have l1:=EB ha hb;have g2:=FS K (l:=Bf (Ak a*Ak b)) (by unfold CK;omega) (AK _);rw[Bm]at g2;refine Ab g2 ?_;rfl
theorem Ab8{a b:Ae}(hl:a.length=b.length)(hs:CK a):∀(k i:Nat),a.length-i=k->i<=a.length->D.ask (.lp 210 0) [eN a,eN b,iv (i:Int)] []=if a.drop i=b.drop i then Δ (.tup [iv 0],[]) else Δ (.tup [bv U,bv Ξ],[]):=by
 intro k;unfold CK at hs
 induction k with
 |zero=>
  intro i hk hi;rw[Atc (show a.length<=i by omega),Atc (show b.length<=i by omega),Ac rfl];refine Ax K NB (Qr ..) ?_;rw[Ao];exact At rfl
 |succ k ih=>
  intro i hk hi;have h1:i<a.length:=by omega
  have h2:i<b.length:=by omega
  have ih':=ih (i+1) (by omega) (by omega);rw[χ h1,χ h2]
  by_cases h:a[i]=b[i]
  .by_cases h3:a.drop (i+1)=b.drop (i+1)
   .rw[Ac h3]at ih'
    rw[Ac (by rw[h,h3])];refine Ax K NB (Qr ..) ?_;rw[Ao];refine Au ?_;rw[AC,AD (δ h1)];simp only[eL,OP,Ai];rw[AC,AD (δ h2)];simp only[eL,OP,Ai];rw[BE (by omega)];refine Ba ?_;refine Ab ih' ?_;rfl
   .rw[Ad h3]at ih'
    rw[Ad (λe=>h3 (List.cons.inj e).2)];refine Ax K NB (Qr ..) ?_;rw[Ao];refine Au ?_;rw[AC,AD (δ h1)];simp only[eL,OP,Ai];rw[AC,AD (δ h2)];simp only[eL,OP,Ai];rw[BE (by omega)];refine Ba ?_;refine Ab ih' ?_;rfl
  .rw[Ad (λe=>h (List.cons.inj e).1)]
   refine Ax K NB (Qr ..) ?_;rw[Ao];refine Au ?_;rw[AC,AD (δ h1)];simp only[eL,OP,Ai];rw[AC,AD (δ h2)];simp only[eL,OP,Ai];rw[BE (by omega)];exact AO rfl
theorem AbO{a b:Ae}(hs:CK a):D.ask (.fn 210) [eN a,eN b] []=Δ (bv (decide (a=b)),[]):=by
 refine Az K NB (AqZ ..) ?_;rw[Ao,Ao]
 by_cases hl:a.length=b.length
 .refine Ba ?_
  have g:=Ab8 K hl hs a.length 0 (by omega) (by omega);rw[ι,ι]at g
  by_cases h:a=b
  .rw[Ac h]at g
   rw[B3 h];refine Ab g ?_;rfl
  .rw[Ad h]at g
   rw[Cn h];refine Ab g ?_;rfl
 .refine AO ?_
  rw[Cn (λe=>hl (by rw[e]))]
end
theorem GJ{z:Zi}(h:zv z<0):zv z=-(Ak z.abs:Int):=by
 unfold zv DX at *
 cases e:z.neg<;>rw[e]at h<;>simp at h ⊢
 omega
theorem EG{z:Zi}(h:¬ zv z<0):zv z=(Ak z.abs:Int):=by
 unfold zv DX at *
 cases e:z.neg<;>rw[e]at h<;>simp at h ⊢
 omega
theorem Ll{n:Int}:C4 n<0 ↔ n<0:=by
 unfold C4;split
 .omega
 .split<;>omega
theorem Ad1{k:Nat}{x y:Int}(hx:InB k x)(hy:InB k y):InB (k+1) (x+y):=by
 unfold InB at *;rw[Auy];have:=Int.natAbs_add_le x y;omega
theorem PG{k:Nat}(hk:k<=900000000){a b:Zi}(ha:Lz k a)(hb:Lz k b):CK (Bf (Ak a.abs+Ak b.abs)):=by
 unfold CK;have h1:=ha.inb;have h2:=hb.inb;have f:∀ z:Zi,(zv z).natAbs=Ak z.abs:=λz=>by
  unfold zv DX;split
  .rw[Au4];rfl
  .rfl
 unfold InB at h1 h2;rw[f]at h1 h2;have:=Co (n:=Ak a.abs+Ak b.abs) (k:=k+1) (by rw[Auy];omega);omega
theorem Do(n:Int):C4 n=-1/\n<0\/C4 n=1/\0<n\/C4 n=0/\n=0:=by
 unfold C4;split
 .omega
 .split<;>omega
theorem Q3(x y:Int):Ah.mul .i64 (C4 x) (C4 y)=C4 x*C4 y:=by
 show IntKind.i64.wrap (C4 x*C4 y)=_
 rw[IntKind.wrap_i64];rcases Do x with h|h|h<;>rcases Do y with h2|h2|h2<;>rw[h.1,h2.1]<;>rfl
theorem UX{a b:Zi}(h:C4 (zv a)*C4 (zv b)<0):DX U (Ak a.abs*Ak b.abs)=zv a*zv b:=by
 unfold DX;rw[Ac rfl,Av6]
 by_cases ha:zv a<0
 .rw[GJ ha]
  by_cases hb:zv b<0
  .exfalso
   rcases Do (zv a) with h1|h1|h1<;>rcases Do (zv b) with h2|h2|h2<;>rw[h1.1,h2.1]at h<;>omega
  .rw[EG hb,Int.neg_mul]
 .rw[EG ha]
  by_cases hb:zv b<0
  .rw[GJ hb,Int.mul_neg]
  .exfalso
   rcases Do (zv a) with h1|h1|h1<;>rcases Do (zv b) with h2|h2|h2<;>rw[h1.1,h2.1]at h<;>omega
theorem UY{a b:Zi}(h:¬ C4 (zv a)*C4 (zv b)<0):DX Ξ (Ak a.abs*Ak b.abs)=zv a*zv b:=by
 unfold DX;rw[Ad (by simp),Av6];rcases Do (zv a) with h1|h1|h1
 .rcases Do (zv b) with h2|h2|h2
  .rw[GJ h1.2,GJ h2.2,Int.neg_mul_neg]
  .exfalso
   rw[h1.1,h2.1]at h;omega
  .have:=EG (z:=b) (by omega)
   rw[h2.2,Avy,←this,h2.2,Avy]
 .rcases Do (zv b) with h2|h2|h2
  .exfalso
   rw[h1.1,h2.1]at h;omega
  .rw[←EG (z:=a) (by omega),←EG (z:=b) (by omega)]
  .have:=EG (z:=b) (by omega)
   rw[h2.2,Avy,←this,h2.2,Avy]
 .have:=EG (z:=a) (by omega)
  rw[h1.2,Awg,←this,h1.2,Awg]
section
variable {D:Orc} (K:Knows Aq PW D) (R:Knows Aq WU D)
include K R
theorem DU(neg:Bool){a:Ae}(ha:Limbs a)(hs:CK a):D.ask (.fn 128) [bv neg,eN a] []=Δ (.agg (eZ (AY (DX neg (Ak a)))),[]):=by
 refine Az R Ajs (Aqo ..) ?_;refine Ab (FS K hs ha) ?_;simp only[eN,Ai,Ao];rw[W0];unfold eZ eN;have hp:=@EC (Ak a)
 by_cases h:0<Ak a
 .refine AO ?_ (by have:=hp.2 h;omega)
  rw[B3 h,Bool.and_true]
 .have h0:Ak a=0:=by omega
  rw[Cn h,Bool.and_false,h0,EV];exact Ba rfl rfl
theorem X7{z:Zi}(hz:Lz 1000000000 z):D.ask (.fn 75) [.agg (eZ z)] []=Δ (.agg (eZ (AY (zv z))),[]):=by
 refine Az R AoE (e75 ..) ?_;refine Ab (DU K R z.neg hz.lim hz.len) ?_;rfl
theorem Eo{z:Zi}(hz:Lz 1000000000 z):D.ask (.fn 69) [.agg (eZ z)] []=Δ (iv (C4 (zv z)),[]):=by
 refine Az R AoD (e69 ..) ?_;refine Ab (FS K hz.len hz.lim) ?_;simp only[eN,Ai,Ao];have hp:=@EC (Ak z.abs);unfold zv DX
 by_cases h:0<Ak z.abs
 .refine AO ?_ (by have:=hp.2 h;omega)
  cases z.neg with
  |false=>
   refine Fv ?_;rw[Ad (by simp)];unfold C4;rw[Ad (by omega)]
   first|rw[Ac (by omega)] | rw[Ad (by omega)]
  |true=>
   refine Af ?_;rw[Ac rfl];unfold C4
   first|rw[Ac (by omega)] | rw[Ad (by omega),Ad (by omega)]
 .have h0:Ak z.abs=0:=by omega
  rw[h0,EV];refine Ba ?_ rfl
  cases z.neg<;>rfl
theorem WG{z:Zi}(hz:Lz 1000000000 z):D.ask (.fn 179) [.agg (eZ z)] []=Δ (.agg (eZ (AY (-zv z))),[]):=by
 have e:-zv z=DX (!z.neg) (Ak z.abs):=by
  unfold zv DX
  cases z.neg<;>simp
 rw[e];refine Az R AjI (AqJ ..) ?_;rw[AbP];have g:=λb=>DU K R b hz.lim hz.len
 cases z.neg with
 |false=>
  refine Af ?_;refine Ab (g U) ?_;rfl
 |true=>
  refine Fv ?_;refine Ab (g Ξ) ?_;rfl
theorem PR{k:Nat}(hk:k<=900000000){a b:Zi}(ha:Lz k a)(hb:Lz k b)(hp:¬ zv a<0):D.ask (.fn 122) [.agg (eZ a),.agg (eZ b)] []=Δ (.agg (eZ (AY (zv a+zv b))),[]):=by
 have la:=ha.len;have lb:=hb.len;have sa:=Eo K R (ha.mono (show k<=1000000000 by omega));have sb:=Eo K R (hb.mono (show k<=1000000000 by omega));have ea:=EG hp;have hsa:¬ C4 (zv a)<0:=λh=>hp (Ll.1 h)
 refine Az R AaK (An7 ..) ?_;refine Ab sa ?_;simp only[RB,Ai];refine At ?_ hsa;refine Ab sa ?_;simp only[RB,Ai];refine Cz ?_;refine Ab sb ?_;simp only[RB,Ai]
 by_cases hb0:zv b<0
 .have hsb:=Ll.2 hb0
  have eb:=GJ hb0;refine CQ ?_;refine Ab sa ?_;simp only[RB,Ai];refine At ?_ hsa;have g1:=WH K (a:=a.abs) (b:=b.abs) (by unfold CK;omega) ha.lim (by unfold CK;omega) hb.lim;unfold Ng at g1;refine Ab g1 ?_
  by_cases hle:Ak b.abs<=Ak a.abs
  .rw[Ac hle]
   simp only[eN,Ai];have g2:=DU K R Ξ (a:=Bf (Ak a.abs-Ak b.abs)) (AK _) (by
    unfold CK;have:=Co (n:=Ak a.abs-Ak b.abs) (k:=a.abs.length) (by have:=CR ha.lim;omega);omega)
   rw[Bm,show DX Ξ (Ak a.abs-Ak b.abs)=zv a+zv b by unfold DX;rw[Ad (by simp)];omega]at g2;refine Ab g2 ?_;rfl
  .rw[Ad hle]
   simp only[eN,Ai];have g3:=WH K (a:=b.abs) (b:=a.abs) (by unfold CK;omega) hb.lim (by unfold CK;omega) ha.lim;unfold Ng at g3;rw[Ac (show Ak a.abs<=Ak b.abs by omega)]at g3;refine Ab g3 ?_;simp only[eN,Ai];have g2:=DU K R U (a:=Bf (Ak b.abs-Ak a.abs)) (AK _) (by
    unfold CK;have:=Co (n:=Ak b.abs-Ak a.abs) (k:=b.abs.length) (by have:=CR hb.lim;omega);omega)
   rw[Bm,show DX U (Ak b.abs-Ak a.abs)=zv a+zv b by unfold DX;rw[Ac rfl];omega]at g2;refine Ab g2 ?_;rfl
 .have hsb:¬ C4 (zv b)<0:=λh=>hb0 (Ll.1 h)
  have eb:=EG hb0;refine Cz ?_;refine Ab (MI K (by omega) ha.lim (by omega) hb.lim) ?_;simp only[eN,Ai];have g2:=DU K R Ξ (a:=Bf (Ak a.abs+Ak b.abs)) (AK _) (PG hk ha hb);rw[Bm,show DX Ξ (Ak a.abs+Ak b.abs)=zv a+zv b by unfold DX;rw[Ad (by simp)];omega]at g2;refine Ab g2 ?_;rfl
theorem Tp{k:Nat}(hk:k<=900000000){a b:Zi}(ha:Lz k a)(hb:Lz k b):D.ask (.fn 122) [.agg (eZ a),.agg (eZ b)] []=Δ (.agg (eZ (AY (zv a+zv b))),[]):=by
 by_cases hp:zv a<0
 .have la:=ha.len
  have lb:=hb.len;have sa:=Eo K R (ha.mono (show k<=1000000000 by omega));have sb:=Eo K R (hb.mono (show k<=1000000000 by omega));have ea:=GJ hp;have hsa:=Ll.2 hp;refine Az R AaK (An7 ..) ?_;refine Ab sa ?_;simp only[RB,Ai];refine Au ?_ hsa;refine Ab sb ?_;simp only[RB,Ai]
  by_cases hb0:zv b<0
  .have eb:=GJ hb0
   refine Au ?_ (Ll.2 hb0);refine Ab (MI K (by omega) ha.lim (by omega) hb.lim) ?_;simp only[eN,Ai];have g2:=DU K R U (a:=Bf (Ak a.abs+Ak b.abs)) (AK _) (PG hk ha hb);rw[Bm,show DX U (Ak a.abs+Ak b.abs)=zv a+zv b by unfold DX;rw[Ac rfl];omega]at g2;refine Ab g2 ?_;rfl
  .refine At ?_ (λh=>hb0 (Ll.1 h))
   refine Ab sa ?_;simp only[RB,Ai];refine CQ ?_;refine Ab sa ?_;simp only[RB,Ai];refine Au ?_ hsa;have g:=PR K R hk hb ha hb0;rw[Int.add_comm]at g;refine Ab g ?_;rfl
 .exact PR K R hk ha hb hp
theorem Aci{k:Nat}(hk:k<=900000000){a b:Zi}(ha:Lz k a)(hb:Lz k b):D.ask (.fn 124) [.agg (eZ a),.agg (eZ b)] []=Δ (.agg (eZ (AY (zv a-zv b))),[]):=by
 refine Az R Ajp (Aql ..) ?_;refine Ab (WG K R (hb.mono (show k<=1000000000 by omega))) ?_;have hn:Lz k (AY (-zv b)):=InB.lz (by have:=hb.inb;unfold InB at *;rwa [Au4]);have g:=Tp K R hk ha hn;rw[BY,←AvS]at g;simp only[eZ,eN,Ai];refine Ab g ?_;rfl
theorem Acg{k:Nat}(hk:k<=900000000){a b:Zi}(ha:Lz k a)(hb:Lz k b):D.ask (.fn 53) [.agg (eZ a),.agg (eZ b)] []=Δ (iv (C4 (zv a-zv b)),[]):=by
 refine Az R Aoz (e53 ..) ?_;refine Ab (Aci K R hk ha hb) ?_;have hs:Lz (k+1) (AY (zv a-zv b)):=InB.lz (by rw[AvS];exact Ad1 ha.inb (by have:=hb.inb;unfold InB at *;rwa [Au4]));have g:=Eo K R (hs.mono (show k+1<=1000000000 by omega));rw[BY]at g;simp only[eZ,eN,Ai];refine Ab g ?_;rfl
theorem Ach{k m:Nat}(hk:k<=400000000)(hm:m<=400000000){a b:Zi}(ha:Lz k a)(hb:Lz m b):D.ask (.fn 123) [.agg (eZ a),.agg (eZ b)] []=Δ (.agg (eZ (AY (zv a*zv b))),[]):=by
 have la:=ha.len;have lb:=hb.len;have sa:=Eo K R (ha.mono (show k<=1000000000 by omega));have sb:=Eo K R (hb.mono (show m<=1000000000 by omega));refine Az R Ajo (Aqk ..) ?_;refine Ab sa ?_;simp only[RB,Ai];refine Ab sb ?_;simp only[RB,Ai];have g:=Ah2 K ha.lim hb.lim (by omega);have l1:=EB ha.lim hb.lim;have gf:∀ ng,D.ask (.fn 128) [bv ng,eN (Bf (Ak a.abs*Ak b.abs))] []=Δ (.agg (eZ (AY (DX ng (Ak a.abs*Ak b.abs)))),[]):=λng=>by
  have:=DU K R ng (a:=Bf (Ak a.abs*Ak b.abs)) (AK _) (by unfold CK;omega)
  rwa [Bm]at this
 have hmul:Ah.mul .i64 (C4 (zv a)) (C4 (zv b))=C4 (zv a)*C4 (zv b):=Q3 _ _;rw[hmul]
 by_cases h:C4 (zv a)*C4 (zv b)<0
 .refine Au ?_ h
  refine Ab g ?_;simp only[eN,Ai];have g2:=gf U;rw[UX h]at g2;refine Ab g2 ?_;rfl
 .refine At ?_ h
  refine Ab g ?_;simp only[eN,Ai];have g2:=gf Ξ;rw[UY h]at g2;refine Ab g2 ?_;rfl
theorem Ym{a b:Zi}(ha:Lz 1000000000 a):D.ask (.fn 152) [.agg (eZ a),.agg (eZ b)] []=Δ (bv (decide (a.neg=b.neg/\a.abs=b.abs)),[]):=by
 refine Az R AjA (AqA ..) ?_;rw[PP]
 by_cases h:a.neg=b.neg
 .rw[show (a.neg == b.neg)=U by simp[h]]
  refine Af ?_;refine Ab (AbO K (a:=a.abs) (b:=b.abs) ha.len) ?_
  by_cases h2:a.abs=b.abs
  .rw[B3 h2,B3 ⟨h,h2⟩]
   rfl
  .rw[Cn h2,Cn (λe=>h2 e.2)]
   rfl
 .rw[show (a.neg == b.neg)=Ξ by simp[h],Cn (λe=>h e.1)]
  exact Fv rfl
end
theorem AbR(m:Nat)(h:m<9223372036854775808):Ah.rem .i64 (m:Int) 4294967296=((m % 4294967296:Nat):Int):=by
 show Int.tmod (m:Int) 4294967296=_
 rw[show (4294967296:Int)=((4294967296:Nat):Int) from rfl,←Int.ofNat_tmod]
theorem AbQ(m:Nat)(h:m<9223372036854775808):Ah.quo .i64 (m:Int) 4294967296=((m / 4294967296:Nat):Int):=by
 show IntKind.i64.wrap (Int.tdiv (m:Int) 4294967296)=_
 rw[IntKind.wrap_i64,show (4294967296:Int)=((4294967296:Nat):Int) from rfl,←Int.ofNat_tdiv];omega
theorem TJ(m:Nat):Ak [m % 4294967296,m / 4294967296]=m:=by
 unfold Ak Ak Ak;omega
theorem Py(m:Nat)(h:m<9223372036854775808):Limbs [m % 4294967296,m / 4294967296]:=BM (by omega) (BM (by omega) CH)
structure RF (D:Orc):Prop where
 clean:∀ z:Zi,Lz 1000000000 z->D.ask (.fn 75) [.agg (eZ z)] []=Δ (.agg (eZ (AY (zv z))),[])
 neg:∀ z:Zi,Lz 1000000000 z->D.ask (.fn 179) [.agg (eZ z)] []=Δ (.agg (eZ (AY (-zv z))),[])
 sign:∀ z:Zi,Lz 1000000000 z->D.ask (.fn 69) [.agg (eZ z)] []=Δ (iv (C4 (zv z)),[])
 of_:∀ n:Int,-9223372036854775808<n->n<9223372036854775808->D.ask (.fn 56) [iv n] []=Δ (.agg (eZ (AY n)),[])
 cmp:∀ a b:Zi,Lz 900000000 a->Lz 900000000 b->D.ask (.fn 53) [.agg (eZ a),.agg (eZ b)] []=Δ (iv (C4 (zv a-zv b)),[])
 add:∀ a b:Zi,Lz 900000000 a->Lz 900000000 b->D.ask (.fn 122) [.agg (eZ a),.agg (eZ b)] []=Δ (.agg (eZ (AY (zv a+zv b))),[])
 mul:∀ a b:Zi,Lz 400000000 a->Lz 400000000 b->D.ask (.fn 123) [.agg (eZ a),.agg (eZ b)] []=Δ (.agg (eZ (AY (zv a*zv b))),[])
 same:∀ a b:Zi,Lz 1000000000 a->D.ask (.fn 152) [.agg (eZ a),.agg (eZ b)] []=Δ (bv (decide (a.neg=b.neg/\a.abs=b.abs)),[])
section
variable {D:Orc} (K:Knows Aq PW D) (R:Knows Aq WU D)
include K R
theorem AmP(n:Int)(h1:-9223372036854775808<n)(h2:n<9223372036854775808):D.ask (.fn 56) [iv n] []=Δ (.agg (eZ (AY n)),[]):=by
 refine Az R AoA (e56 ..) ?_
 by_cases h:0<=n
 .obtain⟨m,rfl⟩:=Int.eq_ofNat_of_zero_le h
  have g:=DU K R Ξ (Py m (by omega)) (by unfold CK;simp);rw[TJ,show DX Ξ m=(m:Int) from rfl]at g;refine Cz ?_ h;refine AO ?_ (by decide);refine AO ?_ (by decide);rw[AbR m (by omega),AbQ m (by omega),B7 (by omega),B7 (by omega)];refine Ab g ?_;rfl
 .obtain⟨m,hm⟩:∃ m:Nat,n=-((m+1:Nat):Int):=⟨n.natAbs-1,by omega⟩
  have e1:Ah.sub .i64 0 (Ah.add .i64 n 1)=(m:Int):=by
   rw[Fo (by omega) (by omega),DL (by omega) (by omega)];omega
  have ga:=MI K (a:=[m % 4294967296,m / 4294967296]) (b:=[1]) (by simp) (Py m (by omega)) (by simp) (BM (by omega) CH);rw[TJ,show Ak [1]=1 from rfl]at ga;have hl:(Bf (m+1)).length<=2:=Co (by omega);have g:=DU K R U (AK (m+1)) (by unfold CK;omega);rw[Bm,show DX U (m+1)=n by rw[hm];rfl]at g;refine CQ ?_ h;refine AO ?_ (by decide);refine AO ?_ (by decide);rw[e1,AbR m (by omega),AbQ m (by omega),B7 (by omega),B7 (by omega)];refine Ab ga ?_;simp only[eN,Ai];refine Ab g ?_;rfl
theorem ApB:RF D where
 clean z h:=X7 K R h
 neg z h:=WG K R h
 sign z h:=Eo K R h
 of_ n h1 h2:=AmP K R n h1 h2
 cmp a b ha hb:=Acg K R (η _) ha hb
 add a b ha hb:=Tp K R (η _) ha hb
 mul a b ha hb:=Ach K R (η _) (η _) ha hb
 same a b ha:=Ym K R ha
end
theorem Acm(n:Int):C4 n=0 ↔ n=0:=by
 unfold C4
 repeat' split
 all_goals omega
section
variable {D:Orc} (Kh:Knows Aq Ox D) (F:RF D)
include Kh F
theorem AdH{n k:Nat}{ps:List Pt}{kz:Zi}(ht:TmB n k ⟨ps,kz⟩)(hn:n<=1000000)(hk:k+n<=400000000)(v:Int)(y0:Bool)(y1:Rw):∀(m i:Nat) (acc:Int),ps.length-i=m->i<=ps.length->InB (k+i) acc->
  D.ask (.lp 77 0) [iv v,.ptr 0 0,.ptr 1 0,.ptr 2 0,iv (i:Int)] [⟨[.ls (ps.map eP),bv kz.neg,eN kz.abs],U,Ξ⟩,⟨[bv y0,.ls y1],U,Ξ⟩,⟨eZ (AY acc),U,Ξ⟩]
   = Δ (.tup [iv 0,.ptr 1 0,.ptr 2 0],[.del,.set ⟨[bv y0,.ls y1],U,Ξ⟩,.set ⟨eZ (AY (acc+if 0<=v then Bj v ((ps.drop i).map pv) else 0)),U,Ξ⟩]):=by
 have hlen:ps.length<=n:=ht.len;intro m
 induction m with
 |zero=>
  intro i acc hm hi ha;rw[Atc (by omega)];have e0:acc+(if 0<=v then Bj v (([]:List Pt).map pv) else 0)=acc:=by
   rw[AtO,Bj];split<;>omega
  rw[e0];refine Ax Kh AaT (Ajd ..) ?_;rw[Ao];exact At rfl
 |succ m ih=>
  intro i acc hm hi ha;have h1:i<ps.length:=by omega
  have hz:=ht.ps ps[i] (Ats h1);rw[χ h1,Atu,Bj];have hn1:∀ kk,Bh (ps.map eP) i kk=kk (eP ps[i]):=λkk=>AD (δ h1) kk
  have ga:=F.add (AY acc) ps[i].z (ha.lz.mono (by omega)) (hz.mono (by omega));rw[BY]at ga;have ih1:=ih (i+1) acc (by omega) (by omega) (ha.mono (by omega));have ih2:=ih (i+1) (acc+zv ps[i].z) (by omega) (by omega) (by
   show InB (k+i+1) _
   exact InB.add ha (hz.inb.mono (by omega)))
  refine Ax Kh AaT (Ajd ..) ?_;rw[Ao];refine Au ?_;rw[AC,hn1];simp only[eP,eN,Ai]
  by_cases hv:ps[i].v=v
  .refine Ba ?_ hv
   by_cases h0:0<=v
   .refine Cz ?_ h0
    rw[AC,hn1];simp only[eP,eN,Ai];refine Ab ga ?_;simp only[eZ,eN,Ai];rw[BE (by omega)];refine Ab ih2 ?_;rw[Ac h0,Ac h0,Ac (show (pv ps[i]).1=v from hv),Int.add_assoc];rfl
   .refine CQ ?_ h0
    rw[BE (by omega)];refine Ab ih1 ?_;rw[Ad h0,Ad h0];rfl
  .refine AO ?_ hv
   rw[BE (by omega)];refine Ab ih1 ?_;rw[Ad (show ¬(pv ps[i]).1=v from hv),Awf];rfl
theorem My{n k:Nat}{t:Tm}(ht:TmB n k t)(hn:n<=1000000)(hk:k+n<=400000000)(v:Int):D.ask (.fn 77) [.agg (eT t),iv v] []=Δ (.agg (eZ (AY (if 0<=v then Bj v t.lf.ps else 0))),[]):=by
 obtain⟨ps,kz⟩:=t;have g:=AdH Kh F ht hn hk v Ξ [] _ 0 0 rfl (by omega) (InB.zero _);rw[ι,Awf]at g;have e0:eZ (AY 0)=[bv Ξ,.ls []]:=by rw[Ank];rfl
 rw[e0]at g;refine Az Kh AaT (e77 ..) ?_;refine Ab g ?_;rfl
def Zz(x:Fm):ABlk:=Ψ (eF x) U Ξ
end
def eI(v:Int):Aa:=[iv v]
theorem IT(v:Int):(eI v).length=1:=rfl
def bkI(l:List Int):ABlk:=Ψ (Aj eI l) U U
theorem apI(o:List Int)(h:o.length<=4000000)(X:KR):br (Bo (o.length+1) 8) (br (Atl (0+o.length*1) (Aj eI o).length) X Θ) Θ=X:=by
 rw[AZ (by omega) (by omega),AQ IT o (by omega)];rfl
theorem AmZ(o:List Int)(v:Int):Atg 0 (ε (0+o.length*1) (Aj eI o))++[iv v]=Aj eI (o++[v]):=by
 rw[ι,Br IT o (by omega)];exact Bl eI o v
theorem snI(o:List Int)(v:Int):o.length+1=(o++[v]).length:=by simp
section
variable {D:Orc} (Kt:Knows Aq Mb D)
include Kt
theorem Alz(v:Int)(l:List Int)(hl:l.length<=1000000):∀(m i:Nat) (d:Bool) (o:List Int),l.length-i=m->i<=l.length->o.length<=2*i->
  D.ask (.lp 121 0) [.ls (l.map eI),iv v,.sl 0 0 o.length 1,bv d,iv (i:Int)] [bkI o]=Δ (.tup [iv 0,iv v,.sl 1 0 (o++(Hg v d (l.drop i)).1).length 1,bv (Hg v d (l.drop i)).2],[.del,.set (bkI (o++(Hg v d (l.drop i)).1))]):=by
 intro m
 induction m with
 |zero=>
  intro i d o hm hi ho;rw[Atc (by omega),Hg,AtY];refine Ax Kt Sl (ZR ..) ?_;rw[Ao];exact At rfl
 |succ m ih=>
  intro i d o hm hi ho;have h1:i<l.length:=by omega
  have hn1:∀ kk,Bh (l.map eI) i kk=kk (eI l[i]):=λkk=>AD (δ h1) kk
  have ih1:=λ(d:Bool) (o:List Int) (h:o.length<=2*(i+1))=>ih (i+1) d o (by omega) (by omega) h
  rw[χ h1,Hg];revert hn1;generalize l[i]=x;intro hn1;refine Ax Kt Sl (ZR ..) ?_;rw[Ao];refine Au ?_;unfold bkI at ih1 ⊢;simp only[AC,hn1,eI,Ai,BE (show i<4611686018427387904 by omega),AmZ]
  cases d with
  |true=>
   refine Fv ?_
   by_cases hx:x=v
   .refine Ba ?_ hx
    have g:=ih1 U o (by omega);refine Ab g ?_;rw[Ac hx];rfl
   .refine AO ?_ hx
    have g:=ih1 U (o++[x]) (by simp;omega);rw[apI o (by omega),snI o x];refine Ab g ?_;rw[Ad hx,Atp];rfl
  |false=>
   refine Af ?_
   by_cases hv:v<=x
   .refine Cz ?_ hv
    rw[apI o (by omega),B3 hv,snI o v]
    by_cases hx:x=v
    .refine Ba ?_ hx
     have g:=ih1 U (o++[v]) (by simp;omega);refine Ab g ?_;rw[Ac hx,Atp];rfl
    .refine AO ?_ hx
     have g:=ih1 U (o++[v]++[x]) (by simp;omega);rw[apI (o++[v]) (by simp;omega),AmZ,snI (o++[v]) x];refine Ab g ?_;rw[Ad hx,Atp,Atp];rfl
   .refine CQ ?_ hv
    rw[Cn hv]
    by_cases hx:x=v
    .omega
    .refine AO ?_ hx
     have g:=ih1 Ξ (o++[x]) (by simp;omega);rw[apI o (by omega),snI o x];refine Ab g ?_;rw[Ad hx,Atp];rfl
theorem XH(v:Int)(l:List Int)(hl:l.length<=1000000):D.ask (.fn 121) [.ls (l.map eI),iv v] []=Δ (.ls ((I5 v l).map eI),[]):=by
 have g:=Alz Kt v l hl _ 0 Ξ [] rfl (by omega) (by simp);have hlen:=SC v Ξ l;rw[ι,Atw]at g;unfold I5;generalize Hg v Ξ l=p at g hlen;obtain⟨o,d⟩:=p;simp only at g hlen ⊢;unfold bkI at g;refine Az Kt Sl (Aqj ..) ?_;refine Ab g ?_;simp only[Ai]
 cases d with
 |true=>
  refine Fv ?_;rw[AQ IT o (by omega)];refine Af ?_;rw[BF IT o rfl,Ac rfl,AtY]
 |false=>
  refine Af ?_;rw[Ad (by decide)];rw[AmZ,snI o v,AQ IT (o++[v]) (by omega)];rw[show Bo (o++[v]).length 8=U from AZ (by simp;omega) (by omega),AQ IT o (by omega),ι,BF IT (o++[v]) rfl];rfl
end
section
variable {D:Orc} (Kt:Knows Aq Mb D) (Kh:Knows Aq Ox D) (F:RF D)
include Kt Kh F
theorem AiD{n k:Nat}{ps:List Pt}{kz:Zi}(ht:TmB n k ⟨ps,kz⟩)(hn:n<=1000000)(hk:k+n<=400000000):∀(m i:Nat) (out:List Int),ps.length-i=m->i<=ps.length->Zc out->out.length<=i->
  D.ask (.lp 76 0) [.ptr 0 0,.ls (out.map eI),iv (i:Int)] [⟨[.ls (ps.map eP),bv kz.neg,eN kz.abs],U,Ξ⟩]=Δ (.tup [iv 0,.ls ((Ga (BS (ps.map pv)) out ((ps.drop i).map Pt.v)).map eI)],[.del]):=by
 have hlen:ps.length<=n:=ht.len;intro m
 induction m with
 |zero=>
  intro i out hm hi ha ho;rw[Atc (by omega),AtO,Ga];refine Ax Kt AaS (Ajc ..) ?_;rw[Ao];exact At rfl
 |succ m ih=>
  intro i out hm hi ha ho;have h1:i<ps.length:=by omega
  have hn1:∀ kk,Bh (ps.map eP) i kk=kk (eP ps[i]):=λkk=>AD (δ h1) kk
  rw[χ h1,Atu,Ga];revert hn1;generalize ps[i]=p;intro hn1;have gc:=My Kh F ht hn hk p.v;have hc:InB (k+n) (BS (ps.map pv) p.v):=by
   unfold BS;split
   .exact(KK _ _ ht.lb.ps).mono (by have:=ht.lb.len;omega)
   .exact InB.zero _
  have e1:(if 0<=p.v then Bj p.v (Tm.mk ps kz).lf.ps else 0)=BS (ps.map pv) p.v:=rfl;rw[e1]at gc;generalize BS (ps.map pv) p.v=c at gc hc;have gs:=F.sign (AY c) (hc.lz.mono (by omega));rw[BY]at gs;refine Ax Kt AaS (Ajc ..) ?_;rw[Ao];refine Au ?_;rw[AC,hn1];simp only[eP,eN,Ai];refine Ab gc ?_;simp only[eZ,eN,Ai]at gs ⊢;refine Ab gs ?_;simp only[Ai];rw[BE (by omega)]
  by_cases h0:c=0
  .have g:=ih (i+1) out (by omega) (by omega) ha (by omega)
   refine Ba ?_ ((Acm c).2 h0);refine Ab g ?_;rw[Ac h0];rfl
  .have g:=ih (i+1) (I5 p.v out) (by omega) (by omega) (Hi _ ha) (by have:=NL p.v ha;omega)
   have gi:=XH Kt p.v out (by omega);refine AO ?_ (λh=>h0 ((Acm c).1 h));refine Ab gi ?_;simp only[Ai];refine Ab g ?_;rw[Ad h0];rfl
theorem Oh{n k:Nat}{t:Tm}(ht:TmB n k t)(hn:n<=1000000)(hk:k+n<=400000000):D.ask (.fn 76) [.agg (eT t)] []=Δ (.ls ((CM t.lf.ps).map eI),[]):=by
 obtain⟨ps,kz⟩:=t;have g:=AiD Kt Kh F ht hn hk _ 0 [] rfl (by omega) Mt (by simp);rw[ι]at g;have e1:(ps.map Pt.v)=(Tm.mk ps kz).lf.ps.map (·.1):=by
  unfold Tm.lf;rw[AuQ];rfl
 rw[e1]at g;refine Az Kt AaS (e76 ..) ?_;refine Ab g ?_;rfl
omit Kt Kh F in
theorem LA(ps:List (Int × Int)):(CM ps).length<=ps.length:=by
 grind [BS,CM,Mt,Lx]
def ptV(l:List (Int × Int))(v:Int):Pt:=⟨v,AY (BS l v)⟩
theorem Yh{n k:Nat}{ps:List Pt}{kz:Zi}(ht:TmB n k ⟨ps,kz⟩)(hn:n<=1000000)(hk:k+n<=400000000)(vs:List Int)(hvs:vs.length<=n)(r0:Rw)(r1:Bool)(r2:Rw)(k1:Bool)(k2:Rw):∀(m i:Nat) (out:List Pt),vs.length-i=m->i<=vs.length->out.length<=i->
  D.ask (.lp 20 0) [.ptr 0 0,.ptr 1 0,.ptr 2 0,.ls (vs.map eI),iv (i:Int)] [⟨[.ls (ps.map eP),bv kz.neg,eN kz.abs],U,Ξ⟩,⟨[.ls r0,bv r1,.ls r2],U,Ξ⟩,⟨[.sl 3 0 out.length 3,bv k1,.ls k2],U,Ξ⟩,Eh out]
   = Δ (.tup [iv 0,.ptr 1 0,.ptr 2 0],[.del,.set ⟨[.ls r0,bv r1,.ls r2],U,Ξ⟩,.set ⟨[.sl 4 0 (out++(vs.drop i).map (ptV (ps.map pv))).length 3,bv k1,.ls k2],U,Ξ⟩,.del,.set (Eh (out++(vs.drop i).map (ptV (ps.map pv))))]):=by
 intro m
 induction m with
 |zero=>
  intro i out hm hi ho;rw[Atc (by omega),AtO,AtY];refine Ax Kt AaN (Ai7 ..) ?_;rw[Ao];exact At rfl
 |succ m ih=>
  intro i out hm hi ho;have h1:i<vs.length:=by omega
  have hn1:∀ kk,Bh (vs.map eI) i kk=kk (eI vs[i]):=λkk=>AD (δ h1) kk
  rw[χ h1,Atu];revert hn1;generalize vs[i]=v;intro hn1;have gc:=My Kh F ht hn hk v;have e1:(if 0<=v then Bj v (Tm.mk ps kz).lf.ps else 0)=BS (ps.map pv) v:=rfl;rw[e1]at gc;have ih:=ih (i+1) (out++[ptV (ps.map pv) v]) (by omega) (by omega) (by simp;omega);rw[Atp,AtU,show (out++[ptV (ps.map pv) v]).length=out.length+1 by simp]at ih;have hf:Bo (out.length+1) 40=U:=AZ (by omega) (by omega);have hb1:Atl (0+out.length*3) (Aj eP out).length=U:=AQ Av out (by omega);have e3:Atg 0 (ε (0+out.length*3) (Aj eP out))++[iv v,bv (AY (BS (ps.map pv) v)).neg,eN (AY (BS (ps.map pv) v)).abs]=Aj eP (out++[ptV (ps.map pv) v]):=by
   rw[ι,Br Av out (by omega)];exact Bl eP out (ptV (ps.map pv) v)
  refine Ax Kt AaN (Ai7 ..) ?_;rw[Ao];refine Au ?_;simp only[AC,hn1,eI,Ai];refine Ab gc ?_;simp only[eZ,eN,Ai]at e3 ⊢;rw[hf];refine Af ?_;rw[hb1];refine Af ?_;rw[e3,BE (by omega)];refine Ab ih ?_;rfl
theorem FW{n k:Nat}{t:Tm}(ht:TmB n k t)(hn:n<=1000000)(hk:k+n<=400000000):D.ask (.fn 20) [.agg (eT t)] []=Δ (.agg (eT t.lf.pln.tm),[]):=by
 have gv:=Oh Kt Kh F ht hn hk;have hl:=LA t.lf.ps;have hl2:=ht.lb.len;have gk:=F.clean t.k (ht.k.mono (by omega));obtain⟨ps,kz⟩:=t;have gl:=Yh Kt Kh F ht hn hk (CM (Tm.mk ps kz).lf.ps) (by omega) [] Ξ [] (AY (zv kz)).neg ((AY (zv kz)).abs.map eL) _ 0 [] rfl (by omega) (by simp);rw[ι,Atw]at gl;have e2:(CM (Tm.mk ps kz).lf.ps).map (ptV (ps.map pv))=(Tm.mk ps kz).lf.pln.tm.ps:=by
  show _=(Bu (ps.map pv)).map Bc
  rw[←Ec,AuQ];rfl
 rw[e2]at gl;have e3:(Tm.mk ps kz).lf.pln.tm.k=AY (zv kz):=rfl;revert gl;generalize hX:(Tm.mk ps kz).lf.pln.tm=X at e3 ⊢;obtain⟨xp,xk⟩:=X;intro gl;simp only at e3;subst e3;refine Az Kt AaN (e20 ..) ?_;refine Ab gk ?_;simp only[eZ,eN,Ai];refine Ab gv ?_;simp only[Ai];refine Ab gl ?_;simp only[Ai];rw[AQ Av xp (by omega)];refine Af ?_;rw[BF Av _ rfl];rfl
omit Kh F in
theorem Zx(a b:List Pt)(hl:a.length<=1000000):∀(m i:Nat) (out:List Pt),a.length-i=m->i<=a.length->out.length<=i->
  D.ask (.lp 211 0) [.ls (a.map eP),.ls (b.map eP),.sl 0 0 out.length 3,iv (i:Int)] [Eh out]=Δ (.tup [iv 0,.ls (b.map eP),.sl 1 0 (out++a.drop i).length 3],[.del,.set (Eh (out++a.drop i))]):=by
 intro m
 induction m with
 |zero=>
  intro i out hm hi ho;rw[Atc (by omega),AtY];refine Ax Kt LO (Z8 ..) ?_;rw[Ao];exact At rfl
 |succ m ih=>
  intro i out hm hi ho;have h1:i<a.length:=by omega
  have hn1:∀ kk,Bh (a.map eP) i kk=kk (eP a[i]):=λkk=>AD (δ h1) kk
  rw[χ h1];revert hn1;generalize a[i]=v;intro hn1;have ih:=ih (i+1) (out++[v]) (by omega) (by omega) (by simp;omega);rw[Atp,AtU,show (out++[v]).length=out.length+1 by simp]at ih;have hf:Bo (out.length+1) 40=U:=AZ (by omega) (by omega);have hb1:Atl (0+out.length*3) (Aj eP out).length=U:=AQ Av out (by omega);have e3:Atg 0 (ε (0+out.length*3) (Aj eP out))++[iv v.v,bv v.z.neg,eN v.z.abs]=Aj eP (out++[v]):=by
   rw[ι,Br Av out (by omega)];exact Bl eP out v
  refine Ax Kt LO (Z8 ..) ?_;rw[Ao];refine Au ?_;simp only[AC,hn1,eP,eN,Ai]at e3 ⊢;rw[hf];refine Af ?_;rw[hb1];refine Af ?_;rw[e3,BE (by omega)];refine Ab ih ?_;rfl
omit Kh F in
theorem Zy(a:List Pt)(hl:a.length<=1000000):∀(m i:Nat) (out:List Pt),a.length-i=m->i<=a.length->out.length<=1000000+i->
  D.ask (.lp 211 1) [.ls (a.map eP),.sl 0 0 out.length 3,iv (i:Int)] [Eh out]=Δ (.tup [iv 2,.sl 1 0 (out++a.drop i).length 3],[.del,.set (Eh (out++a.drop i))]):=by
 intro m
 induction m with
 |zero=>
  intro i out hm hi ho;rw[Atc (by omega),AtY];refine Ax Kt LO (Z9 ..) ?_;rw[Ao];exact At rfl
 |succ m ih=>
  intro i out hm hi ho;have h1:i<a.length:=by omega
  have hn1:∀ kk,Bh (a.map eP) i kk=kk (eP a[i]):=λkk=>AD (δ h1) kk
  rw[χ h1];revert hn1;generalize a[i]=v;intro hn1;have ih:=ih (i+1) (out++[v]) (by omega) (by omega) (by simp;omega);rw[Atp,AtU,show (out++[v]).length=out.length+1 by simp]at ih;have hf:Bo (out.length+1) 40=U:=AZ (by omega) (by omega);have hb1:Atl (0+out.length*3) (Aj eP out).length=U:=AQ Av out (by omega);have e3:Atg 0 (ε (0+out.length*3) (Aj eP out))++[iv v.v,bv v.z.neg,eN v.z.abs]=Aj eP (out++[v]):=by
   rw[ι,Br Av out (by omega)];exact Bl eP out v
  refine Ax Kt LO (Z9 ..) ?_;rw[Ao];refine Au ?_;simp only[AC,hn1,eP,eN,Ai]at e3 ⊢;rw[hf];refine Af ?_;rw[hb1];refine Af ?_;rw[e3,BE (by omega)];refine Ab ih ?_;rfl
omit Kh F in
theorem AdC(a b:List Pt)(ha:a.length<=1000000)(hb:b.length<=1000000):D.ask (.fn 211) [.ls (a.map eP),.ls (b.map eP)] []=Δ (.ls ((a++b).map eP),[]):=by
 have g0:=Zx Kt a b ha _ 0 [] rfl (by omega) (by simp);have g1:=Zy Kt b hb _ 0 a rfl (by omega) (by omega);rw[ι,Atw]at g0;rw[ι]at g1;refine Az Kt LO (Aq0 ..) ?_;refine Ab g0 ?_;simp only[Ai];refine Ab g1 ?_;simp only[Ai];refine Af ?_;rw[AQ Av (a++b) (by omega)];refine Af ?_;rw[BF Av _ rfl]
theorem Ah4{n m k:Nat}{a b:Tm}(ha:TmB n k a)(hb:TmB m k b)(hn:n+m<=1000000)(hk:k+1+(n+m)<=400000000):D.ask (.fn 153) [.agg (eT a),.agg (eT b)] []=Δ (.agg (eT (a.lf.add b.lf).tm),[]):=by
 obtain⟨ap,ak⟩:=a;obtain⟨bp,bk⟩:=b;have l1:ap.length<=n:=ha.len;have l2:bp.length<=m:=hb.len;have gc:=AdC Kt ap bp (by omega) (by omega);have ga:=F.add ak bk (ha.k.mono (by omega)) (hb.k.mono (by omega));have hT:TmB (n+m) (k+1) ⟨ap++bp,AY (zv ak+zv bk)⟩:=by
  refine⟨by simp;omega,λp hp=>?_,?_⟩
  .rcases List.mem_append.1 hp with h|h
   .exact(ha.ps p h).mono (by omega)
   .exact(hb.ps p h).mono (by omega)
  .exact(InB.add ha.k.inb hb.k.inb).lz
 have gp:=FW Kt Kh F hT hn (by omega);have el:(⟨ap++bp,AY (zv ak+zv bk)⟩:Tm).lf.pln=Lf.add (Tm.lf ⟨ap,ak⟩) (Tm.lf ⟨bp,bk⟩):=by
  unfold Lf.add Tm.lf;simp only[List.map_append,BY]
 rw[el]at gp;refine Az Kt AjB (AqB ..) ?_;refine Ab gc ?_;simp only[Ai];refine Ab ga ?_;simp only[eZ,eN,Ai];refine Ab gp ?_;rfl
omit Kh in
theorem Yi{k j:Nat}{x:Zi}(hx:Lz j x)(ps:List Pt)(kz:Zi)(hl:ps.length<=1000000)(hz:∀ p∈ps,Lz k p.z)(hk:k<=400000000)(hj:j<=400000000)(r0:Rw)(r1:Bool)(r2:Rw)(k1:Bool)(k2:Rw):∀(m i:Nat) (out:List Pt),ps.length-i=m->i<=ps.length->out.length<=i->
  D.ask (.lp 73 0) [.ptr 0 0,.ptr 1 0,.ptr 2 0,.ptr 3 0,iv (i:Int)] [⟨[.ls (ps.map eP),bv kz.neg,eN kz.abs],U,Ξ⟩,⟨eZ x,U,Ξ⟩,⟨[.ls r0,bv r1,.ls r2],U,Ξ⟩,⟨[.sl 4 0 out.length 3,bv k1,.ls k2],U,Ξ⟩,Eh out]
   = Δ (.tup [iv 0,.ptr 2 0,.ptr 3 0],[.del,.del,.set ⟨[.ls r0,bv r1,.ls r2],U,Ξ⟩,.set ⟨[.sl 5 0 (out++(ps.drop i).map (PS x)).length 3,bv k1,.ls k2],U,Ξ⟩,.del,.set (Eh (out++(ps.drop i).map (PS x)))]):=by
 intro m
 induction m with
 |zero=>
  intro i out hm hi ho;rw[Atc (by omega),AtO,AtY];obtain⟨xn,xa⟩:=x;refine Ax Kt AaR (Ajb ..) ?_;rw[Ao];exact At rfl
 |succ m ih=>
  intro i out hm hi ho;have h1:i<ps.length:=by omega
  have hzk:=hz ps[i] (Ats h1);have gm:=F.mul ps[i].z x (hzk.mono (by omega)) (hx.mono (by omega));rw[χ h1,Atu];have ih:=ih (i+1) (out++[PS x ps[i]]) (by omega) (by omega) (by simp;omega);rw[Atp,AtU,show (out++[PS x ps[i]]).length=out.length+1 by simp]at ih;have hf:Bo (out.length+1) 40=U:=AZ (by omega) (by omega);have hb1:Atl (0+out.length*3) (Aj eP out).length=U:=AQ Av out (by omega);have e3:Atg 0 (ε (0+out.length*3) (Aj eP out))++[iv ps[i].v,bv (AY (zv ps[i].z*zv x)).neg,eN (AY (zv ps[i].z*zv x)).abs]=Aj eP (out++[PS x ps[i]]):=by
   rw[ι,Br Av out (by omega)];exact Bl eP out (PS x ps[i])
  have hn1:∀ kk,Bh (ps.map eP) i kk=kk (eP ps[i]):=λkk=>AD (δ h1) kk
  obtain⟨xn,xa⟩:=x;refine Ax Kt AaR (Ajb ..) ?_;rw[Ao];refine Au ?_;simp only[AC,hn1,eP,eN,Ai];refine Ab gm ?_;simp only[eZ,eN,Ai]at e3 ⊢;rw[hf];refine Af ?_;rw[hb1];refine Af ?_;rw[e3,BE (by omega)];refine Ab ih ?_;rfl
theorem Yj{n k j:Nat}{a:Tm}{x:Zi}(ha:TmB n k a)(hx:Lz j x)(hn:n<=1000000)(hj:j<=200000000)(hk:k+j+n<=400000000):D.ask (.fn 73) [.agg (eT a),.agg (eZ x)] []=Δ (.agg (eT (a.lf.scale (zv x)).tm),[]):=by
 obtain⟨ap,ak⟩:=a;have l1:ap.length<=n:=ha.len;have gm:=F.mul ak x (ha.k.mono (by omega)) (hx.mono (by omega));have gl:=Yi Kt F hx ap ak (by omega) ha.ps (by omega) (by omega) [] Ξ [] (AY (zv ak*zv x)).neg ((AY (zv ak*zv x)).abs.map eL) _ 0 [] rfl (by omega) (by simp);rw[ι,Atw]at gl;have hT:TmB n (k+j) ⟨ap.map (PS x),AY (zv ak*zv x)⟩:=by
  refine⟨by simpa using l1,λp hp=>?_,(InB.mul ha.k.inb hx.inb).lz⟩;rw[AtH]at hp;obtain⟨q,hq,rfl⟩:=hp;exact(InB.mul (ha.ps q hq).inb hx.inb).lz
 have gp:=FW Kt Kh F hT hn (by omega);have el:(⟨ap.map (PS x),AY (zv ak*zv x)⟩:Tm).lf.pln=Lf.scale (Tm.lf ⟨ap,ak⟩) (zv x):=by
  unfold Lf.scale Tm.lf;simp only[AuQ,BY]
  congr 2
  refine List.map_congr_left λp _=>?_
  show ((p.v,zv (AY (zv p.z*zv x))):Int × Int)=_
  rw[BY];rfl
 rw[el]at gp;obtain⟨xn,xa⟩:=x;refine Az Kt AaR (e73 ..) ?_;refine Ab gm ?_;simp only[eZ,eN,Ai];refine Ab gl ?_;simp only[Ai];rw[show Atl (0+(ap.map (PS ⟨xn,xa⟩)).length*3) (Aj eP (ap.map (PS ⟨xn,xa⟩))).length=U from AQ Av _ (by omega)];refine Af ?_;rw[BF Av _ rfl];refine Ab gp ?_;rfl
omit Kh in
theorem Vf{z:Zi}(hz:Lz 1000000000 z):D.ask (.fn 80) [.agg (eZ z)] []=Δ (.agg (eT (Lf.num (zv z)).tm),[]):=by
 have g:=F.clean z hz;refine Az Kt AoF (e80 ..) ?_;refine Ab g ?_;rfl
end
section
open Go.RowKit
variable (A:Ar) (D:Orc)
end
section
open Go.RowKit
variable (A:Ar) (D:Orc)
end
section
open Go.RowKit
variable (A:Ar) (D:Orc)
end
def Hb(r:Tm × Bool):Aa:=eT r.1++[bv r.2]
theorem KN(ps:List Pt)(kz:Zi)(e:Bool):Hb (⟨ps,kz⟩,e)=[.ls (ps.map eP),bv kz.neg,eN kz.abs,bv e]:=rfl
section
variable {D:Orc} (Kw:Knows Aq WR D)
include Kw
def XY(L:Int)(ps:List Pt):Bool:=ps.all λp=>decide ((p.z.abs.length:Int)<=L)
def Ir(L:Int)(r:Tm × Bool):Bool:=decide (r.1.ps.length<=20)&&(decide ((r.1.k.abs.length:Int)<=L)&&XY L r.1.ps)
theorem AdS(rs:List (Tm × Bool))(L:Int)(i:Nat)(h1:i<rs.length)(hl:rs[i].1.ps.length<=20):∀(m k:Nat),rs[i].1.ps.length-k=m->k<=rs[i].1.ps.length->
  D.ask (.lp 16 1) [.ls (rs.map Hb),iv L,iv (i:Int),iv (k:Int)] []=Δ (if XY L (rs[i].1.ps.drop k)=U then .tup [iv 2,.ls (rs.map Hb),iv L,iv (i:Int)] else .tup [bv U,bv Ξ],[]):=by
 have hn1:∀ kk,Bh (rs.map Hb) i kk=kk (Hb rs[i]):=λkk=>AD (δ h1) kk
 revert hn1 hl;generalize rs[i]=r;intro hl hn1;obtain⟨⟨ps,kz⟩,e⟩:=r;simp only at hl ⊢;intro m
 induction m with
 |zero=>
  intro k hm hk;rw[Atc (by omega)];refine Ax Kw Sp (Ai6 ..) ?_;simp only[AC,hn1,KN,eN,Ai,Ao];exact At rfl
 |succ m ih=>
  intro k hm hk;have h2:k<ps.length:=by omega
  have ih:=ih (k+1) (by omega) (by omega);have hn2:∀ kk,Bh (ps.map eP) k kk=kk (eP ps[k]):=λkk=>AD (δ h2) kk
  rw[χ h2];revert hn2;generalize ps[k]=p;intro hn2;unfold XY at ih ⊢;rw[AuD];refine Ax Kw Sp (Ai6 ..) ?_;simp only[AC,hn1,hn2,KN,eP,eN,Ai,Ao];refine Au ?_
  by_cases hz:L<(p.z.abs.length:Int)
  .refine Au ?_ hz
   rw[Cn (by omega:¬ (p.z.abs.length:Int)<=L)];rfl
  .refine At ?_ hz
   rw[B3 (by omega:(p.z.abs.length:Int)<=L),AuC,BE (by omega)];refine Ab ih ?_
   cases (ps.drop (k+1)).all λp=>decide ((p.z.abs.length:Int)<=L)<;>rfl
theorem AdR(rs:List (Tm × Bool))(L:Int)(hrl:rs.length<=1000000):∀(m i:Nat),rs.length-i=m->i<=rs.length->
  D.ask (.lp 16 0) [.ls (rs.map Hb),iv L,iv (i:Int)] []=Δ (if(rs.drop i).all (Ir L)=U then .tup [iv 0] else .tup [bv U,bv Ξ],[]):=by
 intro m
 induction m with
 |zero=>
  intro i hm hi;rw[Atc (by omega)];refine Ax Kw Sp (Ai5 ..) ?_;rw[Ao];exact At rfl
 |succ m ih=>
  intro i hm hi;have h1:i<rs.length:=by omega
  have ih:=ih (i+1) (by omega) (by omega);have hn1:∀ kk,Bh (rs.map Hb) i kk=kk (Hb rs[i]):=λkk=>AD (δ h1) kk
  have g1:=AdS Kw rs L i h1;rw[χ h1,AuD];revert hn1 g1;generalize rs[i]=r;obtain⟨⟨ps,kz⟩,e⟩:=r;intro hn1 g1;simp only at g1;unfold Ir;simp only;refine Ax Kw Sp (Ai5 ..) ?_;rw[Ao];refine Au ?_;simp only[AC,hn1,KN,eN,Ai,Ao]
  by_cases hp:ps.length<=20
  .refine At ?_
   rw[B3 hp,AuC]
   by_cases hk:(kz.abs.length:Int)<=L
   .refine At ?_
    rw[B3 hk,AuC];have g1:=g1 hp _ 0 rfl (AtI _);rw[ι]at g1;refine Ab g1 ?_
    cases hr:XY L ps with
    |true=>
     rw[Ac rfl,AuC];simp only[Ai,Aqa];rw[BE (by omega)];refine Ab ih ?_;unfold Ir
     cases (rs.drop (i+1)).all λr=>decide (r.1.ps.length<=20)&&(decide ((r.1.k.abs.length:Int)<=L)&&XY L r.1.ps)<;>rfl
    |false=>rfl
   .refine Au ?_
    rw[Cn hk];rfl
  .refine Au ?_
   rw[Cn hp];rfl
theorem Aaw(rs:List (Tm × Bool))(n:Nat)(L:Int)(hn:n<=1000000):D.ask (.fn 16) [.ls (rs.map Hb),iv (n:Int),iv L] []=Δ (bv (decide (rs.length<=n)&&rs.all (Ir L)),[]):=by
 refine Az Kw Sp (e16 ..) ?_;rw[Ao]
 by_cases h:n<rs.length
 .rw[Cn (by omega:¬ rs.length<=n)]
  exact Qi (by omega)
 .have g:=AdR Kw rs L (by omega) _ 0 rfl (by omega)
  rw[ι]at g;rw[B3 (by omega:rs.length<=n),AuC];refine At ?_;refine Ab g ?_
  cases rs.all (Ir L)<;>rfl
end
structure LmT (t:Tm):Prop where
 ps:∀ p∈t.ps,Limbs p.z.abs
 k:Limbs t.k.abs
theorem LmT.tmb{t:Tm}{e:Bool}{L:Nat}(h:LmT t)(ho:Ir (L:Int) (t,e)=U):TmB 20 L t:=by
 unfold Ir XY at ho;simp only[Bool.and_eq_true,decide_eq_true_eq,List.all_eq_true]at ho;exact⟨ho.1,λp hp=>⟨h.ps p hp,by have:=ho.2.2 p hp;omega⟩,⟨h.k,by have:=ho.2.1;omega⟩⟩
theorem V8{M:Nat}{v c:Int}:∀{l:List (Int × Int)},(∀ q∈l,q.2.natAbs<=M)->∀ q∈Hh v c l,q.2.natAbs<=c.natAbs+M
 |[],h,q,hq=>by
  unfold Hh at hq;split at hq
  .cases hq
  .rw[AtX]at hq
   subst hq;exact Avj _ _
 |p::r,h,q,hq=>by
  have h0:∀ q∈p::r,q.2.natAbs<=c.natAbs+M:=λq hq=>Nat.le_trans (h q hq) (Nat.le_add_left _ _)
  have hp:=h p (Atq ..);unfold Hh at hq;split at hq
  .split at hq
   .exact h0 q hq
   .rcases Atd.1 hq with rfl|hq
    .exact Avj _ _
    .exact h0 q hq
  split at hq
  .rcases Atd.1 hq with rfl|hq
   .exact h0 q (Atq ..)
   .exact V8 (λx hx=>h x (Atj _ hx)) q hq
  split at hq
  .exact h0 q (Atj _ hq)
  .rcases Atd.1 hq with rfl|hq
   .show (p.2+c).natAbs<=_
    omega
   .exact h0 q (Atj _ hq)
theorem S6{M:Nat}:∀{l:List (Int × Int)},(∀ q∈l,q.2.natAbs<=M)->∀ q∈Bu l,q.2.natAbs<=l.length*M
 |[],_,q,hq=>by cases hq
 |p::r,h,q,hq=>by
  have ih:=S6 (l:=r) λx hx=>h x (Atj _ hx)
  have hp:=h p (Atq ..);rw[Ate,Nat.succ_mul];unfold Bu at hq;split at hq
  .have:=V8 ih q hq
   omega
  .have:=ih q hq
   omega
theorem AhQ{n a k:Nat}(hn:n<4294967296)(h:a<4294967296 ^ k):n*(4294967296 ^ k-1)<4294967296 ^ (k+1):=by
 rw[Auy];generalize 4294967296 ^ k=X at *;have h1:n*(X-1)<=n*X:=Nat.mul_le_mul_left n (Nat.sub_le _ _);have h2:n*X<4294967296*X:=Nat.mul_lt_mul_of_pos_right hn (by omega);rw[Nat.mul_comm X];omega
theorem Gx{n k:Nat}{l:Lf}(h:LB n k l)(hn:n<4294967296):∀ p∈Bu l.ps,InB (k+1) p.2:=λp hp=>by
 have h1:∀ q∈l.ps,q.2.natAbs<=4294967296 ^ k-1:=λq hq=>by
  have:=h.ps q hq;unfold InB at this;omega
 have h2:=S6 h1 p hp;have h3:=AhQ (n:=l.ps.length) (a:=0) (k:=k) (by have:=h.len;omega) (Nat.pow_pos (by decide));unfold InB;omega
def Dd(v:Int)(vs:List Int):Nat:=vs.findIdx λx=>decide (v=x)
def G0(v:Int):Lf:=Lf.pln ⟨[(v,1)],0⟩
def GR(vs:List Int)(bys:List Tm)(v:Int):Lf:=if Dd v vs<vs.length then(match bys[Dd v vs]? with
 |some t=>t.lf
 |none=>G0 v) else G0 v
theorem KA(v:Int):LB 20 8 (G0 v):=by
 have:LB 1 1 (⟨[(v,1)],0⟩:Lf):=⟨η _,λp hp=>by rw[AtX]at hp;rw[hp];exact InB.one (η _),InB.zero 1⟩;exact this.pln.mono (by omega) (by omega)
theorem Vl{vs:List Int}{bys:List Tm}(h:∀ t∈bys,TmB 20 8 t)(v:Int):LB 20 8 (GR vs bys v):=by
 unfold GR;split
 .split
  .rename_i t ht
   exact(h t (Atx ht)).lb
  .exact KA v
 .exact KA v
section
variable {D:Orc} (Kt:Knows Aq OA D) (Kf:Knows Aq Tz D) (Ks:SrtF D 1000000) (Z:ZF D) (C:PartF D) (Kp:Knows Aq AcL D)
include Kp
theorem AaY(vs:List Int)(v:Int)(hl:vs.length<=1000000):∀(m i:Nat),vs.length-i=m->i<=vs.length->
  D.ask (.lp 193 0) [.ls (vs.map eI),iv v,iv (vs.length:Int),iv (i:Int)] []=Δ (if i+Dd v (vs.drop i)<vs.length then .tup [bv U,iv ((i+Dd v (vs.drop i):Nat):Int)] else .tup [iv 0],[]):=by
 intro m
 induction m with
 |zero=>
  intro i hm hi;rw[Atc (by omega),Ad (by omega)];refine Ax Kp Ss (Z1 ..) ?_;exact At rfl
 |succ m ih=>
  intro i hm hi;have h1:i<vs.length:=by omega
  have ih:=ih (i+1) (by omega) (by omega);have hn1:∀ kk,Bh (vs.map eI) i kk=kk (eI vs[i]):=λkk=>AD (δ h1) kk
  have ed:Dd v (vs.drop i)=bif decide (v=vs[i]) then 0 else Dd v (vs.drop (i+1))+1:=by
   unfold Dd;rw[χ h1,List.findIdx_cons]
  rw[ed];refine Ax Kp Ss (Z1 ..) ?_;refine Au ?_;rw[AC,hn1];simp only[eI,Ai]
  by_cases h:v=vs[i]
  .rw[B3 h,cond_true,At3,Ac h1]
   exact CO h
  .rw[Cn h,cond_false,show i+(Dd v (vs.drop (i+1))+1)=i+1+Dd v (vs.drop (i+1)) by omega]
   refine AO ?_ h;rw[BE (by omega)];refine Ab ih ?_;split<;>rfl
theorem AaZ(vs:List Int)(v:Int)(hl:vs.length<=1000000):D.ask (.fn 193) [.ls (vs.map eI),iv v] []=Δ (iv (if Dd v vs<vs.length then(Dd v vs:Int) else -1),[]):=by
 have g:=AaY Kp vs v hl _ 0 rfl (by omega);rw[ι,Ato]at g;refine Az Kp Ss (AqQ ..) ?_;rw[Ao];refine Ab g ?_;split<;>rfl
include Kt Ks Z C
theorem Anc(v:Int):D.ask (.fn 194) [iv v] []=Δ (.agg (eT (G0 v).tm),[]):=by
 have g1:=Z.of_ 1 (by omega) (by omega);have hb:TmB 1 1 ⟨[⟨v,AY 1⟩],⟨Ξ,[]⟩⟩:=⟨η _,λp hp=>by rw[AtX]at hp;rw[hp];exact(InB.one (η 1)).lz,⟨CH,AtI _⟩⟩;have g2:=Hs Kt Ks Z C hb (by omega) (by omega);have e:(Tm.lf ⟨[⟨v,AY 1⟩],⟨Ξ,[]⟩⟩).pln=G0 v:=by
  unfold Tm.lf G0;rw[Atu,AtO]
  show Lf.pln ⟨[(v,zv (AY 1))],_⟩=_
  rw[BY];rfl
 rw[e]at g2;refine Az Kp AjN (AqR ..) ?_;refine Ab g1 ?_;simp only[eZ,eN,Ai];refine Ab g2 ?_;rfl
include Kf
theorem X5(vs:List Int)(bys:List Tm)(hvs:vs.length<=1000)(hbl:bys.length<=1000)(hb:∀ t∈bys,TmB 20 8 t)(xs:Rw)(x1:Bool)(x2:Rw)(ps:List (Int × Int))(hl:ps.length<=20)(hp:∀ p∈ps,InB 10 p.2) :
  ∀(m i:Nat) (acc:Lf),ps.length-i=m->i<=ps.length->LB (20*i) (100+1000*i) acc->
  D.ask (.lp 132 0) [.ls (vs.map eI),.ls (bys.map eT),.ptr 0 0,.ptr 1 0,.ls ((ps.map Bc).map eP),iv (ps.length:Int),iv (i:Int)] [⟨[.ls xs,bv x1,.ls x2],U,Ξ⟩,⟨eT acc.tm,U,Ξ⟩]
   = Δ (.tup [iv 0,.ptr 0 0,.ptr 1 0],[.set ⟨[.ls xs,bv x1,.ls x2],U,Ξ⟩,.set ⟨eT (Mq (GR vs bys) acc (ps.drop i)).tm,U,Ξ⟩]):=by
 intro m
 induction m with
 |zero=>
  intro i acc hm hi ha;rw[Atc (by omega)];refine Ax Kp Sn (ZT ..) ?_;exact At rfl
 |succ m ih=>
  intro i acc hm hi ha;have h1:i<ps.length:=by omega
  have hn1:∀ kk,Bh ((ps.map Bc).map eP) i kk=kk (eP (Bc ps[i])):=λkk=>AD (by rw[List.getElem?_map,δ h1];rfl) kk
  have hq:=hp ps[i] (Ats h1);rw[χ h1];generalize ps[i]=p at *;obtain⟨v,c⟩:=p;have eG:Mq (GR vs bys) acc ((v,c)::ps.drop (i+1))=Mq (GR vs bys) (acc.add ((GR vs bys v).scale c)) (ps.drop (i+1)):=rfl;rw[eG];have hs:=Vl (vs:=vs) hb v;have hsc:LB 20 38 ((GR vs bys v).scale c):=hs.scale hq;have had:=ha.add hsc;have ih:=ih (i+1) (acc.add ((GR vs bys v).scale c)) (by omega) (by omega) (had.mono (by omega) (by omega));have gi:=AaZ Kp vs v (by omega);have hlz:Lz 10 (AY c):=hq.lz;have gad:=AkQ Kt Kf Ks Z C (ha.tb.mono (η _) (show 100+1000*i<=100+1000*i+100 by omega)) (hsc.tb.mono (η _) (show 38<=100+1000*i+100 by omega)) (by omega) (by omega);rw[Ey,Ey]at gad;have gsc:∀ t:Tm,TmB 20 8 t->D.ask (.fn 148) [.agg (eT t),.agg (eZ (AY c))] []=Δ (.agg (eT (t.lf.scale c).tm),[]):=λt ht=>by
   have:=Ack Kt Kf Ks Z C ht hlz (by have:=hlz.len;omega) (by omega) (by omega) (by omega)
   rwa [BY]at this
  have gv:=Anc Kt Ks Z C Kp v;have gscv:=gsc (G0 v).tm (KA v).tb;rw[Ey]at gscv;refine Ax Kp Sn (ZT ..) ?_;refine Au ?_;rw[AC,hn1];simp only[eP,eT,eN,eZ,Bc,Ai]at gad gscv gv gi ih ⊢;refine Ab gi ?_;simp only[Ai]
  by_cases hx:Dd v vs<vs.length
  .rw[Ac hx]
   refine At ?_;rw[Ao]
   cases hg:bys[Dd v vs]? with
   |none=>
    have es:GR vs bys v=G0 v:=by unfold GR;rw[Ac hx,hg]
    rw[es]at gad ih ⊢;have:=List.getElem?_eq_none_iff.1 hg;have gsc:=gscv;refine Cz ?_;refine Ab gv ?_;simp only[Ai];refine Ab gsc ?_;simp only[Ai];refine Ab gad ?_;simp only[Ai];rw[BE (by omega)];refine Ab ih ?_;rfl
   |some t=>
    have es:GR vs bys v=t.lf:=by unfold GR;rw[Ac hx,hg]
    rw[es]at gad ih ⊢;obtain⟨hlt,_⟩:=List.getElem?_eq_some_iff.1 hg;have ht:=hb t (Atx hg);have gsc:=gsc t ht;refine CQ ?_;rw[AC,AD hg];simp only[eT,eN,Ai]at gsc ⊢;refine Ab gsc ?_;simp only[Ai];refine Ab gad ?_;simp only[Ai];rw[BE (by omega)];refine Ab ih ?_;rfl
  .have es:GR vs bys v=G0 v:=by unfold GR;rw[Ad hx]
   rw[es]at gad ih ⊢;have gsc:=gscv;rw[Ad hx];refine Au ?_;refine Ab gv ?_;simp only[Ai];refine Ab gsc ?_;simp only[Ai];refine Ab gad ?_;simp only[Ai];rw[BE (by omega)];refine Ab ih ?_;rfl
theorem X6(vs:List Int)(bys:List Tm)(hvs:vs.length<=1000)(hbl:bys.length<=1000)(hb:∀ t∈bys,TmB 20 8 t){t:Tm}(ht:TmB 20 9 t):D.ask (.fn 132) [.agg (eT t),.ls (vs.map eI),.ls (bys.map eT)] []=Δ (.agg (eT (K9 (GR vs bys) t.lf).tm),[]):=by
 have g1:=XX Kt Kf Z (z:=t.k) (ht.k.mono (by omega));have g2:=Hs Kt Ks Z C ht (by omega) (by omega);have hl:(Bu t.lf.ps).length<=20:=ht.lb.pln.len;have g3:=X5 Kt Kf Ks Z C Kp vs bys hvs hbl hb [] Ξ [] (Bu t.lf.ps) hl (Gx ht.lb (by omega)) _ 0 (Lf.num (zv t.k)) rfl (by omega) ⟨AtI _,(λp hp=>nomatch hp),ht.k.inb.mono (by omega)⟩;rw[ι]at g3;obtain⟨ps,kz⟩:=t;have e1:(Tm.lf ⟨ps,kz⟩).pln.tm.ps=(Bu (Tm.lf ⟨ps,kz⟩).ps).map Bc:=rfl;have e2:K9 (GR vs bys) (Tm.lf ⟨ps,kz⟩)=Mq (GR vs bys) (Lf.num (zv kz)) (Bu (Tm.lf ⟨ps,kz⟩).ps):=rfl;rw[e2];refine Az Kp Sn (Aqq ..) ?_;simp only[eT,eN,eZ,e1]at g1 g2 g3 ⊢;refine Ab g1 ?_;simp only[Ai];refine Ab g2 ?_;simp only[Ai];rw[Ao,Atm];refine Ab g3 ?_;rfl
theorem QT(vs:List Int)(bys:List Tm)(hvs:vs.length<=1000)(hbl:bys.length<=1000)(hb:∀ t∈bys,TmB 20 8 t){t:Tm}(ht:TmB 20 9 t)(e:Bool):D.ask (.fn 59) [.agg (Hb (t,e)),.ls (vs.map eI),.ls (bys.map eT)] []=Δ (.agg (Hb ((K9 (GR vs bys) t.lf).tm,e)),[]):=by
 have g:=X6 Kt Kf Ks Z C Kp vs bys hvs hbl hb ht;obtain⟨ps,kz⟩:=t;refine Az Kp AoB (e59 ..) ?_;refine Ab g ?_;rfl
end
section
variable {D:Orc} (Kc:Knows Aq AcJ D)
include Kc
theorem Uc(ks:List Fm)(hl:ks.length<=1000000)(g:∀ x∈ks,D.ask (.fn 107) [.agg (eF x)] []=Δ (.agg (eF (As x)),[])):∀(m i:Nat) (out:List Fm),ks.length-i=m->i<=ks.length->out.length<=i->
  D.ask (.lp 165 0) [.sl 0 0 out.length 6,.ls (ks.map eF),iv (ks.length:Int),iv (i:Int)] [Ψ (Aj eF out) U U]=Δ (.tup [iv 0,.sl 1 0 (out++(ks.drop i).map As).length 6],[.del,.set (Ψ (Aj eF (out++(ks.drop i).map As)) U U)]):=by
 intro m
 induction m with
 |zero=>
  intro i out hm hi ho;rw[Atc (by omega),AtO,AtY];refine Ax Kc Nz (VX ..) ?_;exact At rfl
 |succ m ih=>
  intro i out hm hi ho;have h1:i<ks.length:=by omega
  have gx:=g ks[i] (Ats h1);rw[χ h1,Atu];have ih:=ih (i+1) (out++[As ks[i]]) (by omega) (by omega) (by simp;omega);rw[Atp,AtU,show (out++[As ks[i]]).length=out.length+1 by simp]at ih;have hf:Bo (out.length+1) 96=U:=AZ (by omega) (by omega);have hb1:Atl (0+out.length*6) (Aj eF out).length=U:=AQ BJ out (by omega);have e3:Atg 0 (ε (0+out.length*6) (Aj eF out))++eF (As ks[i])=Aj eF (out++[As ks[i]]):=by
   rw[ι,Br BJ out (by omega)];exact Bl eF out _
  refine Ax Kc Nz (VX ..) ?_;refine Au ?_;rw[AC,AD (δ h1)];revert gx ih e3;generalize As ks[i]=y;generalize ks[i]=x;obtain⟨xk,xt,xe,xs⟩:=x;obtain⟨yk,yt,ye,ys⟩:=y;intro gx ih e3;simp only[eF,eN,Ai]at gx e3 ⊢;refine Ab gx ?_;simp only[Ai];rw[hf];refine Af ?_;rw[hb1];refine Af ?_;rw[e3,BE (by omega)];refine Ab ih ?_;rfl
theorem Na{ks:List Fm}(hl:ks.length<=1000000)(g:∀ x∈ks,D.ask (.fn 107) [.agg (eF x)] []=Δ (.agg (eF (As x)),[])):D.ask (.fn 165) [.ls (ks.map eF)] []=Δ (.sl 0 0 (ks.map As).length 6,[.set (Ψ (Aj eF (ks.map As)) U U)]):=by
 have gl:=Uc Kc ks hl g _ 0 [] rfl (by omega) (by simp);rw[ι,Atw]at gl;refine Az Kc Nz (Aoa ..) ?_;rw[Ao];refine Ab gl ?_;rfl
end
def NP(kd:Int)(n:Nat):Aa:=[iv kd,.v (.slice Θ 0 0),bv Ξ,.v (.slice Θ 0 0),bv Ξ,.sl 0 0 n 6]
section
variable {D:Orc} (Kk:Knows Aq AcK D)
include Kk
theorem Pb{kd:Int}{t:Tm}{e:Bool}{ks:List Fm}(h:kd=3\/kd=4\/kd=5)(hk:D.ask (.fn 166) [.agg (eF (.mk kd t e ks))] []=Δ (.ls ((Bq (.mk kd t e ks)).map eF),[]))(L:List Fm)
  (hc:D.ask (.fn 165) [.ls ((Bq (.mk kd t e ks)).map eF)] []=Δ (.sl 0 0 L.length 6,[.set (Ψ (Aj eF L) U U)])) :
  D.ask (.fn 107) [.agg (eF (.mk kd t e ks))] []=Δ (.agg (NP kd L.length),[.set (Ψ (Aj eF L) U U)]):=by
 rw[eF];refine Az Kk UK (Ai3 ..) ?_;rcases h with rfl|rfl|rfl
 .refine(BA (by decide)).trans ((BA (by decide)).trans ((CO rfl).trans ?_))
  rw[eF]at hk;refine Ab hk ?_;simp only[Ai];refine Ab hc ?_;rfl
 .refine(BA (by decide)).trans ((BA (by decide)).trans ((BA (by decide)).trans ((CO rfl).trans ?_)))
  rw[eF]at hk;refine Ab hk ?_;simp only[Ai];refine Ab hc ?_;rfl
 .refine(BA (by decide)).trans ((BA (by decide)).trans ((BA (by decide)).trans ((BA (by decide)).trans ((CO rfl).trans ?_))))
  rw[eF]at hk;refine Ab hk ?_;simp only[Ai];refine Ab hc ?_;rfl
theorem Pa{kd:Int}{t:Tm}{e:Bool}{ks:List Fm}(h3:kd≠3)(h4:kd≠4)(h5:kd≠5)(gt:∀ b,D.ask (.fn 95) [bv b] []=Δ (.agg (eF (C9 b)),[]))
  (ga:kd=2->D.ask (.fn 98) [.agg (Hb (t,e))] []=Δ (.agg (eF (B8 t.lf.pln e)),[])) :
  D.ask (.fn 107) [.agg (eF (.mk kd t e ks))] []=Δ (.agg (eF (As (.mk kd t e ks))),[]):=by
 rw[eF,As];refine Az Kk UK (Ai3 ..) ?_
 by_cases h0:kd=0
 .rw[Ac h0]
  exact(CO h0).trans ((CN (gt U) _).trans rfl)
 rw[Ad h0];refine AO ?_ h0
 by_cases h2:kd=2
 .rw[Ac h2]
  exact(CO h2).trans ((CN (ga h2) _).trans rfl)
 rw[Ad h2,Ad h3,Ad (by omega)];exact(BA h2).trans ((BA h3).trans ((BA h4).trans ((BA h5).trans ((CN (gt Ξ) _).trans rfl))))
end
theorem DC(k:KR):P1 (.slice Θ 0 0) (.v (.slice Θ 0 0)) k=k:=rfl
section
variable {D:Orc} (Ke:Knows Aq Ma D) (V W:Rw)
include Ke
def GN:AV:=.fn (.func 113) [] [.ptr 0 0,.ptr 1 0]
theorem AhS{t u:Tm}{e:Bool}(g:D.ask (.fn 59) [.agg (Hb (t,e)),.ls V,.ls W] []=Δ (.agg (Hb (u,e)),[])):D.ask (.fn 113) [.agg (Hb (t,e)),.ptr 0 0,.ptr 1 0] [bk [.ls V],bk [.ls W]]=Δ (.agg (Hb (u,e)),[.keep,.keep]):=by
 obtain⟨ps,kz⟩:=t;obtain⟨qs,jz⟩:=u;refine Az Ke AaI (An3 ..) ?_;refine Ab g ?_;rfl
def JS:ABlk:=bk [iv 0,.v (.slice Θ 0 0),bv Ξ,.v (.slice Θ 0 0),bv Ξ,.v (.slice Θ 0 0)]
theorem AdL(kd:Int)(F:Fm->Fm)(L:List Fm)(hl:L.length<=1000000)(g:∀ x∈L,D.ask (.fn 112) [.agg (eF x),GN] [bk [.ls V],bk [.ls W]]=Δ (.agg (eF (F x)),[.keep,.keep])):∀(m i:Nat) (R:List Fm),L.length-i=m->i<=L.length->R.length=i->
  D.ask (.lp 112 0) [GN,.ptr 2 0,.ptr 3 0,.sl 4 0 L.length 6,iv (L.length:Int),iv (i:Int)] [bk [.ls V],bk [.ls W],JS,bk [iv kd,.v (.slice Θ 0 0),bv Ξ,.v (.slice Θ 0 0),bv Ξ,.sl 4 0 L.length 6],Ψ (Aj eF (R++L.drop i)) U U]
   = Δ (.tup [iv 0,.ptr 2 0,.ptr 3 0],[.keep,.keep,.set JS,.set (bk [iv kd,.v (.slice Θ 0 0),bv Ξ,.v (.slice Θ 0 0),bv Ξ,.sl 5 0 L.length 6]),.del,.set (Ψ (Aj eF (R++(L.drop i).map F)) U U)]):=by
 intro m
 induction m with
 |zero=>
  intro i R hm hi hR;rw[Atc (by omega),AtO];refine Ax Ke JE (RX ..) ?_;exact At rfl
 |succ m ih=>
  intro i R hm hi hR;have h1:i<L.length:=by omega
  have gx:=g L[i] (Ats h1);have ed:L.drop i=L[i]::L.drop (i+1):=χ h1;have ih:=ih (i+1) (R++[F L[i]]) (by omega) (by omega) (by simp;omega);rw[Atp,AtU,Atp,AtU]at ih;have hlt:i<(R++L.drop i).length:=by rw[ed];simp;omega
  have hget:(R++L.drop i)[i]=L[i]:=by
   rw[AuV (by omega)];simp[hR]
  have hset:(R++L.drop i).set i (F L[i])=R++F L[i]::L.drop (i+1):=by
   rw[List.set_append_right _ _ (by omega),ed,hR,Nat.sub_self];rfl
  have rd:=λk=>By BJ (R++L.drop i) i hlt k
  have sp:=BX BJ (R++L.drop i) i hlt (F L[i]);rw[hget]at rd;rw[hset]at sp;have hble:Atl (0+i*6+6) (Aj eF (R++L.drop i)).length=U:=by rw[AR BJ];simp;omega
  refine Ax Ke JE (RX ..) ?_;refine Au ?_;rw[AC,AJ h1];refine Af ?_;refine(rd _).trans ?_;have e2:(L.drop i).map F=F L[i]::(L.drop (i+1)).map F:=by rw[ed];rfl
  rw[e2];generalize F L[i]=y at *;generalize L[i]=x at *;obtain⟨xk,xt,xe,xs⟩:=x;obtain⟨yk,yt,ye,ys⟩:=y;simp only[eF,eN,Ai]at gx sp ⊢;refine Ab gx ?_;simp only[Ai];rw[AC,AJ h1];refine Af ?_;rw[hble];refine Af ?_;rw[sp,BE (by omega)];refine Ab ih ?_;rfl
theorem Xr{kd:Int}{t:Tm}{e:Bool}{ks:List Fm}(h2:kd≠2)(F:Fm->Fm)(L:List Fm)(hl:L.length<=1000000)(hc:D.ask (.fn 107) [.agg (eF (.mk kd t e ks))] []=Δ (.agg (NP kd L.length),[.set (Ψ (Aj eF L) U U)]))
  (g:∀ x∈L,D.ask (.fn 112) [.agg (eF x),GN] [bk [.ls V],bk [.ls W]]=Δ (.agg (eF (F x)),[.keep,.keep])) :
  D.ask (.fn 112) [.agg (eF (.mk kd t e ks)),GN] [bk [.ls V],bk [.ls W]]=Δ (.agg (eF (kF kd (L.map F))),[.keep,.keep]):=by
 have gl:=AdL Ke V W kd F L hl g _ 0 [] rfl (by omega) rfl;rw[ι,Atw,Atw]at gl;have hbl:Atl (0+L.length*6) (Aj eF (L.map F)).length=U:=AQ BJ (L.map F) (by simp);have hch:Bk L.length 6 ((Aj eF (L.map F)).take (L.length*6))=(L.map F).map eF:=BF BJ (L.map F) (by simp);rw[eF]at hc ⊢;refine Az Ke JE (Ak9 ..) ?_;refine Ab hc ?_;simp only[Ai];refine AO ?_ h2;refine Ab gl ?_;simp only[JS,bk,DC,Ai];rw[hbl];refine Af ?_;rw[hch];unfold kF;rw[eF,BI];rfl
theorem Aam{x:Fm}{b:Bool}(hc:D.ask (.fn 107) [.agg (eF x)] []=Δ (.agg (eF (C9 b)),[])):D.ask (.fn 112) [.agg (eF x),GN] [bk [.ls V],bk [.ls W]]=Δ (.agg (eF (C9 b)),[.keep,.keep]):=by
 have gl:∀(k0:Int) (k1:Rw) (k2:Bool) (k3:Rw) (k4:Bool),D.ask (.lp 112 0) [GN,.ptr 2 0,.ptr 3 0,.ls [],iv 0,iv 0] [bk [.ls V],bk [.ls W],JS,bk [iv k0,.ls k1,bv k2,.ls k3,bv k4,.ls []]]=Δ (.tup [iv 0,.ptr 2 0,.ptr 3 0],[.keep,.keep,.set JS,.set (bk [iv k0,.ls k1,bv k2,.ls k3,bv k4,.ls []])]):=λk0 k1 k2 k3 k4=>
  Ke.lp' Gp _ rfl (by kernel_rfl) ((RY ..).trans ((DO (by decide)).trans rfl))
 obtain⟨xk,xt,xe,xs⟩:=x
 cases b with
 |true=>
  unfold C9 kF Zd at hc ⊢;simp only[eF,TS,eN,AtO,if_true]at hc ⊢;refine Az Ke Gp (Ug ..) ?_;refine Ab hc ?_;simp only[Ai];exact(BA (by decide)).trans ((CN (gl ..) _).trans rfl)
 |false=>
  unfold C9 kF Zd at hc ⊢;simp only[eF,TS,eN,AtO]at hc ⊢;refine Az Ke Gp (Ug ..) ?_;refine Ab hc ?_;simp only[Ai];exact(BA (by decide)).trans ((CN (gl ..) _).trans rfl)
theorem Xq{x:Fm}{l m:Lf}{e:Bool}(hc:D.ask (.fn 107) [.agg (eF x)] []=Δ (.agg (eF (B8 l e)),[]))
  (g:D.ask (.fn 59) [.agg (Hb (l.tm,e)),.ls V,.ls W] []=Δ (.agg (Hb (m.tm,e)),[])):D.ask (.fn 112) [.agg (eF x),GN] [bk [.ls V],bk [.ls W]]=Δ (.agg (eF (B8 m e)),[.keep,.keep]):=by
 have g1:=AhS Ke V W g;have gl:∀(k0:Int) (k1:Rw) (k2:Bool) (k3:Rw) (k4:Bool),D.ask (.lp 112 0) [GN,.ptr 2 0,.ptr 3 0,.ls [],iv 0,iv 0] [bk [.ls V],bk [.ls W],JS,bk [iv k0,.ls k1,bv k2,.ls k3,bv k4,.ls []]]=Δ (.tup [iv 0,.ptr 2 0,.ptr 3 0],[.keep,.keep,.set JS,.set (bk [iv k0,.ls k1,bv k2,.ls k3,bv k4,.ls []])]):=λk0 k1 k2 k3 k4=>
  Ke.lp' Gp _ rfl (by kernel_rfl) ((RY ..).trans ((DO (by decide)).trans rfl))
 obtain⟨xk,xt,xe,xs⟩:=x;unfold B8 at hc ⊢;simp only[eF,TS,eN]at hc ⊢;simp only[Hb,eT,eN,List.cons_append,Atw]at g1;refine Az Ke Gp (Ug ..) ?_;refine Ab hc ?_;simp only[Ai];refine Ba ?_ rfl;refine Ab g1 ?_;simp only[Ai];refine Ab (gl ..) ?_;rfl
theorem U7{x y:Fm}(g:D.ask (.fn 112) [.agg (eF x),GN] [bk [.ls V],bk [.ls W]]=Δ (.agg (eF y),[.keep,.keep])):D.ask (.fn 43) [.agg (eF x),.ls V,.ls W] []=Δ (.agg (eF y),[]):=by
 obtain⟨xk,xt,xe,xs⟩:=x;obtain⟨yk,yt,ye,ys⟩:=y;rw[eF]at g;rw[eF]at g ⊢;rw[eF];refine Az Ke AjQ (Aq8 ..) ?_;refine Ab g ?_;rfl
end
theorem CanFs.memP:∀{l:List Fm},CanFs l->∀ y∈l,CanF y
 |_,.nil,y,hy=>by cases hy
 |_,.cons h hr,y,hy=>by
  rcases Atd.1 hy with rfl|hy
  .exact h
  .exact CanFs.memP hr y hy
theorem CanF.kid{x:Fm}(h:CanF x):∀ y∈Bq x,CanF y:=by
 intro y hy
 cases h with
 |tru b=>cases b<;>cases hy
 |atom l e h=>cases hy
 |no x h=>
  have hy:y∈[x]:=hy;rw[AtX]at hy;rw[hy];exact h
 |and l h=>exact h.memP y hy
 |or l h=>exact h.memP y hy
 |no0=>cases hy
theorem FC.kid{n k:Nat}{x:Fm}(h:FC n k x):∀ y∈Bq x,FC n k y:=by
 cases h with
 |mk ht hl h=>exact h
theorem FC.num{n k:Nat}{x:Fm}(h:FC n k x):(Bq x).length<=1000000:=by
 cases h with
 |mk ht hl h=>exact hl
theorem DH(x:Fm):Bq (As x)=(Bq x).map As:=by
 obtain⟨k,t,e,ks⟩:=x;rw[As]
 by_cases h0:k=0
 .rw[Ac h0,Cc,Ad (by omega),Ad (by omega)]
  rfl
 rw[Ad h0]
 by_cases h2:k=2
 .rw[Ac h2,Cc,Ad (by omega),Ad (by omega)]
  rfl
 rw[Ad h2]
 by_cases h3:k=3
 .rw[Ac h3,Cc,Ad (by omega),Ac h3,CL]
  unfold kF;rw[Cc,Ad (by decide),Ac rfl,Auv (by rw[Atm,AtN];omega)]
 rw[Ad h3]
 by_cases h4:k=4\/k=5
 .rw[Ac h4,Cc,Ac h4,Cm]
  unfold kF;rw[Cc,Ac h4]
 rw[Ad h4,Cc,Ad h4,Ad h3];rfl
theorem Jz:∀(N:Nat) (x:Fm),SizeOf.sizeOf x<N->FC 20 8 x->FC 20 9 (As x):=by
 intro N
 induction N with
 |zero=>intro x h;omega
 |succ N ih=>
  intro x hN hx;have hk:∀ y∈Bq (As x),FC 20 9 y:=λy hy=>by
   rw[DH]at hy;obtain⟨z,hz,rfl⟩:=AtH.1 hy;refine ih z ?_ (hx.kid z hz);obtain⟨k,t,e,ks⟩:=x;have:=BW (k:=k) (t:=t) (e:=e) (CY hz);omega
  have hn:(Bq (As x)).length<=1000000:=by
   rw[DH,Atm];exact hx.num
  have ht:∀ k t e ks,As x=.mk k t e ks->k=2->TmB 20 9 t:=λk t e ks h h2=>by
   obtain⟨xk,xt,xe,xs⟩:=x;rw[As]at h
   by_cases g0:xk=0
   .rw[Ac g0]at h
    injection h with h
    rw[Ac rfl]at h;omega
   rw[Ad g0]at h
   by_cases g2:xk=2
   .rw[Ac g2]at h
    unfold B8 at h;injection h with _ h
    subst h;have b:TmB 20 8 xt:=by
     cases hx with
     |mk ht hl h=>exact ht g2
    exact LB.tb ⟨b.lb.pln.len,Gx b.lb (by omega),b.lb.k.mono (by omega)⟩
   rw[Ad g2]at h
   by_cases g3:xk=3
   .rw[Ac g3]at h
    injection h with h
    omega
   rw[Ad g3]at h
   by_cases g4:xk=4\/xk=5
   .rw[Ac g4]at h
    injection h with h
    omega
   rw[Ad g4]at h;injection h with h
   rw[Ad (by decide)]at h;omega
  generalize As x=c at *;obtain⟨k,t,e,ks⟩:=c;exact .mk (ht k t e ks rfl) hn hk
structure EachF (D:Orc) (V W:Rw) (s:Int->Lf):Prop where
 own:∀{kd:Int} {t:Tm} {e:Bool} {ks:List Fm},kd=3\/kd=4\/kd=5->FC 20 9 (.mk kd t e ks)->D.ask (.fn 107) [.agg (eF (.mk kd t e ks))] []=Δ (.agg (NP kd ((Bq (.mk kd t e ks)).map As).length),[.set (Ψ (Aj eF ((Bq (.mk kd t e ks)).map As)) U U)])
 oth:∀{kd:Int} {t:Tm} {e:Bool} {ks:List Fm},kd≠3->kd≠4->kd≠5->FC 20 9 (.mk kd t e ks)->D.ask (.fn 107) [.agg (eF (.mk kd t e ks))] []=Δ (.agg (eF (As (.mk kd t e ks))),[])
 put:∀{l:Lf} {e:Bool},TmB 20 9 l.tm->D.ask (.fn 59) [.agg (Hb (l.tm,e)),.ls V,.ls W] []=Δ (.agg (Hb ((K9 s l).tm,e)),[])
theorem AhU(s:Int->Lf){k:Int}(h:k≠2)(l:List Fm):Iu s (kF k l)=kF k (l.map (Iu s)):=by
 unfold kF;rw[Iu,Ad h,PN]
section
variable {D:Orc} (Ke:Knows Aq Ma D) (V W:Rw) (s:Int->Lf) (E:EachF D V W s)
include Ke E
theorem Pe{x:Fm}(h1:FC 20 9 x)(h2:FC 20 9 (As x))(g:∀ y∈(Bq x).map As,D.ask (.fn 112) [.agg (eF y),GN] [bk [.ls V],bk [.ls W]]=Δ (.agg (eF (Iu s y)),[.keep,.keep])) :
  D.ask (.fn 112) [.agg (eF x),GN] [bk [.ls V],bk [.ls W]]=Δ (.agg (eF (Iu s (As x))),[.keep,.keep]):=by
 have hn:=h1.num;obtain⟨k,t,e,ks⟩:=x
 by_cases h3:k=3\/k=4\/k=5
 .have k2:k≠2:=by omega
  have:=Xr Ke V W k2 (Iu s) _ (by rw[Atm];exact hn) (E.own h3 h1) g;have ec:As (.mk k t e ks)=kF k ((Bq (.mk k t e ks)).map As):=by
   rw[As,Ad (by omega),Ad k2,Cc]
   by_cases g3:k=3
   .rw[Ac g3,Ad (by omega),Ac g3,CL,g3]
   .rw[Ad g3,Ac (by omega),Ac (by omega),Cm]
  rw[ec,AhU s k2];exact this
 .have hc:=E.oth (by omega) (by omega) (by omega) h1
  by_cases k2:k=2
  .have ec:As (.mk k t e ks)=B8 t.lf.pln e:=by rw[As,Ad (by omega),Ac k2]
   rw[ec]at hc h2 ⊢;have b:TmB 20 9 t.lf.pln.tm:=by
    cases h2 with
    |mk ht hl h=>exact ht rfl
   have:=Xq Ke V W hc (E.put b);have ep:Iu s (B8 t.lf.pln e)=B8 (K9 s t.lf.pln) e:=by
    unfold B8;rw[Iu,Ac rfl,Ey,N9]
   rw[ep];exact this
  .obtain⟨b,ec⟩:∃ b,As (.mk k t e ks)=C9 b:=by
    rw[As]
    by_cases h0:k=0
    .exact⟨U,by rw[Ac h0]⟩
    .exact⟨Ξ,by rw[Ad h0,Ad k2,Ad (by omega),Ad (by omega)]⟩
   rw[ec]at hc ⊢;have ep:Iu s (C9 b)=C9 b:=by cases b<;>rfl
   rw[ep];exact Aam Ke V W hc
theorem Aal:∀(N:Nat) (c:Fm),SizeOf.sizeOf c<N->CanF c->FC 20 9 c->D.ask (.fn 112) [.agg (eF c),GN] [bk [.ls V],bk [.ls W]]=Δ (.agg (eF (Iu s c)),[.keep,.keep]):=by
 intro N
 induction N with
 |zero=>intro x h;omega
 |succ N ih=>
  intro c hN hc hf;have ec:=hc.clone;have:=Pe Ke V W s E hf (by rw[ec];exact hf) (λy hy=>by
   obtain⟨z,hz,rfl⟩:=AtH.1 hy;have cz:=hc.kid z hz;rw[cz.clone];refine ih z ?_ cz (hf.kid z hz);obtain⟨k,t,e,ks⟩:=c;have:=BW (k:=k) (t:=t) (e:=e) (CY hz);omega)
  rw[ec]at this;exact this
theorem AhT{x:Fm}(hx:FC 20 8 x)(hx9:FC 20 9 x):D.ask (.fn 43) [.agg (eF x),.ls V,.ls W] []=Δ (.agg (eF (Iu s (As x))),[]):=by
 have hc:=Jz _ x (AtT _) hx;refine U7 Ke V W (Pe Ke V W s E hx9 hc λy hy=>?_);obtain⟨z,hz,rfl⟩:=AtH.1 hy;exact Aal Ke V W s E _ _ (AtT _) (D3 z) (hc.kid _ (by rw[DH];exact hy))
end
theorem CanFs.mem:∀{l:List Fm},CanFs l->∀ x∈l,CanF x
 |_::_,.cons h hr,x,hx=>by
  rcases Atd.1 hx with rfl|hx
  .exact h
  .exact hr.mem x hx
theorem CanF.kids{x:Fm}(h:CanF x):∀ y∈x.kids,CanF y:=by
 cases h with
 |tru b=>intro y hy;cases b<;>cases hy
 |atom l e h=>intro y hy;cases hy
 |no x h=>intro y hy;rcases AtX.1 hy with rfl;exact h
 |and l h=>exact h.mem
 |or l h=>exact h.mem
 |no0=>intro y hy;cases hy
theorem CanF.head{x:Fm}(h:CanF x):(x.kind=2/\x.kids=[]/\∃ l:Lf,l.pln=l/\x.tm=l.tm)\/(x.kind≠2/\x.tm=Zd/\x.eq=Ξ):=by
 cases h with
 |tru b=>exact .inr ⟨by cases b<;>decide,rfl,rfl⟩
 |atom l e h=>exact .inl ⟨rfl,rfl,l,h,rfl⟩
 |no x h=>exact .inr ⟨by show (3:Int)≠2;decide,rfl,rfl⟩
 |and l h=>exact .inr ⟨by show (4:Int)≠2;decide,rfl,rfl⟩
 |or l h=>exact .inr ⟨by show (5:Int)≠2;decide,rfl,rfl⟩
 |no0=>exact .inr ⟨by show (3:Int)≠2;decide,rfl,rfl⟩
section
open Go.RowKit
variable (A:Ar) (D:Orc)
end

theorem FB.kids{n k:Nat}{x:Fm}(h:FB n k x):x.kids.length<=1000000/\(∀ y∈x.kids,FB n k y)/\TmB n k x.tm:=by
 cases h with
 |mk ht hl h=>exact⟨hl,h,ht⟩
noncomputable def Acu(M:Seat)(f:Nat)(mf:MFn):DF:=λargs bs=>Nn (Eu (fnM Ah (AB Ah M) M.own f mf)) args bs
theorem YM{P:Program}{ents:Nat}{M:Seat}(hM:SeatOk P ents M){f:Nat}{mf mf0:MFn}(h0:M.fns f=Δ mf0)(hf:FnOk P ents f mf)(hl:mf.loops=mf0.loops):A1 (Bi P f) (Acu M f mf):=by
 have hΓ:=Js (P:=P) M.own λf=>Cq hM f
 obtain⟨fn,c,hs,k1,k2,k3,k4,k5,k6,k7,k8⟩:=hf.ok;refine No (Ci P f) (Lh (Pn M.own hM.mixed hM.ent k1 k2 k3 k4 k5 k6 k7 hΓ λj c' q hj hq=>Gt ?_) λargs=>Loc.fnM _ _ _ _ _ _);obtain⟨live,q0,q1,_,_⟩:=C1 P ents hs c 0 j c' hj;rw[Ato]at q0;rw[q0 q hq]at q1;intro args bs r out h;obtain⟨n,hn⟩:=Ln h;exact(Fa hM n).2 f mf0 fn c h0 k1 k2 j c' q _ hj (by rw[←hl,k8];exact q1) args bs r out (hn n (η _))
theorem Tx{M:Seat}{f:Nat}{mf:MFn}{args:Aa}{bs:List ABlk}{r:AV × List BO}(Hn:Hnt)(s:Sc)(h:BZ Ah (AB Ah M) M.own Hn s f mf args bs=Δ r):Acu M f mf args bs=Δ r:=Aax s h
structure KnowsL (own:List (Nat × Nat)) (L:List (Nat × MFn)) (D:Orc):Prop where
 lp:∀(Hn:Hnt) (s:Sc) (f i:Nat) (mf:MFn) (q:LpH) (c:MC) (args:Aa) (bs:List ABlk) (r:AV × List BO),BG f L=Δ mf->mf.loops[i]? = Δ (q,c)->C2 Ah D own Hn s f i q c args bs=Δ r->D.ask (.lp f i) args bs=Δ r
theorem Knows.l{own:List (Nat × Nat)}{L:List (Nat × MFn)}{D:Orc}(K:Knows own L D):KnowsL own L D:=⟨K.lp⟩
theorem XK{own:List (Nat × Nat)}{L:List (List (Nat × MFn))}{X:List (Nat × DF)}(h:Da L=U){i:Nat}{T:List (Nat × MFn)}(hi:L[i]? = Δ T):KnowsL own T (AB Ah (CU own L.flatten X)) where
 lp Hn s f i mf q c args bs r h1 h2 h3:=Zp (M:=CU own L.flatten X) Hn s (Qu h hi h1) h2 h3
theorem KnowsL.lpL'{own:List (Nat × Nat)}{L:List (Nat × MFn)}{D:Orc}(K:KnowsL own L D)(Hn:Hnt)(s:Sc){f i:Nat}{mf:MFn}{args:Aa}{bs:List ABlk}{r:AV × List BO}(h1:BG f L=Δ mf)(h2:(mf.loops[i]?).isSome=U)(h:C2 Ah D own Hn s f i (AN mf i).1 (AN mf i).2 args bs=Δ r):D.ask (.lp f i) args bs=Δ r:=by
 obtain⟨⟨q,c⟩,e⟩:=Option.isSome_iff_exists.1 h2;refine K.lp Hn s f i mf q c args bs r h1 e ?_;unfold AN at h;rw[e]at h;exact h
