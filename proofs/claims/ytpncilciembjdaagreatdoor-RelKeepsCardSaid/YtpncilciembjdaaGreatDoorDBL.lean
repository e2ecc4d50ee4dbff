/- rel.Tidy as an answer of -/
import Derived.Test.YtpncilciembjdaaGreatDoorDBJ
import Derived.Test.YtpncilciembjdaaGreatDoorDBK
import Derived.Test.YtpncilciembjdaaGreatDoorDBB
set_option linter.all false
open Bool renaming false->Φ,true->Δ
open List renaming all_eq_true->ApY,findIdx_cons->ArW,flatMap_cons->ArX,getElem?_eq_some_iff->Ap0,getElem?_map->Aqt,length_map->Ap1,map->At3,map_append->As5,map_cons->Ap5,map_map->Art,map_nil->Ara,map_set->At4,mem_cons->ApT,mem_cons_of_mem->π,mem_cons_self->ι,mem_map->Aqm,mem_singleton->Aqp,pairwise_singleton->ArP
open Nat renaming beq->AqA,le_of_ble_eq_true->Are,le_refl->κ,le_trans->Aqs,zero_add->Ap6,zero_le->AqC
open Option renaming none->Ξ,some->Θ
namespace Go.Proofs.YtpncilciembjdaaGreatDoor
noncomputable section
open ABlk renaming mk->θ
open Tryz renaming prog->υ
open Go.RowKit
def KY:List AV->Option (List RlA)
 |[]=>Θ []
 |a::b::c::d::r=>(match rlO [a,b,c,d],KY r with
  |some p,Θ l=>Θ (p::l)
  |_,_=>Ξ)
 |_=>Ξ
theorem LV:∀{xs:List AV} {l:List RlA},KY xs=Θ l->xs=l.flatMap RlA.c
 |[],l,h=>by injection h with h;subst h;rfl
 |[_],l,h=>by cases h
 |[_,_],l,h=>by cases h
 |[_,_,_],l,h=>by cases h
 |a::b::c::d::r,l,h=>by
  unfold KY at h;split at h
  .rename_i p l' h1 h2
   injection h with h
   subst h;rw[ArX,←OM h1,←LV h2];rfl
  .cases h
section
variable (dq:Nat->DF)
def AdS(out:List RlA):Option (AV × List BO)->Option (List RlA)
 |some (.tup [],[.set ⟨y,Δ,Δ⟩])=>KY y
 |some (.tup [],[.keep])=>Θ out
 |_=>Ξ
theorem PJ{out:List RlA}{o:Option (AV × List BO)}{l:List RlA}(h:AdS out o=Θ l):∃ ob,o=Θ (.tup [],[ob])/\((ob=.keep/\l.flatMap RlA.c=out.flatMap RlA.c)\/ob=.set ⟨l.flatMap RlA.c,Δ,Δ⟩):=by
 unfold AdS at h;split at h
 .exact⟨_,rfl,.inr (by rw[LV h])⟩
 .injection h with h
  exact⟨_,rfl,.inl ⟨rfl,by rw[h]⟩⟩
 .cases h
def Aae:Option (AV × List BO)->Bool
 |some (.tup [],[])=>Δ
 |_=>Φ
theorem Yb{o:Option (AV × List BO)}(h:Aae o=Δ):o=Θ (.tup [],[]):=by
 unfold Aae at h;split at h
 .rfl
 .cases h
def Ut(out:List RlA):Option (List RlA):=match AdS out (dq 90 [.sl 0 0 out.length 4,.fn (.func 25) [] []] [⟨out.flatMap RlA.c,Δ,Δ⟩]),out with
 |some [],[]=>(match Aae (dq 90 [.v (.slice Ξ 0 0),.fn (.func 25) [] []] []) with
  |true=>Θ []
  |false=>Ξ)
 |some s,_::_=>(match AqA s.length out.length with
  |true=>Θ s
  |false=>Ξ)
 |_,_=>Ξ
theorem Wk{out s:List RlA}(h:Ut dq out=Θ s):s.length=out.length/\(∃ ob,dq 90 [.sl 0 0 out.length 4,.fn (.func 25) [] []] [⟨out.flatMap RlA.c,Δ,Δ⟩]=Θ (.tup [],[ob])/\((ob=.keep/\s.flatMap RlA.c=out.flatMap RlA.c)\/ob=.set ⟨s.flatMap RlA.c,Δ,Δ⟩)) ∧
  (out=[]->dq 90 [.v (.slice Ξ 0 0),.fn (.func 25) [] []] []=Θ (.tup [],[])):=by
 unfold Ut at h;split at h
 .rename_i h1
  split at h
  .rename_i h2
   injection h with h
   subst h;exact⟨rfl,PJ h1,λ_=>Yb h2⟩
  .cases h
 .rename_i h1
  split at h
  .rename_i h2
   injection h with h
   subst h;exact⟨Nat.eq_of_beq_eq_true h2,PJ h1,λh=>by cases h⟩
  .cases h
 .cases h
def XW(rs:List RlA):Option (Option (List RlA)):=match Nat.ble rs.length 10000,OO dq rs []with
 |true,Θ Ξ=>Θ Ξ
 |true,Θ (Θ ls)=>(match OP dq ls []with
  |some Ξ=>Θ Ξ
  |some (Θ out)=>(match Ut dq out with
   |some s=>Θ (Θ s)
   |none=>Ξ)
  |none=>Ξ)
 |_,_=>Ξ
def XX:Option (List RlA)->AV
 |some s=>.tup [.ls (s.map RlA.c),bv Δ]
 |none=>.tup [.ls [],bv Φ]
def AkU:List AV->Option (List RlA)
 |[.ls xs]=>R3 xs
 |[.v (.slice Ξ 0 0)]=>Θ []
 |_=>Ξ
def CJ(args:List AV):Option AV:=match AkU args with
 |some rs=>(match XW dq rs with
  |some o=>Θ (XX o)
  |none=>Ξ)
 |none=>Ξ
theorem R4[S:Side]{w:World}{a b:AV}{u v:Value}(h:Ro [] w a u)(k:Ro [] w b v):Ro [] w (.tup [a,b]) (.tuple #[u,v]):=by
 unfold Ro at h k ⊢;simp only[Rep,RepList];exact⟨_,rfl,_,_,rfl,h,_,_,rfl,k,rfl⟩
theorem Wc[S:Side]{own:List Nat}{w:World}:Ro own w (.ls []) (.slice Ξ 0 0):=by
 unfold Ro;simp only[Rep];exact⟨rfl,Ξ,0,rfl,κ _,AqC _,λh=>absurd rfl h⟩
theorem PW:∀(s:List RlA) (i j:Nat) (r:RlA),s[i]? = Θ r->j<4->(s.flatMap RlA.c)[i*4+j]? = r.c[j]?
 |[],i,j,r,h,_=>by simp at h
 |x::s,0,j,r,h,hj=>by
  simp at h;subst h;rw[ArX,Nat.zero_mul,Ap6,List.getElem?_append_left (show j<x.c.length from hj)]
 |x::s,i+1,j,r,h,hj=>by
  rw[ArX,List.getElem?_append_right (show x.c.length<=(i+1)*4+j from (by show 4<=_;omega)),←PW s i j r (by simpa using h) hj]
  congr 1
  show (i+1)*4+j-4=_
  omega
theorem AkR[S:Side]{own:List Nat}{w:World}{s:List RlA}{g cap:Nat}{T:TypeId}{cs:Array Value}(hb:Blk w g T cs)(hB:S.B<=g)(hs:Sd own w)(h1:cs.size=cap*4)(h2:s.length<=cap)(h3:cap<=maxLen)(h:RoL own w (s.flatMap RlA.c) (cs.toList.take (s.length*4))):Ro [] w (.ls (s.map RlA.c)) (.slice (Θ ⟨g,0,Ξ⟩) s.length cap):=by
 have hz:∀ o,¬ AcU g o:=by
  rintro o ⟨b,k,p,hk,hp,i,hi,rfl,rfl⟩;obtain⟨q,hq,B⟩:=hs.rep.blk b k hk;rw[hp]at hq;injection hq with hq
  subst hq;have:=S.low b k p hk hp (by
   rcases hi with h|h
   .have:=B.room;omega
   .omega)
  omega
 have hoff:∀ k o,CX own w k o->CX [] w k o:=λk o h=>⟨h.1,by simp,h.2.2⟩
 have h':RepList (λ_=>Ξ) (CX [] w) w (s.flatMap RlA.c) (cs.toList.take (s.length*4)):=RepList.later ⟨λ_ _ h=>h,λk o hk=>⟨hoff k o hk,rfl⟩⟩ _ _ h;unfold Ro;simp only[Rep];refine⟨?_,Θ ⟨g,0,Ξ⟩,cap,by rw[Ap1],by rw[Ap1];exact h2,h3,λ_=>⟨g,0,4,rfl,RepRows.mk λi x hx=>?_⟩⟩
 .unfold IU
  rw[ApY];intro x hx;obtain⟨r,_,rfl⟩:=Aqm.1 hx;rfl
 .rw[Aqt]at hx
  obtain⟨r,hr,rfl⟩:=Option.map_eq_some_iff.1 hx;have hi:=(Ap0.1 hr).1;refine⟨rfl,RepAt.mk λj y hy=>?_⟩;have hj:j<4:=(Ap0.1 hy).1;have e:(s.flatMap RlA.c)[i*4+j]? = Θ y:=by
   rw[←hy];exact PW s i j r hr hj
  obtain⟨u,k1,k2⟩:=h'.get e;have hl:i*4+j<s.length*4:=by omega
  rw[List.getElem?_take,if_pos hl,Array.getElem?_toList]at k1;refine⟨⟨hb.lt,by simp,hz _⟩,u,?_,k2⟩;rw[Ap6,hb.cell];exact k1
theorem ZD(G:∀ f,Bk (Bu υ f) (dq f)):Bk (Bu υ 33) (Ji (CJ dq)):=by
 refine VF _ λargs r hr=>?_
 unfold CJ at hr;split at hr
 .rename_i rs hrs
  split at hr
  .rename_i o ho
   injection hr with hr
   subst hr
   have key:∀(S:Side) (w:World) (A:Option Addr) (c:Nat),Sd [] w->Ro [] w (.ls (rs.map RlA.c)) (.slice A rs.length c)->Bu υ 33 [.slice A rs.length c] w λu w'=>∃ own',Xt [] own' w w'/\Ro [] w' (XX o) u:=λS w A c hs hro=>by
    unfold XW at ho;have none':∀ w' own',Xt [] own' w w'->(λu w'=>∃ own',Xt [] own' w w'/\Ro [] w' (XX Ξ) u) (.tuple #[.slice Ξ 0 0,.bool Φ]) w':=λw' own' hx=>⟨own',hx,R4 Wc (Ro.v rfl)⟩
    split at ho
    .rename_i hl h1
     injection ho with ho
     subst ho;exact O7 dq G rs (Are hl) Ξ (Fh dq h1) w A c hs hro Ξ _ (λ_=>none') (λls h=>by cases h) (λout h=>by cases h)
    .rename_i ls hl h1
     split at ho
     .rename_i h2
      injection ho with ho
      subst ho;exact O7 dq G rs (Are hl) (Θ ls) (Fh dq h1) w A c hs hro Ξ _ (λ_=>none') (λls' h=>by injection h with h;subst h;exact GN dq h2) (λout h=>by cases h)
     .rename_i out h2
      split at ho
      .rename_i s h3
       injection ho with ho
       subst ho;obtain⟨s1,s2,s3⟩:=Wk dq h3;refine O7 dq G rs (Are hl) (Θ ls) (Fh dq h1) w A c hs hro (Θ out) _ (λh=>?_) (λls' h=>by injection h with h;subst h;exact GN dq h2) (λout' h=>?_)
       .rcases h with h|h<;>cases h
       .injection h with h
        subst h;refine⟨s,s1,s2,λh0=>⟨s3 h0,λw' own' hx=>⟨own',hx,?_⟩⟩,λw' own' g cap cs' hx hg hb h1 h2 h3 h4=>⟨own',hx,?_⟩⟩
        .subst h0
         obtain rfl:s=[]:=List.eq_nil_of_length_eq_zero s1;exact R4 Wc (Ro.v rfl)
        .rw[←s1]at h2 h4 ⊢
         exact R4 (AkR hb (Aqs hs.base hg) (hx.side hs) h1 h2 h3 h4) (Ro.v rfl)
      .cases ho
     .cases ho
    .cases ho
   unfold AkU at hrs;split at hrs
   .rename_i xs
    refine⟨rfl,λS w us hs hro=>?_⟩;obtain⟨u,t,rfl,hu,ht⟩:=RoL.cons_inv hro;obtain rfl:=RoL.nil_inv ht;obtain⟨A,c,rfl⟩:=Rp.ls_inv hu.rp;obtain rfl:=Ly hrs;have:=key S w A c hs (by rw[Ap1]at hu;exact hu);rw[Ap1];exact this
   .injection hrs with hrs
    subst hrs;refine⟨rfl,λS w us hs hro=>?_⟩;obtain⟨u,t,rfl,hu,ht⟩:=RoL.cons_inv hro;obtain rfl:=RoL.nil_inv ht;unfold Ro at hu;simp only[Rep]at hu;obtain⟨rfl,_⟩:=hu;exact key S w Ξ 0 hs Wc
   .cases hrs
  .cases hr
 .cases hr
end
def P9(p:List (Int × Int))(x:Ln):Bool:=decide (x.ps=p)
def JV(p:List (Int × Int))(ls:List Ln):List Ln:=if ls.findIdx (P9 p)<ls.length then ls else ls++[⟨p,Ξ,Ξ⟩]
theorem Ams{p:List (Int × Int)}{x:Ln}(h:x.ps=p):P9 p x=Δ:=decide_eq_true h
theorem Amr{p:List (Int × Int)}{x:Ln}(h:¬ x.ps=p):P9 p x=Φ:=decide_eq_false h
theorem VB(p:List (Int × Int)):∀ ls:List Ln,∃ x0,(JV p ls)[ls.findIdx (P9 p)]? = Θ x0/\x0.ps=p/\(x0∈ls\/x0=⟨p,Ξ,Ξ⟩)/\∀ f,(JV p ls).set (ls.findIdx (P9 p)) (f x0)=G5 p f ls
 |[]=>⟨⟨p,Ξ,Ξ⟩,rfl,rfl,.inr rfl,λf=>rfl⟩
 |x::r=>by
  obtain⟨x0,h1,h2,h3,h4⟩:=VB p r
  by_cases h:x.ps=p
  .have e:(x::r).findIdx (P9 p)=0:=by rw[ArW,Ams h];rfl
   have ef:JV p (x::r)=x::r:=by unfold JV;rw[e,if_pos (by simp)]
   refine⟨x,by rw[e,ef];rfl,h,.inl (ι ..),λf=>?_⟩;rw[e,ef,G5,if_pos h];rfl
  .have e:(x::r).findIdx (P9 p)=r.findIdx (P9 p)+1:=by rw[ArW,Amr h];rfl
   have ef:JV p (x::r)=x::JV p r:=by
    unfold JV;rw[e,List.length_cons]
    by_cases hl:r.findIdx (P9 p)<r.length
    .rw[if_pos hl,if_pos (by omega)]
    .rw[if_neg hl,if_neg (by omega)]
     rfl
   refine⟨x0,by rw[e,ef,List.getElem?_cons_succ];exact h1,h2,h3.imp (π _) id,λf=>?_⟩;rw[e,ef,G5,if_neg h,List.set_cons_succ,h4]
theorem Sy(p:List (Int × Int))(f:Ln->Ln){P:Ln->Prop}(hf:∀ x,x.ps=p->P x->P (f x))(hn:P (f ⟨p,Ξ,Ξ⟩)):∀ ls:List Ln,(∀ x∈ls,P x)->∀ y∈G5 p f ls,P y
 |[],_,y,hy=>by
  rw[G5,Aqp]at hy;rw[hy];exact hn
 |x::r,h,y,hy=>by
  unfold G5 at hy;split at hy
  .rename_i hx
   rcases ApT.1 hy with rfl|hy
   .exact hf x hx (h x (ι ..))
   .exact h y (π _ hy)
  .rcases ApT.1 hy with rfl|hy
   .exact h _ (ι ..)
   .exact Sy p f hf hn r (λz hz=>h z (π _ hz)) y hy
theorem FI(k:Nat):OB k Ξ:=λ_ h=>nomatch h
theorem Am7{k:Nat}{o:Option Int}{n:Int}(h:OB k o)(hn:InB k n):OB k (Px o n):=λm hm=>by
 unfold Px at hm
 cases o with
 |none=>injection hm with hm;rw[←hm];exact hn
 |some x=>
  simp only at hm;split at hm
  .injection hm with hm;rw[←hm];exact hn
  .exact h m hm
theorem Am6{k:Nat}{o:Option Int}{n:Int}(h:OB k o)(hn:InB k n):OB k (mnO o n):=λm hm=>by
 unfold mnO at hm
 cases o with
 |none=>injection hm with hm;rw[←hm];exact hn
 |some x=>
  simp only at hm;split at hm
  .injection hm with hm;rw[←hm];exact hn
  .exact h m hm
theorem LnB.low{n k:Nat}{x:Ln}{m:Int}(h:LnB n k x)(hm:InB k m):LnB n k (IJ m x):=⟨h.pln,h.lb,Am7 h.lo hm,h.hi⟩
theorem LnB.high{n k:Nat}{x:Ln}{m:Int}(h:LnB n k x)(hm:InB k m):LnB n k (FD m x):=⟨h.pln,h.lb,h.lo,Am6 h.hi hm⟩
theorem LB.negP{n k:Nat}{ps:List (Int × Int)}{a:Int}(h:LB n k ⟨ps,a⟩):LB n k ⟨negP ps,a⟩:=⟨by show (At3 _ _).length<=n;rw[Ap1];exact h.len,λp hp=>by
 obtain⟨q,hq,rfl⟩:=Aqm.1 hp;exact(h.ps q hq).neg,h.k⟩
theorem Agw{n k:Nat}{ls:List Ln}{r:RL}(hls:∀ x∈ls,LnB n k x)(hp:Pln r.1.ps)(hb:LB n k r.1):∀ x∈EF ls r,LnB n k x:=by
 have h0:LB n k ⟨r.1.ps,0⟩:=⟨hb.len,hb.ps,InB.zero k⟩;unfold EF;split
 .refine Sy _ _ (P:=LnB n k) (λx _ hx=>?_) ?_ ls hls
  .split
   .exact(hx.low hb.k.neg).high hb.k.neg
   .exact hx.low hb.k.neg
  .have hx:LnB n k ⟨r.1.ps,Ξ,Ξ⟩:=⟨hp,h0,FI k,FI k⟩
   split
   .exact(hx.low hb.k.neg).high hb.k.neg
   .exact hx.low hb.k.neg
 .exact Sy _ _ (P:=LnB n k) (λx _ hx=>hx.high hb.k) ((⟨DU hp,h0.negP,FI k,FI k⟩:LnB n k ⟨negP r.1.ps,Ξ,Ξ⟩).high hb.k) ls hls
def IK(r:RL):RlA:=⟨r.1.tm.ps.map eP,(Ap r.1.k).neg,(Ap r.1.k).abs.map eL,r.2⟩
theorem Al5(x:Ln):(D4 x).take 3=eT (Lf.tm ⟨x.ps,0⟩):=rfl
theorem Ad9(p:List (Int × Int)):eT (Lf.tm ⟨p,0⟩)++D6=D4 ⟨p,Ξ,Ξ⟩:=by
 unfold D4 eO;simp only[Option.getD_none,WA];rfl
def ED(D:Orc):Nat->DF:=λf a b=>D.ask (.fn f) a b
section
variable {D:Orc} (Kt:Knows Av Fj D) (Kf:Knows Av KF D) (Ks:Knows Av DY D) (Z:ZF D) (C:PartF D) (Kl:Knows Av KE D) (Kd:Knows Av QA D)
include Kt Kf Ks Z C Kl Kd
theorem Ann{n k:Nat}(hn:n<=100000)(hk:k<=1000000){p:List (Int × Int)}(hp:Pln p)(hb:LB n k ⟨p,0⟩){x:Ln}(hx:LnB n k x):D.ask (.fn 213) [.agg ((D4 x).take 3),.agg (eT (Lf.tm ⟨p,0⟩))] []=Θ (bv (P9 p x),[]):=by
 rw[Al5,Acp Kt Kf Ks Z C Kl Kd hx.lb.tb hb.tb (by omega) (by omega),BS,BS,RW hx.pln,RW hp];unfold P9
 by_cases h:x.ps=p
 .rw[decide_eq_true h,decide_eq_true (KZ.2 (by rw[h]))]
 .rw[decide_eq_false h,decide_eq_false (λe=>h (congrArg Lf.ps (KZ.1 e)))]
theorem W0{n k:Nat}(hn:n<=100000)(hk:k<=1000000){p:List (Int × Int)}(hp:Pln p)(hb:LB n k ⟨p,0⟩){ls:List Ln}(hls:∀ x∈ls,LnB n k x) :
  Zv (ED D) (eT (Lf.tm ⟨p,0⟩)) (ls.map D4)=Δ/\(ls.map D4).findIdx (Qt (ED D) (eT (Lf.tm ⟨p,0⟩)))=ls.findIdx (P9 p)/\D5 (Qt (ED D) (eT (Lf.tm ⟨p,0⟩))) (ls.map D4) (eT (Lf.tm ⟨p,0⟩)++D6)=(JV p ls).map D4:=by
 have e:∀ x∈ls,ED D 213 [.agg ((D4 x).take 3),.agg (eT (Lf.tm ⟨p,0⟩))] []=Θ (bv (P9 p x),[]):=λx hx=>Ann Kt Kf Ks Z C Kl Kd hn hk hp hb (hls x hx)
 have e2:∀ x∈ls,Qt (ED D) (eT (Lf.tm ⟨p,0⟩)) (D4 x)=P9 p x:=λx hx=>by
  unfold Qt;rw[e x hx];rfl
 have e3:(ls.map D4).findIdx (Qt (ED D) (eT (Lf.tm ⟨p,0⟩)))=ls.findIdx (P9 p):=by
  clear hls e
  induction ls with
  |nil=>rfl
  |cons x r ih=>
   rw[Ap5,ArW,ArW,e2 x (ι ..),ih λy hy=>e2 y (π _ hy)]
 refine⟨?_,e3,?_⟩
 .unfold Zv
  rw[ApY];intro z hz;obtain⟨x,hx,rfl⟩:=Aqm.1 hz;rw[e x hx];rfl
 .unfold D5 JV
  rw[e3,Ap1,Ad9];split
  .rfl
  .rw[As5]
   rfl
theorem Od{y:Ln}:Qc (Θ (.tup [],[.set (bk (D4 y))]))=Θ (D4 y):=by
 rfl
theorem Acb{n k:Nat}(hn:n<=100000)(hk:k<=1000000){ls:List Ln}(hls:∀ x∈ls,LnB n k x){r:RL}(hr:TgR r)(hb:LB n k r.1):TZ (ED D) (ls.map D4) (IK r)=Θ ((EF ls r).map D4):=by
 have gN:ED D 125 [.agg (eZ (Ap r.1.k))] []=Θ (.agg (eT (Lf.num r.1.k).tm),[]):=by
  have:=Qm Kt Kf Z (hb.k.lz.mono (show k<=1000000000 by omega));rw[AU]at this;exact this
 have gS:ED D 127 [.agg (eT r.1.tm),.agg (eT (Lf.num r.1.k).tm)] []=Θ (.agg (eT (Lf.tm ⟨r.1.ps,0⟩)),[]):=by
  have g:=Wn Kt Kf Ks Z C hb.tb (V0 hb.k) (by omega) (by omega);rw[BS,BS,show r.1.sub (Lf.num r.1.k)=⟨r.1.ps,r.1.k-r.1.k⟩ from XP hr.pln _ _,Int.sub_self]at g;exact g
 have h0:LB n k ⟨r.1.ps,0⟩:=⟨hb.len,hb.ps,InB.zero k⟩;have gM:ED D 68 [.agg (eT (Lf.tm ⟨r.1.ps,0⟩))] []=Θ (.agg (eT (Lf.tm ⟨negP r.1.ps,0⟩)),[]):=by
  have g:=VW Kt Kf Ks Z C h0.tb (by omega) (by omega);rw[BS,IF (l:=⟨r.1.ps,0⟩) hr.pln,show -(0:Int)=0 from rfl]at g;exact g
 have gG:ED D 161 [.agg (eZ (Ap r.1.k))] []=Θ (.agg (eZ (Ap (-r.1.k))),[]):=by
  have:=Z.neg (Ap r.1.k) (hb.k.lz.mono (by omega));rw[AU]at this;exact this
 have gF:=W0 Kt Kf Ks Z C Kl Kd hn hk hr.pln h0 hls;have gF':=W0 Kt Kf Ks Z C Kl Kd hn hk (DU hr.pln) h0.negP hls;obtain⟨q,rest,hq⟩:∃ q rest,r.1.ps=q::rest:=by
  cases h:r.1.ps with
  |nil=>exact absurd h hr.ne
  |cons q rest=>exact⟨q,rest,rfl⟩
 have gG2:ED D 64 [.agg (eZ (Ap q.2))] []=Θ (iv (Fs q.2),[]):=by
  have:=Z.sign (Ap q.2) ((hb.ps q (by rw[hq];exact ι ..)).lz.mono (by omega));rw[AU]at this;exact this
 have hd:IS r.1.ps=q.2:=by rw[hq];rfl
 obtain⟨x0,f1,f2,f3,f4⟩:=VB r.1.ps ls;obtain⟨y0,f1',f2',f3',f4'⟩:=VB (negP r.1.ps) ls;have bx0:LnB n k x0:=by
  rcases f3 with h|h
  .exact hls _ h
  .rw[h];exact⟨hr.pln,h0,FI k,FI k⟩
 have by0:LnB n k y0:=by
  rcases f3' with h|h
  .exact hls _ h
  .rw[h];exact⟨DU hr.pln,h0.negP,FI k,FI k⟩
 have gL:ED D 160 [.ptr 0 0,.agg (eZ (Ap (-r.1.k)))] [bk (D4 x0)]=Θ (.tup [],[.set (bk (D4 (IJ (-r.1.k) x0)))]):=AbT Z Kd (by omega) x0 hb.k.neg bx0.lo;have gH:ED D 162 [.ptr 0 0,.agg (eZ (Ap (-r.1.k)))] [bk (D4 (IJ (-r.1.k) x0))]=Θ (.tup [],[.set (bk (D4 (FD (-r.1.k) (IJ (-r.1.k) x0))))]):=Qd Z Kd (by omega) _ hb.k.neg bx0.hi;have gH':ED D 162 [.ptr 0 0,.agg (eZ (Ap r.1.k))] [bk (D4 y0)]=Θ (.tup [],[.set (bk (D4 (FD r.1.k y0)))]):=Qd Z Kd (by omega) _ hb.k by0.hi;have hx:((JV r.1.ps ls).map D4)[ls.findIdx (P9 r.1.ps)]? = Θ (D4 x0):=by rw[Aqt,f1];rfl
 have hy:((JV (negP r.1.ps) ls).map D4)[ls.findIdx (P9 (negP r.1.ps))]? = Θ (D4 y0):=by rw[Aqt,f1'];rfl
 obtain⟨s1,s2,s3⟩:=gF;obtain⟨s1',s2',s3'⟩:=gF';have set1:∀ f:Ln->Ln,((JV r.1.ps ls).map D4).set (ls.findIdx (P9 r.1.ps)) (D4 (f x0))=(G5 r.1.ps f ls).map D4:=λf=>by rw[←At4,f4]
 have set2:∀ f:Ln->Ln,((JV (negP r.1.ps) ls).map D4).set (ls.findIdx (P9 (negP r.1.ps))) (D4 (f y0))=(G5 (negP r.1.ps) f ls).map D4:=λf=>by rw[←At4,f4']
 have eT0:eT (Lf.tm ⟨r.1.ps,0⟩)=[.ls (([iv q.1,bv (Ap q.2).neg,.ls ((Ap q.2).abs.map eL)]:List AV)::rest.map (λp=>eP (AJ p))),bv (Ap 0).neg,.ls ((Ap 0).abs.map eL)]:=by
  unfold eT Lf.tm;rw[hq];simp only[Ap5,Art];rfl
 have a1:ED D 125 [.agg [bv (IK r).kn,.ls (IK r).ka]] []=Θ (.agg [.ls [],.v (.bool (Ap r.1.k).neg),.ls ((Ap r.1.k).abs.map eL)],[]):=gN;have a2:ED D 127 [.agg [.ls (IK r).ps,bv (IK r).kn,.ls (IK r).ka],.agg [.ls [],bv (Ap r.1.k).neg,.ls ((Ap r.1.k).abs.map eL)]] []=Θ (.agg [.ls ([iv q.1,.v (.bool (Ap q.2).neg),.ls ((Ap q.2).abs.map eL)]::rest.map (λp=>eP (AJ p))),.v (.bool (Ap 0).neg),.ls ((Ap 0).abs.map eL)],[]):=by
  have:=gS;rw[eT0]at this;exact this
 have a3:UW (ED D 64 [.agg [bv (Ap q.2).neg,.ls ((Ap q.2).abs.map eL)]] [])=Θ (Fs q.2):=by
  have:=gG2;unfold eZ eN at this;rw[this];rfl
 rw[eT0]at s1 s2 s3 gM;unfold TZ;rw[a1];dsimp only;rw[a2];dsimp only;rw[a3];dsimp only
 by_cases hs:0<q.2
 .rw[decide_eq_true ((XL _).2 hs)]
  dsimp only;have gG':ED D 161 [.agg [bv (IK r).kn,.ls (IK r).ka]] []=Θ (.agg [.v (.bool (Ap (-r.1.k)).neg),.ls ((Ap (-r.1.k)).abs.map eL)],[]):=gG;rw[s1,gG',s2,s3,hx];dsimp only;have gL':ED D 160 [.ptr 0 0,.agg [bv (Ap (-r.1.k)).neg,.ls ((Ap (-r.1.k)).abs.map eL)]] [⟨D4 x0,Δ,Φ⟩]=Θ (.tup [],[.set (bk (D4 (IJ (-r.1.k) x0)))]):=gL;rw[gL',Od Kt Kf Ks Z C Kl Kd];dsimp only;unfold EF;rw[hd,if_pos hs];have gH2:ED D 162 [.ptr 0 0,.agg [bv (Ap (-r.1.k)).neg,.ls ((Ap (-r.1.k)).abs.map eL)]] [⟨D4 (IJ (-r.1.k) x0),Δ,Φ⟩]=Θ (.tup [],[.set (bk (D4 (FD (-r.1.k) (IJ (-r.1.k) x0))))]):=gH
  cases he:r.2 with
  |false=>
   have:(IK r).eq=Φ:=he;rw[this];dsimp only;rw[set1 (IJ (-r.1.k))];simp
  |true=>
   have:(IK r).eq=Δ:=he;rw[this];dsimp only;rw[gH2,Od Kt Kf Ks Z C Kl Kd];dsimp only;rw[List.set_set,set1 λx=>FD (-r.1.k) (IJ (-r.1.k) x)];simp
 .rw[decide_eq_false (λh=>hs ((XL _).1 h))]
  dsimp only;have gM':=gM;have gM2:ED D 68 [.agg [.ls ([iv q.1,bv (Ap q.2).neg,.ls ((Ap q.2).abs.map eL)]::rest.map (λp=>eP (AJ p))),bv (Ap 0).neg,.ls ((Ap 0).abs.map eL)]] []=Θ (.agg [.ls ((Lf.tm ⟨negP r.1.ps,0⟩).ps.map eP),.v (.bool (Ap 0).neg),.ls ((Ap 0).abs.map eL)],[]):=gM;rw[gM2];dsimp only;have t1:Zv (ED D) [.ls ((Lf.tm ⟨negP r.1.ps,0⟩).ps.map eP),bv (Ap 0).neg,.ls ((Ap 0).abs.map eL)] (ls.map D4)=Δ:=s1';have t2:(ls.map D4).findIdx (Qt (ED D) [.ls ((Lf.tm ⟨negP r.1.ps,0⟩).ps.map eP),bv (Ap 0).neg,.ls ((Ap 0).abs.map eL)])=ls.findIdx (P9 (negP r.1.ps)):=s2';have t3:D5 (Qt (ED D) [.ls ((Lf.tm ⟨negP r.1.ps,0⟩).ps.map eP),bv (Ap 0).neg,.ls ((Ap 0).abs.map eL)]) (ls.map D4) ([.ls ((Lf.tm ⟨negP r.1.ps,0⟩).ps.map eP),bv (Ap 0).neg,.ls ((Ap 0).abs.map eL)]++D6)=(JV (negP r.1.ps) ls).map D4:=s3';rw[t1,t2,t3,hy];dsimp only;have gH3:ED D 162 [.ptr 0 0,.agg [bv (IK r).kn,.ls (IK r).ka]] [⟨D4 y0,Δ,Φ⟩]=Θ (.tup [],[.set (bk (D4 (FD r.1.k y0)))]):=gH';rw[gH3,Od Kt Kf Ks Z C Kl Kd];dsimp only;unfold EF;rw[hd,if_neg hs,set2 (FD r.1.k)]
end


theorem FB.mono{n k m j:Nat}(hn:n<=m)(hk:k<=j):∀(N:Nat) (x:Fm),SizeOf.sizeOf x<N->FB n k x->FB m j x:=by
 intro N
 induction N with
 |zero=>intro x h;omega
 |succ N ih=>
  intro x hN hx;obtain⟨ht,hl,h⟩:=hx;rename_i kd t e ks;exact .mk (ht.mono hn hk) hl λy hy=>ih y (by have:=AbC (k:=kd) (t:=t) (e:=e) hy;omega) (h y hy)
theorem XY(n k:Nat):TmB n k Tm0:=⟨AqC _,λp hp=>(by cases hp),⟨λx hx=>(by cases hx),AqC _⟩⟩
theorem Wq{n k:Nat}{t:Tm}(ht:TmB n k t)(hk:1<=k)(e:Bool):TmB n (k+4*n+4) (CF t.lf.pln.tm e).1.1:=by
 have hp:=ht.lb.pln.tb;have hs:=AcT hp (show 1<=k+n by omega);unfold CF;split
 .exact XY _ _
 split
 .split
  .show TmB _ _ (if hdS (D3 t.lf.pln.tm)<0 then _ else _)
   split
   .exact((hs.lb.scale (x:=-1) (j:=1) (by unfold InB;decide)).tb).mono (κ _) (by omega)
   .exact hs.mono (κ _) (by omega)
  .exact XY _ _
 .exact hs.mono (κ _) (by omega)
def rlT(x:Tm × Bool):RlA:=⟨x.1.ps.map eP,x.1.k.neg,x.1.k.abs.map eL,x.2⟩
def M2(x:Tm × Bool):RL:=(x.1.lf,x.2)
theorem Ank(x:Tm × Bool):(rlT x).c=C5 x:=rfl
theorem Ak2(l:Lf)(e:Bool):Ft l e=-1\/Ft l e=0\/Ft l e=1:=by
 unfold Ft CF;split
 .simp only
  split
  .exact .inr (.inr rfl)
  .exact .inl rfl
 .split
  .split
   .exact .inr (.inl rfl)
   .exact .inl rfl
  .exact .inr (.inl rfl)
theorem Ug:∀ l:List RL,R3 (l.map Da)=Θ (l.map IK)
 |[]=>rfl
 |r::l=>by
  rw[Ap5,R3,Ug l];rfl
theorem Ns:∀ l:List RL,KY (Ag Da l)=Θ (l.map IK)
 |[]=>rfl
 |r::l=>by
  have e:Ag Da (r::l)=.ls (r.1.tm.ps.map eP)::bv r.1.tm.k.neg::.ls (r.1.tm.k.abs.map eL)::bv r.2::Ag Da l:=rfl;rw[e,KY,Ns l];rfl
theorem PZ:∀ l:List RL,(l.map IK).flatMap RlA.c=Ag Da l
 |[]=>rfl
 |r::l=>by
  rw[Ap5,ArX,PZ l];rfl
section
variable {D:Orc} (Kt:Knows Av Fj D) (Kf:Knows Av KF D) (Ks:Knows Av DY D) (Z:ZF D) (C:PartF D) (Kl:Knows Av KE D) (Kd:Knows Av QA D)
include Kt Kf Ks Z C Kl Kd
theorem XH{n k:Nat}(hn:n<=100000)(hk:k<=1000000):∀(rs:List (Tm × Bool)) (ls:List Ln),(∀ x∈ls,LnB n k x)->(∀ x∈rs,ED D 17 [.agg (C5 x)] []=Θ (.tup [.agg (C5 (CF x.1.lf.pln.tm x.2).1),iv (CF x.1.lf.pln.tm x.2).2],[])/\TmB n k (CF x.1.lf.pln.tm x.2).1.1)->
  OO (ED D) (rs.map rlT) (ls.map D4)=Θ (match Du (rs.map M2) with|none=>Ξ|some T=>Θ ((T.foldl EF ls).map D4))/\∀ T,Du (rs.map M2)=Θ T->∀ x∈T.foldl EF ls,LnB n k x
 |[],ls,hls,_=>⟨rfl,λT h=>by injection h with h;subst h;exact hls⟩
 |x::rs,ls,hls,hT=>by
  obtain⟨g,hb⟩:=hT x (ι ..);have ih:=λls h=>XH hn hk rs ls h λy hy=>hT y (π _ hy)
  have ea:AdT (ED D 17 [.agg (rlT x).c] [])=Θ (rlT (CF x.1.lf.pln.tm x.2).1,Ft x.1.lf x.2):=by
   rw[Ank,g];rfl
  rw[Ap5,Ap5,OO,ea,Du];have e1:Ft (M2 x).1 (M2 x).2=Ft x.1.lf x.2:=rfl;rw[e1];dsimp only;rcases Ak2 x.1.lf x.2 with h|h|h
  .rw[h]
   refine⟨rfl,λT h=>?_⟩;rw[if_pos (by decide)]at h
   cases h
  .obtain⟨tg,et⟩:=XU h
   have er:rlT (CF x.1.lf.pln.tm x.2).1=IK (JD x.1.lf x.2):=by rw[et];rfl
   have hb2:LB n k (JD x.1.lf x.2).1:=hb.lb;have gn:=Acb Kt Kf Ks Z C Kl Kd hn hk hls tg hb2;obtain⟨i1,i2⟩:=ih _ (Agw hls tg.pln hb2);rw[h,er,if_neg (by decide)];rw[show decide ((0:Int)=-1)=Φ from rfl,show decide ((0:Int)=0)=Δ from rfl];dsimp only;rw[gn];dsimp only;rw[i1];have e2:JD (M2 x).1 (M2 x).2=JD x.1.lf x.2:=rfl;rw[e2]
   cases et2:Du (rs.map M2) with
   |none=>exact⟨rfl,λT h=>by cases h⟩
   |some t=>
    refine⟨rfl,λT h=>?_⟩;injection h with h
    subst h;exact i2 t et2
  .obtain⟨i1,i2⟩:=ih ls hls
   rw[h,if_neg (by decide)];rw[show decide ((1:Int)=-1)=Φ from rfl,show decide ((1:Int)=0)=Φ from rfl];dsimp only;rw[i1]
   cases et2:Du (rs.map M2) with
   |none=>exact⟨rfl,λT h=>by cases h⟩
   |some t=>
    refine⟨rfl,λT h=>?_⟩;injection h with h
    subst h;exact i2 t et2
omit Kl in
theorem XI{n k:Nat}(hn:n<=100000)(hk:k<=1000000):∀(ls:List Ln) (out:List RL),(∀ x∈ls,LnB n k x/\(x.lo≠Ξ\/x.hi≠Ξ))->
  OP (ED D) (ls.map D4) (out.map IK)=Θ (match GZ ls with|none=>Ξ|some l=>Θ ((out++l).map IK))
 |[],out,_=>by
  rw[GZ];simp only[List.append_nil];rfl
 |x::ls,out,h=>by
  obtain⟨hb,hne⟩:=h x (ι ..);have ih:=λout=>XI hn hk ls out λy hy=>h y (π _ hy)
  have g:ED D 89 [.ptr 0 0] [⟨D4 x,Δ,Φ⟩]=Θ (OG x,[.set (bk (D4 x))]):=YN Kt Kf Ks Z C Kd hb hn hk;rw[Ap5,OP,g,GZ]
  cases er:FL x with
  |none=>
   have:X9 (Θ (OG x,[.set (bk (D4 x))]))=Θ ([],Φ,D4 x):=by
    unfold OG;rw[er];rfl
   rw[this]
  |some l=>
   have:X9 (Θ (OG x,[.set (bk (D4 x))]))=Θ (l.map IK,Δ,D4 x):=by
    unfold OG;rw[er];unfold X9;simp only[bv];rw[Ug];rfl
   rw[this];have hl:(∃ a,l=[a])\/∃ a b,l=[a,b]:=by
    obtain⟨ps,lo,hi⟩:=x;unfold FL at er
    cases lo with
    |none=>
     cases hi with
     |none=>rcases hne with h|h<;>exact absurd rfl h
     |some v=>injection er with er;exact .inl ⟨_,er.symm⟩
    |some u=>
     cases hi with
     |none=>injection er with er;exact .inl ⟨_,er.symm⟩
     |some v=>
      simp only at er;split at er
      .cases er
      split at er
      .injection er with er;exact .inl ⟨_,er.symm⟩
      .injection er with er;exact .inr ⟨_,_,er.symm⟩
   rcases hl with⟨a,rfl⟩|⟨a,b,rfl⟩
   .have:=ih (out++[a])
    rw[As5]at this;simp only[Ap5,Ara]at this ⊢;rw[this]
    cases GZ ls<;>simp
   .have:=ih (out++[a,b])
    rw[As5]at this;simp only[Ap5,Ara]at this ⊢;rw[this]
    cases GZ ls<;>simp
end
structure SrF (D:Orc) (n k:Nat):Prop where
 sort:∀ l:List RL,l.length<=12->l.Nodup->(∀ x∈l,TgR x/\LB n k x.1)->∃ r:List RL,D.ask (.fn 90) [.sl 0 0 l.length 4,.fn (.func 25) [] []] [θ (Ag Da l) Δ Δ]=Θ (.tup [],[.set (θ (Ag Da r) Δ Δ)])/\r.Perm l/\Pk r
 nil:D.ask (.fn 90) [.v (.slice Ξ 0 0),.fn (.func 25) [] []] []=Θ (.tup [],[])
theorem AcX{D:Orc}{n k:Nat}(S:SrF D n k){l:List RL}(h1:l.length<=12)(h2:l.Nodup)(h3:∀ x∈l,TgR x/\LB n k x.1):∃ r:List RL,Ut (ED D) (l.map IK)=Θ (r.map IK)/\r.Perm l/\Pk r:=by
 obtain⟨r,g,hp,ha⟩:=S.sort l h1 h2 h3;refine⟨r,?_,hp,ha⟩;have e:AdS (l.map IK) (ED D 90 [.sl 0 0 (l.map IK).length 4,.fn (.func 25) [] []] [⟨(l.map IK).flatMap RlA.c,Δ,Δ⟩])=Θ (r.map IK):=by
  rw[Ap1,PZ];unfold ED;rw[g];exact Ns r
 have hlen:=hp.length_eq;unfold Ut;rw[e]
 cases l with
 |nil=>
  have:r=[]:=List.length_eq_zero_iff.1 hlen;subst this;have:Aae (ED D 90 [.v (.slice Ξ 0 0),.fn (.func 25) [] []] [])=Δ:=by
   unfold ED;rw[S.nil];rfl
  show (match Aae _ with|true=>Θ [] | false=>Ξ)=_
  rw[this];rfl
 |cons x l=>
  have:AqA (r.map IK).length ((x::l).map IK).length=Δ:=by
   rw[Ap1,Ap1,hlen];exact Nat.beq_refl _
  cases r with
  |nil=>simp at hlen
  |cons y r=>
   show (match AqA ((y::r).map IK).length ((x::l).map IK).length with|true=>Θ ((y::r).map IK) | false=>Ξ)=_
   rw[this]
theorem AcA{n k:Nat}{x:Ln}(h:LnB n k x){r:RL}(g:M8 x.ps x.lo x.hi r):LB n k r.1:=by
 rcases g with⟨a,h1,_,rfl⟩|⟨_,⟨a,h1,rfl⟩|⟨b,h1,rfl⟩⟩
 .exact⟨h.lb.len,h.lb.ps,(h.lo a h1).neg⟩
 .exact⟨h.lb.len,h.lb.ps,(h.lo a h1).neg⟩
 .exact LB.negP ⟨h.lb.len,h.lb.ps,h.hi b h1⟩
section
variable {D:Orc} (Kt:Knows Av Fj D) (Kf:Knows Av KF D) (Ks:Knows Av DY D) (Z:ZF D) (C:PartF D) (Kl:Knows Av KE D) (Kd:Knows Av QA D)
include Kt Kf Ks Z C Kl Kd
theorem Adc{n k:Nat}(S:SrF D n k)(hn:n<=100000)(hk:k<=1000000){rs:List (Tm × Bool)}(hrs:rs.length<=10000)
  (hT:∀ x∈rs,ED D 17 [.agg (C5 x)] []=Θ (.tup [.agg (C5 (CF x.1.lf.pln.tm x.2).1),iv (CF x.1.lf.pln.tm x.2).2],[])/\TmB n k (CF x.1.lf.pln.tm x.2).1.1)
  (hq:∃ qs:List RL,qs.length<=12/\∀ x,x∈rs.map M2 ↔ x∈qs) :
  ∃ o:Option (List RL),DL (rs.map M2) o/\XW (ED D) (rs.map rlT)=Θ (o.map (At3 IK)):=by
 obtain⟨r1,r2⟩:=XH Kt Kf Ks Z C Kl Kd hn hk rs [] (by simp) hT;rw[Ara]at r1;have hble:Nat.ble (rs.map rlT).length 10000=Δ:=by rw[Ap1,Nat.ble_eq];exact hrs
 unfold XW DL;rw[hble,r1]
 cases e:Du (rs.map M2) with
 |none=>exact⟨Ξ,rfl,rfl⟩
 |some T=>
  have htg:=M4 e;have hok:LsOk T (T.foldl EF []):=Lk htg;have hlb:=r2 T e;have hne:∀ x∈T.foldl EF [],LnB n k x/\(x.lo≠Ξ\/x.hi≠Ξ):=λx hx=>by
   refine⟨hlb x hx,?_⟩;have ok:=hok.ok x hx;obtain⟨hp,r,hr,h⟩:=ok.key;rcases h with h|h
   .obtain⟨u,hu⟩:=Aj0 hr h
    exact .inl (by rw[ok.lo,hu];simp)
   .obtain⟨u,hu⟩:=AjQ hp hr h
    exact .inr (by rw[ok.hi,hu];simp)
  have r3:=XI Kt Kf Ks Z C Kd hn hk (T.foldl EF []) [] hne;rw[Ara]at r3;dsimp only;rw[r3];obtain⟨t1,t2⟩:=Ss hok
  cases ea:GZ (T.foldl EF []) with
  |none=>exact⟨Ξ,t1 ea,rfl⟩
  |some l=>
   obtain⟨hnd,t3⟩:=t2 l ea;have hmem:=(Ih ea).1;have hout:∀ r∈l,QO T r:=λr hr=>by
    obtain⟨x,hx,g⟩:=(hmem r).1 hr;have ok:=hok.ok x hx;rw[ok.lo,ok.hi]at g;exact⟨x.ps,ok.key,g⟩
   have hlen:l.length<=12:=by
    obtain⟨qs,hl,hqs⟩:=hq;obtain⟨a1,a2⟩:=Ia (rs:=rs.map M2);obtain⟨b1,b2⟩:=Ia (rs:=qs)
    cases e2:Du qs with
    |none=>
     obtain⟨r,hr,hlt⟩:=b1.1 e2;rw[a1.2 ⟨r,(hqs r).2 hr,hlt⟩]at e
     cases e
    |some U=>
     have hUT:∀ x,x∈T ↔ x∈U:=λx=>by
      rw[a2 T e,b2 U e2];constructor
      .rintro⟨r,hr,g⟩;exact⟨r,(hqs r).1 hr,g⟩
      .rintro⟨r,hr,g⟩;exact⟨r,(hqs r).2 hr,g⟩
     have h1:=Xy hnd (T:=U) λr hr=>(Acj hUT r).1 (hout r hr)
     have h2:=O6 e2;omega
   obtain⟨s,g,hp,ha⟩:=AcX S hlen hnd λr hr=>⟨Ack htg (hout r hr),by
    obtain⟨x,hx,g⟩:=(hmem r).1 hr;exact AcA (hlb x hx) g⟩
   refine⟨Θ s,t3 s ha λr=>hp.mem_iff,?_⟩;dsimp only;rw[List.nil_append,g];rfl
theorem V9{n k:Nat}(S:SrF D n k)(hn:n<=100000)(hk:k<=1000000){rs:List (Tm × Bool)}(hrs:rs.length<=10000)
  (hT:∀ x∈rs,ED D 17 [.agg (C5 x)] []=Θ (.tup [.agg (C5 (CF x.1.lf.pln.tm x.2).1),iv (CF x.1.lf.pln.tm x.2).2],[])/\TmB n k (CF x.1.lf.pln.tm x.2).1.1)
  (hq:∃ qs:List RL,qs.length<=12/\∀ x,x∈rs.map M2 ↔ x∈qs) :
  ∃ o:Option (List RL),DL (rs.map M2) o/\Ji (CJ (ED D)) [.ls (rs.map C5)] []=Θ (match o with|some s=>.tup [.ls (s.map Da),bv Δ] | none=>.tup [.ls [],bv Φ],[]):=by
 obtain⟨o,h1,h2⟩:=Adc Kt Kf Ks Z C Kl Kd S hn hk hrs hT hq;refine⟨o,h1,?_⟩;have hr:AkU [.ls (rs.map C5)]=Θ (rs.map rlT):=by
  show R3 (rs.map C5)=_
  clear h1 h2 hrs hT hq
  induction rs with
  |nil=>rfl
  |cons x r ih=>
   rw[Ap5,R3,ih];rfl
 have:CJ (ED D) [.ls (rs.map C5)]=Θ (XX (o.map (At3 IK))):=by
  unfold CJ;rw[hr];dsimp only;rw[h2]
 show (CJ (ED D) [.ls (rs.map C5)]).map _=_
 rw[this]
 cases o with
 |none=>rfl
 |some s=>
  show Θ (AV.tup [.ls ((s.map IK).map RlA.c),bv Δ],[])=_
  rw[Art];rfl
end
theorem Ajv(a b:Int):Cr a b=-1\/Cr a b=0\/Cr a b=1:=by
 unfold Cr;split
 .exact .inl rfl
 .split
  .exact .inr (.inr rfl)
  .exact .inr (.inl rfl)
theorem Am9{a b:Int}(ha:a=-1\/a=0\/a=1)(hb:b=-1\/b=0\/b=1):HL a b=-1\/HL a b=0\/HL a b=1:=by
 unfold HL;split
 .exact hb
 .exact ha
theorem AbR:∀ a b:List Int,II a b=-1\/II a b=0\/II a b=1
 |[],[]=>.inr (.inl rfl)
 |[],_::_=>.inl rfl
 |_::_,[]=>.inr (.inr rfl)
 |a::r,b::s=>Am9 (Ajv a b) (AbR r s)
theorem Aav{x y:RL}(h:EM x y<0):EM x y=-1:=by
 have:=AbR (AaV x) (AaV y);rw[←JQ]at this;omega
theorem AkG{n k:Nat}{T:List RL}(hT:∀ r∈T,LB n k r.1){r:RL}(h:QO T r):LB n k r.1:=by
 obtain⟨p,⟨_,s,hs,e⟩,g⟩:=h;have b:=hT s hs;have hp:∀ a,InB k a->LB n k ⟨p,a⟩:=λa ha=>by
  rcases e with e|e
  .rw[←e]
   exact⟨b.len,b.ps,ha⟩
  .have e2:p=negP s.1.ps:=by rw[e,DT]
   rw[e2];exact LB.negP ⟨b.len,b.ps,ha⟩
 have lo:∀ a,MS T p=Θ a->InB k (-a):=λa h=>by
  obtain⟨⟨s,hs,_,e⟩,_⟩:=Ge.1 h;rw[←e,Int.neg_neg];exact(hT s hs).k
 have hi:∀ b,L6 T p=Θ b->InB k b:=λb h=>by
  obtain⟨⟨s,hs,e⟩,_⟩:=Hm.1 h;rcases e with⟨_,_,e⟩|⟨_,_,e⟩
  .rw[←e]
   exact(hT s hs).k.neg
  .rw[←e]
   exact(hT s hs).k
 rcases g with⟨a,h1,_,rfl⟩|⟨_,⟨a,h1,rfl⟩|⟨b,h1,rfl⟩⟩
 .exact hp _ (lo a h1)
 .exact hp _ (lo a h1)
 .exact LB.negP (hp _ (hi b h1))
theorem O5{f:Int->Int}(hf:∀ v,v<0->f v=0)(r:RL):(Ft r.1 r.2=1/\Di f r)\/(Ft r.1 r.2=-1/\¬ Di f r)\/(Ft r.1 r.2=0/\(Di f (JD r.1 r.2) ↔ Di f r)):=by
 obtain⟨l,e⟩:=r;have h:=O4 hf (l:=l.pln) (by unfold Lf.pln;rw[BV (Cw l.ps)]) e;rw[Sz hf]at h;unfold Di Ft JD;rcases h with⟨h,g⟩|⟨h,g⟩|⟨h,g1,g2⟩
 .exact .inl ⟨h,g⟩
 .refine .inr (.inl ⟨h,?_⟩)
  show ¬ Ff (l.val f) e=Δ
  rw[g]
  decide
 .refine .inr (.inr ⟨h,?_⟩)
  show Ff ((CF l.pln.tm e).1.1.lf.val f) (CF l.pln.tm e).1.2=Δ ↔ Ff (l.val f) e=Δ
  rw[g1,g2]
theorem UD{f:Int->Int}(hf:∀ v,v<0->f v=0){rs:List RL}:∀{o:Option (List RL)},DL rs o->match o with
  |none=>¬ ∀ r∈rs,Di f r
  |some s=>(∀ r∈s,Di f r) ↔ ∀ r∈rs,Di f r:=by
 intro o h;obtain⟨a1,a2⟩:=Ia (rs:=rs);unfold DL at h
 cases e:Du rs with
 |none=>
  rw[e]at h;subst h;obtain⟨r,hr,hl⟩:=a1.1 e;refine λg=>?_
  rcases O5 hf r with⟨h,_⟩|⟨_,h⟩|⟨h,_⟩
  .omega
  .exact h (g r hr)
  .omega
 |some T=>
  rw[e]at h;have key:(∀ r∈T,Di f r) ↔ ∀ r∈rs,Di f r:=by
   constructor
   .intro g r hr
    rcases O5 hf r with⟨_,h⟩|⟨h,_⟩|⟨h,i⟩
    .exact h
    .have:=a1.2 ⟨r,hr,by omega⟩
     rw[e]at this
     cases this
    .exact i.1 (g _ ((a2 T e _).2 ⟨r,hr,h,rfl⟩))
   .intro g x hx
    obtain⟨r,hr,h,rfl⟩:=(a2 T e x).1 hx;rcases O5 hf r with⟨h2,_⟩|⟨h2,_⟩|⟨_,i⟩
    .omega
    .omega
    .exact i.2 (g r hr)
  cases o with
  |none=>
   dsimp only;rw[←key];exact Aca h
  |some s=>
   dsimp only;rw[Ws (M4 e) h,key]
theorem ZC{rs s:List RL}(h:DL rs (Θ s)):s.length<=rs.length:=by
 unfold DL at h
 cases e:Du rs with
 |none=>rw[e]at h;cases h
 |some T=>
  rw[e]at h;exact Aqs (Ade h) (O6 e)
theorem Adb{n k:Nat}{rs s:List RL}(h:DL rs (Θ s))(hb:∀ r∈rs,LB n k (JD r.1 r.2).1):Pk s/\∀ r∈s,LB n k r.1/\TgR r:=by
 unfold DL at h
 cases e:Du rs with
 |none=>rw[e]at h;cases h
 |some T=>
  rw[e]at h;refine⟨h.2.1,λr hr=>⟨AkG (λx hx=>?_) ((h.2.2 r).1 hr),Ack (M4 e) ((h.2.2 r).1 hr)⟩⟩;obtain⟨y,hy,_,rfl⟩:=((Ia (rs:=rs)).2 T e x).1 hx;exact hb y hy
theorem IG{r:RL}(h:TgR r)(s:List RL):Du (r::s)=(Du s).map (r::·):=by
 have e:=Ada h;have k:Ft r.1 r.2=0:=by unfold Ft;rw[h.plnE,e]
 have t:JD r.1 r.2=r:=by unfold JD;rw[h.plnE,e];simp only[BS]
 rw[Du,k,t]
 cases Du s<;>rfl
def rX:RL:=(⟨[(0,1)],0⟩,Φ)
def Y6:RL:=(⟨[(0,-1)],0⟩,Φ)
def rX1:RL:=(⟨[(0,1)],-1⟩,Φ)
def rXe:RL:=(⟨[(0,1)],0⟩,Δ)
def rK5:RL:=(⟨[],5⟩,Φ)
theorem RX{v c:Int}(hv:0<=v)(hc:c≠0):Pln [(v,c)]:=
 ⟨ArP ..,λp hp=>by rw[Aqp]at hp;rw[hp];exact hv,λp hp=>by rw[Aqp]at hp;rw[hp];exact hc⟩
theorem tgX:TgR rX:=⟨RX (by decide) (by decide),by unfold rX;simp,by decide,λh=>by cases h⟩
theorem Ag9:TgR Y6:=⟨RX (by decide) (by decide),by unfold Y6;simp,by decide,λh=>by cases h⟩
theorem Anr:TgR rX1:=⟨RX (by decide) (by decide),by unfold rX1;simp,by decide,λh=>by cases h⟩
theorem Ans:Du [rK5]=Θ []:=by
 have k:Ft rK5.1 rK5.2=1:=by
  unfold Ft CF;rw[if_pos (by rfl)];refine if_pos (.inr ⟨rfl,?_⟩)
  show 0<zv (Ap 5)
  rw[AU]
  decide
 rw[Du,k];rfl
theorem Adf:DL [rX,Y6,rK5] (Θ [rXe]):=by
 have e:Du [rX,Y6,rK5]=Θ [rX,Y6]:=by rw[IG tgX,IG Ag9,Ans];rfl
 unfold DL;rw[e];have h:=Lk (T:=[rX,Y6]) λr hr=>by
  rcases ApT.1 hr with rfl|hr
  .exact tgX
  .rw[Aqp]at hr
   rw[hr];exact Ag9
 exact((Ss h).2 [rXe] (by kernel_rfl)).2 [rXe] (ArP ..) λ_=>Iff.rfl
theorem Aha:DL [rX1,Y6] Ξ:=by
 have e:Du [rX1,Y6]=Θ [rX1,Y6]:=by rw[IG Anr,IG Ag9];rfl
 unfold DL;rw[e];have h:=Lk (T:=[rX1,Y6]) λr hr=>by
  rcases ApT.1 hr with rfl|hr
  .exact Anr
  .rw[Aqp]at hr
   rw[hr];exact Ag9
 exact(Ss h).1 (by kernel_rfl)
theorem Aas:CloneF Z9 where
 nat l h:=ZQ (Il h)
theorem AoV:ZF Z9:=AdC Amw AmI Aas
theorem AgD:PartF Z9 where
 clone l h:=ZU (Jc h)
 grow n h:=Ads (P4 h)
theorem Uk:SeatOk υ Bn LF:=Zj ⟨EW,GB,Iq,trivial⟩
theorem gCp(f:Nat):Bk (Bu υ f) ((AD Ad LF).ask (.fn f)):=Dg Uk f
theorem Uo:SeatOk υ Bn LH:=Zn ⟨gCp _,trivial⟩
theorem gSr(f:Nat):Bk (Bu υ f) ((AD Ad LH).ask (.fn f)):=Dg Uo f
theorem SX:CloneF G6 where
 nat l h:=ZS (Il h)
theorem AdB:ZF G6:=AdC Aim Aiq SX
theorem RS:PartF G6 where
 clone l h:=ZV (Jc h)
 grow n h:=Adt (P4 h)
theorem Ajz:DivF G6 where
 div _ _ ha hal hb hbl:=Ahn (Am1 ha hal hb hbl)
theorem Anz:ZdF G6:=Ai8 Aim Aiq SX Amy Ajz
theorem Ant:TiF G6:=Ak4 W8 Aip Aby AdB RS AmD Anz (λh hn hk=>ZY (Zu h hn hk))
theorem Up:SeatOk υ Bn FW:=Zq ⟨EW,GB,Iq,Al8 _,gSk _,gSr _,trivial⟩
theorem gTi(f:Nat):Bk (Bu υ f) ((AD Ad FW).ask (.fn f)):=Dg Up f
theorem AhR:Bk (Bu υ 33) (Ji (CJ (ED G6))):=ZD (ED G6) gTi
theorem srF{n k:Nat}(hn:n<=1000000)(hk:k+n<=900000000):SrF G6 n k where
 sort l h1 h2 h3:=by
  obtain⟨r,g,hp,ha⟩:=AcY Aio h1 h2 λx hx y hy=>by
   have:=Ak8 (Qr AmF AmB AoV AgD Amv (h3 x hx).2.tb (h3 y hy).2.tb hn hk x.2 y.2);rw[BS,BS,(h3 x hx).1.plnE,(h3 y hy).1.plnE]at this;exact this
  exact⟨r,X2 g,hp,ha⟩
 nil:=X2 (Zw Aio)
theorem UC{n k:Nat}{t:Tm}(ht:TmB n k t)(hn:n<=1000000)(hk1:1<=k)(hk:k+3*n<=100000000)(e:Bool):G6.ask (.fn 17) [.agg (C5 (t,e))] []
  = Θ (.tup [.agg (C5 (CF t.lf.pln.tm e).1),iv (CF t.lf.pln.tm e).2],[]):=Adg AmH AdB Anz Ant ht hn hk1 hk e
theorem XV{n k:Nat}(hn:n<=100000)(hk1:1<=k)(hk:k+4*n+4<=1000000){rs:List (Tm × Bool)}(hrs:rs.length<=10000)(hb:∀ x∈rs,TmB n k x.1)
  (hq:∃ qs:List RL,qs.length<=12/\∀ x,x∈rs.map M2 ↔ x∈qs) :
  ∃ o:Option (List RL),DL (rs.map M2) o/\Ji (CJ (ED G6)) [.ls (rs.map C5)] []=Θ (match o with|some s=>.tup [.ls (s.map Da),bv Δ] | none=>.tup [.ls [],bv Φ],[]):=
 V9 W8 Aip Aby AdB RS Ail AmE (srF (n:=n) (k:=k+4*n+4) (by omega) (by omega)) hn hk hrs (λx hx=>⟨UC (hb x hx) (by omega) hk1 (by omega) x.2,Wq (hb x hx) hk1 x.2⟩) hq
def Anb:List (Nat × Nat):=[(136,0),(196,0),(234,0),(235,0),(265,0),(275,0),(140,0),(199,0),(262,0),(264,0)]
def Akx:MFn:=AY [⟨74,(mB 917524),[],[],[(1,((mB 20),([],[])))]⟩] 62
def AfM:MFn:=AY [] 136
def Af0:MFn:=AY [⟨63,(mB 455),[],[],[(1,((mB 199),([],[1000000])))]⟩,⟨63,(mB 71),[],[],[(3,([],([],[1000000])))]⟩,⟨63,(mB 455),[],[],[(5,((mB 199),([],[1000000])))]⟩] 196
def Agb:MFn:=AY [⟨53,(mB 271),[],[],[(1,([],([],[1000000])))]⟩,⟨53,(mB 783),[],[],[(3,((mB 271),([],[1000000])))]⟩] 234
def Agc:MFn:=AY [⟨220,(mB 3091),[],[],[(1,((mB 1027),([],[1000000])))]⟩,⟨220,(mB 9217),[],[],[(3,([],([],[1000000])))]⟩,⟨220,(mB 49173),[],[],[(5,((mB 16389),([],[1000000])))]⟩,⟨220,(mB 147457),[],[],[(7,([],([],[1000000])))]⟩,⟨220,(mB 8126495),[],[],[(9,((mB 1835039),([],[1000000])))]⟩] 235
def Agf:MFn:=AY [⟨58,(mB 3093),[],[],[(1,((mB 1045),([],[1000000])))]⟩] 265
def Agh:MFn:=AY [⟨38,(mB 1039),[],[],[(1,([],([],[1000000])))]⟩] 275
def AfN:MFn:=AY [] 137
def Akz:MFn:=AY [] 84
def AfV:MFn:=AY [] 157
def AfO:MFn:=AY [] 138
def AfT:MFn:=AY [] 145
def Af6:MFn:=AY [] 202
def Af4:MFn:=AY [⟨21,(mB 9),[],[],[(1,((mB 9),([],[])))]⟩] 200
def AfP:MFn:=AY [] 139
def Af1:MFn:=AY [⟨61,(mB 234881122),[],[],[(1,((mB 96),([],[])))]⟩] 197
def Af2:MFn:=AY [⟨59,(mB 58720450),[],[],[(1,((mB 64),([],[])))]⟩] 198
def Af5:MFn:=AY [⟨49,(mB 35),[],[],[(0,((mB 16),([],[]))),(2,([],([],[])))]⟩] 201
def AfQ:MFn:=MU υ Bn [⟨42,(mB 99),[],[],[(1,((mB 33),([],[1000000])))]⟩] Δ Φ 140
def Af3:MFn:=AY [⟨19,(mB 387),[],[],[(0,((mB 16),([],[1000000]))),(1,([],([],[1000000])))]⟩] 199
def AfR:MFn:=AY [] 141
def Aky:MFn:=AY [] 64
def AfS:MFn:=AY [] 142
def AfX:MFn:=AY [] 188
def Af9:MFn:=AY [] 231
def Agd:MFn:=AY [] 263
def Agg:MFn:=AY [] 274
def Agi:MFn:=AY [] 277
def Agj:MFn:=AY [] 278
def Af8:MFn:=AY [] 223
def Agm:MFn:=AY [] 281
def Agn:MFn:=AY [] 282
def Agk:MFn:=AY [⟨167,(mB 19),[],[],[(1,((mB 19),([],[])))]⟩] 279
def Agl:MFn:=AY [⟨102,(mB 130075),[],[],[(1,((mB 15387),([],[])))]⟩,⟨102,(mB 146459),[],[],[(3,((mB 15387),([],[])))]⟩] 280
def Ago:MFn:=AY [] 283
def Agp:MFn:=AY [] 284
def Agq:MFn:=AY [] 285
def Agr:MFn:=AY [] 286
def AfY:MFn:=AY [] 189
def AfL:MFn:=AY [] 126
def AfW:MFn:=AY [] 184
def AfU:MFn:=AY [] 155
def AfZ:MFn:=AY [] 190
def Aga:MFn:=AY [⟨40,(mB 9),[],[],[(1,((mB 8),([],[])))]⟩,⟨40,(mB 262169),[],[],[(3,((mB 9),([],[])))]⟩,⟨40,(mB 8),[],[],[(5,((mB 8),([],[])))]⟩] 232
def Af7:MFn:=AY [⟨44,(mB 451),[],[],[(1,((mB 192),([],[])))]⟩] 203
def Age:MFn:=AY [⟨28,(mB 13),[],[],[(1,([],([],[1000000])))]⟩] 264
def Anq:List (Nat × MFn):=[(62,Akx),(136,AfM),(196,Af0),(234,Agb),(235,Agc),(265,Agf),(275,Agh),(137,AfN),(84,Akz),(157,AfV),(138,AfO),(145,AfT),(202,Af6),(200,Af4),(139,AfP),(197,Af1),(198,Af2),(201,Af5),(140,AfQ),(199,Af3),(141,AfR),(64,Aky),(142,AfS),(188,AfX),(231,Af9),(263,Agd),(274,Agg),(277,Agi),(278,Agj),(223,Af8),(281,Agm),(282,Agn),(279,Agk),(280,Agl),(283,Ago),(284,Agp),(285,Agq),(286,Agr),(189,AfY),(126,AfL),(184,AfW),(155,AfU),(190,AfZ),(232,Aga),(203,Af7),(264,Age)]
