/- rel.Tidy as an answer of -/
import Derived.Test.YtpncilciembjdaaGreatDoorEBK
import Derived.Test.YtpncilciembjdaaGreatDoorEBL
import Derived.Test.YtpncilciembjdaaGreatDoorEBC
set_option linter.all false
open Bool renaming false->Φ,true->Δ
open List renaming all_eq_true->Ar3,findIdx_cons->AtV,flatMap_cons->AtW,getElem?_eq_some_iff->Ar1,getElem?_map->Ass,length_map->Ar2,map->AvS,map_append->Au4,map_cons->Ar7,map_map->Atk,map_nil->Atl,map_set->AvT,mem_cons->ArR,mem_cons_of_mem->γ,mem_cons_self->υ,mem_map->Asj,mem_singleton->Asq,pairwise_singleton->At7
open Nat renaming beq->AsA,le_of_ble_eq_true->Aty,le_refl->κ,le_trans->Asr,zero_add->Ar5,zero_le->AsB
open Option renaming none->Ξ,some->Θ
namespace Go.Proofs.YtpncilciembjdaaGreatDoor
noncomputable section
open ABlk renaming mk->δ
open Tryz renaming prog->ArP
open Go.RowKit
def Ld:List AV->Option (List RlA)
 |[]=>Θ []
 |a::b::c::d::r=>(match rlO [a,b,c,d],Ld r with
  |some p,Θ l=>Θ (p::l)
  |_,_=>Ξ)
 |_=>Ξ
theorem Mh:∀{xs:List AV} {l:List RlA},Ld xs=Θ l->xs=l.flatMap RlA.c
 |[],l,h=>by injection h with h;subst h;rfl
 |[_],l,h=>by cases h
 |[_,_],l,h=>by cases h
 |[_,_,_],l,h=>by cases h
 |a::b::c::d::r,l,h=>by
  unfold Ld at h;split at h
  .rename_i p l' h1 h2
   injection h with h
   subst h;rw[AtW,←Pe h1,←Mh h2];rfl
  .cases h
section
variable (dq:Nat->DF)
def AeH(out:List RlA):Option (AV × List BO)->Option (List RlA)
 |some (.tup [],[.set ⟨y,Δ,Δ⟩])=>Ld y
 |some (.tup [],[.keep])=>Θ out
 |_=>Ξ
theorem P5{out:List RlA}{o:Option (AV × List BO)}{l:List RlA}(h:AeH out o=Θ l):∃ ob,o=Θ (.tup [],[ob])/\((ob=.keep/\l.flatMap RlA.c=out.flatMap RlA.c)\/ob=.set ⟨l.flatMap RlA.c,Δ,Δ⟩):=by
 unfold AeH at h;split at h
 .exact⟨_,rfl,.inr (by rw[Mh h])⟩
 .injection h with h
  exact⟨_,rfl,.inl ⟨rfl,by rw[h]⟩⟩
 .cases h
def AaU:Option (AV × List BO)->Bool
 |some (.tup [],[])=>Δ
 |_=>Φ
theorem YM{o:Option (AV × List BO)}(h:AaU o=Δ):o=Θ (.tup [],[]):=by
 unfold AaU at h;split at h
 .rfl
 .cases h
def UX(out:List RlA):Option (List RlA):=match AeH out (dq 90 [.sl 0 0 out.length 4,.fn (.func 25) [] []] [⟨out.flatMap RlA.c,Δ,Δ⟩]),out with
 |some [],[]=>(match AaU (dq 90 [.v (.slice Ξ 0 0),.fn (.func 25) [] []] []) with
  |true=>Θ []
  |false=>Ξ)
 |some s,_::_=>(match AsA s.length out.length with
  |true=>Θ s
  |false=>Ξ)
 |_,_=>Ξ
theorem WM{out s:List RlA}(h:UX dq out=Θ s):s.length=out.length/\(∃ ob,dq 90 [.sl 0 0 out.length 4,.fn (.func 25) [] []] [⟨out.flatMap RlA.c,Δ,Δ⟩]=Θ (.tup [],[ob])/\((ob=.keep/\s.flatMap RlA.c=out.flatMap RlA.c)\/ob=.set ⟨s.flatMap RlA.c,Δ,Δ⟩)) ∧
  (out=[]->dq 90 [.v (.slice Ξ 0 0),.fn (.func 25) [] []] []=Θ (.tup [],[])):=by
 unfold UX at h;split at h
 .rename_i h1
  split at h
  .rename_i h2
   injection h with h
   subst h;exact⟨rfl,P5 h1,λ_=>YM h2⟩
  .cases h
 .rename_i h1
  split at h
  .rename_i h2
   injection h with h
   subst h;exact⟨Nat.eq_of_beq_eq_true h2,P5 h1,λh=>by cases h⟩
  .cases h
 .cases h
def Yw(rs:List RlA):Option (Option (List RlA)):=match Nat.ble rs.length 10000,Pg dq rs []with
 |true,Θ Ξ=>Θ Ξ
 |true,Θ (Θ ls)=>(match Ph dq ls []with
  |some Ξ=>Θ Ξ
  |some (Θ out)=>(match UX dq out with
   |some s=>Θ (Θ s)
   |none=>Ξ)
  |none=>Ξ)
 |_,_=>Ξ
def Yx:Option (List RlA)->AV
 |some s=>.tup [.ls (s.map RlA.c),bv Δ]
 |none=>.tup [.ls [],bv Φ]
def Al1:List AV->Option (List RlA)
 |[.ls xs]=>Sx xs
 |[.v (.slice Ξ 0 0)]=>Θ []
 |_=>Ξ
def CN(args:List AV):Option AV:=match Al1 args with
 |some rs=>(match Yw dq rs with
  |some o=>Θ (Yx o)
  |none=>Ξ)
 |none=>Ξ
theorem Sy[S:Side]{w:World}{a b:AV}{u v:Value}(h:Ro [] w a u)(k:Ro [] w b v):Ro [] w (.tup [a,b]) (.tuple #[u,v]):=by
 unfold Ro at h k ⊢;simp only[Rep,RepList];exact⟨_,rfl,_,_,rfl,h,_,_,rfl,k,rfl⟩
theorem WE[S:Side]{own:List Nat}{w:World}:Ro own w (.ls []) (.slice Ξ 0 0):=by
 unfold Ro;simp only[Rep];exact⟨rfl,Ξ,0,rfl,κ _,AsB _,λh=>absurd rfl h⟩
theorem Qi:∀(s:List RlA) (i j:Nat) (r:RlA),s[i]? = Θ r->j<4->(s.flatMap RlA.c)[i*4+j]? = r.c[j]?
 |[],i,j,r,h,_=>by simp at h
 |x::s,0,j,r,h,hj=>by
  simp at h;subst h;rw[AtW,Nat.zero_mul,Ar5,List.getElem?_append_left (show j<x.c.length from hj)]
 |x::s,i+1,j,r,h,hj=>by
  rw[AtW,List.getElem?_append_right (show x.c.length<=(i+1)*4+j from (by show 4<=_;omega)),←Qi s i j r (by simpa using h) hj]
  congr 1
  show (i+1)*4+j-4=_
  omega
theorem AlY[S:Side]{own:List Nat}{w:World}{s:List RlA}{g cap:Nat}{T:TypeId}{cs:Array Value}(hb:Blk w g T cs)(hB:S.B<=g)(hs:Sd own w)(h1:cs.size=cap*4)(h2:s.length<=cap)(h3:cap<=maxLen)(h:RoL own w (s.flatMap RlA.c) (cs.toList.take (s.length*4))):Ro [] w (.ls (s.map RlA.c)) (.slice (Θ ⟨g,0,Ξ⟩) s.length cap):=by
 have hz:∀ o,¬ AdN g o:=by
  rintro o ⟨b,k,p,hk,hp,i,hi,rfl,rfl⟩;obtain⟨q,hq,B⟩:=hs.rep.blk b k hk;rw[hp]at hq;injection hq with hq
  subst hq;have:=S.low b k p hk hp (by
   rcases hi with h|h
   .have:=B.room;omega
   .omega)
  omega
 have hoff:∀ k o,C1 own w k o->C1 [] w k o:=λk o h=>⟨h.1,by simp,h.2.2⟩
 have h':RepList (λ_=>Ξ) (C1 [] w) w (s.flatMap RlA.c) (cs.toList.take (s.length*4)):=RepList.later ⟨λ_ _ h=>h,λk o hk=>⟨hoff k o hk,rfl⟩⟩ _ _ h;unfold Ro;simp only[Rep];refine⟨?_,Θ ⟨g,0,Ξ⟩,cap,by rw[Ar2],by rw[Ar2];exact h2,h3,λ_=>⟨g,0,4,rfl,RepRows.mk λi x hx=>?_⟩⟩
 .unfold I6
  rw[Ar3];intro x hx;obtain⟨r,_,rfl⟩:=Asj.1 hx;rfl
 .rw[Ass]at hx
  obtain⟨r,hr,rfl⟩:=Option.map_eq_some_iff.1 hx;have hi:=(Ar1.1 hr).1;refine⟨rfl,RepAt.mk λj y hy=>?_⟩;have hj:j<4:=(Ar1.1 hy).1;have e:(s.flatMap RlA.c)[i*4+j]? = Θ y:=by
   rw[←hy];exact Qi s i j r hr hj
  obtain⟨u,k1,k2⟩:=h'.get e;have hl:i*4+j<s.length*4:=by omega
  rw[List.getElem?_take,if_pos hl,Array.getElem?_toList]at k1;refine⟨⟨hb.lt,by simp,hz _⟩,u,?_,k2⟩;rw[Ar5,hb.cell];exact k1
theorem Aal(G:∀ f,Bu (BD ArP f) (dq f)):Bu (BD ArP 33) (Jr (CN dq)):=by
 refine V5 _ λargs r hr=>?_
 unfold CN at hr;split at hr
 .rename_i rs hrs
  split at hr
  .rename_i o ho
   injection hr with hr
   subst hr
   have key:∀(S:Side) (w:World) (A:Option Addr) (c:Nat),Sd [] w->Ro [] w (.ls (rs.map RlA.c)) (.slice A rs.length c)->BD ArP 33 [.slice A rs.length c] w λu w'=>∃ own',Xt [] own' w w'/\Ro [] w' (Yx o) u:=λS w A c hs hro=>by
    unfold Yw at ho;have none':∀ w' own',Xt [] own' w w'->(λu w'=>∃ own',Xt [] own' w w'/\Ro [] w' (Yx Ξ) u) (.tuple #[.slice Ξ 0 0,.bool Φ]) w':=λw' own' hx=>⟨own',hx,Sy WE (Ro.v rfl)⟩
    split at ho
    .rename_i hl h1
     injection ho with ho
     subst ho;exact Px dq G rs (Aty hl) Ξ (Fo dq h1) w A c hs hro Ξ _ (λ_=>none') (λls h=>by cases h) (λout h=>by cases h)
    .rename_i ls hl h1
     split at ho
     .rename_i h2
      injection ho with ho
      subst ho;exact Px dq G rs (Aty hl) (Θ ls) (Fo dq h1) w A c hs hro Ξ _ (λ_=>none') (λls' h=>by injection h with h;subst h;exact G0 dq h2) (λout h=>by cases h)
     .rename_i out h2
      split at ho
      .rename_i s h3
       injection ho with ho
       subst ho;obtain⟨s1,s2,s3⟩:=WM dq h3;refine Px dq G rs (Aty hl) (Θ ls) (Fo dq h1) w A c hs hro (Θ out) _ (λh=>?_) (λls' h=>by injection h with h;subst h;exact G0 dq h2) (λout' h=>?_)
       .rcases h with h|h<;>cases h
       .injection h with h
        subst h;refine⟨s,s1,s2,λh0=>⟨s3 h0,λw' own' hx=>⟨own',hx,?_⟩⟩,λw' own' g cap cs' hx hg hb h1 h2 h3 h4=>⟨own',hx,?_⟩⟩
        .subst h0
         obtain rfl:s=[]:=List.eq_nil_of_length_eq_zero s1;exact Sy WE (Ro.v rfl)
        .rw[←s1]at h2 h4 ⊢
         exact Sy (AlY hb (Asr hs.base hg) (hx.side hs) h1 h2 h3 h4) (Ro.v rfl)
      .cases ho
     .cases ho
    .cases ho
   unfold Al1 at hrs;split at hrs
   .rename_i xs
    refine⟨rfl,λS w us hs hro=>?_⟩;obtain⟨u,t,rfl,hu,ht⟩:=RoL.cons_inv hro;obtain rfl:=RoL.nil_inv ht;obtain⟨A,c,rfl⟩:=Rp.ls_inv hu.rp;obtain rfl:=LO hrs;have:=key S w A c hs (by rw[Ar2]at hu;exact hu);rw[Ar2];exact this
   .injection hrs with hrs
    subst hrs;refine⟨rfl,λS w us hs hro=>?_⟩;obtain⟨u,t,rfl,hu,ht⟩:=RoL.cons_inv hro;obtain rfl:=RoL.nil_inv ht;unfold Ro at hu;simp only[Rep]at hu;obtain⟨rfl,_⟩:=hu;exact key S w Ξ 0 hs WE
   .cases hrs
  .cases hr
 .cases hr
end
def Qu(p:List (Int × Int))(x:Ln):Bool:=decide (x.ps=p)
def J7(p:List (Int × Int))(ls:List Ln):List Ln:=if ls.findIdx (Qu p)<ls.length then ls else ls++[⟨p,Ξ,Ξ⟩]
theorem AnE{p:List (Int × Int)}{x:Ln}(h:x.ps=p):Qu p x=Δ:=decide_eq_true h
theorem AnD{p:List (Int × Int)}{x:Ln}(h:¬ x.ps=p):Qu p x=Φ:=decide_eq_false h
theorem V0(p:List (Int × Int)):∀ ls:List Ln,∃ x0,(J7 p ls)[ls.findIdx (Qu p)]? = Θ x0/\x0.ps=p/\(x0∈ls\/x0=⟨p,Ξ,Ξ⟩)/\∀ f,(J7 p ls).set (ls.findIdx (Qu p)) (f x0)=Hm p f ls
 |[]=>⟨⟨p,Ξ,Ξ⟩,rfl,rfl,.inr rfl,λf=>rfl⟩
 |x::r=>by
  obtain⟨x0,h1,h2,h3,h4⟩:=V0 p r
  by_cases h:x.ps=p
  .have e:(x::r).findIdx (Qu p)=0:=by rw[AtV,AnE h];rfl
   have ef:J7 p (x::r)=x::r:=by unfold J7;rw[e,if_pos (by simp)]
   refine⟨x,by rw[e,ef];rfl,h,.inl (υ ..),λf=>?_⟩;rw[e,ef,Hm,if_pos h];rfl
  .have e:(x::r).findIdx (Qu p)=r.findIdx (Qu p)+1:=by rw[AtV,AnD h];rfl
   have ef:J7 p (x::r)=x::J7 p r:=by
    unfold J7;rw[e,List.length_cons]
    by_cases hl:r.findIdx (Qu p)<r.length
    .rw[if_pos hl,if_pos (by omega)]
    .rw[if_neg hl,if_neg (by omega)]
     rfl
   refine⟨x0,by rw[e,ef,List.getElem?_cons_succ];exact h1,h2,h3.imp (γ _) id,λf=>?_⟩;rw[e,ef,Hm,if_neg h,List.set_cons_succ,h4]
theorem S2(p:List (Int × Int))(f:Ln->Ln){P:Ln->Prop}(hf:∀ x,x.ps=p->P x->P (f x))(hn:P (f ⟨p,Ξ,Ξ⟩)):∀ ls:List Ln,(∀ x∈ls,P x)->∀ y∈Hm p f ls,P y
 |[],_,y,hy=>by
  rw[Hm,Asq]at hy;rw[hy];exact hn
 |x::r,h,y,hy=>by
  unfold Hm at hy;split at hy
  .rename_i hx
   rcases ArR.1 hy with rfl|hy
   .exact hf x hx (h x (υ ..))
   .exact h y (γ _ hy)
  .rcases ArR.1 hy with rfl|hy
   .exact h _ (υ ..)
   .exact S2 p f hf hn r (λz hz=>h z (γ _ hz)) y hy
theorem FN(k:Nat):OB k Ξ:=λ_ h=>nomatch h
theorem Aox{k:Nat}{o:Option Int}{n:Int}(h:OB k o)(hn:InB k n):OB k (Uo o n):=λm hm=>by
 unfold Uo at hm
 cases o with
 |none=>injection hm with hm;rw[←hm];exact hn
 |some x=>
  simp only at hm;split at hm
  .injection hm with hm;rw[←hm];exact hn
  .exact h m hm
theorem Aow{k:Nat}{o:Option Int}{n:Int}(h:OB k o)(hn:InB k n):OB k (mnO o n):=λm hm=>by
 unfold mnO at hm
 cases o with
 |none=>injection hm with hm;rw[←hm];exact hn
 |some x=>
  simp only at hm;split at hm
  .injection hm with hm;rw[←hm];exact hn
  .exact h m hm
theorem LnB.low{n k:Nat}{x:Ln}{m:Int}(h:LnB n k x)(hm:InB k m):LnB n k (IX m x):=⟨h.pln,h.lb,Aox h.lo hm,h.hi⟩
theorem LnB.high{n k:Nat}{x:Ln}{m:Int}(h:LnB n k x)(hm:InB k m):LnB n k (FI m x):=⟨h.pln,h.lb,h.lo,Aow h.hi hm⟩
theorem LB.negP{n k:Nat}{ps:List (Int × Int)}{a:Int}(h:LB n k ⟨ps,a⟩):LB n k ⟨negP ps,a⟩:=⟨by show (AvS _ _).length<=n;rw[Ar2];exact h.len,λp hp=>by
 obtain⟨q,hq,rfl⟩:=Asj.1 hp;exact(h.ps q hq).neg,h.k⟩
theorem Ahj{n k:Nat}{ls:List Ln}{r:RL}(hls:∀ x∈ls,LnB n k x)(hp:Pln r.1.ps)(hb:LB n k r.1):∀ x∈EQ ls r,LnB n k x:=by
 have h0:LB n k ⟨r.1.ps,0⟩:=⟨hb.len,hb.ps,InB.zero k⟩;unfold EQ;split
 .refine S2 _ _ (P:=LnB n k) (λx _ hx=>?_) ?_ ls hls
  .split
   .exact(hx.low hb.k.neg).high hb.k.neg
   .exact hx.low hb.k.neg
  .have hx:LnB n k ⟨r.1.ps,Ξ,Ξ⟩:=⟨hp,h0,FN k,FN k⟩
   split
   .exact(hx.low hb.k.neg).high hb.k.neg
   .exact hx.low hb.k.neg
 .exact S2 _ _ (P:=LnB n k) (λx _ hx=>hx.high hb.k) ((⟨D1 hp,h0.negP,FN k,FN k⟩:LnB n k ⟨negP r.1.ps,Ξ,Ξ⟩).high hb.k) ls hls
def IY(r:RL):RlA:=⟨r.1.tm.ps.map eP,(Av r.1.k).neg,(Av r.1.k).abs.map eL,r.2⟩
theorem Anc(x:Ln):(Ef x).take 3=eT (Lf.tm ⟨x.ps,0⟩):=rfl
theorem AeY(p:List (Int × Int)):eT (Lf.tm ⟨p,0⟩)++Eh=Ef ⟨p,Ξ,Ξ⟩:=by
 unfold Ef eO;simp only[Option.getD_none,W0];rfl
def EO(D:Orc):Nat->DF:=λf a b=>D.ask (.fn f) a b
section
variable {D:Orc} (Kt:Knows At FS D) (Kf:Knows At KZ D) (Ks:Knows At D9 D) (Z:ZF D) (C:PartF D) (Kl:Knows At KY D) (Kd:Knows At Q2 D)
include Kt Kf Ks Z C Kl Kd
theorem AoM{n k:Nat}(hn:n<=100000)(hk:k<=1000000){p:List (Int × Int)}(hp:Pln p)(hb:LB n k ⟨p,0⟩){x:Ln}(hx:LnB n k x):D.ask (.fn 213) [.agg ((Ef x).take 3),.agg (eT (Lf.tm ⟨p,0⟩))] []=Θ (bv (Qu p x),[]):=by
 rw[Anc,Ac9 Kt Kf Ks Z C Kl Kd hx.lb.tb hb.tb (by omega) (by omega),Cd,Cd,Sm hx.pln,Sm hp];unfold Qu
 by_cases h:x.ps=p
 .rw[decide_eq_true h,decide_eq_true (Lg.2 (by rw[h]))]
 .rw[decide_eq_false h,decide_eq_false (λe=>h (congrArg Lf.ps (Lg.1 e)))]
theorem Xv{n k:Nat}(hn:n<=100000)(hk:k<=1000000){p:List (Int × Int)}(hp:Pln p)(hb:LB n k ⟨p,0⟩){ls:List Ln}(hls:∀ x∈ls,LnB n k x) :
  Aab (EO D) (eT (Lf.tm ⟨p,0⟩)) (ls.map Ef)=Δ/\(ls.map Ef).findIdx (QT (EO D) (eT (Lf.tm ⟨p,0⟩)))=ls.findIdx (Qu p)/\Eg (QT (EO D) (eT (Lf.tm ⟨p,0⟩))) (ls.map Ef) (eT (Lf.tm ⟨p,0⟩)++Eh)=(J7 p ls).map Ef:=by
 have e:∀ x∈ls,EO D 213 [.agg ((Ef x).take 3),.agg (eT (Lf.tm ⟨p,0⟩))] []=Θ (bv (Qu p x),[]):=λx hx=>AoM Kt Kf Ks Z C Kl Kd hn hk hp hb (hls x hx)
 have e2:∀ x∈ls,QT (EO D) (eT (Lf.tm ⟨p,0⟩)) (Ef x)=Qu p x:=λx hx=>by
  unfold QT;rw[e x hx];rfl
 have e3:(ls.map Ef).findIdx (QT (EO D) (eT (Lf.tm ⟨p,0⟩)))=ls.findIdx (Qu p):=by
  clear hls e
  induction ls with
  |nil=>rfl
  |cons x r ih=>
   rw[Ar7,AtV,AtV,e2 x (υ ..),ih λy hy=>e2 y (γ _ hy)]
 refine⟨?_,e3,?_⟩
 .unfold Aab
  rw[Ar3];intro z hz;obtain⟨x,hx,rfl⟩:=Asj.1 hz;rw[e x hx];rfl
 .unfold Eg J7
  rw[e3,Ar2,AeY];split
  .rfl
  .rw[Au4]
   rfl
theorem OL{y:Ln}:Qy (Θ (.tup [],[.set (bk (Ef y))]))=Θ (Ef y):=by
 rfl
theorem AcX{n k:Nat}(hn:n<=100000)(hk:k<=1000000){ls:List Ln}(hls:∀ x∈ls,LnB n k x){r:RL}(hr:TgR r)(hb:LB n k r.1):Uw (EO D) (ls.map Ef) (IY r)=Θ ((EQ ls r).map Ef):=by
 have gN:EO D 125 [.agg (eZ (Av r.1.k))] []=Θ (.agg (eT (Lf.num r.1.k).tm),[]):=by
  have:=QL Kt Kf Z (hb.k.lz.mono (show k<=1000000000 by omega));rw[Bf]at this;exact this
 have gS:EO D 127 [.agg (eT r.1.tm),.agg (eT (Lf.num r.1.k).tm)] []=Θ (.agg (eT (Lf.tm ⟨r.1.ps,0⟩)),[]):=by
  have g:=WP Kt Kf Ks Z C hb.tb (Wq hb.k) (by omega) (by omega);rw[Cd,Cd,show r.1.sub (Lf.num r.1.k)=⟨r.1.ps,r.1.k-r.1.k⟩ from Yo hr.pln _ _,Int.sub_self]at g;exact g
 have h0:LB n k ⟨r.1.ps,0⟩:=⟨hb.len,hb.ps,InB.zero k⟩;have gM:EO D 68 [.agg (eT (Lf.tm ⟨r.1.ps,0⟩))] []=Θ (.agg (eT (Lf.tm ⟨negP r.1.ps,0⟩)),[]):=by
  have g:=Wm Kt Kf Ks Z C h0.tb (by omega) (by omega);rw[Cd,IU (l:=⟨r.1.ps,0⟩) hr.pln,show -(0:Int)=0 from rfl]at g;exact g
 have gG:EO D 161 [.agg (eZ (Av r.1.k))] []=Θ (.agg (eZ (Av (-r.1.k))),[]):=by
  have:=Z.neg (Av r.1.k) (hb.k.lz.mono (by omega));rw[Bf]at this;exact this
 have gF:=Xv Kt Kf Ks Z C Kl Kd hn hk hr.pln h0 hls;have gF':=Xv Kt Kf Ks Z C Kl Kd hn hk (D1 hr.pln) h0.negP hls;obtain⟨q,rest,hq⟩:∃ q rest,r.1.ps=q::rest:=by
  cases h:r.1.ps with
  |nil=>exact absurd h hr.ne
  |cons q rest=>exact⟨q,rest,rfl⟩
 have gG2:EO D 64 [.agg (eZ (Av q.2))] []=Θ (iv (Cu q.2),[]):=by
  have:=Z.sign (Av q.2) ((hb.ps q (by rw[hq];exact υ ..)).lz.mono (by omega));rw[Bf]at this;exact this
 have hd:Jw r.1.ps=q.2:=by rw[hq];rfl
 obtain⟨x0,f1,f2,f3,f4⟩:=V0 r.1.ps ls;obtain⟨y0,f1',f2',f3',f4'⟩:=V0 (negP r.1.ps) ls;have bx0:LnB n k x0:=by
  rcases f3 with h|h
  .exact hls _ h
  .rw[h];exact⟨hr.pln,h0,FN k,FN k⟩
 have by0:LnB n k y0:=by
  rcases f3' with h|h
  .exact hls _ h
  .rw[h];exact⟨D1 hr.pln,h0.negP,FN k,FN k⟩
 have gL:EO D 160 [.ptr 0 0,.agg (eZ (Av (-r.1.k)))] [bk (Ef x0)]=Θ (.tup [],[.set (bk (Ef (IX (-r.1.k) x0)))]):=AcE Z Kd (by omega) x0 hb.k.neg bx0.lo;have gH:EO D 162 [.ptr 0 0,.agg (eZ (Av (-r.1.k)))] [bk (Ef (IX (-r.1.k) x0))]=Θ (.tup [],[.set (bk (Ef (FI (-r.1.k) (IX (-r.1.k) x0))))]):=Qz Z Kd (by omega) _ hb.k.neg bx0.hi;have gH':EO D 162 [.ptr 0 0,.agg (eZ (Av r.1.k))] [bk (Ef y0)]=Θ (.tup [],[.set (bk (Ef (FI r.1.k y0)))]):=Qz Z Kd (by omega) _ hb.k by0.hi;have hx:((J7 r.1.ps ls).map Ef)[ls.findIdx (Qu r.1.ps)]? = Θ (Ef x0):=by rw[Ass,f1];rfl
 have hy:((J7 (negP r.1.ps) ls).map Ef)[ls.findIdx (Qu (negP r.1.ps))]? = Θ (Ef y0):=by rw[Ass,f1'];rfl
 obtain⟨s1,s2,s3⟩:=gF;obtain⟨s1',s2',s3'⟩:=gF';have set1:∀ f:Ln->Ln,((J7 r.1.ps ls).map Ef).set (ls.findIdx (Qu r.1.ps)) (Ef (f x0))=(Hm r.1.ps f ls).map Ef:=λf=>by rw[←AvT,f4]
 have set2:∀ f:Ln->Ln,((J7 (negP r.1.ps) ls).map Ef).set (ls.findIdx (Qu (negP r.1.ps))) (Ef (f y0))=(Hm (negP r.1.ps) f ls).map Ef:=λf=>by rw[←AvT,f4']
 have eT0:eT (Lf.tm ⟨r.1.ps,0⟩)=[.ls (([iv q.1,bv (Av q.2).neg,.ls ((Av q.2).abs.map eL)]:List AV)::rest.map (λp=>eP (AJ p))),bv (Av 0).neg,.ls ((Av 0).abs.map eL)]:=by
  unfold eT Lf.tm;rw[hq];simp only[Ar7,Atk];rfl
 have a1:EO D 125 [.agg [bv (IY r).kn,.ls (IY r).ka]] []=Θ (.agg [.ls [],.v (.bool (Av r.1.k).neg),.ls ((Av r.1.k).abs.map eL)],[]):=gN;have a2:EO D 127 [.agg [.ls (IY r).ps,bv (IY r).kn,.ls (IY r).ka],.agg [.ls [],bv (Av r.1.k).neg,.ls ((Av r.1.k).abs.map eL)]] []=Θ (.agg [.ls ([iv q.1,.v (.bool (Av q.2).neg),.ls ((Av q.2).abs.map eL)]::rest.map (λp=>eP (AJ p))),.v (.bool (Av 0).neg),.ls ((Av 0).abs.map eL)],[]):=by
  have:=gS;rw[eT0]at this;exact this
 have a3:Vl (EO D 64 [.agg [bv (Av q.2).neg,.ls ((Av q.2).abs.map eL)]] [])=Θ (Cu q.2):=by
  have:=gG2;unfold eZ eN at this;rw[this];rfl
 rw[eT0]at s1 s2 s3 gM;unfold Uw;rw[a1];dsimp only;rw[a2];dsimp only;rw[a3];dsimp only
 by_cases hs:0<q.2
 .rw[decide_eq_true ((Yk _).2 hs)]
  dsimp only;have gG':EO D 161 [.agg [bv (IY r).kn,.ls (IY r).ka]] []=Θ (.agg [.v (.bool (Av (-r.1.k)).neg),.ls ((Av (-r.1.k)).abs.map eL)],[]):=gG;rw[s1,gG',s2,s3,hx];dsimp only;have gL':EO D 160 [.ptr 0 0,.agg [bv (Av (-r.1.k)).neg,.ls ((Av (-r.1.k)).abs.map eL)]] [⟨Ef x0,Δ,Φ⟩]=Θ (.tup [],[.set (bk (Ef (IX (-r.1.k) x0)))]):=gL;rw[gL',OL Kt Kf Ks Z C Kl Kd];dsimp only;unfold EQ;rw[hd,if_pos hs];have gH2:EO D 162 [.ptr 0 0,.agg [bv (Av (-r.1.k)).neg,.ls ((Av (-r.1.k)).abs.map eL)]] [⟨Ef (IX (-r.1.k) x0),Δ,Φ⟩]=Θ (.tup [],[.set (bk (Ef (FI (-r.1.k) (IX (-r.1.k) x0))))]):=gH
  cases he:r.2 with
  |false=>
   have:(IY r).eq=Φ:=he;rw[this];dsimp only;rw[set1 (IX (-r.1.k))];simp
  |true=>
   have:(IY r).eq=Δ:=he;rw[this];dsimp only;rw[gH2,OL Kt Kf Ks Z C Kl Kd];dsimp only;rw[List.set_set,set1 λx=>FI (-r.1.k) (IX (-r.1.k) x)];simp
 .rw[decide_eq_false (λh=>hs ((Yk _).1 h))]
  dsimp only;have gM':=gM;have gM2:EO D 68 [.agg [.ls ([iv q.1,bv (Av q.2).neg,.ls ((Av q.2).abs.map eL)]::rest.map (λp=>eP (AJ p))),bv (Av 0).neg,.ls ((Av 0).abs.map eL)]] []=Θ (.agg [.ls ((Lf.tm ⟨negP r.1.ps,0⟩).ps.map eP),.v (.bool (Av 0).neg),.ls ((Av 0).abs.map eL)],[]):=gM;rw[gM2];dsimp only;have t1:Aab (EO D) [.ls ((Lf.tm ⟨negP r.1.ps,0⟩).ps.map eP),bv (Av 0).neg,.ls ((Av 0).abs.map eL)] (ls.map Ef)=Δ:=s1';have t2:(ls.map Ef).findIdx (QT (EO D) [.ls ((Lf.tm ⟨negP r.1.ps,0⟩).ps.map eP),bv (Av 0).neg,.ls ((Av 0).abs.map eL)])=ls.findIdx (Qu (negP r.1.ps)):=s2';have t3:Eg (QT (EO D) [.ls ((Lf.tm ⟨negP r.1.ps,0⟩).ps.map eP),bv (Av 0).neg,.ls ((Av 0).abs.map eL)]) (ls.map Ef) ([.ls ((Lf.tm ⟨negP r.1.ps,0⟩).ps.map eP),bv (Av 0).neg,.ls ((Av 0).abs.map eL)]++Eh)=(J7 (negP r.1.ps) ls).map Ef:=s3';rw[t1,t2,t3,hy];dsimp only;have gH3:EO D 162 [.ptr 0 0,.agg [bv (IY r).kn,.ls (IY r).ka]] [⟨Ef y0,Δ,Φ⟩]=Θ (.tup [],[.set (bk (Ef (FI r.1.k y0)))]):=gH';rw[gH3,OL Kt Kf Ks Z C Kl Kd];dsimp only;unfold EQ;rw[hd,if_neg hs,set2 (FI r.1.k)]
end


theorem FB.mono{n k m j:Nat}(hn:n<=m)(hk:k<=j):∀(N:Nat) (x:Fm),SizeOf.sizeOf x<N->FB n k x->FB m j x:=by
 intro N
 induction N with
 |zero=>intro x h;omega
 |succ N ih=>
  intro x hN hx;obtain⟨ht,hl,h⟩:=hx;rename_i kd t e ks;exact .mk (ht.mono hn hk) hl λy hy=>ih y (by have:=Acn (k:=kd) (t:=t) (e:=e) hy;omega) (h y hy)
theorem Yy(n k:Nat):TmB n k Tm0:=⟨AsB _,λp hp=>(by cases hp),⟨λx hx=>(by cases hx),AsB _⟩⟩
theorem WS{n k:Nat}{t:Tm}(ht:TmB n k t)(hk:1<=k)(e:Bool):TmB n (k+4*n+4) (C8 t.lf.pln.tm e).1.1:=by
 have hp:=ht.lb.pln.tb;have hs:=AdM hp (show 1<=k+n by omega);unfold C8;split
 .exact Yy _ _
 split
 .split
  .show TmB _ _ (if hdS (Fx t.lf.pln.tm)<0 then _ else _)
   split
   .exact((hs.lb.scale (x:=-1) (j:=1) (by unfold InB;decide)).tb).mono (κ _) (by omega)
   .exact hs.mono (κ _) (by omega)
  .exact Yy _ _
 .exact hs.mono (κ _) (by omega)
def rlT(x:Tm × Bool):RlA:=⟨x.1.ps.map eP,x.1.k.neg,x.1.k.abs.map eL,x.2⟩
def MB(x:Tm × Bool):RL:=(x.1.lf,x.2)
theorem AoJ(x:Tm × Bool):(rlT x).c=CP x:=rfl
theorem Al9(l:Lf)(e:Bool):GA l e=-1\/GA l e=0\/GA l e=1:=by
 unfold GA C8;split
 .simp only
  split
  .exact .inr (.inr rfl)
  .exact .inl rfl
 .split
  .split
   .exact .inr (.inl rfl)
   .exact .inl rfl
  .exact .inr (.inl rfl)
theorem UH:∀ l:List RL,Sx (l.map Ec)=Θ (l.map IY)
 |[]=>rfl
 |r::l=>by
  rw[Ar7,Sx,UH l];rfl
theorem NT:∀ l:List RL,Ld (Ag Ec l)=Θ (l.map IY)
 |[]=>rfl
 |r::l=>by
  have e:Ag Ec (r::l)=.ls (r.1.tm.ps.map eP)::bv r.1.tm.k.neg::.ls (r.1.tm.k.abs.map eL)::bv r.2::Ag Ec l:=rfl;rw[e,Ld,NT l];rfl
theorem Ql:∀ l:List RL,(l.map IY).flatMap RlA.c=Ag Ec l
 |[]=>rfl
 |r::l=>by
  rw[Ar7,AtW,Ql l];rfl
section
variable {D:Orc} (Kt:Knows At FS D) (Kf:Knows At KZ D) (Ks:Knows At D9 D) (Z:ZF D) (C:PartF D) (Kl:Knows At KY D) (Kd:Knows At Q2 D)
include Kt Kf Ks Z C Kl Kd
theorem Yh{n k:Nat}(hn:n<=100000)(hk:k<=1000000):∀(rs:List (Tm × Bool)) (ls:List Ln),(∀ x∈ls,LnB n k x)->(∀ x∈rs,EO D 17 [.agg (CP x)] []=Θ (.tup [.agg (CP (C8 x.1.lf.pln.tm x.2).1),iv (C8 x.1.lf.pln.tm x.2).2],[])/\TmB n k (C8 x.1.lf.pln.tm x.2).1.1)->
  Pg (EO D) (rs.map rlT) (ls.map Ef)=Θ (match C9 (rs.map MB) with|none=>Ξ|some T=>Θ ((T.foldl EQ ls).map Ef))/\∀ T,C9 (rs.map MB)=Θ T->∀ x∈T.foldl EQ ls,LnB n k x
 |[],ls,hls,_=>⟨rfl,λT h=>by injection h with h;subst h;exact hls⟩
 |x::rs,ls,hls,hT=>by
  obtain⟨g,hb⟩:=hT x (υ ..);have ih:=λls h=>Yh hn hk rs ls h λy hy=>hT y (γ _ hy)
  have ea:AeI (EO D 17 [.agg (rlT x).c] [])=Θ (rlT (C8 x.1.lf.pln.tm x.2).1,GA x.1.lf x.2):=by
   rw[AoJ,g];rfl
  rw[Ar7,Ar7,Pg,ea,C9];have e1:GA (MB x).1 (MB x).2=GA x.1.lf x.2:=rfl;rw[e1];dsimp only;rcases Al9 x.1.lf x.2 with h|h|h
  .rw[h]
   refine⟨rfl,λT h=>?_⟩;rw[if_pos (by decide)]at h
   cases h
  .obtain⟨tg,et⟩:=SV h
   have er:rlT (C8 x.1.lf.pln.tm x.2).1=IY (Hl x.1.lf x.2):=by rw[et];rfl
   have hb2:LB n k (Hl x.1.lf x.2).1:=hb.lb;have gn:=AcX Kt Kf Ks Z C Kl Kd hn hk hls tg hb2;obtain⟨i1,i2⟩:=ih _ (Ahj hls tg.pln hb2);rw[h,er,if_neg (by decide)];rw[show decide ((0:Int)=-1)=Φ from rfl,show decide ((0:Int)=0)=Δ from rfl];dsimp only;rw[gn];dsimp only;rw[i1];have e2:Hl (MB x).1 (MB x).2=Hl x.1.lf x.2:=rfl;rw[e2]
   cases et2:C9 (rs.map MB) with
   |none=>exact⟨rfl,λT h=>by cases h⟩
   |some t=>
    refine⟨rfl,λT h=>?_⟩;injection h with h
    subst h;exact i2 t et2
  .obtain⟨i1,i2⟩:=ih ls hls
   rw[h,if_neg (by decide)];rw[show decide ((1:Int)=-1)=Φ from rfl,show decide ((1:Int)=0)=Φ from rfl];dsimp only;rw[i1]
   cases et2:C9 (rs.map MB) with
   |none=>exact⟨rfl,λT h=>by cases h⟩
   |some t=>
    refine⟨rfl,λT h=>?_⟩;injection h with h
    subst h;exact i2 t et2
omit Kl in
theorem Yi{n k:Nat}(hn:n<=100000)(hk:k<=1000000):∀(ls:List Ln) (out:List RL),(∀ x∈ls,LnB n k x/\(x.lo≠Ξ\/x.hi≠Ξ))->
  Ph (EO D) (ls.map Ef) (out.map IY)=Θ (match Hh ls with|none=>Ξ|some l=>Θ ((out++l).map IY))
 |[],out,_=>by
  rw[Hh];simp only[List.append_nil];rfl
 |x::ls,out,h=>by
  obtain⟨hb,hne⟩:=h x (υ ..);have ih:=λout=>Yi hn hk ls out λy hy=>h y (γ _ hy)
  have g:EO D 89 [.ptr 0 0] [⟨Ef x,Δ,Φ⟩]=Θ (O8 x,[.set (bk (Ef x))]):=Zo Kt Kf Ks Z C Kd hb hn hk;rw[Ar7,Ph,g,Hh]
  cases er:FP x with
  |none=>
   have:YK (Θ (O8 x,[.set (bk (Ef x))]))=Θ ([],Φ,Ef x):=by
    unfold O8;rw[er];rfl
   rw[this]
  |some l=>
   have:YK (Θ (O8 x,[.set (bk (Ef x))]))=Θ (l.map IY,Δ,Ef x):=by
    unfold O8;rw[er];unfold YK;simp only[bv];rw[UH];rfl
   rw[this];have hl:(∃ a,l=[a])\/∃ a b,l=[a,b]:=by
    obtain⟨ps,lo,hi⟩:=x;unfold FP at er
    cases lo with
    |none=>
     cases hi with
     |none=>rcases hne with h|h<;>exact absurd rfl h
     |some v=>injection er with er;exact .inl ⟨_,er.symm⟩
    |some u=>
     cases hi with
     |none=>injection er with er;exact .inl ⟨_,er.symm⟩
     |some v=>
      simp only at er;split at er
      .cases er
      split at er
      .injection er with er;exact .inl ⟨_,er.symm⟩
      .injection er with er;exact .inr ⟨_,_,er.symm⟩
   rcases hl with⟨a,rfl⟩|⟨a,b,rfl⟩
   .have:=ih (out++[a])
    rw[Au4]at this;simp only[Ar7,Atl]at this ⊢;rw[this]
    cases Hh ls<;>simp
   .have:=ih (out++[a,b])
    rw[Au4]at this;simp only[Ar7,Atl]at this ⊢;rw[this]
    cases Hh ls<;>simp
end
structure SrF (D:Orc) (n k:Nat):Prop where
 sort:∀ l:List RL,l.length<=12->l.Nodup->(∀ x∈l,TgR x/\LB n k x.1)->∃ r:List RL,D.ask (.fn 90) [.sl 0 0 l.length 4,.fn (.func 25) [] []] [δ (Ag Ec l) Δ Δ]=Θ (.tup [],[.set (δ (Ag Ec r) Δ Δ)])/\r.Perm l/\PI r
 nil:D.ask (.fn 90) [.v (.slice Ξ 0 0),.fn (.func 25) [] []] []=Θ (.tup [],[])
theorem AdR{D:Orc}{n k:Nat}(S:SrF D n k){l:List RL}(h1:l.length<=12)(h2:l.Nodup)(h3:∀ x∈l,TgR x/\LB n k x.1):∃ r:List RL,UX (EO D) (l.map IY)=Θ (r.map IY)/\r.Perm l/\PI r:=by
 obtain⟨r,g,hp,ha⟩:=S.sort l h1 h2 h3;refine⟨r,?_,hp,ha⟩;have e:AeH (l.map IY) (EO D 90 [.sl 0 0 (l.map IY).length 4,.fn (.func 25) [] []] [⟨(l.map IY).flatMap RlA.c,Δ,Δ⟩])=Θ (r.map IY):=by
  rw[Ar2,Ql];unfold EO;rw[g];exact NT r
 have hlen:=hp.length_eq;unfold UX;rw[e]
 cases l with
 |nil=>
  have:r=[]:=List.length_eq_zero_iff.1 hlen;subst this;have:AaU (EO D 90 [.v (.slice Ξ 0 0),.fn (.func 25) [] []] [])=Δ:=by
   unfold EO;rw[S.nil];rfl
  show (match AaU _ with|true=>Θ [] | false=>Ξ)=_
  rw[this];rfl
 |cons x l=>
  have:AsA (r.map IY).length ((x::l).map IY).length=Δ:=by
   rw[Ar2,Ar2,hlen];exact Nat.beq_refl _
  cases r with
  |nil=>simp at hlen
  |cons y r=>
   show (match AsA ((y::r).map IY).length ((x::l).map IY).length with|true=>Θ ((y::r).map IY) | false=>Ξ)=_
   rw[this]
theorem Ado{n k:Nat}{x:Ln}(h:LnB n k x){r:RL}(g:Nx x.ps x.lo x.hi r):LB n k r.1:=by
 rcases g with⟨a,h1,_,rfl⟩|⟨_,⟨a,h1,rfl⟩|⟨b,h1,rfl⟩⟩
 .exact⟨h.lb.len,h.lb.ps,(h.lo a h1).neg⟩
 .exact⟨h.lb.len,h.lb.ps,(h.lo a h1).neg⟩
 .exact LB.negP ⟨h.lb.len,h.lb.ps,h.hi b h1⟩
section
variable {D:Orc} (Kt:Knows At FS D) (Kf:Knows At KZ D) (Ks:Knows At D9 D) (Z:ZF D) (C:PartF D) (Kl:Knows At KY D) (Kd:Knows At Q2 D)
include Kt Kf Ks Z C Kl Kd
theorem Ad5{n k:Nat}(S:SrF D n k)(hn:n<=100000)(hk:k<=1000000){rs:List (Tm × Bool)}(hrs:rs.length<=10000)
  (hT:∀ x∈rs,EO D 17 [.agg (CP x)] []=Θ (.tup [.agg (CP (C8 x.1.lf.pln.tm x.2).1),iv (C8 x.1.lf.pln.tm x.2).2],[])/\TmB n k (C8 x.1.lf.pln.tm x.2).1.1)
  (hq:∃ qs:List RL,qs.length<=12/\∀ x,x∈rs.map MB ↔ x∈qs) :
  ∃ o:Option (List RL),C2 (rs.map MB) o/\Yw (EO D) (rs.map rlT)=Θ (o.map (AvS IY)):=by
 obtain⟨r1,r2⟩:=Yh Kt Kf Ks Z C Kl Kd hn hk rs [] (by simp) hT;rw[Atl]at r1;have hble:Nat.ble (rs.map rlT).length 10000=Δ:=by rw[Ar2,Nat.ble_eq];exact hrs
 unfold Yw C2;rw[hble,r1]
 cases e:C9 (rs.map MB) with
 |none=>exact⟨Ξ,rfl,rfl⟩
 |some T=>
  have htg:=Nr e;have hok:LsOk T (T.foldl EQ []):=LF htg;have hlb:=r2 T e;have hne:∀ x∈T.foldl EQ [],LnB n k x/\(x.lo≠Ξ\/x.hi≠Ξ):=λx hx=>by
   refine⟨hlb x hx,?_⟩;have ok:=hok.ok x hx;obtain⟨hp,r,hr,h⟩:=ok.key;rcases h with h|h
   .obtain⟨u,hu⟩:=AcF hr h
    exact .inl (by rw[ok.lo,hu];simp)
   .obtain⟨u,hu⟩:=Ab1 hp hr h
    exact .inr (by rw[ok.hi,hu];simp)
  have r3:=Yi Kt Kf Ks Z C Kd hn hk (T.foldl EQ []) [] hne;rw[Atl]at r3;dsimp only;rw[r3];obtain⟨t1,t2⟩:=SX hok
  cases ea:Hh (T.foldl EQ []) with
  |none=>exact⟨Ξ,t1 ea,rfl⟩
  |some l=>
   obtain⟨hnd,t3⟩:=t2 l ea;have hmem:=(Iy ea).1;have hout:∀ r∈l,Rh T r:=λr hr=>by
    obtain⟨x,hx,g⟩:=(hmem r).1 hr;have ok:=hok.ok x hx;rw[ok.lo,ok.hi]at g;exact⟨x.ps,ok.key,g⟩
   have hlen:l.length<=12:=by
    obtain⟨qs,hl,hqs⟩:=hq;obtain⟨a1,a2⟩:=GB (rs:=rs.map MB);obtain⟨b1,b2⟩:=GB (rs:=qs)
    cases e2:C9 qs with
    |none=>
     obtain⟨r,hr,hlt⟩:=b1.1 e2;rw[a1.2 ⟨r,(hqs r).2 hr,hlt⟩]at e
     cases e
    |some U=>
     have hUT:∀ x,x∈T ↔ x∈U:=λx=>by
      rw[a2 T e,b2 U e2];constructor
      .rintro⟨r,hr,g⟩;exact⟨r,(hqs r).1 hr,g⟩
      .rintro⟨r,hr,g⟩;exact⟨r,(hqs r).2 hr,g⟩
     have h1:=X4 hnd (T:=U) λr hr=>(Uy hUT r).1 (hout r hr)
     have h2:=Pw e2;omega
   obtain⟨s,g,hp,ha⟩:=AdR S hlen hnd λr hr=>⟨Wv htg (hout r hr),by
    obtain⟨x,hx,g⟩:=(hmem r).1 hr;exact Ado (hlb x hx) g⟩
   refine⟨Θ s,t3 s ha λr=>hp.mem_iff,?_⟩;dsimp only;rw[List.nil_append,g];rfl
theorem WB{n k:Nat}(S:SrF D n k)(hn:n<=100000)(hk:k<=1000000){rs:List (Tm × Bool)}(hrs:rs.length<=10000)
  (hT:∀ x∈rs,EO D 17 [.agg (CP x)] []=Θ (.tup [.agg (CP (C8 x.1.lf.pln.tm x.2).1),iv (C8 x.1.lf.pln.tm x.2).2],[])/\TmB n k (C8 x.1.lf.pln.tm x.2).1.1)
  (hq:∃ qs:List RL,qs.length<=12/\∀ x,x∈rs.map MB ↔ x∈qs) :
  ∃ o:Option (List RL),C2 (rs.map MB) o/\Jr (CN (EO D)) [.ls (rs.map CP)] []=Θ (match o with|some s=>.tup [.ls (s.map Ec),bv Δ] | none=>.tup [.ls [],bv Φ],[]):=by
 obtain⟨o,h1,h2⟩:=Ad5 Kt Kf Ks Z C Kl Kd S hn hk hrs hT hq;refine⟨o,h1,?_⟩;have hr:Al1 [.ls (rs.map CP)]=Θ (rs.map rlT):=by
  show Sx (rs.map CP)=_
  clear h1 h2 hrs hT hq
  induction rs with
  |nil=>rfl
  |cons x r ih=>
   rw[Ar7,Sx,ih];rfl
 have:CN (EO D) [.ls (rs.map CP)]=Θ (Yx (o.map (AvS IY))):=by
  unfold CN;rw[hr];dsimp only;rw[h2]
 show (CN (EO D) [.ls (rs.map CP)]).map _=_
 rw[this]
 cases o with
 |none=>rfl
 |some s=>
  show Θ (AV.tup [.ls ((s.map IY).map RlA.c),bv Δ],[])=_
  rw[Atk];rfl
end
theorem AlN{n k:Nat}{T:List RL}(hT:∀ r∈T,LB n k r.1){r:RL}(h:Rh T r):LB n k r.1:=by
 obtain⟨p,⟨_,s,hs,e⟩,g⟩:=h;have b:=hT s hs;have hp:∀ a,InB k a->LB n k ⟨p,a⟩:=λa ha=>by
  rcases e with e|e
  .rw[←e]
   exact⟨b.len,b.ps,ha⟩
  .have e2:p=negP s.1.ps:=by rw[e,Fk]
   rw[e2];exact LB.negP ⟨b.len,b.ps,ha⟩
 have lo:∀ a,Nf T p=Θ a->InB k (-a):=λa h=>by
  obtain⟨⟨s,hs,_,e⟩,_⟩:=Km.1 h;rw[←e,Int.neg_neg];exact(hT s hs).k
 have hi:∀ b,MS T p=Θ b->InB k b:=λb h=>by
  obtain⟨⟨s,hs,e⟩,_⟩:=Ol.1 h;rcases e with⟨_,_,e⟩|⟨_,_,e⟩
  .rw[←e]
   exact(hT s hs).k.neg
  .rw[←e]
   exact(hT s hs).k
 rcases g with⟨a,h1,_,rfl⟩|⟨_,⟨a,h1,rfl⟩|⟨b,h1,rfl⟩⟩
 .exact hp _ (lo a h1)
 .exact hp _ (lo a h1)
 .exact LB.negP (hp _ (hi b h1))
theorem Aaj{rs s:List RL}(h:C2 rs (Θ s)):s.length<=rs.length:=by
 unfold C2 at h
 cases e:C9 rs with
 |none=>rw[e]at h;cases h
 |some T=>
  rw[e]at h;exact Asr (Ad6 h) (Pw e)
theorem Ad4{n k:Nat}{rs s:List RL}(h:C2 rs (Θ s))(hb:∀ r∈rs,LB n k (Hl r.1 r.2).1):PI s/\∀ r∈s,LB n k r.1/\TgR r:=by
 unfold C2 at h
 cases e:C9 rs with
 |none=>rw[e]at h;cases h
 |some T=>
  rw[e]at h;refine⟨h.2.1,λr hr=>⟨AlN (λx hx=>?_) ((h.2.2 r).1 hr),Wv (Nr e) ((h.2.2 r).1 hr)⟩⟩;obtain⟨y,hy,_,rfl⟩:=((GB (rs:=rs)).2 T e x).1 hx;exact hb y hy
theorem IV{r:RL}(h:TgR r)(s:List RL):C9 (r::s)=(C9 s).map (r::·):=by
 have e:=Pv h;have k:GA r.1 r.2=0:=by unfold GA;rw[h.plnE,e]
 have t:Hl r.1 r.2=r:=by unfold Hl;rw[h.plnE,e];simp only[Cd]
 rw[C9,k,t]
 cases C9 s<;>rfl
def rX:RL:=(⟨[(0,1)],0⟩,Φ)
def ZJ:RL:=(⟨[(0,-1)],0⟩,Φ)
def rX1:RL:=(⟨[(0,1)],-1⟩,Φ)
def rXe:RL:=(⟨[(0,1)],0⟩,Δ)
def rK5:RL:=(⟨[],5⟩,Φ)
theorem Sn{v c:Int}(hv:0<=v)(hc:c≠0):Pln [(v,c)]:=
 ⟨At7 ..,λp hp=>by rw[Asq]at hp;rw[hp];exact hv,λp hp=>by rw[Asq]at hp;rw[hp];exact hc⟩
theorem tgX:TgR rX:=⟨Sn (by decide) (by decide),by unfold rX;simp,by decide,λh=>by cases h⟩
theorem Ah0:TgR ZJ:=⟨Sn (by decide) (by decide),by unfold ZJ;simp,by decide,λh=>by cases h⟩
theorem AoS:TgR rX1:=⟨Sn (by decide) (by decide),by unfold rX1;simp,by decide,λh=>by cases h⟩
theorem AoT:C9 [rK5]=Θ []:=by
 have k:GA rK5.1 rK5.2=1:=by
  unfold GA C8;rw[if_pos (by rfl)];refine if_pos (.inr ⟨rfl,?_⟩)
  show 0<zv (Av 5)
  rw[Bf]
  decide
 rw[C9,k];rfl
theorem Ad8:C2 [rX,ZJ,rK5] (Θ [rXe]):=by
 have e:C9 [rX,ZJ,rK5]=Θ [rX,ZJ]:=by rw[IV tgX,IV Ah0,AoT];rfl
 unfold C2;rw[e];have h:=LF (T:=[rX,ZJ]) λr hr=>by
  rcases ArR.1 hr with rfl|hr
  .exact tgX
  .rw[Asq]at hr
   rw[hr];exact Ah0
 exact((SX h).2 [rXe] (by kernel_rfl)).2 [rXe] (At7 ..) λ_=>Iff.rfl
theorem Ah1:C2 [rX1,ZJ] Ξ:=by
 have e:C9 [rX1,ZJ]=Θ [rX1,ZJ]:=by rw[IV AoS,IV Ah0];rfl
 unfold C2;rw[e];have h:=LF (T:=[rX1,ZJ]) λr hr=>by
  rcases ArR.1 hr with rfl|hr
  .exact AoS
  .rw[Asq]at hr
   rw[hr];exact Ah0
 exact(SX h).1 (by kernel_rfl)
theorem Aa7:CloneF DCp where
 nat l h:=Aav (IC h)
theorem AqP:ZF DCp:=Aet AnI AnY Aa7
theorem Ahq:PartF DCp where
 clone l h:=Aaz (Jl h)
 grow n h:=Ael (Qq h)
theorem UO:SeatOk ArP Bx LS:=ZZ ⟨E7,GO,IG,trivial⟩
theorem gCp(f:Nat):Bu (BD ArP f) ((AL Ae LS).ask (.fn f)):=Do UO f
theorem US:SeatOk ArP Bx LV:=Z3 ⟨gCp _,trivial⟩
theorem gSr(f:Nat):Bu (BD ArP f) ((AL Ae LV).ask (.fn f)):=Do US f
theorem Tp:CloneF Ix where
 nat l h:=Aax (IC h)
theorem Amo:ZF Ix:=Aet Ajk Ajq Tp
theorem X5:PartF Ix where
 clone l h:=AaA (Jl h)
 grow n h:=Aem (Qq h)
theorem AkF:DivF Ix where
 div _ _ ha hal hb hbl:=Aig (Aor ha hal hb hbl)
theorem AoZ:ZdF Ix:=Akf Ajk Ajq Tp AnK AkF
theorem AoU:TiF Ix:=Amc Ajo Ajp Ajm Amo X5 AnT AoZ (λh hn hk=>AaD (Aaa h hn hk))
theorem UT:SeatOk ArP Bx LW:=Z6 ⟨E7,GO,IG,Ang _,gSk _,gSr _,trivial⟩
theorem gTi(f:Nat):Bu (BD ArP f) ((AL Ae LW).ask (.fn f)):=Do UT f
theorem AiJ:Bu (BD ArP 33) (Jr (CN (EO Ix))):=Aal (EO Ix) gTi
theorem srF{n k:Nat}(hn:n<=1000000)(hk:k+n<=900000000):SrF Ix n k where
 sort l h1 h2 h3:=by
  obtain⟨r,g,hp,ha⟩:=AdS Ajn h1 h2 λx hx y hy=>by
   have:=Amg (ZL AnV AnR AqP Ahq AnG (h3 x hx).2.tb (h3 y hy).2.tb hn hk x.2 y.2);rw[Cd,Cd,(h3 x hx).1.plnE,(h3 y hy).1.plnE]at this;exact this
  exact⟨r,YC g,hp,ha⟩
 nil:=YC (Aac Ajn)
theorem U2{n k:Nat}{t:Tm}(ht:TmB n k t)(hn:n<=1000000)(hk1:1<=k)(hk:k+3*n<=100000000)(e:Bool):Ix.ask (.fn 17) [.agg (CP (t,e))] []
  = Θ (.tup [.agg (CP (C8 t.lf.pln.tm e).1),iv (C8 t.lf.pln.tm e).2],[]):=Ad9 AnX Amo AoZ AoU ht hn hk1 hk e
theorem Yv{n k:Nat}(hn:n<=100000)(hk1:1<=k)(hk:k+4*n+4<=1000000){rs:List (Tm × Bool)}(hrs:rs.length<=10000)(hb:∀ x∈rs,TmB n k x.1)
  (hq:∃ qs:List RL,qs.length<=12/\∀ x,x∈rs.map MB ↔ x∈qs) :
  ∃ o:Option (List RL),C2 (rs.map MB) o/\Jr (CN (EO Ix)) [.ls (rs.map CP)] []=Θ (match o with|some s=>.tup [.ls (s.map Ec),bv Δ] | none=>.tup [.ls [],bv Φ],[]):=
 WB Ajo Ajp Ajm Amo X5 AnH AnU (srF (n:=n) (k:=k+4*n+4) (by omega) (by omega)) hn hk hrs (λx hx=>⟨U2 (hb x hx) (by omega) hk1 (by omega) x.2,WS (hb x hx) hk1 x.2⟩) hq
def AoA:List (Nat × Nat):=[(136,0),(196,0),(234,0),(235,0),(265,0),(275,0),(140,0),(199,0),(262,0),(264,0)]
def AlE:MFn:=AU [⟨74,(mB 917524),[],[],[(1,((mB 20),([],[])))]⟩] 62
def Agz:MFn:=AU [] 136
def AgN:MFn:=AU [⟨63,(mB 455),[],[],[(1,((mB 199),([],[1000000])))]⟩,⟨63,(mB 71),[],[],[(3,([],([],[1000000])))]⟩,⟨63,(mB 455),[],[],[(5,((mB 199),([],[1000000])))]⟩] 196
def AgY:MFn:=AU [⟨53,(mB 271),[],[],[(1,([],([],[1000000])))]⟩,⟨53,(mB 783),[],[],[(3,((mB 271),([],[1000000])))]⟩] 234
def AgZ:MFn:=AU [⟨220,(mB 3091),[],[],[(1,((mB 1027),([],[1000000])))]⟩,⟨220,(mB 9217),[],[],[(3,([],([],[1000000])))]⟩,⟨220,(mB 49173),[],[],[(5,((mB 16389),([],[1000000])))]⟩,⟨220,(mB 147457),[],[],[(7,([],([],[1000000])))]⟩,⟨220,(mB 8126495),[],[],[(9,((mB 1835039),([],[1000000])))]⟩] 235
def Ag2:MFn:=AU [⟨58,(mB 3093),[],[],[(1,((mB 1045),([],[1000000])))]⟩] 265
def Ag4:MFn:=AU [⟨38,(mB 1039),[],[],[(1,([],([],[1000000])))]⟩] 275
def AgA:MFn:=AU [] 137
def AlG:MFn:=AU [] 84
def AgI:MFn:=AU [] 157
def AgB:MFn:=AU [] 138
def AgG:MFn:=AU [] 145
def AgT:MFn:=AU [] 202
def AgR:MFn:=AU [⟨21,(mB 9),[],[],[(1,((mB 9),([],[])))]⟩] 200
def AgC:MFn:=AU [] 139
def AgO:MFn:=AU [⟨61,(mB 234881122),[],[],[(1,((mB 96),([],[])))]⟩] 197
def AgP:MFn:=AU [⟨59,(mB 58720450),[],[],[(1,((mB 64),([],[])))]⟩] 198
def AgS:MFn:=AU [⟨49,(mB 35),[],[],[(0,((mB 16),([],[]))),(2,([],([],[])))]⟩] 201
def AgD:MFn:=Ni ArP Bx [⟨42,(mB 99),[],[],[(1,((mB 33),([],[1000000])))]⟩] Δ Φ 140
def AgQ:MFn:=AU [⟨19,(mB 387),[],[],[(0,((mB 16),([],[1000000]))),(1,([],([],[1000000])))]⟩] 199
def AgE:MFn:=AU [] 141
def AlF:MFn:=AU [] 64
def AgF:MFn:=AU [] 142
def AgK:MFn:=AU [] 188
def AgW:MFn:=AU [] 231
def Ag0:MFn:=AU [] 263
def Ag3:MFn:=AU [] 274
def Ag5:MFn:=AU [] 277
def Ag6:MFn:=AU [] 278
def AgV:MFn:=AU [] 223
def Ag9:MFn:=AU [] 281
def Aha:MFn:=AU [] 282
def Ag7:MFn:=AU [⟨167,(mB 19),[],[],[(1,((mB 19),([],[])))]⟩] 279
def Ag8:MFn:=AU [⟨102,(mB 130075),[],[],[(1,((mB 15387),([],[])))]⟩,⟨102,(mB 146459),[],[],[(3,((mB 15387),([],[])))]⟩] 280
def Ahb:MFn:=AU [] 283
def Ahc:MFn:=AU [] 284
def Ahd:MFn:=AU [] 285
def Ahe:MFn:=AU [] 286
def AgL:MFn:=AU [] 189
def Agy:MFn:=AU [] 126
def AgJ:MFn:=AU [] 184
def AgH:MFn:=AU [] 155
def AgM:MFn:=AU [] 190
def AgX:MFn:=AU [⟨40,(mB 9),[],[],[(1,((mB 8),([],[])))]⟩,⟨40,(mB 262169),[],[],[(3,((mB 9),([],[])))]⟩,⟨40,(mB 8),[],[],[(5,((mB 8),([],[])))]⟩] 232
def AgU:MFn:=AU [⟨44,(mB 451),[],[],[(1,((mB 192),([],[])))]⟩] 203
def Ag1:MFn:=AU [⟨28,(mB 13),[],[],[(1,([],([],[1000000])))]⟩] 264
def AoQ:List (Nat × MFn):=[(62,AlE),(136,Agz),(196,AgN),(234,AgY),(235,AgZ),(265,Ag2),(275,Ag4),(137,AgA),(84,AlG),(157,AgI),(138,AgB),(145,AgG),(202,AgT),(200,AgR),(139,AgC),(197,AgO),(198,AgP),(201,AgS),(140,AgD),(199,AgQ),(141,AgE),(64,AlF),(142,AgF),(188,AgK),(231,AgW),(263,Ag0),(274,Ag3),(277,Ag5),(278,Ag6),(223,AgV),(281,Ag9),(282,Aha),(279,Ag7),(280,Ag8),(283,Ahb),(284,Ahc),(285,Ahd),(286,Ahe),(189,AgL),(126,Agy),(184,AgJ),(155,AgH),(190,AgM),(232,AgX),(203,AgU),(264,Ag1)]
