/- rel.Tidy as an answer of -/
import Derived.Test.YtmbfbclboenajaaGreatFBN
import Derived.Test.YtmbfbclboenajaaGreatFBO
import Derived.Test.YtmbfbclboenajaaGreatFBH
import Derived.Test.YtmbfbclboenajaaGreatFBG
set_option linter.all false
open Bool renaming false->Φ,true->Δ
open List renaming all_eq_true->Aq3,findIdx_cons->AsP,flatMap_cons->AsQ,getElem?_eq_some_iff->Aq5,getElem?_map->Ary,length_map->Aq7,map->AuT,map_append->Atb,map_cons->Aq8,map_map->Asa,map_nil->ArV,map_set->AuU,mem_cons->AqU,mem_cons_of_mem->ο,mem_cons_self->AqS,mem_map->Arj,mem_singleton->Arh,pairwise_singleton->AsF
open Nat renaming beq->Aru,le_of_ble_eq_true->AsM,le_refl->π,le_trans->ArJ,zero_add->Ara,zero_le->ArC
open Option renaming none->Ξ,some->Θ
namespace Go.Proofs.YtmbfbclboenajaaGreat
noncomputable section
open ABlk renaming mk->θ
open Tryz renaming prog->Aq1
open Go.RowKit
def LC:List AV->Option (List RlA)
 |[]=>Θ []
 |a::b::c::d::r=>(match rlO [a,b,c,d],LC r with
  |some p,Θ l=>Θ (p::l)
  |_,_=>Ξ)
 |_=>Ξ
theorem MB:∀{xs:List AV} {l:List RlA},LC xs=Θ l->xs=l.flatMap RlA.c
 |[],l,h=>by injection h with h;subst h;rfl
 |[_],l,h=>by cases h
 |[_,_],l,h=>by cases h
 |[_,_,_],l,h=>by cases h
 |a::b::c::d::r,l,h=>by
  unfold LC at h;split at h
  .rename_i p l' h1 h2
   injection h with h
   subst h;rw[AsQ,←Pk h1,←MB h2];rfl
  .cases h
section
variable (dq:Nat->DF)
def Aex(out:List RlA):Option (AV × List BO)->Option (List RlA)
 |some (.tup [],[.set ⟨y,Δ,Δ⟩])=>LC y
 |some (.tup [],[.keep])=>Θ out
 |_=>Ξ
theorem P9{out:List RlA}{o:Option (AV × List BO)}{l:List RlA}(h:Aex out o=Θ l):∃ ob,o=Θ (.tup [],[ob])/\((ob=.keep/\l.flatMap RlA.c=out.flatMap RlA.c)\/ob=.set ⟨l.flatMap RlA.c,Δ,Δ⟩):=by
 unfold Aex at h;split at h
 .exact⟨_,rfl,.inr (by rw[MB h])⟩
 .injection h with h
  exact⟨_,rfl,.inl ⟨rfl,by rw[h]⟩⟩
 .cases h
def AaO:Option (AV × List BO)->Bool
 |some (.tup [],[])=>Δ
 |_=>Φ
theorem YM{o:Option (AV × List BO)}(h:AaO o=Δ):o=Θ (.tup [],[]):=by
 unfold AaO at h;split at h
 .rfl
 .cases h
def U2(out:List RlA):Option (List RlA):=match Aex out (dq 15 [.sl 0 0 out.length 4,.fn (.func 16) [] []] [⟨out.flatMap RlA.c,Δ,Δ⟩]),out with
 |some [],[]=>(match AaO (dq 15 [.v (.slice Ξ 0 0),.fn (.func 16) [] []] []) with
  |true=>Θ []
  |false=>Ξ)
 |some s,_::_=>(match Aru s.length out.length with
  |true=>Θ s
  |false=>Ξ)
 |_,_=>Ξ
theorem WY{out s:List RlA}(h:U2 dq out=Θ s):s.length=out.length/\(∃ ob,dq 15 [.sl 0 0 out.length 4,.fn (.func 16) [] []] [⟨out.flatMap RlA.c,Δ,Δ⟩]=Θ (.tup [],[ob])/\((ob=.keep/\s.flatMap RlA.c=out.flatMap RlA.c)\/ob=.set ⟨s.flatMap RlA.c,Δ,Δ⟩)) ∧
  (out=[]->dq 15 [.v (.slice Ξ 0 0),.fn (.func 16) [] []] []=Θ (.tup [],[])):=by
 unfold U2 at h;split at h
 .rename_i h1
  split at h
  .rename_i h2
   injection h with h
   subst h;exact⟨rfl,P9 h1,λ_=>YM h2⟩
  .cases h
 .rename_i h1
  split at h
  .rename_i h2
   injection h with h
   subst h;exact⟨Nat.eq_of_beq_eq_true h2,P9 h1,λh=>by cases h⟩
  .cases h
 .cases h
def Yz(rs:List RlA):Option (Option (List RlA)):=match Nat.ble rs.length 10000,Pn dq rs []with
 |true,Θ Ξ=>Θ Ξ
 |true,Θ (Θ ls)=>(match Po dq ls []with
  |some Ξ=>Θ Ξ
  |some (Θ out)=>(match U2 dq out with
   |some s=>Θ (Θ s)
   |none=>Ξ)
  |none=>Ξ)
 |_,_=>Ξ
def YA:Option (List RlA)->AV
 |some s=>.tup [.ls (s.map RlA.c),bv Δ]
 |none=>.tup [.ls [],bv Φ]
def Akd:List AV->Option (List RlA)
 |[.ls xs]=>SD xs
 |[.v (.slice Ξ 0 0)]=>Θ []
 |_=>Ξ
def CX(args:List AV):Option AV:=match Akd args with
 |some rs=>(match Yz dq rs with
  |some o=>Θ (YA o)
  |none=>Ξ)
 |none=>Ξ
theorem SE[S:Side]{w:World}{a b:AV}{u v:Value}(h:Ro [] w a u)(k:Ro [] w b v):Ro [] w (.tup [a,b]) (.tuple #[u,v]):=by
 unfold Ro at h k ⊢;simp only[Rep,RepList];exact⟨_,rfl,_,_,rfl,h,_,_,rfl,k,rfl⟩
theorem WP[S:Side]{own:List Nat}{w:World}:Ro own w (.ls []) (.slice Ξ 0 0):=by
 unfold Ro;simp only[Rep];exact⟨rfl,Ξ,0,rfl,π _,ArC _,λh=>absurd rfl h⟩
theorem Ql:∀(s:List RlA) (i j:Nat) (r:RlA),s[i]? = Θ r->j<4->(s.flatMap RlA.c)[i*4+j]? = r.c[j]?
 |[],i,j,r,h,_=>by simp at h
 |x::s,0,j,r,h,hj=>by
  simp at h;subst h;rw[AsQ,Nat.zero_mul,Ara,List.getElem?_append_left (show j<x.c.length from hj)]
 |x::s,i+1,j,r,h,hj=>by
  rw[AsQ,List.getElem?_append_right (show x.c.length<=(i+1)*4+j from (by show 4<=_;omega)),←Ql s i j r (by simpa using h) hj]
  congr 1
  show (i+1)*4+j-4=_
  omega
theorem Aj9[S:Side]{own:List Nat}{w:World}{s:List RlA}{g cap:Nat}{T:TypeId}{cs:Array Value}(hb:Blk w g T cs)(hB:S.B<=g)(hs:Sd own w)(h1:cs.size=cap*4)(h2:s.length<=cap)(h3:cap<=maxLen)(h:RoL own w (s.flatMap RlA.c) (cs.toList.take (s.length*4))):Ro [] w (.ls (s.map RlA.c)) (.slice (Θ ⟨g,0,Ξ⟩) s.length cap):=by
 have hz:∀ o,¬ AdM g o:=by
  rintro o ⟨b,k,p,hk,hp,i,hi,rfl,rfl⟩;obtain⟨q,hq,B⟩:=hs.rep.blk b k hk;rw[hp]at hq;injection hq with hq
  subst hq;have:=S.low b k p hk hp (by
   rcases hi with h|h
   .have:=B.room;omega
   .omega)
  omega
 have hoff:∀ k o,C9 own w k o->C9 [] w k o:=λk o h=>⟨h.1,by simp,h.2.2⟩
 have h':RepList (λ_=>Ξ) (C9 [] w) w (s.flatMap RlA.c) (cs.toList.take (s.length*4)):=RepList.later ⟨λ_ _ h=>h,λk o hk=>⟨hoff k o hk,rfl⟩⟩ _ _ h;unfold Ro;simp only[Rep];refine⟨?_,Θ ⟨g,0,Ξ⟩,cap,by rw[Aq7],by rw[Aq7];exact h2,h3,λ_=>⟨g,0,4,rfl,RepRows.mk λi x hx=>?_⟩⟩
 .unfold Jf
  rw[Aq3];intro x hx;obtain⟨r,_,rfl⟩:=Arj.1 hx;rfl
 .rw[Ary]at hx
  obtain⟨r,hr,rfl⟩:=Option.map_eq_some_iff.1 hx;have hi:=(Aq5.1 hr).1;refine⟨rfl,RepAt.mk λj y hy=>?_⟩;have hj:j<4:=(Aq5.1 hy).1;have e:(s.flatMap RlA.c)[i*4+j]? = Θ y:=by
   rw[←hy];exact Ql s i j r hr hj
  obtain⟨u,k1,k2⟩:=h'.get e;have hl:i*4+j<s.length*4:=by omega
  rw[List.getElem?_take,if_pos hl,Array.getElem?_toList]at k1;refine⟨⟨hb.lt,by simp,hz _⟩,u,?_,k2⟩;rw[Ara,hb.cell];exact k1
theorem Aai(G:∀ f,BS (B5 Aq1 f) (dq f)):BS (B5 Aq1 6) (M8 (CX dq)):=by
 refine Wd _ λargs r hr=>?_
 unfold CX at hr;split at hr
 .rename_i rs hrs
  split at hr
  .rename_i o ho
   injection hr with hr
   subst hr
   have key:∀(S:Side) (w:World) (A:Option Addr) (c:Nat),Sd [] w->Ro [] w (.ls (rs.map RlA.c)) (.slice A rs.length c)->B5 Aq1 6 [.slice A rs.length c] w λu w'=>∃ own',Xt [] own' w w'/\Ro [] w' (YA o) u:=λS w A c hs hro=>by
    unfold Yz at ho;have none':∀ w' own',Xt [] own' w w'->(λu w'=>∃ own',Xt [] own' w w'/\Ro [] w' (YA Ξ) u) (.tuple #[.slice Ξ 0 0,.bool Φ]) w':=λw' own' hx=>⟨own',hx,SE WP (Ro.v rfl)⟩
    split at ho
    .rename_i hl h1
     injection ho with ho
     subst ho;exact PE dq G rs (AsM hl) Ξ (Fq dq h1) w A c hs hro Ξ _ (λ_=>none') (λls h=>by cases h) (λout h=>by cases h)
    .rename_i ls hl h1
     split at ho
     .rename_i h2
      injection ho with ho
      subst ho;exact PE dq G rs (AsM hl) (Θ ls) (Fq dq h1) w A c hs hro Ξ _ (λ_=>none') (λls' h=>by injection h with h;subst h;exact GZ dq h2) (λout h=>by cases h)
     .rename_i out h2
      split at ho
      .rename_i s h3
       injection ho with ho
       subst ho;obtain⟨s1,s2,s3⟩:=WY dq h3;refine PE dq G rs (AsM hl) (Θ ls) (Fq dq h1) w A c hs hro (Θ out) _ (λh=>?_) (λls' h=>by injection h with h;subst h;exact GZ dq h2) (λout' h=>?_)
       .rcases h with h|h<;>cases h
       .injection h with h
        subst h;refine⟨s,s1,s2,λh0=>⟨s3 h0,λw' own' hx=>⟨own',hx,?_⟩⟩,λw' own' g cap cs' hx hg hb h1 h2 h3 h4=>⟨own',hx,?_⟩⟩
        .subst h0
         obtain rfl:s=[]:=List.eq_nil_of_length_eq_zero s1;exact SE WP (Ro.v rfl)
        .rw[←s1]at h2 h4 ⊢
         exact SE (Aj9 hb (ArJ hs.base hg) (hx.side hs) h1 h2 h3 h4) (Ro.v rfl)
      .cases ho
     .cases ho
    .cases ho
   unfold Akd at hrs;split at hrs
   .rename_i xs
    refine⟨rfl,λS w us hs hro=>?_⟩;obtain⟨u,t,rfl,hu,ht⟩:=RoL.cons_inv hro;obtain rfl:=RoL.nil_inv ht;obtain⟨A,c,rfl⟩:=Rp.ls_inv hu.rp;obtain rfl:=Mb hrs;have:=key S w A c hs (by rw[Aq7]at hu;exact hu);rw[Aq7];exact this
   .injection hrs with hrs
    subst hrs;refine⟨rfl,λS w us hs hro=>?_⟩;obtain⟨u,t,rfl,hu,ht⟩:=RoL.cons_inv hro;obtain rfl:=RoL.nil_inv ht;unfold Ro at hu;simp only[Rep]at hu;obtain⟨rfl,_⟩:=hu;exact key S w Ξ 0 hs WP
   .cases hrs
  .cases hr
 .cases hr
end
def QA(p:List (Int × Int))(x:Ln):Bool:=decide (x.ps=p)
def Kg(p:List (Int × Int))(ls:List Ln):List Ln:=if ls.findIdx (QA p)<ls.length then ls else ls++[⟨p,Ξ,Ξ⟩]
theorem Amg{p:List (Int × Int)}{x:Ln}(h:x.ps=p):QA p x=Δ:=decide_eq_true h
theorem Amf{p:List (Int × Int)}{x:Ln}(h:¬ x.ps=p):QA p x=Φ:=decide_eq_false h
theorem V9(p:List (Int × Int)):∀ ls:List Ln,∃ x0,(Kg p ls)[ls.findIdx (QA p)]? = Θ x0/\x0.ps=p/\(x0∈ls\/x0=⟨p,Ξ,Ξ⟩)/\∀ f,(Kg p ls).set (ls.findIdx (QA p)) (f x0)=Hp p f ls
 |[]=>⟨⟨p,Ξ,Ξ⟩,rfl,rfl,.inr rfl,λf=>rfl⟩
 |x::r=>by
  obtain⟨x0,h1,h2,h3,h4⟩:=V9 p r
  by_cases h:x.ps=p
  .have e:(x::r).findIdx (QA p)=0:=by rw[AsP,Amg h];rfl
   have ef:Kg p (x::r)=x::r:=by unfold Kg;rw[e,if_pos (by simp)]
   refine⟨x,by rw[e,ef];rfl,h,.inl (AqS ..),λf=>?_⟩;rw[e,ef,Hp,if_pos h];rfl
  .have e:(x::r).findIdx (QA p)=r.findIdx (QA p)+1:=by rw[AsP,Amf h];rfl
   have ef:Kg p (x::r)=x::Kg p r:=by
    unfold Kg;rw[e,List.length_cons]
    by_cases hl:r.findIdx (QA p)<r.length
    .rw[if_pos hl,if_pos (by omega)]
    .rw[if_neg hl,if_neg (by omega)]
     rfl
   refine⟨x0,by rw[e,ef,List.getElem?_cons_succ];exact h1,h2,h3.imp (ο _) id,λf=>?_⟩;rw[e,ef,Hp,if_neg h,List.set_cons_succ,h4]
theorem S6(p:List (Int × Int))(f:Ln->Ln){P:Ln->Prop}(hf:∀ x,x.ps=p->P x->P (f x))(hn:P (f ⟨p,Ξ,Ξ⟩)):∀ ls:List Ln,(∀ x∈ls,P x)->∀ y∈Hp p f ls,P y
 |[],_,y,hy=>by
  rw[Hp,Arh]at hy;rw[hy];exact hn
 |x::r,h,y,hy=>by
  unfold Hp at hy;split at hy
  .rename_i hx
   rcases AqU.1 hy with rfl|hy
   .exact hf x hx (h x (AqS ..))
   .exact h y (ο _ hy)
  .rcases AqU.1 hy with rfl|hy
   .exact h _ (AqS ..)
   .exact S6 p f hf hn r (λz hz=>h z (ο _ hz)) y hy
theorem DM(k:Nat):OB k Ξ:=λ_ h=>nomatch h
theorem Ail{k:Nat}{o:Option Int}{n:Int}(h:OB k o)(hn:InB k n):OB k (PZ o n):=λm hm=>by
 unfold PZ at hm
 cases o with
 |none=>injection hm with hm;rw[←hm];exact hn
 |some x=>
  simp only at hm;split at hm
  .injection hm with hm;rw[←hm];exact hn
  .exact h m hm
theorem Aik{k:Nat}{o:Option Int}{n:Int}(h:OB k o)(hn:InB k n):OB k (Wu o n):=λm hm=>by
 unfold Wu at hm
 cases o with
 |none=>injection hm with hm;rw[←hm];exact hn
 |some x=>
  simp only at hm;split at hm
  .injection hm with hm;rw[←hm];exact hn
  .exact h m hm
theorem LnB.low{n k:Nat}{x:Ln}{m:Int}(h:LnB n k x)(hm:InB k m):LnB n k (I2 m x):=⟨h.pln,h.lb,Ail h.lo hm,h.hi⟩
theorem LnB.high{n k:Nat}{x:Ln}{m:Int}(h:LnB n k x)(hm:InB k m):LnB n k (FF m x):=⟨h.pln,h.lb,h.lo,Aik h.hi hm⟩
theorem LB.negP{n k:Nat}{ps:List (Int × Int)}{a:Int}(h:LB n k ⟨ps,a⟩):LB n k ⟨negP ps,a⟩:=⟨by show (AuT _ _).length<=n;rw[Aq7];exact h.len,λp hp=>by
 obtain⟨q,hq,rfl⟩:=Arj.1 hp;exact(h.ps q hq).neg,h.k⟩
theorem AfU{n k:Nat}{ls:List Ln}{r:RL}(hls:∀ x∈ls,LnB n k x)(hp:Pln r.1.ps)(hb:LB n k r.1):∀ x∈EO ls r,LnB n k x:=by
 have h0:LB n k ⟨r.1.ps,0⟩:=⟨hb.len,hb.ps,InB.zero k⟩;unfold EO;split
 .refine S6 _ _ (P:=LnB n k) (λx _ hx=>?_) ?_ ls hls
  .split
   .exact(hx.low hb.k.neg).high hb.k.neg
   .exact hx.low hb.k.neg
  .have hx:LnB n k ⟨r.1.ps,Ξ,Ξ⟩:=⟨hp,h0,DM k,DM k⟩
   split
   .exact(hx.low hb.k.neg).high hb.k.neg
   .exact hx.low hb.k.neg
 .exact S6 _ _ (P:=LnB n k) (λx _ hx=>hx.high hb.k) ((⟨Di hp,h0.negP,DM k,DM k⟩:LnB n k ⟨negP r.1.ps,Ξ,Ξ⟩).high hb.k) ls hls
def I3(r:RL):RlA:=⟨r.1.tm.ps.map eP,(Aq r.1.k).neg,(Aq r.1.k).abs.map eL,r.2⟩
theorem Alk(x:Ln):(Eh x).take 3=eT (Lf.tm ⟨x.ps,0⟩):=rfl
theorem AeU(p:List (Int × Int)):eT (Lf.tm ⟨p,0⟩)++Ej=Eh ⟨p,Ξ,Ξ⟩:=by
 unfold Eh eO;simp only[Option.getD_none,IC];rfl
def EL(D:Orc):Nat->DF:=λf a b=>D.ask (.fn f) a b
section
variable {D:Orc} (Kt:Knows Al FP D) (Kf:Knows Al Lh D) (Ks:Knows Al Ed D) (Z:ZF D) (C:PartF D) (Kl:Knows Al Ld D) (Kd:Knows Al Q9 D)
include Kt Kf Ks Z C Kl Kd
theorem AnT{n k:Nat}(hn:n<=100000)(hk:k<=1000000){p:List (Int × Int)}(hp:Pln p)(hb:LB n k ⟨p,0⟩){x:Ln}(hx:LnB n k x):D.ask (.fn 77) [.agg ((Eh x).take 3),.agg (eT (Lf.tm ⟨p,0⟩))] []=Θ (bv (QA p x),[]):=by
 rw[Alk,Ac6 Kt Kf Ks Z C Kl Kd hx.lb.tb hb.tb (by omega) (by omega),BE,BE,O8 hx.pln,O8 hp];unfold QA
 by_cases h:x.ps=p
 .rw[decide_eq_true h,decide_eq_true (LD.2 (by rw[h]))]
 .rw[decide_eq_false h,decide_eq_false (λe=>h (congrArg Lf.ps (LD.1 e)))]
theorem Xy{n k:Nat}(hn:n<=100000)(hk:k<=1000000){p:List (Int × Int)}(hp:Pln p)(hb:LB n k ⟨p,0⟩){ls:List Ln}(hls:∀ x∈ls,LnB n k x) :
  Aaa (EL D) (eT (Lf.tm ⟨p,0⟩)) (ls.map Eh)=Δ/\(ls.map Eh).findIdx (Q3 (EL D) (eT (Lf.tm ⟨p,0⟩)))=ls.findIdx (QA p)/\Ei (Q3 (EL D) (eT (Lf.tm ⟨p,0⟩))) (ls.map Eh) (eT (Lf.tm ⟨p,0⟩)++Ej)=(Kg p ls).map Eh:=by
 have e:∀ x∈ls,EL D 77 [.agg ((Eh x).take 3),.agg (eT (Lf.tm ⟨p,0⟩))] []=Θ (bv (QA p x),[]):=λx hx=>AnT Kt Kf Ks Z C Kl Kd hn hk hp hb (hls x hx)
 have e2:∀ x∈ls,Q3 (EL D) (eT (Lf.tm ⟨p,0⟩)) (Eh x)=QA p x:=λx hx=>by
  unfold Q3;rw[e x hx];rfl
 have e3:(ls.map Eh).findIdx (Q3 (EL D) (eT (Lf.tm ⟨p,0⟩)))=ls.findIdx (QA p):=by
  clear hls e
  induction ls with
  |nil=>rfl
  |cons x r ih=>
   rw[Aq8,AsP,AsP,e2 x (AqS ..),ih λy hy=>e2 y (ο _ hy)]
 refine⟨?_,e3,?_⟩
 .unfold Aaa
  rw[Aq3];intro z hz;obtain⟨x,hx,rfl⟩:=Arj.1 hz;rw[e x hx];rfl
 .unfold Ei Kg
  rw[e3,Aq7,AeU];split
  .rfl
  .rw[Atb]
   rfl
theorem OM{y:Ln}:QF (Θ (.tup [],[.set (bk (Eh y))]))=Θ (Eh y):=by
 rfl
theorem AcT{n k:Nat}(hn:n<=100000)(hk:k<=1000000){ls:List Ln}(hls:∀ x∈ls,LnB n k x){r:RL}(hr:TgR r)(hb:LB n k r.1):UB (EL D) (ls.map Eh) (I3 r)=Θ ((EO ls r).map Eh):=by
 have gN:EL D 36 [.agg (eZ (Aq r.1.k))] []=Θ (.agg (eT (Lf.num r.1.k).tm),[]):=by
  have:=QQ Kt Kf Z (hb.k.lz.mono (show k<=1000000000 by omega));rw[AE]at this;exact this
 have gS:EL D 35 [.agg (eT r.1.tm),.agg (eT (Lf.num r.1.k).tm)] []=Θ (.agg (eT (Lf.tm ⟨r.1.ps,0⟩)),[]):=by
  have g:=W1 Kt Kf Ks Z C hb.tb (OY hb.k) (by omega) (by omega);rw[BE,BE,show r.1.sub (Lf.num r.1.k)=⟨r.1.ps,r.1.k-r.1.k⟩ from SQ hr.pln _ _,Int.sub_self]at g;exact g
 have h0:LB n k ⟨r.1.ps,0⟩:=⟨hb.len,hb.ps,InB.zero k⟩;have gM:EL D 34 [.agg (eT (Lf.tm ⟨r.1.ps,0⟩))] []=Θ (.agg (eT (Lf.tm ⟨negP r.1.ps,0⟩)),[]):=by
  have g:=Wz Kt Kf Ks Z C h0.tb (by omega) (by omega);rw[BE,Fa (l:=⟨r.1.ps,0⟩) hr.pln,show -(0:Int)=0 from rfl]at g;exact g
 have gG:EL D 39 [.agg (eZ (Aq r.1.k))] []=Θ (.agg (eZ (Aq (-r.1.k))),[]):=by
  have:=Z.neg (Aq r.1.k) (hb.k.lz.mono (by omega));rw[AE]at this;exact this
 have gF:=Xy Kt Kf Ks Z C Kl Kd hn hk hr.pln h0 hls;have gF':=Xy Kt Kf Ks Z C Kl Kd hn hk (Di hr.pln) h0.negP hls;obtain⟨q,rest,hq⟩:∃ q rest,r.1.ps=q::rest:=by
  cases h:r.1.ps with
  |nil=>exact absurd h hr.ne
  |cons q rest=>exact⟨q,rest,rfl⟩
 have gG2:EL D 30 [.agg (eZ (Aq q.2))] []=Θ (iv (BC q.2),[]):=by
  have:=Z.sign (Aq q.2) ((hb.ps q (by rw[hq];exact AqS ..)).lz.mono (by omega));rw[AE]at this;exact this
 have hd:He r.1.ps=q.2:=by rw[hq];rfl
 obtain⟨x0,f1,f2,f3,f4⟩:=V9 r.1.ps ls;obtain⟨y0,f1',f2',f3',f4'⟩:=V9 (negP r.1.ps) ls;have bx0:LnB n k x0:=by
  rcases f3 with h|h
  .exact hls _ h
  .rw[h];exact⟨hr.pln,h0,DM k,DM k⟩
 have by0:LnB n k y0:=by
  rcases f3' with h|h
  .exact hls _ h
  .rw[h];exact⟨Di hr.pln,h0.negP,DM k,DM k⟩
 have gL:EL D 38 [.ptr 0 0,.agg (eZ (Aq (-r.1.k)))] [bk (Eh x0)]=Θ (.tup [],[.set (bk (Eh (I2 (-r.1.k) x0)))]):=AcD Z Kd (by omega) x0 hb.k.neg bx0.lo;have gH:EL D 40 [.ptr 0 0,.agg (eZ (Aq (-r.1.k)))] [bk (Eh (I2 (-r.1.k) x0))]=Θ (.tup [],[.set (bk (Eh (FF (-r.1.k) (I2 (-r.1.k) x0))))]):=QG Z Kd (by omega) _ hb.k.neg bx0.hi;have gH':EL D 40 [.ptr 0 0,.agg (eZ (Aq r.1.k))] [bk (Eh y0)]=Θ (.tup [],[.set (bk (Eh (FF r.1.k y0)))]):=QG Z Kd (by omega) _ hb.k by0.hi;have hx:((Kg r.1.ps ls).map Eh)[ls.findIdx (QA r.1.ps)]? = Θ (Eh x0):=by rw[Ary,f1];rfl
 have hy:((Kg (negP r.1.ps) ls).map Eh)[ls.findIdx (QA (negP r.1.ps))]? = Θ (Eh y0):=by rw[Ary,f1'];rfl
 obtain⟨s1,s2,s3⟩:=gF;obtain⟨s1',s2',s3'⟩:=gF';have set1:∀ f:Ln->Ln,((Kg r.1.ps ls).map Eh).set (ls.findIdx (QA r.1.ps)) (Eh (f x0))=(Hp r.1.ps f ls).map Eh:=λf=>by rw[←AuU,f4]
 have set2:∀ f:Ln->Ln,((Kg (negP r.1.ps) ls).map Eh).set (ls.findIdx (QA (negP r.1.ps))) (Eh (f y0))=(Hp (negP r.1.ps) f ls).map Eh:=λf=>by rw[←AuU,f4']
 have eT0:eT (Lf.tm ⟨r.1.ps,0⟩)=[.ls (([iv q.1,bv (Aq q.2).neg,.ls ((Aq q.2).abs.map eL)]:List AV)::rest.map (λp=>eP (AP p))),bv (Aq 0).neg,.ls ((Aq 0).abs.map eL)]:=by
  unfold eT Lf.tm;rw[hq];simp only[Aq8,Asa];rfl
 have a1:EL D 36 [.agg [bv (I3 r).kn,.ls (I3 r).ka]] []=Θ (.agg [.ls [],.v (.bool (Aq r.1.k).neg),.ls ((Aq r.1.k).abs.map eL)],[]):=gN;have a2:EL D 35 [.agg [.ls (I3 r).ps,bv (I3 r).kn,.ls (I3 r).ka],.agg [.ls [],bv (Aq r.1.k).neg,.ls ((Aq r.1.k).abs.map eL)]] []=Θ (.agg [.ls ([iv q.1,.v (.bool (Aq q.2).neg),.ls ((Aq q.2).abs.map eL)]::rest.map (λp=>eP (AP p))),.v (.bool (Aq 0).neg),.ls ((Aq 0).abs.map eL)],[]):=by
  have:=gS;rw[eT0]at this;exact this
 have a3:Aey (EL D 30 [.agg [bv (Aq q.2).neg,.ls ((Aq q.2).abs.map eL)]] [])=Θ (BC q.2):=by
  have:=gG2;unfold eZ eN at this;rw[this];rfl
 rw[eT0]at s1 s2 s3 gM;unfold UB;rw[a1];dsimp only;rw[a2];dsimp only;rw[a3];dsimp only
 by_cases hs:0<q.2
 .rw[decide_eq_true ((Q2 _).2 hs)]
  dsimp only;have gG':EL D 39 [.agg [bv (I3 r).kn,.ls (I3 r).ka]] []=Θ (.agg [.v (.bool (Aq (-r.1.k)).neg),.ls ((Aq (-r.1.k)).abs.map eL)],[]):=gG;rw[s1,gG',s2,s3,hx];dsimp only;have gL':EL D 38 [.ptr 0 0,.agg [bv (Aq (-r.1.k)).neg,.ls ((Aq (-r.1.k)).abs.map eL)]] [⟨Eh x0,Δ,Φ⟩]=Θ (.tup [],[.set (bk (Eh (I2 (-r.1.k) x0)))]):=gL;rw[gL',OM Kt Kf Ks Z C Kl Kd];dsimp only;unfold EO;rw[hd,if_pos hs];have gH2:EL D 40 [.ptr 0 0,.agg [bv (Aq (-r.1.k)).neg,.ls ((Aq (-r.1.k)).abs.map eL)]] [⟨Eh (I2 (-r.1.k) x0),Δ,Φ⟩]=Θ (.tup [],[.set (bk (Eh (FF (-r.1.k) (I2 (-r.1.k) x0))))]):=gH
  cases he:r.2 with
  |false=>
   have:(I3 r).eq=Φ:=he;rw[this];dsimp only;rw[set1 (I2 (-r.1.k))];simp
  |true=>
   have:(I3 r).eq=Δ:=he;rw[this];dsimp only;rw[gH2,OM Kt Kf Ks Z C Kl Kd];dsimp only;rw[List.set_set,set1 λx=>FF (-r.1.k) (I2 (-r.1.k) x)];simp
 .rw[decide_eq_false (λh=>hs ((Q2 _).1 h))]
  dsimp only;have gM':=gM;have gM2:EL D 34 [.agg [.ls ([iv q.1,bv (Aq q.2).neg,.ls ((Aq q.2).abs.map eL)]::rest.map (λp=>eP (AP p))),bv (Aq 0).neg,.ls ((Aq 0).abs.map eL)]] []=Θ (.agg [.ls ((Lf.tm ⟨negP r.1.ps,0⟩).ps.map eP),.v (.bool (Aq 0).neg),.ls ((Aq 0).abs.map eL)],[]):=gM;rw[gM2];dsimp only;have t1:Aaa (EL D) [.ls ((Lf.tm ⟨negP r.1.ps,0⟩).ps.map eP),bv (Aq 0).neg,.ls ((Aq 0).abs.map eL)] (ls.map Eh)=Δ:=s1';have t2:(ls.map Eh).findIdx (Q3 (EL D) [.ls ((Lf.tm ⟨negP r.1.ps,0⟩).ps.map eP),bv (Aq 0).neg,.ls ((Aq 0).abs.map eL)])=ls.findIdx (QA (negP r.1.ps)):=s2';have t3:Ei (Q3 (EL D) [.ls ((Lf.tm ⟨negP r.1.ps,0⟩).ps.map eP),bv (Aq 0).neg,.ls ((Aq 0).abs.map eL)]) (ls.map Eh) ([.ls ((Lf.tm ⟨negP r.1.ps,0⟩).ps.map eP),bv (Aq 0).neg,.ls ((Aq 0).abs.map eL)]++Ej)=(Kg (negP r.1.ps) ls).map Eh:=s3';rw[t1,t2,t3,hy];dsimp only;have gH3:EL D 40 [.ptr 0 0,.agg [bv (I3 r).kn,.ls (I3 r).ka]] [⟨Eh y0,Δ,Φ⟩]=Θ (.tup [],[.set (bk (Eh (FF r.1.k y0)))]):=gH';rw[gH3,OM Kt Kf Ks Z C Kl Kd];dsimp only;unfold EO;rw[hd,if_neg hs,set2 (FF r.1.k)]
end


theorem FB.mono{n k m j:Nat}(hn:n<=m)(hk:k<=j):∀(N:Nat) (x:Fm),SizeOf.sizeOf x<N->FB n k x->FB m j x:=by
 intro N
 induction N with
 |zero=>intro x h;omega
 |succ N ih=>
  intro x hN hx;obtain⟨ht,hl,h⟩:=hx;rename_i kd t e ks;exact .mk (ht.mono hn hk) hl λy hy=>ih y (by have:=Acn (k:=kd) (t:=t) (e:=e) hy;omega) (h y hy)
theorem YB(n k:Nat):TmB n k Tm0:=⟨ArC _,λp hp=>(by cases hp),⟨λx hx=>(by cases hx),ArC _⟩⟩
theorem W5{n k:Nat}{t:Tm}(ht:TmB n k t)(hk:1<=k)(e:Bool):TmB n (k+4*n+4) (CH t.lf.pln.tm e).1.1:=by
 have hp:=ht.lb.pln.tb;have hs:=WU hp (show 1<=k+n by omega);unfold CH;split
 .exact YB _ _
 split
 .split
  .show TmB _ _ (if hdS (DP t.lf.pln.tm)<0 then _ else _)
   split
   .exact((hs.lb.scale (x:=-1) (j:=1) (by unfold InB;decide)).tb).mono (π _) (by omega)
   .exact hs.mono (π _) (by omega)
  .exact YB _ _
 .exact hs.mono (π _) (by omega)
def rlT(x:Tm × Bool):RlA:=⟨x.1.ps.map eP,x.1.k.neg,x.1.k.abs.map eL,x.2⟩
def Jh(x:Tm × Bool):RL:=(x.1.lf,x.2)
theorem AnQ(x:Tm × Bool):(rlT x).c=CY x:=rfl
theorem Ad0(l:Lf)(e:Bool):F6 l e=-1\/F6 l e=0\/F6 l e=1:=by
 unfold F6 CH;split
 .simp only
  split
  .exact .inr (.inr rfl)
  .exact .inl rfl
 .split
  .split
   .exact .inr (.inl rfl)
   .exact .inl rfl
  .exact .inr (.inl rfl)
theorem UJ:∀ l:List RL,SD (l.map BX)=Θ (l.map I3)
 |[]=>rfl
 |r::l=>by
  rw[Aq8,SD,UJ l];rfl
theorem N0:∀ l:List RL,LC (Ah BX l)=Θ (l.map I3)
 |[]=>rfl
 |r::l=>by
  have e:Ah BX (r::l)=.ls (r.1.tm.ps.map eP)::bv r.1.tm.k.neg::.ls (r.1.tm.k.abs.map eL)::bv r.2::Ah BX l:=rfl;rw[e,LC,N0 l];rfl
theorem Qo:∀ l:List RL,(l.map I3).flatMap RlA.c=Ah BX l
 |[]=>rfl
 |r::l=>by
  rw[Aq8,AsQ,Qo l];rfl
section
variable {D:Orc} (Kt:Knows Al FP D) (Kf:Knows Al Lh D) (Ks:Knows Al Ed D) (Z:ZF D) (C:PartF D) (Kl:Knows Al Ld D) (Kd:Knows Al Q9 D)
include Kt Kf Ks Z C Kl Kd
theorem Ym{n k:Nat}(hn:n<=100000)(hk:k<=1000000):∀(rs:List (Tm × Bool)) (ls:List Ln),(∀ x∈ls,LnB n k x)->(∀ x∈rs,EL D 12 [.agg (CY x)] []=Θ (.tup [.agg (CY (CH x.1.lf.pln.tm x.2).1),iv (CH x.1.lf.pln.tm x.2).2],[])/\TmB n k (CH x.1.lf.pln.tm x.2).1.1)->
  Pn (EL D) (rs.map rlT) (ls.map Eh)=Θ (match Da (rs.map Jh) with|none=>Ξ|some T=>Θ ((T.foldl EO ls).map Eh))/\∀ T,Da (rs.map Jh)=Θ T->∀ x∈T.foldl EO ls,LnB n k x
 |[],ls,hls,_=>⟨rfl,λT h=>by injection h with h;subst h;exact hls⟩
 |x::rs,ls,hls,hT=>by
  obtain⟨g,hb⟩:=hT x (AqS ..);have ih:=λls h=>Ym hn hk rs ls h λy hy=>hT y (ο _ hy)
  have ea:Aez (EL D 12 [.agg (rlT x).c] [])=Θ (rlT (CH x.1.lf.pln.tm x.2).1,F6 x.1.lf x.2):=by
   rw[AnQ,g];rfl
  rw[Aq8,Aq8,Pn,ea,Da];have e1:F6 (Jh x).1 (Jh x).2=F6 x.1.lf x.2:=rfl;rw[e1];dsimp only;rcases Ad0 x.1.lf x.2 with h|h|h
  .rw[h]
   refine⟨rfl,λT h=>?_⟩;rw[if_pos (by decide)]at h
   cases h
  .obtain⟨tg,et⟩:=S0 h
   have er:rlT (CH x.1.lf.pln.tm x.2).1=I3 (G6 x.1.lf x.2):=by rw[et];rfl
   have hb2:LB n k (G6 x.1.lf x.2).1:=hb.lb;have gn:=AcT Kt Kf Ks Z C Kl Kd hn hk hls tg hb2;obtain⟨i1,i2⟩:=ih _ (AfU hls tg.pln hb2);rw[h,er,if_neg (by decide)];rw[show decide ((0:Int)=-1)=Φ from rfl,show decide ((0:Int)=0)=Δ from rfl];dsimp only;rw[gn];dsimp only;rw[i1];have e2:G6 (Jh x).1 (Jh x).2=G6 x.1.lf x.2:=rfl;rw[e2]
   cases et2:Da (rs.map Jh) with
   |none=>exact⟨rfl,λT h=>by cases h⟩
   |some t=>
    refine⟨rfl,λT h=>?_⟩;injection h with h
    subst h;exact i2 t et2
  .obtain⟨i1,i2⟩:=ih ls hls
   rw[h,if_neg (by decide)];rw[show decide ((1:Int)=-1)=Φ from rfl,show decide ((1:Int)=0)=Φ from rfl];dsimp only;rw[i1]
   cases et2:Da (rs.map Jh) with
   |none=>exact⟨rfl,λT h=>by cases h⟩
   |some t=>
    refine⟨rfl,λT h=>?_⟩;injection h with h
    subst h;exact i2 t et2
omit Kl in
theorem Yn{n k:Nat}(hn:n<=100000)(hk:k<=1000000):∀(ls:List Ln) (out:List RL),(∀ x∈ls,LnB n k x/\(x.lo≠Ξ\/x.hi≠Ξ))->
  Po (EL D) (ls.map Eh) (out.map I3)=Θ (match Hk ls with|none=>Ξ|some l=>Θ ((out++l).map I3))
 |[],out,_=>by
  rw[Hk];simp only[List.append_nil];rfl
 |x::ls,out,h=>by
  obtain⟨hb,hne⟩:=h x (AqS ..);have ih:=λout=>Yn hn hk ls out λy hy=>h y (ο _ hy)
  have g:EL D 14 [.ptr 0 0] [⟨Eh x,Δ,Φ⟩]=Θ (Pd x,[.set (bk (Eh x))]):=Zn Kt Kf Ks Z C Kd hb hn hk;rw[Aq8,Po,g,Hk]
  cases er:FL x with
  |none=>
   have:YK (Θ (Pd x,[.set (bk (Eh x))]))=Θ ([],Φ,Eh x):=by
    unfold Pd;rw[er];rfl
   rw[this]
  |some l=>
   have:YK (Θ (Pd x,[.set (bk (Eh x))]))=Θ (l.map I3,Δ,Eh x):=by
    unfold Pd;rw[er];unfold YK;simp only[bv];rw[UJ];rfl
   rw[this];have hl:(∃ a,l=[a])\/∃ a b,l=[a,b]:=by
    obtain⟨ps,lo,hi⟩:=x;unfold FL at er
    cases lo with
    |none=>
     cases hi with
     |none=>rcases hne with h|h<;>exact absurd rfl h
     |some v=>injection er with er;exact .inl ⟨_,er.symm⟩
    |some u=>
     cases hi with
     |none=>injection er with er;exact .inl ⟨_,er.symm⟩
     |some v=>
      simp only at er;split at er
      .cases er
      split at er
      .injection er with er;exact .inl ⟨_,er.symm⟩
      .injection er with er;exact .inr ⟨_,_,er.symm⟩
   rcases hl with⟨a,rfl⟩|⟨a,b,rfl⟩
   .have:=ih (out++[a])
    rw[Atb]at this;simp only[Aq8,ArV]at this ⊢;rw[this]
    cases Hk ls<;>simp
   .have:=ih (out++[a,b])
    rw[Atb]at this;simp only[Aq8,ArV]at this ⊢;rw[this]
    cases Hk ls<;>simp
end
structure SrF (D:Orc) (n k:Nat):Prop where
 sort:∀ l:List RL,l.length<=12->l.Nodup->(∀ x∈l,TgR x/\LB n k x.1)->∃ r:List RL,D.ask (.fn 15) [.sl 0 0 l.length 4,.fn (.func 16) [] []] [θ (Ah BX l) Δ Δ]=Θ (.tup [],[.set (θ (Ah BX r) Δ Δ)])/\r.Perm l/\IZ r
 nil:D.ask (.fn 15) [.v (.slice Ξ 0 0),.fn (.func 16) [] []] []=Θ (.tup [],[])
theorem AdQ{D:Orc}{n k:Nat}(S:SrF D n k){l:List RL}(h1:l.length<=12)(h2:l.Nodup)(h3:∀ x∈l,TgR x/\LB n k x.1):∃ r:List RL,U2 (EL D) (l.map I3)=Θ (r.map I3)/\r.Perm l/\IZ r:=by
 obtain⟨r,g,hp,ha⟩:=S.sort l h1 h2 h3;refine⟨r,?_,hp,ha⟩;have e:Aex (l.map I3) (EL D 15 [.sl 0 0 (l.map I3).length 4,.fn (.func 16) [] []] [⟨(l.map I3).flatMap RlA.c,Δ,Δ⟩])=Θ (r.map I3):=by
  rw[Aq7,Qo];unfold EL;rw[g];exact N0 r
 have hlen:=hp.length_eq;unfold U2;rw[e]
 cases l with
 |nil=>
  have:r=[]:=List.length_eq_zero_iff.1 hlen;subst this;have:AaO (EL D 15 [.v (.slice Ξ 0 0),.fn (.func 16) [] []] [])=Δ:=by
   unfold EL;rw[S.nil];rfl
  show (match AaO _ with|true=>Θ [] | false=>Ξ)=_
  rw[this];rfl
 |cons x l=>
  have:Aru (r.map I3).length ((x::l).map I3).length=Δ:=by
   rw[Aq7,Aq7,hlen];exact Nat.beq_refl _
  cases r with
  |nil=>simp at hlen
  |cons y r=>
   show (match Aru ((y::r).map I3).length ((x::l).map I3).length with|true=>Θ ((y::r).map I3) | false=>Ξ)=_
   rw[this]
theorem Adn{n k:Nat}{x:Ln}(h:LnB n k x){r:RL}(g:Hc x.ps x.lo x.hi r):LB n k r.1:=by
 rcases g with⟨a,h1,_,rfl⟩|⟨_,⟨a,h1,rfl⟩|⟨b,h1,rfl⟩⟩
 .exact⟨h.lb.len,h.lb.ps,(h.lo a h1).neg⟩
 .exact⟨h.lb.len,h.lb.ps,(h.lo a h1).neg⟩
 .exact LB.negP ⟨h.lb.len,h.lb.ps,h.hi b h1⟩
section
variable {D:Orc} (Kt:Knows Al FP D) (Kf:Knows Al Lh D) (Ks:Knows Al Ed D) (Z:ZF D) (C:PartF D) (Kl:Knows Al Ld D) (Kd:Knows Al Q9 D)
include Kt Kf Ks Z C Kl Kd
theorem Ad4{n k:Nat}(S:SrF D n k)(hn:n<=100000)(hk:k<=1000000){rs:List (Tm × Bool)}(hrs:rs.length<=10000)
  (hT:∀ x∈rs,EL D 12 [.agg (CY x)] []=Θ (.tup [.agg (CY (CH x.1.lf.pln.tm x.2).1),iv (CH x.1.lf.pln.tm x.2).2],[])/\TmB n k (CH x.1.lf.pln.tm x.2).1.1)
  (hq:∃ qs:List RL,qs.length<=12/\∀ x,x∈rs.map Jh ↔ x∈qs) :
  ∃ o:Option (List RL),D0 (rs.map Jh) o/\Yz (EL D) (rs.map rlT)=Θ (o.map (AuT I3)):=by
 obtain⟨r1,r2⟩:=Ym Kt Kf Ks Z C Kl Kd hn hk rs [] (by simp) hT;rw[ArV]at r1;have hble:Nat.ble (rs.map rlT).length 10000=Δ:=by rw[Aq7,Nat.ble_eq];exact hrs
 unfold Yz D0;rw[hble,r1]
 cases e:Da (rs.map Jh) with
 |none=>exact⟨Ξ,rfl,rfl⟩
 |some T=>
  have htg:=NA e;have hok:LsOk T (T.foldl EO []):=LV htg;have hlb:=r2 T e;have hne:∀ x∈T.foldl EO [],LnB n k x/\(x.lo≠Ξ\/x.hi≠Ξ):=λx hx=>by
   refine⟨hlb x hx,?_⟩;have ok:=hok.ok x hx;obtain⟨hp,r,hr,h⟩:=ok.key;rcases h with h|h
   .obtain⟨u,hu⟩:=Aju hr h
    exact .inl (by rw[ok.lo,hu];simp)
   .obtain⟨u,hu⟩:=Ajh hp hr h
    exact .inr (by rw[ok.hi,hu];simp)
  have r3:=Yn Kt Kf Ks Z C Kd hn hk (T.foldl EO []) [] hne;rw[ArV]at r3;dsimp only;rw[r3];obtain⟨t1,t2⟩:=S2 hok
  cases ea:Hk (T.foldl EO []) with
  |none=>exact⟨Ξ,t1 ea,rfl⟩
  |some l=>
   obtain⟨hnd,t3⟩:=t2 l ea;have hmem:=(IE ea).1;have hout:∀ r∈l,Rm T r:=λr hr=>by
    obtain⟨x,hx,g⟩:=(hmem r).1 hr;have ok:=hok.ok x hx;rw[ok.lo,ok.hi]at g;exact⟨x.ps,ok.key,g⟩
   have hlen:l.length<=12:=by
    obtain⟨qs,hl,hqs⟩:=hq;obtain⟨a1,a2⟩:=Iw (rs:=rs.map Jh);obtain⟨b1,b2⟩:=Iw (rs:=qs)
    cases e2:Da qs with
    |none=>
     obtain⟨r,hr,hlt⟩:=b1.1 e2;rw[a1.2 ⟨r,(hqs r).2 hr,hlt⟩]at e
     cases e
    |some U=>
     have hUT:∀ x,x∈T ↔ x∈U:=λx=>by
      rw[a2 T e,b2 U e2];constructor
      .rintro⟨r,hr,g⟩;exact⟨r,(hqs r).1 hr,g⟩
      .rintro⟨r,hr,g⟩;exact⟨r,(hqs r).2 hr,g⟩
     have h1:=X8 hnd (T:=U) λr hr=>(Ac0 hUT r).1 (hout r hr)
     have h2:=Lj e2;omega
   obtain⟨s,g,hp,ha⟩:=AdQ S hlen hnd λr hr=>⟨Ac1 htg (hout r hr),by
    obtain⟨x,hx,g⟩:=(hmem r).1 hr;exact Adn (hlb x hx) g⟩
   refine⟨Θ s,t3 s ha λr=>hp.mem_iff,?_⟩;dsimp only;rw[List.nil_append,g];rfl
theorem WL{n k:Nat}(S:SrF D n k)(hn:n<=100000)(hk:k<=1000000){rs:List (Tm × Bool)}(hrs:rs.length<=10000)
  (hT:∀ x∈rs,EL D 12 [.agg (CY x)] []=Θ (.tup [.agg (CY (CH x.1.lf.pln.tm x.2).1),iv (CH x.1.lf.pln.tm x.2).2],[])/\TmB n k (CH x.1.lf.pln.tm x.2).1.1)
  (hq:∃ qs:List RL,qs.length<=12/\∀ x,x∈rs.map Jh ↔ x∈qs) :
  ∃ o:Option (List RL),D0 (rs.map Jh) o/\M8 (CX (EL D)) [.ls (rs.map CY)] []=Θ (match o with|some s=>.tup [.ls (s.map BX),bv Δ] | none=>.tup [.ls [],bv Φ],[]):=by
 obtain⟨o,h1,h2⟩:=Ad4 Kt Kf Ks Z C Kl Kd S hn hk hrs hT hq;refine⟨o,h1,?_⟩;have hr:Akd [.ls (rs.map CY)]=Θ (rs.map rlT):=by
  show SD (rs.map CY)=_
  clear h1 h2 hrs hT hq
  induction rs with
  |nil=>rfl
  |cons x r ih=>
   rw[Aq8,SD,ih];rfl
 have:CX (EL D) [.ls (rs.map CY)]=Θ (YA (o.map (AuT I3))):=by
  unfold CX;rw[hr];dsimp only;rw[h2]
 show (CX (EL D) [.ls (rs.map CY)]).map _=_
 rw[this]
 cases o with
 |none=>rfl
 |some s=>
  show Θ (AV.tup [.ls ((s.map I3).map RlA.c),bv Δ],[])=_
  rw[Asa];rfl
end
theorem AjY{n k:Nat}{T:List RL}(hT:∀ r∈T,LB n k r.1){r:RL}(h:Rm T r):LB n k r.1:=by
 obtain⟨p,⟨_,s,hs,e⟩,g⟩:=h;have b:=hT s hs;have hp:∀ a,InB k a->LB n k ⟨p,a⟩:=λa ha=>by
  rcases e with e|e
  .rw[←e]
   exact⟨b.len,b.ps,ha⟩
  .have e2:p=negP s.1.ps:=by rw[e,Ck]
   rw[e2];exact LB.negP ⟨b.len,b.ps,ha⟩
 have lo:∀ a,JY T p=Θ a->InB k (-a):=λa h=>by
  obtain⟨⟨s,hs,_,e⟩,_⟩:=OO.1 h;rw[←e,Int.neg_neg];exact(hT s hs).k
 have hi:∀ b,JH T p=Θ b->InB k b:=λb h=>by
  obtain⟨⟨s,hs,e⟩,_⟩:=TR.1 h;rcases e with⟨_,_,e⟩|⟨_,_,e⟩
  .rw[←e]
   exact(hT s hs).k.neg
  .rw[←e]
   exact(hT s hs).k
 rcases g with⟨a,h1,_,rfl⟩|⟨_,⟨a,h1,rfl⟩|⟨b,h1,rfl⟩⟩
 .exact hp _ (lo a h1)
 .exact hp _ (lo a h1)
 .exact LB.negP (hp _ (hi b h1))
theorem Aah{rs s:List RL}(h:D0 rs (Θ s)):s.length<=rs.length:=by
 unfold D0 at h
 cases e:Da rs with
 |none=>rw[e]at h;cases h
 |some T=>
  rw[e]at h;exact ArJ (Ad5 h) (Lj e)
theorem Ad3{n k:Nat}{rs s:List RL}(h:D0 rs (Θ s))(hb:∀ r∈rs,LB n k (G6 r.1 r.2).1):IZ s/\∀ r∈s,LB n k r.1/\TgR r:=by
 unfold D0 at h
 cases e:Da rs with
 |none=>rw[e]at h;cases h
 |some T=>
  rw[e]at h;refine⟨h.2.1,λr hr=>⟨AjY (λx hx=>?_) ((h.2.2 r).1 hr),Ac1 (NA e) ((h.2.2 r).1 hr)⟩⟩;obtain⟨y,hy,_,rfl⟩:=((Iw (rs:=rs)).2 T e x).1 hx;exact hb y hy
theorem IY{r:RL}(h:TgR r)(s:List RL):Da (r::s)=(Da s).map (r::·):=by
 have e:=Ad1 h;have k:F6 r.1 r.2=0:=by unfold F6;rw[h.plnE,e]
 have t:G6 r.1 r.2=r:=by unfold G6;rw[h.plnE,e];simp only[BE]
 rw[Da,k,t]
 cases Da s<;>rfl
def rX:RL:=(⟨[(0,1)],0⟩,Φ)
def ZI:RL:=(⟨[(0,-1)],0⟩,Φ)
def rX1:RL:=(⟨[(0,1)],-1⟩,Φ)
def rXe:RL:=(⟨[(0,1)],0⟩,Δ)
def rK5:RL:=(⟨[],5⟩,Φ)
theorem Sv{v c:Int}(hv:0<=v)(hc:c≠0):Pln [(v,c)]:=
 ⟨AsF ..,λp hp=>by rw[Arh]at hp;rw[hp];exact hv,λp hp=>by rw[Arh]at hp;rw[hp];exact hc⟩
theorem tgX:TgR rX:=⟨Sv (by decide) (by decide),by unfold rX;simp,by decide,λh=>by cases h⟩
theorem AgN:TgR ZI:=⟨Sv (by decide) (by decide),by unfold ZI;simp,by decide,λh=>by cases h⟩
theorem AnZ:TgR rX1:=⟨Sv (by decide) (by decide),by unfold rX1;simp,by decide,λh=>by cases h⟩
theorem An0:Da [rK5]=Θ []:=by
 have k:F6 rK5.1 rK5.2=1:=by
  unfold F6 CH;rw[if_pos (by rfl)];refine if_pos (.inr ⟨rfl,?_⟩)
  show 0<zv (Aq 5)
  rw[AE]
  decide
 rw[Da,k];rfl
theorem Ad6:D0 [rX,ZI,rK5] (Θ [rXe]):=by
 have e:Da [rX,ZI,rK5]=Θ [rX,ZI]:=by rw[IY tgX,IY AgN,An0];rfl
 unfold D0;rw[e];have h:=LV (T:=[rX,ZI]) λr hr=>by
  rcases AqU.1 hr with rfl|hr
  .exact tgX
  .rw[Arh]at hr
   rw[hr];exact AgN
 exact((S2 h).2 [rXe] (by kernel_rfl)).2 [rXe] (AsF ..) λ_=>Iff.rfl
theorem AgP:D0 [rX1,ZI] Ξ:=by
 have e:Da [rX1,ZI]=Θ [rX1,ZI]:=by rw[IY AnZ,IY AgN];rfl
 unfold D0;rw[e];have h:=LV (T:=[rX1,ZI]) λr hr=>by
  rcases AqU.1 hr with rfl|hr
  .exact AnZ
  .rw[Arh]at hr
   rw[hr];exact AgN
 exact(S2 h).1 (by kernel_rfl)
theorem Aa4:CloneF DCp where
 nat l h:=Aaq (IF h)
theorem Apf:ZF DCp:=Aen Amk AmD Aa4
theorem Af0:PartF DCp where
 clone l h:=Aau (Jx h)
 grow n h:=Aeg (Qt h)
theorem UR:SeatOk Aq1 BP Mg:=Z0 ⟨Ga,GN,LK,trivial⟩
theorem gCp(f:Nat):BS (B5 Aq1 f) ((AY Af Mg).ask (.fn f)):=DX UR f
theorem UV:SeatOk Aq1 BP Mi:=Z4 ⟨gCp _,trivial⟩
theorem gSr(f:Nat):BS (B5 Aq1 f) ((AY Af Mi).ask (.fn f)):=DX UV f
theorem Tu:CloneF ID where
 nat l h:=Aas (IF h)
theorem Aks:ZF ID:=Aen AhT Ah1 Tu
theorem X9:PartF ID where
 clone l h:=Aav (Jx h)
 grow n h:=Aeh (Qt h)
theorem Ai0:DivF ID where
 div _ _ ha hal hb hbl:=Ag1 (Any ha hal hb hbl)
theorem An7:ZdF ID:=Aix AhT Ah1 Tu Amm Ai0
theorem An1:TiF ID:=Akl AhZ Ah0 AhX Aks X9 Amy An7 (λh hn hk=>Aax (Z9 h hn hk))
theorem UW:SeatOk Aq1 BP SG:=Z6 ⟨Ga,GN,LK,Aln _,gSk _,gSr _,trivial⟩
theorem gTi(f:Nat):BS (B5 Aq1 f) ((AY Af SG).ask (.fn f)):=DX UW f
theorem AhE:BS (B5 Aq1 6) (M8 (CX (EL ID))):=Aai (EL ID) gTi
theorem srF{n k:Nat}(hn:n<=1000000)(hk:k+n<=900000000):SrF ID n k where
 sort l h1 h2 h3:=by
  obtain⟨r,g,hp,ha⟩:=AdR AhY h1 h2 λx hx y hy=>by
   have:=Ako (ZK AmA Amx Apf Af0 Ami (h3 x hx).2.tb (h3 y hy).2.tb hn hk x.2 y.2);rw[BE,BE,(h3 x hx).1.plnE,(h3 y hy).1.plnE]at this;exact this
  exact⟨r,YE g,hp,ha⟩
 nil:=YE (Aab AhY)
theorem Ad2{n k:Nat}{t:Tm}(ht:TmB n k t)(hn:n<=1000000)(hk1:1<=k)(hk:k+3*n<=100000000)(e:Bool):ID.ask (.fn 12) [.agg (CY (t,e))] []
  = Θ (.tup [.agg (CY (CH t.lf.pln.tm e).1),iv (CH t.lf.pln.tm e).2],[]):=Ad7 AmC Aks An7 An1 ht hn hk1 hk e
theorem Yy{n k:Nat}(hn:n<=100000)(hk1:1<=k)(hk:k+4*n+4<=1000000){rs:List (Tm × Bool)}(hrs:rs.length<=10000)(hb:∀ x∈rs,TmB n k x.1)
  (hq:∃ qs:List RL,qs.length<=12/\∀ x,x∈rs.map Jh ↔ x∈qs) :
  ∃ o:Option (List RL),D0 (rs.map Jh) o/\M8 (CX (EL ID)) [.ls (rs.map CY)] []=Θ (match o with|some s=>.tup [.ls (s.map BX),bv Δ] | none=>.tup [.ls [],bv Φ],[]):=
 WL AhZ Ah0 AhX Aks X9 Amj Amz (srF (n:=n) (k:=k+4*n+4) (by omega) (by omega)) hn hk hrs (λx hx=>⟨Ad2 (hb x hx) (by omega) hk1 (by omega) x.2,W5 (hb x hx) hk1 x.2⟩) hq
def AnE:List (Nat × Nat):=[(60,0),(101,0),(128,0),(129,0),(142,0),(145,0),(64,0),(104,0),(138,0)]
def Ajx:MFn:=BI [⟨29,(mB 14384),[],[],[(1,((mB 48),([],[])))]⟩] 10
def AjA:MFn:=BI [] 27
def AjE:MFn:=BI [] 55
def AjR:MFn:=BI [⟨37,(mB 25),[],[],[(1,((mB 8),([],[])))]⟩,⟨37,(mB 8),[],[],[(3,((mB 8),([],[])))]⟩] 94
def AjL:MFn:=BI [⟨36,(mB 227),[],[],[(1,((mB 32),([],[])))]⟩] 66
def AfI:MFn:=BI [] 105
def AfJ:MFn:=BI [] 106
def Anx:MFn:=BI [] 9
def Ajz:MFn:=BI [⟨74,(mB 917524),[],[],[(1,((mB 20),([],[])))]⟩] 26
def AjF:MFn:=BI [] 60
def AfE:MFn:=BI [⟨63,(mB 455),[],[],[(1,((mB 199),([],[1000000])))]⟩,⟨63,(mB 71),[],[],[(3,([],([],[1000000])))]⟩,⟨63,(mB 455),[],[],[(5,((mB 199),([],[1000000])))]⟩] 101
def AfN:MFn:=BI [⟨53,(mB 271),[],[],[(1,([],([],[1000000])))]⟩,⟨53,(mB 783),[],[],[(3,((mB 271),([],[1000000])))]⟩] 128
def AfO:MFn:=BI [⟨220,(mB 3091),[],[],[(1,((mB 1027),([],[1000000])))]⟩,⟨220,(mB 9217),[],[],[(3,([],([],[1000000])))]⟩,⟨220,(mB 49173),[],[],[(5,((mB 16389),([],[1000000])))]⟩,⟨220,(mB 147457),[],[],[(7,([],([],[1000000])))]⟩,⟨220,(mB 8126495),[],[],[(9,((mB 1835039),([],[1000000])))]⟩] 129
def AfP:MFn:=BI [⟨58,(mB 3093),[],[],[(1,((mB 1045),([],[1000000])))]⟩] 142
def AfQ:MFn:=BI [⟨38,(mB 1039),[],[],[(1,([],([],[1000000])))]⟩] 145
def AjG:MFn:=BI [] 61
def AjD:MFn:=BI [] 47
def AjQ:MFn:=BI [] 91
def AjH:MFn:=BI [] 62
def AjO:MFn:=BI [] 71
def AfM:MFn:=BI [] 109
def AfL:MFn:=BI [⟨21,(mB 9),[],[],[(1,((mB 9),([],[])))]⟩] 108
def AjI:MFn:=BI [] 63
def AfF:MFn:=BI [⟨61,(mB 234881122),[],[],[(1,((mB 96),([],[])))]⟩] 102
def AfG:MFn:=BI [⟨59,(mB 58720450),[],[],[(1,((mB 64),([],[])))]⟩] 103
def AjP:MFn:=BI [⟨49,(mB 35),[],[],[(0,((mB 16),([],[]))),(2,([],([],[])))]⟩] 78
def AjJ:MFn:=PN Aq1 BP [⟨42,(mB 99),[],[],[(1,((mB 33),([],[1000000])))]⟩] Δ Φ 64
def AfH:MFn:=BI [⟨19,(mB 387),[],[],[(0,((mB 16),([],[1000000]))),(1,([],([],[1000000])))]⟩] 104
def AjK:MFn:=BI [] 65
def AjC:MFn:=BI [] 30
def AjN:MFn:=BI [] 68
def Ajy:MFn:=BI [] 11
def AjB:MFn:=BI [⟨57,(mB 44),[],[],[(0,((mB 16),([],[]))),(1,([],([],[])))]⟩] 28
def AjM:MFn:=BI [] 67
def AfK:MFn:=BI [⟨26,(mB 35),[],[],[(0,((mB 16),([],[]))),(1,([],([],[])))]⟩] 107
def AnX:List (Nat × MFn):=[(10,Ajx),(27,AjA),(55,AjE),(94,AjR),(66,AjL),(105,AfI),(106,AfJ),(9,Anx),(26,Ajz),(60,AjF),(101,AfE),(128,AfN),(129,AfO),(142,AfP),(145,AfQ),(61,AjG),(47,AjD),(91,AjQ),(62,AjH),(71,AjO),(109,AfM),(108,AfL),(63,AjI),(102,AfF),(103,AfG),(78,AjP),(64,AjJ),(104,AfH),(65,AjK),(30,AjC),(68,AjN),(11,Ajy),(28,AjB),(67,AjM),(107,AfK)]
