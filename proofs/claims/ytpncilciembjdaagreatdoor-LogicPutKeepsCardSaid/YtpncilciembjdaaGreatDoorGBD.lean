/- A walk beside its caller -/
import Derived.Test.YtpncilciembjdaaGreatDoorGBC
set_option linter.all false
open Bool renaming true->U
open List renaming flatMap_cons->Asd,getElem?_eq_some_iff->Aqo,length_map->Aqy
open Nat renaming le_of_ble_eq_true->Ark,le_refl->ω,zero_add->Aqw
open Option renaming none->Θ,some->Δ,map_eq_some_iff->AqX
namespace Go.Proofs.YtpncilciembjdaaGreatDoor
open Tryz renaming prog->η
open Go.RowKit
theorem T8{P:Program}{f:Nat}(res:List AV->Option AV)
  (h:∀ args r,res args=Δ r->AA args=U/\∀(S:Side) (w:World) (us:List Value),Sd [] w->RoL [] w args us->AT P f us w λu w'=>∃ own',Xt [] own' w w'/\Ro [] w' r u) :
  AN (AT P f) (CA res):=by
 intro args bs r out hd
 cases bs with
 |cons=>cases hd
 |nil=>
  obtain⟨r',hr,he⟩:=AqX.1 hd;obtain⟨rfl,rfl⟩:r'=r/\[]=out:=by simpa using he
  obtain⟨hn,hs⟩:=h args r' hr;refine⟨ω _,0,ω _,λt _ μ F w KL us hKL hus hH hμ=>?_⟩;have hH2:HRep μ F w λb=>look b KL:=Nj hH λb k hb=>by
   have h1:=hKL _ (Nr hb);rw[if_neg (by simp only at h1;omega)];exact hb
  let S:Side:=⟨μ,KL,w.heap.size,λb k p hb hp h0=>by
   obtain⟨q,hq,B⟩:=hH2.blk b k hb;rw[hp]at hq;injection hq with hq
   subst hq;obtain⟨⟨u,h1⟩,_⟩:=B.there 0 h0;exact CL h1⟩
  have hF:∀ g o,F g o->CG [] w g o:=λg o hg=>⟨hH.prot g o hg,by simp,H7 (S:=S) hH2 hg⟩
  have hsd:Sd [] w:=⟨ω _,λg hg=>by simp at hg,GX (S:=S) hH2 λg o hg _=>hF g o hg⟩;have hro:RoL [] w args us:=RepList.later ⟨λ_ _ h=>h,λg o hg=>⟨hF g o hg,rfl⟩⟩ _ _ (CX μ (λ_=>Θ) args us hn hus);refine B8 P f _ _ _ _ (hs S w us hsd hro) ?_;rintro u w' ⟨own',hx,hu⟩;have hoff:∀ g o,CG own' w' g o->CG [] w' g o:=λg o hg=>⟨hg.1,by simp,hg.2.2⟩
  refine⟨μ,CG [] w',Rep.later ⟨(λ_ _ hb=>by cases hb),λ_ _ h=>⟨h,rfl⟩⟩ _ _ hu,?_,⟨λ_ _ h=>h,λg o hg=>⟨hoff g o (hx.later.prot g o (hF g o hg)).1,(hx.later.prot g o (hF g o hg)).2⟩⟩,hx.wstep.less hF,λ_ _=>rfl⟩;refine Nj (GX (S:=S) (own:=[]) (hx.side hsd).rep λg o hg _=>hoff g o hg) λb k hb=>?_
  by_cases hbt:b<t
  .rw[if_pos hbt]at hb
   cases hb
  .rw[if_neg hbt]at hb
   exact hb
def P2:List AV->Option (List RlA)
 |[]=>Δ []
 |a::b::c::d::r=>(match rlO [a,b,c,d],P2 r with
  |some p,Δ l=>Δ (p::l)
  |_,_=>Θ)
 |_=>Θ
theorem Lk:∀{xs:List AV} {l:List RlA},P2 xs=Δ l->xs=l.flatMap RlA.c
 |[],l,h=>by injection h with h;subst h;rfl
 |[_],l,h=>by cases h
 |[_,_],l,h=>by cases h
 |[_,_,_],l,h=>by cases h
 |a::b::c::d::r,l,h=>by
  unfold P2 at h;split at h
  .rename_i p l' h1 h2
   injection h with h
   subst h;rw[Asd,←NL h1,←Lk h2];rfl
  .cases h
section
variable (dq:Nat->DF)
def AiN(out:List RlA):Option (AV × List BO)->Option (List RlA)
 |some (.tup [],[.set ⟨y,U,U⟩])=>P2 y
 |some (.tup [],[.keep])=>Δ out
 |_=>Θ
theorem OB{out:List RlA}{o:Option (AV × List BO)}{l:List RlA}(h:AiN out o=Δ l):∃ ob,o=Δ (.tup [],[ob])/\((ob=.keep/\l.flatMap RlA.c=out.flatMap RlA.c)\/ob=.set ⟨l.flatMap RlA.c,U,U⟩):=by
 unfold AiN at h;split at h
 .exact⟨_,rfl,.inr (by rw[Lk h])⟩
 .injection h with h
  exact⟨_,rfl,.inl ⟨rfl,by rw[h]⟩⟩
 .cases h
def AiQ:Option (AV × List BO)->Bool
 |some (.tup [],[])=>U
 |_=>false
theorem V9{o:Option (AV × List BO)}(h:AiQ o=U):o=Δ (.tup [],[]):=by
 unfold AiQ at h;split at h
 .rfl
 .cases h
def Aa0(out:List RlA):Option (List RlA):=match AiN out (dq 90 [.sl 0 0 out.length 4,.fn (.func 25) [] []] [⟨out.flatMap RlA.c,U,U⟩]),out with
 |some [],[]=>(match AiQ (dq 90 [.v (.slice Θ 0 0),.fn (.func 25) [] []] []) with
  |true=>Δ []
  |false=>Θ)
 |some s,_::_=>(match Nat.beq s.length out.length with
  |true=>Δ s
  |false=>Θ)
 |_,_=>Θ
theorem UN{out s:List RlA}(h:Aa0 dq out=Δ s):s.length=out.length/\(∃ ob,dq 90 [.sl 0 0 out.length 4,.fn (.func 25) [] []] [⟨out.flatMap RlA.c,U,U⟩]=Δ (.tup [],[ob])/\((ob=.keep/\s.flatMap RlA.c=out.flatMap RlA.c)\/ob=.set ⟨s.flatMap RlA.c,U,U⟩)) ∧
  (out=[]->dq 90 [.v (.slice Θ 0 0),.fn (.func 25) [] []] []=Δ (.tup [],[])):=by
 unfold Aa0 at h;split at h
 .rename_i h1
  split at h
  .rename_i h2
   injection h with h
   subst h;exact⟨rfl,OB h1,λ_=>V9 h2⟩
  .cases h
 .rename_i h1
  split at h
  .rename_i h2
   injection h with h
   subst h;exact⟨Nat.eq_of_beq_eq_true h2,OB h1,λh=>by cases h⟩
  .cases h
 .cases h
def AiC(rs:List RlA):Option (Option (List RlA)):=match Nat.ble rs.length 10000,SN dq rs []with
 |true,Δ Θ=>Δ Θ
 |true,Δ (Δ ls)=>(match SO dq ls []with
  |some Θ=>Δ Θ
  |some (Δ out)=>(match Aa0 dq out with
   |some s=>Δ (Δ s)
   |none=>Θ)
  |none=>Θ)
 |_,_=>Θ
def Abn:Option (List RlA)->AV
 |some s=>.tup [.ls (s.map RlA.c),bv U]
 |none=>.tup [.ls [],bv false]
def Am1:List AV->Option (List RlA)
 |[.ls xs]=>Aaz xs
 |[.v (.slice Θ 0 0)]=>Δ []
 |_=>Θ
def JR(args:List AV):Option AV:=match Am1 args with
 |some rs=>(match AiC dq rs with
  |some o=>Δ (Abn o)
  |none=>Θ)
 |none=>Θ
theorem QC[S:Side]{w:World}{a b:AV}{u v:Value}(h:Ro [] w a u)(k:Ro [] w b v):Ro [] w (.tup [a,b]) (.tuple #[u,v]):=by
 unfold Ro at h k ⊢;simp only[Rep,RepList];exact⟨_,rfl,_,_,rfl,h,_,_,rfl,k,rfl⟩
theorem UC[S:Side]{own:List Nat}{w:World}:Ro own w (.ls []) (.slice Θ 0 0):=by
 unfold Ro;simp only[Rep];exact⟨rfl,Θ,0,rfl,ω _,Nat.zero_le _,λh=>absurd rfl h⟩
theorem OQ:∀(s:List RlA) (i j:Nat) (r:RlA),s[i]? = Δ r->j<4->(s.flatMap RlA.c)[i*4+j]? = r.c[j]?
 |[],i,j,r,h,_=>by simp at h
 |x::s,0,j,r,h,hj=>by
  simp at h;subst h;rw[Asd,Nat.zero_mul,Aqw,List.getElem?_append_left (show j<x.c.length from hj)]
 |x::s,i+1,j,r,h,hj=>by
  rw[Asd,List.getElem?_append_right (show x.c.length<=(i+1)*4+j from (by show 4<=_;omega)),←OQ s i j r (by simpa using h) hj]
  congr 1
  show (i+1)*4+j-4=_
  omega
theorem AkS[S:Side]{own:List Nat}{w:World}{s:List RlA}{g cap:Nat}{T:TypeId}{cs:Array Value}(hb:Blk w g T cs)(hB:S.B<=g)(hs:Sd own w)(h1:cs.size=cap*4)(h2:s.length<=cap)(h3:cap<=maxLen)(h:RoL own w (s.flatMap RlA.c) (cs.toList.take (s.length*4))):Ro [] w (.ls (s.map RlA.c)) (.slice (Δ ⟨g,0,Θ⟩) s.length cap):=by
 have hz:∀ o,¬ AaV g o:=by
  rintro o ⟨b,k,p,hk,hp,i,hi,rfl,rfl⟩;obtain⟨q,hq,B⟩:=hs.rep.blk b k hk;rw[hp]at hq;injection hq with hq
  subst hq;have:=S.low b k p hk hp (by
   rcases hi with h|h
   .have:=B.room;omega
   .omega)
  omega
 have hoff:∀ k o,CG own w k o->CG [] w k o:=λk o h=>⟨h.1,by simp,h.2.2⟩
 have h':RepList (λ_=>Θ) (CG [] w) w (s.flatMap RlA.c) (cs.toList.take (s.length*4)):=RepList.later ⟨λ_ _ h=>h,λk o hk=>⟨hoff k o hk,rfl⟩⟩ _ _ h;unfold Ro;simp only[Rep];refine⟨?_,Δ ⟨g,0,Θ⟩,cap,by rw[Aqy],by rw[Aqy];exact h2,h3,λ_=>⟨g,0,4,rfl,RepRows.mk λi x hx=>?_⟩⟩
 .unfold Fz
  rw[List.all_eq_true];intro x hx;obtain⟨r,_,rfl⟩:=List.mem_map.1 hx;rfl
 .rw[List.getElem?_map]at hx
  obtain⟨r,hr,rfl⟩:=AqX.1 hx;have hi:=(Aqo.1 hr).1;refine⟨rfl,RepAt.mk λj y hy=>?_⟩;have hj:j<4:=(Aqo.1 hy).1;have e:(s.flatMap RlA.c)[i*4+j]? = Δ y:=by
   rw[←hy];exact OQ s i j r hr hj
  obtain⟨u,k1,k2⟩:=h'.get e;have hl:i*4+j<s.length*4:=by omega
  rw[List.getElem?_take,if_pos hl,Array.getElem?_toList]at k1;refine⟨⟨hb.lt,by simp,hz _⟩,u,?_,k2⟩;rw[Aqw,hb.cell];exact k1
theorem PB(G:∀ f,AN (AT η f) (dq f)):AN (AT η 33) (CA (JR dq)):=by
 refine T8 _ λargs r hr=>?_
 unfold JR at hr;split at hr
 .rename_i rs hrs
  split at hr
  .rename_i o ho
   injection hr with hr
   subst hr
   have key:∀(S:Side) (w:World) (A:Option Addr) (c:Nat),Sd [] w->Ro [] w (.ls (rs.map RlA.c)) (.slice A rs.length c)->AT η 33 [.slice A rs.length c] w λu w'=>∃ own',Xt [] own' w w'/\Ro [] w' (Abn o) u:=λS w A c hs hro=>by
    unfold AiC at ho;have none':∀ w' own',Xt [] own' w w'->(λu w'=>∃ own',Xt [] own' w w'/\Ro [] w' (Abn Θ) u) (.tuple #[.slice Θ 0 0,.bool false]) w':=λw' own' hx=>⟨own',hx,QC UC (Ro.v rfl)⟩
    split at ho
    .rename_i hl h1
     injection ho with ho
     subst ho;exact N1 dq G rs (Ark hl) Θ (EE dq h1) w A c hs hro Θ _ (λ_=>none') (λls h=>by cases h) (λout h=>by cases h)
    .rename_i ls hl h1
     split at ho
     .rename_i h2
      injection ho with ho
      subst ho;exact N1 dq G rs (Ark hl) (Δ ls) (EE dq h1) w A c hs hro Θ _ (λ_=>none') (λls' h=>by injection h with h;subst h;exact Gk dq h2) (λout h=>by cases h)
     .rename_i out h2
      split at ho
      .rename_i s h3
       injection ho with ho
       subst ho;obtain⟨s1,s2,s3⟩:=UN dq h3;refine N1 dq G rs (Ark hl) (Δ ls) (EE dq h1) w A c hs hro (Δ out) _ (λh=>?_) (λls' h=>by injection h with h;subst h;exact Gk dq h2) (λout' h=>?_)
       .rcases h with h|h<;>cases h
       .injection h with h
        subst h;refine⟨s,s1,s2,λh0=>⟨s3 h0,λw' own' hx=>⟨own',hx,?_⟩⟩,λw' own' g cap cs' hx hg hb h1 h2 h3 h4=>⟨own',hx,?_⟩⟩
        .subst h0
         obtain rfl:s=[]:=List.eq_nil_of_length_eq_zero s1;exact QC UC (Ro.v rfl)
        .rw[←s1]at h2 h4 ⊢
         exact QC (AkS hb (Nat.le_trans hs.base hg) (hx.side hs) h1 h2 h3 h4) (Ro.v rfl)
      .cases ho
     .cases ho
    .cases ho
   unfold Am1 at hrs;split at hrs
   .rename_i xs
    refine⟨rfl,λS w us hs hro=>?_⟩;obtain⟨u,t,rfl,hu,ht⟩:=RoL.cons_inv hro;obtain rfl:=RoL.nil_inv ht;obtain⟨A,c,rfl⟩:=Rp.ls_inv hu.rp;obtain rfl:=KT hrs;have:=key S w A c hs (by rw[Aqy]at hu;exact hu);rw[Aqy];exact this
   .injection hrs with hrs
    subst hrs;refine⟨rfl,λS w us hs hro=>?_⟩;obtain⟨u,t,rfl,hu,ht⟩:=RoL.cons_inv hro;obtain rfl:=RoL.nil_inv ht;unfold Ro at hu;simp only[Rep]at hu;obtain⟨rfl,_⟩:=hu;exact key S w Θ 0 hs UC
   .cases hrs
  .cases hr
 .cases hr
