/- The variables that count -/
import Derived.Test.YtpncilciembjdaaGreatDoorEAV
set_option linter.all false
open Bool renaming false->Φ,true->Δ,false_or->Aur
open Int renaming le_refl->AuH,lt_trichotomy->Auj
open List renaming append_assoc->Ar4,append_nil->AsX,drop->ArV,drop_eq_getElem_cons->ο,drop_eq_nil_of_le->Ar6,drop_of_length_le->Au6,drop_zero->ArT,ext_getElem?->Avp,filter_cons->At4,findIdx_cons->AtV,flatten_cons->As6,foldl_cons->Atm,getElem?_drop->AsT,getElem?_eq_getElem->φ,getElem?_set_ne->As8,getElem?_set_self->Ati,getElem?_take->Asn,getElem_mem->Ast,length_append->η,length_cons->ε,length_map->Ar2,length_set->Asd,length_singleton->Asi,length_take->Asb,map_cons->Ar7,map_nil->Atl,mem_cons->ArR,mem_cons_of_mem->γ,mem_cons_self->υ,mem_filter->Atn,mem_iff_getElem?->Au9,mem_map->Asj,mem_reverse->Auv,mem_singleton->Asq,nil_append->Asg,pairwise_cons->AsH,pairwise_map->AtX,pairwise_singleton->At7,reverse_cons->Aun,take->ArQ,take_append->AvA,take_append_drop->AsU,take_of_length_le->AsW
open Nat renaming add_mul->Asz,add_zero->AsI,ble->ArY,ble_eq_true_of_le->Aud,dvd_mul_left->AuX,dvd_sub->Avu,dvd_zero->AvV,le_of_dvd->Avf,le_refl->κ,min_eq_left->AsR,min_eq_right->AuZ,one_mul->Ata,strongRecOn->Ato,zero_add->Ar5,zero_le->AsB,zero_mul->Atu
open Option renaming none->Ξ,some->Θ
namespace Go.Proofs.YtpncilciembjdaaGreatDoor
noncomputable section
open ABlk renaming mk->δ
open AV renaming agg->ω,ls->Ψ,ptr->Asm,sl->χ,tup->ι
open BO renaming set->ArU
open IntKind renaming i64->θ
open Key renaming fn->ψ,lp->ArW
open Go.RowKit
def RX(v:Int):Bool->List Int->List Int × Bool
 |d,[]=>([],d)
 |d,x::r=>((if !d&&decide (v<=x) then [v] else [])++((if x=v then [] else [x])++(RX v (d||decide (v<=x)) r).1),(RX v (d||decide (v<=x)) r).2)
def OH(v:Int)(l:List Int):List Int:=(RX v Φ l).1++(if(RX v Φ l).2 then [] else [v])
theorem Lx(v:Int):∀ l:List Int,(∀ x∈l,v<x)->RX v Δ l=(l,Δ)
 |[],_=>rfl
 |x::r,h=>by
  have h1:=h x υ;rw[RX,Bool.true_or,Lx v r λy hy=>h y (γ _ hy),if_neg (show ¬ x=v by omega)];rfl
theorem Ua(v:Int):OH v []=[v]:=rfl
theorem XA{v x:Int}{r:List Int}(h:v<x)(hr:∀ y∈r,x<y):OH v (x::r)=v::x::r:=by
 unfold OH;rw[RX,decide_eq_true (by omega:v<=x),Aur,Lx v r λy hy=>by have:=hr y hy;omega,if_neg (show ¬ x=v by omega)];simp
theorem Xy{v:Int}{r:List Int}(hr:∀ y∈r,v<y):OH v (v::r)=v::r:=by
 unfold OH;rw[RX,decide_eq_true (AuH v),Aur,Lx v r hr,if_pos rfl];simp
theorem Xz{v x:Int}{r:List Int}(h:x<v):OH v (x::r)=x::OH v r:=by
 unfold OH;rw[RX,decide_eq_false (by omega:¬ v<=x),Aur,if_neg (show ¬ x=v by omega)];simp
def Asc(l:List Int):Prop:=l.Pairwise (· < ·)
theorem OJ(v:Int):∀{l:List Int},Asc l->∀ y,y∈OH v l ↔ y=v\/y∈l
 |[],_,y=>by rw[Ua];simp
 |x::r,h,y=>by
  have h1:=AsH.1 h;have ih:=OJ v h1.2 y;rcases Auj v x with hv|hv|hv
  .rw[XA hv h1.1];simp
  .subst hv
   rw[Xy h1.1];simp
  .rw[Xz hv,ArR,ih,ArR]
   exact or_left_comm
theorem OI(v:Int):∀{l:List Int},Asc l->Asc (OH v l)
 |[],_=>by rw[Ua];exact At7 _ _
 |x::r,h=>by
  have h1:=AsH.1 h;rcases Auj v x with hv|hv|hv
  .rw[XA hv h1.1]
   refine AsH.2 ⟨λy hy=>?_,h⟩;rcases ArR.1 hy with rfl|hy
   .exact hv
   .have:=h1.1 y hy;omega
  .subst hv
   rw[Xy h1.1];exact h
  .rw[Xz hv]
   refine AsH.2 ⟨λy hy=>?_,OI v h1.2⟩;rcases (OJ v h1.2 y).1 hy with rfl|hy
   .exact hv
   .exact h1.1 y hy
def PC(f:Int->Int):List Int->List Int->List Int
 |out,[]=>out
 |out,v::r=>PC f (if f v=0 then out else OH v out) r
theorem Rd(f:Int->Int):∀(l:List Int) {out:List Int},Asc out->Asc (PC f out l)
 |[],_,h=>h
 |v::r,out,h=>by
  rw[PC];refine Rd f r ?_;split
  .exact h
  .exact OI v h
theorem Md(f:Int->Int)(y:Int):∀(l:List Int) {out:List Int},Asc out->(y∈PC f out l ↔ y∈out\/(y∈l/\f y≠0))
 |[],out,_=>by rw[PC];simp
 |v::r,out,h=>by
  rw[PC]
  by_cases hv:f v=0
  .rw[if_pos hv,Md f y r h,ArR]
   constructor
   .rintro (h1|⟨h1,h2⟩)
    .exact .inl h1
    .exact .inr ⟨.inr h1,h2⟩
   .rintro (h1|⟨rfl|h1,h2⟩)
    .exact .inl h1
    .exact absurd hv h2
    .exact .inr ⟨h1,h2⟩
  .rw[if_neg hv,Md f y r (OI v h),OJ v h,ArR]
   constructor
   .rintro ((rfl|h1) | ⟨h1,h2⟩)
    .exact .inr ⟨.inl rfl,hv⟩
    .exact .inl h1
    .exact .inr ⟨.inr h1,h2⟩
   .rintro (h1|⟨rfl|h1,h2⟩)
    .exact .inl (.inr h1)
    .exact .inl (.inl rfl)
    .exact .inr ⟨h1,h2⟩
def J0(ps:List (Int × Int))(v:Int):Int:=if 0<=v then Bi v ps else 0
def Vb(ps:List (Int × Int)):List Int:=PC (J0 ps) [] (ps.map (·.1))
theorem W5:Asc []:=List.Pairwise.nil
theorem Qf(c:Int->Int)(v:Int):∀{l:List Int},Asc l->Bi v (l.map λu=>(u,c u))=if v∈l then c v else 0
 |[],_=>by simp[Bi]
 |x::r,h=>by
  have h1:=AsH.1 h;rw[Ar7,Bi,Qf c v h1.2]
  by_cases hx:x=v
  .subst hx
   rw[if_pos rfl,if_pos υ,if_neg (λhm=>by have:=h1.1 _ hm;omega)];exact Int.add_zero _
  .rw[if_neg hx,Int.zero_add]
   have e:(v∈x::r) ↔ v∈r:=by
    rw[ArR];exact⟨λh=>h.resolve_left λe=>hx e.symm,.inr⟩
   by_cases hm:v∈r
   .rw[if_pos hm,if_pos (e.2 hm)]
   .rw[if_neg hm,if_neg λh=>hm (e.1 h)]
theorem JF(ps:List (Int × Int)):(Vb ps).map (λv=>(v,J0 ps v))=AG ps:=by
 have ha:Asc (Vb ps):=Rd _ _ W5;have hm:∀ y,y∈Vb ps ↔ y∈ps.map (·.1)/\J0 ps y≠0:=λy=>by
  have:=Md (J0 ps) y (ps.map (·.1)) W5;unfold Vb;simpa using this
 refine O1 ⟨?_,?_,?_⟩ λv hv=>?_
 .rw[AtX]
  exact ha
 .intro p hp
  rw[Asj]at hp;obtain⟨v,hv,rfl⟩:=hp;have:=((hm v).1 hv).2;unfold J0 at this
  by_cases h0:0<=v
  .exact h0
  .rw[if_neg h0]at this
   exact absurd rfl this
 .intro p hp
  rw[Asj]at hp;obtain⟨v,hv,rfl⟩:=hp;exact((hm v).1 hv).2
 .rw[Qf _ _ ha]
  have hc:J0 ps v=Bi v ps:=if_pos hv
  by_cases hv2:v∈Vb ps
  .rw[if_pos hv2,hc]
  .rw[if_neg hv2]
   by_cases hz:Bi v ps=0
   .exact hz.symm
   .refine absurd ((hm v).2 ⟨?_,by rw[hc];exact hz⟩) hv2
    by_cases hmm:v∈ps.map (·.1)
    .exact hmm
    .refine absurd (Fe λp hp e=>hmm ?_) hz
     rw[←e];exact List.mem_map_of_mem hp
inductive Fm where
 |mk (kind:Int) (t:Tm) (eq:Bool) (kids:List Fm)
def Fm.kind:Fm->Int
 |.mk k _ _ _=>k
def Fm.tm:Fm->Tm
 |.mk _ t _ _=>t
def Fm.eq:Fm->Bool
 |.mk _ _ e _=>e
def Fm.kids:Fm->List Fm
 |.mk _ _ _ ks=>ks
def Tm0:Tm:=⟨[],⟨Φ,[]⟩⟩
def kF(k:Int)(ks:List Fm):Fm:=.mk k Tm0 Φ ks
def Amf(b:Bool):Fm:=kF (if b then 0 else 1) []
def AaY(l:Lf)(e:Bool):Fm:=.mk 2 l.tm e []
mutual
def Jk:Fm->Fm
 |.mk k t e ks=>if k=0 then Amf Δ else if k=2 then AaY t.lf.pln e else if k=3 then kF 3 (Xb ks) else if k=4\/k=5 then kF k (M5 ks) else Amf Φ
def Xb:List Fm->List Fm
 |[]=>[]
 |x::_=>[Jk x]
def M5:List Fm->List Fm
 |[]=>[]
 |x::r=>Jk x::M5 r
end
mutual
inductive CanF:Fm->Prop
 |tru (b:Bool):CanF (Amf b)
 |atom (l:Lf) (e:Bool) (h:l.pln=l):CanF (AaY l e)
 |no (x:Fm) (h:CanF x):CanF (kF 3 [x])
 |and (l:List Fm) (h:CanFs l):CanF (kF 4 l)
 |or (l:List Fm) (h:CanFs l):CanF (kF 5 l)
 |no0:CanF (kF 3 [])
inductive CanFs:List Fm->Prop
 |nil:CanFs []
 |cons {x:Fm} {r:List Fm} (h:CanF x) (hr:CanFs r):CanFs (x::r)
end
mutual
theorem CanF.clone:∀{x:Fm},CanF x->Jk x=x
 |_,.tru b=>by cases b<;>rfl
 |_,.atom l e h=>by
  unfold AaY;rw[Jk,if_neg (by decide),if_pos rfl,Cd,h];rfl
 |_,.no x h=>by
  unfold kF;rw[Jk,if_neg (by decide),if_neg (by decide),if_pos rfl,Xb,h.clone];rfl
 |_,.and l h=>by
  unfold kF;rw[Jk,if_neg (by decide),if_neg (by decide),if_neg (by decide),if_pos (.inl rfl),h.clone];rfl
 |_,.or l h=>by
  unfold kF;rw[Jk,if_neg (by decide),if_neg (by decide),if_neg (by decide),if_pos (.inr rfl),h.clone];rfl
 |_,.no0=>rfl
theorem CanFs.clone:∀{l:List Fm},CanFs l->M5 l=l
 |_,.nil=>rfl
 |_,.cons h hr=>by rw[M5,h.clone,hr.clone]
end

def C0:List (Int × Int)->Int × Int->List (Int × Int)
 |[],p=>if p.1<0 then [] else [p]
 |q::r,p=>if p.1<0 then q::r else if q.1=p.1 then(q.1,q.2+p.2)::r else p::q::r
theorem EC(p:Int × Int):C0 [] p=if p.1<0 then [] else [p]:=rfl
theorem DP(q:Int × Int)(r:List (Int × Int))(p:Int × Int):C0 (q::r) p=if p.1<0 then q::r else if q.1=p.1 then(q.1,q.2+p.2)::r else p::q::r:=rfl
structure GrpI (s t:List (Int × Int)):Prop where
 desc:s.Pairwise λa b=>b.1<a.1
 pos:∀ q∈s,0<=q.1
 up:∀ q∈s,∀ p∈t,0<=p.1->q.1<=p.1
theorem Ze(v:Int)(hv:0<=v):∀(s:List (Int × Int)) (p:Int × Int),Bi v (C0 s p)=Bi v s+(if p.1=v then p.2 else 0)
 |[],p=>by
  rw[EC];split
  .rw[if_neg (by omega)];simp[Bi]
  .simp[Bi]
 |q::r,p=>by
  rw[DP];split
  .rw[if_neg (by omega)];omega
  .split
   .rename_i h
    rw[Bi,Bi];simp only[h];split<;>omega
   .rw[Bi]
    omega
theorem AbV{s t:List (Int × Int)}{p:Int × Int}(h:GrpI s (p::t))(ht:∀ x∈t,p.1<=x.1):GrpI (C0 s p) t:=by
 have ut:∀ q∈s,∀ x∈t,0<=x.1->q.1<=x.1:=λq hq x hx=>h.up q hq x (γ _ hx)
 cases s with
 |nil=>
  rw[EC];split
  .exact⟨.nil,by simp,by simp⟩
  .exact⟨At7 _ _,by simp;omega,λq hq x hx _=>by rw[Asq.1 hq];exact ht x hx⟩
 |cons q r=>
  have hd:=AsH.1 h.desc;rw[DP];split
  .exact⟨h.desc,h.pos,ut⟩
  .rename_i hp
   split
   .refine⟨AsH.2 ⟨λx hx=>hd.1 x hx,hd.2⟩,λx hx=>?_,λx hx y hy hy0=>?_⟩
    .rcases ArR.1 hx with rfl|hx
     .exact h.pos q (υ ..)
     .exact h.pos x (γ _ hx)
    .rcases ArR.1 hx with rfl|hx
     .exact ut q (υ ..) y hy hy0
     .exact ut x (γ _ hx) y hy hy0
   .rename_i hne
    have hq:=h.up q (υ ..) p (υ ..) (by omega);refine⟨AsH.2 ⟨λx hx=>?_,h.desc⟩,λx hx=>?_,λx hx y hy hy0=>?_⟩
    .rcases ArR.1 hx with rfl|hx
     .omega
     .have:=hd.1 x hx;omega
    .rcases ArR.1 hx with rfl|hx
     .omega
     .exact h.pos x hx
    .rcases ArR.1 hx with rfl|hx
     .exact ht y hy
     .exact ut x hx y hy hy0
theorem Xx:∀(t s:List (Int × Int)),t.Pairwise (λa b=>a.1<=b.1)->GrpI s t->GrpI (t.foldl C0 s) []/\∀ v,0<=v->Bi v (t.foldl C0 s)=Bi v s+Bi v t
 |[],s,_,h=>⟨h,λv _=>by simp[Bi]⟩
 |p::t,s,ht,h=>by
  have hp:=AsH.1 ht;obtain⟨g1,g2⟩:=Xx t (C0 s p) hp.2 (AbV h hp.1);refine⟨g1,λv hv=>?_⟩;rw[Atm,g2 v hv,Ze v hv,Bi];omega
theorem Tr(v:Int):∀ l:List (Int × Int),Bi v (l.filter λp=>!decide (p.2=0))=Bi v l
 |[]=>rfl
 |p::r=>by
  have ih:=Tr v r
  by_cases h:p.2=0
  .rw[List.filter_cons_of_neg (by simp[h]),ih,Bi,h]
   simp
  .rw[List.filter_cons_of_pos (by simp[h]),Bi,Bi,ih]
theorem RQ{t l:List (Int × Int)}(ht:t.Pairwise λa b=>a.1<=b.1)(hp:t.Perm l):((t.foldl C0 []).reverse).filter (λp=>!decide (p.2=0))=AG l:=by
 obtain⟨g1,g2⟩:=Xx t [] ht ⟨.nil,by simp,by simp⟩;refine O1 ⟨?_,λp h=>?_,λp h=>?_⟩ λv hv=>?_
 .refine List.Pairwise.filter _ ?_
  rw[List.pairwise_reverse];exact g1.desc
 .have:=(Atn.1 h).1
  exact g1.pos p (Auv.1 this)
 .simpa using (Atn.1 h).2
 .rw[Tr,N1 (List.reverse_perm _),g2 v hv,N1 hp]
  simp[Bi]
theorem HE{k:Nat}{s:List (Int × Int)}{p:Int × Int}(hs:∀ q∈s,InB k q.2)(hp:InB k p.2):∀ q∈C0 s p,InB (k+1) q.2:=by
 cases s with
 |nil=>
  rw[EC];split
  .simp
  .intro q hq
   rw[Asq.1 hq];exact hp.mono (by omega)
 |cons q r=>
  rw[DP];have hq:=hs q (υ ..);have hr:∀ x∈r,InB (k+1) x.2:=λx hx=>(hs x (γ _ hx)).mono (by omega)
  split
  .intro x hx
   rcases ArR.1 hx with rfl|hx
   .exact hq.mono (by omega)
   .exact hr x hx
  .split
   .intro x hx
    rcases ArR.1 hx with rfl|hx
    .exact InB.add hq hp
    .exact hr x hx
   .intro x hx
    rcases ArR.1 hx with rfl|hx
    .exact hp.mono (by omega)
    .rcases ArR.1 hx with rfl|hx
     .exact hq.mono (by omega)
     .exact hr x hx
theorem HI(s:List (Int × Int))(p:Int × Int):(C0 s p).length<=s.length+1:=by
 cases s with
 |nil=>rw[EC];split<;>simp
 |cons q r=>
  rw[DP];split
  .simp
  .split<;>simp
theorem Srt.same{l r:List Pt}{a b p q:Nat}(h:Srt Pt.v l p q)(hs:Same0 l r a b)(hd:q<=a\/b<=p):Srt Pt.v r p q:=by
 intro x y h1 h2 h3;rw[hs.kf Pt.v (by omega),hs.kf Pt.v (by omega)];exact h x y h1 h2 h3
def Vh(q t:Nat)(l:List Pt):Prop:=∀ p,q ∣ p->p+q<=t->Srt Pt.v l p (p+q)
theorem Amv{a:Nat}(h:a<4611686018427387000):Ae.add .i64 (a:Int) 20=((a+20:Nat):Int):=by
 rw[EM (by omega) (by omega)];rfl
section
variable {D:Orc} (K:Knows At D9 D)
include K
theorem Al5:∀(m a:Nat) (l:List Pt),l.length-a=m->a<=l.length->l.length<=1000000000->20 ∣ a->Vh 20 a l->
  ∃(r:List Pt) (c:Nat),D.ask (.lp 196 0) [.sl 0 0 l.length 3,iv (l.length:Int),Fs,iv 20,iv (a:Int),iv ((a+20:Nat):Int)] [δ (Ag eP l) Δ Δ]
   = Θ (.tup [iv 0,.sl 0 0 l.length 3,iv (l.length:Int),Fs,iv 20,iv (c:Int)],[.set (δ (Ag eP r) Δ Δ)])
   ∧ r.length=l.length/\r.Perm l/\c<=l.length/\l.length<c+20/\20 ∣ c/\Vh 20 c r:=by
 intro m
 induction m using Ato with
 |_ m ih=>
  intro a l hm ha hl hd hb
  by_cases h:a+20<=l.length
  .obtain⟨r,g,hr,hp,ho,hsm⟩:=Aci K (a:=a) (b:=a+20) (l:=l) (by omega) h hl
   have hb2:Vh 20 (a+20) r:=λp h1 h2=>by
    by_cases hpa:p=a
    .subst hpa
     exact ho
    .exact(hb p h1 (by omega)).same hsm (.inl (by omega))
   obtain⟨r2,c,g2,hr2,hp2,h3,h4,h5,h6⟩:=ih (r.length-(a+20)) (by omega) (a+20) r rfl (by omega) (by omega) (by omega) hb2;rw[hr]at g2 h3 h4;refine⟨r2,c,?_,by omega,hp2.trans hp,h3,h4,h5,h6⟩;refine Ax K Hd (Abp ..) ?_;refine Cg ?_;refine Ab g ?_;simp only[Fs,ND,DK,Aa];rw[Amv (by omega)];refine Ab g2 ?_;rfl
  .refine⟨l,a,?_,rfl,List.Perm.refl _,ha,by omega,hd,hb⟩
   refine Ax K Hd (Abp ..) ?_;exact CA rfl
omit K in
def Nw(D:Orc):Prop:=∀(l:List Pt) (a m b:Nat),a<m->m<b->b<=l.length->l.length<=1000000000->Srt Pt.v l a m->Srt Pt.v l m b->
 ∃ r:List Pt,D.ask (.fn 235) [.sl 0 0 l.length 3,iv (a:Int),iv (m:Int),iv (b:Int),Fs] [δ (Ag eP l) Δ Δ]=Θ (.tup [],[.set (δ (Ag eP r) Δ Δ)])
  ∧ r.length=l.length/\r.Perm l/\Srt Pt.v r a b/\Same0 l r a b
def TlS(q a:Nat)(l:List Pt):Prop:=∀ j,Srt Pt.v l (a+j*q) (min (a+(j+1)*q) l.length)
theorem Al7(M:Nw D)(q:Nat)(hq:0<q)(hq2:q<=1000000000):∀(m a:Nat) (l:List Pt),l.length-a=m->a<=l.length->l.length<=1000000000->2*q ∣ a->Vh (2*q) a l->TlS q a l->
  ∃(r:List Pt) (c:Nat),D.ask (.lp 196 2) [.sl 0 0 l.length 3,iv (l.length:Int),Fs,iv (q:Int),iv (a:Int),iv ((a+2*q:Nat):Int)] [δ (Ag eP l) Δ Δ]
   = Θ (.tup [iv 4,.sl 0 0 l.length 3,iv (l.length:Int),Fs,iv (q:Int),iv (c:Int)],[.set (δ (Ag eP r) Δ Δ)])
   ∧ r.length=l.length/\r.Perm l/\c<=l.length/\l.length<c+2*q/\2*q ∣ c/\Vh (2*q) c r/\TlS q c r:=by
 intro m
 induction m using Ato with
 |_ m ih=>
  intro a l hm ha hl hd hb ht
  by_cases h:a+2*q<=l.length
  .have t0:=ht 0
   have t1:=ht 1;rw[Atu,AsI,Ar5,Ata,AsR (by omega)]at t0;rw[Ata,show (1+1)*q=2*q from rfl,AsR h]at t1;obtain⟨r,g,hr,hp,ho,hsm⟩:=M l a (a+q) (a+2*q) (by omega) (by omega) h hl t0 t1;have hb2:Vh (2*q) (a+2*q) r:=λp h1 h2=>by
    by_cases hpa:p=a
    .subst hpa
     exact ho
    .have:=Avf (by omega) (Avu hd h1)
     exact(hb p h1 (by omega)).same hsm (.inl (by omega))
   have ht2:TlS q (a+2*q) r:=λj=>by
    have:=ht (j+2);rw[show a+(j+2)*q=a+2*q+j*q by rw[Asz];omega,show a+(j+2+1)*q=a+2*q+(j+1)*q by rw[Asz,Asz,Asz];omega]at this;rw[hr];exact this.same hsm (.inr (by omega))
   obtain⟨r2,c,g2,hr2,hp2,h3,h4,h5,h6,h7⟩:=ih (r.length-(a+2*q)) (by omega) (a+2*q) r rfl (by omega) (by omega) (Nat.dvd_add hd (Nat.dvd_refl _)) hb2 ht2;rw[hr]at g2 h3 h4;refine⟨r2,c,?_,by omega,hp2.trans hp,h3,h4,h5,h6,h7⟩;refine Ax K Hd (Abq ..) ?_;refine Cg ?_;rw[show Ae.add .i64 (a:Int) (q:Int)=((a+q:Nat):Int) by rw[EM (by omega) (by omega)];omega,
    show Ae.mul .i64 2 (q:Int)=((2*q:Nat):Int) by
     show IntKind.i64.wrap (2*(q:Int))=_
     rw[IntKind.wrap_i64];omega,
    show Ae.add .i64 ((a+2*q:Nat):Int) ((2*q:Nat):Int)=((a+2*q+2*q:Nat):Int) by rw[EM (by omega) (by omega)];omega]
   refine Ab g ?_;simp only[Fs,ND,DK,Aa];refine Ab g2 ?_;rfl
  .refine⟨l,a,?_,rfl,List.Perm.refl _,ha,by omega,hd,hb,ht⟩
   refine Ax K Hd (Abq ..) ?_;exact CA rfl
omit K in
theorem WV{q c:Nat}{r:List Pt}(hq:0<q)(hd:q ∣ c)(hn:r.length<c+q)(hb:Vh q c r)(hs:Srt Pt.v r c r.length):TlS q 0 r:=λj=>by
 rw[Ar5,Ar5];have e:(j+1)*q=j*q+q:=by rw[Asz];omega
 by_cases h1:j*q+q<=c
 .have:=hb (j*q) (AuX q j) h1
  intro x y hx hxy hy;exact this x y hx hxy (by omega)
 .by_cases h2:j*q=c
  .intro x y hx hxy hy
   exact hs x y (by omega) hxy (by omega)
  .intro x y hx hxy hy
   exfalso
   by_cases h3:j*q<c
   .have:=Avf (by omega) (Avu hd (AuX q j))
    omega
   .have:=Avf (by omega) (Avu (AuX q j) hd)
    omega
theorem Al6(M:Nw D):∀(m q:Nat) (l:List Pt),l.length-q=m->0<q->q<=2000000000->l.length<=1000000000->TlS q 0 l->
  ∃ r:List Pt,D.ask (.lp 196 1) [.sl 0 0 l.length 3,iv (l.length:Int),Fs,iv (q:Int)] [δ (Ag eP l) Δ Δ]
   = Θ (.tup [iv 2,.sl 0 0 l.length 3],[.set (δ (Ag eP r) Δ Δ)])
   ∧ r.length=l.length/\r.Perm l/\Srt Pt.v r 0 r.length:=by
 intro m
 induction m using Ato with
 |_ m ih=>
  intro q l hm hq hq2 hl ht
  by_cases h:q<l.length
  .obtain⟨r,c,g,hr,hp,hc,hn,hd,hb,ht2⟩:=Al7 K M q hq (by omega) _ 0 l rfl (by omega) hl (AvV _) (λp _ h2=>by omega) ht
   have t0:=ht2 0;have t1:=ht2 1;rw[Atu,AsI,Ar5,Ata]at t0;rw[Ata,show (1+1)*q=2*q from rfl,AuZ (by omega)]at t1;rw[Ar5]at g;have emul:Ae.mul .i64 2 (q:Int)=((2*q:Nat):Int):=by
    show IntKind.i64.wrap (2*(q:Int))=_
    rw[IntKind.wrap_i64];omega
   have emul2:Ae.mul .i64 (q:Int) 2=((2*q:Nat):Int):=by
    show IntKind.i64.wrap ((q:Int)*2)=_
    rw[IntKind.wrap_i64];omega
   have eadd:Ae.add .i64 (c:Int) (q:Int)=((c+q:Nat):Int):=by rw[EM (by omega) (by omega)];omega
   by_cases h2:c+q<l.length
   .rw[AsR (by omega)]at t0
    obtain⟨r3,g3,hr3,hp3,ho3,hsm⟩:=M r c (c+q) r.length (by omega) (by omega) (κ _) (by omega) t0 t1;have ht3:TlS (2*q) 0 r3:=WV (by omega) hd (by omega) (λp h1 h2=>(hb p h1 h2).same hsm (.inl (by omega))) (by rw[hr3];exact ho3);obtain⟨r4,g4,hr4,hp4,ho4⟩:=ih (r3.length-2*q) (by omega) (2*q) r3 rfl (by omega) (by omega) (by omega) ht3;rw[hr]at g3 hr3;rw[hr3]at g4 hr4;refine⟨r4,?_,hr4,hp4.trans (hp3.trans hp),ho4⟩;refine Ax K Hd (VF ..) ?_;refine Ap ?_;rw[emul];refine Ab g ?_;simp only[Fs,ND,DK,Aa];refine Ac ?_;rw[eadd,emul2];refine Ap ?_;refine Ab g3 ?_;simp only[Fs,ND,DK,Aa];refine Ab g4 ?_;rfl
   .rw[AuZ (by omega)]at t0
    have ht3:TlS (2*q) 0 r:=WV (by omega) hd (by omega) hb t0;obtain⟨r4,g4,hr4,hp4,ho4⟩:=ih (r.length-2*q) (by omega) (2*q) r rfl (by omega) (by omega) (by omega) ht3;rw[hr]at g4 hr4;refine⟨r4,?_,hr4,hp4.trans hp,ho4⟩;refine Ax K Hd (VF ..) ?_;refine Ap ?_;rw[emul];refine Ab g ?_;simp only[Fs,ND,DK,Aa];refine Ac ?_;rw[eadd,emul2];refine Ak ?_;refine Ab g4 ?_;rfl
  .refine⟨l,?_,rfl,List.Perm.refl _,?_⟩
   .refine Ax K Hd (VF ..) ?_
    exact Ak rfl
   .have t0:=ht 0
    rw[Atu,Ar5,Ar5,Ata,AuZ (by omega)]at t0;exact t0
theorem Aae(M:Nw D){l:List Pt}(hl:l.length<=1000000000) :
  ∃ r:List Pt,D.ask (.fn 196) [.sl 0 0 l.length 3,iv (l.length:Int),Fs] [δ (Ag eP l) Δ Δ]=Θ (.tup [],[.set (δ (Ag eP r) Δ Δ)])
   ∧ r.length=l.length/\r.Perm l/\Srt Pt.v r 0 r.length:=by
 obtain⟨r,c,g,hr,hp,hc,hn,hd,hb⟩:=Al5 K _ 0 l rfl (by omega) hl (AvV _) (λp _ h2=>by omega);obtain⟨r2,g2,hr2,hp2,ho2,hsm⟩:=Aci K (a:=c) (b:=r.length) (l:=r) (by omega) (κ _) (by omega);have ht:TlS 20 0 r2:=WV (by omega) hd (by omega) (λp h1 h2=>(hb p h1 h2).same hsm (.inl (by omega))) (by rw[hr2];exact ho2);obtain⟨r3,g3,hr3,hp3,ho3⟩:=Al6 K M _ 20 r2 rfl (by omega) (by omega) (by omega) ht;rw[hr]at g2 hr2;rw[hr2]at g3 hr3;refine⟨r3,?_,hr3,hp3.trans (hp2.trans hp),ho3⟩;refine AC K Hd (ApV ..) ?_;refine Ab g ?_;simp only[Fs,ND,DK,Aa];refine Ab g2 ?_;simp only[Fs,ND,DK,Aa];refine Ab g3 ?_;rfl
theorem AhQ(M:Nw D){l:List Pt}(hl:l.length<=1000000000) :
  ∃ r:List Pt,D.ask (.fn 136) [.sl 0 0 l.length 3,Fs] [δ (Ag eP l) Δ Δ]=Θ (.tup [],[.set (δ (Ag eP r) Δ Δ)])
   ∧ r.length=l.length/\r.Perm l/\Srt Pt.v r 0 r.length:=by
 obtain⟨r,g,h⟩:=Aae K M hl;refine⟨r,?_,h⟩;refine AC K AiR (Apt ..) ?_;refine Ab g ?_;rfl
end
section
variable {α:Type} (key:α->Int)
structure Rot (l r:List α) (a m b:Nat):Prop where
 out:∀ p,p<a\/b<=p->r[p]? = l[p]?
 low:∀ p,a<=p->p<a+(b-m)->r[p]? = l[p+(m-a)]?
 high:∀ p,a+(b-m)<=p->p<b->r[p]? = l[p-(b-m)]?
structure SwR (l r:List α) (a b n:Nat):Prop where
 out:∀ p,p<a\/(a+n<=p/\p<b)\/b+n<=p->r[p]? = l[p]?
 low:∀ p,a<=p->p<a+n->r[p]? = l[p+(b-a)]?
 high:∀ p,b<=p->p<b+n->r[p]? = l[p-(b-a)]?
theorem Cw{l:List α}{i j:Nat}(h:i=j):l[i]? = l[j]?:=by rw[h]
theorem Adx{c d r:List α}{i j m:Nat}(h0:i<=m)(h:j<i)(s:SwR c d (m-i) m j)(t:Rot d r (m-(i-j)) m (m+j)):Rot c r (m-i) m (m+j):=by
 refine⟨λp hp=>?_,λp h1 h2=>?_,λp h1 h2=>?_⟩
 .rw[t.out p (by omega),s.out p (by omega)]
 .rw[t.out p (by omega),s.low p (by omega) (by omega)]
 .by_cases h3:p<m-(i-j)+j
  .rw[t.low p (by omega) (by omega),s.high _ (by omega) (by omega)]
   exact Cw (by omega)
  .rw[t.high p (by omega) (by omega),s.out _ (by omega)]
theorem ZQ{c d r:List α}{i j m:Nat}(h0:i<=m)(h:i<j)(s:SwR c d (m-i) (m+j-i) i)(t:Rot d r (m-i) m (m+(j-i))):Rot c r (m-i) m (m+j):=by
 refine⟨λp hp=>?_,λp h1 h2=>?_,λp h1 h2=>?_⟩
 .rw[t.out p (by omega),s.out p (by omega)]
 .by_cases h3:p<m-i+(j-i)
  .rw[t.low p (by omega) (by omega),s.out _ (by omega)]
  .rw[t.high p (by omega) (by omega),s.low _ (by omega) (by omega)]
   exact Cw (by omega)
 .rw[t.out p (by omega),s.high p (by omega) (by omega)]
  exact Cw (by omega)
theorem Adz{c r:List α}{i m:Nat}(h0:i<=m)(s:SwR c r (m-i) m i):Rot c r (m-i) m (m+i):=by
 refine⟨λp hp=>?_,λp h1 h2=>?_,λp h1 h2=>?_⟩
 .rw[s.out p (by omega)]
 .rw[s.low p (by omega) (by omega)]
 .rw[s.high p (by omega) (by omega)]
  exact Cw (by omega)
theorem Gw{l:List α}{a m b:Nat}(h:a=m\/m=b)(ha:a<=m)(hb:m<=b):Rot l l a m b:=by
 refine⟨λp hp=>rfl,λp h1 h2=>Cw (by omega),λp h1 h2=>Cw (by omega)⟩
theorem AdW{l r:List α}{a b n:Nat}(hab:a+n<b)(hb:b+n<l.length)(s:SwR l r a b n)(hr:r.length=l.length):SwR l (CT r (a+n) (b+n)) a b (n+1):=by
 have ha:a+n<r.length:=by omega
 have hb2:b+n<r.length:=by omega
 have e1:∀ p,(CT r (a+n) (b+n))[p]? = if p=a+n then r[b+n]? else if p=b+n then r[a+n]? else r[p]?:=λp=>by
  rw[DD ha hb2]
  by_cases h1:p=b+n
  .subst h1
   rw[if_neg (by omega),if_pos rfl,Ati (by simpa using hb2),φ ha]
  .rw[As8 (λe=>h1 e.symm)]
   by_cases h2:p=a+n
   .subst h2
    rw[if_pos rfl,Ati ha,φ hb2]
   .rw[if_neg h2,if_neg h1,As8 (λe=>h2 e.symm)]
 refine⟨λp hp=>?_,λp h1 h2=>?_,λp h1 h2=>?_⟩
 .rw[e1,if_neg (by omega),if_neg (by omega),s.out p (by omega)]
 .rw[e1]
  by_cases h:p=a+n
  .rw[if_pos h,s.out _ (by omega)]
   exact Cw (by omega)
  .rw[if_neg h,if_neg (by omega),s.low p h1 (by omega)]
 .rw[e1]
  by_cases h:p=b+n
  .rw[if_neg (by omega),if_pos h,s.out _ (by omega)]
   exact Cw (by omega)
  .rw[if_neg (by omega),if_neg h,s.high p h1 (by omega)]
theorem AdX(l:List α)(a b:Nat):SwR l l a b 0:=⟨λ_ _=>rfl,λ_ h1 h2=>by omega,λ_ h1 h2=>by omega⟩
theorem HW{l r:List α}{p q:Nat}(h:r[p]? = l[q]?):kf key r p=kf key l q:=by
 unfold kf;rw[h]
theorem Rot.kout{l r:List α}{a m b p:Nat}(h:Rot l r a m b)(hp:p<a\/b<=p):kf key r p=kf key l p:=HW key (h.out p hp)
theorem Rot.klow{l r:List α}{a m b p:Nat}(h:Rot l r a m b)(h1:a<=p)(h2:p<a+(b-m)):kf key r p=kf key l (p+(m-a)):=HW key (h.low p h1 h2)
theorem Rot.khigh{l r:List α}{a m b p:Nat}(h:Rot l r a m b)(h1:a+(b-m)<=p)(h2:p<b):kf key r p=kf key l (p-(b-m)):=HW key (h.high p h1 h2)
theorem Ul{l r:List α}{a b i:Nat}(hi:a+1<=i)(hib:i<=b)(hs:Srt key l (a+1) b)(h1:∀ p,a+1<=p->p<i->kf key l p<kf key l a)(h2:∀ p,i<=p->p<b->kf key l a<=kf key l p)(t:Rot l r a (a+1) i):Srt key r a b:=by
 intro p q hp hpq hq
 by_cases q1:q<i-1
 .rw[t.klow key (by omega) (by omega),t.klow key (by omega) (by omega)]
  exact hs _ _ (by omega) (by omega) (by omega)
 .by_cases q2:q=i-1
  .rw[t.klow key (by omega) (by omega),t.khigh key (by omega) (by omega),show q-(i-(a+1))=a by omega]
   have:=h1 (p+(a+1-a)) (by omega) (by omega);omega
  .rw[t.kout key (p:=q) (by omega)]
   by_cases p1:p<i-1
   .rw[t.klow key (by omega) (by omega)]
    exact hs _ _ (by omega) (by omega) (by omega)
   .by_cases p2:p=i-1
    .rw[t.khigh key (by omega) (by omega),show p-(i-(a+1))=a by omega]
     exact h2 q (by omega) hq
    .rw[t.kout key (by omega)]
     exact hs _ _ (by omega) (by omega) (by omega)
theorem Wj{l r:List α}{a m i:Nat}(hi:a<=i)(him:i<=m)(hs:Srt key l a m)(h1:∀ p,a<=p->p<i->kf key l p<=kf key l m)(h2:∀ p,i<=p->p<m->kf key l m<kf key l p)(t:Rot l r i m (m+1)):Srt key r a (m+1):=by
 intro p q hp hpq hq
 by_cases p1:p<i
 .rw[t.kout key (p:=p) (by omega)]
  by_cases q1:q<i
  .rw[t.kout key (by omega)]
   exact hs _ _ (by omega) (by omega) (by omega)
  .by_cases q2:q=i
   .rw[t.klow key (by omega) (by omega),show q+(m-i)=m by omega]
    exact h1 p hp p1
   .rw[t.khigh key (by omega) (by omega)]
    exact hs _ _ (by omega) (by omega) (by omega)
 .rw[t.khigh key (p:=q) (by omega) (by omega)]
  by_cases p2:p=i
  .rw[t.klow key (by omega) (by omega),show p+(m-i)=m by omega]
   have:=h2 (q-(m+1-m)) (by omega) (by omega);omega
  .rw[t.khigh key (by omega) (by omega)]
   exact hs _ _ (by omega) (by omega) (by omega)
def Low(l:List α)(a m b:Nat):Prop:=∀ p q,a<=p->p<m->m<=q->q<b->kf key l p<=kf key l q
theorem AhR{l:List α}{a m b:Nat}(h1:Srt key l a m)(h2:Srt key l m b)(h3:Low key l a m b):Srt key l a b:=by
 intro p q hp hpq hq
 by_cases c:q<m
 .exact h1 p q hp hpq c
 .by_cases d:p<m
  .exact h3 p q hp d (by omega) hq
  .exact h2 p q (by omega) hpq hq
structure CutAt (l:List α) (a m b mid s e:Nat):Prop where
 asl:a<=s
 sm:s<=m
 me:m<=e
 eb:e<=b
 mid:s+(e-m)=mid
 up:∀ p q,a<=p->p<s->e<=q->q<b->kf key l p<=kf key l q
 dn:∀ p q,m<=p->p<e->s<=q->q<m->kf key l p<=kf key l q
theorem E9{l r:List α}{a m b mid s e:Nat}(c:CutAt key l a m b mid s e)(h1:Srt key l a m)(h2:Srt key l m b)(t:Rot l r s m e) :
  Srt key r a s/\Srt key r s mid/\Srt key r mid e/\Srt key r e b/\Low key r a mid b:=by
 have:=c.asl;have:=c.sm;have:=c.me;have:=c.eb;have:=c.mid;refine⟨λp q x y z=>?_,λp q x y z=>?_,λp q x y z=>?_,λp q x y z=>?_,λp q x y z w=>?_⟩
 .rw[t.kout key (by omega),t.kout key (by omega)]
  exact h1 _ _ (by omega) (by omega) (by omega)
 .rw[t.klow key (by omega) (by omega),t.klow key (by omega) (by omega)]
  exact h2 _ _ (by omega) (by omega) (by omega)
 .rw[t.khigh key (by omega) (by omega),t.khigh key (by omega) (by omega)]
  exact h1 _ _ (by omega) (by omega) (by omega)
 .rw[t.kout key (by omega),t.kout key (by omega)]
  exact h2 _ _ (by omega) (by omega) (by omega)
 .by_cases p1:p<s
  .rw[t.kout key (p:=p) (by omega)]
   by_cases q1:q<e
   .rw[t.khigh key (by omega) (by omega)]
    exact h1 _ _ (by omega) (by omega) (by omega)
   .rw[t.kout key (by omega)]
    exact c.up _ _ (by omega) (by omega) (by omega) (by omega)
  .rw[t.klow key (p:=p) (by omega) (by omega)]
   by_cases q1:q<e
   .rw[t.khigh key (by omega) (by omega)]
    exact c.dn _ _ (by omega) (by omega) (by omega) (by omega)
   .rw[t.kout key (by omega)]
    exact h2 _ _ (by omega) (by omega) (by omega)
theorem X1{l r:List α}{a b:Nat}(hp:r.Perm l)(hs:Same0 l r a b){p:Nat}(h1:a<=p)(h2:p<b)(hb:b<=l.length):∃ q,a<=q/\q<b/\r[p]? = l[q]?:=by
 have hlen:=hp.length_eq;have ht:r.take a=l.take a:=by
  apply Avp;intro i;rw[Asn,Asn];split
  .exact hs i (by omega)
  .rfl
 have hd:r.drop b=l.drop b:=by
  apply Avp;intro i;rw[AsT,AsT];exact hs _ (by omega)
 have er:∀ x:List α,b<=x.length->x=x.take a++((x.drop a).take (b-a)++x.drop b):=λx hx=>by
  have e1:=(AsU a x).symm;have e2:=(AsU (b-a) (x.drop a)).symm;rw[List.drop_drop,show a+(b-a)=b by omega]at e2;rw[←e2];exact e1
 have hp2:(r.take a++((r.drop a).take (b-a)++r.drop b)).Perm (l.take a++((l.drop a).take (b-a)++l.drop b)):=by
  rw[←er r (by omega),←er l hb];exact hp
 rw[ht,hd]at hp2;have hp3:=(List.perm_append_right_iff _).1 ((List.perm_append_left_iff _).1 hp2);have hpr:p<r.length:=by omega
 have hm:r[p]∈(r.drop a).take (b-a):=by
  rw[Au9];refine⟨p-a,?_⟩;rw[Asn,if_pos (by omega),AsT,show a+(p-a)=p by omega,φ hpr]
 have hm2:=hp3.mem_iff.1 hm;rw[Au9]at hm2;obtain⟨i,hi⟩:=hm2;rw[Asn]at hi;split at hi
 .rename_i hib
  rw[AsT]at hi;exact⟨a+i,by omega,by omega,by rw[hi,φ hpr]⟩
 .cases hi
theorem AcH{l r:List α}{a m b:Nat}(h:Low key l a m b)(hp:r.Perm l)(hs:Same0 l r a m)(hb:m<=l.length):Low key r a m b:=by
 intro p q x y z w;obtain⟨p2,h1,h2,h3⟩:=X1 hp hs x y hb;rw[HW key h3,hs.kf key (by omega)];exact h p2 q h1 h2 z w
theorem Zr{l r:List α}{a m b:Nat}(h:Low key l a m b)(hp:r.Perm l)(hs:Same0 l r m b)(hb:b<=l.length):Low key r a m b:=by
 intro p q x y z w;obtain⟨q2,h1,h2,h3⟩:=X1 hp hs z w hb;rw[HW key h3,hs.kf key (by omega)];exact h p q2 x y h1 h2
theorem Srt.same'{l r:List α}{a b p q:Nat}(h:Srt key l p q)(hs:Same0 l r a b)(hd:q<=a\/b<=p):Srt key r p q:=by
 intro x y h1 h2 h3;rw[hs.kf key (by omega),hs.kf key (by omega)];exact h x y h1 h2 h3
theorem KU{l:List α}{a s m:Nat}(h:s=a\/s=m)(h1:Srt key l a s)(h2:Srt key l s m):Srt key l a m:=by
 rcases h with rfl|rfl
 .exact h2
 .exact h1
structure Bs (l:List α) (n x y s r:Nat):Prop where
 xs:x<=s
 sr:s<=r
 ry:r<=y
 lo:∀ c,x<=c->c<s->kf key l c<=kf key l (n-1-c)
 hi:∀ c,r<=c->c<y->kf key l (n-1-c)<kf key l c
section
variable {l:List α} {n x y s r a m b:Nat}
theorem Bs.up(B:Bs key l n x y s r)(h1:Srt key l a m)(h2:Srt key l m b)(hx:a<=x)(hy:y<=m)(hn:n<=x+b)(hm:m+y<=n){c:Nat}(hc:s<=c)(hr:c<r)(h:kf key l c<=kf key l (n-1-c)):Bs key l n x y (c+1) r:=by
 have:=B.xs;have:=B.sr;have:=B.ry;refine⟨by omega,by omega,B.ry,λd hd1 hd2=>?_,B.hi⟩
 by_cases hdc:d=c
 .rw[hdc];exact h
 .have e1:=h1 d c (by omega) (by omega) (by omega)
  have e2:=h2 (n-1-c) (n-1-d) (by omega) (by omega) (by omega);omega
theorem Bs.dn(B:Bs key l n x y s r)(h1:Srt key l a m)(h2:Srt key l m b)(hx:a<=x)(hy:y<=m)(hn:n<=x+b)(hm:m+y<=n){c:Nat}(hc:s<=c)(hr:c<r)(h:kf key l (n-1-c)<kf key l c):Bs key l n x y s c:=by
 have:=B.xs;have:=B.sr;have:=B.ry;refine⟨B.xs,hc,by omega,B.lo,λd hd1 hd2=>?_⟩
 by_cases hdc:d=c
 .rw[hdc];exact h
 .have e1:=h1 c d (by omega) (by omega) (by omega)
  have e2:=h2 (n-1-d) (n-1-c) (by omega) (by omega) (by omega);omega
theorem Bs.cut{mid:Nat}(B:Bs key l (mid+m) x y s s)(h1:Srt key l a m)(h2:Srt key l m b)(hx:a<=x)(hy:y<=m)(hn:mid+m<=x+b)(hm:y<=mid)(cx:x=a\/mid+m=x+b)(cy:y=m\/y=mid):CutAt key l a m b mid s (mid+m-s):=by
 have:=B.xs;have:=B.ry;refine⟨by omega,by omega,by omega,by omega,by omega,λp q c1 c2 c3 c4=>?_,λp q c1 c2 c3 c4=>?_⟩
 .have hs:x<s:=by omega
  have e:=B.lo (s-1) (by omega) (by omega);rw[show mid+m-1-(s-1)=mid+m-s by omega]at e;have e1:kf key l p<=kf key l (s-1):=by
   by_cases h:p=s-1
   .rw[h];exact AuH _
   .exact h1 _ _ (by omega) (by omega) (by omega)
  have e2:kf key l (mid+m-s)<=kf key l q:=by
   by_cases h:q=mid+m-s
   .rw[h];exact AuH _
   .exact h2 _ _ (by omega) (by omega) (by omega)
  omega
 .have hs:s<y:=by omega
  have e:=B.hi s (by omega) (by omega);have e1:kf key l p<=kf key l (mid+m-1-s):=by
   by_cases h:p=mid+m-1-s
   .rw[h];exact AuH _
   .exact h2 _ _ (by omega) (by omega) (by omega)
  have e2:kf key l s<=kf key l q:=by
   by_cases h:q=s
   .rw[h];exact AuH _
   .exact h1 _ _ (by omega) (by omega) (by omega)
  omega
end
theorem Al0{l r:List α}{a k:Nat}(h:a<=k)(hk:k+1<l.length)(hr:r.length=l.length)(t:Rot l r a (a+1) (k+1)):Rot l (CT r k (k+1)) a (a+1) (k+2):=by
 have e1:∀ p,(CT r k (k+1))[p]? = if p=k then r[k+1]? else if p=k+1 then r[k]? else r[p]?:=λp=>by
  rw[DD (by omega) (by omega)]
  by_cases h1:p=k+1
  .subst h1
   rw[if_neg (by omega),if_pos rfl,Ati (by rw[Asd];omega),φ (by omega)]
  .rw[As8 (λe=>h1 e.symm)]
   by_cases h2:p=k
   .subst h2
    rw[if_pos rfl,Ati (by omega),φ (by omega)]
   .rw[if_neg h2,if_neg h1,As8 (λe=>h2 e.symm)]
 refine⟨λp hp=>?_,λp h1 h2=>?_,λp h1 h2=>?_⟩
 .rw[e1,if_neg (by omega),if_neg (by omega),t.out p (by omega)]
 .rw[e1]
  by_cases h:p=k
  .rw[if_pos h,t.out _ (by omega)]
   exact Cw (by omega)
  .rw[if_neg h,if_neg (by omega),t.low p h1 (by omega)]
 .rw[e1,if_neg (by omega),if_pos (by omega),t.high k (by omega) (by omega)]
  exact Cw (by omega)
theorem Adw{l r:List α}{m k:Nat}(h:k<m)(hk:m<l.length)(hr:r.length=l.length)(t:Rot l r (k+1) m (m+1)):Rot l (CT r (k+1) k) k m (m+1):=by
 have e1:∀ p,(CT r (k+1) k)[p]? = if p=k then r[k+1]? else if p=k+1 then r[k]? else r[p]?:=λp=>by
  rw[DD (by omega) (by omega)]
  by_cases h1:p=k
  .subst h1
   rw[if_pos rfl,Ati (by rw[Asd];omega),φ (by omega)]
  .rw[if_neg h1,As8 (λe=>h1 e.symm)]
   by_cases h2:p=k+1
   .subst h2
    rw[if_pos rfl,Ati (by omega),φ (by omega)]
   .rw[if_neg h2,As8 (λe=>h2 e.symm)]
 refine⟨λp hp=>?_,λp h1 h2=>?_,λp h1 h2=>?_⟩
 .rw[e1,if_neg (by omega),if_neg (by omega),t.out p (by omega)]
 .rw[e1,if_pos (by omega),t.low (k+1) (by omega) (by omega)]
  exact Cw (by omega)
 .rw[e1,if_neg (by omega)]
  by_cases h:p=k+1
  .rw[if_pos h,t.out _ (by omega)]
   exact Cw (by omega)
  .rw[if_neg h,t.high p (by omega) (by omega)]
end
theorem DG{a b:Nat}(h:a+b<4611686018427387904):Ae.conv .i64 (Ae.shr .u64 (Ae.conv .u64 (Ae.add .i64 (a:Int) (b:Int))) 1)=(((a+b) / 2:Nat):Int):=by
 rw[EM (by omega) (by omega),show (a:Int)+(b:Int)=((a+b:Nat):Int) by omega,Bg (by omega)];have:Ae.shr .u64 ((a+b:Nat):Int) 1=(((a+b) / 2:Nat):Int):=by
  show Int.fdiv ((a+b:Nat):Int) (2 ^ 1)=_
  have:(2 ^ 1:Int)=((2:Nat):Int):=by decide
  rw[this,Int.fdiv_eq_ediv_of_nonneg _ (by omega)];rfl
 rw[this]
 show IntKind.i64.wrap (((a+b) / 2:Nat):Int)=_
 rw[IntKind.wrap_i64];omega
theorem JR{a b:Nat}(h:a+b<4611686018427387904):Ae.add .i64 (a:Int) (b:Int)=((a+b:Nat):Int):=by
 rw[EM (by omega) (by omega)];omega
theorem Cv{a b:Nat}(hb:b<=a)(h:a<4611686018427387904):Ae.sub .i64 (a:Int) (b:Int)=((a-b:Nat):Int):=by
 rw[DB (by omega) (by omega)];omega
theorem Im{a:Nat}(hb:1<=a)(h:a<4611686018427387904):Ae.sub .i64 (a:Int) 1=((a-1:Nat):Int):=by
 rw[DB (by omega) (by omega)];omega
abbrev Ft(l:List Pt):ABlk:=δ (Ag eP l) Δ Δ
section
variable {D:Orc} (K:Knows At D9 D)
include K
theorem Al8(a b n:Nat)(l0:List Pt):∀(m i:Nat) (l:List Pt),n-i=m->i<=n->a+n<=b->b+n<=l.length->l.length<=1000000000->l.length=l0.length->SwR l0 l a b i->
  ∃ r:List Pt,D.ask (.lp 275 0) [.sl 0 0 l.length 3,iv (a:Int),iv (b:Int),iv (n:Int),iv (i:Int)] [Ft l]=Θ (.tup [iv 0,.sl 0 0 l.length 3],[.set (Ft r)])
   ∧ r.length=l.length/\r.Perm l/\SwR l0 r a b n:=by
 intro m
 induction m with
 |zero=>
  intro i l hm hi ha hb hl h0 hs;obtain rfl:i=n:=by omega
  refine⟨l,?_,rfl,List.Perm.refl _,hs⟩;refine Ax K TZ (AbE ..) ?_;exact Ak rfl
 |succ m ih=>
  intro i l hm hi ha hb hl h0 hs;have hI:a+i<l.length:=by omega
  have hJ:b+i<l.length:=by omega
  have hlen:=Gz l (a+i) (b+i);obtain⟨r,g,hr,hp,ho⟩:=ih (i+1) (CT l (a+i) (b+i)) (by omega) (by omega) ha (by omega) (by omega) (by omega) (AdW (by omega) (by omega) hs h0);rw[hlen]at g hr;refine⟨r,?_,hr,hp.trans (Ew _ _ _),ho⟩;refine Ax K TZ (AbE ..) ?_;refine Ap ?_;rw[JR (a:=b) (b:=i) (by omega),JR (a:=a) (b:=i) (by omega),BV (by omega)];rw[Au,AN hJ];refine Ac ?_;refine(Bm Ay l (b+i) hJ _).trans ?_;simp only[eP,eN,ND,DK,Aa];rw[Au,AN hI];refine Ac ?_;refine(Bm Ay l (a+i) hI _).trans ?_;simp only[eP,eN,ND,DK,Aa];have s1:=Cq Ay l (a+i) hI l[(b+i)];have s2:=Cq Ay (l.set (a+i) l[(b+i)]) (b+i) (by rw[Asd];exact hJ) l[(a+i)];rw[←DD hI hJ]at s2;simp only[eP,eN]at s1 s2;rw[Au,AN hI];refine Ac ?_;rw[show ArY (0+(a+i)*3+3) (Ag eP l).length=Δ by rw[AR Ay];simp;omega];refine Ac ?_;rw[Au,AN hJ];refine Ac ?_;rw[s1,s2];rw[show ArY (0+(b+i)*3+3) (Ag eP (l.set (a+i) l[(b+i)])).length=Δ by rw[AR Ay,Asd];simp;omega];refine Ac ?_;refine Ab g ?_;rfl
theorem WQ{a b n:Nat}{l:List Pt}(ha:a+n<=b)(hb:b+n<=l.length)(hl:l.length<=1000000000) :
  ∃ r:List Pt,D.ask (.fn 275) [.sl 0 0 l.length 3,iv (a:Int),iv (b:Int),iv (n:Int),Fs] [Ft l]=Θ (.tup [],[.set (Ft r)])
   ∧ r.length=l.length/\r.Perm l/\SwR l r a b n:=by
 obtain⟨r,g,h⟩:=Al8 K a b n l _ 0 l rfl (by omega) ha hb hl rfl (AdX l a b);refine⟨r,?_,h⟩;refine AC K TZ (Aqb ..) ?_;refine Ab g ?_;rfl
theorem AlZ(m:Nat):∀(s i j:Nat) (l:List Pt),i+j=s->0<i->0<j->i<=m->m+j<=l.length->l.length<=1000000000->
  ∃(r:List Pt) (d:Nat),D.ask (.lp 265 0) [.sl 0 0 l.length 3,iv (m:Int),Fs,iv (i:Int),iv (j:Int)] [Ft l]=Θ (.tup [iv 0,.sl 0 0 l.length 3,iv (m:Int),Fs,iv (d:Int)],[.set (Ft r)])
   ∧ r.length=l.length/\r.Perm l/\d<=m/\m+d<=l.length/\∀ r2:List Pt,SwR r r2 (m-d) m d->Rot l r2 (m-i) m (m+j):=by
 intro s
 induction s using Ato with
 |_ s ih=>
  intro i j l hs hi hj him hl hn
  by_cases he:i=j
  .subst he
   refine⟨l,i,?_,rfl,List.Perm.refl _,him,hl,λr2 h=>Adz him h⟩;refine Ax K Qs (VM ..) ?_;exact Bt rfl rfl
  by_cases hlt:j<i
  .obtain⟨r,g,hr,hp,hsw⟩:=WQ K (a:=m-i) (b:=m) (n:=j) (l:=l) (by omega) hl hn
   obtain⟨r2,d,g2,hr2,hp2,hd1,hd2,hd3⟩:=ih (i-j+j) (by omega) (i-j) j r rfl (by omega) hj (by omega) (by omega) (by omega);rw[hr]at g2 hr2 hd2;refine⟨r2,d,?_,hr2,hp2.trans hp,hd1,hd2,λr3 h=>Adx him hlt hsw (hd3 r3 h)⟩;refine Ax K Qs (VM ..) ?_;refine Ba ?_;refine Ap ?_;rw[Cv him (by omega),Cv (a:=i) (b:=j) (by omega) (by omega)];refine Ab g ?_;simp only[Fs,ND,DK,Aa];refine Ab g2 ?_;rfl
  .obtain⟨r,g,hr,hp,hsw⟩:=WQ K (a:=m-i) (b:=m+j-i) (n:=i) (l:=l) (by omega) (by omega) hn
   obtain⟨r2,d,g2,hr2,hp2,hd1,hd2,hd3⟩:=ih (i+(j-i)) (by omega) i (j-i) r rfl hi (by omega) him (by omega) (by omega);rw[hr]at g2 hr2 hd2;refine⟨r2,d,?_,hr2,hp2.trans hp,hd1,hd2,λr3 h=>ZQ him (by omega) hsw (hd3 r3 h)⟩;refine Ax K Qs (VM ..) ?_;refine Ba ?_;refine Ak ?_;rw[Cv him (by omega),JR (a:=m) (b:=j) (by omega),Cv (a:=m+j) (b:=i) (by omega) (by omega),Cv (a:=j) (b:=i) (by omega) (by omega)];refine Ab g ?_;simp only[Fs,ND,DK,Aa];refine Ab g2 ?_;rfl
theorem Ady{a m b:Nat}{l:List Pt}(ha:a<m)(hm:m<b)(hb:b<=l.length)(hl:l.length<=1000000000) :
  ∃ r:List Pt,D.ask (.fn 265) [.sl 0 0 l.length 3,iv (a:Int),iv (m:Int),iv (b:Int),Fs] [Ft l]=Θ (.tup [],[.set (Ft r)])
   ∧ r.length=l.length/\r.Perm l/\Rot l r a m b:=by
 obtain⟨r,d,g,hr,hp,hd1,hd2,hd3⟩:=AlZ K m _ (m-a) (b-m) l rfl (by omega) (by omega) (by omega) (by omega) hl;obtain⟨r2,g2,hr2,hp2,hsw⟩:=WQ K (a:=m-d) (b:=m) (n:=d) (l:=r) (by omega) (by omega) (by omega);have h:=hd3 r2 hsw;rw[show m-(m-a)=a by omega,show m+(b-m)=b by omega]at h;rw[hr]at g2;refine⟨r2,?_,by omega,hp2.trans hp,h⟩;refine AC K Qs (Aqa ..) ?_;rw[Cv (a:=m) (b:=a) (by omega) (by omega),Cv (a:=b) (b:=m) (by omega) (by omega)];refine Ab g ?_;simp only[Fs,ND,DK,Aa];rw[Cv hd1 (by omega)];refine Ab g2 ?_;rfl
theorem AhW(a m b:Nat)(l:List Pt)(hl:l.length<=1000000000)(ha:a<m)(hb:b<=l.length)(hs:Srt Pt.v l m b):∀(k i j:Nat),j-i=k->m<=i->i<=j->j<=b->(∀ p,m<=p->p<i->kf Pt.v l p<kf Pt.v l a)->(∀ p,j<=p->p<b->kf Pt.v l a<=kf Pt.v l p)->
  ∃ x:Nat,D.ask (.lp 235 0) [.sl 0 0 l.length 3,iv (a:Int),Fs,iv (i:Int),iv (j:Int)] [Ft l]=Θ (.tup [iv 0,.sl 0 0 l.length 3,iv (a:Int),iv (x:Int)],[.set (Ft l)])
   ∧ m<=x/\x<=b/\(∀ p,m<=p->p<x->kf Pt.v l p<kf Pt.v l a)/\(∀ p,x<=p->p<b->kf Pt.v l a<=kf Pt.v l p):=by
 intro k
 induction k using Ato with
 |_ k ih=>
  intro i j hk hmi hij hjb h1 h2
  by_cases he:i<j
  .have hH:(i+j) / 2<l.length:=by omega
   have hA:a<l.length:=by omega
   have kh:kf Pt.v l ((i+j) / 2)=l[(i+j) / 2].v:=EP Pt.v hH;have ka:kf Pt.v l a=l[a].v:=EP Pt.v hA
   by_cases hlt:l[(i+j) / 2].v<l[a].v
   .obtain⟨x,g,hx⟩:=ih (j-((i+j) / 2+1)) (by omega) ((i+j) / 2+1) j rfl (by omega) (by omega) hjb (λp p1 p2=>by
     by_cases hp:p=(i+j) / 2
     .rw[hp,kh,ka];exact hlt
     .have:=hs p ((i+j) / 2) p1 (by omega) (by omega)
      omega) h2
    refine⟨x,?_,hx⟩;refine Ax K CF (VJ ..) ?_;refine Ap ?_;refine Ak ?_ (by decide);rw[DG (by omega),BV (by omega)];rw[Au,AN hH];refine Ac ?_;refine(Bm Ay l ((i+j) / 2) hH _).trans ?_;simp only[eP,eN,ND,DK,Aa];rw[Au,AN hA];refine Ac ?_;refine(Bm Ay l a hA _).trans ?_;simp only[eP,eN,ND,DK,Aa];refine Ab (Hz K l[(i+j) / 2] l[a]) ?_;simp only[ND,DK,Aa];refine Ap ?_ (FC.2 hlt);refine Ab g ?_;rfl
   .obtain⟨x,g,hx⟩:=ih ((i+j) / 2-i) (by omega) i ((i+j) / 2) rfl hmi (by omega) (by omega) h1 (λp p1 p2=>by
     by_cases hp:p=(i+j) / 2
     .rw[hp];omega
     .have:=hs ((i+j) / 2) p (by omega) (by omega) (by omega)
      omega)
    refine⟨x,?_,hx⟩;refine Ax K CF (VJ ..) ?_;refine Ap ?_;refine Ak ?_ (by decide);rw[DG (by omega)];rw[Au,AN hH];refine Ac ?_;refine(Bm Ay l ((i+j) / 2) hH _).trans ?_;simp only[eP,eN,ND,DK,Aa];rw[Au,AN hA];refine Ac ?_;refine(Bm Ay l a hA _).trans ?_;simp only[eP,eN,ND,DK,Aa];refine Ab (Hz K l[(i+j) / 2] l[a]) ?_;simp only[ND,DK,Aa];refine Ak ?_ (λh=>hlt (FC.1 h));refine Ab g ?_;rfl
  .obtain rfl:i=j:=by omega
   refine⟨i,?_,hmi,hjb,h1,h2⟩;refine Ax K CF (VJ ..) ?_;exact Ak rfl
theorem AhX(a x:Nat)(l0:List Pt):∀(n k:Nat) (l:List Pt),x-1-k=n->a<=k->k<x->x<=l.length->l.length<=1000000000->l.length=l0.length->Rot l0 l a (a+1) (k+1)->
  ∃ r:List Pt,D.ask (.lp 235 1) [.sl 0 0 l.length 3,iv (x:Int),iv (k:Int)] [Ft l]=Θ (.tup [iv 2,.sl 0 0 l.length 3],[.set (Ft r)])
   ∧ r.length=l.length/\r.Perm l/\Rot l0 r a (a+1) x:=by
 intro n
 induction n with
 |zero=>
  intro k l hn ha hk hx hl h0 ht;obtain rfl:x=k+1:=by omega
  refine⟨l,?_,rfl,List.Perm.refl _,ht⟩;refine Ax K CF (AbA ..) ?_;rw[Im (by omega) (by omega)];exact Ak rfl
 |succ n ih=>
  intro k l hn ha hk hx hl h0 ht;have hI:k<l.length:=by omega
  have hJ:k+1<l.length:=by omega
  have hlen:=Gz l k (k+1);obtain⟨r,g,hr,hp,ho⟩:=ih (k+1) (CT l k (k+1)) (by omega) (by omega) (by omega) (by omega) (by omega) (by omega) (Al0 ha (by omega) h0 ht);rw[hlen]at g hr;refine⟨r,?_,hr,hp.trans (Ew _ _ _),ho⟩;refine Ax K CF (AbA ..) ?_;rw[Im (by omega) (by omega)];refine Ap ?_;rw[BV (by omega)];rw[Au,AN hJ];refine Ac ?_;refine(Bm Ay l (k+1) hJ _).trans ?_;simp only[eP,eN,ND,DK,Aa];rw[Au,AN hI];refine Ac ?_;refine(Bm Ay l k hI _).trans ?_;simp only[eP,eN,ND,DK,Aa];have s1:=Cq Ay l k hI l[(k+1)];have s2:=Cq Ay (l.set k l[(k+1)]) (k+1) (by rw[Asd];exact hJ) l[k];rw[←DD hI hJ]at s2;simp only[eP,eN]at s1 s2;rw[Au,AN hI];refine Ac ?_;rw[show ArY (0+k*3+3) (Ag eP l).length=Δ by rw[AR Ay];simp;omega];refine Ac ?_;rw[Au,AN hJ];refine Ac ?_;rw[s1,s2];rw[show ArY (0+(k+1)*3+3) (Ag eP (l.set k l[(k+1)])).length=Δ by rw[AR Ay,Asd];simp;omega];refine Ac ?_;refine Ab g ?_;rfl
theorem AhY(a m:Nat)(l:List Pt)(hl:l.length<=1000000000)(hb:m<l.length)(hs:Srt Pt.v l a m):∀(k i j:Nat),j-i=k->a<=i->i<=j->j<=m->(∀ p,a<=p->p<i->kf Pt.v l p<=kf Pt.v l m)->(∀ p,j<=p->p<m->kf Pt.v l m<kf Pt.v l p)->
  ∃ x:Nat,D.ask (.lp 235 2) [.sl 0 0 l.length 3,iv (m:Int),Fs,iv (i:Int),iv (j:Int)] [Ft l]=Θ (.tup [iv 4,.sl 0 0 l.length 3,iv (m:Int),iv (x:Int)],[.set (Ft l)])
   ∧ a<=x/\x<=m/\(∀ p,a<=p->p<x->kf Pt.v l p<=kf Pt.v l m)/\(∀ p,x<=p->p<m->kf Pt.v l m<kf Pt.v l p):=by
 intro k
 induction k using Ato with
 |_ k ih=>
  intro i j hk hmi hij hjb h1 h2
  by_cases he:i<j
  .have hH:(i+j) / 2<l.length:=by omega
   have kh:kf Pt.v l ((i+j) / 2)=l[(i+j) / 2].v:=EP Pt.v hH;have ka:kf Pt.v l m=l[m].v:=EP Pt.v hb
   by_cases hlt:l[m].v<l[(i+j) / 2].v
   .obtain⟨x,g,hx⟩:=ih ((i+j) / 2-i) (by omega) i ((i+j) / 2) rfl hmi (by omega) (by omega) h1 (λp p1 p2=>by
     by_cases hp:p=(i+j) / 2
     .rw[hp];omega
     .have:=hs ((i+j) / 2) p (by omega) (by omega) (by omega)
      omega)
    refine⟨x,?_,hx⟩;refine Ax K CF (VK ..) ?_;refine Ap ?_;refine Ak ?_ (by decide);rw[DG (by omega)];rw[Au,AN hb];refine Ac ?_;refine(Bm Ay l m hb _).trans ?_;simp only[eP,eN,ND,DK,Aa];rw[Au,AN hH];refine Ac ?_;refine(Bm Ay l ((i+j) / 2) hH _).trans ?_;simp only[eP,eN,ND,DK,Aa];refine Ab (Hz K l[m] l[(i+j) / 2]) ?_;simp only[ND,DK,Aa];refine Ap ?_ (FC.2 hlt);refine Ab g ?_;rfl
   .obtain⟨x,g,hx⟩:=ih (j-((i+j) / 2+1)) (by omega) ((i+j) / 2+1) j rfl (by omega) (by omega) hjb (λp p1 p2=>by
     by_cases hp:p=(i+j) / 2
     .rw[hp];omega
     .have:=hs p ((i+j) / 2) p1 (by omega) (by omega)
      omega) h2
    refine⟨x,?_,hx⟩;refine Ax K CF (VK ..) ?_;refine Ap ?_;refine Ak ?_ (by decide);rw[DG (by omega),BV (by omega)];rw[Au,AN hb];refine Ac ?_;refine(Bm Ay l m hb _).trans ?_;simp only[eP,eN,ND,DK,Aa];rw[Au,AN hH];refine Ac ?_;refine(Bm Ay l ((i+j) / 2) hH _).trans ?_;simp only[eP,eN,ND,DK,Aa];refine Ab (Hz K l[m] l[(i+j) / 2]) ?_;simp only[ND,DK,Aa];refine Ak ?_ (λh=>hlt (FC.1 h));refine Ab g ?_;rfl
  .obtain rfl:i=j:=by omega
   refine⟨i,?_,hmi,hjb,h1,h2⟩;refine Ax K CF (VK ..) ?_;exact Ak rfl
theorem AhZ(m x:Nat)(l0:List Pt):∀(n k:Nat) (l:List Pt),k-x=n->x<=k->k<=m->m<l.length->l.length<=1000000000->l.length=l0.length->Rot l0 l k m (m+1)->
  ∃ r:List Pt,D.ask (.lp 235 3) [.sl 0 0 l.length 3,iv (x:Int),iv (k:Int)] [Ft l]=Θ (.tup [iv 6,.sl 0 0 l.length 3],[.set (Ft r)])
   ∧ r.length=l.length/\r.Perm l/\Rot l0 r x m (m+1):=by
 intro n
 induction n with
 |zero=>
  intro k l hn hx hk hm hl h0 ht;obtain rfl:x=k:=by omega
  refine⟨l,?_,rfl,List.Perm.refl _,ht⟩;refine Ax K CF (AbB ..) ?_;exact Ak rfl
 |succ n ih=>
  intro k l hn hx hk hm hl h0 ht;obtain⟨j,rfl⟩:∃ j,k=j+1:=⟨k-1,by omega⟩;have hI:j+1<l.length:=by omega
  have hJ:j<l.length:=by omega
  have hlen:=Gz l (j+1) j;obtain⟨r,g,hr,hp,ho⟩:=ih j (CT l (j+1) j) (by omega) (by omega) (by omega) (by omega) (by omega) (by omega) (Adw (by omega) (by omega) h0 ht);rw[hlen]at g hr;refine⟨r,?_,hr,hp.trans (Ew _ _ _),ho⟩;refine Ax K CF (AbB ..) ?_;refine Ap ?_;rw[KX (by omega)];rw[Au,AN hJ];refine Ac ?_;refine(Bm Ay l j hJ _).trans ?_;simp only[eP,eN,ND,DK,Aa];rw[Au,AN hI];refine Ac ?_;refine(Bm Ay l (j+1) hI _).trans ?_;simp only[eP,eN,ND,DK,Aa];have s1:=Cq Ay l (j+1) hI l[j];have s2:=Cq Ay (l.set (j+1) l[j]) j (by rw[Asd];exact hJ) l[(j+1)];rw[←DD hI hJ]at s2;simp only[eP,eN]at s1 s2;rw[Au,AN hI];refine Ac ?_;rw[show ArY (0+(j+1)*3+3) (Ag eP l).length=Δ by rw[AR Ay];simp;omega];refine Ac ?_;rw[Au,AN hJ];refine Ac ?_;rw[s1,s2];rw[show ArY (0+j*3+3) (Ag eP (l.set (j+1) l[j])).length=Δ by rw[AR Ay,Asd];simp;omega];refine Ac ?_;refine Ab g ?_;rfl
theorem Yp(a m b mid x y:Nat)(l:List Pt)(hl:l.length<=1000000000)(hb:b<=l.length)(hs1:Srt Pt.v l a m)(hs2:Srt Pt.v l m b)(hx:a<=x)(hy:y<=m)(hn:mid+m<=x+b)(hm:y<=mid)(hmid:mid<=b)(hmb:m<=b):∀(k s r:Nat),r-s=k->Bs Pt.v l (mid+m) x y s r->
  ∃ z:Nat,D.ask (.lp 235 4) [.sl 0 0 l.length 3,iv (a:Int),iv (m:Int),iv (b:Int),Fs,iv (mid:Int),iv ((mid+m:Nat):Int),iv (s:Int),iv (r:Int),iv ((mid+m-1:Nat):Int)] [Ft l]=Θ (.tup [iv 8,.sl 0 0 l.length 3,iv (a:Int),iv (m:Int),iv (b:Int),Fs,iv (mid:Int),iv ((mid+m:Nat):Int),iv (z:Int)],[.set (Ft l)])
   ∧ Bs Pt.v l (mid+m) x y z z:=by
 intro k
 induction k using Ato with
 |_ k ih=>
  intro s r hk B;have:=B.xs;have:=B.sr;have:=B.ry
  by_cases he:s<r
  .have hH:(s+r) / 2<l.length:=by omega
   have hP:mid+m-1-(s+r) / 2<l.length:=by omega
   have kh:kf Pt.v l ((s+r) / 2)=l[(s+r) / 2].v:=EP Pt.v hH;have kp:kf Pt.v l (mid+m-1-(s+r) / 2)=l[mid+m-1-(s+r) / 2].v:=EP Pt.v hP
   by_cases hlt:l[mid+m-1-(s+r) / 2].v<l[(s+r) / 2].v
   .obtain⟨z,g,hz⟩:=ih ((s+r) / 2-s) (by omega) s ((s+r) / 2) rfl (B.dn Pt.v hs1 hs2 hx hy (by omega) (by omega) (by omega) (by omega) (by omega))
    refine⟨z,?_,hz⟩;refine Ax K CF (VL ..) ?_;refine Ap ?_;refine Ak ?_ (by decide);rw[DG (by omega),Cv (a:=mid+m-1) (b:=(s+r) / 2) (by omega) (by omega)];rw[Au,AN hP];refine Ac ?_;refine(Bm Ay l (mid+m-1-(s+r) / 2) hP _).trans ?_;simp only[eP,eN,ND,DK,Aa];rw[Au,AN hH];refine Ac ?_;refine(Bm Ay l ((s+r) / 2) hH _).trans ?_;simp only[eP,eN,ND,DK,Aa];refine Ab (Hz K l[mid+m-1-(s+r) / 2] l[(s+r) / 2]) ?_;simp only[ND,DK,Aa];refine Ap ?_ (FC.2 hlt);refine Ab g ?_;rfl
   .obtain⟨z,g,hz⟩:=ih (r-((s+r) / 2+1)) (by omega) ((s+r) / 2+1) r rfl (B.up Pt.v hs1 hs2 hx hy (by omega) (by omega) (by omega) (by omega) (by omega))
    refine⟨z,?_,hz⟩;refine Ax K CF (VL ..) ?_;refine Ap ?_;refine Ak ?_ (by decide);rw[DG (by omega),Cv (a:=mid+m-1) (b:=(s+r) / 2) (by omega) (by omega),BV (by omega)];rw[Au,AN hP];refine Ac ?_;refine(Bm Ay l (mid+m-1-(s+r) / 2) hP _).trans ?_;simp only[eP,eN,ND,DK,Aa];rw[Au,AN hH];refine Ac ?_;refine(Bm Ay l ((s+r) / 2) hH _).trans ?_;simp only[eP,eN,ND,DK,Aa];refine Ab (Hz K l[mid+m-1-(s+r) / 2] l[(s+r) / 2]) ?_;simp only[ND,DK,Aa];refine Ak ?_ (λh=>hlt (FC.1 h));refine Ab g ?_;rfl
  .obtain rfl:s=r:=by omega
   refine⟨s,?_,B⟩;refine Ax K CF (VL ..) ?_;exact Ak rfl
end
def tl2(D:Orc)(n:Nat)(mid e b:Int)(cs:List AV):KR:=
 br (Ae.lt mid e)
  (br (Ae.lt e b)
   (AF D (.fn 235) [.sl 0 0 n 3,iv mid,iv e,iv b,Fs] [δ cs Δ Δ] λr o=>
   K5 r λcs4=>
   Fr cs4<|
   ES o λc l=>
   GF Δ Δ c λcs5=>
   DE l<|
   Θ ((ι [],[ArU (δ cs5 Δ Δ)])))
   (Θ ((ι [],[ArU (δ cs Δ Δ)]))))
  (Θ ((ι [],[ArU (δ cs Δ Δ)])))
def tl1(D:Orc)(n:Nat)(a s mid e b:Int)(cs:List AV):KR:=
 br (Ae.lt a s)
  (br (Ae.lt s mid)
   (AF D (.fn 235) [.sl 0 0 n 3,iv a,iv s,iv mid,Fs] [δ cs Δ Δ] λr o=>
   K5 r λcs4=>
   Fr cs4<|
   ES o λc l=>
   GF Δ Δ c λcs5=>
   DE l<|
   tl2 D n mid e b cs5)
   (tl2 D n mid e b cs))
  (tl2 D n mid e b cs)
section
variable {D:Orc}
def M1(D:Orc)(N:Nat):Prop:=∀(l:List Pt) (a m b:Nat),b-a<N->a<m->m<b->b<=l.length->l.length<=1000000000->Srt Pt.v l a m->Srt Pt.v l m b->
 ∃ r:List Pt,D.ask (.fn 235) [.sl 0 0 l.length 3,iv (a:Int),iv (m:Int),iv (b:Int),Fs] [Ft l]=Θ (.tup [],[.set (Ft r)])
  ∧ r.length=l.length/\r.Perm l/\Srt Pt.v r a b/\Same0 l r a b
theorem Amd{N:Nat}(ih:M1 D N){l:List Pt}{mid e b:Nat}(hN:b-mid<N)(h1:mid<=e)(h2:e<=b)(hb:b<=l.length)(hl:l.length<=1000000000)(s1:Srt Pt.v l mid e)(s2:Srt Pt.v l e b) :
  ∃ r:List Pt,tl2 D l.length (mid:Int) (e:Int) (b:Int) (Ag eP l)=Θ (.tup [],[.set (Ft r)])/\r.length=l.length/\r.Perm l/\Srt Pt.v r mid b/\Same0 l r mid b:=by
 by_cases q1:mid<e
 .by_cases q2:e<b
  .obtain⟨r,g,hr,hp,ho,hs⟩:=ih l mid e b hN q1 q2 hb hl s1 s2
   refine⟨r,?_,hr,hp,ho,hs⟩;unfold tl2;refine Ap ?_;refine Ap ?_;refine Ab g ?_;rfl
  .refine⟨l,?_,rfl,List.Perm.refl _,KU Pt.v (.inr (by omega)) s1 s2,De _ _ _⟩
   unfold tl2;refine Ap ?_;exact Ak rfl
 .refine⟨l,?_,rfl,List.Perm.refl _,KU Pt.v (.inl (by omega)) s1 s2,De _ _ _⟩
  unfold tl2;exact Ak rfl
theorem L7{N:Nat}(ih:M1 D N){l:List Pt}{a s mid e b:Nat}(hN:mid-a<N)(hN2:b-mid<N)(h1:a<=s)(h2:s<=mid)(h3:mid<=e)(h4:e<=b)(hb:b<=l.length)(hl:l.length<=1000000000)(s1:Srt Pt.v l a s)(s2:Srt Pt.v l s mid)(s3:Srt Pt.v l mid e)(s4:Srt Pt.v l e b)(lo:Low Pt.v l a mid b) :
  ∃ r:List Pt,tl1 D l.length (a:Int) (s:Int) (mid:Int) (e:Int) (b:Int) (Ag eP l)=Θ (.tup [],[.set (Ft r)])/\r.length=l.length/\r.Perm l/\Srt Pt.v r a b/\Same0 l r a b:=by
 have fin:∀{l1:List Pt},l1.length=l.length->l1.Perm l->Srt Pt.v l1 a mid->Same0 l l1 a mid->∃ r:List Pt,tl2 D l.length (mid:Int) (e:Int) (b:Int) (Ag eP l1)=Θ (.tup [],[.set (Ft r)])/\r.length=l.length/\r.Perm l/\Srt Pt.v r a b/\Same0 l r a b:=by
  intro l1 k1 k2 k3 k4;have lo1:=AcH Pt.v lo k2 k4 (by omega);obtain⟨r,g,hr,hp,ho,hs⟩:=Amd ih (l:=l1) (mid:=mid) (e:=e) (b:=b) hN2 h3 h4 (by omega) (by omega) (s3.same' Pt.v k4 (.inr (κ _))) (s4.same' Pt.v k4 (.inr h3));rw[k1]at g hr;exact⟨r,g,hr,hp.trans k2,AhR Pt.v (k3.same' Pt.v hs (.inl (κ _))) ho (Zr Pt.v lo1 hp hs (by omega)),(k4.wide (κ _) (by omega)).trans (hs.wide (by omega) (κ _))⟩
 by_cases q1:a<s
 .by_cases q2:s<mid
  .obtain⟨r,g,hr,hp,ho,hs⟩:=ih l a s mid hN q1 q2 (by omega) hl s1 s2
   obtain⟨r2,g2,h⟩:=fin hr hp ho hs;refine⟨r2,?_,h⟩;unfold tl1;refine Ap ?_;refine Ap ?_;refine Ab g ?_;exact g2
  .obtain⟨r2,g2,h⟩:=fin (l1:=l) rfl (List.Perm.refl _) (KU Pt.v (.inr (by omega)) s1 s2) (De _ _ _)
   refine⟨r2,?_,h⟩;unfold tl1;refine Ap ?_;exact(Ek (by omega)).trans g2
 .obtain⟨r2,g2,h⟩:=fin (l1:=l) rfl (List.Perm.refl _) (KU Pt.v (.inl (by omega)) s1 s2) (De _ _ _)
  refine⟨r2,?_,h⟩;unfold tl1;exact(Ek (by omega)).trans g2
variable (K:Knows At D9 D)
include K
theorem AhV:∀ N,M1 D N:=by
 intro N
 induction N with
 |zero=>intro l a m b h;omega
 |succ N ih0=>
  intro l a m b hN ha hm hb hl hs1 hs2
  by_cases hA:m-a=1
  .obtain rfl:m=a+1:=by omega
   obtain⟨x,g1,x1,x2,x3,x4⟩:=AhW K a (a+1) b l hl (by omega) hb hs2 _ (a+1) b rfl (κ _) (by omega) (κ _) (λp p1 p2=>by omega) (λp p1 p2=>by omega);obtain⟨r,g2,r1,r2,r3⟩:=AhX K a x l _ a l rfl (κ _) (by omega) (by omega) hl rfl (Gw (.inr rfl) (by omega) (by omega));refine⟨r,?_,r1,r2,Ul Pt.v x1 x2 hs2 x3 x4 r3,λp hp=>r3.out p (by omega)⟩;refine AC K CF (Tw ..) ?_;rw[Cv (a:=a+1) (b:=a) (by omega) (by omega)];refine Bt ?_;refine Ab g1 ?_;simp only[Fs,ND,DK,Aa];refine Ab g2 ?_;rfl
  by_cases hB:b-m=1
  .obtain rfl:b=m+1:=by omega
   obtain⟨x,g1,x1,x2,x3,x4⟩:=AhY K a m l hl (by omega) hs1 _ a m rfl (κ _) (by omega) (κ _) (λp p1 p2=>by omega) (λp p1 p2=>by omega);obtain⟨r,g2,r1,r2,r3⟩:=AhZ K m x l _ m l rfl x2 (κ _) (by omega) hl rfl (Gw (.inl rfl) (by omega) (by omega));refine⟨r,?_,r1,r2,Wj Pt.v x1 x2 hs1 x3 x4 r3,λp hp=>r3.out p (by omega)⟩;refine AC K CF (Tw ..) ?_;rw[Cv (a:=m) (b:=a) (by omega) (by omega)];refine Ba ?_;rw[Cv (a:=m+1) (b:=m) (by omega) (by omega)];refine Bt ?_;refine Ab g1 ?_;simp only[Fs,ND,DK,Aa];refine Ac ?_;refine Ab g2 ?_;rfl
  have ih:M1 D N:=ih0
  by_cases hC:(a+b) / 2<m
  .obtain⟨z,g4,B⟩:=Yp K a m b ((a+b) / 2) ((a+b) / 2+m-b) ((a+b) / 2) l hl hb hs1 hs2 (by omega) (by omega) (by omega) (by omega) (by omega) (by omega) _ ((a+b) / 2+m-b) ((a+b) / 2) rfl ⟨κ _,by omega,κ _,λc c1 c2=>by omega,λc c1 c2=>by omega⟩
   have C:=B.cut Pt.v hs1 hs2 (by omega) (by omega) (by omega) (by omega) (.inr (by omega)) (.inr rfl);have:=C.asl;have:=C.sm;have:=C.me;have:=C.eb;have:=C.mid;have:=B.ry;have:=B.xs;have e0:Ae.sub .i64 (((a+b) / 2+m:Nat):Int) (z:Int)=(((a+b) / 2+m-z:Nat):Int):=Cv (by omega) (by omega)
   by_cases w1:z<m
   .by_cases w2:m<(a+b) / 2+m-z
    .obtain⟨l1,g5,k1,k2,k3⟩:=Ady K w1 w2 (by omega) hl
     obtain⟨f1,f2,f3,f4,f5⟩:=E9 Pt.v C hs1 hs2 k3;obtain⟨r,g6,r1,r2,r3,r4⟩:=L7 ih (l:=l1) (a:=a) (s:=z) (mid:=(a+b) / 2) (e:=(a+b) / 2+m-z) (b:=b) (by omega) (by omega) (by omega) (by omega) (by omega) (by omega) (by omega) (by omega) f1 f2 f3 f4 f5;have sm:Same0 l l1 a b:=λp hp=>k3.out p (by omega)
     rw[k1]at g6 r1;refine⟨r,?_,r1,r2.trans k2,r3,sm.trans r4⟩;refine AC K CF (Tw ..) ?_;rw[Cv (a:=m) (b:=a) (by omega) (by omega)];refine Ba ?_;rw[Cv (a:=b) (b:=m) (by omega) (by omega)];refine Ba ?_;refine Ak ?_ (by decide);rw[DG (a:=a) (b:=b) (by omega)];rw[JR (a:=(a+b) / 2) (b:=m) (by omega),Im (a:=(a+b) / 2+m) (by omega) (by omega)];rw[Cv (a:=(a+b) / 2+m) (b:=b) (by omega) (by omega)];refine Ap ?_;refine Ab g4 ?_;simp only[Fs,ND,DK,Aa];refine Ac ?_;rw[e0];refine Ap ?_;refine Ap ?_;refine Ab g5 ?_;exact g6
    .obtain⟨f1,f2,f3,f4,f5⟩:=E9 Pt.v C hs1 hs2 (Gw (l:=l) (.inr (by omega)) (by omega) (by omega))
     obtain⟨r,g6,r1,r2,r3,r4⟩:=L7 ih (l:=l) (a:=a) (s:=z) (mid:=(a+b) / 2) (e:=(a+b) / 2+m-z) (b:=b) (by omega) (by omega) (by omega) (by omega) (by omega) (by omega) (by omega) (by omega) f1 f2 f3 f4 f5;refine⟨r,?_,r1,r2,r3,r4⟩;refine AC K CF (Tw ..) ?_;rw[Cv (a:=m) (b:=a) (by omega) (by omega)];refine Ba ?_;rw[Cv (a:=b) (b:=m) (by omega) (by omega)];refine Ba ?_;refine Ak ?_ (by decide);rw[DG (a:=a) (b:=b) (by omega)];rw[JR (a:=(a+b) / 2) (b:=m) (by omega),Im (a:=(a+b) / 2+m) (by omega) (by omega)];rw[Cv (a:=(a+b) / 2+m) (b:=b) (by omega) (by omega)];refine Ap ?_;refine Ab g4 ?_;simp only[Fs,ND,DK,Aa];refine Ac ?_;rw[e0];refine Ap ?_;refine Ak ?_;exact g6
   .obtain⟨f1,f2,f3,f4,f5⟩:=E9 Pt.v C hs1 hs2 (Gw (l:=l) (.inl (by omega)) (by omega) (by omega))
    obtain⟨r,g6,r1,r2,r3,r4⟩:=L7 ih (l:=l) (a:=a) (s:=z) (mid:=(a+b) / 2) (e:=(a+b) / 2+m-z) (b:=b) (by omega) (by omega) (by omega) (by omega) (by omega) (by omega) (by omega) (by omega) f1 f2 f3 f4 f5;refine⟨r,?_,r1,r2,r3,r4⟩;refine AC K CF (Tw ..) ?_;rw[Cv (a:=m) (b:=a) (by omega) (by omega)];refine Ba ?_;rw[Cv (a:=b) (b:=m) (by omega) (by omega)];refine Ba ?_;refine Ak ?_ (by decide);rw[DG (a:=a) (b:=b) (by omega)];rw[JR (a:=(a+b) / 2) (b:=m) (by omega),Im (a:=(a+b) / 2+m) (by omega) (by omega)];rw[Cv (a:=(a+b) / 2+m) (b:=b) (by omega) (by omega)];refine Ap ?_;refine Ab g4 ?_;simp only[Fs,ND,DK,Aa];refine Ac ?_;rw[e0];refine Ak ?_;exact g6
  .obtain⟨z,g4,B⟩:=Yp K a m b ((a+b) / 2) a m l hl hb hs1 hs2 (by omega) (by omega) (by omega) (by omega) (by omega) (by omega) _ a m rfl ⟨κ _,by omega,κ _,λc c1 c2=>by omega,λc c1 c2=>by omega⟩
   have C:=B.cut Pt.v hs1 hs2 (by omega) (by omega) (by omega) (by omega) (.inl rfl) (.inl rfl);have:=C.asl;have:=C.sm;have:=C.me;have:=C.eb;have:=C.mid;have:=B.ry;have:=B.xs;have e0:Ae.sub .i64 (((a+b) / 2+m:Nat):Int) (z:Int)=(((a+b) / 2+m-z:Nat):Int):=Cv (by omega) (by omega)
   by_cases w1:z<m
   .by_cases w2:m<(a+b) / 2+m-z
    .obtain⟨l1,g5,k1,k2,k3⟩:=Ady K w1 w2 (by omega) hl
     obtain⟨f1,f2,f3,f4,f5⟩:=E9 Pt.v C hs1 hs2 k3;obtain⟨r,g6,r1,r2,r3,r4⟩:=L7 ih (l:=l1) (a:=a) (s:=z) (mid:=(a+b) / 2) (e:=(a+b) / 2+m-z) (b:=b) (by omega) (by omega) (by omega) (by omega) (by omega) (by omega) (by omega) (by omega) f1 f2 f3 f4 f5;have sm:Same0 l l1 a b:=λp hp=>k3.out p (by omega)
     rw[k1]at g6 r1;refine⟨r,?_,r1,r2.trans k2,r3,sm.trans r4⟩;refine AC K CF (Tw ..) ?_;rw[Cv (a:=m) (b:=a) (by omega) (by omega)];refine Ba ?_;rw[Cv (a:=b) (b:=m) (by omega) (by omega)];refine Ba ?_;refine Ak ?_ (by decide);rw[DG (a:=a) (b:=b) (by omega)];rw[JR (a:=(a+b) / 2) (b:=m) (by omega),Im (a:=(a+b) / 2+m) (by omega) (by omega)];refine Ak ?_;refine Ab g4 ?_;simp only[Fs,ND,DK,Aa];refine Ac ?_;rw[e0];refine Ap ?_;refine Ap ?_;refine Ab g5 ?_;exact g6
    .obtain⟨f1,f2,f3,f4,f5⟩:=E9 Pt.v C hs1 hs2 (Gw (l:=l) (.inr (by omega)) (by omega) (by omega))
     obtain⟨r,g6,r1,r2,r3,r4⟩:=L7 ih (l:=l) (a:=a) (s:=z) (mid:=(a+b) / 2) (e:=(a+b) / 2+m-z) (b:=b) (by omega) (by omega) (by omega) (by omega) (by omega) (by omega) (by omega) (by omega) f1 f2 f3 f4 f5;refine⟨r,?_,r1,r2,r3,r4⟩;refine AC K CF (Tw ..) ?_;rw[Cv (a:=m) (b:=a) (by omega) (by omega)];refine Ba ?_;rw[Cv (a:=b) (b:=m) (by omega) (by omega)];refine Ba ?_;refine Ak ?_ (by decide);rw[DG (a:=a) (b:=b) (by omega)];rw[JR (a:=(a+b) / 2) (b:=m) (by omega),Im (a:=(a+b) / 2+m) (by omega) (by omega)];refine Ak ?_;refine Ab g4 ?_;simp only[Fs,ND,DK,Aa];refine Ac ?_;rw[e0];refine Ap ?_;refine Ak ?_;exact g6
   .obtain⟨f1,f2,f3,f4,f5⟩:=E9 Pt.v C hs1 hs2 (Gw (l:=l) (.inl (by omega)) (by omega) (by omega))
    obtain⟨r,g6,r1,r2,r3,r4⟩:=L7 ih (l:=l) (a:=a) (s:=z) (mid:=(a+b) / 2) (e:=(a+b) / 2+m-z) (b:=b) (by omega) (by omega) (by omega) (by omega) (by omega) (by omega) (by omega) (by omega) f1 f2 f3 f4 f5;refine⟨r,?_,r1,r2,r3,r4⟩;refine AC K CF (Tw ..) ?_;rw[Cv (a:=m) (b:=a) (by omega) (by omega)];refine Ba ?_;rw[Cv (a:=b) (b:=m) (by omega) (by omega)];refine Ba ?_;refine Ak ?_ (by decide);rw[DG (a:=a) (b:=b) (by omega)];rw[JR (a:=(a+b) / 2) (b:=m) (by omega),Im (a:=(a+b) / 2+m) (by omega) (by omega)];refine Ak ?_;refine Ab g4 ?_;simp only[Fs,ND,DK,Aa];refine Ac ?_;rw[e0];refine Ak ?_;exact g6
theorem Zu:Nw D:=λl a m b h1 h2 h3 h4 h5 h6=>AhV K (b-a+1) l a m b (by omega) h1 h2 h3 h4 h5 h6
theorem UY{l:List Pt}(hl:l.length<=1000000000) :
  ∃ r:List Pt,D.ask (.fn 136) [.sl 0 0 l.length 3,Fs] [Ft l]=Θ (.tup [],[.set (Ft r)])
   ∧ r.length=l.length/\r.Perm l/\Srt Pt.v r 0 r.length:=AhQ K (Zu K) hl
end
def fnZ:AV:=.fn (.func 141) [] []
section
variable {D:Orc} (K:Knows At D9 D)
include K
theorem AkY(P:Pt->Bool)(l:List Pt)(hl:l.length<=1000000000)(hP:∀ p∈l,D.ask (.fn 141) [.agg (eP p)] []=Θ (bv (P p),[])):∀(m i:Nat),l.length-i=m->i<=l.length->
  D.ask (.lp 199 0) [.sl 0 0 l.length 3,fnZ,iv (l.length:Int),iv (i:Int)] [δ (Ag eP l) Δ Δ]
   = if i+(l.drop i).findIdx P<l.length then Θ (.tup [bv Δ,.sl 0 0 l.length 3,iv ((i+(l.drop i).findIdx P:Nat):Int)],[.set (δ (Ag eP l) Δ Δ)]) else Θ (.tup [iv 0,.sl 0 0 l.length 3],[.set (δ (Ag eP l) Δ Δ)]):=by
 intro m
 induction m with
 |zero=>
  intro i hm hi;rw[if_neg (by omega)];refine Ax K On (RD ..) ?_;exact Ak rfl
 |succ m ih=>
  intro i hm hi;have h1:i<l.length:=by omega
  have g:=hP l[i] (Ast h1);have ih':=ih (i+1) (by omega) (by omega);rw[ο h1,AtV]
  cases hp:P l[i]with
  |true=>
   rw[hp]at g;rw[if_pos (by simpa using h1)];refine Ax K On (RD ..) ?_;refine Ap ?_;rw[Au,AN h1];refine Ac ?_;refine(Bm Ay l i h1 _).trans ?_;simp only[eP,eN,ND,DK,Aa];refine Ab g ?_;simp only[ND,DK,Aa];rfl
  |false=>
   rw[hp]at g;rw[show (bif Φ then 0 else(l.drop (i+1)).findIdx P+1)=(l.drop (i+1)).findIdx P+1 from rfl,show i+((l.drop (i+1)).findIdx P+1)=i+1+(l.drop (i+1)).findIdx P by omega]
   by_cases h:i+1+(l.drop (i+1)).findIdx P<l.length
   .rw[if_pos h]at ih' ⊢
    refine Ax K On (RD ..) ?_;refine Ap ?_;rw[Au,AN h1];refine Ac ?_;refine(Bm Ay l i h1 _).trans ?_;simp only[eP,eN,ND,DK,Aa];refine Ab g ?_;simp only[ND,DK,Aa];rw[BV (by omega)];refine Ab ih' ?_;rfl
   .rw[if_neg h]at ih' ⊢
    refine Ax K On (RD ..) ?_;refine Ap ?_;rw[Au,AN h1];refine Ac ?_;refine(Bm Ay l i h1 _).trans ?_;simp only[eP,eN,ND,DK,Aa];refine Ab g ?_;simp only[ND,DK,Aa];rw[BV (by omega)];refine Ab ih' ?_;rfl
theorem AkZ(P:Pt->Bool)(l:List Pt)(hl:l.length<=1000000000)(hP:∀ p∈l,D.ask (.fn 141) [.agg (eP p)] []=Θ (bv (P p),[])) :
  D.ask (.fn 199) [.sl 0 0 l.length 3,fnZ] [δ (Ag eP l) Δ Δ]
   = Θ (iv (if l.findIdx P<l.length then(l.findIdx P:Int) else -1),[.set (δ (Ag eP l) Δ Δ)]):=by
 have g:=AkY K P l hl hP _ 0 rfl (by omega);rw[ArT,Ar5]at g;refine AC K On (ApY ..) ?_
 by_cases h:l.findIdx P<l.length
 .rw[if_pos h]at g ⊢
  refine Ab g ?_;rfl
 .rw[if_neg h]at g ⊢
  refine Ab g ?_;rfl
theorem AkE(P:Pt->Bool)(Q:Pt->Prop)(hP:∀ p,Q p->D.ask (.fn 141) [.agg (eP p)] []=Θ (bv (P p),[])):∀(m j i:Nat) (l:List Pt),l.length-j=m->i<=j->j<=l.length->l.length<=1000000000->(∀ p∈l.drop j,Q p)->
  ∃(r:List Pt) (c:Nat),D.ask (.lp 140 0) [.sl 0 0 l.length 3,fnZ,iv (i:Int),iv (j:Int)] [δ (Ag eP l) Δ Δ]
   = Θ (.tup [iv 0,.sl 0 0 l.length 3,iv (c:Int)],[.set (δ (Ag eP r) Δ Δ)])
   ∧ r.length=l.length/\c<=l.length/\r.take c=l.take i++(l.drop j).filter (λp=>!P p):=by
 intro m
 induction m with
 |zero=>
  intro j i l hm hi hj hl hq;refine⟨l,i,?_,rfl,by omega,?_⟩
  .refine Ax K Om (VE ..) ?_
   exact Ak rfl
  .rw[Ar6 (by omega),List.filter_nil,AsX]
 |succ m ih=>
  intro j i l hm hi hj hl hq;have h1:j<l.length:=by omega
  have h0:i<l.length:=by omega
  have ed:=ο h1;have g:=hP l[j] (hq _ (by rw[ed];exact υ ..));rw[ed,At4]
  cases hp:P l[j]with
  |true=>
   rw[hp]at g;obtain⟨r,c,g2,hr,hc,he⟩:=ih (j+1) i l (by omega) (by omega) (by omega) hl (λp h=>hq p (by rw[ed];exact γ _ h));refine⟨r,c,?_,hr,hc,he⟩;refine Ax K Om (VE ..) ?_;refine Ap ?_;rw[Au,AN h1];refine Ac ?_;refine(Bm Ay l j h1 _).trans ?_;simp only[eP,eN,ND,DK,Aa];refine Ab g ?_;simp only[ND,DK,Aa];rw[BV (by omega)];refine Ab g2 ?_;rfl
  |false=>
   rw[hp]at g;have hd:(l.set i l[j]).drop (j+1)=l.drop (j+1):=List.drop_set_of_lt (by omega);obtain⟨r,c,g2,hr,hc,he⟩:=ih (j+1) (i+1) (l.set i l[j]) (by rw[Asd];omega) (by omega) (by rw[Asd];omega) (by rw[Asd];exact hl) (λp h=>hq p (by rw[ed];rw[hd]at h;exact γ _ h));rw[Asd]at g2 hr hc;have s1:=Cq Ay l i h0 l[j];simp only[eP,eN]at s1;refine⟨r,c,?_,hr,hc,?_⟩
   .skip
    refine Ax K Om (VE ..) ?_;refine Ap ?_;rw[Au,AN h1];refine Ac ?_;refine(Bm Ay l j h1 _).trans ?_;simp only[eP,eN,ND,DK,Aa];refine Ab g ?_;simp only[ND,DK,Aa];rw[Au,AN h0];refine Ac ?_;rw[show ArY (0+i*3+3) (Ag eP l).length=Δ by rw[AR Ay];simp;omega];refine Ac ?_;rw[s1,BV (by omega),BV (by omega)];refine Ab g2 ?_;rfl
   .rw[he,hd,List.take_succ_eq_append_getElem (by rw[Asd];exact h0),List.getElem_set_self,List.take_set_of_le (κ _),Ar4]
    rfl
omit K in
theorem Oa(P:Pt->Bool):∀ l:List Pt,l.findIdx P<l.length->l.take (l.findIdx P)++(l.drop (l.findIdx P+1)).filter (λp=>!P p)=l.filter (λp=>!P p)
 |[],h=>by simp at h
 |x::r,h=>by
  rw[AtV]at h ⊢
  cases hp:P x with
  |true=>simp[hp]
  |false=>
   rw[hp]at h;have:=Oa P r (by simpa using h);simp only[cond_false,List.take_succ_cons,List.drop_succ_cons,At4,hp,Bool.not_false,if_true,List.cons_append];rw[this]
omit K in
theorem TB(P:Pt->Bool)(l:List Pt)(h:¬ l.findIdx P<l.length):l.filter (λp=>!P p)=l:=by
 rw[List.filter_eq_self];intro p hp
 cases e:P p with
 |false=>rfl
 |true=>exact absurd (List.findIdx_lt_length_of_exists ⟨p,hp,e⟩) h
omit K in
theorem Pf:∀(l:List Pt) (i:Nat),i<=l.length->(Ag eP l).take (i*3)=Ag eP (l.take i)
 |[],i,_=>by simp[Ag]
 |y::r,0,_=>by simp[Ag]
 |y::r,i+1,h=>by
  rw[show (i+1)*3=3+i*3 by omega]
  show (eP y++Ag eP r).take (3+i*3)=eP y++Ag eP (r.take i)
  rw[AvA,AsW (by rw[Ay];omega),Ay,show 3+i*3-3=i*3 by omega,Pf r i (by simpa using h)]
theorem Abf(P:Pt->Bool)(l:List Pt)(hl:l.length<=1000000000)(hP:∀ p∈l,D.ask (.fn 141) [.agg (eP p)] []=Θ (bv (P p),[])) :
  ∃ cells:List AV,D.ask (.fn 140) [.sl 0 0 l.length 3,fnZ] [δ (Ag eP l) Δ Δ]
   = Θ (.sl 0 0 (l.filter λp=>!P p).length 3,[.set (δ cells Δ Δ)])
   ∧ cells.take ((l.filter λp=>!P p).length*3)=Ag eP (l.filter λp=>!P p)/\(l.filter λp=>!P p).length*3<=cells.length:=by
 have g:=AkZ K P l hl hP
 by_cases h:l.findIdx P<l.length
 .rw[if_pos h]at g
  obtain⟨r,c,g2,hr,hc,he⟩:=AkE K P (λp=>p∈l) hP _ (l.findIdx P+1) (l.findIdx P) l rfl (by omega) (by omega) hl (λp hp=>List.mem_of_mem_drop hp);rw[Oa P l h]at he;have hk:(l.filter λp=>!P p).length=c:=by
   rw[←he,Asb];omega
  rw[hk,←he];refine⟨AD (Ag eP r) (0+c*3) (BQ [iv 0,bv Φ,.v (.slice Ξ 0 0)] ((l.length-c)*3)),?_,?_,?_⟩
  .refine AC K Om (AmP ..) ?_
   refine Ab g ?_;simp only[ND,DK,Aa];refine Ba ?_;rw[BV (by omega)];refine Ab g2 ?_;simp only[ND,DK,Aa];rw[Au,show IJ c l.length l.length=Δ by unfold IJ;rw[Aud hc,Aud (κ _)]];refine Ac ?_;rw[show ArY (0+c*3+(l.length-c)*3) (Ag eP r).length=Δ by rw[AR Ay];simp;omega];refine Ac ?_;rw[Au,show IJ 0 c l.length=Δ by unfold IJ;rw[Aud (AsB _),Aud hc]];rfl
  .unfold AD
   have hlen:((Ag eP r).take (0+c*3)).length=c*3:=by
    rw[Asb,AR Ay];omega
   rw[Ar4,List.take_left' hlen,Ar5,Pf r c (by omega)]
  .unfold AD
   rw[η,η,Asb,AR Ay];omega
 .rw[if_neg h]at g
  rw[TB P l h];refine⟨Ag eP l,?_,Bk Ay l rfl,by rw[AR Ay];exact κ _⟩;refine AC K Om (AmP ..) ?_;refine Ab g ?_;simp only[ND,DK,Aa];exact Bt rfl rfl
end
structure PartF (D:Orc):Prop where
 clone:∀ l:List Pt,l.length<=1000000000->D.ask (.fn 135) [.ls (l.map eP)] []=Θ (.sl 0 0 l.length 3,[.set (Ft l)])
 grow:∀ n:Nat,n<=1000000000->D.ask (.fn 262) [.v (.slice Ξ 0 0),iv (n:Int)] []=Θ (.sl 0 0 0 3,[.set (Ft [])])
section
variable (o:List Pt) (x:Pt)
theorem AhA(k:List AV->KR):EX (Ag eP (o++[x])) (0+o.length*3+0) 1 k=k [iv x.v]:=by
 have hl:=AR Ay o;rw[←Bn];unfold EX;rw[show ArY (0+o.length*3+0+1) (Ag eP o++eP x).length=Δ by rw[η,hl,Ay];simp<;>omega]
 show k (((Ag eP o++eP x).drop (0+o.length*3+0)).take 1)=_
 rw[List.drop_left' (by omega)];rfl
theorem AoG(k:List AV->KR):EX (Ag eP (o++[x])) (0+o.length*3+1) 2 k=k [bv x.z.neg,eN x.z.abs]:=by
 have hl:=AR Ay o;rw[←Bn];unfold EX;rw[show ArY (0+o.length*3+1+2) (Ag eP o++eP x).length=Δ by rw[η,hl,Ay];simp]
 show k (((Ag eP o++eP x).drop (0+o.length*3+1)).take 2)=_
 rw[List.drop_append,Au6 (by omega),show 0+o.length*3+1-(Ag eP o).length=1 by omega];rfl
theorem AoN(z:Zi):AD (Ag eP (o++[x])) (0+o.length*3+1) [bv z.neg,eN z.abs]=Ag eP (o++[⟨x.v,z⟩]):=by
 have hl:=AR Ay o;rw[←Bn,←Bn];unfold AD;rw[AvA,AsW (by omega),show 0+o.length*3+1-(Ag eP o).length=1 by omega,Au6 (by rw[η,Ay,hl];simp),AsX,Ar4];rfl
end
section
variable {D:Orc} (Kt:Knows At FS D) (Ks:Knows At D9 D) (Z:ZF D) (C:PartF D)
include Z
include Kt in
theorem Ff{z:Zi}(hz:Lz 1000000000 z):D.ask (.fn 138) [.agg (eZ z)] []=Θ (.agg (eZ (Av (zv z))),[]):=by
 refine AC Kt AiT (Apv ..) ?_;refine Ab (Z.frm z hz) ?_;rfl
include Ks in
theorem Qv{p:Pt}(hz:Lz 1000000000 p.z):D.ask (.fn 141) [.agg (eP p)] []=Θ (bv (decide (zv p.z=0)),[]):=by
 have g:=Z.sign p.z hz;refine AC Ks AiV (Apx ..) ?_;refine Ab g ?_;simp only[ND,DK,Aa]
 by_cases h:zv p.z=0
 .rw[decide_eq_true h,h]
  exact GL rfl
 .rw[decide_eq_false h]
  refine GK ?_;unfold Cu;split
  .omega
  .split
   .omega
   .omega
include Kt in
theorem Ac8{k:Nat}(ps:List Pt)(hl:ps.length<=1000000)(hk:k+ps.length<=900000000)(hz:∀ p∈ps,Lz k p.z)(r0:List (List AV))(r1:Bool)(r2:List (List AV))(k1:Bool)(k2:List (List AV)):∀(m i:Nat) (s:List (Int × Int)),ps.length-i=m->i<=ps.length->s.length<=i->(∀ q∈s,InB (k+i) q.2)->
  D.ask (.lp 62 0) [.ptr 0 0,.ptr 1 0,.ls (ps.map eP),iv (ps.length:Int),iv (i:Int)] [⟨[.ls r0,bv r1,.ls r2],Δ,Φ⟩,⟨[.sl 2 0 (s.map AJ).reverse.length 3,bv k1,.ls k2],Δ,Φ⟩,Ft (s.map AJ).reverse]
   = Θ (.tup [iv 0,.ptr 0 0,.ptr 1 0],[.set ⟨[.ls r0,bv r1,.ls r2],Δ,Φ⟩,.set ⟨[.sl 3 0 ((((ps.drop i).map pv).foldl C0 s).map AJ).reverse.length 3,bv k1,.ls k2],Δ,Φ⟩,.del,.set (Ft ((((ps.drop i).map pv).foldl C0 s).map AJ).reverse)]):=by
 intro m
 induction m with
 |zero=>
  intro i s hm hi hs hb;rw[Ar6 (by omega),Atl,List.foldl_nil];refine Ax Kt Ab9 (AiD ..) ?_;exact Ak rfl
 |succ m ih0=>
  intro i s hm hi hs hb;have h1:i<ps.length:=by omega
  have hzk:=hz ps[i] (Ast h1);have hzi:=hzk.mono (show k<=1000000000 by omega);rw[ο h1,Ar7,Atm];have ih:=ih0 (i+1) (C0 s (pv ps[i])) (by omega) (by omega) (by have:=HI s (pv ps[i]);omega) (HE hb (hzk.inb.mono (show k<=k+i by omega)));refine Ax Kt Ab9 (AiD ..) ?_;refine Ap ?_;rw[Au,AB (φ h1)];simp only[eP,eN,ND,DK,Aa];generalize hS:((ps.drop (i+1)).map pv).foldl C0 (C0 s (pv ps[i]))=S at ih ⊢
  by_cases hneg:ps[i].v<0
  .have e:C0 s (pv ps[i])=s:=by
    have hn:(pv ps[i]).1<0:=hneg
    cases s with
    |nil=>rw[EC,if_pos hn]
    |cons q r=>rw[DP,if_pos hn]
   rw[e]at ih;refine Ap ?_ hneg;rw[BV (by omega)];refine Ab ih ?_;rfl
  have hn:¬(pv ps[i]).1<0:=hneg;refine Ak ?_ hneg
  cases s with
  |nil=>
   rw[EC,if_neg hn]at ih;refine CA ?_ (by decide);obtain⟨o,ho0⟩:∃ o:List Pt,o=[]:=⟨_,rfl⟩;have eo:(([pv ps[i]].map AJ).reverse)=o++[AJ (pv ps[i])]:=by rw[ho0];rfl
   rw[eo]at ih;have ho:o.length<=i:=by rw[ho0];exact AsB _
   rw[show ((([]:List (Int × Int)).map AJ).reverse)=o from ho0.symm];have hf:Bj (o.length+1) 40=Δ:=AY (by omega) (by omega);have hb1:ArY (0+o.length*3) (Ag eP o).length=Δ:=A1 Ay o (by omega);have e3:ArV 0 (ArQ (0+o.length*3) (Ag eP o))++[iv ps[i].v,bv (Av (zv ps[i].z)).neg,eN (Av (zv ps[i].z)).abs]=Ag eP (o++[AJ (pv ps[i])]):=by
    rw[ArT,Bk Ay o (by omega)];exact Bn eP o (AJ (pv ps[i]))
   refine Ab (Ff Kt Z hzi) ?_;simp only[eZ,eN,ND,DK,Aa]at e3 ⊢;rw[hf];refine Ac ?_;rw[hb1];refine Ac ?_;rw[e3,BV (by omega)];rw[η,Asi]at ih;refine Ab ih ?_;rfl
  |cons q r=>
   have eo:(((q::r).map AJ).reverse)=(r.map AJ).reverse++[AJ q]:=by simp
   have hq:=hb q (υ ..);rw[eo];rw[DP,if_neg hn]at ih;have hro:(r.map AJ).reverse.length<=i:=by simp at hs ⊢;omega
   by_cases heq:q.1=(pv ps[i]).1
   .rw[if_pos heq,Ar7,Aun]at ih
    generalize (r.map AJ).reverse=o at hro ih ⊢;have e1:Ae.sub .i64 (((o++[AJ q]).length:Nat):Int) 1=((o.length:Nat):Int):=by
     rw[η,Asi];exact KX (by omega)
    have hlt:o.length<(o++[AJ q]).length:=by simp
    have ga:=Z.add (Av q.2) ps[i].z (hq.lz.mono (by omega)) (hzk.mono (by omega));rw[Bf]at ga;have sp:=AoN o (AJ q) (Av (q.2+zv ps[i].z));rw[e1];refine Cg ?_;rw[Au,AN hlt];refine Ac ?_;refine(AhA o (AJ q) _).trans ?_;simp only[ND,DK,Aa];refine Bt ?_ (show (AJ q).v=ps[i].v from heq);rw[Au,AN hlt];refine Ac ?_;refine(AoG o (AJ q) _).trans ?_;simp only[eN,ND,DK,Aa];refine Ab ga ?_;simp only[eZ,eN,ND,DK,Aa]at sp ⊢;rw[Au,AN hlt];refine Ac ?_;rw[show ArY (0+o.length*3+1+2) (Ag eP (o++[AJ q])).length=Δ by rw[AR Ay];simp;omega];refine Ac ?_;rw[sp,BV (by omega)];have el:(o++[AJ q]).length=(o++[AJ (q.1,q.2+(pv ps[i]).2)]).length:=by simp
    rw[el];refine Ab ih ?_;rfl
   .rw[if_neg heq,Ar7,Aun,eo]at ih
    have hlen:((r.map AJ).reverse++[AJ q]).length<=i:=by simp at hs ⊢;omega
    have e1:Ae.sub .i64 ((((r.map AJ).reverse++[AJ q]).length:Nat):Int) 1=(((r.map AJ).reverse.length:Nat):Int):=by
     rw[η,Asi];exact KX (by omega)
    have hlt:(r.map AJ).reverse.length<((r.map AJ).reverse++[AJ q]).length:=by simp
    rw[e1];refine Cg ?_;rw[Au,AN hlt];refine Ac ?_;refine(AhA _ (AJ q) _).trans ?_;simp only[ND,DK,Aa];refine Ba ?_ (show ¬(AJ q).v=ps[i].v from heq);generalize (r.map AJ).reverse++[AJ q]=o at hlen ih ⊢;have ho:=hlen;have hf:Bj (o.length+1) 40=Δ:=AY (by omega) (by omega);have hb1:ArY (0+o.length*3) (Ag eP o).length=Δ:=A1 Ay o (by omega);have e3:ArV 0 (ArQ (0+o.length*3) (Ag eP o))++[iv ps[i].v,bv (Av (zv ps[i].z)).neg,eN (Av (zv ps[i].z)).abs]=Ag eP (o++[AJ (pv ps[i])]):=by
     rw[ArT,Bk Ay o (by omega)];exact Bn eP o (AJ (pv ps[i]))
    refine Ab (Ff Kt Z hzi) ?_;simp only[eZ,eN,ND,DK,Aa]at e3 ⊢;rw[hf];refine Ac ?_;rw[hb1];refine Ac ?_;rw[e3,BV (by omega)];rw[η,Asi]at ih;refine Ab ih ?_;rfl
include Kt Ks C in
theorem EK{n k:Nat}{t:Tm}(h:TmB n k t)(hn:n<=1000000)(hk:k+n<=900000000):D.ask (.fn 62) [.agg (eT t)] []=Θ (.agg (eT t.lf.pln.tm),[]):=by
 obtain⟨ps,kz⟩:=t;have hlen:ps.length<=n:=h.len;obtain⟨r,gs,gr,gp,go⟩:=UY Ks (l:=ps) (by omega);have gc:=C.clone ps (by omega);have gk:=Ff Kt Z (h.k.mono (show k<=1000000000 by omega));have hzr:∀ p∈r,Lz k p.z:=λp hp=>h.ps p (gp.mem_iff.1 hp)
 have gl:=Ac8 Kt Z r (k:=k) (by omega) (by omega) hzr [] Φ [] (Av (zv kz)).neg ((Av (zv kz)).abs.map eL) _ 0 [] rfl (by omega) (by simp) (by simp);rw[ArT]at gl;have hsrt:(r.map pv).Pairwise λa b=>a.1<=b.1:=by
  rw[AtX];exact E0 Pt.v go
 have hpl:=RQ hsrt (gp.map pv);generalize hS:(r.map pv).foldl C0 []=S at gl hpl;have hsb:∀ p∈((S.map AJ).reverse),Lz 1000000000 p.z:=by
  have key:∀(t s:List (Int × Int)) (j:Nat),(∀ q∈s,InB (k+j) q.2)->(∀ q∈t,InB k q.2)->∀ q∈t.foldl C0 s,InB (k+j+t.length) q.2:=by
   intro t
   induction t with
   |nil=>intro s j hs _ q hq;exact hs q hq
   |cons p t ih=>
    intro s j hs ht q hq;have:=ih (C0 s p) (j+1) (HE hs ((ht p (υ ..)).mono (show k<=k+j by omega))) (λq hq=>ht q (γ _ hq)) q hq;rw[ε];exact this.mono (by omega)
  intro p hp;rw[Auv,Asj]at hp;obtain⟨q,hq,rfl⟩:=hp;have:=key (r.map pv) [] 0 (by simp) (λq hq=>by
   rw[Asj]at hq;obtain⟨p,hp,rfl⟩:=hq;exact(hzr p hp).inb) q (by rw[hS];exact hq)
  rw[Ar2]at this;exact(this.lz).mono (by omega)
 have hSl:S.length<=1000000:=by
  have key:∀(t s:List (Int × Int)),(t.foldl C0 s).length<=s.length+t.length:=by
   intro t
   induction t with
   |nil=>intro s;simp
   |cons p t ih=>
    intro s;have:=ih (C0 s p);have h2:=HI s p;rw[Atm,ε];omega
  have:=key (r.map pv) [];rw[hS,Ar2]at this;simp at this;omega
 obtain⟨cells,gd,gt,gle⟩:=Abf Ks (λp=>decide (zv p.z=0)) (S.map AJ).reverse (by simp;omega) λp hp=>Qv Ks Z (hsb p hp)
 have hfin:((S.map AJ).reverse).filter (λp=>!decide (zv p.z=0))=(AG (ps.map pv)).map AJ:=by
  rw[←hpl,←List.map_reverse,List.filter_map]
  congr 1
  refine List.filter_congr λq _=>?_
  show (!decide (zv (Av q.2)=0))=_
  rw[Bf]
 rw[hfin]at gd gt gle;refine AC Kt Ab9 (e62 ..) ?_;refine Ab gc ?_;simp only[ND,DK,Aa];refine Ab gs ?_;simp only[ND,DK,Aa];refine Ab gk ?_;simp only[eZ,eN,ND,DK,Aa];rw[show ArY (0+ps.length*3) (Ag eP r).length=Δ from A1 Ay r (by omega)];refine Ac ?_;rw[Bw Ay r (by omega),←gr];refine Ab gl ?_;simp only[ND,DK,Aa];refine Ab gd ?_;simp only[ND,DK,Aa];rw[show ArY (0+((AG (ps.map pv)).map AJ).length*3) cells.length=Δ by simp;simp at gle;omega];refine Ac ?_;rw[gt,CE Ay];rfl
end
section
open Go.RowKit
def QD:MFn:=AU [⟨36,(mB 3593),[],[],[(1,((mB 9),([],[])))]⟩,⟨36,(mB 234881088),[(6,3)],[],[(3,((mB 64),([],[])))]⟩] 230
def Mo:Hnt:=⟨[(262,(.sl 0 3,[.row Δ]))],[(0,[(1,([.ls,.int .i64],[]))]),(1,[(3,([.sl 1 3],[.del,.row Δ]))])],[(13,[.ls]),(14,[.ls]),(29,[.ls]),(30,[.ls])]⟩
def Ajx:MFn:=AU [] 125
def AiN:Hnt:=⟨[(138,(.agg AK,[]))],[],[(3,AK)]⟩
def AjV:MFn:=AU [] 185
def Ajb:Hnt:=⟨[(62,(.agg B7,[])),(139,(.agg AK,[])),(230,(.ls,[]))],[],[(6,[.ls]),(8,[.ls]),(12,AK),(14,AK)]⟩
def Aok:MFn:=AU [] 68
def Ant:Hnt:=⟨[(126,(.agg AK,[])),(148,(.agg B7,[]))],[],[(3,B7)]⟩
def XL:MFn:=AU [⟨35,(mB 114744),[(1000005,3)],[3,4],[(1,((mB 48),([],[3])))]⟩] 148
def TP:Hnt:=⟨[(62,(.agg B7,[])),(158,(.agg AK,[]))],[(0,[(1,([.ptr 1 0,.ptr 2 0],[.del,.box B7,.box [.sl 4 3,.bool,.ls],.del,.row Δ]))])],[(9,AK),(10,AK),(14,[.ls]),(18,Br),(19,Br),(21,[.ls]),(23,[.int .i64]),(25,AK),(26,AK),(33,B7)]⟩
def Ajz:MFn:=AU [] 127
def AiP:Hnt:=⟨[(68,(.agg B7,[])),(185,(.agg B7,[]))],[],[(5,B7),(6,B7)]⟩
def Aoc:MFn:=AU [] 27
def Anl:Hnt:=⟨[(62,(.agg B7,[]))],[],[(3,B7)]⟩
def Aod:MFn:=AU [] 28
def Anm:Hnt:=⟨[(62,(.agg B7,[]))],[],[(3,B7)]⟩
def KZ:List (Nat × MFn):=[(230,QD),(125,Ajx),(185,AjV),(68,Aok),(148,XL),(127,Ajz),(27,Aoc),(28,Aod)]
variable (A:Ar) (D:Orc)
theorem Ap8(x0:Rw):BY A D At Mo .n 230 QD [Ψ x0] [] =
 Af D (ArW 230 0) [Ψ x0,iv 0,Ψ x0,iv ↑(Al x0),iv 0] [] [.t,.C,.x,.X,.Y] λc l o=>
 br (Bo 1 c)
 (dk [.L,.I,.N,.E] [.l l,.o o] λxs n=>
 Af D (ψ 262) [AV.v (Value.slice Ξ 0 0),iv n] [] [.q 0 3,.R,.X,.E] λn1 cs1=>
 Af D (ArW 230 1) [χ 0 0 n1 3,Ψ xs,iv ↑(Al xs),iv 0] [δ cs1 Δ Δ] [.t,.C,.x,.X,.Y] λc2 l4 o2=>
 br (Bo 3 c2)
 (dk [.C,.q 1 3,.N,.D,.R,.X,.E] [.l l4,.o o2] λn2 cs3=>
 br ((0+n2*3).ble cs3.length) (Θ ((Ψ (Be n2 3 (ArQ (n2*3) cs3)),[]))) Ξ)
 (Ξ))
 (Ξ):=by kernel_rfl
theorem Aby(t0:Rw)(t3:Int)(t9:Rw)(t10 t11:Int):Dy A D At Mo .n 230 0 (AZ QD 0).fst (AZ QD 0).snd [Ψ t0,iv t3,Ψ t9,iv t10,iv t11] [] =
 br (A.lt t11 t10)
 (unI t11 λi=>
 BH t9 i λcs=>
 dk [.L,.N] [.l cs] λxs=>
 br (A.lt (A.add θ t3 ↑(Al xs)) 0)
 (Ξ)
 (AF D (ArW 230 0) [Ψ t0,iv (A.add θ t3 ↑(Al xs)),Ψ t9,iv t10,iv (A.add θ t11 1)] [] λr o=>
 AW 0 [] (AH.mk [] 0 Ξ) [] r o))
 (Θ ((ι [iv 0,Ψ t0,iv t3],[]))):=by kernel_rfl
theorem Abz(n6:Nat)(c6:List AV)(t25:Rw)(t26 t27:Int):Dy A D At Mo .n 230 1 (AZ QD 1).fst (AZ QD 1).snd [χ 0 0 n6 3,Ψ t25,iv t26,iv t27] [{ cells:=c6,st:=Δ,ex:=Δ }] =
 br (A.lt t27 t26)
 (unI t27 λi=>
 BH t25 i λcs=>
 dk [.L,.N] [.l cs] λxs=>
 br (CU 3 xs) (br ((Al xs).beq 0)
 (AF D (ArW 230 1) [χ 0 0 n6 3,Ψ t25,iv t26,iv (A.add θ t27 1)] [δ c6 Δ Δ] λr o=>
 AW 1 [0] (AH.mk [(0,δ c6 Δ Δ)] 1 Ξ) [] r o)
 (br (EJ (B8 xs)) (br (Bj (n6+Al xs) 40) (br ((0+n6*3).ble c6.length) (AF D (ArW 230 1) [χ 0 0 (n6+Al xs) 3,Ψ t25,iv t26,iv (A.add θ t27 1)] [δ (ArV 0 (ArQ (0+n6*3) c6)++B8 xs) Δ Δ] λr o=>
 AW 1 [1] (AH.mk [(1,δ (ArV 0 (ArQ (0+n6*3) c6)++B8 xs) Δ Δ)] 2 Ξ) [0] r o) Ξ) Ξ) Ξ)) Ξ)
 (Θ ((ι [iv 2,χ 1 0 n6 3],[BO.del,ArU (δ c6 Δ Δ)]))):=by kernel_rfl
theorem Apn(x0_0:Bool)(x0_1:Rw):BY A D At AiN .n 125 Ajx [ω [bv x0_0,Ψ x0_1]] [] =
 Af D (ψ 138) [ω [bv x0_0,Ψ x0_1]] [] [.a,.B,.L,.N,.E] λb xs=>
 Θ ((ω [Ψ [],bv b,Ψ xs],[])):=by kernel_rfl
theorem ApS(x0_0:Rw)(x0_1:Bool)(x0_2 x1_0:Rw)(x1_1:Bool)(x1_2:Rw):BY A D At Ajb .n 185 AjV [ω [Ψ x0_0,bv x0_1,Ψ x0_2],ω [Ψ x1_0,bv x1_1,Ψ x1_2]] [] =
 Af D (ψ 230) [Ψ [[Ψ x0_0],[Ψ x1_0]]] [] [.l,.E] λxs=>
 Af D (ψ 139) [ω [bv x0_1,Ψ x0_2],ω [bv x1_1,Ψ x1_2]] [] [.a,.B,.L,.N,.E] λb xs1=>
 Af D (ψ 62) [ω [Ψ xs,bv b,Ψ xs1]] [] [.a,.L,.B,.L,.N,.E] λxs2 b1 xs3=>
 Θ ((ω [Ψ xs2,bv b1,Ψ xs3],[])):=by kernel_rfl
theorem e68(x0_0:Rw)(x0_1:Bool)(x0_2:Rw):BY A D At Ant .n 68 Aok [ω [Ψ x0_0,bv x0_1,Ψ x0_2]] [] =
 Af D (ψ 126) [iv (-1)] [] [.a,.B,.L,.N,.E] λb xs=>
 Af D (ψ 148) [ω [Ψ x0_0,bv x0_1,Ψ x0_2],ω [bv b,Ψ xs]] [] [.a,.L,.B,.L,.N,.E] λxs1 b1 xs2=>
 Θ ((ω [Ψ xs1,bv b1,Ψ xs2],[])):=by kernel_rfl
theorem ApD(x0_0:Rw)(x0_1:Bool)(x0_2:Rw)(x1_0:Bool)(x1_1:Rw):BY A D At TP .n 148 XL [ω [Ψ x0_0,bv x0_1,Ψ x0_2],ω [bv x1_0,Ψ x1_1]] [] =
 Af D (ψ 158) [ω [bv x0_1,Ψ x0_2],ω [bv x1_0,Ψ x1_1]] [] [.a,.B,.L,.N,.E] λb xs=>
 Af D (ArW 148 0) [Asm 0 0,Asm 1 0,Asm 2 0,Ψ x0_0,iv ↑(Al x0_0),iv 0] [bk [bv x1_0,Ψ x1_1],bk [Ψ [],bv Φ,Ψ []],bk [χ 3 0 0 3,bv b,Ψ xs],δ [] Δ Δ] [.t,.C,.x,.X,.Y] λc l2 o1=>
 br (Bo 1 c)
 (dk [.P 1 0,.P 2 0,.N,.D,.T,.L,.B,.L,.N,.T,.C,.q 4 3,.B,.L,.N,.D,.R,.X,.E] [.l l2,.o o1] λ_ _ _ n b2 xs3 cs4=>
 br ((0+n*3).ble cs4.length) (AF D (ψ 62) [ω [Ψ (Be n 3 (ArQ (n*3) cs4)),bv b2,Ψ xs3]] [] λr2 o2=>
 dk [.a,.L,.B,.L,.N,.E] [.v r2,.o o2] λxs4 b3 xs5=>
 Θ ((ω [Ψ xs4,bv b3,Ψ xs5],[]))) Ξ)
 (Ξ):=by kernel_rfl
theorem Abh(i0:Bool)(i1 r0:Rw)(r1:Bool)(r2:Rw)(n5:Nat)(k1:Bool)(k2:Rw)(c5:List AV)(t14:Rw)(t15 t16:Int):Dy A D At TP .n 148 0 (AZ XL 0).fst (AZ XL 0).snd [Asm 0 0,Asm 1 0,Asm 2 0,Ψ t14,iv t15,iv t16] [bk [bv i0,Ψ i1],bk [Ψ r0,bv r1,Ψ r2],bk [χ 3 0 n5 3,bv k1,Ψ k2],{ cells:=c5,st:=Δ,ex:=Δ }] =
 br (A.lt t16 t15)
 (unI t16 λi=>
 BH t14 i λcs=>
 dk [.I,.B,.L,.N] [.l cs] λn b xs=>
 Af D (ψ 158) [ω [bv b,Ψ xs],ω [bv i0,Ψ i1]] [] [.a,.B,.L,.N,.E] λb1 xs1=>
 br (Bj (n5+1) 40) (br ((0+n5*3).ble c5.length) (AF D (ArW 148 0) [Asm 0 0,Asm 1 0,Asm 2 0,Ψ t14,iv t15,iv (A.add θ t16 1)] [bk [bv i0,Ψ i1],bk [Ψ r0,bv r1,Ψ r2],bk [χ 3 0 (n5+1) 3,bv k1,Ψ k2],δ (ArV 0 (ArQ (0+n5*3) c5)++[iv n,bv b1,Ψ xs1]) Δ Δ] λr3 o1=>
 AW 4 [0,1,2,6] (AH.mk [(1,bk [Ψ r0,bv r1,Ψ r2]),(0,bk [bv i0,Ψ i1]),(2,bk [χ 6 0 (n5+1) 3,bv k1,Ψ k2]),(6,δ (ArV 0 (ArQ (0+n5*3) c5)++[iv n,bv b1,Ψ xs1]) Δ Δ),(5,δ [iv n,bv b1,Ψ xs1] Δ Δ),(4,bk [iv n,bv b,Ψ xs])] 7 Ξ) [3,2,0,1] r3 o1) Ξ) Ξ)
 (Θ ((ι [iv 0,Asm 1 0,Asm 2 0],[BO.del,ArU (bk [Ψ r0,bv r1,Ψ r2]),ArU (bk [χ 4 0 n5 3,bv k1,Ψ k2]),BO.del,ArU (δ c5 Δ Δ)]))):=by kernel_rfl
theorem Apq(x0_0:Rw)(x0_1:Bool)(x0_2 x1_0:Rw)(x1_1:Bool)(x1_2:Rw):BY A D At AiP .n 127 Ajz [ω [Ψ x0_0,bv x0_1,Ψ x0_2],ω [Ψ x1_0,bv x1_1,Ψ x1_2]] [] =
 Af D (ψ 68) [ω [Ψ x1_0,bv x1_1,Ψ x1_2]] [] [.a,.L,.B,.L,.N,.E] λxs b xs1=>
 Af D (ψ 185) [ω [Ψ x0_0,bv x0_1,Ψ x0_2],ω [Ψ xs,bv b,Ψ xs1]] [] [.a,.L,.B,.L,.N,.E] λxs2 b1 xs3=>
 Θ ((ω [Ψ xs2,bv b1,Ψ xs3],[])):=by kernel_rfl
theorem e27(x0_0:Rw)(x0_1:Bool)(x0_2:Rw):BY A D At Anl .n 27 Aoc [ω [Ψ x0_0,bv x0_1,Ψ x0_2]] [] =
 Af D (ψ 62) [ω [Ψ x0_0,bv x0_1,Ψ x0_2]] [] [.a,.L,.B,.L,.N,.E] λxs b xs1=>
 Θ ((ω [Ψ xs,bv b,Ψ xs1,bv Δ],[])):=by kernel_rfl
theorem e28(x0_0:Rw)(x0_1:Bool)(x0_2:Rw):BY A D At Anm .n 28 Aod [ω [Ψ x0_0,bv x0_1,Ψ x0_2]] [] =
 Af D (ψ 62) [ω [Ψ x0_0,bv x0_1,Ψ x0_2]] [] [.a,.L,.B,.L,.N,.E] λxs b xs1=>
 Θ ((ω [Ψ xs,bv b,Ψ xs1,bv Φ],[])):=by kernel_rfl
end
def eR(r:List Pt):List AV:=[.ls (r.map eP)]
theorem Ws(p:Pt):EJ (eP p)=Δ:=rfl
def scP(x:Zi)(p:Pt):Pt:=⟨p.v,Av (zv p.z*zv x)⟩
theorem Akq{a b:Nat}(h:a+b<4611686018427387904):Ae.add .i64 (a:Int) (b:Int)=((a+b:Nat):Int):=by
 rw[EM (by omega) (by omega)];omega
section
variable {D:Orc} (Kt:Knows At FS D) (Kf:Knows At KZ D) (Ks:Knows At D9 D) (Z:ZF D) (C:PartF D)
include Kf
theorem Akz(rs:List (List Pt))(X:List (List AV))(hr:rs.length<=1000000):∀(m i s:Nat),rs.length-i=m->i<=rs.length->s+(rs.drop i).flatten.length<=1000000000->
  D.ask (.lp 230 0) [.ls X,iv (s:Int),.ls (rs.map eR),iv (rs.length:Int),iv (i:Int)] []=Θ (.tup [iv 0,.ls X,iv ((s+(rs.drop i).flatten.length:Nat):Int)],[]):=by
 intro m
 induction m with
 |zero=>
  intro i s hm hi hs;rw[Ar6 (by omega)];refine Ax Kf Mo (Aby ..) ?_;exact Ak rfl
 |succ m ih=>
  intro i s hm hi hs;have h1:i<rs.length:=by omega
  rw[ο h1,As6,η]at hs ⊢;have ih:=ih (i+1) (s+rs[i].length) (by omega) (by omega) (by omega);rw[show s+rs[i].length+(rs.drop (i+1)).flatten.length=s+(rs[i].length+(rs.drop (i+1)).flatten.length) by omega]at ih;refine Ax Kf Mo (Aby ..) ?_;refine Ap ?_;rw[Au,AB (φ h1)];simp only[eR,ND,DK,Aa];rw[Ao,Akq (by omega),BV (by omega)];refine Ak ?_;refine Ab ih ?_;rfl
theorem AkA(rs:List (List Pt))(hr:rs.length<=1000000):∀(m i:Nat) (out:List Pt),rs.length-i=m->i<=rs.length->out.length+(rs.drop i).flatten.length<=1000000000->
  D.ask (.lp 230 1) [.sl 0 0 out.length 3,.ls (rs.map eR),iv (rs.length:Int),iv (i:Int)] [Ft out]=Θ (.tup [iv 2,.sl 1 0 (out++(rs.drop i).flatten).length 3],[.del,.set (Ft (out++(rs.drop i).flatten))]):=by
 intro m
 induction m with
 |zero=>
  intro i out hm hi hs;rw[Ar6 (by omega),List.flatten_nil,AsX];refine Ax Kf Mo (Abz ..) ?_;exact Ak rfl
 |succ m ih=>
  intro i out hm hi hs;have h1:i<rs.length:=by omega
  rw[ο h1,As6]at hs ⊢;rw[η]at hs;have ih:=ih (i+1) (out++rs[i]) (by omega) (by omega) (by rw[η];omega);rw[Ar4]at ih;refine Ax Kf Mo (Abz ..) ?_;refine Ap ?_;rw[Au,AB (φ h1)];revert hs ih;generalize rs[i]=r;intro hs ih;simp only[eR,ND,DK,Aa];rw[IW Ay,Ao,BV (by omega)];refine Ac ?_
  by_cases h0:r=[]
  .subst h0
   rw[AsX]at ih;rw[Asg]at ih ⊢;refine Ac ?_;refine Ab ih ?_;rfl
  .have hz:Nat.beq r.length 0=Φ:=by
    cases r with
    |nil=>exact absurd rfl h0
    |cons x r=>rfl
   rw[hz];refine BX ?_;rw[Dw,Gm Ws];refine Ac ?_;rw[AY (n:=out.length+r.length) (b:=40) (by omega) (by omega)];refine Ac ?_;rw[show ArY (0+out.length*3) (Ag eP out).length=Δ from A1 Ay out (by omega)];refine Ac ?_;have e3:ArV 0 (ArQ (0+out.length*3) (Ag eP out))++Ag eP r=Ag eP (out++r):=by
    rw[ArT,Bk Ay out (by omega)];simp[Ag]
   rw[e3];rw[show (out++r).length=out.length+r.length from η]at ih;refine Ab ih ?_;rfl
include C in
theorem Y4(a b:List Pt)(h:a.length+b.length<=1000000):D.ask (.fn 230) [.ls [[.ls (a.map eP)],[.ls (b.map eP)]]] []=Θ (.ls ((a++b).map eP),[]):=by
 have hf:([a,b]).flatten=a++b:=by simp
 have g0:=Akz Kf [a,b] (([a,b]).map eR) (by simp) _ 0 0 rfl (by simp) (by rw[ArT,hf,η];omega);rw[ArT,hf,Ar5]at g0;have gg:=C.grow (a++b).length (by rw[η];omega);have g1:=AkA Kf [a,b] (by simp) _ 0 [] rfl (by simp) (by rw[ArT,hf,η];simp;omega);rw[ArT,hf,Asg]at g1;refine AC Kf Mo (Ap8 ..) ?_;refine Ab g0 ?_;simp only[ND,DK,Aa];refine Ab gg ?_;simp only[ND,DK,Aa];refine Ab g1 ?_;simp only[ND,DK,Aa];rw[show ArY (0+(a++b).length*3) (Ag eP (a++b)).length=Δ from A1 Ay (a++b) (by omega)];refine Ac ?_;rw[Bw Ay (a++b) rfl];rfl
include Kt Ks Z C
theorem Akr{n m k:Nat}{a b:Tm}(ha:TmB n k a)(hb:TmB m k b)(hn:n+m<=1000000)(hk:k+1+(n+m)<=900000000):D.ask (.fn 185) [.agg (eT a),.agg (eT b)] []=Θ (.agg (eT (a.lf.add b.lf).tm),[]):=by
 obtain⟨ap,ak⟩:=a;obtain⟨bp,bk⟩:=b;have l1:ap.length<=n:=ha.len;have l2:bp.length<=m:=hb.len;have gc:=Y4 Kf C ap bp (by omega);have ga:=Z.add ak bk (ha.k.mono (by omega)) (hb.k.mono (by omega));have hT:TmB (n+m) (k+1) ⟨ap++bp,Av (zv ak+zv bk)⟩:=by
  refine⟨by simp;omega,λp hp=>?_,?_⟩
  .rcases List.mem_append.1 hp with h|h
   .exact(ha.ps p h).mono (by omega)
   .exact(hb.ps p h).mono (by omega)
  .exact(InB.add ha.k.inb hb.k.inb).lz
 have gp:=EK Kt Ks Z C hT hn (by omega);have el:(⟨ap++bp,Av (zv ak+zv bk)⟩:Tm).lf.pln=Lf.add (Tm.lf ⟨ap,ak⟩) (Tm.lf ⟨bp,bk⟩):=by
  unfold Lf.add Tm.lf;simp only[List.map_append,Bf]
 rw[el]at gp;refine AC Kf Ajb (ApS ..) ?_;refine Ab gc ?_;simp only[ND,DK,Aa];refine Ab ga ?_;simp only[eZ,eN,ND,DK,Aa];refine Ab gp ?_;rfl
omit Kt Ks C in
theorem AdJ{k j:Nat}{x:Zi}(hx:Lz j x)(hx24:x.abs.length<24)(ps:List Pt)(hl:ps.length<=1000000)(hz:∀ p∈ps,Lz k p.z)(hk:k<=400000000)(hj:j<=400000000)(r0:List (List AV))(r1:Bool)(r2:List (List AV))(k1:Bool)(k2:List (List AV)):∀(m i:Nat) (out:List Pt),ps.length-i=m->i<=ps.length->out.length<=i->
  D.ask (.lp 148 0) [.ptr 0 0,.ptr 1 0,.ptr 2 0,.ls (ps.map eP),iv (ps.length:Int),iv (i:Int)] [⟨eZ x,Δ,Φ⟩,⟨[.ls r0,bv r1,.ls r2],Δ,Φ⟩,⟨[.sl 3 0 out.length 3,bv k1,.ls k2],Δ,Φ⟩,Ft out]
   = Θ (.tup [iv 0,.ptr 1 0,.ptr 2 0],[.del,.set ⟨[.ls r0,bv r1,.ls r2],Δ,Φ⟩,.set ⟨[.sl 4 0 (out++(ps.drop i).map (scP x)).length 3,bv k1,.ls k2],Δ,Φ⟩,.del,.set (Ft (out++(ps.drop i).map (scP x)))]):=by
 intro m
 induction m with
 |zero=>
  intro i out hm hi ho;rw[Ar6 (by omega),Atl,AsX];refine Ax Kf TP (Abh ..) ?_;exact Ak rfl
 |succ m ih=>
  intro i out hm hi ho;have h1:i<ps.length:=by omega
  have hzk:=hz ps[i] (Ast h1);have gm:=Z.mul ps[i].z x (hzk.mono (by omega)) (hx.mono (by omega)) (.inr hx24);rw[ο h1,Ar7];have ih:=ih (i+1) (out++[scP x ps[i]]) (by omega) (by omega) (by simp;omega);rw[Ar4,List.singleton_append,show (out++[scP x ps[i]]).length=out.length+1 by simp]at ih;have hf:Bj (out.length+1) 40=Δ:=AY (by omega) (by omega);have hb1:ArY (0+out.length*3) (Ag eP out).length=Δ:=A1 Ay out (by omega);have e3:ArV 0 (ArQ (0+out.length*3) (Ag eP out))++[iv ps[i].v,bv (Av (zv ps[i].z*zv x)).neg,eN (Av (zv ps[i].z*zv x)).abs]=Ag eP (out++[scP x ps[i]]):=by
   rw[ArT,Bk Ay out (by omega)];exact Bn eP out (scP x ps[i])
  obtain⟨xn,xa⟩:=x;refine Ax Kf TP (Abh ..) ?_;refine Ap ?_;rw[Au,AB (φ h1)];simp only[eP,eN,ND,DK,Aa];refine Ab gm ?_;simp only[eZ,eN,ND,DK,Aa]at e3 ⊢;rw[hf];refine Ac ?_;rw[hb1];refine Ac ?_;rw[e3,BV (by omega)];refine Ab ih ?_;rfl
theorem AdK{n k j:Nat}{a:Tm}{x:Zi}(ha:TmB n k a)(hx:Lz j x)(hx24:x.abs.length<24)(hn:n<=1000000)(hj:j<=23)(hk:k+j+n<=400000000):D.ask (.fn 148) [.agg (eT a),.agg (eZ x)] []=Θ (.agg (eT (a.lf.scale (zv x)).tm),[]):=by
 obtain⟨ap,ak⟩:=a;have l1:ap.length<=n:=ha.len;have gm:=Z.mul ak x (ha.k.mono (by omega)) (hx.mono (by omega)) (.inr hx24);have gl:=AdJ Kf Z hx hx24 ap (by omega) ha.ps (by omega) (by omega) [] Φ [] (Av (zv ak*zv x)).neg ((Av (zv ak*zv x)).abs.map eL) _ 0 [] rfl (by omega) (by simp);rw[ArT,Asg]at gl;have hT:TmB n (k+j) ⟨ap.map (scP x),Av (zv ak*zv x)⟩:=by
  refine⟨by simpa using l1,λp hp=>?_,(InB.mul ha.k.inb hx.inb).lz⟩;rw[Asj]at hp;obtain⟨q,hq,rfl⟩:=hp;exact(InB.mul (ha.ps q hq).inb hx.inb).lz
 have gp:=EK Kt Ks Z C hT hn (by omega);have el:(⟨ap.map (scP x),Av (zv ak*zv x)⟩:Tm).lf.pln=Lf.scale (Tm.lf ⟨ap,ak⟩) (zv x):=by
  unfold Lf.scale Tm.lf;simp only[List.map_map,Bf]
  congr 2
  refine List.map_congr_left λp _=>?_
  show ((p.v,zv (Av (zv p.z*zv x))):Int × Int)=_
  rw[Bf];rfl
 rw[el]at gp;obtain⟨xn,xa⟩:=x;refine AC Kf TP (ApD ..) ?_;refine Ab gm ?_;simp only[eZ,eN,ND,DK,Aa,Ao];refine Ab gl ?_;simp only[ND,DK,Aa];rw[show ArY (0+(ap.map (scP ⟨xn,xa⟩)).length*3) (Ag eP (ap.map (scP ⟨xn,xa⟩))).length=Δ from A1 Ay _ (by omega)];refine Ac ?_;rw[Bw Ay _ rfl];refine Ab gp ?_;rfl
theorem Wm{n k:Nat}{a:Tm}(ha:TmB n k a)(hn:n<=1000000)(hk:k+1+n<=400000000):D.ask (.fn 68) [.agg (eT a)] []=Θ (.agg (eT (a.lf.scale (-1)).tm),[]):=by
 have g1:=Z.of_ (-1) (by omega) (by omega);have hx:Lz 1 (Av (-1)):=InB.lz (by unfold InB;decide);have g2:=AdK Kt Kf Ks Z C ha hx (by have:=hx.len;omega) hn (by omega) hk;rw[Bf]at g2;refine AC Kf Ant (e68 ..) ?_;refine Ab g1 ?_;simp only[eZ,eN,ND,DK,Aa];refine Ab g2 ?_;rfl
theorem WP{n m k:Nat}{a b:Tm}(ha:TmB n k a)(hb:TmB m k b)(hn:n+m<=1000000)(hk:k+2+2*(n+m)<=400000000):D.ask (.fn 127) [.agg (eT a),.agg (eT b)] []=Θ (.agg (eT (a.lf.sub b.lf).tm),[]):=by
 have g1:=Wm Kt Kf Ks Z C hb (by omega) (by omega);have hn1:LB m (k+1+m) (b.lf.scale (-1)):=hb.lb.scale (by unfold InB;decide);have g2:=Akr Kt Kf Ks Z C (ha.mono (κ _) (show k<=k+1+m by omega)) hn1.tb hn (by omega);rw[Cd]at g2;refine AC Kf AiP (Apq ..) ?_;refine Ab g1 ?_;simp only[eT,eN,ND,DK,Aa];refine Ab g2 ?_;rfl
omit Ks C in
theorem QL{z:Zi}(hz:Lz 1000000000 z):D.ask (.fn 125) [.agg (eZ z)] []=Θ (.agg (eT (Lf.num (zv z)).tm),[]):=by
 have g:=Ff Kt Z hz;refine AC Kf AiN (Apn ..) ?_;refine Ab g ?_;rfl
theorem Aiw{n k:Nat}{t:Tm}(h:TmB n k t)(hn:n<=1000000)(hk:k+n<=900000000):D.ask (.fn 27) [.agg (eT t)] []=Θ (.agg (eT t.lf.pln.tm++[bv Δ]),[]):=by
 have g:=EK Kt Ks Z C h hn hk;refine AC Kf Anl (e27 ..) ?_;refine Ab g ?_;rfl
theorem AcA{n k:Nat}{t:Tm}(h:TmB n k t)(hn:n<=1000000)(hk:k+n<=900000000):D.ask (.fn 28) [.agg (eT t)] []=Θ (.agg (eT t.lf.pln.tm++[bv Φ]),[]):=by
 have g:=EK Kt Ks Z C h hn hk;refine AC Kf Anm (e28 ..) ?_;refine Ab g ?_;rfl
end
section
open Go.RowKit
variable (A:Ar) (D:Orc)
end
inductive FB (n k:Nat):Fm->Prop
 |mk {kind:Int} {t:Tm} {e:Bool} {ks:List Fm} (ht:TmB n k t) (hl:ks.length<=1000000) (h:∀ x∈ks,FB n k x):FB n k (.mk kind t e ks)
theorem Acn{k:Int}{t:Tm}{e:Bool}{ks:List Fm}{x:Fm}(h:x∈ks):SizeOf.sizeOf x<SizeOf.sizeOf (Fm.mk k t e ks):=by
 have:=List.sizeOf_lt_of_mem h;simp only[Fm.mk.sizeOf_spec];omega
section
open Go.RowKit
def Aqz:MFn:=AU [⟨36,(mB 118),[],[2,4,5],[(1,((mB 48),([],[2])))]⟩] 77
def AqD:MFn:=AU [⟨27,(mB 118),[],[2,4,5],[(1,((mB 48),([],[2])))]⟩] 87
def Aqr:MFn:=AU [] 31
def Aqp:MFn:=AU [⟨26,(mB 133),[],[],[(0,((mB 64),([],[]))),(1,([],([],[])))]⟩] 29
def Aqs:MFn:=AU [⟨65,(mB 38),[],[2],[(0,((mB 16),([],[2]))),(2,([],([],[2])))]⟩,⟨65,(mB 70),[],[2],[(0,((mB 16),([],[2]))),(4,([],([],[2])))]⟩] 37
def AdZ:List (Nat × MFn):=[(77,Aqz),(87,AqD),(31,Aqr),(29,Aqp),(37,Aqs)]
variable (A:Ar) (D:Orc)
end

section
open Go.RowKit
def An5:MFn:=AU [⟨49,(mB 227),[(5,1)],[],[(1,((mB 98),([],[])))]⟩] 121
def Aqy:MFn:=AU [⟨29,(mB 26),[],[1,3],[(1,((mB 8),([],[1])))]⟩] 76
def Aqm:MFn:=AU [⟨35,(mB 62),[(1000003,3)],[1,2],[(1,((mB 12),([],[1])))]⟩] 20
def Aoa:MFn:=AU [⟨36,(mB 99),[(5,3)],[],[(1,((mB 34),([],[])))]⟩,⟨36,(mB 162),[(5,3)],[],[(3,((mB 32),([],[])))]⟩] 211
def An7:MFn:=AU [] 153
def Aqw:MFn:=AU [⟨41,(mB 124),[(1000005,3)],[2,3,4],[(1,((mB 48),([],[2,3])))]⟩] 73
def AqB:MFn:=AU [] 81
def AqA:MFn:=AU [] 80
def Aft:MFn:=AU [⟨57,(mB 44),[],[2,3],[(0,((mB 16),([],[2,3]))),(1,([],([],[2,3])))]⟩] 78
def RV:Hnt:=⟨[(152,(.bool,[]))],[(0,[(0,([.bool],[.del,.del])),(1,([],[.del,.del]))])],[(7,[.ls]),(10,[.ls]),(15,AK),(17,AK),(23,[.ls]),(29,[.ls]),(31,Br),(33,[.int .i64]),(35,[.ls]),(37,Br),(39,[.int .i64]),(43,[.ls]),(45,Br),(47,AK),(49,[.ls]),(51,Br),(53,AK)]⟩
def Q0:List (Nat × MFn):=[(121,An5),(76,Aqy),(20,Aqm),(211,Aoa),(153,An7),(73,Aqw),(81,AqB),(80,AqA),(78,Aft)]
variable (A:Ar) (D:Orc)
theorem e78(x0_0:Rw)(x0_1:Bool)(x0_2 x1_0:Rw)(x1_1:Bool)(x1_2:Rw):BY A D At RV .n 78 Aft [ω [Ψ x0_0,bv x0_1,Ψ x0_2],ω [Ψ x1_0,bv x1_1,Ψ x1_2]] [] =
 br (A.eq ↑(Al x0_0) ↑(Al x1_0))
 (Af D (ψ 152) [ω [bv x0_1,Ψ x0_2],ω [bv x1_1,Ψ x1_2]] [] [.b,.E] λb=>
 br b
 (Af D (ArW 78 0) [Asm 0 0,Asm 1 0,iv 0] [bk [Ψ x0_0,bv x0_1,Ψ x0_2],bk [Ψ x1_0,bv x1_1,Ψ x1_2]] [.t,.C,.x,.X,.Y] λc l o1=>
 br (Bo 0 c)
 (dk [.B,.N,.D,.D,.E] [.l l,.o o1] λb1=>
 Θ ((bv b1,[])))
 (br (Bo 1 c)
 (dk [.N,.D,.D,.E,.w] [.l l,.o o1] λ_=>
 Θ ((bv Δ,[])))
 (Ξ)))
 (Θ ((bv Φ,[]))))
 (Θ ((bv Φ,[]))):=by kernel_rfl
theorem Xp(b2_0:Rw)(b2_1:Bool)(b2_2 b3_0:Rw)(b3_1:Bool)(b3_2:Rw)(t5:Int):Dy A D At RV .n 78 0 (AZ Aft 0).fst (AZ Aft 0).snd [Asm 0 0,Asm 1 0,iv t5] [bk [Ψ b2_0,bv b2_1,Ψ b2_2],bk [Ψ b3_0,bv b3_1,Ψ b3_2]] =
 br (A.lt t5 ↑(Al b2_0))
 (unI t5 λi=>
 BH b2_0 i λcs=>
 dk [.I,.B,.L,.N] [.l cs] λn _ _=>
 unI t5 λi1=>
 BH b3_0 i1 λcs1=>
 dk [.I,.B,.L,.N] [.l cs1] λn1 _ _=>
 br (A.eq n n1)
 (unI t5 λi2=>
 BH b2_0 i2 λcs2=>
 dk [.I,.B,.L,.N] [.l cs2] λ_ b2 xs2=>
 unI t5 λi3=>
 BH b3_0 i3 λcs3=>
 dk [.I,.B,.L,.N] [.l cs3] λ_ b3 xs3=>
 Af D (ψ 152) [ω [bv b2,Ψ xs2],ω [bv b3,Ψ xs3]] [] [.b,.E] λb4=>
 br b4
 (AF D (ArW 78 0) [Asm 0 0,Asm 1 0,iv (A.add θ t5 1)] [bk [Ψ b2_0,bv b2_1,Ψ b2_2],bk [Ψ b3_0,bv b3_1,Ψ b3_2]] λr1 o1=>
 AW 2 [0,1] (AH.mk [(1,bk [Ψ b3_0,bv b3_1,Ψ b3_2]),(0,bk [Ψ b2_0,bv b2_1,Ψ b2_2])] 2 Ξ) [0,1] r1 o1)
 (Θ ((ι [bv Δ,bv Φ],[BO.del,BO.del]))))
 (Θ ((ι [bv Δ,bv Φ],[BO.del,BO.del]))))
 (Θ ((ι [iv 0],[BO.del,BO.del]))):=by kernel_rfl
end

section
open Go.RowKit
variable (A:Ar) (D:Orc)
end
structure RdF (D:Orc):Prop where
 div:∀ a b:Zi,Lz 300000000 a->Lz 300000000 b->D.ask (.fn 71) [.agg (eZ a),.agg (eZ b)] []
  = Θ (if zv b=0 then .tup [.agg [bv Φ,.ls []],.agg [bv Φ,.ls []],iv 10] else .tup [.agg (eZ (Av (qZ (zv a) (zv b)))),.agg (eZ (Av (rZ (zv a) (zv b)))),iv 0],[])
 gcd:∀ a b:Zi,Lz 900000000 a->Lz 900000000 b->D.ask (.fn 150) [.agg (eZ a),.agg (eZ b)] []=Θ (.agg (eZ (Av (Nat.gcd (zv a).natAbs (zv b).natAbs:Nat))),[])
def vc(ps:List (Int × Int))(v:Int):Int × Int:=(v,J0 ps v)
theorem WY{n k:Nat}{t:Tm}(ht:TmB n k t)(v:Int):InB (k+n) (J0 t.lf.ps v):=by
 have h:=Lj v t.lf.ps ht.lb.ps;have hl:=ht.lb.len;unfold J0;split
 .exact h.mono (by omega)
 .exact InB.zero _
def Dr(t:Tm):Nat:=Ed 0 (AG t.lf.ps)
def UV(g:Int)(p:Int × Int):Pt:=AJ (p.1,qZ p.2 g)
def Fx(t:Tm):Tm:=if Dr t=0 then t.lf.pln.tm else ⟨(AG t.lf.ps).map (UV (Dr t)),Av (qZ (zv t.k) (Dr t))⟩
section
open Go.RowKit
def AqC:MFn:=AU [⟨40,(mB 28722),[],[4,5],[(1,((mB 48),([],[])))]⟩] 86
def Aqq:MFn:=AU [] 30
def AoR:List (Nat × MFn):=[(86,AqC),(30,Aqq)]
variable (A:Ar) (D:Orc)
end
section
open Go.RowKit
variable (A:Ar) (D:Orc)
end
section
open Go.RowKit
def Zv:MFn:=AU [⟨64,(mB 133),[],[],[(0,((mB 64),([],[]))),(1,([],([],[])))]⟩,⟨64,(mB 389),[],[],[(0,((mB 64),([],[]))),(3,((mB 133),([],[])))]⟩] 16
def TR:Hnt:=⟨[],[(0,[(0,([.bool],[])),(1,([],[]))]),(1,[(0,([.bool],[])),(3,([.ls,.int .i64,.int .i64],[]))])],[(21,BL),(24,[.ls]),(30,BL),(34,[.ls]),(42,BL),(45,[.ls]),(52,BL),(55,[.ls]),(57,Br),(60,[.ls])]⟩
def Yq:List (Nat × MFn):=[(16,Zv)]
variable (A:Ar) (D:Orc)
theorem e16(x0:Rw)(x1 x2:Int):BY A D At TR .n 16 Zv [Ψ x0,iv x1,iv x2] [] =
 br (A.lt x1 ↑(Al x0))
 (Θ ((bv Φ,[])))
 (Af D (ArW 16 0) [Ψ x0,iv x2,iv 0] [] [.t,.C,.x,.X,.Y] λc l o=>
 br (Bo 0 c)
 (dk [.B,.N,.E] [.l l,.o o] λb=>
 Θ ((bv b,[])))
 (br (Bo 1 c)
 (Fr l<|
 DE o<|
 Θ ((bv Δ,[])))
 (Ξ))):=by kernel_rfl
theorem Aiz(t0:Rw)(t2 t7:Int):Dy A D At TR .n 16 0 (AZ Zv 0).fst (AZ Zv 0).snd [Ψ t0,iv t2,iv t7] [] =
 br (A.lt t7 ↑(Al t0))
 (unI t7 λi=>
 BH t0 i λcs=>
 dk [.L,.B,.L,.B,.N] [.l cs] λxs _ _ _=>
 br (A.lt 20 ↑(Al xs))
 (Θ ((ι [bv Δ,bv Φ],[])))
 (unI t7 λi1=>
 BH t0 i1 λcs1=>
 dk [.L,.B,.L,.B,.N] [.l cs1] λ_ _ xs3 _=>
 br (A.lt t2 ↑(Al xs3))
 (Θ ((ι [bv Δ,bv Φ],[])))
 (Af D (ArW 16 1) [Ψ t0,iv t2,iv t7,iv 0] [] [.t,.C,.x,.X,.Y] λc l8 o=>
 br (Bo 0 c)
 (dk [.B,.N,.E] [.l l8,.o o] λb4=>
 Θ ((ι [bv Δ,bv b4],[])))
 (br (Bo 3 c)
 (dk [.L,.I,.I,.N,.E] [.l l8,.o o] λxs4 n n1=>
 AF D (ArW 16 0) [Ψ xs4,iv n,iv (A.add θ n1 1)] [] λr1 o1=>
 AW 0 [] (AH.mk [] 0 Ξ) [] r1 o1)
 (Ξ)))))
 (Θ ((ι [iv 0],[]))):=by kernel_rfl
theorem AiA(t0:Rw)(t2 t7 t8:Int):Dy A D At TR .n 16 1 (AZ Zv 1).fst (AZ Zv 1).snd [Ψ t0,iv t2,iv t7,iv t8] [] =
 unI t7 λi=>
 BH t0 i λcs=>
 dk [.L,.B,.L,.B,.N] [.l cs] λxs _ _ _=>
 br (A.lt t8 ↑(Al xs))
 (unI t7 λi1=>
 BH t0 i1 λcs1=>
 dk [.L,.B,.L,.B,.N] [.l cs1] λxs2 _ _ _=>
 unI t8 λi2=>
 BH xs2 i2 λcs2=>
 dk [.I,.B,.L,.N] [.l cs2] λ_ _ xs4=>
 br (A.lt t2 ↑(Al xs4))
 (Θ ((ι [bv Δ,bv Φ],[])))
 (AF D (ArW 16 1) [Ψ t0,iv t2,iv t7,iv (A.add θ t8 1)] [] λr o=>
 AW 0 [] (AH.mk [] 0 Ξ) [] r o))
 (Θ ((ι [iv 2,Ψ t0,iv t2,iv t7],[]))):=by kernel_rfl
end
section
open Go.RowKit
variable (A:Ar) (D:Orc)
end
section
open Go.RowKit
variable (A:Ar) (D:Orc)
end
