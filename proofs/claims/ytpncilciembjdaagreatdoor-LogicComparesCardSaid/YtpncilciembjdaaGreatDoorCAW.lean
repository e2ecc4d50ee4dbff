/- The variables that count -/
import Derived.Test.YtpncilciembjdaaGreatDoorCAV
set_option linter.all false
open Bool renaming false->Φ,true->Δ,false_or->AvH
open Int renaming le_refl->Awi,lt_trichotomy->AvX,mul_zero->AvU,zero_mul->Awv
open List renaming append_assoc->AtK,append_nil->Auu,drop->AtD,drop_eq_getElem_cons->ε,drop_eq_nil_of_le->AtM,drop_of_length_le->AwJ,drop_zero->Aty,ext_getElem?->Aw1,filter_cons->Axa,findIdx_cons->Aw3,flatten_cons->AuL,foldl_cons->Avr,getD_eq_getElem?_getD->Avc,getElem?_drop->AuA,getElem?_eq_getElem->ξ,getElem?_set_ne->AuN,getElem?_set_self->Au1,getElem?_take->At3,getElem_mem->At1,length_append->κ,length_cons->γ,length_map->AtP,length_set->AtX,length_singleton->AtT,length_take->AtV,map_cons->At5,map_nil->AuY,mem_cons->AtC,mem_cons_of_mem->AtF,mem_cons_self->AtL,mem_filter->Au4,mem_iff_getElem?->AwL,mem_map->Auw,mem_reverse->Av8,mem_singleton->Aum,nil_append->AtZ,pairwise_cons->Aup,pairwise_map->Av0,pairwise_singleton->AwH,reverse_cons->Av1,take->ο,take_append->Axd,take_append_drop->AuB,take_of_length_le->AuD
open Nat renaming add_mul->Aue,add_zero->Aun,ble->AtG,ble_eq_true_of_le->Avp,dvd_mul_left->AwA,dvd_sub->Aw7,dvd_zero->Axz,le_of_dvd->AwS,le_refl->η,min_eq_left->Auy,min_eq_right->AwC,one_mul->AuP,strongRecOn->Au5,zero_add->AtQ,zero_le->At7,zero_mul->Avd
open Option renaming none->Ξ,some->Θ
namespace Go.Proofs.YtpncilciembjdaaGreatDoor
noncomputable section
open ABlk renaming mk->δ
open AV renaming agg->ψ,ls->Ψ,ptr->AtA,sl->χ,tup->υ
open BO renaming set->AtH
open IntKind renaming i64->θ
open Key renaming fn->ω,lp->AtB
open Go.RowKit
def RI(v:Int):Bool->List Int->List Int × Bool
 |d,[]=>([],d)
 |d,x::r=>((if !d&&decide (v<=x) then [v] else [])++((if x=v then [] else [x])++(RI v (d||decide (v<=x)) r).1),(RI v (d||decide (v<=x)) r).2)
def OD(v:Int)(l:List Int):List Int:=(RI v Φ l).1++(if(RI v Φ l).2 then [] else [v])
theorem LG(v:Int):∀ l:List Int,(∀ x∈l,v<x)->RI v Δ l=(l,Δ)
 |[],_=>rfl
 |x::r,h=>by
  have h1:=h x AtL;rw[RI,Bool.true_or,LG v r λy hy=>h y (AtF _ hy),if_neg (show ¬ x=v by omega)];rfl
theorem TP(v:Int):OD v []=[v]:=rfl
theorem W9{v x:Int}{r:List Int}(h:v<x)(hr:∀ y∈r,x<y):OD v (x::r)=v::x::r:=by
 unfold OD;rw[RI,decide_eq_true (by omega:v<=x),AvH,LG v r λy hy=>by have:=hr y hy;omega,if_neg (show ¬ x=v by omega)];simp
theorem W7{v:Int}{r:List Int}(hr:∀ y∈r,v<y):OD v (v::r)=v::r:=by
 unfold OD;rw[RI,decide_eq_true (Awi v),AvH,LG v r hr,if_pos rfl];simp
theorem W8{v x:Int}{r:List Int}(h:x<v):OD v (x::r)=x::OD v r:=by
 unfold OD;rw[RI,decide_eq_false (by omega:¬ v<=x),AvH,if_neg (show ¬ x=v by omega)];simp
def Asc(l:List Int):Prop:=l.Pairwise (· < ·)
theorem OF(v:Int):∀{l:List Int},Asc l->∀ y,y∈OD v l ↔ y=v\/y∈l
 |[],_,y=>by rw[TP];simp
 |x::r,h,y=>by
  have h1:=Aup.1 h;have ih:=OF v h1.2 y;rcases AvX v x with hv|hv|hv
  .rw[W9 hv h1.1];simp
  .subst hv
   rw[W7 h1.1];simp
  .rw[W8 hv,AtC,ih,AtC]
   exact or_left_comm
theorem OE(v:Int):∀{l:List Int},Asc l->Asc (OD v l)
 |[],_=>by rw[TP];exact AwH _ _
 |x::r,h=>by
  have h1:=Aup.1 h;rcases AvX v x with hv|hv|hv
  .rw[W9 hv h1.1]
   refine Aup.2 ⟨λy hy=>?_,h⟩;rcases AtC.1 hy with rfl|hy
   .exact hv
   .have:=h1.1 y hy;omega
  .subst hv
   rw[W7 h1.1];exact h
  .rw[W8 hv]
   refine Aup.2 ⟨λy hy=>?_,OE v h1.2⟩;rcases (OF v h1.2 y).1 hy with rfl|hy
   .exact hv
   .exact h1.1 y hy
def Pv(f:Int->Int):List Int->List Int->List Int
 |out,[]=>out
 |out,v::r=>Pv f (if f v=0 then out else OD v out) r
theorem Q3(f:Int->Int):∀(l:List Int) {out:List Int},Asc out->Asc (Pv f out l)
 |[],_,h=>h
 |v::r,out,h=>by
  rw[Pv];refine Q3 f r ?_;split
  .exact h
  .exact OE v h
theorem Mi(f:Int->Int)(y:Int):∀(l:List Int) {out:List Int},Asc out->(y∈Pv f out l ↔ y∈out\/(y∈l/\f y≠0))
 |[],out,_=>by rw[Pv];simp
 |v::r,out,h=>by
  rw[Pv]
  by_cases hv:f v=0
  .rw[if_pos hv,Mi f y r h,AtC]
   constructor
   .rintro (h1|⟨h1,h2⟩)
    .exact .inl h1
    .exact .inr ⟨.inr h1,h2⟩
   .rintro (h1|⟨rfl|h1,h2⟩)
    .exact .inl h1
    .exact absurd hv h2
    .exact .inr ⟨h1,h2⟩
  .rw[if_neg hv,Mi f y r (OE v h),OF v h,AtC]
   constructor
   .rintro ((rfl|h1) | ⟨h1,h2⟩)
    .exact .inr ⟨.inl rfl,hv⟩
    .exact .inl h1
    .exact .inr ⟨.inr h1,h2⟩
   .rintro (h1|⟨rfl|h1,h2⟩)
    .exact .inl (.inr h1)
    .exact .inl (.inl rfl)
    .exact .inr ⟨h1,h2⟩
def Kg(ps:List (Int × Int))(v:Int):Int:=if 0<=v then Bj v ps else 0
def UV(ps:List (Int × Int)):List Int:=Pv (Kg ps) [] (ps.map (·.1))
theorem WE:Asc []:=List.Pairwise.nil
theorem P7(c:Int->Int)(v:Int):∀{l:List Int},Asc l->Bj v (l.map λu=>(u,c u))=if v∈l then c v else 0
 |[],_=>by simp[Bj]
 |x::r,h=>by
  have h1:=Aup.1 h;rw[At5,Bj,P7 c v h1.2]
  by_cases hx:x=v
  .subst hx
   rw[if_pos rfl,if_pos AtL,if_neg (λhm=>by have:=h1.1 _ hm;omega)];exact Int.add_zero _
  .rw[if_neg hx,Int.zero_add]
   have e:(v∈x::r) ↔ v∈r:=by
    rw[AtC];exact⟨λh=>h.resolve_left λe=>hx e.symm,.inr⟩
   by_cases hm:v∈r
   .rw[if_pos hm,if_pos (e.2 hm)]
   .rw[if_neg hm,if_neg λh=>hm (e.1 h)]
theorem JQ(ps:List (Int × Int)):(UV ps).map (λv=>(v,Kg ps v))=Ba ps:=by
 have ha:Asc (UV ps):=Q3 _ _ WE;have hm:∀ y,y∈UV ps ↔ y∈ps.map (·.1)/\Kg ps y≠0:=λy=>by
  have:=Mi (Kg ps) y (ps.map (·.1)) WE;unfold UV;simpa using this
 refine OY ⟨?_,?_,?_⟩ λv hv=>?_
 .rw[Av0]
  exact ha
 .intro p hp
  rw[Auw]at hp;obtain⟨v,hv,rfl⟩:=hp;have:=((hm v).1 hv).2;unfold Kg at this
  by_cases h0:0<=v
  .exact h0
  .rw[if_neg h0]at this
   exact absurd rfl this
 .intro p hp
  rw[Auw]at hp;obtain⟨v,hv,rfl⟩:=hp;exact((hm v).1 hv).2
 .rw[P7 _ _ ha]
  have hc:Kg ps v=Bj v ps:=if_pos hv
  by_cases hv2:v∈UV ps
  .rw[if_pos hv2,hc]
  .rw[if_neg hv2]
   by_cases hz:Bj v ps=0
   .exact hz.symm
   .refine absurd ((hm v).2 ⟨?_,by rw[hc];exact hz⟩) hv2
    by_cases hmm:v∈ps.map (·.1)
    .exact hmm
    .refine absurd (Fc λp hp e=>hmm ?_) hz
     rw[←e];exact List.mem_map_of_mem hp
inductive Fm where
 |mk (kind:Int) (t:Tm) (eq:Bool) (kids:List Fm)
mutual
def eF:Fm->List AV
 |.mk k t e ks=>[iv k,.ls (t.ps.map eP),bv t.k.neg,eN t.k.abs,bv e,.ls (eFs ks)]
def eFs:List Fm->List (List AV)
 |[]=>[]
 |x::r=>eF x::eFs r
end
theorem BL:∀ l,eFs l=l.map eF
 |[]=>rfl
 |x::r=>by simp[eFs,BL r]
def Fm.kind:Fm->Int
 |.mk k _ _ _=>k
def Fm.tm:Fm->Tm
 |.mk _ t _ _=>t
def Fm.eq:Fm->Bool
 |.mk _ _ e _=>e
def Fm.kids:Fm->List Fm
 |.mk _ _ _ ks=>ks
def Tm0:Tm:=⟨[],⟨Φ,[]⟩⟩
def kF(k:Int)(ks:List Fm):Fm:=.mk k Tm0 Φ ks
def K9(b:Bool):Fm:=kF (if b then 0 else 1) []
def DY(l:Lf)(e:Bool):Fm:=.mk 2 l.tm e []
def Gl:Fm->List Fm
 |.mk k _ _ ks=>if k=4\/k=5 then ks else if k=3 then ks.take 1 else []
mutual
def Ca:Fm->Fm
 |.mk k t e ks=>if k=0 then K9 Δ else if k=2 then DY t.lf.pln e else if k=3 then kF 3 (M8 ks) else if k=4\/k=5 then kF k (IJ ks) else K9 Φ
def M8:List Fm->List Fm
 |[]=>[]
 |x::_=>[Ca x]
def IJ:List Fm->List Fm
 |[]=>[]
 |x::r=>Ca x::IJ r
end
theorem HK:∀ l,IJ l=l.map Ca
 |[]=>rfl
 |x::r=>by simp[IJ,HK r]
theorem SZ:∀ l,M8 l=(l.take 1).map Ca
 |[]=>rfl
 |x::r=>by simp[M8]
def Fz(v:Int)(e:Bool):Bool:=decide (v=0)||(!e&&decide (0<v))
mutual
def Bl(f:Int->Int):Fm->Bool
 |.mk k t e ks=>if k=0 then Δ else if k=2 then Fz (t.lf.val f) e else if k=3 then H8 f ks else if k=4 then LA f ks else if k=5 then LC f ks else Φ
def H8(f:Int->Int):List Fm->Bool
 |[]=>Φ
 |x::_=>!Bl f x
def LA(f:Int->Int):List Fm->Bool
 |[]=>Δ
 |x::r=>Bl f x&&LA f r
def LC(f:Int->Int):List Fm->Bool
 |[]=>Φ
 |x::r=>Bl f x||LC f r
end
theorem DS(f:Int->Int)(b:Bool):Bl f (K9 b)=b:=by
 cases b<;>rfl
theorem Et(f:Int->Int)(l:Lf)(e:Bool):Bl f (DY l e)=Fz (l.val f) e:=by
 unfold DY;rw[Bl,if_neg (by decide),if_pos rfl,DC]
def Rq(op:Int)(l r:Lf):Fm:=
 if op=0 then DY (l.sub r) Δ
 else if op=1 then kF 3 [DY (l.sub r) Δ]
 else if op=2 then DY ((r.sub l).sub (.num 1)) Φ
 else if op=3 then DY (r.sub l) Φ
 else if op=4 then DY ((l.sub r).sub (.num 1)) Φ
 else if op=5 then DY (l.sub r) Φ
 else K9 Φ
def Dp(op a b:Int):Bool:=
 if op=0 then decide (a=b) else if op=1 then decide (a≠b) else if op=2 then decide (a<b) else if op=3 then decide (a<=b) else if op=4 then decide (b<a) else if op=5 then decide (b<=a) else Φ
theorem X8(f:Int->Int)(k:Int):(Lf.num k).val f=k:=by
 show 0+k=k
 omega
theorem Gx(v:Int)(e:Bool):Fz v e=Δ ↔ v=0\/e=Φ/\0<v:=by
 unfold Fz
 cases e<;>simp
theorem Ql{f:Int->Int}(hf:∀ v,v<0->f v=0)(op:Int)(l r:Lf):Bl f (Rq op l r)=Dp op (l.val f) (r.val f):=by
 have e1:=Lg hf l r;have e2:=Lg hf r l;have e3:=Lg hf (r.sub l) (.num 1);have e4:=Lg hf (l.sub r) (.num 1);rw[X8]at e3 e4;rw[Bool.eq_iff_iff];unfold Rq Dp;split
 .rw[Et,Gx,decide_eq_true_iff];simp;omega
 split
 .unfold kF
  rw[Bl,if_neg (by decide),if_neg (by decide),if_pos rfl,H8,Bool.not_eq_true',←Bool.not_eq_true,Et,Gx,decide_eq_true_iff];simp;omega
 split
 .rw[Et,Gx,decide_eq_true_iff];simp;omega
 split
 .rw[Et,Gx,decide_eq_true_iff];simp;omega
 split
 .rw[Et,Gx,decide_eq_true_iff];simp;omega
 split
 .rw[Et,Gx,decide_eq_true_iff];simp;omega
 rw[DS]
mutual
inductive CanF:Fm->Prop
 |tru (b:Bool):CanF (K9 b)
 |atom (l:Lf) (e:Bool) (h:l.pln=l):CanF (DY l e)
 |no (x:Fm) (h:CanF x):CanF (kF 3 [x])
 |and (l:List Fm) (h:CanFs l):CanF (kF 4 l)
 |or (l:List Fm) (h:CanFs l):CanF (kF 5 l)
 |no0:CanF (kF 3 [])
inductive CanFs:List Fm->Prop
 |nil:CanFs []
 |cons {x:Fm} {r:List Fm} (h:CanF x) (hr:CanFs r):CanFs (x::r)
end
mutual
theorem CanF.clone:∀{x:Fm},CanF x->Ca x=x
 |_,.tru b=>by cases b<;>rfl
 |_,.atom l e h=>by
  unfold DY;rw[Ca,if_neg (by decide),if_pos rfl,DC,h];rfl
 |_,.no x h=>by
  unfold kF;rw[Ca,if_neg (by decide),if_neg (by decide),if_pos rfl,M8,h.clone];rfl
 |_,.and l h=>by
  unfold kF;rw[Ca,if_neg (by decide),if_neg (by decide),if_neg (by decide),if_pos (.inl rfl),h.clone];rfl
 |_,.or l h=>by
  unfold kF;rw[Ca,if_neg (by decide),if_neg (by decide),if_neg (by decide),if_pos (.inr rfl),h.clone];rfl
 |_,.no0=>rfl
theorem CanFs.clone:∀{l:List Fm},CanFs l->IJ l=l
 |_,.nil=>rfl
 |_,.cons h hr=>by rw[IJ,h.clone,hr.clone]
end
theorem Ha(l r:Lf):(l.sub r).pln=l.sub r:=XN _
def L9(ps:List (Int × Int))(vals:List Int):Nat->Int
 |0=>0
 |n+1=>L9 ps vals n+Bj (n:Int) ps*vals.getD n 0
theorem Pr(vals:List Int)(n:Nat):CT vals (n:Int)=vals.getD n 0:=by
 unfold CT;rw[if_neg (by omega),Int.toNat_natCast]
theorem Pq(vals:List Int){v:Int}(h:(vals.length:Int)<=v):CT vals v=0:=by
 unfold CT;rw[if_neg (by omega),Avc,List.getElem?_eq_none (by omega)];rfl
theorem UA(vals:List Int):∀ n,L9 [] vals n=0
 |0=>rfl
 |n+1=>by rw[L9,UA vals n,Bj,Awv];rfl
theorem QK(p:Int × Int)(r:List (Int × Int))(vals:List Int):∀ n:Nat,L9 (p::r) vals n=(if 0<=p.1/\p.1<(n:Int) then p.2*CT vals p.1 else 0)+L9 r vals n
 |0=>by rw[L9,L9,if_neg (by omega)];rfl
 |n+1=>by
  rw[L9,L9,QK p r vals n,Bj,Int.add_mul]
  by_cases h:p.1=(n:Int)
  .rw[if_pos h,if_neg (by omega),if_pos (by omega),h,Pr]
   omega
  .rw[if_neg h,Awv]
   by_cases h2:0<=p.1/\p.1<(n:Int)
   .rw[if_pos h2,if_pos (by omega)];omega
   .rw[if_neg h2,if_neg (by omega)];omega
theorem QM(vals:List Int):∀ ps:List (Int × Int),Cz (CT vals) ps=L9 ps vals vals.length
 |[]=>by rw[UA];rfl
 |p::r=>by
  rw[QK,Cz,QM vals r]
  by_cases h:0<=p.1/\p.1<(vals.length:Int)
  .rw[if_pos h]
  .rw[if_neg h]
   by_cases h0:p.1<0
   .rw[Ld _ _ h0,AvU]
   .rw[Pq vals (by omega),AvU]
theorem AdN(vals:List Int)(l:Lf):l.val (CT vals)=l.k+L9 l.ps vals vals.length:=by
 unfold Lf.val;rw[QM];omega
theorem Abv{k:Nat}{vals:List Int}(h:∀ x∈vals,InB k x)(n:Nat):InB k (vals.getD n 0):=by
 rw[Avc]
 cases e:vals[n]? with
 |none=>exact InB.zero _
 |some x=>
  obtain⟨hn,rfl⟩:=List.getElem?_eq_some_iff.1 e;exact h _ (At1 hn)
theorem Uz{n k j:Nat}{l:Lf}{vals:List Int}(hl:LB n k l)(hv:∀ x∈vals,InB j x):∀ m:Nat,InB (k+n+j+m) (L9 l.ps vals m)
 |0=>InB.zero _
 |m+1=>by
  rw[L9,←Nat.add_assoc];refine InB.add (Uz hl hv m) ?_;have h1:=IK (m:Int) l.ps hl.ps;have h2:=InB.mul h1 (Abv hv m);exact h2.mono (by have:=hl.len;omega)
def C1:List (Int × Int)->Int × Int->List (Int × Int)
 |[],p=>if p.1<0 then [] else [p]
 |q::r,p=>if p.1<0 then q::r else if q.1=p.1 then(q.1,q.2+p.2)::r else p::q::r
theorem EF(p:Int × Int):C1 [] p=if p.1<0 then [] else [p]:=rfl
theorem DR(q:Int × Int)(r:List (Int × Int))(p:Int × Int):C1 (q::r) p=if p.1<0 then q::r else if q.1=p.1 then(q.1,q.2+p.2)::r else p::q::r:=rfl
structure GrpI (s t:List (Int × Int)):Prop where
 desc:s.Pairwise λa b=>b.1<a.1
 pos:∀ q∈s,0<=q.1
 up:∀ q∈s,∀ p∈t,0<=p.1->q.1<=p.1
theorem YO(v:Int)(hv:0<=v):∀(s:List (Int × Int)) (p:Int × Int),Bj v (C1 s p)=Bj v s+(if p.1=v then p.2 else 0)
 |[],p=>by
  rw[EF];split
  .rw[if_neg (by omega)];simp[Bj]
  .simp[Bj]
 |q::r,p=>by
  rw[DR];split
  .rw[if_neg (by omega)];omega
  .split
   .rename_i h
    rw[Bj,Bj];simp only[h];split<;>omega
   .rw[Bj]
    omega
theorem Abw{s t:List (Int × Int)}{p:Int × Int}(h:GrpI s (p::t))(ht:∀ x∈t,p.1<=x.1):GrpI (C1 s p) t:=by
 have ut:∀ q∈s,∀ x∈t,0<=x.1->q.1<=x.1:=λq hq x hx=>h.up q hq x (AtF _ hx)
 cases s with
 |nil=>
  rw[EF];split
  .exact⟨.nil,by simp,by simp⟩
  .exact⟨AwH _ _,by simp;omega,λq hq x hx _=>by rw[Aum.1 hq];exact ht x hx⟩
 |cons q r=>
  have hd:=Aup.1 h.desc;rw[DR];split
  .exact⟨h.desc,h.pos,ut⟩
  .rename_i hp
   split
   .refine⟨Aup.2 ⟨λx hx=>hd.1 x hx,hd.2⟩,λx hx=>?_,λx hx y hy hy0=>?_⟩
    .rcases AtC.1 hx with rfl|hx
     .exact h.pos q (AtL ..)
     .exact h.pos x (AtF _ hx)
    .rcases AtC.1 hx with rfl|hx
     .exact ut q (AtL ..) y hy hy0
     .exact ut x (AtF _ hx) y hy hy0
   .rename_i hne
    have hq:=h.up q (AtL ..) p (AtL ..) (by omega);refine⟨Aup.2 ⟨λx hx=>?_,h.desc⟩,λx hx=>?_,λx hx y hy hy0=>?_⟩
    .rcases AtC.1 hx with rfl|hx
     .omega
     .have:=hd.1 x hx;omega
    .rcases AtC.1 hx with rfl|hx
     .omega
     .exact h.pos x hx
    .rcases AtC.1 hx with rfl|hx
     .exact ht y hy
     .exact ut x hx y hy hy0
theorem W4:∀(t s:List (Int × Int)),t.Pairwise (λa b=>a.1<=b.1)->GrpI s t->GrpI (t.foldl C1 s) []/\∀ v,0<=v->Bj v (t.foldl C1 s)=Bj v s+Bj v t
 |[],s,_,h=>⟨h,λv _=>by simp[Bj]⟩
 |p::t,s,ht,h=>by
  have hp:=Aup.1 ht;obtain⟨g1,g2⟩:=W4 t (C1 s p) hp.2 (Abw h hp.1);refine⟨g1,λv hv=>?_⟩;rw[Avr,g2 v hv,YO v hv,Bj];omega
theorem S2(v:Int):∀ l:List (Int × Int),Bj v (l.filter λp=>!decide (p.2=0))=Bj v l
 |[]=>rfl
 |p::r=>by
  have ih:=S2 v r
  by_cases h:p.2=0
  .rw[List.filter_cons_of_neg (by simp[h]),ih,Bj,h]
   simp
  .rw[List.filter_cons_of_pos (by simp[h]),Bj,Bj,ih]
theorem RC{t l:List (Int × Int)}(ht:t.Pairwise λa b=>a.1<=b.1)(hp:t.Perm l):((t.foldl C1 []).reverse).filter (λp=>!decide (p.2=0))=Ba l:=by
 obtain⟨g1,g2⟩:=W4 t [] ht ⟨.nil,by simp,by simp⟩;refine OY ⟨?_,λp h=>?_,λp h=>?_⟩ λv hv=>?_
 .refine List.Pairwise.filter _ ?_
  rw[List.pairwise_reverse];exact g1.desc
 .have:=(Au4.1 h).1
  exact g1.pos p (Av8.1 this)
 .simpa using (Au4.1 h).2
 .rw[S2,NV (List.reverse_perm _),g2 v hv,NV hp]
  simp[Bj]
theorem HQ{k:Nat}{s:List (Int × Int)}{p:Int × Int}(hs:∀ q∈s,InB k q.2)(hp:InB k p.2):∀ q∈C1 s p,InB (k+1) q.2:=by
 cases s with
 |nil=>
  rw[EF];split
  .simp
  .intro q hq
   rw[Aum.1 hq];exact hp.mono (by omega)
 |cons q r=>
  rw[DR];have hq:=hs q (AtL ..);have hr:∀ x∈r,InB (k+1) x.2:=λx hx=>(hs x (AtF _ hx)).mono (by omega)
  split
  .intro x hx
   rcases AtC.1 hx with rfl|hx
   .exact hq.mono (by omega)
   .exact hr x hx
  .split
   .intro x hx
    rcases AtC.1 hx with rfl|hx
    .exact InB.add hq hp
    .exact hr x hx
   .intro x hx
    rcases AtC.1 hx with rfl|hx
    .exact hp.mono (by omega)
    .rcases AtC.1 hx with rfl|hx
     .exact hq.mono (by omega)
     .exact hr x hx
theorem HT(s:List (Int × Int))(p:Int × Int):(C1 s p).length<=s.length+1:=by
 cases s with
 |nil=>rw[EF];split<;>simp
 |cons q r=>
  rw[DR];split
  .simp
  .split<;>simp
theorem Srt.same{l r:List Pt}{a b p q:Nat}(h:Srt Pt.v l p q)(hs:Same0 l r a b)(hd:q<=a\/b<=p):Srt Pt.v r p q:=by
 intro x y h1 h2 h3;rw[hs.kf Pt.v (by omega),hs.kf Pt.v (by omega)];exact h x y h1 h2 h3
def U0(q t:Nat)(l:List Pt):Prop:=∀ p,q ∣ p->p+q<=t->Srt Pt.v l p (p+q)
theorem Aod{a:Nat}(h:a<4611686018427387000):Af.add .i64 (a:Int) 20=((a+20:Nat):Int):=by
 rw[EM (by omega) (by omega)];rfl
section
variable {D:Orc} (K:Knows As EQ D)
include K
theorem AnR:∀(m a:Nat) (l:List Pt),l.length-a=m->a<=l.length->l.length<=1000000000->20 ∣ a->U0 20 a l->
  ∃(r:List Pt) (c:Nat),D.ask (.lp 196 0) [.sl 0 0 l.length 3,iv (l.length:Int),Fw,iv 20,iv (a:Int),iv ((a+20:Nat):Int)] [δ (Ag eP l) Δ Δ]
   = Θ (.tup [iv 0,.sl 0 0 l.length 3,iv (l.length:Int),Fw,iv 20,iv (c:Int)],[.set (δ (Ag eP r) Δ Δ)])
   ∧ r.length=l.length/\r.Perm l/\c<=l.length/\l.length<c+20/\20 ∣ c/\U0 20 c r:=by
 intro m
 induction m using Au5 with
 |_ m ih=>
  intro a l hm ha hl hd hb
  by_cases h:a+20<=l.length
  .obtain⟨r,g,hr,hp,ho,hsm⟩:=AbR K (a:=a) (b:=a+20) (l:=l) (by omega) h hl
   have hb2:U0 20 (a+20) r:=λp h1 h2=>by
    by_cases hpa:p=a
    .subst hpa
     exact ho
    .exact(hb p h1 (by omega)).same hsm (.inl (by omega))
   obtain⟨r2,c,g2,hr2,hp2,h3,h4,h5,h6⟩:=ih (r.length-(a+20)) (by omega) (a+20) r rfl (by omega) (by omega) (by omega) hb2;rw[hr]at g2 h3 h4;refine⟨r2,c,?_,by omega,hp2.trans hp,h3,h4,h5,h6⟩;refine Ay K Hh (AaT ..) ?_;refine BV ?_;refine Aa g ?_;simp only[Fw,ND,DK,Ab];rw[Aod (by omega)];refine Aa g2 ?_;rfl
  .refine⟨l,a,?_,rfl,List.Perm.refl _,ha,by omega,hd,hb⟩
   refine Ay K Hh (AaT ..) ?_;exact Cn rfl
omit K in
def Nu(D:Orc):Prop:=∀(l:List Pt) (a m b:Nat),a<m->m<b->b<=l.length->l.length<=1000000000->Srt Pt.v l a m->Srt Pt.v l m b->
 ∃ r:List Pt,D.ask (.fn 235) [.sl 0 0 l.length 3,iv (a:Int),iv (m:Int),iv (b:Int),Fw] [δ (Ag eP l) Δ Δ]=Θ (.tup [],[.set (δ (Ag eP r) Δ Δ)])
  ∧ r.length=l.length/\r.Perm l/\Srt Pt.v r a b/\Same0 l r a b
def TlS(q a:Nat)(l:List Pt):Prop:=∀ j,Srt Pt.v l (a+j*q) (min (a+(j+1)*q) l.length)
theorem AnT(M:Nu D)(q:Nat)(hq:0<q)(hq2:q<=1000000000):∀(m a:Nat) (l:List Pt),l.length-a=m->a<=l.length->l.length<=1000000000->2*q ∣ a->U0 (2*q) a l->TlS q a l->
  ∃(r:List Pt) (c:Nat),D.ask (.lp 196 2) [.sl 0 0 l.length 3,iv (l.length:Int),Fw,iv (q:Int),iv (a:Int),iv ((a+2*q:Nat):Int)] [δ (Ag eP l) Δ Δ]
   = Θ (.tup [iv 4,.sl 0 0 l.length 3,iv (l.length:Int),Fw,iv (q:Int),iv (c:Int)],[.set (δ (Ag eP r) Δ Δ)])
   ∧ r.length=l.length/\r.Perm l/\c<=l.length/\l.length<c+2*q/\2*q ∣ c/\U0 (2*q) c r/\TlS q c r:=by
 intro m
 induction m using Au5 with
 |_ m ih=>
  intro a l hm ha hl hd hb ht
  by_cases h:a+2*q<=l.length
  .have t0:=ht 0
   have t1:=ht 1;rw[Avd,Aun,AtQ,AuP,Auy (by omega)]at t0;rw[AuP,show (1+1)*q=2*q from rfl,Auy h]at t1;obtain⟨r,g,hr,hp,ho,hsm⟩:=M l a (a+q) (a+2*q) (by omega) (by omega) h hl t0 t1;have hb2:U0 (2*q) (a+2*q) r:=λp h1 h2=>by
    by_cases hpa:p=a
    .subst hpa
     exact ho
    .have:=AwS (by omega) (Aw7 hd h1)
     exact(hb p h1 (by omega)).same hsm (.inl (by omega))
   have ht2:TlS q (a+2*q) r:=λj=>by
    have:=ht (j+2);rw[show a+(j+2)*q=a+2*q+j*q by rw[Aue];omega,show a+(j+2+1)*q=a+2*q+(j+1)*q by rw[Aue,Aue,Aue];omega]at this;rw[hr];exact this.same hsm (.inr (by omega))
   obtain⟨r2,c,g2,hr2,hp2,h3,h4,h5,h6,h7⟩:=ih (r.length-(a+2*q)) (by omega) (a+2*q) r rfl (by omega) (by omega) (Nat.dvd_add hd (Nat.dvd_refl _)) hb2 ht2;rw[hr]at g2 h3 h4;refine⟨r2,c,?_,by omega,hp2.trans hp,h3,h4,h5,h6,h7⟩;refine Ay K Hh (AaU ..) ?_;refine BV ?_;rw[show Af.add .i64 (a:Int) (q:Int)=((a+q:Nat):Int) by rw[EM (by omega) (by omega)];omega,
    show Af.mul .i64 2 (q:Int)=((2*q:Nat):Int) by
     show IntKind.i64.wrap (2*(q:Int))=_
     rw[IntKind.wrap_i64];omega,
    show Af.add .i64 ((a+2*q:Nat):Int) ((2*q:Nat):Int)=((a+2*q+2*q:Nat):Int) by rw[EM (by omega) (by omega)];omega]
   refine Aa g ?_;simp only[Fw,ND,DK,Ab];refine Aa g2 ?_;rfl
  .refine⟨l,a,?_,rfl,List.Perm.refl _,ha,by omega,hd,hb,ht⟩
   refine Ay K Hh (AaU ..) ?_;exact Cn rfl
omit K in
theorem Wv{q c:Nat}{r:List Pt}(hq:0<q)(hd:q ∣ c)(hn:r.length<c+q)(hb:U0 q c r)(hs:Srt Pt.v r c r.length):TlS q 0 r:=λj=>by
 rw[AtQ,AtQ];have e:(j+1)*q=j*q+q:=by rw[Aue];omega
 by_cases h1:j*q+q<=c
 .have:=hb (j*q) (AwA q j) h1
  intro x y hx hxy hy;exact this x y hx hxy (by omega)
 .by_cases h2:j*q=c
  .intro x y hx hxy hy
   exact hs x y (by omega) hxy (by omega)
  .intro x y hx hxy hy
   exfalso
   by_cases h3:j*q<c
   .have:=AwS (by omega) (Aw7 hd (AwA q j))
    omega
   .have:=AwS (by omega) (Aw7 (AwA q j) hd)
    omega
theorem AnS(M:Nu D):∀(m q:Nat) (l:List Pt),l.length-q=m->0<q->q<=2000000000->l.length<=1000000000->TlS q 0 l->
  ∃ r:List Pt,D.ask (.lp 196 1) [.sl 0 0 l.length 3,iv (l.length:Int),Fw,iv (q:Int)] [δ (Ag eP l) Δ Δ]
   = Θ (.tup [iv 2,.sl 0 0 l.length 3],[.set (δ (Ag eP r) Δ Δ)])
   ∧ r.length=l.length/\r.Perm l/\Srt Pt.v r 0 r.length:=by
 intro m
 induction m using Au5 with
 |_ m ih=>
  intro q l hm hq hq2 hl ht
  by_cases h:q<l.length
  .obtain⟨r,c,g,hr,hp,hc,hn,hd,hb,ht2⟩:=AnT K M q hq (by omega) _ 0 l rfl (by omega) hl (Axz _) (λp _ h2=>by omega) ht
   have t0:=ht2 0;have t1:=ht2 1;rw[Avd,Aun,AtQ,AuP]at t0;rw[AuP,show (1+1)*q=2*q from rfl,AwC (by omega)]at t1;rw[AtQ]at g;have emul:Af.mul .i64 2 (q:Int)=((2*q:Nat):Int):=by
    show IntKind.i64.wrap (2*(q:Int))=_
    rw[IntKind.wrap_i64];omega
   have emul2:Af.mul .i64 (q:Int) 2=((2*q:Nat):Int):=by
    show IntKind.i64.wrap ((q:Int)*2)=_
    rw[IntKind.wrap_i64];omega
   have eadd:Af.add .i64 (c:Int) (q:Int)=((c+q:Nat):Int):=by rw[EM (by omega) (by omega)];omega
   by_cases h2:c+q<l.length
   .rw[Auy (by omega)]at t0
    obtain⟨r3,g3,hr3,hp3,ho3,hsm⟩:=M r c (c+q) r.length (by omega) (by omega) (η _) (by omega) t0 t1;have ht3:TlS (2*q) 0 r3:=Wv (by omega) hd (by omega) (λp h1 h2=>(hb p h1 h2).same hsm (.inl (by omega))) (by rw[hr3];exact ho3);obtain⟨r4,g4,hr4,hp4,ho4⟩:=ih (r3.length-2*q) (by omega) (2*q) r3 rfl (by omega) (by omega) (by omega) ht3;rw[hr]at g3 hr3;rw[hr3]at g4 hr4;refine⟨r4,?_,hr4,hp4.trans (hp3.trans hp),ho4⟩;refine Ay K Hh (Vl ..) ?_;refine Al ?_;rw[emul];refine Aa g ?_;simp only[Fw,ND,DK,Ab];refine Ac ?_;rw[eadd,emul2];refine Al ?_;refine Aa g3 ?_;simp only[Fw,ND,DK,Ab];refine Aa g4 ?_;rfl
   .rw[AwC (by omega)]at t0
    have ht3:TlS (2*q) 0 r:=Wv (by omega) hd (by omega) hb t0;obtain⟨r4,g4,hr4,hp4,ho4⟩:=ih (r.length-2*q) (by omega) (2*q) r rfl (by omega) (by omega) (by omega) ht3;rw[hr]at g4 hr4;refine⟨r4,?_,hr4,hp4.trans hp,ho4⟩;refine Ay K Hh (Vl ..) ?_;refine Al ?_;rw[emul];refine Aa g ?_;simp only[Fw,ND,DK,Ab];refine Ac ?_;rw[eadd,emul2];refine Ai ?_;refine Aa g4 ?_;rfl
  .refine⟨l,?_,rfl,List.Perm.refl _,?_⟩
   .refine Ay K Hh (Vl ..) ?_
    exact Ai rfl
   .have t0:=ht 0
    rw[Avd,AtQ,AtQ,AuP,AwC (by omega)]at t0;exact t0
theorem ZL(M:Nu D){l:List Pt}(hl:l.length<=1000000000) :
  ∃ r:List Pt,D.ask (.fn 196) [.sl 0 0 l.length 3,iv (l.length:Int),Fw] [δ (Ag eP l) Δ Δ]=Θ (.tup [],[.set (δ (Ag eP r) Δ Δ)])
   ∧ r.length=l.length/\r.Perm l/\Srt Pt.v r 0 r.length:=by
 obtain⟨r,c,g,hr,hp,hc,hn,hd,hb⟩:=AnR K _ 0 l rfl (by omega) hl (Axz _) (λp _ h2=>by omega);obtain⟨r2,g2,hr2,hp2,ho2,hsm⟩:=AbR K (a:=c) (b:=r.length) (l:=r) (by omega) (η _) (by omega);have ht:TlS 20 0 r2:=Wv (by omega) hd (by omega) (λp h1 h2=>(hb p h1 h2).same hsm (.inl (by omega))) (by rw[hr2];exact ho2);obtain⟨r3,g3,hr3,hp3,ho3⟩:=AnS K M _ 20 r2 rfl (by omega) (by omega) (by omega) ht;rw[hr]at g2 hr2;rw[hr2]at g3 hr3;refine⟨r3,?_,hr3,hp3.trans (hp2.trans hp),ho3⟩;refine Aw K Hh (Arw ..) ?_;refine Aa g ?_;simp only[Fw,ND,DK,Ab];refine Aa g2 ?_;simp only[Fw,ND,DK,Ab];refine Aa g3 ?_;rfl
theorem AiX(M:Nu D){l:List Pt}(hl:l.length<=1000000000) :
  ∃ r:List Pt,D.ask (.fn 136) [.sl 0 0 l.length 3,Fw] [δ (Ag eP l) Δ Δ]=Θ (.tup [],[.set (δ (Ag eP r) Δ Δ)])
   ∧ r.length=l.length/\r.Perm l/\Srt Pt.v r 0 r.length:=by
 obtain⟨r,g,h⟩:=ZL K M hl;refine⟨r,?_,h⟩;refine Aw K AjZ (Aq2 ..) ?_;refine Aa g ?_;rfl
end
section
variable {α:Type} (key:α->Int)
structure Rot (l r:List α) (a m b:Nat):Prop where
 out:∀ p,p<a\/b<=p->r[p]? = l[p]?
 low:∀ p,a<=p->p<a+(b-m)->r[p]? = l[p+(m-a)]?
 high:∀ p,a+(b-m)<=p->p<b->r[p]? = l[p-(b-m)]?
structure SwR (l r:List α) (a b n:Nat):Prop where
 out:∀ p,p<a\/(a+n<=p/\p<b)\/b+n<=p->r[p]? = l[p]?
 low:∀ p,a<=p->p<a+n->r[p]? = l[p+(b-a)]?
 high:∀ p,b<=p->p<b+n->r[p]? = l[p-(b-a)]?
theorem CA{l:List α}{i j:Nat}(h:i=j):l[i]? = l[j]?:=by rw[h]
theorem AcY{c d r:List α}{i j m:Nat}(h0:i<=m)(h:j<i)(s:SwR c d (m-i) m j)(t:Rot d r (m-(i-j)) m (m+j)):Rot c r (m-i) m (m+j):=by
 refine⟨λp hp=>?_,λp h1 h2=>?_,λp h1 h2=>?_⟩
 .rw[t.out p (by omega),s.out p (by omega)]
 .rw[t.out p (by omega),s.low p (by omega) (by omega)]
 .by_cases h3:p<m-(i-j)+j
  .rw[t.low p (by omega) (by omega),s.high _ (by omega) (by omega)]
   exact CA (by omega)
  .rw[t.high p (by omega) (by omega),s.out _ (by omega)]
theorem Zn{c d r:List α}{i j m:Nat}(h0:i<=m)(h:i<j)(s:SwR c d (m-i) (m+j-i) i)(t:Rot d r (m-i) m (m+(j-i))):Rot c r (m-i) m (m+j):=by
 refine⟨λp hp=>?_,λp h1 h2=>?_,λp h1 h2=>?_⟩
 .rw[t.out p (by omega),s.out p (by omega)]
 .by_cases h3:p<m-i+(j-i)
  .rw[t.low p (by omega) (by omega),s.out _ (by omega)]
  .rw[t.high p (by omega) (by omega),s.low _ (by omega) (by omega)]
   exact CA (by omega)
 .rw[t.out p (by omega),s.high p (by omega) (by omega)]
  exact CA (by omega)
theorem Ac0{c r:List α}{i m:Nat}(h0:i<=m)(s:SwR c r (m-i) m i):Rot c r (m-i) m (m+i):=by
 refine⟨λp hp=>?_,λp h1 h2=>?_,λp h1 h2=>?_⟩
 .rw[s.out p (by omega)]
 .rw[s.low p (by omega) (by omega)]
 .rw[s.high p (by omega) (by omega)]
  exact CA (by omega)
theorem Gz{l:List α}{a m b:Nat}(h:a=m\/m=b)(ha:a<=m)(hb:m<=b):Rot l l a m b:=by
 refine⟨λp hp=>rfl,λp h1 h2=>CA (by omega),λp h1 h2=>CA (by omega)⟩
theorem Adp{l r:List α}{a b n:Nat}(hab:a+n<b)(hb:b+n<l.length)(s:SwR l r a b n)(hr:r.length=l.length):SwR l (Dc r (a+n) (b+n)) a b (n+1):=by
 have ha:a+n<r.length:=by omega
 have hb2:b+n<r.length:=by omega
 have e1:∀ p,(Dc r (a+n) (b+n))[p]? = if p=a+n then r[b+n]? else if p=b+n then r[a+n]? else r[p]?:=λp=>by
  rw[Ef ha hb2]
  by_cases h1:p=b+n
  .subst h1
   rw[if_neg (by omega),if_pos rfl,Au1 (by simpa using hb2),ξ ha]
  .rw[AuN (λe=>h1 e.symm)]
   by_cases h2:p=a+n
   .subst h2
    rw[if_pos rfl,Au1 ha,ξ hb2]
   .rw[if_neg h2,if_neg h1,AuN (λe=>h2 e.symm)]
 refine⟨λp hp=>?_,λp h1 h2=>?_,λp h1 h2=>?_⟩
 .rw[e1,if_neg (by omega),if_neg (by omega),s.out p (by omega)]
 .rw[e1]
  by_cases h:p=a+n
  .rw[if_pos h,s.out _ (by omega)]
   exact CA (by omega)
  .rw[if_neg h,if_neg (by omega),s.low p h1 (by omega)]
 .rw[e1]
  by_cases h:p=b+n
  .rw[if_neg (by omega),if_pos h,s.out _ (by omega)]
   exact CA (by omega)
  .rw[if_neg (by omega),if_neg h,s.high p h1 (by omega)]
theorem Adq(l:List α)(a b:Nat):SwR l l a b 0:=⟨λ_ _=>rfl,λ_ h1 h2=>by omega,λ_ h1 h2=>by omega⟩
theorem Ie{l r:List α}{p q:Nat}(h:r[p]? = l[q]?):kf key r p=kf key l q:=by
 unfold kf;rw[h]
theorem Rot.kout{l r:List α}{a m b p:Nat}(h:Rot l r a m b)(hp:p<a\/b<=p):kf key r p=kf key l p:=Ie key (h.out p hp)
theorem Rot.klow{l r:List α}{a m b p:Nat}(h:Rot l r a m b)(h1:a<=p)(h2:p<a+(b-m)):kf key r p=kf key l (p+(m-a)):=Ie key (h.low p h1 h2)
theorem Rot.khigh{l r:List α}{a m b p:Nat}(h:Rot l r a m b)(h1:a+(b-m)<=p)(h2:p<b):kf key r p=kf key l (p-(b-m)):=Ie key (h.high p h1 h2)
theorem TZ{l r:List α}{a b i:Nat}(hi:a+1<=i)(hib:i<=b)(hs:Srt key l (a+1) b)(h1:∀ p,a+1<=p->p<i->kf key l p<kf key l a)(h2:∀ p,i<=p->p<b->kf key l a<=kf key l p)(t:Rot l r a (a+1) i):Srt key r a b:=by
 intro p q hp hpq hq
 by_cases q1:q<i-1
 .rw[t.klow key (by omega) (by omega),t.klow key (by omega) (by omega)]
  exact hs _ _ (by omega) (by omega) (by omega)
 .by_cases q2:q=i-1
  .rw[t.klow key (by omega) (by omega),t.khigh key (by omega) (by omega),show q-(i-(a+1))=a by omega]
   have:=h1 (p+(a+1-a)) (by omega) (by omega);omega
  .rw[t.kout key (p:=q) (by omega)]
   by_cases p1:p<i-1
   .rw[t.klow key (by omega) (by omega)]
    exact hs _ _ (by omega) (by omega) (by omega)
   .by_cases p2:p=i-1
    .rw[t.khigh key (by omega) (by omega),show p-(i-(a+1))=a by omega]
     exact h2 q (by omega) hq
    .rw[t.kout key (by omega)]
     exact hs _ _ (by omega) (by omega) (by omega)
theorem VV{l r:List α}{a m i:Nat}(hi:a<=i)(him:i<=m)(hs:Srt key l a m)(h1:∀ p,a<=p->p<i->kf key l p<=kf key l m)(h2:∀ p,i<=p->p<m->kf key l m<kf key l p)(t:Rot l r i m (m+1)):Srt key r a (m+1):=by
 intro p q hp hpq hq
 by_cases p1:p<i
 .rw[t.kout key (p:=p) (by omega)]
  by_cases q1:q<i
  .rw[t.kout key (by omega)]
   exact hs _ _ (by omega) (by omega) (by omega)
  .by_cases q2:q=i
   .rw[t.klow key (by omega) (by omega),show q+(m-i)=m by omega]
    exact h1 p hp p1
   .rw[t.khigh key (by omega) (by omega)]
    exact hs _ _ (by omega) (by omega) (by omega)
 .rw[t.khigh key (p:=q) (by omega) (by omega)]
  by_cases p2:p=i
  .rw[t.klow key (by omega) (by omega),show p+(m-i)=m by omega]
   have:=h2 (q-(m+1-m)) (by omega) (by omega);omega
  .rw[t.khigh key (by omega) (by omega)]
   exact hs _ _ (by omega) (by omega) (by omega)
def Low(l:List α)(a m b:Nat):Prop:=∀ p q,a<=p->p<m->m<=q->q<b->kf key l p<=kf key l q
theorem AiY{l:List α}{a m b:Nat}(h1:Srt key l a m)(h2:Srt key l m b)(h3:Low key l a m b):Srt key l a b:=by
 intro p q hp hpq hq
 by_cases c:q<m
 .exact h1 p q hp hpq c
 .by_cases d:p<m
  .exact h3 p q hp d (by omega) hq
  .exact h2 p q (by omega) hpq hq
structure CutAt (l:List α) (a m b mid s e:Nat):Prop where
 asl:a<=s
 sm:s<=m
 me:m<=e
 eb:e<=b
 mid:s+(e-m)=mid
 up:∀ p q,a<=p->p<s->e<=q->q<b->kf key l p<=kf key l q
 dn:∀ p q,m<=p->p<e->s<=q->q<m->kf key l p<=kf key l q
theorem E6{l r:List α}{a m b mid s e:Nat}(c:CutAt key l a m b mid s e)(h1:Srt key l a m)(h2:Srt key l m b)(t:Rot l r s m e) :
  Srt key r a s/\Srt key r s mid/\Srt key r mid e/\Srt key r e b/\Low key r a mid b:=by
 have:=c.asl;have:=c.sm;have:=c.me;have:=c.eb;have:=c.mid;refine⟨λp q x y z=>?_,λp q x y z=>?_,λp q x y z=>?_,λp q x y z=>?_,λp q x y z w=>?_⟩
 .rw[t.kout key (by omega),t.kout key (by omega)]
  exact h1 _ _ (by omega) (by omega) (by omega)
 .rw[t.klow key (by omega) (by omega),t.klow key (by omega) (by omega)]
  exact h2 _ _ (by omega) (by omega) (by omega)
 .rw[t.khigh key (by omega) (by omega),t.khigh key (by omega) (by omega)]
  exact h1 _ _ (by omega) (by omega) (by omega)
 .rw[t.kout key (by omega),t.kout key (by omega)]
  exact h2 _ _ (by omega) (by omega) (by omega)
 .by_cases p1:p<s
  .rw[t.kout key (p:=p) (by omega)]
   by_cases q1:q<e
   .rw[t.khigh key (by omega) (by omega)]
    exact h1 _ _ (by omega) (by omega) (by omega)
   .rw[t.kout key (by omega)]
    exact c.up _ _ (by omega) (by omega) (by omega) (by omega)
  .rw[t.klow key (p:=p) (by omega) (by omega)]
   by_cases q1:q<e
   .rw[t.khigh key (by omega) (by omega)]
    exact c.dn _ _ (by omega) (by omega) (by omega) (by omega)
   .rw[t.kout key (by omega)]
    exact h2 _ _ (by omega) (by omega) (by omega)
theorem XG{l r:List α}{a b:Nat}(hp:r.Perm l)(hs:Same0 l r a b){p:Nat}(h1:a<=p)(h2:p<b)(hb:b<=l.length):∃ q,a<=q/\q<b/\r[p]? = l[q]?:=by
 have hlen:=hp.length_eq;have ht:r.take a=l.take a:=by
  apply Aw1;intro i;rw[At3,At3];split
  .exact hs i (by omega)
  .rfl
 have hd:r.drop b=l.drop b:=by
  apply Aw1;intro i;rw[AuA,AuA];exact hs _ (by omega)
 have er:∀ x:List α,b<=x.length->x=x.take a++((x.drop a).take (b-a)++x.drop b):=λx hx=>by
  have e1:=(AuB a x).symm;have e2:=(AuB (b-a) (x.drop a)).symm;rw[List.drop_drop,show a+(b-a)=b by omega]at e2;rw[←e2];exact e1
 have hp2:(r.take a++((r.drop a).take (b-a)++r.drop b)).Perm (l.take a++((l.drop a).take (b-a)++l.drop b)):=by
  rw[←er r (by omega),←er l hb];exact hp
 rw[ht,hd]at hp2;have hp3:=(List.perm_append_right_iff _).1 ((List.perm_append_left_iff _).1 hp2);have hpr:p<r.length:=by omega
 have hm:r[p]∈(r.drop a).take (b-a):=by
  rw[AwL];refine⟨p-a,?_⟩;rw[At3,if_pos (by omega),AuA,show a+(p-a)=p by omega,ξ hpr]
 have hm2:=hp3.mem_iff.1 hm;rw[AwL]at hm2;obtain⟨i,hi⟩:=hm2;rw[At3]at hi;split at hi
 .rename_i hib
  rw[AuA]at hi;exact⟨a+i,by omega,by omega,by rw[hi,ξ hpr]⟩
 .cases hi
theorem Acb{l r:List α}{a m b:Nat}(h:Low key l a m b)(hp:r.Perm l)(hs:Same0 l r a m)(hb:m<=l.length):Low key r a m b:=by
 intro p q x y z w;obtain⟨p2,h1,h2,h3⟩:=XG hp hs x y hb;rw[Ie key h3,hs.kf key (by omega)];exact h p2 q h1 h2 z w
theorem Y3{l r:List α}{a m b:Nat}(h:Low key l a m b)(hp:r.Perm l)(hs:Same0 l r m b)(hb:b<=l.length):Low key r a m b:=by
 intro p q x y z w;obtain⟨q2,h1,h2,h3⟩:=XG hp hs z w hb;rw[Ie key h3,hs.kf key (by omega)];exact h p q2 x y h1 h2
theorem Srt.same'{l r:List α}{a b p q:Nat}(h:Srt key l p q)(hs:Same0 l r a b)(hd:q<=a\/b<=p):Srt key r p q:=by
 intro x y h1 h2 h3;rw[hs.kf key (by omega),hs.kf key (by omega)];exact h x y h1 h2 h3
theorem K3{l:List α}{a s m:Nat}(h:s=a\/s=m)(h1:Srt key l a s)(h2:Srt key l s m):Srt key l a m:=by
 rcases h with rfl|rfl
 .exact h2
 .exact h1
structure Bs (l:List α) (n x y s r:Nat):Prop where
 xs:x<=s
 sr:s<=r
 ry:r<=y
 lo:∀ c,x<=c->c<s->kf key l c<=kf key l (n-1-c)
 hi:∀ c,r<=c->c<y->kf key l (n-1-c)<kf key l c
section
variable {l:List α} {n x y s r a m b:Nat}
theorem Bs.up(B:Bs key l n x y s r)(h1:Srt key l a m)(h2:Srt key l m b)(hx:a<=x)(hy:y<=m)(hn:n<=x+b)(hm:m+y<=n){c:Nat}(hc:s<=c)(hr:c<r)(h:kf key l c<=kf key l (n-1-c)):Bs key l n x y (c+1) r:=by
 have:=B.xs;have:=B.sr;have:=B.ry;refine⟨by omega,by omega,B.ry,λd hd1 hd2=>?_,B.hi⟩
 by_cases hdc:d=c
 .rw[hdc];exact h
 .have e1:=h1 d c (by omega) (by omega) (by omega)
  have e2:=h2 (n-1-c) (n-1-d) (by omega) (by omega) (by omega);omega
theorem Bs.dn(B:Bs key l n x y s r)(h1:Srt key l a m)(h2:Srt key l m b)(hx:a<=x)(hy:y<=m)(hn:n<=x+b)(hm:m+y<=n){c:Nat}(hc:s<=c)(hr:c<r)(h:kf key l (n-1-c)<kf key l c):Bs key l n x y s c:=by
 have:=B.xs;have:=B.sr;have:=B.ry;refine⟨B.xs,hc,by omega,B.lo,λd hd1 hd2=>?_⟩
 by_cases hdc:d=c
 .rw[hdc];exact h
 .have e1:=h1 c d (by omega) (by omega) (by omega)
  have e2:=h2 (n-1-d) (n-1-c) (by omega) (by omega) (by omega);omega
theorem Bs.cut{mid:Nat}(B:Bs key l (mid+m) x y s s)(h1:Srt key l a m)(h2:Srt key l m b)(hx:a<=x)(hy:y<=m)(hn:mid+m<=x+b)(hm:y<=mid)(cx:x=a\/mid+m=x+b)(cy:y=m\/y=mid):CutAt key l a m b mid s (mid+m-s):=by
 have:=B.xs;have:=B.ry;refine⟨by omega,by omega,by omega,by omega,by omega,λp q c1 c2 c3 c4=>?_,λp q c1 c2 c3 c4=>?_⟩
 .have hs:x<s:=by omega
  have e:=B.lo (s-1) (by omega) (by omega);rw[show mid+m-1-(s-1)=mid+m-s by omega]at e;have e1:kf key l p<=kf key l (s-1):=by
   by_cases h:p=s-1
   .rw[h];exact Awi _
   .exact h1 _ _ (by omega) (by omega) (by omega)
  have e2:kf key l (mid+m-s)<=kf key l q:=by
   by_cases h:q=mid+m-s
   .rw[h];exact Awi _
   .exact h2 _ _ (by omega) (by omega) (by omega)
  omega
 .have hs:s<y:=by omega
  have e:=B.hi s (by omega) (by omega);have e1:kf key l p<=kf key l (mid+m-1-s):=by
   by_cases h:p=mid+m-1-s
   .rw[h];exact Awi _
   .exact h2 _ _ (by omega) (by omega) (by omega)
  have e2:kf key l s<=kf key l q:=by
   by_cases h:q=s
   .rw[h];exact Awi _
   .exact h1 _ _ (by omega) (by omega) (by omega)
  omega
end
theorem AnN{l r:List α}{a k:Nat}(h:a<=k)(hk:k+1<l.length)(hr:r.length=l.length)(t:Rot l r a (a+1) (k+1)):Rot l (Dc r k (k+1)) a (a+1) (k+2):=by
 have e1:∀ p,(Dc r k (k+1))[p]? = if p=k then r[k+1]? else if p=k+1 then r[k]? else r[p]?:=λp=>by
  rw[Ef (by omega) (by omega)]
  by_cases h1:p=k+1
  .subst h1
   rw[if_neg (by omega),if_pos rfl,Au1 (by rw[AtX];omega),ξ (by omega)]
  .rw[AuN (λe=>h1 e.symm)]
   by_cases h2:p=k
   .subst h2
    rw[if_pos rfl,Au1 (by omega),ξ (by omega)]
   .rw[if_neg h2,if_neg h1,AuN (λe=>h2 e.symm)]
 refine⟨λp hp=>?_,λp h1 h2=>?_,λp h1 h2=>?_⟩
 .rw[e1,if_neg (by omega),if_neg (by omega),t.out p (by omega)]
 .rw[e1]
  by_cases h:p=k
  .rw[if_pos h,t.out _ (by omega)]
   exact CA (by omega)
  .rw[if_neg h,if_neg (by omega),t.low p h1 (by omega)]
 .rw[e1,if_neg (by omega),if_pos (by omega),t.high k (by omega) (by omega)]
  exact CA (by omega)
theorem AcX{l r:List α}{m k:Nat}(h:k<m)(hk:m<l.length)(hr:r.length=l.length)(t:Rot l r (k+1) m (m+1)):Rot l (Dc r (k+1) k) k m (m+1):=by
 have e1:∀ p,(Dc r (k+1) k)[p]? = if p=k then r[k+1]? else if p=k+1 then r[k]? else r[p]?:=λp=>by
  rw[Ef (by omega) (by omega)]
  by_cases h1:p=k
  .subst h1
   rw[if_pos rfl,Au1 (by rw[AtX];omega),ξ (by omega)]
  .rw[if_neg h1,AuN (λe=>h1 e.symm)]
   by_cases h2:p=k+1
   .subst h2
    rw[if_pos rfl,Au1 (by omega),ξ (by omega)]
   .rw[if_neg h2,AuN (λe=>h2 e.symm)]
 refine⟨λp hp=>?_,λp h1 h2=>?_,λp h1 h2=>?_⟩
 .rw[e1,if_neg (by omega),if_neg (by omega),t.out p (by omega)]
 .rw[e1,if_pos (by omega),t.low (k+1) (by omega) (by omega)]
  exact CA (by omega)
 .rw[e1,if_neg (by omega)]
  by_cases h:p=k+1
  .rw[if_pos h,t.out _ (by omega)]
   exact CA (by omega)
  .rw[if_neg h,t.high p (by omega) (by omega)]
end
theorem DG{a b:Nat}(h:a+b<4611686018427387904):Af.conv .i64 (Af.shr .u64 (Af.conv .u64 (Af.add .i64 (a:Int) (b:Int))) 1)=(((a+b) / 2:Nat):Int):=by
 rw[EM (by omega) (by omega),show (a:Int)+(b:Int)=((a+b:Nat):Int) by omega,Bi (by omega)];have:Af.shr .u64 ((a+b:Nat):Int) 1=(((a+b) / 2:Nat):Int):=by
  show Int.fdiv ((a+b:Nat):Int) (2 ^ 1)=_
  have:(2 ^ 1:Int)=((2:Nat):Int):=by decide
  rw[this,Int.fdiv_eq_ediv_of_nonneg _ (by omega)];rfl
 rw[this]
 show IntKind.i64.wrap (((a+b) / 2:Nat):Int)=_
 rw[IntKind.wrap_i64];omega
theorem J5{a b:Nat}(h:a+b<4611686018427387904):Af.add .i64 (a:Int) (b:Int)=((a+b:Nat):Int):=by
 rw[EM (by omega) (by omega)];omega
theorem Cy{a b:Nat}(hb:b<=a)(h:a<4611686018427387904):Af.sub .i64 (a:Int) (b:Int)=((a-b:Nat):Int):=by
 rw[DW (by omega) (by omega)];omega
theorem Iy{a:Nat}(hb:1<=a)(h:a<4611686018427387904):Af.sub .i64 (a:Int) 1=((a-1:Nat):Int):=by
 rw[DW (by omega) (by omega)];omega
abbrev Fx(l:List Pt):ABlk:=δ (Ag eP l) Δ Δ
section
variable {D:Orc} (K:Knows As EQ D)
include K
theorem AnU(a b n:Nat)(l0:List Pt):∀(m i:Nat) (l:List Pt),n-i=m->i<=n->a+n<=b->b+n<=l.length->l.length<=1000000000->l.length=l0.length->SwR l0 l a b i->
  ∃ r:List Pt,D.ask (.lp 275 0) [.sl 0 0 l.length 3,iv (a:Int),iv (b:Int),iv (n:Int),iv (i:Int)] [Fx l]=Θ (.tup [iv 0,.sl 0 0 l.length 3],[.set (Fx r)])
   ∧ r.length=l.length/\r.Perm l/\SwR l0 r a b n:=by
 intro m
 induction m with
 |zero=>
  intro i l hm hi ha hb hl h0 hs;obtain rfl:i=n:=by omega
  refine⟨l,?_,rfl,List.Perm.refl _,hs⟩;refine Ay K TI (Aa7 ..) ?_;exact Ai rfl
 |succ m ih=>
  intro i l hm hi ha hb hl h0 hs;have hI:a+i<l.length:=by omega
  have hJ:b+i<l.length:=by omega
  have hlen:=I2 l (a+i) (b+i);obtain⟨r,g,hr,hp,ho⟩:=ih (i+1) (Dc l (a+i) (b+i)) (by omega) (by omega) ha (by omega) (by omega) (by omega) (Adp (by omega) (by omega) hs h0);rw[hlen]at g hr;refine⟨r,?_,hr,hp.trans (Hc _ _ _),ho⟩;refine Ay K TI (Aa7 ..) ?_;refine Al ?_;rw[J5 (a:=b) (b:=i) (by omega),J5 (a:=a) (b:=i) (by omega),BQ (by omega)];rw[Au,AY hJ];refine Ac ?_;refine(BA Az l (b+i) hJ _).trans ?_;simp only[eP,eN,ND,DK,Ab];rw[Au,AY hI];refine Ac ?_;refine(BA Az l (a+i) hI _).trans ?_;simp only[eP,eN,ND,DK,Ab];have s1:=CS Az l (a+i) hI l[(b+i)];have s2:=CS Az (l.set (a+i) l[(b+i)]) (b+i) (by rw[AtX];exact hJ) l[(a+i)];rw[←Ef hI hJ]at s2;simp only[eP,eN]at s1 s2;rw[Au,AY hI];refine Ac ?_;rw[show AtG (0+(a+i)*3+3) (Ag eP l).length=Δ by rw[AT Az];simp;omega];refine Ac ?_;rw[Au,AY hJ];refine Ac ?_;rw[s1,s2];rw[show AtG (0+(b+i)*3+3) (Ag eP (l.set (a+i) l[(b+i)])).length=Δ by rw[AT Az,AtX];simp;omega];refine Ac ?_;refine Aa g ?_;rfl
theorem Ws{a b n:Nat}{l:List Pt}(ha:a+n<=b)(hb:b+n<=l.length)(hl:l.length<=1000000000) :
  ∃ r:List Pt,D.ask (.fn 275) [.sl 0 0 l.length 3,iv (a:Int),iv (b:Int),iv (n:Int),Fw] [Fx l]=Θ (.tup [],[.set (Fx r)])
   ∧ r.length=l.length/\r.Perm l/\SwR l r a b n:=by
 obtain⟨r,g,h⟩:=AnU K a b n l _ 0 l rfl (by omega) ha hb hl rfl (Adq l a b);refine⟨r,?_,h⟩;refine Aw K TI (ArL ..) ?_;refine Aa g ?_;rfl
theorem AnM(m:Nat):∀(s i j:Nat) (l:List Pt),i+j=s->0<i->0<j->i<=m->m+j<=l.length->l.length<=1000000000->
  ∃(r:List Pt) (d:Nat),D.ask (.lp 265 0) [.sl 0 0 l.length 3,iv (m:Int),Fw,iv (i:Int),iv (j:Int)] [Fx l]=Θ (.tup [iv 0,.sl 0 0 l.length 3,iv (m:Int),Fw,iv (d:Int)],[.set (Fx r)])
   ∧ r.length=l.length/\r.Perm l/\d<=m/\m+d<=l.length/\∀ r2:List Pt,SwR r r2 (m-d) m d->Rot l r2 (m-i) m (m+j):=by
 intro s
 induction s using Au5 with
 |_ s ih=>
  intro i j l hs hi hj him hl hn
  by_cases he:i=j
  .subst he
   refine⟨l,i,?_,rfl,List.Perm.refl _,him,hl,λr2 h=>Ac0 him h⟩;refine Ay K Qi (Vs ..) ?_;exact AO rfl rfl
  by_cases hlt:j<i
  .obtain⟨r,g,hr,hp,hsw⟩:=Ws K (a:=m-i) (b:=m) (n:=j) (l:=l) (by omega) hl hn
   obtain⟨r2,d,g2,hr2,hp2,hd1,hd2,hd3⟩:=ih (i-j+j) (by omega) (i-j) j r rfl (by omega) hj (by omega) (by omega) (by omega);rw[hr]at g2 hr2 hd2;refine⟨r2,d,?_,hr2,hp2.trans hp,hd1,hd2,λr3 h=>AcY him hlt hsw (hd3 r3 h)⟩;refine Ay K Qi (Vs ..) ?_;refine Aq ?_;refine Al ?_;rw[Cy him (by omega),Cy (a:=i) (b:=j) (by omega) (by omega)];refine Aa g ?_;simp only[Fw,ND,DK,Ab];refine Aa g2 ?_;rfl
  .obtain⟨r,g,hr,hp,hsw⟩:=Ws K (a:=m-i) (b:=m+j-i) (n:=i) (l:=l) (by omega) (by omega) hn
   obtain⟨r2,d,g2,hr2,hp2,hd1,hd2,hd3⟩:=ih (i+(j-i)) (by omega) i (j-i) r rfl hi (by omega) him (by omega) (by omega);rw[hr]at g2 hr2 hd2;refine⟨r2,d,?_,hr2,hp2.trans hp,hd1,hd2,λr3 h=>Zn him (by omega) hsw (hd3 r3 h)⟩;refine Ay K Qi (Vs ..) ?_;refine Aq ?_;refine Ai ?_;rw[Cy him (by omega),J5 (a:=m) (b:=j) (by omega),Cy (a:=m+j) (b:=i) (by omega) (by omega),Cy (a:=j) (b:=i) (by omega) (by omega)];refine Aa g ?_;simp only[Fw,ND,DK,Ab];refine Aa g2 ?_;rfl
theorem AcZ{a m b:Nat}{l:List Pt}(ha:a<m)(hm:m<b)(hb:b<=l.length)(hl:l.length<=1000000000) :
  ∃ r:List Pt,D.ask (.fn 265) [.sl 0 0 l.length 3,iv (a:Int),iv (m:Int),iv (b:Int),Fw] [Fx l]=Θ (.tup [],[.set (Fx r)])
   ∧ r.length=l.length/\r.Perm l/\Rot l r a m b:=by
 obtain⟨r,d,g,hr,hp,hd1,hd2,hd3⟩:=AnM K m _ (m-a) (b-m) l rfl (by omega) (by omega) (by omega) (by omega) hl;obtain⟨r2,g2,hr2,hp2,hsw⟩:=Ws K (a:=m-d) (b:=m) (n:=d) (l:=r) (by omega) (by omega) (by omega);have h:=hd3 r2 hsw;rw[show m-(m-a)=a by omega,show m+(b-m)=b by omega]at h;rw[hr]at g2;refine⟨r2,?_,by omega,hp2.trans hp,h⟩;refine Aw K Qi (ArK ..) ?_;rw[Cy (a:=m) (b:=a) (by omega) (by omega),Cy (a:=b) (b:=m) (by omega) (by omega)];refine Aa g ?_;simp only[Fw,ND,DK,Ab];rw[Cy hd1 (by omega)];refine Aa g2 ?_;rfl
theorem Ai5(a m b:Nat)(l:List Pt)(hl:l.length<=1000000000)(ha:a<m)(hb:b<=l.length)(hs:Srt Pt.v l m b):∀(k i j:Nat),j-i=k->m<=i->i<=j->j<=b->(∀ p,m<=p->p<i->kf Pt.v l p<kf Pt.v l a)->(∀ p,j<=p->p<b->kf Pt.v l a<=kf Pt.v l p)->
  ∃ x:Nat,D.ask (.lp 235 0) [.sl 0 0 l.length 3,iv (a:Int),Fw,iv (i:Int),iv (j:Int)] [Fx l]=Θ (.tup [iv 0,.sl 0 0 l.length 3,iv (a:Int),iv (x:Int)],[.set (Fx l)])
   ∧ m<=x/\x<=b/\(∀ p,m<=p->p<x->kf Pt.v l p<kf Pt.v l a)/\(∀ p,x<=p->p<b->kf Pt.v l a<=kf Pt.v l p):=by
 intro k
 induction k using Au5 with
 |_ k ih=>
  intro i j hk hmi hij hjb h1 h2
  by_cases he:i<j
  .have hH:(i+j) / 2<l.length:=by omega
   have hA:a<l.length:=by omega
   have kh:kf Pt.v l ((i+j) / 2)=l[(i+j) / 2].v:=F5 Pt.v hH;have ka:kf Pt.v l a=l[a].v:=F5 Pt.v hA
   by_cases hlt:l[(i+j) / 2].v<l[a].v
   .obtain⟨x,g,hx⟩:=ih (j-((i+j) / 2+1)) (by omega) ((i+j) / 2+1) j rfl (by omega) (by omega) hjb (λp p1 p2=>by
     by_cases hp:p=(i+j) / 2
     .rw[hp,kh,ka];exact hlt
     .have:=hs p ((i+j) / 2) p1 (by omega) (by omega)
      omega) h2
    refine⟨x,?_,hx⟩;refine Ay K CI (Vp ..) ?_;refine Al ?_;refine Ai ?_ (by decide);rw[DG (by omega),BQ (by omega)];rw[Au,AY hH];refine Ac ?_;refine(BA Az l ((i+j) / 2) hH _).trans ?_;simp only[eP,eN,ND,DK,Ab];rw[Au,AY hA];refine Ac ?_;refine(BA Az l a hA _).trans ?_;simp only[eP,eN,ND,DK,Ab];refine Aa (HE K l[(i+j) / 2] l[a]) ?_;simp only[ND,DK,Ab];refine Al ?_ (FF.2 hlt);refine Aa g ?_;rfl
   .obtain⟨x,g,hx⟩:=ih ((i+j) / 2-i) (by omega) i ((i+j) / 2) rfl hmi (by omega) (by omega) h1 (λp p1 p2=>by
     by_cases hp:p=(i+j) / 2
     .rw[hp];omega
     .have:=hs ((i+j) / 2) p (by omega) (by omega) (by omega)
      omega)
    refine⟨x,?_,hx⟩;refine Ay K CI (Vp ..) ?_;refine Al ?_;refine Ai ?_ (by decide);rw[DG (by omega)];rw[Au,AY hH];refine Ac ?_;refine(BA Az l ((i+j) / 2) hH _).trans ?_;simp only[eP,eN,ND,DK,Ab];rw[Au,AY hA];refine Ac ?_;refine(BA Az l a hA _).trans ?_;simp only[eP,eN,ND,DK,Ab];refine Aa (HE K l[(i+j) / 2] l[a]) ?_;simp only[ND,DK,Ab];refine Ai ?_ (λh=>hlt (FF.1 h));refine Aa g ?_;rfl
  .obtain rfl:i=j:=by omega
   refine⟨i,?_,hmi,hjb,h1,h2⟩;refine Ay K CI (Vp ..) ?_;exact Ai rfl
theorem Ai6(a x:Nat)(l0:List Pt):∀(n k:Nat) (l:List Pt),x-1-k=n->a<=k->k<x->x<=l.length->l.length<=1000000000->l.length=l0.length->Rot l0 l a (a+1) (k+1)->
  ∃ r:List Pt,D.ask (.lp 235 1) [.sl 0 0 l.length 3,iv (x:Int),iv (k:Int)] [Fx l]=Θ (.tup [iv 2,.sl 0 0 l.length 3],[.set (Fx r)])
   ∧ r.length=l.length/\r.Perm l/\Rot l0 r a (a+1) x:=by
 intro n
 induction n with
 |zero=>
  intro k l hn ha hk hx hl h0 ht;obtain rfl:x=k+1:=by omega
  refine⟨l,?_,rfl,List.Perm.refl _,ht⟩;refine Ay K CI (Aa3 ..) ?_;rw[Iy (by omega) (by omega)];exact Ai rfl
 |succ n ih=>
  intro k l hn ha hk hx hl h0 ht;have hI:k<l.length:=by omega
  have hJ:k+1<l.length:=by omega
  have hlen:=I2 l k (k+1);obtain⟨r,g,hr,hp,ho⟩:=ih (k+1) (Dc l k (k+1)) (by omega) (by omega) (by omega) (by omega) (by omega) (by omega) (AnN ha (by omega) h0 ht);rw[hlen]at g hr;refine⟨r,?_,hr,hp.trans (Hc _ _ _),ho⟩;refine Ay K CI (Aa3 ..) ?_;rw[Iy (by omega) (by omega)];refine Al ?_;rw[BQ (by omega)];rw[Au,AY hJ];refine Ac ?_;refine(BA Az l (k+1) hJ _).trans ?_;simp only[eP,eN,ND,DK,Ab];rw[Au,AY hI];refine Ac ?_;refine(BA Az l k hI _).trans ?_;simp only[eP,eN,ND,DK,Ab];have s1:=CS Az l k hI l[(k+1)];have s2:=CS Az (l.set k l[(k+1)]) (k+1) (by rw[AtX];exact hJ) l[k];rw[←Ef hI hJ]at s2;simp only[eP,eN]at s1 s2;rw[Au,AY hI];refine Ac ?_;rw[show AtG (0+k*3+3) (Ag eP l).length=Δ by rw[AT Az];simp;omega];refine Ac ?_;rw[Au,AY hJ];refine Ac ?_;rw[s1,s2];rw[show AtG (0+(k+1)*3+3) (Ag eP (l.set k l[(k+1)])).length=Δ by rw[AT Az,AtX];simp;omega];refine Ac ?_;refine Aa g ?_;rfl
theorem Ai7(a m:Nat)(l:List Pt)(hl:l.length<=1000000000)(hb:m<l.length)(hs:Srt Pt.v l a m):∀(k i j:Nat),j-i=k->a<=i->i<=j->j<=m->(∀ p,a<=p->p<i->kf Pt.v l p<=kf Pt.v l m)->(∀ p,j<=p->p<m->kf Pt.v l m<kf Pt.v l p)->
  ∃ x:Nat,D.ask (.lp 235 2) [.sl 0 0 l.length 3,iv (m:Int),Fw,iv (i:Int),iv (j:Int)] [Fx l]=Θ (.tup [iv 4,.sl 0 0 l.length 3,iv (m:Int),iv (x:Int)],[.set (Fx l)])
   ∧ a<=x/\x<=m/\(∀ p,a<=p->p<x->kf Pt.v l p<=kf Pt.v l m)/\(∀ p,x<=p->p<m->kf Pt.v l m<kf Pt.v l p):=by
 intro k
 induction k using Au5 with
 |_ k ih=>
  intro i j hk hmi hij hjb h1 h2
  by_cases he:i<j
  .have hH:(i+j) / 2<l.length:=by omega
   have kh:kf Pt.v l ((i+j) / 2)=l[(i+j) / 2].v:=F5 Pt.v hH;have ka:kf Pt.v l m=l[m].v:=F5 Pt.v hb
   by_cases hlt:l[m].v<l[(i+j) / 2].v
   .obtain⟨x,g,hx⟩:=ih ((i+j) / 2-i) (by omega) i ((i+j) / 2) rfl hmi (by omega) (by omega) h1 (λp p1 p2=>by
     by_cases hp:p=(i+j) / 2
     .rw[hp];omega
     .have:=hs ((i+j) / 2) p (by omega) (by omega) (by omega)
      omega)
    refine⟨x,?_,hx⟩;refine Ay K CI (Vq ..) ?_;refine Al ?_;refine Ai ?_ (by decide);rw[DG (by omega)];rw[Au,AY hb];refine Ac ?_;refine(BA Az l m hb _).trans ?_;simp only[eP,eN,ND,DK,Ab];rw[Au,AY hH];refine Ac ?_;refine(BA Az l ((i+j) / 2) hH _).trans ?_;simp only[eP,eN,ND,DK,Ab];refine Aa (HE K l[m] l[(i+j) / 2]) ?_;simp only[ND,DK,Ab];refine Al ?_ (FF.2 hlt);refine Aa g ?_;rfl
   .obtain⟨x,g,hx⟩:=ih (j-((i+j) / 2+1)) (by omega) ((i+j) / 2+1) j rfl (by omega) (by omega) hjb (λp p1 p2=>by
     by_cases hp:p=(i+j) / 2
     .rw[hp];omega
     .have:=hs p ((i+j) / 2) p1 (by omega) (by omega)
      omega) h2
    refine⟨x,?_,hx⟩;refine Ay K CI (Vq ..) ?_;refine Al ?_;refine Ai ?_ (by decide);rw[DG (by omega),BQ (by omega)];rw[Au,AY hb];refine Ac ?_;refine(BA Az l m hb _).trans ?_;simp only[eP,eN,ND,DK,Ab];rw[Au,AY hH];refine Ac ?_;refine(BA Az l ((i+j) / 2) hH _).trans ?_;simp only[eP,eN,ND,DK,Ab];refine Aa (HE K l[m] l[(i+j) / 2]) ?_;simp only[ND,DK,Ab];refine Ai ?_ (λh=>hlt (FF.1 h));refine Aa g ?_;rfl
  .obtain rfl:i=j:=by omega
   refine⟨i,?_,hmi,hjb,h1,h2⟩;refine Ay K CI (Vq ..) ?_;exact Ai rfl
theorem Ai8(m x:Nat)(l0:List Pt):∀(n k:Nat) (l:List Pt),k-x=n->x<=k->k<=m->m<l.length->l.length<=1000000000->l.length=l0.length->Rot l0 l k m (m+1)->
  ∃ r:List Pt,D.ask (.lp 235 3) [.sl 0 0 l.length 3,iv (x:Int),iv (k:Int)] [Fx l]=Θ (.tup [iv 6,.sl 0 0 l.length 3],[.set (Fx r)])
   ∧ r.length=l.length/\r.Perm l/\Rot l0 r x m (m+1):=by
 intro n
 induction n with
 |zero=>
  intro k l hn hx hk hm hl h0 ht;obtain rfl:x=k:=by omega
  refine⟨l,?_,rfl,List.Perm.refl _,ht⟩;refine Ay K CI (Aa4 ..) ?_;exact Ai rfl
 |succ n ih=>
  intro k l hn hx hk hm hl h0 ht;obtain⟨j,rfl⟩:∃ j,k=j+1:=⟨k-1,by omega⟩;have hI:j+1<l.length:=by omega
  have hJ:j<l.length:=by omega
  have hlen:=I2 l (j+1) j;obtain⟨r,g,hr,hp,ho⟩:=ih j (Dc l (j+1) j) (by omega) (by omega) (by omega) (by omega) (by omega) (by omega) (AcX (by omega) (by omega) h0 ht);rw[hlen]at g hr;refine⟨r,?_,hr,hp.trans (Hc _ _ _),ho⟩;refine Ay K CI (Aa4 ..) ?_;refine Al ?_;rw[Ph (by omega)];rw[Au,AY hJ];refine Ac ?_;refine(BA Az l j hJ _).trans ?_;simp only[eP,eN,ND,DK,Ab];rw[Au,AY hI];refine Ac ?_;refine(BA Az l (j+1) hI _).trans ?_;simp only[eP,eN,ND,DK,Ab];have s1:=CS Az l (j+1) hI l[j];have s2:=CS Az (l.set (j+1) l[j]) j (by rw[AtX];exact hJ) l[(j+1)];rw[←Ef hI hJ]at s2;simp only[eP,eN]at s1 s2;rw[Au,AY hI];refine Ac ?_;rw[show AtG (0+(j+1)*3+3) (Ag eP l).length=Δ by rw[AT Az];simp;omega];refine Ac ?_;rw[Au,AY hJ];refine Ac ?_;rw[s1,s2];rw[show AtG (0+j*3+3) (Ag eP (l.set (j+1) l[j])).length=Δ by rw[AT Az,AtX];simp;omega];refine Ac ?_;refine Aa g ?_;rfl
theorem X1(a m b mid x y:Nat)(l:List Pt)(hl:l.length<=1000000000)(hb:b<=l.length)(hs1:Srt Pt.v l a m)(hs2:Srt Pt.v l m b)(hx:a<=x)(hy:y<=m)(hn:mid+m<=x+b)(hm:y<=mid)(hmid:mid<=b)(hmb:m<=b):∀(k s r:Nat),r-s=k->Bs Pt.v l (mid+m) x y s r->
  ∃ z:Nat,D.ask (.lp 235 4) [.sl 0 0 l.length 3,iv (a:Int),iv (m:Int),iv (b:Int),Fw,iv (mid:Int),iv ((mid+m:Nat):Int),iv (s:Int),iv (r:Int),iv ((mid+m-1:Nat):Int)] [Fx l]=Θ (.tup [iv 8,.sl 0 0 l.length 3,iv (a:Int),iv (m:Int),iv (b:Int),Fw,iv (mid:Int),iv ((mid+m:Nat):Int),iv (z:Int)],[.set (Fx l)])
   ∧ Bs Pt.v l (mid+m) x y z z:=by
 intro k
 induction k using Au5 with
 |_ k ih=>
  intro s r hk B;have:=B.xs;have:=B.sr;have:=B.ry
  by_cases he:s<r
  .have hH:(s+r) / 2<l.length:=by omega
   have hP:mid+m-1-(s+r) / 2<l.length:=by omega
   have kh:kf Pt.v l ((s+r) / 2)=l[(s+r) / 2].v:=F5 Pt.v hH;have kp:kf Pt.v l (mid+m-1-(s+r) / 2)=l[mid+m-1-(s+r) / 2].v:=F5 Pt.v hP
   by_cases hlt:l[mid+m-1-(s+r) / 2].v<l[(s+r) / 2].v
   .obtain⟨z,g,hz⟩:=ih ((s+r) / 2-s) (by omega) s ((s+r) / 2) rfl (B.dn Pt.v hs1 hs2 hx hy (by omega) (by omega) (by omega) (by omega) (by omega))
    refine⟨z,?_,hz⟩;refine Ay K CI (Vr ..) ?_;refine Al ?_;refine Ai ?_ (by decide);rw[DG (by omega),Cy (a:=mid+m-1) (b:=(s+r) / 2) (by omega) (by omega)];rw[Au,AY hP];refine Ac ?_;refine(BA Az l (mid+m-1-(s+r) / 2) hP _).trans ?_;simp only[eP,eN,ND,DK,Ab];rw[Au,AY hH];refine Ac ?_;refine(BA Az l ((s+r) / 2) hH _).trans ?_;simp only[eP,eN,ND,DK,Ab];refine Aa (HE K l[mid+m-1-(s+r) / 2] l[(s+r) / 2]) ?_;simp only[ND,DK,Ab];refine Al ?_ (FF.2 hlt);refine Aa g ?_;rfl
   .obtain⟨z,g,hz⟩:=ih (r-((s+r) / 2+1)) (by omega) ((s+r) / 2+1) r rfl (B.up Pt.v hs1 hs2 hx hy (by omega) (by omega) (by omega) (by omega) (by omega))
    refine⟨z,?_,hz⟩;refine Ay K CI (Vr ..) ?_;refine Al ?_;refine Ai ?_ (by decide);rw[DG (by omega),Cy (a:=mid+m-1) (b:=(s+r) / 2) (by omega) (by omega),BQ (by omega)];rw[Au,AY hP];refine Ac ?_;refine(BA Az l (mid+m-1-(s+r) / 2) hP _).trans ?_;simp only[eP,eN,ND,DK,Ab];rw[Au,AY hH];refine Ac ?_;refine(BA Az l ((s+r) / 2) hH _).trans ?_;simp only[eP,eN,ND,DK,Ab];refine Aa (HE K l[mid+m-1-(s+r) / 2] l[(s+r) / 2]) ?_;simp only[ND,DK,Ab];refine Ai ?_ (λh=>hlt (FF.1 h));refine Aa g ?_;rfl
  .obtain rfl:s=r:=by omega
   refine⟨s,?_,B⟩;refine Ay K CI (Vr ..) ?_;exact Ai rfl
end
def tl2(D:Orc)(n:Nat)(mid e b:Int)(cs:List AV):KR:=
 br (Af.lt mid e)
  (br (Af.lt e b)
   (AG D (.fn 235) [.sl 0 0 n 3,iv mid,iv e,iv b,Fw] [δ cs Δ Δ] λr o=>
   Lc r λcs4=>
   Fv cs4<|
   ER o λc l=>
   GI Δ Δ c λcs5=>
   DE l<|
   Θ ((υ [],[AtH (δ cs5 Δ Δ)])))
   (Θ ((υ [],[AtH (δ cs Δ Δ)]))))
  (Θ ((υ [],[AtH (δ cs Δ Δ)])))
def tl1(D:Orc)(n:Nat)(a s mid e b:Int)(cs:List AV):KR:=
 br (Af.lt a s)
  (br (Af.lt s mid)
   (AG D (.fn 235) [.sl 0 0 n 3,iv a,iv s,iv mid,Fw] [δ cs Δ Δ] λr o=>
   Lc r λcs4=>
   Fv cs4<|
   ER o λc l=>
   GI Δ Δ c λcs5=>
   DE l<|
   tl2 D n mid e b cs5)
   (tl2 D n mid e b cs))
  (tl2 D n mid e b cs)
section
variable {D:Orc}
def M3(D:Orc)(N:Nat):Prop:=∀(l:List Pt) (a m b:Nat),b-a<N->a<m->m<b->b<=l.length->l.length<=1000000000->Srt Pt.v l a m->Srt Pt.v l m b->
 ∃ r:List Pt,D.ask (.fn 235) [.sl 0 0 l.length 3,iv (a:Int),iv (m:Int),iv (b:Int),Fw] [Fx l]=Θ (.tup [],[.set (Fx r)])
  ∧ r.length=l.length/\r.Perm l/\Srt Pt.v r a b/\Same0 l r a b
theorem An0{N:Nat}(ih:M3 D N){l:List Pt}{mid e b:Nat}(hN:b-mid<N)(h1:mid<=e)(h2:e<=b)(hb:b<=l.length)(hl:l.length<=1000000000)(s1:Srt Pt.v l mid e)(s2:Srt Pt.v l e b) :
  ∃ r:List Pt,tl2 D l.length (mid:Int) (e:Int) (b:Int) (Ag eP l)=Θ (.tup [],[.set (Fx r)])/\r.length=l.length/\r.Perm l/\Srt Pt.v r mid b/\Same0 l r mid b:=by
 by_cases q1:mid<e
 .by_cases q2:e<b
  .obtain⟨r,g,hr,hp,ho,hs⟩:=ih l mid e b hN q1 q2 hb hl s1 s2
   refine⟨r,?_,hr,hp,ho,hs⟩;unfold tl2;refine Al ?_;refine Al ?_;refine Aa g ?_;rfl
  .refine⟨l,?_,rfl,List.Perm.refl _,K3 Pt.v (.inr (by omega)) s1 s2,Db _ _ _⟩
   unfold tl2;refine Al ?_;exact Ai rfl
 .refine⟨l,?_,rfl,List.Perm.refl _,K3 Pt.v (.inl (by omega)) s1 s2,Db _ _ _⟩
  unfold tl2;exact Ai rfl
theorem Mb{N:Nat}(ih:M3 D N){l:List Pt}{a s mid e b:Nat}(hN:mid-a<N)(hN2:b-mid<N)(h1:a<=s)(h2:s<=mid)(h3:mid<=e)(h4:e<=b)(hb:b<=l.length)(hl:l.length<=1000000000)(s1:Srt Pt.v l a s)(s2:Srt Pt.v l s mid)(s3:Srt Pt.v l mid e)(s4:Srt Pt.v l e b)(lo:Low Pt.v l a mid b) :
  ∃ r:List Pt,tl1 D l.length (a:Int) (s:Int) (mid:Int) (e:Int) (b:Int) (Ag eP l)=Θ (.tup [],[.set (Fx r)])/\r.length=l.length/\r.Perm l/\Srt Pt.v r a b/\Same0 l r a b:=by
 have fin:∀{l1:List Pt},l1.length=l.length->l1.Perm l->Srt Pt.v l1 a mid->Same0 l l1 a mid->∃ r:List Pt,tl2 D l.length (mid:Int) (e:Int) (b:Int) (Ag eP l1)=Θ (.tup [],[.set (Fx r)])/\r.length=l.length/\r.Perm l/\Srt Pt.v r a b/\Same0 l r a b:=by
  intro l1 k1 k2 k3 k4;have lo1:=Acb Pt.v lo k2 k4 (by omega);obtain⟨r,g,hr,hp,ho,hs⟩:=An0 ih (l:=l1) (mid:=mid) (e:=e) (b:=b) hN2 h3 h4 (by omega) (by omega) (s3.same' Pt.v k4 (.inr (η _))) (s4.same' Pt.v k4 (.inr h3));rw[k1]at g hr;exact⟨r,g,hr,hp.trans k2,AiY Pt.v (k3.same' Pt.v hs (.inl (η _))) ho (Y3 Pt.v lo1 hp hs (by omega)),(k4.wide (η _) (by omega)).trans (hs.wide (by omega) (η _))⟩
 by_cases q1:a<s
 .by_cases q2:s<mid
  .obtain⟨r,g,hr,hp,ho,hs⟩:=ih l a s mid hN q1 q2 (by omega) hl s1 s2
   obtain⟨r2,g2,h⟩:=fin hr hp ho hs;refine⟨r2,?_,h⟩;unfold tl1;refine Al ?_;refine Al ?_;refine Aa g ?_;exact g2
  .obtain⟨r2,g2,h⟩:=fin (l1:=l) rfl (List.Perm.refl _) (K3 Pt.v (.inr (by omega)) s1 s2) (Db _ _ _)
   refine⟨r2,?_,h⟩;unfold tl1;refine Al ?_;exact(DL (by omega)).trans g2
 .obtain⟨r2,g2,h⟩:=fin (l1:=l) rfl (List.Perm.refl _) (K3 Pt.v (.inl (by omega)) s1 s2) (Db _ _ _)
  refine⟨r2,?_,h⟩;unfold tl1;exact(DL (by omega)).trans g2
variable (K:Knows As EQ D)
include K
theorem Ai4:∀ N,M3 D N:=by
 intro N
 induction N with
 |zero=>intro l a m b h;omega
 |succ N ih0=>
  intro l a m b hN ha hm hb hl hs1 hs2
  by_cases hA:m-a=1
  .obtain rfl:m=a+1:=by omega
   obtain⟨x,g1,x1,x2,x3,x4⟩:=Ai5 K a (a+1) b l hl (by omega) hb hs2 _ (a+1) b rfl (η _) (by omega) (η _) (λp p1 p2=>by omega) (λp p1 p2=>by omega);obtain⟨r,g2,r1,r2,r3⟩:=Ai6 K a x l _ a l rfl (η _) (by omega) (by omega) hl rfl (Gz (.inr rfl) (by omega) (by omega));refine⟨r,?_,r1,r2,TZ Pt.v x1 x2 hs2 x3 x4 r3,λp hp=>r3.out p (by omega)⟩;refine Aw K CI (S6 ..) ?_;rw[Cy (a:=a+1) (b:=a) (by omega) (by omega)];refine AO ?_;refine Aa g1 ?_;simp only[Fw,ND,DK,Ab];refine Aa g2 ?_;rfl
  by_cases hB:b-m=1
  .obtain rfl:b=m+1:=by omega
   obtain⟨x,g1,x1,x2,x3,x4⟩:=Ai7 K a m l hl (by omega) hs1 _ a m rfl (η _) (by omega) (η _) (λp p1 p2=>by omega) (λp p1 p2=>by omega);obtain⟨r,g2,r1,r2,r3⟩:=Ai8 K m x l _ m l rfl x2 (η _) (by omega) hl rfl (Gz (.inl rfl) (by omega) (by omega));refine⟨r,?_,r1,r2,VV Pt.v x1 x2 hs1 x3 x4 r3,λp hp=>r3.out p (by omega)⟩;refine Aw K CI (S6 ..) ?_;rw[Cy (a:=m) (b:=a) (by omega) (by omega)];refine Aq ?_;rw[Cy (a:=m+1) (b:=m) (by omega) (by omega)];refine AO ?_;refine Aa g1 ?_;simp only[Fw,ND,DK,Ab];refine Ac ?_;refine Aa g2 ?_;rfl
  have ih:M3 D N:=ih0
  by_cases hC:(a+b) / 2<m
  .obtain⟨z,g4,B⟩:=X1 K a m b ((a+b) / 2) ((a+b) / 2+m-b) ((a+b) / 2) l hl hb hs1 hs2 (by omega) (by omega) (by omega) (by omega) (by omega) (by omega) _ ((a+b) / 2+m-b) ((a+b) / 2) rfl ⟨η _,by omega,η _,λc c1 c2=>by omega,λc c1 c2=>by omega⟩
   have C:=B.cut Pt.v hs1 hs2 (by omega) (by omega) (by omega) (by omega) (.inr (by omega)) (.inr rfl);have:=C.asl;have:=C.sm;have:=C.me;have:=C.eb;have:=C.mid;have:=B.ry;have:=B.xs;have e0:Af.sub .i64 (((a+b) / 2+m:Nat):Int) (z:Int)=(((a+b) / 2+m-z:Nat):Int):=Cy (by omega) (by omega)
   by_cases w1:z<m
   .by_cases w2:m<(a+b) / 2+m-z
    .obtain⟨l1,g5,k1,k2,k3⟩:=AcZ K w1 w2 (by omega) hl
     obtain⟨f1,f2,f3,f4,f5⟩:=E6 Pt.v C hs1 hs2 k3;obtain⟨r,g6,r1,r2,r3,r4⟩:=Mb ih (l:=l1) (a:=a) (s:=z) (mid:=(a+b) / 2) (e:=(a+b) / 2+m-z) (b:=b) (by omega) (by omega) (by omega) (by omega) (by omega) (by omega) (by omega) (by omega) f1 f2 f3 f4 f5;have sm:Same0 l l1 a b:=λp hp=>k3.out p (by omega)
     rw[k1]at g6 r1;refine⟨r,?_,r1,r2.trans k2,r3,sm.trans r4⟩;refine Aw K CI (S6 ..) ?_;rw[Cy (a:=m) (b:=a) (by omega) (by omega)];refine Aq ?_;rw[Cy (a:=b) (b:=m) (by omega) (by omega)];refine Aq ?_;refine Ai ?_ (by decide);rw[DG (a:=a) (b:=b) (by omega)];rw[J5 (a:=(a+b) / 2) (b:=m) (by omega),Iy (a:=(a+b) / 2+m) (by omega) (by omega)];rw[Cy (a:=(a+b) / 2+m) (b:=b) (by omega) (by omega)];refine Al ?_;refine Aa g4 ?_;simp only[Fw,ND,DK,Ab];refine Ac ?_;rw[e0];refine Al ?_;refine Al ?_;refine Aa g5 ?_;exact g6
    .obtain⟨f1,f2,f3,f4,f5⟩:=E6 Pt.v C hs1 hs2 (Gz (l:=l) (.inr (by omega)) (by omega) (by omega))
     obtain⟨r,g6,r1,r2,r3,r4⟩:=Mb ih (l:=l) (a:=a) (s:=z) (mid:=(a+b) / 2) (e:=(a+b) / 2+m-z) (b:=b) (by omega) (by omega) (by omega) (by omega) (by omega) (by omega) (by omega) (by omega) f1 f2 f3 f4 f5;refine⟨r,?_,r1,r2,r3,r4⟩;refine Aw K CI (S6 ..) ?_;rw[Cy (a:=m) (b:=a) (by omega) (by omega)];refine Aq ?_;rw[Cy (a:=b) (b:=m) (by omega) (by omega)];refine Aq ?_;refine Ai ?_ (by decide);rw[DG (a:=a) (b:=b) (by omega)];rw[J5 (a:=(a+b) / 2) (b:=m) (by omega),Iy (a:=(a+b) / 2+m) (by omega) (by omega)];rw[Cy (a:=(a+b) / 2+m) (b:=b) (by omega) (by omega)];refine Al ?_;refine Aa g4 ?_;simp only[Fw,ND,DK,Ab];refine Ac ?_;rw[e0];refine Al ?_;refine Ai ?_;exact g6
   .obtain⟨f1,f2,f3,f4,f5⟩:=E6 Pt.v C hs1 hs2 (Gz (l:=l) (.inl (by omega)) (by omega) (by omega))
    obtain⟨r,g6,r1,r2,r3,r4⟩:=Mb ih (l:=l) (a:=a) (s:=z) (mid:=(a+b) / 2) (e:=(a+b) / 2+m-z) (b:=b) (by omega) (by omega) (by omega) (by omega) (by omega) (by omega) (by omega) (by omega) f1 f2 f3 f4 f5;refine⟨r,?_,r1,r2,r3,r4⟩;refine Aw K CI (S6 ..) ?_;rw[Cy (a:=m) (b:=a) (by omega) (by omega)];refine Aq ?_;rw[Cy (a:=b) (b:=m) (by omega) (by omega)];refine Aq ?_;refine Ai ?_ (by decide);rw[DG (a:=a) (b:=b) (by omega)];rw[J5 (a:=(a+b) / 2) (b:=m) (by omega),Iy (a:=(a+b) / 2+m) (by omega) (by omega)];rw[Cy (a:=(a+b) / 2+m) (b:=b) (by omega) (by omega)];refine Al ?_;refine Aa g4 ?_;simp only[Fw,ND,DK,Ab];refine Ac ?_;rw[e0];refine Ai ?_;exact g6
  .obtain⟨z,g4,B⟩:=X1 K a m b ((a+b) / 2) a m l hl hb hs1 hs2 (by omega) (by omega) (by omega) (by omega) (by omega) (by omega) _ a m rfl ⟨η _,by omega,η _,λc c1 c2=>by omega,λc c1 c2=>by omega⟩
   have C:=B.cut Pt.v hs1 hs2 (by omega) (by omega) (by omega) (by omega) (.inl rfl) (.inl rfl);have:=C.asl;have:=C.sm;have:=C.me;have:=C.eb;have:=C.mid;have:=B.ry;have:=B.xs;have e0:Af.sub .i64 (((a+b) / 2+m:Nat):Int) (z:Int)=(((a+b) / 2+m-z:Nat):Int):=Cy (by omega) (by omega)
   by_cases w1:z<m
   .by_cases w2:m<(a+b) / 2+m-z
    .obtain⟨l1,g5,k1,k2,k3⟩:=AcZ K w1 w2 (by omega) hl
     obtain⟨f1,f2,f3,f4,f5⟩:=E6 Pt.v C hs1 hs2 k3;obtain⟨r,g6,r1,r2,r3,r4⟩:=Mb ih (l:=l1) (a:=a) (s:=z) (mid:=(a+b) / 2) (e:=(a+b) / 2+m-z) (b:=b) (by omega) (by omega) (by omega) (by omega) (by omega) (by omega) (by omega) (by omega) f1 f2 f3 f4 f5;have sm:Same0 l l1 a b:=λp hp=>k3.out p (by omega)
     rw[k1]at g6 r1;refine⟨r,?_,r1,r2.trans k2,r3,sm.trans r4⟩;refine Aw K CI (S6 ..) ?_;rw[Cy (a:=m) (b:=a) (by omega) (by omega)];refine Aq ?_;rw[Cy (a:=b) (b:=m) (by omega) (by omega)];refine Aq ?_;refine Ai ?_ (by decide);rw[DG (a:=a) (b:=b) (by omega)];rw[J5 (a:=(a+b) / 2) (b:=m) (by omega),Iy (a:=(a+b) / 2+m) (by omega) (by omega)];refine Ai ?_;refine Aa g4 ?_;simp only[Fw,ND,DK,Ab];refine Ac ?_;rw[e0];refine Al ?_;refine Al ?_;refine Aa g5 ?_;exact g6
    .obtain⟨f1,f2,f3,f4,f5⟩:=E6 Pt.v C hs1 hs2 (Gz (l:=l) (.inr (by omega)) (by omega) (by omega))
     obtain⟨r,g6,r1,r2,r3,r4⟩:=Mb ih (l:=l) (a:=a) (s:=z) (mid:=(a+b) / 2) (e:=(a+b) / 2+m-z) (b:=b) (by omega) (by omega) (by omega) (by omega) (by omega) (by omega) (by omega) (by omega) f1 f2 f3 f4 f5;refine⟨r,?_,r1,r2,r3,r4⟩;refine Aw K CI (S6 ..) ?_;rw[Cy (a:=m) (b:=a) (by omega) (by omega)];refine Aq ?_;rw[Cy (a:=b) (b:=m) (by omega) (by omega)];refine Aq ?_;refine Ai ?_ (by decide);rw[DG (a:=a) (b:=b) (by omega)];rw[J5 (a:=(a+b) / 2) (b:=m) (by omega),Iy (a:=(a+b) / 2+m) (by omega) (by omega)];refine Ai ?_;refine Aa g4 ?_;simp only[Fw,ND,DK,Ab];refine Ac ?_;rw[e0];refine Al ?_;refine Ai ?_;exact g6
   .obtain⟨f1,f2,f3,f4,f5⟩:=E6 Pt.v C hs1 hs2 (Gz (l:=l) (.inl (by omega)) (by omega) (by omega))
    obtain⟨r,g6,r1,r2,r3,r4⟩:=Mb ih (l:=l) (a:=a) (s:=z) (mid:=(a+b) / 2) (e:=(a+b) / 2+m-z) (b:=b) (by omega) (by omega) (by omega) (by omega) (by omega) (by omega) (by omega) (by omega) f1 f2 f3 f4 f5;refine⟨r,?_,r1,r2,r3,r4⟩;refine Aw K CI (S6 ..) ?_;rw[Cy (a:=m) (b:=a) (by omega) (by omega)];refine Aq ?_;rw[Cy (a:=b) (b:=m) (by omega) (by omega)];refine Aq ?_;refine Ai ?_ (by decide);rw[DG (a:=a) (b:=b) (by omega)];rw[J5 (a:=(a+b) / 2) (b:=m) (by omega),Iy (a:=(a+b) / 2+m) (by omega) (by omega)];refine Ai ?_;refine Aa g4 ?_;simp only[Fw,ND,DK,Ab];refine Ac ?_;rw[e0];refine Ai ?_;exact g6
theorem Y5:Nu D:=λl a m b h1 h2 h3 h4 h5 h6=>Ai4 K (b-a+1) l a m b (by omega) h1 h2 h3 h4 h5 h6
theorem Uw{l:List Pt}(hl:l.length<=1000000000) :
  ∃ r:List Pt,D.ask (.fn 136) [.sl 0 0 l.length 3,Fw] [Fx l]=Θ (.tup [],[.set (Fx r)])
   ∧ r.length=l.length/\r.Perm l/\Srt Pt.v r 0 r.length:=AiX K (Y5 K) hl
end
def fnZ:AV:=.fn (.func 141) [] []
section
variable {D:Orc} (K:Knows As EQ D)
include K
theorem Ami(P:Pt->Bool)(l:List Pt)(hl:l.length<=1000000000)(hP:∀ p∈l,D.ask (.fn 141) [.agg (eP p)] []=Θ (bv (P p),[])):∀(m i:Nat),l.length-i=m->i<=l.length->
  D.ask (.lp 199 0) [.sl 0 0 l.length 3,fnZ,iv (l.length:Int),iv (i:Int)] [δ (Ag eP l) Δ Δ]
   = if i+(l.drop i).findIdx P<l.length then Θ (.tup [bv Δ,.sl 0 0 l.length 3,iv ((i+(l.drop i).findIdx P:Nat):Int)],[.set (δ (Ag eP l) Δ Δ)]) else Θ (.tup [iv 0,.sl 0 0 l.length 3],[.set (δ (Ag eP l) Δ Δ)]):=by
 intro m
 induction m with
 |zero=>
  intro i hm hi;rw[if_neg (by omega)];refine Ay K Og (Rr ..) ?_;exact Ai rfl
 |succ m ih=>
  intro i hm hi;have h1:i<l.length:=by omega
  have g:=hP l[i] (At1 h1);have ih':=ih (i+1) (by omega) (by omega);rw[ε h1,Aw3]
  cases hp:P l[i]with
  |true=>
   rw[hp]at g;rw[if_pos (by simpa using h1)];refine Ay K Og (Rr ..) ?_;refine Al ?_;rw[Au,AY h1];refine Ac ?_;refine(BA Az l i h1 _).trans ?_;simp only[eP,eN,ND,DK,Ab];refine Aa g ?_;simp only[ND,DK,Ab];rfl
  |false=>
   rw[hp]at g;rw[show (bif Φ then 0 else(l.drop (i+1)).findIdx P+1)=(l.drop (i+1)).findIdx P+1 from rfl,show i+((l.drop (i+1)).findIdx P+1)=i+1+(l.drop (i+1)).findIdx P by omega]
   by_cases h:i+1+(l.drop (i+1)).findIdx P<l.length
   .rw[if_pos h]at ih' ⊢
    refine Ay K Og (Rr ..) ?_;refine Al ?_;rw[Au,AY h1];refine Ac ?_;refine(BA Az l i h1 _).trans ?_;simp only[eP,eN,ND,DK,Ab];refine Aa g ?_;simp only[ND,DK,Ab];rw[BQ (by omega)];refine Aa ih' ?_;rfl
   .rw[if_neg h]at ih' ⊢
    refine Ay K Og (Rr ..) ?_;refine Al ?_;rw[Au,AY h1];refine Ac ?_;refine(BA Az l i h1 _).trans ?_;simp only[eP,eN,ND,DK,Ab];refine Aa g ?_;simp only[ND,DK,Ab];rw[BQ (by omega)];refine Aa ih' ?_;rfl
theorem Amj(P:Pt->Bool)(l:List Pt)(hl:l.length<=1000000000)(hP:∀ p∈l,D.ask (.fn 141) [.agg (eP p)] []=Θ (bv (P p),[])) :
  D.ask (.fn 199) [.sl 0 0 l.length 3,fnZ] [δ (Ag eP l) Δ Δ]
   = Θ (iv (if l.findIdx P<l.length then(l.findIdx P:Int) else -1),[.set (δ (Ag eP l) Δ Δ)]):=by
 have g:=Ami K P l hl hP _ 0 rfl (by omega);rw[Aty,AtQ]at g;refine Aw K Og (Arz ..) ?_
 by_cases h:l.findIdx P<l.length
 .rw[if_pos h]at g ⊢
  refine Aa g ?_;rfl
 .rw[if_neg h]at g ⊢
  refine Aa g ?_;rfl
theorem AlU(P:Pt->Bool)(Q:Pt->Prop)(hP:∀ p,Q p->D.ask (.fn 141) [.agg (eP p)] []=Θ (bv (P p),[])):∀(m j i:Nat) (l:List Pt),l.length-j=m->i<=j->j<=l.length->l.length<=1000000000->(∀ p∈l.drop j,Q p)->
  ∃(r:List Pt) (c:Nat),D.ask (.lp 140 0) [.sl 0 0 l.length 3,fnZ,iv (i:Int),iv (j:Int)] [δ (Ag eP l) Δ Δ]
   = Θ (.tup [iv 0,.sl 0 0 l.length 3,iv (c:Int)],[.set (δ (Ag eP r) Δ Δ)])
   ∧ r.length=l.length/\c<=l.length/\r.take c=l.take i++(l.drop j).filter (λp=>!P p):=by
 intro m
 induction m with
 |zero=>
  intro j i l hm hi hj hl hq;refine⟨l,i,?_,rfl,by omega,?_⟩
  .refine Ay K Od (Vk ..) ?_
   exact Ai rfl
  .rw[AtM (by omega),List.filter_nil,Auu]
 |succ m ih=>
  intro j i l hm hi hj hl hq;have h1:j<l.length:=by omega
  have h0:i<l.length:=by omega
  have ed:=ε h1;have g:=hP l[j] (hq _ (by rw[ed];exact AtL ..));rw[ed,Axa]
  cases hp:P l[j]with
  |true=>
   rw[hp]at g;obtain⟨r,c,g2,hr,hc,he⟩:=ih (j+1) i l (by omega) (by omega) (by omega) hl (λp h=>hq p (by rw[ed];exact AtF _ h));refine⟨r,c,?_,hr,hc,he⟩;refine Ay K Od (Vk ..) ?_;refine Al ?_;rw[Au,AY h1];refine Ac ?_;refine(BA Az l j h1 _).trans ?_;simp only[eP,eN,ND,DK,Ab];refine Aa g ?_;simp only[ND,DK,Ab];rw[BQ (by omega)];refine Aa g2 ?_;rfl
  |false=>
   rw[hp]at g;have hd:(l.set i l[j]).drop (j+1)=l.drop (j+1):=List.drop_set_of_lt (by omega);obtain⟨r,c,g2,hr,hc,he⟩:=ih (j+1) (i+1) (l.set i l[j]) (by rw[AtX];omega) (by omega) (by rw[AtX];omega) (by rw[AtX];exact hl) (λp h=>hq p (by rw[ed];rw[hd]at h;exact AtF _ h));rw[AtX]at g2 hr hc;have s1:=CS Az l i h0 l[j];simp only[eP,eN]at s1;refine⟨r,c,?_,hr,hc,?_⟩
   .skip
    refine Ay K Od (Vk ..) ?_;refine Al ?_;rw[Au,AY h1];refine Ac ?_;refine(BA Az l j h1 _).trans ?_;simp only[eP,eN,ND,DK,Ab];refine Aa g ?_;simp only[ND,DK,Ab];rw[Au,AY h0];refine Ac ?_;rw[show AtG (0+i*3+3) (Ag eP l).length=Δ by rw[AT Az];simp;omega];refine Ac ?_;rw[s1,BQ (by omega),BQ (by omega)];refine Aa g2 ?_;rfl
   .rw[he,hd,List.take_succ_eq_append_getElem (by rw[AtX];exact h0),List.getElem_set_self,List.take_set_of_le (η _),AtK]
    rfl
omit K in
theorem N3(P:Pt->Bool):∀ l:List Pt,l.findIdx P<l.length->l.take (l.findIdx P)++(l.drop (l.findIdx P+1)).filter (λp=>!P p)=l.filter (λp=>!P p)
 |[],h=>by simp at h
 |x::r,h=>by
  rw[Aw3]at h ⊢
  cases hp:P x with
  |true=>simp[hp]
  |false=>
   rw[hp]at h;have:=N3 P r (by simpa using h);simp only[cond_false,List.take_succ_cons,List.drop_succ_cons,Axa,hp,Bool.not_false,if_true,List.cons_append];rw[this]
omit K in
theorem Tc(P:Pt->Bool)(l:List Pt)(h:¬ l.findIdx P<l.length):l.filter (λp=>!P p)=l:=by
 rw[List.filter_eq_self];intro p hp
 cases e:P p with
 |false=>rfl
 |true=>exact absurd (List.findIdx_lt_length_of_exists ⟨p,hp,e⟩) h
omit K in
theorem O8:∀(l:List Pt) (i:Nat),i<=l.length->(Ag eP l).take (i*3)=Ag eP (l.take i)
 |[],i,_=>by simp[Ag]
 |y::r,0,_=>by simp[Ag]
 |y::r,i+1,h=>by
  rw[show (i+1)*3=3+i*3 by omega]
  show (eP y++Ag eP r).take (3+i*3)=eP y++Ag eP (r.take i)
  rw[Axd,AuD (by rw[Az];omega),Az,show 3+i*3-3=i*3 by omega,O8 r i (by simpa using h)]
theorem AaG(P:Pt->Bool)(l:List Pt)(hl:l.length<=1000000000)(hP:∀ p∈l,D.ask (.fn 141) [.agg (eP p)] []=Θ (bv (P p),[])) :
  ∃ cells:List AV,D.ask (.fn 140) [.sl 0 0 l.length 3,fnZ] [δ (Ag eP l) Δ Δ]
   = Θ (.sl 0 0 (l.filter λp=>!P p).length 3,[.set (δ cells Δ Δ)])
   ∧ cells.take ((l.filter λp=>!P p).length*3)=Ag eP (l.filter λp=>!P p)/\(l.filter λp=>!P p).length*3<=cells.length:=by
 have g:=Amj K P l hl hP
 by_cases h:l.findIdx P<l.length
 .rw[if_pos h]at g
  obtain⟨r,c,g2,hr,hc,he⟩:=AlU K P (λp=>p∈l) hP _ (l.findIdx P+1) (l.findIdx P) l rfl (by omega) (by omega) hl (λp hp=>List.mem_of_mem_drop hp);rw[N3 P l h]at he;have hk:(l.filter λp=>!P p).length=c:=by
   rw[←he,AtV];omega
  rw[hk,←he];refine⟨AF (Ag eP r) (0+c*3) (BS [iv 0,bv Φ,.v (.slice Ξ 0 0)] ((l.length-c)*3)),?_,?_,?_⟩
  .refine Aw K Od (Aoz ..) ?_
   refine Aa g ?_;simp only[ND,DK,Ab];refine Aq ?_;rw[BQ (by omega)];refine Aa g2 ?_;simp only[ND,DK,Ab];rw[Au,show Jf c l.length l.length=Δ by unfold Jf;rw[Avp hc,Avp (η _)]];refine Ac ?_;rw[show AtG (0+c*3+(l.length-c)*3) (Ag eP r).length=Δ by rw[AT Az];simp;omega];refine Ac ?_;rw[Au,show Jf 0 c l.length=Δ by unfold Jf;rw[Avp (At7 _),Avp hc]];rfl
  .unfold AF
   have hlen:((Ag eP r).take (0+c*3)).length=c*3:=by
    rw[AtV,AT Az];omega
   rw[AtK,List.take_left' hlen,AtQ,O8 r c (by omega)]
  .unfold AF
   rw[κ,κ,AtV,AT Az];omega
 .rw[if_neg h]at g
  rw[Tc P l h];refine⟨Ag eP l,?_,Bc Az l rfl,by rw[AT Az];exact η _⟩;refine Aw K Od (Aoz ..) ?_;refine Aa g ?_;simp only[ND,DK,Ab];exact AO rfl rfl
end
structure PartF (D:Orc):Prop where
 clone:∀ l:List Pt,l.length<=1000000000->D.ask (.fn 135) [.ls (l.map eP)] []=Θ (.sl 0 0 l.length 3,[.set (Fx l)])
 grow:∀ n:Nat,n<=1000000000->D.ask (.fn 262) [.v (.slice Ξ 0 0),iv (n:Int)] []=Θ (.sl 0 0 0 3,[.set (Fx [])])
section
variable (o:List Pt) (x:Pt)
theorem AiJ(k:List AV->KR):EW (Ag eP (o++[x])) (0+o.length*3+0) 1 k=k [iv x.v]:=by
 have hl:=AT Az o;rw[←Bg];unfold EW;rw[show AtG (0+o.length*3+0+1) (Ag eP o++eP x).length=Δ by rw[κ,hl,Az];simp<;>omega]
 show k (((Ag eP o++eP x).drop (0+o.length*3+0)).take 1)=_
 rw[List.drop_left' (by omega)];rfl
theorem Aqm(k:List AV->KR):EW (Ag eP (o++[x])) (0+o.length*3+1) 2 k=k [bv x.z.neg,eN x.z.abs]:=by
 have hl:=AT Az o;rw[←Bg];unfold EW;rw[show AtG (0+o.length*3+1+2) (Ag eP o++eP x).length=Δ by rw[κ,hl,Az];simp]
 show k (((Ag eP o++eP x).drop (0+o.length*3+1)).take 2)=_
 rw[List.drop_append,AwJ (by omega),show 0+o.length*3+1-(Ag eP o).length=1 by omega];rfl
theorem Aqr(z:Zi):AF (Ag eP (o++[x])) (0+o.length*3+1) [bv z.neg,eN z.abs]=Ag eP (o++[⟨x.v,z⟩]):=by
 have hl:=AT Az o;rw[←Bg,←Bg];unfold AF;rw[Axd,AuD (by omega),show 0+o.length*3+1-(Ag eP o).length=1 by omega,AwJ (by rw[κ,Az,hl];simp),Auu,AtK];rfl
end
section
variable {D:Orc} (Kt:Knows As GD D) (Ks:Knows As EQ D) (Z:ZF D) (C:PartF D)
include Z
include Kt in
theorem Em{z:Zi}(hz:Lz 1000000000 z):D.ask (.fn 138) [.agg (eZ z)] []=Θ (.agg (eZ (AD (zv z))),[]):=by
 refine Aw Kt Aj1 (Aq4 ..) ?_;refine Aa (Z.frm z hz) ?_;rfl
include Ks in
theorem Qn{p:Pt}(hz:Lz 1000000000 p.z):D.ask (.fn 141) [.agg (eP p)] []=Θ (bv (decide (zv p.z=0)),[]):=by
 have g:=Z.sign p.z hz;refine Aw Ks Aj3 (Aq6 ..) ?_;refine Aa g ?_;simp only[ND,DK,Ab]
 by_cases h:zv p.z=0
 .rw[decide_eq_true h,h]
  exact HD rfl
 .rw[decide_eq_false h]
  refine Jt ?_;unfold Ck;split
  .omega
  .split
   .omega
   .omega
include Kt in
theorem AcB{k:Nat}(ps:List Pt)(hl:ps.length<=1000000)(hk:k+ps.length<=900000000)(hz:∀ p∈ps,Lz k p.z)(r0:List (List AV))(r1:Bool)(r2:List (List AV))(k1:Bool)(k2:List (List AV)):∀(m i:Nat) (s:List (Int × Int)),ps.length-i=m->i<=ps.length->s.length<=i->(∀ q∈s,InB (k+i) q.2)->
  D.ask (.lp 62 0) [.ptr 0 0,.ptr 1 0,.ls (ps.map eP),iv (ps.length:Int),iv (i:Int)] [⟨[.ls r0,bv r1,.ls r2],Δ,Φ⟩,⟨[.sl 2 0 (s.map AR).reverse.length 3,bv k1,.ls k2],Δ,Φ⟩,Fx (s.map AR).reverse]
   = Θ (.tup [iv 0,.ptr 0 0,.ptr 1 0],[.set ⟨[.ls r0,bv r1,.ls r2],Δ,Φ⟩,.set ⟨[.sl 3 0 ((((ps.drop i).map pv).foldl C1 s).map AR).reverse.length 3,bv k1,.ls k2],Δ,Φ⟩,.del,.set (Fx ((((ps.drop i).map pv).foldl C1 s).map AR).reverse)]):=by
 intro m
 induction m with
 |zero=>
  intro i s hm hi hs hb;rw[AtM (by omega),AuY,List.foldl_nil];refine Ay Kt AbK (AjH ..) ?_;exact Ai rfl
 |succ m ih0=>
  intro i s hm hi hs hb;have h1:i<ps.length:=by omega
  have hzk:=hz ps[i] (At1 h1);have hzi:=hzk.mono (show k<=1000000000 by omega);rw[ε h1,At5,Avr];have ih:=ih0 (i+1) (C1 s (pv ps[i])) (by omega) (by omega) (by have:=HT s (pv ps[i]);omega) (HQ hb (hzk.inb.mono (show k<=k+i by omega)));refine Ay Kt AbK (AjH ..) ?_;refine Al ?_;rw[Au,Ax (ξ h1)];simp only[eP,eN,ND,DK,Ab];generalize hS:((ps.drop (i+1)).map pv).foldl C1 (C1 s (pv ps[i]))=S at ih ⊢
  by_cases hneg:ps[i].v<0
  .have e:C1 s (pv ps[i])=s:=by
    have hn:(pv ps[i]).1<0:=hneg
    cases s with
    |nil=>rw[EF,if_pos hn]
    |cons q r=>rw[DR,if_pos hn]
   rw[e]at ih;refine Al ?_ hneg;rw[BQ (by omega)];refine Aa ih ?_;rfl
  have hn:¬(pv ps[i]).1<0:=hneg;refine Ai ?_ hneg
  cases s with
  |nil=>
   rw[EF,if_neg hn]at ih;refine Cn ?_ (by decide);obtain⟨o,ho0⟩:∃ o:List Pt,o=[]:=⟨_,rfl⟩;have eo:(([pv ps[i]].map AR).reverse)=o++[AR (pv ps[i])]:=by rw[ho0];rfl
   rw[eo]at ih;have ho:o.length<=i:=by rw[ho0];exact At7 _
   rw[show ((([]:List (Int × Int)).map AR).reverse)=o from ho0.symm];have hf:Bf (o.length+1) 40=Δ:=AJ (by omega) (by omega);have hb1:AtG (0+o.length*3) (Ag eP o).length=Δ:=AL Az o (by omega);have e3:AtD 0 (ο (0+o.length*3) (Ag eP o))++[iv ps[i].v,bv (AD (zv ps[i].z)).neg,eN (AD (zv ps[i].z)).abs]=Ag eP (o++[AR (pv ps[i])]):=by
    rw[Aty,Bc Az o (by omega)];exact Bg eP o (AR (pv ps[i]))
   refine Aa (Em Kt Z hzi) ?_;simp only[eZ,eN,ND,DK,Ab]at e3 ⊢;rw[hf];refine Ac ?_;rw[hb1];refine Ac ?_;rw[e3,BQ (by omega)];rw[κ,AtT]at ih;refine Aa ih ?_;rfl
  |cons q r=>
   have eo:(((q::r).map AR).reverse)=(r.map AR).reverse++[AR q]:=by simp
   have hq:=hb q (AtL ..);rw[eo];rw[DR,if_neg hn]at ih;have hro:(r.map AR).reverse.length<=i:=by simp at hs ⊢;omega
   by_cases heq:q.1=(pv ps[i]).1
   .rw[if_pos heq,At5,Av1]at ih
    generalize (r.map AR).reverse=o at hro ih ⊢;have e1:Af.sub .i64 (((o++[AR q]).length:Nat):Int) 1=((o.length:Nat):Int):=by
     rw[κ,AtT];exact Ph (by omega)
    have hlt:o.length<(o++[AR q]).length:=by simp
    have ga:=Z.add (AD q.2) ps[i].z (hq.lz.mono (by omega)) (hzk.mono (by omega));rw[Bm]at ga;have sp:=Aqr o (AR q) (AD (q.2+zv ps[i].z));rw[e1];refine BV ?_;rw[Au,AY hlt];refine Ac ?_;refine(AiJ o (AR q) _).trans ?_;simp only[ND,DK,Ab];refine AO ?_ (show (AR q).v=ps[i].v from heq);rw[Au,AY hlt];refine Ac ?_;refine(Aqm o (AR q) _).trans ?_;simp only[eN,ND,DK,Ab];refine Aa ga ?_;simp only[eZ,eN,ND,DK,Ab]at sp ⊢;rw[Au,AY hlt];refine Ac ?_;rw[show AtG (0+o.length*3+1+2) (Ag eP (o++[AR q])).length=Δ by rw[AT Az];simp;omega];refine Ac ?_;rw[sp,BQ (by omega)];have el:(o++[AR q]).length=(o++[AR (q.1,q.2+(pv ps[i]).2)]).length:=by simp
    rw[el];refine Aa ih ?_;rfl
   .rw[if_neg heq,At5,Av1,eo]at ih
    have hlen:((r.map AR).reverse++[AR q]).length<=i:=by simp at hs ⊢;omega
    have e1:Af.sub .i64 ((((r.map AR).reverse++[AR q]).length:Nat):Int) 1=(((r.map AR).reverse.length:Nat):Int):=by
     rw[κ,AtT];exact Ph (by omega)
    have hlt:(r.map AR).reverse.length<((r.map AR).reverse++[AR q]).length:=by simp
    rw[e1];refine BV ?_;rw[Au,AY hlt];refine Ac ?_;refine(AiJ _ (AR q) _).trans ?_;simp only[ND,DK,Ab];refine Aq ?_ (show ¬(AR q).v=ps[i].v from heq);generalize (r.map AR).reverse++[AR q]=o at hlen ih ⊢;have ho:=hlen;have hf:Bf (o.length+1) 40=Δ:=AJ (by omega) (by omega);have hb1:AtG (0+o.length*3) (Ag eP o).length=Δ:=AL Az o (by omega);have e3:AtD 0 (ο (0+o.length*3) (Ag eP o))++[iv ps[i].v,bv (AD (zv ps[i].z)).neg,eN (AD (zv ps[i].z)).abs]=Ag eP (o++[AR (pv ps[i])]):=by
     rw[Aty,Bc Az o (by omega)];exact Bg eP o (AR (pv ps[i]))
    refine Aa (Em Kt Z hzi) ?_;simp only[eZ,eN,ND,DK,Ab]at e3 ⊢;rw[hf];refine Ac ?_;rw[hb1];refine Ac ?_;rw[e3,BQ (by omega)];rw[κ,AtT]at ih;refine Aa ih ?_;rfl
include Kt Ks C in
theorem Fo{n k:Nat}{t:Tm}(h:TmB n k t)(hn:n<=1000000)(hk:k+n<=900000000):D.ask (.fn 62) [.agg (eT t)] []=Θ (.agg (eT t.lf.pln.tm),[]):=by
 obtain⟨ps,kz⟩:=t;have hlen:ps.length<=n:=h.len;obtain⟨r,gs,gr,gp,go⟩:=Uw Ks (l:=ps) (by omega);have gc:=C.clone ps (by omega);have gk:=Em Kt Z (h.k.mono (show k<=1000000000 by omega));have hzr:∀ p∈r,Lz k p.z:=λp hp=>h.ps p (gp.mem_iff.1 hp)
 have gl:=AcB Kt Z r (k:=k) (by omega) (by omega) hzr [] Φ [] (AD (zv kz)).neg ((AD (zv kz)).abs.map eL) _ 0 [] rfl (by omega) (by simp) (by simp);rw[Aty]at gl;have hsrt:(r.map pv).Pairwise λa b=>a.1<=b.1:=by
  rw[Av0];exact G7 Pt.v go
 have hpl:=RC hsrt (gp.map pv);generalize hS:(r.map pv).foldl C1 []=S at gl hpl;have hsb:∀ p∈((S.map AR).reverse),Lz 1000000000 p.z:=by
  have key:∀(t s:List (Int × Int)) (j:Nat),(∀ q∈s,InB (k+j) q.2)->(∀ q∈t,InB k q.2)->∀ q∈t.foldl C1 s,InB (k+j+t.length) q.2:=by
   intro t
   induction t with
   |nil=>intro s j hs _ q hq;exact hs q hq
   |cons p t ih=>
    intro s j hs ht q hq;have:=ih (C1 s p) (j+1) (HQ hs ((ht p (AtL ..)).mono (show k<=k+j by omega))) (λq hq=>ht q (AtF _ hq)) q hq;rw[γ];exact this.mono (by omega)
  intro p hp;rw[Av8,Auw]at hp;obtain⟨q,hq,rfl⟩:=hp;have:=key (r.map pv) [] 0 (by simp) (λq hq=>by
   rw[Auw]at hq;obtain⟨p,hp,rfl⟩:=hq;exact(hzr p hp).inb) q (by rw[hS];exact hq)
  rw[AtP]at this;exact(this.lz).mono (by omega)
 have hSl:S.length<=1000000:=by
  have key:∀(t s:List (Int × Int)),(t.foldl C1 s).length<=s.length+t.length:=by
   intro t
   induction t with
   |nil=>intro s;simp
   |cons p t ih=>
    intro s;have:=ih (C1 s p);have h2:=HT s p;rw[Avr,γ];omega
  have:=key (r.map pv) [];rw[hS,AtP]at this;simp at this;omega
 obtain⟨cells,gd,gt,gle⟩:=AaG Ks (λp=>decide (zv p.z=0)) (S.map AR).reverse (by simp;omega) λp hp=>Qn Ks Z (hsb p hp)
 have hfin:((S.map AR).reverse).filter (λp=>!decide (zv p.z=0))=(Ba (ps.map pv)).map AR:=by
  rw[←hpl,←List.map_reverse,List.filter_map]
  congr 1
  refine List.filter_congr λq _=>?_
  show (!decide (zv (AD q.2)=0))=_
  rw[Bm]
 rw[hfin]at gd gt gle;refine Aw Kt AbK (e62 ..) ?_;refine Aa gc ?_;simp only[ND,DK,Ab];refine Aa gs ?_;simp only[ND,DK,Ab];refine Aa gk ?_;simp only[eZ,eN,ND,DK,Ab];rw[show AtG (0+ps.length*3) (Ag eP r).length=Δ from AL Az r (by omega)];refine Ac ?_;rw[Bp Az r (by omega),←gr];refine Aa gl ?_;simp only[ND,DK,Ab];refine Aa gd ?_;simp only[ND,DK,Ab];rw[show AtG (0+((Ba (ps.map pv)).map AR).length*3) cells.length=Δ by simp;simp at gle;omega];refine Ac ?_;rw[gt,CG Az];rfl
end
section
open Go.RowKit
def Qu:MFn:=AC [⟨36,(mB 3593),[],[],[(1,((mB 9),([],[])))]⟩,⟨36,(mB 234881088),[(6,3)],[],[(3,((mB 64),([],[])))]⟩] 230
def Mt:Hnt:=⟨[(262,(.sl 0 3,[.row Δ]))],[(0,[(1,([.ls,.int .i64],[]))]),(1,[(3,([.sl 1 3],[.del,.row Δ]))])],[(13,[.ls]),(14,[.ls]),(29,[.ls]),(30,[.ls])]⟩
def AkG:MFn:=AC [] 125
def AjV:Hnt:=⟨[(138,(.agg AK,[]))],[],[(3,AK)]⟩
def Ak4:MFn:=AC [] 185
def Akj:Hnt:=⟨[(62,(.agg Br,[])),(139,(.agg AK,[])),(230,(.ls,[]))],[],[(6,[.ls]),(8,[.ls]),(12,AK),(14,AK)]⟩
def ApY:MFn:=AC [] 68
def Apj:Hnt:=⟨[(126,(.agg AK,[])),(148,(.agg Br,[]))],[],[(3,Br)]⟩
def Xm:MFn:=AC [⟨35,(mB 114744),[(1000005,3)],[3,4],[(1,((mB 48),([],[3])))]⟩] 148
def Tw:Hnt:=⟨[(62,(.agg Br,[])),(158,(.agg AK,[]))],[(0,[(1,([.ptr 1 0,.ptr 2 0],[.del,.box Br,.box [.sl 4 3,.bool,.ls],.del,.row Δ]))])],[(9,AK),(10,AK),(14,[.ls]),(18,Bw),(19,Bw),(21,[.ls]),(23,[.int .i64]),(25,AK),(26,AK),(33,Br)]⟩
def AkI:MFn:=AC [] 127
def AjX:Hnt:=⟨[(68,(.agg Br,[])),(185,(.agg Br,[]))],[],[(5,Br),(6,Br)]⟩
def ApM:MFn:=AC [] 27
def Ao8:Hnt:=⟨[(62,(.agg Br,[]))],[],[(3,Br)]⟩
def ApN:MFn:=AC [] 28
def Ao9:Hnt:=⟨[(62,(.agg Br,[]))],[],[(3,Br)]⟩
def MI:List (Nat × MFn):=[(230,Qu),(125,AkG),(185,Ak4),(68,ApY),(148,Xm),(127,AkI),(27,ApM),(28,ApN)]
variable (A:Ar) (D:Orc)
theorem ArI(x0:Rw):BZ A D As Mt .n 230 Qu [Ψ x0] [] =
 Ae D (AtB 230 0) [Ψ x0,iv 0,Ψ x0,iv ↑(AI x0),iv 0] [] [.t,.C,.x,.X,.Y] λc l o=>
 br (Bn 1 c)
 (dk [.L,.I,.N,.E] [.l l,.o o] λxs n=>
 Ae D (ω 262) [AV.v (Value.slice Ξ 0 0),iv n] [] [.q 0 3,.R,.X,.E] λn1 cs1=>
 Ae D (AtB 230 1) [χ 0 0 n1 3,Ψ xs,iv ↑(AI xs),iv 0] [δ cs1 Δ Δ] [.t,.C,.x,.X,.Y] λc2 l4 o2=>
 br (Bn 3 c2)
 (dk [.C,.q 1 3,.N,.D,.R,.X,.E] [.l l4,.o o2] λn2 cs3=>
 br ((0+n2*3).ble cs3.length) (Θ ((Ψ (Bh n2 3 (ο (n2*3) cs3)),[]))) Ξ)
 (Ξ))
 (Ξ):=by kernel_rfl
theorem Aa1(t0:Rw)(t3:Int)(t9:Rw)(t10 t11:Int):Dy A D As Mt .n 230 0 (AU Qu 0).fst (AU Qu 0).snd [Ψ t0,iv t3,Ψ t9,iv t10,iv t11] [] =
 br (A.lt t11 t10)
 (unI t11 λi=>
 BC t9 i λcs=>
 dk [.L,.N] [.l cs] λxs=>
 br (A.lt (A.add θ t3 ↑(AI xs)) 0)
 (Ξ)
 (AG D (AtB 230 0) [Ψ t0,iv (A.add θ t3 ↑(AI xs)),Ψ t9,iv t10,iv (A.add θ t11 1)] [] λr o=>
 AE 0 [] (AH.mk [] 0 Ξ) [] r o))
 (Θ ((υ [iv 0,Ψ t0,iv t3],[]))):=by kernel_rfl
theorem Aa2(n6:Nat)(c6:List AV)(t25:Rw)(t26 t27:Int):Dy A D As Mt .n 230 1 (AU Qu 1).fst (AU Qu 1).snd [χ 0 0 n6 3,Ψ t25,iv t26,iv t27] [{ cells:=c6,st:=Δ,ex:=Δ }] =
 br (A.lt t27 t26)
 (unI t27 λi=>
 BC t25 i λcs=>
 dk [.L,.N] [.l cs] λxs=>
 br (EO 3 xs) (br ((AI xs).beq 0)
 (AG D (AtB 230 1) [χ 0 0 n6 3,Ψ t25,iv t26,iv (A.add θ t27 1)] [δ c6 Δ Δ] λr o=>
 AE 1 [0] (AH.mk [(0,δ c6 Δ Δ)] 1 Ξ) [] r o)
 (br (F8 (EP xs)) (br (Bf (n6+AI xs) 40) (br ((0+n6*3).ble c6.length) (AG D (AtB 230 1) [χ 0 0 (n6+AI xs) 3,Ψ t25,iv t26,iv (A.add θ t27 1)] [δ (AtD 0 (ο (0+n6*3) c6)++EP xs) Δ Δ] λr o=>
 AE 1 [1] (AH.mk [(1,δ (AtD 0 (ο (0+n6*3) c6)++EP xs) Δ Δ)] 2 Ξ) [0] r o) Ξ) Ξ) Ξ)) Ξ)
 (Θ ((υ [iv 2,χ 1 0 n6 3],[BO.del,AtH (δ c6 Δ Δ)]))):=by kernel_rfl
theorem AqX(x0_0:Bool)(x0_1:Rw):BZ A D As AjV .n 125 AkG [ψ [bv x0_0,Ψ x0_1]] [] =
 Ae D (ω 138) [ψ [bv x0_0,Ψ x0_1]] [] [.a,.B,.L,.N,.E] λb xs=>
 Θ ((ψ [Ψ [],bv b,Ψ xs],[])):=by kernel_rfl
theorem Art(x0_0:Rw)(x0_1:Bool)(x0_2 x1_0:Rw)(x1_1:Bool)(x1_2:Rw):BZ A D As Akj .n 185 Ak4 [ψ [Ψ x0_0,bv x0_1,Ψ x0_2],ψ [Ψ x1_0,bv x1_1,Ψ x1_2]] [] =
 Ae D (ω 230) [Ψ [[Ψ x0_0],[Ψ x1_0]]] [] [.l,.E] λxs=>
 Ae D (ω 139) [ψ [bv x0_1,Ψ x0_2],ψ [bv x1_1,Ψ x1_2]] [] [.a,.B,.L,.N,.E] λb xs1=>
 Ae D (ω 62) [ψ [Ψ xs,bv b,Ψ xs1]] [] [.a,.L,.B,.L,.N,.E] λxs2 b1 xs3=>
 Θ ((ψ [Ψ xs2,bv b1,Ψ xs3],[])):=by kernel_rfl
theorem e68(x0_0:Rw)(x0_1:Bool)(x0_2:Rw):BZ A D As Apj .n 68 ApY [ψ [Ψ x0_0,bv x0_1,Ψ x0_2]] [] =
 Ae D (ω 126) [iv (-1)] [] [.a,.B,.L,.N,.E] λb xs=>
 Ae D (ω 148) [ψ [Ψ x0_0,bv x0_1,Ψ x0_2],ψ [bv b,Ψ xs]] [] [.a,.L,.B,.L,.N,.E] λxs1 b1 xs2=>
 Θ ((ψ [Ψ xs1,bv b1,Ψ xs2],[])):=by kernel_rfl
theorem Arc(x0_0:Rw)(x0_1:Bool)(x0_2:Rw)(x1_0:Bool)(x1_1:Rw):BZ A D As Tw .n 148 Xm [ψ [Ψ x0_0,bv x0_1,Ψ x0_2],ψ [bv x1_0,Ψ x1_1]] [] =
 Ae D (ω 158) [ψ [bv x0_1,Ψ x0_2],ψ [bv x1_0,Ψ x1_1]] [] [.a,.B,.L,.N,.E] λb xs=>
 Ae D (AtB 148 0) [AtA 0 0,AtA 1 0,AtA 2 0,Ψ x0_0,iv ↑(AI x0_0),iv 0] [bk [bv x1_0,Ψ x1_1],bk [Ψ [],bv Φ,Ψ []],bk [χ 3 0 0 3,bv b,Ψ xs],δ [] Δ Δ] [.t,.C,.x,.X,.Y] λc l2 o1=>
 br (Bn 1 c)
 (dk [.P 1 0,.P 2 0,.N,.D,.T,.L,.B,.L,.N,.T,.C,.q 4 3,.B,.L,.N,.D,.R,.X,.E] [.l l2,.o o1] λ_ _ _ n b2 xs3 cs4=>
 br ((0+n*3).ble cs4.length) (AG D (ω 62) [ψ [Ψ (Bh n 3 (ο (n*3) cs4)),bv b2,Ψ xs3]] [] λr2 o2=>
 dk [.a,.L,.B,.L,.N,.E] [.v r2,.o o2] λxs4 b3 xs5=>
 Θ ((ψ [Ψ xs4,bv b3,Ψ xs5],[]))) Ξ)
 (Ξ):=by kernel_rfl
theorem AaK(i0:Bool)(i1 r0:Rw)(r1:Bool)(r2:Rw)(n5:Nat)(k1:Bool)(k2:Rw)(c5:List AV)(t14:Rw)(t15 t16:Int):Dy A D As Tw .n 148 0 (AU Xm 0).fst (AU Xm 0).snd [AtA 0 0,AtA 1 0,AtA 2 0,Ψ t14,iv t15,iv t16] [bk [bv i0,Ψ i1],bk [Ψ r0,bv r1,Ψ r2],bk [χ 3 0 n5 3,bv k1,Ψ k2],{ cells:=c5,st:=Δ,ex:=Δ }] =
 br (A.lt t16 t15)
 (unI t16 λi=>
 BC t14 i λcs=>
 dk [.I,.B,.L,.N] [.l cs] λn b xs=>
 Ae D (ω 158) [ψ [bv b,Ψ xs],ψ [bv i0,Ψ i1]] [] [.a,.B,.L,.N,.E] λb1 xs1=>
 br (Bf (n5+1) 40) (br ((0+n5*3).ble c5.length) (AG D (AtB 148 0) [AtA 0 0,AtA 1 0,AtA 2 0,Ψ t14,iv t15,iv (A.add θ t16 1)] [bk [bv i0,Ψ i1],bk [Ψ r0,bv r1,Ψ r2],bk [χ 3 0 (n5+1) 3,bv k1,Ψ k2],δ (AtD 0 (ο (0+n5*3) c5)++[iv n,bv b1,Ψ xs1]) Δ Δ] λr3 o1=>
 AE 4 [0,1,2,6] (AH.mk [(1,bk [Ψ r0,bv r1,Ψ r2]),(0,bk [bv i0,Ψ i1]),(2,bk [χ 6 0 (n5+1) 3,bv k1,Ψ k2]),(6,δ (AtD 0 (ο (0+n5*3) c5)++[iv n,bv b1,Ψ xs1]) Δ Δ),(5,δ [iv n,bv b1,Ψ xs1] Δ Δ),(4,bk [iv n,bv b,Ψ xs])] 7 Ξ) [3,2,0,1] r3 o1) Ξ) Ξ)
 (Θ ((υ [iv 0,AtA 1 0,AtA 2 0],[BO.del,AtH (bk [Ψ r0,bv r1,Ψ r2]),AtH (bk [χ 4 0 n5 3,bv k1,Ψ k2]),BO.del,AtH (δ c5 Δ Δ)]))):=by kernel_rfl
theorem AqZ(x0_0:Rw)(x0_1:Bool)(x0_2 x1_0:Rw)(x1_1:Bool)(x1_2:Rw):BZ A D As AjX .n 127 AkI [ψ [Ψ x0_0,bv x0_1,Ψ x0_2],ψ [Ψ x1_0,bv x1_1,Ψ x1_2]] [] =
 Ae D (ω 68) [ψ [Ψ x1_0,bv x1_1,Ψ x1_2]] [] [.a,.L,.B,.L,.N,.E] λxs b xs1=>
 Ae D (ω 185) [ψ [Ψ x0_0,bv x0_1,Ψ x0_2],ψ [Ψ xs,bv b,Ψ xs1]] [] [.a,.L,.B,.L,.N,.E] λxs2 b1 xs3=>
 Θ ((ψ [Ψ xs2,bv b1,Ψ xs3],[])):=by kernel_rfl
theorem e27(x0_0:Rw)(x0_1:Bool)(x0_2:Rw):BZ A D As Ao8 .n 27 ApM [ψ [Ψ x0_0,bv x0_1,Ψ x0_2]] [] =
 Ae D (ω 62) [ψ [Ψ x0_0,bv x0_1,Ψ x0_2]] [] [.a,.L,.B,.L,.N,.E] λxs b xs1=>
 Θ ((ψ [Ψ xs,bv b,Ψ xs1,bv Δ],[])):=by kernel_rfl
theorem e28(x0_0:Rw)(x0_1:Bool)(x0_2:Rw):BZ A D As Ao9 .n 28 ApN [ψ [Ψ x0_0,bv x0_1,Ψ x0_2]] [] =
 Ae D (ω 62) [ψ [Ψ x0_0,bv x0_1,Ψ x0_2]] [] [.a,.L,.B,.L,.N,.E] λxs b xs1=>
 Θ ((ψ [Ψ xs,bv b,Ψ xs1,bv Φ],[])):=by kernel_rfl
end
def eR(r:List Pt):List AV:=[.ls (r.map eP)]
theorem V4(p:Pt):F8 (eP p)=Δ:=rfl
def scP(x:Zi)(p:Pt):Pt:=⟨p.v,AD (zv p.z*zv x)⟩
theorem Alv{a b:Nat}(h:a+b<4611686018427387904):Af.add .i64 (a:Int) (b:Int)=((a+b:Nat):Int):=by
 rw[EM (by omega) (by omega)];omega
section
variable {D:Orc} (Kt:Knows As GD D) (Kf:Knows As MI D) (Ks:Knows As EQ D) (Z:ZF D) (C:PartF D)
include Kf
theorem AlL(rs:List (List Pt))(X:List (List AV))(hr:rs.length<=1000000):∀(m i s:Nat),rs.length-i=m->i<=rs.length->s+(rs.drop i).flatten.length<=1000000000->
  D.ask (.lp 230 0) [.ls X,iv (s:Int),.ls (rs.map eR),iv (rs.length:Int),iv (i:Int)] []=Θ (.tup [iv 0,.ls X,iv ((s+(rs.drop i).flatten.length:Nat):Int)],[]):=by
 intro m
 induction m with
 |zero=>
  intro i s hm hi hs;rw[AtM (by omega)];refine Ay Kf Mt (Aa1 ..) ?_;exact Ai rfl
 |succ m ih=>
  intro i s hm hi hs;have h1:i<rs.length:=by omega
  rw[ε h1,AuL,κ]at hs ⊢;have ih:=ih (i+1) (s+rs[i].length) (by omega) (by omega) (by omega);rw[show s+rs[i].length+(rs.drop (i+1)).flatten.length=s+(rs[i].length+(rs.drop (i+1)).flatten.length) by omega]at ih;refine Ay Kf Mt (Aa1 ..) ?_;refine Al ?_;rw[Au,Ax (ξ h1)];simp only[eR,ND,DK,Ab];rw[Ao,Alv (by omega),BQ (by omega)];refine Ai ?_;refine Aa ih ?_;rfl
theorem AlM(rs:List (List Pt))(hr:rs.length<=1000000):∀(m i:Nat) (out:List Pt),rs.length-i=m->i<=rs.length->out.length+(rs.drop i).flatten.length<=1000000000->
  D.ask (.lp 230 1) [.sl 0 0 out.length 3,.ls (rs.map eR),iv (rs.length:Int),iv (i:Int)] [Fx out]=Θ (.tup [iv 2,.sl 1 0 (out++(rs.drop i).flatten).length 3],[.del,.set (Fx (out++(rs.drop i).flatten))]):=by
 intro m
 induction m with
 |zero=>
  intro i out hm hi hs;rw[AtM (by omega),List.flatten_nil,Auu];refine Ay Kf Mt (Aa2 ..) ?_;exact Ai rfl
 |succ m ih=>
  intro i out hm hi hs;have h1:i<rs.length:=by omega
  rw[ε h1,AuL]at hs ⊢;rw[κ]at hs;have ih:=ih (i+1) (out++rs[i]) (by omega) (by omega) (by rw[κ];omega);rw[AtK]at ih;refine Ay Kf Mt (Aa2 ..) ?_;refine Al ?_;rw[Au,Ax (ξ h1)];revert hs ih;generalize rs[i]=r;intro hs ih;simp only[eR,ND,DK,Ab];rw[E8 Az,Ao,BQ (by omega)];refine Ac ?_
  by_cases h0:r=[]
  .subst h0
   rw[Auu]at ih;rw[AtZ]at ih ⊢;refine Ac ?_;refine Aa ih ?_;rfl
  .have hz:Nat.beq r.length 0=Φ:=by
    cases r with
    |nil=>exact absurd rfl h0
    |cons x r=>rfl
   rw[hz];refine BY ?_;rw[D1,Fl V4];refine Ac ?_;rw[AJ (n:=out.length+r.length) (b:=40) (by omega) (by omega)];refine Ac ?_;rw[show AtG (0+out.length*3) (Ag eP out).length=Δ from AL Az out (by omega)];refine Ac ?_;have e3:AtD 0 (ο (0+out.length*3) (Ag eP out))++Ag eP r=Ag eP (out++r):=by
    rw[Aty,Bc Az out (by omega)];simp[Ag]
   rw[e3];rw[show (out++r).length=out.length+r.length from κ]at ih;refine Aa ih ?_;rfl
include C in
theorem YC(a b:List Pt)(h:a.length+b.length<=1000000):D.ask (.fn 230) [.ls [[.ls (a.map eP)],[.ls (b.map eP)]]] []=Θ (.ls ((a++b).map eP),[]):=by
 have hf:([a,b]).flatten=a++b:=by simp
 have g0:=AlL Kf [a,b] (([a,b]).map eR) (by simp) _ 0 0 rfl (by simp) (by rw[Aty,hf,κ];omega);rw[Aty,hf,AtQ]at g0;have gg:=C.grow (a++b).length (by rw[κ];omega);have g1:=AlM Kf [a,b] (by simp) _ 0 [] rfl (by simp) (by rw[Aty,hf,κ];simp;omega);rw[Aty,hf,AtZ]at g1;refine Aw Kf Mt (ArI ..) ?_;refine Aa g0 ?_;simp only[ND,DK,Ab];refine Aa gg ?_;simp only[ND,DK,Ab];refine Aa g1 ?_;simp only[ND,DK,Ab];rw[show AtG (0+(a++b).length*3) (Ag eP (a++b)).length=Δ from AL Az (a++b) (by omega)];refine Ac ?_;rw[Bp Az (a++b) rfl];rfl
include Kt Ks Z C
theorem Alw{n m k:Nat}{a b:Tm}(ha:TmB n k a)(hb:TmB m k b)(hn:n+m<=1000000)(hk:k+1+(n+m)<=900000000):D.ask (.fn 185) [.agg (eT a),.agg (eT b)] []=Θ (.agg (eT (a.lf.add b.lf).tm),[]):=by
 obtain⟨ap,ak⟩:=a;obtain⟨bp,bk⟩:=b;have l1:ap.length<=n:=ha.len;have l2:bp.length<=m:=hb.len;have gc:=YC Kf C ap bp (by omega);have ga:=Z.add ak bk (ha.k.mono (by omega)) (hb.k.mono (by omega));have hT:TmB (n+m) (k+1) ⟨ap++bp,AD (zv ak+zv bk)⟩:=by
  refine⟨by simp;omega,λp hp=>?_,?_⟩
  .rcases List.mem_append.1 hp with h|h
   .exact(ha.ps p h).mono (by omega)
   .exact(hb.ps p h).mono (by omega)
  .exact(InB.add ha.k.inb hb.k.inb).lz
 have gp:=Fo Kt Ks Z C hT hn (by omega);have el:(⟨ap++bp,AD (zv ak+zv bk)⟩:Tm).lf.pln=Lf.add (Tm.lf ⟨ap,ak⟩) (Tm.lf ⟨bp,bk⟩):=by
  unfold Lf.add Tm.lf;simp only[List.map_append,Bm]
 rw[el]at gp;refine Aw Kf Akj (Art ..) ?_;refine Aa gc ?_;simp only[ND,DK,Ab];refine Aa ga ?_;simp only[eZ,eN,ND,DK,Ab];refine Aa gp ?_;rfl
omit Kt Ks C in
theorem Ada{k j:Nat}{x:Zi}(hx:Lz j x)(hx24:x.abs.length<24)(ps:List Pt)(hl:ps.length<=1000000)(hz:∀ p∈ps,Lz k p.z)(hk:k<=400000000)(hj:j<=400000000)(r0:List (List AV))(r1:Bool)(r2:List (List AV))(k1:Bool)(k2:List (List AV)):∀(m i:Nat) (out:List Pt),ps.length-i=m->i<=ps.length->out.length<=i->
  D.ask (.lp 148 0) [.ptr 0 0,.ptr 1 0,.ptr 2 0,.ls (ps.map eP),iv (ps.length:Int),iv (i:Int)] [⟨eZ x,Δ,Φ⟩,⟨[.ls r0,bv r1,.ls r2],Δ,Φ⟩,⟨[.sl 3 0 out.length 3,bv k1,.ls k2],Δ,Φ⟩,Fx out]
   = Θ (.tup [iv 0,.ptr 1 0,.ptr 2 0],[.del,.set ⟨[.ls r0,bv r1,.ls r2],Δ,Φ⟩,.set ⟨[.sl 4 0 (out++(ps.drop i).map (scP x)).length 3,bv k1,.ls k2],Δ,Φ⟩,.del,.set (Fx (out++(ps.drop i).map (scP x)))]):=by
 intro m
 induction m with
 |zero=>
  intro i out hm hi ho;rw[AtM (by omega),AuY,Auu];refine Ay Kf Tw (AaK ..) ?_;exact Ai rfl
 |succ m ih=>
  intro i out hm hi ho;have h1:i<ps.length:=by omega
  have hzk:=hz ps[i] (At1 h1);have gm:=Z.mul ps[i].z x (hzk.mono (by omega)) (hx.mono (by omega)) (.inr hx24);rw[ε h1,At5];have ih:=ih (i+1) (out++[scP x ps[i]]) (by omega) (by omega) (by simp;omega);rw[AtK,List.singleton_append,show (out++[scP x ps[i]]).length=out.length+1 by simp]at ih;have hf:Bf (out.length+1) 40=Δ:=AJ (by omega) (by omega);have hb1:AtG (0+out.length*3) (Ag eP out).length=Δ:=AL Az out (by omega);have e3:AtD 0 (ο (0+out.length*3) (Ag eP out))++[iv ps[i].v,bv (AD (zv ps[i].z*zv x)).neg,eN (AD (zv ps[i].z*zv x)).abs]=Ag eP (out++[scP x ps[i]]):=by
   rw[Aty,Bc Az out (by omega)];exact Bg eP out (scP x ps[i])
  obtain⟨xn,xa⟩:=x;refine Ay Kf Tw (AaK ..) ?_;refine Al ?_;rw[Au,Ax (ξ h1)];simp only[eP,eN,ND,DK,Ab];refine Aa gm ?_;simp only[eZ,eN,ND,DK,Ab]at e3 ⊢;rw[hf];refine Ac ?_;rw[hb1];refine Ac ?_;rw[e3,BQ (by omega)];refine Aa ih ?_;rfl
theorem Adb{n k j:Nat}{a:Tm}{x:Zi}(ha:TmB n k a)(hx:Lz j x)(hx24:x.abs.length<24)(hn:n<=1000000)(hj:j<=23)(hk:k+j+n<=400000000):D.ask (.fn 148) [.agg (eT a),.agg (eZ x)] []=Θ (.agg (eT (a.lf.scale (zv x)).tm),[]):=by
 obtain⟨ap,ak⟩:=a;have l1:ap.length<=n:=ha.len;have gm:=Z.mul ak x (ha.k.mono (by omega)) (hx.mono (by omega)) (.inr hx24);have gl:=Ada Kf Z hx hx24 ap (by omega) ha.ps (by omega) (by omega) [] Φ [] (AD (zv ak*zv x)).neg ((AD (zv ak*zv x)).abs.map eL) _ 0 [] rfl (by omega) (by simp);rw[Aty,AtZ]at gl;have hT:TmB n (k+j) ⟨ap.map (scP x),AD (zv ak*zv x)⟩:=by
  refine⟨by simpa using l1,λp hp=>?_,(InB.mul ha.k.inb hx.inb).lz⟩;rw[Auw]at hp;obtain⟨q,hq,rfl⟩:=hp;exact(InB.mul (ha.ps q hq).inb hx.inb).lz
 have gp:=Fo Kt Ks Z C hT hn (by omega);have el:(⟨ap.map (scP x),AD (zv ak*zv x)⟩:Tm).lf.pln=Lf.scale (Tm.lf ⟨ap,ak⟩) (zv x):=by
  unfold Lf.scale Tm.lf;simp only[List.map_map,Bm]
  congr 2
  refine List.map_congr_left λp _=>?_
  show ((p.v,zv (AD (zv p.z*zv x))):Int × Int)=_
  rw[Bm];rfl
 rw[el]at gp;obtain⟨xn,xa⟩:=x;refine Aw Kf Tw (Arc ..) ?_;refine Aa gm ?_;simp only[eZ,eN,ND,DK,Ab,Ao];refine Aa gl ?_;simp only[ND,DK,Ab];rw[show AtG (0+(ap.map (scP ⟨xn,xa⟩)).length*3) (Ag eP (ap.map (scP ⟨xn,xa⟩))).length=Δ from AL Az _ (by omega)];refine Ac ?_;rw[Bp Az _ rfl];refine Aa gp ?_;rfl
theorem RZ{n k:Nat}{a:Tm}(ha:TmB n k a)(hn:n<=1000000)(hk:k+1+n<=400000000):D.ask (.fn 68) [.agg (eT a)] []=Θ (.agg (eT (a.lf.scale (-1)).tm),[]):=by
 have g1:=Z.of_ (-1) (by omega) (by omega);have hx:Lz 1 (AD (-1)):=InB.lz (by unfold InB;decide);have g2:=Adb Kt Kf Ks Z C ha hx (by have:=hx.len;omega) hn (by omega) hk;rw[Bm]at g2;refine Aw Kf Apj (e68 ..) ?_;refine Aa g1 ?_;simp only[eZ,eN,ND,DK,Ab];refine Aa g2 ?_;rfl
theorem Wr{n m k:Nat}{a b:Tm}(ha:TmB n k a)(hb:TmB m k b)(hn:n+m<=1000000)(hk:k+2+2*(n+m)<=400000000):D.ask (.fn 127) [.agg (eT a),.agg (eT b)] []=Θ (.agg (eT (a.lf.sub b.lf).tm),[]):=by
 have g1:=RZ Kt Kf Ks Z C hb (by omega) (by omega);have hn1:LB m (k+1+m) (b.lf.scale (-1)):=hb.lb.scale (by unfold InB;decide);have g2:=Alw Kt Kf Ks Z C (ha.mono (η _) (show k<=k+1+m by omega)) hn1.tb hn (by omega);rw[DC]at g2;refine Aw Kf AjX (AqZ ..) ?_;refine Aa g1 ?_;simp only[eT,eN,ND,DK,Ab];refine Aa g2 ?_;rfl
omit Ks C in
theorem QC{z:Zi}(hz:Lz 1000000000 z):D.ask (.fn 125) [.agg (eZ z)] []=Θ (.agg (eT (Lf.num (zv z)).tm),[]):=by
 have g:=Em Kt Z hz;refine Aw Kf AjV (AqX ..) ?_;refine Aa g ?_;rfl
theorem Ajz{n k:Nat}{t:Tm}(h:TmB n k t)(hn:n<=1000000)(hk:k+n<=900000000):D.ask (.fn 27) [.agg (eT t)] []=Θ (.agg (eT t.lf.pln.tm++[bv Δ]),[]):=by
 have g:=Fo Kt Ks Z C h hn hk;refine Aw Kf Ao8 (e27 ..) ?_;refine Aa g ?_;rfl
theorem OI{n k:Nat}{t:Tm}(h:TmB n k t)(hn:n<=1000000)(hk:k+n<=900000000):D.ask (.fn 28) [.agg (eT t)] []=Θ (.agg (eT t.lf.pln.tm++[bv Φ]),[]):=by
 have g:=Fo Kt Ks Z C h hn hk;refine Aw Kf Ao9 (e28 ..) ?_;refine Aa g ?_;rfl
end
