/- Formulas as they lie in -/
import Derived.Test.YtpncilciembjdaaGreatDoorGBO
import Derived.Test.YtpncilciembjdaaGreatDoorGAS
import Derived.Test.YtpncilciembjdaaGreatDoorGAT
set_option linter.all false
open Bool renaming false->Ξ,true->U,false_or->Ass,true_and->ArJ
open Int renaming add_assoc->AtA,add_comm->As9,add_zero->AsL,eq_ofNat_of_zero_le->Ar8,lt_trichotomy->AsH,mul_zero->Ase,natAbs_neg->Asf,natCast_mul->Asz,sub_eq_add_neg->Ata,zero_add->Atb,zero_mul->AsM
open List renaming all_cons->ArP,append_assoc->AqM,append_nil->Aro,drop->Aqp,drop_eq_getElem_cons->π,drop_eq_nil_of_le->Aqq,drop_zero->Aqk,getD_eq_getElem?_getD->Aq7,getElem?_eq_getElem->θ,getElem?_eq_none->Ara,getElem?_eq_some_iff->Aqo,getElem?_map->AqD,getElem_append_right->AsK,getElem_mem->Aqz,length_append->χ,length_cons->ε,length_map->Aqy,length_singleton->Arb,length_take->AqT,map_cons->AqF,map_map->Ar2,map_nil->Are,map_take->AsF,mem_cons->ι,mem_cons_of_mem->Aql,mem_cons_self->Aqs,mem_map->Aq6,mem_of_getElem?->AqB,mem_singleton->Aq1,nil_append->Aq0,pairwise_cons->AqY,pairwise_map->Ati,replicate->ArD,singleton_append->Ash,sizeOf_lt_of_mem->As2,tail_drop->Asi,take->Aqj,take_of_length_le->ArO,take_succ_eq_append_getElem->Arq
open Nat renaming add_zero->Arf,ble->Aqv,ble_eq_true_of_le->ArU,le_add_right->Asj,le_refl->ω,min_eq_left->ArG,mod_lt->Ar1,pow_le_pow_right->ArC,pow_succ->ArH,zero_add->Aqw,zero_le->AqR
open Option renaming none->Θ,some->Δ
namespace Go.Proofs.YtpncilciembjdaaGreatDoor
open ABlk renaming mk->Ω
open Go.RowKit
inductive Fm where
 |mk (kind:Int) (t:Tm) (eq:Bool) (kids:List Fm)
mutual
def eF:Fm->List AV
 |.mk k t e ks=>[iv k,.ls (t.ps.map eP),bv t.k.neg,eN t.k.abs,bv e,.ls (eFs ks)]
def eFs:List Fm->List (List AV)
 |[]=>[]
 |x::r=>eF x::eFs r
end
theorem CJ:∀ l,eFs l=l.map eF
 |[]=>rfl
 |x::r=>by simp[eFs,CJ r]
def Fm.kind:Fm->Int
 |.mk k _ _ _=>k
def Fm.tm:Fm->Tm
 |.mk _ t _ _=>t
def Fm.eq:Fm->Bool
 |.mk _ _ e _=>e
def Fm.kids:Fm->List Fm
 |.mk _ _ _ ks=>ks
def Tm0:Tm:=⟨[],⟨Ξ,[]⟩⟩
def kF(k:Int)(ks:List Fm):Fm:=.mk k Tm0 Ξ ks
def K6(b:Bool):Fm:=kF (if b then 0 else 1) []
def Eo(l:Lf)(e:Bool):Fm:=.mk 2 l.tm e []
def Bq:Fm->List Fm
 |.mk k _ _ ks=>if k=4\/k=5 then ks else if k=3 then ks.take 1 else []
mutual
def AB:Fm->Fm
 |.mk k t e ks=>if k=0 then K6 U else if k=2 then Eo t.lf.pln e else if k=3 then kF 3 (FX ks) else if k=4\/k=5 then kF k (Ds ks) else K6 Ξ
def FX:List Fm->List Fm
 |[]=>[]
 |x::_=>[AB x]
def Ds:List Fm->List Fm
 |[]=>[]
 |x::r=>AB x::Ds r
end
theorem DY:∀ l,Ds l=l.map AB
 |[]=>rfl
 |x::r=>by simp[Ds,DY r]
theorem GQ:∀ l,FX l=(l.take 1).map AB
 |[]=>rfl
 |x::r=>by simp[FX]
def Aar(v:Int)(e:Bool):Bool:=decide (v=0)||(!e&&decide (0<v))
mutual
def BA(f:Int->Int):Fm->Bool
 |.mk k t e ks=>if k=0 then U else if k=2 then Aar (t.lf.val f) e else if k=3 then Dw f ks else if k=4 then C0 f ks else if k=5 then C1 f ks else Ξ
def Dw(f:Int->Int):List Fm->Bool
 |[]=>Ξ
 |x::_=>!BA f x
def C0(f:Int->Int):List Fm->Bool
 |[]=>U
 |x::r=>BA f x&&C0 f r
def C1(f:Int->Int):List Fm->Bool
 |[]=>Ξ
 |x::r=>BA f x||C1 f r
end
theorem OZ(f:Int->Int)(b:Bool):BA f (K6 b)=b:=by
 cases b<;>rfl
theorem Ub(f:Int->Int)(l:Lf)(e:Bool):BA f (Eo l e)=Aar (l.val f) e:=by
 unfold Eo;rw[BA,if_neg (by decide),if_pos rfl,LO]
mutual
theorem ES{f:Int->Int}(hf:∀ v,v<0->f v=0):∀ x:Fm,BA f (AB x)=BA f x
 |.mk k t e ks=>by
  rw[AB,BA]
  by_cases h0:k=0
  .rw[if_pos h0,if_pos h0,OZ]
  rw[if_neg h0,if_neg h0]
  by_cases h2:k=2
  .rw[if_pos h2,if_pos h2,Ub,Ij hf]
  rw[if_neg h2,if_neg h2]
  by_cases h3:k=3
  .rw[if_pos h3,if_pos h3]
   unfold kF;rw[BA,if_neg (by decide),if_neg (by decide),if_pos rfl];exact Qc hf ks
  rw[if_neg h3,if_neg h3]
  by_cases h4:k=4
  .rw[if_pos (.inl h4),if_pos h4,h4]
   unfold kF;rw[BA,if_neg (by decide),if_neg (by decide),if_neg (by decide),if_pos rfl];exact Jw hf ks
  rw[if_neg h4]
  by_cases h5:k=5
  .rw[if_pos (.inr h5),if_pos h5,h5]
   unfold kF;rw[BA,if_neg (by decide),if_neg (by decide),if_neg (by decide),if_neg (by decide),if_pos rfl];exact Jx hf ks
  rw[if_neg (by omega),if_neg h5,OZ]
theorem Qc{f:Int->Int}(hf:∀ v,v<0->f v=0):∀ l:List Fm,Dw f (FX l)=Dw f l
 |[]=>rfl
 |x::r=>by rw[FX,Dw,Dw,ES hf x]
theorem Jw{f:Int->Int}(hf:∀ v,v<0->f v=0):∀ l:List Fm,C0 f (Ds l)=C0 f l
 |[]=>rfl
 |x::r=>by rw[Ds,C0,C0,ES hf x,Jw hf r]
theorem Jx{f:Int->Int}(hf:∀ v,v<0->f v=0):∀ l:List Fm,C1 f (Ds l)=C1 f l
 |[]=>rfl
 |x::r=>by rw[Ds,C1,C1,ES hf x,Jx hf r]
end
theorem AgS(f:Int->Int)(k:Int):(Lf.num k).val f=k:=by
 show 0+k=k
 omega
mutual
inductive CanF:Fm->Prop
 |tru (b:Bool):CanF (K6 b)
 |atom (l:Lf) (e:Bool) (h:l.pln=l):CanF (Eo l e)
 |no (x:Fm) (h:CanF x):CanF (kF 3 [x])
 |and (l:List Fm) (h:CanFs l):CanF (kF 4 l)
 |or (l:List Fm) (h:CanFs l):CanF (kF 5 l)
 |no0:CanF (kF 3 [])
inductive CanFs:List Fm->Prop
 |nil:CanFs []
 |cons {x:Fm} {r:List Fm} (h:CanF x) (hr:CanFs r):CanFs (x::r)
end
mutual
theorem CanF.clone:∀{x:Fm},CanF x->AB x=x
 |_,.tru b=>by cases b<;>rfl
 |_,.atom l e h=>by
  unfold Eo;rw[AB,if_neg (by decide),if_pos rfl,LO,h];rfl
 |_,.no x h=>by
  unfold kF;rw[AB,if_neg (by decide),if_neg (by decide),if_pos rfl,FX,h.clone];rfl
 |_,.and l h=>by
  unfold kF;rw[AB,if_neg (by decide),if_neg (by decide),if_neg (by decide),if_pos (.inl rfl),h.clone];rfl
 |_,.or l h=>by
  unfold kF;rw[AB,if_neg (by decide),if_neg (by decide),if_neg (by decide),if_pos (.inr rfl),h.clone];rfl
 |_,.no0=>rfl
theorem CanFs.clone:∀{l:List Fm},CanFs l->Ds l=l
 |_,.nil=>rfl
 |_,.cons h hr=>by rw[Ds,h.clone,hr.clone]
end
mutual
theorem Kg:∀ x:Fm,CanF (AB x)
 |.mk k t e ks=>by
  rw[AB];split
  .exact .tru _
  split
  .exact .atom _ _ (Aga _)
  split
  .exact TA ks
  split
  .rename_i h
   rcases h with h|h
   .rw[h];exact .and _ (IM ks)
   .rw[h];exact .or _ (IM ks)
  .exact .tru _
theorem TA:∀ l:List Fm,CanF (kF 3 (FX l))
 |[]=>.no0
 |x::_=>.no _ (Kg x)
theorem IM:∀ l:List Fm,CanFs (Ds l)
 |[]=>.nil
 |x::r=>.cons (Kg x) (IM r)
end
def GZ(v:Int):Bool->List Int->List Int × Bool
 |d,[]=>([],d)
 |d,x::r=>((if !d&&decide (v<=x) then [v] else [])++((if x=v then [] else [x])++(GZ v (d||decide (v<=x)) r).1),(GZ v (d||decide (v<=x)) r).2)
def Fe(v:Int)(l:List Int):List Int:=(GZ v Ξ l).1++(if(GZ v Ξ l).2 then [] else [v])
theorem KC(v:Int):∀ l:List Int,(∀ x∈l,v<x)->GZ v U l=(l,U)
 |[],_=>rfl
 |x::r,h=>by
  have h1:=h x Aqs;rw[GZ,Bool.true_or,KC v r λy hy=>h y (Aql _ hy),if_neg (show ¬ x=v by omega)];rfl
theorem Sm(v:Int):Fe v []=[v]:=rfl
theorem Qh{v x:Int}{r:List Int}(h:v<x)(hr:∀ y∈r,x<y):Fe v (x::r)=v::x::r:=by
 unfold Fe;rw[GZ,decide_eq_true (by omega:v<=x),Ass,KC v r λy hy=>by have:=hr y hy;omega,if_neg (show ¬ x=v by omega)];simp
theorem Qf{v:Int}{r:List Int}(hr:∀ y∈r,v<y):Fe v (v::r)=v::r:=by
 unfold Fe;rw[GZ,decide_eq_true (Int.le_refl v),Ass,KC v r hr,if_pos rfl];simp
theorem Qg{v x:Int}{r:List Int}(h:x<v):Fe v (x::r)=x::Fe v r:=by
 unfold Fe;rw[GZ,decide_eq_false (by omega:¬ v<=x),Ass,if_neg (show ¬ x=v by omega)];simp
def Ob(l:List Int):Prop:=l.Pairwise (· < ·)
theorem JB(v:Int):∀{l:List Int},Ob l->∀ y,y∈Fe v l ↔ y=v\/y∈l
 |[],_,y=>by rw[Sm];simp
 |x::r,h,y=>by
  have h1:=AqY.1 h;have ih:=JB v h1.2 y;rcases AsH v x with hv|hv|hv
  .rw[Qh hv h1.1];simp
  .subst hv
   rw[Qf h1.1];simp
  .rw[Qg hv,ι,ih,ι]
   exact or_left_comm
theorem D1(v:Int):∀{l:List Int},Ob l->Ob (Fe v l)
 |[],_=>by rw[Sm];exact List.pairwise_singleton _ _
 |x::r,h=>by
  have h1:=AqY.1 h;rcases AsH v x with hv|hv|hv
  .rw[Qh hv h1.1]
   refine AqY.2 ⟨λy hy=>?_,h⟩;rcases ι.1 hy with rfl|hy
   .exact hv
   .have:=h1.1 y hy;omega
  .subst hv
   rw[Qf h1.1];exact h
  .rw[Qg hv]
   refine AqY.2 ⟨λy hy=>?_,D1 v h1.2⟩;rcases (JB v h1.2 y).1 hy with rfl|hy
   .exact hv
   .exact h1.1 y hy
theorem Sj(v:Int):∀(d:Bool) (l:List Int),(GZ v d l).1.length<=2*l.length
 |_,[]=>ω _
 |d,x::r=>by
  have:=Sj v (d||decide (v<=x)) r;rw[GZ,χ,χ,ε];have h1:(if(!d&&decide (v<=x))=U then [v] else []).length<=1:=by split<;>simp
  have h2:(if x=v then [] else [x]).length<=1:=by split<;>simp
  omega
theorem G0(v:Int):∀{l:List Int},Ob l->(Fe v l).length<=l.length+1
 |[],_=>ω _
 |x::r,h=>by
  have h1:=AqY.1 h;have ih:=G0 v h1.2;rcases AsH v x with hv|hv|hv
  .rw[Qh hv h1.1];simp
  .subst hv
   rw[Qf h1.1];simp
  .rw[Qg hv,ε,ε];omega
def FQ(f:Int->Int):List Int->List Int->List Int
 |out,[]=>out
 |out,v::r=>FQ f (if f v=0 then out else Fe v out) r
theorem PK(f:Int->Int):∀(l:List Int) {out:List Int},Ob out->Ob (FQ f out l)
 |[],_,h=>h
 |v::r,out,h=>by
  rw[FQ];refine PK f r ?_;split
  .exact h
  .exact D1 v h
theorem Ld(f:Int->Int)(y:Int):∀(l:List Int) {out:List Int},Ob out->(y∈FQ f out l ↔ y∈out\/(y∈l/\f y≠0))
 |[],out,_=>by rw[FQ];simp
 |v::r,out,h=>by
  rw[FQ]
  by_cases hv:f v=0
  .rw[if_pos hv,Ld f y r h,ι]
   constructor
   .rintro (h1|⟨h1,h2⟩)
    .exact .inl h1
    .exact .inr ⟨.inr h1,h2⟩
   .rintro (h1|⟨rfl|h1,h2⟩)
    .exact .inl h1
    .exact absurd hv h2
    .exact .inr ⟨h1,h2⟩
  .rw[if_neg hv,Ld f y r (D1 v h),JB v h,ι]
   constructor
   .rintro ((rfl|h1) | ⟨h1,h2⟩)
    .exact .inr ⟨.inl rfl,hv⟩
    .exact .inl h1
    .exact .inr ⟨.inr h1,h2⟩
   .rintro (h1|⟨rfl|h1,h2⟩)
    .exact .inl (.inr h1)
    .exact .inl (.inl rfl)
    .exact .inr ⟨h1,h2⟩
theorem Lc(f:Int->Int):∀(l:List Int) {out:List Int},Ob out->(FQ f out l).length<=out.length+l.length
 |[],out,_=>by rw[FQ];simp
 |v::r,out,h=>by
  rw[FQ,ε]
  by_cases hv:f v=0
  .rw[if_pos hv]
   have:=Lc f r h;omega
  .rw[if_neg hv]
   have:=Lc f r (D1 v h);have:=G0 v h;omega
def Fl(ps:List (Int × Int))(v:Int):Int:=if 0<=v then AQ v ps else 0
def Gz(ps:List (Int × Int)):List Int:=FQ (Fl ps) [] (ps.map (·.1))
theorem Cf:Ob []:=List.Pairwise.nil
theorem OK(c:Int->Int)(v:Int):∀{l:List Int},Ob l->AQ v (l.map λu=>(u,c u))=if v∈l then c v else 0
 |[],_=>by simp[AQ]
 |x::r,h=>by
  have h1:=AqY.1 h;rw[AqF,AQ,OK c v h1.2]
  by_cases hx:x=v
  .subst hx
   rw[if_pos rfl,if_pos Aqs,if_neg (λhm=>by have:=h1.1 _ hm;omega)];exact AsL _
  .rw[if_neg hx,Atb]
   have e:(v∈x::r) ↔ v∈r:=by
    rw[ι];exact⟨λh=>h.resolve_left λe=>hx e.symm,.inr⟩
   by_cases hm:v∈r
   .rw[if_pos hm,if_pos (e.2 hm)]
   .rw[if_neg hm,if_neg λh=>hm (e.1 h)]
theorem Uy(ps:List (Int × Int)):(Gz ps).map (λv=>(v,Fl ps v))=B3 ps:=by
 have ha:Ob (Gz ps):=PK _ _ Cf;have hm:∀ y,y∈Gz ps ↔ y∈ps.map (·.1)/\Fl ps y≠0:=λy=>by
  have:=Ld (Fl ps) y (ps.map (·.1)) Cf;unfold Gz;simpa using this
 refine NF ⟨?_,?_,?_⟩ λv hv=>?_
 .rw[Ati]
  exact ha
 .intro p hp
  rw[Aq6]at hp;obtain⟨v,hv,rfl⟩:=hp;have:=((hm v).1 hv).2;unfold Fl at this
  by_cases h0:0<=v
  .exact h0
  .rw[if_neg h0]at this
   exact absurd rfl this
 .intro p hp
  rw[Aq6]at hp;obtain⟨v,hv,rfl⟩:=hp;exact((hm v).1 hv).2
 .rw[OK _ _ ha]
  have hc:Fl ps v=AQ v ps:=if_pos hv
  by_cases hv2:v∈Gz ps
  .rw[if_pos hv2,hc]
  .rw[if_neg hv2]
   by_cases hz:AQ v ps=0
   .exact hz.symm
   .refine absurd ((hm v).2 ⟨?_,by rw[hc];exact hz⟩) hv2
    by_cases hmm:v∈ps.map (·.1)
    .exact hmm
    .refine absurd (Et λp hp e=>hmm ?_) hz
     rw[←e];exact List.mem_map_of_mem hp
theorem Lg(ps:List (Int × Int)):Gz ps=(B3 ps).map (·.1):=by
 rw[←Uy,Ar2];exact(List.map_id _).symm
def SH(s:Int->Lf)(acc:Lf)(ps:List (Int × Int)):Lf:=ps.foldl (λa p=>a.add ((s p.1).scale p.2)) acc
def Qu(s:Int->Lf)(l:Lf):Lf:=SH s (Lf.num l.k) (B3 l.ps)
def Q9(s:Int->Lf)(f:Int->Int)(v:Int):Int:=if v<0 then 0 else(s v).val f
theorem N5(s:Int->Lf)(f:Int->Int)(v:Int)(h:v<0):Q9 s f v=0:=if_pos h
theorem Td{f:Int->Int}(hf:∀ v,v<0->f v=0)(s:Int->Lf):∀(ps:List (Int × Int)) (acc:Lf),(∀ p∈ps,0<=p.1)->(SH s acc ps).val f=acc.val f+Cl (Q9 s f) ps
 |[],acc,_=>by
  show acc.val f=acc.val f+0
  rw[AsL]
 |p::r,acc,h=>by
  have ih:=Td hf s r (acc.add ((s p.1).scale p.2)) λq hq=>h q (Aql _ hq)
  have hp:=h p (Aqs ..)
  show (SH s (acc.add ((s p.1).scale p.2)) r).val f=_
  rw[ih,AgQ hf,X0 hf,Cl];unfold Q9;rw[if_neg (by omega),Int.mul_comm p.2,AtA]
theorem Abv{f:Int->Int}(hf:∀ v,v<0->f v=0)(s:Int->Lf)(l:Lf):(Qu s l).val f=l.val (Q9 s f):=by
 unfold Qu;rw[Td hf s _ _ (CU l.ps).pos,AgS];unfold Lf.val;rw[NX (N5 s f)];omega
theorem VJ{s:Int->Lf}{j m:Nat}(hs:∀ v,LB 20 j (s v))(hm:m+j<=500):∀(ps:List (Int × Int)) (i:Nat) (acc:Lf),i+ps.length<=20->(∀ p∈ps,InB m p.2)->LB (20*i) (100+1000*i) acc->LB (20*(i+ps.length)) (100+1000*(i+ps.length)) (SH s acc ps)
 |[],i,acc,_,_,h=>h
 |p::r,i,acc,hi,hp,h=>by
  rw[ε]at hi;have h1:=(hs p.1).scale (hp p (Aqs ..));have h2:=h.add h1;have:=VJ hs hm r (i+1) (acc.add ((s p.1).scale p.2)) (by omega) (λq hq=>hp q (Aql _ hq)) (h2.mono (by omega) (by omega));rw[show i+1+r.length=i+(p::r).length by rw[ε];omega]at this;exact this
theorem Agg{s:Int->Lf}{j m:Nat}(hs:∀ v,LB 20 j (s v))(hm:m+j<=100){l:Lf}(h:LB 20 m l):LB 400 20100 (Qu s l):=by
 have hp:=h.pln;have hl:=hp.len;have:=VJ hs (m:=m+20) (by omega) (B3 l.ps) 0 (Lf.num l.k) (by rw[Aqw];exact hl) (λp hq=>hp.ps p hq) ⟨AqR _,(λp hp=>nomatch hp),h.k.mono (by omega)⟩;exact this.mono (by have:l.pln.ps.length<=20:=hl;show 20*(0+l.pln.ps.length)<=_;omega) (by have:l.pln.ps.length<=20:=hl;show 100+1000*(0+l.pln.ps.length)<=_;omega)
mutual
def EI(s:Int->Lf):Fm->Fm
 |.mk k t e ks=>.mk k (if k=2 then(Qu s t.lf).tm else t) e (Hi s ks)
def Hi(s:Int->Lf):List Fm->List Fm
 |[]=>[]
 |x::r=>EI s x::Hi s r
end
theorem KO(s:Int->Lf):∀ l,Hi s l=l.map (EI s)
 |[]=>rfl
 |x::r=>by rw[Hi,KO s r];rfl
mutual
theorem HW{f:Int->Int}(hf:∀ v,v<0->f v=0)(s:Int->Lf):∀ x:Fm,BA f (EI s x)=BA (Q9 s f) x
 |.mk k t e ks=>by
  rw[EI,BA,BA,Uc hf s ks,Ng hf s ks,Nh hf s ks]
  by_cases h2:k=2
  .rw[if_pos h2,if_pos h2,if_pos h2,LO,Abv hf]
  .rw[if_neg h2,if_neg h2]
theorem Uc{f:Int->Int}(hf:∀ v,v<0->f v=0)(s:Int->Lf):∀ l:List Fm,Dw f (Hi s l)=Dw (Q9 s f) l
 |[]=>rfl
 |x::r=>by rw[Hi,Dw,Dw,HW hf s x]
theorem Ng{f:Int->Int}(hf:∀ v,v<0->f v=0)(s:Int->Lf):∀ l:List Fm,C0 f (Hi s l)=C0 (Q9 s f) l
 |[]=>rfl
 |x::r=>by rw[Hi,C0,C0,HW hf s x,Ng hf s r]
theorem Nh{f:Int->Int}(hf:∀ v,v<0->f v=0)(s:Int->Lf):∀ l:List Fm,C1 f (Hi s l)=C1 (Q9 s f) l
 |[]=>rfl
 |x::r=>by rw[Hi,C1,C1,HW hf s x,Nh hf s r]
end
def Iz(out vs:List Int):List Int:=vs.foldl (λo v=>Fe v o) out
mutual
def Cd:Fm->List Int
 |.mk k t _ ks=>if k=2 then Gz t.lf.ps else if k=3 then Hv ks else if k=4\/k=5 then DL [] ks else []
def Hv:List Fm->List Int
 |[]=>[]
 |x::_=>Iz [] (Cd x)
def DL(out:List Int):List Fm->List Int
 |[]=>out
 |x::r=>DL (Iz out (Cd x)) r
end
theorem EA:∀(vs out:List Int),Ob out->Ob (Iz out vs)/\∀ y,y∈Iz out vs ↔ y∈out\/y∈vs
 |[],out,h=>⟨h,λy=>by simp[Iz]⟩
 |v::r,out,h=>by
  obtain⟨h1,h2⟩:=EA r (Fe v out) (D1 v h);refine⟨h1,λy=>?_⟩
  show y∈Iz (Fe v out) r ↔ _
  rw[h2,JB v h,ι];constructor
  .rintro ((h|h) | h)
   .exact .inr (.inl h)
   .exact .inl h
   .exact .inr (.inr h)
  .rintro (h|h|h)
   .exact .inl (.inr h)
   .exact .inl (.inl h)
   .exact .inr h
theorem Hu:∀(ks:List Fm) (out:List Int),Ob out->Ob (DL out ks)/\∀ y,y∈DL out ks ↔ y∈out\/∃ x∈ks,y∈Cd x
 |[],out,h=>by
  rw[DL];exact⟨h,λy=>by simp⟩
 |x::r,out,h=>by
  obtain⟨h1,h2⟩:=EA (Cd x) out h;obtain⟨h3,h4⟩:=Hu r _ h1;rw[DL];refine⟨h3,λy=>?_⟩;rw[h4,h2];simp only[ι,exists_eq_or_imp];rw[or_assoc]
theorem Wc(ps:List (Int × Int)):Ob (Gz ps):=by
 rw[Lg];exact Ati.2 (CU ps).asc
theorem X3:∀ x:Fm,Ob (Cd x)
 |.mk k t e ks=>by
  rw[Cd];split
  .exact Wc _
  split
  .cases ks with
   |nil=>rw[Hv];exact Cf
   |cons y r=>rw[Hv];exact(EA _ [] Cf).1
  split
  .exact(Hu ks [] Cf).1
  .exact Cf
theorem XZ{g h:Int->Int}(hg:∀ v,v<0->g v=0)(hh:∀ v,v<0->h v=0){l:Lf}(e:∀ v∈Gz l.ps,g v=h v):l.val g=l.val h:=by
 rw[←Ij hg,←Ij hh];rw[Lg]at e;unfold Lf.pln Lf.val;simp only;generalize B3 l.ps=ps at *
 congr 1
 induction ps with
 |nil=>rfl
 |cons p r ih=>
  rw[Cl,Cl,ih λv hv=>e v (Aql _ hv),e p.1 (Aqs ..)]
mutual
theorem GW{g h:Int->Int}(hg:∀ v,v<0->g v=0)(hh:∀ v,v<0->h v=0):∀ x:Fm,(∀ v∈Cd x,g v=h v)->BA g x=BA h x
 |.mk k t e ks,hx=>by
  rw[Cd]at hx;rw[BA,BA]
  by_cases h0:k=0
  .rw[if_pos h0,if_pos h0]
  rw[if_neg h0,if_neg h0]
  by_cases h2:k=2
  .rw[if_pos h2]at hx
   rw[if_pos h2,if_pos h2,XZ hg hh hx]
  rw[if_neg h2]at hx;rw[if_neg h2,if_neg h2]
  by_cases h3:k=3
  .rw[if_pos h3]at hx
   rw[if_pos h3,if_pos h3];exact Qd hg hh ks hx
  rw[if_neg h3]at hx;rw[if_neg h3,if_neg h3]
  by_cases h4:k=4
  .rw[if_pos (.inl h4)]at hx
   rw[if_pos h4,if_pos h4];exact(Ga hg hh ks λx hm v hv=>hx v (((Hu ks [] Cf).2 v).2 (.inr ⟨x,hm,hv⟩))).1
  rw[if_neg h4,if_neg h4]
  by_cases h5:k=5
  .rw[if_pos (.inr h5)]at hx
   rw[if_pos h5,if_pos h5];exact(Ga hg hh ks λx hm v hv=>hx v (((Hu ks [] Cf).2 v).2 (.inr ⟨x,hm,hv⟩))).2
  rw[if_neg h5,if_neg h5]
theorem Qd{g h:Int->Int}(hg:∀ v,v<0->g v=0)(hh:∀ v,v<0->h v=0):∀ ks:List Fm,(∀ v∈Hv ks,g v=h v)->Dw g ks=Dw h ks
 |[],_=>rfl
 |x::r,hx=>by
  rw[Hv]at hx;rw[Dw,Dw,GW hg hh x λv hv=>hx v (((EA _ [] Cf).2 v).2 (.inr hv))]
theorem Ga{g h:Int->Int}(hg:∀ v,v<0->g v=0)(hh:∀ v,v<0->h v=0):∀ ks:List Fm,(∀ x∈ks,∀ v∈Cd x,g v=h v)->C0 g ks=C0 h ks/\C1 g ks=C1 h ks
 |[],_=>⟨rfl,rfl⟩
 |x::r,hx=>by
  obtain⟨h1,h2⟩:=Ga hg hh r λy hy=>hx y (Aql _ hy)
  have h3:=GW hg hh x (hx x (Aqs ..));rw[C0,C0,C1,C1,h1,h2,h3];exact⟨rfl,rfl⟩
end
theorem X4:∀(N:Nat) (x:Fm),SizeOf.sizeOf x<N->∀ v∈Cd x,0<=v:=by
 intro N
 induction N with
 |zero=>intro x h;omega
 |succ N ih=>
  rintro⟨k,t,e,ks⟩ h v hv;have hk:∀ y∈ks,SizeOf.sizeOf y<N:=λy hy=>by
   have:=As2 hy;simp only[Fm.mk.sizeOf_spec]at h;omega
  rw[Cd]at hv;split at hv
  .rw[Lg,Aq6]at hv
   obtain⟨p,hp,rfl⟩:=hv;exact(CU _).pos p hp
  split at hv
  .cases ks with
   |nil=>rw[Hv]at hv;cases hv
   |cons y r=>
    rw[Hv]at hv;rcases ((EA _ [] Cf).2 v).1 hv with h|h
    .cases h
    .exact ih y (hk y (Aqs ..)) v h
  split at hv
  .rcases ((Hu ks [] Cf).2 v).1 hv with h|⟨y,hy,h⟩
   .cases h
   .exact ih y (hk y hy) v h
  .cases hv
def K0(ps:List (Int × Int))(vals:List Int):Nat->Int
 |0=>0
 |n+1=>K0 ps vals n+AQ (n:Int) ps*vals.getD n 0
theorem Hs(vals:List Int)(n:Nat):Cm vals (n:Int)=vals.getD n 0:=by
 unfold Cm;rw[if_neg (by omega),Int.toNat_natCast]
theorem N4(vals:List Int){v:Int}(h:(vals.length:Int)<=v):Cm vals v=0:=by
 unfold Cm;rw[if_neg (by omega),Aq7,Ara (by omega)];rfl
theorem SY(vals:List Int):∀ n,K0 [] vals n=0
 |0=>rfl
 |n+1=>by rw[K0,SY vals n,AQ,AsM];rfl
theorem Pu(p:Int × Int)(r:List (Int × Int))(vals:List Int):∀ n:Nat,K0 (p::r) vals n=(if 0<=p.1/\p.1<(n:Int) then p.2*Cm vals p.1 else 0)+K0 r vals n
 |0=>by rw[K0,K0,if_neg (by omega)];rfl
 |n+1=>by
  rw[K0,K0,Pu p r vals n,AQ,Int.add_mul]
  by_cases h:p.1=(n:Int)
  .rw[if_pos h,if_neg (by omega),if_pos (by omega),h,Hs]
   omega
  .rw[if_neg h,AsM]
   by_cases h2:0<=p.1/\p.1<(n:Int)
   .rw[if_pos h2,if_pos (by omega)];omega
   .rw[if_neg h2,if_neg (by omega)];omega
theorem Pw(vals:List Int):∀ ps:List (Int × Int),Cl (Cm vals) ps=K0 ps vals vals.length
 |[]=>by rw[SY];rfl
 |p::r=>by
  rw[Pu,Cl,Pw vals r]
  by_cases h:0<=p.1/\p.1<(vals.length:Int)
  .rw[if_pos h]
  .rw[if_neg h]
   by_cases h0:p.1<0
   .rw[Ht _ _ h0,Ase]
   .rw[N4 vals (by omega),Ase]
theorem Abw(vals:List Int)(l:Lf):l.val (Cm vals)=l.k+K0 l.ps vals vals.length:=by
 unfold Lf.val;rw[Pw];omega
theorem Zt{k:Nat}{vals:List Int}(h:∀ x∈vals,InB k x)(n:Nat):InB k (vals.getD n 0):=by
 rw[Aq7]
 cases e:vals[n]? with
 |none=>exact InB.zero _
 |some x=>
  obtain⟨hn,rfl⟩:=Aqo.1 e;exact h _ (Aqz hn)
theorem SX{n k j:Nat}{l:Lf}{vals:List Int}(hl:LB n k l)(hv:∀ x∈vals,InB j x):∀ m:Nat,InB (k+n+j+m) (K0 l.ps vals m)
 |0=>InB.zero _
 |m+1=>by
  rw[K0,←Nat.add_assoc];refine InB.add (SX hl hv m) ?_;have h1:=HK (m:Int) l.ps hl.ps;have h2:=InB.mul h1 (Zt hv m);exact h2.mono (by have:=hl.len;omega)
theorem BI(k:Int)(t:Tm)(e:Bool)(ks:List Fm):Bq (.mk k t e ks)=if k=4\/k=5 then ks else if k=3 then ks.take 1 else []:=rfl
theorem Di{k:Int}{t:Tm}{e:Bool}{ks:List Fm}{x:Fm}(hx:x∈Bq (.mk k t e ks)):x∈ks:=by
 rw[BI]at hx;split at hx
 .exact hx
 .split at hx
  .exact List.mem_of_mem_take hx
  .cases hx
theorem D7(x:Fm):(eF x).length=6:=by
 obtain⟨k,t,e,ks⟩:=x;rw[eF];rfl
inductive FB (n k:Nat):Fm->Prop
 |mk {kind:Int} {t:Tm} {e:Bool} {ks:List Fm} (ht:TmB n k t) (hl:ks.length<=1000000) (h:∀ x∈ks,FB n k x):FB n k (.mk kind t e ks)
inductive FC (n k:Nat):Fm->Prop
 |mk {kind:Int} {t:Tm} {e:Bool} {ks:List Fm} (ht:kind=2->TmB n k t) (hl:(Bq (.mk kind t e ks)).length<=1000000) (h:∀ x∈Bq (.mk kind t e ks),FC n k x):FC n k (.mk kind t e ks)
theorem LB.sub{n m k:Nat}{a b:Lf}(ha:LB n k a)(hb:LB m k b):LB (n+m) (2*k+2+2*(n+m)) (a.sub b):=by
 have h1:LB m (k+1+m) (b.scale (-1)):=hb.scale (by unfold InB;decide);exact(ha.add h1).mono (ω _) (by omega)
theorem Cq{k:Int}{t:Tm}{e:Bool}{ks:List Fm}{x:Fm}(h:x∈ks):SizeOf.sizeOf x<SizeOf.sizeOf (Fm.mk k t e ks):=by
 have:=As2 h;simp only[Fm.mk.sizeOf_spec];omega
section
variable {D:Orc} (Kt:Knows Al LN D) (Kf:Knows Al S1 D) (Ks:Knows Al Hp D) (Z:ZF D) (C:PartF D) (Ko:Knows Al Abc D)
include Ko
theorem N3(b:Bool):D.ask (.fn 95) [bv b] []=Δ (.agg (eF (K6 b)),[]):=by
 refine Aw Ko Al9 (e95 ..) ?_
 cases b<;>rfl
include Kt Ks Z C in
theorem OD{n k:Nat}{t:Tm}(h:TmB n k t)(hn:n<=1000000)(hk:k+n<=900000000)(e:Bool):D.ask (.fn 98) [.agg [.ls (t.ps.map eP),bv t.k.neg,eN t.k.abs,bv e]] []=Δ (.agg (eF (Eo t.lf.pln e)),[]):=by
 have g:=Hf Kt Ks Z C h hn hk;obtain⟨ps,kz⟩:=t;have g2:D.ask (.fn 170) [.agg [.ls (ps.map eP),bv kz.neg,eN kz.abs,bv e]] []=Δ (.agg (eT (Tm.lf ⟨ps,kz⟩).pln.tm++[bv e]),[]):=by
  refine Aw Ko AhK (An1 ..) ?_;refine Aa g ?_;rfl
 refine Aw Ko Ama (e98 ..) ?_;refine Aa g2 ?_;rfl
theorem Me(x:Fm):D.ask (.fn 166) [.agg (eF x)] []=Δ (.ls ((Bq x).map eF),[]):=by
 obtain⟨k,t,e,ks⟩:=x;refine Aw Ko AhJ (An0 ..) ?_;rw[CJ];rw[BI]
 by_cases h4:k=4
 .rw[if_pos (.inl h4)]
  exact Dq h4
 refine AC ?_ h4
 by_cases h5:k=5
 .rw[if_pos (.inr h5)]
  exact Dq h5
 refine AC ?_ h5;rw[if_neg (by omega)]
 by_cases h3:k=3
 .rw[if_pos h3]
  refine Bk ?_ h3;rw[Ai,AmV,show min (ks.length:Int) 1=((min ks.length 1:Nat):Int) by omega,Av];rw[show Nm 0 (min ks.length 1) ks.length=U by unfold Nm;rw[ArU (AqR _),ArU (Nat.min_le_left ..)]];refine Ac ?_;rw[FR D7];refine Ac ?_;rw[Hr,GS,Aqk,←AsF];have:ks.take (min ks.length 1)=ks.take 1:=by
   rw[List.take_eq_take_iff];omega
  rw[this]
 .rw[if_neg h3]
  exact AC rfl h3
theorem Wp(ks:List Fm)(hl:ks.length<=1000000)(g:∀ x∈ks,D.ask (.fn 107) [.agg (eF x)] []=Δ (.agg (eF (AB x)),[])):∀(m i:Nat) (out:List Fm),ks.length-i=m->i<=ks.length->out.length<=i->
  D.ask (.lp 165 0) [.sl 0 0 out.length 6,.ls (ks.map eF),iv (ks.length:Int),iv (i:Int)] [Ω (Ao eF out) U U]=Δ (.tup [iv 0,.sl 1 0 (out++(ks.drop i).map AB).length 6],[.del,.set (Ω (Ao eF (out++(ks.drop i).map AB)) U U)]):=by
 intro m
 induction m with
 |zero=>
  intro i out hm hi ho;rw[Aqq (by omega),Are,Aro];refine As Ko R4 (YO ..) ?_;exact Aj rfl
 |succ m ih=>
  intro i out hm hi ho;have h1:i<ks.length:=by omega
  have gx:=g ks[i] (Aqz h1);rw[π h1,AqF];have ih:=ih (i+1) (out++[AB ks[i]]) (by omega) (by omega) (by simp;omega);rw[AqM,Ash,show (out++[AB ks[i]]).length=out.length+1 by simp]at ih;have hf:Bc (out.length+1) 96=U:=AS (by omega) (by omega);have hb1:Aqv (0+out.length*6) (Ao eF out).length=U:=AU D7 out (by omega);have e3:Aqp 0 (Aqj (0+out.length*6) (Ao eF out))++eF (AB ks[i])=Ao eF (out++[AB ks[i]]):=by
   rw[Aqk,Bm D7 out (by omega)];exact Bj eF out _
  refine As Ko R4 (YO ..) ?_;refine Ak ?_;rw[Av,At (θ h1)];revert gx ih e3;generalize AB ks[i]=y;generalize ks[i]=x;obtain⟨xk,xt,xe,xs⟩:=x;obtain⟨yk,yt,ye,ys⟩:=y;intro gx ih e3;simp only[eF,eN,ND,DK,Ab]at gx e3 ⊢;refine Aa gx ?_;simp only[ND,DK,Ab];rw[hf];refine Ac ?_;rw[hb1];refine Ac ?_;rw[e3,BB (by omega)];refine Aa ih ?_;rfl
theorem Kj{ks:List Fm}(hl:ks.length<=1000000)(g:∀ x∈ks,D.ask (.fn 107) [.agg (eF x)] []=Δ (.agg (eF (AB x)),[])):D.ask (.fn 165) [.ls (ks.map eF)] []=Δ (.ls ((ks.map AB).map eF),[]):=by
 have gl:=Wp Ko ks hl g _ 0 [] rfl (by omega) (by simp);rw[Aqk,Aq0]at gl;refine Aw Ko R4 (AnZ ..) ?_;rw[Ai];refine Aa gl ?_;simp only[ND,DK,Ab];rw[show Aqv (0+(ks.map AB).length*6) (Ao eF (ks.map AB)).length=U from AU D7 _ (by omega)];refine Ac ?_;rw[Cg D7 _ rfl]
include Kt Ks Z C in
theorem Wl{n k:Nat}(hn:n<=1000000)(hk:k+n<=900000000):∀(N:Nat) (x:Fm),SizeOf.sizeOf x<N->FC n k x->D.ask (.fn 107) [.agg (eF x)] []=Δ (.agg (eF (AB x)),[]):=by
 intro N
 induction N with
 |zero=>intro x h;omega
 |succ N ih=>
  intro x hN hx;obtain⟨ht,hl,h⟩:=hx;rename_i kd t e ks;refine Aw Ko Ahq (AnB ..) ?_;rw[AB]
  by_cases h0:kd=0
  .rw[if_pos h0]
   refine Bk ?_ h0;refine Aa (N3 Ko U) ?_;rfl
  rw[if_neg h0];refine AC ?_ h0
  by_cases h2:kd=2
  .rw[if_pos h2]
   refine Bk ?_ h2;refine Aa (OD Kt Ks Z C Ko (ht h2) hn hk e) ?_;rfl
  rw[if_neg h2];refine AC ?_ h2
  by_cases h3:kd=3
  .rw[if_pos h3,GQ]
   refine Bk ?_ h3;have hk:=Me Ko (.mk kd t e ks);have gc:=Kj Ko hl λx hx=>ih x (by have:=Cq (k:=kd) (t:=t) (e:=e) (Di hx);omega) (h x hx)
   simp only[eF,eN,ND,DK,Ab]at hk ⊢;refine Aa hk ?_;simp only[ND,DK,Ab];refine Aa gc ?_;rw[BI];rw[if_neg (by omega),if_pos h3,h3];unfold kF;rw[eF,CJ];rfl
  rw[if_neg h3];refine AC ?_ h3
  by_cases h4:kd=4
  .rw[if_pos (.inl h4),DY]
   refine Bk ?_ h4;have hk:=Me Ko (.mk kd t e ks);have gc:=Kj Ko hl λx hx=>ih x (by have:=Cq (k:=kd) (t:=t) (e:=e) (Di hx);omega) (h x hx)
   simp only[eF,eN,ND,DK,Ab]at hk ⊢;refine Aa hk ?_;simp only[ND,DK,Ab];refine Aa gc ?_;rw[BI];rw[if_pos (.inl h4)];unfold kF;rw[eF,CJ];rfl
  refine AC ?_ h4
  by_cases h5:kd=5
  .rw[if_pos (.inr h5),DY]
   refine Bk ?_ h5;have hk:=Me Ko (.mk kd t e ks);have gc:=Kj Ko hl λx hx=>ih x (by have:=Cq (k:=kd) (t:=t) (e:=e) (Di hx);omega) (h x hx)
   simp only[eF,eN,ND,DK,Ab]at hk ⊢;refine Aa hk ?_;simp only[ND,DK,Ab];refine Aa gc ?_;rw[BI];rw[if_pos (.inr h5)];unfold kF;rw[eF,CJ];rfl
  rw[if_neg (by omega)];refine AC ?_ h5;refine Aa (N3 Ko Ξ) ?_;rfl
include Kt Kf Ks Z C
end
theorem Qv(x:Nat)(h:x<18446744073709551616):Ah.quo .u64 (x:Int) 4294967296=((x / 4294967296:Nat):Int):=by
 show IntKind.u64.wrap ((x:Int).tdiv 4294967296)=_
 have:(x:Int).tdiv 4294967296=((x / 4294967296:Nat):Int):=rfl;rw[this,IntKind.wrap_u64];omega
theorem Qw(x:Nat):Ah.rem .u64 (x:Int) 4294967296=((x % 4294967296:Nat):Int):=by
 show (x:Int).tmod 4294967296=_
 rfl
theorem XK(l:List Nat)(n:Nat):(Ao eL l).take n=Ao eL (l.take n):=by rw[Gj,Gj,AsF]
theorem Tx(l:List Nat)(n:Nat)(h:n<=l.length):Bl n 1 ((Ao eL l).take (n*1))=(l.take n).map eL:=by
 rw[Nat.mul_one,XK];have:=Dg AW (l.take n)
 rwa [AqT,ArG h]at this
theorem Ku(l:List Nat)(i:Nat):(l.drop i).headD 0=l.getD i 0:=by
 rw[Aq7]
 by_cases h:i<l.length
 .rw[π h,θ h];rfl
 .rw[Aqq (by omega),Ara (by omega)];rfl
theorem Md{l:List Nat}(h:Limbs l)(i:Nat):l.getD i 0<4294967296:=by
 rw[←Ku];exact Ez (h.drop i)
def DJ(n:Nat)(l:List Nat):List Nat:=l++ArD (n-l.length) 0
theorem AgT(n:Nat):Ae (ArD n 0)=0:=by
 induction n with
 |zero=>rfl
 |succ n ih=>rw[List.replicate_succ,Ae,ih]
theorem FP(n:Nat)(l:List Nat):Ae (DJ n l)=Ae l:=by
 unfold DJ;rw[FO,AgT];omega
theorem Dz{n:Nat}{l:List Nat}(h:l.length<=n):(DJ n l).length=n:=by
 unfold DJ;rw[χ,List.length_replicate];omega
theorem DT{n:Nat}{l:List Nat}(h:Limbs l):Limbs (DJ n l):=O3 h λx hx=>by
 rw[(List.mem_replicate.1 hx).2];omega
theorem JK{n i:Nat}{l:List Nat}(h:l.length<=n)(hi:i<n):(DJ n l)[i]'(by rw[Dz h];exact hi)=l.getD i 0:=by
 rw[Aq7];unfold DJ
 by_cases h2:i<l.length
 .rw[List.getElem_append_left h2,θ h2];rfl
 .rw[AsK (by omega),List.getElem_replicate,Ara (by omega)];rfl
section
variable {D:Orc} (K:Knows Al Pz D)
include K
theorem AaJ(l:List Nat)(hl:Cv l):∀(k i:Nat) (out:List Nat),l.length-i=k->out.length+k<=2000000000->D.ask (.lp 149 0) [eN l,.sl 0 0 out.length 1,iv (i:Int)] [Ω (Ao eL out) U U]
  = Δ (.tup [iv 0,.sl 1 0 (out++l.drop i).length 1],[.del,.set (Ω (Ao eL (out++l.drop i)) U U)]):=by
 intro k;unfold Cv at hl
 induction k with
 |zero=>
  intro i out hi ho;refine As K Lq (YM ..) ?_;rw[Ai,show l.drop i=[] from Aqq (by omega),Aro];refine Aj ?_;rfl
 |succ k ih=>
  intro i out hi ho;have hlt:i<l.length:=by omega
  have ih':=ih (i+1) (out++[l[i]]) (by omega) (by simp;omega);rw[AqM,χ,Arb]at ih';refine As K Lq (YM ..) ?_;rw[Ai,π hlt];refine Ak ?_;rw[Av,At (θ hlt)];have hf:Bc (out.length+1) 4=U:=AS (by omega) (by omega);have hb1:Aqv (0+out.length*1) (Ao eL out).length=U:=AU AW out (by omega);have e3:∀ s:Nat,Aqp 0 (Aqj (0+out.length*1) (Ao eL out))++[.v (.int .u32 (s:Int))]=Ao eL (out++[s]):=λs=>by
   rw[Aqk,Bm AW out (by omega)];exact Bj eL out s
  simp only[eL,Oj,ND,DK,Ab];rw[BB (by omega),hf,hb1,e3];refine Ac ?_;refine Ac ?_;refine Aa ih' ?_;rfl
theorem AaK(l:List Nat)(hl:Cv l):∀(n:Nat),n<=l.length->CI l<=n->D.ask (.lp 149 1) [.sl 0 0 n 1] [Ω (Ao eL l) U U]=Δ (.tup [iv 2,.sl 1 0 (CI l) 1],[.del,.set (Ω (Ao eL l) U U)]):=by
 intro n;unfold Cv at hl
 induction n with
 |zero=>
  intro _ ht;refine As K Lq (YN ..) ?_;refine Aj ?_;rw[show CI l=0 by omega]
 |succ n ih=>
  intro hn ht;refine As K Lq (YN ..) ?_;refine Ak ?_;rw[show Ah.sub .i64 ((n+1:Nat):Int) 1=(n:Int) from (Am4 (i:=n+1) (j:=1) (by omega) (by omega)).trans (by simp)];rw[Av,Jk (Nat.lt_succ_self n)];refine Ac ?_;refine(Aaq l n (by omega) _).trans ?_;simp only[Oj,ND,DK,Ab]
  by_cases h0:l[n]=0
  .refine Bk ?_ (by rw[h0];rfl)
   rw[Av,show Nm 0 n (n+1)=U by unfold Nm;rw[show Aqv 0 n=U by simp];simp];refine Ac ?_;refine Aa (ih (by omega) (PC ht (by rw[θ (show n<l.length by omega),h0]))) ?_;rfl
  .refine AC ?_
   have:=Q4 (θ (show n<l.length by omega)) h0;rw[show CI l=n+1 by omega]
theorem FF{l:List Nat}(hl:Cv l)(h:Limbs l):D.ask (.fn 149) [eN l] []=Δ (eN (AK (Ae l)),[]):=by
 have hs:=hl;unfold Cv at hs;refine Aw K Lq (AnT ..) ?_;have g:=AaJ K l hl l.length 0 [] rfl (by simp;omega);rw[Aq0,Aqk]at g;refine Aa g ?_;simp only[ND,DK,Ab];refine Aa (AaK K l hl l.length (ω _) (DH l)) ?_;simp only[ND,DK,Ab];have ht:=DH l;rw[show Aqv (0+CI l*1) (Ao eL l).length=U by rw[Bn AW];simp;omega];refine Ac ?_;rw[Tx l _ ht,J0 h];rfl
theorem Fy(a b:List Nat):D.ask (.fn 186) [eN a,eN b] []=Δ (iv ((max a.length b.length:Nat):Int),[]):=by
 refine Aw K AhO (An7 ..) ?_;rw[Ai,Ai]
 by_cases h:b.length<a.length
 .refine Ak ?_
  rw[show max a.length b.length=a.length by omega]
 .refine Aj ?_
  rw[show max a.length b.length=b.length by omega]
theorem Gf{a:List Nat}(ha:Limbs a)(i:Nat):D.ask (.fn 187) [eN a,iv (i:Int)] []=Δ (.v (.int .u64 (a.getD i 0:Int)),[]):=by
 refine Aw K AhP (An8 ..) ?_;rw[Ai,Aq7];refine Aj ?_
 by_cases h:i<a.length
 .refine C2 ?_
  have hx:=ha.get h;rw[Av,At (θ h),θ h];simp only[eL,Oj,ND,DK,Ab];rw[Cj (by omega)];rfl
 .refine Cx ?_
  rw[Ara (by omega)];rfl
theorem Agj{a b:List Nat}(ha:Limbs a)(hb:Limbs b)(m:Nat)(hma:a.length<=m)(hmb:b.length<=m)(hm:m<=1000000000):∀(n:Nat),n<=m->D.ask (.lp 228 0) [eN a,eN b,iv ((n:Int)-1)] []
  = Δ (if Db (Ae ((DJ m a).take n)) (Ae ((DJ m b).take n))=0 then .tup [iv 0] else .tup [bv U,iv (Db (Ae ((DJ m a).take n)) (Ae ((DJ m b).take n)))],[]):=by
 intro n
 induction n with
 |zero=>
  intro _;refine As K Sb (YZ ..) ?_;refine C2 ?_;rfl
 |succ n ih=>
  intro hn;refine As K Sb (YZ ..) ?_;rw[show (((n+1:Nat):Int)-1)=(n:Int) by omega];refine Cx ?_;have h1:n<(DJ m a).length:=by rw[Dz hma];omega
  have h2:n<(DJ m b).length:=by rw[Dz hmb];omega
  have e1:(DJ m a).take (n+1)=(DJ m a).take n++[a.getD n 0]:=by rw[Arq h1,JK hma (by omega)]
  have e2:(DJ m b).take (n+1)=(DJ m b).take n++[b.getD n 0]:=by rw[Arq h2,JK hmb (by omega)]
  rw[e1,e2,Rs ((DT ha).take n) ((DT hb).take n) (by simp;omega)];refine Aa (Gf K ha n) ?_;simp only[Q8,ND,DK,Ab];refine Aa (Gf K hb n) ?_;simp only[Q8,ND,DK,Ab]
  by_cases h3:a.getD n 0<b.getD n 0
  .refine Ak ?_
   rw[if_pos h3];rfl
  .refine Aj ?_
   rw[if_neg h3];refine Aa (Gf K ha n) ?_;simp only[Q8,ND,DK,Ab];refine Aa (Gf K hb n) ?_;simp only[Q8,ND,DK,Ab]
   by_cases h4:b.getD n 0<a.getD n 0
   .refine Ak ?_
    rw[if_pos h4];rfl
   .refine Aj ?_
    rw[if_neg h4];rw[show Ah.sub .i64 (n:Int) 1=(n:Int)-1 from FH (by omega) (by omega)];refine Aa (ih (by omega)) ?_
    by_cases h5:Db (Ae ((DJ m a).take n)) (Ae ((DJ m b).take n))=0
    .rw[if_pos h5];rfl
    .rw[if_neg h5];rfl
theorem Agk{a b:List Nat}(hsa:Cv a)(ha:Limbs a)(hsb:Cv b)(hb:Limbs b):D.ask (.fn 228) [eN a,eN b] []=Δ (iv (Db (Ae a) (Ae b)),[]):=by
 unfold Cv at hsa hsb;refine Aw K Sb (Aok ..) ?_;refine Aa (Fy K a b) ?_;simp only[ND,DK,Ab];rw[show Ah.sub .i64 ((max a.length b.length:Nat):Int) 1=((max a.length b.length:Nat):Int)-1 from FH (by omega) (by omega)];have g:=Agj K ha hb (max a.length b.length) (by omega) (by omega) (by omega) (max a.length b.length) (ω _);rw[ArO (by rw[Dz (by omega)];omega),ArO (by rw[Dz (by omega)];omega),FP,FP]at g;refine Aa g ?_
 by_cases h5:Db (Ae a) (Ae b)=0
 .rw[if_pos h5,h5];rfl
 .rw[if_neg h5];rfl
theorem Agi{a b:List Nat}(ha:Limbs a)(hb:Limbs b)(hm:max a.length b.length<=1000000000):∀(k i:Nat) (out:List Nat) (c:Nat),max a.length b.length+1-i=k->c<=1->out.length+k<=2000000000->
  D.ask (.lp 129 0) [eN a,eN b,.sl 0 0 out.length 1,.v (.int .u64 (c:Int)),iv (i:Int)] [Ω (Ao eL out) U U]
   = Δ (.tup [iv 0,.sl 1 0 (out++LW k c (a.drop i) (b.drop i)).length 1],[.del,.set (Ω (Ao eL (out++LW k c (a.drop i) (b.drop i))) U U)]):=by
 intro k
 induction k with
 |zero=>
  intro i out c hi hc ho;refine As K R0 (YI ..) ?_;refine Aa (Fy K a b) ?_;simp only[ND,DK,Ab];refine C2 ?_;rw[LW,Aro]
 |succ k ih=>
  intro i out c hi hc ho;have h1:=Md ha i;have h2:=Md hb i;have ih':=ih (i+1) (out++[(a.getD i 0+b.getD i 0+c) % 4294967296]) ((a.getD i 0+b.getD i 0+c) / 4294967296) (by omega) (by omega) (by simp;omega);rw[AqM,χ,Arb]at ih';refine As K R0 (YI ..) ?_;refine Aa (Fy K a b) ?_;simp only[ND,DK,Ab];refine Cx ?_;refine Aa (Gf K ha i) ?_;simp only[Q8,ND,DK,Ab];refine Aa (Gf K hb i) ?_;simp only[Q8,ND,DK,Ab];refine AC ?_ (by decide);have hf:Bc (out.length+1) 4=U:=AS (by omega) (by omega);have hb1:Aqv (0+out.length*1) (Ao eL out).length=U:=AU AW out (by omega);have e3:∀ s:Nat,Aqp 0 (Aqj (0+out.length*1) (Ao eL out))++[.v (.int .u32 (s:Int))]=Ao eL (out++[s]):=λs=>by
   rw[Aqk,Bm AW out (by omega)];exact Bj eL out s
  rw[CV (by omega),CV (by omega),Qw,Qv _ (by omega),BK (Ar1 _ (by omega)),BB (by omega),hf,hb1,e3];refine Ac ?_;refine Ac ?_;refine AC ?_ (by decide);refine Aa ih' ?_;rw[LW,Ku,Ku,Asi,Asi];rfl
theorem Mk{a b:List Nat}(hsa:a.length<=999999999)(ha:Limbs a)(hsb:b.length<=999999999)(hb:Limbs b):D.ask (.fn 129) [eN a,eN b] []=Δ (eN (AK (Ae a+Ae b)),[]):=by
 refine Aw K R0 (AnJ ..) ?_;have g:=Agi K ha hb (by omega) (max a.length b.length+1) 0 [] 0 rfl (by omega) (by simp;omega);rw[Aq0,Aqk,Aqk]at g;refine Aa g ?_;simp only[ND,DK,Ab];rw[AU AW _ (by omega)];refine Ac ?_;rw[Cg AW _ rfl];have hlen:∀(k c:Nat) (a b:List Nat),(LW k c a b).length=k:=λk=>by
  induction k with
  |zero=>intro c a b;rfl
  |succ k ih=>intro c a b;rw[LW,ε,ih]
 have gt:=FF K (l:=LW (max a.length b.length+1) 0 a b) (by unfold Cv;rw[hlen];omega) (Mt _ _ _ _);rw[PH]at gt;have h1:=Cz ha;have h2:=Cz hb;have p1:4294967296 ^ a.length<=4294967296 ^ (max a.length b.length):=ArC (by omega) (by omega);have p2:4294967296 ^ b.length<=4294967296 ^ (max a.length b.length):=ArC (by omega) (by omega);rw[Nat.mod_eq_of_lt (by rw[ArH];omega),Aqw]at gt;refine Aa gt ?_;rfl
theorem Agn{a b:List Nat}(ha:Limbs a)(hb:Limbs b)(m:Nat)(hma:max a.length b.length=m)(hm:m<=1000000000):∀(k i:Nat) (out:List Nat) (c:Nat),m-i=k->c<=1->out.length+k<=2000000000->
  D.ask (.lp 182 0) [eN a,eN b,.sl 0 0 out.length 1,.v (.int .u64 (c:Int)),iv (i:Int)] [Ω (Ao eL out) U U]
   = Δ (.tup [iv 0,.sl 1 0 (out++Gl c ((DJ m a).drop i) ((DJ m b).drop i)).length 1],[.del,.set (Ω (Ao eL (out++Gl c ((DJ m a).drop i) ((DJ m b).drop i))) U U)]):=by
 intro k;have la:=Dz (n:=m) (l:=a) (by omega);have lb:=Dz (n:=m) (l:=b) (by omega)
 induction k with
 |zero=>
  intro i out c hi hc ho;refine As K R5 (YP ..) ?_;refine Aa (Fy K a b) ?_;simp only[ND,DK,Ab];refine Aj ?_;rw[show (DJ m a).drop i=[] from Aqq (by omega),Gl,Aro]
 |succ k ih=>
  intro i out c hi hc ho;have h1:=Md ha i;have h2:=Md hb i;have ia:i<(DJ m a).length:=by omega
  have ib:i<(DJ m b).length:=by omega
  rw[π ia,JK (by omega) (by omega),π ib,JK (by omega) (by omega),Gl,List.headD_cons,List.tail_cons];refine As K R5 (YP ..) ?_;refine Aa (Fy K a b) ?_;simp only[ND,DK,Ab];refine Ak ?_;refine Aa (Gf K ha i) ?_;simp only[Q8,ND,DK,Ab];refine Aa (Gf K hb i) ?_;simp only[Q8,ND,DK,Ab];refine AC ?_ (by decide);have hf:Bc (out.length+1) 4=U:=AS (by omega) (by omega);have hb1:Aqv (0+out.length*1) (Ao eL out).length=U:=AU AW out (by omega);have e3:∀ s:Nat,Aqp 0 (Aqj (0+out.length*1) (Ao eL out))++[.v (.int .u32 (s:Int))]=Ao eL (out++[s]):=λs=>by
   rw[Aqk,Bm AW out (by omega)];exact Bj eL out s
  rw[show (4294967296:Int)=((4294967296:Nat):Int) from rfl,CV (by omega),Gg (by omega) (by omega),Gg (by omega) (by omega)];rw[show ((4294967296:Nat):Int)=(4294967296:Int) from rfl,Qw,Qv _ (by omega),BK (Ar1 _ (by omega)),BB (by omega),show (1:Int)=((1:Nat):Int) from rfl,Gg (by omega) (by omega),hf,hb1,e3];refine Ac ?_;refine Ac ?_;refine AC ?_ (by decide)
  by_cases hlt:a.getD i 0<b.getD i 0+c
  .rw[if_pos hlt,if_pos hlt]
   have ih':=ih (i+1) (out++[a.getD i 0+4294967296-(b.getD i 0+c)]) 1 (by omega) (by omega) (by simp;omega);rw[AqM,χ,Arb]at ih';rw[show (a.getD i 0+4294967296-b.getD i 0-c) % 4294967296=a.getD i 0+4294967296-(b.getD i 0+c) by omega,show 1-(a.getD i 0+4294967296-b.getD i 0-c) / 4294967296=1 by omega];refine Aa ih' ?_;rfl
  .rw[if_neg hlt,if_neg hlt]
   have ih':=ih (i+1) (out++[a.getD i 0-(b.getD i 0+c)]) 0 (by omega) (by omega) (by simp;omega);rw[AqM,χ,Arb]at ih';rw[show (a.getD i 0+4294967296-b.getD i 0-c) % 4294967296=a.getD i 0-(b.getD i 0+c) by omega,show 1-(a.getD i 0+4294967296-b.getD i 0-c) / 4294967296=0 by omega];refine Aa ih' ?_;rfl
theorem VL{a b:List Nat}(hsa:Cv a)(ha:Limbs a)(hsb:Cv b)(hb:Limbs b):D.ask (.fn 182) [eN a,eN b] []=Δ (MT (Ae a) (Ae b),[]):=by
 have s1:=hsa;have s2:=hsb;unfold Cv at s1 s2;refine Aw K R5 (An3 ..) ?_;refine Aa (Agk K hsa ha hsb hb) ?_;simp only[ND,DK,Ab];unfold MT
 by_cases h1:Ae a<Ae b
 .rw[show Db (Ae a) (Ae b)=-1 by unfold Db;rw[if_pos h1]]
  refine Ak ?_ (by decide);rw[if_neg (by omega)];rfl
 .refine Aj ?_ (by unfold Db;rw[if_neg h1];split<;>omega)
  rw[if_pos (by omega)];have la:=Dz (n:=max a.length b.length) (l:=a) (by omega);have lb:=Dz (n:=max a.length b.length) (l:=b) (by omega);have g:=Agn K ha hb (max a.length b.length) rfl (by omega) (max a.length b.length) 0 [] 0 (by omega) (by omega) (by simp;omega);rw[Aq0,Aqk,Aqk]at g;refine Aa g ?_;simp only[ND,DK,Ab];rw[AU AW _ (by omega)];refine Ac ?_;rw[Cg AW _ rfl];have gt:=FF K (l:=Gl 0 (DJ (max a.length b.length) a) (DJ (max a.length b.length) b)) (by unfold Cv;rw[JZ];omega) (Gm _ _ _ (DT ha) (DT hb) (by omega));rw[Tb (DT ha) (DT hb) (by omega) (by rw[FP,FP];omega),FP,FP]at gt;refine Aa gt ?_;rfl
theorem Xk{a:List Nat}(ha:Limbs a)(hs:Cv a)(m:Nat)(hm:m<4294967296):∀(k i:Nat) (out:List Nat) (c:Nat),a.length-i=k->i<=a.length->c<4294967296->out.length+k<=2000000000->
  ∃(o:List Nat) (c':Nat),D.ask (.lp 229 0) [eN a,.v (.int .u64 (m:Int)),.sl 0 0 out.length 1,.v (.int .u64 (c:Int)),iv (i:Int)] [Ω (Ao eL out) U U]
   = Δ (.tup [iv 0,.sl 1 0 o.length 1,.v (.int .u64 (c':Int))],[.del,.set (Ω (Ao eL o) U U)])/\c'<4294967296/\o++[c']=out++Fj m c (a.drop i):=by
 intro k;unfold Cv at hs
 induction k with
 |zero=>
  intro i out c hi hle hc ho;refine⟨out,c,?_,hc,?_⟩
  .refine As K Se (Y0 ..) ?_
   rw[Ai];refine Aj ?_;rfl
  .rw[show a.drop i=[] from Aqq (by omega)]
   rfl
 |succ k ih=>
  intro i out c hi hle hc ho;have hlt:i<a.length:=by omega
  have hx:=ha.get hlt;have hp:=Qn hx hm;have hg:a.getD i 0=a[i]:=by rw[Aq7,θ hlt];rfl
  obtain⟨o,c',h1,h2,h3⟩:=ih (i+1) (out++[(a[i]*m+c) % 4294967296]) ((a[i]*m+c) / 4294967296) (by omega) (by omega) (by omega) (by simp;omega);refine⟨o,c',?_,h2,?_⟩
  .refine As K Se (Y0 ..) ?_
   rw[Ai];refine Ak ?_;refine Aa (Gf K ha i) ?_;simp only[Q8,ND,DK,Ab,hg];refine AC ?_ (by decide);have hf:Bc (out.length+1) 4=U:=AS (by omega) (by omega);have hb1:Aqv (0+out.length*1) (Ao eL out).length=U:=AU AW out (by omega);have e3:∀ s:Nat,Aqp 0 (Aqj (0+out.length*1) (Ao eL out))++[.v (.int .u32 (s:Int))]=Ao eL (out++[s]):=λs=>by
    rw[Aqk,Bm AW out (by omega)];exact Bj eL out s
   rw[χ,Arb]at h1;rw[VN (by omega),CV (by omega),Qw,Qv _ (by omega),BK (Ar1 _ (by omega)),BB (by omega),hf,hb1,e3];refine Ac ?_;refine Ac ?_;refine AC ?_ (by decide);refine Aa h1 ?_;rfl
  .rw[h3,π hlt,Fj,AqM]
   rfl
omit K in
theorem Jb:∀(m c:Nat) (a:List Nat),(Fj m c a).length=a.length+1
 |_,_,[]=>rfl
 |m,c,x::a=>by rw[Fj,ε,Jb,ε]
theorem Xl{a:List Nat}(ha:Limbs a)(hs:a.length<=999999999)(m:Nat)(hm:m<4294967296):D.ask (.fn 229) [eN a,.v (.int .u64 (m:Int))] []=Δ (eN (AK (Ae a*m)),[]):=by
 obtain⟨o,c',g,hc,ho⟩:=Xk K ha (by unfold Cv;omega) m hm a.length 0 [] 0 (by omega) (by omega) (by omega) (by simp;omega);rw[Aq0,Aqk]at ho;have hol:o.length=a.length:=by
  have:=congrArg List.length ho;rw[χ,Jb]at this;simpa using this
 refine Aw K Se (Aol ..) ?_;refine Aa g ?_;simp only[Oj,ND,DK,Ab];rw[BK hc];have e3:Aqp 0 (Aqj (0+o.length*1) (Ao eL o))++[.v (.int .u32 (c':Int))]=Ao eL (o++[c']):=by
  rw[Aqk,Bm AW o (by omega)];exact Bj eL o c'
 rw[AS (n:=o.length+1) (b:=4) (by omega) (by omega),AU AW o (by omega),e3,AU AW (o++[c']) (by simp)];refine Ac ?_;refine Ac ?_;refine Ac ?_;rw[Aqk,Bm AW (o++[c']) (by simp),show Bl (o.length+1) 1 (Ao eL (o++[c']))=(o++[c']).map eL from by have:=Dg AW (o++[c']);rwa [χ]at this];rw[ho];have gt:=FF K (l:=Fj m 0 a) (by unfold Cv;rw[Jb];omega) (JW _ _ _ hm ha (by omega));rw[LS,Arf]at gt;refine Aa gt ?_;rfl
end
theorem Ed{a b:List Nat}(ha:Limbs a)(hb:Limbs b):(AK (Ae a*Ae b)).length<=a.length+b.length:=by
 refine B1 ?_;rw[Nat.pow_add];exact Nat.mul_lt_mul'' (Cz ha) (Cz hb)
theorem Z6(va x vd:Nat):0+4294967296*(va*vd)+va*x=va*(x+4294967296*vd):=by
 rw[Nat.mul_add,Nat.mul_left_comm va];omega
theorem AaZ{d:Nat}(h:d<4294967296):Limbs [d]:=Bx h Cr
section
variable {D:Orc} (K:Knows Al Pz D)
include K
theorem Agt(A B:AV)(t:Int){xs ys:List (List AV)}(hA:A=.ls xs)(hB:B=.ls ys){out:List Nat}(hs:out.length<=999999999):∀(k i:Nat) (up:List Nat),out.length-i=k->i<=out.length->up=0::out.take i->
  D.ask (.lp 183 1) [A,B,eN out,iv t,.sl 0 0 (i+1) 1,iv (i:Int)] [Ω (Ao eL up) U U]=Δ (.tup [iv 2,A,B,iv t,.sl 1 0 (out.length+1) 1],[.del,.set (Ω (Ao eL (0::out)) U U)]):=by
 subst hA hB;intro k
 induction k with
 |zero=>
  intro i up hk hi hu;obtain rfl:i=out.length:=by omega
  rw[List.take_length]at hu;subst hu;refine As K Lr (YR ..) ?_;rw[Ai];exact Aj rfl
 |succ k ih=>
  intro i up hk hi hu;have hlt:i<out.length:=by omega
  have hl:up.length=i+1:=by rw[hu,ε,AqT,ArG hi]
  have ih':=ih (i+1) (up++[out[i]]) (by omega) (by omega) (by rw[hu,Arq hlt];rfl);have e3:Aqp 0 (Aqj (0+(i+1)*1) (Ao eL up))++[.v (.int .u32 (out[i]:Int))]=Ao eL (up++[out[i]]):=by
   rw[Aqk,Bm AW up (by omega)];exact Bj eL up out[i]
  refine As K Lr (YR ..) ?_;rw[Ai];refine Ak ?_;rw[Av,At (θ hlt)];simp only[eL,Oj,ND,DK,Ab];rw[BB (by omega),AS (n:=i+1+1) (b:=4) (by omega) (by omega),AU AW up (by omega),e3];refine Ac ?_;refine Ac ?_;refine Aa ih' ?_;rfl
theorem Agu{a b:List Nat}(ha:Limbs a)(hb:Limbs b)(hs:a.length+b.length<=900000000):∀ i:Nat,i<=b.length->D.ask (.lp 183 0) [eN a,eN b,eN (AK (Ae a*Ae (b.drop i))),iv ((i:Int)-1)] []=Δ (.tup [iv 0,eN (AK (Ae a*Ae b))],[]):=by
 intro i
 induction i with
 |zero=>
  intro _;refine As K Lr (YQ ..) ?_;refine C2 ?_;rw[Aqk];rfl
 |succ i ih=>
  intro hi;have hlt:i<b.length:=by omega
  have hx:=hb.get hlt;have ln:∀ j:Nat,(AK (Ae a*Ae (b.drop j))).length<=a.length+b.length:=λj=>by
   have:=Ed ha (hb.drop j);rw[List.length_drop]at this;omega
  have l1:=ln (i+1);rw[show (((i+1:Nat):Int)-1)=(i:Int) by omega];refine As K Lr (YQ ..) ?_;refine Cx ?_;have g:=Agt K (eN a) (eN b) (i:Int) rfl rfl (out:=AK (Ae a*Ae (b.drop (i+1)))) (by omega) _ 0 [0] rfl (by omega) rfl;refine Aa g ?_;simp only[eN,Oj,ND,DK,Ab];rw[Av,At (θ hlt)];simp only[eL,Oj,ND,DK,Ab];rw[Cj (show b[i]<_ by omega)];refine Ac ?_;refine Aa (Xl K ha (by omega) b[i] hx) ?_;simp only[eN,Oj,ND,DK,Ab];rw[AU AW (0::AK (Ae a*Ae (b.drop (i+1)))) (by simp)];refine Ac ?_;rw[Bm AW (0::AK (Ae a*Ae (b.drop (i+1)))) (by simp),show Bl ((AK (Ae a*Ae (b.drop (i+1)))).length+1) 1 (Ao eL (0::AK (Ae a*Ae (b.drop (i+1)))))=(0::AK (Ae a*Ae (b.drop (i+1)))).map eL from Dg AW (0::AK (Ae a*Ae (b.drop (i+1))))];have l3:(AK (Ae a*b[i])).length<=a.length+1:=by
   have:=Ed ha (AaZ hx)
   rwa [show Ae [b[i]]=b[i] by simp[Ae]]at this
  have g2:=Mk K (a:=0::AK (Ae a*Ae (b.drop (i+1)))) (b:=AK (Ae a*b[i])) (by rw[ε];omega) (Bx (by omega) (Ay _)) (by omega) (Ay _);rw[Ae,AR,AR,Z6,show b[i]+4294967296*Ae (b.drop (i+1))=Ae (b.drop i) by rw[π hlt,Ae]]at g2;refine Aa g2 ?_;simp only[eN,Oj,ND,DK,Ab];rw[FH (by omega) (by omega)];refine Aa (ih (by omega)) ?_;rfl
theorem Agm{a b:List Nat}(ha:Limbs a)(hb:Limbs b)(hs:a.length+b.length<=900000000):D.ask (.fn 183) [eN a,eN b] []=Δ (eN (AK (Ae a*Ae b)),[]):=by
 have g:=Agu K ha hb hs b.length (ω _);rw[List.drop_length,Ae,Nat.mul_zero,EC]at g;refine Aw K Lr (An4 ..) ?_;rw[Ai,FH (by omega) (by omega)];refine Aa g ?_;simp only[eN,ND,DK,Ab];have l1:=Ed ha hb;have g2:=FF K (l:=AK (Ae a*Ae b)) (by unfold Cv;omega) (Ay _);rw[AR]at g2;refine Aa g2 ?_;rfl
theorem AaG{a b:List Nat}(hl:a.length=b.length)(hs:Cv a):∀(k i:Nat),a.length-i=k->i<=a.length->D.ask (.lp 210 0) [eN a,eN b,iv (i:Int)] []=if a.drop i=b.drop i then Δ (.tup [iv 0],[]) else Δ (.tup [bv U,bv Ξ],[]):=by
 intro k;unfold Cv at hs
 induction k with
 |zero=>
  intro i hk hi;rw[Aqq (show a.length<=i by omega),Aqq (show b.length<=i by omega),if_pos rfl];refine As K Nc (P6 ..) ?_;rw[Ai];exact Aj rfl
 |succ k ih=>
  intro i hk hi;have h1:i<a.length:=by omega
  have h2:i<b.length:=by omega
  have ih':=ih (i+1) (by omega) (by omega);rw[π h1,π h2]
  by_cases h:a[i]=b[i]
  .by_cases h3:a.drop (i+1)=b.drop (i+1)
   .rw[if_pos h3]at ih'
    rw[if_pos (by rw[h,h3])];refine As K Nc (P6 ..) ?_;rw[Ai];refine Ak ?_;rw[Av,At (θ h1)];simp only[eL,Oj,ND,DK,Ab];rw[Av,At (θ h2)];simp only[eL,Oj,ND,DK,Ab];rw[BB (by omega)];refine Bk ?_;refine Aa ih' ?_;rfl
   .rw[if_neg h3]at ih'
    rw[if_neg (λe=>h3 (List.cons.inj e).2)];refine As K Nc (P6 ..) ?_;rw[Ai];refine Ak ?_;rw[Av,At (θ h1)];simp only[eL,Oj,ND,DK,Ab];rw[Av,At (θ h2)];simp only[eL,Oj,ND,DK,Ab];rw[BB (by omega)];refine Bk ?_;refine Aa ih' ?_;rfl
  .rw[if_neg (λe=>h (List.cons.inj e).1)]
   refine As K Nc (P6 ..) ?_;rw[Ai];refine Ak ?_;rw[Av,At (θ h1)];simp only[eL,Oj,ND,DK,Ab];rw[Av,At (θ h2)];simp only[eL,Oj,ND,DK,Ab];rw[BB (by omega)];exact AC rfl
theorem Aam{a b:List Nat}(hs:Cv a):D.ask (.fn 210) [eN a,eN b] []=Δ (bv (decide (a=b)),[]):=by
 refine Aw K Nc (Aoi ..) ?_;rw[Ai,Ai]
 by_cases hl:a.length=b.length
 .refine Bk ?_
  have g:=AaG K hl hs a.length 0 (by omega) (by omega);rw[Aqk,Aqk]at g
  by_cases h:a=b
  .rw[if_pos h]at g
   rw[decide_eq_true h];refine Aa g ?_;rfl
  .rw[if_neg h]at g
   rw[decide_eq_false h];refine Aa g ?_;rfl
 .refine AC ?_
  rw[decide_eq_false (λe=>hl (by rw[e]))]
end
theorem Gr{z:Zi}(h:zv z<0):zv z=-(Ae z.abs:Int):=by
 unfold zv DE at *
 cases e:z.neg<;>rw[e]at h<;>simp at h ⊢
 omega
theorem Ej{z:Zi}(h:¬ zv z<0):zv z=(Ae z.abs:Int):=by
 unfold zv DE at *
 cases e:z.neg<;>rw[e]at h<;>simp at h ⊢
 omega
theorem KX{n:Int}:Cy n<0 ↔ n<0:=by
 unfold Cy;split
 .omega
 .split<;>omega
theorem Acr{k:Nat}{x y:Int}(hx:InB k x)(hy:InB k y):InB (k+1) (x+y):=by
 unfold InB at *;rw[ArH];have:=Int.natAbs_add_le x y;omega
theorem Pc{k:Nat}(hk:k<=900000000){a b:Zi}(ha:Lz k a)(hb:Lz k b):Cv (AK (Ae a.abs+Ae b.abs)):=by
 unfold Cv;have h1:=ha.inb;have h2:=hb.inb;have f:∀ z:Zi,(zv z).natAbs=Ae z.abs:=λz=>by
  unfold zv DE;split
  .rw[Asf];rfl
  .rfl
 unfold InB at h1 h2;rw[f]at h1 h2;have:=B1 (n:=Ae a.abs+Ae b.abs) (k:=k+1) (by rw[ArH];omega);omega
theorem CY(n:Int):Cy n=-1/\n<0\/Cy n=1/\0<n\/Cy n=0/\n=0:=by
 unfold Cy;split
 .omega
 .split<;>omega
theorem QG(x y:Int):Ah.mul .i64 (Cy x) (Cy y)=Cy x*Cy y:=by
 show IntKind.i64.wrap (Cy x*Cy y)=_
 rw[IntKind.wrap_i64];rcases CY x with h|h|h<;>rcases CY y with h2|h2|h2<;>rw[h.1,h2.1]<;>rfl
theorem Un{a b:Zi}(h:Cy (zv a)*Cy (zv b)<0):DE U (Ae a.abs*Ae b.abs)=zv a*zv b:=by
 unfold DE;rw[if_pos rfl,Asz]
 by_cases ha:zv a<0
 .rw[Gr ha]
  by_cases hb:zv b<0
  .exfalso
   rcases CY (zv a) with h1|h1|h1<;>rcases CY (zv b) with h2|h2|h2<;>rw[h1.1,h2.1]at h<;>omega
  .rw[Ej hb,Int.neg_mul]
 .rw[Ej ha]
  by_cases hb:zv b<0
  .rw[Gr hb,Int.mul_neg]
  .exfalso
   rcases CY (zv a) with h1|h1|h1<;>rcases CY (zv b) with h2|h2|h2<;>rw[h1.1,h2.1]at h<;>omega
theorem Uo{a b:Zi}(h:¬ Cy (zv a)*Cy (zv b)<0):DE Ξ (Ae a.abs*Ae b.abs)=zv a*zv b:=by
 unfold DE;rw[if_neg (by simp),Asz];rcases CY (zv a) with h1|h1|h1
 .rcases CY (zv b) with h2|h2|h2
  .rw[Gr h1.2,Gr h2.2,Int.neg_mul_neg]
  .exfalso
   rw[h1.1,h2.1]at h;omega
  .have:=Ej (z:=b) (by omega)
   rw[h2.2,Ase,←this,h2.2,Ase]
 .rcases CY (zv b) with h2|h2|h2
  .exfalso
   rw[h1.1,h2.1]at h;omega
  .rw[←Ej (z:=a) (by omega),←Ej (z:=b) (by omega)]
  .have:=Ej (z:=b) (by omega)
   rw[h2.2,Ase,←this,h2.2,Ase]
 .have:=Ej (z:=a) (by omega)
  rw[h1.2,AsM,←this,h1.2,AsM]
section
variable {D:Orc} (K:Knows Al Pz D) (R:Knows Al VZ D)
include K R
theorem DA(neg:Bool){a:List Nat}(ha:Limbs a)(hs:Cv a):D.ask (.fn 128) [bv neg,eN a] []=Δ (.agg (eZ (A1 (DE neg (Ae a)))),[]):=by
 refine Aw R Ahw (AnI ..) ?_;refine Aa (FF K hs ha) ?_;simp only[eN,ND,DK,Ab,Ai];rw[V3];unfold eZ eN;have hp:=@Ee (Ae a)
 by_cases h:0<Ae a
 .refine AC ?_ (by have:=hp.2 h;omega)
  rw[decide_eq_true h,Bool.and_true]
 .have h0:Ae a=0:=by omega
  rw[decide_eq_false h,Bool.and_false,h0,EC];exact Bk rfl rfl
theorem Xe{z:Zi}(hz:Lz 1000000000 z):D.ask (.fn 75) [.agg (eZ z)] []=Δ (.agg (eZ (A1 (zv z))),[]):=by
 refine Aw R Al7 (e75 ..) ?_;refine Aa (DA K R z.neg hz.lim hz.len) ?_;rfl
theorem D4{z:Zi}(hz:Lz 1000000000 z):D.ask (.fn 69) [.agg (eZ z)] []=Δ (iv (Cy (zv z)),[]):=by
 refine Aw R Al6 (e69 ..) ?_;refine Aa (FF K hz.len hz.lim) ?_;simp only[eN,ND,DK,Ab,Ai];have hp:=@Ee (Ae z.abs);unfold zv DE
 by_cases h:0<Ae z.abs
 .refine AC ?_ (by have:=hp.2 h;omega)
  cases z.neg with
  |false=>
   refine D6 ?_;rw[if_neg (by simp)];unfold Cy;rw[if_neg (by omega)]
   first|rw[if_pos (by omega)] | rw[if_neg (by omega)]
  |true=>
   refine Ac ?_;rw[if_pos rfl];unfold Cy
   first|rw[if_pos (by omega)] | rw[if_neg (by omega),if_neg (by omega)]
 .have h0:Ae z.abs=0:=by omega
  rw[h0,EC];refine Bk ?_ rfl
  cases z.neg<;>rfl
theorem VK{z:Zi}(hz:Lz 1000000000 z):D.ask (.fn 179) [.agg (eZ z)] []=Δ (.agg (eZ (A1 (-zv z))),[]):=by
 have e:-zv z=DE (!z.neg) (Ae z.abs):=by
  unfold zv DE
  cases z.neg<;>simp
 rw[e];refine Aw R AhL (An2 ..) ?_;rw[Aan];have g:=λb=>DA K R b hz.lim hz.len
 cases z.neg with
 |false=>
  refine Ac ?_;refine Aa (g U) ?_;rfl
 |true=>
  refine D6 ?_;refine Aa (g Ξ) ?_;rfl
theorem Po{k:Nat}(hk:k<=900000000){a b:Zi}(ha:Lz k a)(hb:Lz k b)(hp:¬ zv a<0):D.ask (.fn 122) [.agg (eZ a),.agg (eZ b)] []=Δ (.agg (eZ (A1 (zv a+zv b))),[]):=by
 have la:=ha.len;have lb:=hb.len;have sa:=D4 K R (ha.mono (show k<=1000000000 by omega));have sb:=D4 K R (hb.mono (show k<=1000000000 by omega));have ea:=Ej hp;have hsa:¬ Cy (zv a)<0:=λh=>hp (KX.1 h)
 refine Aw R Zy (AlG ..) ?_;refine Aa sa ?_;simp only[Q8,ND,DK,Ab];refine Aj ?_ hsa;refine Aa sa ?_;simp only[Q8,ND,DK,Ab];refine Cx ?_;refine Aa sb ?_;simp only[Q8,ND,DK,Ab]
 by_cases hb0:zv b<0
 .have hsb:=KX.2 hb0
  have eb:=Gr hb0;refine C2 ?_;refine Aa sa ?_;simp only[Q8,ND,DK,Ab];refine Aj ?_ hsa;have g1:=VL K (a:=a.abs) (b:=b.abs) (by unfold Cv;omega) ha.lim (by unfold Cv;omega) hb.lim;unfold MT at g1;refine Aa g1 ?_
  by_cases hle:Ae b.abs<=Ae a.abs
  .rw[if_pos hle]
   simp only[eN,ND,DK,Ab];have g2:=DA K R Ξ (a:=AK (Ae a.abs-Ae b.abs)) (Ay _) (by
    unfold Cv;have:=B1 (n:=Ae a.abs-Ae b.abs) (k:=a.abs.length) (by have:=Cz ha.lim;omega);omega)
   rw[AR,show DE Ξ (Ae a.abs-Ae b.abs)=zv a+zv b by unfold DE;rw[if_neg (by simp)];omega]at g2;refine Aa g2 ?_;rfl
  .rw[if_neg hle]
   simp only[eN,ND,DK,Ab];have g3:=VL K (a:=b.abs) (b:=a.abs) (by unfold Cv;omega) hb.lim (by unfold Cv;omega) ha.lim;unfold MT at g3;rw[if_pos (show Ae a.abs<=Ae b.abs by omega)]at g3;refine Aa g3 ?_;simp only[eN,ND,DK,Ab];have g2:=DA K R U (a:=AK (Ae b.abs-Ae a.abs)) (Ay _) (by
    unfold Cv;have:=B1 (n:=Ae b.abs-Ae a.abs) (k:=b.abs.length) (by have:=Cz hb.lim;omega);omega)
   rw[AR,show DE U (Ae b.abs-Ae a.abs)=zv a+zv b by unfold DE;rw[if_pos rfl];omega]at g2;refine Aa g2 ?_;rfl
 .have hsb:¬ Cy (zv b)<0:=λh=>hb0 (KX.1 h)
  have eb:=Ej hb0;refine Cx ?_;refine Aa (Mk K (by omega) ha.lim (by omega) hb.lim) ?_;simp only[eN,ND,DK,Ab];have g2:=DA K R Ξ (a:=AK (Ae a.abs+Ae b.abs)) (Ay _) (Pc hk ha hb);rw[AR,show DE Ξ (Ae a.abs+Ae b.abs)=zv a+zv b by unfold DE;rw[if_neg (by simp)];omega]at g2;refine Aa g2 ?_;rfl
theorem SQ{k:Nat}(hk:k<=900000000){a b:Zi}(ha:Lz k a)(hb:Lz k b):D.ask (.fn 122) [.agg (eZ a),.agg (eZ b)] []=Δ (.agg (eZ (A1 (zv a+zv b))),[]):=by
 by_cases hp:zv a<0
 .have la:=ha.len
  have lb:=hb.len;have sa:=D4 K R (ha.mono (show k<=1000000000 by omega));have sb:=D4 K R (hb.mono (show k<=1000000000 by omega));have ea:=Gr hp;have hsa:=KX.2 hp;refine Aw R Zy (AlG ..) ?_;refine Aa sa ?_;simp only[Q8,ND,DK,Ab];refine Ak ?_ hsa;refine Aa sb ?_;simp only[Q8,ND,DK,Ab]
  by_cases hb0:zv b<0
  .have eb:=Gr hb0
   refine Ak ?_ (KX.2 hb0);refine Aa (Mk K (by omega) ha.lim (by omega) hb.lim) ?_;simp only[eN,ND,DK,Ab];have g2:=DA K R U (a:=AK (Ae a.abs+Ae b.abs)) (Ay _) (Pc hk ha hb);rw[AR,show DE U (Ae a.abs+Ae b.abs)=zv a+zv b by unfold DE;rw[if_pos rfl];omega]at g2;refine Aa g2 ?_;rfl
  .refine Aj ?_ (λh=>hb0 (KX.1 h))
   refine Aa sa ?_;simp only[Q8,ND,DK,Ab];refine C2 ?_;refine Aa sa ?_;simp only[Q8,ND,DK,Ab];refine Ak ?_ hsa;have g:=Po K R hk hb ha hb0;rw[As9]at g;refine Aa g ?_;rfl
 .exact Po K R hk ha hb hp
theorem AaQ{k:Nat}(hk:k<=900000000){a b:Zi}(ha:Lz k a)(hb:Lz k b):D.ask (.fn 124) [.agg (eZ a),.agg (eZ b)] []=Δ (.agg (eZ (A1 (zv a-zv b))),[]):=by
 refine Aw R Aht (AnF ..) ?_;refine Aa (VK K R (hb.mono (show k<=1000000000 by omega))) ?_;have hn:Lz k (A1 (-zv b)):=InB.lz (by have:=hb.inb;unfold InB at *;rwa [Asf]);have g:=SQ K R hk ha hn;rw[Cb,←Ata]at g;simp only[eZ,eN,ND,DK,Ab];refine Aa g ?_;rfl
theorem AaO{k:Nat}(hk:k<=900000000){a b:Zi}(ha:Lz k a)(hb:Lz k b):D.ask (.fn 53) [.agg (eZ a),.agg (eZ b)] []=Δ (iv (Cy (zv a-zv b)),[]):=by
 refine Aw R Al2 (e53 ..) ?_;refine Aa (AaQ K R hk ha hb) ?_;have hs:Lz (k+1) (A1 (zv a-zv b)):=InB.lz (by rw[Ata];exact Acr ha.inb (by have:=hb.inb;unfold InB at *;rwa [Asf]));have g:=D4 K R (hs.mono (show k+1<=1000000000 by omega));rw[Cb]at g;simp only[eZ,eN,ND,DK,Ab];refine Aa g ?_;rfl
theorem AaP{k m:Nat}(hk:k<=400000000)(hm:m<=400000000){a b:Zi}(ha:Lz k a)(hb:Lz m b):D.ask (.fn 123) [.agg (eZ a),.agg (eZ b)] []=Δ (.agg (eZ (A1 (zv a*zv b))),[]):=by
 have la:=ha.len;have lb:=hb.len;have sa:=D4 K R (ha.mono (show k<=1000000000 by omega));have sb:=D4 K R (hb.mono (show m<=1000000000 by omega));refine Aw R Ahs (AnE ..) ?_;refine Aa sa ?_;simp only[Q8,ND,DK,Ab];refine Aa sb ?_;simp only[Q8,ND,DK,Ab];have g:=Agm K ha.lim hb.lim (by omega);have l1:=Ed ha.lim hb.lim;have gf:∀ ng,D.ask (.fn 128) [bv ng,eN (AK (Ae a.abs*Ae b.abs))] []=Δ (.agg (eZ (A1 (DE ng (Ae a.abs*Ae b.abs)))),[]):=λng=>by
  have:=DA K R ng (a:=AK (Ae a.abs*Ae b.abs)) (Ay _) (by unfold Cv;omega)
  rwa [AR]at this
 have hmul:Ah.mul .i64 (Cy (zv a)) (Cy (zv b))=Cy (zv a)*Cy (zv b):=QG _ _;rw[hmul]
 by_cases h:Cy (zv a)*Cy (zv b)<0
 .refine Ak ?_ h
  refine Aa g ?_;simp only[eN,ND,DK,Ab];have g2:=gf U;rw[Un h]at g2;refine Aa g2 ?_;rfl
 .refine Aj ?_ h
  refine Aa g ?_;simp only[eN,ND,DK,Ab];have g2:=gf Ξ;rw[Uo h]at g2;refine Aa g2 ?_;rfl
theorem Xn{a b:Zi}(ha:Lz 1000000000 a):D.ask (.fn 152) [.agg (eZ a),.agg (eZ b)] []=Δ (bv (decide (a.neg=b.neg/\a.abs=b.abs)),[]):=by
 refine Aw R AhE (AnU ..) ?_;rw[VM]
 by_cases h:a.neg=b.neg
 .rw[show (a.neg == b.neg)=U by simp[h]]
  refine Ac ?_;refine Aa (Aam K (a:=a.abs) (b:=b.abs) ha.len) ?_
  by_cases h2:a.abs=b.abs
  .rw[decide_eq_true h2,decide_eq_true ⟨h,h2⟩]
   rfl
  .rw[decide_eq_false h2,decide_eq_false (λe=>h2 e.2)]
   rfl
 .rw[show (a.neg == b.neg)=Ξ by simp[h],decide_eq_false (λe=>h e.1)]
  exact D6 rfl
end
theorem Aap(m:Nat)(h:m<9223372036854775808):Ah.rem .i64 (m:Int) 4294967296=((m % 4294967296:Nat):Int):=by
 show Int.tmod (m:Int) 4294967296=_
 rw[show (4294967296:Int)=((4294967296:Nat):Int) from rfl,←Int.ofNat_tmod]
theorem Aao(m:Nat)(h:m<9223372036854775808):Ah.quo .i64 (m:Int) 4294967296=((m / 4294967296:Nat):Int):=by
 show IntKind.i64.wrap (Int.tdiv (m:Int) 4294967296)=_
 rw[IntKind.wrap_i64,show (4294967296:Int)=((4294967296:Nat):Int) from rfl,←Int.ofNat_tdiv];omega
theorem Tc(m:Nat):Ae [m % 4294967296,m / 4294967296]=m:=by
 unfold Ae Ae Ae;omega
theorem O4(m:Nat)(h:m<9223372036854775808):Limbs [m % 4294967296,m / 4294967296]:=Bx (by omega) (Bx (by omega) Cr)
structure RF (D:Orc):Prop where
 clean:∀ z:Zi,Lz 1000000000 z->D.ask (.fn 75) [.agg (eZ z)] []=Δ (.agg (eZ (A1 (zv z))),[])
 neg:∀ z:Zi,Lz 1000000000 z->D.ask (.fn 179) [.agg (eZ z)] []=Δ (.agg (eZ (A1 (-zv z))),[])
 sign:∀ z:Zi,Lz 1000000000 z->D.ask (.fn 69) [.agg (eZ z)] []=Δ (iv (Cy (zv z)),[])
 of_:∀ n:Int,-9223372036854775808<n->n<9223372036854775808->D.ask (.fn 56) [iv n] []=Δ (.agg (eZ (A1 n)),[])
 cmp:∀ a b:Zi,Lz 900000000 a->Lz 900000000 b->D.ask (.fn 53) [.agg (eZ a),.agg (eZ b)] []=Δ (iv (Cy (zv a-zv b)),[])
 add:∀ a b:Zi,Lz 900000000 a->Lz 900000000 b->D.ask (.fn 122) [.agg (eZ a),.agg (eZ b)] []=Δ (.agg (eZ (A1 (zv a+zv b))),[])
 mul:∀ a b:Zi,Lz 400000000 a->Lz 400000000 b->D.ask (.fn 123) [.agg (eZ a),.agg (eZ b)] []=Δ (.agg (eZ (A1 (zv a*zv b))),[])
 same:∀ a b:Zi,Lz 1000000000 a->D.ask (.fn 152) [.agg (eZ a),.agg (eZ b)] []=Δ (bv (decide (a.neg=b.neg/\a.abs=b.abs)),[])
section
variable {D:Orc} (K:Knows Al Pz D) (R:Knows Al VZ D)
include K R
theorem AkN(n:Int)(h1:-9223372036854775808<n)(h2:n<9223372036854775808):D.ask (.fn 56) [iv n] []=Δ (.agg (eZ (A1 n)),[]):=by
 refine Aw R Al3 (e56 ..) ?_
 by_cases h:0<=n
 .obtain⟨m,rfl⟩:=Ar8 h
  have g:=DA K R Ξ (O4 m (by omega)) (by unfold Cv;simp);rw[Tc,show DE Ξ m=(m:Int) from rfl]at g;refine Cx ?_ h;refine AC ?_ (by decide);refine AC ?_ (by decide);rw[Aap m (by omega),Aao m (by omega),BK (by omega),BK (by omega)];refine Aa g ?_;rfl
 .obtain⟨m,hm⟩:∃ m:Nat,n=-((m+1:Nat):Int):=⟨n.natAbs-1,by omega⟩
  have e1:Ah.sub .i64 0 (Ah.add .i64 n 1)=(m:Int):=by
   rw[Gy (by omega) (by omega),FH (by omega) (by omega)];omega
  have ga:=Mk K (a:=[m % 4294967296,m / 4294967296]) (b:=[1]) (by simp) (O4 m (by omega)) (by simp) (Bx (by omega) Cr);rw[Tc,show Ae [1]=1 from rfl]at ga;have hl:(AK (m+1)).length<=2:=B1 (by omega);have g:=DA K R U (Ay (m+1)) (by unfold Cv;omega);rw[AR,show DE U (m+1)=n by rw[hm];rfl]at g;refine C2 ?_ h;refine AC ?_ (by decide);refine AC ?_ (by decide);rw[e1,Aap m (by omega),Aao m (by omega),BK (by omega),BK (by omega)];refine Aa ga ?_;simp only[eN,ND,DK,Ab];refine Aa g ?_;rfl
theorem AmY:RF D where
 clean z h:=Xe K R h
 neg z h:=VK K R h
 sign z h:=D4 K R h
 of_ n h1 h2:=AkN K R n h1 h2
 cmp a b ha hb:=AaO K R (ω _) ha hb
 add a b ha hb:=SQ K R (ω _) ha hb
 mul a b ha hb:=AaP K R (ω _) (ω _) ha hb
 same a b ha:=Xn K R ha
end
theorem QF(n:Int):Cy n=0 ↔ n=0:=by
 unfold Cy
 repeat' split
 all_goals omega
theorem VT(n:Int):0<Cy n ↔ 0<n:=by
 unfold Cy
 repeat' split
 all_goals omega
section
variable {D:Orc} (Kh:Knows Al NZ D) (F:RF D)
include Kh F
theorem Ab7{n k:Nat}{ps:List Pt}{kz:Zi}(ht:TmB n k ⟨ps,kz⟩)(hn:n<=1000000)(hk:k+n<=400000000)(v:Int)(y0:Bool)(y1:List (List AV)):∀(m i:Nat) (acc:Int),ps.length-i=m->i<=ps.length->InB (k+i) acc->
  D.ask (.lp 77 0) [iv v,.ptr 0 0,.ptr 1 0,.ptr 2 0,iv (i:Int)] [⟨[.ls (ps.map eP),bv kz.neg,eN kz.abs],U,Ξ⟩,⟨[bv y0,.ls y1],U,Ξ⟩,⟨eZ (A1 acc),U,Ξ⟩]
   = Δ (.tup [iv 0,.ptr 1 0,.ptr 2 0],[.del,.set ⟨[bv y0,.ls y1],U,Ξ⟩,.set ⟨eZ (A1 (acc+if 0<=v then AQ v ((ps.drop i).map pv) else 0)),U,Ξ⟩]):=by
 have hlen:ps.length<=n:=ht.len;intro m
 induction m with
 |zero=>
  intro i acc hm hi ha;rw[Aqq (by omega)];have e0:acc+(if 0<=v then AQ v (([]:List Pt).map pv) else 0)=acc:=by
   rw[Are,AQ];split<;>omega
  rw[e0];refine As Kh ZC (Ahf ..) ?_;rw[Ai];exact Aj rfl
 |succ m ih=>
  intro i acc hm hi ha;have h1:i<ps.length:=by omega
  have hz:=ht.ps ps[i] (Aqz h1);rw[π h1,AqF,AQ];have hn1:∀ kk,Bh (ps.map eP) i kk=kk (eP ps[i]):=λkk=>At (θ h1) kk
  have ga:=F.add (A1 acc) ps[i].z (ha.lz.mono (by omega)) (hz.mono (by omega));rw[Cb]at ga;have ih1:=ih (i+1) acc (by omega) (by omega) (ha.mono (by omega));have ih2:=ih (i+1) (acc+zv ps[i].z) (by omega) (by omega) (by
   show InB (k+i+1) _
   exact InB.add ha (hz.inb.mono (by omega)))
  refine As Kh ZC (Ahf ..) ?_;rw[Ai];refine Ak ?_;rw[Av,hn1];simp only[eP,eN,ND,DK,Ab]
  by_cases hv:ps[i].v=v
  .refine Bk ?_ hv
   by_cases h0:0<=v
   .refine Cx ?_ h0
    rw[Av,hn1];simp only[eP,eN,ND,DK,Ab];refine Aa ga ?_;simp only[eZ,eN,ND,DK,Ab];rw[BB (by omega)];refine Aa ih2 ?_;rw[if_pos h0,if_pos h0,if_pos (show (pv ps[i]).1=v from hv),AtA];rfl
   .refine C2 ?_ h0
    rw[BB (by omega)];refine Aa ih1 ?_;rw[if_neg h0,if_neg h0];rfl
  .refine AC ?_ hv
   rw[BB (by omega)];refine Aa ih1 ?_;rw[if_neg (show ¬(pv ps[i]).1=v from hv),Atb];rfl
theorem Ab8{n k:Nat}{t:Tm}(ht:TmB n k t)(hn:n<=1000000)(hk:k+n<=400000000)(v:Int):D.ask (.fn 77) [.agg (eT t),iv v] []=Δ (.agg (eZ (A1 (if 0<=v then AQ v t.lf.ps else 0))),[]):=by
 obtain⟨ps,kz⟩:=t;have g:=Ab7 Kh F ht hn hk v Ξ [] _ 0 0 rfl (by omega) (InB.zero _);rw[Aqk,Atb]at g;have e0:eZ (A1 0)=[bv Ξ,.ls []]:=by rw[Alb];rfl
 rw[e0]at g;refine Aw Kh ZC (e77 ..) ?_;refine Aa g ?_;rfl
omit Kh F in
theorem WT{n k j:Nat}{l:Lf}(hl:LB n k l){vals:List Int}(hv:∀ x∈vals,InB j x):InB (k+n+j+vals.length+1) (l.val (Cm vals)):=by
 rw[Abw,As9];exact InB.add (SX hl hv _) (hl.k.mono (by omega))
end
section
variable {D:Orc} (Kh:Knows Al NZ D)
include Kh
theorem Acj(vals:List Zi)(m:Int)(hl:vals.length<=1000000):∀(k i:Nat),vals.length-i=k->i<=vals.length->
  D.ask (.lp 29 0) [.ls (vals.map eZ),iv m,iv (i:Int)] []=Δ (if ∀ z∈vals.drop i,(z.abs.length:Int)<=m then .tup [iv 0] else .tup [bv U,bv Ξ],[]):=by
 intro k
 induction k with
 |zero=>
  intro i hm hi;rw[Aqq (by omega),if_pos (by simp)];refine As Kh Zz (Aha ..) ?_;rw[Ai];exact Aj rfl
 |succ k ih=>
  intro i hm hi;have h1:i<vals.length:=by omega
  have ih:=ih (i+1) (by omega) (by omega);rw[π h1];refine As Kh Zz (Aha ..) ?_;rw[Ai];refine Ak ?_;rw[Av,At (θ h1)];simp only[eZ,eN,ND,DK,Ab];rw[Ai]
  by_cases hz:m<(vals[i].abs.length:Int)
  .refine Ak ?_ hz
   rw[if_neg (λh=>by have:=h vals[i] (Aqs ..);omega)]
  .refine Aj ?_ hz
   rw[BB (by omega)];refine Aa ih ?_
   by_cases hr:∀ z∈vals.drop (i+1),(z.abs.length:Int)<=m
   .rw[if_pos hr,if_pos (λz hz2=>by
     rcases ι.1 hz2 with rfl|hz2
     .omega
     .exact hr z hz2)]
    rfl
   .rw[if_neg hr,if_neg (λh=>hr λz hz=>h z (Aql _ hz))]
    rfl
theorem Ack(vals:List Zi)(n m:Nat)(hn:n<=1000000)(hl:vals.length<4611686018427387904):D.ask (.fn 29) [.ls (vals.map eZ),iv (n:Int),iv (m:Int)] []=Δ (bv (decide (vals.length<=n/\∀ z∈vals,z.abs.length<=m)),[]):=by
 refine Aw Kh Zz (e29 ..) ?_;rw[Ai]
 by_cases h:n<vals.length
 .rw[decide_eq_false (λe=>by omega)]
  exact PW (by omega)
 .have g:=Acj Kh vals m (by omega) _ 0 rfl (by omega)
  rw[Aqk]at g;refine Aj ?_;refine Aa g ?_
  by_cases hr:∀ z∈vals,(z.abs.length:Int)<=(m:Int)
  .rw[if_pos hr,decide_eq_true ⟨by omega,λz hz=>by have:=hr z hz;omega⟩]
   rfl
  .rw[if_neg hr,decide_eq_false (λe=>hr λz hz=>by have:=e.2 z hz;omega)]
   rfl
end
def eI(v:Int):List AV:=[iv v]
theorem IR(v:Int):(eI v).length=1:=rfl
def bkI(l:List Int):ABlk:=Ω (Ao eI l) U U
theorem apI(o:List Int)(h:o.length<=4000000)(X:KR):br (Bc (o.length+1) 8) (br (Aqv (0+o.length*1) (Ao eI o).length) X Θ) Θ=X:=by
 rw[AS (by omega) (by omega),AU IR o (by omega)];rfl
theorem AkV(o:List Int)(v:Int):Aqp 0 (Aqj (0+o.length*1) (Ao eI o))++[iv v]=Ao eI (o++[v]):=by
 rw[Aqk,Bm IR o (by omega)];exact Bj eI o v
theorem snI(o:List Int)(v:Int):o.length+1=(o++[v]).length:=by simp
section
variable {D:Orc} (Kt:Knows Al PA D)
include Kt
theorem Ajx(v:Int)(l:List Int)(hl:l.length<=1000000):∀(m i:Nat) (d:Bool) (o:List Int),l.length-i=m->i<=l.length->o.length<=2*i->
  D.ask (.lp 121 0) [.ls (l.map eI),iv v,.sl 0 0 o.length 1,bv d,iv (i:Int)] [bkI o]=Δ (.tup [iv 0,iv v,.sl 1 0 (o++(GZ v d (l.drop i)).1).length 1,bv (GZ v d (l.drop i)).2],[.del,.set (bkI (o++(GZ v d (l.drop i)).1))]):=by
 intro m
 induction m with
 |zero=>
  intro i d o hm hi ho;rw[Aqq (by omega),GZ,Aro];refine As Kt RZ (YH ..) ?_;rw[Ai];exact Aj rfl
 |succ m ih=>
  intro i d o hm hi ho;have h1:i<l.length:=by omega
  have hn1:∀ kk,Bh (l.map eI) i kk=kk (eI l[i]):=λkk=>At (θ h1) kk
  have ih1:=λ(d:Bool) (o:List Int) (h:o.length<=2*(i+1))=>ih (i+1) d o (by omega) (by omega) h
  rw[π h1,GZ];revert hn1;generalize l[i]=x;intro hn1;refine As Kt RZ (YH ..) ?_;rw[Ai];refine Ak ?_;unfold bkI at ih1 ⊢;simp only[Av,hn1,eI,ND,DK,Ab,BB (show i<4611686018427387904 by omega),AkV]
  cases d with
  |true=>
   refine D6 ?_
   by_cases hx:x=v
   .refine Bk ?_ hx
    have g:=ih1 U o (by omega);refine Aa g ?_;rw[if_pos hx];rfl
   .refine AC ?_ hx
    have g:=ih1 U (o++[x]) (by simp;omega);rw[apI o (by omega),snI o x];refine Aa g ?_;rw[if_neg hx,AqM];rfl
  |false=>
   refine Ac ?_
   by_cases hv:v<=x
   .refine Cx ?_ hv
    rw[apI o (by omega),decide_eq_true hv,snI o v]
    by_cases hx:x=v
    .refine Bk ?_ hx
     have g:=ih1 U (o++[v]) (by simp;omega);refine Aa g ?_;rw[if_pos hx,AqM];rfl
    .refine AC ?_ hx
     have g:=ih1 U (o++[v]++[x]) (by simp;omega);rw[apI (o++[v]) (by simp;omega),AkV,snI (o++[v]) x];refine Aa g ?_;rw[if_neg hx,AqM,AqM];rfl
   .refine C2 ?_ hv
    rw[decide_eq_false hv]
    by_cases hx:x=v
    .omega
    .refine AC ?_ hx
     have g:=ih1 Ξ (o++[x]) (by simp;omega);rw[apI o (by omega),snI o x];refine Aa g ?_;rw[if_neg hx,AqM];rfl
theorem O1(v:Int)(l:List Int)(hl:l.length<=1000000):D.ask (.fn 121) [.ls (l.map eI),iv v] []=Δ (.ls ((Fe v l).map eI),[]):=by
 have g:=Ajx Kt v l hl _ 0 Ξ [] rfl (by omega) (by simp);have hlen:=Sj v Ξ l;rw[Aqk,Aq0]at g;unfold Fe;generalize GZ v Ξ l=p at g hlen;obtain⟨o,d⟩:=p;simp only at g hlen ⊢;unfold bkI at g;refine Aw Kt RZ (AnD ..) ?_;refine Aa g ?_;simp only[ND,DK,Ab]
 cases d with
 |true=>
  refine D6 ?_;rw[AU IR o (by omega)];refine Ac ?_;rw[Cg IR o rfl,if_pos rfl,Aro]
 |false=>
  refine Ac ?_;rw[if_neg (by decide)];rw[AkV,snI o v,AU IR (o++[v]) (by omega)];rw[show Bc (o++[v]).length 8=U from AS (by simp;omega) (by omega),AU IR o (by omega),Aqk,Cg IR (o++[v]) rfl];rfl
end
section
variable {D:Orc} (Kt:Knows Al PA D) (Kh:Knows Al NZ D) (F:RF D)
include Kt Kh F
theorem AgU{n k:Nat}{ps:List Pt}{kz:Zi}(ht:TmB n k ⟨ps,kz⟩)(hn:n<=1000000)(hk:k+n<=400000000):∀(m i:Nat) (out:List Int),ps.length-i=m->i<=ps.length->Ob out->out.length<=i->
  D.ask (.lp 76 0) [.ptr 0 0,.ls (out.map eI),iv (i:Int)] [⟨[.ls (ps.map eP),bv kz.neg,eN kz.abs],U,Ξ⟩]=Δ (.tup [iv 0,.ls ((FQ (Fl (ps.map pv)) out ((ps.drop i).map Pt.v)).map eI)],[.del]):=by
 have hlen:ps.length<=n:=ht.len;intro m
 induction m with
 |zero=>
  intro i out hm hi ha ho;rw[Aqq (by omega),Are,FQ];refine As Kt ZB (Ahe ..) ?_;rw[Ai];exact Aj rfl
 |succ m ih=>
  intro i out hm hi ha ho;have h1:i<ps.length:=by omega
  have hn1:∀ kk,Bh (ps.map eP) i kk=kk (eP ps[i]):=λkk=>At (θ h1) kk
  rw[π h1,AqF,FQ];revert hn1;generalize ps[i]=p;intro hn1;have gc:=Ab8 Kh F ht hn hk p.v;have hc:InB (k+n) (Fl (ps.map pv) p.v):=by
   unfold Fl;split
   .exact(HK _ _ ht.lb.ps).mono (by have:=ht.lb.len;omega)
   .exact InB.zero _
  have e1:(if 0<=p.v then AQ p.v (Tm.mk ps kz).lf.ps else 0)=Fl (ps.map pv) p.v:=rfl;rw[e1]at gc;generalize Fl (ps.map pv) p.v=c at gc hc;have gs:=F.sign (A1 c) (hc.lz.mono (by omega));rw[Cb]at gs;refine As Kt ZB (Ahe ..) ?_;rw[Ai];refine Ak ?_;rw[Av,hn1];simp only[eP,eN,ND,DK,Ab];refine Aa gc ?_;simp only[eZ,eN,ND,DK,Ab]at gs ⊢;refine Aa gs ?_;simp only[ND,DK,Ab];rw[BB (by omega)]
  by_cases h0:c=0
  .have g:=ih (i+1) out (by omega) (by omega) ha (by omega)
   refine Bk ?_ ((QF c).2 h0);refine Aa g ?_;rw[if_pos h0];rfl
  .have g:=ih (i+1) (Fe p.v out) (by omega) (by omega) (D1 _ ha) (by have:=G0 p.v ha;omega)
   have gi:=O1 Kt p.v out (by omega);refine AC ?_ (λh=>h0 ((QF c).1 h));refine Aa gi ?_;simp only[ND,DK,Ab];refine Aa g ?_;rw[if_neg h0];rfl
theorem AaN{n k:Nat}{t:Tm}(ht:TmB n k t)(hn:n<=1000000)(hk:k+n<=400000000):D.ask (.fn 76) [.agg (eT t)] []=Δ (.ls ((Gz t.lf.ps).map eI),[]):=by
 obtain⟨ps,kz⟩:=t;have g:=AgU Kt Kh F ht hn hk _ 0 [] rfl (by omega) Cf (by simp);rw[Aqk]at g;have e1:(ps.map Pt.v)=(Tm.mk ps kz).lf.ps.map (·.1):=by
  unfold Tm.lf;rw[Ar2];rfl
 rw[e1]at g;refine Aw Kt ZB (e76 ..) ?_;refine Aa g ?_;rfl
omit Kt Kh F in
theorem X6(ps:List (Int × Int)):(Gz ps).length<=ps.length:=by
 have:=Lc (Fl ps) (ps.map (·.1)) Cf;simpa[Gz]using this
end
section
open Go.RowKit
variable (A:Ar) (D:Orc)
end
section
open Go.RowKit
variable (A:Ar) (D:Orc)
end
section
open Go.RowKit
variable (A:Ar) (D:Orc)
end
def MS(r:Tm × Bool):List AV:=eT r.1++[bv r.2]
theorem IS(ps:List Pt)(kz:Zi)(e:Bool):MS (⟨ps,kz⟩,e)=[.ls (ps.map eP),bv kz.neg,eN kz.abs,bv e]:=rfl
section
variable {D:Orc} (Kv:Knows Al VX D) (Kt:Knows Al LN D) (Z:ZF D)
include Kv Z
theorem XN{n k j:Nat}(ps:List Pt)(hl:ps.length<=n)(hn:n<=1000000)(hz:∀ p∈ps,Lz k p.z)(vals:List Zi)(hv:∀ z∈vals,Lz j z)(hv24:k<24\/∀ z∈vals,z.abs.length<24)(hvl:vals.length<=1000000)(hk:k+j+1+n<=400000000)(y0:Bool)(y1:List (List AV)):∀(m i:Nat) (acc:Int),ps.length-i=m->i<=ps.length->InB (k+j+1+i) acc->
  D.ask (.lp 86 0) [.ls (vals.map eZ),.ptr 0 0,.ptr 1 0,.ls (ps.map eP),iv (ps.length:Int),iv (i:Int)] [⟨[bv y0,.ls y1],U,Ξ⟩,⟨eZ (A1 acc),U,Ξ⟩]
   = Δ (.tup [iv 0,.ptr 0 0,.ptr 1 0],[.set ⟨[bv y0,.ls y1],U,Ξ⟩,.set ⟨eZ (A1 (acc+Cl (Cm (vals.map zv)) ((ps.drop i).map pv))),U,Ξ⟩]):=by
 intro m
 induction m with
 |zero=>
  intro i acc hm hi ha;rw[Aqq (by omega),Are,Cl,AsL];refine As Kv ZD (Ahg ..) ?_;exact Aj rfl
 |succ m ih=>
  intro i acc hm hi ha;have h1:i<ps.length:=by omega
  have hn1:∀ kk,Bh (ps.map eP) i kk=kk (eP ps[i]):=λkk=>At (θ h1) kk
  have hzp:=hz ps[i] (Aqz h1);rw[π h1,AqF,Cl];revert hn1 hzp;generalize ps[i]=p;intro hn1 hzp;have hp:∀ v:Int,(pv p).2*Cm (vals.map zv) (pv p).1=v->acc+(v+Cl (Cm (vals.map zv)) ((ps.drop (i+1)).map pv))=acc+v+Cl (Cm (vals.map zv)) ((ps.drop (i+1)).map pv):=λv _=>by omega
  rw[hp _ rfl];have skip:Cm (vals.map zv) (pv p).1=0->D.ask (.lp 86 0) [.ls (vals.map eZ),.ptr 0 0,.ptr 1 0,.ls (ps.map eP),iv (ps.length:Int),iv ((i+1:Nat):Int)] [⟨[bv y0,.ls y1],U,Ξ⟩,⟨eZ (A1 acc),U,Ξ⟩]
   = Δ (.tup [iv 0,.ptr 0 0,.ptr 1 0],[.set ⟨[bv y0,.ls y1],U,Ξ⟩,.set ⟨eZ (A1 (acc+(pv p).2*Cm (vals.map zv) (pv p).1+Cl (Cm (vals.map zv)) ((ps.drop (i+1)).map pv))),U,Ξ⟩]):=λh0=>by
   have g:=ih (i+1) acc (by omega) (by omega) (ha.mono (by omega));rw[h0,Ase,AsL];exact g
  refine As Kv ZD (Ahg ..) ?_;refine Ak ?_;rw[Av,hn1];simp only[eP,eN,ND,DK,Ab];rw[Ai,BB (by omega)]
  by_cases h0:0<=p.v
  .refine Cx ?_ h0
   by_cases h2:p.v<(vals.length:Int)
   .refine Ak ?_ h2
    obtain⟨v,hvv⟩:=Ar8 h0;have h3:v<vals.length:=by omega
    have hn2:∀ kk,Bh (vals.map eZ) v kk=kk (eZ vals[v]):=λkk=>At (θ h3) kk
    have hx:=hv vals[v] (Aqz h3);have hx24:p.z.abs.length<24\/vals[v].abs.length<24:=hv24.imp (λh=>by have:=hzp.len;omega) λh=>h _ (Aqz h3)
    have ev:Cm (vals.map zv) (pv p).1=zv vals[v]:=by
     show Cm _ p.v=_
     rw[hvv,Hs,Aq7,AqD,θ h3];rfl
    rw[ev];rw[hvv,Av,hn2];revert hn2 hx hx24;generalize vals[v]=x;intro _ hx hx24;have gm:=Z.mul p.z x (hzp.mono (by omega)) (hx.mono (by omega)) hx24;have hpr:InB (k+j) (zv p.z*zv x):=InB.mul hzp.inb hx.inb;have ga:=Z.add (A1 acc) (A1 (zv p.z*zv x)) (ha.lz.mono (by omega)) (hpr.lz.mono (by omega));rw[Cb,Cb]at ga;have g:=ih (i+1) (acc+zv p.z*zv x) (by omega) (by omega) (by
     show InB (k+j+1+i+1) _
     exact InB.add ha (hpr.mono (by omega)))
    obtain⟨xn,xa⟩:=x;simp only[eZ,eN,ND,DK,Ab]at gm ga g ⊢;refine Aa gm ?_;simp only[ND,DK,Ab];refine Aa ga ?_;simp only[ND,DK,Ab];refine Aa g ?_;rfl
   .refine Aj ?_ h2
    have g:=skip (N4 _ (by rw[Aqy];show _<=p.v;omega));simp only[eZ,eN]at g ⊢;refine Aa g ?_;rfl
  .refine C2 ?_ h0
   have g:=skip (Ht _ _ (by show p.v<0;omega));simp only[eZ,eN]at g ⊢;refine Aa g ?_;rfl
include Kt in
theorem XO{n k j:Nat}{t:Tm}(ht:TmB n k t)(hn:n<=1000000)(vals:List Zi)(hv:∀ z∈vals,Lz j z)(hv24:k<24\/∀ z∈vals,z.abs.length<24)(hvl:vals.length<=1000000)(hk:k+j+1+n<=400000000):D.ask (.fn 86) [.agg (eT t),.ls (vals.map eZ)] []=Δ (.agg (eZ (A1 (t.lf.val (Cm (vals.map zv))))),[]):=by
 obtain⟨ps,kz⟩:=t;have gc:=Eu Kt Z (ht.k.mono (show k<=1000000000 by omega));have hl:ps.length<=n:=ht.len;have g:=XN Kv Z ps hl hn ht.ps vals hv hv24 hvl hk Ξ [] _ 0 (zv kz) rfl (by omega) (ht.k.inb.mono (by omega));rw[Aqk]at g;have el:zv kz+Cl (Cm (vals.map zv)) (ps.map pv)=(Tm.mk ps kz).lf.val (Cm (vals.map zv)):=by
  unfold Lf.val Tm.lf;exact As9 _ _
 rw[el]at g;refine Aw Kv ZD (e86 ..) ?_;refine Aa gc ?_;simp only[eZ,eN,ND,DK,Ab,Ai]at g ⊢;refine Aa g ?_;rfl
include Kt in
theorem SI{n k j:Nat}{t:Tm}(ht:TmB n k t)(hn:n<=1000000)(e:Bool)(vals:List Zi)(hv:∀ z∈vals,Lz j z)(hv24:k<24\/∀ z∈vals,z.abs.length<24)(hvl:vals.length<=1000000)(hk:k+n+j+1+vals.length<=400000000):D.ask (.fn 30) [.agg (MS (t,e)),.ls (vals.map eZ)] []=Δ (bv (Aar (t.lf.val (Cm (vals.map zv))) e),[]):=by
 have g:=XO Kv Kt Z ht hn vals hv hv24 hvl (by omega);have hb:=WT ht.lb (vals:=vals.map zv) (λx hx=>by
  rw[Aq6]at hx;obtain⟨z,hz,rfl⟩:=hx;exact(hv z hz).inb)
 rw[Aqy]at hb;generalize t.lf.val (Cm (vals.map zv))=x at g hb;have gs:=Z.sign (A1 x) (hb.lz.mono (by omega));rw[Cb]at gs;obtain⟨ps,kz⟩:=t;refine Aw Kv AlZ (e30 ..) ?_;refine Aa g ?_;simp only[eZ,eN,ND,DK,Ab]at gs ⊢;refine Aa gs ?_;simp only[ND,DK,Ab];unfold Aar
 by_cases h0:x=0
 .refine Bk ?_ ((QF x).2 h0)
  rw[decide_eq_true h0];rfl
 .refine(Cn λh=>h0 ((QF x).1 h)).trans ?_
  rw[decide_eq_false h0]
  cases e with
  |true=>rfl
  |false=>
   refine Ac ?_
   by_cases h1:0<x
   .refine Ak ?_ ((VT x).2 h1)
    rw[decide_eq_true h1];rfl
   .refine(E8 λh=>h1 ((VT x).1 h)).trans ?_
    rw[decide_eq_false h1];rfl
end
section
variable {D:Orc} (Kw:Knows Al Px D)
include Kw
def W9(L:Int)(ps:List Pt):Bool:=ps.all λp=>decide ((p.z.abs.length:Int)<=L)
def EH(L:Int)(r:Tm × Bool):Bool:=decide (r.1.ps.length<=20)&&(decide ((r.1.k.abs.length:Int)<=L)&&W9 L r.1.ps)
theorem Aci(rs:List (Tm × Bool))(L:Int)(i:Nat)(h1:i<rs.length)(hl:rs[i].1.ps.length<=20):∀(m k:Nat),rs[i].1.ps.length-k=m->k<=rs[i].1.ps.length->
  D.ask (.lp 16 1) [.ls (rs.map MS),iv L,iv (i:Int),iv (k:Int)] []=Δ (if W9 L (rs[i].1.ps.drop k)=U then .tup [iv 2,.ls (rs.map MS),iv L,iv (i:Int)] else .tup [bv U,bv Ξ],[]):=by
 have hn1:∀ kk,Bh (rs.map MS) i kk=kk (MS rs[i]):=λkk=>At (θ h1) kk
 revert hn1 hl;generalize rs[i]=r;intro hl hn1;obtain⟨⟨ps,kz⟩,e⟩:=r;simp only at hl ⊢;intro m
 induction m with
 |zero=>
  intro k hm hk;rw[Aqq (by omega)];refine As Kw R3 (Ag9 ..) ?_;simp only[Av,hn1,IS,eN,ND,DK,Ab,Ai];exact Aj rfl
 |succ m ih=>
  intro k hm hk;have h2:k<ps.length:=by omega
  have ih:=ih (k+1) (by omega) (by omega);have hn2:∀ kk,Bh (ps.map eP) k kk=kk (eP ps[k]):=λkk=>At (θ h2) kk
  rw[π h2];revert hn2;generalize ps[k]=p;intro hn2;unfold W9 at ih ⊢;rw[ArP];refine As Kw R3 (Ag9 ..) ?_;simp only[Av,hn1,hn2,IS,eP,eN,ND,DK,Ab,Ai];refine Ak ?_
  by_cases hz:L<(p.z.abs.length:Int)
  .refine Ak ?_ hz
   rw[decide_eq_false (by omega:¬ (p.z.abs.length:Int)<=L)];rfl
  .refine Aj ?_ hz
   rw[decide_eq_true (by omega:(p.z.abs.length:Int)<=L),ArJ,BB (by omega)];refine Aa ih ?_
   cases (ps.drop (k+1)).all λp=>decide ((p.z.abs.length:Int)<=L)<;>rfl
theorem Ach(rs:List (Tm × Bool))(L:Int)(hrl:rs.length<=1000000):∀(m i:Nat),rs.length-i=m->i<=rs.length->
  D.ask (.lp 16 0) [.ls (rs.map MS),iv L,iv (i:Int)] []=Δ (if(rs.drop i).all (EH L)=U then .tup [iv 0] else .tup [bv U,bv Ξ],[]):=by
 intro m
 induction m with
 |zero=>
  intro i hm hi;rw[Aqq (by omega)];refine As Kw R3 (Ag8 ..) ?_;rw[Ai];exact Aj rfl
 |succ m ih=>
  intro i hm hi;have h1:i<rs.length:=by omega
  have ih:=ih (i+1) (by omega) (by omega);have hn1:∀ kk,Bh (rs.map MS) i kk=kk (MS rs[i]):=λkk=>At (θ h1) kk
  have g1:=Aci Kw rs L i h1;rw[π h1,ArP];revert hn1 g1;generalize rs[i]=r;obtain⟨⟨ps,kz⟩,e⟩:=r;intro hn1 g1;simp only at g1;unfold EH;simp only;refine As Kw R3 (Ag8 ..) ?_;rw[Ai];refine Ak ?_;simp only[Av,hn1,IS,eN,ND,DK,Ab,Ai]
  by_cases hp:ps.length<=20
  .refine Aj ?_
   rw[decide_eq_true hp,ArJ]
   by_cases hk:(kz.abs.length:Int)<=L
   .refine Aj ?_
    rw[decide_eq_true hk,ArJ];have g1:=g1 hp _ 0 rfl (AqR _);rw[Aqk]at g1;refine Aa g1 ?_
    cases hr:W9 L ps with
    |true=>
     rw[if_pos rfl,ArJ];simp only[ND,DK,Ab,Ant];rw[BB (by omega)];refine Aa ih ?_;unfold EH
     cases (rs.drop (i+1)).all λr=>decide (r.1.ps.length<=20)&&(decide ((r.1.k.abs.length:Int)<=L)&&W9 L r.1.ps)<;>rfl
    |false=>rfl
   .refine Ak ?_
    rw[decide_eq_false hk];rfl
  .refine Ak ?_
   rw[decide_eq_false hp];rfl
theorem Zl(rs:List (Tm × Bool))(n:Nat)(L:Int)(hn:n<=1000000):D.ask (.fn 16) [.ls (rs.map MS),iv (n:Int),iv L] []=Δ (bv (decide (rs.length<=n)&&rs.all (EH L)),[]):=by
 refine Aw Kw R3 (e16 ..) ?_;rw[Ai]
 by_cases h:n<rs.length
 .rw[decide_eq_false (by omega:¬ rs.length<=n)]
  exact PW (by omega)
 .have g:=Ach Kw rs L (by omega) _ 0 rfl (by omega)
  rw[Aqk]at g;rw[decide_eq_true (by omega:rs.length<=n),ArJ];refine Aj ?_;refine Aa g ?_
  cases rs.all (EH L)<;>rfl
end
structure LmT (t:Tm):Prop where
 ps:∀ p∈t.ps,Limbs p.z.abs
 k:Limbs t.k.abs
theorem LmT.tmb{t:Tm}{e:Bool}{L:Nat}(h:LmT t)(ho:EH (L:Int) (t,e)=U):TmB 20 L t:=by
 unfold EH W9 at ho;simp only[Bool.and_eq_true,decide_eq_true_eq,List.all_eq_true]at ho;exact⟨ho.1,λp hp=>⟨h.ps p hp,by have:=ho.2.2 p hp;omega⟩,⟨h.k,by have:=ho.2.1;omega⟩⟩
theorem Vd{M:Nat}{v c:Int}:∀{l:List (Int × Int)},(∀ q∈l,q.2.natAbs<=M)->∀ q∈Fu v c l,q.2.natAbs<=c.natAbs+M
 |[],h,q,hq=>by
  unfold Fu at hq;split at hq
  .cases hq
  .rw[Aq1]at hq
   subst hq;exact Asj _ _
 |p::r,h,q,hq=>by
  have h0:∀ q∈p::r,q.2.natAbs<=c.natAbs+M:=λq hq=>Nat.le_trans (h q hq) (Nat.le_add_left _ _)
  have hp:=h p (Aqs ..);unfold Fu at hq;split at hq
  .split at hq
   .exact h0 q hq
   .rcases ι.1 hq with rfl|hq
    .exact Asj _ _
    .exact h0 q hq
  split at hq
  .rcases ι.1 hq with rfl|hq
   .exact h0 q (Aqs ..)
   .exact Vd (λx hx=>h x (Aql _ hx)) q hq
  split at hq
  .exact h0 q (Aql _ hq)
  .rcases ι.1 hq with rfl|hq
   .show (p.2+c).natAbs<=_
    omega
   .exact h0 q (Aql _ hq)
theorem SG{M:Nat}:∀{l:List (Int × Int)},(∀ q∈l,q.2.natAbs<=M)->∀ q∈B3 l,q.2.natAbs<=l.length*M
 |[],_,q,hq=>by cases hq
 |p::r,h,q,hq=>by
  have ih:=SG (l:=r) λx hx=>h x (Aql _ hx)
  have hp:=h p (Aqs ..);rw[ε,Nat.succ_mul];unfold B3 at hq;split at hq
  .have:=Vd ih q hq
   omega
  .have:=ih q hq
   omega
theorem Agb{n a k:Nat}(hn:n<4294967296)(h:a<4294967296 ^ k):n*(4294967296 ^ k-1)<4294967296 ^ (k+1):=by
 rw[ArH];generalize 4294967296 ^ k=X at *;have h1:n*(X-1)<=n*X:=Nat.mul_le_mul_left n (Nat.sub_le _ _);have h2:n*X<4294967296*X:=Nat.mul_lt_mul_of_pos_right hn (by omega);rw[Nat.mul_comm X];omega
theorem VH{n k:Nat}{l:Lf}(h:LB n k l)(hn:n<4294967296):∀ p∈B3 l.ps,InB (k+1) p.2:=λp hp=>by
 have h1:∀ q∈l.ps,q.2.natAbs<=4294967296 ^ k-1:=λq hq=>by
  have:=h.ps q hq;unfold InB at this;omega
 have h2:=SG h1 p hp;have h3:=Agb (n:=l.ps.length) (a:=0) (k:=k) (by have:=h.len;omega) (Nat.pow_pos (by decide));unfold InB;omega
def GB(v:Int)(vs:List Int):Nat:=vs.findIdx λx=>decide (v=x)
def N6(v:Int):Lf:=Lf.pln ⟨[(v,1)],0⟩
def NO(vs:List Int)(bys:List Tm)(v:Int):Lf:=if GB v vs<vs.length then(match bys[GB v vs]? with
 |some t=>t.lf
 |none=>N6 v) else N6 v
theorem Ra(v:Int):LB 20 8 (N6 v):=by
 have:LB 1 1 (⟨[(v,1)],0⟩:Lf):=⟨ω _,λp hp=>by rw[Aq1]at hp;rw[hp];exact InB.one (ω _),InB.zero 1⟩;exact this.pln.mono (by omega) (by omega)
theorem AaR{vs:List Int}{bys:List Tm}(h:∀ t∈bys,TmB 20 8 t)(v:Int):LB 20 8 (NO vs bys v):=by
 unfold NO;split
 .split
  .rename_i t ht
   exact(h t (AqB ht)).lb
  .exact Ra v
 .exact Ra v
section
variable {D:Orc} (Kt:Knows Al LN D) (Kf:Knows Al S1 D) (Ks:Knows Al Hp D) (Z:ZF D) (C:PartF D) (Kp:Knows Al Abg D)
include Kp
theorem ZI(vs:List Int)(v:Int)(hl:vs.length<=1000000):∀(m i:Nat),vs.length-i=m->i<=vs.length->
  D.ask (.lp 193 0) [.ls (vs.map eI),iv v,iv (vs.length:Int),iv (i:Int)] []=Δ (if i+GB v (vs.drop i)<vs.length then .tup [bv U,iv ((i+GB v (vs.drop i):Nat):Int)] else .tup [iv 0],[]):=by
 intro m
 induction m with
 |zero=>
  intro i hm hi;rw[Aqq (by omega),if_neg (by omega)];refine As Kp R6 (YS ..) ?_;exact Aj rfl
 |succ m ih=>
  intro i hm hi;have h1:i<vs.length:=by omega
  have ih:=ih (i+1) (by omega) (by omega);have hn1:∀ kk,Bh (vs.map eI) i kk=kk (eI vs[i]):=λkk=>At (θ h1) kk
  have ed:GB v (vs.drop i)=bif decide (v=vs[i]) then 0 else GB v (vs.drop (i+1))+1:=by
   unfold GB;rw[π h1,List.findIdx_cons]
  rw[ed];refine As Kp R6 (YS ..) ?_;refine Ak ?_;rw[Av,hn1];simp only[eI,ND,DK,Ab]
  by_cases h:v=vs[i]
  .rw[decide_eq_true h,cond_true,Arf,if_pos h1]
   exact Dq h
  .rw[decide_eq_false h,cond_false,show i+(GB v (vs.drop (i+1))+1)=i+1+GB v (vs.drop (i+1)) by omega]
   refine AC ?_ h;rw[BB (by omega)];refine Aa ih ?_;split<;>rfl
theorem ZJ(vs:List Int)(v:Int)(hl:vs.length<=1000000):D.ask (.fn 193) [.ls (vs.map eI),iv v] []=Δ (iv (if GB v vs<vs.length then(GB v vs:Int) else -1),[]):=by
 have g:=ZI Kp vs v hl _ 0 rfl (by omega);rw[Aqk,Aqw]at g;refine Aw Kp R6 (An9 ..) ?_;rw[Ai];refine Aa g ?_;split<;>rfl
include Kt Ks Z C
theorem Ak7(v:Int):D.ask (.fn 194) [iv v] []=Δ (.agg (eT (N6 v).tm),[]):=by
 have g1:=Z.of_ 1 (by omega) (by omega);have hb:TmB 1 1 ⟨[⟨v,A1 1⟩],⟨Ξ,[]⟩⟩:=⟨ω _,λp hp=>by rw[Aq1]at hp;rw[hp];exact(InB.one (ω 1)).lz,⟨Cr,AqR _⟩⟩;have g2:=Hf Kt Ks Z C hb (by omega) (by omega);have e:(Tm.lf ⟨[⟨v,A1 1⟩],⟨Ξ,[]⟩⟩).pln=N6 v:=by
  unfold Tm.lf N6;rw[AqF,Are]
  show Lf.pln ⟨[(v,zv (A1 1))],_⟩=_
  rw[Cb];rfl
 rw[e]at g2;refine Aw Kp AhQ (Aoa ..) ?_;refine Aa g1 ?_;simp only[eZ,eN,ND,DK,Ab];refine Aa g2 ?_;rfl
include Kf
theorem Xc(vs:List Int)(bys:List Tm)(hvs:vs.length<=1000)(hbl:bys.length<=1000)(hb:∀ t∈bys,TmB 20 8 t)(xs:List (List AV))(x1:Bool)(x2:List (List AV))(ps:List (Int × Int))(hl:ps.length<=20)(hp:∀ p∈ps,InB 10 p.2) :
  ∀(m i:Nat) (acc:Lf),ps.length-i=m->i<=ps.length->LB (20*i) (100+1000*i) acc->
  D.ask (.lp 132 0) [.ls (vs.map eI),.ls (bys.map eT),.ptr 0 0,.ptr 1 0,.ls ((ps.map BR).map eP),iv (ps.length:Int),iv (i:Int)] [⟨[.ls xs,bv x1,.ls x2],U,Ξ⟩,⟨eT acc.tm,U,Ξ⟩]
   = Δ (.tup [iv 0,.ptr 0 0,.ptr 1 0],[.set ⟨[.ls xs,bv x1,.ls x2],U,Ξ⟩,.set ⟨eT (SH (NO vs bys) acc (ps.drop i)).tm,U,Ξ⟩]):=by
 intro m
 induction m with
 |zero=>
  intro i acc hm hi ha;rw[Aqq (by omega)];refine As Kp R1 (YJ ..) ?_;exact Aj rfl
 |succ m ih=>
  intro i acc hm hi ha;have h1:i<ps.length:=by omega
  have hn1:∀ kk,Bh ((ps.map BR).map eP) i kk=kk (eP (BR ps[i])):=λkk=>At (by rw[AqD,θ h1];rfl) kk
  have hq:=hp ps[i] (Aqz h1);rw[π h1];generalize ps[i]=p at *;obtain⟨v,c⟩:=p;have eG:SH (NO vs bys) acc ((v,c)::ps.drop (i+1))=SH (NO vs bys) (acc.add ((NO vs bys v).scale c)) (ps.drop (i+1)):=rfl;rw[eG];have hs:=AaR (vs:=vs) hb v;have hsc:LB 20 38 ((NO vs bys v).scale c):=hs.scale hq;have had:=ha.add hsc;have ih:=ih (i+1) (acc.add ((NO vs bys v).scale c)) (by omega) (by omega) (had.mono (by omega) (by omega));have gi:=ZJ Kp vs v (by omega);have hlz:Lz 10 (A1 c):=hq.lz;have gad:=AiM Kt Kf Ks Z C (ha.tb.mono (ω _) (show 100+1000*i<=100+1000*i+100 by omega)) (hsc.tb.mono (ω _) (show 38<=100+1000*i+100 by omega)) (by omega) (by omega);rw[LO,LO]at gad;have gsc:∀ t:Tm,TmB 20 8 t->D.ask (.fn 148) [.agg (eT t),.agg (eZ (A1 c))] []=Δ (.agg (eT (t.lf.scale c).tm),[]):=λt ht=>by
   have:=AaT Kt Kf Ks Z C ht hlz (by have:=hlz.len;omega) (by omega) (by omega) (by omega)
   rwa [Cb]at this
  have gv:=Ak7 Kt Ks Z C Kp v;have gscv:=gsc (N6 v).tm (Ra v).tb;rw[LO]at gscv;refine As Kp R1 (YJ ..) ?_;refine Ak ?_;rw[Av,hn1];simp only[eP,eT,eN,eZ,BR,ND,DK,Ab]at gad gscv gv gi ih ⊢;refine Aa gi ?_;simp only[ND,DK,Ab]
  by_cases hx:GB v vs<vs.length
  .rw[if_pos hx]
   refine Aj ?_;rw[Ai]
   cases hg:bys[GB v vs]? with
   |none=>
    have es:NO vs bys v=N6 v:=by unfold NO;rw[if_pos hx,hg]
    rw[es]at gad ih ⊢;have:=List.getElem?_eq_none_iff.1 hg;have gsc:=gscv;refine Cx ?_;refine Aa gv ?_;simp only[ND,DK,Ab];refine Aa gsc ?_;simp only[ND,DK,Ab];refine Aa gad ?_;simp only[ND,DK,Ab];rw[BB (by omega)];refine Aa ih ?_;rfl
   |some t=>
    have es:NO vs bys v=t.lf:=by unfold NO;rw[if_pos hx,hg]
    rw[es]at gad ih ⊢;obtain⟨hlt,_⟩:=Aqo.1 hg;have ht:=hb t (AqB hg);have gsc:=gsc t ht;refine C2 ?_;rw[Av,At hg];simp only[eT,eN,ND,DK,Ab]at gsc ⊢;refine Aa gsc ?_;simp only[ND,DK,Ab];refine Aa gad ?_;simp only[ND,DK,Ab];rw[BB (by omega)];refine Aa ih ?_;rfl
  .have es:NO vs bys v=N6 v:=by unfold NO;rw[if_neg hx]
   rw[es]at gad ih ⊢;have gsc:=gscv;rw[if_neg hx];refine Ak ?_;refine Aa gv ?_;simp only[ND,DK,Ab];refine Aa gsc ?_;simp only[ND,DK,Ab];refine Aa gad ?_;simp only[ND,DK,Ab];rw[BB (by omega)];refine Aa ih ?_;rfl
theorem Xd(vs:List Int)(bys:List Tm)(hvs:vs.length<=1000)(hbl:bys.length<=1000)(hb:∀ t∈bys,TmB 20 8 t){t:Tm}(ht:TmB 20 9 t):D.ask (.fn 132) [.agg (eT t),.ls (vs.map eI),.ls (bys.map eT)] []=Δ (.agg (eT (Qu (NO vs bys) t.lf).tm),[]):=by
 have g1:=W8 Kt Kf Z (z:=t.k) (ht.k.mono (by omega));have g2:=Hf Kt Ks Z C ht (by omega) (by omega);have hl:(B3 t.lf.ps).length<=20:=ht.lb.pln.len;have g3:=Xc Kt Kf Ks Z C Kp vs bys hvs hbl hb [] Ξ [] (B3 t.lf.ps) hl (VH ht.lb (by omega)) _ 0 (Lf.num (zv t.k)) rfl (by omega) ⟨AqR _,(λp hp=>nomatch hp),ht.k.inb.mono (by omega)⟩;rw[Aqk]at g3;obtain⟨ps,kz⟩:=t;have e1:(Tm.lf ⟨ps,kz⟩).pln.tm.ps=(B3 (Tm.lf ⟨ps,kz⟩).ps).map BR:=rfl;have e2:Qu (NO vs bys) (Tm.lf ⟨ps,kz⟩)=SH (NO vs bys) (Lf.num (zv kz)) (B3 (Tm.lf ⟨ps,kz⟩).ps):=rfl;rw[e2];refine Aw Kp R1 (AnK ..) ?_;simp only[eT,eN,eZ,e1]at g1 g2 g3 ⊢;refine Aa g1 ?_;simp only[ND,DK,Ab];refine Aa g2 ?_;simp only[ND,DK,Ab];rw[Ai,Aqy];refine Aa g3 ?_;rfl
theorem Qx(vs:List Int)(bys:List Tm)(hvs:vs.length<=1000)(hbl:bys.length<=1000)(hb:∀ t∈bys,TmB 20 8 t){t:Tm}(ht:TmB 20 9 t)(e:Bool):D.ask (.fn 59) [.agg (MS (t,e)),.ls (vs.map eI),.ls (bys.map eT)] []=Δ (.agg (MS ((Qu (NO vs bys) t.lf).tm,e)),[]):=by
 have g:=Xd Kt Kf Ks Z C Kp vs bys hvs hbl hb ht;obtain⟨ps,kz⟩:=t;refine Aw Kp Al4 (e59 ..) ?_;refine Aa g ?_;rfl
end
section
variable {D:Orc} (Kc:Knows Al Abe D)
include Kc
theorem TB(ks:List Fm)(hl:ks.length<=1000000)(g:∀ x∈ks,D.ask (.fn 107) [.agg (eF x)] []=Δ (.agg (eF (AB x)),[])):∀(m i:Nat) (out:List Fm),ks.length-i=m->i<=ks.length->out.length<=i->
  D.ask (.lp 165 0) [.sl 0 0 out.length 6,.ls (ks.map eF),iv (ks.length:Int),iv (i:Int)] [Ω (Ao eF out) U U]=Δ (.tup [iv 0,.sl 1 0 (out++(ks.drop i).map AB).length 6],[.del,.set (Ω (Ao eF (out++(ks.drop i).map AB)) U U)]):=by
 intro m
 induction m with
 |zero=>
  intro i out hm hi ho;rw[Aqq (by omega),Are,Aro];refine As Kc M8 (U5 ..) ?_;exact Aj rfl
 |succ m ih=>
  intro i out hm hi ho;have h1:i<ks.length:=by omega
  have gx:=g ks[i] (Aqz h1);rw[π h1,AqF];have ih:=ih (i+1) (out++[AB ks[i]]) (by omega) (by omega) (by simp;omega);rw[AqM,Ash,show (out++[AB ks[i]]).length=out.length+1 by simp]at ih;have hf:Bc (out.length+1) 96=U:=AS (by omega) (by omega);have hb1:Aqv (0+out.length*6) (Ao eF out).length=U:=AU D7 out (by omega);have e3:Aqp 0 (Aqj (0+out.length*6) (Ao eF out))++eF (AB ks[i])=Ao eF (out++[AB ks[i]]):=by
   rw[Aqk,Bm D7 out (by omega)];exact Bj eF out _
  refine As Kc M8 (U5 ..) ?_;refine Ak ?_;rw[Av,At (θ h1)];revert gx ih e3;generalize AB ks[i]=y;generalize ks[i]=x;obtain⟨xk,xt,xe,xs⟩:=x;obtain⟨yk,yt,ye,ys⟩:=y;intro gx ih e3;simp only[eF,eN,ND,DK,Ab]at gx e3 ⊢;refine Aa gx ?_;simp only[ND,DK,Ab];rw[hf];refine Ac ?_;rw[hb1];refine Ac ?_;rw[e3,BB (by omega)];refine Aa ih ?_;rfl
theorem TC{ks:List Fm}(hl:ks.length<=1000000)(g:∀ x∈ks,D.ask (.fn 107) [.agg (eF x)] []=Δ (.agg (eF (AB x)),[])):D.ask (.fn 165) [.ls (ks.map eF)] []=Δ (.sl 0 0 (ks.map AB).length 6,[.set (Ω (Ao eF (ks.map AB)) U U)]):=by
 have gl:=TB Kc ks hl g _ 0 [] rfl (by omega) (by simp);rw[Aqk,Aq0]at gl;refine Aw Kc M8 (AlI ..) ?_;rw[Ai];refine Aa gl ?_;rfl
end
def AjC(kd:Int)(n:Nat):List AV:=[iv kd,.v (.slice Θ 0 0),bv Ξ,.v (.slice Θ 0 0),bv Ξ,.sl 0 0 n 6]
section
variable {D:Orc} (Kk:Knows Al Abf D)
include Kk
theorem Wn{kd:Int}{t:Tm}{e:Bool}{ks:List Fm}(h:kd=3\/kd=4\/kd=5)(hk:D.ask (.fn 166) [.agg (eF (.mk kd t e ks))] []=Δ (.ls ((Bq (.mk kd t e ks)).map eF),[]))(L:List Fm)
  (hc:D.ask (.fn 165) [.ls ((Bq (.mk kd t e ks)).map eF)] []=Δ (.sl 0 0 L.length 6,[.set (Ω (Ao eF L) U U)])) :
  D.ask (.fn 107) [.agg (eF (.mk kd t e ks))] []=Δ (.agg (AjC kd L.length),[.set (Ω (Ao eF L) U U)]):=by
 rw[eF];refine Aw Kk T9 (Ag7 ..) ?_;rcases h with rfl|rfl|rfl
 .refine(Cn (by decide)).trans ((Cn (by decide)).trans ((Dq rfl).trans ?_))
  rw[eF]at hk;refine Aa hk ?_;simp only[ND,DK,Ab];refine Aa hc ?_;rfl
 .refine(Cn (by decide)).trans ((Cn (by decide)).trans ((Cn (by decide)).trans ((Dq rfl).trans ?_)))
  rw[eF]at hk;refine Aa hk ?_;simp only[ND,DK,Ab];refine Aa hc ?_;rfl
 .refine(Cn (by decide)).trans ((Cn (by decide)).trans ((Cn (by decide)).trans ((Cn (by decide)).trans ((Dq rfl).trans ?_))))
  rw[eF]at hk;refine Aa hk ?_;simp only[ND,DK,Ab];refine Aa hc ?_;rfl
theorem Wm{kd:Int}{t:Tm}{e:Bool}{ks:List Fm}(h3:kd≠3)(h4:kd≠4)(h5:kd≠5)(gt:∀ b,D.ask (.fn 95) [bv b] []=Δ (.agg (eF (K6 b)),[]))
  (ga:kd=2->D.ask (.fn 98) [.agg (MS (t,e))] []=Δ (.agg (eF (Eo t.lf.pln e)),[])) :
  D.ask (.fn 107) [.agg (eF (.mk kd t e ks))] []=Δ (.agg (eF (AB (.mk kd t e ks))),[]):=by
 rw[eF,AB];refine Aw Kk T9 (Ag7 ..) ?_
 by_cases h0:kd=0
 .rw[if_pos h0]
  exact(Dq h0).trans ((Dm (gt U) _).trans rfl)
 rw[if_neg h0];refine AC ?_ h0
 by_cases h2:kd=2
 .rw[if_pos h2]
  exact(Dq h2).trans ((Dm (ga h2) _).trans rfl)
 rw[if_neg h2,if_neg h3,if_neg (by omega)];exact(Cn h2).trans ((Cn h3).trans ((Cn h4).trans ((Cn h5).trans ((Dm (gt Ξ) _).trans rfl))))
end
theorem UU(k:KR):S9 (.slice Θ 0 0) (.v (.slice Θ 0 0)) k=k:=rfl
section
variable {D:Orc} (Ke:Knows Al VY D) (V W:List (List AV))
include Ke
def Gu:AV:=.fn (.func 113) [] [.ptr 0 0,.ptr 1 0]
theorem Agd{t u:Tm}{e:Bool}(g:D.ask (.fn 59) [.agg (MS (t,e)),.ls V,.ls W] []=Δ (.agg (MS (u,e)),[])):D.ask (.fn 113) [.agg (MS (t,e)),.ptr 0 0,.ptr 1 0] [bk [.ls V],bk [.ls W]]=Δ (.agg (MS (u,e)),[.keep,.keep]):=by
 obtain⟨ps,kz⟩:=t;obtain⟨qs,jz⟩:=u;refine Aw Ke Zx (AlF ..) ?_;refine Aa g ?_;rfl
def Uq:ABlk:=bk [iv 0,.v (.slice Θ 0 0),bv Ξ,.v (.slice Θ 0 0),bv Ξ,.v (.slice Θ 0 0)]
theorem Aca(kd:Int)(F:Fm->Fm)(L:List Fm)(hl:L.length<=1000000)(g:∀ x∈L,D.ask (.fn 112) [.agg (eF x),Gu] [bk [.ls V],bk [.ls W]]=Δ (.agg (eF (F x)),[.keep,.keep])):∀(m i:Nat) (R:List Fm),L.length-i=m->i<=L.length->R.length=i->
  D.ask (.lp 112 0) [Gu,.ptr 2 0,.ptr 3 0,.sl 4 0 L.length 6,iv (L.length:Int),iv (i:Int)] [bk [.ls V],bk [.ls W],Uq,bk [iv kd,.v (.slice Θ 0 0),bv Ξ,.v (.slice Θ 0 0),bv Ξ,.sl 4 0 L.length 6],Ω (Ao eF (R++L.drop i)) U U]
   = Δ (.tup [iv 0,.ptr 2 0,.ptr 3 0],[.keep,.keep,.set Uq,.set (bk [iv kd,.v (.slice Θ 0 0),bv Ξ,.v (.slice Θ 0 0),bv Ξ,.sl 5 0 L.length 6]),.del,.set (Ω (Ao eF (R++(L.drop i).map F)) U U)]):=by
 intro m
 induction m with
 |zero=>
  intro i R hm hi hR;rw[Aqq (by omega),Are];refine As Ke Jv (Ry ..) ?_;exact Aj rfl
 |succ m ih=>
  intro i R hm hi hR;have h1:i<L.length:=by omega
  have gx:=g L[i] (Aqz h1);have ed:L.drop i=L[i]::L.drop (i+1):=π h1;have ih:=ih (i+1) (R++[F L[i]]) (by omega) (by omega) (by simp;omega);rw[AqM,Ash,AqM,Ash]at ih;have hlt:i<(R++L.drop i).length:=by rw[ed];simp;omega
  have hget:(R++L.drop i)[i]=L[i]:=by
   rw[AsK (by omega)];simp[hR]
  have hset:(R++L.drop i).set i (F L[i])=R++F L[i]::L.drop (i+1):=by
   rw[List.set_append_right _ _ (by omega),ed,hR,Nat.sub_self];rfl
  have rd:=λk=>Bo D7 (R++L.drop i) i hlt k
  have sp:=Ck D7 (R++L.drop i) i hlt (F L[i]);rw[hget]at rd;rw[hset]at sp;have hble:Aqv (0+i*6+6) (Ao eF (R++L.drop i)).length=U:=by rw[Bn D7];simp;omega
  refine As Ke Jv (Ry ..) ?_;refine Ak ?_;rw[Av,AO h1];refine Ac ?_;refine(rd _).trans ?_;have e2:(L.drop i).map F=F L[i]::(L.drop (i+1)).map F:=by rw[ed];rfl
  rw[e2];generalize F L[i]=y at *;generalize L[i]=x at *;obtain⟨xk,xt,xe,xs⟩:=x;obtain⟨yk,yt,ye,ys⟩:=y;simp only[eF,eN,ND,DK,Ab]at gx sp ⊢;refine Aa gx ?_;simp only[ND,DK,Ab];rw[Av,AO h1];refine Ac ?_;rw[hble];refine Ac ?_;rw[sp,BB (by omega)];refine Aa ih ?_;rfl
theorem Wv{kd:Int}{t:Tm}{e:Bool}{ks:List Fm}(h2:kd≠2)(F:Fm->Fm)(L:List Fm)(hl:L.length<=1000000)(hc:D.ask (.fn 107) [.agg (eF (.mk kd t e ks))] []=Δ (.agg (AjC kd L.length),[.set (Ω (Ao eF L) U U)]))
  (g:∀ x∈L,D.ask (.fn 112) [.agg (eF x),Gu] [bk [.ls V],bk [.ls W]]=Δ (.agg (eF (F x)),[.keep,.keep])) :
  D.ask (.fn 112) [.agg (eF (.mk kd t e ks)),Gu] [bk [.ls V],bk [.ls W]]=Δ (.agg (eF (kF kd (L.map F))),[.keep,.keep]):=by
 have gl:=Aca Ke V W kd F L hl g _ 0 [] rfl (by omega) rfl;rw[Aqk,Aq0,Aq0]at gl;have hbl:Aqv (0+L.length*6) (Ao eF (L.map F)).length=U:=AU D7 (L.map F) (by simp);have hch:Bl L.length 6 ((Ao eF (L.map F)).take (L.length*6))=(L.map F).map eF:=Cg D7 (L.map F) (by simp);rw[eF]at hc ⊢;refine Aw Ke Jv (Ai9 ..) ?_;refine Aa hc ?_;simp only[ND,DK,Ab];refine AC ?_ h2;refine Aa gl ?_;simp only[Uq,bk,UU,ND,DK,Ab];rw[hbl];refine Ac ?_;rw[hch];unfold kF;rw[eF,CJ];rfl
theorem Za{x:Fm}{b:Bool}(hc:D.ask (.fn 107) [.agg (eF x)] []=Δ (.agg (eF (K6 b)),[])):D.ask (.fn 112) [.agg (eF x),Gu] [bk [.ls V],bk [.ls W]]=Δ (.agg (eF (K6 b)),[.keep,.keep]):=by
 have gl:∀(k0:Int) (k1:List (List AV)) (k2:Bool) (k3:List (List AV)) (k4:Bool),D.ask (.lp 112 0) [Gu,.ptr 2 0,.ptr 3 0,.ls [],iv 0,iv 0] [bk [.ls V],bk [.ls W],Uq,bk [iv k0,.ls k1,bv k2,.ls k3,bv k4,.ls []]]=Δ (.tup [iv 0,.ptr 2 0,.ptr 3 0],[.keep,.keep,.set Uq,.set (bk [iv k0,.ls k1,bv k2,.ls k3,bv k4,.ls []])]):=λk0 k1 k2 k3 k4=>
  Ke.lp' F9 _ rfl (by kernel_rfl) ((Rz ..).trans ((E8 (by decide)).trans rfl))
 obtain⟨xk,xt,xe,xs⟩:=x
 cases b with
 |true=>
  unfold K6 kF Tm0 at hc ⊢;simp only[eF,eFs,eN,Are,if_true]at hc ⊢;refine Aw Ke F9 (TG ..) ?_;refine Aa hc ?_;simp only[ND,DK,Ab];exact(Cn (by decide)).trans ((Dm (gl ..) _).trans rfl)
 |false=>
  unfold K6 kF Tm0 at hc ⊢;simp only[eF,eFs,eN,Are]at hc ⊢;refine Aw Ke F9 (TG ..) ?_;refine Aa hc ?_;simp only[ND,DK,Ab];exact(Cn (by decide)).trans ((Dm (gl ..) _).trans rfl)
theorem Wu{x:Fm}{l m:Lf}{e:Bool}(hc:D.ask (.fn 107) [.agg (eF x)] []=Δ (.agg (eF (Eo l e)),[]))
  (g:D.ask (.fn 59) [.agg (MS (l.tm,e)),.ls V,.ls W] []=Δ (.agg (MS (m.tm,e)),[])):D.ask (.fn 112) [.agg (eF x),Gu] [bk [.ls V],bk [.ls W]]=Δ (.agg (eF (Eo m e)),[.keep,.keep]):=by
 have g1:=Agd Ke V W g;have gl:∀(k0:Int) (k1:List (List AV)) (k2:Bool) (k3:List (List AV)) (k4:Bool),D.ask (.lp 112 0) [Gu,.ptr 2 0,.ptr 3 0,.ls [],iv 0,iv 0] [bk [.ls V],bk [.ls W],Uq,bk [iv k0,.ls k1,bv k2,.ls k3,bv k4,.ls []]]=Δ (.tup [iv 0,.ptr 2 0,.ptr 3 0],[.keep,.keep,.set Uq,.set (bk [iv k0,.ls k1,bv k2,.ls k3,bv k4,.ls []])]):=λk0 k1 k2 k3 k4=>
  Ke.lp' F9 _ rfl (by kernel_rfl) ((Rz ..).trans ((E8 (by decide)).trans rfl))
 obtain⟨xk,xt,xe,xs⟩:=x;unfold Eo at hc ⊢;simp only[eF,eFs,eN]at hc ⊢;simp only[MS,eT,eN,List.cons_append,Aq0]at g1;refine Aw Ke F9 (TG ..) ?_;refine Aa hc ?_;simp only[ND,DK,Ab];refine Bk ?_ rfl;refine Aa g1 ?_;simp only[ND,DK,Ab];refine Aa (gl ..) ?_;rfl
theorem Uz{x y:Fm}(g:D.ask (.fn 112) [.agg (eF x),Gu] [bk [.ls V],bk [.ls W]]=Δ (.agg (eF y),[.keep,.keep])):D.ask (.fn 43) [.agg (eF x),.ls V,.ls W] []=Δ (.agg (eF y),[]):=by
 obtain⟨xk,xt,xe,xs⟩:=x;obtain⟨yk,yt,ye,ys⟩:=y;rw[eF]at g;rw[eF]at g ⊢;rw[eF];refine Aw Ke AhU (Aor ..) ?_;refine Aa g ?_;rfl
