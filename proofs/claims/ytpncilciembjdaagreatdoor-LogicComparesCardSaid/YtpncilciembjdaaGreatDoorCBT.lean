/- A tight relation holds w -/
import Derived.Test.YtpncilciembjdaaGreatDoorCBR
set_option linter.all false
open Bool renaming false->Φ,true->Δ,decide_or->Axn,false_or->AvH,or_false->AwQ,true_and->Avy
open Int renaming add_mul->Av3,lt_or_le->Axu,lt_trichotomy->AvX,mul_assoc->Awm,mul_le_mul_of_nonneg_right->Awc
open List renaming all_append->Avq,all_cons->Ava,all_map->Axw,any_append->AvK,any_cons->Avb,any_map->AwV,any_nil->Axx,append_assoc->AtK,append_nil->Auu,drop->AtD,drop_eq_getElem_cons->ε,drop_eq_nil_of_le->AtM,drop_zero->Aty,getElem?_eq_getElem->ξ,getElem_mem->At1,length_append->κ,length_cons->γ,length_map->AtP,length_nil->AuE,length_singleton->AtT,map_cons->At5,map_nil->AuY,mem_append->Aul,mem_cons->AtC,mem_cons_of_mem->AtF,mem_cons_self->AtL,mem_map->Auw,mem_singleton->Aum,nil_append->AtZ,singleton_append->Au3,take->ο
open Nat renaming ble->AtG,le_refl->η,lt_succ_self->AuT,zero_le->At7
open Option renaming some->Θ
namespace Go.Proofs.YtpncilciembjdaaGreatDoor
open ABlk renaming mk->δ
open Go.RowKit
theorem AnE(x:Int){y:Int}(hy:0<y):0<=rZ x y/\rZ x y<y:=by
 have hv:vN x y<y.natAbs:=Nat.mod_lt _ (by omega);have hu:=Nat.div_add_mod x.natAbs y.natAbs;unfold rZ dS;rw[decide_eq_false (show ¬ y<0 by omega)];unfold Df;generalize hn:vN x y=n at *
 by_cases hx:x<0
 .rw[decide_eq_true hx]
  simp only[bne_iff_ne,ne_eq,Bool.true_eq_false,not_false_eq_true,true_and,if_true];split<;>omega
 .rw[decide_eq_false hx]
  simp;omega
theorem UC(f:Int->Int){g:Int}(g0:g≠0):∀ l:List (Int × Int),(∀ p∈l,g ∣ p.2)->Cz f (l.map λp=>(p.1,qZ p.2 g))*g=Cz f l
 |[],_=>by simp[Cz]
 |p::r,h=>by
  have ih:=UC f g0 r λq hq=>h q (AtF _ hq)
  have hp:=(AcF (h p (AtL ..)) g0).2;rw[At5,Cz,Cz,Av3,ih]
  congr 1
  show qZ p.2 g*f p.1*g=p.2*f p.1
  rw[Awm,Int.mul_comm (f p.1),←Awm,hp]
theorem AaB(p:Tm):∀ q∈Ba p.lf.ps,(CQ p:Int) ∣ q.2:=λq hq=>Int.natAbs_dvd_natAbs.1 (by rw[Int.natAbs_natCast];exact(Ky (Ba p.lf.ps) 0).2 q hq)
theorem AiV{p:Tm}(h:CQ p≠0):(FD p).lf=⟨(Ba p.lf.ps).map λq=>(q.1,qZ q.2 (CQ p)),qZ (zv p.k) (CQ p)⟩:=by
 unfold FD;rw[if_neg h];unfold Tm.lf;rw[Bm,List.map_map]
 congr 1
 refine List.map_congr_left λq _=>?_
 show ((q.1,zv (AD (qZ q.2 (CQ p)))):Int × Int)=_
 rw[Bm]
theorem AiW{f:Int->Int}(hf:∀ v,v<0->f v=0){p:Tm}(h:CQ p≠0):p.lf.val f=(FD p).lf.val f*(CQ p:Int)+rZ (zv p.k) (CQ p):=by
 have h1:=UC f (g:=(CQ p:Int)) (by omega) _ (AaB p);have h2:=Ti (zv p.k) (CQ p:Int);rw[AiV h];unfold Lf.val;rw[Av3,h1,Pj hf]
 show _+zv p.k=_+qZ (zv p.k) (CQ p:Int)*(CQ p:Int)+_
 omega
theorem VX{a g:Int}(hg:0<g)(h:1<=a):g<=a*g:=by
 have:=Awc h (show 0<=g by omega)
 rwa [Int.one_mul]at this
theorem OO{a g:Int}(hg:0<g)(h:a ≤ -1):a*g ≤ -g:=by
 have:=Awc h (show 0<=g by omega);omega
theorem Abs{a g r:Int}(hg:0<g)(h0:0<=r)(h1:r<g):0<=a*g+r ↔ 0<=a:=by
 constructor
 .intro h
  rcases Axu a 0 with h2|h2
  .have:=OO hg (show a ≤ -1 by omega)
   omega
  .exact h2
 .intro h
  have:=Int.mul_nonneg h (show 0<=g by omega);omega
theorem S9{a g r:Int}(hg:0<g)(h0:0<=r)(h1:r<g):a*g+r=0 ↔ a=0/\r=0:=by
 constructor
 .intro h
  rcases AvX a 0 with h2|h2|h2
  .have:=OO hg (show a ≤ -1 by omega)
   omega
  .subst h2
   omega
  .have:=VX hg (show 1<=a by omega)
   omega
 .rintro⟨rfl,rfl⟩
  omega
theorem Ir(v:Int):Fz v Φ=decide (0<=v):=by
 unfold Fz;rw[Bool.not_false,Avy,←Axn,decide_eq_decide];omega
theorem LR(v:Int):Fz v Δ=decide (v=0):=by
 unfold Fz;rw[Bool.not_true,Bool.false_and,AwQ]
theorem Wu{f:Int->Int}(hf:∀ v,v<0->f v=0){l:Lf}(hl:l.pln=l)(eq:Bool) :
  ((Hp l.tm eq).2=1/\Fz (l.val f) eq=Δ)\/((Hp l.tm eq).2=-1/\Fz (l.val f) eq=Φ)\/((Hp l.tm eq).2=0/\(Hp l.tm eq).1.2=eq/\Fz ((Hp l.tm eq).1.1.lf.val f) eq=Fz (l.val f) eq):=by
 have hlv:l.tm.lf.val f=l.val f:=by rw[DC]
 have hne:l.tm.ps≠[]->CQ l.tm≠0:=by
  have:=WK (l:=l)
  rwa [hl]at this
 have hps:l.tm.ps=[]->l.val f=zv l.tm.k:=λh=>by
  rw[←hlv];unfold Lf.val Tm.lf;rw[h];simp[Cz]
 rw[←hlv]at hps ⊢;generalize l.tm=p at *;unfold Hp
 by_cases h0:p.ps=[]
 .rw[if_pos h0]
  rw[hps h0]
  by_cases h1:zv p.k=0\/(eq=Φ/\0<zv p.k)
  .refine .inl ⟨if_pos h1,?_⟩
   cases eq with
   |false=>
    rw[Ir,decide_eq_true_eq];rcases h1 with h|h<;>omega
   |true=>
    rw[LR,decide_eq_true_eq];rcases h1 with h|h
    .exact h
    .cases h.1
  .refine .inr (.inl ⟨if_neg h1,?_⟩)
   cases eq with
   |false=>
    rw[Ir,decide_eq_false_iff_not];intro h;refine h1 ?_;rcases Axu 0 (zv p.k) with h2|h2
    .exact .inr ⟨rfl,h2⟩
    .exact .inl (by omega)
   |true=>
    rw[LR,decide_eq_false_iff_not];exact λh=>h1 (.inl h)
 .rw[if_neg h0]
  have hc:=hne h0;have hg:0<(CQ p:Int):=by omega
  have hv:=AiW hf hc;obtain⟨r0,r1⟩:=AnE (zv p.k) hg
  cases eq with
  |false=>
   rw[if_neg (by decide)];refine .inr (.inr ⟨rfl,rfl,?_⟩);rw[hv,Ir,Ir,decide_eq_decide];exact(Abs hg r0 r1).symm
  |true=>
   rw[if_pos rfl]
   by_cases hr:rZ (zv p.k) (CQ p)=0
   .rw[if_pos hr]
    refine .inr (.inr ⟨rfl,rfl,?_⟩);rw[hv,LR,LR,decide_eq_decide,S9 hg r0 r1]
    show Lf.val f (Tm.lf (if hdS (FD p)<0 then((FD p).lf.scale (-1)).tm else FD p))=0 ↔ _
    split
    .rw[DC,I4 hf]
     omega
    .exact⟨λh=>⟨h,hr⟩,λh=>h.1⟩
   .rw[if_neg hr]
    refine .inr (.inl ⟨rfl,?_⟩);rw[hv,LR,decide_eq_false_iff_not,S9 hg r0 r1];exact λh=>hr h.2
def Cp(t:Tm)(e:Bool):Fm:=if(Hp t.lf.pln.tm e).2=0 then .mk 2 (Hp t.lf.pln.tm e).1.1 (Hp t.lf.pln.tm e).1.2 [] else K9 (decide (0<(Hp t.lf.pln.tm e).2))
def D7(k:Int):List Fm->List Fm->Fm
 |out,[]=>(match out with
  |[]=>K9 (decide (k=4))
  |[x]=>x
  |x::y::r=>kF k (x::y::r))
 |out,f::r=>if(k=4/\f.kind=1)\/(k=5/\f.kind=0) then f else if f.kind=0\/f.kind=1 then D7 k out r else if f.kind=k then D7 k (out++f.kids) r else D7 k (out++[f]) r
mutual
def CO:Fm->Bool->Fm
 |.mk k t e ks,d=>if k=0 then K9 (!d) else if k=2 then(if d=Δ then D7 5 [] ((FG t.lf e).map λr=>Cp r.1 r.2) else Cp t e) else if k=3 then Mq ks d else if k=4\/k=5 then D7 (if d=Δ then 9-k else k) [] (Fg ks d) else K9 d
def Mq:List Fm->Bool->Fm
 |[],d=>K9 d
 |x::_,d=>CO x (!d)
def Fg:List Fm->Bool->List Fm
 |[],_=>[]
 |x::r,d=>CO x d::Fg r d
end
theorem Ep(d:Bool):∀ l,Fg l d=l.map λx=>CO x d
 |[]=>rfl
 |x::r=>by rw[Fg,Ep d r,At5]
theorem Ou(f:Int->Int):∀ l,LA f l=l.all (Bl f)
 |[]=>rfl
 |x::r=>by rw[LA,Ou f r,Ava]
theorem Qk(f:Int->Int):∀ l,LC f l=l.any (Bl f)
 |[]=>rfl
 |x::r=>by rw[LC,Qk f r,Avb]
theorem Nb(f:Int->Int)(t:Tm)(e:Bool)(ks:List Fm):Bl f (.mk 4 t e ks)=ks.all (Bl f):=by
 rw[Bl,if_neg (by decide),if_neg (by decide),if_neg (by decide),if_pos rfl,Ou]
theorem Nc(f:Int->Int)(t:Tm)(e:Bool)(ks:List Fm):Bl f (.mk 5 t e ks)=ks.any (Bl f):=by
 rw[Bl,if_neg (by decide),if_neg (by decide),if_neg (by decide),if_neg (by decide),if_pos rfl,Qk]
theorem AeQ(f:Int->Int)(t:Tm)(e:Bool)(ks:List Fm):Bl f (.mk 3 t e ks)=H8 f ks:=by
 rw[Bl,if_neg (by decide),if_neg (by decide),if_pos rfl]
theorem W6(f:Int->Int)(t:Tm)(e:Bool)(ks:List Fm):Bl f (.mk 2 t e ks)=Fz (t.lf.val f) e:=by
 rw[Bl,if_neg (by decide),if_pos rfl]
theorem W5(f:Int->Int)(t:Tm)(e:Bool)(ks:List Fm):Bl f (.mk 0 t e ks)=Δ:=by
 rw[Bl,if_pos rfl]
theorem AeP(f:Int->Int)(t:Tm)(e:Bool)(ks:List Fm):Bl f (.mk 1 t e ks)=Φ:=by
 rw[Bl,if_neg (by decide),if_neg (by decide),if_neg (by decide),if_neg (by decide),if_neg (by decide)]
theorem VO(f:Int->Int){x:Fm}(h:x.kind=0):Bl f x=Δ:=by
 obtain⟨k,t,e,ks⟩:=x;have h:k=0:=h;rw[h,W5]
theorem VP(f:Int->Int){x:Fm}(h:x.kind=1):Bl f x=Φ:=by
 obtain⟨k,t,e,ks⟩:=x;have h:k=1:=h;rw[h,AeP]
def Hv(k:Int)(p:Fm->Bool)(l:List Fm):Bool:=if k=4 then l.all p else l.any p
theorem JH(f:Int->Int){k:Int}(hk:k=4\/k=5):∀(fs out:List Fm),Bl f (D7 k out fs)=Hv k (Bl f) (out++fs):=by
 intro fs
 induction fs with
 |nil=>
  intro out;rw[Auu];unfold D7 Hv;rcases hk with rfl|rfl
  .rw[if_pos rfl]
   match out with
   |[]=>exact DS f Δ
   |[x]=>simp
   |x::y::r=>exact Nb f _ _ _
  .rw[if_neg (by decide)]
   match out with
   |[]=>exact DS f Φ
   |[x]=>simp
   |x::y::r=>exact Nc f _ _ _
 |cons g r ih=>
  intro out;unfold D7
  by_cases h1:(k=4/\g.kind=1)\/(k=5/\g.kind=0)
  .rw[if_pos h1]
   unfold Hv;rcases h1 with⟨rfl,h⟩|⟨rfl,h⟩
   .rw[if_pos rfl,VP f h,Avq,Ava,VP f h]
    simp
   .rw[if_neg (by decide),VO f h,AvK,Avb,VO f h]
    simp
  .rw[if_neg h1]
   by_cases h2:g.kind=0\/g.kind=1
   .rw[if_pos h2,ih]
    unfold Hv;rcases hk with rfl|rfl
    .have h : g.kind = 0 := by rcases h2 with h|h
                               .exact h
                               .exact absurd (.inl ⟨rfl,h⟩) h1
     rw[if_pos rfl,if_pos rfl,Avq,Avq,Ava,VO f h,Avy]
    .have h : g.kind = 1 := by rcases h2 with h|h
                               .exact absurd (.inr ⟨rfl,h⟩) h1
                               .exact h
     rw[if_neg (by decide),if_neg (by decide),AvK,AvK,Avb,VP f h,AvH]
   .rw[if_neg h2]
    by_cases h3:g.kind=k
    .rw[if_pos h3,ih]
     obtain⟨gk,gt,ge,gs⟩:=g;have h3:gk=k:=h3;subst h3;unfold Hv Fm.kids;rcases hk with rfl|rfl
     .rw[if_pos rfl,if_pos rfl,Avq,Avq,Avq,Ava,Nb,Bool.and_assoc]
     .rw[if_neg (by decide),if_neg (by decide),AvK,AvK,AvK,Avb,Nc,Bool.or_assoc]
    .rw[if_neg h3,ih,AtK]
     rfl
theorem ML{f:Int->Int}(hf:∀ v,v<0->f v=0)(t:Tm)(e:Bool):Bl f (Cp t e)=Fz (t.lf.val f) e:=by
 have h:=Wu hf (l:=t.lf.pln) (XN _) e;rw[SD hf]at h;unfold Cp;rcases h with⟨h1,h2⟩|⟨h1,h2⟩|⟨h1,h2,h3⟩
 .rw[h1,if_neg (by decide),DS,h2]
  rfl
 .rw[h1,if_neg (by decide),DS,h2]
  rfl
 .rw[if_pos h1,W6,h2,h3]
theorem Vi{f:Int->Int}(hf:∀ v,v<0->f v=0)(l:Lf)(e:Bool):((FG l e).any λr=>Fz (r.1.lf.val f) r.2) = !Fz (l.val f) e:=by
 unfold FG
 cases e with
 |false=>
  rw[if_neg (by decide),Avb,Axx,AwQ]
  show Fz ((Dq l).tm.lf.val f) Φ=_
  rw[DC,Js hf,Ir,Ir,←decide_not,decide_eq_decide];omega
 |true=>
  rw[if_pos rfl,Avb,Avb,Axx,AwQ]
  show (Fz ((Dq (l.scale (-1))).tm.lf.val f) Φ||Fz ((Dq l).tm.lf.val f) Φ)=_
  rw[DC,DC,Js hf,Js hf,I4 hf,Ir,Ir,LR,←Axn,←decide_not,decide_eq_decide];omega
theorem M4{α:Type}{p q:α->Bool}:∀{l:List α},(∀ x∈l,p x=q x)->l.any p=l.any q
 |[],_=>rfl
 |x::r,h=>by rw[Avb,Avb,h x (AtL ..),M4 λy hy=>h y (AtF _ hy)]
theorem Rb{α:Type}{p q:α->Bool}:∀{l:List α},(∀ x∈l,p x=q x)->l.all p=l.all q
 |[],_=>rfl
 |x::r,h=>by rw[Ava,Ava,h x (AtL ..),Rb λy hy=>h y (AtF _ hy)]
theorem AlC(p q:Fm->Bool)(l:List Fm)(h:∀ x∈l,p x = !q x):l.any p = !l.all q:=by
 rw[List.not_all_eq_any_not];exact M4 h
theorem Alx(p q:Fm->Bool)(l:List Fm)(h:∀ x∈l,p x = !q x):l.all p = !l.any q:=by
 rw[List.not_any_eq_all_not];exact Rb h
mutual
theorem JD{f:Int->Int}(hf:∀ v,v<0->f v=0):∀(x:Fm) (d:Bool),Bl f (CO x d)=if d=Δ then !Bl f x else Bl f x
 |.mk k t e ks,d=>by
  rw[CO]
  by_cases h0:k=0
  .rw[if_pos h0,DS,h0,W5]
   cases d<;>rfl
  rw[if_neg h0]
  by_cases h2:k=2
  .rw[if_pos h2,h2,W6]
   cases d with
   |false=>rw[if_neg (by decide),if_neg (by decide),ML hf]
   |true=>
    rw[if_pos rfl,if_pos rfl,JH f (.inr rfl),AtZ];unfold Hv;rw[if_neg (by decide),AwV,←Vi hf];exact M4 λr _=>ML hf _ _
  rw[if_neg h2]
  by_cases h3:k=3
  .rw[if_pos h3,h3,AeQ]
   exact Tf hf ks d
  rw[if_neg h3]
  by_cases h4:k=4\/k=5
  .rw[if_pos h4]
   have ih:=Mp hf ks d
   cases d with
   |false=>
    rw[if_neg (by decide),if_neg (by decide),JH f h4,AtZ];unfold Hv;rcases h4 with rfl|rfl
    .rw[if_pos rfl,Nb,Ep,Axw]
     exact Rb λx hx=>ih x hx
    .rw[if_neg (by decide),Nc,Ep,AwV]
     exact M4 λx hx=>ih x hx
   |true=>
    rw[if_pos rfl,if_pos rfl,JH f (by omega),AtZ];unfold Hv;rcases h4 with rfl|rfl
    .rw[if_neg (by decide),Nb,Ep,AwV]
     exact AlC _ _ _ λx hx=>ih x hx
    .rw[if_pos (by decide),Nc,Ep,Axw]
     exact Alx _ _ _ λx hx=>ih x hx
  .rw[if_neg h4,DS,Bl,if_neg h0,if_neg h2,if_neg h3,if_neg (λh=>h4 (.inl h)),if_neg (λh=>h4 (.inr h))]
   cases d<;>rfl
theorem Tf{f:Int->Int}(hf:∀ v,v<0->f v=0):∀(l:List Fm) (d:Bool),Bl f (Mq l d)=if d=Δ then !H8 f l else H8 f l
 |[],d=>by
  rw[Mq,DS,H8]
  cases d<;>rfl
 |x::r,d=>by
  rw[Mq,JD hf x,H8]
  cases d<;>simp
theorem Mp{f:Int->Int}(hf:∀ v,v<0->f v=0):∀(l:List Fm) (d:Bool),∀ x∈l,Bl f (CO x d)=if d=Δ then !Bl f x else Bl f x
 |[],_,_,h=>by cases h
 |y::r,d,x,h=>by
  by_cases hx:x=y
  .rw[hx]
   exact JD hf y d
  .exact Mp hf r d x (by
    rcases AtC.1 h with h|h
    .exact absurd h hx
    .exact h)
end
theorem LK{k:Int}{t:Tm}{e:Bool}{ks:List Fm}{x:Fm}(h:x∈Gl (.mk k t e ks)):x∈ks:=by
 rw[Gl]at h
 by_cases h4:k=4\/k=5
 .rw[if_pos h4]at h;exact h
 rw[if_neg h4]at h
 by_cases h3:k=3
 .rw[if_pos h3]at h;exact List.mem_of_mem_take h
 .rw[if_neg h3]at h;cases h
mutual
def Ke:Fm->Nat
 |.mk k _ _ ks=>1+(if k=4\/k=5 then P5 ks else if k=3 then WJ ks else 0)
def WJ:List Fm->Nat
 |[]=>0
 |x::_=>Ke x
def P5:List Fm->Nat
 |[]=>0
 |x::r=>Ke x+P5 r
end
theorem P6{x:Fm}:∀{l:List Fm},x∈l->Ke x<=P5 l
 |y::r,h=>by
  rw[P5];rcases AtC.1 h with rfl|h
  .omega
  .have:=P6 h
   omega
theorem WM{k:Int}{t:Tm}{e:Bool}{ks:List Fm}{x:Fm}(h:x∈Gl (.mk k t e ks)):Ke x<Ke (.mk k t e ks):=by
 rw[D8]at h;rw[Ke]
 by_cases h4:k=4\/k=5
 .rw[if_pos h4]at h ⊢
  have:=P6 h;omega
 rw[if_neg h4]at h ⊢
 by_cases h3:k=3
 .rw[if_pos h3]at h ⊢
  cases ks with
  |nil=>cases h
  |cons y r=>
   rw[List.take_succ_cons,List.take_zero,Aum]at h;rw[h,WJ];omega
 .rw[if_neg h3]at h
  cases h
mutual
def JZ:Fm->Nat
 |.mk _ _ _ ks=>1+CF ks
def CF:List Fm->Nat
 |[]=>0
 |x::r=>JZ x+CF r
end
theorem De:∀ a b:List Fm,CF (a++b)=CF a+CF b
 |[],b=>by rw[AtZ,CF,Nat.zero_add]
 |x::r,b=>by rw[List.cons_append,CF,CF,De r b,Nat.add_assoc]
theorem I3(x:Fm):JZ x=1+CF x.kids:=by
 obtain⟨k,t,e,ks⟩:=x;rw[JZ];rfl
theorem DD:∀ l:List Fm,l.length<=CF l
 |[]=>At7 _
 |x::r=>by
  have:=DD r;rw[γ,CF,I3];omega
theorem La(b:Bool):JZ (K9 b)=1:=by cases b<;>rfl
theorem GF(x:Fm):CF [x]=JZ x:=by rw[CF,CF,Nat.add_zero]
theorem TR(k:Int):∀(fs out:List Fm),JZ (D7 k out fs)<=1+CF out+CF fs:=by
 intro fs
 induction fs with
 |nil=>
  intro out;unfold D7
  match out with
  |[]=>rw[La];omega
  |[x]=>rw[GF];show JZ x<=_;omega
  |x::y::r=>unfold kF;rw[JZ];omega
 |cons g r ih=>
  intro out;unfold D7;rw[CF]
  by_cases c1:(k=4/\g.kind=1)\/(k=5/\g.kind=0)
  .rw[if_pos c1]
   omega
  rw[if_neg c1]
  by_cases c2:g.kind=0\/g.kind=1
  .rw[if_pos c2]
   have:=ih out;omega
  rw[if_neg c2]
  by_cases c3:g.kind=k
  .rw[if_pos c3]
   have:=ih (out++g.kids);rw[De]at this;rw[I3 g];omega
  .rw[if_neg c3]
   have:=ih (out++[g]);rw[De,GF]at this;omega
theorem QS(t:Tm)(e:Bool):JZ (Cp t e)=1:=by
 unfold Cp;split
 .rfl
 .exact La _
theorem Kj(l:Lf)(e:Bool):(FG l e).length<=2:=by
 unfold FG;split<;>simp
theorem FS:∀ l:List (Tm × Bool),CF (l.map λr=>Cp r.1 r.2)=l.length
 |[]=>rfl
 |x::r=>by rw[At5,CF,QS,FS r,γ,Nat.add_comm]
mutual
theorem Th:∀(x:Fm) (d:Bool),JZ (CO x d)<=3*Ke x
 |.mk k t e ks,d=>by
  rw[CO,Ke]
  by_cases h0:k=0
  .rw[if_pos h0,La]
   omega
  rw[if_neg h0]
  by_cases h2:k=2
  .rw[if_pos h2]
   cases d with
   |false=>
    rw[if_neg (by decide),QS];omega
   |true=>
    rw[if_pos rfl];have h3:=TR 5 ((FG t.lf e).map λr=>Cp r.1 r.2) [];have h4:=Kj t.lf e;rw[FS,CF]at h3;omega
  rw[if_neg h2]
  by_cases h3:k=3
  .rw[if_pos h3,if_neg (by omega),if_pos h3]
   have:=YH ks d;omega
  rw[if_neg h3]
  by_cases h4:k=4\/k=5
  .rw[if_pos h4,if_pos h4]
   have h5:=TR (if d=Δ then 9-k else k) (Fg ks d) [];have h6:=IL ks d;rw[show CF []=0 from rfl]at h5;omega
  .rw[if_neg h4,La]
   omega
theorem YH:∀(l:List Fm) (d:Bool),JZ (Mq l d)<=1+3*WJ l
 |[],d=>by rw[Mq,La];omega
 |x::r,d=>by
  have:=Th x (!d);rw[Mq,WJ];omega
theorem IL:∀(l:List Fm) (d:Bool),CF (Fg l d)<=3*P5 l
 |[],d=>by rw[Fg,CF];omega
 |x::r,d=>by
  have h1:=Th x d;have h2:=IL r d;rw[Fg,CF,P5];omega
end
theorem FB.kid{n k:Nat}{x:Fm}(h:FB n k x):∀ y∈x.kids,FB n k y:=by
 obtain⟨_,_,h⟩:=h;exact h
theorem FB.mono{n k m j:Nat}(hn:n<=m)(hk:k<=j):∀(N:Nat) (x:Fm),SizeOf.sizeOf x<N->FB n k x->FB m j x:=by
 intro N
 induction N with
 |zero=>intro x h;omega
 |succ N ih=>
  intro x hN hx;obtain⟨ht,hl,h⟩:=hx;rename_i kd t e ks;exact .mk (ht.mono hn hk) hl λy hy=>ih y (by have:=EI (k:=kd) (t:=t) (e:=e) hy;omega) (h y hy)
theorem K7(n k:Nat):TmB n k Tm0:=⟨At7 _,λp hp=>(by cases hp),⟨λx hx=>(by cases hx),At7 _⟩⟩
theorem Md(n k:Nat)(b:Bool):FB n k (K9 b):=.mk (K7 n k) (At7 _) λy hy=>by cases hy
theorem Xa{n c:Nat}(k:Int):∀(fs out:List Fm),(∀ x∈out,FB n c x)->(∀ x∈fs,FB n c x)->CF out+CF fs<=1000000->FB n c (D7 k out fs):=by
 intro fs
 induction fs with
 |nil=>
  intro out h1 _ h3;unfold D7
  match out,h1,h3 with
  |[],_,_=>exact Md _ _ _
  |[x],h1,_=>exact h1 x (AtL ..)
  |x::y::r,h1,h3=>exact .mk (K7 _ _) (by have:=DD (x::y::r);omega) h1
 |cons g r ih=>
  intro out h1 h2 h3;rw[CF]at h3;unfold D7;have hg:=h2 g (AtL ..);have hr:∀ x∈r,FB n c x:=λx hx=>h2 x (AtF _ hx)
  by_cases c1:(k=4/\g.kind=1)\/(k=5/\g.kind=0)
  .rw[if_pos c1]
   exact hg
  rw[if_neg c1]
  by_cases c2:g.kind=0\/g.kind=1
  .rw[if_pos c2]
   exact ih out h1 hr (by omega)
  rw[if_neg c2]
  by_cases c3:g.kind=k
  .rw[if_pos c3]
   refine ih _ (λx hx=>?_) hr (by rw[De];rw[I3]at h3;omega);rcases Aul.1 hx with h|h
   .exact h1 x h
   .exact hg.kid x h
  .rw[if_neg c3]
   refine ih _ (λx hx=>?_) hr (by rw[De,GF];omega);rcases Aul.1 hx with h|h
   .exact h1 x h
   .rw[Aum.1 h]
    exact hg
theorem AnY{n k:Nat}{t:Tm}(ht:TmB n k t)(hk:1<=k)(e:Bool):TmB n (k+4*n+4) (Hp t.lf.pln.tm e).1.1:=by
 have hp:=ht.lb.pln.tb;have hs:=Adg hp (show 1<=k+n by omega);unfold Hp;split
 .exact K7 _ _
 split
 .split
  .show TmB _ _ (if hdS (FD t.lf.pln.tm)<0 then _ else _)
   split
   .exact((hs.lb.scale (x:=-1) (j:=1) (by unfold InB;decide)).tb).mono (η _) (by omega)
   .exact hs.mono (η _) (by omega)
  .exact K7 _ _
 .exact hs.mono (η _) (by omega)
theorem UN{n k:Nat}{t:Tm}(ht:TmB n k t)(hk:1<=k)(e:Bool):FB n (k+4*n+4) (Cp t e):=by
 unfold Cp;split
 .exact .mk (AnY ht hk e) (At7 _) λy hy=>by cases hy
 .exact Md _ _ _
theorem WN{n k:Nat}{l:Lf}(h:LB n k l)(e:Bool):∀ r∈FG l e,TmB n (2*k+6*n+6) r.1:=by
 have hs:LB n (k+1+n) (l.scale (-1)):=h.scale (by unfold InB;decide);intro r hr;unfold FG at hr
 cases e with
 |false=>
  rw[if_neg (by decide),Aum]at hr;rw[hr];exact((IH h).tb).mono (η _) (by omega)
 |true=>
  rw[if_pos rfl]at hr;rcases AtC.1 hr with hr|hr
  .rw[hr]
   exact((IH hs).tb).mono (η _) (by omega)
  .rw[Aum]at hr
   rw[hr];exact((IH h).tb).mono (η _) (by omega)
theorem AeH{n k:Nat}(hk:1<=k):∀(N:Nat) (x:Fm),SizeOf.sizeOf x<N->FC n k x->3*Ke x<=1000000->∀ d,FB n (2*k+10*n+10) (CO x d):=by
 intro N
 induction N with
 |zero=>intro x h;omega
 |succ N ih=>
  intro x hN hx hc d;obtain⟨ht,hkl,h⟩:=hx;rename_i kd t e ks;have hh:∀ y∈Gl (.mk kd t e ks),∀ d,FB n (2*k+10*n+10) (CO y d):=λy hy d=>ih y (by have:=EI (k:=kd) (t:=t) (e:=e) (LK hy);omega) (h y hy) (by have:=WM hy;omega) d
  rw[D8]at hh;rw[CO]
  by_cases h0:kd=0
  .rw[if_pos h0]
   exact Md _ _ _
  rw[if_neg h0]
  by_cases h2:kd=2
  .rw[if_pos h2]
   have ht:=ht h2
   cases d with
   |false=>
    rw[if_neg (by decide)];exact FB.mono (η _) (by omega) _ _ (AuT _) (UN ht hk e)
   |true=>
    rw[if_pos rfl];refine Xa 5 _ [] (by simp) (λy hy=>?_) (by rw[FS,CF];have:=Kj t.lf e;omega);obtain⟨r,hr,rfl⟩:=Auw.1 hy;exact FB.mono (η _) (by omega) _ _ (AuT _) (UN (WN ht.lb e r hr) (by omega) r.2)
  rw[if_neg h2]
  by_cases h3:kd=3
  .rw[if_pos h3]
   rw[if_neg (by omega),if_pos h3]at hh
   cases ks with
   |nil=>exact Md _ _ _
   |cons y r=>exact hh y (AtL ..) (!d)
  rw[if_neg h3]
  by_cases h4:kd=4\/kd=5
  .rw[if_pos h4]
   rw[if_pos h4]at hh;refine Xa _ _ [] (by simp) (λy hy=>?_) ?_
   .rw[Ep]at hy
    obtain⟨z,hz,rfl⟩:=Auw.1 hy;exact hh z hz d
   .have h5:=IL ks d
    rw[Ke,if_pos h4]at hc;rw[show CF []=0 from rfl];omega
  .rw[if_neg h4]
   exact Md _ _ _
def Ek(k:Int):List Fm->List Fm->Option Fm × List Fm
 |out,[]=>(none,out)
 |out,f::r=>if(k=4/\f.kind=1)\/(k=5/\f.kind=0) then(Θ f,[]) else if f.kind=0\/f.kind=1 then Ek k out r else if f.kind=k then Ek k (out++f.kids) r else Ek k (out++[f]) r
def Abj(k:Int):List Fm->Fm
 |[]=>K9 (decide (k=4))
 |[x]=>x
 |x::y::r=>kF k (x::y::r)
theorem YV(k:Int):∀(fs out:List Fm),D7 k out fs=match Ek k out fs with | (Θ f,_)=>f | (none,o)=>Abj k o:=by
 intro fs
 induction fs with
 |nil=>
  intro out
  match out with
  |[]=>rfl
  |[x]=>rfl
  |x::y::r=>rfl
 |cons g r ih=>
  intro out;unfold D7 Ek
  by_cases c1:(k=4/\g.kind=1)\/(k=5/\g.kind=0)
  .rw[if_pos c1,if_pos c1]
  rw[if_neg c1,if_neg c1]
  by_cases c2:g.kind=0\/g.kind=1
  .rw[if_pos c2,if_pos c2]
   exact ih out
  rw[if_neg c2,if_neg c2]
  by_cases c3:g.kind=k
  .rw[if_pos c3,if_pos c3]
   exact ih _
  .rw[if_neg c3,if_neg c3]
   exact ih _
theorem Abr(k:Int):∀(fs out:List Fm),CF (Ek k out fs).2<=CF out+CF fs:=by
 intro fs
 induction fs with
 |nil=>intro out;exact Nat.le_add_right _ _
 |cons g r ih=>
  intro out;unfold Ek;rw[CF]
  by_cases c1:(k=4/\g.kind=1)\/(k=5/\g.kind=0)
  .rw[if_pos c1]
   exact At7 _
  rw[if_neg c1]
  by_cases c2:g.kind=0\/g.kind=1
  .rw[if_pos c2]
   have:=ih out;omega
  rw[if_neg c2]
  by_cases c3:g.kind=k
  .rw[if_pos c3]
   have:=ih (out++g.kids);rw[De]at this;rw[I3 g];omega
  .rw[if_neg c3]
   have:=ih (out++[g]);rw[De,GF]at this;omega
theorem ZS(x:Fm)(r:List Fm):CF (x::r)=JZ x+CF r:=by rw[CF]
theorem Acw(x:Fm):F8 (eF x)=Δ:=by
 obtain⟨k,t,e,ks⟩:=x;rfl
theorem eF0:eF (kF 0 [])=[iv 0,.ls [],bv Φ,.ls [],bv Φ,.ls []]:=rfl
theorem Uk(a b:List Fm):Ag eF a++Ag eF b=Ag eF (a++b):=by simp[Ag]
section
variable {D:Orc} (Kl:Knows As X2 D) (Ko:Knows As UD D)
include Kl
include Ko in
theorem Qr{t:Tm}{e:Bool}(g:D.ask (.fn 17) [.agg (M9 (t,e))] []=Θ (.tup [.agg (M9 (Hp t.lf.pln.tm e).1),iv (Hp t.lf.pln.tm e).2],[])):D.ask (.fn 172) [.agg (M9 (t,e))] []=Θ (.agg (eF (Cp t e)),[]):=by
 unfold Cp;revert g;generalize Hp t.lf.pln.tm e=T;intro g;obtain⟨⟨⟨rp,rz⟩,re⟩,n⟩:=T;obtain⟨ps,kz⟩:=t;simp only[GU,eN]at g ⊢;refine Aw Kl Akg (Arm ..) ?_;refine Aa g ?_;simp only[ND,DK,Ab]
 by_cases h:n=0
 .rw[if_pos h]
  exact HD h
 .rw[if_neg h]
  refine Aq ?_ h
  by_cases h2:0<n
  .rw[decide_eq_true h2]
   refine Al ?_ h2;refine Aa (Dd Ko Δ) ?_;rfl
  .rw[decide_eq_false h2]
   refine Ai ?_ h2;refine Aa (Dd Ko Φ) ?_;rfl
def Apr(k:Int):Option Fm × List Fm->AV × List BO
 |(Θ f,_)=>(.tup [bv Δ,.ptr 0 0],[.set (bk (eF f)),.del])
 |(none,o)=>(.tup [iv 0,iv k,.ptr 0 0,.sl 2 0 o.length 6],[.set (bk (eF (kF 0 []))),.del,.set (δ (Ag eF o) Δ Δ)])
theorem AeT{k:Int}(hk:k=4\/k=5)(fs:List Fm)(hl:fs.length<=1000000):∀(m i:Nat) (out:List Fm),fs.length-i=m->i<=fs.length->CF out+CF (fs.drop i)<=1000000->
  D.ask (.lp 173 0) [iv k,.ptr 0 0,.sl 1 0 out.length 6,.ls (fs.map eF),iv (fs.length:Int),iv (i:Int)] [bk (eF (kF 0 [])),δ (Ag eF out) Δ Δ]=Θ (Apr k (Ek k out (fs.drop i))):=by
 intro m
 induction m with
 |zero=>
  intro i out hm hi _;rw[AtM (by omega)];refine Ay Kl Tz (AaO ..) ?_;exact Ai rfl
 |succ m ih=>
  intro i out hm hi ht;have h1:i<fs.length:=by omega
  have hn1:∀ kk,BC (fs.map eF) i kk=kk (eF fs[i]):=λkk=>Ax (ξ h1) kk
  rw[ε h1]at ht ⊢;revert hn1 ht;generalize fs[i]=x;intro ht hn1;obtain⟨gk,gt,ge,gs⟩:=x;rw[ZS,JZ]at ht;refine Ay Kl Tz (AaO ..) ?_;refine Al ?_;rw[Au,hn1,Ek];unfold Fm.kind;simp only[eF,BL,eN,ND,DK,Ab];rw[BQ (by omega)];rcases hk with rfl|rfl
  .refine AO ?_ rfl
   by_cases h0:gk=1
   .rw[if_pos (.inl ⟨rfl,h0⟩)]
    refine AO ?_ h0
    show _=Θ ((.tup [bv Δ,.ptr 0 0],[.set (bk (eF _)),.del]):AV × List BO)
    rw[eF,BL];rfl
   .rw[if_neg (by omega)]
    refine Aq ?_ h0;refine Aq ?_ (by decide)
    by_cases h2:gk=0
    .rw[if_pos (.inl h2)]
     refine AO ?_ h2;have g:=ih (i+1) out (by omega) (by omega) (by omega);refine Aa g ?_
     cases Ek 4 out (fs.drop (i+1)) with
     |mk a o=>
      cases a with
      |none=>rfl
      |some y=>
       obtain⟨yk,yt,ye,ys⟩:=y;rfl
    .rw[if_neg (by omega)]
     refine Aq ?_ h2;refine Aq ?_ h0
     by_cases h3:gk=4
     .skip
      refine AO ?_ h3;rw[if_pos h3];rw[E8 Cf,Ao,D1];refine Ac ?_
      cases hgs:gs with
      |nil=>
       have g:=ih (i+1) out (by omega) (by omega) (by omega);refine Ac ?_;refine Aa g ?_;unfold Fm.kids;rw[Auu]
       cases Ek 4 out (fs.drop (i+1)) with
       |mk a o=>
        cases a with
        |none=>rfl
        |some y=>
         obtain⟨yk,yt,ye,ys⟩:=y;rfl
      |cons y ys=>
       rw[hgs]at ht;have htl:=DD (y::ys);have hol:=DD out;have g:=ih (i+1) (out++(y::ys)) (by omega) (by omega) (by rw[De];omega);rw[κ]at g;refine BY ?_;rw[Fl Acw];refine Ac ?_;rw[show Bf (out.length+(y::ys).length) 96=Δ from AJ (by omega) (by omega)];refine Ac ?_;rw[show AtG (0+out.length*6) (Ag eF out).length=Δ from AL Cf out (by omega)];refine Ac ?_;rw[Aty,Bc Cf out (by omega),Uk];refine Aa g ?_;unfold Fm.kids
       cases Ek 4 (out++(y::ys)) (fs.drop (i+1)) with
       |mk a o=>
        cases a with
        |none=>rfl
        |some y=>
         obtain⟨yk,yt,ye,ys⟩:=y;rfl
     .skip
      refine Aq ?_ h3;rw[if_neg h3];have hol:=DD out;have g:=ih (i+1) (out++[.mk gk gt ge gs]) (by omega) (by omega) (by rw[De,GF,JZ];omega);rw[κ,AtT]at g;rw[show Bf (out.length+1) 96=Δ from AJ (by omega) (by omega)];refine Ac ?_;rw[show AtG (0+out.length*6) (Ag eF out).length=Δ from AL Cf out (by omega)];refine Ac ?_;have e3:AtD 0 (ο (0+out.length*6) (Ag eF out))++eF (.mk gk gt ge gs)=Ag eF (out++[.mk gk gt ge gs]):=by
       rw[Aty,Bc Cf out (by omega)];exact Bg eF out _
      rw[eF,BL]at e3;simp only[eN]at e3;rw[e3];refine Aa g ?_
      cases Ek 4 (out++[.mk gk gt ge gs]) (fs.drop (i+1)) with
      |mk a o=>
       cases a with
       |none=>rfl
       |some y=>
        obtain⟨yk,yt,ye,ys⟩:=y;rfl
  .refine Aq ?_ (by decide)
   refine AO ?_ rfl
   by_cases h0:gk=0
   .rw[if_pos (.inr ⟨rfl,h0⟩)]
    refine AO ?_ h0
    show _=Θ ((.tup [bv Δ,.ptr 0 0],[.set (bk (eF _)),.del]):AV × List BO)
    rw[eF,BL];rfl
   .rw[if_neg (by omega)]
    refine Aq ?_ h0;refine Aq ?_ h0
    by_cases h2:gk=1
    .rw[if_pos (.inr h2)]
     refine AO ?_ h2;have g:=ih (i+1) out (by omega) (by omega) (by omega);refine Aa g ?_
     cases Ek 5 out (fs.drop (i+1)) with
     |mk a o=>
      cases a with
      |none=>rfl
      |some y=>
       obtain⟨yk,yt,ye,ys⟩:=y;rfl
    .rw[if_neg (by omega)]
     refine Aq ?_ h2
     by_cases h3:gk=5
     .skip
      refine AO ?_ h3;rw[if_pos h3];rw[E8 Cf,Ao,D1];refine Ac ?_
      cases hgs:gs with
      |nil=>
       have g:=ih (i+1) out (by omega) (by omega) (by omega);refine Ac ?_;refine Aa g ?_;unfold Fm.kids;rw[Auu]
       cases Ek 5 out (fs.drop (i+1)) with
       |mk a o=>
        cases a with
        |none=>rfl
        |some y=>
         obtain⟨yk,yt,ye,ys⟩:=y;rfl
      |cons y ys=>
       rw[hgs]at ht;have htl:=DD (y::ys);have hol:=DD out;have g:=ih (i+1) (out++(y::ys)) (by omega) (by omega) (by rw[De];omega);rw[κ]at g;refine BY ?_;rw[Fl Acw];refine Ac ?_;rw[show Bf (out.length+(y::ys).length) 96=Δ from AJ (by omega) (by omega)];refine Ac ?_;rw[show AtG (0+out.length*6) (Ag eF out).length=Δ from AL Cf out (by omega)];refine Ac ?_;rw[Aty,Bc Cf out (by omega),Uk];refine Aa g ?_;unfold Fm.kids
       cases Ek 5 (out++(y::ys)) (fs.drop (i+1)) with
       |mk a o=>
        cases a with
        |none=>rfl
        |some y=>
         obtain⟨yk,yt,ye,ys⟩:=y;rfl
     .skip
      refine Aq ?_ h3;rw[if_neg h3];have hol:=DD out;have g:=ih (i+1) (out++[.mk gk gt ge gs]) (by omega) (by omega) (by rw[De,GF,JZ];omega);rw[κ,AtT]at g;rw[show Bf (out.length+1) 96=Δ from AJ (by omega) (by omega)];refine Ac ?_;rw[show AtG (0+out.length*6) (Ag eF out).length=Δ from AL Cf out (by omega)];refine Ac ?_;have e3:AtD 0 (ο (0+out.length*6) (Ag eF out))++eF (.mk gk gt ge gs)=Ag eF (out++[.mk gk gt ge gs]):=by
       rw[Aty,Bc Cf out (by omega)];exact Bg eF out _
      rw[eF,BL]at e3;simp only[eN]at e3;rw[e3];refine Aa g ?_
      cases Ek 5 (out++[.mk gk gt ge gs]) (fs.drop (i+1)) with
      |mk a o=>
       cases a with
       |none=>rfl
       |some y=>
        obtain⟨yk,yt,ye,ys⟩:=y;rfl
include Ko
theorem Xb{k:Int}(hk:k=4\/k=5)(fs:List Fm)(ht:CF fs<=1000000):D.ask (.fn 173) [iv k,.ls (fs.map eF)] []=Θ (.agg (eF (D7 k [] fs)),[]):=by
 have hl:=DD fs;have g:=AeT Kl hk fs (by omega) _ 0 [] rfl (by omega) (by rw[Aty,CF];omega);have hlen:=Abr k fs [];rw[Aty,show Ag eF ([]:List Fm)=[] from rfl,AuE,eF0]at g;rw[YV];revert g hlen;generalize Ek k [] fs=G;intro g hlen;obtain⟨a,o⟩:=G;refine Aw Kl Tz (Arn ..) ?_;rw[Ao];refine Aa g ?_
 cases a with
 |some y=>
  obtain⟨yk,yt,ye,ys⟩:=y
  show _=Θ (AV.agg (eF (Fm.mk yk yt ye ys)),[])
  rw[eF];rfl
 |none=>
  have hol:=DD o;simp only[CF]at hlen
  show _=Θ (AV.agg (eF (Abj k o)),[])
  simp only[eF0,ND,DK,Ab]
  match o,hol with
  |[],_=>
   refine AO ?_ rfl;unfold Abj
   by_cases h:k=4
   .rw[decide_eq_true h]
    refine AO ?_ h;refine Aa (Dd Ko Δ) ?_;rfl
   .rw[decide_eq_false h]
    refine Aq ?_ h;refine Aa (Dd Ko Φ) ?_;rfl
  |[x],_=>
   obtain⟨xk,xt,xe,xs⟩:=x;have er:Ag eF [Fm.mk xk xt xe xs]=eF (.mk xk xt xe xs):=by simp[Ag]
   rw[eF,BL]at er;rw[er,AtT];refine Aq ?_;refine AO ?_ rfl;unfold Abj;rw[eF,BL];rfl
  |x::y::r,hol=>
   rw[γ,γ]at hol;refine Aq ?_ (by rw[γ,γ];omega);refine Aq ?_ (by rw[γ,γ];omega);rw[show AtG (0+(x::y::r).length*6) (Ag eF (x::y::r)).length=Δ from AL Cf _ (by omega)];refine Ac ?_;rw[Bp Cf _ rfl];unfold Abj kF;rw[eF,BL];rfl
omit Ko in
theorem Abk(d:Bool)(ks:List Fm)(hl:ks.length<=1000000)(g:∀ x∈ks,D.ask (.fn 104) [.agg (eF x),bv d] []=Θ (.agg (eF (CO x d)),[])):∀(m i:Nat) (out:List Fm),ks.length-i=m->i<=ks.length->out.length<=i->
  D.ask (.lp 174 0) [bv d,.sl 0 0 out.length 6,.ls (ks.map eF),iv (ks.length:Int),iv (i:Int)] [δ (Ag eF out) Δ Δ]=Θ (.tup [iv 0,.sl 1 0 (out++(ks.drop i).map λx=>CO x d).length 6],[.del,.set (δ (Ag eF (out++(ks.drop i).map λx=>CO x d)) Δ Δ)]):=by
 intro m
 induction m with
 |zero=>
  intro i out hm hi ho;rw[AtM (by omega),AuY,Auu];refine Ay Kl TA (AaP ..) ?_;exact Ai rfl
 |succ m ih=>
  intro i out hm hi ho;have h1:i<ks.length:=by omega
  have gx:=g ks[i] (At1 h1);rw[ε h1,At5];have ih:=ih (i+1) (out++[CO ks[i] d]) (by omega) (by omega) (by simp;omega);rw[AtK,Au3,show (out++[CO ks[i] d]).length=out.length+1 by simp]at ih;have hf:Bf (out.length+1) 96=Δ:=AJ (by omega) (by omega);have hb1:AtG (0+out.length*6) (Ag eF out).length=Δ:=AL Cf out (by omega);have e3:AtD 0 (ο (0+out.length*6) (Ag eF out))++eF (CO ks[i] d)=Ag eF (out++[CO ks[i] d]):=by
   rw[Aty,Bc Cf out (by omega)];exact Bg eF out _
  refine Ay Kl TA (AaP ..) ?_;refine Al ?_;rw[Au,Ax (ξ h1)];revert gx ih e3;generalize CO ks[i] d=y;generalize ks[i]=x;obtain⟨xk,xt,xe,xs⟩:=x;obtain⟨yk,yt,ye,ys⟩:=y;intro gx ih e3;simp only[eF,eN,ND,DK,Ab]at gx e3 ⊢;refine Aa gx ?_;simp only[ND,DK,Ab];rw[hf];refine Ac ?_;rw[hb1];refine Ac ?_;rw[e3,BQ (by omega)];refine Aa ih ?_;rfl
omit Ko in
theorem Abl{d:Bool}{ks:List Fm}(hl:ks.length<=1000000)(g:∀ x∈ks,D.ask (.fn 104) [.agg (eF x),bv d] []=Θ (.agg (eF (CO x d)),[])):D.ask (.fn 174) [.ls (ks.map eF),bv d] []=Θ (.ls ((Fg ks d).map eF),[]):=by
 have gl:=Abk Kl d ks hl g _ 0 [] rfl (by omega) (by simp);rw[Aty,AtZ,←Ep]at gl;refine Aw Kl TA (Aro ..) ?_;rw[Ao];refine Aa gl ?_;simp only[ND,DK,Ab];rw[show AtG (0+(Fg ks d).length*6) (Ag eF (Fg ks d)).length=Δ from AL Cf _ (by omega)];refine Ac ?_;rw[Bp Cf _ rfl]
omit Ko in
theorem ZQ(rs:List (Tm × Bool))(hl:rs.length<=1000000)(g:∀ r∈rs,D.ask (.fn 172) [.agg (M9 r)] []=Θ (.agg (eF (Cp r.1 r.2)),[])):∀(m i:Nat) (out:List Fm),rs.length-i=m->i<=rs.length->out.length<=i->
  D.ask (.lp 104 0) [.ptr 0 0,.sl 1 0 out.length 6,.ls (rs.map M9),iv (rs.length:Int),iv (i:Int)] [bk (eF (kF 0 [])),δ (Ag eF out) Δ Δ]=Θ (.tup [iv 1,.ptr 0 0,.sl 2 0 (out++(rs.drop i).map λr=>Cp r.1 r.2).length 6],[.set (bk (eF (kF 0 []))),.del,.set (δ (Ag eF (out++(rs.drop i).map λr=>Cp r.1 r.2)) Δ Δ)]):=by
 intro m
 induction m with
 |zero=>
  intro i out hm hi ho;rw[AtM (by omega),AuY,Auu];refine Ay Kl HY (AaI ..) ?_;exact Ai rfl
 |succ m ih=>
  intro i out hm hi ho;have h1:i<rs.length:=by omega
  have gx:=g rs[i] (At1 h1);rw[ε h1,At5];have ih:=ih (i+1) (out++[Cp rs[i].1 rs[i].2]) (by omega) (by omega) (by simp;omega);rw[AtK,Au3,show (out++[Cp rs[i].1 rs[i].2]).length=out.length+1 by simp]at ih;have hf:Bf (out.length+1) 96=Δ:=AJ (by omega) (by omega);have hb1:AtG (0+out.length*6) (Ag eF out).length=Δ:=AL Cf out (by omega);have e3:AtD 0 (ο (0+out.length*6) (Ag eF out))++eF (Cp rs[i].1 rs[i].2)=Ag eF (out++[Cp rs[i].1 rs[i].2]):=by
   rw[Aty,Bc Cf out (by omega)];exact Bg eF out _
  refine Ay Kl HY (AaI ..) ?_;refine Al ?_;rw[Au,Ax (ξ h1)];revert gx ih e3;generalize Cp rs[i].1 rs[i].2=y;generalize rs[i]=x;obtain⟨⟨xp,xz⟩,xe⟩:=x;obtain⟨yk,yt,ye,ys⟩:=y;intro gx ih e3;simp only[GU,eF,eN,ND,DK,Ab]at gx e3 ⊢;refine Aa gx ?_;simp only[ND,DK,Ab];rw[hf];refine Ac ?_;rw[hb1];refine Ac ?_;rw[e3,BQ (by omega)];refine Aa ih ?_;rfl
variable (Z:ZF D) (W:ZdF D) (T:TiF D) (Ktt:Knows As UI D) (Kt:Knows As GD D) (Kf:Knows As MI D) (Ks:Knows As EQ D) (C:PartF D) (Kd:Knows As UF D)
include Z W T Ktt Kt Kf Ks C Kd
theorem Ab8{n k:Nat}(hn:n<=250)(hk1:1<=k)(hk:k<=700):∀(N:Nat) (x:Fm),SizeOf.sizeOf x<N->FC n k x->3*Ke x<=1000000->∀ d,D.ask (.fn 104) [.agg (eF x),bv d] []=Θ (.agg (eF (CO x d)),[]):=by
 intro N
 induction N with
 |zero=>intro x h;omega
 |succ N ih=>
  intro x hN hx hc d;obtain⟨ht,hkl,h⟩:=hx;rename_i kd t e ks;have gks:∀ y∈Gl (.mk kd t e ks),∀ d,D.ask (.fn 104) [.agg (eF y),bv d] []=Θ (.agg (eF (CO y d)),[]):=λy hy d=>ih y (by have:=EI (k:=kd) (t:=t) (e:=e) (LK hy);omega) (h y hy) (by have:=WM hy;omega) d
  rw[D8]at gks hkl;rw[CO]
  by_cases h0:kd=0
  .rw[if_pos h0,eF,BL]
   refine Aw Kl HY (Vj ..) ?_;refine AO ?_ h0
   cases d with
   |false=>
    refine Ac ?_;refine Aa (Dd Ko Δ) ?_;rfl
   |true=>
    refine BY ?_;refine Aa (Dd Ko Φ) ?_;rfl
  rw[if_neg h0]
  by_cases h2:kd=2
  .rw[if_pos h2]
   have ht:=ht h2
   cases d with
   |false=>
    have gt:=Qr Kl Ko (UO Ktt Z W T ht (by omega) hk1 (by omega) e);rw[if_neg (by decide),eF,BL];revert gt;generalize Cp t e=Y;intro gt;obtain⟨Yk,Yt,Ye,Ys⟩:=Y;obtain⟨ps,kz⟩:=t;simp only[GU,eF,eN]at gt ⊢;refine Aw Kl HY (Vj ..) ?_;refine Aq ?_ h0;refine AO ?_ h2;refine Ac ?_;refine Aa gt ?_;rfl
   |true=>
    have gd:=AaH Kt Kf Ks Z C Kd ht (by omega) (by omega) e;have gl:=ZQ Kl (FG t.lf e) (by have:=Kj t.lf e;omega) (λr hr=>Qr Kl Ko (UO Ktt Z W T (WN ht.lb e r hr) (by omega) (by omega) (by omega) r.2)) _ 0 [] rfl (by omega) (by simp);have gj:=Xb Kl Ko (.inr rfl:(5:Int)=4\/(5:Int)=5) ((FG t.lf e).map λr=>Cp r.1 r.2) (by rw[FS];have:=Kj t.lf e;omega);rw[Aty,AtZ,show Ag eF ([]:List Fm)=[] from rfl,AuE,eF0]at gl;rw[if_pos rfl,eF,BL];revert gl gj;generalize D7 5 [] ((FG t.lf e).map λr=>Cp r.1 r.2)=Y;generalize (FG t.lf e).map (λr=>Cp r.1 r.2)=fs;intro gl gj;obtain⟨Yk,Yt,Ye,Ys⟩:=Y;obtain⟨ps,kz⟩:=t;simp only[GU,eF,eN]at gd gj ⊢;refine Aw Kl HY (Vj ..) ?_;refine Aq ?_ h0;refine AO ?_ h2;refine BY ?_;refine Aa gd ?_;simp only[ND,DK,Ab];rw[Ao];refine Aa gl ?_;simp only[ND,DK,Ab];rw[show AtG (0+fs.length*6) (Ag eF fs).length=Δ from AL Cf _ (by omega)];refine Ac ?_;rw[Bp Cf _ rfl];refine Ac ?_;refine Aa gj ?_;rfl
  rw[if_neg h2]
  by_cases h3:kd=3
  .rw[if_pos h3]
   rw[if_neg (by omega),if_pos h3]at gks
   cases ks with
   |nil=>
    rw[eF,BL];refine Aw Kl HY (Vj ..) ?_;refine Aq ?_ h0;refine Aq ?_ h2;refine AO ?_ h3;refine Ai ?_ (by decide);refine Aa (Dd Ko d) ?_
    cases d<;>rfl
   |cons y r=>
    have gf:=gks y (AtL ..) (!d);rw[Mq,eF,BL];revert gf;generalize CO y (!d)=Y;intro gf;obtain⟨Yk,Yt,Ye,Ys⟩:=Y;refine Aw Kl HY (Vj ..) ?_;refine Aq ?_ h0;refine Aq ?_ h2;refine AO ?_ h3;rw[Ao];refine Al ?_ (by rw[γ];omega);rw[Ax (x:=y) (show (y::r)[0]? = Θ y from rfl)];obtain⟨yk,yt,ye,ys⟩:=y;simp only[eF,eN,ND,DK,Ab]at gf ⊢
    cases d with
    |false=>
     refine Ac ?_;refine Aa gf ?_;rfl
    |true=>
     refine BY ?_;refine Aa gf ?_;rfl
  rw[if_neg h3]
  by_cases h4:kd=4\/kd=5
  .rw[if_pos h4]
   rw[if_pos h4]at gks hkl;have gfs:=Abl Kl (d:=d) (ks:=ks) hkl (λx hx=>gks x hx d);have htz:CF (Fg ks d)<=1000000:=by
    have:=IL ks d;rw[Ke,if_pos h4]at hc;omega
   have gj:=Xb Kl Ko (k:=if d=Δ then 9-kd else kd) (by split<;>omega) (Fg ks d) htz;rw[eF,BL];revert gfs gj;generalize D7 (if d=Δ then 9-kd else kd) [] (Fg ks d)=Y;generalize Fg ks d=fs;intro gfs gj;obtain⟨Yk,Yt,Ye,Ys⟩:=Y;simp only[eF,eN]at gj ⊢;refine Aw Kl HY (Vj ..) ?_;refine Aq ?_ h0;refine Aq ?_ h2;refine Aq ?_ h3;rcases h4 with rfl|rfl
   .refine AO ?_ rfl
    cases d with
    |false=>
     refine BY ?_;refine Aa gfs ?_;simp only[ND,DK,Ab];refine Aa gj ?_;rfl
    |true=>
     refine Ac ?_;refine Aa gfs ?_;simp only[ND,DK,Ab];refine Aa gj ?_;rfl
   .refine Aq ?_ (by decide)
    refine AO ?_ rfl
    cases d with
    |false=>
     refine BY ?_;refine Aa gfs ?_;simp only[ND,DK,Ab];refine Aa gj ?_;rfl
    |true=>
     refine Ac ?_;refine Aa gfs ?_;simp only[ND,DK,Ab];refine Aa gj ?_;rfl
  .rw[if_neg h4,eF,BL]
   refine Aw Kl HY (Vj ..) ?_;refine Aq ?_ h0;refine Aq ?_ h2;refine Aq ?_ h3;refine Aq ?_ (λh=>h4 (.inl h));refine Aq ?_ (λh=>h4 (.inr h));refine Aa (Dd Ko d) ?_
   cases d<;>rfl
theorem AbX{n k:Nat}(hn:n<=250)(hk1:1<=k)(hk:k<=700){x:Fm}(hx:FC n k x)(hc:3*Ke x<=1000000):D.ask (.fn 39) [.agg (eF x)] []=Θ (.agg (eF (CO x Φ)),[]):=by
 have g:=Ab8 Kl Ko Z W T Ktt Kt Kf Ks C Kd hn hk1 hk _ x (AuT _) hx hc Φ;revert g;generalize CO x Φ=Y;intro g;obtain⟨Yk,Yt,Ye,Ys⟩:=Y;obtain⟨xk,xt,xe,xs⟩:=x;refine Aw Kl Apc (e39 ..) ?_;refine Aa g ?_;rfl
end
section
open Go.RowKit
variable (A:Ar) (D:Orc)
end

section
open Go.RowKit
variable (A:Ar) (D:Orc)
end

section
open Go.RowKit
variable (A:Ar) (D:Orc)
end
def PK(h:Fm->Bool):List Fm->Nat->AV
 |[],_=>.tup [iv 0]
 |y::r,i=>if h y then .tup [bv Δ,iv (i:Int)] else PK h r (i+1)
def PJ(h:Fm->Bool):List Fm->Nat->Int
 |[],_=>-1
 |y::r,i=>if h y then(i:Int) else PJ h r (i+1)
theorem KA(h:Fm->Bool):∀(l:List Fm) (i:Nat),(PK h l i=.tup [iv 0]/\PJ h l i=-1)\/∃ j:Nat,PK h l i=.tup [bv Δ,iv (j:Int)]/\PJ h l i=(j:Int)
 |[],i=>.inl ⟨rfl,rfl⟩
 |y::r,i=>by
  rw[PK,PJ]
  by_cases e:h y=Δ
  .rw[if_pos e,if_pos e];exact .inr ⟨i,rfl,rfl⟩
  .rw[if_neg e,if_neg e];exact KA h r (i+1)
theorem OA(h:Fm->Bool):∀(l:List Fm) (i:Nat),decide (0<=PJ h l i)=l.any h
 |[],i=>rfl
 |y::r,i=>by
  rw[PJ,Avb]
  by_cases e:h y=Δ
  .rw[if_pos e,e,Bool.true_or]
   exact decide_eq_true (by omega)
  .rw[if_neg e,Bool.eq_false_iff.2 e,AvH]
   exact OA h r (i+1)
theorem Ow(f:Int->Int):∀ l,LC f l=l.any (Bl f)
 |[]=>rfl
 |x::r=>by rw[LC,Ow f r,Avb]
theorem Ov(f:Int->Int):∀ l,LA f l = !l.any λx=>!Bl f x
 |[]=>rfl
 |x::r=>by rw[LA,Ov f r,Avb,Bool.not_or,Bool.not_not]
abbrev bkL(vals:List (List AV)):ABlk:=⟨[.ls vals],Δ,Φ⟩
abbrev bkH:ABlk:=⟨[.fn (.func 101) [] [.ptr 1 0]],Δ,Φ⟩
section
variable {D:Orc} (Kl:Knows As X4 D)
include Kl
theorem AlN(vals:List (List AV))(h:Fm->Bool)(ks:List Fm)(hl:ks.length<=1000000)(g:∀ y∈ks,D.ask (.fn 101) [.agg (eF y),.ptr 0 0] [bkL vals]=Θ (bv (h y),[.keep])):∀(m i:Nat),ks.length-i=m->i<=ks.length->
  D.ask (.lp 171 0) [.ls (ks.map eF),.fn (.func 101) [] [.ptr 0 0],iv (ks.length:Int),iv (i:Int)] [bkL vals]=Θ (PK h (ks.drop i) i,[.keep]):=by
 intro m
 induction m with
 |zero=>
  intro i hm hi;rw[AtM (by omega),PK];refine Ay Kl Oe (WP ..) ?_;exact DL (by omega)
 |succ m ih=>
  intro i hm hi;have hlt:i<ks.length:=by omega
  rw[ε hlt,PK];refine Ay Kl Oe (WP ..) ?_;refine Al ?_;rw[Au,Ax (ξ hlt)];have gy:=g ks[i] (At1 hlt);revert gy;generalize ks[i]=y;obtain⟨yk,yt,ye,ys⟩:=y;intro gy;generalize hb:h (.mk yk yt ye ys)=b at gy;simp only[eF,eN,ND,DK,Ab]at gy ⊢;refine Aa gy ?_;simp only[ND,DK,Ab]
  cases b with
  |true=>rfl
  |false=>
   refine BY ?_;rw[BQ (by omega),if_neg (by decide)];refine Aa (ih (i+1) (by omega) (by omega)) ?_;rcases KA h (ks.drop (i+1)) (i+1) with⟨e,_⟩|⟨j,e,_⟩ <;>
   .rw[e];rfl
theorem AlO(vals:List (List AV))(h:Fm->Bool)(ks:List Fm)(hl:ks.length<=1000000)(g:∀ y∈ks,D.ask (.fn 101) [.agg (eF y),.ptr 0 0] [bkL vals]=Θ (bv (h y),[.keep])):D.ask (.fn 102) [.ls (ks.map eF),.fn (.func 101) [] [.ptr 0 0]] [bkL vals]=Θ (bv (ks.any h),[.keep]):=by
 have gl:=AlN Kl vals h ks hl g _ 0 rfl (by omega);rw[Aty]at gl;have gi:D.ask (.fn 171) [.ls (ks.map eF),.fn (.func 101) [] [.ptr 0 0]] [bkL vals]=Θ (iv (PJ h ks 0),[.keep]):=by
  refine Aw Kl Oe (AoB ..) ?_;rw[Ao];refine Aa gl ?_;rcases KA h ks 0 with⟨e,e'⟩|⟨j,e,e'⟩ <;>
  .rw[e,e'];rfl
 refine Aw Kl AbB (Aow ..) ?_;refine Aa gi ?_;simp only[ND,DK,Ab];rw[←OA h ks 0]
 by_cases e:0<=PJ h ks 0
 .rw[decide_eq_true e];exact NN e
 .rw[decide_eq_false e];exact NM e
theorem AlP(vals:List (List AV))(h:Fm->Bool)(ks:List Fm)(hl:ks.length<=1000000)(g:∀ y∈ks,D.ask (.fn 103) [.agg (eF y),.ptr 0 0] [bkH,bkL vals]=Θ (bv (h y),[.keep,.keep])):∀(m i:Nat),ks.length-i=m->i<=ks.length->
  D.ask (.lp 171 0) [.ls (ks.map eF),.fn (.func 103) [] [.ptr 0 0],iv (ks.length:Int),iv (i:Int)] [bkH,bkL vals]=Θ (PK h (ks.drop i) i,[.keep,.keep]):=by
 intro m
 induction m with
 |zero=>
  intro i hm hi;rw[AtM (by omega),PK];refine Ay Kl Of (WQ ..) ?_;exact DL (by omega)
 |succ m ih=>
  intro i hm hi;have hlt:i<ks.length:=by omega
  rw[ε hlt,PK];refine Ay Kl Of (WQ ..) ?_;refine Al ?_;rw[Au,Ax (ξ hlt)];have gy:=g ks[i] (At1 hlt);revert gy;generalize ks[i]=y;obtain⟨yk,yt,ye,ys⟩:=y;intro gy;generalize hb:h (.mk yk yt ye ys)=b at gy;simp only[eF,eN,ND,DK,Ab]at gy ⊢;refine Aa gy ?_;simp only[ND,DK,Ab]
  cases b with
  |true=>rfl
  |false=>
   refine BY ?_;rw[BQ (by omega),if_neg (by decide)];refine Aa (ih (i+1) (by omega) (by omega)) ?_;rcases KA h (ks.drop (i+1)) (i+1) with⟨e,_⟩|⟨j,e,_⟩ <;>
   .rw[e];rfl
theorem AlQ(vals:List (List AV))(h:Fm->Bool)(ks:List Fm)(hl:ks.length<=1000000)(g:∀ y∈ks,D.ask (.fn 103) [.agg (eF y),.ptr 0 0] [bkH,bkL vals]=Θ (bv (h y),[.keep,.keep])):D.ask (.fn 102) [.ls (ks.map eF),.fn (.func 103) [] [.ptr 0 0]] [bkH,bkL vals]=Θ (bv (ks.any h),[.keep,.keep]):=by
 have gl:=AlP Kl vals h ks hl g _ 0 rfl (by omega);rw[Aty]at gl;have gi:D.ask (.fn 171) [.ls (ks.map eF),.fn (.func 103) [] [.ptr 0 0]] [bkH,bkL vals]=Θ (iv (PJ h ks 0),[.keep,.keep]):=by
  refine Aw Kl Of (AoC ..) ?_;rw[Ao];refine Aa gl ?_;rcases KA h ks 0 with⟨e,e'⟩|⟨j,e,e'⟩ <;>
  .rw[e,e'];rfl
 refine Aw Kl AbC (Aox ..) ?_;refine Aa gi ?_;simp only[ND,DK,Ab];rw[←OA h ks 0]
 by_cases e:0<=PJ h ks 0
 .rw[decide_eq_true e];exact NN e
 .rw[decide_eq_false e];exact NM e
theorem Ly(vals:List (List AV))(b:Bool)(y:Fm)(g:D.ask (.fn 36) [.agg (eF y),.ls vals] []=Θ (bv b,[])):D.ask (.fn 101) [.agg (eF y),.ptr 0 0] [bkL vals]=Θ (bv b,[.keep]):=by
 obtain⟨yk,yt,ye,ys⟩:=y;simp only[eF,eN]at g ⊢;refine Aw Kl AjQ (AqS ..) ?_;refine Aa g ?_
 cases b<;>rfl
theorem YR(vals:List (List AV))(b:Bool)(y:Fm)(g:D.ask (.fn 36) [.agg (eF y),.ls vals] []=Θ (bv b,[])):D.ask (.fn 103) [.agg (eF y),.ptr 0 0] [bkH,bkL vals]=Θ (bv (!b),[.keep,.keep]):=by
 have g1:=Ly Kl vals b y g;obtain⟨yk,yt,ye,ys⟩:=y;simp only[eF,eN]at g1 ⊢;refine Aw Kl AjR (AqT ..) ?_;refine Aa g1 ?_
 cases b<;>rfl
variable (Kv:Knows As UE D) (Kt:Knows As GD D) (Z:ZF D)
include Kv Kt Z
theorem Qo{n k j:Nat}(hn:n<=1000000)(vals:List Zi)(hv:∀ z∈vals,Lz j z)(hv24:∀ z∈vals,z.abs.length<24)(hl:vals.length<=1000000)(hk:k+n+j+1+vals.length<=400000000):∀(N:Nat) (x:Fm),SizeOf.sizeOf x<N->FC n k x->
  D.ask (.fn 36) [.agg (eF x),.ls (vals.map eZ)] []=Θ (bv (Bl (CT (vals.map zv)) x),[]):=by
 intro N
 induction N with
 |zero=>intro x h;omega
 |succ N ih=>
  intro x hN hx;obtain⟨ht,hkl,h⟩:=hx;rename_i kd t e ks;have gks:∀ y∈Gl (.mk kd t e ks),D.ask (.fn 36) [.agg (eF y),.ls (vals.map eZ)] []=Θ (bv (Bl (CT (vals.map zv)) y),[]):=λy hy=>ih y (by have:=EI (k:=kd) (t:=t) (e:=e) (LK hy);omega) (h y hy)
  rw[Gl]at hkl gks;rw[Bl]
  by_cases h0:kd=0
  .rw[if_pos h0,eF,BL]
   exact Kl.fn' Qj _ rfl ((Aa8 ..).trans (HD h0))
  rw[if_neg h0]
  by_cases h2:kd=2
  .have gr:=Uh Kv Kt Z (ht h2) hn e vals hv hv24 hl hk
   rw[if_pos h2,eF,BL];generalize Fz (t.lf.val (CT (vals.map zv))) e=b at gr;obtain⟨ps,kz⟩:=t;simp only[GU,eN]at gr ⊢;refine Aw Kl Qj (Aa8 ..) ?_;refine Aq ?_ h0;refine AO ?_ h2;refine Aa gr ?_
   cases b<;>rfl
  rw[if_neg h2]
  by_cases h3:kd=3
  .rw[if_pos h3]
   rw[if_neg (by omega),if_pos h3]at gks;rw[eF,BL];refine Aw Kl Qj (Aa8 ..) ?_;refine Aq ?_ h0;refine Aq ?_ h2;refine AO ?_ h3;rw[Ao]
   cases ks with
   |nil=>rfl
   |cons y r=>
    have gy:=Ly Kl _ _ y (gks y (by simp));refine Al ?_ (by rw[γ];omega);rw[Ax (x:=y) (show (y::r)[0]? = Θ y from rfl),H8];generalize Bl (CT (vals.map zv)) y=b at gy;obtain⟨yk,yt,ye,ys⟩:=y;simp only[eF,eN,ND,DK,Ab]at gy ⊢;refine Aa gy ?_
    cases b<;>rfl
  rw[if_neg h3]
  by_cases h4:kd=4
  .rw[if_pos h4]
   rw[if_pos (.inl h4)]at gks hkl;have gc:=AlQ Kl (vals.map eZ) (λx=>!Bl (CT (vals.map zv)) x) ks hkl λy hy=>YR Kl _ _ y (gks y hy)
   rw[Ov];generalize ks.any (λx=>!Bl (CT (vals.map zv)) x)=b at gc;rw[eF,BL];refine Aw Kl Ako (ArM ..) ?_;refine Aq ?_ h0;refine Aq ?_ h2;refine Aq ?_ h3;refine AO ?_ h4;refine Aa gc ?_
   cases b<;>rfl
  rw[if_neg h4]
  by_cases h5:kd=5
  .rw[if_pos h5]
   rw[if_pos (.inr h5)]at gks hkl;have gc:=AlO Kl (vals.map eZ) (Bl (CT (vals.map zv))) ks hkl λy hy=>Ly Kl _ _ y (gks y hy)
   rw[Ow];generalize ks.any (Bl (CT (vals.map zv)))=b at gc;rw[eF,BL];refine Aw Kl Qj (Aa8 ..) ?_;refine Aq ?_ h0;refine Aq ?_ h2;refine Aq ?_ h3;refine Aq ?_ h4;refine AO ?_ h5;refine Aa gc ?_
   cases b<;>rfl
  rw[if_neg h5,eF,BL];refine Aw Kl Qj (Aa8 ..) ?_;refine Aq ?_ h0;refine Aq ?_ h2;refine Aq ?_ h3;refine Aq ?_ h4;exact Jt h5
end
theorem CanFs.mem:∀{l:List Fm},CanFs l->∀ x∈l,CanF x
 |_::_,.cons h hr,x,hx=>by
  rcases AtC.1 hx with rfl|hx
  .exact h
  .exact hr.mem x hx
theorem CanF.kids{x:Fm}(h:CanF x):∀ y∈x.kids,CanF y:=by
 cases h with
 |tru b=>intro y hy;cases b<;>cases hy
 |atom l e h=>intro y hy;cases hy
 |no x h=>intro y hy;rcases Aum.1 hy with rfl;exact h
 |and l h=>exact h.mem
 |or l h=>exact h.mem
 |no0=>intro y hy;cases hy
theorem CanF.head{x:Fm}(h:CanF x):(x.kind=2/\x.kids=[]/\∃ l:Lf,l.pln=l/\x.tm=l.tm)\/(x.kind≠2/\x.tm=Tm0/\x.eq=Φ):=by
 cases h with
 |tru b=>exact .inr ⟨by cases b<;>decide,rfl,rfl⟩
 |atom l e h=>exact .inl ⟨rfl,rfl,l,h,rfl⟩
 |no x h=>exact .inr ⟨by show (3:Int)≠2;decide,rfl,rfl⟩
 |and l h=>exact .inr ⟨by show (4:Int)≠2;decide,rfl,rfl⟩
 |or l h=>exact .inr ⟨by show (5:Int)≠2;decide,rfl,rfl⟩
 |no0=>exact .inr ⟨by show (3:Int)≠2;decide,rfl,rfl⟩
section
open Go.RowKit
variable (A:Ar) (D:Orc)
end

theorem FB.kids{n k:Nat}{x:Fm}(h:FB n k x):x.kids.length<=1000000/\(∀ y∈x.kids,FB n k y)/\TmB n k x.tm:=by
 cases h with
 |mk ht hl h=>exact⟨hl,h,ht⟩

section
open Go.RowKit
variable (A:Ar) (D:Orc)
end
theorem Adf(a b:Int):Ck (a-b)=FX a b:=by
 unfold Ck FX
 repeat' split
 all_goals omega
section
variable {D:Orc} (Kl:Knows As Sr D) (F:RF D)
include Kl F
theorem Z1{n k j:Nat}(ps:List Pt)(hl:ps.length<=n)(hn:n<=1000000)(hz:∀ p∈ps,Lz k p.z)(vals:List Zi)(hv:∀ z∈vals,Lz j z)(hvl:vals.length<=1000000)(hk:k+j+1+n<=400000000)(y0:Bool)(y1:List (List AV)):∀(m i:Nat) (z:Zi),ps.length-i=m->i<=ps.length->Lz (k+j+1+i) z->
  ∃ z':Zi,D.ask (.lp 52 0) [.ls (vals.map eZ),.ptr 0 0,.ptr 1 0,.ls (ps.map eP),iv (ps.length:Int),iv (i:Int)] [bk [bv y0,.ls y1],bk (eZ z)]
   = Θ (.tup [iv 0,.ptr 0 0,.ptr 1 0],[.set (bk [bv y0,.ls y1]),.set (bk (eZ z'))])/\zv z'=zv z+Cz (CT (vals.map zv)) ((ps.drop i).map pv)/\Lz (k+j+1+ps.length) z':=by
 intro m
 induction m with
 |zero=>
  intro i z hm hi ha;obtain⟨zn,za⟩:=z;refine⟨⟨zn,za⟩,?_,?_,ha.mono (by omega)⟩
  .refine Ay Kl VI (WX ..) ?_
   exact Ai rfl
  .rw[AtM (by omega),AuY,Cz,Int.add_zero]
 |succ m ih=>
  intro i z hm hi ha;have h1:i<ps.length:=by omega
  have hn1:∀ kk,BC (ps.map eP) i kk=kk (eP ps[i]):=λkk=>Ax (ξ h1) kk
  have hzp:=hz ps[i] (At1 h1);rw[ε h1,At5,Cz];revert hn1 hzp;generalize ps[i]=p;intro hn1 hzp;have skip:CT (vals.map zv) (pv p).1=0->∃ z':Zi,D.ask (.lp 52 0) [.ls (vals.map eZ),.ptr 0 0,.ptr 1 0,.ls (ps.map eP),iv (ps.length:Int),iv ((i+1:Nat):Int)] [bk [bv y0,.ls y1],bk (eZ z)]
   = Θ (.tup [iv 0,.ptr 0 0,.ptr 1 0],[.set (bk [bv y0,.ls y1]),.set (bk (eZ z'))])/\zv z'=zv z+((pv p).2*CT (vals.map zv) (pv p).1+Cz (CT (vals.map zv)) ((ps.drop (i+1)).map pv))/\Lz (k+j+1+ps.length) z':=λh0=>by
   obtain⟨z',g,h2,h3⟩:=ih (i+1) z (by omega) (by omega) (ha.mono (by omega));refine⟨z',g,?_,h3⟩;rw[h2,h0,Int.mul_zero,Int.zero_add]
  by_cases h0:0<=p.v
  .by_cases h2:p.v<(vals.length:Int)
   .clear skip
    obtain⟨v,hvv⟩:=Int.eq_ofNat_of_zero_le h0;have h3:v<vals.length:=by omega
    have hn2:∀ kk,BC (vals.map eZ) v kk=kk (eZ vals[v]):=λkk=>Ax (ξ h3) kk
    have hx:=hv vals[v] (At1 h3);have ev:CT (vals.map zv) (pv p).1=zv vals[v]:=by
     show CT _ p.v=_
     rw[hvv,Pr,List.getD_eq_getElem?_getD,List.getElem?_map,ξ h3];rfl
    rw[ev];revert hn2 hx;generalize vals[v]=x;intro hn2 hx;have gm:=F.mul p.z x (hzp.mono (by omega)) (hx.mono (by omega));have hpr:InB (k+j) (zv p.z*zv x):=InB.mul hzp.inb hx.inb;have ga:=F.add z (AD (zv p.z*zv x)) (ha.mono (by omega)) (hpr.lz.mono (by omega));rw[Bm]at ga;have hm2:ps.length-(i+1)=m:=by omega
    have hl2:Lz (k+j+1+(i+1)) (AD (zv z+zv p.z*zv x)):=(InB.add ha.inb (hpr.mono (show k+j<=k+j+1+i by omega))).lz;obtain⟨z',g,h4,h5⟩:=ih (i+1) (AD (zv z+zv p.z*zv x)) hm2 h1 hl2;refine⟨z',?_,?_,h5⟩
    .obtain⟨xn,xa⟩:=x
     obtain⟨zn,za⟩:=z;refine Ay Kl VI (WX ..) ?_;refine Al ?_;rw[Au,hn1];simp only[eP,eN,ND,DK,Ab];rw[Ao,BQ (by omega)];refine BV ?_ h0;refine Al ?_ h2;rw[hvv,Au,hn2];simp only[eZ,eN,ND,DK,Ab]at gm ga g ⊢;refine Aa gm ?_;simp only[ND,DK,Ab];refine Aa ga ?_;simp only[ND,DK,Ab];refine Aa g ?_;rfl
    .rw[h4,Bm]
     show _=zv z+(zv p.z*zv x+_)
     omega
   .obtain⟨z',g,h4,h5⟩:=skip (Pq _ (by rw[AtP];show _<=p.v;omega))
    refine⟨z',?_,h4,h5⟩;obtain⟨zn,za⟩:=z;refine Ay Kl VI (WX ..) ?_;refine Al ?_;rw[Au,hn1];simp only[eP,eN,ND,DK,Ab];rw[Ao,BQ (by omega)];refine BV ?_ h0;refine Ai ?_ h2;simp only[eZ,eN]at g ⊢;refine Aa g ?_;rfl
  .obtain⟨z',g,h4,h5⟩:=skip (Ld _ _ (by show p.v<0;omega))
   refine⟨z',?_,h4,h5⟩;obtain⟨zn,za⟩:=z;refine Ay Kl VI (WX ..) ?_;refine Al ?_;rw[Au,hn1];simp only[eP,eN,ND,DK,Ab];rw[Ao,BQ (by omega)];refine Cn ?_ h0;simp only[eZ,eN]at g ⊢;refine Aa g ?_;rfl
theorem Q2{n k j:Nat}{t:Tm}(ht:TmB n k t)(hn:n<=1000000)(vals:List Zi)(hv:∀ z∈vals,Lz j z)(hvl:vals.length<=1000000)(hk:k+j+1+n<=400000000):∃ z:Zi,D.ask (.fn 52) [.agg (eT t),.ls (vals.map eZ)] []=Θ (.agg (eZ z),[])/\zv z=t.lf.val (CT (vals.map zv))/\Lz (k+j+1+n) z:=by
 obtain⟨ps,kz⟩:=t;have hl:ps.length<=n:=ht.len;obtain⟨z,g,h1,h2⟩:=Z1 Kl F ps hl hn ht.ps vals hv hvl hk Φ [] _ 0 kz rfl (by omega) (ht.k.mono (by omega));rw[Aty]at h1;refine⟨z,?_,?_,h2.mono (by omega)⟩
 .refine Aw Kl VI (e52 ..) ?_
  rw[Ao];refine Aa g ?_;obtain⟨zn,za⟩:=z;rfl
 .rw[h1]
  unfold Lf.val Tm.lf;exact Int.add_comm _ _
omit F in
theorem Aet(t u:Tm)(vals:List (List AV))(W:List Bool)(hW:W.length=6)(g:∀ i (hi:i<W.length),∃ X Y:Fm,D.ask (.fn 54) [iv (i:Int),.agg (eT t),.agg (eT u)] []=Θ (.agg (eF X),[])/\D.ask (.fn 36) [.agg (eF X),.ls vals] []=Θ (bv W[i],[])/\D.ask (.fn 39) [.agg (eF X)] []=Θ (.agg (eF Y),[])/\D.ask (.fn 36) [.agg (eF Y),.ls vals] []=Θ (bv W[i],[])):∀(m i:Nat),6-i=m->i<=6->
  D.ask (.lp 14 0) [.ls vals,.ptr 0 0,.ptr 1 0,.sl 2 0 6 1,iv 6,iv (i:Int)] [bk (eT t),bk (eT u),δ (W.map bv) Δ Δ]=Θ (.tup [iv 0,.ls vals,.ptr 0 0,.ptr 1 0],[.set (bk (eT t)),.set (bk (eT u)),.del]):=by
 intro m
 induction m with
 |zero=>
  intro i hm hi;refine Ay Kl AbE (AjD ..) ?_;exact Ai rfl
 |succ m ih=>
  intro i hm hi;have h1:i<W.length:=by omega
  have ih:=ih (i+1) (by omega) (by omega);have hrd:∀ kk,EW (W.map bv) (0+i*1) 1 kk=kk [bv W[i]]:=λkk=>by
   unfold EW;rw[show AtG (0+i*1+1) (W.map bv).length=Δ by rw[AtP];simp;omega,show 0+i*1=i by omega,←List.map_drop,ε h1];rfl
  obtain⟨⟨Xk,Xt,Xe,Xs⟩,⟨Yk,Yt,Ye,Ys⟩,g1,g2,g3,g4⟩:=g i h1;revert hrd g2 g4;generalize W[i]=b;intro hrd g2 g4;refine Ay Kl AbE (AjD ..) ?_;refine Al ?_;rw[Au,show Nat.blt i 6=Δ from By (by omega)];refine Ac ?_;rw[hrd];simp only[eF,eT,eN,ND,DK,Ab]at g1 g2 g3 g4 ih ⊢;refine Aa g1 ?_;simp only[ND,DK,Ab];refine Aa g2 ?_;simp only[ND,DK,Ab];rw[BQ (by omega)]
  cases b with
  |true=>
   refine Ac ?_;refine BY ?_;refine Aa g1 ?_;simp only[ND,DK,Ab];refine Aa g3 ?_;simp only[ND,DK,Ab];refine Aa g4 ?_;simp only[ND,DK,Ab];refine BY ?_;refine Aa ih ?_;rfl
  |false=>
   refine BY ?_;refine BY ?_;refine Aa g1 ?_;simp only[ND,DK,Ab];refine Aa g3 ?_;simp only[ND,DK,Ab];refine Aa g4 ?_;simp only[ND,DK,Ab];refine BY ?_;refine Aa ih ?_;rfl
end
theorem Aep{l r:Lf}(hl:LB 20 8 l)(hr:LB 20 8 r)(op:Int):FC 40 300 (Rq op l r):=by
 have s1:LB 40 98 (l.sub r):=(LB.sub hl hr).mono (by omega) (by omega);have s2:LB 40 98 (r.sub l):=(LB.sub hr hl).mono (by omega) (by omega);have s3:LB 40 300 ((r.sub l).sub (.num 1)):=(LB.sub s2 (Nh 98 (by omega))).mono (by omega) (by omega);have s4:LB 40 300 ((l.sub r).sub (.num 1)):=(LB.sub s1 (Nh 98 (by omega))).mono (by omega) (by omega);have at_:∀{x:Lf} {e:Bool},LB 40 300 x->FB 40 300 (DY x e):=λh=>SN h _
 have hh:FB 40 300 (Rq op l r):=by
  unfold Rq
  repeat' split
  .exact at_ (s1.mono (η _) (by omega))
  .exact .mk (K7 _ _) (by simp) λy hy=>by
    rw[Aum]at hy;rw[hy];exact at_ (s1.mono (η _) (by omega))
  .exact at_ s3
  .exact at_ (s2.mono (η _) (by omega))
  .exact at_ s4
  .exact at_ (s1.mono (η _) (by omega))
  .exact Md _ _ _
 exact FB.fc _ _ (AuT _) hh
theorem AaA(l r:Lf)(op:Int):Ke (Rq op l r)<=2:=by
 unfold Rq
 repeat' split
 .exact(by decide:1<=2)
 .exact(by decide:2<=2)
 .exact(by decide:1<=2)
 .exact(by decide:1<=2)
 .exact(by decide:1<=2)
 .exact(by decide:1<=2)
 .exact(by decide:1<=2)
section
variable {D:Orc} (Kf:Knows As X2 D) (Ko:Knows As UD D) (Z:ZF D) (W:ZdF D) (T:TiF D) (Ktt:Knows As UI D) (Kt:Knows As GD D) (Ktf:Knows As MI D) (Ks:Knows As EQ D) (C:PartF D) (Kd:Knows As UF D) (Kh:Knows As UG D) (F:RF D) (Kw:Knows As X3 D) (Klw:Knows As X4 D) (Kv:Knows As UE D) (Kl:Knows As Sr D)
include Kf Ko Z W T Ktt Kt Ktf Ks C Kd Kh F Kw Klw Kv Kl
theorem PM(S:D.ask (.fn 34) [] []=Θ (bv Δ,[]))(t u:Tm)(ht:LmT t)(hu:LmT u)(vals:List Zi)(hv:∀ z∈vals,Limbs z.abs)(hl:vals.length<4611686018427387904):D.ask (.fn 14) [.agg (eT t),.agg (eT u),.ls (vals.map eZ)] []=Θ (bv Δ,[]):=by
 have gf:=Al1 Kw [(t,Φ),(u,Φ)] 2 (8:Nat) (by omega);have gv:=AeG Kh vals 20 8 (by omega) hl;have body:OT ((8:Nat):Int) (t,Φ)=Δ->OT ((8:Nat):Int) (u,Φ)=Δ->(vals.length<=20/\∀ z∈vals,z.abs.length<=8)->∃(x y:Zi) (a b:Int),D.ask (.fn 52) [.agg (eT t),.ls (vals.map eZ)] []=Θ (.agg (eZ x),[])/\D.ask (.fn 52) [.agg (eT u),.ls (vals.map eZ)] []=Θ (.agg (eZ y),[]) ∧
   D.ask (.fn 53) [.agg (eZ x),.agg (eZ y)] []=Θ (iv (FX a b),[])/\∀ op:Int,∃ X Y:Fm,D.ask (.fn 54) [iv op,.agg (eT t),.agg (eT u)] []=Θ (.agg (eF X),[])/\D.ask (.fn 36) [.agg (eF X),.ls (vals.map eZ)] []=Θ (bv (Dp op a b),[])/\D.ask (.fn 39) [.agg (eF X)] []=Θ (.agg (eF Y),[])/\D.ask (.fn 36) [.agg (eF Y),.ls (vals.map eZ)] []=Θ (bv (Dp op a b),[]):=λh1 h2 h3=>by
  have ht:=ht.tmb h1;have hu:=hu.tmb h2;have hz:∀ z∈vals,Lz 8 z:=λz hz=>⟨hv z hz,h3.2 z hz⟩
  have h24:∀ z∈vals,z.abs.length<24:=λz hz=>by have:=h3.2 z hz;omega
  obtain⟨x,g1,e1,l1⟩:=Q2 Kl F ht (by omega) vals hz (by omega) (by omega);obtain⟨y,g2,e2,l2⟩:=Q2 Kl F hu (by omega) vals hz (by omega) (by omega);have g3:=F.cmp x y (l1.mono (by omega)) (l2.mono (by omega));rw[Adf,e1,e2]at g3;refine⟨x,y,_,_,g1,g2,g3,λop=>?_⟩;have hf:∀ v,v<0->CT (vals.map zv) v=0:=Ld _;have c1:=Aeq Kt Ktf Ks Z C Ko (ht.mono (show 20<=64 by omega) (show 8<=5000 by omega)) (hu.mono (show 20<=64 by omega) (show 8<=5000 by omega)) op;have fc:=Aep ht.lb hu.lb op;have ct:=AaA t.lf u.lf op;have c2:=Qo Klw Kv Kt Z (n:=40) (k:=300) (by omega) vals hz h24 (by omega) (by omega) _ _ (AuT _) fc;have c3:=AbX Kf Ko Z W T Ktt Kt Ktf Ks C Kd (n:=40) (k:=300) (by omega) (by omega) (by omega) fc (by omega);have c4:=Qo Klw Kv Kt Z (n:=40) (k:=2*300+10*40+10) (by omega) vals hz h24 (by omega) (by omega) _ _ (AuT _) (FB.fc _ _ (AuT _) (AeH (n:=40) (k:=300) (by omega) _ _ (AuT _) fc (by omega) Φ));rw[Ql hf]at c2;rw[JD hf,if_neg (by decide),Ql hf]at c4;exact⟨_,_,c1,c2,c3,c4⟩
 have fin:∀(a b:Int) (W:List Bool),W=[Dp 0 a b,Dp 1 a b,Dp 2 a b,Dp 3 a b,Dp 4 a b,Dp 5 a b]->∀ i (hi:i<W.length),Dp (i:Int) a b=W[i]:=λa b W h i hi=>by
  subst h;have:i=0\/i=1\/i=2\/i=3\/i=4\/i=5:=by simp at hi;omega
  rcases this with rfl|rfl|rfl|rfl|rfl|rfl<;>rfl
 rw[At5,At5,AuY,Ava,Ava,List.all_nil,Bool.and_true,show (decide ([(t,Φ),(u,Φ)].length<=2))=Δ from rfl,Avy]at gf;obtain⟨ps,kz⟩:=t;obtain⟨qs,jz⟩:=u;simp only[GU,eN]at gf;refine Aw Kl AbE (e14 ..) ?_;refine Aa S ?_;simp only[ND,DK,Ab];refine Aa gf ?_;simp only[ND,DK,Ab]
 cases h1:OT ((8:Nat):Int) (⟨ps,kz⟩,Φ) with
 |false=>rfl
 |true=>
  cases h2:OT ((8:Nat):Int) (⟨qs,jz⟩,Φ) with
  |false=>rfl
  |true=>
   refine Ac ?_;refine Aa gv ?_;simp only[ND,DK,Ab]
   by_cases h3:vals.length<=20/\∀ z∈vals,z.abs.length<=8
   .rw[decide_eq_true h3]
    refine Ac ?_;obtain⟨⟨xn,xa⟩,⟨yn,ya⟩,a,b,g1,g2,g3,g4⟩:=body h1 h2 h3;have gl:=λ(W:List Bool) (hW:W.length=6) (h:W=[Dp 0 a b,Dp 1 a b,Dp 2 a b,Dp 3 a b,Dp 4 a b,Dp 5 a b])=>Aet Kl ⟨ps,kz⟩ ⟨qs,jz⟩ (vals.map eZ) W hW (λi hi=>by
     obtain⟨X,Y,c1,c2,c3,c4⟩:=g4 (i:Int);rw[fin a b W h i hi]at c2 c4;exact⟨X,Y,c1,c2,c3,c4⟩) _ 0 rfl (by omega)
    obtain⟨⟨Xk,Xt,Xe,Xs⟩,_,c1,c2,_,_⟩:=g4 6;obtain⟨⟨Yk,Yt,Ye,Ys⟩,_,d1,d2,_,_⟩:=g4 (-1);rw[show Dp 6 a b=Φ from rfl]at c2;rw[show Dp (-1) a b=Φ from rfl]at d2;simp only[eT,eZ,eF,eN]at g1 g2 g3 c1 c2 d1 d2 gl;refine Aa g1 ?_;simp only[ND,DK,Ab];refine Aa g2 ?_;simp only[ND,DK,Ab];refine Aa g3 ?_;simp only[ND,DK,Ab];rcases AvX a b with h|h|h
    .rw[show FX a b=-1 from if_pos h]
     have gl:=gl [Φ,Δ,Δ,Δ,Φ,Φ] rfl (by
      unfold Dp;simp;omega)
     refine Aq ?_ (by decide);refine Aq ?_ (by decide);refine Al ?_ (by decide);refine BV ?_ (by decide);refine Ai ?_ (by decide);refine Cn ?_ (by decide);refine Aa gl ?_;simp only[ND,DK,Ab];refine Aa c1 ?_;simp only[ND,DK,Ab];refine Aa c2 ?_;simp only[ND,DK,Ab];refine Aa d1 ?_;simp only[ND,DK,Ab];refine Aa d2 ?_;rfl
    .rw[show FX a b=0 from (if_neg (by omega)).trans (if_neg (by omega))]
     have gl:=gl [Δ,Φ,Φ,Δ,Φ,Δ] rfl (by
      unfold Dp;simp;omega)
     refine AO ?_ (by decide);refine AO ?_ (by decide);refine Ai ?_ (by decide);refine BV ?_ (by decide);refine Ai ?_ (by decide);refine BV ?_ (by decide);refine Aa gl ?_;simp only[ND,DK,Ab];refine Aa c1 ?_;simp only[ND,DK,Ab];refine Aa c2 ?_;simp only[ND,DK,Ab];refine Aa d1 ?_;simp only[ND,DK,Ab];refine Aa d2 ?_;rfl
    .rw[show FX a b=1 from (if_neg (by omega)).trans (if_pos h)]
     have gl:=gl [Φ,Δ,Φ,Φ,Δ,Δ] rfl (by
      unfold Dp;simp;omega)
     refine Aq ?_ (by decide);refine Aq ?_ (by decide);refine Ai ?_ (by decide);refine Cn ?_ (by decide);refine Al ?_ (by decide);refine BV ?_ (by decide);refine Aa gl ?_;simp only[ND,DK,Ab];refine Aa c1 ?_;simp only[ND,DK,Ab];refine Aa c2 ?_;simp only[ND,DK,Ab];refine Aa d1 ?_;simp only[ND,DK,Ab];refine Aa d2 ?_;rfl
   .rw[decide_eq_false h3]
    rfl
