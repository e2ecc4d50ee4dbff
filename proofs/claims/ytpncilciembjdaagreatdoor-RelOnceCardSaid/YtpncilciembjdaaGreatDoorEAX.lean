/- What a term's value, a r -/
import Derived.Test.YtpncilciembjdaaGreatDoorEAW
set_option linter.all false
open Bool renaming false->Φ,true->Δ,true_and->Aus
open Int renaming natAbs_natCast->AtS
open List renaming all_cons->AuL,append_assoc->Ar4,drop->ArV,drop_eq_getElem_cons->ο,drop_eq_nil_of_le->Ar6,drop_zero->ArT,filter_congr->Avq,filter_map->AvE,foldl_cons->Atm,getElem?_eq_getElem->φ,getElem_mem->Ast,length_append->η,length_cons->ε,length_map->Ar2,length_singleton->Asi,map_cons->Ar7,map_map->Atk,map_reverse->Avy,mem_cons_of_mem->γ,mem_cons_self->υ,mem_map->Asj,mem_reverse->Auv,nil_append->Asg,pairwise_map->AtX,reverse_cons->Aun,take->ArQ,take_append_drop->AsU,take_left'->Aua
open Nat renaming ble->ArY,zero_add->Ar5,zero_le->AsB
open Option renaming none->Ξ,some->Θ
namespace Go.Proofs.YtpncilciembjdaaGreatDoor
noncomputable section
open ABlk renaming mk->δ
open AV renaming agg->ω,fn->Ar8,ls->Ψ,ptr->Asm,sl->χ,tup->ι
open BO renaming set->ArU
open IntKind renaming i64->θ
open Key renaming fn->ψ,lp->ArW
open Tryz renaming prog->ArP
open Go.RowKit
def CP(r:Tm × Bool):List AV:=eT r.1++[bv r.2]
theorem N5(ps:List Pt)(kz:Zi)(e:Bool):CP (⟨ps,kz⟩,e)=[.ls (ps.map eP),bv kz.neg,eN kz.abs,bv e]:=rfl
section
variable {D:Orc} (Kw:Knows At Yq D)
include Kw
def ZC(L:Int)(ps:List Pt):Bool:=ps.all λp=>decide ((p.z.abs.length:Int)<=L)
def Sj(L:Int)(r:Tm × Bool):Bool:=decide (r.1.ps.length<=20)&&(decide ((r.1.k.abs.length:Int)<=L)&&ZC L r.1.ps)
theorem Ae4(rs:List (Tm × Bool))(L:Int)(i:Nat)(h1:i<rs.length)(hl:rs[i].1.ps.length<=20):∀(m k:Nat),rs[i].1.ps.length-k=m->k<=rs[i].1.ps.length->
  D.ask (.lp 16 1) [.ls (rs.map CP),iv L,iv (i:Int),iv (k:Int)] []=Θ (if ZC L (rs[i].1.ps.drop k)=Δ then .tup [iv 2,.ls (rs.map CP),iv L,iv (i:Int)] else .tup [bv Δ,bv Φ],[]):=by
 have hn1:∀ kk,BH (rs.map CP) i kk=kk (CP rs[i]):=λkk=>AB (φ h1) kk
 revert hn1 hl;generalize rs[i]=r;intro hl hn1;obtain⟨⟨ps,kz⟩,e⟩:=r;simp only at hl ⊢;intro m
 induction m with
 |zero=>
  intro k hm hk;rw[Ar6 (by omega)];refine Ax Kw TR (AiA ..) ?_;simp only[Au,hn1,N5,eN,ND,DK,Aa,Ao];exact Ak rfl
 |succ m ih=>
  intro k hm hk;have h2:k<ps.length:=by omega
  have ih:=ih (k+1) (by omega) (by omega);have hn2:∀ kk,BH (ps.map eP) k kk=kk (eP ps[k]):=λkk=>AB (φ h2) kk
  rw[ο h2];revert hn2;generalize ps[k]=p;intro hn2;unfold ZC at ih ⊢;rw[AuL];refine Ax Kw TR (AiA ..) ?_;simp only[Au,hn1,hn2,N5,eP,eN,ND,DK,Aa,Ao];refine Ap ?_
  by_cases hz:L<(p.z.abs.length:Int)
  .refine Ap ?_ hz
   rw[decide_eq_false (by omega:¬ (p.z.abs.length:Int)<=L)];rfl
  .refine Ak ?_ hz
   rw[decide_eq_true (by omega:(p.z.abs.length:Int)<=L),Aus,BV (by omega)];refine Ab ih ?_
   cases (ps.drop (k+1)).all λp=>decide ((p.z.abs.length:Int)<=L)<;>rfl
theorem Ae3(rs:List (Tm × Bool))(L:Int)(hrl:rs.length<=1000000):∀(m i:Nat),rs.length-i=m->i<=rs.length->
  D.ask (.lp 16 0) [.ls (rs.map CP),iv L,iv (i:Int)] []=Θ (if(rs.drop i).all (Sj L)=Δ then .tup [iv 0] else .tup [bv Δ,bv Φ],[]):=by
 intro m
 induction m with
 |zero=>
  intro i hm hi;rw[Ar6 (by omega)];refine Ax Kw TR (Aiz ..) ?_;rw[Ao];exact Ak rfl
 |succ m ih=>
  intro i hm hi;have h1:i<rs.length:=by omega
  have ih:=ih (i+1) (by omega) (by omega);have hn1:∀ kk,BH (rs.map CP) i kk=kk (CP rs[i]):=λkk=>AB (φ h1) kk
  have g1:=Ae4 Kw rs L i h1;rw[ο h1,AuL];revert hn1 g1;generalize rs[i]=r;obtain⟨⟨ps,kz⟩,e⟩:=r;intro hn1 g1;simp only at g1;unfold Sj;simp only;refine Ax Kw TR (Aiz ..) ?_;rw[Ao];refine Ap ?_;simp only[Au,hn1,N5,eN,ND,DK,Aa,Ao]
  by_cases hp:ps.length<=20
  .refine Ak ?_
   rw[decide_eq_true hp,Aus]
   by_cases hk:(kz.abs.length:Int)<=L
   .refine Ak ?_
    rw[decide_eq_true hk,Aus];have g1:=g1 hp _ 0 rfl (AsB _);rw[ArT]at g1;refine Ab g1 ?_
    cases hr:ZC L ps with
    |true=>
     rw[if_pos rfl,Aus];simp only[ND,DK,Aa,Aph];rw[BV (by omega)];refine Ab ih ?_;unfold Sj
     cases (rs.drop (i+1)).all λr=>decide (r.1.ps.length<=20)&&(decide ((r.1.k.abs.length:Int)<=L)&&ZC L r.1.ps)<;>rfl
    |false=>rfl
   .refine Ap ?_
    rw[decide_eq_false hk];rfl
  .refine Ap ?_
   rw[decide_eq_false hp];rfl
theorem AkM(rs:List (Tm × Bool))(n:Nat)(L:Int)(hn:n<=1000000):D.ask (.fn 16) [.ls (rs.map CP),iv (n:Int),iv L] []=Θ (bv (decide (rs.length<=n)&&rs.all (Sj L)),[]):=by
 refine AC Kw TR (e16 ..) ?_;rw[Ao]
 by_cases h:n<rs.length
 .rw[decide_eq_false (by omega:¬ rs.length<=n)]
  exact Vs (by omega)
 .have g:=Ae3 Kw rs L (by omega) _ 0 rfl (by omega)
  rw[ArT]at g;rw[decide_eq_true (by omega:rs.length<=n),Aus];refine Ak ?_;refine Ab g ?_
  cases rs.all (Sj L)<;>rfl
end
structure LmT (t:Tm):Prop where
 ps:∀ p∈t.ps,Limbs p.z.abs
 k:Limbs t.k.abs
theorem LmT.tmb{t:Tm}{e:Bool}{L:Nat}(h:LmT t)(ho:Sj (L:Int) (t,e)=Δ):TmB 20 L t:=by
 unfold Sj ZC at ho;simp only[Bool.and_eq_true,decide_eq_true_eq,List.all_eq_true]at ho;exact⟨ho.1,λp hp=>⟨h.ps p hp,by have:=ho.2.2 p hp;omega⟩,⟨h.k,by have:=ho.2.1;omega⟩⟩
section
open Go.RowKit
variable (A:Ar) (D:Orc)
end
theorem Adb{k:Nat}{x:Int}(hx:InB k x)(hk:1<=k)(y:Int):InB (k+1) (qZ x y):=by
 unfold qZ;split
 .rw[Int.sub_eq_add_neg]
  exact(Acg hx y _).add ((InB.one hk).neg)
 .exact(Acg hx y _).mono (by omega)
def hdS(t:Tm):Int:=match t.ps with
 |[]=>0
 |q::_=>zv q.z
def zrR:Tm × Bool:=(⟨[],⟨Φ,[]⟩⟩,Φ)
def C8(p:Tm)(eq:Bool):(Tm × Bool) × Int:=
 if p.ps=[] then(zrR,if zv p.k=0\/(eq=Φ/\0<zv p.k) then 1 else -1)
 else if eq=Δ then
  (if rZ (zv p.k) (Dr p)=0 then((if hdS (Fx p)<0 then((Fx p).lf.scale (-1)).tm else Fx p,Δ),0) else(zrR,-1))
 else((Fx p,Φ),0)
theorem Xe{l:Lf}(h:l.pln.tm.ps≠[]):Dr l.pln.tm≠0:=by
 intro h0;have hp:=CW l.ps;unfold Dr at h0;rw[Cd,show l.pln.ps=AG l.ps from rfl,Cp hp]at h0;have hd:=(Ka (AG l.ps) 0).2;rw[h0]at hd
 cases hl:AG l.ps with
 |nil=>
  apply h
  show (AG l.ps).map AJ=[]
  rw[hl];rfl
 |cons q r=>
  have hq:q∈AG l.ps:=by rw[hl];exact υ ..
  have h1:=Nat.eq_zero_of_zero_dvd (hd q hq);exact hp.nz q hq (by omega)
theorem Yj(x:Int):Cu x=0 ↔ x=0:=by unfold Cu;split<;>(try split)<;>omega
theorem Yk(x:Int):0<Cu x ↔ 0<x:=by unfold Cu;split<;>(try split)<;>omega
theorem Aka(x:Int):Cu x<0 ↔ x<0:=by unfold Cu;split<;>(try split)<;>omega
theorem Xf{n k:Nat}{t:Tm}(ht:TmB n k t):InB (k+n) (Dr t:Int):=TJ _ _ (InB.zero _) (λp hp=>by
 rw[←JF]at hp;obtain⟨v,_,rfl⟩:=Asj.1 hp;exact WY ht v)
theorem AdM{n k:Nat}{t:Tm}(ht:TmB n k t)(hk:1<=k):TmB n (k+n+1) (Fx t):=by
 unfold Fx;have hl:=Gr t.lf.ps;have hl2:=ht.lb.len;split
 .exact(ht.lb.pln.tb).mono (Nat.le_refl _) (by omega)
 .refine⟨by simp;omega,λp hp=>?_,((Adb ht.k.inb hk _).mono (by omega)).lz⟩
  obtain⟨q,hq,rfl⟩:=Asj.1 hp;rw[←JF]at hq;obtain⟨v,_,rfl⟩:=Asj.1 hq;exact(Adb (WY ht v) (by omega) _).lz
section
open Go.RowKit
def Aoh:MFn:=AU [] 63
def Anq:Hnt:=⟨[],[],[]⟩
def An8:MFn:=AU [] 17
def Anj:Hnt:=⟨[(62,(.agg B7,[])),(63,(.tup [.agg BL,.int .i64],[])),(64,(.int .i64,[])),(65,(.tup [.agg B7,.agg AK],[])),(66,(.tup [.agg AK,.agg AK,.int .i64],[])),(67,(.agg AK,[])),(68,(.agg B7,[]))],[],[(9,B7),(12,[.ls]),(16,AK),(21,[.bool]),(25,AK),(34,[.bool]),(37,B7),(41,B7),(45,AK),(46,B7),(52,AK),(59,B7),(64,[.ls]),(65,Br),(67,AK),(70,B7),(72,B7)]⟩
def Ad0:List (Nat × MFn):=[(63,Aoh),(17,An8)]
variable (A:Ar) (D:Orc)
theorem e63(x0:Bool):BY A D At Anq .n 63 Aoh [bv x0] [] =
 br x0
 (Θ ((ι [ω [Ψ [],bv Φ,Ψ [],bv Φ],iv 1],[])))
 (Θ ((ι [ω [Ψ [],bv Φ,Ψ [],bv Φ],iv (-1)],[]))):=by kernel_rfl
theorem e17(x0_0:Rw)(x0_1:Bool)(x0_2:Rw)(x0_3:Bool):BY A D At Anj .n 17 An8 [ω [Ψ x0_0,bv x0_1,Ψ x0_2,bv x0_3]] [] =
 Af D (ψ 62) [ω [Ψ x0_0,bv x0_1,Ψ x0_2]] [] [.a,.L,.B,.L,.N,.E] λxs b xs1=>
 br (A.eq (↑(Al xs)) 0)
 (Af D (ψ 64) [ω [bv b,Ψ xs1]] [] [.i,.E] λn=>
 br (A.eq n 0)
 (Af D (ψ 63) [bv Δ] [] [.t,.A,.L,.B,.L,.B,.N,.I,.N,.E] λxs2 b1 xs3 b2 n1=>
 Θ ((ι [ω [Ψ xs2,bv b1,Ψ xs3,bv b2],iv n1],[])))
 (br (A.not x0_3)
 (Af D (ψ 64) [ω [bv b,Ψ xs1]] [] [.i,.E] λn1=>
 br (A.lt 0 n1)
 (Af D (ψ 63) [bv Δ] [] [.t,.A,.L,.B,.L,.B,.N,.I,.N,.E] λxs2 b1 xs3 b2 n2=>
 Θ ((ι [ω [Ψ xs2,bv b1,Ψ xs3,bv b2],iv n2],[])))
 (Af D (ψ 63) [bv Φ] [] [.t,.A,.L,.B,.L,.B,.N,.I,.N,.E] λxs2 b1 xs3 b2 n2=>
 Θ ((ι [ω [Ψ xs2,bv b1,Ψ xs3,bv b2],iv n2],[]))))
 (Af D (ψ 63) [bv Φ] [] [.t,.A,.L,.B,.L,.B,.N,.I,.N,.E] λxs2 b1 xs3 b2 n1=>
 Θ ((ι [ω [Ψ xs2,bv b1,Ψ xs3,bv b2],iv n1],[])))))
 (br (A.not x0_3)
 (Af D (ψ 65) [ω [Ψ xs,bv b,Ψ xs1]] [] [.t,.A,.L,.B,.L,.N,.A,.B,.L,.N,.N,.E] λxs2 b1 xs3 _ _=>
 Θ ((ι [ω [Ψ xs2,bv b1,Ψ xs3,bv Φ],iv 0],[])))
 (Af D (ψ 67) [ω [Ψ xs,bv b,Ψ xs1]] [] [.a,.B,.L,.N,.E] λb1 xs2=>
 Af D (ψ 66) [ω [bv b,Ψ xs1],ω [bv b1,Ψ xs2]] [] [.t,.A,.B,.L,.N,.A,.B,.L,.N,.I,.N,.E] λ_ _ b3 xs4 _=>
 Af D (ψ 64) [ω [bv b3,Ψ xs4]] [] [.i,.E] λn1=>
 br (A.eq n1 0)
 (Af D (ψ 65) [ω [Ψ xs,bv b,Ψ xs1]] [] [.t,.A,.L,.B,.L,.N,.A,.B,.L,.N,.N,.E] λxs5 b4 xs6 _ _=>
 BH xs5 0 λcs8=>
 dk [.I,.B,.L,.N] [.l cs8] λ_ b6 xs8=>
 Af D (ψ 64) [ω [bv b6,Ψ xs8]] [] [.i,.E] λn3=>
 br (A.lt n3 0)
 (Af D (ψ 68) [ω [Ψ xs5,bv b4,Ψ xs6]] [] [.a,.L,.B,.L,.N,.E] λxs9 b7 xs10=>
 Θ ((ι [ω [Ψ xs9,bv b7,Ψ xs10,bv Δ],iv 0],[])))
 (Θ ((ι [ω [Ψ xs5,bv b4,Ψ xs6,bv Δ],iv 0],[]))))
 (Af D (ψ 63) [bv Φ] [] [.t,.A,.L,.B,.L,.B,.N,.I,.N,.E] λxs5 b4 xs6 b5 n2=>
 Θ ((ι [ω [Ψ xs5,bv b4,Ψ xs6,bv b5],iv n2],[]))))):=by kernel_rfl
end
structure TiF (D:Orc):Prop where
 plain:∀{n k:Nat} {t:Tm},TmB n k t->n<=1000000->k+n<=300000000->D.ask (.fn 62) [.agg (eT t)] []=Θ (.agg (eT t.lf.pln.tm),[])
 content:∀{n k:Nat} {t:Tm},TmB n k t->n<=1000000->k+n<=300000000->D.ask (.fn 67) [.agg (eT t)] []=Θ (.agg (eZ (Av (Dr t:Int))),[])
 shrink:∀{n k:Nat} {t:Tm},TmB n k t->n<=1000000->k+n<=300000000->D.ask (.fn 65) [.agg (eT t)] []=Θ (.tup [.agg (eT (Fx t)),.agg (eZ (Av (Dr t:Int)))],[])
 neg:∀{n k:Nat} {t:Tm},TmB n k t->n<=1000000->k+n<=300000000->D.ask (.fn 68) [.agg (eT t)] []=Θ (.agg (eT (t.lf.scale (-1)).tm),[])
section
variable {D:Orc} (Kt:Knows At Ad0 D) (Z:ZF D) (W:ZdF D) (T:TiF D)
include Kt
theorem Uc(b:Bool):D.ask (.fn 63) [bv b] []=Θ (.tup [.agg (CP zrR),iv (if b=Δ then 1 else -1)],[]):=by
 refine AC Kt Anq (e63 ..) ?_
 cases b<;>rfl
include Z W T
theorem Ad9{n k:Nat}{t:Tm}(ht:TmB n k t)(hn:n<=1000000)(hk1:1<=k)(hk:k+3*n<=100000000)(eq:Bool):D.ask (.fn 17) [.agg (CP (t,eq))] []
  = Θ (.tup [.agg (CP (C8 t.lf.pln.tm eq).1),iv (C8 t.lf.pln.tm eq).2],[]):=by
 have gp:=T.plain ht hn (by omega);have hp:=ht.lb.pln.tb;have hc:t.lf.pln.tm.ps≠[]->Dr t.lf.pln.tm≠0:=Xe;have k1:=Uc Kt Δ;have k0:=Uc Kt Φ;refine AC Kt Anj (e17 ..) ?_;refine Ab gp ?_;generalize t.lf.pln.tm=p at *;have gs:=Z.sign p.k (hp.k.mono (by omega));simp only[eT,eN,ND,DK,Aa];simp only[Ao];unfold C8
 by_cases h0:p.ps=[]
 .rw[if_pos h0,h0]
  refine Bt ?_ (by decide);refine Ab gs ?_;simp only[GD,BC,DK]
  by_cases hz:zv p.k=0
  .rw[if_pos (.inl hz)]
   refine Bt ?_ ((Yj _).2 hz);refine Ab k1 ?_;rfl
  .refine Ba ?_ (λh=>hz ((Yj _).1 h))
   cases eq with
   |true=>
    refine BX ?_;rw[if_neg (λh=>h.elim hz λh=>by cases h.1)];refine Ab k0 ?_;rfl
   |false=>
    refine Ac ?_;refine Ab gs ?_;simp only[GD,BC,DK]
    by_cases hpz:0<zv p.k
    .rw[if_pos (.inr ⟨by trivial,hpz⟩)]
     refine Ap ?_ ((Yk _).2 hpz);refine Ab k1 ?_;rfl
    .rw[if_neg (λh=>h.elim hz λh=>hpz h.2)]
     refine Ak ?_ (λh=>hpz ((Yk _).1 h));refine Ab k0 ?_;rfl
 .have hc:=hc h0
  have hpl:p.ps.length≠0:=λh=>h0 (List.eq_nil_of_length_eq_zero h)
  rw[if_neg h0];refine Ba ?_;have hci:=Xf hp;have gc:=T.content hp hn (by omega);have gd:=W.div p.k (Av (Dr p:Int)) (hp.k.mono (by omega)) (hci.lz.mono (by omega));rw[Bf,if_neg (by omega)]at gd;have gh:=T.shrink hp hn (by omega);simp only[eT,eN]at gc gh
  cases eq with
  |false=>
   rw[if_neg (by decide)];refine Ac ?_;refine Ab gh ?_;rfl
  |true=>
   rw[if_pos rfl];refine BX ?_;refine Ab gc ?_;simp only[eZ,eN,DS,B5,CL,Cj,Dq,EU,BW,BC,DK];refine Ab gd ?_;simp only[eZ,eN,DS,B5,CL,Cj,Dq,EU,BW,BC,DK];have hri:InB 300000001 (rZ (zv p.k) (Dr p:Int)):=by
    unfold rZ;split
    .exact((T7 hci (by omega) _ _).mono (by omega)).add (hci.mono (by omega))
    .exact(T7 hci (by omega) _ _).mono (by omega)
   have gr:=Z.sign (Av (rZ (zv p.k) (Dr p:Int))) (hri.lz.mono (by omega));rw[Bf]at gr;refine Ab gr ?_;simp only[GD,BC,DK]
   by_cases hr:rZ (zv p.k) (Dr p:Int)=0
   .rw[if_pos hr]
    refine Bt ?_ ((Yj _).2 hr);refine Ab gh ?_;have hst:=AdM hp (show 1<=k+n by omega);have hne:(Fx p).ps≠[]:=by
     unfold Fx;rw[if_neg hc];intro h1;have h2:AG p.lf.ps=[]:=List.map_eq_nil_iff.1 h1;apply hc;unfold Dr;rw[h2];rfl
    have gsc:=T.neg hst hn (by omega);revert gsc hne;have hq1:∀ q∈(Fx p).ps,Lz 1000000000 q.z:=λq hq=>(hst.ps q hq).mono (by omega)
    revert hq1;generalize Fx p=S;obtain⟨sp,sk⟩:=S
    cases sp with
    |nil=>intro _ h;exact absurd rfl h
    |cons q sp=>
     intro hq1 _ gsc;have gq:=Z.sign q.z (hq1 q (υ ..));simp only[eZ,eN,DS,B5,CL,Cj,Dq,EU,BW,BC,DK];rw[AB (show (q::sp)[0]? = Θ q from rfl)];simp only[eP,eN,DS,B5,CL,Cj,Dq,EU,BW,BC,DK];refine Ab gq ?_;simp only[GD,BC,DK]
     show _=Θ (ι [.agg (CP (if zv q.z<0 then _ else _,Δ)),iv 0],[])
     by_cases hs:zv q.z<0
     .rw[if_pos hs]
      refine Ap ?_ ((Aka _).2 hs);refine Ab gsc ?_;rfl
     .rw[if_neg hs]
      exact Ek (λh=>hs ((Aka _).1 h))
   .rw[if_neg hr]
    refine Ba ?_ (λh=>hr ((Yj _).1 h));refine Ab k0 ?_;rfl
end
section
variable {D:Orc} (Kt:Knows At FS D) (Kf:Knows At KZ D) (Ks:Knows At D9 D) (Z:ZF D) (C:PartF D) (Kc:Knows At Yu D) (W:ZdF D)
include Kt Kf Ks Z C Kc W
theorem Amc(hs:∀{n k:Nat} {t:Tm},TmB n k t->n<=1000000->k+n<=300000000->D.ask (.fn 65) [.agg (eT t)] []=Θ (.tup [.agg (eT (Fx t)),.agg (eZ (Av (Dr t:Int)))],[])):TiF D where
 plain h hn hk:=EK Kt Ks Z C h hn (by omega)
 content {n k t} h hn hk:=by
  have hp:=EK Kt Ks Z C h hn (by omega);have hl:=Gr t.lf.ps;have hl2:=h.lb.len;have hb:=h.lb.pln.ps;refine VB Kc W (l:=AG t.lf.ps) (k:=t.lf.pln.tm.k) ?_ (by omega) (λp hp=>(hb p hp).mono (by omega));rw[hp]
  show Θ (ω [.ls (((AG t.lf.ps).map AJ).map eP),_,_],[])=_
  rw[Atk];rfl
 shrink h hn hk:=hs h hn hk
 neg h hn hk:=Wm Kt Kf Ks Z C h hn (by omega)
end
section
open Go.RowKit
def MW:List (Nat × Nat):=[(67,0),(62,0),(135,0),(136,0),(196,0),(234,0),(235,0),(265,0),(275,0),(140,0),(199,0)]
def Um:MFn:=Ni ArP Bx [⟨74,(mB 917524),[(1000004,3)],[2,17],[(1,((mB 20),([],[1000000])))]⟩] Δ Φ 62
def Oz:Hnt:=⟨[(135,(.sl 0 3,[.row Δ])),(136,(.tup [],[.row Δ])),(138,(.agg AK,[])),(139,(.agg AK,[])),(140,(.sl 0 3,[.row Δ]))],[(0,[(1,([.ptr 0 0,.ptr 1 0],[.box B7,.box [.sl 3 3,.bool,.ls],.del,.row Δ]))])],[(9,[.ls]),(14,AK),(21,Br),(22,Br),(24,[.int .i64]),(27,[.ls]),(34,[.ls]),(36,Br),(38,[.int .i64]),(40,[.int .i64]),(44,[.ls]),(47,[.ls]),(49,Br),(51,AK),(53,AK),(55,Br),(58,[.ls]),(60,[.int .i64]),(62,AK),(70,[.ls]),(73,B7)]⟩
def Aca:Hnt:=⟨[(135,(.sl 1 3,[.keep,.row Δ])),(136,(.tup [],[.row Δ])),(138,(.agg AK,[])),(139,(.agg AK,[])),(140,(.sl 0 3,[.row Δ]))],[(0,[(1,([.ptr 0 0,.ptr 1 0],[.box B7,.box [.sl 3 3,.bool,.ls],.del,.row Δ]))])],[(9,[.ls]),(14,AK),(21,Br),(22,Br),(24,[.int .i64]),(27,[.ls]),(34,[.ls]),(36,Br),(38,[.int .i64]),(40,[.int .i64]),(44,[.ls]),(47,[.ls]),(49,Br),(51,AK),(53,AK),(55,Br),(58,[.ls]),(60,[.int .i64]),(62,AK),(70,[.ls]),(73,B7)]⟩
def X0:MFn:=AU [⟨21,(mB 3596),[],[2,3,9],[(1,((mB 12),([],[1000000])))]⟩] 67
def OA:Hnt:=⟨[(62,(.agg [.sl 1 3,.bool,.ls],[.keep,.row Δ])),(147,(.agg AK,[]))],[(0,[(1,([.ptr 0 0,.ptr 1 0],[.box AK,.box AK]))])],[(7,B7),(13,Br),(14,Br),(15,AK),(17,AK),(20,AK)]⟩
def XZ:MFn:=AU [⟨49,(mB 1835068),[],[2,3,5],[(1,((mB 60),([],[])))]⟩] 65
def T5:Hnt:=⟨[(62,(.agg [.sl 0 3,.bool,.ls],[.row Δ])),(64,(.int .i64,[])),(66,(.tup [.agg AK,.agg AK,.int .i64],[])),(67,(.agg AK,[.keep])),(143,(.tup [.agg AK,.int .i64],[]))],[(0,[(1,([.ptr 0 0,.ptr 1 0,.ptr 2 0,.ptr 3 0],[.box B7,.box AK,.box [.sl 5 3,.bool,.ls],.box AK,.del,.row Δ]))])],[(8,B7),(10,B7),(12,AK),(15,B7),(16,AK),(18,[.ls]),(23,Br),(24,Br),(27,[.ls]),(30,AK),(31,AK),(35,Br),(40,AK),(41,AK),(47,B7),(48,AK)]⟩
def UZ:List (Nat × MFn):=[(62,Um),(67,X0),(65,XZ)]
variable (A:Ar) (D:Orc)
theorem Am7(x0:Rw)(x1:Bool)(x2:Rw):BY A D MW Oz .n 62 Um [ω [Ψ x0,bv x1,Ψ x2]] [] =
 Af D (ψ 135) [Ψ x0] [] [.q 0 3,.R,.X,.E] λn cs=>
 Af D (ψ 136) [χ 0 0 n 3,Ar8 (Fn.func 137) [] []] [δ cs Δ Δ] [.t,.N,.R,.X,.E] λcs2=>
 Af D (ψ 138) [ω [bv x1,Ψ x2]] [] [.a,.B,.L,.N,.E] λb xs=>
 br ((0+n*3).ble cs2.length) (AF D (ArW 62 0) [Asm 0 0,Asm 1 0,Ψ (Be n 3 (ArQ (n*3) cs2)),iv ↑n,iv 0] [bk [Ψ [],bv Φ,Ψ []],bk [χ 2 0 0 3,bv b,Ψ xs],δ [] Δ Δ] λr3 o3=>
 dk [.t,.C,.x,.X] [.v r3] λc2 l4=>
 br (Bo 1 c2)
 (dk [.P 0 0,.P 1 0,.N,.T,.L,.B,.L,.N,.T,.C,.q 3 3,.B,.L,.N,.D,.R,.X,.E] [.l l4,.o o3] λ_ _ _ n1 b2 xs3 cs7=>
 Af D (ψ 140) [χ 0 0 n1 3,Ar8 (Fn.func 141) [] []] [δ cs7 Δ Δ] [.q 0 3,.R,.X,.E] λn2 cs8=>
 Θ ((ω [χ 0 0 n2 3,bv b2,Ψ xs3],[ArU (δ cs8 Δ Δ)])))
 (Ξ)) Ξ:=by kernel_rfl
theorem Xn(r0:Rw)(r1:Bool)(r2:Rw)(n4:Nat)(k1:Bool)(k2:Rw)(c4:List AV)(t17:Rw)(t18 t19:Int):Dy A D MW Oz .n 62 0 (AZ Um 0).fst (AZ Um 0).snd [Asm 0 0,Asm 1 0,Ψ t17,iv t18,iv t19] [bk [Ψ r0,bv r1,Ψ r2],bk [χ 2 0 n4 3,bv k1,Ψ k2],{ cells:=c4,st:=Δ,ex:=Δ }] =
 br (A.lt t19 t18)
 (unI t19 λi=>
 BH t17 i λcs=>
 dk [.I,.B,.L,.N] [.l cs] λn b xs=>
 br (A.lt n 0)
 (AF D (ArW 62 0) [Asm 0 0,Asm 1 0,Ψ t17,iv t18,iv (A.add θ t19 1)] [bk [Ψ r0,bv r1,Ψ r2],bk [χ 2 0 n4 3,bv k1,Ψ k2],δ c4 Δ Δ] λr o=>
 AW 3 [0,1,2] (AH.mk [(0,bk [Ψ r0,bv r1,Ψ r2]),(3,bk [iv n,bv b,Ψ xs]),(1,bk [χ 2 0 n4 3,bv k1,Ψ k2]),(2,δ c4 Δ Δ)] 4 Ξ) [0] r o)
 (br (A.le 0 (A.sub θ (↑n4) 1))
 (unI (A.sub θ (↑n4) 1) λi1=>
 br (i1.blt n4) (EX c4 (0+i1*3+0) 1 λcs1=>
 dk [.I,.N] [.l cs1] λn1=>
 br (A.eq n1 n)
 (unI (A.sub θ (↑n4) 1) λi2=>
 br (i2.blt n4) (EX c4 (0+i2*3+1) 2 λcs2=>
 dk [.B,.L,.N] [.l cs2] λb1 xs1=>
 Af D (ψ 139) [ω [bv b1,Ψ xs1],ω [bv b,Ψ xs]] [] [.a,.B,.L,.N,.E] λb2 xs2=>
 unI (A.sub θ (↑n4) 1) λi3=>
 br (i3.blt n4) (br ((0+i3*3+1+2).ble c4.length) (AF D (ArW 62 0) [Asm 0 0,Asm 1 0,Ψ t17,iv t18,iv (A.add θ t19 1)] [bk [Ψ r0,bv r1,Ψ r2],bk [χ 2 0 n4 3,bv k1,Ψ k2],δ (AD c4 (0+i3*3+1) [bv b2,Ψ xs2]) Δ Δ] λr3 o1=>
 AW 3 [0,1,2] (AH.mk [(0,bk [Ψ r0,bv r1,Ψ r2]),(2,δ (AD c4 (0+i3*3+1) [bv b2,Ψ xs2]) Δ Δ),(3,bk [iv n,bv b,Ψ xs]),(1,bk [χ 2 0 n4 3,bv k1,Ψ k2])] 4 Ξ) [2,0] r3 o1) Ξ) Ξ) Ξ)
 (Af D (ψ 138) [ω [bv b,Ψ xs]] [] [.a,.B,.L,.N,.E] λb1 xs1=>
 br (Bj (n4+1) 40) (br ((0+n4*3).ble c4.length) (AF D (ArW 62 0) [Asm 0 0,Asm 1 0,Ψ t17,iv t18,iv (A.add θ t19 1)] [bk [Ψ r0,bv r1,Ψ r2],bk [χ 2 0 (n4+1) 3,bv k1,Ψ k2],δ (ArV 0 (ArQ (0+n4*3) c4)++[iv n,bv b1,Ψ xs1]) Δ Δ] λr3 o1=>
 AW 3 [0,1,5] (AH.mk [(0,bk [Ψ r0,bv r1,Ψ r2]),(1,bk [χ 5 0 (n4+1) 3,bv k1,Ψ k2]),(5,δ (ArV 0 (ArQ (0+n4*3) c4)++[iv n,bv b1,Ψ xs1]) Δ Δ),(4,δ [iv n,bv b1,Ψ xs1] Δ Δ),(3,bk [iv n,bv b,Ψ xs])] 6 Ξ) [2,1,0] r3 o1) Ξ) Ξ)) Ξ)
 (Af D (ψ 138) [ω [bv b,Ψ xs]] [] [.a,.B,.L,.N,.E] λb1 xs1=>
 br (Bj (n4+1) 40) (br ((0+n4*3).ble c4.length) (AF D (ArW 62 0) [Asm 0 0,Asm 1 0,Ψ t17,iv t18,iv (A.add θ t19 1)] [bk [Ψ r0,bv r1,Ψ r2],bk [χ 2 0 (n4+1) 3,bv k1,Ψ k2],δ (ArV 0 (ArQ (0+n4*3) c4)++[iv n,bv b1,Ψ xs1]) Δ Δ] λr3 o1=>
 AW 3 [0,1,5] (AH.mk [(0,bk [Ψ r0,bv r1,Ψ r2]),(1,bk [χ 5 0 (n4+1) 3,bv k1,Ψ k2]),(5,δ (ArV 0 (ArQ (0+n4*3) c4)++[iv n,bv b1,Ψ xs1]) Δ Δ),(4,δ [iv n,bv b1,Ψ xs1] Δ Δ),(3,bk [iv n,bv b,Ψ xs])] 6 Ξ) [2,1,0] r3 o1) Ξ) Ξ)))
 (Θ ((ι [iv 0,Asm 0 0,Asm 1 0],[ArU (bk [Ψ r0,bv r1,Ψ r2]),ArU (bk [χ 3 0 n4 3,bv k1,Ψ k2]),BO.del,ArU (δ c4 Δ Δ)]))):=by kernel_rfl
theorem Am8(n0:Nat)(c0:List AV)(x1:Bool)(x2:Rw):BY A D MW Aca .n 62 Um [ω [χ 0 0 n0 3,bv x1,Ψ x2]] [{ cells:=c0,st:=Δ,ex:=Δ }] =
 Af D (ψ 135) [χ 0 0 n0 3] [δ c0 Δ Δ] [.q 1 3,.K,.R,.X,.E] λn cs=>
 Af D (ψ 136) [χ 0 0 n 3,Ar8 (Fn.func 137) [] []] [δ cs Δ Δ] [.t,.N,.R,.X,.E] λcs2=>
 Af D (ψ 138) [ω [bv x1,Ψ x2]] [] [.a,.B,.L,.N,.E] λb xs=>
 br ((0+n*3).ble cs2.length) (AF D (ArW 62 0) [Asm 0 0,Asm 1 0,Ψ (Be n 3 (ArQ (n*3) cs2)),iv ↑n,iv 0] [bk [Ψ [],bv Φ,Ψ []],bk [χ 2 0 0 3,bv b,Ψ xs],δ [] Δ Δ] λr3 o3=>
 dk [.t,.C,.x,.X] [.v r3] λc3 l5=>
 br (Bo 1 c3)
 (dk [.P 0 0,.P 1 0,.N,.T,.L,.B,.L,.N,.T,.C,.q 3 3,.B,.L,.N,.D,.R,.X,.E] [.l l5,.o o3] λ_ _ _ n1 b2 xs3 cs7=>
 Af D (ψ 140) [χ 0 0 n1 3,Ar8 (Fn.func 141) [] []] [δ cs7 Δ Δ] [.q 0 3,.R,.X,.E] λn2 cs8=>
 Θ ((ω [χ 1 0 n2 3,bv b2,Ψ xs3],[BO.keep,ArU (δ cs8 Δ Δ)])))
 (Ξ)) Ξ:=by kernel_rfl
theorem Am9(n0:Nat)(c0:List AV)(x1:Bool)(x2:Rw):BY A D MW OA .n 67 X0 [ω [χ 0 0 n0 3,bv x1,Ψ x2]] [{ cells:=c0,st:=Δ,ex:=Δ }] =
 Af D (ψ 62) [ω [χ 0 0 n0 3,bv x1,Ψ x2]] [δ c0 Δ Δ] [.a,.C,.q 1 3,.B,.L,.N,.K,.R,.X,.E] λn _ _ cs1=>
 br ((0+n*3).ble cs1.length) (AF D (ArW 67 0) [Asm 0 0,Asm 1 0,Ψ (Be n 3 (ArQ (n*3) cs1)),iv ↑n,iv 0] [bk [bv Φ,Ψ []],bk [bv Φ,Ψ []]] λr1 o1=>
 dk [.t,.C,.x,.X] [.v r1] λc3 l5=>
 br (Bo 1 c3)
 (dk [.P 0 0,.P 1 0,.N,.T,.B,.L,.N,.T,.B,.L,.N,.E] [.l l5,.o o1] λ_ _ b2 xs2=>
 Θ ((ω [bv b2,Ψ xs2],[BO.keep])))
 (Ξ)) Ξ:=by kernel_rfl
theorem Xo(b2_0:Bool)(b2_1:Rw)(b3_0:Bool)(b3_1 t9:Rw)(t10 t11:Int):Dy A D MW OA .n 67 0 (AZ X0 0).fst (AZ X0 0).snd [Asm 0 0,Asm 1 0,Ψ t9,iv t10,iv t11] [bk [bv b2_0,Ψ b2_1],bk [bv b3_0,Ψ b3_1]] =
 br (A.lt t11 t10)
 (unI t11 λi=>
 BH t9 i λcs=>
 dk [.I,.B,.L,.N] [.l cs] λn b xs=>
 Af D (ψ 147) [ω [bv b3_0,Ψ b3_1],ω [bv b,Ψ xs]] [] [.a,.B,.L,.N,.E] λb1 xs1=>
 AF D (ArW 67 0) [Asm 0 0,Asm 1 0,Ψ t9,iv t10,iv (A.add θ t11 1)] [bk [bv b2_0,Ψ b2_1],bk [bv b1,Ψ xs1]] λr1 o1=>
 AW 2 [0,1] (AH.mk [(1,bk [bv b1,Ψ xs1]),(0,bk [bv b2_0,Ψ b2_1]),(2,bk [iv n,bv b,Ψ xs])] 3 Ξ) [0,1] r1 o1)
 (Θ ((ι [iv 0,Asm 0 0,Asm 1 0],[ArU (bk [bv b2_0,Ψ b2_1]),ArU (bk [bv b3_0,Ψ b3_1])]))):=by kernel_rfl
theorem Aqc(x0_0:Rw)(x0_1:Bool)(x0_2:Rw):BY A D MW T5 .n 65 XZ [ω [Ψ x0_0,bv x0_1,Ψ x0_2]] [] =
 Af D (ψ 62) [ω [Ψ x0_0,bv x0_1,Ψ x0_2]] [] [.a,.C,.q 0 3,.B,.L,.N,.R,.X,.E] λn b xs cs1=>
 Af D (ψ 67) [ω [χ 0 0 n 3,bv b,Ψ xs]] [δ cs1 Δ Δ] [.a,.B,.L,.N,.K,.E] λb1 xs1=>
 Af D (ψ 64) [ω [bv b1,Ψ xs1]] [] [.i,.E] λn1=>
 br (A.eq n1 0)
 (br ((0+n*3).ble cs1.length) (Θ ((ι [ω [Ψ (Be n 3 (ArQ (n*3) cs1)),bv b,Ψ xs],ω [bv b1,Ψ xs1]],[]))) Ξ)
 (Af D (ArW 65 0) [Asm 0 0,Asm 1 0,Asm 2 0,Asm 3 0,χ 4 0 n 3,iv ↑n,iv 0] [bk [Ψ [],bv Φ,Ψ []],bk [bv Φ,Ψ []],bk [χ 4 0 n 3,bv b,Ψ xs],bk [bv b1,Ψ xs1],δ cs1 Δ Δ] [.t,.C,.x,.X,.Y] λc3 l7 o3=>
 br (Bo 1 c3)
 (dk [.P 0 0,.P 1 0,.P 2 0,.P 3 0,.N,.T,.L,.B,.L,.N,.T,.B,.L,.N,.T,.C,.q 5 3,.B,.L,.N,.T,.B,.L,.N,.D,.R,.X,.E] [.l l7,.o o3] λ_ _ _ _ _ n2 b4 xs5 b5 xs6 cs8=>
 Af D (ψ 66) [ω [bv b4,Ψ xs5],ω [bv b5,Ψ xs6]] [] [.t,.A,.B,.L,.N,.A,.B,.L,.N,.I,.N,.E] λb6 xs7 _ _ _=>
 br ((0+n2*3).ble cs8.length) (Θ ((ι [ω [Ψ (Be n2 3 (ArQ (n2*3) cs8)),bv b6,Ψ xs7],ω [bv b5,Ψ xs6]],[]))) Ξ)
 (Ξ)):=by kernel_rfl
theorem AbF(r0:Rw)(r1:Bool)(r2:Rw)(i0:Bool)(i1:Rw)(j0:Bool)(j1:Rw)(n0:Nat)(k1:Bool)(k2:Rw)(c0:List AV)(t19 t20:Int):Dy A D MW T5 .n 65 0 (AZ XZ 0).fst (AZ XZ 0).snd [Asm 0 0,Asm 1 0,Asm 2 0,Asm 3 0,χ 4 0 n0 3,iv t19,iv t20] [bk [Ψ r0,bv r1,Ψ r2],bk [bv i0,Ψ i1],bk [χ 4 0 n0 3,bv k1,Ψ k2],bk [bv j0,Ψ j1],{ cells:=c0,st:=Δ,ex:=Δ }] =
 br (A.lt t20 t19)
 (unI t20 λi=>
 br (i.blt n0) (EX c0 (0+i*3) 3 λcs=>
 dk [.I,.B,.L,.N] [.l cs] λn b xs=>
 Af D (ψ 143) [ω [bv b,Ψ xs],ω [bv j0,Ψ j1]] [] [.t,.A,.B,.L,.N,.I,.N,.E] λb1 xs1 _=>
 unI t20 λi2=>
 br (i2.blt n0) (br ((0+i2*3+1+2).ble c0.length) (AF D (ArW 65 0) [Asm 0 0,Asm 1 0,Asm 2 0,Asm 3 0,χ 4 0 n0 3,iv t19,iv (A.add θ t20 1)] [bk [Ψ r0,bv r1,Ψ r2],bk [bv i0,Ψ i1],bk [χ 4 0 n0 3,bv k1,Ψ k2],bk [bv j0,Ψ j1],δ (AD c0 (0+i2*3+1) [bv b1,Ψ xs1]) Δ Δ] λr3 o1=>
 AW 5 [0,1,2,3,4] (AH.mk [(3,bk [bv j0,Ψ j1]),(1,bk [bv i0,Ψ i1]),(0,bk [Ψ r0,bv r1,Ψ r2]),(4,δ (AD c0 (0+i2*3+1) [bv b1,Ψ xs1]) Δ Δ),(5,bk [iv n,bv b,Ψ xs]),(2,bk [χ 4 0 n0 3,bv k1,Ψ k2])] 6 Ξ) [4,0,1,3] r3 o1) Ξ) Ξ) Ξ)
 (Θ ((ι [iv 0,Asm 0 0,Asm 1 0,Asm 2 0,Asm 3 0],[ArU (bk [Ψ r0,bv r1,Ψ r2]),ArU (bk [bv i0,Ψ i1]),ArU (bk [χ 5 0 n0 3,bv k1,Ψ k2]),ArU (bk [bv j0,Ψ j1]),BO.del,ArU (δ c0 Δ Δ)]))):=by kernel_rfl
end
theorem rdW(A:List Pt)(x:Pt)(tl:List AV)(k:List AV->KR):EX (Ag eP A++(eP x++tl)) (0+A.length*3) 3 k=k (eP x):=by
 have hl:=AR Ay A;unfold EX;rw[show ArY (0+A.length*3+3) (Ag eP A++(eP x++tl)).length=Δ by simp[hl,Ay],Ar5,←hl,List.drop_left' rfl];rfl
theorem spW(A:List Pt)(x y:Pt)(tl:List AV):AD (Ag eP A++(eP x++tl)) (0+A.length*3+1) [bv y.z.neg,eN y.z.abs]=Ag eP A++(eP ⟨x.v,y.z⟩++tl):=by
 have hl:=AR Ay A;unfold AD;rw[Ar5,←hl,List.take_append,List.drop_append];simp[eP,List.take_of_length_le,Ar6,Nat.add_sub_cancel_left,Nat.add_assoc]
section
variable {D:Orc} (Ks:Knows MW UZ D) (W:ZdF D)
include Ks W
theorem Al4(g:Int)(hg:InB 300000000 g)(hg0:g≠0)(r0:List (List AV))(r1:Bool)(r2:List (List AV))(i0:Bool)(i1:List (List AV))(k1:Bool)(k2:List (List AV))(n:Nat)(hn:n<=4000000)(tl:List AV):∀(r:List (Int × Int)) (A:List Pt),A.length+r.length=n->(∀ p∈r,InB 300000000 p.2/\g ∣ p.2)->
  D.ask (.lp 65 0) [.ptr 0 0,.ptr 1 0,.ptr 2 0,.ptr 3 0,.sl 4 0 n 3,iv (n:Int),iv (A.length:Int)] [bk [.ls r0,bv r1,.ls r2],bk [bv i0,.ls i1],bk [.sl 4 0 n 3,bv k1,.ls k2],bk (eZ (Av g)),δ (Ag eP A++(Ag eP (r.map AJ)++tl)) Δ Δ]
   = Θ (.tup [iv 0,.ptr 0 0,.ptr 1 0,.ptr 2 0,.ptr 3 0],[.set (bk [.ls r0,bv r1,.ls r2]),.set (bk [bv i0,.ls i1]),.set (bk [.sl 5 0 n 3,bv k1,.ls k2]),.set (bk (eZ (Av g))),.del,.set (δ (Ag eP A++(Ag eP (r.map (UV g))++tl)) Δ Δ)]):=by
 intro r
 induction r with
 |nil=>
  intro A hA _;refine Ax Ks T5 (AbF ..) ?_;rw[List.length_nil]at hA;exact Ak rfl
 |cons p r ih=>
  intro A hA hr;rw[ε]at hA;obtain⟨hp,hd⟩:=hr p (υ ..);obtain⟨d1,d2⟩:=So hd hg0;have ge:=W.exact (Av p.2) (Av g) (hp.lz.mono (by omega)) (hg.lz.mono (by omega));rw[Bf,Bf,if_neg hg0,if_pos d1]at ge;have ih:=ih (A++[UV g p]) (by simp;omega) (λq hq=>hr q (γ _ hq));have e1:∀(x:Pt) (t:List AV),Ag eP (A++[x])++t=Ag eP A++(eP x++t):=λx t=>by
   rw[←Bn eP A x,Ar4]
  rw[e1,e1,η,Asi]at ih;have e2:∀(f:Int × Int->Pt) (t:List AV),Ag eP ((p::r).map f)++t=eP (f p)++(Ag eP (r.map f)++t):=λf t=>by
   unfold Ag;rw[Ar7,List.flatMap_cons,Ar4]
  rw[e2,e2];have hrd:=rdW A (AJ p) (Ag eP (r.map AJ)++tl);have hsp:=spW A (AJ p) (UV g p) (Ag eP (r.map AJ)++tl);have hlen:ArY (0+A.length*3+1+2) (Ag eP A++(eP (AJ p)++(Ag eP (r.map AJ)++tl))).length=Δ:=by
   rw[η,η,AR Ay,Ay];simp;omega
  have hx:(⟨(AJ p).v,(UV g p).z⟩:Pt)=UV g p:=rfl;have hz:([bv (UV g p).z.neg,eN (UV g p).z.abs]:List AV)=[bv (Av (qZ p.2 g)).neg,eN (Av (qZ p.2 g)).abs]:=rfl;rw[hx,hz]at hsp;generalize Ag eP A++(eP (AJ p)++(Ag eP (r.map AJ)++tl))=cs at *;refine Ax Ks T5 (AbF ..) ?_;refine Ap ?_;rw[Au,show Nat.blt A.length n=Δ from BE (by omega)];refine Ac ?_;refine(hrd _).trans ?_;simp only[eP,AJ,eN,EU,Cj,Dq,BW,DK];refine Ab ge ?_;simp only[eZ,eN,DS,B5,CL,Cj,Dq,EU,BW,BC,DK];rw[Au,show Nat.blt A.length n=Δ from BE (by omega),hlen];refine Ac ?_;refine Ac ?_;simp only[eN]at hsp;rw[hsp,BV (by omega)];refine Ab ih ?_;rfl
theorem AeU(l:List (Int × Int))(hlen:l.length<=4000000)(hl:∀ p∈l,InB 800000000 p.2):∀(m i g:Nat),l.length-i=m->i<=l.length->InB 800000000 (g:Int)->
  D.ask (.lp 67 0) [.ptr 0 0,.ptr 1 0,.ls (l.map λp=>eP (AJ p)),iv (l.length:Int),iv (i:Int)] [bk [bv Φ,.ls []],bk (eZ (Av (g:Int)))]
   = Θ (.tup [iv 0,.ptr 0 0,.ptr 1 0],[.set (bk [bv Φ,.ls []]),.set (bk (eZ (Av (Ed g (l.drop i):Int))))]):=by
 intro m
 induction m with
 |zero=>
  intro i g hm hi hg;rw[Ar6 (by omega)];refine Ax Ks OA (Xo ..) ?_;exact Ak rfl
 |succ m ih=>
  intro i g hm hi hg;have h1:i<l.length:=by omega
  have hx:=hl _ (Ast h1);rw[ο h1];have ga:=W.gcd (Av (g:Int)) (Av l[i].2) (hg.lz.mono (by omega)) (hx.lz.mono (by omega));rw[Bf,Bf,AtS]at ga;have ih1:=ih (i+1) (Nat.gcd g l[i].2.natAbs) (by omega) (by omega) (RO hg hx);refine Ax Ks OA (Xo ..) ?_;refine Ap ?_;rw[Au,AB (f:=λp=>eP (AJ p)) (φ h1)];simp only[eP,AJ,eN,ND,DK,Aa];refine Ab ga ?_;simp only[eZ,eN,ND,DK,Aa];rw[BV (by omega)];refine Ab ih1 ?_;rfl
theorem Ts{l:List (Int × Int)}{cs:List AV}{b:Bool}{xs:List (List AV)}{tl:List AV}{b2:Bool}{xs2:List (List AV)}(hp:D.ask (.fn 62) [.agg [.sl 0 0 l.length 3,bv b,.ls xs]] [δ cs Δ Δ]=Θ (.agg [.sl 1 0 l.length 3,bv b2,.ls xs2],[.keep,.set (δ (Ag eP (l.map AJ)++tl) Δ Δ)]))(hlen:l.length<=4000000)(hl:∀ p∈l,InB 800000000 p.2) :
  D.ask (.fn 67) [.agg [.sl 0 0 l.length 3,bv b,.ls xs]] [δ cs Δ Δ]=Θ (.agg (eZ (Av (Ed 0 l:Int))),[.keep]):=by
 have g:=AeU Ks W l hlen hl _ 0 0 rfl (by omega) (InB.zero _);rw[ArT,show Av ((0:Nat):Int)=⟨Φ,[]⟩ from W0,show eZ ⟨Φ,[]⟩=[bv Φ,.ls []] from rfl]at g;have hll:(Ag eP (l.map AJ)).length=l.length*3:=by rw[AR Ay,Ar2]
 refine AC Ks OA (Am9 ..) ?_;refine Ab hp ?_;simp only[eZ,eN,ND,DK,Aa];rw[show ArY (0+l.length*3) (Ag eP (l.map AJ)++tl).length=Δ by rw[η,hll];simp];refine Ac ?_;rw[←hll,Aua rfl,show Be l.length 3 (Ag eP (l.map AJ))=l.map λp=>eP (AJ p) by
  have:=CE Ay (l.map AJ);rw[Ar2,Atk]at this;exact this]
 refine Ab g ?_;rfl
theorem Z9{n k:Nat}{t:Tm}(ht:TmB n k t)(hn:n<=1000000)(hk:k+n<=300000000)(hs:∀ z:Zi,Lz 1000000000 z->D.ask (.fn 64) [.agg (eZ z)] []=Θ (iv (Cu (zv z)),[])){tl tl':List AV}{b2:Bool}{xs2:List (List AV)}
  (hPn:D.ask (.fn 62) [.agg (eT t)] []=Θ (.agg [.sl 0 0 (AG t.lf.ps).length 3,bv (Av (zv t.k)).neg,eN (Av (zv t.k)).abs],[.set (δ (Ag eP ((AG t.lf.ps).map AJ)++tl) Δ Δ)]))
  (hPo:D.ask (.fn 62) [.agg [.sl 0 0 (AG t.lf.ps).length 3,bv (Av (zv t.k)).neg,.ls ((Av (zv t.k)).abs.map eL)]] [δ (Ag eP ((AG t.lf.ps).map AJ)++tl) Δ Δ]=Θ (.agg [.sl 1 0 (AG t.lf.ps).length 3,bv b2,.ls xs2],[.keep,.set (δ (Ag eP ((AG t.lf.ps).map AJ)++tl') Δ Δ)])) :
  D.ask (.fn 65) [.agg (eT t)] []=Θ (.tup [.agg (eT (Fx t)),.agg (eZ (Av (Dr t:Int)))],[]):=by
 have hll:=Gr t.lf.ps;have hl2:=ht.lb.len;have hci:=Xf ht;have hlI:∀ p∈AG t.lf.ps,InB 300000000 p.2:=λp hp=>by
  rw[←JF]at hp;obtain⟨v,_,rfl⟩:=Asj.1 hp;exact(WY ht v).mono hk
 have gc:=Ts Ks W (l:=AG t.lf.ps) hPo (by omega) (λp hp=>(hlI p hp).mono (by omega));have hki:InB 300000000 (zv t.k):=ht.k.inb.mono (by omega);have gs:=hs (Av (Dr t:Int)) (hci.lz.mono (by omega));rw[Bf]at gs;have hch:∀(f:Int × Int->Pt) (tl:List AV),Be (AG t.lf.ps).length 3 (ArQ ((AG t.lf.ps).length*3) (Ag eP ((AG t.lf.ps).map f)++tl))=((AG t.lf.ps).map f).map eP:=λf tl=>by
  have h:(Ag eP ((AG t.lf.ps).map f)).length=(AG t.lf.ps).length*3:=by rw[AR Ay,Ar2]
  have:=CE Ay ((AG t.lf.ps).map f);rw[Ar2]at this;rw[←h,Aua rfl,this]
 have hbl:∀(f:Int × Int->Pt) (tl:List AV),ArY (0+(AG t.lf.ps).length*3) (Ag eP ((AG t.lf.ps).map f)++tl).length=Δ:=λf tl=>by
  rw[η,AR Ay,Ar2];simp
 refine AC Ks T5 (Aqc ..) ?_;refine Ab hPn ?_;simp only[eN,ND,DK,Aa];refine Ab gc ?_;rw[show Ed 0 (AG t.lf.ps)=Dr t from rfl];simp only[eZ,eN,DS,B5,CL,Cj,Dq,EU,BW,BC,Pz,MJ,DK];refine Ab gs ?_;simp only[GD,BC,DK];rw[hbl,hch];unfold Fx
 by_cases h0:Dr t=0
 .rw[if_pos h0,h0]
  refine Bt ?_ (by decide);refine Ac ?_;rfl
 .rw[if_neg h0]
  refine Ba ?_ (by unfold Cu;rw[if_neg (by omega),if_pos (by omega)];decide);have hdv:∀ p∈AG t.lf.ps,InB 300000000 p.2/\(Dr t:Int) ∣ p.2:=λp hp=>⟨hlI p hp,Int.natAbs_dvd_natAbs.1 (by rw[AtS];exact(Ka (AG t.lf.ps) 0).2 p hp)⟩
  have g:=Al4 Ks W (Dr t:Int) (hci.mono (by omega)) (by omega) [] Φ [] Φ [] (Av (zv t.k)).neg ((Av (zv t.k)).abs.map eL) (AG t.lf.ps).length (by omega) tl (AG t.lf.ps) [] (by simp) hdv;rw[show Ag eP ([]:List Pt)=[] from rfl,Asg,Asg]at g;have gk:=W.div (Av (zv t.k)) (Av (Dr t:Int)) (hki.lz.mono (by omega)) (hci.lz.mono (by omega));rw[Bf,Bf,if_neg (by omega)]at gk;refine Ab g ?_;simp only[eZ,eN,ND,DK,Aa];refine Ab gk ?_;simp only[eZ,eN,DS,B5,CL,Cj,Dq,EU,BW,BC,DK];rw[hbl,hch];refine Ac ?_;rfl
end
section
variable {D:Orc} (Kt:Knows MW UZ D) (Z:ZF D) (hcp:∀{z:Zi},Lz 1000000000 z->D.ask (.fn 138) [.agg (eZ z)] []=Θ (.agg (eZ (Av (zv z))),[]))
include Z
include Kt hcp in
theorem QO{k:Nat}(ps:List Pt)(hl:ps.length<=1000000)(hk:k+ps.length<=900000000)(hz:∀ p∈ps,Lz k p.z)(r0:List (List AV))(r1:Bool)(r2:List (List AV))(k1:Bool)(k2:List (List AV)):∀(m i:Nat) (s:List (Int × Int)),ps.length-i=m->i<=ps.length->s.length<=i->(∀ q∈s,InB (k+i) q.2)->
  D.ask (.lp 62 0) [.ptr 0 0,.ptr 1 0,.ls (ps.map eP),iv (ps.length:Int),iv (i:Int)] [⟨[.ls r0,bv r1,.ls r2],Δ,Φ⟩,⟨[.sl 2 0 (s.map AJ).reverse.length 3,bv k1,.ls k2],Δ,Φ⟩,Ft (s.map AJ).reverse]
   = Θ (.tup [iv 0,.ptr 0 0,.ptr 1 0],[.set ⟨[.ls r0,bv r1,.ls r2],Δ,Φ⟩,.set ⟨[.sl 3 0 ((((ps.drop i).map pv).foldl C0 s).map AJ).reverse.length 3,bv k1,.ls k2],Δ,Φ⟩,.del,.set (Ft ((((ps.drop i).map pv).foldl C0 s).map AJ).reverse)]):=by
 intro m
 induction m with
 |zero=>
  intro i s hm hi hs hb;rw[Ar6 (by omega),List.map_nil,List.foldl_nil];refine Ax Kt Oz (Xn ..) ?_;exact Ak rfl
 |succ m ih0=>
  intro i s hm hi hs hb;have h1:i<ps.length:=by omega
  have hzk:=hz ps[i] (Ast h1);have hzi:=hzk.mono (show k<=1000000000 by omega);rw[ο h1,Ar7,Atm];have ih:=ih0 (i+1) (C0 s (pv ps[i])) (by omega) (by omega) (by have:=HI s (pv ps[i]);omega) (HE hb (hzk.inb.mono (show k<=k+i by omega)));refine Ax Kt Oz (Xn ..) ?_;refine Ap ?_;rw[Au,AB (φ h1)];simp only[eP,eN,ND,DK,Aa];generalize hS:((ps.drop (i+1)).map pv).foldl C0 (C0 s (pv ps[i]))=S at ih ⊢
  by_cases hneg:ps[i].v<0
  .have e:C0 s (pv ps[i])=s:=by
    have hn:(pv ps[i]).1<0:=hneg
    cases s with
    |nil=>rw[EC,if_pos hn]
    |cons q r=>rw[DP,if_pos hn]
   rw[e]at ih;refine Ap ?_ hneg;rw[BV (by omega)];refine Ab ih ?_;rfl
  have hn:¬(pv ps[i]).1<0:=hneg;refine Ak ?_ hneg
  cases s with
  |nil=>
   rw[EC,if_neg hn]at ih;refine CA ?_ (by decide);obtain⟨o,ho0⟩:∃ o:List Pt,o=[]:=⟨_,rfl⟩;have eo:(([pv ps[i]].map AJ).reverse)=o++[AJ (pv ps[i])]:=by rw[ho0];rfl
   rw[eo]at ih;have ho:o.length<=i:=by rw[ho0];exact AsB _
   rw[show ((([]:List (Int × Int)).map AJ).reverse)=o from ho0.symm];have hf:Bj (o.length+1) 40=Δ:=AY (by omega) (by omega);have hb1:ArY (0+o.length*3) (Ag eP o).length=Δ:=A1 Ay o (by omega);have e3:ArV 0 (ArQ (0+o.length*3) (Ag eP o))++[iv ps[i].v,bv (Av (zv ps[i].z)).neg,eN (Av (zv ps[i].z)).abs]=Ag eP (o++[AJ (pv ps[i])]):=by
    rw[ArT,Bk Ay o (by omega)];exact Bn eP o (AJ (pv ps[i]))
   refine Ab (hcp hzi) ?_;simp only[eZ,eN,ND,DK,Aa]at e3 ⊢;rw[hf];refine Ac ?_;rw[hb1];refine Ac ?_;rw[e3,BV (by omega)];rw[η,Asi]at ih;refine Ab ih ?_;rfl
  |cons q r=>
   have eo:(((q::r).map AJ).reverse)=(r.map AJ).reverse++[AJ q]:=by simp
   have hq:=hb q (υ ..);rw[eo];rw[DP,if_neg hn]at ih;have hro:(r.map AJ).reverse.length<=i:=by simp at hs ⊢;omega
   by_cases heq:q.1=(pv ps[i]).1
   .rw[if_pos heq,Ar7,Aun]at ih
    generalize (r.map AJ).reverse=o at hro ih ⊢;have e1:Ae.sub .i64 (((o++[AJ q]).length:Nat):Int) 1=((o.length:Nat):Int):=by
     rw[η,Asi];exact KX (by omega)
    have hlt:o.length<(o++[AJ q]).length:=by simp
    have ga:=Z.add (Av q.2) ps[i].z (hq.lz.mono (by omega)) (hzk.mono (by omega));rw[Bf]at ga;have sp:=AoN o (AJ q) (Av (q.2+zv ps[i].z));rw[e1];refine Cg ?_;rw[Au,AN hlt];refine Ac ?_;refine(AhA o (AJ q) _).trans ?_;simp only[ND,DK,Aa];refine Bt ?_ (show (AJ q).v=ps[i].v from heq);rw[Au,AN hlt];refine Ac ?_;refine(AoG o (AJ q) _).trans ?_;simp only[eN,ND,DK,Aa];refine Ab ga ?_;simp only[eZ,eN,ND,DK,Aa]at sp ⊢;rw[Au,AN hlt];refine Ac ?_;rw[show ArY (0+o.length*3+1+2) (Ag eP (o++[AJ q])).length=Δ by rw[AR Ay];simp;omega];refine Ac ?_;rw[sp,BV (by omega)];have el:(o++[AJ q]).length=(o++[AJ (q.1,q.2+(pv ps[i]).2)]).length:=by simp
    rw[el];refine Ab ih ?_;rfl
   .rw[if_neg heq,Ar7,Aun,eo]at ih
    have hlen:((r.map AJ).reverse++[AJ q]).length<=i:=by simp at hs ⊢;omega
    have e1:Ae.sub .i64 ((((r.map AJ).reverse++[AJ q]).length:Nat):Int) 1=(((r.map AJ).reverse.length:Nat):Int):=by
     rw[η,Asi];exact KX (by omega)
    have hlt:(r.map AJ).reverse.length<((r.map AJ).reverse++[AJ q]).length:=by simp
    rw[e1];refine Cg ?_;rw[Au,AN hlt];refine Ac ?_;refine(AhA _ (AJ q) _).trans ?_;simp only[ND,DK,Aa];refine Ba ?_ (show ¬(AJ q).v=ps[i].v from heq);generalize (r.map AJ).reverse++[AJ q]=o at hlen ih ⊢;have ho:=hlen;have hf:Bj (o.length+1) 40=Δ:=AY (by omega) (by omega);have hb1:ArY (0+o.length*3) (Ag eP o).length=Δ:=A1 Ay o (by omega);have e3:ArV 0 (ArQ (0+o.length*3) (Ag eP o))++[iv ps[i].v,bv (Av (zv ps[i].z)).neg,eN (Av (zv ps[i].z)).abs]=Ag eP (o++[AJ (pv ps[i])]):=by
     rw[ArT,Bk Ay o (by omega)];exact Bn eP o (AJ (pv ps[i]))
    refine Ab (hcp hzi) ?_;simp only[eZ,eN,ND,DK,Aa]at e3 ⊢;rw[hf];refine Ac ?_;rw[hb1];refine Ac ?_;rw[e3,BV (by omega)];rw[η,Asi]at ih;refine Ab ih ?_;rfl
end
section
variable {D:Orc} (Kt:Knows MW UZ D) (Z:ZF D) (hcp:∀{z:Zi},Lz 1000000000 z->D.ask (.fn 138) [.agg (eZ z)] []=Θ (.agg (eZ (Av (zv z))),[]))
 (hsort:∀ l:List Pt,l.length<=1000000000->∃ r:List Pt,D.ask (.fn 136) [.sl 0 0 l.length 3,Fs] [Ft l]=Θ (.tup [],[.set (Ft r)])/\r.length=l.length/\r.Perm l/\Srt Pt.v r 0 r.length)
 (hdel:∀ l:List Pt,l.length<=1000000000->(∀ p∈l,Lz 1000000000 p.z)->∃ cells:List AV,D.ask (.fn 140) [.sl 0 0 l.length 3,fnZ] [δ (Ag eP l) Δ Δ]
   = Θ (.sl 0 0 (l.filter λp=>!decide (zv p.z=0)).length 3,[.set (δ cells Δ Δ)])
   ∧ cells.take ((l.filter λp=>!decide (zv p.z=0)).length*3)=Ag eP (l.filter λp=>!decide (zv p.z=0))/\(l.filter λp=>!decide (zv p.z=0)).length*3<=cells.length)
include Kt Z hcp hsort hdel
theorem ZE{n k:Nat}{t:Tm}(h:TmB n k t)(hn:n<=1000000)(hk:k+n<=900000000)(gc:D.ask (.fn 135) [.ls (t.ps.map eP)] []=Θ (.sl 0 0 t.ps.length 3,[.set (Ft t.ps)])):∃ tl:List AV,D.ask (.fn 62) [.agg (eT t)] []=Θ (.agg [.sl 0 0 (AG t.lf.ps).length 3,bv (Av (zv t.k)).neg,eN (Av (zv t.k)).abs],[.set (δ (Ag eP ((AG t.lf.ps).map AJ)++tl) Δ Δ)]):=by
 obtain⟨ps,kz⟩:=t;have hlen:ps.length<=n:=h.len;obtain⟨r,gs,gr,gp,go⟩:=hsort ps (by omega);have gk:=hcp (h.k.mono (show k<=1000000000 by omega));have hzr:∀ p∈r,Lz k p.z:=λp hp=>h.ps p (gp.mem_iff.1 hp)
 have gl:=QO Kt Z hcp r (k:=k) (by omega) (by omega) hzr [] Φ [] (Av (zv kz)).neg ((Av (zv kz)).abs.map eL) _ 0 [] rfl (by omega) (by simp) (by simp);rw[ArT]at gl;have hsrt:(r.map pv).Pairwise λa b=>a.1<=b.1:=by
  rw[AtX];exact E0 Pt.v go
 have hpl:=RQ hsrt (gp.map pv);generalize hS:(r.map pv).foldl C0 []=S at gl hpl;have hsb:∀ p∈((S.map AJ).reverse),Lz 1000000000 p.z:=by
  have key:∀(t s:List (Int × Int)) (j:Nat),(∀ q∈s,InB (k+j) q.2)->(∀ q∈t,InB k q.2)->∀ q∈t.foldl C0 s,InB (k+j+t.length) q.2:=by
   intro t
   induction t with
   |nil=>intro s j hs _ q hq;exact hs q hq
   |cons p t ih=>
    intro s j hs ht q hq;have:=ih (C0 s p) (j+1) (HE hs ((ht p (υ ..)).mono (show k<=k+j by omega))) (λq hq=>ht q (γ _ hq)) q hq;rw[ε];exact this.mono (by omega)
  intro p hp;rw[Auv,Asj]at hp;obtain⟨q,hq,rfl⟩:=hp;have:=key (r.map pv) [] 0 (by simp) (λq hq=>by
   rw[Asj]at hq;obtain⟨p,hp,rfl⟩:=hq;exact(hzr p hp).inb) q (by rw[hS];exact hq)
  rw[Ar2]at this;exact(this.lz).mono (by omega)
 have hSl:S.length<=1000000:=by
  have key:∀(t s:List (Int × Int)),(t.foldl C0 s).length<=s.length+t.length:=by
   intro t
   induction t with
   |nil=>intro s;simp
   |cons p t ih=>
    intro s;have:=ih (C0 s p);have h2:=HI s p;rw[Atm,ε];omega
  have:=key (r.map pv) [];rw[hS,Ar2]at this;simp at this;omega
 obtain⟨cells,gd,gt,gle⟩:=hdel (S.map AJ).reverse (by simp;omega) hsb;have hfin:((S.map AJ).reverse).filter (λp=>!decide (zv p.z=0))=(AG (ps.map pv)).map AJ:=by
  rw[←hpl,←Avy,AvE]
  congr 1
  refine Avq λq _=>?_
  show (!decide (zv (Av q.2)=0))=_
  rw[Bf]
 rw[hfin]at gd gt gle;have hce:cells=Ag eP ((AG (ps.map pv)).map AJ)++cells.drop (((AG (ps.map pv)).map AJ).length*3):=by
  rw[←gt,AsU]
 refine⟨cells.drop (((AG (ps.map pv)).map AJ).length*3),?_⟩
 show _=Θ (ω [.sl 0 0 (AG (ps.map pv)).length 3,bv (Av (zv kz)).neg,eN (Av (zv kz)).abs],([.set (δ (Ag eP ((AG (ps.map pv)).map AJ)++cells.drop (((AG (ps.map pv)).map AJ).length*3)) Δ Δ)]:List BO))
 rw[←hce];refine AC Kt Oz (Am7 ..) ?_;refine Ab gc ?_;simp only[ND,DK,Aa];refine Ab gs ?_;simp only[ND,DK,Aa];refine Ab gk ?_;simp only[eZ,eN,ND,DK,Aa];rw[show ArY (0+ps.length*3) (Ag eP r).length=Δ from A1 Ay r (by omega)];refine Ac ?_;rw[Bw Ay r (by omega),←gr];refine Ab gl ?_;simp only[ND,DK,Aa];refine Ab gd ?_;simp only[Ar2,ND,DK,Aa]
theorem ZG{n k:Nat}{t:Tm}(h:TmB n k t)(hn:n<=1000000)(hk:k+n<=900000000){cs:List AV}(gc:D.ask (.fn 135) [.sl 0 0 t.ps.length 3] [δ cs Δ Δ]=Θ (.sl 1 0 t.ps.length 3,[.keep,.set (Ft t.ps)])):∃ tl:List AV,D.ask (.fn 62) [.agg [.sl 0 0 t.ps.length 3,bv t.k.neg,eN t.k.abs]] [δ cs Δ Δ]=Θ (.agg [.sl 1 0 (AG t.lf.ps).length 3,bv (Av (zv t.k)).neg,eN (Av (zv t.k)).abs],[.keep,.set (δ (Ag eP ((AG t.lf.ps).map AJ)++tl) Δ Δ)]):=by
 obtain⟨ps,kz⟩:=t;have hlen:ps.length<=n:=h.len;obtain⟨r,gs,gr,gp,go⟩:=hsort ps (by omega);have gk:=hcp (h.k.mono (show k<=1000000000 by omega));have hzr:∀ p∈r,Lz k p.z:=λp hp=>h.ps p (gp.mem_iff.1 hp)
 have gl:=QO Kt Z hcp r (k:=k) (by omega) (by omega) hzr [] Φ [] (Av (zv kz)).neg ((Av (zv kz)).abs.map eL) _ 0 [] rfl (by omega) (by simp) (by simp);rw[ArT]at gl;have hsrt:(r.map pv).Pairwise λa b=>a.1<=b.1:=by
  rw[AtX];exact E0 Pt.v go
 have hpl:=RQ hsrt (gp.map pv);generalize hS:(r.map pv).foldl C0 []=S at gl hpl;have hsb:∀ p∈((S.map AJ).reverse),Lz 1000000000 p.z:=by
  have key:∀(t s:List (Int × Int)) (j:Nat),(∀ q∈s,InB (k+j) q.2)->(∀ q∈t,InB k q.2)->∀ q∈t.foldl C0 s,InB (k+j+t.length) q.2:=by
   intro t
   induction t with
   |nil=>intro s j hs _ q hq;exact hs q hq
   |cons p t ih=>
    intro s j hs ht q hq;have:=ih (C0 s p) (j+1) (HE hs ((ht p (υ ..)).mono (show k<=k+j by omega))) (λq hq=>ht q (γ _ hq)) q hq;rw[ε];exact this.mono (by omega)
  intro p hp;rw[Auv,Asj]at hp;obtain⟨q,hq,rfl⟩:=hp;have:=key (r.map pv) [] 0 (by simp) (λq hq=>by
   rw[Asj]at hq;obtain⟨p,hp,rfl⟩:=hq;exact(hzr p hp).inb) q (by rw[hS];exact hq)
  rw[Ar2]at this;exact(this.lz).mono (by omega)
 have hSl:S.length<=1000000:=by
  have key:∀(t s:List (Int × Int)),(t.foldl C0 s).length<=s.length+t.length:=by
   intro t
   induction t with
   |nil=>intro s;simp
   |cons p t ih=>
    intro s;have:=ih (C0 s p);have h2:=HI s p;rw[Atm,ε];omega
  have:=key (r.map pv) [];rw[hS,Ar2]at this;simp at this;omega
 obtain⟨cells,gd,gt,gle⟩:=hdel (S.map AJ).reverse (by simp;omega) hsb;have hfin:((S.map AJ).reverse).filter (λp=>!decide (zv p.z=0))=(AG (ps.map pv)).map AJ:=by
  rw[←hpl,←Avy,AvE]
  congr 1
  refine Avq λq _=>?_
  show (!decide (zv (Av q.2)=0))=_
  rw[Bf]
 rw[hfin]at gd gt gle;have hce:cells=Ag eP ((AG (ps.map pv)).map AJ)++cells.drop (((AG (ps.map pv)).map AJ).length*3):=by
  rw[←gt,AsU]
 refine⟨cells.drop (((AG (ps.map pv)).map AJ).length*3),?_⟩
 show _=Θ (ω [.sl 1 0 (AG (ps.map pv)).length 3,bv (Av (zv kz)).neg,eN (Av (zv kz)).abs],([.keep,.set (δ (Ag eP ((AG (ps.map pv)).map AJ)++cells.drop (((AG (ps.map pv)).map AJ).length*3)) Δ Δ)]:List BO))
 rw[←hce];refine AC Kt Aca (Am8 ..) ?_;refine Ab gc ?_;simp only[ND,DK,Aa];refine Ab gs ?_;simp only[ND,DK,Aa];refine Ab gk ?_;simp only[eZ,eN,ND,DK,Aa];rw[show ArY (0+ps.length*3) (Ag eP r).length=Δ from A1 Ay r (by omega)];refine Ac ?_;rw[Bw Ay r (by omega),←gr];refine Ab gl ?_;simp only[ND,DK,Aa];refine Ab gd ?_;simp only[Ar2,ND,DK,Aa]
end
theorem Tq:CloneF DTk where
 nat l h:=Aay (IC h)
theorem S6:ZF DTk:=Aet Ajl Ajr Tq
theorem AkG:DivF DTk where
 div _ _ ha hal hb hbl:=Aih (Aor ha hal hb hbl)
theorem Amm:ZdF DTk:=Akf Ajl Ajr Tq AnL AkG
theorem UU:SeatOk ArP Bx BT:=Z7 ⟨E7,GO,(Ang _),trivial⟩
theorem Zb(f:Nat):Bu (BD ArP f) ((AL Ae BT).ask (.fn f)):=Do UU f
theorem AmN(l:List Pt)(hl:l.length<=1000000000)(hz:∀ p∈l,Lz 1000000000 p.z):∃ cells:List AV,DTk.ask (.fn 140) [.sl 0 0 l.length 3,fnZ] [δ (Ag eP l) Δ Δ]
   = Θ (.sl 0 0 (l.filter λp=>!decide (zv p.z=0)).length 3,[.set (δ cells Δ Δ)])
   ∧ cells.take ((l.filter λp=>!decide (zv p.z=0)).length*3)=Ag eP (l.filter λp=>!decide (zv p.z=0))/\(l.filter λp=>!decide (zv p.z=0)).length*3<=cells.length:=
 Abf Ack (λp=>decide (zv p.z=0)) l hl (λp hp=>Qv Ack S6 (hz p hp))
