/- Functions of the program -/
import Derived.Test.YtpncilciembjdaaGreatDoorDAU
set_option linter.all false
open Bool renaming false->Φ,true->Δ,false_or->Ass
open Int renaming add_mul->Ash,le_refl->AsJ,lt_trichotomy->ArV,mul_assoc->AsM,mul_zero->AtZ,natAbs_natCast->ArS,zero_mul->At0
open List renaming drop_append->Asu,drop_zero->Ap4,ext_getElem?->Atr,getD_eq_getElem?_getD->AsN,getElem?_drop->AqT,getElem?_eq_getElem->φ,getElem?_eq_none->Ard,getElem?_set_ne->Aq5,getElem?_set_self->Arj,getElem?_take->Aqo,getElem_mem->Aqg,length_cons->ο,length_set->Aqc,map_cons->Ap5,mem_cons->ApT,mem_cons_of_mem->π,mem_cons_self->ι,mem_filter->Aro,mem_iff_getElem?->Atb,mem_map->Aqm,mem_singleton->Aqp,pairwise_cons->AqI,pairwise_singleton->ArP,take_append_drop->AqU
open Nat renaming add_assoc->Aqu,add_mul->Aqz,add_sub_cancel->Aq0,add_zero->AqJ,ble->Ap3,dvd_mul_left->AsZ,dvd_refl->At6,dvd_sub->Atw,dvd_trans->AtV,dvd_zero->At7,eq_zero_or_pos->Aq7,gcd->ArK,gcd_comm->At8,gcd_le_left->AtI,gcd_zero_left->Att,gcd_zero_right->Atn,le_of_dvd->Ath,le_refl->κ,le_trans->Aqs,min_eq_left->AqW,min_eq_right->As1,one_mul->Aq8,pow_le_pow_right->ArO,strongRecOn->Arp,zero_add->Ap6,zero_mul->Arn
open Option renaming some->Θ
namespace Go.Proofs.YtpncilciembjdaaGreatDoor
open ABlk renaming mk->θ
open AV renaming agg->ω,ls->Ψ,ptr->Aqk
section
open Go.RowKit
variable (A:Ar) (D:Orc)
end
open Go.RowKit

section
variable {D:Orc} (K:Knows Av GY D) (Z:Knows Av IY D) (C:CloneF D)
include K Z C
theorem El(neg:Bool){a:List Nat}(ha:Limbs a)(hs:CA a):D.ask (.fn 145) [bv neg,eN a] []=Θ (.agg (eZ (Ap (E0 neg (Ae a)))),[]):=by
 refine AI Z Ah3 (An5 ..) ?_;refine Ab (Fw K C hs ha) ?_;simp only[eN,ND,DK,Aa,Aw];rw[SE];unfold eZ eN
 cases neg with
 |false=>rfl
 |true=>
  refine Ac ?_;refine Ac ?_;refine Ac ?_;have hp:=@EN (Ae a)
  by_cases h:0<Ae a
  .refine Al ?_ (by have:=hp.2 h;omega)
   rw[decide_eq_true h];rfl
  .refine Ak ?_ (by intro e;exact h (hp.1 (by omega)))
   rw[decide_eq_false h];rfl
theorem Nt{z:Zi}(hz:Lz 1000000000 z):D.ask (.fn 142) [.agg (eZ z)] []=Θ (.agg (eZ (Ap (zv z))),[]):=by
 refine AI Z Ah1 (An3 ..) ?_;refine Ab (El K Z C z.neg hz.lim hz.len) ?_;rfl
theorem X6{z:Zi}(hz:Lz 1000000000 z):D.ask (.fn 161) [.agg (eZ z)] []=Θ (.agg (eZ (Ap (-zv z))),[]):=by
 have e:-zv z=E0 (!z.neg) (Ae z.abs):=by
  unfold zv E0
  cases z.neg<;>simp
 rw[e];refine AI Z Aib (Aof ..) ?_;rw[AiZ];have g:=λb=>El K Z C b hz.lim hz.len
 cases z.neg with
 |false=>
  refine Ac ?_;refine Ab (g Δ) ?_;rfl
 |true=>
  refine B1 ?_;refine Ab (g Φ) ?_;rfl
theorem KP{z:Zi}(hz:Lz 1000000000 z):D.ask (.fn 64) [.agg (eZ z)] []=Θ (iv (Fs (zv z)),[]):=by
 refine AI Z Amj (e64 ..) ?_;refine Ab (Nt K Z C hz) ?_;simp only[eZ,eN,ND,DK,Aa,Aw];unfold Ap Fs
 by_cases h:zv z<0
 .rw[if_pos h,decide_eq_true h]
  rfl
 .rw[if_neg h,decide_eq_false h]
  refine B1 ?_;have hp:=@EN (zv z).natAbs
  by_cases h2:0<zv z
  .rw[if_pos h2]
   refine Al ?_ (by have:=hp.2 (by omega);dsimp only;omega);rfl
  .rw[if_neg h2]
   refine Ak ?_ (by dsimp only;intro e;have:=hp.1 (by omega);omega);rfl
theorem AdA(n:Int)(h1:-9223372036854775808<=n)(h2:n<9223372036854775808):D.ask (.fn 126) [iv n] []=Θ (.agg (eZ (Ap n)),[]):=by
 refine AI Z AhU (AnW ..) ?_;have hl:∀ m:Nat,m<18446744073709551616->(Aj m).length<=2:=λm h=>B4 (by omega)
 by_cases h:n<0
 .refine Al ?_ h
  have e1:Ad.add .i64 n 1=n+1:=EG (by omega) (by omega);have e2:Ad.sub .i64 0 (n+1)=((n.natAbs-1:Nat):Int):=by rw[EH (by omega) (by omega)];omega
  rw[e1,e2,A1 (by omega),show (1:Int)=((1:Nat):Int) from rfl,Cq (by omega),show n.natAbs-1+1=n.natAbs by omega];refine Ab (AhE K C n.natAbs (by omega)) ?_;simp only[eN,ND,DK,Aa];have g:=El K Z C Δ (Aq n.natAbs) (by unfold CA;have:=hl n.natAbs (by omega);omega);rw[Az,show E0 Δ n.natAbs=n by unfold E0;rw[if_pos rfl];omega]at g;refine Ab g ?_;rfl
 .refine Ak ?_ h
  obtain⟨m,rfl⟩:=Int.eq_ofNat_of_zero_le (show 0<=n by omega);rw[A1 (by omega)];refine Ab (AhE K C m (by omega)) ?_;simp only[eN,ND,DK,Aa];have g:=El K Z C Φ (Aq m) (by unfold CA;have:=hl m (by omega);omega);rw[Az,show E0 Φ m=(m:Int) from rfl]at g;refine Ab g ?_;rfl
theorem Ahz{a b:Zi}(ha:Lz 1000000000 a)(hb:Lz 1000000000 b):D.ask (.fn 155) [.agg (eZ a),.agg (eZ b)] []=Θ (iv (Cr (zv a) (zv b)),[]):=by
 refine AI Z Ah7 (Aoa ..) ?_;refine Ab (KP K Z C ha) ?_;simp only[ND,DK,Aa];refine Ab (KP K Z C hb) ?_;simp only[ND,DK,Aa];have g1:=UT K (a:=b.abs) (b:=a.abs) hb.len hb.lim ha.len ha.lim;have g2:=UT K (a:=a.abs) (b:=b.abs) ha.len ha.lim hb.len hb.lim;have na:=AdF a;have nb:=AdF b;have za:=X7 a;have zb:=X7 b;have va:zv a=E0 a.neg (Ae a.abs):=rfl;have vb:zv b=E0 b.neg (Ae b.abs):=rfl;unfold Fs
 by_cases h1:zv a<0
 .rw[if_pos h1]
  rw[E0,if_pos (na.1 h1).1]at va
  by_cases h2:zv b<0
  .rw[if_pos h2]
   rw[E0,if_pos (nb.1 h2).1]at vb;refine Ak ?_ (by decide);refine Ak ?_ (by decide);refine Al ?_ (by decide);refine Ab g1 ?_;rw[show Cr (zv a) (zv b)=Do (Ae b.abs) (Ae a.abs) by
    unfold Cr Do;rw[va,vb]
    by_cases h3:Ae b.abs<Ae a.abs
    .rw[if_pos (by omega),if_pos h3]
    .rw[if_neg (by omega),if_neg h3]
     by_cases h4:Ae a.abs<Ae b.abs
     .rw[if_pos (by omega),if_pos h4]
     .rw[if_neg (by omega),if_neg h4]]
   rfl
  .rw[if_neg h2]
   rw[show Cr (zv a) (zv b)=-1 by unfold Cr;rw[if_pos (by omega)]]
   by_cases h3:0<zv b
   .rw[if_pos h3];rfl
   .rw[if_neg h3];rfl
 .rw[if_neg h1]
  by_cases h2:zv b<0
  .rw[if_pos h2]
   rw[show Cr (zv a) (zv b)=1 by unfold Cr;rw[if_neg (by omega),if_pos (by omega)]]
   by_cases h3:0<zv a
   .rw[if_pos h3];rfl
   .rw[if_neg h3];rfl
  .rw[if_neg h2]
   have ea:zv a=(Ae a.abs:Int):=by
    by_cases h:0<Ae a.abs
    .rw[va,E0,if_neg (λe=>h1 (na.2 ⟨e,h⟩))]
    .rw[za.2 (by omega)];omega
   have eb:zv b=(Ae b.abs:Int):=by
    by_cases h:0<Ae b.abs
    .rw[vb,E0,if_neg (λe=>h2 (nb.2 ⟨e,h⟩))]
    .rw[zb.2 (by omega)];omega
   have ec:Cr (zv a) (zv b)=Do (Ae a.abs) (Ae b.abs):=by
    unfold Cr Do;rw[ea,eb]
    by_cases h3:Ae a.abs<Ae b.abs
    .rw[if_pos (by omega),if_pos h3]
    .rw[if_neg (by omega),if_neg h3]
     by_cases h4:Ae b.abs<Ae a.abs
     .rw[if_pos (by omega),if_pos h4]
     .rw[if_neg (by omega),if_neg h4]
   rw[ec]
   by_cases h3:0<zv a
   .rw[if_pos h3]
    by_cases h4:0<zv b
    .rw[if_pos h4]
     refine Ak ?_ (by decide);refine Ak ?_ (by decide);refine Ak ?_ (by decide);refine Ab g2 ?_;rfl
    .rw[if_neg h4]
     refine Ak ?_ (by decide);refine Al ?_ (by decide);rw[show Do (Ae a.abs) (Ae b.abs)=1 by unfold Do;rw[if_neg (by omega),if_pos (by omega)]]
   .rw[if_neg h3]
    by_cases h4:0<zv b
    .rw[if_pos h4]
     refine Al ?_ (by decide);rw[show Do (Ae a.abs) (Ae b.abs)=-1 by unfold Do;rw[if_pos (by omega)]]
    .rw[if_neg h4]
     refine Ak ?_ (by decide);refine Ak ?_ (by decide);refine Ak ?_ (by decide);refine Ab g2 ?_;rfl
theorem SC{k:Nat}(hk:k<=900000000){a b:Zi}(ha:Lz k a)(hb:Lz k b):D.ask (.fn 139) [.agg (eZ a),.agg (eZ b)] []=Θ (.agg (eZ (Ap (zv a+zv b))),[]):=by
 have la:=ha.len;have lb:=hb.len;refine AI Z AhZ (An1 ..) ?_;have hfr:∀(neg:Bool) (n:Nat),n<4294967296 ^ (k+1)->D.ask (.fn 145) [bv neg,eN (Aj n)] []=Θ (.agg (eZ (Ap (E0 neg n))),[]):=λneg n h=>by
  have:=El K Z C neg (Aq n) (by unfold CA;have:=B4 h;omega)
  rwa [Az]at this
 have ba:=B8 ha.lim;have bb:=B8 hb.lim;have pa:4294967296 ^ a.abs.length<=4294967296 ^ k:=ArO (by omega) la;have pb:4294967296 ^ b.abs.length<=4294967296 ^ k:=ArO (by omega) lb;have ps:4294967296 ^ (k+1)=4294967296 ^ k*4294967296:=Nat.pow_succ ..
 by_cases h:a.neg=b.neg
 .rw[Acs,show (a.neg == b.neg)=Δ by simpa using h]
  refine Ac ?_;refine Ab (Aja K C (by omega) ha.lim (by omega) hb.lim) ?_;simp only[eN,ND,DK,Aa];refine Ab (hfr a.neg (Ae a.abs+Ae b.abs) (by omega)) ?_;rw[show E0 a.neg (Ae a.abs+Ae b.abs)=zv a+zv b by
   unfold zv;rw[←h];unfold E0;split<;>omega]
  rfl
 .rw[Acs,show (a.neg == b.neg)=Φ by simpa using h]
  refine B1 ?_;have hop:zv a+zv b=E0 a.neg (Ae a.abs)+E0 (!a.neg) (Ae b.abs):=by
   unfold zv;have:b.neg = !a.neg:=by
    revert h
    cases a.neg<;>cases b.neg<;>simp
   rw[this]
  have g1:=Aab K C (a:=a.abs) (b:=b.abs) (by unfold CA;omega) ha.lim (by unfold CA;omega) hb.lim;have g2:=Aab K C (a:=b.abs) (b:=a.abs) (by unfold CA;omega) hb.lim (by unfold CA;omega) ha.lim;unfold AaU at g1 g2;refine Ab g1 ?_
  by_cases hle:Ae b.abs<=Ae a.abs
  .rw[if_pos hle]
   simp only[eN,ND,DK,Aa];refine Ab (hfr a.neg (Ae a.abs-Ae b.abs) (by omega)) ?_;rw[show E0 a.neg (Ae a.abs-Ae b.abs)=zv a+zv b by
    rw[hop];unfold E0
    cases a.neg<;>simp<;>omega]
   rfl
  .rw[if_neg hle]
   rw[if_pos (by omega)]at g2;simp only[eN,ND,DK,Aa];refine Ab g2 ?_;simp only[eN,ND,DK,Aa];refine Ab (hfr b.neg (Ae b.abs-Ae a.abs) (by omega)) ?_;rw[show E0 b.neg (Ae b.abs-Ae a.abs)=zv a+zv b by
    rw[hop];have:b.neg = !a.neg:=by
     revert h
     cases a.neg<;>cases b.neg<;>simp
    rw[this];unfold E0
    cases a.neg<;>simp<;>omega]
   rfl
theorem AhB{k m:Nat}(hk:k<=400000000)(hkm:m<=400000000){a b:Zi}(ha:Lz k a)(hb:Lz m b)(h24:a.abs.length<24\/b.abs.length<24):D.ask (.fn 158) [.agg (eZ a),.agg (eZ b)] []=Θ (.agg (eZ (Ap (zv a*zv b))),[]):=by
 have la:=ha.len;have lb:=hb.len;refine AI Z Ah9 (Aod ..) ?_;have hm:InB (k+m) (zv a*zv b):=ha.inb.mul hb.inb;have hab:(zv a*zv b).natAbs=Ae a.abs*Ae b.abs:=by
  have f:∀ z:Zi,(zv z).natAbs=Ae z.abs:=λz=>by
   unfold zv E0;split
   .rw[Int.natAbs_neg];rfl
   .rfl
  rw[Int.natAbs_mul,f,f]
 unfold InB at hm;rw[hab]at hm;have hl:=B4 hm;have hfr:∀(neg:Bool),D.ask (.fn 145) [bv neg,eN (Aj (Ae a.abs*Ae b.abs))] []=Θ (.agg (eZ (Ap (E0 neg (Ae a.abs*Ae b.abs)))),[]):=λneg=>by
  have:=El K Z C neg (Aq (Ae a.abs*Ae b.abs)) (by unfold CA;omega)
  rwa [Az]at this
 have g:=Ajg K C (by omega) ha.lim (by omega) hb.lim h24;have hs:E0 (a.neg != b.neg) (Ae a.abs*Ae b.abs)=zv a*zv b:=by
  unfold zv E0
  cases a.neg<;>cases b.neg<;>simp[Int.mul_neg,Int.neg_mul]
 rw[AiZ,Acs]
 by_cases h:a.neg=b.neg
 .rw[show (!(a.neg == b.neg))=Φ by simp[h]]
  rw[show (a.neg != b.neg)=Φ by simp[h]]at hs;refine B1 ?_;refine Ab g ?_;simp only[eN,ND,DK,Aa];refine Ab (hfr Φ) ?_;rw[hs];rfl
 .rw[show (!(a.neg == b.neg))=Δ by simp[h]]
  rw[show (a.neg != b.neg)=Δ by simp[h]]at hs;refine Ac ?_;refine Ab g ?_;simp only[eN,ND,DK,Aa];refine Ab (hfr Δ) ?_;rw[hs];rfl
end
section
open Go.RowKit
variable (A:Ar) (D:Orc)
end

structure ZF (D:Orc):Prop where
 frm:∀ z:Zi,Lz 1000000000 z->D.ask (.fn 145) [bv z.neg,eN z.abs] []=Θ (.agg (eZ (Ap (zv z))),[])
 neg:∀ z:Zi,Lz 1000000000 z->D.ask (.fn 161) [.agg (eZ z)] []=Θ (.agg (eZ (Ap (-zv z))),[])
 sign:∀ z:Zi,Lz 1000000000 z->D.ask (.fn 64) [.agg (eZ z)] []=Θ (iv (Fs (zv z)),[])
 of_:∀ n:Int,-9223372036854775808<=n->n<9223372036854775808->D.ask (.fn 126) [iv n] []=Θ (.agg (eZ (Ap n)),[])
 cmp:∀ a b:Zi,Lz 1000000000 a->Lz 1000000000 b->D.ask (.fn 155) [.agg (eZ a),.agg (eZ b)] []=Θ (iv (Cr (zv a) (zv b)),[])
 add:∀ a b:Zi,Lz 900000000 a->Lz 900000000 b->D.ask (.fn 139) [.agg (eZ a),.agg (eZ b)] []=Θ (.agg (eZ (Ap (zv a+zv b))),[])
 mul:∀ a b:Zi,Lz 400000000 a->Lz 400000000 b->a.abs.length<24\/b.abs.length<24->D.ask (.fn 158) [.agg (eZ a),.agg (eZ b)] []=Θ (.agg (eZ (Ap (zv a*zv b))),[])
theorem AdC{D:Orc}(K:Knows Av GY D)(Z:Knows Av IY D)(C:CloneF D):ZF D where
 frm z h:=by
  have:=El K Z C z.neg h.lim (by unfold CA;exact h.len);exact this
 neg z h:=X6 K Z C h
 sign z h:=KP K Z C h
 of_ n h1 h2:=AdA K Z C n h1 h2
 cmp a b ha hb:=Ahz K Z C ha hb
 add a b ha hb:=SC K Z C (κ _) ha hb
 mul a b ha hb h:=AhB K Z C (κ _) (κ _) ha hb h
structure RF (D:Orc):Prop where
 clean:∀ z:Zi,Lz 1000000000 z->D.ask (.fn 75) [.agg (eZ z)] []=Θ (.agg (eZ (Ap (zv z))),[])
 neg:∀ z:Zi,Lz 1000000000 z->D.ask (.fn 179) [.agg (eZ z)] []=Θ (.agg (eZ (Ap (-zv z))),[])
 sign:∀ z:Zi,Lz 1000000000 z->D.ask (.fn 69) [.agg (eZ z)] []=Θ (iv (Fs (zv z)),[])
 of_:∀ n:Int,-9223372036854775808<n->n<9223372036854775808->D.ask (.fn 56) [iv n] []=Θ (.agg (eZ (Ap n)),[])
 cmp:∀ a b:Zi,Lz 900000000 a->Lz 900000000 b->D.ask (.fn 53) [.agg (eZ a),.agg (eZ b)] []=Θ (iv (Fs (zv a-zv b)),[])
 add:∀ a b:Zi,Lz 900000000 a->Lz 900000000 b->D.ask (.fn 122) [.agg (eZ a),.agg (eZ b)] []=Θ (.agg (eZ (Ap (zv a+zv b))),[])
 mul:∀ a b:Zi,Lz 400000000 a->Lz 400000000 b->D.ask (.fn 123) [.agg (eZ a),.agg (eZ b)] []=Θ (.agg (eZ (Ap (zv a*zv b))),[])
 same:∀ a b:Zi,Lz 1000000000 a->D.ask (.fn 152) [.agg (eZ a),.agg (eZ b)] []=Θ (bv (decide (a.neg=b.neg/\a.abs=b.abs)),[])
section
open Go.RowKit
variable (A:Ar) (D:Orc)
end

section
open Go.RowKit
variable (A:Ar) (D:Orc)
end

structure DivF (D:Orc):Prop where
 div:∀ a b:List Nat,Limbs a->a.length<=999999990->Limbs b->b.length<=999999990->D.ask (.fn 144) [eN a,eN b] []
  = Θ (if Ae b=0 then .tup [.ls [],.ls [],iv 10] else .tup [eN (Aj (Ae a / Ae b)),eN (Aj (Ae a % Ae b)),iv 0],[])
section
variable {D:Orc} (K:Knows Av GY D) (Z:Knows Av IY D) (C:CloneF D) (G:Knows Av Qz D) (V:DivF D)
include G V
theorem AjP:∀(n a b:Nat),b<=n->(Aj a).length<=999999980->(Aj b).length<=999999980->D.ask (.lp 205 0) [eN (Aj a),eN (Aj b)] []=Θ (.tup [iv 0,eN (Aj (ArK a b))],[]):=by
 intro n
 induction n with
 |zero=>
  intro a b hb _ _;obtain rfl:b=0:=by omega
  refine Ax G P5 (Vh ..) ?_;rw[CW,Atn];exact C3 (by decide)
 |succ n ih=>
  intro a b hb hal hbl
  by_cases h0:b=0
  .subst h0
   refine Ax G P5 (Vh ..) ?_;rw[CW,Atn];exact C3 (by decide)
  .have hne:0<(Aj b).length:=EN.2 (by omega)
   have hm:=Nat.mod_lt a (show 0<b by omega);have lr:(Aj (a % b)).length<=(Aj b).length:=B4 (by
    have:=B8 (Aq b);rw[Az]at this;omega)
   have g:=V.div _ _ (Aq a) (by omega) (Aq b) (by omega);rw[Az,Az,if_neg h0]at g;refine Ax G P5 (Vh ..) ?_;rw[Aw];refine Al ?_;refine Ab g ?_;simp only[eN,ND,DK,Aa];refine Ab (ih b (a % b) (by omega) hbl (by omega)) ?_;rw[At8 b,←Nat.gcd_rec,At8];rfl
include K C
theorem Aje{a b:List Nat}(ha:Limbs a)(hal:a.length<=999999980)(hb:Limbs b)(hbl:b.length<=999999980):D.ask (.fn 205) [eN a,eN b] []=Θ (eN (Aj (ArK (Ae a) (Ae b))),[]):=by
 have la:(Aj (Ae a)).length<=999999980:=by rw[Dq a ha];have:=CB a;omega
 have lb:(Aj (Ae b)).length<=999999980:=by rw[Dq b hb];have:=CB b;omega
 refine AI G P5 (Aoq ..) ?_;refine Ab (Fw K C (by unfold CA;omega) ha) ?_;simp only[eN,ND,DK,Aa];refine Ab (Fw K C (by unfold CA;omega) hb) ?_;simp only[eN,ND,DK,Aa];refine Ab (AjP G V _ _ _ (κ _) la lb) ?_;simp only[eN,ND,DK,Aa]
include Z
omit V in
theorem AhC{a b:Zi}(ha:Lz 900000000 a)(hb:Lz 900000000 b):D.ask (.fn 146) [.agg (eZ a),.agg (eZ b)] []=Θ (.agg (eZ (Ap (zv a-zv b))),[]):=by
 have g:=SC K Z C (κ _) ha (hb.inb.neg.lz);rw[AU,←Int.sub_eq_add_neg]at g;refine AI G Ah4 (An6 ..) ?_;refine Ab (X6 K Z C (hb.mono (by omega))) ?_;simp only[eZ,eN,ND,DK,Aa];refine Ab g ?_;simp only[eZ,eN,ND,DK,Aa]
theorem X5{a b:Zi}(ha:Lz 800000000 a)(hb:Lz 800000000 b):D.ask (.fn 66) [.agg (eZ a),.agg (eZ b)] []
  = Θ (if zv b=0 then .tup [.agg [bv Φ,.ls []],.agg [bv Φ,.ls []],iv 10] else .tup [.agg (eZ (Ap (qZ (zv a) (zv b)))),.agg (eZ (Ap (rZ (zv a) (zv b)))),iv 0],[]):=by
 have hia:=ha.inb;have hib:=hb.inb;have la:=hia.lz;have lb:=hib.lz;have gd:=V.div _ _ la.lim (by have:=la.len;omega) lb.lim (by have:=lb.len;omega);rw[show (Ap (zv a)).abs=Aj (zv a).natAbs from rfl,show (Ap (zv b)).abs=Aj (zv b).natAbs from rfl,Az,Az]at gd;refine AI G Amk (e66 ..) ?_;refine Ab (Nt K Z C (ha.mono (by omega))) ?_;simp only[eZ,eN,ND,DK,Aa];refine Ab (Nt K Z C (hb.mono (by omega))) ?_;simp only[eZ,eN,ND,DK,Aa];rw[show (Ap (zv a)).neg=decide (zv a<0) from rfl,show (Ap (zv b)).neg=decide (zv b<0) from rfl];generalize zv a=x at *;generalize zv b=y at *;refine Ab gd ?_
 by_cases h0:y=0
 .rw[if_pos h0,if_pos (by rw[h0];rfl)]
  simp only[ND,DK,Aa];exact Cj (by decide)
 .rw[if_neg h0,if_neg (by omega)]
  simp only[eN,ND,DK,Aa];refine BF ?_ (by decide);have hu:=Abu hia y;have hv:=TB hib h0 x;have fu:=λs=>El K Z C s (Aq (uN x y)) (by unfold CA;have:=(hu Δ).lz.len;rw[SE]at this;dsimp only at this;omega)
  have fv:=λs=>El K Z C s (Aq (vN x y)) (by unfold CA;have:=(hv Δ).lz.len;rw[SE]at this;dsimp only at this;omega)
  simp only[Az]at fu fv;rw[show x.natAbs / y.natAbs=uN x y from rfl,show x.natAbs % y.natAbs=vN x y from rfl,Aw];rw[show Ad.not (Ad.beq (decide (x<0)) (decide (y<0)))=dS x y from rfl];unfold qZ rZ;have hlv:=@EN (vN x y)
  cases hs:dS x y with
  |true=>
   refine Ac ?_;refine Ab (fu Δ) ?_;simp only[eZ,eN,BX,Ce,Dj,BN,Bt,DK];refine Ab (fv _) ?_;simp only[eZ,eN,BX,Ce,Dj,BN,Bt,DK];refine Ac ?_
   by_cases hv0:0<vN x y
   .refine Al ?_ (by have:=hlv.2 hv0;omega)
    rw[if_pos ⟨trivial,hv0⟩,if_pos ⟨trivial,hv0⟩];have g1:=AdA K Z C 1 (by decide) (by decide);have g2:=AhC K Z C G (a:=Ap (E0 Δ (uN x y))) (b:=Ap 1) ((hu Δ).lz.mono (by omega)) ((InB.one (k:=1) (by omega)).lz.mono (by omega));have g3:=SC K Z C (κ _) (a:=Ap (E0 (decide (x<0)) (vN x y))) (b:=Ap y) ((hv _).lz.mono (by omega)) (lb.mono (by omega));rw[AU,AU]at g2 g3;refine Ab g1 ?_;simp only[eZ,eN,BX,Ce,Dj,BN,Bt,DK];refine Ab g2 ?_;simp only[eZ,eN,BX,Ce,Dj,BN,Bt,DK];refine Ab g3 ?_;simp only[eZ,eN,BX,Ce,Dj,BN,Bt,DK]
   .refine Ak ?_ (by intro h;exact hv0 (hlv.1 (by omega)))
    rw[if_neg (λh=>hv0 h.2),if_neg (λh=>hv0 h.2)]
  |false=>
   refine B1 ?_;refine Ab (fu Φ) ?_;simp only[eZ,eN,BX,Ce,Dj,BN,Bt,DK];refine Ab (fv _) ?_;simp only[eZ,eN,BX,Ce,Dj,BN,Bt,DK];refine B1 ?_;rw[if_neg (λh=>by cases h.1),if_neg (λh=>by cases h.1)]
theorem Z0{a b:Zi}(ha:Lz 800000000 a)(hb:Lz 800000000 b):D.ask (.fn 143) [.agg (eZ a),.agg (eZ b)] []
  = Θ (if zv b=0 then .tup [.agg [bv Φ,.ls []],iv 10] else if rZ (zv a) (zv b)=0 then .tup [.agg (eZ (Ap (qZ (zv a) (zv b)))),iv 0] else .tup [.agg [bv Φ,.ls []],iv 1],[]):=by
 have hia:=ha.inb;have hib:=hb.inb;refine AI G Ah2 (An4 ..) ?_;refine Ab (X5 K Z C G V ha hb) ?_;generalize zv a=x at *;generalize zv b=y at *
 by_cases h0:y=0
 .rw[if_pos h0,if_pos h0]
  simp only[ND,DK,Aa];exact Cj (by decide)
 .rw[if_neg h0,if_neg h0]
  have hr:InB 800000001 (rZ x y):=by
   unfold rZ;split
   .exact(TB hib h0 x _).add hib
   .exact(TB hib h0 x _).mono (by omega)
  have gs:=KP K Z C (z:=Ap (rZ x y)) (hr.lz.mono (by omega));rw[AU]at gs;simp only[eZ,eN,ND,DK,Aa];refine BF ?_ (by decide);refine Ab gs ?_;simp only[ND,DK,Aa]
  by_cases h1:rZ x y=0
  .rw[if_pos h1,h1]
   exact D9 (by decide)
  .rw[if_neg h1]
   refine(Cj ?_).trans ?_
   .unfold Fs
    split
    .omega
    .rw[if_pos (by omega)];omega
   .rfl
theorem AhA{a b:Zi}(ha:Lz 900000000 a)(hb:Lz 900000000 b):D.ask (.fn 147) [.agg (eZ a),.agg (eZ b)] []=Θ (.agg (eZ (Ap (ArK (zv a).natAbs (zv b).natAbs:Nat))),[]):=by
 have hia:=ha.inb;have la:=ha.len;have lb:=hb.len;rw[Qj,Qj];have hlen:(Aj (ArK (Ae a.abs) (Ae b.abs))).length<=900000000:=by
  rcases Aq7 (Ae a.abs) with h|h
  .rw[h,Att]
   exact Aqs (B4 (B8 hb.lim)) lb
  .refine Aqs (B4 (k:=a.abs.length) ?_) la
   have:=AtI (Ae b.abs) h;have:=B8 ha.lim;omega
 have g:=El K Z C Φ (Aq (ArK (Ae a.abs) (Ae b.abs))) (by unfold CA;omega);rw[Az,show E0 Φ (ArK (Ae a.abs) (Ae b.abs))=((ArK (Ae a.abs) (Ae b.abs):Nat):Int) from rfl]at g;refine AI G Ah5 (An7 ..) ?_;refine Ab (Aje K C G V ha.lim (by omega) hb.lim (by omega)) ?_;simp only[eN,ND,DK,Aa];refine Ab g ?_;simp only[eZ,eN,ND,DK,Aa]
end
def AZ(v:Int):List (Int × Int)->Int
 |[]=>0
 |p::r=>(if p.1=v then p.2 else 0)+AZ v r
theorem E8{v:Int}:∀{l:List (Int × Int)},(∀ p∈l,p.1≠v)->AZ v l=0
 |[],_=>rfl
 |p::r,h=>by
  rw[AZ,if_neg (h p (ι ..)),E8 λq hq=>h q (π _ hq)];rfl
theorem Ny{v:Int}{a b:List (Int × Int)}(h:a.Perm b):AZ v a=AZ v b:=by
 induction h with
 |nil=>rfl
 |cons x _ ih=>rw[AZ,AZ,ih]
 |swap x y l=>rw[AZ,AZ,AZ,AZ];omega
 |trans _ _ ih1 ih2=>rw[ih1,ih2]
structure Pln (l:List (Int × Int)):Prop where
 asc:l.Pairwise λa b=>a.1<b.1
 pos:∀ p∈l,0<=p.1
 nz:∀ p∈l,p.2≠0
theorem RV:Pln []:=⟨.nil,by simp,by simp⟩
theorem Pln.tail{p:Int × Int}{r:List (Int × Int)}(h:Pln (p::r)):Pln r:=⟨(AqI.1 h.asc).2,λq hq=>h.pos q (π _ hq),λq hq=>h.nz q (π _ hq)⟩
theorem Pln.head{p:Int × Int}{r:List (Int × Int)}(h:Pln (p::r)):AZ p.1 (p::r)=p.2:=by
 rw[AZ,if_pos rfl,E8 λq hq=>by have:=(AqI.1 h.asc).1 q hq;omega];omega
theorem Pln.below{p:Int × Int}{r:List (Int × Int)}(h:Pln (p::r)){v:Int}(hv:v<p.1):AZ v (p::r)=0:=by
 refine E8 λq hq=>?_
 rcases ApT.1 hq with rfl|hq
 .omega
 .have:=(AqI.1 h.asc).1 q hq
  omega
theorem Pln.ext:∀{a b:List (Int × Int)},Pln a->Pln b->(∀ v,AZ v a=AZ v b)->a=b
 |[],[],_,_,_=>rfl
 |[],q::s,_,hb,h=>by
  have h1:=hb.head;rw[←h q.1]at h1;exact absurd h1.symm (hb.nz q (ι ..))
 |p::r,[],ha,_,h=>by
  have h1:=ha.head;rw[h p.1]at h1;exact absurd h1.symm (ha.nz p (ι ..))
 |p::r,q::s,ha,hb,h=>by
  have h1:=ha.head;have h2:=hb.head;have n1:=ha.nz p (ι ..);have n2:=hb.nz q (ι ..);have e:p.1=q.1:=by
   rcases ArV p.1 q.1 with h3|h3|h3
   .rw[h p.1,hb.below h3]at h1
    exact absurd h1.symm n1
   .exact h3
   .rw[←h q.1,ha.below h3]at h2
    exact absurd h2.symm n2
  have e2:p.2=q.2:=by rw[←h1,←h2,h p.1,e]
  have ep:p=q:=Prod.ext e e2;rw[ep,Pln.ext ha.tail hb.tail λv=>by
   have:=h v;rw[AZ,AZ,ep]at this;omega]
def Hr(v c:Int):List (Int × Int)->List (Int × Int)
 |[]=>if c=0 then [] else [(v,c)]
 |p::r=>if v<p.1 then(if c=0 then p::r else(v,c)::p::r) else if p.1<v then p::Hr v c r else if p.2+c=0 then r else(v,p.2+c)::r
theorem Lg(v c u:Int):∀ l:List (Int × Int),AZ u (Hr v c l)=(if v=u then c else 0)+AZ u l
 |[]=>by
  unfold Hr;split
  .rename_i h;simp[AZ,h]
  .simp[AZ]
 |p::r=>by
  have ih:=Lg v c u r;unfold Hr;split
  .split
   .rename_i h;rw[h];simp
   .rfl
  .split
   .rw[AZ,ih,AZ];omega
   .have e:p.1=v:=by omega
    split
    .rename_i h
     rw[AZ,e];split<;>omega
    .rw[AZ,AZ,e]
     split<;>omega
theorem TC{v c:Int}:∀{l:List (Int × Int)} {q:Int × Int},q∈Hr v c l->q.1=v\/q∈l
 |[],q,h=>by
  unfold Hr at h;split at h
  .exact .inr h
  .rw[Aqp.1 h];exact .inl rfl
 |p::r,q,h=>by
  unfold Hr at h;split at h
  .split at h
   .exact .inr h
   .rcases ApT.1 h with h|h
    .rw[h];exact .inl rfl
    .exact .inr h
  .split at h
   .rcases ApT.1 h with h|h
    .rw[h];exact .inr (ι ..)
    .rcases TC h with h|h
     .exact .inl h
     .exact .inr (π _ h)
   .split at h
    .exact .inr (π _ h)
    .rcases ApT.1 h with h|h
     .rw[h];exact .inl rfl
     .exact .inr (π _ h)
theorem TD{v c:Int}(hv:0<=v):∀{l:List (Int × Int)},Pln l->Pln (Hr v c l)
 |[],_=>by
  unfold Hr;split
  .exact RV
  .rename_i h
   exact⟨ArP _ _,by simpa using hv,by simpa using h⟩
 |p::r,h=>by
  have ih:=TD (c:=c) hv h.tail;have hp:=AqI.1 h.asc;unfold Hr;split
  .rename_i h1
   split
   .exact h
   .rename_i h2
    refine⟨AqI.2 ⟨λq hq=>?_,h.asc⟩,λq hq=>?_,λq hq=>?_⟩
    .rcases ApT.1 hq with rfl|hq
     .exact h1
     .have:=hp.1 q hq;simp only;omega
    .rcases ApT.1 hq with rfl|hq
     .exact hv
     .exact h.pos q hq
    .rcases ApT.1 hq with rfl|hq
     .exact h2
     .exact h.nz q hq
  .split
   .rename_i h1 h2
    refine⟨AqI.2 ⟨λq hq=>?_,ih.asc⟩,λq hq=>?_,λq hq=>?_⟩
    .rcases TC hq with e|hq
     .rw[e];exact h2
     .exact hp.1 q hq
    .rcases ApT.1 hq with rfl|hq
     .exact h.pos _ (ι ..)
     .exact ih.pos q hq
    .rcases ApT.1 hq with rfl|hq
     .exact h.nz _ (ι ..)
     .exact ih.nz q hq
   .rename_i h1 h2
    split
    .exact h.tail
    .rename_i h3
     refine⟨AqI.2 ⟨λq hq=>?_,hp.2⟩,λq hq=>?_,λq hq=>?_⟩
     .have:=hp.1 q hq;simp only;omega
     .rcases ApT.1 hq with rfl|hq
      .exact hv
      .exact h.tail.pos q hq
     .rcases ApT.1 hq with rfl|hq
      .exact h3
      .exact h.tail.nz q hq
def AC:List (Int × Int)->List (Int × Int)
 |[]=>[]
 |p::r=>if 0<=p.1 then Hr p.1 p.2 (AC r) else AC r
theorem Cw:∀ l:List (Int × Int),Pln (AC l)
 |[]=>RV
 |p::r=>by
  unfold AC;split
  .rename_i h;exact TD h (Cw r)
  .exact Cw r
theorem Js(v:Int):∀ l:List (Int × Int),AZ v (AC l)=if 0<=v then AZ v l else 0
 |[]=>by simp[AC,AZ]
 |p::r=>by
  have ih:=Js v r;unfold AC
  by_cases h:0<=p.1
  .by_cases hv:0<=v
   .rw[if_pos h,Lg,ih,AZ,if_pos hv,if_pos hv]
   .rw[if_pos h,Lg,ih,if_neg hv,if_neg hv,if_neg (by omega)]
    rfl
  .by_cases hv:0<=v
   .rw[if_neg h,ih,AZ,if_pos hv,if_pos hv,if_neg (show ¬ p.1=v by omega)]
    omega
   .rw[if_neg h,ih,if_neg hv,if_neg hv]
theorem Ox{l r:List (Int × Int)}(h:Pln r)(hc:∀ v,0<=v->AZ v r=AZ v l):r=AC l:=by
 refine Pln.ext h (Cw l) λv=>?_
 rw[Js]
 by_cases hv:0<=v
 .rw[if_pos hv,hc v hv]
 .rw[if_neg hv]
  refine E8 λp hp e=>?_
  have:=h.pos p hp;omega
theorem BV{l:List (Int × Int)}(h:Pln l):AC l=l:=(Ox h λ_ _=>rfl).symm
theorem Gi:∀ l:List (Int × Int),(AC l).length<=l.length
 |[]=>κ _
 |p::r=>by
  have ih:=Gi r;have ins:∀ l:List (Int × Int),(Hr p.1 p.2 l).length<=l.length+1:=λl=>by
   induction l with
   |nil=>unfold Hr;split<;>simp
   |cons q s ih=>
    unfold Hr;split
    .split<;>simp
    .split
     .simpa using ih
     .split
      .simp;omega
      .simp
  unfold AC;split
  .have:=ins (AC r)
   rw[ο];omega
  .rw[ο]
   omega
section
variable {α:Type} (key:α->Int)
def kf(l:List α)(p:Nat):Int:=match l[p]? with
 |some x=>key x
 |none=>0
theorem EE{l:List α}{p:Nat}(h:p<l.length):kf key l p=key l[p]:=by
 unfold kf;rw[φ h]
def CO(l:List α)(i j:Nat):List α:=match l[i]?,l[j]? with
 |some x,Θ y=>(l.set i y).set j x
 |_,_=>l
theorem Dt{l:List α}{i j:Nat}(hi:i<l.length)(hj:j<l.length):CO l i j=(l.set i l[j]).set j l[i]:=by
 unfold CO;rw[φ hi,φ hj]
theorem Gq(l:List α)(i j:Nat):(CO l i j).length=l.length:=by
 unfold CO;split<;>simp
theorem W9{l:List α}{i j:Nat}(hi:i<l.length)(hj:j<l.length)(p:Nat):kf key (CO l i j) p=if p=j then kf key l i else if p=i then kf key l j else kf key l p:=by
 rw[Dt hi hj];unfold kf
 by_cases h1:p=j
 .subst h1
  rw[if_pos rfl,Arj (by simpa using hj),φ hi]
 .rw[if_neg h1,Aq5 (λe=>h1 e.symm)]
  by_cases h2:p=i
  .subst h2
   rw[if_pos rfl,Arj hi,φ hj]
  .rw[if_neg h2,Aq5 (λe=>h2 e.symm)]
theorem Ej(l:List α)(i j:Nat):(CO l i j).Perm l:=by
 by_cases hi:i<l.length
 .by_cases hj:j<l.length
  .rw[Dt hi hj]
   have:=Array.swap_perm (xs:=l.toArray) (i:=i) (j:=j) (by simpa using hi) (by simpa using hj);have h2:=this.toList;simpa[Array.swap]using h2
  .unfold CO
   rw[Ard (show l.length<=j by omega)];split
   .rename_i h;cases h
   .exact List.Perm.refl _
 .unfold CO
  rw[Ard (show l.length<=i by omega)]
theorem Zz{l:List α}{i j p:Nat}(h1:p≠i)(h2:p≠j):(CO l i j)[p]? = l[p]?:=by
 unfold CO;split
 .rw[Aq5 (λe=>h2 e.symm),Aq5 (λe=>h1 e.symm)]
 .rfl
def Srt(l:List α)(a b:Nat):Prop:=∀ p q,a<=p->p<q->q<b->kf key l p<=kf key l q
def SH(l:List α)(a i j:Nat):Prop:=∀ p q,a<=p->p<q->q<=i->q≠j->kf key l p<=kf key l q
def Same0(l r:List α)(a b:Nat):Prop:=∀ p,(p<a\/b<=p)->r[p]? = l[p]?
theorem C9(l:List α)(a b:Nat):Same0 l l a b:=λ_ _=>rfl
theorem Same0.trans{l r s:List α}{a b:Nat}(h1:Same0 l r a b)(h2:Same0 r s a b):Same0 l s a b:=λp hp=>(h2 p hp).trans (h1 p hp)
theorem Same0.wide{l r:List α}{a b c d:Nat}(h1:Same0 l r a b)(hc:c<=a)(hd:b<=d):Same0 l r c d:=λp hp=>h1 p (by omega)
theorem Same0.kf{l r:List α}{a b p:Nat}(h:Same0 l r a b)(hp:p<a\/b<=p):kf key r p=kf key l p:=by
 unfold Go.Proofs.YtpncilciembjdaaGreatDoor.kf;rw[h p hp]
theorem ZA{l:List α}{i j a b:Nat}(h1:a<=i)(h2:i<b)(h3:a<=j)(h4:j<b):Same0 l (CO l i j) a b:=λp hp=>Zz (by omega) (by omega)
theorem Qu{l:List α}{a i j:Nat}(hi:i<l.length)(ha:a<j)(hj:j<=i)(h:SH key l a i j)(hlt:kf key l j<kf key l (j-1)):SH key (CO l j (j-1)) a i (j-1):=by
 intro p q h1 h2 h3 h4;rw[W9 key (by omega) (by omega),W9 key (by omega) (by omega)]
 by_cases q1:q=j
 .subst q1
  rw[if_neg (show ¬ q=q-1 by omega),if_pos rfl]
  by_cases p1:p=q-1
  .rw[if_pos p1];omega
  .rw[if_neg p1,if_neg (by omega)]
   exact h p (q-1) h1 (by omega) (by omega) (by omega)
 .rw[if_neg h4,if_neg q1]
  by_cases p1:p=j-1
  .rw[if_pos p1]
   exact h j q (by omega) (by omega) h3 q1
  .rw[if_neg p1]
   by_cases p2:p=j
   .rw[if_pos p2]
    exact h (j-1) q (by omega) (by omega) h3 q1
   .rw[if_neg p2]
    exact h p q h1 h2 h3 q1
theorem KA{l:List α}{a i j:Nat}(hj:j<=i)(h:SH key l a i j)(he:j=a\/kf key l (j-1)<=kf key l j):Srt key l a (i+1):=by
 intro p q h1 h2 h3
 by_cases hq:q=j
 .subst hq
  rcases he with he|he
  .omega
  .by_cases hp:p=q-1
   .rw[hp];exact he
   .have:=h p (q-1) h1 (by omega) (by omega) (by omega)
    omega
 .exact h p q h1 h2 (by omega) hq
theorem OX{l:List α}{a i:Nat}(h:Srt key l a i):SH key l a i i:=λp q h1 h2 h3 h4=>h p q h1 h2 (by omega)
theorem ES{l:List α}(h:Srt key l 0 l.length):l.Pairwise λx y=>key x<=key y:=by
 rw[List.pairwise_iff_getElem];intro i j hi hj hij;have:=h i j (by omega) hij hj
 rwa [EE key hi,EE key hj]at this
theorem XN(l:List α)(a:Nat):Srt key l a (a+1):=λp q h1 h2 h3=>by omega
theorem XM(l:List α)(a:Nat):Srt key l a a:=λp q h1 h2 h3=>by omega
end
structure Pt where
 v:Int
 z:Zi
def eP(p:Pt):List AV:=[iv p.v,bv p.z.neg,eN p.z.abs]
theorem Au(p:Pt):(eP p).length=3:=rfl
section
variable {α:Type} {e:α->List AV} {w:Nat} (he:∀ x,(e x).length=w)
include he
theorem XF(l:List α):∀(i:Nat) (h:i<l.length),(Ag e l).drop (i*w)=e l[i]++(Ag e l).drop (i*w+w):=by
 induction l with
 |nil=>intro i h;cases h
 |cons x r ih=>
  intro i h;have hx:=he x
  cases i with
  |zero=>
   rw[Arn,Ap4,Ap6]
   show e x++Ag e r=e x++(e x++Ag e r).drop w
   rw[←hx,List.drop_left]
  |succ i=>
   have:=ih i (by simpa using h);have e1:∀ n,(Ag e (x::r)).drop (w+n)=(Ag e r).drop n:=λn=>by
    show (e x++Ag e r).drop (w+n)=_
    rw[←hx,Asu];simp
   rw[show (i+1)*w=w+i*w by rw[Aqz];omega,e1,this,show w+i*w+w=w+(i*w+w) by omega,e1];rfl
theorem Bf(l:List α)(i:Nat)(h:i<l.length)(k:List AV->KR):EZ (Ag e l) (0+i*w) w k=k (e l[i]):=by
 have hw:i*w+w<=l.length*w:=by
  rw[←Nat.succ_mul];exact Nat.mul_le_mul_right w h
 unfold EZ;have:Ap3 (0+i*w+w) (Ag e l).length=Δ:=by rw[AP he];simp;omega
 rw[this]
 show k (((Ag e l).drop (0+i*w)).take w)=_
 rw[Ap6,XF he l i h,List.take_left' (he _)]
theorem Co(l:List α)(i:Nat)(h:i<l.length)(x:α):Ay (Ag e l) (0+i*w) (e x)=Ag e (l.set i x):=by
 unfold Ay;rw[he x,Ap6];have e1:=XF he l i h;have e2:∀(l:List α) (i:Nat),i<=l.length->(Ag e l).take (i*w)=Ag e (l.take i):=λl=>by
  induction l with
  |nil=>intro i _;simp[Ag]
  |cons y r ih=>
   intro i hi
   cases i with
   |zero=>simp[Ag]
   |succ i=>
    rw[show (i+1)*w=w+i*w by rw[Aqz];omega]
    show (e y++Ag e r).take (w+i*w)=e y++Ag e (r.take i)
    rw[←he y,List.take_append,List.take_of_length_le (by omega),show (e y).length+i*(e y).length-(e y).length=i*(e y).length by omega,he y,ih i (by simpa using hi)]
 have e3:∀(l:List α) (i:Nat),i<=l.length->(Ag e l).drop (i*w)=Ag e (l.drop i):=λl=>by
  induction l with
  |nil=>intro i _;simp[Ag]
  |cons y r ih=>
   intro i hi
   cases i with
   |zero=>simp[Ag]
   |succ i=>
    rw[show (i+1)*w=w+i*w by rw[Aqz];omega]
    show (e y++Ag e r).drop (w+i*w)=Ag e (r.drop i)
    rw[←he y,Asu,List.drop_of_length_le (by omega),show (e y).length+i*(e y).length-(e y).length=i*(e y).length by omega,he y,ih i (by simpa using hi),List.nil_append]
 rw[e2 l i (by omega),show i*w+w=(i+1)*w by rw[Aqz];omega,e3 l (i+1) (by omega),List.set_eq_take_append_cons_drop,if_pos h];simp[Ag]
end
theorem Fx{a b:Int}:Cr a b<0 ↔ a<b:=by
 unfold Cr;split
 .omega
 .split<;>omega
theorem GX{j:Nat}(h:j<4611686018427387904):Ad.sub .i64 ((j+1:Nat):Int) 1=(j:Int):=by
 rw[EH (by omega) (by omega)];omega
theorem AL{a b:Nat}(h:a<b):Nat.blt a b=Δ:=by simpa using h
section
variable {D:Orc} (K:Knows Av DY D)
include K
theorem TF(x:Int):D.ask (.fn 157) [iv x] []=Θ (bv Φ,[]):=by
 refine AI K Ah8 (Aoc ..) ?_;exact BF rfl rfl
theorem Q5(x y:Int):D.ask (.fn 84) [iv x,iv y] []=Θ (iv (Cr x y),[]):=by
 refine AI K Amn (e84 ..) ?_;refine Ab (TF K x) ?_;simp only[ND,DK,Aa];refine Ab (TF K y) ?_;simp only[ND,DK,Aa];unfold Cr
 by_cases h:x<y
 .rw[if_pos h]
  exact Al rfl h
 .rw[if_neg h]
  refine Ak ?_ h
  by_cases h2:y<x
  .rw[if_pos h2]
   exact Al rfl h2
  .rw[if_neg h2]
   exact Ak rfl h2
theorem Hh(p q:Pt):D.ask (.fn 137) [.agg (eP p),.agg (eP q)] []=Θ (iv (Cr p.v q.v),[]):=by
 refine AI K AhX (AnZ ..) ?_;refine Ab (Q5 K p.v q.v) ?_;rfl
def Fo:AV:=.fn (.func 137) [] []
theorem AjT(a i:Nat)(b:Int):∀(m j:Nat) (l:List Pt),j-a=m->a<=j->j<=i->i<l.length->l.length<=1000000000->SH Pt.v l a i j->
  ∃ r:List Pt,D.ask (.lp 234 1) [.sl 0 0 l.length 3,iv (a:Int),iv b,Fo,iv (i:Int),iv (j:Int)] [θ (Ag eP l) Δ Δ]
   = Θ (.tup [iv 2,.sl 0 0 l.length 3,iv (a:Int),iv b,Fo,iv (i:Int)],[.set (θ (Ag eP r) Δ Δ)])
   ∧ r.length=l.length/\r.Perm l/\Srt Pt.v r a (i+1)/\Same0 l r a (i+1):=by
 intro m
 induction m with
 |zero=>
  intro j l hm ha hj hi hl hs;obtain rfl:j=a:=by omega
  refine⟨l,?_,rfl,List.Perm.refl _,KA Pt.v hj hs (.inl rfl),C9 _ _ _⟩;refine Ax K Ho (Vj ..) ?_;exact Ak rfl
 |succ m ih=>
  intro j l hm ha hj hi hl hs;obtain⟨k,rfl⟩:∃ k,j=k+1:=⟨j-1,by omega⟩;have h1:k+1<l.length:=by omega
  have h0:k<l.length:=by omega
  have kf1:kf Pt.v l (k+1)=l[k+1].v:=EE Pt.v h1;have kf0:kf Pt.v l k=l[k].v:=EE Pt.v h0
  by_cases hlt:l[k+1].v<l[k].v
  .have hs2:SH Pt.v (CO l (k+1) k) a i k:=Qu (j:=k+1) Pt.v hi (by omega) hj hs (by rw[Aq0,kf1,kf0];exact hlt)
   have hlen:=Gq l (k+1) k;obtain⟨r,g,hr,hp,ho,hsm⟩:=ih k (CO l (k+1) k) (by omega) (by omega) (by omega) (by omega) (by omega) hs2;rw[hlen]at g hr;refine⟨r,?_,hr,hp.trans (Ej _ _ _),ho,(ZA (by omega) (by omega) (by omega) (by omega)).trans hsm⟩;refine Ax K Ho (Vj ..) ?_;refine Al ?_;rw[GX (by omega),At,AL h1];refine Ac ?_;refine(Bf Au l (k+1) h1 _).trans ?_;simp only[eP,eN,ND,DK,Aa];rw[At,AL h0];refine Ac ?_;refine(Bf Au l k h0 _).trans ?_;simp only[eP,eN,ND,DK,Aa];refine Ab (Hh K l[k+1] l[k]) ?_;simp only[ND,DK,Aa];refine Al ?_ (Fx.2 hlt);rw[At,AL h0];refine Ac ?_;refine(Bf Au l k h0 _).trans ?_;simp only[eP,eN,ND,DK,Aa];rw[At,AL h1];refine Ac ?_;refine(Bf Au l (k+1) h1 _).trans ?_;simp only[eP,eN,ND,DK,Aa];rw[At,AL h1];refine Ac ?_;have s1:=Co Au l (k+1) h1 l[k];have s2:=Co Au (l.set (k+1) l[k]) k (by rw[Aqc];exact h0) l[k+1];rw[←Dt h1 h0]at s2;simp only[eP,eN]at s1 s2;rw[show Ap3 (0+(k+1)*3+3) (Ag eP l).length=Δ by rw[AP Au];simp;omega];refine Ac ?_;rw[At,AL h0];refine Ac ?_;rw[s1,s2];rw[show Ap3 (0+k*3+3) (Ag eP (l.set (k+1) l[k])).length=Δ by rw[AP Au,Aqc];simp;omega];refine Ac ?_;refine Ab g ?_;rfl
  .refine⟨l,?_,rfl,List.Perm.refl _,KA Pt.v hj hs (.inr ?_),C9 _ _ _⟩
   .skip
    refine Ax K Ho (Vj ..) ?_;refine Al ?_;rw[GX (by omega),At,AL h1];refine Ac ?_;refine(Bf Au l (k+1) h1 _).trans ?_;simp only[eP,eN,ND,DK,Aa];rw[At,AL h0];refine Ac ?_;refine(Bf Au l k h0 _).trans ?_;simp only[eP,eN,ND,DK,Aa];refine Ab (Hh K l[k+1] l[k]) ?_;simp only[ND,DK,Aa];exact Ak rfl (λh=>hlt (Fx.1 h))
   .rw[Aq0,kf1,kf0]
    omega
theorem Aeo(a b:Nat):∀(m i:Nat) (l:List Pt),b-i=m->a<i->i<=b->b<=l.length->l.length<=1000000000->Srt Pt.v l a i->
  ∃ r:List Pt,D.ask (.lp 234 0) [.sl 0 0 l.length 3,iv (a:Int),iv (b:Int),Fo,iv (i:Int)] [θ (Ag eP l) Δ Δ]
   = Θ (.tup [iv 0,.sl 0 0 l.length 3],[.set (θ (Ag eP r) Δ Δ)])
   ∧ r.length=l.length/\r.Perm l/\Srt Pt.v r a b/\Same0 l r a b:=by
 intro m
 induction m with
 |zero=>
  intro i l hm ha hi hb hl hs;obtain rfl:i=b:=by omega
  refine⟨l,?_,rfl,List.Perm.refl _,hs,C9 _ _ _⟩;refine Ax K Ho (Vi ..) ?_;exact Ak rfl
 |succ m ih=>
  intro i l hm ha hi hb hl hs;obtain⟨r,g,hr,hp,ho,hsm⟩:=AjT K a i (b:Int) _ i l rfl (by omega) (κ _) (by omega) hl (OX Pt.v hs);obtain⟨r2,g2,hr2,hp2,ho2,hsm2⟩:=ih (i+1) r (by omega) (by omega) (by omega) (by omega) (by omega) ho;rw[hr]at g2;refine⟨r2,?_,by omega,hp2.trans hp,ho2,(hsm.wide (κ _) (by omega)).trans hsm2⟩;refine Ax K Ho (Vi ..) ?_;refine Al ?_;refine Ab g ?_;simp only[Fo,ND,DK,Aa];refine Ac ?_;rw[BZ (by omega)];refine Ab g2 ?_;rfl
theorem Abw{a b:Nat}{l:List Pt}(hab:a<=b)(hb:b<=l.length)(hl:l.length<=1000000000) :
  ∃ r:List Pt,D.ask (.fn 234) [.sl 0 0 l.length 3,iv (a:Int),iv (b:Int),Fo] [θ (Ag eP l) Δ Δ]=Θ (.tup [],[.set (θ (Ag eP r) Δ Δ)])
   ∧ r.length=l.length/\r.Perm l/\Srt Pt.v r a b/\Same0 l r a b:=by
 by_cases h:a<b
 .obtain⟨r,g,hr⟩:=Aeo K a b _ (a+1) l rfl (by omega) (by omega) hb hl (XN Pt.v l a)
  refine⟨r,?_,hr⟩;refine AI K Ho (AlS ..) ?_;rw[BZ (by omega)];refine Ab g ?_;rfl
 .obtain rfl:a=b:=by omega
  have g:D.ask (.lp 234 0) [.sl 0 0 l.length 3,iv (a:Int),iv (a:Int),Fo,iv ((a+1:Nat):Int)] [θ (Ag eP l) Δ Δ]=Θ (.tup [iv 0,.sl 0 0 l.length 3],[.set (θ (Ag eP l) Δ Δ)]):=by
   refine Ax K Ho (Vi ..) ?_;exact Ak rfl
  refine⟨l,?_,rfl,List.Perm.refl _,XM Pt.v l a,C9 _ _ _⟩;refine AI K Ho (AlS ..) ?_;rw[BZ (by omega)];refine Ab g ?_;rfl
end
structure Tm where
 ps:List Pt
 k:Zi
def eT(t:Tm):List AV:=[.ls (t.ps.map eP),bv t.k.neg,eN t.k.abs]
structure Lf where
 ps:List (Int × Int)
 k:Int
def pv(p:Pt):Int × Int:=(p.v,zv p.z)
def AJ(p:Int × Int):Pt:=⟨p.1,Ap p.2⟩
def Tm.lf(t:Tm):Lf:=⟨t.ps.map pv,zv t.k⟩
def Lf.tm(l:Lf):Tm:=⟨l.ps.map AJ,Ap l.k⟩
def Lf.pln(l:Lf):Lf:=⟨AC l.ps,l.k⟩
theorem AgF(p:Int × Int):pv (AJ p)=p:=by
 unfold pv AJ;rw[AU]
theorem BS(l:Lf):l.tm.lf=l:=by
 obtain⟨ps,k⟩:=l;unfold Lf.tm Tm.lf;simp only[List.map_map,AU];rw[show (pv ∘ AJ)=id from funext AgF,List.map_id]
structure TmB (n k:Nat) (t:Tm):Prop where
 len:t.ps.length<=n
 ps:∀ p∈t.ps,Lz k p.z
 k:Lz k t.k
structure LB (n k:Nat) (l:Lf):Prop where
 len:l.ps.length<=n
 ps:∀ p∈l.ps,InB k p.2
 k:InB k l.k
theorem TmB.lb{n k:Nat}{t:Tm}(h:TmB n k t):LB n k t.lf:=by
 refine⟨by simpa[Tm.lf]using h.len,λp hp=>?_,h.k.inb⟩;simp only[Tm.lf,Aqm]at hp;obtain⟨q,hq,rfl⟩:=hp;exact(h.ps q hq).inb
theorem LB.tb{n k:Nat}{l:Lf}(h:LB n k l):TmB n k l.tm:=by
 refine⟨by simpa[Lf.tm]using h.len,λp hp=>?_,h.k.lz⟩;simp only[Lf.tm,Aqm]at hp;obtain⟨q,hq,rfl⟩:=hp;exact(h.ps q hq).lz
theorem LB.mono{n k m j:Nat}{l:Lf}(h:LB n k l)(hn:n<=m)(hk:k<=j):LB m j l:=⟨by have:=h.len;omega,λp hp=>(h.ps p hp).mono hk,h.k.mono hk⟩
theorem TmB.mono{n k m j:Nat}{t:Tm}(h:TmB n k t)(hn:n<=m)(hk:k<=j):TmB m j t:=⟨by have:=h.len;omega,λp hp=>(h.ps p hp).mono hk,h.k.mono hk⟩
theorem In{k:Nat}(v:Int):∀ l:List (Int × Int),(∀ p∈l,InB k p.2)->InB (k+l.length) (AZ v l)
 |[],_=>InB.zero _
 |p::r,h=>by
  have h1:=In v r λq hq=>h q (π _ hq)
  have h2:=h p (ι ..);rw[AZ,ο,←Aqu];refine InB.add ?_ h1;split
  .exact h2.mono (by omega)
  .exact InB.zero _
theorem Pln.mem:∀{l:List (Int × Int)},Pln l->∀ p∈l,AZ p.1 l=p.2
 |q::r,h,p,hp=>by
  rcases ApT.1 hp with rfl|hp
  .exact h.head
  .rw[AZ,if_neg (by have:=(AqI.1 h.asc).1 p hp;omega),h.tail.mem p hp]
   omega
theorem LB.pln{n k:Nat}{l:Lf}(h:LB n k l):LB n (k+n) l.pln:=by
 have hl:=Gi l.ps;refine⟨by have:=h.len;simp only[Lf.pln];omega,λp hp=>?_,h.k.mono (by omega)⟩;have h1:=(Cw l.ps).mem p hp;rw[Js,if_pos ((Cw l.ps).pos p hp)]at h1;rw[←h1];exact(In p.1 l.ps h.ps).mono (by have:=h.len;omega)
def Lf.add(a b:Lf):Lf:=Lf.pln ⟨a.ps++b.ps,a.k+b.k⟩
def Lf.scale(a:Lf)(n:Int):Lf:=Lf.pln ⟨a.ps.map λp=>(p.1,p.2*n),a.k*n⟩
def Lf.sub(a b:Lf):Lf:=a.add (b.scale (-1))
def Lf.num(k:Int):Lf:=⟨[],k⟩
theorem LB.app{n k m j:Nat}{a b:Lf}(ha:LB n k a)(hb:LB m j b):LB (n+m) (k+j+1) ⟨a.ps++b.ps,a.k+b.k⟩:=by
 refine⟨by have:=ha.len;have:=hb.len;simp only[List.length_append];omega,λp hp=>?_,InB.add (ha.k.mono (by omega)) (hb.k.mono (by omega))⟩;rcases List.mem_append.1 hp with h|h
 .exact(ha.ps p h).mono (by omega)
 .exact(hb.ps p h).mono (by omega)
theorem LB.mul{n k j:Nat}{a:Lf}{x:Int}(ha:LB n k a)(hx:InB j x):LB n (k+j) ⟨a.ps.map λp=>(p.1,p.2*x),a.k*x⟩:=by
 refine⟨by simpa using ha.len,λp hp=>?_,InB.mul ha.k hx⟩;simp only[Aqm]at hp;obtain⟨q,hq,rfl⟩:=hp;exact InB.mul (ha.ps q hq) hx
theorem LB.add{n k m j:Nat}{a b:Lf}(ha:LB n k a)(hb:LB m j b):LB (n+m) (k+j+1+(n+m)) (a.add b):=(ha.app hb).pln
theorem LB.scale{n k j:Nat}{a:Lf}{x:Int}(ha:LB n k a)(hx:InB j x):LB n (k+j+n) (a.scale x):=(ha.mul hx).pln
def Ch(f:Int->Int):List (Int × Int)->Int
 |[]=>0
 |p::r=>p.2*f p.1+Ch f r
def Lf.val(f:Int->Int)(l:Lf):Int:=Ch f l.ps+l.k
theorem O0(f:Int->Int)(n:Int):∀ a:List (Int × Int),Ch f (a.map λp=>(p.1,p.2*n))=Ch f a*n
 |[]=>by simp[Ch]
 |p::r=>by
  rw[Ap5,Ch,Ch,O0 f n r,Ash,AsM,AsM,Int.mul_comm n]
theorem Qx(f:Int->Int)(v c:Int):∀ l,Ch f (Hr v c l)=c*f v+Ch f l
 |[]=>by
  unfold Hr;split
  .rename_i h;simp[Ch,h]
  .simp[Ch]
 |p::r=>by
  have ih:=Qx f v c r;unfold Hr;split
  .split
   .rename_i h;rw[h];simp
   .rfl
  .split
   .rw[Ch,ih,Ch];omega
   .have e:p.1=v:=by omega
    split
    .rename_i h
     rw[Ch,e,←Int.add_assoc,←Ash,Int.add_comm c,h];simp
    .show (p.2+c)*f v+Ch f r=c*f v+(p.2*f p.1+Ch f r)
     rw[e,Ash];omega
theorem OZ{f:Int->Int}(hf:∀ v,v<0->f v=0):∀ l,Ch f (AC l)=Ch f l
 |[]=>rfl
 |p::r=>by
  have ih:=OZ hf r;unfold AC;split
  .rw[Qx,ih,Ch]
  .rename_i h
   rw[ih,Ch,hf p.1 (by omega)];simp
theorem Sz{f:Int->Int}(hf:∀ v,v<0->f v=0)(l:Lf):l.pln.val f=l.val f:=by
 unfold Lf.pln Lf.val;rw[OZ hf]
theorem ZP{f:Int->Int}(hf:∀ v,v<0->f v=0)(a:Lf)(n:Int):(a.scale n).val f=a.val f*n:=by
 unfold Lf.scale;rw[Sz hf];unfold Lf.val;simp only[O0,Ash]
def Ek(vals:List Int)(v:Int):Int:=if v<0 then 0 else vals.getD v.toNat 0
theorem Pa(vals:List Int)(v:Int)(h:v<0):Ek vals v=0:=if_pos h
section
open Go.RowKit
noncomputable def AeF:MFn:=AY [⟨21,(mB 3596),[],[2,3],[(1,((mB 12),([],[])))]⟩] 67
def Abp:Hnt:=⟨[(62,(.agg B6,[])),(147,(.agg AR,[]))],[(0,[(1,([.ptr 0 0,.ptr 1 0],[.box AR,.box AR]))])],[(7,B6),(13,Bj),(14,Bj),(15,AR),(17,AR),(20,AR)]⟩
noncomputable def XT:List (Nat × MFn):=[(67,AeF)]
variable (A:Ar) (D:Orc)
theorem e67(x0_0:Rw)(x0_1:Bool)(x0_2:Rw):Cm A D Av Abp .n 67 AeF [ω [Ψ x0_0,bv x0_1,Ψ x0_2]] [] =
 Af D (Key.fn 62) [ω [Ψ x0_0,bv x0_1,Ψ x0_2]] [] [.a,.L,.B,.L,.N,.E] λxs _ _=>
 Af D (Key.lp 67 0) [Aqk 0 0,Aqk 1 0,Ψ xs,iv ↑(AS xs),iv 0] [bk [bv Φ,Ψ []],bk [bv Φ,Ψ []]] [.t,.C,.x,.X,.Y] λc l3 o1=>
 br (Bp 1 c)
 (dk [.P 0 0,.P 1 0,.N,.T,.B,.L,.N,.T,.B,.L,.N,.E] [.l l3,.o o1] λ_ _ b2 xs3=>
 Θ ((ω [bv b2,Ψ xs3],[])))
 (none):=by kernel_rfl
theorem AhL(b2_0:Bool)(b2_1:Rw)(b3_0:Bool)(b3_1 t9:Rw)(t10 t11:Int):D2 A D Av Abp .n 67 0 (AW AeF 0).fst (AW AeF 0).snd [Aqk 0 0,Aqk 1 0,Ψ t9,iv t10,iv t11] [bk [bv b2_0,Ψ b2_1],bk [bv b3_0,Ψ b3_1]] =
 br (A.lt t11 t10)
 (unI t11 λi=>
 BG t9 i λcs=>
 dk [.I,.B,.L,.N] [.l cs] λn b xs=>
 Af D (Key.fn 147) [ω [bv b3_0,Ψ b3_1],ω [bv b,Ψ xs]] [] [.a,.B,.L,.N,.E] λb1 xs1=>
 AK D (Key.lp 67 0) [Aqk 0 0,Aqk 1 0,Ψ t9,iv t10,iv (A.add IntKind.i64 t11 1)] [bk [bv b2_0,Ψ b2_1],bk [bv b1,Ψ xs1]] λr1 o1=>
 AF 2 [0,1] (AH.mk [(1,bk [bv b1,Ψ xs1]),(0,bk [bv b2_0,Ψ b2_1]),(2,bk [iv n,bv b,Ψ xs])] 3 none) [0,1] r1 o1)
 (Θ ((AV.tup [iv 0,Aqk 0 0,Aqk 1 0],[BO.set (bk [bv b2_0,Ψ b2_1]),BO.set (bk [bv b3_0,Ψ b3_1])]))):=by kernel_rfl
end
structure ZdF (D:Orc):Prop where
 div:∀ a b:Zi,Lz 800000000 a->Lz 800000000 b->D.ask (.fn 66) [.agg (eZ a),.agg (eZ b)] []
  = Θ (if zv b=0 then .tup [.agg [bv Φ,.ls []],.agg [bv Φ,.ls []],iv 10] else .tup [.agg (eZ (Ap (qZ (zv a) (zv b)))),.agg (eZ (Ap (rZ (zv a) (zv b)))),iv 0],[])
 exact:∀ a b:Zi,Lz 800000000 a->Lz 800000000 b->D.ask (.fn 143) [.agg (eZ a),.agg (eZ b)] []
  = Θ (if zv b=0 then .tup [.agg [bv Φ,.ls []],iv 10] else if rZ (zv a) (zv b)=0 then .tup [.agg (eZ (Ap (qZ (zv a) (zv b)))),iv 0] else .tup [.agg [bv Φ,.ls []],iv 1],[])
 gcd:∀ a b:Zi,Lz 900000000 a->Lz 900000000 b->D.ask (.fn 147) [.agg (eZ a),.agg (eZ b)] []=Θ (.agg (eZ (Ap (ArK (zv a).natAbs (zv b).natAbs:Nat))),[])
theorem Ai8{D:Orc}(K:Knows Av GY D)(Z:Knows Av IY D)(C:CloneF D)(G:Knows Av Qz D)(V:DivF D):ZdF D:=⟨λ_ _ ha hb=>X5 K Z C G V ha hb,λ_ _ ha hb=>Z0 K Z C G V ha hb,λ_ _ ha hb=>AhA K Z C G V ha hb⟩
def D1(g:Nat)(l:List (Int × Int)):Nat:=l.foldl (λg p=>ArK g p.2.natAbs) g
theorem Ri{k g:Nat}{x:Int}(hg:InB k (g:Int))(hx:InB k x):InB k ((ArK g x.natAbs:Nat):Int):=by
 unfold InB at *;rw[ArS]at *;rcases Aq7 g with h|h
 .rw[h,Att]
  exact hx
 .have:=AtI x.natAbs h
  omega
theorem Tl{k:Nat}:∀(l:List (Int × Int)) (g:Nat),InB k (g:Int)->(∀ p∈l,InB k p.2)->InB k (D1 g l:Int)
 |[],_,h,_=>h
 |p::r,g,h,hl=>Tl r _ (Ri h (hl p (ι ..))) λq hq=>hl q (π _ hq)
theorem JY:∀(l:List (Int × Int)) (g:Nat),D1 g l ∣ g/\∀ p∈l,D1 g l ∣ p.2.natAbs
 |[],g=>⟨At6 _,λ_ h=>by cases h⟩
 |p::r,g=>by
  obtain⟨h1,h2⟩:=JY r (ArK g p.2.natAbs);refine⟨AtV h1 (Nat.gcd_dvd_left ..),λq hq=>?_⟩;rcases ApT.1 hq with rfl|h
  .exact AtV h1 (Nat.gcd_dvd_right ..)
  .exact h2 q h
section
variable {D:Orc} (T:Knows Av XT D) (W:ZdF D)
include T W
theorem Ajw(l:List (Int × Int))(hlen:l.length<=4000000)(hl:∀ p∈l,InB 800000000 p.2):∀(m i g:Nat),l.length-i=m->i<=l.length->InB 800000000 (g:Int)->
  D.ask (.lp 67 0) [.ptr 0 0,.ptr 1 0,.ls (l.map λp=>eP (AJ p)),iv (l.length:Int),iv (i:Int)] [bk [bv Φ,.ls []],bk (eZ (Ap (g:Int)))]
   = Θ (.tup [iv 0,.ptr 0 0,.ptr 1 0],[.set (bk [bv Φ,.ls []]),.set (bk (eZ (Ap (D1 g (l.drop i):Int))))]):=by
 intro m
 induction m with
 |zero=>
  intro i g hm hi hg;rw[List.drop_eq_nil_of_le (by omega)];refine Ax T Abp (AhL ..) ?_;exact Ak rfl
 |succ m ih=>
  intro i g hm hi hg;have h1:i<l.length:=by omega
  have hx:=hl _ (Aqg h1);rw[List.drop_eq_getElem_cons h1];have ga:=W.gcd (Ap (g:Int)) (Ap l[i].2) (hg.lz.mono (by omega)) (hx.lz.mono (by omega));rw[AU,AU,ArS]at ga;have ih1:=ih (i+1) (ArK g l[i].2.natAbs) (by omega) (by omega) (Ri hg hx);refine Ax T Abp (AhL ..) ?_;refine Al ?_;rw[At,AB (f:=λp=>eP (AJ p)) (φ h1)];simp only[eP,AJ,eN,ND,DK,Aa];refine Ab ga ?_;simp only[eZ,eN,ND,DK,Aa];rw[BZ (by omega)];refine Ab ih1 ?_;rfl
theorem Vc{t:Tm}{l:List (Int × Int)}{k:Zi}(hp:D.ask (.fn 62) [.agg (eT t)] []=Θ (.agg [.ls (l.map λp=>eP (AJ p)),bv k.neg,eN k.abs],[]))(hlen:l.length<=4000000)(hl:∀ p∈l,InB 800000000 p.2) :
  D.ask (.fn 67) [.agg (eT t)] []=Θ (.agg (eZ (Ap (D1 0 l:Int))),[]):=by
 have g:=Ajw T W l hlen hl _ 0 0 rfl (by omega) (InB.zero _);rw[Ap4,show Ap ((0:Nat):Int)=⟨Φ,[]⟩ from WA,show eZ ⟨Φ,[]⟩=[bv Φ,.ls []] from rfl]at g;refine AI T Abp (e67 ..) ?_;refine Ab hp ?_;simp only[eZ,eN,Aw,ND,DK,Aa];refine Ab g ?_;rfl
end
def Rr(v:Int):Bool->List Int->List Int × Bool
 |d,[]=>([],d)
 |d,x::r=>((if !d&&decide (v<=x) then [v] else [])++((if x=v then [] else [x])++(Rr v (d||decide (v<=x)) r).1),(Rr v (d||decide (v<=x)) r).2)
def N9(v:Int)(l:List Int):List Int:=(Rr v Φ l).1++(if(Rr v Φ l).2 then [] else [v])
theorem Ld(v:Int):∀ l:List Int,(∀ x∈l,v<x)->Rr v Δ l=(l,Δ)
 |[],_=>rfl
 |x::r,h=>by
  have h1:=h x ι;rw[Rr,Bool.true_or,Ld v r λy hy=>h y (π _ hy),if_neg (show ¬ x=v by omega)];rfl
theorem TE(v:Int):N9 v []=[v]:=rfl
theorem W7{v x:Int}{r:List Int}(h:v<x)(hr:∀ y∈r,x<y):N9 v (x::r)=v::x::r:=by
 unfold N9;rw[Rr,decide_eq_true (by omega:v<=x),Ass,Ld v r λy hy=>by have:=hr y hy;omega,if_neg (show ¬ x=v by omega)];simp
theorem W5{v:Int}{r:List Int}(hr:∀ y∈r,v<y):N9 v (v::r)=v::r:=by
 unfold N9;rw[Rr,decide_eq_true (AsJ v),Ass,Ld v r hr,if_pos rfl];simp
theorem W6{v x:Int}{r:List Int}(h:x<v):N9 v (x::r)=x::N9 v r:=by
 unfold N9;rw[Rr,decide_eq_false (by omega:¬ v<=x),Ass,if_neg (show ¬ x=v by omega)];simp
def Asc(l:List Int):Prop:=l.Pairwise (· < ·)
theorem Ob(v:Int):∀{l:List Int},Asc l->∀ y,y∈N9 v l ↔ y=v\/y∈l
 |[],_,y=>by rw[TE];simp
 |x::r,h,y=>by
  have h1:=AqI.1 h;have ih:=Ob v h1.2 y;rcases ArV v x with hv|hv|hv
  .rw[W7 hv h1.1];simp
  .subst hv
   rw[W5 h1.1];simp
  .rw[W6 hv,ApT,ih,ApT]
   exact or_left_comm
theorem Oa(v:Int):∀{l:List Int},Asc l->Asc (N9 v l)
 |[],_=>by rw[TE];exact ArP _ _
 |x::r,h=>by
  have h1:=AqI.1 h;rcases ArV v x with hv|hv|hv
  .rw[W7 hv h1.1]
   refine AqI.2 ⟨λy hy=>?_,h⟩;rcases ApT.1 hy with rfl|hy
   .exact hv
   .have:=h1.1 y hy;omega
  .subst hv
   rw[W5 h1.1];exact h
  .rw[W6 hv]
   refine AqI.2 ⟨λy hy=>?_,Oa v h1.2⟩;rcases (Ob v h1.2 y).1 hy with rfl|hy
   .exact hv
   .exact h1.1 y hy
def Pd(f:Int->Int):List Int->List Int->List Int
 |out,[]=>out
 |out,v::r=>Pd f (if f v=0 then out else N9 v out) r
theorem QK(f:Int->Int):∀(l:List Int) {out:List Int},Asc out->Asc (Pd f out l)
 |[],_,h=>h
 |v::r,out,h=>by
  rw[Pd];refine QK f r ?_;split
  .exact h
  .exact Oa v h
theorem LP(f:Int->Int)(y:Int):∀(l:List Int) {out:List Int},Asc out->(y∈Pd f out l ↔ y∈out\/(y∈l/\f y≠0))
 |[],out,_=>by rw[Pd];simp
 |v::r,out,h=>by
  rw[Pd]
  by_cases hv:f v=0
  .rw[if_pos hv,LP f y r h,ApT]
   constructor
   .rintro (h1|⟨h1,h2⟩)
    .exact .inl h1
    .exact .inr ⟨.inr h1,h2⟩
   .rintro (h1|⟨rfl|h1,h2⟩)
    .exact .inl h1
    .exact absurd hv h2
    .exact .inr ⟨h1,h2⟩
  .rw[if_neg hv,LP f y r (Oa v h),Ob v h,ApT]
   constructor
   .rintro ((rfl|h1) | ⟨h1,h2⟩)
    .exact .inr ⟨.inl rfl,hv⟩
    .exact .inl h1
    .exact .inr ⟨.inr h1,h2⟩
   .rintro (h1|⟨rfl|h1,h2⟩)
    .exact .inl (.inr h1)
    .exact .inl (.inl rfl)
    .exact .inr ⟨h1,h2⟩
def JR(ps:List (Int × Int))(v:Int):Int:=if 0<=v then AZ v ps else 0
def UM(ps:List (Int × Int)):List Int:=Pd (JR ps) [] (ps.map (·.1))
theorem WE:Asc []:=List.Pairwise.nil
theorem PT(c:Int->Int)(v:Int):∀{l:List Int},Asc l->AZ v (l.map λu=>(u,c u))=if v∈l then c v else 0
 |[],_=>by simp[AZ]
 |x::r,h=>by
  have h1:=AqI.1 h;rw[Ap5,AZ,PT c v h1.2]
  by_cases hx:x=v
  .subst hx
   rw[if_pos rfl,if_pos ι,if_neg (λhm=>by have:=h1.1 _ hm;omega)];exact Int.add_zero _
  .rw[if_neg hx,Int.zero_add]
   have e:(v∈x::r) ↔ v∈r:=by
    rw[ApT];exact⟨λh=>h.resolve_left λe=>hx e.symm,.inr⟩
   by_cases hm:v∈r
   .rw[if_pos hm,if_pos (e.2 hm)]
   .rw[if_neg hm,if_neg λh=>hm (e.1 h)]
theorem Jt(ps:List (Int × Int)):(UM ps).map (λv=>(v,JR ps v))=AC ps:=by
 have ha:Asc (UM ps):=QK _ _ WE;have hm:∀ y,y∈UM ps ↔ y∈ps.map (·.1)/\JR ps y≠0:=λy=>by
  have:=LP (JR ps) y (ps.map (·.1)) WE;unfold UM;simpa using this
 refine Ox ⟨?_,?_,?_⟩ λv hv=>?_
 .rw[List.pairwise_map]
  exact ha
 .intro p hp
  rw[Aqm]at hp;obtain⟨v,hv,rfl⟩:=hp;have:=((hm v).1 hv).2;unfold JR at this
  by_cases h0:0<=v
  .exact h0
  .rw[if_neg h0]at this
   exact absurd rfl this
 .intro p hp
  rw[Aqm]at hp;obtain⟨v,hv,rfl⟩:=hp;exact((hm v).1 hv).2
 .rw[PT _ _ ha]
  have hc:JR ps v=AZ v ps:=if_pos hv
  by_cases hv2:v∈UM ps
  .rw[if_pos hv2,hc]
  .rw[if_neg hv2]
   by_cases hz:AZ v ps=0
   .exact hz.symm
   .refine absurd ((hm v).2 ⟨?_,by rw[hc];exact hz⟩) hv2
    by_cases hmm:v∈ps.map (·.1)
    .exact hmm
    .refine absurd (E8 λp hp e=>hmm ?_) hz
     rw[←e];exact List.mem_map_of_mem hp
inductive Fm where
 |mk (kind:Int) (t:Tm) (eq:Bool) (kids:List Fm)
def Fm.kind:Fm->Int
 |.mk k _ _ _=>k
def Fm.tm:Fm->Tm
 |.mk _ t _ _=>t
def Fm.eq:Fm->Bool
 |.mk _ _ e _=>e
def Fm.kids:Fm->List Fm
 |.mk _ _ _ ks=>ks
def Tm0:Tm:=⟨[],⟨Φ,[]⟩⟩
def kF(k:Int)(ks:List Fm):Fm:=.mk k Tm0 Φ ks
def Ak6(b:Bool):Fm:=kF (if b then 0 else 1) []
def Aaj(l:Lf)(e:Bool):Fm:=.mk 2 l.tm e []
mutual
def Jb:Fm->Fm
 |.mk k t e ks=>if k=0 then Ak6 Δ else if k=2 then Aaj t.lf.pln e else if k=3 then kF 3 (WJ ks) else if k=4\/k=5 then kF k (ML ks) else Ak6 Φ
def WJ:List Fm->List Fm
 |[]=>[]
 |x::_=>[Jb x]
def ML:List Fm->List Fm
 |[]=>[]
 |x::r=>Jb x::ML r
end
def Ff(v:Int)(e:Bool):Bool:=decide (v=0)||(!e&&decide (0<v))
mutual
inductive CanF:Fm->Prop
 |tru (b:Bool):CanF (Ak6 b)
 |atom (l:Lf) (e:Bool) (h:l.pln=l):CanF (Aaj l e)
 |no (x:Fm) (h:CanF x):CanF (kF 3 [x])
 |and (l:List Fm) (h:CanFs l):CanF (kF 4 l)
 |or (l:List Fm) (h:CanFs l):CanF (kF 5 l)
 |no0:CanF (kF 3 [])
inductive CanFs:List Fm->Prop
 |nil:CanFs []
 |cons {x:Fm} {r:List Fm} (h:CanF x) (hr:CanFs r):CanFs (x::r)
end
mutual
theorem CanF.clone:∀{x:Fm},CanF x->Jb x=x
 |_,.tru b=>by cases b<;>rfl
 |_,.atom l e h=>by
  unfold Aaj;rw[Jb,if_neg (by decide),if_pos rfl,BS,h];rfl
 |_,.no x h=>by
  unfold kF;rw[Jb,if_neg (by decide),if_neg (by decide),if_pos rfl,WJ,h.clone];rfl
 |_,.and l h=>by
  unfold kF;rw[Jb,if_neg (by decide),if_neg (by decide),if_neg (by decide),if_pos (.inl rfl),h.clone];rfl
 |_,.or l h=>by
  unfold kF;rw[Jb,if_neg (by decide),if_neg (by decide),if_neg (by decide),if_pos (.inr rfl),h.clone];rfl
 |_,.no0=>rfl
theorem CanFs.clone:∀{l:List Fm},CanFs l->ML l=l
 |_,.nil=>rfl
 |_,.cons h hr=>by rw[ML,h.clone,hr.clone]
end
def LK(ps:List (Int × Int))(vals:List Int):Nat->Int
 |0=>0
 |n+1=>LK ps vals n+AZ (n:Int) ps*vals.getD n 0
theorem UK(vals:List Int)(n:Nat):Ek vals (n:Int)=vals.getD n 0:=by
 unfold Ek;rw[if_neg (by omega),Int.toNat_natCast]
theorem UJ(vals:List Int){v:Int}(h:(vals.length:Int)<=v):Ek vals v=0:=by
 unfold Ek;rw[if_neg (by omega),AsN,Ard (by omega)];rfl
theorem Uw(vals:List Int):∀ n,LK [] vals n=0
 |0=>rfl
 |n+1=>by rw[LK,Uw vals n,AZ,At0];rfl
theorem Qw(p:Int × Int)(r:List (Int × Int))(vals:List Int):∀ n:Nat,LK (p::r) vals n=(if 0<=p.1/\p.1<(n:Int) then p.2*Ek vals p.1 else 0)+LK r vals n
 |0=>by rw[LK,LK,if_neg (by omega)];rfl
 |n+1=>by
  rw[LK,LK,Qw p r vals n,AZ,Ash]
  by_cases h:p.1=(n:Int)
  .rw[if_pos h,if_neg (by omega),if_pos (by omega),h,UK]
   omega
  .rw[if_neg h,At0]
   by_cases h2:0<=p.1/\p.1<(n:Int)
   .rw[if_pos h2,if_pos (by omega)];omega
   .rw[if_neg h2,if_neg (by omega)];omega
theorem Qy(vals:List Int):∀ ps:List (Int × Int),Ch (Ek vals) ps=LK ps vals vals.length
 |[]=>by rw[Uw];rfl
 |p::r=>by
  rw[Qw,Ch,Qy vals r]
  by_cases h:0<=p.1/\p.1<(vals.length:Int)
  .rw[if_pos h]
  .rw[if_neg h]
   by_cases h0:p.1<0
   .rw[Pa _ _ h0,AtZ]
   .rw[UJ vals (by omega),AtZ]
theorem Adq(vals:List Int)(l:Lf):l.val (Ek vals)=l.k+LK l.ps vals vals.length:=by
 unfold Lf.val;rw[Qy];omega
theorem Aa9{k:Nat}{vals:List Int}(h:∀ x∈vals,InB k x)(n:Nat):InB k (vals.getD n 0):=by
 rw[AsN]
 cases e:vals[n]? with
 |none=>exact InB.zero _
 |some x=>
  obtain⟨hn,rfl⟩:=List.getElem?_eq_some_iff.1 e;exact h _ (Aqg hn)
theorem Uv{n k j:Nat}{l:Lf}{vals:List Int}(hl:LB n k l)(hv:∀ x∈vals,InB j x):∀ m:Nat,InB (k+n+j+m) (LK l.ps vals m)
 |0=>InB.zero _
 |m+1=>by
  rw[LK,←Aqu];refine InB.add (Uv hl hv m) ?_;have h1:=In (m:Int) l.ps hl.ps;have h2:=InB.mul h1 (Aa9 hv m);exact h2.mono (by have:=hl.len;omega)
def CV:List (Int × Int)->Int × Int->List (Int × Int)
 |[],p=>if p.1<0 then [] else [p]
 |q::r,p=>if p.1<0 then q::r else if q.1=p.1 then(q.1,q.2+p.2)::r else p::q::r
theorem Es(p:Int × Int):CV [] p=if p.1<0 then [] else [p]:=rfl
theorem DG(q:Int × Int)(r:List (Int × Int))(p:Int × Int):CV (q::r) p=if p.1<0 then q::r else if q.1=p.1 then(q.1,q.2+p.2)::r else p::q::r:=rfl
structure GrpI (s t:List (Int × Int)):Prop where
 desc:s.Pairwise λa b=>b.1<a.1
 pos:∀ q∈s,0<=q.1
 up:∀ q∈s,∀ p∈t,0<=p.1->q.1<=p.1
theorem YB(v:Int)(hv:0<=v):∀(s:List (Int × Int)) (p:Int × Int),AZ v (CV s p)=AZ v s+(if p.1=v then p.2 else 0)
 |[],p=>by
  rw[Es];split
  .rw[if_neg (by omega)];simp[AZ]
  .simp[AZ]
 |q::r,p=>by
  rw[DG];split
  .rw[if_neg (by omega)];omega
  .split
   .rename_i h
    rw[AZ,AZ];simp only[h];split<;>omega
   .rw[AZ]
    omega
theorem Abb{s t:List (Int × Int)}{p:Int × Int}(h:GrpI s (p::t))(ht:∀ x∈t,p.1<=x.1):GrpI (CV s p) t:=by
 have ut:∀ q∈s,∀ x∈t,0<=x.1->q.1<=x.1:=λq hq x hx=>h.up q hq x (π _ hx)
 cases s with
 |nil=>
  rw[Es];split
  .exact⟨.nil,by simp,by simp⟩
  .exact⟨ArP _ _,by simp;omega,λq hq x hx _=>by rw[Aqp.1 hq];exact ht x hx⟩
 |cons q r=>
  have hd:=AqI.1 h.desc;rw[DG];split
  .exact⟨h.desc,h.pos,ut⟩
  .rename_i hp
   split
   .refine⟨AqI.2 ⟨λx hx=>hd.1 x hx,hd.2⟩,λx hx=>?_,λx hx y hy hy0=>?_⟩
    .rcases ApT.1 hx with rfl|hx
     .exact h.pos q (ι ..)
     .exact h.pos x (π _ hx)
    .rcases ApT.1 hx with rfl|hx
     .exact ut q (ι ..) y hy hy0
     .exact ut x (π _ hx) y hy hy0
   .rename_i hne
    have hq:=h.up q (ι ..) p (ι ..) (by omega);refine⟨AqI.2 ⟨λx hx=>?_,h.desc⟩,λx hx=>?_,λx hx y hy hy0=>?_⟩
    .rcases ApT.1 hx with rfl|hx
     .omega
     .have:=hd.1 x hx;omega
    .rcases ApT.1 hx with rfl|hx
     .omega
     .exact h.pos x hx
    .rcases ApT.1 hx with rfl|hx
     .exact ht y hy
     .exact ut x hx y hy hy0
theorem W3:∀(t s:List (Int × Int)),t.Pairwise (λa b=>a.1<=b.1)->GrpI s t->GrpI (t.foldl CV s) []/\∀ v,0<=v->AZ v (t.foldl CV s)=AZ v s+AZ v t
 |[],s,_,h=>⟨h,λv _=>by simp[AZ]⟩
 |p::t,s,ht,h=>by
  have hp:=AqI.1 ht;obtain⟨g1,g2⟩:=W3 t (CV s p) hp.2 (Abb h hp.1);refine⟨g1,λv hv=>?_⟩;rw[List.foldl_cons,g2 v hv,YB v hv,AZ];omega
theorem S1(v:Int):∀ l:List (Int × Int),AZ v (l.filter λp=>!decide (p.2=0))=AZ v l
 |[]=>rfl
 |p::r=>by
  have ih:=S1 v r
  by_cases h:p.2=0
  .rw[List.filter_cons_of_neg (by simp[h]),ih,AZ,h]
   simp
  .rw[List.filter_cons_of_pos (by simp[h]),AZ,AZ,ih]
theorem Rj{t l:List (Int × Int)}(ht:t.Pairwise λa b=>a.1<=b.1)(hp:t.Perm l):((t.foldl CV []).reverse).filter (λp=>!decide (p.2=0))=AC l:=by
 obtain⟨g1,g2⟩:=W3 t [] ht ⟨.nil,by simp,by simp⟩;refine Ox ⟨?_,λp h=>?_,λp h=>?_⟩ λv hv=>?_
 .refine List.Pairwise.filter _ ?_
  rw[List.pairwise_reverse];exact g1.desc
 .have:=(Aro.1 h).1
  exact g1.pos p (List.mem_reverse.1 this)
 .simpa using (Aro.1 h).2
 .rw[S1,Ny (List.reverse_perm _),g2 v hv,Ny hp]
  simp[AZ]
theorem Hj{k:Nat}{s:List (Int × Int)}{p:Int × Int}(hs:∀ q∈s,InB k q.2)(hp:InB k p.2):∀ q∈CV s p,InB (k+1) q.2:=by
 cases s with
 |nil=>
  rw[Es];split
  .simp
  .intro q hq
   rw[Aqp.1 hq];exact hp.mono (by omega)
 |cons q r=>
  rw[DG];have hq:=hs q (ι ..);have hr:∀ x∈r,InB (k+1) x.2:=λx hx=>(hs x (π _ hx)).mono (by omega)
  split
  .intro x hx
   rcases ApT.1 hx with rfl|hx
   .exact hq.mono (by omega)
   .exact hr x hx
  .split
   .intro x hx
    rcases ApT.1 hx with rfl|hx
    .exact InB.add hq hp
    .exact hr x hx
   .intro x hx
    rcases ApT.1 hx with rfl|hx
    .exact hp.mono (by omega)
    .rcases ApT.1 hx with rfl|hx
     .exact hq.mono (by omega)
     .exact hr x hx
theorem Hk(s:List (Int × Int))(p:Int × Int):(CV s p).length<=s.length+1:=by
 cases s with
 |nil=>rw[Es];split<;>simp
 |cons q r=>
  rw[DG];split
  .simp
  .split<;>simp
theorem Srt.same{l r:List Pt}{a b p q:Nat}(h:Srt Pt.v l p q)(hs:Same0 l r a b)(hd:q<=a\/b<=p):Srt Pt.v r p q:=by
 intro x y h1 h2 h3;rw[hs.kf Pt.v (by omega),hs.kf Pt.v (by omega)];exact h x y h1 h2 h3
def US(q t:Nat)(l:List Pt):Prop:=∀ p,q ∣ p->p+q<=t->Srt Pt.v l p (p+q)
theorem Alo{a:Nat}(h:a<4611686018427387000):Ad.add .i64 (a:Int) 20=((a+20:Nat):Int):=by
 rw[EG (by omega) (by omega)];rfl
section
variable {D:Orc} (K:Knows Av DY D)
include K
theorem AkY:∀(m a:Nat) (l:List Pt),l.length-a=m->a<=l.length->l.length<=1000000000->20 ∣ a->US 20 a l->
  ∃(r:List Pt) (c:Nat),D.ask (.lp 196 0) [.sl 0 0 l.length 3,iv (l.length:Int),Fo,iv 20,iv (a:Int),iv ((a+20:Nat):Int)] [θ (Ag eP l) Δ Δ]
   = Θ (.tup [iv 0,.sl 0 0 l.length 3,iv (l.length:Int),Fo,iv 20,iv (c:Int)],[.set (θ (Ag eP r) Δ Δ)])
   ∧ r.length=l.length/\r.Perm l/\c<=l.length/\l.length<c+20/\20 ∣ c/\US 20 c r:=by
 intro m
 induction m using Arp with
 |_ m ih=>
  intro a l hm ha hl hd hb
  by_cases h:a+20<=l.length
  .obtain⟨r,g,hr,hp,ho,hsm⟩:=Abw K (a:=a) (b:=a+20) (l:=l) (by omega) h hl
   have hb2:US 20 (a+20) r:=λp h1 h2=>by
    by_cases hpa:p=a
    .subst hpa
     exact ho
    .exact(hb p h1 (by omega)).same hsm (.inl (by omega))
   obtain⟨r2,c,g2,hr2,hp2,h3,h4,h5,h6⟩:=ih (r.length-(a+20)) (by omega) (a+20) r rfl (by omega) (by omega) (by omega) hb2;rw[hr]at g2 h3 h4;refine⟨r2,c,?_,by omega,hp2.trans hp,h3,h4,h5,h6⟩;refine Ax K GU (AaE ..) ?_;refine CI ?_;refine Ab g ?_;simp only[Fo,ND,DK,Aa];rw[Alo (by omega)];refine Ab g2 ?_;rfl
  .refine⟨l,a,?_,rfl,List.Perm.refl _,ha,by omega,hd,hb⟩
   refine Ax K GU (AaE ..) ?_;exact DA rfl
omit K in
def M7(D:Orc):Prop:=∀(l:List Pt) (a m b:Nat),a<m->m<b->b<=l.length->l.length<=1000000000->Srt Pt.v l a m->Srt Pt.v l m b->
 ∃ r:List Pt,D.ask (.fn 235) [.sl 0 0 l.length 3,iv (a:Int),iv (m:Int),iv (b:Int),Fo] [θ (Ag eP l) Δ Δ]=Θ (.tup [],[.set (θ (Ag eP r) Δ Δ)])
  ∧ r.length=l.length/\r.Perm l/\Srt Pt.v r a b/\Same0 l r a b
def TlS(q a:Nat)(l:List Pt):Prop:=∀ j,Srt Pt.v l (a+j*q) (min (a+(j+1)*q) l.length)
theorem Ak0(M:M7 D)(q:Nat)(hq:0<q)(hq2:q<=1000000000):∀(m a:Nat) (l:List Pt),l.length-a=m->a<=l.length->l.length<=1000000000->2*q ∣ a->US (2*q) a l->TlS q a l->
  ∃(r:List Pt) (c:Nat),D.ask (.lp 196 2) [.sl 0 0 l.length 3,iv (l.length:Int),Fo,iv (q:Int),iv (a:Int),iv ((a+2*q:Nat):Int)] [θ (Ag eP l) Δ Δ]
   = Θ (.tup [iv 4,.sl 0 0 l.length 3,iv (l.length:Int),Fo,iv (q:Int),iv (c:Int)],[.set (θ (Ag eP r) Δ Δ)])
   ∧ r.length=l.length/\r.Perm l/\c<=l.length/\l.length<c+2*q/\2*q ∣ c/\US (2*q) c r/\TlS q c r:=by
 intro m
 induction m using Arp with
 |_ m ih=>
  intro a l hm ha hl hd hb ht
  by_cases h:a+2*q<=l.length
  .have t0:=ht 0
   have t1:=ht 1;rw[Arn,AqJ,Ap6,Aq8,AqW (by omega)]at t0;rw[Aq8,show (1+1)*q=2*q from rfl,AqW h]at t1;obtain⟨r,g,hr,hp,ho,hsm⟩:=M l a (a+q) (a+2*q) (by omega) (by omega) h hl t0 t1;have hb2:US (2*q) (a+2*q) r:=λp h1 h2=>by
    by_cases hpa:p=a
    .subst hpa
     exact ho
    .have:=Ath (by omega) (Atw hd h1)
     exact(hb p h1 (by omega)).same hsm (.inl (by omega))
   have ht2:TlS q (a+2*q) r:=λj=>by
    have:=ht (j+2);rw[show a+(j+2)*q=a+2*q+j*q by rw[Aqz];omega,show a+(j+2+1)*q=a+2*q+(j+1)*q by rw[Aqz,Aqz,Aqz];omega]at this;rw[hr];exact this.same hsm (.inr (by omega))
   obtain⟨r2,c,g2,hr2,hp2,h3,h4,h5,h6,h7⟩:=ih (r.length-(a+2*q)) (by omega) (a+2*q) r rfl (by omega) (by omega) (Nat.dvd_add hd (At6 _)) hb2 ht2;rw[hr]at g2 h3 h4;refine⟨r2,c,?_,by omega,hp2.trans hp,h3,h4,h5,h6,h7⟩;refine Ax K GU (AaF ..) ?_;refine CI ?_;rw[show Ad.add .i64 (a:Int) (q:Int)=((a+q:Nat):Int) by rw[EG (by omega) (by omega)];omega,
    show Ad.mul .i64 2 (q:Int)=((2*q:Nat):Int) by
     show IntKind.i64.wrap (2*(q:Int))=_
     rw[IntKind.wrap_i64];omega,
    show Ad.add .i64 ((a+2*q:Nat):Int) ((2*q:Nat):Int)=((a+2*q+2*q:Nat):Int) by rw[EG (by omega) (by omega)];omega]
   refine Ab g ?_;simp only[Fo,ND,DK,Aa];refine Ab g2 ?_;rfl
  .refine⟨l,a,?_,rfl,List.Perm.refl _,ha,by omega,hd,hb,ht⟩
   refine Ax K GU (AaF ..) ?_;exact DA rfl
omit K in
theorem Wu{q c:Nat}{r:List Pt}(hq:0<q)(hd:q ∣ c)(hn:r.length<c+q)(hb:US q c r)(hs:Srt Pt.v r c r.length):TlS q 0 r:=λj=>by
 rw[Ap6,Ap6];have e:(j+1)*q=j*q+q:=by rw[Aqz];omega
 by_cases h1:j*q+q<=c
 .have:=hb (j*q) (AsZ q j) h1
  intro x y hx hxy hy;exact this x y hx hxy (by omega)
 .by_cases h2:j*q=c
  .intro x y hx hxy hy
   exact hs x y (by omega) hxy (by omega)
  .intro x y hx hxy hy
   exfalso
   by_cases h3:j*q<c
   .have:=Ath (by omega) (Atw hd (AsZ q j))
    omega
   .have:=Ath (by omega) (Atw (AsZ q j) hd)
    omega
theorem AkZ(M:M7 D):∀(m q:Nat) (l:List Pt),l.length-q=m->0<q->q<=2000000000->l.length<=1000000000->TlS q 0 l->
  ∃ r:List Pt,D.ask (.lp 196 1) [.sl 0 0 l.length 3,iv (l.length:Int),Fo,iv (q:Int)] [θ (Ag eP l) Δ Δ]
   = Θ (.tup [iv 2,.sl 0 0 l.length 3],[.set (θ (Ag eP r) Δ Δ)])
   ∧ r.length=l.length/\r.Perm l/\Srt Pt.v r 0 r.length:=by
 intro m
 induction m using Arp with
 |_ m ih=>
  intro q l hm hq hq2 hl ht
  by_cases h:q<l.length
  .obtain⟨r,c,g,hr,hp,hc,hn,hd,hb,ht2⟩:=Ak0 K M q hq (by omega) _ 0 l rfl (by omega) hl (At7 _) (λp _ h2=>by omega) ht
   have t0:=ht2 0;have t1:=ht2 1;rw[Arn,AqJ,Ap6,Aq8]at t0;rw[Aq8,show (1+1)*q=2*q from rfl,As1 (by omega)]at t1;rw[Ap6]at g;have emul:Ad.mul .i64 2 (q:Int)=((2*q:Nat):Int):=by
    show IntKind.i64.wrap (2*(q:Int))=_
    rw[IntKind.wrap_i64];omega
   have emul2:Ad.mul .i64 (q:Int) 2=((2*q:Nat):Int):=by
    show IntKind.i64.wrap ((q:Int)*2)=_
    rw[IntKind.wrap_i64];omega
   have eadd:Ad.add .i64 (c:Int) (q:Int)=((c+q:Nat):Int):=by rw[EG (by omega) (by omega)];omega
   by_cases h2:c+q<l.length
   .rw[AqW (by omega)]at t0
    obtain⟨r3,g3,hr3,hp3,ho3,hsm⟩:=M r c (c+q) r.length (by omega) (by omega) (κ _) (by omega) t0 t1;have ht3:TlS (2*q) 0 r3:=Wu (by omega) hd (by omega) (λp h1 h2=>(hb p h1 h2).same hsm (.inl (by omega))) (by rw[hr3];exact ho3);obtain⟨r4,g4,hr4,hp4,ho4⟩:=ih (r3.length-2*q) (by omega) (2*q) r3 rfl (by omega) (by omega) (by omega) ht3;rw[hr]at g3 hr3;rw[hr3]at g4 hr4;refine⟨r4,?_,hr4,hp4.trans (hp3.trans hp),ho4⟩;refine Ax K GU (Vg ..) ?_;refine Al ?_;rw[emul];refine Ab g ?_;simp only[Fo,ND,DK,Aa];refine Ac ?_;rw[eadd,emul2];refine Al ?_;refine Ab g3 ?_;simp only[Fo,ND,DK,Aa];refine Ab g4 ?_;rfl
   .rw[As1 (by omega)]at t0
    have ht3:TlS (2*q) 0 r:=Wu (by omega) hd (by omega) hb t0;obtain⟨r4,g4,hr4,hp4,ho4⟩:=ih (r.length-2*q) (by omega) (2*q) r rfl (by omega) (by omega) (by omega) ht3;rw[hr]at g4 hr4;refine⟨r4,?_,hr4,hp4.trans hp,ho4⟩;refine Ax K GU (Vg ..) ?_;refine Al ?_;rw[emul];refine Ab g ?_;simp only[Fo,ND,DK,Aa];refine Ac ?_;rw[eadd,emul2];refine Ak ?_;refine Ab g4 ?_;rfl
  .refine⟨l,?_,rfl,List.Perm.refl _,?_⟩
   .refine Ax K GU (Vg ..) ?_
    exact Ak rfl
   .have t0:=ht 0
    rw[Arn,Ap6,Ap6,Aq8,As1 (by omega)]at t0;exact t0
theorem Zy(M:M7 D){l:List Pt}(hl:l.length<=1000000000) :
  ∃ r:List Pt,D.ask (.fn 196) [.sl 0 0 l.length 3,iv (l.length:Int),Fo] [θ (Ag eP l) Δ Δ]=Θ (.tup [],[.set (θ (Ag eP r) Δ Δ)])
   ∧ r.length=l.length/\r.Perm l/\Srt Pt.v r 0 r.length:=by
 obtain⟨r,c,g,hr,hp,hc,hn,hd,hb⟩:=AkY K _ 0 l rfl (by omega) hl (At7 _) (λp _ h2=>by omega);obtain⟨r2,g2,hr2,hp2,ho2,hsm⟩:=Abw K (a:=c) (b:=r.length) (l:=r) (by omega) (κ _) (by omega);have ht:TlS 20 0 r2:=Wu (by omega) hd (by omega) (λp h1 h2=>(hb p h1 h2).same hsm (.inl (by omega))) (by rw[hr2];exact ho2);obtain⟨r3,g3,hr3,hp3,ho3⟩:=AkZ K M _ 20 r2 rfl (by omega) (by omega) (by omega) ht;rw[hr]at g2 hr2;rw[hr2]at g3 hr3;refine⟨r3,?_,hr3,hp3.trans (hp2.trans hp),ho3⟩;refine AI K GU (Aoj ..) ?_;refine Ab g ?_;simp only[Fo,ND,DK,Aa];refine Ab g2 ?_;simp only[Fo,ND,DK,Aa];refine Ab g3 ?_;rfl
theorem AgZ(M:M7 D){l:List Pt}(hl:l.length<=1000000000) :
  ∃ r:List Pt,D.ask (.fn 136) [.sl 0 0 l.length 3,Fo] [θ (Ag eP l) Δ Δ]=Θ (.tup [],[.set (θ (Ag eP r) Δ Δ)])
   ∧ r.length=l.length/\r.Perm l/\Srt Pt.v r 0 r.length:=by
 obtain⟨r,g,h⟩:=Zy K M hl;refine⟨r,?_,h⟩;refine AI K AhW (AnY ..) ?_;refine Ab g ?_;rfl
end
section
variable {α:Type} (key:α->Int)
structure Rot (l r:List α) (a m b:Nat):Prop where
 out:∀ p,p<a\/b<=p->r[p]? = l[p]?
 low:∀ p,a<=p->p<a+(b-m)->r[p]? = l[p+(m-a)]?
 high:∀ p,a+(b-m)<=p->p<b->r[p]? = l[p-(b-m)]?
structure SwR (l r:List α) (a b n:Nat):Prop where
 out:∀ p,p<a\/(a+n<=p/\p<b)\/b+n<=p->r[p]? = l[p]?
 low:∀ p,a<=p->p<a+n->r[p]? = l[p+(b-a)]?
 high:∀ p,b<=p->p<b+n->r[p]? = l[p-(b-a)]?
theorem Cv{l:List α}{i j:Nat}(h:i=j):l[i]? = l[j]?:=by rw[h]
theorem AcJ{c d r:List α}{i j m:Nat}(h0:i<=m)(h:j<i)(s:SwR c d (m-i) m j)(t:Rot d r (m-(i-j)) m (m+j)):Rot c r (m-i) m (m+j):=by
 refine⟨λp hp=>?_,λp h1 h2=>?_,λp h1 h2=>?_⟩
 .rw[t.out p (by omega),s.out p (by omega)]
 .rw[t.out p (by omega),s.low p (by omega) (by omega)]
 .by_cases h3:p<m-(i-j)+j
  .rw[t.low p (by omega) (by omega),s.high _ (by omega) (by omega)]
   exact Cv (by omega)
  .rw[t.high p (by omega) (by omega),s.out _ (by omega)]
theorem Zc{c d r:List α}{i j m:Nat}(h0:i<=m)(h:i<j)(s:SwR c d (m-i) (m+j-i) i)(t:Rot d r (m-i) m (m+(j-i))):Rot c r (m-i) m (m+j):=by
 refine⟨λp hp=>?_,λp h1 h2=>?_,λp h1 h2=>?_⟩
 .rw[t.out p (by omega),s.out p (by omega)]
 .by_cases h3:p<m-i+(j-i)
  .rw[t.low p (by omega) (by omega),s.out _ (by omega)]
  .rw[t.high p (by omega) (by omega),s.low _ (by omega) (by omega)]
   exact Cv (by omega)
 .rw[t.out p (by omega),s.high p (by omega) (by omega)]
  exact Cv (by omega)
theorem AcL{c r:List α}{i m:Nat}(h0:i<=m)(s:SwR c r (m-i) m i):Rot c r (m-i) m (m+i):=by
 refine⟨λp hp=>?_,λp h1 h2=>?_,λp h1 h2=>?_⟩
 .rw[s.out p (by omega)]
 .rw[s.low p (by omega) (by omega)]
 .rw[s.high p (by omega) (by omega)]
  exact Cv (by omega)
theorem Gl{l:List α}{a m b:Nat}(h:a=m\/m=b)(ha:a<=m)(hb:m<=b):Rot l l a m b:=by
 refine⟨λp hp=>rfl,λp h1 h2=>Cv (by omega),λp h1 h2=>Cv (by omega)⟩
theorem Ac2{l r:List α}{a b n:Nat}(hab:a+n<b)(hb:b+n<l.length)(s:SwR l r a b n)(hr:r.length=l.length):SwR l (CO r (a+n) (b+n)) a b (n+1):=by
 have ha:a+n<r.length:=by omega
 have hb2:b+n<r.length:=by omega
 have e1:∀ p,(CO r (a+n) (b+n))[p]? = if p=a+n then r[b+n]? else if p=b+n then r[a+n]? else r[p]?:=λp=>by
  rw[Dt ha hb2]
  by_cases h1:p=b+n
  .subst h1
   rw[if_neg (by omega),if_pos rfl,Arj (by simpa using hb2),φ ha]
  .rw[Aq5 (λe=>h1 e.symm)]
   by_cases h2:p=a+n
   .subst h2
    rw[if_pos rfl,Arj ha,φ hb2]
   .rw[if_neg h2,if_neg h1,Aq5 (λe=>h2 e.symm)]
 refine⟨λp hp=>?_,λp h1 h2=>?_,λp h1 h2=>?_⟩
 .rw[e1,if_neg (by omega),if_neg (by omega),s.out p (by omega)]
 .rw[e1]
  by_cases h:p=a+n
  .rw[if_pos h,s.out _ (by omega)]
   exact Cv (by omega)
  .rw[if_neg h,if_neg (by omega),s.low p h1 (by omega)]
 .rw[e1]
  by_cases h:p=b+n
  .rw[if_neg (by omega),if_pos h,s.out _ (by omega)]
   exact Cv (by omega)
  .rw[if_neg (by omega),if_neg h,s.high p h1 (by omega)]
theorem Ac3(l:List α)(a b:Nat):SwR l l a b 0:=⟨λ_ _=>rfl,λ_ h1 h2=>by omega,λ_ h1 h2=>by omega⟩
theorem Ht{l r:List α}{p q:Nat}(h:r[p]? = l[q]?):kf key r p=kf key l q:=by
 unfold kf;rw[h]
theorem Rot.kout{l r:List α}{a m b p:Nat}(h:Rot l r a m b)(hp:p<a\/b<=p):kf key r p=kf key l p:=Ht key (h.out p hp)
theorem Rot.klow{l r:List α}{a m b p:Nat}(h:Rot l r a m b)(h1:a<=p)(h2:p<a+(b-m)):kf key r p=kf key l (p+(m-a)):=Ht key (h.low p h1 h2)
theorem Rot.khigh{l r:List α}{a m b p:Nat}(h:Rot l r a m b)(h1:a+(b-m)<=p)(h2:p<b):kf key r p=kf key l (p-(b-m)):=Ht key (h.high p h1 h2)
theorem TP{l r:List α}{a b i:Nat}(hi:a+1<=i)(hib:i<=b)(hs:Srt key l (a+1) b)(h1:∀ p,a+1<=p->p<i->kf key l p<kf key l a)(h2:∀ p,i<=p->p<b->kf key l a<=kf key l p)(t:Rot l r a (a+1) i):Srt key r a b:=by
 intro p q hp hpq hq
 by_cases q1:q<i-1
 .rw[t.klow key (by omega) (by omega),t.klow key (by omega) (by omega)]
  exact hs _ _ (by omega) (by omega) (by omega)
 .by_cases q2:q=i-1
  .rw[t.klow key (by omega) (by omega),t.khigh key (by omega) (by omega),show q-(i-(a+1))=a by omega]
   have:=h1 (p+(a+1-a)) (by omega) (by omega);omega
  .rw[t.kout key (p:=q) (by omega)]
   by_cases p1:p<i-1
   .rw[t.klow key (by omega) (by omega)]
    exact hs _ _ (by omega) (by omega) (by omega)
   .by_cases p2:p=i-1
    .rw[t.khigh key (by omega) (by omega),show p-(i-(a+1))=a by omega]
     exact h2 q (by omega) hq
    .rw[t.kout key (by omega)]
     exact hs _ _ (by omega) (by omega) (by omega)
theorem VT{l r:List α}{a m i:Nat}(hi:a<=i)(him:i<=m)(hs:Srt key l a m)(h1:∀ p,a<=p->p<i->kf key l p<=kf key l m)(h2:∀ p,i<=p->p<m->kf key l m<kf key l p)(t:Rot l r i m (m+1)):Srt key r a (m+1):=by
 intro p q hp hpq hq
 by_cases p1:p<i
 .rw[t.kout key (p:=p) (by omega)]
  by_cases q1:q<i
  .rw[t.kout key (by omega)]
   exact hs _ _ (by omega) (by omega) (by omega)
  .by_cases q2:q=i
   .rw[t.klow key (by omega) (by omega),show q+(m-i)=m by omega]
    exact h1 p hp p1
   .rw[t.khigh key (by omega) (by omega)]
    exact hs _ _ (by omega) (by omega) (by omega)
 .rw[t.khigh key (p:=q) (by omega) (by omega)]
  by_cases p2:p=i
  .rw[t.klow key (by omega) (by omega),show p+(m-i)=m by omega]
   have:=h2 (q-(m+1-m)) (by omega) (by omega);omega
  .rw[t.khigh key (by omega) (by omega)]
   exact hs _ _ (by omega) (by omega) (by omega)
def Low(l:List α)(a m b:Nat):Prop:=∀ p q,a<=p->p<m->m<=q->q<b->kf key l p<=kf key l q
theorem Ag0{l:List α}{a m b:Nat}(h1:Srt key l a m)(h2:Srt key l m b)(h3:Low key l a m b):Srt key l a b:=by
 intro p q hp hpq hq
 by_cases c:q<m
 .exact h1 p q hp hpq c
 .by_cases d:p<m
  .exact h3 p q hp d (by omega) hq
  .exact h2 p q (by omega) hpq hq
structure CutAt (l:List α) (a m b mid s e:Nat):Prop where
 asl:a<=s
 sm:s<=m
 me:m<=e
 eb:e<=b
 mid:s+(e-m)=mid
 up:∀ p q,a<=p->p<s->e<=q->q<b->kf key l p<=kf key l q
 dn:∀ p q,m<=p->p<e->s<=q->q<m->kf key l p<=kf key l q
theorem EY{l r:List α}{a m b mid s e:Nat}(c:CutAt key l a m b mid s e)(h1:Srt key l a m)(h2:Srt key l m b)(t:Rot l r s m e) :
  Srt key r a s/\Srt key r s mid/\Srt key r mid e/\Srt key r e b/\Low key r a mid b:=by
 have:=c.asl;have:=c.sm;have:=c.me;have:=c.eb;have:=c.mid;refine⟨λp q x y z=>?_,λp q x y z=>?_,λp q x y z=>?_,λp q x y z=>?_,λp q x y z w=>?_⟩
 .rw[t.kout key (by omega),t.kout key (by omega)]
  exact h1 _ _ (by omega) (by omega) (by omega)
 .rw[t.klow key (by omega) (by omega),t.klow key (by omega) (by omega)]
  exact h2 _ _ (by omega) (by omega) (by omega)
 .rw[t.khigh key (by omega) (by omega),t.khigh key (by omega) (by omega)]
  exact h1 _ _ (by omega) (by omega) (by omega)
 .rw[t.kout key (by omega),t.kout key (by omega)]
  exact h2 _ _ (by omega) (by omega) (by omega)
 .by_cases p1:p<s
  .rw[t.kout key (p:=p) (by omega)]
   by_cases q1:q<e
   .rw[t.khigh key (by omega) (by omega)]
    exact h1 _ _ (by omega) (by omega) (by omega)
   .rw[t.kout key (by omega)]
    exact c.up _ _ (by omega) (by omega) (by omega) (by omega)
  .rw[t.klow key (p:=p) (by omega) (by omega)]
   by_cases q1:q<e
   .rw[t.khigh key (by omega) (by omega)]
    exact c.dn _ _ (by omega) (by omega) (by omega) (by omega)
   .rw[t.kout key (by omega)]
    exact h2 _ _ (by omega) (by omega) (by omega)
theorem Xv{l r:List α}{a b:Nat}(hp:r.Perm l)(hs:Same0 l r a b){p:Nat}(h1:a<=p)(h2:p<b)(hb:b<=l.length):∃ q,a<=q/\q<b/\r[p]? = l[q]?:=by
 have hlen:=hp.length_eq;have ht:r.take a=l.take a:=by
  apply Atr;intro i;rw[Aqo,Aqo];split
  .exact hs i (by omega)
  .rfl
 have hd:r.drop b=l.drop b:=by
  apply Atr;intro i;rw[AqT,AqT];exact hs _ (by omega)
 have er:∀ x:List α,b<=x.length->x=x.take a++((x.drop a).take (b-a)++x.drop b):=λx hx=>by
  have e1:=(AqU a x).symm;have e2:=(AqU (b-a) (x.drop a)).symm;rw[List.drop_drop,show a+(b-a)=b by omega]at e2;rw[←e2];exact e1
 have hp2:(r.take a++((r.drop a).take (b-a)++r.drop b)).Perm (l.take a++((l.drop a).take (b-a)++l.drop b)):=by
  rw[←er r (by omega),←er l hb];exact hp
 rw[ht,hd]at hp2;have hp3:=(List.perm_append_right_iff _).1 ((List.perm_append_left_iff _).1 hp2);have hpr:p<r.length:=by omega
 have hm:r[p]∈(r.drop a).take (b-a):=by
  rw[Atb];refine⟨p-a,?_⟩;rw[Aqo,if_pos (by omega),AqT,show a+(p-a)=p by omega,φ hpr]
 have hm2:=hp3.mem_iff.1 hm;rw[Atb]at hm2;obtain⟨i,hi⟩:=hm2;rw[Aqo]at hi;split at hi
 .rename_i hib
  rw[AqT]at hi;exact⟨a+i,by omega,by omega,by rw[hi,φ hpr]⟩
 .cases hi
theorem AbV{l r:List α}{a m b:Nat}(h:Low key l a m b)(hp:r.Perm l)(hs:Same0 l r a m)(hb:m<=l.length):Low key r a m b:=by
 intro p q x y z w;obtain⟨p2,h1,h2,h3⟩:=Xv hp hs x y hb;rw[Ht key h3,hs.kf key (by omega)];exact h p2 q h1 h2 z w
theorem YQ{l r:List α}{a m b:Nat}(h:Low key l a m b)(hp:r.Perm l)(hs:Same0 l r m b)(hb:b<=l.length):Low key r a m b:=by
 intro p q x y z w;obtain⟨q2,h1,h2,h3⟩:=Xv hp hs z w hb;rw[Ht key h3,hs.kf key (by omega)];exact h p q2 x y h1 h2
theorem Srt.same'{l r:List α}{a b p q:Nat}(h:Srt key l p q)(hs:Same0 l r a b)(hd:q<=a\/b<=p):Srt key r p q:=by
 intro x y h1 h2 h3;rw[hs.kf key (by omega),hs.kf key (by omega)];exact h x y h1 h2 h3
theorem KB{l:List α}{a s m:Nat}(h:s=a\/s=m)(h1:Srt key l a s)(h2:Srt key l s m):Srt key l a m:=by
 rcases h with rfl|rfl
 .exact h2
 .exact h1
structure Bs (l:List α) (n x y s r:Nat):Prop where
 xs:x<=s
 sr:s<=r
 ry:r<=y
 lo:∀ c,x<=c->c<s->kf key l c<=kf key l (n-1-c)
 hi:∀ c,r<=c->c<y->kf key l (n-1-c)<kf key l c
section
variable {l:List α} {n x y s r a m b:Nat}
theorem Bs.up(B:Bs key l n x y s r)(h1:Srt key l a m)(h2:Srt key l m b)(hx:a<=x)(hy:y<=m)(hn:n<=x+b)(hm:m+y<=n){c:Nat}(hc:s<=c)(hr:c<r)(h:kf key l c<=kf key l (n-1-c)):Bs key l n x y (c+1) r:=by
 have:=B.xs;have:=B.sr;have:=B.ry;refine⟨by omega,by omega,B.ry,λd hd1 hd2=>?_,B.hi⟩
 by_cases hdc:d=c
 .rw[hdc];exact h
 .have e1:=h1 d c (by omega) (by omega) (by omega)
  have e2:=h2 (n-1-c) (n-1-d) (by omega) (by omega) (by omega);omega
theorem Bs.dn(B:Bs key l n x y s r)(h1:Srt key l a m)(h2:Srt key l m b)(hx:a<=x)(hy:y<=m)(hn:n<=x+b)(hm:m+y<=n){c:Nat}(hc:s<=c)(hr:c<r)(h:kf key l (n-1-c)<kf key l c):Bs key l n x y s c:=by
 have:=B.xs;have:=B.sr;have:=B.ry;refine⟨B.xs,hc,by omega,B.lo,λd hd1 hd2=>?_⟩
 by_cases hdc:d=c
 .rw[hdc];exact h
 .have e1:=h1 c d (by omega) (by omega) (by omega)
  have e2:=h2 (n-1-d) (n-1-c) (by omega) (by omega) (by omega);omega
theorem Bs.cut{mid:Nat}(B:Bs key l (mid+m) x y s s)(h1:Srt key l a m)(h2:Srt key l m b)(hx:a<=x)(hy:y<=m)(hn:mid+m<=x+b)(hm:y<=mid)(cx:x=a\/mid+m=x+b)(cy:y=m\/y=mid):CutAt key l a m b mid s (mid+m-s):=by
 have:=B.xs;have:=B.ry;refine⟨by omega,by omega,by omega,by omega,by omega,λp q c1 c2 c3 c4=>?_,λp q c1 c2 c3 c4=>?_⟩
 .have hs:x<s:=by omega
  have e:=B.lo (s-1) (by omega) (by omega);rw[show mid+m-1-(s-1)=mid+m-s by omega]at e;have e1:kf key l p<=kf key l (s-1):=by
   by_cases h:p=s-1
   .rw[h];exact AsJ _
   .exact h1 _ _ (by omega) (by omega) (by omega)
  have e2:kf key l (mid+m-s)<=kf key l q:=by
   by_cases h:q=mid+m-s
   .rw[h];exact AsJ _
   .exact h2 _ _ (by omega) (by omega) (by omega)
  omega
 .have hs:s<y:=by omega
  have e:=B.hi s (by omega) (by omega);have e1:kf key l p<=kf key l (mid+m-1-s):=by
   by_cases h:p=mid+m-1-s
   .rw[h];exact AsJ _
   .exact h2 _ _ (by omega) (by omega) (by omega)
  have e2:kf key l s<=kf key l q:=by
   by_cases h:q=s
   .rw[h];exact AsJ _
   .exact h1 _ _ (by omega) (by omega) (by omega)
  omega
end
theorem AkT{l r:List α}{a k:Nat}(h:a<=k)(hk:k+1<l.length)(hr:r.length=l.length)(t:Rot l r a (a+1) (k+1)):Rot l (CO r k (k+1)) a (a+1) (k+2):=by
 have e1:∀ p,(CO r k (k+1))[p]? = if p=k then r[k+1]? else if p=k+1 then r[k]? else r[p]?:=λp=>by
  rw[Dt (by omega) (by omega)]
  by_cases h1:p=k+1
  .subst h1
   rw[if_neg (by omega),if_pos rfl,Arj (by rw[Aqc];omega),φ (by omega)]
  .rw[Aq5 (λe=>h1 e.symm)]
   by_cases h2:p=k
   .subst h2
    rw[if_pos rfl,Arj (by omega),φ (by omega)]
   .rw[if_neg h2,if_neg h1,Aq5 (λe=>h2 e.symm)]
 refine⟨λp hp=>?_,λp h1 h2=>?_,λp h1 h2=>?_⟩
 .rw[e1,if_neg (by omega),if_neg (by omega),t.out p (by omega)]
 .rw[e1]
  by_cases h:p=k
  .rw[if_pos h,t.out _ (by omega)]
   exact Cv (by omega)
  .rw[if_neg h,if_neg (by omega),t.low p h1 (by omega)]
 .rw[e1,if_neg (by omega),if_pos (by omega),t.high k (by omega) (by omega)]
  exact Cv (by omega)
theorem AcI{l r:List α}{m k:Nat}(h:k<m)(hk:m<l.length)(hr:r.length=l.length)(t:Rot l r (k+1) m (m+1)):Rot l (CO r (k+1) k) k m (m+1):=by
 have e1:∀ p,(CO r (k+1) k)[p]? = if p=k then r[k+1]? else if p=k+1 then r[k]? else r[p]?:=λp=>by
  rw[Dt (by omega) (by omega)]
  by_cases h1:p=k
  .subst h1
   rw[if_pos rfl,Arj (by rw[Aqc];omega),φ (by omega)]
  .rw[if_neg h1,Aq5 (λe=>h1 e.symm)]
   by_cases h2:p=k+1
   .subst h2
    rw[if_pos rfl,Arj (by omega),φ (by omega)]
   .rw[if_neg h2,Aq5 (λe=>h2 e.symm)]
 refine⟨λp hp=>?_,λp h1 h2=>?_,λp h1 h2=>?_⟩
 .rw[e1,if_neg (by omega),if_neg (by omega),t.out p (by omega)]
 .rw[e1,if_pos (by omega),t.low (k+1) (by omega) (by omega)]
  exact Cv (by omega)
 .rw[e1,if_neg (by omega)]
  by_cases h:p=k+1
  .rw[if_pos h,t.out _ (by omega)]
   exact Cv (by omega)
  .rw[if_neg h,t.high p (by omega) (by omega)]
end
theorem Dw{a b:Nat}(h:a+b<4611686018427387904):Ad.conv .i64 (Ad.shr .u64 (Ad.conv .u64 (Ad.add .i64 (a:Int) (b:Int))) 1)=(((a+b) / 2:Nat):Int):=by
 rw[EG (by omega) (by omega),show (a:Int)+(b:Int)=((a+b:Nat):Int) by omega,A1 (by omega)];have:Ad.shr .u64 ((a+b:Nat):Int) 1=(((a+b) / 2:Nat):Int):=by
  show Int.fdiv ((a+b:Nat):Int) (2 ^ 1)=_
  have:(2 ^ 1:Int)=((2:Nat):Int):=by decide
  rw[this,Int.fdiv_eq_ediv_of_nonneg _ (by omega)];rfl
 rw[this]
 show IntKind.i64.wrap (((a+b) / 2:Nat):Int)=_
 rw[IntKind.wrap_i64];omega
theorem JH{a b:Nat}(h:a+b<4611686018427387904):Ad.add .i64 (a:Int) (b:Int)=((a+b:Nat):Int):=by
 rw[EG (by omega) (by omega)];omega
theorem Cs{a b:Nat}(hb:b<=a)(h:a<4611686018427387904):Ad.sub .i64 (a:Int) (b:Int)=((a-b:Nat):Int):=by
 rw[EH (by omega) (by omega)];omega
theorem H9{a:Nat}(hb:1<=a)(h:a<4611686018427387904):Ad.sub .i64 (a:Int) 1=((a-1:Nat):Int):=by
 rw[EH (by omega) (by omega)];omega
abbrev Fp(l:List Pt):ABlk:=θ (Ag eP l) Δ Δ
section
variable {D:Orc} (K:Knows Av DY D)
include K
theorem Ak1(a b n:Nat)(l0:List Pt):∀(m i:Nat) (l:List Pt),n-i=m->i<=n->a+n<=b->b+n<=l.length->l.length<=1000000000->l.length=l0.length->SwR l0 l a b i->
  ∃ r:List Pt,D.ask (.lp 275 0) [.sl 0 0 l.length 3,iv (a:Int),iv (b:Int),iv (n:Int),iv (i:Int)] [Fp l]=Θ (.tup [iv 0,.sl 0 0 l.length 3],[.set (Fp r)])
   ∧ r.length=l.length/\r.Perm l/\SwR l0 r a b n:=by
 intro m
 induction m with
 |zero=>
  intro i l hm hi ha hb hl h0 hs;obtain rfl:i=n:=by omega
  refine⟨l,?_,rfl,List.Perm.refl _,hs⟩;refine Ax K Ty (AaR ..) ?_;exact Ak rfl
 |succ m ih=>
  intro i l hm hi ha hb hl h0 hs;have hI:a+i<l.length:=by omega
  have hJ:b+i<l.length:=by omega
  have hlen:=Gq l (a+i) (b+i);obtain⟨r,g,hr,hp,ho⟩:=ih (i+1) (CO l (a+i) (b+i)) (by omega) (by omega) ha (by omega) (by omega) (by omega) (Ac2 (by omega) (by omega) hs h0);rw[hlen]at g hr;refine⟨r,?_,hr,hp.trans (Ej _ _ _),ho⟩;refine Ax K Ty (AaR ..) ?_;refine Al ?_;rw[JH (a:=b) (b:=i) (by omega),JH (a:=a) (b:=i) (by omega),BZ (by omega)];rw[At,AL hJ];refine Ac ?_;refine(Bf Au l (b+i) hJ _).trans ?_;simp only[eP,eN,ND,DK,Aa];rw[At,AL hI];refine Ac ?_;refine(Bf Au l (a+i) hI _).trans ?_;simp only[eP,eN,ND,DK,Aa];have s1:=Co Au l (a+i) hI l[(b+i)];have s2:=Co Au (l.set (a+i) l[(b+i)]) (b+i) (by rw[Aqc];exact hJ) l[(a+i)];rw[←Dt hI hJ]at s2;simp only[eP,eN]at s1 s2;rw[At,AL hI];refine Ac ?_;rw[show Ap3 (0+(a+i)*3+3) (Ag eP l).length=Δ by rw[AP Au];simp;omega];refine Ac ?_;rw[At,AL hJ];refine Ac ?_;rw[s1,s2];rw[show Ap3 (0+(b+i)*3+3) (Ag eP (l.set (a+i) l[(b+i)])).length=Δ by rw[AP Au,Aqc];simp;omega];refine Ac ?_;refine Ab g ?_;rfl
theorem Wo{a b n:Nat}{l:List Pt}(ha:a+n<=b)(hb:b+n<=l.length)(hl:l.length<=1000000000) :
  ∃ r:List Pt,D.ask (.fn 275) [.sl 0 0 l.length 3,iv (a:Int),iv (b:Int),iv (n:Int),Fo] [Fp l]=Θ (.tup [],[.set (Fp r)])
   ∧ r.length=l.length/\r.Perm l/\SwR l r a b n:=by
 obtain⟨r,g,h⟩:=Ak1 K a b n l _ 0 l rfl (by omega) ha hb hl rfl (Ac3 l a b);refine⟨r,?_,h⟩;refine AI K Ty (Aow ..) ?_;refine Ab g ?_;rfl
theorem AkS(m:Nat):∀(s i j:Nat) (l:List Pt),i+j=s->0<i->0<j->i<=m->m+j<=l.length->l.length<=1000000000->
  ∃(r:List Pt) (d:Nat),D.ask (.lp 265 0) [.sl 0 0 l.length 3,iv (m:Int),Fo,iv (i:Int),iv (j:Int)] [Fp l]=Θ (.tup [iv 0,.sl 0 0 l.length 3,iv (m:Int),Fo,iv (d:Int)],[.set (Fp r)])
   ∧ r.length=l.length/\r.Perm l/\d<=m/\m+d<=l.length/\∀ r2:List Pt,SwR r r2 (m-d) m d->Rot l r2 (m-i) m (m+j):=by
 intro s
 induction s using Arp with
 |_ s ih=>
  intro i j l hs hi hj him hl hn
  by_cases he:i=j
  .subst he
   refine⟨l,i,?_,rfl,List.Perm.refl _,him,hl,λr2 h=>AcL him h⟩;refine Ax K P6 (Vn ..) ?_;exact BF rfl rfl
  by_cases hlt:j<i
  .obtain⟨r,g,hr,hp,hsw⟩:=Wo K (a:=m-i) (b:=m) (n:=j) (l:=l) (by omega) hl hn
   obtain⟨r2,d,g2,hr2,hp2,hd1,hd2,hd3⟩:=ih (i-j+j) (by omega) (i-j) j r rfl (by omega) hj (by omega) (by omega) (by omega);rw[hr]at g2 hr2 hd2;refine⟨r2,d,?_,hr2,hp2.trans hp,hd1,hd2,λr3 h=>AcJ him hlt hsw (hd3 r3 h)⟩;refine Ax K P6 (Vn ..) ?_;refine Bm ?_;refine Al ?_;rw[Cs him (by omega),Cs (a:=i) (b:=j) (by omega) (by omega)];refine Ab g ?_;simp only[Fo,ND,DK,Aa];refine Ab g2 ?_;rfl
  .obtain⟨r,g,hr,hp,hsw⟩:=Wo K (a:=m-i) (b:=m+j-i) (n:=i) (l:=l) (by omega) (by omega) hn
   obtain⟨r2,d,g2,hr2,hp2,hd1,hd2,hd3⟩:=ih (i+(j-i)) (by omega) i (j-i) r rfl hi (by omega) him (by omega) (by omega);rw[hr]at g2 hr2 hd2;refine⟨r2,d,?_,hr2,hp2.trans hp,hd1,hd2,λr3 h=>Zc him (by omega) hsw (hd3 r3 h)⟩;refine Ax K P6 (Vn ..) ?_;refine Bm ?_;refine Ak ?_;rw[Cs him (by omega),JH (a:=m) (b:=j) (by omega),Cs (a:=m+j) (b:=i) (by omega) (by omega),Cs (a:=j) (b:=i) (by omega) (by omega)];refine Ab g ?_;simp only[Fo,ND,DK,Aa];refine Ab g2 ?_;rfl
theorem AcK{a m b:Nat}{l:List Pt}(ha:a<m)(hm:m<b)(hb:b<=l.length)(hl:l.length<=1000000000) :
  ∃ r:List Pt,D.ask (.fn 265) [.sl 0 0 l.length 3,iv (a:Int),iv (m:Int),iv (b:Int),Fo] [Fp l]=Θ (.tup [],[.set (Fp r)])
   ∧ r.length=l.length/\r.Perm l/\Rot l r a m b:=by
 obtain⟨r,d,g,hr,hp,hd1,hd2,hd3⟩:=AkS K m _ (m-a) (b-m) l rfl (by omega) (by omega) (by omega) (by omega) hl;obtain⟨r2,g2,hr2,hp2,hsw⟩:=Wo K (a:=m-d) (b:=m) (n:=d) (l:=r) (by omega) (by omega) (by omega);have h:=hd3 r2 hsw;rw[show m-(m-a)=a by omega,show m+(b-m)=b by omega]at h;rw[hr]at g2;refine⟨r2,?_,by omega,hp2.trans hp,h⟩;refine AI K P6 (Aov ..) ?_;rw[Cs (a:=m) (b:=a) (by omega) (by omega),Cs (a:=b) (b:=m) (by omega) (by omega)];refine Ab g ?_;simp only[Fo,ND,DK,Aa];rw[Cs hd1 (by omega)];refine Ab g2 ?_;rfl
theorem Ag5(a m b:Nat)(l:List Pt)(hl:l.length<=1000000000)(ha:a<m)(hb:b<=l.length)(hs:Srt Pt.v l m b):∀(k i j:Nat),j-i=k->m<=i->i<=j->j<=b->(∀ p,m<=p->p<i->kf Pt.v l p<kf Pt.v l a)->(∀ p,j<=p->p<b->kf Pt.v l a<=kf Pt.v l p)->
  ∃ x:Nat,D.ask (.lp 235 0) [.sl 0 0 l.length 3,iv (a:Int),Fo,iv (i:Int),iv (j:Int)] [Fp l]=Θ (.tup [iv 0,.sl 0 0 l.length 3,iv (a:Int),iv (x:Int)],[.set (Fp l)])
   ∧ m<=x/\x<=b/\(∀ p,m<=p->p<x->kf Pt.v l p<kf Pt.v l a)/\(∀ p,x<=p->p<b->kf Pt.v l a<=kf Pt.v l p):=by
 intro k
 induction k using Arp with
 |_ k ih=>
  intro i j hk hmi hij hjb h1 h2
  by_cases he:i<j
  .have hH:(i+j) / 2<l.length:=by omega
   have hA:a<l.length:=by omega
   have kh:kf Pt.v l ((i+j) / 2)=l[(i+j) / 2].v:=EE Pt.v hH;have ka:kf Pt.v l a=l[a].v:=EE Pt.v hA
   by_cases hlt:l[(i+j) / 2].v<l[a].v
   .obtain⟨x,g,hx⟩:=ih (j-((i+j) / 2+1)) (by omega) ((i+j) / 2+1) j rfl (by omega) (by omega) hjb (λp p1 p2=>by
     by_cases hp:p=(i+j) / 2
     .rw[hp,kh,ka];exact hlt
     .have:=hs p ((i+j) / 2) p1 (by omega) (by omega)
      omega) h2
    refine⟨x,?_,hx⟩;refine Ax K CC (Vk ..) ?_;refine Al ?_;refine Ak ?_ (by decide);rw[Dw (by omega),BZ (by omega)];rw[At,AL hH];refine Ac ?_;refine(Bf Au l ((i+j) / 2) hH _).trans ?_;simp only[eP,eN,ND,DK,Aa];rw[At,AL hA];refine Ac ?_;refine(Bf Au l a hA _).trans ?_;simp only[eP,eN,ND,DK,Aa];refine Ab (Hh K l[(i+j) / 2] l[a]) ?_;simp only[ND,DK,Aa];refine Al ?_ (Fx.2 hlt);refine Ab g ?_;rfl
   .obtain⟨x,g,hx⟩:=ih ((i+j) / 2-i) (by omega) i ((i+j) / 2) rfl hmi (by omega) (by omega) h1 (λp p1 p2=>by
     by_cases hp:p=(i+j) / 2
     .rw[hp];omega
     .have:=hs ((i+j) / 2) p (by omega) (by omega) (by omega)
      omega)
    refine⟨x,?_,hx⟩;refine Ax K CC (Vk ..) ?_;refine Al ?_;refine Ak ?_ (by decide);rw[Dw (by omega)];rw[At,AL hH];refine Ac ?_;refine(Bf Au l ((i+j) / 2) hH _).trans ?_;simp only[eP,eN,ND,DK,Aa];rw[At,AL hA];refine Ac ?_;refine(Bf Au l a hA _).trans ?_;simp only[eP,eN,ND,DK,Aa];refine Ab (Hh K l[(i+j) / 2] l[a]) ?_;simp only[ND,DK,Aa];refine Ak ?_ (λh=>hlt (Fx.1 h));refine Ab g ?_;rfl
  .obtain rfl:i=j:=by omega
   refine⟨i,?_,hmi,hjb,h1,h2⟩;refine Ax K CC (Vk ..) ?_;exact Ak rfl
theorem Ag6(a x:Nat)(l0:List Pt):∀(n k:Nat) (l:List Pt),x-1-k=n->a<=k->k<x->x<=l.length->l.length<=1000000000->l.length=l0.length->Rot l0 l a (a+1) (k+1)->
  ∃ r:List Pt,D.ask (.lp 235 1) [.sl 0 0 l.length 3,iv (x:Int),iv (k:Int)] [Fp l]=Θ (.tup [iv 2,.sl 0 0 l.length 3],[.set (Fp r)])
   ∧ r.length=l.length/\r.Perm l/\Rot l0 r a (a+1) x:=by
 intro n
 induction n with
 |zero=>
  intro k l hn ha hk hx hl h0 ht;obtain rfl:x=k+1:=by omega
  refine⟨l,?_,rfl,List.Perm.refl _,ht⟩;refine Ax K CC (AaN ..) ?_;rw[H9 (by omega) (by omega)];exact Ak rfl
 |succ n ih=>
  intro k l hn ha hk hx hl h0 ht;have hI:k<l.length:=by omega
  have hJ:k+1<l.length:=by omega
  have hlen:=Gq l k (k+1);obtain⟨r,g,hr,hp,ho⟩:=ih (k+1) (CO l k (k+1)) (by omega) (by omega) (by omega) (by omega) (by omega) (by omega) (AkT ha (by omega) h0 ht);rw[hlen]at g hr;refine⟨r,?_,hr,hp.trans (Ej _ _ _),ho⟩;refine Ax K CC (AaN ..) ?_;rw[H9 (by omega) (by omega)];refine Al ?_;rw[BZ (by omega)];rw[At,AL hJ];refine Ac ?_;refine(Bf Au l (k+1) hJ _).trans ?_;simp only[eP,eN,ND,DK,Aa];rw[At,AL hI];refine Ac ?_;refine(Bf Au l k hI _).trans ?_;simp only[eP,eN,ND,DK,Aa];have s1:=Co Au l k hI l[(k+1)];have s2:=Co Au (l.set k l[(k+1)]) (k+1) (by rw[Aqc];exact hJ) l[k];rw[←Dt hI hJ]at s2;simp only[eP,eN]at s1 s2;rw[At,AL hI];refine Ac ?_;rw[show Ap3 (0+k*3+3) (Ag eP l).length=Δ by rw[AP Au];simp;omega];refine Ac ?_;rw[At,AL hJ];refine Ac ?_;rw[s1,s2];rw[show Ap3 (0+(k+1)*3+3) (Ag eP (l.set k l[(k+1)])).length=Δ by rw[AP Au,Aqc];simp;omega];refine Ac ?_;refine Ab g ?_;rfl
theorem Ag7(a m:Nat)(l:List Pt)(hl:l.length<=1000000000)(hb:m<l.length)(hs:Srt Pt.v l a m):∀(k i j:Nat),j-i=k->a<=i->i<=j->j<=m->(∀ p,a<=p->p<i->kf Pt.v l p<=kf Pt.v l m)->(∀ p,j<=p->p<m->kf Pt.v l m<kf Pt.v l p)->
  ∃ x:Nat,D.ask (.lp 235 2) [.sl 0 0 l.length 3,iv (m:Int),Fo,iv (i:Int),iv (j:Int)] [Fp l]=Θ (.tup [iv 4,.sl 0 0 l.length 3,iv (m:Int),iv (x:Int)],[.set (Fp l)])
   ∧ a<=x/\x<=m/\(∀ p,a<=p->p<x->kf Pt.v l p<=kf Pt.v l m)/\(∀ p,x<=p->p<m->kf Pt.v l m<kf Pt.v l p):=by
 intro k
 induction k using Arp with
 |_ k ih=>
  intro i j hk hmi hij hjb h1 h2
  by_cases he:i<j
  .have hH:(i+j) / 2<l.length:=by omega
   have kh:kf Pt.v l ((i+j) / 2)=l[(i+j) / 2].v:=EE Pt.v hH;have ka:kf Pt.v l m=l[m].v:=EE Pt.v hb
   by_cases hlt:l[m].v<l[(i+j) / 2].v
   .obtain⟨x,g,hx⟩:=ih ((i+j) / 2-i) (by omega) i ((i+j) / 2) rfl hmi (by omega) (by omega) h1 (λp p1 p2=>by
     by_cases hp:p=(i+j) / 2
     .rw[hp];omega
     .have:=hs ((i+j) / 2) p (by omega) (by omega) (by omega)
      omega)
    refine⟨x,?_,hx⟩;refine Ax K CC (Vl ..) ?_;refine Al ?_;refine Ak ?_ (by decide);rw[Dw (by omega)];rw[At,AL hb];refine Ac ?_;refine(Bf Au l m hb _).trans ?_;simp only[eP,eN,ND,DK,Aa];rw[At,AL hH];refine Ac ?_;refine(Bf Au l ((i+j) / 2) hH _).trans ?_;simp only[eP,eN,ND,DK,Aa];refine Ab (Hh K l[m] l[(i+j) / 2]) ?_;simp only[ND,DK,Aa];refine Al ?_ (Fx.2 hlt);refine Ab g ?_;rfl
   .obtain⟨x,g,hx⟩:=ih (j-((i+j) / 2+1)) (by omega) ((i+j) / 2+1) j rfl (by omega) (by omega) hjb (λp p1 p2=>by
     by_cases hp:p=(i+j) / 2
     .rw[hp];omega
     .have:=hs p ((i+j) / 2) p1 (by omega) (by omega)
      omega) h2
    refine⟨x,?_,hx⟩;refine Ax K CC (Vl ..) ?_;refine Al ?_;refine Ak ?_ (by decide);rw[Dw (by omega),BZ (by omega)];rw[At,AL hb];refine Ac ?_;refine(Bf Au l m hb _).trans ?_;simp only[eP,eN,ND,DK,Aa];rw[At,AL hH];refine Ac ?_;refine(Bf Au l ((i+j) / 2) hH _).trans ?_;simp only[eP,eN,ND,DK,Aa];refine Ab (Hh K l[m] l[(i+j) / 2]) ?_;simp only[ND,DK,Aa];refine Ak ?_ (λh=>hlt (Fx.1 h));refine Ab g ?_;rfl
  .obtain rfl:i=j:=by omega
   refine⟨i,?_,hmi,hjb,h1,h2⟩;refine Ax K CC (Vl ..) ?_;exact Ak rfl
theorem Ag8(m x:Nat)(l0:List Pt):∀(n k:Nat) (l:List Pt),k-x=n->x<=k->k<=m->m<l.length->l.length<=1000000000->l.length=l0.length->Rot l0 l k m (m+1)->
  ∃ r:List Pt,D.ask (.lp 235 3) [.sl 0 0 l.length 3,iv (x:Int),iv (k:Int)] [Fp l]=Θ (.tup [iv 6,.sl 0 0 l.length 3],[.set (Fp r)])
   ∧ r.length=l.length/\r.Perm l/\Rot l0 r x m (m+1):=by
 intro n
 induction n with
 |zero=>
  intro k l hn hx hk hm hl h0 ht;obtain rfl:x=k:=by omega
  refine⟨l,?_,rfl,List.Perm.refl _,ht⟩;refine Ax K CC (AaO ..) ?_;exact Ak rfl
 |succ n ih=>
  intro k l hn hx hk hm hl h0 ht;obtain⟨j,rfl⟩:∃ j,k=j+1:=⟨k-1,by omega⟩;have hI:j+1<l.length:=by omega
  have hJ:j<l.length:=by omega
  have hlen:=Gq l (j+1) j;obtain⟨r,g,hr,hp,ho⟩:=ih j (CO l (j+1) j) (by omega) (by omega) (by omega) (by omega) (by omega) (by omega) (AcI (by omega) (by omega) h0 ht);rw[hlen]at g hr;refine⟨r,?_,hr,hp.trans (Ej _ _ _),ho⟩;refine Ax K CC (AaO ..) ?_;refine Al ?_;rw[GX (by omega)];rw[At,AL hJ];refine Ac ?_;refine(Bf Au l j hJ _).trans ?_;simp only[eP,eN,ND,DK,Aa];rw[At,AL hI];refine Ac ?_;refine(Bf Au l (j+1) hI _).trans ?_;simp only[eP,eN,ND,DK,Aa];have s1:=Co Au l (j+1) hI l[j];have s2:=Co Au (l.set (j+1) l[j]) j (by rw[Aqc];exact hJ) l[(j+1)];rw[←Dt hI hJ]at s2;simp only[eP,eN]at s1 s2;rw[At,AL hI];refine Ac ?_;rw[show Ap3 (0+(j+1)*3+3) (Ag eP l).length=Δ by rw[AP Au];simp;omega];refine Ac ?_;rw[At,AL hJ];refine Ac ?_;rw[s1,s2];rw[show Ap3 (0+j*3+3) (Ag eP (l.set (j+1) l[j])).length=Δ by rw[AP Au,Aqc];simp;omega];refine Ac ?_;refine Ab g ?_;rfl
theorem XQ(a m b mid x y:Nat)(l:List Pt)(hl:l.length<=1000000000)(hb:b<=l.length)(hs1:Srt Pt.v l a m)(hs2:Srt Pt.v l m b)(hx:a<=x)(hy:y<=m)(hn:mid+m<=x+b)(hm:y<=mid)(hmid:mid<=b)(hmb:m<=b):∀(k s r:Nat),r-s=k->Bs Pt.v l (mid+m) x y s r->
  ∃ z:Nat,D.ask (.lp 235 4) [.sl 0 0 l.length 3,iv (a:Int),iv (m:Int),iv (b:Int),Fo,iv (mid:Int),iv ((mid+m:Nat):Int),iv (s:Int),iv (r:Int),iv ((mid+m-1:Nat):Int)] [Fp l]=Θ (.tup [iv 8,.sl 0 0 l.length 3,iv (a:Int),iv (m:Int),iv (b:Int),Fo,iv (mid:Int),iv ((mid+m:Nat):Int),iv (z:Int)],[.set (Fp l)])
   ∧ Bs Pt.v l (mid+m) x y z z:=by
 intro k
 induction k using Arp with
 |_ k ih=>
  intro s r hk B;have:=B.xs;have:=B.sr;have:=B.ry
  by_cases he:s<r
  .have hH:(s+r) / 2<l.length:=by omega
   have hP:mid+m-1-(s+r) / 2<l.length:=by omega
   have kh:kf Pt.v l ((s+r) / 2)=l[(s+r) / 2].v:=EE Pt.v hH;have kp:kf Pt.v l (mid+m-1-(s+r) / 2)=l[mid+m-1-(s+r) / 2].v:=EE Pt.v hP
   by_cases hlt:l[mid+m-1-(s+r) / 2].v<l[(s+r) / 2].v
   .obtain⟨z,g,hz⟩:=ih ((s+r) / 2-s) (by omega) s ((s+r) / 2) rfl (B.dn Pt.v hs1 hs2 hx hy (by omega) (by omega) (by omega) (by omega) (by omega))
    refine⟨z,?_,hz⟩;refine Ax K CC (Vm ..) ?_;refine Al ?_;refine Ak ?_ (by decide);rw[Dw (by omega),Cs (a:=mid+m-1) (b:=(s+r) / 2) (by omega) (by omega)];rw[At,AL hP];refine Ac ?_;refine(Bf Au l (mid+m-1-(s+r) / 2) hP _).trans ?_;simp only[eP,eN,ND,DK,Aa];rw[At,AL hH];refine Ac ?_;refine(Bf Au l ((s+r) / 2) hH _).trans ?_;simp only[eP,eN,ND,DK,Aa];refine Ab (Hh K l[mid+m-1-(s+r) / 2] l[(s+r) / 2]) ?_;simp only[ND,DK,Aa];refine Al ?_ (Fx.2 hlt);refine Ab g ?_;rfl
   .obtain⟨z,g,hz⟩:=ih (r-((s+r) / 2+1)) (by omega) ((s+r) / 2+1) r rfl (B.up Pt.v hs1 hs2 hx hy (by omega) (by omega) (by omega) (by omega) (by omega))
    refine⟨z,?_,hz⟩;refine Ax K CC (Vm ..) ?_;refine Al ?_;refine Ak ?_ (by decide);rw[Dw (by omega),Cs (a:=mid+m-1) (b:=(s+r) / 2) (by omega) (by omega),BZ (by omega)];rw[At,AL hP];refine Ac ?_;refine(Bf Au l (mid+m-1-(s+r) / 2) hP _).trans ?_;simp only[eP,eN,ND,DK,Aa];rw[At,AL hH];refine Ac ?_;refine(Bf Au l ((s+r) / 2) hH _).trans ?_;simp only[eP,eN,ND,DK,Aa];refine Ab (Hh K l[mid+m-1-(s+r) / 2] l[(s+r) / 2]) ?_;simp only[ND,DK,Aa];refine Ak ?_ (λh=>hlt (Fx.1 h));refine Ab g ?_;rfl
  .obtain rfl:s=r:=by omega
   refine⟨s,?_,B⟩;refine Ax K CC (Vm ..) ?_;exact Ak rfl
