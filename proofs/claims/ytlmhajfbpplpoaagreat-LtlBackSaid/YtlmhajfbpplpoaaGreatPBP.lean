/- What the numbers' functi -/
import Derived.Test.YtlmhajfbpplpoaaGreatPBO
set_option linter.all false
open Bool renaming and_eq_true_iff->Atp
open Int renaming le_refl->AtY
open List renaming all_cons->Aso,append_assoc->Ari,append_nil->Asa,drop->ο,drop_eq_getElem_cons->Arf,drop_eq_nil_of_le->Ark,drop_of_length_le->AtZ,drop_zero->υ,ext_getElem?->Aul,filter_cons->Aus,findIdx_cons->Aum,flatten_cons->Asw,foldl_cons->As5,getElem?_drop->Asi,getElem?_eq_getElem->Ψ,getElem?_set_ne->Asg,getElem?_set_self->Asn,getElem?_take->ArQ,getElem_mem->Ars,length_append->η,length_cons->ν,length_map->ArA,length_set->ArM,length_singleton->Ase,length_take->ArG,map_cons->Arz,map_nil->AsK,mem_cons_of_mem->Arw,mem_cons_self->Arv,mem_iff_getElem?->At5,mem_map->AsE,nil_append->Arx,reverse_cons->Auo,take->ι,take_append->Auv,take_append_drop->At8,take_of_length_le->AsF
open Nat renaming add_mul->Ar4,add_zero->Ar5,ble->Arm,ble_eq_true_of_le->Asr,dvd_mul_left->AtP,dvd_sub->Auq,dvd_zero->AuJ,le_of_dvd->Aue,le_refl->ω,min_eq_left->AsC,min_eq_right->AtR,mod_eq_of_lt->ArC,one_mul->Atx,pow_le_pow_right->AsP,pow_succ->AsV,strongRecOn->Ast,zero_add->Ary,zero_le->ArX,zero_mul->AsG
namespace Go.Proofs.YtlmhajfbpplpoaaGreat
open ABlk renaming mk->U
open AV renaming tup->φ
open BO renaming set->ζ
open Go.RowKit
section
variable {D:Orc} (K:Knows Ag Mf D) (Z:Knows Ag Rp D) (C:CloneF D)
include K Z C
theorem Gj(neg:Bool){a:List Nat}(ha:Limbs a)(hs:Fl a):D.ask (.fn 145) [bv neg,eN a] []=some (.agg (eZ (Br (JG neg (Au a)))),[]):=by
 refine Z.fn' Ah0 _ rfl ((AoU ..).trans ?_);refine Ab (Hq K C hs ha) ?_;simp only[eN,ND,DK,Aa,Aw];rw[Ahp];unfold eZ eN
 cases neg with
 |false=>rfl
 |true=>
  refine Ad ?_;refine Ad ?_;refine Ad ?_;have hp:=@LD (Au a)
  by_cases h:0<Au a
  .refine Al (by have:=hp.2 h;omega) ?_
   rw[decide_eq_true h];rfl
  .refine Ak (by intro e;exact h (hp.1 (by omega))) ?_
   rw[decide_eq_false h];rfl
theorem Aa2{z:Zi}(hz:Lz 1000000000 z):D.ask (.fn 209) [.agg (eZ z)] []=some (.agg (eZ (Br (zv z))),[]):=by
 refine Z.fn' Aio _ rfl ((Apr ..).trans ?_);refine Ab (Gj K Z C z.neg hz.lim hz.len) ?_;rfl
theorem Ahn{z:Zi}(hz:Lz 1000000000 z):D.ask (.fn 86) [.agg (eZ z)] []=some (.agg (eZ (Br (-zv z))),[]):=by
 have e:-zv z=JG (!z.neg) (Au z.abs):=by
  unfold zv JG
  cases z.neg<;>simp
 rw[e];refine Z.fn' AmL _ rfl ((e86 ..).trans ?_);rw[Aj6];have g:=λb=>Gj K Z C b hz.lim hz.len
 cases z.neg with
 |false=>
  refine Ad ?_;refine Ab (g true) ?_;rfl
 |true=>
  refine Bi ?_;refine Ab (g false) ?_;rfl
theorem PU{z:Zi}(hz:Lz 1000000000 z):D.ask (.fn 158) [.agg (eZ z)] []=some (iv (WI (zv z)),[]):=by
 refine Z.fn' Ah8 _ rfl ((Ao5 ..).trans ?_);refine Ab (Aa2 K Z C hz) ?_;simp only[eZ,eN,ND,DK,Aa,Aw];unfold Br WI
 by_cases h:zv z<0
 .rw[if_pos h,decide_eq_true h]
  rfl
 .rw[if_neg h,decide_eq_false h]
  refine Bi ?_;have hp:=@LD (zv z).natAbs
  by_cases h2:0<zv z
  .rw[if_pos h2]
   refine Al (by have:=hp.2 (by omega);dsimp only;omega) ?_;rfl
  .rw[if_neg h2]
   refine Ak (by dsimp only;intro e;have:=hp.1 (by omega);omega) ?_;rfl
theorem AlO(n:Int)(h1:-9223372036854775808<=n)(h2:n<9223372036854775808):D.ask (.fn 84) [iv n] []=some (.agg (eZ (Br n)),[]):=by
 refine Z.fn' AmJ _ rfl ((e84 ..).trans ?_);have hl:∀ m:Nat,m<18446744073709551616->(Be m).length<=2:=λm h=>D7 (by omega)
 by_cases h:n<0
 .refine Al h ?_
  have e1:Ah.add .i64 n 1=n+1:=Jd (by omega) (by omega);have e2:Ah.sub .i64 0 (n+1)=((n.natAbs-1:Nat):Int):=by rw[LR (by omega) (by omega)];omega
  rw[e1,e2,Cr (by omega),show (1:Int)=((1:Nat):Int) from rfl,ET (by omega),show n.natAbs-1+1=n.natAbs by omega];refine Ab (Ahr K C n.natAbs (by omega)) ?_;simp only[eN,ND,DK,Aa];have g:=Gj K Z C true (AK n.natAbs) (by unfold Fl;have:=hl n.natAbs (by omega);omega);rw[BA,show JG true n.natAbs=n by unfold JG;rw[if_pos rfl];omega]at g;refine Ab g ?_;rfl
 .refine Ak h ?_
  obtain⟨m,rfl⟩:=Int.eq_ofNat_of_zero_le (show 0<=n by omega);rw[Cr (by omega)];refine Ab (Ahr K C m (by omega)) ?_;simp only[eN,ND,DK,Aa];have g:=Gj K Z C false (AK m) (by unfold Fl;have:=hl m (by omega);omega);rw[BA,show JG false m=(m:Int) from rfl]at g;refine Ab g ?_;rfl
theorem Ahl{a b:Zi}(ha:Lz 1000000000 a)(hb:Lz 1000000000 b):D.ask (.fn 285) [.agg (eZ a),.agg (eZ b)] []=some (iv (Hw (zv a) (zv b)),[]):=by
 refine Z.fn' AiJ _ rfl ((ApV ..).trans ?_);refine Ab (PU K Z C ha) ?_;simp only[ND,DK,Aa];refine Ab (PU K Z C hb) ?_;simp only[ND,DK,Aa];have g1:=Vc K (a:=b.abs) (b:=a.abs) hb.len hb.lim ha.len ha.lim;have g2:=Vc K (a:=a.abs) (b:=b.abs) ha.len ha.lim hb.len hb.lim;have na:=AeE a;have nb:=AeE b;have za:=Yz a;have zb:=Yz b;have va:zv a=JG a.neg (Au a.abs):=rfl;have vb:zv b=JG b.neg (Au b.abs):=rfl;unfold WI
 by_cases h1:zv a<0
 .rw[if_pos h1]
  rw[JG,if_pos (na.1 h1).1]at va
  by_cases h2:zv b<0
  .rw[if_pos h2]
   rw[JG,if_pos (nb.1 h2).1]at vb;refine Ak (by decide) ?_;refine Ak (by decide) ?_;refine Al (by decide) ?_;refine Ab g1 ?_;rw[show Hw (zv a) (zv b)=FP (Au b.abs) (Au a.abs) by
    unfold Hw FP;rw[va,vb]
    by_cases h3:Au b.abs<Au a.abs
    .rw[if_pos (by omega),if_pos h3]
    .rw[if_neg (by omega),if_neg h3]
     by_cases h4:Au a.abs<Au b.abs
     .rw[if_pos (by omega),if_pos h4]
     .rw[if_neg (by omega),if_neg h4]]
   rfl
  .rw[if_neg h2]
   rw[show Hw (zv a) (zv b)=-1 by unfold Hw;rw[if_pos (by omega)]]
   by_cases h3:0<zv b
   .rw[if_pos h3];rfl
   .rw[if_neg h3];rfl
 .rw[if_neg h1]
  by_cases h2:zv b<0
  .rw[if_pos h2]
   rw[show Hw (zv a) (zv b)=1 by unfold Hw;rw[if_neg (by omega),if_pos (by omega)]]
   by_cases h3:0<zv a
   .rw[if_pos h3];rfl
   .rw[if_neg h3];rfl
  .rw[if_neg h2]
   have ea:zv a=(Au a.abs:Int):=by
    by_cases h:0<Au a.abs
    .rw[va,JG,if_neg (λe=>h1 (na.2 ⟨e,h⟩))]
    .rw[za.2 (by omega)];omega
   have eb:zv b=(Au b.abs:Int):=by
    by_cases h:0<Au b.abs
    .rw[vb,JG,if_neg (λe=>h2 (nb.2 ⟨e,h⟩))]
    .rw[zb.2 (by omega)];omega
   have ec:Hw (zv a) (zv b)=FP (Au a.abs) (Au b.abs):=by
    unfold Hw FP;rw[ea,eb]
    by_cases h3:Au a.abs<Au b.abs
    .rw[if_pos (by omega),if_pos h3]
    .rw[if_neg (by omega),if_neg h3]
     by_cases h4:Au b.abs<Au a.abs
     .rw[if_pos (by omega),if_pos h4]
     .rw[if_neg (by omega),if_neg h4]
   rw[ec]
   by_cases h3:0<zv a
   .rw[if_pos h3]
    by_cases h4:0<zv b
    .rw[if_pos h4]
     refine Ak (by decide) ?_;refine Ak (by decide) ?_;refine Ak (by decide) ?_;refine Ab g2 ?_;rfl
    .rw[if_neg h4]
     refine Ak (by decide) ?_;refine Al (by decide) ?_;rw[show FP (Au a.abs) (Au b.abs)=1 by unfold FP;rw[if_neg (by omega),if_pos (by omega)]]
   .rw[if_neg h3]
    by_cases h4:0<zv b
    .rw[if_pos h4]
     refine Al (by decide) ?_;rw[show FP (Au a.abs) (Au b.abs)=-1 by unfold FP;rw[if_pos (by omega)]]
    .rw[if_neg h4]
     refine Ak (by decide) ?_;refine Ak (by decide) ?_;refine Ak (by decide) ?_;refine Ab g2 ?_;rfl
theorem Ahk{k:Nat}(hk:k<=900000000){a b:Zi}(ha:Lz k a)(hb:Lz k b):D.ask (.fn 87) [.agg (eZ a),.agg (eZ b)] []=some (.agg (eZ (Br (zv a+zv b))),[]):=by
 have la:=ha.len;have lb:=hb.len;refine Z.fn' AmM _ rfl ((e87 ..).trans ?_);have hfr:∀(neg:Bool) (n:Nat),n<4294967296 ^ (k+1)->D.ask (.fn 145) [bv neg,eN (Be n)] []=some (.agg (eZ (Br (JG neg n))),[]):=λneg n h=>by
  have:=Gj K Z C neg (AK n) (by unfold Fl;have:=D7 h;omega)
  rwa [BA]at this
 have ba:=Fy ha.lim;have bb:=Fy hb.lim;have pa:4294967296 ^ a.abs.length<=4294967296 ^ k:=AsP (by omega) la;have pb:4294967296 ^ b.abs.length<=4294967296 ^ k:=AsP (by omega) lb;have ps:4294967296 ^ (k+1)=4294967296 ^ k*4294967296:=AsV ..
 by_cases h:a.neg=b.neg
 .rw[LM,show (a.neg == b.neg)=true by simpa using h]
  refine Ad ?_;refine Ab (Akc K C (by omega) ha.lim (by omega) hb.lim) ?_;simp only[eN,ND,DK,Aa];refine Ab (hfr a.neg (Au a.abs+Au b.abs) (by omega)) ?_;rw[show JG a.neg (Au a.abs+Au b.abs)=zv a+zv b by
   unfold zv;rw[←h];unfold JG;split<;>omega]
  rfl
 .rw[LM,show (a.neg == b.neg)=false by simpa using h]
  refine Bi ?_;have hop:zv a+zv b=JG a.neg (Au a.abs)+JG (!a.neg) (Au b.abs):=by
   unfold zv;have:b.neg = !a.neg:=by
    revert h
    cases a.neg<;>cases b.neg<;>simp
   rw[this]
  have g1:=AaJ K C (a:=a.abs) (b:=b.abs) (by unfold Fl;omega) ha.lim (by unfold Fl;omega) hb.lim;have g2:=AaJ K C (a:=b.abs) (b:=a.abs) (by unfold Fl;omega) hb.lim (by unfold Fl;omega) ha.lim;unfold AbE at g1 g2;refine Ab g1 ?_
  by_cases hle:Au b.abs<=Au a.abs
  .rw[if_pos hle]
   simp only[eN,ND,DK,Aa];refine Ab (hfr a.neg (Au a.abs-Au b.abs) (by omega)) ?_;rw[show JG a.neg (Au a.abs-Au b.abs)=zv a+zv b by
    rw[hop];unfold JG
    cases a.neg<;>simp<;>omega]
   rfl
  .rw[if_neg hle]
   rw[if_pos (by omega)]at g2;simp only[eN,ND,DK,Aa];refine Ab g2 ?_;simp only[eN,ND,DK,Aa];refine Ab (hfr b.neg (Au b.abs-Au a.abs) (by omega)) ?_;rw[show JG b.neg (Au b.abs-Au a.abs)=zv a+zv b by
    rw[hop];have:b.neg = !a.neg:=by
     revert h
     cases a.neg<;>cases b.neg<;>simp
    rw[this];unfold JG
    cases a.neg<;>simp<;>omega]
   rfl
theorem Ahm{k m:Nat}(hk:k<=400000000)(hkm:m<=400000000){a b:Zi}(ha:Lz k a)(hb:Lz m b)(h24:a.abs.length<24\/b.abs.length<24):D.ask (.fn 264) [.agg (eZ a),.agg (eZ b)] []=some (.agg (eZ (Br (zv a*zv b))),[]):=by
 have la:=ha.len;have lb:=hb.len;refine Z.fn' Aiz _ rfl ((ApI ..).trans ?_);have hm:InB (k+m) (zv a*zv b):=ha.inb.mul hb.inb;have hab:(zv a*zv b).natAbs=Au a.abs*Au b.abs:=by
  have f:∀ z:Zi,(zv z).natAbs=Au z.abs:=λz=>by
   unfold zv JG;split
   .rw[Int.natAbs_neg];rfl
   .rfl
  rw[Int.natAbs_mul,f,f]
 unfold InB at hm;rw[hab]at hm;have hl:=D7 hm;have hfr:∀(neg:Bool),D.ask (.fn 145) [bv neg,eN (Be (Au a.abs*Au b.abs))] []=some (.agg (eZ (Br (JG neg (Au a.abs*Au b.abs)))),[]):=λneg=>by
  have:=Gj K Z C neg (AK (Au a.abs*Au b.abs)) (by unfold Fl;omega)
  rwa [BA]at this
 have g:=Akg K C (by omega) ha.lim (by omega) hb.lim h24;have hs:JG (a.neg != b.neg) (Au a.abs*Au b.abs)=zv a*zv b:=by
  unfold zv JG
  cases a.neg<;>cases b.neg<;>simp[Int.mul_neg,Int.neg_mul]
 rw[Aj6,LM]
 by_cases h:a.neg=b.neg
 .rw[show (!(a.neg == b.neg))=false by simp[h]]
  rw[show (a.neg != b.neg)=false by simp[h]]at hs;refine Bi ?_;refine Ab g ?_;simp only[eN,ND,DK,Aa];refine Ab (hfr false) ?_;rw[hs];rfl
 .rw[show (!(a.neg == b.neg))=true by simp[h]]
  rw[show (a.neg != b.neg)=true by simp[h]]at hs;refine Ad ?_;refine Ab g ?_;simp only[eN,ND,DK,Aa];refine Ab (hfr true) ?_;rw[hs];rfl
end
def P7(c:UInt8):Bool:=decide (48<=c.toNat)&&decide (c.toNat<=57)
theorem Ahv{c:UInt8}(h:P7 c=true):c.toNat-48<=9:=by
 have h2:=(Atp.1 h);have h4:=of_decide_eq_true h2.2;omega
def hor(v:Nat)(l:List UInt8):Nat:=l.foldl (λv c=>v*10+(c.toNat-48)) v
theorem TL(v:Nat)(c:UInt8)(l:List UInt8):hor v (c::l)=hor (v*10+(c.toNat-48)) l:=by
 unfold hor;exact As5 ..
theorem Aci:∀(l:List UInt8) {v i:Nat},l.all P7=true->v<4294967296 ^ i->hor v l<4294967296 ^ (i+l.length)
 |[],v,i,_,hv=>hv
 |c::l,v,i,h,hv=>by
  rw[Aso,Atp]at h;have h1:=Ahv h.1;have:=Aci l (v:=v*10+(c.toNat-48)) (i:=i+1) h.2 (by rw[AsV];omega);rw[TL,ν,show i+(l.length+1)=i+1+l.length by omega];exact this
theorem J0{s:ByteArray}{i:Nat}(h:i<s.size):Ah.sat s i=((s.data.toList[i]'(by simpa using h)).toNat:Int):=by
 show (match s[i]? with|some c=>Int.ofNat c.toNat|none=>0)=_
 rw[getElem?_pos s i h];rfl
def ScN(q:Nat):Prop:=q=1\/q=10\/q=100\/q=1000\/q=10000\/q=100000\/q=1000000\/q=10000000\/q=100000000
theorem ScN.next{q:Nat}(h:ScN q):q=100000000\/q<100000000/\ScN (q*10):=by
 unfold ScN at *;omega
theorem ScN.le{q:Nat}(h:ScN q):1<=q/\q<=100000000:=by
 unfold ScN at h;omega
theorem TM(v q p d:Nat):v*(q*10)+(p*10+d)=(v*q+p)*10+d:=by
 rw[Ar4,Nat.mul_assoc];omega
theorem Nu:∀(m c:Nat) (a:List Nat),(Ih m c a).length=a.length+1
 |_,_,[]=>rfl
 |m,c,x::a=>by rw[Ih,ν,Nu,ν]
section
variable {D:Orc} (K:Knows Ag Mf D)
include K
theorem YX{c:UInt8}(h:P7 c=true):D.ask (.fn 202) [.v (.int .u8 (c.toNat:Int))] []=some (.tup [.v (.int .u32 ((c.toNat-48:Nat):Int)),bv true],[]):=by
 have h2:=(Atp.1 h);have h3:=of_decide_eq_true h2.1;have h4:=of_decide_eq_true h2.2;refine K.fn' Aca _ rfl ((Ami ..).trans ?_);refine Dp (by omega) ?_;refine Dp (by omega) ?_;rw[show Ah.sub .u8 (c.toNat:Int) 48=((c.toNat-48:Nat):Int) from by
  show IntKind.u8.wrap ((c.toNat:Int)-48)=_
  rw[IntKind.wrap_u8];omega,DE (by omega)]
theorem Abf{c:UInt8}(h:P7 c=false):∃ x:Int,D.ask (.fn 202) [.v (.int .u8 (c.toNat:Int))] []=some (.tup [.v (.int .u32 x),bv false],[]):=by
 refine⟨Ah.conv .u32 (Ah.sub .u8 (c.toNat:Int) 48),K.fn' Aca _ rfl ((Ami ..).trans ?_)⟩
 by_cases h1:48<=c.toNat
 .refine Dp (by omega) ?_
  refine(AaY ?_).trans rfl;intro h2;unfold P7 at h;rw[decide_eq_true h1,decide_eq_true (by omega)]at h
  cases h
 .exact DP (by omega) rfl
theorem AfT{a:List Nat}(ha:Limbs a)(hs:a.length<=999999999)(m:Nat)(hm:m<4294967296):∀(k i:Nat) (out:List Nat) (c:Nat),a.length-i=k->i<=a.length->c<4294967296->out.length=i->
  ∃(o:List Nat) (c':Nat),D.ask (.lp 203 0) [.v (.int .u32 (m:Int)),.sl 0 0 out.length 1,.v (.int .u64 (c:Int)),eN a,iv (a.length:Int),iv (i:Int)] [U (Ao eL out) true true]
   = some (.tup [iv 0,.sl 1 0 o.length 1,.v (.int .u64 (c':Int))],[.del,.set (U (Ao eL o) true true)])/\c'<4294967296/\o++[c']=out++Ih m c (a.drop i):=by
 intro k
 induction k with
 |zero=>
  intro i out c hi hle hc ho;refine⟨out,c,?_,hc,?_⟩
  .refine K.lp' QA _ rfl (by kernel_rfl) ((Abl ..).trans ?_)
   refine Ak (by omega) ?_;rfl
  .rw[show a.drop i=[] from Ark (by omega)]
   rfl
 |succ k ih=>
  intro i out c hi hle hc ho;have hlt:i<a.length:=by omega
  have hx:=ha.get hlt;have hp:=Sg hx hm;obtain⟨o,c',h1,h2,h3⟩:=ih (i+1) (out++[(a[i]*m+c) % 4294967296]) ((a[i]*m+c) / 4294967296) (by omega) (by omega) (by omega) (by simp;omega);refine⟨o,c',?_,h2,?_⟩
  .refine K.lp' QA _ rfl (by kernel_rfl) ((Abl ..).trans ?_)
   refine Al (by omega) ?_;rw[Ax,AF (Ψ hlt)];simp only[eL,P4,ND,DK,Aa];have hf:Bc (out.length+1) 4=true:=AN (by omega) (by omega);have hb1:Arm (0+out.length*1) (Ao eL out).length=true:=AT BI out (by omega);have e3:∀ s:Nat,ο 0 (ι (0+out.length*1) (Ao eL out))++[.v (.int .u32 (s:Int))]=Ao eL (out++[s]):=λs=>by
    rw[υ,Bf BI out (by omega)];exact A9 eL out s
   rw[η,Ase]at h1;rw[Cr (show a[i]<_ by omega),Cr (show m<_ by omega),Yb (by omega),ET (by omega),F5,LQ,Bo (by omega),hf,hb1,e3];refine Ad ?_;refine Ad ?_;refine Ak (by decide) ?_;refine Ab h1 ?_;rfl
  .rw[h3,Arf hlt,Ih,Ari]
   rfl
theorem Xo{a:List Nat}(ha:Limbs a)(hs:a.length<=999999999){m:Nat}(hm:m<4294967296){c:Nat}(hc:c<4294967296):∃ L:List Nat,D.ask (.fn 203) [eN a,.v (.int .u32 (m:Int)),.v (.int .u32 (c:Int))] []=some (eN L,[])/\Limbs L/\Au L=Au a*m+c/\L.length<=a.length+1:=by
 obtain⟨o,c',g,hc',ho⟩:=AfT K ha hs m hm a.length 0 [] c (by omega) (by omega) hc rfl;rw[Arx,υ]at ho;have hol:o.length=a.length:=by
  have:=congrArg List.length ho;rw[η,Nu]at this;simpa using this
 have hL:=Mb m a c hm ha hc;have hV:=NB m a c;rw[←ho]at hL hV
 by_cases h0:c'=0
 .subst h0
  refine⟨o,?_,λx hx=>hL x (List.mem_append_left _ hx),?_,by omega⟩
  .refine K.fn' QA _ rfl ((Amj ..).trans ?_)
   rw[Aw,Bo (by omega),Ax,AN (by omega) (by omega)];refine Ad ?_;rw[Cr (show c<_ by omega)];refine Ab g ?_;simp only[P4,ND,DK,Aa];refine Ak (by omega) ?_;rw[AT BI o (by omega)];refine Ad ?_;rw[Bf BI o rfl,Ez BI o];rfl
  .rw[←hV,Hk]
   simp[Au]
 .refine⟨o++[c'],?_,hL,hV,by simp;omega⟩
  refine K.fn' QA _ rfl ((Amj ..).trans ?_);rw[Aw,Bo (by omega),Ax,AN (by omega) (by omega)];refine Ad ?_;rw[Cr (show c<_ by omega)];refine Ab g ?_;simp only[P4,ND,DK,Aa];refine Al (by omega) ?_;rw[DE hc'];have e3:ο 0 (ι (0+o.length*1) (Ao eL o))++[.v (.int .u32 (c':Int))]=Ao eL (o++[c']):=by
   rw[υ,Bf BI o (by omega)];exact A9 eL o c'
  rw[AN (n:=o.length+1) (b:=4) (by omega) (by omega),AT BI o (by omega),e3,AT BI (o++[c']) (by simp)];refine Ad ?_;refine Ad ?_;refine Ad ?_;rw[υ,Bf BI (o++[c']) (by simp),show BC (o.length+1) 1 (Ao eL (o++[c']))=(o++[c']).map eL from by have:=Ez BI (o++[c']);rwa [η]at this];rfl
def AlX(x:AV)(L:List Nat):Prop:=x=eN L\/(x=.v (.slice none 0 0)/\L=[])
set_option maxHeartbeats 4000000 in
theorem ZJ{s:ByteArray}(hs:s.size<=4000):∀(m i:Nat) (x:AV) (L:List Nat) (p q:Nat),s.size-i=m->i<=s.size->AlX x L->Limbs L->L.length<=i->p<q->ScN q->
  ((s.data.toList.drop i).all P7=true->∃(L':List Nat) (p' q':Nat),D.ask (.lp 148 0) [sv s,x,.v (.int .u32 (p:Int)),.v (.int .u32 (q:Int)),iv (s.size:Int),iv (i:Int)] []=some (.tup [iv 1,eN L',.v (.int .u32 (p':Int)),.v (.int .u32 (q':Int))],[])
    ∧ Limbs L'/\L'.length<=s.size/\p'<q'/\ScN q'/\Au L'*q'+p'=hor (Au L*q+p) (s.data.toList.drop i))
  ∧ ((s.data.toList.drop i).all P7=false->D.ask (.lp 148 0) [sv s,x,.v (.int .u32 (p:Int)),.v (.int .u32 (q:Int)),iv (s.size:Int),iv (i:Int)] []=some (.tup [bv true,.ls [],iv 20],[])):=by
 intro m;have hsl:s.data.toList.length=s.size:=by simp
 induction m with
 |zero=>
  intro i x L p q hm hi hx hL hLl hp hq;have e:s.data.toList.drop i=[]:=Ark (by omega);rw[e];refine⟨λ_=>⟨L,p,q,?_,hL,by omega,hp,hq,rfl⟩,λh=>by cases h⟩;rcases hx with rfl|⟨rfl,rfl⟩
  .refine K.lp' Fg _ rfl (by kernel_rfl) ((MB ..).trans ?_)
   exact Ak (by omega) rfl
  .refine K.lp' Fg _ rfl (by kernel_rfl) ((Jt ..).trans ?_)
   exact Ak (by omega) rfl
 |succ m ih=>
  intro i x L p q hm hi hx hL hLl hp hq;have hlt:i<s.size:=by omega
  have hlt':i<s.data.toList.length:=by omega
  have e:s.data.toList.drop i=s.data.toList[i]::s.data.toList.drop (i+1):=Arf hlt';rw[e,Aso];have hq1:=hq.le
  cases hd:P7 s.data.toList[i]with
  |false=>
   refine⟨λh=>by simp at h,λ_=>?_⟩;obtain⟨z,hz⟩:=Abf K hd;rcases hx with rfl|⟨rfl,rfl⟩
   .refine K.lp' Fg _ rfl (by kernel_rfl) ((MB ..).trans ?_)
    refine Al (by omega) ?_;rw[Ax,BG,CU hlt];refine Ad ?_;rw[J0 hlt];refine Ab hz ?_;simp only[P4,ND,DK,Aa];rfl
   .refine K.lp' Fg _ rfl (by kernel_rfl) ((Jt ..).trans ?_)
    refine Al (by omega) ?_;rw[Ax,BG,CU hlt];refine Ad ?_;rw[J0 hlt];refine Ab hz ?_;simp only[P4,ND,DK,Aa];rfl
  |true=>
   have hy:=YX K hd;have hdd:=Ahv hd;rw[Bool.true_and,TL];rcases hq.next with h8|⟨h8,hq2⟩
   .obtain⟨L2,g,hL2,hV2,hl2⟩:=Xo K hL (by omega) (m:=q*10) (by omega) (c:=p*10+(s.data.toList[i].toNat-48)) (by omega)
    have ih':=ih (i+1) (eN L2) L2 0 1 (by omega) (by omega) (.inl rfl) hL2 (by omega) (by omega) (.inl rfl);rw[show Au L2*1+0=(Au L*q+p)*10+(s.data.toList[i].toNat-48) by rw[Nat.mul_one,Ar5,hV2,TM]]at ih';refine⟨λh=>?_,λh=>?_⟩
    .obtain⟨L',p',q',h1,h2⟩:=ih'.1 h
     refine⟨L',p',q',?_,h2⟩;rcases hx with rfl|⟨rfl,rfl⟩
     .refine K.lp' Fg _ rfl (by kernel_rfl) ((MB ..).trans ?_)
      refine Al (by omega) ?_;rw[Ax,BG,CU hlt];refine Ad ?_;rw[J0 hlt];refine Ab hy ?_;simp only[P4,ND,DK,Aa];refine Bi ?_;rw[show (10:Int)=((10:Nat):Int) from rfl,CT,CT,Gy,ArC (show q*10<4294967296 by omega),ArC (show p*10<4294967296 by omega),ArC (show p*10+(s.data.toList[i].toNat-48)<4294967296 by omega),Bo (by omega)];refine As (by omega) ?_;refine Ab g ?_;simp only[eN,ND,DK,Aa];refine Ab h1 ?_;rfl
     .refine K.lp' Fg _ rfl (by kernel_rfl) ((Jt ..).trans ?_)
      refine Al (by omega) ?_;rw[Ax,BG,CU hlt];refine Ad ?_;rw[J0 hlt];refine Ab hy ?_;simp only[P4,ND,DK,Aa];refine Bi ?_;rw[show (10:Int)=((10:Nat):Int) from rfl,CT,CT,Gy,ArC (show q*10<4294967296 by omega),ArC (show p*10<4294967296 by omega),ArC (show p*10+(s.data.toList[i].toNat-48)<4294967296 by omega),Bo (by omega)];refine As (by omega) ?_;refine Ab g ?_;simp only[eN,ND,DK,Aa];refine Ab h1 ?_;rfl
    .have h1:=ih'.2 h
     rcases hx with rfl|⟨rfl,rfl⟩
     .refine K.lp' Fg _ rfl (by kernel_rfl) ((MB ..).trans ?_)
      refine Al (by omega) ?_;rw[Ax,BG,CU hlt];refine Ad ?_;rw[J0 hlt];refine Ab hy ?_;simp only[P4,ND,DK,Aa];refine Bi ?_;rw[show (10:Int)=((10:Nat):Int) from rfl,CT,CT,Gy,ArC (show q*10<4294967296 by omega),ArC (show p*10<4294967296 by omega),ArC (show p*10+(s.data.toList[i].toNat-48)<4294967296 by omega),Bo (by omega)];refine As (by omega) ?_;refine Ab g ?_;simp only[eN,ND,DK,Aa];refine Ab h1 ?_;rfl
     .refine K.lp' Fg _ rfl (by kernel_rfl) ((Jt ..).trans ?_)
      refine Al (by omega) ?_;rw[Ax,BG,CU hlt];refine Ad ?_;rw[J0 hlt];refine Ab hy ?_;simp only[P4,ND,DK,Aa];refine Bi ?_;rw[show (10:Int)=((10:Nat):Int) from rfl,CT,CT,Gy,ArC (show q*10<4294967296 by omega),ArC (show p*10<4294967296 by omega),ArC (show p*10+(s.data.toList[i].toNat-48)<4294967296 by omega),Bo (by omega)];refine As (by omega) ?_;refine Ab g ?_;simp only[eN,ND,DK,Aa];refine Ab h1 ?_;rfl
   .have ih':=ih (i+1) x L (p*10+(s.data.toList[i].toNat-48)) (q*10) (by omega) (by omega) hx hL (by omega) (by omega) hq2
    rw[TM]at ih';refine⟨λh=>?_,λh=>?_⟩
    .obtain⟨L',p',q',h1,h2⟩:=ih'.1 h
     refine⟨L',p',q',?_,h2⟩;rcases hx with rfl|⟨rfl,rfl⟩
     .refine K.lp' Fg _ rfl (by kernel_rfl) ((MB ..).trans ?_)
      refine Al (by omega) ?_;rw[Ax,BG,CU hlt];refine Ad ?_;rw[J0 hlt];refine Ab hy ?_;simp only[P4,ND,DK,Aa];refine Bi ?_;rw[show (10:Int)=((10:Nat):Int) from rfl,CT,CT,Gy,ArC (show q*10<4294967296 by omega),ArC (show p*10<4294967296 by omega),ArC (show p*10+(s.data.toList[i].toNat-48)<4294967296 by omega),Bo (by omega)];refine Ap (by omega) ?_;refine Ab h1 ?_;rfl
     .refine K.lp' Fg _ rfl (by kernel_rfl) ((Jt ..).trans ?_)
      refine Al (by omega) ?_;rw[Ax,BG,CU hlt];refine Ad ?_;rw[J0 hlt];refine Ab hy ?_;simp only[P4,ND,DK,Aa];refine Bi ?_;rw[show (10:Int)=((10:Nat):Int) from rfl,CT,CT,Gy,ArC (show q*10<4294967296 by omega),ArC (show p*10<4294967296 by omega),ArC (show p*10+(s.data.toList[i].toNat-48)<4294967296 by omega),Bo (by omega)];refine Ap (by omega) ?_;refine Ab h1 ?_;rfl
    .have h1:=ih'.2 h
     rcases hx with rfl|⟨rfl,rfl⟩
     .refine K.lp' Fg _ rfl (by kernel_rfl) ((MB ..).trans ?_)
      refine Al (by omega) ?_;rw[Ax,BG,CU hlt];refine Ad ?_;rw[J0 hlt];refine Ab hy ?_;simp only[P4,ND,DK,Aa];refine Bi ?_;rw[show (10:Int)=((10:Nat):Int) from rfl,CT,CT,Gy,ArC (show q*10<4294967296 by omega),ArC (show p*10<4294967296 by omega),ArC (show p*10+(s.data.toList[i].toNat-48)<4294967296 by omega),Bo (by omega)];refine Ap (by omega) ?_;refine Ab h1 ?_;rfl
     .refine K.lp' Fg _ rfl (by kernel_rfl) ((Jt ..).trans ?_)
      refine Al (by omega) ?_;rw[Ax,BG,CU hlt];refine Ad ?_;rw[J0 hlt];refine Ab hy ?_;simp only[P4,ND,DK,Aa];refine Bi ?_;rw[show (10:Int)=((10:Nat):Int) from rfl,CT,CT,Gy,ArC (show q*10<4294967296 by omega),ArC (show p*10<4294967296 by omega),ArC (show p*10+(s.data.toList[i].toNat-48)<4294967296 by omega),Bo (by omega)];refine Ap (by omega) ?_;refine Ab h1 ?_;rfl
def NP(s:ByteArray):List Nat × Int:=
 if 4000<s.size then([],2) else if s.size=0 then([],20) else if s.data.toList.all P7=true then(Be (hor 0 s.data.toList),0) else([],20)
variable (C:CloneF D)
include C
theorem ZK(s:ByteArray):D.ask (.fn 148) [sv s] []=some (.tup [eN (NP s).1,iv (NP s).2],[]):=by
 refine K.fn' Fg _ rfl ((AoX ..).trans ?_);unfold NP;rw[BG]
 by_cases h1:4000<s.size
 .rw[if_pos h1]
  exact Al (by omega) rfl
 rw[if_neg h1];refine Ak (by omega) ?_
 by_cases h2:s.size=0
 .rw[if_pos h2]
  have h3:s=ByteArray.empty:=by simpa using h2
  exact DI (by rw[h3];rfl) rfl
 rw[if_neg h2];refine(EQ (λh=>h2 (by rw[h];rfl))).trans ?_;have g:=ZJ K (s:=s) (by omega) s.size 0 (.v (.slice none 0 0)) [] 0 1 (by omega) (by omega) (.inr ⟨rfl,rfl⟩) C0 (by simp) (by omega) (.inl rfl);rw[υ]at g
 by_cases h3:s.data.toList.all P7=true
 .rw[if_pos h3]
  obtain⟨L',p',q',h4,hL,hl,hp,hq,hv⟩:=g.1 h3;have hq1:=hq.le;obtain⟨L2,g2,hL2,hV2,hl2⟩:=Xo K hL (by omega) (m:=q') (by omega) (c:=p') (by omega);refine Ab h4 ?_;simp only[eN,P4,ND,DK,Aa];refine Ad ?_;refine Ab g2 ?_;simp only[eN,ND,DK,Aa];refine Ab (Hq K C (by unfold Fl;omega) hL2) ?_;rw[hV2,hv];rfl
 .rw[if_neg h3]
  refine Ab (g.2 (by simpa using h3)) ?_;rfl
end
theorem Pg(s:ByteArray):Limbs (NP s).1:=by
 unfold NP;split
 .exact C0
 split
 .exact C0
 split
 .exact AK _
 .exact C0
theorem Uy(s:ByteArray):(NP s).1.length<=4000:=by
 unfold NP;split
 .simp
 split
 .simp
 split
 .rename_i h1 h2 h3
  refine Nat.le_trans (D7 (k:=s.size) ?_) (by omega);have:=Aci s.data.toList h3 (v:=0) (i:=0) (by simp)
  rwa [Ary,show s.data.toList.length=s.size by simp]at this
 .simp
def Tp(s:ByteArray):Prop:=1<=s.size/\s.extract 0 1=Af [45]
instance (s:ByteArray):Decidable (Tp s):=by unfold Tp;exact inferInstance
def IT(s:ByteArray):ByteArray × Bool:=if Tp s then(s.extract 1 s.size,true) else(s,false)
def KI(s:ByteArray):Zi × Int:=if(NP (IT s).1).2=0 then(Br (JG (IT s).2 (Au (NP (IT s).1).1)),0) else(⟨false,[]⟩,(NP (IT s).1).2)
section
variable {D:Orc} (K:Knows Ag Mf D) (Z:Knows Ag Rp D) (C:CloneF D)
include Z
theorem AfV(s:ByteArray):D.ask (.fn 241) [sv s,sv (Af [45])] []=some (bv (decide (Tp s)),[]):=by
 refine Z.fn' Aiv _ rfl ((Apz ..).trans ?_);rw[BG,BG,show (Af [45]).size=1 from rfl]
 by_cases h1:1<=s.size
 .refine Dp (by omega) ?_
  rw[show OS 0 1 s.size=true by unfold OS;simp;omega];refine Ad ?_
  by_cases h2:s.extract 0 1=Af [45]
  .rw[decide_eq_true (show Tp s from ⟨h1,h2⟩)]
   exact DI h2 rfl
  .rw[decide_eq_false (show ¬ Tp s from λh=>h2 h.2)]
   exact(EQ h2).trans rfl
 .rw[decide_eq_false (show ¬ Tp s from λh=>h1 h.1)]
  exact DP (by omega) rfl
theorem AfC(s:ByteArray):D.ask (.fn 201) [sv s,sv (Af [45])] []=some (.tup [sv (IT s).1,bv (IT s).2],[]):=by
 refine Z.fn' Aim _ rfl ((Apk ..).trans ?_);refine Ab (AfV Z s) ?_;simp only[ND,DK,Aa];unfold IT
 by_cases h:Tp s
 .have h1:=h.1
  rw[if_pos h,decide_eq_true h,BG,BG,show (Af [45]).size=1 from rfl];refine Ad ?_;rw[show OS 1 s.size s.size=true by unfold OS;rw[Asr h1,Asr (ω _)]];rfl
 .rw[if_neg h,decide_eq_false h]
  exact Bi rfl
theorem AkG(s:ByteArray):D.ask (.fn 147) [sv s,sv (Af [45])] []=some (.tup [sv (IT s).1,bv (IT s).2],[]):=by
 refine Z.fn' Ah2 _ rfl ((AoW ..).trans ?_);refine Ab (AfC Z s) ?_;rfl
include K C
theorem Aax(s:ByteArray):D.ask (.fn 85) [sv s] []=some (.tup [.agg (eZ (KI s).1),iv (KI s).2],[]):=by
 refine Z.fn' AmK _ rfl ((e85 ..).trans ?_);refine Ab (AkG Z s) ?_;simp only[ND,DK,Aa];refine Ab (ZK K C (IT s).1) ?_;simp only[eN,P4,ND,DK,Aa];unfold KI
 by_cases h:(NP (IT s).1).2=0
 .rw[if_pos h]
  refine As h ?_;refine Ab (Gj K Z C (IT s).2 (Pg _) (by unfold Fl;have:=Uy (IT s).1;omega)) ?_;rfl
 .rw[if_neg h]
  exact Ap h rfl
end
structure ZF (D:Orc):Prop where
 frm:∀ z:Zi,Lz 1000000000 z->D.ask (.fn 145) [bv z.neg,eN z.abs] []=some (.agg (eZ (Br (zv z))),[])
 neg:∀ z:Zi,Lz 1000000000 z->D.ask (.fn 86) [.agg (eZ z)] []=some (.agg (eZ (Br (-zv z))),[])
 sign:∀ z:Zi,Lz 1000000000 z->D.ask (.fn 158) [.agg (eZ z)] []=some (iv (WI (zv z)),[])
 of_:∀ n:Int,-9223372036854775808<=n->n<9223372036854775808->D.ask (.fn 84) [iv n] []=some (.agg (eZ (Br n)),[])
 cmp:∀ a b:Zi,Lz 1000000000 a->Lz 1000000000 b->D.ask (.fn 285) [.agg (eZ a),.agg (eZ b)] []=some (iv (Hw (zv a) (zv b)),[])
 add:∀ a b:Zi,Lz 900000000 a->Lz 900000000 b->D.ask (.fn 87) [.agg (eZ a),.agg (eZ b)] []=some (.agg (eZ (Br (zv a+zv b))),[])
 mul:∀ a b:Zi,Lz 400000000 a->Lz 400000000 b->a.abs.length<24\/b.abs.length<24->D.ask (.fn 264) [.agg (eZ a),.agg (eZ b)] []=some (.agg (eZ (Br (zv a*zv b))),[])
 parse:∀ s:ByteArray,D.ask (.fn 85) [sv s] []=some (.tup [.agg (eZ (KI s).1),iv (KI s).2],[])
theorem Aot{D:Orc}(K:Knows Ag Mf D)(Z:Knows Ag Rp D)(C:CloneF D):ZF D where
 frm z h:=by
  have:=Gj K Z C z.neg h.lim (by unfold Fl;exact h.len);exact this
 neg z h:=Ahn K Z C h
 sign z h:=PU K Z C h
 of_ n h1 h2:=AlO K Z C n h1 h2
 cmp a b ha hb:=Ahl K Z C ha hb
 add a b ha hb:=Ahk K Z C (ω _) ha hb
 mul a b ha hb h:=Ahm K Z C (ω _) (ω _) ha hb h
 parse s:=Aax K Z C s
theorem X7(s:ByteArray):Lz 4000 (KI s).1:=by
 unfold KI;split
 .rename_i h
  have h1:=Pg (IT s).1;have h2:=Uy (IT s).1;have:Lz 4000 ⟨(IT s).2,(NP (IT s).1).1⟩:=⟨h1,h2⟩;exact this.inb.lz
 .exact⟨C0,by simp⟩
theorem Srt.same{l r:List Pt}{a b p q:Nat}(h:Srt Pt.v l p q)(hs:Same0 l r a b)(hd:q<=a\/b<=p):Srt Pt.v r p q:=by
 intro x y h1 h2 h3;rw[hs.kf Pt.v (by omega),hs.kf Pt.v (by omega)];exact h x y h1 h2 h3
def Vb(q t:Nat)(l:List Pt):Prop:=∀ p,q ∣ p->p+q<=t->Srt Pt.v l p (p+q)
theorem AlZ{a:Nat}(h:a<4611686018427387000):Ah.add .i64 (a:Int) 20=((a+20:Nat):Int):=by
 rw[Jd (by omega) (by omega)];rfl
section
variable {D:Orc} (K:Knows Ag Ga D)
include K
theorem AlC:∀(m a:Nat) (l:List Pt),l.length-a=m->a<=l.length->l.length<=1000000000->20 ∣ a->Vb 20 a l->
  ∃(r:List Pt) (c:Nat),D.ask (.lp 206 0) [.sl 0 0 l.length 3,iv (l.length:Int),Gq,iv 20,iv (a:Int),iv ((a+20:Nat):Int)] [U (Ao eP l) true true]
   = some (.tup [iv 0,.sl 0 0 l.length 3,iv (l.length:Int),Gq,iv 20,iv (c:Int)],[.set (U (Ao eP r) true true)])
   ∧ r.length=l.length/\r.Perm l/\c<=l.length/\l.length<c+20/\20 ∣ c/\Vb 20 c r:=by
 intro m
 induction m using Ast with
 |_ m ih=>
  intro a l hm ha hl hd hb
  by_cases h:a+20<=l.length
  .obtain⟨r,g,hr,hp,ho,hsm⟩:=Acn K (a:=a) (b:=a+20) (l:=l) (by omega) h hl
   have hb2:Vb 20 (a+20) r:=λp h1 h2=>by
    by_cases hpa:p=a
    .subst hpa
     exact ho
    .exact(hb p h1 (by omega)).same hsm (.inl (by omega))
   obtain⟨r2,c,g2,hr2,hp2,h3,h4,h5,h6⟩:=ih (r.length-(a+20)) (by omega) (a+20) r rfl (by omega) (by omega) (by omega) hb2;rw[hr]at g2 h3 h4;refine⟨r2,c,?_,by omega,hp2.trans hp,h3,h4,h5,h6⟩;refine K.lp' Ip _ rfl (by kernel_rfl) ((Abo ..).trans ?_);refine Dp (by omega) ?_;refine Ab g ?_;simp only[Gq,ND,DK,Aa];rw[AlZ (by omega)];refine Ab g2 ?_;rfl
  .refine⟨l,a,?_,rfl,List.Perm.refl _,ha,by omega,hd,hb⟩
   refine K.lp' Ip _ rfl (by kernel_rfl) ((Abo ..).trans ?_);exact DP (by omega) rfl
omit K in
def Od(D:Orc):Prop:=∀(l:List Pt) (a m b:Nat),a<m->m<b->b<=l.length->l.length<=1000000000->Srt Pt.v l a m->Srt Pt.v l m b->
 ∃ r:List Pt,D.ask (.fn 243) [.sl 0 0 l.length 3,iv (a:Int),iv (m:Int),iv (b:Int),Gq] [U (Ao eP l) true true]=some (.tup [],[.set (U (Ao eP r) true true)])
  ∧ r.length=l.length/\r.Perm l/\Srt Pt.v r a b/\Same0 l r a b
def TlS(q a:Nat)(l:List Pt):Prop:=∀ j,Srt Pt.v l (a+j*q) (min (a+(j+1)*q) l.length)
theorem AlE(M:Od D)(q:Nat)(hq:0<q)(hq2:q<=1000000000):∀(m a:Nat) (l:List Pt),l.length-a=m->a<=l.length->l.length<=1000000000->2*q ∣ a->Vb (2*q) a l->TlS q a l->
  ∃(r:List Pt) (c:Nat),D.ask (.lp 206 2) [.sl 0 0 l.length 3,iv (l.length:Int),Gq,iv (q:Int),iv (a:Int),iv ((a+2*q:Nat):Int)] [U (Ao eP l) true true]
   = some (.tup [iv 4,.sl 0 0 l.length 3,iv (l.length:Int),Gq,iv (q:Int),iv (c:Int)],[.set (U (Ao eP r) true true)])
   ∧ r.length=l.length/\r.Perm l/\c<=l.length/\l.length<c+2*q/\2*q ∣ c/\Vb (2*q) c r/\TlS q c r:=by
 intro m
 induction m using Ast with
 |_ m ih=>
  intro a l hm ha hl hd hb ht
  by_cases h:a+2*q<=l.length
  .have t0:=ht 0
   have t1:=ht 1;rw[AsG,Ar5,Ary,Atx,AsC (by omega)]at t0;rw[Atx,show (1+1)*q=2*q from rfl,AsC h]at t1;obtain⟨r,g,hr,hp,ho,hsm⟩:=M l a (a+q) (a+2*q) (by omega) (by omega) h hl t0 t1;have hb2:Vb (2*q) (a+2*q) r:=λp h1 h2=>by
    by_cases hpa:p=a
    .subst hpa
     exact ho
    .have:=Aue (by omega) (Auq hd h1)
     exact(hb p h1 (by omega)).same hsm (.inl (by omega))
   have ht2:TlS q (a+2*q) r:=λj=>by
    have:=ht (j+2);rw[show a+(j+2)*q=a+2*q+j*q by rw[Ar4];omega,show a+(j+2+1)*q=a+2*q+(j+1)*q by rw[Ar4,Ar4,Ar4];omega]at this;rw[hr];exact this.same hsm (.inr (by omega))
   obtain⟨r2,c,g2,hr2,hp2,h3,h4,h5,h6,h7⟩:=ih (r.length-(a+2*q)) (by omega) (a+2*q) r rfl (by omega) (by omega) (Nat.dvd_add hd (Nat.dvd_refl _)) hb2 ht2;rw[hr]at g2 h3 h4;refine⟨r2,c,?_,by omega,hp2.trans hp,h3,h4,h5,h6,h7⟩;refine K.lp' Ip _ rfl (by kernel_rfl) ((Abp ..).trans ?_);refine Dp (by omega) ?_;rw[show Ah.add .i64 (a:Int) (q:Int)=((a+q:Nat):Int) by rw[Jd (by omega) (by omega)];omega,
    show Ah.mul .i64 2 (q:Int)=((2*q:Nat):Int) by
     show IntKind.i64.wrap (2*(q:Int))=_
     rw[IntKind.wrap_i64];omega,
    show Ah.add .i64 ((a+2*q:Nat):Int) ((2*q:Nat):Int)=((a+2*q+2*q:Nat):Int) by rw[Jd (by omega) (by omega)];omega]
   refine Ab g ?_;simp only[Gq,ND,DK,Aa];refine Ab g2 ?_;rfl
  .refine⟨l,a,?_,rfl,List.Perm.refl _,ha,by omega,hd,hb,ht⟩
   refine K.lp' Ip _ rfl (by kernel_rfl) ((Abp ..).trans ?_);exact DP (by omega) rfl
omit K in
theorem WS{q c:Nat}{r:List Pt}(hq:0<q)(hd:q ∣ c)(hn:r.length<c+q)(hb:Vb q c r)(hs:Srt Pt.v r c r.length):TlS q 0 r:=λj=>by
 rw[Ary,Ary];have e:(j+1)*q=j*q+q:=by rw[Ar4];omega
 by_cases h1:j*q+q<=c
 .have:=hb (j*q) (AtP q j) h1
  intro x y hx hxy hy;exact this x y hx hxy (by omega)
 .by_cases h2:j*q=c
  .intro x y hx hxy hy
   exact hs x y (by omega) hxy (by omega)
  .intro x y hx hxy hy
   exfalso
   by_cases h3:j*q<c
   .have:=Aue (by omega) (Auq hd (AtP q j))
    omega
   .have:=Aue (by omega) (Auq (AtP q j) hd)
    omega
theorem AlD(M:Od D):∀(m q:Nat) (l:List Pt),l.length-q=m->0<q->q<=2000000000->l.length<=1000000000->TlS q 0 l->
  ∃ r:List Pt,D.ask (.lp 206 1) [.sl 0 0 l.length 3,iv (l.length:Int),Gq,iv (q:Int)] [U (Ao eP l) true true]
   = some (.tup [iv 2,.sl 0 0 l.length 3],[.set (U (Ao eP r) true true)])
   ∧ r.length=l.length/\r.Perm l/\Srt Pt.v r 0 r.length:=by
 intro m
 induction m using Ast with
 |_ m ih=>
  intro q l hm hq hq2 hl ht
  by_cases h:q<l.length
  .obtain⟨r,c,g,hr,hp,hc,hn,hd,hb,ht2⟩:=AlE K M q hq (by omega) _ 0 l rfl (by omega) hl (AuJ _) (λp _ h2=>by omega) ht
   have t0:=ht2 0;have t1:=ht2 1;rw[AsG,Ar5,Ary,Atx]at t0;rw[Atx,show (1+1)*q=2*q from rfl,AtR (by omega)]at t1;rw[Ary]at g;have emul:Ah.mul .i64 2 (q:Int)=((2*q:Nat):Int):=by
    show IntKind.i64.wrap (2*(q:Int))=_
    rw[IntKind.wrap_i64];omega
   have emul2:Ah.mul .i64 (q:Int) 2=((2*q:Nat):Int):=by
    show IntKind.i64.wrap ((q:Int)*2)=_
    rw[IntKind.wrap_i64];omega
   have eadd:Ah.add .i64 (c:Int) (q:Int)=((c+q:Nat):Int):=by rw[Jd (by omega) (by omega)];omega
   by_cases h2:c+q<l.length
   .rw[AsC (by omega)]at t0
    obtain⟨r3,g3,hr3,hp3,ho3,hsm⟩:=M r c (c+q) r.length (by omega) (by omega) (ω _) (by omega) t0 t1;have ht3:TlS (2*q) 0 r3:=WS (by omega) hd (by omega) (λp h1 h2=>(hb p h1 h2).same hsm (.inl (by omega))) (by rw[hr3];exact ho3);obtain⟨r4,g4,hr4,hp4,ho4⟩:=ih (r3.length-2*q) (by omega) (2*q) r3 rfl (by omega) (by omega) (by omega) ht3;rw[hr]at g3 hr3;rw[hr3]at g4 hr4;refine⟨r4,?_,hr4,hp4.trans (hp3.trans hp),ho4⟩;refine K.lp' Ip _ rfl (by kernel_rfl) ((VD ..).trans ?_);refine Al (by omega) ?_;rw[emul];refine Ab g ?_;simp only[Gq,ND,DK,Aa];refine Ad ?_;rw[eadd,emul2];refine Al (by omega) ?_;refine Ab g3 ?_;simp only[Gq,ND,DK,Aa];refine Ab g4 ?_;rfl
   .rw[AtR (by omega)]at t0
    have ht3:TlS (2*q) 0 r:=WS (by omega) hd (by omega) hb t0;obtain⟨r4,g4,hr4,hp4,ho4⟩:=ih (r.length-2*q) (by omega) (2*q) r rfl (by omega) (by omega) (by omega) ht3;rw[hr]at g4 hr4;refine⟨r4,?_,hr4,hp4.trans hp,ho4⟩;refine K.lp' Ip _ rfl (by kernel_rfl) ((VD ..).trans ?_);refine Al (by omega) ?_;rw[emul];refine Ab g ?_;simp only[Gq,ND,DK,Aa];refine Ad ?_;rw[eadd,emul2];refine Ak (by omega) ?_;refine Ab g4 ?_;rfl
  .refine⟨l,?_,rfl,List.Perm.refl _,?_⟩
   .refine K.lp' Ip _ rfl (by kernel_rfl) ((VD ..).trans ?_)
    exact Ak (by omega) rfl
   .have t0:=ht 0
    rw[AsG,Ary,Ary,Atx,AtR (by omega)]at t0;exact t0
theorem Z8(M:Od D){l:List Pt}(hl:l.length<=1000000000) :
  ∃ r:List Pt,D.ask (.fn 206) [.sl 0 0 l.length 3,iv (l.length:Int),Gq] [U (Ao eP l) true true]=some (.tup [],[.set (U (Ao eP r) true true)])
   ∧ r.length=l.length/\r.Perm l/\Srt Pt.v r 0 r.length:=by
 obtain⟨r,c,g,hr,hp,hc,hn,hd,hb⟩:=AlC K _ 0 l rfl (by omega) hl (AuJ _) (λp _ h2=>by omega);obtain⟨r2,g2,hr2,hp2,ho2,hsm⟩:=Acn K (a:=c) (b:=r.length) (l:=r) (by omega) (ω _) (by omega);have ht:TlS 20 0 r2:=WS (by omega) hd (by omega) (λp h1 h2=>(hb p h1 h2).same hsm (.inl (by omega))) (by rw[hr2];exact ho2);obtain⟨r3,g3,hr3,hp3,ho3⟩:=AlD K M _ 20 r2 rfl (by omega) (by omega) (by omega) ht;rw[hr]at g2 hr2;rw[hr2]at g3 hr3;refine⟨r3,?_,hr3,hp3.trans (hp2.trans hp),ho3⟩;refine K.fn' Ip _ rfl ((Apn ..).trans ?_);refine Ab g ?_;simp only[Gq,ND,DK,Aa];refine Ab g2 ?_;simp only[Gq,ND,DK,Aa];refine Ab g3 ?_;rfl
theorem AgS(M:Od D){l:List Pt}(hl:l.length<=1000000000) :
  ∃ r:List Pt,D.ask (.fn 152) [.sl 0 0 l.length 3,Gq] [U (Ao eP l) true true]=some (.tup [],[.set (U (Ao eP r) true true)])
   ∧ r.length=l.length/\r.Perm l/\Srt Pt.v r 0 r.length:=by
 obtain⟨r,g,h⟩:=Z8 K M hl;refine⟨r,?_,h⟩;refine K.fn' Ah3 _ rfl ((Ao0 ..).trans ?_);refine Ab g ?_;rfl
end
section
variable {α:Type} (key:α->Int)
structure Rot (l r:List α) (a m b:Nat):Prop where
 out:∀ p,p<a\/b<=p->r[p]? = l[p]?
 low:∀ p,a<=p->p<a+(b-m)->r[p]? = l[p+(m-a)]?
 high:∀ p,a+(b-m)<=p->p<b->r[p]? = l[p-(b-m)]?
structure SwR (l r:List α) (a b n:Nat):Prop where
 out:∀ p,p<a\/(a+n<=p/\p<b)\/b+n<=p->r[p]? = l[p]?
 low:∀ p,a<=p->p<a+n->r[p]? = l[p+(b-a)]?
 high:∀ p,b<=p->p<b+n->r[p]? = l[p-(b-a)]?
theorem CK{l:List α}{i j:Nat}(h:i=j):l[i]? = l[j]?:=by rw[h]
theorem AdO{c d r:List α}{i j m:Nat}(h0:i<=m)(h:j<i)(s:SwR c d (m-i) m j)(t:Rot d r (m-(i-j)) m (m+j)):Rot c r (m-i) m (m+j):=by
 refine⟨λp hp=>?_,λp h1 h2=>?_,λp h1 h2=>?_⟩
 .rw[t.out p (by omega),s.out p (by omega)]
 .rw[t.out p (by omega),s.low p (by omega) (by omega)]
 .by_cases h3:p<m-(i-j)+j
  .rw[t.low p (by omega) (by omega),s.high _ (by omega) (by omega)]
   exact CK (by omega)
  .rw[t.high p (by omega) (by omega),s.out _ (by omega)]
theorem ZW{c d r:List α}{i j m:Nat}(h0:i<=m)(h:i<j)(s:SwR c d (m-i) (m+j-i) i)(t:Rot d r (m-i) m (m+(j-i))):Rot c r (m-i) m (m+j):=by
 refine⟨λp hp=>?_,λp h1 h2=>?_,λp h1 h2=>?_⟩
 .rw[t.out p (by omega),s.out p (by omega)]
 .by_cases h3:p<m-i+(j-i)
  .rw[t.low p (by omega) (by omega),s.out _ (by omega)]
  .rw[t.high p (by omega) (by omega),s.low _ (by omega) (by omega)]
   exact CK (by omega)
 .rw[t.out p (by omega),s.high p (by omega) (by omega)]
  exact CK (by omega)
theorem AdQ{c r:List α}{i m:Nat}(h0:i<=m)(s:SwR c r (m-i) m i):Rot c r (m-i) m (m+i):=by
 refine⟨λp hp=>?_,λp h1 h2=>?_,λp h1 h2=>?_⟩
 .rw[s.out p (by omega)]
 .rw[s.low p (by omega) (by omega)]
 .rw[s.high p (by omega) (by omega)]
  exact CK (by omega)
theorem Hb{l:List α}{a m b:Nat}(h:a=m\/m=b)(ha:a<=m)(hb:m<=b):Rot l l a m b:=by
 refine⟨λp hp=>rfl,λp h1 h2=>CK (by omega),λp h1 h2=>CK (by omega)⟩
theorem Aec{l r:List α}{a b n:Nat}(hab:a+n<b)(hb:b+n<l.length)(s:SwR l r a b n)(hr:r.length=l.length):SwR l (DA r (a+n) (b+n)) a b (n+1):=by
 have ha:a+n<r.length:=by omega
 have hb2:b+n<r.length:=by omega
 have e1:∀ p,(DA r (a+n) (b+n))[p]? = if p=a+n then r[b+n]? else if p=b+n then r[a+n]? else r[p]?:=λp=>by
  rw[En ha hb2]
  by_cases h1:p=b+n
  .subst h1
   rw[if_neg (by omega),if_pos rfl,Asn (by simpa using hb2),Ψ ha]
  .rw[Asg (λe=>h1 e.symm)]
   by_cases h2:p=a+n
   .subst h2
    rw[if_pos rfl,Asn ha,Ψ hb2]
   .rw[if_neg h2,if_neg h1,Asg (λe=>h2 e.symm)]
 refine⟨λp hp=>?_,λp h1 h2=>?_,λp h1 h2=>?_⟩
 .rw[e1,if_neg (by omega),if_neg (by omega),s.out p (by omega)]
 .rw[e1]
  by_cases h:p=a+n
  .rw[if_pos h,s.out _ (by omega)]
   exact CK (by omega)
  .rw[if_neg h,if_neg (by omega),s.low p h1 (by omega)]
 .rw[e1]
  by_cases h:p=b+n
  .rw[if_neg (by omega),if_pos h,s.out _ (by omega)]
   exact CK (by omega)
  .rw[if_neg (by omega),if_neg h,s.high p h1 (by omega)]
theorem Aed(l:List α)(a b:Nat):SwR l l a b 0:=⟨λ_ _=>rfl,λ_ h1 h2=>by omega,λ_ h1 h2=>by omega⟩
theorem IZ{l r:List α}{p q:Nat}(h:r[p]? = l[q]?):kf key r p=kf key l q:=by
 unfold kf;rw[h]
theorem Rot.kout{l r:List α}{a m b p:Nat}(h:Rot l r a m b)(hp:p<a\/b<=p):kf key r p=kf key l p:=IZ key (h.out p hp)
theorem Rot.klow{l r:List α}{a m b p:Nat}(h:Rot l r a m b)(h1:a<=p)(h2:p<a+(b-m)):kf key r p=kf key l (p+(m-a)):=IZ key (h.low p h1 h2)
theorem Rot.khigh{l r:List α}{a m b p:Nat}(h:Rot l r a m b)(h1:a+(b-m)<=p)(h2:p<b):kf key r p=kf key l (p-(b-m)):=IZ key (h.high p h1 h2)
theorem Uh{l r:List α}{a b i:Nat}(hi:a+1<=i)(hib:i<=b)(hs:Srt key l (a+1) b)(h1:∀ p,a+1<=p->p<i->kf key l p<kf key l a)(h2:∀ p,i<=p->p<b->kf key l a<=kf key l p)(t:Rot l r a (a+1) i):Srt key r a b:=by
 intro p q hp hpq hq
 by_cases q1:q<i-1
 .rw[t.klow key (by omega) (by omega),t.klow key (by omega) (by omega)]
  exact hs _ _ (by omega) (by omega) (by omega)
 .by_cases q2:q=i-1
  .rw[t.klow key (by omega) (by omega),t.khigh key (by omega) (by omega),show q-(i-(a+1))=a by omega]
   have:=h1 (p+(a+1-a)) (by omega) (by omega);omega
  .rw[t.kout key (p:=q) (by omega)]
   by_cases p1:p<i-1
   .rw[t.klow key (by omega) (by omega)]
    exact hs _ _ (by omega) (by omega) (by omega)
   .by_cases p2:p=i-1
    .rw[t.khigh key (by omega) (by omega),show p-(i-(a+1))=a by omega]
     exact h2 q (by omega) hq
    .rw[t.kout key (by omega)]
     exact hs _ _ (by omega) (by omega) (by omega)
theorem Wo{l r:List α}{a m i:Nat}(hi:a<=i)(him:i<=m)(hs:Srt key l a m)(h1:∀ p,a<=p->p<i->kf key l p<=kf key l m)(h2:∀ p,i<=p->p<m->kf key l m<kf key l p)(t:Rot l r i m (m+1)):Srt key r a (m+1):=by
 intro p q hp hpq hq
 by_cases p1:p<i
 .rw[t.kout key (p:=p) (by omega)]
  by_cases q1:q<i
  .rw[t.kout key (by omega)]
   exact hs _ _ (by omega) (by omega) (by omega)
  .by_cases q2:q=i
   .rw[t.klow key (by omega) (by omega),show q+(m-i)=m by omega]
    exact h1 p hp p1
   .rw[t.khigh key (by omega) (by omega)]
    exact hs _ _ (by omega) (by omega) (by omega)
 .rw[t.khigh key (p:=q) (by omega) (by omega)]
  by_cases p2:p=i
  .rw[t.klow key (by omega) (by omega),show p+(m-i)=m by omega]
   have:=h2 (q-(m+1-m)) (by omega) (by omega);omega
  .rw[t.khigh key (by omega) (by omega)]
   exact hs _ _ (by omega) (by omega) (by omega)
def Low(l:List α)(a m b:Nat):Prop:=∀ p q,a<=p->p<m->m<=q->q<b->kf key l p<=kf key l q
theorem AgT{l:List α}{a m b:Nat}(h1:Srt key l a m)(h2:Srt key l m b)(h3:Low key l a m b):Srt key l a b:=by
 intro p q hp hpq hq
 by_cases c:q<m
 .exact h1 p q hp hpq c
 .by_cases d:p<m
  .exact h3 p q hp d (by omega) hq
  .exact h2 p q (by omega) hpq hq
structure CutAt (l:List α) (a m b mid s e:Nat):Prop where
 asl:a<=s
 sm:s<=m
 me:m<=e
 eb:e<=b
 mid:s+(e-m)=mid
 up:∀ p q,a<=p->p<s->e<=q->q<b->kf key l p<=kf key l q
 dn:∀ p q,m<=p->p<e->s<=q->q<m->kf key l p<=kf key l q
theorem FC{l r:List α}{a m b mid s e:Nat}(c:CutAt key l a m b mid s e)(h1:Srt key l a m)(h2:Srt key l m b)(t:Rot l r s m e) :
  Srt key r a s/\Srt key r s mid/\Srt key r mid e/\Srt key r e b/\Low key r a mid b:=by
 have:=c.asl;have:=c.sm;have:=c.me;have:=c.eb;have:=c.mid;refine⟨λp q x y z=>?_,λp q x y z=>?_,λp q x y z=>?_,λp q x y z=>?_,λp q x y z w=>?_⟩
 .rw[t.kout key (by omega),t.kout key (by omega)]
  exact h1 _ _ (by omega) (by omega) (by omega)
 .rw[t.klow key (by omega) (by omega),t.klow key (by omega) (by omega)]
  exact h2 _ _ (by omega) (by omega) (by omega)
 .rw[t.khigh key (by omega) (by omega),t.khigh key (by omega) (by omega)]
  exact h1 _ _ (by omega) (by omega) (by omega)
 .rw[t.kout key (by omega),t.kout key (by omega)]
  exact h2 _ _ (by omega) (by omega) (by omega)
 .by_cases p1:p<s
  .rw[t.kout key (p:=p) (by omega)]
   by_cases q1:q<e
   .rw[t.khigh key (by omega) (by omega)]
    exact h1 _ _ (by omega) (by omega) (by omega)
   .rw[t.kout key (by omega)]
    exact c.up _ _ (by omega) (by omega) (by omega) (by omega)
  .rw[t.klow key (p:=p) (by omega) (by omega)]
   by_cases q1:q<e
   .rw[t.khigh key (by omega) (by omega)]
    exact c.dn _ _ (by omega) (by omega) (by omega) (by omega)
   .rw[t.kout key (by omega)]
    exact h2 _ _ (by omega) (by omega) (by omega)
theorem XV{l r:List α}{a b:Nat}(hp:r.Perm l)(hs:Same0 l r a b){p:Nat}(h1:a<=p)(h2:p<b)(hb:b<=l.length):∃ q,a<=q/\q<b/\r[p]? = l[q]?:=by
 have hlen:=hp.length_eq;have ht:r.take a=l.take a:=by
  apply Aul;intro i;rw[ArQ,ArQ];split
  .exact hs i (by omega)
  .rfl
 have hd:r.drop b=l.drop b:=by
  apply Aul;intro i;rw[Asi,Asi];exact hs _ (by omega)
 have er:∀ x:List α,b<=x.length->x=x.take a++((x.drop a).take (b-a)++x.drop b):=λx hx=>by
  have e1:=(At8 a x).symm;have e2:=(At8 (b-a) (x.drop a)).symm;rw[List.drop_drop,show a+(b-a)=b by omega]at e2;rw[←e2];exact e1
 have hp2:(r.take a++((r.drop a).take (b-a)++r.drop b)).Perm (l.take a++((l.drop a).take (b-a)++l.drop b)):=by
  rw[←er r (by omega),←er l hb];exact hp
 rw[ht,hd]at hp2;have hp3:=(List.perm_append_right_iff _).1 ((List.perm_append_left_iff _).1 hp2);have hpr:p<r.length:=by omega
 have hm:r[p]∈(r.drop a).take (b-a):=by
  rw[At5];refine⟨p-a,?_⟩;rw[ArQ,if_pos (by omega),Asi,show a+(p-a)=p by omega,Ψ hpr]
 have hm2:=hp3.mem_iff.1 hm;rw[At5]at hm2;obtain⟨i,hi⟩:=hm2;rw[ArQ]at hi;split at hi
 .rename_i hib
  rw[Asi]at hi;exact⟨a+i,by omega,by omega,by rw[hi,Ψ hpr]⟩
 .cases hi
theorem AcO{l r:List α}{a m b:Nat}(h:Low key l a m b)(hp:r.Perm l)(hs:Same0 l r a m)(hb:m<=l.length):Low key r a m b:=by
 intro p q x y z w;obtain⟨p2,h1,h2,h3⟩:=XV hp hs x y hb;rw[IZ key h3,hs.kf key (by omega)];exact h p2 q h1 h2 z w
theorem Zq{l r:List α}{a m b:Nat}(h:Low key l a m b)(hp:r.Perm l)(hs:Same0 l r m b)(hb:b<=l.length):Low key r a m b:=by
 intro p q x y z w;obtain⟨q2,h1,h2,h3⟩:=XV hp hs z w hb;rw[IZ key h3,hs.kf key (by omega)];exact h p q2 x y h1 h2
theorem Srt.same'{l r:List α}{a b p q:Nat}(h:Srt key l p q)(hs:Same0 l r a b)(hd:q<=a\/b<=p):Srt key r p q:=by
 intro x y h1 h2 h3;rw[hs.kf key (by omega),hs.kf key (by omega)];exact h x y h1 h2 h3
theorem Mc{l:List α}{a s m:Nat}(h:s=a\/s=m)(h1:Srt key l a s)(h2:Srt key l s m):Srt key l a m:=by
 rcases h with rfl|rfl
 .exact h2
 .exact h1
structure Bs (l:List α) (n x y s r:Nat):Prop where
 xs:x<=s
 sr:s<=r
 ry:r<=y
 lo:∀ c,x<=c->c<s->kf key l c<=kf key l (n-1-c)
 hi:∀ c,r<=c->c<y->kf key l (n-1-c)<kf key l c
section
variable {l:List α} {n x y s r a m b:Nat}
theorem Bs.up(B:Bs key l n x y s r)(h1:Srt key l a m)(h2:Srt key l m b)(hx:a<=x)(hy:y<=m)(hn:n<=x+b)(hm:m+y<=n){c:Nat}(hc:s<=c)(hr:c<r)(h:kf key l c<=kf key l (n-1-c)):Bs key l n x y (c+1) r:=by
 have:=B.xs;have:=B.sr;have:=B.ry;refine⟨by omega,by omega,B.ry,λd hd1 hd2=>?_,B.hi⟩
 by_cases hdc:d=c
 .rw[hdc];exact h
 .have e1:=h1 d c (by omega) (by omega) (by omega)
  have e2:=h2 (n-1-c) (n-1-d) (by omega) (by omega) (by omega);omega
theorem Bs.dn(B:Bs key l n x y s r)(h1:Srt key l a m)(h2:Srt key l m b)(hx:a<=x)(hy:y<=m)(hn:n<=x+b)(hm:m+y<=n){c:Nat}(hc:s<=c)(hr:c<r)(h:kf key l (n-1-c)<kf key l c):Bs key l n x y s c:=by
 have:=B.xs;have:=B.sr;have:=B.ry;refine⟨B.xs,hc,by omega,B.lo,λd hd1 hd2=>?_⟩
 by_cases hdc:d=c
 .rw[hdc];exact h
 .have e1:=h1 c d (by omega) (by omega) (by omega)
  have e2:=h2 (n-1-d) (n-1-c) (by omega) (by omega) (by omega);omega
theorem Bs.cut{mid:Nat}(B:Bs key l (mid+m) x y s s)(h1:Srt key l a m)(h2:Srt key l m b)(hx:a<=x)(hy:y<=m)(hn:mid+m<=x+b)(hm:y<=mid)(cx:x=a\/mid+m=x+b)(cy:y=m\/y=mid):CutAt key l a m b mid s (mid+m-s):=by
 have:=B.xs;have:=B.ry;refine⟨by omega,by omega,by omega,by omega,by omega,λp q c1 c2 c3 c4=>?_,λp q c1 c2 c3 c4=>?_⟩
 .have hs:x<s:=by omega
  have e:=B.lo (s-1) (by omega) (by omega);rw[show mid+m-1-(s-1)=mid+m-s by omega]at e;have e1:kf key l p<=kf key l (s-1):=by
   by_cases h:p=s-1
   .rw[h];exact AtY _
   .exact h1 _ _ (by omega) (by omega) (by omega)
  have e2:kf key l (mid+m-s)<=kf key l q:=by
   by_cases h:q=mid+m-s
   .rw[h];exact AtY _
   .exact h2 _ _ (by omega) (by omega) (by omega)
  omega
 .have hs:s<y:=by omega
  have e:=B.hi s (by omega) (by omega);have e1:kf key l p<=kf key l (mid+m-1-s):=by
   by_cases h:p=mid+m-1-s
   .rw[h];exact AtY _
   .exact h2 _ _ (by omega) (by omega) (by omega)
  have e2:kf key l s<=kf key l q:=by
   by_cases h:q=s
   .rw[h];exact AtY _
   .exact h1 _ _ (by omega) (by omega) (by omega)
  omega
end
theorem Alz{l r:List α}{a k:Nat}(h:a<=k)(hk:k+1<l.length)(hr:r.length=l.length)(t:Rot l r a (a+1) (k+1)):Rot l (DA r k (k+1)) a (a+1) (k+2):=by
 have e1:∀ p,(DA r k (k+1))[p]? = if p=k then r[k+1]? else if p=k+1 then r[k]? else r[p]?:=λp=>by
  rw[En (by omega) (by omega)]
  by_cases h1:p=k+1
  .subst h1
   rw[if_neg (by omega),if_pos rfl,Asn (by rw[ArM];omega),Ψ (by omega)]
  .rw[Asg (λe=>h1 e.symm)]
   by_cases h2:p=k
   .subst h2
    rw[if_pos rfl,Asn (by omega),Ψ (by omega)]
   .rw[if_neg h2,if_neg h1,Asg (λe=>h2 e.symm)]
 refine⟨λp hp=>?_,λp h1 h2=>?_,λp h1 h2=>?_⟩
 .rw[e1,if_neg (by omega),if_neg (by omega),t.out p (by omega)]
 .rw[e1]
  by_cases h:p=k
  .rw[if_pos h,t.out _ (by omega)]
   exact CK (by omega)
  .rw[if_neg h,if_neg (by omega),t.low p h1 (by omega)]
 .rw[e1,if_neg (by omega),if_pos (by omega),t.high k (by omega) (by omega)]
  exact CK (by omega)
theorem AdN{l r:List α}{m k:Nat}(h:k<m)(hk:m<l.length)(hr:r.length=l.length)(t:Rot l r (k+1) m (m+1)):Rot l (DA r (k+1) k) k m (m+1):=by
 have e1:∀ p,(DA r (k+1) k)[p]? = if p=k then r[k+1]? else if p=k+1 then r[k]? else r[p]?:=λp=>by
  rw[En (by omega) (by omega)]
  by_cases h1:p=k
  .subst h1
   rw[if_pos rfl,Asn (by rw[ArM];omega),Ψ (by omega)]
  .rw[if_neg h1,Asg (λe=>h1 e.symm)]
   by_cases h2:p=k+1
   .subst h2
    rw[if_pos rfl,Asn (by omega),Ψ (by omega)]
   .rw[if_neg h2,Asg (λe=>h2 e.symm)]
 refine⟨λp hp=>?_,λp h1 h2=>?_,λp h1 h2=>?_⟩
 .rw[e1,if_neg (by omega),if_neg (by omega),t.out p (by omega)]
 .rw[e1,if_pos (by omega),t.low (k+1) (by omega) (by omega)]
  exact CK (by omega)
 .rw[e1,if_neg (by omega)]
  by_cases h:p=k+1
  .rw[if_pos h,t.out _ (by omega)]
   exact CK (by omega)
  .rw[if_neg h,t.high p (by omega) (by omega)]
end
theorem DX{a b:Nat}(h:a+b<4611686018427387904):Ah.conv .i64 (Ah.shr .u64 (Ah.conv .u64 (Ah.add .i64 (a:Int) (b:Int))) 1)=(((a+b) / 2:Nat):Int):=by
 rw[Jd (by omega) (by omega),show (a:Int)+(b:Int)=((a+b:Nat):Int) by omega,Cr (by omega)];have:Ah.shr .u64 ((a+b:Nat):Int) 1=(((a+b) / 2:Nat):Int):=by
  show Int.fdiv ((a+b:Nat):Int) (2 ^ 1)=_
  have:(2 ^ 1:Int)=((2:Nat):Int):=by decide
  rw[this,Int.fdiv_eq_ediv_of_nonneg _ (by omega)];rfl
 rw[this]
 show IntKind.i64.wrap (((a+b) / 2:Nat):Int)=_
 rw[IntKind.wrap_i64];omega
theorem KZ{a b:Nat}(h:a+b<4611686018427387904):Ah.add .i64 (a:Int) (b:Int)=((a+b:Nat):Int):=by
 rw[Jd (by omega) (by omega)];omega
theorem CG{a b:Nat}(hb:b<=a)(h:a<4611686018427387904):Ah.sub .i64 (a:Int) (b:Int)=((a-b:Nat):Int):=by
 rw[LR (by omega) (by omega)];omega
theorem Jh{a:Nat}(hb:1<=a)(h:a<4611686018427387904):Ah.sub .i64 (a:Int) 1=((a-1:Nat):Int):=by
 rw[LR (by omega) (by omega)];omega
abbrev IA(l:List Pt):ABlk:=U (Ao eP l) true true
section
variable {D:Orc} (K:Knows Ag Ga D)
include K
theorem AlG(a b n:Nat)(l0:List Pt):∀(m i:Nat) (l:List Pt),n-i=m->i<=n->a+n<=b->b+n<=l.length->l.length<=1000000000->l.length=l0.length->SwR l0 l a b i->
  ∃ r:List Pt,D.ask (.lp 273 0) [.sl 0 0 l.length 3,iv (a:Int),iv (b:Int),iv (n:Int),iv (i:Int)] [IA l]=some (.tup [iv 0,.sl 0 0 l.length 3],[.set (IA r)])
   ∧ r.length=l.length/\r.Perm l/\SwR l0 r a b n:=by
 intro m
 induction m with
 |zero=>
  intro i l hm hi ha hb hl h0 hs;obtain rfl:i=n:=by omega
  refine⟨l,?_,rfl,List.Perm.refl _,hs⟩;refine K.lp' TH _ rfl (by kernel_rfl) ((Aby ..).trans ?_);exact Ak (by omega) rfl
 |succ m ih=>
  intro i l hm hi ha hb hl h0 hs;have hI:a+i<l.length:=by omega
  have hJ:b+i<l.length:=by omega
  have hlen:=JI l (a+i) (b+i);obtain⟨r,g,hr,hp,ho⟩:=ih (i+1) (DA l (a+i) (b+i)) (by omega) (by omega) ha (by omega) (by omega) (by omega) (Aec (by omega) (by omega) hs h0);rw[hlen]at g hr;refine⟨r,?_,hr,hp.trans (Ij _ _ _),ho⟩;refine K.lp' TH _ rfl (by kernel_rfl) ((Aby ..).trans ?_);refine Al (by omega) ?_;rw[KZ (a:=b) (b:=i) (by omega),KZ (a:=a) (b:=i) (by omega),Bo (by omega)];rw[Ax,AS hJ];refine Ad ?_;refine(Bn Av l (b+i) hJ _).trans ?_;simp only[eP,eN,ND,DK,Aa];rw[Ax,AS hI];refine Ad ?_;refine(Bn Av l (a+i) hI _).trans ?_;simp only[eP,eN,ND,DK,Aa];have s1:=Dc Av l (a+i) hI l[(b+i)];have s2:=Dc Av (l.set (a+i) l[(b+i)]) (b+i) (by rw[ArM];exact hJ) l[(a+i)];rw[←En hI hJ]at s2;simp only[eP,eN]at s1 s2;rw[Ax,AS hI];refine Ad ?_;rw[show Arm (0+(a+i)*3+3) (Ao eP l).length=true by rw[BD Av];simp;omega];refine Ad ?_;rw[Ax,AS hJ];refine Ad ?_;rw[s1,s2];rw[show Arm (0+(b+i)*3+3) (Ao eP (l.set (a+i) l[(b+i)])).length=true by rw[BD Av,ArM];simp;omega];refine Ad ?_;refine Ab g ?_;rfl
theorem WR{a b n:Nat}{l:List Pt}(ha:a+n<=b)(hb:b+n<=l.length)(hl:l.length<=1000000000) :
  ∃ r:List Pt,D.ask (.fn 273) [.sl 0 0 l.length 3,iv (a:Int),iv (b:Int),iv (n:Int),Gq] [IA l]=some (.tup [],[.set (IA r)])
   ∧ r.length=l.length/\r.Perm l/\SwR l r a b n:=by
 obtain⟨r,g,h⟩:=AlG K a b n l _ 0 l rfl (by omega) ha hb hl rfl (Aed l a b);refine⟨r,?_,h⟩;refine K.fn' TH _ rfl ((ApN ..).trans ?_);refine Ab g ?_;rfl
theorem Aly(m:Nat):∀(s i j:Nat) (l:List Pt),i+j=s->0<i->0<j->i<=m->m+j<=l.length->l.length<=1000000000->
  ∃(r:List Pt) (d:Nat),D.ask (.lp 260 0) [.sl 0 0 l.length 3,iv (m:Int),Gq,iv (i:Int),iv (j:Int)] [IA l]=some (.tup [iv 0,.sl 0 0 l.length 3,iv (m:Int),Gq,iv (d:Int)],[.set (IA r)])
   ∧ r.length=l.length/\r.Perm l/\d<=m/\m+d<=l.length/\∀ r2:List Pt,SwR r r2 (m-d) m d->Rot l r2 (m-i) m (m+j):=by
 intro s
 induction s using Ast with
 |_ s ih=>
  intro i j l hs hi hj him hl hn
  by_cases he:i=j
  .subst he
   refine⟨l,i,?_,rfl,List.Perm.refl _,him,hl,λr2 h=>AdQ him h⟩;refine K.lp' QB _ rfl (by kernel_rfl) ((VJ ..).trans ?_);exact As rfl rfl
  by_cases hlt:j<i
  .obtain⟨r,g,hr,hp,hsw⟩:=WR K (a:=m-i) (b:=m) (n:=j) (l:=l) (by omega) hl hn
   obtain⟨r2,d,g2,hr2,hp2,hd1,hd2,hd3⟩:=ih (i-j+j) (by omega) (i-j) j r rfl (by omega) hj (by omega) (by omega) (by omega);rw[hr]at g2 hr2 hd2;refine⟨r2,d,?_,hr2,hp2.trans hp,hd1,hd2,λr3 h=>AdO him hlt hsw (hd3 r3 h)⟩;refine K.lp' QB _ rfl (by kernel_rfl) ((VJ ..).trans ?_);refine Ap (by omega) ?_;refine Al (by omega) ?_;rw[CG him (by omega),CG (a:=i) (b:=j) (by omega) (by omega)];refine Ab g ?_;simp only[Gq,ND,DK,Aa];refine Ab g2 ?_;rfl
  .obtain⟨r,g,hr,hp,hsw⟩:=WR K (a:=m-i) (b:=m+j-i) (n:=i) (l:=l) (by omega) (by omega) hn
   obtain⟨r2,d,g2,hr2,hp2,hd1,hd2,hd3⟩:=ih (i+(j-i)) (by omega) i (j-i) r rfl hi (by omega) him (by omega) (by omega);rw[hr]at g2 hr2 hd2;refine⟨r2,d,?_,hr2,hp2.trans hp,hd1,hd2,λr3 h=>ZW him (by omega) hsw (hd3 r3 h)⟩;refine K.lp' QB _ rfl (by kernel_rfl) ((VJ ..).trans ?_);refine Ap (by omega) ?_;refine Ak (by omega) ?_;rw[CG him (by omega),KZ (a:=m) (b:=j) (by omega),CG (a:=m+j) (b:=i) (by omega) (by omega),CG (a:=j) (b:=i) (by omega) (by omega)];refine Ab g ?_;simp only[Gq,ND,DK,Aa];refine Ab g2 ?_;rfl
theorem AdP{a m b:Nat}{l:List Pt}(ha:a<m)(hm:m<b)(hb:b<=l.length)(hl:l.length<=1000000000) :
  ∃ r:List Pt,D.ask (.fn 260) [.sl 0 0 l.length 3,iv (a:Int),iv (m:Int),iv (b:Int),Gq] [IA l]=some (.tup [],[.set (IA r)])
   ∧ r.length=l.length/\r.Perm l/\Rot l r a m b:=by
 obtain⟨r,d,g,hr,hp,hd1,hd2,hd3⟩:=Aly K m _ (m-a) (b-m) l rfl (by omega) (by omega) (by omega) (by omega) hl;obtain⟨r2,g2,hr2,hp2,hsw⟩:=WR K (a:=m-d) (b:=m) (n:=d) (l:=r) (by omega) (by omega) (by omega);have h:=hd3 r2 hsw;rw[show m-(m-a)=a by omega,show m+(b-m)=b by omega]at h;rw[hr]at g2;refine⟨r2,?_,by omega,hp2.trans hp,h⟩;refine K.fn' QB _ rfl ((ApG ..).trans ?_);rw[CG (a:=m) (b:=a) (by omega) (by omega),CG (a:=b) (b:=m) (by omega) (by omega)];refine Ab g ?_;simp only[Gq,ND,DK,Aa];rw[CG hd1 (by omega)];refine Ab g2 ?_;rfl
theorem Ag0(a m b:Nat)(l:List Pt)(hl:l.length<=1000000000)(ha:a<m)(hb:b<=l.length)(hs:Srt Pt.v l m b):∀(k i j:Nat),j-i=k->m<=i->i<=j->j<=b->(∀ p,m<=p->p<i->kf Pt.v l p<kf Pt.v l a)->(∀ p,j<=p->p<b->kf Pt.v l a<=kf Pt.v l p)->
  ∃ x:Nat,D.ask (.lp 243 0) [.sl 0 0 l.length 3,iv (a:Int),Gq,iv (i:Int),iv (j:Int)] [IA l]=some (.tup [iv 0,.sl 0 0 l.length 3,iv (a:Int),iv (x:Int)],[.set (IA l)])
   ∧ m<=x/\x<=b/\(∀ p,m<=p->p<x->kf Pt.v l p<kf Pt.v l a)/\(∀ p,x<=p->p<b->kf Pt.v l a<=kf Pt.v l p):=by
 intro k
 induction k using Ast with
 |_ k ih=>
  intro i j hk hmi hij hjb h1 h2
  by_cases he:i<j
  .have hH:(i+j) / 2<l.length:=by omega
   have hA:a<l.length:=by omega
   have kh:kf Pt.v l ((i+j) / 2)=l[(i+j) / 2].v:=GK Pt.v hH;have ka:kf Pt.v l a=l[a].v:=GK Pt.v hA
   by_cases hlt:l[(i+j) / 2].v<l[a].v
   .obtain⟨x,g,hx⟩:=ih (j-((i+j) / 2+1)) (by omega) ((i+j) / 2+1) j rfl (by omega) (by omega) hjb (λp p1 p2=>by
     by_cases hp:p=(i+j) / 2
     .rw[hp,kh,ka];exact hlt
     .have:=hs p ((i+j) / 2) p1 (by omega) (by omega)
      omega) h2
    refine⟨x,?_,hx⟩;refine K.lp' CY _ rfl (by kernel_rfl) ((VG ..).trans ?_);refine Al (by omega) ?_;refine Ak (by decide) ?_;rw[DX (by omega),Bo (by omega)];rw[Ax,AS hH];refine Ad ?_;refine(Bn Av l ((i+j) / 2) hH _).trans ?_;simp only[eP,eN,ND,DK,Aa];rw[Ax,AS hA];refine Ad ?_;refine(Bn Av l a hA _).trans ?_;simp only[eP,eN,ND,DK,Aa];refine Ab (IL K l[(i+j) / 2] l[a]) ?_;simp only[ND,DK,Aa];refine Al (Gk.2 hlt) ?_;refine Ab g ?_;rfl
   .obtain⟨x,g,hx⟩:=ih ((i+j) / 2-i) (by omega) i ((i+j) / 2) rfl hmi (by omega) (by omega) h1 (λp p1 p2=>by
     by_cases hp:p=(i+j) / 2
     .rw[hp];omega
     .have:=hs ((i+j) / 2) p (by omega) (by omega) (by omega)
      omega)
    refine⟨x,?_,hx⟩;refine K.lp' CY _ rfl (by kernel_rfl) ((VG ..).trans ?_);refine Al (by omega) ?_;refine Ak (by decide) ?_;rw[DX (by omega)];rw[Ax,AS hH];refine Ad ?_;refine(Bn Av l ((i+j) / 2) hH _).trans ?_;simp only[eP,eN,ND,DK,Aa];rw[Ax,AS hA];refine Ad ?_;refine(Bn Av l a hA _).trans ?_;simp only[eP,eN,ND,DK,Aa];refine Ab (IL K l[(i+j) / 2] l[a]) ?_;simp only[ND,DK,Aa];refine Ak (λh=>hlt (Gk.1 h)) ?_;refine Ab g ?_;rfl
  .obtain rfl:i=j:=by omega
   refine⟨i,?_,hmi,hjb,h1,h2⟩;refine K.lp' CY _ rfl (by kernel_rfl) ((VG ..).trans ?_);exact Ak (by omega) rfl
theorem Ag1(a x:Nat)(l0:List Pt):∀(n k:Nat) (l:List Pt),x-1-k=n->a<=k->k<x->x<=l.length->l.length<=1000000000->l.length=l0.length->Rot l0 l a (a+1) (k+1)->
  ∃ r:List Pt,D.ask (.lp 243 1) [.sl 0 0 l.length 3,iv (x:Int),iv (k:Int)] [IA l]=some (.tup [iv 2,.sl 0 0 l.length 3],[.set (IA r)])
   ∧ r.length=l.length/\r.Perm l/\Rot l0 r a (a+1) x:=by
 intro n
 induction n with
 |zero=>
  intro k l hn ha hk hx hl h0 ht;obtain rfl:x=k+1:=by omega
  refine⟨l,?_,rfl,List.Perm.refl _,ht⟩;refine K.lp' CY _ rfl (by kernel_rfl) ((Abr ..).trans ?_);rw[Jh (by omega) (by omega)];exact Ak (by omega) rfl
 |succ n ih=>
  intro k l hn ha hk hx hl h0 ht;have hI:k<l.length:=by omega
  have hJ:k+1<l.length:=by omega
  have hlen:=JI l k (k+1);obtain⟨r,g,hr,hp,ho⟩:=ih (k+1) (DA l k (k+1)) (by omega) (by omega) (by omega) (by omega) (by omega) (by omega) (Alz ha (by omega) h0 ht);rw[hlen]at g hr;refine⟨r,?_,hr,hp.trans (Ij _ _ _),ho⟩;refine K.lp' CY _ rfl (by kernel_rfl) ((Abr ..).trans ?_);rw[Jh (by omega) (by omega)];refine Al (by omega) ?_;rw[Bo (by omega)];rw[Ax,AS hJ];refine Ad ?_;refine(Bn Av l (k+1) hJ _).trans ?_;simp only[eP,eN,ND,DK,Aa];rw[Ax,AS hI];refine Ad ?_;refine(Bn Av l k hI _).trans ?_;simp only[eP,eN,ND,DK,Aa];have s1:=Dc Av l k hI l[(k+1)];have s2:=Dc Av (l.set k l[(k+1)]) (k+1) (by rw[ArM];exact hJ) l[k];rw[←En hI hJ]at s2;simp only[eP,eN]at s1 s2;rw[Ax,AS hI];refine Ad ?_;rw[show Arm (0+k*3+3) (Ao eP l).length=true by rw[BD Av];simp;omega];refine Ad ?_;rw[Ax,AS hJ];refine Ad ?_;rw[s1,s2];rw[show Arm (0+(k+1)*3+3) (Ao eP (l.set k l[(k+1)])).length=true by rw[BD Av,ArM];simp;omega];refine Ad ?_;refine Ab g ?_;rfl
theorem Ag2(a m:Nat)(l:List Pt)(hl:l.length<=1000000000)(hb:m<l.length)(hs:Srt Pt.v l a m):∀(k i j:Nat),j-i=k->a<=i->i<=j->j<=m->(∀ p,a<=p->p<i->kf Pt.v l p<=kf Pt.v l m)->(∀ p,j<=p->p<m->kf Pt.v l m<kf Pt.v l p)->
  ∃ x:Nat,D.ask (.lp 243 2) [.sl 0 0 l.length 3,iv (m:Int),Gq,iv (i:Int),iv (j:Int)] [IA l]=some (.tup [iv 4,.sl 0 0 l.length 3,iv (m:Int),iv (x:Int)],[.set (IA l)])
   ∧ a<=x/\x<=m/\(∀ p,a<=p->p<x->kf Pt.v l p<=kf Pt.v l m)/\(∀ p,x<=p->p<m->kf Pt.v l m<kf Pt.v l p):=by
 intro k
 induction k using Ast with
 |_ k ih=>
  intro i j hk hmi hij hjb h1 h2
  by_cases he:i<j
  .have hH:(i+j) / 2<l.length:=by omega
   have kh:kf Pt.v l ((i+j) / 2)=l[(i+j) / 2].v:=GK Pt.v hH;have ka:kf Pt.v l m=l[m].v:=GK Pt.v hb
   by_cases hlt:l[m].v<l[(i+j) / 2].v
   .obtain⟨x,g,hx⟩:=ih ((i+j) / 2-i) (by omega) i ((i+j) / 2) rfl hmi (by omega) (by omega) h1 (λp p1 p2=>by
     by_cases hp:p=(i+j) / 2
     .rw[hp];omega
     .have:=hs ((i+j) / 2) p (by omega) (by omega) (by omega)
      omega)
    refine⟨x,?_,hx⟩;refine K.lp' CY _ rfl (by kernel_rfl) ((VH ..).trans ?_);refine Al (by omega) ?_;refine Ak (by decide) ?_;rw[DX (by omega)];rw[Ax,AS hb];refine Ad ?_;refine(Bn Av l m hb _).trans ?_;simp only[eP,eN,ND,DK,Aa];rw[Ax,AS hH];refine Ad ?_;refine(Bn Av l ((i+j) / 2) hH _).trans ?_;simp only[eP,eN,ND,DK,Aa];refine Ab (IL K l[m] l[(i+j) / 2]) ?_;simp only[ND,DK,Aa];refine Al (Gk.2 hlt) ?_;refine Ab g ?_;rfl
   .obtain⟨x,g,hx⟩:=ih (j-((i+j) / 2+1)) (by omega) ((i+j) / 2+1) j rfl (by omega) (by omega) hjb (λp p1 p2=>by
     by_cases hp:p=(i+j) / 2
     .rw[hp];omega
     .have:=hs p ((i+j) / 2) p1 (by omega) (by omega)
      omega) h2
    refine⟨x,?_,hx⟩;refine K.lp' CY _ rfl (by kernel_rfl) ((VH ..).trans ?_);refine Al (by omega) ?_;refine Ak (by decide) ?_;rw[DX (by omega),Bo (by omega)];rw[Ax,AS hb];refine Ad ?_;refine(Bn Av l m hb _).trans ?_;simp only[eP,eN,ND,DK,Aa];rw[Ax,AS hH];refine Ad ?_;refine(Bn Av l ((i+j) / 2) hH _).trans ?_;simp only[eP,eN,ND,DK,Aa];refine Ab (IL K l[m] l[(i+j) / 2]) ?_;simp only[ND,DK,Aa];refine Ak (λh=>hlt (Gk.1 h)) ?_;refine Ab g ?_;rfl
  .obtain rfl:i=j:=by omega
   refine⟨i,?_,hmi,hjb,h1,h2⟩;refine K.lp' CY _ rfl (by kernel_rfl) ((VH ..).trans ?_);exact Ak (by omega) rfl
theorem Ag3(m x:Nat)(l0:List Pt):∀(n k:Nat) (l:List Pt),k-x=n->x<=k->k<=m->m<l.length->l.length<=1000000000->l.length=l0.length->Rot l0 l k m (m+1)->
  ∃ r:List Pt,D.ask (.lp 243 3) [.sl 0 0 l.length 3,iv (x:Int),iv (k:Int)] [IA l]=some (.tup [iv 6,.sl 0 0 l.length 3],[.set (IA r)])
   ∧ r.length=l.length/\r.Perm l/\Rot l0 r x m (m+1):=by
 intro n
 induction n with
 |zero=>
  intro k l hn hx hk hm hl h0 ht;obtain rfl:x=k:=by omega
  refine⟨l,?_,rfl,List.Perm.refl _,ht⟩;refine K.lp' CY _ rfl (by kernel_rfl) ((Abs ..).trans ?_);exact Ak (by omega) rfl
 |succ n ih=>
  intro k l hn hx hk hm hl h0 ht;obtain⟨j,rfl⟩:∃ j,k=j+1:=⟨k-1,by omega⟩;have hI:j+1<l.length:=by omega
  have hJ:j<l.length:=by omega
  have hlen:=JI l (j+1) j;obtain⟨r,g,hr,hp,ho⟩:=ih j (DA l (j+1) j) (by omega) (by omega) (by omega) (by omega) (by omega) (by omega) (AdN (by omega) (by omega) h0 ht);rw[hlen]at g hr;refine⟨r,?_,hr,hp.trans (Ij _ _ _),ho⟩;refine K.lp' CY _ rfl (by kernel_rfl) ((Abs ..).trans ?_);refine Al (by omega) ?_;rw[US (by omega)];rw[Ax,AS hJ];refine Ad ?_;refine(Bn Av l j hJ _).trans ?_;simp only[eP,eN,ND,DK,Aa];rw[Ax,AS hI];refine Ad ?_;refine(Bn Av l (j+1) hI _).trans ?_;simp only[eP,eN,ND,DK,Aa];have s1:=Dc Av l (j+1) hI l[j];have s2:=Dc Av (l.set (j+1) l[j]) j (by rw[ArM];exact hJ) l[(j+1)];rw[←En hI hJ]at s2;simp only[eP,eN]at s1 s2;rw[Ax,AS hI];refine Ad ?_;rw[show Arm (0+(j+1)*3+3) (Ao eP l).length=true by rw[BD Av];simp;omega];refine Ad ?_;rw[Ax,AS hJ];refine Ad ?_;rw[s1,s2];rw[show Arm (0+j*3+3) (Ao eP (l.set (j+1) l[j])).length=true by rw[BD Av,ArM];simp;omega];refine Ad ?_;refine Ab g ?_;rfl
theorem Yo(a m b mid x y:Nat)(l:List Pt)(hl:l.length<=1000000000)(hb:b<=l.length)(hs1:Srt Pt.v l a m)(hs2:Srt Pt.v l m b)(hx:a<=x)(hy:y<=m)(hn:mid+m<=x+b)(hm:y<=mid)(hmid:mid<=b)(hmb:m<=b):∀(k s r:Nat),r-s=k->Bs Pt.v l (mid+m) x y s r->
  ∃ z:Nat,D.ask (.lp 243 4) [.sl 0 0 l.length 3,iv (a:Int),iv (m:Int),iv (b:Int),Gq,iv (mid:Int),iv ((mid+m:Nat):Int),iv (s:Int),iv (r:Int),iv ((mid+m-1:Nat):Int)] [IA l]=some (.tup [iv 8,.sl 0 0 l.length 3,iv (a:Int),iv (m:Int),iv (b:Int),Gq,iv (mid:Int),iv ((mid+m:Nat):Int),iv (z:Int)],[.set (IA l)])
   ∧ Bs Pt.v l (mid+m) x y z z:=by
 intro k
 induction k using Ast with
 |_ k ih=>
  intro s r hk B;have:=B.xs;have:=B.sr;have:=B.ry
  by_cases he:s<r
  .have hH:(s+r) / 2<l.length:=by omega
   have hP:mid+m-1-(s+r) / 2<l.length:=by omega
   have kh:kf Pt.v l ((s+r) / 2)=l[(s+r) / 2].v:=GK Pt.v hH;have kp:kf Pt.v l (mid+m-1-(s+r) / 2)=l[mid+m-1-(s+r) / 2].v:=GK Pt.v hP
   by_cases hlt:l[mid+m-1-(s+r) / 2].v<l[(s+r) / 2].v
   .obtain⟨z,g,hz⟩:=ih ((s+r) / 2-s) (by omega) s ((s+r) / 2) rfl (B.dn Pt.v hs1 hs2 hx hy (by omega) (by omega) (by omega) (by omega) (by omega))
    refine⟨z,?_,hz⟩;refine K.lp' CY _ rfl (by kernel_rfl) ((VI ..).trans ?_);refine Al (by omega) ?_;refine Ak (by decide) ?_;rw[DX (by omega),CG (a:=mid+m-1) (b:=(s+r) / 2) (by omega) (by omega)];rw[Ax,AS hP];refine Ad ?_;refine(Bn Av l (mid+m-1-(s+r) / 2) hP _).trans ?_;simp only[eP,eN,ND,DK,Aa];rw[Ax,AS hH];refine Ad ?_;refine(Bn Av l ((s+r) / 2) hH _).trans ?_;simp only[eP,eN,ND,DK,Aa];refine Ab (IL K l[mid+m-1-(s+r) / 2] l[(s+r) / 2]) ?_;simp only[ND,DK,Aa];refine Al (Gk.2 hlt) ?_;refine Ab g ?_;rfl
   .obtain⟨z,g,hz⟩:=ih (r-((s+r) / 2+1)) (by omega) ((s+r) / 2+1) r rfl (B.up Pt.v hs1 hs2 hx hy (by omega) (by omega) (by omega) (by omega) (by omega))
    refine⟨z,?_,hz⟩;refine K.lp' CY _ rfl (by kernel_rfl) ((VI ..).trans ?_);refine Al (by omega) ?_;refine Ak (by decide) ?_;rw[DX (by omega),CG (a:=mid+m-1) (b:=(s+r) / 2) (by omega) (by omega),Bo (by omega)];rw[Ax,AS hP];refine Ad ?_;refine(Bn Av l (mid+m-1-(s+r) / 2) hP _).trans ?_;simp only[eP,eN,ND,DK,Aa];rw[Ax,AS hH];refine Ad ?_;refine(Bn Av l ((s+r) / 2) hH _).trans ?_;simp only[eP,eN,ND,DK,Aa];refine Ab (IL K l[mid+m-1-(s+r) / 2] l[(s+r) / 2]) ?_;simp only[ND,DK,Aa];refine Ak (λh=>hlt (Gk.1 h)) ?_;refine Ab g ?_;rfl
  .obtain rfl:s=r:=by omega
   refine⟨s,?_,B⟩;refine K.lp' CY _ rfl (by kernel_rfl) ((VI ..).trans ?_);exact Ak (by omega) rfl
end
def tl2(D:Orc)(n:Nat)(mid e b:Int)(cs:List AV):KR:=
 br (Ah.lt mid e)
  (br (Ah.lt e b)
   (AD D (.fn 243) [.sl 0 0 n 3,iv mid,iv e,iv b,Gq] [U cs true true] λr o=>
   Iz r λcs4=>
   Dg cs4<|
   DW o λc l=>
   Ex true true c λcs5=>
   C8 l<|
   some ((φ [],[ζ (U cs5 true true)])))
   (some ((φ [],[ζ (U cs true true)]))))
  (some ((φ [],[ζ (U cs true true)])))
def tl1(D:Orc)(n:Nat)(a s mid e b:Int)(cs:List AV):KR:=
 br (Ah.lt a s)
  (br (Ah.lt s mid)
   (AD D (.fn 243) [.sl 0 0 n 3,iv a,iv s,iv mid,Gq] [U cs true true] λr o=>
   Iz r λcs4=>
   Dg cs4<|
   DW o λc l=>
   Ex true true c λcs5=>
   C8 l<|
   tl2 D n mid e b cs5)
   (tl2 D n mid e b cs))
  (tl2 D n mid e b cs)
section
variable {D:Orc}
def NT(D:Orc)(N:Nat):Prop:=∀(l:List Pt) (a m b:Nat),b-a<N->a<m->m<b->b<=l.length->l.length<=1000000000->Srt Pt.v l a m->Srt Pt.v l m b->
 ∃ r:List Pt,D.ask (.fn 243) [.sl 0 0 l.length 3,iv (a:Int),iv (m:Int),iv (b:Int),Gq] [IA l]=some (.tup [],[.set (IA r)])
  ∧ r.length=l.length/\r.Perm l/\Srt Pt.v r a b/\Same0 l r a b
theorem AlK{N:Nat}(ih:NT D N){l:List Pt}{mid e b:Nat}(hN:b-mid<N)(h1:mid<=e)(h2:e<=b)(hb:b<=l.length)(hl:l.length<=1000000000)(s1:Srt Pt.v l mid e)(s2:Srt Pt.v l e b) :
  ∃ r:List Pt,tl2 D l.length (mid:Int) (e:Int) (b:Int) (Ao eP l)=some (.tup [],[.set (IA r)])/\r.length=l.length/\r.Perm l/\Srt Pt.v r mid b/\Same0 l r mid b:=by
 by_cases q1:mid<e
 .by_cases q2:e<b
  .obtain⟨r,g,hr,hp,ho,hs⟩:=ih l mid e b hN q1 q2 hb hl s1 s2
   refine⟨r,?_,hr,hp,ho,hs⟩;unfold tl2;refine Al (by omega) ?_;refine Al (by omega) ?_;refine Ab g ?_;rfl
  .refine⟨l,?_,rfl,List.Perm.refl _,Mc Pt.v (.inr (by omega)) s1 s2,Dz _ _ _⟩
   unfold tl2;refine Al (by omega) ?_;exact Ak (by omega) rfl
 .refine⟨l,?_,rfl,List.Perm.refl _,Mc Pt.v (.inl (by omega)) s1 s2,Dz _ _ _⟩
  unfold tl2;exact Ak (by omega) rfl
theorem M3{N:Nat}(ih:NT D N){l:List Pt}{a s mid e b:Nat}(hN:mid-a<N)(hN2:b-mid<N)(h1:a<=s)(h2:s<=mid)(h3:mid<=e)(h4:e<=b)(hb:b<=l.length)(hl:l.length<=1000000000)(s1:Srt Pt.v l a s)(s2:Srt Pt.v l s mid)(s3:Srt Pt.v l mid e)(s4:Srt Pt.v l e b)(lo:Low Pt.v l a mid b) :
  ∃ r:List Pt,tl1 D l.length (a:Int) (s:Int) (mid:Int) (e:Int) (b:Int) (Ao eP l)=some (.tup [],[.set (IA r)])/\r.length=l.length/\r.Perm l/\Srt Pt.v r a b/\Same0 l r a b:=by
 have fin:∀{l1:List Pt},l1.length=l.length->l1.Perm l->Srt Pt.v l1 a mid->Same0 l l1 a mid->∃ r:List Pt,tl2 D l.length (mid:Int) (e:Int) (b:Int) (Ao eP l1)=some (.tup [],[.set (IA r)])/\r.length=l.length/\r.Perm l/\Srt Pt.v r a b/\Same0 l r a b:=by
  intro l1 k1 k2 k3 k4;have lo1:=AcO Pt.v lo k2 k4 (by omega);obtain⟨r,g,hr,hp,ho,hs⟩:=AlK ih (l:=l1) (mid:=mid) (e:=e) (b:=b) hN2 h3 h4 (by omega) (by omega) (s3.same' Pt.v k4 (.inr (ω _))) (s4.same' Pt.v k4 (.inr h3));rw[k1]at g hr;exact⟨r,g,hr,hp.trans k2,AgT Pt.v (k3.same' Pt.v hs (.inl (ω _))) ho (Zq Pt.v lo1 hp hs (by omega)),(k4.wide (ω _) (by omega)).trans (hs.wide (by omega) (ω _))⟩
 by_cases q1:a<s
 .by_cases q2:s<mid
  .obtain⟨r,g,hr,hp,ho,hs⟩:=ih l a s mid hN q1 q2 (by omega) hl s1 s2
   obtain⟨r2,g2,h⟩:=fin hr hp ho hs;refine⟨r2,?_,h⟩;unfold tl1;refine Al (by omega) ?_;refine Al (by omega) ?_;refine Ab g ?_;exact g2
  .obtain⟨r2,g2,h⟩:=fin (l1:=l) rfl (List.Perm.refl _) (Mc Pt.v (.inr (by omega)) s1 s2) (Dz _ _ _)
   refine⟨r2,?_,h⟩;unfold tl1;refine Al (by omega) ?_;exact(Vp (by omega)).trans g2
 .obtain⟨r2,g2,h⟩:=fin (l1:=l) rfl (List.Perm.refl _) (Mc Pt.v (.inl (by omega)) s1 s2) (Dz _ _ _)
  refine⟨r2,?_,h⟩;unfold tl1;exact(Vp (by omega)).trans g2
variable (K:Knows Ag Ga D)
include K
theorem AgZ:∀ N,NT D N:=by
 intro N
 induction N with
 |zero=>intro l a m b h;omega
 |succ N ih0=>
  intro l a m b hN ha hm hb hl hs1 hs2
  by_cases hA:m-a=1
  .obtain rfl:m=a+1:=by omega
   obtain⟨x,g1,x1,x2,x3,x4⟩:=Ag0 K a (a+1) b l hl (by omega) hb hs2 _ (a+1) b rfl (ω _) (by omega) (ω _) (λp p1 p2=>by omega) (λp p1 p2=>by omega);obtain⟨r,g2,r1,r2,r3⟩:=Ag1 K a x l _ a l rfl (ω _) (by omega) (by omega) hl rfl (Hb (.inr rfl) (by omega) (by omega));refine⟨r,?_,r1,r2,Uh Pt.v x1 x2 hs2 x3 x4 r3,λp hp=>r3.out p (by omega)⟩;refine K.fn' CY _ rfl ((Tb ..).trans ?_);rw[CG (a:=a+1) (b:=a) (by omega) (by omega)];refine As (by omega) ?_;refine Ab g1 ?_;simp only[Gq,ND,DK,Aa];refine Ab g2 ?_;rfl
  by_cases hB:b-m=1
  .obtain rfl:b=m+1:=by omega
   obtain⟨x,g1,x1,x2,x3,x4⟩:=Ag2 K a m l hl (by omega) hs1 _ a m rfl (ω _) (by omega) (ω _) (λp p1 p2=>by omega) (λp p1 p2=>by omega);obtain⟨r,g2,r1,r2,r3⟩:=Ag3 K m x l _ m l rfl x2 (ω _) (by omega) hl rfl (Hb (.inl rfl) (by omega) (by omega));refine⟨r,?_,r1,r2,Wo Pt.v x1 x2 hs1 x3 x4 r3,λp hp=>r3.out p (by omega)⟩;refine K.fn' CY _ rfl ((Tb ..).trans ?_);rw[CG (a:=m) (b:=a) (by omega) (by omega)];refine Ap (by omega) ?_;rw[CG (a:=m+1) (b:=m) (by omega) (by omega)];refine As (by omega) ?_;refine Ab g1 ?_;simp only[Gq,ND,DK,Aa];refine Ad ?_;refine Ab g2 ?_;rfl
  have ih:NT D N:=ih0
  by_cases hC:(a+b) / 2<m
  .obtain⟨z,g4,B⟩:=Yo K a m b ((a+b) / 2) ((a+b) / 2+m-b) ((a+b) / 2) l hl hb hs1 hs2 (by omega) (by omega) (by omega) (by omega) (by omega) (by omega) _ ((a+b) / 2+m-b) ((a+b) / 2) rfl ⟨ω _,by omega,ω _,λc c1 c2=>by omega,λc c1 c2=>by omega⟩
   have C:=B.cut Pt.v hs1 hs2 (by omega) (by omega) (by omega) (by omega) (.inr (by omega)) (.inr rfl);have:=C.asl;have:=C.sm;have:=C.me;have:=C.eb;have:=C.mid;have:=B.ry;have:=B.xs;have e0:Ah.sub .i64 (((a+b) / 2+m:Nat):Int) (z:Int)=(((a+b) / 2+m-z:Nat):Int):=CG (by omega) (by omega)
   by_cases w1:z<m
   .by_cases w2:m<(a+b) / 2+m-z
    .obtain⟨l1,g5,k1,k2,k3⟩:=AdP K w1 w2 (by omega) hl
     obtain⟨f1,f2,f3,f4,f5⟩:=FC Pt.v C hs1 hs2 k3;obtain⟨r,g6,r1,r2,r3,r4⟩:=M3 ih (l:=l1) (a:=a) (s:=z) (mid:=(a+b) / 2) (e:=(a+b) / 2+m-z) (b:=b) (by omega) (by omega) (by omega) (by omega) (by omega) (by omega) (by omega) (by omega) f1 f2 f3 f4 f5;have sm:Same0 l l1 a b:=λp hp=>k3.out p (by omega)
     rw[k1]at g6 r1;refine⟨r,?_,r1,r2.trans k2,r3,sm.trans r4⟩;refine K.fn' CY _ rfl ((Tb ..).trans ?_);rw[CG (a:=m) (b:=a) (by omega) (by omega)];refine Ap (by omega) ?_;rw[CG (a:=b) (b:=m) (by omega) (by omega)];refine Ap (by omega) ?_;refine Ak (by decide) ?_;rw[DX (a:=a) (b:=b) (by omega)];rw[KZ (a:=(a+b) / 2) (b:=m) (by omega),Jh (a:=(a+b) / 2+m) (by omega) (by omega)];rw[CG (a:=(a+b) / 2+m) (b:=b) (by omega) (by omega)];refine Al (by omega) ?_;refine Ab g4 ?_;simp only[Gq,ND,DK,Aa];refine Ad ?_;rw[e0];refine Al (by omega) ?_;refine Al (by omega) ?_;refine Ab g5 ?_;exact g6
    .obtain⟨f1,f2,f3,f4,f5⟩:=FC Pt.v C hs1 hs2 (Hb (l:=l) (.inr (by omega)) (by omega) (by omega))
     obtain⟨r,g6,r1,r2,r3,r4⟩:=M3 ih (l:=l) (a:=a) (s:=z) (mid:=(a+b) / 2) (e:=(a+b) / 2+m-z) (b:=b) (by omega) (by omega) (by omega) (by omega) (by omega) (by omega) (by omega) (by omega) f1 f2 f3 f4 f5;refine⟨r,?_,r1,r2,r3,r4⟩;refine K.fn' CY _ rfl ((Tb ..).trans ?_);rw[CG (a:=m) (b:=a) (by omega) (by omega)];refine Ap (by omega) ?_;rw[CG (a:=b) (b:=m) (by omega) (by omega)];refine Ap (by omega) ?_;refine Ak (by decide) ?_;rw[DX (a:=a) (b:=b) (by omega)];rw[KZ (a:=(a+b) / 2) (b:=m) (by omega),Jh (a:=(a+b) / 2+m) (by omega) (by omega)];rw[CG (a:=(a+b) / 2+m) (b:=b) (by omega) (by omega)];refine Al (by omega) ?_;refine Ab g4 ?_;simp only[Gq,ND,DK,Aa];refine Ad ?_;rw[e0];refine Al (by omega) ?_;refine Ak (by omega) ?_;exact g6
   .obtain⟨f1,f2,f3,f4,f5⟩:=FC Pt.v C hs1 hs2 (Hb (l:=l) (.inl (by omega)) (by omega) (by omega))
    obtain⟨r,g6,r1,r2,r3,r4⟩:=M3 ih (l:=l) (a:=a) (s:=z) (mid:=(a+b) / 2) (e:=(a+b) / 2+m-z) (b:=b) (by omega) (by omega) (by omega) (by omega) (by omega) (by omega) (by omega) (by omega) f1 f2 f3 f4 f5;refine⟨r,?_,r1,r2,r3,r4⟩;refine K.fn' CY _ rfl ((Tb ..).trans ?_);rw[CG (a:=m) (b:=a) (by omega) (by omega)];refine Ap (by omega) ?_;rw[CG (a:=b) (b:=m) (by omega) (by omega)];refine Ap (by omega) ?_;refine Ak (by decide) ?_;rw[DX (a:=a) (b:=b) (by omega)];rw[KZ (a:=(a+b) / 2) (b:=m) (by omega),Jh (a:=(a+b) / 2+m) (by omega) (by omega)];rw[CG (a:=(a+b) / 2+m) (b:=b) (by omega) (by omega)];refine Al (by omega) ?_;refine Ab g4 ?_;simp only[Gq,ND,DK,Aa];refine Ad ?_;rw[e0];refine Ak (by omega) ?_;exact g6
  .obtain⟨z,g4,B⟩:=Yo K a m b ((a+b) / 2) a m l hl hb hs1 hs2 (by omega) (by omega) (by omega) (by omega) (by omega) (by omega) _ a m rfl ⟨ω _,by omega,ω _,λc c1 c2=>by omega,λc c1 c2=>by omega⟩
   have C:=B.cut Pt.v hs1 hs2 (by omega) (by omega) (by omega) (by omega) (.inl rfl) (.inl rfl);have:=C.asl;have:=C.sm;have:=C.me;have:=C.eb;have:=C.mid;have:=B.ry;have:=B.xs;have e0:Ah.sub .i64 (((a+b) / 2+m:Nat):Int) (z:Int)=(((a+b) / 2+m-z:Nat):Int):=CG (by omega) (by omega)
   by_cases w1:z<m
   .by_cases w2:m<(a+b) / 2+m-z
    .obtain⟨l1,g5,k1,k2,k3⟩:=AdP K w1 w2 (by omega) hl
     obtain⟨f1,f2,f3,f4,f5⟩:=FC Pt.v C hs1 hs2 k3;obtain⟨r,g6,r1,r2,r3,r4⟩:=M3 ih (l:=l1) (a:=a) (s:=z) (mid:=(a+b) / 2) (e:=(a+b) / 2+m-z) (b:=b) (by omega) (by omega) (by omega) (by omega) (by omega) (by omega) (by omega) (by omega) f1 f2 f3 f4 f5;have sm:Same0 l l1 a b:=λp hp=>k3.out p (by omega)
     rw[k1]at g6 r1;refine⟨r,?_,r1,r2.trans k2,r3,sm.trans r4⟩;refine K.fn' CY _ rfl ((Tb ..).trans ?_);rw[CG (a:=m) (b:=a) (by omega) (by omega)];refine Ap (by omega) ?_;rw[CG (a:=b) (b:=m) (by omega) (by omega)];refine Ap (by omega) ?_;refine Ak (by decide) ?_;rw[DX (a:=a) (b:=b) (by omega)];rw[KZ (a:=(a+b) / 2) (b:=m) (by omega),Jh (a:=(a+b) / 2+m) (by omega) (by omega)];refine Ak (by omega) ?_;refine Ab g4 ?_;simp only[Gq,ND,DK,Aa];refine Ad ?_;rw[e0];refine Al (by omega) ?_;refine Al (by omega) ?_;refine Ab g5 ?_;exact g6
    .obtain⟨f1,f2,f3,f4,f5⟩:=FC Pt.v C hs1 hs2 (Hb (l:=l) (.inr (by omega)) (by omega) (by omega))
     obtain⟨r,g6,r1,r2,r3,r4⟩:=M3 ih (l:=l) (a:=a) (s:=z) (mid:=(a+b) / 2) (e:=(a+b) / 2+m-z) (b:=b) (by omega) (by omega) (by omega) (by omega) (by omega) (by omega) (by omega) (by omega) f1 f2 f3 f4 f5;refine⟨r,?_,r1,r2,r3,r4⟩;refine K.fn' CY _ rfl ((Tb ..).trans ?_);rw[CG (a:=m) (b:=a) (by omega) (by omega)];refine Ap (by omega) ?_;rw[CG (a:=b) (b:=m) (by omega) (by omega)];refine Ap (by omega) ?_;refine Ak (by decide) ?_;rw[DX (a:=a) (b:=b) (by omega)];rw[KZ (a:=(a+b) / 2) (b:=m) (by omega),Jh (a:=(a+b) / 2+m) (by omega) (by omega)];refine Ak (by omega) ?_;refine Ab g4 ?_;simp only[Gq,ND,DK,Aa];refine Ad ?_;rw[e0];refine Al (by omega) ?_;refine Ak (by omega) ?_;exact g6
   .obtain⟨f1,f2,f3,f4,f5⟩:=FC Pt.v C hs1 hs2 (Hb (l:=l) (.inl (by omega)) (by omega) (by omega))
    obtain⟨r,g6,r1,r2,r3,r4⟩:=M3 ih (l:=l) (a:=a) (s:=z) (mid:=(a+b) / 2) (e:=(a+b) / 2+m-z) (b:=b) (by omega) (by omega) (by omega) (by omega) (by omega) (by omega) (by omega) (by omega) f1 f2 f3 f4 f5;refine⟨r,?_,r1,r2,r3,r4⟩;refine K.fn' CY _ rfl ((Tb ..).trans ?_);rw[CG (a:=m) (b:=a) (by omega) (by omega)];refine Ap (by omega) ?_;rw[CG (a:=b) (b:=m) (by omega) (by omega)];refine Ap (by omega) ?_;refine Ak (by decide) ?_;rw[DX (a:=a) (b:=b) (by omega)];rw[KZ (a:=(a+b) / 2) (b:=m) (by omega),Jh (a:=(a+b) / 2+m) (by omega) (by omega)];refine Ak (by omega) ?_;refine Ab g4 ?_;simp only[Gq,ND,DK,Aa];refine Ad ?_;rw[e0];refine Ak (by omega) ?_;exact g6
theorem ZC:Od D:=λl a m b h1 h2 h3 h4 h5 h6=>AgZ K (b-a+1) l a m b (by omega) h1 h2 h3 h4 h5 h6
theorem Ad4{l:List Pt}(hl:l.length<=1000000000) :
  ∃ r:List Pt,D.ask (.fn 152) [.sl 0 0 l.length 3,Gq] [IA l]=some (.tup [],[.set (IA r)])
   ∧ r.length=l.length/\r.Perm l/\Srt Pt.v r 0 r.length:=AgS K (ZC K) hl
end
def fnZ:AV:=.fn (.func 157) [] []
section
variable {D:Orc} (K:Knows Ag Ga D)
include K
theorem Ak1(P:Pt->Bool)(l:List Pt)(hl:l.length<=1000000000)(hP:∀ p∈l,D.ask (.fn 157) [.agg (eP p)] []=some (bv (P p),[])):∀(m i:Nat),l.length-i=m->i<=l.length->
  D.ask (.lp 208 0) [.sl 0 0 l.length 3,fnZ,iv (l.length:Int),iv (i:Int)] [U (Ao eP l) true true]
   = if i+(l.drop i).findIdx P<l.length then some (.tup [bv true,.sl 0 0 l.length 3,iv ((i+(l.drop i).findIdx P:Nat):Int)],[.set (U (Ao eP l) true true)]) else some (.tup [iv 0,.sl 0 0 l.length 3],[.set (U (Ao eP l) true true)]):=by
 intro m
 induction m with
 |zero=>
  intro i hm hi;rw[if_neg (by omega)];refine K.lp' OO _ rfl (by kernel_rfl) ((RY ..).trans ?_);exact Ak (by omega) rfl
 |succ m ih=>
  intro i hm hi;have h1:i<l.length:=by omega
  have g:=hP l[i] (Ars h1);have ih':=ih (i+1) (by omega) (by omega);rw[Arf h1,Aum]
  cases hp:P l[i]with
  |true=>
   rw[hp]at g;rw[if_pos (by simpa using h1)];refine K.lp' OO _ rfl (by kernel_rfl) ((RY ..).trans ?_);refine Al (by omega) ?_;rw[Ax,AS h1];refine Ad ?_;refine(Bn Av l i h1 _).trans ?_;simp only[eP,eN,ND,DK,Aa];refine Ab g ?_;simp only[ND,DK,Aa];rfl
  |false=>
   rw[hp]at g;rw[show (bif false then 0 else(l.drop (i+1)).findIdx P+1)=(l.drop (i+1)).findIdx P+1 from rfl,show i+((l.drop (i+1)).findIdx P+1)=i+1+(l.drop (i+1)).findIdx P by omega]
   by_cases h:i+1+(l.drop (i+1)).findIdx P<l.length
   .rw[if_pos h]at ih' ⊢
    refine K.lp' OO _ rfl (by kernel_rfl) ((RY ..).trans ?_);refine Al (by omega) ?_;rw[Ax,AS h1];refine Ad ?_;refine(Bn Av l i h1 _).trans ?_;simp only[eP,eN,ND,DK,Aa];refine Ab g ?_;simp only[ND,DK,Aa];rw[Bo (by omega)];refine Ab ih' ?_;rfl
   .rw[if_neg h]at ih' ⊢
    refine K.lp' OO _ rfl (by kernel_rfl) ((RY ..).trans ?_);refine Al (by omega) ?_;rw[Ax,AS h1];refine Ad ?_;refine(Bn Av l i h1 _).trans ?_;simp only[eP,eN,ND,DK,Aa];refine Ab g ?_;simp only[ND,DK,Aa];rw[Bo (by omega)];refine Ab ih' ?_;rfl
theorem Ak2(P:Pt->Bool)(l:List Pt)(hl:l.length<=1000000000)(hP:∀ p∈l,D.ask (.fn 157) [.agg (eP p)] []=some (bv (P p),[])) :
  D.ask (.fn 208) [.sl 0 0 l.length 3,fnZ] [U (Ao eP l) true true]
   = some (iv (if l.findIdx P<l.length then(l.findIdx P:Int) else -1),[.set (U (Ao eP l) true true)]):=by
 have g:=Ak1 K P l hl hP _ 0 rfl (by omega);rw[υ,Ary]at g;refine K.fn' OO _ rfl ((Apq ..).trans ?_)
 by_cases h:l.findIdx P<l.length
 .rw[if_pos h]at g ⊢
  refine Ab g ?_;rfl
 .rw[if_neg h]at g ⊢
  refine Ab g ?_;rfl
theorem AkH(P:Pt->Bool)(Q:Pt->Prop)(hP:∀ p,Q p->D.ask (.fn 157) [.agg (eP p)] []=some (bv (P p),[])):∀(m j i:Nat) (l:List Pt),l.length-j=m->i<=j->j<=l.length->l.length<=1000000000->(∀ p∈l.drop j,Q p)->
  ∃(r:List Pt) (c:Nat),D.ask (.lp 156 0) [.sl 0 0 l.length 3,fnZ,iv (i:Int),iv (j:Int)] [U (Ao eP l) true true]
   = some (.tup [iv 0,.sl 0 0 l.length 3,iv (c:Int)],[.set (U (Ao eP r) true true)])
   ∧ r.length=l.length/\c<=l.length/\r.take c=l.take i++(l.drop j).filter (λp=>!P p):=by
 intro m
 induction m with
 |zero=>
  intro j i l hm hi hj hl hq;refine⟨l,i,?_,rfl,by omega,?_⟩
  .refine K.lp' ON _ rfl (by kernel_rfl) ((VC ..).trans ?_)
   exact Ak (by omega) rfl
  .rw[Ark (by omega),List.filter_nil,Asa]
 |succ m ih=>
  intro j i l hm hi hj hl hq;have h1:j<l.length:=by omega
  have h0:i<l.length:=by omega
  have ed:=Arf h1;have g:=hP l[j] (hq _ (by rw[ed];exact Arv ..));rw[ed,Aus]
  cases hp:P l[j]with
  |true=>
   rw[hp]at g;obtain⟨r,c,g2,hr,hc,he⟩:=ih (j+1) i l (by omega) (by omega) (by omega) hl (λp h=>hq p (by rw[ed];exact Arw _ h));refine⟨r,c,?_,hr,hc,he⟩;refine K.lp' ON _ rfl (by kernel_rfl) ((VC ..).trans ?_);refine Al (by omega) ?_;rw[Ax,AS h1];refine Ad ?_;refine(Bn Av l j h1 _).trans ?_;simp only[eP,eN,ND,DK,Aa];refine Ab g ?_;simp only[ND,DK,Aa];rw[Bo (by omega)];refine Ab g2 ?_;rfl
  |false=>
   rw[hp]at g;have hd:(l.set i l[j]).drop (j+1)=l.drop (j+1):=List.drop_set_of_lt (by omega);obtain⟨r,c,g2,hr,hc,he⟩:=ih (j+1) (i+1) (l.set i l[j]) (by rw[ArM];omega) (by omega) (by rw[ArM];omega) (by rw[ArM];exact hl) (λp h=>hq p (by rw[ed];rw[hd]at h;exact Arw _ h));rw[ArM]at g2 hr hc;have s1:=Dc Av l i h0 l[j];simp only[eP,eN]at s1;refine⟨r,c,?_,hr,hc,?_⟩
   .skip
    refine K.lp' ON _ rfl (by kernel_rfl) ((VC ..).trans ?_);refine Al (by omega) ?_;rw[Ax,AS h1];refine Ad ?_;refine(Bn Av l j h1 _).trans ?_;simp only[eP,eN,ND,DK,Aa];refine Ab g ?_;simp only[ND,DK,Aa];rw[Ax,AS h0];refine Ad ?_;rw[show Arm (0+i*3+3) (Ao eP l).length=true by rw[BD Av];simp;omega];refine Ad ?_;rw[s1,Bo (by omega),Bo (by omega)];refine Ab g2 ?_;rfl
   .rw[he,hd,List.take_succ_eq_append_getElem (by rw[ArM];exact h0),List.getElem_set_self,List.take_set_of_le (ω _),Ari]
    rfl
omit K in
theorem OG(P:Pt->Bool):∀ l:List Pt,l.findIdx P<l.length->l.take (l.findIdx P)++(l.drop (l.findIdx P+1)).filter (λp=>!P p)=l.filter (λp=>!P p)
 |[],h=>by simp at h
 |x::r,h=>by
  rw[Aum]at h ⊢
  cases hp:P x with
  |true=>simp[hp]
  |false=>
   rw[hp]at h;have:=OG P r (by simpa using h);simp only[cond_false,List.take_succ_cons,List.drop_succ_cons,Aus,hp,Bool.not_false,if_true,List.cons_append];rw[this]
omit K in
theorem Tg(P:Pt->Bool)(l:List Pt)(h:¬ l.findIdx P<l.length):l.filter (λp=>!P p)=l:=by
 rw[List.filter_eq_self];intro p hp
 cases e:P p with
 |false=>rfl
 |true=>exact absurd (List.findIdx_lt_length_of_exists ⟨p,hp,e⟩) h
omit K in
theorem Pw:∀(l:List Pt) (i:Nat),i<=l.length->(Ao eP l).take (i*3)=Ao eP (l.take i)
 |[],i,_=>by simp[Ao]
 |y::r,0,_=>by simp[Ao]
 |y::r,i+1,h=>by
  rw[show (i+1)*3=3+i*3 by omega]
  show (eP y++Ao eP r).take (3+i*3)=eP y++Ao eP (r.take i)
  rw[Auv,AsF (by rw[Av];omega),Av,show 3+i*3-3=i*3 by omega,Pw r i (by simpa using h)]
theorem AkI(P:Pt->Bool)(l:List Pt)(hl:l.length<=1000000000)(hP:∀ p∈l,D.ask (.fn 157) [.agg (eP p)] []=some (bv (P p),[])) :
  ∃ cells:List AV,D.ask (.fn 156) [.sl 0 0 l.length 3,fnZ] [U (Ao eP l) true true]
   = some (.sl 0 0 (l.filter λp=>!P p).length 3,[.set (U cells true true)])
   ∧ cells.take ((l.filter λp=>!P p).length*3)=Ao eP (l.filter λp=>!P p)/\(l.filter λp=>!P p).length*3<=cells.length:=by
 have g:=Ak2 K P l hl hP
 by_cases h:l.findIdx P<l.length
 .rw[if_pos h]at g
  obtain⟨r,c,g2,hr,hc,he⟩:=AkH K P (λp=>p∈l) hP _ (l.findIdx P+1) (l.findIdx P) l rfl (by omega) (by omega) hl (λp hp=>List.mem_of_mem_drop hp);rw[OG P l h]at he;have hk:(l.filter λp=>!P p).length=c:=by
   rw[←he,ArG];omega
  rw[hk,←he];refine⟨AR (Ao eP r) (0+c*3) (CE [iv 0,bv false,.v (.slice none 0 0)] ((l.length-c)*3)),?_,?_,?_⟩
  .refine K.fn' ON _ rfl ((Amd ..).trans ?_)
   refine Ab g ?_;simp only[ND,DK,Aa];refine Ap (by omega) ?_;rw[Bo (by omega)];refine Ab g2 ?_;simp only[ND,DK,Aa];rw[Ax,show OS c l.length l.length=true by unfold OS;rw[Asr hc,Asr (ω _)]];refine Ad ?_;rw[show Arm (0+c*3+(l.length-c)*3) (Ao eP r).length=true by rw[BD Av];simp;omega];refine Ad ?_;rw[Ax,show OS 0 c l.length=true by unfold OS;rw[Asr (ArX _),Asr hc]];rfl
  .unfold AR
   have hlen:((Ao eP r).take (0+c*3)).length=c*3:=by
    rw[ArG,BD Av];omega
   rw[Ari,List.take_left' hlen,Ary,Pw r c (by omega)]
  .unfold AR
   rw[η,η,ArG,BD Av];omega
 .rw[if_neg h]at g
  rw[Tg P l h];refine⟨Ao eP l,?_,Bf Av l rfl,by rw[BD Av];exact ω _⟩;refine K.fn' ON _ rfl ((Amd ..).trans ?_);refine Ab g ?_;simp only[ND,DK,Aa];exact As rfl rfl
end
structure PartF (D:Orc):Prop where
 clone:∀ l:List Pt,l.length<=1000000000->D.ask (.fn 151) [.ls (l.map eP)] []=some (.sl 0 0 l.length 3,[.set (IA l)])
 grow:∀ n:Nat,n<=1000000000->D.ask (.fn 263) [.v (.slice none 0 0),iv (n:Int)] []=some (.sl 0 0 0 3,[.set (IA [])])
section
variable (o:List Pt) (x:Pt)
theorem Aok(k:List AV->KR):Iw (Ao eP (o++[x])) (0+o.length*3+0) 1 k=k [iv x.v]:=by
 have hl:=BD Av o;rw[←A9];unfold Iw;rw[show Arm (0+o.length*3+0+1) (Ao eP o++eP x).length=true by rw[η,hl,Av];simp<;>omega]
 show k (((Ao eP o++eP x).drop (0+o.length*3+0)).take 1)=_
 rw[List.drop_left' (by omega)];rfl
theorem Aqr(k:List AV->KR):Iw (Ao eP (o++[x])) (0+o.length*3+1) 2 k=k [bv x.z.neg,eN x.z.abs]:=by
 have hl:=BD Av o;rw[←A9];unfold Iw;rw[show Arm (0+o.length*3+1+2) (Ao eP o++eP x).length=true by rw[η,hl,Av];simp]
 show k (((Ao eP o++eP x).drop (0+o.length*3+1)).take 2)=_
 rw[List.drop_append,AtZ (by omega),show 0+o.length*3+1-(Ao eP o).length=1 by omega];rfl
theorem Aqv(z:Zi):AR (Ao eP (o++[x])) (0+o.length*3+1) [bv z.neg,eN z.abs]=Ao eP (o++[⟨x.v,z⟩]):=by
 have hl:=BD Av o;rw[←A9,←A9];unfold AR;rw[Auv,AsF (by omega),show 0+o.length*3+1-(Ao eP o).length=1 by omega,AtZ (by rw[η,Av,hl];simp),Asa,Ari];rfl
end
section
variable {D:Orc} (Kt:Knows Ag J4 D) (Ks:Knows Ag Ga D) (Z:ZF D) (C:PartF D)
include Z
include Kt in
theorem Hy{z:Zi}(hz:Lz 1000000000 z):D.ask (.fn 155) [.agg (eZ z)] []=some (.agg (eZ (Br (zv z))),[]):=by
 refine Kt.fn' Ah6 _ rfl ((Ao3 ..).trans ?_);refine Ab (Z.frm z hz) ?_;rfl
include Ks in
theorem Zh{p:Pt}(hz:Lz 1000000000 p.z):D.ask (.fn 157) [.agg (eP p)] []=some (bv (decide (zv p.z=0)),[]):=by
 have g:=Z.sign p.z hz;refine Ks.fn' Ah7 _ rfl ((Ao4 ..).trans ?_);refine Ab g ?_;simp only[ND,DK,Aa]
 by_cases h:zv p.z=0
 .rw[decide_eq_true h,h]
  exact RN rfl
 .rw[decide_eq_false h]
  refine AaX ?_;unfold WI;split
  .omega
  .split
   .omega
   .omega
include Kt in
theorem Adx{k:Nat}(ps:List Pt)(hl:ps.length<=1000000)(hk:k+ps.length<=900000000)(hz:∀ p∈ps,Lz k p.z)(r0:List (List AV))(r1:Bool)(r2:List (List AV))(k1:Bool)(k2:List (List AV)):∀(m i:Nat) (s:List (Int × Int)),ps.length-i=m->i<=ps.length->s.length<=i->(∀ q∈s,InB (k+i) q.2)->
  D.ask (.lp 89 0) [.ptr 0 0,.ptr 1 0,.ls (ps.map eP),iv (ps.length:Int),iv (i:Int)] [⟨[.ls r0,bv r1,.ls r2],true,false⟩,⟨[.sl 2 0 (s.map A4).reverse.length 3,bv k1,.ls k2],true,false⟩,IA (s.map A4).reverse]
   = some (.tup [iv 0,.ptr 0 0,.ptr 1 0],[.set ⟨[.ls r0,bv r1,.ls r2],true,false⟩,.set ⟨[.sl 3 0 ((((ps.drop i).map pv).foldl GJ s).map A4).reverse.length 3,bv k1,.ls k2],true,false⟩,.del,.set (IA ((((ps.drop i).map pv).foldl GJ s).map A4).reverse)]):=by
 intro m
 induction m with
 |zero=>
  intro i s hm hi hs hb;rw[Ark (by omega),AsK,List.foldl_nil];refine Kt.lp' Ach _ rfl (by kernel_rfl) ((AhH ..).trans ?_);exact Ak (by omega) rfl
 |succ m ih0=>
  intro i s hm hi hs hb;have h1:i<ps.length:=by omega
  have hzk:=hz ps[i] (Ars h1);have hzi:=hzk.mono (show k<=1000000000 by omega);rw[Arf h1,Arz,As5];have ih:=ih0 (i+1) (GJ s (pv ps[i])) (by omega) (by omega) (by have:=To s (pv ps[i]);omega) (Tn hb (hzk.inb.mono (show k<=k+i by omega)));refine Kt.lp' Ach _ rfl (by kernel_rfl) ((AhH ..).trans ?_);refine Al (by omega) ?_;rw[Ax,AF (Ψ h1)];simp only[eP,eN,ND,DK,Aa];generalize hS:((ps.drop (i+1)).map pv).foldl GJ (GJ s (pv ps[i]))=S at ih ⊢
  by_cases hneg:ps[i].v<0
  .have e:GJ s (pv ps[i])=s:=by
    have hn:(pv ps[i]).1<0:=hneg
    cases s with
    |nil=>rw[GZ,if_pos hn]
    |cons q r=>rw[FE,if_pos hn]
   rw[e]at ih;refine Al hneg ?_;rw[Bo (by omega)];refine Ab ih ?_;rfl
  have hn:¬(pv ps[i]).1<0:=hneg;refine Ak hneg ?_
  cases s with
  |nil=>
   rw[GZ,if_neg hn]at ih;refine DP (by decide) ?_;obtain⟨o,ho0⟩:∃ o:List Pt,o=[]:=⟨_,rfl⟩;have eo:(([pv ps[i]].map A4).reverse)=o++[A4 (pv ps[i])]:=by rw[ho0];rfl
   rw[eo]at ih;have ho:o.length<=i:=by rw[ho0];exact ArX _
   rw[show ((([]:List (Int × Int)).map A4).reverse)=o from ho0.symm];have hf:Bc (o.length+1) 40=true:=AN (by omega) (by omega);have hb1:Arm (0+o.length*3) (Ao eP o).length=true:=AT Av o (by omega);have e3:ο 0 (ι (0+o.length*3) (Ao eP o))++[iv ps[i].v,bv (Br (zv ps[i].z)).neg,eN (Br (zv ps[i].z)).abs]=Ao eP (o++[A4 (pv ps[i])]):=by
    rw[υ,Bf Av o (by omega)];exact A9 eP o (A4 (pv ps[i]))
   refine Ab (Hy Kt Z hzi) ?_;simp only[eZ,eN,ND,DK,Aa]at e3 ⊢;rw[hf];refine Ad ?_;rw[hb1];refine Ad ?_;rw[e3,Bo (by omega)];rw[η,Ase]at ih;refine Ab ih ?_;rfl
  |cons q r=>
   have eo:(((q::r).map A4).reverse)=(r.map A4).reverse++[A4 q]:=by simp
   have hq:=hb q (Arv ..);rw[eo];rw[FE,if_neg hn]at ih;have hro:(r.map A4).reverse.length<=i:=by simp at hs ⊢;omega
   by_cases heq:q.1=(pv ps[i]).1
   .rw[if_pos heq,Arz,Auo]at ih
    generalize (r.map A4).reverse=o at hro ih ⊢;have e1:Ah.sub .i64 (((o++[A4 q]).length:Nat):Int) 1=((o.length:Nat):Int):=by
     rw[η,Ase];exact US (by omega)
    have hlt:o.length<(o++[A4 q]).length:=by simp
    have ga:=Z.add (Br q.2) ps[i].z (hq.lz.mono (by omega)) (hzk.mono (by omega));rw[Cj]at ga;have sp:=Aqv o (A4 q) (Br (q.2+zv ps[i].z));rw[e1];refine Dp (by omega) ?_;rw[Ax,AS hlt];refine Ad ?_;refine(Aok o (A4 q) _).trans ?_;simp only[ND,DK,Aa];refine As (show (A4 q).v=ps[i].v from heq) ?_;rw[Ax,AS hlt];refine Ad ?_;refine(Aqr o (A4 q) _).trans ?_;simp only[eN,ND,DK,Aa];refine Ab ga ?_;simp only[eZ,eN,ND,DK,Aa]at sp ⊢;rw[Ax,AS hlt];refine Ad ?_;rw[show Arm (0+o.length*3+1+2) (Ao eP (o++[A4 q])).length=true by rw[BD Av];simp;omega];refine Ad ?_;rw[sp,Bo (by omega)];have el:(o++[A4 q]).length=(o++[A4 (q.1,q.2+(pv ps[i]).2)]).length:=by simp
    rw[el];refine Ab ih ?_;rfl
   .rw[if_neg heq,Arz,Auo,eo]at ih
    have hlen:((r.map A4).reverse++[A4 q]).length<=i:=by simp at hs ⊢;omega
    have e1:Ah.sub .i64 ((((r.map A4).reverse++[A4 q]).length:Nat):Int) 1=(((r.map A4).reverse.length:Nat):Int):=by
     rw[η,Ase];exact US (by omega)
    have hlt:(r.map A4).reverse.length<((r.map A4).reverse++[A4 q]).length:=by simp
    rw[e1];refine Dp (by omega) ?_;rw[Ax,AS hlt];refine Ad ?_;refine(Aok _ (A4 q) _).trans ?_;simp only[ND,DK,Aa];refine Ap (show ¬(A4 q).v=ps[i].v from heq) ?_;generalize (r.map A4).reverse++[A4 q]=o at hlen ih ⊢;have ho:=hlen;have hf:Bc (o.length+1) 40=true:=AN (by omega) (by omega);have hb1:Arm (0+o.length*3) (Ao eP o).length=true:=AT Av o (by omega);have e3:ο 0 (ι (0+o.length*3) (Ao eP o))++[iv ps[i].v,bv (Br (zv ps[i].z)).neg,eN (Br (zv ps[i].z)).abs]=Ao eP (o++[A4 (pv ps[i])]):=by
     rw[υ,Bf Av o (by omega)];exact A9 eP o (A4 (pv ps[i]))
    refine Ab (Hy Kt Z hzi) ?_;simp only[eZ,eN,ND,DK,Aa]at e3 ⊢;rw[hf];refine Ad ?_;rw[hb1];refine Ad ?_;rw[e3,Bo (by omega)];rw[η,Ase]at ih;refine Ab ih ?_;rfl
include Kt Ks C in
theorem E3{n k:Nat}{t:Tm}(h:TmB n k t)(hn:n<=1000000)(hk:k+n<=900000000):D.ask (.fn 89) [.agg (eT t)] []=some (.agg (eT t.lf.pln.tm),[]):=by
 obtain⟨ps,kz⟩:=t;have hlen:ps.length<=n:=h.len;obtain⟨r,gs,gr,gp,go⟩:=Ad4 Ks (l:=ps) (by omega);have gc:=C.clone ps (by omega);have gk:=Hy Kt Z (h.k.mono (show k<=1000000000 by omega));have hzr:∀ p∈r,Lz k p.z:=λp hp=>h.ps p (gp.mem_iff.1 hp)
 have gl:=Adx Kt Z r (k:=k) (by omega) (by omega) hzr [] false [] (Br (zv kz)).neg ((Br (zv kz)).abs.map eL) _ 0 [] rfl (by omega) (by simp) (by simp);rw[υ]at gl;have hsrt:(r.map pv).Pairwise λa b=>a.1<=b.1:=by
  rw[List.pairwise_map];exact SA Pt.v go
 have hpl:=AfU hsrt (gp.map pv);generalize hS:(r.map pv).foldl GJ []=S at gl hpl;have hsb:∀ p∈((S.map A4).reverse),Lz 1000000000 p.z:=by
  have key:∀(t s:List (Int × Int)) (j:Nat),(∀ q∈s,InB (k+j) q.2)->(∀ q∈t,InB k q.2)->∀ q∈t.foldl GJ s,InB (k+j+t.length) q.2:=by
   intro t
   induction t with
   |nil=>intro s j hs _ q hq;exact hs q hq
   |cons p t ih=>
    intro s j hs ht q hq;have:=ih (GJ s p) (j+1) (Tn hs ((ht p (Arv ..)).mono (show k<=k+j by omega))) (λq hq=>ht q (Arw _ hq)) q hq;rw[ν];exact this.mono (by omega)
  intro p hp;rw[List.mem_reverse,AsE]at hp;obtain⟨q,hq,rfl⟩:=hp;have:=key (r.map pv) [] 0 (by simp) (λq hq=>by
   rw[AsE]at hq;obtain⟨p,hp,rfl⟩:=hq;exact(hzr p hp).inb) q (by rw[hS];exact hq)
  rw[ArA]at this;exact(this.lz).mono (by omega)
 have hSl:S.length<=1000000:=by
  have key:∀(t s:List (Int × Int)),(t.foldl GJ s).length<=s.length+t.length:=by
   intro t
   induction t with
   |nil=>intro s;simp
   |cons p t ih=>
    intro s;have:=ih (GJ s p);have h2:=To s p;rw[As5,ν];omega
  have:=key (r.map pv) [];rw[hS,ArA]at this;simp at this;omega
 obtain⟨cells,gd,gt,gle⟩:=AkI Ks (λp=>decide (zv p.z=0)) (S.map A4).reverse (by simp;omega) λp hp=>Zh Ks Z (hsb p hp)
 have hfin:((S.map A4).reverse).filter (λp=>!decide (zv p.z=0))=(Fi (ps.map pv)).map A4:=by
  rw[←hpl,←List.map_reverse,List.filter_map]
  congr 1
  refine List.filter_congr λq _=>?_
  show (!decide (zv (Br q.2)=0))=_
  rw[Cj]
 rw[hfin]at gd gt gle;refine Kt.fn' Ach _ rfl ((e89 ..).trans ?_);refine Ab gc ?_;simp only[ND,DK,Aa];refine Ab gs ?_;simp only[ND,DK,Aa];refine Ab gk ?_;simp only[eZ,eN,ND,DK,Aa];rw[show Arm (0+ps.length*3) (Ao eP r).length=true from AT Av r (by omega)];refine Ad ?_;rw[Cz Av r (by omega),←gr];refine Ab gl ?_;simp only[ND,DK,Aa];refine Ab gd ?_;simp only[ND,DK,Aa];rw[show Arm (0+((Fi (ps.map pv)).map A4).length*3) cells.length=true by simp;simp at gle;omega];refine Ad ?_;rw[gt,Ez Av];rfl
end
def eR(r:List Pt):List AV:=[.ls (r.map eP)]
theorem Ado(p:Pt):LH (eP p)=true:=rfl
def scP(x:Zi)(p:Pt):Pt:=⟨p.v,Br (zv p.z*zv x)⟩
theorem Akk{a b:Nat}(h:a+b<4611686018427387904):Ah.add .i64 (a:Int) (b:Int)=((a+b:Nat):Int):=by
 rw[Jd (by omega) (by omega)];omega
section
variable {D:Orc} (Kt:Knows Ag J4 D) (Kf:Knows Ag Nx D) (Ks:Knows Ag Ga D) (Z:ZF D) (C:PartF D)
include Kf
theorem AkC(rs:List (List Pt))(X:List (List AV))(hr:rs.length<=1000000):∀(m i s:Nat),rs.length-i=m->i<=rs.length->s+(rs.drop i).flatten.length<=1000000000->
  D.ask (.lp 250 0) [.ls X,iv (s:Int),.ls (rs.map eR),iv (rs.length:Int),iv (i:Int)] []=some (.tup [iv 0,.ls X,iv ((s+(rs.drop i).flatten.length:Nat):Int)],[]):=by
 intro m
 induction m with
 |zero=>
  intro i s hm hi hs;rw[Ark (by omega)];refine Kf.lp' Nh _ rfl (by kernel_rfl) ((Abt ..).trans ?_);exact Ak (by omega) rfl
 |succ m ih=>
  intro i s hm hi hs;have h1:i<rs.length:=by omega
  rw[Arf h1,Asw,η]at hs ⊢;have ih:=ih (i+1) (s+rs[i].length) (by omega) (by omega) (by omega);rw[show s+rs[i].length+(rs.drop (i+1)).flatten.length=s+(rs[i].length+(rs.drop (i+1)).flatten.length) by omega]at ih;refine Kf.lp' Nh _ rfl (by kernel_rfl) ((Abt ..).trans ?_);refine Al (by omega) ?_;rw[Ax,AF (Ψ h1)];simp only[eR,ND,DK,Aa];rw[Aw,Akk (by omega),Bo (by omega)];refine Ak (by omega) ?_;refine Ab ih ?_;rfl
theorem AkD(rs:List (List Pt))(hr:rs.length<=1000000):∀(m i:Nat) (out:List Pt),rs.length-i=m->i<=rs.length->out.length+(rs.drop i).flatten.length<=1000000000->
  D.ask (.lp 250 1) [.sl 0 0 out.length 3,.ls (rs.map eR),iv (rs.length:Int),iv (i:Int)] [IA out]=some (.tup [iv 2,.sl 1 0 (out++(rs.drop i).flatten).length 3],[.del,.set (IA (out++(rs.drop i).flatten))]):=by
 intro m
 induction m with
 |zero=>
  intro i out hm hi hs;rw[Ark (by omega),List.flatten_nil,Asa];refine Kf.lp' Nh _ rfl (by kernel_rfl) ((Abu ..).trans ?_);exact Ak (by omega) rfl
 |succ m ih=>
  intro i out hm hi hs;have h1:i<rs.length:=by omega
  rw[Arf h1,Asw]at hs ⊢;rw[η]at hs;have ih:=ih (i+1) (out++rs[i]) (by omega) (by omega) (by rw[η];omega);rw[Ari]at ih;refine Kf.lp' Nh _ rfl (by kernel_rfl) ((Abu ..).trans ?_);refine Al (by omega) ?_;rw[Ax,AF (Ψ h1)];revert hs ih;generalize rs[i]=r;intro hs ih;simp only[eR,ND,DK,Aa];rw[JJ Av,Aw,Bo (by omega)];refine Ad ?_
  by_cases h0:r=[]
  .subst h0
   rw[Asa]at ih;rw[Arx]at ih ⊢;refine Ad ?_;refine Ab ih ?_;rfl
  .have hz:Nat.beq r.length 0=false:=by
    cases r with
    |nil=>exact absurd rfl h0
    |cons x r=>rfl
   rw[hz];refine Bi ?_;rw[FO,LI Ado];refine Ad ?_;rw[AN (n:=out.length+r.length) (b:=40) (by omega) (by omega)];refine Ad ?_;rw[show Arm (0+out.length*3) (Ao eP out).length=true from AT Av out (by omega)];refine Ad ?_;have e3:ο 0 (ι (0+out.length*3) (Ao eP out))++Ao eP r=Ao eP (out++r):=by
    rw[υ,Bf Av out (by omega)];simp[Ao]
   rw[e3];rw[show (out++r).length=out.length+r.length from η]at ih;refine Ab ih ?_;rfl
include C in
theorem YW(a b:List Pt)(h:a.length+b.length<=1000000):D.ask (.fn 250) [.ls [[.ls (a.map eP)],[.ls (b.map eP)]]] []=some (.ls ((a++b).map eP),[]):=by
 have hf:([a,b]).flatten=a++b:=by simp
 have g0:=AkC Kf [a,b] (([a,b]).map eR) (by simp) _ 0 0 rfl (by simp) (by rw[υ,hf,η];omega);rw[υ,hf,Ary]at g0;have gg:=C.grow (a++b).length (by rw[η];omega);have g1:=AkD Kf [a,b] (by simp) _ 0 [] rfl (by simp) (by rw[υ,hf,η];simp;omega);rw[υ,hf,Arx]at g1;refine Kf.fn' Nh _ rfl ((ApC ..).trans ?_);refine Ab g0 ?_;simp only[ND,DK,Aa];refine Ab gg ?_;simp only[ND,DK,Aa];refine Ab g1 ?_;simp only[ND,DK,Aa];rw[show Arm (0+(a++b).length*3) (Ao eP (a++b)).length=true from AT Av (a++b) (by omega)];refine Ad ?_;rw[Cz Av (a++b) rfl];rfl
include Kt Ks Z C
theorem Akl{n m k:Nat}{a b:Tm}(ha:TmB n k a)(hb:TmB m k b)(hn:n+m<=1000000)(hk:k+1+(n+m)<=900000000):D.ask (.fn 223) [.agg (eT a),.agg (eT b)] []=some (.agg (eT (a.lf.add b.lf).tm),[]):=by
 obtain⟨ap,ak⟩:=a;obtain⟨bp,bk⟩:=b;have l1:ap.length<=n:=ha.len;have l2:bp.length<=m:=hb.len;have gc:=YW Kf C ap bp (by omega);have ga:=Z.add ak bk (ha.k.mono (by omega)) (hb.k.mono (by omega));have hT:TmB (n+m) (k+1) ⟨ap++bp,Br (zv ak+zv bk)⟩:=by
  refine⟨by simp;omega,λp hp=>?_,?_⟩
  .rcases List.mem_append.1 hp with h|h
   .exact(ha.ps p h).mono (by omega)
   .exact(hb.ps p h).mono (by omega)
  .exact(InB.add ha.k.inb hb.k.inb).lz
 have gp:=E3 Kt Ks Z C hT hn (by omega);have el:(⟨ap++bp,Br (zv ak+zv bk)⟩:Tm).lf.pln=Lf.add (Tm.lf ⟨ap,ak⟩) (Tm.lf ⟨bp,bk⟩):=by
  unfold Lf.add Tm.lf;simp only[List.map_append,Cj]
 rw[el]at gp;refine Kf.fn' Air _ rfl ((Apv ..).trans ?_);refine Ab gc ?_;simp only[ND,DK,Aa];refine Ab ga ?_;simp only[eZ,eN,ND,DK,Aa];refine Ab gp ?_;rfl
omit Kt Ks C in
theorem AdU{k j:Nat}{x:Zi}(hx:Lz j x)(hx24:x.abs.length<24)(ps:List Pt)(hl:ps.length<=1000000)(hz:∀ p∈ps,Lz k p.z)(hk:k<=400000000)(hj:j<=400000000)(r0:List (List AV))(r1:Bool)(r2:List (List AV))(k1:Bool)(k2:List (List AV)):∀(m i:Nat) (out:List Pt),ps.length-i=m->i<=ps.length->out.length<=i->
  D.ask (.lp 251 0) [.ptr 0 0,.ptr 1 0,.ptr 2 0,.ls (ps.map eP),iv (ps.length:Int),iv (i:Int)] [⟨eZ x,true,false⟩,⟨[.ls r0,bv r1,.ls r2],true,false⟩,⟨[.sl 3 0 out.length 3,bv k1,.ls k2],true,false⟩,IA out]
   = some (.tup [iv 0,.ptr 1 0,.ptr 2 0],[.del,.set ⟨[.ls r0,bv r1,.ls r2],true,false⟩,.set ⟨[.sl 4 0 (out++(ps.drop i).map (scP x)).length 3,bv k1,.ls k2],true,false⟩,.del,.set (IA (out++(ps.drop i).map (scP x)))]):=by
 intro m
 induction m with
 |zero=>
  intro i out hm hi ho;rw[Ark (by omega),AsK,Asa];refine Kf.lp' TE _ rfl (by kernel_rfl) ((Abv ..).trans ?_);exact Ak (by omega) rfl
 |succ m ih=>
  intro i out hm hi ho;have h1:i<ps.length:=by omega
  have hzk:=hz ps[i] (Ars h1);have gm:=Z.mul ps[i].z x (hzk.mono (by omega)) (hx.mono (by omega)) (.inr hx24);rw[Arf h1,Arz];have ih:=ih (i+1) (out++[scP x ps[i]]) (by omega) (by omega) (by simp;omega);rw[Ari,List.singleton_append,show (out++[scP x ps[i]]).length=out.length+1 by simp]at ih;have hf:Bc (out.length+1) 40=true:=AN (by omega) (by omega);have hb1:Arm (0+out.length*3) (Ao eP out).length=true:=AT Av out (by omega);have e3:ο 0 (ι (0+out.length*3) (Ao eP out))++[iv ps[i].v,bv (Br (zv ps[i].z*zv x)).neg,eN (Br (zv ps[i].z*zv x)).abs]=Ao eP (out++[scP x ps[i]]):=by
   rw[υ,Bf Av out (by omega)];exact A9 eP out (scP x ps[i])
  obtain⟨xn,xa⟩:=x;refine Kf.lp' TE _ rfl (by kernel_rfl) ((Abv ..).trans ?_);refine Al (by omega) ?_;rw[Ax,AF (Ψ h1)];simp only[eP,eN,ND,DK,Aa];refine Ab gm ?_;simp only[eZ,eN,ND,DK,Aa]at e3 ⊢;rw[hf];refine Ad ?_;rw[hb1];refine Ad ?_;rw[e3,Bo (by omega)];refine Ab ih ?_;rfl
theorem AdV{n k j:Nat}{a:Tm}{x:Zi}(ha:TmB n k a)(hx:Lz j x)(hx24:x.abs.length<24)(hn:n<=1000000)(hj:j<=23)(hk:k+j+n<=400000000):D.ask (.fn 251) [.agg (eT a),.agg (eZ x)] []=some (.agg (eT (a.lf.scale (zv x)).tm),[]):=by
 obtain⟨ap,ak⟩:=a;have l1:ap.length<=n:=ha.len;have gm:=Z.mul ak x (ha.k.mono (by omega)) (hx.mono (by omega)) (.inr hx24);have gl:=AdU Kf Z hx hx24 ap (by omega) ha.ps (by omega) (by omega) [] false [] (Br (zv ak*zv x)).neg ((Br (zv ak*zv x)).abs.map eL) _ 0 [] rfl (by omega) (by simp);rw[υ,Arx]at gl;have hT:TmB n (k+j) ⟨ap.map (scP x),Br (zv ak*zv x)⟩:=by
  refine⟨by simpa using l1,λp hp=>?_,(InB.mul ha.k.inb hx.inb).lz⟩;rw[AsE]at hp;obtain⟨q,hq,rfl⟩:=hp;exact(InB.mul (ha.ps q hq).inb hx.inb).lz
 have gp:=E3 Kt Ks Z C hT hn (by omega);have el:(⟨ap.map (scP x),Br (zv ak*zv x)⟩:Tm).lf.pln=Lf.scale (Tm.lf ⟨ap,ak⟩) (zv x):=by
  unfold Lf.scale Tm.lf;simp only[List.map_map,Cj]
  congr 2
  refine List.map_congr_left λp _=>?_
  show ((p.v,zv (Br (zv p.z*zv x))):Int × Int)=_
  rw[Cj];rfl
 rw[el]at gp;obtain⟨xn,xa⟩:=x;refine Kf.fn' TE _ rfl ((ApD ..).trans ?_);refine Ab gm ?_;simp only[eZ,eN,ND,DK,Aa,Aw];refine Ab gl ?_;simp only[ND,DK,Aa];rw[show Arm (0+(ap.map (scP ⟨xn,xa⟩)).length*3) (Ao eP (ap.map (scP ⟨xn,xa⟩))).length=true from AT Av _ (by omega)];refine Ad ?_;rw[Cz Av _ rfl];refine Ab gp ?_;rfl
theorem Ali{n k:Nat}{a:Tm}(ha:TmB n k a)(hn:n<=1000000)(hk:k+1+n<=400000000):D.ask (.fn 224) [.agg (eT a)] []=some (.agg (eT (a.lf.scale (-1)).tm),[]):=by
 have g1:=Z.of_ (-1) (by omega) (by omega);have hx:Lz 1 (Br (-1)):=InB.lz (by unfold InB;decide);have g2:=AdV Kt Kf Ks Z C ha hx (by have:=hx.len;omega) hn (by omega) hk;rw[Cj]at g2;refine Kf.fn' Ais _ rfl ((Apw ..).trans ?_);refine Ab g1 ?_;simp only[eZ,eN,ND,DK,Aa];refine Ab g2 ?_;rfl
theorem Ad6{n m k:Nat}{a b:Tm}(ha:TmB n k a)(hb:TmB m k b)(hn:n+m<=1000000)(hk:k+2+2*(n+m)<=400000000):D.ask (.fn 173) [.agg (eT a),.agg (eT b)] []=some (.agg (eT (a.lf.sub b.lf).tm),[]):=by
 have g1:=Ali Kt Kf Ks Z C hb (by omega) (by omega);have hn1:LB m (k+1+m) (b.lf.scale (-1)):=hb.lb.scale (by unfold InB;decide);have g2:=Akl Kt Kf Ks Z C (ha.mono (ω _) (show k<=k+1+m by omega)) hn1.tb hn (by omega);rw[Fk]at g2;refine Kf.fn' Aie _ rfl ((Apb ..).trans ?_);refine Ab g1 ?_;simp only[eT,eN,ND,DK,Aa];refine Ab g2 ?_;rfl
omit Ks C in
theorem ZN{z:Zi}(hz:Lz 1000000000 z):D.ask (.fn 170) [.agg (eZ z)] []=some (.agg (eT (Lf.num (zv z)).tm),[]):=by
 have g:=Hy Kt Z hz;refine Kf.fn' Aib _ rfl ((Ao8 ..).trans ?_);refine Ab g ?_;rfl
theorem Aho{n k:Nat}{t:Tm}(h:TmB n k t)(hn:n<=1000000)(hk:k+n<=900000000):D.ask (.fn 172) [.agg (eT t)] []=some (.agg (eT t.lf.pln.tm++[bv true]),[]):=by
 have g:=E3 Kt Ks Z C h hn hk;refine Kf.fn' Aid _ rfl ((Apa ..).trans ?_);refine Ab g ?_;rfl
theorem T6{n k:Nat}{t:Tm}(h:TmB n k t)(hn:n<=1000000)(hk:k+n<=900000000):D.ask (.fn 174) [.agg (eT t)] []=some (.agg (eT t.lf.pln.tm++[bv false]),[]):=by
 have g:=E3 Kt Ks Z C h hn hk;refine Kf.fn' Aif _ rfl ((Apc ..).trans ?_);refine Ab g ?_;rfl
end
end Go.Proofs.YtlmhajfbpplpoaaGreat
