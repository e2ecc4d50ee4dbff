/- What the reference's fun -/
import Derived.Test.YtlmhajfbpplpoaaGreatKAS
import Derived.ScopeJumps
import Derived.WalkMore
set_option linter.all false
open Array renaming length_toList->Axe
open Bool renaming false->Θ,true->U,and_eq_true->η,and_false->Azf,and_self->AzM,and_true->Ayl,false_and->Aw3,false_eq_true->Awx,false_or->Ayd
open Int renaming le_refl->AzW,lt_trichotomy->Ay0,mul_zero->Ay4,natAbs_neg->Ax8,natCast_mul->AyH,sub_eq_add_neg->Azo,zero_add->AzQ,zero_mul->AzR
open List renaming all_append->AzF,all_cons->Axn,all_nil->AzT,append_assoc->Awr,append_nil->AwV,drop->Awv,drop_eq_getElem_cons->χ,drop_eq_nil_of_le->υ,drop_zero->κ,findIdx?_eq_some_iff_getElem->AwZ,getD_eq_getElem?_getD->AwK,getElem?_eq_getElem->Ψ,getElem?_eq_some_iff->AwQ,getElem_mem->Awy,length_append->ζ,length_cons->π,length_drop->AwR,length_take->AwL,map_cons->AwP,map_map->AyI,map_nil->Axx,mem_cons->Awt,nil_append->AwC,pairwise_cons->Aw2,pairwise_singleton->Ayc,singleton_append->Axh,take->Aws,take_succ_eq_append_getElem->Axt
open Nat renaming add_assoc->AwA,add_comm->AzU,ble->Aww,ble_eq_true_of_le->Axl,le_refl->ω,lt_succ_self->Awz,min_eq_left->AxA,pow_succ->AxE
open Option renaming none->Δ,some->V,isSome_iff_exists->Ay9,map_some->AwE
namespace Go.Proofs.YtlmhajfbpplpoaaGreat
open ABlk renaming mk->θ
open Lib renaming hid->ξ
open Go.RowKit
theorem F7{a b:Aj}(ha:Limbs a)(hb:Limbs b):(AY (Am a*Am b)).length<=a.length+b.length:=by
 refine BS ?_;rw[Nat.pow_add];exact Nat.mul_lt_mul'' (Dy ha) (Dy hb)
theorem Ag6(va x vd:Nat):0+4294967296*(va*vd)+va*x=va*(x+4294967296*vd):=by
 rw[Nat.mul_add,Nat.mul_left_comm va];omega
theorem Y2{v i d:Nat}(h:v<4294967296 ^ i)(hd:d<=9):v*10+d<4294967296 ^ (i+1):=by
 rw[AxE];omega
theorem Rv{d:Nat}(h:d<4294967296):Limbs [d]:=B6 h Cn
section
variable {D:Orc} (K:Knows Ah TE D)
include K
theorem AkS(A B:AV)(t:Int){xs ys:Rw}(hA:A=.ls xs)(hB:B=.ls ys){out:Aj}(hs:out.length<=999999999):∀(k i:Nat) (up:Aj),out.length-i=k->i<=out.length->up=0::out.take i->
  D.ask (.lp 183 1) [A,B,eN out,iv t,.sl 0 0 (i+1) 1,iv (i:Int)] [θ (Av eL up) U U]=V (.tup [iv 2,A,B,iv t,.sl 1 0 (out.length+1) 1],[.del,.set (θ (Av eL (0::out)) U U)]):=by
 subst hA hB;intro k
 induction k with
 |zero=>
  intro i up hk hi hu;obtain rfl:i=out.length:=by omega
  rw[List.take_length]at hu;subst hu;refine Ax K OJ (Ae9 ..) ?_;rw[Al];exact Ap rfl
 |succ k ih=>
  intro i up hk hi hu;have hlt:i<out.length:=by omega
  have hl:up.length=i+1:=by rw[hu,π,AwL,AxA hi]
  have ih':=ih (i+1) (up++[out[i]]) (by omega) (by omega) (by rw[hu,Axt hlt];rfl);have e3:Awv 0 (Aws (0+(i+1)*1) (Av eL up))++[.v (.int .u32 (out[i]:Int))]=Av eL (up++[out[i]]):=by
   rw[κ,A9 A2 up (by omega)];exact A8 eL up out[i]
  refine Ax K OJ (Ae9 ..) ?_;rw[Al];refine Au ?_;rw[AD,AA (Ψ hlt)];simp only[eL,IM,Ae];rw[Bv (by omega),AL (n:=i+1+1) (b:=4) (by omega) (by omega),AJ A2 up (by omega),e3];refine Af ?_;refine Af ?_;refine Aa ih' ?_;rfl
theorem AkT{a b:Aj}(ha:Limbs a)(hb:Limbs b)(hs:a.length+b.length<=900000000):∀ i:Nat,i<=b.length->D.ask (.lp 183 0) [eN a,eN b,eN (AY (Am a*Am (b.drop i))),iv ((i:Int)-1)] []=V (.tup [iv 0,eN (AY (Am a*Am b))],[]):=by
 intro i
 induction i with
 |zero=>
  intro _;refine Ax K OJ (Ae8 ..) ?_;refine Cm ?_;rw[κ];rfl
 |succ i ih=>
  intro hi;have hlt:i<b.length:=by omega
  have hx:=hb.get hlt;have ln:∀ j:Nat,(AY (Am a*Am (b.drop j))).length<=a.length+b.length:=λj=>by
   have:=F7 ha (hb.drop j);rw[AwR]at this;omega
  have l1:=ln (i+1);rw[show (((i+1:Nat):Int)-1)=(i:Int) by omega];refine Ax K OJ (Ae8 ..) ?_;refine Cg ?_;have g:=AkS K (eN a) (eN b) (i:Int) rfl rfl (out:=AY (Am a*Am (b.drop (i+1)))) (by omega) _ 0 [0] rfl (by omega) rfl;refine Aa g ?_;simp only[eN,IM,Ae];rw[AD,AA (Ψ hlt)];simp only[eL,IM,Ae];rw[Ck (show b[i]<_ by omega)];refine Af ?_;refine Aa (Og K ha (by omega) b[i] hx) ?_;simp only[eN,IM,Ae];rw[AJ A2 (0::AY (Am a*Am (b.drop (i+1)))) (by simp)];refine Af ?_;rw[A9 A2 (0::AY (Am a*Am (b.drop (i+1)))) (by simp),show By ((AY (Am a*Am (b.drop (i+1)))).length+1) 1 (Av eL (0::AY (Am a*Am (b.drop (i+1)))))=(0::AY (Am a*Am (b.drop (i+1)))).map eL from DG A2 (0::AY (Am a*Am (b.drop (i+1))))];have l3:(AY (Am a*b[i])).length<=a.length+1:=by
   have:=F7 ha (Rv hx)
   rwa [show Am [b[i]]=b[i] by simp[Am]]at this
  have g2:=KZ K (a:=0::AY (Am a*Am (b.drop (i+1)))) (b:=AY (Am a*b[i])) (by rw[π];omega) (B6 (by omega) (AE _)) (by omega) (AE _);rw[Am,A0,A0,Ag6,show b[i]+4294967296*Am (b.drop (i+1))=Am (b.drop i) by rw[χ hlt,Am]]at g2;refine Aa g2 ?_;simp only[eN,IM,Ae];rw[Ip (by omega) (by omega)];refine Aa (ih (by omega)) ?_;rfl
theorem AkJ{a b:Aj}(ha:Limbs a)(hb:Limbs b)(hs:a.length+b.length<=900000000):D.ask (.fn 183) [eN a,eN b] []=V (eN (AY (Am a*Am b)),[]):=by
 have g:=AkT K ha hb hs b.length (ω _);rw[List.drop_length,Am,Nat.mul_zero,FW]at g;refine Ao K OJ (Aul ..) ?_;rw[Al,Ip (by omega) (by omega)];refine Aa g ?_;simp only[eN,Ae];have l1:=F7 ha hb;have g2:=GH K (l:=AY (Am a*Am b)) (by unfold Db;omega) (AE _);rw[A0]at g2;refine Aa g2 ?_;rfl
theorem Adz{s:ByteArray}(hs:s.size<=4000):∀(m i v:Nat),s.size-i=m->i<=s.size->v<4294967296 ^ i->
  D.ask (.lp 182 0) [sv s,eN (AY v),iv (i:Int)] []=if(s.data.toList.drop i).all IV=U then V (.tup [iv 0,sv s,eN (AY (hor v (s.data.toList.drop i)))],[]) else V (.tup [bv U,.ls [],iv 20],[]):=by
 intro m;have hsl:s.data.toList.length=s.size:=by simp
 induction m with
 |zero=>
  intro i v hm hi hv;have e:s.data.toList.drop i=[]:=υ (by omega);rw[e,Ac (show ([]:List UInt8).all IV=U from rfl)];refine Ax K Qw (Uk ..) ?_;rw[BW];exact Ap rfl
 |succ m ih=>
  intro i v hm hi hv;have hlt:i<s.size:=by omega
  have hlt':i<s.data.toList.length:=by omega
  have e:s.data.toList.drop i=s.data.toList[i]::s.data.toList.drop (i+1):=χ hlt';rw[e,Axn]
  cases hd:IV s.data.toList[i]with
  |false=>
   rw[Ab (by simp)];refine Ax K Qw (Uk ..) ?_;rw[BW];refine Au ?_;rw[AD,Cr hlt];refine Af ?_;rw[Io hlt];rcases AqY hd with h|⟨h,h2⟩
   .exact Au rfl
   .refine Ap ?_
    rw[AD,Cr hlt];refine Af ?_;rw[Io hlt];exact Au rfl
  |true=>
   have hd1:=AeX hd;have hd2:=AqX hd;rw[Bool.true_and,Qz];have ih':=ih (i+1) (v*10+(s.data.toList[i].toNat-48)) (by omega) (by omega) (Y2 hv hd1);have lv:=BS hv
   by_cases h:(s.data.toList.drop (i+1)).all IV=U
   .rw[Ac h]at ih' ⊢
    refine Ax K Qw (Uk ..) ?_;rw[BW];refine Au ?_;rw[AD,Cr hlt];refine Af ?_;rw[Io hlt];refine Ap ?_;rw[AD,Cr hlt];refine Af ?_;rw[Io hlt];refine Ap ?_;have g:=Og K (a:=AY v) (AE _) (by omega) 10 (by omega);rw[A0]at g;refine Aa g ?_;simp only[eN,IM,Ae];rw[AD,Cr hlt];refine Af ?_;rw[Io hlt];rw[AoG hd2,BT (by omega)];have l3:(AY (v*10)).length<=i+1:=BS (by have:=Y2 hv (d:=0) (by omega);simpa using this);have g2:=KZ K (a:=AY (v*10)) (b:=[s.data.toList[i].toNat-48]) (by omega) (AE _) (by simp) (Rv (by omega));rw[A0,show Am [s.data.toList[i].toNat-48]=s.data.toList[i].toNat-48 by simp[Am]]at g2;refine Aa g2 ?_;simp only[eN,IM,Ae];rw[Bv (by omega)];refine Aa ih' ?_;rfl
   .rw[Ab h]at ih' ⊢
    refine Ax K Qw (Uk ..) ?_;rw[BW];refine Au ?_;rw[AD,Cr hlt];refine Af ?_;rw[Io hlt];refine Ap ?_;rw[AD,Cr hlt];refine Af ?_;rw[Io hlt];refine Ap ?_;have g:=Og K (a:=AY v) (AE _) (by omega) 10 (by omega);rw[A0]at g;refine Aa g ?_;simp only[eN,IM,Ae];rw[AD,Cr hlt];refine Af ?_;rw[Io hlt];rw[AoG hd2,BT (by omega)];have l3:(AY (v*10)).length<=i+1:=BS (by have:=Y2 hv (d:=0) (by omega);simpa using this);have g2:=KZ K (a:=AY (v*10)) (b:=[s.data.toList[i].toNat-48]) (by omega) (AE _) (by simp) (Rv (by omega));rw[A0,show Am [s.data.toList[i].toNat-48]=s.data.toList[i].toNat-48 by simp[Am]]at g2;refine Aa g2 ?_;simp only[eN,IM,Ae];rw[Bv (by omega)];refine Aa ih' ?_;rfl
theorem Of(s:ByteArray):D.ask (.fn 182) [sv s] []=V (.tup [eN (Jv s).1,iv (Jv s).2],[]):=by
 refine Ao K Qw (Auk ..) ?_;unfold Jv;rw[BW]
 by_cases h1:4000<s.size
 .rw[Ac h1]
  exact Au rfl
 rw[Ab h1];refine Ap ?_;have g:=Adz K (s:=s) (by omega) s.size 0 0 (by omega) (by omega) (by simp);rw[κ,FW]at g
 by_cases h2:s.size=0
 .rw[Ac h2]
  have h3:s=ByteArray.empty:=by simpa using h2
  subst h3;rw[Ac (show ByteArray.empty.data.toList.all IV=U from rfl)]at g;refine Aa g ?_;simp only[eN,IM,Ae];rfl
 rw[Ab h2]
 by_cases h3:s.data.toList.all IV=U
 .rw[Ac h3]at g ⊢
  refine Aa g ?_;simp only[eN,IM,Ae];rw[BW];refine As ?_;have l1:(AY (hor 0 s.data.toList)).length<=s.size:=BS (by
   have:=Y5 s.data.toList h3 (v:=0) (i:=0) (by simp)
   rwa [Nat.zero_add,show s.data.toList.length=s.size by simp]at this)
  have g2:=GH K (l:=AY (hor 0 s.data.toList)) (by unfold Db;omega) (AE _);rw[A0]at g2;refine Aa g2 ?_;rfl
 .rw[Ab h3]at g ⊢
  refine Aa g ?_;rfl
theorem Ah0{a b:Aj}(hl:a.length=b.length)(hs:Db a):∀(k i:Nat),a.length-i=k->i<=a.length->D.ask (.lp 258 0) [eN a,eN b,iv (i:Int)] []=if a.drop i=b.drop i then V (.tup [iv 0],[]) else V (.tup [bv U,bv Θ],[]):=by
 intro k;unfold Db at hs
 induction k with
 |zero=>
  intro i hk hi;rw[υ (show a.length<=i by omega),υ (show b.length<=i by omega),Ac rfl];refine Ax K Qy (Uo ..) ?_;rw[Al];exact Ap rfl
 |succ k ih=>
  intro i hk hi;have h1:i<a.length:=by omega
  have h2:i<b.length:=by omega
  have ih':=ih (i+1) (by omega) (by omega);rw[χ h1,χ h2]
  by_cases h:a[i]=b[i]
  .by_cases h3:a.drop (i+1)=b.drop (i+1)
   .rw[Ac h3]at ih'
    rw[Ac (by rw[h,h3])];refine Ax K Qy (Uo ..) ?_;rw[Al];refine Au ?_;rw[AD,AA (Ψ h1)];simp only[eL,IM,Ae];rw[AD,AA (Ψ h2)];simp only[eL,IM,Ae];rw[Bv (by omega)];refine Aw ?_;refine Aa ih' ?_;rfl
   .rw[Ab h3]at ih'
    rw[Ab (λe=>h3 (List.cons.inj e).2)];refine Ax K Qy (Uo ..) ?_;rw[Al];refine Au ?_;rw[AD,AA (Ψ h1)];simp only[eL,IM,Ae];rw[AD,AA (Ψ h2)];simp only[eL,IM,Ae];rw[Bv (by omega)];refine Aw ?_;refine Aa ih' ?_;rfl
  .rw[Ab (λe=>h (List.cons.inj e).1)]
   refine Ax K Qy (Uo ..) ?_;rw[Al];refine Au ?_;rw[AD,AA (Ψ h1)];simp only[eL,IM,Ae];rw[AD,AA (Ψ h2)];simp only[eL,IM,Ae];rw[Bv (by omega)];exact As rfl
theorem AhF{a b:Aj}(hs:Db a):D.ask (.fn 258) [eN a,eN b] []=V (bv (decide (a=b)),[]):=by
 refine Ao K Qy (AuT ..) ?_;rw[Al,Al]
 by_cases hl:a.length=b.length
 .refine Aw ?_
  have g:=Ah0 K hl hs a.length 0 (by omega) (by omega);rw[κ,κ]at g
  by_cases h:a=b
  .rw[Ac h]at g
   rw[AW h];refine Aa g ?_;rfl
  .rw[Ab h]at g
   rw[Be h];refine Aa g ?_;rfl
 .refine As ?_
  rw[Be (λe=>hl (by rw[e]))]
end
theorem V7{s:ByteArray}(h:0<s.size):Pg s ↔ Ak.sat s 0=45:=by
 rw[Io h];unfold Pg;have hl:0<s.data.toList.length:=by simpa using h
 have e:(s.extract 0 1).data.toList=[s.data.toList[0]'hl]:=by
  rw[ByteArray.data_extract,Array.toList_extract];obtain⟨x,r,e⟩:∃ x r,s.data.toList=x::r:=by
   cases e:s.data.toList with
   |nil=>rw[e]at hl;cases hl
   |cons x r=>exact⟨x,r,rfl⟩
  simp[List.extract,e]
 constructor
 .rintro⟨_,h2⟩
  rw[h2]at e;have:(45:UInt8)=s.data.toList[0]'hl:=(List.cons.inj e).1;rw[←this];rfl
 .intro h2
  refine⟨h,ByteArray.ext (Array.ext' ?_)⟩;rw[e];have:s.data.toList[0]'hl=(45:UInt8):=UInt8.toNat_inj.1 (by rw[show (45:UInt8).toNat=45 from rfl];omega);rw[this];rfl
theorem Ji{z:Zi}(h:zv z<0):zv z=-(Am z.abs:Int):=by
 unfold zv E5 at *
 cases e:z.neg<;>rw[e]at h<;>simp at h ⊢
 omega
theorem Ge{z:Zi}(h:¬ zv z<0):zv z=(Am z.abs:Int):=by
 unfold zv E5 at *
 cases e:z.neg<;>rw[e]at h<;>simp at h ⊢
 omega
theorem Oj{n:Int}:DS n<0 ↔ n<0:=by
 unfold DS;split
 .omega
 .split<;>omega
theorem AjV{k:Nat}{x y:Int}(hx:InB k x)(hy:InB k y):InB (k+1) (x+y):=by
 unfold InB at *;rw[AxE];have:=Int.natAbs_add_le x y;omega
theorem Td{k:Nat}(hk:k<=900000000){a b:Zi}(ha:Lz k a)(hb:Lz k b):Db (AY (Am a.abs+Am b.abs)):=by
 unfold Db;have h1:=ha.inb;have h2:=hb.inb;have f:∀ z:Zi,(zv z).natAbs=Am z.abs:=λz=>by
  unfold zv E5;split
  .rw[Ax8];rfl
  .rfl
 unfold InB at h1 h2;rw[f]at h1 h2;have:=BS (n:=Am a.abs+Am b.abs) (k:=k+1) (by rw[AxE];omega);omega
theorem Ea(n:Int):DS n=-1/\n<0\/DS n=1/\0<n\/DS n=0/\n=0:=by
 unfold DS;split
 .omega
 .split<;>omega
theorem Vc(x y:Int):Ak.mul .i64 (DS x) (DS y)=DS x*DS y:=by
 show IntKind.i64.wrap (DS x*DS y)=_
 rw[IntKind.wrap_i64];rcases Ea x with h|h|h<;>rcases Ea y with h2|h2|h2<;>rw[h.1,h2.1]<;>rfl
theorem ZA{a b:Zi}(h:DS (zv a)*DS (zv b)<0):E5 U (Am a.abs*Am b.abs)=zv a*zv b:=by
 unfold E5;rw[Ac rfl,AyH]
 by_cases ha:zv a<0
 .rw[Ji ha]
  by_cases hb:zv b<0
  .exfalso
   rcases Ea (zv a) with h1|h1|h1<;>rcases Ea (zv b) with h2|h2|h2<;>rw[h1.1,h2.1]at h<;>omega
  .rw[Ge hb,Int.neg_mul]
 .rw[Ge ha]
  by_cases hb:zv b<0
  .rw[Ji hb,Int.mul_neg]
  .exfalso
   rcases Ea (zv a) with h1|h1|h1<;>rcases Ea (zv b) with h2|h2|h2<;>rw[h1.1,h2.1]at h<;>omega
theorem ZB{a b:Zi}(h:¬ DS (zv a)*DS (zv b)<0):E5 Θ (Am a.abs*Am b.abs)=zv a*zv b:=by
 unfold E5;rw[Ab (by simp),AyH];rcases Ea (zv a) with h1|h1|h1
 .rcases Ea (zv b) with h2|h2|h2
  .rw[Ji h1.2,Ji h2.2,Int.neg_mul_neg]
  .exfalso
   rw[h1.1,h2.1]at h;omega
  .have:=Ge (z:=b) (by omega)
   rw[h2.2,Ay4,←this,h2.2,Ay4]
 .rcases Ea (zv b) with h2|h2|h2
  .exfalso
   rw[h1.1,h2.1]at h;omega
  .rw[←Ge (z:=a) (by omega),←Ge (z:=b) (by omega)]
  .have:=Ge (z:=b) (by omega)
   rw[h2.2,Ay4,←this,h2.2,Ay4]
 .have:=Ge (z:=a) (by omega)
  rw[h1.2,AzR,←this,h1.2,AzR]
section
variable {D:Orc} (K:Knows Ah TE D) (R:Knows Ah AbO D)
include K R
theorem DB(neg:Bool){a:Aj}(ha:Limbs a)(hs:Db a):D.ask (.fn 180) [bv neg,eN a] []=V (.agg (eZ (Bo (E5 neg (Am a)))),[]):=by
 refine Ao R AmE (Aui ..) ?_;refine Aa (GH K hs ha) ?_;simp only[eN,Ae,Al];rw[AbZ];unfold eZ eN;have hp:=@F8 (Am a)
 by_cases h:0<Am a
 .refine As ?_ (by have:=hp.2 h;omega)
  rw[AW h,Ayl]
 .have h0:Am a=0:=by omega
  rw[Be h,Azf,h0,FW];exact Aw rfl rfl
theorem Adr{z:Zi}(hz:Lz 1000000000 z):D.ask (.fn 179) [.agg (eZ z)] []=V (.agg (eZ (Bo (zv z))),[]):=by
 refine Ao R AmD (Auh ..) ?_;refine Aa (DB K R z.neg hz.lim hz.len) ?_;rfl
theorem FM{z:Zi}(hz:Lz 1000000000 z):D.ask (.fn 116) [.agg (eZ z)] []=V (iv (DS (zv z)),[]):=by
 refine Ao R Al7 (AtD ..) ?_;refine Aa (GH K hz.len hz.lim) ?_;simp only[eN,Ae,Al];have hp:=@F8 (Am z.abs);unfold zv E5
 by_cases h:0<Am z.abs
 .refine As ?_ (by have:=hp.2 h;omega)
  cases z.neg with
  |false=>
   refine BF ?_;rw[Ab (by simp)];unfold DS;rw[Ab (by omega)]
   first|rw[Ac (by omega)] | rw[Ab (by omega)]
  |true=>
   refine Af ?_;rw[Ac rfl];unfold DS
   first|rw[Ac (by omega)] | rw[Ab (by omega),Ab (by omega)]
 .have h0:Am z.abs=0:=by omega
  rw[h0,FW];refine Aw ?_ rfl
  cases z.neg<;>rfl
theorem Abs{z:Zi}(hz:Lz 1000000000 z):D.ask (.fn 123) [.agg (eZ z)] []=V (.agg (eZ (Bo (-zv z))),[]):=by
 have e:-zv z=E5 (!z.neg) (Am z.abs):=by
  unfold zv E5
  cases z.neg<;>simp
 rw[e];refine Ao R Amc (AtJ ..) ?_;rw[AhG];have g:=λb=>DB K R b hz.lim hz.len
 cases z.neg with
 |false=>
  refine Af ?_;refine Aa (g U) ?_;rfl
 |true=>
  refine BF ?_;refine Aa (g Θ) ?_;rfl
theorem ZU(s:ByteArray):D.ask (.fn 120) [sv s] []=V (.tup [.agg (eZ (Hx s).1),iv (Hx s).2],[]):=by
 refine Ao R Ama (AtH ..) ?_;unfold Hx Js;rw[BW]
 by_cases h0:0<s.size
 .refine Au ?_
  rw[show Nat.blt 0 s.size=U from Cr h0];refine Af ?_
  by_cases h1:Pg s
  .rw[Ac h1]
   refine Aw ?_ ((V7 h0).1 h1);rw[show Lr 1 s.size s.size=U by unfold Lr;rw[Axl h1.1,Axl (ω _)]];refine Af ?_;generalize hx:Ak.ssub s 1 s.size=x;rw[show s.extract 1 s.size=x from hx];refine Aa (Of K x) ?_;simp only[eN,IM,Ae]
   by_cases h:(Jv x).2=0
   .rw[Ac h]
    refine Aw ?_ h;refine Aa (DB K R U (GD _) (by unfold Db;have:=J4 x;omega)) ?_;rfl
   .rw[Ab h]
    exact As rfl h
  .rw[Ab h1]
   refine As ?_ (λh=>h1 ((V7 h0).2 h));refine Aa (Of K s) ?_;simp only[eN,IM,Ae]
   by_cases h:(Jv s).2=0
   .rw[Ac h]
    refine Aw ?_ h;refine Aa (DB K R Θ (GD _) (by unfold Db;have:=J4 s;omega)) ?_;rfl
   .rw[Ab h]
    exact As rfl h
 .rw[Ab (λh1:Pg s=>h0 h1.1)]
  refine Ap ?_;refine Aa (Of K s) ?_;simp only[eN,IM,Ae]
  by_cases h:(Jv s).2=0
  .rw[Ac h]
   refine Aw ?_ h;refine Aa (DB K R Θ (GD _) (by unfold Db;have:=J4 s;omega)) ?_;rfl
  .rw[Ab h]
   exact As rfl h
theorem Tu{k:Nat}(hk:k<=900000000){a b:Zi}(ha:Lz k a)(hb:Lz k b)(hp:¬ zv a<0):D.ask (.fn 124) [.agg (eZ a),.agg (eZ b)] []=V (.agg (eZ (Bo (zv a+zv b))),[]):=by
 have la:=ha.len;have lb:=hb.len;have sa:=FM K R (ha.mono (show k<=1000000000 by omega));have sb:=FM K R (hb.mono (show k<=1000000000 by omega));have ea:=Ge hp;have hsa:¬ DS (zv a)<0:=λh=>hp (Oj.1 h)
 refine Ao R AfY (AqZ ..) ?_;refine Aa sa ?_;simp only[Vq,Ae];refine Ap ?_ hsa;refine Aa sa ?_;simp only[Vq,Ae];refine Cg ?_;refine Aa sb ?_;simp only[Vq,Ae]
 by_cases hb0:zv b<0
 .have hsb:=Oj.2 hb0
  have eb:=Ji hb0;refine Cm ?_;refine Aa sa ?_;simp only[Vq,Ae];refine Ap ?_ hsa;have g1:=Abt K (a:=a.abs) (b:=b.abs) (by unfold Db;omega) ha.lim (by unfold Db;omega) hb.lim;unfold Qk at g1;refine Aa g1 ?_
  by_cases hle:Am b.abs<=Am a.abs
  .rw[Ac hle]
   simp only[eN,Ae];have g2:=DB K R Θ (a:=AY (Am a.abs-Am b.abs)) (AE _) (by
    unfold Db;have:=BS (n:=Am a.abs-Am b.abs) (k:=a.abs.length) (by have:=Dy ha.lim;omega);omega)
   rw[A0,show E5 Θ (Am a.abs-Am b.abs)=zv a+zv b by unfold E5;rw[Ab (by simp)];omega]at g2;refine Aa g2 ?_;rfl
  .rw[Ab hle]
   simp only[eN,Ae];have g3:=Abt K (a:=b.abs) (b:=a.abs) (by unfold Db;omega) hb.lim (by unfold Db;omega) ha.lim;unfold Qk at g3;rw[Ac (show Am a.abs<=Am b.abs by omega)]at g3;refine Aa g3 ?_;simp only[eN,Ae];have g2:=DB K R U (a:=AY (Am b.abs-Am a.abs)) (AE _) (by
    unfold Db;have:=BS (n:=Am b.abs-Am a.abs) (k:=b.abs.length) (by have:=Dy hb.lim;omega);omega)
   rw[A0,show E5 U (Am b.abs-Am a.abs)=zv a+zv b by unfold E5;rw[Ac rfl];omega]at g2;refine Aa g2 ?_;rfl
 .have hsb:¬ DS (zv b)<0:=λh=>hb0 (Oj.1 h)
  have eb:=Ge hb0;refine Cg ?_;refine Aa (KZ K (by omega) ha.lim (by omega) hb.lim) ?_;simp only[eN,Ae];have g2:=DB K R Θ (a:=AY (Am a.abs+Am b.abs)) (AE _) (Td hk ha hb);rw[A0,show E5 Θ (Am a.abs+Am b.abs)=zv a+zv b by unfold E5;rw[Ab (by simp)];omega]at g2;refine Aa g2 ?_;rfl
theorem XB{k:Nat}(hk:k<=900000000){a b:Zi}(ha:Lz k a)(hb:Lz k b):D.ask (.fn 124) [.agg (eZ a),.agg (eZ b)] []=V (.agg (eZ (Bo (zv a+zv b))),[]):=by
 by_cases hp:zv a<0
 .have la:=ha.len
  have lb:=hb.len;have sa:=FM K R (ha.mono (show k<=1000000000 by omega));have sb:=FM K R (hb.mono (show k<=1000000000 by omega));have ea:=Ji hp;have hsa:=Oj.2 hp;refine Ao R AfY (AqZ ..) ?_;refine Aa sa ?_;simp only[Vq,Ae];refine Au ?_ hsa;refine Aa sb ?_;simp only[Vq,Ae]
  by_cases hb0:zv b<0
  .have eb:=Ji hb0
   refine Au ?_ (Oj.2 hb0);refine Aa (KZ K (by omega) ha.lim (by omega) hb.lim) ?_;simp only[eN,Ae];have g2:=DB K R U (a:=AY (Am a.abs+Am b.abs)) (AE _) (Td hk ha hb);rw[A0,show E5 U (Am a.abs+Am b.abs)=zv a+zv b by unfold E5;rw[Ac rfl];omega]at g2;refine Aa g2 ?_;rfl
  .refine Ap ?_ (λh=>hb0 (Oj.1 h))
   refine Aa sa ?_;simp only[Vq,Ae];refine Cm ?_;refine Aa sa ?_;simp only[Vq,Ae];refine Au ?_ hsa;have g:=Tu K R hk hb ha hb0;rw[Int.add_comm]at g;refine Aa g ?_;rfl
 .exact Tu K R hk ha hb hp
theorem Ah8{k:Nat}(hk:k<=900000000){a b:Zi}(ha:Lz k a)(hb:Lz k b):D.ask (.fn 118) [.agg (eZ a),.agg (eZ b)] []=V (.agg (eZ (Bo (zv a-zv b))),[]):=by
 refine Ao R Al8 (AtF ..) ?_;refine Aa (Abs K R (hb.mono (show k<=1000000000 by omega))) ?_;have hn:Lz k (Bo (-zv b)):=InB.lz (by have:=hb.inb;unfold InB at *;rwa [Ax8]);have g:=XB K R hk ha hn;rw[CV,←Azo]at g;simp only[eZ,eN,Ae];refine Aa g ?_;rfl
theorem Ah6{k:Nat}(hk:k<=900000000){a b:Zi}(ha:Lz k a)(hb:Lz k b):D.ask (.fn 67) [.agg (eZ a),.agg (eZ b)] []=V (iv (DS (zv a-zv b)),[]):=by
 refine Ao R ArB (e67 ..) ?_;refine Aa (Ah8 K R hk ha hb) ?_;have hs:Lz (k+1) (Bo (zv a-zv b)):=InB.lz (by rw[Azo];exact AjV ha.inb (by have:=hb.inb;unfold InB at *;rwa [Ax8]));have g:=FM K R (hs.mono (show k+1<=1000000000 by omega));rw[CV]at g;simp only[eZ,eN,Ae];refine Aa g ?_;rfl
theorem Ah7{k m:Nat}(hk:k<=400000000)(hm:m<=400000000){a b:Zi}(ha:Lz k a)(hb:Lz m b):D.ask (.fn 122) [.agg (eZ a),.agg (eZ b)] []=V (.agg (eZ (Bo (zv a*zv b))),[]):=by
 have la:=ha.len;have lb:=hb.len;have sa:=FM K R (ha.mono (show k<=1000000000 by omega));have sb:=FM K R (hb.mono (show m<=1000000000 by omega));refine Ao R Amb (AtI ..) ?_;refine Aa sa ?_;simp only[Vq,Ae];refine Aa sb ?_;simp only[Vq,Ae];have g:=AkJ K ha.lim hb.lim (by omega);have l1:=F7 ha.lim hb.lim;have gf:∀ ng,D.ask (.fn 180) [bv ng,eN (AY (Am a.abs*Am b.abs))] []=V (.agg (eZ (Bo (E5 ng (Am a.abs*Am b.abs)))),[]):=λng=>by
  have:=DB K R ng (a:=AY (Am a.abs*Am b.abs)) (AE _) (by unfold Db;omega)
  rwa [A0]at this
 have hmul:Ak.mul .i64 (DS (zv a)) (DS (zv b))=DS (zv a)*DS (zv b):=Vc _ _;rw[hmul]
 by_cases h:DS (zv a)*DS (zv b)<0
 .refine Au ?_ h
  refine Aa g ?_;simp only[eN,Ae];have g2:=gf U;rw[ZA h]at g2;refine Aa g2 ?_;rfl
 .refine Ap ?_ h
  refine Aa g ?_;simp only[eN,Ae];have g2:=gf Θ;rw[ZB h]at g2;refine Aa g2 ?_;rfl
theorem AdD{a b:Zi}(ha:Lz 1000000000 a):D.ask (.fn 238) [.agg (eZ a),.agg (eZ b)] []=V (bv (decide (a.neg=b.neg/\a.abs=b.abs)),[]):=by
 refine Ao R AmV (AuK ..) ?_;rw[In]
 by_cases h:a.neg=b.neg
 .rw[show (a.neg == b.neg)=U by simp[h]]
  refine Af ?_;refine Aa (AhF K (a:=a.abs) (b:=b.abs) ha.len) ?_
  by_cases h2:a.abs=b.abs
  .rw[AW h2,AW ⟨h,h2⟩]
   rfl
  .rw[Be h2,Be (λe=>h2 e.2)]
   rfl
 .rw[show (a.neg == b.neg)=Θ by simp[h],Be (λe=>h e.1)]
  exact BF rfl
end
theorem AhI(m:Nat)(h:m<9223372036854775808):Ak.rem .i64 (m:Int) 4294967296=((m % 4294967296:Nat):Int):=by
 show Int.tmod (m:Int) 4294967296=_
 rw[show (4294967296:Int)=((4294967296:Nat):Int) from rfl,←Int.ofNat_tmod]
theorem AhH(m:Nat)(h:m<9223372036854775808):Ak.quo .i64 (m:Int) 4294967296=((m / 4294967296:Nat):Int):=by
 show IntKind.i64.wrap (Int.tdiv (m:Int) 4294967296)=_
 rw[IntKind.wrap_i64,show (4294967296:Int)=((4294967296:Nat):Int) from rfl,←Int.ofNat_tdiv];omega
theorem XZ(m:Nat):Am [m % 4294967296,m / 4294967296]=m:=by
 unfold Am Am Am;omega
theorem SW(m:Nat)(h:m<9223372036854775808):Limbs [m % 4294967296,m / 4294967296]:=B6 (by omega) (B6 (by omega) Cn)
structure RF (D:Orc):Prop where
 clean:∀ z:Zi,Lz 1000000000 z->D.ask (.fn 179) [.agg (eZ z)] []=V (.agg (eZ (Bo (zv z))),[])
 neg:∀ z:Zi,Lz 1000000000 z->D.ask (.fn 123) [.agg (eZ z)] []=V (.agg (eZ (Bo (-zv z))),[])
 sign:∀ z:Zi,Lz 1000000000 z->D.ask (.fn 116) [.agg (eZ z)] []=V (iv (DS (zv z)),[])
 of_:∀ n:Int,-9223372036854775808<n->n<9223372036854775808->D.ask (.fn 119) [iv n] []=V (.agg (eZ (Bo n)),[])
 cmp:∀ a b:Zi,Lz 900000000 a->Lz 900000000 b->D.ask (.fn 67) [.agg (eZ a),.agg (eZ b)] []=V (iv (DS (zv a-zv b)),[])
 add:∀ a b:Zi,Lz 900000000 a->Lz 900000000 b->D.ask (.fn 124) [.agg (eZ a),.agg (eZ b)] []=V (.agg (eZ (Bo (zv a+zv b))),[])
 mul:∀ a b:Zi,Lz 400000000 a->Lz 400000000 b->D.ask (.fn 122) [.agg (eZ a),.agg (eZ b)] []=V (.agg (eZ (Bo (zv a*zv b))),[])
 parse:∀ s:ByteArray,D.ask (.fn 120) [sv s] []=V (.tup [.agg (eZ (Hx s).1),iv (Hx s).2],[])
 same:∀ a b:Zi,Lz 1000000000 a->D.ask (.fn 238) [.agg (eZ a),.agg (eZ b)] []=V (bv (decide (a.neg=b.neg/\a.abs=b.abs)),[])
section
variable {D:Orc} (K:Knows Ah TE D) (R:Knows Ah AbO D)
include K R
theorem Ap8(n:Int)(h1:-9223372036854775808<n)(h2:n<9223372036854775808):D.ask (.fn 119) [iv n] []=V (.agg (eZ (Bo n)),[]):=by
 refine Ao R Al9 (AtG ..) ?_
 by_cases h:0<=n
 .obtain⟨m,rfl⟩:=Int.eq_ofNat_of_zero_le h
  have g:=DB K R Θ (SW m (by omega)) (by unfold Db;simp);rw[XZ,show E5 Θ m=(m:Int) from rfl]at g;refine Cg ?_ h;refine As ?_ (by decide);refine As ?_ (by decide);rw[AhI m (by omega),AhH m (by omega),BT (by omega),BT (by omega)];refine Aa g ?_;rfl
 .obtain⟨m,hm⟩:∃ m:Nat,n=-((m+1:Nat):Int):=⟨n.natAbs-1,by omega⟩
  have e1:Ak.sub .i64 0 (Ak.add .i64 n 1)=(m:Int):=by
   rw[J8 (by omega) (by omega),Ip (by omega) (by omega)];omega
  have ga:=KZ K (a:=[m % 4294967296,m / 4294967296]) (b:=[1]) (by simp) (SW m (by omega)) (by simp) (B6 (by omega) Cn);rw[XZ,show Am [1]=1 from rfl]at ga;have hl:(AY (m+1)).length<=2:=BS (by omega);have g:=DB K R U (AE (m+1)) (by unfold Db;omega);rw[A0,show E5 U (m+1)=n by rw[hm];rfl]at g;refine Cm ?_ h;refine As ?_ (by decide);refine As ?_ (by decide);rw[e1,AhI m (by omega),AhH m (by omega),BT (by omega),BT (by omega)];refine Aa ga ?_;simp only[eN,Ae];refine Aa g ?_;rfl
theorem As1:RF D where
 clean z h:=Adr K R h
 neg z h:=Abs K R h
 sign z h:=FM K R h
 of_ n h1 h2:=Ap8 K R n h1 h2
 cmp a b ha hb:=Ah6 K R (ω _) ha hb
 add a b ha hb:=XB K R (ω _) ha hb
 mul a b ha hb:=Ah7 K R (ω _) (ω _) ha hb
 parse s:=ZU K R s
 same a b ha:=AdD K R ha
end
theorem Aig(n:Int):DS n=0 ↔ n=0:=by
 unfold DS
 repeat' split
 all_goals omega
section
variable {D:Orc} (Kh:Knows Ah RA D) (F:RF D)
include Kh F
theorem Aju{n k:Nat}{ps:List Pt}{kz:Zi}(ht:TmB n k ⟨ps,kz⟩)(hn:n<=1000000)(hk:k+n<=400000000)(v:Int)(y0:Bool)(y1:Rw):∀(m i:Nat) (acc:Int),ps.length-i=m->i<=ps.length->InB (k+i) acc->
  D.ask (.lp 178 0) [iv v,.ptr 0 0,.ptr 1 0,.ptr 2 0,iv (i:Int)] [⟨[.ls (ps.map eP),bv kz.neg,eN kz.abs],U,Θ⟩,⟨[bv y0,.ls y1],U,Θ⟩,⟨eZ (Bo acc),U,Θ⟩]
   = V (.tup [iv 0,.ptr 1 0,.ptr 2 0],[.del,.set ⟨[bv y0,.ls y1],U,Θ⟩,.set ⟨eZ (Bo (acc+if 0<=v then Bm v ((ps.drop i).map pv) else 0)),U,Θ⟩]):=by
 have hlen:ps.length<=n:=ht.len;intro m
 induction m with
 |zero=>
  intro i acc hm hi ha;rw[υ (by omega)];have e0:acc+(if 0<=v then Bm v (([]:List Pt).map pv) else 0)=acc:=by
   rw[Axx,Bm];split<;>omega
  rw[e0];refine Ax Kh Wh (Ae6 ..) ?_;rw[Al];exact Ap rfl
 |succ m ih=>
  intro i acc hm hi ha;have h1:i<ps.length:=by omega
  have hz:=ht.ps ps[i] (Awy h1);rw[χ h1,AwP,Bm];have hn1:∀ kk,Bt (ps.map eP) i kk=kk (eP ps[i]):=λkk=>AA (Ψ h1) kk
  have ga:=F.add (Bo acc) ps[i].z (ha.lz.mono (by omega)) (hz.mono (by omega));rw[CV]at ga;have ih1:=ih (i+1) acc (by omega) (by omega) (ha.mono (by omega));have ih2:=ih (i+1) (acc+zv ps[i].z) (by omega) (by omega) (by
   show InB (k+i+1) _
   exact InB.add ha (hz.inb.mono (by omega)))
  refine Ax Kh Wh (Ae6 ..) ?_;rw[Al];refine Au ?_;rw[AD,hn1];simp only[eP,eN,Ae]
  by_cases hv:ps[i].v=v
  .refine Aw ?_ hv
   by_cases h0:0<=v
   .refine Cg ?_ h0
    rw[AD,hn1];simp only[eP,eN,Ae];refine Aa ga ?_;simp only[eZ,eN,Ae];rw[Bv (by omega)];refine Aa ih2 ?_;rw[Ac h0,Ac h0,Ac (show (pv ps[i]).1=v from hv),Int.add_assoc];rfl
   .refine Cm ?_ h0
    rw[Bv (by omega)];refine Aa ih1 ?_;rw[Ab h0,Ab h0];rfl
  .refine As ?_ hv
   rw[Bv (by omega)];refine Aa ih1 ?_;rw[Ab (show ¬(pv ps[i]).1=v from hv),AzQ];rfl
theorem Aar{n k:Nat}{t:Tm}(ht:TmB n k t)(hn:n<=1000000)(hk:k+n<=400000000)(v:Int):D.ask (.fn 178) [.agg (eT t),iv v] []=V (.agg (eZ (Bo (if 0<=v then Bm v t.lf.ps else 0))),[]):=by
 obtain⟨ps,kz⟩:=t;have g:=Aju Kh F ht hn hk v Θ [] _ 0 0 rfl (by omega) (InB.zero _);rw[κ,AzQ]at g;have e0:eZ (Bo 0)=[bv Θ,.ls []]:=by rw[Vv];rfl
 rw[e0]at g;refine Ao Kh Wh (Aug ..) ?_;refine Aa g ?_;rfl
def AeG(x:Fm):ABlk:=θ (eF x) U Θ
end
section
open Go.RowKit
variable (A:Ar) (D:Orc)
end

section
open Go.RowKit
variable (A:Ar) (D:Orc)
end

section
variable {D:Orc}
mutual
theorem UR:∀ t:Tr,I1 t=E1 t
 |.mk _ _ _ _ _ _ ks=>by
  rw[I1,E1,Xf ks];omega
theorem Xf:∀ l:List Tr,Jp l=Fz l
 |[]=>by rw[Jp,Fz]
 |x::r=>by rw[Jp,Fz,UR x,Xf r]
end
end
theorem AcW{t:Tr}(vars:List ByteArray)(ps:List Pr)(h:AR t 0=U)(hs:(Cb t).length<=16384):∃ ts,BV (Cb t)=.ok ts/\E8 ts (0+(AG t).length) ((5,[])::[])/\ResK (Ha vars ps t) (Dc ts vars U ps) (0+(AG t).length) t:=by
 obtain⟨hl,_⟩:=ApV _ t 0 (Awz _) h;obtain⟨ts,h1,h2⟩:=AcQ hl hs;have hlen:ts.length=(AG t).length+1:=by
  have:=congrArg List.length h2;simpa using this
 have hat:E8 ts 0 (AG t++(5,[])::[]):=h2;have L:=(Agw vars ps (ts:=ts) _ t 0 (Awz _) h).p (8*ts.length+5) 0 0 (5,[]) [] hat (.inl rfl) (by decide) h (by omega);exact⟨ts,h1,Ds hat,L⟩
theorem WU{t:Tr}{vars:List ByteArray}{ps:List Pr}(h:AR t 0=U)(hs:(Cb t).length<=16384)(hk:Ha vars ps t=U):Ci (Cb t) vars ps=(t,0,0,0):=by
 obtain⟨ts,h1,h2,h3⟩:=AcW vars ps h hs;unfold Ci;rw[h1];simp only;rw[h3.y hk];unfold YO;have hk:=(Bi h2).1.1;simp only[if_true,hk]
theorem WW{s:List UInt8}{vars:List ByteArray}{ps:List Pr}(hs:16384<s.length):Ci s vars ps=(T0,1,1,2):=by
 unfold Ci BV;rw[Ac hs]
section
variable {ts:List Tk} (H:TkN ts) (vars:List ByteArray)
theorem AiO{i:Nat}(h:(GQ ts vars U i).2.1=0):∃ s,Ce s=U/\(GQ ts vars U i).2.2=Ai s/\Ai s∈vars:=by
 unfold GQ at h ⊢
 by_cases hn:isN ts i=Θ
 .grind
 .rw[Ab hn]at h ⊢
  by_cases hv:U=U/\Ai (nx ts i).text∉vars
  .grind
  .rw[Ab hv]
   exact⟨_,(Za (by simpa using hn)).2,rfl,Decidable.byContradiction λhc=>hv ⟨rfl,hc⟩⟩
include H
theorem Akq{i:Nat}{neg:Bool}(h:(A3 ts vars U i neg).2.1=0):AS (A3 ts vars U i neg).2.2=U/\MY vars (A3 ts vars U i neg).2.2=U:=by
 unfold A3 at h ⊢
 by_cases hk:(nx ts i).kind=3
 .rw[Ac hk]at h ⊢
  have hn:=H.num i hk
  by_cases hm:isT ts (i+1) [42]=U
  .rw[Ac hm]at h ⊢
   obtain⟨s,h1,h2,h3⟩:=AiO vars h;simp only[h2];refine⟨?_,?_⟩
   .grind [AS,MH,Ua,Abl]
   .unfold MY
    simp[h3]
  .simp_all [MY,AS,MH,Ua,Ab,Abl]
 .rw[Ab hk]at h ⊢
  obtain⟨s,h1,h2,h3⟩:=AiO vars h;simp only[h2];refine⟨?_,?_⟩
  .grind [AS,MH,Ua,Ag7]
  .unfold MY
   simp[h3]
theorem Z4:∀(k:Nat) (out:List Mo) (neg:Bool) (i:Nat),out.length+k=64->out.all AS=U->out.all (MY vars)=U->(EU ts vars U k out neg i).2.1=0->
  IG (EU ts vars U k out neg i).2.2=U/\Es vars (EU ts vars U k out neg i).2.2=U
 |0,out,neg,i,h1,h2,h3,h4=>by
  grind [absurd,EU]
 |k+1,out,neg,i,h1,h2,h3,h4=>by
  have ih:=Z4 k (out++[(A3 ts vars U i neg).2.2]);unfold EU at h4 ⊢
  by_cases hb:Pb ts i=Θ
  .grind
  rw[Ab hb]at h4 ⊢;simp only at h4 ⊢
  by_cases he:(A3 ts vars U i neg).2.1=0
  .rw[Ab (λh=>h he)]at h4 ⊢
   obtain⟨g1,g2⟩:=Akq H vars he;have ha:(out++[(A3 ts vars U i neg).2.2]).all AS=U:=by simp only[AzF,h2,Axn,g1,AzT,AzM]
   have hb:(out++[(A3 ts vars U i neg).2.2]).all (MY vars)=U:=by simp only[AzF,h3,Axn,g2,AzT,AzM]
   have hlen:(out++[(A3 ts vars U i neg).2.2]).length=out.length+1:=by simp
   by_cases h45:isT ts (A3 ts vars U i neg).1 [45]=U
   .grind
   .rw[Ab h45]at h4 ⊢
    by_cases h43:isT ts (A3 ts vars U i neg).1 [43]=U
    .grind
    .rw[Ab h43]
     refine⟨?_,hb⟩;unfold IG;simp only[ha,hlen];simp;omega
  .grind
theorem Air{i:Nat}(h:(Dk ts vars U i).2.1=0):IG (Dk ts vars U i).2.2=U/\Es vars (Dk ts vars U i).2.2=U:=by
 unfold Dk at h ⊢
 by_cases h45:isT ts i [45]=U
 .rw[Ac h45]at h ⊢
  exact Z4 H vars 64 [] U (i+1) rfl rfl rfl h
 .rw[Ab h45]at h ⊢
  exact Z4 H vars 64 [] Θ i rfl rfl rfl h
theorem Apd{i:Nat}(h:(JH ts vars U i).2.1=0):∃(l r:List Mo) (op:Int),(JH ts vars U i).2.2=.mk 2 l r op (Ai []) (Ai []) []/\IG l=U/\IG r=U/\0<=op/\op<=5/\Es vars l=U/\Es vars r=U:=by
 unfold JH at h ⊢
 by_cases h1:(Dk ts vars U i).2.1=0
 .rw[Ab (λe=>e h1)]at h ⊢
  obtain⟨a1,a2⟩:=Air H vars h1
  cases ho:opP ts (Dk ts vars U i).1 with
  |none=>
   rw[ho]at h;exact absurd h (by simp)
  |some op=>
   rw[ho]at h;simp only at h ⊢;obtain⟨o1,o2⟩:=AsP ho
   by_cases h2:(Dk ts vars U ((Dk ts vars U i).1+1)).2.1=0
   .rw[Ab (λe=>e h2)]
    obtain⟨b1,b2⟩:=Air H vars h2;exact⟨_,_,_,rfl,a1,b1,by omega,by omega,a2,b2⟩
   .grind
 .grind
end
theorem C2{t:Tr}{d:Nat}(hd:d<=60)(h:ShapeL t d):AR t d=U:=by
 cases h with
 |tt=>simp[AR,DQ,MZ,Eh]
 |ff=>simp[AR,DQ,MZ,Eh]
 |cmp _ hl hr h1 h2=>simp[AR,DQ,MZ,Hp,hl,hr,h1,h2]
 |«at» _ hp hq=>simp[AR,DQ,MZ,hp,hq]
 |@one _ k x hk hx h=>
  have h1:d+1<=60:=by
   unfold E0 at hx;split at hx<;>omega
  rw[AR,Ac (by rw[hk];rfl),Ab (by omega),AW hk];simp only[EM,η,decide_eq_true_eq,Ayl];exact⟨⟨h1,by simp[Eh]⟩,hx,h⟩
 |@two _ k x y hk hx h gy g=>
  rw[AR,Ac (by rw[hk];rfl),Ab (by omega),Be (show ¬DQ k=1 by omega)];simp only[EM,η,decide_eq_true_eq,Ayl];exact⟨⟨hd,by simp[Eh]⟩,⟨hx,h⟩,gy,g⟩
theorem OQ:∀(n:Nat) (t:Tr) (d:Nat),SizeOf.sizeOf t<n->d+1<=60->AR t (d+1)=U->AR t d=U:=by
 intro n
 induction n with
 |zero=>intro t d h;omega
 |succ n ih=>
  intro t d hn hd h;have up:∀ b,E0 b (d+1)=E0 b d+1:=λb=>by cases b<;>rfl
  cases C3 h with
  |tt=>exact C2 (by omega) (.tt d)
  |ff=>exact C2 (by omega) (.ff d)
  |cmp _ hl hr h1 h2=>exact C2 (by omega) (.cmp d hl hr h1 h2)
  |«at» _ hp hq=>exact C2 (by omega) (.at d hp hq)
  |@one _ k x hk hx h=>
   have up2:E0 (Bx k 0 x.kind) (d+1+1)=E0 (Bx k 0 x.kind) (d+1)+1:=by cases Bx k 0 x.kind<;>rfl
   rw[up2]at hx h;exact C2 (by omega) (.one d hk (by omega) (ih x _ (by simp only[Tr.mk.sizeOf_spec,List.cons.sizeOf_spec]at hn;omega) (by omega) h))
  |@two _ k x y hk hx h gy g=>
   rw[up]at hx h gy g;exact C2 (by omega) (.two d hk (by omega) (ih x _ (by simp only[Tr.mk.sizeOf_spec,List.cons.sizeOf_spec]at hn;omega) (by omega) h) (by omega) (ih y _ (by simp only[Tr.mk.sizeOf_spec,List.cons.sizeOf_spec]at hn;omega) (by omega) g))
def OpdL(c:Int)(d:Nat)(x:Tr):Prop:=E0 (decide (Bl x.kind<c)) d<=60/\AR x (E0 (decide (Bl x.kind<c)) d)=U
theorem OpdL.le{c c':Int}{d:Nat}{x:Tr}(h:OpdL c d x)(hc:c'<=c):OpdL c' d x:=by
 unfold OpdL at h ⊢
 by_cases h1:Bl x.kind<c'
 .grind
 .rw[Be h1]
  by_cases h2:Bl x.kind<c
  .rw[AW h2]at h
   have h3:d+1<=60:=h.1;exact⟨show d<=60 by omega,OQ _ x d (Awz _) h3 h.2⟩
  .grind
theorem OpdL.of{c:Int}{d:Nat}{x:Tr}(hd:d<=60)(h:AR x d=U)(hc:c<=Bl x.kind):OpdL c d x:=by
 unfold OpdL;rw[Be (by omega)];exact⟨hd,h⟩
theorem OpdL.right{d:Nat}{x:Tr}(h:OpdL 1 d x):AR x d=U:=by
 unfold OpdL at h;rw[Be (by have:=Fq x.kind;omega)]at h;exact h.2
theorem OpdL.paren{c:Int}{d:Nat}{x:Tr}(hd:d+1<=60)(h:OpdL 1 (d+1) x):OpdL c d x:=by
 have hr:=h.right;unfold OpdL
 by_cases h1:Bl x.kind<c
 .rw[AW h1]
  exact⟨hd,hr⟩
 .rw[Be h1]
  exact⟨show d<=60 by omega,OQ _ x d (Awz _) hd hr⟩
theorem Akv{k:Int}(hk:DQ k=1){d:Nat}{x:Tr}(hd:d+1<=60)(h:OpdL 5 (d+1) x):OpdL 5 d (Ef k [x]):=by
 have ht:Bl k=5:=by
  rcases BB k with⟨e,_⟩|⟨_,rfl|rfl|rfl|rfl⟩|⟨e,_⟩|e
  .omega
  .rfl
  .rfl
  .rfl
  .rfl
  .omega
  .omega
 have e:Bx k 0 x.kind=decide (Bl x.kind<5):=by
  unfold Bx;rw[Ac hk]
 refine OpdL.of (by omega) (C2 (by omega) (.one d hk ?_ ?_)) (by show (5:Int)<=Bl k;omega)
 .rw[e]
  exact h.1
 .rw[e]
  exact h.2
theorem WL{p:Int}(hp:DQ p=2)(i:Nat)(k c:Int)(hc:c=if(Bl p=1\/Bl p=4) ↔ i=0 then Bl p+1 else Bl p):Bx p i k=decide (Bl k<c):=by
 unfold Bx;rw[Ab (by omega),hc]
 by_cases h1:Bl p=Bl k
 .grind
 .grind
theorem Nb{k cl cr:Int}(hk:DQ k=2)(hl:cl=if(Bl k=1\/Bl k=4) ↔ (0:Nat)=0 then Bl k+1 else Bl k)(hr:cr=if(Bl k=1\/Bl k=4) ↔ (1:Nat)=0 then Bl k+1 else Bl k){d:Nat}{x y:Tr}(hd:d<=60)(h:OpdL cl d x)(g:OpdL cr d y):OpdL (Bl k) d (Ef k [x,y]):=by
 have e1:=WL hk 0 x.kind cl hl;have e2:=WL hk 1 y.kind cr hr;refine OpdL.of hd (C2 hd (.two d hk ?_ ?_ ?_ ?_)) (AzW _)
 .rw[e1];exact h.1
 .rw[e1];exact h.2
 .rw[e2];exact g.1
 .rw[e2];exact g.2
structure OutL (vars:List ByteArray) (ps:List Pr) (c:Int) (d:Nat) (x:Tr) (s j:Nat):Prop where
 o:OpdL c d x
 kn:Ha vars ps x=U
 ct:E1 x+s<=j
theorem OutL.le{vars:List ByteArray}{ps:List Pr}{c c':Int}{d:Nat}{x:Tr}{s j:Nat}(h:OutL vars ps c d x s j)(hc:c'<=c):OutL vars ps c' d x s j:=⟨h.o.le hc,h.kn,h.ct⟩
def Atp(vars:List ByteArray)(ps:List Pr)(d s i:Nat):LJ->Prop
 |.andL x=>OutL vars ps 3 d x s i
 |.orL x=>OutL vars ps 2 d x s i
 |_=>s=i
def Avn:LJ->Int
 |.un=>5
 |.bin=>4
 |.and=>3
 |.andL _=>3
 |.or=>2
 |.orL _=>2
 |.prop=>1
theorem Ajt(k:Int)(x:Tr):E1 (Ef k [x])=E1 x+1:=(VO k [] [] 0 (Ai []) (Ai []) x).trans (AzU _ _)
theorem ML(k:Int)(x y:Tr):E1 (Ef k [x,y])=E1 x+E1 y+1:=(VP k [] [] 0 (Ai []) (Ai []) x y).trans (AzU _ _)
section
variable {ts:List Tk} (H:TkN ts) (T:Toks ts) (vars:List ByteArray) (ps:List Pr)
include H T
theorem AcX{i:Nat}(h:(C8 ts ps i).2.1=0):∃ p q:ByteArray,(C8 ts ps i).2.2=.mk 6 [] [] 0 p q []/\Ce p.data.toList=U/\Ce q.data.toList=U/\R4 ps p q=U/\i+3<=(C8 ts ps i).1:=by
 unfold C8 at h ⊢
 by_cases h1:isN ts i=Θ
 .grind
 rw[Ab h1]at h ⊢
 cases hf:JU ps (Ju ts i) with
 |none=>
  rw[hf]at h;exact absurd h (by simp)
 |some p=>
  rw[hf]at h;simp only at h ⊢
  by_cases h2:isT ts (i+1) [46]=Θ
  .grind
  rw[Ab h2]at h ⊢
  by_cases h3:isN ts (i+2)=Θ
  .grind
  rw[Ab h3]at h ⊢
  by_cases h4:Ju ts (i+2)∉p.locs
  .grind
  rw[Ab h4];refine⟨_,_,rfl,?_,?_,?_,ω _⟩
  .grind [Ju,MH,Za]
  .grind [Ju,MH,Za]
  .unfold R4
   rw[hf];simpa using h4
theorem Ar2:∀(n:Nat) (j:LJ) (i d s:Nat),i<=ts.length->d<=60->Atp vars ps d s i j->(Ca ts vars U ps n j i d).2.1=0->OutL vars ps (Avn j) d (Ca ts vars U ps n j i d).2.2 s (Ca ts vars U ps n j i d).1/\(Ca ts vars U ps n j i d).1<=ts.length:=by
 intro n
 induction n with
 |zero=>
  intro j i d s hi hd hp h;exact absurd h (by simp[Ca])
 |succ n ih=>
  intro j i d s hi hd hp h;have kn0:∀ k:Int,k=0\/k=1->Ha vars ps (Ef k [])=U:=λk hk=>by
   grind [Ha,Ph,Ef]
  have c0:∀ k:Int,E1 (Ef k [])=1:=λk=>by
   unfold Ef;rw[E1,Fz]
  cases j with
  |un=>
   obtain rfl:s=i:=hp;rw[QL]at h ⊢
   by_cases h1:((C9 ts s).isSome||isT ts s [40])=U/\d=60
   .grind
   rw[Ab h1]at h ⊢
   cases hq:C9 ts s with
   |some k=>
    rw[hq]at h;simp only at h ⊢;have h60:d≠60:=λe=>h1 ⟨by rw[hq];rfl,e⟩
    have hl:=N8 T hq;obtain⟨k1,k2⟩:=EW h;rw[k2];obtain⟨r1,r2⟩:=ih .un (s+1) (d+1) (s+1) (by omega) (by omega) rfl k1;have hk:DQ k=1:=by
     unfold C9 at hq;split at hq
     .cases hq;rfl
     .split at hq
      .cases hq;rfl
      .split at hq
       .cases hq;rfl
       .split at hq
        .cases hq;rfl
        .cases hq
    refine⟨⟨Akv hk (by omega) r1.o,?_,?_⟩,r2⟩
    .exact(UE vars ps hk _).trans r1.kn
    .have:=r1.ct
     dsimp only;rw[Ajt];omega
   |none=>
    rw[hq]at h;simp only at h ⊢
    by_cases h2:isT ts s [40]=U
    .rw[Ac h2]at h ⊢
     have h60:d≠60:=λe=>h1 ⟨by rw[h2];simp,e⟩
     have hl:=T.isT h2;obtain⟨k1,k2⟩:=EW h;rw[k2]at h ⊢;obtain⟨r1,r2⟩:=ih .prop (s+1) (d+1) (s+1) (by omega) (by omega) rfl k1
     by_cases h6:isT ts (Ca ts vars U ps n .prop (s+1) (d+1)).1 [41]=U
     .simp only[h6,if_true]
      refine⟨⟨OpdL.paren (by omega) r1.o,r1.kn,?_⟩,T.isT h6⟩;have:=r1.ct;omega
     .grind
    rw[Ab h2]at h ⊢
    by_cases h3:isT ts s [64]=U
    .rw[Ac h3]at h ⊢
     have hl:=T.isT h3;obtain⟨p,q,e,hp,hq',hkn,hj⟩:=AcX H T ps h;have hf:=(OP T ps (show s+1<=ts.length from hl)).le;rw[e];refine⟨⟨OpdL.of hd (C2 hd (.at d hp hq')) (show (5:Int)<=Bl 6 by decide),?_,?_⟩,hf⟩
     .rw[Ha,Ab (by decide),Ac rfl]
      exact hkn
     .rw[E1,Fz]
      omega
    rw[Ab h3]at h ⊢
    by_cases h4:isT ts s [116,114,117,101]=U
    .rw[Ac h4]
     refine⟨⟨OpdL.of hd (C2 hd (.tt d)) (show (5:Int)<=Bl 0 by decide),kn0 0 (.inl rfl),?_⟩,T.isT h4⟩
     show E1 (Ef 0 [])+s<=s+1
     rw[c0];omega
    rw[Ab h4]at h ⊢
    by_cases h5:isT ts s [102,97,108,115,101]=U
    .rw[Ac h5]
     refine⟨⟨OpdL.of hd (C2 hd (.ff d)) (show (5:Int)<=Bl 1 by decide),kn0 1 (.inr rfl),?_⟩,T.isT h5⟩
     show E1 (Ef 1 [])+s<=s+1
     rw[c0];omega
    rw[Ab h5]at h ⊢;obtain⟨l,r,op,e,hl,hr,o1,o2,k1,k2⟩:=Apd H vars h;have hf:=VL T vars U hi;have:=hf.gt h;rw[e];refine⟨⟨OpdL.of hd (C2 hd (.cmp d hl hr o1 o2)) (show (5:Int)<=Bl 2 by decide),?_,?_⟩,hf.le⟩
    .rw[Ha,Ac rfl,k1,k2]
     rfl
    .rw[E1,Fz]
     omega
  |bin=>
   obtain rfl:s=i:=hp;rw[Zr]at h ⊢;obtain⟨k1,k2⟩:=EW h;rw[k2]at h ⊢;obtain⟨r1,r2⟩:=ih .un s d s hi hd rfl k1
   by_cases h85:isT ts (Ca ts vars U ps n .un s d).1 [85]=U
   .rw[Ac h85]at h ⊢
    obtain⟨k3,k4⟩:=EW h;rw[k4];obtain⟨r3,r4⟩:=ih .bin ((Ca ts vars U ps n .un s d).1+1) d ((Ca ts vars U ps n .un s d).1+1) (T.isT h85) hd rfl k3;refine⟨⟨Nb (k:=11) rfl (by decide) (by decide) hd r1.o r3.o,?_,?_⟩,r4⟩
    .exact(Fs vars ps rfl _ _).trans (by rw[r1.kn,r3.kn];rfl)
    .have:=r1.ct
     have:=r3.ct;dsimp only;rw[ML];omega
   .rw[Ab h85]at h ⊢
    by_cases h82:isT ts (Ca ts vars U ps n .un s d).1 [82]=U
    .rw[Ac h82]at h ⊢
     obtain⟨k3,k4⟩:=EW h;rw[k4];obtain⟨r3,r4⟩:=ih .bin ((Ca ts vars U ps n .un s d).1+1) d ((Ca ts vars U ps n .un s d).1+1) (T.isT h82) hd rfl k3;refine⟨⟨Nb (k:=12) rfl (by decide) (by decide) hd r1.o r3.o,?_,?_⟩,r4⟩
     .exact(Fs vars ps rfl _ _).trans (by rw[r1.kn,r3.kn];rfl)
     .have:=r1.ct
      have:=r3.ct;dsimp only;rw[ML];omega
    .rw[Ab h82]
     exact⟨r1.le (by decide),r2⟩
  |and=>
   obtain rfl:s=i:=hp;rw[AgG]at h ⊢;obtain⟨k1,k2⟩:=EW h;rw[k2]at h ⊢;obtain⟨r1,r2⟩:=ih .bin s d s hi hd rfl k1;exact ih (.andL _) _ d s r2 hd (r1.le (by decide)) h
  |andL x=>
   have hp:OutL vars ps 3 d x s i:=hp;rw[PK]at h ⊢
   by_cases h38:isT ts i [38]=U
   .rw[Ac h38]at h ⊢
    obtain⟨k1,k2⟩:=EW h;rw[k2]at h ⊢;obtain⟨r1,r2⟩:=ih .bin (i+1) d (i+1) (T.isT h38) hd rfl k1;refine ih (.andL _) _ d s r2 hd ⟨Nb (k:=4) rfl (by decide) (by decide) hd hp.o r1.o,?_,?_⟩ h
    .exact(Fs vars ps rfl _ _).trans (by rw[hp.kn,r1.kn];rfl)
    .have:=hp.ct
     have:=r1.ct;rw[ML];omega
   .rw[Ab h38]
    exact⟨hp,hi⟩
  |or=>
   obtain rfl:s=i:=hp;rw[Ano]at h ⊢;obtain⟨k1,k2⟩:=EW h;rw[k2]at h ⊢;obtain⟨r1,r2⟩:=ih .and s d s hi hd rfl k1;exact ih (.orL _) _ d s r2 hd (r1.le (by decide)) h
  |orL x=>
   have hp:OutL vars ps 2 d x s i:=hp;rw[UI]at h ⊢
   by_cases h124:isT ts i [124]=U
   .rw[Ac h124]at h ⊢
    obtain⟨k1,k2⟩:=EW h;rw[k2]at h ⊢;obtain⟨r1,r2⟩:=ih .and (i+1) d (i+1) (T.isT h124) hd rfl k1;refine ih (.orL _) _ d s r2 hd ⟨Nb (k:=5) rfl (by decide) (by decide) hd hp.o r1.o,?_,?_⟩ h
    .exact(Fs vars ps rfl _ _).trans (by rw[hp.kn,r1.kn];rfl)
    .have:=hp.ct
     have:=r1.ct;rw[ML];omega
   .rw[Ab h124]
    exact⟨hp,hi⟩
  |prop=>
   obtain rfl:s=i:=hp;rw[UJ]at h ⊢;obtain⟨k1,k2⟩:=EW h;rw[k2]at h ⊢;obtain⟨r1,r2⟩:=ih .or s d s hi hd rfl k1
   by_cases h45:isT ts (Ca ts vars U ps n .or s d).1 [45,62]=U
   .rw[Ac h45]at h ⊢
    obtain⟨k3,k4⟩:=EW h;rw[k4];obtain⟨r3,r4⟩:=ih .prop ((Ca ts vars U ps n .or s d).1+1) d ((Ca ts vars U ps n .or s d).1+1) (T.isT h45) hd rfl k3;refine⟨⟨Nb (k:=7) rfl (by decide) (by decide) hd r1.o r3.o,?_,?_⟩,r4⟩
    .exact(Fs vars ps rfl _ _).trans (by rw[r1.kn,r3.kn];rfl)
    .have:=r1.ct
     have:=r3.ct;dsimp only;rw[ML];omega
   .rw[Ab h45]
    exact⟨r1.le (by decide),r2⟩
end
theorem UM{s:List UInt8}{vars:List ByteArray}{ps:List Pr}(hs:s.length<=1000000)(h:(Ci s vars ps).2.2.2=0):AR (Ci s vars ps).1 0=U/\Ha vars ps (Ci s vars ps).1=U/\E1 (Ci s vars ps).1<=s.length+1:=by
 unfold Ci at h ⊢
 cases e:BV s with
 |err c ln co=>
  rw[e]at h;exact absurd h ((Dv s).2 c ln co e)
 |ok ts=>
  rw[e]at h;obtain⟨H,hsum⟩:=Aqt e;have hn:=QK e;have T:=((Dv s).1 ts e).toks (by omega);have hlen:ts.length<=s.length+1:=by
   unfold BV at e;split at e
   .cases e
   .exact(SU _ _ _ _ (ω _) e).2.2
  simp only at h ⊢;have h0:(Dc ts vars U ps).2.1=0:=by
   grind [absurd,YO,Dc]
  unfold Dc at h0 ⊢;obtain⟨r,r2⟩:=Ar2 H T vars ps _ .prop 0 0 0 (Nat.zero_le _) (by omega) rfl h0;have:=r.ct;exact⟨r.o.right,r.kn,by omega⟩
theorem WV{s:List UInt8}{vars:List ByteArray}{ps:List Pr}(h:(Ci s vars ps).2.2.2≠0):1<=(Ci s vars ps).2.1:=by
 have hl:(∀ ts,BV s=.ok ts->∀ t∈ts,1<=t.ln)/\∀ c ln co,BV s=.err c ln co->1<=ln:=by
  unfold BV;split
  .grind
  .exact Aj8 _ s (1,1) (ω _) (ω _)
 unfold Ci at h ⊢
 cases e:BV s with
 |err c ln co=>exact hl.2 c ln co e
 |ok ts=>
  rw[e]at h;have hf:=(Dv s).1 ts e;simp only at h ⊢;have hn:=hl.1 ts e _ (UW hf.ne (Dc ts vars U ps).1);unfold YO at h ⊢;split at h
  .grind
  .rename_i h1
   rw[Ab h1];exact hn
theorem Ac5:∀(n:Nat) (t:Tr) (d:Nat),SizeOf.sizeOf t<n->AR t d=U->WzT t/\WzP t:=by
 intro n
 induction n with
 |zero=>intro t d h;omega
 |succ n ih=>
  intro t d hn h;have h0:(Ai []).size<=9223372036854775807:=by decide
  have hs:∀{l:List Mo},IG l=U->l.length<4611686018427387904/\∀ m∈l,m.num.size<=9223372036854775807/\m.var.size<=9223372036854775807:=λhl=>J9 hl
  have hq:∀{p:ByteArray},Ce p.data.toList=U->p.size<=9223372036854775807:=λ{p} hp=>by
   have:=EB hp;have e:p.size=p.data.toList.length:=by
    rw[Axe];rfl
   omega
  cases C3 h with
  |tt=>exact⟨.mk (by simp) (by simp) (by simp) (by simp) (by simp) (by simp),.mk h0 h0 (by simp)⟩
  |ff=>exact⟨.mk (by simp) (by simp) (by simp) (by simp) (by simp) (by simp),.mk h0 h0 (by simp)⟩
  |cmp _ hl hr h1 h2=>exact⟨.mk (hs hl).1 (hs hr).1 (by simp) (hs hl).2 (hs hr).2 (by simp),.mk h0 h0 (by simp)⟩
  |«at» _ hp hq'=>exact⟨.mk (by simp) (by simp) (by simp) (by simp) (by simp) (by simp),.mk (hq hp) (hq hq') (by simp)⟩
  |@one _ k x hk hx h=>
   have g:=ih x _ (by simp only[Tr.mk.sizeOf_spec,List.cons.sizeOf_spec]at hn;omega) h;exact⟨.mk (by simp) (by simp) (by simp) (by simp) (by simp) (by simpa using g.1),.mk h0 h0 (by simpa using g.2)⟩
  |@two _ k x y hk hx h gy g=>
   have g1:=ih x _ (by simp only[Tr.mk.sizeOf_spec,List.cons.sizeOf_spec]at hn;omega) h;have g2:=ih y _ (by simp only[Tr.mk.sizeOf_spec,List.cons.sizeOf_spec]at hn;omega) g;exact⟨.mk (by simp) (by simp) (by simp) (by simp) (by simp) (by simpa using ⟨g1.1,g2.1⟩),.mk h0 h0 (by simpa using ⟨g1.2,g2.2⟩)⟩
def AoL(y:Sy)(p:Pp):Prop:=p.here=U->∃(i j:Nat) (pr:Pr),p.proc=(i:Int)/\p.loc=(j:Int)/\y.ps[i]? = V pr/\j<pr.locs.length
structure PsOk (y:Sy) (ps:List Pp):Prop where
 «at» : ∀ p∈ps,AoL y p
 ne:ps.Pairwise λa b=>FO b a=Θ
theorem Aey{y:Sy}{t:Tr}(h:(Dd y t).2=U):AoL y (Dd y t).1:=by
 obtain⟨k,l,r,op,p,q,ks⟩:=t;rw[Dd]at h ⊢
 by_cases hk:k=6
 .rw[Ac hk]at h ⊢
  unfold Fj at h ⊢
  cases hf:(y.ps.map (·.name)).findIdx? (p = ·) with
  |none=>
   intro hc
   cases hc
  |some i=>
   rw[hf]at h;simp only at h ⊢;intro _;obtain⟨h1,_⟩:=AwZ.1 hf;rw[List.length_map]at h1;have hp:y.ps[i]? = V y.ps[i]:=Ψ h1;have h:=of_decide_eq_true h;rw[hp]at h ⊢;simp only[AwE,Option.getD_some]at h ⊢
   cases hg:y.ps[i].locs.findIdx? (q = ·) with
   |none=>
    rw[hg]at h;exact absurd h (by decide)
   |some j=>
    obtain⟨h2,_⟩:=AwZ.1 hg;exact⟨i,j,_,rfl,rfl,hp,h2⟩
 .rw[Ab hk]
  intro hc
  cases hc
theorem AoT{y:Sy}{ps:List Pp}{p:Pp}(h:PsOk y ps)(hp:AoL y p):PsOk y (Mz ps p):=by
 unfold Mz
 cases hf:ps.findIdx? (FO p) with
 |some i=>exact h
 |none=>
  have hn:=List.findIdx?_eq_none_iff.1 hf;refine⟨λx hx=>?_,?_⟩
  .rcases List.mem_append.1 hx with hx|hx
   .exact h.at x hx
   .grind
  .refine List.pairwise_append.2 ⟨h.ne,Ayc _ _,λa ha b hb=>?_⟩
   rw[List.mem_singleton.1 hb];exact hn a ha
mutual
theorem AhP(y:Sy):∀(t:Tr) (ps:List Pp),PsOk y ps->(CZ y t ps).1.isSome=U->PsOk y (CZ y t ps).2
 |.mk k l r op p q ks,ps,h,hs=>by
  rw[Fu]at hs ⊢
  by_cases hk:k=2\/k=6
  .rw[Ac hk]at hs ⊢
   by_cases ha:(Dd y (.mk k l r op p q ks)).2=U
   .rw[Ac ha]
    exact AoT h (Aey ha)
   .rw[Ab ha]at hs
    cases hs
  .rw[Ab hk]at hs ⊢
   exact AbB y ks ps h (by simpa using hs)
theorem AbB(y:Sy):∀(ks:List Tr) (ps:List Pp),PsOk y ps->(CK y ks ps).1.isSome=U->PsOk y (CK y ks ps).2
 |[],ps,h,_=>by rw[CK];exact h
 |x::r,ps,h,hs=>by
  rw[Fl]at hs ⊢
  cases e:(CZ y x ps).1 with
  |none=>
   rw[e]at hs
   cases hs
  |some f=>
   rw[e]at hs;simp only at hs ⊢;exact AbB y r _ (AhP y x ps h (by rw[e];rfl)) (by simpa using hs)
end
theorem Aql{y:Sy}{t:Tr}{f:Rf}{ps:List Pp}(h:Rm y t=V (f,ps)):PsOk y ps/\(∀ p∈ps,PpOk p)/\ps.length<=I1 t:=by
 unfold Rm at h;split at h
 .cases e:(CZ y t []).1 with
  |none=>
   rw[e]at h
   cases h
  |some g=>
   rw[e]at h;injection h with h
   injection h with h1 h2
   subst h2;have g1:=Oe y t [] (λp hp=>by cases hp);refine⟨AhP y t [] ⟨(λp hp=>by cases hp),.nil⟩ (by rw[e];rfl),g1.2,?_⟩;have:=g1.1;simpa using this
 .cases h
def JP(v:Int):Bool->List Int->List Int × Bool
 |d,[]=>([],d)
 |d,x::r=>((if !d&&decide (v<=x) then [v] else [])++((if x=v then [] else [x])++(JP v (d||decide (v<=x)) r).1),(JP v (d||decide (v<=x)) r).2)
def Ma(v:Int)(l:List Int):List Int:=(JP v Θ l).1++(if(JP v Θ l).2 then [] else [v])
theorem N1(v:Int):∀ l:List Int,(∀ x∈l,v<x)->JP v U l=(l,U)
 |[],_=>rfl
 |x::r,h=>by
  have h1:=h x List.mem_cons_self;rw[JP,Bool.true_or,N1 v r λy hy=>h y (List.mem_cons_of_mem _ hy),Ab (show ¬ x=v by omega)];rfl
theorem WH(v:Int):Ma v []=[v]:=rfl
theorem UC{v x:Int}{r:List Int}(h:v<x)(hr:∀ y∈r,x<y):Ma v (x::r)=v::x::r:=by
 unfold Ma;rw[JP,AW (by omega:v<=x),Ayd,N1 v r λy hy=>by have:=hr y hy;omega,Ab (show ¬ x=v by omega)];simp
theorem UA{v:Int}{r:List Int}(hr:∀ y∈r,v<y):Ma v (v::r)=v::r:=by
 unfold Ma;rw[JP,AW (AzW v),Ayd,N1 v r hr,Ac rfl];simp
theorem UB{v x:Int}{r:List Int}(h:x<v):Ma v (x::r)=x::Ma v r:=by
 grind [JP,Ma]
def Asc(l:List Int):Prop:=l.Pairwise (· < ·)
theorem QG(v:Int):∀{l:List Int},Asc l->∀ y,y∈Ma v l ↔ y=v\/y∈l
 |[],_,y=>by rw[WH];simp
 |x::r,h,y=>by
  have h1:=Aw2.1 h;have ih:=QG v h1.2 y;rcases Ay0 v x with hv|hv|hv
  .grind [UC]
  .grind [UA]
  .simp_all [Awt,UB,or_left_comm]
theorem JQ(v:Int):∀{l:List Int},Asc l->Asc (Ma v l)
 |[],_=>by rw[WH];exact Ayc _ _
 |x::r,h=>by
  have h1:=Aw2.1 h;rcases Ay0 v x with hv|hv|hv
  .rw[UC hv h1.1]
   refine Aw2.2 ⟨λy hy=>?_,h⟩;rcases Awt.1 hy with rfl|hy
   .exact hv
   .have:=h1.1 y hy;omega
  .grind [UA]
  .rw[UB hv]
   refine Aw2.2 ⟨λy hy=>?_,JQ v h1.2⟩;rcases (QG v h1.2 y).1 hy with rfl|hy
   .exact hv
   .exact h1.1 y hy
theorem WE(v:Int):∀(d:Bool) (l:List Int),(JP v d l).1.length<=2*l.length
 |_,[]=>ω _
 |d,x::r=>by
  have:=WE v (d||decide (v<=x)) r;rw[JP,ζ,ζ,π];have h1:(if(!d&&decide (v<=x))=U then [v] else []).length<=1:=by split<;>simp
  have h2:(if x=v then [] else [x]).length<=1:=by split<;>simp
  omega
theorem QF(v:Int):∀{l:List Int},Asc l->(Ma v l).length<=l.length+1
 |[],_=>ω _
 |x::r,h=>by
  have h1:=Aw2.1 h;have ih:=QF v h1.2;rcases Ay0 v x with hv|hv|hv
  .grind [UC]
  .grind [UA]
  .first|grind [UB] | grind [π,UB]
def ID(f:Int->Int):List Int->List Int->List Int
 |out,[]=>out
 |out,v::r=>ID f (if f v=0 then out else Ma v out) r
theorem TO(f:Int->Int):∀(l:List Int) {out:List Int},Asc out->Asc (ID f out l)
 |[],_,h=>h
 |v::r,out,h=>by
  rw[ID];refine TO f r ?_;split
  .exact h
  .exact JQ v h
theorem Ov(f:Int->Int)(y:Int):∀(l:List Int) {out:List Int},Asc out->(y∈ID f out l ↔ y∈out\/(y∈l/\f y≠0))
 |[],out,_=>by rw[ID];simp
 |v::r,out,h=>by
  rw[ID]
  by_cases hv:f v=0
  .rw[Ac hv,Ov f y r h,Awt]
   constructor
   .grind
   .grind
  .rw[Ab hv,Ov f y r (JQ v h),QG v h,Awt]
   constructor
   .grind
   .grind
theorem Ou(f:Int->Int):∀(l:List Int) {out:List Int},Asc out->(ID f out l).length<=out.length+l.length
 |[],out,_=>by rw[ID];simp
 |v::r,out,h=>by
  rw[ID,π]
  by_cases hv:f v=0
  .rw[Ac hv]
   have:=Ou f r h;omega
  .rw[Ab hv]
   have:=Ou f r (JQ v h);have:=QF v h;omega
def FY(ps:List (Int × Int))(v:Int):Int:=if 0<=v then Bm v ps else 0
def LH(ps:List (Int × Int)):List Int:=ID (FY ps) [] (ps.map (·.1))
theorem Pw:Asc []:=List.Pairwise.nil
theorem St(c:Int->Int)(v:Int):∀{l:List Int},Asc l->Bm v (l.map λu=>(u,c u))=if v∈l then c v else 0
 |[],_=>by simp[Bm]
 |x::r,h=>by
  have h1:=Aw2.1 h;rw[AwP,Bm,St c v h1.2]
  by_cases hx:x=v
  .grind
  .grind
theorem ZN(ps:List (Int × Int)):(LH ps).map (λv=>(v,FY ps v))=FL ps:=by
 have ha:Asc (LH ps):=TO _ _ Pw;have hm:∀ y,y∈LH ps ↔ y∈ps.map (·.1)/\FY ps y≠0:=λy=>by
  grind [FY,LH,Pw,Ov]
 refine Q8 ⟨?_,?_,?_⟩ λv hv=>?_
 .rw[List.pairwise_map]
  exact ha
 .intro p hp
  rw[List.mem_map]at hp;obtain⟨v,hv,rfl⟩:=hp;have:=((hm v).1 hv).2;unfold FY at this
  by_cases h0:0<=v
  .exact h0
  .omega
 .grind
 .rw[St _ _ ha]
  have hc:FY ps v=Bm v ps:=Ac hv
  by_cases hv2:v∈LH ps
  .rw[Ac hv2,hc]
  .rw[Ab hv2]
   by_cases hz:Bm v ps=0
   .exact hz.symm
   .first|grind [Gv] | grind [List.mem_map_of_mem,Gv]
def eI(v:Int):Ad:=[iv v]
theorem LX(v:Int):(eI v).length=1:=rfl
def bkI(l:List Int):ABlk:=θ (Av eI l) U U
theorem apI(o:List Int)(h:o.length<=4000000)(X:KR):br (Bh (o.length+1) 8) (br (Aww (0+o.length*1) (Av eI o).length) X Δ) Δ=X:=by
 rw[AL (by omega) (by omega),AJ LX o (by omega)];rfl
theorem Aqj(o:List Int)(v:Int):Awv 0 (Aws (0+o.length*1) (Av eI o))++[iv v]=Av eI (o++[v]):=by
 rw[κ,A9 LX o (by omega)];exact A8 eI o v
theorem snI(o:List Int)(v:Int):o.length+1=(o++[v]).length:=by simp
section
variable {D:Orc} (Kt:Knows Ah O2 D)
include Kt
theorem ApE(v:Int)(l:List Int)(hl:l.length<=1000000):∀(m i:Nat) (d:Bool) (o:List Int),l.length-i=m->i<=l.length->o.length<=2*i->
  D.ask (.lp 259 0) [.ls (l.map eI),iv v,.sl 0 0 o.length 1,bv d,iv (i:Int)] [bkI o]=V (.tup [iv 0,iv v,.sl 1 0 (o++(JP v d (l.drop i)).1).length 1,bv (JP v d (l.drop i)).2],[.del,.set (bkI (o++(JP v d (l.drop i)).1))]):=by
 intro m
 induction m with
 |zero=>
  intro i d o hm hi ho;rw[υ (by omega),JP,AwV];refine Ax Kt Wu (Afq ..) ?_;rw[Al];exact Ap rfl
 |succ m ih=>
  intro i d o hm hi ho;have h1:i<l.length:=by omega
  have hn1:∀ kk,Bt (l.map eI) i kk=kk (eI l[i]):=λkk=>AA (Ψ h1) kk
  have ih1:=λ(d:Bool) (o:List Int) (h:o.length<=2*(i+1))=>ih (i+1) d o (by omega) (by omega) h
  rw[χ h1,JP];revert hn1;generalize l[i]=x;intro hn1;refine Ax Kt Wu (Afq ..) ?_;rw[Al];refine Au ?_;unfold bkI at ih1 ⊢;simp only[AD,hn1,eI,Ae,Bv (show i<4611686018427387904 by omega),Aqj]
  cases d with
  |true=>
   refine BF ?_
   by_cases hx:x=v
   .refine Aw ?_ hx
    have g:=ih1 U o (by omega);refine Aa g ?_;rw[Ac hx];rfl
   .refine As ?_ hx
    have g:=ih1 U (o++[x]) (by simp;omega);rw[apI o (by omega),snI o x];refine Aa g ?_;rw[Ab hx,Awr];rfl
  |false=>
   refine Af ?_
   by_cases hv:v<=x
   .refine Cg ?_ hv
    rw[apI o (by omega),AW hv,snI o v]
    by_cases hx:x=v
    .refine Aw ?_ hx
     have g:=ih1 U (o++[v]) (by simp;omega);refine Aa g ?_;rw[Ac hx,Awr];rfl
    .refine As ?_ hx
     have g:=ih1 U (o++[v]++[x]) (by simp;omega);rw[apI (o++[v]) (by simp;omega),Aqj,snI (o++[v]) x];refine Aa g ?_;rw[Ab hx,Awr,Awr];rfl
   .refine Cm ?_ hv
    rw[Be hv]
    by_cases hx:x=v
    .omega
    .refine As ?_ hx
     have g:=ih1 Θ (o++[x]) (by simp;omega);rw[apI o (by omega),snI o x];refine Aa g ?_;rw[Ab hx,Awr];rfl
theorem AcL(v:Int)(l:List Int)(hl:l.length<=1000000):D.ask (.fn 259) [.ls (l.map eI),iv v] []=V (.ls ((Ma v l).map eI),[]):=by
 have g:=ApE Kt v l hl _ 0 Θ [] rfl (by omega) (by simp);have hlen:=WE v Θ l;rw[κ,AwC]at g;unfold Ma;generalize JP v Θ l=p at g hlen;obtain⟨o,d⟩:=p;simp only at g hlen ⊢;unfold bkI at g;refine Ao Kt Wu (AuU ..) ?_;refine Aa g ?_;simp only[Ae]
 cases d with
 |true=>
  refine BF ?_;rw[AJ LX o (by omega)];refine Af ?_;rw[BQ LX o rfl,Ac rfl,AwV]
 |false=>
  refine Af ?_;rw[Ab (by decide)];rw[Aqj,snI o v,AJ LX (o++[v]) (by omega)];rw[show Bh (o++[v]).length 8=U from AL (by simp;omega) (by omega),AJ LX o (by omega),κ,BQ LX (o++[v]) rfl];rfl
end
section
variable {D:Orc} (Kt:Knows Ah O2 D) (Kh:Knows Ah RA D) (F:RF D)
include Kt Kh F
theorem Alp{n k:Nat}{ps:List Pt}{kz:Zi}(ht:TmB n k ⟨ps,kz⟩)(hn:n<=1000000)(hk:k+n<=400000000):∀(m i:Nat) (out:List Int),ps.length-i=m->i<=ps.length->Asc out->out.length<=i->
  D.ask (.lp 239 0) [.ptr 0 0,.ls (out.map eI),iv (i:Int)] [⟨[.ls (ps.map eP),bv kz.neg,eN kz.abs],U,Θ⟩]=V (.tup [iv 0,.ls ((ID (FY (ps.map pv)) out ((ps.drop i).map Pt.v)).map eI)],[.del]):=by
 have hlen:ps.length<=n:=ht.len;intro m
 induction m with
 |zero=>
  intro i out hm hi ha ho;rw[υ (by omega),Axx,ID];refine Ax Kt Wr (Afj ..) ?_;rw[Al];exact Ap rfl
 |succ m ih=>
  intro i out hm hi ha ho;have h1:i<ps.length:=by omega
  have hn1:∀ kk,Bt (ps.map eP) i kk=kk (eP ps[i]):=λkk=>AA (Ψ h1) kk
  rw[χ h1,AwP,ID];revert hn1;generalize ps[i]=p;intro hn1;have gc:=Aar Kh F ht hn hk p.v;have hc:InB (k+n) (FY (ps.map pv) p.v):=by
   unfold FY;split
   .exact(NP _ _ ht.lb.ps).mono (by have:=ht.lb.len;omega)
   .exact InB.zero _
  have e1:(if 0<=p.v then Bm p.v (Tm.mk ps kz).lf.ps else 0)=FY (ps.map pv) p.v:=rfl;rw[e1]at gc;generalize FY (ps.map pv) p.v=c at gc hc;have gs:=F.sign (Bo c) (hc.lz.mono (by omega));rw[CV]at gs;refine Ax Kt Wr (Afj ..) ?_;rw[Al];refine Au ?_;rw[AD,hn1];simp only[eP,eN,Ae];refine Aa gc ?_;simp only[eZ,eN,Ae]at gs ⊢;refine Aa gs ?_;simp only[Ae];rw[Bv (by omega)]
  by_cases h0:c=0
  .have g:=ih (i+1) out (by omega) (by omega) ha (by omega)
   refine Aw ?_ ((Aig c).2 h0);refine Aa g ?_;rw[Ac h0];rfl
  .have g:=ih (i+1) (Ma p.v out) (by omega) (by omega) (JQ _ ha) (by have:=QF p.v ha;omega)
   have gi:=AcL Kt p.v out (by omega);refine As ?_ (λh=>h0 ((Aig c).1 h));refine Aa gi ?_;simp only[Ae];refine Aa g ?_;rw[Ab h0];rfl
theorem Ah5{n k:Nat}{t:Tm}(ht:TmB n k t)(hn:n<=1000000)(hk:k+n<=400000000):D.ask (.fn 239) [.agg (eT t)] []=V (.ls ((LH t.lf.ps).map eI),[]):=by
 obtain⟨ps,kz⟩:=t;have g:=Alp Kt Kh F ht hn hk _ 0 [] rfl (by omega) Pw (by simp);rw[κ]at g;have e1:(ps.map Pt.v)=(Tm.mk ps kz).lf.ps.map (·.1):=by
  unfold Tm.lf;rw[AyI];rfl
 rw[e1]at g;refine Ao Kt Wr (AuL ..) ?_;refine Aa g ?_;rfl
omit Kt Kh F in
theorem Ad8(ps:List (Int × Int)):(LH ps).length<=ps.length:=by
 grind [FY,LH,Pw,Ou]
def ptV(l:List (Int × Int))(v:Int):Pt:=⟨v,Bo (FY l v)⟩
theorem AdA{n k:Nat}{ps:List Pt}{kz:Zi}(ht:TmB n k ⟨ps,kz⟩)(hn:n<=1000000)(hk:k+n<=400000000)(vs:List Int)(hvs:vs.length<=n)(r0:Rw)(r1:Bool)(r2:Rw)(k1:Bool)(k2:Rw):∀(m i:Nat) (out:List Pt),vs.length-i=m->i<=vs.length->out.length<=i->
  D.ask (.lp 199 0) [.ptr 0 0,.ptr 1 0,.ptr 2 0,.ls (vs.map eI),iv (i:Int)] [⟨[.ls (ps.map eP),bv kz.neg,eN kz.abs],U,Θ⟩,⟨[.ls r0,bv r1,.ls r2],U,Θ⟩,⟨[.sl 3 0 out.length 3,bv k1,.ls k2],U,Θ⟩,HS out]
   = V (.tup [iv 0,.ptr 1 0,.ptr 2 0],[.del,.set ⟨[.ls r0,bv r1,.ls r2],U,Θ⟩,.set ⟨[.sl 4 0 (out++(vs.drop i).map (ptV (ps.map pv))).length 3,bv k1,.ls k2],U,Θ⟩,.del,.set (HS (out++(vs.drop i).map (ptV (ps.map pv))))]):=by
 intro m
 induction m with
 |zero=>
  intro i out hm hi ho;rw[υ (by omega),Axx,AwV];refine Ax Kt Wl (Afb ..) ?_;rw[Al];exact Ap rfl
 |succ m ih=>
  intro i out hm hi ho;have h1:i<vs.length:=by omega
  have hn1:∀ kk,Bt (vs.map eI) i kk=kk (eI vs[i]):=λkk=>AA (Ψ h1) kk
  rw[χ h1,AwP];revert hn1;generalize vs[i]=v;intro hn1;have gc:=Aar Kh F ht hn hk v;have e1:(if 0<=v then Bm v (Tm.mk ps kz).lf.ps else 0)=FY (ps.map pv) v:=rfl;rw[e1]at gc;have ih:=ih (i+1) (out++[ptV (ps.map pv) v]) (by omega) (by omega) (by simp;omega);rw[Awr,Axh,show (out++[ptV (ps.map pv) v]).length=out.length+1 by simp]at ih;have hf:Bh (out.length+1) 40=U:=AL (by omega) (by omega);have hb1:Aww (0+out.length*3) (Av eP out).length=U:=AJ AF out (by omega);have e3:Awv 0 (Aws (0+out.length*3) (Av eP out))++[iv v,bv (Bo (FY (ps.map pv) v)).neg,eN (Bo (FY (ps.map pv) v)).abs]=Av eP (out++[ptV (ps.map pv) v]):=by
   rw[κ,A9 AF out (by omega)];exact A8 eP out (ptV (ps.map pv) v)
  refine Ax Kt Wl (Afb ..) ?_;rw[Al];refine Au ?_;simp only[AD,hn1,eI,Ae];refine Aa gc ?_;simp only[eZ,eN,Ae]at e3 ⊢;rw[hf];refine Af ?_;rw[hb1];refine Af ?_;rw[e3,Bv (by omega)];refine Aa ih ?_;rfl
theorem AdB{n k:Nat}{t:Tm}(ht:TmB n k t)(hn:n<=1000000)(hk:k+n<=400000000):D.ask (.fn 199) [.agg (eT t)] []=V (.agg (eT t.lf.pln.tm),[]):=by
 have gv:=Ah5 Kt Kh F ht hn hk;have hl:=Ad8 t.lf.ps;have hl2:=ht.lb.len;have gk:=F.clean t.k (ht.k.mono (by omega));obtain⟨ps,kz⟩:=t;have gl:=AdA Kt Kh F ht hn hk (LH (Tm.mk ps kz).lf.ps) (by omega) [] Θ [] (Bo (zv kz)).neg ((Bo (zv kz)).abs.map eL) _ 0 [] rfl (by omega) (by simp);rw[κ,AwC]at gl;have e2:(LH (Tm.mk ps kz).lf.ps).map (ptV (ps.map pv))=(Tm.mk ps kz).lf.pln.tm.ps:=by
  show _=(FL (ps.map pv)).map B4
  rw[←ZN,AyI];rfl
 rw[e2]at gl;have e3:(Tm.mk ps kz).lf.pln.tm.k=Bo (zv kz):=rfl;revert gl;generalize hX:(Tm.mk ps kz).lf.pln.tm=X at e3 ⊢;obtain⟨xp,xk⟩:=X;intro gl;simp only at e3;subst e3;refine Ao Kt Wl (Aur ..) ?_;refine Aa gk ?_;simp only[eZ,eN,Ae];refine Aa gv ?_;simp only[Ae];refine Aa gl ?_;simp only[Ae];rw[AJ AF xp (by omega)];refine Af ?_;rw[BQ AF _ rfl];rfl
end
structure KnowsL (own:List (Nat × Nat)) (L:List (Nat × MFn)) (D:Orc):Prop where
 lp:∀(Hn:Hnt) (s:Sc) (f i:Nat) (mf:MFn) (q:LpH) (c:MC) (args:Ad) (bs:List ABlk) (r:AV × List BO),BY f L=V mf->mf.loops[i]? = V (q,c)->DI Ak D own Hn s f i q c args bs=V r->D.ask (.lp f i) args bs=V r
theorem Knows.l{own:List (Nat × Nat)}{L:List (Nat × MFn)}{D:Orc}(K:Knows own L D):KnowsL own L D:=⟨K.lp⟩
theorem KnowsL.lpL'{own:List (Nat × Nat)}{L:List (Nat × MFn)}{D:Orc}(K:KnowsL own L D)(Hn:Hnt)(s:Sc){f i:Nat}{mf:MFn}{args:Ad}{bs:List ABlk}{r:AV × List BO}(h1:BY f L=V mf)(h2:(mf.loops[i]?).isSome=U)(h:DI Ak D own Hn s f i (AK mf i).1 (AK mf i).2 args bs=V r):D.ask (.lp f i) args bs=V r:=by
 obtain⟨⟨q,c⟩,e⟩:=Ay9.1 h2;refine K.lp Hn s f i mf q c args bs r h1 e ?_;unfold AK at h;rw[e]at h;exact h
inductive CnF:Fm->Prop
 |mk {k:Int} {t:Tm} {e:Bool} {ks:List Fm} (h:k≠2->t=Tm0/\e=Θ) (hk:∀ y∈ks,CnF y):CnF (.mk k t e ks)
theorem CanF.cn:∀{x:Fm},CanF x->CnF x:=by
 have key:∀(n:Nat) (x:Fm),SizeOf.sizeOf x<n->CanF x->CnF x:=by
  intro n
  induction n with
  |zero=>intro x h;omega
  |succ n ih=>
   intro x hn hx;have hk:=hx.kids;have hh:=hx.head;obtain⟨k,t,e,ks⟩:=x;refine .mk (λh2=>?_) λy hy=>ih y (by have:=FF (k:=k) (t:=t) (e:=e) hy;omega) (hk y hy)
   rcases hh with⟨h,_⟩|⟨_,h,h'⟩
   .exact absurd h h2
   .exact⟨h,h'⟩
 exact λ{x}=>key _ x (Awz _)
theorem Oo(k:KR):XV (.slice Δ 0 0) (.v (.slice Δ 0 0)) k=k:=rfl
section
variable {D:Orc} (Kt:Knows Ah O2 D) (F:RF D)
include Kt F
theorem AiJ{n k m:Nat}{ps qs:List Pt}{kz jz:Zi}(hl:ps.length=qs.length)(hp:TmB n k ⟨ps,kz⟩)(hn:n<=1000000)(hk:k<=1000000000):∀(m i:Nat),ps.length-i=m->i<=ps.length->
  ∃ b,D.ask (.lp 198 0) [.ptr 0 0,.ptr 1 0,iv (i:Int)] [⟨[.ls (ps.map eP),bv kz.neg,eN kz.abs],U,Θ⟩,⟨[.ls (qs.map eP),bv jz.neg,eN jz.abs],U,Θ⟩]=V (if b then .tup [iv 0] else .tup [bv U,bv Θ],[.del,.del])/\(b=U ↔ ps.drop i=qs.drop i):=by
 have hlen:ps.length<=n:=hp.len;intro m
 induction m with
 |zero=>
  intro i hm hi;refine⟨U,?_,by rw[υ (by omega),υ (by omega)];simp⟩;refine Ax Kt MV (Ul ..) ?_;rw[Al];exact Ap rfl
 |succ m ih=>
  intro i hm hi;have h1:i<ps.length:=by omega
  have h2:i<qs.length:=by omega
  have hn1:∀ kk,Bt (ps.map eP) i kk=kk (eP ps[i]):=λkk=>AA (Ψ h1) kk
  have hn2:∀ kk,Bt (qs.map eP) i kk=kk (eP qs[i]):=λkk=>AA (Ψ h2) kk
  have hz:=hp.ps ps[i] (Awy h1);rw[χ h1,χ h2];revert hn1 hn2 hz;generalize ps[i]=p;generalize qs[i]=q;intro hn1 hn2 hz;obtain⟨b,g,hb⟩:=ih (i+1) (by omega) (by omega);have gs:=F.same p.z q.z (hz.mono hk);obtain⟨pv,pn,pa⟩:=p;obtain⟨qv,qn,qa⟩:=q;simp only[eZ,eN]at gs g ⊢
  by_cases hv:pv=qv
  .by_cases hz:pn=qn/\pa=qa
   .rw[AW hz]at gs
    refine⟨b,?_,?_⟩
    .refine Ax Kt MV (Ul ..) ?_
     rw[Al];refine Au ?_;simp only[AD,hn1,hn2,eP,eN,Ae];refine Aw ?_ hv;refine Aa gs ?_;simp only[Ae];rw[Bv (by omega)];refine Aa g ?_
     cases b<;>rfl
    .rw[hb,hv,hz.1,hz.2]
     simp
   .rw[Be hz]at gs
    refine⟨Θ,?_,?_⟩
    .refine Ax Kt MV (Ul ..) ?_
     rw[Al];refine Au ?_;simp only[AD,hn1,hn2,eP,eN,Ae];refine Aw ?_ hv;refine Aa gs ?_;rfl
    .simp only[Awx,false_iff,List.cons.injEq,Pt.mk.injEq,Zi.mk.injEq]
     exact λh=>hz h.1.2
  .refine⟨Θ,?_,?_⟩
   .refine Ax Kt MV (Ul ..) ?_
    rw[Al];refine Au ?_;simp only[AD,hn1,hn2,eP,eN,Ae];exact As rfl hv
   .simp only[Awx,false_iff,List.cons.injEq,Pt.mk.injEq,Zi.mk.injEq]
    exact λh=>hv h.1.1
theorem AiK{n k:Nat}{t u:Tm}(ht:TmB n k t)(hn:n<=1000000)(hk:k<=1000000000):∃ b,D.ask (.fn 198) [.agg (eT t),.agg (eT u)] []=V (bv b,[])/\(b=U ↔ t=u):=by
 obtain⟨ps,kz⟩:=t;obtain⟨qs,jz⟩:=u;have gs:=F.same kz jz (ht.k.mono hk)
 by_cases hl:ps.length=qs.length
 .obtain⟨b,g,hb⟩:=AiJ Kt F (m:=0) (kz:=kz) (jz:=jz) hl ht hn hk _ 0 rfl (by omega)
  rw[κ,κ]at hb;obtain⟨kn,ka⟩:=kz;obtain⟨jn,ja⟩:=jz;simp only[eZ,eN]at gs g
  by_cases hz:kn=jn/\ka=ja
  .rw[AW hz]at gs
   refine⟨b,?_,?_⟩
   .refine Ao Kt MV (Api ..) ?_
    rw[Al,Al];refine Aw ?_ (congrArg _ hl);refine Aa gs ?_;simp only[Ae];refine Aa g ?_
    cases b<;>rfl
   .rw[hb,hz.1,hz.2]
    simp
  .rw[Be hz]at gs
   refine⟨Θ,?_,?_⟩
   .refine Ao Kt MV (Api ..) ?_
    rw[Al,Al];refine Aw ?_ (congrArg _ hl);refine Aa gs ?_;rfl
   .simp only[Awx,false_iff,Tm.mk.injEq,Zi.mk.injEq]
    exact λh=>hz h.2
 .refine⟨Θ,?_,?_⟩
  .refine Ao Kt MV (Api ..) ?_
   rw[Al,Al];exact NM λh=>hl (Int.ofNat.inj h)
  .simp only[Awx,false_iff,Tm.mk.injEq]
   exact λh=>hl (by rw[h.1])
end
section
variable {D:Orc} (Kt:Knows Ah O2 D) (Kh:Knows Ah RA D) (Kq:Knows Ah TF D) (F:RF D)
include Kt Kq F
theorem Xx{n k:Nat}{t u:Tm}(ht:TmB n k t)(hn:n<=1000000)(hk:k<=1000000000)(e f:Bool):∃ b,D.ask (.fn 141) [.agg (eT t++[bv e]),.agg (eT u++[bv f])] []=V (bv b,[])/\(b=U ↔ t=u/\e=f):=by
 obtain⟨b,g,hb⟩:=AiK Kt F (u:=u) ht hn hk;obtain⟨ps,kn,ka⟩:=t;obtain⟨qs,jn,ja⟩:=u
 by_cases he:e=f
 .refine⟨b,?_,by rw[hb];simp[he]⟩
  refine Ao Kq Af3 (Aq4 ..) ?_;rw[In,he,beq_self_eq_true];refine Af ?_;refine Aa g ?_
  cases b<;>rfl
 .refine⟨Θ,?_,by simp[he]⟩
  refine Ao Kq Af3 (Aq4 ..) ?_;rw[In,beq_eq_false_iff_ne.2 he];rfl
omit Kt F in
theorem AfK(ks js:List Fm)(xk yk:Int)(xt yt:Tm)(xe ye:Bool)(hl:ks.length=js.length)(hn:ks.length<=1000000)(g:∀ x∈ks,∀ y∈js,∃ b,D.ask (.fn 82) [.agg (eF x),.agg (eF y)] []=V (bv b,[])/\(b=U ↔ x=y)):∀(m i:Nat),ks.length-i=m->i<=ks.length->
  ∃ b,D.ask (.lp 82 0) [.ptr 0 0,.ptr 1 0,iv (i:Int)] [AeG (.mk xk xt xe ks),AeG (.mk yk yt ye js)]=V (if b then .tup [iv 0] else .tup [bv U,bv Θ],[.del,.del])/\(b=U ↔ ks.drop i=js.drop i):=by
 intro m
 induction m with
 |zero=>
  intro i hm hi;refine⟨U,?_,by rw[υ (by omega),υ (by omega)];simp⟩;unfold AeG;rw[eF,B3,eF,B3];refine Ax Kq Wz (AlS ..) ?_;rw[Al];exact Ap rfl
 |succ m ih=>
  intro i hm hi;have h1:i<ks.length:=by omega
  have h2:i<js.length:=by omega
  have hn1:∀ kk,Bt (ks.map eF) i kk=kk (eF ks[i]):=λkk=>AA (Ψ h1) kk
  have hn2:∀ kk,Bt (js.map eF) i kk=kk (eF js[i]):=λkk=>AA (Ψ h2) kk
  obtain⟨c,gc,hc⟩:=g ks[i] (Awy h1) js[i] (Awy h2);rw[χ h1,χ h2];revert hn1 hn2 gc hc;generalize ks[i]=x;generalize js[i]=y;intro hn1 hn2 gc hc;obtain⟨b,g,hb⟩:=ih (i+1) (by omega) (by omega);unfold AeG at g ⊢;rw[eF,B3,eF,B3]at g ⊢;refine⟨c&&b,?_,by rw[η,hc,hb,List.cons.injEq]⟩;obtain⟨k0,⟨p0,z0⟩,e0,l0⟩:=x;obtain⟨k1,⟨p1,z1⟩,e1,l1⟩:=y;refine Ax Kq Wz (AlS ..) ?_;rw[Al];refine Au ?_;simp only[AD,hn1,hn2,eF,eN,Ae]at gc ⊢;refine Aa gc ?_;simp only[Ae]
  cases c with
  |false=>rfl
  |true=>
   refine Af ?_;rw[Bv (by omega)];refine Aa g ?_
   cases b<;>rfl
theorem Adx{n k:Nat}(hn:n<=1000000)(hk:k<=1000000000):∀(N:Nat) (x y:Fm),SizeOf.sizeOf x<N->FB n k x->CnF x->CnF y->∃ b,D.ask (.fn 82) [.agg (eF x),.agg (eF y)] []=V (bv b,[])/\(b=U ↔ x=y):=by
 intro N
 induction N with
 |zero=>intro x y h;omega
 |succ N ih=>
  intro x y hN hb hx hy;obtain⟨ht,hkl,hks⟩:=hb;rename_i xk xt xe ks;obtain⟨h2,hxs⟩:=hx;obtain @⟨yk,yt,ye,js,h3,hys⟩:=hy
  by_cases h0:xk=yk
  .by_cases hl:ks.length=js.length
   .obtain⟨b,g,hgb⟩:=AfK Kq ks js xk yk xt yt xe ye hl hkl (λx hx y hy=>ih x y (by have:=FF (k:=xk) (t:=xt) (e:=xe) hx;omega) (hks x hx) (hxs x hx) (hys y hy)) _ 0 rfl (by omega)
    rw[κ,κ]at hgb;unfold AeG at g;rw[eF,B3,eF,B3]at g
    by_cases hk2:xk=2
    .obtain⟨c,gc,hc⟩:=Xx Kt Kq F (u:=yt) ht hn hk xe ye
     refine⟨c&&b,?_,?_⟩
     .refine Ao Kq Wz (e82 ..) ?_
      rw[B3,B3,Al,Al];refine Aw ?_ h0;refine Aw ?_;refine Aw ?_ hk2;refine Aa gc ?_;simp only[Ae]
      cases c with
      |false=>rfl
      |true=>
       refine Af ?_;refine Aa g ?_
       cases b<;>rfl
     .rw[η,hc,hgb,Fm.mk.injEq]
      constructor
      .rintro⟨⟨rfl,rfl⟩,rfl⟩
       exact⟨h0,rfl,rfl,rfl⟩
      .rintro⟨_,rfl,rfl,rfl⟩
       exact⟨⟨rfl,rfl⟩,rfl⟩
    .refine⟨b,?_,?_⟩
     .refine Ao Kq Wz (e82 ..) ?_
      rw[B3,B3,Al,Al];refine Aw ?_ h0;refine Aw ?_;refine As ?_ hk2;refine Aa g ?_
      cases b<;>rfl
     .obtain⟨rfl,rfl⟩:=h2 hk2
      obtain⟨rfl,rfl⟩:=h3 (by rw[←h0];exact hk2);rw[hgb,Fm.mk.injEq];exact⟨λh=>⟨h0,rfl,rfl,h⟩,λh=>h.2.2.2⟩
   .refine⟨Θ,?_,by simp only[Awx,false_iff,Fm.mk.injEq];exact λh=>hl (by rw[h.2.2.2])⟩
    refine Ao Kq Wz (e82 ..) ?_;rw[B3,B3,Al,Al];refine Aw ?_ h0;exact NM (by omega)
  .refine⟨Θ,?_,by simp only[Awx,false_iff,Fm.mk.injEq];exact λh=>h0 h.1⟩
   refine Ao Kq Wz (e82 ..) ?_;exact NM h0
omit Kt F in
theorem Ts(b:Bool):D.ask (.fn 142) [bv b] []=V (.agg (eF (Ps b)),[]):=by
 refine Ao Kq Amj (AtR ..) ?_
 cases b<;>rfl
omit Kt F in
theorem AhV(x:Fm):D.ask (.fn 144) [.agg (eF x)] []=V (.ls ((JT x).map eF),[]):=by
 obtain⟨k,t,e,ks⟩:=x;refine Ao Kq Aml (AtT ..) ?_;rw[B3,JT]
 by_cases h4:k=4
 .rw[Ac (.inl h4)]
  exact NN h4
 refine As ?_ h4
 by_cases h5:k=5
 .rw[Ac (.inr h5)]
  exact NN h5
 refine As ?_ h5;rw[Ab (by omega)]
 by_cases h3:k=3
 .rw[Ac h3]
  refine Aw ?_ h3;rw[Al]
  cases ks with
  |nil=>rfl
  |cons y r=>
   refine Au ?_ (by rw[π];omega);rw[show Lr 0 1 (y::r).length=U by simp[Lr],IE (λx=>by obtain⟨k,t,e,ks⟩:=x;rfl),KA,JK];rfl
 .rw[Ab h3]
  exact NM h3
include Kh in
theorem AhJ{n k:Nat}{t:Tm}(ht:TmB n k t)(hn:n<=1000000)(hk:k+n<=400000000)(e:Bool):D.ask (.fn 143) [.agg (eT t++[bv e])] []=V (.agg (eF (Fx t.lf.pln e)),[]):=by
 have g:=AdB Kt Kh F ht hn hk;obtain⟨ps,kz⟩:=t;refine Ao Kq Amk (AtS ..) ?_;refine Aa g ?_;rfl
end
section
variable {D:Orc} (KL:KnowsL Ah TF D)
include KL
theorem AhK(ks:List Fm)(hl:ks.length<=1000000)(g:∀ x∈ks,D.ask (.fn 83) [.agg (eF x)] []=V (.agg (eF (Bn x)),[]))(r0:Int)(r1:Rw)(r2:Bool)(r3:Rw)(r4:Bool)(r5:Rw)(k0:Int)(k2 k4:Bool):∀(m i:Nat) (out:List Fm),ks.length-i=m->i<=ks.length->out.length<=i->
  D.ask (.lp 83 0) [.ptr 0 0,.ptr 1 0,.ls (ks.map eF),iv (i:Int)] [⟨[iv r0,.ls r1,bv r2,.ls r3,bv r4,.ls r5],U,Θ⟩,⟨[iv k0,.v (.slice Δ 0 0),bv k2,.v (.slice Δ 0 0),bv k4,.sl 2 0 out.length 6],U,Θ⟩,⟨Av eF out,U,U⟩]
   = V (.tup [iv 1,.ptr 0 0,.ptr 1 0],[.set ⟨[iv r0,.ls r1,bv r2,.ls r3,bv r4,.ls r5],U,Θ⟩,.set ⟨[iv k0,.v (.slice Δ 0 0),bv k2,.v (.slice Δ 0 0),bv k4,.sl 3 0 (out++(ks.drop i).map Bn).length 6],U,Θ⟩,.del,.set ⟨Av eF (out++(ks.drop i).map Bn),U,U⟩]):=by
 intro m
 induction m with
 |zero=>
  intro i out hm hi ho;rw[υ (by omega),Axx,AwV];refine KL.lpL' Agc _ rfl (by kernel_rfl) ((AlT ..).trans ?_);rw[Al];exact Ap rfl
 |succ m ih=>
  intro i out hm hi ho;have h1:i<ks.length:=by omega
  have hn1:∀ kk,Bt (ks.map eF) i kk=kk (eF ks[i]):=λkk=>AA (Ψ h1) kk
  have gx:=g ks[i] (Awy h1);rw[χ h1,AwP];revert hn1 gx;generalize ks[i]=x;intro hn1 gx;have ih:=ih (i+1) (out++[Bn x]) (by omega) (by omega) (by simp;omega);rw[Awr,Axh,show (out++[Bn x]).length=out.length+1 by simp]at ih;have hf:Bh (out.length+1) 96=U:=AL (by omega) (by omega);have hb1:Aww (0+out.length*6) (Av eF out).length=U:=AJ Dt out (by omega);have e3:Awv 0 (Aws (0+out.length*6) (Av eF out))++eF (Bn x)=Av eF (out++[Bn x]):=by
   rw[κ,A9 Dt out (by omega)];exact A8 eF out (Bn x)
  revert gx ih e3;generalize Bn x=y;intro gx ih e3;obtain⟨y0,⟨y1,y2⟩,y3,y4⟩:=y;obtain⟨x0,⟨x1,x2⟩,x3,x4⟩:=x;refine KL.lpL' Agc _ rfl (by kernel_rfl) ((AlT ..).trans ?_);rw[Al];refine Au ?_;rw[AD,hn1];simp only[eF,eN,Ae]at gx e3 ⊢;refine Aa gx ?_;simp only[Ae];rw[hf];refine Af ?_;rw[hb1];refine Af ?_;rw[e3,Bv (by omega)];refine Aa ih ?_;rfl
end
section
variable {D:Orc} (Kt:Knows Ah O2 D) (Kh:Knows Ah RA D) (Kq:Knows Ah TF D) (F:RF D)
include Kt Kh Kq F
theorem Tp{n k:Nat}(hn:n<=1000000)(hk:k+n<=400000000):∀(N:Nat) (x:Fm),SizeOf.sizeOf x<N->FC n k x->D.ask (.fn 83) [.agg (eF x)] []=V (.agg (eF (Bn x)),[]):=by
 intro N
 induction N with
 |zero=>intro x h;omega
 |succ N ih=>
  intro x hN hb;obtain⟨ht,hkl,hks⟩:=hb;rename_i kd t e ks;have gk:=AhV Kq (.mk kd t e ks);have gl:∀(js:List Fm),(∀ y∈js,y∈JT (.mk kd t e ks))->js.length<=1000000->D.ask (.lp 83 0) [.ptr 0 0,.ptr 1 0,.ls (js.map eF),iv ((0:Nat):Int)] [⟨[iv 0,.ls [],bv Θ,.ls [],bv Θ,.ls []],U,Θ⟩,⟨[iv kd,.v (.slice Δ 0 0),bv Θ,.v (.slice Δ 0 0),bv Θ,.sl 2 0 0 6],U,Θ⟩,⟨[],U,U⟩]
   = V (.tup [iv 1,.ptr 0 0,.ptr 1 0],[.set ⟨[iv 0,.ls [],bv Θ,.ls [],bv Θ,.ls []],U,Θ⟩,.set ⟨[iv kd,.v (.slice Δ 0 0),bv Θ,.v (.slice Δ 0 0),bv Θ,.sl 3 0 (js.map Bn).length 6],U,Θ⟩,.del,.set ⟨Av eF (js.map Bn),U,U⟩]):=λjs hj hjl=>by
   have:=AhK Kq.l js hjl (λy hy=>ih y (by have:=FF (k:=kd) (t:=t) (e:=e) (Gk (hj y hy));omega) (hks y (hj y hy))) 0 [] Θ [] Θ [] kd Θ Θ _ 0 [] rfl (by omega) (by simp);rw[κ,AwC]at this;exact this
  refine Ao Kq Agc (e83 ..) ?_;rw[Bn]
  by_cases h0:kd=0
  .rw[Ac h0]
   refine Aw ?_ h0;exact Aa (Ts Kq U) rfl
  refine As ?_ h0;rw[Ab h0]
  by_cases h2:kd=2
  .rw[Ac h2]
   refine Aw ?_ h2;have ga:=AhJ Kt Kh Kq F (ht h2) hn hk e;obtain⟨ps,kz⟩:=t;exact Aa ga rfl
  refine As ?_ h2;rw[Ab h2];rw[JT,eF,B3]at gk;rw[JT]at gl hkl;rw[B3]
  by_cases h3:kd=3
  .rw[Ac h3,OA]
   rw[Ab (by omega),Ac h3]at gk gl;have gl:=gl (ks.take 1) (λy hy=>hy) (by rw[AwL];omega);refine Aw ?_ h3;refine Aa gk ?_;simp only[Ae];refine Aa gl ?_;simp only[Ae,Oo];rw[AJ Dt _ (by omega)];refine Af ?_;rw[BQ Dt _ rfl,h3,kF,eF,B3];rfl
  rw[Ab h3];refine As ?_ h3
  by_cases h45:kd=4\/kd=5
  .rw[Ac h45,G2]
   rw[Ac h45]at gk gl hkl;have gl:=gl ks (λy hy=>hy) hkl;have fin:V ((.agg [iv kd,.ls [],bv Θ,.ls [],bv Θ,.ls ((ks.map Bn).map eF)],[]):AV × List BO)=V (.agg (eF (kF kd (ks.map Bn))),[]):=by
    rw[kF,eF,B3];rfl
   rcases h45 with h4|h5
   .refine Aw ?_ h4
    refine Aa gk ?_;simp only[Ae];refine Aa gl ?_;simp only[Ae,Oo];rw[AJ Dt _ (by omega)];refine Af ?_;rw[BQ Dt _ rfl];exact fin
   .refine As ?_
    refine Aw ?_ h5;refine Aa gk ?_;simp only[Ae];refine Aa gl ?_;simp only[Ae,Oo];rw[AJ Dt _ (by omega)];refine Af ?_;rw[BQ Dt _ rfl];exact fin
  .rw[Ab h45]
   refine As ?_;refine As ?_;exact Aa (Ts Kq Θ) rfl
end
theorem Ad9:∀(n:Nat) (t:Tr),SizeOf.sizeOf t<n->WzT t->WfT t:=by
 intro n
 induction n with
 |zero=>intro t h;omega
 |succ n ih=>
  intro t hn hz;obtain⟨hl,hr,hk,_,_,hx⟩:=hz;exact .mk hl hr hk λx hm=>ih x (by
   have h1:=QH hm;simp only[Tr.mk.sizeOf_spec]at hn;omega) (hx x hm)
structure SameF (D:Orc):Prop where
 same:∀ p q:Pp,PpOk p->PpOk q->D.ask (.fn 41) [.agg (Hr p),.agg (Hr q)] []=V (bv (FO p q),[])
section
variable {D:Orc} (Ksp:Knows Ah Aiy D) (Kt:Knows Ah O2 D) (Kh:Knows Ah RA D) (Kq:Knows Ah TF D) (F:RF D)
include Ksp Kt Kh Kq F
theorem Aia:SameF D where
 same p q hp hq:=by
  have g1:=Tp Kt Kh Kq F (n:=128) (k:=30000) (by omega) (by omega) _ p.f (Awz _) (FB.fc _ p.f (Awz _) hp.fb);have g2:=Tp Kt Kh Kq F (n:=128) (k:=30000) (by omega) (by omega) _ q.f (Awz _) (FB.fc _ q.f (Awz _) hq.fb);rw[hp.can.clone]at g1;rw[hq.can.clone]at g2;obtain⟨b,g3,hb⟩:=Adx Kt Kq F (n:=128) (k:=30000) (by omega) (by omega) _ p.f q.f (Awz _) hp.fb hp.can.cn hq.can.cn;have eb:X9 p.f q.f=b:=by rw[Bool.eq_iff_iff,AjB hp.can hq.can,hb]
  unfold FO;rw[eb];clear hb eb hp hq;obtain⟨a,n,m,⟨fk,ft,fe,fs⟩⟩:=p;obtain⟨a',n',m',⟨gk,gt,ge,gs⟩⟩:=q;simp only[Hr,eF,eN]at g1 g2 g3 ⊢;refine Ao Ksp Arr (e41 ..) ?_;rw[In]
  by_cases h1:a=a'
  .rw[h1,beq_self_eq_true]
   refine Af ?_
   by_cases h2:n=n'
   .refine Aw ?_ h2
    by_cases h3:m=m'
    .refine Aw ?_ h3
     rw[AW h2,AW h3];refine Aa g1 ?_;simp only[Ae];refine Aa g2 ?_;simp only[Ae];refine Aa g3 ?_
     cases b<;>rfl
    .refine As ?_ h3
     rw[Be h3,Azf,Aw3]
   .refine As ?_ h2
    rw[Be h2,Azf,Aw3,Aw3]
  .rw[beq_eq_false_iff_ne.2 h1]
   rfl
end
section
variable {D:Orc} (K:Knows Ah Vk D) (G:SameF D) (y:Sy) (s2:ByteArray) (kn:Bool) (e2:Int) (qs:List Pp) (hq:∀ p∈qs,PpOk p) (hl:qs.length<=1000000) (k k' o o':Int) (l r l' r' ks ks':Rw) (p q p' q':ByteArray)
include K G hq hl
theorem As8(x:Pp)(hx:PpOk x)(i:Nat)(hi:i<=qs.length)(hne:∀ j<i,∀ z,qs[j]? = V z->FO x z=Θ):∀(m j:Nat),i-j=m->j<=i->
  D.ask (.lp 11 1) [.ptr 0 0,.ptr 1 0,sv s2,.ls (qs.map Hr),bv kn,.ptr 2 0,iv e2,iv (i:Int),.ptr 3 0,iv (j:Int),.ls (qs.map Hr),iv (qs.length:Int),iv (i:Int)] [bk (IF y),bk [iv k,.ls l,.ls r,iv o,sv p,sv q,.ls ks],bk [iv k',.ls l',.ls r',iv o',sv p',sv q',.ls ks'],bk (Hr x)]
   = V (.tup [iv 2,.ptr 0 0,.ptr 1 0,sv s2,.ls (qs.map Hr),bv kn,.ptr 2 0,iv e2,.ptr 3 0,.ls (qs.map Hr),iv (qs.length:Int),iv (i:Int)],[.set (bk (IF y)),.set (bk [iv k,.ls l,.ls r,iv o,sv p,sv q,.ls ks]),.set (bk [iv k',.ls l',.ls r',iv o',sv p',sv q',.ls ks']),.set (bk (Hr x))]):=by
 have same:=λz hz=>G.same x z hx hz
 clear hx;obtain⟨a,n,m',⟨fk,ft,fe,fs⟩⟩:=x;intro m
 induction m with
 |zero=>
  intro j hm hj;obtain rfl:j=i:=by omega
  simp only[Hr,eF,eN,IF];refine Ax K Wc (AlG ..) ?_;exact Ap rfl
 |succ m ih=>
  intro j hm hj;have h1:j<qs.length:=by omega
  have ih:=ih (j+1) (by omega) (by omega);have g:=same _ (hq _ (Awy h1));have e:=Ψ h1;rw[hne j (by omega) _ e]at g;revert g e;generalize qs[j]=z;intro g e;obtain⟨a',n',m'',⟨gk,gt,ge,gs⟩⟩:=z;simp only[Hr,eF,eN,IF]at g ih ⊢;refine Ax K Wc (AlG ..) ?_;refine Au ?_;rw[AD,AA e];simp only[Hr,eF,eN,Ae];refine Aa g ?_;simp only[Ae];rw[Bv (by omega)];refine Aa ih ?_;rfl
theorem As9(w:PsOk y qs):∀(m i:Nat),qs.length-i=m->i<=qs.length->
  D.ask (.lp 11 0) [.ptr 0 0,.ptr 1 0,sv s2,.ls (qs.map Hr),bv kn,.ptr 2 0,iv e2,.ls (qs.map Hr),iv (qs.length:Int),iv (i:Int)] [bk (IF y),bk [iv k,.ls l,.ls r,iv o,sv p,sv q,.ls ks],bk [iv k',.ls l',.ls r',iv o',sv p',sv q',.ls ks']]
   = V (.tup [iv 0,.ptr 1 0,sv s2,bv kn,.ptr 2 0,iv e2],[.del,.set (bk [iv k,.ls l,.ls r,iv o,sv p,sv q,.ls ks]),.set (bk [iv k',.ls l',.ls r',iv o',sv p',sv q',.ls ks'])]):=by
 intro m
 induction m with
 |zero=>
  intro i hm hi;simp only[IF];refine Ax K Wc (AlF ..) ?_;exact Ap rfl
 |succ m ih=>
  intro i hm hi;have h1:i<qs.length:=by omega
  have ih:=ih (i+1) (by omega) (by omega);have e:=Ψ h1;have hx:=hq _ (Awy h1);have ha:=w.at _ (Awy h1);have hin:=As8 K G y s2 kn e2 qs hq hl k k' o o' l r l' r' ks ks' p q p' q' _ hx i (by omega) (λj hj z hz=>by
   obtain⟨h2,rfl⟩:=AwQ.1 hz;exact List.pairwise_iff_getElem.1 w.ne j i h2 h1 hj) _ 0 rfl (by omega)
  revert e ha hin;clear hx;generalize qs[i]=x;intro e ha hin;obtain⟨h,a,b,⟨fk,ft,fe,fs⟩⟩:=x;simp only[Hr,eF,eN,IF]at ih hin ⊢;refine Ax K Wc (AlF ..) ?_;refine Au ?_;rw[AD,AA e];simp only[Hr,eF,eN,Ae];refine Aa hin ?_;simp only[Ae];refine Af ?_;rw[Bv (by omega)]
  cases h with
  |false=>
   simp only[AeH];refine Aa ih ?_;rfl
  |true=>
   obtain⟨i',j',pr,rfl,rfl,h2,h3⟩:=ha rfl;simp only[AeJ];refine Ap ?_;rw[Al];refine Cm ?_ (by have:=(AwQ.1 h2).1;omega);refine Ap ?_;rw[AD,AA h2];simp only[Uq,Ae];rw[Al];refine Cm ?_;refine Aa ih ?_;rfl
end
section
variable {D:Orc}
theorem Ac6(K:Knows Ah De D)(Kb:Knows Ah Jq D)(Kq:Knows Ah GM D)(Kr:Knows Ah XO D)(Kw:Knows Ah RD D)(L:NameF D)(A:LexA D)(Kl:Knows Ah Nv D)(Kt:Knows Ah FS D)(N:LexN D)(Kx:Knows Ah XP D)(S:SumF D)(Km:Knows Ah XN D)(Ks:Knows Ah TG D)(Kv:Knows Ah Mt D)(Kk:Knows Ah Vk D)
  (ha:D.ask (.fn 30) [] []=V (bv U,[])) (G:SameF D) (y:Sy) (gR:∀ t:Tr,WzT t->WzP t->I1 t<=1000000->SyB y->D.ask (.fn 34) [.agg (BR t),.agg (IF y)] []=V (Xy (Rm y t),[])) (s:ByteArray) (hs:s.size<=9223372036854775807):D.ask (.fn 11) [sv s,.agg (IF y)] []=V (bv U,[]):=by
 have gf:=Apm Kv y;refine Ao Kk Wc (e11 ..) ?_;refine Aa ha ?_;simp only[Ae];rw[BW]
 by_cases h4:4000<s.size
 .exact Au rfl
 refine Ap ?_;refine Aa gf ?_;simp only[Ae]
 cases hfb:AfG y with
 |false=>exact BF rfl
 |true=>
  have hf:=VZ.1 hfb;refine Af ?_;have hB:SyB y:=⟨by have:=hf.v;omega,by have:=hf.p;omega,λp hp=>by have:=hf.q p hp;omega⟩;have gp:=λz hz=>SY K Kb Kq Kr Kw L y (by have:=hf.v;omega) (by have:=hf.p;omega) (λp hp=>by have:=hf.q p hp;omega) A z hz
  have hlen:s.data.toList.length=s.size:=by
   rw[Axe];rfl
  have hr:=UM (s:=s.data.toList) (vars:=y.vars) (ps:=y.ps) (by omega);have hn:=WV (s:=s.data.toList) (vars:=y.vars) (ps:=y.ps);have g1:=gp s hs;revert g1 hr hn;generalize Ci s.data.toList y.vars y.ps=z;obtain⟨t,a,b,e⟩:=z;intro hr hn g1;simp only at hr hn;unfold HH at g1;simp only at g1
  by_cases he:e=0
  .obtain⟨r1,r2,r3⟩:=hr he
   subst he;have hw:=Ac5 _ t 0 (Awz _) r1;have gt:=Vy Km Kl Kx Kt N K S t hw.1 hw.2 r1 (by have:=QO _ t 0 (Awz _) r1;omega);have gr:=gR t hw.1 hw.2 (by rw[UR];omega) hB;have gg:=KV Kl Kt N t hw.1 hw.2;have gs:=AbF Ks _ t (Awz _) (Ad9 _ t (Awz _) hw.1);have hk:=AkU y r1;rw[r1]at gg;rw[r2]at hk;obtain⟨⟨f,qs⟩,hQ⟩:=Ay9.1 hk;obtain⟨w1,w2,w3⟩:=Aql hQ;rw[hQ]at gr;have hsm:=QO _ t 0 (Awz _) r1;have hqs:qs.length<=1000000:=by
    rw[UR]at w3;omega
   have g2:=gp (Ai (Cb t)) (by rw[Cy];omega);rw[Dg]at g2;have hbk:=λh=>WU (vars:=y.vars) (ps:=y.ps) r1 h r2
   have hsz:(Ai (Cb t)).size=(Cb t).length:=Cy _;rw[show R2 0 t=t from rfl]at g1;clear hr hn hk hQ;generalize Cb t=tx at *;obtain⟨k,l,r,o,p,q,ks⟩:=t;obtain⟨fk,fn,fks⟩:=f;rw[BR]at g1 gt gr gg gs;have lp:=λs2 kn e2 k' l' r' o' p' q' ks'=>As9 Kk G y s2 kn e2 qs w2 hqs k k' o o' (l.map FZ) (r.map FZ) l' r' (Ur ks) ks' p q p' q' w1 _ 0 rfl (by omega)
   simp only[IF]at g1 g2 gr lp ⊢;refine Aa g1 ?_;simp only[Ae];refine Aw ?_ rfl;refine Aa gt ?_;simp only[Ae];refine Aa gr ?_;simp only[Xy,eG,Ae,BW,Al]
   by_cases hlong:16384<tx.length
   .rw[WW hlong]at g2
    unfold HH at g2;have e1:R2 2 T0=T0:=rfl;simp only[e1]at g2;simp only[T0,BR,Ur,Axx]at g2;refine Aa g2 ?_;simp only[Ae];exact Au rfl
   .rw[hbk (by omega)]at g2
    unfold HH at g2;have e1:R2 0 (Tr.mk k l r o p q ks)=.mk k l r o p q ks:=rfl;simp only[e1]at g2;rw[BR]at g2;refine Aa g2 ?_;simp only[Ae];refine Ap ?_;refine Aa (lp ..) ?_;simp only[Ae];refine Aa gg ?_;simp only[Ae];refine Aw ?_ rfl;refine Aa gs ?_;simp only[Ae];refine Aa gt ?_;simp only[Ae];exact Fv rfl rfl
  .have gs:=AbF Ks _ T0 (Awz _) AqJ
   rw[show R2 e t=T0 by unfold R2;rw[Ab he]]at g1;simp only[T0,BR,Ur,Axx,IF]at g1 gs ⊢;refine Aa g1 ?_;simp only[Ae];refine As ?_;refine Cg ?_ (by have:=hn he;omega);refine Aa gs ?_;rfl
end
theorem Aix:SyB Je where
 vars:=by decide
 ps:=by decide
 locs p hp:=by
  have:=XM.q p hp;omega
theorem AhD:WzT Xt:=.mk (by simp) (by simp) (by simp) (by simp) (by simp) (by simp)
theorem AhC:WzP Xt:=.mk (by decide) (by decide) (by simp)
set_option maxRecDepth 1000000 in
theorem Ao1:Yr (V (Xy (Rm Je q4),[]))=U:=by kernel_rfl
set_option maxRecDepth 1000000 in
theorem AqR:AeL (V (Xy (Rm Je Xt),[]))=U:=by kernel_rfl
section
variable {D:Orc}
theorem Zu(Kq:Knows Ah AbN D)(ps:List Pr)(hp:ps.length<=1000000):∀(n i:Nat) (out:List ByteArray),ps.length-i=n->out.length+n<=1000000->D.ask (.lp 232 0) [.sl 0 0 out.length 1,.ls (ps.map Uq),iv (ps.length:Int),iv (i:Int)] [θ (Av eS out) U U]
  = V (.tup [iv 0,.sl 1 0 (out++(ps.drop i).map (·.name)).length 1],[.del,.set (θ (Av eS (out++(ps.drop i).map (·.name))) U U)]):=by
 intro n
 induction n with
 |zero=>
  intro i out hi ho;refine Ax Kq OK (Un ..) ?_;rw[show ps.drop i=[] from υ (by omega),Axx,AwV];refine Ap ?_;rfl
 |succ n ih=>
  intro i out hi ho;have hlt:i<ps.length:=by omega
  have ih:=ih (i+1) (out++[ps[i].name]) (by omega) (by simp;omega);rw[show ps.drop i=ps[i]::ps.drop (i+1) from χ hlt];rw[Awr,ζ,List.length_singleton]at ih;refine Ax Kq OK (Un ..) ?_;refine Au ?_;rw[AD,AA (Ψ hlt)];have hf:Bh (out.length+1) 16=U:=AL (by omega) (by omega);have hb1:Aww (0+out.length*1) (Av eS out).length=U:=AJ G4 out (by omega);have e3:∀ s,Awv 0 (Aws (0+out.length*1) (Av eS out))++[sv s]=Av eS (out++[s]):=λs=>by
   rw[κ,A9 G4 out (by omega)];exact A8 eS out s
  simp only[Uq,Ae];rw[Bv (by omega),hf,hb1,e3];refine Af ?_;refine Af ?_;refine Aa ih ?_;rfl
theorem Zv(Kq:Knows Ah AbN D)(y:Sy)(hp:y.ps.length<=1000000):D.ask (.fn 232) [.agg (IF y)] []=V (.ls ((y.ps.map (·.name)).map eS),[]):=by
 refine Ao Kq OK (Arc ..) ?_;rw[Al];have g:=Zu Kq y.ps hp _ 0 [] rfl (by simpa using hp);refine Aa g ?_;simp only[Ae,κ,AwC];rw[AJ G4 _ (by omega)];refine Af ?_;rw[BQ G4 _ rfl]
end
theorem Ti:∀ l:List Pt,A4 (Av eP l)=U
 |[]=>rfl
 |x::r=>by
  have ih:=Ti r;have h1:Av eP (x::r)=eP x++Av eP r:=by simp[Av]
  rw[h1,BN,AzF,←BN,←BN,ih];rfl
theorem Yu{l:List Pt}(h:l.length<=1000000000):Lg 3 (DC 3 40) [.ls (l.map eP)] []=V (.sl 0 0 l.length 3,[.set (HS l)]):=by
 unfold Lg DC;have h4:Aww (AU (l.map eP)*40) 140737488355328=U:=by
  rw[Al];simp;omega
 have h1:M9 (LS (l.map eP))=U:=by rw[Gu];exact Na Aho l
 have h2:A4 (LS (l.map eP))=U:=by rw[Gu];exact Ti l
 simp only[IE AF,h1,h2,h4,Ayl,if_true,AwE];rw[Al,Gu]
theorem AcA{n:Nat}(h:n<=1000000000):Lg 3 (Nl 40) [.v (.slice Δ 0 0),iv (n:Int)] []=V (.sl 0 0 0 3,[.set (HS [])]):=by
 have h4:Aww (n*40) 140737488355328=U:=by simp;omega
 show (if Aww (n*40) 140737488355328=U then V (0,([]:Ad)) else Δ).map _=_
 rw[Ac h4];rfl
def Near(p:Nat × Nat)(i:Nat):Prop:=1<=p.1/\1<=p.2/\p.1<=i+1/\p.2<=i+1
theorem Near.small{p:Nat × Nat}{i:Nat}(h:Near p i)(hi:i<=20000):Small p:=by
 obtain⟨h1,h2,h3,h4⟩:=h;exact⟨h1,h2,by omega,by omega⟩
theorem Near.step{p:Nat × Nat}{i:Nat}(h:Near p i)(c:UInt8):Near (NH p c) (i+1):=by
 obtain⟨h1,h2,h3,h4⟩:=h;unfold NH;split
 .exact⟨by omega,by omega,by omega,by omega⟩
 .exact⟨by omega,by omega,by omega,by omega⟩
theorem Near.adv:∀(l:List UInt8) {p:Nat × Nat} {i:Nat},Near p i->Near (adv p l) (i+l.length)
 |[],_,_,h=>h
 |c::l,p,i,h=>by
  have:=Near.adv l (h.step c);rw[π,show i+(l.length+1)=i+1+l.length by omega];exact this
theorem Yg(p:Nat × Nat)(l m:List UInt8):adv p (l++m)=adv (adv p l) m:=List.foldl_append
theorem Aet(p:Nat × Nat)(l:List UInt8)(c:UInt8):adv p (l++[c])=NH (adv p l) c:=by rw[Yg];rfl
theorem Ui(s:ByteArray)(j:Nat)(h:j<s.size):s.data.toList.drop j=CO s j::s.data.toList.drop (j+1):=by
 have h':j<s.data.toList.length:=by simpa using h
 rw[χ h'];unfold CO;rw[AwK,Ψ h'];rfl
theorem Alc(s:ByteArray)(i n:Nat)(h:i+n<s.size):(s.data.toList.drop i).take (n+1)=(s.data.toList.drop i).take n++[CO s (i+n)]:=by
 have h':n<(s.data.toList.drop i).length:=by simpa using Nat.lt_sub_of_add_lt (by omega)
 rw[Axt h',List.getElem_drop];unfold CO;rw[AwK,Ψ (by simpa using h)];rfl
def Cd(r:Bool)(s:ByteArray)(j:Nat):Nat:=Ei r (s.data.toList.drop j)
def Da(s:ByteArray)(i:Nat)(p:Nat × Nat)(n:Nat):Nat × Nat:=adv p ((s.data.toList.drop i).take n)
theorem Ew(s:ByteArray)(i n:Nat)(p:Nat × Nat)(h:i+n<s.size):NH (Da s i p n) (CO s (i+n))=Da s i p (n+1):=by
 unfold Da;rw[Alc s i n h,Aet]
theorem GG(s:ByteArray)(i n:Nat)(p:Nat × Nat)(hp:Near p i)(h:i+n<=s.size):Near (Da s i p n) (i+n):=by
 have:=Near.adv ((s.data.toList.drop i).take n) hp
 rwa [AwL,AwR,Axe,AxA (by show n<=s.size-i;omega)]at this
theorem Acy(r:Bool)(s:ByteArray):Cd r s s.size=0:=by
 unfold Cd;rw[List.drop_of_length_le (by simp)]
 cases r<;>rfl
theorem Ic(r:Bool)(s:ByteArray)(j:Nat)(h:j<s.size):Cd r s j=if(CO s j).toNat=10 then Cd Θ s (j+1)+1 else if r then Cd U s (j+1)+1 else if(CO s j).toNat=35 then Cd U s (j+1)+1 else if(CO s j).toNat=32\/(CO s j).toNat=9 then Cd Θ s (j+1)+1 else 0:=by
 unfold Cd;rw[Ui s j h];rfl
theorem Pu{P:Program}{a:Act}{w:World}{Q:Exit->Act->World->Prop}{R X:Code}(l:Nat)(J:Act->World->Prop)(μ:Act->World->Nat)(hl:findLabel (R.seq ((Code.label l).seq X)) l=V (Code.skip.seq X))
  (first:R.wp P (Exit.then J λ_ _ _=>False) a w) (pass:∀ a w,J a w->X.wp P (Exit.jump l (λa' w'=>J a' w'/\μ a' w'<μ a w) Q) a w):(Code.scope (R.seq ((Code.label l).seq X))).wp P Q a w:=
 wp_scope_jumps l J μ hl (wp_seq (wp_mono first (by
  intro e a w h
  cases e<;>first
   |exact wp_seq (wp_label (wp_mono (pass a w h) (by intro e a w h;cases e<;>first|exact h|exact⟨h.1,h.2.1⟩)))
   |exact h.elim))) (λa w hJ=>wp_seq (wp_skip (pass a w hJ)))
def AqI(s:ByteArray)(g i:Nat)(p:Nat × Nat)(w:World)(a:Act)(W:World):Prop:=
 ∃(n:Nat) (r:Bool) (u3 u4 u5 u6 u7 u8 u9 u10 u11 u12 u13 u14 u15 u16 u17 u18 u19 u20 u21 u22 u23 u24 u25 u26 u27 u28 u29 u30 u31 u32:Value),a={ tmps:=#[.pointer (V ⟨g,0,Δ⟩),undef,.bool r,u3,u4,u5,u6,u7,u8,u9,u10,u11,u12,u13,u14,u15,u16,u17,u18,u19,u20,u21,u22,u23,u24,u25,u26,u27,u28,u29,u30,u31,u32],defers:=[] }/\i+n<=s.size/\n+Cd r s (i+n)=Cd Θ s i/\Rd W g s (i+n) (Da s i p n)/\w.grownBy W (V g)
def Rc(g:Nat)(W:World):Nat:=match W.cell? ⟨g,1,Δ⟩ with|some (.int _ n)=>n.toNat|_=>0
theorem DL{W:World}{g:Nat}{s:ByteArray}{j:Nat}{q:Nat × Nat}(h:Rd W g s j q):Rc g W=j:=by
 unfold Rc;rw[h.cells.2.1];simp
set_option maxRecDepth 100000 in
set_option maxHeartbeats 4000000 in
theorem Ail(s:ByteArray)(g i:Nat)(p:Nat × Nat)(w:World)(hs:s.size<=20000)(hi:i<=s.size)(hp:Near p i)(hr:Rd w g s i p) :
  Calls Tryz.prog 160 #[.pointer (V ⟨g,0,Δ⟩)] w λe w'=>e=.returned (.tuple #[])/\Rd w' g s (i+Cd Θ s i) (Da s i p (Cd Θ s i))/\w.grownBy w' (V g):=by
 have HR:=ξ hr;have HP:=ξ hp;clear hr hp
 go_enter Tryz.func160,Tryz.ntmps160
 go_wp2_with fail
 refine Pu 0 (AqI s g i p w) (λ_ W=>s.size-Rc g W) rfl ?first ?pass
 case first=>
  go_wp2
  exact⟨0,Θ,undef,undef,undef,undef,undef,undef,undef,undef,undef,undef,undef,undef,undef,undef,undef,undef,undef,undef,undef,undef,undef,undef,undef,undef,undef,undef,undef,undef,undef,undef,rfl,hi,by simp,by simpa[Da,adv]using HR.out,A1 (Below.refl _ _)⟩
 case pass=>
  rintro a W ⟨n,r,u3,u4,u5,u6,u7,u8,u9,u10,u11,u12,u13,u14,u15,u16,u17,u18,u19,u20,u21,u22,u23,u24,u25,u26,u27,u28,u29,u30,u31,u32,rfl,hn,hgap,hrd,hgr⟩;have HRT:=ξ (DL hrd);obtain⟨c0,c1,_⟩:=hrd.cells;have HRD:=ξ hrd;have HGR:=ξ hgr;have HGAP:=ξ hgap;have HPN:=ξ (GG s i n p HP.out hn);clear hrd hgr hgap;have l0:g<W.heap.size:=BP c0
  by_cases he:i+n=s.size
  .have hq:(((i+n:Nat):Int) == (s.size:Int))=U:=by rw[he];simp
   have HG0:=ξ (Acy r s);have HE:=ξ he;clear he;generalize hj:i+n=j at *;have HJ:=ξ hj;clear hj
   go_wp2_with fail
   refine AZ (by kernel_rfl) (by kernel_rfl) ?_
   repeat (go_big_quiet_step (fail))
   refine wpQuiet_nil ?_;rintro _ ⟨y,rfl⟩;have hb:=Bg W y;generalize later W y=W1 at *
   go_wp2
   dsimp only[Exit.jump];have hz:n=Cd Θ s i:=by have:=HGAP.out;rw[HE.out,HG0.out]at this;omega
   refine bodyPost_ret (results_none rfl _ _ _) rfl ⟨rfl,?_,Bj HGR.out (A1 hb)⟩;rw[←hz,HJ.out];exact Blk.call HRD.out hb
  .have hlt:i+n<s.size:=by omega
   have hq:(((i+n:Nat):Int) == (s.size:Int))=Θ:=by rw[beq_eq_false_iff_ne];omega
   have q0:((i+n:Nat):Int)<(s.size:Int):=by omega
   clear he;have h35:True:=trivial;have hr32:True:=trivial;have hr9:True:=trivial
   by_cases h10:(CO s (i+n)).toNat=10
   .have q10:(((CO s (i+n)).toNat:Int) == 10)=U:=by rw[h10];rfl
    have HG:=ξ (show Cd r s (i+n)=Cd Θ s (i+n+1)+1 by rw[Ic r s (i+n) hlt];rw[Ac h10]);clear h10 h35 hr32 hr9
    go_wp2_with fail
    refine AZ (by kernel_rfl) (by kernel_rfl) ?_
    repeat (go_big_quiet_step (fail))
    refine wpQuiet_nil ?_;rintro _ ⟨y,rfl⟩;have hb:=Bg W y;generalize later W y=W1 at *;have HB:=ξ hb;clear hb
    go_wp2_with fail
    refine(Gt s g _ _ W1 (Blk.call HRD.out HB.out)).mono ?_;rintro e w' ⟨rfl,hb2⟩;have HB2:=ξ (A6 HB.out hb2);clear hb2
    go_wp2_with fail
    refine(FQ s g _ _ w' (by omega) hlt (HPN.out.small (by omega)) (Blk.call HRD.out HB2.out)).mono ?_;rintro e w2 ⟨rfl,hrd2,hg2⟩;have HRD2:=ξ hrd2;have HG2:=ξ hg2;clear hrd2 hg2
    go_wp2
    go_step3
    refine⟨rfl,⟨n+1,Θ,_,_,_,_,_,_,_,_,_,_,_,_,_,_,_,_,_,_,_,_,_,_,_,_,_,_,_,_,_,_,rfl,by omega,?_,?_,Bj (Bj HGR.out (A1 HB2.out)) HG2.out⟩,?_⟩
    .have h1:=HGAP.out
     rw[HG.out]at h1;rw[←AwA i n 1];omega
    .have h1:=HRD2.out
     rw[Ew s i n p hlt,AwA]at h1;exact h1
    .rw[HRT.out,DL HRD2.out]
     omega
   .cases r with
    |true=>
     have q10:(((CO s (i+n)).toNat:Int) == 10)=Θ:=by rw[beq_eq_false_iff_ne];omega
     have HG:=ξ (show Cd U s (i+n)=Cd U s (i+n+1)+1 by rw[Ic U s (i+n) hlt];rw[Ab h10,Ac rfl]);clear h10 h35 hr32 hr9
     go_wp2_with fail
     refine AZ (by kernel_rfl) (by kernel_rfl) ?_
     repeat (go_big_quiet_step (fail))
     refine wpQuiet_nil ?_;rintro _ ⟨y,rfl⟩;have hb:=Bg W y;generalize later W y=W1 at *;have HB:=ξ hb;clear hb
     go_wp2_with fail
     refine(Gt s g _ _ W1 (Blk.call HRD.out HB.out)).mono ?_;rintro e w' ⟨rfl,hb2⟩;have HB2:=ξ (A6 HB.out hb2);clear hb2
     go_wp2_with fail
     refine(FQ s g _ _ w' (by omega) hlt (HPN.out.small (by omega)) (Blk.call HRD.out HB2.out)).mono ?_;rintro e w2 ⟨rfl,hrd2,hg2⟩;have HRD2:=ξ hrd2;have HG2:=ξ hg2;clear hrd2 hg2
     go_wp2
     go_step3
     refine⟨rfl,⟨n+1,U,_,_,_,_,_,_,_,_,_,_,_,_,_,_,_,_,_,_,_,_,_,_,_,_,_,_,_,_,_,_,rfl,by omega,?_,?_,Bj (Bj HGR.out (A1 HB2.out)) HG2.out⟩,?_⟩
     .have h1:=HGAP.out
      rw[HG.out]at h1;rw[←AwA i n 1];omega
     .have h1:=HRD2.out
      rw[Ew s i n p hlt,AwA]at h1;exact h1
     .rw[HRT.out,DL HRD2.out]
      omega
    |false=>
     clear h35 hr32 hr9
     by_cases h35:(CO s (i+n)).toNat=35
     .have hr32:True:=trivial
      have hr9:True:=trivial;have q10:(((CO s (i+n)).toNat:Int) == 10)=Θ:=by rw[beq_eq_false_iff_ne];omega
      have q35:(((CO s (i+n)).toNat:Int) == 35)=U:=by rw[h35];rfl
      have HG:=ξ (show Cd Θ s (i+n)=Cd U s (i+n+1)+1 by rw[Ic Θ s (i+n) hlt];rw[Ab h10,Ab (by decide),Ac h35]);clear h10 h35 hr32 hr9
      go_wp2_with fail
      refine AZ (by kernel_rfl) (by kernel_rfl) ?_
      repeat (go_big_quiet_step (fail))
      refine wpQuiet_nil ?_;rintro _ ⟨y,rfl⟩;have hb:=Bg W y;generalize later W y=W1 at *;have HB:=ξ hb;clear hb
      go_wp2_with fail
      refine(Gt s g _ _ W1 (Blk.call HRD.out HB.out)).mono ?_;rintro e w' ⟨rfl,hb2⟩;have HB2:=ξ (A6 HB.out hb2);clear hb2
      go_wp2_with fail
      refine(FQ s g _ _ w' (by omega) hlt (HPN.out.small (by omega)) (Blk.call HRD.out HB2.out)).mono ?_;rintro e w2 ⟨rfl,hrd2,hg2⟩;have HRD2:=ξ hrd2;have HG2:=ξ hg2;clear hrd2 hg2
      go_wp2
      go_step3
      refine⟨rfl,⟨n+1,U,_,_,_,_,_,_,_,_,_,_,_,_,_,_,_,_,_,_,_,_,_,_,_,_,_,_,_,_,_,_,rfl,by omega,?_,?_,Bj (Bj HGR.out (A1 HB2.out)) HG2.out⟩,?_⟩
      .have h1:=HGAP.out
       rw[HG.out]at h1;rw[←AwA i n 1];omega
      .have h1:=HRD2.out
       rw[Ew s i n p hlt,AwA]at h1;exact h1
      .rw[HRT.out,DL HRD2.out]
       omega
     .by_cases hr32:(CO s (i+n)).toNat=32
      .have hr9:True:=trivial
       have q10:(((CO s (i+n)).toNat:Int) == 10)=Θ:=by rw[beq_eq_false_iff_ne];omega
       have q35:(((CO s (i+n)).toNat:Int) == 35)=Θ:=by rw[beq_eq_false_iff_ne];omega
       have q32:(((CO s (i+n)).toNat:Int) != 32)=Θ:=by rw[hr32];rfl
       have HG:=ξ (show Cd Θ s (i+n)=Cd Θ s (i+n+1)+1 by rw[Ic Θ s (i+n) hlt];rw[Ab h10,Ab (by decide),Ab h35,Ac (.inl hr32)]);clear h10 h35 hr32 hr9
       go_wp2_with fail
       refine AZ (by kernel_rfl) (by kernel_rfl) ?_
       repeat (go_big_quiet_step (fail))
       refine wpQuiet_nil ?_;rintro _ ⟨y,rfl⟩;have hb:=Bg W y;generalize later W y=W1 at *;have HB:=ξ hb;clear hb
       go_wp2_with fail
       refine(Gt s g _ _ W1 (Blk.call HRD.out HB.out)).mono ?_;rintro e w' ⟨rfl,hb2⟩;have HB2:=ξ (A6 HB.out hb2);clear hb2
       go_wp2_with fail
       refine(FQ s g _ _ w' (by omega) hlt (HPN.out.small (by omega)) (Blk.call HRD.out HB2.out)).mono ?_;rintro e w2 ⟨rfl,hrd2,hg2⟩;have HRD2:=ξ hrd2;have HG2:=ξ hg2;clear hrd2 hg2
       go_wp2
       go_step3
       refine⟨rfl,⟨n+1,Θ,_,_,_,_,_,_,_,_,_,_,_,_,_,_,_,_,_,_,_,_,_,_,_,_,_,_,_,_,_,_,rfl,by omega,?_,?_,Bj (Bj HGR.out (A1 HB2.out)) HG2.out⟩,?_⟩
       .have h1:=HGAP.out
        rw[HG.out]at h1;rw[←AwA i n 1];omega
       .have h1:=HRD2.out
        rw[Ew s i n p hlt,AwA]at h1;exact h1
       .rw[HRT.out,DL HRD2.out]
        omega
      .by_cases hr9:(CO s (i+n)).toNat=9
       .have q10:(((CO s (i+n)).toNat:Int) == 10)=Θ:=by rw[beq_eq_false_iff_ne];omega
        have q35:(((CO s (i+n)).toNat:Int) == 35)=Θ:=by rw[beq_eq_false_iff_ne];omega
        have q32:(((CO s (i+n)).toNat:Int) != 32)=U:=by rw[bne_iff_ne];omega
        have q9:(((CO s (i+n)).toNat:Int) != 9)=Θ:=by rw[hr9];rfl
        have HG:=ξ (show Cd Θ s (i+n)=Cd Θ s (i+n+1)+1 by rw[Ic Θ s (i+n) hlt];rw[Ab h10,Ab (by decide),Ab h35,Ac (.inr hr9)]);clear h10 h35 hr32 hr9
        go_wp2_with fail
        refine AZ (by kernel_rfl) (by kernel_rfl) ?_
        repeat (go_big_quiet_step (fail))
        refine wpQuiet_nil ?_;rintro _ ⟨y,rfl⟩;have hb:=Bg W y;generalize later W y=W1 at *;have HB:=ξ hb;clear hb
        go_wp2_with fail
        refine(Gt s g _ _ W1 (Blk.call HRD.out HB.out)).mono ?_;rintro e w' ⟨rfl,hb2⟩;have HB2:=ξ (A6 HB.out hb2);clear hb2
        go_wp2_with fail
        refine(FQ s g _ _ w' (by omega) hlt (HPN.out.small (by omega)) (Blk.call HRD.out HB2.out)).mono ?_;rintro e w2 ⟨rfl,hrd2,hg2⟩;have HRD2:=ξ hrd2;have HG2:=ξ hg2;clear hrd2 hg2
        go_wp2
        go_step3
        refine⟨rfl,⟨n+1,Θ,_,_,_,_,_,_,_,_,_,_,_,_,_,_,_,_,_,_,_,_,_,_,_,_,_,_,_,_,_,_,rfl,by omega,?_,?_,Bj (Bj HGR.out (A1 HB2.out)) HG2.out⟩,?_⟩
        .have h1:=HGAP.out
         rw[HG.out]at h1;rw[←AwA i n 1];omega
        .have h1:=HRD2.out
         rw[Ew s i n p hlt,AwA]at h1;exact h1
        .rw[HRT.out,DL HRD2.out]
         omega
       .have q10:(((CO s (i+n)).toNat:Int) == 10)=Θ:=by rw[beq_eq_false_iff_ne];omega
        have q35:(((CO s (i+n)).toNat:Int) == 35)=Θ:=by rw[beq_eq_false_iff_ne];omega
        have q32:(((CO s (i+n)).toNat:Int) != 32)=U:=by rw[bne_iff_ne];omega
        have q9:(((CO s (i+n)).toNat:Int) != 9)=U:=by rw[bne_iff_ne];omega
        have HG:=ξ (show Cd Θ s (i+n)=0 by rw[Ic Θ s (i+n) hlt];rw[Ab h10,Ab (by decide),Ab h35,Ab (by omega)]);clear h10 h35 hr32 hr9
        go_wp2_with fail
        refine AZ (by kernel_rfl) (by kernel_rfl) ?_
        repeat (go_big_quiet_step (fail))
        refine wpQuiet_nil ?_;rintro _ ⟨y,rfl⟩;have hb:=Bg W y;generalize later W y=W1 at *;have HB:=ξ hb;clear hb
        go_wp2_with fail
        refine(Gt s g _ _ W1 (Blk.call HRD.out HB.out)).mono ?_;rintro e w' ⟨rfl,hb2⟩;have HB2:=ξ (A6 HB.out hb2);clear hb2
        go_wp2
        dsimp only[Exit.jump];have hz:n=Cd Θ s i:=by have:=HGAP.out;rw[HG.out]at this;omega
        refine bodyPost_ret (results_none rfl _ _ _) rfl ⟨rfl,?_,Bj HGR.out (A1 HB2.out)⟩;rw[←hz];exact Blk.call HRD.out HB2.out
