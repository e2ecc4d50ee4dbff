/- What the reference's fun -/
import Derived.Test.YtlmhajfbpplpoaaGreatOBQ
set_option linter.all false
open Bool renaming and_true->AsP,or_false->AsR,true_and->ApP
open Int renaming add_assoc->Aqn,add_comm->Aso,mul_zero->Ara,natAbs_neg->Aq9,natCast_mul->ArE,neg_mul->AsY,sub_eq_add_neg->Asq,zero_add->Asr,zero_mul->ArV
open List renaming drop_eq_getElem_cons->χ,drop_eq_nil_of_le->Apz,drop_zero->π,findIdx?_eq_some_iff_getElem->Ap3,getD_eq_getElem?_getD->ApH,getElem?_eq_getElem->Φ,getElem?_eq_some_iff->ApJ,getElem_map->ArY,getElem_mem->ApG,length_cons->Apw,length_map->ApO,mem_map->AqH
open Nat renaming ble_eq_true_of_le->Aqr,le_refl->ω,lt_succ_self->Aqe,pow_succ->AqI
open Option renaming getD_some->AqX
namespace Go.Proofs.YtlmhajfbpplpoaaGreat
open ABlk renaming mk->Δ
open Go.RowKit
theorem Si{s:ByteArray}(h:0<s.size):MB s ↔ Af.sat s 0=45:=by
 rw[DE h];unfold MB;have hl:0<s.data.toList.length:=by simpa using h
 have e:(s.extract 0 1).data.toList=[s.data.toList[0]'hl]:=by
  rw[ByteArray.data_extract,Array.toList_extract];obtain⟨x,r,e⟩:∃ x r,s.data.toList=x::r:=by
   cases e:s.data.toList with
   |nil=>rw[e]at hl;cases hl
   |cons x r=>exact⟨x,r,rfl⟩
  simp[List.extract,e]
 constructor
 .rintro⟨_,h2⟩
  rw[h2]at e;have:(45:UInt8)=s.data.toList[0]'hl:=(List.cons.inj e).1;rw[←this];rfl
 .intro h2
  refine⟨h,ByteArray.ext (Array.ext' ?_)⟩;rw[e];have:s.data.toList[0]'hl=(45:UInt8):=UInt8.toNat_inj.1 (by rw[show (45:UInt8).toNat=45 from rfl];omega);rw[this];rfl
theorem GZ{z:Zi}(h:zv z<0):zv z=-(Ag z.abs:Int):=by
 unfold zv DU at *
 cases e:z.neg<;>rw[e]at h<;>simp at h ⊢
 omega
theorem EH{z:Zi}(h:¬ zv z<0):zv z=(Ag z.abs:Int):=by
 unfold zv DU at *
 cases e:z.neg<;>rw[e]at h<;>simp at h ⊢
 omega
theorem Lx{n:Int}:Cw n<0 ↔ n<0:=by
 unfold Cw;split
 .omega
 .split<;>omega
theorem Aej{k:Nat}{x y:Int}(hx:InB k x)(hy:InB k y):InB (k+1) (x+y):=by
 unfold InB at *;rw[AqI];have:=Int.natAbs_add_le x y;omega
theorem PU{k:Nat}(hk:k<=900000000){a b:Zi}(ha:Lz k a)(hb:Lz k b):Cu (AN (Ag a.abs+Ag b.abs)):=by
 unfold Cu;have h1:=ha.inb;have h2:=hb.inb;have f:∀ z:Zi,(zv z).natAbs=Ag z.abs:=λz=>by
  unfold zv DU;split
  .rw[Aq9];rfl
  .rfl
 unfold InB at h1 h2;rw[f]at h1 h2;have:=Bw (n:=Ag a.abs+Ag b.abs) (k:=k+1) (by rw[AqI];omega);omega
theorem Db(n:Int):Cw n=-1/\n<0\/Cw n=1/\0<n\/Cw n=0/\n=0:=by
 unfold Cw;split
 .omega
 .split<;>omega
theorem Rv(x y:Int):Af.mul .i64 (Cw x) (Cw y)=Cw x*Cw y:=by
 show IntKind.i64.wrap (Cw x*Cw y)=_
 rw[IntKind.wrap_i64];rcases Db x with h|h|h<;>rcases Db y with h2|h2|h2<;>rw[h.1,h2.1]<;>rfl
theorem U7{a b:Zi}(h:Cw (zv a)*Cw (zv b)<0):DU true (Ag a.abs*Ag b.abs)=zv a*zv b:=by
 unfold DU;rw[if_pos rfl,ArE]
 by_cases ha:zv a<0
 .rw[GZ ha]
  by_cases hb:zv b<0
  .exfalso
   rcases Db (zv a) with h1|h1|h1<;>rcases Db (zv b) with h2|h2|h2<;>rw[h1.1,h2.1]at h<;>omega
  .rw[EH hb,AsY]
 .rw[EH ha]
  by_cases hb:zv b<0
  .rw[GZ hb,Int.mul_neg]
  .exfalso
   rcases Db (zv a) with h1|h1|h1<;>rcases Db (zv b) with h2|h2|h2<;>rw[h1.1,h2.1]at h<;>omega
theorem U8{a b:Zi}(h:¬ Cw (zv a)*Cw (zv b)<0):DU false (Ag a.abs*Ag b.abs)=zv a*zv b:=by
 unfold DU;rw[if_neg (by simp),ArE];rcases Db (zv a) with h1|h1|h1
 .rcases Db (zv b) with h2|h2|h2
  .rw[GZ h1.2,GZ h2.2,Int.neg_mul_neg]
  .exfalso
   rw[h1.1,h2.1]at h;omega
  .have:=EH (z:=b) (by omega)
   rw[h2.2,Ara,←this,h2.2,Ara]
 .rcases Db (zv b) with h2|h2|h2
  .exfalso
   rw[h1.1,h2.1]at h;omega
  .rw[←EH (z:=a) (by omega),←EH (z:=b) (by omega)]
  .have:=EH (z:=b) (by omega)
   rw[h2.2,Ara,←this,h2.2,Ara]
 .have:=EH (z:=a) (by omega)
  rw[h1.2,ArV,←this,h1.2,ArV]
section
variable {D:Orc} (K:Knows Al OB D) (R:Knows Al TJ D)
include K R
theorem CO(neg:Bool){a:List Nat}(ha:Limbs a)(hs:Cu a):D.ask (.fn 180) [bv neg,eN a] []=some (.agg (eZ (AF (DU neg (Ag a)))),[]):=by
 refine R.fn' AgV _ rfl ((AnF ..).trans ?_);refine Ab (E5 K hs ha) ?_;simp only[eN,ND,DK,Aa,Ao];rw[W6];unfold eZ eN;have hp:=@EB (Ag a)
 by_cases h:0<Ag a
 .refine Am (by have:=hp.2 h;omega) ?_
  rw[decide_eq_true h,AsP]
 .have h0:Ag a=0:=by omega
  rw[decide_eq_false h,Bool.and_false,h0,Es];exact Av rfl rfl
theorem Ym{z:Zi}(hz:Lz 1000000000 z):D.ask (.fn 179) [.agg (eZ z)] []=some (.agg (eZ (AF (zv z))),[]):=by
 refine R.fn' AgU _ rfl ((AnE ..).trans ?_);refine Ab (CO K R z.neg hz.lim hz.len) ?_;rfl
theorem Em{z:Zi}(hz:Lz 1000000000 z):D.ask (.fn 116) [.agg (eZ z)] []=some (iv (Cw (zv z)),[]):=by
 refine R.fn' Agw _ rfl ((Am6 ..).trans ?_);refine Ab (E5 K hz.len hz.lim) ?_;simp only[eN,ND,DK,Aa,Ao];have hp:=@EB (Ag z.abs);unfold zv DU
 by_cases h:0<Ag z.abs
 .refine Am (by have:=hp.2 h;omega) ?_
  cases z.neg with
  |false=>
   refine A1 ?_;rw[if_neg (by simp)];unfold Cw;rw[if_neg (by omega)]
   first|rw[if_pos (by omega)] | rw[if_neg (by omega)]
  |true=>
   refine Ac ?_;rw[if_pos rfl];unfold Cw
   first|rw[if_pos (by omega)] | rw[if_neg (by omega),if_neg (by omega)]
 .have h0:Ag z.abs=0:=by omega
  rw[h0,Es];refine Av rfl ?_
  cases z.neg<;>rfl
theorem WG{z:Zi}(hz:Lz 1000000000 z):D.ask (.fn 123) [.agg (eZ z)] []=some (.agg (eZ (AF (-zv z))),[]):=by
 have e:-zv z=DU (!z.neg) (Ag z.abs):=by
  unfold zv DU
  cases z.neg<;>simp
 rw[e];refine R.fn' AgB _ rfl ((Ane ..).trans ?_);rw[AbU];have g:=λb=>CO K R b hz.lim hz.len
 cases z.neg with
 |false=>
  refine Ac ?_;refine Ab (g true) ?_;rfl
 |true=>
  refine A1 ?_;refine Ab (g false) ?_;rfl
theorem Vp(s:ByteArray):D.ask (.fn 120) [sv s] []=some (.tup [.agg (eZ (Ga s).1),iv (Ga s).2],[]):=by
 refine R.fn' Agz _ rfl ((Ana ..).trans ?_);unfold Ga Ha;rw[Ch]
 by_cases h0:0<s.size
 .refine Ai (by omega) ?_
  rw[show Nat.blt 0 s.size=true from Bv h0];refine Ac ?_
  by_cases h1:MB s
  .rw[if_pos h1]
   refine Av ((Si h0).1 h1) ?_;rw[show J1 1 s.size s.size=true by unfold J1;rw[Aqr h1.1,Aqr (ω _)]];refine Ac ?_;generalize hx:Af.ssub s 1 s.size=x;rw[show s.extract 1 s.size=x from hx];refine Ab (Ls K x) ?_;simp only[eN,Fh,ND,DK,Aa]
   by_cases h:(Hb x).2=0
   .rw[if_pos h]
    refine Av h ?_;refine Ab (CO K R true (E1 _) (by unfold Cu;have:=HY x;omega)) ?_;rfl
   .rw[if_neg h]
    exact Am h rfl
  .rw[if_neg h1]
   refine Am (λh=>h1 ((Si h0).2 h)) ?_;refine Ab (Ls K s) ?_;simp only[eN,Fh,ND,DK,Aa]
   by_cases h:(Hb s).2=0
   .rw[if_pos h]
    refine Av h ?_;refine Ab (CO K R false (E1 _) (by unfold Cu;have:=HY s;omega)) ?_;rfl
   .rw[if_neg h]
    exact Am h rfl
 .rw[if_neg (λh1:MB s=>h0 h1.1)]
  refine Ah (by omega) ?_;refine Ab (Ls K s) ?_;simp only[eN,Fh,ND,DK,Aa]
  by_cases h:(Hb s).2=0
  .rw[if_pos h]
   refine Av h ?_;refine Ab (CO K R false (E1 _) (by unfold Cu;have:=HY s;omega)) ?_;rfl
  .rw[if_neg h]
   exact Am h rfl
theorem P6{k:Nat}(hk:k<=900000000){a b:Zi}(ha:Lz k a)(hb:Lz k b)(hp:¬ zv a<0):D.ask (.fn 124) [.agg (eZ a),.agg (eZ b)] []=some (.agg (eZ (AF (zv a+zv b))),[]):=by
 have la:=ha.len;have lb:=hb.len;have sa:=Em K R (ha.mono (show k<=1000000000 by omega));have sb:=Em K R (hb.mono (show k<=1000000000 by omega));have ea:=EH hp;have hsa:¬ Cw (zv a)<0:=λh=>hp (Lx.1 h)
 refine R.fn' AaM _ rfl ((AkE ..).trans ?_);refine Ab sa ?_;simp only[RI,ND,DK,Aa];refine Ah hsa ?_;refine Ab sa ?_;simp only[RI,ND,DK,Aa];refine Cn (by omega) ?_;refine Ab sb ?_;simp only[RI,ND,DK,Aa]
 by_cases hb0:zv b<0
 .have hsb:=Lx.2 hb0
  have eb:=GZ hb0;refine Cv (by omega) ?_;refine Ab sa ?_;simp only[RI,ND,DK,Aa];refine Ah hsa ?_;have g1:=WH K (a:=a.abs) (b:=b.abs) (by unfold Cu;omega) ha.lim (by unfold Cu;omega) hb.lim;unfold Ns at g1;refine Ab g1 ?_
  by_cases hle:Ag b.abs<=Ag a.abs
  .rw[if_pos hle]
   simp only[eN,ND,DK,Aa];have g2:=CO K R false (a:=AN (Ag a.abs-Ag b.abs)) (AA _) (by
    unfold Cu;have:=Bw (n:=Ag a.abs-Ag b.abs) (k:=a.abs.length) (by have:=CL ha.lim;omega);omega)
   rw[AP,show DU false (Ag a.abs-Ag b.abs)=zv a+zv b by unfold DU;rw[if_neg (by simp)];omega]at g2;refine Ab g2 ?_;rfl
  .rw[if_neg hle]
   simp only[eN,ND,DK,Aa];have g3:=WH K (a:=b.abs) (b:=a.abs) (by unfold Cu;omega) hb.lim (by unfold Cu;omega) ha.lim;unfold Ns at g3;rw[if_pos (show Ag a.abs<=Ag b.abs by omega)]at g3;refine Ab g3 ?_;simp only[eN,ND,DK,Aa];have g2:=CO K R true (a:=AN (Ag b.abs-Ag a.abs)) (AA _) (by
    unfold Cu;have:=Bw (n:=Ag b.abs-Ag a.abs) (k:=b.abs.length) (by have:=CL hb.lim;omega);omega)
   rw[AP,show DU true (Ag b.abs-Ag a.abs)=zv a+zv b by unfold DU;rw[if_pos rfl];omega]at g2;refine Ab g2 ?_;rfl
 .have hsb:¬ Cw (zv b)<0:=λh=>hb0 (Lx.1 h)
  have eb:=EH hb0;refine Cn (by omega) ?_;refine Ab (ID K (by omega) ha.lim (by omega) hb.lim) ?_;simp only[eN,ND,DK,Aa];have g2:=CO K R false (a:=AN (Ag a.abs+Ag b.abs)) (AA _) (PU hk ha hb);rw[AP,show DU false (Ag a.abs+Ag b.abs)=zv a+zv b by unfold DU;rw[if_neg (by simp)];omega]at g2;refine Ab g2 ?_;rfl
theorem Tq{k:Nat}(hk:k<=900000000){a b:Zi}(ha:Lz k a)(hb:Lz k b):D.ask (.fn 124) [.agg (eZ a),.agg (eZ b)] []=some (.agg (eZ (AF (zv a+zv b))),[]):=by
 by_cases hp:zv a<0
 .have la:=ha.len
  have lb:=hb.len;have sa:=Em K R (ha.mono (show k<=1000000000 by omega));have sb:=Em K R (hb.mono (show k<=1000000000 by omega));have ea:=GZ hp;have hsa:=Lx.2 hp;refine R.fn' AaM _ rfl ((AkE ..).trans ?_);refine Ab sa ?_;simp only[RI,ND,DK,Aa];refine Ai hsa ?_;refine Ab sb ?_;simp only[RI,ND,DK,Aa]
  by_cases hb0:zv b<0
  .have eb:=GZ hb0
   refine Ai (Lx.2 hb0) ?_;refine Ab (ID K (by omega) ha.lim (by omega) hb.lim) ?_;simp only[eN,ND,DK,Aa];have g2:=CO K R true (a:=AN (Ag a.abs+Ag b.abs)) (AA _) (PU hk ha hb);rw[AP,show DU true (Ag a.abs+Ag b.abs)=zv a+zv b by unfold DU;rw[if_pos rfl];omega]at g2;refine Ab g2 ?_;rfl
  .refine Ah (λh=>hb0 (Lx.1 h)) ?_
   refine Ab sa ?_;simp only[RI,ND,DK,Aa];refine Cv (by omega) ?_;refine Ab sa ?_;simp only[RI,ND,DK,Aa];refine Ai hsa ?_;have g:=P6 K R hk hb ha hb0;rw[Aso]at g;refine Ab g ?_;rfl
 .exact P6 K R hk ha hb hp
theorem Aci{k:Nat}(hk:k<=900000000){a b:Zi}(ha:Lz k a)(hb:Lz k b):D.ask (.fn 118) [.agg (eZ a),.agg (eZ b)] []=some (.agg (eZ (AF (zv a-zv b))),[]):=by
 refine R.fn' Agx _ rfl ((Am8 ..).trans ?_);refine Ab (WG K R (hb.mono (show k<=1000000000 by omega))) ?_;have hn:Lz k (AF (-zv b)):=InB.lz (by have:=hb.inb;unfold InB at *;rwa [Aq9]);have g:=Tq K R hk ha hn;rw[Ay,←Asq]at g;simp only[eZ,eN,ND,DK,Aa];refine Ab g ?_;rfl
theorem Acg{k:Nat}(hk:k<=900000000){a b:Zi}(ha:Lz k a)(hb:Lz k b):D.ask (.fn 67) [.agg (eZ a),.agg (eZ b)] []=some (iv (Cw (zv a-zv b)),[]):=by
 refine R.fn' Alb _ rfl ((e67 ..).trans ?_);refine Ab (Aci K R hk ha hb) ?_;have hs:Lz (k+1) (AF (zv a-zv b)):=InB.lz (by rw[Asq];exact Aej ha.inb (by have:=hb.inb;unfold InB at *;rwa [Aq9]));have g:=Em K R (hs.mono (show k+1<=1000000000 by omega));rw[Ay]at g;simp only[eZ,eN,ND,DK,Aa];refine Ab g ?_;rfl
theorem Ach{k m:Nat}(hk:k<=400000000)(hm:m<=400000000){a b:Zi}(ha:Lz k a)(hb:Lz m b):D.ask (.fn 122) [.agg (eZ a),.agg (eZ b)] []=some (.agg (eZ (AF (zv a*zv b))),[]):=by
 have la:=ha.len;have lb:=hb.len;have sa:=Em K R (ha.mono (show k<=1000000000 by omega));have sb:=Em K R (hb.mono (show m<=1000000000 by omega));refine R.fn' AgA _ rfl ((Anc ..).trans ?_);refine Ab sa ?_;simp only[RI,ND,DK,Aa];refine Ab sb ?_;simp only[RI,ND,DK,Aa];have g:=Afg K ha.lim hb.lim (by omega);have l1:=EA ha.lim hb.lim;have gf:∀ ng,D.ask (.fn 180) [bv ng,eN (AN (Ag a.abs*Ag b.abs))] []=some (.agg (eZ (AF (DU ng (Ag a.abs*Ag b.abs)))),[]):=λng=>by
  have:=CO K R ng (a:=AN (Ag a.abs*Ag b.abs)) (AA _) (by unfold Cu;omega)
  rwa [AP]at this
 have hmul:Af.mul .i64 (Cw (zv a)) (Cw (zv b))=Cw (zv a)*Cw (zv b):=Rv _ _;rw[hmul]
 by_cases h:Cw (zv a)*Cw (zv b)<0
 .refine Ai h ?_
  refine Ab g ?_;simp only[eN,ND,DK,Aa];have g2:=gf true;rw[U7 h]at g2;refine Ab g2 ?_;rfl
 .refine Ah h ?_
  refine Ab g ?_;simp only[eN,ND,DK,Aa];have g2:=gf false;rw[U8 h]at g2;refine Ab g2 ?_;rfl
theorem Yw{a b:Zi}(ha:Lz 1000000000 a):D.ask (.fn 238) [.agg (eZ a),.agg (eZ b)] []=some (bv (decide (a.neg=b.neg/\a.abs=b.abs)),[]):=by
 refine R.fn' Aha _ rfl ((An6 ..).trans ?_);rw[WI]
 by_cases h:a.neg=b.neg
 .rw[show (a.neg == b.neg)=true by simp[h]]
  refine Ac ?_;refine Ab (AbT K (a:=a.abs) (b:=b.abs) ha.len) ?_
  by_cases h2:a.abs=b.abs
  .rw[decide_eq_true h2,decide_eq_true ⟨h,h2⟩]
   rfl
  .rw[decide_eq_false h2,decide_eq_false (λe=>h2 e.2)]
   rfl
 .rw[show (a.neg == b.neg)=false by simp[h],decide_eq_false (λe=>h e.1)]
  exact A1 rfl
end
theorem AbW(m:Nat)(h:m<9223372036854775808):Af.rem .i64 (m:Int) 4294967296=((m % 4294967296:Nat):Int):=by
 show Int.tmod (m:Int) 4294967296=_
 rw[show (4294967296:Int)=((4294967296:Nat):Int) from rfl,←Int.ofNat_tmod]
theorem AbV(m:Nat)(h:m<9223372036854775808):Af.quo .i64 (m:Int) 4294967296=((m / 4294967296:Nat):Int):=by
 show IntKind.i64.wrap (Int.tdiv (m:Int) 4294967296)=_
 rw[IntKind.wrap_i64,show (4294967296:Int)=((4294967296:Nat):Int) from rfl,←Int.ofNat_tdiv];omega
theorem TS(m:Nat):Ag [m % 4294967296,m / 4294967296]=m:=by
 unfold Ag Ag Ag;omega
theorem PL(m:Nat)(h:m<9223372036854775808):Limbs [m % 4294967296,m / 4294967296]:=BC (by omega) (BC (by omega) BM)
structure RF (D:Orc):Prop where
 clean:∀ z:Zi,Lz 1000000000 z->D.ask (.fn 179) [.agg (eZ z)] []=some (.agg (eZ (AF (zv z))),[])
 neg:∀ z:Zi,Lz 1000000000 z->D.ask (.fn 123) [.agg (eZ z)] []=some (.agg (eZ (AF (-zv z))),[])
 sign:∀ z:Zi,Lz 1000000000 z->D.ask (.fn 116) [.agg (eZ z)] []=some (iv (Cw (zv z)),[])
 of_:∀ n:Int,-9223372036854775808<n->n<9223372036854775808->D.ask (.fn 119) [iv n] []=some (.agg (eZ (AF n)),[])
 cmp:∀ a b:Zi,Lz 900000000 a->Lz 900000000 b->D.ask (.fn 67) [.agg (eZ a),.agg (eZ b)] []=some (iv (Cw (zv a-zv b)),[])
 add:∀ a b:Zi,Lz 900000000 a->Lz 900000000 b->D.ask (.fn 124) [.agg (eZ a),.agg (eZ b)] []=some (.agg (eZ (AF (zv a+zv b))),[])
 mul:∀ a b:Zi,Lz 400000000 a->Lz 400000000 b->D.ask (.fn 122) [.agg (eZ a),.agg (eZ b)] []=some (.agg (eZ (AF (zv a*zv b))),[])
 parse:∀ s:ByteArray,D.ask (.fn 120) [sv s] []=some (.tup [.agg (eZ (Ga s).1),iv (Ga s).2],[])
 same:∀ a b:Zi,Lz 1000000000 a->D.ask (.fn 238) [.agg (eZ a),.agg (eZ b)] []=some (bv (decide (a.neg=b.neg/\a.abs=b.abs)),[])
section
variable {D:Orc} (K:Knows Al OB D) (R:Knows Al TJ D)
include K R
theorem AjX(n:Int)(h1:-9223372036854775808<n)(h2:n<9223372036854775808):D.ask (.fn 119) [iv n] []=some (.agg (eZ (AF n)),[]):=by
 refine R.fn' Agy _ rfl ((Am9 ..).trans ?_)
 by_cases h:0<=n
 .obtain⟨m,rfl⟩:=Int.eq_ofNat_of_zero_le h
  have g:=CO K R false (PL m (by omega)) (by unfold Cu;simp);rw[TS,show DU false m=(m:Int) from rfl]at g;refine Cn h ?_;refine Am (by decide) ?_;refine Am (by decide) ?_;rw[AbW m (by omega),AbV m (by omega),Bz (by omega),Bz (by omega)];refine Ab g ?_;rfl
 .obtain⟨m,hm⟩:∃ m:Nat,n=-((m+1:Nat):Int):=⟨n.natAbs-1,by omega⟩
  have e1:Af.sub .i64 0 (Af.add .i64 n 1)=(m:Int):=by
   rw[G7 (by omega) (by omega),Gb (by omega) (by omega)];omega
  have ga:=ID K (a:=[m % 4294967296,m / 4294967296]) (b:=[1]) (by simp) (PL m (by omega)) (by simp) (BC (by omega) BM);rw[TS,show Ag [1]=1 from rfl]at ga;have hl:(AN (m+1)).length<=2:=Bw (by omega);have g:=CO K R true (AA (m+1)) (by unfold Cu;omega);rw[AP,show DU true (m+1)=n by rw[hm];rfl]at g;refine Cv h ?_;refine Am (by decide) ?_;refine Am (by decide) ?_;rw[e1,AbW m (by omega),AbV m (by omega),Bz (by omega),Bz (by omega)];refine Ab ga ?_;simp only[eN,ND,DK,Aa];refine Ab g ?_;rfl
theorem AmF:RF D where
 clean z h:=Ym K R h
 neg z h:=WG K R h
 sign z h:=Em K R h
 of_ n h1 h2:=AjX K R n h1 h2
 cmp a b ha hb:=Acg K R (ω _) ha hb
 add a b ha hb:=Tq K R (ω _) ha hb
 mul a b ha hb:=Ach K R (ω _) (ω _) ha hb
 parse s:=Vp K R s
 same a b ha:=Yw K R ha
end
theorem Aco(n:Int):Cw n=0 ↔ n=0:=by
 unfold Cw
 repeat' split
 all_goals omega
theorem WT(n:Int):Cw n<0 ↔ n<0:=by
 unfold Cw
 repeat' split
 all_goals omega
theorem Afv(n:Int):0<Cw n ↔ 0<n:=by
 unfold Cw
 repeat' split
 all_goals omega
theorem Jg(p:Prop)[Decidable p]:br (decide p) (some (bv true,([]:List BO))) (some (bv false,[]))=some (bv (decide p),[]):=by
 by_cases h:p
 .rw[decide_eq_true h];rfl
 .rw[decide_eq_false h];rfl
theorem QJ(b:Bool):br b (some (bv true,([]:List BO))) (some (bv false,[]))=some (bv b,[]):=by cases b<;>rfl
theorem QI(b:Bool):br b (some (bv false,([]:List BO))) (some (bv true,[]))=some (bv (!b),[]):=by cases b<;>rfl
section
variable {D:Orc} (Kh:Knows Al Qe D) (F:RF D)
include Kh F
theorem AdQ{n k:Nat}{ps:List Pt}{kz:Zi}(ht:TmB n k ⟨ps,kz⟩)(hn:n<=1000000)(hk:k+n<=400000000)(v:Int)(y0:Bool)(y1:List (List AV)):∀(m i:Nat) (acc:Int),ps.length-i=m->i<=ps.length->InB (k+i) acc->
  D.ask (.lp 178 0) [iv v,.ptr 0 0,.ptr 1 0,.ptr 2 0,iv (i:Int)] [⟨[.ls (ps.map eP),bv kz.neg,eN kz.abs],true,false⟩,⟨[bv y0,.ls y1],true,false⟩,⟨eZ (AF acc),true,false⟩]
   = some (.tup [iv 0,.ptr 1 0,.ptr 2 0],[.del,.set ⟨[bv y0,.ls y1],true,false⟩,.set ⟨eZ (AF (acc+if 0<=v then AU v ((ps.drop i).map pv) else 0)),true,false⟩]):=by
 have hlen:ps.length<=n:=ht.len;intro m
 induction m with
 |zero=>
  intro i acc hm hi ha;rw[Apz (by omega)];have e0:acc+(if 0<=v then AU v (([]:List Pt).map pv) else 0)=acc:=by
   rw[List.map_nil,AU];split<;>omega
  rw[e0];refine Kh.lp' Ss _ rfl (by kernel_rfl) ((ZZ ..).trans ?_);rw[Ao];exact Ah (by omega) rfl
 |succ m ih=>
  intro i acc hm hi ha;have h1:i<ps.length:=by omega
  have hz:=ht.ps ps[i] (ApG h1);rw[χ h1,List.map_cons,AU];have hn1:∀ kk,Bh (ps.map eP) i kk=kk (eP ps[i]):=λkk=>Au (Φ h1) kk
  have ga:=F.add (AF acc) ps[i].z (ha.lz.mono (by omega)) (hz.mono (by omega));rw[Ay]at ga;have ih1:=ih (i+1) acc (by omega) (by omega) (ha.mono (by omega));have ih2:=ih (i+1) (acc+zv ps[i].z) (by omega) (by omega) (by
   show InB (k+i+1) _
   exact InB.add ha (hz.inb.mono (by omega)))
  refine Kh.lp' Ss _ rfl (by kernel_rfl) ((ZZ ..).trans ?_);rw[Ao];refine Ai (by omega) ?_;rw[Aw,hn1];simp only[eP,eN,ND,DK,Aa]
  by_cases hv:ps[i].v=v
  .refine Av hv ?_
   by_cases h0:0<=v
   .refine Cn h0 ?_
    rw[Aw,hn1];simp only[eP,eN,ND,DK,Aa];refine Ab ga ?_;simp only[eZ,eN,ND,DK,Aa];rw[A8 (by omega)];refine Ab ih2 ?_;rw[if_pos h0,if_pos h0,if_pos (show (pv ps[i]).1=v from hv),Aqn];rfl
   .refine Cv h0 ?_
    rw[A8 (by omega)];refine Ab ih1 ?_;rw[if_neg h0,if_neg h0];rfl
  .refine Am hv ?_
   rw[A8 (by omega)];refine Ab ih1 ?_;rw[if_neg (show ¬(pv ps[i]).1=v from hv),Asr];rfl
theorem AdR{n k:Nat}{t:Tm}(ht:TmB n k t)(hn:n<=1000000)(hk:k+n<=400000000)(v:Int):D.ask (.fn 178) [.agg (eT t),iv v] []=some (.agg (eZ (AF (if 0<=v then AU v t.lf.ps else 0))),[]):=by
 obtain⟨ps,kz⟩:=t;have g:=AdQ Kh F ht hn hk v false [] _ 0 0 rfl (by omega) (InB.zero _);rw[π,Asr]at g;have e0:eZ (AF 0)=[bv false,.ls []]:=by rw[LM];rfl
 rw[e0]at g;refine Kh.fn' Ss _ rfl ((AnD ..).trans ?_);refine Ab g ?_;rfl
theorem AcR{n k j:Nat}{t:Tm}(ht:TmB n k t)(hn:n<=1000000)(vals:List Zi)(hv:∀ z∈vals,Lz j z)(hl:vals.length<=1000000)(hk:k+n+j+1+vals.length<=400000000)(y0:Bool)(y1:List (List AV)):∀(m i:Nat) (out:Zi),vals.length-i=m->i<=vals.length->Lz (k+n+j+1+i) out->zv out=zv t.k+Ig t.lf.ps (vals.map zv) i->
  ∃ z:Zi,D.ask (.lp 117 0) [.ls (vals.map eZ),.ptr 0 0,.ptr 1 0,.ptr 2 0,iv (i:Int)] [⟨eT t,true,false⟩,⟨[bv y0,.ls y1],true,false⟩,⟨eZ out,true,false⟩]
   = some (.tup [iv 0,.ptr 1 0,.ptr 2 0],[.del,.set ⟨[bv y0,.ls y1],true,false⟩,.set ⟨eZ z,true,false⟩])/\zv z=zv t.k+Ig t.lf.ps (vals.map zv) vals.length/\Lz (k+n+j+1+vals.length) z:=by
 intro m
 induction m with
 |zero=>
  intro i out hm hi ho hz;obtain rfl:i=vals.length:=by omega
  refine⟨out,?_,hz,ho⟩;obtain⟨ps,kz⟩:=t;obtain⟨o1,o2⟩:=out;refine Kh.lp' Sn _ rfl (by kernel_rfl) ((ZS ..).trans ?_);rw[Ao];exact Ah (by omega) rfl
 |succ m ih=>
  intro i out hm hi ho hz;have h1:i<vals.length:=by omega
  have gc:=AdR Kh F ht hn (by omega) (i:Int);rw[if_pos (by omega)]at gc;have hzv:=hv vals[i] (ApG h1);have hc:InB (k+n) (AU (i:Int) t.lf.ps):=(Ir _ _ ht.lb.ps).mono (by have:=ht.lb.len;omega);have gm:=F.mul (AF (AU (i:Int) t.lf.ps)) vals[i] (hc.lz.mono (by omega)) (hzv.mono (by omega));rw[Ay]at gm;have hp:InB (k+n+j) (AU (i:Int) t.lf.ps*zv vals[i]):=InB.mul hc hzv.inb;have ga:=F.add out (AF (AU (i:Int) t.lf.ps*zv vals[i])) (ho.mono (by omega)) (hp.lz.mono (by omega));rw[Ay]at ga;obtain⟨z,g,h⟩:=ih (i+1) (AF (zv out+AU (i:Int) t.lf.ps*zv vals[i])) (by omega) (by omega) (by
   have:=InB.add ho.inb (hp.mono (show k+n+j<=k+n+j+1+i by omega));exact this.lz) (by
   rw[Ay,hz,Ig,ApH,Φ (by simpa using h1),AqX,ArY];omega)
  refine⟨z,?_,h⟩;obtain⟨ps,kz⟩:=t;obtain⟨o1,o2⟩:=out;refine Kh.lp' Sn _ rfl (by kernel_rfl) ((ZS ..).trans ?_);rw[Ao];refine Ai (by omega) ?_;refine Ab gc ?_;simp only[eZ,eN,ND,DK,Aa];rw[Aw,Au (Φ h1)];simp only[eZ,eN,ND,DK,Aa];refine Ab gm ?_;simp only[eZ,eN,ND,DK,Aa];refine Ab ga ?_;simp only[eZ,eN,ND,DK,Aa];rw[A8 (by omega)];refine Ab g ?_;rfl
theorem Yv{n k j:Nat}{t:Tm}(ht:TmB n k t)(hn:n<=1000000)(vals:List Zi)(hv:∀ z∈vals,Lz j z)(hl:vals.length<=1000000)(hk:k+n+j+1+vals.length<=400000000) :
  D.ask (.fn 117) [.agg (eT t),.ls (vals.map eZ)] []=some (.agg (eZ (AF (t.lf.val (CK (vals.map zv))))),[]):=by
 obtain⟨z,g,hz,hlz⟩:=AcR Kh F ht hn vals hv hl hk false [] _ 0 t.k rfl (by omega) (ht.k.mono (by omega)) (by rw[Ig];omega);have gc:=F.clean z (hlz.mono (by omega));have ev:zv z=t.lf.val (CK (vals.map zv)):=by
  rw[hz,TT,ApO];rfl
 rw[ev]at gc;obtain⟨ps,kz⟩:=t;refine Kh.fn' Sn _ rfl ((Am7 ..).trans ?_);refine Ab g ?_;simp only[eZ,eN,ND,DK,Aa];refine Ab gc ?_;rfl
omit Kh F in
theorem X1{n k j:Nat}{l:Lf}(hl:LB n k l){vals:List Int}(hv:∀ x∈vals,InB j x):InB (k+n+j+vals.length+1) (l.val (CK vals)):=by
 rw[TT,Aso];exact InB.add (TC hl hv _) (hl.k.mono (by omega))
theorem Yr{n k j:Nat}{t:Tm}(ht:TmB n k t)(hn:n<=1000000)(e:Bool)(vals:List Zi)(hv:∀ z∈vals,Lz j z)(hl:vals.length<=1000000)(hk:k+n+j+1+vals.length<=400000000) :
  D.ask (.fn 66) [.agg [.ls (t.ps.map eP),bv t.k.neg,eN t.k.abs,bv e],.ls (vals.map eZ)] []=some (bv (Vl (t.lf.val (CK (vals.map zv))) e),[]):=by
 have g:=Yv Kh F ht hn vals hv hl hk;have hb:=X1 ht.lb (vals:=vals.map zv) (λx hx=>by
  rw[AqH]at hx;obtain⟨z,hz,rfl⟩:=hx;exact(hv z hz).inb)
 rw[ApO]at hb;generalize t.lf.val (CK (vals.map zv))=x at g hb;have gs:=F.sign (AF x) (hb.lz.mono (by omega));rw[Ay]at gs;obtain⟨ps,kz⟩:=t;refine Kh.fn' Ala _ rfl ((e66 ..).trans ?_);refine Ab g ?_;simp only[eZ,eN,ND,DK,Aa];refine Ab gs ?_;simp only[ND,DK,Aa];have h0:=Aco x;have h1:=WT x
 cases e with
 |true=>
  refine Ac ?_;rw[Kg,Jg]
  congr 3
  unfold Vl;simp only[Bool.not_true,Bool.false_and,AsR];rw[decide_eq_decide];exact h0
 |false=>
  refine A1 ?_;rw[Od,Jg]
  congr 3
  unfold Vl;simp only[Bool.not_false,ApP];rw[←Bool.decide_or,decide_eq_decide];omega
def Zx(x:Fm):ABlk:=Δ (eF x) true false
omit F in
theorem Ajd(f:Int->Int)(vals:List (List AV))(xk:Int)(xt:Tm)(xe:Bool)(ks:List Fm)(hl:ks.length<=1000000)(g:∀ y∈ks,D.ask (.fn 28) [.agg (eF y),.ls vals] []=some (bv (Df f y),[])):∀(m i:Nat),ks.length-i=m->i<=ks.length->
  D.ask (.lp 28 0) [.ls vals,.ptr 0 0,iv (i:Int)] [Zx (.mk xk xt xe ks)]=some (if GC f (ks.drop i) then .tup [iv 1] else .tup [bv true,bv false],[.del]):=by
 intro m
 induction m with
 |zero=>
  intro i hm hi;rw[Apz (by omega),GC,if_pos rfl];refine Kh.lp' SF _ rfl (by kernel_rfl) ((Af9 ..).trans ?_);rw[CW,Ao];exact Ah (by omega) rfl
 |succ m ih=>
  intro i hm hi;have h1:i<ks.length:=by omega
  have gy:=g ks[i] (ApG h1);have ih:=ih (i+1) (by omega) (by omega);rw[χ h1,GC];unfold Zx at ih ⊢;rw[eF,CW]at ih ⊢;refine Kh.lp' SF _ rfl (by kernel_rfl) ((Af9 ..).trans ?_);rw[Ao];refine Ai (by omega) ?_;rw[Aw,Au (Φ h1)];revert gy;generalize ks[i]=y;obtain⟨yk,yt,ye,ys⟩:=y;intro gy;simp only[eF,eN,ND,DK,Aa]at gy ⊢;refine Ab gy ?_;simp only[ND,DK,Aa]
  cases Df f (.mk yk yt ye ys) with
  |false=>rfl
  |true=>
   refine Ac ?_;rw[A8 (by omega),ApP];refine Ab ih ?_
   cases GC f (ks.drop (i+1))<;>rfl
omit F in
theorem Aje(f:Int->Int)(vals:List (List AV))(xk:Int)(xt:Tm)(xe:Bool)(ks:List Fm)(hl:ks.length<=1000000)(g:∀ y∈ks,D.ask (.fn 28) [.agg (eF y),.ls vals] []=some (bv (Df f y),[])):∀(m i:Nat),ks.length-i=m->i<=ks.length->
  D.ask (.lp 28 1) [.ls vals,.ptr 0 0,iv (i:Int)] [Zx (.mk xk xt xe ks)]=some (if GD f (ks.drop i) then .tup [bv true,bv true] else .tup [iv 3],[.del]):=by
 intro m
 induction m with
 |zero=>
  intro i hm hi;rw[Apz (by omega),GD,if_neg (by simp)];refine Kh.lp' SF _ rfl (by kernel_rfl) ((Aga ..).trans ?_);rw[CW,Ao];exact Ah (by omega) rfl
 |succ m ih=>
  intro i hm hi;have h1:i<ks.length:=by omega
  have gy:=g ks[i] (ApG h1);have ih:=ih (i+1) (by omega) (by omega);rw[χ h1,GD];unfold Zx at ih ⊢;rw[eF,CW]at ih ⊢;refine Kh.lp' SF _ rfl (by kernel_rfl) ((Aga ..).trans ?_);rw[Ao];refine Ai (by omega) ?_;rw[Aw,Au (Φ h1)];revert gy;generalize ks[i]=y;obtain⟨yk,yt,ye,ys⟩:=y;intro gy;simp only[eF,eN,ND,DK,Aa]at gy ⊢;refine Ab gy ?_;simp only[ND,DK,Aa]
  cases Df f (.mk yk yt ye ys) with
  |true=>rfl
  |false=>
   refine A1 ?_;rw[A8 (by omega),Bool.false_or];refine Ab ih ?_
   cases GD f (ks.drop (i+1))<;>rfl
theorem XD{n k j:Nat}(hn:n<=1000000)(vals:List Zi)(hv:∀ z∈vals,Lz j z)(hl:vals.length<=1000000)(hk:k+n+j+1+vals.length<=400000000):∀(N:Nat) (x:Fm),SizeOf.sizeOf x<N->FB n k x->
  D.ask (.fn 28) [.agg (eF x),.ls (vals.map eZ)] []=some (bv (Df (CK (vals.map zv)) x),[]):=by
 intro N
 induction N with
 |zero=>intro x h;omega
 |succ N ih=>
  intro x hN hx;obtain⟨ht,hkl,h⟩:=hx;rename_i kd t e ks;have gks:∀ y∈ks,D.ask (.fn 28) [.agg (eF y),.ls (vals.map eZ)] []=some (bv (Df (CK (vals.map zv)) y),[]):=λy hy=>ih y (by have:=Hu (k:=kd) (t:=t) (e:=e) hy;omega) (h y hy)
  have gA:=Ajd Kh (CK (vals.map zv)) (vals.map eZ) kd t e ks hkl gks _ 0 rfl (by omega);have gO:=Aje Kh (CK (vals.map zv)) (vals.map eZ) kd t e ks hkl gks _ 0 rfl (by omega);have gr:=Yr Kh F ht hn e vals hv hl hk;rw[π]at gA gO;unfold Zx at gA gO;rw[eF,CW]at gA gO;refine Kh.fn' SF _ rfl ((e28 ..).trans ?_);rw[Df,CW]
  by_cases h0:kd=0
  .rw[if_pos h0]
   exact KW h0
  rw[if_neg h0];refine Am h0 ?_
  by_cases h2:kd=2
  .rw[if_pos h2]
   refine Av h2 ?_;refine Ab gr ?_;simp only[ND,DK,Aa];exact QJ _
  rw[if_neg h2];refine Am h2 ?_
  by_cases h3:kd=3
  .rw[if_pos h3]
   refine Av h3 ?_;rw[Ao]
   cases ks with
   |nil=>rfl
   |cons y r=>
    have gy:=gks y (List.mem_cons_self ..);refine Ai (by rw[Apw];omega) ?_;rw[Au (x:=y) (show (y::r)[0]? = some y from rfl),NM];obtain⟨yk,yt,ye,ys⟩:=y;simp only[eF,eN,ND,DK,Aa]at gy ⊢;refine Ab gy ?_;simp only[ND,DK,Aa];exact QI _
  rw[if_neg h3];refine Am h3 ?_
  by_cases h4:kd=4
  .rw[if_pos h4]
   refine Av h4 ?_;refine Ab gA ?_
   cases GC (CK (vals.map zv)) ks<;>rfl
  rw[if_neg h4];refine Am h4 ?_
  by_cases h5:kd=5
  .rw[if_pos h5]
   refine Av h5 ?_;refine Ab gO ?_
   cases GD (CK (vals.map zv)) ks<;>rfl
  rw[if_neg h5];exact QH h5
end
def Vr(neg:Bool)(u:Int):Int:=if neg then -u else u
def IW(vars:List ByteArray)(f:Int->Int)(m:Mo):Int:=if m.var=Ax [] then Hd m else match vars.findIdx? (m.var = ·) with
 |none=>0
 |some v=>Hd m*f v
theorem Mr(vars:List ByteArray)(f:Int->Int)(m:Mo)(r:List Mo):C7 vars f (m::r)=IW vars f m+C7 vars f r:=rfl
theorem WZ{vars:List ByteArray}{f:Int->Int}{mn:Bool}{mu mv:ByteArray}(h:mv=Ax []):IW vars f ⟨mn,mu,mv⟩=Vr mn (J7 ⟨mn,mu,mv⟩):=by
 unfold IW Vr;rw[if_pos h];rfl
theorem Qq{vars:List ByteArray}{f:Int->Int}{mn:Bool}{mu mv:ByteArray}(h:mv≠Ax [])(e:vars.findIdx? (mv = ·)=none):IW vars f ⟨mn,mu,mv⟩=0:=by
 unfold IW;rw[if_neg h];simp only[e]
theorem IL{vars:List ByteArray}{f:Int->Int}{mn:Bool}{mu mv:ByteArray}{v:Nat}(h:mv≠Ax [])(e:vars.findIdx? (mv = ·)=some v):IW vars f ⟨mn,mu,mv⟩=Vr mn (J7 ⟨mn,mu,mv⟩*f v):=by
 unfold IW;rw[if_neg h];simp only[e]
 cases mn with
 |false=>rfl
 |true=>exact AsY ..
section
variable {D:Orc} (Kj:Knows Al Qf D) (F:RF D) (Kra:Knows Al Ml D)
include Kj F
include Kra in
theorem Acf(vars:List ByteArray)(hvl:vars.length<4611686018427387904)(vals:List Zi)(hvz:∀ z∈vals,Lz 23 z)(ms:List Mo)(hl:ms.length<=64)(y0:Bool)(y1:List (List AV)):∀(k i:Nat) (acc:Int),ms.length-i=k->i<=ms.length->InB (4100+i) acc->
  D.ask (.lp 68 0) [.ls (ms.map IQ),.ls (vars.map eS),.ls (vals.map eZ),.ptr 0 0,.ptr 1 0,iv (i:Int)] [⟨[bv y0,.ls y1],true,false⟩,⟨eZ (AF acc),true,false⟩]
   = some (.tup [iv 0,.ptr 0 0,.ptr 1 0],[.set ⟨[bv y0,.ls y1],true,false⟩,.set ⟨eZ (AF (acc+C7 vars (CK (vals.map zv)) (ms.drop i))),true,false⟩]):=by
 have e0:eZ (AF 0)=[bv false,.ls []]:=by rw[LM];rfl
 intro k
 induction k with
 |zero=>
  intro i acc hm hi ha;rw[Apz (by omega),C7,Int.add_zero];refine Kj.lp' AaU _ rfl (by kernel_rfl) ((Agf ..).trans ?_);rw[Ao];exact Ah (by omega) rfl
 |succ k ih=>
  intro i acc hm hi ha;have h1:i<ms.length:=by omega
  have hn1:∀ kk,Bh (ms.map IQ) i kk=kk (IQ ms[i]):=λkk=>Au (Φ h1) kk
  rw[χ h1,Mr];refine Kj.lp' AaU _ rfl (by kernel_rfl) ((Agf ..).trans ?_);rw[Ao];refine Ai (by omega) ?_;refine Ab (F.of_ 1 (by omega) (by omega)) ?_;have hW:=N8 ms[i];revert hn1 hW;generalize ms[i]=m;obtain⟨mn,mu,mv⟩:=m;intro hn1 hW;simp only[IQ]at hn1;simp only[eZ,eN,Aw,hn1,ND,DK,Aa]
  by_cases hn:mu=Ax []
  .have hnm:J7 ⟨mn,mu,mv⟩=1:=by unfold J7;rw[if_pos hn]
   rw[hnm]at hW;refine Da hn ?_
   by_cases hv:mv=Ax []
   .refine Da hv ?_
    have hU:InB 4100 ((1)):=(hW.mono (by omega));rw[show IW vars (CK (vals.map zv)) ⟨mn,mu,mv⟩=Vr mn ((1)) from ((WZ hv).trans (by rw[hnm]))]
    cases mn with
    |true=>
     have gn:=F.neg (AF ((1))) (hU.lz.mono (by omega));rw[Ay]at gn;have ga:=F.add (AF acc) (AF (-((1)))) (ha.lz.mono (by omega)) (hU.neg.lz.mono (by omega));rw[Ay,Ay]at ga;have ih:=ih (i+1) (acc + -((1))) (by omega) (by omega) (by
      show InB (4100+i+1) _
      exact InB.add ha (hU.neg.mono (by omega)))
     refine Ac ?_;simp only[eZ,eN,ND,DK,Aa]at gn ga ih ⊢;refine Ab gn ?_;simp only[ND,DK,Aa];refine Ab ga ?_;simp only[ND,DK,Aa];rw[A8 (by omega)];refine Ab ih ?_;rw[Aqn];rfl
    |false=>
     have ga:=F.add (AF acc) (AF ((1))) (ha.lz.mono (by omega)) (hU.lz.mono (by omega));rw[Ay,Ay]at ga;have ih:=ih (i+1) (acc+((1))) (by omega) (by omega) (by
      show InB (4100+i+1) _
      exact InB.add ha (hU.mono (by omega)))
     refine A1 ?_;simp only[eZ,eN,ND,DK,Aa]at ga ih ⊢;refine Ab ga ?_;simp only[ND,DK,Aa];rw[A8 (by omega)];refine Ab ih ?_;rw[Aqn];rfl
   .refine(Ec hv).trans ?_
    refine Ab (P1 Kra vars hvl mv) ?_;simp only[ND,DK,Aa]
    cases ev:vars.findIdx? (mv = ·) with
    |none=>
     refine Ai (show (-1:Int)<0 by omega) ?_;have ga:=F.add (AF acc) (AF 0) (ha.lz.mono (by omega)) ((InB.zero 1).lz.mono (by omega));have gn:=F.neg (AF 0) ((InB.zero 1).lz.mono (by omega));rw[Ay,e0]at gn;have ga2:=ga;rw[Ay,Ay,e0]at ga2;rw[Ay,Ay]at ga;have ih:=ih (i+1) (acc+0) (by omega) (by omega) (by
      show InB (4100+i+1) _
      exact InB.add ha (InB.zero _))
     rw[show IW vars (CK (vals.map zv)) ⟨mn,mu,mv⟩=0 from (Qq hv ev)]
     cases mn with
     |true=>
      refine Ac ?_;rw[show (-0:Int)=0 from rfl]at gn;simp only[eZ,eN,ND,DK,Aa]at gn ga ih ⊢;refine Ab gn ?_;simp only[ND,DK,Aa];refine Ab ga ?_;simp only[ND,DK,Aa];rw[A8 (by omega)];refine Ab ih ?_;rw[Aqn];rfl
     |false=>
      refine A1 ?_;simp only[eZ,eN,ND,DK,Aa]at ga2 ih ⊢;refine Ab ga2 ?_;simp only[ND,DK,Aa];rw[A8 (by omega)];refine Ab ih ?_;rw[Aqn];rfl
    |some v=>
     refine Ah (show ¬ ((v:Nat):Int)<0 by omega) ?_;simp only[C1,Ao]
     by_cases hlen:vals.length<=v
     .refine Cn (by omega) ?_
      have ga:=F.add (AF acc) (AF 0) (ha.lz.mono (by omega)) ((InB.zero 1).lz.mono (by omega));have gn:=F.neg (AF 0) ((InB.zero 1).lz.mono (by omega));rw[Ay,e0]at gn;have ga2:=ga;rw[Ay,Ay,e0]at ga2;rw[Ay,Ay]at ga;have ih:=ih (i+1) (acc+0) (by omega) (by omega) (by
       show InB (4100+i+1) _
       exact InB.add ha (InB.zero _))
      rw[show IW vars (CK (vals.map zv)) ⟨mn,mu,mv⟩=0 from (by rw[IL hv ev,OJ _ (by simp;omega),Ara];cases mn<;>rfl)]
      cases mn with
      |true=>
       refine Ac ?_;rw[show (-0:Int)=0 from rfl]at gn;simp only[eZ,eN,ND,DK,Aa]at gn ga ih ⊢;refine Ab gn ?_;simp only[ND,DK,Aa];refine Ab ga ?_;simp only[ND,DK,Aa];rw[A8 (by omega)];refine Ab ih ?_;rw[Aqn];rfl
      |false=>
       refine A1 ?_;simp only[eZ,eN,ND,DK,Aa]at ga2 ih ⊢;refine Ab ga2 ?_;simp only[ND,DK,Aa];rw[A8 (by omega)];refine Ab ih ?_;rw[Aqn];rfl
     .refine Cv (by omega) ?_
      have hlt:v<vals.length:=by omega
      have hzv:=hvz vals[v] (ApG hlt);have gm:=F.mul (AF (1)) vals[v] (hW.lz.mono (by omega)) (hzv.mono (by omega));rw[Ay]at gm;have ef:CK (vals.map zv) (v:Int)=zv vals[v]:=by
       rw[KN,ApH,Φ (by simpa using hlt),AqX,ArY]
      rw[Aw,Au (Φ hlt)];simp only[eZ,eN,ND,DK,Aa]at gm ⊢;refine Ab gm ?_;simp only[ND,DK,Aa];have hU:InB 4100 (((1)*zv vals[v])):=((InB.mul hW hzv.inb).mono (by omega));rw[show IW vars (CK (vals.map zv)) ⟨mn,mu,mv⟩=Vr mn (((1)*zv vals[v])) from ((IL hv ev).trans (by rw[hnm,ef]))]
      cases mn with
      |true=>
       have gn:=F.neg (AF (((1)*zv vals[v]))) (hU.lz.mono (by omega));rw[Ay]at gn;have ga:=F.add (AF acc) (AF (-(((1)*zv vals[v])))) (ha.lz.mono (by omega)) (hU.neg.lz.mono (by omega));rw[Ay,Ay]at ga;have ih:=ih (i+1) (acc + -(((1)*zv vals[v]))) (by omega) (by omega) (by
        show InB (4100+i+1) _
        exact InB.add ha (hU.neg.mono (by omega)))
       refine Ac ?_;simp only[eZ,eN,ND,DK,Aa]at gn ga ih ⊢;refine Ab gn ?_;simp only[ND,DK,Aa];refine Ab ga ?_;simp only[ND,DK,Aa];rw[A8 (by omega)];refine Ab ih ?_;rw[Aqn];rfl
      |false=>
       have ga:=F.add (AF acc) (AF (((1)*zv vals[v]))) (ha.lz.mono (by omega)) (hU.lz.mono (by omega));rw[Ay,Ay]at ga;have ih:=ih (i+1) (acc+(((1)*zv vals[v]))) (by omega) (by omega) (by
        show InB (4100+i+1) _
        exact InB.add ha (hU.mono (by omega)))
       refine A1 ?_;simp only[eZ,eN,ND,DK,Aa]at ga ih ⊢;refine Ab ga ?_;simp only[ND,DK,Aa];rw[A8 (by omega)];refine Ab ih ?_;rw[Aqn];rfl
  .have hnm:J7 ⟨mn,mu,mv⟩=zv (Ga mu).1:=by unfold J7;rw[if_neg hn]
   have gp:=F.parse mu;rw[hnm]at hW;rw[Ta mu]at gp;generalize zv (Ga mu).1=u at hnm gp hW;refine(Ec hn).trans ?_;refine Ab gp ?_;simp only[eZ,eN,ND,DK,Aa]
   by_cases hv:mv=Ax []
   .refine Da hv ?_
    have hU:InB 4100 ((u)):=(hW.mono (by omega));rw[show IW vars (CK (vals.map zv)) ⟨mn,mu,mv⟩=Vr mn ((u)) from ((WZ hv).trans (by rw[hnm]))]
    cases mn with
    |true=>
     have gn:=F.neg (AF ((u))) (hU.lz.mono (by omega));rw[Ay]at gn;have ga:=F.add (AF acc) (AF (-((u)))) (ha.lz.mono (by omega)) (hU.neg.lz.mono (by omega));rw[Ay,Ay]at ga;have ih:=ih (i+1) (acc + -((u))) (by omega) (by omega) (by
      show InB (4100+i+1) _
      exact InB.add ha (hU.neg.mono (by omega)))
     refine Ac ?_;simp only[eZ,eN,ND,DK,Aa]at gn ga ih ⊢;refine Ab gn ?_;simp only[ND,DK,Aa];refine Ab ga ?_;simp only[ND,DK,Aa];rw[A8 (by omega)];refine Ab ih ?_;rw[Aqn];rfl
    |false=>
     have ga:=F.add (AF acc) (AF ((u))) (ha.lz.mono (by omega)) (hU.lz.mono (by omega));rw[Ay,Ay]at ga;have ih:=ih (i+1) (acc+((u))) (by omega) (by omega) (by
      show InB (4100+i+1) _
      exact InB.add ha (hU.mono (by omega)))
     refine A1 ?_;simp only[eZ,eN,ND,DK,Aa]at ga ih ⊢;refine Ab ga ?_;simp only[ND,DK,Aa];rw[A8 (by omega)];refine Ab ih ?_;rw[Aqn];rfl
   .refine(Ec hv).trans ?_
    refine Ab (P1 Kra vars hvl mv) ?_;simp only[ND,DK,Aa]
    cases ev:vars.findIdx? (mv = ·) with
    |none=>
     refine Ai (show (-1:Int)<0 by omega) ?_;have ga:=F.add (AF acc) (AF 0) (ha.lz.mono (by omega)) ((InB.zero 1).lz.mono (by omega));have gn:=F.neg (AF 0) ((InB.zero 1).lz.mono (by omega));rw[Ay,e0]at gn;have ga2:=ga;rw[Ay,Ay,e0]at ga2;rw[Ay,Ay]at ga;have ih:=ih (i+1) (acc+0) (by omega) (by omega) (by
      show InB (4100+i+1) _
      exact InB.add ha (InB.zero _))
     rw[show IW vars (CK (vals.map zv)) ⟨mn,mu,mv⟩=0 from (Qq hv ev)]
     cases mn with
     |true=>
      refine Ac ?_;rw[show (-0:Int)=0 from rfl]at gn;simp only[eZ,eN,ND,DK,Aa]at gn ga ih ⊢;refine Ab gn ?_;simp only[ND,DK,Aa];refine Ab ga ?_;simp only[ND,DK,Aa];rw[A8 (by omega)];refine Ab ih ?_;rw[Aqn];rfl
     |false=>
      refine A1 ?_;simp only[eZ,eN,ND,DK,Aa]at ga2 ih ⊢;refine Ab ga2 ?_;simp only[ND,DK,Aa];rw[A8 (by omega)];refine Ab ih ?_;rw[Aqn];rfl
    |some v=>
     refine Ah (show ¬ ((v:Nat):Int)<0 by omega) ?_;simp only[C1,Ao]
     by_cases hlen:vals.length<=v
     .refine Cn (by omega) ?_
      have ga:=F.add (AF acc) (AF 0) (ha.lz.mono (by omega)) ((InB.zero 1).lz.mono (by omega));have gn:=F.neg (AF 0) ((InB.zero 1).lz.mono (by omega));rw[Ay,e0]at gn;have ga2:=ga;rw[Ay,Ay,e0]at ga2;rw[Ay,Ay]at ga;have ih:=ih (i+1) (acc+0) (by omega) (by omega) (by
       show InB (4100+i+1) _
       exact InB.add ha (InB.zero _))
      rw[show IW vars (CK (vals.map zv)) ⟨mn,mu,mv⟩=0 from (by rw[IL hv ev,OJ _ (by simp;omega),Ara];cases mn<;>rfl)]
      cases mn with
      |true=>
       refine Ac ?_;rw[show (-0:Int)=0 from rfl]at gn;simp only[eZ,eN,ND,DK,Aa]at gn ga ih ⊢;refine Ab gn ?_;simp only[ND,DK,Aa];refine Ab ga ?_;simp only[ND,DK,Aa];rw[A8 (by omega)];refine Ab ih ?_;rw[Aqn];rfl
      |false=>
       refine A1 ?_;simp only[eZ,eN,ND,DK,Aa]at ga2 ih ⊢;refine Ab ga2 ?_;simp only[ND,DK,Aa];rw[A8 (by omega)];refine Ab ih ?_;rw[Aqn];rfl
     .refine Cv (by omega) ?_
      have hlt:v<vals.length:=by omega
      have hzv:=hvz vals[v] (ApG hlt);have gm:=F.mul (AF (u)) vals[v] (hW.lz.mono (by omega)) (hzv.mono (by omega));rw[Ay]at gm;have ef:CK (vals.map zv) (v:Int)=zv vals[v]:=by
       rw[KN,ApH,Φ (by simpa using hlt),AqX,ArY]
      rw[Aw,Au (Φ hlt)];simp only[eZ,eN,ND,DK,Aa]at gm ⊢;refine Ab gm ?_;simp only[ND,DK,Aa];have hU:InB 4100 (((u)*zv vals[v])):=((InB.mul hW hzv.inb).mono (by omega));rw[show IW vars (CK (vals.map zv)) ⟨mn,mu,mv⟩=Vr mn (((u)*zv vals[v])) from ((IL hv ev).trans (by rw[hnm,ef]))]
      cases mn with
      |true=>
       have gn:=F.neg (AF (((u)*zv vals[v]))) (hU.lz.mono (by omega));rw[Ay]at gn;have ga:=F.add (AF acc) (AF (-(((u)*zv vals[v])))) (ha.lz.mono (by omega)) (hU.neg.lz.mono (by omega));rw[Ay,Ay]at ga;have ih:=ih (i+1) (acc + -(((u)*zv vals[v]))) (by omega) (by omega) (by
        show InB (4100+i+1) _
        exact InB.add ha (hU.neg.mono (by omega)))
       refine Ac ?_;simp only[eZ,eN,ND,DK,Aa]at gn ga ih ⊢;refine Ab gn ?_;simp only[ND,DK,Aa];refine Ab ga ?_;simp only[ND,DK,Aa];rw[A8 (by omega)];refine Ab ih ?_;rw[Aqn];rfl
      |false=>
       have ga:=F.add (AF acc) (AF (((u)*zv vals[v]))) (ha.lz.mono (by omega)) (hU.lz.mono (by omega));rw[Ay,Ay]at ga;have ih:=ih (i+1) (acc+(((u)*zv vals[v]))) (by omega) (by omega) (by
        show InB (4100+i+1) _
        exact InB.add ha (hU.mono (by omega)))
       refine A1 ?_;simp only[eZ,eN,ND,DK,Aa]at ga ih ⊢;refine Ab ga ?_;simp only[ND,DK,Aa];rw[A8 (by omega)];refine Ab ih ?_;rw[Aqn];rfl
include Kra in
theorem Tp(vars:List ByteArray)(hvl:vars.length<4611686018427387904)(vals:List Zi)(hvz:∀ z∈vals,Lz 23 z)(ms:List Mo)(hl:ms.length<=64):D.ask (.fn 68) [.ls (ms.map IQ),.ls (vars.map eS),.ls (vals.map eZ)] []=some (.agg (eZ (AF (C7 vars (CK (vals.map zv)) ms))),[]):=by
 have e0:eZ (AF 0)=[bv false,.ls []]:=by rw[LM];rfl
 have g:=Acf Kj F Kra vars hvl vals hvz ms hl false [] _ 0 0 rfl (by omega) (InB.zero _);rw[π,Asr,e0]at g;refine Kj.fn' AaU _ rfl ((e68 ..).trans ?_);refine Ab g ?_;rfl
omit Kj F in
theorem JJ(vars:List ByteArray)(vals:List Zi)(hvz:∀ z∈vals,Lz 23 z):∀ ms:List Mo,InB (4100+ms.length) (C7 vars (CK (vals.map zv)) ms)
 |[]=>InB.zero _
 |m::r=>by
  have h:=JJ vars vals hvz r;have hv:∀ v:Nat,InB 23 (CK (vals.map zv) (v:Int)):=λv=>by
   rw[KN];exact Sd (λx hx=>by
    rw[AqH]at hx;obtain⟨z,hz,rfl⟩:=hx;exact(hvz z hz).inb) v
  rw[Mr,Aso,Apw]
  show InB (4100+r.length+1) _
  refine InB.add h ?_;unfold IW;split
  .exact(Ic m).mono (by omega)
  .split
   .exact InB.zero _
   .exact(InB.mul (Ic m) (hv _)).mono (by omega)
include Kra in
theorem YM(vars:List ByteArray)(hvl:vars.length<4611686018427387904)(vals:List Zi)(hvz:∀ z∈vals,Lz 23 z):∀(n:Nat) (t:Tr) (d:Nat),SizeOf.sizeOf t<n->Cc t d=true->D.ask (.fn 29) [.agg (B7 t),.ls (vars.map eS),.ls (vals.map eZ)] []=some (bv (DB vars (CK (vals.map zv)) t),[]):=by
 intro n
 induction n with
 |zero=>intro t d h;omega
 |succ n ih=>
  intro t d hn h
  cases Kz h with
  |tt=>
   rw[DB,if_pos rfl];exact Kj.fn' XO _ rfl ((e29 ..).trans (KW rfl))
  |ff=>
   rw[DB,if_neg (by decide),if_neg (by decide),if_neg (by decide),if_neg (by decide),if_neg (by decide)];refine Kj.fn' XO _ rfl ((e29 ..).trans ?_);refine Am (by decide) ?_;refine Am (by decide) ?_;refine Am (by decide) ?_;refine Am (by decide) ?_;exact QH (by decide)
  |@cmp _ l r op hl hr h1 h2=>
   have gl:=Tp Kj F Kra vars hvl vals hvz l (EC hl).2.1;have gr:=Tp Kj F Kra vars hvl vals hvz r (EC hr).2.1;have bl:=JJ vars vals hvz l;have br_:=JJ vars vals hvz r;have ll:=(EC hl).2.1;have lr:=(EC hr).2.1;rw[DB,if_neg (by decide),if_pos rfl];generalize C7 vars (CK (vals.map zv)) l=a at gl bl;generalize C7 vars (CK (vals.map zv)) r=b at gr br_;have gc:=F.cmp (AF a) (AF b) (bl.lz.mono (by omega)) (br_.lz.mono (by omega));rw[Ay,Ay]at gc;have s0:=Aco (a-b);have s1:=WT (a-b);have s2:=Afv (a-b);generalize Cw (a-b)=s at gc s0 s1 s2;refine Kj.fn' XO _ rfl ((e29 ..).trans ?_);refine Am (by decide) ?_;refine Av rfl ?_;simp only[eZ,eN,ND,DK,Aa]at gl gr gc ⊢;refine Ab gl ?_;simp only[ND,DK,Aa];refine Ab gr ?_;simp only[ND,DK,Aa];refine Ab gc ?_;simp only[ND,DK,Aa];unfold VP
   by_cases o0:op=0
   .rw[if_pos o0]
    refine Av o0 ?_;rw[Kg,Jg]
    congr 3
    rw[decide_eq_decide];omega
   rw[if_neg o0];refine Am o0 ?_
   by_cases o1:op=1
   .rw[if_pos o1]
    refine Av o1 ?_;rw[Kg,QI,←decide_not]
    congr 3
    rw[decide_eq_decide];omega
   rw[if_neg o1];refine Am o1 ?_
   by_cases o2:op=2
   .rw[if_pos o2]
    refine Av o2 ?_;rw[O5,Jg]
    congr 3
    rw[decide_eq_decide];omega
   rw[if_neg o2];refine Am o2 ?_
   by_cases o3:op=3
   .rw[if_pos o3]
    refine Av o3 ?_;rw[Od,Jg]
    congr 3
    rw[decide_eq_decide];omega
   rw[if_neg o3];refine Am o3 ?_
   by_cases o4:op=4
   .rw[if_pos o4]
    refine Av o4 ?_;rw[O5,Jg]
    congr 3
    rw[decide_eq_decide];omega
   rw[if_neg o4,if_pos (by omega)];refine Am o4 ?_;rw[Od,Jg]
   congr 3
   rw[decide_eq_decide];omega
  |@no _ x hd hx=>
   have gx:=ih x _ (by simp only[Tr.mk.sizeOf_spec,List.cons.sizeOf_spec]at hn;omega) hx;rw[DB,if_neg (by decide),if_neg (by decide),if_pos rfl,MT];refine Kj.fn' XO _ rfl ((e29 ..).trans ?_);refine Am (by decide) ?_;refine Am (by decide) ?_;refine Av rfl ?_;rw[BQ,Au (x:=x) (show [x][0]? = some x from rfl)];obtain⟨k,l,r,o,p,q,ks⟩:=x;simp only[B7,ND,DK,Aa]at gx ⊢;refine Ab gx ?_;simp only[ND,DK,Aa];exact QI _
  |@bin _ k x y hk hd hx gd hy=>
   have gx:=ih x _ (by simp only[Tr.mk.sizeOf_spec,List.cons.sizeOf_spec]at hn;omega) hx;have gy:=ih y _ (by simp only[Tr.mk.sizeOf_spec,List.cons.sizeOf_spec]at hn;omega) hy;rw[DB,if_neg (by omega),if_neg (by omega),if_neg (by omega)];refine Kj.fn' XO _ rfl ((e29 ..).trans ?_);refine Am (by omega) ?_;refine Am (by omega) ?_;refine Am (by omega) ?_;rw[BQ,Au (x:=x) (show [x,y][0]? = some x from rfl),Au (x:=x) (show [x,y][0]? = some x from rfl)];have e1:∀ kk,Bh ([x,y].map B7) 1 kk=kk (B7 y):=λkk=>Au (x:=y) (show [x,y][1]? = some y from rfl) kk
   simp only[e1];clear e1;generalize hbx:DB vars (CK (vals.map zv)) x=bx at gx;generalize hby:DB vars (CK (vals.map zv)) y=by_ at gy;rcases hk with rfl|rfl
   .rw[if_pos rfl,GF,GF,GF,hbx,hby,AsP]
    clear hbx hby;refine Av rfl ?_;obtain⟨k,l,r,o,p,q,ks⟩:=x;obtain⟨k2,l2,r2,o2,p2,q2,ks2⟩:=y;simp only[B7,ND,DK,Aa]at gx gy ⊢;refine Ab gx ?_;simp only[ND,DK,Aa]
    cases bx with
    |false=>rfl
    |true=>
     refine Ac ?_;refine Ab gy ?_;simp only[ND,DK,Aa];exact QJ _
   .rw[if_neg (by decide),if_pos rfl,GG,GG,GG,hbx,hby,AsR]
    clear hbx hby;refine Am (by decide) ?_;refine Av rfl ?_;obtain⟨k,l,r,o,p,q,ks⟩:=x;obtain⟨k2,l2,r2,o2,p2,q2,ks2⟩:=y;simp only[B7,ND,DK,Aa]at gx gy ⊢;refine Ab gx ?_;simp only[ND,DK,Aa]
    cases bx with
    |true=>rfl
    |false=>
     refine A1 ?_;refine Ab gy ?_;simp only[ND,DK,Aa];exact QJ _
end
section
variable {D:Orc} (Kj:Knows Al Qf D) (F:RF D) (Kra:Knows Al Ml D) (Kh:Knows Al Qe D) (Kl:Knows Al LG D)
include Kl in
theorem Afs(qs:List Pp)(va:List (List AV))(k:Int)(l r:List (List AV))(op:Int)(p q:ByteArray)(k' n:Int)(ks:List Tr)(fs:List Rf)(hl:ks.length=fs.length)(hk:ks.length<=1000000)(g:∀(i:Nat) (h1:i<ks.length) (h2:i<fs.length),D.ask (.fn 43) [.agg (B7 ks[i]),.agg (eG fs[i]),.ls (qs.map IR),.ls va] []=some (bv true,[])):∀(m i:Nat),ks.length-i=m->i<=ks.length->
  D.ask (.lp 43 0) [.ls (qs.map IR),.ls va,.ptr 0 0,.ptr 1 0,iv (ks.length:Int),iv (i:Int)] [Δ [iv k,.ls l,.ls r,iv op,sv p,sv q,.ls (ks.map B7)] true false,Δ [iv k',iv n,.ls (fs.map eG)] true false]=some (.tup [iv 0],[.del,.del]):=by
 intro m
 induction m with
 |zero=>
  intro i hm hi;refine Kl.lp' UQ _ rfl (by kernel_rfl) ((Agb ..).trans ?_);exact Ah (by omega) rfl
 |succ m ih=>
  intro i hm hi;have h1:i<ks.length:=by omega
  have h2:i<fs.length:=by omega
  have ih:=ih (i+1) (by omega) (by omega);have gx:=g i h1 h2;refine Kl.lp' UQ _ rfl (by kernel_rfl) ((Agb ..).trans ?_);refine Ai (by omega) ?_;rw[Aw,Au (Φ h1)];revert gx;generalize ks[i]=x;intro gx;obtain⟨xk,xl,xr,xo,xp,xq,xs⟩:=x;simp only[B7,ND,DK,Aa]at gx ⊢;rw[Aw,Au (Φ h2)];revert gx;generalize fs[i]=f;intro gx;obtain⟨fk,fn,fk2⟩:=f;simp only[eG,ND,DK,Aa]at gx ⊢;refine Ab gx ?_;simp only[ND,DK,Aa];refine(?_:AE _ _ _ _ _=_);rw[A8 (by omega)];refine Ab ih ?_;rfl
include Kj F Kra Kh Kl
theorem Aft{y:Sy}(hv:y.vars.length<4611686018427387904)(gs:D.ask (.fn 42) [] []=some (.agg (Jm y),[]))(qs:List Pp)(hqs:qs.length<=1000000)(vals:List Zi)(hz4:∀ z∈vals,Lz 4 z)(hvl:vals.length<=10):∀(N:Nat) (t:Tr) (d:Nat) (f:Rf),SizeOf.sizeOf t<N->B2 t d=true->Rt y qs t f->D.ask (.fn 43) [.agg (B7 t),.agg (eG f),.ls (qs.map IR),.ls (vals.map eZ)] []=some (bv true,[]):=by
 have node:∀(k:Int) (ks:List Tr) (f:Rf),ks.length<=2->¬(k=2\/k=6)->Rt y qs (.mk k [] [] 0 (Ax []) (Ax []) ks) f->(∀ x∈ks,∀ f:Rf,Rt y qs x f->D.ask (.fn 43) [.agg (B7 x),.agg (eG f),.ls (qs.map IR),.ls (vals.map eZ)] []=some (bv true,[]))->D.ask (.fn 43) [.agg (B7 (.mk k [] [] 0 (Ax []) (Ax []) ks)),.agg (eG f),.ls (qs.map IR),.ls (vals.map eZ)] []=some (bv true,[]):=by
  intro k ks f hk hn hs g;obtain⟨k',n,fs⟩:=f;rw[Kw,if_neg hn]at hs;obtain⟨rfl,rfl,hs⟩:=hs;obtain⟨hl,ha⟩:=Ts y qs hs;have gl:=Afs Kl qs (vals.map eZ) k' [] [] 0 (Ax []) (Ax []) k' 0 ks fs hl (by omega) (λi h1 h2=>g _ (ApG h1) _ (ha i h1 h2)) _ 0 rfl (by omega);rw[B7,eG,BQ,MQ];refine Kl.fn' UQ _ rfl ((e43 ..).trans ?_);refine Am (λh=>hn (.inr h)) ?_;refine Am (λh=>hn (.inl h)) ?_;refine Av rfl ?_;rw[Ao,Ao];refine Av (by omega) ?_;refine Av rfl ?_;refine Ab gl ?_;rfl
 intro N
 induction N with
 |zero=>intro t d f h;omega
 |succ N ih=>
  intro t d f hN hr hs
  cases X8 hr with
  |tt=>exact node 0 [] f (by simp) (by decide) hs (by simp)
  |ff=>exact node 1 [] f (by simp) (by decide) hs (by simp)
  |@one _ k x hk hd2 hx=>
   have hc:=Js k;refine node k [x] f (by simp) (by omega) hs λz hz f hf=>?_
   rcases List.mem_singleton.1 hz with rfl
   exact ih z _ f (by simp only[Tr.mk.sizeOf_spec,List.cons.sizeOf_spec]at hN;omega) hx hf
  |@two _ k x z hk hd2 hx gd hz=>
   have hc:=Js k;refine node k [x,z] f (by simp) (by omega) hs λu hu f hf=>?_
   simp only[List.mem_cons,List.not_mem_nil,or_false]at hu;rcases hu with rfl|rfl
   .exact ih u _ f (by simp only[Tr.mk.sizeOf_spec,List.cons.sizeOf_spec]at hN;omega) hx hf
   .exact ih u _ f (by simp only[Tr.mk.sizeOf_spec,List.cons.sizeOf_spec]at hN;omega) hz hf
  |@cmp _ l r op hl hs2 h1 h2=>
   obtain⟨k',n,fs⟩:=f;rw[Kw,if_pos (.inl rfl)]at hs;obtain⟨rfl,rfl,ho,i,rfl,hq⟩:=hs;rw[Cz,if_neg (by decide)]at ho hq;have hb:Cc (.mk 2 l r op (Ax []) (Ax []) []) 0=true:=by
    rw[Cc,if_pos rfl,Nm,hl,hs2,decide_eq_true h1,decide_eq_true h2];simp
   have hf:Fv y.vars (.mk 2 l r op (Ax []) (Ax []) [])=Cl y.vars (.mk 2 l r op (Ax []) (Ax []) [])/\(Cl y.vars (.mk 2 l r op (Ax []) (Ax []) [])).2=true:=by
    unfold Fv at ho ⊢;split
    .rename_i h
     rw[hb,ApP]at h;exact⟨Prod.ext rfl h.symm,h⟩
    .rename_i h
     rw[if_neg h]at ho
     cases ho
   rw[hf.1]at hq;have g1:=XD Kh F (n:=128) (k:=30000) (by omega) vals hz4 (by omega) (by omega) _ (Cl y.vars (.mk 2 l r op (Ax []) (Ax []) [])).1 (Aqe _) (K7 y.vars _ _ 0 (Aqe _) hb).2;rw[NE y.vars (TQ _) _ hf.2]at g1;have g2:=YM Kj F Kra y.vars hv vals (λz hz=>(hz4 z hz).mono (by omega)) _ _ 0 (Aqe _) hb;obtain⟨hi,e⟩:=ApJ.1 hq;rw[B7,eG]at *;refine Kl.fn' UQ _ rfl ((e43 ..).trans ?_);refine Am (by decide) ?_;refine Av rfl ?_;refine Av rfl ?_;refine Ah (by omega) ?_;rw[Ao];refine Cv (by omega) ?_;refine Av rfl ?_;rw[Aw,Au hq];revert g1;generalize (Cl y.vars (.mk 2 l r op (Ax []) (Ax []) [])).1=x;intro g1;obtain⟨xk,xt,xe,xs⟩:=x;simp only[CF,eF,eN,ND,DK,Aa]at g1 ⊢;refine Am (by decide) ?_;refine Ac ?_;refine Ab g1 ?_;simp only[ND,DK,Aa];generalize DB y.vars (CK (vals.map zv)) (.mk 2 l r op (Ax []) (Ax []) [])=b at g2
   cases b with
   |true=>
    refine Ac ?_;refine Ab gs ?_;simp only[Jm,ND,DK,Aa];refine Ab g2 ?_;rfl
   |false=>
    refine A1 ?_;refine Ab gs ?_;simp only[Jm,ND,DK,Aa];refine Ab g2 ?_;rfl
  |@«at» _ p q hnp hnq=>
   obtain⟨k',n,fs⟩:=f;rw[Kw,if_pos (.inr rfl)]at hs;obtain⟨rfl,rfl,ho,i,rfl,hq⟩:=hs;rw[Cz,if_pos rfl]at ho hq;obtain⟨hi,_⟩:=ApJ.1 hq;unfold E2 at ho hq
   cases e:(y.ps.map (·.name)).findIdx? (p = ·) with
   |none=>rw[e]at ho;cases ho
   |some j=>
    rw[e]at ho hq;obtain⟨hj,e2,_⟩:=Ap3.1 e;rw[ApO]at hj;simp only[Φ hj,Option.map_some,AqX]at ho hq
    cases e3:(y.ps[j].locs).findIdx? (q = ·) with
    |none=>rw[e3]at ho;cases ho
    |some c=>
     rw[e3]at hq;obtain⟨hc,e4,_⟩:=Ap3.1 e3;have e2:p=y.ps[j].name:=by simpa using e2
     have e4:q=y.ps[j].locs[c]:=by simpa using e4
     have hq:qs[i]? = some ⟨true,(j:Int),(c:Int),F0⟩:=hq;rw[B7,eG];refine Kl.fn' UQ _ rfl ((e43 ..).trans ?_);refine Av rfl ?_;refine Av rfl ?_;refine Ah (by omega) ?_;rw[Ao];refine Cv (by omega) ?_;refine Av rfl ?_;rw[Aw,Au hq];simp only[Zj,ND,DK,Aa];refine Av rfl ?_;refine Ab gs ?_;simp only[Jm,ND,DK,Aa];have h1:y.ps[j]? = some y.ps[j]:=Φ hj;have h2:y.ps[j].locs[c]? = some q:=by rw[Φ hc,e4]
     have e2:y.ps[j].name=p:=e2.symm;obtain⟨pr,hpr⟩:∃ pr,pr=y.ps[j]:=⟨_,rfl⟩;rw[←hpr]at h1 h2 e2;clear hpr;obtain⟨nm,lc,cm⟩:=pr;simp only at h2 e2;rw[Aw,Au h1];simp only[Y9,ND,DK,Aa];refine Da e2 ?_;refine Ab gs ?_;simp only[Jm,ND,DK,Aa];rw[Aw,Au h1];simp only[Y9,ND,DK,Aa];rw[Aw,Au h2];exact Da rfl rfl
end
set_option linter.unusedSectionVars false
section
open Go.RowKit
variable (A:Ar) (D:Orc)
end

section
open Go.RowKit
variable (A:Ar) (D:Orc)
end


end Go.Proofs.YtlmhajfbpplpoaaGreat
