/- What the reference's functions of layer 2 come to. -/
import Derived.Test.YtlmhajfbpplpoaaGreatOBO
set_option linter.all false
open Bool renaming and_true->AsR,or_false->AsT,true_and->ApZ
open Int renaming add_assoc->Aqy,add_comm->Asq,mul_zero->Arg,natAbs_neg->Arf,natCast_mul->ArH,neg_mul->AsZ,sub_eq_add_neg->Ass,zero_add->Ast,zero_mul->Ar1
open List renaming drop_eq_getElem_cons->ApE,drop_eq_nil_of_le->ApL,drop_zero->ApD,findIdx?_eq_some_iff_getElem->Aqd,getD_eq_getElem?_getD->ApR,getElem?_eq_getElem->Apy,getElem?_eq_some_iff->ApU,getElem_map->Ar4,getElem_mem->ApQ,length_cons->ApI,length_map->ApY,mem_map->AqS
open Nat renaming ble_eq_true_of_le->AqB,le_refl->ApA,lt_succ_self->Aqp,pow_succ->AqT
open Option renaming getD_some->Aq4
namespace Go.Proofs.YtlmhajfbpplpoaaGreat
open Go.RowKit
theorem Sk{s:ByteArray}(h:0<s.size):MH s ↔ Aj.sat s 0=45:=by
 rw[DR h];unfold MH;have hl:0<s.data.toList.length:=by simpa using h
 have e:(s.extract 0 1).data.toList=[s.data.toList[0]'hl]:=by
  rw[ByteArray.data_extract,Array.toList_extract];obtain⟨x,r,e⟩:∃ x r,s.data.toList=x::r:=by
   cases e:s.data.toList with
   |nil=>rw[e]at hl;cases hl
   |cons x r=>exact⟨x,r,rfl⟩
  simp[List.extract,e]
 constructor
 .rintro⟨_,h2⟩
  rw[h2]at e;have:(45:UInt8)=s.data.toList[0]'hl:=(List.cons.inj e).1;rw[←this];rfl
 .intro h2
  refine⟨h,ByteArray.ext (Array.ext' ?_)⟩;rw[e];have:s.data.toList[0]'hl=(45:UInt8):=UInt8.toNat_inj.1 (by rw[show (45:UInt8).toNat=45 from rfl];omega);rw[this];rfl
theorem G4{z:Zi}(h:zv z<0):zv z=-(Ak z.abs:Int):=by
 unfold zv D5 at *
 cases e:z.neg<;>rw[e]at h<;>simp at h ⊢
 omega
theorem EQ{z:Zi}(h:¬ zv z<0):zv z=(Ak z.abs:Int):=by
 unfold zv D5 at *
 cases e:z.neg<;>rw[e]at h<;>simp at h ⊢
 omega
theorem LF{n:Int}:CH n<0 ↔ n<0:=by
 unfold CH;split
 .omega
 .split<;>omega
theorem Aeh{k:Nat}{x y:Int}(hx:InB k x)(hy:InB k y):InB (k+1) (x+y):=by
 unfold InB at *;rw[AqT];have:=Int.natAbs_add_le x y;omega
theorem PZ{k:Nat}(hk:k<=900000000){a b:Zi}(ha:Lz k a)(hb:Lz k b):CG (AY (Ak a.abs+Ak b.abs)):=by
 unfold CG;have h1:=ha.inb;have h2:=hb.inb;have f:∀ z:Zi,(zv z).natAbs=Ak z.abs:=λz=>by
  unfold zv D5;split
  .rw[Arf];rfl
  .rfl
 unfold InB at h1 h2;rw[f]at h1 h2;have:=BG (n:=Ak a.abs+Ak b.abs) (k:=k+1) (by rw[AqT];omega);omega
theorem Do(n:Int):CH n=-1/\n<0\/CH n=1/\0<n\/CH n=0/\n=0:=by
 unfold CH;split
 .omega
 .split<;>omega
theorem Ry(x y:Int):Aj.mul .i64 (CH x) (CH y)=CH x*CH y:=by
 show IntKind.i64.wrap (CH x*CH y)=_
 rw[IntKind.wrap_i64];rcases Do x with h|h|h<;>rcases Do y with h2|h2|h2<;>rw[h.1,h2.1]<;>rfl
theorem Vb{a b:Zi}(h:CH (zv a)*CH (zv b)<0):D5 true (Ak a.abs*Ak b.abs)=zv a*zv b:=by
 unfold D5;rw[if_pos rfl,ArH]
 by_cases ha:zv a<0
 .rw[G4 ha]
  by_cases hb:zv b<0
  .exfalso
   rcases Do (zv a) with h1|h1|h1<;>rcases Do (zv b) with h2|h2|h2<;>rw[h1.1,h2.1]at h<;>omega
  .rw[EQ hb,AsZ]
 .rw[EQ ha]
  by_cases hb:zv b<0
  .rw[G4 hb,Int.mul_neg]
  .exfalso
   rcases Do (zv a) with h1|h1|h1<;>rcases Do (zv b) with h2|h2|h2<;>rw[h1.1,h2.1]at h<;>omega
theorem Vc{a b:Zi}(h:¬ CH (zv a)*CH (zv b)<0):D5 false (Ak a.abs*Ak b.abs)=zv a*zv b:=by
 unfold D5;rw[if_neg (by simp),ArH];rcases Do (zv a) with h1|h1|h1
 .rcases Do (zv b) with h2|h2|h2
  .rw[G4 h1.2,G4 h2.2,Int.neg_mul_neg]
  .exfalso
   rw[h1.1,h2.1]at h;omega
  .have:=EQ (z:=b) (by omega)
   rw[h2.2,Arg,←this,h2.2,Arg]
 .rcases Do (zv b) with h2|h2|h2
  .exfalso
   rw[h1.1,h2.1]at h;omega
  .rw[←EQ (z:=a) (by omega),←EQ (z:=b) (by omega)]
  .have:=EQ (z:=b) (by omega)
   rw[h2.2,Arg,←this,h2.2,Arg]
 .have:=EQ (z:=a) (by omega)
  rw[h1.2,Ar1,←this,h1.2,Ar1]
section
variable {D:Orc} (K:Knows Al OI D) (R:Knows Al TM D)
include K R
theorem C0(neg:Bool){a:List Nat}(ha:Limbs a)(hs:CG a):D.ask (.fn 180) [bv neg,eN a] []=some (.agg (eZ (AO (D5 neg (Ak a)))),[]):=by
 refine R.fn' AgR _ rfl ((AnI ..).trans ?_);refine Ab (Fe K hs ha)?_;simp only[eN,ND,Aa,Av];rw[W8];unfold eZ eN;have hp:=@EK (Ak a)
 by_cases h:0<Ak a
 .refine eqF_go (by have:=hp.2 h;omega)?_
  rw[decide_eq_true h,AsR]
 .have h0:Ak a=0:=by omega
  rw[decide_eq_false h,Bool.and_false,h0,EF];exact AF rfl rfl
theorem Yn{z:Zi}(hz:Lz 1000000000 z):D.ask (.fn 179) [.agg (eZ z)] []=some (.agg (eZ (AO (zv z))),[]):=by
 refine R.fn' AgQ _ rfl ((AnH ..).trans ?_);refine Ab (C0 K R z.neg hz.lim hz.len)?_;rfl
theorem EA{z:Zi}(hz:Lz 1000000000 z):D.ask (.fn 116) [.agg (eZ z)] []=some (iv (CH (zv z)),[]):=by
 refine R.fn' Ags _ rfl ((Ana ..).trans ?_);refine Ab (Fe K hz.len hz.lim)?_;simp only[eN,ND,Aa,Av];have hp:=@EK (Ak z.abs);unfold zv D5
 by_cases h:0<Ak z.abs
 .refine eqF_go (by have:=hp.2 h;omega)?_
  cases z.neg with
  |false=>
   refine brF_go ?_;rw[if_neg (by simp)];unfold CH;rw[if_neg (by omega)]
   first|rw[if_pos (by omega)] | rw[if_neg (by omega)]
  |true=>
   refine Ag ?_;rw[if_pos rfl];unfold CH
   first|rw[if_pos (by omega)] | rw[if_neg (by omega),if_neg (by omega)]
 .have h0:Ak z.abs=0:=by omega
  rw[h0,EF];refine AF rfl ?_
  cases z.neg<;>rfl
theorem WH{z:Zi}(hz:Lz 1000000000 z):D.ask (.fn 123) [.agg (eZ z)] []=some (.agg (eZ (AO (-zv z))),[]):=by
 have e:-zv z=D5 (!z.neg) (Ak z.abs):=by
  unfold zv D5
  cases z.neg<;>simp
 rw[e];refine R.fn' Agx _ rfl ((Anh ..).trans ?_);rw[AbU];have g:=λb=>C0 K R b hz.lim hz.len
 cases z.neg with
 |false=>
  refine Ag ?_;refine Ab (g true)?_;rfl
 |true=>
  refine brF_go ?_;refine Ab (g false)?_;rfl
theorem Vt(s:ByteArray):D.ask (.fn 120) [sv s] []=some (.tup [.agg (eZ (Gj s).1),iv (Gj s).2],[]):=by
 refine R.fn' Agv _ rfl ((Ane ..).trans ?_);unfold Gj He;rw[Cu]
 by_cases h0:0<s.size
 .refine Ao (by omega)?_
  rw[show Nat.blt 0 s.size=true from BF h0];refine Ag ?_
  by_cases h1:MH s
  .rw[if_pos h1]
   refine AF ((Sk h0).1 h1)?_;rw[show J3 1 s.size s.size=true by unfold J3;rw[AqB h1.1,AqB (ApA _)]];refine Ag ?_;generalize hx:Aj.ssub s 1 s.size=x;rw[show s.extract 1 s.size=x from hx];refine Ab (Ly K x)?_;simp only[eN,Fq,ND,Aa]
   by_cases h:(Hf x).2=0
   .rw[if_pos h]
    refine AF h ?_;refine Ab (C0 K R true (Fa _) (by unfold CG;have:=Ia x;omega))?_;rfl
   .rw[if_neg h]
    exact eqF_go h rfl
  .rw[if_neg h1]
   refine eqF_go (λh=>h1 ((Sk h0).2 h))?_;refine Ab (Ly K s)?_;simp only[eN,Fq,ND,Aa]
   by_cases h:(Hf s).2=0
   .rw[if_pos h]
    refine AF h ?_;refine Ab (C0 K R false (Fa _) (by unfold CG;have:=Ia s;omega))?_;rfl
   .rw[if_neg h]
    exact eqF_go h rfl
 .rw[if_neg (λh1:MH s=>h0 h1.1)]
  refine ltF_go (by omega)?_;refine Ab (Ly K s)?_;simp only[eN,Fq,ND,Aa]
  by_cases h:(Hf s).2=0
  .rw[if_pos h]
   refine AF h ?_;refine Ab (C0 K R false (Fa _) (by unfold CG;have:=Ia s;omega))?_;rfl
  .rw[if_neg h]
   exact eqF_go h rfl
theorem Qb{k:Nat}(hk:k<=900000000){a b:Zi}(ha:Lz k a)(hb:Lz k b)(hp:¬ zv a<0):D.ask (.fn 124) [.agg (eZ a),.agg (eZ b)] []=some (.agg (eZ (AO (zv a+zv b))),[]):=by
 have la:=ha.len;have lb:=hb.len;have sa:=EA K R (ha.mono (show k<=1000000000 by omega));have sb:=EA K R (hb.mono (show k<=1000000000 by omega));have ea:=EQ hp;have hsa:¬ CH (zv a)<0:=λh=>hp (LF.1 h)
 refine R.fn' AaL _ rfl ((AkD ..).trans ?_);refine Ab sa ?_;simp only[RK,Di,ND,Aa];refine ltF_go hsa ?_;refine Ab sa ?_;simp only[RK,Di,ND,Aa];refine CA (by omega)?_;refine Ab sb ?_;simp only[RK,Di,ND,Aa]
 by_cases hb0:zv b<0
 .have hsb:=LF.2 hb0
  have eb:=G4 hb0;refine leF_go (by omega)?_;refine Ab sa ?_;simp only[RK,Di,ND,Aa];refine ltF_go hsa ?_;have g1:=WI K (a:=a.abs) (b:=b.abs) (by unfold CG;omega) ha.lim (by unfold CG;omega) hb.lim;unfold Nx at g1;refine Ab g1 ?_
  by_cases hle:Ak b.abs<=Ak a.abs
  .rw[if_pos hle]
   simp only[eN,ND,Aa];have g2:=C0 K R false (a:=AY (Ak a.abs-Ak b.abs)) (AL _) (by
    unfold CG;have:=BG (n:=Ak a.abs-Ak b.abs) (k:=a.abs.length) (by have:=CX ha.lim;omega);omega)
   rw[A0,show D5 false (Ak a.abs-Ak b.abs)=zv a+zv b by unfold D5;rw[if_neg (by simp)];omega]at g2;refine Ab g2 ?_;rfl
  .rw[if_neg hle]
   simp only[eN,ND,Aa];have g3:=WI K (a:=b.abs) (b:=a.abs) (by unfold CG;omega) hb.lim (by unfold CG;omega) ha.lim;unfold Nx at g3;rw[if_pos (show Ak a.abs<=Ak b.abs by omega)]at g3;refine Ab g3 ?_;simp only[eN,ND,Aa];have g2:=C0 K R true (a:=AY (Ak b.abs-Ak a.abs)) (AL _) (by
    unfold CG;have:=BG (n:=Ak b.abs-Ak a.abs) (k:=b.abs.length) (by have:=CX hb.lim;omega);omega)
   rw[A0,show D5 true (Ak b.abs-Ak a.abs)=zv a+zv b by unfold D5;rw[if_pos rfl];omega]at g2;refine Ab g2 ?_;rfl
 .have hsb:¬ CH (zv b)<0:=λh=>hb0 (LF.1 h)
  have eb:=EQ hb0;refine CA (by omega)?_;refine Ab (IF K (by omega) ha.lim (by omega) hb.lim)?_;simp only[eN,ND,Aa];have g2:=C0 K R false (a:=AY (Ak a.abs+Ak b.abs)) (AL _) (PZ hk ha hb);rw[A0,show D5 false (Ak a.abs+Ak b.abs)=zv a+zv b by unfold D5;rw[if_neg (by simp)];omega]at g2;refine Ab g2 ?_;rfl
theorem Tu{k:Nat}(hk:k<=900000000){a b:Zi}(ha:Lz k a)(hb:Lz k b):D.ask (.fn 124) [.agg (eZ a),.agg (eZ b)] []=some (.agg (eZ (AO (zv a+zv b))),[]):=by
 by_cases hp:zv a<0
 .have la:=ha.len
  have lb:=hb.len;have sa:=EA K R (ha.mono (show k<=1000000000 by omega));have sb:=EA K R (hb.mono (show k<=1000000000 by omega));have ea:=G4 hp;have hsa:=LF.2 hp;refine R.fn' AaL _ rfl ((AkD ..).trans ?_);refine Ab sa ?_;simp only[RK,Di,ND,Aa];refine Ao hsa ?_;refine Ab sb ?_;simp only[RK,Di,ND,Aa]
  by_cases hb0:zv b<0
  .have eb:=G4 hb0
   refine Ao (LF.2 hb0)?_;refine Ab (IF K (by omega) ha.lim (by omega) hb.lim)?_;simp only[eN,ND,Aa];have g2:=C0 K R true (a:=AY (Ak a.abs+Ak b.abs)) (AL _) (PZ hk ha hb);rw[A0,show D5 true (Ak a.abs+Ak b.abs)=zv a+zv b by unfold D5;rw[if_pos rfl];omega]at g2;refine Ab g2 ?_;rfl
  .refine ltF_go (λh=>hb0 (LF.1 h))?_
   refine Ab sa ?_;simp only[RK,Di,ND,Aa];refine leF_go (by omega)?_;refine Ab sa ?_;simp only[RK,Di,ND,Aa];refine Ao hsa ?_;have g:=Qb K R hk hb ha hb0;rw[Asq]at g;refine Ab g ?_;rfl
 .exact Qb K R hk ha hb hp
theorem Ach{k:Nat}(hk:k<=900000000){a b:Zi}(ha:Lz k a)(hb:Lz k b):D.ask (.fn 118) [.agg (eZ a),.agg (eZ b)] []=some (.agg (eZ (AO (zv a-zv b))),[]):=by
 refine R.fn' Agt _ rfl ((Anc ..).trans ?_);refine Ab (WH K R (hb.mono (show k<=1000000000 by omega)))?_;have hn:Lz k (AO (-zv b)):=InB.lz (by have:=hb.inb;unfold InB at *;rwa [Arf]);have g:=Tu K R hk ha hn;rw[AJ,←Ass]at g;simp only[eZ,eN,ND,Aa];refine Ab g ?_;rfl
theorem Acf{k:Nat}(hk:k<=900000000){a b:Zi}(ha:Lz k a)(hb:Lz k b):D.ask (.fn 67) [.agg (eZ a),.agg (eZ b)] []=some (iv (CH (zv a-zv b)),[]):=by
 refine R.fn' Ala _ rfl ((e67 ..).trans ?_);refine Ab (Ach K R hk ha hb)?_;have hs:Lz (k+1) (AO (zv a-zv b)):=InB.lz (by rw[Ass];exact Aeh ha.inb (by have:=hb.inb;unfold InB at *;rwa [Arf]));have g:=EA K R (hs.mono (show k+1<=1000000000 by omega));rw[AJ]at g;simp only[eZ,eN,ND,Aa];refine Ab g ?_;rfl
theorem Acg{k m:Nat}(hk:k<=400000000)(hm:m<=400000000){a b:Zi}(ha:Lz k a)(hb:Lz m b):D.ask (.fn 122) [.agg (eZ a),.agg (eZ b)] []=some (.agg (eZ (AO (zv a*zv b))),[]):=by
 have la:=ha.len;have lb:=hb.len;have sa:=EA K R (ha.mono (show k<=1000000000 by omega));have sb:=EA K R (hb.mono (show m<=1000000000 by omega));refine R.fn' Agw _ rfl ((Ang ..).trans ?_);refine Ab sa ?_;simp only[RK,Di,ND,Aa];refine Ab sb ?_;simp only[RK,Di,ND,Aa];have g:=Afd K ha.lim hb.lim (by omega);have l1:=EJ ha.lim hb.lim;have gf:∀ ng,D.ask (.fn 180) [bv ng,eN (AY (Ak a.abs*Ak b.abs))] []=some (.agg (eZ (AO (D5 ng (Ak a.abs*Ak b.abs)))),[]):=λng=>by
  have:=C0 K R ng (a:=AY (Ak a.abs*Ak b.abs)) (AL _) (by unfold CG;omega)
  rwa [A0]at this
 have hmul:Aj.mul .i64 (CH (zv a)) (CH (zv b))=CH (zv a)*CH (zv b):=Ry _ _;rw[hmul]
 by_cases h:CH (zv a)*CH (zv b)<0
 .refine Ao h ?_
  refine Ab g ?_;simp only[eN,ND,Aa];have g2:=gf true;rw[Vb h]at g2;refine Ab g2 ?_;rfl
 .refine ltF_go h ?_
  refine Ab g ?_;simp only[eN,ND,Aa];have g2:=gf false;rw[Vc h]at g2;refine Ab g2 ?_;rfl
theorem Yx{a b:Zi}(ha:Lz 1000000000 a):D.ask (.fn 238) [.agg (eZ a),.agg (eZ b)] []=some (bv (decide (a.neg=b.neg/\a.abs=b.abs)),[]):=by
 refine R.fn' Ag6 _ rfl ((An9 ..).trans ?_);rw[WJ]
 by_cases h:a.neg=b.neg
 .rw[show (a.neg == b.neg)=true by simp[h]]
  refine Ag ?_;refine Ab (AbT K (a:=a.abs) (b:=b.abs) ha.len)?_
  by_cases h2:a.abs=b.abs
  .rw[decide_eq_true h2,decide_eq_true ⟨h,h2⟩]
   rfl
  .rw[decide_eq_false h2,decide_eq_false (λe=>h2 e.2)]
   rfl
 .rw[show (a.neg == b.neg)=false by simp[h],decide_eq_false (λe=>h e.1)]
  exact brF_go rfl
end
theorem AbW(m:Nat)(h:m<9223372036854775808):Aj.rem .i64 (m:Int) 4294967296=((m % 4294967296:Nat):Int):=by
 show Int.tmod (m:Int) 4294967296=_
 rw[show (4294967296:Int)=((4294967296:Nat):Int) from rfl,←Int.ofNat_tmod]
theorem AbV(m:Nat)(h:m<9223372036854775808):Aj.quo .i64 (m:Int) 4294967296=((m / 4294967296:Nat):Int):=by
 show IntKind.i64.wrap (Int.tdiv (m:Int) 4294967296)=_
 rw[IntKind.wrap_i64,show (4294967296:Int)=((4294967296:Nat):Int) from rfl,←Int.ofNat_tdiv];omega
theorem TX(m:Nat):Ak [m % 4294967296,m / 4294967296]=m:=by
 unfold Ak Ak Ak;omega
theorem PQ(m:Nat)(h:m<9223372036854775808):Limbs [m % 4294967296,m / 4294967296]:=BM (by omega) (BM (by omega) BZ)
structure RF (D:Orc):Prop where
 clean:∀ z:Zi,Lz 1000000000 z->D.ask (.fn 179) [.agg (eZ z)] []=some (.agg (eZ (AO (zv z))),[])
 neg:∀ z:Zi,Lz 1000000000 z->D.ask (.fn 123) [.agg (eZ z)] []=some (.agg (eZ (AO (-zv z))),[])
 sign:∀ z:Zi,Lz 1000000000 z->D.ask (.fn 116) [.agg (eZ z)] []=some (iv (CH (zv z)),[])
 of_:∀ n:Int,-9223372036854775808<n->n<9223372036854775808->D.ask (.fn 119) [iv n] []=some (.agg (eZ (AO n)),[])
 cmp:∀ a b:Zi,Lz 900000000 a->Lz 900000000 b->D.ask (.fn 67) [.agg (eZ a),.agg (eZ b)] []=some (iv (CH (zv a-zv b)),[])
 add:∀ a b:Zi,Lz 900000000 a->Lz 900000000 b->D.ask (.fn 124) [.agg (eZ a),.agg (eZ b)] []=some (.agg (eZ (AO (zv a+zv b))),[])
 mul:∀ a b:Zi,Lz 400000000 a->Lz 400000000 b->D.ask (.fn 122) [.agg (eZ a),.agg (eZ b)] []=some (.agg (eZ (AO (zv a*zv b))),[])
 parse:∀ s:ByteArray,D.ask (.fn 120) [sv s] []=some (.tup [.agg (eZ (Gj s).1),iv (Gj s).2],[])
 same:∀ a b:Zi,Lz 1000000000 a->D.ask (.fn 238) [.agg (eZ a),.agg (eZ b)] []=some (bv (decide (a.neg=b.neg/\a.abs=b.abs)),[])
section
variable {D:Orc} (K:Knows Al OI D) (R:Knows Al TM D)
include K R
theorem AjX(n:Int)(h1:-9223372036854775808<n)(h2:n<9223372036854775808):D.ask (.fn 119) [iv n] []=some (.agg (eZ (AO n)),[]):=by
 refine R.fn' Agu _ rfl ((And ..).trans ?_)
 by_cases h:0<=n
 .obtain⟨m,rfl⟩:=Int.eq_ofNat_of_zero_le h
  have g:=C0 K R false (PQ m (by omega)) (by unfold CG;simp);rw[TX,show D5 false m=(m:Int) from rfl]at g;refine CA h ?_;refine eqF_go (by decide)?_;refine eqF_go (by decide)?_;rw[AbW m (by omega),AbV m (by omega),BJ (by omega),BJ (by omega)];refine Ab g ?_;rfl
 .obtain⟨m,hm⟩:∃ m:Nat,n=-((m+1:Nat):Int):=⟨n.natAbs-1,by omega⟩
  have e1:Aj.sub .i64 0 (Aj.add .i64 n 1)=(m:Int):=by
   rw[Hb (by omega) (by omega),Gk (by omega) (by omega)];omega
  have ga:=IF K (a:=[m % 4294967296,m / 4294967296]) (b:=[1]) (by simp) (PQ m (by omega)) (by simp) (BM (by omega) BZ);rw[TX,show Ak [1]=1 from rfl]at ga;have hl:(AY (m+1)).length<=2:=BG (by omega);have g:=C0 K R true (AL (m+1)) (by unfold CG;omega);rw[A0,show D5 true (m+1)=n by rw[hm];rfl]at g;refine leF_go h ?_;refine eqF_go (by decide)?_;refine eqF_go (by decide)?_;rw[e1,AbW m (by omega),AbV m (by omega),BJ (by omega),BJ (by omega)];refine Ab ga ?_;simp only[eN,ND,Aa];refine Ab g ?_;rfl
theorem AmD:RF D where
 clean z h:=Yn K R h
 neg z h:=WH K R h
 sign z h:=EA K R h
 of_ n h1 h2:=AjX K R n h1 h2
 cmp a b ha hb:=Acf K R (ApA _) ha hb
 add a b ha hb:=Tu K R (ApA _) ha hb
 mul a b ha hb:=Acg K R (ApA _) (ApA _) ha hb
 parse s:=Vt K R s
 same a b ha:=Yx K R ha
end
theorem Acn(n:Int):CH n=0 ↔ n=0:=by
 unfold CH
 repeat' split
 all_goals omega
theorem WU(n:Int):CH n<0 ↔ n<0:=by
 unfold CH
 repeat' split
 all_goals omega
theorem Afs(n:Int):0<CH n ↔ 0<n:=by
 unfold CH
 repeat' split
 all_goals omega
theorem Jg(p:Prop)[Decidable p]:br (decide p) (some (bv true,([]:List BO))) (some (bv false,[]))=some (bv (decide p),[]):=by
 by_cases h:p
 .rw[decide_eq_true h];rfl
 .rw[decide_eq_false h];rfl
theorem QL(b:Bool):br b (some (bv true,([]:List BO))) (some (bv false,[]))=some (bv b,[]):=by cases b<;>rfl
theorem QK(b:Bool):br b (some (bv false,([]:List BO))) (some (bv true,[]))=some (bv (!b),[]):=by cases b<;>rfl
section
variable {D:Orc} (Kh:Knows Al OH D) (F:RF D)
include Kh F
theorem AdO{n k:Nat}{ps:List Pt}{kz:Zi}(ht:TmB n k ⟨ps,kz⟩)(hn:n<=1000000)(hk:k+n<=400000000)(v:Int)(y0:Bool)(y1:List (List AV)):∀(m i:Nat) (acc:Int),ps.length-i=m->i<=ps.length->InB (k+i) acc->
  D.ask (.lp 178 0) [iv v,.ptr 0 0,.ptr 1 0,.ptr 2 0,iv (i:Int)] [⟨[.ls (ps.map eP),bv kz.neg,eN kz.abs],true,false⟩,⟨[bv y0,.ls y1],true,false⟩,⟨eZ (AO acc),true,false⟩]
   = some (.tup [iv 0,.ptr 1 0,.ptr 2 0],[.del,.set ⟨[bv y0,.ls y1],true,false⟩,.set ⟨eZ (AO (acc+if 0<=v then A6 v ((ps.drop i).map pv) else 0)),true,false⟩]):=by
 have hlen:ps.length<=n:=ht.len;intro m
 induction m with
 |zero=>
  intro i acc hm hi ha;rw[ApL (by omega)];have e0:acc+(if 0<=v then A6 v (([]:List Pt).map pv) else 0)=acc:=by
   rw[List.map_nil,A6];split<;>omega
  rw[e0];refine Kh.lp' Su _ rfl (by kernel_rfl) ((ZY ..).trans ?_);rw[Av];exact ltF_go (by omega)rfl
 |succ m ih=>
  intro i acc hm hi ha;have h1:i<ps.length:=by omega
  have hz:=ht.ps ps[i] (ApQ h1);rw[ApE h1,List.map_cons,A6];have hn1:∀ kk,Br (ps.map eP) i kk=kk (eP ps[i]):=λkk=>AD (Apy h1) kk
  have ga:=F.add (AO acc) ps[i].z (ha.lz.mono (by omega)) (hz.mono (by omega));rw[AJ]at ga;have ih1:=ih (i+1) acc (by omega) (by omega) (ha.mono (by omega));have ih2:=ih (i+1) (acc+zv ps[i].z) (by omega) (by omega) (by
   show InB (k+i+1) _
   exact InB.add ha (hz.inb.mono (by omega)))
  refine Kh.lp' Su _ rfl (by kernel_rfl) ((ZY ..).trans ?_);rw[Av];refine Ao (by omega)?_;rw[AG,hn1];simp only[eP,eN,ND,Aa]
  by_cases hv:ps[i].v=v
  .refine AF hv ?_
   by_cases h0:0<=v
   .refine CA h0 ?_
    rw[AG,hn1];simp only[eP,eN,ND,Aa];refine Ab ga ?_;simp only[eZ,eN,ND,Aa];rw[Bh (by omega)];refine Ab ih2 ?_;rw[if_pos h0,if_pos h0,if_pos (show (pv ps[i]).1=v from hv),Aqy];rfl
   .refine leF_go h0 ?_
    rw[Bh (by omega)];refine Ab ih1 ?_;rw[if_neg h0,if_neg h0];rfl
  .refine eqF_go hv ?_
   rw[Bh (by omega)];refine Ab ih1 ?_;rw[if_neg (show ¬(pv ps[i]).1=v from hv),Ast];rfl
theorem AdP{n k:Nat}{t:Tm}(ht:TmB n k t)(hn:n<=1000000)(hk:k+n<=400000000)(v:Int):D.ask (.fn 178) [.agg (eT t),iv v] []=some (.agg (eZ (AO (if 0<=v then A6 v t.lf.ps else 0))),[]):=by
 obtain⟨ps,kz⟩:=t;have g:=AdO Kh F ht hn hk v false [] _ 0 0 rfl (by omega) (InB.zero _);rw[ApD,Ast]at g;have e0:eZ (AO 0)=[bv false,.ls []]:=by rw[LS];rfl
 rw[e0]at g;refine Kh.fn' Su _ rfl ((AnG ..).trans ?_);refine Ab g ?_;rfl
theorem AcQ{n k j:Nat}{t:Tm}(ht:TmB n k t)(hn:n<=1000000)(vals:List Zi)(hv:∀ z∈vals,Lz j z)(hl:vals.length<=1000000)(hk:k+n+j+1+vals.length<=400000000)(y0:Bool)(y1:List (List AV)):∀(m i:Nat) (out:Zi),vals.length-i=m->i<=vals.length->Lz (k+n+j+1+i) out->zv out=zv t.k+Ij t.lf.ps (vals.map zv) i->
  ∃ z:Zi,D.ask (.lp 117 0) [.ls (vals.map eZ),.ptr 0 0,.ptr 1 0,.ptr 2 0,iv (i:Int)] [⟨eT t,true,false⟩,⟨[bv y0,.ls y1],true,false⟩,⟨eZ out,true,false⟩]
   = some (.tup [iv 0,.ptr 1 0,.ptr 2 0],[.del,.set ⟨[bv y0,.ls y1],true,false⟩,.set ⟨eZ z,true,false⟩])/\zv z=zv t.k+Ij t.lf.ps (vals.map zv) vals.length/\Lz (k+n+j+1+vals.length) z:=by
 intro m
 induction m with
 |zero=>
  intro i out hm hi ho hz;obtain rfl:i=vals.length:=by omega
  refine⟨out,?_,hz,ho⟩;obtain⟨ps,kz⟩:=t;obtain⟨o1,o2⟩:=out;refine Kh.lp' Sp _ rfl (by kernel_rfl) ((ZR ..).trans ?_);rw[Av];exact ltF_go (by omega)rfl
 |succ m ih=>
  intro i out hm hi ho hz;have h1:i<vals.length:=by omega
  have gc:=AdP Kh F ht hn (by omega) (i:Int);rw[if_pos (by omega)]at gc;have hzv:=hv vals[i] (ApQ h1);have hc:InB (k+n) (A6 (i:Int) t.lf.ps):=(Iu _ _ ht.lb.ps).mono (by have:=ht.lb.len;omega);have gm:=F.mul (AO (A6 (i:Int) t.lf.ps)) vals[i] (hc.lz.mono (by omega)) (hzv.mono (by omega));rw[AJ]at gm;have hp:InB (k+n+j) (A6 (i:Int) t.lf.ps*zv vals[i]):=InB.mul hc hzv.inb;have ga:=F.add out (AO (A6 (i:Int) t.lf.ps*zv vals[i])) (ho.mono (by omega)) (hp.lz.mono (by omega));rw[AJ]at ga;obtain⟨z,g,h⟩:=ih (i+1) (AO (zv out+A6 (i:Int) t.lf.ps*zv vals[i])) (by omega) (by omega) (by
   have:=InB.add ho.inb (hp.mono (show k+n+j<=k+n+j+1+i by omega));exact this.lz) (by
   rw[AJ,hz,Ij,ApR,Apy (by simpa using h1),Aq4,Ar4];omega)
  refine⟨z,?_,h⟩;obtain⟨ps,kz⟩:=t;obtain⟨o1,o2⟩:=out;refine Kh.lp' Sp _ rfl (by kernel_rfl) ((ZR ..).trans ?_);rw[Av];refine Ao (by omega)?_;refine Ab gc ?_;simp only[eZ,eN,ND,Aa];rw[AG,AD (Apy h1)];simp only[eZ,eN,ND,Aa];refine Ab gm ?_;simp only[eZ,eN,ND,Aa];refine Ab ga ?_;simp only[eZ,eN,ND,Aa];rw[Bh (by omega)];refine Ab g ?_;rfl
theorem Yw{n k j:Nat}{t:Tm}(ht:TmB n k t)(hn:n<=1000000)(vals:List Zi)(hv:∀ z∈vals,Lz j z)(hl:vals.length<=1000000)(hk:k+n+j+1+vals.length<=400000000) :
  D.ask (.fn 117) [.agg (eT t),.ls (vals.map eZ)] []=some (.agg (eZ (AO (t.lf.val (CW (vals.map zv))))),[]):=by
 obtain⟨z,g,hz,hlz⟩:=AcQ Kh F ht hn vals hv hl hk false [] _ 0 t.k rfl (by omega) (ht.k.mono (by omega)) (by rw[Ij];omega);have gc:=F.clean z (hlz.mono (by omega));have ev:zv z=t.lf.val (CW (vals.map zv)):=by
  rw[hz,TY,ApY];rfl
 rw[ev]at gc;obtain⟨ps,kz⟩:=t;refine Kh.fn' Sp _ rfl ((Anb ..).trans ?_);refine Ab g ?_;simp only[eZ,eN,ND,Aa];refine Ab gc ?_;rfl
omit Kh F in
theorem X2{n k j:Nat}{l:Lf}(hl:LB n k l){vals:List Int}(hv:∀ x∈vals,InB j x):InB (k+n+j+vals.length+1) (l.val (CW vals)):=by
 rw[TY,Asq];exact InB.add (TF hl hv _) (hl.k.mono (by omega))
theorem Ys{n k j:Nat}{t:Tm}(ht:TmB n k t)(hn:n<=1000000)(e:Bool)(vals:List Zi)(hv:∀ z∈vals,Lz j z)(hl:vals.length<=1000000)(hk:k+n+j+1+vals.length<=400000000) :
  D.ask (.fn 66) [.agg [.ls (t.ps.map eP),bv t.k.neg,eN t.k.abs,bv e],.ls (vals.map eZ)] []=some (bv (Vp (t.lf.val (CW (vals.map zv))) e),[]):=by
 have g:=Yw Kh F ht hn vals hv hl hk;have hb:=X2 ht.lb (vals:=vals.map zv) (λx hx=>by
  rw[AqS]at hx;obtain⟨z,hz,rfl⟩:=hx;exact(hv z hz).inb)
 rw[ApY]at hb;generalize t.lf.val (CW (vals.map zv))=x at g hb;have gs:=F.sign (AO x) (hb.lz.mono (by omega));rw[AJ]at gs;obtain⟨ps,kz⟩:=t;refine Kh.fn' Ak9 _ rfl ((e66 ..).trans ?_);refine Ab g ?_;simp only[eZ,eN,ND,Aa];refine Ab gs ?_;simp only[ND,Aa];have h0:=Acn x;have h1:=WU x
 cases e with
 |true=>
  refine Ag ?_;rw[Kn,Jg]
  congr 3
  unfold Vp;simp only[Bool.not_true,Bool.false_and,AsT];rw[decide_eq_decide];exact h0
 |false=>
  refine brF_go ?_;rw[Oj,Jg]
  congr 3
  unfold Vp;simp only[Bool.not_false,ApZ];rw[←Bool.decide_or,decide_eq_decide];omega
def Zw(x:Fm):ABlk:=ABlk.mk (eF x) true false
omit F in
theorem Aje(f:Int->Int)(vals:List (List AV))(xk:Int)(xt:Tm)(xe:Bool)(ks:List Fm)(hl:ks.length<=1000000)(g:∀ y∈ks,D.ask (.fn 28) [.agg (eF y),.ls vals] []=some (bv (Ds f y),[])):∀(m i:Nat),ks.length-i=m->i<=ks.length->
  D.ask (.lp 28 0) [.ls vals,.ptr 0 0,iv (i:Int)] [Zw (.mk xk xt xe ks)]=some (if GI f (ks.drop i) then .tup [iv 1] else .tup [bv true,bv false],[.del]):=by
 intro m
 induction m with
 |zero=>
  intro i hm hi;rw[ApL (by omega),GI,if_pos rfl];refine Kh.lp' SH _ rfl (by kernel_rfl) ((Af5 ..).trans ?_);rw[C8,Av];exact ltF_go (by omega)rfl
 |succ m ih=>
  intro i hm hi;have h1:i<ks.length:=by omega
  have gy:=g ks[i] (ApQ h1);have ih:=ih (i+1) (by omega) (by omega);rw[ApE h1,GI];unfold Zw at ih ⊢;rw[eF,C8]at ih ⊢;refine Kh.lp' SH _ rfl (by kernel_rfl) ((Af5 ..).trans ?_);rw[Av];refine Ao (by omega)?_;rw[AG,AD (Apy h1)];revert gy;generalize ks[i]=y;obtain⟨yk,yt,ye,ys⟩:=y;intro gy;simp only[eF,eN,ND,Aa]at gy ⊢;refine Ab gy ?_;simp only[ND,Aa]
  cases Ds f (.mk yk yt ye ys) with
  |false=>rfl
  |true=>
   refine Ag ?_;rw[Bh (by omega),ApZ];refine Ab ih ?_
   cases GI f (ks.drop (i+1))<;>rfl
omit F in
theorem Ajf(f:Int->Int)(vals:List (List AV))(xk:Int)(xt:Tm)(xe:Bool)(ks:List Fm)(hl:ks.length<=1000000)(g:∀ y∈ks,D.ask (.fn 28) [.agg (eF y),.ls vals] []=some (bv (Ds f y),[])):∀(m i:Nat),ks.length-i=m->i<=ks.length->
  D.ask (.lp 28 1) [.ls vals,.ptr 0 0,iv (i:Int)] [Zw (.mk xk xt xe ks)]=some (if GJ f (ks.drop i) then .tup [bv true,bv true] else .tup [iv 3],[.del]):=by
 intro m
 induction m with
 |zero=>
  intro i hm hi;rw[ApL (by omega),GJ,if_neg (by simp)];refine Kh.lp' SH _ rfl (by kernel_rfl) ((Af6 ..).trans ?_);rw[C8,Av];exact ltF_go (by omega)rfl
 |succ m ih=>
  intro i hm hi;have h1:i<ks.length:=by omega
  have gy:=g ks[i] (ApQ h1);have ih:=ih (i+1) (by omega) (by omega);rw[ApE h1,GJ];unfold Zw at ih ⊢;rw[eF,C8]at ih ⊢;refine Kh.lp' SH _ rfl (by kernel_rfl) ((Af6 ..).trans ?_);rw[Av];refine Ao (by omega)?_;rw[AG,AD (Apy h1)];revert gy;generalize ks[i]=y;obtain⟨yk,yt,ye,ys⟩:=y;intro gy;simp only[eF,eN,ND,Aa]at gy ⊢;refine Ab gy ?_;simp only[ND,Aa]
  cases Ds f (.mk yk yt ye ys) with
  |true=>rfl
  |false=>
   refine brF_go ?_;rw[Bh (by omega),Bool.false_or];refine Ab ih ?_
   cases GJ f (ks.drop (i+1))<;>rfl
theorem XE{n k j:Nat}(hn:n<=1000000)(vals:List Zi)(hv:∀ z∈vals,Lz j z)(hl:vals.length<=1000000)(hk:k+n+j+1+vals.length<=400000000):∀(N:Nat) (x:Fm),SizeOf.sizeOf x<N->FB n k x->
  D.ask (.fn 28) [.agg (eF x),.ls (vals.map eZ)] []=some (bv (Ds (CW (vals.map zv)) x),[]):=by
 intro N
 induction N with
 |zero=>intro x h;omega
 |succ N ih=>
  intro x hN hx;obtain⟨ht,hkl,h⟩:=hx;rename_i kd t e ks;have gks:∀ y∈ks,D.ask (.fn 28) [.agg (eF y),.ls (vals.map eZ)] []=some (bv (Ds (CW (vals.map zv)) y),[]):=λy hy=>ih y (by have:=Hy (k:=kd) (t:=t) (e:=e) hy;omega) (h y hy)
  have gA:=Aje Kh (CW (vals.map zv)) (vals.map eZ) kd t e ks hkl gks _ 0 rfl (by omega);have gO:=Ajf Kh (CW (vals.map zv)) (vals.map eZ) kd t e ks hkl gks _ 0 rfl (by omega);have gr:=Ys Kh F ht hn e vals hv hl hk;rw[ApD]at gA gO;unfold Zw at gA gO;rw[eF,C8]at gA gO;refine Kh.fn' SH _ rfl ((e28 ..).trans ?_);rw[Ds,C8]
  by_cases h0:kd=0
  .rw[if_pos h0]
   exact K3 h0
  rw[if_neg h0];refine eqF_go h0 ?_
  by_cases h2:kd=2
  .rw[if_pos h2]
   refine AF h2 ?_;refine Ab gr ?_;simp only[ND,Aa];exact QL _
  rw[if_neg h2];refine eqF_go h2 ?_
  by_cases h3:kd=3
  .rw[if_pos h3]
   refine AF h3 ?_;rw[Av]
   cases ks with
   |nil=>rfl
   |cons y r=>
    have gy:=gks y (List.mem_cons_self ..);refine Ao (by rw[ApI];omega)?_;rw[AD (x:=y) (show (y::r)[0]? = some y from rfl),NS];obtain⟨yk,yt,ye,ys⟩:=y;simp only[eF,eN,ND,Aa]at gy ⊢;refine Ab gy ?_;simp only[ND,Aa];exact QK _
  rw[if_neg h3];refine eqF_go h3 ?_
  by_cases h4:kd=4
  .rw[if_pos h4]
   refine AF h4 ?_;refine Ab gA ?_
   cases GI (CW (vals.map zv)) ks<;>rfl
  rw[if_neg h4];refine eqF_go h4 ?_
  by_cases h5:kd=5
  .rw[if_pos h5]
   refine AF h5 ?_;refine Ab gO ?_
   cases GJ (CW (vals.map zv)) ks<;>rfl
  rw[if_neg h5];exact Uk h5
end
def Vv(neg:Bool)(u:Int):Int:=if neg then -u else u
def IW(vars:List ByteArray)(f:Int->Int)(m:Mo):Int:=if m.var=AI [] then Hh m else match vars.findIdx? (m.var = ·) with
 |none=>0
 |some v=>Hh m*f v
theorem Mx(vars:List ByteArray)(f:Int->Int)(m:Mo)(r:List Mo):Dj vars f (m::r)=IW vars f m+Dj vars f r:=rfl
theorem W4{vars:List ByteArray}{f:Int->Int}{mn:Bool}{mu mv:ByteArray}(h:mv=AI []):IW vars f ⟨mn,mu,mv⟩=Vv mn (J9 ⟨mn,mu,mv⟩):=by
 unfold IW Vv;rw[if_pos h];rfl
theorem Qt{vars:List ByteArray}{f:Int->Int}{mn:Bool}{mu mv:ByteArray}(h:mv≠AI [])(e:vars.findIdx? (mv = ·)=none):IW vars f ⟨mn,mu,mv⟩=0:=by
 unfold IW;rw[if_neg h];simp only[e]
theorem IN{vars:List ByteArray}{f:Int->Int}{mn:Bool}{mu mv:ByteArray}{v:Nat}(h:mv≠AI [])(e:vars.findIdx? (mv = ·)=some v):IW vars f ⟨mn,mu,mv⟩=Vv mn (J9 ⟨mn,mu,mv⟩*f v):=by
 unfold IW;rw[if_neg h];simp only[e]
 cases mn with
 |false=>rfl
 |true=>exact AsZ ..
section
variable {D:Orc} (Kj:Knows Al Qk D) (F:RF D) (Kra:Knows Al Ms D)
include Kj F
include Kra in
theorem Ace(vars:List ByteArray)(hvl:vars.length<4611686018427387904)(vals:List Zi)(hvz:∀ z∈vals,Lz 23 z)(ms:List Mo)(hl:ms.length<=64)(y0:Bool)(y1:List (List AV)):∀(k i:Nat) (acc:Int),ms.length-i=k->i<=ms.length->InB (4100+i) acc->
  D.ask (.lp 68 0) [.ls (ms.map Ix),.ls (vars.map eS),.ls (vals.map eZ),.ptr 0 0,.ptr 1 0,iv (i:Int)] [⟨[bv y0,.ls y1],true,false⟩,⟨eZ (AO acc),true,false⟩]
   = some (.tup [iv 0,.ptr 0 0,.ptr 1 0],[.set ⟨[bv y0,.ls y1],true,false⟩,.set ⟨eZ (AO (acc+Dj vars (CW (vals.map zv)) (ms.drop i))),true,false⟩]):=by
 have e0:eZ (AO 0)=[bv false,.ls []]:=by rw[LS];rfl
 intro k
 induction k with
 |zero=>
  intro i acc hm hi ha;rw[ApL (by omega),Dj,Int.add_zero];refine Kj.lp' AaT _ rfl (by kernel_rfl) ((Agb ..).trans ?_);rw[Av];exact ltF_go (by omega)rfl
 |succ k ih=>
  intro i acc hm hi ha;have h1:i<ms.length:=by omega
  have hn1:∀ kk,Br (ms.map Ix) i kk=kk (Ix ms[i]):=λkk=>AD (Apy h1) kk
  rw[ApE h1,Mx];refine Kj.lp' AaT _ rfl (by kernel_rfl) ((Agb ..).trans ?_);rw[Av];refine Ao (by omega)?_;refine Ab (F.of_ 1 (by omega) (by omega))?_;have hW:=Oe ms[i];revert hn1 hW;generalize ms[i]=m;obtain⟨mn,mu,mv⟩:=m;intro hn1 hW;simp only[Ix]at hn1;simp only[eZ,eN,AG,hn1,ND,Aa]
  by_cases hn:mu=AI []
  .have hnm:J9 ⟨mn,mu,mv⟩=1:=by unfold J9;rw[if_pos hn]
   rw[hnm]at hW;refine Dm hn ?_
   by_cases hv:mv=AI []
   .refine Dm hv ?_
    have hU:InB 4100 ((1)):=(hW.mono (by omega));rw[show IW vars (CW (vals.map zv)) ⟨mn,mu,mv⟩=Vv mn ((1)) from ((W4 hv).trans (by rw[hnm]))]
    cases mn with
    |true=>
     have gn:=F.neg (AO ((1))) (hU.lz.mono (by omega));rw[AJ]at gn;have ga:=F.add (AO acc) (AO (-((1)))) (ha.lz.mono (by omega)) (hU.neg.lz.mono (by omega));rw[AJ,AJ]at ga;have ih:=ih (i+1) (acc + -((1))) (by omega) (by omega) (by
      show InB (4100+i+1) _
      exact InB.add ha (hU.neg.mono (by omega)))
     refine Ag ?_;simp only[eZ,eN,ND,Aa]at gn ga ih ⊢;refine Ab gn ?_;simp only[ND,Aa];refine Ab ga ?_;simp only[ND,Aa];rw[Bh (by omega)];refine Ab ih ?_;rw[Aqy];rfl
    |false=>
     have ga:=F.add (AO acc) (AO ((1))) (ha.lz.mono (by omega)) (hU.lz.mono (by omega));rw[AJ,AJ]at ga;have ih:=ih (i+1) (acc+((1))) (by omega) (by omega) (by
      show InB (4100+i+1) _
      exact InB.add ha (hU.mono (by omega)))
     refine brF_go ?_;simp only[eZ,eN,ND,Aa]at ga ih ⊢;refine Ab ga ?_;simp only[ND,Aa];rw[Bh (by omega)];refine Ab ih ?_;rw[Aqy];rfl
   .refine(En hv).trans ?_
    refine Ab (P6 Kra vars hvl mv)?_;simp only[ND,Aa]
    cases ev:vars.findIdx? (mv = ·) with
    |none=>
     refine Ao (show (-1:Int)<0 by omega)?_;have ga:=F.add (AO acc) (AO 0) (ha.lz.mono (by omega)) ((InB.zero 1).lz.mono (by omega));have gn:=F.neg (AO 0) ((InB.zero 1).lz.mono (by omega));rw[AJ,e0]at gn;have ga2:=ga;rw[AJ,AJ,e0]at ga2;rw[AJ,AJ]at ga;have ih:=ih (i+1) (acc+0) (by omega) (by omega) (by
      show InB (4100+i+1) _
      exact InB.add ha (InB.zero _))
     rw[show IW vars (CW (vals.map zv)) ⟨mn,mu,mv⟩=0 from (Qt hv ev)]
     cases mn with
     |true=>
      refine Ag ?_;rw[show (-0:Int)=0 from rfl]at gn;simp only[eZ,eN,ND,Aa]at gn ga ih ⊢;refine Ab gn ?_;simp only[ND,Aa];refine Ab ga ?_;simp only[ND,Aa];rw[Bh (by omega)];refine Ab ih ?_;rw[Aqy];rfl
     |false=>
      refine brF_go ?_;simp only[eZ,eN,ND,Aa]at ga2 ih ⊢;refine Ab ga2 ?_;simp only[ND,Aa];rw[Bh (by omega)];refine Ab ih ?_;rw[Aqy];rfl
    |some v=>
     refine ltF_go (show ¬ ((v:Nat):Int)<0 by omega)?_;simp only[Dc,Av]
     by_cases hlen:vals.length<=v
     .refine CA (by omega)?_
      have ga:=F.add (AO acc) (AO 0) (ha.lz.mono (by omega)) ((InB.zero 1).lz.mono (by omega));have gn:=F.neg (AO 0) ((InB.zero 1).lz.mono (by omega));rw[AJ,e0]at gn;have ga2:=ga;rw[AJ,AJ,e0]at ga2;rw[AJ,AJ]at ga;have ih:=ih (i+1) (acc+0) (by omega) (by omega) (by
       show InB (4100+i+1) _
       exact InB.add ha (InB.zero _))
      rw[show IW vars (CW (vals.map zv)) ⟨mn,mu,mv⟩=0 from (by rw[IN hv ev,OP _ (by simp;omega),Arg];cases mn<;>rfl)]
      cases mn with
      |true=>
       refine Ag ?_;rw[show (-0:Int)=0 from rfl]at gn;simp only[eZ,eN,ND,Aa]at gn ga ih ⊢;refine Ab gn ?_;simp only[ND,Aa];refine Ab ga ?_;simp only[ND,Aa];rw[Bh (by omega)];refine Ab ih ?_;rw[Aqy];rfl
      |false=>
       refine brF_go ?_;simp only[eZ,eN,ND,Aa]at ga2 ih ⊢;refine Ab ga2 ?_;simp only[ND,Aa];rw[Bh (by omega)];refine Ab ih ?_;rw[Aqy];rfl
     .refine leF_go (by omega)?_
      have hlt:v<vals.length:=by omega
      have hzv:=hvz vals[v] (ApQ hlt);have gm:=F.mul (AO (1)) vals[v] (hW.lz.mono (by omega)) (hzv.mono (by omega));rw[AJ]at gm;have ef:CW (vals.map zv) (v:Int)=zv vals[v]:=by
       rw[KT,ApR,Apy (by simpa using hlt),Aq4,Ar4]
      rw[AG,AD (Apy hlt)];simp only[eZ,eN,ND,Aa]at gm ⊢;refine Ab gm ?_;simp only[ND,Aa];have hU:InB 4100 (((1)*zv vals[v])):=((InB.mul hW hzv.inb).mono (by omega));rw[show IW vars (CW (vals.map zv)) ⟨mn,mu,mv⟩=Vv mn (((1)*zv vals[v])) from ((IN hv ev).trans (by rw[hnm,ef]))]
      cases mn with
      |true=>
       have gn:=F.neg (AO (((1)*zv vals[v]))) (hU.lz.mono (by omega));rw[AJ]at gn;have ga:=F.add (AO acc) (AO (-(((1)*zv vals[v])))) (ha.lz.mono (by omega)) (hU.neg.lz.mono (by omega));rw[AJ,AJ]at ga;have ih:=ih (i+1) (acc + -(((1)*zv vals[v]))) (by omega) (by omega) (by
        show InB (4100+i+1) _
        exact InB.add ha (hU.neg.mono (by omega)))
       refine Ag ?_;simp only[eZ,eN,ND,Aa]at gn ga ih ⊢;refine Ab gn ?_;simp only[ND,Aa];refine Ab ga ?_;simp only[ND,Aa];rw[Bh (by omega)];refine Ab ih ?_;rw[Aqy];rfl
      |false=>
       have ga:=F.add (AO acc) (AO (((1)*zv vals[v]))) (ha.lz.mono (by omega)) (hU.lz.mono (by omega));rw[AJ,AJ]at ga;have ih:=ih (i+1) (acc+(((1)*zv vals[v]))) (by omega) (by omega) (by
        show InB (4100+i+1) _
        exact InB.add ha (hU.mono (by omega)))
       refine brF_go ?_;simp only[eZ,eN,ND,Aa]at ga ih ⊢;refine Ab ga ?_;simp only[ND,Aa];rw[Bh (by omega)];refine Ab ih ?_;rw[Aqy];rfl
  .have hnm:J9 ⟨mn,mu,mv⟩=zv (Gj mu).1:=by unfold J9;rw[if_neg hn]
   have gp:=F.parse mu;rw[hnm]at hW;rw[Td mu]at gp;generalize zv (Gj mu).1=u at hnm gp hW;refine(En hn).trans ?_;refine Ab gp ?_;simp only[eZ,eN,ND,Aa]
   by_cases hv:mv=AI []
   .refine Dm hv ?_
    have hU:InB 4100 ((u)):=(hW.mono (by omega));rw[show IW vars (CW (vals.map zv)) ⟨mn,mu,mv⟩=Vv mn ((u)) from ((W4 hv).trans (by rw[hnm]))]
    cases mn with
    |true=>
     have gn:=F.neg (AO ((u))) (hU.lz.mono (by omega));rw[AJ]at gn;have ga:=F.add (AO acc) (AO (-((u)))) (ha.lz.mono (by omega)) (hU.neg.lz.mono (by omega));rw[AJ,AJ]at ga;have ih:=ih (i+1) (acc + -((u))) (by omega) (by omega) (by
      show InB (4100+i+1) _
      exact InB.add ha (hU.neg.mono (by omega)))
     refine Ag ?_;simp only[eZ,eN,ND,Aa]at gn ga ih ⊢;refine Ab gn ?_;simp only[ND,Aa];refine Ab ga ?_;simp only[ND,Aa];rw[Bh (by omega)];refine Ab ih ?_;rw[Aqy];rfl
    |false=>
     have ga:=F.add (AO acc) (AO ((u))) (ha.lz.mono (by omega)) (hU.lz.mono (by omega));rw[AJ,AJ]at ga;have ih:=ih (i+1) (acc+((u))) (by omega) (by omega) (by
      show InB (4100+i+1) _
      exact InB.add ha (hU.mono (by omega)))
     refine brF_go ?_;simp only[eZ,eN,ND,Aa]at ga ih ⊢;refine Ab ga ?_;simp only[ND,Aa];rw[Bh (by omega)];refine Ab ih ?_;rw[Aqy];rfl
   .refine(En hv).trans ?_
    refine Ab (P6 Kra vars hvl mv)?_;simp only[ND,Aa]
    cases ev:vars.findIdx? (mv = ·) with
    |none=>
     refine Ao (show (-1:Int)<0 by omega)?_;have ga:=F.add (AO acc) (AO 0) (ha.lz.mono (by omega)) ((InB.zero 1).lz.mono (by omega));have gn:=F.neg (AO 0) ((InB.zero 1).lz.mono (by omega));rw[AJ,e0]at gn;have ga2:=ga;rw[AJ,AJ,e0]at ga2;rw[AJ,AJ]at ga;have ih:=ih (i+1) (acc+0) (by omega) (by omega) (by
      show InB (4100+i+1) _
      exact InB.add ha (InB.zero _))
     rw[show IW vars (CW (vals.map zv)) ⟨mn,mu,mv⟩=0 from (Qt hv ev)]
     cases mn with
     |true=>
      refine Ag ?_;rw[show (-0:Int)=0 from rfl]at gn;simp only[eZ,eN,ND,Aa]at gn ga ih ⊢;refine Ab gn ?_;simp only[ND,Aa];refine Ab ga ?_;simp only[ND,Aa];rw[Bh (by omega)];refine Ab ih ?_;rw[Aqy];rfl
     |false=>
      refine brF_go ?_;simp only[eZ,eN,ND,Aa]at ga2 ih ⊢;refine Ab ga2 ?_;simp only[ND,Aa];rw[Bh (by omega)];refine Ab ih ?_;rw[Aqy];rfl
    |some v=>
     refine ltF_go (show ¬ ((v:Nat):Int)<0 by omega)?_;simp only[Dc,Av]
     by_cases hlen:vals.length<=v
     .refine CA (by omega)?_
      have ga:=F.add (AO acc) (AO 0) (ha.lz.mono (by omega)) ((InB.zero 1).lz.mono (by omega));have gn:=F.neg (AO 0) ((InB.zero 1).lz.mono (by omega));rw[AJ,e0]at gn;have ga2:=ga;rw[AJ,AJ,e0]at ga2;rw[AJ,AJ]at ga;have ih:=ih (i+1) (acc+0) (by omega) (by omega) (by
       show InB (4100+i+1) _
       exact InB.add ha (InB.zero _))
      rw[show IW vars (CW (vals.map zv)) ⟨mn,mu,mv⟩=0 from (by rw[IN hv ev,OP _ (by simp;omega),Arg];cases mn<;>rfl)]
      cases mn with
      |true=>
       refine Ag ?_;rw[show (-0:Int)=0 from rfl]at gn;simp only[eZ,eN,ND,Aa]at gn ga ih ⊢;refine Ab gn ?_;simp only[ND,Aa];refine Ab ga ?_;simp only[ND,Aa];rw[Bh (by omega)];refine Ab ih ?_;rw[Aqy];rfl
      |false=>
       refine brF_go ?_;simp only[eZ,eN,ND,Aa]at ga2 ih ⊢;refine Ab ga2 ?_;simp only[ND,Aa];rw[Bh (by omega)];refine Ab ih ?_;rw[Aqy];rfl
     .refine leF_go (by omega)?_
      have hlt:v<vals.length:=by omega
      have hzv:=hvz vals[v] (ApQ hlt);have gm:=F.mul (AO (u)) vals[v] (hW.lz.mono (by omega)) (hzv.mono (by omega));rw[AJ]at gm;have ef:CW (vals.map zv) (v:Int)=zv vals[v]:=by
       rw[KT,ApR,Apy (by simpa using hlt),Aq4,Ar4]
      rw[AG,AD (Apy hlt)];simp only[eZ,eN,ND,Aa]at gm ⊢;refine Ab gm ?_;simp only[ND,Aa];have hU:InB 4100 (((u)*zv vals[v])):=((InB.mul hW hzv.inb).mono (by omega));rw[show IW vars (CW (vals.map zv)) ⟨mn,mu,mv⟩=Vv mn (((u)*zv vals[v])) from ((IN hv ev).trans (by rw[hnm,ef]))]
      cases mn with
      |true=>
       have gn:=F.neg (AO (((u)*zv vals[v]))) (hU.lz.mono (by omega));rw[AJ]at gn;have ga:=F.add (AO acc) (AO (-(((u)*zv vals[v])))) (ha.lz.mono (by omega)) (hU.neg.lz.mono (by omega));rw[AJ,AJ]at ga;have ih:=ih (i+1) (acc + -(((u)*zv vals[v]))) (by omega) (by omega) (by
        show InB (4100+i+1) _
        exact InB.add ha (hU.neg.mono (by omega)))
       refine Ag ?_;simp only[eZ,eN,ND,Aa]at gn ga ih ⊢;refine Ab gn ?_;simp only[ND,Aa];refine Ab ga ?_;simp only[ND,Aa];rw[Bh (by omega)];refine Ab ih ?_;rw[Aqy];rfl
      |false=>
       have ga:=F.add (AO acc) (AO (((u)*zv vals[v]))) (ha.lz.mono (by omega)) (hU.lz.mono (by omega));rw[AJ,AJ]at ga;have ih:=ih (i+1) (acc+(((u)*zv vals[v]))) (by omega) (by omega) (by
        show InB (4100+i+1) _
        exact InB.add ha (hU.mono (by omega)))
       refine brF_go ?_;simp only[eZ,eN,ND,Aa]at ga ih ⊢;refine Ab ga ?_;simp only[ND,Aa];rw[Bh (by omega)];refine Ab ih ?_;rw[Aqy];rfl
include Kra in
theorem Tt(vars:List ByteArray)(hvl:vars.length<4611686018427387904)(vals:List Zi)(hvz:∀ z∈vals,Lz 23 z)(ms:List Mo)(hl:ms.length<=64):D.ask (.fn 68) [.ls (ms.map Ix),.ls (vars.map eS),.ls (vals.map eZ)] []=some (.agg (eZ (AO (Dj vars (CW (vals.map zv)) ms))),[]):=by
 have e0:eZ (AO 0)=[bv false,.ls []]:=by rw[LS];rfl
 have g:=Ace Kj F Kra vars hvl vals hvz ms hl false [] _ 0 0 rfl (by omega) (InB.zero _);rw[ApD,Ast,e0]at g;refine Kj.fn' AaT _ rfl ((e68 ..).trans ?_);refine Ab g ?_;rfl
omit Kj F in
theorem JL(vars:List ByteArray)(vals:List Zi)(hvz:∀ z∈vals,Lz 23 z):∀ ms:List Mo,InB (4100+ms.length) (Dj vars (CW (vals.map zv)) ms)
 |[]=>InB.zero _
 |m::r=>by
  have h:=JL vars vals hvz r;have hv:∀ v:Nat,InB 23 (CW (vals.map zv) (v:Int)):=λv=>by
   rw[KT];exact Sf (λx hx=>by
    rw[AqS]at hx;obtain⟨z,hz,rfl⟩:=hx;exact(hvz z hz).inb) v
  rw[Mx,Asq,ApI]
  show InB (4100+r.length+1) _
  refine InB.add h ?_;unfold IW;split
  .exact(Ig m).mono (by omega)
  .split
   .exact InB.zero _
   .exact(InB.mul (Ig m) (hv _)).mono (by omega)
include Kra in
theorem YN(vars:List ByteArray)(hvl:vars.length<4611686018427387904)(vals:List Zi)(hvz:∀ z∈vals,Lz 23 z):∀(n:Nat) (t:Tr) (d:Nat),SizeOf.sizeOf t<n->BW t d=true->D.ask (.fn 29) [.agg (Ck t),.ls (vars.map eS),.ls (vals.map eZ)] []=some (bv (DO vars (CW (vals.map zv)) t),[]):=by
 intro n
 induction n with
 |zero=>intro t d h;omega
 |succ n ih=>
  intro t d hn h
  cases KG h with
  |tt=>
   rw[DO,if_pos rfl];exact Kj.fn' XP _ rfl ((e29 ..).trans (K3 rfl))
  |ff=>
   rw[DO,if_neg (by decide),if_neg (by decide),if_neg (by decide),if_neg (by decide),if_neg (by decide)];refine Kj.fn' XP _ rfl ((e29 ..).trans ?_);refine eqF_go (by decide)?_;refine eqF_go (by decide)?_;refine eqF_go (by decide)?_;refine eqF_go (by decide)?_;exact Uk (by decide)
  |@cmp _ l r op hl hr h1 h2=>
   have gl:=Tt Kj F Kra vars hvl vals hvz l (EL hl).2.1;have gr:=Tt Kj F Kra vars hvl vals hvz r (EL hr).2.1;have bl:=JL vars vals hvz l;have br_:=JL vars vals hvz r;have ll:=(EL hl).2.1;have lr:=(EL hr).2.1;rw[DO,if_neg (by decide),if_pos rfl];generalize Dj vars (CW (vals.map zv)) l=a at gl bl;generalize Dj vars (CW (vals.map zv)) r=b at gr br_;have gc:=F.cmp (AO a) (AO b) (bl.lz.mono (by omega)) (br_.lz.mono (by omega));rw[AJ,AJ]at gc;have s0:=Acn (a-b);have s1:=WU (a-b);have s2:=Afs (a-b);generalize CH (a-b)=s at gc s0 s1 s2;refine Kj.fn' XP _ rfl ((e29 ..).trans ?_);refine eqF_go (by decide)?_;refine AF rfl ?_;simp only[eZ,eN,ND,Aa]at gl gr gc ⊢;refine Ab gl ?_;simp only[ND,Aa];refine Ab gr ?_;simp only[ND,Aa];refine Ab gc ?_;simp only[ND,Aa];unfold VS
   by_cases o0:op=0
   .rw[if_pos o0]
    refine AF o0 ?_;rw[Kn,Jg]
    congr 3
    rw[decide_eq_decide];omega
   rw[if_neg o0];refine eqF_go o0 ?_
   by_cases o1:op=1
   .rw[if_pos o1]
    refine AF o1 ?_;rw[Kn,QK,←decide_not]
    congr 3
    rw[decide_eq_decide];omega
   rw[if_neg o1];refine eqF_go o1 ?_
   by_cases o2:op=2
   .rw[if_pos o2]
    refine AF o2 ?_;rw[Pb,Jg]
    congr 3
    rw[decide_eq_decide];omega
   rw[if_neg o2];refine eqF_go o2 ?_
   by_cases o3:op=3
   .rw[if_pos o3]
    refine AF o3 ?_;rw[Oj,Jg]
    congr 3
    rw[decide_eq_decide];omega
   rw[if_neg o3];refine eqF_go o3 ?_
   by_cases o4:op=4
   .rw[if_pos o4]
    refine AF o4 ?_;rw[Pb,Jg]
    congr 3
    rw[decide_eq_decide];omega
   rw[if_neg o4,if_pos (by omega)];refine eqF_go o4 ?_;rw[Oj,Jg]
   congr 3
   rw[decide_eq_decide];omega
  |@no _ x hd hx=>
   have gx:=ih x _ (by simp only[Tr.mk.sizeOf_spec,List.cons.sizeOf_spec]at hn;omega) hx;rw[DO,if_neg (by decide),if_neg (by decide),if_pos rfl,MY];refine Kj.fn' XP _ rfl ((e29 ..).trans ?_);refine eqF_go (by decide)?_;refine eqF_go (by decide)?_;refine AF rfl ?_;rw[B3,AD (x:=x) (show [x][0]? = some x from rfl)];obtain⟨k,l,r,o,p,q,ks⟩:=x;simp only[Ck,ND,Aa]at gx ⊢;refine Ab gx ?_;simp only[ND,Aa];exact QK _
  |@bin _ k x y hk hd hx gd hy=>
   have gx:=ih x _ (by simp only[Tr.mk.sizeOf_spec,List.cons.sizeOf_spec]at hn;omega) hx;have gy:=ih y _ (by simp only[Tr.mk.sizeOf_spec,List.cons.sizeOf_spec]at hn;omega) hy;rw[DO,if_neg (by omega),if_neg (by omega),if_neg (by omega)];refine Kj.fn' XP _ rfl ((e29 ..).trans ?_);refine eqF_go (by omega)?_;refine eqF_go (by omega)?_;refine eqF_go (by omega)?_;rw[B3,AD (x:=x) (show [x,y][0]? = some x from rfl),AD (x:=x) (show [x,y][0]? = some x from rfl)];have e1:∀ kk,Br ([x,y].map Ck) 1 kk=kk (Ck y):=λkk=>AD (x:=y) (show [x,y][1]? = some y from rfl) kk
   simp only[e1];clear e1;generalize hbx:DO vars (CW (vals.map zv)) x=bx at gx;generalize hby:DO vars (CW (vals.map zv)) y=by_ at gy;rcases hk with rfl|rfl
   .rw[if_pos rfl,GK,GK,GK,hbx,hby,AsR]
    clear hbx hby;refine AF rfl ?_;obtain⟨k,l,r,o,p,q,ks⟩:=x;obtain⟨k2,l2,r2,o2,p2,q2,ks2⟩:=y;simp only[Ck,ND,Aa]at gx gy ⊢;refine Ab gx ?_;simp only[ND,Aa]
    cases bx with
    |false=>rfl
    |true=>
     refine Ag ?_;refine Ab gy ?_;simp only[ND,Aa];exact QL _
   .rw[if_neg (by decide),if_pos rfl,GL,GL,GL,hbx,hby,AsT]
    clear hbx hby;refine eqF_go (by decide)?_;refine AF rfl ?_;obtain⟨k,l,r,o,p,q,ks⟩:=x;obtain⟨k2,l2,r2,o2,p2,q2,ks2⟩:=y;simp only[Ck,ND,Aa]at gx gy ⊢;refine Ab gx ?_;simp only[ND,Aa]
    cases bx with
    |true=>rfl
    |false=>
     refine brF_go ?_;refine Ab gy ?_;simp only[ND,Aa];exact QL _
end
section
variable {D:Orc} (Kh:Knows Al OH D)
include Kh
end
section
variable {D:Orc} (Kj:Knows Al Qk D) (F:RF D) (Kra:Knows Al Ms D) (Kh:Knows Al OH D) (Kl:Knows Al LL D)
include Kl in
theorem Afp(qs:List Pp)(va:List (List AV))(k:Int)(l r:List (List AV))(op:Int)(p q:ByteArray)(k' n:Int)(ks:List Tr)(fs:List Rf)(hl:ks.length=fs.length)(hk:ks.length<=1000000)(g:∀(i:Nat) (h1:i<ks.length) (h2:i<fs.length),D.ask (.fn 43) [.agg (Ck ks[i]),.agg (eG fs[i]),.ls (qs.map IR),.ls va] []=some (bv true,[])):∀(m i:Nat),ks.length-i=m->i<=ks.length->
  D.ask (.lp 43 0) [.ls (qs.map IR),.ls va,.ptr 0 0,.ptr 1 0,iv (ks.length:Int),iv (i:Int)] [ABlk.mk [iv k,.ls l,.ls r,iv op,sv p,sv q,.ls (ks.map Ck)] true false,ABlk.mk [iv k',iv n,.ls (fs.map eG)] true false]=some (.tup [iv 0],[.del,.del]):=by
 intro m
 induction m with
 |zero=>
  intro i hm hi;refine Kl.lp' UU _ rfl (by kernel_rfl) ((Af7 ..).trans ?_);exact ltF_go (by omega)rfl
 |succ m ih=>
  intro i hm hi;have h1:i<ks.length:=by omega
  have h2:i<fs.length:=by omega
  have ih:=ih (i+1) (by omega) (by omega);have gx:=g i h1 h2;refine Kl.lp' UU _ rfl (by kernel_rfl) ((Af7 ..).trans ?_);refine Ao (by omega)?_;rw[AG,AD (Apy h1)];revert gx;generalize ks[i]=x;intro gx;obtain⟨xk,xl,xr,xo,xp,xq,xs⟩:=x;simp only[Ck,ND,Aa]at gx ⊢;rw[AG,AD (Apy h2)];revert gx;generalize fs[i]=f;intro gx;obtain⟨fk,fn,fk2⟩:=f;simp only[eG,ND,Aa]at gx ⊢;refine Ab gx ?_;simp only[ND,Aa];refine(?_:Ae _ _ _ _ _=_);rw[Bh (by omega)];refine Ab ih ?_;rfl
include Kj F Kra Kh Kl
theorem Afq{y:Sy}(hv:y.vars.length<4611686018427387904)(gs:D.ask (.fn 42) [] []=some (.agg (Jm y),[]))(qs:List Pp)(hqs:qs.length<=1000000)(vals:List Zi)(hz4:∀ z∈vals,Lz 4 z)(hvl:vals.length<=10):∀(N:Nat) (t:Tr) (d:Nat) (f:Rf),SizeOf.sizeOf t<N->Cf t d=true->Rw y qs t f->D.ask (.fn 43) [.agg (Ck t),.agg (eG f),.ls (qs.map IR),.ls (vals.map eZ)] []=some (bv true,[]):=by
 have node:∀(k:Int) (ks:List Tr) (f:Rf),ks.length<=2->¬(k=2\/k=6)->Rw y qs (.mk k [] [] 0 (AI []) (AI []) ks) f->(∀ x∈ks,∀ f:Rf,Rw y qs x f->D.ask (.fn 43) [.agg (Ck x),.agg (eG f),.ls (qs.map IR),.ls (vals.map eZ)] []=some (bv true,[]))->D.ask (.fn 43) [.agg (Ck (.mk k [] [] 0 (AI []) (AI []) ks)),.agg (eG f),.ls (qs.map IR),.ls (vals.map eZ)] []=some (bv true,[]):=by
  intro k ks f hk hn hs g;obtain⟨k',n,fs⟩:=f;rw[KD,if_neg hn]at hs;obtain⟨rfl,rfl,hs⟩:=hs;obtain⟨hl,ha⟩:=Tv y qs hs;have gl:=Afp Kl qs (vals.map eZ) k' [] [] 0 (AI []) (AI []) k' 0 ks fs hl (by omega) (λi h1 h2=>g _ (ApQ h1) _ (ha i h1 h2)) _ 0 rfl (by omega);rw[Ck,eG,B3,MV];refine Kl.fn' UU _ rfl ((e43 ..).trans ?_);refine eqF_go (λh=>hn (.inr h))?_;refine eqF_go (λh=>hn (.inl h))?_;refine AF rfl ?_;rw[Av,Av];refine AF (by omega)?_;refine AF rfl ?_;refine Ab gl ?_;rfl
 intro N
 induction N with
 |zero=>intro t d f h;omega
 |succ N ih=>
  intro t d f hN hr hs
  cases X9 hr with
  |tt=>exact node 0 [] f (by simp) (by decide) hs (by simp)
  |ff=>exact node 1 [] f (by simp) (by decide) hs (by simp)
  |@one _ k x hk hd2 hx=>
   have hc:=Js k;refine node k [x] f (by simp) (by omega) hs λz hz f hf=>?_
   rcases List.mem_singleton.1 hz with rfl
   exact ih z _ f (by simp only[Tr.mk.sizeOf_spec,List.cons.sizeOf_spec]at hN;omega) hx hf
  |@two _ k x z hk hd2 hx gd hz=>
   have hc:=Js k;refine node k [x,z] f (by simp) (by omega) hs λu hu f hf=>?_
   simp only[List.mem_cons,List.not_mem_nil,or_false]at hu;rcases hu with rfl|rfl
   .exact ih u _ f (by simp only[Tr.mk.sizeOf_spec,List.cons.sizeOf_spec]at hN;omega) hx hf
   .exact ih u _ f (by simp only[Tr.mk.sizeOf_spec,List.cons.sizeOf_spec]at hN;omega) hz hf
  |@cmp _ l r op hl hs2 h1 h2=>
   obtain⟨k',n,fs⟩:=f;rw[KD,if_pos (.inl rfl)]at hs;obtain⟨rfl,rfl,ho,i,rfl,hq⟩:=hs;rw[CK,if_neg (by decide)]at ho hq;have hb:BW (.mk 2 l r op (AI []) (AI []) []) 0=true:=by
    rw[BW,if_pos rfl,Nr,hl,hs2,decide_eq_true h1,decide_eq_true h2];simp
   have hf:FD y.vars (.mk 2 l r op (AI []) (AI []) [])=Cy y.vars (.mk 2 l r op (AI []) (AI []) [])/\(Cy y.vars (.mk 2 l r op (AI []) (AI []) [])).2=true:=by
    unfold FD at ho ⊢;split
    .rename_i h
     rw[hb,ApZ]at h;exact⟨Prod.ext rfl h.symm,h⟩
    .rename_i h
     rw[if_neg h]at ho
     cases ho
   rw[hf.1]at hq;have g1:=XE Kh F (n:=128) (k:=30000) (by omega) vals hz4 (by omega) (by omega) _ (Cy y.vars (.mk 2 l r op (AI []) (AI []) [])).1 (Aqp _) (Lc y.vars _ _ 0 (Aqp _) hb).2;rw[NJ y.vars (TV _) _ hf.2]at g1;have g2:=YN Kj F Kra y.vars hv vals (λz hz=>(hz4 z hz).mono (by omega)) _ _ 0 (Aqp _) hb;obtain⟨hi,e⟩:=ApU.1 hq;rw[Ck,eG]at *;refine Kl.fn' UU _ rfl ((e43 ..).trans ?_);refine eqF_go (by decide)?_;refine AF rfl ?_;refine AF rfl ?_;refine ltF_go (by omega)?_;rw[Av];refine leF_go (by omega)?_;refine AF rfl ?_;rw[AG,AD hq];revert g1;generalize (Cy y.vars (.mk 2 l r op (AI []) (AI []) [])).1=x;intro g1;obtain⟨xk,xt,xe,xs⟩:=x;simp only[CR,eF,eN,ND,Aa]at g1 ⊢;refine eqF_go (by decide)?_;refine Ag ?_;refine Ab g1 ?_;simp only[ND,Aa];generalize DO y.vars (CW (vals.map zv)) (.mk 2 l r op (AI []) (AI []) [])=b at g2
   cases b with
   |true=>
    refine Ag ?_;refine Ab gs ?_;simp only[Jm,ND,Aa];refine Ab g2 ?_;rfl
   |false=>
    refine brF_go ?_;refine Ab gs ?_;simp only[Jm,ND,Aa];refine Ab g2 ?_;rfl
  |@«at» _ p q hnp hnq=>
   obtain⟨k',n,fs⟩:=f;rw[KD,if_pos (.inr rfl)]at hs;obtain⟨rfl,rfl,ho,i,rfl,hq⟩:=hs;rw[CK,if_pos rfl]at ho hq;obtain⟨hi,_⟩:=ApU.1 hq;unfold Fb at ho hq
   cases e:(y.ps.map (·.name)).findIdx? (p = ·) with
   |none=>rw[e]at ho;cases ho
   |some j=>
    rw[e]at ho hq;obtain⟨hj,e2,_⟩:=Aqd.1 e;rw[ApY]at hj;simp only[Apy hj,Option.map_some,Aq4]at ho hq
    cases e3:(y.ps[j].locs).findIdx? (q = ·) with
    |none=>rw[e3]at ho;cases ho
    |some c=>
     rw[e3]at hq;obtain⟨hc,e4,_⟩:=Aqd.1 e3;have e2:p=y.ps[j].name:=by simpa using e2
     have e4:q=y.ps[j].locs[c]:=by simpa using e4
     have hq:qs[i]? = some ⟨true,(j:Int),(c:Int),F0⟩:=hq;rw[Ck,eG];refine Kl.fn' UU _ rfl ((e43 ..).trans ?_);refine AF rfl ?_;refine AF rfl ?_;refine ltF_go (by omega)?_;rw[Av];refine leF_go (by omega)?_;refine AF rfl ?_;rw[AG,AD hq];simp only[Zh,ND,Aa];refine AF rfl ?_;refine Ab gs ?_;simp only[Jm,ND,Aa];have h1:y.ps[j]? = some y.ps[j]:=Apy hj;have h2:y.ps[j].locs[c]? = some q:=by rw[Apy hc,e4]
     have e2:y.ps[j].name=p:=e2.symm;obtain⟨pr,hpr⟩:∃ pr,pr=y.ps[j]:=⟨_,rfl⟩;rw[←hpr]at h1 h2 e2;clear hpr;obtain⟨nm,lc,cm⟩:=pr;simp only at h2 e2;rw[AG,AD h1];simp only[Y9,ND,Aa];refine Dm e2 ?_;refine Ab gs ?_;simp only[Jm,ND,Aa];rw[AG,AD h1];simp only[Y9,ND,Aa];rw[AG,AD h2];exact Dm rfl rfl
end
set_option linter.unusedSectionVars false
section
variable {D:Orc}
variable (K:Knows Al Qj D) (Kb:Knows Al WX D) (Kq:Knows Al AcA D) (L:NameF D) {ts:List Tk} (H:Toks ts) (P:PreT ts) (y:Sy) (kn:Bool) (hv:y.vars.length<4611686018427387904) (hp:y.ps.length<=1000000) (hq:∀ p∈y.ps,p.locs.length<4611686018427387904)
include K Kb Kq L H P hv hp hq
end
noncomputable def Ais:List (Nat × MFn):=[(128,mf128),(268,mf268),(192,mf192),(269,mf269),(71,mf71),(127,mf127),(187,mf187),(231,mf231),(253,mf253),(33,mf33)]
section
variable {D:Orc}
variable (K:Knows Al WY D) (Kl:Knows Al Ais D) (L:RNameF D) {ts:List Tk} (H:Toks ts) (y:Sy) (kn:Bool) (hv:y.vars.length<4611686018427387904) (hp:y.ps.length<=1000000) (hq:∀ p∈y.ps,p.locs.length<4611686018427387904)
include K Kl L H hp hq
omit K Kl L H hp hq
variable (hnum:∀ i,(nx ts i).kind=3->(nx ts i).text≠[])
include K Kl L H hnum hv hp hq
end
noncomputable def AmG:List (Nat × MFn):=[(69,mf69),(32,mf32)]
section
variable {D:Orc}
set_option linter.unusedSectionVars false
variable (K:Knows Al Qj D) (Kb:Knows Al WX D) (Kq:Knows Al AcA D) (Kr:Knows Al AmG D) (Kw:Knows Al Ait D) (L:NameF D) (y:Sy) (hv:y.vars.length<4611686018427387904) (hp:y.ps.length<=1000000) (hq:∀ p∈y.ps,p.locs.length<4611686018427387904)
include K Kb Kq Kr Kw L hv hp hq
end
section
variable {D:Orc}
set_option linter.unusedSectionVars false
variable (K:Knows Al WY D) (Kl:Knows Al Ais D) (R:RNameF D) (A:LexF D) (y:Sy) (hv:y.vars.length<4611686018427387904) (hp:y.ps.length<=1000000) (hq:∀ p∈y.ps,p.locs.length<4611686018427387904)
include K Kl R A hv hp hq
end

end Go.Proofs.YtlmhajfbpplpoaaGreat
