/- Layer 10: a sign is take -/
import Derived.Test.YtlmhajfbpplpoaaGreatKAU
import Derived.Laws.RangeAny
import Derived.Deep.RegionHeld3
import Derived.Laws.IdiomStrings
import Derived.Test.YtlmhajfbpplpoaaGreatKAD
import Derived.ProofKit
set_option linter.all false
open Bool renaming false->Θ,true->U,and_eq_false_iff->AxP,eq_false_iff->AyZ
open List renaming all_cons->Axn,all_eq_true->Awu,cons_append->AwI,drop_drop->Ayv,getD_eq_getElem?_getD->AwK,getElem?_cons_succ->AwW,getElem?_cons_zero->Axa,getElem?_eq_getElem->Ψ,getElem?_toArray->Axk,getElem_mem->Awy,getElem_of_mem->AxF,isPrefixOf_iff_prefix->AyX,length_cons->π,length_drop->AwR,map_cons->AwP,mem_cons_of_mem->AwU,mem_cons_self->AwS,take_of_length_le->Axy
open Nat renaming add_assoc->AwA,le_refl->ω,le_trans->Aw6,lt_succ_iff_lt_or_eq->Ayt,zero_add->AwJ,zero_le->Axb
open Option renaming none->Δ,some->V
namespace Go.Proofs.YtlmhajfbpplpoaaGreat
open Lib renaming hid->ξ,toList_data->Ayn
open Go.Proofs.Tryz renaming prog->ε
open Go.RowKit
def sgB(k:Nat):ByteArray:=⟨(Iy.getD k []).toArray⟩
theorem XE(k:Nat):(sgB k).data.toList=Iy.getD k []:=by simp[sgB]
set_option maxRecDepth 100000 in
theorem AdL(w:World):Calls ε 246 #[] w λe w'=>∃ b,e=.returned (.slice (V ⟨b,0,Δ⟩) 23 23)/\b<w'.heap.size/\(∀ k,k<23->w'.cell? ⟨b,k,Δ⟩=V (.string (sgB k)))/\Below w.heap.size w w':=by
 go_enter Tryz.func246,Tryz.ntmps246
 go_wp2
 go_ret
 refine⟨w.heap.size,rfl,by simp,λk hk=>?_,Bu w _⟩;rw[(Blk.new w _ _).cell]
 iterate 23 (rcases k with _|k;· rfl)
 omega
def TT(l:List UInt8)(k:Nat):Prop:=∀ j,j<k->(Iy.getD j []).isPrefixOf l=Θ
theorem ZD{l:List UInt8}(h:TT l 23):Cc l=0:=by
 unfold Cc;have:Iy.find? (·.isPrefixOf l)=Δ:=by
  rw[List.find?_eq_none];intro x hx;obtain⟨j,hj,rfl⟩:=AxF hx;have h2:=h j hj;rw[AwK,Ψ hj]at h2;have h3:Iy[j].isPrefixOf l=Θ:=h2;rw[h3]
  decide
 rw[this]
theorem Aik{l:List UInt8}{k:Nat}(h:TT l k)(hk:k<23)(hp:(Iy.getD k []).isPrefixOf l=U):Cc l=(Iy.getD k []).length:=by
 unfold Cc;have:Iy.find? (·.isPrefixOf l)=V (Iy.getD k []):=by
  have hk':k<Iy.length:=hk;rw[List.find?_eq_some_iff_getElem];refine⟨hp,k,hk',by rw[AwK,Ψ hk'];rfl,λj hj=>?_⟩;have h2:=h j hj;rw[AwK,Ψ (by omega)]at h2;have h3:Iy[j].isPrefixOf l=Θ:=h2;rw[h3];rfl
 rw[this]
theorem AkR(s:ByteArray)(i:Nat):(s.extract i s.size).data.toList=s.data.toList.drop i:=by
 rw[ByteArray.data_extract,Array.toList_extract,List.extract_eq_take_drop];exact Axy (by rw[AwR,Array.length_toList];exact ω _)
theorem ZO{s:ByteArray}{i:Nat}{x:List UInt8}(h:x.isPrefixOf (s.data.toList.drop i)=U):x=cut s i x.length:=by
 unfold cut;exact List.prefix_iff_eq_take.1 (AyX.1 h)
set_option maxRecDepth 100000 in
set_option maxHeartbeats 4000000 in
theorem Aij(s:ByteArray)(g i:Nat)(p:Nat × Nat)(w:World)(hs:s.size<=20000)(hi:i<=s.size)(hp:Near p i)(hr:Rd w g s i p) :
  Calls ε 218 #[.pointer (V ⟨g,0,Δ⟩)] w λe w'=>∃ t:ByteArray,e=.returned (.string t)/\t.data.toList=cut s i (Cc (s.data.toList.drop i)) ∧
   Rd w' g s (i+Cc (s.data.toList.drop i)) (Da s i p (Cc (s.data.toList.drop i)))/\w.grownBy w' (V g):=by
 have HR:=ξ hr;have HP:=ξ hp;clear hr hp
 go_enter Tryz.func218,Tryz.ntmps218
 go_wp2_with fail
 refine(AdL w).mono ?_;rintro e w0 ⟨b,rfl,hbl,hcells,hb0⟩;have HC:=ξ hcells;have HB0:=ξ hb0;have HR0:=ξ (show Rd w0 g s i p from Blk.call HR.out hb0);clear hcells hb0
 go_wp2_with fail
 go_loopw [7] (λq wr=>∃ k:Nat,k<=23/\q=.int .i64 k/\TT (s.data.toList.drop i) k/\Below w0.heap.size w0 wr) (λq _=>23-(intOf q).toNat)
 case atStart=>exact⟨0,Axb _,rfl,λj hj=>absurd hj (by omega),Below.refl _ _⟩
 case round=>
  obtain⟨k,hk,rfl,hno,hb⟩:=hrel;have HNO:=ξ hno;clear hno
  by_cases hlt:k<23
  .have hc:=(hb.cell (p:=⟨b,k,Δ⟩) hbl).trans (HC.out k hlt)
   have hrd:Rd wr g s i p:=Blk.call HR0.out hb;obtain⟨c0,c1,_⟩:=hrd.cells;have HB:=ξ hb;have HRD:=ξ hrd;have l0:g<wr.heap.size:=BP c0;have l1:b<wr.heap.size:=BP hc;have q0:(0:Int)<=(k:Int):=by omega
   have q1:(k:Int)<23:=by omega
   have q2:(0:Int)<=(i:Int):=by omega
   have q3:(i:Int)<=(s.size:Int):=by omega
   generalize hx:sgB k=x at *;have HX:=ξ hx;clear hx hb hrd;have hpv:∃ v,Lib.hasPrefix (s.extract i s.size).data.toList x.data.toList=v:=⟨_,rfl⟩;obtain⟨v,hv⟩:=hpv;have HV:=ξ hv;clear hv
   go_wp2_with fail
   refine AZ (by kernel_rfl) (by kernel_rfl) ?_
   repeat (go_big_quiet_step ((exact Zj ((Tryz.strings_HasPrefix _ _ _).mono λe w' h=>⟨h.1.trans (by rw[HV.out]),h.2.symm⟩))))
   refine wpQuiet_nil ?_;rintro _ ⟨y,rfl⟩;have hby:=Bg wr y;generalize later wr y=w1 at *;have HB1:=ξ (A6 HB.out hby);have HRD1:=ξ (show Rd w1 g s i p from Blk.call HRD.out hby);have HPV:=ξ (show (Iy.getD k []).isPrefixOf (s.data.toList.drop i)=v by rw[←AkR s i,←XE k,HX.out];exact HV.out);have HXL:=ξ (show x.data.toList=Iy.getD k [] by rw[←HX.out];exact XE k);clear hby hc c0 c1 l0 l1
   cases v with
   |true=>
    have HLEN:=ξ (Aik HNO.out hlt HPV.out);have HCUT:=ξ (ZO HPV.out);have hxs:x.size=(Iy.getD k []).length:=by rw[←HXL.out];simp
    have hle:i+x.size<=s.size:=by
     have h1:=(AyX.1 HPV.out).length_le;have e:(s.data.toList.drop i).length=s.size-i:=by simp
     rw[hxs];omega
    have HXS:=ξ hxs;clear hxs
    go_wp2_with fail
    go_loopw [24] (λq wr=>∃ m:Nat,m<=x.size/\q=.int .i64 m/\Rd wr g s (i+m) (Da s i p m)/\w1.grownBy wr (V g)) (λq _=>x.size-(intOf q).toNat)
    case atStart=>exact⟨0,Axb _,rfl,by simpa[Da,adv]using HRD1.out,A1 (Below.refl _ _)⟩
    case round=>
     obtain⟨m,hm,rfl,hrd,hgr⟩:=hrel;have HRM:=ξ hrd;have HGR:=ξ hgr;clear hrd hgr
     by_cases hlt2:m<x.size
     .go_wp2_with fail
      refine(FQ s g _ _ wr (by omega) (by omega) ((GG s i m p HP.out (by omega)).small (by omega)) HRM.out).mono ?_;rintro e2 w2 ⟨rfl,hrd2,hg2⟩;have HRD2:=ξ hrd2;have HG2:=ξ hg2;clear hrd2 hg2
      go_wp2_with fail
      go_roundw
      case rel=>
       refine⟨m+1,hlt2,by go_num,?_,Bj HGR.out HG2.out⟩;have h1:=HRD2.out;rw[Ew s i m p (by omega),AwA]at h1;exact h1
      case measure=>simp[intOf];omega
     .obtain rfl:m=x.size:=by omega
      go_wp2
      go_ret
      refine⟨_,rfl,?_,?_,Bj (A1 (A6 HB0.out HB1.out)) HGR.out⟩
      .rw[HLEN.out,HXL.out]
       exact HCUT.out
      .rw[HLEN.out,←HXS.out]
       exact HRM.out
   |false=>
    have HNO2:=ξ (show TT (s.data.toList.drop i) (k+1) from λj hj=>(Ayt.1 hj).elim (HNO.out j) λe=>by subst e;exact HPV.out)
    go_wp2_with fail
    go_roundw
    case rel=>exact⟨k+1,hlt,by go_num,HNO2.out,HB1.out⟩
    case measure=>simp[intOf];omega
  .obtain rfl:k=23:=by omega
   have HZ:=ξ (ZD HNO.out)
   go_wp2
   go_ret
   refine⟨_,rfl,by rw[HZ.out];rfl,?_,A1 (A6 HB0.out hb)⟩;rw[HZ.out];have h1:=Blk.call HR0.out hb;exact h1
theorem DR(s:ByteArray):s.data.toList.length=s.size:=by simp
theorem Ql{s:ByteArray}(h:s.size=0):s=⟨#[]⟩:=by
 cases s with
 |mk d=>
  have:d.size=0:=h;rw[Array.eq_empty_of_size_eq_zero this]
theorem AoX(s:ByteArray):s.data.toList.all BE=U ↔ ∀ k,k<s.size->BE (CO s k)=U:=by
 rw[Awu];constructor
 .intro h k hk
  unfold CO;rw[AwK,Ψ (by rw[DR];exact hk)];exact h _ (Awy _)
 .intro h x hx
  obtain⟨k,hk,rfl⟩:=AxF hx;have h2:=h k (by rwa [DR]at hk);unfold CO at h2
  rwa [AwK,Ψ hk]at h2
set_option maxRecDepth 100000 in
set_option maxHeartbeats 4000000 in
theorem Mf(s:ByteArray)(w:World)(hs:s.size<=9223372036854775807):Calls ε 108 #[.string s] w λe w'=>e=.returned (.bool (DZ s.data.toList))/\Below w.heap.size w w':=by
 by_cases h0:s.size=0
 .obtain rfl:=Ql h0
  go_enter Tryz.func108,Tryz.ntmps108
  go_wp2
  go_ret
  exact⟨rfl,Below.refl _ _⟩
 have hne:¬ s.toList=[]:=by rw[Ayn];intro h;have:=DR s;rw[h]at this;simp at this;omega
 have hni:s.toList.isEmpty=Θ:=by simpa using hne
 have hpos:0<s.size:=by omega
 have hmt:s.data.toList.isEmpty=Θ:=by rw[←Ayn];exact hni
 by_cases h60:60<s.size
 .have HF := ξ (show DZ s.data.toList = Θ by             unfold DZ;rw[DR];have:decide (s.size<=60)=Θ:=by simpa using h60
                                                         rw[this];simp)
  have q:(60:Int)<(s.size:Int):=by omega
  clear hmt
  go_enter Tryz.func108,Tryz.ntmps108
  go_wp2
  go_ret
  exact⟨Cl HF.out.symm,Below.refl _ _⟩
 have q60:¬ (60:Int)<(s.size:Int):=by omega
 have hv:=NI s 0 hpos;have h60':decide (s.size<=60)=U:=by simpa using h60
 have hd:s.data.toList.getD 0 0=CO s 0:=rfl
 by_cases hz:1<s.size/\(CO s 0).toNat=48
 .have HF:=ξ (show DZ s.data.toList=Θ by
   unfold DZ;rw[DR,hd,hz.2];have:decide (1<s.size)=U:=by simpa using hz.1
   rw[this];simp)
  have q1:(1:Int)<(s.size:Int):=by omega
  have q2:((s[0].toNat:Int) == 48)=U:=by rw[hv,hz.2];rfl
  clear hz hv hd h60' hmt
  go_enter Tryz.func108,Tryz.ntmps108
  go_wp2
  go_ret
  exact⟨Cl HF.out.symm,Below.refl _ _⟩
 .have HF:=ξ (show DZ s.data.toList=s.data.toList.all BE by
   unfold DZ;rw[DR,hd,h60',hmt];have:(decide (1<s.size)&&(CO s 0).toNat == 48)=Θ:=by
    rw[AxP]
    by_cases h1:1<s.size
    .right;rw[beq_eq_false_iff_ne];exact λh=>hz ⟨h1,h⟩
    .left;simpa using h1
   rw[this];simp)
  have HALL:=ξ (AoX s);have HV:=ξ (λk (h:k<s.size)=>NI s k h)
  have main:∀(q:(¬ (1:Int)<(s.size:Int))\/((1:Int)<(s.size:Int)/\((s[0].toNat:Int) == 48)=Θ)),Calls ε 108 #[.string s] w λe w'=>e=.returned (.bool (DZ s.data.toList))/\Below w.heap.size w w':=by
   clear hz hd h60' hmt hv;intro q;rcases q with q1|⟨q1,q2⟩
   all_goals
    go_enter Tryz.func108,Tryz.ntmps108
    go_wp2_with fail
    go_loopw [24] (λ_ wr=>∃ k:Nat,k<=s.size/\(∀ j,j<k->BE (CO s j)=U)/\wr=w.iter s k) (λ_ wr=>s.size-wr.iterPos w.heap.size)
    case atStart=>exact⟨0,Axb _,λj hj=>absurd hj (by omega),rfl⟩
    case round=>
     obtain⟨k,hk,hall,rfl⟩:=hrel;have HA:=ξ hall;clear hall
     by_cases hlt:k<s.size
     .have HVK:=ξ (HV.out k hlt)
      by_cases hasc:s[k].toNat<128
      .have hnx:=λty=>run_next_ascii (P:=ε) w s k ty hlt hasc
       have hc:=s[k].toNat_lt
       by_cases hdg:48<=s[k].toNat/\s[k].toNat<=57
       .have hd1:=hdg.1
        have hd2:=hdg.2;have HD:=ξ (show BE (CO s k)=U by rw[←HVK.out];unfold BE;simp;exact hdg);clear hdg;generalize s[k].toNat=c at *;have z1:¬ (c:Int)<48:=by omega
        have z2:¬ (57:Int)<(c:Int):=by omega
        go_wp2
        go_roundw
        case rel=>exact⟨k+1,hlt,λj hj=>(Ayt.1 hj).elim (HA.out j) λe=>by subst e;exact HD.out,rfl⟩
        case measure=>simp;omega
       .have HNO:=ξ (show s.data.toList.all BE=Θ by
         refine AyZ.2 λh=>?_
         have h2:=HALL.out.1 h k hlt;rw[←HVK.out]at h2;unfold BE at h2;simp at h2;exact hdg h2)
        have hz':(s[k].toNat:Int)<48\/¬ (s[k].toNat:Int)<48/\(57:Int)<(s[k].toNat:Int):=by omega
        clear hdg;generalize s[k].toNat=c at *;rcases hz' with z1|⟨z1,z2⟩
        all_goals
         go_wp2
         go_ret
         exact⟨Cl (by rw[HF.out,HNO.out]),(Below.refl _ _).alloc (ω _) _⟩
      .have hnx:=λty=>run_next_any (P:=ε) w s k ty hlt
       have hhi:=(decode_high s k hlt (by omega)).1;have HNO:=ξ (show s.data.toList.all BE=Θ by
        refine AyZ.2 λh=>?_
        have h2:=HALL.out.1 h k hlt;rw[←HVK.out]at h2;unfold BE at h2;simp at h2;omega)
       clear hasc;generalize (Utf8.decode s k).1=c at *;have z1:¬ (c:Int)<48:=by omega
       have z2:(57:Int)<(c:Int):=by omega
       go_wp2
       go_ret
       exact⟨Cl (by rw[HF.out,HNO.out]),(Below.refl _ _).alloc (ω _) _⟩
     .obtain rfl:k=s.size:=by omega
      have hnx:=λty=>run_next_end (P:=ε) w s s.size ty (Nat.lt_irrefl _)
      have HYES:=ξ (HALL.out.2 HA.out)
      go_wp2
      go_ret
      exact⟨Cl (by rw[HF.out,HYES.out]),(Below.refl _ _).alloc (ω _) _⟩
  by_cases h1:1<s.size
  .refine main (.inr ⟨by omega,?_⟩)
   rw[hv,beq_eq_false_iff_ne];have:(CO s 0).toNat≠48:=λh=>hz ⟨h1,h⟩
   omega
  .exact main (.inl (by omega))
theorem Ajd(q:UInt8->Bool)(s:ByteArray):s.data.toList.all q=U ↔ ∀ k,k<s.size->q (CO s k)=U:=by
 rw[Awu];constructor
 .intro h k hk
  unfold CO;rw[AwK,Ψ (by rw[DR];exact hk)];exact h _ (Awy _)
 .intro h x hx
  obtain⟨k,hk,rfl⟩:=AxF hx;have h2:=h k (by rwa [DR]at hk);unfold CO at h2
  rwa [AwK,Ψ hk]at h2
set_option maxRecDepth 100000 in
set_option maxHeartbeats 4000000 in
theorem X3(s:ByteArray)(w:World)(hs:s.size<=9223372036854775807):Calls ε 168 #[.string s] w λe w'=>e=.returned (.bool (GR s.data.toList))/\Below w.heap.size w w':=by
 by_cases h0:s.size=0
 .obtain rfl:=Ql h0
  go_enter Tryz.func168,Tryz.ntmps168
  go_wp2
  go_ret
  exact⟨rfl,Below.refl _ _⟩
 have hne:¬ s.toList=[]:=by rw[Ayn];intro h;have:=DR s;rw[h]at this;simp at this;omega
 have hni:s.toList.isEmpty=Θ:=by simpa using hne
 have hpos:0<s.size:=by omega
 have hmt:s.data.toList.isEmpty=Θ:=by rw[←Ayn];exact hni
 by_cases h20:20<s.size
 .have HF := ξ (show GR s.data.toList = Θ by              unfold GR;rw[DR];have:decide (s.size<=20)=Θ:=by simpa using h20
                                                          rw[this];simp)
  have q:(20:Int)<(s.size:Int):=by omega
  clear hmt
  go_enter Tryz.func168,Tryz.ntmps168
  go_wp2
  go_ret
  exact⟨Cl HF.out.symm,Below.refl _ _⟩
 have q20:¬ (20:Int)<(s.size:Int):=by omega
 have h20':decide (s.size<=20)=U:=by simpa using h20
 have hd:s.data.toList.getD 0 0=CO s 0:=rfl;have HV:=ξ (λk (h:k<s.size)=>NI s k h);have HF:=ξ (show GR s.data.toList=(D6 (CO s 0)&&s.data.toList.all EL) by
  unfold GR;rw[DR,hd,h20',hmt];simp)
 have HALL:=ξ (Ajd EL s);have HPOS:=ξ hpos;clear h20' hd hmt;rcases hl:D6 (CO s 0) with _|_
 .have HL:=ξ hl
  clear hl
  go_enter Tryz.func168,Tryz.ntmps168
  go_wp2_with fail
  refine(Et (CO s 0) _ w (by rw[HV.out 0 HPOS.out])).mono ?_;rw[HL.out];rintro e w' ⟨rfl,rfl⟩
  go_wp2
  go_ret
  exact⟨Cl (by rw[HF.out,HL.out];rfl),Below.refl _ _⟩
 .have HL:=ξ hl
  clear hl
  go_enter Tryz.func168,Tryz.ntmps168
  go_wp2_with fail
  refine(Et (CO s 0) _ w (by rw[HV.out 0 HPOS.out])).mono ?_;rw[HL.out];rintro e w' ⟨rfl,rfl⟩
  go_wp2_with fail
  go_loop [19] (λq=>∃ k:Nat,k<=s.size/\(∀ j,j<k->EL (CO s j)=U)/\q=.int .i64 k) (λq=>s.size-(intOf q).toNat)
  case atStart=>exact⟨0,Axb _,λj hj=>absurd hj (by omega),rfl⟩
  case round=>
   obtain⟨k,hk,hall,rfl⟩:=hrel;have HA:=ξ hall;clear hall
   by_cases hlt:k<s.size
   .have HVK:=ξ (HV.out k hlt)
    have z0:(0:Int)<=(k:Int):=by omega
    have z1:(k:Int)<(s.size:Int):=by omega
    rcases hi:EL (CO s k) with _|_
    .have HI:=ξ hi
     have HNO:=ξ (show s.data.toList.all EL=Θ from AyZ.2 λh=>by have h2:=HALL.out.1 h k hlt;rw[hi]at h2;cases h2);clear hi
     go_wp2_with fail
     refine(N0 (CO s k) _ w (by rw[HVK.out])).mono ?_;rw[HI.out];rintro e w' ⟨rfl,rfl⟩
     go_wp2
     go_ret
     exact⟨Cl (by rw[HF.out,HL.out,HNO.out];rfl),Below.refl _ _⟩
    .have HI:=ξ hi
     clear hi
     go_wp2_with fail
     refine(N0 (CO s k) _ w (by rw[HVK.out])).mono ?_;rw[HI.out];rintro e w' ⟨rfl,rfl⟩
     go_wp2_with fail
     go_round
     case rel=>exact⟨k+1,hlt,λj hj=>(Ayt.1 hj).elim (HA.out j) λe=>by subst e;exact HI.out,by go_num⟩
     case measure=>simp[intOf];omega
   .obtain rfl:k=s.size:=by omega
    have HYES:=ξ (HALL.out.2 HA.out)
    go_wp2
    go_ret
    exact⟨Cl (by rw[HF.out,HL.out,HYES.out];rfl),Below.refl _ _⟩
def Aqf:List ByteArray:=Aqe.map λl=>⟨l.toArray⟩
theorem Aqg(s:ByteArray):Lib.containsS (Aqf.take 8) s=AkP s.data.toList:=by
 rw[Bool.eq_iff_iff,Lib.containsS_iff];unfold AkP Aqf;rw[Axy (by simp[Aqe]),List.mem_map,List.contains_iff_mem];constructor
 .rintro⟨l,hl,rfl⟩
  simpa using hl
 .intro h
  refine⟨_,h,?_⟩
  cases s
  simp
set_option maxRecDepth 100000 in
set_option maxHeartbeats 4000000 in
theorem U7(s:ByteArray)(w:World):Calls ε 169 #[.string s] w λe w'=>e=.returned (.bool (AkP s.data.toList))/\Below w.heap.size w w':=by
 have HR:=ξ (Aqg s)
 go_enter Tryz.func169,Tryz.ntmps169
 go_wp2_with fail
 refine(Tryz.slices_Contains_string w.heap.size 0 8 8 Aqf s _ (by decide) (by decide) ?hc).mono ?_
 case hc=>
  intro j hj;have hj':j<8:=hj;rw[AwJ,(Blk.new w _ _).cell]
  iterate 8 (rcases j with _|j;· rfl)
  omega
 rw[HR.out];rintro e w' ⟨rfl,rfl⟩
 go_wp2
 go_ret
 exact⟨rfl,Bu w _⟩
set_option maxRecDepth 100000 in
set_option maxHeartbeats 4000000 in
theorem Ag8(s:ByteArray)(w:World)(hs:s.size<=9223372036854775807):Calls ε 109 #[.string s] w λe w'=>e=.returned (.bool (Ce s.data.toList))/\Below w.heap.size w w':=by
 rcases h1:GR s.data.toList with _|_
 .have H1:=ξ h1
  clear h1
  go_enter Tryz.func109,Tryz.ntmps109
  go_wp2_with fail
  refine(X3 s w hs).mono ?_;rw[H1.out];rintro e w1 ⟨rfl,hb⟩;have HB:=ξ hb;clear hb
  go_wp2
  go_ret
  exact⟨Cl (by unfold Ce;rw[H1.out];rfl),HB.out⟩
 .have H1:=ξ h1
  clear h1
  go_enter Tryz.func109,Tryz.ntmps109
  go_wp2_with fail
  refine(X3 s w hs).mono ?_;rw[H1.out];rintro e w1 ⟨rfl,hb⟩;have HB:=ξ hb;clear hb
  go_wp2_with fail
  refine(U7 s w1).mono ?_;rintro e w2 ⟨rfl,hb2⟩;have HB2:=ξ (A6 HB.out hb2);clear hb2
  go_wp2
  go_ret
  exact⟨Cl (by unfold Ce;rw[H1.out];rfl),HB2.out⟩
def KB(k:Nat)(t:ByteArray)(p:Nat × Nat):Value:=.agg #[.int .i64 k,.string t,.int .i64 p.1,.int .i64 p.2]
def Lk:Value:=.agg #[.int .i64 0,.string ⟨#[]⟩,.int .i64 0,.int .i64 0]
set_option maxRecDepth 100000 in
set_option maxHeartbeats 4000000 in
theorem Xm(t:ByteArray)(a b:Nat)(w:World)(h:60<t.size)(hs:t.size<=9223372036854775807):Calls ε 216 #[.string t,.agg #[.int .i64 a,.int .i64 b]] w λe w'=>e=.returned (.tuple #[Lk,.int .i64 2])/\Below w.heap.size w w':=by
 have q:(60:Int)<(t.size:Int):=by omega
 go_enter Tryz.func216,Tryz.ntmps216
 go_wp2
 exact bodyPost_ret (v:=.tuple #[Lk,.int .i64 2]) (by simp[results,Tryz.results216,go_sem,Lk]) rfl ⟨rfl,C4 (Bu _ _)⟩
theorem Qa{w:World}{g:Nat}{t:TypeId}{x0 x1 x2 x3:Value}(h:Blk w g t #[x0,x1,x2,x3])(a b c d:Value):Blk ((((w.setCell ⟨g,0,Δ⟩ a).setCell ⟨g,1,Δ⟩ b).setCell ⟨g,2,Δ⟩ c).setCell ⟨g,3,Δ⟩ d) g t #[a,b,c,d]:=by
 simpa using (((h.set_ 0 a).set_ 1 b).set_ 2 c).set_ 3 d
theorem EG{W:World}{g:Nat}{t:TypeId}{a b c d:Value}(h:Blk W g t #[a,b,c,d]):W.cell? ⟨g,0,Δ⟩=V a/\W.cell? ⟨g,1,Δ⟩=V b/\W.cell? ⟨g,2,Δ⟩=V c/\W.cell? ⟨g,3,Δ⟩=V d:=by
 rw[h.cell,h.cell,h.cell,h.cell];exact⟨rfl,rfl,rfl,rfl⟩
theorem EJ{W:World}{g:Nat}{t:TypeId}{cs:Array Value}(h:Blk W g t cs):W.frozen? ⟨g,0,Δ⟩=Θ/\W.frozen? ⟨g,1,Δ⟩=Θ/\W.frozen? ⟨g,2,Δ⟩=Θ/\W.frozen? ⟨g,3,Δ⟩=Θ:=
 ⟨h.frozen 0,h.frozen 1,h.frozen 2,h.frozen 3⟩
theorem P9{W w:World}{g:Nat}(h:Below W.heap.size W w)(hp:W.heap.size<=g)(a b c d:Value):Below W.heap.size W ((((w.setCell ⟨g,0,Δ⟩ a).setCell ⟨g,1,Δ⟩ b).setCell ⟨g,2,Δ⟩ c).setCell ⟨g,3,Δ⟩ d):=
 DE (DE (DE (DE h hp) hp) hp) hp
theorem Qb(w:World)(t1 t2:TypeId)(c1 c2:Array Value):Blk ((w.alloc (.cells c1 t1)).alloc (.cells c2 t2)) w.heap.size t1 c1/\Blk ((w.alloc (.cells c1 t1)).alloc (.cells c2 t2)) (w.heap.size+1) t2 c2/\Below w.heap.size w ((w.alloc (.cells c1 t1)).alloc (.cells c2 t2)):=by
 refine⟨(Blk.new w t1 c1).alloc _,?_,C4 (Bu _ _)⟩;have:=Blk.new (w.alloc (.cells c1 t1)) t2 c2
 rwa [World.size_alloc]at this
set_option maxRecDepth 100000 in
set_option maxHeartbeats 4000000 in
theorem M8(t:ByteArray)(a b:Nat)(w:World)(h:¬ 60<t.size):Calls ε 216 #[.string t,.agg #[.int .i64 a,.int .i64 b]] w λe w'=>
  e=.returned (.tuple (if DZ t.data.toList then #[KB 3 t (a,b),.int .i64 0] else #[Lk,.int .i64 20]))/\Below w.heap.size w w':=by
 have q:¬ (60:Int)<(t.size:Int):=by omega
 rcases hn:DZ t.data.toList with _|_
 .have HN:=ξ hn
  clear hn
  go_enter Tryz.func216,Tryz.ntmps216
  go_wp2_with fail
  refine(Mf t _ (by omega)).mono ?_;rw[HN.out];rintro e w' ⟨rfl,hb⟩;obtain⟨k1,k2,k3⟩:=Qb w 25 164 #[.int .i64 a,.int .i64 b] #[.int .i64 0,.string ⟨#[]⟩,.int .i64 0,.int .i64 0];generalize ((w.alloc (.cells #[.int .i64 a,.int .i64 b] 25)).alloc (.cells #[.int .i64 0,.string ⟨#[]⟩,.int .i64 0,.int .i64 0] 164))=W0 at *;have HB:=ξ (A6 k3 hb);have HK1:=ξ (k1.call hb);have HK2:=ξ (k2.call hb);obtain⟨c0,c1,c2,c3⟩:=EG (k2.call hb);obtain⟨f0,f1,f2,f3⟩:=EJ (k2.call hb);have d0:=(k1.call hb).cell 0;have d1:=(k1.call hb).cell 1;simp only[Axk,Axa,AwW]at d0 d1;clear hb k1 k2 k3
  go_wp2
  obtain⟨e0,e1,e2,e3⟩:=EG (Qa HK2.out (.int .i64 0) (.string ⟨#[]⟩) (.int .i64 0) (.int .i64 0));refine bodyPost_ret (v:=.tuple #[Lk,.int .i64 20]) (by simp[results,Tryz.results216,go_sem,Lk,e0,e1,e2,e3]) rfl ⟨rfl,P9 HB.out (by omega) (.int .i64 0) (.string ⟨#[]⟩) (.int .i64 0) (.int .i64 0)⟩
 .have HN:=ξ hn
  clear hn
  go_enter Tryz.func216,Tryz.ntmps216
  go_wp2_with fail
  refine(Mf t _ (by omega)).mono ?_;rw[HN.out];rintro e w' ⟨rfl,hb⟩;obtain⟨k1,k2,k3⟩:=Qb w 25 164 #[.int .i64 a,.int .i64 b] #[.int .i64 0,.string ⟨#[]⟩,.int .i64 0,.int .i64 0];generalize ((w.alloc (.cells #[.int .i64 a,.int .i64 b] 25)).alloc (.cells #[.int .i64 0,.string ⟨#[]⟩,.int .i64 0,.int .i64 0] 164))=W0 at *;have HB:=ξ (A6 k3 hb);have HK1:=ξ (k1.call hb);have HK2:=ξ (k2.call hb);obtain⟨c0,c1,c2,c3⟩:=EG (k2.call hb);obtain⟨f0,f1,f2,f3⟩:=EJ (k2.call hb);have d0:=(k1.call hb).cell 0;have d1:=(k1.call hb).cell 1;simp only[Axk,Axa,AwW]at d0 d1;clear hb k1 k2 k3
  go_wp2
  obtain⟨e0,e1,e2,e3⟩:=EG (Qa HK2.out (.int .i64 3) (.string t) (.int .i64 a) (.int .i64 b));refine bodyPost_ret (v:=.tuple #[KB 3 t (a,b),.int .i64 0]) (by simp[results,Tryz.results216,go_sem,KB,e0,e1,e2,e3]) rfl ⟨rfl,P9 HB.out (by omega) (.int .i64 3) (.string t) (.int .i64 a) (.int .i64 b)⟩
def TV(s:ByteArray)(g i:Nat)(p:Nat × Nat)(w:World)(r:Tok1)(e:Ending)(w':World):Prop:=match r with
 |.fin=>e=.returned (.tuple #[KB 5 ⟨#[]⟩ p,.int .i64 0])/\w.grownBy w' (V g)
 |.err c=>e=.returned (.tuple #[Lk,.int .i64 c])/\w.grownBy w' (V g)
 |.tok k n=>∃ t:ByteArray,e=.returned (.tuple #[KB k t p,.int .i64 0])/\t.data.toList=cut s i n/\Rd w' g s (i+n) (Da s i p n)/\w.grownBy w' (V g)
structure TB (w:World) (g:Nat) (s:ByteArray) (i j:Nat) (p q:Nat × Nat) (R P:Nat) (W:World):Prop where
 rd:Rd W g s j q
 gr:w.grownBy W (V g)
 k1:Blk W R 164 #[.int .i64 0,.string ⟨#[]⟩,.int .i64 0,.int .i64 0]
 k2:Blk W P 25 #[.int .i64 p.1,.int .i64 p.2]
 hR:w.heap.size<=R
 hP:w.heap.size<=P
 hg:g<w.heap.size
section
variable {w:World} {g:Nat} {s:ByteArray} {i j j':Nat} {p q q':Nat × Nat} {R P:Nat} {W W':World}
theorem TB.call(h:TB w g s i j p q R P W)(hb:Below W.heap.size W W'):TB w g s i j p q R P W':=⟨Blk.call h.rd hb,Bj h.gr (A1 hb),h.k1.call hb,h.k2.call hb,h.hR,h.hP,h.hg⟩
theorem TB.turn(h:TB w g s i j p q R P W)(hr:Rd W' g s j' q')(hgr:W.grownBy W' (V g)):TB w g s i j' p q' R P W':=by
 have k1:Blk W' R _ _:=(hgr.block R h.k1.lt (λe=>by have:=h.hR;have:=h.hg;cases e;omega)).trans h.k1;have k2:Blk W' P _ _:=(hgr.block P h.k2.lt (λe=>by have:=h.hP;have:=h.hg;cases e;omega)).trans h.k2;exact⟨hr,Bj h.gr hgr,k1,k2,h.hR,h.hP,h.hg⟩
theorem TB.cells(h:TB w g s i j p q R P W):W.cell? ⟨g,0,Δ⟩=V (.string s)/\W.cell? ⟨g,1,Δ⟩=V (.int .i64 j)/\W.cell? ⟨P,0,Δ⟩=V (.int .i64 p.1)/\W.cell? ⟨P,1,Δ⟩=V (.int .i64 p.2):=by
 obtain⟨c0,c1,_⟩:=h.rd.cells;refine⟨c0,c1,?_,?_⟩
 .rw[h.k2.cell];rfl
 .rw[h.k2.cell];rfl
theorem TB.end_(h:TB w g s i j p q R P W)(a b c d:Value):let W':=(((W.setCell ⟨R,0,Δ⟩ a).setCell ⟨R,1,Δ⟩ b).setCell ⟨R,2,Δ⟩ c).setCell ⟨R,3,Δ⟩ d
  Rd W' g s j q/\w.grownBy W' (V g)/\W'.cell? ⟨R,0,Δ⟩=V a/\W'.cell? ⟨R,1,Δ⟩=V b/\W'.cell? ⟨R,2,Δ⟩=V c/\W'.cell? ⟨R,3,Δ⟩=V d:=by
 have hne:g≠R:=by have:=h.hR;have:=h.hg;omega
 refine⟨?_,?_,EG (Qa h.k1 a b c d)⟩
 .exact(((Blk.far h.rd (p:=⟨R,0,Δ⟩) hne a).far (p:=⟨R,1,Δ⟩) hne b).far (p:=⟨R,2,Δ⟩) hne c).far (p:=⟨R,3,Δ⟩) hne d
 .obtain⟨h1,h2,h3,h4,h5⟩:=h.gr
  refine⟨h1,h2,h3,by simpa using h4,λk hk hn=>?_⟩;have hkR:k≠R:=by have:=h.hR;omega
  exact(Below.heap_setCell _ ⟨R,3,Δ⟩ d k hkR).trans ((Below.heap_setCell _ ⟨R,2,Δ⟩ c k hkR).trans ((Below.heap_setCell _ ⟨R,1,Δ⟩ b k hkR).trans ((Below.heap_setCell _ ⟨R,0,Δ⟩ a k hkR).trans (h5 k hk hn))))
end
theorem Ri(s:ByteArray)(i:Nat)(h:i<s.size):s.data.toList.drop i=CO s i::s.data.toList.drop (i+1):=Ui s i h
theorem ZH(t:ByteArray)(a b:Nat)(w:World)(h:¬ 60<t.size)(hn:DZ t.data.toList=Θ):Calls ε 216 #[.string t,.agg #[.int .i64 a,.int .i64 b]] w λe w'=>e=.returned (.tuple #[.agg #[.int .i64 0,.string ⟨#[]⟩,.int .i64 0,.int .i64 0],.int .i64 20])/\Below w.heap.size w w':=
 (M8 t a b w h).mono λe w' he=>by rw[hn]at he;exact he
theorem Xl(t:ByteArray)(a b:Nat)(w:World)(h:¬ 60<t.size)(hn:DZ t.data.toList=U):Calls ε 216 #[.string t,.agg #[.int .i64 a,.int .i64 b]] w λe w'=>e=.returned (.tuple #[.agg #[.int .i64 3,.string t,.int .i64 a,.int .i64 b],.int .i64 0])/\Below w.heap.size w w':=
 (M8 t a b w h).mono λe w' he=>by rw[hn]at he;exact he
theorem Xn(t:ByteArray)(a b:Nat)(w:World)(h:60<t.size)(hs:t.size<=9223372036854775807):Calls ε 216 #[.string t,.agg #[.int .i64 a,.int .i64 b]] w λe w'=>e=.returned (.tuple #[.agg #[.int .i64 0,.string ⟨#[]⟩,.int .i64 0,.int .i64 0],.int .i64 2])/\Below w.heap.size w w':=Xm t a b w h hs
theorem st4{w:World}{P R o:Nat}{v a b c d:Value}(h:w.cell? ⟨P,o,Δ⟩=V v)(hne:P≠R):((((w.setCell ⟨R,0,Δ⟩ a).setCell ⟨R,1,Δ⟩ b).setCell ⟨R,2,Δ⟩ c).setCell ⟨R,3,Δ⟩ d).cell? ⟨P,o,Δ⟩=V v:=by
 rw[World.cell?_of_block (a:=⟨P,o,Δ⟩) (Below.heap_setCell _ ⟨R,3,Δ⟩ d P hne),World.cell?_of_block (a:=⟨P,o,Δ⟩) (Below.heap_setCell _ ⟨R,2,Δ⟩ c P hne),World.cell?_of_block (a:=⟨P,o,Δ⟩) (Below.heap_setCell _ ⟨R,1,Δ⟩ b P hne),World.cell?_of_block (a:=⟨P,o,Δ⟩) (Below.heap_setCell _ ⟨R,0,Δ⟩ a P hne)];exact h
theorem AeU(c:UInt8)(W:World):(convert 117 9 (.slice (V ⟨W.heap.size,0,Δ⟩) 1 1)).run ε (W.alloc (.cells #[.int .u8 (c.toNat:Int)] 5))=.ok (.string ⟨#[c]⟩) (W.alloc (.cells #[.int .u8 (c.toNat:Int)] 5)):=by
 exact run_convert_bytes_back _ 117 9 5 _ 1 [c] Tryz.underlying117 Tryz.underlying5 Tryz.underlying9 λj hj=>by
  obtain rfl:j=0:=by simpa using hj
  rw[Gp,(Blk.new W _ _).cell];rfl
theorem Aas(s:ByteArray)(i n:Nat)(h:i+n<=s.size):(cut s i n).length=n:=by
 unfold cut;rw[List.length_take,AwR,DR];omega
theorem Ku{s t:ByteArray}{i n:Nat}(h:t.data.toList=cut s i n)(hn:i+n<=s.size):t.size=n:=by
 rw[←DR,h,Aas s i n hn]
section
variable (s:ByteArray) (i:Nat) (h:i<s.size)
include h
theorem AdW(h1:D6 (CO s i)=U):Dr (s.data.toList.drop i)=if 20<Bw EL s i then .err 2 else .tok 1 (Bw EL s i):=by
 unfold Bw;rw[Ri s i h,BG,Ac h1]
theorem AiF(h1:D6 (CO s i)=Θ)(h2:BE (CO s i)=U):Dr (s.data.toList.drop i)=if 60<Bw BE s i then .err 2 else if 1<Bw BE s i/\(CO s i).toNat=48 then .err 20 else .tok 3 (Bw BE s i):=by
 unfold Bw;rw[Ri s i h,BG,Ab (by rw[h1];decide),Ac h2]
theorem AiD(h1:D6 (CO s i)=Θ)(h2:BE (CO s i)=Θ)(h3:Ho (CO s i)=U):Dr (s.data.toList.drop i)=.tok 4 1:=by
 rw[Ri s i h,BG,Ab (by rw[h1];decide),Ab (by rw[h2];decide),Ac h3]
theorem AiG(h1:D6 (CO s i)=Θ)(h2:BE (CO s i)=Θ)(h3:Ho (CO s i)=Θ):Dr (s.data.toList.drop i)=if Cc (s.data.toList.drop i)=0 then .err 100 else .tok 2 (Cc (s.data.toList.drop i)):=by
 rw[Ri s i h,BG,Ab (by rw[h1];decide),Ab (by rw[h2];decide),Ab (by rw[h3];decide)]
end
theorem XH(q:UInt8->Bool):∀ l:List UInt8,(l.take (DD q l)).all q=U
 |[]=>rfl
 |c::l=>by
  unfold DD;split
  .rename_i hc
   rw[List.take_succ_cons,Axn,hc,XH q l];rfl
  .rfl
theorem Ahh(s:ByteArray)(i:Nat)(h:i<s.size)(h2:BE (CO s i)=U)(h60:¬ 60<Bw BE s i):DZ (cut s i (Bw BE s i)) = !(decide (1<Bw BE s i)&&(CO s i).toNat == 48):=by
 have hp:0<Bw BE s i:=by rw[Tx BE s i h,Ac h2];omega
 have hl:=Aas s i (Bw BE s i) (Ok BE s i (by omega));unfold DZ;have e1:(cut s i (Bw BE s i)).isEmpty=Θ:=by
  rw[List.isEmpty_eq_false_iff];intro e;rw[e]at hl;simp at hl;omega
 have e2:(cut s i (Bw BE s i)).getD 0 0=CO s i:=by
  unfold cut;rw[Ri s i h,AwK,List.getElem?_take_of_lt hp];rfl
 have e3:(cut s i (Bw BE s i)).all BE=U:=XH BE _;have e4:decide (Bw BE s i<=60)=U:=by rw[decide_eq_true_eq];omega
 rw[e1,hl,e2,e3,e4];simp
set_option maxRecDepth 100000 in
set_option maxHeartbeats 8000000 in
theorem AdX(s:ByteArray)(g i:Nat)(p:Nat × Nat)(w:World)(hs:s.size<=20000)(hi:i<=s.size)(hp:Near p i)(hr:Rd w g s i p) :
  Calls ε 161 #[.pointer (V ⟨g,0,Δ⟩)] w (TV s g i p w (Dr (s.data.toList.drop i))):=by
 have hgl:g<w.heap.size:=Blk.lt hr;have HR:=ξ hr;have HP:=ξ hp;obtain⟨c0,c1,c2⟩:=hr.cells;generalize hT:Dr (s.data.toList.drop i)=T;have HT:=ξ hT;clear hr hp hT
 go_enter Tryz.func161,Tryz.ntmps161
 go_wp2_with fail
 have hb0:=Bu w (.cells #[.int .i64 0,.string ⟨#[]⟩,.int .i64 0,.int .i64 0] 164);have hk0:=Blk.new w 164 #[.int .i64 0,.string ⟨#[]⟩,.int .i64 0,.int .i64 0];have HK0:=ξ hk0;have HB0:=ξ hb0;clear hk0 hb0 c0 c1 c2;refine(U0 p _ (HP.out.small (by omega))).mono ?_;rintro e w1 ⟨rfl,hb1⟩;have HB1:=ξ (A6 HB0.out hb1);have HK1:=ξ (HK0.out.call hb1);clear hb1 HB0 HK0
 go_wp2_with fail
 have hbo:=Bu w1 (.cells #[.int .i64 p.1,.int .i64 p.2] 25);have hkp:=Blk.new w1 25 #[.int .i64 p.1,.int .i64 p.2];have HTB:=ξ (show TB w g s i i p p w.heap.size w1.heap.size (w1.alloc (.cells #[.int .i64 p.1,.int .i64 p.2] 25)) from
  ⟨Blk.call HR.out (A6 HB1.out hbo),A1 (A6 HB1.out hbo),HK1.out.call hbo,hkp,ω _,HB1.out.size,hgl⟩)
 have hne:w.heap.size<w1.heap.size:=HK1.out.lt;clear hbo hkp HB1 HK1 HR;generalize (w1.alloc (.cells #[.int .i64 p.1,.int .i64 p.2] 25))=W2 at *;generalize w1.heap.size=P at *;generalize hRR:w.heap.size=R at *;refine(Gt s g i p W2 HTB.out.rd).mono ?_;rintro e w3 ⟨rfl,hb3⟩;have HTB3:=ξ (HTB.out.call hb3);clear hb3 HTB;obtain⟨c0,c1,c2,c3⟩:=HTB3.out.cells;have l0:g<w3.heap.size:=BP c0;have l1:P<w3.heap.size:=BP c2;have l2:R<w3.heap.size:=HTB3.out.k1.lt
 by_cases he:i=s.size
 .have hq:((i:Int) == (s.size:Int))=U:=by rw[he];simp
  have HE:=ξ he;clear he
  go_wp2_with fail
  refine AZ (by kernel_rfl) (by kernel_rfl) ?_
  repeat (go_big_quiet_step (fail))
  refine wpQuiet_nil ?_;rintro _ ⟨y,rfl⟩;have HTB4:=ξ (HTB3.out.call (Bg w3 y));generalize later w3 y=w4 at *;clear c0 c1 c2 c3 l0 l1 l2;obtain⟨c0,c1,c2,c3⟩:=HTB4.out.cells;obtain⟨c4,c5,c6,c7⟩:=EG HTB4.out.k1;obtain⟨f0,f1,f2,f3⟩:=EJ HTB4.out.k1
  go_wp2
  obtain⟨x0,x1,e0,e1,e2,e3⟩:=TB.end_ HTB4.out (.int .i64 5) (.string ⟨#[]⟩) (.int .i64 p.1) (.int .i64 p.2);refine bodyPost_ret (v:=.tuple #[KB 5 ⟨#[]⟩ p,.int .i64 0]) (by simp[results,Tryz.results161,go_sem,KB,e0,e1,e2,e3]) rfl ?_;rw[←HT.out];rw[HE.out,List.drop_of_length_le (by simp)];exact⟨rfl,x1⟩
 .have hlt:i<s.size:=by omega
  have hq:((i:Int) == (s.size:Int))=Θ:=by rw[beq_eq_false_iff_ne];omega
  clear he;rcases hl:D6 (CO s i) with _|_
  .have HL:=ξ hl
   clear hl
   go_wp2_with fail
   refine AZ (by kernel_rfl) (by kernel_rfl) ?_
   repeat (go_big_quiet_step (fail))
   refine wpQuiet_nil ?_;rintro _ ⟨y,rfl⟩;have HTB4:=ξ (HTB3.out.call (Bg w3 y));generalize later w3 y=w4 at *;clear c0 c1 c2 c3 l0 l1 l2;obtain⟨c0,c1,c2,c3⟩:=HTB4.out.cells;obtain⟨c4,c5,c6,c7⟩:=EG HTB4.out.k1;obtain⟨f0,f1,f2,f3⟩:=EJ HTB4.out.k1
   go_wp2_with fail
   refine(Et (CO s i) _ w4 rfl).mono ?_;rw[HL.out];rintro e w5 ⟨rfl,rfl⟩;rcases hd:BE (CO s i) with _|_
   .have HD:=ξ hd
    clear hd
    go_wp2_with fail
    refine(H8 (CO s i) _ w4 rfl).mono ?_;rw[HD.out];rintro e w5 ⟨rfl,rfl⟩;rcases hbg:Ho (CO s i) with _|_
    .have HBG:=ξ hbg
     have HTG:=ξ (AiG s i hlt HL.out HD.out hbg);clear hbg
     go_wp2_with fail
     refine(Aak (CO s i) _ w4 rfl).mono ?_;rw[HBG.out];rintro e w5 ⟨rfl,rfl⟩
     go_wp2_with fail
     refine(Aij s g i p w4 hs hi HP.out HTB4.out.rd).mono ?_;rintro e w5 ⟨t,rfl,htl,hrd,hgr⟩;have HTB5:=ξ (HTB4.out.turn hrd hgr);have HTL:=ξ htl;have hsl:Cc (s.data.toList.drop i)<=s.size-i:=by have:=Tw (s.data.toList.drop i);rwa [AwR,DR]at this
     have hts:=Ku htl (by omega);clear hrd hgr htl hsl;clear c0 c1 c2 c3 c4 c5 c6 c7 f0 f1 f2 f3;obtain⟨c0,c1,c2,c3⟩:=HTB5.out.cells;obtain⟨c4,c5,c6,c7⟩:=EG HTB5.out.k1;obtain⟨f0,f1,f2,f3⟩:=EJ HTB5.out.k1;generalize hn:Cc (s.data.toList.drop i)=n at *;clear hn
     by_cases hz:n=0
     .subst hz
      obtain rfl:=Ql hts
      go_wp2
      obtain⟨x0,x1,e0,e1,e2,e3⟩:=TB.end_ HTB5.out (.int .i64 0) (.string ⟨#[]⟩) (.int .i64 0) (.int .i64 0);refine bodyPost_ret (v:=.tuple #[Lk,.int .i64 100]) (by simp[results,Tryz.results161,go_sem,Lk,e0,e1,e2,e3]) rfl ?_;rw[←HT.out];rw[HTG.out,Ac trivial];exact⟨rfl,x1⟩
     .have hne1:¬ t.toList=[]:=by rw[Ayn];intro h;have:=DR t;rw[h]at this;simp at this;omega
      have hne2:t.toList.isEmpty=Θ:=by simpa using hne1
      clear hts
      go_wp2
      obtain⟨x0,x1,e0,e1,e2,e3⟩:=TB.end_ HTB5.out (.int .i64 2) (.string t) (.int .i64 p.1) (.int .i64 p.2);refine bodyPost_ret (v:=.tuple #[KB 2 t p,.int .i64 0]) (by simp[results,Tryz.results161,go_sem,KB,e0,e1,e2,e3]) rfl ?_;rw[←HT.out];rw[HTG.out,Ab hz];exact⟨t,rfl,HTL.out,x0,x1⟩
    .have HBG:=ξ hbg
     have HTG:=ξ (AiD s i hlt HL.out HD.out hbg);clear hbg
     go_wp2_with fail
     refine(Aak (CO s i) _ w4 rfl).mono ?_;rw[HBG.out];rintro e w5 ⟨rfl,rfl⟩
     go_wp2_with fail
     refine(FQ s g i p w4 (by omega) hlt (HP.out.small (by omega)) HTB4.out.rd).mono ?_;rintro e w5 ⟨rfl,hrd,hgr⟩;have HTB5:=ξ (HTB4.out.turn hrd hgr);clear hrd hgr;clear c0 c1 c2 c3 c4 c5 c6 c7 f0 f1 f2 f3;obtain⟨c0,c1,c2,c3⟩:=HTB5.out.cells;obtain⟨c4,c5,c6,c7⟩:=EG HTB5.out.k1;obtain⟨f0,f1,f2,f3⟩:=EJ HTB5.out.k1;have hcv:=AeU (CO s i) w5;have l0:g<w5.heap.size:=BP c0;have l1:P<w5.heap.size:=BP c2;have l2:R<w5.heap.size:=BP c4
     go_wp2
     obtain⟨x0,x1,e0,e1,e2,e3⟩:=TB.end_ HTB5.out (.int .i64 4) (.string ⟨#[CO s i]⟩) (.int .i64 p.1) (.int .i64 p.2);clear hcv c0 c1 c2 c3 c4 c5 c6 c7 f0 f1 f2 f3 l0 l1 l2;generalize ((((w5.setCell ⟨R,0,Δ⟩ (.int .i64 4)).setCell ⟨R,1,Δ⟩ (.string ⟨#[CO s i]⟩)).setCell ⟨R,2,Δ⟩ (.int .i64 p.1)).setCell ⟨R,3,Δ⟩ (.int .i64 p.2))=W9 at *;have hbo:=Bu W9 (.cells #[.int .u8 ((CO s i).toNat:Int)] 5);generalize W9.alloc (.cells #[.int .u8 ((CO s i).toNat:Int)] 5)=W10 at *;have g0:=(hbo.cell (p:=⟨R,0,Δ⟩) (BP e0)).trans e0;have g1:=(hbo.cell (p:=⟨R,1,Δ⟩) (BP e0)).trans e1;have g2:=(hbo.cell (p:=⟨R,2,Δ⟩) (BP e0)).trans e2;have g3:=(hbo.cell (p:=⟨R,3,Δ⟩) (BP e0)).trans e3;refine bodyPost_ret (v:=.tuple #[KB 4 ⟨#[CO s i]⟩ p,.int .i64 0]) (by simp[results,Tryz.results161,go_sem,KB,g0,g1,g2,g3]) rfl ?_;rw[←HT.out,HTG.out];refine⟨⟨#[CO s i]⟩,rfl,?_,?_,Bj x1 (A1 hbo)⟩
     .unfold cut
      rw[Ri s i hlt];rfl
     .have e:Da s i p 1=NH p (CO s i):=by unfold Da;rw[Ri s i hlt];rfl
      rw[e];exact Blk.call x0 hbo
   .have HD:=ξ hd
    clear hd
    go_wp2_with fail
    refine(H8 (CO s i) _ w4 rfl).mono ?_;rw[HD.out];rintro e w5 ⟨rfl,rfl⟩;clear c4 c5 c6 c7 f0 f1 f2 f3
    go_wp2_with fail
    have HTN:=ξ (AiF s i hlt HL.out HD.out);have HN:=ξ (Ok BE s i hi);have HNB:=ξ (Ahh s i hlt HD.out);have HTBd:=ξ (HTB4.out.call (LN (Below.refl _ _)));have hd2:w4.drew.cell? ⟨P,0,Δ⟩=V (.int .i64 p.1):=c2;have hd3:w4.drew.cell? ⟨P,1,Δ⟩=V (.int .i64 p.2):=c3;have hPR:P≠R:=by omega
    clear c0 c1 c2 c3;generalize hn:Bw BE s i=n at *;have HNN:=ξ hn;clear hn
    by_cases hlong:60<n
    .go_region_held3 (λw'=>w'.cell? ⟨P,0,Δ⟩=V (.int .i64 p.1)/\w'.cell? ⟨P,1,Δ⟩=V (.int .i64 p.2))
      (first|with_reducible exact⟨hd2,hd3⟩|with_reducible exact⟨v2,v3⟩|with_reducible exact⟨u2,u3⟩|with_reducible exact⟨st4 v2 hPR,st4 v3 hPR⟩)
      (first | (go_at_call 213;refine(KF s g i p _ hs hi HP.out HTBd.out.rd).mono ?_;rintro e w5 ⟨t,rfl,htl,hrd,hgr⟩;rw[HNN.out]at htl hrd;have HTB5:=ξ (HTBd.out.turn hrd hgr);have HTL:=ξ htl;have HTS:=ξ (Ku htl HN.out);obtain⟨u0,u1,u2,u3⟩:=HTB5.out.cells;clear u0 u1 htl hrd hgr) | (go_at_call 216;refine(Xn t p.1 p.2 _ (by rw[HTS.out];exact hlong) (by rw[HTS.out];have:=HN.out;omega)).mono ?_;rintro e w6 ⟨rfl,hb6⟩;have HTB6:=ξ (HTB5.out.call hb6);clear hb6 u2 u3;obtain⟨v0,v1,v2,v3⟩:=HTB6.out.cells;obtain⟨c4,c5,c6,c7⟩:=EG HTB6.out.k1;obtain⟨f0,f1,f2,f3⟩:=EJ HTB6.out.k1))
     go_wp2
     obtain⟨x0,x1,e0,e1,e2,e3⟩:=TB.end_ HTB6.out (.int .i64 0) (.string ⟨#[]⟩) (.int .i64 0) (.int .i64 0);refine bodyPost_ret (v:=.tuple #[Lk,.int .i64 2]) (by simp[results,Tryz.results161,go_sem,Lk,e0,e1,e2,e3]) rfl ?_;rw[←HT.out];rw[HTN.out,Ac hlong];exact⟨rfl,x1⟩
    .by_cases hbad:1<n/\(CO s i).toNat=48
     .have HNF := ξ (show DZ (cut s i n) = Θ by             rw[HNB.out hlong,hbad.2];have:decide (1<n)=U:=by simpa using hbad.1
                                                            rw[this];rfl)
      go_region_held3 (λw'=>w'.cell? ⟨P,0,Δ⟩=V (.int .i64 p.1)/\w'.cell? ⟨P,1,Δ⟩=V (.int .i64 p.2))
       (first|with_reducible exact⟨hd2,hd3⟩|with_reducible exact⟨v2,v3⟩|with_reducible exact⟨u2,u3⟩|with_reducible exact⟨st4 v2 hPR,st4 v3 hPR⟩)
       (first | (go_at_call 213;refine(KF s g i p _ hs hi HP.out HTBd.out.rd).mono ?_;rintro e w5 ⟨t,rfl,htl,hrd,hgr⟩;rw[HNN.out]at htl hrd;have HTB5:=ξ (HTBd.out.turn hrd hgr);have HTL:=ξ htl;have HTS:=ξ (Ku htl HN.out);obtain⟨u0,u1,u2,u3⟩:=HTB5.out.cells;clear u0 u1 htl hrd hgr) | (go_at_call 216;refine(ZH t p.1 p.2 _ (by rw[HTS.out];exact hlong) (by rw[HTL.out];exact HNF.out)).mono ?_;rintro e w6 ⟨rfl,hb6⟩;have HTB6:=ξ (HTB5.out.call hb6);clear hb6 u2 u3;obtain⟨v0,v1,v2,v3⟩:=HTB6.out.cells;obtain⟨c4,c5,c6,c7⟩:=EG HTB6.out.k1;obtain⟨f0,f1,f2,f3⟩:=EJ HTB6.out.k1))
      go_wp2
      obtain⟨x0,x1,e0,e1,e2,e3⟩:=TB.end_ HTB6.out (.int .i64 0) (.string ⟨#[]⟩) (.int .i64 0) (.int .i64 0);refine bodyPost_ret (v:=.tuple #[Lk,.int .i64 20]) (by simp[results,Tryz.results161,go_sem,Lk,e0,e1,e2,e3]) rfl ?_;rw[←HT.out];rw[HTN.out,Ab hlong,Ac hbad];exact⟨rfl,x1⟩
     .have HNF:=ξ (show DZ (cut s i n)=U by
       rw[HNB.out hlong,Bool.not_eq_true',AxP]
       by_cases h1:1<n
       .right;rw[beq_eq_false_iff_ne];exact λh=>hbad ⟨h1,h⟩
       .left;simpa using h1)
      go_region_held3 (λw'=>w'.cell? ⟨P,0,Δ⟩=V (.int .i64 p.1)/\w'.cell? ⟨P,1,Δ⟩=V (.int .i64 p.2))
       (first|with_reducible exact⟨hd2,hd3⟩|with_reducible exact⟨v2,v3⟩|with_reducible exact⟨u2,u3⟩|with_reducible exact⟨st4 v2 hPR,st4 v3 hPR⟩)
       (first | (go_at_call 213;refine(KF s g i p _ hs hi HP.out HTBd.out.rd).mono ?_;rintro e w5 ⟨t,rfl,htl,hrd,hgr⟩;rw[HNN.out]at htl hrd;have HTB5:=ξ (HTBd.out.turn hrd hgr);have HTL:=ξ htl;have HTS:=ξ (Ku htl HN.out);obtain⟨u0,u1,u2,u3⟩:=HTB5.out.cells;clear u0 u1 htl hrd hgr) | (go_at_call 216;refine(Xl t p.1 p.2 _ (by rw[HTS.out];exact hlong) (by rw[HTL.out];exact HNF.out)).mono ?_;rintro e w6 ⟨rfl,hb6⟩;have HTB6:=ξ (HTB5.out.call hb6);clear hb6 u2 u3;obtain⟨v0,v1,v2,v3⟩:=HTB6.out.cells;obtain⟨c4,c5,c6,c7⟩:=EG HTB6.out.k1;obtain⟨f0,f1,f2,f3⟩:=EJ HTB6.out.k1))
      go_wp2
      obtain⟨x0,x1,e0,e1,e2,e3⟩:=TB.end_ HTB6.out (.int .i64 3) (.string t) (.int .i64 p.1) (.int .i64 p.2);refine bodyPost_ret (v:=.tuple #[KB 3 t p,.int .i64 0]) (by simp[results,Tryz.results161,go_sem,KB,e0,e1,e2,e3]) rfl ?_;rw[←HT.out];rw[HTN.out,Ab hlong,Ab hbad];exact⟨t,rfl,HTL.out,x0,x1⟩
  .have HL:=ξ hl
   clear hl
   go_wp2_with fail
   refine AZ (by kernel_rfl) (by kernel_rfl) ?_
   repeat (go_big_quiet_step (fail))
   refine wpQuiet_nil ?_;rintro _ ⟨y,rfl⟩;have HTB4:=ξ (HTB3.out.call (Bg w3 y));generalize later w3 y=w4 at *;clear c0 c1 c2 c3 l0 l1 l2;obtain⟨c0,c1,c2,c3⟩:=HTB4.out.cells;obtain⟨c4,c5,c6,c7⟩:=EG HTB4.out.k1;obtain⟨f0,f1,f2,f3⟩:=EJ HTB4.out.k1;have HN:=ξ (Ok EL s i hi);have HTW:=ξ (AdW s i hlt HL.out)
   go_wp2_with fail
   refine(Et (CO s i) _ w4 rfl).mono ?_;rw[HL.out];rintro e w5 ⟨rfl,rfl⟩
   go_wp2_with fail
   refine(X2 s g i p w4 hs hi HP.out HTB4.out.rd).mono ?_;rintro e w5 ⟨t,rfl,htl,hrd,hgr⟩;have HTB5:=ξ (HTB4.out.turn hrd hgr);have HTS:=ξ (Ku htl HN.out);have HTL:=ξ htl;clear hrd hgr htl;clear c0 c1 c2 c3 c4 c5 c6 c7 f0 f1 f2 f3;obtain⟨c0,c1,c2,c3⟩:=HTB5.out.cells;obtain⟨c4,c5,c6,c7⟩:=EG HTB5.out.k1;obtain⟨f0,f1,f2,f3⟩:=EJ HTB5.out.k1;generalize hn:Bw EL s i=n at *;clear hn
   by_cases hlong:20<n
   .have hts:t.size=n:=HTS.out
    have q20:(20:Int)<(t.size:Int):=by omega
    clear hts
    go_wp2
    obtain⟨x0,x1,e0,e1,e2,e3⟩:=TB.end_ HTB5.out (.int .i64 0) (.string ⟨#[]⟩) (.int .i64 0) (.int .i64 0);refine bodyPost_ret (v:=.tuple #[Lk,.int .i64 2]) (by simp[results,Tryz.results161,go_sem,Lk,e0,e1,e2,e3]) rfl ?_;rw[←HT.out];rw[HTW.out,Ac hlong];exact⟨rfl,x1⟩
   .have hts:t.size=n:=HTS.out
    have q20:¬ (20:Int)<(t.size:Int):=by omega
    clear hts
    go_wp2
    obtain⟨x0,x1,e0,e1,e2,e3⟩:=TB.end_ HTB5.out (.int .i64 1) (.string t) (.int .i64 p.1) (.int .i64 p.2);refine bodyPost_ret (v:=.tuple #[KB 1 t p,.int .i64 0]) (by simp[results,Tryz.results161,go_sem,KB,e0,e1,e2,e3]) rfl ?_;rw[←HT.out];rw[HTW.out,Ab hlong];exact⟨t,rfl,HTL.out,x0,x1⟩
def LexR.pre(ts:List Tk):LexR->LexR
 |.ok us=>.ok (ts++us)
 |.err e ln co=>.err e ln co
theorem LexR.pre_nil(r:LexR):r.pre []=r:=by cases r<;>rfl
theorem LexR.pre_more(ts:List Tk)(t:Tk)(r:LexR):(r.more t).pre ts=r.pre (ts++[t]):=by cases r<;>simp[LexR.more,LexR.pre]
def AaO(s:ByteArray)(i:Nat)(p:Nat × Nat):LexR:=GX (s.data.toList.drop i) p
theorem AgE(s:ByteArray)(i:Nat)(p:Nat × Nat):AaO s i p=match Dr (s.data.toList.drop (i+Cd Θ s i)) with
  |.fin=>.ok [⟨5,[],(Da s i p (Cd Θ s i)).1,(Da s i p (Cd Θ s i)).2⟩]
  |.err e=>.err e (Da s i p (Cd Θ s i)).1 (Da s i p (Cd Θ s i)).2
  |.tok kind n=>(AaO s (i+Cd Θ s i+n) (Da s (i+Cd Θ s i) (Da s i p (Cd Θ s i)) n)).more ⟨kind,cut s (i+Cd Θ s i) n,(Da s i p (Cd Θ s i)).1,(Da s i p (Cd Θ s i)).2⟩:=by
 unfold AaO Cd;rw[CU,Ayv];unfold Da cut;simp only[Ayv,AwA];generalize Dr _=T
 cases T<;>rfl
def PR(t:Tk):AI:=[.int .i64 t.kind,.string ⟨t.text.toArray⟩,.int .i64 t.ln,.int .i64 t.co]
def GO(ts:List Tk):AI:=(ts.map PR).flatten
theorem AiB(ts:List Tk)(t:Tk):GO (ts++[t])=GO ts++PR t:=by simp[GO]
def Aep(w:World)(base:Nat)(v:Value)(ts:List Tk):Prop:=w.ownsRow base 164 4 v ts.length (GO ts)
theorem Z8:(Tryz.prog.info? 164).map (λi=>(i.zero,i.size,i.bytes))=V (V (.agg #[.int .i64 0,.string ⟨#[]⟩,.int .i64 0,.int .i64 0]),4,40):=by kernel_rfl
def Aen(r:LexR)(w:World)(e:Ending)(w':World):Prop:=match r with
 |.ok ts=>∃ v,e=.returned (.tuple #[v,.agg #[.int .i64 0,.int .i64 0],.int .i64 0])/\Aep w' w.heap.size v ts/\Below w.heap.size w w'
 |.err c ln co=>e=.returned (.tuple #[.slice Δ 0 0,.agg #[.int .i64 ln,.int .i64 co],.int .i64 c])/\Below w.heap.size w w'
theorem NL{w:World}{g:Nat}{t:TypeId}{x y:Value}(h:Blk w g t #[x,y])(a b:Value):Blk ((w.setCell ⟨g,0,Δ⟩ a).setCell ⟨g,1,Δ⟩ b) g t #[a,b]:=by
 simpa using (h.set_ 0 a).set_ 1 b
theorem IN{W:World}{g:Nat}{t:TypeId}{a b:Value}(h:Blk W g t #[a,b]):W.cell? ⟨g,0,Δ⟩=V a/\W.cell? ⟨g,1,Δ⟩=V b:=by
 rw[h.cell,h.cell];exact⟨rfl,rfl⟩
structure AC (w:World) (v:Value) (ts:List Tk) (W:World):Prop where
 q:Blk W w.heap.size 25 #[.int .i64 0,.int .i64 0]
 own:W.ownsRow (w.heap.size+2) 164 4 v ts.length (GO ts)
 lo:w.heap.size+2<=W.heap.size
 below:Below w.heap.size w W
section
variable {w W W':World} {s:ByteArray} {i j:Nat} {p q:Nat × Nat} {v v':Value} {ts:List Tk}
theorem AC.call(h:AC w v ts W)(hb:Below W.heap.size W W'):AC w v ts W':=⟨h.q.call hb,Q6 h.own hb,Aw6 h.lo hb.size,A6 h.below hb⟩
theorem AC.turn(h:AC w v ts W)(hg:W.grownBy W' (V (w.heap.size+1))):AC w v ts W':=by
 refine⟨?_,h.own.kept hg ?_,Aw6 h.lo hg.size,Oy h.below hg λk e=>by have:=Option.some.inj e;omega⟩
 .exact(hg.block w.heap.size h.q.lt (λe=>by have:=Option.some.inj e;omega)).trans h.q
 .rcases hv:v.ownBlock with _|k
  .exact .inl rfl
  .right
   have:=UY h.own (ω _) k hv;intro e;have:=Option.some.inj e;omega
theorem AC.far(_h:AC w v ts W)(hg:W.grownBy W' v.ownBlock){b:Nat}(hb:b<W.heap.size)(hne:v.ownBlock≠V b):W'.heap[b]? = W.heap[b]?:=hg.block b hb λe=>hne e.symm
theorem AC.low(h:AC w v ts W){b:Nat}(hb:b<w.heap.size+2):v.ownBlock≠V b:=λe=>by have:=UY h.own (ω _) b e;omega
theorem AC.app(h:AC w v ts W)(t:Tk)(hown:W'.ownsRow (w.heap.size+2) 164 4 v' (ts.length+1) (GO ts++PR t))(hg:W.grownBy W' v.ownBlock):AC w v' (ts++[t]) W':=
 ⟨(h.far hg h.q.lt (h.low (by omega))).trans h.q,by rw[AiB];simpa using hown,Aw6 h.lo hg.size,Oy h.below hg λk e=>by have:=UY h.own (ω _) k e;omega⟩
end
structure AB (w:World) (s:ByteArray) (i:Nat) (p:Nat × Nat) (v:Value) (ts:List Tk) (W:World):Prop where
 rd:Rd W (w.heap.size+1) s i p
 ac:AC w v ts W
section
variable {w W W':World} {s:ByteArray} {i j:Nat} {p q:Nat × Nat} {v v':Value} {ts:List Tk}
theorem AB.call(h:AB w s i p v ts W)(hb:Below W.heap.size W W'):AB w s i p v ts W':=⟨Blk.call h.rd hb,h.ac.call hb⟩
theorem AB.turn(h:AB w s i p v ts W)(hr:Rd W' (w.heap.size+1) s j q)(hg:W.grownBy W' (V (w.heap.size+1))):AB w s j q v ts W':=⟨hr,h.ac.turn hg⟩
theorem AB.app(h:AB w s i p v ts W)(t:Tk)(hown:W'.ownsRow (w.heap.size+2) 164 4 v' (ts.length+1) (GO ts++PR t))(hg:W.grownBy W' v.ownBlock):AB w s i p v' (ts++[t]) W':=
 ⟨(h.ac.far hg (Blk.lt h.rd) (h.ac.low (by omega))).trans h.rd,h.ac.app t hown hg⟩
end
theorem AdV{l:List UInt8}{k n:Nat}(h:Dr l=.tok k n):k<=4:=by
 cases l with
 |nil=>simp[Dr]at h
 |cons c l=>
  rw[BG]at h
  repeat' split at h
  all_goals simp at h<;>omega
theorem AiE{l:List UInt8}{c:Nat}(h:Dr l=.err c):c≠0:=by
 cases l with
 |nil=>simp[Dr]at h
 |cons b l=>
  rw[BG]at h
  repeat' split at h
  all_goals simp at h<;>omega
theorem AC.done{w W:World}{v:Value}{ts:List Tk}(h:AC w v ts W)(a b:Value):Aep ((W.setCell ⟨w.heap.size,0,Δ⟩ a).setCell ⟨w.heap.size,1,Δ⟩ b) w.heap.size v ts:=by
 have hg:W.grownBy ((W.setCell ⟨w.heap.size,0,Δ⟩ a).setCell ⟨w.heap.size,1,Δ⟩ b) (V w.heap.size):=Gi (Gi (A1 (Below.refl _ _)) 0 a) 1 b;refine Aht (h.own.kept hg ?_) (by omega);rcases hv:v.ownBlock with _|k
 .exact .inl rfl
 .right
  have:=UY h.own (ω _) k hv;intro e;have:=Option.some.inj e;omega
theorem Mg{w:World}{base e n:Nat}{v:Value}{xs:AI}(h:w.ownsRow base e 4 v n xs):∃ A c,v=.slice A n c:=by
 rcases h.2 with⟨rfl,rfl⟩|⟨g,cap,cur,rfl,_⟩
 .exact⟨_,_,rfl⟩
 .exact⟨_,_,rfl⟩
set_option maxRecDepth 100000 in
set_option maxHeartbeats 8000000 in
theorem Ajc(s:ByteArray)(w:World)(hs:s.size<=9223372036854775807):Calls ε 91 #[.string s] w (Aen (BV s.data.toList) w):=by
 obtain⟨i0,hi0,hz0,hz1,hz2⟩:=info_parts Z8;unfold BV;rw[DR]
 by_cases hbig:16384<s.size
 .rw[Ac hbig]
  have q:(16384:Int)<(s.size:Int):=by omega
  go_enter Tryz.func91,Tryz.ntmps91
  go_wp2_with fail
  have hp:=U0 (1,1) (w.alloc (.cells #[.int .i64 0,.int .i64 0] 25)) ⟨by decide,by decide,by decide,by decide⟩;unfold plc at hp;simp only[MN]at hp;refine hp.mono ?_;clear hp;rintro e w1 ⟨rfl,hb⟩;have hk:=(Blk.new w 25 #[.int .i64 0,.int .i64 0]).call hb;have HB:=ξ (A6 (Bu w _) hb);have HK:=ξ hk;obtain⟨c0,c1⟩:=IN hk;have f0:=hk.frozen 0;have f1:=hk.frozen 1;clear hk hb
  go_wp2
  obtain⟨e0,e1⟩:=IN (NL HK.out (.int .i64 1) (.int .i64 1));exact bodyPost_ret (v:=.tuple #[.slice Δ 0 0,.agg #[.int .i64 1,.int .i64 1],.int .i64 2]) (by simp[results,Tryz.results91,go_sem,e0,e1]) rfl ⟨rfl,DE (DE HB.out (ω _)) (ω _)⟩
 .rw[Ab hbig]
  have q:¬ (16384:Int)<(s.size:Int):=by omega
  have hsz:s.size<=16384:=by omega
  generalize hR:GX s.data.toList (1,1)=R;have HR:=ξ hR;clear hR
  go_enter Tryz.func91,Tryz.ntmps91
  go_wp2_with fail
  have hst:AB w s 0 (1,1) (.slice Δ 0 0) [] ((w.alloc (.cells #[.int .i64 0,.int .i64 0] 25)).alloc (.cells #[.string s,.int .i64 0,.complex .f64 4607182418800017408 4607182418800017408] 216)):=by
   obtain⟨k1,k2,k3⟩:=Qb w 25 216 #[.int .i64 0,.int .i64 0] #[.string s,.int .i64 0,.complex .f64 4607182418800017408 4607182418800017408];refine⟨?_,⟨k1,World.ownsRow_nil _ _ _ _,by simp,k3⟩⟩;unfold Rd plc;rw[show enc (1,1).1=4607182418800017408 from MN];exact k2
  have HST:=ξ hst;clear hst;generalize ((w.alloc (.cells #[.int .i64 0,.int .i64 0] 25)).alloc (.cells #[.string s,.int .i64 0,.complex .f64 4607182418800017408 4607182418800017408] 216))=W0 at *
  go_loopw [6] (λv wr=>∃(i:Nat) (p:Nat × Nat) (ts:List Tk),i<=s.size/\ts.length<=i/\Near p i/\AB w s i p v ts wr/\(AaO s i p).pre ts=R) (λ_ wr=>s.size-Rc (w.heap.size+1) wr)
  case atStart=>exact⟨0,(1,1),[],Axb _,ω _,⟨by decide,by decide,by decide,by decide⟩,HST.out,by rw[LexR.pre_nil];exact HR.out⟩
  case round=>
   obtain⟨i,p,ts,hi,hlen,hp,hab,hres⟩:=hrel;have HRT:=ξ (DL hab.rd);have HAB:=ξ hab;have HP:=ξ hp;have HRES:=ξ hres;obtain⟨A5,c5,rfl⟩:=Mg hab.ac.own;clear hab hp hres
   go_wp2_with fail
   refine(Ail s (w.heap.size+1) i p wr (by omega) hi HP.out HAB.out.rd).mono ?_;rintro e w1 ⟨rfl,hrd,hgr⟩;have HAB1:=ξ (HAB.out.turn hrd hgr);have hk:i+Cd Θ s i<=s.size:=by
    have:=Y0 Θ (s.data.toList.drop i);rw[AwR,DR]at this
    show i+Ei Θ (s.data.toList.drop i)<=s.size
    omega
   have HN1:=ξ (GG s i (Cd Θ s i) p HP.out hk);have HEQ:=ξ (AgE s i p);clear hrd hgr HAB;generalize Cd Θ s i=k at *;generalize Da s i p k=q1 at *;generalize hj:i+k=j at *;have HIJ:=ξ hj;have hij:i<=j:=by omega
   clear hj;obtain⟨c0,c1,c2⟩:=HAB1.out.rd.cells;have l0:w.heap.size+1<w1.heap.size:=BP c0
   go_wp2_with fail
   refine(U0 q1 w1 (HN1.out.small (by omega))).mono ?_;rintro e w2 ⟨rfl,hb2⟩;have HAB2:=ξ (HAB1.out.call hb2);clear hb2 c0 c1 c2 l0 HAB1
   go_wp2_with fail
   have hb3:=Bu w2 (.cells #[.int .i64 q1.1,.int .i64 q1.2] 25);have hk3:=Blk.new w2 25 #[.int .i64 q1.1,.int .i64 q1.2];have HAB3:=ξ (HAB2.out.call hb3);have HK3:=ξ hk3;have hP3:w.heap.size+2<=w2.heap.size:=HAB2.out.ac.lo;clear hb3 hk3 HAB2;generalize (w2.alloc (.cells #[.int .i64 q1.1,.int .i64 q1.2] 25))=w3 at *;generalize w2.heap.size=P at *;refine(AdX s (w.heap.size+1) j q1 w3 (by omega) hk HN1.out HAB3.out.rd).mono ?_;rcases htk:Dr (s.data.toList.drop j) with _|c|⟨kd,n⟩
   .have HTK:=ξ htk
    clear htk;simp only[TV,KB];rintro e w4 ⟨rfl,hgr⟩;have HC4:=ξ (HAB3.out.ac.turn hgr);clear hgr;obtain⟨k4,k5,k6⟩:=Qb w4 164 164 #[.int .i64 5,.string ⟨#[]⟩,.int .i64 q1.1,.int .i64 q1.2] #[.int .i64 5,.string ⟨#[]⟩,.int .i64 q1.1,.int .i64 q1.2];have HK4:=ξ k4;have HK6:=ξ k5;have HB6:=ξ k6;clear k4 k5 k6;have HC6:=ξ (HC4.out.call HB6.out);have HO:=ξ HC6.out.own;have HLT:=ξ HC4.out.own.lt
    go_wp2_with (at_builtin;refine wpList_append_own_at _ rfl _ _ 157 rfl (w.heap.size+2) 164 i0 (.agg #[.int .i64 0,.string ⟨#[]⟩,.int .i64 0,.int .i64 0]) 4 40 Tryz.underlying157 hi0 hz0 hz1 hz2 rfl (by decide) _ _ _ rfl HO.out ⟨w4.heap.size+1,0,Δ⟩ 1 1 [.int .i64 5,.string ⟨#[]⟩,.int .i64 q1.1,.int .i64 q1.2] rfl rfl ?c1 ?c2 ?c3 ?c4 ?c5 ?_)
    case c1=>
     intro m u hu;have:=HK6.out.cell m;rw[Gp,AwJ,this];simpa using hu
    case c2=>intro u hu;simp at hu;rcases hu with rfl|rfl|rfl|rfl<;>rfl
    case c3=>unfold maxLen;omega
    case c4=>omega
    case c5=>exact HC6.out.lo
    intro v' w7 hown7 hgrow _ hloc;have hc7:=HC6.out.app ⟨5,[],q1.1,q1.2⟩ hown7 hgrow;have hk7:Blk w7 w4.heap.size 164 #[.int .i64 5,.string ⟨#[]⟩,.int .i64 q1.1,.int .i64 q1.2]:=(hgrow.block _ HK4.out.lt (λe=>by have:=(HLT.out _ e.symm).2;omega)).trans HK4.out;obtain⟨A7,c7,rfl⟩:=Mg hown7;have t0:=hk7.cell 0;simp only[Axk,Axa]at t0;have HC7:=ξ hc7;obtain⟨q0c,q1c⟩:=IN hc7.q;have qf0:=hc7.q.frozen 0;have qf1:=hc7.q.frozen 1;have hRR:R=.ok (ts++[⟨5,[],q1.1,q1.2⟩]):=by rw[←HRES.out,HEQ.out,HTK.out];rfl
    have HRR:=ξ hRR;clear hc7 hown7 hgrow hloc hk7 hRR
    go_wp2
    obtain⟨e0,e1⟩:=IN (NL HC7.out.q (.int .i64 0) (.int .i64 0));refine bodyPost_ret (v:=.tuple #[.slice A7 (ts.length+1) c7,.agg #[.int .i64 0,.int .i64 0],.int .i64 0]) (by simp[results,Tryz.results91,go_sem,e0,e1]) rfl ?_;rw[HRR.out];exact⟨_,rfl,HC7.out.done _ _,DE (DE HC7.out.below (ω _)) (ω _)⟩
   .have HTK:=ξ htk
    clear htk;simp only[TV,Lk];rintro e w4 ⟨rfl,hgr⟩;have HC4:=ξ (HAB3.out.ac.turn hgr);have hkp:Blk w4 P 25 #[.int .i64 q1.1,.int .i64 q1.2]:=(hgr.block P HK3.out.lt (λe=>by have:=Option.some.inj e;omega)).trans HK3.out;have hb5:=Bu w4 (.cells #[.int .i64 0,.string ⟨#[]⟩,.int .i64 0,.int .i64 0] 164);have HC5:=ξ (HC4.out.call hb5);obtain⟨p0,p1⟩:=IN hkp;obtain⟨q0c,q1c⟩:=IN HC4.out.q;have qf0:=HC4.out.q.frozen 0;have qf1:=HC4.out.q.frozen 1;have l3:P<w4.heap.size:=BP p0;have l4:w.heap.size<w4.heap.size:=BP q0c;have hce:=AiE HTK.out;have hne0:((c:Int) != 0)=U:=by rw[bne_iff_ne];omega
    have hRR:R=.err c q1.1 q1.2:=by rw[←HRES.out,HEQ.out,HTK.out];rfl
    have HRR:=ξ hRR;clear hgr hkp hb5 hRR hce
    go_wp2_with fail
    go_region
    all_goals
     go_wp2
     have hbw:=DE (u:=.int .i64 q1.2) (p:=⟨w.heap.size,1,Δ⟩) (DE (u:=.int .i64 q1.1) (p:=⟨w.heap.size,0,Δ⟩) HC4.out.below (ω _)) (ω _);obtain⟨e0,e1⟩:=IN (NL HC4.out.q (.int .i64 q1.1) (.int .i64 q1.2));clear p0 p1 q0c q1c qf0 qf1 l3 l4;generalize ((w4.setCell ⟨w.heap.size,0,Δ⟩ (.int .i64 q1.1)).setCell ⟨w.heap.size,1,Δ⟩ (.int .i64 q1.2))=W9 at *;have hbo:=LN (Bu W9 (.cells #[.int .i64 0,.string ⟨#[]⟩,.int .i64 0,.int .i64 0] 164));generalize (W9.alloc (.cells #[.int .i64 0,.string ⟨#[]⟩,.int .i64 0,.int .i64 0] 164)).drew=W10 at *;have g0:=(hbo.cell (p:=⟨w.heap.size,0,Δ⟩) (BP e0)).trans e0;have g1:=(hbo.cell (p:=⟨w.heap.size,1,Δ⟩) (BP e0)).trans e1;refine bodyPost_ret (v:=.tuple #[.slice Δ 0 0,.agg #[.int .i64 q1.1,.int .i64 q1.2],.int .i64 c]) (by simp[results,Tryz.results91,go_sem,g0,g1]) rfl ?_;rw[HRR.out];exact⟨rfl,A6 hbw hbo⟩
   .have HTK:=ξ htk
    clear htk;simp only[TV,KB];rintro e w4 ⟨t,rfl,htl,hrd,hgr⟩;have HAB4:=ξ (HAB3.out.turn hrd hgr);have HC4:=ξ HAB4.out.ac;have HTL:=ξ htl;clear hgr hrd htl;obtain⟨k4,k5,k6⟩:=Qb w4 164 164 #[.int .i64 kd,.string t,.int .i64 q1.1,.int .i64 q1.2] #[.int .i64 kd,.string t,.int .i64 q1.1,.int .i64 q1.2];have HK4:=ξ k4;have HK6:=ξ k5;have HB6:=ξ k6;clear k4 k5 k6;have HAB6:=ξ (HAB4.out.call HB6.out);have HC6:=ξ HAB6.out.ac;have HO:=ξ HC6.out.own;have HLT:=ξ HC4.out.own.lt;have hkd:=AdV HTK.out;have hkd5:((kd:Int) == 5)=Θ:=by rw[beq_eq_false_iff_ne];omega
    have hn:=EX HTK.out;rw[AwR,DR]at hn;clear hkd
    go_wp2_with (at_builtin;refine wpList_append_own_at _ rfl _ _ 157 rfl (w.heap.size+2) 164 i0 (.agg #[.int .i64 0,.string ⟨#[]⟩,.int .i64 0,.int .i64 0]) 4 40 Tryz.underlying157 hi0 hz0 hz1 hz2 rfl (by decide) _ _ _ rfl HO.out ⟨w4.heap.size+1,0,Δ⟩ 1 1 [.int .i64 kd,.string t,.int .i64 q1.1,.int .i64 q1.2] rfl rfl ?c1 ?c2 ?c3 ?c4 ?c5 ?_)
    case c1=>
     intro m u hu;have:=HK6.out.cell m;rw[Gp,AwJ,this];simpa using hu
    case c2=>intro u hu;simp at hu;rcases hu with rfl|rfl|rfl|rfl<;>rfl
    case c3=>unfold maxLen;omega
    case c4=>omega
    case c5=>exact HC6.out.lo
    intro v' w7 hown7 hgrow _ hloc;have hab7:=HAB6.out.app ⟨kd,t.data.toList,q1.1,q1.2⟩ hown7 hgrow;have hk7:Blk w7 w4.heap.size 164 #[.int .i64 kd,.string t,.int .i64 q1.1,.int .i64 q1.2]:=(hgrow.block _ HK4.out.lt (λe=>by have:=(HLT.out _ e.symm).2;omega)).trans HK4.out;obtain⟨A7,c7,rfl⟩:=Mg hown7;have t0:=hk7.cell 0;simp only[Axk,Axa]at t0;have HAB7:=ξ hab7;clear hab7 hown7 hgrow hloc hk7
    go_wp2_with fail
    go_roundw
    case rel=>
     refine⟨j+n,Da s j q1 n,ts++[⟨kd,t.data.toList,q1.1,q1.2⟩],by omega,by simp;omega,GG s j n q1 HN1.out (by omega),by simpa using HAB7.out,?_⟩;rw[←HRES.out,HEQ.out,HTK.out,HTL.out,←LexR.pre_more]
    case measure=>
     rw[HRT.out,DL HAB7.out.rd];omega
theorem Avj:CE (D0 ε 91) (DP Mm):=AjH 164 λs w hs=>(Ajc s w hs).mono λe w' h=>by
 unfold Aen at h;unfold TS;exact h
theorem AfO:CE (D0 ε 109) (DP DY):=AfD λs w hs=>Ag8 s w hs
theorem Uw:CE (D0 ε 108) (DP CM):=YQ λs w hs=>Mf s w hs
theorem AfP:CE (D0 ε 22) (DP Ex):=VY AfO Uw
theorem AgF:LexN RR where
 name s hs:=Als (by unfold DP DY;simp only[sv,hs,if_true];rfl)
 num s hs:=Aee (by unfold DP CM;simp only[sv,hs,if_true];rfl)
theorem AeO:CloneF RR where
 nat l h:=Aec (Acj h)
theorem Abp:PartF RR where
 clone l h:=Aed (Yu h)
 grow n h:=AiR (AcA h)
theorem Atd:ZF RR:=Ate ArQ ArW AeO
theorem FP:SeatOk ε BM Fo:=AdH ⟨AfO,Uw,Ack,Yw,AcC,trivial⟩
theorem Aqd:ResF DRv where
 form vars t hv hz:=Alr (Ai6 Anl ArT (As4 Anj) Atd Abp Ani ArO Anh Ank AgF vars hv t hz)
 same x y cx cy fx fy:=Alt (AfL Anl (As4 Anj) Atd Abp Ani ArP (by omega) (by omega) _ x y (Nat.lt_succ_self _) fx fy cx cy)
 index xs s h:=AiS (SO Anh xs h s)
 procs y h:=AiU (Zv ArR y h)
 right t hz hp:=AiV (KV ArU Ank AgF t hz hp)
theorem XC:SeatOk ε BM Mp:=AdI ⟨(Fp FP _),(Fp FP _),(Fp FP _),(Fp FP _),(Fp FP _),trivial⟩
theorem Avl(f:Nat):CE (D0 ε f) ((BJ Ak Mp).ask (.fn f)):=Fp XC f
theorem AhE{y:Sy}(B:SyB y)(t:Tr)(hz:WzT t)(hp:WzP t)(hn:I1 t<=1000000):(BJ Ak Mp).ask (.fn 34) [.agg (BR t),.agg (IF y)] []=V (Xy (Rm y t),[]):=Ye ArV Aqd B t hz hp hn
set_option linter.unusedSectionVars false
mutual
def D.av:D->Ad
 |.int k n=>[.v (.int k n)]
 |.bool b=>[.v (.bool b)]
 |.str s=>[.v (.string s)]
 |.slice _ xs=>[.ls (Gr xs)]
 |.agg xs=>MD xs
def Gr:List D->Rw
 |[]=>[]
 |x::r=>x.av::Gr r
def MD:List D->Ad
 |[]=>[]
 |x::r=>x.av++MD r
end
theorem LL:∀ xs:List D,(Gr xs).length=xs.length
 |[]=>rfl
 |x::r=>by rw[Gr,π,LL r,π]
theorem LM:∀ xs:List D,Gr xs=xs.map D.av
 |[]=>rfl
 |x::r=>by rw[Gr,LM r];rfl
theorem Th:∀(a b:Ad),A4 a=U->A4 b=U->A4 (a++b)=U
 |[],_,_,hb=>hb
 |x::a,b,ha,hb=>by
  rw[AwI];rw[A4,Bool.and_eq_true]at ha ⊢;exact⟨ha.1,Th a b ha.2 hb⟩
mutual
theorem Aaj:∀ x:D,A4 x.av=U
 |.int _ _=>rfl
 |.bool _=>rfl
 |.str _=>rfl
 |.slice _ _=>rfl
 |.agg xs=>by rw[D.av];exact P7 xs
theorem P7:∀ xs:List D,A4 (MD xs)=U
 |[]=>rfl
 |x::r=>by rw[MD];exact Th _ _ (Aaj x) (P7 r)
end
theorem Ox:∀ xs:List D,J1 (Gr xs)=U
 |[]=>rfl
 |x::r=>by
  rw[Gr];have ih:=Ox r;unfold J1 at ih ⊢;rw[Axn,Aaj x,ih];rfl
section
variable {μ:Mu} {F:AP} {w:World}
theorem OX:∀(a b:Ad) (us ts:AI),RepList μ F w a us->RepList μ F w b ts->RepList μ F w (a++b) (us++ts)
 |[],b,us,ts,ha,hb=>by
  grind [RepList]
 |x::a,b,us,ts,ha,hb=>by
  rw[RepList]at ha;obtain⟨u,t,rfl,h1,h2⟩:=ha;rw[AwI,AwI,RepList];exact⟨u,t++ts,rfl,h1,OX a b t ts h2 hb⟩
theorem Hg{x:AV}{u:Value}(h:Rep μ F w x u):RepList μ F w [x] [u]:=by
 rw[RepList];exact⟨u,[],rfl,h,by rw[RepList]⟩
theorem Xv{g:Nat}(hF:∀ o,F g o):∀(a:Ad) (us:AI) (o:Nat),RepList μ F w a us->(∀ j u,us[j]? = V u->w.cell? ⟨g,o+j,Δ⟩=V u)->RepAt μ F w g a o
 |[],us,o,_,_=>by rw[RepAt];trivial
 |x::a,us,o,h,hc=>by
  rw[RepList]at h;obtain⟨u,t,rfl,h1,h2⟩:=h;rw[RepAt];refine⟨⟨hF o,u,hc 0 u rfl,h1⟩,Xv hF a t (o+1) h2 λj v hj=>?_⟩;have:=hc (j+1) v hj
  rwa [show o+(j+1)=o+1+j by omega]at this
theorem OW:∀(a:Ad) (us:AI),RepList μ F w a us->a.length=us.length
 |[],us,h=>by rw[RepList]at h;rw[h];rfl
 |x::a,us,h=>by
  rw[RepList]at h;obtain⟨u,t,rfl,h1,h2⟩:=h;rw[π,π,OW a t h2]
variable {S:Nat->Prop} (hS:∀ g,S g->∀ o,F g o)
include hS
mutual
theorem Zc:∀(x:D) (cs:AI),D.Is w S x cs->RepList μ F w x.av cs
 |.int k n,cs,h=>by
  rw[D.Is]at h;subst h;exact Hg (by rw[Rep];exact⟨rfl,rfl⟩)
 |.bool b,cs,h=>by
  rw[D.Is]at h;subst h;exact Hg (by rw[Rep];exact⟨rfl,rfl⟩)
 |.str s,cs,h=>by
  rw[D.Is]at h;obtain⟨rfl,hs⟩:=h;exact Hg (by rw[Rep];exact⟨rfl,rfl⟩)
 |.slice e xs,cs,h=>by
  rw[D.Is]at h;obtain⟨A,c,rfl,h1,h2,h3⟩:=h;rw[D.av];refine Hg ?_;rw[Rep];refine⟨Ox xs,A,c,by rw[LL],by rw[LL];exact h1,h2,λhne=>?_⟩;obtain⟨b,o,hA,hb,hr⟩:=h3 (by rintro rfl;exact hne rfl);exact⟨b,o,e,hA,AbD b hb xs o hr⟩
 |.agg xs,cs,h=>by
  rw[D.Is]at h;rw[D.av];exact Aao xs cs h
theorem AbD{e:Nat}(b:Nat)(hb:S b):∀(xs:List D) (o:Nat),D.Row w S e b xs o->RepRows μ F w b e (Gr xs) o
 |[],o,_=>by rw[Gr,RepRows];trivial
 |x::r,o,h=>by
  rw[D.Row]at h;obtain⟨⟨cs,h1,h2,h3⟩,h4⟩:=h;have g:=Zc x cs h3;rw[Gr,RepRows];exact⟨by rw[OW _ _ g,h1],Xv (hS b hb) _ _ _ g h2,AbD b hb r (o+e) h4⟩
theorem Aao:∀(xs:List D) (cs:AI),D.Cat w S xs cs->RepList μ F w (MD xs) cs
 |[],cs,h=>by
  rw[D.Cat]at h;subst h;rw[MD,RepList]
 |x::r,cs,h=>by
  rw[D.Cat]at h;obtain⟨c1,c2,rfl,h1,h2⟩:=h;rw[MD];exact OX _ _ _ _ (Zc x c1 h1) (Aao r c2 h2)
end
end
open Go.ChangeShapes Go.WideShapes Go.ChangeAt

theorem Iu{t e:TypeId}(he:Tryz.prog.underlying t=V (.slice e)){y:D}(h:D.Typed ε y t):∃ xs:Rw,y.av=[.ls xs]:=by
 obtain⟨xs,rfl,_⟩:=h.slice_ he;exact⟨_,rfl⟩
theorem AbG{y:D}(h:D.Typed ε y 47):∃ ss:List ByteArray,y.av=[.ls (ss.map eS)]:=by
 obtain⟨xs,rfl,hx⟩:=h.slice_ Tryz.underlying47;have:∀ xs:List D,(∀ y∈xs,D.Typed ε y 9)->∃ ss:List ByteArray,xs.map D.av=ss.map eS:=λxs=>by
  induction xs with
  |nil=>intro _;exact⟨[],rfl⟩
  |cons x r ih=>
   intro hh;obtain⟨ms,e1⟩:=ih λy hy=>hh y (AwU _ hy)
   obtain⟨s,rfl⟩:=(hh x (AwS ..)).str_ Tryz.underlying9;exact⟨s::ms,by rw[AwP,AwP,e1];rfl⟩
 obtain⟨ss,e1⟩:=this xs hx;exact⟨ss,by rw[D.av,LM,e1]⟩
theorem AsS{y:D}(h:D.Typed ε y 90):∃ p:Pr,y.av=Uq p:=by
 obtain⟨xs,rfl,g0⟩:=h.struct_ Tryz.underlying90;obtain⟨x0,r0,rfl,h0,g1⟩:=D.TypedFields.cons_ g0;obtain⟨x1,r1,rfl,h1,g2⟩:=D.TypedFields.cons_ g1;obtain⟨x2,r2,rfl,h2,g3⟩:=D.TypedFields.cons_ g2;obtain rfl:=D.TypedFields.nil_ g3;obtain⟨s,rfl⟩:=h0.str_ Tryz.underlying9;obtain⟨l,e1⟩:=AbG h1;obtain⟨c,e2⟩:=Iu Tryz.underlying88 h2;exact⟨⟨s,l,c⟩,by simp only[D.av,MD,e1,e2];rfl⟩
theorem Ap5{y:D}(h:D.Typed ε y 68):∃ ps:List Pr,y.av=[.ls (ps.map Uq)]:=by
 obtain⟨xs,rfl,hx⟩:=h.slice_ Tryz.underlying68;have:∀ xs:List D,(∀ y∈xs,D.Typed ε y 90)->∃ ss:List Pr,xs.map D.av=ss.map Uq:=λxs=>by
  induction xs with
  |nil=>intro _;exact⟨[],rfl⟩
  |cons x r ih=>
   intro hh;obtain⟨ms,e1⟩:=ih λy hy=>hh y (AwU _ hy)
   obtain⟨s,e2⟩:=AsS (hh x (AwS ..));exact⟨s::ms,by rw[AwP,AwP,e1,e2]⟩
 obtain⟨ss,e1⟩:=this xs hx;exact⟨ss,by rw[D.av,LM,e1]⟩
theorem As7{y:D}(h:D.Typed ε y 71):∃ s:Sy,y.av=IF s:=by
 obtain⟨xs,rfl,g0⟩:=h.struct_ Tryz.underlying71;obtain⟨x0,r0,rfl,h0,g1⟩:=D.TypedFields.cons_ g0;obtain⟨x1,r1,rfl,h1,g2⟩:=D.TypedFields.cons_ g1;obtain⟨x2,r2,rfl,h2,g3⟩:=D.TypedFields.cons_ g2;obtain⟨x3,r3,rfl,h3,g4⟩:=D.TypedFields.cons_ g3;obtain⟨x4,r4,rfl,h4,g5⟩:=D.TypedFields.cons_ g4;obtain rfl:=D.TypedFields.nil_ g5;obtain⟨vs,e0⟩:=AbG h0;obtain⟨bs,e1⟩:=Iu Tryz.underlying67 h1;obtain⟨ps,e3⟩:=Ap5 h3;obtain⟨ac,e4⟩:=Iu Tryz.underlying69 h4;obtain⟨ys,rfl,i0⟩:=h2.struct_ Tryz.underlying61;obtain⟨y0,q0,rfl,j0,i1⟩:=D.TypedFields.cons_ i0;obtain⟨y1,q1,rfl,j1,i2⟩:=D.TypedFields.cons_ i1;obtain⟨y2,q2,rfl,j2,i3⟩:=D.TypedFields.cons_ i2;obtain rfl:=D.TypedFields.nil_ i3;obtain⟨k,rfl,_⟩:=j0.int_ Tryz.underlying3;obtain⟨ks,f2⟩:=Iu Tryz.underlying59 j2;obtain⟨zs,rfl,l0⟩:=j1.struct_ Tryz.underlying58;obtain⟨z0,s0,rfl,m0,l1⟩:=D.TypedFields.cons_ l0;obtain⟨z1,s1,rfl,m1,l2⟩:=D.TypedFields.cons_ l1;obtain rfl:=D.TypedFields.nil_ l2;obtain⟨eq,rfl⟩:=m1.bool_ Tryz.underlying4;obtain⟨us,rfl,n0⟩:=m0.struct_ Tryz.underlying56;obtain⟨u0,v0,rfl,o0,n1⟩:=D.TypedFields.cons_ n0;obtain⟨u1,v1,rfl,o1,n2⟩:=D.TypedFields.cons_ n1;obtain rfl:=D.TypedFields.nil_ n2;obtain⟨pt,f3⟩:=Iu Tryz.underlying50 o0;obtain⟨ws,rfl,p0⟩:=o1.struct_ Tryz.underlying54;obtain⟨w0,w1',rfl,a0,p1⟩:=D.TypedFields.cons_ p0;obtain⟨w1,w2',rfl,a1,p2⟩:=D.TypedFields.cons_ p1;obtain rfl:=D.TypedFields.nil_ p2;obtain⟨ng,rfl⟩:=a0.bool_ Tryz.underlying4;obtain⟨ab,f4⟩:=Iu Tryz.underlying52 a1;exact⟨⟨vs,bs,k,pt,ng,ab,eq,ks,ps,ac⟩,by simp only[D.av,MD,e0,e1,e3,e4,f2,f3,f4];rfl⟩
theorem Xa:NameF Ed where
 name s hs:=X6 (by
  unfold DP DY;have h1:(Ai s).size<=9223372036854775807:=by show s.toArray.size<=_;simp;omega
  have h2:(Ai s).data.toList=s:=by simp[Ai]
  simp only[sv,h1,if_true,h2];rfl)
theorem UH:LexN Ed where
 name s hs:=X6 (by unfold DP DY;simp only[sv,hs,if_true];rfl)
 num s hs:=Aab (by unfold DP CM;simp only[sv,hs,if_true];rfl)
theorem AaM:LexA Ed where
 ok s ts hs h:=AbY (by unfold DP Mm;simp only[sv,hs,if_true,h];rfl)
 err s c ln co hs h:=AbY (by unfold DP Mm;simp only[sv,hs,if_true,h];rfl)
theorem Ak6:SumG Ed where
 sum ms h1 h2:=X8 (by unfold DP;rw[R7 ms (Tj.2 ⟨h1,h2⟩)];rfl)
theorem AbI:SumF Ed:=Ak6.f
theorem Va:SeatOk ε BM U9:=ZW ⟨Avj,AfO,Uw,AfP,(Avl _),trivial⟩
theorem ApW(y:Sy)(t:Tr)(hz:WzT t)(hp:WzP t)(hn:I1 t<=1000000)(B:SyB y):Ed.ask (.fn 34) [.agg (BR t),.agg (IF y)] []=V (Xy (Rm y t),[]):=X7 (AhE B t hz hp hn)
theorem Ahz:Cb q4=s41:=by kernel_rfl
theorem AoV:Al4F Ed where
 res:=by
  rw[ApW Je q4 AhB AhA (by decide) Aix];exact Ach Ao1
 no:=by
  rw[ApW Je Xt AhD AhC (by decide) Aix];exact AeM AqR
 text:=by
  have g:=Vy Agn Zf Agq Ze UH Zd AbI q4 AhB AhA Xs (by rw[Ahz];decide)
  rwa [Ahz]at g
theorem Aeu:Ed.ask (.fn 30) [] []=V (bv U,[]):=Ab4 Zd Agm Ago Agp Agr Xa AaM Zf Ze UH AaH AoV
theorem As0:RF Ed:=As1 ApK ApN
theorem Ah9:SameF Ed:=Aia ApP ApM ApJ ApL As0
theorem UN(s:ByteArray)(hs:s.size<=9223372036854775807)(y:Sy)(v:Value)(w:World)(r:Rep (λ_=>Δ) (λg _=>g<w.heap.size) w (.agg (IF y)) v):Calls ε 11 #[.string s,v] w λe w'=>e=.returned (.bool U)/\Below w.heap.size w w':=by
 have g:=NR Va (Ac6 Zd Agm Ago Agp Agr Xa AaM Zf Ze UH Agq AbI Agn ApO AaH AjX Aeu Ah9 y (λt a b c B=>ApW y t a b c B) s hs) w [.string s,v] (by
  simp only[RepList];exact⟨_,_,rfl,Rg _,_,_,rfl,r,rfl⟩)
 refine Calls.mono g ?_;rintro e w' ⟨u,rfl,hb,μ',F',hr⟩;unfold bv Rep at hr;rw[hr.1];exact⟨rfl,hb⟩
set_option maxRecDepth 100000 in
theorem Pk(os:Go.Os)(started:os.Started)(H:Type)(enc:TypeId × Value->H) :
  ReturnsInHanded {} Tryz.checked os 11 .any (Rows.ltlTwiceSpec.pre6 enc ε Tryz.f11 [] Θ) (Rows.ltlTwiceSpec.post enc ε Tryz.f11 Θ U Θ Θ):=by
 refine Aj1 (C:=Tryz.checked) 2 [4,9,3,47,230,52,54,302,67,154,50,56,58,61,59,115,23,33,31,312,306,308,88,90,68,310,303,305,69,71] 4 Ahu started (by kernel_rfl) Tryz.func11
  (ChangeSpec.witness6 (enc:=enc) (C:=Tryz.checked) Θ ⟨#[],#[.string ⟨#[]⟩,.agg #[.slice Δ 0 0,.slice Δ 0 0,.int .i64 0,.slice Δ 0 0,.bool Θ,.slice Δ 0 0,.bool Θ,.slice Δ 0 0,.slice Δ 0 0,.slice Δ 0 0]],[]⟩ 8 (by kernel_rfl) (by kernel_rfl) (by kernel_rfl) (by kernel_rfl))
  (by kernel_rfl) rfl (by kernel_rfl) Agt rfl Tryz.underlying4 rfl (λds h=>?_) (λW args xs h=>?_)
 .match ds,h with
  |[d1,d2],_=>rfl
 .have h':LI W ε [9,71] args.toList xs:=h
  obtain⟨args⟩:=args;obtain⟨v1,a1,x1,y1,r1,rfl,⟨cs1,e1,h1,t1,z1⟩,h'⟩:=Ow h';obtain⟨v2,a2,x2,y2,rfl,rfl,⟨cs2,e2,h2,t2,z2⟩,h'⟩:=Ow h';obtain rfl:=Yi h';have r1:args=[v1,v2]:=r1;subst r1;obtain⟨s1,q1,i1⟩:=AjI h1 t1;rw[q1]at e1;subst e1;obtain⟨y,k1⟩:=As7 t2;have i2:=Zc (μ:=λ_=>Δ) (F:=λg _=>g<W.heap.size) (λg hg _=>hg) x2 cs2 h2;rw[k1]at i2;obtain⟨zs,rfl,_⟩:=t2.struct_ Tryz.underlying71;have e2:v2=.agg cs2.toArray:=e2;subst e2;exact UN s1 (by omega) y _ W (by rw[Rep];exact⟨cs2.toArray,rfl,i2⟩)
set_option maxRecDepth 1000000 in
set_option maxHeartbeats 4000000 in
theorem Pj:joinedFacts Tryz.pinned.checked.prog 11 Tryz.f11 Rows.ltlTwiceSpec Rows.ltlTwiceRow=U:=by
 unfold joinedFacts
 repeat' (with_reducible refine Bool.and_eq_true_iff.2 ⟨?_,?_⟩)
 all_goals (as_aux_lemma=>kernel_rfl)
theorem ltlTwice_holds:Rows.LtlTwiceSaid:=
 OpenClaim.holds_of_wide 11 Tryz.f11 rfl rfl rfl rfl rfl rfl rfl ⟨rfl,rfl,rfl,rfl,rfl⟩ rfl rfl rfl rfl rfl (by kernel_rfl) Tryz.func11 Pj
  (of_decide_eq_true (by kernel_rfl)) (by unfold Func.isWrapper;first | (rw[Ac (by decide +kernel)];kernel_rfl) | (rw[Ab (by decide +kernel)];exact⟨rfl,rfl⟩))
  (λos started H enc _=>Pk os started H enc)
