/- Layer 10: a sign is take -/
import Derived.Test.YtlmhajfbpplpoaaGreatOBW
import Derived.Laws.RangeAny
import Derived.Deep.RegionHeld3
import Derived.Laws.IdiomStrings
import Derived.Test.YtlmhajfbpplpoaaGreatOAB
set_option linter.all false
open Bool renaming and_eq_false_iff->Ase,eq_false_iff->ArR
open List renaming all_eq_true->Apy,drop_drop->Ars,getD_eq_getElem?_getD->ApH,getElem?_cons_succ->ApV,getElem?_cons_zero->Ap8,getElem?_eq_getElem->Φ,getElem?_toArray->Aqq,getElem_mem->ApG,getElem_of_mem->AqK,isPrefixOf_iff_prefix->ArO,length_drop->Aq0,take_of_length_le->AqB
open Nat renaming add_assoc->ApF,le_refl->ω,le_trans->Aqm,lt_succ_iff_lt_or_eq->Arr,zero_add->ApN,zero_le->Aqk
namespace Go.Proofs.YtlmhajfbpplpoaaGreat
open Lib renaming hid->δ,toList_data->Arn
open Tryz renaming prog->φ
open Go.RowKit
def sgB(k:Nat):ByteArray:=⟨(JE.getD k []).toArray⟩
theorem Tw(k:Nat):(sgB k).data.toList=JE.getD k []:=by simp[sgB]
set_option maxRecDepth 100000 in
theorem YF(w:World):Calls φ 246 #[] w λe w'=>∃ b,e=.returned (.slice (some ⟨b,0,none⟩) 23 23)/\b<w'.heap.size/\(∀ k,k<23->w'.cell? ⟨b,k,none⟩=some (.string (sgB k)))/\Below w.heap.size w w':=by
 go_enter Tryz.func246,Tryz.ntmps246
 go_wp2
 go_ret
 refine⟨w.heap.size,rfl,by simp,λk hk=>?_,Bi w _⟩;rw[(Blk.new w _ _).cell]
 iterate 23 (rcases k with _|k;· rfl)
 omega
def Qv(l:List UInt8)(k:Nat):Prop:=∀ j,j<k->(JE.getD j []).isPrefixOf l=false
theorem Va{l:List UInt8}(h:Qv l 23):C4 l=0:=by
 unfold C4;have:JE.find? (·.isPrefixOf l)=none:=by
  rw[List.find?_eq_none];intro x hx;obtain⟨j,hj,rfl⟩:=AqK hx;have h2:=h j hj;rw[ApH,Φ hj]at h2;have h3:JE[j].isPrefixOf l=false:=h2;rw[h3]
  decide
 rw[this]
theorem Acr{l:List UInt8}{k:Nat}(h:Qv l k)(hk:k<23)(hp:(JE.getD k []).isPrefixOf l=true):C4 l=(JE.getD k []).length:=by
 unfold C4;have:JE.find? (·.isPrefixOf l)=some (JE.getD k []):=by
  have hk':k<JE.length:=hk;rw[List.find?_eq_some_iff_getElem];refine⟨hp,k,hk',by rw[ApH,Φ hk'];rfl,λj hj=>?_⟩;have h2:=h j hj;rw[ApH,Φ (by omega)]at h2;have h3:JE[j].isPrefixOf l=false:=h2;rw[h3];rfl
 rw[this]
theorem Afn(s:ByteArray)(i:Nat):(s.extract i s.size).data.toList=s.data.toList.drop i:=by
 rw[ByteArray.data_extract,Array.toList_extract,List.extract_eq_take_drop];exact AqB (by rw[Aq0,Array.length_toList];exact ω _)
theorem Vj{s:ByteArray}{i:Nat}{x:List UInt8}(h:x.isPrefixOf (s.data.toList.drop i)=true):x=cut s i x.length:=by
 unfold cut;exact List.prefix_iff_eq_take.1 (ArO.1 h)
set_option maxRecDepth 100000 in
set_option maxHeartbeats 4000000 in
theorem Acq(s:ByteArray)(g i:Nat)(p:Nat × Nat)(w:World)(hs:s.size<=20000)(hi:i<=s.size)(hp:Near p i)(hr:Rd w g s i p) :
  Calls φ 218 #[.pointer (some ⟨g,0,none⟩)] w λe w'=>∃ t:ByteArray,e=.returned (.string t)/\t.data.toList=cut s i (C4 (s.data.toList.drop i)) ∧
   Rd w' g s (i+C4 (s.data.toList.drop i)) (Cs s i p (C4 (s.data.toList.drop i)))/\w.grownBy w' (some g):=by
 have HR:=δ hr;have HP:=δ hp;clear hr hp
 go_enter Tryz.func218,Tryz.ntmps218
 go_wp2_with fail
 refine(YF w).mono ?_;rintro e w0 ⟨b,rfl,hbl,hcells,hb0⟩;have HC:=δ hcells;have HB0:=δ hb0;have HR0:=δ (show Rd w0 g s i p from Blk.call HR.out hb0);clear hcells hb0
 go_wp2_with fail
 go_loopw [7] (λq wr=>∃ k:Nat,k<=23/\q=.int .i64 k/\Qv (s.data.toList.drop i) k/\Below w0.heap.size w0 wr) (λq _=>23-(intOf q).toNat)
 case atStart=>exact⟨0,Aqk _,rfl,λj hj=>absurd hj (by omega),Below.refl _ _⟩
 case round=>
  obtain⟨k,hk,rfl,hno,hb⟩:=hrel;have HNO:=δ hno;clear hno
  by_cases hlt:k<23
  .have hc:=(hb.cell (p:=⟨b,k,none⟩) hbl).trans (HC.out k hlt)
   have hrd:Rd wr g s i p:=Blk.call HR0.out hb;obtain⟨c0,c1,_⟩:=hrd.cells;have HB:=δ hb;have HRD:=δ hrd;have l0:g<wr.heap.size:=Bu c0;have l1:b<wr.heap.size:=Bu hc;have q0:(0:Int)<=(k:Int):=by omega
   have q1:(k:Int)<23:=by omega
   have q2:(0:Int)<=(i:Int):=by omega
   have q3:(i:Int)<=(s.size:Int):=by omega
   generalize hx:sgB k=x at *;have HX:=δ hx;clear hx hb hrd;have hpv:∃ v,Lib.hasPrefix (s.extract i s.size).data.toList x.data.toList=v:=⟨_,rfl⟩;obtain⟨v,hv⟩:=hpv;have HV:=δ hv;clear hv
   go_wp2_with fail
   refine AO (by kernel_rfl) (by kernel_rfl) ?_
   repeat (go_big_quiet_step ((exact UX ((Tryz.strings_HasPrefix _ _ _).mono λe w' h=>⟨h.1.trans (by rw[HV.out]),h.2.symm⟩))))
   refine wpQuiet_nil ?_;rintro _ ⟨y,rfl⟩;have hby:=A2 wr y;generalize later wr y=w1 at *;have HB1:=δ (AY HB.out hby);have HRD1:=δ (show Rd w1 g s i p from Blk.call HRD.out hby);have HPV:=δ (show (JE.getD k []).isPrefixOf (s.data.toList.drop i)=v by rw[←Afn s i,←Tw k,HX.out];exact HV.out);have HXL:=δ (show x.data.toList=JE.getD k [] by rw[←HX.out];exact Tw k);clear hby hc c0 c1 l0 l1
   cases v with
   |true=>
    have HLEN:=δ (Acr HNO.out hlt HPV.out);have HCUT:=δ (Vj HPV.out);have hxs:x.size=(JE.getD k []).length:=by rw[←HXL.out];simp
    have hle:i+x.size<=s.size:=by
     have h1:=(ArO.1 HPV.out).length_le;have e:(s.data.toList.drop i).length=s.size-i:=by simp
     rw[hxs];omega
    have HXS:=δ hxs;clear hxs
    go_wp2_with fail
    go_loopw [24] (λq wr=>∃ m:Nat,m<=x.size/\q=.int .i64 m/\Rd wr g s (i+m) (Cs s i p m)/\w1.grownBy wr (some g)) (λq _=>x.size-(intOf q).toNat)
    case atStart=>exact⟨0,Aqk _,rfl,by simpa[Cs,adv]using HRD1.out,AR (Below.refl _ _)⟩
    case round=>
     obtain⟨m,hm,rfl,hrd,hgr⟩:=hrel;have HRM:=δ hrd;have HGR:=δ hgr;clear hrd hgr
     by_cases hlt2:m<x.size
     .go_wp2_with fail
      refine(Ep s g _ _ wr (by omega) (by omega) ((E4 s i m p HP.out (by omega)).small (by omega)) HRM.out).mono ?_;rintro e2 w2 ⟨rfl,hrd2,hg2⟩;have HRD2:=δ hrd2;have HG2:=δ hg2;clear hrd2 hg2
      go_wp2_with fail
      go_roundw
      case rel=>
       refine⟨m+1,hlt2,by go_num,?_,Ba HGR.out HG2.out⟩;have h1:=HRD2.out;rw[Dr s i m p (by omega),ApF]at h1;exact h1
      case measure=>simp[intOf];omega
     .obtain rfl:m=x.size:=by omega
      go_wp2
      go_ret
      refine⟨_,rfl,?_,?_,Ba (AR (AY HB0.out HB1.out)) HGR.out⟩
      .rw[HLEN.out,HXL.out]
       exact HCUT.out
      .rw[HLEN.out,←HXS.out]
       exact HRM.out
   |false=>
    have HNO2:=δ (show Qv (s.data.toList.drop i) (k+1) from λj hj=>(Arr.1 hj).elim (HNO.out j) λe=>by subst e;exact HPV.out)
    go_wp2_with fail
    go_roundw
    case rel=>exact⟨k+1,hlt,by go_num,HNO2.out,HB1.out⟩
    case measure=>simp[intOf];omega
  .obtain rfl:k=23:=by omega
   have HZ:=δ (Va HNO.out)
   go_wp2
   go_ret
   refine⟨_,rfl,by rw[HZ.out];rfl,?_,AR (AY HB0.out hb)⟩;rw[HZ.out];have h1:=Blk.call HR0.out hb;exact h1
theorem CU(s:ByteArray):s.data.toList.length=s.size:=by simp
theorem Nv{s:ByteArray}(h:s.size=0):s=⟨#[]⟩:=by
 cases s with
 |mk d=>
  have:d.size=0:=h;rw[Array.eq_empty_of_size_eq_zero this]
theorem AiJ(s:ByteArray):s.data.toList.all B0=true ↔ ∀ k,k<s.size->B0 (Ce s k)=true:=by
 rw[Apy];constructor
 .intro h k hk
  unfold Ce;rw[ApH,Φ (by rw[CU];exact hk)];exact h _ (ApG _)
 .intro h x hx
  obtain⟨k,hk,rfl⟩:=AqK hx;have h2:=h k (by rwa [CU]at hk);unfold Ce at h2
  rwa [ApH,Φ hk]at h2
set_option maxRecDepth 100000 in
set_option maxHeartbeats 4000000 in
theorem Jw(s:ByteArray)(w:World)(hs:s.size<=9223372036854775807):Calls φ 108 #[.string s] w λe w'=>e=.returned (.bool (Et s.data.toList))/\Below w.heap.size w w':=by
 by_cases h0:s.size=0
 .obtain rfl:=Nv h0
  go_enter Tryz.func108,Tryz.ntmps108
  go_wp2
  go_ret
  exact⟨rfl,Below.refl _ _⟩
 have hne:¬ s.toList=[]:=by rw[Arn];intro h;have:=CU s;rw[h]at this;simp at this;omega
 have hni:s.toList.isEmpty=false:=by simpa using hne
 have hpos:0<s.size:=by omega
 have hmt:s.data.toList.isEmpty=false:=by rw[←Arn];exact hni
 by_cases h60:60<s.size
 .have HF := δ (show Et s.data.toList = false by         unfold Et;rw[CU];have:decide (s.size<=60)=false:=by simpa using h60
                                                         rw[this];simp)
  have q:(60:Int)<(s.size:Int):=by omega
  clear hmt
  go_enter Tryz.func108,Tryz.ntmps108
  go_wp2
  go_ret
  exact⟨BS HF.out.symm,Below.refl _ _⟩
 have q60:¬ (60:Int)<(s.size:Int):=by omega
 have hv:=KQ s 0 hpos;have h60':decide (s.size<=60)=true:=by simpa using h60
 have hd:s.data.toList.getD 0 0=Ce s 0:=rfl
 by_cases hz:1<s.size/\(Ce s 0).toNat=48
 .have HF:=δ (show Et s.data.toList=false by
   unfold Et;rw[CU,hd,hz.2];have:decide (1<s.size)=true:=by simpa using hz.1
   rw[this];simp)
  have q1:(1:Int)<(s.size:Int):=by omega
  have q2:((s[0].toNat:Int) == 48)=true:=by rw[hv,hz.2];rfl
  clear hz hv hd h60' hmt
  go_enter Tryz.func108,Tryz.ntmps108
  go_wp2
  go_ret
  exact⟨BS HF.out.symm,Below.refl _ _⟩
 .have HF:=δ (show Et s.data.toList=s.data.toList.all B0 by
   unfold Et;rw[CU,hd,h60',hmt];have:(decide (1<s.size)&&(Ce s 0).toNat == 48)=false:=by
    rw[Ase]
    by_cases h1:1<s.size
    .right;rw[beq_eq_false_iff_ne];exact λh=>hz ⟨h1,h⟩
    .left;simpa using h1
   rw[this];simp)
  have HALL:=δ (AiJ s);have HV:=δ (λk (h:k<s.size)=>KQ s k h)
  have main:∀(q:(¬ (1:Int)<(s.size:Int))\/((1:Int)<(s.size:Int)/\((s[0].toNat:Int) == 48)=false)),Calls φ 108 #[.string s] w λe w'=>e=.returned (.bool (Et s.data.toList))/\Below w.heap.size w w':=by
   clear hz hd h60' hmt hv;intro q;rcases q with q1|⟨q1,q2⟩
   all_goals
    go_enter Tryz.func108,Tryz.ntmps108
    go_wp2_with fail
    go_loopw [24] (λ_ wr=>∃ k:Nat,k<=s.size/\(∀ j,j<k->B0 (Ce s j)=true)/\wr=w.iter s k) (λ_ wr=>s.size-wr.iterPos w.heap.size)
    case atStart=>exact⟨0,Aqk _,λj hj=>absurd hj (by omega),rfl⟩
    case round=>
     obtain⟨k,hk,hall,rfl⟩:=hrel;have HA:=δ hall;clear hall
     by_cases hlt:k<s.size
     .have HVK:=δ (HV.out k hlt)
      by_cases hasc:s[k].toNat<128
      .have hnx:=λty=>run_next_ascii (P:=φ) w s k ty hlt hasc
       have hc:=s[k].toNat_lt
       by_cases hdg:48<=s[k].toNat/\s[k].toNat<=57
       .have hd1:=hdg.1
        have hd2:=hdg.2;have HD:=δ (show B0 (Ce s k)=true by rw[←HVK.out];unfold B0;simp;exact hdg);clear hdg;generalize s[k].toNat=c at *;have z1:¬ (c:Int)<48:=by omega
        have z2:¬ (57:Int)<(c:Int):=by omega
        go_wp2
        go_roundw
        case rel=>exact⟨k+1,hlt,λj hj=>(Arr.1 hj).elim (HA.out j) λe=>by subst e;exact HD.out,rfl⟩
        case measure=>simp;omega
       .have HNO:=δ (show s.data.toList.all B0=false by
         refine ArR.2 λh=>?_
         have h2:=HALL.out.1 h k hlt;rw[←HVK.out]at h2;unfold B0 at h2;simp at h2;exact hdg h2)
        have hz':(s[k].toNat:Int)<48\/¬ (s[k].toNat:Int)<48/\(57:Int)<(s[k].toNat:Int):=by omega
        clear hdg;generalize s[k].toNat=c at *;rcases hz' with z1|⟨z1,z2⟩
        all_goals
         go_wp2
         go_ret
         exact⟨BS (by rw[HF.out,HNO.out]),(Below.refl _ _).alloc (ω _) _⟩
      .have hnx:=λty=>run_next_any (P:=φ) w s k ty hlt
       have hhi:=(decode_high s k hlt (by omega)).1;have HNO:=δ (show s.data.toList.all B0=false by
        refine ArR.2 λh=>?_
        have h2:=HALL.out.1 h k hlt;rw[←HVK.out]at h2;unfold B0 at h2;simp at h2;omega)
       clear hasc;generalize (Utf8.decode s k).1=c at *;have z1:¬ (c:Int)<48:=by omega
       have z2:(57:Int)<(c:Int):=by omega
       go_wp2
       go_ret
       exact⟨BS (by rw[HF.out,HNO.out]),(Below.refl _ _).alloc (ω _) _⟩
     .obtain rfl:k=s.size:=by omega
      have hnx:=λty=>run_next_end (P:=φ) w s s.size ty (Nat.lt_irrefl _)
      have HYES:=δ (HALL.out.2 HA.out)
      go_wp2
      go_ret
      exact⟨BS (by rw[HF.out,HYES.out]),(Below.refl _ _).alloc (ω _) _⟩
  by_cases h1:1<s.size
  .refine main (.inr ⟨by omega,?_⟩)
   rw[hv,beq_eq_false_iff_ne];have:(Ce s 0).toNat≠48:=λh=>hz ⟨h1,h⟩
   omega
  .exact main (.inl (by omega))
theorem AdB(q:UInt8->Bool)(s:ByteArray):s.data.toList.all q=true ↔ ∀ k,k<s.size->q (Ce s k)=true:=by
 rw[Apy];constructor
 .intro h k hk
  unfold Ce;rw[ApH,Φ (by rw[CU];exact hk)];exact h _ (ApG _)
 .intro h x hx
  obtain⟨k,hk,rfl⟩:=AqK hx;have h2:=h k (by rwa [CU]at hk);unfold Ce at h2
  rwa [ApH,Φ hk]at h2
set_option maxRecDepth 100000 in
set_option maxHeartbeats 4000000 in
theorem TW(s:ByteArray)(w:World)(hs:s.size<=9223372036854775807):Calls φ 168 #[.string s] w λe w'=>e=.returned (.bool (Mt s.data.toList))/\Below w.heap.size w w':=by
 by_cases h0:s.size=0
 .obtain rfl:=Nv h0
  go_enter Tryz.func168,Tryz.ntmps168
  go_wp2
  go_ret
  exact⟨rfl,Below.refl _ _⟩
 have hne:¬ s.toList=[]:=by rw[Arn];intro h;have:=CU s;rw[h]at this;simp at this;omega
 have hni:s.toList.isEmpty=false:=by simpa using hne
 have hpos:0<s.size:=by omega
 have hmt:s.data.toList.isEmpty=false:=by rw[←Arn];exact hni
 by_cases h20:20<s.size
 .have HF := δ (show Mt s.data.toList = false by          unfold Mt;rw[CU];have:decide (s.size<=20)=false:=by simpa using h20
                                                          rw[this];simp)
  have q:(20:Int)<(s.size:Int):=by omega
  clear hmt
  go_enter Tryz.func168,Tryz.ntmps168
  go_wp2
  go_ret
  exact⟨BS HF.out.symm,Below.refl _ _⟩
 have q20:¬ (20:Int)<(s.size:Int):=by omega
 have h20':decide (s.size<=20)=true:=by simpa using h20
 have hd:s.data.toList.getD 0 0=Ce s 0:=rfl;have HV:=δ (λk (h:k<s.size)=>KQ s k h);have HF:=δ (show Mt s.data.toList=(Ju (Ce s 0)&&s.data.toList.all Fj) by
  unfold Mt;rw[CU,hd,h20',hmt];simp)
 have HALL:=δ (AdB Fj s);have HPOS:=δ hpos;clear h20' hd hmt;rcases hl:Ju (Ce s 0) with _|_
 .have HL:=δ hl
  clear hl
  go_enter Tryz.func168,Tryz.ntmps168
  go_wp2_with fail
  refine(Dq (Ce s 0) _ w (by rw[HV.out 0 HPOS.out])).mono ?_;rw[HL.out];rintro e w' ⟨rfl,rfl⟩
  go_wp2
  go_ret
  exact⟨BS (by rw[HF.out,HL.out];rfl),Below.refl _ _⟩
 .have HL:=δ hl
  clear hl
  go_enter Tryz.func168,Tryz.ntmps168
  go_wp2_with fail
  refine(Dq (Ce s 0) _ w (by rw[HV.out 0 HPOS.out])).mono ?_;rw[HL.out];rintro e w' ⟨rfl,rfl⟩
  go_wp2_with fail
  go_loop [19] (λq=>∃ k:Nat,k<=s.size/\(∀ j,j<k->Fj (Ce s j)=true)/\q=.int .i64 k) (λq=>s.size-(intOf q).toNat)
  case atStart=>exact⟨0,Aqk _,λj hj=>absurd hj (by omega),rfl⟩
  case round=>
   obtain⟨k,hk,hall,rfl⟩:=hrel;have HA:=δ hall;clear hall
   by_cases hlt:k<s.size
   .have HVK:=δ (HV.out k hlt)
    have z0:(0:Int)<=(k:Int):=by omega
    have z1:(k:Int)<(s.size:Int):=by omega
    rcases hi:Fj (Ce s k) with _|_
    .have HI:=δ hi
     have HNO:=δ (show s.data.toList.all Fj=false from ArR.2 λh=>by have h2:=HALL.out.1 h k hlt;rw[hi]at h2;cases h2);clear hi
     go_wp2_with fail
     refine(Ld (Ce s k) _ w (by rw[HVK.out])).mono ?_;rw[HI.out];rintro e w' ⟨rfl,rfl⟩
     go_wp2
     go_ret
     exact⟨BS (by rw[HF.out,HL.out,HNO.out];rfl),Below.refl _ _⟩
    .have HI:=δ hi
     clear hi
     go_wp2_with fail
     refine(Ld (Ce s k) _ w (by rw[HVK.out])).mono ?_;rw[HI.out];rintro e w' ⟨rfl,rfl⟩
     go_wp2_with fail
     go_round
     case rel=>exact⟨k+1,hlt,λj hj=>(Arr.1 hj).elim (HA.out j) λe=>by subst e;exact HI.out,by go_num⟩
     case measure=>simp[intOf];omega
   .obtain rfl:k=s.size:=by omega
    have HYES:=δ (HALL.out.2 HA.out)
    go_wp2
    go_ret
    exact⟨BS (by rw[HF.out,HL.out,HYES.out];rfl),Below.refl _ _⟩
def Aj4:List ByteArray:=Aj3.map λl=>⟨l.toArray⟩
theorem Aj5(s:ByteArray):Lib.containsS (Aj4.take 8) s=Afm s.data.toList:=by
 rw[Bool.eq_iff_iff,Lib.containsS_iff];unfold Afm Aj4;rw[AqB (by simp[Aj3]),List.mem_map,List.contains_iff_mem];constructor
 .rintro⟨l,hl,rfl⟩
  simpa using hl
 .intro h
  refine⟨_,h,?_⟩
  cases s
  simp
set_option maxRecDepth 100000 in
set_option maxHeartbeats 4000000 in
theorem Rr(s:ByteArray)(w:World):Calls φ 169 #[.string s] w λe w'=>e=.returned (.bool (Afm s.data.toList))/\Below w.heap.size w w':=by
 have HR:=δ (Aj5 s)
 go_enter Tryz.func169,Tryz.ntmps169
 go_wp2_with fail
 refine(Tryz.slices_Contains_string w.heap.size 0 8 8 Aj4 s _ (by decide) (by decide) ?hc).mono ?_
 case hc=>
  intro j hj;have hj':j<8:=hj;rw[ApN,(Blk.new w _ _).cell]
  iterate 8 (rcases j with _|j;· rfl)
  omega
 rw[HR.out];rintro e w' ⟨rfl,rfl⟩
 go_wp2
 go_ret
 exact⟨rfl,Bi w _⟩
set_option maxRecDepth 100000 in
set_option maxHeartbeats 4000000 in
theorem Abv(s:ByteArray)(w:World)(hs:s.size<=9223372036854775807):Calls φ 109 #[.string s] w λe w'=>e=.returned (.bool (Ds s.data.toList))/\Below w.heap.size w w':=by
 rcases h1:Mt s.data.toList with _|_
 .have H1:=δ h1
  clear h1
  go_enter Tryz.func109,Tryz.ntmps109
  go_wp2_with fail
  refine(TW s w hs).mono ?_;rw[H1.out];rintro e w1 ⟨rfl,hb⟩;have HB:=δ hb;clear hb
  go_wp2
  go_ret
  exact⟨BS (by unfold Ds;rw[H1.out];rfl),HB.out⟩
 .have H1:=δ h1
  clear h1
  go_enter Tryz.func109,Tryz.ntmps109
  go_wp2_with fail
  refine(TW s w hs).mono ?_;rw[H1.out];rintro e w1 ⟨rfl,hb⟩;have HB:=δ hb;clear hb
  go_wp2_with fail
  refine(Rr s w1).mono ?_;rintro e w2 ⟨rfl,hb2⟩;have HB2:=δ (AY HB.out hb2);clear hb2
  go_wp2
  go_ret
  exact⟨BS (by unfold Ds;rw[H1.out];rfl),HB2.out⟩
def Ih(k:Nat)(t:ByteArray)(p:Nat × Nat):Value:=.agg #[.int .i64 k,.string t,.int .i64 p.1,.int .i64 p.2]
def IT:Value:=.agg #[.int .i64 0,.string ⟨#[]⟩,.int .i64 0,.int .i64 0]
set_option maxRecDepth 100000 in
set_option maxHeartbeats 4000000 in
theorem S8(t:ByteArray)(a b:Nat)(w:World)(h:60<t.size)(hs:t.size<=9223372036854775807):Calls φ 216 #[.string t,.agg #[.int .i64 a,.int .i64 b]] w λe w'=>e=.returned (.tuple #[IT,.int .i64 2])/\Below w.heap.size w w':=by
 have q:(60:Int)<(t.size:Int):=by omega
 go_enter Tryz.func216,Tryz.ntmps216
 go_wp2
 exact bodyPost_ret (v:=.tuple #[IT,.int .i64 2]) (by simp[results,Tryz.results216,go_sem,IT]) rfl ⟨rfl,Cp (Bi _ _)⟩
theorem Nf{w:World}{g:Nat}{t:TypeId}{x0 x1 x2 x3:Value}(h:Blk w g t #[x0,x1,x2,x3])(a b c d:Value):Blk ((((w.setCell ⟨g,0,none⟩ a).setCell ⟨g,1,none⟩ b).setCell ⟨g,2,none⟩ c).setCell ⟨g,3,none⟩ d) g t #[a,b,c,d]:=by
 simpa using (((h.set_ 0 a).set_ 1 b).set_ 2 c).set_ 3 d
theorem Dw{W:World}{g:Nat}{t:TypeId}{a b c d:Value}(h:Blk W g t #[a,b,c,d]):W.cell? ⟨g,0,none⟩=some a/\W.cell? ⟨g,1,none⟩=some b/\W.cell? ⟨g,2,none⟩=some c/\W.cell? ⟨g,3,none⟩=some d:=by
 rw[h.cell,h.cell,h.cell,h.cell];exact⟨rfl,rfl,rfl,rfl⟩
theorem Dz{W:World}{g:Nat}{t:TypeId}{cs:Array Value}(h:Blk W g t cs):W.frozen? ⟨g,0,none⟩=false/\W.frozen? ⟨g,1,none⟩=false/\W.frozen? ⟨g,2,none⟩=false/\W.frozen? ⟨g,3,none⟩=false:=
 ⟨h.frozen 0,h.frozen 1,h.frozen 2,h.frozen 3⟩
theorem Nd{W w:World}{g:Nat}(h:Below W.heap.size W w)(hp:W.heap.size<=g)(a b c d:Value):Below W.heap.size W ((((w.setCell ⟨g,0,none⟩ a).setCell ⟨g,1,none⟩ b).setCell ⟨g,2,none⟩ c).setCell ⟨g,3,none⟩ d):=
 CP (CP (CP (CP h hp) hp) hp) hp
theorem Nh(w:World)(t1 t2:TypeId)(c1 c2:Array Value):Blk ((w.alloc (.cells c1 t1)).alloc (.cells c2 t2)) w.heap.size t1 c1/\Blk ((w.alloc (.cells c1 t1)).alloc (.cells c2 t2)) (w.heap.size+1) t2 c2/\Below w.heap.size w ((w.alloc (.cells c1 t1)).alloc (.cells c2 t2)):=by
 refine⟨(Blk.new w t1 c1).alloc _,?_,Cp (Bi _ _)⟩;have:=Blk.new (w.alloc (.cells c1 t1)) t2 c2
 rwa [World.size_alloc]at this
set_option maxRecDepth 100000 in
set_option maxHeartbeats 4000000 in
theorem J8(t:ByteArray)(a b:Nat)(w:World)(h:¬ 60<t.size):Calls φ 216 #[.string t,.agg #[.int .i64 a,.int .i64 b]] w λe w'=>
  e=.returned (.tuple (if Et t.data.toList then #[Ih 3 t (a,b),.int .i64 0] else #[IT,.int .i64 20]))/\Below w.heap.size w w':=by
 have q:¬ (60:Int)<(t.size:Int):=by omega
 rcases hn:Et t.data.toList with _|_
 .have HN:=δ hn
  clear hn
  go_enter Tryz.func216,Tryz.ntmps216
  go_wp2_with fail
  refine(Jw t _ (by omega)).mono ?_;rw[HN.out];rintro e w' ⟨rfl,hb⟩;obtain⟨k1,k2,k3⟩:=Nh w 25 164 #[.int .i64 a,.int .i64 b] #[.int .i64 0,.string ⟨#[]⟩,.int .i64 0,.int .i64 0];generalize ((w.alloc (.cells #[.int .i64 a,.int .i64 b] 25)).alloc (.cells #[.int .i64 0,.string ⟨#[]⟩,.int .i64 0,.int .i64 0] 164))=W0 at *;have HB:=δ (AY k3 hb);have HK1:=δ (k1.call hb);have HK2:=δ (k2.call hb);obtain⟨c0,c1,c2,c3⟩:=Dw (k2.call hb);obtain⟨f0,f1,f2,f3⟩:=Dz (k2.call hb);have d0:=(k1.call hb).cell 0;have d1:=(k1.call hb).cell 1;simp only[Aqq,Ap8,ApV]at d0 d1;clear hb k1 k2 k3
  go_wp2
  obtain⟨e0,e1,e2,e3⟩:=Dw (Nf HK2.out (.int .i64 0) (.string ⟨#[]⟩) (.int .i64 0) (.int .i64 0));refine bodyPost_ret (v:=.tuple #[IT,.int .i64 20]) (by simp[results,Tryz.results216,go_sem,IT,e0,e1,e2,e3]) rfl ⟨rfl,Nd HB.out (by omega) (.int .i64 0) (.string ⟨#[]⟩) (.int .i64 0) (.int .i64 0)⟩
 .have HN:=δ hn
  clear hn
  go_enter Tryz.func216,Tryz.ntmps216
  go_wp2_with fail
  refine(Jw t _ (by omega)).mono ?_;rw[HN.out];rintro e w' ⟨rfl,hb⟩;obtain⟨k1,k2,k3⟩:=Nh w 25 164 #[.int .i64 a,.int .i64 b] #[.int .i64 0,.string ⟨#[]⟩,.int .i64 0,.int .i64 0];generalize ((w.alloc (.cells #[.int .i64 a,.int .i64 b] 25)).alloc (.cells #[.int .i64 0,.string ⟨#[]⟩,.int .i64 0,.int .i64 0] 164))=W0 at *;have HB:=δ (AY k3 hb);have HK1:=δ (k1.call hb);have HK2:=δ (k2.call hb);obtain⟨c0,c1,c2,c3⟩:=Dw (k2.call hb);obtain⟨f0,f1,f2,f3⟩:=Dz (k2.call hb);have d0:=(k1.call hb).cell 0;have d1:=(k1.call hb).cell 1;simp only[Aqq,Ap8,ApV]at d0 d1;clear hb k1 k2 k3
  go_wp2
  obtain⟨e0,e1,e2,e3⟩:=Dw (Nf HK2.out (.int .i64 3) (.string t) (.int .i64 a) (.int .i64 b));refine bodyPost_ret (v:=.tuple #[Ih 3 t (a,b),.int .i64 0]) (by simp[results,Tryz.results216,go_sem,Ih,e0,e1,e2,e3]) rfl ⟨rfl,Nd HB.out (by omega) (.int .i64 3) (.string t) (.int .i64 a) (.int .i64 b)⟩
def Qx(s:ByteArray)(g i:Nat)(p:Nat × Nat)(w:World)(r:Tok1)(e:Ending)(w':World):Prop:=match r with
 |.fin=>e=.returned (.tuple #[Ih 5 ⟨#[]⟩ p,.int .i64 0])/\w.grownBy w' (some g)
 |.err c=>e=.returned (.tuple #[IT,.int .i64 c])/\w.grownBy w' (some g)
 |.tok k n=>∃ t:ByteArray,e=.returned (.tuple #[Ih k t p,.int .i64 0])/\t.data.toList=cut s i n/\Rd w' g s (i+n) (Cs s i p n)/\w.grownBy w' (some g)
structure TB (w:World) (g:Nat) (s:ByteArray) (i j:Nat) (p q:Nat × Nat) (R P:Nat) (W:World):Prop where
 rd:Rd W g s j q
 gr:w.grownBy W (some g)
 k1:Blk W R 164 #[.int .i64 0,.string ⟨#[]⟩,.int .i64 0,.int .i64 0]
 k2:Blk W P 25 #[.int .i64 p.1,.int .i64 p.2]
 hR:w.heap.size<=R
 hP:w.heap.size<=P
 hg:g<w.heap.size
section
variable {w:World} {g:Nat} {s:ByteArray} {i j j':Nat} {p q q':Nat × Nat} {R P:Nat} {W W':World}
theorem TB.call(h:TB w g s i j p q R P W)(hb:Below W.heap.size W W'):TB w g s i j p q R P W':=⟨Blk.call h.rd hb,Ba h.gr (AR hb),h.k1.call hb,h.k2.call hb,h.hR,h.hP,h.hg⟩
theorem TB.turn(h:TB w g s i j p q R P W)(hr:Rd W' g s j' q')(hgr:W.grownBy W' (some g)):TB w g s i j' p q' R P W':=by
 have k1:Blk W' R _ _:=(hgr.block R h.k1.lt (λe=>by have:=h.hR;have:=h.hg;cases e;omega)).trans h.k1;have k2:Blk W' P _ _:=(hgr.block P h.k2.lt (λe=>by have:=h.hP;have:=h.hg;cases e;omega)).trans h.k2;exact⟨hr,Ba h.gr hgr,k1,k2,h.hR,h.hP,h.hg⟩
theorem TB.cells(h:TB w g s i j p q R P W):W.cell? ⟨g,0,none⟩=some (.string s)/\W.cell? ⟨g,1,none⟩=some (.int .i64 j)/\W.cell? ⟨P,0,none⟩=some (.int .i64 p.1)/\W.cell? ⟨P,1,none⟩=some (.int .i64 p.2):=by
 obtain⟨c0,c1,_⟩:=h.rd.cells;refine⟨c0,c1,?_,?_⟩
 .rw[h.k2.cell];rfl
 .rw[h.k2.cell];rfl
theorem TB.end_(h:TB w g s i j p q R P W)(a b c d:Value):let W':=(((W.setCell ⟨R,0,none⟩ a).setCell ⟨R,1,none⟩ b).setCell ⟨R,2,none⟩ c).setCell ⟨R,3,none⟩ d
  Rd W' g s j q/\w.grownBy W' (some g)/\W'.cell? ⟨R,0,none⟩=some a/\W'.cell? ⟨R,1,none⟩=some b/\W'.cell? ⟨R,2,none⟩=some c/\W'.cell? ⟨R,3,none⟩=some d:=by
 have hne:g≠R:=by have:=h.hR;have:=h.hg;omega
 refine⟨?_,?_,Dw (Nf h.k1 a b c d)⟩
 .exact(((Blk.far h.rd (p:=⟨R,0,none⟩) hne a).far (p:=⟨R,1,none⟩) hne b).far (p:=⟨R,2,none⟩) hne c).far (p:=⟨R,3,none⟩) hne d
 .obtain⟨h1,h2,h3,h4,h5⟩:=h.gr
  refine⟨h1,h2,h3,by simpa using h4,λk hk hn=>?_⟩;have hkR:k≠R:=by have:=h.hR;omega
  exact(Below.heap_setCell _ ⟨R,3,none⟩ d k hkR).trans ((Below.heap_setCell _ ⟨R,2,none⟩ c k hkR).trans ((Below.heap_setCell _ ⟨R,1,none⟩ b k hkR).trans ((Below.heap_setCell _ ⟨R,0,none⟩ a k hkR).trans (h5 k hk hn))))
end
theorem Ol(s:ByteArray)(i:Nat)(h:i<s.size):s.data.toList.drop i=Ce s i::s.data.toList.drop (i+1):=QU s i h
theorem Vd(t:ByteArray)(a b:Nat)(w:World)(h:¬ 60<t.size)(hn:Et t.data.toList=false):Calls φ 216 #[.string t,.agg #[.int .i64 a,.int .i64 b]] w λe w'=>e=.returned (.tuple #[.agg #[.int .i64 0,.string ⟨#[]⟩,.int .i64 0,.int .i64 0],.int .i64 20])/\Below w.heap.size w w':=
 (J8 t a b w h).mono λe w' he=>by rw[hn]at he;exact he
theorem S7(t:ByteArray)(a b:Nat)(w:World)(h:¬ 60<t.size)(hn:Et t.data.toList=true):Calls φ 216 #[.string t,.agg #[.int .i64 a,.int .i64 b]] w λe w'=>e=.returned (.tuple #[.agg #[.int .i64 3,.string t,.int .i64 a,.int .i64 b],.int .i64 0])/\Below w.heap.size w w':=
 (J8 t a b w h).mono λe w' he=>by rw[hn]at he;exact he
theorem S9(t:ByteArray)(a b:Nat)(w:World)(h:60<t.size)(hs:t.size<=9223372036854775807):Calls φ 216 #[.string t,.agg #[.int .i64 a,.int .i64 b]] w λe w'=>e=.returned (.tuple #[.agg #[.int .i64 0,.string ⟨#[]⟩,.int .i64 0,.int .i64 0],.int .i64 2])/\Below w.heap.size w w':=S8 t a b w h hs
theorem st4{w:World}{P R o:Nat}{v a b c d:Value}(h:w.cell? ⟨P,o,none⟩=some v)(hne:P≠R):((((w.setCell ⟨R,0,none⟩ a).setCell ⟨R,1,none⟩ b).setCell ⟨R,2,none⟩ c).setCell ⟨R,3,none⟩ d).cell? ⟨P,o,none⟩=some v:=by
 rw[World.cell?_of_block (a:=⟨P,o,none⟩) (Below.heap_setCell _ ⟨R,3,none⟩ d P hne),World.cell?_of_block (a:=⟨P,o,none⟩) (Below.heap_setCell _ ⟨R,2,none⟩ c P hne),World.cell?_of_block (a:=⟨P,o,none⟩) (Below.heap_setCell _ ⟨R,1,none⟩ b P hne),World.cell?_of_block (a:=⟨P,o,none⟩) (Below.heap_setCell _ ⟨R,0,none⟩ a P hne)];exact h
theorem ZL(c:UInt8)(W:World):(convert 117 9 (.slice (some ⟨W.heap.size,0,none⟩) 1 1)).run φ (W.alloc (.cells #[.int .u8 (c.toNat:Int)] 5))=.ok (.string ⟨#[c]⟩) (W.alloc (.cells #[.int .u8 (c.toNat:Int)] 5)):=by
 exact run_convert_bytes_back _ 117 9 5 _ 1 [c] Tryz.underlying117 Tryz.underlying5 Tryz.underlying9 λj hj=>by
  obtain rfl:j=0:=by simpa using hj
  rw[EO,(Blk.new W _ _).cell];rfl
theorem VR(s:ByteArray)(i n:Nat)(h:i+n<=s.size):(cut s i n).length=n:=by
 unfold cut;rw[List.length_take,Aq0,CU];omega
theorem Ie{s t:ByteArray}{i n:Nat}(h:t.data.toList=cut s i n)(hn:i+n<=s.size):t.size=n:=by
 rw[←CU,h,VR s i n hn]
section
variable (s:ByteArray) (i:Nat) (h:i<s.size)
include h
theorem YO(h1:Ju (Ce s i)=true):He (s.data.toList.drop i)=if 20<Bj Fj s i then .err 2 else .tok 1 (Bj Fj s i):=by
 unfold Bj;rw[Ol s i h,D9,if_pos h1]
theorem AcK(h1:Ju (Ce s i)=false)(h2:B0 (Ce s i)=true):He (s.data.toList.drop i)=if 60<Bj B0 s i then .err 2 else if 1<Bj B0 s i/\(Ce s i).toNat=48 then .err 20 else .tok 3 (Bj B0 s i):=by
 unfold Bj;rw[Ol s i h,D9,if_neg (by rw[h1];decide),if_pos h2]
theorem AcI(h1:Ju (Ce s i)=false)(h2:B0 (Ce s i)=false)(h3:OW (Ce s i)=true):He (s.data.toList.drop i)=.tok 4 1:=by
 rw[Ol s i h,D9,if_neg (by rw[h1];decide),if_neg (by rw[h2];decide),if_pos h3]
theorem AcL(h1:Ju (Ce s i)=false)(h2:B0 (Ce s i)=false)(h3:OW (Ce s i)=false):He (s.data.toList.drop i)=if C4 (s.data.toList.drop i)=0 then .err 100 else .tok 2 (C4 (s.data.toList.drop i)):=by
 rw[Ol s i h,D9,if_neg (by rw[h1];decide),if_neg (by rw[h2];decide),if_neg (by rw[h3];decide)]
end
theorem Ty(q:UInt8->Bool):∀ l:List UInt8,(l.take (Gj q l)).all q=true
 |[]=>rfl
 |c::l=>by
  unfold Gj;split
  .rename_i hc
   rw[List.take_succ_cons,List.all_cons,hc,Ty q l];rfl
  .rfl
theorem AbC(s:ByteArray)(i:Nat)(h:i<s.size)(h2:B0 (Ce s i)=true)(h60:¬ 60<Bj B0 s i):Et (cut s i (Bj B0 s i)) = !(decide (1<Bj B0 s i)&&(Ce s i).toNat == 48):=by
 have hp:0<Bj B0 s i:=by rw[P8 B0 s i h,if_pos h2];omega
 have hl:=VR s i (Bj B0 s i) (Ly B0 s i (by omega));unfold Et;have e1:(cut s i (Bj B0 s i)).isEmpty=false:=by
  rw[List.isEmpty_eq_false_iff];intro e;rw[e]at hl;simp at hl;omega
 have e2:(cut s i (Bj B0 s i)).getD 0 0=Ce s i:=by
  unfold cut;rw[Ol s i h,ApH,List.getElem?_take_of_lt hp];rfl
 have e3:(cut s i (Bj B0 s i)).all B0=true:=Ty B0 _;have e4:decide (Bj B0 s i<=60)=true:=by rw[decide_eq_true_eq];omega
 rw[e1,hl,e2,e3,e4];simp
set_option maxRecDepth 100000 in
set_option maxHeartbeats 8000000 in
theorem YP(s:ByteArray)(g i:Nat)(p:Nat × Nat)(w:World)(hs:s.size<=20000)(hi:i<=s.size)(hp:Near p i)(hr:Rd w g s i p) :
  Calls φ 161 #[.pointer (some ⟨g,0,none⟩)] w (Qx s g i p w (He (s.data.toList.drop i))):=by
 have hgl:g<w.heap.size:=Blk.lt hr;have HR:=δ hr;have HP:=δ hp;obtain⟨c0,c1,c2⟩:=hr.cells;generalize hT:He (s.data.toList.drop i)=T;have HT:=δ hT;clear hr hp hT
 go_enter Tryz.func161,Tryz.ntmps161
 go_wp2_with fail
 have hb0:=Bi w (.cells #[.int .i64 0,.string ⟨#[]⟩,.int .i64 0,.int .i64 0] 164);have hk0:=Blk.new w 164 #[.int .i64 0,.string ⟨#[]⟩,.int .i64 0,.int .i64 0];have HK0:=δ hk0;have HB0:=δ hb0;clear hk0 hb0 c0 c1 c2;refine(Rj p _ (HP.out.small (by omega))).mono ?_;rintro e w1 ⟨rfl,hb1⟩;have HB1:=δ (AY HB0.out hb1);have HK1:=δ (HK0.out.call hb1);clear hb1 HB0 HK0
 go_wp2_with fail
 have hbo:=Bi w1 (.cells #[.int .i64 p.1,.int .i64 p.2] 25);have hkp:=Blk.new w1 25 #[.int .i64 p.1,.int .i64 p.2];have HTB:=δ (show TB w g s i i p p w.heap.size w1.heap.size (w1.alloc (.cells #[.int .i64 p.1,.int .i64 p.2] 25)) from
  ⟨Blk.call HR.out (AY HB1.out hbo),AR (AY HB1.out hbo),HK1.out.call hbo,hkp,ω _,HB1.out.size,hgl⟩)
 have hne:w.heap.size<w1.heap.size:=HK1.out.lt;clear hbo hkp HB1 HK1 HR;generalize (w1.alloc (.cells #[.int .i64 p.1,.int .i64 p.2] 25))=W2 at *;generalize w1.heap.size=P at *;generalize hRR:w.heap.size=R at *;refine(ET s g i p W2 HTB.out.rd).mono ?_;rintro e w3 ⟨rfl,hb3⟩;have HTB3:=δ (HTB.out.call hb3);clear hb3 HTB;obtain⟨c0,c1,c2,c3⟩:=HTB3.out.cells;have l0:g<w3.heap.size:=Bu c0;have l1:P<w3.heap.size:=Bu c2;have l2:R<w3.heap.size:=HTB3.out.k1.lt
 by_cases he:i=s.size
 .have hq:((i:Int) == (s.size:Int))=true:=by rw[he];simp
  have HE:=δ he;clear he
  go_wp2_with fail
  refine AO (by kernel_rfl) (by kernel_rfl) ?_
  repeat (go_big_quiet_step (fail))
  refine wpQuiet_nil ?_;rintro _ ⟨y,rfl⟩;have HTB4:=δ (HTB3.out.call (A2 w3 y));generalize later w3 y=w4 at *;clear c0 c1 c2 c3 l0 l1 l2;obtain⟨c0,c1,c2,c3⟩:=HTB4.out.cells;obtain⟨c4,c5,c6,c7⟩:=Dw HTB4.out.k1;obtain⟨f0,f1,f2,f3⟩:=Dz HTB4.out.k1
  go_wp2
  obtain⟨x0,x1,e0,e1,e2,e3⟩:=TB.end_ HTB4.out (.int .i64 5) (.string ⟨#[]⟩) (.int .i64 p.1) (.int .i64 p.2);refine bodyPost_ret (v:=.tuple #[Ih 5 ⟨#[]⟩ p,.int .i64 0]) (by simp[results,Tryz.results161,go_sem,Ih,e0,e1,e2,e3]) rfl ?_;rw[←HT.out];rw[HE.out,List.drop_of_length_le (by simp)];exact⟨rfl,x1⟩
 .have hlt:i<s.size:=by omega
  have hq:((i:Int) == (s.size:Int))=false:=by rw[beq_eq_false_iff_ne];omega
  clear he;rcases hl:Ju (Ce s i) with _|_
  .have HL:=δ hl
   clear hl
   go_wp2_with fail
   refine AO (by kernel_rfl) (by kernel_rfl) ?_
   repeat (go_big_quiet_step (fail))
   refine wpQuiet_nil ?_;rintro _ ⟨y,rfl⟩;have HTB4:=δ (HTB3.out.call (A2 w3 y));generalize later w3 y=w4 at *;clear c0 c1 c2 c3 l0 l1 l2;obtain⟨c0,c1,c2,c3⟩:=HTB4.out.cells;obtain⟨c4,c5,c6,c7⟩:=Dw HTB4.out.k1;obtain⟨f0,f1,f2,f3⟩:=Dz HTB4.out.k1
   go_wp2_with fail
   refine(Dq (Ce s i) _ w4 rfl).mono ?_;rw[HL.out];rintro e w5 ⟨rfl,rfl⟩;rcases hd:B0 (Ce s i) with _|_
   .have HD:=δ hd
    clear hd
    go_wp2_with fail
    refine(FT (Ce s i) _ w4 rfl).mono ?_;rw[HD.out];rintro e w5 ⟨rfl,rfl⟩;rcases hbg:OW (Ce s i) with _|_
    .have HBG:=δ hbg
     have HTG:=δ (AcL s i hlt HL.out HD.out hbg);clear hbg
     go_wp2_with fail
     refine(VL (Ce s i) _ w4 rfl).mono ?_;rw[HBG.out];rintro e w5 ⟨rfl,rfl⟩
     go_wp2_with fail
     refine(Acq s g i p w4 hs hi HP.out HTB4.out.rd).mono ?_;rintro e w5 ⟨t,rfl,htl,hrd,hgr⟩;have HTB5:=δ (HTB4.out.turn hrd hgr);have HTL:=δ htl;have hsl:C4 (s.data.toList.drop i)<=s.size-i:=by have:=P7 (s.data.toList.drop i);rwa [Aq0,CU]at this
     have hts:=Ie htl (by omega);clear hrd hgr htl hsl;clear c0 c1 c2 c3 c4 c5 c6 c7 f0 f1 f2 f3;obtain⟨c0,c1,c2,c3⟩:=HTB5.out.cells;obtain⟨c4,c5,c6,c7⟩:=Dw HTB5.out.k1;obtain⟨f0,f1,f2,f3⟩:=Dz HTB5.out.k1;generalize hn:C4 (s.data.toList.drop i)=n at *;clear hn
     by_cases hz:n=0
     .subst hz
      obtain rfl:=Nv hts
      go_wp2
      obtain⟨x0,x1,e0,e1,e2,e3⟩:=TB.end_ HTB5.out (.int .i64 0) (.string ⟨#[]⟩) (.int .i64 0) (.int .i64 0);refine bodyPost_ret (v:=.tuple #[IT,.int .i64 100]) (by simp[results,Tryz.results161,go_sem,IT,e0,e1,e2,e3]) rfl ?_;rw[←HT.out];rw[HTG.out,if_pos trivial];exact⟨rfl,x1⟩
     .have hne1:¬ t.toList=[]:=by rw[Arn];intro h;have:=CU t;rw[h]at this;simp at this;omega
      have hne2:t.toList.isEmpty=false:=by simpa using hne1
      clear hts
      go_wp2
      obtain⟨x0,x1,e0,e1,e2,e3⟩:=TB.end_ HTB5.out (.int .i64 2) (.string t) (.int .i64 p.1) (.int .i64 p.2);refine bodyPost_ret (v:=.tuple #[Ih 2 t p,.int .i64 0]) (by simp[results,Tryz.results161,go_sem,Ih,e0,e1,e2,e3]) rfl ?_;rw[←HT.out];rw[HTG.out,if_neg hz];exact⟨t,rfl,HTL.out,x0,x1⟩
    .have HBG:=δ hbg
     have HTG:=δ (AcI s i hlt HL.out HD.out hbg);clear hbg
     go_wp2_with fail
     refine(VL (Ce s i) _ w4 rfl).mono ?_;rw[HBG.out];rintro e w5 ⟨rfl,rfl⟩
     go_wp2_with fail
     refine(Ep s g i p w4 (by omega) hlt (HP.out.small (by omega)) HTB4.out.rd).mono ?_;rintro e w5 ⟨rfl,hrd,hgr⟩;have HTB5:=δ (HTB4.out.turn hrd hgr);clear hrd hgr;clear c0 c1 c2 c3 c4 c5 c6 c7 f0 f1 f2 f3;obtain⟨c0,c1,c2,c3⟩:=HTB5.out.cells;obtain⟨c4,c5,c6,c7⟩:=Dw HTB5.out.k1;obtain⟨f0,f1,f2,f3⟩:=Dz HTB5.out.k1;have hcv:=ZL (Ce s i) w5;have l0:g<w5.heap.size:=Bu c0;have l1:P<w5.heap.size:=Bu c2;have l2:R<w5.heap.size:=Bu c4
     go_wp2
     obtain⟨x0,x1,e0,e1,e2,e3⟩:=TB.end_ HTB5.out (.int .i64 4) (.string ⟨#[Ce s i]⟩) (.int .i64 p.1) (.int .i64 p.2);clear hcv c0 c1 c2 c3 c4 c5 c6 c7 f0 f1 f2 f3 l0 l1 l2;generalize ((((w5.setCell ⟨R,0,none⟩ (.int .i64 4)).setCell ⟨R,1,none⟩ (.string ⟨#[Ce s i]⟩)).setCell ⟨R,2,none⟩ (.int .i64 p.1)).setCell ⟨R,3,none⟩ (.int .i64 p.2))=W9 at *;have hbo:=Bi W9 (.cells #[.int .u8 ((Ce s i).toNat:Int)] 5);generalize W9.alloc (.cells #[.int .u8 ((Ce s i).toNat:Int)] 5)=W10 at *;have g0:=(hbo.cell (p:=⟨R,0,none⟩) (Bu e0)).trans e0;have g1:=(hbo.cell (p:=⟨R,1,none⟩) (Bu e0)).trans e1;have g2:=(hbo.cell (p:=⟨R,2,none⟩) (Bu e0)).trans e2;have g3:=(hbo.cell (p:=⟨R,3,none⟩) (Bu e0)).trans e3;refine bodyPost_ret (v:=.tuple #[Ih 4 ⟨#[Ce s i]⟩ p,.int .i64 0]) (by simp[results,Tryz.results161,go_sem,Ih,g0,g1,g2,g3]) rfl ?_;rw[←HT.out,HTG.out];refine⟨⟨#[Ce s i]⟩,rfl,?_,?_,Ba x1 (AR hbo)⟩
     .unfold cut
      rw[Ol s i hlt];rfl
     .have e:Cs s i p 1=M6 p (Ce s i):=by unfold Cs;rw[Ol s i hlt];rfl
      rw[e];exact Blk.call x0 hbo
   .have HD:=δ hd
    clear hd
    go_wp2_with fail
    refine(FT (Ce s i) _ w4 rfl).mono ?_;rw[HD.out];rintro e w5 ⟨rfl,rfl⟩;clear c4 c5 c6 c7 f0 f1 f2 f3
    go_wp2_with fail
    have HTN:=δ (AcK s i hlt HL.out HD.out);have HN:=δ (Ly B0 s i hi);have HNB:=δ (AbC s i hlt HD.out);have HTBd:=δ (HTB4.out.call (Jf (Below.refl _ _)));have hd2:w4.drew.cell? ⟨P,0,none⟩=some (.int .i64 p.1):=c2;have hd3:w4.drew.cell? ⟨P,1,none⟩=some (.int .i64 p.2):=c3;have hPR:P≠R:=by omega
    clear c0 c1 c2 c3;generalize hn:Bj B0 s i=n at *;have HNN:=δ hn;clear hn
    by_cases hlong:60<n
    .go_region_held3 (λw'=>w'.cell? ⟨P,0,none⟩=some (.int .i64 p.1)/\w'.cell? ⟨P,1,none⟩=some (.int .i64 p.2))
      (first|with_reducible exact⟨hd2,hd3⟩|with_reducible exact⟨v2,v3⟩|with_reducible exact⟨u2,u3⟩|with_reducible exact⟨st4 v2 hPR,st4 v3 hPR⟩)
      (first | (go_at_call 213;refine(Ik s g i p _ hs hi HP.out HTBd.out.rd).mono ?_;rintro e w5 ⟨t,rfl,htl,hrd,hgr⟩;rw[HNN.out]at htl hrd;have HTB5:=δ (HTBd.out.turn hrd hgr);have HTL:=δ htl;have HTS:=δ (Ie htl HN.out);obtain⟨u0,u1,u2,u3⟩:=HTB5.out.cells;clear u0 u1 htl hrd hgr) | (go_at_call 216;refine(S9 t p.1 p.2 _ (by rw[HTS.out];exact hlong) (by rw[HTS.out];have:=HN.out;omega)).mono ?_;rintro e w6 ⟨rfl,hb6⟩;have HTB6:=δ (HTB5.out.call hb6);clear hb6 u2 u3;obtain⟨v0,v1,v2,v3⟩:=HTB6.out.cells;obtain⟨c4,c5,c6,c7⟩:=Dw HTB6.out.k1;obtain⟨f0,f1,f2,f3⟩:=Dz HTB6.out.k1))
     go_wp2
     obtain⟨x0,x1,e0,e1,e2,e3⟩:=TB.end_ HTB6.out (.int .i64 0) (.string ⟨#[]⟩) (.int .i64 0) (.int .i64 0);refine bodyPost_ret (v:=.tuple #[IT,.int .i64 2]) (by simp[results,Tryz.results161,go_sem,IT,e0,e1,e2,e3]) rfl ?_;rw[←HT.out];rw[HTN.out,if_pos hlong];exact⟨rfl,x1⟩
    .by_cases hbad:1<n/\(Ce s i).toNat=48
     .have HNF := δ (show Et (cut s i n) = false by         rw[HNB.out hlong,hbad.2];have:decide (1<n)=true:=by simpa using hbad.1
                                                            rw[this];rfl)
      go_region_held3 (λw'=>w'.cell? ⟨P,0,none⟩=some (.int .i64 p.1)/\w'.cell? ⟨P,1,none⟩=some (.int .i64 p.2))
       (first|with_reducible exact⟨hd2,hd3⟩|with_reducible exact⟨v2,v3⟩|with_reducible exact⟨u2,u3⟩|with_reducible exact⟨st4 v2 hPR,st4 v3 hPR⟩)
       (first | (go_at_call 213;refine(Ik s g i p _ hs hi HP.out HTBd.out.rd).mono ?_;rintro e w5 ⟨t,rfl,htl,hrd,hgr⟩;rw[HNN.out]at htl hrd;have HTB5:=δ (HTBd.out.turn hrd hgr);have HTL:=δ htl;have HTS:=δ (Ie htl HN.out);obtain⟨u0,u1,u2,u3⟩:=HTB5.out.cells;clear u0 u1 htl hrd hgr) | (go_at_call 216;refine(Vd t p.1 p.2 _ (by rw[HTS.out];exact hlong) (by rw[HTL.out];exact HNF.out)).mono ?_;rintro e w6 ⟨rfl,hb6⟩;have HTB6:=δ (HTB5.out.call hb6);clear hb6 u2 u3;obtain⟨v0,v1,v2,v3⟩:=HTB6.out.cells;obtain⟨c4,c5,c6,c7⟩:=Dw HTB6.out.k1;obtain⟨f0,f1,f2,f3⟩:=Dz HTB6.out.k1))
      go_wp2
      obtain⟨x0,x1,e0,e1,e2,e3⟩:=TB.end_ HTB6.out (.int .i64 0) (.string ⟨#[]⟩) (.int .i64 0) (.int .i64 0);refine bodyPost_ret (v:=.tuple #[IT,.int .i64 20]) (by simp[results,Tryz.results161,go_sem,IT,e0,e1,e2,e3]) rfl ?_;rw[←HT.out];rw[HTN.out,if_neg hlong,if_pos hbad];exact⟨rfl,x1⟩
     .have HNF:=δ (show Et (cut s i n)=true by
       rw[HNB.out hlong,Bool.not_eq_true',Ase]
       by_cases h1:1<n
       .right;rw[beq_eq_false_iff_ne];exact λh=>hbad ⟨h1,h⟩
       .left;simpa using h1)
      go_region_held3 (λw'=>w'.cell? ⟨P,0,none⟩=some (.int .i64 p.1)/\w'.cell? ⟨P,1,none⟩=some (.int .i64 p.2))
       (first|with_reducible exact⟨hd2,hd3⟩|with_reducible exact⟨v2,v3⟩|with_reducible exact⟨u2,u3⟩|with_reducible exact⟨st4 v2 hPR,st4 v3 hPR⟩)
       (first | (go_at_call 213;refine(Ik s g i p _ hs hi HP.out HTBd.out.rd).mono ?_;rintro e w5 ⟨t,rfl,htl,hrd,hgr⟩;rw[HNN.out]at htl hrd;have HTB5:=δ (HTBd.out.turn hrd hgr);have HTL:=δ htl;have HTS:=δ (Ie htl HN.out);obtain⟨u0,u1,u2,u3⟩:=HTB5.out.cells;clear u0 u1 htl hrd hgr) | (go_at_call 216;refine(S7 t p.1 p.2 _ (by rw[HTS.out];exact hlong) (by rw[HTL.out];exact HNF.out)).mono ?_;rintro e w6 ⟨rfl,hb6⟩;have HTB6:=δ (HTB5.out.call hb6);clear hb6 u2 u3;obtain⟨v0,v1,v2,v3⟩:=HTB6.out.cells;obtain⟨c4,c5,c6,c7⟩:=Dw HTB6.out.k1;obtain⟨f0,f1,f2,f3⟩:=Dz HTB6.out.k1))
      go_wp2
      obtain⟨x0,x1,e0,e1,e2,e3⟩:=TB.end_ HTB6.out (.int .i64 3) (.string t) (.int .i64 p.1) (.int .i64 p.2);refine bodyPost_ret (v:=.tuple #[Ih 3 t p,.int .i64 0]) (by simp[results,Tryz.results161,go_sem,Ih,e0,e1,e2,e3]) rfl ?_;rw[←HT.out];rw[HTN.out,if_neg hlong,if_neg hbad];exact⟨t,rfl,HTL.out,x0,x1⟩
  .have HL:=δ hl
   clear hl
   go_wp2_with fail
   refine AO (by kernel_rfl) (by kernel_rfl) ?_
   repeat (go_big_quiet_step (fail))
   refine wpQuiet_nil ?_;rintro _ ⟨y,rfl⟩;have HTB4:=δ (HTB3.out.call (A2 w3 y));generalize later w3 y=w4 at *;clear c0 c1 c2 c3 l0 l1 l2;obtain⟨c0,c1,c2,c3⟩:=HTB4.out.cells;obtain⟨c4,c5,c6,c7⟩:=Dw HTB4.out.k1;obtain⟨f0,f1,f2,f3⟩:=Dz HTB4.out.k1;have HN:=δ (Ly Fj s i hi);have HTW:=δ (YO s i hlt HL.out)
   go_wp2_with fail
   refine(Dq (Ce s i) _ w4 rfl).mono ?_;rw[HL.out];rintro e w5 ⟨rfl,rfl⟩
   go_wp2_with fail
   refine(TV s g i p w4 hs hi HP.out HTB4.out.rd).mono ?_;rintro e w5 ⟨t,rfl,htl,hrd,hgr⟩;have HTB5:=δ (HTB4.out.turn hrd hgr);have HTS:=δ (Ie htl HN.out);have HTL:=δ htl;clear hrd hgr htl;clear c0 c1 c2 c3 c4 c5 c6 c7 f0 f1 f2 f3;obtain⟨c0,c1,c2,c3⟩:=HTB5.out.cells;obtain⟨c4,c5,c6,c7⟩:=Dw HTB5.out.k1;obtain⟨f0,f1,f2,f3⟩:=Dz HTB5.out.k1;generalize hn:Bj Fj s i=n at *;clear hn
   by_cases hlong:20<n
   .have hts:t.size=n:=HTS.out
    have q20:(20:Int)<(t.size:Int):=by omega
    clear hts
    go_wp2
    obtain⟨x0,x1,e0,e1,e2,e3⟩:=TB.end_ HTB5.out (.int .i64 0) (.string ⟨#[]⟩) (.int .i64 0) (.int .i64 0);refine bodyPost_ret (v:=.tuple #[IT,.int .i64 2]) (by simp[results,Tryz.results161,go_sem,IT,e0,e1,e2,e3]) rfl ?_;rw[←HT.out];rw[HTW.out,if_pos hlong];exact⟨rfl,x1⟩
   .have hts:t.size=n:=HTS.out
    have q20:¬ (20:Int)<(t.size:Int):=by omega
    clear hts
    go_wp2
    obtain⟨x0,x1,e0,e1,e2,e3⟩:=TB.end_ HTB5.out (.int .i64 1) (.string t) (.int .i64 p.1) (.int .i64 p.2);refine bodyPost_ret (v:=.tuple #[Ih 1 t p,.int .i64 0]) (by simp[results,Tryz.results161,go_sem,Ih,e0,e1,e2,e3]) rfl ?_;rw[←HT.out];rw[HTW.out,if_neg hlong];exact⟨t,rfl,HTL.out,x0,x1⟩
def LexR.pre(ts:List Tk):LexR->LexR
 |.ok us=>.ok (ts++us)
 |.err e ln co=>.err e ln co
theorem LexR.pre_nil(r:LexR):r.pre []=r:=by cases r<;>rfl
theorem LexR.pre_more(ts:List Tk)(t:Tk)(r:LexR):(r.more t).pre ts=r.pre (ts++[t]):=by cases r<;>simp[LexR.more,LexR.pre]
def V6(s:ByteArray)(i:Nat)(p:Nat × Nat):LexR:=U0 (s.data.toList.drop i) p
theorem Abg(s:ByteArray)(i:Nat)(p:Nat × Nat):V6 s i p=match He (s.data.toList.drop (i+BJ false s i)) with
  |.fin=>.ok [⟨5,[],(Cs s i p (BJ false s i)).1,(Cs s i p (BJ false s i)).2⟩]
  |.err e=>.err e (Cs s i p (BJ false s i)).1 (Cs s i p (BJ false s i)).2
  |.tok kind n=>(V6 s (i+BJ false s i+n) (Cs s (i+BJ false s i) (Cs s i p (BJ false s i)) n)).more ⟨kind,cut s (i+BJ false s i) n,(Cs s i p (BJ false s i)).1,(Cs s i p (BJ false s i)).2⟩:=by
 unfold V6 BJ;rw[Aes,Ars];unfold Cs cut;simp only[Ars,ApF];generalize He _=T
 cases T<;>rfl
def M0(t:Tk):List Value:=[.int .i64 t.kind,.string ⟨t.text.toArray⟩,.int .i64 t.ln,.int .i64 t.co]
def Fc(ts:List Tk):List Value:=(ts.map M0).flatten
theorem AcG(ts:List Tk)(t:Tk):Fc (ts++[t])=Fc ts++M0 t:=by simp[Fc]
def Zf(w:World)(base:Nat)(v:Value)(ts:List Tk):Prop:=w.ownsRow base 164 4 v ts.length (Fc ts)
theorem VB:(Tryz.prog.info? 164).map (λi=>(i.zero,i.size,i.bytes))=some (some (.agg #[.int .i64 0,.string ⟨#[]⟩,.int .i64 0,.int .i64 0]),4,40):=by kernel_rfl
def Ze(r:LexR)(w:World)(e:Ending)(w':World):Prop:=match r with
 |.ok ts=>∃ v,e=.returned (.tuple #[v,.agg #[.int .i64 0,.int .i64 0],.int .i64 0])/\Zf w' w.heap.size v ts/\Below w.heap.size w w'
 |.err c ln co=>e=.returned (.tuple #[.slice none 0 0,.agg #[.int .i64 ln,.int .i64 co],.int .i64 c])/\Below w.heap.size w w'
theorem KU{w:World}{g:Nat}{t:TypeId}{x y:Value}(h:Blk w g t #[x,y])(a b:Value):Blk ((w.setCell ⟨g,0,none⟩ a).setCell ⟨g,1,none⟩ b) g t #[a,b]:=by
 simpa using (h.set_ 0 a).set_ 1 b
theorem Gu{W:World}{g:Nat}{t:TypeId}{a b:Value}(h:Blk W g t #[a,b]):W.cell? ⟨g,0,none⟩=some a/\W.cell? ⟨g,1,none⟩=some b:=by
 rw[h.cell,h.cell];exact⟨rfl,rfl⟩
structure AC (w:World) (v:Value) (ts:List Tk) (W:World):Prop where
 q:Blk W w.heap.size 25 #[.int .i64 0,.int .i64 0]
 own:W.ownsRow (w.heap.size+2) 164 4 v ts.length (Fc ts)
 lo:w.heap.size+2<=W.heap.size
 below:Below w.heap.size w W
section
variable {w W W':World} {s:ByteArray} {i j:Nat} {p q:Nat × Nat} {v v':Value} {ts:List Tk}
theorem AC.call(h:AC w v ts W)(hb:Below W.heap.size W W'):AC w v ts W':=⟨h.q.call hb,Ob h.own hb,Aqm h.lo hb.size,AY h.below hb⟩
theorem AC.turn(h:AC w v ts W)(hg:W.grownBy W' (some (w.heap.size+1))):AC w v ts W':=by
 refine⟨?_,h.own.kept hg ?_,Aqm h.lo hg.size,LP h.below hg λk e=>by have:=Option.some.inj e;omega⟩
 .exact(hg.block w.heap.size h.q.lt (λe=>by have:=Option.some.inj e;omega)).trans h.q
 .rcases hv:v.ownBlock with _|k
  .exact .inl rfl
  .right
   have:=Rh h.own (ω _) k hv;intro e;have:=Option.some.inj e;omega
theorem AC.far(_h:AC w v ts W)(hg:W.grownBy W' v.ownBlock){b:Nat}(hb:b<W.heap.size)(hne:v.ownBlock≠some b):W'.heap[b]? = W.heap[b]?:=hg.block b hb λe=>hne e.symm
theorem AC.low(h:AC w v ts W){b:Nat}(hb:b<w.heap.size+2):v.ownBlock≠some b:=λe=>by have:=Rh h.own (ω _) b e;omega
theorem AC.app(h:AC w v ts W)(t:Tk)(hown:W'.ownsRow (w.heap.size+2) 164 4 v' (ts.length+1) (Fc ts++M0 t))(hg:W.grownBy W' v.ownBlock):AC w v' (ts++[t]) W':=
 ⟨(h.far hg h.q.lt (h.low (by omega))).trans h.q,by rw[AcG];simpa using hown,Aqm h.lo hg.size,LP h.below hg λk e=>by have:=Rh h.own (ω _) k e;omega⟩
end
structure AB (w:World) (s:ByteArray) (i:Nat) (p:Nat × Nat) (v:Value) (ts:List Tk) (W:World):Prop where
 rd:Rd W (w.heap.size+1) s i p
 ac:AC w v ts W
section
variable {w W W':World} {s:ByteArray} {i j:Nat} {p q:Nat × Nat} {v v':Value} {ts:List Tk}
theorem AB.call(h:AB w s i p v ts W)(hb:Below W.heap.size W W'):AB w s i p v ts W':=⟨Blk.call h.rd hb,h.ac.call hb⟩
theorem AB.turn(h:AB w s i p v ts W)(hr:Rd W' (w.heap.size+1) s j q)(hg:W.grownBy W' (some (w.heap.size+1))):AB w s j q v ts W':=⟨hr,h.ac.turn hg⟩
theorem AB.app(h:AB w s i p v ts W)(t:Tk)(hown:W'.ownsRow (w.heap.size+2) 164 4 v' (ts.length+1) (Fc ts++M0 t))(hg:W.grownBy W' v.ownBlock):AB w s i p v' (ts++[t]) W':=
 ⟨(h.ac.far hg (Blk.lt h.rd) (h.ac.low (by omega))).trans h.rd,h.ac.app t hown hg⟩
end
theorem YN{l:List UInt8}{k n:Nat}(h:He l=.tok k n):k<=4:=by
 cases l with
 |nil=>simp[He]at h
 |cons c l=>
  rw[D9]at h
  repeat' split at h
  all_goals simp at h<;>omega
theorem AcJ{l:List UInt8}{c:Nat}(h:He l=.err c):c≠0:=by
 cases l with
 |nil=>simp[He]at h
 |cons b l=>
  rw[D9]at h
  repeat' split at h
  all_goals simp at h<;>omega
theorem AC.done{w W:World}{v:Value}{ts:List Tk}(h:AC w v ts W)(a b:Value):Zf ((W.setCell ⟨w.heap.size,0,none⟩ a).setCell ⟨w.heap.size,1,none⟩ b) w.heap.size v ts:=by
 have hg:W.grownBy ((W.setCell ⟨w.heap.size,0,none⟩ a).setCell ⟨w.heap.size,1,none⟩ b) (some w.heap.size):=EK (EK (AR (Below.refl _ _)) 0 a) 1 b;refine AbM (h.own.kept hg ?_) (by omega);rcases hv:v.ownBlock with _|k
 .exact .inl rfl
 .right
  have:=Rh h.own (ω _) k hv;intro e;have:=Option.some.inj e;omega
theorem Jx{w:World}{base e n:Nat}{v:Value}{xs:List Value}(h:w.ownsRow base e 4 v n xs):∃ A c,v=.slice A n c:=by
 rcases h.2 with⟨rfl,rfl⟩|⟨g,cap,cur,rfl,_⟩
 .exact⟨_,_,rfl⟩
 .exact⟨_,_,rfl⟩
set_option maxRecDepth 100000 in
set_option maxHeartbeats 8000000 in
theorem AdA(s:ByteArray)(w:World)(hs:s.size<=9223372036854775807):Calls φ 91 #[.string s] w (Ze (GJ s.data.toList) w):=by
 obtain⟨i0,hi0,hz0,hz1,hz2⟩:=info_parts VB;unfold GJ;rw[CU]
 by_cases hbig:16384<s.size
 .rw[if_pos hbig]
  have q:(16384:Int)<(s.size:Int):=by omega
  go_enter Tryz.func91,Tryz.ntmps91
  go_wp2_with fail
  have hp:=Rj (1,1) (w.alloc (.cells #[.int .i64 0,.int .i64 0] 25)) ⟨by decide,by decide,by decide,by decide⟩;unfold Yl at hp;simp only[JV]at hp;refine hp.mono ?_;clear hp;rintro e w1 ⟨rfl,hb⟩;have hk:=(Blk.new w 25 #[.int .i64 0,.int .i64 0]).call hb;have HB:=δ (AY (Bi w _) hb);have HK:=δ hk;obtain⟨c0,c1⟩:=Gu hk;have f0:=hk.frozen 0;have f1:=hk.frozen 1;clear hk hb
  go_wp2
  obtain⟨e0,e1⟩:=Gu (KU HK.out (.int .i64 1) (.int .i64 1));exact bodyPost_ret (v:=.tuple #[.slice none 0 0,.agg #[.int .i64 1,.int .i64 1],.int .i64 2]) (by simp[results,Tryz.results91,go_sem,e0,e1]) rfl ⟨rfl,CP (CP HB.out (ω _)) (ω _)⟩
 .rw[if_neg hbig]
  have q:¬ (16384:Int)<(s.size:Int):=by omega
  have hsz:s.size<=16384:=by omega
  generalize hR:U0 s.data.toList (1,1)=R;have HR:=δ hR;clear hR
  go_enter Tryz.func91,Tryz.ntmps91
  go_wp2_with fail
  have hst:AB w s 0 (1,1) (.slice none 0 0) [] ((w.alloc (.cells #[.int .i64 0,.int .i64 0] 25)).alloc (.cells #[.string s,.int .i64 0,.complex .f64 4607182418800017408 4607182418800017408] 216)):=by
   obtain⟨k1,k2,k3⟩:=Nh w 25 216 #[.int .i64 0,.int .i64 0] #[.string s,.int .i64 0,.complex .f64 4607182418800017408 4607182418800017408];refine⟨?_,⟨k1,World.ownsRow_nil _ _ _ _,by simp,k3⟩⟩;unfold Rd Yl;rw[show enc (1,1).1=4607182418800017408 from JV];exact k2
  have HST:=δ hst;clear hst;generalize ((w.alloc (.cells #[.int .i64 0,.int .i64 0] 25)).alloc (.cells #[.string s,.int .i64 0,.complex .f64 4607182418800017408 4607182418800017408] 216))=W0 at *
  go_loopw [6] (λv wr=>∃(i:Nat) (p:Nat × Nat) (ts:List Tk),i<=s.size/\ts.length<=i/\Near p i/\AB w s i p v ts wr/\(V6 s i p).pre ts=R) (λ_ wr=>s.size-Oh (w.heap.size+1) wr)
  case atStart=>exact⟨0,(1,1),[],Aqk _,ω _,⟨by decide,by decide,by decide,by decide⟩,HST.out,by rw[LexR.pre_nil];exact HR.out⟩
  case round=>
   obtain⟨i,p,ts,hi,hlen,hp,hab,hres⟩:=hrel;have HRT:=δ (CS hab.rd);have HAB:=δ hab;have HP:=δ hp;have HRES:=δ hres;obtain⟨A5,c5,rfl⟩:=Jx hab.ac.own;clear hab hp hres
   go_wp2_with fail
   refine(Acs s (w.heap.size+1) i p wr (by omega) hi HP.out HAB.out.rd).mono ?_;rintro e w1 ⟨rfl,hrd,hgr⟩;have HAB1:=δ (HAB.out.turn hrd hgr);have hk:i+BJ false s i<=s.size:=by
    have:=UM false (s.data.toList.drop i);rw[Aq0,CU]at this
    show i+PB false (s.data.toList.drop i)<=s.size
    omega
   have HN1:=δ (E4 s i (BJ false s i) p HP.out hk);have HEQ:=δ (Abg s i p);clear hrd hgr HAB;generalize BJ false s i=k at *;generalize Cs s i p k=q1 at *;generalize hj:i+k=j at *;have HIJ:=δ hj;have hij:i<=j:=by omega
   clear hj;obtain⟨c0,c1,c2⟩:=HAB1.out.rd.cells;have l0:w.heap.size+1<w1.heap.size:=Bu c0
   go_wp2_with fail
   refine(Rj q1 w1 (HN1.out.small (by omega))).mono ?_;rintro e w2 ⟨rfl,hb2⟩;have HAB2:=δ (HAB1.out.call hb2);clear hb2 c0 c1 c2 l0 HAB1
   go_wp2_with fail
   have hb3:=Bi w2 (.cells #[.int .i64 q1.1,.int .i64 q1.2] 25);have hk3:=Blk.new w2 25 #[.int .i64 q1.1,.int .i64 q1.2];have HAB3:=δ (HAB2.out.call hb3);have HK3:=δ hk3;have hP3:w.heap.size+2<=w2.heap.size:=HAB2.out.ac.lo;clear hb3 hk3 HAB2;generalize (w2.alloc (.cells #[.int .i64 q1.1,.int .i64 q1.2] 25))=w3 at *;generalize w2.heap.size=P at *;refine(YP s (w.heap.size+1) j q1 w3 (by omega) hk HN1.out HAB3.out.rd).mono ?_;rcases htk:He (s.data.toList.drop j) with _|c|⟨kd,n⟩
   .have HTK:=δ htk
    clear htk;simp only[Qx,Ih];rintro e w4 ⟨rfl,hgr⟩;have HC4:=δ (HAB3.out.ac.turn hgr);clear hgr;obtain⟨k4,k5,k6⟩:=Nh w4 164 164 #[.int .i64 5,.string ⟨#[]⟩,.int .i64 q1.1,.int .i64 q1.2] #[.int .i64 5,.string ⟨#[]⟩,.int .i64 q1.1,.int .i64 q1.2];have HK4:=δ k4;have HK6:=δ k5;have HB6:=δ k6;clear k4 k5 k6;have HC6:=δ (HC4.out.call HB6.out);have HO:=δ HC6.out.own;have HLT:=δ HC4.out.own.lt
    go_wp2_with (at_builtin;refine wpList_append_own_at _ rfl _ _ 157 rfl (w.heap.size+2) 164 i0 (.agg #[.int .i64 0,.string ⟨#[]⟩,.int .i64 0,.int .i64 0]) 4 40 Tryz.underlying157 hi0 hz0 hz1 hz2 rfl (by decide) _ _ _ rfl HO.out ⟨w4.heap.size+1,0,none⟩ 1 1 [.int .i64 5,.string ⟨#[]⟩,.int .i64 q1.1,.int .i64 q1.2] rfl rfl ?c1 ?c2 ?c3 ?c4 ?c5 ?_)
    case c1=>
     intro m u hu;have:=HK6.out.cell m;rw[EO,ApN,this];simpa using hu
    case c2=>intro u hu;simp at hu;rcases hu with rfl|rfl|rfl|rfl<;>rfl
    case c3=>unfold maxLen;omega
    case c4=>omega
    case c5=>exact HC6.out.lo
    intro v' w7 hown7 hgrow _ hloc;have hc7:=HC6.out.app ⟨5,[],q1.1,q1.2⟩ hown7 hgrow;have hk7:Blk w7 w4.heap.size 164 #[.int .i64 5,.string ⟨#[]⟩,.int .i64 q1.1,.int .i64 q1.2]:=(hgrow.block _ HK4.out.lt (λe=>by have:=(HLT.out _ e.symm).2;omega)).trans HK4.out;obtain⟨A7,c7,rfl⟩:=Jx hown7;have t0:=hk7.cell 0;simp only[Aqq,Ap8]at t0;have HC7:=δ hc7;obtain⟨q0c,q1c⟩:=Gu hc7.q;have qf0:=hc7.q.frozen 0;have qf1:=hc7.q.frozen 1;have hRR:R=.ok (ts++[⟨5,[],q1.1,q1.2⟩]):=by rw[←HRES.out,HEQ.out,HTK.out];rfl
    have HRR:=δ hRR;clear hc7 hown7 hgrow hloc hk7 hRR
    go_wp2
    obtain⟨e0,e1⟩:=Gu (KU HC7.out.q (.int .i64 0) (.int .i64 0));refine bodyPost_ret (v:=.tuple #[.slice A7 (ts.length+1) c7,.agg #[.int .i64 0,.int .i64 0],.int .i64 0]) (by simp[results,Tryz.results91,go_sem,e0,e1]) rfl ?_;rw[HRR.out];exact⟨_,rfl,HC7.out.done _ _,CP (CP HC7.out.below (ω _)) (ω _)⟩
   .have HTK:=δ htk
    clear htk;simp only[Qx,IT];rintro e w4 ⟨rfl,hgr⟩;have HC4:=δ (HAB3.out.ac.turn hgr);have hkp:Blk w4 P 25 #[.int .i64 q1.1,.int .i64 q1.2]:=(hgr.block P HK3.out.lt (λe=>by have:=Option.some.inj e;omega)).trans HK3.out;have hb5:=Bi w4 (.cells #[.int .i64 0,.string ⟨#[]⟩,.int .i64 0,.int .i64 0] 164);have HC5:=δ (HC4.out.call hb5);obtain⟨p0,p1⟩:=Gu hkp;obtain⟨q0c,q1c⟩:=Gu HC4.out.q;have qf0:=HC4.out.q.frozen 0;have qf1:=HC4.out.q.frozen 1;have l3:P<w4.heap.size:=Bu p0;have l4:w.heap.size<w4.heap.size:=Bu q0c;have hce:=AcJ HTK.out;have hne0:((c:Int) != 0)=true:=by rw[bne_iff_ne];omega
    have hRR:R=.err c q1.1 q1.2:=by rw[←HRES.out,HEQ.out,HTK.out];rfl
    have HRR:=δ hRR;clear hgr hkp hb5 hRR hce
    go_wp2_with fail
    go_region
    all_goals
     go_wp2
     have hbw:=CP (u:=.int .i64 q1.2) (p:=⟨w.heap.size,1,none⟩) (CP (u:=.int .i64 q1.1) (p:=⟨w.heap.size,0,none⟩) HC4.out.below (ω _)) (ω _);obtain⟨e0,e1⟩:=Gu (KU HC4.out.q (.int .i64 q1.1) (.int .i64 q1.2));clear p0 p1 q0c q1c qf0 qf1 l3 l4;generalize ((w4.setCell ⟨w.heap.size,0,none⟩ (.int .i64 q1.1)).setCell ⟨w.heap.size,1,none⟩ (.int .i64 q1.2))=W9 at *;have hbo:=Jf (Bi W9 (.cells #[.int .i64 0,.string ⟨#[]⟩,.int .i64 0,.int .i64 0] 164));generalize (W9.alloc (.cells #[.int .i64 0,.string ⟨#[]⟩,.int .i64 0,.int .i64 0] 164)).drew=W10 at *;have g0:=(hbo.cell (p:=⟨w.heap.size,0,none⟩) (Bu e0)).trans e0;have g1:=(hbo.cell (p:=⟨w.heap.size,1,none⟩) (Bu e0)).trans e1;refine bodyPost_ret (v:=.tuple #[.slice none 0 0,.agg #[.int .i64 q1.1,.int .i64 q1.2],.int .i64 c]) (by simp[results,Tryz.results91,go_sem,g0,g1]) rfl ?_;rw[HRR.out];exact⟨rfl,AY hbw hbo⟩
   .have HTK:=δ htk
    clear htk;simp only[Qx,Ih];rintro e w4 ⟨t,rfl,htl,hrd,hgr⟩;have HAB4:=δ (HAB3.out.turn hrd hgr);have HC4:=δ HAB4.out.ac;have HTL:=δ htl;clear hgr hrd htl;obtain⟨k4,k5,k6⟩:=Nh w4 164 164 #[.int .i64 kd,.string t,.int .i64 q1.1,.int .i64 q1.2] #[.int .i64 kd,.string t,.int .i64 q1.1,.int .i64 q1.2];have HK4:=δ k4;have HK6:=δ k5;have HB6:=δ k6;clear k4 k5 k6;have HAB6:=δ (HAB4.out.call HB6.out);have HC6:=δ HAB6.out.ac;have HO:=δ HC6.out.own;have HLT:=δ HC4.out.own.lt;have hkd:=YN HTK.out;have hkd5:((kd:Int) == 5)=false:=by rw[beq_eq_false_iff_ne];omega
    have hn:=TM HTK.out;rw[Aq0,CU]at hn;clear hkd
    go_wp2_with (at_builtin;refine wpList_append_own_at _ rfl _ _ 157 rfl (w.heap.size+2) 164 i0 (.agg #[.int .i64 0,.string ⟨#[]⟩,.int .i64 0,.int .i64 0]) 4 40 Tryz.underlying157 hi0 hz0 hz1 hz2 rfl (by decide) _ _ _ rfl HO.out ⟨w4.heap.size+1,0,none⟩ 1 1 [.int .i64 kd,.string t,.int .i64 q1.1,.int .i64 q1.2] rfl rfl ?c1 ?c2 ?c3 ?c4 ?c5 ?_)
    case c1=>
     intro m u hu;have:=HK6.out.cell m;rw[EO,ApN,this];simpa using hu
    case c2=>intro u hu;simp at hu;rcases hu with rfl|rfl|rfl|rfl<;>rfl
    case c3=>unfold maxLen;omega
    case c4=>omega
    case c5=>exact HC6.out.lo
    intro v' w7 hown7 hgrow _ hloc;have hab7:=HAB6.out.app ⟨kd,t.data.toList,q1.1,q1.2⟩ hown7 hgrow;have hk7:Blk w7 w4.heap.size 164 #[.int .i64 kd,.string t,.int .i64 q1.1,.int .i64 q1.2]:=(hgrow.block _ HK4.out.lt (λe=>by have:=(HLT.out _ e.symm).2;omega)).trans HK4.out;obtain⟨A7,c7,rfl⟩:=Jx hown7;have t0:=hk7.cell 0;simp only[Aqq,Ap8]at t0;have HAB7:=δ hab7;clear hab7 hown7 hgrow hloc hk7
    go_wp2_with fail
    go_roundw
    case rel=>
     refine⟨j+n,Cs s j q1 n,ts++[⟨kd,t.data.toList,q1.1,q1.2⟩],by omega,by simp;omega,E4 s j n q1 HN1.out (by omega),by simpa using HAB7.out,?_⟩;rw[←HRES.out,HEQ.out,HTK.out,HTL.out,←LexR.pre_more]
    case measure=>
     rw[HRT.out,CS HAB7.out.rd];omega
end Go.Proofs.YtlmhajfbpplpoaaGreat
