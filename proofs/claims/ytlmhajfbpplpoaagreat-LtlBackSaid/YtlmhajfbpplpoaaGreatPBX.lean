/- Layer 10: a sign is take -/
import Derived.Test.YtlmhajfbpplpoaaGreatPBW
import Derived.Laws.RangeAny
import Derived.Deep.RegionHeld3
import Derived.Laws.IdiomStrings
import Derived.Test.YtlmhajfbpplpoaaGreatPAB
set_option linter.all false
open Bool renaming and_eq_false_iff->At2,eq_false_iff->AtH
open List renaming all_eq_true->Arg,drop_drop->Atc,getD_eq_getElem?_getD->ArP,getElem?_cons_succ->ArF,getElem?_cons_zero->ArZ,getElem?_eq_getElem->Ψ,getElem?_toArray->Asd,getElem_mem->Ars,getElem_of_mem->Asx,isPrefixOf_iff_prefix->AtD,length_drop->ArU,take_of_length_le->AsF
open Nat renaming add_assoc->Aro,le_refl->ω,le_trans->Ar9,lt_succ_iff_lt_or_eq->Atb,zero_add->Ary,zero_le->ArX
namespace Go.Proofs.YtlmhajfbpplpoaaGreat
open Lib renaming hid->Ω,toList_data->As3
open Tryz renaming prog->ψ
open Go.RowKit
def sgB(k:Nat):ByteArray:=⟨(Hf.getD k []).toArray⟩
theorem UO(k:Nat):(sgB k).data.toList=Hf.getD k []:=by simp[sgB]
set_option maxRecDepth 100000 in
theorem Z5(w:World):Calls ψ 246 #[] w λe w'=>∃ b,e=.returned (.slice (some ⟨b,0,none⟩) 23 23)/\b<w'.heap.size/\(∀ k,k<23->w'.cell? ⟨b,k,none⟩=some (.string (sgB k)))/\Below w.heap.size w w':=by
 go_enter Tryz.func246,Tryz.ntmps246
 go_wp2
 go_ret
 refine⟨w.heap.size,rfl,by simp,λk hk=>?_,Ba w _⟩;rw[(Blk.new w _ _).cell]
 iterate 23 (rcases k with _|k;· rfl)
 omega
def Rz(l:List UInt8)(k:Nat):Prop:=∀ j,j<k->(Hf.getD j []).isPrefixOf l=false
theorem Ws{l:List UInt8}(h:Rz l 23):B3 l=0:=by
 unfold B3;have:Hf.find? (·.isPrefixOf l)=none:=by
  rw[List.find?_eq_none];intro x hx;obtain⟨j,hj,rfl⟩:=Asx hx;have h2:=h j hj;rw[ArP,Ψ hj]at h2;have h3:Hf[j].isPrefixOf l=false:=h2;rw[h3]
  decide
 rw[this]
theorem Ad1{l:List UInt8}{k:Nat}(h:Rz l k)(hk:k<23)(hp:(Hf.getD k []).isPrefixOf l=true):B3 l=(Hf.getD k []).length:=by
 unfold B3;have:Hf.find? (·.isPrefixOf l)=some (Hf.getD k []):=by
  have hk':k<Hf.length:=hk;rw[List.find?_eq_some_iff_getElem];refine⟨hp,k,hk',by rw[ArP,Ψ hk'];rfl,λj hj=>?_⟩;have h2:=h j hj;rw[ArP,Ψ (by omega)]at h2;have h3:Hf[j].isPrefixOf l=false:=h2;rw[h3];rfl
 rw[this]
theorem AgJ(s:ByteArray)(i:Nat):(s.extract i s.size).data.toList=s.data.toList.drop i:=by
 rw[ByteArray.data_extract,Array.toList_extract,List.extract_eq_take_drop];exact AsF (by rw[ArU,Array.length_toList];exact ω _)
theorem WA{s:ByteArray}{i:Nat}{x:List UInt8}(h:x.isPrefixOf (s.data.toList.drop i)=true):x=cut s i x.length:=by
 unfold cut;exact List.prefix_iff_eq_take.1 (AtD.1 h)
set_option maxRecDepth 100000 in
set_option maxHeartbeats 4000000 in
theorem Ad0(s:ByteArray)(g i:Nat)(p:Nat × Nat)(w:World)(hs:s.size<=20000)(hi:i<=s.size)(hp:Near p i)(hr:Rd w g s i p) :
  Calls ψ 218 #[.pointer (some ⟨g,0,none⟩)] w λe w'=>∃ t:ByteArray,e=.returned (.string t)/\t.data.toList=cut s i (B3 (s.data.toList.drop i)) ∧
   Rd w' g s (i+B3 (s.data.toList.drop i)) (CP s i p (B3 (s.data.toList.drop i)))/\w.grownBy w' (some g):=by
 have HR:=Ω hr;have HP:=Ω hp;clear hr hp
 go_enter Tryz.func218,Tryz.ntmps218
 go_wp2_with fail
 refine(Z5 w).mono ?_;rintro e w0 ⟨b,rfl,hbl,hcells,hb0⟩;have HC:=Ω hcells;have HB0:=Ω hb0;have HR0:=Ω (show Rd w0 g s i p from Blk.call HR.out hb0);clear hcells hb0
 go_wp2_with fail
 go_loopw [7] (λq wr=>∃ k:Nat,k<=23/\q=.int .i64 k/\Rz (s.data.toList.drop i) k/\Below w0.heap.size w0 wr) (λq _=>23-(intOf q).toNat)
 case atStart=>exact⟨0,ArX _,rfl,λj hj=>absurd hj (by omega),Below.refl _ _⟩
 case round=>
  obtain⟨k,hk,rfl,hno,hb⟩:=hrel;have HNO:=Ω hno;clear hno
  by_cases hlt:k<23
  .have hc:=(hb.cell (p:=⟨b,k,none⟩) hbl).trans (HC.out k hlt)
   have hrd:Rd wr g s i p:=Blk.call HR0.out hb;obtain⟨c0,c1,_⟩:=hrd.cells;have HB:=Ω hb;have HRD:=Ω hrd;have l0:g<wr.heap.size:=BB c0;have l1:b<wr.heap.size:=BB hc;have q0:(0:Int)<=(k:Int):=by omega
   have q1:(k:Int)<23:=by omega
   have q2:(0:Int)<=(i:Int):=by omega
   have q3:(i:Int)<=(s.size:Int):=by omega
   generalize hx:sgB k=x at *;have HX:=Ω hx;clear hx hb hrd;have hpv:∃ v,Lib.hasPrefix (s.extract i s.size).data.toList x.data.toList=v:=⟨_,rfl⟩;obtain⟨v,hv⟩:=hpv;have HV:=Ω hv;clear hv
   go_wp2_with fail
   refine AI (by kernel_rfl) (by kernel_rfl) ?_
   repeat (go_big_quiet_step ((exact V7 ((Tryz.strings_HasPrefix _ _ _).mono λe w' h=>⟨h.1.trans (by rw[HV.out]),h.2.symm⟩))))
   refine wpQuiet_nil ?_;rintro _ ⟨y,rfl⟩;have hby:=AY wr y;generalize later wr y=w1 at *;have HB1:=Ω (AQ HB.out hby);have HRD1:=Ω (show Rd w1 g s i p from Blk.call HRD.out hby);have HPV:=Ω (show (Hf.getD k []).isPrefixOf (s.data.toList.drop i)=v by rw[←AgJ s i,←UO k,HX.out];exact HV.out);have HXL:=Ω (show x.data.toList=Hf.getD k [] by rw[←HX.out];exact UO k);clear hby hc c0 c1 l0 l1
   cases v with
   |true=>
    have HLEN:=Ω (Ad1 HNO.out hlt HPV.out);have HCUT:=Ω (WA HPV.out);have hxs:x.size=(Hf.getD k []).length:=by rw[←HXL.out];simp
    have hle:i+x.size<=s.size:=by
     have h1:=(AtD.1 HPV.out).length_le;have e:(s.data.toList.drop i).length=s.size-i:=by simp
     rw[hxs];omega
    have HXS:=Ω hxs;clear hxs
    go_wp2_with fail
    go_loopw [24] (λq wr=>∃ m:Nat,m<=x.size/\q=.int .i64 m/\Rd wr g s (i+m) (CP s i p m)/\w1.grownBy wr (some g)) (λq _=>x.size-(intOf q).toNat)
    case atStart=>exact⟨0,ArX _,rfl,by simpa[CP,adv]using HRD1.out,AJ (Below.refl _ _)⟩
    case round=>
     obtain⟨m,hm,rfl,hrd,hgr⟩:=hrel;have HRM:=Ω hrd;have HGR:=Ω hgr;clear hrd hgr
     by_cases hlt2:m<x.size
     .go_wp2_with fail
      refine(E6 s g _ _ wr (by omega) (by omega) ((FZ s i m p HP.out (by omega)).small (by omega)) HRM.out).mono ?_;rintro e2 w2 ⟨rfl,hrd2,hg2⟩;have HRD2:=Ω hrd2;have HG2:=Ω hg2;clear hrd2 hg2
      go_wp2_with fail
      go_roundw
      case rel=>
       refine⟨m+1,hlt2,by go_num,?_,A1 HGR.out HG2.out⟩;have h1:=HRD2.out;rw[D4 s i m p (by omega),Aro]at h1;exact h1
      case measure=>simp[intOf];omega
     .obtain rfl:m=x.size:=by omega
      go_wp2
      go_ret
      refine⟨_,rfl,?_,?_,A1 (AJ (AQ HB0.out HB1.out)) HGR.out⟩
      .rw[HLEN.out,HXL.out]
       exact HCUT.out
      .rw[HLEN.out,←HXS.out]
       exact HRM.out
   |false=>
    have HNO2:=Ω (show Rz (s.data.toList.drop i) (k+1) from λj hj=>(Atb.1 hj).elim (HNO.out j) λe=>by subst e;exact HPV.out)
    go_wp2_with fail
    go_roundw
    case rel=>exact⟨k+1,hlt,by go_num,HNO2.out,HB1.out⟩
    case measure=>simp[intOf];omega
  .obtain rfl:k=23:=by omega
   have HZ:=Ω (Ws HNO.out)
   go_wp2
   go_ret
   refine⟨_,rfl,by rw[HZ.out];rfl,?_,AJ (AQ HB0.out hb)⟩;rw[HZ.out];have h1:=Blk.call HR0.out hb;exact h1
theorem Dq(s:ByteArray):s.data.toList.length=s.size:=by simp
theorem OC{s:ByteArray}(h:s.size=0):s=⟨#[]⟩:=by
 cases s with
 |mk d=>
  have:d.size=0:=h;rw[Array.eq_empty_of_size_eq_zero this]
theorem Akn(s:ByteArray):s.data.toList.all BF=true ↔ ∀ k,k<s.size->BF (Cy s k)=true:=by
 rw[Arg];constructor
 .intro h k hk
  unfold Cy;rw[ArP,Ψ (by rw[Dq];exact hk)];exact h _ (Ars _)
 .intro h x hx
  obtain⟨k,hk,rfl⟩:=Asx hx;have h2:=h k (by rwa [Dq]at hk);unfold Cy at h2
  rwa [ArP,Ψ hk]at h2
set_option maxRecDepth 100000 in
set_option maxHeartbeats 4000000 in
theorem KF(s:ByteArray)(w:World)(hs:s.size<=9223372036854775807):Calls ψ 108 #[.string s] w λe w'=>e=.returned (.bool (DS s.data.toList))/\Below w.heap.size w w':=by
 by_cases h0:s.size=0
 .obtain rfl:=OC h0
  go_enter Tryz.func108,Tryz.ntmps108
  go_wp2
  go_ret
  exact⟨rfl,Below.refl _ _⟩
 have hne:¬ s.toList=[]:=by rw[As3];intro h;have:=Dq s;rw[h]at this;simp at this;omega
 have hni:s.toList.isEmpty=false:=by simpa using hne
 have hpos:0<s.size:=by omega
 have hmt:s.data.toList.isEmpty=false:=by rw[←As3];exact hni
 by_cases h60:60<s.size
 .have HF := Ω (show DS s.data.toList = false by         unfold DS;rw[Dq];have:decide (s.size<=60)=false:=by simpa using h60
                                                         rw[this];simp)
  have q:(60:Int)<(s.size:Int):=by omega
  clear hmt
  go_enter Tryz.func108,Tryz.ntmps108
  go_wp2
  go_ret
  exact⟨B0 HF.out.symm,Below.refl _ _⟩
 have q60:¬ (60:Int)<(s.size:Int):=by omega
 have hv:=Mr s 0 hpos;have h60':decide (s.size<=60)=true:=by simpa using h60
 have hd:s.data.toList.getD 0 0=Cy s 0:=rfl
 by_cases hz:1<s.size/\(Cy s 0).toNat=48
 .have HF:=Ω (show DS s.data.toList=false by
   unfold DS;rw[Dq,hd,hz.2];have:decide (1<s.size)=true:=by simpa using hz.1
   rw[this];simp)
  have q1:(1:Int)<(s.size:Int):=by omega
  have q2:((s[0].toNat:Int) == 48)=true:=by rw[hv,hz.2];rfl
  clear hz hv hd h60' hmt
  go_enter Tryz.func108,Tryz.ntmps108
  go_wp2
  go_ret
  exact⟨B0 HF.out.symm,Below.refl _ _⟩
 .have HF:=Ω (show DS s.data.toList=s.data.toList.all BF by
   unfold DS;rw[Dq,hd,h60',hmt];have:(decide (1<s.size)&&(Cy s 0).toNat == 48)=false:=by
    rw[At2]
    by_cases h1:1<s.size
    .right;rw[beq_eq_false_iff_ne];exact λh=>hz ⟨h1,h⟩
    .left;simpa using h1
   rw[this];simp)
  have HALL:=Ω (Akn s);have HV:=Ω (λk (h:k<s.size)=>Mr s k h)
  have main:∀(q:(¬ (1:Int)<(s.size:Int))\/((1:Int)<(s.size:Int)/\((s[0].toNat:Int) == 48)=false)),Calls ψ 108 #[.string s] w λe w'=>e=.returned (.bool (DS s.data.toList))/\Below w.heap.size w w':=by
   clear hz hd h60' hmt hv;intro q;rcases q with q1|⟨q1,q2⟩
   all_goals
    go_enter Tryz.func108,Tryz.ntmps108
    go_wp2_with fail
    go_loopw [24] (λ_ wr=>∃ k:Nat,k<=s.size/\(∀ j,j<k->BF (Cy s j)=true)/\wr=w.iter s k) (λ_ wr=>s.size-wr.iterPos w.heap.size)
    case atStart=>exact⟨0,ArX _,λj hj=>absurd hj (by omega),rfl⟩
    case round=>
     obtain⟨k,hk,hall,rfl⟩:=hrel;have HA:=Ω hall;clear hall
     by_cases hlt:k<s.size
     .have HVK:=Ω (HV.out k hlt)
      by_cases hasc:s[k].toNat<128
      .have hnx:=λty=>run_next_ascii (P:=ψ) w s k ty hlt hasc
       have hc:=s[k].toNat_lt
       by_cases hdg:48<=s[k].toNat/\s[k].toNat<=57
       .have hd1:=hdg.1
        have hd2:=hdg.2;have HD:=Ω (show BF (Cy s k)=true by rw[←HVK.out];unfold BF;simp;exact hdg);clear hdg;generalize s[k].toNat=c at *;have z1:¬ (c:Int)<48:=by omega
        have z2:¬ (57:Int)<(c:Int):=by omega
        go_wp2
        go_roundw
        case rel=>exact⟨k+1,hlt,λj hj=>(Atb.1 hj).elim (HA.out j) λe=>by subst e;exact HD.out,rfl⟩
        case measure=>simp;omega
       .have HNO:=Ω (show s.data.toList.all BF=false by
         refine AtH.2 λh=>?_
         have h2:=HALL.out.1 h k hlt;rw[←HVK.out]at h2;unfold BF at h2;simp at h2;exact hdg h2)
        have hz':(s[k].toNat:Int)<48\/¬ (s[k].toNat:Int)<48/\(57:Int)<(s[k].toNat:Int):=by omega
        clear hdg;generalize s[k].toNat=c at *;rcases hz' with z1|⟨z1,z2⟩
        all_goals
         go_wp2
         go_ret
         exact⟨B0 (by rw[HF.out,HNO.out]),(Below.refl _ _).alloc (ω _) _⟩
      .have hnx:=λty=>run_next_any (P:=ψ) w s k ty hlt
       have hhi:=(decode_high s k hlt (by omega)).1;have HNO:=Ω (show s.data.toList.all BF=false by
        refine AtH.2 λh=>?_
        have h2:=HALL.out.1 h k hlt;rw[←HVK.out]at h2;unfold BF at h2;simp at h2;omega)
       clear hasc;generalize (Utf8.decode s k).1=c at *;have z1:¬ (c:Int)<48:=by omega
       have z2:(57:Int)<(c:Int):=by omega
       go_wp2
       go_ret
       exact⟨B0 (by rw[HF.out,HNO.out]),(Below.refl _ _).alloc (ω _) _⟩
     .obtain rfl:k=s.size:=by omega
      have hnx:=λty=>run_next_end (P:=ψ) w s s.size ty (Nat.lt_irrefl _)
      have HYES:=Ω (HALL.out.2 HA.out)
      go_wp2
      go_ret
      exact⟨B0 (by rw[HF.out,HYES.out]),(Below.refl _ _).alloc (ω _) _⟩
  by_cases h1:1<s.size
  .refine main (.inr ⟨by omega,?_⟩)
   rw[hv,beq_eq_false_iff_ne];have:(Cy s 0).toNat≠48:=λh=>hz ⟨h1,h⟩
   omega
  .exact main (.inl (by omega))
theorem Afi(q:UInt8->Bool)(s:ByteArray):s.data.toList.all q=true ↔ ∀ k,k<s.size->q (Cy s k)=true:=by
 rw[Arg];constructor
 .intro h k hk
  unfold Cy;rw[ArP,Ψ (by rw[Dq];exact hk)];exact h _ (Ars _)
 .intro h x hx
  obtain⟨k,hk,rfl⟩:=Asx hx;have h2:=h k (by rwa [Dq]at hk);unfold Cy at h2
  rwa [ArP,Ψ hk]at h2
set_option maxRecDepth 100000 in
set_option maxHeartbeats 4000000 in
theorem U8(s:ByteArray)(w:World)(hs:s.size<=9223372036854775807):Calls ψ 168 #[.string s] w λe w'=>e=.returned (.bool (Gd s.data.toList))/\Below w.heap.size w w':=by
 by_cases h0:s.size=0
 .obtain rfl:=OC h0
  go_enter Tryz.func168,Tryz.ntmps168
  go_wp2
  go_ret
  exact⟨rfl,Below.refl _ _⟩
 have hne:¬ s.toList=[]:=by rw[As3];intro h;have:=Dq s;rw[h]at this;simp at this;omega
 have hni:s.toList.isEmpty=false:=by simpa using hne
 have hpos:0<s.size:=by omega
 have hmt:s.data.toList.isEmpty=false:=by rw[←As3];exact hni
 by_cases h20:20<s.size
 .have HF := Ω (show Gd s.data.toList = false by          unfold Gd;rw[Dq];have:decide (s.size<=20)=false:=by simpa using h20
                                                          rw[this];simp)
  have q:(20:Int)<(s.size:Int):=by omega
  clear hmt
  go_enter Tryz.func168,Tryz.ntmps168
  go_wp2
  go_ret
  exact⟨B0 HF.out.symm,Below.refl _ _⟩
 have q20:¬ (20:Int)<(s.size:Int):=by omega
 have h20':decide (s.size<=20)=true:=by simpa using h20
 have hd:s.data.toList.getD 0 0=Cy s 0:=rfl;have HV:=Ω (λk (h:k<s.size)=>Mr s k h);have HF:=Ω (show Gd s.data.toList=(D2 (Cy s 0)&&s.data.toList.all Ep) by
  unfold Gd;rw[Dq,hd,h20',hmt];simp)
 have HALL:=Ω (Afi Ep s);have HPOS:=Ω hpos;clear h20' hd hmt;rcases hl:D2 (Cy s 0) with _|_
 .have HL:=Ω hl
  clear hl
  go_enter Tryz.func168,Tryz.ntmps168
  go_wp2_with fail
  refine(D1 (Cy s 0) _ w (by rw[HV.out 0 HPOS.out])).mono ?_;rw[HL.out];rintro e w' ⟨rfl,rfl⟩
  go_wp2
  go_ret
  exact⟨B0 (by rw[HF.out,HL.out];rfl),Below.refl _ _⟩
 .have HL:=Ω hl
  clear hl
  go_enter Tryz.func168,Tryz.ntmps168
  go_wp2_with fail
  refine(D1 (Cy s 0) _ w (by rw[HV.out 0 HPOS.out])).mono ?_;rw[HL.out];rintro e w' ⟨rfl,rfl⟩
  go_wp2_with fail
  go_loop [19] (λq=>∃ k:Nat,k<=s.size/\(∀ j,j<k->Ep (Cy s j)=true)/\q=.int .i64 k) (λq=>s.size-(intOf q).toNat)
  case atStart=>exact⟨0,ArX _,λj hj=>absurd hj (by omega),rfl⟩
  case round=>
   obtain⟨k,hk,hall,rfl⟩:=hrel;have HA:=Ω hall;clear hall
   by_cases hlt:k<s.size
   .have HVK:=Ω (HV.out k hlt)
    have z0:(0:Int)<=(k:Int):=by omega
    have z1:(k:Int)<(s.size:Int):=by omega
    rcases hi:Ep (Cy s k) with _|_
    .have HI:=Ω hi
     have HNO:=Ω (show s.data.toList.all Ep=false from AtH.2 λh=>by have h2:=HALL.out.1 h k hlt;rw[hi]at h2;cases h2);clear hi
     go_wp2_with fail
     refine(MM (Cy s k) _ w (by rw[HVK.out])).mono ?_;rw[HI.out];rintro e w' ⟨rfl,rfl⟩
     go_wp2
     go_ret
     exact⟨B0 (by rw[HF.out,HL.out,HNO.out];rfl),Below.refl _ _⟩
    .have HI:=Ω hi
     clear hi
     go_wp2_with fail
     refine(MM (Cy s k) _ w (by rw[HVK.out])).mono ?_;rw[HI.out];rintro e w' ⟨rfl,rfl⟩
     go_wp2_with fail
     go_round
     case rel=>exact⟨k+1,hlt,λj hj=>(Atb.1 hj).elim (HA.out j) λe=>by subst e;exact HI.out,by go_num⟩
     case measure=>simp[intOf];omega
   .obtain rfl:k=s.size:=by omega
    have HYES:=Ω (HALL.out.2 HA.out)
    go_wp2
    go_ret
    exact⟨B0 (by rw[HF.out,HL.out,HYES.out];rfl),Below.refl _ _⟩
def Alw:List ByteArray:=Alv.map λl=>⟨l.toArray⟩
theorem Alx(s:ByteArray):Lib.containsS (Alw.take 8) s=AgH s.data.toList:=by
 rw[Bool.eq_iff_iff,Lib.containsS_iff];unfold AgH Alw;rw[AsF (by simp[Alv]),List.mem_map,List.contains_iff_mem];constructor
 .rintro⟨l,hl,rfl⟩
  simpa using hl
 .intro h
  refine⟨_,h,?_⟩
  cases s
  simp
set_option maxRecDepth 100000 in
set_option maxHeartbeats 4000000 in
theorem Su(s:ByteArray)(w:World):Calls ψ 169 #[.string s] w λe w'=>e=.returned (.bool (AgH s.data.toList))/\Below w.heap.size w w':=by
 have HR:=Ω (Alx s)
 go_enter Tryz.func169,Tryz.ntmps169
 go_wp2_with fail
 refine(Tryz.slices_Contains_string w.heap.size 0 8 8 Alw s _ (by decide) (by decide) ?hc).mono ?_
 case hc=>
  intro j hj;have hj':j<8:=hj;rw[Ary,(Blk.new w _ _).cell]
  iterate 8 (rcases j with _|j;· rfl)
  omega
 rw[HR.out];rintro e w' ⟨rfl,rfl⟩
 go_wp2
 go_ret
 exact⟨rfl,Ba w _⟩
set_option maxRecDepth 100000 in
set_option maxHeartbeats 4000000 in
theorem Ac6(s:ByteArray)(w:World)(hs:s.size<=9223372036854775807):Calls ψ 109 #[.string s] w λe w'=>e=.returned (.bool (Cq s.data.toList))/\Below w.heap.size w w':=by
 rcases h1:Gd s.data.toList with _|_
 .have H1:=Ω h1
  clear h1
  go_enter Tryz.func109,Tryz.ntmps109
  go_wp2_with fail
  refine(U8 s w hs).mono ?_;rw[H1.out];rintro e w1 ⟨rfl,hb⟩;have HB:=Ω hb;clear hb
  go_wp2
  go_ret
  exact⟨B0 (by unfold Cq;rw[H1.out];rfl),HB.out⟩
 .have H1:=Ω h1
  clear h1
  go_enter Tryz.func109,Tryz.ntmps109
  go_wp2_with fail
  refine(U8 s w hs).mono ?_;rw[H1.out];rintro e w1 ⟨rfl,hb⟩;have HB:=Ω hb;clear hb
  go_wp2_with fail
  refine(Su s w1).mono ?_;rintro e w2 ⟨rfl,hb2⟩;have HB2:=Ω (AQ HB.out hb2);clear hb2
  go_wp2
  go_ret
  exact⟨B0 (by unfold Cq;rw[H1.out];rfl),HB2.out⟩
def Jk(k:Nat)(t:ByteArray)(p:Nat × Nat):Value:=.agg #[.int .i64 k,.string t,.int .i64 p.1,.int .i64 p.2]
def JN:Value:=.agg #[.int .i64 0,.string ⟨#[]⟩,.int .i64 0,.int .i64 0]
set_option maxRecDepth 100000 in
set_option maxHeartbeats 4000000 in
theorem Uv(t:ByteArray)(a b:Nat)(w:World)(h:60<t.size)(hs:t.size<=9223372036854775807):Calls ψ 216 #[.string t,.agg #[.int .i64 a,.int .i64 b]] w λe w'=>e=.returned (.tuple #[JN,.int .i64 2])/\Below w.heap.size w w':=by
 have q:(60:Int)<(t.size:Int):=by omega
 go_enter Tryz.func216,Tryz.ntmps216
 go_wp2
 exact bodyPost_ret (v:=.tuple #[JN,.int .i64 2]) (by simp[results,Tryz.results216,go_sem,JN]) rfl ⟨rfl,CL (Ba _ _)⟩
theorem On{w:World}{g:Nat}{t:TypeId}{x0 x1 x2 x3:Value}(h:Blk w g t #[x0,x1,x2,x3])(a b c d:Value):Blk ((((w.setCell ⟨g,0,none⟩ a).setCell ⟨g,1,none⟩ b).setCell ⟨g,2,none⟩ c).setCell ⟨g,3,none⟩ d) g t #[a,b,c,d]:=by
 simpa using (((h.set_ 0 a).set_ 1 b).set_ 2 c).set_ 3 d
theorem Ec{W:World}{g:Nat}{t:TypeId}{a b c d:Value}(h:Blk W g t #[a,b,c,d]):W.cell? ⟨g,0,none⟩=some a/\W.cell? ⟨g,1,none⟩=some b/\W.cell? ⟨g,2,none⟩=some c/\W.cell? ⟨g,3,none⟩=some d:=by
 rw[h.cell,h.cell,h.cell,h.cell];exact⟨rfl,rfl,rfl,rfl⟩
theorem Ef{W:World}{g:Nat}{t:TypeId}{cs:Array Value}(h:Blk W g t cs):W.frozen? ⟨g,0,none⟩=false/\W.frozen? ⟨g,1,none⟩=false/\W.frozen? ⟨g,2,none⟩=false/\W.frozen? ⟨g,3,none⟩=false:=
 ⟨h.frozen 0,h.frozen 1,h.frozen 2,h.frozen 3⟩
theorem Om{W w:World}{g:Nat}(h:Below W.heap.size W w)(hp:W.heap.size<=g)(a b c d:Value):Below W.heap.size W ((((w.setCell ⟨g,0,none⟩ a).setCell ⟨g,1,none⟩ b).setCell ⟨g,2,none⟩ c).setCell ⟨g,3,none⟩ d):=
 Dh (Dh (Dh (Dh h hp) hp) hp) hp
theorem Oq(w:World)(t1 t2:TypeId)(c1 c2:Array Value):Blk ((w.alloc (.cells c1 t1)).alloc (.cells c2 t2)) w.heap.size t1 c1/\Blk ((w.alloc (.cells c1 t1)).alloc (.cells c2 t2)) (w.heap.size+1) t2 c2/\Below w.heap.size w ((w.alloc (.cells c1 t1)).alloc (.cells c2 t2)):=by
 refine⟨(Blk.new w t1 c1).alloc _,?_,CL (Ba _ _)⟩;have:=Blk.new (w.alloc (.cells c1 t1)) t2 c2
 rwa [World.size_alloc]at this
set_option maxRecDepth 100000 in
set_option maxHeartbeats 4000000 in
theorem LG(t:ByteArray)(a b:Nat)(w:World)(h:¬ 60<t.size):Calls ψ 216 #[.string t,.agg #[.int .i64 a,.int .i64 b]] w λe w'=>
  e=.returned (.tuple (if DS t.data.toList then #[Jk 3 t (a,b),.int .i64 0] else #[JN,.int .i64 20]))/\Below w.heap.size w w':=by
 have q:¬ (60:Int)<(t.size:Int):=by omega
 rcases hn:DS t.data.toList with _|_
 .have HN:=Ω hn
  clear hn
  go_enter Tryz.func216,Tryz.ntmps216
  go_wp2_with fail
  refine(KF t _ (by omega)).mono ?_;rw[HN.out];rintro e w' ⟨rfl,hb⟩;obtain⟨k1,k2,k3⟩:=Oq w 25 164 #[.int .i64 a,.int .i64 b] #[.int .i64 0,.string ⟨#[]⟩,.int .i64 0,.int .i64 0];generalize ((w.alloc (.cells #[.int .i64 a,.int .i64 b] 25)).alloc (.cells #[.int .i64 0,.string ⟨#[]⟩,.int .i64 0,.int .i64 0] 164))=W0 at *;have HB:=Ω (AQ k3 hb);have HK1:=Ω (k1.call hb);have HK2:=Ω (k2.call hb);obtain⟨c0,c1,c2,c3⟩:=Ec (k2.call hb);obtain⟨f0,f1,f2,f3⟩:=Ef (k2.call hb);have d0:=(k1.call hb).cell 0;have d1:=(k1.call hb).cell 1;simp only[Asd,ArZ,ArF]at d0 d1;clear hb k1 k2 k3
  go_wp2
  obtain⟨e0,e1,e2,e3⟩:=Ec (On HK2.out (.int .i64 0) (.string ⟨#[]⟩) (.int .i64 0) (.int .i64 0));refine bodyPost_ret (v:=.tuple #[JN,.int .i64 20]) (by simp[results,Tryz.results216,go_sem,JN,e0,e1,e2,e3]) rfl ⟨rfl,Om HB.out (by omega) (.int .i64 0) (.string ⟨#[]⟩) (.int .i64 0) (.int .i64 0)⟩
 .have HN:=Ω hn
  clear hn
  go_enter Tryz.func216,Tryz.ntmps216
  go_wp2_with fail
  refine(KF t _ (by omega)).mono ?_;rw[HN.out];rintro e w' ⟨rfl,hb⟩;obtain⟨k1,k2,k3⟩:=Oq w 25 164 #[.int .i64 a,.int .i64 b] #[.int .i64 0,.string ⟨#[]⟩,.int .i64 0,.int .i64 0];generalize ((w.alloc (.cells #[.int .i64 a,.int .i64 b] 25)).alloc (.cells #[.int .i64 0,.string ⟨#[]⟩,.int .i64 0,.int .i64 0] 164))=W0 at *;have HB:=Ω (AQ k3 hb);have HK1:=Ω (k1.call hb);have HK2:=Ω (k2.call hb);obtain⟨c0,c1,c2,c3⟩:=Ec (k2.call hb);obtain⟨f0,f1,f2,f3⟩:=Ef (k2.call hb);have d0:=(k1.call hb).cell 0;have d1:=(k1.call hb).cell 1;simp only[Asd,ArZ,ArF]at d0 d1;clear hb k1 k2 k3
  go_wp2
  obtain⟨e0,e1,e2,e3⟩:=Ec (On HK2.out (.int .i64 3) (.string t) (.int .i64 a) (.int .i64 b));refine bodyPost_ret (v:=.tuple #[Jk 3 t (a,b),.int .i64 0]) (by simp[results,Tryz.results216,go_sem,Jk,e0,e1,e2,e3]) rfl ⟨rfl,Om HB.out (by omega) (.int .i64 3) (.string t) (.int .i64 a) (.int .i64 b)⟩
def RB(s:ByteArray)(g i:Nat)(p:Nat × Nat)(w:World)(r:Tok1)(e:Ending)(w':World):Prop:=match r with
 |.fin=>e=.returned (.tuple #[Jk 5 ⟨#[]⟩ p,.int .i64 0])/\w.grownBy w' (some g)
 |.err c=>e=.returned (.tuple #[JN,.int .i64 c])/\w.grownBy w' (some g)
 |.tok k n=>∃ t:ByteArray,e=.returned (.tuple #[Jk k t p,.int .i64 0])/\t.data.toList=cut s i n/\Rd w' g s (i+n) (CP s i p n)/\w.grownBy w' (some g)
structure TB (w:World) (g:Nat) (s:ByteArray) (i j:Nat) (p q:Nat × Nat) (R P:Nat) (W:World):Prop where
 rd:Rd W g s j q
 gr:w.grownBy W (some g)
 k1:Blk W R 164 #[.int .i64 0,.string ⟨#[]⟩,.int .i64 0,.int .i64 0]
 k2:Blk W P 25 #[.int .i64 p.1,.int .i64 p.2]
 hR:w.heap.size<=R
 hP:w.heap.size<=P
 hg:g<w.heap.size
section
variable {w:World} {g:Nat} {s:ByteArray} {i j j':Nat} {p q q':Nat × Nat} {R P:Nat} {W W':World}
theorem TB.call(h:TB w g s i j p q R P W)(hb:Below W.heap.size W W'):TB w g s i j p q R P W':=⟨Blk.call h.rd hb,A1 h.gr (AJ hb),h.k1.call hb,h.k2.call hb,h.hR,h.hP,h.hg⟩
theorem TB.turn(h:TB w g s i j p q R P W)(hr:Rd W' g s j' q')(hgr:W.grownBy W' (some g)):TB w g s i j' p q' R P W':=by
 have k1:Blk W' R _ _:=(hgr.block R h.k1.lt (λe=>by have:=h.hR;have:=h.hg;cases e;omega)).trans h.k1;have k2:Blk W' P _ _:=(hgr.block P h.k2.lt (λe=>by have:=h.hP;have:=h.hg;cases e;omega)).trans h.k2;exact⟨hr,A1 h.gr hgr,k1,k2,h.hR,h.hP,h.hg⟩
theorem TB.cells(h:TB w g s i j p q R P W):W.cell? ⟨g,0,none⟩=some (.string s)/\W.cell? ⟨g,1,none⟩=some (.int .i64 j)/\W.cell? ⟨P,0,none⟩=some (.int .i64 p.1)/\W.cell? ⟨P,1,none⟩=some (.int .i64 p.2):=by
 obtain⟨c0,c1,_⟩:=h.rd.cells;refine⟨c0,c1,?_,?_⟩
 .rw[h.k2.cell];rfl
 .rw[h.k2.cell];rfl
theorem TB.end_(h:TB w g s i j p q R P W)(a b c d:Value):let W':=(((W.setCell ⟨R,0,none⟩ a).setCell ⟨R,1,none⟩ b).setCell ⟨R,2,none⟩ c).setCell ⟨R,3,none⟩ d
  Rd W' g s j q/\w.grownBy W' (some g)/\W'.cell? ⟨R,0,none⟩=some a/\W'.cell? ⟨R,1,none⟩=some b/\W'.cell? ⟨R,2,none⟩=some c/\W'.cell? ⟨R,3,none⟩=some d:=by
 have hne:g≠R:=by have:=h.hR;have:=h.hg;omega
 refine⟨?_,?_,Ec (On h.k1 a b c d)⟩
 .exact(((Blk.far h.rd (p:=⟨R,0,none⟩) hne a).far (p:=⟨R,1,none⟩) hne b).far (p:=⟨R,2,none⟩) hne c).far (p:=⟨R,3,none⟩) hne d
 .obtain⟨h1,h2,h3,h4,h5⟩:=h.gr
  refine⟨h1,h2,h3,by simpa using h4,λk hk hn=>?_⟩;have hkR:k≠R:=by have:=h.hR;omega
  exact(Below.heap_setCell _ ⟨R,3,none⟩ d k hkR).trans ((Below.heap_setCell _ ⟨R,2,none⟩ c k hkR).trans ((Below.heap_setCell _ ⟨R,1,none⟩ b k hkR).trans ((Below.heap_setCell _ ⟨R,0,none⟩ a k hkR).trans (h5 k hk hn))))
end
theorem Ps(s:ByteArray)(i:Nat)(h:i<s.size):s.data.toList.drop i=Cy s i::s.data.toList.drop (i+1):=RX s i h
theorem Wu(t:ByteArray)(a b:Nat)(w:World)(h:¬ 60<t.size)(hn:DS t.data.toList=false):Calls ψ 216 #[.string t,.agg #[.int .i64 a,.int .i64 b]] w λe w'=>e=.returned (.tuple #[.agg #[.int .i64 0,.string ⟨#[]⟩,.int .i64 0,.int .i64 0],.int .i64 20])/\Below w.heap.size w w':=
 (LG t a b w h).mono λe w' he=>by rw[hn]at he;exact he
theorem Uu(t:ByteArray)(a b:Nat)(w:World)(h:¬ 60<t.size)(hn:DS t.data.toList=true):Calls ψ 216 #[.string t,.agg #[.int .i64 a,.int .i64 b]] w λe w'=>e=.returned (.tuple #[.agg #[.int .i64 3,.string t,.int .i64 a,.int .i64 b],.int .i64 0])/\Below w.heap.size w w':=
 (LG t a b w h).mono λe w' he=>by rw[hn]at he;exact he
theorem Uw(t:ByteArray)(a b:Nat)(w:World)(h:60<t.size)(hs:t.size<=9223372036854775807):Calls ψ 216 #[.string t,.agg #[.int .i64 a,.int .i64 b]] w λe w'=>e=.returned (.tuple #[.agg #[.int .i64 0,.string ⟨#[]⟩,.int .i64 0,.int .i64 0],.int .i64 2])/\Below w.heap.size w w':=Uv t a b w h hs
theorem st4{w:World}{P R o:Nat}{v a b c d:Value}(h:w.cell? ⟨P,o,none⟩=some v)(hne:P≠R):((((w.setCell ⟨R,0,none⟩ a).setCell ⟨R,1,none⟩ b).setCell ⟨R,2,none⟩ c).setCell ⟨R,3,none⟩ d).cell? ⟨P,o,none⟩=some v:=by
 rw[World.cell?_of_block (a:=⟨P,o,none⟩) (Below.heap_setCell _ ⟨R,3,none⟩ d P hne),World.cell?_of_block (a:=⟨P,o,none⟩) (Below.heap_setCell _ ⟨R,2,none⟩ c P hne),World.cell?_of_block (a:=⟨P,o,none⟩) (Below.heap_setCell _ ⟨R,1,none⟩ b P hne),World.cell?_of_block (a:=⟨P,o,none⟩) (Below.heap_setCell _ ⟨R,0,none⟩ a P hne)];exact h
theorem Abc(c:UInt8)(W:World):(convert 117 9 (.slice (some ⟨W.heap.size,0,none⟩) 1 1)).run ψ (W.alloc (.cells #[.int .u8 (c.toNat:Int)] 5))=.ok (.string ⟨#[c]⟩) (W.alloc (.cells #[.int .u8 (c.toNat:Int)] 5)):=by
 exact run_convert_bytes_back _ 117 9 5 _ 1 [c] Tryz.underlying117 Tryz.underlying5 Tryz.underlying9 λj hj=>by
  obtain rfl:j=0:=by simpa using hj
  rw[FI,(Blk.new W _ _).cell];rfl
theorem Xf(s:ByteArray)(i n:Nat)(h:i+n<=s.size):(cut s i n).length=n:=by
 unfold cut;rw[List.length_take,ArU,Dq];omega
theorem Jg{s t:ByteArray}{i n:Nat}(h:t.data.toList=cut s i n)(hn:i+n<=s.size):t.size=n:=by
 rw[←Dq,h,Xf s i n hn]
section
variable (s:ByteArray) (i:Nat) (h:i<s.size)
include h
theorem Aae(h1:D2 (Cy s i)=true):DM (s.data.toList.drop i)=if 20<Bg Ep s i then .err 2 else .tok 1 (Bg Ep s i):=by
 unfold Bg;rw[Ps s i h,B4,if_pos h1]
theorem Aen(h1:D2 (Cy s i)=false)(h2:BF (Cy s i)=true):DM (s.data.toList.drop i)=if 60<Bg BF s i then .err 2 else if 1<Bg BF s i/\(Cy s i).toNat=48 then .err 20 else .tok 3 (Bg BF s i):=by
 unfold Bg;rw[Ps s i h,B4,if_neg (by rw[h1];decide),if_pos h2]
theorem Ael(h1:D2 (Cy s i)=false)(h2:BF (Cy s i)=false)(h3:Hs (Cy s i)=true):DM (s.data.toList.drop i)=.tok 4 1:=by
 rw[Ps s i h,B4,if_neg (by rw[h1];decide),if_neg (by rw[h2];decide),if_pos h3]
theorem Aeo(h1:D2 (Cy s i)=false)(h2:BF (Cy s i)=false)(h3:Hs (Cy s i)=false):DM (s.data.toList.drop i)=if B3 (s.data.toList.drop i)=0 then .err 100 else .tok 2 (B3 (s.data.toList.drop i)):=by
 rw[Ps s i h,B4,if_neg (by rw[h1];decide),if_neg (by rw[h2];decide),if_neg (by rw[h3];decide)]
end
theorem UQ(q:UInt8->Bool):∀ l:List UInt8,(l.take (Fs q l)).all q=true
 |[]=>rfl
 |c::l=>by
  unfold Fs;split
  .rename_i hc
   rw[List.take_succ_cons,List.all_cons,hc,UQ q l];rfl
  .rfl
theorem Adg(s:ByteArray)(i:Nat)(h:i<s.size)(h2:BF (Cy s i)=true)(h60:¬ 60<Bg BF s i):DS (cut s i (Bg BF s i)) = !(decide (1<Bg BF s i)&&(Cy s i).toNat == 48):=by
 have hp:0<Bg BF s i:=by rw[Ri BF s i h,if_pos h2];omega
 have hl:=Xf s i (Bg BF s i) (M1 BF s i (by omega));unfold DS;have e1:(cut s i (Bg BF s i)).isEmpty=false:=by
  rw[List.isEmpty_eq_false_iff];intro e;rw[e]at hl;simp at hl;omega
 have e2:(cut s i (Bg BF s i)).getD 0 0=Cy s i:=by
  unfold cut;rw[Ps s i h,ArP,List.getElem?_take_of_lt hp];rfl
 have e3:(cut s i (Bg BF s i)).all BF=true:=UQ BF _;have e4:decide (Bg BF s i<=60)=true:=by rw[decide_eq_true_eq];omega
 rw[e1,hl,e2,e3,e4];simp
set_option maxRecDepth 100000 in
set_option maxHeartbeats 8000000 in
theorem Aaf(s:ByteArray)(g i:Nat)(p:Nat × Nat)(w:World)(hs:s.size<=20000)(hi:i<=s.size)(hp:Near p i)(hr:Rd w g s i p) :
  Calls ψ 161 #[.pointer (some ⟨g,0,none⟩)] w (RB s g i p w (DM (s.data.toList.drop i))):=by
 have hgl:g<w.heap.size:=Blk.lt hr;have HR:=Ω hr;have HP:=Ω hp;obtain⟨c0,c1,c2⟩:=hr.cells;generalize hT:DM (s.data.toList.drop i)=T;have HT:=Ω hT;clear hr hp hT
 go_enter Tryz.func161,Tryz.ntmps161
 go_wp2_with fail
 have hb0:=Ba w (.cells #[.int .i64 0,.string ⟨#[]⟩,.int .i64 0,.int .i64 0] 164);have hk0:=Blk.new w 164 #[.int .i64 0,.string ⟨#[]⟩,.int .i64 0,.int .i64 0];have HK0:=Ω hk0;have HB0:=Ω hb0;clear hk0 hb0 c0 c1 c2;refine(Sp p _ (HP.out.small (by omega))).mono ?_;rintro e w1 ⟨rfl,hb1⟩;have HB1:=Ω (AQ HB0.out hb1);have HK1:=Ω (HK0.out.call hb1);clear hb1 HB0 HK0
 go_wp2_with fail
 have hbo:=Ba w1 (.cells #[.int .i64 p.1,.int .i64 p.2] 25);have hkp:=Blk.new w1 25 #[.int .i64 p.1,.int .i64 p.2];have HTB:=Ω (show TB w g s i i p p w.heap.size w1.heap.size (w1.alloc (.cells #[.int .i64 p.1,.int .i64 p.2] 25)) from
  ⟨Blk.call HR.out (AQ HB1.out hbo),AJ (AQ HB1.out hbo),HK1.out.call hbo,hkp,ω _,HB1.out.size,hgl⟩)
 have hne:w.heap.size<w1.heap.size:=HK1.out.lt;clear hbo hkp HB1 HK1 HR;generalize (w1.alloc (.cells #[.int .i64 p.1,.int .i64 p.2] 25))=W2 at *;generalize w1.heap.size=P at *;generalize hRR:w.heap.size=R at *;refine(FN s g i p W2 HTB.out.rd).mono ?_;rintro e w3 ⟨rfl,hb3⟩;have HTB3:=Ω (HTB.out.call hb3);clear hb3 HTB;obtain⟨c0,c1,c2,c3⟩:=HTB3.out.cells;have l0:g<w3.heap.size:=BB c0;have l1:P<w3.heap.size:=BB c2;have l2:R<w3.heap.size:=HTB3.out.k1.lt
 by_cases he:i=s.size
 .have hq:((i:Int) == (s.size:Int))=true:=by rw[he];simp
  have HE:=Ω he;clear he
  go_wp2_with fail
  refine AI (by kernel_rfl) (by kernel_rfl) ?_
  repeat (go_big_quiet_step (fail))
  refine wpQuiet_nil ?_;rintro _ ⟨y,rfl⟩;have HTB4:=Ω (HTB3.out.call (AY w3 y));generalize later w3 y=w4 at *;clear c0 c1 c2 c3 l0 l1 l2;obtain⟨c0,c1,c2,c3⟩:=HTB4.out.cells;obtain⟨c4,c5,c6,c7⟩:=Ec HTB4.out.k1;obtain⟨f0,f1,f2,f3⟩:=Ef HTB4.out.k1
  go_wp2
  obtain⟨x0,x1,e0,e1,e2,e3⟩:=TB.end_ HTB4.out (.int .i64 5) (.string ⟨#[]⟩) (.int .i64 p.1) (.int .i64 p.2);refine bodyPost_ret (v:=.tuple #[Jk 5 ⟨#[]⟩ p,.int .i64 0]) (by simp[results,Tryz.results161,go_sem,Jk,e0,e1,e2,e3]) rfl ?_;rw[←HT.out];rw[HE.out,List.drop_of_length_le (by simp)];exact⟨rfl,x1⟩
 .have hlt:i<s.size:=by omega
  have hq:((i:Int) == (s.size:Int))=false:=by rw[beq_eq_false_iff_ne];omega
  clear he;rcases hl:D2 (Cy s i) with _|_
  .have HL:=Ω hl
   clear hl
   go_wp2_with fail
   refine AI (by kernel_rfl) (by kernel_rfl) ?_
   repeat (go_big_quiet_step (fail))
   refine wpQuiet_nil ?_;rintro _ ⟨y,rfl⟩;have HTB4:=Ω (HTB3.out.call (AY w3 y));generalize later w3 y=w4 at *;clear c0 c1 c2 c3 l0 l1 l2;obtain⟨c0,c1,c2,c3⟩:=HTB4.out.cells;obtain⟨c4,c5,c6,c7⟩:=Ec HTB4.out.k1;obtain⟨f0,f1,f2,f3⟩:=Ef HTB4.out.k1
   go_wp2_with fail
   refine(D1 (Cy s i) _ w4 rfl).mono ?_;rw[HL.out];rintro e w5 ⟨rfl,rfl⟩;rcases hd:BF (Cy s i) with _|_
   .have HD:=Ω hd
    clear hd
    go_wp2_with fail
    refine(GS (Cy s i) _ w4 rfl).mono ?_;rw[HD.out];rintro e w5 ⟨rfl,rfl⟩;rcases hbg:Hs (Cy s i) with _|_
    .have HBG:=Ω hbg
     have HTG:=Ω (Aeo s i hlt HL.out HD.out hbg);clear hbg
     go_wp2_with fail
     refine(Xa (Cy s i) _ w4 rfl).mono ?_;rw[HBG.out];rintro e w5 ⟨rfl,rfl⟩
     go_wp2_with fail
     refine(Ad0 s g i p w4 hs hi HP.out HTB4.out.rd).mono ?_;rintro e w5 ⟨t,rfl,htl,hrd,hgr⟩;have HTB5:=Ω (HTB4.out.turn hrd hgr);have HTL:=Ω htl;have hsl:B3 (s.data.toList.drop i)<=s.size-i:=by have:=Rh (s.data.toList.drop i);rwa [ArU,Dq]at this
     have hts:=Jg htl (by omega);clear hrd hgr htl hsl;clear c0 c1 c2 c3 c4 c5 c6 c7 f0 f1 f2 f3;obtain⟨c0,c1,c2,c3⟩:=HTB5.out.cells;obtain⟨c4,c5,c6,c7⟩:=Ec HTB5.out.k1;obtain⟨f0,f1,f2,f3⟩:=Ef HTB5.out.k1;generalize hn:B3 (s.data.toList.drop i)=n at *;clear hn
     by_cases hz:n=0
     .subst hz
      obtain rfl:=OC hts
      go_wp2
      obtain⟨x0,x1,e0,e1,e2,e3⟩:=TB.end_ HTB5.out (.int .i64 0) (.string ⟨#[]⟩) (.int .i64 0) (.int .i64 0);refine bodyPost_ret (v:=.tuple #[JN,.int .i64 100]) (by simp[results,Tryz.results161,go_sem,JN,e0,e1,e2,e3]) rfl ?_;rw[←HT.out];rw[HTG.out,if_pos trivial];exact⟨rfl,x1⟩
     .have hne1:¬ t.toList=[]:=by rw[As3];intro h;have:=Dq t;rw[h]at this;simp at this;omega
      have hne2:t.toList.isEmpty=false:=by simpa using hne1
      clear hts
      go_wp2
      obtain⟨x0,x1,e0,e1,e2,e3⟩:=TB.end_ HTB5.out (.int .i64 2) (.string t) (.int .i64 p.1) (.int .i64 p.2);refine bodyPost_ret (v:=.tuple #[Jk 2 t p,.int .i64 0]) (by simp[results,Tryz.results161,go_sem,Jk,e0,e1,e2,e3]) rfl ?_;rw[←HT.out];rw[HTG.out,if_neg hz];exact⟨t,rfl,HTL.out,x0,x1⟩
    .have HBG:=Ω hbg
     have HTG:=Ω (Ael s i hlt HL.out HD.out hbg);clear hbg
     go_wp2_with fail
     refine(Xa (Cy s i) _ w4 rfl).mono ?_;rw[HBG.out];rintro e w5 ⟨rfl,rfl⟩
     go_wp2_with fail
     refine(E6 s g i p w4 (by omega) hlt (HP.out.small (by omega)) HTB4.out.rd).mono ?_;rintro e w5 ⟨rfl,hrd,hgr⟩;have HTB5:=Ω (HTB4.out.turn hrd hgr);clear hrd hgr;clear c0 c1 c2 c3 c4 c5 c6 c7 f0 f1 f2 f3;obtain⟨c0,c1,c2,c3⟩:=HTB5.out.cells;obtain⟨c4,c5,c6,c7⟩:=Ec HTB5.out.k1;obtain⟨f0,f1,f2,f3⟩:=Ef HTB5.out.k1;have hcv:=Abc (Cy s i) w5;have l0:g<w5.heap.size:=BB c0;have l1:P<w5.heap.size:=BB c2;have l2:R<w5.heap.size:=BB c4
     go_wp2
     obtain⟨x0,x1,e0,e1,e2,e3⟩:=TB.end_ HTB5.out (.int .i64 4) (.string ⟨#[Cy s i]⟩) (.int .i64 p.1) (.int .i64 p.2);clear hcv c0 c1 c2 c3 c4 c5 c6 c7 f0 f1 f2 f3 l0 l1 l2;generalize ((((w5.setCell ⟨R,0,none⟩ (.int .i64 4)).setCell ⟨R,1,none⟩ (.string ⟨#[Cy s i]⟩)).setCell ⟨R,2,none⟩ (.int .i64 p.1)).setCell ⟨R,3,none⟩ (.int .i64 p.2))=W9 at *;have hbo:=Ba W9 (.cells #[.int .u8 ((Cy s i).toNat:Int)] 5);generalize W9.alloc (.cells #[.int .u8 ((Cy s i).toNat:Int)] 5)=W10 at *;have g0:=(hbo.cell (p:=⟨R,0,none⟩) (BB e0)).trans e0;have g1:=(hbo.cell (p:=⟨R,1,none⟩) (BB e0)).trans e1;have g2:=(hbo.cell (p:=⟨R,2,none⟩) (BB e0)).trans e2;have g3:=(hbo.cell (p:=⟨R,3,none⟩) (BB e0)).trans e3;refine bodyPost_ret (v:=.tuple #[Jk 4 ⟨#[Cy s i]⟩ p,.int .i64 0]) (by simp[results,Tryz.results161,go_sem,Jk,g0,g1,g2,g3]) rfl ?_;rw[←HT.out,HTG.out];refine⟨⟨#[Cy s i]⟩,rfl,?_,?_,A1 x1 (AJ hbo)⟩
     .unfold cut
      rw[Ps s i hlt];rfl
     .have e:CP s i p 1=Of p (Cy s i):=by unfold CP;rw[Ps s i hlt];rfl
      rw[e];exact Blk.call x0 hbo
   .have HD:=Ω hd
    clear hd
    go_wp2_with fail
    refine(GS (Cy s i) _ w4 rfl).mono ?_;rw[HD.out];rintro e w5 ⟨rfl,rfl⟩;clear c4 c5 c6 c7 f0 f1 f2 f3
    go_wp2_with fail
    have HTN:=Ω (Aen s i hlt HL.out HD.out);have HN:=Ω (M1 BF s i hi);have HNB:=Ω (Adg s i hlt HD.out);have HTBd:=Ω (HTB4.out.call (Kd (Below.refl _ _)));have hd2:w4.drew.cell? ⟨P,0,none⟩=some (.int .i64 p.1):=c2;have hd3:w4.drew.cell? ⟨P,1,none⟩=some (.int .i64 p.2):=c3;have hPR:P≠R:=by omega
    clear c0 c1 c2 c3;generalize hn:Bg BF s i=n at *;have HNN:=Ω hn;clear hn
    by_cases hlong:60<n
    .go_region_held3 (λw'=>w'.cell? ⟨P,0,none⟩=some (.int .i64 p.1)/\w'.cell? ⟨P,1,none⟩=some (.int .i64 p.2))
      (first|with_reducible exact⟨hd2,hd3⟩|with_reducible exact⟨v2,v3⟩|with_reducible exact⟨u2,u3⟩|with_reducible exact⟨st4 v2 hPR,st4 v3 hPR⟩)
      (first | (go_at_call 213;refine(Jm s g i p _ hs hi HP.out HTBd.out.rd).mono ?_;rintro e w5 ⟨t,rfl,htl,hrd,hgr⟩;rw[HNN.out]at htl hrd;have HTB5:=Ω (HTBd.out.turn hrd hgr);have HTL:=Ω htl;have HTS:=Ω (Jg htl HN.out);obtain⟨u0,u1,u2,u3⟩:=HTB5.out.cells;clear u0 u1 htl hrd hgr) | (go_at_call 216;refine(Uw t p.1 p.2 _ (by rw[HTS.out];exact hlong) (by rw[HTS.out];have:=HN.out;omega)).mono ?_;rintro e w6 ⟨rfl,hb6⟩;have HTB6:=Ω (HTB5.out.call hb6);clear hb6 u2 u3;obtain⟨v0,v1,v2,v3⟩:=HTB6.out.cells;obtain⟨c4,c5,c6,c7⟩:=Ec HTB6.out.k1;obtain⟨f0,f1,f2,f3⟩:=Ef HTB6.out.k1))
     go_wp2
     obtain⟨x0,x1,e0,e1,e2,e3⟩:=TB.end_ HTB6.out (.int .i64 0) (.string ⟨#[]⟩) (.int .i64 0) (.int .i64 0);refine bodyPost_ret (v:=.tuple #[JN,.int .i64 2]) (by simp[results,Tryz.results161,go_sem,JN,e0,e1,e2,e3]) rfl ?_;rw[←HT.out];rw[HTN.out,if_pos hlong];exact⟨rfl,x1⟩
    .by_cases hbad:1<n/\(Cy s i).toNat=48
     .have HNF := Ω (show DS (cut s i n) = false by         rw[HNB.out hlong,hbad.2];have:decide (1<n)=true:=by simpa using hbad.1
                                                            rw[this];rfl)
      go_region_held3 (λw'=>w'.cell? ⟨P,0,none⟩=some (.int .i64 p.1)/\w'.cell? ⟨P,1,none⟩=some (.int .i64 p.2))
       (first|with_reducible exact⟨hd2,hd3⟩|with_reducible exact⟨v2,v3⟩|with_reducible exact⟨u2,u3⟩|with_reducible exact⟨st4 v2 hPR,st4 v3 hPR⟩)
       (first | (go_at_call 213;refine(Jm s g i p _ hs hi HP.out HTBd.out.rd).mono ?_;rintro e w5 ⟨t,rfl,htl,hrd,hgr⟩;rw[HNN.out]at htl hrd;have HTB5:=Ω (HTBd.out.turn hrd hgr);have HTL:=Ω htl;have HTS:=Ω (Jg htl HN.out);obtain⟨u0,u1,u2,u3⟩:=HTB5.out.cells;clear u0 u1 htl hrd hgr) | (go_at_call 216;refine(Wu t p.1 p.2 _ (by rw[HTS.out];exact hlong) (by rw[HTL.out];exact HNF.out)).mono ?_;rintro e w6 ⟨rfl,hb6⟩;have HTB6:=Ω (HTB5.out.call hb6);clear hb6 u2 u3;obtain⟨v0,v1,v2,v3⟩:=HTB6.out.cells;obtain⟨c4,c5,c6,c7⟩:=Ec HTB6.out.k1;obtain⟨f0,f1,f2,f3⟩:=Ef HTB6.out.k1))
      go_wp2
      obtain⟨x0,x1,e0,e1,e2,e3⟩:=TB.end_ HTB6.out (.int .i64 0) (.string ⟨#[]⟩) (.int .i64 0) (.int .i64 0);refine bodyPost_ret (v:=.tuple #[JN,.int .i64 20]) (by simp[results,Tryz.results161,go_sem,JN,e0,e1,e2,e3]) rfl ?_;rw[←HT.out];rw[HTN.out,if_neg hlong,if_pos hbad];exact⟨rfl,x1⟩
     .have HNF:=Ω (show DS (cut s i n)=true by
       rw[HNB.out hlong,Bool.not_eq_true',At2]
       by_cases h1:1<n
       .right;rw[beq_eq_false_iff_ne];exact λh=>hbad ⟨h1,h⟩
       .left;simpa using h1)
      go_region_held3 (λw'=>w'.cell? ⟨P,0,none⟩=some (.int .i64 p.1)/\w'.cell? ⟨P,1,none⟩=some (.int .i64 p.2))
       (first|with_reducible exact⟨hd2,hd3⟩|with_reducible exact⟨v2,v3⟩|with_reducible exact⟨u2,u3⟩|with_reducible exact⟨st4 v2 hPR,st4 v3 hPR⟩)
       (first | (go_at_call 213;refine(Jm s g i p _ hs hi HP.out HTBd.out.rd).mono ?_;rintro e w5 ⟨t,rfl,htl,hrd,hgr⟩;rw[HNN.out]at htl hrd;have HTB5:=Ω (HTBd.out.turn hrd hgr);have HTL:=Ω htl;have HTS:=Ω (Jg htl HN.out);obtain⟨u0,u1,u2,u3⟩:=HTB5.out.cells;clear u0 u1 htl hrd hgr) | (go_at_call 216;refine(Uu t p.1 p.2 _ (by rw[HTS.out];exact hlong) (by rw[HTL.out];exact HNF.out)).mono ?_;rintro e w6 ⟨rfl,hb6⟩;have HTB6:=Ω (HTB5.out.call hb6);clear hb6 u2 u3;obtain⟨v0,v1,v2,v3⟩:=HTB6.out.cells;obtain⟨c4,c5,c6,c7⟩:=Ec HTB6.out.k1;obtain⟨f0,f1,f2,f3⟩:=Ef HTB6.out.k1))
      go_wp2
      obtain⟨x0,x1,e0,e1,e2,e3⟩:=TB.end_ HTB6.out (.int .i64 3) (.string t) (.int .i64 p.1) (.int .i64 p.2);refine bodyPost_ret (v:=.tuple #[Jk 3 t p,.int .i64 0]) (by simp[results,Tryz.results161,go_sem,Jk,e0,e1,e2,e3]) rfl ?_;rw[←HT.out];rw[HTN.out,if_neg hlong,if_neg hbad];exact⟨t,rfl,HTL.out,x0,x1⟩
  .have HL:=Ω hl
   clear hl
   go_wp2_with fail
   refine AI (by kernel_rfl) (by kernel_rfl) ?_
   repeat (go_big_quiet_step (fail))
   refine wpQuiet_nil ?_;rintro _ ⟨y,rfl⟩;have HTB4:=Ω (HTB3.out.call (AY w3 y));generalize later w3 y=w4 at *;clear c0 c1 c2 c3 l0 l1 l2;obtain⟨c0,c1,c2,c3⟩:=HTB4.out.cells;obtain⟨c4,c5,c6,c7⟩:=Ec HTB4.out.k1;obtain⟨f0,f1,f2,f3⟩:=Ef HTB4.out.k1;have HN:=Ω (M1 Ep s i hi);have HTW:=Ω (Aae s i hlt HL.out)
   go_wp2_with fail
   refine(D1 (Cy s i) _ w4 rfl).mono ?_;rw[HL.out];rintro e w5 ⟨rfl,rfl⟩
   go_wp2_with fail
   refine(U7 s g i p w4 hs hi HP.out HTB4.out.rd).mono ?_;rintro e w5 ⟨t,rfl,htl,hrd,hgr⟩;have HTB5:=Ω (HTB4.out.turn hrd hgr);have HTS:=Ω (Jg htl HN.out);have HTL:=Ω htl;clear hrd hgr htl;clear c0 c1 c2 c3 c4 c5 c6 c7 f0 f1 f2 f3;obtain⟨c0,c1,c2,c3⟩:=HTB5.out.cells;obtain⟨c4,c5,c6,c7⟩:=Ec HTB5.out.k1;obtain⟨f0,f1,f2,f3⟩:=Ef HTB5.out.k1;generalize hn:Bg Ep s i=n at *;clear hn
   by_cases hlong:20<n
   .have hts:t.size=n:=HTS.out
    have q20:(20:Int)<(t.size:Int):=by omega
    clear hts
    go_wp2
    obtain⟨x0,x1,e0,e1,e2,e3⟩:=TB.end_ HTB5.out (.int .i64 0) (.string ⟨#[]⟩) (.int .i64 0) (.int .i64 0);refine bodyPost_ret (v:=.tuple #[JN,.int .i64 2]) (by simp[results,Tryz.results161,go_sem,JN,e0,e1,e2,e3]) rfl ?_;rw[←HT.out];rw[HTW.out,if_pos hlong];exact⟨rfl,x1⟩
   .have hts:t.size=n:=HTS.out
    have q20:¬ (20:Int)<(t.size:Int):=by omega
    clear hts
    go_wp2
    obtain⟨x0,x1,e0,e1,e2,e3⟩:=TB.end_ HTB5.out (.int .i64 1) (.string t) (.int .i64 p.1) (.int .i64 p.2);refine bodyPost_ret (v:=.tuple #[Jk 1 t p,.int .i64 0]) (by simp[results,Tryz.results161,go_sem,Jk,e0,e1,e2,e3]) rfl ?_;rw[←HT.out];rw[HTW.out,if_neg hlong];exact⟨t,rfl,HTL.out,x0,x1⟩
def LexR.pre(ts:List Tk):LexR->LexR
 |.ok us=>.ok (ts++us)
 |.err e ln co=>.err e ln co
theorem LexR.pre_nil(r:LexR):r.pre []=r:=by cases r<;>rfl
theorem LexR.pre_more(ts:List Tk)(t:Tk)(r:LexR):(r.more t).pre ts=r.pre (ts++[t]):=by cases r<;>simp[LexR.more,LexR.pre]
def XB(s:ByteArray)(i:Nat)(p:Nat × Nat):LexR:=IC (s.data.toList.drop i) p
theorem AcI(s:ByteArray)(i:Nat)(p:Nat × Nat):XB s i p=match DM (s.data.toList.drop (i+BU false s i)) with
  |.fin=>.ok [⟨5,[],(CP s i p (BU false s i)).1,(CP s i p (BU false s i)).2⟩]
  |.err e=>.err e (CP s i p (BU false s i)).1 (CP s i p (BU false s i)).2
  |.tok kind n=>(XB s (i+BU false s i+n) (CP s (i+BU false s i) (CP s i p (BU false s i)) n)).more ⟨kind,cut s (i+BU false s i) n,(CP s i p (BU false s i)).1,(CP s i p (BU false s i)).2⟩:=by
 unfold XB BU;rw[Du,Atc];unfold CP cut;simp only[Atc,Aro];generalize DM _=T
 cases T<;>rfl
def N8(t:Tk):List Value:=[.int .i64 t.kind,.string ⟨t.text.toArray⟩,.int .i64 t.ln,.int .i64 t.co]
def Gc(ts:List Tk):List Value:=(ts.map N8).flatten
theorem Aej(ts:List Tk)(t:Tk):Gc (ts++[t])=Gc ts++N8 t:=by simp[Gc]
def AaH(w:World)(base:Nat)(v:Value)(ts:List Tk):Prop:=w.ownsRow base 164 4 v ts.length (Gc ts)
theorem WT:(Tryz.prog.info? 164).map (λi=>(i.zero,i.size,i.bytes))=some (some (.agg #[.int .i64 0,.string ⟨#[]⟩,.int .i64 0,.int .i64 0]),4,40):=by kernel_rfl
def AaF(r:LexR)(w:World)(e:Ending)(w':World):Prop:=match r with
 |.ok ts=>∃ v,e=.returned (.tuple #[v,.agg #[.int .i64 0,.int .i64 0],.int .i64 0])/\AaH w' w.heap.size v ts/\Below w.heap.size w w'
 |.err c ln co=>e=.returned (.tuple #[.slice none 0 0,.agg #[.int .i64 ln,.int .i64 co],.int .i64 c])/\Below w.heap.size w w'
theorem Mv{w:World}{g:Nat}{t:TypeId}{x y:Value}(h:Blk w g t #[x,y])(a b:Value):Blk ((w.setCell ⟨g,0,none⟩ a).setCell ⟨g,1,none⟩ b) g t #[a,b]:=by
 simpa using (h.set_ 0 a).set_ 1 b
theorem Hu{W:World}{g:Nat}{t:TypeId}{a b:Value}(h:Blk W g t #[a,b]):W.cell? ⟨g,0,none⟩=some a/\W.cell? ⟨g,1,none⟩=some b:=by
 rw[h.cell,h.cell];exact⟨rfl,rfl⟩
structure AC (w:World) (v:Value) (ts:List Tk) (W:World):Prop where
 q:Blk W w.heap.size 25 #[.int .i64 0,.int .i64 0]
 own:W.ownsRow (w.heap.size+2) 164 4 v ts.length (Gc ts)
 lo:w.heap.size+2<=W.heap.size
 below:Below w.heap.size w W
section
variable {w W W':World} {s:ByteArray} {i j:Nat} {p q:Nat × Nat} {v v':Value} {ts:List Tk}
theorem AC.call(h:AC w v ts W)(hb:Below W.heap.size W W'):AC w v ts W':=⟨h.q.call hb,Pf h.own hb,Ar9 h.lo hb.size,AQ h.below hb⟩
theorem AC.turn(h:AC w v ts W)(hg:W.grownBy W' (some (w.heap.size+1))):AC w v ts W':=by
 refine⟨?_,h.own.kept hg ?_,Ar9 h.lo hg.size,M8 h.below hg λk e=>by have:=Option.some.inj e;omega⟩
 .exact(hg.block w.heap.size h.q.lt (λe=>by have:=Option.some.inj e;omega)).trans h.q
 .rcases hv:v.ownBlock with _|k
  .exact .inl rfl
  .right
   have:=Sn h.own (ω _) k hv;intro e;have:=Option.some.inj e;omega
theorem AC.far(_h:AC w v ts W)(hg:W.grownBy W' v.ownBlock){b:Nat}(hb:b<W.heap.size)(hne:v.ownBlock≠some b):W'.heap[b]? = W.heap[b]?:=hg.block b hb λe=>hne e.symm
theorem AC.low(h:AC w v ts W){b:Nat}(hb:b<w.heap.size+2):v.ownBlock≠some b:=λe=>by have:=Sn h.own (ω _) b e;omega
theorem AC.app(h:AC w v ts W)(t:Tk)(hown:W'.ownsRow (w.heap.size+2) 164 4 v' (ts.length+1) (Gc ts++N8 t))(hg:W.grownBy W' v.ownBlock):AC w v' (ts++[t]) W':=
 ⟨(h.far hg h.q.lt (h.low (by omega))).trans h.q,by rw[Aej];simpa using hown,Ar9 h.lo hg.size,M8 h.below hg λk e=>by have:=Sn h.own (ω _) k e;omega⟩
end
structure AB (w:World) (s:ByteArray) (i:Nat) (p:Nat × Nat) (v:Value) (ts:List Tk) (W:World):Prop where
 rd:Rd W (w.heap.size+1) s i p
 ac:AC w v ts W
section
variable {w W W':World} {s:ByteArray} {i j:Nat} {p q:Nat × Nat} {v v':Value} {ts:List Tk}
theorem AB.call(h:AB w s i p v ts W)(hb:Below W.heap.size W W'):AB w s i p v ts W':=⟨Blk.call h.rd hb,h.ac.call hb⟩
theorem AB.turn(h:AB w s i p v ts W)(hr:Rd W' (w.heap.size+1) s j q)(hg:W.grownBy W' (some (w.heap.size+1))):AB w s j q v ts W':=⟨hr,h.ac.turn hg⟩
theorem AB.app(h:AB w s i p v ts W)(t:Tk)(hown:W'.ownsRow (w.heap.size+2) 164 4 v' (ts.length+1) (Gc ts++N8 t))(hg:W.grownBy W' v.ownBlock):AB w s i p v' (ts++[t]) W':=
 ⟨(h.ac.far hg (Blk.lt h.rd) (h.ac.low (by omega))).trans h.rd,h.ac.app t hown hg⟩
end
theorem Aad{l:List UInt8}{k n:Nat}(h:DM l=.tok k n):k<=4:=by
 cases l with
 |nil=>simp[DM]at h
 |cons c l=>
  rw[B4]at h
  repeat' split at h
  all_goals simp at h<;>omega
theorem Aem{l:List UInt8}{c:Nat}(h:DM l=.err c):c≠0:=by
 cases l with
 |nil=>simp[DM]at h
 |cons b l=>
  rw[B4]at h
  repeat' split at h
  all_goals simp at h<;>omega
theorem AC.done{w W:World}{v:Value}{ts:List Tk}(h:AC w v ts W)(a b:Value):AaH ((W.setCell ⟨w.heap.size,0,none⟩ a).setCell ⟨w.heap.size,1,none⟩ b) w.heap.size v ts:=by
 have hg:W.grownBy ((W.setCell ⟨w.heap.size,0,none⟩ a).setCell ⟨w.heap.size,1,none⟩ b) (some w.heap.size):=FD (FD (AJ (Below.refl _ _)) 0 a) 1 b;refine Ads (h.own.kept hg ?_) (by omega);rcases hv:v.ownBlock with _|k
 .exact .inl rfl
 .right
  have:=Sn h.own (ω _) k hv;intro e;have:=Option.some.inj e;omega
theorem KG{w:World}{base e n:Nat}{v:Value}{xs:List Value}(h:w.ownsRow base e 4 v n xs):∃ A c,v=.slice A n c:=by
 rcases h.2 with⟨rfl,rfl⟩|⟨g,cap,cur,rfl,_⟩
 .exact⟨_,_,rfl⟩
 .exact⟨_,_,rfl⟩
set_option maxRecDepth 100000 in
set_option maxHeartbeats 8000000 in
theorem Afh(s:ByteArray)(w:World)(hs:s.size<=9223372036854775807):Calls ψ 91 #[.string s] w (AaF (Cl s.data.toList) w):=by
 obtain⟨i0,hi0,hz0,hz1,hz2⟩:=info_parts WT;unfold Cl;rw[Dq]
 by_cases hbig:16384<s.size
 .rw[if_pos hbig]
  have q:(16384:Int)<(s.size:Int):=by omega
  go_enter Tryz.func91,Tryz.ntmps91
  go_wp2_with fail
  have hp:=Sp (1,1) (w.alloc (.cells #[.int .i64 0,.int .i64 0] 25)) ⟨by decide,by decide,by decide,by decide⟩;unfold ZQ at hp;simp only[Lb]at hp;refine hp.mono ?_;clear hp;rintro e w1 ⟨rfl,hb⟩;have hk:=(Blk.new w 25 #[.int .i64 0,.int .i64 0]).call hb;have HB:=Ω (AQ (Ba w _) hb);have HK:=Ω hk;obtain⟨c0,c1⟩:=Hu hk;have f0:=hk.frozen 0;have f1:=hk.frozen 1;clear hk hb
  go_wp2
  obtain⟨e0,e1⟩:=Hu (Mv HK.out (.int .i64 1) (.int .i64 1));exact bodyPost_ret (v:=.tuple #[.slice none 0 0,.agg #[.int .i64 1,.int .i64 1],.int .i64 2]) (by simp[results,Tryz.results91,go_sem,e0,e1]) rfl ⟨rfl,Dh (Dh HB.out (ω _)) (ω _)⟩
 .rw[if_neg hbig]
  have q:¬ (16384:Int)<(s.size:Int):=by omega
  have hsz:s.size<=16384:=by omega
  generalize hR:IC s.data.toList (1,1)=R;have HR:=Ω hR;clear hR
  go_enter Tryz.func91,Tryz.ntmps91
  go_wp2_with fail
  have hst:AB w s 0 (1,1) (.slice none 0 0) [] ((w.alloc (.cells #[.int .i64 0,.int .i64 0] 25)).alloc (.cells #[.string s,.int .i64 0,.complex .f64 4607182418800017408 4607182418800017408] 216)):=by
   obtain⟨k1,k2,k3⟩:=Oq w 25 216 #[.int .i64 0,.int .i64 0] #[.string s,.int .i64 0,.complex .f64 4607182418800017408 4607182418800017408];refine⟨?_,⟨k1,World.ownsRow_nil _ _ _ _,by simp,k3⟩⟩;unfold Rd ZQ;rw[show enc (1,1).1=4607182418800017408 from Lb];exact k2
  have HST:=Ω hst;clear hst;generalize ((w.alloc (.cells #[.int .i64 0,.int .i64 0] 25)).alloc (.cells #[.string s,.int .i64 0,.complex .f64 4607182418800017408 4607182418800017408] 216))=W0 at *
  go_loopw [6] (λv wr=>∃(i:Nat) (p:Nat × Nat) (ts:List Tk),i<=s.size/\ts.length<=i/\Near p i/\AB w s i p v ts wr/\(XB s i p).pre ts=R) (λ_ wr=>s.size-Pn (w.heap.size+1) wr)
  case atStart=>exact⟨0,(1,1),[],ArX _,ω _,⟨by decide,by decide,by decide,by decide⟩,HST.out,by rw[LexR.pre_nil];exact HR.out⟩
  case round=>
   obtain⟨i,p,ts,hi,hlen,hp,hab,hres⟩:=hrel;have HRT:=Ω (Dl hab.rd);have HAB:=Ω hab;have HP:=Ω hp;have HRES:=Ω hres;obtain⟨A5,c5,rfl⟩:=KG hab.ac.own;clear hab hp hres
   go_wp2_with fail
   refine(Ad2 s (w.heap.size+1) i p wr (by omega) hi HP.out HAB.out.rd).mono ?_;rintro e w1 ⟨rfl,hrd,hgr⟩;have HAB1:=Ω (HAB.out.turn hrd hgr);have hk:i+BU false s i<=s.size:=by
    have:=VW false (s.data.toList.drop i);rw[ArU,Dq]at this
    show i+ER false (s.data.toList.drop i)<=s.size
    omega
   have HN1:=Ω (FZ s i (BU false s i) p HP.out hk);have HEQ:=Ω (AcI s i p);clear hrd hgr HAB;generalize BU false s i=k at *;generalize CP s i p k=q1 at *;generalize hj:i+k=j at *;have HIJ:=Ω hj;have hij:i<=j:=by omega
   clear hj;obtain⟨c0,c1,c2⟩:=HAB1.out.rd.cells;have l0:w.heap.size+1<w1.heap.size:=BB c0
   go_wp2_with fail
   refine(Sp q1 w1 (HN1.out.small (by omega))).mono ?_;rintro e w2 ⟨rfl,hb2⟩;have HAB2:=Ω (HAB1.out.call hb2);clear hb2 c0 c1 c2 l0 HAB1
   go_wp2_with fail
   have hb3:=Ba w2 (.cells #[.int .i64 q1.1,.int .i64 q1.2] 25);have hk3:=Blk.new w2 25 #[.int .i64 q1.1,.int .i64 q1.2];have HAB3:=Ω (HAB2.out.call hb3);have HK3:=Ω hk3;have hP3:w.heap.size+2<=w2.heap.size:=HAB2.out.ac.lo;clear hb3 hk3 HAB2;generalize (w2.alloc (.cells #[.int .i64 q1.1,.int .i64 q1.2] 25))=w3 at *;generalize w2.heap.size=P at *;refine(Aaf s (w.heap.size+1) j q1 w3 (by omega) hk HN1.out HAB3.out.rd).mono ?_;rcases htk:DM (s.data.toList.drop j) with _|c|⟨kd,n⟩
   .have HTK:=Ω htk
    clear htk;simp only[RB,Jk];rintro e w4 ⟨rfl,hgr⟩;have HC4:=Ω (HAB3.out.ac.turn hgr);clear hgr;obtain⟨k4,k5,k6⟩:=Oq w4 164 164 #[.int .i64 5,.string ⟨#[]⟩,.int .i64 q1.1,.int .i64 q1.2] #[.int .i64 5,.string ⟨#[]⟩,.int .i64 q1.1,.int .i64 q1.2];have HK4:=Ω k4;have HK6:=Ω k5;have HB6:=Ω k6;clear k4 k5 k6;have HC6:=Ω (HC4.out.call HB6.out);have HO:=Ω HC6.out.own;have HLT:=Ω HC4.out.own.lt
    go_wp2_with (at_builtin;refine wpList_append_own_at _ rfl _ _ 157 rfl (w.heap.size+2) 164 i0 (.agg #[.int .i64 0,.string ⟨#[]⟩,.int .i64 0,.int .i64 0]) 4 40 Tryz.underlying157 hi0 hz0 hz1 hz2 rfl (by decide) _ _ _ rfl HO.out ⟨w4.heap.size+1,0,none⟩ 1 1 [.int .i64 5,.string ⟨#[]⟩,.int .i64 q1.1,.int .i64 q1.2] rfl rfl ?c1 ?c2 ?c3 ?c4 ?c5 ?_)
    case c1=>
     intro m u hu;have:=HK6.out.cell m;rw[FI,Ary,this];simpa using hu
    case c2=>intro u hu;simp at hu;rcases hu with rfl|rfl|rfl|rfl<;>rfl
    case c3=>unfold maxLen;omega
    case c4=>omega
    case c5=>exact HC6.out.lo
    intro v' w7 hown7 hgrow _ hloc;have hc7:=HC6.out.app ⟨5,[],q1.1,q1.2⟩ hown7 hgrow;have hk7:Blk w7 w4.heap.size 164 #[.int .i64 5,.string ⟨#[]⟩,.int .i64 q1.1,.int .i64 q1.2]:=(hgrow.block _ HK4.out.lt (λe=>by have:=(HLT.out _ e.symm).2;omega)).trans HK4.out;obtain⟨A7,c7,rfl⟩:=KG hown7;have t0:=hk7.cell 0;simp only[Asd,ArZ]at t0;have HC7:=Ω hc7;obtain⟨q0c,q1c⟩:=Hu hc7.q;have qf0:=hc7.q.frozen 0;have qf1:=hc7.q.frozen 1;have hRR:R=.ok (ts++[⟨5,[],q1.1,q1.2⟩]):=by rw[←HRES.out,HEQ.out,HTK.out];rfl
    have HRR:=Ω hRR;clear hc7 hown7 hgrow hloc hk7 hRR
    go_wp2
    obtain⟨e0,e1⟩:=Hu (Mv HC7.out.q (.int .i64 0) (.int .i64 0));refine bodyPost_ret (v:=.tuple #[.slice A7 (ts.length+1) c7,.agg #[.int .i64 0,.int .i64 0],.int .i64 0]) (by simp[results,Tryz.results91,go_sem,e0,e1]) rfl ?_;rw[HRR.out];exact⟨_,rfl,HC7.out.done _ _,Dh (Dh HC7.out.below (ω _)) (ω _)⟩
   .have HTK:=Ω htk
    clear htk;simp only[RB,JN];rintro e w4 ⟨rfl,hgr⟩;have HC4:=Ω (HAB3.out.ac.turn hgr);have hkp:Blk w4 P 25 #[.int .i64 q1.1,.int .i64 q1.2]:=(hgr.block P HK3.out.lt (λe=>by have:=Option.some.inj e;omega)).trans HK3.out;have hb5:=Ba w4 (.cells #[.int .i64 0,.string ⟨#[]⟩,.int .i64 0,.int .i64 0] 164);have HC5:=Ω (HC4.out.call hb5);obtain⟨p0,p1⟩:=Hu hkp;obtain⟨q0c,q1c⟩:=Hu HC4.out.q;have qf0:=HC4.out.q.frozen 0;have qf1:=HC4.out.q.frozen 1;have l3:P<w4.heap.size:=BB p0;have l4:w.heap.size<w4.heap.size:=BB q0c;have hce:=Aem HTK.out;have hne0:((c:Int) != 0)=true:=by rw[bne_iff_ne];omega
    have hRR:R=.err c q1.1 q1.2:=by rw[←HRES.out,HEQ.out,HTK.out];rfl
    have HRR:=Ω hRR;clear hgr hkp hb5 hRR hce
    go_wp2_with fail
    go_region
    all_goals
     go_wp2
     have hbw:=Dh (u:=.int .i64 q1.2) (p:=⟨w.heap.size,1,none⟩) (Dh (u:=.int .i64 q1.1) (p:=⟨w.heap.size,0,none⟩) HC4.out.below (ω _)) (ω _);obtain⟨e0,e1⟩:=Hu (Mv HC4.out.q (.int .i64 q1.1) (.int .i64 q1.2));clear p0 p1 q0c q1c qf0 qf1 l3 l4;generalize ((w4.setCell ⟨w.heap.size,0,none⟩ (.int .i64 q1.1)).setCell ⟨w.heap.size,1,none⟩ (.int .i64 q1.2))=W9 at *;have hbo:=Kd (Ba W9 (.cells #[.int .i64 0,.string ⟨#[]⟩,.int .i64 0,.int .i64 0] 164));generalize (W9.alloc (.cells #[.int .i64 0,.string ⟨#[]⟩,.int .i64 0,.int .i64 0] 164)).drew=W10 at *;have g0:=(hbo.cell (p:=⟨w.heap.size,0,none⟩) (BB e0)).trans e0;have g1:=(hbo.cell (p:=⟨w.heap.size,1,none⟩) (BB e0)).trans e1;refine bodyPost_ret (v:=.tuple #[.slice none 0 0,.agg #[.int .i64 q1.1,.int .i64 q1.2],.int .i64 c]) (by simp[results,Tryz.results91,go_sem,g0,g1]) rfl ?_;rw[HRR.out];exact⟨rfl,AQ hbw hbo⟩
   .have HTK:=Ω htk
    clear htk;simp only[RB,Jk];rintro e w4 ⟨t,rfl,htl,hrd,hgr⟩;have HAB4:=Ω (HAB3.out.turn hrd hgr);have HC4:=Ω HAB4.out.ac;have HTL:=Ω htl;clear hgr hrd htl;obtain⟨k4,k5,k6⟩:=Oq w4 164 164 #[.int .i64 kd,.string t,.int .i64 q1.1,.int .i64 q1.2] #[.int .i64 kd,.string t,.int .i64 q1.1,.int .i64 q1.2];have HK4:=Ω k4;have HK6:=Ω k5;have HB6:=Ω k6;clear k4 k5 k6;have HAB6:=Ω (HAB4.out.call HB6.out);have HC6:=Ω HAB6.out.ac;have HO:=Ω HC6.out.own;have HLT:=Ω HC4.out.own.lt;have hkd:=Aad HTK.out;have hkd5:((kd:Int) == 5)=false:=by rw[beq_eq_false_iff_ne];omega
    have hn:=Hi HTK.out;rw[ArU,Dq]at hn;clear hkd
    go_wp2_with (at_builtin;refine wpList_append_own_at _ rfl _ _ 157 rfl (w.heap.size+2) 164 i0 (.agg #[.int .i64 0,.string ⟨#[]⟩,.int .i64 0,.int .i64 0]) 4 40 Tryz.underlying157 hi0 hz0 hz1 hz2 rfl (by decide) _ _ _ rfl HO.out ⟨w4.heap.size+1,0,none⟩ 1 1 [.int .i64 kd,.string t,.int .i64 q1.1,.int .i64 q1.2] rfl rfl ?c1 ?c2 ?c3 ?c4 ?c5 ?_)
    case c1=>
     intro m u hu;have:=HK6.out.cell m;rw[FI,Ary,this];simpa using hu
    case c2=>intro u hu;simp at hu;rcases hu with rfl|rfl|rfl|rfl<;>rfl
    case c3=>unfold maxLen;omega
    case c4=>omega
    case c5=>exact HC6.out.lo
    intro v' w7 hown7 hgrow _ hloc;have hab7:=HAB6.out.app ⟨kd,t.data.toList,q1.1,q1.2⟩ hown7 hgrow;have hk7:Blk w7 w4.heap.size 164 #[.int .i64 kd,.string t,.int .i64 q1.1,.int .i64 q1.2]:=(hgrow.block _ HK4.out.lt (λe=>by have:=(HLT.out _ e.symm).2;omega)).trans HK4.out;obtain⟨A7,c7,rfl⟩:=KG hown7;have t0:=hk7.cell 0;simp only[Asd,ArZ]at t0;have HAB7:=Ω hab7;clear hab7 hown7 hgrow hloc hk7
    go_wp2_with fail
    go_roundw
    case rel=>
     refine⟨j+n,CP s j q1 n,ts++[⟨kd,t.data.toList,q1.1,q1.2⟩],by omega,by simp;omega,FZ s j n q1 HN1.out (by omega),by simpa using HAB7.out,?_⟩;rw[←HRES.out,HEQ.out,HTK.out,HTL.out,←LexR.pre_more]
    case measure=>
     rw[HRT.out,Dl HAB7.out.rd];omega
end Go.Proofs.YtlmhajfbpplpoaaGreat
