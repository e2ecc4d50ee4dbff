/- Layer 10: Number, Name, -/
import Derived.Test.YtlmhajfbpplpoaaGreatMAY
import Derived.Laws.RangeAny
import Derived.Deep.RegionHeld3
import Derived.Laws.IdiomStrings
import Derived.Test.YtlmhajfbpplpoaaGreatMAD
import Derived.ProofKit
set_option linter.all false
open Bool renaming false->Θ,true->U,and_eq_false_iff->Axz,and_eq_true->AvF,and_false->AyL,and_true->Axa,eq_false_iff->Axy,eq_iff_iff->Axj,false_and->Awb
open List renaming all_cons->Axc,all_eq_true->AvJ,cons_append->AwP,contains_iff_mem->Awy,drop_drop->AxJ,drop_zero->κ,getD_eq_getElem?_getD->Av1,getElem?_cons_succ->Awa,getElem?_cons_zero->Awm,getElem?_eq_getElem->Ω,getElem?_toArray->Awt,getElem_mem->AvN,getElem_of_mem->AwT,isPrefixOf_iff_prefix->Ax4,length_cons->ε,length_drop->AwU,map_cons->AvT,mem_cons->AvK,mem_cons_of_mem->AvZ,mem_cons_self->AvX,nil_append->AvV,not_mem_nil->Axp,take_of_length_le->AwJ
open Nat renaming add_assoc->AvQ,ble->AvL,le_of_ble_eq_true->Aym,le_refl->η,le_trans->Awe,lt_succ_iff_lt_or_eq->Aw9,lt_succ_self->AvS,zero_add->AvW,zero_le->Awh
open Option renaming none->Δ,some->V
namespace Go.Proofs.YtlmhajfbpplpoaaGreat
open ABlk renaming mk->Ψ
open Lib renaming hid->θ,toList_data->Axt
open Go.Proofs.Tryz renaming prog->π
open Go.RowKit
theorem Cu(s:ByteArray):s.data.toList.length=s.size:=by simp
theorem IU{s:ByteArray}(h:s.size=0):s=⟨#[]⟩:=by
 cases s with
 |mk d=>
  have:d.size=0:=h;rw[Array.eq_empty_of_size_eq_zero this]
theorem Ac5(s:ByteArray):s.data.toList.all B9=U ↔ ∀ k,k<s.size->B9 (BV s k)=U:=by
 rw[AvJ];constructor
 .intro h k hk
  unfold BV;rw[Av1,Ω (by rw[Cu];exact hk)];exact h _ (AvN _)
 .intro h x hx
  obtain⟨k,hk,rfl⟩:=AwT hx;have h2:=h k (by rwa [Cu]at hk);unfold BV at h2
  rwa [Av1,Ω hk]at h2
set_option maxRecDepth 100000 in
set_option maxHeartbeats 4000000 in
theorem KQ(s:ByteArray)(w:World)(hs:s.size<=9223372036854775807):Calls π 108 #[.string s] w λe w'=>e=.returned (.bool (Dy s.data.toList))/\Below w.heap.size w w':=by
 by_cases h0:s.size=0
 .obtain rfl:=IU h0
  go_enter Tryz.func108,Tryz.ntmps108
  go_wp2
  go_ret
  exact⟨rfl,Below.refl _ _⟩
 have hne:¬ s.toList=[]:=by rw[Axt];intro h;have:=Cu s;rw[h]at this;simp at this;omega
 have hni:s.toList.isEmpty=Θ:=by simpa using hne
 have hpos:0<s.size:=by omega
 have hmt:s.data.toList.isEmpty=Θ:=by rw[←Axt];exact hni
 by_cases h60:60<s.size
 .have HF := θ (show Dy s.data.toList = Θ by             unfold Dy;rw[Cu];have:decide (s.size<=60)=Θ:=by simpa using h60
                                                         rw[this];simp)
  have q:(60:Int)<(s.size:Int):=by omega
  clear hmt
  go_enter Tryz.func108,Tryz.ntmps108
  go_wp2
  go_ret
  exact⟨Bq HF.out.symm,Below.refl _ _⟩
 have q60:¬ (60:Int)<(s.size:Int):=by omega
 have hv:=Ht s 0 hpos;have h60':decide (s.size<=60)=U:=by simpa using h60
 have hd:s.data.toList.getD 0 0=BV s 0:=rfl
 by_cases hz:1<s.size/\(BV s 0).toNat=48
 .have HF:=θ (show Dy s.data.toList=Θ by
   unfold Dy;rw[Cu,hd,hz.2];have:decide (1<s.size)=U:=by simpa using hz.1
   rw[this];simp)
  have q1:(1:Int)<(s.size:Int):=by omega
  have q2:((s[0].toNat:Int) == 48)=U:=by rw[hv,hz.2];rfl
  clear hz hv hd h60' hmt
  go_enter Tryz.func108,Tryz.ntmps108
  go_wp2
  go_ret
  exact⟨Bq HF.out.symm,Below.refl _ _⟩
 .have HF:=θ (show Dy s.data.toList=s.data.toList.all B9 by
   unfold Dy;rw[Cu,hd,h60',hmt];have:(decide (1<s.size)&&(BV s 0).toNat == 48)=Θ:=by
    rw[Axz]
    by_cases h1:1<s.size
    .right;rw[beq_eq_false_iff_ne];exact λh=>hz ⟨h1,h⟩
    .left;simpa using h1
   rw[this];simp)
  have HALL:=θ (Ac5 s);have HV:=θ (λk (h:k<s.size)=>Ht s k h)
  have main:∀(q:(¬ (1:Int)<(s.size:Int))\/((1:Int)<(s.size:Int)/\((s[0].toNat:Int) == 48)=Θ)),Calls π 108 #[.string s] w λe w'=>e=.returned (.bool (Dy s.data.toList))/\Below w.heap.size w w':=by
   clear hz hd h60' hmt hv;intro q;rcases q with q1|⟨q1,q2⟩
   all_goals
    go_enter Tryz.func108,Tryz.ntmps108
    go_wp2_with fail
    go_loopw [24] (λ_ wr=>∃ k:Nat,k<=s.size/\(∀ j,j<k->B9 (BV s j)=U)/\wr=w.iter s k) (λ_ wr=>s.size-wr.iterPos w.heap.size)
    case atStart=>exact⟨0,Awh _,λj hj=>absurd hj (by omega),rfl⟩
    case round=>
     obtain⟨k,hk,hall,rfl⟩:=hrel;have HA:=θ hall;clear hall
     by_cases hlt:k<s.size
     .have HVK:=θ (HV.out k hlt)
      by_cases hasc:s[k].toNat<128
      .have hnx:=λty=>run_next_ascii (P:=π) w s k ty hlt hasc
       have hc:=s[k].toNat_lt
       by_cases hdg:48<=s[k].toNat/\s[k].toNat<=57
       .have hd1:=hdg.1
        have hd2:=hdg.2;have HD:=θ (show B9 (BV s k)=U by rw[←HVK.out];unfold B9;simp;exact hdg);clear hdg;generalize s[k].toNat=c at *;have z1:¬ (c:Int)<48:=by omega
        have z2:¬ (57:Int)<(c:Int):=by omega
        go_wp2
        go_roundw
        case rel=>exact⟨k+1,hlt,λj hj=>(Aw9.1 hj).elim (HA.out j) λe=>by subst e;exact HD.out,rfl⟩
        case measure=>simp;omega
       .have HNO:=θ (show s.data.toList.all B9=Θ by
         refine Axy.2 λh=>?_
         have h2:=HALL.out.1 h k hlt;rw[←HVK.out]at h2;unfold B9 at h2;simp at h2;exact hdg h2)
        have hz':(s[k].toNat:Int)<48\/¬ (s[k].toNat:Int)<48/\(57:Int)<(s[k].toNat:Int):=by omega
        clear hdg;generalize s[k].toNat=c at *;rcases hz' with z1|⟨z1,z2⟩
        all_goals
         go_wp2
         go_ret
         exact⟨Bq (by rw[HF.out,HNO.out]),(Below.refl _ _).alloc (η _) _⟩
      .have hnx:=λty=>run_next_any (P:=π) w s k ty hlt
       have hhi:=(decode_high s k hlt (by omega)).1;have HNO:=θ (show s.data.toList.all B9=Θ by
        refine Axy.2 λh=>?_
        have h2:=HALL.out.1 h k hlt;rw[←HVK.out]at h2;unfold B9 at h2;simp at h2;omega)
       clear hasc;generalize (Utf8.decode s k).1=c at *;have z1:¬ (c:Int)<48:=by omega
       have z2:(57:Int)<(c:Int):=by omega
       go_wp2
       go_ret
       exact⟨Bq (by rw[HF.out,HNO.out]),(Below.refl _ _).alloc (η _) _⟩
     .obtain rfl:k=s.size:=by omega
      have hnx:=λty=>run_next_end (P:=π) w s s.size ty (Nat.lt_irrefl _)
      have HYES:=θ (HALL.out.2 HA.out)
      go_wp2
      go_ret
      exact⟨Bq (by rw[HF.out,HYES.out]),(Below.refl _ _).alloc (η _) _⟩
  by_cases h1:1<s.size
  .refine main (.inr ⟨by omega,?_⟩)
   rw[hv,beq_eq_false_iff_ne];have:(BV s 0).toNat≠48:=λh=>hz ⟨h1,h⟩
   omega
  .exact main (.inl (by omega))
theorem YQ(q:UInt8->Bool)(s:ByteArray):s.data.toList.all q=U ↔ ∀ k,k<s.size->q (BV s k)=U:=by
 rw[AvJ];constructor
 .intro h k hk
  unfold BV;rw[Av1,Ω (by rw[Cu];exact hk)];exact h _ (AvN _)
 .intro h x hx
  obtain⟨k,hk,rfl⟩:=AwT hx;have h2:=h k (by rwa [Cu]at hk);unfold BV at h2
  rwa [Av1,Ω hk]at h2
set_option maxRecDepth 100000 in
set_option maxHeartbeats 4000000 in
theorem WF(s:ByteArray)(w:World)(hs:s.size<=9223372036854775807):Calls π 168 #[.string s] w λe w'=>e=.returned (.bool (Kd s.data.toList))/\Below w.heap.size w w':=by
 by_cases h0:s.size=0
 .obtain rfl:=IU h0
  go_enter Tryz.func168,Tryz.ntmps168
  go_wp2
  go_ret
  exact⟨rfl,Below.refl _ _⟩
 have hne:¬ s.toList=[]:=by rw[Axt];intro h;have:=Cu s;rw[h]at this;simp at this;omega
 have hni:s.toList.isEmpty=Θ:=by simpa using hne
 have hpos:0<s.size:=by omega
 have hmt:s.data.toList.isEmpty=Θ:=by rw[←Axt];exact hni
 by_cases h20:20<s.size
 .have HF := θ (show Kd s.data.toList = Θ by              unfold Kd;rw[Cu];have:decide (s.size<=20)=Θ:=by simpa using h20
                                                          rw[this];simp)
  have q:(20:Int)<(s.size:Int):=by omega
  clear hmt
  go_enter Tryz.func168,Tryz.ntmps168
  go_wp2
  go_ret
  exact⟨Bq HF.out.symm,Below.refl _ _⟩
 have q20:¬ (20:Int)<(s.size:Int):=by omega
 have h20':decide (s.size<=20)=U:=by simpa using h20
 have hd:s.data.toList.getD 0 0=BV s 0:=rfl;have HV:=θ (λk (h:k<s.size)=>Ht s k h);have HF:=θ (show Kd s.data.toList=(Gl (BV s 0)&&s.data.toList.all Eh) by
  unfold Kd;rw[Cu,hd,h20',hmt];simp)
 have HALL:=θ (YQ Eh s);have HPOS:=θ hpos;clear h20' hd hmt;rcases hl:Gl (BV s 0) with _|_
 .have HL:=θ hl
  clear hl
  go_enter Tryz.func168,Tryz.ntmps168
  go_wp2_with fail
  refine(DZ (BV s 0) _ w (by rw[HV.out 0 HPOS.out])).mono ?_;rw[HL.out];rintro e w' ⟨rfl,rfl⟩
  go_wp2
  go_ret
  exact⟨Bq (by rw[HF.out,HL.out];rfl),Below.refl _ _⟩
 .have HL:=θ hl
  clear hl
  go_enter Tryz.func168,Tryz.ntmps168
  go_wp2_with fail
  refine(DZ (BV s 0) _ w (by rw[HV.out 0 HPOS.out])).mono ?_;rw[HL.out];rintro e w' ⟨rfl,rfl⟩
  go_wp2_with fail
  go_loop [19] (λq=>∃ k:Nat,k<=s.size/\(∀ j,j<k->Eh (BV s j)=U)/\q=.int .i64 k) (λq=>s.size-(intOf q).toNat)
  case atStart=>exact⟨0,Awh _,λj hj=>absurd hj (by omega),rfl⟩
  case round=>
   obtain⟨k,hk,hall,rfl⟩:=hrel;have HA:=θ hall;clear hall
   by_cases hlt:k<s.size
   .have HVK:=θ (HV.out k hlt)
    have z0:(0:Int)<=(k:Int):=by omega
    have z1:(k:Int)<(s.size:Int):=by omega
    rcases hi:Eh (BV s k) with _|_
    .have HI:=θ hi
     have HNO:=θ (show s.data.toList.all Eh=Θ from Axy.2 λh=>by have h2:=HALL.out.1 h k hlt;rw[hi]at h2;cases h2);clear hi
     go_wp2_with fail
     refine(MU (BV s k) _ w (by rw[HVK.out])).mono ?_;rw[HI.out];rintro e w' ⟨rfl,rfl⟩
     go_wp2
     go_ret
     exact⟨Bq (by rw[HF.out,HL.out,HNO.out];rfl),Below.refl _ _⟩
    .have HI:=θ hi
     clear hi
     go_wp2_with fail
     refine(MU (BV s k) _ w (by rw[HVK.out])).mono ?_;rw[HI.out];rintro e w' ⟨rfl,rfl⟩
     go_wp2_with fail
     go_round
     case rel=>exact⟨k+1,hlt,λj hj=>(Aw9.1 hj).elim (HA.out j) λe=>by subst e;exact HI.out,by go_num⟩
     case measure=>simp[intOf];omega
   .obtain rfl:k=s.size:=by omega
    have HYES:=θ (HALL.out.2 HA.out)
    go_wp2
    go_ret
    exact⟨Bq (by rw[HF.out,HL.out,HYES.out];rfl),Below.refl _ _⟩
def Apf:List ByteArray:=AbZ.map λl=>⟨l.toArray⟩
theorem Apg(s:ByteArray):Lib.containsS (Apf.take 8) s=P9 s.data.toList:=by
 rw[Axj,Lib.containsS_iff];unfold P9 Apf;rw[AwJ (by simp[AbZ]),List.mem_map,Awy];constructor
 .rintro⟨l,hl,rfl⟩
  simpa using hl
 .intro h
  refine⟨_,h,?_⟩
  cases s
  simp
set_option maxRecDepth 100000 in
set_option maxHeartbeats 4000000 in
theorem TJ(s:ByteArray)(w:World):Calls π 169 #[.string s] w λe w'=>e=.returned (.bool (P9 s.data.toList))/\Below w.heap.size w w':=by
 have HR:=θ (Apg s)
 go_enter Tryz.func169,Tryz.ntmps169
 go_wp2_with fail
 refine(Tryz.slices_Contains_string w.heap.size 0 8 8 Apf s _ (by decide) (by decide) ?hc).mono ?_
 case hc=>
  intro j hj;have hj':j<8:=hj;rw[AvW,(Blk.new w _ _).cell]
  iterate 8 (rcases j with _|j;· rfl)
  omega
 rw[HR.out];rintro e w' ⟨rfl,rfl⟩
 go_wp2
 go_ret
 exact⟨rfl,Bw w _⟩
set_option maxRecDepth 100000 in
set_option maxHeartbeats 4000000 in
theorem AfP(s:ByteArray)(w:World)(hs:s.size<=9223372036854775807):Calls π 109 #[.string s] w λe w'=>e=.returned (.bool (CA s.data.toList))/\Below w.heap.size w w':=by
 rcases h1:Kd s.data.toList with _|_
 .have H1:=θ h1
  clear h1
  go_enter Tryz.func109,Tryz.ntmps109
  go_wp2_with fail
  refine(WF s w hs).mono ?_;rw[H1.out];rintro e w1 ⟨rfl,hb⟩;have HB:=θ hb;clear hb
  go_wp2
  go_ret
  exact⟨Bq (by unfold CA;rw[H1.out];rfl),HB.out⟩
 .have H1:=θ h1
  clear h1
  go_enter Tryz.func109,Tryz.ntmps109
  go_wp2_with fail
  refine(WF s w hs).mono ?_;rw[H1.out];rintro e w1 ⟨rfl,hb⟩;have HB:=θ hb;clear hb
  go_wp2_with fail
  refine(TJ s w1).mono ?_;rintro e w2 ⟨rfl,hb2⟩;have HB2:=θ (Bb HB.out hb2);clear hb2
  go_wp2
  go_ret
  exact⟨Bq (by unfold CA;rw[H1.out];rfl),HB2.out⟩
theorem Jn{s:ByteArray}{l:List UInt8}(h:¬ s.data.toList=l):(s.toList == l)=Θ:=by
 rw[beq_eq_false_iff_ne,Axt];exact h
set_option maxRecDepth 100000 in
set_option maxHeartbeats 8000000 in
theorem R6(s:ByteArray)(w:World):Calls π 136 #[.string s] w λe w'=>e=.returned (.bool (P9 s.data.toList))/\w=w':=by
 by_cases h:s.data.toList∈AbZ
 .have HB:=θ (show P9 s.data.toList=U by unfold P9;rwa [Awy])
  simp only[AbZ,AvK,Axp,or_false]at h;rcases h with h|h|h|h|h|h|h|h
  all_goals
   obtain⟨⟨d⟩⟩:=s;simp only at h;subst h;clear HB
   go_enter Tryz.func136,Tryz.ntmps136
   go_wp2
   go_ret
   exact⟨Bq (by decide +kernel),rfl⟩
 .have HB:=θ (show P9 s.data.toList=Θ by unfold P9;rw[←Bool.not_eq_true,Awy];exact h)
  simp only[AbZ,AvK,Axp,or_false,not_or]at h;obtain⟨h0,h1,h2,h3,h4,h5,h6,h7⟩:=h;have q0:=Jn h0;have q1:=Jn h1;have q2:=Jn h2;have q3:=Jn h3;have q4:=Jn h4;have q5:=Jn h5;have q6:=Jn h6;have q7:=Jn h7;clear h0 h1 h2 h3 h4 h5 h6 h7
  go_enter Tryz.func136,Tryz.ntmps136
  go_wp2
  go_ret
  exact⟨Bq HB.out.symm,rfl⟩
set_option maxRecDepth 100000 in
set_option maxHeartbeats 8000000 in
theorem V7(s:ByteArray)(w:World)(hs:s.size<=9223372036854775807):Calls π 195 #[.string s] w λe w'=>e=.returned (.bool (Dy s.data.toList))/\w=w':=by
 by_cases h0:s.size=0
 .obtain rfl:=IU h0
  go_enter Tryz.func195,Tryz.ntmps195
  go_wp2
  go_ret
  exact⟨rfl,rfl⟩
 have hmt:s.data.toList.isEmpty=Θ:=by
  have:=Cu s;rcases h:s.data.toList with _|_
  .rw[h]at this;simp at this;omega
  .rfl
 have z0:((s.size:Int) == 0)=Θ:=by rw[beq_eq_false_iff_ne];omega
 have hpos:0<s.size:=by omega
 by_cases h60:60<s.size
 .have HF := θ (show Dy s.data.toList = Θ by             unfold Dy;rw[Cu];have:decide (s.size<=60)=Θ:=by simpa using h60
                                                         rw[this];simp)
  have q:(60:Int)<(s.size:Int):=by omega
  clear hmt
  go_enter Tryz.func195,Tryz.ntmps195
  go_wp2
  go_ret
  exact⟨Bq HF.out.symm,rfl⟩
 have q60:¬ (60:Int)<(s.size:Int):=by omega
 have hv:=Ht s 0 hpos;have h60':decide (s.size<=60)=U:=by simpa using h60
 have hd:s.data.toList.getD 0 0=BV s 0:=rfl
 by_cases hz:1<s.size/\(BV s 0).toNat=48
 .have HF:=θ (show Dy s.data.toList=Θ by
   unfold Dy;rw[Cu,hd,hz.2];have:decide (1<s.size)=U:=by simpa using hz.1
   rw[this];simp)
  have q1:(1:Int)<(s.size:Int):=by omega
  have q2:((s[0].toNat:Int) == 48)=U:=by rw[hv,hz.2];rfl
  clear hz hv hd h60' hmt
  go_enter Tryz.func195,Tryz.ntmps195
  go_wp2
  go_ret
  exact⟨Bq HF.out.symm,rfl⟩
 .have HF:=θ (show Dy s.data.toList=s.data.toList.all B9 by
   unfold Dy;rw[Cu,hd,h60',hmt];have:(decide (1<s.size)&&(BV s 0).toNat == 48)=Θ:=by
    rw[Axz]
    by_cases h1:1<s.size
    .right;rw[beq_eq_false_iff_ne];exact λh=>hz ⟨h1,h⟩
    .left;simpa using h1
   rw[this];simp)
  have HALL:=θ (Ac5 s);have HV:=θ (λk (h:k<s.size)=>Ht s k h)
  have main:∀(q:(¬ (1:Int)<(s.size:Int))\/((1:Int)<(s.size:Int)/\((s[0].toNat:Int) == 48)=Θ)),Calls π 195 #[.string s] w λe w'=>e=.returned (.bool (Dy s.data.toList))/\w=w':=by
   clear hz hd h60' hmt hv;intro q;rcases q with q1|⟨q1,q2⟩
   all_goals
    go_enter Tryz.func195,Tryz.ntmps195
    go_wp2_with fail
    go_loop [3] (λq=>∃ k:Nat,k<=s.size/\(∀ j,j<k->B9 (BV s j)=U)/\q=.int .i64 k) (λq=>s.size-(intOf q).toNat)
    case atStart=>exact⟨0,Awh _,λj hj=>absurd hj (by omega),rfl⟩
    case round=>
     obtain⟨k,hk,hall,rfl⟩:=hrel;have HA:=θ hall;clear hall
     by_cases hlt:k<s.size
     .have HVK:=θ (HV.out k hlt)
      have y0:(0:Int)<=(k:Int):=by omega
      have y1:(k:Int)<(s.size:Int):=by omega
      have HCF:=θ (MG (BV s k)).1;rcases hi:B9 (BV s k) with _|_
      .have HNO:=θ (show s.data.toList.all B9=Θ from Axy.2 λh=>by have h2:=HALL.out.1 h k hlt;rw[hi]at h2;cases h2)
       have hx:((ED (BV s k):Int) != 2)=U:=by
        have h2:=HCF.out;rw[hi,beq_eq_false_iff_ne]at h2;rw[bne_iff_ne];omega
       have HX:=θ hx;clear hi hx
       go_wp2_with fail
       refine(Dl (BV s k) _ w (by rw[HVK.out])).mono ?_;have hx:=HX.out;generalize ED (BV s k)=m at *;rintro e w' ⟨rfl,rfl⟩
       go_wp2
       go_ret
       exact⟨Bq (by rw[HF.out,HNO.out]),rfl⟩
      .have HI:=θ hi
       have hx:((ED (BV s k):Int) != 2)=Θ:=by
        have h2:=HCF.out;rw[hi,beq_iff_eq]at h2;rw[h2];rfl
       have HX:=θ hx;clear hi hx
       go_wp2_with fail
       refine(Dl (BV s k) _ w (by rw[HVK.out])).mono ?_;have hx:=HX.out;generalize ED (BV s k)=m at *;rintro e w' ⟨rfl,rfl⟩
       go_wp2_with fail
       go_round
       case rel=>exact⟨k+1,hlt,λj hj=>(Aw9.1 hj).elim (HA.out j) λe=>by subst e;exact HI.out,by go_num⟩
       case measure=>simp[intOf];omega
     .obtain rfl:k=s.size:=by omega
      have HYES:=θ (HALL.out.2 HA.out)
      go_wp2
      go_ret
      exact⟨Bq (by rw[HF.out,HYES.out]),rfl⟩
  by_cases h1:1<s.size
  .refine main (.inr ⟨by omega,?_⟩)
   rw[hv,beq_eq_false_iff_ne];have:(BV s 0).toNat≠48:=λh=>hz ⟨h1,h⟩
   omega
  .exact main (.inl (by omega))
set_option maxRecDepth 100000 in
set_option maxHeartbeats 8000000 in
theorem Ab1(s:ByteArray)(w:World)(hs:s.size<=9223372036854775807):Calls π 77 #[.string s] w λe w'=>e=.returned (.bool (CA s.data.toList))/\w=w':=by
 by_cases h0:s.size=0
 .obtain rfl:=IU h0
  go_enter Tryz.func77,Tryz.ntmps77
  go_wp2
  go_ret
  exact⟨rfl,rfl⟩
 have hmt:s.data.toList.isEmpty=Θ:=by
  have:=Cu s;rcases h:s.data.toList with _|_
  .rw[h]at this;simp at this;omega
  .rfl
 have z0:((s.size:Int) == 0)=Θ:=by rw[beq_eq_false_iff_ne];omega
 have hpos:0<s.size:=by omega
 by_cases h20:20<s.size
 .have HF := θ (show CA s.data.toList = Θ by              unfold CA Kd;rw[Cu];have:decide (s.size<=20)=Θ:=by simpa using h20
                                                          rw[this];simp)
  have q:(20:Int)<(s.size:Int):=by omega
  clear hmt
  go_enter Tryz.func77,Tryz.ntmps77
  go_wp2
  go_ret
  exact⟨Bq HF.out.symm,rfl⟩
 have q20:¬ (20:Int)<(s.size:Int):=by omega
 have h20':decide (s.size<=20)=U:=by simpa using h20
 have hd:s.data.toList.getD 0 0=BV s 0:=rfl;have HV:=θ (λk (h:k<s.size)=>Ht s k h);have HF:=θ (show CA s.data.toList=(Gl (BV s 0)&&s.data.toList.all Eh&&!P9 s.data.toList) by
  unfold CA Kd;rw[Cu,hd,h20',hmt];simp)
 have HALL:=θ (YQ Eh s);have HPOS:=θ hpos;have HC0:=θ (MG (BV s 0)).2.1;clear h20' hd hmt;rcases hl:Gl (BV s 0) with _|_
 .have HL:=θ hl
  have HX:=θ (show ((ED (BV s 0):Int) != 1)=U by
   have h2:=HC0.out;rw[hl,beq_eq_false_iff_ne]at h2;rw[bne_iff_ne];omega)
  clear hl
  go_enter Tryz.func77,Tryz.ntmps77
  go_wp2_with fail
  refine(Dl (BV s 0) _ w (by rw[HV.out 0 HPOS.out])).mono ?_;have hx:=HX.out;generalize ED (BV s 0)=m at *;rintro e w' ⟨rfl,rfl⟩
  go_wp2
  go_ret
  exact⟨Bq (by rw[HF.out,HL.out];rfl),rfl⟩
 have HL:=θ hl;have HX:=θ (show ((ED (BV s 0):Int) != 1)=Θ by
  have h2:=HC0.out;rw[hl,beq_iff_eq]at h2;rw[h2];rfl)
 clear hl;rcases hr:P9 s.data.toList with _|_
 .have HR:=θ hr
  clear hr
  go_enter Tryz.func77,Tryz.ntmps77
  go_wp2_with fail
  refine(Dl (BV s 0) _ w (by rw[HV.out 0 HPOS.out])).mono ?_;have hx:=HX.out;generalize ED (BV s 0)=m at *;rintro e w' ⟨rfl,rfl⟩
  go_wp2_with fail
  refine(R6 s w).mono ?_;rw[HR.out];rintro e w' ⟨rfl,rfl⟩
  go_wp2_with fail
  go_loop [3] (λq=>∃ k:Nat,k<=s.size/\(∀ j,j<k->Eh (BV s j)=U)/\q=.int .i64 k) (λq=>s.size-(intOf q).toNat)
  case atStart=>exact⟨0,Awh _,λj hj=>absurd hj (by omega),rfl⟩
  case round=>
   obtain⟨k,hk,hall,rfl⟩:=hrel;have HA:=θ hall;clear hall
   by_cases hlt:k<s.size
   .have HVK:=θ (HV.out k hlt)
    have y0:(0:Int)<=(k:Int):=by omega
    have y1:(k:Int)<(s.size:Int):=by omega
    have HCF:=θ (MG (BV s k)).2.2;rcases hi:Eh (BV s k) with _|_
    .have HNO:=θ (show s.data.toList.all Eh=Θ from Axy.2 λh=>by have h2:=HALL.out.1 h k hlt;rw[hi]at h2;cases h2)
     have hx2:ED (BV s k)<1\/1<=ED (BV s k)/\3<ED (BV s k):=by
      have h2:=HCF.out;rw[hi,Axz,decide_eq_false_iff_not,decide_eq_false_iff_not]at h2;omega
     have HX2:=θ hx2;clear hi hx2 hx;rcases HX2.out with hx2|hx2
     .have HX3:=θ hx2
      clear hx2
      go_wp2_with fail
      refine(Dl (BV s k) _ w (by rw[HVK.out])).mono ?_;have hx2:=HX3.out;generalize ED (BV s k)=m2 at *;have y2:(m2:Int)<1:=by omega
      clear hx2;rintro e w' ⟨rfl,rfl⟩
      go_wp2
      go_ret
      exact⟨Bq (by rw[HF.out,HL.out,HNO.out];rfl),rfl⟩
     .have HX3:=θ hx2
      clear hx2
      go_wp2_with fail
      refine(Dl (BV s k) _ w (by rw[HVK.out])).mono ?_;have hx2:=HX3.out;generalize hm2:ED (BV s k)=m2 at hx2 ⊢;have HM2:=θ hm2;have y2:¬ (m2:Int)<1:=by omega
      have y3:(3:Int)<(m2:Int):=by omega
      clear hx2 hm2;rintro e w' ⟨rfl,rfl⟩
      go_wp2_with fail
      refine(Dl (BV s k) _ w (by rw[HVK.out])).mono ?_;rw[HM2.out];rintro e w' ⟨rfl,rfl⟩
      go_wp2
      go_ret
      exact⟨Bq (by rw[HF.out,HL.out,HNO.out];rfl),rfl⟩
    .have HI:=θ hi
     have hx2:1<=ED (BV s k)/\ED (BV s k)<=3:=by
      have h2:=HCF.out;rw[hi,AvF,decide_eq_true_eq,decide_eq_true_eq]at h2;exact h2
     have HX3:=θ hx2;clear hi hx2 hx
     go_wp2_with fail
     refine(Dl (BV s k) _ w (by rw[HVK.out])).mono ?_;have hx2:=HX3.out;generalize hm2:ED (BV s k)=m2 at hx2 ⊢;have HM2:=θ hm2;have y2:¬ (m2:Int)<1:=by omega
     have y3:¬ (3:Int)<(m2:Int):=by omega
     clear hx2 hm2;rintro e w' ⟨rfl,rfl⟩
     go_wp2_with fail
     refine(Dl (BV s k) _ w (by rw[HVK.out])).mono ?_;rw[HM2.out];rintro e w' ⟨rfl,rfl⟩
     go_wp2_with fail
     go_round
     case rel=>exact⟨k+1,hlt,λj hj=>(Aw9.1 hj).elim (HA.out j) λe=>by subst e;exact HI.out,by go_num⟩
     case measure=>simp[intOf];omega
   .obtain rfl:k=s.size:=by omega
    have HYES:=θ (HALL.out.2 HA.out);clear hx
    go_wp2
    go_ret
    exact⟨Bq (by rw[HF.out,HL.out,HR.out,HYES.out];rfl),rfl⟩
 .have HR:=θ hr
  clear hr
  go_enter Tryz.func77,Tryz.ntmps77
  go_wp2_with fail
  refine(Dl (BV s 0) _ w (by rw[HV.out 0 HPOS.out])).mono ?_;have hx:=HX.out;generalize ED (BV s 0)=m at *;rintro e w' ⟨rfl,rfl⟩
  go_wp2_with fail
  refine(R6 s w).mono ?_;rw[HR.out];rintro e w' ⟨rfl,rfl⟩
  go_wp2
  go_ret
  exact⟨Bq (by rw[HF.out,HR.out];simp),rfl⟩
theorem Auv:Ca (CW π 77) (CO CH):=UB λs w hs=>(Ab1 s w hs).mono λe w' h=>⟨h.1,h.2▸Below.refl _ _⟩
theorem Auw:Ca (CW π 195) (CO BZ):=O5 λs w hs=>(V7 s w hs).mono λe w' h=>⟨h.1,h.2▸Below.refl _ _⟩

theorem FD{t:Tr}{d:Nat}(hd:d<=60)(h:ShapeL t d):AO t d=U:=by
 cases h with
 |tt=>simp[AO,C1,IB,C3]
 |ff=>simp[AO,C1,IB,C3]
 |cmp _ hl hr h1 h2=>simp[AO,C1,IB,Ec,hl,hr,h1,h2]
 |«at» _ hp hq=>simp[AO,C1,IB,hp,hq]
 |@one _ k x hk hx h=>
  have h1:d+1<=60:=by
   unfold Et at hx;split at hx<;>omega
  rw[AO,Ac (by rw[hk];rfl),Ad (by omega),Ba hk];simp only[C8,AvF,decide_eq_true_eq,Axa];exact⟨⟨h1,by simp[C3]⟩,hx,h⟩
 |@two _ k x y hk hx h gy g=>
  rw[AO,Ac (by rw[hk];rfl),Ad (by omega),Bu (show ¬C1 k=1 by omega)];simp only[C8,AvF,decide_eq_true_eq,Axa];exact⟨⟨hd,by simp[C3]⟩,⟨hx,h⟩,gy,g⟩
theorem Vx:∀(n:Nat) (t:Tr) (d:Nat),SizeOf.sizeOf t<n->d+1<=60->AO t (d+1)=U->AO t d=U:=by
 intro n
 induction n with
 |zero=>intro t d h;omega
 |succ n ih=>
  intro t d hn hd h;have up:∀ b,Et b (d+1)=Et b d+1:=λb=>by cases b<;>rfl
  cases FE h with
  |tt=>exact FD (by omega) (.tt d)
  |ff=>exact FD (by omega) (.ff d)
  |cmp _ hl hr h1 h2=>exact FD (by omega) (.cmp d hl hr h1 h2)
  |«at» _ hp hq=>exact FD (by omega) (.at d hp hq)
  |@one _ k x hk hx h=>
   have up2:Et (Cd k 0 x.kind) (d+1+1)=Et (Cd k 0 x.kind) (d+1)+1:=by cases Cd k 0 x.kind<;>rfl
   rw[up2]at hx h;exact FD (by omega) (.one d hk (by omega) (ih x _ (by simp only[Tr.mk.sizeOf_spec,List.cons.sizeOf_spec]at hn;omega) (by omega) h))
  |@two _ k x y hk hx h gy g=>
   rw[up]at hx h gy g;exact FD (by omega) (.two d hk (by omega) (ih x _ (by simp only[Tr.mk.sizeOf_spec,List.cons.sizeOf_spec]at hn;omega) (by omega) h) (by omega) (ih y _ (by simp only[Tr.mk.sizeOf_spec,List.cons.sizeOf_spec]at hn;omega) (by omega) g))
def OpdL(c:Int)(d:Nat)(x:Tr):Prop:=Et (decide (Ga x.kind<c)) d<=60/\AO x (Et (decide (Ga x.kind<c)) d)=U
theorem OpdL.le{c c':Int}{d:Nat}{x:Tr}(h:OpdL c d x)(hc:c'<=c):OpdL c' d x:=by
 unfold OpdL at h ⊢
 by_cases h1:Ga x.kind<c'
 .grind
 .rw[Bu h1]
  by_cases h2:Ga x.kind<c
  .rw[Ba h2]at h
   have h3:d+1<=60:=h.1;exact⟨show d<=60 by omega,Vx _ x d (AvS _) h3 h.2⟩
  .grind
theorem OpdL.right{d:Nat}{x:Tr}(h:OpdL 1 d x):AO x d=U:=by
 unfold OpdL at h;rw[Bu (by have:=YF x.kind;omega)]at h;exact h.2
structure OutL (vars:List ByteArray) (ps:List Pr) (c:Int) (d:Nat) (x:Tr) (s j:Nat):Prop where
 o:OpdL c d x
 kn:knT vars ps x=U
 ct:Hz x+s<=j
theorem OutL.le{vars:List ByteArray}{ps:List Pr}{c c':Int}{d:Nat}{x:Tr}{s j:Nat}(h:OutL vars ps c d x s j)(hc:c'<=c):OutL vars ps c' d x s j:=⟨h.o.le hc,h.kn,h.ct⟩

section
open Go.RowKit
variable (A:Ar) (D:Orc)
end
structure SameF (D:Orc):Prop where
 same:∀ p q:Pp,PpOk p->PpOk q->D.ask (.fn 41) [.agg (EE p),.agg (EE q)] []=V (bv (DI p q),[])
section
variable {D:Orc} (Ksp:Knows Ak Ag5 D) (Kt:Knows Ak Mn D) (Kh:Knows Ak NW D) (Kq:Knows Ak Qs D) (F:RF D)
include Ksp Kt Kh Kq F
theorem AgM:SameF D where
 same p q hp hq:=by
  have g1:=R4 Kt Kh Kq F (n:=128) (k:=30000) (by omega) (by omega) _ p.f (AvS _) (FB.fc _ p.f (AvS _) hp.fb);have g2:=R4 Kt Kh Kq F (n:=128) (k:=30000) (by omega) (by omega) _ q.f (AvS _) (FB.fc _ q.f (AvS _) hq.fb);rw[hp.can.clone]at g1;rw[hq.can.clone]at g2;obtain⟨b,g3,hb⟩:=Ab0 Kt Kq F (n:=128) (k:=30000) (by omega) (by omega) _ p.f q.f (AvS _) hp.fb hp.can.cn hq.can.cn;have eb:WM p.f q.f=b:=by rw[Axj,Y9 hp.can hq.can,hb]
  unfold DI;rw[eb];clear hb eb hp hq;obtain⟨a,n,m,⟨fk,ft,fe,fs⟩⟩:=p;obtain⟨a',n',m',⟨gk,gt,ge,gs⟩⟩:=q;simp only[EE,eF,eN]at g1 g2 g3 ⊢;refine Aq Ksp AqC (e41 ..) ?_;rw[PY]
  by_cases h1:a=a'
  .rw[h1,beq_self_eq_true]
   refine Af ?_
   by_cases h2:n=n'
   .refine Aw ?_ h2
    by_cases h3:m=m'
    .refine Aw ?_ h3
     rw[Ba h2,Ba h3];refine Aa g1 ?_;simp only[Ae];refine Aa g2 ?_;simp only[Ae];refine Aa g3 ?_
     cases b<;>rfl
    .refine Ap ?_ h3
     rw[Bu h3,AyL,Awb]
   .refine Ap ?_ h2
    rw[Bu h2,AyL,Awb,Awb]
  .rw[beq_eq_false_iff_ne.2 h1]
   rfl
end
theorem Qe:RLexN IK where
 name s hs:=AcL (by unfold CO CH;simp only[sv,hs,if_true];rfl)
 num s hs:=WI (by unfold CO BZ;simp only[sv,hs,if_true];rfl)
theorem TN:SeatOk π BI Cz:=Yu ⟨Auv,Auw,trivial⟩
theorem Anj:RF IK:=Ar1 Aoo Aop
theorem We:SameF IK:=AgM Aor Afe Afb Afd Anj
theorem V1(t:Tr)(hz:WzT t)(hp:WzP t):IK.ask (.fn 37) [.agg (BH t),iv 0] []=V (bv (AO t 0),[]):=PW Zj Te Qe _ t (AvS _) hz hp 0 (by omega)
theorem Ajx{p:Pp}(hp:PpOk p):(Bf Ai Cz).ask (.fn 41) [.agg (EE p),.agg (EE p)] []=V (bv U,[]):=by
 have g:=We.same p p hp hp
 rwa [(Nb hp.can hp.can).2 rfl]at g
theorem Ape:ResR DR4 where
 form vars l r op hv hl hr h1 h2:=Akh (AbT Aiw Anj Afc Te Qe Afe Afb Afd vars hv hl hr h1 h2)
 same p q hp hq:=WK (We.same p q hp hq)
 place xs s h:=Ahs (R1 Afc xs h s)
 right t hz hp:=AcM (V1 t hz hp)
theorem XD(f:Nat):Ca (CW π f) ((Bf Ai Cz).ask (.fn f)):=DQ TN f
theorem Wf:SeatOk π BI K0:=Acg ⟨XD _,XD _,XD _,XD _,trivial⟩
theorem gR4(f:Nat):Ca (CW π f) (nfO ((Bf Ai K0).ask (.fn f))):=AeC (CV _ _) (DQ Wf f)
theorem AbJ{y:Sy}(B:SyB y)(t:Tr)(hz:WzT t)(hp:WzP t)(hn:E2 t<=1000000):nfO ((Bf Ai K0).ask (.fn 35)) [.agg (BH t),.agg (Gj y)] []=V (Oe (II y t),[]):=by
 have g:=SA Aon Ape B t hz hp hn;unfold DR4 at g;unfold nfO;rw[g]
 show V (nfT (Apl (II y t)),[])=_
 rw[AjN]
theorem Ag3:SyB K9 where
 vars:=by decide
 ps:=by decide
 locs p hp:=by
  have:=Ag4.q p hp;omega
theorem Agc:WzT VY:=.mk (by simp) (by simp) (by simp) (by simp) (by simp) (by simp)
theorem Agb:WzP VY:=.mk (by decide) (by decide) (by simp)
set_option maxRecDepth 1000000 in
theorem AnI:W4 (V (Oe (II K9 q4),[]))=U:=by kernel_rfl
set_option maxRecDepth 1000000 in
theorem ApY:Adm (V (Oe (II K9 VY),[]))=U:=by kernel_rfl
def sgB(k:Nat):ByteArray:=⟨(K5.getD k []).toArray⟩
theorem Wi(k:Nat):(sgB k).data.toList=K5.getD k []:=by simp[sgB]
set_option maxRecDepth 100000 in
theorem Acj(w:World):Calls π 246 #[] w λe w'=>∃ b,e=.returned (.slice (V ⟨b,0,Δ⟩) 23 23)/\b<w'.heap.size/\(∀ k,k<23->w'.cell? ⟨b,k,Δ⟩=V (.string (sgB k)))/\Below w.heap.size w w':=by
 go_enter Tryz.func246,Tryz.ntmps246
 go_wp2
 go_ret
 refine⟨w.heap.size,rfl,by simp,λk hk=>?_,Bw w _⟩;rw[(Blk.new w _ _).cell]
 iterate 23 (rcases k with _|k;· rfl)
 omega
def Sz(l:List UInt8)(k:Nat):Prop:=∀ j,j<k->(K5.getD j []).isPrefixOf l=Θ
theorem Ya{l:List UInt8}(h:Sz l 23):DJ l=0:=by
 unfold DJ;have:K5.find? (·.isPrefixOf l)=Δ:=by
  rw[List.find?_eq_none];intro x hx;obtain⟨j,hj,rfl⟩:=AwT hx;have h2:=h j hj;rw[Av1,Ω hj]at h2;have h3:K5[j].isPrefixOf l=Θ:=h2;rw[h3]
  decide
 rw[this]
theorem AgV{l:List UInt8}{k:Nat}(h:Sz l k)(hk:k<23)(hp:(K5.getD k []).isPrefixOf l=U):DJ l=(K5.getD k []).length:=by
 unfold DJ;have:K5.find? (·.isPrefixOf l)=V (K5.getD k []):=by
  have hk':k<K5.length:=hk;rw[List.find?_eq_some_iff_getElem];refine⟨hp,k,hk',by rw[Av1,Ω hk'];rfl,λj hj=>?_⟩;have h2:=h j hj;rw[Av1,Ω (by omega)]at h2;have h3:K5[j].isPrefixOf l=Θ:=h2;rw[h3];rfl
 rw[this]
theorem AjJ(s:ByteArray)(i:Nat):(s.extract i s.size).data.toList=s.data.toList.drop i:=by
 rw[ByteArray.data_extract,Array.toList_extract,List.extract_eq_take_drop];exact AwJ (by rw[AwU,Array.length_toList];exact η _)
theorem Yk{s:ByteArray}{i:Nat}{x:List UInt8}(h:x.isPrefixOf (s.data.toList.drop i)=U):x=cut s i x.length:=by
 unfold cut;exact List.prefix_iff_eq_take.1 (Ax4.1 h)
set_option maxRecDepth 100000 in
set_option maxHeartbeats 4000000 in
theorem AgU(s:ByteArray)(g i:Nat)(p:Nat × Nat)(w:World)(hs:s.size<=20000)(hi:i<=s.size)(hp:Near p i)(hr:Rd w g s i p) :
  Calls π 218 #[.pointer (V ⟨g,0,Δ⟩)] w λe w'=>∃ t:ByteArray,e=.returned (.string t)/\t.data.toList=cut s i (DJ (s.data.toList.drop i)) ∧
   Rd w' g s (i+DJ (s.data.toList.drop i)) (CR s i p (DJ (s.data.toList.drop i)))/\w.grownBy w' (V g):=by
 have HR:=θ hr;have HP:=θ hp;clear hr hp
 go_enter Tryz.func218,Tryz.ntmps218
 go_wp2_with fail
 refine(Acj w).mono ?_;rintro e w0 ⟨b,rfl,hbl,hcells,hb0⟩;have HC:=θ hcells;have HB0:=θ hb0;have HR0:=θ (show Rd w0 g s i p from Blk.call HR.out hb0);clear hcells hb0
 go_wp2_with fail
 go_loopw [7] (λq wr=>∃ k:Nat,k<=23/\q=.int .i64 k/\Sz (s.data.toList.drop i) k/\Below w0.heap.size w0 wr) (λq _=>23-(intOf q).toNat)
 case atStart=>exact⟨0,Awh _,rfl,λj hj=>absurd hj (by omega),Below.refl _ _⟩
 case round=>
  obtain⟨k,hk,rfl,hno,hb⟩:=hrel;have HNO:=θ hno;clear hno
  by_cases hlt:k<23
  .have hc:=(hb.cell (p:=⟨b,k,Δ⟩) hbl).trans (HC.out k hlt)
   have hrd:Rd wr g s i p:=Blk.call HR0.out hb;obtain⟨c0,c1,_⟩:=hrd.cells;have HB:=θ hb;have HRD:=θ hrd;have l0:g<wr.heap.size:=BQ c0;have l1:b<wr.heap.size:=BQ hc;have q0:(0:Int)<=(k:Int):=by omega
   have q1:(k:Int)<23:=by omega
   have q2:(0:Int)<=(i:Int):=by omega
   have q3:(i:Int)<=(s.size:Int):=by omega
   generalize hx:sgB k=x at *;have HX:=θ hx;clear hx hb hrd;have hpv:∃ v,Lib.hasPrefix (s.extract i s.size).data.toList x.data.toList=v:=⟨_,rfl⟩;obtain⟨v,hv⟩:=hpv;have HV:=θ hv;clear hv
   go_wp2_with fail
   refine AZ (by kernel_rfl) (by kernel_rfl) ?_
   repeat (go_big_quiet_step ((exact XV ((Tryz.strings_HasPrefix _ _ _).mono λe w' h=>⟨h.1.trans (by rw[HV.out]),h.2.symm⟩))))
   refine wpQuiet_nil ?_;rintro _ ⟨y,rfl⟩;have hby:=Bi wr y;generalize later wr y=w1 at *;have HB1:=θ (Bb HB.out hby);have HRD1:=θ (show Rd w1 g s i p from Blk.call HRD.out hby);have HPV:=θ (show (K5.getD k []).isPrefixOf (s.data.toList.drop i)=v by rw[←AjJ s i,←Wi k,HX.out];exact HV.out);have HXL:=θ (show x.data.toList=K5.getD k [] by rw[←HX.out];exact Wi k);clear hby hc c0 c1 l0 l1
   cases v with
   |true=>
    have HLEN:=θ (AgV HNO.out hlt HPV.out);have HCUT:=θ (Yk HPV.out);have hxs:x.size=(K5.getD k []).length:=by rw[←HXL.out];simp
    have hle:i+x.size<=s.size:=by
     have h1:=(Ax4.1 HPV.out).length_le;have e:(s.data.toList.drop i).length=s.size-i:=by simp
     rw[hxs];omega
    have HXS:=θ hxs;clear hxs
    go_wp2_with fail
    go_loopw [24] (λq wr=>∃ m:Nat,m<=x.size/\q=.int .i64 m/\Rd wr g s (i+m) (CR s i p m)/\w1.grownBy wr (V g)) (λq _=>x.size-(intOf q).toNat)
    case atStart=>exact⟨0,Awh _,rfl,by simpa[CR,adv]using HRD1.out,A2 (Below.refl _ _)⟩
    case round=>
     obtain⟨m,hm,rfl,hrd,hgr⟩:=hrel;have HRM:=θ hrd;have HGR:=θ hgr;clear hrd hgr
     by_cases hlt2:m<x.size
     .go_wp2_with fail
      refine(Fb s g _ _ wr (by omega) (by omega) ((FY s i m p HP.out (by omega)).small (by omega)) HRM.out).mono ?_;rintro e2 w2 ⟨rfl,hrd2,hg2⟩;have HRD2:=θ hrd2;have HG2:=θ hg2;clear hrd2 hg2
      go_wp2_with fail
      go_roundw
      case rel=>
       refine⟨m+1,hlt2,by go_num,?_,Bl HGR.out HG2.out⟩;have h1:=HRD2.out;rw[D1 s i m p (by omega),AvQ]at h1;exact h1
      case measure=>simp[intOf];omega
     .obtain rfl:m=x.size:=by omega
      go_wp2
      go_ret
      refine⟨_,rfl,?_,?_,Bl (A2 (Bb HB0.out HB1.out)) HGR.out⟩
      .rw[HLEN.out,HXL.out]
       exact HCUT.out
      .rw[HLEN.out,←HXS.out]
       exact HRM.out
   |false=>
    have HNO2:=θ (show Sz (s.data.toList.drop i) (k+1) from λj hj=>(Aw9.1 hj).elim (HNO.out j) λe=>by subst e;exact HPV.out)
    go_wp2_with fail
    go_roundw
    case rel=>exact⟨k+1,hlt,by go_num,HNO2.out,HB1.out⟩
    case measure=>simp[intOf];omega
  .obtain rfl:k=23:=by omega
   have HZ:=θ (Ya HNO.out)
   go_wp2
   go_ret
   refine⟨_,rfl,by rw[HZ.out];rfl,?_,A2 (Bb HB0.out hb)⟩;rw[HZ.out];have h1:=Blk.call HR0.out hb;exact h1
def Jr(k:Nat)(t:ByteArray)(p:Nat × Nat):Value:=.agg #[.int .i64 k,.string t,.int .i64 p.1,.int .i64 p.2]
def JS:Value:=.agg #[.int .i64 0,.string ⟨#[]⟩,.int .i64 0,.int .i64 0]
set_option maxRecDepth 100000 in
set_option maxHeartbeats 4000000 in
theorem VQ(t:ByteArray)(a b:Nat)(w:World)(h:60<t.size)(hs:t.size<=9223372036854775807):Calls π 216 #[.string t,.agg #[.int .i64 a,.int .i64 b]] w λe w'=>e=.returned (.tuple #[JS,.int .i64 2])/\Below w.heap.size w w':=by
 have q:(60:Int)<(t.size:Int):=by omega
 go_enter Tryz.func216,Tryz.ntmps216
 go_wp2
 exact bodyPost_ret (v:=.tuple #[JS,.int .i64 2]) (by simp[results,Tryz.results216,go_sem,JS]) rfl ⟨rfl,CN (Bw _ _)⟩
theorem OT{w:World}{g:Nat}{t:TypeId}{x0 x1 x2 x3:Value}(h:Blk w g t #[x0,x1,x2,x3])(a b c d:Value):Blk ((((w.setCell ⟨g,0,Δ⟩ a).setCell ⟨g,1,Δ⟩ b).setCell ⟨g,2,Δ⟩ c).setCell ⟨g,3,Δ⟩ d) g t #[a,b,c,d]:=by
 simpa using (((h.set_ 0 a).set_ 1 b).set_ 2 c).set_ 3 d
theorem Ea{W:World}{g:Nat}{t:TypeId}{a b c d:Value}(h:Blk W g t #[a,b,c,d]):W.cell? ⟨g,0,Δ⟩=V a/\W.cell? ⟨g,1,Δ⟩=V b/\W.cell? ⟨g,2,Δ⟩=V c/\W.cell? ⟨g,3,Δ⟩=V d:=by
 rw[h.cell,h.cell,h.cell,h.cell];exact⟨rfl,rfl,rfl,rfl⟩
theorem Ef{W:World}{g:Nat}{t:TypeId}{cs:Array Value}(h:Blk W g t cs):W.frozen? ⟨g,0,Δ⟩=Θ/\W.frozen? ⟨g,1,Δ⟩=Θ/\W.frozen? ⟨g,2,Δ⟩=Θ/\W.frozen? ⟨g,3,Δ⟩=Θ:=
 ⟨h.frozen 0,h.frozen 1,h.frozen 2,h.frozen 3⟩
theorem OS{W w:World}{g:Nat}(h:Below W.heap.size W w)(hp:W.heap.size<=g)(a b c d:Value):Below W.heap.size W ((((w.setCell ⟨g,0,Δ⟩ a).setCell ⟨g,1,Δ⟩ b).setCell ⟨g,2,Δ⟩ c).setCell ⟨g,3,Δ⟩ d):=
 Dj (Dj (Dj (Dj h hp) hp) hp) hp
theorem OU(w:World)(t1 t2:TypeId)(c1 c2:Array Value):Blk ((w.alloc (.cells c1 t1)).alloc (.cells c2 t2)) w.heap.size t1 c1/\Blk ((w.alloc (.cells c1 t1)).alloc (.cells c2 t2)) (w.heap.size+1) t2 c2/\Below w.heap.size w ((w.alloc (.cells c1 t1)).alloc (.cells c2 t2)):=by
 refine⟨(Blk.new w t1 c1).alloc _,?_,CN (Bw _ _)⟩;have:=Blk.new (w.alloc (.cells c1 t1)) t2 c2
 rwa [World.size_alloc]at this
set_option maxRecDepth 100000 in
set_option maxHeartbeats 4000000 in
theorem LN(t:ByteArray)(a b:Nat)(w:World)(h:¬ 60<t.size):Calls π 216 #[.string t,.agg #[.int .i64 a,.int .i64 b]] w λe w'=>
  e=.returned (.tuple (if Dy t.data.toList then #[Jr 3 t (a,b),.int .i64 0] else #[JS,.int .i64 20]))/\Below w.heap.size w w':=by
 have q:¬ (60:Int)<(t.size:Int):=by omega
 rcases hn:Dy t.data.toList with _|_
 .have HN:=θ hn
  clear hn
  go_enter Tryz.func216,Tryz.ntmps216
  go_wp2_with fail
  refine(KQ t _ (by omega)).mono ?_;rw[HN.out];rintro e w' ⟨rfl,hb⟩;obtain⟨k1,k2,k3⟩:=OU w 25 164 #[.int .i64 a,.int .i64 b] #[.int .i64 0,.string ⟨#[]⟩,.int .i64 0,.int .i64 0];generalize ((w.alloc (.cells #[.int .i64 a,.int .i64 b] 25)).alloc (.cells #[.int .i64 0,.string ⟨#[]⟩,.int .i64 0,.int .i64 0] 164))=W0 at *;have HB:=θ (Bb k3 hb);have HK1:=θ (k1.call hb);have HK2:=θ (k2.call hb);obtain⟨c0,c1,c2,c3⟩:=Ea (k2.call hb);obtain⟨f0,f1,f2,f3⟩:=Ef (k2.call hb);have d0:=(k1.call hb).cell 0;have d1:=(k1.call hb).cell 1;simp only[Awt,Awm,Awa]at d0 d1;clear hb k1 k2 k3
  go_wp2
  obtain⟨e0,e1,e2,e3⟩:=Ea (OT HK2.out (.int .i64 0) (.string ⟨#[]⟩) (.int .i64 0) (.int .i64 0));refine bodyPost_ret (v:=.tuple #[JS,.int .i64 20]) (by simp[results,Tryz.results216,go_sem,JS,e0,e1,e2,e3]) rfl ⟨rfl,OS HB.out (by omega) (.int .i64 0) (.string ⟨#[]⟩) (.int .i64 0) (.int .i64 0)⟩
 .have HN:=θ hn
  clear hn
  go_enter Tryz.func216,Tryz.ntmps216
  go_wp2_with fail
  refine(KQ t _ (by omega)).mono ?_;rw[HN.out];rintro e w' ⟨rfl,hb⟩;obtain⟨k1,k2,k3⟩:=OU w 25 164 #[.int .i64 a,.int .i64 b] #[.int .i64 0,.string ⟨#[]⟩,.int .i64 0,.int .i64 0];generalize ((w.alloc (.cells #[.int .i64 a,.int .i64 b] 25)).alloc (.cells #[.int .i64 0,.string ⟨#[]⟩,.int .i64 0,.int .i64 0] 164))=W0 at *;have HB:=θ (Bb k3 hb);have HK1:=θ (k1.call hb);have HK2:=θ (k2.call hb);obtain⟨c0,c1,c2,c3⟩:=Ea (k2.call hb);obtain⟨f0,f1,f2,f3⟩:=Ef (k2.call hb);have d0:=(k1.call hb).cell 0;have d1:=(k1.call hb).cell 1;simp only[Awt,Awm,Awa]at d0 d1;clear hb k1 k2 k3
  go_wp2
  obtain⟨e0,e1,e2,e3⟩:=Ea (OT HK2.out (.int .i64 3) (.string t) (.int .i64 a) (.int .i64 b));refine bodyPost_ret (v:=.tuple #[Jr 3 t (a,b),.int .i64 0]) (by simp[results,Tryz.results216,go_sem,Jr,e0,e1,e2,e3]) rfl ⟨rfl,OS HB.out (by omega) (.int .i64 3) (.string t) (.int .i64 a) (.int .i64 b)⟩
def SC(s:ByteArray)(g i:Nat)(p:Nat × Nat)(w:World)(r:Tok1)(e:Ending)(w':World):Prop:=match r with
 |.fin=>e=.returned (.tuple #[Jr 5 ⟨#[]⟩ p,.int .i64 0])/\w.grownBy w' (V g)
 |.err c=>e=.returned (.tuple #[JS,.int .i64 c])/\w.grownBy w' (V g)
 |.tok k n=>∃ t:ByteArray,e=.returned (.tuple #[Jr k t p,.int .i64 0])/\t.data.toList=cut s i n/\Rd w' g s (i+n) (CR s i p n)/\w.grownBy w' (V g)
structure TB (w:World) (g:Nat) (s:ByteArray) (i j:Nat) (p q:Nat × Nat) (R P:Nat) (W:World):Prop where
 rd:Rd W g s j q
 gr:w.grownBy W (V g)
 k1:Blk W R 164 #[.int .i64 0,.string ⟨#[]⟩,.int .i64 0,.int .i64 0]
 k2:Blk W P 25 #[.int .i64 p.1,.int .i64 p.2]
 hR:w.heap.size<=R
 hP:w.heap.size<=P
 hg:g<w.heap.size
section
variable {w:World} {g:Nat} {s:ByteArray} {i j j':Nat} {p q q':Nat × Nat} {R P:Nat} {W W':World}
theorem TB.call(h:TB w g s i j p q R P W)(hb:Below W.heap.size W W'):TB w g s i j p q R P W':=⟨Blk.call h.rd hb,Bl h.gr (A2 hb),h.k1.call hb,h.k2.call hb,h.hR,h.hP,h.hg⟩
theorem TB.turn(h:TB w g s i j p q R P W)(hr:Rd W' g s j' q')(hgr:W.grownBy W' (V g)):TB w g s i j' p q' R P W':=by
 have k1:Blk W' R _ _:=(hgr.block R h.k1.lt (λe=>by have:=h.hR;have:=h.hg;cases e;omega)).trans h.k1;have k2:Blk W' P _ _:=(hgr.block P h.k2.lt (λe=>by have:=h.hP;have:=h.hg;cases e;omega)).trans h.k2;exact⟨hr,Bl h.gr hgr,k1,k2,h.hR,h.hP,h.hg⟩
theorem TB.cells(h:TB w g s i j p q R P W):W.cell? ⟨g,0,Δ⟩=V (.string s)/\W.cell? ⟨g,1,Δ⟩=V (.int .i64 j)/\W.cell? ⟨P,0,Δ⟩=V (.int .i64 p.1)/\W.cell? ⟨P,1,Δ⟩=V (.int .i64 p.2):=by
 obtain⟨c0,c1,_⟩:=h.rd.cells;refine⟨c0,c1,?_,?_⟩
 .rw[h.k2.cell];rfl
 .rw[h.k2.cell];rfl
theorem TB.end_(h:TB w g s i j p q R P W)(a b c d:Value):let W':=(((W.setCell ⟨R,0,Δ⟩ a).setCell ⟨R,1,Δ⟩ b).setCell ⟨R,2,Δ⟩ c).setCell ⟨R,3,Δ⟩ d
  Rd W' g s j q/\w.grownBy W' (V g)/\W'.cell? ⟨R,0,Δ⟩=V a/\W'.cell? ⟨R,1,Δ⟩=V b/\W'.cell? ⟨R,2,Δ⟩=V c/\W'.cell? ⟨R,3,Δ⟩=V d:=by
 have hne:g≠R:=by have:=h.hR;have:=h.hg;omega
 refine⟨?_,?_,Ea (OT h.k1 a b c d)⟩
 .exact(((Blk.far h.rd (p:=⟨R,0,Δ⟩) hne a).far (p:=⟨R,1,Δ⟩) hne b).far (p:=⟨R,2,Δ⟩) hne c).far (p:=⟨R,3,Δ⟩) hne d
 .obtain⟨h1,h2,h3,h4,h5⟩:=h.gr
  refine⟨h1,h2,h3,by simpa using h4,λk hk hn=>?_⟩;have hkR:k≠R:=by have:=h.hR;omega
  exact(Below.heap_setCell _ ⟨R,3,Δ⟩ d k hkR).trans ((Below.heap_setCell _ ⟨R,2,Δ⟩ c k hkR).trans ((Below.heap_setCell _ ⟨R,1,Δ⟩ b k hkR).trans ((Below.heap_setCell _ ⟨R,0,Δ⟩ a k hkR).trans (h5 k hk hn))))
end
theorem Qb(s:ByteArray)(i:Nat)(h:i<s.size):s.data.toList.drop i=BV s i::s.data.toList.drop (i+1):=SV s i h
theorem Yd(t:ByteArray)(a b:Nat)(w:World)(h:¬ 60<t.size)(hn:Dy t.data.toList=Θ):Calls π 216 #[.string t,.agg #[.int .i64 a,.int .i64 b]] w λe w'=>e=.returned (.tuple #[.agg #[.int .i64 0,.string ⟨#[]⟩,.int .i64 0,.int .i64 0],.int .i64 20])/\Below w.heap.size w w':=
 (LN t a b w h).mono λe w' he=>by rw[hn]at he;exact he
theorem VP(t:ByteArray)(a b:Nat)(w:World)(h:¬ 60<t.size)(hn:Dy t.data.toList=U):Calls π 216 #[.string t,.agg #[.int .i64 a,.int .i64 b]] w λe w'=>e=.returned (.tuple #[.agg #[.int .i64 3,.string t,.int .i64 a,.int .i64 b],.int .i64 0])/\Below w.heap.size w w':=
 (LN t a b w h).mono λe w' he=>by rw[hn]at he;exact he
theorem VR(t:ByteArray)(a b:Nat)(w:World)(h:60<t.size)(hs:t.size<=9223372036854775807):Calls π 216 #[.string t,.agg #[.int .i64 a,.int .i64 b]] w λe w'=>e=.returned (.tuple #[.agg #[.int .i64 0,.string ⟨#[]⟩,.int .i64 0,.int .i64 0],.int .i64 2])/\Below w.heap.size w w':=VQ t a b w h hs
theorem st4{w:World}{P R o:Nat}{v a b c d:Value}(h:w.cell? ⟨P,o,Δ⟩=V v)(hne:P≠R):((((w.setCell ⟨R,0,Δ⟩ a).setCell ⟨R,1,Δ⟩ b).setCell ⟨R,2,Δ⟩ c).setCell ⟨R,3,Δ⟩ d).cell? ⟨P,o,Δ⟩=V v:=by
 rw[World.cell?_of_block (a:=⟨P,o,Δ⟩) (Below.heap_setCell _ ⟨R,3,Δ⟩ d P hne),World.cell?_of_block (a:=⟨P,o,Δ⟩) (Below.heap_setCell _ ⟨R,2,Δ⟩ c P hne),World.cell?_of_block (a:=⟨P,o,Δ⟩) (Below.heap_setCell _ ⟨R,1,Δ⟩ b P hne),World.cell?_of_block (a:=⟨P,o,Δ⟩) (Below.heap_setCell _ ⟨R,0,Δ⟩ a P hne)];exact h
theorem Adx(c:UInt8)(W:World):(convert 117 9 (.slice (V ⟨W.heap.size,0,Δ⟩) 1 1)).run π (W.alloc (.cells #[.int .u8 (c.toNat:Int)] 5))=.ok (.string ⟨#[c]⟩) (W.alloc (.cells #[.int .u8 (c.toNat:Int)] 5)):=by
 exact run_convert_bytes_back _ 117 9 5 _ 1 [c] Tryz.underlying117 Tryz.underlying5 Tryz.underlying9 λj hj=>by
  obtain rfl:j=0:=by simpa using hj
  rw[FH,(Blk.new W _ _).cell];rfl
theorem Y1(s:ByteArray)(i n:Nat)(h:i+n<=s.size):(cut s i n).length=n:=by
 unfold cut;rw[List.length_take,AwU,Cu];omega
theorem Jm{s t:ByteArray}{i n:Nat}(h:t.data.toList=cut s i n)(hn:i+n<=s.size):t.size=n:=by
 rw[←Cu,h,Y1 s i n hn]
section
variable (s:ByteArray) (i:Nat) (h:i<s.size)
include h
theorem Acr(h1:Gl (BV s i)=U):Ip (s.data.toList.drop i)=if 20<Bx Eh s i then .err 2 else .tok 1 (Bx Eh s i):=by
 unfold Bx;rw[Qb s i h,EP,Ac h1]
theorem Ahd(h1:Gl (BV s i)=Θ)(h2:B9 (BV s i)=U):Ip (s.data.toList.drop i)=if 60<Bx B9 s i then .err 2 else if 1<Bx B9 s i/\(BV s i).toNat=48 then .err 20 else .tok 3 (Bx B9 s i):=by
 unfold Bx;rw[Qb s i h,EP,Ad (by rw[h1];decide),Ac h2]
theorem Ahb(h1:Gl (BV s i)=Θ)(h2:B9 (BV s i)=Θ)(h3:QM (BV s i)=U):Ip (s.data.toList.drop i)=.tok 4 1:=by
 rw[Qb s i h,EP,Ad (by rw[h1];decide),Ad (by rw[h2];decide),Ac h3]
theorem Ahe(h1:Gl (BV s i)=Θ)(h2:B9 (BV s i)=Θ)(h3:QM (BV s i)=Θ):Ip (s.data.toList.drop i)=if DJ (s.data.toList.drop i)=0 then .err 100 else .tok 2 (DJ (s.data.toList.drop i)):=by
 rw[Qb s i h,EP,Ad (by rw[h1];decide),Ad (by rw[h2];decide),Ad (by rw[h3];decide)]
end
theorem Wk(q:UInt8->Bool):∀ l:List UInt8,(l.take (Hi q l)).all q=U
 |[]=>rfl
 |c::l=>by
  unfold Hi;split
  .rename_i hc
   rw[List.take_succ_cons,Axc,hc,Wk q l];rfl
  .rfl
theorem AfV(s:ByteArray)(i:Nat)(h:i<s.size)(h2:B9 (BV s i)=U)(h60:¬ 60<Bx B9 s i):Dy (cut s i (Bx B9 s i)) = !(decide (1<Bx B9 s i)&&(BV s i).toNat == 48):=by
 have hp:0<Bx B9 s i:=by rw[Sf B9 s i h,Ac h2];omega
 have hl:=Y1 s i (Bx B9 s i) (Nf B9 s i (by omega));unfold Dy;have e1:(cut s i (Bx B9 s i)).isEmpty=Θ:=by
  rw[List.isEmpty_eq_false_iff];intro e;rw[e]at hl;simp at hl;omega
 have e2:(cut s i (Bx B9 s i)).getD 0 0=BV s i:=by
  unfold cut;rw[Qb s i h,Av1,List.getElem?_take_of_lt hp];rfl
 have e3:(cut s i (Bx B9 s i)).all B9=U:=Wk B9 _;have e4:decide (Bx B9 s i<=60)=U:=by rw[decide_eq_true_eq];omega
 rw[e1,hl,e2,e3,e4];simp
set_option maxRecDepth 100000 in
set_option maxHeartbeats 8000000 in
theorem Acs(s:ByteArray)(g i:Nat)(p:Nat × Nat)(w:World)(hs:s.size<=20000)(hi:i<=s.size)(hp:Near p i)(hr:Rd w g s i p) :
  Calls π 161 #[.pointer (V ⟨g,0,Δ⟩)] w (SC s g i p w (Ip (s.data.toList.drop i))):=by
 have hgl:g<w.heap.size:=Blk.lt hr;have HR:=θ hr;have HP:=θ hp;obtain⟨c0,c1,c2⟩:=hr.cells;generalize hT:Ip (s.data.toList.drop i)=T;have HT:=θ hT;clear hr hp hT
 go_enter Tryz.func161,Tryz.ntmps161
 go_wp2_with fail
 have hb0:=Bw w (.cells #[.int .i64 0,.string ⟨#[]⟩,.int .i64 0,.int .i64 0] 164);have hk0:=Blk.new w 164 #[.int .i64 0,.string ⟨#[]⟩,.int .i64 0,.int .i64 0];have HK0:=θ hk0;have HB0:=θ hb0;clear hk0 hb0 c0 c1 c2;refine(Ty p _ (HP.out.small (by omega))).mono ?_;rintro e w1 ⟨rfl,hb1⟩;have HB1:=θ (Bb HB0.out hb1);have HK1:=θ (HK0.out.call hb1);clear hb1 HB0 HK0
 go_wp2_with fail
 have hbo:=Bw w1 (.cells #[.int .i64 p.1,.int .i64 p.2] 25);have hkp:=Blk.new w1 25 #[.int .i64 p.1,.int .i64 p.2];have HTB:=θ (show TB w g s i i p p w.heap.size w1.heap.size (w1.alloc (.cells #[.int .i64 p.1,.int .i64 p.2] 25)) from
  ⟨Blk.call HR.out (Bb HB1.out hbo),A2 (Bb HB1.out hbo),HK1.out.call hbo,hkp,η _,HB1.out.size,hgl⟩)
 have hne:w.heap.size<w1.heap.size:=HK1.out.lt;clear hbo hkp HB1 HK1 HR;generalize (w1.alloc (.cells #[.int .i64 p.1,.int .i64 p.2] 25))=W2 at *;generalize w1.heap.size=P at *;generalize hRR:w.heap.size=R at *;refine(FN s g i p W2 HTB.out.rd).mono ?_;rintro e w3 ⟨rfl,hb3⟩;have HTB3:=θ (HTB.out.call hb3);clear hb3 HTB;obtain⟨c0,c1,c2,c3⟩:=HTB3.out.cells;have l0:g<w3.heap.size:=BQ c0;have l1:P<w3.heap.size:=BQ c2;have l2:R<w3.heap.size:=HTB3.out.k1.lt
 by_cases he:i=s.size
 .have hq:((i:Int) == (s.size:Int))=U:=by rw[he];simp
  have HE:=θ he;clear he
  go_wp2_with fail
  refine AZ (by kernel_rfl) (by kernel_rfl) ?_
  repeat (go_big_quiet_step (fail))
  refine wpQuiet_nil ?_;rintro _ ⟨y,rfl⟩;have HTB4:=θ (HTB3.out.call (Bi w3 y));generalize later w3 y=w4 at *;clear c0 c1 c2 c3 l0 l1 l2;obtain⟨c0,c1,c2,c3⟩:=HTB4.out.cells;obtain⟨c4,c5,c6,c7⟩:=Ea HTB4.out.k1;obtain⟨f0,f1,f2,f3⟩:=Ef HTB4.out.k1
  go_wp2
  obtain⟨x0,x1,e0,e1,e2,e3⟩:=TB.end_ HTB4.out (.int .i64 5) (.string ⟨#[]⟩) (.int .i64 p.1) (.int .i64 p.2);refine bodyPost_ret (v:=.tuple #[Jr 5 ⟨#[]⟩ p,.int .i64 0]) (by simp[results,Tryz.results161,go_sem,Jr,e0,e1,e2,e3]) rfl ?_;rw[←HT.out];rw[HE.out,List.drop_of_length_le (by simp)];exact⟨rfl,x1⟩
 .have hlt:i<s.size:=by omega
  have hq:((i:Int) == (s.size:Int))=Θ:=by rw[beq_eq_false_iff_ne];omega
  clear he;rcases hl:Gl (BV s i) with _|_
  .have HL:=θ hl
   clear hl
   go_wp2_with fail
   refine AZ (by kernel_rfl) (by kernel_rfl) ?_
   repeat (go_big_quiet_step (fail))
   refine wpQuiet_nil ?_;rintro _ ⟨y,rfl⟩;have HTB4:=θ (HTB3.out.call (Bi w3 y));generalize later w3 y=w4 at *;clear c0 c1 c2 c3 l0 l1 l2;obtain⟨c0,c1,c2,c3⟩:=HTB4.out.cells;obtain⟨c4,c5,c6,c7⟩:=Ea HTB4.out.k1;obtain⟨f0,f1,f2,f3⟩:=Ef HTB4.out.k1
   go_wp2_with fail
   refine(DZ (BV s i) _ w4 rfl).mono ?_;rw[HL.out];rintro e w5 ⟨rfl,rfl⟩;rcases hd:B9 (BV s i) with _|_
   .have HD:=θ hd
    clear hd
    go_wp2_with fail
    refine(GX (BV s i) _ w4 rfl).mono ?_;rw[HD.out];rintro e w5 ⟨rfl,rfl⟩;rcases hbg:QM (BV s i) with _|_
    .have HBG:=θ hbg
     have HTG:=θ (Ahe s i hlt HL.out HD.out hbg);clear hbg
     go_wp2_with fail
     refine(YU (BV s i) _ w4 rfl).mono ?_;rw[HBG.out];rintro e w5 ⟨rfl,rfl⟩
     go_wp2_with fail
     refine(AgU s g i p w4 hs hi HP.out HTB4.out.rd).mono ?_;rintro e w5 ⟨t,rfl,htl,hrd,hgr⟩;have HTB5:=θ (HTB4.out.turn hrd hgr);have HTL:=θ htl;have hsl:DJ (s.data.toList.drop i)<=s.size-i:=by have:=Sd (s.data.toList.drop i);rwa [AwU,Cu]at this
     have hts:=Jm htl (by omega);clear hrd hgr htl hsl;clear c0 c1 c2 c3 c4 c5 c6 c7 f0 f1 f2 f3;obtain⟨c0,c1,c2,c3⟩:=HTB5.out.cells;obtain⟨c4,c5,c6,c7⟩:=Ea HTB5.out.k1;obtain⟨f0,f1,f2,f3⟩:=Ef HTB5.out.k1;generalize hn:DJ (s.data.toList.drop i)=n at *;clear hn
     by_cases hz:n=0
     .subst hz
      obtain rfl:=IU hts
      go_wp2
      obtain⟨x0,x1,e0,e1,e2,e3⟩:=TB.end_ HTB5.out (.int .i64 0) (.string ⟨#[]⟩) (.int .i64 0) (.int .i64 0);refine bodyPost_ret (v:=.tuple #[JS,.int .i64 100]) (by simp[results,Tryz.results161,go_sem,JS,e0,e1,e2,e3]) rfl ?_;rw[←HT.out];rw[HTG.out,Ac trivial];exact⟨rfl,x1⟩
     .have hne1:¬ t.toList=[]:=by rw[Axt];intro h;have:=Cu t;rw[h]at this;simp at this;omega
      have hne2:t.toList.isEmpty=Θ:=by simpa using hne1
      clear hts
      go_wp2
      obtain⟨x0,x1,e0,e1,e2,e3⟩:=TB.end_ HTB5.out (.int .i64 2) (.string t) (.int .i64 p.1) (.int .i64 p.2);refine bodyPost_ret (v:=.tuple #[Jr 2 t p,.int .i64 0]) (by simp[results,Tryz.results161,go_sem,Jr,e0,e1,e2,e3]) rfl ?_;rw[←HT.out];rw[HTG.out,Ad hz];exact⟨t,rfl,HTL.out,x0,x1⟩
    .have HBG:=θ hbg
     have HTG:=θ (Ahb s i hlt HL.out HD.out hbg);clear hbg
     go_wp2_with fail
     refine(YU (BV s i) _ w4 rfl).mono ?_;rw[HBG.out];rintro e w5 ⟨rfl,rfl⟩
     go_wp2_with fail
     refine(Fb s g i p w4 (by omega) hlt (HP.out.small (by omega)) HTB4.out.rd).mono ?_;rintro e w5 ⟨rfl,hrd,hgr⟩;have HTB5:=θ (HTB4.out.turn hrd hgr);clear hrd hgr;clear c0 c1 c2 c3 c4 c5 c6 c7 f0 f1 f2 f3;obtain⟨c0,c1,c2,c3⟩:=HTB5.out.cells;obtain⟨c4,c5,c6,c7⟩:=Ea HTB5.out.k1;obtain⟨f0,f1,f2,f3⟩:=Ef HTB5.out.k1;have hcv:=Adx (BV s i) w5;have l0:g<w5.heap.size:=BQ c0;have l1:P<w5.heap.size:=BQ c2;have l2:R<w5.heap.size:=BQ c4
     go_wp2
     obtain⟨x0,x1,e0,e1,e2,e3⟩:=TB.end_ HTB5.out (.int .i64 4) (.string ⟨#[BV s i]⟩) (.int .i64 p.1) (.int .i64 p.2);clear hcv c0 c1 c2 c3 c4 c5 c6 c7 f0 f1 f2 f3 l0 l1 l2;generalize ((((w5.setCell ⟨R,0,Δ⟩ (.int .i64 4)).setCell ⟨R,1,Δ⟩ (.string ⟨#[BV s i]⟩)).setCell ⟨R,2,Δ⟩ (.int .i64 p.1)).setCell ⟨R,3,Δ⟩ (.int .i64 p.2))=W9 at *;have hbo:=Bw W9 (.cells #[.int .u8 ((BV s i).toNat:Int)] 5);generalize W9.alloc (.cells #[.int .u8 ((BV s i).toNat:Int)] 5)=W10 at *;have g0:=(hbo.cell (p:=⟨R,0,Δ⟩) (BQ e0)).trans e0;have g1:=(hbo.cell (p:=⟨R,1,Δ⟩) (BQ e0)).trans e1;have g2:=(hbo.cell (p:=⟨R,2,Δ⟩) (BQ e0)).trans e2;have g3:=(hbo.cell (p:=⟨R,3,Δ⟩) (BQ e0)).trans e3;refine bodyPost_ret (v:=.tuple #[Jr 4 ⟨#[BV s i]⟩ p,.int .i64 0]) (by simp[results,Tryz.results161,go_sem,Jr,g0,g1,g2,g3]) rfl ?_;rw[←HT.out,HTG.out];refine⟨⟨#[BV s i]⟩,rfl,?_,?_,Bl x1 (A2 hbo)⟩
     .unfold cut
      rw[Qb s i hlt];rfl
     .have e:CR s i p 1=OL p (BV s i):=by unfold CR;rw[Qb s i hlt];rfl
      rw[e];exact Blk.call x0 hbo
   .have HD:=θ hd
    clear hd
    go_wp2_with fail
    refine(GX (BV s i) _ w4 rfl).mono ?_;rw[HD.out];rintro e w5 ⟨rfl,rfl⟩;clear c4 c5 c6 c7 f0 f1 f2 f3
    go_wp2_with fail
    have HTN:=θ (Ahd s i hlt HL.out HD.out);have HN:=θ (Nf B9 s i hi);have HNB:=θ (AfV s i hlt HD.out);have HTBd:=θ (HTB4.out.call (Kr (Below.refl _ _)));have hd2:w4.drew.cell? ⟨P,0,Δ⟩=V (.int .i64 p.1):=c2;have hd3:w4.drew.cell? ⟨P,1,Δ⟩=V (.int .i64 p.2):=c3;have hPR:P≠R:=by omega
    clear c0 c1 c2 c3;generalize hn:Bx B9 s i=n at *;have HNN:=θ hn;clear hn
    by_cases hlong:60<n
    .go_region_held3 (λw'=>w'.cell? ⟨P,0,Δ⟩=V (.int .i64 p.1)/\w'.cell? ⟨P,1,Δ⟩=V (.int .i64 p.2))
      (first|with_reducible exact⟨hd2,hd3⟩|with_reducible exact⟨v2,v3⟩|with_reducible exact⟨u2,u3⟩|with_reducible exact⟨st4 v2 hPR,st4 v3 hPR⟩)
      (first | (go_at_call 213;refine(Jt s g i p _ hs hi HP.out HTBd.out.rd).mono ?_;rintro e w5 ⟨t,rfl,htl,hrd,hgr⟩;rw[HNN.out]at htl hrd;have HTB5:=θ (HTBd.out.turn hrd hgr);have HTL:=θ htl;have HTS:=θ (Jm htl HN.out);obtain⟨u0,u1,u2,u3⟩:=HTB5.out.cells;clear u0 u1 htl hrd hgr) | (go_at_call 216;refine(VR t p.1 p.2 _ (by rw[HTS.out];exact hlong) (by rw[HTS.out];have:=HN.out;omega)).mono ?_;rintro e w6 ⟨rfl,hb6⟩;have HTB6:=θ (HTB5.out.call hb6);clear hb6 u2 u3;obtain⟨v0,v1,v2,v3⟩:=HTB6.out.cells;obtain⟨c4,c5,c6,c7⟩:=Ea HTB6.out.k1;obtain⟨f0,f1,f2,f3⟩:=Ef HTB6.out.k1))
     go_wp2
     obtain⟨x0,x1,e0,e1,e2,e3⟩:=TB.end_ HTB6.out (.int .i64 0) (.string ⟨#[]⟩) (.int .i64 0) (.int .i64 0);refine bodyPost_ret (v:=.tuple #[JS,.int .i64 2]) (by simp[results,Tryz.results161,go_sem,JS,e0,e1,e2,e3]) rfl ?_;rw[←HT.out];rw[HTN.out,Ac hlong];exact⟨rfl,x1⟩
    .by_cases hbad:1<n/\(BV s i).toNat=48
     .have HNF := θ (show Dy (cut s i n) = Θ by             rw[HNB.out hlong,hbad.2];have:decide (1<n)=U:=by simpa using hbad.1
                                                            rw[this];rfl)
      go_region_held3 (λw'=>w'.cell? ⟨P,0,Δ⟩=V (.int .i64 p.1)/\w'.cell? ⟨P,1,Δ⟩=V (.int .i64 p.2))
       (first|with_reducible exact⟨hd2,hd3⟩|with_reducible exact⟨v2,v3⟩|with_reducible exact⟨u2,u3⟩|with_reducible exact⟨st4 v2 hPR,st4 v3 hPR⟩)
       (first | (go_at_call 213;refine(Jt s g i p _ hs hi HP.out HTBd.out.rd).mono ?_;rintro e w5 ⟨t,rfl,htl,hrd,hgr⟩;rw[HNN.out]at htl hrd;have HTB5:=θ (HTBd.out.turn hrd hgr);have HTL:=θ htl;have HTS:=θ (Jm htl HN.out);obtain⟨u0,u1,u2,u3⟩:=HTB5.out.cells;clear u0 u1 htl hrd hgr) | (go_at_call 216;refine(Yd t p.1 p.2 _ (by rw[HTS.out];exact hlong) (by rw[HTL.out];exact HNF.out)).mono ?_;rintro e w6 ⟨rfl,hb6⟩;have HTB6:=θ (HTB5.out.call hb6);clear hb6 u2 u3;obtain⟨v0,v1,v2,v3⟩:=HTB6.out.cells;obtain⟨c4,c5,c6,c7⟩:=Ea HTB6.out.k1;obtain⟨f0,f1,f2,f3⟩:=Ef HTB6.out.k1))
      go_wp2
      obtain⟨x0,x1,e0,e1,e2,e3⟩:=TB.end_ HTB6.out (.int .i64 0) (.string ⟨#[]⟩) (.int .i64 0) (.int .i64 0);refine bodyPost_ret (v:=.tuple #[JS,.int .i64 20]) (by simp[results,Tryz.results161,go_sem,JS,e0,e1,e2,e3]) rfl ?_;rw[←HT.out];rw[HTN.out,Ad hlong,Ac hbad];exact⟨rfl,x1⟩
     .have HNF:=θ (show Dy (cut s i n)=U by
       rw[HNB.out hlong,Bool.not_eq_true',Axz]
       by_cases h1:1<n
       .right;rw[beq_eq_false_iff_ne];exact λh=>hbad ⟨h1,h⟩
       .left;simpa using h1)
      go_region_held3 (λw'=>w'.cell? ⟨P,0,Δ⟩=V (.int .i64 p.1)/\w'.cell? ⟨P,1,Δ⟩=V (.int .i64 p.2))
       (first|with_reducible exact⟨hd2,hd3⟩|with_reducible exact⟨v2,v3⟩|with_reducible exact⟨u2,u3⟩|with_reducible exact⟨st4 v2 hPR,st4 v3 hPR⟩)
       (first | (go_at_call 213;refine(Jt s g i p _ hs hi HP.out HTBd.out.rd).mono ?_;rintro e w5 ⟨t,rfl,htl,hrd,hgr⟩;rw[HNN.out]at htl hrd;have HTB5:=θ (HTBd.out.turn hrd hgr);have HTL:=θ htl;have HTS:=θ (Jm htl HN.out);obtain⟨u0,u1,u2,u3⟩:=HTB5.out.cells;clear u0 u1 htl hrd hgr) | (go_at_call 216;refine(VP t p.1 p.2 _ (by rw[HTS.out];exact hlong) (by rw[HTL.out];exact HNF.out)).mono ?_;rintro e w6 ⟨rfl,hb6⟩;have HTB6:=θ (HTB5.out.call hb6);clear hb6 u2 u3;obtain⟨v0,v1,v2,v3⟩:=HTB6.out.cells;obtain⟨c4,c5,c6,c7⟩:=Ea HTB6.out.k1;obtain⟨f0,f1,f2,f3⟩:=Ef HTB6.out.k1))
      go_wp2
      obtain⟨x0,x1,e0,e1,e2,e3⟩:=TB.end_ HTB6.out (.int .i64 3) (.string t) (.int .i64 p.1) (.int .i64 p.2);refine bodyPost_ret (v:=.tuple #[Jr 3 t p,.int .i64 0]) (by simp[results,Tryz.results161,go_sem,Jr,e0,e1,e2,e3]) rfl ?_;rw[←HT.out];rw[HTN.out,Ad hlong,Ad hbad];exact⟨t,rfl,HTL.out,x0,x1⟩
  .have HL:=θ hl
   clear hl
   go_wp2_with fail
   refine AZ (by kernel_rfl) (by kernel_rfl) ?_
   repeat (go_big_quiet_step (fail))
   refine wpQuiet_nil ?_;rintro _ ⟨y,rfl⟩;have HTB4:=θ (HTB3.out.call (Bi w3 y));generalize later w3 y=w4 at *;clear c0 c1 c2 c3 l0 l1 l2;obtain⟨c0,c1,c2,c3⟩:=HTB4.out.cells;obtain⟨c4,c5,c6,c7⟩:=Ea HTB4.out.k1;obtain⟨f0,f1,f2,f3⟩:=Ef HTB4.out.k1;have HN:=θ (Nf Eh s i hi);have HTW:=θ (Acr s i hlt HL.out)
   go_wp2_with fail
   refine(DZ (BV s i) _ w4 rfl).mono ?_;rw[HL.out];rintro e w5 ⟨rfl,rfl⟩
   go_wp2_with fail
   refine(WE s g i p w4 hs hi HP.out HTB4.out.rd).mono ?_;rintro e w5 ⟨t,rfl,htl,hrd,hgr⟩;have HTB5:=θ (HTB4.out.turn hrd hgr);have HTS:=θ (Jm htl HN.out);have HTL:=θ htl;clear hrd hgr htl;clear c0 c1 c2 c3 c4 c5 c6 c7 f0 f1 f2 f3;obtain⟨c0,c1,c2,c3⟩:=HTB5.out.cells;obtain⟨c4,c5,c6,c7⟩:=Ea HTB5.out.k1;obtain⟨f0,f1,f2,f3⟩:=Ef HTB5.out.k1;generalize hn:Bx Eh s i=n at *;clear hn
   by_cases hlong:20<n
   .have hts:t.size=n:=HTS.out
    have q20:(20:Int)<(t.size:Int):=by omega
    clear hts
    go_wp2
    obtain⟨x0,x1,e0,e1,e2,e3⟩:=TB.end_ HTB5.out (.int .i64 0) (.string ⟨#[]⟩) (.int .i64 0) (.int .i64 0);refine bodyPost_ret (v:=.tuple #[JS,.int .i64 2]) (by simp[results,Tryz.results161,go_sem,JS,e0,e1,e2,e3]) rfl ?_;rw[←HT.out];rw[HTW.out,Ac hlong];exact⟨rfl,x1⟩
   .have hts:t.size=n:=HTS.out
    have q20:¬ (20:Int)<(t.size:Int):=by omega
    clear hts
    go_wp2
    obtain⟨x0,x1,e0,e1,e2,e3⟩:=TB.end_ HTB5.out (.int .i64 1) (.string t) (.int .i64 p.1) (.int .i64 p.2);refine bodyPost_ret (v:=.tuple #[Jr 1 t p,.int .i64 0]) (by simp[results,Tryz.results161,go_sem,Jr,e0,e1,e2,e3]) rfl ?_;rw[←HT.out];rw[HTW.out,Ad hlong];exact⟨t,rfl,HTL.out,x0,x1⟩
def LexR.pre(ts:List Tk):LexR->LexR
 |.ok us=>.ok (ts++us)
 |.err e ln co=>.err e ln co
theorem LexR.pre_nil(r:LexR):r.pre []=r:=by cases r<;>rfl
theorem LexR.pre_more(ts:List Tk)(t:Tk)(r:LexR):(r.more t).pre ts=r.pre (ts++[t]):=by cases r<;>simp[LexR.more,LexR.pre]
def Zn(s:ByteArray)(i:Nat)(p:Nat × Nat):LexR:=XY (s.data.toList.drop i) p
theorem Afr(s:ByteArray)(i:Nat)(p:Nat × Nat):Zn s i p=match Ip (s.data.toList.drop (i+Cb Θ s i)) with
  |.fin=>.ok [⟨5,[],(CR s i p (Cb Θ s i)).1,(CR s i p (Cb Θ s i)).2⟩]
  |.err e=>.err e (CR s i p (Cb Θ s i)).1 (CR s i p (Cb Θ s i)).2
  |.tok kind n=>(Zn s (i+Cb Θ s i+n) (CR s (i+Cb Θ s i) (CR s i p (Cb Θ s i)) n)).more ⟨kind,cut s (i+Cb Θ s i) n,(CR s i p (Cb Θ s i)).1,(CR s i p (Cb Θ s i)).2⟩:=by
 unfold Zn Cb;rw[AiG,AxJ];unfold CR cut;simp only[AxJ,AvQ];generalize Ip _=T
 cases T<;>rfl
def OF(t:Tk):AN:=[.int .i64 t.kind,.string ⟨t.text.toArray⟩,.int .i64 t.ln,.int .i64 t.co]
def Gb(ts:List Tk):AN:=(ts.map OF).flatten
theorem Ag9(ts:List Tk)(t:Tk):Gb (ts++[t])=Gb ts++OF t:=by simp[Gb]
def AcY(w:World)(base:Nat)(v:Value)(ts:List Tk):Prop:=w.ownsRow base 164 4 v ts.length (Gb ts)
theorem YH:(Tryz.prog.info? 164).map (λi=>(i.zero,i.size,i.bytes))=V (V (.agg #[.int .i64 0,.string ⟨#[]⟩,.int .i64 0,.int .i64 0]),4,40):=by kernel_rfl
def AcW(r:LexR)(w:World)(e:Ending)(w':World):Prop:=match r with
 |.ok ts=>∃ v,e=.returned (.tuple #[v,.agg #[.int .i64 0,.int .i64 0],.int .i64 0])/\AcY w' w.heap.size v ts/\Below w.heap.size w w'
 |.err c ln co=>e=.returned (.tuple #[.slice Δ 0 0,.agg #[.int .i64 ln,.int .i64 co],.int .i64 c])/\Below w.heap.size w w'
theorem MB{w:World}{g:Nat}{t:TypeId}{x y:Value}(h:Blk w g t #[x,y])(a b:Value):Blk ((w.setCell ⟨g,0,Δ⟩ a).setCell ⟨g,1,Δ⟩ b) g t #[a,b]:=by
 simpa using (h.set_ 0 a).set_ 1 b
theorem Hx{W:World}{g:Nat}{t:TypeId}{a b:Value}(h:Blk W g t #[a,b]):W.cell? ⟨g,0,Δ⟩=V a/\W.cell? ⟨g,1,Δ⟩=V b:=by
 rw[h.cell,h.cell];exact⟨rfl,rfl⟩
structure AC (w:World) (v:Value) (ts:List Tk) (W:World):Prop where
 q:Blk W w.heap.size 25 #[.int .i64 0,.int .i64 0]
 own:W.ownsRow (w.heap.size+2) 164 4 v ts.length (Gb ts)
 lo:w.heap.size+2<=W.heap.size
 below:Below w.heap.size w W
section
variable {w W W':World} {s:ByteArray} {i j:Nat} {p q:Nat × Nat} {v v':Value} {ts:List Tk}
theorem AC.call(h:AC w v ts W)(hb:Below W.heap.size W W'):AC w v ts W':=⟨h.q.call hb,PR h.own hb,Awe h.lo hb.size,Bb h.below hb⟩
theorem AC.turn(h:AC w v ts W)(hg:W.grownBy W' (V (w.heap.size+1))):AC w v ts W':=by
 refine⟨?_,h.own.kept hg ?_,Awe h.lo hg.size,Nu h.below hg λk e=>by have:=Option.some.inj e;omega⟩
 .exact(hg.block w.heap.size h.q.lt (λe=>by have:=Option.some.inj e;omega)).trans h.q
 .rcases hv:v.ownBlock with _|k
  .exact .inl rfl
  .right
   have:=Tv h.own (η _) k hv;intro e;have:=Option.some.inj e;omega
theorem AC.far(_h:AC w v ts W)(hg:W.grownBy W' v.ownBlock){b:Nat}(hb:b<W.heap.size)(hne:v.ownBlock≠V b):W'.heap[b]? = W.heap[b]?:=hg.block b hb λe=>hne e.symm
theorem AC.low(h:AC w v ts W){b:Nat}(hb:b<w.heap.size+2):v.ownBlock≠V b:=λe=>by have:=Tv h.own (η _) b e;omega
theorem AC.app(h:AC w v ts W)(t:Tk)(hown:W'.ownsRow (w.heap.size+2) 164 4 v' (ts.length+1) (Gb ts++OF t))(hg:W.grownBy W' v.ownBlock):AC w v' (ts++[t]) W':=
 ⟨(h.far hg h.q.lt (h.low (by omega))).trans h.q,by rw[Ag9];simpa using hown,Awe h.lo hg.size,Nu h.below hg λk e=>by have:=Tv h.own (η _) k e;omega⟩
end
structure AB (w:World) (s:ByteArray) (i:Nat) (p:Nat × Nat) (v:Value) (ts:List Tk) (W:World):Prop where
 rd:Rd W (w.heap.size+1) s i p
 ac:AC w v ts W
section
variable {w W W':World} {s:ByteArray} {i j:Nat} {p q:Nat × Nat} {v v':Value} {ts:List Tk}
theorem AB.call(h:AB w s i p v ts W)(hb:Below W.heap.size W W'):AB w s i p v ts W':=⟨Blk.call h.rd hb,h.ac.call hb⟩
theorem AB.turn(h:AB w s i p v ts W)(hr:Rd W' (w.heap.size+1) s j q)(hg:W.grownBy W' (V (w.heap.size+1))):AB w s j q v ts W':=⟨hr,h.ac.turn hg⟩
theorem AB.app(h:AB w s i p v ts W)(t:Tk)(hown:W'.ownsRow (w.heap.size+2) 164 4 v' (ts.length+1) (Gb ts++OF t))(hg:W.grownBy W' v.ownBlock):AB w s i p v' (ts++[t]) W':=
 ⟨(h.ac.far hg (Blk.lt h.rd) (h.ac.low (by omega))).trans h.rd,h.ac.app t hown hg⟩
end
theorem Acq{l:List UInt8}{k n:Nat}(h:Ip l=.tok k n):k<=4:=by
 cases l with
 |nil=>simp[Ip]at h
 |cons c l=>
  rw[EP]at h
  repeat' split at h
  all_goals simp at h<;>omega
theorem Ahc{l:List UInt8}{c:Nat}(h:Ip l=.err c):c≠0:=by
 cases l with
 |nil=>simp[Ip]at h
 |cons b l=>
  rw[EP]at h
  repeat' split at h
  all_goals simp at h<;>omega
theorem AC.done{w W:World}{v:Value}{ts:List Tk}(h:AC w v ts W)(a b:Value):AcY ((W.setCell ⟨w.heap.size,0,Δ⟩ a).setCell ⟨w.heap.size,1,Δ⟩ b) w.heap.size v ts:=by
 have hg:W.grownBy ((W.setCell ⟨w.heap.size,0,Δ⟩ a).setCell ⟨w.heap.size,1,Δ⟩ b) (V w.heap.size):=Fy (Fy (A2 (Below.refl _ _)) 0 a) 1 b;refine Af4 (h.own.kept hg ?_) (by omega);rcases hv:v.ownBlock with _|k
 .exact .inl rfl
 .right
  have:=Tv h.own (η _) k hv;intro e;have:=Option.some.inj e;omega
theorem KS{w:World}{base e n:Nat}{v:Value}{xs:AN}(h:w.ownsRow base e 4 v n xs):∃ A c,v=.slice A n c:=by
 rcases h.2 with⟨rfl,rfl⟩|⟨g,cap,cur,rfl,_⟩
 .exact⟨_,_,rfl⟩
 .exact⟨_,_,rfl⟩
set_option maxRecDepth 100000 in
set_option maxHeartbeats 8000000 in
theorem AhK(s:ByteArray)(w:World)(hs:s.size<=9223372036854775807):Calls π 91 #[.string s] w (AcW (Ib s.data.toList) w):=by
 obtain⟨i0,hi0,hz0,hz1,hz2⟩:=info_parts YH;unfold Ib;rw[Cu]
 by_cases hbig:16384<s.size
 .rw[Ac hbig]
  have q:(16384:Int)<(s.size:Int):=by omega
  go_enter Tryz.func91,Tryz.ntmps91
  go_wp2_with fail
  have hp:=Ty (1,1) (w.alloc (.cells #[.int .i64 0,.int .i64 0] 25)) ⟨by decide,by decide,by decide,by decide⟩;unfold plc at hp;simp only[Lq]at hp;refine hp.mono ?_;clear hp;rintro e w1 ⟨rfl,hb⟩;have hk:=(Blk.new w 25 #[.int .i64 0,.int .i64 0]).call hb;have HB:=θ (Bb (Bw w _) hb);have HK:=θ hk;obtain⟨c0,c1⟩:=Hx hk;have f0:=hk.frozen 0;have f1:=hk.frozen 1;clear hk hb
  go_wp2
  obtain⟨e0,e1⟩:=Hx (MB HK.out (.int .i64 1) (.int .i64 1));exact bodyPost_ret (v:=.tuple #[.slice Δ 0 0,.agg #[.int .i64 1,.int .i64 1],.int .i64 2]) (by simp[results,Tryz.results91,go_sem,e0,e1]) rfl ⟨rfl,Dj (Dj HB.out (η _)) (η _)⟩
 .rw[Ad hbig]
  have q:¬ (16384:Int)<(s.size:Int):=by omega
  have hsz:s.size<=16384:=by omega
  generalize hR:XY s.data.toList (1,1)=R;have HR:=θ hR;clear hR
  go_enter Tryz.func91,Tryz.ntmps91
  go_wp2_with fail
  have hst:AB w s 0 (1,1) (.slice Δ 0 0) [] ((w.alloc (.cells #[.int .i64 0,.int .i64 0] 25)).alloc (.cells #[.string s,.int .i64 0,.complex .f64 4607182418800017408 4607182418800017408] 216)):=by
   obtain⟨k1,k2,k3⟩:=OU w 25 216 #[.int .i64 0,.int .i64 0] #[.string s,.int .i64 0,.complex .f64 4607182418800017408 4607182418800017408];refine⟨?_,⟨k1,World.ownsRow_nil _ _ _ _,by simp,k3⟩⟩;unfold Rd plc;rw[show enc (1,1).1=4607182418800017408 from Lq];exact k2
  have HST:=θ hst;clear hst;generalize ((w.alloc (.cells #[.int .i64 0,.int .i64 0] 25)).alloc (.cells #[.string s,.int .i64 0,.complex .f64 4607182418800017408 4607182418800017408] 216))=W0 at *
  go_loopw [6] (λv wr=>∃(i:Nat) (p:Nat × Nat) (ts:List Tk),i<=s.size/\ts.length<=i/\Near p i/\AB w s i p v ts wr/\(Zn s i p).pre ts=R) (λ_ wr=>s.size-P5 (w.heap.size+1) wr)
  case atStart=>exact⟨0,(1,1),[],Awh _,η _,⟨by decide,by decide,by decide,by decide⟩,HST.out,by rw[LexR.pre_nil];exact HR.out⟩
  case round=>
   obtain⟨i,p,ts,hi,hlen,hp,hab,hres⟩:=hrel;have HRT:=θ (Dp hab.rd);have HAB:=θ hab;have HP:=θ hp;have HRES:=θ hres;obtain⟨A5,c5,rfl⟩:=KS hab.ac.own;clear hab hp hres
   go_wp2_with fail
   refine(AgW s (w.heap.size+1) i p wr (by omega) hi HP.out HAB.out.rd).mono ?_;rintro e w1 ⟨rfl,hrd,hgr⟩;have HAB1:=θ (HAB.out.turn hrd hgr);have hk:i+Cb Θ s i<=s.size:=by
    have:=XF Θ (s.data.toList.drop i);rw[AwU,Cu]at this
    show i+Rs Θ (s.data.toList.drop i)<=s.size
    omega
   have HN1:=θ (FY s i (Cb Θ s i) p HP.out hk);have HEQ:=θ (Afr s i p);clear hrd hgr HAB;generalize Cb Θ s i=k at *;generalize CR s i p k=q1 at *;generalize hj:i+k=j at *;have HIJ:=θ hj;have hij:i<=j:=by omega
   clear hj;obtain⟨c0,c1,c2⟩:=HAB1.out.rd.cells;have l0:w.heap.size+1<w1.heap.size:=BQ c0
   go_wp2_with fail
   refine(Ty q1 w1 (HN1.out.small (by omega))).mono ?_;rintro e w2 ⟨rfl,hb2⟩;have HAB2:=θ (HAB1.out.call hb2);clear hb2 c0 c1 c2 l0 HAB1
   go_wp2_with fail
   have hb3:=Bw w2 (.cells #[.int .i64 q1.1,.int .i64 q1.2] 25);have hk3:=Blk.new w2 25 #[.int .i64 q1.1,.int .i64 q1.2];have HAB3:=θ (HAB2.out.call hb3);have HK3:=θ hk3;have hP3:w.heap.size+2<=w2.heap.size:=HAB2.out.ac.lo;clear hb3 hk3 HAB2;generalize (w2.alloc (.cells #[.int .i64 q1.1,.int .i64 q1.2] 25))=w3 at *;generalize w2.heap.size=P at *;refine(Acs s (w.heap.size+1) j q1 w3 (by omega) hk HN1.out HAB3.out.rd).mono ?_;rcases htk:Ip (s.data.toList.drop j) with _|c|⟨kd,n⟩
   .have HTK:=θ htk
    clear htk;simp only[SC,Jr];rintro e w4 ⟨rfl,hgr⟩;have HC4:=θ (HAB3.out.ac.turn hgr);clear hgr;obtain⟨k4,k5,k6⟩:=OU w4 164 164 #[.int .i64 5,.string ⟨#[]⟩,.int .i64 q1.1,.int .i64 q1.2] #[.int .i64 5,.string ⟨#[]⟩,.int .i64 q1.1,.int .i64 q1.2];have HK4:=θ k4;have HK6:=θ k5;have HB6:=θ k6;clear k4 k5 k6;have HC6:=θ (HC4.out.call HB6.out);have HO:=θ HC6.out.own;have HLT:=θ HC4.out.own.lt
    go_wp2_with (at_builtin;refine wpList_append_own_at _ rfl _ _ 157 rfl (w.heap.size+2) 164 i0 (.agg #[.int .i64 0,.string ⟨#[]⟩,.int .i64 0,.int .i64 0]) 4 40 Tryz.underlying157 hi0 hz0 hz1 hz2 rfl (by decide) _ _ _ rfl HO.out ⟨w4.heap.size+1,0,Δ⟩ 1 1 [.int .i64 5,.string ⟨#[]⟩,.int .i64 q1.1,.int .i64 q1.2] rfl rfl ?c1 ?c2 ?c3 ?c4 ?c5 ?_)
    case c1=>
     intro m u hu;have:=HK6.out.cell m;rw[FH,AvW,this];simpa using hu
    case c2=>intro u hu;simp at hu;rcases hu with rfl|rfl|rfl|rfl<;>rfl
    case c3=>unfold maxLen;omega
    case c4=>omega
    case c5=>exact HC6.out.lo
    intro v' w7 hown7 hgrow _ hloc;have hc7:=HC6.out.app ⟨5,[],q1.1,q1.2⟩ hown7 hgrow;have hk7:Blk w7 w4.heap.size 164 #[.int .i64 5,.string ⟨#[]⟩,.int .i64 q1.1,.int .i64 q1.2]:=(hgrow.block _ HK4.out.lt (λe=>by have:=(HLT.out _ e.symm).2;omega)).trans HK4.out;obtain⟨A7,c7,rfl⟩:=KS hown7;have t0:=hk7.cell 0;simp only[Awt,Awm]at t0;have HC7:=θ hc7;obtain⟨q0c,q1c⟩:=Hx hc7.q;have qf0:=hc7.q.frozen 0;have qf1:=hc7.q.frozen 1;have hRR:R=.ok (ts++[⟨5,[],q1.1,q1.2⟩]):=by rw[←HRES.out,HEQ.out,HTK.out];rfl
    have HRR:=θ hRR;clear hc7 hown7 hgrow hloc hk7 hRR
    go_wp2
    obtain⟨e0,e1⟩:=Hx (MB HC7.out.q (.int .i64 0) (.int .i64 0));refine bodyPost_ret (v:=.tuple #[.slice A7 (ts.length+1) c7,.agg #[.int .i64 0,.int .i64 0],.int .i64 0]) (by simp[results,Tryz.results91,go_sem,e0,e1]) rfl ?_;rw[HRR.out];exact⟨_,rfl,HC7.out.done _ _,Dj (Dj HC7.out.below (η _)) (η _)⟩
   .have HTK:=θ htk
    clear htk;simp only[SC,JS];rintro e w4 ⟨rfl,hgr⟩;have HC4:=θ (HAB3.out.ac.turn hgr);have hkp:Blk w4 P 25 #[.int .i64 q1.1,.int .i64 q1.2]:=(hgr.block P HK3.out.lt (λe=>by have:=Option.some.inj e;omega)).trans HK3.out;have hb5:=Bw w4 (.cells #[.int .i64 0,.string ⟨#[]⟩,.int .i64 0,.int .i64 0] 164);have HC5:=θ (HC4.out.call hb5);obtain⟨p0,p1⟩:=Hx hkp;obtain⟨q0c,q1c⟩:=Hx HC4.out.q;have qf0:=HC4.out.q.frozen 0;have qf1:=HC4.out.q.frozen 1;have l3:P<w4.heap.size:=BQ p0;have l4:w.heap.size<w4.heap.size:=BQ q0c;have hce:=Ahc HTK.out;have hne0:((c:Int) != 0)=U:=by rw[bne_iff_ne];omega
    have hRR:R=.err c q1.1 q1.2:=by rw[←HRES.out,HEQ.out,HTK.out];rfl
    have HRR:=θ hRR;clear hgr hkp hb5 hRR hce
    go_wp2_with fail
    go_region
    all_goals
     go_wp2
     have hbw:=Dj (u:=.int .i64 q1.2) (p:=⟨w.heap.size,1,Δ⟩) (Dj (u:=.int .i64 q1.1) (p:=⟨w.heap.size,0,Δ⟩) HC4.out.below (η _)) (η _);obtain⟨e0,e1⟩:=Hx (MB HC4.out.q (.int .i64 q1.1) (.int .i64 q1.2));clear p0 p1 q0c q1c qf0 qf1 l3 l4;generalize ((w4.setCell ⟨w.heap.size,0,Δ⟩ (.int .i64 q1.1)).setCell ⟨w.heap.size,1,Δ⟩ (.int .i64 q1.2))=W9 at *;have hbo:=Kr (Bw W9 (.cells #[.int .i64 0,.string ⟨#[]⟩,.int .i64 0,.int .i64 0] 164));generalize (W9.alloc (.cells #[.int .i64 0,.string ⟨#[]⟩,.int .i64 0,.int .i64 0] 164)).drew=W10 at *;have g0:=(hbo.cell (p:=⟨w.heap.size,0,Δ⟩) (BQ e0)).trans e0;have g1:=(hbo.cell (p:=⟨w.heap.size,1,Δ⟩) (BQ e0)).trans e1;refine bodyPost_ret (v:=.tuple #[.slice Δ 0 0,.agg #[.int .i64 q1.1,.int .i64 q1.2],.int .i64 c]) (by simp[results,Tryz.results91,go_sem,g0,g1]) rfl ?_;rw[HRR.out];exact⟨rfl,Bb hbw hbo⟩
   .have HTK:=θ htk
    clear htk;simp only[SC,Jr];rintro e w4 ⟨t,rfl,htl,hrd,hgr⟩;have HAB4:=θ (HAB3.out.turn hrd hgr);have HC4:=θ HAB4.out.ac;have HTL:=θ htl;clear hgr hrd htl;obtain⟨k4,k5,k6⟩:=OU w4 164 164 #[.int .i64 kd,.string t,.int .i64 q1.1,.int .i64 q1.2] #[.int .i64 kd,.string t,.int .i64 q1.1,.int .i64 q1.2];have HK4:=θ k4;have HK6:=θ k5;have HB6:=θ k6;clear k4 k5 k6;have HAB6:=θ (HAB4.out.call HB6.out);have HC6:=θ HAB6.out.ac;have HO:=θ HC6.out.own;have HLT:=θ HC4.out.own.lt;have hkd:=Acq HTK.out;have hkd5:((kd:Int) == 5)=Θ:=by rw[beq_eq_false_iff_ne];omega
    have hn:=Ww HTK.out;rw[AwU,Cu]at hn;clear hkd
    go_wp2_with (at_builtin;refine wpList_append_own_at _ rfl _ _ 157 rfl (w.heap.size+2) 164 i0 (.agg #[.int .i64 0,.string ⟨#[]⟩,.int .i64 0,.int .i64 0]) 4 40 Tryz.underlying157 hi0 hz0 hz1 hz2 rfl (by decide) _ _ _ rfl HO.out ⟨w4.heap.size+1,0,Δ⟩ 1 1 [.int .i64 kd,.string t,.int .i64 q1.1,.int .i64 q1.2] rfl rfl ?c1 ?c2 ?c3 ?c4 ?c5 ?_)
    case c1=>
     intro m u hu;have:=HK6.out.cell m;rw[FH,AvW,this];simpa using hu
    case c2=>intro u hu;simp at hu;rcases hu with rfl|rfl|rfl|rfl<;>rfl
    case c3=>unfold maxLen;omega
    case c4=>omega
    case c5=>exact HC6.out.lo
    intro v' w7 hown7 hgrow _ hloc;have hab7:=HAB6.out.app ⟨kd,t.data.toList,q1.1,q1.2⟩ hown7 hgrow;have hk7:Blk w7 w4.heap.size 164 #[.int .i64 kd,.string t,.int .i64 q1.1,.int .i64 q1.2]:=(hgrow.block _ HK4.out.lt (λe=>by have:=(HLT.out _ e.symm).2;omega)).trans HK4.out;obtain⟨A7,c7,rfl⟩:=KS hown7;have t0:=hk7.cell 0;simp only[Awt,Awm]at t0;have HAB7:=θ hab7;clear hab7 hown7 hgrow hloc hk7
    go_wp2_with fail
    go_roundw
    case rel=>
     refine⟨j+n,CR s j q1 n,ts++[⟨kd,t.data.toList,q1.1,q1.2⟩],by omega,by simp;omega,FY s j n q1 HN1.out (by omega),by simpa using HAB7.out,?_⟩;rw[←HRES.out,HEQ.out,HTK.out,HTL.out,←LexR.pre_more]
    case measure=>
     rw[HRT.out,Dp HAB7.out.rd];omega
theorem Aut:Ca (CW π 91) (CO TG):=Aig 164 λs w hs=>(AhK s w hs).mono λe w' h=>by
 unfold AcW at h;unfold Sx;exact h
theorem Zc:Ca (CW π 109) (CO CH):=UB λs w hs=>AfP s w hs
theorem Ou:Ca (CW π 108) (CO BZ):=O5 λs w hs=>KQ s w hs
theorem UI:Ca (CW π 22) (CO DG):=UC Zc Ou
section
open Go.RowKit
theorem gAz(f:Nat):Ca (CW π f) ((Dn Ai KZ 200).ask (.fn f)):=(SU (Acf ⟨Aut,Zc,Ou,UI,trivial⟩) 200).1 f
set_option maxRecDepth 1000000
theorem Ara:(Dn Ai KZ 200).ask (.fn 32) [sv (Ag s41),.agg (Gj K9)] []=V (.tup [.agg (BH q4),.agg [iv 0,iv 0],iv 0],[]):=by kernel_rfl
theorem Arb:(Dn Ai KZ 200).ask (.fn 32) [sv (Ag s42),.agg (Gj K9)] []=V (.tup [.agg (BH T0),.agg [iv 1,iv 8],iv 101],[]):=by kernel_rfl
theorem Arc:(Dn Ai KZ 200).ask (.fn 32) [sv (Ag s43),.agg (Gj K9)] []=V (.tup [.agg (BH T0),.agg [iv 1,iv 4],iv 110],[]):=by kernel_rfl
end
section
variable {D:Orc}
theorem X0(Kq:Knows Ak Aap D)(ps:List Pr)(hp:ps.length<=1000000):∀(n i:Nat) (out:List ByteArray),ps.length-i=n->out.length+n<=1000000->D.ask (.lp 232 0) [.sl 0 0 out.length 1,.ls (ps.map O3),iv (ps.length:Int),iv (i:Int)] [Ψ (Av eS out) U U]
  = V (.tup [iv 0,.sl 1 0 (out++(ps.drop i).map (·.name)).length 1],[.del,.set (Ψ (Av eS (out++(ps.drop i).map (·.name))) U U)]):=by
 intro n
 induction n with
 |zero=>
  intro i out hi ho;refine Ax Kq U7 (AdZ ..) ?_;rw[show ps.drop i=[] from List.drop_eq_nil_of_le (by omega),List.map_nil,List.append_nil];refine Am ?_;rfl
 |succ n ih=>
  intro i out hi ho;have hlt:i<ps.length:=by omega
  have ih:=ih (i+1) (out++[ps[i].name]) (by omega) (by simp;omega);rw[show ps.drop i=ps[i]::ps.drop (i+1) from List.drop_eq_getElem_cons hlt];rw[List.append_assoc,List.length_append,List.length_singleton]at ih;refine Ax Kq U7 (AdZ ..) ?_;refine Ao ?_;rw[AA,Az (Ω hlt)];have hf:AU (out.length+1) 16=U:=AL (by omega) (by omega);have hb1:AvL (0+out.length*1) (Av eS out).length=U:=AK Ot out (by omega);have e3:∀ s,List.drop 0 (List.take (0+out.length*1) (Av eS out))++[sv s]=Av eS (out++[s]):=λs=>by
   rw[κ,A0 Ot out (by omega)];exact AW eS out s
  simp only[O3,Ae];rw[Bn (by omega),hf,hb1,e3];refine Af ?_;refine Af ?_;refine Aa ih ?_;rfl
theorem X1(Kq:Knows Ak Aap D)(y:Sy)(hp:y.ps.length<=1000000):D.ask (.fn 232) [.agg (Gj y)] []=V (.ls ((y.ps.map (·.name)).map eS),[]):=by
 refine Aq Kq U7 (AtP ..) ?_;rw[Aj];have g:=X0 Kq y.ps hp _ 0 [] rfl (by simpa using hp);refine Aa g ?_;simp only[Ae,κ,AvV];rw[AK Ot _ (by omega)];refine Af ?_;rw[By Ot _ rfl]
end
theorem RX:∀ l:List Pt,A6 (Av eP l)=U
 |[]=>rfl
 |x::r=>by
  have ih:=RX r;have h1:Av eP (x::r)=eP x++Av eP r:=by simp[Av]
  rw[h1,BN,List.all_append,←BN,←BN,ih];rfl
theorem W7{l:List Pt}(h:l.length<=1000000000):JQ 3 (Dh 3 40) [.ls (l.map eP)] []=V (.sl 0 0 l.length 3,[.set (Fo l)]):=by
 unfold JQ Dh;have h4:AvL (AP (l.map eP)*40) 140737488355328=U:=by
  rw[Aj];simp;omega
 have h1:LQ (Kz (l.map eP))=U:=by rw[FO];exact LR Af0 l
 have h2:A6 (Kz (l.map eP))=U:=by rw[FO];exact RX l
 simp only[Hp AE,h1,h2,h4,Axa,if_true,Option.map_some];rw[Aj,FO]
theorem Aa7{n:Nat}(h:n<=1000000000):JQ 3 (Mb 40) [.v (.slice Δ 0 0),iv (n:Int)] []=V (.sl 0 0 0 3,[.set (Fo [])]):=by
 have h4:AvL (n*40) 140737488355328=U:=by simp;omega
 show (if AvL (n*40) 140737488355328=U then V (0,([]:Ab)) else Δ).map _=_
 rw[Ac h4];rfl
theorem Afs:LexN QH where
 name s hs:=Akj (by unfold CO CH;simp only[sv,hs,if_true];rfl)
 num s hs:=AcK (by unfold CO BZ;simp only[sv,hs,if_true];rfl)
theorem Adp:CloneF QH where
 nat l h:=AcI (AaQ h)
theorem Z2:PartF QH where
 clone l h:=AcJ (W7 h)
 grow n h:=Aho (Aa7 h)
theorem Asb:ZF QH:=Asd Aq0 Aq6 Adp
theorem Fa:SeatOk π BI EO:=Ach ⟨Zc,Ou,AaR,Xa,Aa9,trivial⟩
theorem Apd:ResF DRv where
 form vars t hv hz:=Aki (AhF Al5 Aq3 (Ar4 Al3) Asb Z2 Al2 AqY Al1 Al4 Afs vars hv t hz)
 same x y cx cy fx fy:=Akk (Aex Al5 (Ar4 Al3) Asb Z2 Al2 AqZ (by omega) (by omega) _ x y (AvS _) fx fy cx cy)
 index xs s h:=Ahp (RC Al1 xs h s)
 procs y h:=Aht (X1 Aq1 y h)
 right t hz hp:=Ahu (G8 Aq4 Al4 Afs t hz hp)
theorem Wg:SeatOk π BI K3:=Aci ⟨(DQ Fa _),(DQ Fa _),(DQ Fa _),(DQ Fa _),(DQ Fa _),trivial⟩
theorem Aux(f:Nat):Ca (CW π f) ((Bf Ai K3).ask (.fn f)):=DQ Wg f
theorem Age{y:Sy}(B:SyB y)(t:Tr)(hz:WzT t)(hp:WzP t)(hn:E2 t<=1000000):(Bf Ai K3).ask (.fn 34) [.agg (BH t),.agg (Gj y)] []=V (Oe (II y t),[]):=WR Aq5 Apd B t hz hp hn
set_option linter.unusedSectionVars false
mutual
def D.av:D->Ab
 |.int k n=>[.v (.int k n)]
 |.bool b=>[.v (.bool b)]
 |.str s=>[.v (.string s)]
 |.slice _ xs=>[.ls (FK xs)]
 |.agg xs=>JX xs
def FK:List D->Rw
 |[]=>[]
 |x::r=>x.av::FK r
def JX:List D->Ab
 |[]=>[]
 |x::r=>x.av++JX r
end
theorem Kp:∀ xs:List D,(FK xs).length=xs.length
 |[]=>rfl
 |x::r=>by rw[FK,ε,Kp r,ε]
theorem FL:∀ xs:List D,FK xs=xs.map D.av
 |[]=>rfl
 |x::r=>by rw[FK,FL r];rfl
theorem RW:∀(a b:Ab),A6 a=U->A6 b=U->A6 (a++b)=U
 |[],_,_,hb=>hb
 |x::a,b,ha,hb=>by
  rw[AwP];rw[A6,AvF]at ha ⊢;exact⟨ha.1,RW a b ha.2 hb⟩
mutual
theorem YT:∀ x:D,A6 x.av=U
 |.int _ _=>rfl
 |.bool _=>rfl
 |.str _=>rfl
 |.slice _ _=>rfl
 |.agg xs=>by rw[D.av];exact OQ xs
theorem OQ:∀ xs:List D,A6 (JX xs)=U
 |[]=>rfl
 |x::r=>by rw[JX];exact RW _ _ (YT x) (OQ r)
end
theorem Nt:∀ xs:List D,GA (FK xs)=U
 |[]=>rfl
 |x::r=>by
  rw[FK];have ih:=Nt r;unfold GA at ih ⊢;rw[Axc,YT x,ih];rfl
section
variable {μ:Mu} {F:AQ} {w:World}
theorem NS:∀(a b:Ab) (us ts:AN),RepList μ F w a us->RepList μ F w b ts->RepList μ F w (a++b) (us++ts)
 |[],b,us,ts,ha,hb=>by
  grind [RepList]
 |x::a,b,us,ts,ha,hb=>by
  rw[RepList]at ha;obtain⟨u,t,rfl,h1,h2⟩:=ha;rw[AwP,AwP,RepList];exact⟨u,t++ts,rfl,h1,NS a b t ts h2 hb⟩
theorem GB{x:AV}{u:Value}(h:Rep μ F w x u):RepList μ F w [x] [u]:=by
 rw[RepList];exact⟨u,[],rfl,h,by rw[RepList]⟩
theorem V5{g:Nat}(hF:∀ o,F g o):∀(a:Ab) (us:AN) (o:Nat),RepList μ F w a us->(∀ j u,us[j]? = V u->w.cell? ⟨g,o+j,Δ⟩=V u)->RepAt μ F w g a o
 |[],us,o,_,_=>by rw[RepAt];trivial
 |x::a,us,o,h,hc=>by
  rw[RepList]at h;obtain⟨u,t,rfl,h1,h2⟩:=h;rw[RepAt];refine⟨⟨hF o,u,hc 0 u rfl,h1⟩,V5 hF a t (o+1) h2 λj v hj=>?_⟩;have:=hc (j+1) v hj
  rwa [show o+(j+1)=o+1+j by omega]at this
theorem NR:∀(a:Ab) (us:AN),RepList μ F w a us->a.length=us.length
 |[],us,h=>by rw[RepList]at h;rw[h];rfl
 |x::a,us,h=>by
  rw[RepList]at h;obtain⟨u,t,rfl,h1,h2⟩:=h;rw[ε,ε,NR a t h2]
variable {S:Nat->Prop} (hS:∀ g,S g->∀ o,F g o)
include hS
mutual
theorem Td:∀(x:D) (cs:AN),D.Is w S x cs->RepList μ F w x.av cs
 |.int k n,cs,h=>by
  rw[D.Is]at h;subst h;exact GB (by rw[Rep];exact⟨rfl,rfl⟩)
 |.bool b,cs,h=>by
  rw[D.Is]at h;subst h;exact GB (by rw[Rep];exact⟨rfl,rfl⟩)
 |.str s,cs,h=>by
  rw[D.Is]at h;obtain⟨rfl,hs⟩:=h;exact GB (by rw[Rep];exact⟨rfl,rfl⟩)
 |.slice e xs,cs,h=>by
  rw[D.Is]at h;obtain⟨A,c,rfl,h1,h2,h3⟩:=h;rw[D.av];refine GB ?_;rw[Rep];refine⟨Nt xs,A,c,by rw[Kp],by rw[Kp];exact h1,h2,λhne=>?_⟩;obtain⟨b,o,hA,hb,hr⟩:=h3 (by rintro rfl;exact hne rfl);exact⟨b,o,e,hA,Aag b hb xs o hr⟩
 |.agg xs,cs,h=>by
  rw[D.Is]at h;rw[D.av];exact YX xs cs h
theorem Aag{e:Nat}(b:Nat)(hb:S b):∀(xs:List D) (o:Nat),D.Row w S e b xs o->RepRows μ F w b e (FK xs) o
 |[],o,_=>by rw[FK,RepRows];trivial
 |x::r,o,h=>by
  rw[D.Row]at h;obtain⟨⟨cs,h1,h2,h3⟩,h4⟩:=h;have g:=Td x cs h3;rw[FK,RepRows];exact⟨by rw[NR _ _ g,h1],V5 (hS b hb) _ _ _ g h2,Aag b hb r (o+e) h4⟩
theorem YX:∀(xs:List D) (cs:AN),D.Cat w S xs cs->RepList μ F w (JX xs) cs
 |[],cs,h=>by
  rw[D.Cat]at h;subst h;rw[JX,RepList]
 |x::r,cs,h=>by
  rw[D.Cat]at h;obtain⟨c1,c2,rfl,h1,h2⟩:=h;rw[JX];exact NS _ _ _ _ (Td x c1 h1) (YX r c2 h2)
end
end
open Go.ChangeShapes Go.WideShapes Go.ChangeAt
theorem L6{n:Nat}(h:n<=reachBytes):n<=9223372036854775807:=Awe h (by decide +kernel)
theorem V3{n b:Nat}(hb:2<=b)(h:n*b<=reachBytes):n<4611686018427387904:=by
 have h1:n*2<=n*b:=Nat.mul_le_mul_left n hb;have h2:reachBytes<9223372036854775808:=by decide +kernel
 omega
def Anx(m:Mo):Prop:=m.num.size<=9223372036854775807/\m.var.size<=9223372036854775807
theorem ArN{y:D}(h:D.Typed π y 115)(hf:D.Fits π y 115):∃ m:Mo,y.av=C4 m/\Anx m:=by
 obtain⟨xs,rfl,g0⟩:=h.struct_ Tryz.underlying115;have f0:=hf.struct_ Tryz.underlying115;obtain⟨x0,r0,rfl,h0,g1⟩:=D.TypedFields.cons_ g0;obtain⟨x1,r1,rfl,h1,g2⟩:=D.TypedFields.cons_ g1;obtain⟨x2,r2,rfl,h2,g3⟩:=D.TypedFields.cons_ g2;obtain rfl:=D.TypedFields.nil_ g3;obtain⟨b,rfl⟩:=h0.bool_ Tryz.underlying4;obtain⟨s,rfl⟩:=h1.str_ Tryz.underlying9;obtain⟨v,rfl⟩:=h2.str_ Tryz.underlying9;have f1:=(D.FitsFields.cons_ f0).2;have f2:=(D.FitsFields.cons_ f1).2;have k1:=(D.FitsFields.cons_ f1).1;have k2:=(D.FitsFields.cons_ f2).1;simp only[D.Fits]at k1 k2;exact⟨⟨b,s,v⟩,rfl,L6 k1,L6 k2⟩
theorem AfN{y:D}(h:D.Typed π y 23)(hf:D.Fits π y 23):∃ ms:List Mo,y.av=[.ls (ms.map C4)]/\ms.length<4611686018427387904/\∀ m∈ms,Anx m:=by
 obtain⟨xs,rfl,hx⟩:=h.slice_ Tryz.underlying23;obtain⟨h1,h2⟩:=hf.slice_ Tryz.underlying23;have hl:=V3 (Aym (by kernel_rfl)) h1;have:∀ xs:List D,(∀ y∈xs,D.Typed π y 115/\D.Fits π y 115)->∃ ms:List Mo,xs.map D.av=ms.map C4/\ms.length=xs.length/\∀ m∈ms,Anx m:=λxs=>by
  induction xs with
  |nil=>intro _;exact⟨[],rfl,rfl,by simp⟩
  |cons x r ih=>
   intro hh;obtain⟨ms,e1,e2,e3⟩:=ih λy hy=>hh y (AvZ _ hy)
   obtain⟨m,k1,k2⟩:=ArN (hh x (AvX ..)).1 (hh x (AvX ..)).2;refine⟨m::ms,by rw[AvT,AvT,e1,k1],by simp[e2],λz hz=>?_⟩;rcases AvK.1 hz with rfl|hz
   .exact k2
   .exact e3 z hz
 obtain⟨ms,e1,e2,e3⟩:=this xs λy hy=>⟨hx y hy,h2 y hy⟩
 refine⟨ms,by rw[D.av,FL,e1],by omega,e3⟩
theorem Hf{t e:TypeId}(he:Tryz.prog.underlying t=V (.slice e)){y:D}(h:D.Typed π y t):∃ xs:Rw,y.av=[.ls xs]:=by
 obtain⟨xs,rfl,_⟩:=h.slice_ he;exact⟨_,rfl⟩
theorem Aaj{y:D}(h:D.Typed π y 47):∃ ss:List ByteArray,y.av=[.ls (ss.map eS)]:=by
 obtain⟨xs,rfl,hx⟩:=h.slice_ Tryz.underlying47;have:∀ xs:List D,(∀ y∈xs,D.Typed π y 9)->∃ ss:List ByteArray,xs.map D.av=ss.map eS:=λxs=>by
  induction xs with
  |nil=>intro _;exact⟨[],rfl⟩
  |cons x r ih=>
   intro hh;obtain⟨ms,e1⟩:=ih λy hy=>hh y (AvZ _ hy)
   obtain⟨s,rfl⟩:=(hh x (AvX ..)).str_ Tryz.underlying9;exact⟨s::ms,by rw[AvT,AvT,e1];rfl⟩
 obtain⟨ss,e1⟩:=this xs hx;exact⟨ss,by rw[D.av,FL,e1]⟩
theorem ArU{y:D}(h:D.Typed π y 90):∃ p:Pr,y.av=O3 p:=by
 obtain⟨xs,rfl,g0⟩:=h.struct_ Tryz.underlying90;obtain⟨x0,r0,rfl,h0,g1⟩:=D.TypedFields.cons_ g0;obtain⟨x1,r1,rfl,h1,g2⟩:=D.TypedFields.cons_ g1;obtain⟨x2,r2,rfl,h2,g3⟩:=D.TypedFields.cons_ g2;obtain rfl:=D.TypedFields.nil_ g3;obtain⟨s,rfl⟩:=h0.str_ Tryz.underlying9;obtain⟨l,e1⟩:=Aaj h1;obtain⟨c,e2⟩:=Hf Tryz.underlying88 h2;exact⟨⟨s,l,c⟩,by simp only[D.av,JX,e1,e2];rfl⟩
theorem Ao5{y:D}(h:D.Typed π y 68):∃ ps:List Pr,y.av=[.ls (ps.map O3)]:=by
 obtain⟨xs,rfl,hx⟩:=h.slice_ Tryz.underlying68;have:∀ xs:List D,(∀ y∈xs,D.Typed π y 90)->∃ ss:List Pr,xs.map D.av=ss.map O3:=λxs=>by
  induction xs with
  |nil=>intro _;exact⟨[],rfl⟩
  |cons x r ih=>
   intro hh;obtain⟨ms,e1⟩:=ih λy hy=>hh y (AvZ _ hy)
   obtain⟨s,e2⟩:=ArU (hh x (AvX ..));exact⟨s::ms,by rw[AvT,AvT,e1,e2]⟩
 obtain⟨ss,e1⟩:=this xs hx;exact⟨ss,by rw[D.av,FL,e1]⟩
theorem Ar7{y:D}(h:D.Typed π y 71):∃ s:Sy,y.av=Gj s:=by
 obtain⟨xs,rfl,g0⟩:=h.struct_ Tryz.underlying71;obtain⟨x0,r0,rfl,h0,g1⟩:=D.TypedFields.cons_ g0;obtain⟨x1,r1,rfl,h1,g2⟩:=D.TypedFields.cons_ g1;obtain⟨x2,r2,rfl,h2,g3⟩:=D.TypedFields.cons_ g2;obtain⟨x3,r3,rfl,h3,g4⟩:=D.TypedFields.cons_ g3;obtain⟨x4,r4,rfl,h4,g5⟩:=D.TypedFields.cons_ g4;obtain rfl:=D.TypedFields.nil_ g5;obtain⟨vs,e0⟩:=Aaj h0;obtain⟨bs,e1⟩:=Hf Tryz.underlying67 h1;obtain⟨ps,e3⟩:=Ao5 h3;obtain⟨ac,e4⟩:=Hf Tryz.underlying69 h4;obtain⟨ys,rfl,i0⟩:=h2.struct_ Tryz.underlying61;obtain⟨y0,q0,rfl,j0,i1⟩:=D.TypedFields.cons_ i0;obtain⟨y1,q1,rfl,j1,i2⟩:=D.TypedFields.cons_ i1;obtain⟨y2,q2,rfl,j2,i3⟩:=D.TypedFields.cons_ i2;obtain rfl:=D.TypedFields.nil_ i3;obtain⟨k,rfl,_⟩:=j0.int_ Tryz.underlying3;obtain⟨ks,f2⟩:=Hf Tryz.underlying59 j2;obtain⟨zs,rfl,l0⟩:=j1.struct_ Tryz.underlying58;obtain⟨z0,s0,rfl,m0,l1⟩:=D.TypedFields.cons_ l0;obtain⟨z1,s1,rfl,m1,l2⟩:=D.TypedFields.cons_ l1;obtain rfl:=D.TypedFields.nil_ l2;obtain⟨eq,rfl⟩:=m1.bool_ Tryz.underlying4;obtain⟨us,rfl,n0⟩:=m0.struct_ Tryz.underlying56;obtain⟨u0,v0,rfl,o0,n1⟩:=D.TypedFields.cons_ n0;obtain⟨u1,v1,rfl,o1,n2⟩:=D.TypedFields.cons_ n1;obtain rfl:=D.TypedFields.nil_ n2;obtain⟨pt,f3⟩:=Hf Tryz.underlying50 o0;obtain⟨ws,rfl,p0⟩:=o1.struct_ Tryz.underlying54;obtain⟨w0,w1',rfl,a0,p1⟩:=D.TypedFields.cons_ p0;obtain⟨w1,w2',rfl,a1,p2⟩:=D.TypedFields.cons_ p1;obtain rfl:=D.TypedFields.nil_ p2;obtain⟨ng,rfl⟩:=a0.bool_ Tryz.underlying4;obtain⟨ab,f4⟩:=Hf Tryz.underlying52 a1;exact⟨⟨vs,bs,k,pt,ng,ab,eq,ks,ps,ac⟩,by simp only[D.av,JX,e0,e1,e3,e4,f2,f3,f4];rfl⟩
theorem Apw:∀(n:Nat) (y:D),SizeOf.sizeOf y<=n->D.Typed π y 33->D.Fits π y 33->∃ t:Tr,y.av=BH t/\WzT t/\WzP t:=by
 intro n
 induction n with
 |zero=>intro x hx;cases x<;>simp at hx
 |succ n ih=>
  intro y hn h hf;obtain⟨xs,rfl,g0⟩:=h.struct_ Tryz.underlying33;have f0:=hf.struct_ Tryz.underlying33;obtain⟨x0,r0,rfl,h0,g1⟩:=D.TypedFields.cons_ g0;obtain⟨x1,r1,rfl,h1,g2⟩:=D.TypedFields.cons_ g1;obtain⟨x2,r2,rfl,h2,g3⟩:=D.TypedFields.cons_ g2;obtain⟨x3,r3,rfl,h3,g4⟩:=D.TypedFields.cons_ g3;obtain⟨x4,r4,rfl,h4,g5⟩:=D.TypedFields.cons_ g4;obtain⟨x5,r5,rfl,h5,g6⟩:=D.TypedFields.cons_ g5;obtain⟨x6,r6,rfl,h6,g7⟩:=D.TypedFields.cons_ g6;obtain rfl:=D.TypedFields.nil_ g7;have f1:=(D.FitsFields.cons_ f0).2;have f2:=(D.FitsFields.cons_ f1).2;have f3:=(D.FitsFields.cons_ f2).2;have f4:=(D.FitsFields.cons_ f3).2;have f5:=(D.FitsFields.cons_ f4).2;have f6:=(D.FitsFields.cons_ f5).2;obtain⟨k,rfl,_⟩:=h0.int_ Tryz.underlying3;obtain⟨l,el,l1,l2⟩:=AfN h1 (D.FitsFields.cons_ f1).1;obtain⟨r,er,m1,m2⟩:=AfN h2 (D.FitsFields.cons_ f2).1;obtain⟨op,rfl,_⟩:=h3.int_ Tryz.underlying3;obtain⟨p,rfl⟩:=h4.str_ Tryz.underlying9;obtain⟨q,rfl⟩:=h5.str_ Tryz.underlying9;obtain⟨ys,rfl,hy⟩:=h6.slice_ Tryz.underlying31;obtain⟨z1,z2⟩:=(D.FitsFields.cons_ f6).1.slice_ Tryz.underlying31;have hl:=V3 (Aym (by kernel_rfl)) z1;have:∀ zs:List D,(∀ y∈zs,y∈ys)->∃ ts:List Tr,zs.map D.av=ts.map BH/\ts.length=zs.length/\∀ m∈ts,WzT m/\WzP m:=λzs=>by
   induction zs with
   |nil=>intro _;exact⟨[],rfl,rfl,by simp⟩
   |cons x r ih2=>
    intro hh;obtain⟨ms,e1,e2,e3⟩:=ih2 λy hy=>hh y (AvZ _ hy)
    have hm:=hh x (AvX ..);obtain⟨m,k1,k2⟩:=ih x (by
     have h3:=List.sizeOf_lt_of_mem hm;simp at hn;omega) (hy x hm) (z2 x hm)
    refine⟨m::ms,by rw[AvT,AvT,e1,k1],by simp[e2],λz hz=>?_⟩;rcases AvK.1 hz with rfl|hz
    .exact k2
    .exact e3 z hz
  obtain⟨ts,e1,e2,e3⟩:=this ys λ_ h=>h
  have s4:=(D.FitsFields.cons_ f4).1;have s5:=(D.FitsFields.cons_ f5).1;simp only[D.Fits]at s4 s5;refine⟨.mk k l r op p q ts,?_,.mk l1 m1 (by omega) l2 m2 λm hm=>(e3 m hm).1,.mk (L6 s4) (L6 s5) λm hm=>(e3 m hm).2⟩;rw[BH,B1,←e1,←FL];simp only[D.av,JX,el,er,AwP,AvV];rfl
theorem Th:LexN Fk where
 name s hs:=Ahq (by unfold CO CH;simp only[sv,hs,if_true];rfl)
 num s hs:=YK (by unfold CO BZ;simp only[sv,hs,if_true];rfl)
theorem Aj0:SumG Fk where
 sum ms h1 h2:=WL (by unfold CO;rw[QY ms (RY.2 ⟨h1,h2⟩)];rfl)
theorem Aal:SumF Fk:=Aj0.f
set_option maxRecDepth 1000000 in
theorem TM:SeatOk π BI TL:=Yt ⟨Zc,Ou,UI,gAz _,Aux _,XD _,XD _,XD _,gR4 _,trivial⟩
theorem AoA(y:Sy)(t:Tr)(hz:WzT t)(hp:WzP t)(hn:E2 t<=1000000)(B:SyB y):Fk.ask (.fn 34) [.agg (BH t),.agg (Gj y)] []=V (Oe (II y t),[]):=WJ (Age B t hz hp hn)
theorem Af8:BP q4=s41:=by kernel_rfl
theorem AnC:Al4F Fk where
 res:=by
  rw[AoA K9 q4 Aga Af9 (by decide) Ag3];exact AaO AnI
 no:=by
  rw[AoA K9 VY Agc Agb (by decide) Ag3];exact Adn ApY
 text:=by
  have g:=Uh Aff XU Afg XT Th Afa Aal q4 Aga Af9 VX (by rw[Af8];decide)
  rwa [Af8]at g
theorem Ac4:Fk.ask (.fn 30) [] []=V (bv U,[]):=AaC Zh (Np Ara) (Np Arb) (Np Arc) (by
 have g:=G8 XU XT Th q4 Aga Af9
 rwa [VX]at g) AnC
theorem Tl(v1 v2:Value)(t:Tr)(hz:WzT t)(hp:WzP t)(y:Sy)(w:World)(r1:Rep (λ_=>Δ) (λg _=>g<w.heap.size) w (.agg (BH t)) v1)(r2:Rep (λ_=>Δ) (λg _=>g<w.heap.size) w (.agg (Gj y)) v2):Calls π 9 #[v1,v2] w λe w'=>e=.returned (.bool U)/\Below w.heap.size w w':=by
 have g:=ML TM (Abv Aiu XU XT Th Afg Afa Aal Aff Aoq Zh Aiv Ac4 y (λt a b c B=>AoA y t a b c B) (λt a b c B=>Uf (AbJ B t a b c)) (λp hp=>Ug (Ajx hp)) (λt a b=>YL (V1 t a b)) (λt a b h=>AcN (Aay Zj Te Qe Aix t a b h)) t hz hp) w [v1,v2] (by
  simp only[RepList];exact⟨_,_,rfl,r1,_,_,rfl,r2,rfl⟩)
 refine Calls.mono g ?_;rintro e w' ⟨u,rfl,hb,μ',F',hr⟩;unfold bv Rep at hr;rw[hr.1];exact⟨rfl,hb⟩
set_option maxRecDepth 100000 in
theorem Oa(os:Go.Os)(started:os.Started)(H:Type)(enc:TypeId × Value->H) :
  ReturnsInHanded {} Tryz.checked os 9 .any (Rows.ltlTellsSpec.pre6 enc π Tryz.f9 [] Θ) (Rows.ltlTellsSpec.post enc π Tryz.f9 Θ U Θ Θ):=by
 refine AiB (C:=Tryz.checked) 2 [4,9,3,115,23,33,31,47,230,52,54,302,67,154,50,56,58,61,59,115,23,33,31,312,306,308,88,90,68,310,303,305,69,71] 4 Af5 started (by kernel_rfl) Tryz.func9
  (ChangeSpec.witness6 (enc:=enc) (C:=Tryz.checked) Θ ⟨#[],#[.agg #[.int .i64 0,.slice Δ 0 0,.slice Δ 0 0,.int .i64 0,.string ⟨#[]⟩,.string ⟨#[]⟩,.slice Δ 0 0],.agg #[.slice Δ 0 0,.slice Δ 0 0,.int .i64 0,.slice Δ 0 0,.bool Θ,.slice Δ 0 0,.bool Θ,.slice Δ 0 0,.slice Δ 0 0,.slice Δ 0 0]],[]⟩ 8 (by kernel_rfl) (by kernel_rfl) (by kernel_rfl) (by kernel_rfl))
  (by kernel_rfl) rfl (by kernel_rfl) Afi rfl Tryz.underlying4 rfl (λds h=>?_) (λW args xs h=>?_)
 .match ds,h with
  |[d1,d2],_=>rfl
 .have h':Kj W π [33,71] args.toList xs:=h
  obtain⟨args⟩:=args;obtain⟨v1,a1,x1,y1,r1,rfl,⟨cs1,e1,h1,t1,z1⟩,h'⟩:=Ns h';obtain⟨v2,a2,x2,y2,rfl,rfl,⟨cs2,e2,h2,t2,z2⟩,h'⟩:=Ns h';obtain rfl:=WU h';have r1:args=[v1,v2]:=r1;subst r1;obtain⟨t,k1,k2,k3⟩:=Apw _ x1 (η _) t1 z1;obtain⟨y,m1⟩:=Ar7 t2;have i1:=Td (μ:=λ_=>Δ) (F:=λg _=>g<W.heap.size) (λg hg _=>hg) x1 cs1 h1;have i2:=Td (μ:=λ_=>Δ) (F:=λg _=>g<W.heap.size) (λg hg _=>hg) x2 cs2 h2;rw[k1]at i1;rw[m1]at i2;obtain⟨zs,rfl,_⟩:=t1.struct_ Tryz.underlying33;obtain⟨ys,rfl,_⟩:=t2.struct_ Tryz.underlying71;have e1:v1=.agg cs1.toArray:=e1;have e2:v2=.agg cs2.toArray:=e2;subst e1 e2;exact Tl _ _ t k2 k3 y W (by rw[Rep];exact⟨cs1.toArray,rfl,i1⟩) (by rw[Rep];exact⟨cs2.toArray,rfl,i2⟩)
set_option maxRecDepth 1000000 in
set_option maxHeartbeats 4000000 in
theorem N9:joinedFacts Tryz.pinned.checked.prog 9 Tryz.f9 Rows.ltlTellsSpec Rows.ltlTellsRow=U:=by
 unfold joinedFacts
 repeat' (with_reducible refine Bool.and_eq_true_iff.2 ⟨?_,?_⟩)
 all_goals (as_aux_lemma=>kernel_rfl)
theorem ltlTells_holds:Rows.LtlTellsSaid:=
 OpenClaim.holds_of_wide 9 Tryz.f9 rfl rfl rfl rfl rfl rfl rfl ⟨rfl,rfl,rfl,rfl,rfl⟩ rfl rfl rfl rfl rfl (by kernel_rfl) Tryz.func9 N9
  (of_decide_eq_true (by kernel_rfl)) (by unfold Func.isWrapper;first | (rw[Ac (by decide +kernel)];kernel_rfl) | (rw[Ad (by decide +kernel)];exact⟨rfl,rfl⟩))
  (λos started H enc _=>Oa os started H enc)
