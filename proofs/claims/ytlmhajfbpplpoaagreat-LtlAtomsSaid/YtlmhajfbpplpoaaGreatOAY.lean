/- expr.SumText: its walk, -/
import Derived.Test.YtlmhajfbpplpoaaGreatOAU
import Derived.Test.YtlmhajfbpplpoaaGreatOAX
import Derived.Test.YtlmhajfbpplpoaaGreatOAT
set_option linter.all false
open Bool renaming and_eq_true->ε
open List renaming all_eq_true->Apy,getElem?_eq_getElem->Φ,getElem?_map->Aql,getElem_mem->ApG,length_append->υ,length_take->ApQ
open Nat renaming add_zero->Aqh,ne_of_gt->Arb,zero_mul->AqV
namespace Go.Proofs.YtlmhajfbpplpoaaGreat
noncomputable section
open Lib renaming IsBuilder->AqZ,byteCells->AqO,byteCells_append->AqQ,byteCells_length->AqR,hid->δ
open Tryz renaming prog->φ
open Go.RowKit
def MosIn(w:World)(v:Value)(ms:List Mo):Prop:=∃ A c,v=.slice A ms.length c/\(0<ms.length->∃ b o,A=some ⟨b,o,none⟩/\b<w.heap.size/\∀ i (h:i<ms.length),w.cell? ⟨b,o+i*3,none⟩=some (.bool ms[i].neg)/\w.cell? ⟨b,o+i*3+1,none⟩=some (.string ms[i].num)/\w.cell? ⟨b,o+i*3+2,none⟩=some (.string ms[i].var))
theorem MosIn.call{w w':World}{v:Value}{ms:List Mo}(h:MosIn w v ms)(hb:Below w.heap.size w w'):MosIn w' v ms:=by
 obtain⟨A,c,rfl,hx⟩:=h;refine⟨A,c,rfl,λh0=>?_⟩;obtain⟨b,o,rfl,hl,hc⟩:=hx h0;refine⟨b,o,rfl,Nat.lt_of_lt_of_le hl hb.size,λi hi=>?_⟩;obtain⟨c1,c2,c3⟩:=hc i hi;exact⟨(hb.cell (p:=⟨b,o+i*3,none⟩) hl).trans c1,(hb.cell (p:=⟨b,o+i*3+1,none⟩) hl).trans c2,(hb.cell (p:=⟨b,o+i*3+2,none⟩) hl).trans c3⟩
theorem Ef{w w':World}{T e:TypeId}{B b:Nat}{bs:List Value}(h:AqZ T e B b bs w)(hb:Below w.heap.size w w'):AqZ T e B b bs w':=by
 rcases h with h|h
 .obtain⟨hB,v,h1,h2,h3⟩:=h
  have hl:=Lib.BuilderAt.lt ⟨hB,v,h1,h2,h3⟩;exact .inl ⟨hB,v,(hb.block b hl).trans h1,Ob h2 hb,h3⟩
 .obtain⟨hB,v,h1,h2,h3⟩:=h
  have hl:=Lib.BuilderAt.lt ⟨hB,v,h1,h2,h3⟩;exact .inr ⟨hB,v,(hb.block b hl).trans h1,Ob h2 hb,h3⟩
set_option maxRecDepth 100000 in
set_option maxHeartbeats 4000000 in
theorem TE(ms:List Mo)(v:Value)(w:World)(hv:MosIn w v ms)
  (hR:∀ w',Below w.heap.size w w'->Calls φ 23 #[v] w' λe w''=>e=.returned (.bool (O6 ms))/\Below w'.heap.size w' w'')
  (hM:∀ m∈ms,Bg m=true->∀ w',Calls φ 57 #[.agg #[.bool m.neg,.string m.num,.string m.var]] w' λe w''=>e=.returned (.string ⟨(Dg m).toArray⟩)/\Below w'.heap.size w' w'') :
  Calls φ 22 #[v] w λe w'=>e=.returned (.string ⟨(LD ms).toArray⟩)/\Below w.heap.size w w':=by
 obtain⟨A,c,rfl,hx⟩:=hv;have HX:=δ hx;have HR:=δ hR;have HM:=δ hM;clear hx hR hM
 go_enter Tryz.func22,Tryz.ntmps22
 unfold LD
 cases hrs:O6 ms with
 |false=>
  rw[hrs]at HR
  go_wp2_with (go_at_call 23;refine(HR.out _ (Below.refl _ _)).mono ?_)
  rintro e w1 ⟨rfl,hb1⟩
  go_wp2
  go_ret
  exact⟨rfl,hb1⟩
 |true=>
  rw[hrs]at HR;have hrs2:=hrs;unfold O6 at hrs2;simp only[ε,decide_eq_true_eq]at hrs2;obtain⟨⟨h0,h64⟩,hall⟩:=hrs2;have HALL:=δ hall;clear hall hrs
  go_wp2_with (go_at_call 23;refine(HR.out _ (Below.refl _ _)).mono ?_)
  rintro e w1 ⟨rfl,hb1⟩;have HB1:=δ hb1;clear hb1
  go_wp2_with fail
  go_loopw [11] (λq wr=>∃ k:Nat,k<=ms.length/\q=.int .i64 k/\AqZ 119 5 w.heap.size w1.heap.size (AqO (C5 0 (ms.take k))) wr/\Below w.heap.size w wr) (λq _=>ms.length-(intOf q).toNat)
  case atStart=>
   refine⟨0,Nat.zero_le _,rfl,?_,?_⟩
   .exact .inl ⟨HB1.out.size,.slice none 0 0,heap_alloc_new _ _,World.ownsRow_nil _ _ _ _,by simp[Value.ownBlock]⟩
   .exact HB1.out.alloc HB1.out.size _
  case round=>
   obtain⟨k,hk,rfl,hbld,hb⟩:=hrel;have HBLD:=δ hbld;have HB:=δ hb;clear hbld hb
   by_cases hlt:k<ms.length
   .obtain⟨b,o,rfl,hbl,hc⟩:=HX.out h0
    obtain⟨d1,d2,d3⟩:=hc k hlt;have c1:=(HB.out.cell (p:=⟨b,o+k*3,none⟩) hbl).trans d1;have c2:=(HB.out.cell (p:=⟨b,o+k*3+1,none⟩) hbl).trans d2;have c3:=(HB.out.cell (p:=⟨b,o+k*3+2,none⟩) hbl).trans d3;have l0:b<wr.heap.size:=Bu c1;have z0:(0:Int)<=(k:Int):=by omega
    have z1:(k:Int)<(ms.length:Int):=by omega
    clear hc d1 d2 d3;have HT:=δ (Vy ms k hlt);have hr:Bg ms[k]=true:=Apy.1 HALL.out _ (ApG hlt);have HMK:=δ (HM.out ms[k] (ApG hlt) hr);have HLM:=δ (NX hr);have HLS:=δ (LC (ms.take k) 0 (Apy.2 λx hx=>Apy.1 HALL.out x (List.mem_of_mem_take hx)));generalize ms[k]=m at *;obtain⟨ng,nu,va⟩:=m;clear hr;simp only at c1 c2 c3
    cases ng with
    |true=>
     by_cases hk0:k=0
     .subst hk0
      rw[AqV,Aqh]at c1 c2 c3;have q1:(AqO (C5 0 (ms.take 0))).length+(ByteArray.mk #[45]).size<=140737488355328:=by
       rw[AqR];have h5:=HLS.out;have h8:(ms.take 0).length<=64:=by rw[ApQ];omega
       show _+1<=_
       omega
      have Q1:=δ q1;clear q1
      go_wp2_with (go_at_call 56;refine(B5 w.heap.size _ (AqO (C5 0 (ms.take 0))) _ _ (Ef HBLD.out (Bi _ _)) Q1.out (Cp HB.out).size).mono ?_)
      first|rintro e w3 rfl hd3 hb3 hk3|rintro e w3 ⟨rfl,hd3,hb3,hk3⟩
      have HK3:=δ (show Blk w3 wr.heap.size 115 #[.bool true,.string nu,.string va] from by first|exact hk3 _ _ _ _ (Blk.new wr _ _) (Arb (HBLD.out.elim Lib.BuilderAt.lt Lib.BuilderAt.lt)) (by decide) | exact hk3 _ _ _ _ _ (Blk.new wr _ _) (Arb (HBLD.out.elim Lib.BuilderAt.lt Lib.BuilderAt.lt)) (by decide));have HB3:=δ ((Cp HB.out).trans hb3);have HLP:=δ (show ([45]:List UInt8).length<=3 by decide);have HD3:=δ (show AqZ 119 5 w.heap.size w1.heap.size (AqO (C5 0 (ms.take 0)++[45])) w3 from .inr (by rw[AqQ];exact hd3));clear hd3 hb3 hk3;have x0:=HK3.out.cell 0;have x1:=HK3.out.cell 1;have x2:=HK3.out.cell 2;have l3:=HK3.out.lt
      go_wp2_with (go_at_call 57;refine(HMK.out _).mono ?_)
      first|rintro e w4 rfl hb4|rintro e w4 ⟨rfl,hb4⟩
      replace hb4:Below (w3).heap.size (w3) w4:=by first|exact hb4 | (rw[World.size_alloc];exact hb4)
      have HB4:=δ (AY HB3.out hb4);have HD4:=δ (Ef HD3.out hb4);clear hb4 x0 x1 x2 l3
      go_wp2_with (go_at_call 56;refine(B5 w.heap.size _ _ _ _ HD4.out ?h1 HB4.out.size).mono ?_)
      case h1=>
       rw[AqR,υ];have h5:=HLS.out;have h6:=HLM.out;have h7:=HLP.out;have h8:(ms.take 0).length<=64:=by rw[ApQ];omega
       have h9:(ByteArray.mk (Dg ⟨true,nu,va⟩).toArray).size=(Dg ⟨true,nu,va⟩).length:=by simp[ByteArray.size]
       omega
      first|rintro e w5 rfl hd5 hb5 _|rintro e w5 ⟨rfl,hd5,hb5,_⟩
      have HD5:=δ hd5;have HB5:=δ (HB4.out.trans hb5);clear hd5 hb5
      go_wp2_with fail
      go_roundw
      case rel=>exact⟨0+1,hlt,by go_num,.inr (by rw[HT.out,AqQ];exact HD5.out),HB5.out⟩
      case measure=>simp[intOf];omega
     .have y0:¬ (k:Int)=0:=by omega
      have hs:O7 k ⟨true,nu,va⟩=[32,45,32]:=by simp[O7,hk0]
      rw[hs]at HT;have q1:(AqO (C5 0 (ms.take k))).length+(ByteArray.mk #[32,45,32]).size<=140737488355328:=by
       rw[AqR];have h5:=HLS.out;have h8:(ms.take k).length<=64:=by rw[ApQ];omega
       show _+3<=_
       omega
      have Q1:=δ q1;clear q1
      go_wp2_with (go_at_call 56;refine(B5 w.heap.size _ (AqO (C5 0 (ms.take k))) _ _ (Ef HBLD.out (Bi _ _)) Q1.out (Cp HB.out).size).mono ?_)
      first|rintro e w3 rfl hd3 hb3 hk3|rintro e w3 ⟨rfl,hd3,hb3,hk3⟩
      have HK3:=δ (show Blk w3 wr.heap.size 115 #[.bool true,.string nu,.string va] from by first|exact hk3 _ _ _ _ (Blk.new wr _ _) (Arb (HBLD.out.elim Lib.BuilderAt.lt Lib.BuilderAt.lt)) (by decide) | exact hk3 _ _ _ _ _ (Blk.new wr _ _) (Arb (HBLD.out.elim Lib.BuilderAt.lt Lib.BuilderAt.lt)) (by decide));have HB3:=δ ((Cp HB.out).trans hb3);have HLP:=δ (show ([32,45,32]:List UInt8).length<=3 by decide);have HD3:=δ (show AqZ 119 5 w.heap.size w1.heap.size (AqO (C5 0 (ms.take k)++[32,45,32])) w3 from .inr (by rw[AqQ];exact hd3));clear hd3 hb3 hk3;have x0:=HK3.out.cell 0;have x1:=HK3.out.cell 1;have x2:=HK3.out.cell 2;have l3:=HK3.out.lt
      go_wp2_with (go_at_call 57;refine(HMK.out _).mono ?_)
      first|rintro e w4 rfl hb4|rintro e w4 ⟨rfl,hb4⟩
      replace hb4:Below (w3).heap.size (w3) w4:=by first|exact hb4 | (rw[World.size_alloc];exact hb4)
      have HB4:=δ (AY HB3.out hb4);have HD4:=δ (Ef HD3.out hb4);clear hb4 x0 x1 x2 l3
      go_wp2_with (go_at_call 56;refine(B5 w.heap.size _ _ _ _ HD4.out ?h1 HB4.out.size).mono ?_)
      case h1=>
       rw[AqR,υ];have h5:=HLS.out;have h6:=HLM.out;have h7:=HLP.out;have h8:(ms.take k).length<=64:=by rw[ApQ];omega
       have h9:(ByteArray.mk (Dg ⟨true,nu,va⟩).toArray).size=(Dg ⟨true,nu,va⟩).length:=by simp[ByteArray.size]
       omega
      first|rintro e w5 rfl hd5 hb5 _|rintro e w5 ⟨rfl,hd5,hb5,_⟩
      have HD5:=δ hd5;have HB5:=δ (HB4.out.trans hb5);clear hd5 hb5
      go_wp2_with fail
      go_roundw
      case rel=>exact⟨k+1,hlt,by go_num,.inr (by rw[HT.out,AqQ];exact HD5.out),HB5.out⟩
      case measure=>simp[intOf];omega
    |false=>
     by_cases hk0:k=0
     .subst hk0
      rw[AqV,Aqh]at c1 c2 c3;have hs:O7 0 ⟨false,nu,va⟩=[]:=rfl;rw[hs]at HT;have HK3:=δ (Blk.new wr 115 #[.bool false,.string nu,.string va]);have HB3:=δ (Cp (o:=.cells #[.bool false,.string nu,.string va] 115) HB.out);have HLP:=δ (show ([]:List UInt8).length<=3 by decide);have HD3:=δ (show AqZ 119 5 w.heap.size w1.heap.size (AqO (C5 0 (ms.take 0)++[])) (wr.alloc (.cells #[.bool false,.string nu,.string va] 115)) from by rw[List.append_nil];exact Ef HBLD.out (Bi _ _));have x0:=HK3.out.cell 0;have x1:=HK3.out.cell 1;have x2:=HK3.out.cell 2;have l3:=HK3.out.lt
      go_wp2_with (go_at_call 57;refine(HMK.out _).mono ?_)
      first|rintro e w4 rfl hb4|rintro e w4 ⟨rfl,hb4⟩
      replace hb4:Below (wr.alloc (.cells #[.bool false,.string nu,.string va] 115)).heap.size (wr.alloc (.cells #[.bool false,.string nu,.string va] 115)) w4:=by first|exact hb4 | (rw[World.size_alloc];exact hb4)
      have HB4:=δ (AY HB3.out hb4);have HD4:=δ (Ef HD3.out hb4);clear hb4 x0 x1 x2 l3
      go_wp2_with (go_at_call 56;refine(B5 w.heap.size _ _ _ _ HD4.out ?h1 HB4.out.size).mono ?_)
      case h1=>
       rw[AqR,υ];have h5:=HLS.out;have h6:=HLM.out;have h7:=HLP.out;have h8:(ms.take 0).length<=64:=by rw[ApQ];omega
       have h9:(ByteArray.mk (Dg ⟨false,nu,va⟩).toArray).size=(Dg ⟨false,nu,va⟩).length:=by simp[ByteArray.size]
       omega
      first|rintro e w5 rfl hd5 hb5 _|rintro e w5 ⟨rfl,hd5,hb5,_⟩
      have HD5:=δ hd5;have HB5:=δ (HB4.out.trans hb5);clear hd5 hb5
      go_wp2_with fail
      go_roundw
      case rel=>exact⟨0+1,hlt,by go_num,.inr (by rw[HT.out,AqQ];exact HD5.out),HB5.out⟩
      case measure=>simp[intOf];omega
     .have y0:¬ (k:Int)=0:=by omega
      have y1:(0:Int)<(k:Int):=by omega
      have hs:O7 k ⟨false,nu,va⟩=[32,43,32]:=by simp[O7,hk0]
      rw[hs]at HT;have q1:(AqO (C5 0 (ms.take k))).length+(ByteArray.mk #[32,43,32]).size<=140737488355328:=by
       rw[AqR];have h5:=HLS.out;have h8:(ms.take k).length<=64:=by rw[ApQ];omega
       show _+3<=_
       omega
      have Q1:=δ q1;clear q1
      go_wp2_with (go_at_call 56;refine(B5 w.heap.size _ (AqO (C5 0 (ms.take k))) _ _ (Ef HBLD.out (Bi _ _)) Q1.out (Cp HB.out).size).mono ?_)
      first|rintro e w3 rfl hd3 hb3 hk3|rintro e w3 ⟨rfl,hd3,hb3,hk3⟩
      have HK3:=δ (show Blk w3 wr.heap.size 115 #[.bool false,.string nu,.string va] from by first|exact hk3 _ _ _ _ (Blk.new wr _ _) (Arb (HBLD.out.elim Lib.BuilderAt.lt Lib.BuilderAt.lt)) (by decide) | exact hk3 _ _ _ _ _ (Blk.new wr _ _) (Arb (HBLD.out.elim Lib.BuilderAt.lt Lib.BuilderAt.lt)) (by decide));have HB3:=δ ((Cp HB.out).trans hb3);have HLP:=δ (show ([32,43,32]:List UInt8).length<=3 by decide);have HD3:=δ (show AqZ 119 5 w.heap.size w1.heap.size (AqO (C5 0 (ms.take k)++[32,43,32])) w3 from .inr (by rw[AqQ];exact hd3));clear hd3 hb3 hk3;have x0:=HK3.out.cell 0;have x1:=HK3.out.cell 1;have x2:=HK3.out.cell 2;have l3:=HK3.out.lt
      go_wp2_with (go_at_call 57;refine(HMK.out _).mono ?_)
      first|rintro e w4 rfl hb4|rintro e w4 ⟨rfl,hb4⟩
      replace hb4:Below (w3).heap.size (w3) w4:=by first|exact hb4 | (rw[World.size_alloc];exact hb4)
      have HB4:=δ (AY HB3.out hb4);have HD4:=δ (Ef HD3.out hb4);clear hb4 x0 x1 x2 l3
      go_wp2_with (go_at_call 56;refine(B5 w.heap.size _ _ _ _ HD4.out ?h1 HB4.out.size).mono ?_)
      case h1=>
       rw[AqR,υ];have h5:=HLS.out;have h6:=HLM.out;have h7:=HLP.out;have h8:(ms.take k).length<=64:=by rw[ApQ];omega
       have h9:(ByteArray.mk (Dg ⟨false,nu,va⟩).toArray).size=(Dg ⟨false,nu,va⟩).length:=by simp[ByteArray.size]
       omega
      first|rintro e w5 rfl hd5 hb5 _|rintro e w5 ⟨rfl,hd5,hb5,_⟩
      have HD5:=δ hd5;have HB5:=δ (HB4.out.trans hb5);clear hd5 hb5
      go_wp2_with fail
      go_roundw
      case rel=>exact⟨k+1,hlt,by go_num,.inr (by rw[HT.out,AqQ];exact HD5.out),HB5.out⟩
      case measure=>simp[intOf];omega
   .obtain rfl:k=ms.length:=by omega
    have z1:¬ (ms.length:Int)<(ms.length:Int):=by omega
    have HBL:=HBLD.out;rw[List.take_length]at HBL
    go_wp2_with (go_at_call 58;refine(Tryz.Builder_String_any w.heap.size _ _ _ HBL HB.out.size).mono ?_)
    rintro e w2 rfl hb2;have HB2:=δ (HB.out.trans hb2);clear hb2
    go_wp2
    go_ret
    exact⟨rfl,HB2.out⟩
def AjR:List AV->Option Mo
 |[.v (.bool n),.v (.string a),.v (.string b)]=>some ⟨n,a,b⟩
 |_=>none
def Wx:List (List AV)->Option (List Mo)
 |[]=>some []
 |x::r=>match AjR x,Wx r with
  |some m,some l=>some (m::l)
  |_,_=>none
theorem Yb{x:List AV}{m:Mo}(h:AjR x=some m):x=IQ m:=by
 unfold AjR at h;split at h
 .injection h with h
  subst h;rfl
 .cases h
theorem NY:∀{xs:List (List AV)} {ms:List Mo},Wx xs=some ms->xs=ms.map IQ
 |[],ms,h=>by injection h with h;subst h;rfl
 |x::r,ms,h=>by
  unfold Wx at h;split at h
  .rename_i m l h1 h2
   injection h with h
   subst h;rw[List.map_cons,←NY h2,←Yb h1]
  .cases h
def AbG(ms:List Mo):Bool:=Nat.blt ms.length 4611686018427387904&&ms.all λm=>Nat.ble m.num.size 9223372036854775807&&Nat.ble m.var.size 9223372036854775807
theorem Yj{ms:List Mo}:AbG ms=true ↔ ms.length<4611686018427387904/\∀ m∈ms,WzM m:=by
 unfold AbG WzM;simp only[ε,Apy,Nat.ble_eq,Nat.blt_eq]
def E8:List AV->Option AV
 |[.ls xs]=>(match Wx xs with
  |some ms=>if AbG ms then some (sv (Ax (LD ms))) else none
  |none=>none)
 |_=>none
theorem U6{μ:Mu}{F:AG}{w:World}{v:Value}{ms:List Mo}(h:Rep μ F w (.ls (ms.map IQ)) v):MosIn w v ms:=by
 unfold Rep at h;obtain⟨_,A,c,h1,h2,h3,h4⟩:=h;rw[List.length_map]at h1 h2;refine⟨A,c,h1,λh0=>?_⟩;obtain⟨g,o,e,hA,hr⟩:=h4 (by simpa using List.ne_nil_of_length_pos h0);have he:e=3:=by
  have:=hr.get (i:=0) (x:=IQ ms[0]) (by rw[Aql,Φ h0];rfl);have:=this.1;unfold IQ at this;simpa using this.symm
 subst he;have cell:∀ i (h:i<ms.length),w.cell? ⟨g,o+i*3,none⟩=some (.bool ms[i].neg)/\w.cell? ⟨g,o+i*3+1,none⟩=some (.string ms[i].num)/\w.cell? ⟨g,o+i*3+2,none⟩=some (.string ms[i].var):=λi hi=>by
  have ha:=(hr.get (i:=i) (x:=IQ ms[i]) (by rw[Aql,Φ hi];rfl)).2;unfold IQ at ha;obtain⟨_,u0,c0,r0⟩:=ha.get (i:=0) (x:=bv ms[i].neg) rfl;obtain⟨_,u1,c1,r1⟩:=ha.get (i:=1) (x:=sv ms[i].num) rfl;obtain⟨_,u2,c2,r2⟩:=ha.get (i:=2) (x:=sv ms[i].var) rfl;unfold bv Rep at r0;unfold sv Rep at r1 r2;rw[r0.1]at c0;rw[r1.1]at c1;rw[r2.1]at c2;exact⟨c0,c1,c2⟩
 exact⟨g,o,hA,Dl (cell 0 h0).1,cell⟩
theorem Al6:LexN DT where
 name s hs:=Aki (by unfold CG Cy;simp only[sv,hs,if_true];rfl)
 num s hs:=AcW (by unfold CG BN;simp only[sv,hs,if_true];rfl)
theorem R7(hN:Bo (BH φ 109) (CG Cy))(hU:Bo (BH φ 108) (CG BN)):Bo (BH φ 22) (CG E8):=by
 refine Iy (CI _ _) _ λargs r hr μ F w us hus=>?_
 unfold E8 at hr;split at hr
 .rename_i xs
  split at hr
  .rename_i ms hms
   split at hr
   .rename_i hok
    injection hr with hr
    subst hr;obtain rfl:=NY hms;obtain⟨hl,hz⟩:=Yj.1 hok;obtain⟨v,t,rfl,hv,ht⟩:=hus;have ht:t=[]:=ht;subst ht;have hp:Rep (λ_=>none) (λg _=>g<w.heap.size) w (.ls (ms.map IQ)) v:=Rep.plain _ _ rfl hv;refine Calls.mono (TE ms v w (U6 hv) (λw' hb=>?_) (λm hm hr w'=>?_)) ?_
    .have g:=K0 (Tv hN hU) (FF AlY Al6 ms hz hl) w' [v] (by simp only[RepList];exact⟨v,[],rfl,Yp hp hb,rfl⟩)
     refine Calls.mono g ?_;rintro e w'' ⟨u,rfl,hb2,μ',F',hu⟩;unfold bv Rep at hu;rw[hu.1];exact⟨rfl,hb2⟩
    .have g:=K0 (Tv hN hU) (SZ AlY m hr) w' [.agg #[.bool m.neg,.string m.num,.string m.var]] (by
      simp only[RepList];refine⟨_,[],rfl,?_,rfl⟩;unfold Rep;refine⟨_,rfl,?_⟩;simp only[IQ,RepList];exact⟨_,_,rfl,Vn _,_,_,rfl,Ro _,_,_,rfl,Ro _,rfl⟩)
     refine Calls.mono g ?_;rintro e w'' ⟨u,rfl,hb2,μ',F',hu⟩;unfold sv Rep at hu;rw[hu.1];exact⟨rfl,hb2⟩
    .rintro e w' ⟨rfl,hb⟩
     exact⟨_,rfl,hb,Ro _⟩
   .cases hr
  .cases hr
 .cases hr
def Amx:List (Nat × Nat):=[(152,0),(206,0),(242,0),(243,0),(260,0),(273,0),(156,0),(208,0),(263,0)]
def Ajv:MFn:=Bm [] 32
def AjG:MFn:=MF φ Bb [] false true 69
def AjH:MFn:=Bm [] 70
def AeE:MFn:=Bm [] 125
def AeO:MFn:=Bm [] 186
def AeR:MFn:=Bm [] 230
def AeV:MFn:=Bm [] 252
def AjM:MFn:=MF φ Bb [] false true 92
def AeX:MFn:=Bm [] 265
def AeF:MFn:=Bm [] 126
def AjN:MFn:=MF φ Bb [] false true 93
def AjQ:MFn:=MF φ Bb [] false true 96
def AeT:MFn:=MF φ Bb [] false true 248
def AeY:MFn:=Bm [] 266
def Aee:A3:=[⟨20,[false,false,false,true,false,false,false,true,true,true],[],[],[(1,([false,false,false,true],([],[])))]⟩]
def AeS:MFn:=Bm Aee 232
def Ae0:MFn:=Bm [] 276
def Aji:A3:=[⟨19,[true,true,false,false,false,false,false,true,true],[],[],[(0,([false,false,false,false,true],([],[]))),(1,([],([],[])))]⟩]
def AjK:MFn:=Bm Aji 88
def AeZ:MFn:=Bm [] 267
def AeU:MFn:=MF φ Bb [] false true 249
def Ajf:A3:=[⟨41,[true,false,false,false,true,true],[],[],[(0,([true,false,true,true],([],[])))]⟩]
def AjB:MFn:=MF φ Bb Ajf false true 49
def AjO:MFn:=MF φ Bb [] false true 94
def AeL:MFn:=MF φ Bb [] false true 162
def AjP:MFn:=MF φ Bb [] false true 95
def AeM:MFn:=MF φ Bb [] false true 163
def AeQ:MFn:=Bm [] 219
def AjL:MFn:=Bm [] 90
def Aef:A3:=[⟨19,[true,true,false,false,false,false,false,true,true],[],[],[(0,([false,false,false,false,true],([],[]))),(1,([],([],[])))]⟩]
def AeW:MFn:=Bm Aef 262
def Aed:A3:=[⟨44,[false,true,true,true,true,true,false,false,false,false,true,false,true,true],[],[],[(1,([false,false,false,false,false,false,false,false,false,false,true,false,true,true],([],[])))]⟩]
def AeN:MFn:=Bm Aed 185
def AjC:MFn:=Bm [] 53
def Ajx:MFn:=Bm [] 38
def Ajw:MFn:=Bm [] 36
def Ajg:A3:=[⟨57,[false,true,true,false,false,false,false,false,false,false,false,false,false,false,false,false,false,false,false,false,false,false,false,false,false,false,false,false,false,false,false,false,false,true,true,true],[],[],[(0,([false,false,false,false,true],([],[]))),(1,([],([],[])))]⟩]
def AjI:MFn:=Bm Ajg 74
def AeG:MFn:=Bm [] 132
def AeH:MFn:=Bm [] 133
def Ajz:MFn:=Bm [] 46
def Aju:MFn:=Bm [] 23
def AjD:MFn:=Bm [] 59
def Aec:A3:=[⟨19,[true,true,false,false,false,false,false,true,true],[],[],[(0,([false,false,false,false,true],([],[]))),(1,([],([],[])))]⟩]
def AeD:MFn:=Bm Aec 107
def AjE:MFn:=Bm [] 60
def AjF:MFn:=Bm [] 61
def Ajy:MFn:=Bm [] 45
def AeI:MFn:=Bm [] 134
def AeP:MFn:=Bm [] 194
def Ajh:A3:=[⟨56,[false,true,false,true,false,false,false,false,true,true,true],[],[],[(1,([false,true,false,true],([],[])))]⟩]
def AjJ:MFn:=Bm Ajh 80
def AeJ:MFn:=Bm [] 137
def AjA:MFn:=Bm [] 47
def AeK:MFn:=Bm [] 138
def Aiu:List (Nat × MFn):=[(32,Ajv),(69,AjG),(70,AjH),(125,AeE),(186,AeO),(230,AeR),(252,AeV),(92,AjM),(265,AeX),(126,AeF),(93,AjN),(96,AjQ),(248,AeT),(266,AeY),(232,AeS),(276,Ae0),(88,AjK),(267,AeZ),(249,AeU),(49,AjB),(94,AjO),(162,AeL),(95,AjP),(163,AeM),(219,AeQ),(90,AjL),(262,AeW),(185,AeN),(53,AjC),(38,Ajx),(36,Ajw),(74,AjI),(132,AeG),(133,AeH),(46,Ajz),(23,Aju),(59,AjD),(107,AeD),(60,AjE),(61,AjF),(45,Ajy),(134,AeI),(194,AeP),(80,AjJ),(137,AeJ),(47,AjA),(138,AeK)]
end
end Go.Proofs.YtlmhajfbpplpoaaGreat
