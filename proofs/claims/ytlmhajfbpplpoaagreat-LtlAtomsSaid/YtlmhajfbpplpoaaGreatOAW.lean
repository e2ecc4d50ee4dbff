/- expr.SumText: its walk, of what RightSum and monoT -/
import Derived.Test.YtlmhajfbpplpoaaGreatOAV
import Derived.Test.YtlmhajfbpplpoaaGreatOAT
set_option linter.all false
open Bool renaming and_eq_true->ApF
open List renaming all_eq_true->ApJ,getElem?_eq_getElem->Apy,getElem?_map->Aqw,getElem_mem->ApQ,length_append->ApH,length_take->Ap0
open Nat renaming add_zero->Aqs,ne_of_gt->Arh,zero_mul->Aq2
namespace Go.Proofs.YtlmhajfbpplpoaaGreat
noncomputable section
open Go.RowKit
def MosIn(w:World)(v:Value)(ms:List Mo):Prop:=∃ A c,v=.slice A ms.length c/\(0<ms.length->∃ b o,A=some ⟨b,o,none⟩/\b<w.heap.size/\∀ i (h:i<ms.length),w.cell? ⟨b,o+i*3,none⟩=some (.bool ms[i].neg)/\w.cell? ⟨b,o+i*3+1,none⟩=some (.string ms[i].num)/\w.cell? ⟨b,o+i*3+2,none⟩=some (.string ms[i].var))
theorem MosIn.call{w w':World}{v:Value}{ms:List Mo}(h:MosIn w v ms)(hb:Below w.heap.size w w'):MosIn w' v ms:=by
 obtain⟨A,c,rfl,hx⟩:=h;refine⟨A,c,rfl,λh0=>?_⟩;obtain⟨b,o,rfl,hl,hc⟩:=hx h0;refine⟨b,o,rfl,Nat.lt_of_lt_of_le hl hb.size,λi hi=>?_⟩;obtain⟨c1,c2,c3⟩:=hc i hi;exact⟨(hb.cell (p:=⟨b,o+i*3,none⟩) hl).trans c1,(hb.cell (p:=⟨b,o+i*3+1,none⟩) hl).trans c2,(hb.cell (p:=⟨b,o+i*3+2,none⟩) hl).trans c3⟩
theorem Er{w w':World}{T e:TypeId}{B b:Nat}{bs:List Value}(h:Lib.IsBuilder T e B b bs w)(hb:Below w.heap.size w w'):Lib.IsBuilder T e B b bs w':=by
 rcases h with h|h
 .obtain⟨hB,v,h1,h2,h3⟩:=h
  have hl:=Lib.BuilderAt.lt ⟨hB,v,h1,h2,h3⟩;exact .inl ⟨hB,v,(hb.block b hl).trans h1,Oh h2 hb,h3⟩
 .obtain⟨hB,v,h1,h2,h3⟩:=h
  have hl:=Lib.BuilderAt.lt ⟨hB,v,h1,h2,h3⟩;exact .inr ⟨hB,v,(hb.block b hl).trans h1,Oh h2 hb,h3⟩
set_option maxRecDepth 100000 in
set_option maxHeartbeats 4000000 in
theorem TH(ms:List Mo)(v:Value)(w:World)(hv:MosIn w v ms)
  (hR:∀ w',Below w.heap.size w w'->Calls Tryz.prog 23 #[v] w' λe w''=>e=.returned (.bool (Pc ms))/\Below w'.heap.size w' w'')
  (hM:∀ m∈ms,Bq m=true->∀ w',Calls Tryz.prog 57 #[.agg #[.bool m.neg,.string m.num,.string m.var]] w' λe w''=>e=.returned (.string ⟨(Dt m).toArray⟩)/\Below w'.heap.size w' w'') :
  Calls Tryz.prog 22 #[v] w λe w'=>e=.returned (.string ⟨(JI ms).toArray⟩)/\Below w.heap.size w w':=by
 obtain⟨A,c,rfl,hx⟩:=hv;have HX:=Lib.hid hx;have HR:=Lib.hid hR;have HM:=Lib.hid hM;clear hx hR hM
 go_enter Tryz.func22,Tryz.ntmps22
 unfold JI
 cases hrs:Pc ms with
 |false=>
  rw[hrs]at HR
  go_wp2_with (go_at_call 23;refine(HR.out _ (Below.refl _ _)).mono ?_)
  rintro e w1 ⟨rfl,hb1⟩
  go_wp2
  go_ret
  exact⟨rfl,hb1⟩
 |true=>
  rw[hrs]at HR;have hrs2:=hrs;unfold Pc at hrs2;simp only[ApF,decide_eq_true_eq]at hrs2;obtain⟨⟨h0,h64⟩,hall⟩:=hrs2;have HALL:=Lib.hid hall;clear hall hrs
  go_wp2_with (go_at_call 23;refine(HR.out _ (Below.refl _ _)).mono ?_)
  rintro e w1 ⟨rfl,hb1⟩;have HB1:=Lib.hid hb1;clear hb1
  go_wp2_with fail
  go_loopw [11] (λq wr=>∃ k:Nat,k<=ms.length/\q=.int .i64 k/\Lib.IsBuilder 119 5 w.heap.size w1.heap.size (Lib.byteCells (Dg 0 (ms.take k))) wr/\Below w.heap.size w wr) (λq _=>ms.length-(intOf q).toNat)
  case atStart=>
   refine⟨0,Nat.zero_le _,rfl,?_,?_⟩
   .exact .inl ⟨HB1.out.size,.slice none 0 0,heap_alloc_new _ _,World.ownsRow_nil _ _ _ _,by simp[Value.ownBlock]⟩
   .exact HB1.out.alloc HB1.out.size _
  case round=>
   obtain⟨k,hk,rfl,hbld,hb⟩:=hrel;have HBLD:=Lib.hid hbld;have HB:=Lib.hid hb;clear hbld hb
   by_cases hlt:k<ms.length
   .obtain⟨b,o,rfl,hbl,hc⟩:=HX.out h0
    obtain⟨d1,d2,d3⟩:=hc k hlt;have c1:=(HB.out.cell (p:=⟨b,o+k*3,none⟩) hbl).trans d1;have c2:=(HB.out.cell (p:=⟨b,o+k*3+1,none⟩) hbl).trans d2;have c3:=(HB.out.cell (p:=⟨b,o+k*3+2,none⟩) hbl).trans d3;have l0:b<wr.heap.size:=BE c1;have z0:(0:Int)<=(k:Int):=by omega
    have z1:(k:Int)<(ms.length:Int):=by omega
    clear hc d1 d2 d3;have HT:=Lib.hid (VC ms k hlt);have hr:Bq ms[k]=true:=ApJ.1 HALL.out _ (ApQ hlt);have HMK:=Lib.hid (HM.out ms[k] (ApQ hlt) hr);have HLM:=Lib.hid (N3 hr);have HLS:=Lib.hid (LI (ms.take k) 0 (ApJ.2 λx hx=>ApJ.1 HALL.out x (List.mem_of_mem_take hx)));generalize ms[k]=m at *;obtain⟨ng,nu,va⟩:=m;clear hr;simp only at c1 c2 c3
    cases ng with
    |true=>
     by_cases hk0:k=0
     .subst hk0
      rw[Aq2,Aqs]at c1 c2 c3;have q1:(Lib.byteCells (Dg 0 (ms.take 0))).length+(ByteArray.mk #[45]).size<=140737488355328:=by
       rw[Lib.byteCells_length];have h5:=HLS.out;have h8:(ms.take 0).length<=64:=by rw[Ap0];omega
       show _+1<=_
       omega
      have Q1:=Lib.hid q1;clear q1
      go_wp2_with (go_at_call 56;refine(Ci w.heap.size _ (Lib.byteCells (Dg 0 (ms.take 0))) _ _ (Er HBLD.out (Bl _ _)) Q1.out (CC HB.out).size).mono ?_)
      first|rintro e w3 rfl hd3 hb3 hk3|rintro e w3 ⟨rfl,hd3,hb3,hk3⟩
      have HK3:=Lib.hid (show Blk w3 wr.heap.size 115 #[.bool true,.string nu,.string va] from by first|exact hk3 _ _ _ _ (Blk.new wr _ _) (Arh (HBLD.out.elim Lib.BuilderAt.lt Lib.BuilderAt.lt)) (by decide) | exact hk3 _ _ _ _ _ (Blk.new wr _ _) (Arh (HBLD.out.elim Lib.BuilderAt.lt Lib.BuilderAt.lt)) (by decide));have HB3:=Lib.hid ((CC HB.out).trans hb3);have HLP:=Lib.hid (show ([45]:List UInt8).length<=3 by decide);have HD3:=Lib.hid (show Lib.IsBuilder 119 5 w.heap.size w1.heap.size (Lib.byteCells (Dg 0 (ms.take 0)++[45])) w3 from .inr (by rw[Lib.byteCells_append];exact hd3));clear hd3 hb3 hk3;have x0:=HK3.out.cell 0;have x1:=HK3.out.cell 1;have x2:=HK3.out.cell 2;have l3:=HK3.out.lt
      go_wp2_with (go_at_call 57;refine(HMK.out _).mono ?_)
      first|rintro e w4 rfl hb4|rintro e w4 ⟨rfl,hb4⟩
      replace hb4:Below (w3).heap.size (w3) w4:=by first|exact hb4 | (rw[World.size_alloc];exact hb4)
      have HB4:=Lib.hid (A9 HB3.out hb4);have HD4:=Lib.hid (Er HD3.out hb4);clear hb4 x0 x1 x2 l3
      go_wp2_with (go_at_call 56;refine(Ci w.heap.size _ _ _ _ HD4.out ?h1 HB4.out.size).mono ?_)
      case h1=>
       rw[Lib.byteCells_length,ApH];have h5:=HLS.out;have h6:=HLM.out;have h7:=HLP.out;have h8:(ms.take 0).length<=64:=by rw[Ap0];omega
       have h9:(ByteArray.mk (Dt ⟨true,nu,va⟩).toArray).size=(Dt ⟨true,nu,va⟩).length:=by simp[ByteArray.size]
       omega
      first|rintro e w5 rfl hd5 hb5 _|rintro e w5 ⟨rfl,hd5,hb5,_⟩
      have HD5:=Lib.hid hd5;have HB5:=Lib.hid (HB4.out.trans hb5);clear hd5 hb5
      go_wp2_with fail
      go_roundw
      case rel=>exact⟨0+1,hlt,by go_num,.inr (by rw[HT.out,Lib.byteCells_append];exact HD5.out),HB5.out⟩
      case measure=>simp[intOf];omega
     .have y0:¬ (k:Int)=0:=by omega
      have hs:Pd k ⟨true,nu,va⟩=[32,45,32]:=by simp[Pd,hk0]
      rw[hs]at HT;have q1:(Lib.byteCells (Dg 0 (ms.take k))).length+(ByteArray.mk #[32,45,32]).size<=140737488355328:=by
       rw[Lib.byteCells_length];have h5:=HLS.out;have h8:(ms.take k).length<=64:=by rw[Ap0];omega
       show _+3<=_
       omega
      have Q1:=Lib.hid q1;clear q1
      go_wp2_with (go_at_call 56;refine(Ci w.heap.size _ (Lib.byteCells (Dg 0 (ms.take k))) _ _ (Er HBLD.out (Bl _ _)) Q1.out (CC HB.out).size).mono ?_)
      first|rintro e w3 rfl hd3 hb3 hk3|rintro e w3 ⟨rfl,hd3,hb3,hk3⟩
      have HK3:=Lib.hid (show Blk w3 wr.heap.size 115 #[.bool true,.string nu,.string va] from by first|exact hk3 _ _ _ _ (Blk.new wr _ _) (Arh (HBLD.out.elim Lib.BuilderAt.lt Lib.BuilderAt.lt)) (by decide) | exact hk3 _ _ _ _ _ (Blk.new wr _ _) (Arh (HBLD.out.elim Lib.BuilderAt.lt Lib.BuilderAt.lt)) (by decide));have HB3:=Lib.hid ((CC HB.out).trans hb3);have HLP:=Lib.hid (show ([32,45,32]:List UInt8).length<=3 by decide);have HD3:=Lib.hid (show Lib.IsBuilder 119 5 w.heap.size w1.heap.size (Lib.byteCells (Dg 0 (ms.take k)++[32,45,32])) w3 from .inr (by rw[Lib.byteCells_append];exact hd3));clear hd3 hb3 hk3;have x0:=HK3.out.cell 0;have x1:=HK3.out.cell 1;have x2:=HK3.out.cell 2;have l3:=HK3.out.lt
      go_wp2_with (go_at_call 57;refine(HMK.out _).mono ?_)
      first|rintro e w4 rfl hb4|rintro e w4 ⟨rfl,hb4⟩
      replace hb4:Below (w3).heap.size (w3) w4:=by first|exact hb4 | (rw[World.size_alloc];exact hb4)
      have HB4:=Lib.hid (A9 HB3.out hb4);have HD4:=Lib.hid (Er HD3.out hb4);clear hb4 x0 x1 x2 l3
      go_wp2_with (go_at_call 56;refine(Ci w.heap.size _ _ _ _ HD4.out ?h1 HB4.out.size).mono ?_)
      case h1=>
       rw[Lib.byteCells_length,ApH];have h5:=HLS.out;have h6:=HLM.out;have h7:=HLP.out;have h8:(ms.take k).length<=64:=by rw[Ap0];omega
       have h9:(ByteArray.mk (Dt ⟨true,nu,va⟩).toArray).size=(Dt ⟨true,nu,va⟩).length:=by simp[ByteArray.size]
       omega
      first|rintro e w5 rfl hd5 hb5 _|rintro e w5 ⟨rfl,hd5,hb5,_⟩
      have HD5:=Lib.hid hd5;have HB5:=Lib.hid (HB4.out.trans hb5);clear hd5 hb5
      go_wp2_with fail
      go_roundw
      case rel=>exact⟨k+1,hlt,by go_num,.inr (by rw[HT.out,Lib.byteCells_append];exact HD5.out),HB5.out⟩
      case measure=>simp[intOf];omega
    |false=>
     by_cases hk0:k=0
     .subst hk0
      rw[Aq2,Aqs]at c1 c2 c3;have hs:Pd 0 ⟨false,nu,va⟩=[]:=rfl;rw[hs]at HT;have HK3:=Lib.hid (Blk.new wr 115 #[.bool false,.string nu,.string va]);have HB3:=Lib.hid (CC (o:=.cells #[.bool false,.string nu,.string va] 115) HB.out);have HLP:=Lib.hid (show ([]:List UInt8).length<=3 by decide);have HD3:=Lib.hid (show Lib.IsBuilder 119 5 w.heap.size w1.heap.size (Lib.byteCells (Dg 0 (ms.take 0)++[])) (wr.alloc (.cells #[.bool false,.string nu,.string va] 115)) from by rw[List.append_nil];exact Er HBLD.out (Bl _ _));have x0:=HK3.out.cell 0;have x1:=HK3.out.cell 1;have x2:=HK3.out.cell 2;have l3:=HK3.out.lt
      go_wp2_with (go_at_call 57;refine(HMK.out _).mono ?_)
      first|rintro e w4 rfl hb4|rintro e w4 ⟨rfl,hb4⟩
      replace hb4:Below (wr.alloc (.cells #[.bool false,.string nu,.string va] 115)).heap.size (wr.alloc (.cells #[.bool false,.string nu,.string va] 115)) w4:=by first|exact hb4 | (rw[World.size_alloc];exact hb4)
      have HB4:=Lib.hid (A9 HB3.out hb4);have HD4:=Lib.hid (Er HD3.out hb4);clear hb4 x0 x1 x2 l3
      go_wp2_with (go_at_call 56;refine(Ci w.heap.size _ _ _ _ HD4.out ?h1 HB4.out.size).mono ?_)
      case h1=>
       rw[Lib.byteCells_length,ApH];have h5:=HLS.out;have h6:=HLM.out;have h7:=HLP.out;have h8:(ms.take 0).length<=64:=by rw[Ap0];omega
       have h9:(ByteArray.mk (Dt ⟨false,nu,va⟩).toArray).size=(Dt ⟨false,nu,va⟩).length:=by simp[ByteArray.size]
       omega
      first|rintro e w5 rfl hd5 hb5 _|rintro e w5 ⟨rfl,hd5,hb5,_⟩
      have HD5:=Lib.hid hd5;have HB5:=Lib.hid (HB4.out.trans hb5);clear hd5 hb5
      go_wp2_with fail
      go_roundw
      case rel=>exact⟨0+1,hlt,by go_num,.inr (by rw[HT.out,Lib.byteCells_append];exact HD5.out),HB5.out⟩
      case measure=>simp[intOf];omega
     .have y0:¬ (k:Int)=0:=by omega
      have y1:(0:Int)<(k:Int):=by omega
      have hs:Pd k ⟨false,nu,va⟩=[32,43,32]:=by simp[Pd,hk0]
      rw[hs]at HT;have q1:(Lib.byteCells (Dg 0 (ms.take k))).length+(ByteArray.mk #[32,43,32]).size<=140737488355328:=by
       rw[Lib.byteCells_length];have h5:=HLS.out;have h8:(ms.take k).length<=64:=by rw[Ap0];omega
       show _+3<=_
       omega
      have Q1:=Lib.hid q1;clear q1
      go_wp2_with (go_at_call 56;refine(Ci w.heap.size _ (Lib.byteCells (Dg 0 (ms.take k))) _ _ (Er HBLD.out (Bl _ _)) Q1.out (CC HB.out).size).mono ?_)
      first|rintro e w3 rfl hd3 hb3 hk3|rintro e w3 ⟨rfl,hd3,hb3,hk3⟩
      have HK3:=Lib.hid (show Blk w3 wr.heap.size 115 #[.bool false,.string nu,.string va] from by first|exact hk3 _ _ _ _ (Blk.new wr _ _) (Arh (HBLD.out.elim Lib.BuilderAt.lt Lib.BuilderAt.lt)) (by decide) | exact hk3 _ _ _ _ _ (Blk.new wr _ _) (Arh (HBLD.out.elim Lib.BuilderAt.lt Lib.BuilderAt.lt)) (by decide));have HB3:=Lib.hid ((CC HB.out).trans hb3);have HLP:=Lib.hid (show ([32,43,32]:List UInt8).length<=3 by decide);have HD3:=Lib.hid (show Lib.IsBuilder 119 5 w.heap.size w1.heap.size (Lib.byteCells (Dg 0 (ms.take k)++[32,43,32])) w3 from .inr (by rw[Lib.byteCells_append];exact hd3));clear hd3 hb3 hk3;have x0:=HK3.out.cell 0;have x1:=HK3.out.cell 1;have x2:=HK3.out.cell 2;have l3:=HK3.out.lt
      go_wp2_with (go_at_call 57;refine(HMK.out _).mono ?_)
      first|rintro e w4 rfl hb4|rintro e w4 ⟨rfl,hb4⟩
      replace hb4:Below (w3).heap.size (w3) w4:=by first|exact hb4 | (rw[World.size_alloc];exact hb4)
      have HB4:=Lib.hid (A9 HB3.out hb4);have HD4:=Lib.hid (Er HD3.out hb4);clear hb4 x0 x1 x2 l3
      go_wp2_with (go_at_call 56;refine(Ci w.heap.size _ _ _ _ HD4.out ?h1 HB4.out.size).mono ?_)
      case h1=>
       rw[Lib.byteCells_length,ApH];have h5:=HLS.out;have h6:=HLM.out;have h7:=HLP.out;have h8:(ms.take k).length<=64:=by rw[Ap0];omega
       have h9:(ByteArray.mk (Dt ⟨false,nu,va⟩).toArray).size=(Dt ⟨false,nu,va⟩).length:=by simp[ByteArray.size]
       omega
      first|rintro e w5 rfl hd5 hb5 _|rintro e w5 ⟨rfl,hd5,hb5,_⟩
      have HD5:=Lib.hid hd5;have HB5:=Lib.hid (HB4.out.trans hb5);clear hd5 hb5
      go_wp2_with fail
      go_roundw
      case rel=>exact⟨k+1,hlt,by go_num,.inr (by rw[HT.out,Lib.byteCells_append];exact HD5.out),HB5.out⟩
      case measure=>simp[intOf];omega
   .obtain rfl:k=ms.length:=by omega
    have z1:¬ (ms.length:Int)<(ms.length:Int):=by omega
    have HBL:=HBLD.out;rw[List.take_length]at HBL
    go_wp2_with (go_at_call 58;refine(Tryz.Builder_String_any w.heap.size _ _ _ HBL HB.out.size).mono ?_)
    rintro e w2 rfl hb2;have HB2:=Lib.hid (HB.out.trans hb2);clear hb2
    go_wp2
    go_ret
    exact⟨rfl,HB2.out⟩
def AjR:List AV->Option Mo
 |[.v (.bool n),.v (.string a),.v (.string b)]=>some ⟨n,a,b⟩
 |_=>none
def Wy:List (List AV)->Option (List Mo)
 |[]=>some []
 |x::r=>match AjR x,Wy r with
  |some m,some l=>some (m::l)
  |_,_=>none
theorem Yc{x:List AV}{m:Mo}(h:AjR x=some m):x=Ix m:=by
 unfold AjR at h;split at h
 .injection h with h
  subst h;rfl
 .cases h
theorem N4:∀{xs:List (List AV)} {ms:List Mo},Wy xs=some ms->xs=ms.map Ix
 |[],ms,h=>by injection h with h;subst h;rfl
 |x::r,ms,h=>by
  unfold Wy at h;split at h
  .rename_i m l h1 h2
   injection h with h
   subst h;rw[List.map_cons,←N4 h2,←Yc h1]
  .cases h
def AbG(ms:List Mo):Bool:=Nat.blt ms.length 4611686018427387904&&ms.all λm=>Nat.ble m.num.size 9223372036854775807&&Nat.ble m.var.size 9223372036854775807
theorem Yk{ms:List Mo}:AbG ms=true ↔ ms.length<4611686018427387904/\∀ m∈ms,WzM m:=by
 unfold AbG WzM;simp only[ApF,ApJ,Nat.ble_eq,Nat.blt_eq]
def Fh:List AV->Option AV
 |[.ls xs]=>(match Wy xs with
  |some ms=>if AbG ms then some (sv (AI (JI ms))) else none
  |none=>none)
 |_=>none
theorem Va{μ:Mu}{F:AP}{w:World}{v:Value}{ms:List Mo}(h:Rep μ F w (.ls (ms.map Ix)) v):MosIn w v ms:=by
 unfold Rep at h;obtain⟨_,A,c,h1,h2,h3,h4⟩:=h;rw[List.length_map]at h1 h2;refine⟨A,c,h1,λh0=>?_⟩;obtain⟨g,o,e,hA,hr⟩:=h4 (by simpa using List.ne_nil_of_length_pos h0);have he:e=3:=by
  have:=hr.get (i:=0) (x:=Ix ms[0]) (by rw[Aqw,Apy h0];rfl);have:=this.1;unfold Ix at this;simpa using this.symm
 subst he;have cell:∀ i (h:i<ms.length),w.cell? ⟨g,o+i*3,none⟩=some (.bool ms[i].neg)/\w.cell? ⟨g,o+i*3+1,none⟩=some (.string ms[i].num)/\w.cell? ⟨g,o+i*3+2,none⟩=some (.string ms[i].var):=λi hi=>by
  have ha:=(hr.get (i:=i) (x:=Ix ms[i]) (by rw[Aqw,Apy hi];rfl)).2;unfold Ix at ha;obtain⟨_,u0,c0,r0⟩:=ha.get (i:=0) (x:=bv ms[i].neg) rfl;obtain⟨_,u1,c1,r1⟩:=ha.get (i:=1) (x:=sv ms[i].num) rfl;obtain⟨_,u2,c2,r2⟩:=ha.get (i:=2) (x:=sv ms[i].var) rfl;unfold bv Rep at r0;unfold sv Rep at r1 r2;rw[r0.1]at c0;rw[r1.1]at c1;rw[r2.1]at c2;exact⟨c0,c1,c2⟩
 exact⟨g,o,hA,Dy (cell 0 h0).1,cell⟩
theorem Al5:LexN DT where
 name s hs:=Akj (by unfold CS CJ;simp only[sv,hs,if_true];rfl)
 num s hs:=AcW (by unfold CS B0;simp only[sv,hs,if_true];rfl)
theorem R9(hN:Bz (BS Tryz.prog 109) (CS CJ))(hU:Bz (BS Tryz.prog 108) (CS B0)):Bz (BS Tryz.prog 22) (CS Fh):=by
 refine IA (CU _ _) _ λargs r hr μ F w us hus=>?_
 unfold Fh at hr;split at hr
 .rename_i xs
  split at hr
  .rename_i ms hms
   split at hr
   .rename_i hok
    injection hr with hr
    subst hr;obtain rfl:=N4 hms;obtain⟨hl,hz⟩:=Yk.1 hok;obtain⟨v,t,rfl,hv,ht⟩:=hus;have ht:t=[]:=ht;subst ht;have hp:Rep (λ_=>none) (λg _=>g<w.heap.size) w (.ls (ms.map Ix)) v:=Rep.plain _ _ rfl hv;refine Calls.mono (TH ms v w (Va hv) (λw' hb=>?_) (λm hm hr w'=>?_)) ?_
    .have g:=K7 (Ty hN hU) (FM AlX Al5 ms hz hl) w' [v] (by simp only[RepList];exact⟨v,[],rfl,Yq hp hb,rfl⟩)
     refine Calls.mono g ?_;rintro e w'' ⟨u,rfl,hb2,μ',F',hu⟩;unfold bv Rep at hu;rw[hu.1];exact⟨rfl,hb2⟩
    .have g:=K7 (Ty hN hU) (S2 AlX m hr) w' [.agg #[.bool m.neg,.string m.num,.string m.var]] (by
      simp only[RepList];refine⟨_,[],rfl,?_,rfl⟩;unfold Rep;refine⟨_,rfl,?_⟩;simp only[Ix,RepList];exact⟨_,_,rfl,Vr _,_,_,rfl,Rr _,_,_,rfl,Rr _,rfl⟩)
     refine Calls.mono g ?_;rintro e w'' ⟨u,rfl,hb2,μ',F',hu⟩;unfold sv Rep at hu;rw[hu.1];exact⟨rfl,hb2⟩
    .rintro e w' ⟨rfl,hb⟩
     exact⟨_,rfl,hb,Rr _⟩
   .cases hr
  .cases hr
 .cases hr
def Amv:List (Nat × Nat):=[(152,0),(206,0),(242,0),(243,0),(260,0),(273,0),(156,0),(208,0),(263,0)]
def Ajv:MFn:=Bx [] 32
def AjG:MFn:=MK Tryz.prog Bk [] false true 69
def AjH:MFn:=Bx [] 70
def AeB:MFn:=Bx [] 125
def AeL:MFn:=Bx [] 186
def AeO:MFn:=Bx [] 230
def AeS:MFn:=Bx [] 252
def AjM:MFn:=MK Tryz.prog Bk [] false true 92
def AeU:MFn:=Bx [] 265
def AeC:MFn:=Bx [] 126
def AjN:MFn:=MK Tryz.prog Bk [] false true 93
def AjQ:MFn:=MK Tryz.prog Bk [] false true 96
def AeQ:MFn:=MK Tryz.prog Bk [] false true 248
def AeV:MFn:=Bx [] 266
def Aec:Be:=[⟨20,[false,false,false,true,false,false,false,true,true,true],[],[],[(1,([false,false,false,true],([],[])))]⟩]
def AeP:MFn:=Bx Aec 232
def AeX:MFn:=Bx [] 276
def Ajj:Be:=[⟨19,[true,true,false,false,false,false,false,true,true],[],[],[(0,([false,false,false,false,true],([],[]))),(1,([],([],[])))]⟩]
def AjK:MFn:=Bx Ajj 88
def AeW:MFn:=Bx [] 267
def AeR:MFn:=MK Tryz.prog Bk [] false true 249
def Ajg:Be:=[⟨41,[true,false,false,false,true,true],[],[],[(0,([true,false,true,true],([],[])))]⟩]
def AjB:MFn:=MK Tryz.prog Bk Ajg false true 49
def AjO:MFn:=MK Tryz.prog Bk [] false true 94
def AeI:MFn:=MK Tryz.prog Bk [] false true 162
def AjP:MFn:=MK Tryz.prog Bk [] false true 95
def AeJ:MFn:=MK Tryz.prog Bk [] false true 163
def AeN:MFn:=Bx [] 219
def AjL:MFn:=Bx [] 90
def Aed:Be:=[⟨19,[true,true,false,false,false,false,false,true,true],[],[],[(0,([false,false,false,false,true],([],[]))),(1,([],([],[])))]⟩]
def AeT:MFn:=Bx Aed 262
def Aeb:Be:=[⟨44,[false,true,true,true,true,true,false,false,false,false,true,false,true,true],[],[],[(1,([false,false,false,false,false,false,false,false,false,false,true,false,true,true],([],[])))]⟩]
def AeK:MFn:=Bx Aeb 185
def AjC:MFn:=Bx [] 53
def Ajx:MFn:=Bx [] 38
def Ajw:MFn:=Bx [] 36
def Ajh:Be:=[⟨57,[false,true,true,false,false,false,false,false,false,false,false,false,false,false,false,false,false,false,false,false,false,false,false,false,false,false,false,false,false,false,false,false,false,true,true,true],[],[],[(0,([false,false,false,false,true],([],[]))),(1,([],([],[])))]⟩]
def AjI:MFn:=Bx Ajh 74
def AeD:MFn:=Bx [] 132
def AeE:MFn:=Bx [] 133
def Ajz:MFn:=Bx [] 46
def Aju:MFn:=Bx [] 23
def AjD:MFn:=Bx [] 59
def Aea:Be:=[⟨19,[true,true,false,false,false,false,false,true,true],[],[],[(0,([false,false,false,false,true],([],[]))),(1,([],([],[])))]⟩]
def AeA:MFn:=Bx Aea 107
def AjE:MFn:=Bx [] 60
def AjF:MFn:=Bx [] 61
def Ajy:MFn:=Bx [] 45
def AeF:MFn:=Bx [] 134
def AeM:MFn:=Bx [] 194
def Aji:Be:=[⟨56,[false,true,false,true,false,false,false,false,true,true,true],[],[],[(1,([false,true,false,true],([],[])))]⟩]
def AjJ:MFn:=Bx Aji 80
def AeG:MFn:=Bx [] 137
def AjA:MFn:=Bx [] 47
def AeH:MFn:=Bx [] 138
def Air:List (Nat × MFn):=[(32,Ajv),(69,AjG),(70,AjH),(125,AeB),(186,AeL),(230,AeO),(252,AeS),(92,AjM),(265,AeU),(126,AeC),(93,AjN),(96,AjQ),(248,AeQ),(266,AeV),(232,AeP),(276,AeX),(88,AjK),(267,AeW),(249,AeR),(49,AjB),(94,AjO),(162,AeI),(95,AjP),(163,AeJ),(219,AeN),(90,AjL),(262,AeT),(185,AeK),(53,AjC),(38,Ajx),(36,Ajw),(74,AjI),(132,AeD),(133,AeE),(46,Ajz),(23,Aju),(59,AjD),(107,AeA),(60,AjE),(61,AjF),(45,Ajy),(134,AeF),(194,AeM),(80,AjJ),(137,AeG),(47,AjA),(138,AeH)]
end
end Go.Proofs.YtlmhajfbpplpoaaGreat
