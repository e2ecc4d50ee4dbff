/- expr.SumText: its walk, -/
import Derived.Test.YtlmhajfbpplpoaaGreatPAU
import Derived.Test.YtlmhajfbpplpoaaGreatPAX
import Derived.Test.YtlmhajfbpplpoaaGreatPAT
set_option linter.all false
open Bool renaming and_eq_true->χ
open List renaming all_eq_true->Arg,getElem?_eq_getElem->Ψ,getElem?_map->Ar8,getElem_mem->Ars,length_append->η,length_take->ArG,map_cons->Arz
open Nat renaming add_zero->Ar5,ne_of_gt->AsU,zero_mul->AsG
namespace Go.Proofs.YtlmhajfbpplpoaaGreat
open Lib renaming IsBuilder->AsM,byteCells->Asy,byteCells_append->Asz,byteCells_length->AsA,hid->Ω
open Tryz renaming prog->ψ
open Go.RowKit
def MosIn(w:World)(v:Value)(ms:List Mo):Prop:=∃ A c,v=.slice A ms.length c/\(0<ms.length->∃ b o,A=some ⟨b,o,none⟩/\b<w.heap.size/\∀ i (h:i<ms.length),w.cell? ⟨b,o+i*3,none⟩=some (.bool ms[i].neg)/\w.cell? ⟨b,o+i*3+1,none⟩=some (.string ms[i].num)/\w.cell? ⟨b,o+i*3+2,none⟩=some (.string ms[i].var))
theorem MosIn.call{w w':World}{v:Value}{ms:List Mo}(h:MosIn w v ms)(hb:Below w.heap.size w w'):MosIn w' v ms:=by
 obtain⟨A,c,rfl,hx⟩:=h;refine⟨A,c,rfl,λh0=>?_⟩;obtain⟨b,o,rfl,hl,hc⟩:=hx h0;refine⟨b,o,rfl,Nat.lt_of_lt_of_le hl hb.size,λi hi=>?_⟩;obtain⟨c1,c2,c3⟩:=hc i hi;exact⟨(hb.cell (p:=⟨b,o+i*3,none⟩) hl).trans c1,(hb.cell (p:=⟨b,o+i*3+1,none⟩) hl).trans c2,(hb.cell (p:=⟨b,o+i*3+2,none⟩) hl).trans c3⟩
theorem EW{w w':World}{T e:TypeId}{B b:Nat}{bs:List Value}(h:AsM T e B b bs w)(hb:Below w.heap.size w w'):AsM T e B b bs w':=by
 rcases h with h|h
 .obtain⟨hB,v,h1,h2,h3⟩:=h
  have hl:=Lib.BuilderAt.lt ⟨hB,v,h1,h2,h3⟩;exact .inl ⟨hB,v,(hb.block b hl).trans h1,Pf h2 hb,h3⟩
 .obtain⟨hB,v,h1,h2,h3⟩:=h
  have hl:=Lib.BuilderAt.lt ⟨hB,v,h1,h2,h3⟩;exact .inr ⟨hB,v,(hb.block b hl).trans h1,Pf h2 hb,h3⟩
set_option maxRecDepth 100000 in
set_option maxHeartbeats 4000000 in
theorem UU(ms:List Mo)(v:Value)(w:World)(hv:MosIn w v ms)
  (hR:∀ w',Below w.heap.size w w'->Calls ψ 23 #[v] w' λe w''=>e=.returned (.bool (JE ms))/\Below w'.heap.size w' w'')
  (hM:∀ m∈ms,AO m=true->∀ w',Calls ψ 57 #[.agg #[.bool m.neg,.string m.num,.string m.var]] w' λe w''=>e=.returned (.string ⟨(Cn m).toArray⟩)/\Below w'.heap.size w' w'') :
  Calls ψ 22 #[v] w λe w'=>e=.returned (.string ⟨(CJ ms).toArray⟩)/\Below w.heap.size w w':=by
 obtain⟨A,c,rfl,hx⟩:=hv;have HX:=Ω hx;have HR:=Ω hR;have HM:=Ω hM;clear hx hR hM
 go_enter Tryz.func22,Tryz.ntmps22
 unfold CJ
 cases hrs:JE ms with
 |false=>
  rw[hrs]at HR
  go_wp2_with (go_at_call 23;refine(HR.out _ (Below.refl _ _)).mono ?_)
  rintro e w1 ⟨rfl,hb1⟩
  go_wp2
  go_ret
  exact⟨rfl,hb1⟩
 |true=>
  rw[hrs]at HR;have hrs2:=hrs;unfold JE at hrs2;simp only[χ,decide_eq_true_eq]at hrs2;obtain⟨⟨h0,h64⟩,hall⟩:=hrs2;have HALL:=Ω hall;clear hall hrs
  go_wp2_with (go_at_call 23;refine(HR.out _ (Below.refl _ _)).mono ?_)
  rintro e w1 ⟨rfl,hb1⟩;have HB1:=Ω hb1;clear hb1
  go_wp2_with fail
  go_loopw [11] (λq wr=>∃ k:Nat,k<=ms.length/\q=.int .i64 k/\AsM 119 5 w.heap.size w1.heap.size (Asy (Ci 0 (ms.take k))) wr/\Below w.heap.size w wr) (λq _=>ms.length-(intOf q).toNat)
  case atStart=>
   refine⟨0,Nat.zero_le _,rfl,?_,?_⟩
   .exact .inl ⟨HB1.out.size,.slice none 0 0,heap_alloc_new _ _,World.ownsRow_nil _ _ _ _,by simp[Value.ownBlock]⟩
   .exact HB1.out.alloc HB1.out.size _
  case round=>
   obtain⟨k,hk,rfl,hbld,hb⟩:=hrel;have HBLD:=Ω hbld;have HB:=Ω hb;clear hbld hb
   by_cases hlt:k<ms.length
   .obtain⟨b,o,rfl,hbl,hc⟩:=HX.out h0
    obtain⟨d1,d2,d3⟩:=hc k hlt;have c1:=(HB.out.cell (p:=⟨b,o+k*3,none⟩) hbl).trans d1;have c2:=(HB.out.cell (p:=⟨b,o+k*3+1,none⟩) hbl).trans d2;have c3:=(HB.out.cell (p:=⟨b,o+k*3+2,none⟩) hbl).trans d3;have l0:b<wr.heap.size:=BB c1;have z0:(0:Int)<=(k:Int):=by omega
    have z1:(k:Int)<(ms.length:Int):=by omega
    clear hc d1 d2 d3;have HT:=Ω (WQ ms k hlt);have hr:AO ms[k]=true:=Arg.1 HALL.out _ (Ars hlt);have HMK:=Ω (HM.out ms[k] (Ars hlt) hr);have HLM:=Ω (O4 hr);have HLS:=Ω (Hg (ms.take k) 0 (Arg.2 λx hx=>Arg.1 HALL.out x (List.mem_of_mem_take hx)));generalize ms[k]=m at *;obtain⟨ng,nu,va⟩:=m;clear hr;simp only at c1 c2 c3
    cases ng with
    |true=>
     by_cases hk0:k=0
     .subst hk0
      rw[AsG,Ar5]at c1 c2 c3;have q1:(Asy (Ci 0 (ms.take 0))).length+(ByteArray.mk #[45]).size<=140737488355328:=by
       rw[AsA];have h5:=HLS.out;have h8:(ms.take 0).length<=64:=by rw[ArG];omega
       show _+1<=_
       omega
      have Q1:=Ω q1;clear q1
      go_wp2_with (go_at_call 56;refine(Co w.heap.size _ (Asy (Ci 0 (ms.take 0))) _ _ (EW HBLD.out (Ba _ _)) Q1.out (CL HB.out).size).mono ?_)
      first|rintro e w3 rfl hd3 hb3 hk3|rintro e w3 ⟨rfl,hd3,hb3,hk3⟩
      have HK3:=Ω (show Blk w3 wr.heap.size 115 #[.bool true,.string nu,.string va] from by first|exact hk3 _ _ _ _ (Blk.new wr _ _) (AsU (HBLD.out.elim Lib.BuilderAt.lt Lib.BuilderAt.lt)) (by decide) | exact hk3 _ _ _ _ _ (Blk.new wr _ _) (AsU (HBLD.out.elim Lib.BuilderAt.lt Lib.BuilderAt.lt)) (by decide));have HB3:=Ω ((CL HB.out).trans hb3);have HLP:=Ω (show ([45]:List UInt8).length<=3 by decide);have HD3:=Ω (show AsM 119 5 w.heap.size w1.heap.size (Asy (Ci 0 (ms.take 0)++[45])) w3 from .inr (by rw[Asz];exact hd3));clear hd3 hb3 hk3;have x0:=HK3.out.cell 0;have x1:=HK3.out.cell 1;have x2:=HK3.out.cell 2;have l3:=HK3.out.lt
      go_wp2_with (go_at_call 57;refine(HMK.out _).mono ?_)
      first|rintro e w4 rfl hb4|rintro e w4 ⟨rfl,hb4⟩
      replace hb4:Below (w3).heap.size (w3) w4:=by first|exact hb4 | (rw[World.size_alloc];exact hb4)
      have HB4:=Ω (AQ HB3.out hb4);have HD4:=Ω (EW HD3.out hb4);clear hb4 x0 x1 x2 l3
      go_wp2_with (go_at_call 56;refine(Co w.heap.size _ _ _ _ HD4.out ?h1 HB4.out.size).mono ?_)
      case h1=>
       rw[AsA,η];have h5:=HLS.out;have h6:=HLM.out;have h7:=HLP.out;have h8:(ms.take 0).length<=64:=by rw[ArG];omega
       have h9:(ByteArray.mk (Cn ⟨true,nu,va⟩).toArray).size=(Cn ⟨true,nu,va⟩).length:=by simp[ByteArray.size]
       omega
      first|rintro e w5 rfl hd5 hb5 _|rintro e w5 ⟨rfl,hd5,hb5,_⟩
      have HD5:=Ω hd5;have HB5:=Ω (HB4.out.trans hb5);clear hd5 hb5
      go_wp2_with fail
      go_roundw
      case rel=>exact⟨0+1,hlt,by go_num,.inr (by rw[HT.out,Asz];exact HD5.out),HB5.out⟩
      case measure=>simp[intOf];omega
     .have y0:¬ (k:Int)=0:=by omega
      have hs:L6 k ⟨true,nu,va⟩=[32,45,32]:=by simp[L6,hk0]
      rw[hs]at HT;have q1:(Asy (Ci 0 (ms.take k))).length+(ByteArray.mk #[32,45,32]).size<=140737488355328:=by
       rw[AsA];have h5:=HLS.out;have h8:(ms.take k).length<=64:=by rw[ArG];omega
       show _+3<=_
       omega
      have Q1:=Ω q1;clear q1
      go_wp2_with (go_at_call 56;refine(Co w.heap.size _ (Asy (Ci 0 (ms.take k))) _ _ (EW HBLD.out (Ba _ _)) Q1.out (CL HB.out).size).mono ?_)
      first|rintro e w3 rfl hd3 hb3 hk3|rintro e w3 ⟨rfl,hd3,hb3,hk3⟩
      have HK3:=Ω (show Blk w3 wr.heap.size 115 #[.bool true,.string nu,.string va] from by first|exact hk3 _ _ _ _ (Blk.new wr _ _) (AsU (HBLD.out.elim Lib.BuilderAt.lt Lib.BuilderAt.lt)) (by decide) | exact hk3 _ _ _ _ _ (Blk.new wr _ _) (AsU (HBLD.out.elim Lib.BuilderAt.lt Lib.BuilderAt.lt)) (by decide));have HB3:=Ω ((CL HB.out).trans hb3);have HLP:=Ω (show ([32,45,32]:List UInt8).length<=3 by decide);have HD3:=Ω (show AsM 119 5 w.heap.size w1.heap.size (Asy (Ci 0 (ms.take k)++[32,45,32])) w3 from .inr (by rw[Asz];exact hd3));clear hd3 hb3 hk3;have x0:=HK3.out.cell 0;have x1:=HK3.out.cell 1;have x2:=HK3.out.cell 2;have l3:=HK3.out.lt
      go_wp2_with (go_at_call 57;refine(HMK.out _).mono ?_)
      first|rintro e w4 rfl hb4|rintro e w4 ⟨rfl,hb4⟩
      replace hb4:Below (w3).heap.size (w3) w4:=by first|exact hb4 | (rw[World.size_alloc];exact hb4)
      have HB4:=Ω (AQ HB3.out hb4);have HD4:=Ω (EW HD3.out hb4);clear hb4 x0 x1 x2 l3
      go_wp2_with (go_at_call 56;refine(Co w.heap.size _ _ _ _ HD4.out ?h1 HB4.out.size).mono ?_)
      case h1=>
       rw[AsA,η];have h5:=HLS.out;have h6:=HLM.out;have h7:=HLP.out;have h8:(ms.take k).length<=64:=by rw[ArG];omega
       have h9:(ByteArray.mk (Cn ⟨true,nu,va⟩).toArray).size=(Cn ⟨true,nu,va⟩).length:=by simp[ByteArray.size]
       omega
      first|rintro e w5 rfl hd5 hb5 _|rintro e w5 ⟨rfl,hd5,hb5,_⟩
      have HD5:=Ω hd5;have HB5:=Ω (HB4.out.trans hb5);clear hd5 hb5
      go_wp2_with fail
      go_roundw
      case rel=>exact⟨k+1,hlt,by go_num,.inr (by rw[HT.out,Asz];exact HD5.out),HB5.out⟩
      case measure=>simp[intOf];omega
    |false=>
     by_cases hk0:k=0
     .subst hk0
      rw[AsG,Ar5]at c1 c2 c3;have hs:L6 0 ⟨false,nu,va⟩=[]:=rfl;rw[hs]at HT;have HK3:=Ω (Blk.new wr 115 #[.bool false,.string nu,.string va]);have HB3:=Ω (CL (o:=.cells #[.bool false,.string nu,.string va] 115) HB.out);have HLP:=Ω (show ([]:List UInt8).length<=3 by decide);have HD3:=Ω (show AsM 119 5 w.heap.size w1.heap.size (Asy (Ci 0 (ms.take 0)++[])) (wr.alloc (.cells #[.bool false,.string nu,.string va] 115)) from by rw[List.append_nil];exact EW HBLD.out (Ba _ _));have x0:=HK3.out.cell 0;have x1:=HK3.out.cell 1;have x2:=HK3.out.cell 2;have l3:=HK3.out.lt
      go_wp2_with (go_at_call 57;refine(HMK.out _).mono ?_)
      first|rintro e w4 rfl hb4|rintro e w4 ⟨rfl,hb4⟩
      replace hb4:Below (wr.alloc (.cells #[.bool false,.string nu,.string va] 115)).heap.size (wr.alloc (.cells #[.bool false,.string nu,.string va] 115)) w4:=by first|exact hb4 | (rw[World.size_alloc];exact hb4)
      have HB4:=Ω (AQ HB3.out hb4);have HD4:=Ω (EW HD3.out hb4);clear hb4 x0 x1 x2 l3
      go_wp2_with (go_at_call 56;refine(Co w.heap.size _ _ _ _ HD4.out ?h1 HB4.out.size).mono ?_)
      case h1=>
       rw[AsA,η];have h5:=HLS.out;have h6:=HLM.out;have h7:=HLP.out;have h8:(ms.take 0).length<=64:=by rw[ArG];omega
       have h9:(ByteArray.mk (Cn ⟨false,nu,va⟩).toArray).size=(Cn ⟨false,nu,va⟩).length:=by simp[ByteArray.size]
       omega
      first|rintro e w5 rfl hd5 hb5 _|rintro e w5 ⟨rfl,hd5,hb5,_⟩
      have HD5:=Ω hd5;have HB5:=Ω (HB4.out.trans hb5);clear hd5 hb5
      go_wp2_with fail
      go_roundw
      case rel=>exact⟨0+1,hlt,by go_num,.inr (by rw[HT.out,Asz];exact HD5.out),HB5.out⟩
      case measure=>simp[intOf];omega
     .have y0:¬ (k:Int)=0:=by omega
      have y1:(0:Int)<(k:Int):=by omega
      have hs:L6 k ⟨false,nu,va⟩=[32,43,32]:=by simp[L6,hk0]
      rw[hs]at HT;have q1:(Asy (Ci 0 (ms.take k))).length+(ByteArray.mk #[32,43,32]).size<=140737488355328:=by
       rw[AsA];have h5:=HLS.out;have h8:(ms.take k).length<=64:=by rw[ArG];omega
       show _+3<=_
       omega
      have Q1:=Ω q1;clear q1
      go_wp2_with (go_at_call 56;refine(Co w.heap.size _ (Asy (Ci 0 (ms.take k))) _ _ (EW HBLD.out (Ba _ _)) Q1.out (CL HB.out).size).mono ?_)
      first|rintro e w3 rfl hd3 hb3 hk3|rintro e w3 ⟨rfl,hd3,hb3,hk3⟩
      have HK3:=Ω (show Blk w3 wr.heap.size 115 #[.bool false,.string nu,.string va] from by first|exact hk3 _ _ _ _ (Blk.new wr _ _) (AsU (HBLD.out.elim Lib.BuilderAt.lt Lib.BuilderAt.lt)) (by decide) | exact hk3 _ _ _ _ _ (Blk.new wr _ _) (AsU (HBLD.out.elim Lib.BuilderAt.lt Lib.BuilderAt.lt)) (by decide));have HB3:=Ω ((CL HB.out).trans hb3);have HLP:=Ω (show ([32,43,32]:List UInt8).length<=3 by decide);have HD3:=Ω (show AsM 119 5 w.heap.size w1.heap.size (Asy (Ci 0 (ms.take k)++[32,43,32])) w3 from .inr (by rw[Asz];exact hd3));clear hd3 hb3 hk3;have x0:=HK3.out.cell 0;have x1:=HK3.out.cell 1;have x2:=HK3.out.cell 2;have l3:=HK3.out.lt
      go_wp2_with (go_at_call 57;refine(HMK.out _).mono ?_)
      first|rintro e w4 rfl hb4|rintro e w4 ⟨rfl,hb4⟩
      replace hb4:Below (w3).heap.size (w3) w4:=by first|exact hb4 | (rw[World.size_alloc];exact hb4)
      have HB4:=Ω (AQ HB3.out hb4);have HD4:=Ω (EW HD3.out hb4);clear hb4 x0 x1 x2 l3
      go_wp2_with (go_at_call 56;refine(Co w.heap.size _ _ _ _ HD4.out ?h1 HB4.out.size).mono ?_)
      case h1=>
       rw[AsA,η];have h5:=HLS.out;have h6:=HLM.out;have h7:=HLP.out;have h8:(ms.take k).length<=64:=by rw[ArG];omega
       have h9:(ByteArray.mk (Cn ⟨false,nu,va⟩).toArray).size=(Cn ⟨false,nu,va⟩).length:=by simp[ByteArray.size]
       omega
      first|rintro e w5 rfl hd5 hb5 _|rintro e w5 ⟨rfl,hd5,hb5,_⟩
      have HD5:=Ω hd5;have HB5:=Ω (HB4.out.trans hb5);clear hd5 hb5
      go_wp2_with fail
      go_roundw
      case rel=>exact⟨k+1,hlt,by go_num,.inr (by rw[HT.out,Asz];exact HD5.out),HB5.out⟩
      case measure=>simp[intOf];omega
   .obtain rfl:k=ms.length:=by omega
    have z1:¬ (ms.length:Int)<(ms.length:Int):=by omega
    have HBL:=HBLD.out;rw[List.take_length]at HBL
    go_wp2_with (go_at_call 58;refine(Tryz.Builder_String_any w.heap.size _ _ _ HBL HB.out.size).mono ?_)
    rintro e w2 rfl hb2;have HB2:=Ω (HB.out.trans hb2);clear hb2
    go_wp2
    go_ret
    exact⟨rfl,HB2.out⟩
def Alh:List AV->Option Mo
 |[.v (.bool n),.v (.string a),.v (.string b)]=>some ⟨n,a,b⟩
 |_=>none
def QZ:List (List AV)->Option (List Mo)
 |[]=>some []
 |x::r=>match Alh x,QZ r with
  |some m,some l=>some (m::l)
  |_,_=>none
theorem Q0:∀ ms:List Mo,QZ (ms.map E9)=some ms
 |[]=>rfl
 |m::r=>by
  rw[Arz,QZ,Q0 r];obtain⟨n,a,b⟩:=m;rfl
theorem ZD{x:List AV}{m:Mo}(h:Alh x=some m):x=E9 m:=by
 unfold Alh at h;split at h
 .injection h with h
  subst h;rfl
 .cases h
theorem O5:∀{xs:List (List AV)} {ms:List Mo},QZ xs=some ms->xs=ms.map E9
 |[],ms,h=>by injection h with h;subst h;rfl
 |x::r,ms,h=>by
  unfold QZ at h;split at h
  .rename_i m l h1 h2
   injection h with h
   subst h;rw[Arz,←O5 h2,←ZD h1]
  .cases h
def X4(ms:List Mo):Bool:=Nat.blt ms.length 4611686018427387904&&ms.all λm=>Nat.ble m.num.size 9223372036854775807&&Nat.ble m.var.size 9223372036854775807
theorem Q7{ms:List Mo}:X4 ms=true ↔ ms.length<4611686018427387904/\∀ m∈ms,WzM m:=by
 unfold X4 WzM;simp only[χ,Arg,Nat.ble_eq,Nat.blt_eq]
def Da:List AV->Option AV
 |[.ls xs]=>(match QZ xs with
  |some ms=>if X4 ms then some (sv (Af (CJ ms))) else none
  |none=>none)
 |_=>none
theorem Qa(ms:List Mo)(h:X4 ms=true):Da [.ls (ms.map E9)]=some (sv (Af (CJ ms))):=by
 simp only[Da,Q0,h,if_true]
theorem Wq{μ:Mu}{F:Az}{w:World}{v:Value}{ms:List Mo}(h:Rep μ F w (.ls (ms.map E9)) v):MosIn w v ms:=by
 unfold Rep at h;obtain⟨_,A,c,h1,h2,h3,h4⟩:=h;rw[List.length_map]at h1 h2;refine⟨A,c,h1,λh0=>?_⟩;obtain⟨g,o,e,hA,hr⟩:=h4 (by simpa using List.ne_nil_of_length_pos h0);have he:e=3:=by
  have:=hr.get (i:=0) (x:=E9 ms[0]) (by rw[Ar8,Ψ h0];rfl);have:=this.1;unfold E9 at this;simpa using this.symm
 subst he;have cell:∀ i (h:i<ms.length),w.cell? ⟨g,o+i*3,none⟩=some (.bool ms[i].neg)/\w.cell? ⟨g,o+i*3+1,none⟩=some (.string ms[i].num)/\w.cell? ⟨g,o+i*3+2,none⟩=some (.string ms[i].var):=λi hi=>by
  have ha:=(hr.get (i:=i) (x:=E9 ms[i]) (by rw[Ar8,Ψ hi];rfl)).2;unfold E9 at ha;obtain⟨_,u0,c0,r0⟩:=ha.get (i:=0) (x:=bv ms[i].neg) rfl;obtain⟨_,u1,c1,r1⟩:=ha.get (i:=1) (x:=sv ms[i].num) rfl;obtain⟨_,u2,c2,r2⟩:=ha.get (i:=2) (x:=sv ms[i].var) rfl;unfold bv Rep at r0;unfold sv Rep at r1 r2;rw[r0.1]at c0;rw[r1.1]at c1;rw[r2.1]at c2;exact⟨c0,c1,c2⟩
 exact⟨g,o,hA,DY (cell 0 h0).1,cell⟩
theorem Anv:LexN DT where
 name s hs:=AlN (by unfold B9 Ch;simp only[sv,hs,if_true];rfl)
 num s hs:=AeA (by unfold B9 BH;simp only[sv,hs,if_true];rfl)
theorem Te(hN:Bx (BY ψ 109) (B9 Ch))(hU:Bx (BY ψ 108) (B9 BH)):Bx (BY ψ 22) (B9 Da):=by
 refine Jw (Db _ _) _ λargs r hr μ F w us hus=>?_
 unfold Da at hr;split at hr
 .rename_i xs
  split at hr
  .rename_i ms hms
   split at hr
   .rename_i hok
    injection hr with hr
    subst hr;obtain rfl:=O5 hms;obtain⟨hl,hz⟩:=Q7.1 hok;obtain⟨v,t,rfl,hv,ht⟩:=hus;have ht:t=[]:=ht;subst ht;have hp:Rep (λ_=>none) (λg _=>g<w.heap.size) w (.ls (ms.map E9)) v:=Rep.plain _ _ rfl hv;refine Calls.mono (UU ms v w (Wq hv) (λw' hb=>?_) (λm hm hr w'=>?_)) ?_
    .have g:=MA (UN hN hU) (GB Anp Anv ms hz hl) w' [v] (by simp only[RepList];exact⟨v,[],rfl,ZU hp hb,rfl⟩)
     refine Calls.mono g ?_;rintro e w'' ⟨u,rfl,hb2,μ',F',hu⟩;unfold bv Rep at hu;rw[hu.1];exact⟨rfl,hb2⟩
    .have g:=MA (UN hN hU) (Uk Anp m hr) w' [.agg #[.bool m.neg,.string m.num,.string m.var]] (by
      simp only[RepList];refine⟨_,[],rfl,?_,rfl⟩;unfold Rep;refine⟨_,rfl,?_⟩;simp only[E9,RepList];exact⟨_,_,rfl,WE _,_,_,rfl,Sr _,_,_,rfl,Sr _,rfl⟩)
     refine Calls.mono g ?_;rintro e w'' ⟨u,rfl,hb2,μ',F',hu⟩;unfold sv Rep at hu;rw[hu.1];exact⟨rfl,hb2⟩
    .rintro e w' ⟨rfl,hb⟩
     exact⟨_,rfl,hb,Sr _⟩
   .cases hr
  .cases hr
 .cases hr
end Go.Proofs.YtlmhajfbpplpoaaGreat
