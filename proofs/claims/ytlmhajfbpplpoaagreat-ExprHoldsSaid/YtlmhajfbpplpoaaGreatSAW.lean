/- expr.SumText: its walk, of what RightSum and monoT -/
import Derived.Test.YtlmhajfbpplpoaaGreatSAU
import Derived.Test.YtlmhajfbpplpoaaGreatSAV
import Derived.Test.YtlmhajfbpplpoaaGreatSAT
set_option linter.unusedSectionVars false
set_option linter.unusedSimpArgs false
set_option linter.unusedVariables false
namespace Go.Proofs.YtlmhajfbpplpoaaGreat
open Go.RowKit
def MosIn(w:World)(v:Value)(ms:List Mo):Prop:=∃ A c,v=.slice A ms.length c/\(0<ms.length->∃ b o,A=some ⟨b,o,none⟩/\b<w.heap.size/\∀ i (h:i<ms.length),w.cell? ⟨b,o+i*3,none⟩=some (.bool ms[i].neg)/\w.cell? ⟨b,o+i*3+1,none⟩=some (.string ms[i].num)/\w.cell? ⟨b,o+i*3+2,none⟩=some (.string ms[i].var))
theorem MosIn.call{w w':World}{v:Value}{ms:List Mo}(h:MosIn w v ms)(hb:Below w.heap.size w w'):MosIn w' v ms:=by
 obtain⟨A,c,rfl,hx⟩:=h
 refine⟨A,c,rfl,fun h0=>?_⟩
 obtain⟨b,o,rfl,hl,hc⟩:=hx h0
 refine⟨b,o,rfl,Nat.lt_of_lt_of_le hl hb.size,fun i hi=>?_⟩
 obtain⟨c1,c2,c3⟩:=hc i hi
 exact⟨(hb.cell (p:=⟨b,o+i*3,none⟩) hl).trans c1,(hb.cell (p:=⟨b,o+i*3+1,none⟩) hl).trans c2,(hb.cell (p:=⟨b,o+i*3+2,none⟩) hl).trans c3⟩
theorem Eo{w w':World}{T e:TypeId}{B b:Nat}{bs:List Value}(h:Lib.IsBuilder T e B b bs w)(hb:Below w.heap.size w w'):Lib.IsBuilder T e B b bs w':=by
 rcases h with h|h
 .obtain⟨hB,v,h1,h2,h3⟩:=h
  have hl:=Lib.BuilderAt.lt ⟨hB,v,h1,h2,h3⟩
  exact .inl ⟨hB,v,(hb.block b hl).trans h1,NC h2 hb,h3⟩
 .obtain⟨hB,v,h1,h2,h3⟩:=h
  have hl:=Lib.BuilderAt.lt ⟨hB,v,h1,h2,h3⟩
  exact .inr ⟨hB,v,(hb.block b hl).trans h1,NC h2 hb,h3⟩
set_option maxRecDepth 100000 in
set_option maxHeartbeats 4000000 in
theorem SJ(ms:List Mo)(v:Value)(w:World)(hv:MosIn w v ms)
  (hR:∀ w',Below w.heap.size w w'->Calls Tryz.prog 23 #[v] w' fun e w''=>e=.returned (.bool (Pm ms))/\Below w'.heap.size w' w'')
  (hM:∀ m∈ms,Bo m=true->∀ w',Calls Tryz.prog 57 #[.agg #[.bool m.neg,.string m.num,.string m.var]] w' fun e w''=>e=.returned (.string ⟨(Do m).toArray⟩)/\Below w'.heap.size w' w'') :
  Calls Tryz.prog 22 #[v] w fun e w'=>e=.returned (.string ⟨(FN ms).toArray⟩)/\Below w.heap.size w w':=by
 obtain⟨A,c,rfl,hx⟩:=hv
 have HX:=Lib.hid hx
 have HR:=Lib.hid hR
 have HM:=Lib.hid hM
 clear hx hR hM
 go_enter Tryz.func22,Tryz.ntmps22
 unfold FN
 cases hrs:Pm ms with
 |false=>
  rw[hrs]at HR
  go_wp2_with (go_at_call 23;refine(HR.out _ (Below.refl _ _)).mono ?_)
  rintro e w1 ⟨rfl,hb1⟩
  go_wp2
  go_ret
  exact⟨rfl,hb1⟩
 |true=>
  rw[hrs]at HR
  have hrs2:=hrs
  unfold Pm at hrs2
  simp only[Bool.and_eq_true,decide_eq_true_eq]at hrs2
  obtain⟨⟨h0,h64⟩,hall⟩:=hrs2
  have HALL:=Lib.hid hall
  clear hall hrs
  go_wp2_with (go_at_call 23;refine(HR.out _ (Below.refl _ _)).mono ?_)
  rintro e w1 ⟨rfl,hb1⟩
  have HB1:=Lib.hid hb1
  clear hb1
  go_wp2_with fail
  go_loopw [11] (fun q wr=>∃ k:Nat,k<=ms.length/\q=.int .i64 k/\Lib.IsBuilder 119 5 w.heap.size w1.heap.size (Lib.byteCells (C9 0 (ms.take k))) wr/\Below w.heap.size w wr) (fun q _=>ms.length-(intOf q).toNat)
  case atStart=>
   refine⟨0,Nat.zero_le _,rfl,?_,?_⟩
   .exact .inl ⟨HB1.out.size,.slice none 0 0,heap_alloc_new _ _,World.ownsRow_nil _ _ _ _,by simp[Value.ownBlock]⟩
   .exact HB1.out.alloc HB1.out.size _
  case round=>
   obtain⟨k,hk,rfl,hbld,hb⟩:=hrel
   have HBLD:=Lib.hid hbld
   have HB:=Lib.hid hb
   clear hbld hb
   by_cases hlt:k<ms.length
   .obtain⟨b,o,rfl,hbl,hc⟩:=HX.out h0
    obtain⟨d1,d2,d3⟩:=hc k hlt
    have c1:=(HB.out.cell (p:=⟨b,o+k*3,none⟩) hbl).trans d1
    have c2:=(HB.out.cell (p:=⟨b,o+k*3+1,none⟩) hbl).trans d2
    have c3:=(HB.out.cell (p:=⟨b,o+k*3+2,none⟩) hbl).trans d3
    have l0:b<wr.heap.size:=BB c1
    have z0:(0:Int)<=(k:Int):=by omega
    have z1:(k:Int)<(ms.length:Int):=by omega
    clear hc d1 d2 d3
    have HT:=Lib.hid (Uu ms k hlt)
    have hr:Bo ms[k]=true:=List.all_eq_true.1 HALL.out _ (List.getElem_mem hlt)
    have HMK:=Lib.hid (HM.out ms[k] (List.getElem_mem hlt) hr)
    have HLM:=Lib.hid (Np hr)
    have HLS:=Lib.hid (Ld (ms.take k) 0 (List.all_eq_true.2 fun x hx=>List.all_eq_true.1 HALL.out x (List.mem_of_mem_take hx)))
    generalize ms[k]=m at *
    obtain⟨ng,nu,va⟩:=m
    clear hr
    simp only at c1 c2 c3
    cases ng with
    |true=>
     by_cases hk0:k=0
     .subst hk0
      rw[Nat.zero_mul,Nat.add_zero]at c1 c2 c3
      have q1:(Lib.byteCells (C9 0 (ms.take 0))).length+(ByteArray.mk #[45]).size<=140737488355328:=by
       rw[Lib.byteCells_length]
       have h5:=HLS.out
       have h8:(ms.take 0).length<=64:=by rw[List.length_take];omega
       show _+1<=_
       omega
      have Q1:=Lib.hid q1
      clear q1
      go_wp2_with (go_at_call 56;refine(Cf w.heap.size _ (Lib.byteCells (C9 0 (ms.take 0))) _ _ (Eo HBLD.out (Bi _ _)) Q1.out (Cv HB.out).size).mono ?_)
      first|rintro e w3 rfl hd3 hb3 hk3|rintro e w3 ⟨rfl,hd3,hb3,hk3⟩
      have HK3:=Lib.hid (show Blk w3 wr.heap.size 115 #[.bool true,.string nu,.string va] from by first|exact hk3 _ _ _ _ (Blk.new wr _ _) (Nat.ne_of_gt (HBLD.out.elim Lib.BuilderAt.lt Lib.BuilderAt.lt)) (by decide) | exact hk3 _ _ _ _ _ (Blk.new wr _ _) (Nat.ne_of_gt (HBLD.out.elim Lib.BuilderAt.lt Lib.BuilderAt.lt)) (by decide))
      have HB3:=Lib.hid ((Cv HB.out).trans hb3)
      have HLP:=Lib.hid (show ([45]:List UInt8).length<=3 by decide)
      have HD3:=Lib.hid (show Lib.IsBuilder 119 5 w.heap.size w1.heap.size (Lib.byteCells (C9 0 (ms.take 0)++[45])) w3 from .inr (by rw[Lib.byteCells_append];exact hd3))
      clear hd3 hb3 hk3
      have x0:=HK3.out.cell 0
      have x1:=HK3.out.cell 1
      have x2:=HK3.out.cell 2
      have l3:=HK3.out.lt
      go_wp2_with (go_at_call 57;refine(HMK.out _).mono ?_)
      first|rintro e w4 rfl hb4|rintro e w4 ⟨rfl,hb4⟩
      replace hb4:Below (w3).heap.size (w3) w4:=by first|exact hb4 | (rw[World.size_alloc];exact hb4)
      have HB4:=Lib.hid (A9 HB3.out hb4)
      have HD4:=Lib.hid (Eo HD3.out hb4)
      clear hb4 x0 x1 x2 l3
      go_wp2_with (go_at_call 56;refine(Cf w.heap.size _ _ _ _ HD4.out ?h1 HB4.out.size).mono ?_)
      case h1=>
       rw[Lib.byteCells_length,List.length_append]
       have h5:=HLS.out
       have h6:=HLM.out
       have h7:=HLP.out
       have h8:(ms.take 0).length<=64:=by rw[List.length_take];omega
       have h9:(ByteArray.mk (Do ⟨true,nu,va⟩).toArray).size=(Do ⟨true,nu,va⟩).length:=by simp[ByteArray.size]
       omega
      first|rintro e w5 rfl hd5 hb5 _|rintro e w5 ⟨rfl,hd5,hb5,_⟩
      have HD5:=Lib.hid hd5
      have HB5:=Lib.hid (HB4.out.trans hb5)
      clear hd5 hb5
      go_wp2_with fail
      go_roundw
      case rel=>exact⟨0+1,hlt,by go_num,.inr (by rw[HT.out,Lib.byteCells_append];exact HD5.out),HB5.out⟩
      case measure=>simp[intOf];omega
     .have y0:¬ (k:Int)=0:=by omega
      have hs:Ou k ⟨true,nu,va⟩=[32,45,32]:=by simp[Ou,hk0]
      rw[hs]at HT
      have q1:(Lib.byteCells (C9 0 (ms.take k))).length+(ByteArray.mk #[32,45,32]).size<=140737488355328:=by
       rw[Lib.byteCells_length]
       have h5:=HLS.out
       have h8:(ms.take k).length<=64:=by rw[List.length_take];omega
       show _+3<=_
       omega
      have Q1:=Lib.hid q1
      clear q1
      go_wp2_with (go_at_call 56;refine(Cf w.heap.size _ (Lib.byteCells (C9 0 (ms.take k))) _ _ (Eo HBLD.out (Bi _ _)) Q1.out (Cv HB.out).size).mono ?_)
      first|rintro e w3 rfl hd3 hb3 hk3|rintro e w3 ⟨rfl,hd3,hb3,hk3⟩
      have HK3:=Lib.hid (show Blk w3 wr.heap.size 115 #[.bool true,.string nu,.string va] from by first|exact hk3 _ _ _ _ (Blk.new wr _ _) (Nat.ne_of_gt (HBLD.out.elim Lib.BuilderAt.lt Lib.BuilderAt.lt)) (by decide) | exact hk3 _ _ _ _ _ (Blk.new wr _ _) (Nat.ne_of_gt (HBLD.out.elim Lib.BuilderAt.lt Lib.BuilderAt.lt)) (by decide))
      have HB3:=Lib.hid ((Cv HB.out).trans hb3)
      have HLP:=Lib.hid (show ([32,45,32]:List UInt8).length<=3 by decide)
      have HD3:=Lib.hid (show Lib.IsBuilder 119 5 w.heap.size w1.heap.size (Lib.byteCells (C9 0 (ms.take k)++[32,45,32])) w3 from .inr (by rw[Lib.byteCells_append];exact hd3))
      clear hd3 hb3 hk3
      have x0:=HK3.out.cell 0
      have x1:=HK3.out.cell 1
      have x2:=HK3.out.cell 2
      have l3:=HK3.out.lt
      go_wp2_with (go_at_call 57;refine(HMK.out _).mono ?_)
      first|rintro e w4 rfl hb4|rintro e w4 ⟨rfl,hb4⟩
      replace hb4:Below (w3).heap.size (w3) w4:=by first|exact hb4 | (rw[World.size_alloc];exact hb4)
      have HB4:=Lib.hid (A9 HB3.out hb4)
      have HD4:=Lib.hid (Eo HD3.out hb4)
      clear hb4 x0 x1 x2 l3
      go_wp2_with (go_at_call 56;refine(Cf w.heap.size _ _ _ _ HD4.out ?h1 HB4.out.size).mono ?_)
      case h1=>
       rw[Lib.byteCells_length,List.length_append]
       have h5:=HLS.out
       have h6:=HLM.out
       have h7:=HLP.out
       have h8:(ms.take k).length<=64:=by rw[List.length_take];omega
       have h9:(ByteArray.mk (Do ⟨true,nu,va⟩).toArray).size=(Do ⟨true,nu,va⟩).length:=by simp[ByteArray.size]
       omega
      first|rintro e w5 rfl hd5 hb5 _|rintro e w5 ⟨rfl,hd5,hb5,_⟩
      have HD5:=Lib.hid hd5
      have HB5:=Lib.hid (HB4.out.trans hb5)
      clear hd5 hb5
      go_wp2_with fail
      go_roundw
      case rel=>exact⟨k+1,hlt,by go_num,.inr (by rw[HT.out,Lib.byteCells_append];exact HD5.out),HB5.out⟩
      case measure=>simp[intOf];omega
    |false=>
     by_cases hk0:k=0
     .subst hk0
      rw[Nat.zero_mul,Nat.add_zero]at c1 c2 c3
      have hs:Ou 0 ⟨false,nu,va⟩=[]:=rfl
      rw[hs]at HT
      have HK3:=Lib.hid (Blk.new wr 115 #[.bool false,.string nu,.string va])
      have HB3:=Lib.hid (Cv (o:=.cells #[.bool false,.string nu,.string va] 115) HB.out)
      have HLP:=Lib.hid (show ([]:List UInt8).length<=3 by decide)
      have HD3:=Lib.hid (show Lib.IsBuilder 119 5 w.heap.size w1.heap.size (Lib.byteCells (C9 0 (ms.take 0)++[])) (wr.alloc (.cells #[.bool false,.string nu,.string va] 115)) from by rw[List.append_nil];exact Eo HBLD.out (Bi _ _))
      have x0:=HK3.out.cell 0
      have x1:=HK3.out.cell 1
      have x2:=HK3.out.cell 2
      have l3:=HK3.out.lt
      go_wp2_with (go_at_call 57;refine(HMK.out _).mono ?_)
      first|rintro e w4 rfl hb4|rintro e w4 ⟨rfl,hb4⟩
      replace hb4:Below (wr.alloc (.cells #[.bool false,.string nu,.string va] 115)).heap.size (wr.alloc (.cells #[.bool false,.string nu,.string va] 115)) w4:=by first|exact hb4 | (rw[World.size_alloc];exact hb4)
      have HB4:=Lib.hid (A9 HB3.out hb4)
      have HD4:=Lib.hid (Eo HD3.out hb4)
      clear hb4 x0 x1 x2 l3
      go_wp2_with (go_at_call 56;refine(Cf w.heap.size _ _ _ _ HD4.out ?h1 HB4.out.size).mono ?_)
      case h1=>
       rw[Lib.byteCells_length,List.length_append]
       have h5:=HLS.out
       have h6:=HLM.out
       have h7:=HLP.out
       have h8:(ms.take 0).length<=64:=by rw[List.length_take];omega
       have h9:(ByteArray.mk (Do ⟨false,nu,va⟩).toArray).size=(Do ⟨false,nu,va⟩).length:=by simp[ByteArray.size]
       omega
      first|rintro e w5 rfl hd5 hb5 _|rintro e w5 ⟨rfl,hd5,hb5,_⟩
      have HD5:=Lib.hid hd5
      have HB5:=Lib.hid (HB4.out.trans hb5)
      clear hd5 hb5
      go_wp2_with fail
      go_roundw
      case rel=>exact⟨0+1,hlt,by go_num,.inr (by rw[HT.out,Lib.byteCells_append];exact HD5.out),HB5.out⟩
      case measure=>simp[intOf];omega
     .have y0:¬ (k:Int)=0:=by omega
      have y1:(0:Int)<(k:Int):=by omega
      have hs:Ou k ⟨false,nu,va⟩=[32,43,32]:=by simp[Ou,hk0]
      rw[hs]at HT
      have q1:(Lib.byteCells (C9 0 (ms.take k))).length+(ByteArray.mk #[32,43,32]).size<=140737488355328:=by
       rw[Lib.byteCells_length]
       have h5:=HLS.out
       have h8:(ms.take k).length<=64:=by rw[List.length_take];omega
       show _+3<=_
       omega
      have Q1:=Lib.hid q1
      clear q1
      go_wp2_with (go_at_call 56;refine(Cf w.heap.size _ (Lib.byteCells (C9 0 (ms.take k))) _ _ (Eo HBLD.out (Bi _ _)) Q1.out (Cv HB.out).size).mono ?_)
      first|rintro e w3 rfl hd3 hb3 hk3|rintro e w3 ⟨rfl,hd3,hb3,hk3⟩
      have HK3:=Lib.hid (show Blk w3 wr.heap.size 115 #[.bool false,.string nu,.string va] from by first|exact hk3 _ _ _ _ (Blk.new wr _ _) (Nat.ne_of_gt (HBLD.out.elim Lib.BuilderAt.lt Lib.BuilderAt.lt)) (by decide) | exact hk3 _ _ _ _ _ (Blk.new wr _ _) (Nat.ne_of_gt (HBLD.out.elim Lib.BuilderAt.lt Lib.BuilderAt.lt)) (by decide))
      have HB3:=Lib.hid ((Cv HB.out).trans hb3)
      have HLP:=Lib.hid (show ([32,43,32]:List UInt8).length<=3 by decide)
      have HD3:=Lib.hid (show Lib.IsBuilder 119 5 w.heap.size w1.heap.size (Lib.byteCells (C9 0 (ms.take k)++[32,43,32])) w3 from .inr (by rw[Lib.byteCells_append];exact hd3))
      clear hd3 hb3 hk3
      have x0:=HK3.out.cell 0
      have x1:=HK3.out.cell 1
      have x2:=HK3.out.cell 2
      have l3:=HK3.out.lt
      go_wp2_with (go_at_call 57;refine(HMK.out _).mono ?_)
      first|rintro e w4 rfl hb4|rintro e w4 ⟨rfl,hb4⟩
      replace hb4:Below (w3).heap.size (w3) w4:=by first|exact hb4 | (rw[World.size_alloc];exact hb4)
      have HB4:=Lib.hid (A9 HB3.out hb4)
      have HD4:=Lib.hid (Eo HD3.out hb4)
      clear hb4 x0 x1 x2 l3
      go_wp2_with (go_at_call 56;refine(Cf w.heap.size _ _ _ _ HD4.out ?h1 HB4.out.size).mono ?_)
      case h1=>
       rw[Lib.byteCells_length,List.length_append]
       have h5:=HLS.out
       have h6:=HLM.out
       have h7:=HLP.out
       have h8:(ms.take k).length<=64:=by rw[List.length_take];omega
       have h9:(ByteArray.mk (Do ⟨false,nu,va⟩).toArray).size=(Do ⟨false,nu,va⟩).length:=by simp[ByteArray.size]
       omega
      first|rintro e w5 rfl hd5 hb5 _|rintro e w5 ⟨rfl,hd5,hb5,_⟩
      have HD5:=Lib.hid hd5
      have HB5:=Lib.hid (HB4.out.trans hb5)
      clear hd5 hb5
      go_wp2_with fail
      go_roundw
      case rel=>exact⟨k+1,hlt,by go_num,.inr (by rw[HT.out,Lib.byteCells_append];exact HD5.out),HB5.out⟩
      case measure=>simp[intOf];omega
   .obtain rfl:k=ms.length:=by omega
    have z1:¬ (ms.length:Int)<(ms.length:Int):=by omega
    have HBL:=HBLD.out
    rw[List.take_length]at HBL
    go_wp2_with (go_at_call 58;refine(Tryz.Builder_String_any w.heap.size _ _ _ HBL HB.out.size).mono ?_)
    rintro e w2 rfl hb2
    have HB2:=Lib.hid (HB.out.trans hb2)
    clear hb2
    go_wp2
    go_ret
    exact⟨rfl,HB2.out⟩
def Ag9:List AV->Option Mo
 |[.v (.bool n),.v (.string a),.v (.string b)]=>some ⟨n,a,b⟩
 |_=>none
def O7:List (List AV)->Option (List Mo)
 |[]=>some []
 |x::r=>match Ag9 x,O7 r with
  |some m,some l=>some (m::l)
  |_,_=>none
theorem O8:∀ ms:List Mo,O7 (ms.map Gt)=some ms
 |[]=>rfl
 |m::r=>by
  rw[List.map_cons,O7,O8 r]
  obtain⟨n,a,b⟩:=m
  rfl
theorem WK{x:List AV}{m:Mo}(h:Ag9 x=some m):x=Gt m:=by
 unfold Ag9 at h
 split at h
 .injection h with h
  subst h
  rfl
 .cases h
theorem Nq:∀{xs:List (List AV)} {ms:List Mo},O7 xs=some ms->xs=ms.map Gt
 |[],ms,h=>by injection h with h;subst h;rfl
 |x::r,ms,h=>by
  unfold O7 at h
  split at h
  .rename_i m l h1 h2
   injection h with h
   subst h
   rw[List.map_cons,←Nq h2,←WK h1]
  .cases h
def Pf(ms:List Mo):Bool:=Nat.blt ms.length 4611686018427387904&&ms.all fun m=>Nat.ble m.num.size 9223372036854775807&&Nat.ble m.var.size 9223372036854775807
theorem K4{ms:List Mo}:Pf ms=true ↔ ms.length<4611686018427387904/\∀ m∈ms,WzM m:=by
 unfold Pf WzM
 simp only[Bool.and_eq_true,List.all_eq_true,Nat.ble_eq,Nat.blt_eq]
def Co:List AV->Option AV
 |[.ls xs]=>(match O7 xs with
  |some ms=>if Pf ms then some (sv (AE (FN ms))) else none
  |none=>none)
 |_=>none
theorem Ot(ms:List Mo)(h:Pf ms=true):Co [.ls (ms.map Gt)]=some (sv (AE (FN ms))):=by
 simp only[Co,O8,h,if_true]
theorem T6{μ:Mu}{F:AT}{w:World}{v:Value}{ms:List Mo}(h:Rep μ F w (.ls (ms.map Gt)) v):MosIn w v ms:=by
 unfold Rep at h
 obtain⟨_,A,c,h1,h2,h3,h4⟩:=h
 rw[List.length_map]at h1 h2
 refine⟨A,c,h1,fun h0=>?_⟩
 obtain⟨g,o,e,hA,hr⟩:=h4 (by simpa using List.ne_nil_of_length_pos h0)
 have he:e=3:=by
  have:=hr.get (i:=0) (x:=Gt ms[0]) (by rw[List.getElem?_map,List.getElem?_eq_getElem h0];rfl)
  have:=this.1
  unfold Gt at this
  simpa using this.symm
 subst he
 have cell:∀ i (h:i<ms.length),w.cell? ⟨g,o+i*3,none⟩=some (.bool ms[i].neg)/\w.cell? ⟨g,o+i*3+1,none⟩=some (.string ms[i].num)/\w.cell? ⟨g,o+i*3+2,none⟩=some (.string ms[i].var):=fun i hi=>by
  have ha:=(hr.get (i:=i) (x:=Gt ms[i]) (by rw[List.getElem?_map,List.getElem?_eq_getElem hi];rfl)).2
  unfold Gt at ha
  obtain⟨_,u0,c0,r0⟩:=ha.get (i:=0) (x:=bv ms[i].neg) rfl
  obtain⟨_,u1,c1,r1⟩:=ha.get (i:=1) (x:=sv ms[i].num) rfl
  obtain⟨_,u2,c2,r2⟩:=ha.get (i:=2) (x:=sv ms[i].var) rfl
  unfold bv Rep at r0
  unfold sv Rep at r1 r2
  rw[r0.1]at c0
  rw[r1.1]at c1
  rw[r2.1]at c2
  exact⟨c0,c1,c2⟩
 exact⟨g,o,hA,Dt (cell 0 h0).1,cell⟩
theorem Aj9:LexN DT where
 name s hs:=AhC (by unfold Cx CF;simp only[sv,hs,if_true];rfl)
 num s hs:=AaP (by unfold Cx BV;simp only[sv,hs,if_true];rfl)
theorem Ro(hN:BC (BZ Tryz.prog 109) (Cx CF))(hU:BC (BZ Tryz.prog 108) (Cx BV)):BC (BZ Tryz.prog 22) (Cx Co):=by
 refine Ii (CO _ _) _ fun args r hr μ F w us hus=>?_
 unfold Co at hr
 split at hr
 .rename_i xs
  split at hr
  .rename_i ms hms
   split at hr
   .rename_i hok
    injection hr with hr
    subst hr
    obtain rfl:=Nq hms
    obtain⟨hl,hz⟩:=K4.1 hok
    obtain⟨v,t,rfl,hv,ht⟩:=hus
    have ht:t=[]:=ht
    subst ht
    have hp:Rep (fun _=>none) (fun g _=>g<w.heap.size) w (.ls (ms.map Gt)) v:=Rep.plain _ _ rfl hv
    refine Calls.mono (SJ ms v w (T6 hv) (fun w' hb=>?_) (fun m hm hr w'=>?_)) ?_
    .have g:=KF (SB hN hU) (Ez Aj5 Aj9 ms hz hl) w' [v] (by simp only[RepList];exact⟨v,[],rfl,WX hp hb,rfl⟩)
     refine Calls.mono g ?_
     rintro e w'' ⟨u,rfl,hb2,μ',F',hu⟩
     unfold bv Rep at hu
     rw[hu.1]
     exact⟨rfl,hb2⟩
    .have g:=KF (SB hN hU) (Sd Aj5 m hr) w' [.agg #[.bool m.neg,.string m.num,.string m.var]] (by
      simp only[RepList]
      refine⟨_,[],rfl,?_,rfl⟩
      unfold Rep
      refine⟨_,rfl,?_⟩
      simp only[Gt,RepList]
      exact⟨_,_,rfl,Uj _,_,_,rfl,QF _,_,_,rfl,QF _,rfl⟩)
     refine Calls.mono g ?_
     rintro e w'' ⟨u,rfl,hb2,μ',F',hu⟩
     unfold sv Rep at hu
     rw[hu.1]
     exact⟨rfl,hb2⟩
    .rintro e w' ⟨rfl,hb⟩
     exact⟨_,rfl,hb,QF _⟩
   .cases hr
  .cases hr
 .cases hr
end Go.Proofs.YtlmhajfbpplpoaaGreat
