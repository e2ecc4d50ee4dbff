/- Layer 10: what lex asks -/
import Derived.Test.YtlmhajfbpplpoaaGreatOAP
import Derived.Test.YtlmhajfbpplpoaaGreatOAW
import Derived.Test.YtlmhajfbpplpoaaGreatOAH
import Derived.Deep.QuietTactic
import Derived.BigQuiet
import Derived.Deep.RegionHeld3
import Derived.WalkLawsBesides
set_option linter.all false
open Bool renaming and_eq_true->ε,eq_iff_iff->Arm
open List renaming getD_eq_getElem?_getD->ApH,getElem?_cons_succ->ApV,getElem?_cons_zero->Ap8,getElem?_toArray->Aqq
namespace Go.Proofs.YtlmhajfbpplpoaaGreat
open Lib renaming hid->δ,indexByte->Asm
open Tryz renaming prog->φ
open Go.RowKit
set_option maxHeartbeats 1000000 in
theorem Dq(c:UInt8)(b:Int)(w:World)(hb:b=(c.toNat:Int)):Calls φ 212 #[.int .u8 b] w λe w'=>e=.returned (.bool (Ju c))/\w=w':=by
 subst hb;have hc:=c.toNat_lt;have hq:Ju c=(decide (97<=c.toNat)&&decide (c.toNat<=122)):=rfl;have HQ:=δ hq;clear hq;generalize c.toNat=n at *
 go_enter Tryz.func212,Tryz.ntmps212
 go_wp2
 all_goals
  go_ret
  exact⟨BS (by rw[HQ.out];first | (rw[Arm];simp only[ε,decide_eq_true_eq];omega) | (rw[Arm];simp;omega)),rfl⟩
set_option maxHeartbeats 1000000 in
theorem FT(c:UInt8)(b:Int)(w:World)(hb:b=(c.toNat:Int)):Calls φ 215 #[.int .u8 b] w λe w'=>e=.returned (.bool (B0 c))/\w=w':=by
 subst hb;have hc:=c.toNat_lt;have hq:B0 c=(decide (48<=c.toNat)&&decide (c.toNat<=57)):=rfl;have HQ:=δ hq;clear hq;generalize c.toNat=n at *
 go_enter Tryz.func215,Tryz.ntmps215
 go_wp2
 all_goals
  go_ret
  exact⟨BS (by rw[HQ.out];first | (rw[Arm];simp only[ε,decide_eq_true_eq];omega) | (rw[Arm];simp;omega)),rfl⟩
set_option maxHeartbeats 2000000 in
theorem Ld(c:UInt8)(b:Int)(w:World)(hb:b=(c.toNat:Int)):Calls φ 214 #[.int .u8 b] w λe w'=>e=.returned (.bool (Fj c))/\w=w':=by
 have hq:Fj c=(Ju c||B0 c||(c.toNat == 95)):=rfl;have HQ:=δ hq;have HC:=δ hb;clear hq hb;have hq2:(b == 95)=(c.toNat == 95):=by rw[HC.out,Arm];simp;omega
 have HQ2:=δ hq2;clear hq2;rcases h1:Ju c with _|_
 .rcases h2:B0 c with _|_
  .have H1:=δ h1
   have H2:=δ h2;clear h1 h2
   go_enter Tryz.func214,Tryz.ntmps214
   go_wp2_with fail
   refine(Dq c b w HC.out).mono ?_;rw[H1.out];rintro e w' ⟨rfl,rfl⟩
   go_wp2_with fail
   refine(FT c b w HC.out).mono ?_;rw[H2.out];rintro e w' ⟨rfl,rfl⟩
   go_wp2
   go_ret
   exact⟨BS (by rw[HQ.out,H1.out,H2.out,←HQ2.out];rfl),rfl⟩
  .have H1:=δ h1
   have H2:=δ h2;clear h1 h2
   go_enter Tryz.func214,Tryz.ntmps214
   go_wp2_with fail
   refine(Dq c b w HC.out).mono ?_;rw[H1.out];rintro e w' ⟨rfl,rfl⟩
   go_wp2_with fail
   refine(FT c b w HC.out).mono ?_;rw[H2.out];rintro e w' ⟨rfl,rfl⟩
   go_wp2
   go_ret
   exact⟨BS (by rw[HQ.out,H1.out,H2.out];rfl),rfl⟩
 .have H1:=δ h1
  clear h1
  go_enter Tryz.func214,Tryz.ntmps214
  go_wp2_with fail
  refine(Dq c b w HC.out).mono ?_;rw[H1.out];rintro e w' ⟨rfl,rfl⟩
  go_wp2
  go_ret
  exact⟨BS (by rw[HQ.out,H1.out];rfl),rfl⟩
theorem Aeg(c:UInt8):decide (0<=Asm [88,71,70,85,82] c)=OW c:=by
 have:∀ n:Fin 256,decide (0<=Asm [88,71,70,85,82] (UInt8.ofNat n))=OW (UInt8.ofNat n):=by decide +kernel
 have:=this ⟨c.toNat,c.toNat_lt⟩;simpa using this
set_option maxHeartbeats 1000000 in
theorem VL(c:UInt8)(b:Int)(w:World)(hb:b=(c.toNat:Int)):Calls φ 217 #[.int .u8 b] w λe w'=>e=.returned (.bool (OW c))/\w=w':=by
 have hq:=Aeg c;have hcc:b.toNat.toUInt8=c:=by rw[hb];simp
 have HQ:=δ hq;have HC:=δ hcc;have HB:=δ hb;clear hq hcc
 by_cases h0:c.toNat=0
 .have hz:(b != 0)=false:=by rw[hb,h0];rfl
  have HZ:=δ (show OW c=false by unfold OW;rw[h0];rfl);clear h0 hb
  go_enter Tryz.func217,Tryz.ntmps217
  go_wp2
  go_ret
  exact⟨BS HZ.out.symm,rfl⟩
 .have hz:(b != 0)=true:=by rw[hb,bne_iff_ne];omega
  clear h0 hb
  go_enter Tryz.func217,Tryz.ntmps217
  go_wp2_with fail
  refine(Tryz.strings_IndexByte ⟨#[88,71,70,85,82]⟩ b w).mono ?_;rw[HC.out];rintro e w' ⟨rfl,rfl⟩;generalize hm:Asm _ c=m;have HM:=δ hm;clear hm
  go_wp2
  go_ret
  exact⟨BS (by rw[←HQ.out,←HM.out]),rfl⟩
def Yl(p:Nat × Nat):Value:=.complex .f64 (enc p.1) (enc p.2)
def Small(p:Nat × Nat):Prop:=1<=p.1/\1<=p.2/\p.1<=100000/\p.2<=100000
theorem ZQ(p:Nat × Nat)(w:World)(hp:Small p):Calls φ 244 #[Yl p] w λe w'=>e=.returned (Yl (p.1+1,1))/\w=w':=by
 obtain⟨a,b⟩:=p;obtain⟨h1,h2,h3,h4⟩:=hp;simp only at h1 h2 h3 h4;have ha:=λW:World=>run_float_arith (P:=φ) W .add 246 .f64 (enc a) 4607182418800017408 _ (VG a (by omega) (by omega))
 have h1':=JV;unfold Yl;rw[show enc ((a,b).1+1,1).2=4607182418800017408 from JV]
 show Calls _ _ #[.complex .f64 (enc a) (enc b)] w λe w'=>e=.returned (.complex .f64 (enc (a+1)) 4607182418800017408)/\w=w'
 clear h1';generalize enc a=x at *;generalize enc (a+1)=y at *
 go_enter Tryz.func244,Tryz.ntmps244
 go_wp2
 go_ret
 exact⟨rfl,rfl⟩
set_option maxRecDepth 10000 in
theorem Rj(p:Nat × Nat)(w:World)(hp:Small p):Calls φ 159 #[Yl p] w λe w'=>e=.returned (.agg #[.int .i64 p.1,.int .i64 p.2])/\Below w.heap.size w w':=by
 obtain⟨a,b⟩:=p;obtain⟨h1,h2,h3,h4⟩:=hp;simp only at h1 h2 h3 h4;have ha:=λW:World=>run_convert_float_int (P:=φ) W 246 3 .f64 .i64 (enc a) a rfl Tryz.underlying3 (VU a (by omega) (by omega))
 have hb:=λW:World=>run_convert_float_int (P:=φ) W 246 3 .f64 .i64 (enc b) b rfl Tryz.underlying3 (VU b (by omega) (by omega))
 unfold Yl
 show Calls _ _ #[.complex .f64 (enc a) (enc b)] w λe w'=>e=.returned (.agg #[.int .i64 a,.int .i64 b])/\Below w.heap.size w w'
 generalize enc a=x at *;generalize enc b=y at *
 go_enter Tryz.func159,Tryz.ntmps159
 go_wp2
 exact bodyPost_ret (v:=.agg #[.int .i64 a,.int .i64 b]) (by simp[results,Tryz.results159,go_sem]) rfl ⟨rfl,Bi w _⟩
def Rd(w:World)(g:Nat)(s:ByteArray)(i:Nat)(p:Nat × Nat):Prop:=Blk w g 216 #[.string s,.int .i64 i,Yl p]
theorem Rd.cells{w:World}{g:Nat}{s:ByteArray}{i:Nat}{p:Nat × Nat}(h:Rd w g s i p):w.cell? ⟨g,0,none⟩=some (.string s)/\w.cell? ⟨g,1,none⟩=some (.int .i64 i)/\w.cell? ⟨g,2,none⟩=some (Yl p):=by
 unfold Rd at h;rw[h.cell,h.cell,h.cell];exact⟨rfl,rfl,rfl⟩
def Ce(s:ByteArray)(i:Nat):UInt8:=s.data.toList.getD i 0
theorem KQ(s:ByteArray)(i:Nat)(h:i<s.size):s[i]=Ce s i:=by
 unfold Ce;rw[ApH,List.getElem?_eq_getElem (by simpa using h)];rfl
theorem AiO(s:ByteArray)(i:Nat)(h:¬ i<s.size):Ce s i=0:=by
 unfold Ce;rw[ApH,List.getElem?_eq_none (by simpa using h)];rfl
set_option maxHeartbeats 1000000 in
theorem ET(s:ByteArray)(g i:Nat)(p:Nat × Nat)(w:World)(hr:Rd w g s i p) :
  Calls φ 210 #[.pointer (some ⟨g,0,none⟩)] w λe w'=>e=.returned (.int .u8 ((Ce s i).toNat:Int))/\Below w.heap.size w w':=by
 obtain⟨c0,c1,_⟩:=hr.cells;have l0:g<w.heap.size:=Bu c0;clear hr
 by_cases hlt:i<s.size
 .have HV:=δ (KQ s i hlt)
  have q0:(0:Int)<=(i:Int):=by omega
  have q1:(i:Int)<(s.size:Int):=by omega
  go_enter Tryz.func210,Tryz.ntmps210
  go_wp2_with fail
  refine AO (by kernel_rfl) (by kernel_rfl) ?_
  repeat (go_big_quiet_step (fail))
  refine wpQuiet_nil ?_;rintro _ ⟨y,rfl⟩;have hb:=A2 w y;have c2:=(hb.cell (p:=⟨g,0,none⟩) l0).trans c0;have c3:=(hb.cell (p:=⟨g,1,none⟩) l0).trans c1;generalize later w y=w1 at *;have HB:=δ hb;have l1:g<w1.heap.size:=Bu c2;clear hb c0 c1 l0
  go_wp2_with fail
  refine AO (by kernel_rfl) (by kernel_rfl) ?_
  repeat (go_big_quiet_step (fail))
  refine wpQuiet_nil ?_;rintro _ ⟨y,rfl⟩
  go_wp2
  go_ret
  exact⟨by rw[←HV.out];rfl,AY HB.out (A2 _ _)⟩
 .have HV:=δ (AiO s i hlt)
  have q1:¬ (i:Int)<(s.size:Int):=by omega
  go_enter Tryz.func210,Tryz.ntmps210
  go_wp2_with fail
  refine AO (by kernel_rfl) (by kernel_rfl) ?_
  repeat (go_big_quiet_step (fail))
  refine wpQuiet_nil ?_;rintro _ ⟨y,rfl⟩
  go_wp2
  go_ret
  exact⟨by rw[HV.out];rfl,A2 _ _⟩
theorem AR{w w':World}{row:Option Nat}(hb:Below w.heap.size w w'):w.grownBy w' row:=Ho hb
theorem Ba{w w1 w2:World}{g:Nat}(h:w.grownBy w1 (some g))(k:w1.grownBy w2 (some g)):w.grownBy w2 (some g):=
 ⟨k.os.trans h.os,k.tape.trans h.tape,k.output.trans h.output,Nat.le_trans h.size k.size,λb hb hn=>(k.block b (Nat.lt_of_lt_of_le hb h.size) hn).trans (h.block b hb hn)⟩
theorem EK{w w1:World}{g:Nat}(h:w.grownBy w1 (some g))(i:Nat)(u:Value):w.grownBy (w1.setCell ⟨g,i,none⟩ u) (some g):=
 ⟨h.os,h.tape,h.output,by simpa using h.size,λb hb hn=>(Below.heap_setCell w1 ⟨g,i,none⟩ u b (λe=>hn (by rw[e]))).trans (h.block b hb hn)⟩
theorem Pf{w:World}{g:Nat}{t:TypeId}{x y z:Value}(h:Blk w g t #[x,y,z])(v u:Value):Blk ((w.setCell ⟨g,2,none⟩ v).setCell ⟨g,1,none⟩ u) g t #[x,u,v]:=by
 simpa using (h.set_ 2 v).set_ 1 u
@[go_sem] theorem WS{P:Program}{w:World}{a:Addr}{m:Mode}(k:FloatKind)(x y:Nat):(store a (.complex k x y) m).run P w=stored P w a (.complex k x y) m:=run_store P w a _ m rfl
theorem AmY(p:Nat × Nat)(hp:Small p):∀ W:World,(binOp .add 212 (.complex .f64 (enc p.1) (enc p.2)) (.complex .f64 0 4607182418800017408)).run φ W=.ok (.complex .f64 (enc p.1) (enc (p.2+1))) W:=λW=>by
 obtain⟨h1,h2,h3,h4⟩:=hp;refine run_complex_sum W .add (.inl rfl) _ .f64 _ _ _ _ _ _ ?_;unfold cSumBits;rw[Xa p.1 (by omega) (by omega),VG p.2 (by omega) (by omega)];rfl
set_option maxHeartbeats 2000000 in
theorem Ep(s:ByteArray)(g i:Nat)(p:Nat × Nat)(w:World)(hs:s.size<=1000000)(hi:i<s.size)(hp:Small p)(hr:Rd w g s i p) :
  Calls φ 211 #[.pointer (some ⟨g,0,none⟩)] w λe w'=>e=.returned (.tuple #[])/\Rd w' g s (i+1) (M6 p (Ce s i))/\w.grownBy w' (some g):=by
 have HP:=δ hp;have HR:=δ hr;obtain⟨c0,c1,_⟩:=hr.cells;have l0:g<w.heap.size:=Bu c0;have HV:=δ (KQ s i hi);clear hr hp;have q0:(0:Int)<=(i:Int):=by omega
 have q1:(i:Int)<(s.size:Int):=by omega
 have hbyte:=s[i].toNat_lt;rw[show s[i].toNat=(Ce s i).toNat by rw[HV.out]]at hbyte
 by_cases hnl:(Ce s i).toNat=10
 .have HN:=δ (show M6 p (Ce s i)=(p.1+1,1) by unfold M6;rw[if_pos hnl])
  have hq:((s[i].toNat:Int) == 10)=true:=by rw[HV.out,hnl];rfl
  clear hnl
  go_enter Tryz.func211,Tryz.ntmps211
  go_wp2_with fail
  refine AO (by kernel_rfl) (by kernel_rfl) ?_
  repeat (go_big_quiet_step (fail))
  refine wpQuiet_nil ?_;rintro _ ⟨y,rfl⟩;have hb:=A2 w y;have hk:=Blk.call HR.out hb;generalize later w y=w1 at *;have HB:=δ hb;have HK:=δ hk;have c0:=hk.cell 0;have c1:=hk.cell 1;have c2:=hk.cell 2;have f1:=hk.frozen 1;have f2:=hk.frozen 2;simp only[Aqq,Ap8,ApV]at c0 c1 c2;have l1:g<w1.heap.size:=Bu c0;clear hb hk
  go_wp2_with fail
  refine(ZQ p w1 HP.out).mono ?_;rintro e w' ⟨rfl,rfl⟩;unfold Yl at c2 ⊢;generalize hx:enc (p.1+1,1).1=x at *;generalize hx2:enc (p.1+1,1).2=x2 at *;have HX:=δ hx;have HX2:=δ hx2;clear hx hx2
  go_wp2
  go_end0
  refine⟨rfl,?_,?_⟩
  .rw[HN.out]
   unfold Rd Yl;rw[HX.out,HX2.out];exact Pf HK.out (.complex .f64 x x2) (.int .i64 ((i+1:Nat):Int))
  .exact EK (EK (AR HB.out) 2 _) 1 _
 .have HN:=δ (show M6 p (Ce s i)=(p.1,p.2+1) by unfold M6;rw[if_neg hnl])
  have hq:((s[i].toNat:Int) == 10)=false:=by rw[HV.out,beq_eq_false_iff_ne];omega
  have hsum:=AmY p HP.out;clear hnl
  go_enter Tryz.func211,Tryz.ntmps211
  go_wp2_with fail
  refine AO (by kernel_rfl) (by kernel_rfl) ?_
  repeat (go_big_quiet_step (fail))
  refine wpQuiet_nil ?_;rintro _ ⟨y,rfl⟩;have hb:=A2 w y;have hk:=Blk.call HR.out hb;generalize later w y=w1 at *;have HB:=δ hb;have HK:=δ hk;have c0:=hk.cell 0;have c1:=hk.cell 1;have c2:=hk.cell 2;have f1:=hk.frozen 1;have f2:=hk.frozen 2;simp only[Aqq,Ap8,ApV]at c0 c1 c2;unfold Yl at c2;have l1:g<w1.heap.size:=Bu c0;clear hb hk;generalize hx:enc p.1=x at *;generalize hx2:enc p.2=x2 at *;generalize hx3:enc (p.2+1)=x3 at *;have HX:=δ hx;have HX2:=δ hx2;have HX3:=δ hx3;clear hx hx2 hx3
  go_wp2
  go_end0
  refine⟨rfl,?_,?_⟩
  .rw[HN.out]
   unfold Rd Yl;rw[HX.out,HX3.out];exact Pf HK.out (.complex .f64 x x3) (.int .i64 ((i+1:Nat):Int))
  .exact EK (EK (AR HB.out) 2 _) 1 _
end Go.Proofs.YtlmhajfbpplpoaaGreat
