/- Layer 10: what lex asks -/
import Derived.Test.YtlmhajfbpplpoaaGreatPAP
import Derived.Test.YtlmhajfbpplpoaaGreatPAW
import Derived.Test.YtlmhajfbpplpoaaGreatPAH
import Derived.Deep.QuietTactic
import Derived.BigQuiet
import Derived.Deep.RegionHeld3
import Derived.WalkLawsBesides
set_option linter.all false
open Bool renaming and_eq_true->χ,eq_iff_iff->As2
open List renaming getD_eq_getElem?_getD->ArP,getElem?_cons_succ->ArF,getElem?_cons_zero->ArZ,getElem?_toArray->Asd
namespace Go.Proofs.YtlmhajfbpplpoaaGreat
open Lib renaming hid->Ω,indexByte->Aud
open Tryz renaming prog->ψ
open Go.RowKit
set_option maxHeartbeats 1000000 in
theorem D1(c:UInt8)(b:Int)(w:World)(hb:b=(c.toNat:Int)):Calls ψ 212 #[.int .u8 b] w λe w'=>e=.returned (.bool (D2 c))/\w=w':=by
 subst hb;have hc:=c.toNat_lt;have hq:D2 c=(decide (97<=c.toNat)&&decide (c.toNat<=122)):=rfl;have HQ:=Ω hq;clear hq;generalize c.toNat=n at *
 go_enter Tryz.func212,Tryz.ntmps212
 go_wp2
 all_goals
  go_ret
  exact⟨B0 (by rw[HQ.out];first | (rw[As2];simp only[χ,decide_eq_true_eq];omega) | (rw[As2];simp;omega)),rfl⟩
set_option maxHeartbeats 1000000 in
theorem GS(c:UInt8)(b:Int)(w:World)(hb:b=(c.toNat:Int)):Calls ψ 215 #[.int .u8 b] w λe w'=>e=.returned (.bool (BF c))/\w=w':=by
 subst hb;have hc:=c.toNat_lt;have hq:BF c=(decide (48<=c.toNat)&&decide (c.toNat<=57)):=rfl;have HQ:=Ω hq;clear hq;generalize c.toNat=n at *
 go_enter Tryz.func215,Tryz.ntmps215
 go_wp2
 all_goals
  go_ret
  exact⟨B0 (by rw[HQ.out];first | (rw[As2];simp only[χ,decide_eq_true_eq];omega) | (rw[As2];simp;omega)),rfl⟩
set_option maxHeartbeats 2000000 in
theorem MM(c:UInt8)(b:Int)(w:World)(hb:b=(c.toNat:Int)):Calls ψ 214 #[.int .u8 b] w λe w'=>e=.returned (.bool (Ep c))/\w=w':=by
 have hq:Ep c=(D2 c||BF c||(c.toNat == 95)):=rfl;have HQ:=Ω hq;have HC:=Ω hb;clear hq hb;have hq2:(b == 95)=(c.toNat == 95):=by rw[HC.out,As2];simp;omega
 have HQ2:=Ω hq2;clear hq2;rcases h1:D2 c with _|_
 .rcases h2:BF c with _|_
  .have H1:=Ω h1
   have H2:=Ω h2;clear h1 h2
   go_enter Tryz.func214,Tryz.ntmps214
   go_wp2_with fail
   refine(D1 c b w HC.out).mono ?_;rw[H1.out];rintro e w' ⟨rfl,rfl⟩
   go_wp2_with fail
   refine(GS c b w HC.out).mono ?_;rw[H2.out];rintro e w' ⟨rfl,rfl⟩
   go_wp2
   go_ret
   exact⟨B0 (by rw[HQ.out,H1.out,H2.out,←HQ2.out];rfl),rfl⟩
  .have H1:=Ω h1
   have H2:=Ω h2;clear h1 h2
   go_enter Tryz.func214,Tryz.ntmps214
   go_wp2_with fail
   refine(D1 c b w HC.out).mono ?_;rw[H1.out];rintro e w' ⟨rfl,rfl⟩
   go_wp2_with fail
   refine(GS c b w HC.out).mono ?_;rw[H2.out];rintro e w' ⟨rfl,rfl⟩
   go_wp2
   go_ret
   exact⟨B0 (by rw[HQ.out,H1.out,H2.out];rfl),rfl⟩
 .have H1:=Ω h1
  clear h1
  go_enter Tryz.func214,Tryz.ntmps214
  go_wp2_with fail
  refine(D1 c b w HC.out).mono ?_;rw[H1.out];rintro e w' ⟨rfl,rfl⟩
  go_wp2
  go_ret
  exact⟨B0 (by rw[HQ.out,H1.out];rfl),rfl⟩
theorem AfX(c:UInt8):decide (0<=Aud [88,71,70,85,82] c)=Hs c:=by
 have:∀ n:Fin 256,decide (0<=Aud [88,71,70,85,82] (UInt8.ofNat n))=Hs (UInt8.ofNat n):=by decide +kernel
 have:=this ⟨c.toNat,c.toNat_lt⟩;simpa using this
set_option maxHeartbeats 1000000 in
theorem Xa(c:UInt8)(b:Int)(w:World)(hb:b=(c.toNat:Int)):Calls ψ 217 #[.int .u8 b] w λe w'=>e=.returned (.bool (Hs c))/\w=w':=by
 have hq:=AfX c;have hcc:b.toNat.toUInt8=c:=by rw[hb];simp
 have HQ:=Ω hq;have HC:=Ω hcc;have HB:=Ω hb;clear hq hcc
 by_cases h0:c.toNat=0
 .have hz:(b != 0)=false:=by rw[hb,h0];rfl
  have HZ:=Ω (show Hs c=false by unfold Hs;rw[h0];rfl);clear h0 hb
  go_enter Tryz.func217,Tryz.ntmps217
  go_wp2
  go_ret
  exact⟨B0 HZ.out.symm,rfl⟩
 .have hz:(b != 0)=true:=by rw[hb,bne_iff_ne];omega
  clear h0 hb
  go_enter Tryz.func217,Tryz.ntmps217
  go_wp2_with fail
  refine(Tryz.strings_IndexByte ⟨#[88,71,70,85,82]⟩ b w).mono ?_;rw[HC.out];rintro e w' ⟨rfl,rfl⟩;generalize hm:Aud _ c=m;have HM:=Ω hm;clear hm
  go_wp2
  go_ret
  exact⟨B0 (by rw[←HQ.out,←HM.out]),rfl⟩
def ZQ(p:Nat × Nat):Value:=.complex .f64 (enc p.1) (enc p.2)
def Small(p:Nat × Nat):Prop:=1<=p.1/\1<=p.2/\p.1<=100000/\p.2<=100000
theorem Abg(p:Nat × Nat)(w:World)(hp:Small p):Calls ψ 244 #[ZQ p] w λe w'=>e=.returned (ZQ (p.1+1,1))/\w=w':=by
 obtain⟨a,b⟩:=p;obtain⟨h1,h2,h3,h4⟩:=hp;simp only at h1 h2 h3 h4;have ha:=λW:World=>run_float_arith (P:=ψ) W .add 246 .f64 (enc a) 4607182418800017408 _ (W4 a (by omega) (by omega))
 have h1':=Lb;unfold ZQ;rw[show enc ((a,b).1+1,1).2=4607182418800017408 from Lb]
 show Calls _ _ #[.complex .f64 (enc a) (enc b)] w λe w'=>e=.returned (.complex .f64 (enc (a+1)) 4607182418800017408)/\w=w'
 clear h1';generalize enc a=x at *;generalize enc (a+1)=y at *
 go_enter Tryz.func244,Tryz.ntmps244
 go_wp2
 go_ret
 exact⟨rfl,rfl⟩
set_option maxRecDepth 10000 in
theorem Sp(p:Nat × Nat)(w:World)(hp:Small p):Calls ψ 159 #[ZQ p] w λe w'=>e=.returned (.agg #[.int .i64 p.1,.int .i64 p.2])/\Below w.heap.size w w':=by
 obtain⟨a,b⟩:=p;obtain⟨h1,h2,h3,h4⟩:=hp;simp only at h1 h2 h3 h4;have ha:=λW:World=>run_convert_float_int (P:=ψ) W 246 3 .f64 .i64 (enc a) a rfl Tryz.underlying3 (Xm a (by omega) (by omega))
 have hb:=λW:World=>run_convert_float_int (P:=ψ) W 246 3 .f64 .i64 (enc b) b rfl Tryz.underlying3 (Xm b (by omega) (by omega))
 unfold ZQ
 show Calls _ _ #[.complex .f64 (enc a) (enc b)] w λe w'=>e=.returned (.agg #[.int .i64 a,.int .i64 b])/\Below w.heap.size w w'
 generalize enc a=x at *;generalize enc b=y at *
 go_enter Tryz.func159,Tryz.ntmps159
 go_wp2
 exact bodyPost_ret (v:=.agg #[.int .i64 a,.int .i64 b]) (by simp[results,Tryz.results159,go_sem]) rfl ⟨rfl,Ba w _⟩
def Rd(w:World)(g:Nat)(s:ByteArray)(i:Nat)(p:Nat × Nat):Prop:=Blk w g 216 #[.string s,.int .i64 i,ZQ p]
theorem Rd.cells{w:World}{g:Nat}{s:ByteArray}{i:Nat}{p:Nat × Nat}(h:Rd w g s i p):w.cell? ⟨g,0,none⟩=some (.string s)/\w.cell? ⟨g,1,none⟩=some (.int .i64 i)/\w.cell? ⟨g,2,none⟩=some (ZQ p):=by
 unfold Rd at h;rw[h.cell,h.cell,h.cell];exact⟨rfl,rfl,rfl⟩
def Cy(s:ByteArray)(i:Nat):UInt8:=s.data.toList.getD i 0
theorem Mr(s:ByteArray)(i:Nat)(h:i<s.size):s[i]=Cy s i:=by
 unfold Cy;rw[ArP,List.getElem?_eq_getElem (by simpa using h)];rfl
theorem Aks(s:ByteArray)(i:Nat)(h:¬ i<s.size):Cy s i=0:=by
 unfold Cy;rw[ArP,List.getElem?_eq_none (by simpa using h)];rfl
set_option maxHeartbeats 1000000 in
theorem FN(s:ByteArray)(g i:Nat)(p:Nat × Nat)(w:World)(hr:Rd w g s i p) :
  Calls ψ 210 #[.pointer (some ⟨g,0,none⟩)] w λe w'=>e=.returned (.int .u8 ((Cy s i).toNat:Int))/\Below w.heap.size w w':=by
 obtain⟨c0,c1,_⟩:=hr.cells;have l0:g<w.heap.size:=BB c0;clear hr
 by_cases hlt:i<s.size
 .have HV:=Ω (Mr s i hlt)
  have q0:(0:Int)<=(i:Int):=by omega
  have q1:(i:Int)<(s.size:Int):=by omega
  go_enter Tryz.func210,Tryz.ntmps210
  go_wp2_with fail
  refine AI (by kernel_rfl) (by kernel_rfl) ?_
  repeat (go_big_quiet_step (fail))
  refine wpQuiet_nil ?_;rintro _ ⟨y,rfl⟩;have hb:=AY w y;have c2:=(hb.cell (p:=⟨g,0,none⟩) l0).trans c0;have c3:=(hb.cell (p:=⟨g,1,none⟩) l0).trans c1;generalize later w y=w1 at *;have HB:=Ω hb;have l1:g<w1.heap.size:=BB c2;clear hb c0 c1 l0
  go_wp2_with fail
  refine AI (by kernel_rfl) (by kernel_rfl) ?_
  repeat (go_big_quiet_step (fail))
  refine wpQuiet_nil ?_;rintro _ ⟨y,rfl⟩
  go_wp2
  go_ret
  exact⟨by rw[←HV.out];rfl,AQ HB.out (AY _ _)⟩
 .have HV:=Ω (Aks s i hlt)
  have q1:¬ (i:Int)<(s.size:Int):=by omega
  go_enter Tryz.func210,Tryz.ntmps210
  go_wp2_with fail
  refine AI (by kernel_rfl) (by kernel_rfl) ?_
  repeat (go_big_quiet_step (fail))
  refine wpQuiet_nil ?_;rintro _ ⟨y,rfl⟩
  go_wp2
  go_ret
  exact⟨by rw[HV.out];rfl,AY _ _⟩
theorem AJ{w w':World}{row:Option Nat}(hb:Below w.heap.size w w'):w.grownBy w' row:=IV hb
theorem A1{w w1 w2:World}{g:Nat}(h:w.grownBy w1 (some g))(k:w1.grownBy w2 (some g)):w.grownBy w2 (some g):=
 ⟨k.os.trans h.os,k.tape.trans h.tape,k.output.trans h.output,Nat.le_trans h.size k.size,λb hb hn=>(k.block b (Nat.lt_of_lt_of_le hb h.size) hn).trans (h.block b hb hn)⟩
theorem FD{w w1:World}{g:Nat}(h:w.grownBy w1 (some g))(i:Nat)(u:Value):w.grownBy (w1.setCell ⟨g,i,none⟩ u) (some g):=
 ⟨h.os,h.tape,h.output,by simpa using h.size,λb hb hn=>(Below.heap_setCell w1 ⟨g,i,none⟩ u b (λe=>hn (by rw[e]))).trans (h.block b hb hn)⟩
theorem Qj{w:World}{g:Nat}{t:TypeId}{x y z:Value}(h:Blk w g t #[x,y,z])(v u:Value):Blk ((w.setCell ⟨g,2,none⟩ v).setCell ⟨g,1,none⟩ u) g t #[x,u,v]:=by
 simpa using (h.set_ 2 v).set_ 1 u
@[go_sem] theorem Yj{P:Program}{w:World}{a:Addr}{m:Mode}(k:FloatKind)(x y:Nat):(store a (.complex k x y) m).run P w=stored P w a (.complex k x y) m:=run_store P w a _ m rfl
theorem AoH(p:Nat × Nat)(hp:Small p):∀ W:World,(binOp .add 212 (.complex .f64 (enc p.1) (enc p.2)) (.complex .f64 0 4607182418800017408)).run ψ W=.ok (.complex .f64 (enc p.1) (enc (p.2+1))) W:=λW=>by
 obtain⟨h1,h2,h3,h4⟩:=hp;refine run_complex_sum W .add (.inl rfl) _ .f64 _ _ _ _ _ _ ?_;unfold cSumBits;rw[YB p.1 (by omega) (by omega),W4 p.2 (by omega) (by omega)];rfl
set_option maxHeartbeats 2000000 in
theorem E6(s:ByteArray)(g i:Nat)(p:Nat × Nat)(w:World)(hs:s.size<=1000000)(hi:i<s.size)(hp:Small p)(hr:Rd w g s i p) :
  Calls ψ 211 #[.pointer (some ⟨g,0,none⟩)] w λe w'=>e=.returned (.tuple #[])/\Rd w' g s (i+1) (Of p (Cy s i))/\w.grownBy w' (some g):=by
 have HP:=Ω hp;have HR:=Ω hr;obtain⟨c0,c1,_⟩:=hr.cells;have l0:g<w.heap.size:=BB c0;have HV:=Ω (Mr s i hi);clear hr hp;have q0:(0:Int)<=(i:Int):=by omega
 have q1:(i:Int)<(s.size:Int):=by omega
 have hbyte:=s[i].toNat_lt;rw[show s[i].toNat=(Cy s i).toNat by rw[HV.out]]at hbyte
 by_cases hnl:(Cy s i).toNat=10
 .have HN:=Ω (show Of p (Cy s i)=(p.1+1,1) by unfold Of;rw[if_pos hnl])
  have hq:((s[i].toNat:Int) == 10)=true:=by rw[HV.out,hnl];rfl
  clear hnl
  go_enter Tryz.func211,Tryz.ntmps211
  go_wp2_with fail
  refine AI (by kernel_rfl) (by kernel_rfl) ?_
  repeat (go_big_quiet_step (fail))
  refine wpQuiet_nil ?_;rintro _ ⟨y,rfl⟩;have hb:=AY w y;have hk:=Blk.call HR.out hb;generalize later w y=w1 at *;have HB:=Ω hb;have HK:=Ω hk;have c0:=hk.cell 0;have c1:=hk.cell 1;have c2:=hk.cell 2;have f1:=hk.frozen 1;have f2:=hk.frozen 2;simp only[Asd,ArZ,ArF]at c0 c1 c2;have l1:g<w1.heap.size:=BB c0;clear hb hk
  go_wp2_with fail
  refine(Abg p w1 HP.out).mono ?_;rintro e w' ⟨rfl,rfl⟩;unfold ZQ at c2 ⊢;generalize hx:enc (p.1+1,1).1=x at *;generalize hx2:enc (p.1+1,1).2=x2 at *;have HX:=Ω hx;have HX2:=Ω hx2;clear hx hx2
  go_wp2
  go_end0
  refine⟨rfl,?_,?_⟩
  .rw[HN.out]
   unfold Rd ZQ;rw[HX.out,HX2.out];exact Qj HK.out (.complex .f64 x x2) (.int .i64 ((i+1:Nat):Int))
  .exact FD (FD (AJ HB.out) 2 _) 1 _
 .have HN:=Ω (show Of p (Cy s i)=(p.1,p.2+1) by unfold Of;rw[if_neg hnl])
  have hq:((s[i].toNat:Int) == 10)=false:=by rw[HV.out,beq_eq_false_iff_ne];omega
  have hsum:=AoH p HP.out;clear hnl
  go_enter Tryz.func211,Tryz.ntmps211
  go_wp2_with fail
  refine AI (by kernel_rfl) (by kernel_rfl) ?_
  repeat (go_big_quiet_step (fail))
  refine wpQuiet_nil ?_;rintro _ ⟨y,rfl⟩;have hb:=AY w y;have hk:=Blk.call HR.out hb;generalize later w y=w1 at *;have HB:=Ω hb;have HK:=Ω hk;have c0:=hk.cell 0;have c1:=hk.cell 1;have c2:=hk.cell 2;have f1:=hk.frozen 1;have f2:=hk.frozen 2;simp only[Asd,ArZ,ArF]at c0 c1 c2;unfold ZQ at c2;have l1:g<w1.heap.size:=BB c0;clear hb hk;generalize hx:enc p.1=x at *;generalize hx2:enc p.2=x2 at *;generalize hx3:enc (p.2+1)=x3 at *;have HX:=Ω hx;have HX2:=Ω hx2;have HX3:=Ω hx3;clear hx hx2 hx3
  go_wp2
  go_end0
  refine⟨rfl,?_,?_⟩
  .rw[HN.out]
   unfold Rd ZQ;rw[HX.out,HX3.out];exact Qj HK.out (.complex .f64 x x3) (.int .i64 ((i+1:Nat):Int))
  .exact FD (FD (AJ HB.out) 2 _) 1 _
end Go.Proofs.YtlmhajfbpplpoaaGreat
