/- Layer 10: bytes are take -/
import Derived.Test.YtlmhajfbpplpoaaGreatMAX
set_option linter.all false
open Bool renaming false->Θ
open List renaming drop_succ_cons->AxY,drop_zero->κ,getElem?_cons_succ->Awa,getElem?_cons_zero->Awm,getElem?_toArray->Awt,setIfInBounds_toArray->AwH,set_cons_succ->Aw6,set_cons_zero->Aw7
open Nat renaming add_assoc->AvQ
namespace Go.Proofs.YtlmhajfbpplpoaaGreat
open Lib renaming hid->θ
open Tryz renaming prog->π
open Go.RowKit
def cut(s:ByteArray)(i n:Nat):List UInt8:=(s.data.toList.drop i).take n
def Bx(p:UInt8->Bool)(s:ByteArray)(i:Nat):Nat:=Hi p (s.data.toList.drop i)
theorem Yx(q:UInt8->Bool)(s:ByteArray):Bx q s s.size=0:=by
 unfold Bx;rw[List.drop_of_length_le (by simp)];rfl
theorem Sf(q:UInt8->Bool)(s:ByteArray)(j:Nat)(h:j<s.size):Bx q s j=if q (BV s j) then Bx q s (j+1)+1 else 0:=by
 unfold Bx;rw[SV s j h];rfl
theorem Adz(s:ByteArray)(i n:Nat):(s.extract i (i+n)).data.toList=cut s i n:=by
 unfold cut;rw[ByteArray.data_extract,Array.toList_extract,List.extract_eq_take_drop,Nat.add_sub_cancel_left]
theorem Nf(q:UInt8->Bool)(s:ByteArray)(i:Nat)(h:i<=s.size):i+Bx q s i<=s.size:=by
 have:=OC q (s.data.toList.drop i);rw[List.length_drop,Array.length_toList]at this;have e:s.data.size=s.size:=rfl;unfold Bx;omega
def AbG:List Bool->Nat
 |false::_=>0
 |true::r=>AbG r+1
 |[]=>0
theorem JO{P:Program}{md:Region.Mode}{QX:Exit->Act->World->Prop}{Q:Array Bool->(Nat->Prop)->Act->World->Prop}{l:List Oper}{i:Nat}{oi:Oper}{v:Value}{fuel:Nat}{listed:List Bool}{F:Nat->Prop}{a:Act}{w:World}(_:AbG listed=i)(hi:Yb l i=some oi)
  (hs:Region.noSelect l.toArray=true) (hf:Region.free md l.toArray listed.toArray i=true) (hr:(Region.ready md l.toArray listed.toArray).contains i=true)
  (hQ:∀ c a w,QX (.panic c) (a.put oi.dst v) w->QX (.panic c) a w) (hF:∀ k,F k->k<w.heap.size) (hy:YieldsIf P l.toArray (Jmp F w) oi v a)
  (h:wpJ P md l.toArray QX Q fuel (listed.toArray.setIfInBounds i true) F (a.put oi.dst v) w):wpJ P md l.toArray QX Q (fuel+1) listed.toArray F a w:=
 AcH hi hs hf hr hQ hF hy h
set_option maxRecDepth 100000 in
set_option maxHeartbeats 4000000 in
theorem Sv(fn:Nat)(q:UInt8->Bool)(hE:WQ π fn)(hq:∀(c:UInt8) (b:Int) (w:World),b=(c.toNat:Int)->Calls π fn #[.int .u8 b] w λe w'=>e=.returned (.bool (q c))/\w=w')(s:ByteArray)(g i:Nat)(p:Nat × Nat)(w:World)(hs:s.size<=20000)(hi:i<=s.size)(hp:Near p i)(hr:Rd w g s i p) :
  Calls π 213 #[.pointer (some ⟨g,0,none⟩),.func (.func fn) #[] #[]] w λe w'=>∃ t:ByteArray,e=.returned (.string t)/\t.data.toList=cut s i (Bx q s i)/\Rd w' g s (i+Bx q s i) (CR s i p (Bx q s i))/\w.grownBy w' (some g):=by
 have HR:=θ hr;have HP:=θ hp;obtain⟨c0,c1,_⟩:=hr.cells;have l0:g<w.heap.size:=BQ c0;clear hr hp
 go_enter Tryz.func213,Tryz.ntmps213
 go_wp2_with fail
 clear c0 c1 l0
 go_loopw [10] (λ_ wr=>∃ n:Nat,i+n<=s.size/\n+Bx q s (i+n)=Bx q s i/\Rd wr g s (i+n) (CR s i p n)/\w.grownBy wr (some g)) (λ_ wr=>s.size-P5 g wr)
 case atStart=>exact⟨0,hi,by simp,by simpa[CR,adv]using HR.out,A2 (Below.refl _ _)⟩
 case round=>
  obtain⟨n,hn,hgap,hrd,hgr⟩:=hrel;have HRT:=θ (Dp hrd);obtain⟨c0,c1,_⟩:=hrd.cells;have HRD:=θ hrd;have HGR:=θ hgr;have HGAP:=θ hgap;have HPN:=θ (FY s i n p HP.out hn);have HC:=θ (show ∀ W',Below wr.heap.size wr W'->W'.cell? ⟨g,0,none⟩=some (.string s)/\W'.cell? ⟨g,1,none⟩=some (.int .i64 ((i+n:Nat):Int)) from λW' h=>⟨(h.cell (p:=⟨g,0,none⟩) (BQ c0)).trans c0,(h.cell (p:=⟨g,1,none⟩) (BQ c1)).trans c1⟩);clear hrd hgr hgap c0 c1;generalize hj:i+n=j at *;have HIN:=θ hj;clear hj
  by_cases hlt:j<s.size
  .have q0:(0:Int)<=(j:Int):=by omega
   have q1:(j:Int)<(s.size:Int):=by omega
   have q2:decide (j<s.size)=true:=by simpa using hlt
   have HV:=θ (Ht s j hlt);have HA:=θ (Sf q s j hlt);rcases ht:q (BV s j) with _|_
   .have HT:=θ ht
    have HG:=θ (show Bx q s j=0 by rw[HA.out,ht];rfl);clear ht
    go_wp2_with fail
    refine Gd (L:=#[Θ,Θ,Θ,Θ,Θ,Θ,Θ,Θ,Θ,Θ,Θ,Θ,Θ,Θ,Θ,Θ,Θ,Θ,Θ,Θ,Θ,Θ,true]) 22 (by kernel_rfl) (by kernel_rfl) (by kernel_rfl) ?_;have hF0:∀ k,Lt wr.drew.heap.size k->k<wr.drew.heap.size:=λ_ h=>h
    iterate 21
     refine JO rfl (v:=?_) rfl (by kernel_rfl) (by kernel_rfl) (by kernel_rfl) (λ_ _ _ h=>h) hF0 (Or.inl ⟨by rfl,?_⟩) ?_
     rotate_left
     focus
      intro W' hj;obtain⟨y0,y1⟩:=HC.out _ (Jmp.low hj);clear hj
      go_simp
      try with_reducible rfl
     simp only[AbG,Act.put,AwH,Aw7,Aw6]
    refine Sw (i:=21) (by kernel_rfl) rfl λv21 j21 K21 k21=>?_
    go_wp2_with fail
    unfold WQ at hE;rw[hE,Oper.upon_enter];refine(hq (BV s j) ((s[j]'hlt).toNat:Int) v21 (by rw[HV.out])).mono ?_;rw[HT.out];rintro e21 w21 ⟨rfl,rfl⟩;have b21:=Below.refl v21.heap.size v21
    go_wp2_with fail
    refine k21.out _ _ b21 ?_;clear k21;have hF22:=XI (j21.grow hF0) b21.size;refine Uc (by kernel_rfl) (λwz jz=>?_) _;have hlow:=Jmp.low (j21.back hF0 b21 jz);have HZ:=θ hlow;clear hlow jz;refine⟨by kernel_rfl,?_⟩
    try simp only[Act.put,AwH,Aw7,Aw6]
    simp only[AxY,κ]
    go_wp2_with fail
    have hk:=Blk.call HRD.out HZ.out;have c3:=hk.cell 0;have c4:=hk.cell 1;simp only[Awt,Awm,Awa]at c3 c4;have l3:g<wz.heap.size:=BQ c3;clear hk;have z0:(i:Int)<=(j:Int):=by have:=HIN.out;omega
    have z1:(j:Int)<=(s.size:Int):=by have:=HIN.out;omega
    have z2:i<=j:=by omega
    refine AZ (by kernel_rfl) (by kernel_rfl) ?_
    repeat (go_big_quiet_step (fail))
    refine wpQuiet_nil ?_;rintro _ ⟨y,rfl⟩
    go_wp2
    go_ret
    have hj:=HIN.out;subst hj;have hz:n=Bx q s i:=by have:=HGAP.out;rw[HG.out]at this;omega
    refine⟨_,rfl,?_,?_,Bl HGR.out (A2 (Bb HZ.out (Bi _ _)))⟩
    .rw[←hz]
     exact Adz s i n
    .rw[←hz]
     exact Blk.call HRD.out (Bb HZ.out (Bi _ _))
   .have HT:=θ ht
    have HG:=θ (show Bx q s j=Bx q s (j+1)+1 by rw[HA.out,ht];rfl);clear ht
    go_wp2_with fail
    refine Gd (L:=#[Θ,Θ,Θ,Θ,Θ,Θ,Θ,Θ,Θ,Θ,Θ,Θ,Θ,Θ,Θ,Θ,Θ,Θ,Θ,Θ,Θ,Θ,true]) 22 (by kernel_rfl) (by kernel_rfl) (by kernel_rfl) ?_;have hF0:∀ k,Lt wr.drew.heap.size k->k<wr.drew.heap.size:=λ_ h=>h
    iterate 21
     refine JO rfl (v:=?_) rfl (by kernel_rfl) (by kernel_rfl) (by kernel_rfl) (λ_ _ _ h=>h) hF0 (Or.inl ⟨by rfl,?_⟩) ?_
     rotate_left
     focus
      intro W' hj;obtain⟨y0,y1⟩:=HC.out _ (Jmp.low hj);clear hj
      go_simp
      try with_reducible rfl
     simp only[AbG,Act.put,AwH,Aw7,Aw6]
    refine Sw (i:=21) (by kernel_rfl) rfl λv21 j21 K21 k21=>?_
    go_wp2_with fail
    unfold WQ at hE;rw[hE,Oper.upon_enter];refine(hq (BV s j) ((s[j]'hlt).toNat:Int) v21 (by rw[HV.out])).mono ?_;rw[HT.out];rintro e21 w21 ⟨rfl,rfl⟩;have b21:=Below.refl v21.heap.size v21
    go_wp2_with fail
    refine k21.out _ _ b21 ?_;clear k21;have hF22:=XI (j21.grow hF0) b21.size;refine Uc (by kernel_rfl) (λwz jz=>?_) _;have hlow:=Jmp.low (j21.back hF0 b21 jz);have HZ:=θ hlow;clear hlow jz;refine⟨by kernel_rfl,?_⟩
    try simp only[Act.put,AwH,Aw7,Aw6]
    simp only[AxY,κ]
    go_wp2_with fail
    refine(Fb s g _ _ wz (by omega) hlt (HPN.out.small (by omega)) (Blk.call HRD.out HZ.out)).mono ?_;rintro e2 w2 ⟨rfl,hrd2,hg2⟩;have HRD2:=θ hrd2;have HG2:=θ hg2;clear hrd2 hg2
    go_wp2_with fail
    go_roundw
    case rel=>
     have hj:=HIN.out;subst hj;refine⟨n+1,by omega,?_,?_,Bl (Bl HGR.out (A2 HZ.out)) HG2.out⟩
     .have h1:=HGAP.out
      rw[HG.out]at h1;rw[←AvQ i n 1];omega
     .have h1:=HRD2.out
      rw[D1 s i n p hlt,AvQ]at h1;exact h1
    case measure=>
     rw[HRT.out,Dp HRD2.out];omega
  .have he:j=s.size:=by omega
   have q2:decide (j<s.size)=Θ:=by simpa using hlt
   have q1:¬ (j:Int)<(s.size:Int):=by omega
   have HG:=θ (show Bx q s j=0 by rw[he];exact Yx q s);clear he
   go_wp2_with fail
   refine Gd (L:=#[Θ,Θ,Θ,Θ,Θ,Θ,Θ,Θ,Θ,Θ,Θ,Θ,Θ,Θ,Θ,Θ,Θ,Θ,Θ,Θ,Θ,Θ,true]) 22 (by kernel_rfl) (by kernel_rfl) (by kernel_rfl) ?_;have hF0:∀ k,Lt wr.drew.heap.size k->k<wr.drew.heap.size:=λ_ h=>h
   iterate 11
    refine JO rfl (v:=?_) rfl (by kernel_rfl) (by kernel_rfl) (by kernel_rfl) (λ_ _ _ h=>h) hF0 (Or.inl ⟨by rfl,?_⟩) ?_
    rotate_left
    focus
     intro W' hj;obtain⟨y0,y1⟩:=HC.out _ (Jmp.low hj);clear hj
     go_simp
     try with_reducible rfl
    simp only[AbG,Act.put,AwH,Aw7,Aw6]
   iterate 11
    refine JO rfl (v:=undef) rfl (by kernel_rfl) (by kernel_rfl) (by kernel_rfl) (λ_ _ _ h=>h) hF0 (Or.inr ⟨by rfl,rfl⟩) ?_;simp only[AbG,Act.put,AwH,Aw7,Aw6]
   refine Uc (by kernel_rfl) (λwz jz=>?_) _;have hlow:=Jmp.low jz;have HZ:=θ hlow;clear hlow jz;refine⟨by kernel_rfl,?_⟩
   try simp only[Act.put,AwH,Aw7,Aw6]
   simp only[AxY,κ]
   go_wp2_with fail
   have hk:=Blk.call HRD.out HZ.out;have c3:=hk.cell 0;have c4:=hk.cell 1;simp only[Awt,Awm,Awa]at c3 c4;have l3:g<wz.heap.size:=BQ c3;clear hk;have z0:(i:Int)<=(j:Int):=by have:=HIN.out;omega
   have z1:(j:Int)<=(s.size:Int):=by have:=HIN.out;omega
   have z2:i<=j:=by omega
   refine AZ (by kernel_rfl) (by kernel_rfl) ?_
   repeat (go_big_quiet_step (fail))
   refine wpQuiet_nil ?_;rintro _ ⟨y,rfl⟩
   go_wp2
   go_ret
   have hj:=HIN.out;subst hj;have hz:n=Bx q s i:=by have:=HGAP.out;rw[HG.out]at this;omega
   refine⟨_,rfl,?_,?_,Bl HGR.out (A2 (Bb HZ.out (Bi _ _)))⟩
   .rw[←hz]
    exact Adz s i n
   .rw[←hz]
    exact Blk.call HRD.out (Bb HZ.out (Bi _ _))
theorem WE(s:ByteArray)(g i:Nat)(p:Nat × Nat)(w:World)(hs:s.size<=20000)(hi:i<=s.size)(hp:Near p i)(hr:Rd w g s i p) :
  Calls π 213 #[.pointer (some ⟨g,0,none⟩),.func (.func 214) #[] #[]] w λe w'=>∃ t:ByteArray,e=.returned (.string t)/\t.data.toList=cut s i (Bx Eh s i)/\Rd w' g s (i+Bx Eh s i) (CR s i p (Bx Eh s i))/\w.grownBy w' (some g):=Sv _ _ (enters_of Tryz.func214 rfl rfl) MU s g i p w hs hi hp hr
theorem Jt(s:ByteArray)(g i:Nat)(p:Nat × Nat)(w:World)(hs:s.size<=20000)(hi:i<=s.size)(hp:Near p i)(hr:Rd w g s i p) :
  Calls π 213 #[.pointer (some ⟨g,0,none⟩),.func (.func 215) #[] #[]] w λe w'=>∃ t:ByteArray,e=.returned (.string t)/\t.data.toList=cut s i (Bx B9 s i)/\Rd w' g s (i+Bx B9 s i) (CR s i p (Bx B9 s i))/\w.grownBy w' (some g):=Sv _ _ (enters_of Tryz.func215 rfl rfl) GX s g i p w hs hi hp hr
