/- Layer 10: bytes are take -/
import Derived.Test.YtlmhajfbpplpoaaGreatKAT
set_option linter.all false
open Bool renaming false->Θ
open List renaming drop_succ_cons->Aya,drop_zero->κ,getElem?_cons_succ->AwW,getElem?_cons_zero->Axa,getElem?_toArray->Axk,setIfInBounds_toArray->Axv,set_cons_succ->AxQ,set_cons_zero->AxR
open Nat renaming add_assoc->AwA
namespace Go.Proofs.YtlmhajfbpplpoaaGreat
open Lib renaming hid->ξ
open Tryz renaming prog->ε
open Go.RowKit
def cut(s:ByteArray)(i n:Nat):List UInt8:=(s.data.toList.drop i).take n
def Bw(p:UInt8->Bool)(s:ByteArray)(i:Nat):Nat:=DD p (s.data.toList.drop i)
theorem ZZ(q:UInt8->Bool)(s:ByteArray):Bw q s s.size=0:=by
 unfold Bw;rw[List.drop_of_length_le (by simp)];rfl
theorem Tx(q:UInt8->Bool)(s:ByteArray)(j:Nat)(h:j<s.size):Bw q s j=if q (CO s j) then Bw q s (j+1)+1 else 0:=by
 unfold Bw;rw[Ui s j h];rfl
theorem AeW(s:ByteArray)(i n:Nat):(s.extract i (i+n)).data.toList=cut s i n:=by
 unfold cut;rw[ByteArray.data_extract,Array.toList_extract,List.extract_eq_take_drop,Nat.add_sub_cancel_left]
theorem Ok(q:UInt8->Bool)(s:ByteArray)(i:Nat)(h:i<=s.size):i+Bw q s i<=s.size:=by
 have:=PP q (s.data.toList.drop i);rw[List.length_drop,Array.length_toList]at this;have e:s.data.size=s.size:=rfl;unfold Bw;omega
def Adl:List Bool->Nat
 |false::_=>0
 |true::r=>Adl r+1
 |[]=>0
theorem La{P:Program}{md:Region.Mode}{QX:Exit->Act->World->Prop}{Q:Array Bool->(Nat->Prop)->Act->World->Prop}{l:List Oper}{i:Nat}{oi:Oper}{v:Value}{fuel:Nat}{listed:List Bool}{F:Nat->Prop}{a:Act}{w:World}(_:Adl listed=i)(hi:ZE l i=some oi)
  (hs:Region.noSelect l.toArray=true) (hf:Region.free md l.toArray listed.toArray i=true) (hr:(Region.ready md l.toArray listed.toArray).contains i=true)
  (hQ:∀ c a w,QX (.panic c) (a.put oi.dst v) w->QX (.panic c) a w) (hF:∀ k,F k->k<w.heap.size) (hy:YieldsIf P l.toArray (Jmp F w) oi v a)
  (h:wpJ P md l.toArray QX Q fuel (listed.toArray.setIfInBounds i true) F (a.put oi.dst v) w):wpJ P md l.toArray QX Q (fuel+1) listed.toArray F a w:=
 Aeb hi hs hf hr hQ hF hy h
set_option maxRecDepth 100000 in
set_option maxHeartbeats 4000000 in
theorem TQ(fn:Nat)(q:UInt8->Bool)(hE:Yd ε fn)(hq:∀(c:UInt8) (b:Int) (w:World),b=(c.toNat:Int)->Calls ε fn #[.int .u8 b] w λe w'=>e=.returned (.bool (q c))/\w=w')(s:ByteArray)(g i:Nat)(p:Nat × Nat)(w:World)(hs:s.size<=20000)(hi:i<=s.size)(hp:Near p i)(hr:Rd w g s i p) :
  Calls ε 213 #[.pointer (some ⟨g,0,none⟩),.func (.func fn) #[] #[]] w λe w'=>∃ t:ByteArray,e=.returned (.string t)/\t.data.toList=cut s i (Bw q s i)/\Rd w' g s (i+Bw q s i) (Da s i p (Bw q s i))/\w.grownBy w' (some g):=by
 have HR:=ξ hr;have HP:=ξ hp;obtain⟨c0,c1,_⟩:=hr.cells;have l0:g<w.heap.size:=BP c0;clear hr hp
 go_enter Tryz.func213,Tryz.ntmps213
 go_wp2_with fail
 clear c0 c1 l0
 go_loopw [10] (λ_ wr=>∃ n:Nat,i+n<=s.size/\n+Bw q s (i+n)=Bw q s i/\Rd wr g s (i+n) (Da s i p n)/\w.grownBy wr (some g)) (λ_ wr=>s.size-Rc g wr)
 case atStart=>exact⟨0,hi,by simp,by simpa[Da,adv]using HR.out,A1 (Below.refl _ _)⟩
 case round=>
  obtain⟨n,hn,hgap,hrd,hgr⟩:=hrel;have HRT:=ξ (DL hrd);obtain⟨c0,c1,_⟩:=hrd.cells;have HRD:=ξ hrd;have HGR:=ξ hgr;have HGAP:=ξ hgap;have HPN:=ξ (GG s i n p HP.out hn);have HC:=ξ (show ∀ W',Below wr.heap.size wr W'->W'.cell? ⟨g,0,none⟩=some (.string s)/\W'.cell? ⟨g,1,none⟩=some (.int .i64 ((i+n:Nat):Int)) from λW' h=>⟨(h.cell (p:=⟨g,0,none⟩) (BP c0)).trans c0,(h.cell (p:=⟨g,1,none⟩) (BP c1)).trans c1⟩);clear hrd hgr hgap c0 c1;generalize hj:i+n=j at *;have HIN:=ξ hj;clear hj
  by_cases hlt:j<s.size
  .have q0:(0:Int)<=(j:Int):=by omega
   have q1:(j:Int)<(s.size:Int):=by omega
   have q2:decide (j<s.size)=true:=by simpa using hlt
   have HV:=ξ (NI s j hlt);have HA:=ξ (Tx q s j hlt);rcases ht:q (CO s j) with _|_
   .have HT:=ξ ht
    have HG:=ξ (show Bw q s j=0 by rw[HA.out,ht];rfl);clear ht
    go_wp2_with fail
    refine GS (L:=#[Θ,Θ,Θ,Θ,Θ,Θ,Θ,Θ,Θ,Θ,Θ,Θ,Θ,Θ,Θ,Θ,Θ,Θ,Θ,Θ,Θ,Θ,true]) 22 (by kernel_rfl) (by kernel_rfl) (by kernel_rfl) ?_;have hF0:∀ k,Lt wr.drew.heap.size k->k<wr.drew.heap.size:=λ_ h=>h
    iterate 21
     refine La rfl (v:=?_) rfl (by kernel_rfl) (by kernel_rfl) (by kernel_rfl) (λ_ _ _ h=>h) hF0 (Or.inl ⟨by rfl,?_⟩) ?_
     rotate_left
     focus
      intro W' hj;obtain⟨y0,y1⟩:=HC.out _ (Jmp.low hj);clear hj
      go_simp
      try with_reducible rfl
     simp only[Adl,Act.put,Axv,AxR,AxQ]
    refine TR (i:=21) (by kernel_rfl) rfl λv21 j21 K21 k21=>?_
    go_wp2_with fail
    unfold Yd at hE;rw[hE,Oper.upon_enter];refine(hq (CO s j) ((s[j]'hlt).toNat:Int) v21 (by rw[HV.out])).mono ?_;rw[HT.out];rintro e21 w21 ⟨rfl,rfl⟩;have b21:=Below.refl v21.heap.size v21
    go_wp2_with fail
    refine k21.out _ _ b21 ?_;clear k21;have hF22:=Y3 (j21.grow hF0) b21.size;refine Vs (by kernel_rfl) (λwz jz=>?_) _;have hlow:=Jmp.low (j21.back hF0 b21 jz);have HZ:=ξ hlow;clear hlow jz;refine⟨by kernel_rfl,?_⟩
    try simp only[Act.put,Axv,AxR,AxQ]
    simp only[Aya,κ]
    go_wp2_with fail
    have hk:=Blk.call HRD.out HZ.out;have c3:=hk.cell 0;have c4:=hk.cell 1;simp only[Axk,Axa,AwW]at c3 c4;have l3:g<wz.heap.size:=BP c3;clear hk;have z0:(i:Int)<=(j:Int):=by have:=HIN.out;omega
    have z1:(j:Int)<=(s.size:Int):=by have:=HIN.out;omega
    have z2:i<=j:=by omega
    refine AZ (by kernel_rfl) (by kernel_rfl) ?_
    repeat (go_big_quiet_step (fail))
    refine wpQuiet_nil ?_;rintro _ ⟨y,rfl⟩
    go_wp2
    go_ret
    have hj:=HIN.out;subst hj;have hz:n=Bw q s i:=by have:=HGAP.out;rw[HG.out]at this;omega
    refine⟨_,rfl,?_,?_,Bj HGR.out (A1 (A6 HZ.out (Bg _ _)))⟩
    .rw[←hz]
     exact AeW s i n
    .rw[←hz]
     exact Blk.call HRD.out (A6 HZ.out (Bg _ _))
   .have HT:=ξ ht
    have HG:=ξ (show Bw q s j=Bw q s (j+1)+1 by rw[HA.out,ht];rfl);clear ht
    go_wp2_with fail
    refine GS (L:=#[Θ,Θ,Θ,Θ,Θ,Θ,Θ,Θ,Θ,Θ,Θ,Θ,Θ,Θ,Θ,Θ,Θ,Θ,Θ,Θ,Θ,Θ,true]) 22 (by kernel_rfl) (by kernel_rfl) (by kernel_rfl) ?_;have hF0:∀ k,Lt wr.drew.heap.size k->k<wr.drew.heap.size:=λ_ h=>h
    iterate 21
     refine La rfl (v:=?_) rfl (by kernel_rfl) (by kernel_rfl) (by kernel_rfl) (λ_ _ _ h=>h) hF0 (Or.inl ⟨by rfl,?_⟩) ?_
     rotate_left
     focus
      intro W' hj;obtain⟨y0,y1⟩:=HC.out _ (Jmp.low hj);clear hj
      go_simp
      try with_reducible rfl
     simp only[Adl,Act.put,Axv,AxR,AxQ]
    refine TR (i:=21) (by kernel_rfl) rfl λv21 j21 K21 k21=>?_
    go_wp2_with fail
    unfold Yd at hE;rw[hE,Oper.upon_enter];refine(hq (CO s j) ((s[j]'hlt).toNat:Int) v21 (by rw[HV.out])).mono ?_;rw[HT.out];rintro e21 w21 ⟨rfl,rfl⟩;have b21:=Below.refl v21.heap.size v21
    go_wp2_with fail
    refine k21.out _ _ b21 ?_;clear k21;have hF22:=Y3 (j21.grow hF0) b21.size;refine Vs (by kernel_rfl) (λwz jz=>?_) _;have hlow:=Jmp.low (j21.back hF0 b21 jz);have HZ:=ξ hlow;clear hlow jz;refine⟨by kernel_rfl,?_⟩
    try simp only[Act.put,Axv,AxR,AxQ]
    simp only[Aya,κ]
    go_wp2_with fail
    refine(FQ s g _ _ wz (by omega) hlt (HPN.out.small (by omega)) (Blk.call HRD.out HZ.out)).mono ?_;rintro e2 w2 ⟨rfl,hrd2,hg2⟩;have HRD2:=ξ hrd2;have HG2:=ξ hg2;clear hrd2 hg2
    go_wp2_with fail
    go_roundw
    case rel=>
     have hj:=HIN.out;subst hj;refine⟨n+1,by omega,?_,?_,Bj (Bj HGR.out (A1 HZ.out)) HG2.out⟩
     .have h1:=HGAP.out
      rw[HG.out]at h1;rw[←AwA i n 1];omega
     .have h1:=HRD2.out
      rw[Ew s i n p hlt,AwA]at h1;exact h1
    case measure=>
     rw[HRT.out,DL HRD2.out];omega
  .have he:j=s.size:=by omega
   have q2:decide (j<s.size)=Θ:=by simpa using hlt
   have q1:¬ (j:Int)<(s.size:Int):=by omega
   have HG:=ξ (show Bw q s j=0 by rw[he];exact ZZ q s);clear he
   go_wp2_with fail
   refine GS (L:=#[Θ,Θ,Θ,Θ,Θ,Θ,Θ,Θ,Θ,Θ,Θ,Θ,Θ,Θ,Θ,Θ,Θ,Θ,Θ,Θ,Θ,Θ,true]) 22 (by kernel_rfl) (by kernel_rfl) (by kernel_rfl) ?_;have hF0:∀ k,Lt wr.drew.heap.size k->k<wr.drew.heap.size:=λ_ h=>h
   iterate 11
    refine La rfl (v:=?_) rfl (by kernel_rfl) (by kernel_rfl) (by kernel_rfl) (λ_ _ _ h=>h) hF0 (Or.inl ⟨by rfl,?_⟩) ?_
    rotate_left
    focus
     intro W' hj;obtain⟨y0,y1⟩:=HC.out _ (Jmp.low hj);clear hj
     go_simp
     try with_reducible rfl
    simp only[Adl,Act.put,Axv,AxR,AxQ]
   iterate 11
    refine La rfl (v:=undef) rfl (by kernel_rfl) (by kernel_rfl) (by kernel_rfl) (λ_ _ _ h=>h) hF0 (Or.inr ⟨by rfl,rfl⟩) ?_;simp only[Adl,Act.put,Axv,AxR,AxQ]
   refine Vs (by kernel_rfl) (λwz jz=>?_) _;have hlow:=Jmp.low jz;have HZ:=ξ hlow;clear hlow jz;refine⟨by kernel_rfl,?_⟩
   try simp only[Act.put,Axv,AxR,AxQ]
   simp only[Aya,κ]
   go_wp2_with fail
   have hk:=Blk.call HRD.out HZ.out;have c3:=hk.cell 0;have c4:=hk.cell 1;simp only[Axk,Axa,AwW]at c3 c4;have l3:g<wz.heap.size:=BP c3;clear hk;have z0:(i:Int)<=(j:Int):=by have:=HIN.out;omega
   have z1:(j:Int)<=(s.size:Int):=by have:=HIN.out;omega
   have z2:i<=j:=by omega
   refine AZ (by kernel_rfl) (by kernel_rfl) ?_
   repeat (go_big_quiet_step (fail))
   refine wpQuiet_nil ?_;rintro _ ⟨y,rfl⟩
   go_wp2
   go_ret
   have hj:=HIN.out;subst hj;have hz:n=Bw q s i:=by have:=HGAP.out;rw[HG.out]at this;omega
   refine⟨_,rfl,?_,?_,Bj HGR.out (A1 (A6 HZ.out (Bg _ _)))⟩
   .rw[←hz]
    exact AeW s i n
   .rw[←hz]
    exact Blk.call HRD.out (A6 HZ.out (Bg _ _))
theorem X2(s:ByteArray)(g i:Nat)(p:Nat × Nat)(w:World)(hs:s.size<=20000)(hi:i<=s.size)(hp:Near p i)(hr:Rd w g s i p) :
  Calls ε 213 #[.pointer (some ⟨g,0,none⟩),.func (.func 214) #[] #[]] w λe w'=>∃ t:ByteArray,e=.returned (.string t)/\t.data.toList=cut s i (Bw EL s i)/\Rd w' g s (i+Bw EL s i) (Da s i p (Bw EL s i))/\w.grownBy w' (some g):=TQ _ _ (enters_of Tryz.func214 rfl rfl) N0 s g i p w hs hi hp hr
theorem KF(s:ByteArray)(g i:Nat)(p:Nat × Nat)(w:World)(hs:s.size<=20000)(hi:i<=s.size)(hp:Near p i)(hr:Rd w g s i p) :
  Calls ε 213 #[.pointer (some ⟨g,0,none⟩),.func (.func 215) #[] #[]] w λe w'=>∃ t:ByteArray,e=.returned (.string t)/\t.data.toList=cut s i (Bw BE s i)/\Rd w' g s (i+Bw BE s i) (Da s i p (Bw BE s i))/\w.grownBy w' (some g):=TQ _ _ (enters_of Tryz.func215 rfl rfl) H8 s g i p w hs hi hp hr
