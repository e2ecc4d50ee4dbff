/- Layer 10: bytes are taken as long as they may be a -/
import Derived.Test.YtlmhajfbpplpoaaGreatOBT
set_option linter.all false
open List renaming drop_succ_cons->ArL,drop_zero->ApD,getElem?_cons_succ->Ap5,getElem?_cons_zero->Aqi,getElem?_toArray->AqA,setIfInBounds_toArray->Apz,set_cons_succ->ApB,set_cons_zero->ApC
open Nat renaming add_assoc->ApP
namespace Go.Proofs.YtlmhajfbpplpoaaGreat
open Go.RowKit
def cut(s:ByteArray)(i n:Nat):List UInt8:=(s.data.toList.drop i).take n
def Bt(p:UInt8->Bool)(s:ByteArray)(i:Nat):Nat:=Gs p (s.data.toList.drop i)
theorem Vy(q:UInt8->Bool)(s:ByteArray):Bt q s s.size=0:=by
 unfold Bt;rw[List.drop_of_length_le (by simp)];rfl
theorem Qd(q:UInt8->Bool)(s:ByteArray)(j:Nat)(h:j<s.size):Bt q s j=if q (Cr s j) then Bt q s (j+1)+1 else 0:=by
 unfold Bt;rw[QY s j h];rfl
theorem ZM(s:ByteArray)(i n:Nat):(s.extract i (i+n)).data.toList=cut s i n:=by
 unfold cut;rw[ByteArray.data_extract,Array.toList_extract,List.extract_eq_take_drop,Nat.add_sub_cancel_left]
theorem LG(q:UInt8->Bool)(s:ByteArray)(i:Nat)(h:i<=s.size):i+Bt q s i<=s.size:=by
 have:=M4 q (s.data.toList.drop i);rw[List.length_drop,Array.length_toList]at this;have e:s.data.size=s.size:=rfl;unfold Bt;omega
set_option maxRecDepth 100000 in
set_option maxHeartbeats 4000000 in
theorem Qv(fn:Nat)(q:UInt8->Bool)(hE:Ub Tryz.prog fn)(hq:∀(c:UInt8) (b:Int) (w:World),b=(c.toNat:Int)->Calls Tryz.prog fn #[.int .u8 b] w λe w'=>e=.returned (.bool (q c))/\w=w')(s:ByteArray)(g i:Nat)(p:Nat × Nat)(w:World)(hs:s.size<=20000)(hi:i<=s.size)(hp:Near p i)(hr:Rd w g s i p) :
  Calls Tryz.prog 213 #[.pointer (some ⟨g,0,none⟩),.func (.func fn) #[] #[]] w λe w'=>∃ t:ByteArray,e=.returned (.string t)/\t.data.toList=cut s i (Bt q s i)/\Rd w' g s (i+Bt q s i) (CF s i p (Bt q s i))/\w.grownBy w' (some g):=by
 have HR:=Lib.hid hr;have HP:=Lib.hid hp;obtain⟨c0,c1,_⟩:=hr.cells;have l0:g<w.heap.size:=BE c0;clear hr hp
 go_enter Tryz.func213,Tryz.ntmps213
 go_wp2_with fail
 clear c0 c1 l0
 go_loopw [10] (λ_ wr=>∃ n:Nat,i+n<=s.size/\n+Bt q s (i+n)=Bt q s i/\Rd wr g s (i+n) (CF s i p n)/\w.grownBy wr (some g)) (λ_ wr=>s.size-On g wr)
 case atStart=>exact⟨0,hi,by simp,by simpa[CF,adv]using HR.out,A2 (Below.refl _ _)⟩
 case round=>
  obtain⟨n,hn,hgap,hrd,hgr⟩:=hrel;have HRT:=Lib.hid (C4 hrd);obtain⟨c0,c1,_⟩:=hrd.cells;have HRD:=Lib.hid hrd;have HGR:=Lib.hid hgr;have HGAP:=Lib.hid hgap;have HPN:=Lib.hid (Fd s i n p HP.out hn);have HC:=Lib.hid (show ∀ W',Below wr.heap.size wr W'->W'.cell? ⟨g,0,none⟩=some (.string s)/\W'.cell? ⟨g,1,none⟩=some (.int .i64 ((i+n:Nat):Int)) from λW' h=>⟨(h.cell (p:=⟨g,0,none⟩) (BE c0)).trans c0,(h.cell (p:=⟨g,1,none⟩) (BE c1)).trans c1⟩);clear hrd hgr hgap c0 c1;generalize hj:i+n=j at *;have HIN:=Lib.hid hj;clear hj
  by_cases hlt:j<s.size
  .have q0:(0:Int)<=(j:Int):=by omega
   have q1:(j:Int)<(s.size:Int):=by omega
   have q2:decide (j<s.size)=true:=by simpa using hlt
   have HV:=Lib.hid (KW s j hlt);have HA:=Lib.hid (Qd q s j hlt);rcases ht:q (Cr s j) with _|_
   .have HT:=Lib.hid ht
    have HG:=Lib.hid (show Bt q s j=0 by rw[HA.out,ht];rfl);clear ht
    go_wp2_with fail
    refine Fp (L:=#[false,false,false,false,false,false,false,false,false,false,false,false,false,false,false,false,false,false,false,false,false,false,true]) 22 (by kernel_rfl) (by kernel_rfl) (by kernel_rfl) ?_;have hF0:∀ k,Lt wr.drew.heap.size k->k<wr.drew.heap.size:=λ_ h=>h
    refine Ay (i:=0) (v:=?_) rfl (by kernel_rfl) (by kernel_rfl) (by kernel_rfl) (λ_ _ _ h=>h) hF0 (Or.inl ⟨by rfl,?_⟩) ?_
    rotate_left
    focus
     intro W' hj;obtain⟨y0,y1⟩:=HC.out _ (Jmp.low hj);clear hj
     go_simp
     try with_reducible rfl
    simp only[Act.put,Apz,ApC,ApB];refine Ay (i:=1) (v:=?_) rfl (by kernel_rfl) (by kernel_rfl) (by kernel_rfl) (λ_ _ _ h=>h) hF0 (Or.inl ⟨by rfl,?_⟩) ?_
    rotate_left
    focus
     intro W' hj;obtain⟨y0,y1⟩:=HC.out _ (Jmp.low hj);clear hj
     go_simp
     try with_reducible rfl
    simp only[Act.put,Apz,ApC,ApB];refine Ay (i:=2) (v:=?_) rfl (by kernel_rfl) (by kernel_rfl) (by kernel_rfl) (λ_ _ _ h=>h) hF0 (Or.inl ⟨by rfl,?_⟩) ?_
    rotate_left
    focus
     intro W' hj;obtain⟨y0,y1⟩:=HC.out _ (Jmp.low hj);clear hj
     go_simp
     try with_reducible rfl
    simp only[Act.put,Apz,ApC,ApB];refine Ay (i:=3) (v:=?_) rfl (by kernel_rfl) (by kernel_rfl) (by kernel_rfl) (λ_ _ _ h=>h) hF0 (Or.inl ⟨by rfl,?_⟩) ?_
    rotate_left
    focus
     intro W' hj;obtain⟨y0,y1⟩:=HC.out _ (Jmp.low hj);clear hj
     go_simp
     try with_reducible rfl
    simp only[Act.put,Apz,ApC,ApB];refine Ay (i:=4) (v:=?_) rfl (by kernel_rfl) (by kernel_rfl) (by kernel_rfl) (λ_ _ _ h=>h) hF0 (Or.inl ⟨by rfl,?_⟩) ?_
    rotate_left
    focus
     intro W' hj;obtain⟨y0,y1⟩:=HC.out _ (Jmp.low hj);clear hj
     go_simp
     try with_reducible rfl
    simp only[Act.put,Apz,ApC,ApB];refine Ay (i:=5) (v:=?_) rfl (by kernel_rfl) (by kernel_rfl) (by kernel_rfl) (λ_ _ _ h=>h) hF0 (Or.inl ⟨by rfl,?_⟩) ?_
    rotate_left
    focus
     intro W' hj;obtain⟨y0,y1⟩:=HC.out _ (Jmp.low hj);clear hj
     go_simp
     try with_reducible rfl
    simp only[Act.put,Apz,ApC,ApB];refine Ay (i:=6) (v:=?_) rfl (by kernel_rfl) (by kernel_rfl) (by kernel_rfl) (λ_ _ _ h=>h) hF0 (Or.inl ⟨by rfl,?_⟩) ?_
    rotate_left
    focus
     intro W' hj;obtain⟨y0,y1⟩:=HC.out _ (Jmp.low hj);clear hj
     go_simp
     try with_reducible rfl
    simp only[Act.put,Apz,ApC,ApB];refine Ay (i:=7) (v:=?_) rfl (by kernel_rfl) (by kernel_rfl) (by kernel_rfl) (λ_ _ _ h=>h) hF0 (Or.inl ⟨by rfl,?_⟩) ?_
    rotate_left
    focus
     intro W' hj;obtain⟨y0,y1⟩:=HC.out _ (Jmp.low hj);clear hj
     go_simp
     try with_reducible rfl
    simp only[Act.put,Apz,ApC,ApB];refine Ay (i:=8) (v:=?_) rfl (by kernel_rfl) (by kernel_rfl) (by kernel_rfl) (λ_ _ _ h=>h) hF0 (Or.inl ⟨by rfl,?_⟩) ?_
    rotate_left
    focus
     intro W' hj;obtain⟨y0,y1⟩:=HC.out _ (Jmp.low hj);clear hj
     go_simp
     try with_reducible rfl
    simp only[Act.put,Apz,ApC,ApB];refine Ay (i:=9) (v:=?_) rfl (by kernel_rfl) (by kernel_rfl) (by kernel_rfl) (λ_ _ _ h=>h) hF0 (Or.inl ⟨by rfl,?_⟩) ?_
    rotate_left
    focus
     intro W' hj;obtain⟨y0,y1⟩:=HC.out _ (Jmp.low hj);clear hj
     go_simp
     try with_reducible rfl
    simp only[Act.put,Apz,ApC,ApB];refine Ay (i:=10) (v:=?_) rfl (by kernel_rfl) (by kernel_rfl) (by kernel_rfl) (λ_ _ _ h=>h) hF0 (Or.inl ⟨by rfl,?_⟩) ?_
    rotate_left
    focus
     intro W' hj;obtain⟨y0,y1⟩:=HC.out _ (Jmp.low hj);clear hj
     go_simp
     try with_reducible rfl
    simp only[Act.put,Apz,ApC,ApB];refine Ay (i:=11) (v:=?_) rfl (by kernel_rfl) (by kernel_rfl) (by kernel_rfl) (λ_ _ _ h=>h) hF0 (Or.inl ⟨by rfl,?_⟩) ?_
    rotate_left
    focus
     intro W' hj;obtain⟨y0,y1⟩:=HC.out _ (Jmp.low hj);clear hj
     go_simp
     try with_reducible rfl
    simp only[Act.put,Apz,ApC,ApB];refine Ay (i:=12) (v:=?_) rfl (by kernel_rfl) (by kernel_rfl) (by kernel_rfl) (λ_ _ _ h=>h) hF0 (Or.inl ⟨by rfl,?_⟩) ?_
    rotate_left
    focus
     intro W' hj;obtain⟨y0,y1⟩:=HC.out _ (Jmp.low hj);clear hj
     go_simp
     try with_reducible rfl
    simp only[Act.put,Apz,ApC,ApB];refine Ay (i:=13) (v:=?_) rfl (by kernel_rfl) (by kernel_rfl) (by kernel_rfl) (λ_ _ _ h=>h) hF0 (Or.inl ⟨by rfl,?_⟩) ?_
    rotate_left
    focus
     intro W' hj;obtain⟨y0,y1⟩:=HC.out _ (Jmp.low hj);clear hj
     go_simp
     try with_reducible rfl
    simp only[Act.put,Apz,ApC,ApB];refine Ay (i:=14) (v:=?_) rfl (by kernel_rfl) (by kernel_rfl) (by kernel_rfl) (λ_ _ _ h=>h) hF0 (Or.inl ⟨by rfl,?_⟩) ?_
    rotate_left
    focus
     intro W' hj;obtain⟨y0,y1⟩:=HC.out _ (Jmp.low hj);clear hj
     go_simp
     try with_reducible rfl
    simp only[Act.put,Apz,ApC,ApB];refine Ay (i:=15) (v:=?_) rfl (by kernel_rfl) (by kernel_rfl) (by kernel_rfl) (λ_ _ _ h=>h) hF0 (Or.inl ⟨by rfl,?_⟩) ?_
    rotate_left
    focus
     intro W' hj;obtain⟨y0,y1⟩:=HC.out _ (Jmp.low hj);clear hj
     go_simp
     try with_reducible rfl
    simp only[Act.put,Apz,ApC,ApB];refine Ay (i:=16) (v:=?_) rfl (by kernel_rfl) (by kernel_rfl) (by kernel_rfl) (λ_ _ _ h=>h) hF0 (Or.inl ⟨by rfl,?_⟩) ?_
    rotate_left
    focus
     intro W' hj;obtain⟨y0,y1⟩:=HC.out _ (Jmp.low hj);clear hj
     go_simp
     try with_reducible rfl
    simp only[Act.put,Apz,ApC,ApB];refine Ay (i:=17) (v:=?_) rfl (by kernel_rfl) (by kernel_rfl) (by kernel_rfl) (λ_ _ _ h=>h) hF0 (Or.inl ⟨by rfl,?_⟩) ?_
    rotate_left
    focus
     intro W' hj;obtain⟨y0,y1⟩:=HC.out _ (Jmp.low hj);clear hj
     go_simp
     try with_reducible rfl
    simp only[Act.put,Apz,ApC,ApB];refine Ay (i:=18) (v:=?_) rfl (by kernel_rfl) (by kernel_rfl) (by kernel_rfl) (λ_ _ _ h=>h) hF0 (Or.inl ⟨by rfl,?_⟩) ?_
    rotate_left
    focus
     intro W' hj;obtain⟨y0,y1⟩:=HC.out _ (Jmp.low hj);clear hj
     go_simp
     try with_reducible rfl
    simp only[Act.put,Apz,ApC,ApB];refine Ay (i:=19) (v:=?_) rfl (by kernel_rfl) (by kernel_rfl) (by kernel_rfl) (λ_ _ _ h=>h) hF0 (Or.inl ⟨by rfl,?_⟩) ?_
    rotate_left
    focus
     intro W' hj;obtain⟨y0,y1⟩:=HC.out _ (Jmp.low hj);clear hj
     go_simp
     try with_reducible rfl
    simp only[Act.put,Apz,ApC,ApB];refine Ay (i:=20) (v:=?_) rfl (by kernel_rfl) (by kernel_rfl) (by kernel_rfl) (λ_ _ _ h=>h) hF0 (Or.inl ⟨by rfl,?_⟩) ?_
    rotate_left
    focus
     intro W' hj;obtain⟨y0,y1⟩:=HC.out _ (Jmp.low hj);clear hj
     go_simp
     try with_reducible rfl
    simp only[Act.put,Apz,ApC,ApB];refine Qw (i:=21) (by kernel_rfl) rfl λv21 j21 K21 k21=>?_
    go_wp2_with fail
    unfold Ub at hE;rw[hE,Oper.upon_enter];refine(hq (Cr s j) ((s[j]'hlt).toNat:Int) v21 (by rw[HV.out])).mono ?_;rw[HT.out];rintro e21 w21 ⟨rfl,rfl⟩;have b21:=Below.refl v21.heap.size v21
    go_wp2_with fail
    refine k21.out _ _ b21 ?_;clear k21;have hF22:=NN (j21.grow hF0) b21.size;refine RN (by kernel_rfl) (λwz jz=>?_) _;have hlow:=Jmp.low (j21.back hF0 b21 jz);have HZ:=Lib.hid hlow;clear hlow jz;refine⟨by kernel_rfl,?_⟩
    try simp only[Act.put,Apz,ApC,ApB]
    simp only[ArL,ApD]
    go_wp2_with fail
    have hk:=Blk.call HRD.out HZ.out;have c3:=hk.cell 0;have c4:=hk.cell 1;simp only[AqA,Aqi,Ap5]at c3 c4;have l3:g<wz.heap.size:=BE c3;clear hk;have z0:(i:Int)<=(j:Int):=by have:=HIN.out;omega
    have z1:(j:Int)<=(s.size:Int):=by have:=HIN.out;omega
    have z2:i<=j:=by omega
    refine AZ (by kernel_rfl) (by kernel_rfl) ?_
    repeat (go_big_quiet_step (fail))
    refine wpQuiet_nil ?_;rintro _ ⟨y,rfl⟩
    go_wp2
    go_ret
    have hj:=HIN.out;subst hj;have hz:n=Bt q s i:=by have:=HGAP.out;rw[HG.out]at this;omega
    refine⟨_,rfl,?_,?_,Bj HGR.out (A2 (A9 HZ.out (Bc _ _)))⟩
    .rw[←hz]
     exact ZM s i n
    .rw[←hz]
     exact Blk.call HRD.out (A9 HZ.out (Bc _ _))
   .have HT:=Lib.hid ht
    have HG:=Lib.hid (show Bt q s j=Bt q s (j+1)+1 by rw[HA.out,ht];rfl);clear ht
    go_wp2_with fail
    refine Fp (L:=#[false,false,false,false,false,false,false,false,false,false,false,false,false,false,false,false,false,false,false,false,false,false,true]) 22 (by kernel_rfl) (by kernel_rfl) (by kernel_rfl) ?_;have hF0:∀ k,Lt wr.drew.heap.size k->k<wr.drew.heap.size:=λ_ h=>h
    refine Ay (i:=0) (v:=?_) rfl (by kernel_rfl) (by kernel_rfl) (by kernel_rfl) (λ_ _ _ h=>h) hF0 (Or.inl ⟨by rfl,?_⟩) ?_
    rotate_left
    focus
     intro W' hj;obtain⟨y0,y1⟩:=HC.out _ (Jmp.low hj);clear hj
     go_simp
     try with_reducible rfl
    simp only[Act.put,Apz,ApC,ApB];refine Ay (i:=1) (v:=?_) rfl (by kernel_rfl) (by kernel_rfl) (by kernel_rfl) (λ_ _ _ h=>h) hF0 (Or.inl ⟨by rfl,?_⟩) ?_
    rotate_left
    focus
     intro W' hj;obtain⟨y0,y1⟩:=HC.out _ (Jmp.low hj);clear hj
     go_simp
     try with_reducible rfl
    simp only[Act.put,Apz,ApC,ApB];refine Ay (i:=2) (v:=?_) rfl (by kernel_rfl) (by kernel_rfl) (by kernel_rfl) (λ_ _ _ h=>h) hF0 (Or.inl ⟨by rfl,?_⟩) ?_
    rotate_left
    focus
     intro W' hj;obtain⟨y0,y1⟩:=HC.out _ (Jmp.low hj);clear hj
     go_simp
     try with_reducible rfl
    simp only[Act.put,Apz,ApC,ApB];refine Ay (i:=3) (v:=?_) rfl (by kernel_rfl) (by kernel_rfl) (by kernel_rfl) (λ_ _ _ h=>h) hF0 (Or.inl ⟨by rfl,?_⟩) ?_
    rotate_left
    focus
     intro W' hj;obtain⟨y0,y1⟩:=HC.out _ (Jmp.low hj);clear hj
     go_simp
     try with_reducible rfl
    simp only[Act.put,Apz,ApC,ApB];refine Ay (i:=4) (v:=?_) rfl (by kernel_rfl) (by kernel_rfl) (by kernel_rfl) (λ_ _ _ h=>h) hF0 (Or.inl ⟨by rfl,?_⟩) ?_
    rotate_left
    focus
     intro W' hj;obtain⟨y0,y1⟩:=HC.out _ (Jmp.low hj);clear hj
     go_simp
     try with_reducible rfl
    simp only[Act.put,Apz,ApC,ApB];refine Ay (i:=5) (v:=?_) rfl (by kernel_rfl) (by kernel_rfl) (by kernel_rfl) (λ_ _ _ h=>h) hF0 (Or.inl ⟨by rfl,?_⟩) ?_
    rotate_left
    focus
     intro W' hj;obtain⟨y0,y1⟩:=HC.out _ (Jmp.low hj);clear hj
     go_simp
     try with_reducible rfl
    simp only[Act.put,Apz,ApC,ApB];refine Ay (i:=6) (v:=?_) rfl (by kernel_rfl) (by kernel_rfl) (by kernel_rfl) (λ_ _ _ h=>h) hF0 (Or.inl ⟨by rfl,?_⟩) ?_
    rotate_left
    focus
     intro W' hj;obtain⟨y0,y1⟩:=HC.out _ (Jmp.low hj);clear hj
     go_simp
     try with_reducible rfl
    simp only[Act.put,Apz,ApC,ApB];refine Ay (i:=7) (v:=?_) rfl (by kernel_rfl) (by kernel_rfl) (by kernel_rfl) (λ_ _ _ h=>h) hF0 (Or.inl ⟨by rfl,?_⟩) ?_
    rotate_left
    focus
     intro W' hj;obtain⟨y0,y1⟩:=HC.out _ (Jmp.low hj);clear hj
     go_simp
     try with_reducible rfl
    simp only[Act.put,Apz,ApC,ApB];refine Ay (i:=8) (v:=?_) rfl (by kernel_rfl) (by kernel_rfl) (by kernel_rfl) (λ_ _ _ h=>h) hF0 (Or.inl ⟨by rfl,?_⟩) ?_
    rotate_left
    focus
     intro W' hj;obtain⟨y0,y1⟩:=HC.out _ (Jmp.low hj);clear hj
     go_simp
     try with_reducible rfl
    simp only[Act.put,Apz,ApC,ApB];refine Ay (i:=9) (v:=?_) rfl (by kernel_rfl) (by kernel_rfl) (by kernel_rfl) (λ_ _ _ h=>h) hF0 (Or.inl ⟨by rfl,?_⟩) ?_
    rotate_left
    focus
     intro W' hj;obtain⟨y0,y1⟩:=HC.out _ (Jmp.low hj);clear hj
     go_simp
     try with_reducible rfl
    simp only[Act.put,Apz,ApC,ApB];refine Ay (i:=10) (v:=?_) rfl (by kernel_rfl) (by kernel_rfl) (by kernel_rfl) (λ_ _ _ h=>h) hF0 (Or.inl ⟨by rfl,?_⟩) ?_
    rotate_left
    focus
     intro W' hj;obtain⟨y0,y1⟩:=HC.out _ (Jmp.low hj);clear hj
     go_simp
     try with_reducible rfl
    simp only[Act.put,Apz,ApC,ApB];refine Ay (i:=11) (v:=?_) rfl (by kernel_rfl) (by kernel_rfl) (by kernel_rfl) (λ_ _ _ h=>h) hF0 (Or.inl ⟨by rfl,?_⟩) ?_
    rotate_left
    focus
     intro W' hj;obtain⟨y0,y1⟩:=HC.out _ (Jmp.low hj);clear hj
     go_simp
     try with_reducible rfl
    simp only[Act.put,Apz,ApC,ApB];refine Ay (i:=12) (v:=?_) rfl (by kernel_rfl) (by kernel_rfl) (by kernel_rfl) (λ_ _ _ h=>h) hF0 (Or.inl ⟨by rfl,?_⟩) ?_
    rotate_left
    focus
     intro W' hj;obtain⟨y0,y1⟩:=HC.out _ (Jmp.low hj);clear hj
     go_simp
     try with_reducible rfl
    simp only[Act.put,Apz,ApC,ApB];refine Ay (i:=13) (v:=?_) rfl (by kernel_rfl) (by kernel_rfl) (by kernel_rfl) (λ_ _ _ h=>h) hF0 (Or.inl ⟨by rfl,?_⟩) ?_
    rotate_left
    focus
     intro W' hj;obtain⟨y0,y1⟩:=HC.out _ (Jmp.low hj);clear hj
     go_simp
     try with_reducible rfl
    simp only[Act.put,Apz,ApC,ApB];refine Ay (i:=14) (v:=?_) rfl (by kernel_rfl) (by kernel_rfl) (by kernel_rfl) (λ_ _ _ h=>h) hF0 (Or.inl ⟨by rfl,?_⟩) ?_
    rotate_left
    focus
     intro W' hj;obtain⟨y0,y1⟩:=HC.out _ (Jmp.low hj);clear hj
     go_simp
     try with_reducible rfl
    simp only[Act.put,Apz,ApC,ApB];refine Ay (i:=15) (v:=?_) rfl (by kernel_rfl) (by kernel_rfl) (by kernel_rfl) (λ_ _ _ h=>h) hF0 (Or.inl ⟨by rfl,?_⟩) ?_
    rotate_left
    focus
     intro W' hj;obtain⟨y0,y1⟩:=HC.out _ (Jmp.low hj);clear hj
     go_simp
     try with_reducible rfl
    simp only[Act.put,Apz,ApC,ApB];refine Ay (i:=16) (v:=?_) rfl (by kernel_rfl) (by kernel_rfl) (by kernel_rfl) (λ_ _ _ h=>h) hF0 (Or.inl ⟨by rfl,?_⟩) ?_
    rotate_left
    focus
     intro W' hj;obtain⟨y0,y1⟩:=HC.out _ (Jmp.low hj);clear hj
     go_simp
     try with_reducible rfl
    simp only[Act.put,Apz,ApC,ApB];refine Ay (i:=17) (v:=?_) rfl (by kernel_rfl) (by kernel_rfl) (by kernel_rfl) (λ_ _ _ h=>h) hF0 (Or.inl ⟨by rfl,?_⟩) ?_
    rotate_left
    focus
     intro W' hj;obtain⟨y0,y1⟩:=HC.out _ (Jmp.low hj);clear hj
     go_simp
     try with_reducible rfl
    simp only[Act.put,Apz,ApC,ApB];refine Ay (i:=18) (v:=?_) rfl (by kernel_rfl) (by kernel_rfl) (by kernel_rfl) (λ_ _ _ h=>h) hF0 (Or.inl ⟨by rfl,?_⟩) ?_
    rotate_left
    focus
     intro W' hj;obtain⟨y0,y1⟩:=HC.out _ (Jmp.low hj);clear hj
     go_simp
     try with_reducible rfl
    simp only[Act.put,Apz,ApC,ApB];refine Ay (i:=19) (v:=?_) rfl (by kernel_rfl) (by kernel_rfl) (by kernel_rfl) (λ_ _ _ h=>h) hF0 (Or.inl ⟨by rfl,?_⟩) ?_
    rotate_left
    focus
     intro W' hj;obtain⟨y0,y1⟩:=HC.out _ (Jmp.low hj);clear hj
     go_simp
     try with_reducible rfl
    simp only[Act.put,Apz,ApC,ApB];refine Ay (i:=20) (v:=?_) rfl (by kernel_rfl) (by kernel_rfl) (by kernel_rfl) (λ_ _ _ h=>h) hF0 (Or.inl ⟨by rfl,?_⟩) ?_
    rotate_left
    focus
     intro W' hj;obtain⟨y0,y1⟩:=HC.out _ (Jmp.low hj);clear hj
     go_simp
     try with_reducible rfl
    simp only[Act.put,Apz,ApC,ApB];refine Qw (i:=21) (by kernel_rfl) rfl λv21 j21 K21 k21=>?_
    go_wp2_with fail
    unfold Ub at hE;rw[hE,Oper.upon_enter];refine(hq (Cr s j) ((s[j]'hlt).toNat:Int) v21 (by rw[HV.out])).mono ?_;rw[HT.out];rintro e21 w21 ⟨rfl,rfl⟩;have b21:=Below.refl v21.heap.size v21
    go_wp2_with fail
    refine k21.out _ _ b21 ?_;clear k21;have hF22:=NN (j21.grow hF0) b21.size;refine RN (by kernel_rfl) (λwz jz=>?_) _;have hlow:=Jmp.low (j21.back hF0 b21 jz);have HZ:=Lib.hid hlow;clear hlow jz;refine⟨by kernel_rfl,?_⟩
    try simp only[Act.put,Apz,ApC,ApB]
    simp only[ArL,ApD]
    go_wp2_with fail
    refine(ED s g _ _ wz (by omega) hlt (HPN.out.small (by omega)) (Blk.call HRD.out HZ.out)).mono ?_;rintro e2 w2 ⟨rfl,hrd2,hg2⟩;have HRD2:=Lib.hid hrd2;have HG2:=Lib.hid hg2;clear hrd2 hg2
    go_wp2_with fail
    go_roundw
    case rel=>
     have hj:=HIN.out;subst hj;refine⟨n+1,by omega,?_,?_,Bj (Bj HGR.out (A2 HZ.out)) HG2.out⟩
     .have h1:=HGAP.out
      rw[HG.out]at h1;rw[←ApP i n 1];omega
     .have h1:=HRD2.out
      rw[DD s i n p hlt,ApP]at h1;exact h1
    case measure=>
     rw[HRT.out,C4 HRD2.out];omega
  .have he:j=s.size:=by omega
   have q2:decide (j<s.size)=false:=by simpa using hlt
   have q1:¬ (j:Int)<(s.size:Int):=by omega
   have HG:=Lib.hid (show Bt q s j=0 by rw[he];exact Vy q s);clear he
   go_wp2_with fail
   refine Fp (L:=#[false,false,false,false,false,false,false,false,false,false,false,false,false,false,false,false,false,false,false,false,false,false,true]) 22 (by kernel_rfl) (by kernel_rfl) (by kernel_rfl) ?_;have hF0:∀ k,Lt wr.drew.heap.size k->k<wr.drew.heap.size:=λ_ h=>h
   refine Ay (i:=0) (v:=?_) rfl (by kernel_rfl) (by kernel_rfl) (by kernel_rfl) (λ_ _ _ h=>h) hF0 (Or.inl ⟨by rfl,?_⟩) ?_
   rotate_left
   focus
    intro W' hj;obtain⟨y0,y1⟩:=HC.out _ (Jmp.low hj);clear hj
    go_simp
    try with_reducible rfl
   simp only[Act.put,Apz,ApC,ApB];refine Ay (i:=1) (v:=?_) rfl (by kernel_rfl) (by kernel_rfl) (by kernel_rfl) (λ_ _ _ h=>h) hF0 (Or.inl ⟨by rfl,?_⟩) ?_
   rotate_left
   focus
    intro W' hj;obtain⟨y0,y1⟩:=HC.out _ (Jmp.low hj);clear hj
    go_simp
    try with_reducible rfl
   simp only[Act.put,Apz,ApC,ApB];refine Ay (i:=2) (v:=?_) rfl (by kernel_rfl) (by kernel_rfl) (by kernel_rfl) (λ_ _ _ h=>h) hF0 (Or.inl ⟨by rfl,?_⟩) ?_
   rotate_left
   focus
    intro W' hj;obtain⟨y0,y1⟩:=HC.out _ (Jmp.low hj);clear hj
    go_simp
    try with_reducible rfl
   simp only[Act.put,Apz,ApC,ApB];refine Ay (i:=3) (v:=?_) rfl (by kernel_rfl) (by kernel_rfl) (by kernel_rfl) (λ_ _ _ h=>h) hF0 (Or.inl ⟨by rfl,?_⟩) ?_
   rotate_left
   focus
    intro W' hj;obtain⟨y0,y1⟩:=HC.out _ (Jmp.low hj);clear hj
    go_simp
    try with_reducible rfl
   simp only[Act.put,Apz,ApC,ApB];refine Ay (i:=4) (v:=?_) rfl (by kernel_rfl) (by kernel_rfl) (by kernel_rfl) (λ_ _ _ h=>h) hF0 (Or.inl ⟨by rfl,?_⟩) ?_
   rotate_left
   focus
    intro W' hj;obtain⟨y0,y1⟩:=HC.out _ (Jmp.low hj);clear hj
    go_simp
    try with_reducible rfl
   simp only[Act.put,Apz,ApC,ApB];refine Ay (i:=5) (v:=?_) rfl (by kernel_rfl) (by kernel_rfl) (by kernel_rfl) (λ_ _ _ h=>h) hF0 (Or.inl ⟨by rfl,?_⟩) ?_
   rotate_left
   focus
    intro W' hj;obtain⟨y0,y1⟩:=HC.out _ (Jmp.low hj);clear hj
    go_simp
    try with_reducible rfl
   simp only[Act.put,Apz,ApC,ApB];refine Ay (i:=6) (v:=?_) rfl (by kernel_rfl) (by kernel_rfl) (by kernel_rfl) (λ_ _ _ h=>h) hF0 (Or.inl ⟨by rfl,?_⟩) ?_
   rotate_left
   focus
    intro W' hj;obtain⟨y0,y1⟩:=HC.out _ (Jmp.low hj);clear hj
    go_simp
    try with_reducible rfl
   simp only[Act.put,Apz,ApC,ApB];refine Ay (i:=7) (v:=?_) rfl (by kernel_rfl) (by kernel_rfl) (by kernel_rfl) (λ_ _ _ h=>h) hF0 (Or.inl ⟨by rfl,?_⟩) ?_
   rotate_left
   focus
    intro W' hj;obtain⟨y0,y1⟩:=HC.out _ (Jmp.low hj);clear hj
    go_simp
    try with_reducible rfl
   simp only[Act.put,Apz,ApC,ApB];refine Ay (i:=8) (v:=?_) rfl (by kernel_rfl) (by kernel_rfl) (by kernel_rfl) (λ_ _ _ h=>h) hF0 (Or.inl ⟨by rfl,?_⟩) ?_
   rotate_left
   focus
    intro W' hj;obtain⟨y0,y1⟩:=HC.out _ (Jmp.low hj);clear hj
    go_simp
    try with_reducible rfl
   simp only[Act.put,Apz,ApC,ApB];refine Ay (i:=9) (v:=?_) rfl (by kernel_rfl) (by kernel_rfl) (by kernel_rfl) (λ_ _ _ h=>h) hF0 (Or.inl ⟨by rfl,?_⟩) ?_
   rotate_left
   focus
    intro W' hj;obtain⟨y0,y1⟩:=HC.out _ (Jmp.low hj);clear hj
    go_simp
    try with_reducible rfl
   simp only[Act.put,Apz,ApC,ApB];refine Ay (i:=10) (v:=?_) rfl (by kernel_rfl) (by kernel_rfl) (by kernel_rfl) (λ_ _ _ h=>h) hF0 (Or.inl ⟨by rfl,?_⟩) ?_
   rotate_left
   focus
    intro W' hj;obtain⟨y0,y1⟩:=HC.out _ (Jmp.low hj);clear hj
    go_simp
    try with_reducible rfl
   simp only[Act.put,Apz,ApC,ApB];refine Ay (i:=11) (v:=undef) rfl (by kernel_rfl) (by kernel_rfl) (by kernel_rfl) (λ_ _ _ h=>h) hF0 (Or.inr ⟨by rfl,rfl⟩) ?_;simp only[Act.put,Apz,ApC,ApB];refine Ay (i:=12) (v:=undef) rfl (by kernel_rfl) (by kernel_rfl) (by kernel_rfl) (λ_ _ _ h=>h) hF0 (Or.inr ⟨by rfl,rfl⟩) ?_;simp only[Act.put,Apz,ApC,ApB];refine Ay (i:=13) (v:=undef) rfl (by kernel_rfl) (by kernel_rfl) (by kernel_rfl) (λ_ _ _ h=>h) hF0 (Or.inr ⟨by rfl,rfl⟩) ?_;simp only[Act.put,Apz,ApC,ApB];refine Ay (i:=14) (v:=undef) rfl (by kernel_rfl) (by kernel_rfl) (by kernel_rfl) (λ_ _ _ h=>h) hF0 (Or.inr ⟨by rfl,rfl⟩) ?_;simp only[Act.put,Apz,ApC,ApB];refine Ay (i:=15) (v:=undef) rfl (by kernel_rfl) (by kernel_rfl) (by kernel_rfl) (λ_ _ _ h=>h) hF0 (Or.inr ⟨by rfl,rfl⟩) ?_;simp only[Act.put,Apz,ApC,ApB];refine Ay (i:=16) (v:=undef) rfl (by kernel_rfl) (by kernel_rfl) (by kernel_rfl) (λ_ _ _ h=>h) hF0 (Or.inr ⟨by rfl,rfl⟩) ?_;simp only[Act.put,Apz,ApC,ApB];refine Ay (i:=17) (v:=undef) rfl (by kernel_rfl) (by kernel_rfl) (by kernel_rfl) (λ_ _ _ h=>h) hF0 (Or.inr ⟨by rfl,rfl⟩) ?_;simp only[Act.put,Apz,ApC,ApB];refine Ay (i:=18) (v:=undef) rfl (by kernel_rfl) (by kernel_rfl) (by kernel_rfl) (λ_ _ _ h=>h) hF0 (Or.inr ⟨by rfl,rfl⟩) ?_;simp only[Act.put,Apz,ApC,ApB];refine Ay (i:=19) (v:=undef) rfl (by kernel_rfl) (by kernel_rfl) (by kernel_rfl) (λ_ _ _ h=>h) hF0 (Or.inr ⟨by rfl,rfl⟩) ?_;simp only[Act.put,Apz,ApC,ApB];refine Ay (i:=20) (v:=undef) rfl (by kernel_rfl) (by kernel_rfl) (by kernel_rfl) (λ_ _ _ h=>h) hF0 (Or.inr ⟨by rfl,rfl⟩) ?_;simp only[Act.put,Apz,ApC,ApB];refine Ay (i:=21) (v:=undef) rfl (by kernel_rfl) (by kernel_rfl) (by kernel_rfl) (λ_ _ _ h=>h) hF0 (Or.inr ⟨by rfl,rfl⟩) ?_;simp only[Act.put,Apz,ApC,ApB];refine RN (by kernel_rfl) (λwz jz=>?_) _;have hlow:=Jmp.low jz;have HZ:=Lib.hid hlow;clear hlow jz;refine⟨by kernel_rfl,?_⟩
   try simp only[Act.put,Apz,ApC,ApB]
   simp only[ArL,ApD]
   go_wp2_with fail
   have hk:=Blk.call HRD.out HZ.out;have c3:=hk.cell 0;have c4:=hk.cell 1;simp only[AqA,Aqi,Ap5]at c3 c4;have l3:g<wz.heap.size:=BE c3;clear hk;have z0:(i:Int)<=(j:Int):=by have:=HIN.out;omega
   have z1:(j:Int)<=(s.size:Int):=by have:=HIN.out;omega
   have z2:i<=j:=by omega
   refine AZ (by kernel_rfl) (by kernel_rfl) ?_
   repeat (go_big_quiet_step (fail))
   refine wpQuiet_nil ?_;rintro _ ⟨y,rfl⟩
   go_wp2
   go_ret
   have hj:=HIN.out;subst hj;have hz:n=Bt q s i:=by have:=HGAP.out;rw[HG.out]at this;omega
   refine⟨_,rfl,?_,?_,Bj HGR.out (A2 (A9 HZ.out (Bc _ _)))⟩
   .rw[←hz]
    exact ZM s i n
   .rw[←hz]
    exact Blk.call HRD.out (A9 HZ.out (Bc _ _))
theorem T4(s:ByteArray)(g i:Nat)(p:Nat × Nat)(w:World)(hs:s.size<=20000)(hi:i<=s.size)(hp:Near p i)(hr:Rd w g s i p) :
  Calls Tryz.prog 213 #[.pointer (some ⟨g,0,none⟩),.func (.func 214) #[] #[]] w λe w'=>∃ t:ByteArray,e=.returned (.string t)/\t.data.toList=cut s i (Bt Fs s i)/\Rd w' g s (i+Bt Fs s i) (CF s i p (Bt Fs s i))/\w.grownBy w' (some g):=Qv _ _ (enters_of Tryz.func214 rfl rfl) Ll s g i p w hs hi hp hr
theorem Im(s:ByteArray)(g i:Nat)(p:Nat × Nat)(w:World)(hs:s.size<=20000)(hi:i<=s.size)(hp:Near p i)(hr:Rd w g s i p) :
  Calls Tryz.prog 213 #[.pointer (some ⟨g,0,none⟩),.func (.func 215) #[] #[]] w λe w'=>∃ t:ByteArray,e=.returned (.string t)/\t.data.toList=cut s i (Bt Cd s i)/\Rd w' g s (i+Bt Cd s i) (CF s i p (Bt Cd s i))/\w.grownBy w' (some g):=Qv _ _ (enters_of Tryz.func215 rfl rfl) F6 s g i p w hs hi hp hr
end Go.Proofs.YtlmhajfbpplpoaaGreat
