/- Layer 10: bytes are take -/
import Derived.Test.YtlmhajfbpplpoaaGreatOBV
set_option linter.all false
open List renaming drop_succ_cons->ArI,drop_zero->π,getElem?_cons_succ->ApV,getElem?_cons_zero->Ap8,getElem?_toArray->Aqq,setIfInBounds_toArray->ξ,set_cons_succ->κ,set_cons_zero->ν
open Nat renaming add_assoc->ApF
namespace Go.Proofs.YtlmhajfbpplpoaaGreat
open Lib renaming hid->δ
open Tryz renaming prog->φ
open Go.RowKit
def cut(s:ByteArray)(i n:Nat):List UInt8:=(s.data.toList.drop i).take n
def Bj(p:UInt8->Bool)(s:ByteArray)(i:Nat):Nat:=Gj p (s.data.toList.drop i)
theorem Vu(q:UInt8->Bool)(s:ByteArray):Bj q s s.size=0:=by
 unfold Bj;rw[List.drop_of_length_le (by simp)];rfl
theorem P8(q:UInt8->Bool)(s:ByteArray)(j:Nat)(h:j<s.size):Bj q s j=if q (Ce s j) then Bj q s (j+1)+1 else 0:=by
 unfold Bj;rw[QU s j h];rfl
theorem ZN(s:ByteArray)(i n:Nat):(s.extract i (i+n)).data.toList=cut s i n:=by
 unfold cut;rw[ByteArray.data_extract,Array.toList_extract,List.extract_eq_take_drop,Nat.add_sub_cancel_left]
theorem Ly(q:UInt8->Bool)(s:ByteArray)(i:Nat)(h:i<=s.size):i+Bj q s i<=s.size:=by
 have:=MZ q (s.data.toList.drop i);rw[List.length_drop,Array.length_toList]at this;have e:s.data.size=s.size:=rfl;unfold Bj;omega
set_option maxRecDepth 100000 in
set_option maxHeartbeats 4000000 in
theorem Qs(fn:Nat)(q:UInt8->Bool)(hE:T6 φ fn)(hq:∀(c:UInt8) (b:Int) (w:World),b=(c.toNat:Int)->Calls φ fn #[.int .u8 b] w λe w'=>e=.returned (.bool (q c))/\w=w')(s:ByteArray)(g i:Nat)(p:Nat × Nat)(w:World)(hs:s.size<=20000)(hi:i<=s.size)(hp:Near p i)(hr:Rd w g s i p) :
  Calls φ 213 #[.pointer (some ⟨g,0,none⟩),.func (.func fn) #[] #[]] w λe w'=>∃ t:ByteArray,e=.returned (.string t)/\t.data.toList=cut s i (Bj q s i)/\Rd w' g s (i+Bj q s i) (Cs s i p (Bj q s i))/\w.grownBy w' (some g):=by
 have HR:=δ hr;have HP:=δ hp;obtain⟨c0,c1,_⟩:=hr.cells;have l0:g<w.heap.size:=Bu c0;clear hr hp
 go_enter Tryz.func213,Tryz.ntmps213
 go_wp2_with fail
 clear c0 c1 l0
 go_loopw [10] (λ_ wr=>∃ n:Nat,i+n<=s.size/\n+Bj q s (i+n)=Bj q s i/\Rd wr g s (i+n) (Cs s i p n)/\w.grownBy wr (some g)) (λ_ wr=>s.size-Oh g wr)
 case atStart=>exact⟨0,hi,by simp,by simpa[Cs,adv]using HR.out,AR (Below.refl _ _)⟩
 case round=>
  obtain⟨n,hn,hgap,hrd,hgr⟩:=hrel;have HRT:=δ (CS hrd);obtain⟨c0,c1,_⟩:=hrd.cells;have HRD:=δ hrd;have HGR:=δ hgr;have HGAP:=δ hgap;have HPN:=δ (E4 s i n p HP.out hn);have HC:=δ (show ∀ W',Below wr.heap.size wr W'->W'.cell? ⟨g,0,none⟩=some (.string s)/\W'.cell? ⟨g,1,none⟩=some (.int .i64 ((i+n:Nat):Int)) from λW' h=>⟨(h.cell (p:=⟨g,0,none⟩) (Bu c0)).trans c0,(h.cell (p:=⟨g,1,none⟩) (Bu c1)).trans c1⟩);clear hrd hgr hgap c0 c1;generalize hj:i+n=j at *;have HIN:=δ hj;clear hj
  by_cases hlt:j<s.size
  .have q0:(0:Int)<=(j:Int):=by omega
   have q1:(j:Int)<(s.size:Int):=by omega
   have q2:decide (j<s.size)=true:=by simpa using hlt
   have HV:=δ (KQ s j hlt);have HA:=δ (P8 q s j hlt);rcases ht:q (Ce s j) with _|_
   .have HT:=δ ht
    have HG:=δ (show Bj q s j=0 by rw[HA.out,ht];rfl);clear ht
    go_wp2_with fail
    refine Fg (L:=#[false,false,false,false,false,false,false,false,false,false,false,false,false,false,false,false,false,false,false,false,false,false,true]) 22 (by kernel_rfl) (by kernel_rfl) (by kernel_rfl) ?_;have hF0:∀ k,Lt wr.drew.heap.size k->k<wr.drew.heap.size:=λ_ h=>h
    refine As (i:=0) (v:=?_) rfl (by kernel_rfl) (by kernel_rfl) (by kernel_rfl) (λ_ _ _ h=>h) hF0 (Or.inl ⟨by rfl,?_⟩) ?_
    rotate_left
    focus
     intro W' hj;obtain⟨y0,y1⟩:=HC.out _ (Jmp.low hj);clear hj
     go_simp
     try with_reducible rfl
    simp only[Act.put,ξ,ν,κ];refine As (i:=1) (v:=?_) rfl (by kernel_rfl) (by kernel_rfl) (by kernel_rfl) (λ_ _ _ h=>h) hF0 (Or.inl ⟨by rfl,?_⟩) ?_
    rotate_left
    focus
     intro W' hj;obtain⟨y0,y1⟩:=HC.out _ (Jmp.low hj);clear hj
     go_simp
     try with_reducible rfl
    simp only[Act.put,ξ,ν,κ];refine As (i:=2) (v:=?_) rfl (by kernel_rfl) (by kernel_rfl) (by kernel_rfl) (λ_ _ _ h=>h) hF0 (Or.inl ⟨by rfl,?_⟩) ?_
    rotate_left
    focus
     intro W' hj;obtain⟨y0,y1⟩:=HC.out _ (Jmp.low hj);clear hj
     go_simp
     try with_reducible rfl
    simp only[Act.put,ξ,ν,κ];refine As (i:=3) (v:=?_) rfl (by kernel_rfl) (by kernel_rfl) (by kernel_rfl) (λ_ _ _ h=>h) hF0 (Or.inl ⟨by rfl,?_⟩) ?_
    rotate_left
    focus
     intro W' hj;obtain⟨y0,y1⟩:=HC.out _ (Jmp.low hj);clear hj
     go_simp
     try with_reducible rfl
    simp only[Act.put,ξ,ν,κ];refine As (i:=4) (v:=?_) rfl (by kernel_rfl) (by kernel_rfl) (by kernel_rfl) (λ_ _ _ h=>h) hF0 (Or.inl ⟨by rfl,?_⟩) ?_
    rotate_left
    focus
     intro W' hj;obtain⟨y0,y1⟩:=HC.out _ (Jmp.low hj);clear hj
     go_simp
     try with_reducible rfl
    simp only[Act.put,ξ,ν,κ];refine As (i:=5) (v:=?_) rfl (by kernel_rfl) (by kernel_rfl) (by kernel_rfl) (λ_ _ _ h=>h) hF0 (Or.inl ⟨by rfl,?_⟩) ?_
    rotate_left
    focus
     intro W' hj;obtain⟨y0,y1⟩:=HC.out _ (Jmp.low hj);clear hj
     go_simp
     try with_reducible rfl
    simp only[Act.put,ξ,ν,κ];refine As (i:=6) (v:=?_) rfl (by kernel_rfl) (by kernel_rfl) (by kernel_rfl) (λ_ _ _ h=>h) hF0 (Or.inl ⟨by rfl,?_⟩) ?_
    rotate_left
    focus
     intro W' hj;obtain⟨y0,y1⟩:=HC.out _ (Jmp.low hj);clear hj
     go_simp
     try with_reducible rfl
    simp only[Act.put,ξ,ν,κ];refine As (i:=7) (v:=?_) rfl (by kernel_rfl) (by kernel_rfl) (by kernel_rfl) (λ_ _ _ h=>h) hF0 (Or.inl ⟨by rfl,?_⟩) ?_
    rotate_left
    focus
     intro W' hj;obtain⟨y0,y1⟩:=HC.out _ (Jmp.low hj);clear hj
     go_simp
     try with_reducible rfl
    simp only[Act.put,ξ,ν,κ];refine As (i:=8) (v:=?_) rfl (by kernel_rfl) (by kernel_rfl) (by kernel_rfl) (λ_ _ _ h=>h) hF0 (Or.inl ⟨by rfl,?_⟩) ?_
    rotate_left
    focus
     intro W' hj;obtain⟨y0,y1⟩:=HC.out _ (Jmp.low hj);clear hj
     go_simp
     try with_reducible rfl
    simp only[Act.put,ξ,ν,κ];refine As (i:=9) (v:=?_) rfl (by kernel_rfl) (by kernel_rfl) (by kernel_rfl) (λ_ _ _ h=>h) hF0 (Or.inl ⟨by rfl,?_⟩) ?_
    rotate_left
    focus
     intro W' hj;obtain⟨y0,y1⟩:=HC.out _ (Jmp.low hj);clear hj
     go_simp
     try with_reducible rfl
    simp only[Act.put,ξ,ν,κ];refine As (i:=10) (v:=?_) rfl (by kernel_rfl) (by kernel_rfl) (by kernel_rfl) (λ_ _ _ h=>h) hF0 (Or.inl ⟨by rfl,?_⟩) ?_
    rotate_left
    focus
     intro W' hj;obtain⟨y0,y1⟩:=HC.out _ (Jmp.low hj);clear hj
     go_simp
     try with_reducible rfl
    simp only[Act.put,ξ,ν,κ];refine As (i:=11) (v:=?_) rfl (by kernel_rfl) (by kernel_rfl) (by kernel_rfl) (λ_ _ _ h=>h) hF0 (Or.inl ⟨by rfl,?_⟩) ?_
    rotate_left
    focus
     intro W' hj;obtain⟨y0,y1⟩:=HC.out _ (Jmp.low hj);clear hj
     go_simp
     try with_reducible rfl
    simp only[Act.put,ξ,ν,κ];refine As (i:=12) (v:=?_) rfl (by kernel_rfl) (by kernel_rfl) (by kernel_rfl) (λ_ _ _ h=>h) hF0 (Or.inl ⟨by rfl,?_⟩) ?_
    rotate_left
    focus
     intro W' hj;obtain⟨y0,y1⟩:=HC.out _ (Jmp.low hj);clear hj
     go_simp
     try with_reducible rfl
    simp only[Act.put,ξ,ν,κ];refine As (i:=13) (v:=?_) rfl (by kernel_rfl) (by kernel_rfl) (by kernel_rfl) (λ_ _ _ h=>h) hF0 (Or.inl ⟨by rfl,?_⟩) ?_
    rotate_left
    focus
     intro W' hj;obtain⟨y0,y1⟩:=HC.out _ (Jmp.low hj);clear hj
     go_simp
     try with_reducible rfl
    simp only[Act.put,ξ,ν,κ];refine As (i:=14) (v:=?_) rfl (by kernel_rfl) (by kernel_rfl) (by kernel_rfl) (λ_ _ _ h=>h) hF0 (Or.inl ⟨by rfl,?_⟩) ?_
    rotate_left
    focus
     intro W' hj;obtain⟨y0,y1⟩:=HC.out _ (Jmp.low hj);clear hj
     go_simp
     try with_reducible rfl
    simp only[Act.put,ξ,ν,κ];refine As (i:=15) (v:=?_) rfl (by kernel_rfl) (by kernel_rfl) (by kernel_rfl) (λ_ _ _ h=>h) hF0 (Or.inl ⟨by rfl,?_⟩) ?_
    rotate_left
    focus
     intro W' hj;obtain⟨y0,y1⟩:=HC.out _ (Jmp.low hj);clear hj
     go_simp
     try with_reducible rfl
    simp only[Act.put,ξ,ν,κ];refine As (i:=16) (v:=?_) rfl (by kernel_rfl) (by kernel_rfl) (by kernel_rfl) (λ_ _ _ h=>h) hF0 (Or.inl ⟨by rfl,?_⟩) ?_
    rotate_left
    focus
     intro W' hj;obtain⟨y0,y1⟩:=HC.out _ (Jmp.low hj);clear hj
     go_simp
     try with_reducible rfl
    simp only[Act.put,ξ,ν,κ];refine As (i:=17) (v:=?_) rfl (by kernel_rfl) (by kernel_rfl) (by kernel_rfl) (λ_ _ _ h=>h) hF0 (Or.inl ⟨by rfl,?_⟩) ?_
    rotate_left
    focus
     intro W' hj;obtain⟨y0,y1⟩:=HC.out _ (Jmp.low hj);clear hj
     go_simp
     try with_reducible rfl
    simp only[Act.put,ξ,ν,κ];refine As (i:=18) (v:=?_) rfl (by kernel_rfl) (by kernel_rfl) (by kernel_rfl) (λ_ _ _ h=>h) hF0 (Or.inl ⟨by rfl,?_⟩) ?_
    rotate_left
    focus
     intro W' hj;obtain⟨y0,y1⟩:=HC.out _ (Jmp.low hj);clear hj
     go_simp
     try with_reducible rfl
    simp only[Act.put,ξ,ν,κ];refine As (i:=19) (v:=?_) rfl (by kernel_rfl) (by kernel_rfl) (by kernel_rfl) (λ_ _ _ h=>h) hF0 (Or.inl ⟨by rfl,?_⟩) ?_
    rotate_left
    focus
     intro W' hj;obtain⟨y0,y1⟩:=HC.out _ (Jmp.low hj);clear hj
     go_simp
     try with_reducible rfl
    simp only[Act.put,ξ,ν,κ];refine As (i:=20) (v:=?_) rfl (by kernel_rfl) (by kernel_rfl) (by kernel_rfl) (λ_ _ _ h=>h) hF0 (Or.inl ⟨by rfl,?_⟩) ?_
    rotate_left
    focus
     intro W' hj;obtain⟨y0,y1⟩:=HC.out _ (Jmp.low hj);clear hj
     go_simp
     try with_reducible rfl
    simp only[Act.put,ξ,ν,κ];refine Qt (i:=21) (by kernel_rfl) rfl λv21 j21 K21 k21=>?_
    go_wp2_with fail
    unfold T6 at hE;rw[hE,Oper.upon_enter];refine(hq (Ce s j) ((s[j]'hlt).toNat:Int) v21 (by rw[HV.out])).mono ?_;rw[HT.out];rintro e21 w21 ⟨rfl,rfl⟩;have b21:=Below.refl v21.heap.size v21
    go_wp2_with fail
    refine k21.out _ _ b21 ?_;clear k21;have hF22:=UP (j21.grow hF0) b21.size;refine RL (by kernel_rfl) (λwz jz=>?_) _;have hlow:=Jmp.low (j21.back hF0 b21 jz);have HZ:=δ hlow;clear hlow jz;refine⟨by kernel_rfl,?_⟩
    try simp only[Act.put,ξ,ν,κ]
    simp only[ArI,π]
    go_wp2_with fail
    have hk:=Blk.call HRD.out HZ.out;have c3:=hk.cell 0;have c4:=hk.cell 1;simp only[Aqq,Ap8,ApV]at c3 c4;have l3:g<wz.heap.size:=Bu c3;clear hk;have z0:(i:Int)<=(j:Int):=by have:=HIN.out;omega
    have z1:(j:Int)<=(s.size:Int):=by have:=HIN.out;omega
    have z2:i<=j:=by omega
    refine AO (by kernel_rfl) (by kernel_rfl) ?_
    repeat (go_big_quiet_step (fail))
    refine wpQuiet_nil ?_;rintro _ ⟨y,rfl⟩
    go_wp2
    go_ret
    have hj:=HIN.out;subst hj;have hz:n=Bj q s i:=by have:=HGAP.out;rw[HG.out]at this;omega
    refine⟨_,rfl,?_,?_,Ba HGR.out (AR (AY HZ.out (A2 _ _)))⟩
    .rw[←hz]
     exact ZN s i n
    .rw[←hz]
     exact Blk.call HRD.out (AY HZ.out (A2 _ _))
   .have HT:=δ ht
    have HG:=δ (show Bj q s j=Bj q s (j+1)+1 by rw[HA.out,ht];rfl);clear ht
    go_wp2_with fail
    refine Fg (L:=#[false,false,false,false,false,false,false,false,false,false,false,false,false,false,false,false,false,false,false,false,false,false,true]) 22 (by kernel_rfl) (by kernel_rfl) (by kernel_rfl) ?_;have hF0:∀ k,Lt wr.drew.heap.size k->k<wr.drew.heap.size:=λ_ h=>h
    refine As (i:=0) (v:=?_) rfl (by kernel_rfl) (by kernel_rfl) (by kernel_rfl) (λ_ _ _ h=>h) hF0 (Or.inl ⟨by rfl,?_⟩) ?_
    rotate_left
    focus
     intro W' hj;obtain⟨y0,y1⟩:=HC.out _ (Jmp.low hj);clear hj
     go_simp
     try with_reducible rfl
    simp only[Act.put,ξ,ν,κ];refine As (i:=1) (v:=?_) rfl (by kernel_rfl) (by kernel_rfl) (by kernel_rfl) (λ_ _ _ h=>h) hF0 (Or.inl ⟨by rfl,?_⟩) ?_
    rotate_left
    focus
     intro W' hj;obtain⟨y0,y1⟩:=HC.out _ (Jmp.low hj);clear hj
     go_simp
     try with_reducible rfl
    simp only[Act.put,ξ,ν,κ];refine As (i:=2) (v:=?_) rfl (by kernel_rfl) (by kernel_rfl) (by kernel_rfl) (λ_ _ _ h=>h) hF0 (Or.inl ⟨by rfl,?_⟩) ?_
    rotate_left
    focus
     intro W' hj;obtain⟨y0,y1⟩:=HC.out _ (Jmp.low hj);clear hj
     go_simp
     try with_reducible rfl
    simp only[Act.put,ξ,ν,κ];refine As (i:=3) (v:=?_) rfl (by kernel_rfl) (by kernel_rfl) (by kernel_rfl) (λ_ _ _ h=>h) hF0 (Or.inl ⟨by rfl,?_⟩) ?_
    rotate_left
    focus
     intro W' hj;obtain⟨y0,y1⟩:=HC.out _ (Jmp.low hj);clear hj
     go_simp
     try with_reducible rfl
    simp only[Act.put,ξ,ν,κ];refine As (i:=4) (v:=?_) rfl (by kernel_rfl) (by kernel_rfl) (by kernel_rfl) (λ_ _ _ h=>h) hF0 (Or.inl ⟨by rfl,?_⟩) ?_
    rotate_left
    focus
     intro W' hj;obtain⟨y0,y1⟩:=HC.out _ (Jmp.low hj);clear hj
     go_simp
     try with_reducible rfl
    simp only[Act.put,ξ,ν,κ];refine As (i:=5) (v:=?_) rfl (by kernel_rfl) (by kernel_rfl) (by kernel_rfl) (λ_ _ _ h=>h) hF0 (Or.inl ⟨by rfl,?_⟩) ?_
    rotate_left
    focus
     intro W' hj;obtain⟨y0,y1⟩:=HC.out _ (Jmp.low hj);clear hj
     go_simp
     try with_reducible rfl
    simp only[Act.put,ξ,ν,κ];refine As (i:=6) (v:=?_) rfl (by kernel_rfl) (by kernel_rfl) (by kernel_rfl) (λ_ _ _ h=>h) hF0 (Or.inl ⟨by rfl,?_⟩) ?_
    rotate_left
    focus
     intro W' hj;obtain⟨y0,y1⟩:=HC.out _ (Jmp.low hj);clear hj
     go_simp
     try with_reducible rfl
    simp only[Act.put,ξ,ν,κ];refine As (i:=7) (v:=?_) rfl (by kernel_rfl) (by kernel_rfl) (by kernel_rfl) (λ_ _ _ h=>h) hF0 (Or.inl ⟨by rfl,?_⟩) ?_
    rotate_left
    focus
     intro W' hj;obtain⟨y0,y1⟩:=HC.out _ (Jmp.low hj);clear hj
     go_simp
     try with_reducible rfl
    simp only[Act.put,ξ,ν,κ];refine As (i:=8) (v:=?_) rfl (by kernel_rfl) (by kernel_rfl) (by kernel_rfl) (λ_ _ _ h=>h) hF0 (Or.inl ⟨by rfl,?_⟩) ?_
    rotate_left
    focus
     intro W' hj;obtain⟨y0,y1⟩:=HC.out _ (Jmp.low hj);clear hj
     go_simp
     try with_reducible rfl
    simp only[Act.put,ξ,ν,κ];refine As (i:=9) (v:=?_) rfl (by kernel_rfl) (by kernel_rfl) (by kernel_rfl) (λ_ _ _ h=>h) hF0 (Or.inl ⟨by rfl,?_⟩) ?_
    rotate_left
    focus
     intro W' hj;obtain⟨y0,y1⟩:=HC.out _ (Jmp.low hj);clear hj
     go_simp
     try with_reducible rfl
    simp only[Act.put,ξ,ν,κ];refine As (i:=10) (v:=?_) rfl (by kernel_rfl) (by kernel_rfl) (by kernel_rfl) (λ_ _ _ h=>h) hF0 (Or.inl ⟨by rfl,?_⟩) ?_
    rotate_left
    focus
     intro W' hj;obtain⟨y0,y1⟩:=HC.out _ (Jmp.low hj);clear hj
     go_simp
     try with_reducible rfl
    simp only[Act.put,ξ,ν,κ];refine As (i:=11) (v:=?_) rfl (by kernel_rfl) (by kernel_rfl) (by kernel_rfl) (λ_ _ _ h=>h) hF0 (Or.inl ⟨by rfl,?_⟩) ?_
    rotate_left
    focus
     intro W' hj;obtain⟨y0,y1⟩:=HC.out _ (Jmp.low hj);clear hj
     go_simp
     try with_reducible rfl
    simp only[Act.put,ξ,ν,κ];refine As (i:=12) (v:=?_) rfl (by kernel_rfl) (by kernel_rfl) (by kernel_rfl) (λ_ _ _ h=>h) hF0 (Or.inl ⟨by rfl,?_⟩) ?_
    rotate_left
    focus
     intro W' hj;obtain⟨y0,y1⟩:=HC.out _ (Jmp.low hj);clear hj
     go_simp
     try with_reducible rfl
    simp only[Act.put,ξ,ν,κ];refine As (i:=13) (v:=?_) rfl (by kernel_rfl) (by kernel_rfl) (by kernel_rfl) (λ_ _ _ h=>h) hF0 (Or.inl ⟨by rfl,?_⟩) ?_
    rotate_left
    focus
     intro W' hj;obtain⟨y0,y1⟩:=HC.out _ (Jmp.low hj);clear hj
     go_simp
     try with_reducible rfl
    simp only[Act.put,ξ,ν,κ];refine As (i:=14) (v:=?_) rfl (by kernel_rfl) (by kernel_rfl) (by kernel_rfl) (λ_ _ _ h=>h) hF0 (Or.inl ⟨by rfl,?_⟩) ?_
    rotate_left
    focus
     intro W' hj;obtain⟨y0,y1⟩:=HC.out _ (Jmp.low hj);clear hj
     go_simp
     try with_reducible rfl
    simp only[Act.put,ξ,ν,κ];refine As (i:=15) (v:=?_) rfl (by kernel_rfl) (by kernel_rfl) (by kernel_rfl) (λ_ _ _ h=>h) hF0 (Or.inl ⟨by rfl,?_⟩) ?_
    rotate_left
    focus
     intro W' hj;obtain⟨y0,y1⟩:=HC.out _ (Jmp.low hj);clear hj
     go_simp
     try with_reducible rfl
    simp only[Act.put,ξ,ν,κ];refine As (i:=16) (v:=?_) rfl (by kernel_rfl) (by kernel_rfl) (by kernel_rfl) (λ_ _ _ h=>h) hF0 (Or.inl ⟨by rfl,?_⟩) ?_
    rotate_left
    focus
     intro W' hj;obtain⟨y0,y1⟩:=HC.out _ (Jmp.low hj);clear hj
     go_simp
     try with_reducible rfl
    simp only[Act.put,ξ,ν,κ];refine As (i:=17) (v:=?_) rfl (by kernel_rfl) (by kernel_rfl) (by kernel_rfl) (λ_ _ _ h=>h) hF0 (Or.inl ⟨by rfl,?_⟩) ?_
    rotate_left
    focus
     intro W' hj;obtain⟨y0,y1⟩:=HC.out _ (Jmp.low hj);clear hj
     go_simp
     try with_reducible rfl
    simp only[Act.put,ξ,ν,κ];refine As (i:=18) (v:=?_) rfl (by kernel_rfl) (by kernel_rfl) (by kernel_rfl) (λ_ _ _ h=>h) hF0 (Or.inl ⟨by rfl,?_⟩) ?_
    rotate_left
    focus
     intro W' hj;obtain⟨y0,y1⟩:=HC.out _ (Jmp.low hj);clear hj
     go_simp
     try with_reducible rfl
    simp only[Act.put,ξ,ν,κ];refine As (i:=19) (v:=?_) rfl (by kernel_rfl) (by kernel_rfl) (by kernel_rfl) (λ_ _ _ h=>h) hF0 (Or.inl ⟨by rfl,?_⟩) ?_
    rotate_left
    focus
     intro W' hj;obtain⟨y0,y1⟩:=HC.out _ (Jmp.low hj);clear hj
     go_simp
     try with_reducible rfl
    simp only[Act.put,ξ,ν,κ];refine As (i:=20) (v:=?_) rfl (by kernel_rfl) (by kernel_rfl) (by kernel_rfl) (λ_ _ _ h=>h) hF0 (Or.inl ⟨by rfl,?_⟩) ?_
    rotate_left
    focus
     intro W' hj;obtain⟨y0,y1⟩:=HC.out _ (Jmp.low hj);clear hj
     go_simp
     try with_reducible rfl
    simp only[Act.put,ξ,ν,κ];refine Qt (i:=21) (by kernel_rfl) rfl λv21 j21 K21 k21=>?_
    go_wp2_with fail
    unfold T6 at hE;rw[hE,Oper.upon_enter];refine(hq (Ce s j) ((s[j]'hlt).toNat:Int) v21 (by rw[HV.out])).mono ?_;rw[HT.out];rintro e21 w21 ⟨rfl,rfl⟩;have b21:=Below.refl v21.heap.size v21
    go_wp2_with fail
    refine k21.out _ _ b21 ?_;clear k21;have hF22:=UP (j21.grow hF0) b21.size;refine RL (by kernel_rfl) (λwz jz=>?_) _;have hlow:=Jmp.low (j21.back hF0 b21 jz);have HZ:=δ hlow;clear hlow jz;refine⟨by kernel_rfl,?_⟩
    try simp only[Act.put,ξ,ν,κ]
    simp only[ArI,π]
    go_wp2_with fail
    refine(Ep s g _ _ wz (by omega) hlt (HPN.out.small (by omega)) (Blk.call HRD.out HZ.out)).mono ?_;rintro e2 w2 ⟨rfl,hrd2,hg2⟩;have HRD2:=δ hrd2;have HG2:=δ hg2;clear hrd2 hg2
    go_wp2_with fail
    go_roundw
    case rel=>
     have hj:=HIN.out;subst hj;refine⟨n+1,by omega,?_,?_,Ba (Ba HGR.out (AR HZ.out)) HG2.out⟩
     .have h1:=HGAP.out
      rw[HG.out]at h1;rw[←ApF i n 1];omega
     .have h1:=HRD2.out
      rw[Dr s i n p hlt,ApF]at h1;exact h1
    case measure=>
     rw[HRT.out,CS HRD2.out];omega
  .have he:j=s.size:=by omega
   have q2:decide (j<s.size)=false:=by simpa using hlt
   have q1:¬ (j:Int)<(s.size:Int):=by omega
   have HG:=δ (show Bj q s j=0 by rw[he];exact Vu q s);clear he
   go_wp2_with fail
   refine Fg (L:=#[false,false,false,false,false,false,false,false,false,false,false,false,false,false,false,false,false,false,false,false,false,false,true]) 22 (by kernel_rfl) (by kernel_rfl) (by kernel_rfl) ?_;have hF0:∀ k,Lt wr.drew.heap.size k->k<wr.drew.heap.size:=λ_ h=>h
   refine As (i:=0) (v:=?_) rfl (by kernel_rfl) (by kernel_rfl) (by kernel_rfl) (λ_ _ _ h=>h) hF0 (Or.inl ⟨by rfl,?_⟩) ?_
   rotate_left
   focus
    intro W' hj;obtain⟨y0,y1⟩:=HC.out _ (Jmp.low hj);clear hj
    go_simp
    try with_reducible rfl
   simp only[Act.put,ξ,ν,κ];refine As (i:=1) (v:=?_) rfl (by kernel_rfl) (by kernel_rfl) (by kernel_rfl) (λ_ _ _ h=>h) hF0 (Or.inl ⟨by rfl,?_⟩) ?_
   rotate_left
   focus
    intro W' hj;obtain⟨y0,y1⟩:=HC.out _ (Jmp.low hj);clear hj
    go_simp
    try with_reducible rfl
   simp only[Act.put,ξ,ν,κ];refine As (i:=2) (v:=?_) rfl (by kernel_rfl) (by kernel_rfl) (by kernel_rfl) (λ_ _ _ h=>h) hF0 (Or.inl ⟨by rfl,?_⟩) ?_
   rotate_left
   focus
    intro W' hj;obtain⟨y0,y1⟩:=HC.out _ (Jmp.low hj);clear hj
    go_simp
    try with_reducible rfl
   simp only[Act.put,ξ,ν,κ];refine As (i:=3) (v:=?_) rfl (by kernel_rfl) (by kernel_rfl) (by kernel_rfl) (λ_ _ _ h=>h) hF0 (Or.inl ⟨by rfl,?_⟩) ?_
   rotate_left
   focus
    intro W' hj;obtain⟨y0,y1⟩:=HC.out _ (Jmp.low hj);clear hj
    go_simp
    try with_reducible rfl
   simp only[Act.put,ξ,ν,κ];refine As (i:=4) (v:=?_) rfl (by kernel_rfl) (by kernel_rfl) (by kernel_rfl) (λ_ _ _ h=>h) hF0 (Or.inl ⟨by rfl,?_⟩) ?_
   rotate_left
   focus
    intro W' hj;obtain⟨y0,y1⟩:=HC.out _ (Jmp.low hj);clear hj
    go_simp
    try with_reducible rfl
   simp only[Act.put,ξ,ν,κ];refine As (i:=5) (v:=?_) rfl (by kernel_rfl) (by kernel_rfl) (by kernel_rfl) (λ_ _ _ h=>h) hF0 (Or.inl ⟨by rfl,?_⟩) ?_
   rotate_left
   focus
    intro W' hj;obtain⟨y0,y1⟩:=HC.out _ (Jmp.low hj);clear hj
    go_simp
    try with_reducible rfl
   simp only[Act.put,ξ,ν,κ];refine As (i:=6) (v:=?_) rfl (by kernel_rfl) (by kernel_rfl) (by kernel_rfl) (λ_ _ _ h=>h) hF0 (Or.inl ⟨by rfl,?_⟩) ?_
   rotate_left
   focus
    intro W' hj;obtain⟨y0,y1⟩:=HC.out _ (Jmp.low hj);clear hj
    go_simp
    try with_reducible rfl
   simp only[Act.put,ξ,ν,κ];refine As (i:=7) (v:=?_) rfl (by kernel_rfl) (by kernel_rfl) (by kernel_rfl) (λ_ _ _ h=>h) hF0 (Or.inl ⟨by rfl,?_⟩) ?_
   rotate_left
   focus
    intro W' hj;obtain⟨y0,y1⟩:=HC.out _ (Jmp.low hj);clear hj
    go_simp
    try with_reducible rfl
   simp only[Act.put,ξ,ν,κ];refine As (i:=8) (v:=?_) rfl (by kernel_rfl) (by kernel_rfl) (by kernel_rfl) (λ_ _ _ h=>h) hF0 (Or.inl ⟨by rfl,?_⟩) ?_
   rotate_left
   focus
    intro W' hj;obtain⟨y0,y1⟩:=HC.out _ (Jmp.low hj);clear hj
    go_simp
    try with_reducible rfl
   simp only[Act.put,ξ,ν,κ];refine As (i:=9) (v:=?_) rfl (by kernel_rfl) (by kernel_rfl) (by kernel_rfl) (λ_ _ _ h=>h) hF0 (Or.inl ⟨by rfl,?_⟩) ?_
   rotate_left
   focus
    intro W' hj;obtain⟨y0,y1⟩:=HC.out _ (Jmp.low hj);clear hj
    go_simp
    try with_reducible rfl
   simp only[Act.put,ξ,ν,κ];refine As (i:=10) (v:=?_) rfl (by kernel_rfl) (by kernel_rfl) (by kernel_rfl) (λ_ _ _ h=>h) hF0 (Or.inl ⟨by rfl,?_⟩) ?_
   rotate_left
   focus
    intro W' hj;obtain⟨y0,y1⟩:=HC.out _ (Jmp.low hj);clear hj
    go_simp
    try with_reducible rfl
   simp only[Act.put,ξ,ν,κ];refine As (i:=11) (v:=undef) rfl (by kernel_rfl) (by kernel_rfl) (by kernel_rfl) (λ_ _ _ h=>h) hF0 (Or.inr ⟨by rfl,rfl⟩) ?_;simp only[Act.put,ξ,ν,κ];refine As (i:=12) (v:=undef) rfl (by kernel_rfl) (by kernel_rfl) (by kernel_rfl) (λ_ _ _ h=>h) hF0 (Or.inr ⟨by rfl,rfl⟩) ?_;simp only[Act.put,ξ,ν,κ];refine As (i:=13) (v:=undef) rfl (by kernel_rfl) (by kernel_rfl) (by kernel_rfl) (λ_ _ _ h=>h) hF0 (Or.inr ⟨by rfl,rfl⟩) ?_;simp only[Act.put,ξ,ν,κ];refine As (i:=14) (v:=undef) rfl (by kernel_rfl) (by kernel_rfl) (by kernel_rfl) (λ_ _ _ h=>h) hF0 (Or.inr ⟨by rfl,rfl⟩) ?_;simp only[Act.put,ξ,ν,κ];refine As (i:=15) (v:=undef) rfl (by kernel_rfl) (by kernel_rfl) (by kernel_rfl) (λ_ _ _ h=>h) hF0 (Or.inr ⟨by rfl,rfl⟩) ?_;simp only[Act.put,ξ,ν,κ];refine As (i:=16) (v:=undef) rfl (by kernel_rfl) (by kernel_rfl) (by kernel_rfl) (λ_ _ _ h=>h) hF0 (Or.inr ⟨by rfl,rfl⟩) ?_;simp only[Act.put,ξ,ν,κ];refine As (i:=17) (v:=undef) rfl (by kernel_rfl) (by kernel_rfl) (by kernel_rfl) (λ_ _ _ h=>h) hF0 (Or.inr ⟨by rfl,rfl⟩) ?_;simp only[Act.put,ξ,ν,κ];refine As (i:=18) (v:=undef) rfl (by kernel_rfl) (by kernel_rfl) (by kernel_rfl) (λ_ _ _ h=>h) hF0 (Or.inr ⟨by rfl,rfl⟩) ?_;simp only[Act.put,ξ,ν,κ];refine As (i:=19) (v:=undef) rfl (by kernel_rfl) (by kernel_rfl) (by kernel_rfl) (λ_ _ _ h=>h) hF0 (Or.inr ⟨by rfl,rfl⟩) ?_;simp only[Act.put,ξ,ν,κ];refine As (i:=20) (v:=undef) rfl (by kernel_rfl) (by kernel_rfl) (by kernel_rfl) (λ_ _ _ h=>h) hF0 (Or.inr ⟨by rfl,rfl⟩) ?_;simp only[Act.put,ξ,ν,κ];refine As (i:=21) (v:=undef) rfl (by kernel_rfl) (by kernel_rfl) (by kernel_rfl) (λ_ _ _ h=>h) hF0 (Or.inr ⟨by rfl,rfl⟩) ?_;simp only[Act.put,ξ,ν,κ];refine RL (by kernel_rfl) (λwz jz=>?_) _;have hlow:=Jmp.low jz;have HZ:=δ hlow;clear hlow jz;refine⟨by kernel_rfl,?_⟩
   try simp only[Act.put,ξ,ν,κ]
   simp only[ArI,π]
   go_wp2_with fail
   have hk:=Blk.call HRD.out HZ.out;have c3:=hk.cell 0;have c4:=hk.cell 1;simp only[Aqq,Ap8,ApV]at c3 c4;have l3:g<wz.heap.size:=Bu c3;clear hk;have z0:(i:Int)<=(j:Int):=by have:=HIN.out;omega
   have z1:(j:Int)<=(s.size:Int):=by have:=HIN.out;omega
   have z2:i<=j:=by omega
   refine AO (by kernel_rfl) (by kernel_rfl) ?_
   repeat (go_big_quiet_step (fail))
   refine wpQuiet_nil ?_;rintro _ ⟨y,rfl⟩
   go_wp2
   go_ret
   have hj:=HIN.out;subst hj;have hz:n=Bj q s i:=by have:=HGAP.out;rw[HG.out]at this;omega
   refine⟨_,rfl,?_,?_,Ba HGR.out (AR (AY HZ.out (A2 _ _)))⟩
   .rw[←hz]
    exact ZN s i n
   .rw[←hz]
    exact Blk.call HRD.out (AY HZ.out (A2 _ _))
theorem TV(s:ByteArray)(g i:Nat)(p:Nat × Nat)(w:World)(hs:s.size<=20000)(hi:i<=s.size)(hp:Near p i)(hr:Rd w g s i p) :
  Calls φ 213 #[.pointer (some ⟨g,0,none⟩),.func (.func 214) #[] #[]] w λe w'=>∃ t:ByteArray,e=.returned (.string t)/\t.data.toList=cut s i (Bj Fj s i)/\Rd w' g s (i+Bj Fj s i) (Cs s i p (Bj Fj s i))/\w.grownBy w' (some g):=Qs _ _ (enters_of Tryz.func214 rfl rfl) Ld s g i p w hs hi hp hr
theorem Ik(s:ByteArray)(g i:Nat)(p:Nat × Nat)(w:World)(hs:s.size<=20000)(hi:i<=s.size)(hp:Near p i)(hr:Rd w g s i p) :
  Calls φ 213 #[.pointer (some ⟨g,0,none⟩),.func (.func 215) #[] #[]] w λe w'=>∃ t:ByteArray,e=.returned (.string t)/\t.data.toList=cut s i (Bj B0 s i)/\Rd w' g s (i+Bj B0 s i) (Cs s i p (Bj B0 s i))/\w.grownBy w' (some g):=Qs _ _ (enters_of Tryz.func215 rfl rfl) FT s g i p w hs hi hp hr
end Go.Proofs.YtlmhajfbpplpoaaGreat
