/- Layer 10: bytes are take -/
import Derived.Test.YtlmhajfbpplpoaaGreatPBV
set_option linter.all false
open List renaming drop_succ_cons->AsX,drop_zero->υ,getElem?_cons_succ->ArF,getElem?_cons_zero->ArZ,getElem?_toArray->Asd,setIfInBounds_toArray->ξ,set_cons_succ->γ,set_cons_zero->ε
open Nat renaming add_assoc->Aro
namespace Go.Proofs.YtlmhajfbpplpoaaGreat
open Lib renaming hid->Ω
open Tryz renaming prog->ψ
open Go.RowKit
def cut(s:ByteArray)(i n:Nat):List UInt8:=(s.data.toList.drop i).take n
def Bg(p:UInt8->Bool)(s:ByteArray)(i:Nat):Nat:=Fs p (s.data.toList.drop i)
theorem WM(q:UInt8->Bool)(s:ByteArray):Bg q s s.size=0:=by
 unfold Bg;rw[List.drop_of_length_le (by simp)];rfl
theorem Ri(q:UInt8->Bool)(s:ByteArray)(j:Nat)(h:j<s.size):Bg q s j=if q (Cy s j) then Bg q s (j+1)+1 else 0:=by
 unfold Bg;rw[RX s j h];rfl
theorem Abe(s:ByteArray)(i n:Nat):(s.extract i (i+n)).data.toList=cut s i n:=by
 unfold cut;rw[ByteArray.data_extract,Array.toList_extract,List.extract_eq_take_drop,Nat.add_sub_cancel_left]
theorem M1(q:UInt8->Bool)(s:ByteArray)(i:Nat)(h:i<=s.size):i+Bg q s i<=s.size:=by
 have:=N7 q (s.data.toList.drop i);rw[List.length_drop,Array.length_toList]at this;have e:s.data.size=s.size:=rfl;unfold Bg;omega
set_option maxRecDepth 100000 in
set_option maxHeartbeats 4000000 in
theorem Rv(fn:Nat)(q:UInt8->Bool)(hE:Vd ψ fn)(hq:∀(c:UInt8) (b:Int) (w:World),b=(c.toNat:Int)->Calls ψ fn #[.int .u8 b] w λe w'=>e=.returned (.bool (q c))/\w=w')(s:ByteArray)(g i:Nat)(p:Nat × Nat)(w:World)(hs:s.size<=20000)(hi:i<=s.size)(hp:Near p i)(hr:Rd w g s i p) :
  Calls ψ 213 #[.pointer (some ⟨g,0,none⟩),.func (.func fn) #[] #[]] w λe w'=>∃ t:ByteArray,e=.returned (.string t)/\t.data.toList=cut s i (Bg q s i)/\Rd w' g s (i+Bg q s i) (CP s i p (Bg q s i))/\w.grownBy w' (some g):=by
 have HR:=Ω hr;have HP:=Ω hp;obtain⟨c0,c1,_⟩:=hr.cells;have l0:g<w.heap.size:=BB c0;clear hr hp
 go_enter Tryz.func213,Tryz.ntmps213
 go_wp2_with fail
 clear c0 c1 l0
 go_loopw [10] (λ_ wr=>∃ n:Nat,i+n<=s.size/\n+Bg q s (i+n)=Bg q s i/\Rd wr g s (i+n) (CP s i p n)/\w.grownBy wr (some g)) (λ_ wr=>s.size-Pn g wr)
 case atStart=>exact⟨0,hi,by simp,by simpa[CP,adv]using HR.out,AJ (Below.refl _ _)⟩
 case round=>
  obtain⟨n,hn,hgap,hrd,hgr⟩:=hrel;have HRT:=Ω (Dl hrd);obtain⟨c0,c1,_⟩:=hrd.cells;have HRD:=Ω hrd;have HGR:=Ω hgr;have HGAP:=Ω hgap;have HPN:=Ω (FZ s i n p HP.out hn);have HC:=Ω (show ∀ W',Below wr.heap.size wr W'->W'.cell? ⟨g,0,none⟩=some (.string s)/\W'.cell? ⟨g,1,none⟩=some (.int .i64 ((i+n:Nat):Int)) from λW' h=>⟨(h.cell (p:=⟨g,0,none⟩) (BB c0)).trans c0,(h.cell (p:=⟨g,1,none⟩) (BB c1)).trans c1⟩);clear hrd hgr hgap c0 c1;generalize hj:i+n=j at *;have HIN:=Ω hj;clear hj
  by_cases hlt:j<s.size
  .have q0:(0:Int)<=(j:Int):=by omega
   have q1:(j:Int)<(s.size:Int):=by omega
   have q2:decide (j<s.size)=true:=by simpa using hlt
   have HV:=Ω (Mr s j hlt);have HA:=Ω (Ri q s j hlt);rcases ht:q (Cy s j) with _|_
   .have HT:=Ω ht
    have HG:=Ω (show Bg q s j=0 by rw[HA.out,ht];rfl);clear ht
    go_wp2_with fail
    refine Ge (L:=#[false,false,false,false,false,false,false,false,false,false,false,false,false,false,false,false,false,false,false,false,false,false,true]) 22 (by kernel_rfl) (by kernel_rfl) (by kernel_rfl) ?_;have hF0:∀ k,Lt wr.drew.heap.size k->k<wr.drew.heap.size:=λ_ h=>h
    refine Aq (i:=0) (v:=?_) rfl (by kernel_rfl) (by kernel_rfl) (by kernel_rfl) (λ_ _ _ h=>h) hF0 (Or.inl ⟨by rfl,?_⟩) ?_
    rotate_left
    focus
     intro W' hj;obtain⟨y0,y1⟩:=HC.out _ (Jmp.low hj);clear hj
     go_simp
     try with_reducible rfl
    simp only[Act.put,ξ,ε,γ];refine Aq (i:=1) (v:=?_) rfl (by kernel_rfl) (by kernel_rfl) (by kernel_rfl) (λ_ _ _ h=>h) hF0 (Or.inl ⟨by rfl,?_⟩) ?_
    rotate_left
    focus
     intro W' hj;obtain⟨y0,y1⟩:=HC.out _ (Jmp.low hj);clear hj
     go_simp
     try with_reducible rfl
    simp only[Act.put,ξ,ε,γ];refine Aq (i:=2) (v:=?_) rfl (by kernel_rfl) (by kernel_rfl) (by kernel_rfl) (λ_ _ _ h=>h) hF0 (Or.inl ⟨by rfl,?_⟩) ?_
    rotate_left
    focus
     intro W' hj;obtain⟨y0,y1⟩:=HC.out _ (Jmp.low hj);clear hj
     go_simp
     try with_reducible rfl
    simp only[Act.put,ξ,ε,γ];refine Aq (i:=3) (v:=?_) rfl (by kernel_rfl) (by kernel_rfl) (by kernel_rfl) (λ_ _ _ h=>h) hF0 (Or.inl ⟨by rfl,?_⟩) ?_
    rotate_left
    focus
     intro W' hj;obtain⟨y0,y1⟩:=HC.out _ (Jmp.low hj);clear hj
     go_simp
     try with_reducible rfl
    simp only[Act.put,ξ,ε,γ];refine Aq (i:=4) (v:=?_) rfl (by kernel_rfl) (by kernel_rfl) (by kernel_rfl) (λ_ _ _ h=>h) hF0 (Or.inl ⟨by rfl,?_⟩) ?_
    rotate_left
    focus
     intro W' hj;obtain⟨y0,y1⟩:=HC.out _ (Jmp.low hj);clear hj
     go_simp
     try with_reducible rfl
    simp only[Act.put,ξ,ε,γ];refine Aq (i:=5) (v:=?_) rfl (by kernel_rfl) (by kernel_rfl) (by kernel_rfl) (λ_ _ _ h=>h) hF0 (Or.inl ⟨by rfl,?_⟩) ?_
    rotate_left
    focus
     intro W' hj;obtain⟨y0,y1⟩:=HC.out _ (Jmp.low hj);clear hj
     go_simp
     try with_reducible rfl
    simp only[Act.put,ξ,ε,γ];refine Aq (i:=6) (v:=?_) rfl (by kernel_rfl) (by kernel_rfl) (by kernel_rfl) (λ_ _ _ h=>h) hF0 (Or.inl ⟨by rfl,?_⟩) ?_
    rotate_left
    focus
     intro W' hj;obtain⟨y0,y1⟩:=HC.out _ (Jmp.low hj);clear hj
     go_simp
     try with_reducible rfl
    simp only[Act.put,ξ,ε,γ];refine Aq (i:=7) (v:=?_) rfl (by kernel_rfl) (by kernel_rfl) (by kernel_rfl) (λ_ _ _ h=>h) hF0 (Or.inl ⟨by rfl,?_⟩) ?_
    rotate_left
    focus
     intro W' hj;obtain⟨y0,y1⟩:=HC.out _ (Jmp.low hj);clear hj
     go_simp
     try with_reducible rfl
    simp only[Act.put,ξ,ε,γ];refine Aq (i:=8) (v:=?_) rfl (by kernel_rfl) (by kernel_rfl) (by kernel_rfl) (λ_ _ _ h=>h) hF0 (Or.inl ⟨by rfl,?_⟩) ?_
    rotate_left
    focus
     intro W' hj;obtain⟨y0,y1⟩:=HC.out _ (Jmp.low hj);clear hj
     go_simp
     try with_reducible rfl
    simp only[Act.put,ξ,ε,γ];refine Aq (i:=9) (v:=?_) rfl (by kernel_rfl) (by kernel_rfl) (by kernel_rfl) (λ_ _ _ h=>h) hF0 (Or.inl ⟨by rfl,?_⟩) ?_
    rotate_left
    focus
     intro W' hj;obtain⟨y0,y1⟩:=HC.out _ (Jmp.low hj);clear hj
     go_simp
     try with_reducible rfl
    simp only[Act.put,ξ,ε,γ];refine Aq (i:=10) (v:=?_) rfl (by kernel_rfl) (by kernel_rfl) (by kernel_rfl) (λ_ _ _ h=>h) hF0 (Or.inl ⟨by rfl,?_⟩) ?_
    rotate_left
    focus
     intro W' hj;obtain⟨y0,y1⟩:=HC.out _ (Jmp.low hj);clear hj
     go_simp
     try with_reducible rfl
    simp only[Act.put,ξ,ε,γ];refine Aq (i:=11) (v:=?_) rfl (by kernel_rfl) (by kernel_rfl) (by kernel_rfl) (λ_ _ _ h=>h) hF0 (Or.inl ⟨by rfl,?_⟩) ?_
    rotate_left
    focus
     intro W' hj;obtain⟨y0,y1⟩:=HC.out _ (Jmp.low hj);clear hj
     go_simp
     try with_reducible rfl
    simp only[Act.put,ξ,ε,γ];refine Aq (i:=12) (v:=?_) rfl (by kernel_rfl) (by kernel_rfl) (by kernel_rfl) (λ_ _ _ h=>h) hF0 (Or.inl ⟨by rfl,?_⟩) ?_
    rotate_left
    focus
     intro W' hj;obtain⟨y0,y1⟩:=HC.out _ (Jmp.low hj);clear hj
     go_simp
     try with_reducible rfl
    simp only[Act.put,ξ,ε,γ];refine Aq (i:=13) (v:=?_) rfl (by kernel_rfl) (by kernel_rfl) (by kernel_rfl) (λ_ _ _ h=>h) hF0 (Or.inl ⟨by rfl,?_⟩) ?_
    rotate_left
    focus
     intro W' hj;obtain⟨y0,y1⟩:=HC.out _ (Jmp.low hj);clear hj
     go_simp
     try with_reducible rfl
    simp only[Act.put,ξ,ε,γ];refine Aq (i:=14) (v:=?_) rfl (by kernel_rfl) (by kernel_rfl) (by kernel_rfl) (λ_ _ _ h=>h) hF0 (Or.inl ⟨by rfl,?_⟩) ?_
    rotate_left
    focus
     intro W' hj;obtain⟨y0,y1⟩:=HC.out _ (Jmp.low hj);clear hj
     go_simp
     try with_reducible rfl
    simp only[Act.put,ξ,ε,γ];refine Aq (i:=15) (v:=?_) rfl (by kernel_rfl) (by kernel_rfl) (by kernel_rfl) (λ_ _ _ h=>h) hF0 (Or.inl ⟨by rfl,?_⟩) ?_
    rotate_left
    focus
     intro W' hj;obtain⟨y0,y1⟩:=HC.out _ (Jmp.low hj);clear hj
     go_simp
     try with_reducible rfl
    simp only[Act.put,ξ,ε,γ];refine Aq (i:=16) (v:=?_) rfl (by kernel_rfl) (by kernel_rfl) (by kernel_rfl) (λ_ _ _ h=>h) hF0 (Or.inl ⟨by rfl,?_⟩) ?_
    rotate_left
    focus
     intro W' hj;obtain⟨y0,y1⟩:=HC.out _ (Jmp.low hj);clear hj
     go_simp
     try with_reducible rfl
    simp only[Act.put,ξ,ε,γ];refine Aq (i:=17) (v:=?_) rfl (by kernel_rfl) (by kernel_rfl) (by kernel_rfl) (λ_ _ _ h=>h) hF0 (Or.inl ⟨by rfl,?_⟩) ?_
    rotate_left
    focus
     intro W' hj;obtain⟨y0,y1⟩:=HC.out _ (Jmp.low hj);clear hj
     go_simp
     try with_reducible rfl
    simp only[Act.put,ξ,ε,γ];refine Aq (i:=18) (v:=?_) rfl (by kernel_rfl) (by kernel_rfl) (by kernel_rfl) (λ_ _ _ h=>h) hF0 (Or.inl ⟨by rfl,?_⟩) ?_
    rotate_left
    focus
     intro W' hj;obtain⟨y0,y1⟩:=HC.out _ (Jmp.low hj);clear hj
     go_simp
     try with_reducible rfl
    simp only[Act.put,ξ,ε,γ];refine Aq (i:=19) (v:=?_) rfl (by kernel_rfl) (by kernel_rfl) (by kernel_rfl) (λ_ _ _ h=>h) hF0 (Or.inl ⟨by rfl,?_⟩) ?_
    rotate_left
    focus
     intro W' hj;obtain⟨y0,y1⟩:=HC.out _ (Jmp.low hj);clear hj
     go_simp
     try with_reducible rfl
    simp only[Act.put,ξ,ε,γ];refine Aq (i:=20) (v:=?_) rfl (by kernel_rfl) (by kernel_rfl) (by kernel_rfl) (λ_ _ _ h=>h) hF0 (Or.inl ⟨by rfl,?_⟩) ?_
    rotate_left
    focus
     intro W' hj;obtain⟨y0,y1⟩:=HC.out _ (Jmp.low hj);clear hj
     go_simp
     try with_reducible rfl
    simp only[Act.put,ξ,ε,γ];refine Rx (i:=21) (by kernel_rfl) rfl λv21 j21 K21 k21=>?_
    go_wp2_with fail
    unfold Vd at hE;rw[hE,Oper.upon_enter];refine(hq (Cy s j) ((s[j]'hlt).toNat:Int) v21 (by rw[HV.out])).mono ?_;rw[HT.out];rintro e21 w21 ⟨rfl,rfl⟩;have b21:=Below.refl v21.heap.size v21
    go_wp2_with fail
    refine k21.out _ _ b21 ?_;clear k21;have hF22:=VY (j21.grow hF0) b21.size;refine SN (by kernel_rfl) (λwz jz=>?_) _;have hlow:=Jmp.low (j21.back hF0 b21 jz);have HZ:=Ω hlow;clear hlow jz;refine⟨by kernel_rfl,?_⟩
    try simp only[Act.put,ξ,ε,γ]
    simp only[AsX,υ]
    go_wp2_with fail
    have hk:=Blk.call HRD.out HZ.out;have c3:=hk.cell 0;have c4:=hk.cell 1;simp only[Asd,ArZ,ArF]at c3 c4;have l3:g<wz.heap.size:=BB c3;clear hk;have z0:(i:Int)<=(j:Int):=by have:=HIN.out;omega
    have z1:(j:Int)<=(s.size:Int):=by have:=HIN.out;omega
    have z2:i<=j:=by omega
    refine AI (by kernel_rfl) (by kernel_rfl) ?_
    repeat (go_big_quiet_step (fail))
    refine wpQuiet_nil ?_;rintro _ ⟨y,rfl⟩
    go_wp2
    go_ret
    have hj:=HIN.out;subst hj;have hz:n=Bg q s i:=by have:=HGAP.out;rw[HG.out]at this;omega
    refine⟨_,rfl,?_,?_,A1 HGR.out (AJ (AQ HZ.out (AY _ _)))⟩
    .rw[←hz]
     exact Abe s i n
    .rw[←hz]
     exact Blk.call HRD.out (AQ HZ.out (AY _ _))
   .have HT:=Ω ht
    have HG:=Ω (show Bg q s j=Bg q s (j+1)+1 by rw[HA.out,ht];rfl);clear ht
    go_wp2_with fail
    refine Ge (L:=#[false,false,false,false,false,false,false,false,false,false,false,false,false,false,false,false,false,false,false,false,false,false,true]) 22 (by kernel_rfl) (by kernel_rfl) (by kernel_rfl) ?_;have hF0:∀ k,Lt wr.drew.heap.size k->k<wr.drew.heap.size:=λ_ h=>h
    refine Aq (i:=0) (v:=?_) rfl (by kernel_rfl) (by kernel_rfl) (by kernel_rfl) (λ_ _ _ h=>h) hF0 (Or.inl ⟨by rfl,?_⟩) ?_
    rotate_left
    focus
     intro W' hj;obtain⟨y0,y1⟩:=HC.out _ (Jmp.low hj);clear hj
     go_simp
     try with_reducible rfl
    simp only[Act.put,ξ,ε,γ];refine Aq (i:=1) (v:=?_) rfl (by kernel_rfl) (by kernel_rfl) (by kernel_rfl) (λ_ _ _ h=>h) hF0 (Or.inl ⟨by rfl,?_⟩) ?_
    rotate_left
    focus
     intro W' hj;obtain⟨y0,y1⟩:=HC.out _ (Jmp.low hj);clear hj
     go_simp
     try with_reducible rfl
    simp only[Act.put,ξ,ε,γ];refine Aq (i:=2) (v:=?_) rfl (by kernel_rfl) (by kernel_rfl) (by kernel_rfl) (λ_ _ _ h=>h) hF0 (Or.inl ⟨by rfl,?_⟩) ?_
    rotate_left
    focus
     intro W' hj;obtain⟨y0,y1⟩:=HC.out _ (Jmp.low hj);clear hj
     go_simp
     try with_reducible rfl
    simp only[Act.put,ξ,ε,γ];refine Aq (i:=3) (v:=?_) rfl (by kernel_rfl) (by kernel_rfl) (by kernel_rfl) (λ_ _ _ h=>h) hF0 (Or.inl ⟨by rfl,?_⟩) ?_
    rotate_left
    focus
     intro W' hj;obtain⟨y0,y1⟩:=HC.out _ (Jmp.low hj);clear hj
     go_simp
     try with_reducible rfl
    simp only[Act.put,ξ,ε,γ];refine Aq (i:=4) (v:=?_) rfl (by kernel_rfl) (by kernel_rfl) (by kernel_rfl) (λ_ _ _ h=>h) hF0 (Or.inl ⟨by rfl,?_⟩) ?_
    rotate_left
    focus
     intro W' hj;obtain⟨y0,y1⟩:=HC.out _ (Jmp.low hj);clear hj
     go_simp
     try with_reducible rfl
    simp only[Act.put,ξ,ε,γ];refine Aq (i:=5) (v:=?_) rfl (by kernel_rfl) (by kernel_rfl) (by kernel_rfl) (λ_ _ _ h=>h) hF0 (Or.inl ⟨by rfl,?_⟩) ?_
    rotate_left
    focus
     intro W' hj;obtain⟨y0,y1⟩:=HC.out _ (Jmp.low hj);clear hj
     go_simp
     try with_reducible rfl
    simp only[Act.put,ξ,ε,γ];refine Aq (i:=6) (v:=?_) rfl (by kernel_rfl) (by kernel_rfl) (by kernel_rfl) (λ_ _ _ h=>h) hF0 (Or.inl ⟨by rfl,?_⟩) ?_
    rotate_left
    focus
     intro W' hj;obtain⟨y0,y1⟩:=HC.out _ (Jmp.low hj);clear hj
     go_simp
     try with_reducible rfl
    simp only[Act.put,ξ,ε,γ];refine Aq (i:=7) (v:=?_) rfl (by kernel_rfl) (by kernel_rfl) (by kernel_rfl) (λ_ _ _ h=>h) hF0 (Or.inl ⟨by rfl,?_⟩) ?_
    rotate_left
    focus
     intro W' hj;obtain⟨y0,y1⟩:=HC.out _ (Jmp.low hj);clear hj
     go_simp
     try with_reducible rfl
    simp only[Act.put,ξ,ε,γ];refine Aq (i:=8) (v:=?_) rfl (by kernel_rfl) (by kernel_rfl) (by kernel_rfl) (λ_ _ _ h=>h) hF0 (Or.inl ⟨by rfl,?_⟩) ?_
    rotate_left
    focus
     intro W' hj;obtain⟨y0,y1⟩:=HC.out _ (Jmp.low hj);clear hj
     go_simp
     try with_reducible rfl
    simp only[Act.put,ξ,ε,γ];refine Aq (i:=9) (v:=?_) rfl (by kernel_rfl) (by kernel_rfl) (by kernel_rfl) (λ_ _ _ h=>h) hF0 (Or.inl ⟨by rfl,?_⟩) ?_
    rotate_left
    focus
     intro W' hj;obtain⟨y0,y1⟩:=HC.out _ (Jmp.low hj);clear hj
     go_simp
     try with_reducible rfl
    simp only[Act.put,ξ,ε,γ];refine Aq (i:=10) (v:=?_) rfl (by kernel_rfl) (by kernel_rfl) (by kernel_rfl) (λ_ _ _ h=>h) hF0 (Or.inl ⟨by rfl,?_⟩) ?_
    rotate_left
    focus
     intro W' hj;obtain⟨y0,y1⟩:=HC.out _ (Jmp.low hj);clear hj
     go_simp
     try with_reducible rfl
    simp only[Act.put,ξ,ε,γ];refine Aq (i:=11) (v:=?_) rfl (by kernel_rfl) (by kernel_rfl) (by kernel_rfl) (λ_ _ _ h=>h) hF0 (Or.inl ⟨by rfl,?_⟩) ?_
    rotate_left
    focus
     intro W' hj;obtain⟨y0,y1⟩:=HC.out _ (Jmp.low hj);clear hj
     go_simp
     try with_reducible rfl
    simp only[Act.put,ξ,ε,γ];refine Aq (i:=12) (v:=?_) rfl (by kernel_rfl) (by kernel_rfl) (by kernel_rfl) (λ_ _ _ h=>h) hF0 (Or.inl ⟨by rfl,?_⟩) ?_
    rotate_left
    focus
     intro W' hj;obtain⟨y0,y1⟩:=HC.out _ (Jmp.low hj);clear hj
     go_simp
     try with_reducible rfl
    simp only[Act.put,ξ,ε,γ];refine Aq (i:=13) (v:=?_) rfl (by kernel_rfl) (by kernel_rfl) (by kernel_rfl) (λ_ _ _ h=>h) hF0 (Or.inl ⟨by rfl,?_⟩) ?_
    rotate_left
    focus
     intro W' hj;obtain⟨y0,y1⟩:=HC.out _ (Jmp.low hj);clear hj
     go_simp
     try with_reducible rfl
    simp only[Act.put,ξ,ε,γ];refine Aq (i:=14) (v:=?_) rfl (by kernel_rfl) (by kernel_rfl) (by kernel_rfl) (λ_ _ _ h=>h) hF0 (Or.inl ⟨by rfl,?_⟩) ?_
    rotate_left
    focus
     intro W' hj;obtain⟨y0,y1⟩:=HC.out _ (Jmp.low hj);clear hj
     go_simp
     try with_reducible rfl
    simp only[Act.put,ξ,ε,γ];refine Aq (i:=15) (v:=?_) rfl (by kernel_rfl) (by kernel_rfl) (by kernel_rfl) (λ_ _ _ h=>h) hF0 (Or.inl ⟨by rfl,?_⟩) ?_
    rotate_left
    focus
     intro W' hj;obtain⟨y0,y1⟩:=HC.out _ (Jmp.low hj);clear hj
     go_simp
     try with_reducible rfl
    simp only[Act.put,ξ,ε,γ];refine Aq (i:=16) (v:=?_) rfl (by kernel_rfl) (by kernel_rfl) (by kernel_rfl) (λ_ _ _ h=>h) hF0 (Or.inl ⟨by rfl,?_⟩) ?_
    rotate_left
    focus
     intro W' hj;obtain⟨y0,y1⟩:=HC.out _ (Jmp.low hj);clear hj
     go_simp
     try with_reducible rfl
    simp only[Act.put,ξ,ε,γ];refine Aq (i:=17) (v:=?_) rfl (by kernel_rfl) (by kernel_rfl) (by kernel_rfl) (λ_ _ _ h=>h) hF0 (Or.inl ⟨by rfl,?_⟩) ?_
    rotate_left
    focus
     intro W' hj;obtain⟨y0,y1⟩:=HC.out _ (Jmp.low hj);clear hj
     go_simp
     try with_reducible rfl
    simp only[Act.put,ξ,ε,γ];refine Aq (i:=18) (v:=?_) rfl (by kernel_rfl) (by kernel_rfl) (by kernel_rfl) (λ_ _ _ h=>h) hF0 (Or.inl ⟨by rfl,?_⟩) ?_
    rotate_left
    focus
     intro W' hj;obtain⟨y0,y1⟩:=HC.out _ (Jmp.low hj);clear hj
     go_simp
     try with_reducible rfl
    simp only[Act.put,ξ,ε,γ];refine Aq (i:=19) (v:=?_) rfl (by kernel_rfl) (by kernel_rfl) (by kernel_rfl) (λ_ _ _ h=>h) hF0 (Or.inl ⟨by rfl,?_⟩) ?_
    rotate_left
    focus
     intro W' hj;obtain⟨y0,y1⟩:=HC.out _ (Jmp.low hj);clear hj
     go_simp
     try with_reducible rfl
    simp only[Act.put,ξ,ε,γ];refine Aq (i:=20) (v:=?_) rfl (by kernel_rfl) (by kernel_rfl) (by kernel_rfl) (λ_ _ _ h=>h) hF0 (Or.inl ⟨by rfl,?_⟩) ?_
    rotate_left
    focus
     intro W' hj;obtain⟨y0,y1⟩:=HC.out _ (Jmp.low hj);clear hj
     go_simp
     try with_reducible rfl
    simp only[Act.put,ξ,ε,γ];refine Rx (i:=21) (by kernel_rfl) rfl λv21 j21 K21 k21=>?_
    go_wp2_with fail
    unfold Vd at hE;rw[hE,Oper.upon_enter];refine(hq (Cy s j) ((s[j]'hlt).toNat:Int) v21 (by rw[HV.out])).mono ?_;rw[HT.out];rintro e21 w21 ⟨rfl,rfl⟩;have b21:=Below.refl v21.heap.size v21
    go_wp2_with fail
    refine k21.out _ _ b21 ?_;clear k21;have hF22:=VY (j21.grow hF0) b21.size;refine SN (by kernel_rfl) (λwz jz=>?_) _;have hlow:=Jmp.low (j21.back hF0 b21 jz);have HZ:=Ω hlow;clear hlow jz;refine⟨by kernel_rfl,?_⟩
    try simp only[Act.put,ξ,ε,γ]
    simp only[AsX,υ]
    go_wp2_with fail
    refine(E6 s g _ _ wz (by omega) hlt (HPN.out.small (by omega)) (Blk.call HRD.out HZ.out)).mono ?_;rintro e2 w2 ⟨rfl,hrd2,hg2⟩;have HRD2:=Ω hrd2;have HG2:=Ω hg2;clear hrd2 hg2
    go_wp2_with fail
    go_roundw
    case rel=>
     have hj:=HIN.out;subst hj;refine⟨n+1,by omega,?_,?_,A1 (A1 HGR.out (AJ HZ.out)) HG2.out⟩
     .have h1:=HGAP.out
      rw[HG.out]at h1;rw[←Aro i n 1];omega
     .have h1:=HRD2.out
      rw[D4 s i n p hlt,Aro]at h1;exact h1
    case measure=>
     rw[HRT.out,Dl HRD2.out];omega
  .have he:j=s.size:=by omega
   have q2:decide (j<s.size)=false:=by simpa using hlt
   have q1:¬ (j:Int)<(s.size:Int):=by omega
   have HG:=Ω (show Bg q s j=0 by rw[he];exact WM q s);clear he
   go_wp2_with fail
   refine Ge (L:=#[false,false,false,false,false,false,false,false,false,false,false,false,false,false,false,false,false,false,false,false,false,false,true]) 22 (by kernel_rfl) (by kernel_rfl) (by kernel_rfl) ?_;have hF0:∀ k,Lt wr.drew.heap.size k->k<wr.drew.heap.size:=λ_ h=>h
   refine Aq (i:=0) (v:=?_) rfl (by kernel_rfl) (by kernel_rfl) (by kernel_rfl) (λ_ _ _ h=>h) hF0 (Or.inl ⟨by rfl,?_⟩) ?_
   rotate_left
   focus
    intro W' hj;obtain⟨y0,y1⟩:=HC.out _ (Jmp.low hj);clear hj
    go_simp
    try with_reducible rfl
   simp only[Act.put,ξ,ε,γ];refine Aq (i:=1) (v:=?_) rfl (by kernel_rfl) (by kernel_rfl) (by kernel_rfl) (λ_ _ _ h=>h) hF0 (Or.inl ⟨by rfl,?_⟩) ?_
   rotate_left
   focus
    intro W' hj;obtain⟨y0,y1⟩:=HC.out _ (Jmp.low hj);clear hj
    go_simp
    try with_reducible rfl
   simp only[Act.put,ξ,ε,γ];refine Aq (i:=2) (v:=?_) rfl (by kernel_rfl) (by kernel_rfl) (by kernel_rfl) (λ_ _ _ h=>h) hF0 (Or.inl ⟨by rfl,?_⟩) ?_
   rotate_left
   focus
    intro W' hj;obtain⟨y0,y1⟩:=HC.out _ (Jmp.low hj);clear hj
    go_simp
    try with_reducible rfl
   simp only[Act.put,ξ,ε,γ];refine Aq (i:=3) (v:=?_) rfl (by kernel_rfl) (by kernel_rfl) (by kernel_rfl) (λ_ _ _ h=>h) hF0 (Or.inl ⟨by rfl,?_⟩) ?_
   rotate_left
   focus
    intro W' hj;obtain⟨y0,y1⟩:=HC.out _ (Jmp.low hj);clear hj
    go_simp
    try with_reducible rfl
   simp only[Act.put,ξ,ε,γ];refine Aq (i:=4) (v:=?_) rfl (by kernel_rfl) (by kernel_rfl) (by kernel_rfl) (λ_ _ _ h=>h) hF0 (Or.inl ⟨by rfl,?_⟩) ?_
   rotate_left
   focus
    intro W' hj;obtain⟨y0,y1⟩:=HC.out _ (Jmp.low hj);clear hj
    go_simp
    try with_reducible rfl
   simp only[Act.put,ξ,ε,γ];refine Aq (i:=5) (v:=?_) rfl (by kernel_rfl) (by kernel_rfl) (by kernel_rfl) (λ_ _ _ h=>h) hF0 (Or.inl ⟨by rfl,?_⟩) ?_
   rotate_left
   focus
    intro W' hj;obtain⟨y0,y1⟩:=HC.out _ (Jmp.low hj);clear hj
    go_simp
    try with_reducible rfl
   simp only[Act.put,ξ,ε,γ];refine Aq (i:=6) (v:=?_) rfl (by kernel_rfl) (by kernel_rfl) (by kernel_rfl) (λ_ _ _ h=>h) hF0 (Or.inl ⟨by rfl,?_⟩) ?_
   rotate_left
   focus
    intro W' hj;obtain⟨y0,y1⟩:=HC.out _ (Jmp.low hj);clear hj
    go_simp
    try with_reducible rfl
   simp only[Act.put,ξ,ε,γ];refine Aq (i:=7) (v:=?_) rfl (by kernel_rfl) (by kernel_rfl) (by kernel_rfl) (λ_ _ _ h=>h) hF0 (Or.inl ⟨by rfl,?_⟩) ?_
   rotate_left
   focus
    intro W' hj;obtain⟨y0,y1⟩:=HC.out _ (Jmp.low hj);clear hj
    go_simp
    try with_reducible rfl
   simp only[Act.put,ξ,ε,γ];refine Aq (i:=8) (v:=?_) rfl (by kernel_rfl) (by kernel_rfl) (by kernel_rfl) (λ_ _ _ h=>h) hF0 (Or.inl ⟨by rfl,?_⟩) ?_
   rotate_left
   focus
    intro W' hj;obtain⟨y0,y1⟩:=HC.out _ (Jmp.low hj);clear hj
    go_simp
    try with_reducible rfl
   simp only[Act.put,ξ,ε,γ];refine Aq (i:=9) (v:=?_) rfl (by kernel_rfl) (by kernel_rfl) (by kernel_rfl) (λ_ _ _ h=>h) hF0 (Or.inl ⟨by rfl,?_⟩) ?_
   rotate_left
   focus
    intro W' hj;obtain⟨y0,y1⟩:=HC.out _ (Jmp.low hj);clear hj
    go_simp
    try with_reducible rfl
   simp only[Act.put,ξ,ε,γ];refine Aq (i:=10) (v:=?_) rfl (by kernel_rfl) (by kernel_rfl) (by kernel_rfl) (λ_ _ _ h=>h) hF0 (Or.inl ⟨by rfl,?_⟩) ?_
   rotate_left
   focus
    intro W' hj;obtain⟨y0,y1⟩:=HC.out _ (Jmp.low hj);clear hj
    go_simp
    try with_reducible rfl
   simp only[Act.put,ξ,ε,γ];refine Aq (i:=11) (v:=undef) rfl (by kernel_rfl) (by kernel_rfl) (by kernel_rfl) (λ_ _ _ h=>h) hF0 (Or.inr ⟨by rfl,rfl⟩) ?_;simp only[Act.put,ξ,ε,γ];refine Aq (i:=12) (v:=undef) rfl (by kernel_rfl) (by kernel_rfl) (by kernel_rfl) (λ_ _ _ h=>h) hF0 (Or.inr ⟨by rfl,rfl⟩) ?_;simp only[Act.put,ξ,ε,γ];refine Aq (i:=13) (v:=undef) rfl (by kernel_rfl) (by kernel_rfl) (by kernel_rfl) (λ_ _ _ h=>h) hF0 (Or.inr ⟨by rfl,rfl⟩) ?_;simp only[Act.put,ξ,ε,γ];refine Aq (i:=14) (v:=undef) rfl (by kernel_rfl) (by kernel_rfl) (by kernel_rfl) (λ_ _ _ h=>h) hF0 (Or.inr ⟨by rfl,rfl⟩) ?_;simp only[Act.put,ξ,ε,γ];refine Aq (i:=15) (v:=undef) rfl (by kernel_rfl) (by kernel_rfl) (by kernel_rfl) (λ_ _ _ h=>h) hF0 (Or.inr ⟨by rfl,rfl⟩) ?_;simp only[Act.put,ξ,ε,γ];refine Aq (i:=16) (v:=undef) rfl (by kernel_rfl) (by kernel_rfl) (by kernel_rfl) (λ_ _ _ h=>h) hF0 (Or.inr ⟨by rfl,rfl⟩) ?_;simp only[Act.put,ξ,ε,γ];refine Aq (i:=17) (v:=undef) rfl (by kernel_rfl) (by kernel_rfl) (by kernel_rfl) (λ_ _ _ h=>h) hF0 (Or.inr ⟨by rfl,rfl⟩) ?_;simp only[Act.put,ξ,ε,γ];refine Aq (i:=18) (v:=undef) rfl (by kernel_rfl) (by kernel_rfl) (by kernel_rfl) (λ_ _ _ h=>h) hF0 (Or.inr ⟨by rfl,rfl⟩) ?_;simp only[Act.put,ξ,ε,γ];refine Aq (i:=19) (v:=undef) rfl (by kernel_rfl) (by kernel_rfl) (by kernel_rfl) (λ_ _ _ h=>h) hF0 (Or.inr ⟨by rfl,rfl⟩) ?_;simp only[Act.put,ξ,ε,γ];refine Aq (i:=20) (v:=undef) rfl (by kernel_rfl) (by kernel_rfl) (by kernel_rfl) (λ_ _ _ h=>h) hF0 (Or.inr ⟨by rfl,rfl⟩) ?_;simp only[Act.put,ξ,ε,γ];refine Aq (i:=21) (v:=undef) rfl (by kernel_rfl) (by kernel_rfl) (by kernel_rfl) (λ_ _ _ h=>h) hF0 (Or.inr ⟨by rfl,rfl⟩) ?_;simp only[Act.put,ξ,ε,γ];refine SN (by kernel_rfl) (λwz jz=>?_) _;have hlow:=Jmp.low jz;have HZ:=Ω hlow;clear hlow jz;refine⟨by kernel_rfl,?_⟩
   try simp only[Act.put,ξ,ε,γ]
   simp only[AsX,υ]
   go_wp2_with fail
   have hk:=Blk.call HRD.out HZ.out;have c3:=hk.cell 0;have c4:=hk.cell 1;simp only[Asd,ArZ,ArF]at c3 c4;have l3:g<wz.heap.size:=BB c3;clear hk;have z0:(i:Int)<=(j:Int):=by have:=HIN.out;omega
   have z1:(j:Int)<=(s.size:Int):=by have:=HIN.out;omega
   have z2:i<=j:=by omega
   refine AI (by kernel_rfl) (by kernel_rfl) ?_
   repeat (go_big_quiet_step (fail))
   refine wpQuiet_nil ?_;rintro _ ⟨y,rfl⟩
   go_wp2
   go_ret
   have hj:=HIN.out;subst hj;have hz:n=Bg q s i:=by have:=HGAP.out;rw[HG.out]at this;omega
   refine⟨_,rfl,?_,?_,A1 HGR.out (AJ (AQ HZ.out (AY _ _)))⟩
   .rw[←hz]
    exact Abe s i n
   .rw[←hz]
    exact Blk.call HRD.out (AQ HZ.out (AY _ _))
theorem U7(s:ByteArray)(g i:Nat)(p:Nat × Nat)(w:World)(hs:s.size<=20000)(hi:i<=s.size)(hp:Near p i)(hr:Rd w g s i p) :
  Calls ψ 213 #[.pointer (some ⟨g,0,none⟩),.func (.func 214) #[] #[]] w λe w'=>∃ t:ByteArray,e=.returned (.string t)/\t.data.toList=cut s i (Bg Ep s i)/\Rd w' g s (i+Bg Ep s i) (CP s i p (Bg Ep s i))/\w.grownBy w' (some g):=Rv _ _ (enters_of Tryz.func214 rfl rfl) MM s g i p w hs hi hp hr
theorem Jm(s:ByteArray)(g i:Nat)(p:Nat × Nat)(w:World)(hs:s.size<=20000)(hi:i<=s.size)(hp:Near p i)(hr:Rd w g s i p) :
  Calls ψ 213 #[.pointer (some ⟨g,0,none⟩),.func (.func 215) #[] #[]] w λe w'=>∃ t:ByteArray,e=.returned (.string t)/\t.data.toList=cut s i (Bg BF s i)/\Rd w' g s (i+Bg BF s i) (CP s i p (Bg BF s i))/\w.grownBy w' (some g):=Rv _ _ (enters_of Tryz.func215 rfl rfl) GS s g i p w hs hi hp hr
end Go.Proofs.YtlmhajfbpplpoaaGreat
