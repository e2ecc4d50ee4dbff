/- Layer 10: bytes are taken as long as they may be a -/
import Derived.Test.YtlmhajfbpplpoaaGreatSBJ
set_option linter.unusedSectionVars false
set_option linter.unusedSimpArgs false
set_option linter.unusedVariables false
namespace Go.Proofs.YtlmhajfbpplpoaaGreat
open Go.RowKit
def cut(s:ByteArray)(i n:Nat):List UInt8:=(s.data.toList.drop i).take n
def Bq(p:UInt8->Bool)(s:ByteArray)(i:Nat):Nat:=Gd p (s.data.toList.drop i)
theorem Uq(q:UInt8->Bool)(s:ByteArray):Bq q s s.size=0:=by
 unfold Bq
 rw[List.drop_of_length_le (by simp)]
 rfl
theorem Ps(q:UInt8->Bool)(s:ByteArray)(j:Nat)(h:j<s.size):Bq q s j=if q (Cl s j) then Bq q s (j+1)+1 else 0:=by
 unfold Bq
 rw[Qc s j h]
 rfl
theorem Yb(s:ByteArray)(i n:Nat):(s.extract i (i+n)).data.toList=cut s i n:=by
 unfold cut
 rw[ByteArray.data_extract,Array.toList_extract,List.extract_eq_take_drop,Nat.add_sub_cancel_left]
theorem Lb(q:UInt8->Bool)(s:ByteArray)(i:Nat)(h:i<=s.size):i+Bq q s i<=s.size:=by
 have:=Ml q (s.data.toList.drop i)
 rw[List.length_drop,Array.length_toList]at this
 have e:s.data.size=s.size:=rfl
 unfold Bq
 omega
set_option maxRecDepth 100000 in
set_option maxHeartbeats 4000000 in
theorem PL(fn:Nat)(q:UInt8->Bool)(hE:S8 Tryz.prog fn)(hq:∀(c:UInt8) (b:Int) (w:World),b=(c.toNat:Int)->Calls Tryz.prog fn #[.int .u8 b] w fun e w'=>e=.returned (.bool (q c))/\w=w')(s:ByteArray)(g i:Nat)(p:Nat × Nat)(w:World)(hs:s.size<=20000)(hi:i<=s.size)(hp:Near p i)(hr:Rd w g s i p) :
  Calls Tryz.prog 213 #[.pointer (some ⟨g,0,none⟩),.func (.func fn) #[] #[]] w fun e w'=>∃ t:ByteArray,e=.returned (.string t)/\t.data.toList=cut s i (Bq q s i)/\Rd w' g s (i+Bq q s i) (CA s i p (Bq q s i))/\w.grownBy w' (some g):=by
 have HR:=Lib.hid hr
 have HP:=Lib.hid hp
 obtain⟨c0,c1,_⟩:=hr.cells
 have l0:g<w.heap.size:=BB c0
 clear hr hp
 go_enter Tryz.func213,Tryz.ntmps213
 go_wp2_with fail
 clear c0 c1 l0
 go_loopw [10] (fun _ wr=>∃ n:Nat,i+n<=s.size/\n+Bq q s (i+n)=Bq q s i/\Rd wr g s (i+n) (CA s i p n)/\w.grownBy wr (some g)) (fun _ wr=>s.size-NH g wr)
 case atStart=>exact⟨0,hi,by simp,by simpa[CA,adv]using HR.out,A2 (Below.refl _ _)⟩
 case round=>
  obtain⟨n,hn,hgap,hrd,hgr⟩:=hrel
  have HRT:=Lib.hid (CY hrd)
  obtain⟨c0,c1,_⟩:=hrd.cells
  have HRD:=Lib.hid hrd
  have HGR:=Lib.hid hgr
  have HGAP:=Lib.hid hgap
  have HPN:=Lib.hid (E6 s i n p HP.out hn)
  have HC:=Lib.hid (show ∀ W',Below wr.heap.size wr W'->W'.cell? ⟨g,0,none⟩=some (.string s)/\W'.cell? ⟨g,1,none⟩=some (.int .i64 ((i+n:Nat):Int)) from fun W' h=>⟨(h.cell (p:=⟨g,0,none⟩) (BB c0)).trans c0,(h.cell (p:=⟨g,1,none⟩) (BB c1)).trans c1⟩)
  clear hrd hgr hgap c0 c1
  generalize hj:i+n=j at *
  have HIN:=Lib.hid hj
  clear hj
  by_cases hlt:j<s.size
  .have q0:(0:Int)<=(j:Int):=by omega
   have q1:(j:Int)<(s.size:Int):=by omega
   have q2:decide (j<s.size)=true:=by simpa using hlt
   have HV:=Lib.hid (Kq s j hlt)
   have HA:=Lib.hid (Ps q s j hlt)
   rcases ht:q (Cl s j) with _|_
   .have HT:=Lib.hid ht
    have HG:=Lib.hid (show Bq q s j=0 by rw[HA.out,ht];rfl)
    clear ht
    go_wp2_with fail
    refine Fd (L:=#[false,false,false,false,false,false,false,false,false,false,false,false,false,false,false,false,false,false,false,false,false,false,true]) 22 (by kernel_rfl) (by kernel_rfl) (by kernel_rfl) ?_
    have hF0:∀ k,Lt wr.drew.heap.size k->k<wr.drew.heap.size:=fun _ h=>h
    refine Aw (i:=0) (v:=?_) rfl (by kernel_rfl) (by kernel_rfl) (by kernel_rfl) (fun _ _ _ h=>h) hF0 (Or.inl ⟨by rfl,?_⟩) ?_
    rotate_left
    focus
     intro W' hj
     obtain⟨y0,y1⟩:=HC.out _ (Jmp.low hj)
     clear hj
     go_simp
     try with_reducible rfl
    simp only[Act.put,List.setIfInBounds_toArray,List.set_cons_zero,List.set_cons_succ]
    refine Aw (i:=1) (v:=?_) rfl (by kernel_rfl) (by kernel_rfl) (by kernel_rfl) (fun _ _ _ h=>h) hF0 (Or.inl ⟨by rfl,?_⟩) ?_
    rotate_left
    focus
     intro W' hj
     obtain⟨y0,y1⟩:=HC.out _ (Jmp.low hj)
     clear hj
     go_simp
     try with_reducible rfl
    simp only[Act.put,List.setIfInBounds_toArray,List.set_cons_zero,List.set_cons_succ]
    refine Aw (i:=2) (v:=?_) rfl (by kernel_rfl) (by kernel_rfl) (by kernel_rfl) (fun _ _ _ h=>h) hF0 (Or.inl ⟨by rfl,?_⟩) ?_
    rotate_left
    focus
     intro W' hj
     obtain⟨y0,y1⟩:=HC.out _ (Jmp.low hj)
     clear hj
     go_simp
     try with_reducible rfl
    simp only[Act.put,List.setIfInBounds_toArray,List.set_cons_zero,List.set_cons_succ]
    refine Aw (i:=3) (v:=?_) rfl (by kernel_rfl) (by kernel_rfl) (by kernel_rfl) (fun _ _ _ h=>h) hF0 (Or.inl ⟨by rfl,?_⟩) ?_
    rotate_left
    focus
     intro W' hj
     obtain⟨y0,y1⟩:=HC.out _ (Jmp.low hj)
     clear hj
     go_simp
     try with_reducible rfl
    simp only[Act.put,List.setIfInBounds_toArray,List.set_cons_zero,List.set_cons_succ]
    refine Aw (i:=4) (v:=?_) rfl (by kernel_rfl) (by kernel_rfl) (by kernel_rfl) (fun _ _ _ h=>h) hF0 (Or.inl ⟨by rfl,?_⟩) ?_
    rotate_left
    focus
     intro W' hj
     obtain⟨y0,y1⟩:=HC.out _ (Jmp.low hj)
     clear hj
     go_simp
     try with_reducible rfl
    simp only[Act.put,List.setIfInBounds_toArray,List.set_cons_zero,List.set_cons_succ]
    refine Aw (i:=5) (v:=?_) rfl (by kernel_rfl) (by kernel_rfl) (by kernel_rfl) (fun _ _ _ h=>h) hF0 (Or.inl ⟨by rfl,?_⟩) ?_
    rotate_left
    focus
     intro W' hj
     obtain⟨y0,y1⟩:=HC.out _ (Jmp.low hj)
     clear hj
     go_simp
     try with_reducible rfl
    simp only[Act.put,List.setIfInBounds_toArray,List.set_cons_zero,List.set_cons_succ]
    refine Aw (i:=6) (v:=?_) rfl (by kernel_rfl) (by kernel_rfl) (by kernel_rfl) (fun _ _ _ h=>h) hF0 (Or.inl ⟨by rfl,?_⟩) ?_
    rotate_left
    focus
     intro W' hj
     obtain⟨y0,y1⟩:=HC.out _ (Jmp.low hj)
     clear hj
     go_simp
     try with_reducible rfl
    simp only[Act.put,List.setIfInBounds_toArray,List.set_cons_zero,List.set_cons_succ]
    refine Aw (i:=7) (v:=?_) rfl (by kernel_rfl) (by kernel_rfl) (by kernel_rfl) (fun _ _ _ h=>h) hF0 (Or.inl ⟨by rfl,?_⟩) ?_
    rotate_left
    focus
     intro W' hj
     obtain⟨y0,y1⟩:=HC.out _ (Jmp.low hj)
     clear hj
     go_simp
     try with_reducible rfl
    simp only[Act.put,List.setIfInBounds_toArray,List.set_cons_zero,List.set_cons_succ]
    refine Aw (i:=8) (v:=?_) rfl (by kernel_rfl) (by kernel_rfl) (by kernel_rfl) (fun _ _ _ h=>h) hF0 (Or.inl ⟨by rfl,?_⟩) ?_
    rotate_left
    focus
     intro W' hj
     obtain⟨y0,y1⟩:=HC.out _ (Jmp.low hj)
     clear hj
     go_simp
     try with_reducible rfl
    simp only[Act.put,List.setIfInBounds_toArray,List.set_cons_zero,List.set_cons_succ]
    refine Aw (i:=9) (v:=?_) rfl (by kernel_rfl) (by kernel_rfl) (by kernel_rfl) (fun _ _ _ h=>h) hF0 (Or.inl ⟨by rfl,?_⟩) ?_
    rotate_left
    focus
     intro W' hj
     obtain⟨y0,y1⟩:=HC.out _ (Jmp.low hj)
     clear hj
     go_simp
     try with_reducible rfl
    simp only[Act.put,List.setIfInBounds_toArray,List.set_cons_zero,List.set_cons_succ]
    refine Aw (i:=10) (v:=?_) rfl (by kernel_rfl) (by kernel_rfl) (by kernel_rfl) (fun _ _ _ h=>h) hF0 (Or.inl ⟨by rfl,?_⟩) ?_
    rotate_left
    focus
     intro W' hj
     obtain⟨y0,y1⟩:=HC.out _ (Jmp.low hj)
     clear hj
     go_simp
     try with_reducible rfl
    simp only[Act.put,List.setIfInBounds_toArray,List.set_cons_zero,List.set_cons_succ]
    refine Aw (i:=11) (v:=?_) rfl (by kernel_rfl) (by kernel_rfl) (by kernel_rfl) (fun _ _ _ h=>h) hF0 (Or.inl ⟨by rfl,?_⟩) ?_
    rotate_left
    focus
     intro W' hj
     obtain⟨y0,y1⟩:=HC.out _ (Jmp.low hj)
     clear hj
     go_simp
     try with_reducible rfl
    simp only[Act.put,List.setIfInBounds_toArray,List.set_cons_zero,List.set_cons_succ]
    refine Aw (i:=12) (v:=?_) rfl (by kernel_rfl) (by kernel_rfl) (by kernel_rfl) (fun _ _ _ h=>h) hF0 (Or.inl ⟨by rfl,?_⟩) ?_
    rotate_left
    focus
     intro W' hj
     obtain⟨y0,y1⟩:=HC.out _ (Jmp.low hj)
     clear hj
     go_simp
     try with_reducible rfl
    simp only[Act.put,List.setIfInBounds_toArray,List.set_cons_zero,List.set_cons_succ]
    refine Aw (i:=13) (v:=?_) rfl (by kernel_rfl) (by kernel_rfl) (by kernel_rfl) (fun _ _ _ h=>h) hF0 (Or.inl ⟨by rfl,?_⟩) ?_
    rotate_left
    focus
     intro W' hj
     obtain⟨y0,y1⟩:=HC.out _ (Jmp.low hj)
     clear hj
     go_simp
     try with_reducible rfl
    simp only[Act.put,List.setIfInBounds_toArray,List.set_cons_zero,List.set_cons_succ]
    refine Aw (i:=14) (v:=?_) rfl (by kernel_rfl) (by kernel_rfl) (by kernel_rfl) (fun _ _ _ h=>h) hF0 (Or.inl ⟨by rfl,?_⟩) ?_
    rotate_left
    focus
     intro W' hj
     obtain⟨y0,y1⟩:=HC.out _ (Jmp.low hj)
     clear hj
     go_simp
     try with_reducible rfl
    simp only[Act.put,List.setIfInBounds_toArray,List.set_cons_zero,List.set_cons_succ]
    refine Aw (i:=15) (v:=?_) rfl (by kernel_rfl) (by kernel_rfl) (by kernel_rfl) (fun _ _ _ h=>h) hF0 (Or.inl ⟨by rfl,?_⟩) ?_
    rotate_left
    focus
     intro W' hj
     obtain⟨y0,y1⟩:=HC.out _ (Jmp.low hj)
     clear hj
     go_simp
     try with_reducible rfl
    simp only[Act.put,List.setIfInBounds_toArray,List.set_cons_zero,List.set_cons_succ]
    refine Aw (i:=16) (v:=?_) rfl (by kernel_rfl) (by kernel_rfl) (by kernel_rfl) (fun _ _ _ h=>h) hF0 (Or.inl ⟨by rfl,?_⟩) ?_
    rotate_left
    focus
     intro W' hj
     obtain⟨y0,y1⟩:=HC.out _ (Jmp.low hj)
     clear hj
     go_simp
     try with_reducible rfl
    simp only[Act.put,List.setIfInBounds_toArray,List.set_cons_zero,List.set_cons_succ]
    refine Aw (i:=17) (v:=?_) rfl (by kernel_rfl) (by kernel_rfl) (by kernel_rfl) (fun _ _ _ h=>h) hF0 (Or.inl ⟨by rfl,?_⟩) ?_
    rotate_left
    focus
     intro W' hj
     obtain⟨y0,y1⟩:=HC.out _ (Jmp.low hj)
     clear hj
     go_simp
     try with_reducible rfl
    simp only[Act.put,List.setIfInBounds_toArray,List.set_cons_zero,List.set_cons_succ]
    refine Aw (i:=18) (v:=?_) rfl (by kernel_rfl) (by kernel_rfl) (by kernel_rfl) (fun _ _ _ h=>h) hF0 (Or.inl ⟨by rfl,?_⟩) ?_
    rotate_left
    focus
     intro W' hj
     obtain⟨y0,y1⟩:=HC.out _ (Jmp.low hj)
     clear hj
     go_simp
     try with_reducible rfl
    simp only[Act.put,List.setIfInBounds_toArray,List.set_cons_zero,List.set_cons_succ]
    refine Aw (i:=19) (v:=?_) rfl (by kernel_rfl) (by kernel_rfl) (by kernel_rfl) (fun _ _ _ h=>h) hF0 (Or.inl ⟨by rfl,?_⟩) ?_
    rotate_left
    focus
     intro W' hj
     obtain⟨y0,y1⟩:=HC.out _ (Jmp.low hj)
     clear hj
     go_simp
     try with_reducible rfl
    simp only[Act.put,List.setIfInBounds_toArray,List.set_cons_zero,List.set_cons_succ]
    refine Aw (i:=20) (v:=?_) rfl (by kernel_rfl) (by kernel_rfl) (by kernel_rfl) (fun _ _ _ h=>h) hF0 (Or.inl ⟨by rfl,?_⟩) ?_
    rotate_left
    focus
     intro W' hj
     obtain⟨y0,y1⟩:=HC.out _ (Jmp.low hj)
     clear hj
     go_simp
     try with_reducible rfl
    simp only[Act.put,List.setIfInBounds_toArray,List.set_cons_zero,List.set_cons_succ]
    refine PM (i:=21) (by kernel_rfl) rfl fun v21 j21 K21 k21=>?_
    go_wp2_with fail
    unfold S8 at hE
    rw[hE,Oper.upon_enter]
    refine(hq (Cl s j) ((s[j]'hlt).toNat:Int) v21 (by rw[HV.out])).mono ?_
    rw[HT.out]
    rintro e21 w21 ⟨rfl,rfl⟩
    have b21:=Below.refl v21.heap.size v21
    go_wp2_with fail
    refine k21.out _ _ b21 ?_
    clear k21
    have hF22:=M7 (j21.grow hF0) b21.size
    refine Q2 (by kernel_rfl) (fun wz jz=>?_) _
    have hlow:=Jmp.low (j21.back hF0 b21 jz)
    have HZ:=Lib.hid hlow
    clear hlow jz
    refine⟨by kernel_rfl,?_⟩
    try simp only[Act.put,List.setIfInBounds_toArray,List.set_cons_zero,List.set_cons_succ]
    simp only[List.drop_succ_cons,List.drop_zero]
    go_wp2_with fail
    have hk:=Blk.call HRD.out HZ.out
    have c3:=hk.cell 0
    have c4:=hk.cell 1
    simp only[List.getElem?_toArray,List.getElem?_cons_zero,List.getElem?_cons_succ]at c3 c4
    have l3:g<wz.heap.size:=BB c3
    clear hk
    have z0:(i:Int)<=(j:Int):=by have:=HIN.out;omega
    have z1:(j:Int)<=(s.size:Int):=by have:=HIN.out;omega
    have z2:i<=j:=by omega
    refine A1 (by kernel_rfl) (by kernel_rfl) ?_
    repeat (go_big_quiet_step (fail))
    refine wpQuiet_nil ?_
    rintro _ ⟨y,rfl⟩
    go_wp2
    go_ret
    have hj:=HIN.out
    subst hj
    have hz:n=Bq q s i:=by have:=HGAP.out;rw[HG.out]at this;omega
    refine⟨_,rfl,?_,?_,Bh HGR.out (A2 (A9 HZ.out (Bf _ _)))⟩
    .rw[←hz]
     exact Yb s i n
    .rw[←hz]
     exact Blk.call HRD.out (A9 HZ.out (Bf _ _))
   .have HT:=Lib.hid ht
    have HG:=Lib.hid (show Bq q s j=Bq q s (j+1)+1 by rw[HA.out,ht];rfl)
    clear ht
    go_wp2_with fail
    refine Fd (L:=#[false,false,false,false,false,false,false,false,false,false,false,false,false,false,false,false,false,false,false,false,false,false,true]) 22 (by kernel_rfl) (by kernel_rfl) (by kernel_rfl) ?_
    have hF0:∀ k,Lt wr.drew.heap.size k->k<wr.drew.heap.size:=fun _ h=>h
    refine Aw (i:=0) (v:=?_) rfl (by kernel_rfl) (by kernel_rfl) (by kernel_rfl) (fun _ _ _ h=>h) hF0 (Or.inl ⟨by rfl,?_⟩) ?_
    rotate_left
    focus
     intro W' hj
     obtain⟨y0,y1⟩:=HC.out _ (Jmp.low hj)
     clear hj
     go_simp
     try with_reducible rfl
    simp only[Act.put,List.setIfInBounds_toArray,List.set_cons_zero,List.set_cons_succ]
    refine Aw (i:=1) (v:=?_) rfl (by kernel_rfl) (by kernel_rfl) (by kernel_rfl) (fun _ _ _ h=>h) hF0 (Or.inl ⟨by rfl,?_⟩) ?_
    rotate_left
    focus
     intro W' hj
     obtain⟨y0,y1⟩:=HC.out _ (Jmp.low hj)
     clear hj
     go_simp
     try with_reducible rfl
    simp only[Act.put,List.setIfInBounds_toArray,List.set_cons_zero,List.set_cons_succ]
    refine Aw (i:=2) (v:=?_) rfl (by kernel_rfl) (by kernel_rfl) (by kernel_rfl) (fun _ _ _ h=>h) hF0 (Or.inl ⟨by rfl,?_⟩) ?_
    rotate_left
    focus
     intro W' hj
     obtain⟨y0,y1⟩:=HC.out _ (Jmp.low hj)
     clear hj
     go_simp
     try with_reducible rfl
    simp only[Act.put,List.setIfInBounds_toArray,List.set_cons_zero,List.set_cons_succ]
    refine Aw (i:=3) (v:=?_) rfl (by kernel_rfl) (by kernel_rfl) (by kernel_rfl) (fun _ _ _ h=>h) hF0 (Or.inl ⟨by rfl,?_⟩) ?_
    rotate_left
    focus
     intro W' hj
     obtain⟨y0,y1⟩:=HC.out _ (Jmp.low hj)
     clear hj
     go_simp
     try with_reducible rfl
    simp only[Act.put,List.setIfInBounds_toArray,List.set_cons_zero,List.set_cons_succ]
    refine Aw (i:=4) (v:=?_) rfl (by kernel_rfl) (by kernel_rfl) (by kernel_rfl) (fun _ _ _ h=>h) hF0 (Or.inl ⟨by rfl,?_⟩) ?_
    rotate_left
    focus
     intro W' hj
     obtain⟨y0,y1⟩:=HC.out _ (Jmp.low hj)
     clear hj
     go_simp
     try with_reducible rfl
    simp only[Act.put,List.setIfInBounds_toArray,List.set_cons_zero,List.set_cons_succ]
    refine Aw (i:=5) (v:=?_) rfl (by kernel_rfl) (by kernel_rfl) (by kernel_rfl) (fun _ _ _ h=>h) hF0 (Or.inl ⟨by rfl,?_⟩) ?_
    rotate_left
    focus
     intro W' hj
     obtain⟨y0,y1⟩:=HC.out _ (Jmp.low hj)
     clear hj
     go_simp
     try with_reducible rfl
    simp only[Act.put,List.setIfInBounds_toArray,List.set_cons_zero,List.set_cons_succ]
    refine Aw (i:=6) (v:=?_) rfl (by kernel_rfl) (by kernel_rfl) (by kernel_rfl) (fun _ _ _ h=>h) hF0 (Or.inl ⟨by rfl,?_⟩) ?_
    rotate_left
    focus
     intro W' hj
     obtain⟨y0,y1⟩:=HC.out _ (Jmp.low hj)
     clear hj
     go_simp
     try with_reducible rfl
    simp only[Act.put,List.setIfInBounds_toArray,List.set_cons_zero,List.set_cons_succ]
    refine Aw (i:=7) (v:=?_) rfl (by kernel_rfl) (by kernel_rfl) (by kernel_rfl) (fun _ _ _ h=>h) hF0 (Or.inl ⟨by rfl,?_⟩) ?_
    rotate_left
    focus
     intro W' hj
     obtain⟨y0,y1⟩:=HC.out _ (Jmp.low hj)
     clear hj
     go_simp
     try with_reducible rfl
    simp only[Act.put,List.setIfInBounds_toArray,List.set_cons_zero,List.set_cons_succ]
    refine Aw (i:=8) (v:=?_) rfl (by kernel_rfl) (by kernel_rfl) (by kernel_rfl) (fun _ _ _ h=>h) hF0 (Or.inl ⟨by rfl,?_⟩) ?_
    rotate_left
    focus
     intro W' hj
     obtain⟨y0,y1⟩:=HC.out _ (Jmp.low hj)
     clear hj
     go_simp
     try with_reducible rfl
    simp only[Act.put,List.setIfInBounds_toArray,List.set_cons_zero,List.set_cons_succ]
    refine Aw (i:=9) (v:=?_) rfl (by kernel_rfl) (by kernel_rfl) (by kernel_rfl) (fun _ _ _ h=>h) hF0 (Or.inl ⟨by rfl,?_⟩) ?_
    rotate_left
    focus
     intro W' hj
     obtain⟨y0,y1⟩:=HC.out _ (Jmp.low hj)
     clear hj
     go_simp
     try with_reducible rfl
    simp only[Act.put,List.setIfInBounds_toArray,List.set_cons_zero,List.set_cons_succ]
    refine Aw (i:=10) (v:=?_) rfl (by kernel_rfl) (by kernel_rfl) (by kernel_rfl) (fun _ _ _ h=>h) hF0 (Or.inl ⟨by rfl,?_⟩) ?_
    rotate_left
    focus
     intro W' hj
     obtain⟨y0,y1⟩:=HC.out _ (Jmp.low hj)
     clear hj
     go_simp
     try with_reducible rfl
    simp only[Act.put,List.setIfInBounds_toArray,List.set_cons_zero,List.set_cons_succ]
    refine Aw (i:=11) (v:=?_) rfl (by kernel_rfl) (by kernel_rfl) (by kernel_rfl) (fun _ _ _ h=>h) hF0 (Or.inl ⟨by rfl,?_⟩) ?_
    rotate_left
    focus
     intro W' hj
     obtain⟨y0,y1⟩:=HC.out _ (Jmp.low hj)
     clear hj
     go_simp
     try with_reducible rfl
    simp only[Act.put,List.setIfInBounds_toArray,List.set_cons_zero,List.set_cons_succ]
    refine Aw (i:=12) (v:=?_) rfl (by kernel_rfl) (by kernel_rfl) (by kernel_rfl) (fun _ _ _ h=>h) hF0 (Or.inl ⟨by rfl,?_⟩) ?_
    rotate_left
    focus
     intro W' hj
     obtain⟨y0,y1⟩:=HC.out _ (Jmp.low hj)
     clear hj
     go_simp
     try with_reducible rfl
    simp only[Act.put,List.setIfInBounds_toArray,List.set_cons_zero,List.set_cons_succ]
    refine Aw (i:=13) (v:=?_) rfl (by kernel_rfl) (by kernel_rfl) (by kernel_rfl) (fun _ _ _ h=>h) hF0 (Or.inl ⟨by rfl,?_⟩) ?_
    rotate_left
    focus
     intro W' hj
     obtain⟨y0,y1⟩:=HC.out _ (Jmp.low hj)
     clear hj
     go_simp
     try with_reducible rfl
    simp only[Act.put,List.setIfInBounds_toArray,List.set_cons_zero,List.set_cons_succ]
    refine Aw (i:=14) (v:=?_) rfl (by kernel_rfl) (by kernel_rfl) (by kernel_rfl) (fun _ _ _ h=>h) hF0 (Or.inl ⟨by rfl,?_⟩) ?_
    rotate_left
    focus
     intro W' hj
     obtain⟨y0,y1⟩:=HC.out _ (Jmp.low hj)
     clear hj
     go_simp
     try with_reducible rfl
    simp only[Act.put,List.setIfInBounds_toArray,List.set_cons_zero,List.set_cons_succ]
    refine Aw (i:=15) (v:=?_) rfl (by kernel_rfl) (by kernel_rfl) (by kernel_rfl) (fun _ _ _ h=>h) hF0 (Or.inl ⟨by rfl,?_⟩) ?_
    rotate_left
    focus
     intro W' hj
     obtain⟨y0,y1⟩:=HC.out _ (Jmp.low hj)
     clear hj
     go_simp
     try with_reducible rfl
    simp only[Act.put,List.setIfInBounds_toArray,List.set_cons_zero,List.set_cons_succ]
    refine Aw (i:=16) (v:=?_) rfl (by kernel_rfl) (by kernel_rfl) (by kernel_rfl) (fun _ _ _ h=>h) hF0 (Or.inl ⟨by rfl,?_⟩) ?_
    rotate_left
    focus
     intro W' hj
     obtain⟨y0,y1⟩:=HC.out _ (Jmp.low hj)
     clear hj
     go_simp
     try with_reducible rfl
    simp only[Act.put,List.setIfInBounds_toArray,List.set_cons_zero,List.set_cons_succ]
    refine Aw (i:=17) (v:=?_) rfl (by kernel_rfl) (by kernel_rfl) (by kernel_rfl) (fun _ _ _ h=>h) hF0 (Or.inl ⟨by rfl,?_⟩) ?_
    rotate_left
    focus
     intro W' hj
     obtain⟨y0,y1⟩:=HC.out _ (Jmp.low hj)
     clear hj
     go_simp
     try with_reducible rfl
    simp only[Act.put,List.setIfInBounds_toArray,List.set_cons_zero,List.set_cons_succ]
    refine Aw (i:=18) (v:=?_) rfl (by kernel_rfl) (by kernel_rfl) (by kernel_rfl) (fun _ _ _ h=>h) hF0 (Or.inl ⟨by rfl,?_⟩) ?_
    rotate_left
    focus
     intro W' hj
     obtain⟨y0,y1⟩:=HC.out _ (Jmp.low hj)
     clear hj
     go_simp
     try with_reducible rfl
    simp only[Act.put,List.setIfInBounds_toArray,List.set_cons_zero,List.set_cons_succ]
    refine Aw (i:=19) (v:=?_) rfl (by kernel_rfl) (by kernel_rfl) (by kernel_rfl) (fun _ _ _ h=>h) hF0 (Or.inl ⟨by rfl,?_⟩) ?_
    rotate_left
    focus
     intro W' hj
     obtain⟨y0,y1⟩:=HC.out _ (Jmp.low hj)
     clear hj
     go_simp
     try with_reducible rfl
    simp only[Act.put,List.setIfInBounds_toArray,List.set_cons_zero,List.set_cons_succ]
    refine Aw (i:=20) (v:=?_) rfl (by kernel_rfl) (by kernel_rfl) (by kernel_rfl) (fun _ _ _ h=>h) hF0 (Or.inl ⟨by rfl,?_⟩) ?_
    rotate_left
    focus
     intro W' hj
     obtain⟨y0,y1⟩:=HC.out _ (Jmp.low hj)
     clear hj
     go_simp
     try with_reducible rfl
    simp only[Act.put,List.setIfInBounds_toArray,List.set_cons_zero,List.set_cons_succ]
    refine PM (i:=21) (by kernel_rfl) rfl fun v21 j21 K21 k21=>?_
    go_wp2_with fail
    unfold S8 at hE
    rw[hE,Oper.upon_enter]
    refine(hq (Cl s j) ((s[j]'hlt).toNat:Int) v21 (by rw[HV.out])).mono ?_
    rw[HT.out]
    rintro e21 w21 ⟨rfl,rfl⟩
    have b21:=Below.refl v21.heap.size v21
    go_wp2_with fail
    refine k21.out _ _ b21 ?_
    clear k21
    have hF22:=M7 (j21.grow hF0) b21.size
    refine Q2 (by kernel_rfl) (fun wz jz=>?_) _
    have hlow:=Jmp.low (j21.back hF0 b21 jz)
    have HZ:=Lib.hid hlow
    clear hlow jz
    refine⟨by kernel_rfl,?_⟩
    try simp only[Act.put,List.setIfInBounds_toArray,List.set_cons_zero,List.set_cons_succ]
    simp only[List.drop_succ_cons,List.drop_zero]
    go_wp2_with fail
    refine(EA s g _ _ wz (by omega) hlt (HPN.out.small (by omega)) (Blk.call HRD.out HZ.out)).mono ?_
    rintro e2 w2 ⟨rfl,hrd2,hg2⟩
    have HRD2:=Lib.hid hrd2
    have HG2:=Lib.hid hg2
    clear hrd2 hg2
    go_wp2_with fail
    go_roundw
    case rel=>
     have hj:=HIN.out
     subst hj
     refine⟨n+1,by omega,?_,?_,Bh (Bh HGR.out (A2 HZ.out)) HG2.out⟩
     .have h1:=HGAP.out
      rw[HG.out]at h1
      rw[←Nat.add_assoc i n 1]
      omega
     .have h1:=HRD2.out
      rw[Dz s i n p hlt,Nat.add_assoc]at h1
      exact h1
    case measure=>
     rw[HRT.out,CY HRD2.out]
     omega
  .have he:j=s.size:=by omega
   have q2:decide (j<s.size)=false:=by simpa using hlt
   have q1:¬ (j:Int)<(s.size:Int):=by omega
   have HG:=Lib.hid (show Bq q s j=0 by rw[he];exact Uq q s)
   clear he
   go_wp2_with fail
   refine Fd (L:=#[false,false,false,false,false,false,false,false,false,false,false,false,false,false,false,false,false,false,false,false,false,false,true]) 22 (by kernel_rfl) (by kernel_rfl) (by kernel_rfl) ?_
   have hF0:∀ k,Lt wr.drew.heap.size k->k<wr.drew.heap.size:=fun _ h=>h
   refine Aw (i:=0) (v:=?_) rfl (by kernel_rfl) (by kernel_rfl) (by kernel_rfl) (fun _ _ _ h=>h) hF0 (Or.inl ⟨by rfl,?_⟩) ?_
   rotate_left
   focus
    intro W' hj
    obtain⟨y0,y1⟩:=HC.out _ (Jmp.low hj)
    clear hj
    go_simp
    try with_reducible rfl
   simp only[Act.put,List.setIfInBounds_toArray,List.set_cons_zero,List.set_cons_succ]
   refine Aw (i:=1) (v:=?_) rfl (by kernel_rfl) (by kernel_rfl) (by kernel_rfl) (fun _ _ _ h=>h) hF0 (Or.inl ⟨by rfl,?_⟩) ?_
   rotate_left
   focus
    intro W' hj
    obtain⟨y0,y1⟩:=HC.out _ (Jmp.low hj)
    clear hj
    go_simp
    try with_reducible rfl
   simp only[Act.put,List.setIfInBounds_toArray,List.set_cons_zero,List.set_cons_succ]
   refine Aw (i:=2) (v:=?_) rfl (by kernel_rfl) (by kernel_rfl) (by kernel_rfl) (fun _ _ _ h=>h) hF0 (Or.inl ⟨by rfl,?_⟩) ?_
   rotate_left
   focus
    intro W' hj
    obtain⟨y0,y1⟩:=HC.out _ (Jmp.low hj)
    clear hj
    go_simp
    try with_reducible rfl
   simp only[Act.put,List.setIfInBounds_toArray,List.set_cons_zero,List.set_cons_succ]
   refine Aw (i:=3) (v:=?_) rfl (by kernel_rfl) (by kernel_rfl) (by kernel_rfl) (fun _ _ _ h=>h) hF0 (Or.inl ⟨by rfl,?_⟩) ?_
   rotate_left
   focus
    intro W' hj
    obtain⟨y0,y1⟩:=HC.out _ (Jmp.low hj)
    clear hj
    go_simp
    try with_reducible rfl
   simp only[Act.put,List.setIfInBounds_toArray,List.set_cons_zero,List.set_cons_succ]
   refine Aw (i:=4) (v:=?_) rfl (by kernel_rfl) (by kernel_rfl) (by kernel_rfl) (fun _ _ _ h=>h) hF0 (Or.inl ⟨by rfl,?_⟩) ?_
   rotate_left
   focus
    intro W' hj
    obtain⟨y0,y1⟩:=HC.out _ (Jmp.low hj)
    clear hj
    go_simp
    try with_reducible rfl
   simp only[Act.put,List.setIfInBounds_toArray,List.set_cons_zero,List.set_cons_succ]
   refine Aw (i:=5) (v:=?_) rfl (by kernel_rfl) (by kernel_rfl) (by kernel_rfl) (fun _ _ _ h=>h) hF0 (Or.inl ⟨by rfl,?_⟩) ?_
   rotate_left
   focus
    intro W' hj
    obtain⟨y0,y1⟩:=HC.out _ (Jmp.low hj)
    clear hj
    go_simp
    try with_reducible rfl
   simp only[Act.put,List.setIfInBounds_toArray,List.set_cons_zero,List.set_cons_succ]
   refine Aw (i:=6) (v:=?_) rfl (by kernel_rfl) (by kernel_rfl) (by kernel_rfl) (fun _ _ _ h=>h) hF0 (Or.inl ⟨by rfl,?_⟩) ?_
   rotate_left
   focus
    intro W' hj
    obtain⟨y0,y1⟩:=HC.out _ (Jmp.low hj)
    clear hj
    go_simp
    try with_reducible rfl
   simp only[Act.put,List.setIfInBounds_toArray,List.set_cons_zero,List.set_cons_succ]
   refine Aw (i:=7) (v:=?_) rfl (by kernel_rfl) (by kernel_rfl) (by kernel_rfl) (fun _ _ _ h=>h) hF0 (Or.inl ⟨by rfl,?_⟩) ?_
   rotate_left
   focus
    intro W' hj
    obtain⟨y0,y1⟩:=HC.out _ (Jmp.low hj)
    clear hj
    go_simp
    try with_reducible rfl
   simp only[Act.put,List.setIfInBounds_toArray,List.set_cons_zero,List.set_cons_succ]
   refine Aw (i:=8) (v:=?_) rfl (by kernel_rfl) (by kernel_rfl) (by kernel_rfl) (fun _ _ _ h=>h) hF0 (Or.inl ⟨by rfl,?_⟩) ?_
   rotate_left
   focus
    intro W' hj
    obtain⟨y0,y1⟩:=HC.out _ (Jmp.low hj)
    clear hj
    go_simp
    try with_reducible rfl
   simp only[Act.put,List.setIfInBounds_toArray,List.set_cons_zero,List.set_cons_succ]
   refine Aw (i:=9) (v:=?_) rfl (by kernel_rfl) (by kernel_rfl) (by kernel_rfl) (fun _ _ _ h=>h) hF0 (Or.inl ⟨by rfl,?_⟩) ?_
   rotate_left
   focus
    intro W' hj
    obtain⟨y0,y1⟩:=HC.out _ (Jmp.low hj)
    clear hj
    go_simp
    try with_reducible rfl
   simp only[Act.put,List.setIfInBounds_toArray,List.set_cons_zero,List.set_cons_succ]
   refine Aw (i:=10) (v:=?_) rfl (by kernel_rfl) (by kernel_rfl) (by kernel_rfl) (fun _ _ _ h=>h) hF0 (Or.inl ⟨by rfl,?_⟩) ?_
   rotate_left
   focus
    intro W' hj
    obtain⟨y0,y1⟩:=HC.out _ (Jmp.low hj)
    clear hj
    go_simp
    try with_reducible rfl
   simp only[Act.put,List.setIfInBounds_toArray,List.set_cons_zero,List.set_cons_succ]
   refine Aw (i:=11) (v:=undef) rfl (by kernel_rfl) (by kernel_rfl) (by kernel_rfl) (fun _ _ _ h=>h) hF0 (Or.inr ⟨by rfl,rfl⟩) ?_
   simp only[Act.put,List.setIfInBounds_toArray,List.set_cons_zero,List.set_cons_succ]
   refine Aw (i:=12) (v:=undef) rfl (by kernel_rfl) (by kernel_rfl) (by kernel_rfl) (fun _ _ _ h=>h) hF0 (Or.inr ⟨by rfl,rfl⟩) ?_
   simp only[Act.put,List.setIfInBounds_toArray,List.set_cons_zero,List.set_cons_succ]
   refine Aw (i:=13) (v:=undef) rfl (by kernel_rfl) (by kernel_rfl) (by kernel_rfl) (fun _ _ _ h=>h) hF0 (Or.inr ⟨by rfl,rfl⟩) ?_
   simp only[Act.put,List.setIfInBounds_toArray,List.set_cons_zero,List.set_cons_succ]
   refine Aw (i:=14) (v:=undef) rfl (by kernel_rfl) (by kernel_rfl) (by kernel_rfl) (fun _ _ _ h=>h) hF0 (Or.inr ⟨by rfl,rfl⟩) ?_
   simp only[Act.put,List.setIfInBounds_toArray,List.set_cons_zero,List.set_cons_succ]
   refine Aw (i:=15) (v:=undef) rfl (by kernel_rfl) (by kernel_rfl) (by kernel_rfl) (fun _ _ _ h=>h) hF0 (Or.inr ⟨by rfl,rfl⟩) ?_
   simp only[Act.put,List.setIfInBounds_toArray,List.set_cons_zero,List.set_cons_succ]
   refine Aw (i:=16) (v:=undef) rfl (by kernel_rfl) (by kernel_rfl) (by kernel_rfl) (fun _ _ _ h=>h) hF0 (Or.inr ⟨by rfl,rfl⟩) ?_
   simp only[Act.put,List.setIfInBounds_toArray,List.set_cons_zero,List.set_cons_succ]
   refine Aw (i:=17) (v:=undef) rfl (by kernel_rfl) (by kernel_rfl) (by kernel_rfl) (fun _ _ _ h=>h) hF0 (Or.inr ⟨by rfl,rfl⟩) ?_
   simp only[Act.put,List.setIfInBounds_toArray,List.set_cons_zero,List.set_cons_succ]
   refine Aw (i:=18) (v:=undef) rfl (by kernel_rfl) (by kernel_rfl) (by kernel_rfl) (fun _ _ _ h=>h) hF0 (Or.inr ⟨by rfl,rfl⟩) ?_
   simp only[Act.put,List.setIfInBounds_toArray,List.set_cons_zero,List.set_cons_succ]
   refine Aw (i:=19) (v:=undef) rfl (by kernel_rfl) (by kernel_rfl) (by kernel_rfl) (fun _ _ _ h=>h) hF0 (Or.inr ⟨by rfl,rfl⟩) ?_
   simp only[Act.put,List.setIfInBounds_toArray,List.set_cons_zero,List.set_cons_succ]
   refine Aw (i:=20) (v:=undef) rfl (by kernel_rfl) (by kernel_rfl) (by kernel_rfl) (fun _ _ _ h=>h) hF0 (Or.inr ⟨by rfl,rfl⟩) ?_
   simp only[Act.put,List.setIfInBounds_toArray,List.set_cons_zero,List.set_cons_succ]
   refine Aw (i:=21) (v:=undef) rfl (by kernel_rfl) (by kernel_rfl) (by kernel_rfl) (fun _ _ _ h=>h) hF0 (Or.inr ⟨by rfl,rfl⟩) ?_
   simp only[Act.put,List.setIfInBounds_toArray,List.set_cons_zero,List.set_cons_succ]
   refine Q2 (by kernel_rfl) (fun wz jz=>?_) _
   have hlow:=Jmp.low jz
   have HZ:=Lib.hid hlow
   clear hlow jz
   refine⟨by kernel_rfl,?_⟩
   try simp only[Act.put,List.setIfInBounds_toArray,List.set_cons_zero,List.set_cons_succ]
   simp only[List.drop_succ_cons,List.drop_zero]
   go_wp2_with fail
   have hk:=Blk.call HRD.out HZ.out
   have c3:=hk.cell 0
   have c4:=hk.cell 1
   simp only[List.getElem?_toArray,List.getElem?_cons_zero,List.getElem?_cons_succ]at c3 c4
   have l3:g<wz.heap.size:=BB c3
   clear hk
   have z0:(i:Int)<=(j:Int):=by have:=HIN.out;omega
   have z1:(j:Int)<=(s.size:Int):=by have:=HIN.out;omega
   have z2:i<=j:=by omega
   refine A1 (by kernel_rfl) (by kernel_rfl) ?_
   repeat (go_big_quiet_step (fail))
   refine wpQuiet_nil ?_
   rintro _ ⟨y,rfl⟩
   go_wp2
   go_ret
   have hj:=HIN.out
   subst hj
   have hz:n=Bq q s i:=by have:=HGAP.out;rw[HG.out]at this;omega
   refine⟨_,rfl,?_,?_,Bh HGR.out (A2 (A9 HZ.out (Bf _ _)))⟩
   .rw[←hz]
    exact Yb s i n
   .rw[←hz]
    exact Blk.call HRD.out (A9 HZ.out (Bf _ _))
theorem S0(s:ByteArray)(g i:Nat)(p:Nat × Nat)(w:World)(hs:s.size<=20000)(hi:i<=s.size)(hp:Near p i)(hr:Rd w g s i p) :
  Calls Tryz.prog 213 #[.pointer (some ⟨g,0,none⟩),.func (.func 214) #[] #[]] w fun e w'=>∃ t:ByteArray,e=.returned (.string t)/\t.data.toList=cut s i (Bq Fg s i)/\Rd w' g s (i+Bq Fg s i) (CA s i p (Bq Fg s i))/\w.grownBy w' (some g):=PL _ _ (enters_of Tryz.func214 rfl rfl) KS s g i p w hs hi hp hr
theorem H7(s:ByteArray)(g i:Nat)(p:Nat × Nat)(w:World)(hs:s.size<=20000)(hi:i<=s.size)(hp:Near p i)(hr:Rd w g s i p) :
  Calls Tryz.prog 213 #[.pointer (some ⟨g,0,none⟩),.func (.func 215) #[] #[]] w fun e w'=>∃ t:ByteArray,e=.returned (.string t)/\t.data.toList=cut s i (Bq B4 s i)/\Rd w' g s (i+Bq B4 s i) (CA s i p (Bq B4 s i))/\w.grownBy w' (some g):=PL _ _ (enters_of Tryz.func215 rfl rfl) FP s g i p w hs hi hp hr
end Go.Proofs.YtlmhajfbpplpoaaGreat
