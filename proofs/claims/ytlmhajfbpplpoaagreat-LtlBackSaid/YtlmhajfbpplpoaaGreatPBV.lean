/- Layer 10: what stands be -/
import Derived.Test.YtlmhajfbpplpoaaGreatPAX
import Derived.ScopeJumps
import Derived.WalkMore
set_option linter.all false
open List renaming getD_eq_getElem?_getD->ArP,getElem?_eq_getElem->Ψ
open Nat renaming add_assoc->Aro
namespace Go.Proofs.YtlmhajfbpplpoaaGreat
open Lib renaming hid->Ω
open Go.RowKit
def Near(p:Nat × Nat)(i:Nat):Prop:=1<=p.1/\1<=p.2/\p.1<=i+1/\p.2<=i+1
theorem Near.small{p:Nat × Nat}{i:Nat}(h:Near p i)(hi:i<=20000):Small p:=by
 obtain⟨h1,h2,h3,h4⟩:=h;exact⟨h1,h2,by omega,by omega⟩
theorem Near.step{p:Nat × Nat}{i:Nat}(h:Near p i)(c:UInt8):Near (Of p c) (i+1):=by
 obtain⟨h1,h2,h3,h4⟩:=h;unfold Of;split
 .exact⟨by omega,by omega,by omega,by omega⟩
 .exact⟨by omega,by omega,by omega,by omega⟩
theorem Near.adv:∀(l:List UInt8) {p:Nat × Nat} {i:Nat},Near p i->Near (adv p l) (i+l.length)
 |[],_,_,h=>h
 |c::l,p,i,h=>by
  have:=Near.adv l (h.step c);rw[List.length_cons,show i+(l.length+1)=i+1+l.length by omega];exact this
theorem Vg(p:Nat × Nat)(l m:List UInt8):adv p (l++m)=adv (adv p l) m:=List.foldl_append
theorem AaL(p:Nat × Nat)(l:List UInt8)(c:UInt8):adv p (l++[c])=Of (adv p l) c:=by rw[Vg];rfl
theorem RX(s:ByteArray)(j:Nat)(h:j<s.size):s.data.toList.drop j=Cy s j::s.data.toList.drop (j+1):=by
 have h':j<s.data.toList.length:=by simpa using h
 rw[List.drop_eq_getElem_cons h'];unfold Cy;rw[ArP,Ψ h'];rfl
theorem Ag4(s:ByteArray)(i n:Nat)(h:i+n<s.size):(s.data.toList.drop i).take (n+1)=(s.data.toList.drop i).take n++[Cy s (i+n)]:=by
 have h':n<(s.data.toList.drop i).length:=by simpa using Nat.lt_sub_of_add_lt (by omega)
 rw[List.take_succ_eq_append_getElem h',List.getElem_drop];unfold Cy;rw[ArP,Ψ (by simpa using h)];rfl
def BU(r:Bool)(s:ByteArray)(j:Nat):Nat:=ER r (s.data.toList.drop j)
def CP(s:ByteArray)(i:Nat)(p:Nat × Nat)(n:Nat):Nat × Nat:=adv p ((s.data.toList.drop i).take n)
theorem D4(s:ByteArray)(i n:Nat)(p:Nat × Nat)(h:i+n<s.size):Of (CP s i p n) (Cy s (i+n))=CP s i p (n+1):=by
 unfold CP;rw[Ag4 s i n h,AaL]
theorem FZ(s:ByteArray)(i n:Nat)(p:Nat × Nat)(hp:Near p i)(h:i+n<=s.size):Near (CP s i p n) (i+n):=by
 have:=Near.adv ((s.data.toList.drop i).take n) hp
 rwa [List.length_take,List.length_drop,Array.length_toList,Nat.min_eq_left (by show n<=s.size-i;omega)]at this
theorem Y3(r:Bool)(s:ByteArray):BU r s s.size=0:=by
 unfold BU;rw[List.drop_of_length_le (by simp)]
 cases r<;>rfl
theorem GX(r:Bool)(s:ByteArray)(j:Nat)(h:j<s.size):BU r s j=if(Cy s j).toNat=10 then BU false s (j+1)+1 else if r then BU true s (j+1)+1 else if(Cy s j).toNat=35 then BU true s (j+1)+1 else if(Cy s j).toNat=32\/(Cy s j).toNat=9 then BU false s (j+1)+1 else 0:=by
 unfold BU;rw[RX s j h];rfl
theorem NS{P:Program}{a:Act}{w:World}{Q:Exit->Act->World->Prop}{R X:Code}(l:Nat)(J:Act->World->Prop)(μ:Act->World->Nat)(hl:findLabel (R.seq ((Code.label l).seq X)) l=some (Code.skip.seq X))
  (first:R.wp P (Exit.then J λ_ _ _=>False) a w) (pass:∀ a w,J a w->X.wp P (Exit.jump l (λa' w'=>J a' w'/\μ a' w'<μ a w) Q) a w):(Code.scope (R.seq ((Code.label l).seq X))).wp P Q a w:=
 wp_scope_jumps l J μ hl (wp_seq (wp_mono first (by
  intro e a w h
  cases e<;>first
   |exact wp_seq (wp_label (wp_mono (pass a w h) (by intro e a w h;cases e<;>first|exact h|exact⟨h.1,h.2.1⟩)))
   |exact h.elim))) (λa w hJ=>wp_seq (wp_skip (pass a w hJ)))
def AlY(s:ByteArray)(g i:Nat)(p:Nat × Nat)(w:World)(a:Act)(W:World):Prop:=
 ∃(n:Nat) (r:Bool) (u3 u4 u5 u6 u7 u8 u9 u10 u11 u12 u13 u14 u15 u16 u17 u18 u19 u20 u21 u22 u23 u24 u25 u26 u27 u28 u29 u30 u31 u32:Value),a={ tmps:=#[.pointer (some ⟨g,0,none⟩),undef,.bool r,u3,u4,u5,u6,u7,u8,u9,u10,u11,u12,u13,u14,u15,u16,u17,u18,u19,u20,u21,u22,u23,u24,u25,u26,u27,u28,u29,u30,u31,u32],defers:=[] }/\i+n<=s.size/\n+BU r s (i+n)=BU false s i/\Rd W g s (i+n) (CP s i p n)/\w.grownBy W (some g)
def Pn(g:Nat)(W:World):Nat:=match W.cell? ⟨g,1,none⟩ with|some (.int _ n)=>n.toNat|_=>0
theorem Dl{W:World}{g:Nat}{s:ByteArray}{j:Nat}{q:Nat × Nat}(h:Rd W g s j q):Pn g W=j:=by
 unfold Pn;rw[h.cells.2.1];simp
set_option maxRecDepth 100000 in
set_option maxHeartbeats 4000000 in
theorem Ad2(s:ByteArray)(g i:Nat)(p:Nat × Nat)(w:World)(hs:s.size<=20000)(hi:i<=s.size)(hp:Near p i)(hr:Rd w g s i p) :
  Calls Tryz.prog 160 #[.pointer (some ⟨g,0,none⟩)] w λe w'=>e=.returned (.tuple #[])/\Rd w' g s (i+BU false s i) (CP s i p (BU false s i))/\w.grownBy w' (some g):=by
 have HR:=Ω hr;have HP:=Ω hp;clear hr hp
 go_enter Tryz.func160,Tryz.ntmps160
 go_wp2_with fail
 refine NS 0 (AlY s g i p w) (λ_ W=>s.size-Pn g W) rfl ?first ?pass
 case first=>
  go_wp2
  exact⟨0,false,undef,undef,undef,undef,undef,undef,undef,undef,undef,undef,undef,undef,undef,undef,undef,undef,undef,undef,undef,undef,undef,undef,undef,undef,undef,undef,undef,undef,undef,undef,rfl,hi,by simp,by simpa[CP,adv]using HR.out,AJ (Below.refl _ _)⟩
 case pass=>
  rintro a W ⟨n,r,u3,u4,u5,u6,u7,u8,u9,u10,u11,u12,u13,u14,u15,u16,u17,u18,u19,u20,u21,u22,u23,u24,u25,u26,u27,u28,u29,u30,u31,u32,rfl,hn,hgap,hrd,hgr⟩;have HRT:=Ω (Dl hrd);obtain⟨c0,c1,_⟩:=hrd.cells;have HRD:=Ω hrd;have HGR:=Ω hgr;have HGAP:=Ω hgap;have HPN:=Ω (FZ s i n p HP.out hn);clear hrd hgr hgap;have l0:g<W.heap.size:=BB c0
  by_cases he:i+n=s.size
  .have hq:(((i+n:Nat):Int) == (s.size:Int))=true:=by rw[he];simp
   have HG0:=Ω (Y3 r s);have HE:=Ω he;clear he;generalize hj:i+n=j at *;have HJ:=Ω hj;clear hj
   go_wp2_with fail
   refine AI (by kernel_rfl) (by kernel_rfl) ?_
   repeat (go_big_quiet_step (fail))
   refine wpQuiet_nil ?_;rintro _ ⟨y,rfl⟩;have hb:=AY W y;generalize later W y=W1 at *
   go_wp2
   dsimp only[Exit.jump];have hz:n=BU false s i:=by have:=HGAP.out;rw[HE.out,HG0.out]at this;omega
   refine bodyPost_ret (results_none rfl _ _ _) rfl ⟨rfl,?_,A1 HGR.out (AJ hb)⟩;rw[←hz,HJ.out];exact Blk.call HRD.out hb
  .have hlt:i+n<s.size:=by omega
   have hq:(((i+n:Nat):Int) == (s.size:Int))=false:=by rw[beq_eq_false_iff_ne];omega
   have q0:((i+n:Nat):Int)<(s.size:Int):=by omega
   clear he;have h35:True:=trivial;have hr32:True:=trivial;have hr9:True:=trivial
   by_cases h10:(Cy s (i+n)).toNat=10
   .have q10:(((Cy s (i+n)).toNat:Int) == 10)=true:=by rw[h10];rfl
    have HG:=Ω (show BU r s (i+n)=BU false s (i+n+1)+1 by rw[GX r s (i+n) hlt];rw[if_pos h10]);clear h10 h35 hr32 hr9
    go_wp2_with fail
    refine AI (by kernel_rfl) (by kernel_rfl) ?_
    repeat (go_big_quiet_step (fail))
    refine wpQuiet_nil ?_;rintro _ ⟨y,rfl⟩;have hb:=AY W y;generalize later W y=W1 at *;have HB:=Ω hb;clear hb
    go_wp2_with fail
    refine(FN s g _ _ W1 (Blk.call HRD.out HB.out)).mono ?_;rintro e w' ⟨rfl,hb2⟩;have HB2:=Ω (AQ HB.out hb2);clear hb2
    go_wp2_with fail
    refine(E6 s g _ _ w' (by omega) hlt (HPN.out.small (by omega)) (Blk.call HRD.out HB2.out)).mono ?_;rintro e w2 ⟨rfl,hrd2,hg2⟩;have HRD2:=Ω hrd2;have HG2:=Ω hg2;clear hrd2 hg2
    go_wp2
    go_step3
    refine⟨rfl,⟨n+1,false,_,_,_,_,_,_,_,_,_,_,_,_,_,_,_,_,_,_,_,_,_,_,_,_,_,_,_,_,_,_,rfl,by omega,?_,?_,A1 (A1 HGR.out (AJ HB2.out)) HG2.out⟩,?_⟩
    .have h1:=HGAP.out
     rw[HG.out]at h1;rw[←Aro i n 1];omega
    .have h1:=HRD2.out
     rw[D4 s i n p hlt,Aro]at h1;exact h1
    .rw[HRT.out,Dl HRD2.out]
     omega
   .cases r with
    |true=>
     have q10:(((Cy s (i+n)).toNat:Int) == 10)=false:=by rw[beq_eq_false_iff_ne];omega
     have HG:=Ω (show BU true s (i+n)=BU true s (i+n+1)+1 by rw[GX true s (i+n) hlt];rw[if_neg h10,if_pos rfl]);clear h10 h35 hr32 hr9
     go_wp2_with fail
     refine AI (by kernel_rfl) (by kernel_rfl) ?_
     repeat (go_big_quiet_step (fail))
     refine wpQuiet_nil ?_;rintro _ ⟨y,rfl⟩;have hb:=AY W y;generalize later W y=W1 at *;have HB:=Ω hb;clear hb
     go_wp2_with fail
     refine(FN s g _ _ W1 (Blk.call HRD.out HB.out)).mono ?_;rintro e w' ⟨rfl,hb2⟩;have HB2:=Ω (AQ HB.out hb2);clear hb2
     go_wp2_with fail
     refine(E6 s g _ _ w' (by omega) hlt (HPN.out.small (by omega)) (Blk.call HRD.out HB2.out)).mono ?_;rintro e w2 ⟨rfl,hrd2,hg2⟩;have HRD2:=Ω hrd2;have HG2:=Ω hg2;clear hrd2 hg2
     go_wp2
     go_step3
     refine⟨rfl,⟨n+1,true,_,_,_,_,_,_,_,_,_,_,_,_,_,_,_,_,_,_,_,_,_,_,_,_,_,_,_,_,_,_,rfl,by omega,?_,?_,A1 (A1 HGR.out (AJ HB2.out)) HG2.out⟩,?_⟩
     .have h1:=HGAP.out
      rw[HG.out]at h1;rw[←Aro i n 1];omega
     .have h1:=HRD2.out
      rw[D4 s i n p hlt,Aro]at h1;exact h1
     .rw[HRT.out,Dl HRD2.out]
      omega
    |false=>
     clear h35 hr32 hr9
     by_cases h35:(Cy s (i+n)).toNat=35
     .have hr32:True:=trivial
      have hr9:True:=trivial;have q10:(((Cy s (i+n)).toNat:Int) == 10)=false:=by rw[beq_eq_false_iff_ne];omega
      have q35:(((Cy s (i+n)).toNat:Int) == 35)=true:=by rw[h35];rfl
      have HG:=Ω (show BU false s (i+n)=BU true s (i+n+1)+1 by rw[GX false s (i+n) hlt];rw[if_neg h10,if_neg (by decide),if_pos h35]);clear h10 h35 hr32 hr9
      go_wp2_with fail
      refine AI (by kernel_rfl) (by kernel_rfl) ?_
      repeat (go_big_quiet_step (fail))
      refine wpQuiet_nil ?_;rintro _ ⟨y,rfl⟩;have hb:=AY W y;generalize later W y=W1 at *;have HB:=Ω hb;clear hb
      go_wp2_with fail
      refine(FN s g _ _ W1 (Blk.call HRD.out HB.out)).mono ?_;rintro e w' ⟨rfl,hb2⟩;have HB2:=Ω (AQ HB.out hb2);clear hb2
      go_wp2_with fail
      refine(E6 s g _ _ w' (by omega) hlt (HPN.out.small (by omega)) (Blk.call HRD.out HB2.out)).mono ?_;rintro e w2 ⟨rfl,hrd2,hg2⟩;have HRD2:=Ω hrd2;have HG2:=Ω hg2;clear hrd2 hg2
      go_wp2
      go_step3
      refine⟨rfl,⟨n+1,true,_,_,_,_,_,_,_,_,_,_,_,_,_,_,_,_,_,_,_,_,_,_,_,_,_,_,_,_,_,_,rfl,by omega,?_,?_,A1 (A1 HGR.out (AJ HB2.out)) HG2.out⟩,?_⟩
      .have h1:=HGAP.out
       rw[HG.out]at h1;rw[←Aro i n 1];omega
      .have h1:=HRD2.out
       rw[D4 s i n p hlt,Aro]at h1;exact h1
      .rw[HRT.out,Dl HRD2.out]
       omega
     .by_cases hr32:(Cy s (i+n)).toNat=32
      .have hr9:True:=trivial
       have q10:(((Cy s (i+n)).toNat:Int) == 10)=false:=by rw[beq_eq_false_iff_ne];omega
       have q35:(((Cy s (i+n)).toNat:Int) == 35)=false:=by rw[beq_eq_false_iff_ne];omega
       have q32:(((Cy s (i+n)).toNat:Int) != 32)=false:=by rw[hr32];rfl
       have HG:=Ω (show BU false s (i+n)=BU false s (i+n+1)+1 by rw[GX false s (i+n) hlt];rw[if_neg h10,if_neg (by decide),if_neg h35,if_pos (.inl hr32)]);clear h10 h35 hr32 hr9
       go_wp2_with fail
       refine AI (by kernel_rfl) (by kernel_rfl) ?_
       repeat (go_big_quiet_step (fail))
       refine wpQuiet_nil ?_;rintro _ ⟨y,rfl⟩;have hb:=AY W y;generalize later W y=W1 at *;have HB:=Ω hb;clear hb
       go_wp2_with fail
       refine(FN s g _ _ W1 (Blk.call HRD.out HB.out)).mono ?_;rintro e w' ⟨rfl,hb2⟩;have HB2:=Ω (AQ HB.out hb2);clear hb2
       go_wp2_with fail
       refine(E6 s g _ _ w' (by omega) hlt (HPN.out.small (by omega)) (Blk.call HRD.out HB2.out)).mono ?_;rintro e w2 ⟨rfl,hrd2,hg2⟩;have HRD2:=Ω hrd2;have HG2:=Ω hg2;clear hrd2 hg2
       go_wp2
       go_step3
       refine⟨rfl,⟨n+1,false,_,_,_,_,_,_,_,_,_,_,_,_,_,_,_,_,_,_,_,_,_,_,_,_,_,_,_,_,_,_,rfl,by omega,?_,?_,A1 (A1 HGR.out (AJ HB2.out)) HG2.out⟩,?_⟩
       .have h1:=HGAP.out
        rw[HG.out]at h1;rw[←Aro i n 1];omega
       .have h1:=HRD2.out
        rw[D4 s i n p hlt,Aro]at h1;exact h1
       .rw[HRT.out,Dl HRD2.out]
        omega
      .by_cases hr9:(Cy s (i+n)).toNat=9
       .have q10:(((Cy s (i+n)).toNat:Int) == 10)=false:=by rw[beq_eq_false_iff_ne];omega
        have q35:(((Cy s (i+n)).toNat:Int) == 35)=false:=by rw[beq_eq_false_iff_ne];omega
        have q32:(((Cy s (i+n)).toNat:Int) != 32)=true:=by rw[bne_iff_ne];omega
        have q9:(((Cy s (i+n)).toNat:Int) != 9)=false:=by rw[hr9];rfl
        have HG:=Ω (show BU false s (i+n)=BU false s (i+n+1)+1 by rw[GX false s (i+n) hlt];rw[if_neg h10,if_neg (by decide),if_neg h35,if_pos (.inr hr9)]);clear h10 h35 hr32 hr9
        go_wp2_with fail
        refine AI (by kernel_rfl) (by kernel_rfl) ?_
        repeat (go_big_quiet_step (fail))
        refine wpQuiet_nil ?_;rintro _ ⟨y,rfl⟩;have hb:=AY W y;generalize later W y=W1 at *;have HB:=Ω hb;clear hb
        go_wp2_with fail
        refine(FN s g _ _ W1 (Blk.call HRD.out HB.out)).mono ?_;rintro e w' ⟨rfl,hb2⟩;have HB2:=Ω (AQ HB.out hb2);clear hb2
        go_wp2_with fail
        refine(E6 s g _ _ w' (by omega) hlt (HPN.out.small (by omega)) (Blk.call HRD.out HB2.out)).mono ?_;rintro e w2 ⟨rfl,hrd2,hg2⟩;have HRD2:=Ω hrd2;have HG2:=Ω hg2;clear hrd2 hg2
        go_wp2
        go_step3
        refine⟨rfl,⟨n+1,false,_,_,_,_,_,_,_,_,_,_,_,_,_,_,_,_,_,_,_,_,_,_,_,_,_,_,_,_,_,_,rfl,by omega,?_,?_,A1 (A1 HGR.out (AJ HB2.out)) HG2.out⟩,?_⟩
        .have h1:=HGAP.out
         rw[HG.out]at h1;rw[←Aro i n 1];omega
        .have h1:=HRD2.out
         rw[D4 s i n p hlt,Aro]at h1;exact h1
        .rw[HRT.out,Dl HRD2.out]
         omega
       .have q10:(((Cy s (i+n)).toNat:Int) == 10)=false:=by rw[beq_eq_false_iff_ne];omega
        have q35:(((Cy s (i+n)).toNat:Int) == 35)=false:=by rw[beq_eq_false_iff_ne];omega
        have q32:(((Cy s (i+n)).toNat:Int) != 32)=true:=by rw[bne_iff_ne];omega
        have q9:(((Cy s (i+n)).toNat:Int) != 9)=true:=by rw[bne_iff_ne];omega
        have HG:=Ω (show BU false s (i+n)=0 by rw[GX false s (i+n) hlt];rw[if_neg h10,if_neg (by decide),if_neg h35,if_neg (by omega)]);clear h10 h35 hr32 hr9
        go_wp2_with fail
        refine AI (by kernel_rfl) (by kernel_rfl) ?_
        repeat (go_big_quiet_step (fail))
        refine wpQuiet_nil ?_;rintro _ ⟨y,rfl⟩;have hb:=AY W y;generalize later W y=W1 at *;have HB:=Ω hb;clear hb
        go_wp2_with fail
        refine(FN s g _ _ W1 (Blk.call HRD.out HB.out)).mono ?_;rintro e w' ⟨rfl,hb2⟩;have HB2:=Ω (AQ HB.out hb2);clear hb2
        go_wp2
        dsimp only[Exit.jump];have hz:n=BU false s i:=by have:=HGAP.out;rw[HG.out]at this;omega
        refine bodyPost_ret (results_none rfl _ _ _) rfl ⟨rfl,?_,A1 HGR.out (AJ HB2.out)⟩;rw[←hz];exact Blk.call HRD.out HB2.out
end Go.Proofs.YtlmhajfbpplpoaaGreat
