/- Layer 10: what stands between tokens is skipped. -/
import Derived.Test.YtlmhajfbpplpoaaGreatOAV
import Derived.ScopeJumps
import Derived.WalkMore
set_option linter.all false
open List renaming getD_eq_getElem?_getD->ApR,getElem?_eq_getElem->Apy
open Nat renaming add_assoc->ApP
namespace Go.Proofs.YtlmhajfbpplpoaaGreat
open Go.RowKit
def Near(p:Nat × Nat)(i:Nat):Prop:=1<=p.1/\1<=p.2/\p.1<=i+1/\p.2<=i+1
theorem Near.small{p:Nat × Nat}{i:Nat}(h:Near p i)(hi:i<=20000):Small p:=by
 obtain⟨h1,h2,h3,h4⟩:=h;exact⟨h1,h2,by omega,by omega⟩
theorem Near.step{p:Nat × Nat}{i:Nat}(h:Near p i)(c:UInt8):Near (Nb p c) (i+1):=by
 obtain⟨h1,h2,h3,h4⟩:=h;unfold Nb;split
 .exact⟨by omega,by omega,by omega,by omega⟩
 .exact⟨by omega,by omega,by omega,by omega⟩
theorem Near.adv:∀(l:List UInt8) {p:Nat × Nat} {i:Nat},Near p i->Near (adv p l) (i+l.length)
 |[],_,_,h=>h
 |c::l,p,i,h=>by
  have:=Near.adv l (h.step c);rw[List.length_cons,show i+(l.length+1)=i+1+l.length by omega];exact this
theorem Ue(p:Nat × Nat)(l m:List UInt8):adv p (l++m)=adv (adv p l) m:=List.foldl_append
theorem Zl(p:Nat × Nat)(l:List UInt8)(c:UInt8):adv p (l++[c])=Nb (adv p l) c:=by rw[Ue];rfl
theorem QY(s:ByteArray)(j:Nat)(h:j<s.size):s.data.toList.drop j=Cr s j::s.data.toList.drop (j+1):=by
 have h':j<s.data.toList.length:=by simpa using h
 rw[List.drop_eq_getElem_cons h'];unfold Cr;rw[ApR,Apy h'];rfl
theorem AfH(s:ByteArray)(i n:Nat)(h:i+n<s.size):(s.data.toList.drop i).take (n+1)=(s.data.toList.drop i).take n++[Cr s (i+n)]:=by
 have h':n<(s.data.toList.drop i).length:=by simpa using Nat.lt_sub_of_add_lt (by omega)
 rw[List.take_succ_eq_append_getElem h',List.getElem_drop];unfold Cr;rw[ApR,Apy (by simpa using h)];rfl
def BU(r:Bool)(s:ByteArray)(j:Nat):Nat:=PG r (s.data.toList.drop j)
def CF(s:ByteArray)(i:Nat)(p:Nat × Nat)(n:Nat):Nat × Nat:=adv p ((s.data.toList.drop i).take n)
theorem DD(s:ByteArray)(i n:Nat)(p:Nat × Nat)(h:i+n<s.size):Nb (CF s i p n) (Cr s (i+n))=CF s i p (n+1):=by
 unfold CF;rw[AfH s i n h,Zl]
theorem Fd(s:ByteArray)(i n:Nat)(p:Nat × Nat)(hp:Near p i)(h:i+n<=s.size):Near (CF s i p n) (i+n):=by
 have:=Near.adv ((s.data.toList.drop i).take n) hp
 rwa [List.length_take,List.length_drop,Array.length_toList,Nat.min_eq_left (by show n<=s.size-i;omega)]at this
theorem XG(r:Bool)(s:ByteArray):BU r s s.size=0:=by
 unfold BU;rw[List.drop_of_length_le (by simp)]
 cases r<;>rfl
theorem F9(r:Bool)(s:ByteArray)(j:Nat)(h:j<s.size):BU r s j=if(Cr s j).toNat=10 then BU false s (j+1)+1 else if r then BU true s (j+1)+1 else if(Cr s j).toNat=35 then BU true s (j+1)+1 else if(Cr s j).toNat=32\/(Cr s j).toNat=9 then BU false s (j+1)+1 else 0:=by
 unfold BU;rw[QY s j h];rfl
theorem MP{P:Program}{a:Act}{w:World}{Q:Exit->Act->World->Prop}{R X:Code}(l:Nat)(J:Act->World->Prop)(μ:Act->World->Nat)(hl:findLabel (R.seq ((Code.label l).seq X)) l=some (Code.skip.seq X))
  (first:R.wp P (Exit.then J λ_ _ _=>False) a w) (pass:∀ a w,J a w->X.wp P (Exit.jump l (λa' w'=>J a' w'/\μ a' w'<μ a w) Q) a w):(Code.scope (R.seq ((Code.label l).seq X))).wp P Q a w:=
 wp_scope_jumps l J μ hl (wp_seq (wp_mono first (by
  intro e a w h
  cases e<;>first
   |exact wp_seq (wp_label (wp_mono (pass a w h) (by intro e a w h;cases e<;>first|exact h|exact⟨h.1,h.2.1⟩)))
   |exact h.elim))) (λa w hJ=>wp_seq (wp_skip (pass a w hJ)))
def Akv(s:ByteArray)(g i:Nat)(p:Nat × Nat)(w:World)(a:Act)(W:World):Prop:=
 ∃(n:Nat) (r:Bool) (u3 u4 u5 u6 u7 u8 u9 u10 u11 u12 u13 u14 u15 u16 u17 u18 u19 u20 u21 u22 u23 u24 u25 u26 u27 u28 u29 u30 u31 u32:Value),a={ tmps:=#[.pointer (some ⟨g,0,none⟩),undef,.bool r,u3,u4,u5,u6,u7,u8,u9,u10,u11,u12,u13,u14,u15,u16,u17,u18,u19,u20,u21,u22,u23,u24,u25,u26,u27,u28,u29,u30,u31,u32],defers:=[] }/\i+n<=s.size/\n+BU r s (i+n)=BU false s i/\Rd W g s (i+n) (CF s i p n)/\w.grownBy W (some g)
def On(g:Nat)(W:World):Nat:=match W.cell? ⟨g,1,none⟩ with|some (.int _ n)=>n.toNat|_=>0
theorem C4{W:World}{g:Nat}{s:ByteArray}{j:Nat}{q:Nat × Nat}(h:Rd W g s j q):On g W=j:=by
 unfold On;rw[h.cells.2.1];simp
set_option maxRecDepth 100000 in
set_option maxHeartbeats 4000000 in
theorem Acr(s:ByteArray)(g i:Nat)(p:Nat × Nat)(w:World)(hs:s.size<=20000)(hi:i<=s.size)(hp:Near p i)(hr:Rd w g s i p) :
  Calls Tryz.prog 160 #[.pointer (some ⟨g,0,none⟩)] w λe w'=>e=.returned (.tuple #[])/\Rd w' g s (i+BU false s i) (CF s i p (BU false s i))/\w.grownBy w' (some g):=by
 have HR:=Lib.hid hr;have HP:=Lib.hid hp;clear hr hp
 go_enter Tryz.func160,Tryz.ntmps160
 go_wp2_with fail
 refine MP 0 (Akv s g i p w) (λ_ W=>s.size-On g W) rfl ?first ?pass
 case first=>
  go_wp2
  exact⟨0,false,undef,undef,undef,undef,undef,undef,undef,undef,undef,undef,undef,undef,undef,undef,undef,undef,undef,undef,undef,undef,undef,undef,undef,undef,undef,undef,undef,undef,undef,undef,rfl,hi,by simp,by simpa[CF,adv]using HR.out,A2 (Below.refl _ _)⟩
 case pass=>
  rintro a W ⟨n,r,u3,u4,u5,u6,u7,u8,u9,u10,u11,u12,u13,u14,u15,u16,u17,u18,u19,u20,u21,u22,u23,u24,u25,u26,u27,u28,u29,u30,u31,u32,rfl,hn,hgap,hrd,hgr⟩;have HRT:=Lib.hid (C4 hrd);obtain⟨c0,c1,_⟩:=hrd.cells;have HRD:=Lib.hid hrd;have HGR:=Lib.hid hgr;have HGAP:=Lib.hid hgap;have HPN:=Lib.hid (Fd s i n p HP.out hn);clear hrd hgr hgap;have l0:g<W.heap.size:=BE c0
  by_cases he:i+n=s.size
  .have hq:(((i+n:Nat):Int) == (s.size:Int))=true:=by rw[he];simp
   have HG0:=Lib.hid (XG r s);have HE:=Lib.hid he;clear he;generalize hj:i+n=j at *;have HJ:=Lib.hid hj;clear hj
   go_wp2_with fail
   refine AZ (by kernel_rfl) (by kernel_rfl) ?_
   repeat (go_big_quiet_step (fail))
   refine wpQuiet_nil ?_;rintro _ ⟨y,rfl⟩;have hb:=Bc W y;generalize later W y=W1 at *
   go_wp2
   dsimp only[Exit.jump];have hz:n=BU false s i:=by have:=HGAP.out;rw[HE.out,HG0.out]at this;omega
   refine bodyPost_ret (results_none rfl _ _ _) rfl ⟨rfl,?_,Bj HGR.out (A2 hb)⟩;rw[←hz,HJ.out];exact Blk.call HRD.out hb
  .have hlt:i+n<s.size:=by omega
   have hq:(((i+n:Nat):Int) == (s.size:Int))=false:=by rw[beq_eq_false_iff_ne];omega
   have q0:((i+n:Nat):Int)<(s.size:Int):=by omega
   clear he;have h35:True:=trivial;have hr32:True:=trivial;have hr9:True:=trivial
   by_cases h10:(Cr s (i+n)).toNat=10
   .have q10:(((Cr s (i+n)).toNat:Int) == 10)=true:=by rw[h10];rfl
    have HG:=Lib.hid (show BU r s (i+n)=BU false s (i+n+1)+1 by rw[F9 r s (i+n) hlt];rw[if_pos h10]);clear h10 h35 hr32 hr9
    go_wp2_with fail
    refine AZ (by kernel_rfl) (by kernel_rfl) ?_
    repeat (go_big_quiet_step (fail))
    refine wpQuiet_nil ?_;rintro _ ⟨y,rfl⟩;have hb:=Bc W y;generalize later W y=W1 at *;have HB:=Lib.hid hb;clear hb
    go_wp2_with fail
    refine(E2 s g _ _ W1 (Blk.call HRD.out HB.out)).mono ?_;rintro e w' ⟨rfl,hb2⟩;have HB2:=Lib.hid (A9 HB.out hb2);clear hb2
    go_wp2_with fail
    refine(ED s g _ _ w' (by omega) hlt (HPN.out.small (by omega)) (Blk.call HRD.out HB2.out)).mono ?_;rintro e w2 ⟨rfl,hrd2,hg2⟩;have HRD2:=Lib.hid hrd2;have HG2:=Lib.hid hg2;clear hrd2 hg2
    go_wp2
    go_step3
    refine⟨rfl,⟨n+1,false,_,_,_,_,_,_,_,_,_,_,_,_,_,_,_,_,_,_,_,_,_,_,_,_,_,_,_,_,_,_,rfl,by omega,?_,?_,Bj (Bj HGR.out (A2 HB2.out)) HG2.out⟩,?_⟩
    .have h1:=HGAP.out
     rw[HG.out]at h1;rw[←ApP i n 1];omega
    .have h1:=HRD2.out
     rw[DD s i n p hlt,ApP]at h1;exact h1
    .rw[HRT.out,C4 HRD2.out]
     omega
   .cases r with
    |true=>
     have q10:(((Cr s (i+n)).toNat:Int) == 10)=false:=by rw[beq_eq_false_iff_ne];omega
     have HG:=Lib.hid (show BU true s (i+n)=BU true s (i+n+1)+1 by rw[F9 true s (i+n) hlt];rw[if_neg h10,if_pos rfl]);clear h10 h35 hr32 hr9
     go_wp2_with fail
     refine AZ (by kernel_rfl) (by kernel_rfl) ?_
     repeat (go_big_quiet_step (fail))
     refine wpQuiet_nil ?_;rintro _ ⟨y,rfl⟩;have hb:=Bc W y;generalize later W y=W1 at *;have HB:=Lib.hid hb;clear hb
     go_wp2_with fail
     refine(E2 s g _ _ W1 (Blk.call HRD.out HB.out)).mono ?_;rintro e w' ⟨rfl,hb2⟩;have HB2:=Lib.hid (A9 HB.out hb2);clear hb2
     go_wp2_with fail
     refine(ED s g _ _ w' (by omega) hlt (HPN.out.small (by omega)) (Blk.call HRD.out HB2.out)).mono ?_;rintro e w2 ⟨rfl,hrd2,hg2⟩;have HRD2:=Lib.hid hrd2;have HG2:=Lib.hid hg2;clear hrd2 hg2
     go_wp2
     go_step3
     refine⟨rfl,⟨n+1,true,_,_,_,_,_,_,_,_,_,_,_,_,_,_,_,_,_,_,_,_,_,_,_,_,_,_,_,_,_,_,rfl,by omega,?_,?_,Bj (Bj HGR.out (A2 HB2.out)) HG2.out⟩,?_⟩
     .have h1:=HGAP.out
      rw[HG.out]at h1;rw[←ApP i n 1];omega
     .have h1:=HRD2.out
      rw[DD s i n p hlt,ApP]at h1;exact h1
     .rw[HRT.out,C4 HRD2.out]
      omega
    |false=>
     clear h35 hr32 hr9
     by_cases h35:(Cr s (i+n)).toNat=35
     .have hr32:True:=trivial
      have hr9:True:=trivial;have q10:(((Cr s (i+n)).toNat:Int) == 10)=false:=by rw[beq_eq_false_iff_ne];omega
      have q35:(((Cr s (i+n)).toNat:Int) == 35)=true:=by rw[h35];rfl
      have HG:=Lib.hid (show BU false s (i+n)=BU true s (i+n+1)+1 by rw[F9 false s (i+n) hlt];rw[if_neg h10,if_neg (by decide),if_pos h35]);clear h10 h35 hr32 hr9
      go_wp2_with fail
      refine AZ (by kernel_rfl) (by kernel_rfl) ?_
      repeat (go_big_quiet_step (fail))
      refine wpQuiet_nil ?_;rintro _ ⟨y,rfl⟩;have hb:=Bc W y;generalize later W y=W1 at *;have HB:=Lib.hid hb;clear hb
      go_wp2_with fail
      refine(E2 s g _ _ W1 (Blk.call HRD.out HB.out)).mono ?_;rintro e w' ⟨rfl,hb2⟩;have HB2:=Lib.hid (A9 HB.out hb2);clear hb2
      go_wp2_with fail
      refine(ED s g _ _ w' (by omega) hlt (HPN.out.small (by omega)) (Blk.call HRD.out HB2.out)).mono ?_;rintro e w2 ⟨rfl,hrd2,hg2⟩;have HRD2:=Lib.hid hrd2;have HG2:=Lib.hid hg2;clear hrd2 hg2
      go_wp2
      go_step3
      refine⟨rfl,⟨n+1,true,_,_,_,_,_,_,_,_,_,_,_,_,_,_,_,_,_,_,_,_,_,_,_,_,_,_,_,_,_,_,rfl,by omega,?_,?_,Bj (Bj HGR.out (A2 HB2.out)) HG2.out⟩,?_⟩
      .have h1:=HGAP.out
       rw[HG.out]at h1;rw[←ApP i n 1];omega
      .have h1:=HRD2.out
       rw[DD s i n p hlt,ApP]at h1;exact h1
      .rw[HRT.out,C4 HRD2.out]
       omega
     .by_cases hr32:(Cr s (i+n)).toNat=32
      .have hr9:True:=trivial
       have q10:(((Cr s (i+n)).toNat:Int) == 10)=false:=by rw[beq_eq_false_iff_ne];omega
       have q35:(((Cr s (i+n)).toNat:Int) == 35)=false:=by rw[beq_eq_false_iff_ne];omega
       have q32:(((Cr s (i+n)).toNat:Int) != 32)=false:=by rw[hr32];rfl
       have HG:=Lib.hid (show BU false s (i+n)=BU false s (i+n+1)+1 by rw[F9 false s (i+n) hlt];rw[if_neg h10,if_neg (by decide),if_neg h35,if_pos (.inl hr32)]);clear h10 h35 hr32 hr9
       go_wp2_with fail
       refine AZ (by kernel_rfl) (by kernel_rfl) ?_
       repeat (go_big_quiet_step (fail))
       refine wpQuiet_nil ?_;rintro _ ⟨y,rfl⟩;have hb:=Bc W y;generalize later W y=W1 at *;have HB:=Lib.hid hb;clear hb
       go_wp2_with fail
       refine(E2 s g _ _ W1 (Blk.call HRD.out HB.out)).mono ?_;rintro e w' ⟨rfl,hb2⟩;have HB2:=Lib.hid (A9 HB.out hb2);clear hb2
       go_wp2_with fail
       refine(ED s g _ _ w' (by omega) hlt (HPN.out.small (by omega)) (Blk.call HRD.out HB2.out)).mono ?_;rintro e w2 ⟨rfl,hrd2,hg2⟩;have HRD2:=Lib.hid hrd2;have HG2:=Lib.hid hg2;clear hrd2 hg2
       go_wp2
       go_step3
       refine⟨rfl,⟨n+1,false,_,_,_,_,_,_,_,_,_,_,_,_,_,_,_,_,_,_,_,_,_,_,_,_,_,_,_,_,_,_,rfl,by omega,?_,?_,Bj (Bj HGR.out (A2 HB2.out)) HG2.out⟩,?_⟩
       .have h1:=HGAP.out
        rw[HG.out]at h1;rw[←ApP i n 1];omega
       .have h1:=HRD2.out
        rw[DD s i n p hlt,ApP]at h1;exact h1
       .rw[HRT.out,C4 HRD2.out]
        omega
      .by_cases hr9:(Cr s (i+n)).toNat=9
       .have q10:(((Cr s (i+n)).toNat:Int) == 10)=false:=by rw[beq_eq_false_iff_ne];omega
        have q35:(((Cr s (i+n)).toNat:Int) == 35)=false:=by rw[beq_eq_false_iff_ne];omega
        have q32:(((Cr s (i+n)).toNat:Int) != 32)=true:=by rw[bne_iff_ne];omega
        have q9:(((Cr s (i+n)).toNat:Int) != 9)=false:=by rw[hr9];rfl
        have HG:=Lib.hid (show BU false s (i+n)=BU false s (i+n+1)+1 by rw[F9 false s (i+n) hlt];rw[if_neg h10,if_neg (by decide),if_neg h35,if_pos (.inr hr9)]);clear h10 h35 hr32 hr9
        go_wp2_with fail
        refine AZ (by kernel_rfl) (by kernel_rfl) ?_
        repeat (go_big_quiet_step (fail))
        refine wpQuiet_nil ?_;rintro _ ⟨y,rfl⟩;have hb:=Bc W y;generalize later W y=W1 at *;have HB:=Lib.hid hb;clear hb
        go_wp2_with fail
        refine(E2 s g _ _ W1 (Blk.call HRD.out HB.out)).mono ?_;rintro e w' ⟨rfl,hb2⟩;have HB2:=Lib.hid (A9 HB.out hb2);clear hb2
        go_wp2_with fail
        refine(ED s g _ _ w' (by omega) hlt (HPN.out.small (by omega)) (Blk.call HRD.out HB2.out)).mono ?_;rintro e w2 ⟨rfl,hrd2,hg2⟩;have HRD2:=Lib.hid hrd2;have HG2:=Lib.hid hg2;clear hrd2 hg2
        go_wp2
        go_step3
        refine⟨rfl,⟨n+1,false,_,_,_,_,_,_,_,_,_,_,_,_,_,_,_,_,_,_,_,_,_,_,_,_,_,_,_,_,_,_,rfl,by omega,?_,?_,Bj (Bj HGR.out (A2 HB2.out)) HG2.out⟩,?_⟩
        .have h1:=HGAP.out
         rw[HG.out]at h1;rw[←ApP i n 1];omega
        .have h1:=HRD2.out
         rw[DD s i n p hlt,ApP]at h1;exact h1
        .rw[HRT.out,C4 HRD2.out]
         omega
       .have q10:(((Cr s (i+n)).toNat:Int) == 10)=false:=by rw[beq_eq_false_iff_ne];omega
        have q35:(((Cr s (i+n)).toNat:Int) == 35)=false:=by rw[beq_eq_false_iff_ne];omega
        have q32:(((Cr s (i+n)).toNat:Int) != 32)=true:=by rw[bne_iff_ne];omega
        have q9:(((Cr s (i+n)).toNat:Int) != 9)=true:=by rw[bne_iff_ne];omega
        have HG:=Lib.hid (show BU false s (i+n)=0 by rw[F9 false s (i+n) hlt];rw[if_neg h10,if_neg (by decide),if_neg h35,if_neg (by omega)]);clear h10 h35 hr32 hr9
        go_wp2_with fail
        refine AZ (by kernel_rfl) (by kernel_rfl) ?_
        repeat (go_big_quiet_step (fail))
        refine wpQuiet_nil ?_;rintro _ ⟨y,rfl⟩;have hb:=Bc W y;generalize later W y=W1 at *;have HB:=Lib.hid hb;clear hb
        go_wp2_with fail
        refine(E2 s g _ _ W1 (Blk.call HRD.out HB.out)).mono ?_;rintro e w' ⟨rfl,hb2⟩;have HB2:=Lib.hid (A9 HB.out hb2);clear hb2
        go_wp2
        dsimp only[Exit.jump];have hz:n=BU false s i:=by have:=HGAP.out;rw[HG.out]at this;omega
        refine bodyPost_ret (results_none rfl _ _ _) rfl ⟨rfl,?_,Bj HGR.out (A2 HB2.out)⟩;rw[←hz];exact Blk.call HRD.out HB2.out
end Go.Proofs.YtlmhajfbpplpoaaGreat
