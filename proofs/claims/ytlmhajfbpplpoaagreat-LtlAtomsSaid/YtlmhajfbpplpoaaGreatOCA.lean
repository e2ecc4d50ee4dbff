/- Sums and trees that are -/
import Derived.Test.YtlmhajfbpplpoaaGreatOBZ
import Derived.Test.YtlmhajfbpplpoaaGreatOAD
import Derived.Test.YtlmhajfbpplpoaaGreatOBQ
set_option linter.all false
open List renaming map_cons->ApS,mem_cons->ApC,mem_cons_of_mem->ApM,mem_cons_self->ApK
open Nat renaming le_of_ble_eq_true->ArB
namespace Go.Proofs.YtlmhajfbpplpoaaGreat
open Go.Proofs.Tryz renaming prog->φ
open Go.ChangeShapes Go.WideShapes Go.ChangeAt Go.RowKit
theorem Km{n:Nat}(h:n<=reachBytes):n<=9223372036854775807:=Nat.le_trans h (by decide +kernel)
theorem Og{n b:Nat}(hb:2<=b)(h:n*b<=reachBytes):n<4611686018427387904:=by
 have h1:n*2<=n*b:=Nat.mul_le_mul_left n hb;have h2:reachBytes<9223372036854775808:=by decide +kernel
 omega
def AiE(m:Mo):Prop:=m.num.size<=9223372036854775807/\m.var.size<=9223372036854775807
theorem Ams{y:D}(h:D.Typed φ y 115)(hf:D.Fits φ y 115):∃ m:Mo,y.av=IQ m/\AiE m:=by
 obtain⟨xs,rfl,g0⟩:=h.struct_ Tryz.underlying115;have f0:=hf.struct_ Tryz.underlying115;obtain⟨x0,r0,rfl,h0,g1⟩:=D.TypedFields.cons_ g0;obtain⟨x1,r1,rfl,h1,g2⟩:=D.TypedFields.cons_ g1;obtain⟨x2,r2,rfl,h2,g3⟩:=D.TypedFields.cons_ g2;obtain rfl:=D.TypedFields.nil_ g3;obtain⟨b,rfl⟩:=h0.bool_ Tryz.underlying4;obtain⟨s,rfl⟩:=h1.str_ Tryz.underlying9;obtain⟨v,rfl⟩:=h2.str_ Tryz.underlying9;have f1:=(D.FitsFields.cons_ f0).2;have f2:=(D.FitsFields.cons_ f1).2;have k1:=(D.FitsFields.cons_ f1).1;have k2:=(D.FitsFields.cons_ f2).1;simp only[D.Fits]at k1 k2;exact⟨⟨b,s,v⟩,rfl,Km k1,Km k2⟩
theorem Abt{y:D}(h:D.Typed φ y 23)(hf:D.Fits φ y 23):∃ ms:List Mo,y.av=[.ls (ms.map IQ)]/\ms.length<4611686018427387904/\∀ m∈ms,AiE m:=by
 obtain⟨xs,rfl,hx⟩:=h.slice_ Tryz.underlying23;obtain⟨h1,h2⟩:=hf.slice_ Tryz.underlying23;have hl:=Og (ArB (by kernel_rfl)) h1;have:∀ xs:List D,(∀ y∈xs,D.Typed φ y 115/\D.Fits φ y 115)->∃ ms:List Mo,xs.map D.av=ms.map IQ/\ms.length=xs.length/\∀ m∈ms,AiE m:=λxs=>by
  induction xs with
  |nil=>intro _;exact⟨[],rfl,rfl,by simp⟩
  |cons x r ih=>
   intro hh;obtain⟨ms,e1,e2,e3⟩:=ih λy hy=>hh y (ApM _ hy)
   obtain⟨m,k1,k2⟩:=Ams (hh x (ApK ..)).1 (hh x (ApK ..)).2;refine⟨m::ms,by rw[ApS,ApS,e1,k1],by simp[e2],λz hz=>?_⟩;rcases ApC.1 hz with rfl|hz
   .exact k2
   .exact e3 z hz
 obtain⟨ms,e1,e2,e3⟩:=this xs λy hy=>⟨hx y hy,h2 y hy⟩
 refine⟨ms,by rw[D.av,ER,e1],by omega,e3⟩
theorem Akh:∀(n:Nat) (y:D),SizeOf.sizeOf y<=n->D.Typed φ y 33->D.Fits φ y 33->∃ t:Tr,y.av=B7 t/\WzT t/\WzP t:=by
 intro n
 induction n with
 |zero=>intro x hx;cases x<;>simp at hx
 |succ n ih=>
  intro y hn h hf;obtain⟨xs,rfl,g0⟩:=h.struct_ Tryz.underlying33;have f0:=hf.struct_ Tryz.underlying33;obtain⟨x0,r0,rfl,h0,g1⟩:=D.TypedFields.cons_ g0;obtain⟨x1,r1,rfl,h1,g2⟩:=D.TypedFields.cons_ g1;obtain⟨x2,r2,rfl,h2,g3⟩:=D.TypedFields.cons_ g2;obtain⟨x3,r3,rfl,h3,g4⟩:=D.TypedFields.cons_ g3;obtain⟨x4,r4,rfl,h4,g5⟩:=D.TypedFields.cons_ g4;obtain⟨x5,r5,rfl,h5,g6⟩:=D.TypedFields.cons_ g5;obtain⟨x6,r6,rfl,h6,g7⟩:=D.TypedFields.cons_ g6;obtain rfl:=D.TypedFields.nil_ g7;have f1:=(D.FitsFields.cons_ f0).2;have f2:=(D.FitsFields.cons_ f1).2;have f3:=(D.FitsFields.cons_ f2).2;have f4:=(D.FitsFields.cons_ f3).2;have f5:=(D.FitsFields.cons_ f4).2;have f6:=(D.FitsFields.cons_ f5).2;obtain⟨k,rfl,_⟩:=h0.int_ Tryz.underlying3;obtain⟨l,el,l1,l2⟩:=Abt h1 (D.FitsFields.cons_ f1).1;obtain⟨r,er,m1,m2⟩:=Abt h2 (D.FitsFields.cons_ f2).1;obtain⟨op,rfl,_⟩:=h3.int_ Tryz.underlying3;obtain⟨p,rfl⟩:=h4.str_ Tryz.underlying9;obtain⟨q,rfl⟩:=h5.str_ Tryz.underlying9;obtain⟨ys,rfl,hy⟩:=h6.slice_ Tryz.underlying31;obtain⟨z1,z2⟩:=(D.FitsFields.cons_ f6).1.slice_ Tryz.underlying31;have hl:=Og (ArB (by kernel_rfl)) z1;have:∀ zs:List D,(∀ y∈zs,y∈ys)->∃ ts:List Tr,zs.map D.av=ts.map B7/\ts.length=zs.length/\∀ m∈ts,WzT m/\WzP m:=λzs=>by
   induction zs with
   |nil=>intro _;exact⟨[],rfl,rfl,by simp⟩
   |cons x r ih2=>
    intro hh;obtain⟨ms,e1,e2,e3⟩:=ih2 λy hy=>hh y (ApM _ hy)
    have hm:=hh x (ApK ..);obtain⟨m,k1,k2⟩:=ih x (by
     have h3:=List.sizeOf_lt_of_mem hm;simp at hn;omega) (hy x hm) (z2 x hm)
    refine⟨m::ms,by rw[ApS,ApS,e1,k1],by simp[e2],λz hz=>?_⟩;rcases ApC.1 hz with rfl|hz
    .exact k2
    .exact e3 z hz
  obtain⟨ts,e1,e2,e3⟩:=this ys λ_ h=>h
  have s4:=(D.FitsFields.cons_ f4).1;have s5:=(D.FitsFields.cons_ f5).1;simp only[D.Fits]at s4 s5;refine⟨.mk k l r op p q ts,?_,.mk l1 m1 (by omega) l2 m2 λm hm=>(e3 m hm).1,.mk (Km s4) (Km s5) λm hm=>(e3 m hm).2⟩;rw[B7,BQ,←e1,←ER];simp only[D.av,JM,el,er,List.cons_append,List.nil_append];rfl
theorem Abi{y:D}(h:D.Typed φ y 52):∃ l:List Nat,y.av=[eN l]/\Limbs l:=by
 obtain⟨xs,rfl,hx⟩:=h.slice_ Tryz.underlying52;have:∀ xs:List D,(∀ y∈xs,D.Typed φ y 230)->∃ l:List Nat,xs.map D.av=l.map eL/\Limbs l:=λxs=>by
  induction xs with
  |nil=>intro _;exact⟨[],rfl,BM⟩
  |cons x r ih=>
   intro hh;obtain⟨l,e1,e2⟩:=ih λy hy=>hh y (ApM _ hy)
   obtain⟨n,rfl,hw⟩:=(hh x (ApK ..)).int_ Tryz.underlying230;have hw:0<=n/\n<4294967296:=by
    simp only[Lit.wf,Bool.and_eq_true,decide_eq_true_eq]at hw;have h1:IntKind.u32.min=0:=by decide
    have h2:IntKind.u32.max=4294967295:=by decide
    omega
   obtain⟨m,rfl⟩:=Int.eq_ofNat_of_zero_le hw.1;exact⟨m::l,by rw[ApS,ApS,e1];rfl,BC (by omega) e2⟩
 obtain⟨l,e1,e2⟩:=this xs hx;exact⟨l,by rw[D.av,ER,e1];rfl,e2⟩
theorem AmK{y:D}(h:D.Typed φ y 54):∃ z:Zi,y.av=eZ z/\Limbs z.abs:=by
 obtain⟨xs,rfl,g0⟩:=h.struct_ Tryz.underlying54;obtain⟨x0,r0,rfl,h0,g1⟩:=D.TypedFields.cons_ g0;obtain⟨x1,r1,rfl,h1,g2⟩:=D.TypedFields.cons_ g1;obtain rfl:=D.TypedFields.nil_ g2;obtain⟨b,rfl⟩:=h0.bool_ Tryz.underlying4;obtain⟨l,e1,e2⟩:=Abi h1;refine⟨⟨b,l⟩,?_,e2⟩
 show D.av (.agg [.bool b,x1])=_
 simp only[D.av,JM,e1];rfl
theorem Akk{y:D}(h:D.Typed φ y 48)(hf:D.Fits φ y 48):∃ zs:List Zi,y.av=[.ls (zs.map eZ)]/\zs.length<4611686018427387904/\∀ z∈zs,Limbs z.abs:=by
 obtain⟨xs,rfl,hx⟩:=h.slice_ Tryz.underlying48;obtain⟨h1,h2⟩:=hf.slice_ Tryz.underlying48;have hl:=Og (ArB (by kernel_rfl)) h1;have:∀ xs:List D,(∀ y∈xs,D.Typed φ y 54)->∃ zs:List Zi,xs.map D.av=zs.map eZ/\zs.length=xs.length/\∀ z∈zs,Limbs z.abs:=λxs=>by
  induction xs with
  |nil=>intro _;exact⟨[],rfl,rfl,by simp⟩
  |cons x r ih=>
   intro hh;obtain⟨zs,e1,e2,e3⟩:=ih λy hy=>hh y (ApM _ hy)
   obtain⟨z,k1,k2⟩:=AmK (hh x (ApK ..));refine⟨z::zs,by rw[ApS,ApS,e1,k1],by simp[e2],λu hu=>?_⟩;rcases ApC.1 hu with rfl|hu
   .exact k2
   .exact e3 u hu
 obtain⟨zs,e1,e2,e3⟩:=this xs hx;exact⟨zs,by rw[D.av,ER,e1],by omega,e3⟩
end Go.Proofs.YtlmhajfbpplpoaaGreat
