/- What a value in memory r -/
import Derived.WalkKit
set_option linter.all false
open Nat renaming lt_of_lt_of_le->Awp
namespace Go.Proofs.YtlmhajfbpplpoaaGreat
open Go.RowKit
inductive D where
 |int (k:IntKind) (n:Int)
 |bool (b:Bool)
 |str (s:ByteArray)
 |slice (e:Nat) (xs:List D)
 |agg (xs:List D)
mutual
def D.Is(w:World)(S:Nat->Prop):D->List Value->Prop
 |.int k n,cs=>cs=[.int k n]
 |.bool b,cs=>cs=[.bool b]
 |.str s,cs=>cs=[.string s]/\s.size<=maxLen
 |.slice e xs,cs=>∃ A c,cs=[.slice A xs.length c]/\xs.length<=c/\c<=maxLen/\(xs≠[]->∃ b o,A=some ⟨b,o,none⟩/\S b/\D.Row w S e b xs o)
 |.agg xs,cs=>D.Cat w S xs cs
def D.Row(w:World)(S:Nat->Prop)(e b:Nat):List D->Nat->Prop
 |[],_=>True
 |x::r,o=>(∃ cs,cs.length=e/\(∀ j u,cs[j]? = some u->w.cell? ⟨b,o+j,none⟩=some u)/\D.Is w S x cs)/\D.Row w S e b r (o+e)
def D.Cat(w:World)(S:Nat->Prop):List D->List Value->Prop
 |[],cs=>cs=[]
 |x::r,cs=>∃ c1 c2,cs=c1++c2/\D.Is w S x c1/\D.Cat w S r c2
end
mutual
theorem D.Is.keep{w w':World}{S S':Nat->Prop}(h:∀ b,S b->S' b/\w'.heap[b]? = w.heap[b]?):∀(x:D) (cs:List Value),D.Is w S x cs->D.Is w' S' x cs
 |.int _ _,_,hx=>by simpa only[D.Is]using hx
 |.bool _,_,hx=>by simpa only[D.Is]using hx
 |.str _,_,hx=>by simpa only[D.Is]using hx
 |.slice e xs,cs,hx=>by
  simp only[D.Is]at hx ⊢;obtain⟨A,c,h1,h2,h3,h4⟩:=hx;refine⟨A,c,h1,h2,h3,λhne=>?_⟩;obtain⟨b,o,hA,hS,hr⟩:=h4 hne;exact⟨b,o,hA,(h b hS).1,D.Row.keep h hS xs o hr⟩
 |.agg xs,cs,hx=>by
  simp only[D.Is]at hx ⊢;exact D.Cat.keep h xs cs hx
theorem D.Row.keep{w w':World}{S S':Nat->Prop}(h:∀ b,S b->S' b/\w'.heap[b]? = w.heap[b]?){e b:Nat}(hb:S b):∀(xs:List D) (o:Nat),D.Row w S e b xs o->D.Row w' S' e b xs o
 |[],_,_=>by simp only[D.Row]
 |x::r,o,hx=>by
  simp only[D.Row]at hx ⊢;obtain⟨⟨cs,h1,h2,h3⟩,h4⟩:=hx;exact⟨⟨cs,h1,λj u hj=>(World.cell?_of_block (a:=⟨b,o+j,none⟩) (h b hb).2).trans (h2 j u hj),D.Is.keep h x cs h3⟩,D.Row.keep h hb r _ h4⟩
theorem D.Cat.keep{w w':World}{S S':Nat->Prop}(h:∀ b,S b->S' b/\w'.heap[b]? = w.heap[b]?):∀(xs:List D) (cs:List Value),D.Cat w S xs cs->D.Cat w' S' xs cs
 |[],_,hx=>by simpa only[D.Cat]using hx
 |x::r,cs,hx=>by
  simp only[D.Cat]at hx ⊢;obtain⟨c1,c2,h1,h2,h3⟩:=hx;exact⟨c1,c2,h1,D.Is.keep h x c1 h2,D.Cat.keep h r c2 h3⟩
end
def Lt(B:Nat):Nat->Prop:=λb=>b<B
section
variable {w w':World} {S S':Nat->Prop} {B B':Nat} {x:D} {cs:List Value}
theorem D.Is.mono(h:D.Is w S x cs)(hs:∀ b,S b->S' b):D.Is w S' x cs:=h.keep (λb hb=>⟨hs b hb,rfl⟩)
theorem D.Is.more(h:D.Is w (Lt B) x cs)(hs:B<=B'):D.Is w (Lt B') x cs:=h.mono λ_ hb=>Awp hb hs
theorem D.Is.below(h:D.Is w (Lt B) x cs)(hb:Below B w w'):D.Is w' (Lt B) x cs:=h.keep λb h=>⟨h,hb.block b h⟩
theorem D.Is.alloc(h:D.Is w (Lt B) x cs)(hB:B<=w.heap.size)(o:Obj):D.Is (w.alloc o) (Lt B) x cs:=h.below ((Below.refl B w).alloc hB o)
theorem D.Is.setCell(h:D.Is w (Lt B) x cs){p:Addr}(hB:B<=p.block)(u:Value):D.Is (w.setCell p u) (Lt B) x cs:=h.below ((Below.refl B w).setCell hB u)
theorem D.Is.drew(h:D.Is w S x cs):D.Is w.drew S x cs:=D.Is.keep (w:=w) (w':=w.drew) (λ_ h=>⟨h,rfl⟩) x cs h
end
theorem BQ{w:World}{b o:Nat}{v:Value}(h:w.cell? ⟨b,o,none⟩=some v):b<w.heap.size:=by
 rcases Nat.lt_or_ge b w.heap.size with hlt|hge
 .exact hlt
 .simp[World.cell?,Array.getElem?_eq_none hge]at h
theorem D.Row.mk_{w:World}{S:Nat->Prop}{e b:Nat}:∀(xs:List D) (o:Nat),(∀ i (h:i<xs.length),
  ∃ cs,cs.length=e/\(∀ j u,cs[j]? = some u->w.cell? ⟨b,o+i*e+j,none⟩=some u)/\D.Is w S xs[i] cs)->D.Row w S e b xs o
 |[],_,_=>by simp only[D.Row]
 |x::r,o,hx=>by
  simp only[D.Row];refine⟨?_,D.Row.mk_ r (o+e) λi h=>?_⟩
  .obtain⟨cs,h1,h2,h3⟩:=hx 0 (by simp)
   exact⟨cs,h1,λj u hj=>by simpa using h2 j u hj,h3⟩
  obtain⟨cs,h1,h2,h3⟩:=hx (i+1) (by simpa using h);refine⟨cs,h1,λj u hj=>?_,by simpa using h3⟩;have:=h2 j u hj;rw[show o+(i+1)*e+j=o+e+i*e+j from by rw[Nat.add_mul];omega]at this;exact this
theorem D.Is.slice_mk{w:World}{S:Nat->Prop}{e:Nat}{xs:List D}{A:Option Addr}{n c:Nat}(hn:n=xs.length)(hc:n<=c)(hm:c<=maxLen)
  (h:0<n->∃ b o,A=some ⟨b,o,none⟩/\S b/\∀ i (h:i<xs.length),∃ cs,cs.length=e/\(∀ j u,cs[j]? = some u->w.cell? ⟨b,o+i*e+j,none⟩=some u)/\D.Is w S xs[i] cs) :
  D.Is w S (.slice e xs) [.slice A n c]:=by
 simp only[D.Is];subst hn;refine⟨A,c,rfl,hc,hm,λhne=>?_⟩;obtain⟨b,o,hA,hS,hr⟩:=h (List.length_pos_iff.2 hne);exact⟨b,o,hA,hS,D.Row.mk_ xs o hr⟩
def Bd(S:Nat->Prop)(w:World):Prop:=∀ b,S b->b<w.heap.size
section
variable {S:Nat->Prop} {w w' w0 w1:World} {x:D} {cs:List Value}
theorem Bd.call(h:Bd S w)(hb:w.heap.size<=w'.heap.size):Bd S w':=λb hs=>Awp (h b hs) hb
theorem D.Is.call(h:D.Is w S x cs)(hS:Bd S w)(hb:Below w.heap.size w w'):D.Is w' S x cs:=h.keep λb hs=>⟨hs,hb.block b (hS b hs)⟩
theorem D.Is.store{p:Addr}(h:D.Is w S x cs)(hp:¬ S p.block)(u:Value):D.Is (w.setCell p u) S x cs:=
 h.keep λb hb=>⟨hb,Below.heap_setCell w p u b (λe=>hp (e▸hb))⟩
