/- From the form's own read -/
import Derived.Test.YtlmhajfbpplpoaaGreatMAA
import Derived.ProofKit
import Derived.SizedLaws
set_option linter.all false
open Option renaming some->V
namespace Go.Proofs.YtlmhajfbpplpoaaGreat
open Go.ChangeShapes Go.WideShapes Go.ChangeAt Go.RowKit
def GZ(P:Program):List Field->Nat->Nat->Bool
 |[],o,n=>o == n
 |f::r,o,n=>f.offset == o&&GZ P r (o+P.cellsOf f.type) n
def PP(P:Program)(L:List TypeId)(t:TypeId):Bool:=
 match P.underlying t with
 |some .bool|some (.int _) | some .string=>P.cellsOf t == 1
 |some (.slice e)=>P.cellsOf t == 1&&L.contains e&&decide (0<P.cellsOf e)
 |some (.struct fs)=>GZ P fs.toList 0 (P.cellsOf t)&&fs.toList.all λf=>L.contains f.type
 |_=>false
mutual
def D.Typed(P:Program):D->TypeId->Prop
 |.int k n,t=>P.underlying t=V (.int k)/\(Lit.int k n).wf=true
 |.bool _,t=>P.underlying t=V .bool
 |.str _,t=>P.underlying t=V .string
 |.slice e xs,t=>∃ u,P.underlying t=V (.slice u)/\e=P.cellsOf u/\D.TypedAll P xs u
 |.agg xs,t=>∃ fs,P.underlying t=V (.struct fs)/\D.TypedFields P xs fs.toList
def D.TypedAll(P:Program):List D->TypeId->Prop
 |[],_=>True
 |x::r,u=>D.Typed P x u/\D.TypedAll P r u
def D.TypedFields(P:Program):List D->List Field->Prop
 |[],fs=>fs=[]
 |x::r,fs=>∃ f gs,fs=f::gs/\D.Typed P x f.type/\D.TypedFields P r gs
end
theorem D.typedAll_of{P:Program}{u:TypeId}:∀(xs:List D),(∀ x∈xs,D.Typed P x u)->D.TypedAll P xs u
 |[],_=>by simp only[D.TypedAll]
 |x::r,h=>by
  simp only[D.TypedAll];exact⟨h x (by simp),D.typedAll_of r λy hy=>h y (by simp[hy])⟩
section
variable {H:Type} {enc:TypeId × Value->H} {P:Program} {w:World}
theorem Ur{α:Type}{n:Nat}{R:Nat->α->Prop}(h:∀ i,i<n->∃ x,R i x):∃ xs:List α,xs.length=n/\∀ i (hi:i<xs.length),R i xs[i]:=by
 induction n with
 |zero=>exact⟨[],rfl,λi hi=>by simp at hi⟩
 |succ n ih=>
  obtain⟨xs,hl,hx⟩:=ih λi hi=>h i (by omega)
  obtain⟨y,hy⟩:=h n (by omega);refine⟨xs++[y],by simp[hl],λi hi=>?_⟩;rcases Nat.lt_or_ge i xs.length with hlt|hge
  .rw[List.getElem_append_left hlt];exact hx i hlt
  .have hin:i=n:=by simp at hi;omega
   subst hin;rw[List.getElem_append_right hge];simpa[hl]using hy
theorem AaN{base:Nat}{a:Addr}{n:Nat}{cs:List Value}(h:w.cells? base a n=V cs):cs.length=n/\∀ i,i<n->w.cell? (a.add i)=cs[i]?:=(World.cells?_some h).2
theorem Ack{a:Addr}{v:Value}(h:w.cell? a=V v):a.spot=none/\a.block<w.heap.size:=by
 unfold World.cell? at h
 cases hh:w.heap[a.block]? with
 |none=>simp[hh]at h
 |some o=>
  refine⟨?_,(Array.getElem?_eq_some_iff.1 hh).1⟩;rw[hh]at h
  cases o<;>simp at h
  exact h.1
theorem FH{b o k:Nat}:(⟨b,o,none⟩:Addr).add k=⟨b,o+k,none⟩:=by unfold Addr.add;split<;>simp_all
def D.val:D->List Value->Value
 |.agg _,cs=>.agg cs.toArray
 |_,cs=>cs.headD undef
theorem J9(hl:laidOutB P=true){W W':World}(hb:Below W.heap.size W W'):∀(ts:List TypeId) (vs:List Value) (ds:List (DataW H)) (ps:List MemPlace),
  (∀ t∈ts,P.readableRec t=true/\t<P.types.size)->(∀ x∈ps,x.block<W.heap.size)->DataW.TrodAll enc P W 0 (λ_=>true) true ts vs ds ps->
  DataW.TrodAll enc P W' 0 (λb=>decide (b<W.heap.size)) true ts vs ds ps
 |[],[],[],_,_,_,h=>h
 |t::ts,v::vs,d::ds,ps,ht,hlt,h=>by
  obtain⟨p,q,h1,h2,rfl⟩:=h;exact⟨p,q,Below.trod hl (ht t (by simp)).1 (ht t (by simp)).2 h1 hb (λx hx=>hlt x (by simp[hx])),
   J9 hl hb ts vs ds q (λt h=>ht t (by simp[h])) (λx hx=>hlt x (by simp[hx])) h2,rfl⟩
 |[],[],_::_,_,_,_,h=>h.elim
 |[],_::_,[],_,_,_,h=>h.elim
 |[],_::_,_::_,_,_,_,h=>h.elim
 |_::_,[],[],_,_,_,h=>h.elim
 |_::_,[],_::_,_,_,_,h=>h.elim
 |_::_,_::_,[],_,_,_,h=>h.elim
end
theorem NZ{H:Type}{enc:TypeId × Value->H}{P:Program}{w:World}{b:Nat}{sp:Nat->Bool}{hd:Bool}:∀(ts:List TypeId) (vs:List Value) (ds:List (DataW H)) (ps:List MemPlace),
  DataW.TrodAll enc P w b sp hd ts vs ds ps->ds.length=ts.length
 |[],[],[],_,_=>rfl
 |_::ts,_::vs,_::ds,_,h=>by
  obtain⟨_,q,_,h2,_⟩:=h;simp[NZ ts vs ds q h2]
 |[],[],_::_,_,h=>h.elim
 |[],_::_,[],_,h=>h.elim
 |[],_::_,_::_,_,h=>h.elim
 |_::_,[],[],_,h=>h.elim
 |_::_,[],_::_,_,h=>h.elim
 |_::_,_::_,[],_,h=>h.elim
section
variable {P:Program} {x:D} {t:TypeId}
theorem D.Typed.int_{k:IntKind}(h:D.Typed P x t)(ht:P.underlying t=V (.int k)):∃ n,x=.int k n/\(Lit.int k n).wf=true:=by
 cases x<;>simp only[D.Typed]at h<;>(try rw[ht]at h)<;>simp at h
 obtain⟨rfl,hw⟩:=h;exact⟨_,rfl,hw⟩
theorem D.Typed.bool_(h:D.Typed P x t)(ht:P.underlying t=V .bool):∃ b,x=.bool b:=by
 cases x<;>simp only[D.Typed]at h<;>(try rw[ht]at h)<;>simp at h
 exact⟨_,rfl⟩
theorem D.Typed.str_(h:D.Typed P x t)(ht:P.underlying t=V .string):∃ s,x=.str s:=by
 cases x<;>simp only[D.Typed]at h<;>(try rw[ht]at h)<;>simp at h
 exact⟨_,rfl⟩
theorem D.TypedAll.mem{u:TypeId}:∀{xs:List D},D.TypedAll P xs u->∀ y∈xs,D.Typed P y u
 |[],_,y,hy=>by simp at hy
 |z::r,h,y,hy=>by
  simp only[D.TypedAll]at h;rcases List.mem_cons.1 hy with rfl|hy
  .exact h.1
  .exact D.TypedAll.mem h.2 y hy
theorem D.Typed.slice_{u:TypeId}(h:D.Typed P x t)(ht:P.underlying t=V (.slice u)):∃ xs,x=.slice (P.cellsOf u) xs/\∀ y∈xs,D.Typed P y u:=by
 cases x<;>simp only[D.Typed]at h<;>(try rw[ht]at h)<;>simp at h
 obtain⟨rfl,h⟩:=h;exact⟨_,rfl,h.mem⟩
theorem D.Typed.struct_{fs:Array Field}(h:D.Typed P x t)(ht:P.underlying t=V (.struct fs)):∃ xs,x=.agg xs/\D.TypedFields P xs fs.toList:=by
 cases x<;>simp only[D.Typed]at h<;>(try rw[ht]at h)<;>simp at h
 exact⟨_,rfl,h⟩
theorem D.TypedFields.cons_{xs:List D}{f:Field}{fs:List Field}(h:D.TypedFields P xs (f::fs)):∃ x r,xs=x::r/\D.Typed P x f.type/\D.TypedFields P r fs:=by
 cases xs with
 |nil=>simp only[D.TypedFields]at h;cases h
 |cons x r=>
  simp only[D.TypedFields]at h;obtain⟨g,gs,hg,h1,h2⟩:=h;simp only[List.cons.injEq]at hg;obtain⟨rfl,rfl⟩:=hg;exact⟨x,r,rfl,h1,h2⟩
theorem D.TypedFields.nil_{xs:List D}(h:D.TypedFields P xs []):xs=[]:=by
 cases xs with
 |nil=>rfl
 |cons x r=>
  simp only[D.TypedFields]at h;obtain⟨g,gs,hg,_⟩:=h
  cases hg
