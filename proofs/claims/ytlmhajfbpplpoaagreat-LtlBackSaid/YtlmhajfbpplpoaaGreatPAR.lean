/- Tokens in new cells, rea -/
import Derived.Test.YtlmhajfbpplpoaaGreatPAQ
set_option linter.all false
open Bool renaming and_eq_true->χ
open List renaming flatten_cons->Asw,map_cons->Arz
open Nat renaming le_refl->ω
namespace Go.Proofs.YtlmhajfbpplpoaaGreat
open Go.RowKit
def tkV(t:Tk):List Value:=[.int .i64 t.kind,.string ⟨t.text.toArray⟩,.int .i64 t.ln,.int .i64 t.co]
theorem Ada(ts:List Tk):I7 (ts.map MF)=true:=by
 unfold I7;rw[List.all_map];refine List.all_eq_true.2 λt _=>?_
 rfl
theorem MY{μ:Mu}{F:Az}{w:World}(n:Int):Rep μ F w (iv n) (.int .i64 n):=by
 unfold iv Rep;exact⟨rfl,rfl⟩
theorem Sr{μ:Mu}{F:Az}{w:World}(s:ByteArray):Rep μ F w (sv s) (.string s):=by
 unfold sv Rep;exact⟨rfl,rfl⟩
theorem WE{μ:Mu}{F:Az}{w:World}(b:Bool):Rep μ F w (bv b) (.bool b):=by
 unfold bv Rep;exact⟨rfl,rfl⟩
theorem UI{μ:Mu}{F:Az}{w:World}{g:Nat}(hF:∀ o,F g o):∀(ts:List Tk) (o:Nat),(∀ j,j<ts.length*4->w.cell? ⟨g,o+j,none⟩=((ts.map tkV).flatten)[j]?)->RepRows μ F w g 4 (ts.map MF) o
 |[],o,_=>by
  simp only[List.map_nil,RepRows]
 |t::r,o,h=>by
  have hc:∀ j,j<4->w.cell? ⟨g,o+j,none⟩=(tkV t)[j]?:=λj hj=>by
   rw[h j (by simp;omega),Arz,Asw,List.getElem?_append_left (by simp[tkV];omega)]
  have hr:=UI (μ:=μ) hF r (o+4) (λj hj=>by
   have:=h (4+j) (by simp;omega);rw[Arz,Asw,List.getElem?_append_right (by simp[tkV])]at this;rw[Nat.add_assoc,this]
   congr 1
   simp[tkV])
  simp only[Arz,RepRows];refine⟨rfl,?_,hr⟩;simp only[MF,RepAt];exact⟨⟨hF _,_,(hc 0 (by omega)).trans rfl,MY _⟩,⟨hF _,_,(hc 1 (by omega)).trans rfl,Sr _⟩,⟨hF _,_,(hc 2 (by omega)).trans rfl,MY _⟩,⟨hF _,_,(hc 3 (by omega)).trans rfl,MY _⟩,trivial⟩
theorem AgG{μ:Mu}{F:Az}{w w':World}{e:TypeId}{v:Value}{ts:List Tk}(ho:w'.ownsRow w.heap.size e 4 v ts.length ((ts.map tkV).flatten)):Rep μ (ZG F w w') w' (.ls (ts.map MF)) v:=by
 have h2:=ho.2;unfold Rep;refine⟨Ada ts,?_⟩;rw[List.length_map];rcases h2 with⟨rfl,h0⟩|⟨g,cap,cur,rfl,hb,hg,hn,hc,_⟩
 .have:ts=[]:=List.length_eq_zero_iff.1 h0
  subst this;exact⟨none,0,rfl,ω _,Nat.zero_le _,λh=>absurd rfl h⟩
 .have hlt:g<w'.heap.size:=by
   by_cases h:g<w'.heap.size
   .exact h
   .rw[Array.getElem?_eq_none (by omega)]at hg;cases hg
  refine⟨some ⟨g,0,none⟩,cap,rfl,hn,hc,λ_=>⟨g,0,4,rfl,?_⟩⟩;exact UI (λo=>.inr ⟨hb,hlt⟩) ts 0 (λj hj=>by rw[Nat.zero_add];exact ho.cellAt j hj)
theorem MA{P:Program}{ents:Nat}{M:Seat}(hM:SeatOk P ents M){f:Nat}{args:List AV}{r:AV}(h:(A8 Ah M).ask (.fn f) args []=some (r,[]))(w:World)(us:List Value)
  (hus:RepList (λ_=>none) (λg _=>g<w.heap.size) w args us) :
  Calls P f us.toArray w λe w'=>∃ u,e=.returned u/\Below w.heap.size w w'/\∃ μ' F',Rep μ' F' w' r u:=by
 obtain⟨_,t0,ht,g⟩:=EN hM f args [] r [] h;have hH:HRep (λ_=>none) (λg _=>g<w.heap.size) w (λb=>if b<t0 then([]:List ABlk)[b]? else look b []):=by
  have e:∀ b,(if b<t0 then([]:List ABlk)[b]? else look b [])=none:=λb=>by split<;>rfl
  refine⟨λb k hb=>?_,λb b' k k' p p' _ hb=>?_,λg o hg=>hg⟩
  .rw[e]at hb;cases hb
  .rw[e]at hb;cases hb
 have:=g t0 (ω _) (λ_=>none) (λg _=>g<w.heap.size) w [] us (by simp) hus hH (λ_ _ _=>rfl);refine Calls.mono this ?_;rintro e w' ⟨u,rfl,μ',F',h1,_,_,h4,_⟩;exact⟨u,rfl,h4.below (ω _) (λg o hg=>hg),μ',F',h1⟩
section
variable {μ μ':Mu} {F:Az} {w:World}
mutual
theorem Rep.plain:∀(x:AV) (u:Value),x.noid=true->Rep μ F w x u->Rep μ' (λg _=>g<w.heap.size) w x u
 |.v x,u,_,hx=>by simpa only[Rep]using hx
 |.ptr b o,u,h,hx=>by simp[AV.noid]at h
 |.sl b o n e,u,h,hx=>by simp[AV.noid]at h
 |.ls xs,u,_,hx=>by
  simp only[Rep]at hx ⊢;obtain⟨h0,A,c,h1,h2,h3,h4⟩:=hx;refine⟨h0,A,c,h1,h2,h3,λhne=>?_⟩;obtain⟨g,o,e,hA,hr⟩:=h4 hne;exact⟨g,o,e,hA,RepRows.plain g e xs o h0 hr⟩
 |.lp cs,u,_,hx=>by
  simp only[Rep]at hx ⊢;obtain⟨h0,g,o,h1,h2⟩:=hx;exact⟨h0,g,o,h1,RepAt.plain g cs o h0 h2⟩
 |.agg cs,u,h,hx=>by
  simp only[Rep]at hx ⊢;obtain⟨us,h1,h2⟩:=hx;exact⟨us,h1,RepList.plain cs _ (by simpa only[AV.noid]using h) h2⟩
 |.tup cs,u,h,hx=>by
  simp only[Rep]at hx ⊢;obtain⟨us,h1,h2⟩:=hx;exact⟨us,h1,RepList.plain cs _ (by simpa only[AV.noid]using h) h2⟩
 |.fn f a c,u,h,hx=>by
  simp only[Rep]at hx ⊢;simp only[AV.noid,χ]at h;obtain⟨ua,uc,h1,h2,h3⟩:=hx;exact⟨ua,uc,h1,RepList.plain a _ h.1 h2,RepList.plain c _ h.2 h3⟩
 |.any,_,_,_=>by simp only[Rep]
theorem RepRows.plain(g e:Nat):∀(xs:List (List AV)) (o:Nat),I7 xs=true->RepRows μ F w g e xs o->RepRows μ' (λg _=>g<w.heap.size) w g e xs o
 |[],_,_,_=>by simp only[RepRows]
 |x::r,o,h,hx=>by
  simp only[RepRows]at hx ⊢;unfold I7 at h;rw[List.all_cons,χ]at h;exact⟨hx.1,RepAt.plain g x o h.1 hx.2.1,RepRows.plain g e r _ h.2 hx.2.2⟩
theorem RepAt.plain(g:Nat):∀(xs:List AV) (o:Nat),AP xs=true->RepAt μ F w g xs o->RepAt μ' (λg _=>g<w.heap.size) w g xs o
 |[],_,_,_=>by simp only[RepAt]
 |x::r,o,h,hx=>by
  simp only[RepAt]at hx ⊢;simp only[AP,χ]at h;obtain⟨⟨h1,u,h2,h3⟩,h4⟩:=hx;exact⟨⟨DY h2,u,h2,Rep.plain x u h.1 h3⟩,RepAt.plain g r _ h.2 h4⟩
theorem RepList.plain:∀(xs:List AV) (us:List Value),AP xs=true->RepList μ F w xs us->RepList μ' (λg _=>g<w.heap.size) w xs us
 |[],us,_,hx=>by simpa only[RepList]using hx
 |x::r,us,h,hx=>by
  simp only[RepList]at hx ⊢;simp only[AP,χ]at h;obtain⟨u,t,h1,h2,h3⟩:=hx;exact⟨u,t,h1,Rep.plain x u h.1 h2,RepList.plain r t h.2 h3⟩
end
end
theorem ZU{w w':World}{x:AV}{u:Value}(hx:Rep (λ_=>none) (λg _=>g<w.heap.size) w x u)(h:Below w.heap.size w w'):Rep (λ_=>none) (λg _=>g<w'.heap.size) w' x u:=
 hx.later ⟨λ_ _ h=>h,λg o hg=>⟨Nat.lt_of_lt_of_le hg h.size,h.cell (p:=⟨g,o,none⟩) hg⟩⟩
end Go.Proofs.YtlmhajfbpplpoaaGreat
