/-
  Tokens in new cells, read as rows. No program in sight.
  What D answers, the program does. No program in sight.
  A value that speaks of no block reads the same under any numbering. No program in sight.
-/
import Derived.Test.YtpncilciembjdaaGreatDoorAAK
import Derived.Test.YtpncilciembjdaaGreatDoorAAM
set_option linter.unusedSectionVars false
set_option linter.unusedSimpArgs false
set_option linter.unusedVariables false
namespace Go.Proofs.YtpncilciembjdaaGreatDoor
open Go.RowKit

end Go.Proofs.YtpncilciembjdaaGreatDoor
namespace Go.Proofs.YtpncilciembjdaaGreatDoor
open Go.RowKit

theorem den_calls{P:Program}{ents:Nat}{M:Seat}(hM:SeatOk P ents M){f:Nat}{args:List AV}{r:AV}(h:(Dstar realA M).ask (.fn f) args []=some (r,[]))(w:World)(us:List Value)
  (hus:RepList (fun _=>none) (fun g _=>g<w.heap.size) w args us) :
  Calls P f us.toArray w fun e w'=>∃ u,e=.returned u/\Below w.heap.size w w'/\∃ μ' F',Rep μ' F' w' r u:=by
 obtain⟨_,t0,ht,g⟩:=star_good hM f args [] r [] h
 have hH:HRep (fun _=>none) (fun g _=>g<w.heap.size) w (fun b=>if b<t0 then([]:List ABlk)[b]? else look b []):=by
  have e:∀ b,(if b<t0 then([]:List ABlk)[b]? else look b [])=none:=fun b=>by split<;>rfl
  refine⟨fun b k hb=>?_,fun b b' k k' p p' _ hb=>?_,fun g o hg=>hg⟩
  .rw[e]at hb;cases hb
  .rw[e]at hb;cases hb
 have:=g t0 (Nat.le_refl _) (fun _=>none) (fun g _=>g<w.heap.size) w [] us (by simp) hus hH (fun _ _ _=>rfl)
 refine Calls.mono this ?_
 rintro e w' ⟨u,rfl,μ',F',h1,_,_,h4,_⟩
 exact⟨u,rfl,h4.below (Nat.le_refl _) (fun g o hg=>hg),μ',F',h1⟩
end Go.Proofs.YtpncilciembjdaaGreatDoor
namespace Go.Proofs.YtpncilciembjdaaGreatDoor
open Go.RowKit

section
variable {μ μ':Mu} {F:Prot} {w:World}
mutual
theorem Rep.plain:∀(x:AV) (u:Value),x.noid=true->Rep μ F w x u->Rep μ' (fun g _=>g<w.heap.size) w x u
 |.v x,u,_,hx=>by simpa only[Rep]using hx
 |.ptr b o,u,h,hx=>by simp[AV.noid]at h
 |.sl b o n e,u,h,hx=>by simp[AV.noid]at h
 |.ls xs,u,_,hx=>by
  simp only[Rep]at hx ⊢
  obtain⟨h0,A,c,h1,h2,h3,h4⟩:=hx
  refine⟨h0,A,c,h1,h2,h3,fun hne=>?_⟩
  obtain⟨g,o,e,hA,hr⟩:=h4 hne
  exact⟨g,o,e,hA,RepRows.plain g e xs o h0 hr⟩
 |.lp cs,u,_,hx=>by
  simp only[Rep]at hx ⊢
  obtain⟨h0,g,o,h1,h2⟩:=hx
  exact⟨h0,g,o,h1,RepAt.plain g cs o h0 h2⟩
 |.agg cs,u,h,hx=>by
  simp only[Rep]at hx ⊢
  obtain⟨us,h1,h2⟩:=hx
  exact⟨us,h1,RepList.plain cs _ (by simpa only[AV.noid]using h) h2⟩
 |.tup cs,u,h,hx=>by
  simp only[Rep]at hx ⊢
  obtain⟨us,h1,h2⟩:=hx
  exact⟨us,h1,RepList.plain cs _ (by simpa only[AV.noid]using h) h2⟩
 |.fn f a c,u,h,hx=>by
  simp only[Rep]at hx ⊢
  simp only[AV.noid,Bool.and_eq_true]at h
  obtain⟨ua,uc,h1,h2,h3⟩:=hx
  exact⟨ua,uc,h1,RepList.plain a _ h.1 h2,RepList.plain c _ h.2 h3⟩
 |.any,_,_,_=>by simp only[Rep]
theorem RepRows.plain(g e:Nat):∀(xs:List (List AV)) (o:Nat),noidR xs=true->RepRows μ F w g e xs o->RepRows μ' (fun g _=>g<w.heap.size) w g e xs o
 |[],_,_,_=>by simp only[RepRows]
 |x::r,o,h,hx=>by
  simp only[RepRows]at hx ⊢
  unfold noidR at h
  rw[List.all_cons,Bool.and_eq_true]at h
  exact⟨hx.1,RepAt.plain g x o h.1 hx.2.1,RepRows.plain g e r _ h.2 hx.2.2⟩
theorem RepAt.plain(g:Nat):∀(xs:List AV) (o:Nat),noidL xs=true->RepAt μ F w g xs o->RepAt μ' (fun g _=>g<w.heap.size) w g xs o
 |[],_,_,_=>by simp only[RepAt]
 |x::r,o,h,hx=>by
  simp only[RepAt]at hx ⊢
  simp only[noidL,Bool.and_eq_true]at h
  obtain⟨⟨h1,u,h2,h3⟩,h4⟩:=hx
  exact⟨⟨heap_lt h2,u,h2,Rep.plain x u h.1 h3⟩,RepAt.plain g r _ h.2 h4⟩
theorem RepList.plain:∀(xs:List AV) (us:List Value),noidL xs=true->RepList μ F w xs us->RepList μ' (fun g _=>g<w.heap.size) w xs us
 |[],us,_,hx=>by simpa only[RepList]using hx
 |x::r,us,h,hx=>by
  simp only[RepList]at hx ⊢
  simp only[noidL,Bool.and_eq_true]at h
  obtain⟨u,t,h1,h2,h3⟩:=hx
  exact⟨u,t,h1,Rep.plain x u h.1 h2,RepList.plain r t h.2 h3⟩
end
end
theorem rep_below{w w':World}{x:AV}{u:Value}(hx:Rep (fun _=>none) (fun g _=>g<w.heap.size) w x u)(h:Below w.heap.size w w'):Rep (fun _=>none) (fun g _=>g<w'.heap.size) w' x u:=
 hx.later ⟨fun _ _ h=>h,fun g o hg=>⟨Nat.lt_of_lt_of_le hg h.size,h.cell (p:=⟨g,o,none⟩) hg⟩⟩
end Go.Proofs.YtpncilciembjdaaGreatDoor
