/- What a text's tokens are -/
import Derived.ProofKit
import Derived.Test.YtpncilciembjdaaGreatDoorJAK
set_option linter.all false
open Bool renaming and_eq_true->Atk
open Nat renaming le_refl->η
namespace Go.Proofs.YtpncilciembjdaaGreatDoor
def AoW(c:UInt8):Bool:=decide (97<=c.toNat)&&decide (c.toNat<=122)
def Aqd(c:UInt8):Bool:=decide (48<=c.toNat)&&decide (c.toNat<=57)
def Arh(c:UInt8):Bool:=AoW c||Aqd c||(c.toNat == 95)
def ApV(l:List UInt8):Bool:=!l.isEmpty&&decide (l.length<=20)&&AoW (l.getD 0 0)&&l.all Arh
def ArD:List (List UInt8):=[[116,114,117,101],[102,97,108,115,101],[118,97,114],[105,110],[105,110,105,116],[112,114,111,99],[108,111,99],[101,110,100]]
def ArC(l:List UInt8):Bool:=ArD.contains l
def Api(l:List UInt8):Bool:=ApV l&&!ArC l
structure Tk where
 kind:Nat
 text:List UInt8
 ln:Nat
 co:Nat
 deriving DecidableEq
inductive LexR
 |ok (ts:List Tk)
 |err (e ln co:Nat)
 deriving DecidableEq
def LexR.more(t:Tk):LexR->LexR
 |.ok ts=>.ok (t::ts)
 |.err e ln co=>.err e ln co
open Go.RowKit

theorem Xo{P:Program}{ents:Nat}{M:Seat}(hM:SeatOk P ents M){f:Nat}{args:Aa}{r:AV}(h:(AB Ah M).ask (.fn f) args []=some (r,[]))(w:World)(us:AA)
  (hus:RepList (λ_=>none) (λg _=>g<w.heap.size) w args us) :
  Calls P f us.toArray w λe w'=>∃ u,e=.returned u/\Below w.heap.size w w'/\∃ μ' F',Rep μ' F' w' r u:=by
 obtain⟨_,t0,ht,g⟩:=Cq hM f args [] r [] h;have hH:HRep (λ_=>none) (λg _=>g<w.heap.size) w (λb=>if b<t0 then([]:List ABlk)[b]? else look b []):=by
  have e:∀ b,(if b<t0 then([]:List ABlk)[b]? else look b [])=none:=λb=>by split<;>rfl
  refine⟨λb k hb=>?_,λb b' k k' p p' _ hb=>?_,λg o hg=>hg⟩
  .rw[e]at hb;cases hb
  .rw[e]at hb;cases hb
 have:=g t0 (η _) (λ_=>none) (λg _=>g<w.heap.size) w [] us (by simp) hus hH (λ_ _ _=>rfl);refine Calls.mono this ?_;rintro e w' ⟨u,rfl,μ',F',h1,_,_,h4,_⟩;exact⟨u,rfl,h4.below (η _) (λg o hg=>hg),μ',F',h1⟩
section
variable {μ μ':Mu} {F:AP} {w:World}
mutual
theorem Rep.plain:∀(x:AV) (u:Value),x.noid=true->Rep μ F w x u->Rep μ' (λg _=>g<w.heap.size) w x u
 |.v x,u,_,hx=>by simpa only[Rep]using hx
 |.ptr b o,u,h,hx=>by simp[AV.noid]at h
 |.sl b o n e,u,h,hx=>by simp[AV.noid]at h
 |.ls xs,u,_,hx=>by
  simp only[Rep]at hx ⊢;obtain⟨h0,A,c,h1,h2,h3,h4⟩:=hx;refine⟨h0,A,c,h1,h2,h3,λhne=>?_⟩;obtain⟨g,o,e,hA,hr⟩:=h4 hne;exact⟨g,o,e,hA,RepRows.plain g e xs o h0 hr⟩
 |.lp cs,u,_,hx=>by
  simp only[Rep]at hx ⊢;obtain⟨h0,g,o,h1,h2⟩:=hx;exact⟨h0,g,o,h1,RepAt.plain g cs o h0 h2⟩
 |.agg cs,u,h,hx=>by
  simp only[Rep]at hx ⊢;obtain⟨us,h1,h2⟩:=hx;exact⟨us,h1,RepList.plain cs _ (by simpa only[AV.noid]using h) h2⟩
 |.tup cs,u,h,hx=>by
  simp only[Rep]at hx ⊢;obtain⟨us,h1,h2⟩:=hx;exact⟨us,h1,RepList.plain cs _ (by simpa only[AV.noid]using h) h2⟩
 |.fn f a c,u,h,hx=>by
  simp only[Rep]at hx ⊢;simp only[AV.noid,Atk]at h;obtain⟨ua,uc,h1,h2,h3⟩:=hx;exact⟨ua,uc,h1,RepList.plain a _ h.1 h2,RepList.plain c _ h.2 h3⟩
 |.any,_,_,_=>by simp only[Rep]
theorem RepRows.plain(g e:Nat):∀(xs:Rw) (o:Nat),ID xs=true->RepRows μ F w g e xs o->RepRows μ' (λg _=>g<w.heap.size) w g e xs o
 |[],_,_,_=>by simp only[RepRows]
 |x::r,o,h,hx=>by
  simp only[RepRows]at hx ⊢;unfold ID at h;rw[List.all_cons,Atk]at h;exact⟨hx.1,RepAt.plain g x o h.1 hx.2.1,RepRows.plain g e r _ h.2 hx.2.2⟩
theorem RepAt.plain(g:Nat):∀(xs:Aa) (o:Nat),AU xs=true->RepAt μ F w g xs o->RepAt μ' (λg _=>g<w.heap.size) w g xs o
 |[],_,_,_=>by simp only[RepAt]
 |x::r,o,h,hx=>by
  simp only[RepAt]at hx ⊢;simp only[AU,Atk]at h;obtain⟨⟨h1,u,h2,h3⟩,h4⟩:=hx;exact⟨⟨C7 h2,u,h2,Rep.plain x u h.1 h3⟩,RepAt.plain g r _ h.2 h4⟩
theorem RepList.plain:∀(xs:Aa) (us:AA),AU xs=true->RepList μ F w xs us->RepList μ' (λg _=>g<w.heap.size) w xs us
 |[],us,_,hx=>by simpa only[RepList]using hx
 |x::r,us,h,hx=>by
  simp only[RepList]at hx ⊢;simp only[AU,Atk]at h;obtain⟨u,t,h1,h2,h3⟩:=hx;exact⟨u,t,h1,Rep.plain x u h.1 h2,RepList.plain r t h.2 h3⟩
end
end
theorem Yd{w w':World}{x:AV}{u:Value}(hx:Rep (λ_=>none) (λg _=>g<w.heap.size) w x u)(h:Below w.heap.size w w'):Rep (λ_=>none) (λg _=>g<w'.heap.size) w' x u:=
 hx.later ⟨λ_ _ h=>h,λg o hg=>⟨Nat.lt_of_lt_of_le hg h.size,h.cell (p:=⟨g,o,none⟩) hg⟩⟩
