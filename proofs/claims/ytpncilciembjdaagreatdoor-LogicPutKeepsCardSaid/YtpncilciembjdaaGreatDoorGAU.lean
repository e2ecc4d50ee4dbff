/- A seat of D: tables of f -/
import Derived.Test.YtpncilciembjdaaGreatDoorGAS
import Derived.Test.YtpncilciembjdaaGreatDoorGAT
set_option linter.all false
open List renaming all_eq_true->Aqt,length_map->Aqy,map_cons->AqF,mem_map->Aq6
namespace Go.Proofs.YtpncilciembjdaaGreatDoor
noncomputable section
open Tryz renaming prog->η
open Go.RowKit
def QY:List (List (Nat × MFn)):=[VY]
def TT:List (Nat × DF):=[(107,(AY Ah NP).ask (.fn 107)),(59,(AY Ah Dd).ask (.fn 59))]
def NR:Seat:=D9 Al QY.flatten TT
def DP4:Orc:=AY Ah NR
set_option maxRecDepth 100000 in
theorem Als:EK η Bt QY:=by
 repeat' first|exact trivial|refine⟨⟨_,_,_,rfl⟩,by kernel_rfl,?_⟩|refine⟨?_,?_⟩
theorem AlA:(E7 QY&&LD QY.flatten TT)=true:=by kernel_rfl
theorem Amh:Knows Al VY DP4:=Bu AlA (i:=0) rfl
section
variable {args:List AV} {bs:List ABlk} {r:AV × List BO}
theorem Th(h:((AY Ah NP).ask (.fn 107)) args bs=some r):DP4.ask (.fn 107) args bs=some r:=AZ rfl h
theorem Ya(h:((AY Ah Dd).ask (.fn 59)) args bs=some r):DP4.ask (.fn 59) args bs=some r:=AZ rfl h
end
theorem Xy(h:EL η TT):SeatOk η Bt NR:=DD Nt Dt Als h
def Kn:AV->AV
 |.v z=>Oq z
 |x=>x
def T4:AV->AV
 |.ls xs=>.ls (xs.map (·.map Kn))
 |x=>x
section
variable {μ:Mu} {F:Az} {w:World}
theorem Aaw:∀{x:AV} {u:Value},Rep μ F w x u->Rep μ F w (Kn x) u
 |.v z,u,h=>by
  show Rep μ F w (Oq z) u
  unfold Oq;split
  .rename_i e
   rw[Fv e]at h;unfold Rep at h;obtain⟨rfl,_⟩:=h;unfold Rep;exact⟨rfl,none,0,rfl,Nat.le_refl _,Nat.zero_le _,λh=>absurd rfl h⟩
  .exact h
 |.ptr ..,_,h=>h
 |.sl ..,_,h=>h
 |.ls _,_,h=>h
 |.lp _,_,h=>h
 |.agg _,_,h=>h
 |.tup _,_,h=>h
 |.fn ..,_,h=>h
 |.any,_,h=>h
theorem Pm{g:Nat}:∀{xs:List AV} {o:Nat},RepAt μ F w g xs o->RepAt μ F w g (xs.map Kn) o
 |[],_,_=>by unfold RepAt;trivial
 |x::r,o,h=>by
  rw[AqF];unfold RepAt at h ⊢;obtain⟨⟨h1,u,h2,h3⟩,h4⟩:=h;exact⟨⟨h1,u,h2,Aaw h3⟩,Pm h4⟩
theorem LL{g e:Nat}:∀{xs:List (List AV)} {o:Nat},RepRows μ F w g e xs o->RepRows μ F w g e (xs.map (·.map Kn)) o
 |[],_,_=>by unfold RepRows;trivial
 |x::r,o,h=>by
  rw[AqF];unfold RepRows at h ⊢;exact⟨by rw[Aqy];exact h.1,Pm h.2.1,LL h.2.2⟩
theorem W6(x:AV)(h:x.noid=true):(Kn x).noid=true:=by
 cases x with
 |v z=>
  show (Oq z).noid=true
  unfold Oq;split
  .rfl
  .exact h
 |_=>exact h
theorem W4:∀(xs:List AV),AA xs=true->AA (xs.map Kn)=true
 |[],_=>rfl
 |x::r,h=>by
  rw[Bp]at h ⊢;rw[Aqt]at h ⊢;intro y hy;obtain⟨z,hz,rfl⟩:=Aq6.1 hy;exact W6 z (h z hz)
theorem W5:∀(xs:List (List AV)),Fz xs=true->Fz (xs.map (·.map Kn))=true:=λxs h=>by
 unfold Fz at h ⊢;rw[Aqt]at h ⊢;intro y hy;obtain⟨z,hz,rfl⟩:=Aq6.1 hy;exact W4 z (h z hz)
theorem Aav:∀{x:AV} {u:Value},Rep μ F w x u->Rep μ F w (T4 x) u
 |.ls xs,u,h=>by
  unfold T4;unfold Rep at h ⊢;obtain⟨h1,A,c,h2,h3,h4,h5⟩:=h;refine⟨W5 xs h1,A,c,by rw[Aqy];exact h2,by rw[Aqy];exact h3,h4,λhn=>?_⟩;obtain⟨g,o,e,h6,h7⟩:=h5 λe=>hn (by rw[e];rfl)
  exact⟨g,o,e,h6,LL h7⟩
 |.v _,_,h=>h
 |.ptr ..,_,h=>h
 |.sl ..,_,h=>h
 |.lp _,_,h=>h
 |.agg _,_,h=>h
 |.tup _,_,h=>h
 |.fn ..,_,h=>h
 |.any,_,h=>h
theorem LI:∀{xs:List AV} {us:List Value},RepList μ F w xs us->RepList μ F w (xs.map T4) us
 |[],_,h=>h
 |x::r,us,h=>by
  rw[AqF];unfold RepList at h ⊢;obtain⟨u,t,h1,h2,h3⟩:=h;exact⟨u,t,h1,Aav h2,LI h3⟩
end
theorem WC{S:J7}{d:DF}(h:AN S d):AN S λa b=>d (a.map T4) b:=λargs bs r out e=>by
 obtain⟨h1,t0,h2,h3⟩:=h (args.map T4) bs r out e;exact⟨h1,t0,h2,λt ht μ F w KL us a b c d=>h3 t ht μ F w KL us a (LI b) c d⟩
