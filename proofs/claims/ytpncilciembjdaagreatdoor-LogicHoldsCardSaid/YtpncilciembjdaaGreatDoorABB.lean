/-
  rel.Tidy as an answer of D, out of what its callees answer.
-/
import Derived.Test.YtpncilciembjdaaGreatDoorAAZ
import Derived.Test.YtpncilciembjdaaGreatDoorABA
set_option linter.unusedSectionVars false
set_option linter.unusedSimpArgs false
set_option linter.unusedVariables false
namespace Go.Proofs.YtpncilciembjdaaGreatDoor
open Go.RowKit

def cellsO:List AV->Option (List RlA)
 |[]=>some []
 |a::b::c::d::r=>(match rlO [a,b,c,d],cellsO r with
  |some p,some l=>some (p::l)
  |_,_=>none)
 |_=>none
theorem cellsO_some:∀{xs:List AV} {l:List RlA},cellsO xs=some l->xs=l.flatMap RlA.c
 |[],l,h=>by injection h with h;subst h;rfl
 |[_],l,h=>by cases h
 |[_,_],l,h=>by cases h
 |[_,_,_],l,h=>by cases h
 |a::b::c::d::r,l,h=>by
  unfold cellsO at h
  split at h
  .rename_i p l' h1 h2
   injection h with h
   subst h
   rw[List.flatMap_cons,←rlO_some h1,←cellsO_some h2]
   rfl
  .cases h
section
variable (dq:Nat->DF)
def ansC(out:List RlA):Option (AV × List BO)->Option (List RlA)
 |some (.tup [],[.set ⟨y,true,true⟩])=>cellsO y
 |some (.tup [],[.keep])=>some out
 |_=>none
theorem ansC_some{out:List RlA}{o:Option (AV × List BO)}{l:List RlA}(h:ansC out o=some l):∃ ob,o=some (.tup [],[ob])/\((ob=.keep/\l.flatMap RlA.c=out.flatMap RlA.c)\/ob=.set ⟨l.flatMap RlA.c,true,true⟩):=by
 unfold ansC at h
 split at h
 .exact⟨_,rfl,.inr (by rw[cellsO_some h])⟩
 .injection h with h
  exact⟨_,rfl,.inl ⟨rfl,by rw[h]⟩⟩
 .cases h
def ansU:Option (AV × List BO)->Bool
 |some (.tup [],[])=>true
 |_=>false
theorem ansU_some{o:Option (AV × List BO)}(h:ansU o=true):o=some (.tup [],[]):=by
 unfold ansU at h
 split at h
 .rfl
 .cases h
def sortO(out:List RlA):Option (List RlA):=match ansC out (dq 90 [.sl 0 0 out.length 4,.fn (.func 25) [] []] [⟨out.flatMap RlA.c,true,true⟩]),out with
 |some [],[]=>(match ansU (dq 90 [.v (.slice none 0 0),.fn (.func 25) [] []] []) with
  |true=>some []
  |false=>none)
 |some s,_::_=>(match Nat.beq s.length out.length with
  |true=>some s
  |false=>none)
 |_,_=>none
theorem sortO_some{out s:List RlA}(h:sortO dq out=some s):s.length=out.length/\(∃ ob,dq 90 [.sl 0 0 out.length 4,.fn (.func 25) [] []] [⟨out.flatMap RlA.c,true,true⟩]=some (.tup [],[ob])/\((ob=.keep/\s.flatMap RlA.c=out.flatMap RlA.c)\/ob=.set ⟨s.flatMap RlA.c,true,true⟩)) ∧
  (out=[]->dq 90 [.v (.slice none 0 0),.fn (.func 25) [] []] []=some (.tup [],[])):=by
 unfold sortO at h
 split at h
 .rename_i h1
  split at h
  .rename_i h2
   injection h with h
   subst h
   exact⟨rfl,ansC_some h1,fun _=>ansU_some h2⟩
  .cases h
 .rename_i h1
  split at h
  .rename_i h2
   injection h with h
   subst h
   exact⟨Nat.eq_of_beq_eq_true h2,ansC_some h1,fun h=>by cases h⟩
  .cases h
 .cases h
def tidyO(rs:List RlA):Option (Option (List RlA)):=match Nat.ble rs.length 10000,run1O dq rs []with
 |true,some none=>some none
 |true,some (some ls)=>(match run2O dq ls []with
  |some none=>some none
  |some (some out)=>(match sortO dq out with
   |some s=>some (some s)
   |none=>none)
  |none=>none)
 |_,_=>none
def tidyR:Option (List RlA)->AV
 |some s=>.tup [.ls (s.map RlA.c),bv true]
 |none=>.tup [.ls [],bv false]
def rowO:List AV->Option (List RlA)
 |[.ls xs]=>rlsO xs
 |[.v (.slice none 0 0)]=>some []
 |_=>none
def resTidy(args:List AV):Option AV:=match rowO args with
 |some rs=>(match tidyO dq rs with
  |some o=>some (tidyR o)
  |none=>none)
 |none=>none
theorem ro_pair[S:Side]{w:World}{a b:AV}{u v:Value}(h:Ro [] w a u)(k:Ro [] w b v):Ro [] w (.tup [a,b]) (.tuple #[u,v]):=by
 unfold Ro at h k ⊢
 simp only[Rep,RepList]
 exact⟨_,rfl,_,_,rfl,h,_,_,rfl,k,rfl⟩
theorem ro_emp[S:Side]{own:List Nat}{w:World}:Ro own w (.ls []) (.slice none 0 0):=by
 unfold Ro
 simp only[Rep]
 exact⟨rfl,none,0,rfl,Nat.le_refl _,Nat.zero_le _,fun h=>absurd rfl h⟩
theorem flat4_get:∀(s:List RlA) (i j:Nat) (r:RlA),s[i]? = some r->j<4->(s.flatMap RlA.c)[i*4+j]? = r.c[j]?
 |[],i,j,r,h,_=>by simp at h
 |x::s,0,j,r,h,hj=>by
  simp at h
  subst h
  rw[List.flatMap_cons,Nat.zero_mul,Nat.zero_add,List.getElem?_append_left (show j<x.c.length from hj)]
 |x::s,i+1,j,r,h,hj=>by
  rw[List.flatMap_cons,List.getElem?_append_right (show x.c.length<=(i+1)*4+j from (by show 4<=_;omega)),←flat4_get s i j r (by simpa using h) hj]
  congr 1
  show (i+1)*4+j-4=_
  omega
theorem ro_row[S:Side]{own:List Nat}{w:World}{s:List RlA}{g cap:Nat}{T:TypeId}{cs:Array Value}(hb:Blk w g T cs)(hB:S.B<=g)(hs:Sd own w)(h1:cs.size=cap*4)(h2:s.length<=cap)(h3:cap<=maxLen)(h:RoL own w (s.flatMap RlA.c) (cs.toList.take (s.length*4))):Ro [] w (.ls (s.map RlA.c)) (.slice (some ⟨g,0,none⟩) s.length cap):=by
 have hz:∀ o,¬ sideZ g o:=by
  rintro o ⟨b,k,p,hk,hp,i,hi,rfl,rfl⟩
  obtain⟨q,hq,B⟩:=hs.rep.blk b k hk
  rw[hp]at hq
  injection hq with hq
  subst hq
  have:=S.low b k p hk hp (by
   rcases hi with h|h
   .have:=B.room;omega
   .omega)
  omega
 have hoff:∀ k o,offF own w k o->offF [] w k o:=fun k o h=>⟨h.1,by simp,h.2.2⟩
 have h':RepList (fun _=>none) (offF [] w) w (s.flatMap RlA.c) (cs.toList.take (s.length*4)):=RepList.later ⟨fun _ _ h=>h,fun k o hk=>⟨hoff k o hk,rfl⟩⟩ _ _ h
 unfold Ro
 simp only[Rep]
 refine⟨?_,some ⟨g,0,none⟩,cap,by rw[List.length_map],by rw[List.length_map];exact h2,h3,fun _=>⟨g,0,4,rfl,RepRows.mk fun i x hx=>?_⟩⟩
 .unfold noidR
  rw[List.all_eq_true]
  intro x hx
  obtain⟨r,_,rfl⟩:=List.mem_map.1 hx
  rfl
 .rw[List.getElem?_map]at hx
  obtain⟨r,hr,rfl⟩:=Option.map_eq_some_iff.1 hx
  have hi:=(List.getElem?_eq_some_iff.1 hr).1
  refine⟨rfl,RepAt.mk fun j y hy=>?_⟩
  have hj:j<4:=(List.getElem?_eq_some_iff.1 hy).1
  have e:(s.flatMap RlA.c)[i*4+j]? = some y:=by
   rw[←hy]
   exact flat4_get s i j r hr hj
  obtain⟨u,k1,k2⟩:=h'.get e
  have hl:i*4+j<s.length*4:=by omega
  rw[List.getElem?_take,if_pos hl,Array.getElem?_toList]at k1
  refine⟨⟨hb.lt,by simp,hz _⟩,u,?_,k2⟩
  rw[Nat.zero_add,hb.cell]
  exact k1
theorem tidy_good(G:∀ f,GoodD (SemFn Tryz.prog f) (dq f)):GoodD (SemFn Tryz.prog 33) (extD (resTidy dq)):=by
 refine goodD_side _ fun args r hr=>?_
 unfold resTidy at hr
 split at hr
 .rename_i rs hrs
  split at hr
  .rename_i o ho
   injection hr with hr
   subst hr
   have key:∀(S:Side) (w:World) (A:Option Addr) (c:Nat),Sd [] w->Ro [] w (.ls (rs.map RlA.c)) (.slice A rs.length c)->SemFn Tryz.prog 33 [.slice A rs.length c] w fun u w'=>∃ own',Xt [] own' w w'/\Ro [] w' (tidyR o) u:=fun S w A c hs hro=>by
    unfold tidyO at ho
    have none':∀ w' own',Xt [] own' w w'->(fun u w'=>∃ own',Xt [] own' w w'/\Ro [] w' (tidyR none) u) (.tuple #[.slice none 0 0,.bool false]) w':=fun w' own' hx=>⟨own',hx,ro_pair ro_emp (Ro.v rfl)⟩
    split at ho
    .rename_i hl h1
     injection ho with ho
     subst ho
     exact tidy_any dq G rs (Nat.le_of_ble_eq_true hl) none (run1O_some dq h1) w A c hs hro none _ (fun _=>none') (fun ls h=>by cases h) (fun out h=>by cases h)
    .rename_i ls hl h1
     split at ho
     .rename_i h2
      injection ho with ho
      subst ho
      exact tidy_any dq G rs (Nat.le_of_ble_eq_true hl) (some ls) (run1O_some dq h1) w A c hs hro none _ (fun _=>none') (fun ls' h=>by injection h with h;subst h;exact run2O_some dq h2) (fun out h=>by cases h)
     .rename_i out h2
      split at ho
      .rename_i s h3
       injection ho with ho
       subst ho
       obtain⟨s1,s2,s3⟩:=sortO_some dq h3
       refine tidy_any dq G rs (Nat.le_of_ble_eq_true hl) (some ls) (run1O_some dq h1) w A c hs hro (some out) _ (fun h=>?_) (fun ls' h=>by injection h with h;subst h;exact run2O_some dq h2) (fun out' h=>?_)
       .rcases h with h|h<;>cases h
       .injection h with h
        subst h
        refine⟨s,s1,s2,fun h0=>⟨s3 h0,fun w' own' hx=>⟨own',hx,?_⟩⟩,fun w' own' g cap cs' hx hg hb h1 h2 h3 h4=>⟨own',hx,?_⟩⟩
        .subst h0
         obtain rfl:s=[]:=List.eq_nil_of_length_eq_zero s1
         exact ro_pair ro_emp (Ro.v rfl)
        .rw[←s1]at h2 h4 ⊢
         exact ro_pair (ro_row hb (Nat.le_trans hs.base hg) (hx.side hs) h1 h2 h3 h4) (Ro.v rfl)
      .cases ho
     .cases ho
    .cases ho
   unfold rowO at hrs
   split at hrs
   .rename_i xs
    refine⟨rfl,fun S w us hs hro=>?_⟩
    obtain⟨u,t,rfl,hu,ht⟩:=RoL.cons_inv hro
    obtain rfl:=RoL.nil_inv ht
    obtain⟨A,c,rfl⟩:=Rp.ls_inv hu.rp
    obtain rfl:=rlsO_some hrs
    have:=key S w A c hs (by rw[List.length_map]at hu;exact hu)
    rw[List.length_map]
    exact this
   .injection hrs with hrs
    subst hrs
    refine⟨rfl,fun S w us hs hro=>?_⟩
    obtain⟨u,t,rfl,hu,ht⟩:=RoL.cons_inv hro
    obtain rfl:=RoL.nil_inv ht
    unfold Ro at hu
    simp only[Rep]at hu
    obtain⟨rfl,_⟩:=hu
    exact key S w none 0 hs ro_emp
   .cases hrs
  .cases hr
 .cases hr
end
end Go.Proofs.YtpncilciembjdaaGreatDoor
