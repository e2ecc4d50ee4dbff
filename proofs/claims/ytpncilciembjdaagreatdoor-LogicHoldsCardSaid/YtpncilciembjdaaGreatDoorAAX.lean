/-
  What functions may be called, and which arguments go over as they are.
  slices.Clone over this seat's element types.
  rel.Tidy's walk.
-/
import Derived.Test.YtpncilciembjdaaGreatDoorAAK
import Derived.Test.YtpncilciembjdaaGreatDoorChecked
import Derived.Maps.AppendAt
import Derived.Test.YtpncilciembjdaaGreatDoorAAO
import Derived.Test.YtpncilciembjdaaGreatDoorAAV
import Derived.Test.YtpncilciembjdaaGreatDoorAAW
import Derived.Test.YtpncilciembjdaaGreatDoorAAT
import Derived.Test.YtpncilciembjdaaGreatDoorAAU
set_option linter.unusedSectionVars false
set_option linter.unusedSimpArgs false
set_option linter.unusedVariables false
namespace Go.Proofs.YtpncilciembjdaaGreatDoor
def entsC:Nat:=1042962668542029374677668987337996011341198353761632795856419847799597962473998426758556155900
def ownC:List (Nat × Nat):=[(262,0),(240,0),(241,0),(136,0),(196,0),(234,0),(235,0),(265,0),(275,0),(140,0),(199,0)]
end Go.Proofs.YtpncilciembjdaaGreatDoor
namespace Go.Proofs.YtpncilciembjdaaGreatDoor
open Go.RowKit
theorem add_block(a:Addr)(j:Nat):(a.add j).block=a.block:=by unfold Addr.add;split<;>rfl
set_option maxRecDepth 100000 in
set_option maxHeartbeats 4000000 in
theorem cloneP_any(w:World)(A:Option Addr)(n c:Nat)(us:List Value)(hn:us.length=n*3)(hc:n<=c)(hA:n≠0->∃ g o,A=some ⟨g,o,none⟩/\∀ j u,us[j]? = some u->w.cell? ⟨g,o+j,none⟩=some u)
  (h1:∀ u∈us,u.oneCell'=true) (hby:n*40<=140737488355328) :
  Calls Tryz.prog 135 #[.slice A n c] w fun e w'=>∃ v',e=.returned v'/\w'.ownsRow w.heap.size 84 3 v' n us/\Below w.heap.size w w':=by
 obtain⟨i0,hi0,hz0,hz1,hz2⟩:=info_parts (show (Tryz.prog.info? 84).map (fun i=>(i.zero,i.size,i.bytes))=some (some (.agg #[.int .i64 0,.bool false,.slice none 0 0]),3,40) by kernel_rfl)
 have HU:=Lib.hid hn
 have HA:=Lib.hid hA
 have H1:=Lib.hid h1
 clear hn hA h1
 have hq:∀(w:World) (a:Option Addr) (n c:Nat),(binOp .eql 22 (.slice a n c) (.slice none 0 0)).run Tryz.prog w=.ok (.bool a.isNone) w:=fun w a n c=>Lib.run_eql_slice_nil w _ _ a n c 0 0 Tryz.underlying22
 go_enter Tryz.func135,Tryz.ntmps135
 cases A with
 |none=>
  have h0:n=0:=by
   rcases Nat.eq_zero_or_pos n with h|h
   .exact h
   .exfalso
    obtain⟨g,o,h2,_⟩:=HA.out (Nat.ne_of_gt h)
    cases h2
  subst h0
  go_wp2
  go_ret
  have hu:us=[]:=List.eq_nil_of_length_eq_zero (by rw[HU.out,Nat.zero_mul])
  rw[hu]
  exact⟨_,rfl,World.ownsRow_nil _ _ _ _,Below.refl _ _⟩
 |some ad=>
  obtain⟨ag,ao,asp⟩:=ad
  have hcells:∀ j u,us[j]? = some u->ag<w.heap.size/\w.cell? ((⟨ag,ao,asp⟩:Addr).add j)=some u:=fun j u hj=>by
   have hn0:n≠0:=by
    rintro rfl
    have hu:us=[]:=List.eq_nil_of_length_eq_zero (by rw[HU.out,Nat.zero_mul])
    rw[hu]at hj
    cases hj
   obtain⟨g,o,h2,h3⟩:=HA.out hn0
   cases h2
   have h5:=h3 j u hj
   exact⟨heap_lt h5,by rw[add_none];exact h5⟩
  have HC:=Lib.hid hcells
  clear hcells
  go_wp2_with (at_builtin;refine wpList_append_own_at _ rfl _ _ 22 rfl w.heap.size 84 i0 (.agg #[.int .i64 0,.bool false,.slice none 0 0]) 3 40 Tryz.underlying22 hi0 hz0 hz1 hz2 rfl (by decide) _ 0 [] rfl ?c0 ⟨ag,ao,asp⟩ n c us rfl HU.out ?c1 H1.out ?c3 ?c4 ?c5 ?_)
  case c0=>exact⟨by simp,.inr ⟨w.heap.size,0,#[],rfl,Nat.le_refl _,heap_alloc_new _ _,Nat.le_refl _,Nat.zero_le _,by simp,by simp⟩⟩
  case c1=>
   intro j u hj
   have:=HC.out j u hj
   exact((below_one w (.cells #[] 84)).cell (p:=(⟨ag,ao,asp⟩:Addr).add j) (by rw[add_block];exact this.1)).trans this.2
  case c3=>unfold maxLen;omega
  case c4=>omega
  case c5=>exact(below_one w _).size
  intro v' w3 hown hgrow _ _
  try simp only[Nat.zero_add,List.nil_append]at hown
  have HO:=Lib.hid hown
  have HB:=Lib.hid ((below_one w (.cells #[] 84)).grown hgrow (below_one w _).size (fun k hk=>by have hk:some w.heap.size=some k:=hk;cases hk;exact Nat.le_refl _))
  clear hown hgrow
  go_wp2_with fail
  go_ret
  exact⟨_,rfl,HO.out,HB.out⟩
set_option maxRecDepth 100000 in
set_option maxHeartbeats 4000000 in
theorem cloneN_any(w:World)(A:Option Addr)(n c:Nat)(us:List Value)(hn:us.length=n*1)(hc:n<=c)(hA:n≠0->∃ g o,A=some ⟨g,o,none⟩/\∀ j u,us[j]? = some u->w.cell? ⟨g,o+j,none⟩=some u)
  (h1:∀ u∈us,u.oneCell'=true) (hby:n*4<=140737488355328) :
  Calls Tryz.prog 236 #[.slice A n c] w fun e w'=>∃ v',e=.returned v'/\w'.ownsRow w.heap.size 134 1 v' n us/\Below w.heap.size w w':=by
 obtain⟨i0,hi0,hz0,hz1,hz2⟩:=info_parts (show (Tryz.prog.info? 134).map (fun i=>(i.zero,i.size,i.bytes))=some (some (.int .u32 0),1,4) by kernel_rfl)
 have HU:=Lib.hid hn
 have HA:=Lib.hid hA
 have H1:=Lib.hid h1
 clear hn hA h1
 have hq:∀(w:World) (a:Option Addr) (n c:Nat),(binOp .eql 24 (.slice a n c) (.slice none 0 0)).run Tryz.prog w=.ok (.bool a.isNone) w:=fun w a n c=>Lib.run_eql_slice_nil w _ _ a n c 0 0 Tryz.underlying24
 go_enter Tryz.func236,Tryz.ntmps236
 cases A with
 |none=>
  have h0:n=0:=by
   rcases Nat.eq_zero_or_pos n with h|h
   .exact h
   .exfalso
    obtain⟨g,o,h2,_⟩:=HA.out (Nat.ne_of_gt h)
    cases h2
  subst h0
  go_wp2
  go_ret
  have hu:us=[]:=List.eq_nil_of_length_eq_zero (by rw[HU.out,Nat.zero_mul])
  rw[hu]
  exact⟨_,rfl,World.ownsRow_nil _ _ _ _,Below.refl _ _⟩
 |some ad=>
  obtain⟨ag,ao,asp⟩:=ad
  have hcells:∀ j u,us[j]? = some u->ag<w.heap.size/\w.cell? ((⟨ag,ao,asp⟩:Addr).add j)=some u:=fun j u hj=>by
   have hn0:n≠0:=by
    rintro rfl
    have hu:us=[]:=List.eq_nil_of_length_eq_zero (by rw[HU.out,Nat.zero_mul])
    rw[hu]at hj
    cases hj
   obtain⟨g,o,h2,h3⟩:=HA.out hn0
   cases h2
   have h5:=h3 j u hj
   exact⟨heap_lt h5,by rw[add_none];exact h5⟩
  have HC:=Lib.hid hcells
  clear hcells
  go_wp2_with (at_builtin;refine wpList_append_own_at _ rfl _ _ 24 rfl w.heap.size 134 i0 (.int .u32 0) 1 4 Tryz.underlying24 hi0 hz0 hz1 hz2 rfl (by decide) _ 0 [] rfl ?c0 ⟨ag,ao,asp⟩ n c us rfl HU.out ?c1 H1.out ?c3 ?c4 ?c5 ?_)
  case c0=>exact⟨by simp,.inr ⟨w.heap.size,0,#[],rfl,Nat.le_refl _,heap_alloc_new _ _,Nat.le_refl _,Nat.zero_le _,by simp,by simp⟩⟩
  case c1=>
   intro j u hj
   have:=HC.out j u hj
   exact((below_one w (.cells #[] 134)).cell (p:=(⟨ag,ao,asp⟩:Addr).add j) (by rw[add_block];exact this.1)).trans this.2
  case c3=>unfold maxLen;omega
  case c4=>omega
  case c5=>exact(below_one w _).size
  intro v' w3 hown hgrow _ _
  try simp only[Nat.zero_add,List.nil_append]at hown
  have HO:=Lib.hid hown
  have HB:=Lib.hid ((below_one w (.cells #[] 134)).grown hgrow (below_one w _).size (fun k hk=>by have hk:some w.heap.size=some k:=hk;cases hk;exact Nat.le_refl _))
  clear hown hgrow
  go_wp2_with fail
  go_ret
  exact⟨_,rfl,HO.out,HB.out⟩
section
variable {μ:Mu} {F:Prot} {w:World} {g:Nat}
theorem at_vals:∀(xs:List AV) (o:Nat),RepAt μ F w g xs o->∃ us,RepList μ F w xs us/\∀ j u,us[j]? = some u->w.cell? ⟨g,o+j,none⟩=some u
 |[],o,_=>⟨[],rfl,fun j u h=>by simp at h⟩
 |x::r,o,h=>by
  simp only[RepAt]at h
  obtain⟨⟨_,u,h2,h3⟩,h4⟩:=h
  obtain⟨us,h5,h6⟩:=at_vals r (o+1) h4
  refine⟨u::us,⟨u,us,rfl,h3,h5⟩,fun j v hj=>?_⟩
  cases j with
  |zero=>simp at hj;subst hj;exact h2
  |succ j=>
   have:=h6 j v (by simpa using hj)
   rwa [show o+1+j=o+(j+1) by omega]at this
theorem rows_vals{e:Nat}:∀(xs:List (List AV)) (o:Nat),RepRows μ F w g e xs o->∃ us,RepList μ F w xs.flatten us/\∀ j u,us[j]? = some u->w.cell? ⟨g,o+j,none⟩=some u
 |[],o,_=>⟨[],rfl,fun j u h=>by simp at h⟩
 |x::r,o,h=>by
  simp only[RepRows]at h
  obtain⟨h1,h2,h3⟩:=h
  obtain⟨us,a1,a2⟩:=at_vals x o h2
  obtain⟨vs,b1,b2⟩:=rows_vals r (o+e) h3
  refine⟨us++vs,by rw[List.flatten_cons];exact RepList.append a1 b1,fun j v hj=>?_⟩
  have hl:us.length=e:=by rw[a1.length,h1]
  by_cases hj2:j<us.length
  .exact a2 j v (by rwa [List.getElem?_append_left hj2]at hj)
  .rw[List.getElem?_append_right (by omega),hl]at hj
   have:=b2 (j-e) v hj
   rwa [show o+e+(j-e)=o+j by omega]at this
end
def resClone(e B:Nat):List AV->Option (Nat × List AV)
 |[.ls xs]=>if(wideR e xs&&oneL (catR xs)&&noidL (catR xs)&&Nat.ble (lenR xs*B) 140737488355328)=true then some (lenR xs,catR xs) else none
 |_=>none
theorem clone_good{P:Program}{f:Nat}{ety:TypeId}(e B:Nat) (h:∀(w:World) (A:Option Addr) (n c:Nat) (us:List Value),us.length=n*e->n<=c->(n≠0->∃ g o,A=some ⟨g,o,none⟩/\∀ j u,us[j]? = some u->w.cell? ⟨g,o+j,none⟩=some u)->
  (∀ u∈us,u.oneCell'=true)->n*B<=140737488355328->Calls P f #[.slice A n c] w fun e' w'=>∃ v',e'=.returned v'/\w'.ownsRow w.heap.size ety e v' n us/\Below w.heap.size w w'):GoodD (SemFn P f) (ownD e (resClone e B)):=by
 refine goodD_own (semFn_mono P f) e _ fun args n cells hr=>?_
 unfold resClone at hr
 split at hr
 .rename_i xs
  split at hr
  .rename_i hc
   simp only[Bool.and_eq_true,Nat.ble_eq]at hc
   obtain⟨⟨⟨c1,c2⟩,c3⟩,c4⟩:=hc
   rw[wideR_eq]at c1
   rw[catR_eq]at c2 c3
   rw[lenR_eq]at c4
   simp only[Option.some.injEq,Prod.mk.injEq]at hr
   obtain⟨rfl,rfl⟩:=hr
   rw[lenR_eq,catR_eq]
   have hlen:xs.flatten.length=xs.length*e:=by
    clear c2 c3 c4
    induction xs with
    |nil=>simp
    |cons x r ih=>
     rw[List.all_cons,Bool.and_eq_true]at c1
     rw[List.flatten_cons,List.length_append,ih c1.2,List.length_cons,Nat.add_mul,Nat.one_mul]
     have:x.length=e:=by simpa using c1.1
     omega
   refine⟨c3,hlen,fun μ F w us hF hus=>?_⟩
   obtain⟨v,t,rfl,hv,ht⟩:=hus
   have ht:t=[]:=ht
   subst ht
   unfold Rep at hv
   obtain⟨_,A,c,rfl,h2,_,h4⟩:=hv
   have key:∃ vs,RepList μ F w xs.flatten vs/\(xs.length≠0->∃ g o,A=some ⟨g,o,none⟩/\∀ j u,vs[j]? = some u->w.cell? ⟨g,o+j,none⟩=some u):=by
    by_cases hx:xs=[]
    .subst hx
     exact⟨[],rfl,fun h=>absurd rfl h⟩
    .obtain⟨g,o,e',hA,hr⟩:=h4 hx
     obtain⟨vs,k1,k2⟩:=rows_vals xs o hr
     exact⟨vs,k1,fun _=>⟨g,o,hA,k2⟩⟩
   obtain⟨vs,k1,k2⟩:=key
   have hone:∀ u∈vs,u.oneCell'=true:=fun u hu=>by
    obtain⟨j,hj,rfl⟩:=List.getElem_of_mem hu
    have hj2:j<xs.flatten.length:=by rw[←k1.length];exact hj
    obtain⟨u,a1,a2⟩:=k1.get (List.getElem?_eq_getElem hj2)
    rw[List.getElem?_eq_getElem hj]at a1
    cases a1
    rw[oneL_eq]at c2
    exact a2.one (List.all_eq_true.1 c2 _ (List.getElem_mem hj2))
   refine Calls.mono (h w A xs.length c vs (by rw[k1.length,hlen]) h2 k2 hone c4) ?_
   rintro e' w' ⟨v',rfl,ho,hb⟩
   exact⟨v',rfl,ety,vs,ho,hb,k1⟩
  .cases hr
 .cases hr
theorem clone_nat:GoodD (SemFn Tryz.prog 236) (ownD 1 (resClone 1 4)):=clone_good 1 4 fun w A n c us h1 h2 h3 h4 h5=>cloneN_any w A n c us h1 h2 h3 h4 h5
theorem clone_part:GoodD (SemFn Tryz.prog 135) (ownD 3 (resClone 3 40)):=clone_good 3 40 fun w A n c us h1 h2 h3 h4 h5=>cloneP_any w A n c us h1 h2 h3 h4 h5
end Go.Proofs.YtpncilciembjdaaGreatDoor
namespace Go.Proofs.YtpncilciembjdaaGreatDoor
open Go.RowKit

structure RlA where
 ps:List (List AV)
 kn:Bool
 ka:List (List AV)
 eq:Bool
def RlA.c(r:RlA):List AV:=[.ls r.ps,bv r.kn,.ls r.ka,bv r.eq]
inductive Run1 (dq:Nat->DF):List RlA->List (List AV)->Option (List (List AV))->Prop where
 |nil (ls:List (List AV)):Run1 dq [] ls (some ls)
 |never (r r':RlA) (rs:List RlA) (ls:List (List AV)) (h:dq 17 [.agg r.c] []=some (.tup [.agg r'.c,iv (-1)],[])):Run1 dq (r::rs) ls none
 |skip (r r':RlA) (rs:List RlA) (ls:List (List AV)) (k:Int) (o:Option (List (List AV))) (h:dq 17 [.agg r.c] []=some (.tup [.agg r'.c,iv k],[])) (h1:k≠-1) (h0:k≠0) (hr:Run1 dq rs ls o):Run1 dq (r::rs) ls o
 |note (r r':RlA) (rs:List RlA) (ls ls':List (List AV)) (o:Option (List (List AV))) (h:dq 17 [.agg r.c] []=some (.tup [.agg r'.c,iv 0],[])) (hn:Nonempty (NoteH dq ls r'.ps r'.kn r'.ka r'.eq ls')) (hr:Run1 dq rs ls' o):Run1 dq (r::rs) ls o
inductive Run2 (dq:Nat->DF):List (List AV)->List RlA->Option (List RlA)->Prop where
 |nil (out:List RlA):Run2 dq [] out (some out)
 |never (x x':List AV) (xs:List (List AV)) (out:List RlA) (more:List (List AV)) (h:dq 89 [.ptr 0 0] [⟨x,true,false⟩]=some (.tup [.ls more,bv false],[.set ⟨x',true,false⟩])) (h1:x'.all lsvB=true) (h9:x'.length=9):Run2 dq (x::xs) out none
 |go (x x':List AV) (xs:List (List AV)) (out:List RlA) (m0:RlA) (more:List RlA) (o:Option (List RlA)) (h:dq 89 [.ptr 0 0] [⟨x,true,false⟩]=some (.tup [.ls ((m0::more).map RlA.c),bv true],[.set ⟨x',true,false⟩])) (h1:x'.all lsvB=true) (h9:x'.length=9) (hm:more.length<=1) (hr:Run2 dq xs (out++m0::more) o):Run2 dq (x::xs) out o
section
variable [S:Side]
theorem rel_cells{own:List Nat}{w:World}{rs:List RlA}{A:Option Addr}{n c:Nat}(h:Ro own w (.ls (rs.map RlA.c)) (.slice A n c))(h0:0<rs.length) :
  ∃ b o,A=some ⟨b,o,none⟩/\b<w.heap.size/\∀ i (hi:i<rs.length),∃ A0 z0 A2 z2,w.cell? ⟨b,o+i*4,none⟩=some (.slice A0 rs[i].ps.length z0)/\w.cell? ⟨b,o+i*4+1,none⟩=some (.bool rs[i].kn)/\w.cell? ⟨b,o+i*4+2,none⟩=some (.slice A2 rs[i].ka.length z2)/\w.cell? ⟨b,o+i*4+3,none⟩=some (.bool rs[i].eq)/\RoL own w rs[i].c [.slice A0 rs[i].ps.length z0,.bool rs[i].kn,.slice A2 rs[i].ka.length z2,.bool rs[i].eq]:=by
 unfold Ro at h
 simp only[Rep]at h
 obtain⟨_,A2,c',h1,h2,h3,h4⟩:=h
 injection h1 with e1 e2 e3
 subst e1
 obtain⟨g,o,e,hA,hr⟩:=h4 (by
  intro hh
  rw[List.map_eq_nil_iff]at hh
  rw[hh]at h0
  exact Nat.lt_irrefl _ h0)
 have he:e=4:=by
  have:=(hr.get (i:=0) (x:=rs[0].c) (by rw[List.getElem?_map,List.getElem?_eq_getElem h0];rfl)).1
  unfold RlA.c at this
  simpa using this.symm
 subst he
 have ha0:=(hr.get (i:=0) (x:=rs[0].c) (by rw[List.getElem?_map,List.getElem?_eq_getElem h0];rfl)).2
 unfold RlA.c at ha0
 obtain⟨hF,_⟩:=ha0.get (i:=0) (x:=.ls rs[0].ps) rfl
 refine⟨g,o,hA,hF.1,fun i hi=>?_⟩
 have ha:=(hr.get (i:=i) (x:=rs[i].c) (by rw[List.getElem?_map,List.getElem?_eq_getElem hi];rfl)).2
 unfold RlA.c at ha
 obtain⟨_,u0,q0,r0⟩:=ha.get (i:=0) (x:=.ls rs[i].ps) rfl
 obtain⟨_,u1,q1,r1⟩:=ha.get (i:=1) (x:=bv rs[i].kn) rfl
 obtain⟨_,u2,q2,r2⟩:=ha.get (i:=2) (x:=.ls rs[i].ka) rfl
 obtain⟨_,u3,q3,r3⟩:=ha.get (i:=3) (x:=bv rs[i].eq) rfl
 have r0':Ro own w (.ls rs[i].ps) u0:=r0
 have r1':Ro own w (bv rs[i].kn) u1:=r1
 have r2':Ro own w (.ls rs[i].ka) u2:=r2
 have r3':Ro own w (bv rs[i].eq) u3:=r3
 obtain⟨B0,z0,rfl⟩:=Rp.ls_inv r0'.rp
 obtain rfl:=Rp.bool_inv r1'.rp
 obtain⟨B2,z2,rfl⟩:=Rp.ls_inv r2'.rp
 obtain rfl:=Rp.bool_inv r3'.rp
 exact⟨B0,z0,B2,z2,q0,q1,q2,q3,RoL.cons r0' (RoL.cons r1' (RoL.cons r2' (RoL.cons r3' (RoL.nil _ _))))⟩
theorem tight_ans{own:List Nat}{w:World}{r:RlA}{k:Int}{u:Value}(h:Ro own w (.tup [.agg r.c,iv k]) u):∃ A0 z0 A2 z2,u=.tuple #[.agg #[.slice A0 r.ps.length z0,.bool r.kn,.slice A2 r.ka.length z2,.bool r.eq],.int .i64 k]/\RoL own w [.ls r.ps,bv r.kn,.ls r.ka] [.slice A0 r.ps.length z0,.bool r.kn,.slice A2 r.ka.length z2]:=by
 obtain⟨us,rfl,hus⟩:=Ro.tup_inv h
 obtain⟨ua,_,rfl,ha,hus⟩:=RoL.cons_inv hus
 obtain⟨ub,_,rfl,hb,hus⟩:=RoL.cons_inv hus
 obtain rfl:=RoL.nil_inv hus
 obtain rfl:=Rp.int_inv hb.rp
 obtain⟨vs,rfl,hv⟩:=Ro.agg_inv ha
 unfold RlA.c at hv
 obtain⟨_,_,rfl,q0,hv⟩:=RoL.cons_inv hv
 obtain⟨_,_,rfl,q1,hv⟩:=RoL.cons_inv hv
 obtain⟨_,_,rfl,q2,hv⟩:=RoL.cons_inv hv
 obtain⟨_,_,rfl,q3,hv⟩:=RoL.cons_inv hv
 obtain rfl:=RoL.nil_inv hv
 obtain⟨A0,z0,rfl⟩:=Rp.ls_inv q0.rp
 obtain rfl:=Rp.bool_inv q1.rp
 obtain⟨A2,z2,rfl⟩:=Rp.ls_inv q2.rp
 obtain rfl:=Rp.bool_inv q3.rp
 exact⟨A0,z0,A2,z2,rfl,RoL.cons q0 (RoL.cons q1 (RoL.cons q2 (RoL.nil _ _)))⟩
omit S in
theorem all_rels(p:AV->Bool)(hp:∀ r:RlA,r.c.all p=true):∀ ms:List RlA,(ms.flatMap RlA.c).all p=true
 |[]=>rfl
 |m::r=>by
  rw[List.flatMap_cons,List.all_append,hp m,all_rels p hp r]
  rfl
omit S in
theorem rels_len:∀ ms:List RlA,(ms.flatMap RlA.c).length=ms.length*4
 |[]=>rfl
 |m::r=>by
  rw[List.flatMap_cons,List.length_append,rels_len r,List.length_cons]
  show 4+_=_
  omega
theorem ls_news{own:List Nat}{w:World}{ms:List RlA}{A:Option Addr}{n c:Nat}(h:Ro own w (.ls (ms.map RlA.c)) (.slice A n c))(h0:ms≠[]) :
  ∃ ad us,A=some ad/\n=ms.length/\us.length=ms.length*4/\(∀(j:Nat) (u:Value),us[j]? = some u->w.cell? (ad.add j)=some u)/\RoL own w (ms.flatMap RlA.c) us/\us.all flatV=true/\∀ u∈us,u.oneCell'=true:=by
 have h':=h
 unfold Ro at h
 simp only[Rep]at h
 obtain⟨_,A2,c',h1,h2,h3,h4⟩:=h
 injection h1 with e1 e2 e3
 subst e1
 obtain⟨g,o,e,hA,hr⟩:=h4 (by simpa using h0)
 obtain⟨us,k1,k2⟩:=rows_vals _ o hr
 have ef:(ms.map RlA.c).flatten=ms.flatMap RlA.c:=rfl
 rw[ef]at k1
 have hl:RoL own w (ms.flatMap RlA.c) us:=k1
 refine⟨⟨g,o,none⟩,us,hA,by simpa using e2,?_,fun j u hj=>by rw[add_none];exact k2 j u hj,hl,rol_flat (all_rels lsvB (fun _=>rfl) ms) hl,fun u hu=>?_⟩
 .rw[k1.length]
  exact rels_len ms
 .obtain⟨j,hj,rfl⟩:=List.getElem_of_mem hu
  have hj2:j<(ms.flatMap RlA.c).length:=by rw[←k1.length];exact hj
  obtain⟨u,a1,a2⟩:=k1.get (List.getElem?_eq_getElem hj2)
  rw[List.getElem?_eq_getElem hj]at a1
  cases a1
  exact a2.one (List.all_eq_true.1 (all_rels AV.one (fun _=>rfl) ms) _ (List.getElem_mem hj2))
theorem Book.app{own:List Nat}{w w7:World}{bk:Nat}{gs:List Nat}{ls:List (List AV)}{v r r':Value}{T:TypeId}{n:Nat}{us:List Value}(h:Book own w bk gs ls v)(hown:w7.ownsRow 0 T 4 r' n us)(hpos:0<n)(hgrow:w.grownBy w7 r.ownBlock)
  (hrm:∀ g,r.ownBlock=some g->g∈own/\g≠bk/\g∉gs/\v.ownBlock≠some g) (hloc:r'.ownBlock=r.ownBlock\/r'.ownBlock=some w.heap.size) :
  ∃ own',Book own' w7 bk gs ls v/\Xt own own' w w7/\∀ g,r'.ownBlock=some g->g∈own'/\g≠bk/\g∉gs/\v.ownBlock≠some g:=by
 have old:∀ g,g<w.heap.size->r.ownBlock≠some g->w7.heap[g]? = w.heap[g]?:=fun g hg hr=>hgrow.block g hg fun e=>hr e.symm
 obtain⟨rg,rcur,hro,hrc⟩:∃ g cur,r'.ownBlock=some g/\w7.heap[g]? = some (.cells cur T (0,0)):=by
  rcases hown.2 with⟨_,h0⟩|⟨g,cap,cur,h1,h2,h3,h4,_⟩
  .omega
  .exact⟨g,cur,by rw[h1];rfl,h3⟩
 have nbk:r.ownBlock≠some bk:=fun e=>(hrm _ e).2.1 rfl
 have ngs:∀ g∈gs,r.ownBlock≠some g:=fun g hg e=>(hrm _ e).2.2.1 hg
 have nrow:∀ g,v.ownBlock=some g->r.ownBlock≠some g:=fun g hg e=>(hrm _ e).2.2.2 hg
 have sd7:∀ own',(∀ g∈own',g∈own\/w.heap.size<=g)->Sd own' w7:=fun own' hm=>h.mine.sd.exact hgrow.size (fun g hg hn=>old g hg fun e=>hn (hrm _ e).1) hm
 have fin:∀ own',Mine own' w7->(∀ g∈own',g∈own\/w.heap.size<=g)->(∀ g∈own,r.ownBlock≠some g->g∈own')->Book own' w7 bk gs ls v/\Xt own own' w w7:=fun own' hm h1 h2=>by
  have hx:Xt own own' w w7:=.exact hgrow.os hgrow.tape hgrow.output hgrow.size (fun g hg hn=>old g hg fun e=>hn (hrm _ e).1) h1
  exact⟨⟨hm,h2 _ h.bkm nbk,(old bk (h.mine.lt h.bkm) nbk).trans h.box,row_ext h.row fun g hg=>old g (h.mine.lt (h.rowm g hg).1) (nrow g hg),fun g hg=>⟨h2 _ (h.rowm g hg).1 (nrow g hg),(h.rowm g hg).2⟩,h.len,fun g hg=>⟨h2 _ (h.gm g hg).1 (ngs g hg),(h.gm g hg).2⟩,h.nd,fun i h3 h4=>(h.line i h3 h4).ext hx (old _ (h.mine.lt (h.gm _ (List.getElem_mem h3)).1) (ngs _ (List.getElem_mem h3)))⟩,hx⟩
 rcases hloc with h1|h1
 .have hrg:r.ownBlock=some rg:=h1.symm.trans hro
  obtain⟨b1,b2⟩:=fin own ⟨h.mine.nd,(fun g hg=>by
   by_cases e:g=rg
   .subst e;exact⟨_,_,hrc⟩
   .obtain⟨T',cs,hb⟩:=h.mine.all g hg
    exact⟨T',cs,(old g (h.mine.lt hg) fun e'=>e (by rw[hrg]at e';injection e' with e';exact e'.symm)).trans hb⟩),sd7 _ fun _ h=>.inl h⟩ (fun _ h=>.inl h) (fun _ h _=>h)
  exact⟨own,b1,b2,fun g hg=>hrm g (h1▸hg)⟩
 .have hrg:rg=w.heap.size:=by rw[hro]at h1;injection h1
  subst hrg
  have hlt:∀ g∈own.filter (fun g=>decide (r.ownBlock≠some g)),g<w.heap.size/\g∈own/\r.ownBlock≠some g:=fun g hg=>by
   have:=List.mem_filter.1 hg
   exact⟨h.mine.lt this.1,this.1,by simpa using this.2⟩
  have hone:∀ g∈w.heap.size::own.filter (fun g=>decide (r.ownBlock≠some g)),g∈own\/w.heap.size<=g:=fun g hg=>by
   rcases List.mem_cons.1 hg with rfl|hg
   .exact .inr (Nat.le_refl _)
   .exact .inl (hlt g hg).2.1
  obtain⟨b1,b2⟩:=fin (w.heap.size::own.filter (fun g=>decide (r.ownBlock≠some g))) ⟨List.nodup_cons.2 ⟨fun hm=>Nat.lt_irrefl _ (hlt _ hm).1,h.mine.nd.filter _⟩,(fun g hg=>by
   rcases List.mem_cons.1 hg with rfl|hg
   .exact⟨_,_,hrc⟩
   .obtain⟨q1,q2,q3⟩:=hlt g hg
    obtain⟨T',cs,hb⟩:=h.mine.all g q2
    exact⟨T',cs,(old g q1 q3).trans hb⟩),sd7 _ hone⟩ hone (fun g hg hr=>by simp[List.mem_filter,hg,hr])
  refine⟨_,b1,b2,fun g hg=>?_⟩
  rw[hro]at hg
  injection hg with hg
  subst hg
  refine⟨List.mem_cons_self ..,fun e=>?_,fun hm=>?_,fun e=>?_⟩
  .have:=h.mine.lt h.bkm;omega
  .have:=h.mine.lt (h.gm _ hm).1;omega
  .have:=h.mine.lt (h.rowm _ e).1;omega
theorem ro_fn{own:List Nat}{w:World}{f:Fn}:Ro own w (.fn f [] []) (.func f #[] #[]):=by
 unfold Ro
 simp only[Rep,RepList]
 exact⟨#[],#[],rfl,rfl,rfl⟩
theorem Book.al0{own:List Nat}{w:World}{bk:Nat}{gs:List Nat}{ls:List (List AV)}{v:Value}(h:Book own w bk gs ls v)(o:Obj):Book own (w.alloc o) bk gs ls v:=
 h.ext (h.mine.alloc0 o) (fun _ h=>h) (Xt.call own (below_one w o)) fun g hg=>Below.heap_alloc _ _ _ (h.mine.lt hg)
set_option maxHeartbeats 8000000 in
set_option maxRecDepth 100000 in
theorem tidy_any(dq:Nat->DF)(G:∀ f,GoodD (SemFn Tryz.prog f) (dq f))(rs:List RlA)(hlen:rs.length<=10000)(o:Option (List (List AV)))(hrun:Run1 dq rs [] o)(w:World)(A:Option Addr)(c:Nat)(hsd:Sd [] w)(hr:Ro [] w (.ls (rs.map RlA.c)) (.slice A rs.length c))(o2:Option (List RlA))(Q:Value->World->Prop)
  (hnone:(o=none\/o2=none)->∀ w' own',Xt [] own' w w'->Q (.tuple #[.slice none 0 0,.bool false]) w') (hrun2:∀ ls,o=some ls->Run2 dq ls [] o2)
  (hend:∀ out,o2=some out->∃ sorted:List RlA,sorted.length=out.length/\(∃ ob,dq 90 [.sl 0 0 out.length 4,.fn (.func 25) [] []] [⟨out.flatMap RlA.c,true,true⟩]=some (.tup [],[ob])/\((ob=.keep/\sorted.flatMap RlA.c=out.flatMap RlA.c)\/ob=.set ⟨sorted.flatMap RlA.c,true,true⟩)) ∧
   (out=[]->dq 90 [.v (.slice none 0 0),.fn (.func 25) [] []] []=some (.tup [],[])/\∀ w' own',Xt [] own' w w'->Q (.tuple #[.slice none 0 0,.bool true]) w') ∧
   ∀(w':World) (own':List Nat) (g cap:Nat) (cs':Array Value),Xt [] own' w w'->w.heap.size<=g->Blk w' g 30 cs'->cs'.size=cap*4->out.length<=cap->cap<=maxLen->RoL own' w' (sorted.flatMap RlA.c) (cs'.toList.take (out.length*4))->Q (.tuple #[.slice (some ⟨g,0,none⟩) out.length cap,.bool true]) w') :
  Calls Tryz.prog 33 #[.slice A rs.length c] w fun e w'=>∃ u,e=.returned u/\Q u w':=by
 have HR:=Lib.hid (hr.xt (Xt.alloc [] w (.cells #[.slice none 0 0] 107)))
 have HRUN:=Lib.hid hrun
 have HNONE:=Lib.hid hnone
 have hb0:Book [w.heap.size] (w.alloc (.cells #[.slice none 0 0] 107)) w.heap.size [] [] (.slice none 0 0):=
  ⟨⟨by simp,(fun g hg=>by rw[List.mem_singleton.1 hg];exact⟨_,_,Blk.new _ _ _⟩),(Xt.alloc [] w _).side hsd⟩,by simp,Blk.new _ _ _,World.ownsRow_nil _ _ _ _,fun g hg=>by simp[Value.ownBlock]at hg,rfl,fun g hg=>by simp at hg,by simp,fun i h=>absurd h (Nat.not_lt_zero _)⟩
 have HB0:=Lib.hid hb0
 have HRUN2:=Lib.hid hrun2
 have HEND:=Lib.hid hend
 clear hr hrun hnone hb0 hrun2 hend hsd
 go_enter Tryz.func33,Tryz.ntmps33
 go_wp2_with fail
 go_loopw [16] (fun q wr=>∃(k:Nat) (own:List Nat) (gs:List Nat) (ls:List (List AV)) (v:Value),k<=rs.length/\q=.int .i64 k/\Book own wr w.heap.size gs ls v/\Xt [] own w wr/\Ro own wr (.ls (rs.map RlA.c)) (.slice A rs.length c)/\gs.length<=k/\Run1 dq (rs.drop k) ls o) (fun q _=>rs.length-(intOf q).toNat)
 case atStart=>exact⟨0,[w.heap.size],[],[],_,Nat.zero_le _,rfl,HB0.out,Xt.alloc [] w _,HR.out,Nat.le_refl _,HRUN.out⟩
 case round=>
  obtain⟨k,own,gs,ls,v,hk,rfl,hb,hx,hrr,hgl,hrun⟩:=hrel
  have HB:=Lib.hid hb
  have HX:=Lib.hid hx
  have HRR:=Lib.hid hrr
  have HRUN:=Lib.hid hrun
  clear hb hx hrr hrun
  by_cases hlt:k<rs.length
  .obtain⟨b,oo,rfl,hbl,hc⟩:=rel_cells HRR.out (Nat.lt_of_le_of_lt (Nat.zero_le _) hlt)
   obtain⟨A0,z0,A2,z2,x0,x1,x2,x3,hrk⟩:=hc k hlt
   have hrun:=HRUN.out
   rw[List.drop_eq_getElem_cons hlt]at hrun
   have i0:(0:Int)<=(k:Int):=by omega
   have i1:(k:Int)<(rs.length:Int):=by omega
   clear hc
   revert hrun x0 x1 x2 x3 hrk
   generalize rs[k]=r
   obtain⟨rps,rkn,rka,req⟩:=r
   intro x0 x1 x2 x3 hrk hrun
   have HRK:=Lib.hid hrk
   simp only at x0 x1 x2 x3
   clear hrk
   cases hrun with
   |never _ r' _ _ h=>
    go_wp2_with (go_at_call 17;refine(good_calls_own (G _) h rfl (HB.out.al0 _).mine (us:=[.agg #[.slice A0 rps.length z0,.bool rkn,.slice A2 rka.length z2,.bool req]]) (RoL.cons (Ro.agg (HRK.out.xt (Xt.call _ (below_one _ _)))) (RoL.nil _ _))).mono ?_)
    first|rintro e w3 u3' rfl hk3 hu3|rintro e w3 ⟨u3',rfl,hk3,hu3⟩
    obtain⟨B0,y0,B2,y2,rfl,hv3⟩:=tight_ans hu3
    have HB3:=Lib.hid ((HB.out.al0 _).kp hk3)
    have HX3:=Lib.hid ((HX.out.trans (Xt.call _ (below_one _ _))).trans hk3.xt)
    have HRR3:=Lib.hid ((HRR.out.xt (Xt.call _ (below_one _ _))).xt hk3.xt)
    have HV3:=Lib.hid hv3
    clear hk3 hu3 hv3 x0 x1 x2 x3
    go_wp2
    refine bodyPost_ret (v:=.tuple #[.slice none 0 0,.bool false]) (by simp[results,Tryz.results33,go_sem]) rfl ?_
    exact⟨_,rfl,HNONE.out (by first|exact .inl rfl|simp) _ _ (HX3.out.trans (Xt.call _ (below_one _ _)))⟩
   |skip _ r' _ _ kk _ h h1 h0 hr=>
    have e1:(kk == -1)=false:=by simpa using h1
    have e0:(kk == 0)=false:=by simpa using h0
    go_wp2_with (go_at_call 17;refine(good_calls_own (G _) h rfl (HB.out.al0 _).mine (us:=[.agg #[.slice A0 rps.length z0,.bool rkn,.slice A2 rka.length z2,.bool req]]) (RoL.cons (Ro.agg (HRK.out.xt (Xt.call _ (below_one _ _)))) (RoL.nil _ _))).mono ?_)
    first|rintro e w3 u3' rfl hk3 hu3|rintro e w3 ⟨u3',rfl,hk3,hu3⟩
    obtain⟨B0,y0,B2,y2,rfl,hv3⟩:=tight_ans hu3
    have HB3:=Lib.hid ((HB.out.al0 _).kp hk3)
    have HX3:=Lib.hid ((HX.out.trans (Xt.call _ (below_one _ _))).trans hk3.xt)
    have HRR3:=Lib.hid ((HRR.out.xt (Xt.call _ (below_one _ _))).xt hk3.xt)
    have HV3:=Lib.hid hv3
    clear hk3 hu3 hv3 x0 x1 x2 x3
    go_wp2_with fail
    go_roundw
    case rel=>exact⟨k+1,own,gs,ls,v,hlt,by go_num,HB3.out.al0 _,HX3.out.trans (Xt.call _ (below_one _ _)),HRR3.out.xt (Xt.call _ (below_one _ _)),by omega,hr⟩
    case measure=>simp[intOf];omega
   |note _ r' _ _ ls' _ h hn hr=>
    obtain⟨N⟩:=hn
    go_wp2_with (go_at_call 17;refine(good_calls_own (G _) h rfl (HB.out.al0 _).mine (us:=[.agg #[.slice A0 rps.length z0,.bool rkn,.slice A2 rka.length z2,.bool req]]) (RoL.cons (Ro.agg (HRK.out.xt (Xt.call _ (below_one _ _)))) (RoL.nil _ _))).mono ?_)
    first|rintro e w3 u3' rfl hk3 hu3|rintro e w3 ⟨u3',rfl,hk3,hu3⟩
    obtain⟨B0,y0,B2,y2,rfl,hv3⟩:=tight_ans hu3
    have HB3:=Lib.hid ((HB.out.al0 _).kp hk3)
    have HX3:=Lib.hid ((HX.out.trans (Xt.call _ (below_one _ _))).trans hk3.xt)
    have HRR3:=Lib.hid ((HRR.out.xt (Xt.call _ (below_one _ _))).xt hk3.xt)
    have HV3:=Lib.hid hv3
    clear hk3 hu3 hv3 x0 x1 x2 x3
    go_wp2_with (go_at_call 88;refine(note_any dq G (HB3.out.al0 _) (by omega) N (HV3.out.xt (Xt.call _ (below_one _ _)))).mono ?_)
    first|rintro e w4 own' gs' v' rfl hb4 hx4 hl4|rintro e w4 ⟨own',gs',v',rfl,hb4,hx4,hl4⟩
    have HB4:=Lib.hid hb4
    have HX4:=Lib.hid ((HX3.out.trans (Xt.call _ (below_one _ _))).trans hx4)
    have HRR4:=Lib.hid ((HRR3.out.xt (Xt.call _ (below_one _ _))).xt hx4)
    clear hb4 hx4
    go_wp2_with fail
    go_roundw
    case rel=>exact⟨k+1,own',gs',ls',v',hlt,by go_num,HB4.out,HX4.out,HRR4.out,by omega,hr⟩
    case measure=>simp[intOf];omega
  .obtain rfl:k=rs.length:=by omega
   have hrun:=HRUN.out
   rw[List.drop_length]at hrun
   cases hrun
   have z1:¬ (rs.length:Int)<(rs.length:Int):=by omega
   have x0:=HB.out.box.cell 0
   have x1:=HB.out.box.lt
   simp only[List.getElem?_toArray,List.getElem?_cons_zero]at x0
   have HR2:=Lib.hid (HRUN2.out ls rfl)
   obtain⟨A9,c9,rfl⟩:=own_shape HB.out.row
   go_wp2_with fail
   go_loopw [9,36] (fun r q w2=>∃(j:Nat) (own2:List Nat) (ls2:List (List AV)) (out:List RlA) (us:List Value),j<=gs.length/\q=.int .i64 j/\Book own2 w2 w.heap.size gs ls2 (.slice A9 gs.length c9)/\Xt [] own2 w w2/\w2.ownsRow 0 30 4 r out.length us/\out.length<=2*j/\RoL own2 w2 (out.flatMap RlA.c) us/\us.all flatV=true/\(∀ g,r.ownBlock=some g->g∈own2/\g≠w.heap.size/\g∉gs/\(Value.slice A9 gs.length c9).ownBlock≠some g)/\Run2 dq (ls2.drop j) out o2) (fun _ q _=>gs.length-(intOf q).toNat)
   case atStart=>exact⟨0,own,ls,[],[],Nat.zero_le _,rfl,HB.out,HX.out,World.ownsRow_nil _ _ _ _,Nat.le_refl _,RoL.nil _ _,rfl,fun g hg=>by simp[Value.ownBlock]at hg,HR2.out⟩
   case round=>
    obtain⟨j,own2,ls2,out,us,hj,rfl,hb,hx,hro,hol,hrv,hfl,hrm,hrun⟩:=hrel
    have HB2:=Lib.hid hb
    have HX2:=Lib.hid hx
    have HRO:=Lib.hid hro
    have HRV:=Lib.hid hrv
    have HFL:=Lib.hid hfl
    have HRM:=Lib.hid hrm
    obtain⟨A4,c4,rfl⟩:=own_shape hro
    clear hb hx hro hrv hfl hrm x0 x1
    by_cases hlt:j<gs.length
    .have hlt':j<ls2.length:=by rw[HB2.out.len];exact hlt
     obtain⟨g,cap',hv,hgl,hc⟩:=HB2.out.cell hlt
     injection hv with hA _ hcap
     subst hA hcap
     rw[List.drop_eq_getElem_cons hlt']at hrun
     have hgj:gs[j]? = some gs[j]:=List.getElem?_eq_getElem hlt
     have hxj:ls2[j]? = some ls2[j]:=List.getElem?_eq_getElem hlt'
     have i0:(0:Int)<=(j:Int):=by omega
     have i1:(j:Int)<(gs.length:Int):=by omega
     unfold ptrV at hc
     cases hrun with
     |never _ x' _ _ more h h1 hx9=>
      go_wp2_with (go_at_call 89;refine(line_call (G _) HB2.out hgj hxj h rfl h1 hx9 (us:=[]) (RoL.nil _ _)).mono ?_)
      first|rintro e w5 u5 rfl hb5 hq5 hu5|rintro e w5 ⟨u5,rfl,hb5,hq5,hu5⟩
      obtain⟨us5,rfl,hv5⟩:=Ro.tup_inv hu5
      obtain⟨_,_,rfl,r0,hv5⟩:=RoL.cons_inv hv5
      obtain⟨_,_,rfl,r1,hv5⟩:=RoL.cons_inv hv5
      obtain rfl:=RoL.nil_inv hv5
      obtain rfl:=Rp.bool_inv r1.rp
      obtain⟨A5,c5,rfl⟩:=Rp.ls_inv r0.rp
      go_wp2
      refine bodyPost_ret (v:=.tuple #[.slice none 0 0,.bool false]) (by simp[results,Tryz.results33,go_sem]) rfl ?_
      exact⟨_,rfl,HNONE.out (by first|exact .inr rfl|simp) _ _ (HX2.out.trans hq5.xt)⟩
     |go _ x' _ _ m0 more _ h h1 hx9 hm hr=>
      go_wp2_with (go_at_call 89;refine(line_call (G _) HB2.out hgj hxj h rfl h1 hx9 (us:=[]) (RoL.nil _ _)).mono ?_)
      first|rintro e w5 u5 rfl hb5 hq5 hu5|rintro e w5 ⟨u5,rfl,hb5,hq5,hu5⟩
      obtain⟨us5,rfl,hv5⟩:=Ro.tup_inv hu5
      obtain⟨_,_,rfl,r0,hv5⟩:=RoL.cons_inv hv5
      obtain⟨_,_,rfl,r1,hv5⟩:=RoL.cons_inv hv5
      obtain rfl:=RoL.nil_inv hv5
      obtain rfl:=Rp.bool_inv r1.rp
      obtain⟨A5,c5,rfl⟩:=Rp.ls_inv r0.rp
      obtain⟨ad,us6,rfl,hn6,hl6,hc6,hv6,hf6,ho6⟩:=ls_news (ms:=m0::more) r0 (by simp)
      have HB5:=Lib.hid hb5
      have hro5:=row_kq hq5 HRO.out (fun q hq=>⟨(HRM.out q hq).1,fun e=>(HRM.out q hq).2.2.1 (e▸List.getElem_mem hlt)⟩) HFL.out
      have HRO5:=Lib.hid hro5
      have HX5:=Lib.hid (HX2.out.trans hq5.xt)
      have HRV5:=Lib.hid (HRV.out.xt hq5.xt)
      have HC6:=Lib.hid hc6
      have HO6:=Lib.hid ho6
      have HV6:=Lib.hid hv6
      have HL6:=Lib.hid hl6
      clear hb5 hq5 hu5 hv5 r0 r1 hro5 hc6 ho6 hv6 hl6
      obtain⟨i0',hi0,hz0,hz1,hz2⟩:=info_parts (show (Tryz.prog.info? 30).map (fun i=>(i.zero,i.size,i.bytes))=some (some (.agg #[.slice none 0 0,.bool false,.slice none 0 0,.bool false]),4,64) by kernel_rfl)
      go_wp2_with (at_builtin;refine wpList_append_own_at _ rfl _ _ 33 rfl 0 30 i0' (.agg #[.slice none 0 0,.bool false,.slice none 0 0,.bool false]) 4 64 Tryz.underlying33 hi0 hz0 hz1 hz2 rfl (by decide) _ out.length us rfl HRO5.out ad (more.length+1) c5 us6 rfl ?k1 ?k2 ?k3 ?k4 ?k5 ?k6 ?_)
      case k1=>rw[HL6.out];rfl
      case k2=>exact HC6.out
      case k3=>exact HO6.out
      case k4=>unfold maxLen;omega
      case k5=>omega
      case k6=>exact Nat.zero_le _
      intro v' w7 hown hgrow _ hloc
      obtain⟨A7,c7,rfl⟩:=own_shape hown
      obtain⟨own3,hb7,hx7,hrm7⟩:=HB5.out.app hown (by omega) hgrow HRM.out hloc
      have HB7:=Lib.hid hb7
      have HX7:=Lib.hid (HX5.out.trans hx7)
      have HV7:=Lib.hid ((rol_app HRV5.out HV6.out).xt hx7)
      have HRM7:=Lib.hid hrm7
      have HO7:=Lib.hid hown
      clear hb7 hx7 hrm7 hown hgrow hloc
      go_wp2_with fail
      go_roundw
      case rel=>
       refine⟨j+1,own3,ls2.set j x',out++m0::more,us++us6,hlt,by go_num,HB7.out,HX7.out,?_,by rw[List.length_append,List.length_cons];omega,?_,by rw[List.all_append,HFL.out,hf6];rfl,HRM7.out,by rw[List.drop_set_of_lt (Nat.lt_succ_self j)];exact hr⟩
       .rw[List.length_append,List.length_cons];exact HO7.out
       .rw[List.flatMap_append];exact HV7.out
      case measure=>simp[intOf];omega
    .obtain rfl:j=gs.length:=by omega
     have z2:¬ (gs.length:Int)<(gs.length:Int):=by omega
     have e9:ls2.drop gs.length=[]:=List.drop_eq_nil_of_le (by have:=HB2.out.len;omega)
     rw[e9]at hrun
     cases hrun
     obtain⟨sorted,hsl,⟨ob,hsort,hob⟩,hnil,hfin⟩:=HEND.out out rfl
     have HNIL:=Lib.hid hnil
     have HFIN:=Lib.hid hfin
     clear hnil hfin
     obtain⟨_,ho⟩:=HRO.out
     rcases ho with⟨hv,h0⟩|⟨g,cap,cur,hv,_,hcur,hn,hm2,hsz,htk⟩
     .injection hv with hA _ hc
      subst hA hc
      have h00:out=[]:=List.eq_nil_of_length_eq_zero h0
      subst h00
      have hs0:=(HNIL.out rfl).1
      go_wp2_with (go_at_call 90;refine(good_calls_own (G _) hs0 rfl HB2.out.mine (us:=[.slice none 0 0,.func (.func 25) #[] #[]]) (RoL.cons (Ro.v rfl) (RoL.cons ro_fn (RoL.nil _ _)))).mono ?_)
      first|rintro e w5 u5 rfl hk5 hu5|rintro e w5 ⟨u5,rfl,hk5,hu5⟩
      obtain⟨us5,rfl,hv5⟩:=Ro.tup_inv hu5
      obtain rfl:=RoL.nil_inv hv5
      go_wp2
      refine bodyPost_ret (v:=.tuple #[.slice none 0 0,.bool true]) (by simp[results,Tryz.results33,go_sem]) rfl ?_
      exact⟨_,rfl,(HNIL.out (by simp)).2 _ _ (HX2.out.trans hk5.xt)⟩
     .injection hv with hA _ hc
      subst hA hc
      have hrow:RoL own2 wr (out.flatMap RlA.c) (cur.toList.take (out.length*4)):=by rw[htk];exact HRV.out
      have hgm:=(HRM.out g rfl).1
      have hgB:w.heap.size<=g:=by
       rcases HX2.out.mine g hgm with h|h
       .simp at h
       .exact h
      go_wp2_with (go_at_call 90;refine(good_calls_row (G _) hsort hob (lsv_noid (all_rels lsvB (fun _=>rfl) out)) rfl (lsv_noid (all_rels lsvB (fun _=>rfl) sorted)) (by rw[rels_len,rels_len,hsl]) HB2.out.mine hgm hcur hn hm2 hsz hrow (us:=[.func (.func 25) #[] #[]]) (RoL.cons ro_fn (RoL.nil _ _))).mono ?_)
      first|rintro e w5 u5 rfl hk5 hu5 cs5 hb5 hs5 hr5|rintro e w5 ⟨u5,rfl,hk5,hu5,cs5,hb5,hs5,hr5⟩
      obtain⟨us5,rfl,hv5⟩:=Ro.tup_inv hu5
      obtain rfl:=RoL.nil_inv hv5
      have HFF:=Lib.hid (HFIN.out w5 own2 g c4 cs5 (HX2.out.trans hk5.xt) hgB hb5 (by first|exact hs5|exact hs5.trans hsz|omega) hn hm2 hr5)
      clear hk5 hu5 hb5 hs5 hr5
      go_wp2
      refine bodyPost_ret (v:=.tuple #[.slice (some ⟨g,0,none⟩) out.length c4,.bool true]) (by simp[results,Tryz.results33,go_sem]) rfl ?_
      exact⟨_,rfl,HFF.out⟩
end
end Go.Proofs.YtpncilciembjdaaGreatDoor
