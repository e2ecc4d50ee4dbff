/-
  slices.Clone over this seat's element types.
  slices.Grow of nil over this seat's element types.
  Functions of the program as trees: what a call comes to.
-/
import Derived.Maps.AppendAt
import Derived.Test.YtpncilciembjdaaGreatDoorTAQ
import Derived.Test.YtpncilciembjdaaGreatDoorTAV
import Derived.Test.YtpncilciembjdaaGreatDoorTAW
import Derived.Test.YtpncilciembjdaaGreatDoorTAS
import Derived.Lib.AppendZeros
set_option linter.unusedSectionVars false
set_option linter.unusedSimpArgs false
set_option linter.unusedVariables false
namespace Go.Proofs.YtpncilciembjdaaGreatDoor
open Go.RowKit
theorem add_block(a:Addr)(j:Nat):(a.add j).block=a.block:=by unfold Addr.add;split<;>rfl
set_option maxRecDepth 100000 in
set_option maxHeartbeats 4000000 in
theorem cloneP_any(w:World)(A:Option Addr)(n c:Nat)(us:List Value)(hn:us.length=n*3)(hc:n<=c)(hA:n≠0->∃ g o,A=some ⟨g,o,none⟩/\∀ j u,us[j]? = some u->w.cell? ⟨g,o+j,none⟩=some u)
  (h1:∀ u∈us,u.oneCell'=true) (hby:n*40<=140737488355328) :
  Calls Tryz.prog 135 #[.slice A n c] w fun e w'=>∃ v',e=.returned v'/\w'.ownsRow w.heap.size 84 3 v' n us/\Below w.heap.size w w':=by
 obtain⟨i0,hi0,hz0,hz1,hz2⟩:=info_parts (show (Tryz.prog.info? 84).map (fun i=>(i.zero,i.size,i.bytes))=some (some (.agg #[.int .i64 0,.bool false,.slice none 0 0]),3,40) by kernel_rfl)
 have HU:=Lib.hid hn
 have HA:=Lib.hid hA
 have H1:=Lib.hid h1
 clear hn hA h1
 have hq:∀(w:World) (a:Option Addr) (n c:Nat),(binOp .eql 22 (.slice a n c) (.slice none 0 0)).run Tryz.prog w=.ok (.bool a.isNone) w:=fun w a n c=>Lib.run_eql_slice_nil w _ _ a n c 0 0 Tryz.underlying22
 go_enter Tryz.func135,Tryz.ntmps135
 cases A with
 |none=>
  have h0:n=0:=by
   rcases Nat.eq_zero_or_pos n with h|h
   .exact h
   .exfalso
    obtain⟨g,o,h2,_⟩:=HA.out (Nat.ne_of_gt h)
    cases h2
  subst h0
  go_wp2
  go_ret
  have hu:us=[]:=List.eq_nil_of_length_eq_zero (by rw[HU.out,Nat.zero_mul])
  rw[hu]
  exact⟨_,rfl,World.ownsRow_nil _ _ _ _,Below.refl _ _⟩
 |some ad=>
  obtain⟨ag,ao,asp⟩:=ad
  have hcells:∀ j u,us[j]? = some u->ag<w.heap.size/\w.cell? ((⟨ag,ao,asp⟩:Addr).add j)=some u:=fun j u hj=>by
   have hn0:n≠0:=by
    rintro rfl
    have hu:us=[]:=List.eq_nil_of_length_eq_zero (by rw[HU.out,Nat.zero_mul])
    rw[hu]at hj
    cases hj
   obtain⟨g,o,h2,h3⟩:=HA.out hn0
   cases h2
   have h5:=h3 j u hj
   exact⟨heap_lt h5,by rw[add_none];exact h5⟩
  have HC:=Lib.hid hcells
  clear hcells
  go_wp2_with (at_builtin;refine wpList_append_own_at _ rfl _ _ 22 rfl w.heap.size 84 i0 (.agg #[.int .i64 0,.bool false,.slice none 0 0]) 3 40 Tryz.underlying22 hi0 hz0 hz1 hz2 rfl (by decide) _ 0 [] rfl ?c0 ⟨ag,ao,asp⟩ n c us rfl HU.out ?c1 H1.out ?c3 ?c4 ?c5 ?_)
  case c0=>exact⟨by simp,.inr ⟨w.heap.size,0,#[],rfl,Nat.le_refl _,heap_alloc_new _ _,Nat.le_refl _,Nat.zero_le _,by simp,by simp⟩⟩
  case c1=>
   intro j u hj
   have:=HC.out j u hj
   exact((below_one w (.cells #[] 84)).cell (p:=(⟨ag,ao,asp⟩:Addr).add j) (by rw[add_block];exact this.1)).trans this.2
  case c3=>unfold maxLen;omega
  case c4=>omega
  case c5=>exact(below_one w _).size
  intro v' w3 hown hgrow _ _
  try simp only[Nat.zero_add,List.nil_append]at hown
  have HO:=Lib.hid hown
  have HB:=Lib.hid ((below_one w (.cells #[] 84)).grown hgrow (below_one w _).size (fun k hk=>by have hk:some w.heap.size=some k:=hk;cases hk;exact Nat.le_refl _))
  clear hown hgrow
  go_wp2_with fail
  go_ret
  exact⟨_,rfl,HO.out,HB.out⟩
set_option maxRecDepth 100000 in
set_option maxHeartbeats 4000000 in
theorem cloneN_any(w:World)(A:Option Addr)(n c:Nat)(us:List Value)(hn:us.length=n*1)(hc:n<=c)(hA:n≠0->∃ g o,A=some ⟨g,o,none⟩/\∀ j u,us[j]? = some u->w.cell? ⟨g,o+j,none⟩=some u)
  (h1:∀ u∈us,u.oneCell'=true) (hby:n*4<=140737488355328) :
  Calls Tryz.prog 236 #[.slice A n c] w fun e w'=>∃ v',e=.returned v'/\w'.ownsRow w.heap.size 134 1 v' n us/\Below w.heap.size w w':=by
 obtain⟨i0,hi0,hz0,hz1,hz2⟩:=info_parts (show (Tryz.prog.info? 134).map (fun i=>(i.zero,i.size,i.bytes))=some (some (.int .u32 0),1,4) by kernel_rfl)
 have HU:=Lib.hid hn
 have HA:=Lib.hid hA
 have H1:=Lib.hid h1
 clear hn hA h1
 have hq:∀(w:World) (a:Option Addr) (n c:Nat),(binOp .eql 24 (.slice a n c) (.slice none 0 0)).run Tryz.prog w=.ok (.bool a.isNone) w:=fun w a n c=>Lib.run_eql_slice_nil w _ _ a n c 0 0 Tryz.underlying24
 go_enter Tryz.func236,Tryz.ntmps236
 cases A with
 |none=>
  have h0:n=0:=by
   rcases Nat.eq_zero_or_pos n with h|h
   .exact h
   .exfalso
    obtain⟨g,o,h2,_⟩:=HA.out (Nat.ne_of_gt h)
    cases h2
  subst h0
  go_wp2
  go_ret
  have hu:us=[]:=List.eq_nil_of_length_eq_zero (by rw[HU.out,Nat.zero_mul])
  rw[hu]
  exact⟨_,rfl,World.ownsRow_nil _ _ _ _,Below.refl _ _⟩
 |some ad=>
  obtain⟨ag,ao,asp⟩:=ad
  have hcells:∀ j u,us[j]? = some u->ag<w.heap.size/\w.cell? ((⟨ag,ao,asp⟩:Addr).add j)=some u:=fun j u hj=>by
   have hn0:n≠0:=by
    rintro rfl
    have hu:us=[]:=List.eq_nil_of_length_eq_zero (by rw[HU.out,Nat.zero_mul])
    rw[hu]at hj
    cases hj
   obtain⟨g,o,h2,h3⟩:=HA.out hn0
   cases h2
   have h5:=h3 j u hj
   exact⟨heap_lt h5,by rw[add_none];exact h5⟩
  have HC:=Lib.hid hcells
  clear hcells
  go_wp2_with (at_builtin;refine wpList_append_own_at _ rfl _ _ 24 rfl w.heap.size 134 i0 (.int .u32 0) 1 4 Tryz.underlying24 hi0 hz0 hz1 hz2 rfl (by decide) _ 0 [] rfl ?c0 ⟨ag,ao,asp⟩ n c us rfl HU.out ?c1 H1.out ?c3 ?c4 ?c5 ?_)
  case c0=>exact⟨by simp,.inr ⟨w.heap.size,0,#[],rfl,Nat.le_refl _,heap_alloc_new _ _,Nat.le_refl _,Nat.zero_le _,by simp,by simp⟩⟩
  case c1=>
   intro j u hj
   have:=HC.out j u hj
   exact((below_one w (.cells #[] 134)).cell (p:=(⟨ag,ao,asp⟩:Addr).add j) (by rw[add_block];exact this.1)).trans this.2
  case c3=>unfold maxLen;omega
  case c4=>omega
  case c5=>exact(below_one w _).size
  intro v' w3 hown hgrow _ _
  try simp only[Nat.zero_add,List.nil_append]at hown
  have HO:=Lib.hid hown
  have HB:=Lib.hid ((below_one w (.cells #[] 134)).grown hgrow (below_one w _).size (fun k hk=>by have hk:some w.heap.size=some k:=hk;cases hk;exact Nat.le_refl _))
  clear hown hgrow
  go_wp2_with fail
  go_ret
  exact⟨_,rfl,HO.out,HB.out⟩
section
variable {μ:Mu} {F:Prot} {w:World} {g:Nat}
theorem at_vals:∀(xs:List AV) (o:Nat),RepAt μ F w g xs o->∃ us,RepList μ F w xs us/\∀ j u,us[j]? = some u->w.cell? ⟨g,o+j,none⟩=some u
 |[],o,_=>⟨[],rfl,fun j u h=>by simp at h⟩
 |x::r,o,h=>by
  simp only[RepAt]at h
  obtain⟨⟨_,u,h2,h3⟩,h4⟩:=h
  obtain⟨us,h5,h6⟩:=at_vals r (o+1) h4
  refine⟨u::us,⟨u,us,rfl,h3,h5⟩,fun j v hj=>?_⟩
  cases j with
  |zero=>simp at hj;subst hj;exact h2
  |succ j=>
   have:=h6 j v (by simpa using hj)
   rwa [show o+1+j=o+(j+1) by omega]at this
theorem rows_vals{e:Nat}:∀(xs:List (List AV)) (o:Nat),RepRows μ F w g e xs o->∃ us,RepList μ F w xs.flatten us/\∀ j u,us[j]? = some u->w.cell? ⟨g,o+j,none⟩=some u
 |[],o,_=>⟨[],rfl,fun j u h=>by simp at h⟩
 |x::r,o,h=>by
  simp only[RepRows]at h
  obtain⟨h1,h2,h3⟩:=h
  obtain⟨us,a1,a2⟩:=at_vals x o h2
  obtain⟨vs,b1,b2⟩:=rows_vals r (o+e) h3
  refine⟨us++vs,by rw[List.flatten_cons];exact RepList.append a1 b1,fun j v hj=>?_⟩
  have hl:us.length=e:=by rw[a1.length,h1]
  by_cases hj2:j<us.length
  .exact a2 j v (by rwa [List.getElem?_append_left hj2]at hj)
  .rw[List.getElem?_append_right (by omega),hl]at hj
   have:=b2 (j-e) v hj
   rwa [show o+e+(j-e)=o+j by omega]at this
end
def resClone(e B:Nat):List AV->Option (Nat × List AV)
 |[.ls xs]=>if(wideR e xs&&oneL (catR xs)&&noidL (catR xs)&&Nat.ble (lenR xs*B) 140737488355328)=true then some (lenR xs,catR xs) else none
 |_=>none
theorem clone_good{P:Program}{f:Nat}{ety:TypeId}(e B:Nat) (h:∀(w:World) (A:Option Addr) (n c:Nat) (us:List Value),us.length=n*e->n<=c->(n≠0->∃ g o,A=some ⟨g,o,none⟩/\∀ j u,us[j]? = some u->w.cell? ⟨g,o+j,none⟩=some u)->
  (∀ u∈us,u.oneCell'=true)->n*B<=140737488355328->Calls P f #[.slice A n c] w fun e' w'=>∃ v',e'=.returned v'/\w'.ownsRow w.heap.size ety e v' n us/\Below w.heap.size w w'):GoodD (SemFn P f) (ownD e (resClone e B)):=by
 refine goodD_own (semFn_mono P f) e _ fun args n cells hr=>?_
 unfold resClone at hr
 split at hr
 .rename_i xs
  split at hr
  .rename_i hc
   simp only[Bool.and_eq_true,Nat.ble_eq]at hc
   obtain⟨⟨⟨c1,c2⟩,c3⟩,c4⟩:=hc
   rw[wideR_eq]at c1
   rw[catR_eq]at c2 c3
   rw[lenR_eq]at c4
   simp only[Option.some.injEq,Prod.mk.injEq]at hr
   obtain⟨rfl,rfl⟩:=hr
   rw[lenR_eq,catR_eq]
   have hlen:xs.flatten.length=xs.length*e:=by
    clear c2 c3 c4
    induction xs with
    |nil=>simp
    |cons x r ih=>
     rw[List.all_cons,Bool.and_eq_true]at c1
     rw[List.flatten_cons,List.length_append,ih c1.2,List.length_cons,Nat.add_mul,Nat.one_mul]
     have:x.length=e:=by simpa using c1.1
     omega
   refine⟨c3,hlen,fun μ F w us hF hus=>?_⟩
   obtain⟨v,t,rfl,hv,ht⟩:=hus
   have ht:t=[]:=ht
   subst ht
   unfold Rep at hv
   obtain⟨_,A,c,rfl,h2,_,h4⟩:=hv
   have key:∃ vs,RepList μ F w xs.flatten vs/\(xs.length≠0->∃ g o,A=some ⟨g,o,none⟩/\∀ j u,vs[j]? = some u->w.cell? ⟨g,o+j,none⟩=some u):=by
    by_cases hx:xs=[]
    .subst hx
     exact⟨[],rfl,fun h=>absurd rfl h⟩
    .obtain⟨g,o,e',hA,hr⟩:=h4 hx
     obtain⟨vs,k1,k2⟩:=rows_vals xs o hr
     exact⟨vs,k1,fun _=>⟨g,o,hA,k2⟩⟩
   obtain⟨vs,k1,k2⟩:=key
   have hone:∀ u∈vs,u.oneCell'=true:=fun u hu=>by
    obtain⟨j,hj,rfl⟩:=List.getElem_of_mem hu
    have hj2:j<xs.flatten.length:=by rw[←k1.length];exact hj
    obtain⟨u,a1,a2⟩:=k1.get (List.getElem?_eq_getElem hj2)
    rw[List.getElem?_eq_getElem hj]at a1
    cases a1
    rw[oneL_eq]at c2
    exact a2.one (List.all_eq_true.1 c2 _ (List.getElem_mem hj2))
   refine Calls.mono (h w A xs.length c vs (by rw[k1.length,hlen]) h2 k2 hone c4) ?_
   rintro e' w' ⟨v',rfl,ho,hb⟩
   exact⟨v',rfl,ety,vs,ho,hb,k1⟩
  .cases hr
 .cases hr
theorem clone_nat:GoodD (SemFn Tryz.prog 236) (ownD 1 (resClone 1 4)):=clone_good 1 4 fun w A n c us h1 h2 h3 h4 h5=>cloneN_any w A n c us h1 h2 h3 h4 h5
theorem clone_part:GoodD (SemFn Tryz.prog 135) (ownD 3 (resClone 3 40)):=clone_good 3 40 fun w A n c us h1 h2 h3 h4 h5=>cloneP_any w A n c us h1 h2 h3 h4 h5
end Go.Proofs.YtpncilciembjdaaGreatDoor
namespace Go.Proofs.YtpncilciembjdaaGreatDoor
open Go.RowKit
set_option maxRecDepth 100000 in
set_option maxHeartbeats 4000000 in
theorem growP_any(w:World)(n:Nat)(hby:n*40<=140737488355328) :
  Calls Tryz.prog 262 #[.slice none 0 0,.int .i64 n] w fun e w'=>∃ v',e=.returned v'/\w'.ownsRow w.heap.size 84 3 v' 0 []/\Below w.heap.size w w':=by
 have y0:¬ (n:Int)<0:=by omega
 go_enter Tryz.func262,Tryz.ntmps262
 by_cases h0:n=0
 .subst h0
  go_wp2
  go_ret
  exact⟨_,rfl,World.ownsRow_nil _ _ _ _,Below.refl _ _⟩
 .have y1:(0:Int)<(n:Int):=by omega
  obtain⟨i0,hi0,hz0,hz1,hz2⟩:=info_parts (show (Tryz.prog.info? 84).map (fun i=>(i.zero,i.size,i.bytes))=some (some (.agg #[.int .i64 0,.bool false,.slice none 0 0]),3,40) by kernel_rfl)
  have hr:=fun ty=>Lib.run_append_nil_zeros (P:=Tryz.prog) w 22 3 ty 84 i0 _ .i64 .i64 Tryz.underlying22 Tryz.underlying3 hi0 hz0 n (by omega) (by rw[hz1];decide) (by omega) (by rw[hz2];omega)
  have c1:=grownCap_ge w n 0 84
  have c2:=grownCap_le_maxLen w n 0 84 (by unfold maxLen;omega)
  have HR:=Lib.hid hr
  clear hr
  generalize grownCap w n 0 84=cap at *
  go_wp2_with (at_builtin;refine Lib.wpList_append_run _ rfl _ _ _ _ rfl _ _ rfl rfl _ _ (HR.out _) ?_)
  go_wp2_with fail
  go_ret
  refine⟨_,rfl,⟨by simp,.inr ⟨w.heap.size,cap,_,rfl,Nat.le_refl _,heap_alloc_new _ _,Nat.zero_le _,c2,?_,by simp⟩⟩,?_⟩
  .rw[Array.size_append,size_zeroCells,size_zeroCells]
   show n*3+(cap-n)*3=cap*3
   omega
  .exact(below_drew (Below.refl _ _)).alloc (Nat.le_refl _) _
def resGrow(B:Nat):List AV->Option (Nat × List AV)
 |[.v (.slice none 0 0),.v (.int .i64 (.ofNat n))]=>if Nat.ble (n*B) 140737488355328=true then some (0,[]) else none
 |_=>none
theorem grow_part:GoodD (SemFn Tryz.prog 262) (ownD 3 (resGrow 40)):=by
 refine goodD_own (semFn_mono _ _) 3 _ fun args n cells hr=>?_
 unfold resGrow at hr
 split at hr
 .rename_i k
  split at hr
  .rename_i hk
   simp only[Option.some.injEq,Prod.mk.injEq]at hr
   obtain⟨rfl,rfl⟩:=hr
   refine⟨rfl,rfl,fun μ F w us hF hus=>?_⟩
   obtain⟨u,t,rfl,hu,u2,t2,rfl,hu2,ht⟩:=hus
   have ht:t2=[]:=ht
   subst ht
   unfold Rep at hu hu2
   rw[hu.1,hu2.1]
   refine Calls.mono (growP_any w k (Nat.le_of_ble_eq_true hk)) ?_
   rintro e' w' ⟨v',rfl,ho,hb⟩
   exact⟨v',rfl,_,[],ho,hb,rfl⟩
  .cases hr
 .cases hr
end Go.Proofs.YtpncilciembjdaaGreatDoor
namespace Go.Proofs.YtpncilciembjdaaGreatDoor
open Go.RowKit
def ownAx:List (Nat × Nat):=[(136,0),(196,0),(234,0),(235,0),(265,0),(275,0),(140,0),(199,0),(262,0),(264,0)]
def hsAx62:Hints:=[⟨74,[false,false,true,false,true,false,false,false,false,false,false,false,false,false,false,false,false,true,true,true],[],[],[(1,([false,false,true,false,true],([],[])))]⟩]
noncomputable def mfAx62:MFn:=mfD Tryz.prog entsC hsAx62 false false 62
def hsAx136:Hints:=[]
noncomputable def mfAx136:MFn:=mfD Tryz.prog entsC hsAx136 false false 136
def hsAx196:Hints:=[⟨63,[true,true,true,false,false,false,true,true,true],[],[],[(1,([true,true,true,false,false,false,true,true],([],[1000000])))]⟩,⟨63,[true,true,true,false,false,false,true],[],[],[(3,([],([],[1000000])))]⟩,⟨63,[true,true,true,false,false,false,true,true,true],[],[],[(5,([true,true,true,false,false,false,true,true],([],[1000000])))]⟩]
noncomputable def mfAx196:MFn:=mfD Tryz.prog entsC hsAx196 false false 196
def hsAx234:Hints:=[⟨53,[true,true,true,true,false,false,false,false,true],[],[],[(1,([],([],[1000000])))]⟩,⟨53,[true,true,true,true,false,false,false,false,true,true],[],[],[(3,([true,true,true,true,false,false,false,false,true],([],[1000000])))]⟩]
noncomputable def mfAx234:MFn:=mfD Tryz.prog entsC hsAx234 false false 234
def hsAx235:Hints:=[⟨220,[true,true,false,false,true,false,false,false,false,false,true,true],[],[],[(1,([true,true,false,false,false,false,false,false,false,false,true],([],[1000000])))]⟩,⟨220,[true,false,false,false,false,false,false,false,false,false,true,false,false,true],[],[],[(3,([],([],[1000000])))]⟩,⟨220,[true,false,true,false,true,false,false,false,false,false,false,false,false,false,true,true],[],[],[(5,([true,false,true,false,false,false,false,false,false,false,false,false,false,false,true],([],[1000000])))]⟩,⟨220,[true,false,false,false,false,false,false,false,false,false,false,false,false,false,true,false,false,true],[],[],[(7,([],([],[1000000])))]⟩,⟨220,[true,true,true,true,true,false,false,false,false,false,false,false,false,false,false,false,false,false,true,true,true,true,true],[],[],[(9,([true,true,true,true,true,false,false,false,false,false,false,false,false,false,false,false,false,false,true,true,true],([],[1000000])))]⟩]
noncomputable def mfAx235:MFn:=mfD Tryz.prog entsC hsAx235 false false 235
def hsAx265:Hints:=[⟨58,[true,false,true,false,true,false,false,false,false,false,true,true],[],[],[(1,([true,false,true,false,true,false,false,false,false,false,true],([],[1000000])))]⟩]
noncomputable def mfAx265:MFn:=mfD Tryz.prog entsC hsAx265 false false 265
def hsAx275:Hints:=[⟨38,[true,true,true,true,false,false,false,false,false,false,true],[],[],[(1,([],([],[1000000])))]⟩]
noncomputable def mfAx275:MFn:=mfD Tryz.prog entsC hsAx275 false false 275
def hsAx137:Hints:=[]
noncomputable def mfAx137:MFn:=mfD Tryz.prog entsC hsAx137 false false 137
def hsAx84:Hints:=[]
noncomputable def mfAx84:MFn:=mfD Tryz.prog entsC hsAx84 false false 84
def hsAx157:Hints:=[]
noncomputable def mfAx157:MFn:=mfD Tryz.prog entsC hsAx157 false false 157
def hsAx138:Hints:=[]
noncomputable def mfAx138:MFn:=mfD Tryz.prog entsC hsAx138 false false 138
def hsAx145:Hints:=[]
noncomputable def mfAx145:MFn:=mfD Tryz.prog entsC hsAx145 false false 145
def hsAx202:Hints:=[]
noncomputable def mfAx202:MFn:=mfD Tryz.prog entsC hsAx202 false false 202
def hsAx200:Hints:=[⟨21,[true,false,false,true],[],[],[(1,([true,false,false,true],([],[])))]⟩]
noncomputable def mfAx200:MFn:=mfD Tryz.prog entsC hsAx200 false false 200
def hsAx139:Hints:=[]
noncomputable def mfAx139:MFn:=mfD Tryz.prog entsC hsAx139 false false 139
def hsAx197:Hints:=[⟨61,[false,true,false,false,false,true,true,false,false,false,false,false,false,false,false,false,false,false,false,false,false,false,false,false,false,true,true,true],[],[],[(1,([false,false,false,false,false,true,true],([],[])))]⟩]
noncomputable def mfAx197:MFn:=mfD Tryz.prog entsC hsAx197 false false 197
def hsAx198:Hints:=[⟨59,[false,true,false,false,false,false,true,true,false,false,false,false,false,false,false,false,false,false,false,false,false,false,false,true,true,true],[],[],[(1,([false,false,false,false,false,false,true],([],[])))]⟩]
noncomputable def mfAx198:MFn:=mfD Tryz.prog entsC hsAx198 false false 198
def hsAx201:Hints:=[⟨49,[true,true,false,false,false,true],[],[],[(0,([false,false,false,false,true],([],[]))),(2,([],([],[])))]⟩]
noncomputable def mfAx201:MFn:=mfD Tryz.prog entsC hsAx201 false false 201
def hsAx140:Hints:=[⟨42,[true,true,false,false,false,true,true],[],[],[(1,([true,false,false,false,false,true],([],[1000000])))]⟩]
noncomputable def mfAx140:MFn:=mfD Tryz.prog entsC hsAx140 true false 140
def hsAx199:Hints:=[⟨19,[true,true,false,false,false,false,false,true,true],[],[],[(0,([false,false,false,false,true],([],[1000000]))),(1,([],([],[1000000])))]⟩]
noncomputable def mfAx199:MFn:=mfD Tryz.prog entsC hsAx199 false false 199
def hsAx141:Hints:=[]
noncomputable def mfAx141:MFn:=mfD Tryz.prog entsC hsAx141 false false 141
def hsAx64:Hints:=[]
noncomputable def mfAx64:MFn:=mfD Tryz.prog entsC hsAx64 false false 64
def hsAx142:Hints:=[]
noncomputable def mfAx142:MFn:=mfD Tryz.prog entsC hsAx142 false false 142
def hsAx188:Hints:=[]
noncomputable def mfAx188:MFn:=mfD Tryz.prog entsC hsAx188 false false 188
def hsAx231:Hints:=[]
noncomputable def mfAx231:MFn:=mfD Tryz.prog entsC hsAx231 false false 231
def hsAx263:Hints:=[]
noncomputable def mfAx263:MFn:=mfD Tryz.prog entsC hsAx263 false false 263
def hsAx274:Hints:=[]
noncomputable def mfAx274:MFn:=mfD Tryz.prog entsC hsAx274 false false 274
def hsAx277:Hints:=[]
noncomputable def mfAx277:MFn:=mfD Tryz.prog entsC hsAx277 false false 277
def hsAx278:Hints:=[]
noncomputable def mfAx278:MFn:=mfD Tryz.prog entsC hsAx278 false false 278
def hsAx223:Hints:=[]
noncomputable def mfAx223:MFn:=mfD Tryz.prog entsC hsAx223 false false 223
def hsAx281:Hints:=[]
noncomputable def mfAx281:MFn:=mfD Tryz.prog entsC hsAx281 false false 281
def hsAx282:Hints:=[]
noncomputable def mfAx282:MFn:=mfD Tryz.prog entsC hsAx282 false false 282
def hsAx279:Hints:=[⟨167,[true,true,false,false,true],[],[],[(1,([true,true,false,false,true],([],[])))]⟩]
noncomputable def mfAx279:MFn:=mfD Tryz.prog entsC hsAx279 false false 279
def hsAx280:Hints:=[⟨102,[true,true,false,true,true,false,false,false,false,false,true,true,true,true,true,true,true],[],[],[(1,([true,true,false,true,true,false,false,false,false,false,true,true,true,true],([],[])))]⟩,⟨102,[true,true,false,true,true,false,false,false,false,false,true,true,true,true,false,false,false,true],[],[],[(3,([true,true,false,true,true,false,false,false,false,false,true,true,true,true],([],[])))]⟩]
noncomputable def mfAx280:MFn:=mfD Tryz.prog entsC hsAx280 false false 280
def hsAx283:Hints:=[]
noncomputable def mfAx283:MFn:=mfD Tryz.prog entsC hsAx283 false false 283
def hsAx284:Hints:=[]
noncomputable def mfAx284:MFn:=mfD Tryz.prog entsC hsAx284 false false 284
def hsAx285:Hints:=[]
noncomputable def mfAx285:MFn:=mfD Tryz.prog entsC hsAx285 false false 285
def hsAx286:Hints:=[]
noncomputable def mfAx286:MFn:=mfD Tryz.prog entsC hsAx286 false false 286
def hsAx189:Hints:=[]
noncomputable def mfAx189:MFn:=mfD Tryz.prog entsC hsAx189 false false 189
def hsAx126:Hints:=[]
noncomputable def mfAx126:MFn:=mfD Tryz.prog entsC hsAx126 false false 126
def hsAx184:Hints:=[]
noncomputable def mfAx184:MFn:=mfD Tryz.prog entsC hsAx184 false false 184
def hsAx155:Hints:=[]
noncomputable def mfAx155:MFn:=mfD Tryz.prog entsC hsAx155 false false 155
def hsAx190:Hints:=[]
noncomputable def mfAx190:MFn:=mfD Tryz.prog entsC hsAx190 false false 190
def hsAx232:Hints:=[⟨40,[true,false,false,true],[],[],[(1,([false,false,false,true],([],[])))]⟩,⟨40,[true,false,false,true,true,false,false,false,false,false,false,false,false,false,false,false,false,false,true],[],[],[(3,([true,false,false,true],([],[])))]⟩,⟨40,[false,false,false,true],[],[],[(5,([false,false,false,true],([],[])))]⟩]
noncomputable def mfAx232:MFn:=mfD Tryz.prog entsC hsAx232 false false 232
def hsAx203:Hints:=[⟨44,[true,true,false,false,false,false,true,true,true],[],[],[(1,([false,false,false,false,false,false,true,true],([],[])))]⟩]
noncomputable def mfAx203:MFn:=mfD Tryz.prog entsC hsAx203 false false 203
def hsAx264:Hints:=[⟨28,[true,false,true,true],[],[],[(1,([],([],[1000000])))]⟩]
noncomputable def mfAx264:MFn:=mfD Tryz.prog entsC hsAx264 false false 264
noncomputable def tabAx:List (Nat × MFn):=[(62,mfAx62),(136,mfAx136),(196,mfAx196),(234,mfAx234),(235,mfAx235),(265,mfAx265),(275,mfAx275),(137,mfAx137),(84,mfAx84),(157,mfAx157),(138,mfAx138),(145,mfAx145),(202,mfAx202),(200,mfAx200),(139,mfAx139),(197,mfAx197),(198,mfAx198),(201,mfAx201),(140,mfAx140),(199,mfAx199),(141,mfAx141),(64,mfAx64),(142,mfAx142),(188,mfAx188),(231,mfAx231),(263,mfAx263),(274,mfAx274),(277,mfAx277),(278,mfAx278),(223,mfAx223),(281,mfAx281),(282,mfAx282),(279,mfAx279),(280,mfAx280),(283,mfAx283),(284,mfAx284),(285,mfAx285),(286,mfAx286),(189,mfAx189),(126,mfAx126),(184,mfAx184),(155,mfAx155),(190,mfAx190),(232,mfAx232),(203,mfAx203),(264,mfAx264)]
end Go.Proofs.YtpncilciembjdaaGreatDoor
