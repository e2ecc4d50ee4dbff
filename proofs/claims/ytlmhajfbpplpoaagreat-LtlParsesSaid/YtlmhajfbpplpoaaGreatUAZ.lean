/-
  slices.Clone over this seat's element types.
  slices.Grow of nil over this seat's element types.
  Functions of the program as trees: what a call comes to.
-/
import Derived.Maps.AppendAt
import Derived.Test.YtlmhajfbpplpoaaGreatUAW
import Derived.Test.YtlmhajfbpplpoaaGreatUAB
import Derived.Test.YtlmhajfbpplpoaaGreatUAY
import Derived.Test.YtlmhajfbpplpoaaGreatUAS
import Derived.Lib.AppendZeros
set_option linter.unusedSectionVars false
set_option linter.unusedSimpArgs false
set_option linter.unusedVariables false
namespace Go.Proofs.YtlmhajfbpplpoaaGreat
open Go.RowKit
theorem add_block(a:Addr)(j:Nat):(a.add j).block=a.block:=by unfold Addr.add;split<;>rfl
set_option maxRecDepth 100000 in
set_option maxHeartbeats 4000000 in
theorem cloneP_any(w:World)(A:Option Addr)(n c:Nat)(us:List Value)(hn:us.length=n*3)(hc:n<=c)(hA:n≠0->∃ g o,A=some ⟨g,o,none⟩/\∀ j u,us[j]? = some u->w.cell? ⟨g,o+j,none⟩=some u)
  (h1:∀ u∈us,u.oneCell'=true) (hby:n*40<=140737488355328) :
  Calls Tryz.prog 151 #[.slice A n c] w fun e w'=>∃ v',e=.returned v'/\w'.ownsRow w.heap.size 154 3 v' n us/\Below w.heap.size w w':=by
 obtain⟨i0,hi0,hz0,hz1,hz2⟩:=info_parts (show (Tryz.prog.info? 154).map (fun i=>(i.zero,i.size,i.bytes))=some (some (.agg #[.int .i64 0,.bool false,.slice none 0 0]),3,40) by kernel_rfl)
 have HU:=Lib.hid hn
 have HA:=Lib.hid hA
 have H1:=Lib.hid h1
 clear hn hA h1
 have hq:∀(w:World) (a:Option Addr) (n c:Nat),(binOp .eql 50 (.slice a n c) (.slice none 0 0)).run Tryz.prog w=.ok (.bool a.isNone) w:=fun w a n c=>Lib.run_eql_slice_nil w _ _ a n c 0 0 Tryz.underlying50
 go_enter Tryz.func151,Tryz.ntmps151
 cases A with
 |none=>
  have h0:n=0:=by
   rcases Nat.eq_zero_or_pos n with h|h
   .exact h
   .exfalso
    obtain⟨g,o,h2,_⟩:=HA.out (Nat.ne_of_gt h)
    cases h2
  subst h0
  go_wp2
  go_ret
  have hu:us=[]:=List.eq_nil_of_length_eq_zero (by rw[HU.out,Nat.zero_mul])
  rw[hu]
  exact⟨_,rfl,World.ownsRow_nil _ _ _ _,Below.refl _ _⟩
 |some ad=>
  obtain⟨ag,ao,asp⟩:=ad
  have hcells:∀ j u,us[j]? = some u->ag<w.heap.size/\w.cell? ((⟨ag,ao,asp⟩:Addr).add j)=some u:=fun j u hj=>by
   have hn0:n≠0:=by
    rintro rfl
    have hu:us=[]:=List.eq_nil_of_length_eq_zero (by rw[HU.out,Nat.zero_mul])
    rw[hu]at hj
    cases hj
   obtain⟨g,o,h2,h3⟩:=HA.out hn0
   cases h2
   have h5:=h3 j u hj
   exact⟨heap_lt h5,by rw[add_none];exact h5⟩
  have HC:=Lib.hid hcells
  clear hcells
  go_wp2_with (at_builtin;refine wpList_append_own_at _ rfl _ _ 50 rfl w.heap.size 154 i0 (.agg #[.int .i64 0,.bool false,.slice none 0 0]) 3 40 Tryz.underlying50 hi0 hz0 hz1 hz2 rfl (by decide) _ 0 [] rfl ?c0 ⟨ag,ao,asp⟩ n c us rfl HU.out ?c1 H1.out ?c3 ?c4 ?c5 ?_)
  case c0=>exact⟨by simp,.inr ⟨w.heap.size,0,#[],rfl,Nat.le_refl _,heap_alloc_new _ _,Nat.le_refl _,Nat.zero_le _,by simp,by simp⟩⟩
  case c1=>
   intro j u hj
   have:=HC.out j u hj
   exact((below_one w (.cells #[] 154)).cell (p:=(⟨ag,ao,asp⟩:Addr).add j) (by rw[add_block];exact this.1)).trans this.2
  case c3=>unfold maxLen;omega
  case c4=>omega
  case c5=>exact(below_one w _).size
  intro v' w3 hown hgrow _ _
  try simp only[Nat.zero_add,List.nil_append]at hown
  have HO:=Lib.hid hown
  have HB:=Lib.hid ((below_one w (.cells #[] 154)).grown hgrow (below_one w _).size (fun k hk=>by have hk:some w.heap.size=some k:=hk;cases hk;exact Nat.le_refl _))
  clear hown hgrow
  go_wp2_with fail
  go_ret
  exact⟨_,rfl,HO.out,HB.out⟩
set_option maxRecDepth 100000 in
set_option maxHeartbeats 4000000 in
theorem cloneN_any(w:World)(A:Option Addr)(n c:Nat)(us:List Value)(hn:us.length=n*1)(hc:n<=c)(hA:n≠0->∃ g o,A=some ⟨g,o,none⟩/\∀ j u,us[j]? = some u->w.cell? ⟨g,o+j,none⟩=some u)
  (h1:∀ u∈us,u.oneCell'=true) (hby:n*4<=140737488355328) :
  Calls Tryz.prog 240 #[.slice A n c] w fun e w'=>∃ v',e=.returned v'/\w'.ownsRow w.heap.size 230 1 v' n us/\Below w.heap.size w w':=by
 obtain⟨i0,hi0,hz0,hz1,hz2⟩:=info_parts (show (Tryz.prog.info? 230).map (fun i=>(i.zero,i.size,i.bytes))=some (some (.int .u32 0),1,4) by kernel_rfl)
 have HU:=Lib.hid hn
 have HA:=Lib.hid hA
 have H1:=Lib.hid h1
 clear hn hA h1
 have hq:∀(w:World) (a:Option Addr) (n c:Nat),(binOp .eql 52 (.slice a n c) (.slice none 0 0)).run Tryz.prog w=.ok (.bool a.isNone) w:=fun w a n c=>Lib.run_eql_slice_nil w _ _ a n c 0 0 Tryz.underlying52
 go_enter Tryz.func240,Tryz.ntmps240
 cases A with
 |none=>
  have h0:n=0:=by
   rcases Nat.eq_zero_or_pos n with h|h
   .exact h
   .exfalso
    obtain⟨g,o,h2,_⟩:=HA.out (Nat.ne_of_gt h)
    cases h2
  subst h0
  go_wp2
  go_ret
  have hu:us=[]:=List.eq_nil_of_length_eq_zero (by rw[HU.out,Nat.zero_mul])
  rw[hu]
  exact⟨_,rfl,World.ownsRow_nil _ _ _ _,Below.refl _ _⟩
 |some ad=>
  obtain⟨ag,ao,asp⟩:=ad
  have hcells:∀ j u,us[j]? = some u->ag<w.heap.size/\w.cell? ((⟨ag,ao,asp⟩:Addr).add j)=some u:=fun j u hj=>by
   have hn0:n≠0:=by
    rintro rfl
    have hu:us=[]:=List.eq_nil_of_length_eq_zero (by rw[HU.out,Nat.zero_mul])
    rw[hu]at hj
    cases hj
   obtain⟨g,o,h2,h3⟩:=HA.out hn0
   cases h2
   have h5:=h3 j u hj
   exact⟨heap_lt h5,by rw[add_none];exact h5⟩
  have HC:=Lib.hid hcells
  clear hcells
  go_wp2_with (at_builtin;refine wpList_append_own_at _ rfl _ _ 52 rfl w.heap.size 230 i0 (.int .u32 0) 1 4 Tryz.underlying52 hi0 hz0 hz1 hz2 rfl (by decide) _ 0 [] rfl ?c0 ⟨ag,ao,asp⟩ n c us rfl HU.out ?c1 H1.out ?c3 ?c4 ?c5 ?_)
  case c0=>exact⟨by simp,.inr ⟨w.heap.size,0,#[],rfl,Nat.le_refl _,heap_alloc_new _ _,Nat.le_refl _,Nat.zero_le _,by simp,by simp⟩⟩
  case c1=>
   intro j u hj
   have:=HC.out j u hj
   exact((below_one w (.cells #[] 230)).cell (p:=(⟨ag,ao,asp⟩:Addr).add j) (by rw[add_block];exact this.1)).trans this.2
  case c3=>unfold maxLen;omega
  case c4=>omega
  case c5=>exact(below_one w _).size
  intro v' w3 hown hgrow _ _
  try simp only[Nat.zero_add,List.nil_append]at hown
  have HO:=Lib.hid hown
  have HB:=Lib.hid ((below_one w (.cells #[] 230)).grown hgrow (below_one w _).size (fun k hk=>by have hk:some w.heap.size=some k:=hk;cases hk;exact Nat.le_refl _))
  clear hown hgrow
  go_wp2_with fail
  go_ret
  exact⟨_,rfl,HO.out,HB.out⟩
section
variable {μ:Mu} {F:Prot} {w:World} {g:Nat}
theorem at_vals:∀(xs:List AV) (o:Nat),RepAt μ F w g xs o->∃ us,RepList μ F w xs us/\∀ j u,us[j]? = some u->w.cell? ⟨g,o+j,none⟩=some u
 |[],o,_=>⟨[],rfl,fun j u h=>by simp at h⟩
 |x::r,o,h=>by
  simp only[RepAt]at h
  obtain⟨⟨_,u,h2,h3⟩,h4⟩:=h
  obtain⟨us,h5,h6⟩:=at_vals r (o+1) h4
  refine⟨u::us,⟨u,us,rfl,h3,h5⟩,fun j v hj=>?_⟩
  cases j with
  |zero=>simp at hj;subst hj;exact h2
  |succ j=>
   have:=h6 j v (by simpa using hj)
   rwa [show o+1+j=o+(j+1) by omega]at this
theorem rows_vals{e:Nat}:∀(xs:List (List AV)) (o:Nat),RepRows μ F w g e xs o->∃ us,RepList μ F w xs.flatten us/\∀ j u,us[j]? = some u->w.cell? ⟨g,o+j,none⟩=some u
 |[],o,_=>⟨[],rfl,fun j u h=>by simp at h⟩
 |x::r,o,h=>by
  simp only[RepRows]at h
  obtain⟨h1,h2,h3⟩:=h
  obtain⟨us,a1,a2⟩:=at_vals x o h2
  obtain⟨vs,b1,b2⟩:=rows_vals r (o+e) h3
  refine⟨us++vs,by rw[List.flatten_cons];exact RepList.append a1 b1,fun j v hj=>?_⟩
  have hl:us.length=e:=by rw[a1.length,h1]
  by_cases hj2:j<us.length
  .exact a2 j v (by rwa [List.getElem?_append_left hj2]at hj)
  .rw[List.getElem?_append_right (by omega),hl]at hj
   have:=b2 (j-e) v hj
   rwa [show o+e+(j-e)=o+j by omega]at this
end
def resClone(e B:Nat):List AV->Option (Nat × List AV)
 |[.ls xs]=>if(wideR e xs&&oneL (catR xs)&&noidL (catR xs)&&Nat.ble (lenR xs*B) 140737488355328)=true then some (lenR xs,catR xs) else none
 |_=>none
theorem clone_good{P:Program}{f:Nat}{ety:TypeId}(e B:Nat) (h:∀(w:World) (A:Option Addr) (n c:Nat) (us:List Value),us.length=n*e->n<=c->(n≠0->∃ g o,A=some ⟨g,o,none⟩/\∀ j u,us[j]? = some u->w.cell? ⟨g,o+j,none⟩=some u)->
  (∀ u∈us,u.oneCell'=true)->n*B<=140737488355328->Calls P f #[.slice A n c] w fun e' w'=>∃ v',e'=.returned v'/\w'.ownsRow w.heap.size ety e v' n us/\Below w.heap.size w w'):GoodD (SemFn P f) (ownD e (resClone e B)):=by
 refine goodD_own (semFn_mono P f) e _ fun args n cells hr=>?_
 unfold resClone at hr
 split at hr
 .rename_i xs
  split at hr
  .rename_i hc
   simp only[Bool.and_eq_true,Nat.ble_eq]at hc
   obtain⟨⟨⟨c1,c2⟩,c3⟩,c4⟩:=hc
   rw[wideR_eq]at c1
   rw[catR_eq]at c2 c3
   rw[lenR_eq]at c4
   simp only[Option.some.injEq,Prod.mk.injEq]at hr
   obtain⟨rfl,rfl⟩:=hr
   rw[lenR_eq,catR_eq]
   have hlen:xs.flatten.length=xs.length*e:=by
    clear c2 c3 c4
    induction xs with
    |nil=>simp
    |cons x r ih=>
     rw[List.all_cons,Bool.and_eq_true]at c1
     rw[List.flatten_cons,List.length_append,ih c1.2,List.length_cons,Nat.add_mul,Nat.one_mul]
     have:x.length=e:=by simpa using c1.1
     omega
   refine⟨c3,hlen,fun μ F w us hF hus=>?_⟩
   obtain⟨v,t,rfl,hv,ht⟩:=hus
   have ht:t=[]:=ht
   subst ht
   unfold Rep at hv
   obtain⟨_,A,c,rfl,h2,_,h4⟩:=hv
   have key:∃ vs,RepList μ F w xs.flatten vs/\(xs.length≠0->∃ g o,A=some ⟨g,o,none⟩/\∀ j u,vs[j]? = some u->w.cell? ⟨g,o+j,none⟩=some u):=by
    by_cases hx:xs=[]
    .subst hx
     exact⟨[],rfl,fun h=>absurd rfl h⟩
    .obtain⟨g,o,e',hA,hr⟩:=h4 hx
     obtain⟨vs,k1,k2⟩:=rows_vals xs o hr
     exact⟨vs,k1,fun _=>⟨g,o,hA,k2⟩⟩
   obtain⟨vs,k1,k2⟩:=key
   have hone:∀ u∈vs,u.oneCell'=true:=fun u hu=>by
    obtain⟨j,hj,rfl⟩:=List.getElem_of_mem hu
    have hj2:j<xs.flatten.length:=by rw[←k1.length];exact hj
    obtain⟨u,a1,a2⟩:=k1.get (List.getElem?_eq_getElem hj2)
    rw[List.getElem?_eq_getElem hj]at a1
    cases a1
    rw[oneL_eq]at c2
    exact a2.one (List.all_eq_true.1 c2 _ (List.getElem_mem hj2))
   refine Calls.mono (h w A xs.length c vs (by rw[k1.length,hlen]) h2 k2 hone c4) ?_
   rintro e' w' ⟨v',rfl,ho,hb⟩
   exact⟨v',rfl,ety,vs,ho,hb,k1⟩
  .cases hr
 .cases hr
theorem clone_nat:GoodD (SemFn Tryz.prog 240) (ownD 1 (resClone 1 4)):=clone_good 1 4 fun w A n c us h1 h2 h3 h4 h5=>cloneN_any w A n c us h1 h2 h3 h4 h5
theorem clone_part:GoodD (SemFn Tryz.prog 151) (ownD 3 (resClone 3 40)):=clone_good 3 40 fun w A n c us h1 h2 h3 h4 h5=>cloneP_any w A n c us h1 h2 h3 h4 h5
end Go.Proofs.YtlmhajfbpplpoaaGreat
namespace Go.Proofs.YtlmhajfbpplpoaaGreat
open Go.RowKit
set_option maxRecDepth 100000 in
set_option maxHeartbeats 4000000 in
theorem growP_any(w:World)(n:Nat)(hby:n*40<=140737488355328) :
  Calls Tryz.prog 263 #[.slice none 0 0,.int .i64 n] w fun e w'=>∃ v',e=.returned v'/\w'.ownsRow w.heap.size 154 3 v' 0 []/\Below w.heap.size w w':=by
 have y0:¬ (n:Int)<0:=by omega
 go_enter Tryz.func263,Tryz.ntmps263
 by_cases h0:n=0
 .subst h0
  go_wp2
  go_ret
  exact⟨_,rfl,World.ownsRow_nil _ _ _ _,Below.refl _ _⟩
 .have y1:(0:Int)<(n:Int):=by omega
  obtain⟨i0,hi0,hz0,hz1,hz2⟩:=info_parts (show (Tryz.prog.info? 154).map (fun i=>(i.zero,i.size,i.bytes))=some (some (.agg #[.int .i64 0,.bool false,.slice none 0 0]),3,40) by kernel_rfl)
  have hr:=fun ty=>Lib.run_append_nil_zeros (P:=Tryz.prog) w 50 3 ty 154 i0 _ .i64 .i64 Tryz.underlying50 Tryz.underlying3 hi0 hz0 n (by omega) (by rw[hz1];decide) (by omega) (by rw[hz2];omega)
  have c1:=grownCap_ge w n 0 154
  have c2:=grownCap_le_maxLen w n 0 154 (by unfold maxLen;omega)
  have HR:=Lib.hid hr
  clear hr
  generalize grownCap w n 0 154=cap at *
  go_wp2_with (at_builtin;refine Lib.wpList_append_run _ rfl _ _ _ _ rfl _ _ rfl rfl _ _ (HR.out _) ?_)
  go_wp2_with fail
  go_ret
  refine⟨_,rfl,⟨by simp,.inr ⟨w.heap.size,cap,_,rfl,Nat.le_refl _,heap_alloc_new _ _,Nat.zero_le _,c2,?_,by simp⟩⟩,?_⟩
  .rw[Array.size_append,size_zeroCells,size_zeroCells]
   show n*3+(cap-n)*3=cap*3
   omega
  .exact(below_drew (Below.refl _ _)).alloc (Nat.le_refl _) _
def resGrow(B:Nat):List AV->Option (Nat × List AV)
 |[.v (.slice none 0 0),.v (.int .i64 (.ofNat n))]=>if Nat.ble (n*B) 140737488355328=true then some (0,[]) else none
 |_=>none
theorem grow_part:GoodD (SemFn Tryz.prog 263) (ownD 3 (resGrow 40)):=by
 refine goodD_own (semFn_mono _ _) 3 _ fun args n cells hr=>?_
 unfold resGrow at hr
 split at hr
 .rename_i k
  split at hr
  .rename_i hk
   simp only[Option.some.injEq,Prod.mk.injEq]at hr
   obtain⟨rfl,rfl⟩:=hr
   refine⟨rfl,rfl,fun μ F w us hF hus=>?_⟩
   obtain⟨u,t,rfl,hu,u2,t2,rfl,hu2,ht⟩:=hus
   have ht:t2=[]:=ht
   subst ht
   unfold Rep at hu hu2
   rw[hu.1,hu2.1]
   refine Calls.mono (growP_any w k (Nat.le_of_ble_eq_true hk)) ?_
   rintro e' w' ⟨v',rfl,ho,hb⟩
   exact⟨v',rfl,_,[],ho,hb,rfl⟩
  .cases hr
 .cases hr
end Go.Proofs.YtlmhajfbpplpoaaGreat
namespace Go.Proofs.YtlmhajfbpplpoaaGreat
open Go.RowKit
def ownAm:List (Nat × Nat):=[(152,0),(206,0),(242,0),(243,0),(260,0),(273,0),(156,0),(208,0),(263,0)]
def hsAm34:Hints:=[]
noncomputable def mfAm34:MFn:=mfD Tryz.prog entsC hsAm34 false false 34
def hsAm36:Hints:=[]
noncomputable def mfAm36:MFn:=mfD Tryz.prog entsC hsAm36 false false 36
def hsAm74:Hints:=[⟨57,[false,true,true,false,false,false,false,false,false,false,false,false,false,false,false,false,false,false,false,false,false,false,false,false,false,false,false,false,false,false,false,false,false,true,true,true],[],[],[(0,([false,false,false,false,true],([],[]))),(1,([],([],[])))]⟩]
noncomputable def mfAm74:MFn:=mfD Tryz.prog entsC hsAm74 false false 74
def hsAm132:Hints:=[]
noncomputable def mfAm132:MFn:=mfD Tryz.prog entsC hsAm132 false false 132
def hsAm133:Hints:=[]
noncomputable def mfAm133:MFn:=mfD Tryz.prog entsC hsAm133 false false 133
def hsAm46:Hints:=[]
noncomputable def mfAm46:MFn:=mfD Tryz.prog entsC hsAm46 false false 46
def hsAm23:Hints:=[]
noncomputable def mfAm23:MFn:=mfD Tryz.prog entsC hsAm23 false false 23
def hsAm59:Hints:=[]
noncomputable def mfAm59:MFn:=mfD Tryz.prog entsC hsAm59 false false 59
def hsAm107:Hints:=[⟨19,[true,true,false,false,false,false,false,true,true],[],[],[(0,([false,false,false,false,true],([],[]))),(1,([],([],[])))]⟩]
noncomputable def mfAm107:MFn:=mfD Tryz.prog entsC hsAm107 false false 107
def hsAm60:Hints:=[]
noncomputable def mfAm60:MFn:=mfD Tryz.prog entsC hsAm60 false false 60
def hsAm61:Hints:=[]
noncomputable def mfAm61:MFn:=mfD Tryz.prog entsC hsAm61 false false 61
def hsAm45:Hints:=[]
noncomputable def mfAm45:MFn:=mfD Tryz.prog entsC hsAm45 false false 45
def hsAm134:Hints:=[]
noncomputable def mfAm134:MFn:=mfD Tryz.prog entsC hsAm134 false false 134
def hsAm194:Hints:=[]
noncomputable def mfAm194:MFn:=mfD Tryz.prog entsC hsAm194 false false 194
def hsAm72:Hints:=[⟨61,[true,false,false,false,true,false,false,false,true,false,false,false,false,false,false,false,false,false,false,false,false,false,false,false,false,false,false,false,false,false,false,false,false,false,false,false,false,false,true,true,true],[],[],[(0,([true,false,false,false,true,true],([],[]))),(1,([true,false,false,false,true,false,false,false,true],([],[])))]⟩]
noncomputable def mfAm72:MFn:=mfD Tryz.prog entsC hsAm72 false true 72
def hsAm129:Hints:=[]
noncomputable def mfAm129:MFn:=mfD Tryz.prog entsC hsAm129 false true 129
def hsAm188:Hints:=[]
noncomputable def mfAm188:MFn:=mfD Tryz.prog entsC hsAm188 false true 188
def hsAm232:Hints:=[⟨20,[false,false,false,true,false,false,false,true,true,true],[],[],[(1,([false,false,false,true],([],[])))]⟩]
noncomputable def mfAm232:MFn:=mfD Tryz.prog entsC hsAm232 false false 232
def hsAm88:Hints:=[⟨19,[true,true,false,false,false,false,false,true,true],[],[],[(0,([false,false,false,false,true],([],[]))),(1,([],([],[])))]⟩]
noncomputable def mfAm88:MFn:=mfD Tryz.prog entsC hsAm88 false false 88
def hsAm27:Hints:=[]
noncomputable def mfAm27:MFn:=mfD Tryz.prog entsC hsAm27 false false 27
def hsAm24:Hints:=[]
noncomputable def mfAm24:MFn:=mfD Tryz.prog entsC hsAm24 false false 24
def hsAm62:Hints:=[⟨59,[false,true,true,false,false,false,false,false,false,false,false,false,false,false,false,false,false,false,false,false,false,false,false,false,false,false,false,false,false,false,false,false,false,false,false,true,true,true],[],[],[(0,([false,false,false,false,true],([],[]))),(1,([],([],[])))]⟩]
noncomputable def mfAm62:MFn:=mfD Tryz.prog entsC hsAm62 false false 62
def hsAm110:Hints:=[]
noncomputable def mfAm110:MFn:=mfD Tryz.prog entsC hsAm110 false false 110
def hsAm111:Hints:=[]
noncomputable def mfAm111:MFn:=mfD Tryz.prog entsC hsAm111 false false 111
def hsAm64:Hints:=[]
noncomputable def mfAm64:MFn:=mfD Tryz.prog entsC hsAm64 false false 64
def hsAm65:Hints:=[⟨82,[false,true,true,false,true,false,false,false,false,false,true,false,false,false,false,false,false,false,false,false,false,false,false,false,false,false,false,false,false,false,false,false,false,false,false,false,false,false,false,false,false,false,true,true,true],[],[],[(0,([false,false,false,false,true,true],([],[]))),(1,([false,false,true,false,true,false,false,false,false,false,true],([],[])))]⟩]
noncomputable def mfAm65:MFn:=mfD Tryz.prog entsC hsAm65 false false 65
def hsAm44:Hints:=[⟨61,[false,true,false,false,true,false,true,false,false,false,false,false,false,false,false,true,true,true],[],[],[(0,([false,false,false,false,true,true],([],[]))),(1,([false,false,false,false,true,false,true],([],[])))]⟩]
noncomputable def mfAm44:MFn:=mfD Tryz.prog entsC hsAm44 false false 44
def hsAm84:Hints:=[]
noncomputable def mfAm84:MFn:=mfD Tryz.prog entsC hsAm84 false false 84
def hsAm146:Hints:=[]
noncomputable def mfAm146:MFn:=mfD Tryz.prog entsC hsAm146 false false 146
def hsAm200:Hints:=[]
noncomputable def mfAm200:MFn:=mfD Tryz.prog entsC hsAm200 false false 200
def hsAm204:Hints:=[⟨21,[true,false,false,true],[],[],[(1,([true,false,false,true],([],[])))]⟩]
noncomputable def mfAm204:MFn:=mfD Tryz.prog entsC hsAm204 false false 204
def hsAm145:Hints:=[]
noncomputable def mfAm145:MFn:=mfD Tryz.prog entsC hsAm145 false false 145
def hsAm85:Hints:=[]
noncomputable def mfAm85:MFn:=mfD Tryz.prog entsC hsAm85 false false 85
def hsAm147:Hints:=[]
noncomputable def mfAm147:MFn:=mfD Tryz.prog entsC hsAm147 false false 147
def hsAm201:Hints:=[]
noncomputable def mfAm201:MFn:=mfD Tryz.prog entsC hsAm201 false false 201
def hsAm241:Hints:=[]
noncomputable def mfAm241:MFn:=mfD Tryz.prog entsC hsAm241 false false 241
def hsAm148:Hints:=[⟨49,[true,false,false,false,true,true,true,false,false,false,false,false,false,false,false,false,false,false,true,true],[],[],[(0,([false,false,true,true],([],[]))),(2,([false,false,false,false,true,true,true],([],[])))]⟩]
noncomputable def mfAm148:MFn:=mfD Tryz.prog entsC hsAm148 false false 148
def hsAm202:Hints:=[]
noncomputable def mfAm202:MFn:=mfD Tryz.prog entsC hsAm202 false false 202
def hsAm203:Hints:=[⟨47,[false,true,false,false,false,false,false,true,true,false,false,false,false,false,false,false,false,false,true,true,true],[],[],[(1,([false,false,false,false,false,false,false,true,true],([],[])))]⟩]
noncomputable def mfAm203:MFn:=mfD Tryz.prog entsC hsAm203 false false 203
def hsAm86:Hints:=[]
noncomputable def mfAm86:MFn:=mfD Tryz.prog entsC hsAm86 false false 86
def hsAm87:Hints:=[]
noncomputable def mfAm87:MFn:=mfD Tryz.prog entsC hsAm87 false false 87
def hsAm149:Hints:=[⟨61,[false,true,false,false,false,true,true,false,false,false,false,false,false,false,false,false,false,false,false,false,false,false,false,false,false,true,true,true],[],[],[(1,([false,false,false,false,false,true,true],([],[])))]⟩]
noncomputable def mfAm149:MFn:=mfD Tryz.prog entsC hsAm149 false false 149
def hsAm150:Hints:=[⟨59,[false,true,false,false,false,false,true,true,false,false,false,false,false,false,false,false,false,false,false,false,false,false,false,true,true,true],[],[],[(1,([false,false,false,false,false,false,true],([],[])))]⟩]
noncomputable def mfAm150:MFn:=mfD Tryz.prog entsC hsAm150 false false 150
def hsAm205:Hints:=[⟨49,[true,true,false,false,false,true],[],[],[(0,([false,false,false,false,true],([],[]))),(2,([],([],[])))]⟩]
noncomputable def mfAm205:MFn:=mfD Tryz.prog entsC hsAm205 false false 205
def hsAm89:Hints:=[⟨74,[false,false,true,false,true,false,false,false,false,false,false,false,false,false,false,false,false,true,true,true],[],[],[(1,([false,false,true,false,true],([],[])))]⟩]
noncomputable def mfAm89:MFn:=mfD Tryz.prog entsC hsAm89 false false 89
def hsAm152:Hints:=[]
noncomputable def mfAm152:MFn:=mfD Tryz.prog entsC hsAm152 false false 152
def hsAm206:Hints:=[⟨63,[true,true,true,false,false,false,true,true,true],[],[],[(1,([true,true,true,false,false,false,true,true],([],[1000000])))]⟩,⟨63,[true,true,true,false,false,false,true],[],[],[(3,([],([],[1000000])))]⟩,⟨63,[true,true,true,false,false,false,true,true,true],[],[],[(5,([true,true,true,false,false,false,true,true],([],[1000000])))]⟩]
noncomputable def mfAm206:MFn:=mfD Tryz.prog entsC hsAm206 false false 206
def hsAm242:Hints:=[⟨53,[true,true,true,true,false,false,false,false,true],[],[],[(1,([],([],[1000000])))]⟩,⟨53,[true,true,true,true,false,false,false,false,true,true],[],[],[(3,([true,true,true,true,false,false,false,false,true],([],[1000000])))]⟩]
noncomputable def mfAm242:MFn:=mfD Tryz.prog entsC hsAm242 false false 242
def hsAm243:Hints:=[⟨220,[true,true,false,false,true,false,false,false,false,false,true,true],[],[],[(1,([true,true,false,false,false,false,false,false,false,false,true],([],[1000000])))]⟩,⟨220,[true,false,false,false,false,false,false,false,false,false,true,false,false,true],[],[],[(3,([],([],[1000000])))]⟩,⟨220,[true,false,true,false,true,false,false,false,false,false,false,false,false,false,true,true],[],[],[(5,([true,false,true,false,false,false,false,false,false,false,false,false,false,false,true],([],[1000000])))]⟩,⟨220,[true,false,false,false,false,false,false,false,false,false,false,false,false,false,true,false,false,true],[],[],[(7,([],([],[1000000])))]⟩,⟨220,[true,true,true,true,true,false,false,false,false,false,false,false,false,false,false,false,false,false,true,true,true,true,true],[],[],[(9,([true,true,true,true,true,false,false,false,false,false,false,false,false,false,false,false,false,false,true,true,true],([],[1000000])))]⟩]
noncomputable def mfAm243:MFn:=mfD Tryz.prog entsC hsAm243 false false 243
def hsAm260:Hints:=[⟨58,[true,false,true,false,true,false,false,false,false,false,true,true],[],[],[(1,([true,false,true,false,true,false,false,false,false,false,true],([],[1000000])))]⟩]
noncomputable def mfAm260:MFn:=mfD Tryz.prog entsC hsAm260 false false 260
def hsAm273:Hints:=[⟨38,[true,true,true,true,false,false,false,false,false,false,true],[],[],[(1,([],([],[1000000])))]⟩]
noncomputable def mfAm273:MFn:=mfD Tryz.prog entsC hsAm273 false false 273
def hsAm153:Hints:=[]
noncomputable def mfAm153:MFn:=mfD Tryz.prog entsC hsAm153 false false 153
def hsAm154:Hints:=[]
noncomputable def mfAm154:MFn:=mfD Tryz.prog entsC hsAm154 false false 154
def hsAm207:Hints:=[]
noncomputable def mfAm207:MFn:=mfD Tryz.prog entsC hsAm207 false false 207
def hsAm155:Hints:=[]
noncomputable def mfAm155:MFn:=mfD Tryz.prog entsC hsAm155 false false 155
def hsAm156:Hints:=[⟨42,[true,true,false,false,false,true,true],[],[],[(1,([true,false,false,false,false,true],([],[1000000])))]⟩]
noncomputable def mfAm156:MFn:=mfD Tryz.prog entsC hsAm156 true false 156
def hsAm208:Hints:=[⟨19,[true,true,false,false,false,false,false,true,true],[],[],[(0,([false,false,false,false,true],([],[1000000]))),(1,([],([],[1000000])))]⟩]
noncomputable def mfAm208:MFn:=mfD Tryz.prog entsC hsAm208 false false 208
def hsAm157:Hints:=[]
noncomputable def mfAm157:MFn:=mfD Tryz.prog entsC hsAm157 false false 157
def hsAm158:Hints:=[]
noncomputable def mfAm158:MFn:=mfD Tryz.prog entsC hsAm158 false false 158
def hsAm209:Hints:=[]
noncomputable def mfAm209:MFn:=mfD Tryz.prog entsC hsAm209 false false 209
def hsAm112:Hints:=[]
noncomputable def mfAm112:MFn:=mfD Tryz.prog entsC hsAm112 false false 112
def hsAm170:Hints:=[]
noncomputable def mfAm170:MFn:=mfD Tryz.prog entsC hsAm170 false false 170
def hsAm173:Hints:=[]
noncomputable def mfAm173:MFn:=mfD Tryz.prog entsC hsAm173 false false 173
def hsAm224:Hints:=[]
noncomputable def mfAm224:MFn:=mfD Tryz.prog entsC hsAm224 false false 224
def hsAm251:Hints:=[⟨35,[false,false,false,true,true,true,false,false,false,false,false,false,false,false,true,true,true],[],[],[(1,([false,false,false,false,true,true],([],[])))]⟩]
noncomputable def mfAm251:MFn:=mfD Tryz.prog entsC hsAm251 false false 251
def hsAm264:Hints:=[]
noncomputable def mfAm264:MFn:=mfD Tryz.prog entsC hsAm264 false false 264
def hsAm275:Hints:=[]
noncomputable def mfAm275:MFn:=mfD Tryz.prog entsC hsAm275 false false 275
def hsAm282:Hints:=[⟨68,[false,true,false,false,false,true,false,false,false,false,false,false,false,false,false,false,false,false,true,true,true],[],[],[(1,([false,false,false,false,false,true],([],[])))]⟩,⟨68,[false,true,false,false,false,true,true,true,true,false,false,false,false,false,false,false,false,false,true,true,true,false,false,false,false,true,true,true],[],[],[(3,([false,true,false,false,false,true,true,false,true,false,false,false,false,false,false,false,false,false,true,true,true],([],[])))]⟩]
noncomputable def mfAm282:MFn:=mfD Tryz.prog entsC hsAm282 false false 282
def hsAm283:Hints:=[]
noncomputable def mfAm283:MFn:=mfD Tryz.prog entsC hsAm283 false false 283
def hsAm288:Hints:=[]
noncomputable def mfAm288:MFn:=mfD Tryz.prog entsC hsAm288 false false 288
def hsAm289:Hints:=[]
noncomputable def mfAm289:MFn:=mfD Tryz.prog entsC hsAm289 false false 289
def hsAm223:Hints:=[]
noncomputable def mfAm223:MFn:=mfD Tryz.prog entsC hsAm223 false false 223
def hsAm250:Hints:=[⟨36,[true,false,false,true,false,false,false,false,false,true,true,true],[],[],[(1,([true,false,false,true],([],[])))]⟩,⟨36,[false,false,false,false,false,false,true,false,false,false,false,false,false,false,false,false,false,false,false,false,false,false,false,false,false,true,true,true],[],[],[(3,([false,false,false,false,false,false,true],([],[])))]⟩]
noncomputable def mfAm250:MFn:=mfD Tryz.prog entsC hsAm250 false false 250
def hsAm172:Hints:=[]
noncomputable def mfAm172:MFn:=mfD Tryz.prog entsC hsAm172 false false 172
def hsAm171:Hints:=[]
noncomputable def mfAm171:MFn:=mfD Tryz.prog entsC hsAm171 false false 171
def hsAm222:Hints:=[]
noncomputable def mfAm222:MFn:=mfD Tryz.prog entsC hsAm222 false false 222
def hsAm113:Hints:=[]
noncomputable def mfAm113:MFn:=mfD Tryz.prog entsC hsAm113 false false 113
def hsAm175:Hints:=[]
noncomputable def mfAm175:MFn:=mfD Tryz.prog entsC hsAm175 false false 175
def hsAm225:Hints:=[]
noncomputable def mfAm225:MFn:=mfD Tryz.prog entsC hsAm225 false false 225
def hsAm176:Hints:=[⟨19,[false,false,false,true,false,false,true,true,true],[],[],[(1,([false,false,false,true],([],[])))]⟩]
noncomputable def mfAm176:MFn:=mfD Tryz.prog entsC hsAm176 false false 176
def hsAm174:Hints:=[]
noncomputable def mfAm174:MFn:=mfD Tryz.prog entsC hsAm174 false false 174
def hsAm114:Hints:=[]
noncomputable def mfAm114:MFn:=mfD Tryz.prog entsC hsAm114 false false 114
def hsAm115:Hints:=[]
noncomputable def mfAm115:MFn:=mfD Tryz.prog entsC hsAm115 false false 115
def hsAm130:Hints:=[]
noncomputable def mfAm130:MFn:=mfD Tryz.prog entsC hsAm130 false true 130
def hsAm190:Hints:=[]
noncomputable def mfAm190:MFn:=mfD Tryz.prog entsC hsAm190 false false 190
def hsAm191:Hints:=[]
noncomputable def mfAm191:MFn:=mfD Tryz.prog entsC hsAm191 false false 191
def hsAm233:Hints:=[]
noncomputable def mfAm233:MFn:=mfD Tryz.prog entsC hsAm233 false false 233
def hsAm254:Hints:=[]
noncomputable def mfAm254:MFn:=mfD Tryz.prog entsC hsAm254 false false 254
def hsAm270:Hints:=[]
noncomputable def mfAm270:MFn:=mfD Tryz.prog entsC hsAm270 false false 270
def hsAm278:Hints:=[]
noncomputable def mfAm278:MFn:=mfD Tryz.prog entsC hsAm278 false false 278
def hsAm284:Hints:=[]
noncomputable def mfAm284:MFn:=mfD Tryz.prog entsC hsAm284 false false 284
def hsAm285:Hints:=[]
noncomputable def mfAm285:MFn:=mfD Tryz.prog entsC hsAm285 false false 285
def hsAm277:Hints:=[⟨18,[false,false,false,true,false,false,true,true,true],[],[],[(0,([false,false,true],([],[]))),(1,([false,false,false,true],([],[])))]⟩]
noncomputable def mfAm277:MFn:=mfD Tryz.prog entsC hsAm277 false false 277
def hsAm286:Hints:=[⟨39,[true,true,true,false,false,false,false,false,false,false,false,true,true,true],[],[],[(0,([false,false,false,false,false,false,true],([],[]))),(1,([true,true],([],[])))]⟩]
noncomputable def mfAm286:MFn:=mfD Tryz.prog entsC hsAm286 false false 286
def hsAm279:Hints:=[]
noncomputable def mfAm279:MFn:=mfD Tryz.prog entsC hsAm279 false false 279
def hsAm255:Hints:=[⟨32,[false,true,true,false,false,false,false,false,false,false,false,false,false,false,false,true,true,true],[],[],[(0,([false,false,false,false,false,false,true],([],[]))),(1,([],([],[])))]⟩]
noncomputable def mfAm255:MFn:=mfD Tryz.prog entsC hsAm255 false false 255
def hsAm189:Hints:=[⟨19,[true,true,false,false,false,false,false,true,true],[],[],[(0,([false,false,false,false,true],([],[]))),(1,([],([],[])))]⟩]
noncomputable def mfAm189:MFn:=mfD Tryz.prog entsC hsAm189 false false 189
def hsAm38:Hints:=[]
noncomputable def mfAm38:MFn:=mfD Tryz.prog entsC hsAm38 false false 38
def hsAm80:Hints:=[⟨56,[false,true,false,true,false,false,false,false,true,true,true],[],[],[(1,([false,true,false,true],([],[])))]⟩]
noncomputable def mfAm80:MFn:=mfD Tryz.prog entsC hsAm80 false false 80
def hsAm137:Hints:=[]
noncomputable def mfAm137:MFn:=mfD Tryz.prog entsC hsAm137 false false 137
def hsAm47:Hints:=[]
noncomputable def mfAm47:MFn:=mfD Tryz.prog entsC hsAm47 false false 47
def hsAm90:Hints:=[]
noncomputable def mfAm90:MFn:=mfD Tryz.prog entsC hsAm90 false false 90
def hsAm138:Hints:=[]
noncomputable def mfAm138:MFn:=mfD Tryz.prog entsC hsAm138 false false 138
noncomputable def tabAm:List (Nat × MFn):=[(34,mfAm34),(36,mfAm36),(74,mfAm74),(132,mfAm132),(133,mfAm133),(46,mfAm46),(23,mfAm23),(59,mfAm59),(107,mfAm107),(60,mfAm60),(61,mfAm61),(45,mfAm45),(134,mfAm134),(194,mfAm194),(72,mfAm72),(129,mfAm129),(188,mfAm188),(232,mfAm232),(88,mfAm88),(27,mfAm27),(24,mfAm24),(62,mfAm62),(110,mfAm110),(111,mfAm111),(64,mfAm64),(65,mfAm65),(44,mfAm44),(84,mfAm84),(146,mfAm146),(200,mfAm200),(204,mfAm204),(145,mfAm145),(85,mfAm85),(147,mfAm147),(201,mfAm201),(241,mfAm241),(148,mfAm148),(202,mfAm202),(203,mfAm203),(86,mfAm86),(87,mfAm87),(149,mfAm149),(150,mfAm150),(205,mfAm205),(89,mfAm89),(152,mfAm152),(206,mfAm206),(242,mfAm242),(243,mfAm243),(260,mfAm260),(273,mfAm273),(153,mfAm153),(154,mfAm154),(207,mfAm207),(155,mfAm155),(156,mfAm156),(208,mfAm208),(157,mfAm157),(158,mfAm158),(209,mfAm209),(112,mfAm112),(170,mfAm170),(173,mfAm173),(224,mfAm224),(251,mfAm251),(264,mfAm264),(275,mfAm275),(282,mfAm282),(283,mfAm283),(288,mfAm288),(289,mfAm289),(223,mfAm223),(250,mfAm250),(172,mfAm172),(171,mfAm171),(222,mfAm222),(113,mfAm113),(175,mfAm175),(225,mfAm225),(176,mfAm176),(174,mfAm174),(114,mfAm114),(115,mfAm115),(130,mfAm130),(190,mfAm190),(191,mfAm191),(233,mfAm233),(254,mfAm254),(270,mfAm270),(278,mfAm278),(284,mfAm284),(285,mfAm285),(277,mfAm277),(286,mfAm286),(279,mfAm279),(255,mfAm255),(189,mfAm189),(38,mfAm38),(80,mfAm80),(137,mfAm137),(47,mfAm47),(90,mfAm90),(138,mfAm138)]
end Go.Proofs.YtlmhajfbpplpoaaGreat
