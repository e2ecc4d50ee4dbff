/- slices.Clone over this seat's element types. slice -/
import Derived.Maps.AppendAt
import Derived.Test.YtlmhajfbpplpoaaGreatSAV
import Derived.Test.YtlmhajfbpplpoaaGreatSAB
import Derived.Test.YtlmhajfbpplpoaaGreatSAX
import Derived.Test.YtlmhajfbpplpoaaGreatSAS
import Derived.Lib.AppendZeros
set_option linter.unusedSectionVars false
set_option linter.unusedSimpArgs false
set_option linter.unusedVariables false
namespace Go.Proofs.YtlmhajfbpplpoaaGreat
open Go.RowKit
theorem Oy(a:Addr)(j:Nat):(a.add j).block=a.block:=by unfold Addr.add;split<;>rfl
set_option maxRecDepth 100000 in
set_option maxHeartbeats 4000000 in
theorem Tj(w:World)(A:Option Addr)(n c:Nat)(us:List Value)(hn:us.length=n*3)(hc:n<=c)(hA:n≠0->∃ g o,A=some ⟨g,o,none⟩/\∀ j u,us[j]? = some u->w.cell? ⟨g,o+j,none⟩=some u)
  (h1:∀ u∈us,u.oneCell'=true) (hby:n*40<=140737488355328) :
  Calls Tryz.prog 151 #[.slice A n c] w fun e w'=>∃ v',e=.returned v'/\w'.ownsRow w.heap.size 154 3 v' n us/\Below w.heap.size w w':=by
 obtain⟨i0,hi0,hz0,hz1,hz2⟩:=info_parts (show (Tryz.prog.info? 154).map (fun i=>(i.zero,i.size,i.bytes))=some (some (.agg #[.int .i64 0,.bool false,.slice none 0 0]),3,40) by kernel_rfl)
 have HU:=Lib.hid hn
 have HA:=Lib.hid hA
 have H1:=Lib.hid h1
 clear hn hA h1
 have hq:∀(w:World) (a:Option Addr) (n c:Nat),(binOp .eql 50 (.slice a n c) (.slice none 0 0)).run Tryz.prog w=.ok (.bool a.isNone) w:=fun w a n c=>Lib.run_eql_slice_nil w _ _ a n c 0 0 Tryz.underlying50
 go_enter Tryz.func151,Tryz.ntmps151
 cases A with
 |none=>
  have h0:n=0:=by
   rcases Nat.eq_zero_or_pos n with h|h
   .exact h
   .exfalso
    obtain⟨g,o,h2,_⟩:=HA.out (Nat.ne_of_gt h)
    cases h2
  subst h0
  go_wp2
  go_ret
  have hu:us=[]:=List.eq_nil_of_length_eq_zero (by rw[HU.out,Nat.zero_mul])
  rw[hu]
  exact⟨_,rfl,World.ownsRow_nil _ _ _ _,Below.refl _ _⟩
 |some ad=>
  obtain⟨ag,ao,asp⟩:=ad
  have hcells:∀ j u,us[j]? = some u->ag<w.heap.size/\w.cell? ((⟨ag,ao,asp⟩:Addr).add j)=some u:=fun j u hj=>by
   have hn0:n≠0:=by
    rintro rfl
    have hu:us=[]:=List.eq_nil_of_length_eq_zero (by rw[HU.out,Nat.zero_mul])
    rw[hu]at hj
    cases hj
   obtain⟨g,o,h2,h3⟩:=HA.out hn0
   cases h2
   have h5:=h3 j u hj
   exact⟨Dt h5,by rw[ES];exact h5⟩
  have HC:=Lib.hid hcells
  clear hcells
  go_wp2_with (at_builtin;refine wpList_append_own_at _ rfl _ _ 50 rfl w.heap.size 154 i0 (.agg #[.int .i64 0,.bool false,.slice none 0 0]) 3 40 Tryz.underlying50 hi0 hz0 hz1 hz2 rfl (by decide) _ 0 [] rfl ?c0 ⟨ag,ao,asp⟩ n c us rfl HU.out ?c1 H1.out ?c3 ?c4 ?c5 ?_)
  case c0=>exact⟨by simp,.inr ⟨w.heap.size,0,#[],rfl,Nat.le_refl _,heap_alloc_new _ _,Nat.le_refl _,Nat.zero_le _,by simp,by simp⟩⟩
  case c1=>
   intro j u hj
   have:=HC.out j u hj
   exact((Bi w (.cells #[] 154)).cell (p:=(⟨ag,ao,asp⟩:Addr).add j) (by rw[Oy];exact this.1)).trans this.2
  case c3=>unfold maxLen;omega
  case c4=>omega
  case c5=>exact(Bi w _).size
  intro v' w3 hown hgrow _ _
  try simp only[Nat.zero_add,List.nil_append]at hown
  have HO:=Lib.hid hown
  have HB:=Lib.hid ((Bi w (.cells #[] 154)).grown hgrow (Bi w _).size (fun k hk=>by have hk:some w.heap.size=some k:=hk;cases hk;exact Nat.le_refl _))
  clear hown hgrow
  go_wp2_with fail
  go_ret
  exact⟨_,rfl,HO.out,HB.out⟩
set_option maxRecDepth 100000 in
set_option maxHeartbeats 4000000 in
theorem Th(w:World)(A:Option Addr)(n c:Nat)(us:List Value)(hn:us.length=n*1)(hc:n<=c)(hA:n≠0->∃ g o,A=some ⟨g,o,none⟩/\∀ j u,us[j]? = some u->w.cell? ⟨g,o+j,none⟩=some u)
  (h1:∀ u∈us,u.oneCell'=true) (hby:n*4<=140737488355328) :
  Calls Tryz.prog 240 #[.slice A n c] w fun e w'=>∃ v',e=.returned v'/\w'.ownsRow w.heap.size 230 1 v' n us/\Below w.heap.size w w':=by
 obtain⟨i0,hi0,hz0,hz1,hz2⟩:=info_parts (show (Tryz.prog.info? 230).map (fun i=>(i.zero,i.size,i.bytes))=some (some (.int .u32 0),1,4) by kernel_rfl)
 have HU:=Lib.hid hn
 have HA:=Lib.hid hA
 have H1:=Lib.hid h1
 clear hn hA h1
 have hq:∀(w:World) (a:Option Addr) (n c:Nat),(binOp .eql 52 (.slice a n c) (.slice none 0 0)).run Tryz.prog w=.ok (.bool a.isNone) w:=fun w a n c=>Lib.run_eql_slice_nil w _ _ a n c 0 0 Tryz.underlying52
 go_enter Tryz.func240,Tryz.ntmps240
 cases A with
 |none=>
  have h0:n=0:=by
   rcases Nat.eq_zero_or_pos n with h|h
   .exact h
   .exfalso
    obtain⟨g,o,h2,_⟩:=HA.out (Nat.ne_of_gt h)
    cases h2
  subst h0
  go_wp2
  go_ret
  have hu:us=[]:=List.eq_nil_of_length_eq_zero (by rw[HU.out,Nat.zero_mul])
  rw[hu]
  exact⟨_,rfl,World.ownsRow_nil _ _ _ _,Below.refl _ _⟩
 |some ad=>
  obtain⟨ag,ao,asp⟩:=ad
  have hcells:∀ j u,us[j]? = some u->ag<w.heap.size/\w.cell? ((⟨ag,ao,asp⟩:Addr).add j)=some u:=fun j u hj=>by
   have hn0:n≠0:=by
    rintro rfl
    have hu:us=[]:=List.eq_nil_of_length_eq_zero (by rw[HU.out,Nat.zero_mul])
    rw[hu]at hj
    cases hj
   obtain⟨g,o,h2,h3⟩:=HA.out hn0
   cases h2
   have h5:=h3 j u hj
   exact⟨Dt h5,by rw[ES];exact h5⟩
  have HC:=Lib.hid hcells
  clear hcells
  go_wp2_with (at_builtin;refine wpList_append_own_at _ rfl _ _ 52 rfl w.heap.size 230 i0 (.int .u32 0) 1 4 Tryz.underlying52 hi0 hz0 hz1 hz2 rfl (by decide) _ 0 [] rfl ?c0 ⟨ag,ao,asp⟩ n c us rfl HU.out ?c1 H1.out ?c3 ?c4 ?c5 ?_)
  case c0=>exact⟨by simp,.inr ⟨w.heap.size,0,#[],rfl,Nat.le_refl _,heap_alloc_new _ _,Nat.le_refl _,Nat.zero_le _,by simp,by simp⟩⟩
  case c1=>
   intro j u hj
   have:=HC.out j u hj
   exact((Bi w (.cells #[] 230)).cell (p:=(⟨ag,ao,asp⟩:Addr).add j) (by rw[Oy];exact this.1)).trans this.2
  case c3=>unfold maxLen;omega
  case c4=>omega
  case c5=>exact(Bi w _).size
  intro v' w3 hown hgrow _ _
  try simp only[Nat.zero_add,List.nil_append]at hown
  have HO:=Lib.hid hown
  have HB:=Lib.hid ((Bi w (.cells #[] 230)).grown hgrow (Bi w _).size (fun k hk=>by have hk:some w.heap.size=some k:=hk;cases hk;exact Nat.le_refl _))
  clear hown hgrow
  go_wp2_with fail
  go_ret
  exact⟨_,rfl,HO.out,HB.out⟩
section
variable {μ:Mu} {F:AT} {w:World} {g:Nat}
theorem UG:∀(xs:List AV) (o:Nat),RepAt μ F w g xs o->∃ us,RepList μ F w xs us/\∀ j u,us[j]? = some u->w.cell? ⟨g,o+j,none⟩=some u
 |[],o,_=>⟨[],rfl,fun j u h=>by simp at h⟩
 |x::r,o,h=>by
  simp only[RepAt]at h
  obtain⟨⟨_,u,h2,h3⟩,h4⟩:=h
  obtain⟨us,h5,h6⟩:=UG r (o+1) h4
  refine⟨u::us,⟨u,us,rfl,h3,h5⟩,fun j v hj=>?_⟩
  cases j with
  |zero=>simp at hj;subst hj;exact h2
  |succ j=>
   have:=h6 j v (by simpa using hj)
   rwa [show o+1+j=o+(j+1) by omega]at this
theorem Pk{e:Nat}:∀(xs:List (List AV)) (o:Nat),RepRows μ F w g e xs o->∃ us,RepList μ F w xs.flatten us/\∀ j u,us[j]? = some u->w.cell? ⟨g,o+j,none⟩=some u
 |[],o,_=>⟨[],rfl,fun j u h=>by simp at h⟩
 |x::r,o,h=>by
  simp only[RepRows]at h
  obtain⟨h1,h2,h3⟩:=h
  obtain⟨us,a1,a2⟩:=UG x o h2
  obtain⟨vs,b1,b2⟩:=Pk r (o+e) h3
  refine⟨us++vs,by rw[List.flatten_cons];exact RepList.append a1 b1,fun j v hj=>?_⟩
  have hl:us.length=e:=by rw[a1.length,h1]
  by_cases hj2:j<us.length
  .exact a2 j v (by rwa [List.getElem?_append_left hj2]at hj)
  .rw[List.getElem?_append_right (by omega),hl]at hj
   have:=b2 (j-e) v hj
   rwa [show o+e+(j-e)=o+j by omega]at this
end
def Ch(e B:Nat):List AV->Option (Nat × List AV)
 |[.ls xs]=>if(Gi e xs&&JP (Iz xs)&&A8 (Iz xs)&&Nat.ble (Be xs*B) 140737488355328)=true then some (Be xs,Iz xs) else none
 |_=>none
theorem MK{P:Program}{f:Nat}{ety:TypeId}(e B:Nat) (h:∀(w:World) (A:Option Addr) (n c:Nat) (us:List Value),us.length=n*e->n<=c->(n≠0->∃ g o,A=some ⟨g,o,none⟩/\∀ j u,us[j]? = some u->w.cell? ⟨g,o+j,none⟩=some u)->
  (∀ u∈us,u.oneCell'=true)->n*B<=140737488355328->Calls P f #[.slice A n c] w fun e' w'=>∃ v',e'=.returned v'/\w'.ownsRow w.heap.size ety e v' n us/\Below w.heap.size w w'):BC (BZ P f) (Fh e (Ch e B)):=by
 refine OT (CO P f) e _ fun args n cells hr=>?_
 unfold Ch at hr
 split at hr
 .rename_i xs
  split at hr
  .rename_i hc
   simp only[Bool.and_eq_true,Nat.ble_eq]at hc
   obtain⟨⟨⟨c1,c2⟩,c3⟩,c4⟩:=hc
   rw[H8]at c1
   rw[Jv]at c2 c3
   rw[GB]at c4
   simp only[Option.some.injEq,Prod.mk.injEq]at hr
   obtain⟨rfl,rfl⟩:=hr
   rw[GB,Jv]
   have hlen:xs.flatten.length=xs.length*e:=by
    clear c2 c3 c4
    induction xs with
    |nil=>simp
    |cons x r ih=>
     rw[List.all_cons,Bool.and_eq_true]at c1
     rw[List.flatten_cons,List.length_append,ih c1.2,List.length_cons,Nat.add_mul,Nat.one_mul]
     have:x.length=e:=by simpa using c1.1
     omega
   refine⟨c3,hlen,fun μ F w us hF hus=>?_⟩
   obtain⟨v,t,rfl,hv,ht⟩:=hus
   have ht:t=[]:=ht
   subst ht
   unfold Rep at hv
   obtain⟨_,A,c,rfl,h2,_,h4⟩:=hv
   have key:∃ vs,RepList μ F w xs.flatten vs/\(xs.length≠0->∃ g o,A=some ⟨g,o,none⟩/\∀ j u,vs[j]? = some u->w.cell? ⟨g,o+j,none⟩=some u):=by
    by_cases hx:xs=[]
    .subst hx
     exact⟨[],rfl,fun h=>absurd rfl h⟩
    .obtain⟨g,o,e',hA,hr⟩:=h4 hx
     obtain⟨vs,k1,k2⟩:=Pk xs o hr
     exact⟨vs,k1,fun _=>⟨g,o,hA,k2⟩⟩
   obtain⟨vs,k1,k2⟩:=key
   have hone:∀ u∈vs,u.oneCell'=true:=fun u hu=>by
    obtain⟨j,hj,rfl⟩:=List.getElem_of_mem hu
    have hj2:j<xs.flatten.length:=by rw[←k1.length];exact hj
    obtain⟨u,a1,a2⟩:=k1.get (List.getElem?_eq_getElem hj2)
    rw[List.getElem?_eq_getElem hj]at a1
    cases a1
    rw[Il]at c2
    exact a2.one (List.all_eq_true.1 c2 _ (List.getElem_mem hj2))
   refine Calls.mono (h w A xs.length c vs (by rw[k1.length,hlen]) h2 k2 hone c4) ?_
   rintro e' w' ⟨v',rfl,ho,hb⟩
   exact⟨v',rfl,ety,vs,ho,hb,k1⟩
  .cases hr
 .cases hr
theorem V9:BC (BZ Tryz.prog 240) (Fh 1 (Ch 1 4)):=MK 1 4 fun w A n c us h1 h2 h3 h4 h5=>Th w A n c us h1 h2 h3 h4 h5
theorem Tn:BC (BZ Tryz.prog 151) (Fh 3 (Ch 3 40)):=MK 3 40 fun w A n c us h1 h2 h3 h4 h5=>Tj w A n c us h1 h2 h3 h4 h5
set_option maxRecDepth 100000 in
set_option maxHeartbeats 4000000 in
theorem Wn(w:World)(n:Nat)(hby:n*40<=140737488355328) :
  Calls Tryz.prog 263 #[.slice none 0 0,.int .i64 n] w fun e w'=>∃ v',e=.returned v'/\w'.ownsRow w.heap.size 154 3 v' 0 []/\Below w.heap.size w w':=by
 have y0:¬ (n:Int)<0:=by omega
 go_enter Tryz.func263,Tryz.ntmps263
 by_cases h0:n=0
 .subst h0
  go_wp2
  go_ret
  exact⟨_,rfl,World.ownsRow_nil _ _ _ _,Below.refl _ _⟩
 .have y1:(0:Int)<(n:Int):=by omega
  obtain⟨i0,hi0,hz0,hz1,hz2⟩:=info_parts (show (Tryz.prog.info? 154).map (fun i=>(i.zero,i.size,i.bytes))=some (some (.agg #[.int .i64 0,.bool false,.slice none 0 0]),3,40) by kernel_rfl)
  have hr:=fun ty=>Lib.run_append_nil_zeros (P:=Tryz.prog) w 50 3 ty 154 i0 _ .i64 .i64 Tryz.underlying50 Tryz.underlying3 hi0 hz0 n (by omega) (by rw[hz1];decide) (by omega) (by rw[hz2];omega)
  have c1:=grownCap_ge w n 0 154
  have c2:=grownCap_le_maxLen w n 0 154 (by unfold maxLen;omega)
  have HR:=Lib.hid hr
  clear hr
  generalize grownCap w n 0 154=cap at *
  go_wp2_with (at_builtin;refine Lib.wpList_append_run _ rfl _ _ _ _ rfl _ _ rfl rfl _ _ (HR.out _) ?_)
  go_wp2_with fail
  go_ret
  refine⟨_,rfl,⟨by simp,.inr ⟨w.heap.size,cap,_,rfl,Nat.le_refl _,heap_alloc_new _ _,Nat.zero_le _,c2,?_,by simp⟩⟩,?_⟩
  .rw[Array.size_append,size_zeroCells,size_zeroCells]
   show n*3+(cap-n)*3=cap*3
   omega
  .exact(IT (Below.refl _ _)).alloc (Nat.le_refl _) _
def GI(B:Nat):List AV->Option (Nat × List AV)
 |[.v (.slice none 0 0),.v (.int .i64 (.ofNat n))]=>if Nat.ble (n*B) 140737488355328=true then some (0,[]) else none
 |_=>none
theorem Wo:BC (BZ Tryz.prog 263) (Fh 3 (GI 40)):=by
 refine OT (CO _ _) 3 _ fun args n cells hr=>?_
 unfold GI at hr
 split at hr
 .rename_i k
  split at hr
  .rename_i hk
   simp only[Option.some.injEq,Prod.mk.injEq]at hr
   obtain⟨rfl,rfl⟩:=hr
   refine⟨rfl,rfl,fun μ F w us hF hus=>?_⟩
   obtain⟨u,t,rfl,hu,u2,t2,rfl,hu2,ht⟩:=hus
   have ht:t2=[]:=ht
   subst ht
   unfold Rep at hu hu2
   rw[hu.1,hu2.1]
   refine Calls.mono (Wn w k (Nat.le_of_ble_eq_true hk)) ?_
   rintro e' w' ⟨v',rfl,ho,hb⟩
   exact⟨v',rfl,_,[],ho,hb,rfl⟩
  .cases hr
 .cases hr
def AkO:List (Nat × Nat):=[(152,0),(206,0),(242,0),(243,0),(260,0),(273,0),(156,0),(208,0),(263,0)]
def Agb:Am:=[]
noncomputable def AgM:MFn:=Bj Tryz.prog Ah Agb false false 17
def Agk:Am:=[]
noncomputable def AgV:MFn:=Bj Tryz.prog Ah Agk false false 53
def Agt:Am:=[]
noncomputable def Ag4:MFn:=Bj Tryz.prog Ah Agt false true 92
def Agl:Am:=[]
noncomputable def AgW:MFn:=Bj Tryz.prog Ah Agl false true 54
def AbR:Am:=[]
noncomputable def Acm:MFn:=Bj Tryz.prog Ah AbR false true 104
def AbY:Am:=[]
noncomputable def Acu:MFn:=Bj Tryz.prog Ah AbY false true 165
def Ab0:Am:=[]
noncomputable def Acw:MFn:=Bj Tryz.prog Ah Ab0 false true 220
def Agx:Am:=[]
noncomputable def Ag8:MFn:=Bj Tryz.prog Ah Agx false true 96
def Agu:Am:=[]
noncomputable def Ag5:MFn:=Bj Tryz.prog Ah Agu false true 93
def Ab1:Am:=[]
noncomputable def Acx:MFn:=Bj Tryz.prog Ah Ab1 false true 248
def Ab2:Am:=[]
noncomputable def Acy:MFn:=Bj Tryz.prog Ah Ab2 false true 249
def Agj:Am:=[⟨41,[true,false,false,false,true,true],[],[],[(0,([true,false,true,true],([],[])))]⟩]
noncomputable def AgU:MFn:=Bj Tryz.prog Ah Agj false true 49
def Agv:Am:=[]
noncomputable def Ag6:MFn:=Bj Tryz.prog Ah Agv false true 94
def AbV:Am:=[]
noncomputable def Acq:MFn:=Bj Tryz.prog Ah AbV false true 162
def Agw:Am:=[]
noncomputable def Ag7:MFn:=Bj Tryz.prog Ah Agw false true 95
def AbW:Am:=[]
noncomputable def Acr:MFn:=Bj Tryz.prog Ah AbW false true 163
def AbZ:Am:=[]
noncomputable def Acv:MFn:=Bj Tryz.prog Ah AbZ false false 219
def Agr:Am:=[⟨19,[true,true,false,false,false,false,false,true,true],[],[],[(0,([false,false,false,false,true],([],[]))),(1,([],([],[])))]⟩]
noncomputable def Ag2:MFn:=Bj Tryz.prog Ah Agr false false 88
def Ags:Am:=[]
noncomputable def Ag3:MFn:=Bj Tryz.prog Ah Ags false false 90
def Ab3:Am:=[⟨19,[true,true,false,false,false,false,false,true,true],[],[],[(0,([false,false,false,false,true],([],[]))),(1,([],([],[])))]⟩]
noncomputable def Acz:MFn:=Bj Tryz.prog Ah Ab3 false false 262
def AbX:Am:=[⟨46,[true,true,true,true,true,false,false,false,false,false,true,false,true,true],[],[],[(1,([true,false,false,false,false,false,false,false,false,false,true,false,true,true],([],[])))]⟩]
noncomputable def Acs:MFn:=Bj Tryz.prog Ah AbX false true 164
def Aga:Am:=[]
noncomputable def AgL:MFn:=Bj Tryz.prog Ah Aga false false 15
def Agi:Am:=[]
noncomputable def AgT:MFn:=Bj Tryz.prog Ah Agi false false 48
def Age:Am:=[]
noncomputable def AgP:MFn:=Bj Tryz.prog Ah Age false false 25
def Agd:Am:=[]
noncomputable def AgO:MFn:=Bj Tryz.prog Ah Agd false false 24
def Agp:Am:=[⟨59,[false,true,true,false,false,false,false,false,false,false,false,false,false,false,false,false,false,false,false,false,false,false,false,false,false,false,false,false,false,false,false,false,false,false,false,true,true,true],[],[],[(0,([false,false,false,false,true],([],[]))),(1,([],([],[])))]⟩]
noncomputable def Ag0:MFn:=Bj Tryz.prog Ah Agp false false 62
def Agg:Am:=[]
noncomputable def AgR:MFn:=Bj Tryz.prog Ah Agg false false 46
def Agc:Am:=[]
noncomputable def AgN:MFn:=Bj Tryz.prog Ah Agc false false 23
def Agm:Am:=[]
noncomputable def AgX:MFn:=Bj Tryz.prog Ah Agm false false 59
def AbS:Am:=[⟨19,[true,true,false,false,false,false,false,true,true],[],[],[(0,([false,false,false,false,true],([],[]))),(1,([],([],[])))]⟩]
noncomputable def Acn:MFn:=Bj Tryz.prog Ah AbS false false 107
def Agn:Am:=[]
noncomputable def AgY:MFn:=Bj Tryz.prog Ah Agn false false 60
def Ago:Am:=[]
noncomputable def AgZ:MFn:=Bj Tryz.prog Ah Ago false false 61
def Agf:Am:=[]
noncomputable def AgQ:MFn:=Bj Tryz.prog Ah Agf false false 45
def AbT:Am:=[]
noncomputable def Aco:MFn:=Bj Tryz.prog Ah AbT false false 110
def AbU:Am:=[]
noncomputable def Acp:MFn:=Bj Tryz.prog Ah AbU false false 111
def Agq:Am:=[⟨64,[false,true,false,true,false,false,false,false,true,true,true],[],[],[(1,([false,true,false,true],([],[])))]⟩]
noncomputable def Ag1:MFn:=Bj Tryz.prog Ah Agq false false 63
def Agh:Am:=[]
noncomputable def AgS:MFn:=Bj Tryz.prog Ah Agh false false 47
noncomputable def Afq:List (Nat × MFn):=[(17,AgM),(53,AgV),(92,Ag4),(54,AgW),(104,Acm),(165,Acu),(220,Acw),(96,Ag8),(93,Ag5),(248,Acx),(249,Acy),(49,AgU),(94,Ag6),(162,Acq),(95,Ag7),(163,Acr),(219,Acv),(88,Ag2),(90,Ag3),(262,Acz),(164,Acs),(15,AgL),(48,AgT),(25,AgP),(24,AgO),(62,Ag0),(46,AgR),(23,AgN),(59,AgX),(107,Acn),(60,AgY),(61,AgZ),(45,AgQ),(110,Aco),(111,Acp),(63,Ag1),(47,AgS)]
end Go.Proofs.YtlmhajfbpplpoaaGreat
