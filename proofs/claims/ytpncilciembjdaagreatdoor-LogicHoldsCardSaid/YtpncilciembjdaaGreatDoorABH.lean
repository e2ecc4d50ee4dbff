/-
  term.Text's answers on what a closed run reaches.
  slices.Grow of nil over this seat's element types.
  strings.Join as an answer of D.
  Functions of the program as trees: what a call comes to.
-/
import Derived.Test.YtpncilciembjdaaGreatDoorAAZ
import Derived.Test.YtpncilciembjdaaGreatDoorABG
import Derived.Lib.AppendZeros
import Derived.Test.YtpncilciembjdaaGreatDoorABD
import Derived.Test.YtpncilciembjdaaGreatDoorAAY
import Derived.Test.YtpncilciembjdaaGreatDoorAAO
import Derived.Test.YtpncilciembjdaaGreatDoorAAX
set_option linter.unusedSectionVars false
set_option linter.unusedSimpArgs false
set_option linter.unusedVariables false
namespace Go.Proofs.YtpncilciembjdaaGreatDoor
open Go.RowKit
theorem gAx(f:Nat):GoodD (SemFn Tryz.prog f) ((Dn realA seatAx 60).ask (.fn f)):=(dn_good (seatAx_ok clone_nat clone_part grow_part) 60).1 f
noncomputable def dqAx(f:Nat):DF:=(Dn realA seatAx 60).ask (.fn f)
theorem textAx_good:GoodD (SemFn Tryz.prog 130) (extD (resText dqAx)):=text_good dqAx gAx
end Go.Proofs.YtpncilciembjdaaGreatDoor
namespace Go.Proofs.YtpncilciembjdaaGreatDoor
open Go.RowKit
set_option maxRecDepth 100000 in
set_option maxHeartbeats 4000000 in
theorem growR_any(w:World)(n:Nat)(hby:n*64<=140737488355328) :
  Calls Tryz.prog 261 #[.slice none 0 0,.int .i64 n] w fun e w'=>∃ v',e=.returned v'/\w'.ownsRow w.heap.size 30 4 v' 0 []/\Below w.heap.size w w':=by
 have y0:¬ (n:Int)<0:=by omega
 go_enter Tryz.func261,Tryz.ntmps261
 by_cases h0:n=0
 .subst h0
  go_wp2
  go_ret
  exact⟨_,rfl,World.ownsRow_nil _ _ _ _,Below.refl _ _⟩
 .have y1:(0:Int)<(n:Int):=by omega
  obtain⟨i0,hi0,hz0,hz1,hz2⟩:=info_parts (show (Tryz.prog.info? 30).map (fun i=>(i.zero,i.size,i.bytes))=some (some (.agg #[.slice none 0 0,.bool false,.slice none 0 0,.bool false]),4,64) by kernel_rfl)
  have hr:=fun ty=>Lib.run_append_nil_zeros (P:=Tryz.prog) w 33 3 ty 30 i0 _ .i64 .i64 Tryz.underlying33 Tryz.underlying3 hi0 hz0 n (by omega) (by rw[hz1];decide) (by omega) (by rw[hz2];omega)
  have c1:=grownCap_ge w n 0 30
  have c2:=grownCap_le_maxLen w n 0 30 (by unfold maxLen;omega)
  have HR:=Lib.hid hr
  clear hr
  generalize grownCap w n 0 30=cap at *
  go_wp2_with (at_builtin;refine Lib.wpList_append_run _ rfl _ _ _ _ rfl _ _ rfl rfl _ _ (HR.out _) ?_)
  go_wp2_with fail
  go_ret
  refine⟨_,rfl,⟨by simp,.inr ⟨w.heap.size,cap,_,rfl,Nat.le_refl _,heap_alloc_new _ _,Nat.zero_le _,c2,?_,by simp⟩⟩,?_⟩
  .rw[Array.size_append,size_zeroCells,size_zeroCells]
   show n*4+(cap-n)*4=cap*4
   omega
  .exact(below_drew (Below.refl _ _)).alloc (Nat.le_refl _) _
theorem grow_rel:GoodD (SemFn Tryz.prog 261) (ownD 4 (resGrow 64)):=by
 refine goodD_own (semFn_mono _ _) 4 _ fun args n cells hr=>?_
 unfold resGrow at hr
 split at hr
 .rename_i k
  split at hr
  .rename_i hk
   simp only[Option.some.injEq,Prod.mk.injEq]at hr
   obtain⟨rfl,rfl⟩:=hr
   refine⟨rfl,rfl,fun μ F w us hF hus=>?_⟩
   obtain⟨u,t,rfl,hu,u2,t2,rfl,hu2,ht⟩:=hus
   have ht:t2=[]:=ht
   subst ht
   unfold Rep at hu hu2
   rw[hu.1,hu2.1]
   refine Calls.mono (growR_any w k (Nat.le_of_ble_eq_true hk)) ?_
   rintro e' w' ⟨v',rfl,ho,hb⟩
   exact⟨v',rfl,_,[],ho,hb,rfl⟩
  .cases hr
 .cases hr
end Go.Proofs.YtpncilciembjdaaGreatDoor
namespace Go.Proofs.YtpncilciembjdaaGreatDoor
open Go.RowKit

def strsO:List (List AV)->Option (List (List UInt8))
 |[]=>some []
 |[.v (.string s)]::r=>(match strsO r with
  |some l=>some (s.data.toList::l)
  |none=>none)
 |_::_=>none
theorem strsO_some:∀{xs:List (List AV)} {l:List (List UInt8)},strsO xs=some l->xs=l.map fun t=>[sv (bstr t)]
 |[],l,h=>by injection h with h;subst h;rfl
 |x::r,l,h=>by
  unfold strsO at h
  split at h
  .rename_i e;cases e
  .rename_i s r' e
   cases hr:strsO r' with
   |none=>rw[hr]at h;cases h
   |some l'=>
    rw[hr]at h
    injection h with h
    injection e with e1 e2
    subst h e1 e2
    rw[strsO_some hr]
    rfl
  .cases h
def resJoin:List AV->Option AV
 |[.ls xs,.v (.string sep)]=>(match strsO xs with
  |some ts=>(match Nat.ble ts.length 140737488355328&&Nat.ble (Lib.join ts sep.data.toList).length 140737488355328 with
   |true=>some (sv (bstr (Lib.join ts sep.data.toList)))
   |false=>none)
  |none=>none)
 |_=>none
theorem join_good:GoodD (SemFn Tryz.prog 167) (extD resJoin):=by
 refine goodD_of (semFn_mono _ _) _ fun args r hr μ F w us hus=>?_
 unfold resJoin at hr
 split at hr
 .rename_i xs sep
  split at hr
  .rename_i ts ht
   split at hr
   .rename_i hc
    injection hr with hr
    subst hr
    simp only[Bool.and_eq_true,Nat.ble_eq]at hc
    simp only[RepList]at hus
    obtain⟨u,ul,rfl,hu,u2,ul2,rfl,hu2,rfl⟩:=hus
    simp only[Rep]at hu hu2
    obtain⟨rfl,_⟩:=hu2
    obtain⟨_,A,c,rfl,h2,h3,h4⟩:=hu
    have hx:=strsO_some ht
    have fin:∀ w',Below w.heap.size w w'->Rep μ (newF F w w') w' (sv (bstr (Lib.join ts sep.data.toList))) (.string ⟨(Lib.join ts sep.data.toList).toArray⟩):=fun w' hb=>by
     unfold sv bstr
     simp only[Rep]
     exact⟨trivial,rfl⟩
    cases ts with
    |nil=>
     subst hx
     refine Calls.mono (Tryz.strings_Join_none A c sep w) ?_
     rintro e w' ⟨rfl,rfl⟩
     exact⟨_,rfl,Below.refl _ _,fin _ (Below.refl _ _)⟩
    |cons t ts=>
     obtain⟨g,o,e,rfl,hr⟩:=h4 (by rw[hx];simp)
     have he:e=1:=by
      have:=(hr.get (i:=0) (x:=[sv (bstr t)]) (by rw[hx];rfl)).1
      simpa using this.symm
     subst he
     have hl:xs.length=((t::ts).map bstr).length:=by rw[hx,List.length_map,List.length_map]
     have hcell:∀(j:Nat) x,((t::ts).map bstr)[j]? = some x->w.cell? ⟨g,o+j,none⟩=some (.string x):=fun j x hj=>by
      rw[List.getElem?_map]at hj
      obtain⟨s,hs,rfl⟩:=Option.map_eq_some_iff.1 hj
      have hg:=hr.get (i:=j) (x:=[sv (bstr s)]) (by rw[hx,List.getElem?_map,hs];rfl)
      obtain⟨_,v,h5,h6⟩:=hg.2.get (i:=0) (x:=sv (bstr s)) rfl
      unfold sv at h6
      simp only[Rep]at h6
      rw[h6.1]at h5
      rw[Nat.mul_one,Nat.add_zero]at h5
      exact h5
     have hm:(((t::ts).map bstr).map (·.data.toList))=t::ts:=by
      rw[List.map_map]
      exact List.map_id' _ |>.symm▸(List.map_congr_left fun x _=>by simp[bstr])
     have hj:=Tryz.strings_Join g o c ((t::ts).map bstr) sep w hcell (heap_lt (hcell 0 (bstr t) rfl)) (by rw[List.length_map];exact hc.1) (by rw[←hl];exact h2) (by rw[hm];exact hc.2)
     rw[hm,←hl]at hj
     refine Calls.mono hj ?_
     rintro e w' ⟨rfl,hb⟩
     exact⟨_,rfl,hb,fin _ hb⟩
   .cases hr
  .cases hr
 .cases hr
end Go.Proofs.YtpncilciembjdaaGreatDoor
namespace Go.Proofs.YtpncilciembjdaaGreatDoor
open Go.RowKit
def ownAu:List (Nat × Nat):=[(136,0),(196,0),(234,0),(235,0),(265,0),(275,0),(140,0),(199,0),(262,0),(264,0),(62,0),(67,0),(135,0),(261,0),(168,0),(226,0),(252,0),(169,0)]
def hsAu54:Hints:=[]
noncomputable def mfAu54:MFn:=mfD Tryz.prog entsC hsAu54 false false 54
def hsAu126:Hints:=[]
noncomputable def mfAu126:MFn:=mfD Tryz.prog entsC hsAu126 false false 126
def hsAu184:Hints:=[]
noncomputable def mfAu184:MFn:=mfD Tryz.prog entsC hsAu184 false false 184
def hsAu202:Hints:=[]
noncomputable def mfAu202:MFn:=mfD Tryz.prog entsC hsAu202 false false 202
def hsAu200:Hints:=[⟨21,[true,false,false,true],[],[],[(1,([true,false,false,true],([],[])))]⟩]
noncomputable def mfAu200:MFn:=mfD Tryz.prog entsC hsAu200 false false 200
def hsAu145:Hints:=[]
noncomputable def mfAu145:MFn:=mfD Tryz.prog entsC hsAu145 false false 145
def hsAu125:Hints:=[]
noncomputable def mfAu125:MFn:=mfD Tryz.prog entsC hsAu125 false false 125
def hsAu138:Hints:=[]
noncomputable def mfAu138:MFn:=mfD Tryz.prog entsC hsAu138 false false 138
def hsAu127:Hints:=[]
noncomputable def mfAu127:MFn:=mfD Tryz.prog entsC hsAu127 false false 127
def hsAu68:Hints:=[]
noncomputable def mfAu68:MFn:=mfD Tryz.prog entsC hsAu68 false false 68
def hsAu148:Hints:=[⟨35,[false,false,false,true,true,true,false,false,false,false,false,false,false,false,true,true,true],[],[],[(1,([false,false,false,false,true,true],([],[])))]⟩]
noncomputable def mfAu148:MFn:=mfD Tryz.prog entsC hsAu148 false false 148
def hsAu158:Hints:=[]
noncomputable def mfAu158:MFn:=mfD Tryz.prog entsC hsAu158 false false 158
def hsAu212:Hints:=[]
noncomputable def mfAu212:MFn:=mfD Tryz.prog entsC hsAu212 false false 212
def hsAu243:Hints:=[⟨68,[false,true,false,false,false,true,false,false,false,false,false,false,false,false,false,false,false,false,true,true,true],[],[],[(1,([false,false,false,false,false,true],([],[])))]⟩,⟨68,[false,true,false,false,false,true,true,true,true,false,false,false,false,false,false,false,false,false,true,true,true,false,false,false,false,true,true,true],[],[],[(3,([false,true,false,false,false,true,true,false,true,false,false,false,false,false,false,false,false,false,true,true,true],([],[])))]⟩]
noncomputable def mfAu243:MFn:=mfD Tryz.prog entsC hsAu243 false false 243
def hsAu244:Hints:=[]
noncomputable def mfAu244:MFn:=mfD Tryz.prog entsC hsAu244 false false 244
def hsAu266:Hints:=[]
noncomputable def mfAu266:MFn:=mfD Tryz.prog entsC hsAu266 false false 266
def hsAu197:Hints:=[⟨61,[false,true,false,false,false,true,true,false,false,false,false,false,false,false,false,false,false,false,false,false,false,false,false,false,false,true,true,true],[],[],[(1,([false,false,false,false,false,true,true],([],[])))]⟩]
noncomputable def mfAu197:MFn:=mfD Tryz.prog entsC hsAu197 false false 197
def hsAu198:Hints:=[⟨59,[false,true,false,false,false,false,true,true,false,false,false,false,false,false,false,false,false,false,false,false,false,false,false,true,true,true],[],[],[(1,([false,false,false,false,false,false,true],([],[])))]⟩]
noncomputable def mfAu198:MFn:=mfD Tryz.prog entsC hsAu198 false false 198
def hsAu201:Hints:=[⟨49,[true,true,false,false,false,true],[],[],[(0,([false,false,false,false,true],([],[]))),(2,([],([],[])))]⟩]
noncomputable def mfAu201:MFn:=mfD Tryz.prog entsC hsAu201 false false 201
def hsAu267:Hints:=[]
noncomputable def mfAu267:MFn:=mfD Tryz.prog entsC hsAu267 false false 267
def hsAu62:Hints:=[⟨74,[false,false,true,false,true,false,false,false,false,false,false,false,false,false,false,false,false,true,true,true],[],[],[(1,([false,false,true,false,true],([],[1000000])))]⟩]
noncomputable def mfAu62:MFn:=mfD Tryz.prog entsC hsAu62 true false 62
def hsAu136:Hints:=[]
noncomputable def mfAu136:MFn:=mfD Tryz.prog entsC hsAu136 false false 136
def hsAu196:Hints:=[⟨63,[true,true,true,false,false,false,true,true,true],[],[],[(1,([true,true,true,false,false,false,true,true],([],[1000000])))]⟩,⟨63,[true,true,true,false,false,false,true],[],[],[(3,([],([],[1000000])))]⟩,⟨63,[true,true,true,false,false,false,true,true,true],[],[],[(5,([true,true,true,false,false,false,true,true],([],[1000000])))]⟩]
noncomputable def mfAu196:MFn:=mfD Tryz.prog entsC hsAu196 false false 196
def hsAu234:Hints:=[⟨53,[true,true,true,true,false,false,false,false,true],[],[],[(1,([],([],[1000000])))]⟩,⟨53,[true,true,true,true,false,false,false,false,true,true],[],[],[(3,([true,true,true,true,false,false,false,false,true],([],[1000000])))]⟩]
noncomputable def mfAu234:MFn:=mfD Tryz.prog entsC hsAu234 false false 234
def hsAu235:Hints:=[⟨220,[true,true,false,false,true,false,false,false,false,false,true,true],[],[],[(1,([true,true,false,false,false,false,false,false,false,false,true],([],[1000000])))]⟩,⟨220,[true,false,false,false,false,false,false,false,false,false,true,false,false,true],[],[],[(3,([],([],[1000000])))]⟩,⟨220,[true,false,true,false,true,false,false,false,false,false,false,false,false,false,true,true],[],[],[(5,([true,false,true,false,false,false,false,false,false,false,false,false,false,false,true],([],[1000000])))]⟩,⟨220,[true,false,false,false,false,false,false,false,false,false,false,false,false,false,true,false,false,true],[],[],[(7,([],([],[1000000])))]⟩,⟨220,[true,true,true,true,true,false,false,false,false,false,false,false,false,false,false,false,false,false,true,true,true,true,true],[],[],[(9,([true,true,true,true,true,false,false,false,false,false,false,false,false,false,false,false,false,false,true,true,true],([],[1000000])))]⟩]
noncomputable def mfAu235:MFn:=mfD Tryz.prog entsC hsAu235 false false 235
def hsAu265:Hints:=[⟨58,[true,false,true,false,true,false,false,false,false,false,true,true],[],[],[(1,([true,false,true,false,true,false,false,false,false,false,true],([],[1000000])))]⟩]
noncomputable def mfAu265:MFn:=mfD Tryz.prog entsC hsAu265 false false 265
def hsAu275:Hints:=[⟨38,[true,true,true,true,false,false,false,false,false,false,true],[],[],[(1,([],([],[1000000])))]⟩]
noncomputable def mfAu275:MFn:=mfD Tryz.prog entsC hsAu275 false false 275
def hsAu137:Hints:=[]
noncomputable def mfAu137:MFn:=mfD Tryz.prog entsC hsAu137 false false 137
def hsAu84:Hints:=[]
noncomputable def mfAu84:MFn:=mfD Tryz.prog entsC hsAu84 false false 84
def hsAu157:Hints:=[]
noncomputable def mfAu157:MFn:=mfD Tryz.prog entsC hsAu157 false false 157
def hsAu139:Hints:=[]
noncomputable def mfAu139:MFn:=mfD Tryz.prog entsC hsAu139 false false 139
def hsAu140:Hints:=[⟨42,[true,true,false,false,false,true,true],[],[],[(1,([true,false,false,false,false,true],([],[1000000])))]⟩]
noncomputable def mfAu140:MFn:=mfD Tryz.prog entsC hsAu140 true false 140
def hsAu199:Hints:=[⟨19,[true,true,false,false,false,false,false,true,true],[],[],[(0,([false,false,false,false,true],([],[1000000]))),(1,([],([],[1000000])))]⟩]
noncomputable def mfAu199:MFn:=mfD Tryz.prog entsC hsAu199 false false 199
def hsAu141:Hints:=[]
noncomputable def mfAu141:MFn:=mfD Tryz.prog entsC hsAu141 false false 141
def hsAu64:Hints:=[]
noncomputable def mfAu64:MFn:=mfD Tryz.prog entsC hsAu64 false false 64
def hsAu142:Hints:=[]
noncomputable def mfAu142:MFn:=mfD Tryz.prog entsC hsAu142 false false 142
def hsAu185:Hints:=[]
noncomputable def mfAu185:MFn:=mfD Tryz.prog entsC hsAu185 false false 185
def hsAu230:Hints:=[⟨36,[true,false,false,true,false,false,false,false,false,true,true,true],[],[],[(1,([true,false,false,true],([],[])))]⟩,⟨36,[false,false,false,false,false,false,true,false,false,false,false,false,false,false,false,false,false,false,false,false,false,false,false,false,false,true,true,true],[],[],[(3,([false,false,false,false,false,false,true],([],[])))]⟩]
noncomputable def mfAu230:MFn:=mfD Tryz.prog entsC hsAu230 false false 230
def hsAu27:Hints:=[]
noncomputable def mfAu27:MFn:=mfD Tryz.prog entsC hsAu27 false false 27
def hsAu98:Hints:=[]
noncomputable def mfAu98:MFn:=mfD Tryz.prog entsC hsAu98 false false 98
def hsAu170:Hints:=[]
noncomputable def mfAu170:MFn:=mfD Tryz.prog entsC hsAu170 false false 170
def hsAu49:Hints:=[]
noncomputable def mfAu49:MFn:=mfD Tryz.prog entsC hsAu49 false false 49
def hsAu107:Hints:=[]
noncomputable def mfAu107:MFn:=mfD Tryz.prog entsC hsAu107 false false 107
def hsAu95:Hints:=[]
noncomputable def mfAu95:MFn:=mfD Tryz.prog entsC hsAu95 false false 95
def hsAu166:Hints:=[]
noncomputable def mfAu166:MFn:=mfD Tryz.prog entsC hsAu166 false false 166
def hsAu165:Hints:=[⟨19,[false,false,false,true,false,false,true,true,true],[],[],[(1,([false,false,false,true],([],[])))]⟩]
noncomputable def mfAu165:MFn:=mfD Tryz.prog entsC hsAu165 false false 165
def hsAu28:Hints:=[]
noncomputable def mfAu28:MFn:=mfD Tryz.prog entsC hsAu28 false false 28
def hsAu39:Hints:=[]
noncomputable def mfAu39:MFn:=mfD Tryz.prog entsC hsAu39 false false 39
def hsAu104:Hints:=[⟨69,[false,false,false,false,true,true,false,false,false,false,false,false,false,false,false,false,false,false,false,false,false,false,false,false,false,true,true,true],[],[],[(2,([false,false,false,false,true,true],([],[])))]⟩]
noncomputable def mfAu104:MFn:=mfD Tryz.prog entsC hsAu104 false false 104
def hsAu172:Hints:=[]
noncomputable def mfAu172:MFn:=mfD Tryz.prog entsC hsAu172 false false 172
def hsAu17:Hints:=[]
noncomputable def mfAu17:MFn:=mfD Tryz.prog entsC hsAu17 false false 17
def hsAu63:Hints:=[]
noncomputable def mfAu63:MFn:=mfD Tryz.prog entsC hsAu63 false false 63
def hsAu65:Hints:=[⟨49,[false,false,true,true,true,true,false,false,false,false,false,false,false,false,false,false,false,false,true,true,true],[],[],[(1,([false,false,true,true,true,true],([],[])))]⟩]
noncomputable def mfAu65:MFn:=mfD Tryz.prog entsC hsAu65 false false 65
def hsAu67:Hints:=[⟨21,[false,false,true,true,false,false,false,false,false,true,true,true],[],[],[(1,([false,false,true,true],([],[1000000])))]⟩]
noncomputable def mfAu67:MFn:=mfD Tryz.prog entsC hsAu67 false false 67
def hsAu147:Hints:=[]
noncomputable def mfAu147:MFn:=mfD Tryz.prog entsC hsAu147 false false 147
def hsAu205:Hints:=[⟨25,[true,true],[],[],[(1,([true],([],[])))]⟩]
noncomputable def mfAu205:MFn:=mfD Tryz.prog entsC hsAu205 false false 205
def hsAu144:Hints:=[]
noncomputable def mfAu144:MFn:=mfD Tryz.prog entsC hsAu144 false false 144
def hsAu203:Hints:=[⟨44,[true,true,false,false,false,false,true,true,true],[],[],[(1,([false,false,false,false,false,false,true,true],([],[])))]⟩]
noncomputable def mfAu203:MFn:=mfD Tryz.prog entsC hsAu203 false false 203
def hsAu204:Hints:=[⟨96,[false,false,false,false,true,false,true,true,false,false,false,true,true,true],[],[],[(1,([false,false,false,false,true,false,true,false,false,false,false,true,true],([],[])))]⟩]
noncomputable def mfAu204:MFn:=mfD Tryz.prog entsC hsAu204 false false 204
def hsAu237:Hints:=[]
noncomputable def mfAu237:MFn:=mfD Tryz.prog entsC hsAu237 false false 237
def hsAu222:Hints:=[]
noncomputable def mfAu222:MFn:=mfD Tryz.prog entsC hsAu222 false false 222
def hsAu238:Hints:=[⟨58,[false,false,false,false,false,false,false,true,true,true,false,false,false,false,false,false,false,false,false,false,false,false,false,false,false,false,false,false,false,false,false,false,true,true,true],[],[],[(2,([false,false,false,false,false,false,false,false,true,true],([],[])))]⟩]
noncomputable def mfAu238:MFn:=mfD Tryz.prog entsC hsAu238 false false 238
def hsAu239:Hints:=[⟨67,[true,true,false,false,false,true,false,true,true,true],[],[],[(1,([false,false,false,false,false,false,false,false,true],([],[])))]⟩]
noncomputable def mfAu239:MFn:=mfD Tryz.prog entsC hsAu239 false false 239
def hsAu240:Hints:=[⟨74,[true,true,true,false,false,false,false,true,true,false,false,false,false,false,false,false,false,true,true,true],[],[],[(1,([true,true,false,false,false,false,false,true,true],([],[])))]⟩]
noncomputable def mfAu240:MFn:=mfD Tryz.prog entsC hsAu240 false false 240
def hsAu241:Hints:=[⟨42,[true,true,false,false,true,false,false,false,true,true,true],[],[],[(1,([true,true,false,false,true],([],[])))]⟩]
noncomputable def mfAu241:MFn:=mfD Tryz.prog entsC hsAu241 false false 241
def hsAu242:Hints:=[⟨61,[true,false,false,false,false,false,true,true,true],[],[],[(1,([false,false,false,false,false,false,false,true],([],[])))]⟩]
noncomputable def mfAu242:MFn:=mfD Tryz.prog entsC hsAu242 false false 242
def hsAu143:Hints:=[]
noncomputable def mfAu143:MFn:=mfD Tryz.prog entsC hsAu143 false false 143
def hsAu66:Hints:=[]
noncomputable def mfAu66:MFn:=mfD Tryz.prog entsC hsAu66 false false 66
def hsAu146:Hints:=[]
noncomputable def mfAu146:MFn:=mfD Tryz.prog entsC hsAu146 false false 146
def hsAu161:Hints:=[]
noncomputable def mfAu161:MFn:=mfD Tryz.prog entsC hsAu161 false false 161
def hsAu23:Hints:=[]
noncomputable def mfAu23:MFn:=mfD Tryz.prog entsC hsAu23 false false 23
def hsAu79:Hints:=[]
noncomputable def mfAu79:MFn:=mfD Tryz.prog entsC hsAu79 false false 79
def hsAu173:Hints:=[⟨68,[true,false,false,false,true,true,false,false,true,true,true],[],[],[(0,([false,false,false,false,true],([],[]))),(1,([true,false,false,false,true,true],([],[])))]⟩]
noncomputable def mfAu173:MFn:=mfD Tryz.prog entsC hsAu173 false false 173
def hsAu174:Hints:=[⟨22,[false,true,false,false,false,true,false,false,true,true,true],[],[],[(1,([false,false,false,false,false,true],([],[])))]⟩]
noncomputable def mfAu174:MFn:=mfD Tryz.prog entsC hsAu174 false false 174
def hsAu92:Hints:=[]
noncomputable def mfAu92:MFn:=mfD Tryz.prog entsC hsAu92 false false 92
def hsAu94:Hints:=[]
noncomputable def mfAu94:MFn:=mfD Tryz.prog entsC hsAu94 false false 94
def hsAu93:Hints:=[⟨50,[false,true,true,false,false,true,false,false,false,true,true,true],[],[],[(1,([false,true,true,false,false,true],([],[])))]⟩]
noncomputable def mfAu93:MFn:=mfD Tryz.prog entsC hsAu93 false false 93
def hsAu57:Hints:=[]
noncomputable def mfAu57:MFn:=mfD Tryz.prog entsC hsAu57 false false 57
def hsAu47:Hints:=[⟨41,[false,false,false,false,false,false,false,false,true,false,false,false,false,false,false,false,false,false,false,false,false,false,false,true,true,true],[],[],[(1,([false,false,false,false,false,false,false,false,true],([],[])))]⟩]
noncomputable def mfAu47:MFn:=mfD Tryz.prog entsC hsAu47 false false 47
def hsAu117:Hints:=[]
noncomputable def mfAu117:MFn:=mfD Tryz.prog entsC hsAu117 false false 117
def hsAu176:Hints:=[⟨39,[false,true,false,false,false,false,true,false,false,false,false,true,true,true],[],[],[(0,([false,false,false,false,true,true],([],[]))),(1,([false,false,false,false,false,false,true],([],[])))]⟩]
noncomputable def mfAu176:MFn:=mfD Tryz.prog entsC hsAu176 false false 176
def hsAu177:Hints:=[⟨69,[false,true,false,false,false,false,true,false,false,false,false,false,false,false,false,false,false,true,true,true],[],[],[(0,([false,false,false,false,true,true],([],[]))),(1,([false,false,false,false,false,false,true],([],[])))]⟩,⟨69,[false,true,false,false,false,false,false,false,false,true,false,true,false,false,false,false,false,true,true,true,false,false,false,false,false,false,false,false,false,false,false,false,false,false,false,false,false,false,false,false,false,false,false,false,false,true,true,true],[],[],[(3,([false,true,false,false,false,false,false,false,false,false,false,true,false,false,false,false,false,true,true,true],([],[])))]⟩,⟨69,[false,true,false,false,false,false,false,false,false,true,false,true,false,true,false,false,false,true,true,true,false,false,false,false,false,false,false,false,false,false,false,false,false,false,false,false,false,false,false,false,false,false,false,false,false,true,true,true,false,false,false,true,true,true],[],[],[(5,([false,true,false,false,false,false,false,false,false,true,false,true,false,false,false,false,false,true,true,true,false,false,false,false,false,false,false,false,false,false,false,false,false,false,false,false,false,false,false,false,false,false,false,false,false,true,true,true],([],[])))]⟩]
noncomputable def mfAu177:MFn:=mfD Tryz.prog entsC hsAu177 false false 177
def hsAu227:Hints:=[⟨36,[true,false,false,true,false,false,false,false,false,true,true,true],[],[],[(1,([true,false,false,true],([],[])))]⟩,⟨36,[false,false,false,false,false,false,true,false,false,false,false,false,false,false,false,false,false,false,false,false,false,false,false,false,false,true,true,true],[],[],[(3,([false,false,false,false,false,false,true],([],[])))]⟩]
noncomputable def mfAu227:MFn:=mfD Tryz.prog entsC hsAu227 false false 227
def hsAu36:Hints:=[]
noncomputable def mfAu36:MFn:=mfD Tryz.prog entsC hsAu36 false false 36
def hsAu101:Hints:=[]
noncomputable def mfAu101:MFn:=mfD Tryz.prog entsC hsAu101 false false 101
def hsAu30:Hints:=[]
noncomputable def mfAu30:MFn:=mfD Tryz.prog entsC hsAu30 false false 30
def hsAu86:Hints:=[⟨40,[false,true,false,false,true,true,false,false,false,false,false,false,true,true,true],[],[],[(1,([false,false,false,false,true,true],([],[])))]⟩]
noncomputable def mfAu86:MFn:=mfD Tryz.prog entsC hsAu86 false false 86
def hsAu103:Hints:=[]
noncomputable def mfAu103:MFn:=mfD Tryz.prog entsC hsAu103 false false 103
def hsAu102:Hints:=[]
noncomputable def mfAu102:MFn:=mfD Tryz.prog entsC hsAu102 false false 102
def hsAu171:Hints:=[⟨19,[true,true,false,false,false,false,false,true,true],[],[],[(0,([false,false,false,false,true],([],[]))),(1,([],([],[])))]⟩]
noncomputable def mfAu171:MFn:=mfD Tryz.prog entsC hsAu171 false false 171
def hsAu96:Hints:=[⟨19,[false,false,false,true,false,false,false,true,true,true],[],[],[(1,([false,false,false,true],([],[])))]⟩]
noncomputable def mfAu96:MFn:=mfD Tryz.prog entsC hsAu96 false false 96
def hsAu97:Hints:=[⟨28,[false,false,false,true,false,false,false,false,false,false,false,false,false,true,true,true],[],[],[(1,([false,false,false,true],([],[])))]⟩]
noncomputable def mfAu97:MFn:=mfD Tryz.prog entsC hsAu97 false false 97
def hsAu60:Hints:=[]
noncomputable def mfAu60:MFn:=mfD Tryz.prog entsC hsAu60 false false 60
def hsAu133:Hints:=[⟨21,[false,false,false,true,false,false,false,false,true,true,true],[],[],[(1,([false,false,false,true],([],[])))]⟩]
noncomputable def mfAu133:MFn:=mfD Tryz.prog entsC hsAu133 false false 133
def hsAu168:Hints:=[]
noncomputable def mfAu168:MFn:=mfD Tryz.prog entsC hsAu168 false false 168
def hsAu164:Hints:=[]
noncomputable def mfAu164:MFn:=mfD Tryz.prog entsC hsAu164 false false 164
def hsAu223:Hints:=[]
noncomputable def mfAu223:MFn:=mfD Tryz.prog entsC hsAu223 false false 223
def hsAu226:Hints:=[⟨134,[true,true,true,true,false,false,false,false,true,true],[],[],[(0,([],([],[1000000])))]⟩]
noncomputable def mfAu226:MFn:=mfD Tryz.prog entsC hsAu226 false false 226
def hsAu252:Hints:=[⟨49,[true,true,true,false,false,false,true],[],[],[(1,([],([],[1000000])))]⟩,⟨49,[true,true,true,false,false,false,true,true],[],[],[(3,([true,true,true,false,false,false,true],([],[1000000])))]⟩]
noncomputable def mfAu252:MFn:=mfD Tryz.prog entsC hsAu252 false false 252
def hsAu258:Hints:=[]
noncomputable def mfAu258:MFn:=mfD Tryz.prog entsC hsAu258 false false 258
def hsAu169:Hints:=[⟨61,[true,false,false,true],[],[],[(0,([false,false,true],([],[1000000]))),(1,([true],([],[1000000])))]⟩,⟨61,[true,false,false,true,true,true],[],[],[(3,([true,false,false,true],([],[1000000])))]⟩]
noncomputable def mfAu169:MFn:=mfD Tryz.prog entsC hsAu169 true false 169
def hsAu41:Hints:=[]
noncomputable def mfAu41:MFn:=mfD Tryz.prog entsC hsAu41 false false 41
def hsAu26:Hints:=[]
noncomputable def mfAu26:MFn:=mfD Tryz.prog entsC hsAu26 false false 26
def hsAu25:Hints:=[]
noncomputable def mfAu25:MFn:=mfD Tryz.prog entsC hsAu25 false false 25
def hsAu83:Hints:=[]
noncomputable def mfAu83:MFn:=mfD Tryz.prog entsC hsAu83 false false 83
def hsAu154:Hints:=[]
noncomputable def mfAu154:MFn:=mfD Tryz.prog entsC hsAu154 false false 154
def hsAu155:Hints:=[]
noncomputable def mfAu155:MFn:=mfD Tryz.prog entsC hsAu155 false false 155
def hsAu82:Hints:=[⟨18,[false,false,false,true,false,false,true,true,true],[],[],[(0,([false,false,true],([],[]))),(1,([false,false,false,true],([],[])))]⟩]
noncomputable def mfAu82:MFn:=mfD Tryz.prog entsC hsAu82 false false 82
def hsAu156:Hints:=[⟨39,[true,true,true,false,false,false,false,false,false,false,false,true,true,true],[],[],[(0,([false,false,false,false,false,false,true],([],[]))),(1,([true,true],([],[])))]⟩]
noncomputable def mfAu156:MFn:=mfD Tryz.prog entsC hsAu156 false false 156
def hsAu85:Hints:=[]
noncomputable def mfAu85:MFn:=mfD Tryz.prog entsC hsAu85 false false 85
def hsAu108:Hints:=[⟨32,[false,true,true,false,false,false,false,false,false,false,false,false,false,false,false,true,true,true],[],[],[(0,([false,false,false,false,false,false,true],([],[]))),(1,([],([],[])))]⟩]
noncomputable def mfAu108:MFn:=mfD Tryz.prog entsC hsAu108 false false 108
def hsAu43:Hints:=[]
noncomputable def mfAu43:MFn:=mfD Tryz.prog entsC hsAu43 false false 43
def hsAu113:Hints:=[]
noncomputable def mfAu113:MFn:=mfD Tryz.prog entsC hsAu113 false false 113
def hsAu59:Hints:=[]
noncomputable def mfAu59:MFn:=mfD Tryz.prog entsC hsAu59 false false 59
def hsAu132:Hints:=[⟨53,[false,true,true,false,false,false,true,true,false,false,false,false,false,false,false,false,true,true,true],[],[],[(1,([false,false,false,false,false,false,true,true],([],[])))]⟩]
noncomputable def mfAu132:MFn:=mfD Tryz.prog entsC hsAu132 false false 132
def hsAu193:Hints:=[⟨19,[true,true,false,false,false,false,false,true,true],[],[],[(0,([false,false,false,false,true],([],[]))),(1,([],([],[])))]⟩]
noncomputable def mfAu193:MFn:=mfD Tryz.prog entsC hsAu193 false false 193
def hsAu194:Hints:=[]
noncomputable def mfAu194:MFn:=mfD Tryz.prog entsC hsAu194 false false 194
def hsAu112:Hints:=[⟨35,[false,true,false,false,true,true,false,false,false,false,false,false,false,false,false,false,false,false,false,true,true,true],[],[],[(1,([false,false,false,false,true,true],([],[])))]⟩]
noncomputable def mfAu112:MFn:=mfD Tryz.prog entsC hsAu112 false false 112
def hsAu45:Hints:=[]
noncomputable def mfAu45:MFn:=mfD Tryz.prog entsC hsAu45 false false 45
def hsAu115:Hints:=[]
noncomputable def mfAu115:MFn:=mfD Tryz.prog entsC hsAu115 false false 115
def hsAu61:Hints:=[]
noncomputable def mfAu61:MFn:=mfD Tryz.prog entsC hsAu61 false false 61
def hsAu134:Hints:=[⟨36,[false,false,false,true,true,true,false,false,false,false,false,false,false,false,false,false,false,false,false,true,true],[],[],[(1,([false,false,false,false,true,true],([],[])))]⟩]
noncomputable def mfAu134:MFn:=mfD Tryz.prog entsC hsAu134 false false 134
def hsAu195:Hints:=[]
noncomputable def mfAu195:MFn:=mfD Tryz.prog entsC hsAu195 false false 195
def hsAu91:Hints:=[⟨31,[false,false,false,false,true,true,false,false,false,false,false,true,true,true],[],[],[(1,([false,false,false,false,true,true],([],[])))]⟩]
noncomputable def mfAu91:MFn:=mfD Tryz.prog entsC hsAu91 false false 91
def hsAu56:Hints:=[]
noncomputable def mfAu56:MFn:=mfD Tryz.prog entsC hsAu56 false false 56
def hsAu128:Hints:=[]
noncomputable def mfAu128:MFn:=mfD Tryz.prog entsC hsAu128 false false 128
def hsAu149:Hints:=[⟨37,[true,false,false,true,true],[],[],[(1,([false,false,false,true],([],[])))]⟩,⟨37,[false,false,false,true],[],[],[(3,([false,false,false,true],([],[])))]⟩]
noncomputable def mfAu149:MFn:=mfD Tryz.prog entsC hsAu149 false false 149
def hsAu129:Hints:=[⟨36,[true,true,false,false,false,true,true,true],[],[],[(1,([false,false,false,false,false,true],([],[])))]⟩]
noncomputable def mfAu129:MFn:=mfD Tryz.prog entsC hsAu129 false false 129
def hsAu186:Hints:=[]
noncomputable def mfAu186:MFn:=mfD Tryz.prog entsC hsAu186 false false 186
def hsAu187:Hints:=[]
noncomputable def mfAu187:MFn:=mfD Tryz.prog entsC hsAu187 false false 187
noncomputable def tabAu:List (Nat × MFn):=[(54,mfAu54),(126,mfAu126),(184,mfAu184),(202,mfAu202),(200,mfAu200),(145,mfAu145),(125,mfAu125),(138,mfAu138),(127,mfAu127),(68,mfAu68),(148,mfAu148),(158,mfAu158),(212,mfAu212),(243,mfAu243),(244,mfAu244),(266,mfAu266),(197,mfAu197),(198,mfAu198),(201,mfAu201),(267,mfAu267),(62,mfAu62),(136,mfAu136),(196,mfAu196),(234,mfAu234),(235,mfAu235),(265,mfAu265),(275,mfAu275),(137,mfAu137),(84,mfAu84),(157,mfAu157),(139,mfAu139),(140,mfAu140),(199,mfAu199),(141,mfAu141),(64,mfAu64),(142,mfAu142),(185,mfAu185),(230,mfAu230),(27,mfAu27),(98,mfAu98),(170,mfAu170),(49,mfAu49),(107,mfAu107),(95,mfAu95),(166,mfAu166),(165,mfAu165),(28,mfAu28),(39,mfAu39),(104,mfAu104),(172,mfAu172),(17,mfAu17),(63,mfAu63),(65,mfAu65),(67,mfAu67),(147,mfAu147),(205,mfAu205),(144,mfAu144),(203,mfAu203),(204,mfAu204),(237,mfAu237),(222,mfAu222),(238,mfAu238),(239,mfAu239),(240,mfAu240),(241,mfAu241),(242,mfAu242),(143,mfAu143),(66,mfAu66),(146,mfAu146),(161,mfAu161),(23,mfAu23),(79,mfAu79),(173,mfAu173),(174,mfAu174),(92,mfAu92),(94,mfAu94),(93,mfAu93),(57,mfAu57),(47,mfAu47),(117,mfAu117),(176,mfAu176),(177,mfAu177),(227,mfAu227),(36,mfAu36),(101,mfAu101),(30,mfAu30),(86,mfAu86),(103,mfAu103),(102,mfAu102),(171,mfAu171),(96,mfAu96),(97,mfAu97),(60,mfAu60),(133,mfAu133),(168,mfAu168),(164,mfAu164),(223,mfAu223),(226,mfAu226),(252,mfAu252),(258,mfAu258),(169,mfAu169),(41,mfAu41),(26,mfAu26),(25,mfAu25),(83,mfAu83),(154,mfAu154),(155,mfAu155),(82,mfAu82),(156,mfAu156),(85,mfAu85),(108,mfAu108),(43,mfAu43),(113,mfAu113),(59,mfAu59),(132,mfAu132),(193,mfAu193),(194,mfAu194),(112,mfAu112),(45,mfAu45),(115,mfAu115),(61,mfAu61),(134,mfAu134),(195,mfAu195),(91,mfAu91),(56,mfAu56),(128,mfAu128),(149,mfAu149),(129,mfAu129),(186,mfAu186),(187,mfAu187)]
end Go.Proofs.YtpncilciembjdaaGreatDoor
