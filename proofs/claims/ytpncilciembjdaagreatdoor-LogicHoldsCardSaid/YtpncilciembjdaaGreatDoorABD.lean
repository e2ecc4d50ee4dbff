/-
  slices.Grow of nil over this seat's element types.
  Functions of the program as trees: what a call comes to.
-/
import Derived.Lib.AppendZeros
import Derived.Test.YtpncilciembjdaaGreatDoorAAX
set_option linter.unusedSectionVars false
set_option linter.unusedSimpArgs false
set_option linter.unusedVariables false
namespace Go.Proofs.YtpncilciembjdaaGreatDoor
open Go.RowKit
set_option maxRecDepth 100000 in
set_option maxHeartbeats 4000000 in
theorem growP_any(w:World)(n:Nat)(hby:n*40<=140737488355328) :
  Calls Tryz.prog 262 #[.slice none 0 0,.int .i64 n] w fun e w'=>∃ v',e=.returned v'/\w'.ownsRow w.heap.size 84 3 v' 0 []/\Below w.heap.size w w':=by
 have y0:¬ (n:Int)<0:=by omega
 go_enter Tryz.func262,Tryz.ntmps262
 by_cases h0:n=0
 .subst h0
  go_wp2
  go_ret
  exact⟨_,rfl,World.ownsRow_nil _ _ _ _,Below.refl _ _⟩
 .have y1:(0:Int)<(n:Int):=by omega
  obtain⟨i0,hi0,hz0,hz1,hz2⟩:=info_parts (show (Tryz.prog.info? 84).map (fun i=>(i.zero,i.size,i.bytes))=some (some (.agg #[.int .i64 0,.bool false,.slice none 0 0]),3,40) by kernel_rfl)
  have hr:=fun ty=>Lib.run_append_nil_zeros (P:=Tryz.prog) w 22 3 ty 84 i0 _ .i64 .i64 Tryz.underlying22 Tryz.underlying3 hi0 hz0 n (by omega) (by rw[hz1];decide) (by omega) (by rw[hz2];omega)
  have c1:=grownCap_ge w n 0 84
  have c2:=grownCap_le_maxLen w n 0 84 (by unfold maxLen;omega)
  have HR:=Lib.hid hr
  clear hr
  generalize grownCap w n 0 84=cap at *
  go_wp2_with (at_builtin;refine Lib.wpList_append_run _ rfl _ _ _ _ rfl _ _ rfl rfl _ _ (HR.out _) ?_)
  go_wp2_with fail
  go_ret
  refine⟨_,rfl,⟨by simp,.inr ⟨w.heap.size,cap,_,rfl,Nat.le_refl _,heap_alloc_new _ _,Nat.zero_le _,c2,?_,by simp⟩⟩,?_⟩
  .rw[Array.size_append,size_zeroCells,size_zeroCells]
   show n*3+(cap-n)*3=cap*3
   omega
  .exact(below_drew (Below.refl _ _)).alloc (Nat.le_refl _) _
def resGrow(B:Nat):List AV->Option (Nat × List AV)
 |[.v (.slice none 0 0),.v (.int .i64 (.ofNat n))]=>if Nat.ble (n*B) 140737488355328=true then some (0,[]) else none
 |_=>none
theorem grow_part:GoodD (SemFn Tryz.prog 262) (ownD 3 (resGrow 40)):=by
 refine goodD_own (semFn_mono _ _) 3 _ fun args n cells hr=>?_
 unfold resGrow at hr
 split at hr
 .rename_i k
  split at hr
  .rename_i hk
   simp only[Option.some.injEq,Prod.mk.injEq]at hr
   obtain⟨rfl,rfl⟩:=hr
   refine⟨rfl,rfl,fun μ F w us hF hus=>?_⟩
   obtain⟨u,t,rfl,hu,u2,t2,rfl,hu2,ht⟩:=hus
   have ht:t2=[]:=ht
   subst ht
   unfold Rep at hu hu2
   rw[hu.1,hu2.1]
   refine Calls.mono (growP_any w k (Nat.le_of_ble_eq_true hk)) ?_
   rintro e' w' ⟨v',rfl,ho,hb⟩
   exact⟨v',rfl,_,[],ho,hb,rfl⟩
  .cases hr
 .cases hr
end Go.Proofs.YtpncilciembjdaaGreatDoor
namespace Go.Proofs.YtpncilciembjdaaGreatDoor
open Go.RowKit
def ownTz:List (Nat × Nat):=[(136,0),(196,0),(234,0),(235,0),(265,0),(275,0),(140,0),(199,0),(262,0),(264,0),(62,0),(67,0),(135,0),(90,0),(163,0),(214,0)]
def hsTz17:Hints:=[]
noncomputable def mfTz17:MFn:=mfD Tryz.prog entsC hsTz17 false false 17
def hsTz62:Hints:=[⟨74,[false,false,true,false,true,false,false,false,false,false,false,false,false,false,false,false,false,true,true,true],[],[],[(1,([false,false,true,false,true],([],[1000000])))]⟩]
noncomputable def mfTz62:MFn:=mfD Tryz.prog entsC hsTz62 true false 62
def hsTz136:Hints:=[]
noncomputable def mfTz136:MFn:=mfD Tryz.prog entsC hsTz136 false false 136
def hsTz196:Hints:=[⟨63,[true,true,true,false,false,false,true,true,true],[],[],[(1,([true,true,true,false,false,false,true,true],([],[1000000])))]⟩,⟨63,[true,true,true,false,false,false,true],[],[],[(3,([],([],[1000000])))]⟩,⟨63,[true,true,true,false,false,false,true,true,true],[],[],[(5,([true,true,true,false,false,false,true,true],([],[1000000])))]⟩]
noncomputable def mfTz196:MFn:=mfD Tryz.prog entsC hsTz196 false false 196
def hsTz234:Hints:=[⟨53,[true,true,true,true,false,false,false,false,true],[],[],[(1,([],([],[1000000])))]⟩,⟨53,[true,true,true,true,false,false,false,false,true,true],[],[],[(3,([true,true,true,true,false,false,false,false,true],([],[1000000])))]⟩]
noncomputable def mfTz234:MFn:=mfD Tryz.prog entsC hsTz234 false false 234
def hsTz235:Hints:=[⟨220,[true,true,false,false,true,false,false,false,false,false,true,true],[],[],[(1,([true,true,false,false,false,false,false,false,false,false,true],([],[1000000])))]⟩,⟨220,[true,false,false,false,false,false,false,false,false,false,true,false,false,true],[],[],[(3,([],([],[1000000])))]⟩,⟨220,[true,false,true,false,true,false,false,false,false,false,false,false,false,false,true,true],[],[],[(5,([true,false,true,false,false,false,false,false,false,false,false,false,false,false,true],([],[1000000])))]⟩,⟨220,[true,false,false,false,false,false,false,false,false,false,false,false,false,false,true,false,false,true],[],[],[(7,([],([],[1000000])))]⟩,⟨220,[true,true,true,true,true,false,false,false,false,false,false,false,false,false,false,false,false,false,true,true,true,true,true],[],[],[(9,([true,true,true,true,true,false,false,false,false,false,false,false,false,false,false,false,false,false,true,true,true],([],[1000000])))]⟩]
noncomputable def mfTz235:MFn:=mfD Tryz.prog entsC hsTz235 false false 235
def hsTz265:Hints:=[⟨58,[true,false,true,false,true,false,false,false,false,false,true,true],[],[],[(1,([true,false,true,false,true,false,false,false,false,false,true],([],[1000000])))]⟩]
noncomputable def mfTz265:MFn:=mfD Tryz.prog entsC hsTz265 false false 265
def hsTz275:Hints:=[⟨38,[true,true,true,true,false,false,false,false,false,false,true],[],[],[(1,([],([],[1000000])))]⟩]
noncomputable def mfTz275:MFn:=mfD Tryz.prog entsC hsTz275 false false 275
def hsTz137:Hints:=[]
noncomputable def mfTz137:MFn:=mfD Tryz.prog entsC hsTz137 false false 137
def hsTz84:Hints:=[]
noncomputable def mfTz84:MFn:=mfD Tryz.prog entsC hsTz84 false false 84
def hsTz157:Hints:=[]
noncomputable def mfTz157:MFn:=mfD Tryz.prog entsC hsTz157 false false 157
def hsTz138:Hints:=[]
noncomputable def mfTz138:MFn:=mfD Tryz.prog entsC hsTz138 false false 138
def hsTz145:Hints:=[]
noncomputable def mfTz145:MFn:=mfD Tryz.prog entsC hsTz145 false false 145
def hsTz202:Hints:=[]
noncomputable def mfTz202:MFn:=mfD Tryz.prog entsC hsTz202 false false 202
def hsTz200:Hints:=[⟨21,[true,false,false,true],[],[],[(1,([true,false,false,true],([],[])))]⟩]
noncomputable def mfTz200:MFn:=mfD Tryz.prog entsC hsTz200 false false 200
def hsTz139:Hints:=[]
noncomputable def mfTz139:MFn:=mfD Tryz.prog entsC hsTz139 false false 139
def hsTz197:Hints:=[⟨61,[false,true,false,false,false,true,true,false,false,false,false,false,false,false,false,false,false,false,false,false,false,false,false,false,false,true,true,true],[],[],[(1,([false,false,false,false,false,true,true],([],[])))]⟩]
noncomputable def mfTz197:MFn:=mfD Tryz.prog entsC hsTz197 false false 197
def hsTz198:Hints:=[⟨59,[false,true,false,false,false,false,true,true,false,false,false,false,false,false,false,false,false,false,false,false,false,false,false,true,true,true],[],[],[(1,([false,false,false,false,false,false,true],([],[])))]⟩]
noncomputable def mfTz198:MFn:=mfD Tryz.prog entsC hsTz198 false false 198
def hsTz201:Hints:=[⟨49,[true,true,false,false,false,true],[],[],[(0,([false,false,false,false,true],([],[]))),(2,([],([],[])))]⟩]
noncomputable def mfTz201:MFn:=mfD Tryz.prog entsC hsTz201 false false 201
def hsTz140:Hints:=[⟨42,[true,true,false,false,false,true,true],[],[],[(1,([true,false,false,false,false,true],([],[1000000])))]⟩]
noncomputable def mfTz140:MFn:=mfD Tryz.prog entsC hsTz140 true false 140
def hsTz199:Hints:=[⟨19,[true,true,false,false,false,false,false,true,true],[],[],[(0,([false,false,false,false,true],([],[1000000]))),(1,([],([],[1000000])))]⟩]
noncomputable def mfTz199:MFn:=mfD Tryz.prog entsC hsTz199 false false 199
def hsTz141:Hints:=[]
noncomputable def mfTz141:MFn:=mfD Tryz.prog entsC hsTz141 false false 141
def hsTz64:Hints:=[]
noncomputable def mfTz64:MFn:=mfD Tryz.prog entsC hsTz64 false false 64
def hsTz142:Hints:=[]
noncomputable def mfTz142:MFn:=mfD Tryz.prog entsC hsTz142 false false 142
def hsTz63:Hints:=[]
noncomputable def mfTz63:MFn:=mfD Tryz.prog entsC hsTz63 false false 63
def hsTz65:Hints:=[⟨49,[false,false,true,true,true,true,false,false,false,false,false,false,false,false,false,false,false,false,true,true,true],[],[],[(1,([false,false,true,true,true,true],([],[])))]⟩]
noncomputable def mfTz65:MFn:=mfD Tryz.prog entsC hsTz65 false false 65
def hsTz67:Hints:=[⟨21,[false,false,true,true,false,false,false,false,false,true,true,true],[],[],[(1,([false,false,true,true],([],[1000000])))]⟩]
noncomputable def mfTz67:MFn:=mfD Tryz.prog entsC hsTz67 false false 67
def hsTz147:Hints:=[]
noncomputable def mfTz147:MFn:=mfD Tryz.prog entsC hsTz147 false false 147
def hsTz205:Hints:=[⟨25,[true,true],[],[],[(1,([true],([],[])))]⟩]
noncomputable def mfTz205:MFn:=mfD Tryz.prog entsC hsTz205 false false 205
def hsTz144:Hints:=[]
noncomputable def mfTz144:MFn:=mfD Tryz.prog entsC hsTz144 false false 144
def hsTz203:Hints:=[⟨44,[true,true,false,false,false,false,true,true,true],[],[],[(1,([false,false,false,false,false,false,true,true],([],[])))]⟩]
noncomputable def mfTz203:MFn:=mfD Tryz.prog entsC hsTz203 false false 203
def hsTz184:Hints:=[]
noncomputable def mfTz184:MFn:=mfD Tryz.prog entsC hsTz184 false false 184
def hsTz204:Hints:=[⟨96,[false,false,false,false,true,false,true,true,false,false,false,true,true,true],[],[],[(1,([false,false,false,false,true,false,true,false,false,false,false,true,true],([],[])))]⟩]
noncomputable def mfTz204:MFn:=mfD Tryz.prog entsC hsTz204 false false 204
def hsTz237:Hints:=[]
noncomputable def mfTz237:MFn:=mfD Tryz.prog entsC hsTz237 false false 237
def hsTz222:Hints:=[]
noncomputable def mfTz222:MFn:=mfD Tryz.prog entsC hsTz222 false false 222
def hsTz238:Hints:=[⟨58,[false,false,false,false,false,false,false,true,true,true,false,false,false,false,false,false,false,false,false,false,false,false,false,false,false,false,false,false,false,false,false,false,true,true,true],[],[],[(2,([false,false,false,false,false,false,false,false,true,true],([],[])))]⟩]
noncomputable def mfTz238:MFn:=mfD Tryz.prog entsC hsTz238 false false 238
def hsTz239:Hints:=[⟨67,[true,true,false,false,false,true,false,true,true,true],[],[],[(1,([false,false,false,false,false,false,false,false,true],([],[])))]⟩]
noncomputable def mfTz239:MFn:=mfD Tryz.prog entsC hsTz239 false false 239
def hsTz240:Hints:=[⟨74,[true,true,true,false,false,false,false,true,true,false,false,false,false,false,false,false,false,true,true,true],[],[],[(1,([true,true,false,false,false,false,false,true,true],([],[])))]⟩]
noncomputable def mfTz240:MFn:=mfD Tryz.prog entsC hsTz240 false false 240
def hsTz241:Hints:=[⟨42,[true,true,false,false,true,false,false,false,true,true,true],[],[],[(1,([true,true,false,false,true],([],[])))]⟩]
noncomputable def mfTz241:MFn:=mfD Tryz.prog entsC hsTz241 false false 241
def hsTz242:Hints:=[⟨61,[true,false,false,false,false,false,true,true,true],[],[],[(1,([false,false,false,false,false,false,false,true],([],[])))]⟩]
noncomputable def mfTz242:MFn:=mfD Tryz.prog entsC hsTz242 false false 242
def hsTz143:Hints:=[]
noncomputable def mfTz143:MFn:=mfD Tryz.prog entsC hsTz143 false false 143
def hsTz66:Hints:=[]
noncomputable def mfTz66:MFn:=mfD Tryz.prog entsC hsTz66 false false 66
def hsTz126:Hints:=[]
noncomputable def mfTz126:MFn:=mfD Tryz.prog entsC hsTz126 false false 126
def hsTz146:Hints:=[]
noncomputable def mfTz146:MFn:=mfD Tryz.prog entsC hsTz146 false false 146
def hsTz161:Hints:=[]
noncomputable def mfTz161:MFn:=mfD Tryz.prog entsC hsTz161 false false 161
def hsTz68:Hints:=[]
noncomputable def mfTz68:MFn:=mfD Tryz.prog entsC hsTz68 false false 68
def hsTz148:Hints:=[⟨35,[false,false,false,true,true,true,false,false,false,false,false,false,false,false,true,true,true],[],[],[(1,([false,false,false,false,true,true],([],[])))]⟩]
noncomputable def mfTz148:MFn:=mfD Tryz.prog entsC hsTz148 false false 148
def hsTz158:Hints:=[]
noncomputable def mfTz158:MFn:=mfD Tryz.prog entsC hsTz158 false false 158
def hsTz212:Hints:=[]
noncomputable def mfTz212:MFn:=mfD Tryz.prog entsC hsTz212 false false 212
def hsTz243:Hints:=[⟨68,[false,true,false,false,false,true,false,false,false,false,false,false,false,false,false,false,false,false,true,true,true],[],[],[(1,([false,false,false,false,false,true],([],[])))]⟩,⟨68,[false,true,false,false,false,true,true,true,true,false,false,false,false,false,false,false,false,false,true,true,true,false,false,false,false,true,true,true],[],[],[(3,([false,true,false,false,false,true,true,false,true,false,false,false,false,false,false,false,false,false,true,true,true],([],[])))]⟩]
noncomputable def mfTz243:MFn:=mfD Tryz.prog entsC hsTz243 false false 243
def hsTz244:Hints:=[]
noncomputable def mfTz244:MFn:=mfD Tryz.prog entsC hsTz244 false false 244
def hsTz266:Hints:=[]
noncomputable def mfTz266:MFn:=mfD Tryz.prog entsC hsTz266 false false 266
def hsTz267:Hints:=[]
noncomputable def mfTz267:MFn:=mfD Tryz.prog entsC hsTz267 false false 267
def hsTz125:Hints:=[]
noncomputable def mfTz125:MFn:=mfD Tryz.prog entsC hsTz125 false false 125
def hsTz127:Hints:=[]
noncomputable def mfTz127:MFn:=mfD Tryz.prog entsC hsTz127 false false 127
def hsTz185:Hints:=[]
noncomputable def mfTz185:MFn:=mfD Tryz.prog entsC hsTz185 false false 185
def hsTz230:Hints:=[⟨36,[true,false,false,true,false,false,false,false,false,true,true,true],[],[],[(1,([true,false,false,true],([],[])))]⟩,⟨36,[false,false,false,false,false,false,true,false,false,false,false,false,false,false,false,false,false,false,false,false,false,false,false,false,false,true,true,true],[],[],[(3,([false,false,false,false,false,false,true],([],[])))]⟩]
noncomputable def mfTz230:MFn:=mfD Tryz.prog entsC hsTz230 false false 230
def hsTz213:Hints:=[]
noncomputable def mfTz213:MFn:=mfD Tryz.prog entsC hsTz213 false false 213
def hsTz83:Hints:=[]
noncomputable def mfTz83:MFn:=mfD Tryz.prog entsC hsTz83 false false 83
def hsTz154:Hints:=[]
noncomputable def mfTz154:MFn:=mfD Tryz.prog entsC hsTz154 false false 154
def hsTz155:Hints:=[]
noncomputable def mfTz155:MFn:=mfD Tryz.prog entsC hsTz155 false false 155
def hsTz82:Hints:=[⟨18,[false,false,false,true,false,false,true,true,true],[],[],[(0,([false,false,true],([],[]))),(1,([false,false,false,true],([],[])))]⟩]
noncomputable def mfTz82:MFn:=mfD Tryz.prog entsC hsTz82 false false 82
def hsTz156:Hints:=[⟨39,[true,true,true,false,false,false,false,false,false,false,false,true,true,true],[],[],[(0,([false,false,false,false,false,false,true],([],[]))),(1,([true,true],([],[])))]⟩]
noncomputable def mfTz156:MFn:=mfD Tryz.prog entsC hsTz156 false false 156
def hsTz160:Hints:=[]
noncomputable def mfTz160:MFn:=mfD Tryz.prog entsC hsTz160 false true 160
def hsTz162:Hints:=[]
noncomputable def mfTz162:MFn:=mfD Tryz.prog entsC hsTz162 false true 162
def hsTz89:Hints:=[]
noncomputable def mfTz89:MFn:=mfD Tryz.prog entsC hsTz89 false true 89
def hsTz27:Hints:=[]
noncomputable def mfTz27:MFn:=mfD Tryz.prog entsC hsTz27 false false 27
def hsTz28:Hints:=[]
noncomputable def mfTz28:MFn:=mfD Tryz.prog entsC hsTz28 false false 28
def hsTz90:Hints:=[]
noncomputable def mfTz90:MFn:=mfD Tryz.prog entsC hsTz90 false false 90
def hsTz164:Hints:=[]
noncomputable def mfTz164:MFn:=mfD Tryz.prog entsC hsTz164 false false 164
def hsTz223:Hints:=[]
noncomputable def mfTz223:MFn:=mfD Tryz.prog entsC hsTz223 false false 223
def hsTz163:Hints:=[⟨148,[true,true,true,true,true,false,false,false,false,false,true,true],[],[],[(0,([],([],[1000000])))]⟩]
noncomputable def mfTz163:MFn:=mfD Tryz.prog entsC hsTz163 false false 163
def hsTz214:Hints:=[⟨53,[true,true,true,true,false,false,false,false,true],[],[],[(1,([],([],[1000000])))]⟩,⟨53,[true,true,true,true,false,false,false,false,true,true],[],[],[(3,([true,true,true,true,false,false,false,false,true],([],[1000000])))]⟩]
noncomputable def mfTz214:MFn:=mfD Tryz.prog entsC hsTz214 false false 214
noncomputable def tabTz:List (Nat × MFn):=[(17,mfTz17),(62,mfTz62),(136,mfTz136),(196,mfTz196),(234,mfTz234),(235,mfTz235),(265,mfTz265),(275,mfTz275),(137,mfTz137),(84,mfTz84),(157,mfTz157),(138,mfTz138),(145,mfTz145),(202,mfTz202),(200,mfTz200),(139,mfTz139),(197,mfTz197),(198,mfTz198),(201,mfTz201),(140,mfTz140),(199,mfTz199),(141,mfTz141),(64,mfTz64),(142,mfTz142),(63,mfTz63),(65,mfTz65),(67,mfTz67),(147,mfTz147),(205,mfTz205),(144,mfTz144),(203,mfTz203),(184,mfTz184),(204,mfTz204),(237,mfTz237),(222,mfTz222),(238,mfTz238),(239,mfTz239),(240,mfTz240),(241,mfTz241),(242,mfTz242),(143,mfTz143),(66,mfTz66),(126,mfTz126),(146,mfTz146),(161,mfTz161),(68,mfTz68),(148,mfTz148),(158,mfTz158),(212,mfTz212),(243,mfTz243),(244,mfTz244),(266,mfTz266),(267,mfTz267),(125,mfTz125),(127,mfTz127),(185,mfTz185),(230,mfTz230),(213,mfTz213),(83,mfTz83),(154,mfTz154),(155,mfTz155),(82,mfTz82),(156,mfTz156),(160,mfTz160),(162,mfTz162),(89,mfTz89),(27,mfTz27),(28,mfTz28),(90,mfTz90),(164,mfTz164),(223,mfTz223),(163,mfTz163),(214,mfTz214)]
end Go.Proofs.YtpncilciembjdaaGreatDoor
