/-
  rel.Tidy's answers on what a closed run reaches.
  Functions of the program as trees: what a call comes to.
-/
import Derived.Test.YtpncilciembjdaaGreatDoorABE
import Derived.Test.YtpncilciembjdaaGreatDoorAAX
set_option linter.unusedSectionVars false
set_option linter.unusedSimpArgs false
set_option linter.unusedVariables false
namespace Go.Proofs.YtpncilciembjdaaGreatDoor
open Go.RowKit
theorem gTz(f:Nat):GoodD (SemFn Tryz.prog f) ((Dn realA seatTz 60).ask (.fn f)):=(dn_good (seatTz_ok clone_nat cloneD_part grow_part) 60).1 f
noncomputable def dqTz(f:Nat):DF:=(Dn realA seatTz 60).ask (.fn f)
theorem tidyTz_good:GoodD (SemFn Tryz.prog 33) (extD (resTidy dqTz)):=tidy_good dqTz gTz
end Go.Proofs.YtpncilciembjdaaGreatDoor
namespace Go.Proofs.YtpncilciembjdaaGreatDoor
open Go.RowKit
def ownAx:List (Nat × Nat):=[(136,0),(196,0),(234,0),(235,0),(265,0),(275,0),(140,0),(199,0),(262,0),(264,0)]
def hsAx62:Hints:=[⟨74,[false,false,true,false,true,false,false,false,false,false,false,false,false,false,false,false,false,true,true,true],[],[],[(1,([false,false,true,false,true],([],[])))]⟩]
noncomputable def mfAx62:MFn:=mfD Tryz.prog entsC hsAx62 false false 62
def hsAx136:Hints:=[]
noncomputable def mfAx136:MFn:=mfD Tryz.prog entsC hsAx136 false false 136
def hsAx196:Hints:=[⟨63,[true,true,true,false,false,false,true,true,true],[],[],[(1,([true,true,true,false,false,false,true,true],([],[1000000])))]⟩,⟨63,[true,true,true,false,false,false,true],[],[],[(3,([],([],[1000000])))]⟩,⟨63,[true,true,true,false,false,false,true,true,true],[],[],[(5,([true,true,true,false,false,false,true,true],([],[1000000])))]⟩]
noncomputable def mfAx196:MFn:=mfD Tryz.prog entsC hsAx196 false false 196
def hsAx234:Hints:=[⟨53,[true,true,true,true,false,false,false,false,true],[],[],[(1,([],([],[1000000])))]⟩,⟨53,[true,true,true,true,false,false,false,false,true,true],[],[],[(3,([true,true,true,true,false,false,false,false,true],([],[1000000])))]⟩]
noncomputable def mfAx234:MFn:=mfD Tryz.prog entsC hsAx234 false false 234
def hsAx235:Hints:=[⟨220,[true,true,false,false,true,false,false,false,false,false,true,true],[],[],[(1,([true,true,false,false,false,false,false,false,false,false,true],([],[1000000])))]⟩,⟨220,[true,false,false,false,false,false,false,false,false,false,true,false,false,true],[],[],[(3,([],([],[1000000])))]⟩,⟨220,[true,false,true,false,true,false,false,false,false,false,false,false,false,false,true,true],[],[],[(5,([true,false,true,false,false,false,false,false,false,false,false,false,false,false,true],([],[1000000])))]⟩,⟨220,[true,false,false,false,false,false,false,false,false,false,false,false,false,false,true,false,false,true],[],[],[(7,([],([],[1000000])))]⟩,⟨220,[true,true,true,true,true,false,false,false,false,false,false,false,false,false,false,false,false,false,true,true,true,true,true],[],[],[(9,([true,true,true,true,true,false,false,false,false,false,false,false,false,false,false,false,false,false,true,true,true],([],[1000000])))]⟩]
noncomputable def mfAx235:MFn:=mfD Tryz.prog entsC hsAx235 false false 235
def hsAx265:Hints:=[⟨58,[true,false,true,false,true,false,false,false,false,false,true,true],[],[],[(1,([true,false,true,false,true,false,false,false,false,false,true],([],[1000000])))]⟩]
noncomputable def mfAx265:MFn:=mfD Tryz.prog entsC hsAx265 false false 265
def hsAx275:Hints:=[⟨38,[true,true,true,true,false,false,false,false,false,false,true],[],[],[(1,([],([],[1000000])))]⟩]
noncomputable def mfAx275:MFn:=mfD Tryz.prog entsC hsAx275 false false 275
def hsAx137:Hints:=[]
noncomputable def mfAx137:MFn:=mfD Tryz.prog entsC hsAx137 false false 137
def hsAx84:Hints:=[]
noncomputable def mfAx84:MFn:=mfD Tryz.prog entsC hsAx84 false false 84
def hsAx157:Hints:=[]
noncomputable def mfAx157:MFn:=mfD Tryz.prog entsC hsAx157 false false 157
def hsAx138:Hints:=[]
noncomputable def mfAx138:MFn:=mfD Tryz.prog entsC hsAx138 false false 138
def hsAx145:Hints:=[]
noncomputable def mfAx145:MFn:=mfD Tryz.prog entsC hsAx145 false false 145
def hsAx202:Hints:=[]
noncomputable def mfAx202:MFn:=mfD Tryz.prog entsC hsAx202 false false 202
def hsAx200:Hints:=[⟨21,[true,false,false,true],[],[],[(1,([true,false,false,true],([],[])))]⟩]
noncomputable def mfAx200:MFn:=mfD Tryz.prog entsC hsAx200 false false 200
def hsAx139:Hints:=[]
noncomputable def mfAx139:MFn:=mfD Tryz.prog entsC hsAx139 false false 139
def hsAx197:Hints:=[⟨61,[false,true,false,false,false,true,true,false,false,false,false,false,false,false,false,false,false,false,false,false,false,false,false,false,false,true,true,true],[],[],[(1,([false,false,false,false,false,true,true],([],[])))]⟩]
noncomputable def mfAx197:MFn:=mfD Tryz.prog entsC hsAx197 false false 197
def hsAx198:Hints:=[⟨59,[false,true,false,false,false,false,true,true,false,false,false,false,false,false,false,false,false,false,false,false,false,false,false,true,true,true],[],[],[(1,([false,false,false,false,false,false,true],([],[])))]⟩]
noncomputable def mfAx198:MFn:=mfD Tryz.prog entsC hsAx198 false false 198
def hsAx201:Hints:=[⟨49,[true,true,false,false,false,true],[],[],[(0,([false,false,false,false,true],([],[]))),(2,([],([],[])))]⟩]
noncomputable def mfAx201:MFn:=mfD Tryz.prog entsC hsAx201 false false 201
def hsAx140:Hints:=[⟨42,[true,true,false,false,false,true,true],[],[],[(1,([true,false,false,false,false,true],([],[1000000])))]⟩]
noncomputable def mfAx140:MFn:=mfD Tryz.prog entsC hsAx140 true false 140
def hsAx199:Hints:=[⟨19,[true,true,false,false,false,false,false,true,true],[],[],[(0,([false,false,false,false,true],([],[1000000]))),(1,([],([],[1000000])))]⟩]
noncomputable def mfAx199:MFn:=mfD Tryz.prog entsC hsAx199 false false 199
def hsAx141:Hints:=[]
noncomputable def mfAx141:MFn:=mfD Tryz.prog entsC hsAx141 false false 141
def hsAx64:Hints:=[]
noncomputable def mfAx64:MFn:=mfD Tryz.prog entsC hsAx64 false false 64
def hsAx142:Hints:=[]
noncomputable def mfAx142:MFn:=mfD Tryz.prog entsC hsAx142 false false 142
def hsAx188:Hints:=[]
noncomputable def mfAx188:MFn:=mfD Tryz.prog entsC hsAx188 false false 188
def hsAx231:Hints:=[]
noncomputable def mfAx231:MFn:=mfD Tryz.prog entsC hsAx231 false false 231
def hsAx263:Hints:=[]
noncomputable def mfAx263:MFn:=mfD Tryz.prog entsC hsAx263 false false 263
def hsAx274:Hints:=[]
noncomputable def mfAx274:MFn:=mfD Tryz.prog entsC hsAx274 false false 274
def hsAx277:Hints:=[]
noncomputable def mfAx277:MFn:=mfD Tryz.prog entsC hsAx277 false false 277
def hsAx278:Hints:=[]
noncomputable def mfAx278:MFn:=mfD Tryz.prog entsC hsAx278 false false 278
def hsAx223:Hints:=[]
noncomputable def mfAx223:MFn:=mfD Tryz.prog entsC hsAx223 false false 223
def hsAx281:Hints:=[]
noncomputable def mfAx281:MFn:=mfD Tryz.prog entsC hsAx281 false false 281
def hsAx282:Hints:=[]
noncomputable def mfAx282:MFn:=mfD Tryz.prog entsC hsAx282 false false 282
def hsAx279:Hints:=[⟨167,[true,true,false,false,true],[],[],[(1,([true,true,false,false,true],([],[])))]⟩]
noncomputable def mfAx279:MFn:=mfD Tryz.prog entsC hsAx279 false false 279
def hsAx280:Hints:=[⟨102,[true,true,false,true,true,false,false,false,false,false,true,true,true,true,true,true,true],[],[],[(1,([true,true,false,true,true,false,false,false,false,false,true,true,true,true],([],[])))]⟩,⟨102,[true,true,false,true,true,false,false,false,false,false,true,true,true,true,false,false,false,true],[],[],[(3,([true,true,false,true,true,false,false,false,false,false,true,true,true,true],([],[])))]⟩]
noncomputable def mfAx280:MFn:=mfD Tryz.prog entsC hsAx280 false false 280
def hsAx283:Hints:=[]
noncomputable def mfAx283:MFn:=mfD Tryz.prog entsC hsAx283 false false 283
def hsAx284:Hints:=[]
noncomputable def mfAx284:MFn:=mfD Tryz.prog entsC hsAx284 false false 284
def hsAx285:Hints:=[]
noncomputable def mfAx285:MFn:=mfD Tryz.prog entsC hsAx285 false false 285
def hsAx286:Hints:=[]
noncomputable def mfAx286:MFn:=mfD Tryz.prog entsC hsAx286 false false 286
def hsAx189:Hints:=[]
noncomputable def mfAx189:MFn:=mfD Tryz.prog entsC hsAx189 false false 189
def hsAx126:Hints:=[]
noncomputable def mfAx126:MFn:=mfD Tryz.prog entsC hsAx126 false false 126
def hsAx184:Hints:=[]
noncomputable def mfAx184:MFn:=mfD Tryz.prog entsC hsAx184 false false 184
def hsAx155:Hints:=[]
noncomputable def mfAx155:MFn:=mfD Tryz.prog entsC hsAx155 false false 155
def hsAx190:Hints:=[]
noncomputable def mfAx190:MFn:=mfD Tryz.prog entsC hsAx190 false false 190
def hsAx232:Hints:=[⟨40,[true,false,false,true],[],[],[(1,([false,false,false,true],([],[])))]⟩,⟨40,[true,false,false,true,true,false,false,false,false,false,false,false,false,false,false,false,false,false,true],[],[],[(3,([true,false,false,true],([],[])))]⟩,⟨40,[false,false,false,true],[],[],[(5,([false,false,false,true],([],[])))]⟩]
noncomputable def mfAx232:MFn:=mfD Tryz.prog entsC hsAx232 false false 232
def hsAx203:Hints:=[⟨44,[true,true,false,false,false,false,true,true,true],[],[],[(1,([false,false,false,false,false,false,true,true],([],[])))]⟩]
noncomputable def mfAx203:MFn:=mfD Tryz.prog entsC hsAx203 false false 203
def hsAx264:Hints:=[⟨28,[true,false,true,true],[],[],[(1,([],([],[1000000])))]⟩]
noncomputable def mfAx264:MFn:=mfD Tryz.prog entsC hsAx264 false false 264
noncomputable def tabAx:List (Nat × MFn):=[(62,mfAx62),(136,mfAx136),(196,mfAx196),(234,mfAx234),(235,mfAx235),(265,mfAx265),(275,mfAx275),(137,mfAx137),(84,mfAx84),(157,mfAx157),(138,mfAx138),(145,mfAx145),(202,mfAx202),(200,mfAx200),(139,mfAx139),(197,mfAx197),(198,mfAx198),(201,mfAx201),(140,mfAx140),(199,mfAx199),(141,mfAx141),(64,mfAx64),(142,mfAx142),(188,mfAx188),(231,mfAx231),(263,mfAx263),(274,mfAx274),(277,mfAx277),(278,mfAx278),(223,mfAx223),(281,mfAx281),(282,mfAx282),(279,mfAx279),(280,mfAx280),(283,mfAx283),(284,mfAx284),(285,mfAx285),(286,mfAx286),(189,mfAx189),(126,mfAx126),(184,mfAx184),(155,mfAx155),(190,mfAx190),(232,mfAx232),(203,mfAx203),(264,mfAx264)]
end Go.Proofs.YtpncilciembjdaaGreatDoor
