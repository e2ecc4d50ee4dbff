/- rel.Tidy's answers on wh -/
import Derived.Test.YtpncilciembjdaaGreatDoorGBG
set_option linter.all false
namespace Go.Proofs.YtpncilciembjdaaGreatDoor
noncomputable section
open Tryz renaming prog->η
open Go.RowKit
theorem gTz(f:Nat):AN (AT η f) ((Dn Ah UJ 60).ask (.fn f)):=(FZ (XC ⟨HI,Ll,HT,trivial⟩) 60).1 f
def F5(f:Nat):DF:=(Dn Ah UJ 60).ask (.fn f)
theorem S5:AN (AT η 33) (CA (JR F5)):=PB F5 gTz
def AmN:List (Nat × Nat):=[(136,0),(196,0),(234,0),(235,0),(265,0),(275,0),(140,0),(199,0),(262,0),(264,0)]
def Akm:MFn:=Au [⟨74,(mB 917524),[],[],[(1,((mB 20),([],[])))]⟩] 62
def Aee:MFn:=Au [] 136
def Aes:MFn:=Au [⟨63,(mB 455),[],[],[(1,((mB 199),([],[1000000])))]⟩,⟨63,(mB 71),[],[],[(3,([],([],[1000000])))]⟩,⟨63,(mB 455),[],[],[(5,((mB 199),([],[1000000])))]⟩] 196
def AeD:MFn:=Au [⟨53,(mB 271),[],[],[(1,([],([],[1000000])))]⟩,⟨53,(mB 783),[],[],[(3,((mB 271),([],[1000000])))]⟩] 234
def AeE:MFn:=Au [⟨220,(mB 3091),[],[],[(1,((mB 1027),([],[1000000])))]⟩,⟨220,(mB 9217),[],[],[(3,([],([],[1000000])))]⟩,⟨220,(mB 49173),[],[],[(5,((mB 16389),([],[1000000])))]⟩,⟨220,(mB 147457),[],[],[(7,([],([],[1000000])))]⟩,⟨220,(mB 8126495),[],[],[(9,((mB 1835039),([],[1000000])))]⟩] 235
def AeH:MFn:=Au [⟨58,(mB 3093),[],[],[(1,((mB 1045),([],[1000000])))]⟩] 265
def AeJ:MFn:=Au [⟨38,(mB 1039),[],[],[(1,([],([],[1000000])))]⟩] 275
def Aef:MFn:=Au [] 137
def Ako:MFn:=Au [] 84
def Aen:MFn:=Au [] 157
def Aeg:MFn:=Au [] 138
def Ael:MFn:=Au [] 145
def Aey:MFn:=Au [] 202
def Aew:MFn:=Au [⟨21,(mB 9),[],[],[(1,((mB 9),([],[])))]⟩] 200
def Aeh:MFn:=Au [] 139
def Aet:MFn:=Au [⟨61,(mB 234881122),[],[],[(1,((mB 96),([],[])))]⟩] 197
def Aeu:MFn:=Au [⟨59,(mB 58720450),[],[],[(1,((mB 64),([],[])))]⟩] 198
def Aex:MFn:=Au [⟨49,(mB 35),[],[],[(0,((mB 16),([],[]))),(2,([],([],[])))]⟩] 201
def Aei:MFn:=LA η Bt [⟨42,(mB 99),[],[],[(1,((mB 33),([],[1000000])))]⟩] true false 140
def Aev:MFn:=Au [⟨19,(mB 387),[],[],[(0,((mB 16),([],[1000000]))),(1,([],([],[1000000])))]⟩] 199
def Aej:MFn:=Au [] 141
def Akn:MFn:=Au [] 64
def Aek:MFn:=Au [] 142
def Aep:MFn:=Au [] 188
def AeB:MFn:=Au [] 231
def AeF:MFn:=Au [] 263
def AeI:MFn:=Au [] 274
def AeK:MFn:=Au [] 277
def AeL:MFn:=Au [] 278
def AeA:MFn:=Au [] 223
def AeO:MFn:=Au [] 281
def AeP:MFn:=Au [] 282
def AeM:MFn:=Au [⟨167,(mB 19),[],[],[(1,((mB 19),([],[])))]⟩] 279
def AeN:MFn:=Au [⟨102,(mB 130075),[],[],[(1,((mB 15387),([],[])))]⟩,⟨102,(mB 146459),[],[],[(3,((mB 15387),([],[])))]⟩] 280
def AeQ:MFn:=Au [] 283
def AeR:MFn:=Au [] 284
def AeS:MFn:=Au [] 285
def AeT:MFn:=Au [] 286
def Aeq:MFn:=Au [] 189
def Aed:MFn:=Au [] 126
def Aeo:MFn:=Au [] 184
def Aem:MFn:=Au [] 155
def Aer:MFn:=Au [] 190
def AeC:MFn:=Au [⟨40,(mB 9),[],[],[(1,((mB 8),([],[])))]⟩,⟨40,(mB 262169),[],[],[(3,((mB 9),([],[])))]⟩,⟨40,(mB 8),[],[],[(5,((mB 8),([],[])))]⟩] 232
def Aez:MFn:=Au [⟨44,(mB 451),[],[],[(1,((mB 192),([],[])))]⟩] 203
def AeG:MFn:=Au [⟨28,(mB 13),[],[],[(1,([],([],[1000000])))]⟩] 264
def Am6:List (Nat × MFn):=[(62,Akm),(136,Aee),(196,Aes),(234,AeD),(235,AeE),(265,AeH),(275,AeJ),(137,Aef),(84,Ako),(157,Aen),(138,Aeg),(145,Ael),(202,Aey),(200,Aew),(139,Aeh),(197,Aet),(198,Aeu),(201,Aex),(140,Aei),(199,Aev),(141,Aej),(64,Akn),(142,Aek),(188,Aep),(231,AeB),(263,AeF),(274,AeI),(277,AeK),(278,AeL),(223,AeA),(281,AeO),(282,AeP),(279,AeM),(280,AeN),(283,AeQ),(284,AeR),(285,AeS),(286,AeT),(189,Aeq),(126,Aed),(184,Aeo),(155,Aem),(190,Aer),(232,AeC),(203,Aez),(264,AeG)]
