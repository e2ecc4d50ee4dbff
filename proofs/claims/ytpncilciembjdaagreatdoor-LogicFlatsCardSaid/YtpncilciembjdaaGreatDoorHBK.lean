/- rel.Tidy's answers on wh -/
import Derived.Test.YtpncilciembjdaaGreatDoorHBJ
set_option linter.all false
namespace Go.Proofs.YtpncilciembjdaaGreatDoor
noncomputable section
open Tryz renaming prog->Av9
open Go.RowKit
theorem gTz(f:Nat):BD (BL Av9 f) ((Dn Ap W6 60).ask (.fn f)):=(He (Aaw ⟨Fk,Ik,I6,trivial⟩) 60).1 f
def Hf(f:Nat):DF:=(Dn Ap W6 60).ask (.fn f)
theorem Vq:BD (BL Av9 33) (Dd (Lj Hf)):=Rs Hf gTz
def ArW:List (Nat × Nat):=[(136,0),(196,0),(234,0),(235,0),(265,0),(275,0),(140,0),(199,0),(262,0),(264,0)]
def AoN:MFn:=AN [⟨74,(mB 917524),[],[],[(1,((mB 20),([],[])))]⟩] 62
def Ah1:MFn:=AN [] 136
def Aif:MFn:=AN [⟨63,(mB 455),[],[],[(1,((mB 199),([],[1000000])))]⟩,⟨63,(mB 71),[],[],[(3,([],([],[1000000])))]⟩,⟨63,(mB 455),[],[],[(5,((mB 199),([],[1000000])))]⟩] 196
def Aiq:MFn:=AN [⟨53,(mB 271),[],[],[(1,([],([],[1000000])))]⟩,⟨53,(mB 783),[],[],[(3,((mB 271),([],[1000000])))]⟩] 234
def Air:MFn:=AN [⟨220,(mB 3091),[],[],[(1,((mB 1027),([],[1000000])))]⟩,⟨220,(mB 9217),[],[],[(3,([],([],[1000000])))]⟩,⟨220,(mB 49173),[],[],[(5,((mB 16389),([],[1000000])))]⟩,⟨220,(mB 147457),[],[],[(7,([],([],[1000000])))]⟩,⟨220,(mB 8126495),[],[],[(9,((mB 1835039),([],[1000000])))]⟩] 235
def Aiu:MFn:=AN [⟨58,(mB 3093),[],[],[(1,((mB 1045),([],[1000000])))]⟩] 265
def Aiw:MFn:=AN [⟨38,(mB 1039),[],[],[(1,([],([],[1000000])))]⟩] 275
def Ah2:MFn:=AN [] 137
def AoP:MFn:=AN [] 84
def Aia:MFn:=AN [] 157
def Ah3:MFn:=AN [] 138
def Ah8:MFn:=AN [] 145
def Ail:MFn:=AN [] 202
def Aij:MFn:=AN [⟨21,(mB 9),[],[],[(1,((mB 9),([],[])))]⟩] 200
def Ah4:MFn:=AN [] 139
def Aig:MFn:=AN [⟨61,(mB 234881122),[],[],[(1,((mB 96),([],[])))]⟩] 197
def Aih:MFn:=AN [⟨59,(mB 58720450),[],[],[(1,((mB 64),([],[])))]⟩] 198
def Aik:MFn:=AN [⟨49,(mB 35),[],[],[(0,((mB 16),([],[]))),(2,([],([],[])))]⟩] 201
def Ah5:MFn:=NB Av9 B4 [⟨42,(mB 99),[],[],[(1,((mB 33),([],[1000000])))]⟩] true false 140
def Aii:MFn:=AN [⟨19,(mB 387),[],[],[(0,((mB 16),([],[1000000]))),(1,([],([],[1000000])))]⟩] 199
def Ah6:MFn:=AN [] 141
def AoO:MFn:=AN [] 64
def Ah7:MFn:=AN [] 142
def Aic:MFn:=AN [] 188
def Aio:MFn:=AN [] 231
def Ais:MFn:=AN [] 263
def Aiv:MFn:=AN [] 274
def Aix:MFn:=AN [] 277
def Aiy:MFn:=AN [] 278
def Ain:MFn:=AN [] 223
def AiB:MFn:=AN [] 281
def AiC:MFn:=AN [] 282
def Aiz:MFn:=AN [⟨167,(mB 19),[],[],[(1,((mB 19),([],[])))]⟩] 279
def AiA:MFn:=AN [⟨102,(mB 130075),[],[],[(1,((mB 15387),([],[])))]⟩,⟨102,(mB 146459),[],[],[(3,((mB 15387),([],[])))]⟩] 280
def AiD:MFn:=AN [] 283
def AiE:MFn:=AN [] 284
def AiF:MFn:=AN [] 285
def AiG:MFn:=AN [] 286
def Aid:MFn:=AN [] 189
def Ah0:MFn:=AN [] 126
def Aib:MFn:=AN [] 184
def Ah9:MFn:=AN [] 155
def Aie:MFn:=AN [] 190
def Aip:MFn:=AN [⟨40,(mB 9),[],[],[(1,((mB 8),([],[])))]⟩,⟨40,(mB 262169),[],[],[(3,((mB 9),([],[])))]⟩,⟨40,(mB 8),[],[],[(5,((mB 8),([],[])))]⟩] 232
def Aim:MFn:=AN [⟨44,(mB 451),[],[],[(1,((mB 192),([],[])))]⟩] 203
def Ait:MFn:=AN [⟨28,(mB 13),[],[],[(1,([],([],[1000000])))]⟩] 264
def Asp:List (Nat × MFn):=[(62,AoN),(136,Ah1),(196,Aif),(234,Aiq),(235,Air),(265,Aiu),(275,Aiw),(137,Ah2),(84,AoP),(157,Aia),(138,Ah3),(145,Ah8),(202,Ail),(200,Aij),(139,Ah4),(197,Aig),(198,Aih),(201,Aik),(140,Ah5),(199,Aii),(141,Ah6),(64,AoO),(142,Ah7),(188,Aic),(231,Aio),(263,Ais),(274,Aiv),(277,Aix),(278,Aiy),(223,Ain),(281,AiB),(282,AiC),(279,Aiz),(280,AiA),(283,AiD),(284,AiE),(285,AiF),(286,AiG),(189,Aid),(126,Ah0),(184,Aib),(155,Ah9),(190,Aie),(232,Aip),(203,Aim),(264,Ait)]
