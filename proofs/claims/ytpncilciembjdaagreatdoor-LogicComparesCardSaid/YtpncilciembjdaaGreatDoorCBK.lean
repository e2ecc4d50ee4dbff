/- rel.Tidy's answers on wh -/
import Derived.Test.YtpncilciembjdaaGreatDoorCBJ
set_option linter.all false
namespace Go.Proofs.YtpncilciembjdaaGreatDoor
noncomputable section
open Tryz renaming prog->ι
open Go.RowKit
theorem gTz(f:Nat):Be (Bk ι f) ((Dn Af Wj 60).ask (.fn f)):=(GR (ZD ⟨E5,HI,IQ,trivial⟩) 60).1 f
def GS(f:Nat):DF:=(Dn Af Wj 60).ask (.fn f)
theorem UM:Be (Bk ι 33) (CU (KV GS)):=QP GS gTz
def Aqc:List (Nat × Nat):=[(136,0),(196,0),(234,0),(235,0),(265,0),(275,0),(140,0),(199,0),(262,0),(264,0)]
def Am8:MFn:=AC [⟨74,(mB 917524),[],[],[(1,((mB 20),([],[])))]⟩] 62
def AgF:MFn:=AC [] 136
def AgT:MFn:=AC [⟨63,(mB 455),[],[],[(1,((mB 199),([],[1000000])))]⟩,⟨63,(mB 71),[],[],[(3,([],([],[1000000])))]⟩,⟨63,(mB 455),[],[],[(5,((mB 199),([],[1000000])))]⟩] 196
def Ag4:MFn:=AC [⟨53,(mB 271),[],[],[(1,([],([],[1000000])))]⟩,⟨53,(mB 783),[],[],[(3,((mB 271),([],[1000000])))]⟩] 234
def Ag5:MFn:=AC [⟨220,(mB 3091),[],[],[(1,((mB 1027),([],[1000000])))]⟩,⟨220,(mB 9217),[],[],[(3,([],([],[1000000])))]⟩,⟨220,(mB 49173),[],[],[(5,((mB 16389),([],[1000000])))]⟩,⟨220,(mB 147457),[],[],[(7,([],([],[1000000])))]⟩,⟨220,(mB 8126495),[],[],[(9,((mB 1835039),([],[1000000])))]⟩] 235
def Ag8:MFn:=AC [⟨58,(mB 3093),[],[],[(1,((mB 1045),([],[1000000])))]⟩] 265
def Aha:MFn:=AC [⟨38,(mB 1039),[],[],[(1,([],([],[1000000])))]⟩] 275
def AgG:MFn:=AC [] 137
def Ana:MFn:=AC [] 84
def AgO:MFn:=AC [] 157
def AgH:MFn:=AC [] 138
def AgM:MFn:=AC [] 145
def AgZ:MFn:=AC [] 202
def AgX:MFn:=AC [⟨21,(mB 9),[],[],[(1,((mB 9),([],[])))]⟩] 200
def AgI:MFn:=AC [] 139
def AgU:MFn:=AC [⟨61,(mB 234881122),[],[],[(1,((mB 96),([],[])))]⟩] 197
def AgV:MFn:=AC [⟨59,(mB 58720450),[],[],[(1,((mB 64),([],[])))]⟩] 198
def AgY:MFn:=AC [⟨49,(mB 35),[],[],[(0,((mB 16),([],[]))),(2,([],([],[])))]⟩] 201
def AgJ:MFn:=LO ι Bz [⟨42,(mB 99),[],[],[(1,((mB 33),([],[1000000])))]⟩] true false 140
def AgW:MFn:=AC [⟨19,(mB 387),[],[],[(0,((mB 16),([],[1000000]))),(1,([],([],[1000000])))]⟩] 199
def AgK:MFn:=AC [] 141
def Am9:MFn:=AC [] 64
def AgL:MFn:=AC [] 142
def AgQ:MFn:=AC [] 188
def Ag2:MFn:=AC [] 231
def Ag6:MFn:=AC [] 263
def Ag9:MFn:=AC [] 274
def Ahb:MFn:=AC [] 277
def Ahc:MFn:=AC [] 278
def Ag1:MFn:=AC [] 223
def Ahf:MFn:=AC [] 281
def Ahg:MFn:=AC [] 282
def Ahd:MFn:=AC [⟨167,(mB 19),[],[],[(1,((mB 19),([],[])))]⟩] 279
def Ahe:MFn:=AC [⟨102,(mB 130075),[],[],[(1,((mB 15387),([],[])))]⟩,⟨102,(mB 146459),[],[],[(3,((mB 15387),([],[])))]⟩] 280
def Ahh:MFn:=AC [] 283
def Ahi:MFn:=AC [] 284
def Ahj:MFn:=AC [] 285
def Ahk:MFn:=AC [] 286
def AgR:MFn:=AC [] 189
def AgE:MFn:=AC [] 126
def AgP:MFn:=AC [] 184
def AgN:MFn:=AC [] 155
def AgS:MFn:=AC [] 190
def Ag3:MFn:=AC [⟨40,(mB 9),[],[],[(1,((mB 8),([],[])))]⟩,⟨40,(mB 262169),[],[],[(3,((mB 9),([],[])))]⟩,⟨40,(mB 8),[],[],[(5,((mB 8),([],[])))]⟩] 232
def Ag0:MFn:=AC [⟨44,(mB 451),[],[],[(1,((mB 192),([],[])))]⟩] 203
def Ag7:MFn:=AC [⟨28,(mB 13),[],[],[(1,([],([],[1000000])))]⟩] 264
def Aqt:List (Nat × MFn):=[(62,Am8),(136,AgF),(196,AgT),(234,Ag4),(235,Ag5),(265,Ag8),(275,Aha),(137,AgG),(84,Ana),(157,AgO),(138,AgH),(145,AgM),(202,AgZ),(200,AgX),(139,AgI),(197,AgU),(198,AgV),(201,AgY),(140,AgJ),(199,AgW),(141,AgK),(64,Am9),(142,AgL),(188,AgQ),(231,Ag2),(263,Ag6),(274,Ag9),(277,Ahb),(278,Ahc),(223,Ag1),(281,Ahf),(282,Ahg),(279,Ahd),(280,Ahe),(283,Ahh),(284,Ahi),(285,Ahj),(286,Ahk),(189,AgR),(126,AgE),(184,AgP),(155,AgN),(190,AgS),(232,Ag3),(203,Ag0),(264,Ag7)]
