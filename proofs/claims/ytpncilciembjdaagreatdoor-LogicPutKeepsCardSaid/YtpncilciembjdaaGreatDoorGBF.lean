/- Functions of the program -/
import Derived.Test.YtpncilciembjdaaGreatDoorGAM
set_option linter.all false
open Bool renaming false->Ξ,true->U
namespace Go.Proofs.YtpncilciembjdaaGreatDoor
noncomputable section
open Tryz renaming prog->η
open Go.RowKit
def AmQ:List (Nat × Nat):=[(136,0),(196,0),(234,0),(235,0),(265,0),(275,0),(140,0),(199,0),(262,0),(264,0),(62,0),(67,0),(135,0),(90,0),(163,0),(214,0)]
def Aku:MFn:=Au [] 17
def Akx:MFn:=LA η Bt [⟨74,(mB 917524),[],[],[(1,((mB 20),([],[1000000])))]⟩] U Ξ 62
def Afc:MFn:=Au [] 136
def AfB:MFn:=Au [⟨63,(mB 455),[],[],[(1,((mB 199),([],[1000000])))]⟩,⟨63,(mB 71),[],[],[(3,([],([],[1000000])))]⟩,⟨63,(mB 455),[],[],[(5,((mB 199),([],[1000000])))]⟩] 196
def AfR:MFn:=Au [⟨53,(mB 271),[],[],[(1,([],([],[1000000])))]⟩,⟨53,(mB 783),[],[],[(3,((mB 271),([],[1000000])))]⟩] 234
def AfS:MFn:=Au [⟨220,(mB 3091),[],[],[(1,((mB 1027),([],[1000000])))]⟩,⟨220,(mB 9217),[],[],[(3,([],([],[1000000])))]⟩,⟨220,(mB 49173),[],[],[(5,((mB 16389),([],[1000000])))]⟩,⟨220,(mB 147457),[],[],[(7,([],([],[1000000])))]⟩,⟨220,(mB 8126495),[],[],[(9,((mB 1835039),([],[1000000])))]⟩] 235
def Af1:MFn:=Au [⟨58,(mB 3093),[],[],[(1,((mB 1045),([],[1000000])))]⟩] 265
def Af4:MFn:=Au [⟨38,(mB 1039),[],[],[(1,([],([],[1000000])))]⟩] 275
def Afd:MFn:=Au [] 137
def AkG:MFn:=Au [] 84
def Afs:MFn:=Au [] 157
def Afe:MFn:=Au [] 138
def Afl:MFn:=Au [] 145
def AfH:MFn:=Au [] 202
def AfF:MFn:=Au [⟨21,(mB 9),[],[],[(1,((mB 9),([],[])))]⟩] 200
def Aff:MFn:=Au [] 139
def AfC:MFn:=Au [⟨61,(mB 234881122),[],[],[(1,((mB 96),([],[])))]⟩] 197
def AfD:MFn:=Au [⟨59,(mB 58720450),[],[],[(1,((mB 64),([],[])))]⟩] 198
def AfG:MFn:=Au [⟨49,(mB 35),[],[],[(0,((mB 16),([],[]))),(2,([],([],[])))]⟩] 201
def Afg:MFn:=LA η Bt [⟨42,(mB 99),[],[],[(1,((mB 33),([],[1000000])))]⟩] U Ξ 140
def AfE:MFn:=Au [⟨19,(mB 387),[],[],[(0,((mB 16),([],[1000000]))),(1,([],([],[1000000])))]⟩] 199
def Afh:MFn:=Au [] 141
def Akz:MFn:=Au [] 64
def Afi:MFn:=Au [] 142
def Aky:MFn:=Au [] 63
def AkA:MFn:=Au [⟨49,(mB 1835068),[],[],[(1,((mB 60),([],[])))]⟩] 65
def AkC:MFn:=Au [⟨21,(mB 3596),[],[],[(1,((mB 12),([],[1000000])))]⟩] 67
def Afn:MFn:=Au [] 147
def AfK:MFn:=Au [⟨25,[U,U],[],[],[(1,([U],([],[])))]⟩] 205
def Afk:MFn:=Au [] 144
def AfI:MFn:=Au [⟨44,(mB 451),[],[],[(1,((mB 192),([],[])))]⟩] 203
def Afz:MFn:=Au [] 184
def AfJ:MFn:=Au [⟨96,(mB 14544),[],[],[(1,((mB 6224),([],[])))]⟩] 204
def AfT:MFn:=Au [] 237
def AfO:MFn:=Au [] 222
def AfU:MFn:=Au [⟨58,(mB 30064771968),[],[],[(2,((mB 768),([],[])))]⟩] 238
def AfV:MFn:=Au [⟨67,(mB 931),[],[],[(1,((mB 256),([],[])))]⟩] 239
def AfW:MFn:=Au [⟨74,(mB 917895),[],[],[(1,((mB 387),([],[])))]⟩] 240
def AfX:MFn:=Au [⟨42,(mB 1811),[],[],[(1,((mB 19),([],[])))]⟩] 241
def AfY:MFn:=Au [⟨61,(mB 449),[],[],[(1,((mB 128),([],[])))]⟩] 242
def Afj:MFn:=Au [] 143
def AkB:MFn:=Au [] 66
def Afa:MFn:=Au [] 126
def Afm:MFn:=Au [] 146
def Afv:MFn:=Au [] 161
def AkD:MFn:=Au [] 68
def Afo:MFn:=Au [⟨35,(mB 114744),[],[],[(1,((mB 48),([],[])))]⟩] 148
def Aft:MFn:=Au [] 158
def AfL:MFn:=Au [] 212
def AfZ:MFn:=Au [⟨68,(mB 1835042),[],[],[(1,((mB 32),([],[])))]⟩,⟨68,(mB 236716514),[],[],[(3,((mB 1835362),([],[])))]⟩] 243
def Af0:MFn:=Au [] 244
def Af2:MFn:=Au [] 266
def Af3:MFn:=Au [] 267
def Ae9:MFn:=Au [] 125
def Afb:MFn:=Au [] 127
def AfA:MFn:=Au [] 185
def AfQ:MFn:=Au [⟨36,(mB 3593),[],[],[(1,((mB 9),([],[])))]⟩,⟨36,(mB 234881088),[],[],[(3,((mB 64),([],[])))]⟩] 230
def AfM:MFn:=Au [] 213
def AkF:MFn:=Au [] 83
def Afp:MFn:=Au [] 154
def Afq:MFn:=Au [] 155
def AkE:MFn:=Au [⟨18,(mB 456),[],[],[(0,([Ξ,Ξ,U],([],[]))),(1,((mB 8),([],[])))]⟩] 82
def Afr:MFn:=Au [⟨39,(mB 14343),[],[],[(0,((mB 64),([],[]))),(1,([U,U],([],[])))]⟩] 156
def Afu:MFn:=LA η Bt [] Ξ U 160
def Afw:MFn:=LA η Bt [] Ξ U 162
def AkH:MFn:=LA η Bt [] Ξ U 89
def Akv:MFn:=Au [] 27
def Akw:MFn:=Au [] 28
def AkI:MFn:=Au [] 90
def Afy:MFn:=Au [] 164
def AfP:MFn:=Au [] 223
def Afx:MFn:=Au [⟨148,(mB 3103),[],[],[(0,([],([],[1000000])))]⟩] 163
def AfN:MFn:=Au [⟨53,(mB 271),[],[],[(1,([],([],[1000000])))]⟩,⟨53,(mB 783),[],[],[(3,((mB 271),([],[1000000])))]⟩] 214
def Am9:List (Nat × MFn):=[(17,Aku),(62,Akx),(136,Afc),(196,AfB),(234,AfR),(235,AfS),(265,Af1),(275,Af4),(137,Afd),(84,AkG),(157,Afs),(138,Afe),(145,Afl),(202,AfH),(200,AfF),(139,Aff),(197,AfC),(198,AfD),(201,AfG),(140,Afg),(199,AfE),(141,Afh),(64,Akz),(142,Afi),(63,Aky),(65,AkA),(67,AkC),(147,Afn),(205,AfK),(144,Afk),(203,AfI),(184,Afz),(204,AfJ),(237,AfT),(222,AfO),(238,AfU),(239,AfV),(240,AfW),(241,AfX),(242,AfY),(143,Afj),(66,AkB),(126,Afa),(146,Afm),(161,Afv),(68,AkD),(148,Afo),(158,Aft),(212,AfL),(243,AfZ),(244,Af0),(266,Af2),(267,Af3),(125,Ae9),(127,Afb),(185,AfA),(230,AfQ),(213,AfM),(83,AkF),(154,Afp),(155,Afq),(82,AkE),(156,Afr),(160,Afu),(162,Afw),(89,AkH),(27,Akv),(28,Akw),(90,AkI),(164,Afy),(223,AfP),(163,Afx),(214,AfN)]
