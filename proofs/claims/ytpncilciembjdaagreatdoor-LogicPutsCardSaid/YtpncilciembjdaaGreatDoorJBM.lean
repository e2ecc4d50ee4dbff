/- A seat of D: tables of f -/
import Derived.Test.YtpncilciembjdaaGreatDoorJBL
import Derived.Test.YtpncilciembjdaaGreatDoorJAU
set_option linter.all false
namespace Go.Proofs.YtpncilciembjdaaGreatDoor
noncomputable section
open Tryz renaming prog->ζ
open Go.RowKit
def AcR:List (List (Nat × MFn)):=[ApS]
def Aav:List (Nat × DF):=[(236,DS 1 (Ce 1 4)),(135,Gg 3 40),(262,DS 3 (Dy 40))]
def Vs:Seat:=CU Aps AcR.flatten Aav
set_option maxRecDepth 100000 in
theorem AnN:Dp ζ Bn AcR:=by
 repeat' first|exact trivial|refine⟨⟨_,_,_,rfl⟩,by kernel_rfl,?_⟩|refine⟨?_,?_⟩
theorem YG(h:Dr ζ Aav):SeatOk ζ Bn Vs:=Cx GW Cv AnN h
theorem gTz(f:Nat):A1 (Bi ζ f) ((Dn Ah Vs 60).ask (.fn f)):=(Fa (YG ⟨HT,G9,H8,trivial⟩) 60).1 f
def Gk(f:Nat):DF:=(Dn Ah Vs 60).ask (.fn f)
theorem TD:A1 (Bi ζ 33) (CS (J5 Gk)):=PX Gk gTz
def Apo:List (Nat × Nat):=[(136,0),(196,0),(234,0),(235,0),(265,0),(275,0),(140,0),(199,0),(262,0),(264,0)]
def Aml:MFn:=AE [⟨74,(mB 917524),[],[],[(1,((mB 20),([],[])))]⟩] 62
def AfL:MFn:=AE [] 136
def AfZ:MFn:=AE [⟨63,(mB 455),[],[],[(1,((mB 199),([],[1000000])))]⟩,⟨63,(mB 71),[],[],[(3,([],([],[1000000])))]⟩,⟨63,(mB 455),[],[],[(5,((mB 199),([],[1000000])))]⟩] 196
def Aga:MFn:=AE [⟨53,(mB 271),[],[],[(1,([],([],[1000000])))]⟩,⟨53,(mB 783),[],[],[(3,((mB 271),([],[1000000])))]⟩] 234
def Agb:MFn:=AE [⟨220,(mB 3091),[],[],[(1,((mB 1027),([],[1000000])))]⟩,⟨220,(mB 9217),[],[],[(3,([],([],[1000000])))]⟩,⟨220,(mB 49173),[],[],[(5,((mB 16389),([],[1000000])))]⟩,⟨220,(mB 147457),[],[],[(7,([],([],[1000000])))]⟩,⟨220,(mB 8126495),[],[],[(9,((mB 1835039),([],[1000000])))]⟩] 235
def Age:MFn:=AE [⟨58,(mB 3093),[],[],[(1,((mB 1045),([],[1000000])))]⟩] 265
def Agg:MFn:=AE [⟨38,(mB 1039),[],[],[(1,([],([],[1000000])))]⟩] 275
def AfM:MFn:=AE [] 137
def Amn:MFn:=AE [] 84
def AfU:MFn:=AE [] 157
def AfN:MFn:=AE [] 138
def AfS:MFn:=AE [] 145
def Af5:MFn:=AE [] 202
def Af3:MFn:=AE [⟨21,(mB 9),[],[],[(1,((mB 9),([],[])))]⟩] 200
def AfO:MFn:=AE [] 139
def Af0:MFn:=AE [⟨61,(mB 234881122),[],[],[(1,((mB 96),([],[])))]⟩] 197
def Af1:MFn:=AE [⟨59,(mB 58720450),[],[],[(1,((mB 64),([],[])))]⟩] 198
def Af4:MFn:=AE [⟨49,(mB 35),[],[],[(0,((mB 16),([],[]))),(2,([],([],[])))]⟩] 201
def AfP:MFn:=JP ζ Bn [⟨42,(mB 99),[],[],[(1,((mB 33),([],[1000000])))]⟩] true false 140
def Af2:MFn:=AE [⟨19,(mB 387),[],[],[(0,((mB 16),([],[1000000]))),(1,([],([],[1000000])))]⟩] 199
def AfQ:MFn:=AE [] 141
def Amm:MFn:=AE [] 64
def AfR:MFn:=AE [] 142
def AfW:MFn:=AE [] 188
def Af8:MFn:=AE [] 231
def Agc:MFn:=AE [] 263
def Agf:MFn:=AE [] 274
def Agh:MFn:=AE [] 277
def Agi:MFn:=AE [] 278
def Af7:MFn:=AE [] 223
def Agl:MFn:=AE [] 281
def Agm:MFn:=AE [] 282
def Agj:MFn:=AE [⟨167,(mB 19),[],[],[(1,((mB 19),([],[])))]⟩] 279
def Agk:MFn:=AE [⟨102,(mB 130075),[],[],[(1,((mB 15387),([],[])))]⟩,⟨102,(mB 146459),[],[],[(3,((mB 15387),([],[])))]⟩] 280
def Agn:MFn:=AE [] 283
def Ago:MFn:=AE [] 284
def Agp:MFn:=AE [] 285
def Agq:MFn:=AE [] 286
def AfX:MFn:=AE [] 189
def AfK:MFn:=AE [] 126
def AfV:MFn:=AE [] 184
def AfT:MFn:=AE [] 155
def AfY:MFn:=AE [] 190
def Af9:MFn:=AE [⟨40,(mB 9),[],[],[(1,((mB 8),([],[])))]⟩,⟨40,(mB 262169),[],[],[(3,((mB 9),([],[])))]⟩,⟨40,(mB 8),[],[],[(5,((mB 8),([],[])))]⟩] 232
def Af6:MFn:=AE [⟨44,(mB 451),[],[],[(1,((mB 192),([],[])))]⟩] 203
def Agd:MFn:=AE [⟨28,(mB 13),[],[],[(1,([],([],[1000000])))]⟩] 264
def ApM:List (Nat × MFn):=[(62,Aml),(136,AfL),(196,AfZ),(234,Aga),(235,Agb),(265,Age),(275,Agg),(137,AfM),(84,Amn),(157,AfU),(138,AfN),(145,AfS),(202,Af5),(200,Af3),(139,AfO),(197,Af0),(198,Af1),(201,Af4),(140,AfP),(199,Af2),(141,AfQ),(64,Amm),(142,AfR),(188,AfW),(231,Af8),(263,Agc),(274,Agf),(277,Agh),(278,Agi),(223,Af7),(281,Agl),(282,Agm),(279,Agj),(280,Agk),(283,Agn),(284,Ago),(285,Agp),(286,Agq),(189,AfX),(126,AfK),(184,AfV),(155,AfT),(190,AfY),(232,Af9),(203,Af6),(264,Agd)]
def AcO:List (List (Nat × MFn)):=[ApM]
def Aas:List (Nat × DF):=[(236,DS 1 (Ce 1 4)),(135,DS 3 (Ce 3 40)),(262,DS 3 (Dy 40))]
def Vn:Seat:=CU Apo AcO.flatten Aas
set_option maxRecDepth 100000 in
theorem Anv:Dp ζ Bn AcO:=by
 repeat' first|exact trivial|refine⟨⟨_,_,_,rfl⟩,by kernel_rfl,?_⟩|refine⟨?_,?_⟩
theorem Yr(h:Dr ζ Aas):SeatOk ζ Bn Vn:=Cx GW Cv Anv h
