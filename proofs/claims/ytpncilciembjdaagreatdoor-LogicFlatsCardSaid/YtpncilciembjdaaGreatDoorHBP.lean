/- A seat of D: tables of f -/
import Derived.Test.YtpncilciembjdaaGreatDoorHBO
set_option linter.all false
namespace Go.Proofs.YtpncilciembjdaaGreatDoor
noncomputable section
open Tryz renaming prog->Av9
open Go.RowKit
def AeE:List (List (Nat × MFn)):=[Asr]
def Acj:List (Nat × DF):=[(17,Dd (CO S9)),(125,Dd (CO S8)),(127,Dd (CO Apz)),(64,Dd (CO Aew)),(213,Dd (CO Aev)),(161,Dd (CO Apy)),(68,Dd (CO Aex)),(28,Dd (CO Xj)),(27,Dd (CO AeA)),(155,Dd (CO Aez)),(25,Dd (CO Apx))]
def W5:Seat:=FK ArY AeE.flatten Acj
set_option maxRecDepth 100000 in
theorem ApQ:Gy Av9 B4 AeE:=by
 repeat' first|exact trivial|refine⟨⟨_,_,_,rfl⟩,by kernel_rfl,?_⟩|refine⟨?_,?_⟩
theorem Aav(h:GA Av9 Acj):SeatOk Av9 B4 W5:=EU P7 ES ApQ h
section
open Go.RowKit
theorem gTy(f:Nat):BD (BL Av9 f) ((Dn Ap W5 60).ask (.fn f)):=(He (Aav ⟨Acu,Acs,Aqu,AnL,AnK,Aqt,AnM,AfY,AnQ,AnP,Aqo,trivial⟩) 60).1 f
def ApX(f:Nat):DF:=(Dn Ap W5 60).ask (.fn f)
def Abx:DF:=Dd (Lj ApX)
theorem Vp:BD (BL Av9 33) Abx:=Rs ApX gTy
def Aey:List (Ab × AV):=[([.ls [rL,rG]],.tup [.ls [rL,rG],bv true]),([.ls [WO,rG]],.tup [.ls [rG,WO],bv true])]
set_option maxRecDepth 1000000
theorem At5:Abx [.ls [rL,rG]] []=some (.tup [.ls [rL,rG],bv true],[]):=by kernel_rfl
theorem At6:Abx [.ls [WO,rG]] []=some (.tup [.ls [rG,WO],bv true],[]):=by kernel_rfl
theorem AnN:BD (BL Av9 33) (Dd (CO Aey)):=C0 Vp _ (by
 unfold Aey;simp only[List.mem_cons,List.not_mem_nil,or_false];rintro p (rfl|rfl)
 .exact At5
 .exact At6)
end
def ArX:List (Nat × Nat):=[(136,0),(196,0),(234,0),(235,0),(265,0),(275,0),(140,0),(199,0),(262,0),(264,0),(261,0)]
def AoQ:MFn:=AN [] 39
def AiH:MFn:=AN [⟨69,(mB 234881072),[],[],[(2,((mB 48),([],[])))]⟩] 104
def AoS:MFn:=AN [] 95
def AiJ:MFn:=AN [] 172
def AiK:MFn:=AN [⟨68,(mB 1841),[],[],[(0,((mB 16),([],[]))),(1,((mB 49),([],[])))]⟩] 173
def AiL:MFn:=AN [⟨22,(mB 1826),[],[],[(1,((mB 32),([],[])))]⟩] 174
def AoR:MFn:=AN [⟨41,(mB 58720512),[],[],[(1,((mB 256),([],[])))]⟩] 47
def AiI:MFn:=AN [] 117
def AiM:MFn:=AN [⟨39,(mB 14402),[],[],[(0,((mB 48),([],[]))),(1,((mB 64),([],[])))]⟩] 176
def AiN:MFn:=AN [⟨69,(mB 917570),[],[],[(0,((mB 48),([],[]))),(1,((mB 64),([],[])))]⟩,⟨69,(mB 246290605541890),[],[],[(3,((mB 919554),([],[])))]⟩,⟨69,(mB 16008889301346818),[],[],[(5,((mB 246290605541890),([],[])))]⟩] 177
def AiO:MFn:=AN [⟨36,(mB 3593),[],[],[(1,((mB 9),([],[])))]⟩,⟨36,(mB 234881088),[],[],[(3,((mB 64),([],[])))]⟩] 227
def Asq:List (Nat × MFn):=[(39,AoQ),(104,AiH),(95,AoS),(172,AiJ),(173,AiK),(174,AiL),(47,AoR),(117,AiI),(176,AiM),(177,AiN),(227,AiO)]
def AeD:List (List (Nat × MFn)):=[Asq]
def Aci:List (Nat × DF):=[(17,Dd (CO S9)),(23,Dd (CO Aeu)),(33,Dd (CO Aey)),(261,DH 4 (D4 64))]
def W0:Seat:=FK ArX AeD.flatten Aci
set_option maxRecDepth 100000 in
theorem ApM:Gy Av9 B4 AeD:=by
 repeat' first|exact trivial|refine⟨⟨_,_,_,rfl⟩,by kernel_rfl,?_⟩|refine⟨?_,?_⟩
theorem Aar(h:GA Av9 Aci):SeatOk Av9 B4 W0:=EU P7 ES ApM h
