/- A seat of D: tables of f -/
import Derived.Test.YtpncilciembjdaaGreatDoorGBL
set_option linter.all false
namespace Go.Proofs.YtpncilciembjdaaGreatDoor
noncomputable section
open Tryz renaming prog->η
open Go.RowKit
def Abk:List (List (Nat × MFn)):=[Am8]
def Zj:List (Nat × DF):=[(17,CA (B6 QP)),(125,CA (B6 QO)),(127,CA (B6 Ak4)),(64,CA (B6 Aa7)),(213,CA (B6 Aa6)),(161,CA (B6 Ak3)),(68,CA (B6 Aa8)),(28,CA (B6 US)),(27,CA (B6 Abb)),(155,CA (B6 Aba)),(25,CA (B6 Ak2))]
def UI:Seat:=D9 AmP Abk.flatten Zj
set_option maxRecDepth 100000 in
theorem Alv:EK η Bt Abk:=by
 repeat' first|exact trivial|refine⟨⟨_,_,_,rfl⟩,by kernel_rfl,?_⟩|refine⟨?_,?_⟩
theorem XB(h:EL η Zj):SeatOk η Bt UI:=DD Nt Dt Alv h
section
open Go.RowKit
theorem gTy(f:Nat):AN (AT η f) ((Dn Ah UI 60).ask (.fn f)):=(FZ (XB ⟨Zq,Zp,AlX,Ajm,Ajl,AlW,Ajn,Aco,Ajr,Ajq,AlS,trivial⟩) 60).1 f
def AlC(f:Nat):DF:=(Dn Ah UI 60).ask (.fn f)
def YF:DF:=CA (JR AlC)
theorem S4:AN (AT η 33) YF:=PB AlC gTy
def Aa9:List (List AV × AV):=[([.ls [rL,rG]],.tup [.ls [rL,rG],bv true]),([.ls [UA,rG]],.tup [.ls [rG,UA],bv true])]
set_option maxRecDepth 1000000
theorem Aoz:YF [.ls [rL,rG]] []=some (.tup [.ls [rL,rG],bv true],[]):=by kernel_rfl
theorem AoA:YF [.ls [UA,rG]] []=some (.tup [.ls [rG,UA],bv true],[]):=by kernel_rfl
theorem Ajo:AN (AT η 33) (CA (B6 Aa9)):=Co S4 _ (by
 unfold Aa9;simp only[List.mem_cons,List.not_mem_nil,or_false];rintro p (rfl|rfl)
 .exact Aoz
 .exact AoA)
end
def AmO:List (Nat × Nat):=[(136,0),(196,0),(234,0),(235,0),(265,0),(275,0),(140,0),(199,0),(262,0),(264,0),(261,0)]
def Akp:MFn:=Au [] 39
def AeU:MFn:=Au [⟨69,(mB 234881072),[],[],[(2,((mB 48),([],[])))]⟩] 104
def Akr:MFn:=Au [] 95
def AeW:MFn:=Au [] 172
def AeX:MFn:=Au [⟨68,(mB 1841),[],[],[(0,((mB 16),([],[]))),(1,((mB 49),([],[])))]⟩] 173
def AeY:MFn:=Au [⟨22,(mB 1826),[],[],[(1,((mB 32),([],[])))]⟩] 174
def Akq:MFn:=Au [⟨41,(mB 58720512),[],[],[(1,((mB 256),([],[])))]⟩] 47
def AeV:MFn:=Au [] 117
def AeZ:MFn:=Au [⟨39,(mB 14402),[],[],[(0,((mB 48),([],[]))),(1,((mB 64),([],[])))]⟩] 176
def Ae0:MFn:=Au [⟨69,(mB 917570),[],[],[(0,((mB 48),([],[]))),(1,((mB 64),([],[])))]⟩,⟨69,(mB 246290605541890),[],[],[(3,((mB 919554),([],[])))]⟩,⟨69,(mB 16008889301346818),[],[],[(5,((mB 246290605541890),([],[])))]⟩] 177
def Ae1:MFn:=Au [⟨36,(mB 3593),[],[],[(1,((mB 9),([],[])))]⟩,⟨36,(mB 234881088),[],[],[(3,((mB 64),([],[])))]⟩] 227
def Am7:List (Nat × MFn):=[(39,Akp),(104,AeU),(95,Akr),(172,AeW),(173,AeX),(174,AeY),(47,Akq),(117,AeV),(176,AeZ),(177,Ae0),(227,Ae1)]
def Abj:List (List (Nat × MFn)):=[Am7]
def Zh:List (Nat × DF):=[(17,CA (B6 QP)),(23,CA (B6 Aa5)),(33,CA (B6 Aa9)),(261,Dy 4 (C9 64))]
def UG:Seat:=D9 AmO Abj.flatten Zh
set_option maxRecDepth 100000 in
theorem Alo:EK η Bt Abj:=by
 repeat' first|exact trivial|refine⟨⟨_,_,_,rfl⟩,by kernel_rfl,?_⟩|refine⟨?_,?_⟩
theorem Xu(h:EL η Zh):SeatOk η Bt UG:=DD Nt Dt Alo h
