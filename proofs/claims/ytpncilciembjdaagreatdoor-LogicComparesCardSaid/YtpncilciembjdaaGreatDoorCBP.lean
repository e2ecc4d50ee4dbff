/- A seat of D: tables of f -/
import Derived.Test.YtpncilciembjdaaGreatDoorCBO
set_option linter.all false
namespace Go.Proofs.YtpncilciembjdaaGreatDoor
noncomputable section
open Tryz renaming prog->ι
open Go.RowKit
def AdB:List (List (Nat × MFn)):=[Aqv]
def Abh:List (Nat × DF):=[(17,CU (Cs Sq)),(125,CU (Cs Sp)),(127,CU (Cs AnX)),(64,CU (Cs Adt)),(213,CU (Cs Ads)),(161,CU (Cs AnW)),(68,CU (Cs Adu)),(28,CU (Cs Wt)),(27,CU (Cs Adx)),(155,CU (Cs Adw)),(25,CU (Cs AnV))]
def Wi:Seat:=Fr Aqe AdB.flatten Abh
set_option maxRecDepth 100000 in
theorem Aom:Ga ι Bz AdB:=by
 repeat' first|exact trivial|refine⟨⟨_,_,_,rfl⟩,by kernel_rfl,?_⟩|refine⟨?_,?_⟩
theorem ZC(h:Gb ι Abh):SeatOk ι Bz Wi:=ED PN EB Aom h
section
open Go.RowKit
theorem gTy(f:Nat):Be (Bk ι f) ((Dn Af Wi 60).ask (.fn f)):=(GR (ZC ⟨Abq,Abp,Ao4,Al9,Al8,Ao3,Ama,AeK,Ame,Amd,AoY,trivial⟩) 60).1 f
def Aov(f:Nat):DF:=(Dn Af Wi 60).ask (.fn f)
def AaF:DF:=CU (KV Aov)
theorem UL:Be (Bk ι 33) AaF:=QP Aov gTy
def Adv:List (List AV × AV):=[([.ls [rL,rG]],.tup [.ls [rL,rG],bv true]),([.ls [V9,rG]],.tup [.ls [rG,V9],bv true])]
set_option maxRecDepth 1000000
theorem ArU:AaF [.ls [rL,rG]] []=some (.tup [.ls [rL,rG],bv true],[]):=by kernel_rfl
theorem ArV:AaF [.ls [V9,rG]] []=some (.tup [.ls [rG,V9],bv true],[]):=by kernel_rfl
theorem Amb:Be (Bk ι 33) (CU (Cs Adv)):=CH UL _ (by
 unfold Adv;simp only[List.mem_cons,List.not_mem_nil,or_false];rintro p (rfl|rfl)
 .exact ArU
 .exact ArV)
end
def Aqd:List (Nat × Nat):=[(136,0),(196,0),(234,0),(235,0),(265,0),(275,0),(140,0),(199,0),(262,0),(264,0),(261,0)]
def Anb:MFn:=AC [] 39
def Ahl:MFn:=AC [⟨69,(mB 234881072),[],[],[(2,((mB 48),([],[])))]⟩] 104
def Ane:MFn:=AC [] 95
def Ahn:MFn:=AC [] 172
def Aho:MFn:=AC [⟨68,(mB 1841),[],[],[(0,((mB 16),([],[]))),(1,((mB 49),([],[])))]⟩] 173
def Ahp:MFn:=AC [⟨22,(mB 1826),[],[],[(1,((mB 32),([],[])))]⟩] 174
def Anc:MFn:=AC [⟨41,(mB 58720512),[],[],[(1,((mB 256),([],[])))]⟩] 47
def Ahm:MFn:=AC [] 117
def Ahq:MFn:=AC [⟨39,(mB 14402),[],[],[(0,((mB 48),([],[]))),(1,((mB 64),([],[])))]⟩] 176
def Ahr:MFn:=AC [⟨69,(mB 917570),[],[],[(0,((mB 48),([],[]))),(1,((mB 64),([],[])))]⟩,⟨69,(mB 246290605541890),[],[],[(3,((mB 919554),([],[])))]⟩,⟨69,(mB 16008889301346818),[],[],[(5,((mB 246290605541890),([],[])))]⟩] 177
def Ahs:MFn:=AC [⟨36,(mB 3593),[],[],[(1,((mB 9),([],[])))]⟩,⟨36,(mB 234881088),[],[],[(3,((mB 64),([],[])))]⟩] 227
def Aqu:List (Nat × MFn):=[(39,Anb),(104,Ahl),(95,Ane),(172,Ahn),(173,Aho),(174,Ahp),(47,Anc),(117,Ahm),(176,Ahq),(177,Ahr),(227,Ahs)]
def AdA:List (List (Nat × MFn)):=[Aqu]
def Abg:List (Nat × DF):=[(17,CU (Cs Sq)),(23,CU (Cs Adr)),(33,CU (Cs Adv)),(261,Dj 4 (DI 64))]
def Wg:Seat:=Fr Aqd AdA.flatten Abg
set_option maxRecDepth 100000 in
theorem Aog:Ga ι Bz AdA:=by
 repeat' first|exact trivial|refine⟨⟨_,_,_,rfl⟩,by kernel_rfl,?_⟩|refine⟨?_,?_⟩
theorem Zw(h:Gb ι Abg):SeatOk ι Bz Wg:=ED PN EB Aog h
