/- Branches whose truth is known. How far a cursor co -/
import Derived.Test.YtlmhajfbpplpoaaGreatSAO
import Derived.Test.YtlmhajfbpplpoaaGreatSAQ
import Derived.Test.YtlmhajfbpplpoaaGreatSAS
import Derived.Shelf.Strings.Builder1
import Derived.Shelf.Small.Strs
import Derived.Shelf.Strings.Search1
import Derived.Shelf.Strings.Prefix
import Derived.Shelf.Slices.Turned
import Derived.Test.YtlmhajfbpplpoaaGreatProg
import Derived.WalkKit
import Derived.WalkSpells
import Derived.WalkLawsBesides
import Derived.Deep.Draws
import Derived.Lib.Hide
import Derived.Laws.ComplexArith
import Derived.Test.YtlmhajfbpplpoaaGreatSAA
import Derived.OrdersHeld
import Derived.StillTail
import Derived.Deep.QuietTactic
import Derived.BigQuiet
set_option linter.unusedSectionVars false
set_option linter.unusedSimpArgs false
set_option linter.unusedVariables false
namespace Go.Proofs.YtlmhajfbpplpoaaGreat
open Go.RowKit
theorem AQ{a b:Int}(h:a=b){x y:KR}:br (Ao.eq a b) x y=x:=by rw[Qz,decide_eq_true h];rfl
theorem AA{a b:Int}(h:¬ a=b){x y:KR}:br (Ao.eq a b) x y=y:=by rw[Qz,decide_eq_false h];rfl
theorem Dd{a b:ByteArray}(h:a=b){x y:KR}:br (Ao.seq a b) x y=x:=by rw[LI,decide_eq_true h];rfl
theorem El{a b:ByteArray}(h:¬ a=b){x y:KR}:br (Ao.seq a b) x y=y:=by rw[LI,decide_eq_false h];rfl
theorem Aq{a b:Int}(h:a<b){x y:KR}:br (Ao.lt a b) x y=x:=by rw[QA,decide_eq_true h];rfl
theorem Ap{a b:Int}(h:¬ a<b){x y:KR}:br (Ao.lt a b) x y=y:=by rw[QA,decide_eq_false h];rfl
theorem PY{a b:Nat}(h:a<=b)(x y:KR):br (a.ble b) x y=x:=by
 rw[Nat.ble_eq_true_of_le h]
 rfl
theorem CN{a b:Int}(h:a<=b){x y:KR}:br (Ao.le a b) x y=x:=by rw[NF,decide_eq_true h];rfl
theorem C4{a b:Int}(h:¬ a<=b){x y:KR}:br (Ao.le a b) x y=y:=by rw[NF,decide_eq_false h];rfl
end Go.Proofs.YtlmhajfbpplpoaaGreat
namespace Go.Proofs.YtlmhajfbpplpoaaGreat
open Go.RowKit
structure Toks (ts:List Tk):Prop where
 len:ts.length+300<4611686018427387904
 short:∀ i,(nx ts i).text.length<4611686018427387904
 fin:(ts.getLastD ⟨5,[],0,0⟩).kind=5
theorem Toks.past{ts:List Tk}(H:Toks ts){i:Nat}(h:ts.length<=i):(nx ts i).kind=5:=by
 unfold nx
 rw[List.getElem?_eq_none h]
 exact H.fin
theorem Toks.isT{ts:List Tk}(H:Toks ts){i:Nat}{s:List UInt8}(h:isT ts i s=true):i<ts.length:=by
 by_cases hi:i<ts.length
 .exact hi
 .unfold Go.Proofs.YtlmhajfbpplpoaaGreat.isT at h
  rw[H.past (by omega)]at h
  simp at h
theorem Toks.isN{ts:List Tk}(H:Toks ts){i:Nat}(h:isN ts i=true):i<ts.length:=by
 by_cases hi:i<ts.length
 .exact hi
 .unfold Go.Proofs.YtlmhajfbpplpoaaGreat.isN at h
  rw[H.past (by omega)]at h
  simp at h
theorem Toks.num{ts:List Tk}(H:Toks ts){i:Nat}(h:(nx ts i).kind=3):i<ts.length:=by
 by_cases hi:i<ts.length
 .exact hi
 .rw[H.past (by omega)]at h
  simp at h
structure Far (ts:List Tk) (i j e:Nat):Prop where
 ge:i<=j
 le:j<=ts.length
 gt:e=0->i<j
theorem Far.trans{ts:List Tk}{i j e k e2:Nat}(h:Far ts i j e)(h2:Far ts j k e2):Far ts i k e2:=⟨by have:=h.ge;have:=h2.ge;omega,h2.le,fun he=>by have:=h.ge;have:=h2.gt he;omega⟩
section
variable {ts:List Tk} (H:Toks ts) (vars:List ByteArray) (kn:Bool)
include H
end
end Go.Proofs.YtlmhajfbpplpoaaGreat
namespace Go.Proofs.YtlmhajfbpplpoaaGreat
open Go.RowKit
def Ang:Am:=[]
noncomputable def AnE:MFn:=Bj Tryz.prog Ah Ang false true 92
def Ank:Am:=[]
noncomputable def AnI:MFn:=Bj Tryz.prog Ah Ank false true 96
def Anh:Am:=[]
noncomputable def AnF:MFn:=Bj Tryz.prog Ah Anh false true 93
def AjJ:Am:=[]
noncomputable def Akr:MFn:=Bj Tryz.prog Ah AjJ false true 248
def AiZ:Am:=[]
noncomputable def Akh:MFn:=Bj Tryz.prog Ah AiZ false true 162
def Ai0:Am:=[]
noncomputable def Aki:MFn:=Bj Tryz.prog Ah Ai0 false true 163
def Anj:Am:=[]
noncomputable def AnH:MFn:=Bj Tryz.prog Ah Anj false true 95
def Ani:Am:=[]
noncomputable def AnG:MFn:=Bj Tryz.prog Ah Ani false true 94
def AmS:Am:=[⟨41,[true,false,false,false,true,true],[(4,3)],[],[(0,([true,false,true,true],([2],[4])))]⟩]
noncomputable def Anv:MFn:=Bj Tryz.prog Ah AmS false true 49
def Anf:Am:=[]
noncomputable def AnD:MFn:=Bj Tryz.prog Ah Anf false false 90
def And:Am:=[⟨19,[true,true,false,false,false,false,false,true,true],[],[],[(0,([false,false,false,false,true],([],[]))),(1,([],([],[])))]⟩]
noncomputable def Zv:MFn:=Bj Tryz.prog Ah And false false 88
def Y5:Hnt:=⟨[],[(0,[(0,([.int .i64],[])),(1,([],[]))])],[(14,[.str]),(15,[.str])]⟩
def Ajt:Am:=[]
noncomputable def Ae8:MFn:=Bj Tryz.prog Ah Ajt false false 219
noncomputable def Aav:List (Nat × MFn):=[(92,AnE),(96,AnI),(93,AnF),(248,Akr),(162,Akh),(163,Aki),(95,AnH),(94,AnG),(49,Anv),(90,AnD),(88,Zv),(219,Ae8)]
theorem e88(A:Ar)(D:Orc)(x0:List (List AV))(x1:ByteArray):B3 A D As Y5 .n 88 Zv [AV.ls x0,sv x1] [] =
 Af D (Key.lp 88 0) [AV.ls x0,sv x1,iv ↑(Be x0),iv 0] [] fun r o=>
 AF r fun cs=>
 Aj cs fun c l=>
 br (Bw 0 c)
 (Ay IntKind.i64 l fun n l1=>
 Ad l1<|
 Ac o<|
 some ((iv n,[])))
 (br (Bw 1 c)
 (Ad l<|
 Ac o<|
 some ((iv (-1),[])))
 (none)):=by kernel_rfl
theorem AdF(A:Ar)(D:Orc)(t0:List (List AV))(t1:ByteArray)(t7:Int)(t8:Int):D2 A D As Y5 .n 88 0 (Bc Zv 0).fst (Bc Zv 0).snd [AV.ls t0,sv t1,iv t7,iv t8] [] =
 br (A.lt t8 t7)
 (unI t8 fun i=>
 BG t0 i fun cs=>
 Br cs fun s l=>
 Ad l<|
 br (A.seq t1 s)
 (some ((AV.tup [bv true,iv t8],[])))
 (Af D (Key.lp 88 0) [AV.ls t0,sv t1,iv t7,iv (A.add IntKind.i64 t8 1)] [] fun r o=>
 AR 0 [] (AH.mk [] 0 none) [] r o))
 (some ((AV.tup [iv 0],[]))):=by kernel_rfl
end Go.Proofs.YtlmhajfbpplpoaaGreat
namespace Go.Proofs.YtlmhajfbpplpoaaGreat
open Go.RowKit
section
variable {D:Orc}
structure NameF (D:Orc):Prop where
 name:∀ s:List UInt8,s.length<4611686018427387904->D.ask (.fn 109) [sv (AE s)] []=some (bv (E3 s),[])
def EC:Option Nat->Int
 |some j=>j
 |none=>-1
def E5(i:Nat):Option Nat->AV
 |some j=>.tup [bv true,iv ((i+j:Nat):Int)]
 |none=>.tup [iv 0]
end
end Go.Proofs.YtlmhajfbpplpoaaGreat
namespace Go.Proofs.YtlmhajfbpplpoaaGreat
open Go.RowKit
def AiI:Am:=[⟨19,[true,true,false,false,false,true],[],[],[(0,([false,false,false,false,true],([],[]))),(1,([],([],[])))]⟩]
noncomputable def Sb:MFn:=Bj Tryz.prog Ah AiI false false 121
def RG:Hnt:=⟨[],[(0,[(0,([.int .i64],[])),(1,([],[]))])],[(14,[.str]),(15,[.str])]⟩
def Ait:Am:=[]
noncomputable def Akd:MFn:=Bj Tryz.prog Ah Ait false false 103
def Air:Am:=[]
noncomputable def Akb:MFn:=Bj Tryz.prog Ah Air false false 101
def Anl:Am:=[]
noncomputable def AnJ:MFn:=Bj Tryz.prog Ah Anl false false 99
def Aiq:Am:=[]
noncomputable def Aka:MFn:=Bj Tryz.prog Ah Aiq false false 100
def Ais:Am:=[]
noncomputable def Akc:MFn:=Bj Tryz.prog Ah Ais false false 102
def AjE:Am:=[]
noncomputable def Akp:MFn:=Bj Tryz.prog Ah AjE false false 237
def AmT:Am:=[⟨90,[false,true,true,false,false,true,true],[(5,3)],[1,2],[(0,([false,false,true,true,true],([2,3],[1,5])))]⟩]
noncomputable def Anw:MFn:=Bj Tryz.prog Ah AmT false false 51
def Ajv:Am:=[⟨52,[false,true,true,true,false,true,false,true,true],[],[1,2,3],[(1,([false,true,true,true,false,true,false,true],([],[])))]⟩]
noncomputable def Akn:MFn:=Bj Tryz.prog Ah Ajv false false 221
def Ai3:Am:=[]
noncomputable def Akl:MFn:=Bj Tryz.prog Ah Ai3 false false 166
def Aiv:Am:=[⟨46,[false,true,true,false,true,true,false,true,true],[],[2,4,5,7],[(1,([false,false,true,false,true,true,false,true,true],([],[])))]⟩]
noncomputable def Akf:MFn:=Bj Tryz.prog Ah Aiv false false 105
def AmX:Am:=[⟨46,[false,true,true,false,true,true,false,true,true],[],[2,4,5,7],[(1,([false,false,true,false,true,true,false,true,true],([],[])))]⟩]
noncomputable def AnB:MFn:=Bj Tryz.prog Ah AmX false false 55
def AmU:Am:=[]
noncomputable def Anx:MFn:=Bj Tryz.prog Ah AmU false false 52
noncomputable def Afs:List (Nat × MFn):=[(121,Sb),(103,Akd),(101,Akb),(99,AnJ),(100,Aka),(102,Akc),(237,Akp),(51,Anw),(221,Akn),(166,Akl),(105,Akf),(55,AnB),(52,Anx)]
theorem Aly(A:Ar)(D:Orc)(x0:List (List AV))(x1:ByteArray):B3 A D As RG .n 121 Sb [AV.ls x0,sv x1] [] =
 Af D (Key.lp 121 0) [AV.ls x0,sv x1,iv 0] [] fun r o=>
 AF r fun cs=>
 Aj cs fun c l=>
 br (Bw 0 c)
 (Ay IntKind.i64 l fun n l1=>
 Ad l1<|
 Ac o<|
 some ((iv n,[])))
 (br (Bw 1 c)
 (Ad l<|
 Ac o<|
 some ((iv (-1),[])))
 (none)):=by kernel_rfl
theorem Yh(A:Ar)(D:Orc)(t0:List (List AV))(t1:ByteArray)(t5:Int):D2 A D As RG .n 121 0 (Bc Sb 0).fst (Bc Sb 0).snd [AV.ls t0,sv t1,iv t5] [] =
 br (A.lt t5 ↑(Be t0))
 (unI t5 fun i=>
 BG t0 i fun cs=>
 Br cs fun s l=>
 Ad l<|
 br (A.seq s t1)
 (some ((AV.tup [bv true,iv t5],[])))
 (Af D (Key.lp 121 0) [AV.ls t0,sv t1,iv (A.add IntKind.i64 t5 1)] [] fun r o=>
 AR 0 [] (AH.mk [] 0 none) [] r o))
 (some ((AV.tup [iv 0],[]))):=by kernel_rfl
end Go.Proofs.YtlmhajfbpplpoaaGreat
namespace Go.Proofs.YtlmhajfbpplpoaaGreat
open Go.RowKit
section
variable {D:Orc}
structure RNameF (D:Orc):Prop where
 name:∀ s:List UInt8,s.length<4611686018427387904->D.ask (.fn 77) [sv (AE s)] []=some (bv (E3 s),[])
end
end Go.Proofs.YtlmhajfbpplpoaaGreat
namespace Go.Proofs.YtlmhajfbpplpoaaGreat
open Go.RowKit
section
variable {D:Orc}
end
end Go.Proofs.YtlmhajfbpplpoaaGreat
namespace Go.Proofs.YtlmhajfbpplpoaaGreat
open Go.RowKit
def AjP:Am:=[⟨19,[true,true,false,false,false,false,false,true,true],[],[],[(0,([false,false,false,false,true],([],[]))),(1,([],([],[])))]⟩]
noncomputable def Akt:MFn:=Bj Tryz.prog Ah AjP false true 262
def Ai1:Am:=[⟨46,[true,true,true,true,true,false,false,false,false,false,true,false,true,true],[],[10,12],[(1,([true,false,false,false,false,false,false,false,false,false,true,false,true,true],([],[])))]⟩]
noncomputable def Akj:MFn:=Bj Tryz.prog Ah Ai1 false true 164
def AjK:Am:=[]
noncomputable def Aks:MFn:=Bj Tryz.prog Ah AjK false true 249
def Aju:Am:=[]
noncomputable def Akm:MFn:=Bj Tryz.prog Ah Aju false true 220
def Ai2:Am:=[]
noncomputable def Akk:MFn:=Bj Tryz.prog Ah Ai2 false true 165
def Aiu:Am:=[]
noncomputable def Ake:MFn:=Bj Tryz.prog Ah Aiu false true 104
def AmW:Am:=[]
noncomputable def AnA:MFn:=Bj Tryz.prog Ah AmW false true 54
noncomputable def Afr:List (Nat × MFn):=[(262,Akt),(164,Akj),(249,Aks),(220,Akm),(165,Akk),(104,Ake),(54,AnA)]
end Go.Proofs.YtlmhajfbpplpoaaGreat
namespace Go.Proofs.YtlmhajfbpplpoaaGreat
open Go.RowKit
section
variable {D:Orc}
end
end Go.Proofs.YtlmhajfbpplpoaaGreat
namespace Go.Proofs.YtlmhajfbpplpoaaGreat
open Go.RowKit
set_option linter.unusedSectionVars false
section
variable {D:Orc}
variable (K:Knows As Aav D) (Kb:Knows As Afr D) (L:NameF D) {ts:List Tk} (H:Toks ts) (vars:List ByteArray) (kn:Bool) (hv:vars.length<4611686018427387904)
include K Kb L H hv
end
end Go.Proofs.YtlmhajfbpplpoaaGreat
namespace Go.Proofs.YtlmhajfbpplpoaaGreat
open Go.RowKit
section
variable {ts:List Tk} {vars:List ByteArray} {kn:Bool} {k:Nat} {out:List Mo} {neg:Bool} {i j e:Nat} {m:Mo}
end
section
variable {D:Orc}
end
end Go.Proofs.YtlmhajfbpplpoaaGreat
namespace Go.Proofs.YtlmhajfbpplpoaaGreat
open Go.RowKit
section
variable {D:Orc}
end
end Go.Proofs.YtlmhajfbpplpoaaGreat
namespace Go.Proofs.YtlmhajfbpplpoaaGreat
open Go.RowKit
set_option linter.unusedSectionVars false
section
variable {D:Orc}
variable (K:Knows As Afs D) (L:RNameF D) {ts:List Tk} (H:Toks ts) (hnum:∀ i,(nx ts i).kind=3->(nx ts i).text≠[]) (vars:List ByteArray) (kn:Bool) (hv:vars.length<4611686018427387904)
include K L H hnum hv
end
end Go.Proofs.YtlmhajfbpplpoaaGreat
namespace Go.Proofs.YtlmhajfbpplpoaaGreat
open Go.RowKit
section
variable {ts:List Tk} (H:Toks ts) {i:Nat} (he:ts.length<=i)
include H he
end
section
variable {D:Orc} {ts:List Tk} (H:Toks ts) {i:Nat} (he:ts.length<=i) (hi:i+300<4611686018427387904) (vars:List ByteArray) (kn:Bool) (hv:vars.length<4611686018427387904) (d:Nat)
include H he hi hv
variable (hnum:∀ i,(nx ts i).kind=3->(nx ts i).text≠[])
include hnum
end
section
variable {D:Orc} {ts:List Tk} (H:Toks ts) (i:Nat) (hi:i+300<4611686018427387904) (vars:List ByteArray) (kn:Bool) (hv:vars.length<4611686018427387904)
include H hi hv
end
end Go.Proofs.YtlmhajfbpplpoaaGreat
namespace Go.Proofs.YtlmhajfbpplpoaaGreat
open Go.RowKit
def AmF:Am:=[⟨31,[false,true,true,false,false,true,true],[],[2],[(1,([false,false,false,false,false,true],([],[2])))]⟩]
noncomputable def Acf:MFn:=Bj Tryz.prog Ah AmF false false 21
def Ws:Hnt:=⟨[(21,(.int .i64,[]))],[(0,[(1,([.int .i64],[.del]))])],[(9,[.ls]),(21,[.ls]),(23,[.int .i64,.ls,.ls,.int .i64,.str,.str,.ls]),(24,[.int .i64,.ls,.ls,.int .i64,.str,.str,.ls])]⟩
def AmD:Am:=[⟨26,[true,true,false,false,false,true],[],[],[(0,([false,false,false,false,true],([],[]))),(1,([],([],[])))]⟩]
noncomputable def Anq:MFn:=Bj Tryz.prog Ah AmD false false 19
def AmE:Am:=[⟨76,[false,false,true,true,false,true],[],[2,3],[(0,([false,false,false,false,true],([],[2,3]))),(1,([],([],[2,3])))]⟩]
noncomputable def Anr:MFn:=Bj Tryz.prog Ah AmE false false 20
noncomputable def PB:List (Nat × MFn):=[(21,Acf),(19,Anq),(20,Anr)]
theorem e21(A:Ar)(D:Orc)(x0_0:Int)(x0_1:List (List AV))(x0_2:List (List AV))(x0_3:Int)(x0_4:ByteArray)(x0_5:ByteArray)(x0_6:List (List AV))(x1:Int):B3 A D As Ws .n 21 Acf [AV.agg [iv x0_0,AV.ls x0_1,AV.ls x0_2,iv x0_3,sv x0_4,sv x0_5,AV.ls x0_6],iv x1] [] =
 Af D (Key.lp 21 0) [iv x1,AV.ptr 0 0,iv 1,iv 0] [ABlk.mk [iv x0_0,AV.ls x0_1,AV.ls x0_2,iv x0_3,sv x0_4,sv x0_5,AV.ls x0_6] true false] fun r o=>
 AF r fun cs=>
 Aj cs fun c l=>
 br (Bw 1 c)
 (Ay IntKind.i64 l fun n l1=>
 Ad l1<|
 AG o fun c1 l2=>
 BW c1<|
 Ac l2<|
 some ((iv n,[])))
 (none):=by kernel_rfl
theorem Yx(A:Ar)(D:Orc)(t1:Int)(b2_0:Int)(b2_1:List (List AV))(b2_2:List (List AV))(b2_3:Int)(b2_4:ByteArray)(b2_5:ByteArray)(b2_6:List (List AV))(t5:Int)(t6:Int):D2 A D As Ws .n 21 0 (Bc Acf 0).fst (Bc Acf 0).snd [iv t1,AV.ptr 0 0,iv t5,iv t6] [{ cells:=[iv b2_0,AV.ls b2_1,AV.ls b2_2,iv b2_3,sv b2_4,sv b2_5,AV.ls b2_6],st:=true,ex:=false }] =
 br (A.lt t6 ↑(Be b2_6))
 (br (A.le t5 t1)
 (unI t6 fun i=>
 BG b2_6 i fun cs=>
 Ay IntKind.i64 cs fun n l=>
 AI l fun xs l1=>
 AI l1 fun xs1 l2=>
 Ay IntKind.i64 l2 fun n1 l3=>
 Br l3 fun s l4=>
 Br l4 fun s1 l5=>
 AI l5 fun xs2 l6=>
 Ad l6<|
 Af D (Key.fn 21) [AV.agg [iv n,AV.ls xs,AV.ls xs1,iv n1,sv s,sv s1,AV.ls xs2],iv (A.sub IntKind.i64 t1 t5)] [] fun r o=>
 Bp IntKind.i64 r fun n2=>
 Ac o<|
 Af D (Key.lp 21 0) [iv t1,AV.ptr 0 0,iv (A.add IntKind.i64 t5 n2),iv (A.add IntKind.i64 t6 1)] [ABlk.mk [iv b2_0,AV.ls b2_1,AV.ls b2_2,iv b2_3,sv b2_4,sv b2_5,AV.ls b2_6] true false] fun r1 o1=>
 AR 1 [0] (AH.mk [(0,ABlk.mk [iv b2_0,AV.ls b2_1,AV.ls b2_2,iv b2_3,sv b2_4,sv b2_5,AV.ls b2_6] true false)] 1 none) [0] r1 o1)
 (some ((AV.tup [iv 0,iv t5],[BO.del]))))
 (some ((AV.tup [iv 0,iv t5],[BO.del]))):=by kernel_rfl
end Go.Proofs.YtlmhajfbpplpoaaGreat
namespace Go.Proofs.YtlmhajfbpplpoaaGreat
open Go.RowKit
section
variable {D:Orc}
inductive WfT:Tr->Prop where
 |mk {k:Int} {l r:List Mo} {op:Int} {p q:ByteArray} {ks:List Tr} (hl:l.length<4611686018427387904) (hr:r.length<4611686018427387904) (hk:ks.length<4611686018427387904) (h:∀ x∈ks,WfT x):WfT (.mk k l r op p q ks)
end
section
variable (ts:List Tk) (vars:List ByteArray) (kn:Bool)
end
end Go.Proofs.YtlmhajfbpplpoaaGreat
namespace Go.Proofs.YtlmhajfbpplpoaaGreat
open Go.RowKit
def Bo(m:Mo):Bool:=(decide (m.num≠AE [])||decide (m.var≠AE []))&&(decide (m.num=AE [])||Et m.num.data.toList)&&(decide (m.var=AE [])||E3 m.var.data.toList)
def Pm(ms:List Mo):Bool:=decide (0<ms.length)&&decide (ms.length<=64)&&ms.all Bo
def Do(m:Mo):List UInt8:=if m.num≠AE []/\m.var≠AE [] then m.num.data.toList++[42]++m.var.data.toList else m.num.data.toList++m.var.data.toList
def Ou(i:Nat)(m:Mo):List UInt8:=if m.neg then(if i=0 then [45] else [32,45,32]) else if i=0 then [] else [32,43,32]
def C9:Nat->List Mo->List UInt8
 |_,[]=>[]
 |i,m::r=>Ou i m++Do m++C9 (i+1) r
theorem NS(m:Mo):∀(l:List Mo) (i:Nat),C9 i (l++[m])=C9 i l++Ou (i+l.length) m++Do m
 |[],i=>by simp[C9]
 |x::r,i=>by
  rw[List.cons_append,C9,C9,NS m r (i+1)]
  simp[List.append_assoc,show i+1+r.length=i+(r.length+1) by omega]
theorem Uu(ms:List Mo)(k:Nat)(h:k<ms.length):C9 0 (ms.take (k+1))=C9 0 (ms.take k)++Ou k ms[k]++Do ms[k]:=by
 rw[List.take_succ_eq_append_getElem h,NS,List.length_take,Nat.zero_add,Nat.min_eq_left (by omega)]
theorem Nz{l:List UInt8}(h:Et l=true):l.length<=60:=by
 unfold Et at h
 simp only[Bool.and_eq_true,decide_eq_true_eq]at h
 exact h.1.1.2
theorem K3{l:List UInt8}(h:E3 l=true):l.length<=20:=by
 unfold E3 LU at h
 simp only[Bool.and_eq_true,decide_eq_true_eq]at h
 exact h.1.1.1.2
theorem Np{m:Mo}(h:Bo m=true):(Do m).length<=81:=by
 unfold Bo at h
 simp only[Bool.and_eq_true,Bool.or_eq_true,decide_eq_true_eq]at h
 have h1:m.num.data.toList.length<=60:=by
  rcases h.1.2 with h|h
  .rw[h];simp[AE]
  .exact Nz h
 have h2:m.var.data.toList.length<=20:=by
  rcases h.2 with h|h
  .rw[h];simp[AE]
  .exact K3 h
 unfold Do
 split<;>simp only[List.length_append,List.length_cons,List.length_nil]<;>omega
theorem Aaj(i:Nat)(m:Mo):(Ou i m).length<=3:=by
 unfold Ou
 repeat' split
 all_goals simp
theorem Ld:∀(l:List Mo) (i:Nat),l.all Bo=true->(C9 i l).length<=84*l.length
 |[],_,_=>by simp[C9]
 |m::r,i,h=>by
  rw[List.all_cons,Bool.and_eq_true]at h
  have h1:=Np h.1
  have h2:=Aaj i m
  have h3:=Ld r (i+1) h.2
  simp only[C9,List.length_append,List.length_cons]
  omega
def FN(ms:List Mo):List UInt8:=if Pm ms then C9 0 ms else []
end Go.Proofs.YtlmhajfbpplpoaaGreat
namespace Go.Proofs.YtlmhajfbpplpoaaGreat
open Go.RowKit
theorem V4(s:ByteArray):AE s.data.toList=s:=by
 obtain⟨s⟩:=s
 simp[AE]
theorem Jw(a b:ByteArray):a++b=AE (a.data.toList++b.data.toList):=by
 rw[←V4 (a++b)]
 simp
theorem OG(l:List UInt8):(AE l).data.toList=l:=by simp[AE]
theorem V5(l:List UInt8):(AE l).size=l.length:=by simp[AE,ByteArray.size]
theorem It(s:ByteArray):s.size=s.data.toList.length:=by simp
def WzM(m:Mo):Prop:=m.num.size<=9223372036854775807/\m.var.size<=9223372036854775807
section
variable {D:Orc}
structure LexN (D:Orc):Prop where
 name:∀ s:ByteArray,s.size<=9223372036854775807->D.ask (.fn 109) [sv s] []=some (bv (E3 s.data.toList),[])
 num:∀ s:ByteArray,s.size<=9223372036854775807->D.ask (.fn 108) [sv s] []=some (bv (Et s.data.toList),[])
variable (K:Knows As GY D)
include K
theorem QJ(L:LexN D)(m:Mo)(hm:WzM m):D.ask (.fn 61) [.agg (Gt m)] []=some (bv (Bo m),[]):=by
 obtain⟨ng,nu,va⟩:=m
 obtain⟨h1,h2⟩:=hm
 refine K.fn' Aii _ rfl ((e61 ..).trans ?_)
 have g1:=L.num nu h1
 have g2:=L.name va h2
 unfold Bo
 simp only at h1 h2 ⊢
 simp only[LI]
 by_cases hn:nu=AE []<;>by_cases hv:va=AE []<;>simp only[hn,hv,decide_true,decide_false,ND,Ab,not_true,not_false_eq_true,ne_eq,Bool.or_self,Bool.false_and,Bool.true_and,Bool.and_self,Bool.true_or,Bool.or_true,Bool.false_or,Bool.and_true]
 .refine(Aa g2 _).trans ?_
  simp only[ND,Ab]
  cases E3 va.data.toList<;>rfl
 .refine(Aa g1 _).trans ?_
  simp only[ND,Ab]
  cases Et nu.data.toList<;>rfl
 .refine(Aa g1 _).trans ?_
  simp only[ND,Ab]
  cases Et nu.data.toList with
  |false=>rfl
  |true=>
   simp only[ND,Ab]
   refine(Aa g2 _).trans ?_
   simp only[ND,Ab]
   cases E3 va.data.toList<;>rfl
theorem Aho(L:LexN D)(m:Mo)(hm:WzM m):D.ask (.fn 60) [.agg (Gt m)] []=some (bv (!Bo m),[]):=by
 have g:=QJ K L m hm
 obtain⟨ng,nu,va⟩:=m
 refine K.fn' Aih _ rfl ((e60 ..).trans ?_)
 refine(Aa g _).trans ?_
 simp only[ND,Ab]
 cases Bo ⟨ng,nu,va⟩<;>rfl
theorem Agy(L:LexN D)(ms:List Mo)(hm:∀ m∈ms,WzM m)(hl:ms.length<4611686018427387904):∀(k i:Nat),ms.length-i=k->D.ask (.lp 107 0) [.ls (ms.map Gt),.fn (.func 60) [] [],iv (ms.length:Int),iv (i:Int)] []=some (E5 i ((ms.drop i).findIdx? fun m=>!Bo m),[]):=by
 intro k
 induction k with
 |zero=>
  intro i hi
  refine K.lp' RD _ rfl (by kernel_rfl) ((Yf ..).trans ?_)
  have:ms.drop i=[]:=List.drop_eq_nil_of_le (by omega)
  simp only[QA,this,Js]
  rw[if_neg (by simp;omega)]
  rfl
 |succ k ih=>
  intro i hi
  have hlt:i<ms.length:=by omega
  refine K.lp' RD _ rfl (by kernel_rfl) ((Yf ..).trans ?_)
  have e1:ms.drop i=ms[i]::ms.drop (i+1):=List.drop_eq_getElem_cons hlt
  have ih':=ih (i+1) (by omega)
  have g:=Aho K L ms[i] (hm _ (List.getElem_mem hlt))
  refine(Aq (by omega)).trans ?_
  rw[AN,AO (List.getElem?_eq_getElem hlt),e1,List.findIdx?_cons]
  revert g
  generalize ms[i]=m
  obtain⟨ng,nu,va⟩:=m
  intro g
  simp only[Gt,ND,Ab]
  refine(Aa g _).trans ?_
  simp only[ND,Ab]
  cases Bo ⟨ng,nu,va⟩ with
  |false=>
   simp only[Bool.not_false,if_true]
   rfl
  |true=>
   simp only[Bool.not_true,Bool.false_eq_true,if_false,Bn (show i<4611686018427387904 by omega)]
   refine(CM _ _).trans ?_
   refine(Aa ih' _).trans ?_
   cases (ms.drop (i+1)).findIdx? fun m=>!Bo m with
   |none=>rfl
   |some j=>
    simp only[E5,Option.map_some,show i+(j+1)=i+1+j by omega]
    rfl
theorem Agz(L:LexN D)(ms:List Mo)(hm:∀ m∈ms,WzM m)(hl:ms.length<4611686018427387904):D.ask (.fn 107) [.ls (ms.map Gt),.fn (.func 60) [] []] []=some (iv (EC (ms.findIdx? fun m=>!Bo m)),[]):=by
 refine K.fn' RD _ rfl ((Aln ..).trans ?_)
 rw[Ax]
 refine(Aa (Agy K L ms hm hl _ 0 rfl) _).trans ?_
 rw[List.drop_zero]
 cases ms.findIdx? fun m=>!Bo m with
 |none=>rfl
 |some j=>simp only[E5,ND,Ab,Nat.zero_add];rfl
omit K in
theorem Uf(ms:List Mo):decide (0<=EC (ms.findIdx? fun m=>!Bo m)) = !ms.all Bo:=by
 cases e:ms.findIdx? fun m=>!Bo m with
 |none=>
  have h:=List.findIdx?_eq_none_iff.1 e
  have:ms.all Bo=true:=List.all_eq_true.2 fun x hx=>by simpa using h x hx
  simp[EC,this]
 |some j=>
  obtain⟨h,h2,_⟩:=List.findIdx?_eq_some_iff_getElem.1 e
  have:ms.all Bo=false:=by
   rw[Bool.eq_false_iff]
   intro ha
   have:=List.all_eq_true.1 ha _ (List.getElem_mem h)
   rw[this]at h2
   cases h2
  simp[EC,this]
theorem Ez(L:LexN D)(ms:List Mo)(hm:∀ m∈ms,WzM m)(hl:ms.length<4611686018427387904):D.ask (.fn 23) [.ls (ms.map Gt)] []=some (bv (Pm ms),[]):=by
 refine K.fn' Ah9 _ rfl ((e23 ..).trans ?_)
 rw[Ax]
 unfold Pm
 by_cases h0:0<ms.length
 .refine(Aq (by omega)).trans ?_
  by_cases h1:ms.length<=64
  .rw[NF,decide_eq_true (show (ms.length:Int)<=64 by omega),decide_eq_true h0,decide_eq_true h1]
   refine(Az _ _).trans ?_
   have g:D.ask (.fn 59) [.ls (ms.map Gt),.fn (.func 60) [] []] []=some (bv (!ms.all Bo),[]):=by
    refine K.fn' Aig _ rfl ((e59 ..).trans ?_)
    refine(Aa (Agz K L ms hm hl) _).trans ?_
    simp only[ND,Ab,NF,Uf]
    cases ms.all Bo<;>rfl
   refine(Aa g _).trans ?_
   simp only[ND,Ab]
   cases ms.all Bo<;>rfl
  .rw[NF,decide_eq_false (show ¬ (ms.length:Int)<=64 by omega),decide_eq_false h1,Bool.and_false,Bool.false_and]
   rfl
 .refine(Ap (by omega)).trans ?_
  rw[decide_eq_false h0,Bool.false_and,Bool.false_and]
theorem Sd(m:Mo)(h:Bo m=true):D.ask (.fn 57) [.agg (Gt m)] []=some (sv (AE (Do m)),[]):=by
 obtain⟨ng,nu,va⟩:=m
 refine K.fn' Aif _ rfl ((e57 ..).trans ?_)
 unfold Bo at h
 simp only[Bool.and_eq_true,Bool.or_eq_true,decide_eq_true_eq]at h
 have h1:nu.size<=60:=by
  rw[It]
  rcases h.1.2 with h|h
  .rw[h];simp[AE]
  .exact Nz h
 have h2:va.size<=20:=by
  rw[It]
  rcases h.2 with h|h
  .rw[h];simp[AE]
  .exact K3 h
 have s1:(AE [42]).size=1:=rfl
 unfold Do
 simp only[LI,Cn,AkP]
 by_cases hn:nu=AE []
 .simp only[hn,decide_true,ND,Ab,ne_eq,not_true,false_and,if_false]
  refine(PY (by rw[←hn];omega) _ _).trans ?_
  rw[Jw]
 .simp only[hn,decide_false,ND,Ab,ne_eq,not_false_eq_true,true_and]
  by_cases hv:va=AE []
  .simp only[hv,decide_true,ND,Ab,not_true,if_false]
   refine(PY (by rw[←hv];omega) _ _).trans ?_
   rw[Jw]
  .simp only[hv,decide_false,ND,Ab,not_false_eq_true,if_true]
   have s2:(nu++AE [42]).size=nu.size+1:=by simp[s1]
   refine(PY (by rw[s1];omega) _ _).trans ?_
   refine(PY (by rw[s2];omega) _ _).trans ?_
   rw[Jw (nu++AE [42]),Jw nu,OG,OG]
end
end Go.Proofs.YtlmhajfbpplpoaaGreat
namespace Go.Proofs
open Go.Shelf
def Tryz.lays169_ren:Go.Shelf.Ren:=⟨fun|169=>58|n=>n,fun|70=>116|9=>9|0=>0|72=>119|37=>117|127=>176|3=>3|5=>5|n=>n,fun|n=>n⟩
theorem Tryz.lays169:Go.Proofs.Lays.n169 Tryz.prog Tryz.lays169_ren:={
 mixed:=by kernel_rfl
 f169:=Tryz.func58.trans (congrArg some (by kernel_rfl))
 t0:=Tryz.underlying0
 a0:=Tryz.isAgg0
 z0:=Tryz.sizeOf0
 v0:=Tryz.zeroValue0
 t3:=Tryz.underlying3
 a3:=Tryz.isAgg3
 z3:=Tryz.sizeOf3
 v3:=Tryz.zeroValue3
 t9:=Tryz.underlying9
 a9:=Tryz.isAgg9
 z9:=Tryz.sizeOf9
 v9:=Tryz.zeroValue9
 t37:=Tryz.underlying117
 a37:=Tryz.isAgg117
 z37:=Tryz.sizeOf117
 v37:=Tryz.zeroValue117
 t70:=Tryz.underlying116
 a70:=Tryz.isAgg116
 z70:=Tryz.sizeOf116
 v70:=Tryz.zeroValue116
 t72:=Tryz.underlying119
 a72:=Tryz.isAgg119
 z72:=Tryz.sizeOf119
 v72:=Tryz.zeroValue119
 t127:=Tryz.underlying176
 a127:=Tryz.isAgg176
 z127:=Tryz.sizeOf176
 v127:=Tryz.zeroValue176 }
theorem Tryz.Builder_Extra_169:Builder.Extra Tryz.prog Tryz.lays169_ren:={
 sizeBuilder:=by kernel_rfl
 liesBuilder:=by kernel_rfl
 t5:=Tryz.underlying5
 a5:=Tryz.isAgg5
 z5:=Tryz.sizeOf5
 v5:=Tryz.zeroValue5
 infoByte:=by kernel_rfl
 cellsByte:=by kernel_rfl
 sizeByte:=by kernel_rfl
 neB5:=by decide }
open Go.RowKit in
theorem Tryz.Builder_String_any(B b:Nat)(l:List UInt8)(w:World)(h:Lib.IsBuilder 119 5 B b (Lib.byteCells l) w)(hBw:B<=w.heap.size) :
  Calls Tryz.prog 58 #[.pointer (some ⟨b,0,none⟩)] w fun e w'=>e=.returned (.string ⟨l.toArray⟩)/\Below B w w':=Any.Builder_String_any Tryz.lays169 Tryz.Builder_Extra_169 B b l w h hBw
def Tryz.lays137_ren:Go.Shelf.Ren:=⟨fun|137=>245|217=>261|266=>274|n=>n,fun|9=>9|5=>5|3=>3|n=>n,fun|n=>n⟩
theorem Tryz.lays137:Go.Proofs.Lays.n137 Tryz.prog Tryz.lays137_ren:={
 mixed:=by kernel_rfl
 f137:=Tryz.func245.trans (congrArg some (by kernel_rfl))
 f217:=Tryz.func261.trans (congrArg some (by kernel_rfl))
 f266:=Tryz.func274.trans (congrArg some (by kernel_rfl))
 t3:=Tryz.underlying3
 a3:=Tryz.isAgg3
 z3:=Tryz.sizeOf3
 v3:=Tryz.zeroValue3
 t5:=Tryz.underlying5
 a5:=Tryz.isAgg5
 z5:=Tryz.sizeOf5
 v5:=Tryz.zeroValue5
 t9:=Tryz.underlying9
 a9:=Tryz.isAgg9
 z9:=Tryz.sizeOf9
 v9:=Tryz.zeroValue9 }
open Go.RowKit in
theorem Tryz.strings_IndexByte(s:ByteArray)(c:Int)(w:World) :
  Calls Tryz.prog 245 #[.string s,.int .u8 c] w fun e w'=>e=.returned (.int .i64 (Lib.indexByte s.data.toList c.toNat.toUInt8))/\w'=w:=Any.strings_IndexByte Tryz.lays137 s c w
def Tryz.lays99_ren:Go.Shelf.Ren:=⟨fun|99=>247|206=>241|n=>n,fun|9=>9|4=>4|3=>3|n=>n,fun|n=>n⟩
theorem Tryz.lays99:Go.Proofs.Lays.n99 Tryz.prog Tryz.lays99_ren:={
 mixed:=by kernel_rfl
 f99:=Tryz.func247.trans (congrArg some (by kernel_rfl))
 f206:=Tryz.func241.trans (congrArg some (by kernel_rfl))
 t3:=Tryz.underlying3
 a3:=Tryz.isAgg3
 z3:=Tryz.sizeOf3
 v3:=Tryz.zeroValue3
 t4:=Tryz.underlying4
 a4:=Tryz.isAgg4
 z4:=Tryz.sizeOf4
 v4:=Tryz.zeroValue4
 t9:=Tryz.underlying9
 a9:=Tryz.isAgg9
 z9:=Tryz.sizeOf9
 v9:=Tryz.zeroValue9 }
open Go.RowKit Go.Lib in
theorem Tryz.strings_HasPrefix(s p:ByteArray)(w:World) :
  Calls Tryz.prog 247 #[.string s,.string p] w fun e w'=>e=.returned (.bool (Lib.hasPrefix s.data.toList p.data.toList))/\w'=w:=Any.strings_HasPrefix Tryz.lays99 s p w
def Tryz.lays110_ren:Go.Shelf.Ren:=⟨fun|110=>219|109=>88|n=>n,fun|31=>47|9=>9|4=>4|3=>3|0=>0|n=>n,fun|n=>n⟩
theorem Tryz.lays110:Go.Proofs.Lays.n110 Tryz.prog Tryz.lays110_ren:={
 mixed:=by kernel_rfl
 f109:=Tryz.func88.trans (congrArg some (by kernel_rfl))
 f110:=Tryz.func219.trans (congrArg some (by kernel_rfl))
 t0:=Tryz.underlying0
 a0:=Tryz.isAgg0
 z0:=Tryz.sizeOf0
 v0:=Tryz.zeroValue0
 t3:=Tryz.underlying3
 a3:=Tryz.isAgg3
 z3:=Tryz.sizeOf3
 v3:=Tryz.zeroValue3
 t4:=Tryz.underlying4
 a4:=Tryz.isAgg4
 z4:=Tryz.sizeOf4
 v4:=Tryz.zeroValue4
 t9:=Tryz.underlying9
 a9:=Tryz.isAgg9
 z9:=Tryz.sizeOf9
 v9:=Tryz.zeroValue9
 t31:=Tryz.underlying47
 a31:=Tryz.isAgg47
 z31:=Tryz.sizeOf47
 v31:=Tryz.zeroValue47 }
open Go.Lib in
theorem Tryz.slices_Contains_string(b off n c:Nat)(zs:List ByteArray)(x:ByteArray)(w:World)(hz:n<=zs.length)(hbig:n<=9223372036854775807)(hc:∀ j,j<zs.length->w.cell? ⟨b,off+j,none⟩=some (.string (zs.getD j ByteArray.empty))) :
  Calls Tryz.prog 219 #[.slice (some ⟨b,off,none⟩) n c,.string x] w fun e w'=>e=.returned (.bool (Lib.containsS (zs.take n) x))/\w'=w:=Any.slices_Contains_string Tryz.lays110 b off n c zs x w hz hbig hc
end Go.Proofs
namespace Go.Proofs.YtlmhajfbpplpoaaGreat
open Go.RowKit
theorem IT{B:Nat}{W w:World}(h:Below B W w):Below B W w.drew:=h.drew
theorem PU{w w':World}(h:Below w.drew.heap.size w.drew w'):Below w.heap.size w w':=⟨h.os,h.tape,h.output,h.size,h.block⟩
theorem Cv{W w:World}{o:Obj}(h:Below W.heap.size W w):Below W.heap.size W (w.alloc o):=h.alloc h.size o
theorem CV{W w:World}{p:Addr}{u:Value}(h:Below W.heap.size W w)(hp:W.heap.size<=p.block):Below W.heap.size W (w.setCell p u):=h.setCell hp u
theorem A9{W w w':World}(h:Below W.heap.size W w)(hb:Below w.heap.size w w'):Below W.heap.size W w':=h.trans (hb.mono h.size)
theorem Bi(w:World)(o:Obj):Below w.heap.size w (w.alloc o):=(Below.refl _ _).alloc (Nat.le_refl _) o
theorem B2{a b:Bool}(h:a=b):Ending.returned (.bool a)=.returned (.bool b):=by rw[h]
def Blk(w:World)(g:Nat)(t:TypeId)(cs:Array Value):Prop:=w.heap[g]? = some (.cells cs t (0,0))
section
variable {w w':World} {g:Nat} {t:TypeId} {cs:Array Value}
theorem Blk.lt(h:Blk w g t cs):g<w.heap.size:=by
 rcases Nat.lt_or_ge g w.heap.size with hlt|hge
 .exact hlt
 .unfold Blk at h;rw[Array.getElem?_eq_none hge]at h;cases h
theorem Blk.cell(h:Blk w g t cs)(i:Nat):w.cell? ⟨g,i,none⟩=cs[i]?:=cell_of_row w g i cs t (0,0) h
theorem Blk.frozen(h:Blk w g t cs)(i:Nat):w.frozen? ⟨g,i,none⟩=false:=by
 unfold Blk at h
 simp[World.frozen?,h]
theorem Blk.new(w:World)(t:TypeId)(cs:Array Value):Blk (w.alloc (.cells cs t)) w.heap.size t cs:=heap_alloc_new w _
theorem Blk.drew(h:Blk w g t cs):Blk w.drew g t cs:=h
theorem Blk.alloc(h:Blk w g t cs)(o:Obj):Blk (w.alloc o) g t cs:=(Below.heap_alloc w o g h.lt).trans h
theorem Blk.set_(h:Blk w g t cs)(i:Nat)(u:Value):Blk (w.setCell ⟨g,i,none⟩ u) g t (cs.setIfInBounds i u):=by
 unfold Blk at h ⊢
 simp[World.setCell,Array.getElem?_modify,h]
theorem Blk.far(h:Blk w g t cs){p:Addr}(hp:g≠p.block)(u:Value):Blk (w.setCell p u) g t cs:=(Below.heap_setCell w p u g hp).trans h
theorem Blk.below{B:Nat}(h:Blk w g t cs)(hb:Below B w w')(hg:g<B):Blk w' g t cs:=(hb.block g hg).trans h
theorem Blk.call(h:Blk w g t cs)(hb:Below w.heap.size w w'):Blk w' g t cs:=h.below hb h.lt
end
def Own(w:World)(B g:Nat)(t:TypeId)(v:Value)(cs:Array Value):Prop:=B<=g/\v=.pointer (some ⟨g,0,none⟩)/\Blk w g t cs
section
variable {w w':World} {B g:Nat} {t:TypeId} {v:Value} {cs:Array Value}
theorem Own.call(h:Own w B g t v cs)(hb:Below w.heap.size w w'):Own w' B g t v cs:=⟨h.1,h.2.1,h.2.2.call hb⟩
theorem Own.far(h:Own w B g t v cs){p:Addr}(hp:g≠p.block)(u:Value):Own (w.setCell p u) B g t v cs:=⟨h.1,h.2.1,h.2.2.far hp u⟩
theorem Own.new{w:World}{B:Nat}(t:TypeId)(cs:Array Value)(hB:B<=w.heap.size):Own (w.alloc (.cells cs t)) B w.heap.size t (.pointer (some ⟨w.heap.size,0,none⟩)) cs:=⟨hB,rfl,Blk.new w t cs⟩
end
def pick{α:Type}(d:Bool)(x y:α):α:=match d with|true=>x|false=>y
section
variable {w w':World} {base base' e size n:Nat} {v:Value} {xs:List Value}
theorem Hd{row:Option Nat}(hb:Below w.heap.size w w'):w.grownBy w' row:=⟨hb.os,hb.tape,hb.output,hb.size,fun k hk _=>hb.block k hk⟩
theorem NC(h:w.ownsRow base e size v n xs)(hb:Below w.heap.size w w'):w'.ownsRow base e size v n xs:=h.kept (row:=none) (Hd hb) (by cases hv:v.ownBlock<;>simp)
theorem ZQ(h:w.ownsRow base e size v n xs)(hb:base'<=base):w.ownsRow base' e size v n xs:=
 ⟨h.1,h.2.imp id fun ⟨g,cap,cur,h1,h2,h3⟩=>⟨g,cap,cur,h1,Nat.le_trans hb h2,h3⟩⟩
theorem Ln{W:World}{row:Option Nat}(h:Below W.heap.size W w)(hg:w.grownBy w' row)(hr:∀ k,row=some k->W.heap.size<=k):Below W.heap.size W w':=h.grown hg h.size hr
theorem Qv{B:Nat}(h:w.ownsRow base e size v n xs)(hB:B<=base):∀ k,v.ownBlock=some k->B<=k:=fun k hk=>Nat.le_trans hB (h.lt k hk).1
end
def S8(P:Program)(g:FuncId):Prop:=∀(args:Array Value) (w:World),(callFunc g args).run P w=.ok (.enter g args) w
end Go.Proofs.YtlmhajfbpplpoaaGreat
namespace Go.Proofs.YtlmhajfbpplpoaaGreat
open Go.RowKit
theorem V6:(Tryz.prog.info? 5).map (fun i=>(i.zero,i.size,i.bytes))=some (some (.int .u8 0),1,1):=by kernel_rfl
theorem Q9:(Tryz.prog.info? 119).map (·.size)=some 2:=by kernel_rfl
theorem XX:liesAt Tryz.prog Tryz.prog.depth 119 (2 / Tryz.prog.cellsOf 119) 0 119 1=true:=by kernel_rfl
set_option maxHeartbeats 1000000 in
set_option maxRecDepth 100000 in
theorem MP(b:Nat)(w:World)(h0:w.cell? ⟨b,0,none⟩=some (.pointer (some ⟨b,0,none⟩))) :
  Calls Tryz.prog 106 #[.pointer (some ⟨b,0,none⟩)] w fun e w'=>e=.returned (.tuple #[])/\w'=w:=by
 obtain⟨j,hj,_⟩:=Option.map_eq_some_iff.1 Q9
 go_enter Tryz.func106,Tryz.ntmps106
 go_wp2
 rw[Lib.run_neq_ptr_same w _ Tryz.underlying116 hj]
 go_wp2
 go_end0
 exact⟨rfl,rfl⟩
set_option maxHeartbeats 1000000 in
set_option maxRecDepth 100000 in
theorem LY(b:Nat)(w:World)(h0:w.cell? ⟨b,0,none⟩=some (.pointer none))(hsh:w.shape? b=some (119,2))(hfz:w.frozen? ⟨b,0,none⟩=false) :
  Calls Tryz.prog 106 #[.pointer (some ⟨b,0,none⟩)] w fun e w'=>e=.returned (.tuple #[])/\w'=w.setCell ⟨b,0,none⟩ (.pointer (some ⟨b,0,none⟩)):=by
 obtain⟨j,hj,hjs⟩:=Option.map_eq_some_iff.1 Q9
 go_enter Tryz.func106,Tryz.ntmps106
 go_wp2
 rw[Lib.run_to_unsafe w ⟨b,0,none⟩ Tryz.underlying116 Tryz.underlying222 hj (by rw[hjs];decide) hsh (Nat.zero_lt_succ 1)]
 simp only[Result.andThen]
 rw[Oper.upon_value]
 go_wp2
 rw[run_callFunc_extern Tryz.func167 (by kernel_rfl) (by kernel_rfl) (by kernel_rfl) (e:=Extern.AbiNoEscape.same) (by kernel_rfl)]
 rw[Lib.run_noEscape]
 simp only[Result.andThen]
 rw[Oper.upon_value]
 go_wp2
 rw[Lib.run_from_unsafe w ⟨b,0,none⟩ Tryz.underlying222 Tryz.underlying116 hj hsh XX]
 simp only[Result.andThen]
 rw[Oper.upon_value]
 go_wp2
 go_end0
 exact⟨rfl,rfl⟩
theorem Om(B b:Nat)(bs:List Value)(w:World)(h:Lib.IsBuilder 119 5 B b bs w) :
  Calls Tryz.prog 106 #[.pointer (some ⟨b,0,none⟩)] w fun e w'=>e=.returned (.tuple #[])/\(Lib.BuilderAt 119 5 B b (.pointer (some ⟨b,0,none⟩)) bs w'/\Below B w w'/\∀ k,k≠b->w'.heap[k]? = w.heap[k]?):=by
 rcases h with h|h
 .refine(LY b w h.cell0 h.shape h.frozen0).mono ?_
  rintro e w' ⟨rfl,rfl⟩
  exact⟨rfl,h.used _,(Below.refl B w).setCell (p:=⟨b,0,none⟩) h.1 _,fun k hk=>Below.heap_setCell _ _ _ _ hk⟩
 .refine(MP b w h.cell0).mono ?_
  rintro e w' ⟨rfl,rfl⟩
  exact⟨rfl,h,Below.refl B _,fun _ _=>rfl⟩
set_option maxHeartbeats 2000000 in
set_option maxRecDepth 100000 in
theorem Cf(B b:Nat)(bs:List Value)(s:ByteArray)(w:World)(h:Lib.IsBuilder 119 5 B b bs w)(hlen:bs.length+s.size<=140737488355328)(hBw:B<=w.heap.size) :
  Calls Tryz.prog 56 #[.pointer (some ⟨b,0,none⟩),.string s] w fun e w'=>e=.returned (.tuple #[.int .i64 s.size,.nilIface])/\(Lib.BuilderAt 119 5 B b (.pointer (some ⟨b,0,none⟩)) (bs++Lib.strCells s) w'/\Below B w w'/\∀ k cs T fr,w.heap[k]? = some (.cells cs T fr)->k≠b->T≠5->w'.heap[k]? = some (.cells cs T fr)):=by
 obtain⟨i0,hi,hz0,hz1,hz2⟩:=info_parts V6
 go_enter Tryz.func56,Tryz.ntmps56
 go_wp2_with (go_at_call 106;refine(Om B b bs _ h).mono ?_)
 rintro e w1 ⟨rfl,h1,hb1,hk1⟩
 obtain⟨hB,v,hbk,hown,hne⟩:=h1
 have c0:w1.cell? ⟨b,0,none⟩=some (.pointer (some ⟨b,0,none⟩)):=by rw[Lib.cell_of_heap hbk];rfl
 have c1:w1.cell? ⟨b,1,none⟩=some v:=by rw[Lib.cell_of_heap hbk];rfl
 go_wp2_with (at_builtin;refine Lib.wpList_append_own_string _ rfl _ _ 117 9 rfl B 5 i0 Tryz.underlying117 Tryz.underlying9 hi hz0 hz1 hz2 _ _ _ rfl hown s rfl ?c3 ?c4 ?c5 ?_)
 case c3=>unfold maxLen;omega
 case c4=>omega
 case c5=>have:=hb1.size;omega
 intro v' w2 hown' hgrow _
 have hlt:b<w1.heap.size:=by
  rcases Nat.lt_or_ge b w1.heap.size with h' | h'
  .exact h'
  .simp[Array.getElem?_eq_none h']at hbk
 have hb2:w2.heap[b]? = some (.cells #[.pointer (some ⟨b,0,none⟩),v] 119 (0,0)):=by
  rw[hgrow.block b hlt (fun e=>hne e.symm)]
  exact hbk
 have d0:w2.cell? ⟨b,0,none⟩=some (.pointer (some ⟨b,0,none⟩)):=by rw[Lib.cell_of_heap hb2];rfl
 have d1:w2.cell? ⟨b,1,none⟩=some v:=by rw[Lib.cell_of_heap hb2];rfl
 have f1:w2.frozen? ⟨b,1,none⟩=false:=Lib.frozen_of_heap hb2 1
 obtain⟨ao,n',cap,rfl⟩:∃ ao n' cap,v'=.slice ao n' cap:=by
  rcases hown'.2 with⟨hv,_⟩|⟨g,cap,cur,hv,_⟩
  .exact⟨_,_,_,hv⟩
  .exact⟨_,_,_,hv⟩
 go_wp2
 go_ret2
 refine⟨rfl,?_,?_,?_⟩
 .exact Lib.BuilderAt.put (T:=119) (e:=5) hB hb2 (bs':=bs++Lib.strCells s) (by simpa[Lib.strCells_length]using hown') (by decide)
 .exact(hb1.grown hgrow (by have:=hb1.size;omega) (fun k hk=>(hown.lt k hk).1)).setCell (p:=⟨b,1,none⟩) hB _
 .intro k cs T fr hk hkb hT
  have h1:=(hk1 k hkb).trans hk
  have hlk:k<w1.heap.size:=by
   rcases Nat.lt_or_ge k w1.heap.size with h' | h'
   .exact h'
   .simp[Array.getElem?_eq_none h']at h1
  have h2:=(hgrow.block k hlk fun e=>Lib.ownBlock_ne hown h1 hT e.symm).trans h1
  exact(Below.heap_setCell _ _ _ _ hkb).trans h2
end Go.Proofs.YtlmhajfbpplpoaaGreat
namespace Go.Proofs.YtlmhajfbpplpoaaGreat
open Ieee
def enc(n:Nat):Nat:=Ieee.double.nearest false n 0
theorem Nn(n k:Nat)(h:n≠0):(n*2 ^ k).log2=n.log2+k:=by
 have h1:=(Nat.log2_eq_iff h).1 rfl
 rw[Nat.log2_eq_iff (by have:=Nat.two_pow_pos k;exact Nat.mul_ne_zero h (by omega))]
 refine⟨?_,?_⟩
 .rw[Nat.pow_add];exact Nat.mul_le_mul_right _ h1.1
 .rw[show n.log2+k+1=n.log2+1+k by omega,Nat.pow_add]
  exact Nat.mul_lt_mul_of_pos_right h1.2 (Nat.two_pow_pos k)
theorem Ed{n:Nat}(h:n≠0)(hn:n<2 ^ 50):n.log2<50:=(Nat.log2_lt h).2 hn
theorem Zq:Ieee.double.leastPlace=-1074:=by decide
theorem bin:Ieee.double.binade=2 ^ 52:=rfl
theorem AgC:Ieee.double.infRung=2047*2 ^ 52:=by decide +kernel
theorem AnN:Ieee.double.signWeight=2 ^ 63:=rfl
theorem KE(way:Toward)(n k d:Nat)(hk:d<=k)(h:n≠0):way.cut false (n*2 ^ k) d=n*2 ^ (k-d):=by
 unfold Toward.cut
 rw[Nn n k h,Nat.min_eq_left (by omega),Nat.one_shiftLeft]
 have e:n*2 ^ k=n*2 ^ (k-d)*2 ^ d:=by rw[Nat.mul_assoc,←Nat.pow_add,Nat.sub_add_cancel hk]
 rw[e]
 dsimp only
 rw[Nat.mul_div_cancel _ (Nat.two_pow_pos d),Nat.mul_mod_left]
 have hp:=Nat.two_pow_pos d
 cases way
 .have h1:decide (2 ^ d<2*0)=false:=by simp
  have h2:(2 ^ d == 2*0)=false:=by simp
  simp only[h1,h2,Bool.false_and,Bool.or_self,Bool.toNat_false,Nat.add_zero]
 all_goals simp
theorem VO{L m:Nat}(hL:L<50)(h3:m<2 ^ 53):(L+1022)*2 ^ 52+m<=2047*2 ^ 52:=by
 have h1:(L+1022)*2 ^ 52<=1072*2 ^ 52:=Nat.mul_le_mul_right _ (by omega)
 have h2:m<2 ^ 52*2:=h3
 generalize (2 ^ 52:Nat)=B at *
 generalize (L+1022)*B=C at *
 omega
theorem ZS(L:Nat):(-1074:Int)+((L+1023-1:Nat):Int)=(L:Int)-52:=by omega
theorem Oo(n k:Nat)(h:n≠0)(hn:n<2 ^ 50)(hk:52<=k)(hk2:k<=1074):Ieee.double.nearest false (n*2 ^ k) (-k)=(n.log2+1022)*2 ^ 52+n*2 ^ (52-n.log2):=by
 have hL:=Ed h hn
 have h1:=(Nat.log2_eq_iff h).1 rfl
 have h0:n*2 ^ k≠0:=Nat.mul_ne_zero h (by have:=Nat.two_pow_pos k;omega)
 unfold Format.nearest
 rw[if_neg h0,Nn n k h,Zq,bin,AgC]
 have e1:max (-(k:Int)+((n.log2+k:Nat):Int)-((Ieee.double.fractionBits:Nat):Int)) (-1074)=(n.log2:Int)-52:=by
  show max (-(k:Int)+((n.log2+k:Nat):Int)-((52:Nat):Int)) (-1074)=_
  omega
 simp only[e1]
 rw[show (-(k:Int)-((n.log2:Int)-52)).toNat=0 by omega,Nat.shiftLeft_zero]
 rw[show ((n.log2:Int)-52 - -(k:Int)).toNat=n.log2+k-52 by omega]
 rw[KE .even n k _ (by omega) h,show k-(n.log2+k-52)=52-n.log2 by omega]
 rw[show ((n.log2:Int)-52 - -1074).toNat=n.log2+1022 by omega]
 have h3:n*2 ^ (52-n.log2)<2 ^ 53:=by
  have:=Nat.mul_lt_mul_of_pos_right h1.2 (Nat.two_pow_pos (52-n.log2))
  rwa [←Nat.pow_add,show n.log2+1+(52-n.log2)=53 by omega]at this
 rw[Nat.min_eq_left]
 .unfold Format.word;simp
 .exact VO hL h3
theorem YJ(n:Nat)(h:n≠0)(hn:n<2 ^ 50):enc n=(n.log2+1022)*2 ^ 52+n*2 ^ (52-n.log2):=by
 have hL:=Ed h hn
 have h1:=(Nat.log2_eq_iff h).1 rfl
 unfold enc Format.nearest
 rw[if_neg h,Zq,bin,AgC]
 have e1:max ((0:Int)+(n.log2:Int)-((Ieee.double.fractionBits:Nat):Int)) (-1074)=(n.log2:Int)-52:=by
  show max ((0:Int)+(n.log2:Int)-((52:Nat):Int)) (-1074)=_
  omega
 simp only[e1]
 rw[show ((0:Int)-((n.log2:Int)-52)).toNat=52-n.log2 by omega,show ((n.log2:Int)-52-0).toNat=0 by omega,Nat.shiftLeft_eq]
 rw[KE .even n (52-n.log2) 0 (by omega) h,Nat.sub_zero]
 rw[show ((n.log2:Int)-52 - -1074).toNat=n.log2+1022 by omega]
 have h3:n*2 ^ (52-n.log2)<2 ^ 53:=by
  have:=Nat.mul_lt_mul_of_pos_right h1.2 (Nat.two_pow_pos (52-n.log2))
  rwa [←Nat.pow_add,show n.log2+1+(52-n.log2)=53 by omega]at this
 rw[Nat.min_eq_left]
 .unfold Format.word;simp
 .exact VO hL h3
theorem OL(n k:Nat)(h:n≠0)(hn:n<2 ^ 50)(hk:52<=k)(hk2:k<=1074):Ieee.double.nearest false (n*2 ^ k) (-k)=enc n:=(Oo n k h hn hk hk2).trans (YJ n h hn).symm
theorem JW(n:Nat)(h:n≠0)(hn:n<2 ^ 50):Ieee.double.read (enc n)=.number false (n*2 ^ (52-n.log2)) ((n.log2:Int)-52):=by
 have hL:=Ed h hn
 have h1:=(Nat.log2_eq_iff h).1 rfl
 rw[YJ n h hn]
 have h2:2 ^ 52<=n*2 ^ (52-n.log2):=by
  have:=Nat.mul_le_mul_right (2 ^ (52-n.log2)) h1.1
  rwa [←Nat.pow_add,show n.log2+(52-n.log2)=52 by omega]at this
 have h3:n*2 ^ (52-n.log2)<2 ^ 53:=by
  have:=Nat.mul_lt_mul_of_pos_right h1.2 (Nat.two_pow_pos (52-n.log2))
  rwa [←Nat.pow_add,show n.log2+1+(52-n.log2)=53 by omega]at this
 generalize n*2 ^ (52-n.log2)=m at *
 generalize n.log2=L at *
 unfold Format.read
 rw[AnN,bin,AgC,Zq]
 have hw:(L+1022)*2 ^ 52+m<2 ^ 63:=by
  have:(L+1022)*2 ^ 52<=1072*2 ^ 52:=Nat.mul_le_mul_right _ (by omega)
  omega
 have hm:((L+1022)*2 ^ 52+m) % 2 ^ 63=(L+1022)*2 ^ 52+m:=Nat.mod_eq_of_lt hw
 have hd:((L+1022)*2 ^ 52+m) / 2 ^ 63=0:=Nat.div_eq_of_lt hw
 have hlt:(L+1022)*2 ^ 52<=1072*2 ^ 52:=Nat.mul_le_mul_right _ (by omega)
 simp only[hm,hd]
 have hq:((L+1022)*2 ^ 52+m) / 2 ^ 52=L+1023:=by omega
 have hr:((L+1022)*2 ^ 52+m) % 2 ^ 52=m-2 ^ 52:=by omega
 rw[hq,hr,if_neg (by omega),if_pos (by omega)]
 have z:((0:Nat) % 2 == 1)=false:=rfl
 rw[z,show 2 ^ 52+(m-2 ^ 52)=m by omega]
 rw[ZS]
theorem Jy:enc 1=4607182418800017408:=by decide +kernel
theorem WV:Ieee.double.read 0=.number false 0 (-1074):=by decide +kernel
theorem UC(n:Nat)(h:n≠0)(hn:n<2 ^ 49):floatBits .add .f64 (enc n) 4607182418800017408=some (enc (n+1)):=by
 have hL:=Ed h (by omega)
 rw[←Jy]
 show Ieee.double.add (enc n) (enc 1)=_
 unfold Format.add
 rw[JW n h (by omega),JW 1 (by decide) (by decide)]
 have l1:Nat.log2 1=0:=by decide
 rw[l1]
 unfold Datum.sum
 simp only
 have hb:min ((n.log2:Int)-52) (((0:Nat):Int)-52)=-52:=by omega
 rw[hb,show ((n.log2:Int)-52 - -52).toNat=n.log2 by omega,show (((0:Nat):Int)-52 - -52).toNat=0 by omega]
 unfold signed
 simp only[Bool.false_eq_true,if_false]
 rw[Nat.shiftLeft_eq,Nat.shiftLeft_zero,Nat.mul_assoc,←Nat.pow_add,show 52-n.log2+n.log2=52 by omega]
 have e:((n*2 ^ 52:Nat):Int)+((1*2 ^ (52-0):Nat):Int)=(((n+1)*2 ^ 52:Nat):Int):=by
  rw[Nat.add_mul];omega
 rw[e,if_neg (by omega),Int.natAbs_natCast]
 have hd:decide ((((n+1)*2 ^ 52:Nat):Int)<0)=false:=by rw[decide_eq_false_iff_not];omega
 rw[hd]
 show some (Ieee.double.nearest false ((n+1)*2 ^ 52) (-((52:Nat):Int)))=_
 rw[OL (n+1) 52 (by omega) (by omega) (by decide) (by decide)]
theorem VT(n:Nat)(h:n≠0)(hn:n<2 ^ 49):floatBits .add .f64 (enc n) 0=some (enc n):=by
 have hL:=Ed h (by omega)
 show Ieee.double.add (enc n) 0=_
 unfold Format.add
 rw[JW n h (by omega),WV]
 unfold Datum.sum
 simp only
 obtain⟨K,hK⟩:∃ K:Nat,K=1074:=⟨_,rfl⟩
 have hb:min ((n.log2:Int)-52) (-1074)=-(K:Int):=by omega
 rw[hb,show ((n.log2:Int)-52 - -(K:Int)).toNat=n.log2+K-52 by omega,show ((-1074:Int) - -(K:Int)).toNat=0 by omega]
 unfold signed
 simp only[Bool.false_eq_true,if_false]
 rw[Nat.shiftLeft_eq,Nat.shiftLeft_zero,Nat.mul_assoc,←Nat.pow_add,show 52-n.log2+(n.log2+K-52)=K by omega]
 have hp:0<n*2 ^ K:=Nat.mul_pos (by omega) (Nat.two_pow_pos _)
 rw[show ((n*2 ^ K:Nat):Int)+((0:Nat):Int)=((n*2 ^ K:Nat):Int) by omega,if_neg (by omega),Int.natAbs_natCast]
 have hd:decide (((n*2 ^ K:Nat):Int)<0)=false:=by rw[decide_eq_false_iff_not];omega
 rw[hd]
 show some (Ieee.double.nearest false (n*2 ^ K) (-(K:Int)))=_
 rw[OL n K h (by omega) (by omega) (by omega)]
theorem UQ(n:Nat)(h:n≠0)(hn:n<2 ^ 49):floatToIntVal .f64 (enc n) .i64=some (n:Int):=by
 have hL:=Ed h (by omega)
 unfold floatToIntVal
 show (match (Ieee.double.read (enc n)).toInt .zero with|some m=>if IntKind.i64.min<=m/\m<=IntKind.i64.max then some m else none|none=>none)=_
 rw[JW n h (by omega)]
 unfold Datum.toInt Datum.integral
 simp only
 rw[show ((n.log2:Int)-52).toNat=0 by omega,Nat.shiftLeft_zero,show (-((n.log2:Int)-52)).toNat=52-n.log2 by omega]
 rw[KE .zero n (52-n.log2) (52-n.log2) (Nat.le_refl _) h,Nat.sub_self,Nat.pow_zero,Nat.mul_one]
 unfold signed
 simp only[Bool.false_eq_true,if_false,Nat.shiftLeft_zero]
 have h1:IntKind.i64.min<=(n:Int):=by show (-9223372036854775808:Int)<=_;omega
 have h2:(n:Int)<=IntKind.i64.max:=by show _<=(9223372036854775807:Int);omega
 rw[if_pos ⟨h1,h2⟩]
end Go.Proofs.YtlmhajfbpplpoaaGreat
namespace Go.Proofs.YtlmhajfbpplpoaaGreat
open Go.RowKit
def Iv(w w':World)(k:Nat):Prop:=w.heap.size<=k/\k<w'.heap.size
structure Jmp (F:Nat->Prop) (w w':World):Prop where
 os:w'.os=w.os
 tape:w'.tape=w.tape
 output:w'.output=w.output
 size:w.heap.size<=w'.heap.size
 keep:∀ k,F k->w'.heap[k]? = w.heap[k]?
section
variable {F G:Nat->Prop} {w w1 w2:World}
theorem Jmp.refl(F:Nat->Prop)(w:World):Jmp F w w:=⟨rfl,rfl,rfl,Nat.le_refl _,fun _ _=>rfl⟩
theorem Jmp.trans(h:Jmp F w w1)(k:Jmp F w1 w2):Jmp F w w2:=⟨k.os.trans h.os,k.tape.trans h.tape,k.output.trans h.output,Nat.le_trans h.size k.size,fun i hi=>(k.keep i hi).trans (h.keep i hi)⟩
theorem Jmp.less(h:Jmp F w w1)(hs:∀ k,G k->F k):Jmp G w w1:=⟨h.os,h.tape,h.output,h.size,fun i hi=>h.keep i (hs i hi)⟩
theorem Jmp.below(h:Jmp (Lt w.heap.size) w w1):Below w.heap.size w w1:=⟨h.os,h.tape,h.output,h.size,fun i hi=>h.keep i hi⟩
theorem Jmp.of_below{B:Nat}(h:Below B w w1)(hF:∀ k,F k->k<B):Jmp F w w1:=⟨h.os,h.tape,h.output,h.size,fun i hi=>h.block i (hF i hi)⟩
end
section
variable {P:Program} {md:Region.Mode} {ops:Array Oper} {QX:Exit->Act->World->Prop} {Q:Array Bool->(Nat->Prop)->Act->World->Prop}
def wpJ(P:Program)(md:Region.Mode)(ops:Array Oper)(QX:Exit->Act->World->Prop)(Q:Array Bool->(Nat->Prop)->Act->World->Prop):Nat->Array Bool->(Nat->Prop)->Act->World->Prop
 |0,listed,F,a,w=>Region.ready md ops listed=[]/\∀ w',Jmp F w w'->Q listed F a w'
 |n+1,listed,F,a,w=>(Region.ready md ops listed=[]->∀ w',Jmp F w w'->Q listed F a w') ∧
  ∀ i∈Region.ready md ops listed,∀ w',Jmp F w w'->wpOp P ops QX i (fun a2 w2=>Below w'.heap.size w' w2/\wpJ P md ops QX Q n (listed.setIfInBounds i true) (fun k=>F k\/Iv w' w2 k) a2 w2) a w'
theorem wpJ.jump{n:Nat}{listed:Array Bool}{F:Nat->Prop}{a:Act}{w w':World}(h:wpJ P md ops QX Q n listed F a w)(hj:Jmp F w w'):wpJ P md ops QX Q n listed F a w':=by
 cases n with
 |zero=>exact⟨h.1,fun w2 h2=>h.2 w2 (hj.trans h2)⟩
 |succ n=>exact⟨fun h0 w2 h2=>h.1 h0 w2 (hj.trans h2),fun i hi w2 h2=>h.2 i hi w2 (hj.trans h2)⟩
theorem UB(w:World)(F:Nat->Prop):(fun k=>F k\/Iv w w k)=F:=by
 funext k
 unfold Iv
 exact propext ⟨fun h=>h.elim id fun h=>absurd h.2 (by omega),.inl⟩
theorem Ow{S S':World->Prop}{o:Oper}{v:Value}{a:Act}(h:YieldsIf P ops S o v a)(hs:∀ w,S' w->S w):YieldsIf P ops S' o v a:=
 h.imp (fun ⟨h1,h2⟩=>⟨h1,fun w hw=>h2 w (hs w hw)⟩) id
theorem M7{F:Nat->Prop}{w w2:World}(hF:∀ k,F k->k<w.heap.size)(h:w.heap.size<=w2.heap.size):∀ k,F k\/Iv w w2 k->k<w2.heap.size:=
 fun k hk=>hk.elim (fun h1=>Nat.lt_of_lt_of_le (hF k h1) h) fun h1=>h1.2
theorem Jmp.grow{F:Nat->Prop}{w w':World}(hF:∀ k,F k->k<w.heap.size)(h:Jmp F w w'):∀ k,F k->k<w'.heap.size:=fun k hk=>Nat.lt_of_lt_of_le (hF k hk) h.size
theorem XA{i:Nat}{oi:Oper}{v:Value}(hi:ops[i]? = some oi)(hsel:∀(j:Nat) (o:Oper) cs b,ops[j]? = some o->o.op≠.select cs b)
  (hQ:∀ c a w,QX (.panic c) (a.put oi.dst v) w->QX (.panic c) a w) :
  ∀(fuel:Nat) (listed:Array Bool) (F:Nat->Prop) (a:Act) (w:World),(∀ k,F k->k<w.heap.size)->
   (∀ j oj,ops[j]? = some oj->j≠i->listed.getD j true=false->(∀ e∈oj.after,Region.binds md e=true->e.on≠i)->oi.apart ops oj=true)->
   i∈Region.ready md ops listed->YieldsIf P ops (Jmp F w) oi v a->
   wpJ P md ops QX Q fuel (listed.setIfInBounds i true) F (a.put oi.dst v) w->wpJ P md ops QX Q (fuel+1) listed F a w:=by
 intro fuel
 induction fuel with
 |zero=>
  intro listed F a w hF _ hr hy H
  refine⟨fun h=>(by rw[h]at hr;cases hr),fun j hj w' hw'=>?_⟩
  by_cases hji:j=i
  .subst hji;exact hy.wpOp hi hw' ⟨Below.refl _ _,by rw[UB];exact H.jump hw'⟩
  .have:=ready_mono hj hji
   rw[H.1]at this
   cases this
 |succ fuel ih=>
  intro listed F a w hF hfree hr hy H
  refine⟨fun h=>(by rw[h]at hr;cases hr),fun j hj w' hw'=>?_⟩
  by_cases hji:j=i
  .subst hji;exact hy.wpOp hi hw' ⟨Below.refl _ _,by rw[UB];exact H.jump hw'⟩
  .have h1:=H.2 j (ready_mono hj hji) w' hw'
   obtain⟨hjun,oj,hoj,hall⟩:=mem_ready.1 hj
   have hnot:∀ e∈oj.after,Region.binds md e=true->e.on≠i:=fun e he hb heq=>by
    have h1:=hall e he hb
    have h0:=(mem_ready.1 hr).1
    rw[heq]at h1
    rcases Nat.lt_or_ge i listed.size with h' | h'
    .simp[h']at h0 h1;rw[h0]at h1;cases h1
    .simp[Array.getElem?_eq_none h']at h1
   have h2:=wpOp_putIf hoj (hfree j oj hoj hji hjun hnot) (fun cs b=>hsel i oi cs b hi) (fun cs b=>hsel j oj cs b hoj) hQ hy h1
   have hfree':∀ k ok,ops[k]? = some ok->k≠i->(listed.setIfInBounds j true).getD k true=false->
     (∀ e∈ok.after,Region.binds md e=true->e.on≠i)->oi.apart ops ok=true:=fun k ok hk hki hun hno=>by
    refine hfree k ok hk hki ?_ hno
    by_cases hjk:j=k
    .subst hjk;exact hjun
    .rw[getD_set_ne true hjk]at hun;exact hun
   have hF':=hw'.grow hF
   refine wpOp_mono (fun a' w2 h3=>⟨h3.2.1,ih (listed.setIfInBounds j true) _ a' w2 (M7 hF' h3.2.1.size) hfree' (ready_mono hr (Ne.symm hji)) (Ow h3.1 fun w3 h4=>?_) ?_⟩) h2
   .exact hw'.trans ((Jmp.of_below h3.2.1 hF').trans (h4.less fun k hk=>.inl hk))
   .rw[Array.setIfInBounds_comm _ _ hji]
    exact h3.2.2
theorem AaN{i:Nat}{oi:Oper}{v:Value}{fuel:Nat}{listed:Array Bool}{F:Nat->Prop}{a:Act}{w:World}(hi:ops[i]? = some oi)
  (hs:Region.noSelect ops=true) (hf:Region.free md ops listed i=true) (hr:(Region.ready md ops listed).contains i=true)
  (hQ:∀ c a w,QX (.panic c) (a.put oi.dst v) w->QX (.panic c) a w) (hF:∀ k,F k->k<w.heap.size) (hy:YieldsIf P ops (Jmp F w) oi v a)
  (h:wpJ P md ops QX Q fuel (listed.setIfInBounds i true) F (a.put oi.dst v) w):wpJ P md ops QX Q (fuel+1) listed F a w:=
 XA hi (Region.noSelect_spec hs) hQ fuel listed F a w hF (Region.free_spec hi hf) (by simpa using hr) hy h
theorem Adm{i:Nat}{fuel:Nat}{listed:Array Bool}{F:Nat->Prop}{a:Act}{w:World}(hr:Region.ready md ops listed=[i])
  (h:∀ w',Jmp F w w'->wpOp P ops QX i (fun a2 w2=>Below w'.heap.size w' w2/\wpJ P md ops QX Q fuel (listed.setIfInBounds i true) (fun k=>F k\/Iv w' w2 k) a2 w2) a w'):wpJ P md ops QX Q (fuel+1) listed F a w:=
 ⟨fun h0=>(by rw[hr]at h0;cases h0),fun j hj=>by rw[hr]at hj;obtain rfl:=List.mem_singleton.1 hj;exact h⟩
theorem Q2{listed:Array Bool}{F:Nat->Prop}{a:Act}{w:World}(hr:Region.ready md ops listed=[])(h:∀ w',Jmp F w w'->Q listed F a w'):∀ fuel,wpJ P md ops QX Q fuel listed F a w
 |0=>⟨hr,h⟩
 |_+1=>⟨fun _=>h,by rw[hr];simp⟩
def AfB(base:Nat)(s:Tmp)(T:TypeId)(Z:Array Value)(Q:Array Bool->(Nat->Prop)->Act->World->Prop):Array Bool->(Nat->Prop)->Act->World->Prop:=
 fun listed F a w=>∀ g,base<=g->¬ F g->Blk w g T Z->Q listed (fun k=>F k\/k=g) (a.put (some s) (.pointer (some ⟨g,0,none⟩))) w
theorem XB{j:Nat}{oi oj:Oper}{v:Value}(hj:ops[j]? = some oj)(hap:oi.apart ops oj=true)(hsj:∀ cs b,oj.op≠.select cs b)
  (hQ:∀ c a w,QX (.panic c) a w->QX (.panic c) (a.put oi.dst v) w) {K:Act->World->Prop} {a:Act} {w:World} (h:wpOp P ops QX j K a w) :
  wpOp P ops QX j (fun a' w'=>∃ a0,a'=a0.put oi.dst v/\K a0 w') (a.put oi.dst v) w:=by
 obtain⟨h1,h2,h3⟩:=Oper.apart_spec hap
 unfold wpOp at *
 simp only[hj]at *
 rw[wanted_put oj a oi.dst v h1]
 split
 .rename_i hw
  simp only[hw,if_true]at h
  rcases h with h|⟨hasks,hlets⟩
  case inr=>exact .inr ⟨by unfold Oper.asks at *;rw[execOp_put oj hsj a oi.dst v h1];exact hasks,hlets⟩
  refine .inl ?_
  unfold Oper.wp at *
  rw[execOp_put oj hsj a oi.dst v h1]
  generalize (execOp a.eval oj).run P w=r at *
  cases r with
  |ok n w'=>
   cases n<;>simp only[Oper.upon]at h ⊢
   case value u=>exact⟨_,Act.put_comm a v u h2,h⟩
   case skip=>exact⟨_,Act.put_comm a v undef h2,h⟩
   case defer d=>exact⟨_,by rw[Act.put_defers];exact Act.put_comm _ v undef h2,h⟩
   case enter f args=>
    refine Calls.mono h fun e w'' he=>?_
    cases e with
    |returned u=>exact⟨_,Act.put_comm a v u h2,he⟩
    |panicked c=>exact hQ _ _ _ he
    |outgrown=>exact he
   case row row args=>exact Rows.mono h fun u w'' he=>⟨_,Act.put_comm a v u h2,he⟩
  |halt x w'=>
   cases x<;>simp only[Oper.upon]at h ⊢
   case panic u=>exact hQ _ _ _ h
 .rename_i hw
  simp only[hw]at h
  exact⟨_,Act.put_comm a v undef h2,h⟩
theorem Ahq{listed:Array Bool}{j k:Nat}(h:(listed.setIfInBounds j true).getD k true=false):listed.getD k true=false:=by
 by_cases hjk:j=k
 .subst hjk
  rcases Nat.lt_or_ge j listed.size with h' | h'
  .simp[h']at h
  .simp[h']at h
 .rwa [getD_set_ne true hjk]at h
section
variable {base i:Nat} {s:Tmp} {T:TypeId} {Z:Array Value} {oi:Oper}
theorem AaM(hsel:∀(j:Nat) (o:Oper) cs b,ops[j]? = some o->o.op≠.select cs b)(hdst:oi.dst=some s)(hQ:∀ c a v w,QX (.panic c) a w->QX (.panic c) (a.put oi.dst v) w) :
  ∀(n:Nat) (listed:Array Bool) (F:Nat->Prop) (a:Act) (w:World),wpJ P md ops QX (AfB base s T Z Q) n listed F a w->(∀ k,F k->k<w.heap.size)->
   (∀ j oj,ops[j]? = some oj->listed.getD j true=false->oi.apart ops oj=true)->
   ∀(g:Nat) (w':World),base<=g->¬ F g->Jmp F w w'->Blk w' g T Z->wpJ P md ops QX Q n listed (fun k=>F k\/k=g) (a.put oi.dst (.pointer (some ⟨g,0,none⟩))) w':=by
 intro n
 induction n with
 |zero=>
  intro listed F a w h hF _ g w' hg hn hj hb
  refine⟨h.1,fun w2 h2=>?_⟩
  rw[hdst]
  exact h.2 w2 (hj.trans (h2.less fun k hk=>.inl hk)) g hg hn ((h2.keep g (.inr rfl)).trans hb)
 |succ n ih=>
  intro listed F a w h hF hap g w' hg hn hj hb
  refine⟨fun h0 w2 h2=>?_,fun j hjr w2 h2=>?_⟩
  .rw[hdst]
   exact h.1 h0 w2 (hj.trans (h2.less fun k hk=>.inl hk)) g hg hn ((h2.keep g (.inr rfl)).trans hb)
  .obtain⟨hjun,oj,hoj,_⟩:=mem_ready.1 hjr
   have hj2:=hj.trans (h2.less fun k hk=>.inl hk)
   have h1:=XB (v:=.pointer (some ⟨g,0,none⟩)) hoj (hap j oj hoj hjun) (fun cs b=>hsel j oj cs b hoj) (fun c a w=>hQ c a _ w) (h.2 j hjr w2 hj2)
   have hb2:Blk w2 g T Z:=(h2.keep g (.inr rfl)).trans hb
   refine wpOp_mono (fun a' w3 ⟨a0,ha,h3,h4⟩=>⟨h3,?_⟩) h1
   subst ha
   have:=ih (listed.setIfInBounds j true) _ a0 w3 h4 (M7 (hj2.grow hF) h3.size) (fun k ok hk hun=>hap k ok hk (Ahq hun)) g w3 hg (fun hh=>hh.elim hn fun hh=>by have:=hb2.lt;have:=hh.1;omega) (Jmp.refl _ _) (hb2.call h3)
   have e:(fun k=>(F k\/k=g)\/Iv w2 w3 k)=(fun k=>(F k\/Iv w2 w3 k)\/k=g):=by
    funext k
    exact propext or_right_comm
   rw[e]
   exact this
theorem Alc(hoi:ops[i]? = some oi)(hsel:∀(j:Nat) (o:Oper) cs b,ops[j]? = some o->o.op≠.select cs b)(hdst:oi.dst=some s)(hQ:∀ c a v w,QX (.panic c) a w->QX (.panic c) (a.put oi.dst v) w)
  (hgd:oi.guard=none) (haf:oi.after=#[]) (hrun:∀(a:Act) (w:World),(execOp a.eval oi).run P w=.ok (.value (.pointer (some ⟨w.heap.size,0,none⟩))) (w.alloc (.cells Z T))) :
  ∀(n:Nat) (listed:Array Bool) (F:Nat->Prop) (a:Act) (w:World),wpJ P md ops QX (AfB base s T Z Q) n (listed.setIfInBounds i true) F a w->(∀ k,F k->k<w.heap.size)->base<=w.heap.size->listed.getD i true=false->
   (∀ j oj,ops[j]? = some oj->j≠i->listed.getD j true=false->oi.apart ops oj=true)->wpJ P md ops QX Q (n+1) listed F a w:=by
 intro n
 have hw:∀ a:Act,Region.wanted oi (yielded ops a.tmps)=true:=fun a=>by unfold Region.wanted;rw[hgd]
 have lay:∀(n:Nat) (listed:Array Bool) (F:Nat->Prop) (a:Act) (w:World),wpJ P md ops QX (AfB base s T Z Q) n (listed.setIfInBounds i true) F a w->(∀ k,F k->k<w.heap.size)->base<=w.heap.size->
   (∀ j oj,ops[j]? = some oj->j≠i->listed.getD j true=false->oi.apart ops oj=true)->∀ w',Jmp F w w'->
   wpOp P ops QX i (fun a2 w2=>Below w'.heap.size w' w2/\wpJ P md ops QX Q n (listed.setIfInBounds i true) (fun k=>F k\/Iv w' w2 k) a2 w2) a w':=by
  intro n listed F a w h hF hB hap w' hw'
  unfold wpOp
  simp only[hoi]
  rw[if_pos (hw a)]
  refine .inl ?_
  unfold Oper.wp
  rw[hrun a w']
  simp only[Oper.upon]
  refine⟨Bi _ _,?_⟩
  have e:(fun k=>F k\/Iv w' (w'.alloc (.cells Z T)) k)=(fun k=>F k\/k=w'.heap.size):=by
   funext k
   unfold Iv
   rw[World.size_alloc]
   exact propext ⟨fun h=>h.imp id fun h=>by omega,fun h=>h.imp id fun h=>by omega⟩
  rw[e]
  refine AaM hsel hdst hQ n _ F a w h hF (fun j oj hj hun=>?_) w'.heap.size _ (Nat.le_trans hB hw'.size) (fun hf=>by have:=hF _ hf;have:=hw'.size;omega) (hw'.trans (Jmp.of_below (Bi _ _) (hw'.grow hF))) (Blk.new _ _ _)
  by_cases hji:j=i
  .subst hji
   rcases Nat.lt_or_ge j listed.size with h' | h'
   .simp[h']at hun
   .simp[h']at hun
  .exact hap j oj hj hji (Ahq hun)
 have rdy:∀ listed:Array Bool,listed.getD i true=false->i∈Region.ready md ops listed:=fun listed hl=>mem_ready.2 ⟨hl,oi,hoi,fun e he=>by rw[haf]at he;simp at he⟩
 induction n with
 |zero=>
  intro listed F a w h hF hB hl hap
  refine⟨fun h0=>(by have:=rdy listed hl;rw[h0]at this;cases this),fun j hj w' hw'=>?_⟩
  by_cases hji:j=i
  .subst hji;exact lay 0 listed F a w h hF hB hap w' hw'
  .have:=ready_mono hj hji
   rw[h.1]at this
   cases this
 |succ n ih=>
  intro listed F a w h hF hB hl hap
  refine⟨fun h0=>(by have:=rdy listed hl;rw[h0]at this;cases this),fun j hj w' hw'=>?_⟩
  by_cases hji:j=i
  .subst hji;exact lay (n+1) listed F a w h hF hB hap w' hw'
  .have h1:=h.2 j (ready_mono hj hji) w' hw'
   refine wpOp_mono (fun a' w2 ⟨h2,h3⟩=>⟨h2,ih (listed.setIfInBounds j true) _ a' w2 ?_ (M7 (hw'.grow hF) h2.size) (Nat.le_trans hB (Nat.le_trans hw'.size h2.size)) ?_ fun k ok hk hki hun=>hap k ok hk hki (Ahq hun)⟩) h1
   .rw[Array.setIfInBounds_comm _ _ hji];exact h3
   .rw[getD_set_ne true hji];exact hl
end
def BT(n:Nat)(listed:Array Bool):Array Bool:=listed.mapIdx fun i b=>b&&decide (i<n)
theorem ST(n:Nat)(listed:Array Bool):(BT n listed).size=listed.size:=by simp[BT]
theorem FC{n:Nat}{listed:Array Bool}{j:Nat}(d:Bool)(hj:j<listed.size):(BT n listed).getD j d=(listed.getD j d&&decide (j<n)):=by
 simp[BT,hj]
theorem N5{n:Nat}{listed:Array Bool}{i:Nat}(hi:i<n):BT n (listed.setIfInBounds i true)=(BT n listed).setIfInBounds i true:=by
 apply Array.ext
 .simp[BT]
 .intro k h1 h2
  by_cases h:i=k
  .subst h;simp[BT,hi]
  .simp[BT,hi]
theorem N7{Q':Exit->Act->World->Prop}:∀(n:Nat) (listed:Array Bool) (a:Act) (w:World),wpAny P md ops Q' n listed a w->wpAny P md ops Q' (n+1) listed a w
 |0,_,_,_,h=>⟨fun _=>h.2,by rw[h.1];simp⟩
 |n+1,_,_,_,h=>⟨h.1,fun i hi=>wpOp_mono (fun a' w' h'=>N7 n _ a' w' h') (h.2 i hi)⟩
theorem N8{Q':Exit->Act->World->Prop}{n:Nat}{listed:Array Bool}{a:Act}{w:World}(h:wpAny P md ops Q' n listed a w):∀ k,wpAny P md ops Q' (n+k) listed a w
 |0=>h
 |k+1=>N7 _ _ _ _ (N8 h k)
def AdN(md:Region.Mode)(ops:Array Oper)(n:Nat):Bool:=(List.range n).all fun i=>match ops[i]? with|some o=>o.after.all (fun e=>!Region.binds md e||decide (e.on<n)) | none=>true
theorem Q0{n g:Nat}(hh:AdN md ops n=true)(hn:n<ops.size)(hs:Region.sinkB md ops n=true)(hc:Region.chainB md ops n=true)(hQ:∀ listed F a w,Q listed F a w->Region.seqB md ops g n (BT n listed)=true/\wpAny P md ops QX g (BT n listed) a w) :
  ∀(k:Nat) (listed:Array Bool) (F:Nat->Prop) (a:Act) (w:World),listed.size=ops.size->(∀ t,n<=t->t<ops.size->listed.getD t true=true)->HeadInv md ops n (BT n listed)->wpJ P md ops QX Q k listed F a w->
   wpAny P md ops QX (g+k) (BT n listed) a w:=by
 intro k
 induction k with
 |zero=>
  intro listed F a w _ _ _ h
  exact(hQ _ _ _ _ (h.2 w (Jmp.refl _ _))).2
 |succ k ih=>
  intro listed F a w hsz ht inv h
  by_cases h0:Region.ready md ops listed=[]
  .exact N8 (hQ _ _ _ _ (h.1 h0 w (Jmp.refl _ _))).2 (k+1)
  .obtain⟨i0,hi0⟩:=List.exists_mem_of_ne_nil _ h0
   obtain⟨hun0,o0,ho0,_⟩:=mem_ready.1 hi0
   have hlt0:i0<ops.size:=(Array.getElem?_eq_some_iff.1 ho0).1
   have hi0n:i0<n:=by
    rcases Nat.lt_or_ge i0 n with h' | h'
    .exact h'
    .rw[ht i0 h' hlt0]at hun0;cases hun0
   have hun0':(BT n listed).getD i0 true=false:=by rw[FC true (by omega),hun0];rfl
   have hnt:=tail_waits hs hc hn inv (n-i0) i0 rfl hi0n hun0'
   have step:∀ i∈Region.ready md ops (BT n listed),wpOp P ops QX i (wpAny P md ops QX (g+k) ((BT n listed).setIfInBounds i true)) a w:=by
    intro i hi
    have hin:i<n:=by
     rcases Nat.lt_or_ge i n with h' | h'
     .exact h'
     .exact absurd hi (hnt i h')
    obtain⟨hun,oi,hoi,hall⟩:=mem_ready.1 hi
    have hil:i<listed.size:=by have:=(Array.getElem?_eq_some_iff.1 hoi).1;omega
    have hir:i∈Region.ready md ops listed:=by
     refine mem_ready.2 ⟨?_,oi,hoi,fun e he hb=>?_⟩
     .rw[FC true hil]at hun;simpa[hin]using hun
     .have:=hall e he hb
      have hel:e.on<listed.size:=by
       rcases Nat.lt_or_ge e.on listed.size with h' | h'
       .exact h'
       .simp[Array.getD_eq_getD_getElem?,Array.getElem?_eq_none (show (BT n listed).size<=e.on by rw[ST];exact h')]at this
      rw[FC false hel]at this
      simp only[Bool.and_eq_true]at this
      exact this.1
    refine wpOp_mono (fun a' w' h'=>?_) (h.2 i hir w (Jmp.refl _ _))
    rw[←N5 hin]
    refine ih _ _ a' w' (by simpa using hsz) (fun t h1 h2=>?_) ?_ h'.2
    .rw[getD_set_ne true (by omega)];exact ht t h1 h2
    .rw[N5 hin];exact inv.set hi hin
   refine⟨fun hr=>?_,step⟩
   exfalso
   obtain⟨_,o1,ho1,hall1⟩:=mem_ready.1 hi0
   have hin:i0∈Region.ready md ops (BT n listed):=by
    refine mem_ready.2 ⟨hun0',o1,ho1,fun e he hb=>?_⟩
    have h1:=List.all_eq_true.1 hh i0 (List.mem_range.2 hi0n)
    rw[ho1]at h1
    have h2:=Array.all_eq_true_iff_forall_mem.1 h1 e he
    rw[hb]at h2
    simp only[Bool.not_true,Bool.false_or,decide_eq_true_eq]at h2
    rw[FC false (by omega),hall1 e he hb]
    simpa using h2
   rw[hr]at hin
   cases hin
theorem Fd{id:Nat}{Q:Exit->Act->World->Prop}{a:Act}{w:World}{l:List Oper}{L:Array Bool}(n:Nat)(hm:P.follows .mixedOrders=true)(hL:((BT n (Array.replicate l.length true)).map fun b=>!b)=L)
  (hB:(Region.noSelect l.toArray&&decide (n<l.length)&&Region.sinkB .any l.toArray n&&Region.chainB .any l.toArray n&&AdN .any l.toArray n)=true)
  (h:wpJ P .any l.toArray Q (fun listed _ a w=>Region.seqB .any l.toArray (l.length-n) n (BT n listed)=true/\wpList P l.toArray Q (l.drop n) a w) n L (Lt w.drew.heap.size) a w.drew):(Code.region id l.toArray true).wp P Q a w:=by
 simp only[Bool.and_eq_true,decide_eq_true_eq]at hB
 subst hL
 obtain⟨⟨⟨⟨hsel,hn⟩,hs⟩,hc⟩,hh⟩:=hB
 refine wp_region_any hm ?_
 have e:BT n (BT n (Array.replicate l.length true) |>.map fun b=>!b)=Array.replicate l.toArray.size false:=by
  apply Array.ext
  .simp[BT]
  .intro i h1 h2
   simp[BT]
 have inv:HeadInv .any l.toArray n (BT n (BT n (Array.replicate l.length true) |>.map fun b=>!b)):=by
  rw[e]
  exact⟨by simp,fun j oj _ hl=>(by rw[getD_replicate_false]at hl;cases hl),fun t _ ht=>getD_in (by simpa using ht) (getD_replicate_false _ _)⟩
 have:=Q0 (QX:=Q) (g:=l.length-n) hh (by simpa using hn) hs hc (fun listed F a w ⟨h1,h2⟩=>⟨h1,?_⟩) n _ _ a w.drew (by simp[BT]) (fun t h1 h2=>?_) inv h
 .have h3:=wpAny_of_seq (md:=.any) (Q':=Q) (l.drop n) n (BT n listed) a w (fun j=>by simp[List.getElem?_drop]) (by simpa using h1) h2
  simpa using h3
 .have ht:t<l.length:=by simpa using h2
  simp[BT,ht]
  omega
 .rw[e,show l.length-n+n=l.toArray.size by simp;omega]at this
  exact this
theorem Q3{i:Nat}{o:Oper}(ho:ops[i]? = some o){K:Act->World->Prop}{a:Act}{w:World}(h:wpList P ops (Exit.then K QX) [o] a w):wpOp P ops QX i K a w:=by
 unfold wpOp
 simp only[ho]
 exact h
theorem AaL{i:Nat}{o:Oper}{fuel:Nat}{listed:Array Bool}{F:Nat->Prop}{a:Act}{w:World}(hr:Region.ready md ops listed=[i])(ho:ops[i]? = some o)
  (h:∀ w',Jmp F w w'->∀ K:Act->World->Prop,Hid (∀ a2 w2,Below w'.heap.size w' w2->wpJ P md ops QX Q fuel (listed.setIfInBounds i true) (fun k=>F k\/Iv w' w2 k) a2 w2->K a2 w2)->wpList P ops (Exit.then K QX) [o] a w'):wpJ P md ops QX Q (fuel+1) listed F a w:=
 Adm hr fun w' hj=>Q3 ho (h w' hj _ (Lib.hid fun _ _ h1 h2=>⟨h1,h2⟩))
theorem Jmp.cell{F:Nat->Prop}{w w':World}(h:Jmp F w w'){b:Nat}(o:Nat)(hb:F b):w'.cell? ⟨b,o,none⟩=w.cell? ⟨b,o,none⟩:=World.cell?_of_block (a:=⟨b,o,none⟩) (h.keep b hb)
theorem Jmp.blk{F:Nat->Prop}{w w':World}(h:Jmp F w w'){b:Nat}{t:TypeId}{cs:Array Value}(hb:F b)(hk:Blk w b t cs):Blk w' b t cs:=(h.keep b hb).trans hk
theorem Jmp.fst{F G:Nat->Prop}{w w1:World}(h:Jmp (fun k=>F k\/G k) w w1):Jmp F w w1:=h.less fun _=>.inl
theorem Jmp.from{F:Nat->Prop}{w w1 w2:World}(h:Jmp F w w1)(hb:Below w1.heap.size w1 w2)(hF:∀ k,F k->k<w1.heap.size):Jmp F w w2:=h.trans (Jmp.of_below hb hF)
theorem Jmp.back{F:Nat->Prop}{w v w1 w2:World}(h:Jmp F w v)(hF:∀ k,F k->k<w.heap.size)(hb:Below v.heap.size v w1)(k:Jmp (fun k=>F k\/Iv v w1 k) w1 w2):Jmp F w w2:=
 h.trans ((Jmp.of_below hb (h.grow hF)).trans k.fst)
theorem Jmp.laid{F:Nat->Prop}{v w1 w2:World}(k:Jmp (fun k=>F k\/Iv v w1 k) w1 w2){b:Nat}(h1:v.heap.size<=b)(h2:b<w1.heap.size):w2.heap[b]? = w1.heap[b]?:=k.keep b (.inr ⟨h1,h2⟩)
theorem Jmp.low{w w1:World}(h:Jmp (Lt w.drew.heap.size) w.drew w1):Below w.heap.size w w1:=PU h.below
def WP{α:Type}:List α->Nat->Option α
 |[],_=>none
 |x::_,0=>some x
 |_::r,i+1=>WP r i
theorem Vq{α:Type}:∀(l:List α) (i:Nat),WP l i=l[i]?
 |[],_=>rfl
 |_::_,0=>rfl
 |_::r,i+1=>by simpa[WP]using Vq r i
theorem Sj{α:Type}{l:List α}{i:Nat}{o:α}(h:WP l i=some o):l.toArray[i]? = some o:=by rw[List.getElem?_toArray,←Vq];exact h
theorem Aw{l:List Oper}{i:Nat}{oi:Oper}{v:Value}{fuel:Nat}{listed:Array Bool}{F:Nat->Prop}{a:Act}{w:World}(hi:WP l i=some oi)
  (hs:Region.noSelect l.toArray=true) (hf:Region.free md l.toArray listed i=true) (hr:(Region.ready md l.toArray listed).contains i=true)
  (hQ:∀ c a w,QX (.panic c) (a.put oi.dst v) w->QX (.panic c) a w) (hF:∀ k,F k->k<w.heap.size) (hy:YieldsIf P l.toArray (Jmp F w) oi v a)
  (h:wpJ P md l.toArray QX Q fuel (listed.setIfInBounds i true) F (a.put oi.dst v) w):wpJ P md l.toArray QX Q (fuel+1) listed F a w:=
 AaN (Sj hi) hs hf hr hQ hF hy h
theorem PM{l:List Oper}{i:Nat}{o:Oper}{fuel:Nat}{listed:Array Bool}{F:Nat->Prop}{a:Act}{w:World}(hr:Region.ready md l.toArray listed=[i])(ho:WP l i=some o)
  (h:∀ w',Jmp F w w'->∀ K:Act->World->Prop,Hid (∀ a2 w2,Below w'.heap.size w' w2->wpJ P md l.toArray QX Q fuel (listed.setIfInBounds i true) (fun k=>F k\/Iv w' w2 k) a2 w2->K a2 w2)->wpList P l.toArray (Exit.then K QX) [o] a w'):wpJ P md l.toArray QX Q (fuel+1) listed F a w:=
 AaL hr (Sj ho) h
end
end Go.Proofs.YtlmhajfbpplpoaaGreat
namespace Go.Proofs.YtlmhajfbpplpoaaGreat
open Go.RowKit
def later(W x:World):World:={ heap:=W.heap++x.heap.extract W.heap.size x.heap.size,tape:=W.tape,drawn:=x.drawn,os:=W.os,output:=W.output }
theorem Bf(W x:World):Below W.heap.size W (later W x):=by
 refine⟨rfl,rfl,rfl,by simp[later],fun k hk=>?_⟩
 show (W.heap++_)[k]? = _
 rw[Array.getElem?_append_left hk]
theorem Zk{W w:World}(hb:Below W.heap.size W w):w=later W w:=by
 have hh:w.heap=W.heap++w.heap.extract W.heap.size w.heap.size:=by
  apply Array.ext_getElem?
  intro i
  rcases Nat.lt_or_ge i W.heap.size with h|h
  .rw[Array.getElem?_append_left h,hb.block i h]
  .rw[Array.getElem?_append_right h,Array.getElem?_extract]
   by_cases hi:i<w.heap.size
   .rw[if_pos (by have:=hb.size;omega)]
    congr 1
    omega
   .rw[if_neg (by omega),Array.getElem?_eq_none (by omega)]
 obtain⟨h1,h2,h3,_,_⟩:=hb
 cases w
 simp only at h1 h2 h3 hh
 subst h1 h2 h3
 simp only[later,World.mk.injEq,and_true]
 exact hh
@[go_sem] theorem Adw(W x:World)(b o:Nat)(h:b<W.heap.size):(later W x).cell? ⟨b,o,none⟩=W.cell? ⟨b,o,none⟩:=(Bf W x).cell (p:=⟨b,o,none⟩) h
@[go_sem] theorem AaT(W x:World)(b o:Nat)(h:b<W.heap.size):(later W x).frozen? ⟨b,o,none⟩=W.frozen? ⟨b,o,none⟩:=(Bf W x).frozen (p:=⟨b,o,none⟩) h
theorem A1{P:Program}{id:Nat}{Q:Exit->Act->World->Prop}{a:Act}{w:World}{l:List Oper}(hm:P.follows .mixedOrders=true)(hB:Region.lexB .any l.toArray=true)
  (h:wpQuiet P l.toArray (fun w'=>∃ x,w'=later w x) (fun a'=>∀ w',(∃ x,w'=later w x)->Q .normal a' w') l a):(Code.region id l.toArray true).wp P Q a w:=
 wp_region_quiet (C:=fun w'=>∃ x,w'=later w x) hm hB ⟨w.drew,Zk (Below.refl _ _).drew⟩ (by simpa using h)
theorem TV{P:Program}{f:FuncId}{args:Array Value}{W x:World}{v:Value}(h:Calls P f args (later W x) fun e w'=>e=.returned v/\later W x=w') :
  Calls P f args (later W x) fun e w'=>e=.returned v/\∃ y,w'=later W y:=
 h.mono fun _ _ ⟨he,hw⟩=>⟨he,x,hw.symm⟩
end Go.Proofs.YtlmhajfbpplpoaaGreat
