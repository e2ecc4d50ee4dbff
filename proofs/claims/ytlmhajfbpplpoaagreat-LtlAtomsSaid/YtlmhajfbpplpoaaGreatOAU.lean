/- Branches whose truth is known. How far a cursor co -/
import Derived.Test.YtlmhajfbpplpoaaGreatOAS
import Derived.Shelf.Strings.Builder1
import Derived.Shelf.Small.Strs
import Derived.Shelf.Strings.Search1
import Derived.Shelf.Strings.Prefix
import Derived.Shelf.Slices.Turned
import Derived.Test.YtlmhajfbpplpoaaGreatProg
import Derived.WalkKit
import Derived.WalkSpells
import Derived.WalkLawsBesides
import Derived.Deep.Draws
import Derived.Lib.Hide
import Derived.Laws.ComplexArith
import Derived.Test.YtlmhajfbpplpoaaGreatOAA
import Derived.OrdersHeld
import Derived.StillTail
import Derived.Deep.QuietTactic
import Derived.BigQuiet
set_option linter.all false
open Array renaming ext->As2,getElem?_append_left->ArP,getElem?_eq_none->Aqu,getElem?_eq_some_iff->Aqf,replicate->ArF,setIfInBounds_comm->ArZ
open Bool renaming and_eq_true->ApF,false_and->Aqx,false_eq_true->AqQ,false_or->ArQ,not_true->AsS,or_eq_true->Ark,or_self->AsV
open Int renaming natAbs_natCast->Asr
open List renaming all_eq_true->ApJ,getElem_mem->ApQ,length_append->ApH,length_cons->ApI
open Nat renaming le_refl->ApA,le_trans->Aqm,log2_eq_iff->Art,lt_of_lt_of_le->AqG,lt_or_ge->ApT,min_eq_left->AqK,mul_assoc->AqY,mul_le_mul_right->Aqo,mul_lt_mul_of_pos_right->Ara,mul_ne_zero->AsK,pow_add->Are,shiftLeft_eq->Ar9,shiftLeft_zero->Arm,two_pow_pos->Aq1,zero_add->ApX
open Option renaming map_eq_some_iff->Aq8
namespace Go.Proofs.YtlmhajfbpplpoaaGreat
open Go.RowKit
theorem K3{a b:Int}(h:a=b){x y:KR}:br (Aj.eq a b) x y=x:=by rw[Kn,decide_eq_true h];rfl
theorem AF{a b:Int}{x y z:KR}(h: a=b)(g:x=z):br (Aj.eq a b) x y=z:=(K3 h).trans g
theorem Uk{a b:Int}(h:¬ a=b){x y:KR}:br (Aj.eq a b) x y=y:=by rw[Kn,decide_eq_false h];rfl
theorem AdG{a b:ByteArray}(h:a=b){x y:KR}:br (Aj.seq a b) x y=x:=by rw[Mk,decide_eq_true h];rfl
theorem Dm{a b:ByteArray}{x y z:KR}(h: a=b)(g:x=z):br (Aj.seq a b) x y=z:=(AdG h).trans g
theorem En{a b:ByteArray}(h:¬ a=b){x y:KR}:br (Aj.seq a b) x y=y:=by rw[Mk,decide_eq_false h];rfl
theorem AiW{a b:Int}(h:a<b){x y:KR}:br (Aj.lt a b) x y=x:=by rw[Pb,decide_eq_true h];rfl
theorem Ao{a b:Int}{x y z:KR}(h: a<b)(g:x=z):br (Aj.lt a b) x y=z:=(AiW h).trans g
theorem Zx{a b:Int}(h:¬ a<b){x y:KR}:br (Aj.lt a b) x y=y:=by rw[Pb,decide_eq_false h];rfl
theorem QJ{a b:Nat}(h:a<=b)(x y:KR):br (a.ble b) x y=x:=by
 rw[Nat.ble_eq_true_of_le h];rfl
theorem AiV{a b:Int}(h:a<=b){x y:KR}:br (Aj.le a b) x y=x:=by rw[Oj,decide_eq_true h];rfl
theorem CA{a b:Int}{x y z:KR}(h: a≤b)(g:x=z):br (Aj.le a b) x y=z:=(AiV h).trans g
theorem AiU{a b:Int}(h:¬ a<=b){x y:KR}:br (Aj.le a b) x y=y:=by rw[Oj,decide_eq_false h];rfl
end Go.Proofs.YtlmhajfbpplpoaaGreat
namespace Go.Proofs.YtlmhajfbpplpoaaGreat
open Go.RowKit
section
variable {ts:List Tk} (H:Toks ts) (vars:List ByteArray) (kn:Bool)
include H
end
end Go.Proofs.YtlmhajfbpplpoaaGreat
namespace Go.Proofs.YtlmhajfbpplpoaaGreat
open Go.RowKit
def AoQ:Be:=[⟨19,[true,true,false,false,false,false,false,true,true],[],[],[(0,([false,false,false,false,true],([],[]))),(1,([],([],[])))]⟩]
noncomputable def Abp:MFn:=Bx AoQ 88
def AaV:Hnt:=⟨[],[(0,[(0,([.int .i64],[])),(1,([],[]))])],[(14,[.str]),(15,[.str])]⟩
noncomputable def Ah4:MFn:=Bx [] 219
noncomputable def Qj:List (Nat × MFn):=[(92,mf92),(96,mf96),(93,mf93),(248,mf248),(162,mf162),(163,mf163),(95,mf95),(94,mf94),(49,mf49),(90,mf90),(88,Abp),(219,Ah4)]
theorem e88(A:Ar)(D:Orc)(x0:List (List AV))(x1:ByteArray):BI A D Al AaV .n 88 Abp [AV.ls x0,sv x1] [] =
 Ae D (Key.lp 88 0) [AV.ls x0,sv x1,iv ↑(A1 x0),iv 0] [] λr o=>
 Az r λcs=>
 Ai cs λc l=>
 br (Bi 0 c)
 (At IntKind.i64 l λn l1=>
 Ad l1<|
 Ac o<|
 some ((iv n,[])))
 (br (Bi 1 c)
 (Ad l<|
 Ac o<|
 some ((iv (-1),[])))
 (none)):=by kernel_rfl
theorem Agd(A:Ar)(D:Orc)(t0:List (List AV))(t1:ByteArray)(t7:Int)(t8:Int):Dv A D Al AaV .n 88 0 (AW Abp 0).fst (AW Abp 0).snd [AV.ls t0,sv t1,iv t7,iv t8] [] =
 br (A.lt t8 t7)
 (unI t8 λi=>
 Br t0 i λcs=>
 Bv cs λs l=>
 Ad l<|
 br (A.seq t1 s)
 (some ((AV.tup [bv true,iv t8],[])))
 (Ae D (Key.lp 88 0) [AV.ls t0,sv t1,iv t7,iv (A.add IntKind.i64 t8 1)] [] λr o=>
 AN 0 [] (AH.mk [] 0 none) [] r o))
 (some ((AV.tup [iv 0],[]))):=by kernel_rfl
end Go.Proofs.YtlmhajfbpplpoaaGreat
namespace Go.Proofs.YtlmhajfbpplpoaaGreat
open Go.RowKit
section
variable {D:Orc}
structure NameF (D:Orc):Prop where
 name:∀ s:List UInt8,s.length<4611686018427387904->D.ask (.fn 109) [sv (AI s)] []=some (bv (DE s),[])
def Dc:Option Nat->Int
 |some j=>j
 |none=>-1
def Fc(i:Nat):Option Nat->AV
 |some j=>.tup [bv true,iv ((i+j:Nat):Int)]
 |none=>.tup [iv 0]
end
end Go.Proofs.YtlmhajfbpplpoaaGreat
namespace Go.Proofs.YtlmhajfbpplpoaaGreat
open Go.RowKit
def Alh:Be:=[⟨19,[true,true,false,false,false,true],[],[],[(0,([false,false,false,false,true],([],[]))),(1,([],([],[])))]⟩]
noncomputable def S0:MFn:=Bx Alh 121
def Sq:Hnt:=⟨[],[(0,[(0,([.int .i64],[])),(1,([],[]))])],[(14,[.str]),(15,[.str])]⟩
noncomputable def WY:List (Nat × MFn):=[(121,S0),(103,mf103),(101,mf101),(99,mf99),(100,mf100),(102,mf102),(237,mf237),(51,mf51),(221,mf221),(166,mf166),(105,mf105),(55,mf55),(52,mf52)]
theorem Anf(A:Ar)(D:Orc)(x0:List (List AV))(x1:ByteArray):BI A D Al Sq .n 121 S0 [AV.ls x0,sv x1] [] =
 Ae D (Key.lp 121 0) [AV.ls x0,sv x1,iv 0] [] λr o=>
 Az r λcs=>
 Ai cs λc l=>
 br (Bi 0 c)
 (At IntKind.i64 l λn l1=>
 Ad l1<|
 Ac o<|
 some ((iv n,[])))
 (br (Bi 1 c)
 (Ad l<|
 Ac o<|
 some ((iv (-1),[])))
 (none)):=by kernel_rfl
theorem ZS(A:Ar)(D:Orc)(t0:List (List AV))(t1:ByteArray)(t5:Int):Dv A D Al Sq .n 121 0 (AW S0 0).fst (AW S0 0).snd [AV.ls t0,sv t1,iv t5] [] =
 br (A.lt t5 ↑(A1 t0))
 (unI t5 λi=>
 Br t0 i λcs=>
 Bv cs λs l=>
 Ad l<|
 br (A.seq s t1)
 (some ((AV.tup [bv true,iv t5],[])))
 (Ae D (Key.lp 121 0) [AV.ls t0,sv t1,iv (A.add IntKind.i64 t5 1)] [] λr o=>
 AN 0 [] (AH.mk [] 0 none) [] r o))
 (some ((AV.tup [iv 0],[]))):=by kernel_rfl
end Go.Proofs.YtlmhajfbpplpoaaGreat
namespace Go.Proofs.YtlmhajfbpplpoaaGreat
open Go.RowKit
section
variable {D:Orc}
structure RNameF (D:Orc):Prop where
 name:∀ s:List UInt8,s.length<4611686018427387904->D.ask (.fn 77) [sv (AI s)] []=some (bv (DE s),[])
end
end Go.Proofs.YtlmhajfbpplpoaaGreat
namespace Go.Proofs.YtlmhajfbpplpoaaGreat
open Go.RowKit
section
variable {D:Orc}
end
end Go.Proofs.YtlmhajfbpplpoaaGreat
namespace Go.Proofs.YtlmhajfbpplpoaaGreat
open Go.RowKit
noncomputable def WX:List (Nat × MFn):=[(262,mf262),(164,mf164),(249,mf249),(220,mf220),(165,mf165),(104,mf104),(54,mf54)]
end Go.Proofs.YtlmhajfbpplpoaaGreat
namespace Go.Proofs.YtlmhajfbpplpoaaGreat
open Go.RowKit
section
variable {D:Orc}
end
end Go.Proofs.YtlmhajfbpplpoaaGreat
namespace Go.Proofs.YtlmhajfbpplpoaaGreat
open Go.RowKit
set_option linter.unusedSectionVars false
section
variable {D:Orc}
variable (K:Knows Al Qj D) (Kb:Knows Al WX D) (L:NameF D) {ts:List Tk} (H:Toks ts) (vars:List ByteArray) (kn:Bool) (hv:vars.length<4611686018427387904)
include K Kb L H hv
end
end Go.Proofs.YtlmhajfbpplpoaaGreat
namespace Go.Proofs.YtlmhajfbpplpoaaGreat
open Go.RowKit
section
variable {ts:List Tk} {vars:List ByteArray} {kn:Bool} {k:Nat} {out:List Mo} {neg:Bool} {i j e:Nat} {m:Mo}
end
section
variable {D:Orc}
def tz:ABlk:=ABlk.mk [.ls [],iv 0,.ls [],bv false] true false
end
end Go.Proofs.YtlmhajfbpplpoaaGreat
namespace Go.Proofs.YtlmhajfbpplpoaaGreat
open Go.RowKit
section
variable {D:Orc}
end
end Go.Proofs.YtlmhajfbpplpoaaGreat
namespace Go.Proofs.YtlmhajfbpplpoaaGreat
open Go.RowKit
set_option linter.unusedSectionVars false
section
variable {D:Orc}
variable (K:Knows Al WY D) (L:RNameF D) {ts:List Tk} (H:Toks ts) (hnum:∀ i,(nx ts i).kind=3->(nx ts i).text≠[]) (vars:List ByteArray) (kn:Bool) (hv:vars.length<4611686018427387904)
include K L H hnum hv
end
end Go.Proofs.YtlmhajfbpplpoaaGreat
namespace Go.Proofs.YtlmhajfbpplpoaaGreat
open Go.RowKit
section
variable {ts:List Tk} (H:Toks ts) {i:Nat} (he:ts.length<=i)
include H he
end
section
variable {D:Orc} {ts:List Tk} (H:Toks ts) {i:Nat} (he:ts.length<=i) (hi:i+300<4611686018427387904) (vars:List ByteArray) (kn:Bool) (hv:vars.length<4611686018427387904) (d:Nat)
include H he hi hv
variable (hnum:∀ i,(nx ts i).kind=3->(nx ts i).text≠[])
include hnum
end
section
variable {D:Orc} {ts:List Tk} (H:Toks ts) (i:Nat) (hi:i+300<4611686018427387904) (vars:List ByteArray) (kn:Bool) (hv:vars.length<4611686018427387904)
include H hi hv
end
end Go.Proofs.YtlmhajfbpplpoaaGreat
namespace Go.Proofs.YtlmhajfbpplpoaaGreat
open Go.RowKit
def AoF:Be:=[⟨31,[false,true,true,false,false,true,true],[],[2],[(1,([false,false,false,false,false,true],([],[2])))]⟩]
noncomputable def Aes:MFn:=Bx AoF 21
def XO:Hnt:=⟨[(21,(.int .i64,[]))],[(0,[(1,([.int .i64],[.del]))])],[(9,[.ls]),(21,[.ls]),(23,[.int .i64,.ls,.ls,.int .i64,.str,.str,.ls]),(24,[.int .i64,.ls,.ls,.int .i64,.str,.str,.ls])]⟩
def AoD:Be:=[⟨26,[true,true,false,false,false,true],[],[],[(0,([false,false,false,false,true],([],[]))),(1,([],([],[])))]⟩]
noncomputable def AoT:MFn:=Bx AoD 19
def AoE:Be:=[⟨76,[false,false,true,true,false,true],[],[2,3],[(0,([false,false,false,false,true],([],[2,3]))),(1,([],([],[2,3])))]⟩]
noncomputable def AoU:MFn:=Bx AoE 20
noncomputable def Ql:List (Nat × MFn):=[(21,Aes),(19,AoT),(20,AoU)]
theorem e21(A:Ar)(D:Orc)(x0_0:Int)(x0_1:List (List AV))(x0_2:List (List AV))(x0_3:Int)(x0_4:ByteArray)(x0_5:ByteArray)(x0_6:List (List AV))(x1:Int):BI A D Al XO .n 21 Aes [AV.agg [iv x0_0,AV.ls x0_1,AV.ls x0_2,iv x0_3,sv x0_4,sv x0_5,AV.ls x0_6],iv x1] [] =
 Ae D (Key.lp 21 0) [iv x1,AV.ptr 0 0,iv 1,iv 0] [ABlk.mk [iv x0_0,AV.ls x0_1,AV.ls x0_2,iv x0_3,sv x0_4,sv x0_5,AV.ls x0_6] true false] λr o=>
 Az r λcs=>
 Ai cs λc l=>
 br (Bi 1 c)
 (At IntKind.i64 l λn l1=>
 Ad l1<|
 Am o λc1 l2=>
 Bn c1<|
 Ac l2<|
 some ((iv n,[])))
 (none):=by kernel_rfl
theorem Z8(A:Ar)(D:Orc)(t1:Int)(b2_0:Int)(b2_1:List (List AV))(b2_2:List (List AV))(b2_3:Int)(b2_4:ByteArray)(b2_5:ByteArray)(b2_6:List (List AV))(t5:Int)(t6:Int):Dv A D Al XO .n 21 0 (AW Aes 0).fst (AW Aes 0).snd [iv t1,AV.ptr 0 0,iv t5,iv t6] [{ cells:=[iv b2_0,AV.ls b2_1,AV.ls b2_2,iv b2_3,sv b2_4,sv b2_5,AV.ls b2_6],st:=true,ex:=false }] =
 br (A.lt t6 ↑(A1 b2_6))
 (br (A.le t5 t1)
 (unI t6 λi=>
 Br b2_6 i λcs=>
 At IntKind.i64 cs λn l=>
 As l λxs l1=>
 As l1 λxs1 l2=>
 At IntKind.i64 l2 λn1 l3=>
 Bv l3 λs l4=>
 Bv l4 λs1 l5=>
 As l5 λxs2 l6=>
 Ad l6<|
 Ae D (Key.fn 21) [AV.agg [iv n,AV.ls xs,AV.ls xs1,iv n1,sv s,sv s1,AV.ls xs2],iv (A.sub IntKind.i64 t1 t5)] [] λr o=>
 AT IntKind.i64 r λn2=>
 Ac o<|
 Ae D (Key.lp 21 0) [iv t1,AV.ptr 0 0,iv (A.add IntKind.i64 t5 n2),iv (A.add IntKind.i64 t6 1)] [ABlk.mk [iv b2_0,AV.ls b2_1,AV.ls b2_2,iv b2_3,sv b2_4,sv b2_5,AV.ls b2_6] true false] λr1 o1=>
 AN 1 [0] (AH.mk [(0,ABlk.mk [iv b2_0,AV.ls b2_1,AV.ls b2_2,iv b2_3,sv b2_4,sv b2_5,AV.ls b2_6] true false)] 1 none) [0] r1 o1)
 (some ((AV.tup [iv 0,iv t5],[BO.del]))))
 (some ((AV.tup [iv 0,iv t5],[BO.del]))):=by kernel_rfl
end Go.Proofs.YtlmhajfbpplpoaaGreat
namespace Go.Proofs.YtlmhajfbpplpoaaGreat
open Go.RowKit
section
variable {D:Orc}
end
section
variable (ts:List Tk) (vars:List ByteArray) (kn:Bool)
end
end Go.Proofs.YtlmhajfbpplpoaaGreat
namespace Go.Proofs.YtlmhajfbpplpoaaGreat
open Go.RowKit
def Bq(m:Mo):Bool:=(decide (m.num≠AI [])||decide (m.var≠AI []))&&(decide (m.num=AI [])||Ew m.num.data.toList)&&(decide (m.var=AI [])||DE m.var.data.toList)
def Pc(ms:List Mo):Bool:=decide (0<ms.length)&&decide (ms.length<=64)&&ms.all Bq
def Dt(m:Mo):List UInt8:=if m.num≠AI []/\m.var≠AI [] then m.num.data.toList++[42]++m.var.data.toList else m.num.data.toList++m.var.data.toList
def Pd(i:Nat)(m:Mo):List UInt8:=if m.neg then(if i=0 then [45] else [32,45,32]) else if i=0 then [] else [32,43,32]
def Dg:Nat->List Mo->List UInt8
 |_,[]=>[]
 |i,m::r=>Pd i m++Dt m++Dg (i+1) r
theorem OC(m:Mo):∀(l:List Mo) (i:Nat),Dg i (l++[m])=Dg i l++Pd (i+l.length) m++Dt m
 |[],i=>by simp[Dg]
 |x::r,i=>by
  rw[List.cons_append,Dg,Dg,OC m r (i+1)];simp[List.append_assoc,show i+1+r.length=i+(r.length+1) by omega]
theorem VC(ms:List Mo)(k:Nat)(h:k<ms.length):Dg 0 (ms.take (k+1))=Dg 0 (ms.take k)++Pd k ms[k]++Dt ms[k]:=by
 rw[List.take_succ_eq_append_getElem h,OC,List.length_take,ApX,AqK (by omega)]
theorem Od{l:List UInt8}(h:Ew l=true):l.length<=60:=by
 unfold Ew at h;simp only[ApF,decide_eq_true_eq]at h;exact h.1.1.2
theorem Lu{l:List UInt8}(h:DE l=true):l.length<=20:=by
 unfold DE Mz at h;simp only[ApF,decide_eq_true_eq]at h;exact h.1.1.1.2
theorem N3{m:Mo}(h:Bq m=true):(Dt m).length<=81:=by
 unfold Bq at h;simp only[ApF,Ark,decide_eq_true_eq]at h;have h1:m.num.data.toList.length<=60:=by
  rcases h.1.2 with h|h
  .rw[h];simp[AI]
  .exact Od h
 have h2:m.var.data.toList.length<=20:=by
  rcases h.2 with h|h
  .rw[h];simp[AI]
  .exact Lu h
 unfold Dt;split<;>simp only[ApH,ApI,List.length_nil]<;>omega
theorem Acl(i:Nat)(m:Mo):(Pd i m).length<=3:=by
 unfold Pd
 repeat' split
 all_goals simp
theorem LI:∀(l:List Mo) (i:Nat),l.all Bq=true->(Dg i l).length<=84*l.length
 |[],_,_=>by simp[Dg]
 |m::r,i,h=>by
  rw[List.all_cons,ApF]at h;have h1:=N3 h.1;have h2:=Acl i m;have h3:=LI r (i+1) h.2;simp only[Dg,ApH,ApI];omega
def JI(ms:List Mo):List UInt8:=if Pc ms then Dg 0 ms else []
end Go.Proofs.YtlmhajfbpplpoaaGreat
namespace Go.Proofs.YtlmhajfbpplpoaaGreat
open Go.RowKit
theorem Xn(s:ByteArray):AI s.data.toList=s:=by
 obtain⟨s⟩:=s;simp[AI]
theorem JT(a b:ByteArray):a++b=AI (a.data.toList++b.data.toList):=by
 rw[←Xn (a++b)];simp
theorem Pq(l:List UInt8):(AI l).data.toList=l:=by simp[AI]
theorem IK(s:ByteArray):s.size=s.data.toList.length:=by simp
def WzM(m:Mo):Prop:=m.num.size<=9223372036854775807/\m.var.size<=9223372036854775807
section
variable {D:Orc}
structure LexN (D:Orc):Prop where
 name:∀ s:ByteArray,s.size<=9223372036854775807->D.ask (.fn 109) [sv s] []=some (bv (DE s.data.toList),[])
 num:∀ s:ByteArray,s.size<=9223372036854775807->D.ask (.fn 108) [sv s] []=some (bv (Ew s.data.toList),[])
variable (K:Knows Al FN D)
include K
theorem Rv(L:LexN D)(m:Mo)(hm:WzM m):D.ask (.fn 61) [.agg (Ix m)] []=some (bv (Bq m),[]):=by
 obtain⟨ng,nu,va⟩:=m;obtain⟨h1,h2⟩:=hm;refine K.fn' Ak7 _ rfl ((e61 ..).trans ?_);have g1:=L.num nu h1;have g2:=L.name va h2;unfold Bq;simp only at h1 h2 ⊢;simp only[Mk]
 by_cases hn:nu=AI []<;>by_cases hv:va=AI []<;>simp only[hn,hv,decide_true,decide_false,ND,Aa,not_true,not_false_eq_true,ne_eq,AsV,Aqx,Bool.true_and,Bool.and_self,Bool.true_or,Bool.or_true,ArQ,Bool.and_true]
 .refine Ab g2 ?_
  simp only[ND,Aa]
  cases DE va.data.toList<;>rfl
 .refine Ab g1 ?_
  simp only[ND,Aa]
  cases Ew nu.data.toList<;>rfl
 .refine Ab g1 ?_
  simp only[ND,Aa]
  cases Ew nu.data.toList with
  |false=>rfl
  |true=>
   simp only[ND,Aa];refine Ab g2 ?_;simp only[ND,Aa]
   cases DE va.data.toList<;>rfl
theorem Aj8(L:LexN D)(m:Mo)(hm:WzM m):D.ask (.fn 60) [.agg (Ix m)] []=some (bv (!Bq m),[]):=by
 have g:=Rv K L m hm;obtain⟨ng,nu,va⟩:=m;refine K.fn' Ak6 _ rfl ((e60 ..).trans ?_);refine Ab g ?_;simp only[ND,Aa]
 cases Bq ⟨ng,nu,va⟩<;>rfl
theorem Ajk(L:LexN D)(ms:List Mo)(hm:∀ m∈ms,WzM m)(hl:ms.length<4611686018427387904):∀(k i:Nat),ms.length-i=k->D.ask (.lp 107 0) [.ls (ms.map Ix),.fn (.func 60) [] [],iv (ms.length:Int),iv (i:Int)] []=some (Fc i ((ms.drop i).findIdx? λm=>!Bq m),[]):=by
 intro k
 induction k with
 |zero=>
  intro i hi;refine K.lp' So _ rfl (by kernel_rfl) ((ZQ ..).trans ?_);have:ms.drop i=[]:=List.drop_eq_nil_of_le (by omega);simp only[Pb,this,G6];rw[if_neg (by simp;omega)];rfl
 |succ k ih=>
  intro i hi;have hlt:i<ms.length:=by omega
  refine K.lp' So _ rfl (by kernel_rfl) ((ZQ ..).trans ?_);have e1:ms.drop i=ms[i]::ms.drop (i+1):=List.drop_eq_getElem_cons hlt;have ih':=ih (i+1) (by omega);have g:=Aj8 K L ms[i] (hm _ (ApQ hlt));refine Ao (by omega)?_;rw[AG,AD (List.getElem?_eq_getElem hlt),e1,List.findIdx?_cons];revert g;generalize ms[i]=m;obtain⟨ng,nu,va⟩:=m;intro g;simp only[Ix,ND,Aa];refine Ab g ?_;simp only[ND,Aa]
  cases Bq ⟨ng,nu,va⟩ with
  |false=>
   simp only[Bool.not_false,if_true];rfl
  |true=>
   simp only[AsS,AqQ,if_false,Bh (show i<4611686018427387904 by omega)];refine brF_go ?_;refine Ab ih' ?_
   cases (ms.drop (i+1)).findIdx? λm=>!Bq m with
   |none=>rfl
   |some j=>
    simp only[Fc,Option.map_some,show i+(j+1)=i+1+j by omega];rfl
theorem Ajl(L:LexN D)(ms:List Mo)(hm:∀ m∈ms,WzM m)(hl:ms.length<4611686018427387904):D.ask (.fn 107) [.ls (ms.map Ix),.fn (.func 60) [] []] []=some (iv (Dc (ms.findIdx? λm=>!Bq m)),[]):=by
 refine K.fn' So _ rfl ((Am4 ..).trans ?_);rw[Av];refine Ab (Ajk K L ms hm hl _ 0 rfl)?_;rw[List.drop_zero]
 cases ms.findIdx? λm=>!Bq m with
 |none=>rfl
 |some j=>simp only[Fc,ND,Aa,ApX];rfl
omit K in
theorem Vl(ms:List Mo):decide (0<=Dc (ms.findIdx? λm=>!Bq m)) = !ms.all Bq:=by
 cases e:ms.findIdx? λm=>!Bq m with
 |none=>
  have h:=List.findIdx?_eq_none_iff.1 e;have:ms.all Bq=true:=ApJ.2 λx hx=>by simpa using h x hx
  simp[Dc,this]
 |some j=>
  obtain⟨h,h2,_⟩:=List.findIdx?_eq_some_iff_getElem.1 e;have:ms.all Bq=false:=by
   rw[Bool.eq_false_iff];intro ha;have:=ApJ.1 ha _ (ApQ h);rw[this]at h2
   cases h2
  simp[Dc,this]
theorem FM(L:LexN D)(ms:List Mo)(hm:∀ m∈ms,WzM m)(hl:ms.length<4611686018427387904):D.ask (.fn 23) [.ls (ms.map Ix)] []=some (bv (Pc ms),[]):=by
 refine K.fn' AkV _ rfl ((e23 ..).trans ?_);rw[Av];unfold Pc
 by_cases h0:0<ms.length
 .refine Ao (by omega)?_
  by_cases h1:ms.length<=64
  .rw[Oj,decide_eq_true (show (ms.length:Int)<=64 by omega),decide_eq_true h0,decide_eq_true h1]
   refine Ag ?_;have g:D.ask (.fn 59) [.ls (ms.map Ix),.fn (.func 60) [] []] []=some (bv (!ms.all Bq),[]):=by
    refine K.fn' Ak5 _ rfl ((e59 ..).trans ?_);refine Ab (Ajl K L ms hm hl)?_;simp only[ND,Aa,Oj,Vl]
    cases ms.all Bq<;>rfl
   refine Ab g ?_;simp only[ND,Aa]
   cases ms.all Bq<;>rfl
  .rw[Oj,decide_eq_false (show ¬ (ms.length:Int)<=64 by omega),decide_eq_false h1,Bool.and_false,Aqx]
   rfl
 .refine ltF_go (by omega)?_
  rw[decide_eq_false h0,Aqx,Aqx]
theorem S2(m:Mo)(h:Bq m=true):D.ask (.fn 57) [.agg (Ix m)] []=some (sv (AI (Dt m)),[]):=by
 obtain⟨ng,nu,va⟩:=m;refine K.fn' Ak4 _ rfl ((e57 ..).trans ?_);unfold Bq at h;simp only[ApF,Ark,decide_eq_true_eq]at h;have h1:nu.size<=60:=by
  rw[IK];rcases h.1.2 with h|h
  .rw[h];simp[AI]
  .exact Od h
 have h2:va.size<=20:=by
  rw[IK];rcases h.2 with h|h
  .rw[h];simp[AI]
  .exact Lu h
 have s1:(AI [42]).size=1:=rfl;unfold Dt;simp only[Mk,Cu,Amy]
 by_cases hn:nu=AI []
 .simp only[hn,decide_true,ND,Aa,ne_eq,not_true,false_and,if_false]
  refine(QJ (by rw[←hn];omega) _ _).trans ?_;rw[JT]
 .simp only[hn,decide_false,ND,Aa,ne_eq,not_false_eq_true,true_and]
  by_cases hv:va=AI []
  .simp only[hv,decide_true,ND,Aa,not_true,if_false]
   refine(QJ (by rw[←hv];omega) _ _).trans ?_;rw[JT]
  .simp only[hv,decide_false,ND,Aa,not_false_eq_true,if_true]
   have s2:(nu++AI [42]).size=nu.size+1:=by simp[s1]
   refine(QJ (by rw[s1];omega) _ _).trans ?_;refine(QJ (by rw[s2];omega) _ _).trans ?_;rw[JT (nu++AI [42]),JT nu,Pq,Pq]
end
end Go.Proofs.YtlmhajfbpplpoaaGreat
namespace Go.Proofs
open Go.Shelf
def Tryz.lays169_ren:Go.Shelf.Ren:=⟨λ|169=>58|n=>n,λ|70=>116|9=>9|0=>0|72=>119|37=>117|127=>176|3=>3|5=>5|n=>n,λ|n=>n⟩
theorem Tryz.lays169:Go.Proofs.Lays.n169 Tryz.prog Tryz.lays169_ren:={
 mixed:=by kernel_rfl
 f169:=Tryz.func58.trans (congrArg some (by kernel_rfl))
 t0:=Tryz.underlying0
 a0:=Tryz.isAgg0
 z0:=Tryz.sizeOf0
 v0:=Tryz.zeroValue0
 t3:=Tryz.underlying3
 a3:=Tryz.isAgg3
 z3:=Tryz.sizeOf3
 v3:=Tryz.zeroValue3
 t9:=Tryz.underlying9
 a9:=Tryz.isAgg9
 z9:=Tryz.sizeOf9
 v9:=Tryz.zeroValue9
 t37:=Tryz.underlying117
 a37:=Tryz.isAgg117
 z37:=Tryz.sizeOf117
 v37:=Tryz.zeroValue117
 t70:=Tryz.underlying116
 a70:=Tryz.isAgg116
 z70:=Tryz.sizeOf116
 v70:=Tryz.zeroValue116
 t72:=Tryz.underlying119
 a72:=Tryz.isAgg119
 z72:=Tryz.sizeOf119
 v72:=Tryz.zeroValue119
 t127:=Tryz.underlying176
 a127:=Tryz.isAgg176
 z127:=Tryz.sizeOf176
 v127:=Tryz.zeroValue176 }
theorem Tryz.Builder_Extra_169:Builder.Extra Tryz.prog Tryz.lays169_ren:={
 sizeBuilder:=by kernel_rfl
 liesBuilder:=by kernel_rfl
 t5:=Tryz.underlying5
 a5:=Tryz.isAgg5
 z5:=Tryz.sizeOf5
 v5:=Tryz.zeroValue5
 infoByte:=by kernel_rfl
 cellsByte:=by kernel_rfl
 sizeByte:=by kernel_rfl
 neB5:=by decide }
open Go.RowKit in
theorem Tryz.Builder_String_any(B b:Nat)(l:List UInt8)(w:World)(h:Lib.IsBuilder 119 5 B b (Lib.byteCells l) w)(hBw:B<=w.heap.size) :
  Calls Tryz.prog 58 #[.pointer (some ⟨b,0,none⟩)] w λe w'=>e=.returned (.string ⟨l.toArray⟩)/\Below B w w':=Any.Builder_String_any Tryz.lays169 Tryz.Builder_Extra_169 B b l w h hBw
def Tryz.lays137_ren:Go.Shelf.Ren:=⟨λ|137=>245|217=>261|266=>274|n=>n,λ|9=>9|5=>5|3=>3|n=>n,λ|n=>n⟩
theorem Tryz.lays137:Go.Proofs.Lays.n137 Tryz.prog Tryz.lays137_ren:={
 mixed:=by kernel_rfl
 f137:=Tryz.func245.trans (congrArg some (by kernel_rfl))
 f217:=Tryz.func261.trans (congrArg some (by kernel_rfl))
 f266:=Tryz.func274.trans (congrArg some (by kernel_rfl))
 t3:=Tryz.underlying3
 a3:=Tryz.isAgg3
 z3:=Tryz.sizeOf3
 v3:=Tryz.zeroValue3
 t5:=Tryz.underlying5
 a5:=Tryz.isAgg5
 z5:=Tryz.sizeOf5
 v5:=Tryz.zeroValue5
 t9:=Tryz.underlying9
 a9:=Tryz.isAgg9
 z9:=Tryz.sizeOf9
 v9:=Tryz.zeroValue9 }
open Go.RowKit in
theorem Tryz.strings_IndexByte(s:ByteArray)(c:Int)(w:World) :
  Calls Tryz.prog 245 #[.string s,.int .u8 c] w λe w'=>e=.returned (.int .i64 (Lib.indexByte s.data.toList c.toNat.toUInt8))/\w'=w:=Any.strings_IndexByte Tryz.lays137 s c w
def Tryz.lays99_ren:Go.Shelf.Ren:=⟨λ|99=>247|206=>241|n=>n,λ|9=>9|4=>4|3=>3|n=>n,λ|n=>n⟩
theorem Tryz.lays99:Go.Proofs.Lays.n99 Tryz.prog Tryz.lays99_ren:={
 mixed:=by kernel_rfl
 f99:=Tryz.func247.trans (congrArg some (by kernel_rfl))
 f206:=Tryz.func241.trans (congrArg some (by kernel_rfl))
 t3:=Tryz.underlying3
 a3:=Tryz.isAgg3
 z3:=Tryz.sizeOf3
 v3:=Tryz.zeroValue3
 t4:=Tryz.underlying4
 a4:=Tryz.isAgg4
 z4:=Tryz.sizeOf4
 v4:=Tryz.zeroValue4
 t9:=Tryz.underlying9
 a9:=Tryz.isAgg9
 z9:=Tryz.sizeOf9
 v9:=Tryz.zeroValue9 }
open Go.RowKit Go.Lib in
theorem Tryz.strings_HasPrefix(s p:ByteArray)(w:World) :
  Calls Tryz.prog 247 #[.string s,.string p] w λe w'=>e=.returned (.bool (Lib.hasPrefix s.data.toList p.data.toList))/\w'=w:=Any.strings_HasPrefix Tryz.lays99 s p w
def Tryz.lays110_ren:Go.Shelf.Ren:=⟨λ|110=>219|109=>88|n=>n,λ|31=>47|9=>9|4=>4|3=>3|0=>0|n=>n,λ|n=>n⟩
theorem Tryz.lays110:Go.Proofs.Lays.n110 Tryz.prog Tryz.lays110_ren:={
 mixed:=by kernel_rfl
 f109:=Tryz.func88.trans (congrArg some (by kernel_rfl))
 f110:=Tryz.func219.trans (congrArg some (by kernel_rfl))
 t0:=Tryz.underlying0
 a0:=Tryz.isAgg0
 z0:=Tryz.sizeOf0
 v0:=Tryz.zeroValue0
 t3:=Tryz.underlying3
 a3:=Tryz.isAgg3
 z3:=Tryz.sizeOf3
 v3:=Tryz.zeroValue3
 t4:=Tryz.underlying4
 a4:=Tryz.isAgg4
 z4:=Tryz.sizeOf4
 v4:=Tryz.zeroValue4
 t9:=Tryz.underlying9
 a9:=Tryz.isAgg9
 z9:=Tryz.sizeOf9
 v9:=Tryz.zeroValue9
 t31:=Tryz.underlying47
 a31:=Tryz.isAgg47
 z31:=Tryz.sizeOf47
 v31:=Tryz.zeroValue47 }
open Go.Lib in
theorem Tryz.slices_Contains_string(b off n c:Nat)(zs:List ByteArray)(x:ByteArray)(w:World)(hz:n<=zs.length)(hbig:n<=9223372036854775807)(hc:∀ j,j<zs.length->w.cell? ⟨b,off+j,none⟩=some (.string (zs.getD j ByteArray.empty))) :
  Calls Tryz.prog 219 #[.slice (some ⟨b,off,none⟩) n c,.string x] w λe w'=>e=.returned (.bool (Lib.containsS (zs.take n) x))/\w'=w:=Any.slices_Contains_string Tryz.lays110 b off n c zs x w hz hbig hc
end Go.Proofs
namespace Go.Proofs.YtlmhajfbpplpoaaGreat
open Go.RowKit
theorem Jf{B:Nat}{W w:World}(h:Below B W w):Below B W w.drew:=h.drew
theorem QF{w w':World}(h:Below w.drew.heap.size w.drew w'):Below w.heap.size w w':=⟨h.os,h.tape,h.output,h.size,h.block⟩
theorem CC{W w:World}{o:Obj}(h:Below W.heap.size W w):Below W.heap.size W (w.alloc o):=h.alloc h.size o
theorem C1{W w:World}{p:Addr}{u:Value}(h:Below W.heap.size W w)(hp:W.heap.size<=p.block):Below W.heap.size W (w.setCell p u):=h.setCell hp u
theorem A9{W w w':World}(h:Below W.heap.size W w)(hb:Below w.heap.size w w'):Below W.heap.size W w':=h.trans (hb.mono h.size)
theorem Bl(w:World)(o:Obj):Below w.heap.size w (w.alloc o):=(Below.refl _ _).alloc (ApA _) o
theorem B5{a b:Bool}(h:a=b):Ending.returned (.bool a)=.returned (.bool b):=by rw[h]
def Blk(w:World)(g:Nat)(t:TypeId)(cs:Array Value):Prop:=w.heap[g]? = some (.cells cs t (0,0))
section
variable {w w':World} {g:Nat} {t:TypeId} {cs:Array Value}
theorem Blk.lt(h:Blk w g t cs):g<w.heap.size:=by
 rcases ApT g w.heap.size with hlt|hge
 .exact hlt
 .unfold Blk at h;rw[Aqu hge]at h;cases h
theorem Blk.cell(h:Blk w g t cs)(i:Nat):w.cell? ⟨g,i,none⟩=cs[i]?:=cell_of_row w g i cs t (0,0) h
theorem Blk.frozen(h:Blk w g t cs)(i:Nat):w.frozen? ⟨g,i,none⟩=false:=by
 unfold Blk at h;simp[World.frozen?,h]
theorem Blk.new(w:World)(t:TypeId)(cs:Array Value):Blk (w.alloc (.cells cs t)) w.heap.size t cs:=heap_alloc_new w _
theorem Blk.drew(h:Blk w g t cs):Blk w.drew g t cs:=h
theorem Blk.alloc(h:Blk w g t cs)(o:Obj):Blk (w.alloc o) g t cs:=(Below.heap_alloc w o g h.lt).trans h
theorem Blk.set_(h:Blk w g t cs)(i:Nat)(u:Value):Blk (w.setCell ⟨g,i,none⟩ u) g t (cs.setIfInBounds i u):=by
 unfold Blk at h ⊢;simp[World.setCell,Array.getElem?_modify,h]
theorem Blk.far(h:Blk w g t cs){p:Addr}(hp:g≠p.block)(u:Value):Blk (w.setCell p u) g t cs:=(Below.heap_setCell w p u g hp).trans h
theorem Blk.below{B:Nat}(h:Blk w g t cs)(hb:Below B w w')(hg:g<B):Blk w' g t cs:=(hb.block g hg).trans h
theorem Blk.call(h:Blk w g t cs)(hb:Below w.heap.size w w'):Blk w' g t cs:=h.below hb h.lt
end
def Own(w:World)(B g:Nat)(t:TypeId)(v:Value)(cs:Array Value):Prop:=B<=g/\v=.pointer (some ⟨g,0,none⟩)/\Blk w g t cs
section
variable {w w':World} {B g:Nat} {t:TypeId} {v:Value} {cs:Array Value}
theorem Own.call(h:Own w B g t v cs)(hb:Below w.heap.size w w'):Own w' B g t v cs:=⟨h.1,h.2.1,h.2.2.call hb⟩
end
def pick{α:Type}(d:Bool)(x y:α):α:=match d with|true=>x|false=>y
section
variable {w w':World} {base base' e size n:Nat} {v:Value} {xs:List Value}
theorem Hs{row:Option Nat}(hb:Below w.heap.size w w'):w.grownBy w' row:=⟨hb.os,hb.tape,hb.output,hb.size,λk hk _=>hb.block k hk⟩
theorem Oh(h:w.ownsRow base e size v n xs)(hb:Below w.heap.size w w'):w'.ownsRow base e size v n xs:=h.kept (row:=none) (Hs hb) (by cases hv:v.ownBlock<;>simp)
theorem AbM(h:w.ownsRow base e size v n xs)(hb:base'<=base):w.ownsRow base' e size v n xs:=
 ⟨h.1,h.2.imp id λ⟨g,cap,cur,h1,h2,h3⟩=>⟨g,cap,cur,h1,Aqm hb h2,h3⟩⟩
theorem LW{W:World}{row:Option Nat}(h:Below W.heap.size W w)(hg:w.grownBy w' row)(hr:∀ k,row=some k->W.heap.size<=k):Below W.heap.size W w':=h.grown hg h.size hr
theorem Rk{B:Nat}(h:w.ownsRow base e size v n xs)(hB:B<=base):∀ k,v.ownBlock=some k->B<=k:=λk hk=>Aqm hB (h.lt k hk).1
end
def Ub(P:Program)(g:FuncId):Prop:=∀(args:Array Value) (w:World),(callFunc g args).run P w=.ok (.enter g args) w
end Go.Proofs.YtlmhajfbpplpoaaGreat
namespace Go.Proofs.YtlmhajfbpplpoaaGreat
open Go.RowKit
theorem Xp:(Tryz.prog.info? 5).map (λi=>(i.zero,i.size,i.bytes))=some (some (.int .u8 0),1,1):=by kernel_rfl
theorem RU:(Tryz.prog.info? 119).map (·.size)=some 2:=by kernel_rfl
theorem Zu:liesAt Tryz.prog Tryz.prog.depth 119 (2 / Tryz.prog.cellsOf 119) 0 119 1=true:=by kernel_rfl
set_option maxHeartbeats 1000000 in
set_option maxRecDepth 100000 in
theorem Nv(b:Nat)(w:World)(h0:w.cell? ⟨b,0,none⟩=some (.pointer (some ⟨b,0,none⟩))) :
  Calls Tryz.prog 106 #[.pointer (some ⟨b,0,none⟩)] w λe w'=>e=.returned (.tuple #[])/\w'=w:=by
 obtain⟨j,hj,_⟩:=Aq8.1 RU
 go_enter Tryz.func106,Tryz.ntmps106
 go_wp2
 rw[Lib.run_neq_ptr_same w _ Tryz.underlying116 hj]
 go_wp2
 go_end0
 exact⟨rfl,rfl⟩
set_option maxHeartbeats 1000000 in
set_option maxRecDepth 100000 in
theorem MF(b:Nat)(w:World)(h0:w.cell? ⟨b,0,none⟩=some (.pointer none))(hsh:w.shape? b=some (119,2))(hfz:w.frozen? ⟨b,0,none⟩=false) :
  Calls Tryz.prog 106 #[.pointer (some ⟨b,0,none⟩)] w λe w'=>e=.returned (.tuple #[])/\w'=w.setCell ⟨b,0,none⟩ (.pointer (some ⟨b,0,none⟩)):=by
 obtain⟨j,hj,hjs⟩:=Aq8.1 RU
 go_enter Tryz.func106,Tryz.ntmps106
 go_wp2
 rw[Lib.run_to_unsafe w ⟨b,0,none⟩ Tryz.underlying116 Tryz.underlying222 hj (by rw[hjs];decide) hsh (Nat.zero_lt_succ 1)];simp only[Result.andThen];rw[Oper.upon_value]
 go_wp2
 rw[run_callFunc_extern Tryz.func167 (by kernel_rfl) (by kernel_rfl) (by kernel_rfl) (e:=Extern.AbiNoEscape.same) (by kernel_rfl)];rw[Lib.run_noEscape];simp only[Result.andThen];rw[Oper.upon_value]
 go_wp2
 rw[Lib.run_from_unsafe w ⟨b,0,none⟩ Tryz.underlying222 Tryz.underlying116 hj hsh Zu];simp only[Result.andThen];rw[Oper.upon_value]
 go_wp2
 go_end0
 exact⟨rfl,rfl⟩
theorem O7(B b:Nat)(bs:List Value)(w:World)(h:Lib.IsBuilder 119 5 B b bs w) :
  Calls Tryz.prog 106 #[.pointer (some ⟨b,0,none⟩)] w λe w'=>e=.returned (.tuple #[])/\(Lib.BuilderAt 119 5 B b (.pointer (some ⟨b,0,none⟩)) bs w'/\Below B w w'/\∀ k,k≠b->w'.heap[k]? = w.heap[k]?):=by
 rcases h with h|h
 .refine(MF b w h.cell0 h.shape h.frozen0).mono ?_
  rintro e w' ⟨rfl,rfl⟩;exact⟨rfl,h.used _,(Below.refl B w).setCell (p:=⟨b,0,none⟩) h.1 _,λk hk=>Below.heap_setCell _ _ _ _ hk⟩
 .refine(Nv b w h.cell0).mono ?_
  rintro e w' ⟨rfl,rfl⟩;exact⟨rfl,h,Below.refl B _,λ_ _=>rfl⟩
set_option maxHeartbeats 2000000 in
set_option maxRecDepth 100000 in
theorem Ci(B b:Nat)(bs:List Value)(s:ByteArray)(w:World)(h:Lib.IsBuilder 119 5 B b bs w)(hlen:bs.length+s.size<=140737488355328)(hBw:B<=w.heap.size) :
  Calls Tryz.prog 56 #[.pointer (some ⟨b,0,none⟩),.string s] w λe w'=>e=.returned (.tuple #[.int .i64 s.size,.nilIface])/\(Lib.BuilderAt 119 5 B b (.pointer (some ⟨b,0,none⟩)) (bs++Lib.strCells s) w'/\Below B w w'/\∀ k cs T fr,w.heap[k]? = some (.cells cs T fr)->k≠b->T≠5->w'.heap[k]? = some (.cells cs T fr)):=by
 obtain⟨i0,hi,hz0,hz1,hz2⟩:=info_parts Xp
 go_enter Tryz.func56,Tryz.ntmps56
 go_wp2_with (go_at_call 106;refine(O7 B b bs _ h).mono ?_)
 rintro e w1 ⟨rfl,h1,hb1,hk1⟩;obtain⟨hB,v,hbk,hown,hne⟩:=h1;have c0:w1.cell? ⟨b,0,none⟩=some (.pointer (some ⟨b,0,none⟩)):=by rw[Lib.cell_of_heap hbk];rfl
 have c1:w1.cell? ⟨b,1,none⟩=some v:=by rw[Lib.cell_of_heap hbk];rfl
 go_wp2_with (at_builtin;refine Lib.wpList_append_own_string _ rfl _ _ 117 9 rfl B 5 i0 Tryz.underlying117 Tryz.underlying9 hi hz0 hz1 hz2 _ _ _ rfl hown s rfl ?c3 ?c4 ?c5 ?_)
 case c3=>unfold maxLen;omega
 case c4=>omega
 case c5=>have:=hb1.size;omega
 intro v' w2 hown' hgrow _;have hlt:b<w1.heap.size:=by
  rcases ApT b w1.heap.size with h' | h'
  .exact h'
  .simp[Aqu h']at hbk
 have hb2:w2.heap[b]? = some (.cells #[.pointer (some ⟨b,0,none⟩),v] 119 (0,0)):=by
  rw[hgrow.block b hlt (λe=>hne e.symm)];exact hbk
 have d0:w2.cell? ⟨b,0,none⟩=some (.pointer (some ⟨b,0,none⟩)):=by rw[Lib.cell_of_heap hb2];rfl
 have d1:w2.cell? ⟨b,1,none⟩=some v:=by rw[Lib.cell_of_heap hb2];rfl
 have f1:w2.frozen? ⟨b,1,none⟩=false:=Lib.frozen_of_heap hb2 1;obtain⟨ao,n',cap,rfl⟩:∃ ao n' cap,v'=.slice ao n' cap:=by
  rcases hown'.2 with⟨hv,_⟩|⟨g,cap,cur,hv,_⟩
  .exact⟨_,_,_,hv⟩
  .exact⟨_,_,_,hv⟩
 go_wp2
 go_ret2
 refine⟨rfl,?_,?_,?_⟩
 .exact Lib.BuilderAt.put (T:=119) (e:=5) hB hb2 (bs':=bs++Lib.strCells s) (by simpa[Lib.strCells_length]using hown') (by decide)
 .exact(hb1.grown hgrow (by have:=hb1.size;omega) (λk hk=>(hown.lt k hk).1)).setCell (p:=⟨b,1,none⟩) hB _
 .intro k cs T fr hk hkb hT
  have h1:=(hk1 k hkb).trans hk;have hlk:k<w1.heap.size:=by
   rcases ApT k w1.heap.size with h' | h'
   .exact h'
   .simp[Aqu h']at h1
  have h2:=(hgrow.block k hlk λe=>Lib.ownBlock_ne hown h1 hT e.symm).trans h1;exact(Below.heap_setCell _ _ _ _ hkb).trans h2
end Go.Proofs.YtlmhajfbpplpoaaGreat
namespace Go.Proofs.YtlmhajfbpplpoaaGreat
open Ieee
def enc(n:Nat):Nat:=Ieee.double.nearest false n 0
theorem N1(n k:Nat)(h:n≠0):(n*2 ^ k).log2=n.log2+k:=by
 have h1:=(Art h).1 rfl;rw[Art (by have:=Aq1 k;exact AsK h (by omega))];refine⟨?_,?_⟩
 .rw[Are];exact Aqo _ h1.1
 .rw[show n.log2+k+1=n.log2+1+k by omega,Are]
  exact Ara h1.2 (Aq1 k)
theorem Ee{n:Nat}(h:n≠0)(hn:n<2 ^ 50):n.log2<50:=(Nat.log2_lt h).2 hn
theorem Abe:Ieee.double.leastPlace=-1074:=by decide
theorem bin:Ieee.double.binade=2 ^ 52:=rfl
theorem Ajo:Ieee.double.infRung=2047*2 ^ 52:=by decide +kernel
theorem AoZ:Ieee.double.signWeight=2 ^ 63:=rfl
theorem K6(way:Toward)(n k d:Nat)(hk:d<=k)(h:n≠0):way.cut false (n*2 ^ k) d=n*2 ^ (k-d):=by
 unfold Toward.cut;rw[N1 n k h,AqK (by omega),Nat.one_shiftLeft];have e:n*2 ^ k=n*2 ^ (k-d)*2 ^ d:=by rw[AqY,←Are,Nat.sub_add_cancel hk]
 rw[e];dsimp only;rw[Nat.mul_div_cancel _ (Aq1 d),Nat.mul_mod_left];have hp:=Aq1 d
 cases way
 .have h1:decide (2 ^ d<2*0)=false:=by simp
  have h2:(2 ^ d == 2*0)=false:=by simp
  simp only[h1,h2,Aqx,AsV,Bool.toNat_false,Nat.add_zero]
 all_goals simp
theorem W7{L m:Nat}(hL:L<50)(h3:m<2 ^ 53):(L+1022)*2 ^ 52+m<=2047*2 ^ 52:=by
 have h1:(L+1022)*2 ^ 52<=1072*2 ^ 52:=Aqo _ (by omega);have h2:m<2 ^ 52*2:=h3;generalize (2 ^ 52:Nat)=B at *;generalize (L+1022)*B=C at *;omega
theorem AbO(L:Nat):(-1074:Int)+((L+1023-1:Nat):Int)=(L:Int)-52:=by omega
theorem O9(n k:Nat)(h:n≠0)(hn:n<2 ^ 50)(hk:52<=k)(hk2:k<=1074):Ieee.double.nearest false (n*2 ^ k) (-k)=(n.log2+1022)*2 ^ 52+n*2 ^ (52-n.log2):=by
 have hL:=Ee h hn;have h1:=(Art h).1 rfl;have h0:n*2 ^ k≠0:=AsK h (by have:=Aq1 k;omega);unfold Format.nearest;rw[if_neg h0,N1 n k h,Abe,bin,Ajo];have e1:max (-(k:Int)+((n.log2+k:Nat):Int)-((Ieee.double.fractionBits:Nat):Int)) (-1074)=(n.log2:Int)-52:=by
  show max (-(k:Int)+((n.log2+k:Nat):Int)-((52:Nat):Int)) (-1074)=_
  omega
 simp only[e1];rw[show (-(k:Int)-((n.log2:Int)-52)).toNat=0 by omega,Arm];rw[show ((n.log2:Int)-52 - -(k:Int)).toNat=n.log2+k-52 by omega];rw[K6 .even n k _ (by omega) h,show k-(n.log2+k-52)=52-n.log2 by omega];rw[show ((n.log2:Int)-52 - -1074).toNat=n.log2+1022 by omega];have h3:n*2 ^ (52-n.log2)<2 ^ 53:=by
  have:=Ara h1.2 (Aq1 (52-n.log2))
  rwa [←Are,show n.log2+1+(52-n.log2)=53 by omega]at this
 rw[AqK]
 .unfold Format.word;simp
 .exact W7 hL h3
theorem Aao(n:Nat)(h:n≠0)(hn:n<2 ^ 50):enc n=(n.log2+1022)*2 ^ 52+n*2 ^ (52-n.log2):=by
 have hL:=Ee h hn;have h1:=(Art h).1 rfl;unfold enc Format.nearest;rw[if_neg h,Abe,bin,Ajo];have e1:max ((0:Int)+(n.log2:Int)-((Ieee.double.fractionBits:Nat):Int)) (-1074)=(n.log2:Int)-52:=by
  show max ((0:Int)+(n.log2:Int)-((52:Nat):Int)) (-1074)=_
  omega
 simp only[e1];rw[show ((0:Int)-((n.log2:Int)-52)).toNat=52-n.log2 by omega,show ((n.log2:Int)-52-0).toNat=0 by omega,Ar9];rw[K6 .even n (52-n.log2) 0 (by omega) h,Nat.sub_zero];rw[show ((n.log2:Int)-52 - -1074).toNat=n.log2+1022 by omega];have h3:n*2 ^ (52-n.log2)<2 ^ 53:=by
  have:=Ara h1.2 (Aq1 (52-n.log2))
  rwa [←Are,show n.log2+1+(52-n.log2)=53 by omega]at this
 rw[AqK]
 .unfold Format.word;simp
 .exact W7 hL h3
theorem PA(n k:Nat)(h:n≠0)(hn:n<2 ^ 50)(hk:52<=k)(hk2:k<=1074):Ieee.double.nearest false (n*2 ^ k) (-k)=enc n:=(O9 n k h hn hk hk2).trans (Aao n h hn).symm
theorem Kz(n:Nat)(h:n≠0)(hn:n<2 ^ 50):Ieee.double.read (enc n)=.number false (n*2 ^ (52-n.log2)) ((n.log2:Int)-52):=by
 have hL:=Ee h hn;have h1:=(Art h).1 rfl;rw[Aao n h hn];have h2:2 ^ 52<=n*2 ^ (52-n.log2):=by
  have:=Aqo (2 ^ (52-n.log2)) h1.1
  rwa [←Are,show n.log2+(52-n.log2)=52 by omega]at this
 have h3:n*2 ^ (52-n.log2)<2 ^ 53:=by
  have:=Ara h1.2 (Aq1 (52-n.log2))
  rwa [←Are,show n.log2+1+(52-n.log2)=53 by omega]at this
 generalize n*2 ^ (52-n.log2)=m at *;generalize n.log2=L at *;unfold Format.read;rw[AoZ,bin,Ajo,Abe];have hw:(L+1022)*2 ^ 52+m<2 ^ 63:=by
  have:(L+1022)*2 ^ 52<=1072*2 ^ 52:=Aqo _ (by omega);omega
 have hm:((L+1022)*2 ^ 52+m) % 2 ^ 63=(L+1022)*2 ^ 52+m:=Nat.mod_eq_of_lt hw;have hd:((L+1022)*2 ^ 52+m) / 2 ^ 63=0:=Nat.div_eq_of_lt hw;have hlt:(L+1022)*2 ^ 52<=1072*2 ^ 52:=Aqo _ (by omega);simp only[hm,hd];have hq:((L+1022)*2 ^ 52+m) / 2 ^ 52=L+1023:=by omega
 have hr:((L+1022)*2 ^ 52+m) % 2 ^ 52=m-2 ^ 52:=by omega
 rw[hq,hr,if_neg (by omega),if_pos (by omega)];have z:((0:Nat) % 2 == 1)=false:=rfl;rw[z,show 2 ^ 52+(m-2 ^ 52)=m by omega];rw[AbO]
theorem JX:enc 1=4607182418800017408:=by decide +kernel
theorem Yo:Ieee.double.read 0=.number false 0 (-1074):=by decide +kernel
theorem VJ(n:Nat)(h:n≠0)(hn:n<2 ^ 49):floatBits .add .f64 (enc n) 4607182418800017408=some (enc (n+1)):=by
 have hL:=Ee h (by omega);rw[←JX]
 show Ieee.double.add (enc n) (enc 1)=_
 unfold Format.add;rw[Kz n h (by omega),Kz 1 (by decide) (by decide)];have l1:Nat.log2 1=0:=by decide
 rw[l1];unfold Datum.sum;simp only;have hb:min ((n.log2:Int)-52) (((0:Nat):Int)-52)=-52:=by omega
 rw[hb,show ((n.log2:Int)-52 - -52).toNat=n.log2 by omega,show (((0:Nat):Int)-52 - -52).toNat=0 by omega];unfold signed;simp only[AqQ,if_false];rw[Ar9,Arm,AqY,←Are,show 52-n.log2+n.log2=52 by omega];have e:((n*2 ^ 52:Nat):Int)+((1*2 ^ (52-0):Nat):Int)=(((n+1)*2 ^ 52:Nat):Int):=by
  rw[Nat.add_mul];omega
 rw[e,if_neg (by omega),Asr];have hd:decide ((((n+1)*2 ^ 52:Nat):Int)<0)=false:=by rw[decide_eq_false_iff_not];omega
 rw[hd]
 show some (Ieee.double.nearest false ((n+1)*2 ^ 52) (-((52:Nat):Int)))=_
 rw[PA (n+1) 52 (by omega) (by omega) (by decide) (by decide)]
theorem Xc(n:Nat)(h:n≠0)(hn:n<2 ^ 49):floatBits .add .f64 (enc n) 0=some (enc n):=by
 have hL:=Ee h (by omega)
 show Ieee.double.add (enc n) 0=_
 unfold Format.add;rw[Kz n h (by omega),Yo];unfold Datum.sum;simp only;obtain⟨K,hK⟩:∃ K:Nat,K=1074:=⟨_,rfl⟩;have hb:min ((n.log2:Int)-52) (-1074)=-(K:Int):=by omega
 rw[hb,show ((n.log2:Int)-52 - -(K:Int)).toNat=n.log2+K-52 by omega,show ((-1074:Int) - -(K:Int)).toNat=0 by omega];unfold signed;simp only[AqQ,if_false];rw[Ar9,Arm,AqY,←Are,show 52-n.log2+(n.log2+K-52)=K by omega];have hp:0<n*2 ^ K:=Nat.mul_pos (by omega) (Aq1 _);rw[show ((n*2 ^ K:Nat):Int)+((0:Nat):Int)=((n*2 ^ K:Nat):Int) by omega,if_neg (by omega),Asr];have hd:decide (((n*2 ^ K:Nat):Int)<0)=false:=by rw[decide_eq_false_iff_not];omega
 rw[hd]
 show some (Ieee.double.nearest false (n*2 ^ K) (-(K:Int)))=_
 rw[PA n K h (by omega) (by omega) (by omega)]
theorem VX(n:Nat)(h:n≠0)(hn:n<2 ^ 49):floatToIntVal .f64 (enc n) .i64=some (n:Int):=by
 have hL:=Ee h (by omega);unfold floatToIntVal
 show (match (Ieee.double.read (enc n)).toInt .zero with|some m=>if IntKind.i64.min<=m/\m<=IntKind.i64.max then some m else none|none=>none)=_
 rw[Kz n h (by omega)];unfold Datum.toInt Datum.integral;simp only;rw[show ((n.log2:Int)-52).toNat=0 by omega,Arm,show (-((n.log2:Int)-52)).toNat=52-n.log2 by omega];rw[K6 .zero n (52-n.log2) (52-n.log2) (ApA _) h,Nat.sub_self,Nat.pow_zero,Nat.mul_one];unfold signed;simp only[AqQ,if_false,Arm];have h1:IntKind.i64.min<=(n:Int):=by show (-9223372036854775808:Int)<=_;omega
 have h2:(n:Int)<=IntKind.i64.max:=by show _<=(9223372036854775807:Int);omega
 rw[if_pos ⟨h1,h2⟩]
end Go.Proofs.YtlmhajfbpplpoaaGreat
namespace Go.Proofs.YtlmhajfbpplpoaaGreat
open Go.RowKit
def Iv(w w':World)(k:Nat):Prop:=w.heap.size<=k/\k<w'.heap.size
structure Jmp (F:Nat->Prop) (w w':World):Prop where
 os:w'.os=w.os
 tape:w'.tape=w.tape
 output:w'.output=w.output
 size:w.heap.size<=w'.heap.size
 keep:∀ k,F k->w'.heap[k]? = w.heap[k]?
section
variable {F G:Nat->Prop} {w w1 w2:World}
theorem Jmp.refl(F:Nat->Prop)(w:World):Jmp F w w:=⟨rfl,rfl,rfl,ApA _,λ_ _=>rfl⟩
theorem Jmp.trans(h:Jmp F w w1)(k:Jmp F w1 w2):Jmp F w w2:=⟨k.os.trans h.os,k.tape.trans h.tape,k.output.trans h.output,Aqm h.size k.size,λi hi=>(k.keep i hi).trans (h.keep i hi)⟩
theorem Jmp.less(h:Jmp F w w1)(hs:∀ k,G k->F k):Jmp G w w1:=⟨h.os,h.tape,h.output,h.size,λi hi=>h.keep i (hs i hi)⟩
theorem Jmp.below(h:Jmp (Lt w.heap.size) w w1):Below w.heap.size w w1:=⟨h.os,h.tape,h.output,h.size,λi hi=>h.keep i hi⟩
theorem Jmp.of_below{B:Nat}(h:Below B w w1)(hF:∀ k,F k->k<B):Jmp F w w1:=⟨h.os,h.tape,h.output,h.size,λi hi=>h.block i (hF i hi)⟩
end
section
variable {P:Program} {md:Region.Mode} {ops:Array Oper} {QX:Exit->Act->World->Prop} {Q:Array Bool->(Nat->Prop)->Act->World->Prop}
def wpJ(P:Program)(md:Region.Mode)(ops:Array Oper)(QX:Exit->Act->World->Prop)(Q:Array Bool->(Nat->Prop)->Act->World->Prop):Nat->Array Bool->(Nat->Prop)->Act->World->Prop
 |0,listed,F,a,w=>Region.ready md ops listed=[]/\∀ w',Jmp F w w'->Q listed F a w'
 |n+1,listed,F,a,w=>(Region.ready md ops listed=[]->∀ w',Jmp F w w'->Q listed F a w') ∧
  ∀ i∈Region.ready md ops listed,∀ w',Jmp F w w'->wpOp P ops QX i (λa2 w2=>Below w'.heap.size w' w2/\wpJ P md ops QX Q n (listed.setIfInBounds i true) (λk=>F k\/Iv w' w2 k) a2 w2) a w'
theorem wpJ.jump{n:Nat}{listed:Array Bool}{F:Nat->Prop}{a:Act}{w w':World}(h:wpJ P md ops QX Q n listed F a w)(hj:Jmp F w w'):wpJ P md ops QX Q n listed F a w':=by
 cases n with
 |zero=>exact⟨h.1,λw2 h2=>h.2 w2 (hj.trans h2)⟩
 |succ n=>exact⟨λh0 w2 h2=>h.1 h0 w2 (hj.trans h2),λi hi w2 h2=>h.2 i hi w2 (hj.trans h2)⟩
theorem VI(w:World)(F:Nat->Prop):(λk=>F k\/Iv w w k)=F:=by
 funext k
 unfold Iv;exact propext ⟨λh=>h.elim id λh=>absurd h.2 (by omega),.inl⟩
theorem Pf{S S':World->Prop}{o:Oper}{v:Value}{a:Act}(h:YieldsIf P ops S o v a)(hs:∀ w,S' w->S w):YieldsIf P ops S' o v a:=
 h.imp (λ⟨h1,h2⟩=>⟨h1,λw hw=>h2 w (hs w hw)⟩) id
theorem NN{F:Nat->Prop}{w w2:World}(hF:∀ k,F k->k<w.heap.size)(h:w.heap.size<=w2.heap.size):∀ k,F k\/Iv w w2 k->k<w2.heap.size:=
 λk hk=>hk.elim (λh1=>AqG (hF k h1) h) λh1=>h1.2
theorem Jmp.grow{F:Nat->Prop}{w w':World}(hF:∀ k,F k->k<w.heap.size)(h:Jmp F w w'):∀ k,F k->k<w'.heap.size:=λk hk=>AqG (hF k hk) h.size
theorem Y0{i:Nat}{oi:Oper}{v:Value}(hi:ops[i]? = some oi)(hsel:∀(j:Nat) (o:Oper) cs b,ops[j]? = some o->o.op≠.select cs b)
  (hQ:∀ c a w,QX (.panic c) (a.put oi.dst v) w->QX (.panic c) a w) :
  ∀(fuel:Nat) (listed:Array Bool) (F:Nat->Prop) (a:Act) (w:World),(∀ k,F k->k<w.heap.size)->
   (∀ j oj,ops[j]? = some oj->j≠i->listed.getD j true=false->(∀ e∈oj.after,Region.binds md e=true->e.on≠i)->oi.apart ops oj=true)->
   i∈Region.ready md ops listed->YieldsIf P ops (Jmp F w) oi v a->
   wpJ P md ops QX Q fuel (listed.setIfInBounds i true) F (a.put oi.dst v) w->wpJ P md ops QX Q (fuel+1) listed F a w:=by
 intro fuel
 induction fuel with
 |zero=>
  intro listed F a w hF _ hr hy H;refine⟨λh=>(by rw[h]at hr;cases hr),λj hj w' hw'=>?_⟩
  by_cases hji:j=i
  .subst hji;exact hy.wpOp hi hw' ⟨Below.refl _ _,by rw[VI];exact H.jump hw'⟩
  .have:=ready_mono hj hji
   rw[H.1]at this
   cases this
 |succ fuel ih=>
  intro listed F a w hF hfree hr hy H;refine⟨λh=>(by rw[h]at hr;cases hr),λj hj w' hw'=>?_⟩
  by_cases hji:j=i
  .subst hji;exact hy.wpOp hi hw' ⟨Below.refl _ _,by rw[VI];exact H.jump hw'⟩
  .have h1:=H.2 j (ready_mono hj hji) w' hw'
   obtain⟨hjun,oj,hoj,hall⟩:=mem_ready.1 hj;have hnot:∀ e∈oj.after,Region.binds md e=true->e.on≠i:=λe he hb heq=>by
    have h1:=hall e he hb;have h0:=(mem_ready.1 hr).1;rw[heq]at h1;rcases ApT i listed.size with h' | h'
    .simp[h']at h0 h1;rw[h0]at h1;cases h1
    .simp[Aqu h']at h1
   have h2:=wpOp_putIf hoj (hfree j oj hoj hji hjun hnot) (λcs b=>hsel i oi cs b hi) (λcs b=>hsel j oj cs b hoj) hQ hy h1;have hfree':∀ k ok,ops[k]? = some ok->k≠i->(listed.setIfInBounds j true).getD k true=false->
     (∀ e∈ok.after,Region.binds md e=true->e.on≠i)->oi.apart ops ok=true:=λk ok hk hki hun hno=>by
    refine hfree k ok hk hki ?_ hno
    by_cases hjk:j=k
    .subst hjk;exact hjun
    .rw[getD_set_ne true hjk]at hun;exact hun
   have hF':=hw'.grow hF;refine wpOp_mono (λa' w2 h3=>⟨h3.2.1,ih (listed.setIfInBounds j true) _ a' w2 (NN hF' h3.2.1.size) hfree' (ready_mono hr (Ne.symm hji)) (Pf h3.1 λw3 h4=>?_) ?_⟩) h2
   .exact hw'.trans ((Jmp.of_below h3.2.1 hF').trans (h4.less λk hk=>.inl hk))
   .rw[ArZ _ _ hji]
    exact h3.2.2
theorem AcT{i:Nat}{oi:Oper}{v:Value}{fuel:Nat}{listed:Array Bool}{F:Nat->Prop}{a:Act}{w:World}(hi:ops[i]? = some oi)
  (hs:Region.noSelect ops=true) (hf:Region.free md ops listed i=true) (hr:(Region.ready md ops listed).contains i=true)
  (hQ:∀ c a w,QX (.panic c) (a.put oi.dst v) w->QX (.panic c) a w) (hF:∀ k,F k->k<w.heap.size) (hy:YieldsIf P ops (Jmp F w) oi v a)
  (h:wpJ P md ops QX Q fuel (listed.setIfInBounds i true) F (a.put oi.dst v) w):wpJ P md ops QX Q (fuel+1) listed F a w:=
 Y0 hi (Region.noSelect_spec hs) hQ fuel listed F a w hF (Region.free_spec hi hf) (by simpa using hr) hy h
theorem AfQ{i:Nat}{fuel:Nat}{listed:Array Bool}{F:Nat->Prop}{a:Act}{w:World}(hr:Region.ready md ops listed=[i])
  (h:∀ w',Jmp F w w'->wpOp P ops QX i (λa2 w2=>Below w'.heap.size w' w2/\wpJ P md ops QX Q fuel (listed.setIfInBounds i true) (λk=>F k\/Iv w' w2 k) a2 w2) a w'):wpJ P md ops QX Q (fuel+1) listed F a w:=
 ⟨λh0=>(by rw[hr]at h0;cases h0),λj hj=>by rw[hr]at hj;obtain rfl:=List.mem_singleton.1 hj;exact h⟩
theorem RN{listed:Array Bool}{F:Nat->Prop}{a:Act}{w:World}(hr:Region.ready md ops listed=[])(h:∀ w',Jmp F w w'->Q listed F a w'):∀ fuel,wpJ P md ops QX Q fuel listed F a w
 |0=>⟨hr,h⟩
 |_+1=>⟨λ_=>h,by rw[hr];simp⟩
def AiC(base:Nat)(s:Tmp)(T:TypeId)(Z:Array Value)(Q:Array Bool->(Nat->Prop)->Act->World->Prop):Array Bool->(Nat->Prop)->Act->World->Prop:=
 λlisted F a w=>∀ g,base<=g->¬ F g->Blk w g T Z->Q listed (λk=>F k\/k=g) (a.put (some s) (.pointer (some ⟨g,0,none⟩))) w
theorem Y1{j:Nat}{oi oj:Oper}{v:Value}(hj:ops[j]? = some oj)(hap:oi.apart ops oj=true)(hsj:∀ cs b,oj.op≠.select cs b)
  (hQ:∀ c a w,QX (.panic c) a w->QX (.panic c) (a.put oi.dst v) w) {K:Act->World->Prop} {a:Act} {w:World} (h:wpOp P ops QX j K a w) :
  wpOp P ops QX j (λa' w'=>∃ a0,a'=a0.put oi.dst v/\K a0 w') (a.put oi.dst v) w:=by
 obtain⟨h1,h2,h3⟩:=Oper.apart_spec hap;unfold wpOp at *;simp only[hj]at *;rw[wanted_put oj a oi.dst v h1];split
 .rename_i hw
  simp only[hw,if_true]at h;rcases h with h|⟨hasks,hlets⟩
  case inr=>exact .inr ⟨by unfold Oper.asks at *;rw[execOp_put oj hsj a oi.dst v h1];exact hasks,hlets⟩
  refine .inl ?_;unfold Oper.wp at *;rw[execOp_put oj hsj a oi.dst v h1];generalize (execOp a.eval oj).run P w=r at *
  cases r with
  |ok n w'=>
   cases n<;>simp only[Oper.upon]at h ⊢
   case value u=>exact⟨_,Act.put_comm a v u h2,h⟩
   case skip=>exact⟨_,Act.put_comm a v undef h2,h⟩
   case defer d=>exact⟨_,by rw[Act.put_defers];exact Act.put_comm _ v undef h2,h⟩
   case enter f args=>
    refine Calls.mono h λe w'' he=>?_
    cases e with
    |returned u=>exact⟨_,Act.put_comm a v u h2,he⟩
    |panicked c=>exact hQ _ _ _ he
    |outgrown=>exact he
   case row row args=>exact Rows.mono h λu w'' he=>⟨_,Act.put_comm a v u h2,he⟩
  |halt x w'=>
   cases x<;>simp only[Oper.upon]at h ⊢
   case panic u=>exact hQ _ _ _ h
 .rename_i hw
  simp only[hw]at h;exact⟨_,Act.put_comm a v undef h2,h⟩
theorem Aka{listed:Array Bool}{j k:Nat}(h:(listed.setIfInBounds j true).getD k true=false):listed.getD k true=false:=by
 by_cases hjk:j=k
 .subst hjk
  rcases ApT j listed.size with h' | h'
  .simp[h']at h
  .simp[h']at h
 .rwa [getD_set_ne true hjk]at h
section
variable {base i:Nat} {s:Tmp} {T:TypeId} {Z:Array Value} {oi:Oper}
theorem AcS(hsel:∀(j:Nat) (o:Oper) cs b,ops[j]? = some o->o.op≠.select cs b)(hdst:oi.dst=some s)(hQ:∀ c a v w,QX (.panic c) a w->QX (.panic c) (a.put oi.dst v) w) :
  ∀(n:Nat) (listed:Array Bool) (F:Nat->Prop) (a:Act) (w:World),wpJ P md ops QX (AiC base s T Z Q) n listed F a w->(∀ k,F k->k<w.heap.size)->
   (∀ j oj,ops[j]? = some oj->listed.getD j true=false->oi.apart ops oj=true)->
   ∀(g:Nat) (w':World),base<=g->¬ F g->Jmp F w w'->Blk w' g T Z->wpJ P md ops QX Q n listed (λk=>F k\/k=g) (a.put oi.dst (.pointer (some ⟨g,0,none⟩))) w':=by
 intro n
 induction n with
 |zero=>
  intro listed F a w h hF _ g w' hg hn hj hb;refine⟨h.1,λw2 h2=>?_⟩;rw[hdst];exact h.2 w2 (hj.trans (h2.less λk hk=>.inl hk)) g hg hn ((h2.keep g (.inr rfl)).trans hb)
 |succ n ih=>
  intro listed F a w h hF hap g w' hg hn hj hb;refine⟨λh0 w2 h2=>?_,λj hjr w2 h2=>?_⟩
  .rw[hdst]
   exact h.1 h0 w2 (hj.trans (h2.less λk hk=>.inl hk)) g hg hn ((h2.keep g (.inr rfl)).trans hb)
  .obtain⟨hjun,oj,hoj,_⟩:=mem_ready.1 hjr
   have hj2:=hj.trans (h2.less λk hk=>.inl hk);have h1:=Y1 (v:=.pointer (some ⟨g,0,none⟩)) hoj (hap j oj hoj hjun) (λcs b=>hsel j oj cs b hoj) (λc a w=>hQ c a _ w) (h.2 j hjr w2 hj2);have hb2:Blk w2 g T Z:=(h2.keep g (.inr rfl)).trans hb;refine wpOp_mono (λa' w3 ⟨a0,ha,h3,h4⟩=>⟨h3,?_⟩) h1;subst ha;have:=ih (listed.setIfInBounds j true) _ a0 w3 h4 (NN (hj2.grow hF) h3.size) (λk ok hk hun=>hap k ok hk (Aka hun)) g w3 hg (λhh=>hh.elim hn λhh=>by have:=hb2.lt;have:=hh.1;omega) (Jmp.refl _ _) (hb2.call h3);have e:(λk=>(F k\/k=g)\/Iv w2 w3 k)=(λk=>(F k\/Iv w2 w3 k)\/k=g):=by
    funext k
    exact propext or_right_comm
   rw[e];exact this
theorem AmV(hoi:ops[i]? = some oi)(hsel:∀(j:Nat) (o:Oper) cs b,ops[j]? = some o->o.op≠.select cs b)(hdst:oi.dst=some s)(hQ:∀ c a v w,QX (.panic c) a w->QX (.panic c) (a.put oi.dst v) w)
  (hgd:oi.guard=none) (haf:oi.after=#[]) (hrun:∀(a:Act) (w:World),(execOp a.eval oi).run P w=.ok (.value (.pointer (some ⟨w.heap.size,0,none⟩))) (w.alloc (.cells Z T))) :
  ∀(n:Nat) (listed:Array Bool) (F:Nat->Prop) (a:Act) (w:World),wpJ P md ops QX (AiC base s T Z Q) n (listed.setIfInBounds i true) F a w->(∀ k,F k->k<w.heap.size)->base<=w.heap.size->listed.getD i true=false->
   (∀ j oj,ops[j]? = some oj->j≠i->listed.getD j true=false->oi.apart ops oj=true)->wpJ P md ops QX Q (n+1) listed F a w:=by
 intro n;have hw:∀ a:Act,Region.wanted oi (yielded ops a.tmps)=true:=λa=>by unfold Region.wanted;rw[hgd]
 have lay:∀(n:Nat) (listed:Array Bool) (F:Nat->Prop) (a:Act) (w:World),wpJ P md ops QX (AiC base s T Z Q) n (listed.setIfInBounds i true) F a w->(∀ k,F k->k<w.heap.size)->base<=w.heap.size->
   (∀ j oj,ops[j]? = some oj->j≠i->listed.getD j true=false->oi.apart ops oj=true)->∀ w',Jmp F w w'->
   wpOp P ops QX i (λa2 w2=>Below w'.heap.size w' w2/\wpJ P md ops QX Q n (listed.setIfInBounds i true) (λk=>F k\/Iv w' w2 k) a2 w2) a w':=by
  intro n listed F a w h hF hB hap w' hw';unfold wpOp;simp only[hoi];rw[if_pos (hw a)];refine .inl ?_;unfold Oper.wp;rw[hrun a w'];simp only[Oper.upon];refine⟨Bl _ _,?_⟩;have e:(λk=>F k\/Iv w' (w'.alloc (.cells Z T)) k)=(λk=>F k\/k=w'.heap.size):=by
   funext k
   unfold Iv;rw[World.size_alloc];exact propext ⟨λh=>h.imp id λh=>by omega,λh=>h.imp id λh=>by omega⟩
  rw[e];refine AcS hsel hdst hQ n _ F a w h hF (λj oj hj hun=>?_) w'.heap.size _ (Aqm hB hw'.size) (λhf=>by have:=hF _ hf;have:=hw'.size;omega) (hw'.trans (Jmp.of_below (Bl _ _) (hw'.grow hF))) (Blk.new _ _ _)
  by_cases hji:j=i
  .subst hji
   rcases ApT j listed.size with h' | h'
   .simp[h']at hun
   .simp[h']at hun
  .exact hap j oj hj hji (Aka hun)
 have rdy:∀ listed:Array Bool,listed.getD i true=false->i∈Region.ready md ops listed:=λlisted hl=>mem_ready.2 ⟨hl,oi,hoi,λe he=>by rw[haf]at he;simp at he⟩
 induction n with
 |zero=>
  intro listed F a w h hF hB hl hap;refine⟨λh0=>(by have:=rdy listed hl;rw[h0]at this;cases this),λj hj w' hw'=>?_⟩
  by_cases hji:j=i
  .subst hji;exact lay 0 listed F a w h hF hB hap w' hw'
  .have:=ready_mono hj hji
   rw[h.1]at this
   cases this
 |succ n ih=>
  intro listed F a w h hF hB hl hap;refine⟨λh0=>(by have:=rdy listed hl;rw[h0]at this;cases this),λj hj w' hw'=>?_⟩
  by_cases hji:j=i
  .subst hji;exact lay (n+1) listed F a w h hF hB hap w' hw'
  .have h1:=h.2 j (ready_mono hj hji) w' hw'
   refine wpOp_mono (λa' w2 ⟨h2,h3⟩=>⟨h2,ih (listed.setIfInBounds j true) _ a' w2 ?_ (NN (hw'.grow hF) h2.size) (Aqm hB (Aqm hw'.size h2.size)) ?_ λk ok hk hki hun=>hap k ok hk hki (Aka hun)⟩) h1
   .rw[ArZ _ _ hji];exact h3
   .rw[getD_set_ne true hji];exact hl
end
def BY(n:Nat)(listed:Array Bool):Array Bool:=listed.mapIdx λi b=>b&&decide (i<n)
theorem TU(n:Nat)(listed:Array Bool):(BY n listed).size=listed.size:=by simp[BY]
theorem FO{n:Nat}{listed:Array Bool}{j:Nat}(d:Bool)(hj:j<listed.size):(BY n listed).getD j d=(listed.getD j d&&decide (j<n)):=by
 simp[BY,hj]
theorem OO{n:Nat}{listed:Array Bool}{i:Nat}(hi:i<n):BY n (listed.setIfInBounds i true)=(BY n listed).setIfInBounds i true:=by
 apply As2
 .simp[BY]
 .intro k h1 h2
  by_cases h:i=k
  .subst h;simp[BY,hi]
  .simp[BY,hi]
theorem OQ{Q':Exit->Act->World->Prop}:∀(n:Nat) (listed:Array Bool) (a:Act) (w:World),wpAny P md ops Q' n listed a w->wpAny P md ops Q' (n+1) listed a w
 |0,_,_,_,h=>⟨λ_=>h.2,by rw[h.1];simp⟩
 |n+1,_,_,_,h=>⟨h.1,λi hi=>wpOp_mono (λa' w' h'=>OQ n _ a' w' h') (h.2 i hi)⟩
theorem OR{Q':Exit->Act->World->Prop}{n:Nat}{listed:Array Bool}{a:Act}{w:World}(h:wpAny P md ops Q' n listed a w):∀ k,wpAny P md ops Q' (n+k) listed a w
 |0=>h
 |k+1=>OQ _ _ _ _ (OR h k)
def Agm(md:Region.Mode)(ops:Array Oper)(n:Nat):Bool:=(List.range n).all λi=>match ops[i]? with|some o=>o.after.all (λe=>!Region.binds md e||decide (e.on<n)) | none=>true
theorem RM{n g:Nat}(hh:Agm md ops n=true)(hn:n<ops.size)(hs:Region.sinkB md ops n=true)(hc:Region.chainB md ops n=true)(hQ:∀ listed F a w,Q listed F a w->Region.seqB md ops g n (BY n listed)=true/\wpAny P md ops QX g (BY n listed) a w) :
  ∀(k:Nat) (listed:Array Bool) (F:Nat->Prop) (a:Act) (w:World),listed.size=ops.size->(∀ t,n<=t->t<ops.size->listed.getD t true=true)->HeadInv md ops n (BY n listed)->wpJ P md ops QX Q k listed F a w->
   wpAny P md ops QX (g+k) (BY n listed) a w:=by
 intro k
 induction k with
 |zero=>
  intro listed F a w _ _ _ h;exact(hQ _ _ _ _ (h.2 w (Jmp.refl _ _))).2
 |succ k ih=>
  intro listed F a w hsz ht inv h
  by_cases h0:Region.ready md ops listed=[]
  .exact OR (hQ _ _ _ _ (h.1 h0 w (Jmp.refl _ _))).2 (k+1)
  .obtain⟨i0,hi0⟩:=List.exists_mem_of_ne_nil _ h0
   obtain⟨hun0,o0,ho0,_⟩:=mem_ready.1 hi0;have hlt0:i0<ops.size:=(Aqf.1 ho0).1;have hi0n:i0<n:=by
    rcases ApT i0 n with h' | h'
    .exact h'
    .rw[ht i0 h' hlt0]at hun0;cases hun0
   have hun0':(BY n listed).getD i0 true=false:=by rw[FO true (by omega),hun0];rfl
   have hnt:=tail_waits hs hc hn inv (n-i0) i0 rfl hi0n hun0';have step:∀ i∈Region.ready md ops (BY n listed),wpOp P ops QX i (wpAny P md ops QX (g+k) ((BY n listed).setIfInBounds i true)) a w:=by
    intro i hi;have hin:i<n:=by
     rcases ApT i n with h' | h'
     .exact h'
     .exact absurd hi (hnt i h')
    obtain⟨hun,oi,hoi,hall⟩:=mem_ready.1 hi;have hil:i<listed.size:=by have:=(Aqf.1 hoi).1;omega
    have hir:i∈Region.ready md ops listed:=by
     refine mem_ready.2 ⟨?_,oi,hoi,λe he hb=>?_⟩
     .rw[FO true hil]at hun;simpa[hin]using hun
     .have:=hall e he hb
      have hel:e.on<listed.size:=by
       rcases ApT e.on listed.size with h' | h'
       .exact h'
       .simp[Array.getD_eq_getD_getElem?,Aqu (show (BY n listed).size<=e.on by rw[TU];exact h')]at this
      rw[FO false hel]at this;simp only[ApF]at this;exact this.1
    refine wpOp_mono (λa' w' h'=>?_) (h.2 i hir w (Jmp.refl _ _));rw[←OO hin];refine ih _ _ a' w' (by simpa using hsz) (λt h1 h2=>?_) ?_ h'.2
    .rw[getD_set_ne true (by omega)];exact ht t h1 h2
    .rw[OO hin];exact inv.set hi hin
   refine⟨λhr=>?_,step⟩
   exfalso
   obtain⟨_,o1,ho1,hall1⟩:=mem_ready.1 hi0;have hin:i0∈Region.ready md ops (BY n listed):=by
    refine mem_ready.2 ⟨hun0',o1,ho1,λe he hb=>?_⟩;have h1:=ApJ.1 hh i0 (List.mem_range.2 hi0n);rw[ho1]at h1;have h2:=Array.all_eq_true_iff_forall_mem.1 h1 e he;rw[hb]at h2;simp only[AsS,ArQ,decide_eq_true_eq]at h2;rw[FO false (by omega),hall1 e he hb];simpa using h2
   rw[hr]at hin
   cases hin
theorem Fp{id:Nat}{Q:Exit->Act->World->Prop}{a:Act}{w:World}{l:List Oper}{L:Array Bool}(n:Nat)(hm:P.follows .mixedOrders=true)(hL:((BY n (ArF l.length true)).map λb=>!b)=L)
  (hB:(Region.noSelect l.toArray&&decide (n<l.length)&&Region.sinkB .any l.toArray n&&Region.chainB .any l.toArray n&&Agm .any l.toArray n)=true)
  (h:wpJ P .any l.toArray Q (λlisted _ a w=>Region.seqB .any l.toArray (l.length-n) n (BY n listed)=true/\wpList P l.toArray Q (l.drop n) a w) n L (Lt w.drew.heap.size) a w.drew):(Code.region id l.toArray true).wp P Q a w:=by
 simp only[ApF,decide_eq_true_eq]at hB;subst hL;obtain⟨⟨⟨⟨hsel,hn⟩,hs⟩,hc⟩,hh⟩:=hB;refine wp_region_any hm ?_;have e:BY n (BY n (ArF l.length true) |>.map λb=>!b)=ArF l.toArray.size false:=by
  apply As2
  .simp[BY]
  .intro i h1 h2
   simp[BY]
 have inv:HeadInv .any l.toArray n (BY n (BY n (ArF l.length true) |>.map λb=>!b)):=by
  rw[e];exact⟨by simp,λj oj _ hl=>(by rw[getD_replicate_false]at hl;cases hl),λt _ ht=>getD_in (by simpa using ht) (getD_replicate_false _ _)⟩
 have:=RM (QX:=Q) (g:=l.length-n) hh (by simpa using hn) hs hc (λlisted F a w ⟨h1,h2⟩=>⟨h1,?_⟩) n _ _ a w.drew (by simp[BY]) (λt h1 h2=>?_) inv h
 .have h3:=wpAny_of_seq (md:=.any) (Q':=Q) (l.drop n) n (BY n listed) a w (λj=>by simp[List.getElem?_drop]) (by simpa using h1) h2
  simpa using h3
 .have ht:t<l.length:=by simpa using h2
  simp[BY,ht];omega
 .rw[e,show l.length-n+n=l.toArray.size by simp;omega]at this
  exact this
theorem RO{i:Nat}{o:Oper}(ho:ops[i]? = some o){K:Act->World->Prop}{a:Act}{w:World}(h:wpList P ops (Exit.then K QX) [o] a w):wpOp P ops QX i K a w:=by
 unfold wpOp;simp only[ho];exact h
theorem AcR{i:Nat}{o:Oper}{fuel:Nat}{listed:Array Bool}{F:Nat->Prop}{a:Act}{w:World}(hr:Region.ready md ops listed=[i])(ho:ops[i]? = some o)
  (h:∀ w',Jmp F w w'->∀ K:Act->World->Prop,Hid (∀ a2 w2,Below w'.heap.size w' w2->wpJ P md ops QX Q fuel (listed.setIfInBounds i true) (λk=>F k\/Iv w' w2 k) a2 w2->K a2 w2)->wpList P ops (Exit.then K QX) [o] a w'):wpJ P md ops QX Q (fuel+1) listed F a w:=
 AfQ hr λw' hj=>RO ho (h w' hj _ (Lib.hid λ_ _ h1 h2=>⟨h1,h2⟩))
theorem Jmp.cell{F:Nat->Prop}{w w':World}(h:Jmp F w w'){b:Nat}(o:Nat)(hb:F b):w'.cell? ⟨b,o,none⟩=w.cell? ⟨b,o,none⟩:=World.cell?_of_block (a:=⟨b,o,none⟩) (h.keep b hb)
theorem Jmp.fst{F G:Nat->Prop}{w w1:World}(h:Jmp (λk=>F k\/G k) w w1):Jmp F w w1:=h.less λ_=>.inl
theorem Jmp.from{F:Nat->Prop}{w w1 w2:World}(h:Jmp F w w1)(hb:Below w1.heap.size w1 w2)(hF:∀ k,F k->k<w1.heap.size):Jmp F w w2:=h.trans (Jmp.of_below hb hF)
theorem Jmp.back{F:Nat->Prop}{w v w1 w2:World}(h:Jmp F w v)(hF:∀ k,F k->k<w.heap.size)(hb:Below v.heap.size v w1)(k:Jmp (λk=>F k\/Iv v w1 k) w1 w2):Jmp F w w2:=
 h.trans ((Jmp.of_below hb (h.grow hF)).trans k.fst)
theorem Jmp.laid{F:Nat->Prop}{v w1 w2:World}(k:Jmp (λk=>F k\/Iv v w1 k) w1 w2){b:Nat}(h1:v.heap.size<=b)(h2:b<w1.heap.size):w2.heap[b]? = w1.heap[b]?:=k.keep b (.inr ⟨h1,h2⟩)
theorem Jmp.low{w w1:World}(h:Jmp (Lt w.drew.heap.size) w.drew w1):Below w.heap.size w w1:=QF h.below
def Yh{α:Type}:List α->Nat->Option α
 |[],_=>none
 |x::_,0=>some x
 |_::r,i+1=>Yh r i
theorem WB{α:Type}:∀(l:List α) (i:Nat),Yh l i=l[i]?
 |[],_=>rfl
 |_::_,0=>rfl
 |_::r,i+1=>by simpa[Yh]using WB r i
theorem S8{α:Type}{l:List α}{i:Nat}{o:α}(h:Yh l i=some o):l.toArray[i]? = some o:=by rw[List.getElem?_toArray,←WB];exact h
theorem Ay{l:List Oper}{i:Nat}{oi:Oper}{v:Value}{fuel:Nat}{listed:Array Bool}{F:Nat->Prop}{a:Act}{w:World}(hi:Yh l i=some oi)
  (hs:Region.noSelect l.toArray=true) (hf:Region.free md l.toArray listed i=true) (hr:(Region.ready md l.toArray listed).contains i=true)
  (hQ:∀ c a w,QX (.panic c) (a.put oi.dst v) w->QX (.panic c) a w) (hF:∀ k,F k->k<w.heap.size) (hy:YieldsIf P l.toArray (Jmp F w) oi v a)
  (h:wpJ P md l.toArray QX Q fuel (listed.setIfInBounds i true) F (a.put oi.dst v) w):wpJ P md l.toArray QX Q (fuel+1) listed F a w:=
 AcT (S8 hi) hs hf hr hQ hF hy h
theorem Qw{l:List Oper}{i:Nat}{o:Oper}{fuel:Nat}{listed:Array Bool}{F:Nat->Prop}{a:Act}{w:World}(hr:Region.ready md l.toArray listed=[i])(ho:Yh l i=some o)
  (h:∀ w',Jmp F w w'->∀ K:Act->World->Prop,Hid (∀ a2 w2,Below w'.heap.size w' w2->wpJ P md l.toArray QX Q fuel (listed.setIfInBounds i true) (λk=>F k\/Iv w' w2 k) a2 w2->K a2 w2)->wpList P l.toArray (Exit.then K QX) [o] a w'):wpJ P md l.toArray QX Q (fuel+1) listed F a w:=
 AcR hr (S8 ho) h
end
end Go.Proofs.YtlmhajfbpplpoaaGreat
namespace Go.Proofs.YtlmhajfbpplpoaaGreat
open Go.RowKit
def later(W x:World):World:={ heap:=W.heap++x.heap.extract W.heap.size x.heap.size,tape:=W.tape,drawn:=x.drawn,os:=W.os,output:=W.output }
theorem Bc(W x:World):Below W.heap.size W (later W x):=by
 refine⟨rfl,rfl,rfl,by simp[later],λk hk=>?_⟩
 show (W.heap++_)[k]? = _
 rw[ArP hk]
theorem Aa8{W w:World}(hb:Below W.heap.size W w):w=later W w:=by
 have hh:w.heap=W.heap++w.heap.extract W.heap.size w.heap.size:=by
  apply Array.ext_getElem?;intro i;rcases ApT i W.heap.size with h|h
  .rw[ArP h,hb.block i h]
  .rw[Array.getElem?_append_right h,Array.getElem?_extract]
   by_cases hi:i<w.heap.size
   .rw[if_pos (by have:=hb.size;omega)]
    congr 1
    omega
   .rw[if_neg (by omega),Aqu (by omega)]
 obtain⟨h1,h2,h3,_,_⟩:=hb
 cases w
 simp only at h1 h2 h3 hh;subst h1 h2 h3;simp only[later,World.mk.injEq,and_true];exact hh
@[go_sem] theorem Af3(W x:World)(b o:Nat)(h:b<W.heap.size):(later W x).cell? ⟨b,o,none⟩=W.cell? ⟨b,o,none⟩:=(Bc W x).cell (p:=⟨b,o,none⟩) h
@[go_sem] theorem Ac2(W x:World)(b o:Nat)(h:b<W.heap.size):(later W x).frozen? ⟨b,o,none⟩=W.frozen? ⟨b,o,none⟩:=(Bc W x).frozen (p:=⟨b,o,none⟩) h
theorem AZ{P:Program}{id:Nat}{Q:Exit->Act->World->Prop}{a:Act}{w:World}{l:List Oper}(hm:P.follows .mixedOrders=true)(hB:Region.lexB .any l.toArray=true)
  (h:wpQuiet P l.toArray (λw'=>∃ x,w'=later w x) (λa'=>∀ w',(∃ x,w'=later w x)->Q .normal a' w') l a):(Code.region id l.toArray true).wp P Q a w:=
 wp_region_quiet (C:=λw'=>∃ x,w'=later w x) hm hB ⟨w.drew,Aa8 (Below.refl _ _).drew⟩ (by simpa using h)
theorem U1{P:Program}{f:FuncId}{args:Array Value}{W x:World}{v:Value}(h:Calls P f args (later W x) λe w'=>e=.returned v/\later W x=w') :
  Calls P f args (later W x) λe w'=>e=.returned v/\∃ y,w'=later W y:=
 h.mono λ_ _ ⟨he,hw⟩=>⟨he,x,hw.symm⟩
end Go.Proofs.YtlmhajfbpplpoaaGreat
