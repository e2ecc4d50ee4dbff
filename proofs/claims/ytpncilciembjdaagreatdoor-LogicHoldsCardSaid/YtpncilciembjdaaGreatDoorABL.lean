/-
  What layer 4's saying calls answers, computed.
  What layer 5's alive calls answers, computed.
  Answers on single arguments, as a table. No program in sight.
  Layer 5's alive: what Tidy, Flat and Cubes call there, as tables.
  Functions of the program as trees: what a call comes to.
-/
import Derived.Test.YtpncilciembjdaaGreatDoorABK
import Derived.Test.YtpncilciembjdaaGreatDoorABI
import Derived.Test.YtpncilciembjdaaGreatDoorAAO
import Derived.Test.YtpncilciembjdaaGreatDoorAAX
set_option linter.unusedSectionVars false
set_option linter.unusedSimpArgs false
set_option linter.unusedVariables false
namespace Go.Proofs.YtpncilciembjdaaGreatDoor
open Go.RowKit
end Go.Proofs.YtpncilciembjdaaGreatDoor
namespace Go.Proofs.YtpncilciembjdaaGreatDoor
open Go.RowKit
theorem gAu(f:Nat):GoodD (SemFn Tryz.prog f) ((Dn realA seatAu 60).ask (.fn f)):=(dn_good (seatAu_ok textAx_good tidyTz_good join_good clone_nat cloneD_part grow_part grow_rel) 60).1 f
noncomputable def dAu(f:Nat):DF:=(Dn realA seatAu 60).ask (.fn f)
theorem gdAu(f:Nat):GoodD (SemFn Tryz.prog f) (dAu f):=gAu f
end Go.Proofs.YtpncilciembjdaaGreatDoor
namespace Go.Proofs.YtpncilciembjdaaGreatDoor
open Go.RowKit

def vB:Value->Value->Bool
 |.int k n,.int k' n'=>decide (k=k')&&decide (n=n')
 |.bool b,.bool b'=>decide (b=b')
 |.string s,.string s'=>decide (s.data.toList=s'.data.toList)
 |_,_=>false
theorem vB_eq{a b:Value}(h:vB a b=true):a=b:=by
 unfold vB at h
 split at h
 .simp only[Bool.and_eq_true,decide_eq_true_eq]at h
  rw[h.1,h.2]
 .rename_i b b'
  have e:b=b':=of_decide_eq_true h
  rw[e]
 .rename_i s s'
  have:=of_decide_eq_true h
  obtain⟨⟨l⟩⟩:=s
  obtain⟨⟨l'⟩⟩:=s'
  have e:l=l':=this
  rw[e]
 .cases h
mutual
def avB:AV->AV->Bool
 |.v x,.v y=>vB x y
 |.ls xs,.ls ys=>avR xs ys
 |.agg xs,.agg ys=>avL xs ys
 |.tup xs,.tup ys=>avL xs ys
 |_,_=>false
def avL:List AV->List AV->Bool
 |[],[]=>true
 |x::xs,y::ys=>avB x y&&avL xs ys
 |_,_=>false
def avR:List (List AV)->List (List AV)->Bool
 |[],[]=>true
 |x::xs,y::ys=>avL x y&&avR xs ys
 |_,_=>false
end
mutual
theorem avB_eq:∀(a b:AV),avB a b=true->a=b
 |.v x,.v y,h=>by
  have e:x=y:=vB_eq (by simpa only[avB]using h)
  rw[e]
 |.ls xs,.ls ys,h=>by
  have e:=avR_eq xs ys (by simpa only[avB]using h)
  rw[e]
 |.agg xs,.agg ys,h=>by
  have e:=avL_eq xs ys (by simpa only[avB]using h)
  rw[e]
 |.tup xs,.tup ys,h=>by
  have e:=avL_eq xs ys (by simpa only[avB]using h)
  rw[e]
 |.v _,.ptr _ _,h | .v _,.sl _ _ _ _,h | .v _,.ls _,h | .v _,.lp _,h | .v _,.agg _,h | .v _,.tup _,h | .v _,.fn _ _ _,h | .v _,.any,h=>by simp[avB]at h
 |.ls _,.v _,h | .ls _,.ptr _ _,h | .ls _,.sl _ _ _ _,h | .ls _,.lp _,h | .ls _,.agg _,h | .ls _,.tup _,h | .ls _,.fn _ _ _,h | .ls _,.any,h=>by simp[avB]at h
 |.agg _,.v _,h | .agg _,.ptr _ _,h | .agg _,.sl _ _ _ _,h | .agg _,.ls _,h | .agg _,.lp _,h | .agg _,.tup _,h | .agg _,.fn _ _ _,h | .agg _,.any,h=>by simp[avB]at h
 |.tup _,.v _,h | .tup _,.ptr _ _,h | .tup _,.sl _ _ _ _,h | .tup _,.ls _,h | .tup _,.lp _,h | .tup _,.agg _,h | .tup _,.fn _ _ _,h | .tup _,.any,h=>by simp[avB]at h
 |.ptr _ _,b,h=>by cases b<;>simp[avB]at h
 |.sl _ _ _ _,b,h=>by cases b<;>simp[avB]at h
 |.lp _,b,h=>by cases b<;>simp[avB]at h
 |.fn _ _ _,b,h=>by cases b<;>simp[avB]at h
 |.any,b,h=>by cases b<;>simp[avB]at h
theorem avL_eq:∀(a b:List AV),avL a b=true->a=b
 |[],[],_=>rfl
 |x::xs,y::ys,h=>by
  simp only[avL,Bool.and_eq_true]at h
  rw[avB_eq x y h.1,avL_eq xs ys h.2]
 |[],_::_,h=>by simp[avL]at h
 |_::_,[],h=>by simp[avL]at h
theorem avR_eq:∀(a b:List (List AV)),avR a b=true->a=b
 |[],[],_=>rfl
 |x::xs,y::ys,h=>by
  simp only[avR,Bool.and_eq_true]at h
  rw[avL_eq x y h.1,avR_eq xs ys h.2]
 |[],_::_,h=>by simp[avR]at h
 |_::_,[],h=>by simp[avR]at h
end
def lookT:List (List AV × AV)->List AV->Option AV
 |[],_=>none
 |(a,r)::t,args=>match avL a args with
  |true=>some r
  |false=>lookT t args
theorem lookT_mem:∀{T:List (List AV × AV)} {args:List AV} {r:AV},lookT T args=some r->(args,r)∈T
 |[],_,_,h=>by cases h
 |(a,x)::t,args,r,h=>by
  unfold lookT at h
  split at h
  .rename_i e
   injection h with h
   rw[avL_eq a args e,h]
   exact List.mem_cons_self ..
  .exact List.mem_cons_of_mem _ (lookT_mem h)
theorem good_tab{S:SemT}{d:DF}(hd:GoodD S d)(T:List (List AV × AV))(h:∀ p∈T,d p.1 []=some (p.2,[])):GoodD S (extD (lookT T)):=by
 intro args bs r out he
 cases bs with
 |cons=>cases he
 |nil=>
  obtain⟨r',hr,e⟩:=Option.map_eq_some_iff.1 he
  obtain⟨rfl,rfl⟩:r'=r/\[]=out:=by simpa using e
  exact hd args [] r' [] (h _ (lookT_mem hr))
end Go.Proofs.YtpncilciembjdaaGreatDoor
namespace Go.Proofs.YtpncilciembjdaaGreatDoor
open Go.RowKit
abbrev w32(n:Int):List AV:=[.v (.int .u32 n)]
abbrev i0:List AV:=[bv false,.ls []]
abbrev i1:List AV:=[bv false,.ls [w32 1]]
abbrev i1m:List AV:=[bv true,.ls [w32 1]]
abbrev i2:List AV:=[bv false,.ls [w32 2]]
abbrev pX:List AV:=[iv 0,bv false,.ls [w32 1]]
abbrev pXm:List AV:=[iv 0,bv true,.ls [w32 1]]
abbrev pY:List AV:=[iv 1,bv false,.ls [w32 1]]
abbrev pYm:List AV:=[iv 1,bv true,.ls [w32 1]]
abbrev tm(ps:List (List AV))(k:List AV):List AV:=.ls ps::k
abbrev rL:List AV:=[.ls [pXm],bv false,.ls [w32 2],bv false]
abbrev rG:List AV:=[.ls [pX,pYm],bv false,.ls [],bv false]
abbrev rZ:List AV:=[.ls [pY],bv false,.ls [],bv true]
abbrev r3:List AV:=[.ls [pX],bv true,.ls [w32 3],bv false]
abbrev rY:List AV:=[.ls [pY],bv true,.ls [w32 1],bv false]
abbrev rYm:List AV:=[.ls [pYm],bv true,.ls [w32 1],bv false]
set_option maxRecDepth 1000000
def tTight:List (List AV × AV):=[([.agg rL],.tup [.agg rL,iv 0]),([.agg rG],.tup [.agg rG,iv 0]),([.agg rZ],.tup [.agg rZ,iv 0]),([.agg r3],.tup [.agg r3,iv 0]),([.agg rY],.tup [.agg rY,iv 0]),([.agg rYm],.tup [.agg rYm,iv 0])]
theorem kT1:dAu 17 [.agg rL] []=some (.tup [.agg rL,iv 0],[]):=by kernel_rfl
theorem kT2:dAu 17 [.agg rG] []=some (.tup [.agg rG,iv 0],[]):=by kernel_rfl
theorem kT3:dAu 17 [.agg rZ] []=some (.tup [.agg rZ,iv 0],[]):=by kernel_rfl
theorem kT4:dAu 17 [.agg r3] []=some (.tup [.agg r3,iv 0],[]):=by kernel_rfl
theorem kT5:dAu 17 [.agg rY] []=some (.tup [.agg rY,iv 0],[]):=by kernel_rfl
theorem kT6:dAu 17 [.agg rYm] []=some (.tup [.agg rYm,iv 0],[]):=by kernel_rfl
theorem gTight:GoodD (SemFn Tryz.prog 17) (extD (lookT tTight)):=good_tab (gdAu _) _ (by
 unfold tTight
 simp only[List.mem_cons,List.not_mem_nil,or_false]
 rintro p (rfl|rfl|rfl|rfl|rfl|rfl)
 .exact kT1
 .exact kT2
 .exact kT3
 .exact kT4
 .exact kT5
 .exact kT6)
def tDeny:List (List AV × AV):=[([.agg rL],.ls [r3]),([.agg rZ],.ls [rY,rYm])]
theorem kD1:dAu 23 [.agg rL] []=some (.ls [r3],[]):=by kernel_rfl
theorem kD2:dAu 23 [.agg rZ] []=some (.ls [rY,rYm],[]):=by kernel_rfl
theorem gDeny:GoodD (SemFn Tryz.prog 23) (extD (lookT tDeny)):=good_tab (gdAu _) _ (by
 unfold tDeny
 simp only[List.mem_cons,List.not_mem_nil,or_false]
 rintro p (rfl|rfl)
 .exact kD1
 .exact kD2)
def tNumber:List (List AV × AV):=[([.agg i2],.agg (tm [] i2)),([.agg i0],.agg (tm [] i0))]
theorem kN1:dqTz 125 [.agg i2] []=some (.agg (tm [] i2),[]):=by kernel_rfl
theorem kN2:dqTz 125 [.agg i0] []=some (.agg (tm [] i0),[]):=by kernel_rfl
theorem gNumberT:GoodD (SemFn Tryz.prog 125) (extD (lookT tNumber)):=good_tab (gTz _) _ (by
 unfold tNumber
 simp only[List.mem_cons,List.not_mem_nil,or_false]
 rintro p (rfl|rfl)
 .exact kN1
 .exact kN2)
def tSub:List (List AV × AV):=[([.agg (tm [pXm] i2),.agg (tm [] i2)],.agg (tm [pXm] i0)),([.agg (tm [pX,pYm] i0),.agg (tm [] i0)],.agg (tm [pX,pYm] i0)),([.agg (tm [] i2),.agg (tm [pX] i0)],.agg (tm [pXm] i2)),([.agg (tm [pY] i0),.agg (tm [] i0)],.agg (tm [pY] i0))]
theorem kS1:dqTz 127 [.agg (tm [pXm] i2),.agg (tm [] i2)] []=some (.agg (tm [pXm] i0),[]):=by kernel_rfl
theorem kS2:dqTz 127 [.agg (tm [pX,pYm] i0),.agg (tm [] i0)] []=some (.agg (tm [pX,pYm] i0),[]):=by kernel_rfl
theorem kS3:dqTz 127 [.agg (tm [] i2),.agg (tm [pX] i0)] []=some (.agg (tm [pXm] i2),[]):=by kernel_rfl
theorem kS4:dqTz 127 [.agg (tm [pY] i0),.agg (tm [] i0)] []=some (.agg (tm [pY] i0),[]):=by kernel_rfl
theorem gSubT:GoodD (SemFn Tryz.prog 127) (extD (lookT tSub)):=good_tab (gTz _) _ (by
 unfold tSub
 simp only[List.mem_cons,List.not_mem_nil,or_false]
 rintro p (rfl|rfl|rfl|rfl)
 .exact kS1
 .exact kS2
 .exact kS3
 .exact kS4)
def tSign:List (List AV × AV):=[([.agg i1m],iv (-1)),([.agg i1],iv 1)]
theorem kG1:dqTz 64 [.agg i1m] []=some (iv (-1),[]):=by kernel_rfl
theorem kG2:dqTz 64 [.agg i1] []=some (iv 1,[]):=by kernel_rfl
theorem gSignT:GoodD (SemFn Tryz.prog 64) (extD (lookT tSign)):=good_tab (gTz _) _ (by
 unfold tSign
 simp only[List.mem_cons,List.not_mem_nil,or_false]
 rintro p (rfl|rfl)
 .exact kG1
 .exact kG2)
def tSame:List (List AV × AV):=[([.agg (tm [pX] i0),.agg (tm [pX,pYm] i0)],bv false),([.agg (tm [pY] i0),.agg (tm [pX,pYm] i0)],bv false)]
theorem kE1:dqTz 213 [.agg (tm [pX] i0),.agg (tm [pX,pYm] i0)] []=some (bv false,[]):=by kernel_rfl
theorem kE2:dqTz 213 [.agg (tm [pY] i0),.agg (tm [pX,pYm] i0)] []=some (bv false,[]):=by kernel_rfl
theorem gSameT:GoodD (SemFn Tryz.prog 213) (extD (lookT tSame)):=good_tab (gTz _) _ (by
 unfold tSame
 simp only[List.mem_cons,List.not_mem_nil,or_false]
 rintro p (rfl|rfl)
 .exact kE1
 .exact kE2)
def tNeg:List (List AV × AV):=[([.agg i0],.agg i0)]
theorem kNe:dqTz 161 [.agg i0] []=some (.agg i0,[]):=by kernel_rfl
theorem gNegT:GoodD (SemFn Tryz.prog 161) (extD (lookT tNeg)):=good_tab (gTz _) _ (by
 unfold tNeg
 simp only[List.mem_cons,List.not_mem_nil,or_false]
 rintro p rfl
 exact kNe)
def tTNeg:List (List AV × AV):=[([.agg (tm [pXm] i0)],.agg (tm [pX] i0))]
theorem kTN:dqTz 68 [.agg (tm [pXm] i0)] []=some (.agg (tm [pX] i0),[]):=by kernel_rfl
theorem gTNegT:GoodD (SemFn Tryz.prog 68) (extD (lookT tTNeg)):=good_tab (gTz _) _ (by
 unfold tTNeg
 simp only[List.mem_cons,List.not_mem_nil,or_false]
 rintro p rfl
 exact kTN)
def tLeast:List (List AV × AV):=[([.agg (tm [pXm] i2)],.agg rL),([.agg (tm [pX,pYm] i0)],.agg rG)]
theorem kL1:dqTz 28 [.agg (tm [pXm] i2)] []=some (.agg rL,[]):=by kernel_rfl
theorem kL2:dqTz 28 [.agg (tm [pX,pYm] i0)] []=some (.agg rG,[]):=by kernel_rfl
theorem gLeastT:GoodD (SemFn Tryz.prog 28) (extD (lookT tLeast)):=good_tab (gTz _) _ (by
 unfold tLeast
 simp only[List.mem_cons,List.not_mem_nil,or_false]
 rintro p (rfl|rfl)
 .exact kL1
 .exact kL2)
def tZero:List (List AV × AV):=[([.agg (tm [pY] i0)],.agg rZ)]
theorem kZe:dqTz 27 [.agg (tm [pY] i0)] []=some (.agg rZ,[]):=by kernel_rfl
theorem gZeroT:GoodD (SemFn Tryz.prog 27) (extD (lookT tZero)):=good_tab (gTz _) _ (by
 unfold tZero
 simp only[List.mem_cons,List.not_mem_nil,or_false]
 rintro p rfl
 exact kZe)
def tZCmp:List (List AV × AV):=[([.agg i0,.agg i0],iv 0)]
theorem kZC:dqTz 155 [.agg i0,.agg i0] []=some (iv 0,[]):=by kernel_rfl
theorem gZCmpT:GoodD (SemFn Tryz.prog 155) (extD (lookT tZCmp)):=good_tab (gTz _) _ (by
 unfold tZCmp
 simp only[List.mem_cons,List.not_mem_nil,or_false]
 rintro p rfl
 exact kZC)
def tCmp:List (List AV × AV):=[([.agg rG,.agg rL],iv 1),([.agg rG,.agg rZ],iv (-1))]
theorem kC1:dAu 25 [.agg rG,.agg rL] []=some (iv 1,[]):=by kernel_rfl
theorem kC2:dAu 25 [.agg rG,.agg rZ] []=some (iv (-1),[]):=by kernel_rfl
theorem gCmpT:GoodD (SemFn Tryz.prog 25) (extD (lookT tCmp)):=good_tab (gdAu _) _ (by
 unfold tCmp
 simp only[List.mem_cons,List.not_mem_nil,or_false]
 rintro p (rfl|rfl)
 .exact kC1
 .exact kC2)
end Go.Proofs.YtpncilciembjdaaGreatDoor
namespace Go.Proofs.YtpncilciembjdaaGreatDoor
open Go.RowKit
def ownTy:List (Nat × Nat):=[(136,0),(196,0),(234,0),(235,0),(265,0),(275,0),(140,0),(199,0),(262,0),(264,0),(90,0),(163,0),(214,0)]
def hsTy160:Hints:=[]
noncomputable def mfTy160:MFn:=mfD Tryz.prog entsC hsTy160 false true 160
def hsTy162:Hints:=[]
noncomputable def mfTy162:MFn:=mfD Tryz.prog entsC hsTy162 false true 162
def hsTy89:Hints:=[]
noncomputable def mfTy89:MFn:=mfD Tryz.prog entsC hsTy89 false true 89
def hsTy90:Hints:=[]
noncomputable def mfTy90:MFn:=mfD Tryz.prog entsC hsTy90 false false 90
def hsTy164:Hints:=[]
noncomputable def mfTy164:MFn:=mfD Tryz.prog entsC hsTy164 false false 164
def hsTy222:Hints:=[]
noncomputable def mfTy222:MFn:=mfD Tryz.prog entsC hsTy222 false false 222
def hsTy223:Hints:=[]
noncomputable def mfTy223:MFn:=mfD Tryz.prog entsC hsTy223 false false 223
def hsTy163:Hints:=[⟨148,[true,true,true,true,true,false,false,false,false,false,true,true],[],[],[(0,([],([],[1000000])))]⟩]
noncomputable def mfTy163:MFn:=mfD Tryz.prog entsC hsTy163 false false 163
def hsTy214:Hints:=[⟨53,[true,true,true,true,false,false,false,false,true],[],[],[(1,([],([],[1000000])))]⟩,⟨53,[true,true,true,true,false,false,false,false,true,true],[],[],[(3,([true,true,true,true,false,false,false,false,true],([],[1000000])))]⟩]
noncomputable def mfTy214:MFn:=mfD Tryz.prog entsC hsTy214 false false 214
noncomputable def tabTy:List (Nat × MFn):=[(160,mfTy160),(162,mfTy162),(89,mfTy89),(90,mfTy90),(164,mfTy164),(222,mfTy222),(223,mfTy223),(163,mfTy163),(214,mfTy214)]
end Go.Proofs.YtpncilciembjdaaGreatDoor
