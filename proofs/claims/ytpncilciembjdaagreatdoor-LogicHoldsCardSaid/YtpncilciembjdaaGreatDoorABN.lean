/-
  Layer 5's alive: Tidy's two answers there.
  Functions of the program as trees: what a call comes to.
-/
import Derived.Test.YtpncilciembjdaaGreatDoorABM
import Derived.Test.YtpncilciembjdaaGreatDoorAAX
set_option linter.unusedSectionVars false
set_option linter.unusedSimpArgs false
set_option linter.unusedVariables false
namespace Go.Proofs.YtpncilciembjdaaGreatDoor
open Go.RowKit
theorem gTy(f:Nat):GoodD (SemFn Tryz.prog f) ((Dn realA seatTy 60).ask (.fn f)):=(dn_good (seatTy_ok gTight gNumberT gSubT gSignT gSameT gNegT gTNegT gLeastT gZeroT gZCmpT gCmpT) 60).1 f
noncomputable def dqTy(f:Nat):DF:=(Dn realA seatTy 60).ask (.fn f)
noncomputable def dTidy:DF:=extD (resTidy dqTy)
theorem tidyTy_good:GoodD (SemFn Tryz.prog 33) dTidy:=tidy_good dqTy gTy
def tTidy:List (List AV × AV):=[([.ls [rL,rG]],.tup [.ls [rL,rG],bv true]),([.ls [rZ,rG]],.tup [.ls [rG,rZ],bv true])]
set_option maxRecDepth 1000000
theorem kTi1:dTidy [.ls [rL,rG]] []=some (.tup [.ls [rL,rG],bv true],[]):=by kernel_rfl
theorem kTi2:dTidy [.ls [rZ,rG]] []=some (.tup [.ls [rG,rZ],bv true],[]):=by kernel_rfl
theorem gTidyT:GoodD (SemFn Tryz.prog 33) (extD (lookT tTidy)):=good_tab tidyTy_good _ (by
 unfold tTidy
 simp only[List.mem_cons,List.not_mem_nil,or_false]
 rintro p (rfl|rfl)
 .exact kTi1
 .exact kTi2)
end Go.Proofs.YtpncilciembjdaaGreatDoor
namespace Go.Proofs.YtpncilciembjdaaGreatDoor
open Go.RowKit
def ownBu:List (Nat × Nat):=[(136,0),(196,0),(234,0),(235,0),(265,0),(275,0),(140,0),(199,0),(262,0),(264,0),(261,0)]
def hsBu39:Hints:=[]
noncomputable def mfBu39:MFn:=mfD Tryz.prog entsC hsBu39 false false 39
def hsBu104:Hints:=[⟨69,[false,false,false,false,true,true,false,false,false,false,false,false,false,false,false,false,false,false,false,false,false,false,false,false,false,true,true,true],[],[],[(2,([false,false,false,false,true,true],([],[])))]⟩]
noncomputable def mfBu104:MFn:=mfD Tryz.prog entsC hsBu104 false false 104
def hsBu95:Hints:=[]
noncomputable def mfBu95:MFn:=mfD Tryz.prog entsC hsBu95 false false 95
def hsBu172:Hints:=[]
noncomputable def mfBu172:MFn:=mfD Tryz.prog entsC hsBu172 false false 172
def hsBu173:Hints:=[⟨68,[true,false,false,false,true,true,false,false,true,true,true],[],[],[(0,([false,false,false,false,true],([],[]))),(1,([true,false,false,false,true,true],([],[])))]⟩]
noncomputable def mfBu173:MFn:=mfD Tryz.prog entsC hsBu173 false false 173
def hsBu174:Hints:=[⟨22,[false,true,false,false,false,true,false,false,true,true,true],[],[],[(1,([false,false,false,false,false,true],([],[])))]⟩]
noncomputable def mfBu174:MFn:=mfD Tryz.prog entsC hsBu174 false false 174
def hsBu47:Hints:=[⟨41,[false,false,false,false,false,false,false,false,true,false,false,false,false,false,false,false,false,false,false,false,false,false,false,true,true,true],[],[],[(1,([false,false,false,false,false,false,false,false,true],([],[])))]⟩]
noncomputable def mfBu47:MFn:=mfD Tryz.prog entsC hsBu47 false false 47
def hsBu117:Hints:=[]
noncomputable def mfBu117:MFn:=mfD Tryz.prog entsC hsBu117 false false 117
def hsBu176:Hints:=[⟨39,[false,true,false,false,false,false,true,false,false,false,false,true,true,true],[],[],[(0,([false,false,false,false,true,true],([],[]))),(1,([false,false,false,false,false,false,true],([],[])))]⟩]
noncomputable def mfBu176:MFn:=mfD Tryz.prog entsC hsBu176 false false 176
def hsBu177:Hints:=[⟨69,[false,true,false,false,false,false,true,false,false,false,false,false,false,false,false,false,false,true,true,true],[],[],[(0,([false,false,false,false,true,true],([],[]))),(1,([false,false,false,false,false,false,true],([],[])))]⟩,⟨69,[false,true,false,false,false,false,false,false,false,true,false,true,false,false,false,false,false,true,true,true,false,false,false,false,false,false,false,false,false,false,false,false,false,false,false,false,false,false,false,false,false,false,false,false,false,true,true,true],[],[],[(3,([false,true,false,false,false,false,false,false,false,false,false,true,false,false,false,false,false,true,true,true],([],[])))]⟩,⟨69,[false,true,false,false,false,false,false,false,false,true,false,true,false,true,false,false,false,true,true,true,false,false,false,false,false,false,false,false,false,false,false,false,false,false,false,false,false,false,false,false,false,false,false,false,false,true,true,true,false,false,false,true,true,true],[],[],[(5,([false,true,false,false,false,false,false,false,false,true,false,true,false,false,false,false,false,true,true,true,false,false,false,false,false,false,false,false,false,false,false,false,false,false,false,false,false,false,false,false,false,false,false,false,false,true,true,true],([],[])))]⟩]
noncomputable def mfBu177:MFn:=mfD Tryz.prog entsC hsBu177 false false 177
def hsBu227:Hints:=[⟨36,[true,false,false,true,false,false,false,false,false,true,true,true],[],[],[(1,([true,false,false,true],([],[])))]⟩,⟨36,[false,false,false,false,false,false,true,false,false,false,false,false,false,false,false,false,false,false,false,false,false,false,false,false,false,true,true,true],[],[],[(3,([false,false,false,false,false,false,true],([],[])))]⟩]
noncomputable def mfBu227:MFn:=mfD Tryz.prog entsC hsBu227 false false 227
noncomputable def tabBu:List (Nat × MFn):=[(39,mfBu39),(104,mfBu104),(95,mfBu95),(172,mfBu172),(173,mfBu173),(174,mfBu174),(47,mfBu47),(117,mfBu117),(176,mfBu176),(177,mfBu177),(227,mfBu227)]
end Go.Proofs.YtpncilciembjdaaGreatDoor
