/-
  Layer 5's alive answers true.
  Functions of the program as trees: what a call comes to.
  Functions of the program as trees: what a call comes to.
  Functions of the program as trees: what a call comes to.
  Functions of the program as trees: what a call comes to.
  Functions of the program as trees: what a call comes to.
  Functions of the program as trees: what a call comes to.
  Functions of the program as trees: what a call comes to.
  Functions of the program as trees: what a call comes to.
  Functions of the program as trees: what a call comes to.
  A small table: the reference's kids.
  Functions of the program as trees: what a call comes to.
  Functions of the program as trees: what a call comes to.
  Functions of the program as trees: what a call comes to.
-/
import Derived.Test.YtpncilciembjdaaGreatDoorABQ
import Derived.Test.YtpncilciembjdaaGreatDoorAAX
set_option linter.unusedSectionVars false
set_option linter.unusedSimpArgs false
set_option linter.unusedVariables false
namespace Go.Proofs.YtpncilciembjdaaGreatDoor
open Go.RowKit
abbrev fLess:List AV:=[iv 2,.ls [pXm],bv false,.ls [w32 2],bv false,.ls []]
abbrev fZero:List AV:=[iv 2,.ls [pY],bv false,.ls [],bv true,.ls []]
abbrev fGe:List AV:=[iv 2,.ls [pX,pYm],bv false,.ls [],bv false,.ls []]
abbrev fK(k:Int)(l:List (List AV)):List AV:=[iv k,.ls [],bv false,.ls [],bv false,.ls l]
abbrev fAll:List AV:=fK 4 [fLess,fZero]
abbrev fAny:List AV:=fK 5 [fLess,fZero]
abbrev fBig:List AV:=fK 4 [fAny,fGe]
abbrev fNot:List AV:=fK 3 [fAll]
abbrev fF:List AV:=fK 5 [[iv 2,.ls [pX],bv true,.ls [w32 3],bv false,.ls []],[iv 2,.ls [pY],bv true,.ls [w32 1],bv false,.ls []],[iv 2,.ls [pYm],bv true,.ls [w32 1],bv false,.ls []]]
abbrev fPut:List AV:=[iv 2,.ls [pYm],bv false,.ls [w32 2],bv false,.ls []]
set_option maxRecDepth 1000000
theorem a1:dAu 91 [iv 0,.ls [[iv 1]]] []=some (.agg [.ls [pX],bv false,.ls []],[]):=by kernel_rfl
theorem a2:dAu 91 [iv 0,.ls [[iv 0],[iv 1]]] []=some (.agg [.ls [pY],bv false,.ls []],[]):=by kernel_rfl
theorem a3:dAu 91 [iv 3,.ls []] []=some (.agg [.ls [],bv false,.ls [w32 3]],[]):=by kernel_rfl
theorem a4:dAu 54 [iv 2,.agg [.ls [pX],bv false,.ls []],.agg [.ls [],bv false,.ls [w32 3]]] []=some (.agg fLess,[]):=by kernel_rfl
theorem a5:dAu 91 [iv 0,.ls []] []=some (.agg [.ls [],bv false,.ls []],[]):=by kernel_rfl
theorem a6:dAu 54 [iv 0,.agg [.ls [pY],bv false,.ls []],.agg [.ls [],bv false,.ls []]] []=some (.agg fZero,[]):=by kernel_rfl
theorem a7:dAu 92 [.ls [fLess,fZero]] []=some (.agg fAll,[]):=by kernel_rfl
theorem a8:dAu 49 [.agg fAll] []=some (.agg fNot,[]):=by kernel_rfl
theorem a9:dBu 39 [.agg fNot] []=some (.agg fF,[]):=by kernel_rfl
theorem a10:dAu 93 [.agg fF,.ls [[sv (bstr [120])],[sv (bstr [121])]]] []=some (sv (bstr [40,120,32,45,32,51,32,62,61,32,48,32,124,32,121,32,45,32,49,32,62,61,32,48,32,124,32,45,121,32,45,32,49,32,62,61,32,48,41]),[]):=by kernel_rfl
theorem a11:dAu 94 [.ls [fLess,fZero]] []=some (.agg fAny,[]):=by kernel_rfl
theorem a12:dAu 54 [iv 5,.agg [.ls [pX],bv false,.ls []],.agg [.ls [pY],bv false,.ls []]] []=some (.agg fGe,[]):=by kernel_rfl
theorem a13:dAu 92 [.ls [fAny,fGe]] []=some (.agg fBig,[]):=by kernel_rfl
theorem a14:dBu 47 [.agg fBig,iv 9] []=some (.tup [.ls [[.ls [rL,rG]],[.ls [rG,rZ]]],iv 0],[]):=by kernel_rfl
theorem a15:dBu 47 [.agg fAny,iv 1] []=some (.tup [.ls [],iv 3],[]):=by kernel_rfl
theorem a16:dAu 56 [iv 2] []=some (.agg [bv false,.ls [w32 2]],[]):=by kernel_rfl
theorem a17:dAu 36 [.agg fLess,.ls [[bv false,.ls [w32 2]]]] []=some (bv true,[]):=by kernel_rfl
theorem a18:dAu 95 [bv false] []=some (.agg (fK 1 []),[]):=by kernel_rfl
theorem a19:dAu 36 [.agg (fK 1 []),.ls []] []=some (bv false,[]):=by kernel_rfl
theorem a20:dAu 96 [.agg fF] []=some (iv 4,[]):=by kernel_rfl
theorem a21:dAu 97 [.agg fF] []=some (.ls [[iv 0],[iv 1]],[]):=by kernel_rfl
theorem a22:dAu 41 [.agg fF,.agg fF] []=some (bv true,[]):=by kernel_rfl
theorem a23:dAu 41 [.agg fF,.agg fLess] []=some (bv false,[]):=by kernel_rfl
theorem a24:dAu 43 [.agg fLess,.ls [[iv 0]],.ls [[.ls [pY],bv false,.ls []]]] []=some (.agg fPut,[]):=by kernel_rfl
theorem a25:dAu 45 [.agg fLess,iv 1] []=some (.agg fPut,[]):=by kernel_rfl
theorem a26:dAu 41 [.agg fPut,.agg fPut] []=some (bv true,[]):=by kernel_rfl
theorem a27:dAu 98 [.agg [.ls [pXm],bv false,.ls [w32 2],bv false]] []=some (.agg fLess,[]):=by kernel_rfl
theorem live_ok:DSv.ask (.fn 34) [] []=some (bv true,[]):=by
 refine kSvSv.fn' hn34 _ rfl ((e34 ..).trans ?_)
 refine(askK_of (xOf5Sv a1) _).trans ?_
 simp only[ND,DK,unFn_fn]
 refine(askK_of (xOf5Sv a2) _).trans ?_
 simp only[ND,DK,unFn_fn]
 refine(askK_of (xOf5Sv a3) _).trans ?_
 simp only[ND,DK,unFn_fn]
 refine(askK_of (xCompareSv a4) _).trans ?_
 simp only[ND,DK,unFn_fn]
 refine(askK_of (xOf5Sv a5) _).trans ?_
 simp only[ND,DK,unFn_fn]
 refine(askK_of (xCompareSv a6) _).trans ?_
 simp only[ND,DK,unFn_fn]
 refine(askK_of (xAllSv a7) _).trans ?_
 simp only[ND,DK,unFn_fn]
 refine(askK_of (xLDenySv a8) _).trans ?_
 simp only[ND,DK,unFn_fn]
 refine(askK_of (xFlatSv a9) _).trans ?_
 simp only[ND,DK,unFn_fn]
 refine(br_eqT rfl).trans ?_
 refine(br_eqT rfl).trans ?_
 refine(askK_of (xLTextSv a10) _).trans ?_
 simp only[ND,DK,unFn_fn]
 refine(br_seqT rfl).trans ?_
 refine(askK_of (xAnySv a11) _).trans ?_
 simp only[ND,DK,unFn_fn]
 refine(askK_of (xCompareSv a12) _).trans ?_
 simp only[ND,DK,unFn_fn]
 refine(askK_of (xAllSv a13) _).trans ?_
 simp only[ND,DK,unFn_fn]
 refine(askK_of (xCubesSv a14) _).trans ?_
 simp only[ND,DK,unFn_fn]
 refine(askK_of (xAnySv a11) _).trans ?_
 simp only[ND,DK,unFn_fn]
 refine(askK_of (xCubesSv a15) _).trans ?_
 simp only[ND,DK,unFn_fn]
 refine(askK_of (xROfSv a16) _).trans ?_
 simp only[ND,DK,unFn_fn]
 refine(br_eqT rfl).trans ?_
 refine(br_eqT rfl).trans ?_
 refine(br_eqT rfl).trans ?_
 refine(askK_of (xLHoldsSv a17) _).trans ?_
 simp only[ND,DK,unFn_fn]
 refine(askK_of (xTruthSv a18) _).trans ?_
 simp only[ND,DK,unFn_fn]
 refine(askK_of (xLHoldsSv a19) _).trans ?_
 simp only[ND,DK,unFn_fn]
 refine(askK_of (xSizeSv a20) _).trans ?_
 simp only[ND,DK,unFn_fn]
 refine(br_eqT rfl).trans ?_
 refine(askK_of (xLVarsSv a21) _).trans ?_
 simp only[ND,DK,unFn_fn]
 refine(br_eqT rfl).trans ?_
 refine(askK_of (xLSameSv a22) _).trans ?_
 simp only[ND,DK,unFn_fn]
 refine(askK_of (xLSameSv a23) _).trans ?_
 simp only[ND,DK,unFn_fn]
 refine(askK_of (xLPutAllSv a24) _).trans ?_
 simp only[ND,DK,unFn_fn]
 refine(askK_of (xLMoveSv a25) _).trans ?_
 simp only[ND,DK,unFn_fn]
 refine(askK_of (xLSameSv a26) _).trans ?_
 simp only[ND,DK,unFn_fn]
 refine(askK_of (xLOfSv a27) _).trans ?_
 simp only[ND,DK,unFn_fn]
 refine(br_eqT rfl).trans ?_
 rfl
theorem gLive:GoodD (SemFn Tryz.prog 34) ((Dstar realA seatSv).ask (.fn 34)):=
 star_good (seatSv_ok (gdAu _) (gdAu _) (gdAu _) (gdAu _) (gdBu _) (gdAu _) (gdAu _) (gdBu _) (gdAu _) (gdAu _) (gdAu _) (gdAu _) (gdAu _) (gdAu _) (gdAu _) (gdAu _) (gdAu _)) _
end Go.Proofs.YtpncilciembjdaaGreatDoor
namespace Go.Proofs.YtpncilciembjdaaGreatDoor
open Go.RowKit
def hs200:Hints:=[⟨21,[true,false,false,true],[],[],[(1,([true,false,false,true],([],[])))]⟩]
noncomputable def mf200:MFn:=mfD Tryz.prog entsC hs200 false false 200
def hn200:Hnt:=⟨[],[(0,[(1,([.ls,.int .i64],[]))])],[(12,[.int .u32]),(13,[.int .u32])]⟩
def hs202:Hints:=[]
noncomputable def mf202:MFn:=mfD Tryz.prog entsC hs202 false false 202
def hn202:Hnt:=⟨[(200,(.ls,[])),(236,(.sl 0 1,[.row true]))],[],[]⟩
def hs184:Hints:=[]
noncomputable def mf184:MFn:=mfD Tryz.prog entsC hs184 false false 184
def hn184:Hnt:=⟨[(202,(.ls,[]))],[],[]⟩
def hs201:Hints:=[⟨49,[true,true,false,false,false,true],[],[],[(0,([false,false,false,false,true],([],[]))),(2,([],([],[])))]⟩]
noncomputable def mf201:MFn:=mfD Tryz.prog entsC hs201 false false 201
def hn201:Hnt:=⟨[(200,(.ls,[]))],[(0,[(0,([.int .i64],[])),(2,([],[]))])],[(32,[.int .u32]),(33,[.int .u32]),(36,[.int .u32]),(37,[.int .u32]),(42,[.int .u32]),(43,[.int .u32]),(46,[.int .u32]),(47,[.int .u32])]⟩
def hs197:Hints:=[⟨61,[false,true,false,false,false,true,true,false,false,false,false,false,false,false,false,false,false,false,false,false,false,false,false,false,false,true,true,true],[(5,1)],[],[(1,([false,false,false,false,false,true,true],([],[])))]⟩]
noncomputable def mf197:MFn:=mfD Tryz.prog entsC hs197 false false 197
def hn197:Hnt:=⟨[(200,(.ls,[])),(202,(.ls,[]))],[(0,[(1,([.sl 1 1,.int .u64],[.del,.row true]))])],[(30,[.int .u32]),(31,[.int .u32]),(43,[.int .u32]),(44,[.int .u32])]⟩
def hs198:Hints:=[⟨59,[false,true,false,false,false,false,true,true,false,false,false,false,false,false,false,false,false,false,false,false,false,false,false,true,true,true],[(6,1)],[],[(1,([false,false,false,false,false,false,true],([],[])))]⟩]
noncomputable def mf198:MFn:=mfD Tryz.prog entsC hs198 false false 198
def hn198:Hnt:=⟨[(200,(.ls,[])),(201,(.int .i64,[])),(202,(.ls,[]))],[(0,[(1,([.sl 1 1],[.del,.row true]))])],[(28,[.int .u32]),(29,[.int .u32]),(38,[.int .u32]),(39,[.int .u32])]⟩
def hs243:Hints:=[⟨68,[false,true,false,false,false,true,false,false,false,false,false,false,false,false,false,false,false,false,true,true,true],[],[],[(1,([false,false,false,false,false,true],([],[])))]⟩,⟨68,[false,true,false,false,false,true,true,true,true,false,false,false,false,false,false,false,false,false,true,true,true,false,false,false,false,true,true,true],[],[],[(3,([false,true,false,false,false,true,true,false,true,false,false,false,false,false,false,false,false,false,true,true,true],([],[])))]⟩]
noncomputable def mf243:MFn:=mfD Tryz.prog entsC hs243 false false 243
def hn243:Hnt:=⟨[(202,(.ls,[]))],[(0,[(1,([.sl 1 1],[.del,.row true]))]),(1,[(3,([.ls,.sl 1 1,.int .i64,.int .u64,.ls,.int .i64,.int .i64],[.del,.row true]))])],[(23,[.int .u32]),(24,[.int .u32]),(30,[.int .u32]),(31,[.int .u32]),(41,[.int .u32]),(42,[.int .u32]),(53,[.int .u32]),(64,[.int .u32])]⟩
def hs212:Hints:=[]
noncomputable def mf212:MFn:=mfD Tryz.prog entsC hs212 false false 212
def hn212:Hnt:=⟨[(200,(.ls,[])),(243,(.ls,[])),(244,(.ls,[]))],[],[]⟩
noncomputable def tabNa:List (Nat × MFn):=[(200,mf200),(202,mf202),(184,mf184),(201,mf201),(197,mf197),(198,mf198),(243,mf243),(212,mf212)]
variable (A:Ar) (D:Orc)
theorem e200(x0:Rw):fnK A D ownC hn200 .n 200 mf200 [AV.ls x0] [] =
 askD D (Key.lp 200 0) [AV.ls x0,iv ↑(lenR x0)] [] [.t,.C,.x,.X,.Y] fun c l o=>
 br (axIs 1 c)
 (dk [.L,.I,.N,.E] [.l l,.o o] fun xs n=>
 unI n fun i=>
 br (inB 0 i (lenR xs)) (br (wideR 1 xs) (some ((AV.ls (dropR (takeR xs i) 0),[]))) none) none)
 (none):=by kernel_rfl

theorem e200_0(t0:Rw)(t3:Int):lpK A D ownC hn200 .n 200 0 (lpAt mf200 0).fst (lpAt mf200 0).snd [AV.ls t0,iv t3] [] =
 br (A.lt 0 t3)
 (unI (A.sub IntKind.i64 t3 1) fun i=>
 nthK t0 i fun cs=>
 dk [.J .u32,.N] [.l cs] fun n=>
 br (A.eq n 0)
 (askK D (Key.lp 200 0) [AV.ls t0,iv (A.sub IntKind.i64 t3 1)] [] fun r o=>
 tailK 0 [] (AH.mk [] 0 none) [] r o)
 (some ((AV.tup [iv 0,AV.ls t0,iv t3],[]))))
 (some ((AV.tup [iv 0,AV.ls t0,iv t3],[]))):=by kernel_rfl

theorem e202(x0:Rw):fnK A D ownC hn202 .n 202 mf202 [AV.ls x0] [] =
 askD D (Key.fn 200) [AV.ls x0] [] [.l,.E] fun xs=>
 askD D (Key.fn 236) [AV.ls xs] [] [.q 0 1,.R,.X,.E] fun n cs=>
 br ((0+n*1).ble cs.length) (some ((AV.ls (chunk n 1 (List.take (n*1) cs)),[]))) none:=by kernel_rfl

theorem e184(x0:Int):fnK A D ownC hn184 .n 184 mf184 [AV.v (Value.int IntKind.u64 x0)] [] =
 br (A.lt 32 0)
 (none)
 (askD D (Key.fn 202) [AV.ls [[AV.v (Value.int IntKind.u32 (A.conv IntKind.u32 x0))],[AV.v (Value.int IntKind.u32 (A.conv IntKind.u32 (A.shr IntKind.u64 x0 32)))]]] [] [.l,.E] fun xs=>
 some ((AV.ls xs,[]))):=by kernel_rfl

theorem e201(x0 x1:Rw):fnK A D ownC hn201 .n 201 mf201 [AV.ls x0,AV.ls x1] [] =
 askD D (Key.fn 200) [AV.ls x0] [] [.l,.E] fun xs=>
 askD D (Key.fn 200) [AV.ls x1] [] [.l,.E] fun xs1=>
 br (A.lt ↑(lenR xs) ↑(lenR xs1))
 (some ((iv (-1),[])))
 (br (A.lt ↑(lenR xs1) ↑(lenR xs))
 (some ((iv 1,[])))
 (askD D (Key.lp 201 0) [AV.ls xs,AV.ls xs1,iv (A.sub IntKind.i64 (↑(lenR xs)) 1)] [] [.t,.C,.x,.X,.Y] fun c l o2=>
 br (axIs 0 c)
 (dk [.I,.N,.E] [.l l,.o o2] fun n=>
 some ((iv n,[])))
 (br (axIs 2 c)
 (unNil l<|
 unEnd o2<|
 some ((iv 0,[])))
 (none)))):=by kernel_rfl

theorem e201_0(t0 t1:Rw)(t5:Int):lpK A D ownC hn201 .n 201 0 (lpAt mf201 0).fst (lpAt mf201 0).snd [AV.ls t0,AV.ls t1,iv t5] [] =
 br (A.le 0 t5)
 (unI t5 fun i=>
 nthK t0 i fun cs=>
 dk [.J .u32,.N] [.l cs] fun n=>
 unI t5 fun i1=>
 nthK t1 i1 fun cs1=>
 dk [.J .u32,.N] [.l cs1] fun n1=>
 br (A.lt n n1)
 (some ((AV.tup [bv true,iv (-1)],[])))
 (unI t5 fun i2=>
 nthK t0 i2 fun cs2=>
 dk [.J .u32,.N] [.l cs2] fun n2=>
 unI t5 fun i3=>
 nthK t1 i3 fun cs3=>
 dk [.J .u32,.N] [.l cs3] fun n3=>
 br (A.lt n3 n2)
 (some ((AV.tup [bv true,iv 1],[])))
 (askK D (Key.lp 201 0) [AV.ls t0,AV.ls t1,iv (A.sub IntKind.i64 t5 1)] [] fun r o=>
 tailK 0 [] (AH.mk [] 0 none) [] r o)))
 (some ((AV.tup [iv 1],[]))):=by kernel_rfl

theorem e197(x0 x1:Rw):fnK A D ownC hn197 .n 197 mf197 [AV.ls x0,AV.ls x1] [] =
 askD D (Key.fn 200) [AV.ls x0] [] [.l,.E] fun xs=>
 askD D (Key.fn 200) [AV.ls x1] [] [.l,.E] fun xs1=>
 br (A.lt ↑(lenR xs) ↑(lenR xs1))
 (unI (A.add IntKind.i64 (↑(lenR xs1)) 1) fun i=>
 br (fitsB i 4) (askK D (Key.lp 197 0) [AV.ls xs,AV.sl 0 0 0 1,AV.v (Value.int IntKind.u64 0),AV.ls xs1,iv ↑(lenR xs1),iv 0] [ABlk.mk [] true true] fun r2 o2=>
 dk [.t,.C,.x,.X] [.v r2] fun c l=>
 br (axIs 1 c)
 (dk [.C,.q 1 1,.J .u64,.N,.D,.R,.X,.E] [.l l,.o o2] fun n n1 cs1=>
 br (fitsB (n+1) 4) (br ((0+n*1).ble cs1.length) (br ((0+(n+1)*1).ble (List.drop 0 (List.take (0+n*1) cs1)++[AV.v (Value.int IntKind.u32 (A.conv IntKind.u32 n1))]).length) (askK D (Key.fn 202) [AV.ls (chunk (n+1) 1 (List.take ((n+1)*1) (List.drop 0 (List.drop 0 (List.take (0+n*1) cs1)++[AV.v (Value.int IntKind.u32 (A.conv IntKind.u32 n1))]))))] [] fun r3 o3=>
 dk [.l,.E] [.v r3,.o o3] fun xs2=>
 some ((AV.ls xs2,[]))) none) none) none)
 (none)) none)
 (unI (A.add IntKind.i64 (↑(lenR xs)) 1) fun i=>
 br (fitsB i 4) (askK D (Key.lp 197 0) [AV.ls xs1,AV.sl 0 0 0 1,AV.v (Value.int IntKind.u64 0),AV.ls xs,iv ↑(lenR xs),iv 0] [ABlk.mk [] true true] fun r2 o2=>
 dk [.t,.C,.x,.X] [.v r2] fun c l=>
 br (axIs 1 c)
 (dk [.C,.q 1 1,.J .u64,.N,.D,.R,.X,.E] [.l l,.o o2] fun n n1 cs1=>
 br (fitsB (n+1) 4) (br ((0+n*1).ble cs1.length) (br ((0+(n+1)*1).ble (List.drop 0 (List.take (0+n*1) cs1)++[AV.v (Value.int IntKind.u32 (A.conv IntKind.u32 n1))]).length) (askK D (Key.fn 202) [AV.ls (chunk (n+1) 1 (List.take ((n+1)*1) (List.drop 0 (List.drop 0 (List.take (0+n*1) cs1)++[AV.v (Value.int IntKind.u32 (A.conv IntKind.u32 n1))]))))] [] fun r3 o3=>
 dk [.l,.E] [.v r3,.o o3] fun xs2=>
 some ((AV.ls xs2,[]))) none) none) none)
 (none)) none):=by kernel_rfl

theorem e197_0(t1:Rw)(n5:Nat)(c5:List AV)(t6:Int)(t25:Rw)(t26 t27:Int):lpK A D ownC hn197 .n 197 0 (lpAt mf197 0).fst (lpAt mf197 0).snd [AV.ls t1,AV.sl 0 0 n5 1,AV.v (Value.int IntKind.u64 t6),AV.ls t25,iv t26,iv t27] [{ cells:=c5,st:=true,ex:=true }] =
 br (A.lt t27 t26)
 (unI t27 fun i=>
 nthK t25 i fun cs=>
 dk [.J .u32,.N] [.l cs] fun n=>
 br (A.lt t27 ↑(lenR t1))
 (unI t27 fun i1=>
 nthK t1 i1 fun cs1=>
 dk [.J .u32,.N] [.l cs1] fun n1=>
 br (fitsB (n5+1) 4) (br ((0+n5*1).ble c5.length) (br (A.lt 32 0)
 (none)
 (askK D (Key.lp 197 0) [AV.ls t1,AV.sl 0 0 (n5+1) 1,AV.v (Value.int IntKind.u64 (A.shr IntKind.u64 (A.add IntKind.u64 (A.add IntKind.u64 (A.conv IntKind.u64 n) t6) (A.conv IntKind.u64 n1)) 32)),AV.ls t25,iv t26,iv (A.add IntKind.i64 t27 1)] [ABlk.mk (List.drop 0 (List.take (0+n5*1) c5)++[AV.v (Value.int IntKind.u32 (A.conv IntKind.u32 (A.add IntKind.u64 (A.add IntKind.u64 (A.conv IntKind.u64 n) t6) (A.conv IntKind.u64 n1))))]) true true] fun r o=>
 tailK 1 [2] (AH.mk [(2,ABlk.mk (List.drop 0 (List.take (0+n5*1) c5)++[AV.v (Value.int IntKind.u32 (A.conv IntKind.u32 (A.add IntKind.u64 (A.add IntKind.u64 (A.conv IntKind.u64 n) t6) (A.conv IntKind.u64 n1))))]) true true),(1,ABlk.mk [AV.v (Value.int IntKind.u32 (A.conv IntKind.u32 (A.add IntKind.u64 (A.add IntKind.u64 (A.conv IntKind.u64 n) t6) (A.conv IntKind.u64 n1))))] true true)] 3 none) [0] r o)) none) none)
 (br (fitsB (n5+1) 4) (br ((0+n5*1).ble c5.length) (br (A.lt 32 0)
 (none)
 (askK D (Key.lp 197 0) [AV.ls t1,AV.sl 0 0 (n5+1) 1,AV.v (Value.int IntKind.u64 (A.shr IntKind.u64 (A.add IntKind.u64 (A.conv IntKind.u64 n) t6) 32)),AV.ls t25,iv t26,iv (A.add IntKind.i64 t27 1)] [ABlk.mk (List.drop 0 (List.take (0+n5*1) c5)++[AV.v (Value.int IntKind.u32 (A.conv IntKind.u32 (A.add IntKind.u64 (A.conv IntKind.u64 n) t6)))]) true true] fun r o=>
 tailK 1 [2] (AH.mk [(2,ABlk.mk (List.drop 0 (List.take (0+n5*1) c5)++[AV.v (Value.int IntKind.u32 (A.conv IntKind.u32 (A.add IntKind.u64 (A.conv IntKind.u64 n) t6)))]) true true),(1,ABlk.mk [AV.v (Value.int IntKind.u32 (A.conv IntKind.u32 (A.add IntKind.u64 (A.conv IntKind.u64 n) t6)))] true true)] 3 none) [0] r o)) none) none))
 (some ((AV.tup [iv 0,AV.sl 1 0 n5 1,AV.v (Value.int IntKind.u64 t6)],[BO.del,BO.set (ABlk.mk c5 true true)]))):=by kernel_rfl

theorem e198(x0 x1:Rw):fnK A D ownC hn198 .n 198 mf198 [AV.ls x0,AV.ls x1] [] =
 askD D (Key.fn 200) [AV.ls x0] [] [.l,.E] fun xs=>
 askD D (Key.fn 200) [AV.ls x1] [] [.l,.E] fun xs1=>
 askD D (Key.fn 201) [AV.ls xs,AV.ls xs1] [] [.i,.E] fun n=>
 br (A.lt n 0)
 (some ((AV.tup [AV.ls [],bv false],[])))
 (br (fitsB (lenR xs) 4) (askK D (Key.lp 198 0) [AV.ls xs1,AV.sl 0 0 0 1,AV.v (Value.int IntKind.u64 0),AV.ls xs,iv ↑(lenR xs),iv 0] [ABlk.mk [] true true] fun r3 o3=>
 dk [.t,.C,.x,.X] [.v r3] fun c l=>
 br (axIs 1 c)
 (dk [.C,.q 1 1,.N,.D,.R,.X,.E] [.l l,.o o3] fun n1 cs1=>
 br ((0+n1*1).ble cs1.length) (askK D (Key.fn 202) [AV.ls (chunk n1 1 (List.take (n1*1) cs1))] [] fun r4 o4=>
 unLs r4 fun xs2=>
 unEnd o4<|
 some ((AV.tup [AV.ls xs2,bv true],[]))) none)
 (none)) none):=by kernel_rfl

theorem e198_0(t1:Rw)(n6:Nat)(c6:List AV)(t7:Int)(t23:Rw)(t24 t25:Int):lpK A D ownC hn198 .n 198 0 (lpAt mf198 0).fst (lpAt mf198 0).snd [AV.ls t1,AV.sl 0 0 n6 1,AV.v (Value.int IntKind.u64 t7),AV.ls t23,iv t24,iv t25] [{ cells:=c6,st:=true,ex:=true }] =
 br (A.lt t25 t24)
 (unI t25 fun i=>
 nthK t23 i fun cs=>
 dk [.J .u32,.N] [.l cs] fun n=>
 br (A.lt t25 ↑(lenR t1))
 (unI t25 fun i1=>
 nthK t1 i1 fun cs1=>
 dk [.J .u32,.N] [.l cs1] fun n1=>
 br (A.lt (A.conv IntKind.u64 n) (A.add IntKind.u64 t7 (A.conv IntKind.u64 n1)))
 (br (fitsB (n6+1) 4) (br ((0+n6*1).ble c6.length) (askK D (Key.lp 198 0) [AV.ls t1,AV.sl 0 0 (n6+1) 1,AV.v (Value.int IntKind.u64 1),AV.ls t23,iv t24,iv (A.add IntKind.i64 t25 1)] [ABlk.mk (List.drop 0 (List.take (0+n6*1) c6)++[AV.v (Value.int IntKind.u32 (A.conv IntKind.u32 (A.sub IntKind.u64 (A.add IntKind.u64 (A.conv IntKind.u64 n) 4294967296) (A.add IntKind.u64 t7 (A.conv IntKind.u64 n1)))))]) true true] fun r o=>
 tailK 1 [2] (AH.mk [(2,ABlk.mk (List.drop 0 (List.take (0+n6*1) c6)++[AV.v (Value.int IntKind.u32 (A.conv IntKind.u32 (A.sub IntKind.u64 (A.add IntKind.u64 (A.conv IntKind.u64 n) 4294967296) (A.add IntKind.u64 t7 (A.conv IntKind.u64 n1)))))]) true true),(1,ABlk.mk [AV.v (Value.int IntKind.u32 (A.conv IntKind.u32 (A.sub IntKind.u64 (A.add IntKind.u64 (A.conv IntKind.u64 n) 4294967296) (A.add IntKind.u64 t7 (A.conv IntKind.u64 n1)))))] true true)] 3 none) [0] r o) none) none)
 (br (fitsB (n6+1) 4) (br ((0+n6*1).ble c6.length) (askK D (Key.lp 198 0) [AV.ls t1,AV.sl 0 0 (n6+1) 1,AV.v (Value.int IntKind.u64 0),AV.ls t23,iv t24,iv (A.add IntKind.i64 t25 1)] [ABlk.mk (List.drop 0 (List.take (0+n6*1) c6)++[AV.v (Value.int IntKind.u32 (A.conv IntKind.u32 (A.sub IntKind.u64 (A.conv IntKind.u64 n) (A.add IntKind.u64 t7 (A.conv IntKind.u64 n1)))))]) true true] fun r o=>
 tailK 1 [2] (AH.mk [(2,ABlk.mk (List.drop 0 (List.take (0+n6*1) c6)++[AV.v (Value.int IntKind.u32 (A.conv IntKind.u32 (A.sub IntKind.u64 (A.conv IntKind.u64 n) (A.add IntKind.u64 t7 (A.conv IntKind.u64 n1)))))]) true true),(1,ABlk.mk [AV.v (Value.int IntKind.u32 (A.conv IntKind.u32 (A.sub IntKind.u64 (A.conv IntKind.u64 n) (A.add IntKind.u64 t7 (A.conv IntKind.u64 n1)))))] true true)] 3 none) [0] r o) none) none))
 (br (A.lt (A.conv IntKind.u64 n) t7)
 (br (fitsB (n6+1) 4) (br ((0+n6*1).ble c6.length) (askK D (Key.lp 198 0) [AV.ls t1,AV.sl 0 0 (n6+1) 1,AV.v (Value.int IntKind.u64 1),AV.ls t23,iv t24,iv (A.add IntKind.i64 t25 1)] [ABlk.mk (List.drop 0 (List.take (0+n6*1) c6)++[AV.v (Value.int IntKind.u32 (A.conv IntKind.u32 (A.sub IntKind.u64 (A.add IntKind.u64 (A.conv IntKind.u64 n) 4294967296) t7)))]) true true] fun r o=>
 tailK 1 [2] (AH.mk [(2,ABlk.mk (List.drop 0 (List.take (0+n6*1) c6)++[AV.v (Value.int IntKind.u32 (A.conv IntKind.u32 (A.sub IntKind.u64 (A.add IntKind.u64 (A.conv IntKind.u64 n) 4294967296) t7)))]) true true),(1,ABlk.mk [AV.v (Value.int IntKind.u32 (A.conv IntKind.u32 (A.sub IntKind.u64 (A.add IntKind.u64 (A.conv IntKind.u64 n) 4294967296) t7)))] true true)] 3 none) [0] r o) none) none)
 (br (fitsB (n6+1) 4) (br ((0+n6*1).ble c6.length) (askK D (Key.lp 198 0) [AV.ls t1,AV.sl 0 0 (n6+1) 1,AV.v (Value.int IntKind.u64 0),AV.ls t23,iv t24,iv (A.add IntKind.i64 t25 1)] [ABlk.mk (List.drop 0 (List.take (0+n6*1) c6)++[AV.v (Value.int IntKind.u32 (A.conv IntKind.u32 (A.sub IntKind.u64 (A.conv IntKind.u64 n) t7)))]) true true] fun r o=>
 tailK 1 [2] (AH.mk [(2,ABlk.mk (List.drop 0 (List.take (0+n6*1) c6)++[AV.v (Value.int IntKind.u32 (A.conv IntKind.u32 (A.sub IntKind.u64 (A.conv IntKind.u64 n) t7)))]) true true),(1,ABlk.mk [AV.v (Value.int IntKind.u32 (A.conv IntKind.u32 (A.sub IntKind.u64 (A.conv IntKind.u64 n) t7)))] true true)] 3 none) [0] r o) none) none)))
 (some ((AV.tup [iv 0,AV.sl 1 0 n6 1],[BO.del,BO.set (ABlk.mk c6 true true)]))):=by kernel_rfl

theorem e243(x0 x1:Rw):fnK A D ownC hn243 .n 243 mf243 [AV.ls x0,AV.ls x1] [] =
 unI (A.add IntKind.i64 ↑(lenR x0) ↑(lenR x1)) fun i=>
 unI (A.add IntKind.i64 ↑(lenR x0) ↑(lenR x1)) fun i1=>
 br (i.ble i1) (br (fitsB i1 4) (askK D (Key.lp 243 0) [AV.ls x1,AV.sl 0 0 i 1,AV.ls x0,iv ↑(lenR x0),iv 0] [ABlk.mk (zeros [AV.v (Value.int IntKind.u32 0)] (i*1)) true true] fun r o=>
 dk [.t,.C,.x,.X] [.v r] fun c l=>
 br (axIs 1 c)
 (dk [.C,.q 1 1,.N,.D,.R,.X,.E] [.l l,.o o] fun n cs1=>
 br ((0+n*1).ble cs1.length) (askK D (Key.fn 202) [AV.ls (chunk n 1 (List.take (n*1) cs1))] [] fun r1 o1=>
 unLs r1 fun xs=>
 unEnd o1<|
 some ((AV.ls xs,[]))) none)
 (none)) none) none:=by kernel_rfl

theorem e243_0(t1:Rw)(n5:Nat)(c5:List AV)(t18:Rw)(t19 t20:Int):lpK A D ownC hn243 .n 243 0 (lpAt mf243 0).fst (lpAt mf243 0).snd [AV.ls t1,AV.sl 0 0 n5 1,AV.ls t18,iv t19,iv t20] [{ cells:=c5,st:=true,ex:=true }] =
 br (A.lt t20 t19)
 (unI t20 fun i=>
 nthK t18 i fun cs=>
 dk [.J .u32,.N] [.l cs] fun n=>
 askD D (Key.lp 243 1) [AV.ls t1,AV.sl 0 0 n5 1,iv t20,AV.v (Value.int IntKind.u32 n),AV.v (Value.int IntKind.u64 0),AV.ls t18,iv t19,iv t20,AV.ls t1,iv ↑(lenR t1),iv 0] [ABlk.mk c5 true true] [.t,.C,.x,.X,.Y] fun c l1 o=>
 br (axIs 3 c)
 (dk [.L,.C,.q 1 1,.I,.J .u64,.L,.I,.I,.N,.D,.R,.X,.E] [.l l1,.o o] fun xs n1 n2 n3 xs1 n4 n6 cs2=>
 unI (A.add IntKind.i64 n2 ↑(lenR xs)) fun i1=>
 br (i1.blt n1) (br ((0+i1*1+1).ble cs2.length) (askK D (Key.lp 243 0) [AV.ls xs,AV.sl 0 0 n1 1,AV.ls xs1,iv n4,iv (A.add IntKind.i64 n6 1)] [ABlk.mk (splice cs2 (0+i1*1) [AV.v (Value.int IntKind.u32 (A.conv IntKind.u32 n3))]) true true] fun r1 o1=>
 tailK 1 [1] (AH.mk [(1,ABlk.mk (splice cs2 (0+i1*1) [AV.v (Value.int IntKind.u32 (A.conv IntKind.u32 n3))]) true true)] 2 none) [0] r1 o1) none) none)
 (none))
 (some ((AV.tup [iv 0,AV.sl 1 0 n5 1],[BO.del,BO.set (ABlk.mk c5 true true)]))):=by kernel_rfl

theorem e243_1(t1:Rw)(n5:Nat)(c5:List AV)(t6 t7 t8:Int)(t18:Rw)(t19 t20:Int)(t25:Rw)(t26 t27:Int):lpK A D ownC hn243 .n 243 1 (lpAt mf243 1).fst (lpAt mf243 1).snd [AV.ls t1,AV.sl 0 0 n5 1,iv t6,AV.v (Value.int IntKind.u32 t7),AV.v (Value.int IntKind.u64 t8),AV.ls t18,iv t19,iv t20,AV.ls t25,iv t26,iv t27] [{ cells:=c5,st:=true,ex:=true }] =
 br (A.lt t27 t26)
 (unI t27 fun i=>
 nthK t25 i fun cs=>
 dk [.J .u32,.N] [.l cs] fun n=>
 unI (A.add IntKind.i64 t6 t27) fun i1=>
 br (i1.blt n5) (rdK c5 (0+i1*1) 1 fun cs1=>
 dk [.J .u32,.N] [.l cs1] fun n1=>
 unI (A.add IntKind.i64 t6 t27) fun i2=>
 br (i2.blt n5) (br ((0+i2*1+1).ble c5.length) (br (A.lt 32 0)
 (none)
 (askK D (Key.lp 243 1) [AV.ls t1,AV.sl 0 0 n5 1,iv t6,AV.v (Value.int IntKind.u32 t7),AV.v (Value.int IntKind.u64 (A.shr IntKind.u64 (A.add IntKind.u64 (A.add IntKind.u64 (A.mul IntKind.u64 (A.conv IntKind.u64 t7) (A.conv IntKind.u64 n)) (A.conv IntKind.u64 n1)) t8) 32)),AV.ls t18,iv t19,iv t20,AV.ls t25,iv t26,iv (A.add IntKind.i64 t27 1)] [ABlk.mk (splice c5 (0+i2*1) [AV.v (Value.int IntKind.u32 (A.conv IntKind.u32 (A.add IntKind.u64 (A.add IntKind.u64 (A.mul IntKind.u64 (A.conv IntKind.u64 t7) (A.conv IntKind.u64 n)) (A.conv IntKind.u64 n1)) t8)))]) true true] fun r o=>
 tailK 1 [0] (AH.mk [(0,ABlk.mk (splice c5 (0+i2*1) [AV.v (Value.int IntKind.u32 (A.conv IntKind.u32 (A.add IntKind.u64 (A.add IntKind.u64 (A.mul IntKind.u64 (A.conv IntKind.u64 t7) (A.conv IntKind.u64 n)) (A.conv IntKind.u64 n1)) t8)))]) true true)] 1 none) [0] r o)) none) none) none)
 (some ((AV.tup [iv 2,AV.ls t1,AV.sl 1 0 n5 1,iv t6,AV.v (Value.int IntKind.u64 t8),AV.ls t18,iv t19,iv t20],[BO.del,BO.set (ABlk.mk c5 true true)]))):=by kernel_rfl

theorem e212(x0 x1:Rw):fnK A D ownC hn212 .n 212 mf212 [AV.ls x0,AV.ls x1] [] =
 askD D (Key.fn 200) [AV.ls x0] [] [.l,.E] fun xs=>
 askD D (Key.fn 200) [AV.ls x1] [] [.l,.E] fun xs1=>
 br (A.lt (↑(lenR xs)) 24)
 (askD D (Key.fn 243) [AV.ls xs,AV.ls xs1] [] [.l,.E] fun xs2=>
 some ((AV.ls xs2,[])))
 (br (A.lt (↑(lenR xs1)) 24)
 (askD D (Key.fn 243) [AV.ls xs,AV.ls xs1] [] [.l,.E] fun xs2=>
 some ((AV.ls xs2,[])))
 (askD D (Key.fn 244) [AV.ls xs,AV.ls xs1] [] [.l,.E] fun xs2=>
 some ((AV.ls xs2,[])))):=by kernel_rfl
end Go.Proofs.YtpncilciembjdaaGreatDoor
namespace Go.Proofs.YtpncilciembjdaaGreatDoor
open Go.RowKit
def hs145:Hints:=[]
noncomputable def mf145:MFn:=mfD Tryz.prog entsC hs145 false false 145
def hn145:Hnt:=⟨[(202,(.ls,[]))],[],[]⟩
def hs142:Hints:=[]
noncomputable def mf142:MFn:=mfD Tryz.prog entsC hs142 false false 142
def hn142:Hnt:=⟨[(145,(.agg [.bool,.ls],[]))],[],[(4,[.bool]),(6,[.ls])]⟩
def hs126:Hints:=[]
noncomputable def mf126:MFn:=mfD Tryz.prog entsC hs126 false false 126
def hn126:Hnt:=⟨[(145,(.agg [.bool,.ls],[])),(184,(.ls,[]))],[],[]⟩
def hs161:Hints:=[]
noncomputable def mf161:MFn:=mfD Tryz.prog entsC hs161 false false 161
def hn161:Hnt:=⟨[(145,(.agg [.bool,.ls],[]))],[],[(4,[.bool]),(7,[.ls])]⟩
def hs64:Hints:=[]
noncomputable def mf64:MFn:=mfD Tryz.prog entsC hs64 false false 64
def hn64:Hnt:=⟨[(142,(.agg [.bool,.ls],[]))],[],[(3,[.bool,.ls]),(7,[.bool]),(10,[.ls])]⟩
def hs155:Hints:=[]
noncomputable def mf155:MFn:=mfD Tryz.prog entsC hs155 false false 155
def hn155:Hnt:=⟨[(64,(.int .i64,[])),(201,(.int .i64,[]))],[],[(7,[.bool,.ls]),(9,[.bool,.ls]),(23,[.ls]),(25,[.ls]),(28,[.ls]),(30,[.ls])]⟩
def hs139:Hints:=[]
noncomputable def mf139:MFn:=mfD Tryz.prog entsC hs139 false false 139
def hn139:Hnt:=⟨[(145,(.agg [.bool,.ls],[])),(197,(.ls,[])),(198,(.tup [.ls,.bool],[]))],[],[(10,[.bool]),(12,[.bool]),(15,[.bool]),(17,[.ls]),(19,[.ls]),(24,[.ls]),(26,[.ls]),(32,[.bool]),(37,[.ls]),(39,[.ls]),(44,[.bool])]⟩
def hs158:Hints:=[]
noncomputable def mf158:MFn:=mfD Tryz.prog entsC hs158 false false 158
def hn158:Hnt:=⟨[(145,(.agg [.bool,.ls],[])),(212,(.ls,[]))],[],[(6,[.bool]),(8,[.bool]),(11,[.ls]),(13,[.ls])]⟩
noncomputable def tabZi:List (Nat × MFn):=[(145,mf145),(142,mf142),(126,mf126),(161,mf161),(64,mf64),(155,mf155),(139,mf139),(158,mf158)]
variable (A:Ar) (D:Orc)
theorem e145(x0:Bool)(x1:Rw):fnK A D ownC hn145 (.b (.t (.t (.b (.t .n) (.t .n)))) (.f (.f (.f .n)))) 145 mf145 [bv x0,AV.ls x1] [] =
 askD D (Key.fn 202) [AV.ls x1] [] [.l,.E] fun xs=>
 br x0
 (br x0 (br x0 (br (A.lt 0 ↑(lenR xs))
 (br x0 (some ((AV.agg [bv true,AV.ls xs],[]))) none)
 (br x0 (some ((AV.agg [bv false,AV.ls xs],[]))) none)) none) none)
 (br x0 none (br x0 none (br x0 none (some ((AV.agg [bv false,AV.ls xs],[])))))):=by kernel_rfl

theorem e142(x0_0:Bool)(x0_1:Rw):fnK A D ownC hn142 .n 142 mf142 [AV.agg [bv x0_0,AV.ls x0_1]] [] =
 askD D (Key.fn 145) [bv x0_0,AV.ls x0_1] [] [.a,.B,.L,.N,.E] fun b xs=>
 some ((AV.agg [bv b,AV.ls xs],[])):=by kernel_rfl

theorem e126(x0:Int):fnK A D ownC hn126 .n 126 mf126 [iv x0] [] =
 br (A.lt x0 0)
 (askD D (Key.fn 184) [AV.v (Value.int IntKind.u64 (A.add IntKind.u64 (A.conv IntKind.u64 (A.sub IntKind.i64 0 (A.add IntKind.i64 x0 1))) 1))] [] [.l,.E] fun xs=>
 askD D (Key.fn 145) [bv true,AV.ls xs] [] [.a,.B,.L,.N,.E] fun b xs1=>
 some ((AV.agg [bv b,AV.ls xs1],[])))
 (askD D (Key.fn 184) [AV.v (Value.int IntKind.u64 (A.conv IntKind.u64 x0))] [] [.l,.E] fun xs=>
 askD D (Key.fn 145) [bv false,AV.ls xs] [] [.a,.B,.L,.N,.E] fun b xs1=>
 some ((AV.agg [bv b,AV.ls xs1],[]))):=by kernel_rfl

theorem e161(x0_0:Bool)(x0_1:Rw):fnK A D ownC hn161 .n 161 mf161 [AV.agg [bv x0_0,AV.ls x0_1]] [] =
 br (A.not x0_0)
 (askD D (Key.fn 145) [bv true,AV.ls x0_1] [] [.a,.B,.L,.N,.E] fun b xs=>
 some ((AV.agg [bv b,AV.ls xs],[])))
 (askD D (Key.fn 145) [bv false,AV.ls x0_1] [] [.a,.B,.L,.N,.E] fun b xs=>
 some ((AV.agg [bv b,AV.ls xs],[]))):=by kernel_rfl

theorem e64(x0_0:Bool)(x0_1:Rw):fnK A D ownC hn64 .n 64 mf64 [AV.agg [bv x0_0,AV.ls x0_1]] [] =
 askD D (Key.fn 142) [AV.agg [bv x0_0,AV.ls x0_1]] [] [.a,.B,.L,.N,.E] fun b xs=>
 br b
 (some ((iv (-1),[])))
 (br (A.lt 0 ↑(lenR xs))
 (some ((iv 1,[])))
 (some ((iv 0,[])))):=by kernel_rfl

theorem e155(x0_0:Bool)(x0_1:Rw)(x1_0:Bool)(x1_1:Rw):fnK A D ownC hn155 .n 155 mf155 [AV.agg [bv x0_0,AV.ls x0_1],AV.agg [bv x1_0,AV.ls x1_1]] [] =
 askD D (Key.fn 64) [AV.agg [bv x0_0,AV.ls x0_1]] [] [.i,.E] fun n=>
 askD D (Key.fn 64) [AV.agg [bv x1_0,AV.ls x1_1]] [] [.i,.E] fun n1=>
 br (A.lt n n1)
 (some ((iv (-1),[])))
 (br (A.lt n1 n)
 (some ((iv 1,[])))
 (br (A.lt n 0)
 (askD D (Key.fn 201) [AV.ls x1_1,AV.ls x0_1] [] [.i,.E] fun n2=>
 some ((iv n2,[])))
 (askD D (Key.fn 201) [AV.ls x0_1,AV.ls x1_1] [] [.i,.E] fun n2=>
 some ((iv n2,[]))))):=by kernel_rfl

theorem e139(x0_0:Bool)(x0_1:Rw)(x1_0:Bool)(x1_1:Rw):fnK A D ownC hn139 .n 139 mf139 [AV.agg [bv x0_0,AV.ls x0_1],AV.agg [bv x1_0,AV.ls x1_1]] [] =
 br (A.beq x0_0 x1_0)
 (askD D (Key.fn 197) [AV.ls x0_1,AV.ls x1_1] [] [.l,.E] fun xs=>
 askD D (Key.fn 145) [bv x0_0,AV.ls xs] [] [.a,.B,.L,.N,.E] fun b xs1=>
 some ((AV.agg [bv b,AV.ls xs1],[])))
 (askD D (Key.fn 198) [AV.ls x0_1,AV.ls x1_1] [] [.t,.L,.B,.N,.E] fun xs b=>
 br b
 (askD D (Key.fn 145) [bv x0_0,AV.ls xs] [] [.a,.B,.L,.N,.E] fun b1 xs1=>
 some ((AV.agg [bv b1,AV.ls xs1],[])))
 (askD D (Key.fn 198) [AV.ls x1_1,AV.ls x0_1] [] [.t,.L,.B,.N,.E] fun xs1 _=>
 askD D (Key.fn 145) [bv x1_0,AV.ls xs1] [] [.a,.B,.L,.N,.E] fun b2 xs2=>
 some ((AV.agg [bv b2,AV.ls xs2],[])))):=by kernel_rfl

theorem e158(x0_0:Bool)(x0_1:Rw)(x1_0:Bool)(x1_1:Rw):fnK A D ownC hn158 .n 158 mf158 [AV.agg [bv x0_0,AV.ls x0_1],AV.agg [bv x1_0,AV.ls x1_1]] [] =
 br (A.not (A.beq x0_0 x1_0))
 (askD D (Key.fn 212) [AV.ls x0_1,AV.ls x1_1] [] [.l,.E] fun xs=>
 askD D (Key.fn 145) [bv true,AV.ls xs] [] [.a,.B,.L,.N,.E] fun b xs1=>
 some ((AV.agg [bv b,AV.ls xs1],[])))
 (askD D (Key.fn 212) [AV.ls x0_1,AV.ls x1_1] [] [.l,.E] fun xs=>
 askD D (Key.fn 145) [bv false,AV.ls xs] [] [.a,.B,.L,.N,.E] fun b xs1=>
 some ((AV.agg [bv b,AV.ls xs1],[]))):=by kernel_rfl
end Go.Proofs.YtpncilciembjdaaGreatDoor
namespace Go.Proofs.YtpncilciembjdaaGreatDoor
open Go.RowKit
def hs138:Hints:=[]
noncomputable def mf138:MFn:=mfD Tryz.prog entsC hs138 false false 138
def hn138:Hnt:=⟨[(145,(.agg [.bool,.ls],[]))],[],[(4,[.bool]),(6,[.ls])]⟩
def hs62:Hints:=[⟨74,[false,false,true,false,true,false,false,false,false,false,false,false,false,false,false,false,false,true,true,true],[(1000004,3)],[2,17],[(1,([false,false,true,false,true],([],[])))]⟩]
noncomputable def mf62:MFn:=mfD Tryz.prog entsC hs62 false false 62
noncomputable def tabTe:List (Nat × MFn):=[(138,mf138),(62,mf62)]
variable (A:Ar) (D:Orc)
theorem e138(x0_0:Bool)(x0_1:Rw):fnK A D ownC hn138 .n 138 mf138 [AV.agg [bv x0_0,AV.ls x0_1]] [] =
 askD D (Key.fn 145) [bv x0_0,AV.ls x0_1] [] [.a,.B,.L,.N,.E] fun b xs=>
 some ((AV.agg [bv b,AV.ls xs],[])):=by kernel_rfl

end Go.Proofs.YtpncilciembjdaaGreatDoor
namespace Go.Proofs.YtpncilciembjdaaGreatDoor
open Go.RowKit
def hs86:Hints:=[⟨40,[false,true,false,false,true,true,false,false,false,false,false,false,true,true,true],[],[4,5],[(1,([false,false,false,false,true,true],([],[])))]⟩]
noncomputable def mf86:MFn:=mfD Tryz.prog entsC hs86 false false 86
def hn86:Hnt:=⟨[(138,(.agg [.bool,.ls],[])),(139,(.agg [.bool,.ls],[])),(158,(.agg [.bool,.ls],[]))],[(0,[(1,([.ptr 0 0,.ptr 1 0],[.box [.bool,.ls],.box [.bool,.ls]]))])],[(9,[.bool,.ls]),(12,[.ls]),(16,[.int .i64,.bool,.ls]),(17,[.int .i64,.bool,.ls]),(19,[.int .i64]),(23,[.int .i64]),(28,[.bool,.ls]),(30,[.bool,.ls]),(33,[.int .i64]),(34,[.bool,.ls]),(35,[.bool,.ls]),(39,[.bool,.ls])]⟩
def hs30:Hints:=[]
noncomputable def mf30:MFn:=mfD Tryz.prog entsC hs30 false false 30
def hn30:Hnt:=⟨[(64,(.int .i64,[])),(86,(.agg [.bool,.ls],[]))],[],[(7,[.ls,.bool,.ls]),(15,[.bool])]⟩
noncomputable def tabHv:List (Nat × MFn):=[(86,mf86),(30,mf30)]
variable (A:Ar) (D:Orc)
theorem e86(x0_0:Rw)(x0_1:Bool)(x0_2 x1:Rw):fnK A D ownC hn86 .n 86 mf86 [AV.agg [AV.ls x0_0,bv x0_1,AV.ls x0_2],AV.ls x1] [] =
 askD D (Key.fn 138) [AV.agg [bv x0_1,AV.ls x0_2]] [] [.a,.B,.L,.N,.E] fun b xs=>
 askD D (Key.lp 86 0) [AV.ls x1,AV.ptr 0 0,AV.ptr 1 0,AV.ls x0_0,iv ↑(lenR x0_0),iv 0] [bk [bv false,AV.ls []],bk [bv b,AV.ls xs]] [.t,.C,.x,.X,.Y] fun c l2 o1=>
 br (axIs 1 c)
 (dk [.P 0 0,.P 1 0,.N,.T,.B,.L,.N,.T,.B,.L,.N,.E] [.l l2,.o o1] fun _ _ b2 xs2=>
 some ((AV.agg [bv b2,AV.ls xs2],[])))
 (none):=by kernel_rfl

theorem e86_0(t1:Rw)(b4_0:Bool)(b4_1:Rw)(b5_0:Bool)(b5_1 t12:Rw)(t13 t14:Int):lpK A D ownC hn86 .n 86 0 (lpAt mf86 0).fst (lpAt mf86 0).snd [AV.ls t1,AV.ptr 0 0,AV.ptr 1 0,AV.ls t12,iv t13,iv t14] [bk [bv b4_0,AV.ls b4_1],bk [bv b5_0,AV.ls b5_1]] =
 br (A.lt t14 t13)
 (unI t14 fun i=>
 nthK t12 i fun cs=>
 dk [.I,.B,.L,.N] [.l cs] fun n b xs=>
 br (A.le 0 n)
 (br (A.lt n ↑(lenR t1))
 (unI n fun i1=>
 nthK t1 i1 fun cs1=>
 dk [.B,.L,.N] [.l cs1] fun b1 xs1=>
 askD D (Key.fn 158) [AV.agg [bv b,AV.ls xs],AV.agg [bv b1,AV.ls xs1]] [] [.a,.B,.L,.N,.E] fun b2 xs2=>
 askD D (Key.fn 139) [AV.agg [bv b5_0,AV.ls b5_1],AV.agg [bv b2,AV.ls xs2]] [] [.a,.B,.L,.N,.E] fun b3 xs3=>
 askK D (Key.lp 86 0) [AV.ls t1,AV.ptr 0 0,AV.ptr 1 0,AV.ls t12,iv t13,iv (A.add IntKind.i64 t14 1)] [bk [bv b4_0,AV.ls b4_1],bk [bv b3,AV.ls xs3]] fun r2 o2=>
 tailK 2 [0,1] (AH.mk [(1,bk [bv b3,AV.ls xs3]),(0,bk [bv b4_0,AV.ls b4_1]),(2,bk [iv n,bv b,AV.ls xs])] 3 none) [0,1] r2 o2)
 (askK D (Key.lp 86 0) [AV.ls t1,AV.ptr 0 0,AV.ptr 1 0,AV.ls t12,iv t13,iv (A.add IntKind.i64 t14 1)] [bk [bv b4_0,AV.ls b4_1],bk [bv b5_0,AV.ls b5_1]] fun r o=>
 tailK 2 [0,1] (AH.mk [(1,bk [bv b5_0,AV.ls b5_1]),(0,bk [bv b4_0,AV.ls b4_1]),(2,bk [iv n,bv b,AV.ls xs])] 3 none) [0,1] r o))
 (askK D (Key.lp 86 0) [AV.ls t1,AV.ptr 0 0,AV.ptr 1 0,AV.ls t12,iv t13,iv (A.add IntKind.i64 t14 1)] [bk [bv b4_0,AV.ls b4_1],bk [bv b5_0,AV.ls b5_1]] fun r o=>
 tailK 2 [0,1] (AH.mk [(1,bk [bv b5_0,AV.ls b5_1]),(0,bk [bv b4_0,AV.ls b4_1]),(2,bk [iv n,bv b,AV.ls xs])] 3 none) [0,1] r o))
 (some ((AV.tup [iv 0,AV.ptr 0 0,AV.ptr 1 0],[BO.set (bk [bv b4_0,AV.ls b4_1]),BO.set (bk [bv b5_0,AV.ls b5_1])]))):=by kernel_rfl

theorem e30(x0_0:Rw)(x0_1:Bool)(x0_2:Rw)(x0_3:Bool)(x1:Rw):fnK A D ownC hn30 .n 30 mf30 [AV.agg [AV.ls x0_0,bv x0_1,AV.ls x0_2,bv x0_3],AV.ls x1] [] =
 askD D (Key.fn 86) [AV.agg [AV.ls x0_0,bv x0_1,AV.ls x0_2],AV.ls x1] [] [.a,.B,.L,.N,.E] fun b xs=>
 askD D (Key.fn 64) [AV.agg [bv b,AV.ls xs]] [] [.i,.E] fun n=>
 br (A.eq n 0)
 (some ((bv true,[])))
 (br (A.not x0_3)
 (br (A.lt 0 n)
 (some ((bv true,[])))
 (some ((bv false,[]))))
 (some ((bv false,[])))):=by kernel_rfl
end Go.Proofs.YtpncilciembjdaaGreatDoor
namespace Go.Proofs.YtpncilciembjdaaGreatDoor
open Go.RowKit
def hs16:Hints:=[⟨64,[true,false,true,false,false,false,false,true],[],[],[(0,([false,false,false,false,false,false,true],([],[]))),(1,([],([],[])))]⟩,⟨64,[true,false,true,false,false,false,false,true,true],[],[],[(0,([false,false,false,false,false,false,true],([],[]))),(3,([true,false,true,false,false,false,false,true],([],[])))]⟩]
noncomputable def mf16:MFn:=mfD Tryz.prog entsC hs16 false false 16
def hn16:Hnt:=⟨[],[(0,[(0,([.bool],[])),(1,([],[]))]),(1,[(0,([.bool],[])),(3,([.ls,.int .i64,.int .i64],[]))])],[(21,[.ls,.bool,.ls,.bool]),(24,[.ls]),(30,[.ls,.bool,.ls,.bool]),(34,[.ls]),(42,[.ls,.bool,.ls,.bool]),(45,[.ls]),(52,[.ls,.bool,.ls,.bool]),(55,[.ls]),(57,[.int .i64,.bool,.ls]),(60,[.ls])]⟩
noncomputable def tabFw:List (Nat × MFn):=[(16,mf16)]
variable (A:Ar) (D:Orc)
theorem e16(x0:Rw)(x1 x2:Int):fnK A D ownC hn16 .n 16 mf16 [AV.ls x0,iv x1,iv x2] [] =
 br (A.lt x1 ↑(lenR x0))
 (some ((bv false,[])))
 (askD D (Key.lp 16 0) [AV.ls x0,iv x2,iv 0] [] [.t,.C,.x,.X,.Y] fun c l o=>
 br (axIs 0 c)
 (dk [.B,.N,.E] [.l l,.o o] fun b=>
 some ((bv b,[])))
 (br (axIs 1 c)
 (unNil l<|
 unEnd o<|
 some ((bv true,[])))
 (none))):=by kernel_rfl

theorem e16_0(t0:Rw)(t2 t7:Int):lpK A D ownC hn16 .n 16 0 (lpAt mf16 0).fst (lpAt mf16 0).snd [AV.ls t0,iv t2,iv t7] [] =
 br (A.lt t7 ↑(lenR t0))
 (unI t7 fun i=>
 nthK t0 i fun cs=>
 dk [.L,.B,.L,.B,.N] [.l cs] fun xs _ _ _=>
 br (A.lt 20 ↑(lenR xs))
 (some ((AV.tup [bv true,bv false],[])))
 (unI t7 fun i1=>
 nthK t0 i1 fun cs1=>
 dk [.L,.B,.L,.B,.N] [.l cs1] fun _ _ xs3 _=>
 br (A.lt t2 ↑(lenR xs3))
 (some ((AV.tup [bv true,bv false],[])))
 (askD D (Key.lp 16 1) [AV.ls t0,iv t2,iv t7,iv 0] [] [.t,.C,.x,.X,.Y] fun c l8 o=>
 br (axIs 0 c)
 (dk [.B,.N,.E] [.l l8,.o o] fun b4=>
 some ((AV.tup [bv true,bv b4],[])))
 (br (axIs 3 c)
 (dk [.L,.I,.I,.N,.E] [.l l8,.o o] fun xs4 n n1=>
 askK D (Key.lp 16 0) [AV.ls xs4,iv n,iv (A.add IntKind.i64 n1 1)] [] fun r1 o1=>
 tailK 0 [] (AH.mk [] 0 none) [] r1 o1)
 (none)))))
 (some ((AV.tup [iv 0],[]))):=by kernel_rfl

theorem e16_1(t0:Rw)(t2 t7 t8:Int):lpK A D ownC hn16 .n 16 1 (lpAt mf16 1).fst (lpAt mf16 1).snd [AV.ls t0,iv t2,iv t7,iv t8] [] =
 unI t7 fun i=>
 nthK t0 i fun cs=>
 dk [.L,.B,.L,.B,.N] [.l cs] fun xs _ _ _=>
 br (A.lt t8 ↑(lenR xs))
 (unI t7 fun i1=>
 nthK t0 i1 fun cs1=>
 dk [.L,.B,.L,.B,.N] [.l cs1] fun xs2 _ _ _=>
 unI t8 fun i2=>
 nthK xs2 i2 fun cs2=>
 dk [.I,.B,.L,.N] [.l cs2] fun _ _ xs4=>
 br (A.lt t2 ↑(lenR xs4))
 (some ((AV.tup [bv true,bv false],[])))
 (askK D (Key.lp 16 1) [AV.ls t0,iv t2,iv t7,iv (A.add IntKind.i64 t8 1)] [] fun r o=>
 tailK 0 [] (AH.mk [] 0 none) [] r o))
 (some ((AV.tup [iv 2,AV.ls t0,iv t2,iv t7],[]))):=by kernel_rfl
end Go.Proofs.YtpncilciembjdaaGreatDoor
namespace Go.Proofs.YtpncilciembjdaaGreatDoor
open Go.RowKit
def hs149:Hints:=[⟨37,[true,false,false,true,true],[(3,1)],[],[(1,([false,false,false,true],([],[])))]⟩,⟨37,[false,false,false,true],[(3,1)],[],[(3,([false,false,false,true],([],[])))]⟩]
noncomputable def mf149:MFn:=mfD Tryz.prog entsC hs149 false false 149
def hn149:Hnt:=⟨[],[(0,[(1,([.sl 1 1],[.del,.row true]))]),(1,[(3,([.sl 1 1],[.del,.row true]))])],[(15,[.int .u32]),(16,[.int .u32]),(27,[.int .u32]),(28,[.int .u32])]⟩
def hs186:Hints:=[]
noncomputable def mf186:MFn:=mfD Tryz.prog entsC hs186 false false 186
def hn186:Hnt:=⟨[],[],[]⟩
def hs187:Hints:=[]
noncomputable def mf187:MFn:=mfD Tryz.prog entsC hs187 false false 187
def hn187:Hnt:=⟨[],[],[(15,[.int .u32]),(16,[.int .u32])]⟩
def hs228:Hints:=[⟨28,[true,true,false,false,false,true],[],[],[(0,([false,false,false,false,true],([],[]))),(1,([],([],[])))]⟩]
noncomputable def mf228:MFn:=mfD Tryz.prog entsC hs228 false false 228
def hn228:Hnt:=⟨[(186,(.int .i64,[])),(187,(.int .u64,[]))],[(0,[(0,([.int .i64],[])),(1,([],[]))])],[]⟩
def hs129:Hints:=[⟨36,[true,true,false,false,false,true,true,true],[(5,1)],[],[(1,([false,false,false,false,false,true],([],[])))]⟩]
noncomputable def mf129:MFn:=mfD Tryz.prog entsC hs129 false false 129
def hn129:Hnt:=⟨[(149,(.ls,[])),(186,(.int .i64,[])),(187,(.int .u64,[]))],[(0,[(1,([.sl 1 1],[.del,.row true]))])],[]⟩
def hs182:Hints:=[⟨43,[true,true,false,false,false,false,true,true,true],[(6,1)],[],[(1,([false,false,false,false,false,false,true],([],[])))]⟩]
noncomputable def mf182:MFn:=mfD Tryz.prog entsC hs182 false false 182
def hn182:Hnt:=⟨[(149,(.ls,[])),(186,(.int .i64,[])),(187,(.int .u64,[])),(228,(.int .i64,[]))],[(0,[(1,([.sl 1 1],[.del,.row true]))])],[]⟩
def hs229:Hints:=[⟨37,[true,true,false,false,false,true,true,true],[(5,1)],[],[(1,([false,false,false,false,false,true,true],([],[])))]⟩]
noncomputable def mf229:MFn:=mfD Tryz.prog entsC hs229 false false 229
def hn229:Hnt:=⟨[(149,(.ls,[])),(187,(.int .u64,[]))],[(0,[(1,([.sl 1 1,.int .u64],[.del,.row true]))])],[]⟩
def hs183:Hints:=[⟨42,[true,true,false,false,false,true,true],[],[5],[(1,([false,false,false,false,false,true],([],[])))]⟩,⟨42,[true,true,false,false,false,true,true,true,true],[(7,1)],[],[(3,([true,true,false,false,false,false,true,true],([],[])))]⟩]
noncomputable def mf183:MFn:=mfD Tryz.prog entsC hs183 false false 183
def hn183:Hnt:=⟨[(129,(.ls,[])),(149,(.ls,[])),(229,(.ls,[]))],[(0,[(1,([.ls],[]))]),(1,[(3,([.ls,.ls,.int .i64,.sl 1 1],[.del,.row true]))])],[(27,[.int .u32]),(28,[.int .u32]),(35,[.int .u32]),(36,[.int .u32])]⟩
def hs210:Hints:=[⟨26,[true,true,false,false,false,true],[],[],[(0,([false,false,false,false,true],([],[]))),(1,([],([],[])))]⟩]
noncomputable def mf210:MFn:=mfD Tryz.prog entsC hs210 false false 210
def hn210:Hnt:=⟨[],[(0,[(0,([.bool],[])),(1,([],[]))])],[(19,[.int .u32]),(20,[.int .u32]),(23,[.int .u32]),(24,[.int .u32])]⟩
noncomputable def tabRn:List (Nat × MFn):=[(149,mf149),(186,mf186),(187,mf187),(228,mf228),(129,mf129),(182,mf182),(229,mf229),(183,mf183),(210,mf210)]
variable (A:Ar) (D:Orc)
theorem e149(x0:Rw):fnK A D ownC hn149 .n 149 mf149 [AV.ls x0] [] =
 askD D (Key.lp 149 0) [AV.ls x0,AV.sl 0 0 0 1,iv 0] [ABlk.mk [] true true] [.t,.C,.x,.X,.Y] fun c l o=>
 br (axIs 1 c)
 (dk [.C,.q 1 1,.N,.D,.R,.X,.E] [.l l,.o o] fun n cs1=>
 askD D (Key.lp 149 1) [AV.sl 0 0 n 1] [ABlk.mk cs1 true true] [.t,.C,.x,.X,.Y] fun c4 l4 o1=>
 br (axIs 3 c4)
 (dk [.C,.q 1 1,.N,.D,.R,.X,.E] [.l l4,.o o1] fun n1 cs3=>
 br ((0+n1*1).ble cs3.length) (some ((AV.ls (chunk n1 1 (List.take (n1*1) cs3)),[]))) none)
 (none))
 (none):=by kernel_rfl

theorem e149_0(t0:Rw)(n3:Nat)(c3:List AV)(t4:Int):lpK A D ownC hn149 .n 149 0 (lpAt mf149 0).fst (lpAt mf149 0).snd [AV.ls t0,AV.sl 0 0 n3 1,iv t4] [{ cells:=c3,st:=true,ex:=true }] =
 br (A.lt t4 ↑(lenR t0))
 (unI t4 fun i=>
 nthK t0 i fun cs=>
 dk [.J .u32,.N] [.l cs] fun n=>
 br (fitsB (n3+1) 4) (br ((0+n3*1).ble c3.length) (askK D (Key.lp 149 0) [AV.ls t0,AV.sl 0 0 (n3+1) 1,iv (A.add IntKind.i64 t4 1)] [ABlk.mk (List.drop 0 (List.take (0+n3*1) c3)++[AV.v (Value.int IntKind.u32 n)]) true true] fun r o=>
 tailK 1 [2] (AH.mk [(2,ABlk.mk (List.drop 0 (List.take (0+n3*1) c3)++[AV.v (Value.int IntKind.u32 n)]) true true),(1,ABlk.mk [AV.v (Value.int IntKind.u32 n)] true true)] 3 none) [0] r o) none) none)
 (some ((AV.tup [iv 0,AV.sl 1 0 n3 1],[BO.del,BO.set (ABlk.mk c3 true true)]))):=by kernel_rfl

theorem e149_1(n3:Nat)(c3:List AV):lpK A D ownC hn149 .n 149 1 (lpAt mf149 1).fst (lpAt mf149 1).snd [AV.sl 0 0 n3 1] [{ cells:=c3,st:=true,ex:=true }] =
 br (A.lt 0 ↑n3)
 (unI (A.sub IntKind.i64 (↑n3) 1) fun i=>
 br (i.blt n3) (rdK c3 (0+i*1) 1 fun cs=>
 dk [.J .u32,.N] [.l cs] fun n=>
 br (A.eq n 0)
 (unI (A.sub IntKind.i64 (↑n3) 1) fun i1=>
 br (inB 0 i1 n3) (askK D (Key.lp 149 1) [AV.sl 0 0 i1 1] [ABlk.mk c3 true true] fun r o=>
 tailK 1 [0] (AH.mk [(0,ABlk.mk c3 true true)] 1 none) [] r o) none)
 (some ((AV.tup [iv 2,AV.sl 1 0 n3 1],[BO.del,BO.set (ABlk.mk c3 true true)])))) none)
 (some ((AV.tup [iv 2,AV.sl 1 0 n3 1],[BO.del,BO.set (ABlk.mk c3 true true)]))):=by kernel_rfl

theorem e186(x0 x1:Rw):fnK A D ownC hn186 .n 186 mf186 [AV.ls x0,AV.ls x1] [] =
 br (A.lt ↑(lenR x1) ↑(lenR x0))
 (some ((iv ↑(lenR x0),[])))
 (some ((iv ↑(lenR x1),[]))):=by kernel_rfl

theorem e187(x0:Rw)(x1:Int):fnK A D ownC hn187 .n 187 mf187 [AV.ls x0,iv x1] [] =
 br (A.lt x1 0)
 (some ((AV.v (Value.int IntKind.u64 0),[])))
 (br (A.le (↑(lenR x0)) x1)
 (some ((AV.v (Value.int IntKind.u64 0),[])))
 (unI x1 fun i=>
 nthK x0 i fun cs=>
 dk [.J .u32,.N] [.l cs] fun n=>
 some ((AV.v (Value.int IntKind.u64 (A.conv IntKind.u64 n)),[])))):=by kernel_rfl

theorem e228(x0 x1:Rw):fnK A D ownC hn228 .n 228 mf228 [AV.ls x0,AV.ls x1] [] =
 askD D (Key.fn 186) [AV.ls x0,AV.ls x1] [] [.i,.E] fun n=>
 askD D (Key.lp 228 0) [AV.ls x0,AV.ls x1,iv (A.sub IntKind.i64 n 1)] [] [.t,.C,.x,.X,.Y] fun c l o1=>
 br (axIs 0 c)
 (dk [.I,.N,.E] [.l l,.o o1] fun n1=>
 some ((iv n1,[])))
 (br (axIs 1 c)
 (unNil l<|
 unEnd o1<|
 some ((iv 0,[])))
 (none)):=by kernel_rfl

theorem e228_0(t0 t1:Rw)(t5:Int):lpK A D ownC hn228 .n 228 0 (lpAt mf228 0).fst (lpAt mf228 0).snd [AV.ls t0,AV.ls t1,iv t5] [] =
 br (A.le 0 t5)
 (askD D (Key.fn 187) [AV.ls t0,iv t5] [] [.j .u64,.E] fun n=>
 askD D (Key.fn 187) [AV.ls t1,iv t5] [] [.j .u64,.E] fun n1=>
 br (A.lt n n1)
 (some ((AV.tup [bv true,iv (-1)],[])))
 (askD D (Key.fn 187) [AV.ls t0,iv t5] [] [.j .u64,.E] fun n2=>
 askD D (Key.fn 187) [AV.ls t1,iv t5] [] [.j .u64,.E] fun n3=>
 br (A.lt n3 n2)
 (some ((AV.tup [bv true,iv 1],[])))
 (askK D (Key.lp 228 0) [AV.ls t0,AV.ls t1,iv (A.sub IntKind.i64 t5 1)] [] fun r4 o4=>
 tailK 0 [] (AH.mk [] 0 none) [] r4 o4)))
 (some ((AV.tup [iv 0],[]))):=by kernel_rfl

theorem e129(x0 x1:Rw):fnK A D ownC hn129 .n 129 mf129 [AV.ls x0,AV.ls x1] [] =
 askD D (Key.lp 129 0) [AV.ls x0,AV.ls x1,AV.sl 0 0 0 1,AV.v (Value.int IntKind.u64 0),iv 0] [ABlk.mk [] true true] [.t,.C,.x,.X,.Y] fun c l o=>
 br (axIs 1 c)
 (dk [.C,.q 1 1,.N,.D,.R,.X,.E] [.l l,.o o] fun n cs1=>
 br ((0+n*1).ble cs1.length) (askK D (Key.fn 149) [AV.ls (chunk n 1 (List.take (n*1) cs1))] [] fun r1 o1=>
 unLs r1 fun xs=>
 unEnd o1<|
 some ((AV.ls xs,[]))) none)
 (none):=by kernel_rfl

theorem e129_0(t0 t1:Rw)(n5:Nat)(c5:List AV)(t6 t7:Int):lpK A D ownC hn129 (.b (.b (.b .n (.b .n (.f .n))) .n) .n) 129 0 (lpAt mf129 0).fst (lpAt mf129 0).snd [AV.ls t0,AV.ls t1,AV.sl 0 0 n5 1,AV.v (Value.int IntKind.u64 t6),iv t7] [{ cells:=c5,st:=true,ex:=true }] =
 askD D (Key.fn 186) [AV.ls t0,AV.ls t1] [] [.i,.E] fun n=>
 br (A.le t7 n)
 (askD D (Key.fn 187) [AV.ls t0,iv t7] [] [.j .u64,.E] fun n1=>
 askD D (Key.fn 187) [AV.ls t1,iv t7] [] [.j .u64,.E] fun n2=>
 br (A.eq 4294967296 0)
 (none)
 (br (fitsB (n5+1) 4) (br ((0+n5*1).ble c5.length) (br (A.eq 4294967296 0) none (askK D (Key.lp 129 0) [AV.ls t0,AV.ls t1,AV.sl 0 0 (n5+1) 1,AV.v (Value.int IntKind.u64 (A.quo IntKind.u64 (A.add IntKind.u64 (A.add IntKind.u64 n1 n2) t6) 4294967296)),iv (A.add IntKind.i64 t7 1)] [ABlk.mk (List.drop 0 (List.take (0+n5*1) c5)++[AV.v (Value.int IntKind.u32 (A.conv IntKind.u32 (A.rem IntKind.u64 (A.add IntKind.u64 (A.add IntKind.u64 n1 n2) t6) 4294967296)))]) true true] fun r3 o3=>
 tailK 1 [2] (AH.mk [(2,ABlk.mk (List.drop 0 (List.take (0+n5*1) c5)++[AV.v (Value.int IntKind.u32 (A.conv IntKind.u32 (A.rem IntKind.u64 (A.add IntKind.u64 (A.add IntKind.u64 n1 n2) t6) 4294967296)))]) true true),(1,ABlk.mk [AV.v (Value.int IntKind.u32 (A.conv IntKind.u32 (A.rem IntKind.u64 (A.add IntKind.u64 (A.add IntKind.u64 n1 n2) t6) 4294967296)))] true true)] 3 none) [0] r3 o3)) none) none))
 (some ((AV.tup [iv 0,AV.sl 1 0 n5 1],[BO.del,BO.set (ABlk.mk c5 true true)]))):=by kernel_rfl

theorem e182(x0 x1:Rw):fnK A D ownC hn182 .n 182 mf182 [AV.ls x0,AV.ls x1] [] =
 askD D (Key.fn 228) [AV.ls x0,AV.ls x1] [] [.i,.E] fun n=>
 br (A.lt n 0)
 (some ((AV.tup [AV.ls [],bv false],[])))
 (askD D (Key.lp 182 0) [AV.ls x0,AV.ls x1,AV.sl 0 0 0 1,AV.v (Value.int IntKind.u64 0),iv 0] [ABlk.mk [] true true] [.t,.C,.x,.X,.Y] fun c l o1=>
 br (axIs 1 c)
 (dk [.C,.q 1 1,.N,.D,.R,.X,.E] [.l l,.o o1] fun n1 cs1=>
 br ((0+n1*1).ble cs1.length) (askK D (Key.fn 149) [AV.ls (chunk n1 1 (List.take (n1*1) cs1))] [] fun r2 o2=>
 unLs r2 fun xs=>
 unEnd o2<|
 some ((AV.tup [AV.ls xs,bv true],[]))) none)
 (none)):=by kernel_rfl

theorem e182_0(t0 t1:Rw)(n6:Nat)(c6:List AV)(t7 t8:Int):lpK A D ownC hn182 (.b (.b (.b .n (.b .n (.f .n))) .n) .n) 182 0 (lpAt mf182 0).fst (lpAt mf182 0).snd [AV.ls t0,AV.ls t1,AV.sl 0 0 n6 1,AV.v (Value.int IntKind.u64 t7),iv t8] [{ cells:=c6,st:=true,ex:=true }] =
 askD D (Key.fn 186) [AV.ls t0,AV.ls t1] [] [.i,.E] fun n=>
 br (A.lt t8 n)
 (askD D (Key.fn 187) [AV.ls t0,iv t8] [] [.j .u64,.E] fun n1=>
 askD D (Key.fn 187) [AV.ls t1,iv t8] [] [.j .u64,.E] fun n2=>
 br (A.eq 4294967296 0)
 (none)
 (br (fitsB (n6+1) 4) (br ((0+n6*1).ble c6.length) (br (A.eq 4294967296 0) none (askK D (Key.lp 182 0) [AV.ls t0,AV.ls t1,AV.sl 0 0 (n6+1) 1,AV.v (Value.int IntKind.u64 (A.sub IntKind.u64 1 (A.quo IntKind.u64 (A.sub IntKind.u64 (A.sub IntKind.u64 (A.add IntKind.u64 n1 4294967296) n2) t7) 4294967296))),iv (A.add IntKind.i64 t8 1)] [ABlk.mk (List.drop 0 (List.take (0+n6*1) c6)++[AV.v (Value.int IntKind.u32 (A.conv IntKind.u32 (A.rem IntKind.u64 (A.sub IntKind.u64 (A.sub IntKind.u64 (A.add IntKind.u64 n1 4294967296) n2) t7) 4294967296)))]) true true] fun r3 o3=>
 tailK 1 [2] (AH.mk [(2,ABlk.mk (List.drop 0 (List.take (0+n6*1) c6)++[AV.v (Value.int IntKind.u32 (A.conv IntKind.u32 (A.rem IntKind.u64 (A.sub IntKind.u64 (A.sub IntKind.u64 (A.add IntKind.u64 n1 4294967296) n2) t7) 4294967296)))]) true true),(1,ABlk.mk [AV.v (Value.int IntKind.u32 (A.conv IntKind.u32 (A.rem IntKind.u64 (A.sub IntKind.u64 (A.sub IntKind.u64 (A.add IntKind.u64 n1 4294967296) n2) t7) 4294967296)))] true true)] 3 none) [0] r3 o3)) none) none))
 (some ((AV.tup [iv 0,AV.sl 1 0 n6 1],[BO.del,BO.set (ABlk.mk c6 true true)]))):=by kernel_rfl

theorem e229(x0:Rw)(x1:Int):fnK A D ownC hn229 .n 229 mf229 [AV.ls x0,AV.v (Value.int IntKind.u64 x1)] [] =
 askD D (Key.lp 229 0) [AV.ls x0,AV.v (Value.int IntKind.u64 x1),AV.sl 0 0 0 1,AV.v (Value.int IntKind.u64 0),iv 0] [ABlk.mk [] true true] [.t,.C,.x,.X,.Y] fun c l o=>
 br (axIs 1 c)
 (dk [.C,.q 1 1,.J .u64,.N,.D,.R,.X,.E] [.l l,.o o] fun n n1 cs1=>
 br (fitsB (n+1) 4) (br ((0+n*1).ble cs1.length) (br ((0+(n+1)*1).ble (List.drop 0 (List.take (0+n*1) cs1)++[AV.v (Value.int IntKind.u32 (A.conv IntKind.u32 n1))]).length) (askK D (Key.fn 149) [AV.ls (chunk (n+1) 1 (List.take ((n+1)*1) (List.drop 0 (List.drop 0 (List.take (0+n*1) cs1)++[AV.v (Value.int IntKind.u32 (A.conv IntKind.u32 n1))]))))] [] fun r1 o1=>
 unLs r1 fun xs=>
 unEnd o1<|
 some ((AV.ls xs,[]))) none) none) none)
 (none):=by kernel_rfl

theorem e229_0(t0:Rw)(t1:Int)(n5:Nat)(c5:List AV)(t6 t7:Int):lpK A D ownC hn229 (.b (.b (.b .n (.b .n (.f .n))) .n) .n) 229 0 (lpAt mf229 0).fst (lpAt mf229 0).snd [AV.ls t0,AV.v (Value.int IntKind.u64 t1),AV.sl 0 0 n5 1,AV.v (Value.int IntKind.u64 t6),iv t7] [{ cells:=c5,st:=true,ex:=true }] =
 br (A.lt t7 ↑(lenR t0))
 (askD D (Key.fn 187) [AV.ls t0,iv t7] [] [.j .u64,.E] fun n=>
 br (A.eq 4294967296 0)
 (none)
 (br (fitsB (n5+1) 4) (br ((0+n5*1).ble c5.length) (br (A.eq 4294967296 0) none (askK D (Key.lp 229 0) [AV.ls t0,AV.v (Value.int IntKind.u64 t1),AV.sl 0 0 (n5+1) 1,AV.v (Value.int IntKind.u64 (A.quo IntKind.u64 (A.add IntKind.u64 (A.mul IntKind.u64 n t1) t6) 4294967296)),iv (A.add IntKind.i64 t7 1)] [ABlk.mk (List.drop 0 (List.take (0+n5*1) c5)++[AV.v (Value.int IntKind.u32 (A.conv IntKind.u32 (A.rem IntKind.u64 (A.add IntKind.u64 (A.mul IntKind.u64 n t1) t6) 4294967296)))]) true true] fun r1 o1=>
 tailK 1 [2] (AH.mk [(2,ABlk.mk (List.drop 0 (List.take (0+n5*1) c5)++[AV.v (Value.int IntKind.u32 (A.conv IntKind.u32 (A.rem IntKind.u64 (A.add IntKind.u64 (A.mul IntKind.u64 n t1) t6) 4294967296)))]) true true),(1,ABlk.mk [AV.v (Value.int IntKind.u32 (A.conv IntKind.u32 (A.rem IntKind.u64 (A.add IntKind.u64 (A.mul IntKind.u64 n t1) t6) 4294967296)))] true true)] 3 none) [0] r1 o1)) none) none))
 (some ((AV.tup [iv 0,AV.sl 1 0 n5 1,AV.v (Value.int IntKind.u64 t6)],[BO.del,BO.set (ABlk.mk c5 true true)]))):=by kernel_rfl

theorem e183(x0 x1:Rw):fnK A D ownC hn183 .n 183 mf183 [AV.ls x0,AV.ls x1] [] =
 askD D (Key.lp 183 0) [AV.ls x0,AV.ls x1,AV.ls [],iv (A.sub IntKind.i64 (↑(lenR x1)) 1)] [] [.t,.C,.x,.X,.Y] fun c l o=>
 br (axIs 1 c)
 (dk [.L,.N,.E] [.l l,.o o] fun xs=>
 askD D (Key.fn 149) [AV.ls xs] [] [.l,.E] fun xs1=>
 some ((AV.ls xs1,[])))
 (none):=by kernel_rfl

theorem e183_0(t0 t1 t5:Rw)(t6:Int):lpK A D ownC hn183 .n 183 0 (lpAt mf183 0).fst (lpAt mf183 0).snd [AV.ls t0,AV.ls t1,AV.ls t5,iv t6] [] =
 br (A.le 0 t6)
 (askD D (Key.lp 183 1) [AV.ls t0,AV.ls t1,AV.ls t5,iv t6,AV.sl 0 0 1 1,iv 0] [ABlk.mk [AV.v (Value.int IntKind.u32 0)] true true] [.t,.C,.x,.X,.Y] fun c l o=>
 br (axIs 3 c)
 (dk [.L,.L,.I,.C,.q 1 1,.N,.D,.R,.X,.E] [.l l,.o o] fun xs xs1 n n1 cs1=>
 unI n fun i=>
 nthK xs1 i fun cs2=>
 dk [.J .u32,.N] [.l cs2] fun n2=>
 askD D (Key.fn 229) [AV.ls xs,AV.v (Value.int IntKind.u64 (A.conv IntKind.u64 n2))] [] [.l,.E] fun xs2=>
 br ((0+n1*1).ble cs1.length) (askK D (Key.fn 129) [AV.ls (chunk n1 1 (List.take (n1*1) cs1)),AV.ls xs2] [] fun r2 o2=>
 unLs r2 fun xs3=>
 unEnd o2<|
 askK D (Key.lp 183 0) [AV.ls xs,AV.ls xs1,AV.ls xs3,iv (A.sub IntKind.i64 n 1)] [] fun r3 o3=>
 tailK 0 [] (AH.mk [(1,ABlk.mk cs1 false true)] 2 none) [] r3 o3) none)
 (none))
 (some ((AV.tup [iv 0,AV.ls t5],[]))):=by kernel_rfl

theorem e183_1(t0 t1 t5:Rw)(t6:Int)(n7:Nat)(c7:List AV)(t8:Int):lpK A D ownC hn183 .n 183 1 (lpAt mf183 1).fst (lpAt mf183 1).snd [AV.ls t0,AV.ls t1,AV.ls t5,iv t6,AV.sl 0 0 n7 1,iv t8] [{ cells:=c7,st:=true,ex:=true }] =
 br (A.lt t8 ↑(lenR t5))
 (unI t8 fun i=>
 nthK t5 i fun cs=>
 dk [.J .u32,.N] [.l cs] fun n=>
 br (fitsB (n7+1) 4) (br ((0+n7*1).ble c7.length) (askK D (Key.lp 183 1) [AV.ls t0,AV.ls t1,AV.ls t5,iv t6,AV.sl 0 0 (n7+1) 1,iv (A.add IntKind.i64 t8 1)] [ABlk.mk (List.drop 0 (List.take (0+n7*1) c7)++[AV.v (Value.int IntKind.u32 n)]) true true] fun r o=>
 tailK 1 [2] (AH.mk [(2,ABlk.mk (List.drop 0 (List.take (0+n7*1) c7)++[AV.v (Value.int IntKind.u32 n)]) true true),(1,ABlk.mk [AV.v (Value.int IntKind.u32 n)] true true)] 3 none) [0] r o) none) none)
 (some ((AV.tup [iv 2,AV.ls t0,AV.ls t1,iv t6,AV.sl 1 0 n7 1],[BO.del,BO.set (ABlk.mk c7 true true)]))):=by kernel_rfl

theorem e210(x0 x1:Rw):fnK A D ownC hn210 .n 210 mf210 [AV.ls x0,AV.ls x1] [] =
 br (A.eq ↑(lenR x0) ↑(lenR x1))
 (askD D (Key.lp 210 0) [AV.ls x0,AV.ls x1,iv 0] [] [.t,.C,.x,.X,.Y] fun c l o=>
 br (axIs 0 c)
 (dk [.B,.N,.E] [.l l,.o o] fun b=>
 some ((bv b,[])))
 (br (axIs 1 c)
 (unNil l<|
 unEnd o<|
 some ((bv true,[])))
 (none)))
 (some ((bv false,[]))):=by kernel_rfl

theorem e210_0(t0 t1:Rw)(t5:Int):lpK A D ownC hn210 .n 210 0 (lpAt mf210 0).fst (lpAt mf210 0).snd [AV.ls t0,AV.ls t1,iv t5] [] =
 br (A.lt t5 ↑(lenR t0))
 (unI t5 fun i=>
 nthK t0 i fun cs=>
 dk [.J .u32,.N] [.l cs] fun n=>
 unI t5 fun i1=>
 nthK t1 i1 fun cs1=>
 dk [.J .u32,.N] [.l cs1] fun n1=>
 br (A.eq n n1)
 (askK D (Key.lp 210 0) [AV.ls t0,AV.ls t1,iv (A.add IntKind.i64 t5 1)] [] fun r o=>
 tailK 0 [] (AH.mk [] 0 none) [] r o)
 (some ((AV.tup [bv true,bv false],[]))))
 (some ((AV.tup [iv 0],[]))):=by kernel_rfl
end Go.Proofs.YtpncilciembjdaaGreatDoor
namespace Go.Proofs.YtpncilciembjdaaGreatDoor
open Go.RowKit
def hs128:Hints:=[]
noncomputable def mf128:MFn:=mfD Tryz.prog entsC hs128 false false 128
def hn128:Hnt:=⟨[(149,(.ls,[]))],[],[]⟩
def hs75:Hints:=[]
noncomputable def mf75:MFn:=mfD Tryz.prog entsC hs75 false false 75
def hn75:Hnt:=⟨[(128,(.agg [.bool,.ls],[]))],[],[(4,[.bool]),(6,[.ls])]⟩
def hs56:Hints:=[]
noncomputable def mf56:MFn:=mfD Tryz.prog entsC hs56 false false 56
def hn56:Hnt:=⟨[(128,(.agg [.bool,.ls],[])),(129,(.ls,[]))],[],[]⟩
def hs69:Hints:=[]
noncomputable def mf69:MFn:=mfD Tryz.prog entsC hs69 false false 69
def hn69:Hnt:=⟨[(149,(.ls,[]))],[],[(4,[.ls]),(9,[.bool])]⟩
def hs179:Hints:=[]
noncomputable def mf179:MFn:=mfD Tryz.prog entsC hs179 false false 179
def hn179:Hnt:=⟨[(128,(.agg [.bool,.ls],[]))],[],[(4,[.bool]),(7,[.ls])]⟩
def hs122:Hints:=[]
noncomputable def mf122:MFn:=mfD Tryz.prog entsC hs122 false false 122
def hn122:Hnt:=⟨[(69,(.int .i64,[])),(122,(.agg [.bool,.ls],[])),(128,(.agg [.bool,.ls],[])),(129,(.ls,[])),(182,(.tup [.ls,.bool],[]))],[],[(7,[.bool,.ls]),(11,[.bool,.ls]),(16,[.ls]),(18,[.ls]),(21,[.bool,.ls]),(25,[.bool,.ls]),(30,[.ls]),(32,[.ls]),(35,[.bool,.ls]),(38,[.bool,.ls]),(39,[.bool,.ls]),(43,[.ls]),(45,[.ls]),(54,[.ls]),(56,[.ls])]⟩
def hs124:Hints:=[]
noncomputable def mf124:MFn:=mfD Tryz.prog entsC hs124 false false 124
def hn124:Hnt:=⟨[(122,(.agg [.bool,.ls],[])),(179,(.agg [.bool,.ls],[]))],[],[(5,[.bool,.ls]),(6,[.bool,.ls])]⟩
def hs123:Hints:=[]
noncomputable def mf123:MFn:=mfD Tryz.prog entsC hs123 false false 123
def hn123:Hnt:=⟨[(69,(.int .i64,[])),(128,(.agg [.bool,.ls],[])),(183,(.ls,[]))],[],[(5,[.bool,.ls]),(7,[.bool,.ls]),(12,[.ls]),(14,[.ls])]⟩
def hs53:Hints:=[]
noncomputable def mf53:MFn:=mfD Tryz.prog entsC hs53 false false 53
def hn53:Hnt:=⟨[(69,(.int .i64,[])),(124,(.agg [.bool,.ls],[]))],[],[(5,[.bool,.ls]),(6,[.bool,.ls])]⟩
def hs152:Hints:=[]
noncomputable def mf152:MFn:=mfD Tryz.prog entsC hs152 false false 152
def hn152:Hnt:=⟨[(210,(.bool,[]))],[],[(6,[.bool]),(8,[.bool]),(12,[.ls]),(14,[.ls])]⟩
noncomputable def tabRz:List (Nat × MFn):=[(128,mf128),(75,mf75),(56,mf56),(69,mf69),(179,mf179),(122,mf122),(124,mf124),(123,mf123),(53,mf53),(152,mf152)]
variable (A:Ar) (D:Orc)
theorem e128(x0:Bool)(x1:Rw):fnK A D ownC hn128 .n 128 mf128 [bv x0,AV.ls x1] [] =
 askD D (Key.fn 149) [AV.ls x1] [] [.l,.E] fun xs=>
 br (A.eq (↑(lenR xs)) 0)
 (some ((AV.agg [bv false,AV.ls []],[])))
 (some ((AV.agg [bv x0,AV.ls xs],[]))):=by kernel_rfl

theorem e75(x0_0:Bool)(x0_1:Rw):fnK A D ownC hn75 .n 75 mf75 [AV.agg [bv x0_0,AV.ls x0_1]] [] =
 askD D (Key.fn 128) [bv x0_0,AV.ls x0_1] [] [.a,.B,.L,.N,.E] fun b xs=>
 some ((AV.agg [bv b,AV.ls xs],[])):=by kernel_rfl

theorem e56(x0:Int):fnK A D ownC hn56 (.b (.b (.b .n (.f .n)) .n) (.b .n (.b .n (.f .n)))) 56 mf56 [iv x0] [] =
 br (A.le 0 x0)
 (br (A.eq 4294967296 0)
 (none)
 (br (A.eq 4294967296 0) none (askK D (Key.fn 128) [bv false,AV.ls [[AV.v (Value.int IntKind.u32 (A.conv IntKind.u32 (A.rem IntKind.i64 x0 4294967296)))],[AV.v (Value.int IntKind.u32 (A.conv IntKind.u32 (A.quo IntKind.i64 x0 4294967296)))]]] [] fun r o=>
 dk [.a,.B,.L,.N,.E] [.v r,.o o] fun b xs=>
 some ((AV.agg [bv b,AV.ls xs],[])))))
 (br (A.eq 4294967296 0)
 (none)
 (br (A.eq 4294967296 0) none (askK D (Key.fn 129) [AV.ls [[AV.v (Value.int IntKind.u32 (A.conv IntKind.u32 (A.rem IntKind.i64 (A.sub IntKind.i64 0 (A.add IntKind.i64 x0 1)) 4294967296)))],[AV.v (Value.int IntKind.u32 (A.conv IntKind.u32 (A.quo IntKind.i64 (A.sub IntKind.i64 0 (A.add IntKind.i64 x0 1)) 4294967296)))]],AV.ls [[AV.v (Value.int IntKind.u32 1)]]] [] fun r o=>
 unLs r fun xs=>
 unEnd o<|
 askD D (Key.fn 128) [bv true,AV.ls xs] [] [.a,.B,.L,.N,.E] fun b xs1=>
 some ((AV.agg [bv b,AV.ls xs1],[]))))):=by kernel_rfl

theorem e69(x0_0:Bool)(x0_1:Rw):fnK A D ownC hn69 .n 69 mf69 [AV.agg [bv x0_0,AV.ls x0_1]] [] =
 askD D (Key.fn 149) [AV.ls x0_1] [] [.l,.E] fun xs=>
 br (A.eq (↑(lenR xs)) 0)
 (some ((iv 0,[])))
 (br x0_0
 (some ((iv (-1),[])))
 (some ((iv 1,[])))):=by kernel_rfl

theorem e179(x0_0:Bool)(x0_1:Rw):fnK A D ownC hn179 .n 179 mf179 [AV.agg [bv x0_0,AV.ls x0_1]] [] =
 br (A.not x0_0)
 (askD D (Key.fn 128) [bv true,AV.ls x0_1] [] [.a,.B,.L,.N,.E] fun b xs=>
 some ((AV.agg [bv b,AV.ls xs],[])))
 (askD D (Key.fn 128) [bv false,AV.ls x0_1] [] [.a,.B,.L,.N,.E] fun b xs=>
 some ((AV.agg [bv b,AV.ls xs],[]))):=by kernel_rfl

theorem e122(x0_0:Bool)(x0_1:Rw)(x1_0:Bool)(x1_1:Rw):fnK A D ownC hn122 .n 122 mf122 [AV.agg [bv x0_0,AV.ls x0_1],AV.agg [bv x1_0,AV.ls x1_1]] [] =
 askD D (Key.fn 69) [AV.agg [bv x0_0,AV.ls x0_1]] [] [.i,.E] fun n=>
 br (A.lt n 0)
 (askD D (Key.fn 69) [AV.agg [bv x1_0,AV.ls x1_1]] [] [.i,.E] fun n1=>
 br (A.lt n1 0)
 (askD D (Key.fn 129) [AV.ls x0_1,AV.ls x1_1] [] [.l,.E] fun xs=>
 askD D (Key.fn 128) [bv true,AV.ls xs] [] [.a,.B,.L,.N,.E] fun b xs1=>
 some ((AV.agg [bv b,AV.ls xs1],[])))
 (askD D (Key.fn 69) [AV.agg [bv x0_0,AV.ls x0_1]] [] [.i,.E] fun n2=>
 br (A.le 0 n2)
 (askD D (Key.fn 69) [AV.agg [bv x1_0,AV.ls x1_1]] [] [.i,.E] fun n3=>
 br (A.le 0 n3)
 (askD D (Key.fn 129) [AV.ls x0_1,AV.ls x1_1] [] [.l,.E] fun xs=>
 askD D (Key.fn 128) [bv false,AV.ls xs] [] [.a,.B,.L,.N,.E] fun b xs1=>
 some ((AV.agg [bv b,AV.ls xs1],[])))
 (askD D (Key.fn 69) [AV.agg [bv x0_0,AV.ls x0_1]] [] [.i,.E] fun n4=>
 br (A.lt n4 0)
 (askD D (Key.fn 122) [AV.agg [bv x1_0,AV.ls x1_1],AV.agg [bv x0_0,AV.ls x0_1]] [] [.a,.B,.L,.N,.E] fun b xs=>
 some ((AV.agg [bv b,AV.ls xs],[])))
 (askD D (Key.fn 182) [AV.ls x0_1,AV.ls x1_1] [] [.t,.L,.B,.N,.E] fun xs b=>
 br b
 (askD D (Key.fn 128) [bv false,AV.ls xs] [] [.a,.B,.L,.N,.E] fun b1 xs1=>
 some ((AV.agg [bv b1,AV.ls xs1],[])))
 (askD D (Key.fn 182) [AV.ls x1_1,AV.ls x0_1] [] [.t,.L,.B,.N,.E] fun xs1 _=>
 askD D (Key.fn 128) [bv true,AV.ls xs1] [] [.a,.B,.L,.N,.E] fun b2 xs2=>
 some ((AV.agg [bv b2,AV.ls xs2],[]))))))
 (askD D (Key.fn 69) [AV.agg [bv x0_0,AV.ls x0_1]] [] [.i,.E] fun n3=>
 br (A.lt n3 0)
 (askD D (Key.fn 122) [AV.agg [bv x1_0,AV.ls x1_1],AV.agg [bv x0_0,AV.ls x0_1]] [] [.a,.B,.L,.N,.E] fun b xs=>
 some ((AV.agg [bv b,AV.ls xs],[])))
 (askD D (Key.fn 182) [AV.ls x0_1,AV.ls x1_1] [] [.t,.L,.B,.N,.E] fun xs b=>
 br b
 (askD D (Key.fn 128) [bv false,AV.ls xs] [] [.a,.B,.L,.N,.E] fun b1 xs1=>
 some ((AV.agg [bv b1,AV.ls xs1],[])))
 (askD D (Key.fn 182) [AV.ls x1_1,AV.ls x0_1] [] [.t,.L,.B,.N,.E] fun xs1 _=>
 askD D (Key.fn 128) [bv true,AV.ls xs1] [] [.a,.B,.L,.N,.E] fun b2 xs2=>
 some ((AV.agg [bv b2,AV.ls xs2],[])))))))
 (askD D (Key.fn 69) [AV.agg [bv x0_0,AV.ls x0_1]] [] [.i,.E] fun n1=>
 br (A.le 0 n1)
 (askD D (Key.fn 69) [AV.agg [bv x1_0,AV.ls x1_1]] [] [.i,.E] fun n2=>
 br (A.le 0 n2)
 (askD D (Key.fn 129) [AV.ls x0_1,AV.ls x1_1] [] [.l,.E] fun xs=>
 askD D (Key.fn 128) [bv false,AV.ls xs] [] [.a,.B,.L,.N,.E] fun b xs1=>
 some ((AV.agg [bv b,AV.ls xs1],[])))
 (askD D (Key.fn 69) [AV.agg [bv x0_0,AV.ls x0_1]] [] [.i,.E] fun n3=>
 br (A.lt n3 0)
 (askD D (Key.fn 122) [AV.agg [bv x1_0,AV.ls x1_1],AV.agg [bv x0_0,AV.ls x0_1]] [] [.a,.B,.L,.N,.E] fun b xs=>
 some ((AV.agg [bv b,AV.ls xs],[])))
 (askD D (Key.fn 182) [AV.ls x0_1,AV.ls x1_1] [] [.t,.L,.B,.N,.E] fun xs b=>
 br b
 (askD D (Key.fn 128) [bv false,AV.ls xs] [] [.a,.B,.L,.N,.E] fun b1 xs1=>
 some ((AV.agg [bv b1,AV.ls xs1],[])))
 (askD D (Key.fn 182) [AV.ls x1_1,AV.ls x0_1] [] [.t,.L,.B,.N,.E] fun xs1 _=>
 askD D (Key.fn 128) [bv true,AV.ls xs1] [] [.a,.B,.L,.N,.E] fun b2 xs2=>
 some ((AV.agg [bv b2,AV.ls xs2],[]))))))
 (askD D (Key.fn 69) [AV.agg [bv x0_0,AV.ls x0_1]] [] [.i,.E] fun n2=>
 br (A.lt n2 0)
 (askD D (Key.fn 122) [AV.agg [bv x1_0,AV.ls x1_1],AV.agg [bv x0_0,AV.ls x0_1]] [] [.a,.B,.L,.N,.E] fun b xs=>
 some ((AV.agg [bv b,AV.ls xs],[])))
 (askD D (Key.fn 182) [AV.ls x0_1,AV.ls x1_1] [] [.t,.L,.B,.N,.E] fun xs b=>
 br b
 (askD D (Key.fn 128) [bv false,AV.ls xs] [] [.a,.B,.L,.N,.E] fun b1 xs1=>
 some ((AV.agg [bv b1,AV.ls xs1],[])))
 (askD D (Key.fn 182) [AV.ls x1_1,AV.ls x0_1] [] [.t,.L,.B,.N,.E] fun xs1 _=>
 askD D (Key.fn 128) [bv true,AV.ls xs1] [] [.a,.B,.L,.N,.E] fun b2 xs2=>
 some ((AV.agg [bv b2,AV.ls xs2],[])))))):=by kernel_rfl

theorem e124(x0_0:Bool)(x0_1:Rw)(x1_0:Bool)(x1_1:Rw):fnK A D ownC hn124 .n 124 mf124 [AV.agg [bv x0_0,AV.ls x0_1],AV.agg [bv x1_0,AV.ls x1_1]] [] =
 askD D (Key.fn 179) [AV.agg [bv x1_0,AV.ls x1_1]] [] [.a,.B,.L,.N,.E] fun b xs=>
 askD D (Key.fn 122) [AV.agg [bv x0_0,AV.ls x0_1],AV.agg [bv b,AV.ls xs]] [] [.a,.B,.L,.N,.E] fun b1 xs1=>
 some ((AV.agg [bv b1,AV.ls xs1],[])):=by kernel_rfl

theorem e123(x0_0:Bool)(x0_1:Rw)(x1_0:Bool)(x1_1:Rw):fnK A D ownC hn123 .n 123 mf123 [AV.agg [bv x0_0,AV.ls x0_1],AV.agg [bv x1_0,AV.ls x1_1]] [] =
 askD D (Key.fn 69) [AV.agg [bv x0_0,AV.ls x0_1]] [] [.i,.E] fun n=>
 askD D (Key.fn 69) [AV.agg [bv x1_0,AV.ls x1_1]] [] [.i,.E] fun n1=>
 br (A.lt (A.mul IntKind.i64 n n1) 0)
 (askD D (Key.fn 183) [AV.ls x0_1,AV.ls x1_1] [] [.l,.E] fun xs=>
 askD D (Key.fn 128) [bv true,AV.ls xs] [] [.a,.B,.L,.N,.E] fun b xs1=>
 some ((AV.agg [bv b,AV.ls xs1],[])))
 (askD D (Key.fn 183) [AV.ls x0_1,AV.ls x1_1] [] [.l,.E] fun xs=>
 askD D (Key.fn 128) [bv false,AV.ls xs] [] [.a,.B,.L,.N,.E] fun b xs1=>
 some ((AV.agg [bv b,AV.ls xs1],[]))):=by kernel_rfl

theorem e53(x0_0:Bool)(x0_1:Rw)(x1_0:Bool)(x1_1:Rw):fnK A D ownC hn53 .n 53 mf53 [AV.agg [bv x0_0,AV.ls x0_1],AV.agg [bv x1_0,AV.ls x1_1]] [] =
 askD D (Key.fn 124) [AV.agg [bv x0_0,AV.ls x0_1],AV.agg [bv x1_0,AV.ls x1_1]] [] [.a,.B,.L,.N,.E] fun b xs=>
 askD D (Key.fn 69) [AV.agg [bv b,AV.ls xs]] [] [.i,.E] fun n=>
 some ((iv n,[])):=by kernel_rfl

theorem e152(x0_0:Bool)(x0_1:Rw)(x1_0:Bool)(x1_1:Rw):fnK A D ownC hn152 .n 152 mf152 [AV.agg [bv x0_0,AV.ls x0_1],AV.agg [bv x1_0,AV.ls x1_1]] [] =
 br (A.beq x0_0 x1_0)
 (askD D (Key.fn 210) [AV.ls x0_1,AV.ls x1_1] [] [.b,.E] fun b=>
 br b
 (some ((bv true,[])))
 (some ((bv false,[]))))
 (some ((bv false,[]))):=by kernel_rfl
end Go.Proofs.YtpncilciembjdaaGreatDoor
namespace Go.Proofs.YtpncilciembjdaaGreatDoor
open Go.RowKit
def hs77:Hints:=[⟨36,[false,true,true,false,true,true,true],[],[2,4,5],[(1,([false,false,false,false,true,true],([],[2])))]⟩]
noncomputable def mf77:MFn:=mfD Tryz.prog entsC hs77 false false 77
def hn77:Hnt:=⟨[(122,(.agg [.bool,.ls],[]))],[(0,[(1,([.ptr 1 0,.ptr 2 0],[.del,.box [.bool,.ls],.box [.bool,.ls]]))])],[(10,[.ls]),(16,[.ls]),(18,[.int .i64,.bool,.ls]),(20,[.int .i64]),(27,[.bool,.ls]),(29,[.ls]),(31,[.int .i64,.bool,.ls]),(33,[.bool,.ls]),(35,[.bool,.ls])]⟩
def hs87:Hints:=[⟨27,[false,true,true,false,true,true,true],[],[2,4,5],[(1,([false,false,false,false,true,true],([],[2])))]⟩]
noncomputable def mf87:MFn:=mfD Tryz.prog entsC hs87 false false 87
def hn87:Hnt:=⟨[(75,(.agg [.bool,.ls],[])),(77,(.agg [.bool,.ls],[])),(122,(.agg [.bool,.ls],[])),(123,(.agg [.bool,.ls],[]))],[(0,[(1,([.ptr 1 0,.ptr 2 0],[.del,.box [.bool,.ls],.box [.bool,.ls]]))])],[(8,[.bool,.ls]),(15,[.bool,.ls]),(16,[.ls,.bool,.ls]),(21,[.bool,.ls]),(22,[.bool,.ls]),(25,[.bool,.ls])]⟩
def hs31:Hints:=[]
noncomputable def mf31:MFn:=mfD Tryz.prog entsC hs31 false false 31
def hn31:Hnt:=⟨[(69,(.int .i64,[])),(87,(.agg [.bool,.ls],[]))],[],[(7,[.ls,.bool,.ls]),(12,[.bool])]⟩
def hs29:Hints:=[⟨26,[true,false,true,false,false,false,false,true],[],[],[(0,([false,false,false,false,false,false,true],([],[]))),(1,([],([],[])))]⟩]
noncomputable def mf29:MFn:=mfD Tryz.prog entsC hs29 false false 29
def hn29:Hnt:=⟨[],[(0,[(0,([.bool],[])),(1,([],[]))])],[(20,[.bool,.ls]),(22,[.ls])]⟩
def hs37:Hints:=[⟨65,[false,true,true,false,false,true],[],[2],[(0,([false,false,false,false,true],([],[2]))),(2,([],([],[2])))]⟩,⟨65,[false,true,true,false,false,false,true],[],[2],[(0,([false,false,false,false,true],([],[2]))),(4,([],([],[2])))]⟩]
noncomputable def mf37:MFn:=mfD Tryz.prog entsC hs37 false false 37
def hn37:Hnt:=⟨[(31,(.bool,[])),(37,(.bool,[]))],[(0,[(0,([.bool],[.del])),(2,([],[.del]))]),(1,[(0,([.bool],[.del])),(4,([],[.del]))])],[(8,[.int .i64]),(14,[.ls,.bool,.ls,.bool]),(20,[.ls]),(25,[.ls]),(26,[.int .i64,.ls,.bool,.ls,.bool,.ls]),(27,[.int .i64,.ls,.bool,.ls,.bool,.ls]),(36,[.ls]),(42,[.ls]),(44,[.int .i64,.ls,.bool,.ls,.bool,.ls]),(45,[.int .i64,.ls,.bool,.ls,.bool,.ls]),(53,[.ls]),(59,[.ls]),(61,[.int .i64,.ls,.bool,.ls,.bool,.ls]),(62,[.int .i64,.ls,.bool,.ls,.bool,.ls])]⟩
noncomputable def tabRh:List (Nat × MFn):=[(77,mf77),(87,mf87),(31,mf31),(29,mf29),(37,mf37)]
variable (A:Ar) (D:Orc)
theorem e77(x0_0:Rw)(x0_1:Bool)(x0_2:Rw)(x1:Int):fnK A D ownC hn77 .n 77 mf77 [AV.agg [AV.ls x0_0,bv x0_1,AV.ls x0_2],iv x1] [] =
 askD D (Key.lp 77 0) [iv x1,AV.ptr 0 0,AV.ptr 1 0,AV.ptr 2 0,iv 0] [bk [AV.ls x0_0,bv x0_1,AV.ls x0_2],bk [bv false,AV.ls []],bk [bv false,AV.ls []]] [.t,.C,.x,.X,.Y] fun c l o=>
 br (axIs 1 c)
 (dk [.P 1 0,.P 2 0,.N,.D,.T,.B,.L,.N,.T,.B,.L,.N,.E] [.l l,.o o] fun _ _ b1 xs1=>
 some ((AV.agg [bv b1,AV.ls xs1],[])))
 (none):=by kernel_rfl

theorem e77_0(t1:Int)(b2_0:Rw)(b2_1:Bool)(b2_2:Rw)(b4_0:Bool)(b4_1:Rw)(b5_0:Bool)(b5_1:Rw)(t6:Int):lpK A D ownC hn77 .n 77 0 (lpAt mf77 0).fst (lpAt mf77 0).snd [iv t1,AV.ptr 0 0,AV.ptr 1 0,AV.ptr 2 0,iv t6] [bk [AV.ls b2_0,bv b2_1,AV.ls b2_2],bk [bv b4_0,AV.ls b4_1],bk [bv b5_0,AV.ls b5_1]] =
 br (A.lt t6 ↑(lenR b2_0))
 (unI t6 fun i=>
 nthK b2_0 i fun cs=>
 dk [.I,.B,.L,.N] [.l cs] fun n _ _=>
 br (A.eq n t1)
 (br (A.le 0 t1)
 (unI t6 fun i1=>
 nthK b2_0 i1 fun cs1=>
 dk [.I,.B,.L,.N] [.l cs1] fun _ b1 xs1=>
 askD D (Key.fn 122) [AV.agg [bv b5_0,AV.ls b5_1],AV.agg [bv b1,AV.ls xs1]] [] [.a,.B,.L,.N,.E] fun b2 xs2=>
 askK D (Key.lp 77 0) [iv t1,AV.ptr 0 0,AV.ptr 1 0,AV.ptr 2 0,iv (A.add IntKind.i64 t6 1)] [bk [AV.ls b2_0,bv b2_1,AV.ls b2_2],bk [bv b4_0,AV.ls b4_1],bk [bv b2,AV.ls xs2]] fun r1 o1=>
 tailK 3 [0,1,2] (AH.mk [(2,bk [bv b2,AV.ls xs2]),(1,bk [bv b4_0,AV.ls b4_1]),(0,bk [AV.ls b2_0,bv b2_1,AV.ls b2_2])] 3 none) [0,1,2] r1 o1)
 (askK D (Key.lp 77 0) [iv t1,AV.ptr 0 0,AV.ptr 1 0,AV.ptr 2 0,iv (A.add IntKind.i64 t6 1)] [bk [AV.ls b2_0,bv b2_1,AV.ls b2_2],bk [bv b4_0,AV.ls b4_1],bk [bv b5_0,AV.ls b5_1]] fun r o=>
 tailK 3 [0,1,2] (AH.mk [(2,bk [bv b5_0,AV.ls b5_1]),(1,bk [bv b4_0,AV.ls b4_1]),(0,bk [AV.ls b2_0,bv b2_1,AV.ls b2_2])] 3 none) [0,1,2] r o))
 (askK D (Key.lp 77 0) [iv t1,AV.ptr 0 0,AV.ptr 1 0,AV.ptr 2 0,iv (A.add IntKind.i64 t6 1)] [bk [AV.ls b2_0,bv b2_1,AV.ls b2_2],bk [bv b4_0,AV.ls b4_1],bk [bv b5_0,AV.ls b5_1]] fun r o=>
 tailK 3 [0,1,2] (AH.mk [(2,bk [bv b5_0,AV.ls b5_1]),(1,bk [bv b4_0,AV.ls b4_1]),(0,bk [AV.ls b2_0,bv b2_1,AV.ls b2_2])] 3 none) [0,1,2] r o))
 (some ((AV.tup [iv 0,AV.ptr 1 0,AV.ptr 2 0],[BO.del,BO.set (bk [bv b4_0,AV.ls b4_1]),BO.set (bk [bv b5_0,AV.ls b5_1])]))):=by kernel_rfl

theorem e87(x0_0:Rw)(x0_1:Bool)(x0_2 x1:Rw):fnK A D ownC hn87 .n 87 mf87 [AV.agg [AV.ls x0_0,bv x0_1,AV.ls x0_2],AV.ls x1] [] =
 askD D (Key.lp 87 0) [AV.ls x1,AV.ptr 0 0,AV.ptr 1 0,AV.ptr 2 0,iv 0] [bk [AV.ls x0_0,bv x0_1,AV.ls x0_2],bk [bv false,AV.ls []],bk [bv x0_1,AV.ls x0_2]] [.t,.C,.x,.X,.Y] fun c l o=>
 br (axIs 1 c)
 (dk [.P 1 0,.P 2 0,.N,.D,.T,.B,.L,.N,.T,.B,.L,.N,.E] [.l l,.o o] fun _ _ b1 xs1=>
 askD D (Key.fn 75) [AV.agg [bv b1,AV.ls xs1]] [] [.a,.B,.L,.N,.E] fun b2 xs2=>
 some ((AV.agg [bv b2,AV.ls xs2],[])))
 (none):=by kernel_rfl

theorem e87_0(t1 b2_0:Rw)(b2_1:Bool)(b2_2:Rw)(b4_0:Bool)(b4_1:Rw)(b5_0:Bool)(b5_1:Rw)(t6:Int):lpK A D ownC hn87 .n 87 0 (lpAt mf87 0).fst (lpAt mf87 0).snd [AV.ls t1,AV.ptr 0 0,AV.ptr 1 0,AV.ptr 2 0,iv t6] [bk [AV.ls b2_0,bv b2_1,AV.ls b2_2],bk [bv b4_0,AV.ls b4_1],bk [bv b5_0,AV.ls b5_1]] =
 br (A.lt t6 ↑(lenR t1))
 (askD D (Key.fn 77) [AV.agg [AV.ls b2_0,bv b2_1,AV.ls b2_2],iv t6] [] [.a,.B,.L,.N,.E] fun b xs=>
 unI t6 fun i=>
 nthK t1 i fun cs1=>
 dk [.B,.L,.N] [.l cs1] fun b1 xs1=>
 askD D (Key.fn 123) [AV.agg [bv b,AV.ls xs],AV.agg [bv b1,AV.ls xs1]] [] [.a,.B,.L,.N,.E] fun b2 xs2=>
 askD D (Key.fn 122) [AV.agg [bv b5_0,AV.ls b5_1],AV.agg [bv b2,AV.ls xs2]] [] [.a,.B,.L,.N,.E] fun b3 xs3=>
 askK D (Key.lp 87 0) [AV.ls t1,AV.ptr 0 0,AV.ptr 1 0,AV.ptr 2 0,iv (A.add IntKind.i64 t6 1)] [bk [AV.ls b2_0,bv b2_1,AV.ls b2_2],bk [bv b4_0,AV.ls b4_1],bk [bv b3,AV.ls xs3]] fun r3 o3=>
 tailK 3 [0,1,2] (AH.mk [(2,bk [bv b3,AV.ls xs3]),(1,bk [bv b4_0,AV.ls b4_1]),(0,bk [AV.ls b2_0,bv b2_1,AV.ls b2_2])] 3 none) [0,1,2] r3 o3)
 (some ((AV.tup [iv 0,AV.ptr 1 0,AV.ptr 2 0],[BO.del,BO.set (bk [bv b4_0,AV.ls b4_1]),BO.set (bk [bv b5_0,AV.ls b5_1])]))):=by kernel_rfl

theorem e31(x0_0:Rw)(x0_1:Bool)(x0_2:Rw)(x0_3:Bool)(x1:Rw):fnK A D ownC hn31 .n 31 mf31 [AV.agg [AV.ls x0_0,bv x0_1,AV.ls x0_2,bv x0_3],AV.ls x1] [] =
 askD D (Key.fn 87) [AV.agg [AV.ls x0_0,bv x0_1,AV.ls x0_2],AV.ls x1] [] [.a,.B,.L,.N,.E] fun b xs=>
 askD D (Key.fn 69) [AV.agg [bv b,AV.ls xs]] [] [.i,.E] fun n=>
 br x0_3
 (br (A.eq n 0)
 (some ((bv true,[])))
 (some ((bv false,[]))))
 (br (A.le 0 n)
 (some ((bv true,[])))
 (some ((bv false,[])))):=by kernel_rfl

theorem e29(x0:Rw)(x1 x2:Int):fnK A D ownC hn29 .n 29 mf29 [AV.ls x0,iv x1,iv x2] [] =
 br (A.lt x1 ↑(lenR x0))
 (some ((bv false,[])))
 (askD D (Key.lp 29 0) [AV.ls x0,iv x2,iv 0] [] [.t,.C,.x,.X,.Y] fun c l o=>
 br (axIs 0 c)
 (dk [.B,.N,.E] [.l l,.o o] fun b=>
 some ((bv b,[])))
 (br (axIs 1 c)
 (unNil l<|
 unEnd o<|
 some ((bv true,[])))
 (none))):=by kernel_rfl

theorem e29_0(t0:Rw)(t2 t7:Int):lpK A D ownC hn29 .n 29 0 (lpAt mf29 0).fst (lpAt mf29 0).snd [AV.ls t0,iv t2,iv t7] [] =
 br (A.lt t7 ↑(lenR t0))
 (unI t7 fun i=>
 nthK t0 i fun cs=>
 dk [.B,.L,.N] [.l cs] fun _ xs=>
 br (A.lt t2 ↑(lenR xs))
 (some ((AV.tup [bv true,bv false],[])))
 (askK D (Key.lp 29 0) [AV.ls t0,iv t2,iv (A.add IntKind.i64 t7 1)] [] fun r o=>
 tailK 0 [] (AH.mk [] 0 none) [] r o))
 (some ((AV.tup [iv 0],[]))):=by kernel_rfl

theorem e37(x0_0:Int)(x0_1:Rw)(x0_2:Bool)(x0_3:Rw)(x0_4:Bool)(x0_5 x1:Rw):fnK A D ownC hn37 .n 37 mf37 [AV.agg [iv x0_0,AV.ls x0_1,bv x0_2,AV.ls x0_3,bv x0_4,AV.ls x0_5],AV.ls x1] [] =
 br (A.eq x0_0 0)
 (some ((bv true,[])))
 (br (A.eq x0_0 2)
 (askD D (Key.fn 31) [AV.agg [AV.ls x0_1,bv x0_2,AV.ls x0_3,bv x0_4],AV.ls x1] [] [.b,.E] fun b=>
 br b
 (some ((bv true,[])))
 (some ((bv false,[]))))
 (br (A.eq x0_0 3)
 (br (A.lt 0 ↑(lenR x0_5))
 (nthK x0_5 0 fun cs=>
 dk [.I,.L,.B,.L,.B,.L,.N] [.l cs] fun n xs b xs1 b1 xs2=>
 askD D (Key.fn 37) [AV.agg [iv n,AV.ls xs,bv b,AV.ls xs1,bv b1,AV.ls xs2],AV.ls x1] [] [.b,.E] fun b2=>
 br b2
 (some ((bv false,[])))
 (some ((bv true,[]))))
 (some ((bv false,[]))))
 (br (A.eq x0_0 4)
 (askD D (Key.lp 37 0) [AV.ls x1,AV.ptr 0 0,iv 0] [bk [iv x0_0,AV.ls x0_1,bv x0_2,AV.ls x0_3,bv x0_4,AV.ls x0_5]] [.t,.C,.x,.X,.Y] fun c l o=>
 br (axIs 0 c)
 (dk [.B,.N,.D,.E] [.l l,.o o] fun b=>
 some ((bv b,[])))
 (br (axIs 2 c)
 (dk [.N,.D,.E,.w] [.l l,.o o] fun _=>
 some ((bv true,[])))
 (none)))
 (br (A.eq x0_0 5)
 (askD D (Key.lp 37 1) [AV.ls x1,AV.ptr 0 0,iv 0] [bk [iv x0_0,AV.ls x0_1,bv x0_2,AV.ls x0_3,bv x0_4,AV.ls x0_5]] [.t,.C,.x,.X,.Y] fun c l o=>
 br (axIs 0 c)
 (dk [.B,.N,.D,.E] [.l l,.o o] fun b=>
 some ((bv b,[])))
 (br (axIs 4 c)
 (dk [.N,.D,.E,.w] [.l l,.o o] fun _=>
 some ((bv false,[])))
 (none)))
 (some ((bv false,[]))))))):=by kernel_rfl

theorem e37_0(t1:Rw)(b2_0:Int)(b2_1:Rw)(b2_2:Bool)(b2_3:Rw)(b2_4:Bool)(b2_5:Rw)(t5:Int):lpK A D ownC hn37 .n 37 0 (lpAt mf37 0).fst (lpAt mf37 0).snd [AV.ls t1,AV.ptr 0 0,iv t5] [bk [iv b2_0,AV.ls b2_1,bv b2_2,AV.ls b2_3,bv b2_4,AV.ls b2_5]] =
 br (A.lt t5 ↑(lenR b2_5))
 (unI t5 fun i=>
 nthK b2_5 i fun cs=>
 dk [.I,.L,.B,.L,.B,.L,.N] [.l cs] fun n xs b xs1 b1 xs2=>
 askD D (Key.fn 37) [AV.agg [iv n,AV.ls xs,bv b,AV.ls xs1,bv b1,AV.ls xs2],AV.ls t1] [] [.b,.E] fun b2=>
 br b2
 (askK D (Key.lp 37 0) [AV.ls t1,AV.ptr 0 0,iv (A.add IntKind.i64 t5 1)] [bk [iv b2_0,AV.ls b2_1,bv b2_2,AV.ls b2_3,bv b2_4,AV.ls b2_5]] fun r1 o1=>
 tailK 1 [0] (AH.mk [(0,bk [iv b2_0,AV.ls b2_1,bv b2_2,AV.ls b2_3,bv b2_4,AV.ls b2_5])] 1 none) [0] r1 o1)
 (some ((AV.tup [bv true,bv false],[BO.del]))))
 (some ((AV.tup [iv 1],[BO.del]))):=by kernel_rfl

theorem e37_1(t1:Rw)(b2_0:Int)(b2_1:Rw)(b2_2:Bool)(b2_3:Rw)(b2_4:Bool)(b2_5:Rw)(t6:Int):lpK A D ownC hn37 .n 37 1 (lpAt mf37 1).fst (lpAt mf37 1).snd [AV.ls t1,AV.ptr 0 0,iv t6] [bk [iv b2_0,AV.ls b2_1,bv b2_2,AV.ls b2_3,bv b2_4,AV.ls b2_5]] =
 br (A.lt t6 ↑(lenR b2_5))
 (unI t6 fun i=>
 nthK b2_5 i fun cs=>
 dk [.I,.L,.B,.L,.B,.L,.N] [.l cs] fun n xs b xs1 b1 xs2=>
 askD D (Key.fn 37) [AV.agg [iv n,AV.ls xs,bv b,AV.ls xs1,bv b1,AV.ls xs2],AV.ls t1] [] [.b,.E] fun b2=>
 br b2
 (some ((AV.tup [bv true,bv true],[BO.del])))
 (askK D (Key.lp 37 1) [AV.ls t1,AV.ptr 0 0,iv (A.add IntKind.i64 t6 1)] [bk [iv b2_0,AV.ls b2_1,bv b2_2,AV.ls b2_3,bv b2_4,AV.ls b2_5]] fun r1 o1=>
 tailK 1 [0] (AH.mk [(0,bk [iv b2_0,AV.ls b2_1,bv b2_2,AV.ls b2_3,bv b2_4,AV.ls b2_5])] 1 none) [0] r1 o1))
 (some ((AV.tup [iv 3],[BO.del]))):=by kernel_rfl
end Go.Proofs.YtpncilciembjdaaGreatDoor
namespace Go.Proofs.YtpncilciembjdaaGreatDoor
open Go.RowKit
def hs111:Hints:=[]
noncomputable def mf111:MFn:=mfD Tryz.prog entsC hs111 false false 111
def hn111:Hnt:=⟨[],[],[(4,[.int .i64]),(8,[.int .i64]),(12,[.ls]),(14,[.int .i64]),(18,[.ls]),(23,[.ls])]⟩
variable (A:Ar) (D:Orc)
theorem e111(x0_0:Int)(x0_1:Rw)(x0_2:Bool)(x0_3:Rw)(x0_4:Bool)(x0_5:Rw):fnK A D ownC hn111 .n 111 mf111 [AV.agg [iv x0_0,AV.ls x0_1,bv x0_2,AV.ls x0_3,bv x0_4,AV.ls x0_5]] [] =
 br (A.eq x0_0 4)
 (some ((AV.ls x0_5,[])))
 (br (A.eq x0_0 5)
 (some ((AV.ls x0_5,[])))
 (br (A.eq x0_0 3)
 (br (A.lt 0 ↑(lenR x0_5))
 (br (inB 0 1 (lenR x0_5)) (br (wideR 6 x0_5) (some ((AV.ls (dropR (takeR x0_5 1) 0),[]))) none) none)
 (some ((AV.ls [],[]))))
 (some ((AV.ls [],[]))))):=by kernel_rfl

end Go.Proofs.YtpncilciembjdaaGreatDoor
namespace Go.Proofs.YtpncilciembjdaaGreatDoor
open Go.RowKit

noncomputable def tabRk:List (Nat × MFn):=[(111,mf111)]
end Go.Proofs.YtpncilciembjdaaGreatDoor
namespace Go.Proofs.YtpncilciembjdaaGreatDoor
open Go.RowKit
def hs99:Hints:=[⟨32,[false,true,false,false,false,true,true,true],[],[],[(1,([false,false,false,false,false,true],([],[])))]⟩]
noncomputable def mf99:MFn:=mfD Tryz.prog entsC hs99 false false 99
def hn99:Hnt:=⟨[(99,(.int .i64,[])),(111,(.ls,[]))],[(0,[(1,([.int .i64],[]))])],[(8,[.int .i64,.ls,.bool,.ls,.bool,.ls]),(24,[.int .i64,.ls,.bool,.ls,.bool,.ls]),(25,[.int .i64,.ls,.bool,.ls,.bool,.ls])]⟩
def hs100:Hints:=[⟨33,[false,true,false,false,false,true,true],[],[],[(0,([false,false,false,false,true],([],[]))),(1,([],([],[])))]⟩]
noncomputable def mf100:MFn:=mfD Tryz.prog entsC hs100 false false 100
def hn100:Hnt:=⟨[(16,(.bool,[])),(100,(.bool,[])),(111,(.ls,[]))],[(0,[(0,([.bool],[])),(1,([],[]))])],[(8,[.int .i64]),(12,[.ls,.bool,.ls,.bool]),(18,[.int .i64,.ls,.bool,.ls,.bool,.ls]),(28,[.int .i64,.ls,.bool,.ls,.bool,.ls]),(29,[.int .i64,.ls,.bool,.ls,.bool,.ls])]⟩
def hs35:Hints:=[]
noncomputable def mf35:MFn:=mfD Tryz.prog entsC hs35 false false 35
def hn35:Hnt:=⟨[(99,(.int .i64,[])),(100,(.bool,[]))],[],[(7,[.int .i64,.ls,.bool,.ls,.bool,.ls]),(12,[.int .i64,.ls,.bool,.ls,.bool,.ls])]⟩
noncomputable def tabFz:List (Nat × MFn):=[(99,mf99),(100,mf100),(35,mf35)]
variable (A:Ar) (D:Orc)
theorem e99(x0_0:Int)(x0_1:Rw)(x0_2:Bool)(x0_3:Rw)(x0_4:Bool)(x0_5:Rw)(x1:Int):fnK A D ownC hn99 .n 99 mf99 [AV.agg [iv x0_0,AV.ls x0_1,bv x0_2,AV.ls x0_3,bv x0_4,AV.ls x0_5],iv x1] [] =
 askD D (Key.fn 111) [AV.agg [iv x0_0,AV.ls x0_1,bv x0_2,AV.ls x0_3,bv x0_4,AV.ls x0_5]] [] [.l,.E] fun xs=>
 askD D (Key.lp 99 0) [iv x1,iv 1,AV.ls xs,iv 0] [] [.t,.C,.x,.X,.Y] fun c l o1=>
 br (axIs 1 c)
 (dk [.I,.N,.E] [.l l,.o o1] fun n=>
 some ((iv n,[])))
 (none):=by kernel_rfl

theorem e99_0(t1 t5:Int)(t6:Rw)(t7:Int):lpK A D ownC hn99 .n 99 0 (lpAt mf99 0).fst (lpAt mf99 0).snd [iv t1,iv t5,AV.ls t6,iv t7] [] =
 br (A.lt t7 ↑(lenR t6))
 (br (A.le t5 t1)
 (unI t7 fun i=>
 nthK t6 i fun cs=>
 dk [.I,.L,.B,.L,.B,.L,.N] [.l cs] fun n xs b xs1 b1 xs2=>
 askD D (Key.fn 99) [AV.agg [iv n,AV.ls xs,bv b,AV.ls xs1,bv b1,AV.ls xs2],iv (A.sub IntKind.i64 t1 t5)] [] [.i,.E] fun n1=>
 askK D (Key.lp 99 0) [iv t1,iv (A.add IntKind.i64 t5 n1),AV.ls t6,iv (A.add IntKind.i64 t7 1)] [] fun r1 o1=>
 tailK 0 [] (AH.mk [] 0 none) [] r1 o1)
 (some ((AV.tup [iv 0,iv t5],[]))))
 (some ((AV.tup [iv 0,iv t5],[]))):=by kernel_rfl

theorem e100(x0_0:Int)(x0_1:Rw)(x0_2:Bool)(x0_3:Rw)(x0_4:Bool)(x0_5:Rw)(x1:Int):fnK A D ownC hn100 .n 100 mf100 [AV.agg [iv x0_0,AV.ls x0_1,bv x0_2,AV.ls x0_3,bv x0_4,AV.ls x0_5],iv x1] [] =
 br (A.eq x0_0 2)
 (askD D (Key.fn 16) [AV.ls [[AV.ls x0_1,bv x0_2,AV.ls x0_3,bv x0_4]],iv 1,iv x1] [] [.b,.E] fun b=>
 br b
 (askD D (Key.fn 111) [AV.agg [iv x0_0,AV.ls x0_1,bv x0_2,AV.ls x0_3,bv x0_4,AV.ls x0_5]] [] [.l,.E] fun xs=>
 askD D (Key.lp 100 0) [iv x1,AV.ls xs,iv 0] [] [.t,.C,.x,.X,.Y] fun c l o2=>
 br (axIs 0 c)
 (dk [.B,.N,.E] [.l l,.o o2] fun b1=>
 some ((bv b1,[])))
 (br (axIs 1 c)
 (unNil l<|
 unEnd o2<|
 some ((bv true,[])))
 (none)))
 (some ((bv false,[]))))
 (askD D (Key.fn 111) [AV.agg [iv x0_0,AV.ls x0_1,bv x0_2,AV.ls x0_3,bv x0_4,AV.ls x0_5]] [] [.l,.E] fun xs=>
 askD D (Key.lp 100 0) [iv x1,AV.ls xs,iv 0] [] [.t,.C,.x,.X,.Y] fun c l o1=>
 br (axIs 0 c)
 (dk [.B,.N,.E] [.l l,.o o1] fun b=>
 some ((bv b,[])))
 (br (axIs 1 c)
 (unNil l<|
 unEnd o1<|
 some ((bv true,[])))
 (none))):=by kernel_rfl

theorem e100_0(t1:Int)(t5:Rw)(t6:Int):lpK A D ownC hn100 .n 100 0 (lpAt mf100 0).fst (lpAt mf100 0).snd [iv t1,AV.ls t5,iv t6] [] =
 br (A.lt t6 ↑(lenR t5))
 (unI t6 fun i=>
 nthK t5 i fun cs=>
 dk [.I,.L,.B,.L,.B,.L,.N] [.l cs] fun n xs b xs1 b1 xs2=>
 askD D (Key.fn 100) [AV.agg [iv n,AV.ls xs,bv b,AV.ls xs1,bv b1,AV.ls xs2],iv t1] [] [.b,.E] fun b2=>
 br b2
 (askK D (Key.lp 100 0) [iv t1,AV.ls t5,iv (A.add IntKind.i64 t6 1)] [] fun r1 o1=>
 tailK 0 [] (AH.mk [] 0 none) [] r1 o1)
 (some ((AV.tup [bv true,bv false],[]))))
 (some ((AV.tup [iv 0],[]))):=by kernel_rfl

theorem e35(x0_0:Int)(x0_1:Rw)(x0_2:Bool)(x0_3:Rw)(x0_4:Bool)(x0_5:Rw)(x1 x2:Int):fnK A D ownC hn35 .n 35 mf35 [AV.agg [iv x0_0,AV.ls x0_1,bv x0_2,AV.ls x0_3,bv x0_4,AV.ls x0_5],iv x1,iv x2] [] =
 askD D (Key.fn 99) [AV.agg [iv x0_0,AV.ls x0_1,bv x0_2,AV.ls x0_3,bv x0_4,AV.ls x0_5],iv x1] [] [.i,.E] fun n=>
 br (A.lt x1 n)
 (some ((bv false,[])))
 (askD D (Key.fn 100) [AV.agg [iv x0_0,AV.ls x0_1,bv x0_2,AV.ls x0_3,bv x0_4,AV.ls x0_5],iv x2] [] [.b,.E] fun b=>
 br b
 (some ((bv true,[])))
 (some ((bv false,[])))):=by kernel_rfl
end Go.Proofs.YtpncilciembjdaaGreatDoor
namespace Go.Proofs.YtpncilciembjdaaGreatDoor
open Go.RowKit
def hs101:Hints:=[]
noncomputable def mf101:MFn:=mfD Tryz.prog entsC hs101 false false 101
def hn101:Hnt:=⟨[(36,(.bool,[]))],[],[(4,[.int .i64,.ls,.bool,.ls,.bool,.ls]),(5,[.ls])]⟩
def hs103:Hints:=[]
noncomputable def mf103:MFn:=mfD Tryz.prog entsC hs103 false false 103
def hn103:Hnt:=⟨[(101,(.bool,[.keep]))],[],[(4,[.any]),(5,[.int .i64,.ls,.bool,.ls,.bool,.ls])]⟩
def hs171:Hints:=[⟨19,[true,true,false,false,false,false,false,true,true],[],[],[(0,([false,false,false,false,true],([],[]))),(1,([],([],[])))]⟩]
noncomputable def mf171:MFn:=mfD Tryz.prog entsC hs171 false false 171
def hn171a:Hnt:=⟨[(101,(.bool,[.keep]))],[(0,[(0,([.int .i64],[.keep])),(1,([],[.keep]))])],[(14,[.int .i64,.ls,.bool,.ls,.bool,.ls]),(15,[.int .i64,.ls,.bool,.ls,.bool,.ls])]⟩
def hn171b:Hnt:=⟨[(103,(.bool,[.keep,.keep]))],[(0,[(0,([.int .i64],[.keep,.keep])),(1,([],[.keep,.keep]))])],[(14,[.int .i64,.ls,.bool,.ls,.bool,.ls]),(15,[.int .i64,.ls,.bool,.ls,.bool,.ls])]⟩
def hs102:Hints:=[]
noncomputable def mf102:MFn:=mfD Tryz.prog entsC hs102 false false 102
def hn102a:Hnt:=⟨[(171,(.int .i64,[.keep]))],[],[]⟩
def hn102b:Hnt:=⟨[(171,(.int .i64,[.keep,.keep]))],[],[]⟩
def hs36:Hints:=[]
noncomputable def mf36:MFn:=mfD Tryz.prog entsC hs36 false false 36
def hn36a:Hnt:=⟨[(30,(.bool,[])),(101,(.bool,[.keep])),(102,(.bool,[.keep]))],[],[(8,[.int .i64]),(14,[.ls,.bool,.ls,.bool]),(15,[.ls]),(20,[.ls]),(24,[.any]),(26,[.ls]),(27,[.int .i64,.ls,.bool,.ls,.bool,.ls]),(28,[.int .i64,.ls,.bool,.ls,.bool,.ls]),(35,[.ls]),(42,[.ls]),(43,[.any])]⟩
def hn36b:Hnt:=⟨[(30,(.bool,[])),(101,(.bool,[.keep])),(102,(.bool,[.keep,.keep]))],[],[(8,[.int .i64]),(14,[.ls,.bool,.ls,.bool]),(15,[.ls]),(20,[.ls]),(24,[.any]),(26,[.ls]),(27,[.int .i64,.ls,.bool,.ls,.bool,.ls]),(28,[.int .i64,.ls,.bool,.ls,.bool,.ls]),(35,[.ls]),(42,[.ls]),(43,[.any])]⟩
noncomputable def tabLw:List (Nat × MFn):=[(101,mf101),(103,mf103),(171,mf171),(102,mf102),(36,mf36)]
variable (A:Ar) (D:Orc)
theorem e101(x0:Int)(x1:Rw)(x2:Bool)(x3:Rw)(x4:Bool)(x5 c0:Rw):fnK A D ownC hn101 .n 101 mf101 [AV.agg [iv x0,AV.ls x1,bv x2,AV.ls x3,bv x4,AV.ls x5],AV.ptr 0 0] [bk [AV.ls c0]] =
 askD D (Key.fn 36) [AV.agg [iv x0,AV.ls x1,bv x2,AV.ls x3,bv x4,AV.ls x5],AV.ls c0] [] [.b,.E] fun b=>
 br b
 (some ((bv true,[BO.keep])))
 (some ((bv false,[BO.keep]))):=by kernel_rfl

theorem e103(x0:Int)(x1:Rw)(x2:Bool)(x3:Rw)(x4:Bool)(x5 c0:Rw):fnK A D ownC hn103 .n 103 mf103 [AV.agg [iv x0,AV.ls x1,bv x2,AV.ls x3,bv x4,AV.ls x5],AV.ptr 0 0] [bk [AV.fn (Fn.func 101) [] [AV.ptr 1 0]],bk [AV.ls c0]] =
 askD D (Key.fn 101) [AV.agg [iv x0,AV.ls x1,bv x2,AV.ls x3,bv x4,AV.ls x5],AV.ptr 0 0] [bk [AV.ls c0]] [.b,.K,.E] fun b=>
 br b
 (some ((bv false,[BO.keep,BO.keep])))
 (some ((bv true,[BO.keep,BO.keep]))):=by kernel_rfl

theorem e171a(x0 c0:Rw):fnK A D ownC hn171a .n 171 mf171 [AV.ls x0,AV.fn (Fn.func 101) [] [AV.ptr 0 0]] [bk [AV.ls c0]] =
 askD D (Key.lp 171 0) [AV.ls x0,AV.fn (Fn.func 101) [] [AV.ptr 0 0],iv ↑(lenR x0),iv 0] [bk [AV.ls c0]] [.t,.C,.x,.X,.Y] fun c l o=>
 br (axIs 0 c)
 (dk [.I,.N,.K,.E] [.l l,.o o] fun n=>
 some ((iv n,[BO.keep])))
 (br (axIs 1 c)
 (dk [.N,.K,.E,.w] [.l l,.o o] fun _=>
 some ((iv (-1),[BO.keep])))
 (none)):=by kernel_rfl

theorem e171a_0(x0 c0:Rw)(t7 t8:Int):lpK A D ownC hn171a .n 171 0 (lpAt mf171 0).fst (lpAt mf171 0).snd [AV.ls x0,AV.fn (Fn.func 101) [] [AV.ptr 0 0],iv t7,iv t8] [bk [AV.ls c0]] =
 br (A.lt t8 t7)
 (unI t8 fun i=>
 nthK x0 i fun cs=>
 dk [.I,.L,.B,.L,.B,.L,.N] [.l cs] fun n xs b xs1 b1 xs2=>
 askD D (Key.fn 101) [AV.agg [iv n,AV.ls xs,bv b,AV.ls xs1,bv b1,AV.ls xs2],AV.ptr 0 0] [bk [AV.ls c0]] [.b,.K,.E] fun b2=>
 br b2
 (some ((AV.tup [bv true,iv t8],[BO.keep])))
 (askK D (Key.lp 171 0) [AV.ls x0,AV.fn (Fn.func 101) [] [AV.ptr 0 0],iv t7,iv (A.add IntKind.i64 t8 1)] [bk [AV.ls c0]] fun r1 o1=>
 tailK 1 [0] (AH.mk [(0,bk [AV.ls c0])] 1 none) [] r1 o1))
 (some ((AV.tup [iv 0],[BO.keep]))):=by kernel_rfl

theorem e171b(x0 c0:Rw):fnK A D ownC hn171b .n 171 mf171 [AV.ls x0,AV.fn (Fn.func 103) [] [AV.ptr 0 0]] [bk [AV.fn (Fn.func 101) [] [AV.ptr 1 0]],bk [AV.ls c0]] =
 askD D (Key.lp 171 0) [AV.ls x0,AV.fn (Fn.func 103) [] [AV.ptr 0 0],iv ↑(lenR x0),iv 0] [bk [AV.fn (Fn.func 101) [] [AV.ptr 1 0]],bk [AV.ls c0]] [.t,.C,.x,.X,.Y] fun c l o=>
 br (axIs 0 c)
 (dk [.I,.N,.K,.K,.E] [.l l,.o o] fun n=>
 some ((iv n,[BO.keep,BO.keep])))
 (br (axIs 1 c)
 (dk [.N,.K,.K,.E,.w] [.l l,.o o] fun _=>
 some ((iv (-1),[BO.keep,BO.keep])))
 (none)):=by kernel_rfl

theorem e171b_0(x0 c0:Rw)(t7 t8:Int):lpK A D ownC hn171b .n 171 0 (lpAt mf171 0).fst (lpAt mf171 0).snd [AV.ls x0,AV.fn (Fn.func 103) [] [AV.ptr 0 0],iv t7,iv t8] [bk [AV.fn (Fn.func 101) [] [AV.ptr 1 0]],bk [AV.ls c0]] =
 br (A.lt t8 t7)
 (unI t8 fun i=>
 nthK x0 i fun cs=>
 dk [.I,.L,.B,.L,.B,.L,.N] [.l cs] fun n xs b xs1 b1 xs2=>
 askD D (Key.fn 103) [AV.agg [iv n,AV.ls xs,bv b,AV.ls xs1,bv b1,AV.ls xs2],AV.ptr 0 0] [bk [AV.fn (Fn.func 101) [] [AV.ptr 1 0]],bk [AV.ls c0]] [.b,.K,.K,.E] fun b2=>
 br b2
 (some ((AV.tup [bv true,iv t8],[BO.keep,BO.keep])))
 (askK D (Key.lp 171 0) [AV.ls x0,AV.fn (Fn.func 103) [] [AV.ptr 0 0],iv t7,iv (A.add IntKind.i64 t8 1)] [bk [AV.fn (Fn.func 101) [] [AV.ptr 1 0]],bk [AV.ls c0]] fun r1 o1=>
 tailK 2 [0,1] (AH.mk [(0,bk [AV.fn (Fn.func 101) [] [AV.ptr 1 0]]),(1,bk [AV.ls c0])] 2 none) [] r1 o1))
 (some ((AV.tup [iv 0],[BO.keep,BO.keep]))):=by kernel_rfl

theorem e102a(x0 c0:Rw):fnK A D ownC hn102a .n 102 mf102 [AV.ls x0,AV.fn (Fn.func 101) [] [AV.ptr 0 0]] [bk [AV.ls c0]] =
 askD D (Key.fn 171) [AV.ls x0,AV.fn (Fn.func 101) [] [AV.ptr 0 0]] [bk [AV.ls c0]] [.i,.K,.E] fun n=>
 br (A.le 0 n)
 (some ((bv true,[BO.keep])))
 (some ((bv false,[BO.keep]))):=by kernel_rfl

theorem e102b(x0 c0:Rw):fnK A D ownC hn102b .n 102 mf102 [AV.ls x0,AV.fn (Fn.func 103) [] [AV.ptr 0 0]] [bk [AV.fn (Fn.func 101) [] [AV.ptr 1 0]],bk [AV.ls c0]] =
 askD D (Key.fn 171) [AV.ls x0,AV.fn (Fn.func 103) [] [AV.ptr 0 0]] [bk [AV.fn (Fn.func 101) [] [AV.ptr 1 0]],bk [AV.ls c0]] [.i,.K,.K,.E] fun n=>
 br (A.le 0 n)
 (some ((bv true,[BO.keep,BO.keep])))
 (some ((bv false,[BO.keep,BO.keep]))):=by kernel_rfl

theorem e36a(x0_0:Int)(x0_1:Rw)(x0_2:Bool)(x0_3:Rw)(x0_4:Bool)(x0_5 x1:Rw):fnK A D ownC hn36a .n 36 mf36 [AV.agg [iv x0_0,AV.ls x0_1,bv x0_2,AV.ls x0_3,bv x0_4,AV.ls x0_5],AV.ls x1] [] =
 br (A.eq x0_0 0)
 (some ((bv true,[])))
 (br (A.eq x0_0 2)
 (askD D (Key.fn 30) [AV.agg [AV.ls x0_1,bv x0_2,AV.ls x0_3,bv x0_4],AV.ls x1] [] [.b,.E] fun b=>
 br b
 (some ((bv true,[])))
 (some ((bv false,[]))))
 (br (A.eq x0_0 3)
 (br (A.lt 0 ↑(lenR x0_5))
 (nthK x0_5 0 fun cs=>
 dk [.I,.L,.B,.L,.B,.L,.N] [.l cs] fun n xs b xs1 b1 xs2=>
 askD D (Key.fn 101) [AV.agg [iv n,AV.ls xs,bv b,AV.ls xs1,bv b1,AV.ls xs2],AV.ptr 0 0] [bk [AV.ls x1]] [.b,.K,.E] fun b2=>
 br b2
 (some ((bv false,[])))
 (some ((bv true,[]))))
 (some ((bv false,[]))))
 (br (A.eq x0_0 4)
 (askD D (Key.fn 102) [AV.ls x0_5,AV.fn (Fn.func 103) [] [AV.ptr 0 0]] [bk [AV.fn (Fn.func 101) [] [AV.ptr 1 0]],bk [AV.ls x1]] [.b,.K,.E] fun _=>
 none)
 (br (A.eq x0_0 5)
 (askD D (Key.fn 102) [AV.ls x0_5,AV.fn (Fn.func 101) [] [AV.ptr 0 0]] [bk [AV.ls x1]] [.b,.K,.E] fun b=>
 br b
 (some ((bv true,[])))
 (some ((bv false,[]))))
 (some ((bv false,[]))))))):=by kernel_rfl

theorem e36b(x0_0:Int)(x0_1:Rw)(x0_2:Bool)(x0_3:Rw)(x0_4:Bool)(x0_5 x1:Rw):fnK A D ownC hn36b .n 36 mf36 [AV.agg [iv x0_0,AV.ls x0_1,bv x0_2,AV.ls x0_3,bv x0_4,AV.ls x0_5],AV.ls x1] [] =
 br (A.eq x0_0 0)
 (some ((bv true,[])))
 (br (A.eq x0_0 2)
 (askD D (Key.fn 30) [AV.agg [AV.ls x0_1,bv x0_2,AV.ls x0_3,bv x0_4],AV.ls x1] [] [.b,.E] fun b=>
 br b
 (some ((bv true,[])))
 (some ((bv false,[]))))
 (br (A.eq x0_0 3)
 (br (A.lt 0 ↑(lenR x0_5))
 (nthK x0_5 0 fun cs=>
 dk [.I,.L,.B,.L,.B,.L,.N] [.l cs] fun n xs b xs1 b1 xs2=>
 askD D (Key.fn 101) [AV.agg [iv n,AV.ls xs,bv b,AV.ls xs1,bv b1,AV.ls xs2],AV.ptr 0 0] [bk [AV.ls x1]] [.b,.K,.E] fun b2=>
 br b2
 (some ((bv false,[])))
 (some ((bv true,[]))))
 (some ((bv false,[]))))
 (br (A.eq x0_0 4)
 (askD D (Key.fn 102) [AV.ls x0_5,AV.fn (Fn.func 103) [] [AV.ptr 0 0]] [bk [AV.fn (Fn.func 101) [] [AV.ptr 1 0]],bk [AV.ls x1]] [.b,.K,.K,.E] fun b=>
 br b
 (some ((bv false,[])))
 (some ((bv true,[]))))
 (br (A.eq x0_0 5)
 (askD D (Key.fn 102) [AV.ls x0_5,AV.fn (Fn.func 101) [] [AV.ptr 0 0]] [bk [AV.ls x1]] [.b,.K,.K,.E] fun _=>
 none)
 (some ((bv false,[]))))))):=by kernel_rfl
end Go.Proofs.YtpncilciembjdaaGreatDoor
namespace Go.Proofs.YtpncilciembjdaaGreatDoor
open Go.RowKit
def hs8:Hints:=[]
noncomputable def mf8:MFn:=mfD Tryz.prog entsC hs8 false false 8
def hn8:Hnt:=⟨[(29,(.bool,[])),(34,(.bool,[])),(35,(.bool,[])),(36,(.bool,[])),(37,(.bool,[]))],[],[(7,[.int .i64,.ls,.bool,.ls,.bool,.ls]),(15,[.int .i64,.ls,.bool,.ls,.bool,.ls]),(18,[.int .i64,.ls,.bool,.ls,.bool,.ls])]⟩
noncomputable def tabL51:List (Nat × MFn):=[(8,mf8)]
variable (A:Ar) (D:Orc)
theorem e8(x0_0:Int)(x0_1:Rw)(x0_2:Bool)(x0_3:Rw)(x0_4:Bool)(x0_5 x1:Rw):fnK A D ownC hn8 .n 8 mf8 [AV.agg [iv x0_0,AV.ls x0_1,bv x0_2,AV.ls x0_3,bv x0_4,AV.ls x0_5],AV.ls x1] [] =
 askD D (Key.fn 34) [] [] [.b,.E] fun b=>
 br b
 (askD D (Key.fn 35) [AV.agg [iv x0_0,AV.ls x0_1,bv x0_2,AV.ls x0_3,bv x0_4,AV.ls x0_5],iv 60,iv 8] [] [.b,.E] fun b1=>
 br b1
 (askD D (Key.fn 29) [AV.ls x1,iv 20,iv 8] [] [.b,.E] fun b2=>
 br b2
 (askD D (Key.fn 36) [AV.agg [iv x0_0,AV.ls x0_1,bv x0_2,AV.ls x0_3,bv x0_4,AV.ls x0_5],AV.ls x1] [] [.b,.E] fun b3=>
 br b3
 (askD D (Key.fn 37) [AV.agg [iv x0_0,AV.ls x0_1,bv x0_2,AV.ls x0_3,bv x0_4,AV.ls x0_5],AV.ls x1] [] [.b,.E] fun b4=>
 br b4
 (br (A.beq true true)
 (some ((bv true,[])))
 (some ((bv false,[]))))
 (br (A.beq true false)
 (some ((bv true,[])))
 (some ((bv false,[])))))
 (askD D (Key.fn 37) [AV.agg [iv x0_0,AV.ls x0_1,bv x0_2,AV.ls x0_3,bv x0_4,AV.ls x0_5],AV.ls x1] [] [.b,.E] fun b4=>
 br b4
 (br (A.beq false true)
 (some ((bv true,[])))
 (some ((bv false,[]))))
 (br (A.beq false false)
 (some ((bv true,[])))
 (some ((bv false,[]))))))
 (some ((bv true,[]))))
 (some ((bv true,[]))))
 (some ((bv false,[]))):=by kernel_rfl
end Go.Proofs.YtpncilciembjdaaGreatDoor
