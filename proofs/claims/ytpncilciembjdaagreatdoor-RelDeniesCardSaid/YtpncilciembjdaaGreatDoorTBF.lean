/-
  Layer 4's saying answers true.
  Functions of the program as trees: what a call comes to.
  Functions of the program as trees: what a call comes to.
  Functions of the program as trees: what a call comes to.
  Functions of the program as trees: what a call comes to.
  Functions of the program as trees: what a call comes to.
  Functions of the program as trees: what a call comes to.
  Functions of the program as trees: what a call comes to.
  Functions of the program as trees: what a call comes to.
  Functions of the program as trees: what a call comes to.
-/
import Derived.Test.YtpncilciembjdaaGreatDoorTBE
import Derived.Test.YtpncilciembjdaaGreatDoorTAS
set_option linter.unusedSectionVars false
set_option linter.unusedSimpArgs false
set_option linter.unusedVariables false
namespace Go.Proofs.YtpncilciembjdaaGreatDoor
open Go.RowKit
abbrev u32(n:Int):List AV:=[.v (.int .u32 n)]
set_option maxRecDepth 1000000
theorem s1:dAw 55 [iv (-6),.ls [[iv 4]]] []=some (.agg [.ls [[iv 0,bv false,.ls [u32 4]]],bv true,.ls [u32 6]],[]):=by kernel_rfl
theorem s2:dAw 28 [.agg [.ls [[iv 0,bv false,.ls [u32 4]]],bv true,.ls [u32 6]]] []=some (.agg [.ls [[iv 0,bv false,.ls [u32 4]]],bv true,.ls [u32 6],bv false],[]):=by kernel_rfl
theorem s3:dAw 17 [.agg [.ls [[iv 0,bv false,.ls [u32 4]]],bv true,.ls [u32 6],bv false]] []=some (.tup [.agg [.ls [[iv 0,bv false,.ls [u32 1]]],bv true,.ls [u32 2],bv false],iv 0],[]):=by kernel_rfl
theorem s4:dAw 27 [.agg [.ls [[iv 0,bv false,.ls [u32 4]]],bv true,.ls [u32 6]]] []=some (.agg [.ls [[iv 0,bv false,.ls [u32 4]]],bv true,.ls [u32 6],bv true],[]):=by kernel_rfl
theorem s5:dAw 17 [.agg [.ls [[iv 0,bv false,.ls [u32 4]]],bv true,.ls [u32 6],bv true]] []=some (.tup [.agg [.ls [],bv false,.ls [],bv false],iv (-1)],[]):=by kernel_rfl
theorem s6:dAw 55 [iv 3,.ls []] []=some (.agg [.ls [],bv false,.ls [u32 3]],[]):=by kernel_rfl
theorem s7:dAw 28 [.agg [.ls [],bv false,.ls [u32 3]]] []=some (.agg [.ls [],bv false,.ls [u32 3],bv false],[]):=by kernel_rfl
theorem s8:dAw 17 [.agg [.ls [],bv false,.ls [u32 3],bv false]] []=some (.tup [.agg [.ls [],bv false,.ls [],bv false],iv 1],[]):=by kernel_rfl
theorem s9:dAw 55 [iv (-2),.ls [[iv 1]]] []=some (.agg [.ls [[iv 0,bv false,.ls [u32 1]]],bv true,.ls [u32 2]],[]):=by kernel_rfl
theorem s10:dAw 21 [.agg [.ls [[iv 0,bv false,.ls [u32 1]]],bv true,.ls [u32 2],bv false],.agg [.ls [[iv 0,bv false,.ls [u32 1]]],bv true,.ls [u32 2],bv false]] []=some (bv true,[]):=by kernel_rfl
theorem s11:dAw 56 [iv 2] []=some (.agg [bv false,.ls [u32 2]],[]):=by kernel_rfl
theorem s12:dAw 30 [.agg [.ls [[iv 0,bv false,.ls [u32 1]]],bv true,.ls [u32 2],bv false],.ls [[bv false,.ls [u32 2]]]] []=some (bv true,[]):=by kernel_rfl
theorem s13:dAw 30 [.agg [.ls [[iv 0,bv false,.ls [u32 1]]],bv true,.ls [u32 2],bv false],.ls []] []=some (bv false,[]):=by kernel_rfl
theorem s14:dAw 26 [.agg [.ls [[iv 0,bv false,.ls [u32 1]]],bv true,.ls [u32 2],bv false],.agg [.ls [[iv 0,bv false,.ls [u32 1]]],bv true,.ls [u32 2],bv false]] []=some (bv true,[]):=by kernel_rfl
theorem s15:dAw 55 [iv 1,.ls []] []=some (.agg [.ls [],bv false,.ls [u32 1]],[]):=by kernel_rfl
theorem s16:dAw 28 [.agg [.ls [],bv false,.ls [u32 1]]] []=some (.agg [.ls [],bv false,.ls [u32 1],bv false],[]):=by kernel_rfl
theorem s17:dAw 55 [iv 2,.ls []] []=some (.agg [.ls [],bv false,.ls [u32 2]],[]):=by kernel_rfl
theorem s18:dAw 28 [.agg [.ls [],bv false,.ls [u32 2]]] []=some (.agg [.ls [],bv false,.ls [u32 2],bv false],[]):=by kernel_rfl
theorem s19:dAw 25 [.agg [.ls [],bv false,.ls [u32 1],bv false],.agg [.ls [],bv false,.ls [u32 2],bv false]] []=some (iv (-1),[]):=by kernel_rfl
theorem s20:dAw 57 [.agg [.ls [[iv 0,bv false,.ls [u32 1]]],bv true,.ls [u32 2],bv false],.ls [[sv (bstr [120])]]] []=some (sv (bstr [120,32,45,32,50,32,62,61,32,48]),[]):=by kernel_rfl
theorem s21:dAw 55 [iv 0,.ls [[iv 1]]] []=some (.agg [.ls [[iv 0,bv false,.ls [u32 1]]],bv false,.ls []],[]):=by kernel_rfl
theorem s22:dAw 27 [.agg [.ls [[iv 0,bv false,.ls [u32 1]]],bv false,.ls []]] []=some (.agg [.ls [[iv 0,bv false,.ls [u32 1]]],bv false,.ls [],bv true],[]):=by kernel_rfl
theorem s23:dAw 23 [.agg [.ls [[iv 0,bv false,.ls [u32 1]]],bv false,.ls [],bv true]] []=some (.ls [[.ls [[iv 0,bv false,.ls [u32 1]]],bv true,.ls [u32 1],bv false],[.ls [[iv 0,bv true,.ls [u32 1]]],bv true,.ls [u32 1],bv false]],[]):=by kernel_rfl
theorem s24:dAw 55 [iv 5,.ls []] []=some (.agg [.ls [],bv false,.ls [u32 5]],[]):=by kernel_rfl
theorem s25:dAw 58 [.agg [.ls [[iv 0,bv false,.ls [u32 1]]],bv true,.ls [u32 2],bv false],iv 0,.agg [.ls [],bv false,.ls [u32 5]]] []=some (.agg [.ls [],bv false,.ls [u32 3],bv false],[]):=by kernel_rfl
theorem s26:dAw 21 [.agg [.ls [],bv false,.ls [u32 3],bv false],.agg [.ls [],bv false,.ls [u32 3],bv false]] []=some (bv true,[]):=by kernel_rfl
theorem s27:dAw 59 [.agg [.ls [[iv 0,bv false,.ls [u32 1]]],bv true,.ls [u32 2],bv false],.ls [[iv 0]],.ls [[.ls [],bv false,.ls [u32 5]]]] []=some (.agg [.ls [],bv false,.ls [u32 3],bv false],[]):=by kernel_rfl
theorem s28:dAw 61 [.agg [.ls [[iv 0,bv false,.ls [u32 1]]],bv true,.ls [u32 2],bv false],iv 2] []=some (.agg [.ls [[iv 2,bv false,.ls [u32 1]]],bv true,.ls [u32 2],bv false],[]):=by kernel_rfl
theorem s29:dAw 60 [.agg [.ls [[iv 2,bv false,.ls [u32 1]]],bv true,.ls [u32 2],bv false]] []=some (.ls [[iv 2]],[]):=by kernel_rfl
theorem say_ok:DSy.ask (.fn 15) [] []=some (bv true,[]):=by
 refine kSySy.fn' hn15 _ rfl ((e15 ..).trans ?_)
 refine(askK_of (xOfSy s1) _).trans ?_
 simp only[ND,DK,unFn_fn]
 refine(askK_of (xLeastSy s2) _).trans ?_
 simp only[ND,DK,unFn_fn]
 refine(askK_of (xTightSy s3) _).trans ?_
 simp only[ND,DK,unFn_fn]
 refine(askK_of (xOfSy s1) _).trans ?_
 simp only[ND,DK,unFn_fn]
 refine(askK_of (xZeroSy s4) _).trans ?_
 simp only[ND,DK,unFn_fn]
 refine(askK_of (xTightSy s5) _).trans ?_
 simp only[ND,DK,unFn_fn]
 refine(askK_of (xOfSy s6) _).trans ?_
 simp only[ND,DK,unFn_fn]
 refine(askK_of (xLeastSy s7) _).trans ?_
 simp only[ND,DK,unFn_fn]
 refine(askK_of (xTightSy s8) _).trans ?_
 simp only[ND,DK,unFn_fn]
 refine(askK_of (xOfSy s9) _).trans ?_
 simp only[ND,DK,unFn_fn]
 refine(askK_of (xRSameSy s10) _).trans ?_
 simp only[ND,DK,unFn_fn]
 refine(br_eqT rfl).trans ?_
 refine(br_eqT rfl).trans ?_
 refine(br_eqT rfl).trans ?_
 refine(askK_of (xROfSy s11) _).trans ?_
 simp only[ND,DK,unFn_fn]
 refine(askK_of (xHoldsSy s12) _).trans ?_
 simp only[ND,DK,unFn_fn]
 refine(askK_of (xHoldsSy s13) _).trans ?_
 simp only[ND,DK,unFn_fn]
 refine(askK_of (xSameSy s14) _).trans ?_
 simp only[ND,DK,unFn_fn]
 refine(askK_of (xOfSy s15) _).trans ?_
 simp only[ND,DK,unFn_fn]
 refine(askK_of (xLeastSy s16) _).trans ?_
 simp only[ND,DK,unFn_fn]
 refine(askK_of (xOfSy s17) _).trans ?_
 simp only[ND,DK,unFn_fn]
 refine(askK_of (xLeastSy s18) _).trans ?_
 simp only[ND,DK,unFn_fn]
 refine(askK_of (xCmpSy s19) _).trans ?_
 simp only[ND,DK,unFn_fn]
 refine(br_eqT rfl).trans ?_
 refine(askK_of (xTextSy s20) _).trans ?_
 simp only[ND,DK,unFn_fn]
 refine(br_seqT rfl).trans ?_
 refine(askK_of (xOfSy s21) _).trans ?_
 simp only[ND,DK,unFn_fn]
 refine(askK_of (xZeroSy s22) _).trans ?_
 simp only[ND,DK,unFn_fn]
 refine(askK_of (xDenySy s23) _).trans ?_
 simp only[ND,DK,unFn_fn]
 refine(br_eqT rfl).trans ?_
 refine(askK_of (xOfSy s24) _).trans ?_
 simp only[ND,DK,unFn_fn]
 refine(askK_of (xPutSy s25) _).trans ?_
 simp only[ND,DK,unFn_fn]
 refine(askK_of (xOfSy s6) _).trans ?_
 simp only[ND,DK,unFn_fn]
 refine(askK_of (xRSameSy s26) _).trans ?_
 simp only[ND,DK,unFn_fn]
 refine(askK_of (xOfSy s24) _).trans ?_
 simp only[ND,DK,unFn_fn]
 refine(askK_of (xPutAllSy s27) _).trans ?_
 simp only[ND,DK,unFn_fn]
 refine(askK_of (xOfSy s6) _).trans ?_
 simp only[ND,DK,unFn_fn]
 refine(askK_of (xRSameSy s26) _).trans ?_
 simp only[ND,DK,unFn_fn]
 refine(askK_of (xMoveSy s28) _).trans ?_
 simp only[ND,DK,unFn_fn]
 refine(askK_of (xVarsSy s29) _).trans ?_
 simp only[ND,DK,unFn_fn]
 refine(br_eqT rfl).trans ?_
 rfl
theorem gSay:GoodD (SemFn Tryz.prog 15) ((Dstar realA seatSy).ask (.fn 15)):=
 star_good (seatSy_ok (gdAw _) (gdAw _) (gdAw _) (gdAw _) (gdAw _) (gdAw _) (gdAw _) (gdAw _) (gdAw _) (gdAw _) (gdAw _) (gdAw _) (gdAw _) (gdAw _) (gdAw _)) _
end Go.Proofs.YtpncilciembjdaaGreatDoor
namespace Go.Proofs.YtpncilciembjdaaGreatDoor
open Go.RowKit
def hs200:Hints:=[⟨21,[true,false,false,true],[],[],[(1,([true,false,false,true],([],[])))]⟩]
noncomputable def mf200:MFn:=mfD Tryz.prog entsC hs200 false false 200
def hn200:Hnt:=⟨[],[(0,[(1,([.ls,.int .i64],[]))])],[(12,[.int .u32]),(13,[.int .u32])]⟩
def hs202:Hints:=[]
noncomputable def mf202:MFn:=mfD Tryz.prog entsC hs202 false false 202
def hn202:Hnt:=⟨[(200,(.ls,[])),(236,(.sl 0 1,[.row true]))],[],[]⟩
def hs184:Hints:=[]
noncomputable def mf184:MFn:=mfD Tryz.prog entsC hs184 false false 184
def hn184:Hnt:=⟨[(202,(.ls,[]))],[],[]⟩
def hs201:Hints:=[⟨49,[true,true,false,false,false,true],[],[],[(0,([false,false,false,false,true],([],[]))),(2,([],([],[])))]⟩]
noncomputable def mf201:MFn:=mfD Tryz.prog entsC hs201 false false 201
def hn201:Hnt:=⟨[(200,(.ls,[]))],[(0,[(0,([.int .i64],[])),(2,([],[]))])],[(32,[.int .u32]),(33,[.int .u32]),(36,[.int .u32]),(37,[.int .u32]),(42,[.int .u32]),(43,[.int .u32]),(46,[.int .u32]),(47,[.int .u32])]⟩
def hs197:Hints:=[⟨61,[false,true,false,false,false,true,true,false,false,false,false,false,false,false,false,false,false,false,false,false,false,false,false,false,false,true,true,true],[(5,1)],[],[(1,([false,false,false,false,false,true,true],([],[])))]⟩]
noncomputable def mf197:MFn:=mfD Tryz.prog entsC hs197 false false 197
def hn197:Hnt:=⟨[(200,(.ls,[])),(202,(.ls,[]))],[(0,[(1,([.sl 1 1,.int .u64],[.del,.row true]))])],[(30,[.int .u32]),(31,[.int .u32]),(43,[.int .u32]),(44,[.int .u32])]⟩
def hs198:Hints:=[⟨59,[false,true,false,false,false,false,true,true,false,false,false,false,false,false,false,false,false,false,false,false,false,false,false,true,true,true],[(6,1)],[],[(1,([false,false,false,false,false,false,true],([],[])))]⟩]
noncomputable def mf198:MFn:=mfD Tryz.prog entsC hs198 false false 198
def hn198:Hnt:=⟨[(200,(.ls,[])),(201,(.int .i64,[])),(202,(.ls,[]))],[(0,[(1,([.sl 1 1],[.del,.row true]))])],[(28,[.int .u32]),(29,[.int .u32]),(38,[.int .u32]),(39,[.int .u32])]⟩
def hs243:Hints:=[⟨68,[false,true,false,false,false,true,false,false,false,false,false,false,false,false,false,false,false,false,true,true,true],[],[],[(1,([false,false,false,false,false,true],([],[])))]⟩,⟨68,[false,true,false,false,false,true,true,true,true,false,false,false,false,false,false,false,false,false,true,true,true,false,false,false,false,true,true,true],[],[],[(3,([false,true,false,false,false,true,true,false,true,false,false,false,false,false,false,false,false,false,true,true,true],([],[])))]⟩]
noncomputable def mf243:MFn:=mfD Tryz.prog entsC hs243 false false 243
def hn243:Hnt:=⟨[(202,(.ls,[]))],[(0,[(1,([.sl 1 1],[.del,.row true]))]),(1,[(3,([.ls,.sl 1 1,.int .i64,.int .u64,.ls,.int .i64,.int .i64],[.del,.row true]))])],[(23,[.int .u32]),(24,[.int .u32]),(30,[.int .u32]),(31,[.int .u32]),(41,[.int .u32]),(42,[.int .u32]),(53,[.int .u32]),(64,[.int .u32])]⟩
def hs212:Hints:=[]
noncomputable def mf212:MFn:=mfD Tryz.prog entsC hs212 false false 212
def hn212:Hnt:=⟨[(200,(.ls,[])),(243,(.ls,[])),(244,(.ls,[]))],[],[]⟩
noncomputable def tabNa:List (Nat × MFn):=[(200,mf200),(202,mf202),(184,mf184),(201,mf201),(197,mf197),(198,mf198),(243,mf243),(212,mf212)]
variable (A:Ar) (D:Orc)
theorem e200(x0:Rw):fnK A D ownC hn200 .n 200 mf200 [AV.ls x0] [] =
 askD D (Key.lp 200 0) [AV.ls x0,iv ↑(lenR x0)] [] [.t,.C,.x,.X,.Y] fun c l o=>
 br (axIs 1 c)
 (dk [.L,.I,.N,.E] [.l l,.o o] fun xs n=>
 unI n fun i=>
 br (inB 0 i (lenR xs)) (br (wideR 1 xs) (some ((AV.ls (dropR (takeR xs i) 0),[]))) none) none)
 (none):=by kernel_rfl

theorem e200_0(t0:Rw)(t3:Int):lpK A D ownC hn200 .n 200 0 (lpAt mf200 0).fst (lpAt mf200 0).snd [AV.ls t0,iv t3] [] =
 br (A.lt 0 t3)
 (unI (A.sub IntKind.i64 t3 1) fun i=>
 nthK t0 i fun cs=>
 dk [.J .u32,.N] [.l cs] fun n=>
 br (A.eq n 0)
 (askK D (Key.lp 200 0) [AV.ls t0,iv (A.sub IntKind.i64 t3 1)] [] fun r o=>
 tailK 0 [] (AH.mk [] 0 none) [] r o)
 (some ((AV.tup [iv 0,AV.ls t0,iv t3],[]))))
 (some ((AV.tup [iv 0,AV.ls t0,iv t3],[]))):=by kernel_rfl

theorem e202(x0:Rw):fnK A D ownC hn202 .n 202 mf202 [AV.ls x0] [] =
 askD D (Key.fn 200) [AV.ls x0] [] [.l,.E] fun xs=>
 askD D (Key.fn 236) [AV.ls xs] [] [.q 0 1,.R,.X,.E] fun n cs=>
 br ((0+n*1).ble cs.length) (some ((AV.ls (chunk n 1 (List.take (n*1) cs)),[]))) none:=by kernel_rfl

theorem e184(x0:Int):fnK A D ownC hn184 .n 184 mf184 [AV.v (Value.int IntKind.u64 x0)] [] =
 br (A.lt 32 0)
 (none)
 (askD D (Key.fn 202) [AV.ls [[AV.v (Value.int IntKind.u32 (A.conv IntKind.u32 x0))],[AV.v (Value.int IntKind.u32 (A.conv IntKind.u32 (A.shr IntKind.u64 x0 32)))]]] [] [.l,.E] fun xs=>
 some ((AV.ls xs,[]))):=by kernel_rfl

theorem e201(x0 x1:Rw):fnK A D ownC hn201 .n 201 mf201 [AV.ls x0,AV.ls x1] [] =
 askD D (Key.fn 200) [AV.ls x0] [] [.l,.E] fun xs=>
 askD D (Key.fn 200) [AV.ls x1] [] [.l,.E] fun xs1=>
 br (A.lt ↑(lenR xs) ↑(lenR xs1))
 (some ((iv (-1),[])))
 (br (A.lt ↑(lenR xs1) ↑(lenR xs))
 (some ((iv 1,[])))
 (askD D (Key.lp 201 0) [AV.ls xs,AV.ls xs1,iv (A.sub IntKind.i64 (↑(lenR xs)) 1)] [] [.t,.C,.x,.X,.Y] fun c l o2=>
 br (axIs 0 c)
 (dk [.I,.N,.E] [.l l,.o o2] fun n=>
 some ((iv n,[])))
 (br (axIs 2 c)
 (unNil l<|
 unEnd o2<|
 some ((iv 0,[])))
 (none)))):=by kernel_rfl

theorem e201_0(t0 t1:Rw)(t5:Int):lpK A D ownC hn201 .n 201 0 (lpAt mf201 0).fst (lpAt mf201 0).snd [AV.ls t0,AV.ls t1,iv t5] [] =
 br (A.le 0 t5)
 (unI t5 fun i=>
 nthK t0 i fun cs=>
 dk [.J .u32,.N] [.l cs] fun n=>
 unI t5 fun i1=>
 nthK t1 i1 fun cs1=>
 dk [.J .u32,.N] [.l cs1] fun n1=>
 br (A.lt n n1)
 (some ((AV.tup [bv true,iv (-1)],[])))
 (unI t5 fun i2=>
 nthK t0 i2 fun cs2=>
 dk [.J .u32,.N] [.l cs2] fun n2=>
 unI t5 fun i3=>
 nthK t1 i3 fun cs3=>
 dk [.J .u32,.N] [.l cs3] fun n3=>
 br (A.lt n3 n2)
 (some ((AV.tup [bv true,iv 1],[])))
 (askK D (Key.lp 201 0) [AV.ls t0,AV.ls t1,iv (A.sub IntKind.i64 t5 1)] [] fun r o=>
 tailK 0 [] (AH.mk [] 0 none) [] r o)))
 (some ((AV.tup [iv 1],[]))):=by kernel_rfl

theorem e197(x0 x1:Rw):fnK A D ownC hn197 .n 197 mf197 [AV.ls x0,AV.ls x1] [] =
 askD D (Key.fn 200) [AV.ls x0] [] [.l,.E] fun xs=>
 askD D (Key.fn 200) [AV.ls x1] [] [.l,.E] fun xs1=>
 br (A.lt ↑(lenR xs) ↑(lenR xs1))
 (unI (A.add IntKind.i64 (↑(lenR xs1)) 1) fun i=>
 br (fitsB i 4) (askK D (Key.lp 197 0) [AV.ls xs,AV.sl 0 0 0 1,AV.v (Value.int IntKind.u64 0),AV.ls xs1,iv ↑(lenR xs1),iv 0] [ABlk.mk [] true true] fun r2 o2=>
 dk [.t,.C,.x,.X] [.v r2] fun c l=>
 br (axIs 1 c)
 (dk [.C,.q 1 1,.J .u64,.N,.D,.R,.X,.E] [.l l,.o o2] fun n n1 cs1=>
 br (fitsB (n+1) 4) (br ((0+n*1).ble cs1.length) (br ((0+(n+1)*1).ble (List.drop 0 (List.take (0+n*1) cs1)++[AV.v (Value.int IntKind.u32 (A.conv IntKind.u32 n1))]).length) (askK D (Key.fn 202) [AV.ls (chunk (n+1) 1 (List.take ((n+1)*1) (List.drop 0 (List.drop 0 (List.take (0+n*1) cs1)++[AV.v (Value.int IntKind.u32 (A.conv IntKind.u32 n1))]))))] [] fun r3 o3=>
 dk [.l,.E] [.v r3,.o o3] fun xs2=>
 some ((AV.ls xs2,[]))) none) none) none)
 (none)) none)
 (unI (A.add IntKind.i64 (↑(lenR xs)) 1) fun i=>
 br (fitsB i 4) (askK D (Key.lp 197 0) [AV.ls xs1,AV.sl 0 0 0 1,AV.v (Value.int IntKind.u64 0),AV.ls xs,iv ↑(lenR xs),iv 0] [ABlk.mk [] true true] fun r2 o2=>
 dk [.t,.C,.x,.X] [.v r2] fun c l=>
 br (axIs 1 c)
 (dk [.C,.q 1 1,.J .u64,.N,.D,.R,.X,.E] [.l l,.o o2] fun n n1 cs1=>
 br (fitsB (n+1) 4) (br ((0+n*1).ble cs1.length) (br ((0+(n+1)*1).ble (List.drop 0 (List.take (0+n*1) cs1)++[AV.v (Value.int IntKind.u32 (A.conv IntKind.u32 n1))]).length) (askK D (Key.fn 202) [AV.ls (chunk (n+1) 1 (List.take ((n+1)*1) (List.drop 0 (List.drop 0 (List.take (0+n*1) cs1)++[AV.v (Value.int IntKind.u32 (A.conv IntKind.u32 n1))]))))] [] fun r3 o3=>
 dk [.l,.E] [.v r3,.o o3] fun xs2=>
 some ((AV.ls xs2,[]))) none) none) none)
 (none)) none):=by kernel_rfl

theorem e197_0(t1:Rw)(n5:Nat)(c5:List AV)(t6:Int)(t25:Rw)(t26 t27:Int):lpK A D ownC hn197 .n 197 0 (lpAt mf197 0).fst (lpAt mf197 0).snd [AV.ls t1,AV.sl 0 0 n5 1,AV.v (Value.int IntKind.u64 t6),AV.ls t25,iv t26,iv t27] [{ cells:=c5,st:=true,ex:=true }] =
 br (A.lt t27 t26)
 (unI t27 fun i=>
 nthK t25 i fun cs=>
 dk [.J .u32,.N] [.l cs] fun n=>
 br (A.lt t27 ↑(lenR t1))
 (unI t27 fun i1=>
 nthK t1 i1 fun cs1=>
 dk [.J .u32,.N] [.l cs1] fun n1=>
 br (fitsB (n5+1) 4) (br ((0+n5*1).ble c5.length) (br (A.lt 32 0)
 (none)
 (askK D (Key.lp 197 0) [AV.ls t1,AV.sl 0 0 (n5+1) 1,AV.v (Value.int IntKind.u64 (A.shr IntKind.u64 (A.add IntKind.u64 (A.add IntKind.u64 (A.conv IntKind.u64 n) t6) (A.conv IntKind.u64 n1)) 32)),AV.ls t25,iv t26,iv (A.add IntKind.i64 t27 1)] [ABlk.mk (List.drop 0 (List.take (0+n5*1) c5)++[AV.v (Value.int IntKind.u32 (A.conv IntKind.u32 (A.add IntKind.u64 (A.add IntKind.u64 (A.conv IntKind.u64 n) t6) (A.conv IntKind.u64 n1))))]) true true] fun r o=>
 tailK 1 [2] (AH.mk [(2,ABlk.mk (List.drop 0 (List.take (0+n5*1) c5)++[AV.v (Value.int IntKind.u32 (A.conv IntKind.u32 (A.add IntKind.u64 (A.add IntKind.u64 (A.conv IntKind.u64 n) t6) (A.conv IntKind.u64 n1))))]) true true),(1,ABlk.mk [AV.v (Value.int IntKind.u32 (A.conv IntKind.u32 (A.add IntKind.u64 (A.add IntKind.u64 (A.conv IntKind.u64 n) t6) (A.conv IntKind.u64 n1))))] true true)] 3 none) [0] r o)) none) none)
 (br (fitsB (n5+1) 4) (br ((0+n5*1).ble c5.length) (br (A.lt 32 0)
 (none)
 (askK D (Key.lp 197 0) [AV.ls t1,AV.sl 0 0 (n5+1) 1,AV.v (Value.int IntKind.u64 (A.shr IntKind.u64 (A.add IntKind.u64 (A.conv IntKind.u64 n) t6) 32)),AV.ls t25,iv t26,iv (A.add IntKind.i64 t27 1)] [ABlk.mk (List.drop 0 (List.take (0+n5*1) c5)++[AV.v (Value.int IntKind.u32 (A.conv IntKind.u32 (A.add IntKind.u64 (A.conv IntKind.u64 n) t6)))]) true true] fun r o=>
 tailK 1 [2] (AH.mk [(2,ABlk.mk (List.drop 0 (List.take (0+n5*1) c5)++[AV.v (Value.int IntKind.u32 (A.conv IntKind.u32 (A.add IntKind.u64 (A.conv IntKind.u64 n) t6)))]) true true),(1,ABlk.mk [AV.v (Value.int IntKind.u32 (A.conv IntKind.u32 (A.add IntKind.u64 (A.conv IntKind.u64 n) t6)))] true true)] 3 none) [0] r o)) none) none))
 (some ((AV.tup [iv 0,AV.sl 1 0 n5 1,AV.v (Value.int IntKind.u64 t6)],[BO.del,BO.set (ABlk.mk c5 true true)]))):=by kernel_rfl

theorem e198(x0 x1:Rw):fnK A D ownC hn198 .n 198 mf198 [AV.ls x0,AV.ls x1] [] =
 askD D (Key.fn 200) [AV.ls x0] [] [.l,.E] fun xs=>
 askD D (Key.fn 200) [AV.ls x1] [] [.l,.E] fun xs1=>
 askD D (Key.fn 201) [AV.ls xs,AV.ls xs1] [] [.i,.E] fun n=>
 br (A.lt n 0)
 (some ((AV.tup [AV.ls [],bv false],[])))
 (br (fitsB (lenR xs) 4) (askK D (Key.lp 198 0) [AV.ls xs1,AV.sl 0 0 0 1,AV.v (Value.int IntKind.u64 0),AV.ls xs,iv ↑(lenR xs),iv 0] [ABlk.mk [] true true] fun r3 o3=>
 dk [.t,.C,.x,.X] [.v r3] fun c l=>
 br (axIs 1 c)
 (dk [.C,.q 1 1,.N,.D,.R,.X,.E] [.l l,.o o3] fun n1 cs1=>
 br ((0+n1*1).ble cs1.length) (askK D (Key.fn 202) [AV.ls (chunk n1 1 (List.take (n1*1) cs1))] [] fun r4 o4=>
 unLs r4 fun xs2=>
 unEnd o4<|
 some ((AV.tup [AV.ls xs2,bv true],[]))) none)
 (none)) none):=by kernel_rfl

theorem e198_0(t1:Rw)(n6:Nat)(c6:List AV)(t7:Int)(t23:Rw)(t24 t25:Int):lpK A D ownC hn198 .n 198 0 (lpAt mf198 0).fst (lpAt mf198 0).snd [AV.ls t1,AV.sl 0 0 n6 1,AV.v (Value.int IntKind.u64 t7),AV.ls t23,iv t24,iv t25] [{ cells:=c6,st:=true,ex:=true }] =
 br (A.lt t25 t24)
 (unI t25 fun i=>
 nthK t23 i fun cs=>
 dk [.J .u32,.N] [.l cs] fun n=>
 br (A.lt t25 ↑(lenR t1))
 (unI t25 fun i1=>
 nthK t1 i1 fun cs1=>
 dk [.J .u32,.N] [.l cs1] fun n1=>
 br (A.lt (A.conv IntKind.u64 n) (A.add IntKind.u64 t7 (A.conv IntKind.u64 n1)))
 (br (fitsB (n6+1) 4) (br ((0+n6*1).ble c6.length) (askK D (Key.lp 198 0) [AV.ls t1,AV.sl 0 0 (n6+1) 1,AV.v (Value.int IntKind.u64 1),AV.ls t23,iv t24,iv (A.add IntKind.i64 t25 1)] [ABlk.mk (List.drop 0 (List.take (0+n6*1) c6)++[AV.v (Value.int IntKind.u32 (A.conv IntKind.u32 (A.sub IntKind.u64 (A.add IntKind.u64 (A.conv IntKind.u64 n) 4294967296) (A.add IntKind.u64 t7 (A.conv IntKind.u64 n1)))))]) true true] fun r o=>
 tailK 1 [2] (AH.mk [(2,ABlk.mk (List.drop 0 (List.take (0+n6*1) c6)++[AV.v (Value.int IntKind.u32 (A.conv IntKind.u32 (A.sub IntKind.u64 (A.add IntKind.u64 (A.conv IntKind.u64 n) 4294967296) (A.add IntKind.u64 t7 (A.conv IntKind.u64 n1)))))]) true true),(1,ABlk.mk [AV.v (Value.int IntKind.u32 (A.conv IntKind.u32 (A.sub IntKind.u64 (A.add IntKind.u64 (A.conv IntKind.u64 n) 4294967296) (A.add IntKind.u64 t7 (A.conv IntKind.u64 n1)))))] true true)] 3 none) [0] r o) none) none)
 (br (fitsB (n6+1) 4) (br ((0+n6*1).ble c6.length) (askK D (Key.lp 198 0) [AV.ls t1,AV.sl 0 0 (n6+1) 1,AV.v (Value.int IntKind.u64 0),AV.ls t23,iv t24,iv (A.add IntKind.i64 t25 1)] [ABlk.mk (List.drop 0 (List.take (0+n6*1) c6)++[AV.v (Value.int IntKind.u32 (A.conv IntKind.u32 (A.sub IntKind.u64 (A.conv IntKind.u64 n) (A.add IntKind.u64 t7 (A.conv IntKind.u64 n1)))))]) true true] fun r o=>
 tailK 1 [2] (AH.mk [(2,ABlk.mk (List.drop 0 (List.take (0+n6*1) c6)++[AV.v (Value.int IntKind.u32 (A.conv IntKind.u32 (A.sub IntKind.u64 (A.conv IntKind.u64 n) (A.add IntKind.u64 t7 (A.conv IntKind.u64 n1)))))]) true true),(1,ABlk.mk [AV.v (Value.int IntKind.u32 (A.conv IntKind.u32 (A.sub IntKind.u64 (A.conv IntKind.u64 n) (A.add IntKind.u64 t7 (A.conv IntKind.u64 n1)))))] true true)] 3 none) [0] r o) none) none))
 (br (A.lt (A.conv IntKind.u64 n) t7)
 (br (fitsB (n6+1) 4) (br ((0+n6*1).ble c6.length) (askK D (Key.lp 198 0) [AV.ls t1,AV.sl 0 0 (n6+1) 1,AV.v (Value.int IntKind.u64 1),AV.ls t23,iv t24,iv (A.add IntKind.i64 t25 1)] [ABlk.mk (List.drop 0 (List.take (0+n6*1) c6)++[AV.v (Value.int IntKind.u32 (A.conv IntKind.u32 (A.sub IntKind.u64 (A.add IntKind.u64 (A.conv IntKind.u64 n) 4294967296) t7)))]) true true] fun r o=>
 tailK 1 [2] (AH.mk [(2,ABlk.mk (List.drop 0 (List.take (0+n6*1) c6)++[AV.v (Value.int IntKind.u32 (A.conv IntKind.u32 (A.sub IntKind.u64 (A.add IntKind.u64 (A.conv IntKind.u64 n) 4294967296) t7)))]) true true),(1,ABlk.mk [AV.v (Value.int IntKind.u32 (A.conv IntKind.u32 (A.sub IntKind.u64 (A.add IntKind.u64 (A.conv IntKind.u64 n) 4294967296) t7)))] true true)] 3 none) [0] r o) none) none)
 (br (fitsB (n6+1) 4) (br ((0+n6*1).ble c6.length) (askK D (Key.lp 198 0) [AV.ls t1,AV.sl 0 0 (n6+1) 1,AV.v (Value.int IntKind.u64 0),AV.ls t23,iv t24,iv (A.add IntKind.i64 t25 1)] [ABlk.mk (List.drop 0 (List.take (0+n6*1) c6)++[AV.v (Value.int IntKind.u32 (A.conv IntKind.u32 (A.sub IntKind.u64 (A.conv IntKind.u64 n) t7)))]) true true] fun r o=>
 tailK 1 [2] (AH.mk [(2,ABlk.mk (List.drop 0 (List.take (0+n6*1) c6)++[AV.v (Value.int IntKind.u32 (A.conv IntKind.u32 (A.sub IntKind.u64 (A.conv IntKind.u64 n) t7)))]) true true),(1,ABlk.mk [AV.v (Value.int IntKind.u32 (A.conv IntKind.u32 (A.sub IntKind.u64 (A.conv IntKind.u64 n) t7)))] true true)] 3 none) [0] r o) none) none)))
 (some ((AV.tup [iv 0,AV.sl 1 0 n6 1],[BO.del,BO.set (ABlk.mk c6 true true)]))):=by kernel_rfl

theorem e243(x0 x1:Rw):fnK A D ownC hn243 .n 243 mf243 [AV.ls x0,AV.ls x1] [] =
 unI (A.add IntKind.i64 ↑(lenR x0) ↑(lenR x1)) fun i=>
 unI (A.add IntKind.i64 ↑(lenR x0) ↑(lenR x1)) fun i1=>
 br (i.ble i1) (br (fitsB i1 4) (askK D (Key.lp 243 0) [AV.ls x1,AV.sl 0 0 i 1,AV.ls x0,iv ↑(lenR x0),iv 0] [ABlk.mk (zeros [AV.v (Value.int IntKind.u32 0)] (i*1)) true true] fun r o=>
 dk [.t,.C,.x,.X] [.v r] fun c l=>
 br (axIs 1 c)
 (dk [.C,.q 1 1,.N,.D,.R,.X,.E] [.l l,.o o] fun n cs1=>
 br ((0+n*1).ble cs1.length) (askK D (Key.fn 202) [AV.ls (chunk n 1 (List.take (n*1) cs1))] [] fun r1 o1=>
 unLs r1 fun xs=>
 unEnd o1<|
 some ((AV.ls xs,[]))) none)
 (none)) none) none:=by kernel_rfl

theorem e243_0(t1:Rw)(n5:Nat)(c5:List AV)(t18:Rw)(t19 t20:Int):lpK A D ownC hn243 .n 243 0 (lpAt mf243 0).fst (lpAt mf243 0).snd [AV.ls t1,AV.sl 0 0 n5 1,AV.ls t18,iv t19,iv t20] [{ cells:=c5,st:=true,ex:=true }] =
 br (A.lt t20 t19)
 (unI t20 fun i=>
 nthK t18 i fun cs=>
 dk [.J .u32,.N] [.l cs] fun n=>
 askD D (Key.lp 243 1) [AV.ls t1,AV.sl 0 0 n5 1,iv t20,AV.v (Value.int IntKind.u32 n),AV.v (Value.int IntKind.u64 0),AV.ls t18,iv t19,iv t20,AV.ls t1,iv ↑(lenR t1),iv 0] [ABlk.mk c5 true true] [.t,.C,.x,.X,.Y] fun c l1 o=>
 br (axIs 3 c)
 (dk [.L,.C,.q 1 1,.I,.J .u64,.L,.I,.I,.N,.D,.R,.X,.E] [.l l1,.o o] fun xs n1 n2 n3 xs1 n4 n6 cs2=>
 unI (A.add IntKind.i64 n2 ↑(lenR xs)) fun i1=>
 br (i1.blt n1) (br ((0+i1*1+1).ble cs2.length) (askK D (Key.lp 243 0) [AV.ls xs,AV.sl 0 0 n1 1,AV.ls xs1,iv n4,iv (A.add IntKind.i64 n6 1)] [ABlk.mk (splice cs2 (0+i1*1) [AV.v (Value.int IntKind.u32 (A.conv IntKind.u32 n3))]) true true] fun r1 o1=>
 tailK 1 [1] (AH.mk [(1,ABlk.mk (splice cs2 (0+i1*1) [AV.v (Value.int IntKind.u32 (A.conv IntKind.u32 n3))]) true true)] 2 none) [0] r1 o1) none) none)
 (none))
 (some ((AV.tup [iv 0,AV.sl 1 0 n5 1],[BO.del,BO.set (ABlk.mk c5 true true)]))):=by kernel_rfl

theorem e243_1(t1:Rw)(n5:Nat)(c5:List AV)(t6 t7 t8:Int)(t18:Rw)(t19 t20:Int)(t25:Rw)(t26 t27:Int):lpK A D ownC hn243 .n 243 1 (lpAt mf243 1).fst (lpAt mf243 1).snd [AV.ls t1,AV.sl 0 0 n5 1,iv t6,AV.v (Value.int IntKind.u32 t7),AV.v (Value.int IntKind.u64 t8),AV.ls t18,iv t19,iv t20,AV.ls t25,iv t26,iv t27] [{ cells:=c5,st:=true,ex:=true }] =
 br (A.lt t27 t26)
 (unI t27 fun i=>
 nthK t25 i fun cs=>
 dk [.J .u32,.N] [.l cs] fun n=>
 unI (A.add IntKind.i64 t6 t27) fun i1=>
 br (i1.blt n5) (rdK c5 (0+i1*1) 1 fun cs1=>
 dk [.J .u32,.N] [.l cs1] fun n1=>
 unI (A.add IntKind.i64 t6 t27) fun i2=>
 br (i2.blt n5) (br ((0+i2*1+1).ble c5.length) (br (A.lt 32 0)
 (none)
 (askK D (Key.lp 243 1) [AV.ls t1,AV.sl 0 0 n5 1,iv t6,AV.v (Value.int IntKind.u32 t7),AV.v (Value.int IntKind.u64 (A.shr IntKind.u64 (A.add IntKind.u64 (A.add IntKind.u64 (A.mul IntKind.u64 (A.conv IntKind.u64 t7) (A.conv IntKind.u64 n)) (A.conv IntKind.u64 n1)) t8) 32)),AV.ls t18,iv t19,iv t20,AV.ls t25,iv t26,iv (A.add IntKind.i64 t27 1)] [ABlk.mk (splice c5 (0+i2*1) [AV.v (Value.int IntKind.u32 (A.conv IntKind.u32 (A.add IntKind.u64 (A.add IntKind.u64 (A.mul IntKind.u64 (A.conv IntKind.u64 t7) (A.conv IntKind.u64 n)) (A.conv IntKind.u64 n1)) t8)))]) true true] fun r o=>
 tailK 1 [0] (AH.mk [(0,ABlk.mk (splice c5 (0+i2*1) [AV.v (Value.int IntKind.u32 (A.conv IntKind.u32 (A.add IntKind.u64 (A.add IntKind.u64 (A.mul IntKind.u64 (A.conv IntKind.u64 t7) (A.conv IntKind.u64 n)) (A.conv IntKind.u64 n1)) t8)))]) true true)] 1 none) [0] r o)) none) none) none)
 (some ((AV.tup [iv 2,AV.ls t1,AV.sl 1 0 n5 1,iv t6,AV.v (Value.int IntKind.u64 t8),AV.ls t18,iv t19,iv t20],[BO.del,BO.set (ABlk.mk c5 true true)]))):=by kernel_rfl

theorem e212(x0 x1:Rw):fnK A D ownC hn212 .n 212 mf212 [AV.ls x0,AV.ls x1] [] =
 askD D (Key.fn 200) [AV.ls x0] [] [.l,.E] fun xs=>
 askD D (Key.fn 200) [AV.ls x1] [] [.l,.E] fun xs1=>
 br (A.lt (↑(lenR xs)) 24)
 (askD D (Key.fn 243) [AV.ls xs,AV.ls xs1] [] [.l,.E] fun xs2=>
 some ((AV.ls xs2,[])))
 (br (A.lt (↑(lenR xs1)) 24)
 (askD D (Key.fn 243) [AV.ls xs,AV.ls xs1] [] [.l,.E] fun xs2=>
 some ((AV.ls xs2,[])))
 (askD D (Key.fn 244) [AV.ls xs,AV.ls xs1] [] [.l,.E] fun xs2=>
 some ((AV.ls xs2,[])))):=by kernel_rfl
end Go.Proofs.YtpncilciembjdaaGreatDoor
namespace Go.Proofs.YtpncilciembjdaaGreatDoor
open Go.RowKit
def hs145:Hints:=[]
noncomputable def mf145:MFn:=mfD Tryz.prog entsC hs145 false false 145
def hn145:Hnt:=⟨[(202,(.ls,[]))],[],[]⟩
def hs142:Hints:=[]
noncomputable def mf142:MFn:=mfD Tryz.prog entsC hs142 false false 142
def hn142:Hnt:=⟨[(145,(.agg [.bool,.ls],[]))],[],[(4,[.bool]),(6,[.ls])]⟩
def hs126:Hints:=[]
noncomputable def mf126:MFn:=mfD Tryz.prog entsC hs126 false false 126
def hn126:Hnt:=⟨[(145,(.agg [.bool,.ls],[])),(184,(.ls,[]))],[],[]⟩
def hs161:Hints:=[]
noncomputable def mf161:MFn:=mfD Tryz.prog entsC hs161 false false 161
def hn161:Hnt:=⟨[(145,(.agg [.bool,.ls],[]))],[],[(4,[.bool]),(7,[.ls])]⟩
def hs64:Hints:=[]
noncomputable def mf64:MFn:=mfD Tryz.prog entsC hs64 false false 64
def hn64:Hnt:=⟨[(142,(.agg [.bool,.ls],[]))],[],[(3,[.bool,.ls]),(7,[.bool]),(10,[.ls])]⟩
def hs155:Hints:=[]
noncomputable def mf155:MFn:=mfD Tryz.prog entsC hs155 false false 155
def hn155:Hnt:=⟨[(64,(.int .i64,[])),(201,(.int .i64,[]))],[],[(7,[.bool,.ls]),(9,[.bool,.ls]),(23,[.ls]),(25,[.ls]),(28,[.ls]),(30,[.ls])]⟩
def hs139:Hints:=[]
noncomputable def mf139:MFn:=mfD Tryz.prog entsC hs139 false false 139
def hn139:Hnt:=⟨[(145,(.agg [.bool,.ls],[])),(197,(.ls,[])),(198,(.tup [.ls,.bool],[]))],[],[(10,[.bool]),(12,[.bool]),(15,[.bool]),(17,[.ls]),(19,[.ls]),(24,[.ls]),(26,[.ls]),(32,[.bool]),(37,[.ls]),(39,[.ls]),(44,[.bool])]⟩
def hs158:Hints:=[]
noncomputable def mf158:MFn:=mfD Tryz.prog entsC hs158 false false 158
def hn158:Hnt:=⟨[(145,(.agg [.bool,.ls],[])),(212,(.ls,[]))],[],[(6,[.bool]),(8,[.bool]),(11,[.ls]),(13,[.ls])]⟩
noncomputable def tabZi:List (Nat × MFn):=[(145,mf145),(142,mf142),(126,mf126),(161,mf161),(64,mf64),(155,mf155),(139,mf139),(158,mf158)]
variable (A:Ar) (D:Orc)
theorem e145(x0:Bool)(x1:Rw):fnK A D ownC hn145 (.b (.t (.t (.b (.t .n) (.t .n)))) (.f (.f (.f .n)))) 145 mf145 [bv x0,AV.ls x1] [] =
 askD D (Key.fn 202) [AV.ls x1] [] [.l,.E] fun xs=>
 br x0
 (br x0 (br x0 (br (A.lt 0 ↑(lenR xs))
 (br x0 (some ((AV.agg [bv true,AV.ls xs],[]))) none)
 (br x0 (some ((AV.agg [bv false,AV.ls xs],[]))) none)) none) none)
 (br x0 none (br x0 none (br x0 none (some ((AV.agg [bv false,AV.ls xs],[])))))):=by kernel_rfl

theorem e142(x0_0:Bool)(x0_1:Rw):fnK A D ownC hn142 .n 142 mf142 [AV.agg [bv x0_0,AV.ls x0_1]] [] =
 askD D (Key.fn 145) [bv x0_0,AV.ls x0_1] [] [.a,.B,.L,.N,.E] fun b xs=>
 some ((AV.agg [bv b,AV.ls xs],[])):=by kernel_rfl

theorem e126(x0:Int):fnK A D ownC hn126 .n 126 mf126 [iv x0] [] =
 br (A.lt x0 0)
 (askD D (Key.fn 184) [AV.v (Value.int IntKind.u64 (A.add IntKind.u64 (A.conv IntKind.u64 (A.sub IntKind.i64 0 (A.add IntKind.i64 x0 1))) 1))] [] [.l,.E] fun xs=>
 askD D (Key.fn 145) [bv true,AV.ls xs] [] [.a,.B,.L,.N,.E] fun b xs1=>
 some ((AV.agg [bv b,AV.ls xs1],[])))
 (askD D (Key.fn 184) [AV.v (Value.int IntKind.u64 (A.conv IntKind.u64 x0))] [] [.l,.E] fun xs=>
 askD D (Key.fn 145) [bv false,AV.ls xs] [] [.a,.B,.L,.N,.E] fun b xs1=>
 some ((AV.agg [bv b,AV.ls xs1],[]))):=by kernel_rfl

theorem e161(x0_0:Bool)(x0_1:Rw):fnK A D ownC hn161 .n 161 mf161 [AV.agg [bv x0_0,AV.ls x0_1]] [] =
 br (A.not x0_0)
 (askD D (Key.fn 145) [bv true,AV.ls x0_1] [] [.a,.B,.L,.N,.E] fun b xs=>
 some ((AV.agg [bv b,AV.ls xs],[])))
 (askD D (Key.fn 145) [bv false,AV.ls x0_1] [] [.a,.B,.L,.N,.E] fun b xs=>
 some ((AV.agg [bv b,AV.ls xs],[]))):=by kernel_rfl

theorem e64(x0_0:Bool)(x0_1:Rw):fnK A D ownC hn64 .n 64 mf64 [AV.agg [bv x0_0,AV.ls x0_1]] [] =
 askD D (Key.fn 142) [AV.agg [bv x0_0,AV.ls x0_1]] [] [.a,.B,.L,.N,.E] fun b xs=>
 br b
 (some ((iv (-1),[])))
 (br (A.lt 0 ↑(lenR xs))
 (some ((iv 1,[])))
 (some ((iv 0,[])))):=by kernel_rfl

theorem e155(x0_0:Bool)(x0_1:Rw)(x1_0:Bool)(x1_1:Rw):fnK A D ownC hn155 .n 155 mf155 [AV.agg [bv x0_0,AV.ls x0_1],AV.agg [bv x1_0,AV.ls x1_1]] [] =
 askD D (Key.fn 64) [AV.agg [bv x0_0,AV.ls x0_1]] [] [.i,.E] fun n=>
 askD D (Key.fn 64) [AV.agg [bv x1_0,AV.ls x1_1]] [] [.i,.E] fun n1=>
 br (A.lt n n1)
 (some ((iv (-1),[])))
 (br (A.lt n1 n)
 (some ((iv 1,[])))
 (br (A.lt n 0)
 (askD D (Key.fn 201) [AV.ls x1_1,AV.ls x0_1] [] [.i,.E] fun n2=>
 some ((iv n2,[])))
 (askD D (Key.fn 201) [AV.ls x0_1,AV.ls x1_1] [] [.i,.E] fun n2=>
 some ((iv n2,[]))))):=by kernel_rfl

theorem e139(x0_0:Bool)(x0_1:Rw)(x1_0:Bool)(x1_1:Rw):fnK A D ownC hn139 .n 139 mf139 [AV.agg [bv x0_0,AV.ls x0_1],AV.agg [bv x1_0,AV.ls x1_1]] [] =
 br (A.beq x0_0 x1_0)
 (askD D (Key.fn 197) [AV.ls x0_1,AV.ls x1_1] [] [.l,.E] fun xs=>
 askD D (Key.fn 145) [bv x0_0,AV.ls xs] [] [.a,.B,.L,.N,.E] fun b xs1=>
 some ((AV.agg [bv b,AV.ls xs1],[])))
 (askD D (Key.fn 198) [AV.ls x0_1,AV.ls x1_1] [] [.t,.L,.B,.N,.E] fun xs b=>
 br b
 (askD D (Key.fn 145) [bv x0_0,AV.ls xs] [] [.a,.B,.L,.N,.E] fun b1 xs1=>
 some ((AV.agg [bv b1,AV.ls xs1],[])))
 (askD D (Key.fn 198) [AV.ls x1_1,AV.ls x0_1] [] [.t,.L,.B,.N,.E] fun xs1 _=>
 askD D (Key.fn 145) [bv x1_0,AV.ls xs1] [] [.a,.B,.L,.N,.E] fun b2 xs2=>
 some ((AV.agg [bv b2,AV.ls xs2],[])))):=by kernel_rfl

theorem e158(x0_0:Bool)(x0_1:Rw)(x1_0:Bool)(x1_1:Rw):fnK A D ownC hn158 .n 158 mf158 [AV.agg [bv x0_0,AV.ls x0_1],AV.agg [bv x1_0,AV.ls x1_1]] [] =
 br (A.not (A.beq x0_0 x1_0))
 (askD D (Key.fn 212) [AV.ls x0_1,AV.ls x1_1] [] [.l,.E] fun xs=>
 askD D (Key.fn 145) [bv true,AV.ls xs] [] [.a,.B,.L,.N,.E] fun b xs1=>
 some ((AV.agg [bv b,AV.ls xs1],[])))
 (askD D (Key.fn 212) [AV.ls x0_1,AV.ls x1_1] [] [.l,.E] fun xs=>
 askD D (Key.fn 145) [bv false,AV.ls xs] [] [.a,.B,.L,.N,.E] fun b xs1=>
 some ((AV.agg [bv b,AV.ls xs1],[]))):=by kernel_rfl
end Go.Proofs.YtpncilciembjdaaGreatDoor
namespace Go.Proofs.YtpncilciembjdaaGreatDoor
open Go.RowKit
def hs138:Hints:=[]
noncomputable def mf138:MFn:=mfD Tryz.prog entsC hs138 false false 138
def hn138:Hnt:=⟨[(145,(.agg [.bool,.ls],[]))],[],[(4,[.bool]),(6,[.ls])]⟩
def hs62:Hints:=[⟨74,[false,false,true,false,true,false,false,false,false,false,false,false,false,false,false,false,false,true,true,true],[(1000004,3)],[2,17],[(1,([false,false,true,false,true],([],[])))]⟩]
noncomputable def mf62:MFn:=mfD Tryz.prog entsC hs62 false false 62
def hn62:Hnt:=⟨[(135,(.sl 0 3,[.row true])),(136,(.tup [],[.row true])),(138,(.agg [.bool,.ls],[])),(139,(.agg [.bool,.ls],[])),(140,(.sl 0 3,[.row true]))],[(0,[(1,([.ptr 0 0,.ptr 1 0],[.box [.ls,.bool,.ls],.box [.sl 3 3,.bool,.ls],.del,.row true]))])],[(9,[.ls]),(14,[.bool,.ls]),(21,[.int .i64,.bool,.ls]),(22,[.int .i64,.bool,.ls]),(24,[.int .i64]),(27,[.ls]),(34,[.ls]),(36,[.int .i64,.bool,.ls]),(38,[.int .i64]),(40,[.int .i64]),(44,[.ls]),(47,[.ls]),(49,[.int .i64,.bool,.ls]),(51,[.bool,.ls]),(53,[.bool,.ls]),(55,[.int .i64,.bool,.ls]),(58,[.ls]),(60,[.int .i64]),(62,[.bool,.ls]),(70,[.ls]),(73,[.ls,.bool,.ls])]⟩
noncomputable def tabTe:List (Nat × MFn):=[(138,mf138),(62,mf62)]
variable (A:Ar) (D:Orc)
theorem e138(x0_0:Bool)(x0_1:Rw):fnK A D ownC hn138 .n 138 mf138 [AV.agg [bv x0_0,AV.ls x0_1]] [] =
 askD D (Key.fn 145) [bv x0_0,AV.ls x0_1] [] [.a,.B,.L,.N,.E] fun b xs=>
 some ((AV.agg [bv b,AV.ls xs],[])):=by kernel_rfl

theorem e62(x0_0:Rw)(x0_1:Bool)(x0_2:Rw):fnK A D ownC hn62 .n 62 mf62 [AV.agg [AV.ls x0_0,bv x0_1,AV.ls x0_2]] [] =
 askD D (Key.fn 135) [AV.ls x0_0] [] [.q 0 3,.R,.X,.E] fun n cs=>
 askD D (Key.fn 136) [AV.sl 0 0 n 3,AV.fn (Fn.func 137) [] []] [ABlk.mk cs true true] [.t,.N,.R,.X,.E] fun cs2=>
 askD D (Key.fn 138) [AV.agg [bv x0_1,AV.ls x0_2]] [] [.a,.B,.L,.N,.E] fun b xs=>
 br ((0+n*3).ble cs2.length) (askK D (Key.lp 62 0) [AV.ptr 0 0,AV.ptr 1 0,AV.ls (chunk n 3 (List.take (n*3) cs2)),iv ↑n,iv 0] [bk [AV.ls [],bv false,AV.ls []],bk [AV.sl 2 0 0 3,bv b,AV.ls xs],ABlk.mk [] true true] fun r3 o3=>
 dk [.t,.C,.x,.X] [.v r3] fun c2 l4=>
 br (axIs 1 c2)
 (dk [.P 0 0,.P 1 0,.N,.T,.L,.B,.L,.N,.T,.C,.q 3 3,.B,.L,.N,.D,.R,.X,.E] [.l l4,.o o3] fun _ _ _ n1 b2 xs3 cs7=>
 askD D (Key.fn 140) [AV.sl 0 0 n1 3,AV.fn (Fn.func 141) [] []] [ABlk.mk cs7 true true] [.q 0 3,.R,.X,.E] fun n2 cs8=>
 br ((0+n2*3).ble cs8.length) (some ((AV.agg [AV.ls (chunk n2 3 (List.take (n2*3) cs8)),bv b2,AV.ls xs3],[]))) none)
 (none)) none:=by kernel_rfl

theorem e62_0(r0:Rw)(r1:Bool)(r2:Rw)(n4:Nat)(k1:Bool)(k2:Rw)(c4:List AV)(t17:Rw)(t18 t19:Int):lpK A D ownC hn62 .n 62 0 (lpAt mf62 0).fst (lpAt mf62 0).snd [AV.ptr 0 0,AV.ptr 1 0,AV.ls t17,iv t18,iv t19] [bk [AV.ls r0,bv r1,AV.ls r2],bk [AV.sl 2 0 n4 3,bv k1,AV.ls k2],{ cells:=c4,st:=true,ex:=true }] =
 br (A.lt t19 t18)
 (unI t19 fun i=>
 nthK t17 i fun cs=>
 dk [.I,.B,.L,.N] [.l cs] fun n b xs=>
 br (A.lt n 0)
 (askK D (Key.lp 62 0) [AV.ptr 0 0,AV.ptr 1 0,AV.ls t17,iv t18,iv (A.add IntKind.i64 t19 1)] [bk [AV.ls r0,bv r1,AV.ls r2],bk [AV.sl 2 0 n4 3,bv k1,AV.ls k2],ABlk.mk c4 true true] fun r o=>
 tailK 3 [0,1,2] (AH.mk [(0,bk [AV.ls r0,bv r1,AV.ls r2]),(3,bk [iv n,bv b,AV.ls xs]),(1,bk [AV.sl 2 0 n4 3,bv k1,AV.ls k2]),(2,ABlk.mk c4 true true)] 4 none) [0] r o)
 (br (A.le 0 (A.sub IntKind.i64 (↑n4) 1))
 (unI (A.sub IntKind.i64 (↑n4) 1) fun i1=>
 br (i1.blt n4) (rdK c4 (0+i1*3+0) 1 fun cs1=>
 dk [.I,.N] [.l cs1] fun n1=>
 br (A.eq n1 n)
 (unI (A.sub IntKind.i64 (↑n4) 1) fun i2=>
 br (i2.blt n4) (rdK c4 (0+i2*3+1) 2 fun cs2=>
 dk [.B,.L,.N] [.l cs2] fun b1 xs1=>
 askD D (Key.fn 139) [AV.agg [bv b1,AV.ls xs1],AV.agg [bv b,AV.ls xs]] [] [.a,.B,.L,.N,.E] fun b2 xs2=>
 unI (A.sub IntKind.i64 (↑n4) 1) fun i3=>
 br (i3.blt n4) (br ((0+i3*3+1+2).ble c4.length) (askK D (Key.lp 62 0) [AV.ptr 0 0,AV.ptr 1 0,AV.ls t17,iv t18,iv (A.add IntKind.i64 t19 1)] [bk [AV.ls r0,bv r1,AV.ls r2],bk [AV.sl 2 0 n4 3,bv k1,AV.ls k2],ABlk.mk (splice c4 (0+i3*3+1) [bv b2,AV.ls xs2]) true true] fun r3 o1=>
 tailK 3 [0,1,2] (AH.mk [(0,bk [AV.ls r0,bv r1,AV.ls r2]),(2,ABlk.mk (splice c4 (0+i3*3+1) [bv b2,AV.ls xs2]) true true),(3,bk [iv n,bv b,AV.ls xs]),(1,bk [AV.sl 2 0 n4 3,bv k1,AV.ls k2])] 4 none) [2,0] r3 o1) none) none) none)
 (askD D (Key.fn 138) [AV.agg [bv b,AV.ls xs]] [] [.a,.B,.L,.N,.E] fun b1 xs1=>
 br (fitsB (n4+1) 40) (br ((0+n4*3).ble c4.length) (askK D (Key.lp 62 0) [AV.ptr 0 0,AV.ptr 1 0,AV.ls t17,iv t18,iv (A.add IntKind.i64 t19 1)] [bk [AV.ls r0,bv r1,AV.ls r2],bk [AV.sl 2 0 (n4+1) 3,bv k1,AV.ls k2],ABlk.mk (List.drop 0 (List.take (0+n4*3) c4)++[iv n,bv b1,AV.ls xs1]) true true] fun r3 o1=>
 tailK 3 [0,1,5] (AH.mk [(0,bk [AV.ls r0,bv r1,AV.ls r2]),(1,bk [AV.sl 5 0 (n4+1) 3,bv k1,AV.ls k2]),(5,ABlk.mk (List.drop 0 (List.take (0+n4*3) c4)++[iv n,bv b1,AV.ls xs1]) true true),(4,ABlk.mk [iv n,bv b1,AV.ls xs1] true true),(3,bk [iv n,bv b,AV.ls xs])] 6 none) [2,1,0] r3 o1) none) none)) none)
 (askD D (Key.fn 138) [AV.agg [bv b,AV.ls xs]] [] [.a,.B,.L,.N,.E] fun b1 xs1=>
 br (fitsB (n4+1) 40) (br ((0+n4*3).ble c4.length) (askK D (Key.lp 62 0) [AV.ptr 0 0,AV.ptr 1 0,AV.ls t17,iv t18,iv (A.add IntKind.i64 t19 1)] [bk [AV.ls r0,bv r1,AV.ls r2],bk [AV.sl 2 0 (n4+1) 3,bv k1,AV.ls k2],ABlk.mk (List.drop 0 (List.take (0+n4*3) c4)++[iv n,bv b1,AV.ls xs1]) true true] fun r3 o1=>
 tailK 3 [0,1,5] (AH.mk [(0,bk [AV.ls r0,bv r1,AV.ls r2]),(1,bk [AV.sl 5 0 (n4+1) 3,bv k1,AV.ls k2]),(5,ABlk.mk (List.drop 0 (List.take (0+n4*3) c4)++[iv n,bv b1,AV.ls xs1]) true true),(4,ABlk.mk [iv n,bv b1,AV.ls xs1] true true),(3,bk [iv n,bv b,AV.ls xs])] 6 none) [2,1,0] r3 o1) none) none)))
 (some ((AV.tup [iv 0,AV.ptr 0 0,AV.ptr 1 0],[BO.set (bk [AV.ls r0,bv r1,AV.ls r2]),BO.set (bk [AV.sl 3 0 n4 3,bv k1,AV.ls k2]),BO.del,BO.set (ABlk.mk c4 true true)]))):=by kernel_rfl
end Go.Proofs.YtpncilciembjdaaGreatDoor
namespace Go.Proofs.YtpncilciembjdaaGreatDoor
open Go.RowKit
def hs230:Hints:=[⟨36,[true,false,false,true,false,false,false,false,false,true,true,true],[],[],[(1,([true,false,false,true],([],[])))]⟩,⟨36,[false,false,false,false,false,false,true,false,false,false,false,false,false,false,false,false,false,false,false,false,false,false,false,false,false,true,true,true],[(6,3)],[],[(3,([false,false,false,false,false,false,true],([],[])))]⟩]
noncomputable def mf230:MFn:=mfD Tryz.prog entsC hs230 false false 230
def hn230:Hnt:=⟨[(262,(.sl 0 3,[.row true]))],[(0,[(1,([.ls,.int .i64],[]))]),(1,[(3,([.sl 1 3],[.del,.row true]))])],[(13,[.ls]),(14,[.ls]),(29,[.ls]),(30,[.ls])]⟩
def hs125:Hints:=[]
noncomputable def mf125:MFn:=mfD Tryz.prog entsC hs125 false false 125
def hn125:Hnt:=⟨[(138,(.agg [.bool,.ls],[]))],[],[(3,[.bool,.ls])]⟩
def hs185:Hints:=[]
noncomputable def mf185:MFn:=mfD Tryz.prog entsC hs185 false false 185
def hn185:Hnt:=⟨[(62,(.agg [.ls,.bool,.ls],[])),(139,(.agg [.bool,.ls],[])),(230,(.ls,[]))],[],[(6,[.ls]),(8,[.ls]),(12,[.bool,.ls]),(14,[.bool,.ls])]⟩
def hs68:Hints:=[]
noncomputable def mf68:MFn:=mfD Tryz.prog entsC hs68 false false 68
def hn68:Hnt:=⟨[(126,(.agg [.bool,.ls],[])),(148,(.agg [.ls,.bool,.ls],[]))],[],[(3,[.ls,.bool,.ls])]⟩
def hs148:Hints:=[⟨35,[false,false,false,true,true,true,false,false,false,false,false,false,false,false,true,true,true],[(1000005,3)],[3,4],[(1,([false,false,false,false,true,true],([],[3])))]⟩]
noncomputable def mf148:MFn:=mfD Tryz.prog entsC hs148 false false 148
def hn148:Hnt:=⟨[(62,(.agg [.ls,.bool,.ls],[])),(158,(.agg [.bool,.ls],[]))],[(0,[(1,([.ptr 1 0,.ptr 2 0],[.del,.box [.ls,.bool,.ls],.box [.sl 4 3,.bool,.ls],.del,.row true]))])],[(9,[.bool,.ls]),(10,[.bool,.ls]),(14,[.ls]),(18,[.int .i64,.bool,.ls]),(19,[.int .i64,.bool,.ls]),(21,[.ls]),(23,[.int .i64]),(25,[.bool,.ls]),(26,[.bool,.ls]),(33,[.ls,.bool,.ls])]⟩
def hs127:Hints:=[]
noncomputable def mf127:MFn:=mfD Tryz.prog entsC hs127 false false 127
def hn127:Hnt:=⟨[(68,(.agg [.ls,.bool,.ls],[])),(185,(.agg [.ls,.bool,.ls],[]))],[],[(5,[.ls,.bool,.ls]),(6,[.ls,.bool,.ls])]⟩
def hs27:Hints:=[]
noncomputable def mf27:MFn:=mfD Tryz.prog entsC hs27 false false 27
def hs28:Hints:=[]
noncomputable def mf28:MFn:=mfD Tryz.prog entsC hs28 false false 28
def hn28:Hnt:=⟨[(62,(.agg [.ls,.bool,.ls],[]))],[],[(3,[.ls,.bool,.ls])]⟩
noncomputable def tabTf:List (Nat × MFn):=[(230,mf230),(125,mf125),(185,mf185),(68,mf68),(148,mf148),(127,mf127),(27,mf27),(28,mf28)]
variable (A:Ar) (D:Orc)
theorem e230(x0:Rw):fnK A D ownC hn230 .n 230 mf230 [AV.ls x0] [] =
 askD D (Key.lp 230 0) [AV.ls x0,iv 0,AV.ls x0,iv ↑(lenR x0),iv 0] [] [.t,.C,.x,.X,.Y] fun c l o=>
 br (axIs 1 c)
 (dk [.L,.I,.N,.E] [.l l,.o o] fun xs n=>
 askD D (Key.fn 262) [AV.v (Value.slice none 0 0),iv n] [] [.q 0 3,.R,.X,.E] fun n1 cs1=>
 askD D (Key.lp 230 1) [AV.sl 0 0 n1 3,AV.ls xs,iv ↑(lenR xs),iv 0] [ABlk.mk cs1 true true] [.t,.C,.x,.X,.Y] fun c2 l4 o2=>
 br (axIs 3 c2)
 (dk [.C,.q 1 3,.N,.D,.R,.X,.E] [.l l4,.o o2] fun n2 cs3=>
 br ((0+n2*3).ble cs3.length) (some ((AV.ls (chunk n2 3 (List.take (n2*3) cs3)),[]))) none)
 (none))
 (none):=by kernel_rfl

theorem e230_0(t0:Rw)(t3:Int)(t9:Rw)(t10 t11:Int):lpK A D ownC hn230 .n 230 0 (lpAt mf230 0).fst (lpAt mf230 0).snd [AV.ls t0,iv t3,AV.ls t9,iv t10,iv t11] [] =
 br (A.lt t11 t10)
 (unI t11 fun i=>
 nthK t9 i fun cs=>
 dk [.L,.N] [.l cs] fun xs=>
 br (A.lt (A.add IntKind.i64 t3 ↑(lenR xs)) 0)
 (none)
 (askK D (Key.lp 230 0) [AV.ls t0,iv (A.add IntKind.i64 t3 ↑(lenR xs)),AV.ls t9,iv t10,iv (A.add IntKind.i64 t11 1)] [] fun r o=>
 tailK 0 [] (AH.mk [] 0 none) [] r o))
 (some ((AV.tup [iv 0,AV.ls t0,iv t3],[]))):=by kernel_rfl

theorem e230_1(n6:Nat)(c6:List AV)(t25:Rw)(t26 t27:Int):lpK A D ownC hn230 .n 230 1 (lpAt mf230 1).fst (lpAt mf230 1).snd [AV.sl 0 0 n6 3,AV.ls t25,iv t26,iv t27] [{ cells:=c6,st:=true,ex:=true }] =
 br (A.lt t27 t26)
 (unI t27 fun i=>
 nthK t25 i fun cs=>
 dk [.L,.N] [.l cs] fun xs=>
 br (wideR 3 xs) (br ((lenR xs).beq 0)
 (askK D (Key.lp 230 1) [AV.sl 0 0 n6 3,AV.ls t25,iv t26,iv (A.add IntKind.i64 t27 1)] [ABlk.mk c6 true true] fun r o=>
 tailK 1 [0] (AH.mk [(0,ABlk.mk c6 true true)] 1 none) [] r o)
 (br (oneL (catR xs)) (br (fitsB (n6+lenR xs) 40) (br ((0+n6*3).ble c6.length) (askK D (Key.lp 230 1) [AV.sl 0 0 (n6+lenR xs) 3,AV.ls t25,iv t26,iv (A.add IntKind.i64 t27 1)] [ABlk.mk (List.drop 0 (List.take (0+n6*3) c6)++catR xs) true true] fun r o=>
 tailK 1 [1] (AH.mk [(1,ABlk.mk (List.drop 0 (List.take (0+n6*3) c6)++catR xs) true true)] 2 none) [0] r o) none) none) none)) none)
 (some ((AV.tup [iv 2,AV.sl 1 0 n6 3],[BO.del,BO.set (ABlk.mk c6 true true)]))):=by kernel_rfl

theorem e125(x0_0:Bool)(x0_1:Rw):fnK A D ownC hn125 .n 125 mf125 [AV.agg [bv x0_0,AV.ls x0_1]] [] =
 askD D (Key.fn 138) [AV.agg [bv x0_0,AV.ls x0_1]] [] [.a,.B,.L,.N,.E] fun b xs=>
 some ((AV.agg [AV.ls [],bv b,AV.ls xs],[])):=by kernel_rfl

theorem e185(x0_0:Rw)(x0_1:Bool)(x0_2 x1_0:Rw)(x1_1:Bool)(x1_2:Rw):fnK A D ownC hn185 .n 185 mf185 [AV.agg [AV.ls x0_0,bv x0_1,AV.ls x0_2],AV.agg [AV.ls x1_0,bv x1_1,AV.ls x1_2]] [] =
 askD D (Key.fn 230) [AV.ls [[AV.ls x0_0],[AV.ls x1_0]]] [] [.l,.E] fun xs=>
 askD D (Key.fn 139) [AV.agg [bv x0_1,AV.ls x0_2],AV.agg [bv x1_1,AV.ls x1_2]] [] [.a,.B,.L,.N,.E] fun b xs1=>
 askD D (Key.fn 62) [AV.agg [AV.ls xs,bv b,AV.ls xs1]] [] [.a,.L,.B,.L,.N,.E] fun xs2 b1 xs3=>
 some ((AV.agg [AV.ls xs2,bv b1,AV.ls xs3],[])):=by kernel_rfl

theorem e68(x0_0:Rw)(x0_1:Bool)(x0_2:Rw):fnK A D ownC hn68 .n 68 mf68 [AV.agg [AV.ls x0_0,bv x0_1,AV.ls x0_2]] [] =
 askD D (Key.fn 126) [iv (-1)] [] [.a,.B,.L,.N,.E] fun b xs=>
 askD D (Key.fn 148) [AV.agg [AV.ls x0_0,bv x0_1,AV.ls x0_2],AV.agg [bv b,AV.ls xs]] [] [.a,.L,.B,.L,.N,.E] fun xs1 b1 xs2=>
 some ((AV.agg [AV.ls xs1,bv b1,AV.ls xs2],[])):=by kernel_rfl

theorem e148(x0_0:Rw)(x0_1:Bool)(x0_2:Rw)(x1_0:Bool)(x1_1:Rw):fnK A D ownC hn148 .n 148 mf148 [AV.agg [AV.ls x0_0,bv x0_1,AV.ls x0_2],AV.agg [bv x1_0,AV.ls x1_1]] [] =
 askD D (Key.fn 158) [AV.agg [bv x0_1,AV.ls x0_2],AV.agg [bv x1_0,AV.ls x1_1]] [] [.a,.B,.L,.N,.E] fun b xs=>
 askD D (Key.lp 148 0) [AV.ptr 0 0,AV.ptr 1 0,AV.ptr 2 0,AV.ls x0_0,iv ↑(lenR x0_0),iv 0] [bk [bv x1_0,AV.ls x1_1],bk [AV.ls [],bv false,AV.ls []],bk [AV.sl 3 0 0 3,bv b,AV.ls xs],ABlk.mk [] true true] [.t,.C,.x,.X,.Y] fun c l2 o1=>
 br (axIs 1 c)
 (dk [.P 1 0,.P 2 0,.N,.D,.T,.L,.B,.L,.N,.T,.C,.q 4 3,.B,.L,.N,.D,.R,.X,.E] [.l l2,.o o1] fun _ _ _ n b2 xs3 cs4=>
 br ((0+n*3).ble cs4.length) (askK D (Key.fn 62) [AV.agg [AV.ls (chunk n 3 (List.take (n*3) cs4)),bv b2,AV.ls xs3]] [] fun r2 o2=>
 dk [.a,.L,.B,.L,.N,.E] [.v r2,.o o2] fun xs4 b3 xs5=>
 some ((AV.agg [AV.ls xs4,bv b3,AV.ls xs5],[]))) none)
 (none):=by kernel_rfl

theorem e148_0(i0:Bool)(i1 r0:Rw)(r1:Bool)(r2:Rw)(n5:Nat)(k1:Bool)(k2:Rw)(c5:List AV)(t14:Rw)(t15 t16:Int):lpK A D ownC hn148 .n 148 0 (lpAt mf148 0).fst (lpAt mf148 0).snd [AV.ptr 0 0,AV.ptr 1 0,AV.ptr 2 0,AV.ls t14,iv t15,iv t16] [bk [bv i0,AV.ls i1],bk [AV.ls r0,bv r1,AV.ls r2],bk [AV.sl 3 0 n5 3,bv k1,AV.ls k2],{ cells:=c5,st:=true,ex:=true }] =
 br (A.lt t16 t15)
 (unI t16 fun i=>
 nthK t14 i fun cs=>
 dk [.I,.B,.L,.N] [.l cs] fun n b xs=>
 askD D (Key.fn 158) [AV.agg [bv b,AV.ls xs],AV.agg [bv i0,AV.ls i1]] [] [.a,.B,.L,.N,.E] fun b1 xs1=>
 br (fitsB (n5+1) 40) (br ((0+n5*3).ble c5.length) (askK D (Key.lp 148 0) [AV.ptr 0 0,AV.ptr 1 0,AV.ptr 2 0,AV.ls t14,iv t15,iv (A.add IntKind.i64 t16 1)] [bk [bv i0,AV.ls i1],bk [AV.ls r0,bv r1,AV.ls r2],bk [AV.sl 3 0 (n5+1) 3,bv k1,AV.ls k2],ABlk.mk (List.drop 0 (List.take (0+n5*3) c5)++[iv n,bv b1,AV.ls xs1]) true true] fun r3 o1=>
 tailK 4 [0,1,2,6] (AH.mk [(1,bk [AV.ls r0,bv r1,AV.ls r2]),(0,bk [bv i0,AV.ls i1]),(2,bk [AV.sl 6 0 (n5+1) 3,bv k1,AV.ls k2]),(6,ABlk.mk (List.drop 0 (List.take (0+n5*3) c5)++[iv n,bv b1,AV.ls xs1]) true true),(5,ABlk.mk [iv n,bv b1,AV.ls xs1] true true),(4,bk [iv n,bv b,AV.ls xs])] 7 none) [3,2,0,1] r3 o1) none) none)
 (some ((AV.tup [iv 0,AV.ptr 1 0,AV.ptr 2 0],[BO.del,BO.set (bk [AV.ls r0,bv r1,AV.ls r2]),BO.set (bk [AV.sl 4 0 n5 3,bv k1,AV.ls k2]),BO.del,BO.set (ABlk.mk c5 true true)]))):=by kernel_rfl

theorem e127(x0_0:Rw)(x0_1:Bool)(x0_2 x1_0:Rw)(x1_1:Bool)(x1_2:Rw):fnK A D ownC hn127 .n 127 mf127 [AV.agg [AV.ls x0_0,bv x0_1,AV.ls x0_2],AV.agg [AV.ls x1_0,bv x1_1,AV.ls x1_2]] [] =
 askD D (Key.fn 68) [AV.agg [AV.ls x1_0,bv x1_1,AV.ls x1_2]] [] [.a,.L,.B,.L,.N,.E] fun xs b xs1=>
 askD D (Key.fn 185) [AV.agg [AV.ls x0_0,bv x0_1,AV.ls x0_2],AV.agg [AV.ls xs,bv b,AV.ls xs1]] [] [.a,.L,.B,.L,.N,.E] fun xs2 b1 xs3=>
 some ((AV.agg [AV.ls xs2,bv b1,AV.ls xs3],[])):=by kernel_rfl

theorem e28(x0_0:Rw)(x0_1:Bool)(x0_2:Rw):fnK A D ownC hn28 .n 28 mf28 [AV.agg [AV.ls x0_0,bv x0_1,AV.ls x0_2]] [] =
 askD D (Key.fn 62) [AV.agg [AV.ls x0_0,bv x0_1,AV.ls x0_2]] [] [.a,.L,.B,.L,.N,.E] fun xs b xs1=>
 some ((AV.agg [AV.ls xs,bv b,AV.ls xs1,bv false],[])):=by kernel_rfl
end Go.Proofs.YtpncilciembjdaaGreatDoor
namespace Go.Proofs.YtpncilciembjdaaGreatDoor
open Go.RowKit
def hs86:Hints:=[⟨40,[false,true,false,false,true,true,false,false,false,false,false,false,true,true,true],[],[4,5],[(1,([false,false,false,false,true,true],([],[])))]⟩]
noncomputable def mf86:MFn:=mfD Tryz.prog entsC hs86 false false 86
def hn86:Hnt:=⟨[(138,(.agg [.bool,.ls],[])),(139,(.agg [.bool,.ls],[])),(158,(.agg [.bool,.ls],[]))],[(0,[(1,([.ptr 0 0,.ptr 1 0],[.box [.bool,.ls],.box [.bool,.ls]]))])],[(9,[.bool,.ls]),(12,[.ls]),(16,[.int .i64,.bool,.ls]),(17,[.int .i64,.bool,.ls]),(19,[.int .i64]),(23,[.int .i64]),(28,[.bool,.ls]),(30,[.bool,.ls]),(33,[.int .i64]),(34,[.bool,.ls]),(35,[.bool,.ls]),(39,[.bool,.ls])]⟩
def hs30:Hints:=[]
noncomputable def mf30:MFn:=mfD Tryz.prog entsC hs30 false false 30
def hn30:Hnt:=⟨[(64,(.int .i64,[])),(86,(.agg [.bool,.ls],[]))],[],[(7,[.ls,.bool,.ls]),(15,[.bool])]⟩
noncomputable def tabHv:List (Nat × MFn):=[(86,mf86),(30,mf30)]
variable (A:Ar) (D:Orc)
theorem e86(x0_0:Rw)(x0_1:Bool)(x0_2 x1:Rw):fnK A D ownC hn86 .n 86 mf86 [AV.agg [AV.ls x0_0,bv x0_1,AV.ls x0_2],AV.ls x1] [] =
 askD D (Key.fn 138) [AV.agg [bv x0_1,AV.ls x0_2]] [] [.a,.B,.L,.N,.E] fun b xs=>
 askD D (Key.lp 86 0) [AV.ls x1,AV.ptr 0 0,AV.ptr 1 0,AV.ls x0_0,iv ↑(lenR x0_0),iv 0] [bk [bv false,AV.ls []],bk [bv b,AV.ls xs]] [.t,.C,.x,.X,.Y] fun c l2 o1=>
 br (axIs 1 c)
 (dk [.P 0 0,.P 1 0,.N,.T,.B,.L,.N,.T,.B,.L,.N,.E] [.l l2,.o o1] fun _ _ b2 xs2=>
 some ((AV.agg [bv b2,AV.ls xs2],[])))
 (none):=by kernel_rfl

theorem e86_0(t1:Rw)(b4_0:Bool)(b4_1:Rw)(b5_0:Bool)(b5_1 t12:Rw)(t13 t14:Int):lpK A D ownC hn86 .n 86 0 (lpAt mf86 0).fst (lpAt mf86 0).snd [AV.ls t1,AV.ptr 0 0,AV.ptr 1 0,AV.ls t12,iv t13,iv t14] [bk [bv b4_0,AV.ls b4_1],bk [bv b5_0,AV.ls b5_1]] =
 br (A.lt t14 t13)
 (unI t14 fun i=>
 nthK t12 i fun cs=>
 dk [.I,.B,.L,.N] [.l cs] fun n b xs=>
 br (A.le 0 n)
 (br (A.lt n ↑(lenR t1))
 (unI n fun i1=>
 nthK t1 i1 fun cs1=>
 dk [.B,.L,.N] [.l cs1] fun b1 xs1=>
 askD D (Key.fn 158) [AV.agg [bv b,AV.ls xs],AV.agg [bv b1,AV.ls xs1]] [] [.a,.B,.L,.N,.E] fun b2 xs2=>
 askD D (Key.fn 139) [AV.agg [bv b5_0,AV.ls b5_1],AV.agg [bv b2,AV.ls xs2]] [] [.a,.B,.L,.N,.E] fun b3 xs3=>
 askK D (Key.lp 86 0) [AV.ls t1,AV.ptr 0 0,AV.ptr 1 0,AV.ls t12,iv t13,iv (A.add IntKind.i64 t14 1)] [bk [bv b4_0,AV.ls b4_1],bk [bv b3,AV.ls xs3]] fun r2 o2=>
 tailK 2 [0,1] (AH.mk [(1,bk [bv b3,AV.ls xs3]),(0,bk [bv b4_0,AV.ls b4_1]),(2,bk [iv n,bv b,AV.ls xs])] 3 none) [0,1] r2 o2)
 (askK D (Key.lp 86 0) [AV.ls t1,AV.ptr 0 0,AV.ptr 1 0,AV.ls t12,iv t13,iv (A.add IntKind.i64 t14 1)] [bk [bv b4_0,AV.ls b4_1],bk [bv b5_0,AV.ls b5_1]] fun r o=>
 tailK 2 [0,1] (AH.mk [(1,bk [bv b5_0,AV.ls b5_1]),(0,bk [bv b4_0,AV.ls b4_1]),(2,bk [iv n,bv b,AV.ls xs])] 3 none) [0,1] r o))
 (askK D (Key.lp 86 0) [AV.ls t1,AV.ptr 0 0,AV.ptr 1 0,AV.ls t12,iv t13,iv (A.add IntKind.i64 t14 1)] [bk [bv b4_0,AV.ls b4_1],bk [bv b5_0,AV.ls b5_1]] fun r o=>
 tailK 2 [0,1] (AH.mk [(1,bk [bv b5_0,AV.ls b5_1]),(0,bk [bv b4_0,AV.ls b4_1]),(2,bk [iv n,bv b,AV.ls xs])] 3 none) [0,1] r o))
 (some ((AV.tup [iv 0,AV.ptr 0 0,AV.ptr 1 0],[BO.set (bk [bv b4_0,AV.ls b4_1]),BO.set (bk [bv b5_0,AV.ls b5_1])]))):=by kernel_rfl

theorem e30(x0_0:Rw)(x0_1:Bool)(x0_2:Rw)(x0_3:Bool)(x1:Rw):fnK A D ownC hn30 .n 30 mf30 [AV.agg [AV.ls x0_0,bv x0_1,AV.ls x0_2,bv x0_3],AV.ls x1] [] =
 askD D (Key.fn 86) [AV.agg [AV.ls x0_0,bv x0_1,AV.ls x0_2],AV.ls x1] [] [.a,.B,.L,.N,.E] fun b xs=>
 askD D (Key.fn 64) [AV.agg [bv b,AV.ls xs]] [] [.i,.E] fun n=>
 br (A.eq n 0)
 (some ((bv true,[])))
 (br (A.not x0_3)
 (br (A.lt 0 n)
 (some ((bv true,[])))
 (some ((bv false,[]))))
 (some ((bv false,[])))):=by kernel_rfl
end Go.Proofs.YtpncilciembjdaaGreatDoor
namespace Go.Proofs.YtpncilciembjdaaGreatDoor
open Go.RowKit
def hs79:Hints:=[]
noncomputable def mf79:MFn:=mfD Tryz.prog entsC hs79 false false 79
def hn79:Hnt:=⟨[(28,(.agg [.ls,.bool,.ls,.bool],[])),(68,(.agg [.ls,.bool,.ls],[])),(125,(.agg [.ls,.bool,.ls],[])),(126,(.agg [.bool,.ls],[])),(127,(.agg [.ls,.bool,.ls],[]))],[],[(3,[.ls,.bool,.ls])]⟩
def hs23:Hints:=[]
noncomputable def mf23:MFn:=mfD Tryz.prog entsC hs23 false false 23
def hn23:Hnt:=⟨[(68,(.agg [.ls,.bool,.ls],[])),(79,(.agg [.ls,.bool,.ls,.bool],[]))],[],[(4,[.bool]),(7,[.ls,.bool,.ls]),(11,[.ls,.bool,.ls]),(15,[.ls,.bool,.ls])]⟩
noncomputable def tabRd:List (Nat × MFn):=[(79,mf79),(23,mf23)]
variable (A:Ar) (D:Orc)
theorem e79(x0_0:Rw)(x0_1:Bool)(x0_2:Rw):fnK A D ownC hn79 .n 79 mf79 [AV.agg [AV.ls x0_0,bv x0_1,AV.ls x0_2]] [] =
 askD D (Key.fn 68) [AV.agg [AV.ls x0_0,bv x0_1,AV.ls x0_2]] [] [.a,.L,.B,.L,.N,.E] fun xs b xs1=>
 askD D (Key.fn 126) [iv 1] [] [.a,.B,.L,.N,.E] fun b1 xs2=>
 askD D (Key.fn 125) [AV.agg [bv b1,AV.ls xs2]] [] [.a,.L,.B,.L,.N,.E] fun xs3 b2 xs4=>
 askD D (Key.fn 127) [AV.agg [AV.ls xs,bv b,AV.ls xs1],AV.agg [AV.ls xs3,bv b2,AV.ls xs4]] [] [.a,.L,.B,.L,.N,.E] fun xs5 b3 xs6=>
 askD D (Key.fn 28) [AV.agg [AV.ls xs5,bv b3,AV.ls xs6]] [] [.a,.L,.B,.L,.B,.N,.E] fun xs7 b4 xs8 b5=>
 some ((AV.agg [AV.ls xs7,bv b4,AV.ls xs8,bv b5],[])):=by kernel_rfl

theorem e23(x0_0:Rw)(x0_1:Bool)(x0_2:Rw)(x0_3:Bool):fnK A D ownC hn23 .n 23 mf23 [AV.agg [AV.ls x0_0,bv x0_1,AV.ls x0_2,bv x0_3]] [] =
 br (A.not x0_3)
 (askD D (Key.fn 79) [AV.agg [AV.ls x0_0,bv x0_1,AV.ls x0_2]] [] [.a,.L,.B,.L,.B,.N,.E] fun xs b xs1 b1=>
 some ((AV.ls [[AV.ls xs,bv b,AV.ls xs1,bv b1]],[])))
 (askD D (Key.fn 68) [AV.agg [AV.ls x0_0,bv x0_1,AV.ls x0_2]] [] [.a,.L,.B,.L,.N,.E] fun xs b xs1=>
 askD D (Key.fn 79) [AV.agg [AV.ls xs,bv b,AV.ls xs1]] [] [.a,.L,.B,.L,.B,.N,.E] fun xs2 b1 xs3 b2=>
 askD D (Key.fn 79) [AV.agg [AV.ls x0_0,bv x0_1,AV.ls x0_2]] [] [.a,.L,.B,.L,.B,.N,.E] fun xs4 b3 xs5 b4=>
 some ((AV.ls [[AV.ls xs2,bv b1,AV.ls xs3,bv b2],[AV.ls xs4,bv b3,AV.ls xs5,bv b4]],[]))):=by kernel_rfl
end Go.Proofs.YtpncilciembjdaaGreatDoor
namespace Go.Proofs.YtpncilciembjdaaGreatDoor
open Go.RowKit
def hs16:Hints:=[⟨64,[true,false,true,false,false,false,false,true],[],[],[(0,([false,false,false,false,false,false,true],([],[]))),(1,([],([],[])))]⟩,⟨64,[true,false,true,false,false,false,false,true,true],[],[],[(0,([false,false,false,false,false,false,true],([],[]))),(3,([true,false,true,false,false,false,false,true],([],[])))]⟩]
noncomputable def mf16:MFn:=mfD Tryz.prog entsC hs16 false false 16
def hn16:Hnt:=⟨[],[(0,[(0,([.bool],[])),(1,([],[]))]),(1,[(0,([.bool],[])),(3,([.ls,.int .i64,.int .i64],[]))])],[(21,[.ls,.bool,.ls,.bool]),(24,[.ls]),(30,[.ls,.bool,.ls,.bool]),(34,[.ls]),(42,[.ls,.bool,.ls,.bool]),(45,[.ls]),(52,[.ls,.bool,.ls,.bool]),(55,[.ls]),(57,[.int .i64,.bool,.ls]),(60,[.ls])]⟩
noncomputable def tabFw:List (Nat × MFn):=[(16,mf16)]
variable (A:Ar) (D:Orc)
theorem e16(x0:Rw)(x1 x2:Int):fnK A D ownC hn16 .n 16 mf16 [AV.ls x0,iv x1,iv x2] [] =
 br (A.lt x1 ↑(lenR x0))
 (some ((bv false,[])))
 (askD D (Key.lp 16 0) [AV.ls x0,iv x2,iv 0] [] [.t,.C,.x,.X,.Y] fun c l o=>
 br (axIs 0 c)
 (dk [.B,.N,.E] [.l l,.o o] fun b=>
 some ((bv b,[])))
 (br (axIs 1 c)
 (unNil l<|
 unEnd o<|
 some ((bv true,[])))
 (none))):=by kernel_rfl

theorem e16_0(t0:Rw)(t2 t7:Int):lpK A D ownC hn16 .n 16 0 (lpAt mf16 0).fst (lpAt mf16 0).snd [AV.ls t0,iv t2,iv t7] [] =
 br (A.lt t7 ↑(lenR t0))
 (unI t7 fun i=>
 nthK t0 i fun cs=>
 dk [.L,.B,.L,.B,.N] [.l cs] fun xs _ _ _=>
 br (A.lt 20 ↑(lenR xs))
 (some ((AV.tup [bv true,bv false],[])))
 (unI t7 fun i1=>
 nthK t0 i1 fun cs1=>
 dk [.L,.B,.L,.B,.N] [.l cs1] fun _ _ xs3 _=>
 br (A.lt t2 ↑(lenR xs3))
 (some ((AV.tup [bv true,bv false],[])))
 (askD D (Key.lp 16 1) [AV.ls t0,iv t2,iv t7,iv 0] [] [.t,.C,.x,.X,.Y] fun c l8 o=>
 br (axIs 0 c)
 (dk [.B,.N,.E] [.l l8,.o o] fun b4=>
 some ((AV.tup [bv true,bv b4],[])))
 (br (axIs 3 c)
 (dk [.L,.I,.I,.N,.E] [.l l8,.o o] fun xs4 n n1=>
 askK D (Key.lp 16 0) [AV.ls xs4,iv n,iv (A.add IntKind.i64 n1 1)] [] fun r1 o1=>
 tailK 0 [] (AH.mk [] 0 none) [] r1 o1)
 (none)))))
 (some ((AV.tup [iv 0],[]))):=by kernel_rfl

theorem e16_1(t0:Rw)(t2 t7 t8:Int):lpK A D ownC hn16 .n 16 1 (lpAt mf16 1).fst (lpAt mf16 1).snd [AV.ls t0,iv t2,iv t7,iv t8] [] =
 unI t7 fun i=>
 nthK t0 i fun cs=>
 dk [.L,.B,.L,.B,.N] [.l cs] fun xs _ _ _=>
 br (A.lt t8 ↑(lenR xs))
 (unI t7 fun i1=>
 nthK t0 i1 fun cs1=>
 dk [.L,.B,.L,.B,.N] [.l cs1] fun xs2 _ _ _=>
 unI t8 fun i2=>
 nthK xs2 i2 fun cs2=>
 dk [.I,.B,.L,.N] [.l cs2] fun _ _ xs4=>
 br (A.lt t2 ↑(lenR xs4))
 (some ((AV.tup [bv true,bv false],[])))
 (askK D (Key.lp 16 1) [AV.ls t0,iv t2,iv t7,iv (A.add IntKind.i64 t8 1)] [] fun r o=>
 tailK 0 [] (AH.mk [] 0 none) [] r o))
 (some ((AV.tup [iv 2,AV.ls t0,iv t2,iv t7],[]))):=by kernel_rfl
end Go.Proofs.YtpncilciembjdaaGreatDoor
namespace Go.Proofs.YtpncilciembjdaaGreatDoor
open Go.RowKit
def hs77:Hints:=[⟨36,[false,true,true,false,true,true,true],[],[2,4,5],[(1,([false,false,false,false,true,true],([],[2])))]⟩]
noncomputable def mf77:MFn:=mfD Tryz.prog entsC hs77 false false 77
def hs87:Hints:=[⟨27,[false,true,true,false,true,true,true],[],[2,4,5],[(1,([false,false,false,false,true,true],([],[2])))]⟩]
noncomputable def mf87:MFn:=mfD Tryz.prog entsC hs87 false false 87
def hs31:Hints:=[]
noncomputable def mf31:MFn:=mfD Tryz.prog entsC hs31 false false 31
def hs29:Hints:=[⟨26,[true,false,true,false,false,false,false,true],[],[],[(0,([false,false,false,false,false,false,true],([],[]))),(1,([],([],[])))]⟩]
noncomputable def mf29:MFn:=mfD Tryz.prog entsC hs29 false false 29
def hn29:Hnt:=⟨[],[(0,[(0,([.bool],[])),(1,([],[]))])],[(20,[.bool,.ls]),(22,[.ls])]⟩
def hs37:Hints:=[⟨65,[false,true,true,false,false,true],[],[2],[(0,([false,false,false,false,true],([],[2]))),(2,([],([],[2])))]⟩,⟨65,[false,true,true,false,false,false,true],[],[2],[(0,([false,false,false,false,true],([],[2]))),(4,([],([],[2])))]⟩]
noncomputable def mf37:MFn:=mfD Tryz.prog entsC hs37 false false 37
noncomputable def tabRh:List (Nat × MFn):=[(77,mf77),(87,mf87),(31,mf31),(29,mf29),(37,mf37)]
variable (A:Ar) (D:Orc)
theorem e29(x0:Rw)(x1 x2:Int):fnK A D ownC hn29 .n 29 mf29 [AV.ls x0,iv x1,iv x2] [] =
 br (A.lt x1 ↑(lenR x0))
 (some ((bv false,[])))
 (askD D (Key.lp 29 0) [AV.ls x0,iv x2,iv 0] [] [.t,.C,.x,.X,.Y] fun c l o=>
 br (axIs 0 c)
 (dk [.B,.N,.E] [.l l,.o o] fun b=>
 some ((bv b,[])))
 (br (axIs 1 c)
 (unNil l<|
 unEnd o<|
 some ((bv true,[])))
 (none))):=by kernel_rfl

theorem e29_0(t0:Rw)(t2 t7:Int):lpK A D ownC hn29 .n 29 0 (lpAt mf29 0).fst (lpAt mf29 0).snd [AV.ls t0,iv t2,iv t7] [] =
 br (A.lt t7 ↑(lenR t0))
 (unI t7 fun i=>
 nthK t0 i fun cs=>
 dk [.B,.L,.N] [.l cs] fun _ xs=>
 br (A.lt t2 ↑(lenR xs))
 (some ((AV.tup [bv true,bv false],[])))
 (askK D (Key.lp 29 0) [AV.ls t0,iv t2,iv (A.add IntKind.i64 t7 1)] [] fun r o=>
 tailK 0 [] (AH.mk [] 0 none) [] r o))
 (some ((AV.tup [iv 0],[]))):=by kernel_rfl

end Go.Proofs.YtpncilciembjdaaGreatDoor
namespace Go.Proofs.YtpncilciembjdaaGreatDoor
open Go.RowKit
def hs5:Hints:=[⟨41,[false,true,true,false,false,true,false,false,false,false,false,false,false,false,false,false,false,false,false,false,true,true,true],[],[2],[(0,([false,false,false,false,true],([],[2]))),(1,([false,true,true,false,false,true],([],[])))]⟩]
noncomputable def mf5:MFn:=mfD Tryz.prog entsC hs5 false false 5
def hn5:Hnt:=⟨[(15,(.bool,[])),(16,(.bool,[])),(23,(.ls,[])),(29,(.bool,[])),(30,(.bool,[]))],[(0,[(0,([.bool],[.del])),(1,([.ls,.ptr 0 0,.int .i64],[.box [.ls,.bool,.ls,.bool]]))])],[(10,[.ls,.bool,.ls,.bool]),(19,[.ls,.bool,.ls,.bool]),(24,[.ls,.bool,.ls,.bool]),(25,[.ls,.bool,.ls,.bool]),(27,[.bool]),(28,[.ls,.bool,.ls,.bool]),(34,[.ls,.bool,.ls,.bool])]⟩
noncomputable def tabLr2:List (Nat × MFn):=[(5,mf5)]
variable (A:Ar) (D:Orc)
theorem e5(x0_0:Rw)(x0_1:Bool)(x0_2:Rw)(x0_3:Bool)(x1:Rw):fnK A D ownC hn5 .n 5 mf5 [AV.agg [AV.ls x0_0,bv x0_1,AV.ls x0_2,bv x0_3],AV.ls x1] [] =
 askD D (Key.fn 15) [] [] [.b,.E] fun b=>
 br b
 (askD D (Key.fn 16) [AV.ls [[AV.ls x0_0,bv x0_1,AV.ls x0_2,bv x0_3]],iv 1,iv 12] [] [.b,.E] fun b1=>
 br b1
 (askD D (Key.fn 29) [AV.ls x1,iv 20,iv 12] [] [.b,.E] fun b2=>
 br b2
 (askD D (Key.fn 23) [AV.agg [AV.ls x0_0,bv x0_1,AV.ls x0_2,bv x0_3]] [] [.l,.E] fun xs=>
 askD D (Key.lp 5 0) [AV.ls x1,AV.ptr 0 0,iv 0,AV.ls xs,iv ↑(lenR xs),iv 0] [bk [AV.ls x0_0,bv x0_1,AV.ls x0_2,bv x0_3]] [.t,.C,.x,.X,.Y] fun c l o4=>
 br (axIs 0 c)
 (dk [.B,.N,.D,.E] [.l l,.o o4] fun b3=>
 some ((bv b3,[])))
 (br (axIs 1 c)
 (dk [.L,.P 0 0,.I,.N,.T,.L,.B,.L,.B,.N,.E] [.l l,.o o4] fun xs1 n xs2 b3 xs3 b4=>
 askD D (Key.fn 30) [AV.agg [AV.ls xs2,bv b3,AV.ls xs3,bv b4],AV.ls xs1] [] [.b,.E] fun b5=>
 br b5
 (br (A.eq n 0)
 (some ((bv true,[])))
 (some ((bv false,[]))))
 (br (A.eq n 1)
 (some ((bv true,[])))
 (some ((bv false,[])))))
 (none)))
 (some ((bv true,[]))))
 (some ((bv true,[]))))
 (some ((bv false,[]))):=by kernel_rfl

theorem e5_0(t1 b2_0:Rw)(b2_1:Bool)(b2_2:Rw)(b2_3:Bool)(t5:Int)(t20:Rw)(t21 t22:Int):lpK A D ownC hn5 .n 5 0 (lpAt mf5 0).fst (lpAt mf5 0).snd [AV.ls t1,AV.ptr 0 0,iv t5,AV.ls t20,iv t21,iv t22] [bk [AV.ls b2_0,bv b2_1,AV.ls b2_2,bv b2_3]] =
 br (A.lt t22 t21)
 (unI t22 fun i=>
 nthK t20 i fun cs=>
 dk [.L,.B,.L,.B,.N] [.l cs] fun xs b xs1 b1=>
 br b1
 (some ((AV.tup [bv true,bv false],[BO.del])))
 (askD D (Key.fn 30) [AV.agg [AV.ls xs,bv b,AV.ls xs1,bv b1],AV.ls t1] [] [.b,.E] fun b2=>
 br b2
 (askK D (Key.lp 5 0) [AV.ls t1,AV.ptr 0 0,iv (A.add IntKind.i64 t5 1),AV.ls t20,iv t21,iv (A.add IntKind.i64 t22 1)] [bk [AV.ls b2_0,bv b2_1,AV.ls b2_2,bv b2_3]] fun r1 o1=>
 tailK 1 [0] (AH.mk [(0,bk [AV.ls b2_0,bv b2_1,AV.ls b2_2,bv b2_3]),(1,bk [AV.ls xs,bv b,AV.ls xs1,bv b1])] 2 none) [0] r1 o1)
 (askK D (Key.lp 5 0) [AV.ls t1,AV.ptr 0 0,iv t5,AV.ls t20,iv t21,iv (A.add IntKind.i64 t22 1)] [bk [AV.ls b2_0,bv b2_1,AV.ls b2_2,bv b2_3]] fun r1 o1=>
 tailK 1 [0] (AH.mk [(0,bk [AV.ls b2_0,bv b2_1,AV.ls b2_2,bv b2_3]),(1,bk [AV.ls xs,bv b,AV.ls xs1,bv b1])] 2 none) [0] r1 o1)))
 (some ((AV.tup [iv 0,AV.ls t1,AV.ptr 0 0,iv t5],[BO.set (bk [AV.ls b2_0,bv b2_1,AV.ls b2_2,bv b2_3])]))):=by kernel_rfl
end Go.Proofs.YtpncilciembjdaaGreatDoor
