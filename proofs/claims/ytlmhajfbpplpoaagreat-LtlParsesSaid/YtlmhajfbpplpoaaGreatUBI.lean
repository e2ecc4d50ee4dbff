/-
  Layer 14's alive: its parts, computed.
  Layer 14's laws: alive, few systems.
  Functions of the program as trees: what a call comes to.
  ExprParses' law: what the program parses, the reference parses.
  LtlParses' law.
-/
import Derived.Test.YtlmhajfbpplpoaaGreatUBA
import Derived.Test.YtlmhajfbpplpoaaGreatUBH
import Derived.Test.YtlmhajfbpplpoaaGreatUBG
import Derived.Test.YtlmhajfbpplpoaaGreatUBC
import Derived.Test.YtlmhajfbpplpoaaGreatUAS
set_option linter.unusedSectionVars false
set_option linter.unusedSimpArgs false
set_option linter.unusedVariables false
namespace Go.Proofs.YtlmhajfbpplpoaaGreat
open Go.RowKit

noncomputable def DAn:Orc:=Dn realA seatAm 60
def sysY:Sy:=⟨[bstr [120],bstr [121]],[],0,[],false,[],false,[],[⟨bstr [112],[bstr [97],bstr [98]],[]⟩],[]⟩
def q4cmp:Tr:=.mk 2 [⟨false,bstr [],bstr [120]⟩] [⟨false,bstr [48],bstr []⟩] 4 (bstr []) (bstr []) []
def q4at:Tr:=.mk 6 [] [] 0 (bstr [112]) (bstr [98]) []
def q4:Tr:=lmk 9 [lmk 7 [q4cmp,lmk 10 [q4at]]]
def q4bad:Tr:=lmk 99 []
def s41:List UInt8:=[71,32,40,120,32,62,32,48,32,45,62,32,70,32,64,112,46,98,41]
def s42:List UInt8:=[120,32,61,32,49,32,85]
def s43:List UInt8:=[64,112,46,99]
set_option maxRecDepth 1000000
theorem p41:lparseP s41 sysY.vars sysY.ps=(q4,0,0,0):=by
 unfold lparseP
 rw[lexAllK_eq]
 kernel_rfl
theorem p42:lparseP s42 sysY.vars sysY.ps=(T0,1,8,101):=by
 unfold lparseP
 rw[lexAllK_eq]
 kernel_rfl
theorem p43:lparseP s43 sysY.vars sysY.ps=(T0,1,4,110):=by
 unfold lparseP
 rw[lexAllK_eq]
 kernel_rfl
def chkRes:Option (AV × List BO)->Bool
 |some (.tup [.agg [.v (.int .i64 9),.v (.int .i64 _),.ls _],.ls [_,[.v (.bool true),.v (.int .i64 _),.v (.int .i64 1),.v (.int .i64 _),.ls _,.v (.bool _),.ls _,.v (.bool _),.ls _]],.v (.bool true)],[])=>true
 |_=>false
def chkNo:Option (AV × List BO)->Bool
 |some (.tup [.agg [.v (.int .i64 _),.v (.int .i64 _),.ls _],.ls _,.v (.bool false)],[])=>true
 |_=>false
def isLs4(l:List UInt8):Option (AV × List BO)->Bool
 |some (.v (.string s),[])=>s.data.toList == l
 |_=>false
theorem k_res:chkRes (DAn.ask (.fn 34) [.agg (eTr q4),.agg (eSy sysY)] [])=true:=by kernel_rfl
theorem k_no:chkNo (DAn.ask (.fn 34) [.agg (eTr q4bad),.agg (eSy sysY)] [])=true:=by kernel_rfl
theorem k_ltext:isLs4 s41 (DAn.ask (.fn 38) [.agg (eTr q4)] [])=true:=by kernel_rfl
end Go.Proofs.YtlmhajfbpplpoaaGreat
namespace Go.Proofs.YtlmhajfbpplpoaaGreat
open Go.RowKit

theorem chkRes_of{o:Option (AV × List BO)}(h:chkRes o=true):∃ a b c d e f g i j k,o=some (.tup [.agg [iv 9,iv a,.ls b],.ls [c,[bv true,iv d,iv 1,iv e,.ls f,bv g,.ls i,bv j,.ls k]],bv true],[]):=by
 unfold chkRes at h
 split at h
 .exact⟨_,_,_,_,_,_,_,_,_,_,rfl⟩
 .cases h
theorem chkNo_of{o:Option (AV × List BO)}(h:chkNo o=true):∃ a b c d,o=some (.tup [.agg [iv a,iv b,.ls c],.ls d,bv false],[]):=by
 unfold chkNo at h
 split at h
 .exact⟨_,_,_,_,rfl⟩
 .cases h
theorem isLs4_of{l:List UInt8}{o:Option (AV × List BO)}(h:isLs4 l o=true):o=some (sv (bstr l),[]):=by
 unfold isLs4 at h
 split at h
 .rename_i s
  have:s.data.toList=l:=by simpa using h
  subst this
  rfl
 .cases h
def fewB(y:Sy):Bool:=decide (y.vars.length<=50)&&decide (y.ps.length<=12)&&y.ps.all fun p=>decide (p.locs.length<=50)
structure FewY (y:Sy):Prop where
 v:y.vars.length<=50
 p:y.ps.length<=12
 q:∀ p∈y.ps,p.locs.length<=50
theorem fewB_iff{y:Sy}:fewB y=true ↔ FewY y:=by
 unfold fewB
 simp only[Bool.and_eq_true,decide_eq_true_eq,List.all_eq_true]
 exact⟨fun ⟨⟨a,b⟩,c⟩=>⟨a,b,c⟩,fun ⟨a,b,c⟩=>⟨⟨a,b⟩,c⟩⟩
structure Al4F (D:Orc):Prop where
 res:∃ a b c d e f g i j k,D.ask (.fn 34) [.agg (eTr q4),.agg (eSy sysY)] []=some (.tup [.agg [iv 9,iv a,.ls b],.ls [c,[bv true,iv d,iv 1,iv e,.ls f,bv g,.ls i,bv j,.ls k]],bv true],[])
 no:∃ a b c d,D.ask (.fn 34) [.agg (eTr q4bad),.agg (eSy sysY)] []=some (.tup [.agg [iv a,iv b,.ls c],.ls d,bv false],[])
 text:D.ask (.fn 38) [.agg (eTr q4)] []=some (sv (bstr s41),[])
section
variable {D:Orc}
theorem sys_ok(Kv:Knows ownC tabAv4 D):D.ask (.fn 42) [] []=some (.agg (eSy sysY),[]):=
 Kv.fn' hn42 _ rfl ((e42 ..).trans rfl)
theorem few_lp(Kv:Knows ownC tabAv4 D)(ps:List Pr)(hp:ps.length<4611686018427387904):∀(k i:Nat),ps.length-i=k->D.ask (.lp 31 0) [.ls (ps.map ePr),iv (ps.length:Int),iv (i:Int)] []
  = some (if(ps.drop i).all (fun p=>decide (p.locs.length<=50)) then .tup [iv 0] else .tup [bv true,bv false],[]):=by
 intro k
 induction k with
 |zero=>
  intro i hi
  refine Kv.lp' hn31 _ rfl (by kernel_rfl) ((e31_0 ..).trans ?_)
  rw[show ps.drop i=[] from List.drop_eq_nil_of_le (by omega)]
  refine(br_ltF (by omega)).trans ?_
  rfl
 |succ k ih=>
  intro i hi
  have hlt:i<ps.length:=by omega
  have ih':=ih (i+1) (by omega)
  rw[show ps.drop i=ps[i]::ps.drop (i+1) from List.drop_eq_getElem_cons hlt,List.all_cons]
  refine Kv.lp' hn31 _ rfl (by kernel_rfl) ((e31_0 ..).trans ?_)
  refine(br_ltT (by omega)).trans ?_
  rw[unI_n,nthK_some (List.getElem?_eq_getElem hlt)]
  simp only[ePr,ND,lenR_map]
  by_cases h:ps[i].locs.length<=50
  .refine(br_ltF (by omega)).trans ?_
   rw[decide_eq_true h,add1 (by omega),Bool.true_and]
   refine(askK_of ih' _).trans ?_
   cases (ps.drop (i+1)).all (fun p=>decide (p.locs.length<=50))<;>rfl
  .refine(br_ltT (by omega)).trans ?_
   rw[decide_eq_false h,Bool.false_and]
   rfl
theorem few_ok(Kv:Knows ownC tabAv4 D)(y:Sy):D.ask (.fn 31) [.agg (eSy y)] []=some (bv (fewB y),[]):=by
 refine Kv.fn' hn31 _ rfl ((e31 ..).trans ?_)
 rw[lenR_map,lenR_map]
 unfold fewB
 by_cases h1:y.vars.length<=50
 .refine(br_ltF (by omega)).trans ?_
  rw[decide_eq_true h1,Bool.true_and]
  by_cases h2:y.ps.length<=12
  .refine(br_ltF (by omega)).trans ?_
   rw[decide_eq_true h2,Bool.true_and]
   refine(askK_of (few_lp Kv y.ps (by omega) _ 0 rfl) _).trans ?_
   rw[List.drop_zero]
   cases y.ps.all (fun p=>decide (p.locs.length<=50))<;>rfl
  .refine(br_ltT (by omega)).trans ?_
   rw[decide_eq_false h2]
   rfl
 .refine(br_ltT (by omega)).trans ?_
  rw[decide_eq_false h1]
  rfl
theorem sysY_few:FewY sysY:=fewB_iff.1 rfl
theorem q4_wz:WzT q4:=by
 have z:(bstr []).size<=9223372036854775807:=by decide
 have at':WzT q4at:=.mk (by simp) (by simp) (by simp) (by simp) (by simp) (by simp)
 have cm:WzT q4cmp:=.mk (by simp) (by simp) (by simp) (by simp;exact⟨by decide,by decide⟩) (by simp;exact⟨by decide,by decide⟩) (by simp)
 have f:WzT (lmk 10 [q4at]):=.mk (by simp) (by simp) (by simp) (by simp) (by simp) (by simpa using at')
 have im:WzT (lmk 7 [q4cmp,lmk 10 [q4at]]):=.mk (by simp) (by simp) (by simp) (by simp) (by simp) (by intro x hx;rcases List.mem_cons.1 hx with rfl|hx;exact cm;rcases List.mem_cons.1 hx with rfl|hx;exact f;cases hx)
 exact .mk (by simp) (by simp) (by simp) (by simp) (by simp) (by simpa using im)
theorem q4_wp:WzP q4:=by
 have at':WzP q4at:=.mk (by decide) (by decide) (by simp)
 have cm:WzP q4cmp:=.mk (by decide) (by decide) (by simp)
 have f:WzP (lmk 10 [q4at]):=.mk (by decide) (by decide) (by simpa using at')
 have im:WzP (lmk 7 [q4cmp,lmk 10 [q4at]]):=.mk (by decide) (by decide) (by intro x hx;rcases List.mem_cons.1 hx with rfl|hx;exact cm;rcases List.mem_cons.1 hx with rfl|hx;exact f;cases hx)
 exact .mk (by decide) (by decide) (by simpa using im)
set_option maxRecDepth 100000 in
theorem q4_right:lrightB q4 0=true:=by kernel_rfl
theorem nth_hd(a:List AV)(r:List (List AV))(k:List AV->KR):nthK (a::r) 0 k=k a:=rfl
theorem nth_sn(a b:List AV)(r:List (List AV))(k:List AV->KR):nthK (a::b::r) 1 k=k b:=rfl
set_option maxRecDepth 100000 in
theorem alive4_ok(K:Knows ownC tabEa D)(Kb:Knows ownC tabEb D)(Kq:Knows ownC tabTq D)(Kr:Knows ownC tabTr D)(Kw:Knows ownC tabWa D)(L:NameF D)(A:LexA D)(Kl:Knows ownC tabTl D)(Kt:Knows ownC tabTa D)(N:LexN D)(Kv:Knows ownC tabAv4 D)(F:Al4F D):D.ask (.fn 30) [] []=some (bv true,[]):=by
 have hf:=sysY_few
 have par:=fun(l:List UInt8) (hl:(bstr l).size<=9223372036854775807)=>lparse_ok K Kb Kq Kr Kw L sysY (by have:=hf.v;omega) (by have:=hf.p;omega) (fun p hp=>by have:=hf.q p hp;omega) A (bstr l) hl
 have g1:=par s41 (by decide)
 have g2:=par s42 (by decide)
 have g3:=par s43 (by decide)
 rw[bstr_data,p41]at g1
 rw[bstr_data,p42]at g2
 rw[bstr_data,p43]at g3
 have gs:=sys_ok Kv
 obtain⟨a,b,c,d,e,f,g,i,j,k,r1⟩:=F.res
 obtain⟨a',b',c',d',r2⟩:=F.no
 have gr:=lRight_ok Kl Kt N q4 q4_wz q4_wp
 rw[q4_right]at gr
 have gt:=F.text
 obtain⟨k7,hq⟩:∃ k7,eTr q4=[iv 9,.ls [],.ls [],iv 0,sv (bstr []),sv (bstr []),.ls [[iv 7,.ls [],.ls [],iv 0,sv (bstr []),sv (bstr []),.ls k7]]]:=⟨_,rfl⟩
 have g1:D.ask (.fn 32) [sv (bstr s41),.agg (eSy sysY)] []=some (.tup [.agg (eTr q4),.agg [iv 0,iv 0],iv 0],[]):=g1
 have g2:D.ask (.fn 32) [sv (bstr s42),.agg (eSy sysY)] []=some (.tup [.agg (eTr T0),.agg [iv 1,iv 8],iv 101],[]):=g2
 have g3:D.ask (.fn 32) [sv (bstr s43),.agg (eSy sysY)] []=some (.tup [.agg (eTr T0),.agg [iv 1,iv 4],iv 110],[]):=g3
 rw[hq]at g1 r1 gr gt
 refine Kv.fn' hn30 _ rfl ((e30 ..).trans ?_)
 refine(askK_of gs _).trans ?_
 simp only[eSy,ND]
 refine(askK_of g1 _).trans ?_
 simp only[ND]
 refine(askK_of gs _).trans ?_
 simp only[eSy,ND]
 refine(askK_of g2 _).trans ?_
 simp only[T0,eTr,ND]
 refine(askK_of gs _).trans ?_
 simp only[eSy,ND]
 refine(askK_of g3 _).trans ?_
 simp only[T0,eTr,ND]
 refine(br_eqT rfl).trans ?_
 refine(br_eqT rfl).trans ?_
 refine Eq.trans (nth_hd _ _ _) ?_
 simp only[ND]
 refine(br_eqT rfl).trans ?_
 refine(br_eqT rfl).trans ?_
 rw[show realA.not (realA.band (realA.eq 1 1) (realA.band (realA.eq 8 8) true))=false from not_same 1 8]
 refine(br_f _ _).trans ?_
 refine(br_eqT rfl).trans ?_
 refine(askK_of gs _).trans ?_
 simp only[eSy,ND]
 refine(askK_of r1 _).trans ?_
 simp only[ND]
 refine(askK_of gs _).trans ?_
 simp only[eSy,ND]
 refine(askK_of r2 _).trans ?_
 simp only[ND]
 refine(askK_of gt _).trans ?_
 simp only[ND]
 refine(br_seqT rfl).trans ?_
 refine(askK_of gr _).trans ?_
 simp only[ND]
 refine(br_eqT rfl).trans ?_
 refine(br_eqT rfl).trans ?_
 refine Eq.trans (nth_sn _ _ _ _) ?_
 simp only[ND]
 refine Eq.trans (nth_sn _ _ _ _) ?_
 simp only[ND]
 refine(br_eqT rfl).trans ?_
 rfl
end
end Go.Proofs.YtlmhajfbpplpoaaGreat
namespace Go.Proofs.YtlmhajfbpplpoaaGreat
open Go.RowKit
def hs3:Hints:=[]
noncomputable def mf3:MFn:=mfD Tryz.prog entsC hs3 false false 3
def hn3:Hnt:=⟨[(14,(.bool,[])),(15,(.tup [.ls,.agg [.int .i64,.int .i64],.int .i64],[])),(16,(.tup [.ls,.agg [.int .i64,.int .i64],.int .i64],[])),(17,(.tup [.agg [.int .i64,.ls,.ls,.int .i64,.str,.str,.ls],.agg [.int .i64,.int .i64],.int .i64],[])),(18,(.tup [.agg [.int .i64,.ls,.ls,.int .i64,.str,.str,.ls],.agg [.int .i64,.int .i64],.int .i64],[])),(19,(.bool,[])),(20,(.bool,[]))],[],[(45,[.int .i64,.int .i64]),(46,[.int .i64,.int .i64]),(60,[.int .i64,.int .i64]),(61,[.int .i64,.int .i64]),(65,[.int .i64,.ls,.ls,.int .i64,.str,.str,.ls]),(66,[.int .i64,.ls,.ls,.int .i64,.str,.str,.ls])]⟩
theorem e3(A:Ar)(D:Orc)(x0:ByteArray):fnK A D ownC hn3 .n 3 mf3 [sv x0] [] =
 askK D (Key.fn 14) [] [] fun r o=>
 unBool r fun b=>
 unEnd o<|
 br b
 (askK D (Key.fn 15) [sv x0] [] fun r1 o1=>
 unTup r1 fun cs=>
 cLs cs fun xs l=>
 unCons l fun c l1=>
 unAgg c fun cs1=>
 cInt IntKind.i64 cs1 fun n l2=>
 cInt IntKind.i64 l2 fun n1 l3=>
 unNil l3<|
 cInt IntKind.i64 l1 fun n2 l4=>
 unNil l4<|
 unEnd o1<|
 askK D (Key.fn 16) [sv x0] [] fun r2 o2=>
 unTup r2 fun cs2=>
 cLs cs2 fun xs1 l5=>
 unCons l5 fun c1 l6=>
 unAgg c1 fun cs3=>
 cInt IntKind.i64 cs3 fun n3 l7=>
 cInt IntKind.i64 l7 fun n4 l8=>
 unNil l8<|
 cInt IntKind.i64 l6 fun n5 l9=>
 unNil l9<|
 unEnd o2<|
 askK D (Key.fn 17) [sv x0] [] fun r3 o3=>
 unTup r3 fun cs4=>
 unCons cs4 fun c2 l10=>
 unAgg c2 fun cs5=>
 cInt IntKind.i64 cs5 fun n6 l11=>
 cLs l11 fun xs2 l12=>
 cLs l12 fun xs3 l13=>
 cInt IntKind.i64 l13 fun n7 l14=>
 cStr l14 fun s l15=>
 cStr l15 fun s1 l16=>
 cLs l16 fun xs4 l17=>
 unNil l17<|
 unCons l10 fun c3 l18=>
 unAgg c3 fun cs6=>
 cInt IntKind.i64 cs6 fun n8 l19=>
 cInt IntKind.i64 l19 fun n9 l20=>
 unNil l20<|
 cInt IntKind.i64 l18 fun n10 l21=>
 unNil l21<|
 unEnd o3<|
 askK D (Key.fn 18) [sv x0] [] fun r4 o4=>
 unTup r4 fun cs7=>
 unCons cs7 fun c4 l22=>
 unAgg c4 fun cs8=>
 cInt IntKind.i64 cs8 fun n11 l23=>
 cLs l23 fun xs5 l24=>
 cLs l24 fun xs6 l25=>
 cInt IntKind.i64 l25 fun n12 l26=>
 cStr l26 fun s2 l27=>
 cStr l27 fun s3 l28=>
 cLs l28 fun xs7 l29=>
 unNil l29<|
 unCons l22 fun c5 l30=>
 unAgg c5 fun cs9=>
 cInt IntKind.i64 cs9 fun n13 l31=>
 cInt IntKind.i64 l31 fun n14 l32=>
 unNil l32<|
 cInt IntKind.i64 l30 fun n15 l33=>
 unNil l33<|
 unEnd o4<|
 br (A.eq n2 n5)
 (br (A.band (A.eq n n3) (A.band (A.eq n1 n4) true))
 (askK D (Key.fn 19) [AV.ls xs,AV.ls xs1] [] fun r5 o5=>
 unBool r5 fun b1=>
 unEnd o5<|
 br b1
 (br (A.eq n10 n15)
 (br (A.band (A.eq n8 n13) (A.band (A.eq n9 n14) true))
 (askK D (Key.fn 20) [AV.agg [iv n6,AV.ls xs2,AV.ls xs3,iv n7,sv s,sv s1,AV.ls xs4],AV.agg [iv n11,AV.ls xs5,AV.ls xs6,iv n12,sv s2,sv s3,AV.ls xs7]] [] fun r6 o6=>
 unBool r6 fun b2=>
 unEnd o6<|
 br b2
 (some ((bv true,[])))
 (some ((bv false,[]))))
 (some ((bv false,[]))))
 (some ((bv false,[]))))
 (some ((bv false,[]))))
 (some ((bv false,[]))))
 (some ((bv false,[]))))
 (some ((bv false,[]))):=by kernel_rfl
end Go.Proofs.YtlmhajfbpplpoaaGreat
namespace Go.Proofs.YtlmhajfbpplpoaaGreat
open Go.RowKit

theorem band_same(a b:Int):realA.band (realA.eq a a) (realA.band (realA.eq b b) true)=true:=by
 rw[r_eq,r_eq,decide_eq_true rfl,decide_eq_true rfl]
 rfl
section
variable {D:Orc}
end
end Go.Proofs.YtlmhajfbpplpoaaGreat
namespace Go.Proofs.YtlmhajfbpplpoaaGreat
open Go.RowKit

theorem lmk_wf1{k:Int}{x:Tr}(h:WfT x):WfT (lmk k [x]):=kid_wf h
theorem lmk_wf2{k:Int}{x y:Tr}(h:WfT x)(h2:WfT y):WfT (lmk k [x,y]):=kids_wf h h2
def wfLJ:LJ->Prop
 |.andL x=>WfT x
 |.orL x=>WfT x
 |_=>True
section
variable (ts:List Tk) (vars:List ByteArray) (kn:Bool) (ps:List Pr)
theorem lplaceP_wf(i:Nat):WfT (lplaceP ts ps i).2.2:=by
 unfold lplaceP
 repeat' split
 all_goals first
  |exact T0_wf
  |exact .mk (by decide) (by decide) (by decide) (by simp)
theorem thenT_wf{q:Nat × Nat × Tr}{k:Nat->Tr->Nat × Nat × Tr}(hk:q.2.1=0->WfT (k q.1 q.2.2).2.2):WfT (thenT q k).2.2:=by
 unfold thenT
 split
 .rename_i h;exact hk h
 .exact T0_wf
theorem ljP_wf:∀(n:Nat) (j:LJ) (i d:Nat),wfLJ j->WfT (ljP ts vars kn ps n j i d).2.2:=by
 intro n
 induction n with
 |zero=>intro j i d _;cases j<;>exact T0_wf
 |succ n ih=>
  intro j i d hj
  cases j with
  |un=>
   unfold ljP
   split
   .exact T0_wf
   .split
    .exact thenT_wf fun _=>lmk_wf1 (ih .un _ _ trivial)
    .split
     .refine thenT_wf fun _=>?_
      split
      .exact ih .prop _ _ trivial
      .exact T0_wf
     .split
      .exact lplaceP_wf ts ps _
      .split
       .exact leaf_wf 0
       .split
        .exact leaf_wf 1
        .exact cmpP_wf ts vars kn i
  |bin=>
   unfold ljP
   refine thenT_wf fun _=>?_
   split
   .exact thenT_wf fun _=>lmk_wf2 (ih .un _ _ trivial) (ih .bin _ _ trivial)
   .split
    .exact thenT_wf fun _=>lmk_wf2 (ih .un _ _ trivial) (ih .bin _ _ trivial)
    .exact ih .un _ _ trivial
  |and=>
   unfold ljP
   exact thenT_wf fun _=>ih (.andL _) _ _ (ih .bin _ _ trivial)
  |or=>
   unfold ljP
   exact thenT_wf fun _=>ih (.orL _) _ _ (ih .and _ _ trivial)
  |prop=>
   unfold ljP
   refine thenT_wf fun _=>?_
   split
   .exact thenT_wf fun _=>lmk_wf2 (ih .or _ _ trivial) (ih .prop _ _ trivial)
   .exact ih .or _ _ trivial
  |andL x=>
   unfold ljP
   split
   .exact thenT_wf fun _=>ih (.andL _) _ _ (lmk_wf2 hj (ih .bin _ _ trivial))
   .exact hj
  |orL x=>
   unfold ljP
   split
   .exact thenT_wf fun _=>ih (.orL _) _ _ (lmk_wf2 hj (ih .and _ _ trivial))
   .exact hj
end
theorem lparseP_wf(s:List UInt8)(vars:List ByteArray)(ps:List Pr):WfT (lparseP s vars ps).1:=by
 unfold lparseP
 split
 .exact T0_wf
 .exact ljP_wf _ _ _ _ _ .prop _ _ trivial
section
variable {D:Orc}
theorem lparses_ok(K:Knows ownC tabEa D)(Kb:Knows ownC tabEb D)(Kq:Knows ownC tabTq D)(Kr:Knows ownC tabTr D)(Kw:Knows ownC tabWa D)(L:NameF D)(Ra:Knows ownC tabRa D)(Rl:Knows ownC tabRl D)(R:RNameF D)(A:LexF D)(Ks:Knows ownC tabSa D)(Kv:Knows ownC tabAv4 D)(Kp:Knows ownC tabLp4 D)
  (ha:D.ask (.fn 30) [] []=some (bv true,[])) (s:ByteArray) (hs:s.size<=9223372036854775807) (y:Sy):D.ask (.fn 8) [sv s,.agg (eSy y)] []=some (bv true,[]):=by
 refine Kp.fn' hn8 _ rfl ((e8 ..).trans ?_)
 refine(askK_of ha _).trans ?_
 simp only[ND]
 refine(askK_of (few_ok Kv y) _).trans ?_
 simp only[ND]
 cases hf:fewB y with
 |false=>rfl
 |true=>
  refine(br_t _ _).trans ?_
  have hf:=fewB_iff.1 hf
  have hv:y.vars.length<4611686018427387904:=by have:=hf.v;omega
  have hp:y.ps.length<=1000000:=by have:=hf.p;omega
  have hq:∀ p∈y.ps,p.locs.length<4611686018427387904:=fun p hp=>by have:=hf.q p hp;omega
  have g:=lparse_ok K Kb Kq Kr Kw L y hv hp hq A.toA s hs
  have g2:=rlparse_ok Ra Rl R A y hv hp hq s hs
  have wf:=lparseP_wf s.data.toList y.vars y.ps
  have wf2:WfT (ifOk (lparseP s.data.toList y.vars y.ps).2.2.2 (lparseP s.data.toList y.vars y.ps).1):=by
   unfold ifOk
   split
   .exact wf
   .exact T0_wf
  unfold wholeA at g g2
  revert g g2 wf2
  rcases ifOk (lparseP s.data.toList y.vars y.ps).2.2.2 (lparseP s.data.toList y.vars y.ps).1 with⟨k,l,r,o,p,q,ks⟩
  intro g g2 wf2
  simp only[eTr]at g g2
  refine(askK_of g _).trans ?_
  simp only[ND]
  refine(askK_of g2 _).trans ?_
  simp only[ND]
  refine(br_eqT rfl).trans ?_
  rw[band_same]
  refine(br_t _ _).trans ?_
  have g3:=same_ok Ks _ _ (Nat.lt_succ_self _) wf2
  simp only[eTr]at g3
  refine(askK_of g3 _).trans ?_
  simp only[ND]
end
end Go.Proofs.YtlmhajfbpplpoaaGreat
