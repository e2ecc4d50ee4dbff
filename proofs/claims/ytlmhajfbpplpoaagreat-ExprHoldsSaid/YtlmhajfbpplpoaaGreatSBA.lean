/- A small table: where a text lies in a row, in the -/
import Derived.Test.YtlmhajfbpplpoaaGreatSAU
import Derived.Test.YtlmhajfbpplpoaaGreatSAS
set_option linter.unusedSectionVars false
set_option linter.unusedSimpArgs false
set_option linter.unusedVariables false
namespace Go.Proofs.YtlmhajfbpplpoaaGreat
open Go.RowKit
noncomputable def NY:List (Nat × MFn):=[(121,Sb)]
noncomputable def LN:List (Nat × MFn):=[(88,Zv),(219,Ae8)]
section
variable {D:Orc}
theorem Wz(K:Knows As LN D)(xs:List ByteArray)(hx:xs.length<4611686018427387904)(s:ByteArray):∀(k i:Nat),xs.length-i=k->D.ask (.lp 88 0) [.ls (xs.map eS),sv s,iv (xs.length:Int),iv (i:Int)] []=some (E5 i ((xs.drop i).findIdx? (s = ·)),[]):=by
 intro k
 induction k with
 |zero=>
  intro i hi
  refine K.lp' Y5 _ rfl (by kernel_rfl) ((AdF ..).trans ?_)
  have:xs.drop i=[]:=List.drop_eq_nil_of_le (by omega)
  simp only[QA,this,Js]
  rw[if_neg (by simp;omega)]
  rfl
 |succ k ih=>
  intro i hi
  have hlt:i<xs.length:=by omega
  refine K.lp' Y5 _ rfl (by kernel_rfl) ((AdF ..).trans ?_)
  have e1:xs.drop i=xs[i]::xs.drop (i+1):=List.drop_eq_getElem_cons hlt
  have ih':=ih (i+1) (by omega)
  have e2:Ao.add .i64 (i:Int) 1=((i+1:Nat):Int):=Bn (by omega)
  simp only[QA,AN,Ny,List.getElem?_eq_getElem hlt,eS,P6,Lj,LI,e2,Js]
  rw[if_pos (by simpa using hlt),e1,List.findIdx?_cons]
  by_cases h:s=xs[i]
  .simp[←h,E5]
  .rw[if_neg (by simpa using h),if_neg (by simpa using h)]
   refine(Aa ih' _).trans ?_
   cases (xs.drop (i+1)).findIdx? (s = ·) with
   |none=>rfl
   |some j=>
    simp only[E5,Option.map_some,show i+(j+1)=i+1+j by omega]
    rfl
theorem Ij(K:Knows As LN D)(xs:List ByteArray)(hx:xs.length<4611686018427387904)(s:ByteArray):D.ask (.fn 88) [.ls (xs.map eS),sv s] []=some (iv (EC (xs.findIdx? (s = ·))),[]):=by
 refine K.fn' Y5 _ rfl ((e88 ..).trans ?_)
 rw[Ax]
 refine(Aa (Wz K xs hx s _ 0 rfl) _).trans ?_
 rw[List.drop_zero]
 cases xs.findIdx? (s = ·) with
 |none=>rfl
 |some j=>simp only[E5,ND,Ab,Nat.zero_add];rfl
theorem WS(K:Knows As NY D)(xs:List ByteArray)(hx:xs.length<4611686018427387904)(s:ByteArray):∀(k i:Nat),xs.length-i=k->D.ask (.lp 121 0) [.ls (xs.map eS),sv s,iv (i:Int)] []=some (E5 i ((xs.drop i).findIdx? (s = ·)),[]):=by
 intro k
 induction k with
 |zero=>
  intro i hi
  refine K.lp' RG _ rfl (by kernel_rfl) ((Yh ..).trans ?_)
  have:xs.drop i=[]:=List.drop_eq_nil_of_le (by omega)
  simp only[QA,Ax,this,Js]
  rw[if_neg (by simp;omega)]
  rfl
 |succ k ih=>
  intro i hi
  have hlt:i<xs.length:=by omega
  refine K.lp' RG _ rfl (by kernel_rfl) ((Yh ..).trans ?_)
  have e1:xs.drop i=xs[i]::xs.drop (i+1):=List.drop_eq_getElem_cons hlt
  have ih':=ih (i+1) (by omega)
  have e2:Ao.add .i64 (i:Int) 1=((i+1:Nat):Int):=Bn (by omega)
  simp only[QA,Ax,AN,Ny,List.getElem?_eq_getElem hlt,eS,P6,Lj,LI,e2,Js]
  rw[if_pos (by simpa using hlt),e1,List.findIdx?_cons]
  by_cases h:s=xs[i]
  .simp[←h,E5]
  .rw[if_neg (by simpa using fun e=>h e.symm),if_neg (by simpa using h)]
   refine(Aa ih' _).trans ?_
   cases (xs.drop (i+1)).findIdx? (s = ·) with
   |none=>rfl
   |some j=>
    simp only[E5,Option.map_some,show i+(j+1)=i+1+j by omega]
    rfl
theorem Pi(K:Knows As NY D)(xs:List ByteArray)(hx:xs.length<4611686018427387904)(s:ByteArray):D.ask (.fn 121) [.ls (xs.map eS),sv s] []=some (iv (EC (xs.findIdx? (s = ·))),[]):=by
 refine K.fn' RG _ rfl ((Aly ..).trans ?_)
 refine(Aa (WS K xs hx s _ 0 rfl) _).trans ?_
 rw[List.drop_zero]
 cases xs.findIdx? (s = ·) with
 |none=>rfl
 |some j=>simp only[E5,ND,Ab,Nat.zero_add];rfl
end
def Amy:Am:=[]
noncomputable def Akg:MFn:=Bj Tryz.prog Ah Amy false false 14
def Ah8:Hnt:=⟨[(15,(.tup [.ls,.agg [.int .i64,.int .i64],.int .i64],[])),(17,(.tup [.agg [.int .i64,.ls,.ls,.int .i64,.str,.str,.ls],.agg [.int .i64,.int .i64],.int .i64],[])),(22,(.str,[])),(23,(.bool,[])),(24,(.bool,[])),(25,(.str,[])),(27,(.tup [.agg [.int .i64,.ls,.bool,.ls,.bool,.ls],.bool],[])),(44,(.tup [.agg [.ls,.bool,.ls],.bool],[])),(45,(.bool,[])),(46,(.bool,[])),(47,(.str,[]))],[],[(32,[.int .i64,.int .i64]),(38,[.int .i64]),(43,[.ls]),(52,[.int .i64,.int .i64]),(72,[.int .i64,.ls,.ls,.int .i64,.str,.str,.ls]),(77,[.int .i64,.ls,.ls,.int .i64,.str,.str,.ls]),(86,[.int .i64,.ls,.ls,.int .i64,.str,.str,.ls]),(98,[.ls]),(107,[.int .i64]),(111,[.int .i64,.ls,.ls,.int .i64,.str,.str,.ls]),(116,[.ls]),(117,[.int .i64,.ls,.ls,.int .i64,.str,.str,.ls]),(118,[.int .i64,.ls,.ls,.int .i64,.str,.str,.ls]),(123,[.ls]),(124,[.int .i64,.ls,.ls,.int .i64,.str,.str,.ls]),(125,[.int .i64,.ls,.ls,.int .i64,.str,.str,.ls])]⟩
noncomputable def VJ:List (Nat × MFn):=[(14,Akg)]
theorem e14(A:Ar)(D:Orc):B3 A D As Ah8 .n 14 Akg [] [] =
 Af D (Key.fn 17) [sv (AE [120,32,43,32,50,32,60,61,32,51,42,121,32,38,32,33,40,97,32,61,32,49,32,124,32,116,114,117,101,41])] [] fun r o=>
 AF r fun cs=>
 Aj cs fun c l=>
 At c fun cs1=>
 Ay IntKind.i64 cs1 fun n l1=>
 AI l1 fun xs l2=>
 AI l2 fun xs1 l3=>
 Ay IntKind.i64 l3 fun n1 l4=>
 Br l4 fun s l5=>
 Br l5 fun s1 l6=>
 AI l6 fun xs2 l7=>
 Ad l7<|
 Aj l fun c1 l8=>
 At c1 fun cs2=>
 Ay IntKind.i64 cs2 fun n2 l9=>
 Ay IntKind.i64 l9 fun n3 l10=>
 Ad l10<|
 Ay IntKind.i64 l8 fun n4 l11=>
 Ad l11<|
 Ac o<|
 Af D (Key.fn 17) [sv (AE [120,32,60])] [] fun r1 o1=>
 AF r1 fun cs3=>
 Aj cs3 fun c2 l12=>
 At c2 fun cs4=>
 Ay IntKind.i64 cs4 fun _ l13=>
 AI l13 fun _ l14=>
 AI l14 fun _ l15=>
 Ay IntKind.i64 l15 fun _ l16=>
 Br l16 fun _ l17=>
 Br l17 fun _ l18=>
 AI l18 fun _ l19=>
 Ad l19<|
 Aj l12 fun c3 l20=>
 At c3 fun cs5=>
 Ay IntKind.i64 cs5 fun n7 l21=>
 Ay IntKind.i64 l21 fun n8 l22=>
 Ad l22<|
 Ay IntKind.i64 l20 fun n9 l23=>
 Ad l23<|
 Ac o1<|
 Af D (Key.fn 15) [sv (AE [45,50,42,120,32,43,32,49])] [] fun r2 o2=>
 AF r2 fun cs6=>
 AI cs6 fun xs6 l24=>
 Aj l24 fun c4 l25=>
 At c4 fun cs7=>
 Ay IntKind.i64 cs7 fun _ l26=>
 Ay IntKind.i64 l26 fun _ l27=>
 Ad l27<|
 Ay IntKind.i64 l25 fun n12 l28=>
 Ad l28<|
 Ac o2<|
 br (A.eq n4 0)
 (br (A.not (A.band (A.eq n2 0) (A.band (A.eq n3 0) true)))
 (some ((bv false,[])))
 (br (A.eq n 4)
 (br (A.eq (↑(Be xs2)) 2)
 (br (A.eq n9 101)
 (br (A.not (A.band (A.eq n7 1) (A.band (A.eq n8 4) true)))
 (some ((bv false,[])))
 (br (A.eq n12 0)
 (br (A.eq (↑(Be xs6)) 2)
 (Af D (Key.fn 44) [AV.ls xs6,AV.ls [[sv (AE [120])]]] [] fun r3 o3=>
 AF r3 fun cs8=>
 Aj cs8 fun c5 l29=>
 At c5 fun cs9=>
 AI cs9 fun xs7 l30=>
 Ag l30 fun _ l31=>
 AI l31 fun _ l32=>
 Ad l32<|
 Ag l29 fun b1 l33=>
 Ad l33<|
 Ac o3<|
 Af D (Key.fn 27) [AV.agg [iv n,AV.ls xs,AV.ls xs1,iv n1,sv s,sv s1,AV.ls xs2],AV.ls [[sv (AE [120])],[sv (AE [121])],[sv (AE [97])]]] [] fun r4 o4=>
 AF r4 fun cs10=>
 Aj cs10 fun c6 l34=>
 At c6 fun cs11=>
 Ay IntKind.i64 cs11 fun n13 l35=>
 AI l35 fun _ l36=>
 Ag l36 fun _ l37=>
 AI l37 fun _ l38=>
 Ag l38 fun _ l39=>
 AI l39 fun _ l40=>
 Ad l40<|
 Ag l34 fun b4 l41=>
 Ad l41<|
 Ac o4<|
 Af D (Key.fn 25) [AV.agg [iv n,AV.ls xs,AV.ls xs1,iv n1,sv s,sv s1,AV.ls xs2]] [] fun r5 o5=>
 FA r5 fun s4=>
 Ac o5<|
 br (A.seq s4 (AE [120,32,43,32,50,32,60,61,32,51,42,121,32,38,32,33,40,97,32,61,32,49,32,124,32,116,114,117,101,41]))
 (Af D (Key.fn 22) [AV.ls xs6] [] fun r6 o6=>
 FA r6 fun s5=>
 Ac o6<|
 br (A.seq s5 (AE [45,50,42,120,32,43,32,49]))
 (Af D (Key.fn 24) [AV.agg [iv n,AV.ls xs,AV.ls xs1,iv n1,sv s,sv s1,AV.ls xs2]] [] fun r7 o7=>
 AW r7 fun b5=>
 Ac o7<|
 br b5
 (Af D (Key.fn 23) [AV.ls xs6] [] fun r8 o8=>
 AW r8 fun b6=>
 Ac o8<|
 br b6
 (br b1
 (br (A.eq (↑(Be xs7)) 1)
 (br b4
 (br (A.eq n13 4)
 (Af D (Key.fn 45) [AV.agg [iv n,AV.ls xs,AV.ls xs1,iv n1,sv s,sv s1,AV.ls xs2]] [] fun r9 o9=>
 AW r9 fun b7=>
 Ac o9<|
 br b7
 (BG xs2 0 fun cs12=>
 Ay IntKind.i64 cs12 fun n14 l42=>
 AI l42 fun xs12 l43=>
 AI l43 fun xs13 l44=>
 Ay IntKind.i64 l44 fun n15 l45=>
 Br l45 fun s6 l46=>
 Br l46 fun s7 l47=>
 AI l47 fun xs14 l48=>
 Ad l48<|
 Af D (Key.fn 46) [AV.agg [iv n14,AV.ls xs12,AV.ls xs13,iv n15,sv s6,sv s7,AV.ls xs14]] [] fun r10 o10=>
 AW r10 fun b8=>
 Ac o10<|
 br b8
 (BG xs2 0 fun cs13=>
 Ay IntKind.i64 cs13 fun n16 l49=>
 AI l49 fun xs15 l50=>
 AI l50 fun xs16 l51=>
 Ay IntKind.i64 l51 fun n17 l52=>
 Br l52 fun s8 l53=>
 Br l53 fun s9 l54=>
 AI l54 fun xs17 l55=>
 Ad l55<|
 Af D (Key.fn 47) [AV.agg [iv n16,AV.ls xs15,AV.ls xs16,iv n17,sv s8,sv s9,AV.ls xs17]] [] fun r11 o11=>
 FA r11 fun s10=>
 Ac o11<|
 br (A.seq s10 (AE [120,32,43,32,50,32,60,61,32,51,42,121]))
 (some ((bv true,[])))
 (some ((bv false,[]))))
 (some ((bv false,[]))))
 (some ((bv false,[]))))
 (some ((bv false,[]))))
 (some ((bv false,[]))))
 (some ((bv false,[]))))
 (some ((bv false,[]))))
 (some ((bv false,[]))))
 (some ((bv false,[]))))
 (some ((bv false,[]))))
 (some ((bv false,[]))))
 (some ((bv false,[]))))
 (some ((bv false,[])))))
 (some ((bv false,[]))))
 (some ((bv false,[]))))
 (some ((bv false,[])))))
 (some ((bv false,[]))):=by kernel_rfl
def Ajn:Am:=[⟨21,[true,false,false,true],[],[],[(1,([true,false,false,true],([],[])))]⟩]
noncomputable def Ve:MFn:=Bj Tryz.prog Ah Ajn false false 204
def RN:Hnt:=⟨[],[(0,[(1,([.ls,.int .i64],[]))])],[(12,[.int .u32]),(13,[.int .u32])]⟩
def Ajj:Am:=[]
noncomputable def Ae3:MFn:=Bj Tryz.prog Ah Ajj false false 200
def Aeg:Hnt:=⟨[(204,(.ls,[])),(240,(.sl 0 1,[.row true]))],[],[]⟩
def AiN:Am:=[]
noncomputable def AeN:MFn:=Bj Tryz.prog Ah AiN false false 146
def Ad0:Hnt:=⟨[(200,(.ls,[]))],[],[]⟩
def Ajo:Am:=[⟨49,[true,true,false,false,false,true],[],[],[(0,([false,false,false,false,true],([],[]))),(2,([],([],[])))]⟩]
noncomputable def Vf:MFn:=Bj Tryz.prog Ah Ajo false false 205
def RO:Hnt:=⟨[(204,(.ls,[]))],[(0,[(0,([.int .i64],[])),(2,([],[]))])],[(32,[.int .u32]),(33,[.int .u32]),(36,[.int .u32]),(37,[.int .u32]),(42,[.int .u32]),(43,[.int .u32]),(46,[.int .u32]),(47,[.int .u32])]⟩
def AiQ:Am:=[⟨61,[false,true,false,false,false,true,true,false,false,false,false,false,false,false,false,false,false,false,false,false,false,false,false,false,false,true,true,true],[(5,1)],[],[(1,([false,false,false,false,false,true,true],([],[])))]⟩]
noncomputable def U5:MFn:=Bj Tryz.prog Ah AiQ false false 149
def RH:Hnt:=⟨[(200,(.ls,[])),(204,(.ls,[]))],[(0,[(1,([.sl 1 1,.int .u64],[.del,.row true]))])],[(30,[.int .u32]),(31,[.int .u32]),(43,[.int .u32]),(44,[.int .u32])]⟩
def AiR:Am:=[⟨59,[false,true,false,false,false,false,true,true,false,false,false,false,false,false,false,false,false,false,false,false,false,false,false,true,true,true],[(6,1)],[],[(1,([false,false,false,false,false,false,true],([],[])))]⟩]
noncomputable def U6:MFn:=Bj Tryz.prog Ah AiR false false 150
def RI:Hnt:=⟨[(200,(.ls,[])),(204,(.ls,[])),(205,(.int .i64,[]))],[(0,[(1,([.sl 1 1],[.del,.row true]))])],[(28,[.int .u32]),(29,[.int .u32]),(38,[.int .u32]),(39,[.int .u32])]⟩
def AjT:Am:=[⟨68,[false,true,false,false,false,true,false,false,false,false,false,false,false,false,false,false,false,false,true,true,true],[],[],[(1,([false,false,false,false,false,true],([],[])))]⟩,⟨68,[false,true,false,false,false,true,true,true,true,false,false,false,false,false,false,false,false,false,true,true,true,false,false,false,false,true,true,true],[],[],[(3,([false,true,false,false,false,true,true,false,true,false,false,false,false,false,false,false,false,false,true,true,true],([],[])))]⟩]
noncomputable def O6:MFn:=Bj Tryz.prog Ah AjT false false 282
def Lx:Hnt:=⟨[(200,(.ls,[]))],[(0,[(1,([.sl 1 1],[.del,.row true]))]),(1,[(3,([.ls,.sl 1 1,.int .i64,.int .u64,.ls,.int .i64,.int .i64],[.del,.row true]))])],[(23,[.int .u32]),(24,[.int .u32]),(30,[.int .u32]),(31,[.int .u32]),(41,[.int .u32]),(42,[.int .u32]),(53,[.int .u32]),(64,[.int .u32])]⟩
def AjS:Am:=[]
noncomputable def Afi:MFn:=Bj Tryz.prog Ah AjS false false 275
def Aet:Hnt:=⟨[(204,(.ls,[])),(282,(.ls,[])),(283,(.ls,[]))],[],[]⟩
def Ajl:Am:=[]
noncomputable def Ae5:MFn:=Bj Tryz.prog Ah Ajl false false 202
def Y0:Hnt:=⟨[],[],[]⟩
def Ajm:Am:=[⟨47,[false,true,false,false,false,false,false,true,true,false,false,false,false,false,false,false,false,false,true,true,true],[(7,1)],[],[(1,([false,false,false,false,false,false,false,true,true],([],[])))]⟩]
noncomputable def Vd:MFn:=Bj Tryz.prog Ah Ajm false false 203
def OU:Hnt:=⟨[],[(0,[(1,([.sl 1 1,.int .u64],[.del,.row true]))])],[(22,[.int .u32]),(23,[.int .u32])]⟩
def AiP:Am:=[⟨49,[true,false,false,false,true,true,true,false,false,false,false,false,false,false,false,false,false,false,true,true],[],[],[(0,([false,false,true,true],([2],[]))),(2,([false,false,false,false,true,true,true],([4],[])))]⟩]
noncomputable def O1:MFn:=Bj Tryz.prog Ah AiP false false 148
def ED:Hnt:=⟨[(200,(.ls,[])),(202,(.tup [.int .u32,.bool],[])),(203,(.ls,[]))],[(0,[(0,([.ls,.int .i64],[])),(2,([.ls,.int .u32,.int .u32],[]))])],[]⟩
noncomputable def J6:List (Nat × MFn):=[(204,Ve),(200,Ae3),(146,AeN),(205,Vf),(149,U5),(150,U6),(282,O6),(275,Afi),(202,Ae5),(203,Vd),(148,O1)]
theorem Al5(A:Ar)(D:Orc)(x0:List (List AV)):B3 A D As RN .n 204 Ve [AV.ls x0] [] =
 Af D (Key.lp 204 0) [AV.ls x0,iv ↑(Be x0)] [] fun r o=>
 AF r fun cs=>
 Aj cs fun c l=>
 br (Bw 1 c)
 (AI l fun xs l1=>
 Ay IntKind.i64 l1 fun n l2=>
 Ad l2<|
 Ac o<|
 unI n fun i=>
 br (JG 0 i (Be xs)) (br (Gi 1 xs) (some ((AV.ls (II (Zq1 xs i) 0),[]))) none) none)
 (none):=by kernel_rfl
theorem Yt(A:Ar)(D:Orc)(t0:List (List AV))(t3:Int):D2 A D As RN .n 204 0 (Bc Ve 0).fst (Bc Ve 0).snd [AV.ls t0,iv t3] [] =
 br (A.lt 0 t3)
 (unI (A.sub IntKind.i64 t3 1) fun i=>
 BG t0 i fun cs=>
 Ay IntKind.u32 cs fun n l=>
 Ad l<|
 br (A.eq n 0)
 (Af D (Key.lp 204 0) [AV.ls t0,iv (A.sub IntKind.i64 t3 1)] [] fun r o=>
 AR 0 [] (AH.mk [] 0 none) [] r o)
 (some ((AV.tup [iv 0,AV.ls t0,iv t3],[]))))
 (some ((AV.tup [iv 0,AV.ls t0,iv t3],[]))):=by kernel_rfl
theorem Al3(A:Ar)(D:Orc)(x0:List (List AV)):B3 A D As Aeg .n 200 Ae3 [AV.ls x0] [] =
 Af D (Key.fn 204) [AV.ls x0] [] fun r o=>
 BX r fun xs=>
 Ac o<|
 Af D (Key.fn 240) [AV.ls xs] [] fun r1 o1=>
 CC 0 1 r1 fun n=>
 AG o1 fun c l=>
 AP true true c fun cs=>
 Ac l<|
 br ((0+n*1).ble cs.length) (some ((AV.ls (BF n 1 (List.take (n*1) cs)),[]))) none:=by kernel_rfl
theorem AlC(A:Ar)(D:Orc)(x0:Int):B3 A D As Ad0 .n 146 AeN [AV.v (Value.int IntKind.u64 x0)] [] =
 br (A.lt 32 0)
 (none)
 (Af D (Key.fn 200) [AV.ls [[AV.v (Value.int IntKind.u32 (A.conv IntKind.u32 x0))],[AV.v (Value.int IntKind.u32 (A.conv IntKind.u32 (A.shr IntKind.u64 x0 32)))]]] [] fun r o=>
 BX r fun xs=>
 Ac o<|
 some ((AV.ls xs,[]))):=by kernel_rfl
theorem Al6(A:Ar)(D:Orc)(x0:List (List AV))(x1:List (List AV)):B3 A D As RO .n 205 Vf [AV.ls x0,AV.ls x1] [] =
 Af D (Key.fn 204) [AV.ls x0] [] fun r o=>
 BX r fun xs=>
 Ac o<|
 Af D (Key.fn 204) [AV.ls x1] [] fun r1 o1=>
 BX r1 fun xs1=>
 Ac o1<|
 br (A.lt ↑(Be xs) ↑(Be xs1))
 (some ((iv (-1),[])))
 (br (A.lt ↑(Be xs1) ↑(Be xs))
 (some ((iv 1,[])))
 (Af D (Key.lp 205 0) [AV.ls xs,AV.ls xs1,iv (A.sub IntKind.i64 (↑(Be xs)) 1)] [] fun r2 o2=>
 AF r2 fun cs=>
 Aj cs fun c l=>
 br (Bw 0 c)
 (Ay IntKind.i64 l fun n l1=>
 Ad l1<|
 Ac o2<|
 some ((iv n,[])))
 (br (Bw 2 c)
 (Ad l<|
 Ac o2<|
 some ((iv 0,[])))
 (none)))):=by kernel_rfl
theorem Yu(A:Ar)(D:Orc)(t0:List (List AV))(t1:List (List AV))(t5:Int):D2 A D As RO .n 205 0 (Bc Vf 0).fst (Bc Vf 0).snd [AV.ls t0,AV.ls t1,iv t5] [] =
 br (A.le 0 t5)
 (unI t5 fun i=>
 BG t0 i fun cs=>
 Ay IntKind.u32 cs fun n l=>
 Ad l<|
 unI t5 fun i1=>
 BG t1 i1 fun cs1=>
 Ay IntKind.u32 cs1 fun n1 l1=>
 Ad l1<|
 br (A.lt n n1)
 (some ((AV.tup [bv true,iv (-1)],[])))
 (unI t5 fun i2=>
 BG t0 i2 fun cs2=>
 Ay IntKind.u32 cs2 fun n2 l2=>
 Ad l2<|
 unI t5 fun i3=>
 BG t1 i3 fun cs3=>
 Ay IntKind.u32 cs3 fun n3 l3=>
 Ad l3<|
 br (A.lt n3 n2)
 (some ((AV.tup [bv true,iv 1],[])))
 (Af D (Key.lp 205 0) [AV.ls t0,AV.ls t1,iv (A.sub IntKind.i64 t5 1)] [] fun r o=>
 AR 0 [] (AH.mk [] 0 none) [] r o)))
 (some ((AV.tup [iv 1],[]))):=by kernel_rfl
theorem AlG(A:Ar)(D:Orc)(x0:List (List AV))(x1:List (List AV)):B3 A D As RH .n 149 U5 [AV.ls x0,AV.ls x1] [] =
 Af D (Key.fn 204) [AV.ls x0] [] fun r o=>
 BX r fun xs=>
 Ac o<|
 Af D (Key.fn 204) [AV.ls x1] [] fun r1 o1=>
 BX r1 fun xs1=>
 Ac o1<|
 br (A.lt ↑(Be xs) ↑(Be xs1))
 (unI (A.add IntKind.i64 (↑(Be xs1)) 1) fun i=>
 br (Bu i 4) (Af D (Key.lp 149 0) [AV.ls xs,AV.sl 0 0 0 1,AV.v (Value.int IntKind.u64 0),AV.ls xs1,iv ↑(Be xs1),iv 0] [ABlk.mk [] true true] fun r2 o2=>
 AF r2 fun cs=>
 Aj cs fun c l=>
 br (Bw 1 c)
 (Aj l fun c1 l1=>
 CC 1 1 c1 fun n=>
 Ay IntKind.u64 l1 fun n1 l2=>
 Ad l2<|
 AG o2 fun c2 l3=>
 BW c2<|
 AG l3 fun c3 l4=>
 AP true true c3 fun cs1=>
 Ac l4<|
 br (Bu (n+1) 4) (br ((0+n*1).ble cs1.length) (br ((0+(n+1)*1).ble (List.drop 0 (List.take (0+n*1) cs1)++[AV.v (Value.int IntKind.u32 (A.conv IntKind.u32 n1))]).length) (Af D (Key.fn 200) [AV.ls (BF (n+1) 1 (List.take ((n+1)*1) (List.drop 0 (List.drop 0 (List.take (0+n*1) cs1)++[AV.v (Value.int IntKind.u32 (A.conv IntKind.u32 n1))]))))] [] fun r3 o3=>
 BX r3 fun xs2=>
 Ac o3<|
 some ((AV.ls xs2,[]))) none) none) none)
 (none)) none)
 (unI (A.add IntKind.i64 (↑(Be xs)) 1) fun i=>
 br (Bu i 4) (Af D (Key.lp 149 0) [AV.ls xs1,AV.sl 0 0 0 1,AV.v (Value.int IntKind.u64 0),AV.ls xs,iv ↑(Be xs),iv 0] [ABlk.mk [] true true] fun r2 o2=>
 AF r2 fun cs=>
 Aj cs fun c l=>
 br (Bw 1 c)
 (Aj l fun c1 l1=>
 CC 1 1 c1 fun n=>
 Ay IntKind.u64 l1 fun n1 l2=>
 Ad l2<|
 AG o2 fun c2 l3=>
 BW c2<|
 AG l3 fun c3 l4=>
 AP true true c3 fun cs1=>
 Ac l4<|
 br (Bu (n+1) 4) (br ((0+n*1).ble cs1.length) (br ((0+(n+1)*1).ble (List.drop 0 (List.take (0+n*1) cs1)++[AV.v (Value.int IntKind.u32 (A.conv IntKind.u32 n1))]).length) (Af D (Key.fn 200) [AV.ls (BF (n+1) 1 (List.take ((n+1)*1) (List.drop 0 (List.drop 0 (List.take (0+n*1) cs1)++[AV.v (Value.int IntKind.u32 (A.conv IntKind.u32 n1))]))))] [] fun r3 o3=>
 BX r3 fun xs2=>
 Ac o3<|
 some ((AV.ls xs2,[]))) none) none) none)
 (none)) none):=by kernel_rfl
theorem Yi(A:Ar)(D:Orc)(t1:List (List AV))(n5:Nat)(c5:List AV)(t6:Int)(t25:List (List AV))(t26:Int)(t27:Int):D2 A D As RH .n 149 0 (Bc U5 0).fst (Bc U5 0).snd [AV.ls t1,AV.sl 0 0 n5 1,AV.v (Value.int IntKind.u64 t6),AV.ls t25,iv t26,iv t27] [{ cells:=c5,st:=true,ex:=true }] =
 br (A.lt t27 t26)
 (unI t27 fun i=>
 BG t25 i fun cs=>
 Ay IntKind.u32 cs fun n l=>
 Ad l<|
 br (A.lt t27 ↑(Be t1))
 (unI t27 fun i1=>
 BG t1 i1 fun cs1=>
 Ay IntKind.u32 cs1 fun n1 l1=>
 Ad l1<|
 br (Bu (n5+1) 4) (br ((0+n5*1).ble c5.length) (br (A.lt 32 0)
 (none)
 (Af D (Key.lp 149 0) [AV.ls t1,AV.sl 0 0 (n5+1) 1,AV.v (Value.int IntKind.u64 (A.shr IntKind.u64 (A.add IntKind.u64 (A.add IntKind.u64 (A.conv IntKind.u64 n) t6) (A.conv IntKind.u64 n1)) 32)),AV.ls t25,iv t26,iv (A.add IntKind.i64 t27 1)] [ABlk.mk (List.drop 0 (List.take (0+n5*1) c5)++[AV.v (Value.int IntKind.u32 (A.conv IntKind.u32 (A.add IntKind.u64 (A.add IntKind.u64 (A.conv IntKind.u64 n) t6) (A.conv IntKind.u64 n1))))]) true true] fun r o=>
 AR 1 [2] (AH.mk [(2,ABlk.mk (List.drop 0 (List.take (0+n5*1) c5)++[AV.v (Value.int IntKind.u32 (A.conv IntKind.u32 (A.add IntKind.u64 (A.add IntKind.u64 (A.conv IntKind.u64 n) t6) (A.conv IntKind.u64 n1))))]) true true),(1,ABlk.mk [AV.v (Value.int IntKind.u32 (A.conv IntKind.u32 (A.add IntKind.u64 (A.add IntKind.u64 (A.conv IntKind.u64 n) t6) (A.conv IntKind.u64 n1))))] true true)] 3 none) [0] r o)) none) none)
 (br (Bu (n5+1) 4) (br ((0+n5*1).ble c5.length) (br (A.lt 32 0)
 (none)
 (Af D (Key.lp 149 0) [AV.ls t1,AV.sl 0 0 (n5+1) 1,AV.v (Value.int IntKind.u64 (A.shr IntKind.u64 (A.add IntKind.u64 (A.conv IntKind.u64 n) t6) 32)),AV.ls t25,iv t26,iv (A.add IntKind.i64 t27 1)] [ABlk.mk (List.drop 0 (List.take (0+n5*1) c5)++[AV.v (Value.int IntKind.u32 (A.conv IntKind.u32 (A.add IntKind.u64 (A.conv IntKind.u64 n) t6)))]) true true] fun r o=>
 AR 1 [2] (AH.mk [(2,ABlk.mk (List.drop 0 (List.take (0+n5*1) c5)++[AV.v (Value.int IntKind.u32 (A.conv IntKind.u32 (A.add IntKind.u64 (A.conv IntKind.u64 n) t6)))]) true true),(1,ABlk.mk [AV.v (Value.int IntKind.u32 (A.conv IntKind.u32 (A.add IntKind.u64 (A.conv IntKind.u64 n) t6)))] true true)] 3 none) [0] r o)) none) none))
 (some ((AV.tup [iv 0,AV.sl 1 0 n5 1,AV.v (Value.int IntKind.u64 t6)],[BO.del,BO.set (ABlk.mk c5 true true)]))):=by kernel_rfl
theorem AlH(A:Ar)(D:Orc)(x0:List (List AV))(x1:List (List AV)):B3 A D As RI .n 150 U6 [AV.ls x0,AV.ls x1] [] =
 Af D (Key.fn 204) [AV.ls x0] [] fun r o=>
 BX r fun xs=>
 Ac o<|
 Af D (Key.fn 204) [AV.ls x1] [] fun r1 o1=>
 BX r1 fun xs1=>
 Ac o1<|
 Af D (Key.fn 205) [AV.ls xs,AV.ls xs1] [] fun r2 o2=>
 Bp IntKind.i64 r2 fun n=>
 Ac o2<|
 br (A.lt n 0)
 (some ((AV.tup [AV.ls [],bv false],[])))
 (br (Bu (Be xs) 4) (Af D (Key.lp 150 0) [AV.ls xs1,AV.sl 0 0 0 1,AV.v (Value.int IntKind.u64 0),AV.ls xs,iv ↑(Be xs),iv 0] [ABlk.mk [] true true] fun r3 o3=>
 AF r3 fun cs=>
 Aj cs fun c l=>
 br (Bw 1 c)
 (Aj l fun c1 l1=>
 CC 1 1 c1 fun n1=>
 Ad l1<|
 AG o3 fun c2 l2=>
 BW c2<|
 AG l2 fun c3 l3=>
 AP true true c3 fun cs1=>
 Ac l3<|
 br ((0+n1*1).ble cs1.length) (Af D (Key.fn 200) [AV.ls (BF n1 1 (List.take (n1*1) cs1))] [] fun r4 o4=>
 BX r4 fun xs2=>
 Ac o4<|
 some ((AV.tup [AV.ls xs2,bv true],[]))) none)
 (none)) none):=by kernel_rfl
theorem Yj(A:Ar)(D:Orc)(t1:List (List AV))(n6:Nat)(c6:List AV)(t7:Int)(t23:List (List AV))(t24:Int)(t25:Int):D2 A D As RI .n 150 0 (Bc U6 0).fst (Bc U6 0).snd [AV.ls t1,AV.sl 0 0 n6 1,AV.v (Value.int IntKind.u64 t7),AV.ls t23,iv t24,iv t25] [{ cells:=c6,st:=true,ex:=true }] =
 br (A.lt t25 t24)
 (unI t25 fun i=>
 BG t23 i fun cs=>
 Ay IntKind.u32 cs fun n l=>
 Ad l<|
 br (A.lt t25 ↑(Be t1))
 (unI t25 fun i1=>
 BG t1 i1 fun cs1=>
 Ay IntKind.u32 cs1 fun n1 l1=>
 Ad l1<|
 br (A.lt (A.conv IntKind.u64 n) (A.add IntKind.u64 t7 (A.conv IntKind.u64 n1)))
 (br (Bu (n6+1) 4) (br ((0+n6*1).ble c6.length) (Af D (Key.lp 150 0) [AV.ls t1,AV.sl 0 0 (n6+1) 1,AV.v (Value.int IntKind.u64 1),AV.ls t23,iv t24,iv (A.add IntKind.i64 t25 1)] [ABlk.mk (List.drop 0 (List.take (0+n6*1) c6)++[AV.v (Value.int IntKind.u32 (A.conv IntKind.u32 (A.sub IntKind.u64 (A.add IntKind.u64 (A.conv IntKind.u64 n) 4294967296) (A.add IntKind.u64 t7 (A.conv IntKind.u64 n1)))))]) true true] fun r o=>
 AR 1 [2] (AH.mk [(2,ABlk.mk (List.drop 0 (List.take (0+n6*1) c6)++[AV.v (Value.int IntKind.u32 (A.conv IntKind.u32 (A.sub IntKind.u64 (A.add IntKind.u64 (A.conv IntKind.u64 n) 4294967296) (A.add IntKind.u64 t7 (A.conv IntKind.u64 n1)))))]) true true),(1,ABlk.mk [AV.v (Value.int IntKind.u32 (A.conv IntKind.u32 (A.sub IntKind.u64 (A.add IntKind.u64 (A.conv IntKind.u64 n) 4294967296) (A.add IntKind.u64 t7 (A.conv IntKind.u64 n1)))))] true true)] 3 none) [0] r o) none) none)
 (br (Bu (n6+1) 4) (br ((0+n6*1).ble c6.length) (Af D (Key.lp 150 0) [AV.ls t1,AV.sl 0 0 (n6+1) 1,AV.v (Value.int IntKind.u64 0),AV.ls t23,iv t24,iv (A.add IntKind.i64 t25 1)] [ABlk.mk (List.drop 0 (List.take (0+n6*1) c6)++[AV.v (Value.int IntKind.u32 (A.conv IntKind.u32 (A.sub IntKind.u64 (A.conv IntKind.u64 n) (A.add IntKind.u64 t7 (A.conv IntKind.u64 n1)))))]) true true] fun r o=>
 AR 1 [2] (AH.mk [(2,ABlk.mk (List.drop 0 (List.take (0+n6*1) c6)++[AV.v (Value.int IntKind.u32 (A.conv IntKind.u32 (A.sub IntKind.u64 (A.conv IntKind.u64 n) (A.add IntKind.u64 t7 (A.conv IntKind.u64 n1)))))]) true true),(1,ABlk.mk [AV.v (Value.int IntKind.u32 (A.conv IntKind.u32 (A.sub IntKind.u64 (A.conv IntKind.u64 n) (A.add IntKind.u64 t7 (A.conv IntKind.u64 n1)))))] true true)] 3 none) [0] r o) none) none))
 (br (A.lt (A.conv IntKind.u64 n) t7)
 (br (Bu (n6+1) 4) (br ((0+n6*1).ble c6.length) (Af D (Key.lp 150 0) [AV.ls t1,AV.sl 0 0 (n6+1) 1,AV.v (Value.int IntKind.u64 1),AV.ls t23,iv t24,iv (A.add IntKind.i64 t25 1)] [ABlk.mk (List.drop 0 (List.take (0+n6*1) c6)++[AV.v (Value.int IntKind.u32 (A.conv IntKind.u32 (A.sub IntKind.u64 (A.add IntKind.u64 (A.conv IntKind.u64 n) 4294967296) t7)))]) true true] fun r o=>
 AR 1 [2] (AH.mk [(2,ABlk.mk (List.drop 0 (List.take (0+n6*1) c6)++[AV.v (Value.int IntKind.u32 (A.conv IntKind.u32 (A.sub IntKind.u64 (A.add IntKind.u64 (A.conv IntKind.u64 n) 4294967296) t7)))]) true true),(1,ABlk.mk [AV.v (Value.int IntKind.u32 (A.conv IntKind.u32 (A.sub IntKind.u64 (A.add IntKind.u64 (A.conv IntKind.u64 n) 4294967296) t7)))] true true)] 3 none) [0] r o) none) none)
 (br (Bu (n6+1) 4) (br ((0+n6*1).ble c6.length) (Af D (Key.lp 150 0) [AV.ls t1,AV.sl 0 0 (n6+1) 1,AV.v (Value.int IntKind.u64 0),AV.ls t23,iv t24,iv (A.add IntKind.i64 t25 1)] [ABlk.mk (List.drop 0 (List.take (0+n6*1) c6)++[AV.v (Value.int IntKind.u32 (A.conv IntKind.u32 (A.sub IntKind.u64 (A.conv IntKind.u64 n) t7)))]) true true] fun r o=>
 AR 1 [2] (AH.mk [(2,ABlk.mk (List.drop 0 (List.take (0+n6*1) c6)++[AV.v (Value.int IntKind.u32 (A.conv IntKind.u32 (A.sub IntKind.u64 (A.conv IntKind.u64 n) t7)))]) true true),(1,ABlk.mk [AV.v (Value.int IntKind.u32 (A.conv IntKind.u32 (A.sub IntKind.u64 (A.conv IntKind.u64 n) t7)))] true true)] 3 none) [0] r o) none) none)))
 (some ((AV.tup [iv 0,AV.sl 1 0 n6 1],[BO.del,BO.set (ABlk.mk c6 true true)]))):=by kernel_rfl
theorem Amt(A:Ar)(D:Orc)(x0:List (List AV))(x1:List (List AV)):B3 A D As Lx .n 282 O6 [AV.ls x0,AV.ls x1] [] =
 unI (A.add IntKind.i64 ↑(Be x0) ↑(Be x1)) fun i=>
 unI (A.add IntKind.i64 ↑(Be x0) ↑(Be x1)) fun i1=>
 br (i.ble i1) (br (Bu i1 4) (Af D (Key.lp 282 0) [AV.ls x1,AV.sl 0 0 i 1,AV.ls x0,iv ↑(Be x0),iv 0] [ABlk.mk (Cq [AV.v (Value.int IntKind.u32 0)] (i*1)) true true] fun r o=>
 AF r fun cs=>
 Aj cs fun c l=>
 br (Bw 1 c)
 (Aj l fun c1 l1=>
 CC 1 1 c1 fun n=>
 Ad l1<|
 AG o fun c2 l2=>
 BW c2<|
 AG l2 fun c3 l3=>
 AP true true c3 fun cs1=>
 Ac l3<|
 br ((0+n*1).ble cs1.length) (Af D (Key.fn 200) [AV.ls (BF n 1 (List.take (n*1) cs1))] [] fun r1 o1=>
 BX r1 fun xs=>
 Ac o1<|
 some ((AV.ls xs,[]))) none)
 (none)) none) none:=by kernel_rfl
theorem YG(A:Ar)(D:Orc)(t1:List (List AV))(n5:Nat)(c5:List AV)(t18:List (List AV))(t19:Int)(t20:Int):D2 A D As Lx .n 282 0 (Bc O6 0).fst (Bc O6 0).snd [AV.ls t1,AV.sl 0 0 n5 1,AV.ls t18,iv t19,iv t20] [{ cells:=c5,st:=true,ex:=true }] =
 br (A.lt t20 t19)
 (unI t20 fun i=>
 BG t18 i fun cs=>
 Ay IntKind.u32 cs fun n l=>
 Ad l<|
 Af D (Key.lp 282 1) [AV.ls t1,AV.sl 0 0 n5 1,iv t20,AV.v (Value.int IntKind.u32 n),AV.v (Value.int IntKind.u64 0),AV.ls t18,iv t19,iv t20,AV.ls t1,iv ↑(Be t1),iv 0] [ABlk.mk c5 true true] fun r o=>
 AF r fun cs1=>
 Aj cs1 fun c l1=>
 br (Bw 3 c)
 (AI l1 fun xs l2=>
 Aj l2 fun c1 l3=>
 CC 1 1 c1 fun n1=>
 Ay IntKind.i64 l3 fun n2 l4=>
 Ay IntKind.u64 l4 fun n3 l5=>
 AI l5 fun xs1 l6=>
 Ay IntKind.i64 l6 fun n4 l7=>
 Ay IntKind.i64 l7 fun n6 l8=>
 Ad l8<|
 AG o fun c2 l9=>
 BW c2<|
 AG l9 fun c3 l10=>
 AP true true c3 fun cs2=>
 Ac l10<|
 unI (A.add IntKind.i64 n2 ↑(Be xs)) fun i1=>
 br (i1.blt n1) (br ((0+i1*1+1).ble cs2.length) (Af D (Key.lp 282 0) [AV.ls xs,AV.sl 0 0 n1 1,AV.ls xs1,iv n4,iv (A.add IntKind.i64 n6 1)] [ABlk.mk (Ba cs2 (0+i1*1) [AV.v (Value.int IntKind.u32 (A.conv IntKind.u32 n3))]) true true] fun r1 o1=>
 AR 1 [1] (AH.mk [(1,ABlk.mk (Ba cs2 (0+i1*1) [AV.v (Value.int IntKind.u32 (A.conv IntKind.u32 n3))]) true true)] 2 none) [0] r1 o1) none) none)
 (none))
 (some ((AV.tup [iv 0,AV.sl 1 0 n5 1],[BO.del,BO.set (ABlk.mk c5 true true)]))):=by kernel_rfl
theorem YH(A:Ar)(D:Orc)(t1:List (List AV))(n5:Nat)(c5:List AV)(t6:Int)(t7:Int)(t8:Int)(t18:List (List AV))(t19:Int)(t20:Int)(t25:List (List AV))(t26:Int)(t27:Int):D2 A D As Lx .n 282 1 (Bc O6 1).fst (Bc O6 1).snd [AV.ls t1,AV.sl 0 0 n5 1,iv t6,AV.v (Value.int IntKind.u32 t7),AV.v (Value.int IntKind.u64 t8),AV.ls t18,iv t19,iv t20,AV.ls t25,iv t26,iv t27] [{ cells:=c5,st:=true,ex:=true }] =
 br (A.lt t27 t26)
 (unI t27 fun i=>
 BG t25 i fun cs=>
 Ay IntKind.u32 cs fun n l=>
 Ad l<|
 unI (A.add IntKind.i64 t6 t27) fun i1=>
 br (i1.blt n5) (IA c5 (0+i1*1) 1 fun cs1=>
 Ay IntKind.u32 cs1 fun n1 l1=>
 Ad l1<|
 unI (A.add IntKind.i64 t6 t27) fun i2=>
 br (i2.blt n5) (br ((0+i2*1+1).ble c5.length) (br (A.lt 32 0)
 (none)
 (Af D (Key.lp 282 1) [AV.ls t1,AV.sl 0 0 n5 1,iv t6,AV.v (Value.int IntKind.u32 t7),AV.v (Value.int IntKind.u64 (A.shr IntKind.u64 (A.add IntKind.u64 (A.add IntKind.u64 (A.mul IntKind.u64 (A.conv IntKind.u64 t7) (A.conv IntKind.u64 n)) (A.conv IntKind.u64 n1)) t8) 32)),AV.ls t18,iv t19,iv t20,AV.ls t25,iv t26,iv (A.add IntKind.i64 t27 1)] [ABlk.mk (Ba c5 (0+i2*1) [AV.v (Value.int IntKind.u32 (A.conv IntKind.u32 (A.add IntKind.u64 (A.add IntKind.u64 (A.mul IntKind.u64 (A.conv IntKind.u64 t7) (A.conv IntKind.u64 n)) (A.conv IntKind.u64 n1)) t8)))]) true true] fun r o=>
 AR 1 [0] (AH.mk [(0,ABlk.mk (Ba c5 (0+i2*1) [AV.v (Value.int IntKind.u32 (A.conv IntKind.u32 (A.add IntKind.u64 (A.add IntKind.u64 (A.mul IntKind.u64 (A.conv IntKind.u64 t7) (A.conv IntKind.u64 n)) (A.conv IntKind.u64 n1)) t8)))]) true true)] 1 none) [0] r o)) none) none) none)
 (some ((AV.tup [iv 2,AV.ls t1,AV.sl 1 0 n5 1,iv t6,AV.v (Value.int IntKind.u64 t8),AV.ls t18,iv t19,iv t20],[BO.del,BO.set (ABlk.mk c5 true true)]))):=by kernel_rfl
theorem Ams(A:Ar)(D:Orc)(x0:List (List AV))(x1:List (List AV)):B3 A D As Aet .n 275 Afi [AV.ls x0,AV.ls x1] [] =
 Af D (Key.fn 204) [AV.ls x0] [] fun r o=>
 BX r fun xs=>
 Ac o<|
 Af D (Key.fn 204) [AV.ls x1] [] fun r1 o1=>
 BX r1 fun xs1=>
 Ac o1<|
 br (A.lt (↑(Be xs)) 24)
 (Af D (Key.fn 282) [AV.ls xs,AV.ls xs1] [] fun r2 o2=>
 BX r2 fun xs2=>
 Ac o2<|
 some ((AV.ls xs2,[])))
 (br (A.lt (↑(Be xs1)) 24)
 (Af D (Key.fn 282) [AV.ls xs,AV.ls xs1] [] fun r2 o2=>
 BX r2 fun xs2=>
 Ac o2<|
 some ((AV.ls xs2,[])))
 (Af D (Key.fn 283) [AV.ls xs,AV.ls xs1] [] fun r2 o2=>
 BX r2 fun xs2=>
 Ac o2<|
 some ((AV.ls xs2,[])))):=by kernel_rfl
theorem AhZ(A:Ar)(D:Orc)(x0:Int):B3 A D As Y0 .n 202 Ae5 [AV.v (Value.int IntKind.u8 x0)] [] =
 br (A.le 48 x0)
 (br (A.le x0 57)
 (some ((AV.tup [AV.v (Value.int IntKind.u32 (A.conv IntKind.u32 (A.sub IntKind.u8 x0 48))),bv true],[])))
 (some ((AV.tup [AV.v (Value.int IntKind.u32 (A.conv IntKind.u32 (A.sub IntKind.u8 x0 48))),bv false],[]))))
 (some ((AV.tup [AV.v (Value.int IntKind.u32 (A.conv IntKind.u32 (A.sub IntKind.u8 x0 48))),bv false],[]))):=by kernel_rfl
theorem Ah0(A:Ar)(D:Orc)(x0:List (List AV))(x1:Int)(x2:Int):B3 A D As OU .n 203 Vd [AV.ls x0,AV.v (Value.int IntKind.u32 x1),AV.v (Value.int IntKind.u32 x2)] [] =
 unI (A.add IntKind.i64 (↑(Be x0)) 1) fun i=>
 br (Bu i 4) (Af D (Key.lp 203 0) [AV.v (Value.int IntKind.u32 x1),AV.sl 0 0 0 1,AV.v (Value.int IntKind.u64 (A.conv IntKind.u64 x2)),AV.ls x0,iv ↑(Be x0),iv 0] [ABlk.mk [] true true] fun r o=>
 AF r fun cs=>
 Aj cs fun c l=>
 br (Bw 1 c)
 (Aj l fun c1 l1=>
 CC 1 1 c1 fun n=>
 Ay IntKind.u64 l1 fun n1 l2=>
 Ad l2<|
 AG o fun c2 l3=>
 BW c2<|
 AG l3 fun c3 l4=>
 AP true true c3 fun cs1=>
 Ac l4<|
 br (A.lt 0 n1)
 (br (Bu (n+1) 4) (br ((0+n*1).ble cs1.length) (br ((0+(n+1)*1).ble (List.drop 0 (List.take (0+n*1) cs1)++[AV.v (Value.int IntKind.u32 (A.conv IntKind.u32 n1))]).length) (some ((AV.ls (BF (n+1) 1 (List.take ((n+1)*1) (List.drop 0 (List.drop 0 (List.take (0+n*1) cs1)++[AV.v (Value.int IntKind.u32 (A.conv IntKind.u32 n1))])))),[]))) none) none) none)
 (br ((0+n*1).ble cs1.length) (some ((AV.ls (BF n 1 (List.take (n*1) cs1)),[]))) none))
 (none)) none:=by kernel_rfl
theorem Ys(A:Ar)(D:Orc)(t1:Int)(n7:Nat)(c7:List AV)(t8:Int)(t18:List (List AV))(t19:Int)(t20:Int):D2 A D As OU .n 203 0 (Bc Vd 0).fst (Bc Vd 0).snd [AV.v (Value.int IntKind.u32 t1),AV.sl 0 0 n7 1,AV.v (Value.int IntKind.u64 t8),AV.ls t18,iv t19,iv t20] [{ cells:=c7,st:=true,ex:=true }] =
 br (A.lt t20 t19)
 (unI t20 fun i=>
 BG t18 i fun cs=>
 Ay IntKind.u32 cs fun n l=>
 Ad l<|
 br (Bu (n7+1) 4) (br ((0+n7*1).ble c7.length) (br (A.lt 32 0)
 (none)
 (Af D (Key.lp 203 0) [AV.v (Value.int IntKind.u32 t1),AV.sl 0 0 (n7+1) 1,AV.v (Value.int IntKind.u64 (A.shr IntKind.u64 (A.add IntKind.u64 (A.mul IntKind.u64 (A.conv IntKind.u64 n) (A.conv IntKind.u64 t1)) t8) 32)),AV.ls t18,iv t19,iv (A.add IntKind.i64 t20 1)] [ABlk.mk (List.drop 0 (List.take (0+n7*1) c7)++[AV.v (Value.int IntKind.u32 (A.conv IntKind.u32 (A.add IntKind.u64 (A.mul IntKind.u64 (A.conv IntKind.u64 n) (A.conv IntKind.u64 t1)) t8)))]) true true] fun r o=>
 AR 1 [2] (AH.mk [(2,ABlk.mk (List.drop 0 (List.take (0+n7*1) c7)++[AV.v (Value.int IntKind.u32 (A.conv IntKind.u32 (A.add IntKind.u64 (A.mul IntKind.u64 (A.conv IntKind.u64 n) (A.conv IntKind.u64 t1)) t8)))]) true true),(1,ABlk.mk [AV.v (Value.int IntKind.u32 (A.conv IntKind.u32 (A.add IntKind.u64 (A.mul IntKind.u64 (A.conv IntKind.u64 n) (A.conv IntKind.u64 t1)) t8)))] true true)] 3 none) [0] r o)) none) none)
 (some ((AV.tup [iv 0,AV.sl 1 0 n7 1,AV.v (Value.int IntKind.u64 t8)],[BO.del,BO.set (ABlk.mk c7 true true)]))):=by kernel_rfl
theorem AlE(A:Ar)(D:Orc)(x0:ByteArray):B3 A D As ED .n 148 O1 [sv x0] [] =
 br (A.lt 4000 ↑(A.slen x0))
 (some ((AV.tup [AV.ls [],iv 2],[])))
 (br (A.seq x0 (AE []))
 (some ((AV.tup [AV.ls [],iv 20],[])))
 (Af D (Key.lp 148 0) [sv x0,AV.v (Value.slice none 0 0),AV.v (Value.int IntKind.u32 0),AV.v (Value.int IntKind.u32 1),iv ↑(A.slen x0),iv 0] [] fun r o=>
 AF r fun cs=>
 Aj cs fun c l=>
 br (Bw 0 c)
 (AI l fun xs l1=>
 Ay IntKind.i64 l1 fun n l2=>
 Ad l2<|
 Ac o<|
 some ((AV.tup [AV.ls xs,iv n],[])))
 (br (Bw 2 c)
 (AI l fun xs l1=>
 Ay IntKind.u32 l1 fun n l2=>
 Ay IntKind.u32 l2 fun n1 l3=>
 Ad l3<|
 Ac o<|
 Af D (Key.fn 203) [AV.ls xs,AV.v (Value.int IntKind.u32 n1),AV.v (Value.int IntKind.u32 n)] [] fun r1 o1=>
 BX r1 fun xs1=>
 Ac o1<|
 Af D (Key.fn 200) [AV.ls xs1] [] fun r2 o2=>
 BX r2 fun xs2=>
 Ac o2<|
 some ((AV.tup [AV.ls xs2,iv 0],[])))
 (none)))):=by kernel_rfl
theorem KG(A:Ar)(D:Orc)(t0:ByteArray)(t4:List (List AV))(t5:Int)(t6:Int)(t18:Int)(t19:Int):D2 A D As ED .n 148 0 (Bc O1 0).fst (Bc O1 0).snd [sv t0,AV.ls t4,AV.v (Value.int IntKind.u32 t5),AV.v (Value.int IntKind.u32 t6),iv t18,iv t19] [] =
 br (A.lt t19 t18)
 (unI t19 fun i=>
 br (i.blt (A.slen t0)) (Af D (Key.fn 202) [AV.v (Value.int IntKind.u8 (A.sat t0 i))] [] fun r o=>
 AF r fun cs=>
 Ay IntKind.u32 cs fun n l=>
 Ag l fun b l1=>
 Ad l1<|
 Ac o<|
 br (A.not b)
 (some ((AV.tup [bv true,AV.ls [],iv 20],[])))
 (br (A.eq (A.mul IntKind.u32 t6 10) 1000000000)
 (Af D (Key.fn 203) [AV.ls t4,AV.v (Value.int IntKind.u32 (A.mul IntKind.u32 t6 10)),AV.v (Value.int IntKind.u32 (A.add IntKind.u32 (A.mul IntKind.u32 t5 10) n))] [] fun r1 o1=>
 BX r1 fun xs=>
 Ac o1<|
 Af D (Key.lp 148 0) [sv t0,AV.ls xs,AV.v (Value.int IntKind.u32 0),AV.v (Value.int IntKind.u32 1),iv t18,iv (A.add IntKind.i64 t19 1)] [] fun r2 o2=>
 AR 0 [] (AH.mk [] 0 none) [] r2 o2)
 (Af D (Key.lp 148 0) [sv t0,AV.ls t4,AV.v (Value.int IntKind.u32 (A.add IntKind.u32 (A.mul IntKind.u32 t5 10) n)),AV.v (Value.int IntKind.u32 (A.mul IntKind.u32 t6 10)),iv t18,iv (A.add IntKind.i64 t19 1)] [] fun r1 o1=>
 AR 0 [] (AH.mk [] 0 none) [] r1 o1))) none)
 (some ((AV.tup [iv 1,AV.ls t4,AV.v (Value.int IntKind.u32 t5),AV.v (Value.int IntKind.u32 t6)],[]))):=by kernel_rfl
theorem If(A:Ar)(D:Orc)(t0:ByteArray)(t5:Int)(t6:Int)(t18:Int)(t19:Int):D2 A D As ED .n 148 0 (Bc O1 0).fst (Bc O1 0).snd [sv t0,AV.v (Value.slice none 0 0),AV.v (Value.int IntKind.u32 t5),AV.v (Value.int IntKind.u32 t6),iv t18,iv t19] [] =
 br (A.lt t19 t18)
 (unI t19 fun i=>
 br (i.blt (A.slen t0)) (Af D (Key.fn 202) [AV.v (Value.int IntKind.u8 (A.sat t0 i))] [] fun r o=>
 AF r fun cs=>
 Ay IntKind.u32 cs fun n l=>
 Ag l fun b l1=>
 Ad l1<|
 Ac o<|
 br (A.not b)
 (some ((AV.tup [bv true,AV.ls [],iv 20],[])))
 (br (A.eq (A.mul IntKind.u32 t6 10) 1000000000)
 (Af D (Key.fn 203) [AV.ls [],AV.v (Value.int IntKind.u32 (A.mul IntKind.u32 t6 10)),AV.v (Value.int IntKind.u32 (A.add IntKind.u32 (A.mul IntKind.u32 t5 10) n))] [] fun r1 o1=>
 BX r1 fun xs=>
 Ac o1<|
 Af D (Key.lp 148 0) [sv t0,AV.ls xs,AV.v (Value.int IntKind.u32 0),AV.v (Value.int IntKind.u32 1),iv t18,iv (A.add IntKind.i64 t19 1)] [] fun r2 o2=>
 AR 0 [] (AH.mk [] 0 none) [] r2 o2)
 (Af D (Key.lp 148 0) [sv t0,AV.v (Value.slice none 0 0),AV.v (Value.int IntKind.u32 (A.add IntKind.u32 (A.mul IntKind.u32 t5 10) n)),AV.v (Value.int IntKind.u32 (A.mul IntKind.u32 t6 10)),iv t18,iv (A.add IntKind.i64 t19 1)] [] fun r1 o1=>
 AR 0 [] (AH.mk [] 0 none) [] r1 o1))) none)
 (some ((AV.tup [iv 1,AV.ls [],AV.v (Value.int IntKind.u32 t5),AV.v (Value.int IntKind.u32 t6)],[]))):=by kernel_rfl
def AiM:Am:=[]
noncomputable def AeM:MFn:=Bj Tryz.prog Ah AiM false false 145
def AdZ:Hnt:=⟨[(200,(.ls,[]))],[],[]⟩
def Ajs:Am:=[]
noncomputable def Ae7:MFn:=Bj Tryz.prog Ah Ajs false false 209
def Aej:Hnt:=⟨[(145,(.agg [.bool,.ls],[]))],[],[(4,[.bool]),(6,[.ls])]⟩
def Am9:Am:=[]
noncomputable def AkF:MFn:=Bj Tryz.prog Ah Am9 false false 84
def Aim:Hnt:=⟨[(145,(.agg [.bool,.ls],[])),(146,(.ls,[]))],[],[]⟩
def Anb:Am:=[]
noncomputable def AkH:MFn:=Bj Tryz.prog Ah Anb false false 86
def Aio:Hnt:=⟨[(145,(.agg [.bool,.ls],[]))],[],[(4,[.bool]),(7,[.ls])]⟩
def AiY:Am:=[]
noncomputable def AeU:MFn:=Bj Tryz.prog Ah AiY false false 158
def Ad7:Hnt:=⟨[(209,(.agg [.bool,.ls],[]))],[],[(3,[.bool,.ls]),(7,[.bool]),(10,[.ls])]⟩
def AjU:Am:=[]
noncomputable def Afj:MFn:=Bj Tryz.prog Ah AjU false false 285
def Aeu:Hnt:=⟨[(158,(.int .i64,[])),(205,(.int .i64,[]))],[],[(7,[.bool,.ls]),(9,[.bool,.ls]),(23,[.ls]),(25,[.ls]),(28,[.ls]),(30,[.ls])]⟩
def Anc:Am:=[]
noncomputable def AkI:MFn:=Bj Tryz.prog Ah Anc false false 87
def Aip:Hnt:=⟨[(145,(.agg [.bool,.ls],[])),(149,(.ls,[])),(150,(.tup [.ls,.bool],[]))],[],[(10,[.bool]),(12,[.bool]),(15,[.bool]),(17,[.ls]),(19,[.ls]),(24,[.ls]),(26,[.ls]),(32,[.bool]),(37,[.ls]),(39,[.ls]),(44,[.bool])]⟩
def AjQ:Am:=[]
noncomputable def Afh:MFn:=Bj Tryz.prog Ah AjQ false false 264
def Aes:Hnt:=⟨[(145,(.agg [.bool,.ls],[])),(275,(.ls,[]))],[],[(6,[.bool]),(8,[.bool]),(11,[.ls]),(13,[.ls])]⟩
def Ana:Am:=[]
noncomputable def AkG:MFn:=Bj Tryz.prog Ah Ana false false 85
def Ain:Hnt:=⟨[(145,(.agg [.bool,.ls],[])),(147,(.tup [.str,.bool],[])),(148,(.tup [.ls,.int .i64],[]))],[],[]⟩
def AiO:Am:=[]
noncomputable def AeO:MFn:=Bj Tryz.prog Ah AiO false false 147
def Ad1:Hnt:=⟨[(201,(.tup [.str,.bool],[]))],[],[]⟩
def Ajk:Am:=[]
noncomputable def Ae4:MFn:=Bj Tryz.prog Ah Ajk false false 201
def Aeh:Hnt:=⟨[(241,(.bool,[]))],[],[]⟩
def AjG:Am:=[]
noncomputable def Afg:MFn:=Bj Tryz.prog Ah AjG false false 241
def Aer:Hnt:=⟨[],[],[]⟩
noncomputable def PC:List (Nat × MFn):=[(145,AeM),(209,Ae7),(84,AkF),(86,AkH),(158,AeU),(285,Afj),(87,AkI),(264,Afh),(85,AkG),(147,AeO),(201,Ae4),(241,Afg)]
theorem AlB(A:Ar)(D:Orc)(x0:Bool)(x1:List (List AV)):B3 A D As AdZ (.b (.t (.t (.b (.t .n) (.t .n)))) (.f (.f (.f .n)))) 145 AeM [bv x0,AV.ls x1] [] =
 Af D (Key.fn 200) [AV.ls x1] [] fun r o=>
 BX r fun xs=>
 Ac o<|
 br x0
 (br x0 (br x0 (br (A.lt 0 ↑(Be xs))
 (br x0 (some ((AV.agg [bv true,AV.ls xs],[]))) none)
 (br x0 (some ((AV.agg [bv false,AV.ls xs],[]))) none)) none) none)
 (br x0 none (br x0 none (br x0 none (some ((AV.agg [bv false,AV.ls xs],[])))))):=by kernel_rfl
theorem Ama(A:Ar)(D:Orc)(x0_0:Bool)(x0_1:List (List AV)):B3 A D As Aej .n 209 Ae7 [AV.agg [bv x0_0,AV.ls x0_1]] [] =
 Af D (Key.fn 145) [bv x0_0,AV.ls x0_1] [] fun r o=>
 At r fun cs=>
 Ag cs fun b l=>
 AI l fun xs l1=>
 Ad l1<|
 Ac o<|
 some ((AV.agg [bv b,AV.ls xs],[])):=by kernel_rfl
theorem e84(A:Ar)(D:Orc)(x0:Int):B3 A D As Aim .n 84 AkF [iv x0] [] =
 br (A.lt x0 0)
 (Af D (Key.fn 146) [AV.v (Value.int IntKind.u64 (A.add IntKind.u64 (A.conv IntKind.u64 (A.sub IntKind.i64 0 (A.add IntKind.i64 x0 1))) 1))] [] fun r o=>
 BX r fun xs=>
 Ac o<|
 Af D (Key.fn 145) [bv true,AV.ls xs] [] fun r1 o1=>
 At r1 fun cs=>
 Ag cs fun b l=>
 AI l fun xs1 l1=>
 Ad l1<|
 Ac o1<|
 some ((AV.agg [bv b,AV.ls xs1],[])))
 (Af D (Key.fn 146) [AV.v (Value.int IntKind.u64 (A.conv IntKind.u64 x0))] [] fun r o=>
 BX r fun xs=>
 Ac o<|
 Af D (Key.fn 145) [bv false,AV.ls xs] [] fun r1 o1=>
 At r1 fun cs=>
 Ag cs fun b l=>
 AI l fun xs1 l1=>
 Ad l1<|
 Ac o1<|
 some ((AV.agg [bv b,AV.ls xs1],[]))):=by kernel_rfl
theorem e86(A:Ar)(D:Orc)(x0_0:Bool)(x0_1:List (List AV)):B3 A D As Aio .n 86 AkH [AV.agg [bv x0_0,AV.ls x0_1]] [] =
 br (A.not x0_0)
 (Af D (Key.fn 145) [bv true,AV.ls x0_1] [] fun r o=>
 At r fun cs=>
 Ag cs fun b l=>
 AI l fun xs l1=>
 Ad l1<|
 Ac o<|
 some ((AV.agg [bv b,AV.ls xs],[])))
 (Af D (Key.fn 145) [bv false,AV.ls x0_1] [] fun r o=>
 At r fun cs=>
 Ag cs fun b l=>
 AI l fun xs l1=>
 Ad l1<|
 Ac o<|
 some ((AV.agg [bv b,AV.ls xs],[]))):=by kernel_rfl
theorem AlN(A:Ar)(D:Orc)(x0_0:Bool)(x0_1:List (List AV)):B3 A D As Ad7 .n 158 AeU [AV.agg [bv x0_0,AV.ls x0_1]] [] =
 Af D (Key.fn 209) [AV.agg [bv x0_0,AV.ls x0_1]] [] fun r o=>
 At r fun cs=>
 Ag cs fun b l=>
 AI l fun xs l1=>
 Ad l1<|
 Ac o<|
 br b
 (some ((iv (-1),[])))
 (br (A.lt 0 ↑(Be xs))
 (some ((iv 1,[])))
 (some ((iv 0,[])))):=by kernel_rfl
theorem Amu(A:Ar)(D:Orc)(x0_0:Bool)(x0_1:List (List AV))(x1_0:Bool)(x1_1:List (List AV)):B3 A D As Aeu .n 285 Afj [AV.agg [bv x0_0,AV.ls x0_1],AV.agg [bv x1_0,AV.ls x1_1]] [] =
 Af D (Key.fn 158) [AV.agg [bv x0_0,AV.ls x0_1]] [] fun r o=>
 Bp IntKind.i64 r fun n=>
 Ac o<|
 Af D (Key.fn 158) [AV.agg [bv x1_0,AV.ls x1_1]] [] fun r1 o1=>
 Bp IntKind.i64 r1 fun n1=>
 Ac o1<|
 br (A.lt n n1)
 (some ((iv (-1),[])))
 (br (A.lt n1 n)
 (some ((iv 1,[])))
 (br (A.lt n 0)
 (Af D (Key.fn 205) [AV.ls x1_1,AV.ls x0_1] [] fun r2 o2=>
 Bp IntKind.i64 r2 fun n2=>
 Ac o2<|
 some ((iv n2,[])))
 (Af D (Key.fn 205) [AV.ls x0_1,AV.ls x1_1] [] fun r2 o2=>
 Bp IntKind.i64 r2 fun n2=>
 Ac o2<|
 some ((iv n2,[]))))):=by kernel_rfl
theorem e87(A:Ar)(D:Orc)(x0_0:Bool)(x0_1:List (List AV))(x1_0:Bool)(x1_1:List (List AV)):B3 A D As Aip .n 87 AkI [AV.agg [bv x0_0,AV.ls x0_1],AV.agg [bv x1_0,AV.ls x1_1]] [] =
 br (A.beq x0_0 x1_0)
 (Af D (Key.fn 149) [AV.ls x0_1,AV.ls x1_1] [] fun r o=>
 BX r fun xs=>
 Ac o<|
 Af D (Key.fn 145) [bv x0_0,AV.ls xs] [] fun r1 o1=>
 At r1 fun cs=>
 Ag cs fun b l=>
 AI l fun xs1 l1=>
 Ad l1<|
 Ac o1<|
 some ((AV.agg [bv b,AV.ls xs1],[])))
 (Af D (Key.fn 150) [AV.ls x0_1,AV.ls x1_1] [] fun r o=>
 AF r fun cs=>
 AI cs fun xs l=>
 Ag l fun b l1=>
 Ad l1<|
 Ac o<|
 br b
 (Af D (Key.fn 145) [bv x0_0,AV.ls xs] [] fun r1 o1=>
 At r1 fun cs1=>
 Ag cs1 fun b1 l2=>
 AI l2 fun xs1 l3=>
 Ad l3<|
 Ac o1<|
 some ((AV.agg [bv b1,AV.ls xs1],[])))
 (Af D (Key.fn 150) [AV.ls x1_1,AV.ls x0_1] [] fun r1 o1=>
 AF r1 fun cs1=>
 AI cs1 fun xs1 l2=>
 Ag l2 fun _ l3=>
 Ad l3<|
 Ac o1<|
 Af D (Key.fn 145) [bv x1_0,AV.ls xs1] [] fun r2 o2=>
 At r2 fun cs2=>
 Ag cs2 fun b2 l4=>
 AI l4 fun xs2 l5=>
 Ad l5<|
 Ac o2<|
 some ((AV.agg [bv b2,AV.ls xs2],[])))):=by kernel_rfl
theorem Amq(A:Ar)(D:Orc)(x0_0:Bool)(x0_1:List (List AV))(x1_0:Bool)(x1_1:List (List AV)):B3 A D As Aes .n 264 Afh [AV.agg [bv x0_0,AV.ls x0_1],AV.agg [bv x1_0,AV.ls x1_1]] [] =
 br (A.not (A.beq x0_0 x1_0))
 (Af D (Key.fn 275) [AV.ls x0_1,AV.ls x1_1] [] fun r o=>
 BX r fun xs=>
 Ac o<|
 Af D (Key.fn 145) [bv true,AV.ls xs] [] fun r1 o1=>
 At r1 fun cs=>
 Ag cs fun b l=>
 AI l fun xs1 l1=>
 Ad l1<|
 Ac o1<|
 some ((AV.agg [bv b,AV.ls xs1],[])))
 (Af D (Key.fn 275) [AV.ls x0_1,AV.ls x1_1] [] fun r o=>
 BX r fun xs=>
 Ac o<|
 Af D (Key.fn 145) [bv false,AV.ls xs] [] fun r1 o1=>
 At r1 fun cs=>
 Ag cs fun b l=>
 AI l fun xs1 l1=>
 Ad l1<|
 Ac o1<|
 some ((AV.agg [bv b,AV.ls xs1],[]))):=by kernel_rfl
theorem e85(A:Ar)(D:Orc)(x0:ByteArray):B3 A D As Ain .n 85 AkG [sv x0] [] =
 Af D (Key.fn 147) [sv x0,sv (AE [45])] [] fun r o=>
 AF r fun cs=>
 Br cs fun s l=>
 Ag l fun b l1=>
 Ad l1<|
 Ac o<|
 Af D (Key.fn 148) [sv s] [] fun r1 o1=>
 AF r1 fun cs1=>
 AI cs1 fun xs l2=>
 Ay IntKind.i64 l2 fun n l3=>
 Ad l3<|
 Ac o1<|
 br (A.eq n 0)
 (Af D (Key.fn 145) [bv b,AV.ls xs] [] fun r2 o2=>
 At r2 fun cs2=>
 Ag cs2 fun b1 l4=>
 AI l4 fun xs1 l5=>
 Ad l5<|
 Ac o2<|
 some ((AV.tup [AV.agg [bv b1,AV.ls xs1],iv 0],[])))
 (some ((AV.tup [AV.agg [bv false,AV.ls []],iv n],[]))):=by kernel_rfl
theorem AlD(A:Ar)(D:Orc)(x0:ByteArray)(x1:ByteArray):B3 A D As Ad1 .n 147 AeO [sv x0,sv x1] [] =
 Af D (Key.fn 201) [sv x0,sv x1] [] fun r o=>
 AF r fun cs=>
 Br cs fun s l=>
 Ag l fun b l1=>
 Ad l1<|
 Ac o<|
 some ((AV.tup [sv s,bv b],[])):=by kernel_rfl
theorem Al4(A:Ar)(D:Orc)(x0:ByteArray)(x1:ByteArray):B3 A D As Aeh .n 201 Ae4 [sv x0,sv x1] [] =
 Af D (Key.fn 241) [sv x0,sv x1] [] fun r o=>
 AW r fun b=>
 Ac o<|
 br b
 (br (JG (A.slen x1) (A.slen x0) (A.slen x0)) (some ((AV.tup [sv (A.ssub x0 (A.slen x1) (A.slen x0)),bv true],[]))) none)
 (some ((AV.tup [sv x0,bv false],[]))):=by kernel_rfl
theorem Aml(A:Ar)(D:Orc)(x0:ByteArray)(x1:ByteArray):B3 A D As Aer .n 241 Afg [sv x0,sv x1] [] =
 br (A.le ↑(A.slen x1) ↑(A.slen x0))
 (br (JG 0 (A.slen x1) (A.slen x0)) (br (A.seq (A.ssub x0 0 (A.slen x1)) x1)
 (some ((bv true,[])))
 (some ((bv false,[])))) none)
 (some ((bv false,[]))):=by kernel_rfl
def Ajb:Am:=[⟨37,[true,false,false,true,true],[(3,1)],[],[(1,([false,false,false,true],([],[])))]⟩,⟨37,[false,false,false,true],[(3,1)],[],[(3,([false,false,false,true],([],[])))]⟩]
noncomputable def O2:MFn:=Bj Tryz.prog Ah Ajb false false 177
def Lu:Hnt:=⟨[],[(0,[(1,([.sl 1 1],[.del,.row true]))]),(1,[(3,([.sl 1 1],[.del,.row true]))])],[(15,[.int .u32]),(16,[.int .u32]),(27,[.int .u32]),(28,[.int .u32])]⟩
def AjA:Am:=[]
noncomputable def Afd:MFn:=Bj Tryz.prog Ah AjA false false 226
def Aeo:Hnt:=⟨[],[],[]⟩
def AjB:Am:=[]
noncomputable def Afe:MFn:=Bj Tryz.prog Ah AjB false false 227
def Aep:Hnt:=⟨[],[],[(15,[.int .u32]),(16,[.int .u32])]⟩
def AjD:Am:=[⟨28,[true,true,false,false,false,true],[],[],[(0,([false,false,false,false,true],([],[]))),(1,([],([],[])))]⟩]
noncomputable def Vi:MFn:=Bj Tryz.prog Ah AjD false false 229
def RQ:Hnt:=⟨[(226,(.int .i64,[])),(227,(.int .u64,[]))],[(0,[(0,([.int .i64],[])),(1,([],[]))])],[]⟩
def Ajf:Am:=[⟨36,[true,true,false,false,false,true,true,true],[(5,1)],[],[(1,([false,false,false,false,false,true],([],[])))]⟩]
noncomputable def Va:MFn:=Bj Tryz.prog Ah Ajf false false 181
def RL:Hnt:=⟨[(177,(.ls,[])),(226,(.int .i64,[])),(227,(.int .u64,[]))],[(0,[(1,([.sl 1 1],[.del,.row true]))])],[]⟩
def Aji:Am:=[⟨43,[true,true,false,false,false,false,true,true,true],[(6,1)],[],[(1,([false,false,false,false,false,false,true],([],[])))]⟩]
noncomputable def Vc:MFn:=Bj Tryz.prog Ah Aji false false 184
def RM:Hnt:=⟨[(177,(.ls,[])),(226,(.int .i64,[])),(227,(.int .u64,[])),(229,(.int .i64,[]))],[(0,[(1,([.sl 1 1],[.del,.row true]))])],[]⟩
def AjC:Am:=[⟨37,[true,true,false,false,false,true,true,true],[(5,1)],[],[(1,([false,false,false,false,false,true,true],([],[])))]⟩]
noncomputable def Vh:MFn:=Bj Tryz.prog Ah AjC false false 228
def RP:Hnt:=⟨[(177,(.ls,[])),(227,(.int .u64,[]))],[(0,[(1,([.sl 1 1,.int .u64],[.del,.row true]))])],[]⟩
def Ajh:Am:=[⟨42,[true,true,false,false,false,true,true],[],[5],[(1,([false,false,false,false,false,true],([],[])))]⟩,⟨42,[true,true,false,false,false,true,true,true,true],[(7,1)],[],[(3,([true,true,false,false,false,false,true,true],([],[])))]⟩]
noncomputable def O3:MFn:=Bj Tryz.prog Ah Ajh false false 183
def Lv:Hnt:=⟨[(177,(.ls,[])),(181,(.ls,[])),(228,(.ls,[]))],[(0,[(1,([.ls],[]))]),(1,[(3,([.ls,.ls,.int .i64,.sl 1 1],[.del,.row true]))])],[(27,[.int .u32]),(28,[.int .u32]),(35,[.int .u32]),(36,[.int .u32])]⟩
def Ajg:Am:=[⟨40,[true,false,false,false,true,true],[],[4],[(0,([false,false,true,true],([2],[]))),(1,([true,false,false,false,true],([],[])))]⟩]
noncomputable def Vb:MFn:=Bj Tryz.prog Ah Ajg false false 182
def M9:Hnt:=⟨[(177,(.ls,[])),(181,(.ls,[])),(228,(.ls,[]))],[(0,[(0,([.ls,.int .i64],[])),(1,([.str,.ls],[]))])],[]⟩
def AjN:Am:=[⟨26,[true,true,false,false,false,true],[],[],[(0,([false,false,false,false,true],([],[]))),(1,([],([],[])))]⟩]
noncomputable def Vk:MFn:=Bj Tryz.prog Ah AjN false false 258
def Nb:Hnt:=⟨[],[(0,[(0,([.bool],[])),(1,([],[]))])],[(19,[.int .u32]),(20,[.int .u32]),(23,[.int .u32]),(24,[.int .u32])]⟩
noncomputable def NZ:List (Nat × MFn):=[(177,O2),(226,Afd),(227,Afe),(229,Vi),(181,Va),(184,Vc),(228,Vh),(183,O3),(182,Vb),(258,Vk)]
theorem AlV(A:Ar)(D:Orc)(x0:List (List AV)):B3 A D As Lu .n 177 O2 [AV.ls x0] [] =
 Af D (Key.lp 177 0) [AV.ls x0,AV.sl 0 0 0 1,iv 0] [ABlk.mk [] true true] fun r o=>
 AF r fun cs=>
 Aj cs fun c l=>
 br (Bw 1 c)
 (Aj l fun c1 l1=>
 CC 1 1 c1 fun n=>
 Ad l1<|
 AG o fun c2 l2=>
 BW c2<|
 AG l2 fun c3 l3=>
 AP true true c3 fun cs1=>
 Ac l3<|
 Af D (Key.lp 177 1) [AV.sl 0 0 n 1] [ABlk.mk cs1 true true] fun r1 o1=>
 AF r1 fun cs2=>
 Aj cs2 fun c4 l4=>
 br (Bw 3 c4)
 (Aj l4 fun c5 l5=>
 CC 1 1 c5 fun n1=>
 Ad l5<|
 AG o1 fun c6 l6=>
 BW c6<|
 AG l6 fun c7 l7=>
 AP true true c7 fun cs3=>
 Ac l7<|
 br ((0+n1*1).ble cs3.length) (some ((AV.ls (BF n1 1 (List.take (n1*1) cs3)),[]))) none)
 (none))
 (none):=by kernel_rfl
theorem Yl(A:Ar)(D:Orc)(t0:List (List AV))(n3:Nat)(c3:List AV)(t4:Int):D2 A D As Lu .n 177 0 (Bc O2 0).fst (Bc O2 0).snd [AV.ls t0,AV.sl 0 0 n3 1,iv t4] [{ cells:=c3,st:=true,ex:=true }] =
 br (A.lt t4 ↑(Be t0))
 (unI t4 fun i=>
 BG t0 i fun cs=>
 Ay IntKind.u32 cs fun n l=>
 Ad l<|
 br (Bu (n3+1) 4) (br ((0+n3*1).ble c3.length) (Af D (Key.lp 177 0) [AV.ls t0,AV.sl 0 0 (n3+1) 1,iv (A.add IntKind.i64 t4 1)] [ABlk.mk (List.drop 0 (List.take (0+n3*1) c3)++[AV.v (Value.int IntKind.u32 n)]) true true] fun r o=>
 AR 1 [2] (AH.mk [(2,ABlk.mk (List.drop 0 (List.take (0+n3*1) c3)++[AV.v (Value.int IntKind.u32 n)]) true true),(1,ABlk.mk [AV.v (Value.int IntKind.u32 n)] true true)] 3 none) [0] r o) none) none)
 (some ((AV.tup [iv 0,AV.sl 1 0 n3 1],[BO.del,BO.set (ABlk.mk c3 true true)]))):=by kernel_rfl
theorem Ym(A:Ar)(D:Orc)(n3:Nat)(c3:List AV):D2 A D As Lu .n 177 1 (Bc O2 1).fst (Bc O2 1).snd [AV.sl 0 0 n3 1] [{ cells:=c3,st:=true,ex:=true }] =
 br (A.lt 0 ↑n3)
 (unI (A.sub IntKind.i64 (↑n3) 1) fun i=>
 br (i.blt n3) (IA c3 (0+i*1) 1 fun cs=>
 Ay IntKind.u32 cs fun n l=>
 Ad l<|
 br (A.eq n 0)
 (unI (A.sub IntKind.i64 (↑n3) 1) fun i1=>
 br (JG 0 i1 n3) (Af D (Key.lp 177 1) [AV.sl 0 0 i1 1] [ABlk.mk c3 true true] fun r o=>
 AR 1 [0] (AH.mk [(0,ABlk.mk c3 true true)] 1 none) [] r o) none)
 (some ((AV.tup [iv 2,AV.sl 1 0 n3 1],[BO.del,BO.set (ABlk.mk c3 true true)])))) none)
 (some ((AV.tup [iv 2,AV.sl 1 0 n3 1],[BO.del,BO.set (ABlk.mk c3 true true)]))):=by kernel_rfl
theorem Amg(A:Ar)(D:Orc)(x0:List (List AV))(x1:List (List AV)):B3 A D As Aeo .n 226 Afd [AV.ls x0,AV.ls x1] [] =
 br (A.lt ↑(Be x1) ↑(Be x0))
 (some ((iv ↑(Be x0),[])))
 (some ((iv ↑(Be x1),[]))):=by kernel_rfl
theorem Amh(A:Ar)(D:Orc)(x0:List (List AV))(x1:Int):B3 A D As Aep .n 227 Afe [AV.ls x0,iv x1] [] =
 br (A.lt x1 0)
 (some ((AV.v (Value.int IntKind.u64 0),[])))
 (br (A.le (↑(Be x0)) x1)
 (some ((AV.v (Value.int IntKind.u64 0),[])))
 (unI x1 fun i=>
 BG x0 i fun cs=>
 Ay IntKind.u32 cs fun n l=>
 Ad l<|
 some ((AV.v (Value.int IntKind.u64 (A.conv IntKind.u64 n)),[])))):=by kernel_rfl
theorem Amj(A:Ar)(D:Orc)(x0:List (List AV))(x1:List (List AV)):B3 A D As RQ .n 229 Vi [AV.ls x0,AV.ls x1] [] =
 Af D (Key.fn 226) [AV.ls x0,AV.ls x1] [] fun r o=>
 Bp IntKind.i64 r fun n=>
 Ac o<|
 Af D (Key.lp 229 0) [AV.ls x0,AV.ls x1,iv (A.sub IntKind.i64 n 1)] [] fun r1 o1=>
 AF r1 fun cs=>
 Aj cs fun c l=>
 br (Bw 0 c)
 (Ay IntKind.i64 l fun n1 l1=>
 Ad l1<|
 Ac o1<|
 some ((iv n1,[])))
 (br (Bw 1 c)
 (Ad l<|
 Ac o1<|
 some ((iv 0,[])))
 (none)):=by kernel_rfl
theorem Yz(A:Ar)(D:Orc)(t0:List (List AV))(t1:List (List AV))(t5:Int):D2 A D As RQ .n 229 0 (Bc Vi 0).fst (Bc Vi 0).snd [AV.ls t0,AV.ls t1,iv t5] [] =
 br (A.le 0 t5)
 (Af D (Key.fn 227) [AV.ls t0,iv t5] [] fun r o=>
 Bp IntKind.u64 r fun n=>
 Ac o<|
 Af D (Key.fn 227) [AV.ls t1,iv t5] [] fun r1 o1=>
 Bp IntKind.u64 r1 fun n1=>
 Ac o1<|
 br (A.lt n n1)
 (some ((AV.tup [bv true,iv (-1)],[])))
 (Af D (Key.fn 227) [AV.ls t0,iv t5] [] fun r2 o2=>
 Bp IntKind.u64 r2 fun n2=>
 Ac o2<|
 Af D (Key.fn 227) [AV.ls t1,iv t5] [] fun r3 o3=>
 Bp IntKind.u64 r3 fun n3=>
 Ac o3<|
 br (A.lt n3 n2)
 (some ((AV.tup [bv true,iv 1],[])))
 (Af D (Key.lp 229 0) [AV.ls t0,AV.ls t1,iv (A.sub IntKind.i64 t5 1)] [] fun r4 o4=>
 AR 0 [] (AH.mk [] 0 none) [] r4 o4)))
 (some ((AV.tup [iv 0],[]))):=by kernel_rfl
theorem AlZ(A:Ar)(D:Orc)(x0:List (List AV))(x1:List (List AV)):B3 A D As RL .n 181 Va [AV.ls x0,AV.ls x1] [] =
 Af D (Key.lp 181 0) [AV.ls x0,AV.ls x1,AV.sl 0 0 0 1,AV.v (Value.int IntKind.u64 0),iv 0] [ABlk.mk [] true true] fun r o=>
 AF r fun cs=>
 Aj cs fun c l=>
 br (Bw 1 c)
 (Aj l fun c1 l1=>
 CC 1 1 c1 fun n=>
 Ad l1<|
 AG o fun c2 l2=>
 BW c2<|
 AG l2 fun c3 l3=>
 AP true true c3 fun cs1=>
 Ac l3<|
 br ((0+n*1).ble cs1.length) (Af D (Key.fn 177) [AV.ls (BF n 1 (List.take (n*1) cs1))] [] fun r1 o1=>
 BX r1 fun xs=>
 Ac o1<|
 some ((AV.ls xs,[]))) none)
 (none):=by kernel_rfl
theorem Yo(A:Ar)(D:Orc)(t0:List (List AV))(t1:List (List AV))(n5:Nat)(c5:List AV)(t6:Int)(t7:Int):D2 A D As RL (.b (.b (.b .n (.b .n (.f .n))) .n) .n) 181 0 (Bc Va 0).fst (Bc Va 0).snd [AV.ls t0,AV.ls t1,AV.sl 0 0 n5 1,AV.v (Value.int IntKind.u64 t6),iv t7] [{ cells:=c5,st:=true,ex:=true }] =
 Af D (Key.fn 226) [AV.ls t0,AV.ls t1] [] fun r o=>
 Bp IntKind.i64 r fun n=>
 Ac o<|
 br (A.le t7 n)
 (Af D (Key.fn 227) [AV.ls t0,iv t7] [] fun r1 o1=>
 Bp IntKind.u64 r1 fun n1=>
 Ac o1<|
 Af D (Key.fn 227) [AV.ls t1,iv t7] [] fun r2 o2=>
 Bp IntKind.u64 r2 fun n2=>
 Ac o2<|
 br (A.eq 4294967296 0)
 (none)
 (br (Bu (n5+1) 4) (br ((0+n5*1).ble c5.length) (br (A.eq 4294967296 0) none (Af D (Key.lp 181 0) [AV.ls t0,AV.ls t1,AV.sl 0 0 (n5+1) 1,AV.v (Value.int IntKind.u64 (A.quo IntKind.u64 (A.add IntKind.u64 (A.add IntKind.u64 n1 n2) t6) 4294967296)),iv (A.add IntKind.i64 t7 1)] [ABlk.mk (List.drop 0 (List.take (0+n5*1) c5)++[AV.v (Value.int IntKind.u32 (A.conv IntKind.u32 (A.rem IntKind.u64 (A.add IntKind.u64 (A.add IntKind.u64 n1 n2) t6) 4294967296)))]) true true] fun r3 o3=>
 AR 1 [2] (AH.mk [(2,ABlk.mk (List.drop 0 (List.take (0+n5*1) c5)++[AV.v (Value.int IntKind.u32 (A.conv IntKind.u32 (A.rem IntKind.u64 (A.add IntKind.u64 (A.add IntKind.u64 n1 n2) t6) 4294967296)))]) true true),(1,ABlk.mk [AV.v (Value.int IntKind.u32 (A.conv IntKind.u32 (A.rem IntKind.u64 (A.add IntKind.u64 (A.add IntKind.u64 n1 n2) t6) 4294967296)))] true true)] 3 none) [0] r3 o3)) none) none))
 (some ((AV.tup [iv 0,AV.sl 1 0 n5 1],[BO.del,BO.set (ABlk.mk c5 true true)]))):=by kernel_rfl
theorem Al2(A:Ar)(D:Orc)(x0:List (List AV))(x1:List (List AV)):B3 A D As RM .n 184 Vc [AV.ls x0,AV.ls x1] [] =
 Af D (Key.fn 229) [AV.ls x0,AV.ls x1] [] fun r o=>
 Bp IntKind.i64 r fun n=>
 Ac o<|
 br (A.lt n 0)
 (some ((AV.tup [AV.ls [],bv false],[])))
 (Af D (Key.lp 184 0) [AV.ls x0,AV.ls x1,AV.sl 0 0 0 1,AV.v (Value.int IntKind.u64 0),iv 0] [ABlk.mk [] true true] fun r1 o1=>
 AF r1 fun cs=>
 Aj cs fun c l=>
 br (Bw 1 c)
 (Aj l fun c1 l1=>
 CC 1 1 c1 fun n1=>
 Ad l1<|
 AG o1 fun c2 l2=>
 BW c2<|
 AG l2 fun c3 l3=>
 AP true true c3 fun cs1=>
 Ac l3<|
 br ((0+n1*1).ble cs1.length) (Af D (Key.fn 177) [AV.ls (BF n1 1 (List.take (n1*1) cs1))] [] fun r2 o2=>
 BX r2 fun xs=>
 Ac o2<|
 some ((AV.tup [AV.ls xs,bv true],[]))) none)
 (none)):=by kernel_rfl
theorem Yr(A:Ar)(D:Orc)(t0:List (List AV))(t1:List (List AV))(n6:Nat)(c6:List AV)(t7:Int)(t8:Int):D2 A D As RM (.b (.b (.b .n (.b .n (.f .n))) .n) .n) 184 0 (Bc Vc 0).fst (Bc Vc 0).snd [AV.ls t0,AV.ls t1,AV.sl 0 0 n6 1,AV.v (Value.int IntKind.u64 t7),iv t8] [{ cells:=c6,st:=true,ex:=true }] =
 Af D (Key.fn 226) [AV.ls t0,AV.ls t1] [] fun r o=>
 Bp IntKind.i64 r fun n=>
 Ac o<|
 br (A.lt t8 n)
 (Af D (Key.fn 227) [AV.ls t0,iv t8] [] fun r1 o1=>
 Bp IntKind.u64 r1 fun n1=>
 Ac o1<|
 Af D (Key.fn 227) [AV.ls t1,iv t8] [] fun r2 o2=>
 Bp IntKind.u64 r2 fun n2=>
 Ac o2<|
 br (A.eq 4294967296 0)
 (none)
 (br (Bu (n6+1) 4) (br ((0+n6*1).ble c6.length) (br (A.eq 4294967296 0) none (Af D (Key.lp 184 0) [AV.ls t0,AV.ls t1,AV.sl 0 0 (n6+1) 1,AV.v (Value.int IntKind.u64 (A.sub IntKind.u64 1 (A.quo IntKind.u64 (A.sub IntKind.u64 (A.sub IntKind.u64 (A.add IntKind.u64 n1 4294967296) n2) t7) 4294967296))),iv (A.add IntKind.i64 t8 1)] [ABlk.mk (List.drop 0 (List.take (0+n6*1) c6)++[AV.v (Value.int IntKind.u32 (A.conv IntKind.u32 (A.rem IntKind.u64 (A.sub IntKind.u64 (A.sub IntKind.u64 (A.add IntKind.u64 n1 4294967296) n2) t7) 4294967296)))]) true true] fun r3 o3=>
 AR 1 [2] (AH.mk [(2,ABlk.mk (List.drop 0 (List.take (0+n6*1) c6)++[AV.v (Value.int IntKind.u32 (A.conv IntKind.u32 (A.rem IntKind.u64 (A.sub IntKind.u64 (A.sub IntKind.u64 (A.add IntKind.u64 n1 4294967296) n2) t7) 4294967296)))]) true true),(1,ABlk.mk [AV.v (Value.int IntKind.u32 (A.conv IntKind.u32 (A.rem IntKind.u64 (A.sub IntKind.u64 (A.sub IntKind.u64 (A.add IntKind.u64 n1 4294967296) n2) t7) 4294967296)))] true true)] 3 none) [0] r3 o3)) none) none))
 (some ((AV.tup [iv 0,AV.sl 1 0 n6 1],[BO.del,BO.set (ABlk.mk c6 true true)]))):=by kernel_rfl
theorem Ami(A:Ar)(D:Orc)(x0:List (List AV))(x1:Int):B3 A D As RP .n 228 Vh [AV.ls x0,AV.v (Value.int IntKind.u64 x1)] [] =
 Af D (Key.lp 228 0) [AV.ls x0,AV.v (Value.int IntKind.u64 x1),AV.sl 0 0 0 1,AV.v (Value.int IntKind.u64 0),iv 0] [ABlk.mk [] true true] fun r o=>
 AF r fun cs=>
 Aj cs fun c l=>
 br (Bw 1 c)
 (Aj l fun c1 l1=>
 CC 1 1 c1 fun n=>
 Ay IntKind.u64 l1 fun n1 l2=>
 Ad l2<|
 AG o fun c2 l3=>
 BW c2<|
 AG l3 fun c3 l4=>
 AP true true c3 fun cs1=>
 Ac l4<|
 br (Bu (n+1) 4) (br ((0+n*1).ble cs1.length) (br ((0+(n+1)*1).ble (List.drop 0 (List.take (0+n*1) cs1)++[AV.v (Value.int IntKind.u32 (A.conv IntKind.u32 n1))]).length) (Af D (Key.fn 177) [AV.ls (BF (n+1) 1 (List.take ((n+1)*1) (List.drop 0 (List.drop 0 (List.take (0+n*1) cs1)++[AV.v (Value.int IntKind.u32 (A.conv IntKind.u32 n1))]))))] [] fun r1 o1=>
 BX r1 fun xs=>
 Ac o1<|
 some ((AV.ls xs,[]))) none) none) none)
 (none):=by kernel_rfl
theorem Yy(A:Ar)(D:Orc)(t0:List (List AV))(t1:Int)(n5:Nat)(c5:List AV)(t6:Int)(t7:Int):D2 A D As RP (.b (.b (.b .n (.b .n (.f .n))) .n) .n) 228 0 (Bc Vh 0).fst (Bc Vh 0).snd [AV.ls t0,AV.v (Value.int IntKind.u64 t1),AV.sl 0 0 n5 1,AV.v (Value.int IntKind.u64 t6),iv t7] [{ cells:=c5,st:=true,ex:=true }] =
 br (A.lt t7 ↑(Be t0))
 (Af D (Key.fn 227) [AV.ls t0,iv t7] [] fun r o=>
 Bp IntKind.u64 r fun n=>
 Ac o<|
 br (A.eq 4294967296 0)
 (none)
 (br (Bu (n5+1) 4) (br ((0+n5*1).ble c5.length) (br (A.eq 4294967296 0) none (Af D (Key.lp 228 0) [AV.ls t0,AV.v (Value.int IntKind.u64 t1),AV.sl 0 0 (n5+1) 1,AV.v (Value.int IntKind.u64 (A.quo IntKind.u64 (A.add IntKind.u64 (A.mul IntKind.u64 n t1) t6) 4294967296)),iv (A.add IntKind.i64 t7 1)] [ABlk.mk (List.drop 0 (List.take (0+n5*1) c5)++[AV.v (Value.int IntKind.u32 (A.conv IntKind.u32 (A.rem IntKind.u64 (A.add IntKind.u64 (A.mul IntKind.u64 n t1) t6) 4294967296)))]) true true] fun r1 o1=>
 AR 1 [2] (AH.mk [(2,ABlk.mk (List.drop 0 (List.take (0+n5*1) c5)++[AV.v (Value.int IntKind.u32 (A.conv IntKind.u32 (A.rem IntKind.u64 (A.add IntKind.u64 (A.mul IntKind.u64 n t1) t6) 4294967296)))]) true true),(1,ABlk.mk [AV.v (Value.int IntKind.u32 (A.conv IntKind.u32 (A.rem IntKind.u64 (A.add IntKind.u64 (A.mul IntKind.u64 n t1) t6) 4294967296)))] true true)] 3 none) [0] r1 o1)) none) none))
 (some ((AV.tup [iv 0,AV.sl 1 0 n5 1,AV.v (Value.int IntKind.u64 t6)],[BO.del,BO.set (ABlk.mk c5 true true)]))):=by kernel_rfl
theorem Al1(A:Ar)(D:Orc)(x0:List (List AV))(x1:List (List AV)):B3 A D As Lv .n 183 O3 [AV.ls x0,AV.ls x1] [] =
 Af D (Key.lp 183 0) [AV.ls x0,AV.ls x1,AV.ls [],iv (A.sub IntKind.i64 (↑(Be x1)) 1)] [] fun r o=>
 AF r fun cs=>
 Aj cs fun c l=>
 br (Bw 1 c)
 (AI l fun xs l1=>
 Ad l1<|
 Ac o<|
 Af D (Key.fn 177) [AV.ls xs] [] fun r1 o1=>
 BX r1 fun xs1=>
 Ac o1<|
 some ((AV.ls xs1,[])))
 (none):=by kernel_rfl
theorem Yp(A:Ar)(D:Orc)(t0:List (List AV))(t1:List (List AV))(t5:List (List AV))(t6:Int):D2 A D As Lv .n 183 0 (Bc O3 0).fst (Bc O3 0).snd [AV.ls t0,AV.ls t1,AV.ls t5,iv t6] [] =
 br (A.le 0 t6)
 (Af D (Key.lp 183 1) [AV.ls t0,AV.ls t1,AV.ls t5,iv t6,AV.sl 0 0 1 1,iv 0] [ABlk.mk [AV.v (Value.int IntKind.u32 0)] true true] fun r o=>
 AF r fun cs=>
 Aj cs fun c l=>
 br (Bw 3 c)
 (AI l fun xs l1=>
 AI l1 fun xs1 l2=>
 Ay IntKind.i64 l2 fun n l3=>
 Aj l3 fun c1 l4=>
 CC 1 1 c1 fun n1=>
 Ad l4<|
 AG o fun c2 l5=>
 BW c2<|
 AG l5 fun c3 l6=>
 AP true true c3 fun cs1=>
 Ac l6<|
 unI n fun i=>
 BG xs1 i fun cs2=>
 Ay IntKind.u32 cs2 fun n2 l7=>
 Ad l7<|
 Af D (Key.fn 228) [AV.ls xs,AV.v (Value.int IntKind.u64 (A.conv IntKind.u64 n2))] [] fun r1 o1=>
 BX r1 fun xs2=>
 Ac o1<|
 br ((0+n1*1).ble cs1.length) (Af D (Key.fn 181) [AV.ls (BF n1 1 (List.take (n1*1) cs1)),AV.ls xs2] [] fun r2 o2=>
 BX r2 fun xs3=>
 Ac o2<|
 Af D (Key.lp 183 0) [AV.ls xs,AV.ls xs1,AV.ls xs3,iv (A.sub IntKind.i64 n 1)] [] fun r3 o3=>
 AR 0 [] (AH.mk [(1,ABlk.mk cs1 false true)] 2 none) [] r3 o3) none)
 (none))
 (some ((AV.tup [iv 0,AV.ls t5],[]))):=by kernel_rfl
theorem Yq(A:Ar)(D:Orc)(t0:List (List AV))(t1:List (List AV))(t5:List (List AV))(t6:Int)(n7:Nat)(c7:List AV)(t8:Int):D2 A D As Lv .n 183 1 (Bc O3 1).fst (Bc O3 1).snd [AV.ls t0,AV.ls t1,AV.ls t5,iv t6,AV.sl 0 0 n7 1,iv t8] [{ cells:=c7,st:=true,ex:=true }] =
 br (A.lt t8 ↑(Be t5))
 (unI t8 fun i=>
 BG t5 i fun cs=>
 Ay IntKind.u32 cs fun n l=>
 Ad l<|
 br (Bu (n7+1) 4) (br ((0+n7*1).ble c7.length) (Af D (Key.lp 183 1) [AV.ls t0,AV.ls t1,AV.ls t5,iv t6,AV.sl 0 0 (n7+1) 1,iv (A.add IntKind.i64 t8 1)] [ABlk.mk (List.drop 0 (List.take (0+n7*1) c7)++[AV.v (Value.int IntKind.u32 n)]) true true] fun r o=>
 AR 1 [2] (AH.mk [(2,ABlk.mk (List.drop 0 (List.take (0+n7*1) c7)++[AV.v (Value.int IntKind.u32 n)]) true true),(1,ABlk.mk [AV.v (Value.int IntKind.u32 n)] true true)] 3 none) [0] r o) none) none)
 (some ((AV.tup [iv 2,AV.ls t0,AV.ls t1,iv t6,AV.sl 1 0 n7 1],[BO.del,BO.set (ABlk.mk c7 true true)]))):=by kernel_rfl
theorem Al0(A:Ar)(D:Orc)(x0:ByteArray):B3 A D As M9 .n 182 Vb [sv x0] [] =
 br (A.lt 4000 ↑(A.slen x0))
 (some ((AV.tup [AV.ls [],iv 2],[])))
 (Af D (Key.lp 182 0) [sv x0,AV.ls [],iv 0] [] fun r o=>
 AF r fun cs=>
 Aj cs fun c l=>
 br (Bw 0 c)
 (AI l fun xs l1=>
 Ay IntKind.i64 l1 fun n l2=>
 Ad l2<|
 Ac o<|
 some ((AV.tup [AV.ls xs,iv n],[])))
 (br (Bw 1 c)
 (Br l fun s l1=>
 AI l1 fun xs l2=>
 Ad l2<|
 Ac o<|
 br (A.eq (↑(A.slen s)) 0)
 (some ((AV.tup [AV.ls [],iv 20],[])))
 (Af D (Key.fn 177) [AV.ls xs] [] fun r1 o1=>
 BX r1 fun xs1=>
 Ac o1<|
 some ((AV.tup [AV.ls xs1,iv 0],[]))))
 (none))):=by kernel_rfl
theorem Qd(A:Ar)(D:Orc)(t0:ByteArray)(t4:List (List AV))(t5:Int):D2 A D As M9 .n 182 0 (Bc Vb 0).fst (Bc Vb 0).snd [sv t0,AV.ls t4,iv t5] [] =
 br (A.lt t5 ↑(A.slen t0))
 (unI t5 fun i=>
 br (i.blt (A.slen t0)) (br (A.lt (A.sat t0 i) 48)
 (some ((AV.tup [bv true,AV.ls [],iv 20],[])))
 (unI t5 fun i1=>
 br (i1.blt (A.slen t0)) (br (A.lt 57 (A.sat t0 i1))
 (some ((AV.tup [bv true,AV.ls [],iv 20],[])))
 (Af D (Key.fn 228) [AV.ls t4,AV.v (Value.int IntKind.u64 10)] [] fun r o=>
 BX r fun xs=>
 Ac o<|
 unI t5 fun i2=>
 br (i2.blt (A.slen t0)) (Af D (Key.fn 181) [AV.ls xs,AV.ls [[AV.v (Value.int IntKind.u32 (A.conv IntKind.u32 (A.sub IntKind.u8 (A.sat t0 i2) 48)))]]] [] fun r1 o1=>
 BX r1 fun xs1=>
 Ac o1<|
 Af D (Key.lp 182 0) [sv t0,AV.ls xs1,iv (A.add IntKind.i64 t5 1)] [] fun r2 o2=>
 AR 0 [] (AH.mk [(0,ABlk.mk [AV.v (Value.int IntKind.u32 (A.conv IntKind.u32 (A.sub IntKind.u8 (A.sat t0 i2) 48)))] false true)] 1 none) [] r2 o2) none)) none)) none)
 (some ((AV.tup [iv 0,sv t0,AV.ls t4],[]))):=by kernel_rfl
theorem Amo(A:Ar)(D:Orc)(x0:List (List AV))(x1:List (List AV)):B3 A D As Nb .n 258 Vk [AV.ls x0,AV.ls x1] [] =
 br (A.eq ↑(Be x0) ↑(Be x1))
 (Af D (Key.lp 258 0) [AV.ls x0,AV.ls x1,iv 0] [] fun r o=>
 AF r fun cs=>
 Aj cs fun c l=>
 br (Bw 0 c)
 (Ag l fun b l1=>
 Ad l1<|
 Ac o<|
 some ((bv b,[])))
 (br (Bw 1 c)
 (Ad l<|
 Ac o<|
 some ((bv true,[])))
 (none)))
 (some ((bv false,[]))):=by kernel_rfl
theorem Qf(A:Ar)(D:Orc)(t0:List (List AV))(t1:List (List AV))(t5:Int):D2 A D As Nb .n 258 0 (Bc Vk 0).fst (Bc Vk 0).snd [AV.ls t0,AV.ls t1,iv t5] [] =
 br (A.lt t5 ↑(Be t0))
 (unI t5 fun i=>
 BG t0 i fun cs=>
 Ay IntKind.u32 cs fun n l=>
 Ad l<|
 unI t5 fun i1=>
 BG t1 i1 fun cs1=>
 Ay IntKind.u32 cs1 fun n1 l1=>
 Ad l1<|
 br (A.eq n n1)
 (Af D (Key.lp 258 0) [AV.ls t0,AV.ls t1,iv (A.add IntKind.i64 t5 1)] [] fun r o=>
 AR 0 [] (AH.mk [] 0 none) [] r o)
 (some ((AV.tup [bv true,bv false],[]))))
 (some ((AV.tup [iv 0],[]))):=by kernel_rfl
def Aje:Am:=[]
noncomputable def Ae2:MFn:=Bj Tryz.prog Ah Aje false false 180
def Aef:Hnt:=⟨[(177,(.ls,[]))],[],[]⟩
def Ajd:Am:=[]
noncomputable def Ae1:MFn:=Bj Tryz.prog Ah Ajd false false 179
def Aee:Hnt:=⟨[(180,(.agg [.bool,.ls],[]))],[],[(4,[.bool]),(6,[.ls])]⟩
def AiG:Am:=[]
noncomputable def AeH:MFn:=Bj Tryz.prog Ah AiG false false 119
def AdV:Hnt:=⟨[(180,(.agg [.bool,.ls],[])),(181,(.ls,[]))],[],[]⟩
def AiD:Am:=[]
noncomputable def AeF:MFn:=Bj Tryz.prog Ah AiD false false 116
def AdT:Hnt:=⟨[(177,(.ls,[]))],[],[(4,[.ls]),(9,[.bool])]⟩
def AiK:Am:=[]
noncomputable def AeK:MFn:=Bj Tryz.prog Ah AiK false false 123
def AdY:Hnt:=⟨[(180,(.agg [.bool,.ls],[]))],[],[(4,[.bool]),(7,[.ls])]⟩
def AiL:Am:=[]
noncomputable def AeL:MFn:=Bj Tryz.prog Ah AiL false false 124
def YZ:Hnt:=⟨[(116,(.int .i64,[])),(124,(.agg [.bool,.ls],[])),(180,(.agg [.bool,.ls],[])),(181,(.ls,[])),(184,(.tup [.ls,.bool],[]))],[],[(7,[.bool,.ls]),(11,[.bool,.ls]),(16,[.ls]),(18,[.ls]),(21,[.bool,.ls]),(25,[.bool,.ls]),(30,[.ls]),(32,[.ls]),(35,[.bool,.ls]),(38,[.bool,.ls]),(39,[.bool,.ls]),(43,[.ls]),(45,[.ls]),(54,[.ls]),(56,[.ls])]⟩
def AiF:Am:=[]
noncomputable def AeG:MFn:=Bj Tryz.prog Ah AiF false false 118
def AdU:Hnt:=⟨[(123,(.agg [.bool,.ls],[])),(124,(.agg [.bool,.ls],[]))],[],[(5,[.bool,.ls]),(6,[.bool,.ls])]⟩
def AiJ:Am:=[]
noncomputable def AeJ:MFn:=Bj Tryz.prog Ah AiJ false false 122
def AdX:Hnt:=⟨[(116,(.int .i64,[])),(180,(.agg [.bool,.ls],[])),(183,(.ls,[]))],[],[(5,[.bool,.ls]),(7,[.bool,.ls]),(12,[.ls]),(14,[.ls])]⟩
def Am7:Am:=[]
noncomputable def AkE:MFn:=Bj Tryz.prog Ah Am7 false false 67
def Ail:Hnt:=⟨[(116,(.int .i64,[])),(118,(.agg [.bool,.ls],[]))],[],[(5,[.bool,.ls]),(6,[.bool,.ls])]⟩
def AiH:Am:=[]
noncomputable def AeI:MFn:=Bj Tryz.prog Ah AiH false false 120
def AdW:Hnt:=⟨[(180,(.agg [.bool,.ls],[])),(182,(.tup [.ls,.int .i64],[]))],[],[]⟩
def AjF:Am:=[]
noncomputable def Aff:MFn:=Bj Tryz.prog Ah AjF false false 238
def Aeq:Hnt:=⟨[(258,(.bool,[]))],[],[(6,[.bool]),(8,[.bool]),(12,[.ls]),(14,[.ls])]⟩
noncomputable def SN:List (Nat × MFn):=[(180,Ae2),(179,Ae1),(119,AeH),(116,AeF),(123,AeK),(124,AeL),(118,AeG),(122,AeJ),(67,AkE),(120,AeI),(238,Aff)]
theorem AlY(A:Ar)(D:Orc)(x0:Bool)(x1:List (List AV)):B3 A D As Aef .n 180 Ae2 [bv x0,AV.ls x1] [] =
 Af D (Key.fn 177) [AV.ls x1] [] fun r o=>
 BX r fun xs=>
 Ac o<|
 br (A.eq (↑(Be xs)) 0)
 (some ((AV.agg [bv false,AV.ls []],[])))
 (some ((AV.agg [bv x0,AV.ls xs],[]))):=by kernel_rfl
theorem AlX(A:Ar)(D:Orc)(x0_0:Bool)(x0_1:List (List AV)):B3 A D As Aee .n 179 Ae1 [AV.agg [bv x0_0,AV.ls x0_1]] [] =
 Af D (Key.fn 180) [bv x0_0,AV.ls x0_1] [] fun r o=>
 At r fun cs=>
 Ag cs fun b l=>
 AI l fun xs l1=>
 Ad l1<|
 Ac o<|
 some ((AV.agg [bv b,AV.ls xs],[])):=by kernel_rfl
theorem Alw(A:Ar)(D:Orc)(x0:Int):B3 A D As AdV (.b (.b (.b .n (.f .n)) .n) (.b .n (.b .n (.f .n)))) 119 AeH [iv x0] [] =
 br (A.le 0 x0)
 (br (A.eq 4294967296 0)
 (none)
 (br (A.eq 4294967296 0) none (Af D (Key.fn 180) [bv false,AV.ls [[AV.v (Value.int IntKind.u32 (A.conv IntKind.u32 (A.rem IntKind.i64 x0 4294967296)))],[AV.v (Value.int IntKind.u32 (A.conv IntKind.u32 (A.quo IntKind.i64 x0 4294967296)))]]] [] fun r o=>
 At r fun cs=>
 Ag cs fun b l=>
 AI l fun xs l1=>
 Ad l1<|
 Ac o<|
 some ((AV.agg [bv b,AV.ls xs],[])))))
 (br (A.eq 4294967296 0)
 (none)
 (br (A.eq 4294967296 0) none (Af D (Key.fn 181) [AV.ls [[AV.v (Value.int IntKind.u32 (A.conv IntKind.u32 (A.rem IntKind.i64 (A.sub IntKind.i64 0 (A.add IntKind.i64 x0 1)) 4294967296)))],[AV.v (Value.int IntKind.u32 (A.conv IntKind.u32 (A.quo IntKind.i64 (A.sub IntKind.i64 0 (A.add IntKind.i64 x0 1)) 4294967296)))]],AV.ls [[AV.v (Value.int IntKind.u32 1)]]] [] fun r o=>
 BX r fun xs=>
 Ac o<|
 Af D (Key.fn 180) [bv true,AV.ls xs] [] fun r1 o1=>
 At r1 fun cs=>
 Ag cs fun b l=>
 AI l fun xs1 l1=>
 Ad l1<|
 Ac o1<|
 some ((AV.agg [bv b,AV.ls xs1],[]))))):=by kernel_rfl
theorem Alt(A:Ar)(D:Orc)(x0_0:Bool)(x0_1:List (List AV)):B3 A D As AdT .n 116 AeF [AV.agg [bv x0_0,AV.ls x0_1]] [] =
 Af D (Key.fn 177) [AV.ls x0_1] [] fun r o=>
 BX r fun xs=>
 Ac o<|
 br (A.eq (↑(Be xs)) 0)
 (some ((iv 0,[])))
 (br x0_0
 (some ((iv (-1),[])))
 (some ((iv 1,[])))):=by kernel_rfl
theorem AlA(A:Ar)(D:Orc)(x0_0:Bool)(x0_1:List (List AV)):B3 A D As AdY .n 123 AeK [AV.agg [bv x0_0,AV.ls x0_1]] [] =
 br (A.not x0_0)
 (Af D (Key.fn 180) [bv true,AV.ls x0_1] [] fun r o=>
 At r fun cs=>
 Ag cs fun b l=>
 AI l fun xs l1=>
 Ad l1<|
 Ac o<|
 some ((AV.agg [bv b,AV.ls xs],[])))
 (Af D (Key.fn 180) [bv false,AV.ls x0_1] [] fun r o=>
 At r fun cs=>
 Ag cs fun b l=>
 AI l fun xs l1=>
 Ad l1<|
 Ac o<|
 some ((AV.agg [bv b,AV.ls xs],[]))):=by kernel_rfl
theorem AhX(A:Ar)(D:Orc)(x0_0:Bool)(x0_1:List (List AV))(x1_0:Bool)(x1_1:List (List AV)):B3 A D As YZ .n 124 AeL [AV.agg [bv x0_0,AV.ls x0_1],AV.agg [bv x1_0,AV.ls x1_1]] [] =
 Af D (Key.fn 116) [AV.agg [bv x0_0,AV.ls x0_1]] [] fun r o=>
 Bp IntKind.i64 r fun n=>
 Ac o<|
 br (A.lt n 0)
 (Af D (Key.fn 116) [AV.agg [bv x1_0,AV.ls x1_1]] [] fun r1 o1=>
 Bp IntKind.i64 r1 fun n1=>
 Ac o1<|
 br (A.lt n1 0)
 (Af D (Key.fn 181) [AV.ls x0_1,AV.ls x1_1] [] fun r2 o2=>
 BX r2 fun xs=>
 Ac o2<|
 Af D (Key.fn 180) [bv true,AV.ls xs] [] fun r3 o3=>
 At r3 fun cs=>
 Ag cs fun b l=>
 AI l fun xs1 l1=>
 Ad l1<|
 Ac o3<|
 some ((AV.agg [bv b,AV.ls xs1],[])))
 (Af D (Key.fn 116) [AV.agg [bv x0_0,AV.ls x0_1]] [] fun r2 o2=>
 Bp IntKind.i64 r2 fun n2=>
 Ac o2<|
 br (A.le 0 n2)
 (Af D (Key.fn 116) [AV.agg [bv x1_0,AV.ls x1_1]] [] fun r3 o3=>
 Bp IntKind.i64 r3 fun n3=>
 Ac o3<|
 br (A.le 0 n3)
 (Af D (Key.fn 181) [AV.ls x0_1,AV.ls x1_1] [] fun r4 o4=>
 BX r4 fun xs=>
 Ac o4<|
 Af D (Key.fn 180) [bv false,AV.ls xs] [] fun r5 o5=>
 At r5 fun cs=>
 Ag cs fun b l=>
 AI l fun xs1 l1=>
 Ad l1<|
 Ac o5<|
 some ((AV.agg [bv b,AV.ls xs1],[])))
 (Af D (Key.fn 116) [AV.agg [bv x0_0,AV.ls x0_1]] [] fun r4 o4=>
 Bp IntKind.i64 r4 fun n4=>
 Ac o4<|
 br (A.lt n4 0)
 (Af D (Key.fn 124) [AV.agg [bv x1_0,AV.ls x1_1],AV.agg [bv x0_0,AV.ls x0_1]] [] fun r5 o5=>
 At r5 fun cs=>
 Ag cs fun b l=>
 AI l fun xs l1=>
 Ad l1<|
 Ac o5<|
 some ((AV.agg [bv b,AV.ls xs],[])))
 (Af D (Key.fn 184) [AV.ls x0_1,AV.ls x1_1] [] fun r5 o5=>
 AF r5 fun cs=>
 AI cs fun xs l=>
 Ag l fun b l1=>
 Ad l1<|
 Ac o5<|
 br b
 (Af D (Key.fn 180) [bv false,AV.ls xs] [] fun r6 o6=>
 At r6 fun cs1=>
 Ag cs1 fun b1 l2=>
 AI l2 fun xs1 l3=>
 Ad l3<|
 Ac o6<|
 some ((AV.agg [bv b1,AV.ls xs1],[])))
 (Af D (Key.fn 184) [AV.ls x1_1,AV.ls x0_1] [] fun r6 o6=>
 AF r6 fun cs1=>
 AI cs1 fun xs1 l2=>
 Ag l2 fun _ l3=>
 Ad l3<|
 Ac o6<|
 Af D (Key.fn 180) [bv true,AV.ls xs1] [] fun r7 o7=>
 At r7 fun cs2=>
 Ag cs2 fun b2 l4=>
 AI l4 fun xs2 l5=>
 Ad l5<|
 Ac o7<|
 some ((AV.agg [bv b2,AV.ls xs2],[]))))))
 (Af D (Key.fn 116) [AV.agg [bv x0_0,AV.ls x0_1]] [] fun r3 o3=>
 Bp IntKind.i64 r3 fun n3=>
 Ac o3<|
 br (A.lt n3 0)
 (Af D (Key.fn 124) [AV.agg [bv x1_0,AV.ls x1_1],AV.agg [bv x0_0,AV.ls x0_1]] [] fun r4 o4=>
 At r4 fun cs=>
 Ag cs fun b l=>
 AI l fun xs l1=>
 Ad l1<|
 Ac o4<|
 some ((AV.agg [bv b,AV.ls xs],[])))
 (Af D (Key.fn 184) [AV.ls x0_1,AV.ls x1_1] [] fun r4 o4=>
 AF r4 fun cs=>
 AI cs fun xs l=>
 Ag l fun b l1=>
 Ad l1<|
 Ac o4<|
 br b
 (Af D (Key.fn 180) [bv false,AV.ls xs] [] fun r5 o5=>
 At r5 fun cs1=>
 Ag cs1 fun b1 l2=>
 AI l2 fun xs1 l3=>
 Ad l3<|
 Ac o5<|
 some ((AV.agg [bv b1,AV.ls xs1],[])))
 (Af D (Key.fn 184) [AV.ls x1_1,AV.ls x0_1] [] fun r5 o5=>
 AF r5 fun cs1=>
 AI cs1 fun xs1 l2=>
 Ag l2 fun _ l3=>
 Ad l3<|
 Ac o5<|
 Af D (Key.fn 180) [bv true,AV.ls xs1] [] fun r6 o6=>
 At r6 fun cs2=>
 Ag cs2 fun b2 l4=>
 AI l4 fun xs2 l5=>
 Ad l5<|
 Ac o6<|
 some ((AV.agg [bv b2,AV.ls xs2],[])))))))
 (Af D (Key.fn 116) [AV.agg [bv x0_0,AV.ls x0_1]] [] fun r1 o1=>
 Bp IntKind.i64 r1 fun n1=>
 Ac o1<|
 br (A.le 0 n1)
 (Af D (Key.fn 116) [AV.agg [bv x1_0,AV.ls x1_1]] [] fun r2 o2=>
 Bp IntKind.i64 r2 fun n2=>
 Ac o2<|
 br (A.le 0 n2)
 (Af D (Key.fn 181) [AV.ls x0_1,AV.ls x1_1] [] fun r3 o3=>
 BX r3 fun xs=>
 Ac o3<|
 Af D (Key.fn 180) [bv false,AV.ls xs] [] fun r4 o4=>
 At r4 fun cs=>
 Ag cs fun b l=>
 AI l fun xs1 l1=>
 Ad l1<|
 Ac o4<|
 some ((AV.agg [bv b,AV.ls xs1],[])))
 (Af D (Key.fn 116) [AV.agg [bv x0_0,AV.ls x0_1]] [] fun r3 o3=>
 Bp IntKind.i64 r3 fun n3=>
 Ac o3<|
 br (A.lt n3 0)
 (Af D (Key.fn 124) [AV.agg [bv x1_0,AV.ls x1_1],AV.agg [bv x0_0,AV.ls x0_1]] [] fun r4 o4=>
 At r4 fun cs=>
 Ag cs fun b l=>
 AI l fun xs l1=>
 Ad l1<|
 Ac o4<|
 some ((AV.agg [bv b,AV.ls xs],[])))
 (Af D (Key.fn 184) [AV.ls x0_1,AV.ls x1_1] [] fun r4 o4=>
 AF r4 fun cs=>
 AI cs fun xs l=>
 Ag l fun b l1=>
 Ad l1<|
 Ac o4<|
 br b
 (Af D (Key.fn 180) [bv false,AV.ls xs] [] fun r5 o5=>
 At r5 fun cs1=>
 Ag cs1 fun b1 l2=>
 AI l2 fun xs1 l3=>
 Ad l3<|
 Ac o5<|
 some ((AV.agg [bv b1,AV.ls xs1],[])))
 (Af D (Key.fn 184) [AV.ls x1_1,AV.ls x0_1] [] fun r5 o5=>
 AF r5 fun cs1=>
 AI cs1 fun xs1 l2=>
 Ag l2 fun _ l3=>
 Ad l3<|
 Ac o5<|
 Af D (Key.fn 180) [bv true,AV.ls xs1] [] fun r6 o6=>
 At r6 fun cs2=>
 Ag cs2 fun b2 l4=>
 AI l4 fun xs2 l5=>
 Ad l5<|
 Ac o6<|
 some ((AV.agg [bv b2,AV.ls xs2],[]))))))
 (Af D (Key.fn 116) [AV.agg [bv x0_0,AV.ls x0_1]] [] fun r2 o2=>
 Bp IntKind.i64 r2 fun n2=>
 Ac o2<|
 br (A.lt n2 0)
 (Af D (Key.fn 124) [AV.agg [bv x1_0,AV.ls x1_1],AV.agg [bv x0_0,AV.ls x0_1]] [] fun r3 o3=>
 At r3 fun cs=>
 Ag cs fun b l=>
 AI l fun xs l1=>
 Ad l1<|
 Ac o3<|
 some ((AV.agg [bv b,AV.ls xs],[])))
 (Af D (Key.fn 184) [AV.ls x0_1,AV.ls x1_1] [] fun r3 o3=>
 AF r3 fun cs=>
 AI cs fun xs l=>
 Ag l fun b l1=>
 Ad l1<|
 Ac o3<|
 br b
 (Af D (Key.fn 180) [bv false,AV.ls xs] [] fun r4 o4=>
 At r4 fun cs1=>
 Ag cs1 fun b1 l2=>
 AI l2 fun xs1 l3=>
 Ad l3<|
 Ac o4<|
 some ((AV.agg [bv b1,AV.ls xs1],[])))
 (Af D (Key.fn 184) [AV.ls x1_1,AV.ls x0_1] [] fun r4 o4=>
 AF r4 fun cs1=>
 AI cs1 fun xs1 l2=>
 Ag l2 fun _ l3=>
 Ad l3<|
 Ac o4<|
 Af D (Key.fn 180) [bv true,AV.ls xs1] [] fun r5 o5=>
 At r5 fun cs2=>
 Ag cs2 fun b2 l4=>
 AI l4 fun xs2 l5=>
 Ad l5<|
 Ac o5<|
 some ((AV.agg [bv b2,AV.ls xs2],[])))))):=by kernel_rfl
theorem Alv(A:Ar)(D:Orc)(x0_0:Bool)(x0_1:List (List AV))(x1_0:Bool)(x1_1:List (List AV)):B3 A D As AdU .n 118 AeG [AV.agg [bv x0_0,AV.ls x0_1],AV.agg [bv x1_0,AV.ls x1_1]] [] =
 Af D (Key.fn 123) [AV.agg [bv x1_0,AV.ls x1_1]] [] fun r o=>
 At r fun cs=>
 Ag cs fun b l=>
 AI l fun xs l1=>
 Ad l1<|
 Ac o<|
 Af D (Key.fn 124) [AV.agg [bv x0_0,AV.ls x0_1],AV.agg [bv b,AV.ls xs]] [] fun r1 o1=>
 At r1 fun cs1=>
 Ag cs1 fun b1 l2=>
 AI l2 fun xs1 l3=>
 Ad l3<|
 Ac o1<|
 some ((AV.agg [bv b1,AV.ls xs1],[])):=by kernel_rfl
theorem Alz(A:Ar)(D:Orc)(x0_0:Bool)(x0_1:List (List AV))(x1_0:Bool)(x1_1:List (List AV)):B3 A D As AdX .n 122 AeJ [AV.agg [bv x0_0,AV.ls x0_1],AV.agg [bv x1_0,AV.ls x1_1]] [] =
 Af D (Key.fn 116) [AV.agg [bv x0_0,AV.ls x0_1]] [] fun r o=>
 Bp IntKind.i64 r fun n=>
 Ac o<|
 Af D (Key.fn 116) [AV.agg [bv x1_0,AV.ls x1_1]] [] fun r1 o1=>
 Bp IntKind.i64 r1 fun n1=>
 Ac o1<|
 br (A.lt (A.mul IntKind.i64 n n1) 0)
 (Af D (Key.fn 183) [AV.ls x0_1,AV.ls x1_1] [] fun r2 o2=>
 BX r2 fun xs=>
 Ac o2<|
 Af D (Key.fn 180) [bv true,AV.ls xs] [] fun r3 o3=>
 At r3 fun cs=>
 Ag cs fun b l=>
 AI l fun xs1 l1=>
 Ad l1<|
 Ac o3<|
 some ((AV.agg [bv b,AV.ls xs1],[])))
 (Af D (Key.fn 183) [AV.ls x0_1,AV.ls x1_1] [] fun r2 o2=>
 BX r2 fun xs=>
 Ac o2<|
 Af D (Key.fn 180) [bv false,AV.ls xs] [] fun r3 o3=>
 At r3 fun cs=>
 Ag cs fun b l=>
 AI l fun xs1 l1=>
 Ad l1<|
 Ac o3<|
 some ((AV.agg [bv b,AV.ls xs1],[]))):=by kernel_rfl
theorem e67(A:Ar)(D:Orc)(x0_0:Bool)(x0_1:List (List AV))(x1_0:Bool)(x1_1:List (List AV)):B3 A D As Ail .n 67 AkE [AV.agg [bv x0_0,AV.ls x0_1],AV.agg [bv x1_0,AV.ls x1_1]] [] =
 Af D (Key.fn 118) [AV.agg [bv x0_0,AV.ls x0_1],AV.agg [bv x1_0,AV.ls x1_1]] [] fun r o=>
 At r fun cs=>
 Ag cs fun b l=>
 AI l fun xs l1=>
 Ad l1<|
 Ac o<|
 Af D (Key.fn 116) [AV.agg [bv b,AV.ls xs]] [] fun r1 o1=>
 Bp IntKind.i64 r1 fun n=>
 Ac o1<|
 some ((iv n,[])):=by kernel_rfl
theorem Alx(A:Ar)(D:Orc)(x0:ByteArray):B3 A D As AdW .n 120 AeI [sv x0] [] =
 br (A.lt 0 ↑(A.slen x0))
 (br (Nat.blt 0 (A.slen x0)) (br (A.eq (A.sat x0 0) 45)
 (br (JG 1 (A.slen x0) (A.slen x0)) (Af D (Key.fn 182) [sv (A.ssub x0 1 (A.slen x0))] [] fun r o=>
 AF r fun cs=>
 AI cs fun xs l=>
 Ay IntKind.i64 l fun n l1=>
 Ad l1<|
 Ac o<|
 br (A.eq n 0)
 (Af D (Key.fn 180) [bv true,AV.ls xs] [] fun r1 o1=>
 At r1 fun cs1=>
 Ag cs1 fun b l2=>
 AI l2 fun xs1 l3=>
 Ad l3<|
 Ac o1<|
 some ((AV.tup [AV.agg [bv b,AV.ls xs1],iv 0],[])))
 (some ((AV.tup [AV.agg [bv false,AV.ls []],iv n],[])))) none)
 (Af D (Key.fn 182) [sv x0] [] fun r o=>
 AF r fun cs=>
 AI cs fun xs l=>
 Ay IntKind.i64 l fun n l1=>
 Ad l1<|
 Ac o<|
 br (A.eq n 0)
 (Af D (Key.fn 180) [bv false,AV.ls xs] [] fun r1 o1=>
 At r1 fun cs1=>
 Ag cs1 fun b l2=>
 AI l2 fun xs1 l3=>
 Ad l3<|
 Ac o1<|
 some ((AV.tup [AV.agg [bv b,AV.ls xs1],iv 0],[])))
 (some ((AV.tup [AV.agg [bv false,AV.ls []],iv n],[]))))) none)
 (Af D (Key.fn 182) [sv x0] [] fun r o=>
 AF r fun cs=>
 AI cs fun xs l=>
 Ay IntKind.i64 l fun n l1=>
 Ad l1<|
 Ac o<|
 br (A.eq n 0)
 (Af D (Key.fn 180) [bv false,AV.ls xs] [] fun r1 o1=>
 At r1 fun cs1=>
 Ag cs1 fun b l2=>
 AI l2 fun xs1 l3=>
 Ad l3<|
 Ac o1<|
 some ((AV.tup [AV.agg [bv b,AV.ls xs1],iv 0],[])))
 (some ((AV.tup [AV.agg [bv false,AV.ls []],iv n],[])))):=by kernel_rfl
theorem Amk(A:Ar)(D:Orc)(x0_0:Bool)(x0_1:List (List AV))(x1_0:Bool)(x1_1:List (List AV)):B3 A D As Aeq .n 238 Aff [AV.agg [bv x0_0,AV.ls x0_1],AV.agg [bv x1_0,AV.ls x1_1]] [] =
 br (A.beq x0_0 x1_0)
 (Af D (Key.fn 258) [AV.ls x0_1,AV.ls x1_1] [] fun r o=>
 AW r fun b=>
 Ac o<|
 br b
 (some ((bv true,[])))
 (some ((bv false,[]))))
 (some ((bv false,[]))):=by kernel_rfl
def Ajq:Am:=[]
noncomputable def Ae6:MFn:=Bj Tryz.prog Ah Ajq false false 207
def Aei:Hnt:=⟨[],[],[]⟩
def AiU:Am:=[]
noncomputable def AeR:MFn:=Bj Tryz.prog Ah AiU false false 154
def Ad4:Hnt:=⟨[(207,(.bool,[]))],[],[]⟩
def AiT:Am:=[]
noncomputable def AeQ:MFn:=Bj Tryz.prog Ah AiT false false 153
def Ad3:Hnt:=⟨[(154,(.int .i64,[]))],[],[(6,[.int .i64]),(8,[.int .i64])]⟩
def AiX:Am:=[]
noncomputable def AeT:MFn:=Bj Tryz.prog Ah AiX false false 157
def Ad6:Hnt:=⟨[(158,(.int .i64,[]))],[],[(4,[.bool,.ls])]⟩
def AiS:Am:=[]
noncomputable def AeP:MFn:=Bj Tryz.prog Ah AiS false true 152
def Ad2:Hnt:=⟨[(153,(.int .i64,[])),(206,(.tup [],[.row true]))],[],[]⟩
def Ajp:Am:=[⟨63,[true,true,true,false,false,false,true,true,true],[],[],[(1,([true,true,true,false,false,false,true,true],([],[1000000])))]⟩,⟨63,[true,true,true,false,false,false,true],[],[],[(3,([true],([],[1000000])))]⟩,⟨63,[true,true,true,false,false,false,true,true,true],[],[],[(5,([true,true,true,false,false,false,true,true],([],[1000000])))]⟩]
noncomputable def LC:MFn:=Bj Tryz.prog Ah Ajp false true 206
def GT:Hnt:=⟨[(153,(.int .i64,[])),(242,(.tup [],[.row true])),(243,(.tup [],[.row true]))],[(0,[(1,([.sl 0 3,.int .i64,.fnc 153,.int .i64,.int .i64],[.row true]))]),(1,[(3,([.sl 0 3],[.row true]))]),(2,[(5,([.sl 0 3,.int .i64,.fnc 153,.int .i64,.int .i64],[.row true]))])],[]⟩
def AjH:Am:=[⟨53,[true,true,true,true,false,false,false,false,true],[],[],[(1,([true],([],[1000000])))]⟩,⟨53,[true,true,true,true,false,false,false,false,true,true],[],[],[(3,([true,true,true,true,false,false,false,false,true],([],[1000000])))]⟩]
noncomputable def O4:MFn:=Bj Tryz.prog Ah AjH false true 242
def He:Hnt:=⟨[(153,(.int .i64,[]))],[(0,[(1,([.sl 0 3],[.row true]))]),(1,[(3,([.sl 0 3,.int .i64,.int .i64,.fnc 153,.int .i64],[.row true]))])],[(25,[.int .i64,.bool,.ls]),(26,[.int .i64,.bool,.ls]),(30,[.int .i64,.bool,.ls]),(31,[.int .i64,.bool,.ls]),(45,[.int .i64,.bool,.ls]),(46,[.int .i64,.bool,.ls]),(49,[.int .i64,.bool,.ls]),(50,[.int .i64,.bool,.ls]),(51,[.int .i64,.bool,.ls]),(52,[.int .i64,.bool,.ls])]⟩
def AjI:Am:=[⟨220,[true,true,false,false,true,false,false,false,false,false,true,true],[],[],[(1,([true,true,false,false,false,false,false,false,false,false,true],([],[1000000])))]⟩,⟨220,[true,false,false,false,false,false,false,false,false,false,true,false,false,true],[],[],[(3,([true],([],[1000000])))]⟩,⟨220,[true,false,true,false,true,false,false,false,false,false,false,false,false,false,true,true],[],[],[(5,([true,false,true,false,false,false,false,false,false,false,false,false,false,false,true],([],[1000000])))]⟩,⟨220,[true,false,false,false,false,false,false,false,false,false,false,false,false,false,true,false,false,true],[],[],[(7,([true],([],[1000000])))]⟩,⟨220,[true,true,true,true,true,false,false,false,false,false,false,false,false,false,false,false,false,false,true,true,true,true,true],[],[],[(9,([true,true,true,true,true,false,false,false,false,false,false,false,false,false,false,false,false,false,true,true,true],([],[1000000])))]⟩]
noncomputable def GV:MFn:=Bj Tryz.prog Ah AjI false true 243
def CI:Hnt:=⟨[(153,(.int .i64,[])),(243,(.tup [],[.row true])),(260,(.tup [],[.row true]))],[(0,[(1,([.sl 0 3,.int .i64,.int .i64],[.row true]))]),(1,[(3,([.sl 0 3],[.row true]))]),(2,[(5,([.sl 0 3,.int .i64,.int .i64],[.row true]))]),(3,[(7,([.sl 0 3],[.row true]))]),(4,[(9,([.sl 0 3,.int .i64,.int .i64,.int .i64,.fnc 153,.int .i64,.int .i64,.int .i64],[.row true]))])],[(43,[.int .i64,.bool,.ls]),(44,[.int .i64,.bool,.ls]),(47,[.int .i64,.bool,.ls]),(48,[.int .i64,.bool,.ls]),(69,[.int .i64,.bool,.ls]),(70,[.int .i64,.bool,.ls]),(73,[.int .i64,.bool,.ls]),(74,[.int .i64,.bool,.ls]),(75,[.int .i64,.bool,.ls]),(76,[.int .i64,.bool,.ls]),(95,[.int .i64,.bool,.ls]),(96,[.int .i64,.bool,.ls]),(99,[.int .i64,.bool,.ls]),(100,[.int .i64,.bool,.ls]),(121,[.int .i64,.bool,.ls]),(122,[.int .i64,.bool,.ls]),(125,[.int .i64,.bool,.ls]),(126,[.int .i64,.bool,.ls]),(127,[.int .i64,.bool,.ls]),(128,[.int .i64,.bool,.ls]),(163,[.int .i64,.bool,.ls]),(164,[.int .i64,.bool,.ls]),(167,[.int .i64,.bool,.ls]),(168,[.int .i64,.bool,.ls])]⟩
def AjO:Am:=[⟨58,[true,false,true,false,true,false,false,false,false,false,true,true],[],[],[(1,([true,false,true,false,true,false,false,false,false,false,true],([],[1000000])))]⟩]
noncomputable def Vl:MFn:=Bj Tryz.prog Ah AjO false true 260
def OV:Hnt:=⟨[(153,(.int .i64,[])),(273,(.tup [],[.row true]))],[(0,[(1,([.sl 0 3,.int .i64,.fnc 153,.int .i64],[.row true]))])],[]⟩
def AjR:Am:=[⟨38,[true,true,true,true,false,false,false,false,false,false,true],[],[],[(1,([true],([],[1000000])))]⟩]
noncomputable def Vm:MFn:=Bj Tryz.prog Ah AjR false true 273
def RS:Hnt:=⟨[(153,(.int .i64,[]))],[(0,[(1,([.sl 0 3],[.row true]))])],[(28,[.int .i64,.bool,.ls]),(29,[.int .i64,.bool,.ls]),(34,[.int .i64,.bool,.ls]),(35,[.int .i64,.bool,.ls]),(36,[.int .i64,.bool,.ls]),(37,[.int .i64,.bool,.ls])]⟩
def AiW:Am:=[⟨42,[true,true,false,false,false,true,true],[],[],[(1,([true,false,false,false,false,true],([],[1000000])))]⟩]
noncomputable def U7:MFn:=Bj Tryz.prog Ah AiW true true 156
def M8:Hnt:=⟨[(157,(.bool,[])),(208,(.int .i64,[.row true]))],[(0,[(1,([.sl 0 3,.int .i64],[.row true]))])],[(24,[.int .i64,.bool,.ls]),(25,[.int .i64,.bool,.ls]),(27,[.int .i64,.bool,.ls]),(32,[.int .i64,.bool,.ls]),(33,[.int .i64,.bool,.ls])]⟩
def Ajr:Am:=[⟨19,[true,true,false,false,false,false,false,true,true],[],[],[(0,([true,false,false,false,true],([],[1000000]))),(1,([true],([],[1000000])))]⟩]
noncomputable def Vg:MFn:=Bj Tryz.prog Ah Ajr false true 208
def Na:Hnt:=⟨[(157,(.bool,[]))],[(0,[(0,([.sl 0 3,.int .i64],[.row true])),(1,([.sl 0 3],[.row true]))])],[(14,[.int .i64,.bool,.ls]),(15,[.int .i64,.bool,.ls])]⟩
noncomputable def Fz:List (Nat × MFn):=[(207,Ae6),(154,AeR),(153,AeQ),(157,AeT),(152,AeP),(206,LC),(242,O4),(243,GV),(260,Vl),(273,Vm),(156,U7),(208,Vg)]
theorem Al8(A:Ar)(D:Orc)(x0:Int):B3 A D As Aei .n 207 Ae6 [iv x0] [] =
 br (A.eq x0 x0)
 (some ((bv false,[])))
 (some ((bv true,[]))):=by kernel_rfl
theorem AlK(A:Ar)(D:Orc)(x0:Int)(x1:Int):B3 A D As Ad4 .n 154 AeR [iv x0,iv x1] [] =
 Af D (Key.fn 207) [iv x0] [] fun r o=>
 AW r fun b=>
 Ac o<|
 br b
 (Af D (Key.fn 207) [iv x1] [] fun r1 o1=>
 AW r1 fun b1=>
 Ac o1<|
 br b1
 (some ((iv 0,[])))
 (some ((iv (-1),[]))))
 (Af D (Key.fn 207) [iv x1] [] fun r1 o1=>
 AW r1 fun b1=>
 Ac o1<|
 br b1
 (some ((iv 1,[])))
 (br (A.lt x0 x1)
 (some ((iv (-1),[])))
 (br (A.lt x1 x0)
 (some ((iv 1,[])))
 (some ((iv 0,[])))))):=by kernel_rfl
theorem AlJ(A:Ar)(D:Orc)(x0_0:Int)(x0_1:Bool)(x0_2:List (List AV))(x1_0:Int)(x1_1:Bool)(x1_2:List (List AV)):B3 A D As Ad3 .n 153 AeQ [AV.agg [iv x0_0,bv x0_1,AV.ls x0_2],AV.agg [iv x1_0,bv x1_1,AV.ls x1_2]] [] =
 Af D (Key.fn 154) [iv x0_0,iv x1_0] [] fun r o=>
 Bp IntKind.i64 r fun n=>
 Ac o<|
 some ((iv n,[])):=by kernel_rfl
theorem AlM(A:Ar)(D:Orc)(x0_0:Int)(x0_1:Bool)(x0_2:List (List AV)):B3 A D As Ad6 .n 157 AeT [AV.agg [iv x0_0,bv x0_1,AV.ls x0_2]] [] =
 Af D (Key.fn 158) [AV.agg [bv x0_1,AV.ls x0_2]] [] fun r o=>
 Bp IntKind.i64 r fun n=>
 Ac o<|
 br (A.eq n 0)
 (some ((bv true,[])))
 (some ((bv false,[]))):=by kernel_rfl
theorem AlI(A:Ar)(D:Orc)(n0:Nat)(c0:List AV):B3 A D As Ad2 .n 152 AeP [AV.sl 0 0 n0 3,AV.fn (Fn.func 153) [] []] [{ cells:=c0,st:=true,ex:=true }] =
 Af D (Key.fn 206) [AV.sl 0 0 n0 3,iv ↑n0,AV.fn (Fn.func 153) [] []] [ABlk.mk c0 true true] fun r o=>
 AF r fun cs=>
 Ad cs<|
 AG o fun c l=>
 AP true true c fun cs1=>
 Ac l<|
 some ((AV.tup [],[BO.set (ABlk.mk cs1 true true)])):=by kernel_rfl
theorem Al7(A:Ar)(D:Orc)(n0:Nat)(c0:List AV)(x1:Int):B3 A D As GT .n 206 LC [AV.sl 0 0 n0 3,iv x1,AV.fn (Fn.func 153) [] []] [{ cells:=c0,st:=true,ex:=true }] =
 Af D (Key.lp 206 0) [AV.sl 0 0 n0 3,iv x1,AV.fn (Fn.func 153) [] [],iv 20,iv 0,iv 20] [ABlk.mk c0 true true] fun r o=>
 AF r fun cs=>
 Aj cs fun c l=>
 br (Bw 1 c)
 (Aj l fun c1 l1=>
 CC 0 3 c1 fun n=>
 Ay IntKind.i64 l1 fun n1 l2=>
 Aj l2 fun c2 l3=>
 Ov 153 c2<|
 Ay IntKind.i64 l3 fun n2 l4=>
 Ay IntKind.i64 l4 fun n3 l5=>
 Ad l5<|
 AG o fun c3 l6=>
 AP true true c3 fun cs1=>
 Ac l6<|
 Af D (Key.fn 242) [AV.sl 0 0 n 3,iv n3,iv n1,AV.fn (Fn.func 153) [] []] [ABlk.mk cs1 true true] fun r1 o1=>
 AF r1 fun cs2=>
 Ad cs2<|
 AG o1 fun c4 l7=>
 AP true true c4 fun cs3=>
 Ac l7<|
 Af D (Key.lp 206 1) [AV.sl 0 0 n 3,iv n1,AV.fn (Fn.func 153) [] [],iv n2] [ABlk.mk cs3 true true] fun r2 o2=>
 AF r2 fun cs4=>
 Aj cs4 fun c5 l8=>
 br (Bw 3 c5)
 (Aj l8 fun c6 l9=>
 CC 0 3 c6 fun _=>
 Ad l9<|
 AG o2 fun c7 l10=>
 AP true true c7 fun cs5=>
 Ac l10<|
 some ((AV.tup [],[BO.set (ABlk.mk cs5 true true)])))
 (none))
 (none):=by kernel_rfl
theorem Yv(A:Ar)(D:Orc)(n0:Nat)(c0:List AV)(t1:Int)(t6:Int)(t7:Int)(t8:Int):D2 A D As GT .n 206 0 (Bc LC 0).fst (Bc LC 0).snd [AV.sl 0 0 n0 3,iv t1,AV.fn (Fn.func 153) [] [],iv t6,iv t7,iv t8] [{ cells:=c0,st:=true,ex:=true }] =
 br (A.le t8 t1)
 (Af D (Key.fn 242) [AV.sl 0 0 n0 3,iv t7,iv t8,AV.fn (Fn.func 153) [] []] [ABlk.mk c0 true true] fun r o=>
 AF r fun cs=>
 Ad cs<|
 AG o fun c l=>
 AP true true c fun cs1=>
 Ac l<|
 Af D (Key.lp 206 0) [AV.sl 0 0 n0 3,iv t1,AV.fn (Fn.func 153) [] [],iv t6,iv t8,iv (A.add IntKind.i64 t8 t6)] [ABlk.mk cs1 true true] fun r1 o1=>
 AR 1 [0] (AH.mk [(0,ABlk.mk cs1 true true)] 1 none) [0] r1 o1)
 (some ((AV.tup [iv 0,AV.sl 0 0 n0 3,iv t1,AV.fn (Fn.func 153) [] [],iv t6,iv t7],[BO.set (ABlk.mk c0 true true)]))):=by kernel_rfl
theorem Tw(A:Ar)(D:Orc)(n0:Nat)(c0:List AV)(t1:Int)(t6:Int):D2 A D As GT .n 206 1 (Bc LC 1).fst (Bc LC 1).snd [AV.sl 0 0 n0 3,iv t1,AV.fn (Fn.func 153) [] [],iv t6] [{ cells:=c0,st:=true,ex:=true }] =
 br (A.lt t6 t1)
 (Af D (Key.lp 206 2) [AV.sl 0 0 n0 3,iv t1,AV.fn (Fn.func 153) [] [],iv t6,iv 0,iv (A.mul IntKind.i64 2 t6)] [ABlk.mk c0 true true] fun r o=>
 AF r fun cs=>
 Aj cs fun c l=>
 br (Bw 5 c)
 (Aj l fun c1 l1=>
 CC 0 3 c1 fun n=>
 Ay IntKind.i64 l1 fun n1 l2=>
 Aj l2 fun c2 l3=>
 Ov 153 c2<|
 Ay IntKind.i64 l3 fun n2 l4=>
 Ay IntKind.i64 l4 fun n3 l5=>
 Ad l5<|
 AG o fun c3 l6=>
 AP true true c3 fun cs1=>
 Ac l6<|
 br (A.lt (A.add IntKind.i64 n3 n2) n1)
 (Af D (Key.fn 243) [AV.sl 0 0 n 3,iv n3,iv (A.add IntKind.i64 n3 n2),iv n1,AV.fn (Fn.func 153) [] []] [ABlk.mk cs1 true true] fun r1 o1=>
 AF r1 fun cs2=>
 Ad cs2<|
 AG o1 fun c4 l7=>
 AP true true c4 fun cs3=>
 Ac l7<|
 Af D (Key.lp 206 1) [AV.sl 0 0 n 3,iv n1,AV.fn (Fn.func 153) [] [],iv (A.mul IntKind.i64 n2 2)] [ABlk.mk cs3 true true] fun r2 o2=>
 AR 1 [0] (AH.mk [(0,ABlk.mk cs3 true true)] 1 none) [0] r2 o2)
 (Af D (Key.lp 206 1) [AV.sl 0 0 n 3,iv n1,AV.fn (Fn.func 153) [] [],iv (A.mul IntKind.i64 n2 2)] [ABlk.mk cs1 true true] fun r1 o1=>
 AR 1 [0] (AH.mk [(0,ABlk.mk cs1 true true)] 1 none) [0] r1 o1))
 (none))
 (some ((AV.tup [iv 2,AV.sl 0 0 n0 3],[BO.set (ABlk.mk c0 true true)]))):=by kernel_rfl
theorem Yw(A:Ar)(D:Orc)(n0:Nat)(c0:List AV)(t1:Int)(t6:Int)(t7:Int)(t8:Int):D2 A D As GT .n 206 2 (Bc LC 2).fst (Bc LC 2).snd [AV.sl 0 0 n0 3,iv t1,AV.fn (Fn.func 153) [] [],iv t6,iv t7,iv t8] [{ cells:=c0,st:=true,ex:=true }] =
 br (A.le t8 t1)
 (Af D (Key.fn 243) [AV.sl 0 0 n0 3,iv t7,iv (A.add IntKind.i64 t7 t6),iv t8,AV.fn (Fn.func 153) [] []] [ABlk.mk c0 true true] fun r o=>
 AF r fun cs=>
 Ad cs<|
 AG o fun c l=>
 AP true true c fun cs1=>
 Ac l<|
 Af D (Key.lp 206 2) [AV.sl 0 0 n0 3,iv t1,AV.fn (Fn.func 153) [] [],iv t6,iv t8,iv (A.add IntKind.i64 t8 (A.mul IntKind.i64 2 t6))] [ABlk.mk cs1 true true] fun r1 o1=>
 AR 1 [0] (AH.mk [(0,ABlk.mk cs1 true true)] 1 none) [0] r1 o1)
 (some ((AV.tup [iv 4,AV.sl 0 0 n0 3,iv t1,AV.fn (Fn.func 153) [] [],iv t6,iv t7],[BO.set (ABlk.mk c0 true true)]))):=by kernel_rfl
theorem Ah1(A:Ar)(D:Orc)(n0:Nat)(c0:List AV)(x1:Int)(x2:Int):B3 A D As He .n 242 O4 [AV.sl 0 0 n0 3,iv x1,iv x2,AV.fn (Fn.func 153) [] []] [{ cells:=c0,st:=true,ex:=true }] =
 Af D (Key.lp 242 0) [AV.sl 0 0 n0 3,iv x1,iv x2,AV.fn (Fn.func 153) [] [],iv (A.add IntKind.i64 x1 1)] [ABlk.mk c0 true true] fun r o=>
 AF r fun cs=>
 Aj cs fun c l=>
 br (Bw 1 c)
 (Aj l fun c1 l1=>
 CC 0 3 c1 fun _=>
 Ad l1<|
 AG o fun c2 l2=>
 AP true true c2 fun cs1=>
 Ac l2<|
 some ((AV.tup [],[BO.set (ABlk.mk cs1 true true)])))
 (none):=by kernel_rfl
theorem Tx(A:Ar)(D:Orc)(n0:Nat)(c0:List AV)(t1:Int)(t2:Int)(t8:Int):D2 A D As He .n 242 0 (Bc O4 0).fst (Bc O4 0).snd [AV.sl 0 0 n0 3,iv t1,iv t2,AV.fn (Fn.func 153) [] [],iv t8] [{ cells:=c0,st:=true,ex:=true }] =
 br (A.lt t8 t2)
 (Af D (Key.lp 242 1) [AV.sl 0 0 n0 3,iv t1,iv t2,AV.fn (Fn.func 153) [] [],iv t8,iv t8] [ABlk.mk c0 true true] fun r o=>
 AF r fun cs=>
 Aj cs fun c l=>
 br (Bw 3 c)
 (Aj l fun c1 l1=>
 CC 0 3 c1 fun n=>
 Ay IntKind.i64 l1 fun n1 l2=>
 Ay IntKind.i64 l2 fun n2 l3=>
 Aj l3 fun c2 l4=>
 Ov 153 c2<|
 Ay IntKind.i64 l4 fun n3 l5=>
 Ad l5<|
 AG o fun c3 l6=>
 AP true true c3 fun cs1=>
 Ac l6<|
 Af D (Key.lp 242 0) [AV.sl 0 0 n 3,iv n1,iv n2,AV.fn (Fn.func 153) [] [],iv (A.add IntKind.i64 n3 1)] [ABlk.mk cs1 true true] fun r1 o1=>
 AR 1 [0] (AH.mk [(0,ABlk.mk cs1 true true)] 1 none) [0] r1 o1)
 (none))
 (some ((AV.tup [iv 0,AV.sl 0 0 n0 3],[BO.set (ABlk.mk c0 true true)]))):=by kernel_rfl
theorem Ty(A:Ar)(D:Orc)(n0:Nat)(c0:List AV)(t1:Int)(t2:Int)(t8:Int)(t9:Int):D2 A D As He .n 242 1 (Bc O4 1).fst (Bc O4 1).snd [AV.sl 0 0 n0 3,iv t1,iv t2,AV.fn (Fn.func 153) [] [],iv t8,iv t9] [{ cells:=c0,st:=true,ex:=true }] =
 br (A.lt t1 t9)
 (unI t9 fun i=>
 br (i.blt n0) (IA c0 (0+i*3) 3 fun cs=>
 Ay IntKind.i64 cs fun n l=>
 Ag l fun b l1=>
 AI l1 fun xs l2=>
 Ad l2<|
 unI (A.sub IntKind.i64 t9 1) fun i1=>
 br (i1.blt n0) (IA c0 (0+i1*3) 3 fun cs1=>
 Ay IntKind.i64 cs1 fun n1 l3=>
 Ag l3 fun b1 l4=>
 AI l4 fun xs1 l5=>
 Ad l5<|
 Af D (Key.fn 153) [AV.agg [iv n,bv b,AV.ls xs],AV.agg [iv n1,bv b1,AV.ls xs1]] [] fun r o=>
 Bp IntKind.i64 r fun n2=>
 Ac o<|
 br (A.lt n2 0)
 (unI (A.sub IntKind.i64 t9 1) fun i2=>
 br (i2.blt n0) (IA c0 (0+i2*3) 3 fun cs2=>
 Ay IntKind.i64 cs2 fun n3 l6=>
 Ag l6 fun b2 l7=>
 AI l7 fun xs2 l8=>
 Ad l8<|
 unI t9 fun i3=>
 br (i3.blt n0) (IA c0 (0+i3*3) 3 fun cs3=>
 Ay IntKind.i64 cs3 fun n4 l9=>
 Ag l9 fun b3 l10=>
 AI l10 fun xs3 l11=>
 Ad l11<|
 unI t9 fun i4=>
 br (i4.blt n0) (br ((0+i4*3+3).ble c0.length) (unI (A.sub IntKind.i64 t9 1) fun i5=>
 br (i5.blt n0) (br ((0+i5*3+3).ble (Ba c0 (0+i4*3) [iv n3,bv b2,AV.ls xs2]).length) (Af D (Key.lp 242 1) [AV.sl 0 0 n0 3,iv t1,iv t2,AV.fn (Fn.func 153) [] [],iv t8,iv (A.sub IntKind.i64 t9 1)] [ABlk.mk (Ba (Ba c0 (0+i4*3) [iv n3,bv b2,AV.ls xs2]) (0+i5*3) [iv n4,bv b3,AV.ls xs3]) true true] fun r1 o1=>
 AR 1 [0] (AH.mk [(0,ABlk.mk (Ba (Ba c0 (0+i4*3) [iv n3,bv b2,AV.ls xs2]) (0+i5*3) [iv n4,bv b3,AV.ls xs3]) true true)] 1 none) [0] r1 o1) none) none) none) none) none) none)
 (some ((AV.tup [iv 2,AV.sl 0 0 n0 3,iv t1,iv t2,AV.fn (Fn.func 153) [] [],iv t8],[BO.set (ABlk.mk c0 true true)])))) none) none)
 (some ((AV.tup [iv 2,AV.sl 0 0 n0 3,iv t1,iv t2,AV.fn (Fn.func 153) [] [],iv t8],[BO.set (ABlk.mk c0 true true)]))):=by kernel_rfl
theorem Rl(A:Ar)(D:Orc)(n0:Nat)(c0:List AV)(x1:Int)(x2:Int)(x3:Int):B3 A D As CI .n 243 GV [AV.sl 0 0 n0 3,iv x1,iv x2,iv x3,AV.fn (Fn.func 153) [] []] [{ cells:=c0,st:=true,ex:=true }] =
 br (A.eq (A.sub IntKind.i64 x2 x1) 1)
 (Af D (Key.lp 243 0) [AV.sl 0 0 n0 3,iv x1,AV.fn (Fn.func 153) [] [],iv x2,iv x3] [ABlk.mk c0 true true] fun r o=>
 AF r fun cs=>
 Aj cs fun c l=>
 br (Bw 1 c)
 (Aj l fun c1 l1=>
 CC 0 3 c1 fun n=>
 Ay IntKind.i64 l1 fun n1 l2=>
 Ay IntKind.i64 l2 fun n2 l3=>
 Ad l3<|
 AG o fun c2 l4=>
 AP true true c2 fun cs1=>
 Ac l4<|
 Af D (Key.lp 243 1) [AV.sl 0 0 n 3,iv n2,iv n1] [ABlk.mk cs1 true true] fun r1 o1=>
 AF r1 fun cs2=>
 Aj cs2 fun c3 l5=>
 br (Bw 3 c3)
 (Aj l5 fun c4 l6=>
 CC 0 3 c4 fun _=>
 Ad l6<|
 AG o1 fun c5 l7=>
 AP true true c5 fun cs3=>
 Ac l7<|
 some ((AV.tup [],[BO.set (ABlk.mk cs3 true true)])))
 (none))
 (none))
 (br (A.eq (A.sub IntKind.i64 x3 x2) 1)
 (Af D (Key.lp 243 2) [AV.sl 0 0 n0 3,iv x2,AV.fn (Fn.func 153) [] [],iv x1,iv x2] [ABlk.mk c0 true true] fun r o=>
 AF r fun cs=>
 Aj cs fun c l=>
 br (Bw 5 c)
 (Aj l fun c1 l1=>
 CC 0 3 c1 fun n=>
 Ay IntKind.i64 l1 fun n1 l2=>
 Ay IntKind.i64 l2 fun n2 l3=>
 Ad l3<|
 AG o fun c2 l4=>
 AP true true c2 fun cs1=>
 Ac l4<|
 Af D (Key.lp 243 3) [AV.sl 0 0 n 3,iv n2,iv n1] [ABlk.mk cs1 true true] fun r1 o1=>
 AF r1 fun cs2=>
 Aj cs2 fun c3 l5=>
 br (Bw 7 c3)
 (Aj l5 fun c4 l6=>
 CC 0 3 c4 fun _=>
 Ad l6<|
 AG o1 fun c5 l7=>
 AP true true c5 fun cs3=>
 Ac l7<|
 some ((AV.tup [],[BO.set (ABlk.mk cs3 true true)])))
 (none))
 (none))
 (br (A.lt 1 0)
 (none)
 (br (A.lt (A.conv IntKind.i64 (A.shr IntKind.u64 (A.conv IntKind.u64 (A.add IntKind.i64 x1 x3)) 1)) x2)
 (Af D (Key.lp 243 4) [AV.sl 0 0 n0 3,iv x1,iv x2,iv x3,AV.fn (Fn.func 153) [] [],iv (A.conv IntKind.i64 (A.shr IntKind.u64 (A.conv IntKind.u64 (A.add IntKind.i64 x1 x3)) 1)),iv (A.add IntKind.i64 (A.conv IntKind.i64 (A.shr IntKind.u64 (A.conv IntKind.u64 (A.add IntKind.i64 x1 x3)) 1)) x2),iv (A.sub IntKind.i64 (A.add IntKind.i64 (A.conv IntKind.i64 (A.shr IntKind.u64 (A.conv IntKind.u64 (A.add IntKind.i64 x1 x3)) 1)) x2) x3),iv (A.conv IntKind.i64 (A.shr IntKind.u64 (A.conv IntKind.u64 (A.add IntKind.i64 x1 x3)) 1)),iv (A.sub IntKind.i64 (A.add IntKind.i64 (A.conv IntKind.i64 (A.shr IntKind.u64 (A.conv IntKind.u64 (A.add IntKind.i64 x1 x3)) 1)) x2) 1)] [ABlk.mk c0 true true] fun r o=>
 AF r fun cs=>
 Aj cs fun c l=>
 br (Bw 9 c)
 (Aj l fun c1 l1=>
 CC 0 3 c1 fun n=>
 Ay IntKind.i64 l1 fun n1 l2=>
 Ay IntKind.i64 l2 fun n2 l3=>
 Ay IntKind.i64 l3 fun n3 l4=>
 Aj l4 fun c2 l5=>
 Ov 153 c2<|
 Ay IntKind.i64 l5 fun n4 l6=>
 Ay IntKind.i64 l6 fun n5 l7=>
 Ay IntKind.i64 l7 fun n6 l8=>
 Ad l8<|
 AG o fun c3 l9=>
 AP true true c3 fun cs1=>
 Ac l9<|
 br (A.lt n6 n2)
 (br (A.lt n2 (A.sub IntKind.i64 n5 n6))
 (Af D (Key.fn 260) [AV.sl 0 0 n 3,iv n6,iv n2,iv (A.sub IntKind.i64 n5 n6),AV.fn (Fn.func 153) [] []] [ABlk.mk cs1 true true] fun r1 o1=>
 AF r1 fun cs2=>
 Ad cs2<|
 AG o1 fun c4 l10=>
 AP true true c4 fun cs3=>
 Ac l10<|
 br (A.lt n1 n6)
 (br (A.lt n6 n4)
 (Af D (Key.fn 243) [AV.sl 0 0 n 3,iv n1,iv n6,iv n4,AV.fn (Fn.func 153) [] []] [ABlk.mk cs3 true true] fun r2 o2=>
 AF r2 fun cs4=>
 Ad cs4<|
 AG o2 fun c5 l11=>
 AP true true c5 fun cs5=>
 Ac l11<|
 br (A.lt n4 (A.sub IntKind.i64 n5 n6))
 (br (A.lt (A.sub IntKind.i64 n5 n6) n3)
 (Af D (Key.fn 243) [AV.sl 0 0 n 3,iv n4,iv (A.sub IntKind.i64 n5 n6),iv n3,AV.fn (Fn.func 153) [] []] [ABlk.mk cs5 true true] fun r3 o3=>
 AF r3 fun cs6=>
 Ad cs6<|
 AG o3 fun c6 l12=>
 AP true true c6 fun cs7=>
 Ac l12<|
 some ((AV.tup [],[BO.set (ABlk.mk cs7 true true)])))
 (some ((AV.tup [],[BO.set (ABlk.mk cs5 true true)]))))
 (some ((AV.tup [],[BO.set (ABlk.mk cs5 true true)]))))
 (br (A.lt n4 (A.sub IntKind.i64 n5 n6))
 (br (A.lt (A.sub IntKind.i64 n5 n6) n3)
 (Af D (Key.fn 243) [AV.sl 0 0 n 3,iv n4,iv (A.sub IntKind.i64 n5 n6),iv n3,AV.fn (Fn.func 153) [] []] [ABlk.mk cs3 true true] fun r2 o2=>
 AF r2 fun cs4=>
 Ad cs4<|
 AG o2 fun c5 l11=>
 AP true true c5 fun cs5=>
 Ac l11<|
 some ((AV.tup [],[BO.set (ABlk.mk cs5 true true)])))
 (some ((AV.tup [],[BO.set (ABlk.mk cs3 true true)]))))
 (some ((AV.tup [],[BO.set (ABlk.mk cs3 true true)])))))
 (br (A.lt n4 (A.sub IntKind.i64 n5 n6))
 (br (A.lt (A.sub IntKind.i64 n5 n6) n3)
 (Af D (Key.fn 243) [AV.sl 0 0 n 3,iv n4,iv (A.sub IntKind.i64 n5 n6),iv n3,AV.fn (Fn.func 153) [] []] [ABlk.mk cs3 true true] fun r2 o2=>
 AF r2 fun cs4=>
 Ad cs4<|
 AG o2 fun c5 l11=>
 AP true true c5 fun cs5=>
 Ac l11<|
 some ((AV.tup [],[BO.set (ABlk.mk cs5 true true)])))
 (some ((AV.tup [],[BO.set (ABlk.mk cs3 true true)]))))
 (some ((AV.tup [],[BO.set (ABlk.mk cs3 true true)])))))
 (br (A.lt n1 n6)
 (br (A.lt n6 n4)
 (Af D (Key.fn 243) [AV.sl 0 0 n 3,iv n1,iv n6,iv n4,AV.fn (Fn.func 153) [] []] [ABlk.mk cs1 true true] fun r1 o1=>
 AF r1 fun cs2=>
 Ad cs2<|
 AG o1 fun c4 l10=>
 AP true true c4 fun cs3=>
 Ac l10<|
 br (A.lt n4 (A.sub IntKind.i64 n5 n6))
 (br (A.lt (A.sub IntKind.i64 n5 n6) n3)
 (Af D (Key.fn 243) [AV.sl 0 0 n 3,iv n4,iv (A.sub IntKind.i64 n5 n6),iv n3,AV.fn (Fn.func 153) [] []] [ABlk.mk cs3 true true] fun r2 o2=>
 AF r2 fun cs4=>
 Ad cs4<|
 AG o2 fun c5 l11=>
 AP true true c5 fun cs5=>
 Ac l11<|
 some ((AV.tup [],[BO.set (ABlk.mk cs5 true true)])))
 (some ((AV.tup [],[BO.set (ABlk.mk cs3 true true)]))))
 (some ((AV.tup [],[BO.set (ABlk.mk cs3 true true)]))))
 (br (A.lt n4 (A.sub IntKind.i64 n5 n6))
 (br (A.lt (A.sub IntKind.i64 n5 n6) n3)
 (Af D (Key.fn 243) [AV.sl 0 0 n 3,iv n4,iv (A.sub IntKind.i64 n5 n6),iv n3,AV.fn (Fn.func 153) [] []] [ABlk.mk cs1 true true] fun r1 o1=>
 AF r1 fun cs2=>
 Ad cs2<|
 AG o1 fun c4 l10=>
 AP true true c4 fun cs3=>
 Ac l10<|
 some ((AV.tup [],[BO.set (ABlk.mk cs3 true true)])))
 (some ((AV.tup [],[BO.set (ABlk.mk cs1 true true)]))))
 (some ((AV.tup [],[BO.set (ABlk.mk cs1 true true)])))))
 (br (A.lt n4 (A.sub IntKind.i64 n5 n6))
 (br (A.lt (A.sub IntKind.i64 n5 n6) n3)
 (Af D (Key.fn 243) [AV.sl 0 0 n 3,iv n4,iv (A.sub IntKind.i64 n5 n6),iv n3,AV.fn (Fn.func 153) [] []] [ABlk.mk cs1 true true] fun r1 o1=>
 AF r1 fun cs2=>
 Ad cs2<|
 AG o1 fun c4 l10=>
 AP true true c4 fun cs3=>
 Ac l10<|
 some ((AV.tup [],[BO.set (ABlk.mk cs3 true true)])))
 (some ((AV.tup [],[BO.set (ABlk.mk cs1 true true)]))))
 (some ((AV.tup [],[BO.set (ABlk.mk cs1 true true)]))))))
 (br (A.lt n1 n6)
 (br (A.lt n6 n4)
 (Af D (Key.fn 243) [AV.sl 0 0 n 3,iv n1,iv n6,iv n4,AV.fn (Fn.func 153) [] []] [ABlk.mk cs1 true true] fun r1 o1=>
 AF r1 fun cs2=>
 Ad cs2<|
 AG o1 fun c4 l10=>
 AP true true c4 fun cs3=>
 Ac l10<|
 br (A.lt n4 (A.sub IntKind.i64 n5 n6))
 (br (A.lt (A.sub IntKind.i64 n5 n6) n3)
 (Af D (Key.fn 243) [AV.sl 0 0 n 3,iv n4,iv (A.sub IntKind.i64 n5 n6),iv n3,AV.fn (Fn.func 153) [] []] [ABlk.mk cs3 true true] fun r2 o2=>
 AF r2 fun cs4=>
 Ad cs4<|
 AG o2 fun c5 l11=>
 AP true true c5 fun cs5=>
 Ac l11<|
 some ((AV.tup [],[BO.set (ABlk.mk cs5 true true)])))
 (some ((AV.tup [],[BO.set (ABlk.mk cs3 true true)]))))
 (some ((AV.tup [],[BO.set (ABlk.mk cs3 true true)]))))
 (br (A.lt n4 (A.sub IntKind.i64 n5 n6))
 (br (A.lt (A.sub IntKind.i64 n5 n6) n3)
 (Af D (Key.fn 243) [AV.sl 0 0 n 3,iv n4,iv (A.sub IntKind.i64 n5 n6),iv n3,AV.fn (Fn.func 153) [] []] [ABlk.mk cs1 true true] fun r1 o1=>
 AF r1 fun cs2=>
 Ad cs2<|
 AG o1 fun c4 l10=>
 AP true true c4 fun cs3=>
 Ac l10<|
 some ((AV.tup [],[BO.set (ABlk.mk cs3 true true)])))
 (some ((AV.tup [],[BO.set (ABlk.mk cs1 true true)]))))
 (some ((AV.tup [],[BO.set (ABlk.mk cs1 true true)])))))
 (br (A.lt n4 (A.sub IntKind.i64 n5 n6))
 (br (A.lt (A.sub IntKind.i64 n5 n6) n3)
 (Af D (Key.fn 243) [AV.sl 0 0 n 3,iv n4,iv (A.sub IntKind.i64 n5 n6),iv n3,AV.fn (Fn.func 153) [] []] [ABlk.mk cs1 true true] fun r1 o1=>
 AF r1 fun cs2=>
 Ad cs2<|
 AG o1 fun c4 l10=>
 AP true true c4 fun cs3=>
 Ac l10<|
 some ((AV.tup [],[BO.set (ABlk.mk cs3 true true)])))
 (some ((AV.tup [],[BO.set (ABlk.mk cs1 true true)]))))
 (some ((AV.tup [],[BO.set (ABlk.mk cs1 true true)]))))))
 (none))
 (Af D (Key.lp 243 4) [AV.sl 0 0 n0 3,iv x1,iv x2,iv x3,AV.fn (Fn.func 153) [] [],iv (A.conv IntKind.i64 (A.shr IntKind.u64 (A.conv IntKind.u64 (A.add IntKind.i64 x1 x3)) 1)),iv (A.add IntKind.i64 (A.conv IntKind.i64 (A.shr IntKind.u64 (A.conv IntKind.u64 (A.add IntKind.i64 x1 x3)) 1)) x2),iv x1,iv x2,iv (A.sub IntKind.i64 (A.add IntKind.i64 (A.conv IntKind.i64 (A.shr IntKind.u64 (A.conv IntKind.u64 (A.add IntKind.i64 x1 x3)) 1)) x2) 1)] [ABlk.mk c0 true true] fun r o=>
 AF r fun cs=>
 Aj cs fun c l=>
 br (Bw 9 c)
 (Aj l fun c1 l1=>
 CC 0 3 c1 fun n=>
 Ay IntKind.i64 l1 fun n1 l2=>
 Ay IntKind.i64 l2 fun n2 l3=>
 Ay IntKind.i64 l3 fun n3 l4=>
 Aj l4 fun c2 l5=>
 Ov 153 c2<|
 Ay IntKind.i64 l5 fun n4 l6=>
 Ay IntKind.i64 l6 fun n5 l7=>
 Ay IntKind.i64 l7 fun n6 l8=>
 Ad l8<|
 AG o fun c3 l9=>
 AP true true c3 fun cs1=>
 Ac l9<|
 br (A.lt n6 n2)
 (br (A.lt n2 (A.sub IntKind.i64 n5 n6))
 (Af D (Key.fn 260) [AV.sl 0 0 n 3,iv n6,iv n2,iv (A.sub IntKind.i64 n5 n6),AV.fn (Fn.func 153) [] []] [ABlk.mk cs1 true true] fun r1 o1=>
 AF r1 fun cs2=>
 Ad cs2<|
 AG o1 fun c4 l10=>
 AP true true c4 fun cs3=>
 Ac l10<|
 br (A.lt n1 n6)
 (br (A.lt n6 n4)
 (Af D (Key.fn 243) [AV.sl 0 0 n 3,iv n1,iv n6,iv n4,AV.fn (Fn.func 153) [] []] [ABlk.mk cs3 true true] fun r2 o2=>
 AF r2 fun cs4=>
 Ad cs4<|
 AG o2 fun c5 l11=>
 AP true true c5 fun cs5=>
 Ac l11<|
 br (A.lt n4 (A.sub IntKind.i64 n5 n6))
 (br (A.lt (A.sub IntKind.i64 n5 n6) n3)
 (Af D (Key.fn 243) [AV.sl 0 0 n 3,iv n4,iv (A.sub IntKind.i64 n5 n6),iv n3,AV.fn (Fn.func 153) [] []] [ABlk.mk cs5 true true] fun r3 o3=>
 AF r3 fun cs6=>
 Ad cs6<|
 AG o3 fun c6 l12=>
 AP true true c6 fun cs7=>
 Ac l12<|
 some ((AV.tup [],[BO.set (ABlk.mk cs7 true true)])))
 (some ((AV.tup [],[BO.set (ABlk.mk cs5 true true)]))))
 (some ((AV.tup [],[BO.set (ABlk.mk cs5 true true)]))))
 (br (A.lt n4 (A.sub IntKind.i64 n5 n6))
 (br (A.lt (A.sub IntKind.i64 n5 n6) n3)
 (Af D (Key.fn 243) [AV.sl 0 0 n 3,iv n4,iv (A.sub IntKind.i64 n5 n6),iv n3,AV.fn (Fn.func 153) [] []] [ABlk.mk cs3 true true] fun r2 o2=>
 AF r2 fun cs4=>
 Ad cs4<|
 AG o2 fun c5 l11=>
 AP true true c5 fun cs5=>
 Ac l11<|
 some ((AV.tup [],[BO.set (ABlk.mk cs5 true true)])))
 (some ((AV.tup [],[BO.set (ABlk.mk cs3 true true)]))))
 (some ((AV.tup [],[BO.set (ABlk.mk cs3 true true)])))))
 (br (A.lt n4 (A.sub IntKind.i64 n5 n6))
 (br (A.lt (A.sub IntKind.i64 n5 n6) n3)
 (Af D (Key.fn 243) [AV.sl 0 0 n 3,iv n4,iv (A.sub IntKind.i64 n5 n6),iv n3,AV.fn (Fn.func 153) [] []] [ABlk.mk cs3 true true] fun r2 o2=>
 AF r2 fun cs4=>
 Ad cs4<|
 AG o2 fun c5 l11=>
 AP true true c5 fun cs5=>
 Ac l11<|
 some ((AV.tup [],[BO.set (ABlk.mk cs5 true true)])))
 (some ((AV.tup [],[BO.set (ABlk.mk cs3 true true)]))))
 (some ((AV.tup [],[BO.set (ABlk.mk cs3 true true)])))))
 (br (A.lt n1 n6)
 (br (A.lt n6 n4)
 (Af D (Key.fn 243) [AV.sl 0 0 n 3,iv n1,iv n6,iv n4,AV.fn (Fn.func 153) [] []] [ABlk.mk cs1 true true] fun r1 o1=>
 AF r1 fun cs2=>
 Ad cs2<|
 AG o1 fun c4 l10=>
 AP true true c4 fun cs3=>
 Ac l10<|
 br (A.lt n4 (A.sub IntKind.i64 n5 n6))
 (br (A.lt (A.sub IntKind.i64 n5 n6) n3)
 (Af D (Key.fn 243) [AV.sl 0 0 n 3,iv n4,iv (A.sub IntKind.i64 n5 n6),iv n3,AV.fn (Fn.func 153) [] []] [ABlk.mk cs3 true true] fun r2 o2=>
 AF r2 fun cs4=>
 Ad cs4<|
 AG o2 fun c5 l11=>
 AP true true c5 fun cs5=>
 Ac l11<|
 some ((AV.tup [],[BO.set (ABlk.mk cs5 true true)])))
 (some ((AV.tup [],[BO.set (ABlk.mk cs3 true true)]))))
 (some ((AV.tup [],[BO.set (ABlk.mk cs3 true true)]))))
 (br (A.lt n4 (A.sub IntKind.i64 n5 n6))
 (br (A.lt (A.sub IntKind.i64 n5 n6) n3)
 (Af D (Key.fn 243) [AV.sl 0 0 n 3,iv n4,iv (A.sub IntKind.i64 n5 n6),iv n3,AV.fn (Fn.func 153) [] []] [ABlk.mk cs1 true true] fun r1 o1=>
 AF r1 fun cs2=>
 Ad cs2<|
 AG o1 fun c4 l10=>
 AP true true c4 fun cs3=>
 Ac l10<|
 some ((AV.tup [],[BO.set (ABlk.mk cs3 true true)])))
 (some ((AV.tup [],[BO.set (ABlk.mk cs1 true true)]))))
 (some ((AV.tup [],[BO.set (ABlk.mk cs1 true true)])))))
 (br (A.lt n4 (A.sub IntKind.i64 n5 n6))
 (br (A.lt (A.sub IntKind.i64 n5 n6) n3)
 (Af D (Key.fn 243) [AV.sl 0 0 n 3,iv n4,iv (A.sub IntKind.i64 n5 n6),iv n3,AV.fn (Fn.func 153) [] []] [ABlk.mk cs1 true true] fun r1 o1=>
 AF r1 fun cs2=>
 Ad cs2<|
 AG o1 fun c4 l10=>
 AP true true c4 fun cs3=>
 Ac l10<|
 some ((AV.tup [],[BO.set (ABlk.mk cs3 true true)])))
 (some ((AV.tup [],[BO.set (ABlk.mk cs1 true true)]))))
 (some ((AV.tup [],[BO.set (ABlk.mk cs1 true true)]))))))
 (br (A.lt n1 n6)
 (br (A.lt n6 n4)
 (Af D (Key.fn 243) [AV.sl 0 0 n 3,iv n1,iv n6,iv n4,AV.fn (Fn.func 153) [] []] [ABlk.mk cs1 true true] fun r1 o1=>
 AF r1 fun cs2=>
 Ad cs2<|
 AG o1 fun c4 l10=>
 AP true true c4 fun cs3=>
 Ac l10<|
 br (A.lt n4 (A.sub IntKind.i64 n5 n6))
 (br (A.lt (A.sub IntKind.i64 n5 n6) n3)
 (Af D (Key.fn 243) [AV.sl 0 0 n 3,iv n4,iv (A.sub IntKind.i64 n5 n6),iv n3,AV.fn (Fn.func 153) [] []] [ABlk.mk cs3 true true] fun r2 o2=>
 AF r2 fun cs4=>
 Ad cs4<|
 AG o2 fun c5 l11=>
 AP true true c5 fun cs5=>
 Ac l11<|
 some ((AV.tup [],[BO.set (ABlk.mk cs5 true true)])))
 (some ((AV.tup [],[BO.set (ABlk.mk cs3 true true)]))))
 (some ((AV.tup [],[BO.set (ABlk.mk cs3 true true)]))))
 (br (A.lt n4 (A.sub IntKind.i64 n5 n6))
 (br (A.lt (A.sub IntKind.i64 n5 n6) n3)
 (Af D (Key.fn 243) [AV.sl 0 0 n 3,iv n4,iv (A.sub IntKind.i64 n5 n6),iv n3,AV.fn (Fn.func 153) [] []] [ABlk.mk cs1 true true] fun r1 o1=>
 AF r1 fun cs2=>
 Ad cs2<|
 AG o1 fun c4 l10=>
 AP true true c4 fun cs3=>
 Ac l10<|
 some ((AV.tup [],[BO.set (ABlk.mk cs3 true true)])))
 (some ((AV.tup [],[BO.set (ABlk.mk cs1 true true)]))))
 (some ((AV.tup [],[BO.set (ABlk.mk cs1 true true)])))))
 (br (A.lt n4 (A.sub IntKind.i64 n5 n6))
 (br (A.lt (A.sub IntKind.i64 n5 n6) n3)
 (Af D (Key.fn 243) [AV.sl 0 0 n 3,iv n4,iv (A.sub IntKind.i64 n5 n6),iv n3,AV.fn (Fn.func 153) [] []] [ABlk.mk cs1 true true] fun r1 o1=>
 AF r1 fun cs2=>
 Ad cs2<|
 AG o1 fun c4 l10=>
 AP true true c4 fun cs3=>
 Ac l10<|
 some ((AV.tup [],[BO.set (ABlk.mk cs3 true true)])))
 (some ((AV.tup [],[BO.set (ABlk.mk cs1 true true)]))))
 (some ((AV.tup [],[BO.set (ABlk.mk cs1 true true)]))))))
 (none))))):=by kernel_rfl
theorem Tz(A:Ar)(D:Orc)(n0:Nat)(c0:List AV)(t1:Int)(t10:Int)(t11:Int):D2 A D As CI .n 243 0 (Bc GV 0).fst (Bc GV 0).snd [AV.sl 0 0 n0 3,iv t1,AV.fn (Fn.func 153) [] [],iv t10,iv t11] [{ cells:=c0,st:=true,ex:=true }] =
 br (A.lt t10 t11)
 (br (A.lt 1 0)
 (none)
 (unI (A.conv IntKind.i64 (A.shr IntKind.u64 (A.conv IntKind.u64 (A.add IntKind.i64 t10 t11)) 1)) fun i=>
 br (i.blt n0) (IA c0 (0+i*3) 3 fun cs=>
 Ay IntKind.i64 cs fun n l=>
 Ag l fun b l1=>
 AI l1 fun xs l2=>
 Ad l2<|
 unI t1 fun i1=>
 br (i1.blt n0) (IA c0 (0+i1*3) 3 fun cs1=>
 Ay IntKind.i64 cs1 fun n1 l3=>
 Ag l3 fun b1 l4=>
 AI l4 fun xs1 l5=>
 Ad l5<|
 Af D (Key.fn 153) [AV.agg [iv n,bv b,AV.ls xs],AV.agg [iv n1,bv b1,AV.ls xs1]] [] fun r o=>
 Bp IntKind.i64 r fun n2=>
 Ac o<|
 br (A.lt n2 0)
 (Af D (Key.lp 243 0) [AV.sl 0 0 n0 3,iv t1,AV.fn (Fn.func 153) [] [],iv (A.add IntKind.i64 (A.conv IntKind.i64 (A.shr IntKind.u64 (A.conv IntKind.u64 (A.add IntKind.i64 t10 t11)) 1)) 1),iv t11] [ABlk.mk c0 true true] fun r1 o1=>
 AR 1 [0] (AH.mk [(0,ABlk.mk c0 true true)] 1 none) [] r1 o1)
 (Af D (Key.lp 243 0) [AV.sl 0 0 n0 3,iv t1,AV.fn (Fn.func 153) [] [],iv t10,iv (A.conv IntKind.i64 (A.shr IntKind.u64 (A.conv IntKind.u64 (A.add IntKind.i64 t10 t11)) 1))] [ABlk.mk c0 true true] fun r1 o1=>
 AR 1 [0] (AH.mk [(0,ABlk.mk c0 true true)] 1 none) [] r1 o1)) none) none))
 (some ((AV.tup [iv 0,AV.sl 0 0 n0 3,iv t1,iv t10],[BO.set (ABlk.mk c0 true true)]))):=by kernel_rfl
theorem YA(A:Ar)(D:Orc)(n0:Nat)(c0:List AV)(t10:Int)(t13:Int):D2 A D As CI .n 243 1 (Bc GV 1).fst (Bc GV 1).snd [AV.sl 0 0 n0 3,iv t10,iv t13] [{ cells:=c0,st:=true,ex:=true }] =
 br (A.lt t13 (A.sub IntKind.i64 t10 1))
 (unI (A.add IntKind.i64 t13 1) fun i=>
 br (i.blt n0) (IA c0 (0+i*3) 3 fun cs=>
 Ay IntKind.i64 cs fun n l=>
 Ag l fun b l1=>
 AI l1 fun xs l2=>
 Ad l2<|
 unI t13 fun i1=>
 br (i1.blt n0) (IA c0 (0+i1*3) 3 fun cs1=>
 Ay IntKind.i64 cs1 fun n1 l3=>
 Ag l3 fun b1 l4=>
 AI l4 fun xs1 l5=>
 Ad l5<|
 unI t13 fun i2=>
 br (i2.blt n0) (br ((0+i2*3+3).ble c0.length) (unI (A.add IntKind.i64 t13 1) fun i3=>
 br (i3.blt n0) (br ((0+i3*3+3).ble (Ba c0 (0+i2*3) [iv n,bv b,AV.ls xs]).length) (Af D (Key.lp 243 1) [AV.sl 0 0 n0 3,iv t10,iv (A.add IntKind.i64 t13 1)] [ABlk.mk (Ba (Ba c0 (0+i2*3) [iv n,bv b,AV.ls xs]) (0+i3*3) [iv n1,bv b1,AV.ls xs1]) true true] fun r o=>
 AR 1 [0] (AH.mk [(0,ABlk.mk (Ba (Ba c0 (0+i2*3) [iv n,bv b,AV.ls xs]) (0+i3*3) [iv n1,bv b1,AV.ls xs1]) true true)] 1 none) [0] r o) none) none) none) none) none) none)
 (some ((AV.tup [iv 2,AV.sl 0 0 n0 3],[BO.set (ABlk.mk c0 true true)]))):=by kernel_rfl
theorem TA(A:Ar)(D:Orc)(n0:Nat)(c0:List AV)(t2:Int)(t14:Int)(t15:Int):D2 A D As CI .n 243 2 (Bc GV 2).fst (Bc GV 2).snd [AV.sl 0 0 n0 3,iv t2,AV.fn (Fn.func 153) [] [],iv t14,iv t15] [{ cells:=c0,st:=true,ex:=true }] =
 br (A.lt t14 t15)
 (br (A.lt 1 0)
 (none)
 (unI t2 fun i=>
 br (i.blt n0) (IA c0 (0+i*3) 3 fun cs=>
 Ay IntKind.i64 cs fun n l=>
 Ag l fun b l1=>
 AI l1 fun xs l2=>
 Ad l2<|
 unI (A.conv IntKind.i64 (A.shr IntKind.u64 (A.conv IntKind.u64 (A.add IntKind.i64 t14 t15)) 1)) fun i1=>
 br (i1.blt n0) (IA c0 (0+i1*3) 3 fun cs1=>
 Ay IntKind.i64 cs1 fun n1 l3=>
 Ag l3 fun b1 l4=>
 AI l4 fun xs1 l5=>
 Ad l5<|
 Af D (Key.fn 153) [AV.agg [iv n,bv b,AV.ls xs],AV.agg [iv n1,bv b1,AV.ls xs1]] [] fun r o=>
 Bp IntKind.i64 r fun n2=>
 Ac o<|
 br (A.lt n2 0)
 (Af D (Key.lp 243 2) [AV.sl 0 0 n0 3,iv t2,AV.fn (Fn.func 153) [] [],iv t14,iv (A.conv IntKind.i64 (A.shr IntKind.u64 (A.conv IntKind.u64 (A.add IntKind.i64 t14 t15)) 1))] [ABlk.mk c0 true true] fun r1 o1=>
 AR 1 [0] (AH.mk [(0,ABlk.mk c0 true true)] 1 none) [] r1 o1)
 (Af D (Key.lp 243 2) [AV.sl 0 0 n0 3,iv t2,AV.fn (Fn.func 153) [] [],iv (A.add IntKind.i64 (A.conv IntKind.i64 (A.shr IntKind.u64 (A.conv IntKind.u64 (A.add IntKind.i64 t14 t15)) 1)) 1),iv t15] [ABlk.mk c0 true true] fun r1 o1=>
 AR 1 [0] (AH.mk [(0,ABlk.mk c0 true true)] 1 none) [] r1 o1)) none) none))
 (some ((AV.tup [iv 4,AV.sl 0 0 n0 3,iv t2,iv t14],[BO.set (ABlk.mk c0 true true)]))):=by kernel_rfl
theorem YB(A:Ar)(D:Orc)(n0:Nat)(c0:List AV)(t14:Int)(t17:Int):D2 A D As CI .n 243 3 (Bc GV 3).fst (Bc GV 3).snd [AV.sl 0 0 n0 3,iv t14,iv t17] [{ cells:=c0,st:=true,ex:=true }] =
 br (A.lt t14 t17)
 (unI (A.sub IntKind.i64 t17 1) fun i=>
 br (i.blt n0) (IA c0 (0+i*3) 3 fun cs=>
 Ay IntKind.i64 cs fun n l=>
 Ag l fun b l1=>
 AI l1 fun xs l2=>
 Ad l2<|
 unI t17 fun i1=>
 br (i1.blt n0) (IA c0 (0+i1*3) 3 fun cs1=>
 Ay IntKind.i64 cs1 fun n1 l3=>
 Ag l3 fun b1 l4=>
 AI l4 fun xs1 l5=>
 Ad l5<|
 unI t17 fun i2=>
 br (i2.blt n0) (br ((0+i2*3+3).ble c0.length) (unI (A.sub IntKind.i64 t17 1) fun i3=>
 br (i3.blt n0) (br ((0+i3*3+3).ble (Ba c0 (0+i2*3) [iv n,bv b,AV.ls xs]).length) (Af D (Key.lp 243 3) [AV.sl 0 0 n0 3,iv t14,iv (A.sub IntKind.i64 t17 1)] [ABlk.mk (Ba (Ba c0 (0+i2*3) [iv n,bv b,AV.ls xs]) (0+i3*3) [iv n1,bv b1,AV.ls xs1]) true true] fun r o=>
 AR 1 [0] (AH.mk [(0,ABlk.mk (Ba (Ba c0 (0+i2*3) [iv n,bv b,AV.ls xs]) (0+i3*3) [iv n1,bv b1,AV.ls xs1]) true true)] 1 none) [0] r o) none) none) none) none) none) none)
 (some ((AV.tup [iv 6,AV.sl 0 0 n0 3],[BO.set (ABlk.mk c0 true true)]))):=by kernel_rfl
theorem TC(A:Ar)(D:Orc)(n0:Nat)(c0:List AV)(t1:Int)(t2:Int)(t3:Int)(t18:Int)(t19:Int)(t20:Int)(t21:Int)(t22:Int):D2 A D As CI .n 243 4 (Bc GV 4).fst (Bc GV 4).snd [AV.sl 0 0 n0 3,iv t1,iv t2,iv t3,AV.fn (Fn.func 153) [] [],iv t18,iv t19,iv t20,iv t21,iv t22] [{ cells:=c0,st:=true,ex:=true }] =
 br (A.lt t20 t21)
 (br (A.lt 1 0)
 (none)
 (unI (A.sub IntKind.i64 t22 (A.conv IntKind.i64 (A.shr IntKind.u64 (A.conv IntKind.u64 (A.add IntKind.i64 t20 t21)) 1))) fun i=>
 br (i.blt n0) (IA c0 (0+i*3) 3 fun cs=>
 Ay IntKind.i64 cs fun n l=>
 Ag l fun b l1=>
 AI l1 fun xs l2=>
 Ad l2<|
 unI (A.conv IntKind.i64 (A.shr IntKind.u64 (A.conv IntKind.u64 (A.add IntKind.i64 t20 t21)) 1)) fun i1=>
 br (i1.blt n0) (IA c0 (0+i1*3) 3 fun cs1=>
 Ay IntKind.i64 cs1 fun n1 l3=>
 Ag l3 fun b1 l4=>
 AI l4 fun xs1 l5=>
 Ad l5<|
 Af D (Key.fn 153) [AV.agg [iv n,bv b,AV.ls xs],AV.agg [iv n1,bv b1,AV.ls xs1]] [] fun r o=>
 Bp IntKind.i64 r fun n2=>
 Ac o<|
 br (A.lt n2 0)
 (Af D (Key.lp 243 4) [AV.sl 0 0 n0 3,iv t1,iv t2,iv t3,AV.fn (Fn.func 153) [] [],iv t18,iv t19,iv t20,iv (A.conv IntKind.i64 (A.shr IntKind.u64 (A.conv IntKind.u64 (A.add IntKind.i64 t20 t21)) 1)),iv t22] [ABlk.mk c0 true true] fun r1 o1=>
 AR 1 [0] (AH.mk [(0,ABlk.mk c0 true true)] 1 none) [] r1 o1)
 (Af D (Key.lp 243 4) [AV.sl 0 0 n0 3,iv t1,iv t2,iv t3,AV.fn (Fn.func 153) [] [],iv t18,iv t19,iv (A.add IntKind.i64 (A.conv IntKind.i64 (A.shr IntKind.u64 (A.conv IntKind.u64 (A.add IntKind.i64 t20 t21)) 1)) 1),iv t21,iv t22] [ABlk.mk c0 true true] fun r1 o1=>
 AR 1 [0] (AH.mk [(0,ABlk.mk c0 true true)] 1 none) [] r1 o1)) none) none))
 (some ((AV.tup [iv 8,AV.sl 0 0 n0 3,iv t1,iv t2,iv t3,AV.fn (Fn.func 153) [] [],iv t18,iv t19,iv t20],[BO.set (ABlk.mk c0 true true)]))):=by kernel_rfl
theorem Amp(A:Ar)(D:Orc)(n0:Nat)(c0:List AV)(x1:Int)(x2:Int)(x3:Int):B3 A D As OV .n 260 Vl [AV.sl 0 0 n0 3,iv x1,iv x2,iv x3,AV.fn (Fn.func 153) [] []] [{ cells:=c0,st:=true,ex:=true }] =
 Af D (Key.lp 260 0) [AV.sl 0 0 n0 3,iv x2,AV.fn (Fn.func 153) [] [],iv (A.sub IntKind.i64 x2 x1),iv (A.sub IntKind.i64 x3 x2)] [ABlk.mk c0 true true] fun r o=>
 AF r fun cs=>
 Aj cs fun c l=>
 br (Bw 1 c)
 (Aj l fun c1 l1=>
 CC 0 3 c1 fun n=>
 Ay IntKind.i64 l1 fun n1 l2=>
 Aj l2 fun c2 l3=>
 Ov 153 c2<|
 Ay IntKind.i64 l3 fun n2 l4=>
 Ad l4<|
 AG o fun c3 l5=>
 AP true true c3 fun cs1=>
 Ac l5<|
 Af D (Key.fn 273) [AV.sl 0 0 n 3,iv (A.sub IntKind.i64 n1 n2),iv n1,iv n2,AV.fn (Fn.func 153) [] []] [ABlk.mk cs1 true true] fun r1 o1=>
 AF r1 fun cs2=>
 Ad cs2<|
 AG o1 fun c4 l6=>
 AP true true c4 fun cs3=>
 Ac l6<|
 some ((AV.tup [],[BO.set (ABlk.mk cs3 true true)])))
 (none):=by kernel_rfl
theorem TD(A:Ar)(D:Orc)(n0:Nat)(c0:List AV)(t2:Int)(t10:Int)(t11:Int):D2 A D As OV .n 260 0 (Bc Vl 0).fst (Bc Vl 0).snd [AV.sl 0 0 n0 3,iv t2,AV.fn (Fn.func 153) [] [],iv t10,iv t11] [{ cells:=c0,st:=true,ex:=true }] =
 br (A.eq t10 t11)
 (some ((AV.tup [iv 0,AV.sl 0 0 n0 3,iv t2,AV.fn (Fn.func 153) [] [],iv t10],[BO.set (ABlk.mk c0 true true)])))
 (br (A.lt t11 t10)
 (Af D (Key.fn 273) [AV.sl 0 0 n0 3,iv (A.sub IntKind.i64 t2 t10),iv t2,iv t11,AV.fn (Fn.func 153) [] []] [ABlk.mk c0 true true] fun r o=>
 AF r fun cs=>
 Ad cs<|
 AG o fun c l=>
 AP true true c fun cs1=>
 Ac l<|
 Af D (Key.lp 260 0) [AV.sl 0 0 n0 3,iv t2,AV.fn (Fn.func 153) [] [],iv (A.sub IntKind.i64 t10 t11),iv t11] [ABlk.mk cs1 true true] fun r1 o1=>
 AR 1 [0] (AH.mk [(0,ABlk.mk cs1 true true)] 1 none) [0] r1 o1)
 (Af D (Key.fn 273) [AV.sl 0 0 n0 3,iv (A.sub IntKind.i64 t2 t10),iv (A.sub IntKind.i64 (A.add IntKind.i64 t2 t11) t10),iv t10,AV.fn (Fn.func 153) [] []] [ABlk.mk c0 true true] fun r o=>
 AF r fun cs=>
 Ad cs<|
 AG o fun c l=>
 AP true true c fun cs1=>
 Ac l<|
 Af D (Key.lp 260 0) [AV.sl 0 0 n0 3,iv t2,AV.fn (Fn.func 153) [] [],iv t10,iv (A.sub IntKind.i64 t11 t10)] [ABlk.mk cs1 true true] fun r1 o1=>
 AR 1 [0] (AH.mk [(0,ABlk.mk cs1 true true)] 1 none) [0] r1 o1)):=by kernel_rfl
theorem Amr(A:Ar)(D:Orc)(n0:Nat)(c0:List AV)(x1:Int)(x2:Int)(x3:Int):B3 A D As RS .n 273 Vm [AV.sl 0 0 n0 3,iv x1,iv x2,iv x3,AV.fn (Fn.func 153) [] []] [{ cells:=c0,st:=true,ex:=true }] =
 Af D (Key.lp 273 0) [AV.sl 0 0 n0 3,iv x1,iv x2,iv x3,iv 0] [ABlk.mk c0 true true] fun r o=>
 AF r fun cs=>
 Aj cs fun c l=>
 br (Bw 1 c)
 (Aj l fun c1 l1=>
 CC 0 3 c1 fun _=>
 Ad l1<|
 AG o fun c2 l2=>
 AP true true c2 fun cs1=>
 Ac l2<|
 some ((AV.tup [],[BO.set (ABlk.mk cs1 true true)])))
 (none):=by kernel_rfl
theorem YF(A:Ar)(D:Orc)(n0:Nat)(c0:List AV)(t1:Int)(t2:Int)(t3:Int)(t10:Int):D2 A D As RS .n 273 0 (Bc Vm 0).fst (Bc Vm 0).snd [AV.sl 0 0 n0 3,iv t1,iv t2,iv t3,iv t10] [{ cells:=c0,st:=true,ex:=true }] =
 br (A.lt t10 t3)
 (unI (A.add IntKind.i64 t2 t10) fun i=>
 br (i.blt n0) (IA c0 (0+i*3) 3 fun cs=>
 Ay IntKind.i64 cs fun n l=>
 Ag l fun b l1=>
 AI l1 fun xs l2=>
 Ad l2<|
 unI (A.add IntKind.i64 t1 t10) fun i1=>
 br (i1.blt n0) (IA c0 (0+i1*3) 3 fun cs1=>
 Ay IntKind.i64 cs1 fun n1 l3=>
 Ag l3 fun b1 l4=>
 AI l4 fun xs1 l5=>
 Ad l5<|
 unI (A.add IntKind.i64 t1 t10) fun i2=>
 br (i2.blt n0) (br ((0+i2*3+3).ble c0.length) (unI (A.add IntKind.i64 t2 t10) fun i3=>
 br (i3.blt n0) (br ((0+i3*3+3).ble (Ba c0 (0+i2*3) [iv n,bv b,AV.ls xs]).length) (Af D (Key.lp 273 0) [AV.sl 0 0 n0 3,iv t1,iv t2,iv t3,iv (A.add IntKind.i64 t10 1)] [ABlk.mk (Ba (Ba c0 (0+i2*3) [iv n,bv b,AV.ls xs]) (0+i3*3) [iv n1,bv b1,AV.ls xs1]) true true] fun r o=>
 AR 1 [0] (AH.mk [(0,ABlk.mk (Ba (Ba c0 (0+i2*3) [iv n,bv b,AV.ls xs]) (0+i3*3) [iv n1,bv b1,AV.ls xs1]) true true)] 1 none) [0] r o) none) none) none) none) none) none)
 (some ((AV.tup [iv 0,AV.sl 0 0 n0 3],[BO.set (ABlk.mk c0 true true)]))):=by kernel_rfl
theorem AhY(A:Ar)(D:Orc)(n0:Nat)(c0:List AV):B3 A D As M8 .n 156 U7 [AV.sl 0 0 n0 3,AV.fn (Fn.func 157) [] []] [{ cells:=c0,st:=true,ex:=true }] =
 Af D (Key.fn 208) [AV.sl 0 0 n0 3,AV.fn (Fn.func 157) [] []] [ABlk.mk c0 true true] fun r o=>
 Bp IntKind.i64 r fun n=>
 AG o fun c l=>
 AP true true c fun cs=>
 Ac l<|
 br (A.eq n (-1))
 (some ((AV.sl 0 0 n0 3,[BO.set (ABlk.mk cs true true)])))
 (Af D (Key.lp 156 0) [AV.sl 0 0 n0 3,AV.fn (Fn.func 157) [] [],iv n,iv (A.add IntKind.i64 n 1)] [ABlk.mk cs true true] fun r1 o1=>
 AF r1 fun cs1=>
 Aj cs1 fun c1 l1=>
 br (Bw 1 c1)
 (Aj l1 fun c2 l2=>
 CC 0 3 c2 fun n1=>
 Ay IntKind.i64 l2 fun n2 l3=>
 Ad l3<|
 AG o1 fun c3 l4=>
 AP true true c3 fun cs2=>
 Ac l4<|
 unI n2 fun i=>
 br (JG i n1 n1) (br ((0+i*3+(n1-i)*3).ble cs2.length) (unI n2 fun i1=>
 br (JG 0 i1 n1) (some ((AV.sl 0 0 i1 3,[BO.set (ABlk.mk (Ba cs2 (0+i*3) (Cq [iv 0,bv false,AV.v (Value.slice none 0 0)] ((n1-i)*3))) true true)]))) none) none) none)
 (none)):=by kernel_rfl
theorem Tv(A:Ar)(D:Orc)(n0:Nat)(c0:List AV)(t5:Int)(t6:Int):D2 A D As M8 .n 156 0 (Bc U7 0).fst (Bc U7 0).snd [AV.sl 0 0 n0 3,AV.fn (Fn.func 157) [] [],iv t5,iv t6] [{ cells:=c0,st:=true,ex:=true }] =
 br (A.lt t6 ↑n0)
 (unI t6 fun i=>
 br (i.blt n0) (IA c0 (0+i*3) 3 fun cs=>
 Ay IntKind.i64 cs fun n l=>
 Ag l fun b l1=>
 AI l1 fun xs l2=>
 Ad l2<|
 Af D (Key.fn 157) [AV.agg [iv n,bv b,AV.ls xs]] [] fun r o=>
 AW r fun b1=>
 Ac o<|
 br b1
 (Af D (Key.lp 156 0) [AV.sl 0 0 n0 3,AV.fn (Fn.func 157) [] [],iv t5,iv (A.add IntKind.i64 t6 1)] [ABlk.mk c0 true true] fun r1 o1=>
 AR 1 [0] (AH.mk [(1,ABlk.mk [iv n,bv b,AV.ls xs] true false),(0,ABlk.mk c0 true true)] 2 none) [] r1 o1)
 (unI t5 fun i1=>
 br (i1.blt n0) (br ((0+i1*3+3).ble c0.length) (Af D (Key.lp 156 0) [AV.sl 0 0 n0 3,AV.fn (Fn.func 157) [] [],iv (A.add IntKind.i64 t5 1),iv (A.add IntKind.i64 t6 1)] [ABlk.mk (Ba c0 (0+i1*3) [iv n,bv b,AV.ls xs]) true true] fun r1 o1=>
 AR 1 [0] (AH.mk [(0,ABlk.mk (Ba c0 (0+i1*3) [iv n,bv b,AV.ls xs]) true true),(1,ABlk.mk [iv n,bv b,AV.ls xs] true false)] 2 none) [0] r1 o1) none) none)) none)
 (some ((AV.tup [iv 0,AV.sl 0 0 n0 3,iv t5],[BO.set (ABlk.mk c0 true true)]))):=by kernel_rfl
theorem Al9(A:Ar)(D:Orc)(n0:Nat)(c0:List AV):B3 A D As Na .n 208 Vg [AV.sl 0 0 n0 3,AV.fn (Fn.func 157) [] []] [{ cells:=c0,st:=true,ex:=true }] =
 Af D (Key.lp 208 0) [AV.sl 0 0 n0 3,AV.fn (Fn.func 157) [] [],iv ↑n0,iv 0] [ABlk.mk c0 true true] fun r o=>
 AF r fun cs=>
 Aj cs fun c l=>
 br (Bw 0 c)
 (Aj l fun c1 l1=>
 CC 0 3 c1 fun _=>
 Ay IntKind.i64 l1 fun n1 l2=>
 Ad l2<|
 AG o fun c2 l3=>
 AP true true c2 fun cs1=>
 Ac l3<|
 some ((iv n1,[BO.set (ABlk.mk cs1 true true)])))
 (br (Bw 1 c)
 (Aj l fun c1 l1=>
 CC 0 3 c1 fun _=>
 Ad l1<|
 AG o fun c2 l2=>
 AP true true c2 fun cs1=>
 Ac l2<|
 some ((iv (-1),[BO.set (ABlk.mk cs1 true true)])))
 (none)):=by kernel_rfl
theorem Qe(A:Ar)(D:Orc)(n0:Nat)(c0:List AV)(t7:Int)(t8:Int):D2 A D As Na .n 208 0 (Bc Vg 0).fst (Bc Vg 0).snd [AV.sl 0 0 n0 3,AV.fn (Fn.func 157) [] [],iv t7,iv t8] [{ cells:=c0,st:=true,ex:=true }] =
 br (A.lt t8 t7)
 (unI t8 fun i=>
 br (i.blt n0) (IA c0 (0+i*3) 3 fun cs=>
 Ay IntKind.i64 cs fun n l=>
 Ag l fun b l1=>
 AI l1 fun xs l2=>
 Ad l2<|
 Af D (Key.fn 157) [AV.agg [iv n,bv b,AV.ls xs]] [] fun r o=>
 AW r fun b1=>
 Ac o<|
 br b1
 (some ((AV.tup [bv true,AV.sl 0 0 n0 3,iv t8],[BO.set (ABlk.mk c0 true true)])))
 (Af D (Key.lp 208 0) [AV.sl 0 0 n0 3,AV.fn (Fn.func 157) [] [],iv t7,iv (A.add IntKind.i64 t8 1)] [ABlk.mk c0 true true] fun r1 o1=>
 AR 1 [0] (AH.mk [(0,ABlk.mk c0 true true)] 1 none) [] r1 o1)) none)
 (some ((AV.tup [iv 0,AV.sl 0 0 n0 3],[BO.set (ABlk.mk c0 true true)]))):=by kernel_rfl
end Go.Proofs.YtlmhajfbpplpoaaGreat
