/- Layer 5's alive answers -/
import Derived.Test.YtpncilciembjdaaGreatDoorGBN
set_option linter.all false
open Bool renaming false->Ξ,true->U
open List renaming drop->Aqp,take->Aqj
open Option renaming none->Θ,some->Δ
namespace Go.Proofs.YtpncilciembjdaaGreatDoor
noncomputable section
open ABlk renaming mk->Ω
open AV renaming agg->ψ,ls->Φ,ptr->υ,sl->κ,tup->Aqm,v->AqC
open BO renaming set->Aqu
open IntKind renaming i64->δ,u32->γ,u64->ξ
open Key renaming fn->φ,lp->Aqn
section
open Go.RowKit
abbrev Iy:List AV:=[iv 2,.ls [Xa],bv Ξ,.ls [Ou 2],bv Ξ,.ls []]
abbrev RE:List AV:=[iv 2,.ls [pY],bv Ξ,.ls [],bv U,.ls []]
abbrev fGe:List AV:=[iv 2,.ls [pX,Uv],bv Ξ,.ls [],bv Ξ,.ls []]
abbrev fK(k:Int)(l:List (List AV)):List AV:=[iv k,.ls [],bv Ξ,.ls [],bv Ξ,.ls l]
abbrev Ajd:List AV:=fK 4 [Iy,RE]
abbrev Acf:List AV:=fK 5 [Iy,RE]
abbrev AlO:List AV:=fK 4 [Acf,fGe]
abbrev AlP:List AV:=fK 3 [Ajd]
abbrev fF:List AV:=fK 5 [[iv 2,.ls [pX],bv U,.ls [Ou 3],bv Ξ,.ls []],[iv 2,.ls [pY],bv U,.ls [Ou 1],bv Ξ,.ls []],[iv 2,.ls [Uv],bv U,.ls [Ou 1],bv Ξ,.ls []]]
abbrev Acg:List AV:=[iv 2,.ls [Uv],bv Ξ,.ls [Ou 2],bv Ξ,.ls []]
set_option maxRecDepth 1000000
theorem a1:C4 91 [iv 0,.ls [[iv 1]]] []=Δ (.agg [.ls [pX],bv Ξ,.ls []],[]):=by kernel_rfl
theorem a2:C4 91 [iv 0,.ls [[iv 0],[iv 1]]] []=Δ (.agg [.ls [pY],bv Ξ,.ls []],[]):=by kernel_rfl
theorem a3:C4 91 [iv 3,.ls []] []=Δ (.agg [.ls [],bv Ξ,.ls [Ou 3]],[]):=by kernel_rfl
theorem a4:C4 54 [iv 2,.agg [.ls [pX],bv Ξ,.ls []],.agg [.ls [],bv Ξ,.ls [Ou 3]]] []=Δ (.agg Iy,[]):=by kernel_rfl
theorem a5:C4 91 [iv 0,.ls []] []=Δ (.agg [.ls [],bv Ξ,.ls []],[]):=by kernel_rfl
theorem a6:C4 54 [iv 0,.agg [.ls [pY],bv Ξ,.ls []],.agg [.ls [],bv Ξ,.ls []]] []=Δ (.agg RE,[]):=by kernel_rfl
theorem a7:C4 92 [.ls [Iy,RE]] []=Δ (.agg Ajd,[]):=by kernel_rfl
theorem a8:C4 49 [.agg Ajd] []=Δ (.agg AlP,[]):=by kernel_rfl
theorem a9:dBu 39 [.agg AlP] []=Δ (.agg fF,[]):=by kernel_rfl
theorem a10:C4 93 [.agg fF,.ls [[sv (Cw [120])],[sv (Cw [121])]]] []=Δ (sv (Cw [40,120,32,45,32,51,32,62,61,32,48,32,124,32,121,32,45,32,49,32,62,61,32,48,32,124,32,45,121,32,45,32,49,32,62,61,32,48,41]),[]):=by kernel_rfl
theorem a11:C4 94 [.ls [Iy,RE]] []=Δ (.agg Acf,[]):=by kernel_rfl
theorem a12:C4 54 [iv 5,.agg [.ls [pX],bv Ξ,.ls []],.agg [.ls [pY],bv Ξ,.ls []]] []=Δ (.agg fGe,[]):=by kernel_rfl
theorem a13:C4 92 [.ls [Acf,fGe]] []=Δ (.agg AlO,[]):=by kernel_rfl
theorem a14:dBu 47 [.agg AlO,iv 9] []=Δ (.tup [.ls [[.ls [rL,rG]],[.ls [rG,UA]]],iv 0],[]):=by kernel_rfl
theorem a15:dBu 47 [.agg Acf,iv 1] []=Δ (.tup [.ls [],iv 3],[]):=by kernel_rfl
theorem a16:C4 56 [iv 2] []=Δ (.agg [bv Ξ,.ls [Ou 2]],[]):=by kernel_rfl
theorem a17:C4 36 [.agg Iy,.ls [[bv Ξ,.ls [Ou 2]]]] []=Δ (bv U,[]):=by kernel_rfl
theorem a18:C4 95 [bv Ξ] []=Δ (.agg (fK 1 []),[]):=by kernel_rfl
theorem a19:C4 36 [.agg (fK 1 []),.ls []] []=Δ (bv Ξ,[]):=by kernel_rfl
theorem a20:C4 96 [.agg fF] []=Δ (iv 4,[]):=by kernel_rfl
theorem a21:C4 97 [.agg fF] []=Δ (.ls [[iv 0],[iv 1]],[]):=by kernel_rfl
theorem a22:C4 41 [.agg fF,.agg fF] []=Δ (bv U,[]):=by kernel_rfl
theorem a23:C4 41 [.agg fF,.agg Iy] []=Δ (bv Ξ,[]):=by kernel_rfl
theorem a24:C4 43 [.agg Iy,.ls [[iv 0]],.ls [[.ls [pY],bv Ξ,.ls []]]] []=Δ (.agg Acg,[]):=by kernel_rfl
theorem a25:C4 45 [.agg Iy,iv 1] []=Δ (.agg Acg,[]):=by kernel_rfl
theorem a26:C4 41 [.agg Acg,.agg Acg] []=Δ (bv U,[]):=by kernel_rfl
theorem a27:C4 98 [.agg [.ls [Xa],bv Ξ,.ls [Ou 2],bv Ξ]] []=Δ (.agg Iy,[]):=by kernel_rfl
theorem AcA:PN.ask (.fn 34) [] []=Δ (bv U,[]):=by
 refine Aw Amo Al0 (e34 ..) ?_;refine Aa (Rc a1) ?_;simp only[ND,DK,Ab];refine Aa (Rc a2) ?_;simp only[ND,DK,Ab];refine Aa (Rc a3) ?_;simp only[ND,DK,Ab];refine Aa (Je a4) ?_;simp only[ND,DK,Ab];refine Aa (Rc a5) ?_;simp only[ND,DK,Ab];refine Aa (Je a6) ?_;simp only[ND,DK,Ab];refine Aa (AbA a7) ?_;simp only[ND,DK,Ab];refine Aa (AbF a8) ?_;simp only[ND,DK,Ab];refine Aa (AgV a9) ?_;simp only[ND,DK,Ab];refine Bk ?_ rfl;refine Bk ?_ rfl;refine Aa (AbH a10) ?_;simp only[ND,DK,Ab];refine Agy rfl ?_;refine Aa (AbB a11) ?_;simp only[ND,DK,Ab];refine Aa (Je a12) ?_;simp only[ND,DK,Ab];refine Aa (AbA a13) ?_;simp only[ND,DK,Ab];refine Aa (Ti a14) ?_;simp only[ND,DK,Ab];refine Aa (AbB a11) ?_;simp only[ND,DK,Ab];refine Aa (Ti a15) ?_;simp only[ND,DK,Ab];refine Aa (Ak9 a16) ?_;simp only[ND,DK,Ab];refine Bk ?_ rfl;refine Bk ?_ rfl;refine Bk ?_ rfl;refine Aa (PM a17) ?_;simp only[ND,DK,Ab];refine Aa (AbK a18) ?_;simp only[ND,DK,Ab];refine Aa (PM a19) ?_;simp only[ND,DK,Ab];refine Aa (AgY a20) ?_;simp only[ND,DK,Ab];refine Bk ?_ rfl;refine Aa (AbI a21) ?_;simp only[ND,DK,Ab];refine Bk ?_ rfl;refine Aa (N8 a22) ?_;simp only[ND,DK,Ab];refine Aa (N8 a23) ?_;simp only[ND,DK,Ab];refine Aa (UX a24) ?_;simp only[ND,DK,Ab];refine Aa (AbG a25) ?_;simp only[ND,DK,Ab];refine Aa (N8 a26) ?_;simp only[ND,DK,Ab];refine Aa (Ak8 a27) ?_;simp only[ND,DK,Ab];refine Bk ?_ rfl;rfl
theorem AlV:AN (AT Tryz.prog 34) ((AY Ah NS).ask (.fn 34)):=
 Em (XA ⟨(GA _),(GA _),(GA _),(GA _),(AlY _),(GA _),(GA _),(AlY _),(GA _),(GA _),(GA _),(GA _),(GA _),(GA _),(GA _),(GA _),(GA _),trivial⟩) _
end
section
open Go.RowKit
def W0:MFn:=Au [⟨64,(mB 133),[],[],[(0,((mB 64),([],[]))),(1,([],([],[])))]⟩,⟨64,(mB 389),[],[],[(0,((mB 64),([],[]))),(3,((mB 133),([],[])))]⟩] 16
def R3:Hnt:=⟨[],[(0,[(0,([.bool],[])),(1,([],[]))]),(1,[(0,([.bool],[])),(3,([.ls,.int .i64,.int .i64],[]))])],[(21,GG),(24,[.ls]),(30,GG),(34,[.ls]),(42,GG),(45,[.ls]),(52,GG),(55,[.ls]),(57,BC),(60,[.ls])]⟩
def Px:List (Nat × MFn):=[(16,W0)]
variable (A:Ar) (D:Orc)
theorem e16(x0:Rw)(x1 x2:Int):BZ A D Al R3 .n 16 W0 [Φ x0,iv x1,iv x2] [] =
 br (A.lt x1 ↑(AP x0))
 (Δ ((bv Ξ,[])))
 (Ad D (Aqn 16 0) [Φ x0,iv x2,iv 0] [] [.t,.C,.x,.X,.Y] λc l o=>
 br (Bf 0 c)
 (dk [.B,.N,.E] [.l l,.o o] λb=>
 Δ ((bv b,[])))
 (br (Bf 1 c)
 (Ea l<|
 CD o<|
 Δ ((bv U,[])))
 (Θ))):=by kernel_rfl
theorem Ag8(t0:Rw)(t2 t7:Int):Dl A D Al R3 .n 16 0 (AL W0 0).fst (AL W0 0).snd [Φ t0,iv t2,iv t7] [] =
 br (A.lt t7 ↑(AP t0))
 (unI t7 λi=>
 Bh t0 i λcs=>
 dk [.L,.B,.L,.B,.N] [.l cs] λxs _ _ _=>
 br (A.lt 20 ↑(AP xs))
 (Δ ((Aqm [bv U,bv Ξ],[])))
 (unI t7 λi1=>
 Bh t0 i1 λcs1=>
 dk [.L,.B,.L,.B,.N] [.l cs1] λ_ _ xs3 _=>
 br (A.lt t2 ↑(AP xs3))
 (Δ ((Aqm [bv U,bv Ξ],[])))
 (Ad D (Aqn 16 1) [Φ t0,iv t2,iv t7,iv 0] [] [.t,.C,.x,.X,.Y] λc l8 o=>
 br (Bf 0 c)
 (dk [.B,.N,.E] [.l l8,.o o] λb4=>
 Δ ((Aqm [bv U,bv b4],[])))
 (br (Bf 3 c)
 (dk [.L,.I,.I,.N,.E] [.l l8,.o o] λxs4 n n1=>
 AG D (Aqn 16 0) [Φ xs4,iv n,iv (A.add δ n1 1)] [] λr1 o1=>
 AF 0 [] (AH.mk [] 0 Θ) [] r1 o1)
 (Θ)))))
 (Δ ((Aqm [iv 0],[]))):=by kernel_rfl
theorem Ag9(t0:Rw)(t2 t7 t8:Int):Dl A D Al R3 .n 16 1 (AL W0 1).fst (AL W0 1).snd [Φ t0,iv t2,iv t7,iv t8] [] =
 unI t7 λi=>
 Bh t0 i λcs=>
 dk [.L,.B,.L,.B,.N] [.l cs] λxs _ _ _=>
 br (A.lt t8 ↑(AP xs))
 (unI t7 λi1=>
 Bh t0 i1 λcs1=>
 dk [.L,.B,.L,.B,.N] [.l cs1] λxs2 _ _ _=>
 unI t8 λi2=>
 Bh xs2 i2 λcs2=>
 dk [.I,.B,.L,.N] [.l cs2] λ_ _ xs4=>
 br (A.lt t2 ↑(AP xs4))
 (Δ ((Aqm [bv U,bv Ξ],[])))
 (AG D (Aqn 16 1) [Φ t0,iv t2,iv t7,iv (A.add δ t8 1)] [] λr o=>
 AF 0 [] (AH.mk [] 0 Θ) [] r o))
 (Δ ((Aqm [iv 2,Φ t0,iv t2,iv t7],[]))):=by kernel_rfl
end
section
open Go.RowKit
def O6:MFn:=Au [⟨37,(mB 25),[(3,1)],[],[(1,((mB 8),([],[])))]⟩,⟨37,(mB 8),[(3,1)],[],[(3,((mB 8),([],[])))]⟩] 149
def Lq:Hnt:=⟨[],[(0,[(1,([.sl 1 1],[.del,.row U]))]),(1,[(3,([.sl 1 1],[.del,.row U]))])],[(15,[.int .u32]),(16,[.int .u32]),(27,[.int .u32]),(28,[.int .u32])]⟩
def Aip:MFn:=Au [] 186
def AhO:Hnt:=⟨[],[],[]⟩
def Aiq:MFn:=Au [] 187
def AhP:Hnt:=⟨[],[],[(15,[.int .u32]),(16,[.int .u32])]⟩
def Vz:MFn:=Au [⟨28,(mB 35),[],[],[(0,((mB 16),([],[]))),(1,([],([],[])))]⟩] 228
def Sb:Hnt:=⟨[(186,(.int .i64,[])),(187,(.int .u64,[]))],[(0,[(0,([.int .i64],[])),(1,([],[]))])],[]⟩
def Vm:MFn:=Au [⟨36,(mB 227),[(5,1)],[],[(1,((mB 32),([],[])))]⟩] 129
def R0:Hnt:=⟨[(149,(.ls,[])),(186,(.int .i64,[])),(187,(.int .u64,[]))],[(0,[(1,([.sl 1 1],[.del,.row U]))])],[]⟩
def Vr:MFn:=Au [⟨43,(mB 451),[(6,1)],[],[(1,((mB 64),([],[])))]⟩] 182
def R5:Hnt:=⟨[(149,(.ls,[])),(186,(.int .i64,[])),(187,(.int .u64,[])),(228,(.int .i64,[]))],[(0,[(1,([.sl 1 1],[.del,.row U]))])],[]⟩
def VA:MFn:=Au [⟨37,(mB 227),[(5,1)],[],[(1,((mB 96),([],[])))]⟩] 229
def Se:Hnt:=⟨[(149,(.ls,[])),(187,(.int .u64,[]))],[(0,[(1,([.sl 1 1,.int .u64],[.del,.row U]))])],[]⟩
def O7:MFn:=Au [⟨42,(mB 99),[],[5],[(1,((mB 32),([],[])))]⟩,⟨42,(mB 483),[(7,1)],[],[(3,((mB 195),([],[])))]⟩] 183
def Lr:Hnt:=⟨[(129,(.ls,[])),(149,(.ls,[])),(229,(.ls,[]))],[(0,[(1,([.ls],[]))]),(1,[(3,([.ls,.ls,.int .i64,.sl 1 1],[.del,.row U]))])],[(27,[.int .u32]),(28,[.int .u32]),(35,[.int .u32]),(36,[.int .u32])]⟩
def Vy:MFn:=Au [⟨26,(mB 35),[],[],[(0,((mB 16),([],[]))),(1,([],([],[])))]⟩] 210
def Nc:Hnt:=⟨[],[(0,[(0,([.bool],[])),(1,([],[]))])],[(19,[.int .u32]),(20,[.int .u32]),(23,[.int .u32]),(24,[.int .u32])]⟩
def Pz:List (Nat × MFn):=[(149,O6),(186,Aip),(187,Aiq),(228,Vz),(129,Vm),(182,Vr),(229,VA),(183,O7),(210,Vy)]
variable (A:Ar) (D:Orc)
theorem AnT(x0:Rw):BZ A D Al Lq .n 149 O6 [Φ x0] [] =
 Ad D (Aqn 149 0) [Φ x0,κ 0 0 0 1,iv 0] [Ω [] U U] [.t,.C,.x,.X,.Y] λc l o=>
 br (Bf 1 c)
 (dk [.C,.q 1 1,.N,.D,.R,.X,.E] [.l l,.o o] λn cs1=>
 Ad D (Aqn 149 1) [κ 0 0 n 1] [Ω cs1 U U] [.t,.C,.x,.X,.Y] λc4 l4 o1=>
 br (Bf 3 c4)
 (dk [.C,.q 1 1,.N,.D,.R,.X,.E] [.l l4,.o o1] λn1 cs3=>
 br ((0+n1*1).ble cs3.length) (Δ ((Φ (Bl n1 1 (Aqj (n1*1) cs3)),[]))) Θ)
 (Θ))
 (Θ):=by kernel_rfl
theorem YM(t0:Rw)(n3:Nat)(c3:List AV)(t4:Int):Dl A D Al Lq .n 149 0 (AL O6 0).fst (AL O6 0).snd [Φ t0,κ 0 0 n3 1,iv t4] [{ cells:=c3,st:=U,ex:=U }] =
 br (A.lt t4 ↑(AP t0))
 (unI t4 λi=>
 Bh t0 i λcs=>
 dk [.J .u32,.N] [.l cs] λn=>
 br (Bc (n3+1) 4) (br ((0+n3*1).ble c3.length) (AG D (Aqn 149 0) [Φ t0,κ 0 0 (n3+1) 1,iv (A.add δ t4 1)] [Ω (Aqp 0 (Aqj (0+n3*1) c3)++[AqC (Value.int γ n)]) U U] λr o=>
 AF 1 [2] (AH.mk [(2,Ω (Aqp 0 (Aqj (0+n3*1) c3)++[AqC (Value.int γ n)]) U U),(1,Ω [AqC (Value.int γ n)] U U)] 3 Θ) [0] r o) Θ) Θ)
 (Δ ((Aqm [iv 0,κ 1 0 n3 1],[BO.del,Aqu (Ω c3 U U)]))):=by kernel_rfl
theorem YN(n3:Nat)(c3:List AV):Dl A D Al Lq .n 149 1 (AL O6 1).fst (AL O6 1).snd [κ 0 0 n3 1] [{ cells:=c3,st:=U,ex:=U }] =
 br (A.lt 0 ↑n3)
 (unI (A.sub δ (↑n3) 1) λi=>
 br (i.blt n3) (Io c3 (0+i*1) 1 λcs=>
 dk [.J .u32,.N] [.l cs] λn=>
 br (A.eq n 0)
 (unI (A.sub δ (↑n3) 1) λi1=>
 br (Nm 0 i1 n3) (AG D (Aqn 149 1) [κ 0 0 i1 1] [Ω c3 U U] λr o=>
 AF 1 [0] (AH.mk [(0,Ω c3 U U)] 1 Θ) [] r o) Θ)
 (Δ ((Aqm [iv 2,κ 1 0 n3 1],[BO.del,Aqu (Ω c3 U U)])))) Θ)
 (Δ ((Aqm [iv 2,κ 1 0 n3 1],[BO.del,Aqu (Ω c3 U U)]))):=by kernel_rfl
theorem An7(x0 x1:Rw):BZ A D Al AhO .n 186 Aip [Φ x0,Φ x1] [] =
 br (A.lt ↑(AP x1) ↑(AP x0))
 (Δ ((iv ↑(AP x0),[])))
 (Δ ((iv ↑(AP x1),[]))):=by kernel_rfl
theorem An8(x0:Rw)(x1:Int):BZ A D Al AhP .n 187 Aiq [Φ x0,iv x1] [] =
 br (A.lt x1 0)
 (Δ ((AqC (Value.int ξ 0),[])))
 (br (A.le (↑(AP x0)) x1)
 (Δ ((AqC (Value.int ξ 0),[])))
 (unI x1 λi=>
 Bh x0 i λcs=>
 dk [.J .u32,.N] [.l cs] λn=>
 Δ ((AqC (Value.int ξ (A.conv ξ n)),[])))):=by kernel_rfl
theorem Aok(x0 x1:Rw):BZ A D Al Sb .n 228 Vz [Φ x0,Φ x1] [] =
 Ad D (φ 186) [Φ x0,Φ x1] [] [.i,.E] λn=>
 Ad D (Aqn 228 0) [Φ x0,Φ x1,iv (A.sub δ n 1)] [] [.t,.C,.x,.X,.Y] λc l o1=>
 br (Bf 0 c)
 (dk [.I,.N,.E] [.l l,.o o1] λn1=>
 Δ ((iv n1,[])))
 (br (Bf 1 c)
 (Ea l<|
 CD o1<|
 Δ ((iv 0,[])))
 (Θ)):=by kernel_rfl
theorem YZ(t0 t1:Rw)(t5:Int):Dl A D Al Sb .n 228 0 (AL Vz 0).fst (AL Vz 0).snd [Φ t0,Φ t1,iv t5] [] =
 br (A.le 0 t5)
 (Ad D (φ 187) [Φ t0,iv t5] [] [.j .u64,.E] λn=>
 Ad D (φ 187) [Φ t1,iv t5] [] [.j .u64,.E] λn1=>
 br (A.lt n n1)
 (Δ ((Aqm [bv U,iv (-1)],[])))
 (Ad D (φ 187) [Φ t0,iv t5] [] [.j .u64,.E] λn2=>
 Ad D (φ 187) [Φ t1,iv t5] [] [.j .u64,.E] λn3=>
 br (A.lt n3 n2)
 (Δ ((Aqm [bv U,iv 1],[])))
 (AG D (Aqn 228 0) [Φ t0,Φ t1,iv (A.sub δ t5 1)] [] λr4 o4=>
 AF 0 [] (AH.mk [] 0 Θ) [] r4 o4)))
 (Δ ((Aqm [iv 0],[]))):=by kernel_rfl
theorem AnJ(x0 x1:Rw):BZ A D Al R0 .n 129 Vm [Φ x0,Φ x1] [] =
 Ad D (Aqn 129 0) [Φ x0,Φ x1,κ 0 0 0 1,AqC (Value.int ξ 0),iv 0] [Ω [] U U] [.t,.C,.x,.X,.Y] λc l o=>
 br (Bf 1 c)
 (dk [.C,.q 1 1,.N,.D,.R,.X,.E] [.l l,.o o] λn cs1=>
 br ((0+n*1).ble cs1.length) (AG D (φ 149) [Φ (Bl n 1 (Aqj (n*1) cs1))] [] λr1 o1=>
 K9 r1 λxs=>
 CD o1<|
 Δ ((Φ xs,[]))) Θ)
 (Θ):=by kernel_rfl
theorem YI(t0 t1:Rw)(n5:Nat)(c5:List AV)(t6 t7:Int):Dl A D Al R0 (.b (.b (.b .n (.b .n (.f .n))) .n) .n) 129 0 (AL Vm 0).fst (AL Vm 0).snd [Φ t0,Φ t1,κ 0 0 n5 1,AqC (Value.int ξ t6),iv t7] [{ cells:=c5,st:=U,ex:=U }] =
 Ad D (φ 186) [Φ t0,Φ t1] [] [.i,.E] λn=>
 br (A.le t7 n)
 (Ad D (φ 187) [Φ t0,iv t7] [] [.j .u64,.E] λn1=>
 Ad D (φ 187) [Φ t1,iv t7] [] [.j .u64,.E] λn2=>
 br (A.eq 4294967296 0)
 (Θ)
 (br (Bc (n5+1) 4) (br ((0+n5*1).ble c5.length) (br (A.eq 4294967296 0) Θ (AG D (Aqn 129 0) [Φ t0,Φ t1,κ 0 0 (n5+1) 1,AqC (Value.int ξ (A.quo ξ (A.add ξ (A.add ξ n1 n2) t6) 4294967296)),iv (A.add δ t7 1)] [Ω (Aqp 0 (Aqj (0+n5*1) c5)++[AqC (Value.int γ (A.conv γ (A.rem ξ (A.add ξ (A.add ξ n1 n2) t6) 4294967296)))]) U U] λr3 o3=>
 AF 1 [2] (AH.mk [(2,Ω (Aqp 0 (Aqj (0+n5*1) c5)++[AqC (Value.int γ (A.conv γ (A.rem ξ (A.add ξ (A.add ξ n1 n2) t6) 4294967296)))]) U U),(1,Ω [AqC (Value.int γ (A.conv γ (A.rem ξ (A.add ξ (A.add ξ n1 n2) t6) 4294967296)))] U U)] 3 Θ) [0] r3 o3)) Θ) Θ))
 (Δ ((Aqm [iv 0,κ 1 0 n5 1],[BO.del,Aqu (Ω c5 U U)]))):=by kernel_rfl
theorem An3(x0 x1:Rw):BZ A D Al R5 .n 182 Vr [Φ x0,Φ x1] [] =
 Ad D (φ 228) [Φ x0,Φ x1] [] [.i,.E] λn=>
 br (A.lt n 0)
 (Δ ((Aqm [Φ [],bv Ξ],[])))
 (Ad D (Aqn 182 0) [Φ x0,Φ x1,κ 0 0 0 1,AqC (Value.int ξ 0),iv 0] [Ω [] U U] [.t,.C,.x,.X,.Y] λc l o1=>
 br (Bf 1 c)
 (dk [.C,.q 1 1,.N,.D,.R,.X,.E] [.l l,.o o1] λn1 cs1=>
 br ((0+n1*1).ble cs1.length) (AG D (φ 149) [Φ (Bl n1 1 (Aqj (n1*1) cs1))] [] λr2 o2=>
 K9 r2 λxs=>
 CD o2<|
 Δ ((Aqm [Φ xs,bv U],[]))) Θ)
 (Θ)):=by kernel_rfl
theorem YP(t0 t1:Rw)(n6:Nat)(c6:List AV)(t7 t8:Int):Dl A D Al R5 (.b (.b (.b .n (.b .n (.f .n))) .n) .n) 182 0 (AL Vr 0).fst (AL Vr 0).snd [Φ t0,Φ t1,κ 0 0 n6 1,AqC (Value.int ξ t7),iv t8] [{ cells:=c6,st:=U,ex:=U }] =
 Ad D (φ 186) [Φ t0,Φ t1] [] [.i,.E] λn=>
 br (A.lt t8 n)
 (Ad D (φ 187) [Φ t0,iv t8] [] [.j .u64,.E] λn1=>
 Ad D (φ 187) [Φ t1,iv t8] [] [.j .u64,.E] λn2=>
 br (A.eq 4294967296 0)
 (Θ)
 (br (Bc (n6+1) 4) (br ((0+n6*1).ble c6.length) (br (A.eq 4294967296 0) Θ (AG D (Aqn 182 0) [Φ t0,Φ t1,κ 0 0 (n6+1) 1,AqC (Value.int ξ (A.sub ξ 1 (A.quo ξ (A.sub ξ (A.sub ξ (A.add ξ n1 4294967296) n2) t7) 4294967296))),iv (A.add δ t8 1)] [Ω (Aqp 0 (Aqj (0+n6*1) c6)++[AqC (Value.int γ (A.conv γ (A.rem ξ (A.sub ξ (A.sub ξ (A.add ξ n1 4294967296) n2) t7) 4294967296)))]) U U] λr3 o3=>
 AF 1 [2] (AH.mk [(2,Ω (Aqp 0 (Aqj (0+n6*1) c6)++[AqC (Value.int γ (A.conv γ (A.rem ξ (A.sub ξ (A.sub ξ (A.add ξ n1 4294967296) n2) t7) 4294967296)))]) U U),(1,Ω [AqC (Value.int γ (A.conv γ (A.rem ξ (A.sub ξ (A.sub ξ (A.add ξ n1 4294967296) n2) t7) 4294967296)))] U U)] 3 Θ) [0] r3 o3)) Θ) Θ))
 (Δ ((Aqm [iv 0,κ 1 0 n6 1],[BO.del,Aqu (Ω c6 U U)]))):=by kernel_rfl
theorem Aol(x0:Rw)(x1:Int):BZ A D Al Se .n 229 VA [Φ x0,AqC (Value.int ξ x1)] [] =
 Ad D (Aqn 229 0) [Φ x0,AqC (Value.int ξ x1),κ 0 0 0 1,AqC (Value.int ξ 0),iv 0] [Ω [] U U] [.t,.C,.x,.X,.Y] λc l o=>
 br (Bf 1 c)
 (dk [.C,.q 1 1,.J .u64,.N,.D,.R,.X,.E] [.l l,.o o] λn n1 cs1=>
 br (Bc (n+1) 4) (br ((0+n*1).ble cs1.length) (br ((0+(n+1)*1).ble (Aqp 0 (Aqj (0+n*1) cs1)++[AqC (Value.int γ (A.conv γ n1))]).length) (AG D (φ 149) [Φ (Bl (n+1) 1 (Aqj ((n+1)*1) (Aqp 0 (Aqp 0 (Aqj (0+n*1) cs1)++[AqC (Value.int γ (A.conv γ n1))]))))] [] λr1 o1=>
 K9 r1 λxs=>
 CD o1<|
 Δ ((Φ xs,[]))) Θ) Θ) Θ)
 (Θ):=by kernel_rfl
theorem Y0(t0:Rw)(t1:Int)(n5:Nat)(c5:List AV)(t6 t7:Int):Dl A D Al Se (.b (.b (.b .n (.b .n (.f .n))) .n) .n) 229 0 (AL VA 0).fst (AL VA 0).snd [Φ t0,AqC (Value.int ξ t1),κ 0 0 n5 1,AqC (Value.int ξ t6),iv t7] [{ cells:=c5,st:=U,ex:=U }] =
 br (A.lt t7 ↑(AP t0))
 (Ad D (φ 187) [Φ t0,iv t7] [] [.j .u64,.E] λn=>
 br (A.eq 4294967296 0)
 (Θ)
 (br (Bc (n5+1) 4) (br ((0+n5*1).ble c5.length) (br (A.eq 4294967296 0) Θ (AG D (Aqn 229 0) [Φ t0,AqC (Value.int ξ t1),κ 0 0 (n5+1) 1,AqC (Value.int ξ (A.quo ξ (A.add ξ (A.mul ξ n t1) t6) 4294967296)),iv (A.add δ t7 1)] [Ω (Aqp 0 (Aqj (0+n5*1) c5)++[AqC (Value.int γ (A.conv γ (A.rem ξ (A.add ξ (A.mul ξ n t1) t6) 4294967296)))]) U U] λr1 o1=>
 AF 1 [2] (AH.mk [(2,Ω (Aqp 0 (Aqj (0+n5*1) c5)++[AqC (Value.int γ (A.conv γ (A.rem ξ (A.add ξ (A.mul ξ n t1) t6) 4294967296)))]) U U),(1,Ω [AqC (Value.int γ (A.conv γ (A.rem ξ (A.add ξ (A.mul ξ n t1) t6) 4294967296)))] U U)] 3 Θ) [0] r1 o1)) Θ) Θ))
 (Δ ((Aqm [iv 0,κ 1 0 n5 1,AqC (Value.int ξ t6)],[BO.del,Aqu (Ω c5 U U)]))):=by kernel_rfl
theorem An4(x0 x1:Rw):BZ A D Al Lr .n 183 O7 [Φ x0,Φ x1] [] =
 Ad D (Aqn 183 0) [Φ x0,Φ x1,Φ [],iv (A.sub δ (↑(AP x1)) 1)] [] [.t,.C,.x,.X,.Y] λc l o=>
 br (Bf 1 c)
 (dk [.L,.N,.E] [.l l,.o o] λxs=>
 Ad D (φ 149) [Φ xs] [] [.l,.E] λxs1=>
 Δ ((Φ xs1,[])))
 (Θ):=by kernel_rfl
theorem YQ(t0 t1 t5:Rw)(t6:Int):Dl A D Al Lr .n 183 0 (AL O7 0).fst (AL O7 0).snd [Φ t0,Φ t1,Φ t5,iv t6] [] =
 br (A.le 0 t6)
 (Ad D (Aqn 183 1) [Φ t0,Φ t1,Φ t5,iv t6,κ 0 0 1 1,iv 0] [Ω [AqC (Value.int γ 0)] U U] [.t,.C,.x,.X,.Y] λc l o=>
 br (Bf 3 c)
 (dk [.L,.L,.I,.C,.q 1 1,.N,.D,.R,.X,.E] [.l l,.o o] λxs xs1 n n1 cs1=>
 unI n λi=>
 Bh xs1 i λcs2=>
 dk [.J .u32,.N] [.l cs2] λn2=>
 Ad D (φ 229) [Φ xs,AqC (Value.int ξ (A.conv ξ n2))] [] [.l,.E] λxs2=>
 br ((0+n1*1).ble cs1.length) (AG D (φ 129) [Φ (Bl n1 1 (Aqj (n1*1) cs1)),Φ xs2] [] λr2 o2=>
 K9 r2 λxs3=>
 CD o2<|
 AG D (Aqn 183 0) [Φ xs,Φ xs1,Φ xs3,iv (A.sub δ n 1)] [] λr3 o3=>
 AF 0 [] (AH.mk [(1,Ω cs1 Ξ U)] 2 Θ) [] r3 o3) Θ)
 (Θ))
 (Δ ((Aqm [iv 0,Φ t5],[]))):=by kernel_rfl
theorem YR(t0 t1 t5:Rw)(t6:Int)(n7:Nat)(c7:List AV)(t8:Int):Dl A D Al Lr .n 183 1 (AL O7 1).fst (AL O7 1).snd [Φ t0,Φ t1,Φ t5,iv t6,κ 0 0 n7 1,iv t8] [{ cells:=c7,st:=U,ex:=U }] =
 br (A.lt t8 ↑(AP t5))
 (unI t8 λi=>
 Bh t5 i λcs=>
 dk [.J .u32,.N] [.l cs] λn=>
 br (Bc (n7+1) 4) (br ((0+n7*1).ble c7.length) (AG D (Aqn 183 1) [Φ t0,Φ t1,Φ t5,iv t6,κ 0 0 (n7+1) 1,iv (A.add δ t8 1)] [Ω (Aqp 0 (Aqj (0+n7*1) c7)++[AqC (Value.int γ n)]) U U] λr o=>
 AF 1 [2] (AH.mk [(2,Ω (Aqp 0 (Aqj (0+n7*1) c7)++[AqC (Value.int γ n)]) U U),(1,Ω [AqC (Value.int γ n)] U U)] 3 Θ) [0] r o) Θ) Θ)
 (Δ ((Aqm [iv 2,Φ t0,Φ t1,iv t6,κ 1 0 n7 1],[BO.del,Aqu (Ω c7 U U)]))):=by kernel_rfl
theorem Aoi(x0 x1:Rw):BZ A D Al Nc .n 210 Vy [Φ x0,Φ x1] [] =
 br (A.eq ↑(AP x0) ↑(AP x1))
 (Ad D (Aqn 210 0) [Φ x0,Φ x1,iv 0] [] [.t,.C,.x,.X,.Y] λc l o=>
 br (Bf 0 c)
 (dk [.B,.N,.E] [.l l,.o o] λb=>
 Δ ((bv b,[])))
 (br (Bf 1 c)
 (Ea l<|
 CD o<|
 Δ ((bv U,[])))
 (Θ)))
 (Δ ((bv Ξ,[]))):=by kernel_rfl
theorem P6(t0 t1:Rw)(t5:Int):Dl A D Al Nc .n 210 0 (AL Vy 0).fst (AL Vy 0).snd [Φ t0,Φ t1,iv t5] [] =
 br (A.lt t5 ↑(AP t0))
 (unI t5 λi=>
 Bh t0 i λcs=>
 dk [.J .u32,.N] [.l cs] λn=>
 unI t5 λi1=>
 Bh t1 i1 λcs1=>
 dk [.J .u32,.N] [.l cs1] λn1=>
 br (A.eq n n1)
 (AG D (Aqn 210 0) [Φ t0,Φ t1,iv (A.add δ t5 1)] [] λr o=>
 AF 0 [] (AH.mk [] 0 Θ) [] r o)
 (Δ ((Aqm [bv U,bv Ξ],[]))))
 (Δ ((Aqm [iv 0],[]))):=by kernel_rfl
end
section
open Go.RowKit
def Ah7:MFn:=Au [] 128
def Ahw:Hnt:=⟨[(149,(.ls,[]))],[],[]⟩
def AmD:MFn:=Au [] 75
def Al7:Hnt:=⟨[(128,(.agg Bb,[]))],[],[(4,[.bool]),(6,[.ls])]⟩
def Amz:MFn:=Au [] 56
def Al3:Hnt:=⟨[(128,(.agg Bb,[])),(129,(.ls,[]))],[],[]⟩
def AmC:MFn:=Au [] 69
def Al6:Hnt:=⟨[(149,(.ls,[]))],[],[(4,[.ls]),(9,[.bool])]⟩
def Aim:MFn:=Au [] 179
def AhL:Hnt:=⟨[(128,(.agg Bb,[]))],[],[(4,[.bool]),(7,[.ls])]⟩
def Ah2:MFn:=Au [] 122
def Zy:Hnt:=⟨[(69,(.int .i64,[])),(122,(.agg Bb,[])),(128,(.agg Bb,[])),(129,(.ls,[])),(182,(.tup [.ls,.bool],[]))],[],[(7,Bb),(11,Bb),(16,[.ls]),(18,[.ls]),(21,Bb),(25,Bb),(30,[.ls]),(32,[.ls]),(35,Bb),(38,Bb),(39,Bb),(43,[.ls]),(45,[.ls]),(54,[.ls]),(56,[.ls])]⟩
def Ah4:MFn:=Au [] 124
def Aht:Hnt:=⟨[(122,(.agg Bb,[])),(179,(.agg Bb,[]))],[],[(5,Bb),(6,Bb)]⟩
def Ah3:MFn:=Au [] 123
def Ahs:Hnt:=⟨[(69,(.int .i64,[])),(128,(.agg Bb,[])),(183,(.ls,[]))],[],[(5,Bb),(7,Bb),(12,[.ls]),(14,[.ls])]⟩
def Amy:MFn:=Au [] 53
def Al2:Hnt:=⟨[(69,(.int .i64,[])),(124,(.agg Bb,[]))],[],[(5,Bb),(6,Bb)]⟩
def Aif:MFn:=Au [] 152
def AhE:Hnt:=⟨[(210,(.bool,[]))],[],[(6,[.bool]),(8,[.bool]),(12,[.ls]),(14,[.ls])]⟩
def VZ:List (Nat × MFn):=[(128,Ah7),(75,AmD),(56,Amz),(69,AmC),(179,Aim),(122,Ah2),(124,Ah4),(123,Ah3),(53,Amy),(152,Aif)]
variable (A:Ar) (D:Orc)
theorem AnI(x0:Bool)(x1:Rw):BZ A D Al Ahw .n 128 Ah7 [bv x0,Φ x1] [] =
 Ad D (φ 149) [Φ x1] [] [.l,.E] λxs=>
 br (A.eq (↑(AP xs)) 0)
 (Δ ((ψ [bv Ξ,Φ []],[])))
 (Δ ((ψ [bv x0,Φ xs],[]))):=by kernel_rfl
theorem e75(x0_0:Bool)(x0_1:Rw):BZ A D Al Al7 .n 75 AmD [ψ [bv x0_0,Φ x0_1]] [] =
 Ad D (φ 128) [bv x0_0,Φ x0_1] [] [.a,.B,.L,.N,.E] λb xs=>
 Δ ((ψ [bv b,Φ xs],[])):=by kernel_rfl
theorem e56(x0:Int):BZ A D Al Al3 (.b (.b (.b .n (.f .n)) .n) (.b .n (.b .n (.f .n)))) 56 Amz [iv x0] [] =
 br (A.le 0 x0)
 (br (A.eq 4294967296 0)
 (Θ)
 (br (A.eq 4294967296 0) Θ (AG D (φ 128) [bv Ξ,Φ [[AqC (Value.int γ (A.conv γ (A.rem δ x0 4294967296)))],[AqC (Value.int γ (A.conv γ (A.quo δ x0 4294967296)))]]] [] λr o=>
 dk [.a,.B,.L,.N,.E] [.v r,.o o] λb xs=>
 Δ ((ψ [bv b,Φ xs],[])))))
 (br (A.eq 4294967296 0)
 (Θ)
 (br (A.eq 4294967296 0) Θ (AG D (φ 129) [Φ [[AqC (Value.int γ (A.conv γ (A.rem δ (A.sub δ 0 (A.add δ x0 1)) 4294967296)))],[AqC (Value.int γ (A.conv γ (A.quo δ (A.sub δ 0 (A.add δ x0 1)) 4294967296)))]],Φ [[AqC (Value.int γ 1)]]] [] λr o=>
 K9 r λxs=>
 CD o<|
 Ad D (φ 128) [bv U,Φ xs] [] [.a,.B,.L,.N,.E] λb xs1=>
 Δ ((ψ [bv b,Φ xs1],[]))))):=by kernel_rfl
theorem e69(x0_0:Bool)(x0_1:Rw):BZ A D Al Al6 .n 69 AmC [ψ [bv x0_0,Φ x0_1]] [] =
 Ad D (φ 149) [Φ x0_1] [] [.l,.E] λxs=>
 br (A.eq (↑(AP xs)) 0)
 (Δ ((iv 0,[])))
 (br x0_0
 (Δ ((iv (-1),[])))
 (Δ ((iv 1,[])))):=by kernel_rfl
theorem An2(x0_0:Bool)(x0_1:Rw):BZ A D Al AhL .n 179 Aim [ψ [bv x0_0,Φ x0_1]] [] =
 br (A.not x0_0)
 (Ad D (φ 128) [bv U,Φ x0_1] [] [.a,.B,.L,.N,.E] λb xs=>
 Δ ((ψ [bv b,Φ xs],[])))
 (Ad D (φ 128) [bv Ξ,Φ x0_1] [] [.a,.B,.L,.N,.E] λb xs=>
 Δ ((ψ [bv b,Φ xs],[]))):=by kernel_rfl
theorem AlG(x0_0:Bool)(x0_1:Rw)(x1_0:Bool)(x1_1:Rw):BZ A D Al Zy .n 122 Ah2 [ψ [bv x0_0,Φ x0_1],ψ [bv x1_0,Φ x1_1]] [] =
 Ad D (φ 69) [ψ [bv x0_0,Φ x0_1]] [] [.i,.E] λn=>
 br (A.lt n 0)
 (Ad D (φ 69) [ψ [bv x1_0,Φ x1_1]] [] [.i,.E] λn1=>
 br (A.lt n1 0)
 (Ad D (φ 129) [Φ x0_1,Φ x1_1] [] [.l,.E] λxs=>
 Ad D (φ 128) [bv U,Φ xs] [] [.a,.B,.L,.N,.E] λb xs1=>
 Δ ((ψ [bv b,Φ xs1],[])))
 (Ad D (φ 69) [ψ [bv x0_0,Φ x0_1]] [] [.i,.E] λn2=>
 br (A.le 0 n2)
 (Ad D (φ 69) [ψ [bv x1_0,Φ x1_1]] [] [.i,.E] λn3=>
 br (A.le 0 n3)
 (Ad D (φ 129) [Φ x0_1,Φ x1_1] [] [.l,.E] λxs=>
 Ad D (φ 128) [bv Ξ,Φ xs] [] [.a,.B,.L,.N,.E] λb xs1=>
 Δ ((ψ [bv b,Φ xs1],[])))
 (Ad D (φ 69) [ψ [bv x0_0,Φ x0_1]] [] [.i,.E] λn4=>
 br (A.lt n4 0)
 (Ad D (φ 122) [ψ [bv x1_0,Φ x1_1],ψ [bv x0_0,Φ x0_1]] [] [.a,.B,.L,.N,.E] λb xs=>
 Δ ((ψ [bv b,Φ xs],[])))
 (Ad D (φ 182) [Φ x0_1,Φ x1_1] [] [.t,.L,.B,.N,.E] λxs b=>
 br b
 (Ad D (φ 128) [bv Ξ,Φ xs] [] [.a,.B,.L,.N,.E] λb1 xs1=>
 Δ ((ψ [bv b1,Φ xs1],[])))
 (Ad D (φ 182) [Φ x1_1,Φ x0_1] [] [.t,.L,.B,.N,.E] λxs1 _=>
 Ad D (φ 128) [bv U,Φ xs1] [] [.a,.B,.L,.N,.E] λb2 xs2=>
 Δ ((ψ [bv b2,Φ xs2],[]))))))
 (Ad D (φ 69) [ψ [bv x0_0,Φ x0_1]] [] [.i,.E] λn3=>
 br (A.lt n3 0)
 (Ad D (φ 122) [ψ [bv x1_0,Φ x1_1],ψ [bv x0_0,Φ x0_1]] [] [.a,.B,.L,.N,.E] λb xs=>
 Δ ((ψ [bv b,Φ xs],[])))
 (Ad D (φ 182) [Φ x0_1,Φ x1_1] [] [.t,.L,.B,.N,.E] λxs b=>
 br b
 (Ad D (φ 128) [bv Ξ,Φ xs] [] [.a,.B,.L,.N,.E] λb1 xs1=>
 Δ ((ψ [bv b1,Φ xs1],[])))
 (Ad D (φ 182) [Φ x1_1,Φ x0_1] [] [.t,.L,.B,.N,.E] λxs1 _=>
 Ad D (φ 128) [bv U,Φ xs1] [] [.a,.B,.L,.N,.E] λb2 xs2=>
 Δ ((ψ [bv b2,Φ xs2],[])))))))
 (Ad D (φ 69) [ψ [bv x0_0,Φ x0_1]] [] [.i,.E] λn1=>
 br (A.le 0 n1)
 (Ad D (φ 69) [ψ [bv x1_0,Φ x1_1]] [] [.i,.E] λn2=>
 br (A.le 0 n2)
 (Ad D (φ 129) [Φ x0_1,Φ x1_1] [] [.l,.E] λxs=>
 Ad D (φ 128) [bv Ξ,Φ xs] [] [.a,.B,.L,.N,.E] λb xs1=>
 Δ ((ψ [bv b,Φ xs1],[])))
 (Ad D (φ 69) [ψ [bv x0_0,Φ x0_1]] [] [.i,.E] λn3=>
 br (A.lt n3 0)
 (Ad D (φ 122) [ψ [bv x1_0,Φ x1_1],ψ [bv x0_0,Φ x0_1]] [] [.a,.B,.L,.N,.E] λb xs=>
 Δ ((ψ [bv b,Φ xs],[])))
 (Ad D (φ 182) [Φ x0_1,Φ x1_1] [] [.t,.L,.B,.N,.E] λxs b=>
 br b
 (Ad D (φ 128) [bv Ξ,Φ xs] [] [.a,.B,.L,.N,.E] λb1 xs1=>
 Δ ((ψ [bv b1,Φ xs1],[])))
 (Ad D (φ 182) [Φ x1_1,Φ x0_1] [] [.t,.L,.B,.N,.E] λxs1 _=>
 Ad D (φ 128) [bv U,Φ xs1] [] [.a,.B,.L,.N,.E] λb2 xs2=>
 Δ ((ψ [bv b2,Φ xs2],[]))))))
 (Ad D (φ 69) [ψ [bv x0_0,Φ x0_1]] [] [.i,.E] λn2=>
 br (A.lt n2 0)
 (Ad D (φ 122) [ψ [bv x1_0,Φ x1_1],ψ [bv x0_0,Φ x0_1]] [] [.a,.B,.L,.N,.E] λb xs=>
 Δ ((ψ [bv b,Φ xs],[])))
 (Ad D (φ 182) [Φ x0_1,Φ x1_1] [] [.t,.L,.B,.N,.E] λxs b=>
 br b
 (Ad D (φ 128) [bv Ξ,Φ xs] [] [.a,.B,.L,.N,.E] λb1 xs1=>
 Δ ((ψ [bv b1,Φ xs1],[])))
 (Ad D (φ 182) [Φ x1_1,Φ x0_1] [] [.t,.L,.B,.N,.E] λxs1 _=>
 Ad D (φ 128) [bv U,Φ xs1] [] [.a,.B,.L,.N,.E] λb2 xs2=>
 Δ ((ψ [bv b2,Φ xs2],[])))))):=by kernel_rfl
theorem AnF(x0_0:Bool)(x0_1:Rw)(x1_0:Bool)(x1_1:Rw):BZ A D Al Aht .n 124 Ah4 [ψ [bv x0_0,Φ x0_1],ψ [bv x1_0,Φ x1_1]] [] =
 Ad D (φ 179) [ψ [bv x1_0,Φ x1_1]] [] [.a,.B,.L,.N,.E] λb xs=>
 Ad D (φ 122) [ψ [bv x0_0,Φ x0_1],ψ [bv b,Φ xs]] [] [.a,.B,.L,.N,.E] λb1 xs1=>
 Δ ((ψ [bv b1,Φ xs1],[])):=by kernel_rfl
theorem AnE(x0_0:Bool)(x0_1:Rw)(x1_0:Bool)(x1_1:Rw):BZ A D Al Ahs .n 123 Ah3 [ψ [bv x0_0,Φ x0_1],ψ [bv x1_0,Φ x1_1]] [] =
 Ad D (φ 69) [ψ [bv x0_0,Φ x0_1]] [] [.i,.E] λn=>
 Ad D (φ 69) [ψ [bv x1_0,Φ x1_1]] [] [.i,.E] λn1=>
 br (A.lt (A.mul δ n n1) 0)
 (Ad D (φ 183) [Φ x0_1,Φ x1_1] [] [.l,.E] λxs=>
 Ad D (φ 128) [bv U,Φ xs] [] [.a,.B,.L,.N,.E] λb xs1=>
 Δ ((ψ [bv b,Φ xs1],[])))
 (Ad D (φ 183) [Φ x0_1,Φ x1_1] [] [.l,.E] λxs=>
 Ad D (φ 128) [bv Ξ,Φ xs] [] [.a,.B,.L,.N,.E] λb xs1=>
 Δ ((ψ [bv b,Φ xs1],[]))):=by kernel_rfl
theorem e53(x0_0:Bool)(x0_1:Rw)(x1_0:Bool)(x1_1:Rw):BZ A D Al Al2 .n 53 Amy [ψ [bv x0_0,Φ x0_1],ψ [bv x1_0,Φ x1_1]] [] =
 Ad D (φ 124) [ψ [bv x0_0,Φ x0_1],ψ [bv x1_0,Φ x1_1]] [] [.a,.B,.L,.N,.E] λb xs=>
 Ad D (φ 69) [ψ [bv b,Φ xs]] [] [.i,.E] λn=>
 Δ ((iv n,[])):=by kernel_rfl
theorem AnU(x0_0:Bool)(x0_1:Rw)(x1_0:Bool)(x1_1:Rw):BZ A D Al AhE .n 152 Aif [ψ [bv x0_0,Φ x0_1],ψ [bv x1_0,Φ x1_1]] [] =
 br (A.beq x0_0 x1_0)
 (Ad D (φ 210) [Φ x0_1,Φ x1_1] [] [.b,.E] λb=>
 br b
 (Δ ((bv U,[])))
 (Δ ((bv Ξ,[]))))
 (Δ ((bv Ξ,[]))):=by kernel_rfl
end
section
open Go.RowKit
def AcI:MFn:=Au [⟨36,(mB 118),[],[2,4,5],[(1,((mB 48),([],[2])))]⟩] 77
def ZC:Hnt:=⟨[(122,(.agg Bb,[]))],[(0,[(1,([.ptr 1 0,.ptr 2 0],[.del,.box Bb,.box Bb]))])],[(10,[.ls]),(16,[.ls]),(18,BC),(20,[.int .i64]),(27,Bb),(29,[.ls]),(31,BC),(33,Bb),(35,Bb)]⟩
def AoP:MFn:=Au [⟨27,(mB 118),[],[2,4,5],[(1,((mB 48),([],[2])))]⟩] 87
def AoG:MFn:=Au [] 31
def AcE:MFn:=Au [⟨26,(mB 133),[],[],[(0,((mB 64),([],[]))),(1,([],([],[])))]⟩] 29
def Zz:Hnt:=⟨[],[(0,[(0,([.bool],[])),(1,([],[]))])],[(20,Bb),(22,[.ls])]⟩
def AoH:MFn:=Au [⟨65,(mB 38),[],[2],[(0,((mB 16),([],[2]))),(2,([],([],[2])))]⟩,⟨65,(mB 70),[],[2],[(0,((mB 16),([],[2]))),(4,([],([],[2])))]⟩] 37
def NZ:List (Nat × MFn):=[(77,AcI),(87,AoP),(31,AoG),(29,AcE),(37,AoH)]
variable (A:Ar) (D:Orc)
theorem e77(x0_0:Rw)(x0_1:Bool)(x0_2:Rw)(x1:Int):BZ A D Al ZC .n 77 AcI [ψ [Φ x0_0,bv x0_1,Φ x0_2],iv x1] [] =
 Ad D (Aqn 77 0) [iv x1,υ 0 0,υ 1 0,υ 2 0,iv 0] [bk [Φ x0_0,bv x0_1,Φ x0_2],bk [bv Ξ,Φ []],bk [bv Ξ,Φ []]] [.t,.C,.x,.X,.Y] λc l o=>
 br (Bf 1 c)
 (dk [.P 1 0,.P 2 0,.N,.D,.T,.B,.L,.N,.T,.B,.L,.N,.E] [.l l,.o o] λ_ _ b1 xs1=>
 Δ ((ψ [bv b1,Φ xs1],[])))
 (Θ):=by kernel_rfl
theorem Ahf(t1:Int)(b2_0:Rw)(b2_1:Bool)(b2_2:Rw)(b4_0:Bool)(b4_1:Rw)(b5_0:Bool)(b5_1:Rw)(t6:Int):Dl A D Al ZC .n 77 0 (AL AcI 0).fst (AL AcI 0).snd [iv t1,υ 0 0,υ 1 0,υ 2 0,iv t6] [bk [Φ b2_0,bv b2_1,Φ b2_2],bk [bv b4_0,Φ b4_1],bk [bv b5_0,Φ b5_1]] =
 br (A.lt t6 ↑(AP b2_0))
 (unI t6 λi=>
 Bh b2_0 i λcs=>
 dk [.I,.B,.L,.N] [.l cs] λn _ _=>
 br (A.eq n t1)
 (br (A.le 0 t1)
 (unI t6 λi1=>
 Bh b2_0 i1 λcs1=>
 dk [.I,.B,.L,.N] [.l cs1] λ_ b1 xs1=>
 Ad D (φ 122) [ψ [bv b5_0,Φ b5_1],ψ [bv b1,Φ xs1]] [] [.a,.B,.L,.N,.E] λb2 xs2=>
 AG D (Aqn 77 0) [iv t1,υ 0 0,υ 1 0,υ 2 0,iv (A.add δ t6 1)] [bk [Φ b2_0,bv b2_1,Φ b2_2],bk [bv b4_0,Φ b4_1],bk [bv b2,Φ xs2]] λr1 o1=>
 AF 3 [0,1,2] (AH.mk [(2,bk [bv b2,Φ xs2]),(1,bk [bv b4_0,Φ b4_1]),(0,bk [Φ b2_0,bv b2_1,Φ b2_2])] 3 Θ) [0,1,2] r1 o1)
 (AG D (Aqn 77 0) [iv t1,υ 0 0,υ 1 0,υ 2 0,iv (A.add δ t6 1)] [bk [Φ b2_0,bv b2_1,Φ b2_2],bk [bv b4_0,Φ b4_1],bk [bv b5_0,Φ b5_1]] λr o=>
 AF 3 [0,1,2] (AH.mk [(2,bk [bv b5_0,Φ b5_1]),(1,bk [bv b4_0,Φ b4_1]),(0,bk [Φ b2_0,bv b2_1,Φ b2_2])] 3 Θ) [0,1,2] r o))
 (AG D (Aqn 77 0) [iv t1,υ 0 0,υ 1 0,υ 2 0,iv (A.add δ t6 1)] [bk [Φ b2_0,bv b2_1,Φ b2_2],bk [bv b4_0,Φ b4_1],bk [bv b5_0,Φ b5_1]] λr o=>
 AF 3 [0,1,2] (AH.mk [(2,bk [bv b5_0,Φ b5_1]),(1,bk [bv b4_0,Φ b4_1]),(0,bk [Φ b2_0,bv b2_1,Φ b2_2])] 3 Θ) [0,1,2] r o))
 (Δ ((Aqm [iv 0,υ 1 0,υ 2 0],[BO.del,Aqu (bk [bv b4_0,Φ b4_1]),Aqu (bk [bv b5_0,Φ b5_1])]))):=by kernel_rfl
theorem e29(x0:Rw)(x1 x2:Int):BZ A D Al Zz .n 29 AcE [Φ x0,iv x1,iv x2] [] =
 br (A.lt x1 ↑(AP x0))
 (Δ ((bv Ξ,[])))
 (Ad D (Aqn 29 0) [Φ x0,iv x2,iv 0] [] [.t,.C,.x,.X,.Y] λc l o=>
 br (Bf 0 c)
 (dk [.B,.N,.E] [.l l,.o o] λb=>
 Δ ((bv b,[])))
 (br (Bf 1 c)
 (Ea l<|
 CD o<|
 Δ ((bv U,[])))
 (Θ))):=by kernel_rfl
theorem Aha(t0:Rw)(t2 t7:Int):Dl A D Al Zz .n 29 0 (AL AcE 0).fst (AL AcE 0).snd [Φ t0,iv t2,iv t7] [] =
 br (A.lt t7 ↑(AP t0))
 (unI t7 λi=>
 Bh t0 i λcs=>
 dk [.B,.L,.N] [.l cs] λ_ xs=>
 br (A.lt t2 ↑(AP xs))
 (Δ ((Aqm [bv U,bv Ξ],[])))
 (AG D (Aqn 29 0) [Φ t0,iv t2,iv (A.add δ t7 1)] [] λr o=>
 AF 0 [] (AH.mk [] 0 Θ) [] r o))
 (Δ ((Aqm [iv 0],[]))):=by kernel_rfl
end
section
open Go.RowKit
def Vl:MFn:=Au [⟨49,(mB 227),[(5,1)],[],[(1,((mB 98),([],[])))]⟩] 121
def RZ:Hnt:=⟨[],[(0,[(1,([.int .i64,.sl 1 1,.bool],[.del,.row U]))])],[(20,[.int .i64]),(21,[.int .i64]),(31,[.int .i64]),(32,[.int .i64]),(38,[.int .i64]),(39,[.int .i64])]⟩
def AcH:MFn:=Au [⟨29,(mB 26),[],[1,3],[(1,((mB 8),([],[1])))]⟩] 76
def ZB:Hnt:=⟨[(69,(.int .i64,[])),(77,(.agg Bb,[])),(121,(.ls,[]))],[(0,[(1,([.ls],[.del]))])],[(9,[.ls]),(15,[.ls]),(17,BC),(19,[.int .i64]),(20,CH)]⟩
def AoD:MFn:=Au [⟨35,(mB 62),[(1000003,3)],[1,2],[(1,((mB 12),([],[1])))]⟩] 20
def Amu:MFn:=Au [⟨36,(mB 99),[(5,3)],[],[(1,((mB 34),([],[])))]⟩,⟨36,(mB 162),[(5,3)],[],[(3,((mB 32),([],[])))]⟩] 211
def Amt:MFn:=Au [] 153
def AoL:MFn:=Au [⟨41,(mB 124),[(1000005,3)],[2,3,4],[(1,((mB 48),([],[2,3])))]⟩] 73
def AoO:MFn:=Au [] 81
def AoN:MFn:=Au [] 80
def AoM:MFn:=Au [⟨57,(mB 44),[],[2,3],[(0,((mB 16),([],[2,3]))),(1,([],([],[2,3])))]⟩] 78
def PA:List (Nat × MFn):=[(121,Vl),(76,AcH),(20,AoD),(211,Amu),(153,Amt),(73,AoL),(81,AoO),(80,AoN),(78,AoM)]
variable (A:Ar) (D:Orc)
theorem AnD(x0:Rw)(x1:Int):BZ A D Al RZ .n 121 Vl [Φ x0,iv x1] [] =
 Ad D (Aqn 121 0) [Φ x0,iv x1,κ 0 0 0 1,bv Ξ,iv 0] [Ω [] U U] [.t,.C,.x,.X,.Y] λc l o=>
 br (Bf 1 c)
 (dk [.I,.C,.q 1 1,.B,.N,.D,.R,.X,.E] [.l l,.o o] λn n1 b cs1=>
 br (A.not b)
 (br (Bc (n1+1) 8) (br ((0+n1*1).ble cs1.length) (br ((0+(n1+1)*1).ble (Aqp 0 (Aqj (0+n1*1) cs1)++[iv n]).length) (Δ ((Φ (Bl (n1+1) 1 (Aqj ((n1+1)*1) (Aqp 0 (Aqp 0 (Aqj (0+n1*1) cs1)++[iv n])))),[]))) Θ) Θ) Θ)
 (br ((0+n1*1).ble cs1.length) (Δ ((Φ (Bl n1 1 (Aqj (n1*1) cs1)),[]))) Θ))
 (Θ):=by kernel_rfl
theorem YH(t0:Rw)(t1:Int)(n5:Nat)(c5:List AV)(t6:Bool)(t7:Int):Dl A D Al RZ .n 121 0 (AL Vl 0).fst (AL Vl 0).snd [Φ t0,iv t1,κ 0 0 n5 1,bv t6,iv t7] [{ cells:=c5,st:=U,ex:=U }] =
 br (A.lt t7 ↑(AP t0))
 (br (A.not t6)
 (unI t7 λi=>
 Bh t0 i λcs=>
 dk [.I,.N] [.l cs] λn=>
 br (A.le t1 n)
 (br (Bc (n5+1) 8) (br ((0+n5*1).ble c5.length) (unI t7 λi1=>
 Bh t0 i1 λcs1=>
 dk [.I,.N] [.l cs1] λn1=>
 br (A.eq n1 t1)
 (AG D (Aqn 121 0) [Φ t0,iv t1,κ 0 0 (n5+1) 1,bv U,iv (A.add δ t7 1)] [Ω (Aqp 0 (Aqj (0+n5*1) c5)++[iv t1]) U U] λr o=>
 AF 1 [2] (AH.mk [(2,Ω (Aqp 0 (Aqj (0+n5*1) c5)++[iv t1]) U U),(1,Ω [iv t1] U U)] 3 Θ) [0] r o)
 (unI t7 λi2=>
 Bh t0 i2 λcs2=>
 dk [.I,.N] [.l cs2] λn2=>
 br (Bc (n5+1+1) 8) (br ((0+(n5+1)*1).ble (Aqp 0 (Aqj (0+n5*1) c5)++[iv t1]).length) (AG D (Aqn 121 0) [Φ t0,iv t1,κ 0 0 (n5+1+1) 1,bv U,iv (A.add δ t7 1)] [Ω (Aqp 0 (Aqj (0+(n5+1)*1) (Aqp 0 (Aqj (0+n5*1) c5)++[iv t1]))++[iv n2]) U U] λr o=>
 AF 1 [4] (AH.mk [(4,Ω (Aqp 0 (Aqj (0+(n5+1)*1) (Aqp 0 (Aqj (0+n5*1) c5)++[iv t1]))++[iv n2]) U U),(3,Ω [iv n2] U U),(1,Ω [iv t1] U U)] 5 Θ) [0] r o) Θ) Θ)) Θ) Θ)
 (unI t7 λi1=>
 Bh t0 i1 λcs1=>
 dk [.I,.N] [.l cs1] λn1=>
 br (A.eq n1 t1)
 (AG D (Aqn 121 0) [Φ t0,iv t1,κ 0 0 n5 1,bv t6,iv (A.add δ t7 1)] [Ω c5 U U] λr o=>
 AF 1 [0] (AH.mk [(0,Ω c5 U U)] 1 Θ) [] r o)
 (unI t7 λi2=>
 Bh t0 i2 λcs2=>
 dk [.I,.N] [.l cs2] λn2=>
 br (Bc (n5+1) 8) (br ((0+n5*1).ble c5.length) (AG D (Aqn 121 0) [Φ t0,iv t1,κ 0 0 (n5+1) 1,bv t6,iv (A.add δ t7 1)] [Ω (Aqp 0 (Aqj (0+n5*1) c5)++[iv n2]) U U] λr o=>
 AF 1 [2] (AH.mk [(2,Ω (Aqp 0 (Aqj (0+n5*1) c5)++[iv n2]) U U),(1,Ω [iv n2] U U)] 3 Θ) [0] r o) Θ) Θ)))
 (unI t7 λi=>
 Bh t0 i λcs=>
 dk [.I,.N] [.l cs] λn=>
 br (A.eq n t1)
 (AG D (Aqn 121 0) [Φ t0,iv t1,κ 0 0 n5 1,bv t6,iv (A.add δ t7 1)] [Ω c5 U U] λr o=>
 AF 1 [0] (AH.mk [(0,Ω c5 U U)] 1 Θ) [] r o)
 (unI t7 λi1=>
 Bh t0 i1 λcs1=>
 dk [.I,.N] [.l cs1] λn1=>
 br (Bc (n5+1) 8) (br ((0+n5*1).ble c5.length) (AG D (Aqn 121 0) [Φ t0,iv t1,κ 0 0 (n5+1) 1,bv t6,iv (A.add δ t7 1)] [Ω (Aqp 0 (Aqj (0+n5*1) c5)++[iv n1]) U U] λr o=>
 AF 1 [2] (AH.mk [(2,Ω (Aqp 0 (Aqj (0+n5*1) c5)++[iv n1]) U U),(1,Ω [iv n1] U U)] 3 Θ) [0] r o) Θ) Θ)))
 (Δ ((Aqm [iv 0,iv t1,κ 1 0 n5 1,bv t6],[BO.del,Aqu (Ω c5 U U)]))):=by kernel_rfl
theorem e76(x0_0:Rw)(x0_1:Bool)(x0_2:Rw):BZ A D Al ZB .n 76 AcH [ψ [Φ x0_0,bv x0_1,Φ x0_2]] [] =
 Ad D (Aqn 76 0) [υ 0 0,Φ [],iv 0] [bk [Φ x0_0,bv x0_1,Φ x0_2]] [.t,.C,.x,.X,.Y] λc l o=>
 br (Bf 1 c)
 (dk [.L,.N,.D,.E] [.l l,.o o] λxs=>
 Δ ((Φ xs,[])))
 (Θ):=by kernel_rfl
theorem Ahe(b1_0:Rw)(b1_1:Bool)(b1_2 t3:Rw)(t4:Int):Dl A D Al ZB .n 76 0 (AL AcH 0).fst (AL AcH 0).snd [υ 0 0,Φ t3,iv t4] [bk [Φ b1_0,bv b1_1,Φ b1_2]] =
 br (A.lt t4 ↑(AP b1_0))
 (unI t4 λi=>
 Bh b1_0 i λcs=>
 dk [.I,.B,.L,.N] [.l cs] λn _ _=>
 Ad D (φ 77) [ψ [Φ b1_0,bv b1_1,Φ b1_2],iv n] [] [.a,.B,.L,.N,.E] λb1 xs1=>
 Ad D (φ 69) [ψ [bv b1,Φ xs1]] [] [.i,.E] λn1=>
 br (A.eq n1 0)
 (AG D (Aqn 76 0) [υ 0 0,Φ t3,iv (A.add δ t4 1)] [bk [Φ b1_0,bv b1_1,Φ b1_2]] λr2 o2=>
 AF 1 [0] (AH.mk [(0,bk [Φ b1_0,bv b1_1,Φ b1_2])] 1 Θ) [0] r2 o2)
 (Ad D (φ 121) [Φ t3,iv n] [] [.l,.E] λxs2=>
 AG D (Aqn 76 0) [υ 0 0,Φ xs2,iv (A.add δ t4 1)] [bk [Φ b1_0,bv b1_1,Φ b1_2]] λr3 o3=>
 AF 1 [0] (AH.mk [(0,bk [Φ b1_0,bv b1_1,Φ b1_2])] 1 Θ) [0] r3 o3))
 (Δ ((Aqm [iv 0,Φ t3],[BO.del]))):=by kernel_rfl
end
section
open Go.RowKit
def Ah1:MFn:=Au [] 111
def Ahr:Hnt:=⟨[],[],[(4,[.int .i64]),(8,[.int .i64]),(12,[.ls]),(14,[.int .i64]),(18,[.ls]),(23,[.ls])]⟩
variable (A:Ar) (D:Orc)
theorem AnC(x0_0:Int)(x0_1:Rw)(x0_2:Bool)(x0_3:Rw)(x0_4:Bool)(x0_5:Rw):BZ A D Al Ahr .n 111 Ah1 [ψ [iv x0_0,Φ x0_1,bv x0_2,Φ x0_3,bv x0_4,Φ x0_5]] [] =
 br (A.eq x0_0 4)
 (Δ ((Φ x0_5,[])))
 (br (A.eq x0_0 5)
 (Δ ((Φ x0_5,[])))
 (br (A.eq x0_0 3)
 (br (A.lt 0 ↑(AP x0_5))
 (br (Nm 0 1 (AP x0_5)) (br (E4 6 x0_5) (Δ ((Φ (GR (Hq x0_5 1) 0),[]))) Θ) Θ)
 (Δ ((Φ [],[]))))
 (Δ ((Φ [],[]))))):=by kernel_rfl
end
open Go.RowKit
def S0:List (Nat × MFn):=[(111,Ah1)]
section
open Go.RowKit
def AcK:MFn:=Au [⟨32,(mB 226),[],[],[(1,((mB 32),([],[])))]⟩] 99
def ZE:Hnt:=⟨[(99,(.int .i64,[])),(111,(.ls,[]))],[(0,[(1,([.int .i64],[]))])],[(8,Bg),(24,Bg),(25,Bg)]⟩
def Vk:MFn:=Au [⟨33,(mB 98),[],[],[(0,((mB 16),([],[]))),(1,([],([],[])))]⟩] 100
def RY:Hnt:=⟨[(16,(.bool,[])),(100,(.bool,[])),(111,(.ls,[]))],[(0,[(0,([.bool],[])),(1,([],[]))])],[(8,[.int .i64]),(12,GG),(18,Bg),(28,Bg),(29,Bg)]⟩
def Amx:MFn:=Au [] 35
def Al1:Hnt:=⟨[(99,(.int .i64,[])),(100,(.bool,[]))],[],[(7,Bg),(12,Bg)]⟩
def VW:List (Nat × MFn):=[(99,AcK),(100,Vk),(35,Amx)]
variable (A:Ar) (D:Orc)
theorem e99(x0_0:Int)(x0_1:Rw)(x0_2:Bool)(x0_3:Rw)(x0_4:Bool)(x0_5:Rw)(x1:Int):BZ A D Al ZE .n 99 AcK [ψ [iv x0_0,Φ x0_1,bv x0_2,Φ x0_3,bv x0_4,Φ x0_5],iv x1] [] =
 Ad D (φ 111) [ψ [iv x0_0,Φ x0_1,bv x0_2,Φ x0_3,bv x0_4,Φ x0_5]] [] [.l,.E] λxs=>
 Ad D (Aqn 99 0) [iv x1,iv 1,Φ xs,iv 0] [] [.t,.C,.x,.X,.Y] λc l o1=>
 br (Bf 1 c)
 (dk [.I,.N,.E] [.l l,.o o1] λn=>
 Δ ((iv n,[])))
 (Θ):=by kernel_rfl
theorem Ahh(t1 t5:Int)(t6:Rw)(t7:Int):Dl A D Al ZE .n 99 0 (AL AcK 0).fst (AL AcK 0).snd [iv t1,iv t5,Φ t6,iv t7] [] =
 br (A.lt t7 ↑(AP t6))
 (br (A.le t5 t1)
 (unI t7 λi=>
 Bh t6 i λcs=>
 dk [.I,.L,.B,.L,.B,.L,.N] [.l cs] λn xs b xs1 b1 xs2=>
 Ad D (φ 99) [ψ [iv n,Φ xs,bv b,Φ xs1,bv b1,Φ xs2],iv (A.sub δ t1 t5)] [] [.i,.E] λn1=>
 AG D (Aqn 99 0) [iv t1,iv (A.add δ t5 n1),Φ t6,iv (A.add δ t7 1)] [] λr1 o1=>
 AF 0 [] (AH.mk [] 0 Θ) [] r1 o1)
 (Δ ((Aqm [iv 0,iv t5],[]))))
 (Δ ((Aqm [iv 0,iv t5],[]))):=by kernel_rfl
theorem Anx(x0_0:Int)(x0_1:Rw)(x0_2:Bool)(x0_3:Rw)(x0_4:Bool)(x0_5:Rw)(x1:Int):BZ A D Al RY .n 100 Vk [ψ [iv x0_0,Φ x0_1,bv x0_2,Φ x0_3,bv x0_4,Φ x0_5],iv x1] [] =
 br (A.eq x0_0 2)
 (Ad D (φ 16) [Φ [[Φ x0_1,bv x0_2,Φ x0_3,bv x0_4]],iv 1,iv x1] [] [.b,.E] λb=>
 br b
 (Ad D (φ 111) [ψ [iv x0_0,Φ x0_1,bv x0_2,Φ x0_3,bv x0_4,Φ x0_5]] [] [.l,.E] λxs=>
 Ad D (Aqn 100 0) [iv x1,Φ xs,iv 0] [] [.t,.C,.x,.X,.Y] λc l o2=>
 br (Bf 0 c)
 (dk [.B,.N,.E] [.l l,.o o2] λb1=>
 Δ ((bv b1,[])))
 (br (Bf 1 c)
 (Ea l<|
 CD o2<|
 Δ ((bv U,[])))
 (Θ)))
 (Δ ((bv Ξ,[]))))
 (Ad D (φ 111) [ψ [iv x0_0,Φ x0_1,bv x0_2,Φ x0_3,bv x0_4,Φ x0_5]] [] [.l,.E] λxs=>
 Ad D (Aqn 100 0) [iv x1,Φ xs,iv 0] [] [.t,.C,.x,.X,.Y] λc l o1=>
 br (Bf 0 c)
 (dk [.B,.N,.E] [.l l,.o o1] λb=>
 Δ ((bv b,[])))
 (br (Bf 1 c)
 (Ea l<|
 CD o1<|
 Δ ((bv U,[])))
 (Θ))):=by kernel_rfl
theorem YG(t1:Int)(t5:Rw)(t6:Int):Dl A D Al RY .n 100 0 (AL Vk 0).fst (AL Vk 0).snd [iv t1,Φ t5,iv t6] [] =
 br (A.lt t6 ↑(AP t5))
 (unI t6 λi=>
 Bh t5 i λcs=>
 dk [.I,.L,.B,.L,.B,.L,.N] [.l cs] λn xs b xs1 b1 xs2=>
 Ad D (φ 100) [ψ [iv n,Φ xs,bv b,Φ xs1,bv b1,Φ xs2],iv t1] [] [.b,.E] λb2=>
 br b2
 (AG D (Aqn 100 0) [iv t1,Φ t5,iv (A.add δ t6 1)] [] λr1 o1=>
 AF 0 [] (AH.mk [] 0 Θ) [] r1 o1)
 (Δ ((Aqm [bv U,bv Ξ],[]))))
 (Δ ((Aqm [iv 0],[]))):=by kernel_rfl
theorem e35(x0_0:Int)(x0_1:Rw)(x0_2:Bool)(x0_3:Rw)(x0_4:Bool)(x0_5:Rw)(x1 x2:Int):BZ A D Al Al1 .n 35 Amx [ψ [iv x0_0,Φ x0_1,bv x0_2,Φ x0_3,bv x0_4,Φ x0_5],iv x1,iv x2] [] =
 Ad D (φ 99) [ψ [iv x0_0,Φ x0_1,bv x0_2,Φ x0_3,bv x0_4,Φ x0_5],iv x1] [] [.i,.E] λn=>
 br (A.lt x1 n)
 (Δ ((bv Ξ,[])))
 (Ad D (φ 100) [ψ [iv x0_0,Φ x0_1,bv x0_2,Φ x0_3,bv x0_4,Φ x0_5],iv x2] [] [.b,.E] λb=>
 br b
 (Δ ((bv U,[])))
 (Δ ((bv Ξ,[])))):=by kernel_rfl
end
section
open Go.RowKit
def W1:MFn:=Au [⟨42,(mB 56),[],[3],[(1,((mB 8),([],[])))]⟩,⟨42,(mB 248),[],[3],[(3,((mB 56),([],[])))]⟩] 51
def Qb:Hnt:=⟨[(51,(.ls,[])),(76,(.ls,[])),(111,(.ls,[])),(121,(.ls,[]))],[(0,[(1,([.ls],[]))]),(1,[(3,([.ls,.ls,.int .i64],[]))])],[(10,[.int .i64]),(14,CH),(16,Bg),(26,Bg),(27,Bg),(38,[.int .i64]),(39,[.int .i64])]⟩
def QS:List (Nat × MFn):=[(51,W1)]
variable (A:Ar) (D:Orc)
theorem e51(x0_0:Int)(x0_1:Rw)(x0_2:Bool)(x0_3:Rw)(x0_4:Bool)(x0_5:Rw):BZ A D Al Qb .n 51 W1 [ψ [iv x0_0,Φ x0_1,bv x0_2,Φ x0_3,bv x0_4,Φ x0_5]] [] =
 br (A.eq x0_0 2)
 (Ad D (φ 76) [ψ [Φ x0_1,bv x0_2,Φ x0_3]] [] [.l,.E] λxs=>
 Δ ((Φ xs,[])))
 (Ad D (φ 111) [ψ [iv x0_0,Φ x0_1,bv x0_2,Φ x0_3,bv x0_4,Φ x0_5]] [] [.l,.E] λxs=>
 Ad D (Aqn 51 0) [Φ [],Φ xs,iv 0] [] [.t,.C,.x,.X,.Y] λc l o1=>
 br (Bf 1 c)
 (dk [.L,.N,.E] [.l l,.o o1] λxs1=>
 Δ ((Φ xs1,[])))
 (Θ)):=by kernel_rfl
theorem Ahb(t3 t4:Rw)(t5:Int):Dl A D Al Qb .n 51 0 (AL W1 0).fst (AL W1 0).snd [Φ t3,Φ t4,iv t5] [] =
 br (A.lt t5 ↑(AP t4))
 (unI t5 λi=>
 Bh t4 i λcs=>
 dk [.I,.L,.B,.L,.B,.L,.N] [.l cs] λn xs b xs1 b1 xs2=>
 Ad D (φ 51) [ψ [iv n,Φ xs,bv b,Φ xs1,bv b1,Φ xs2]] [] [.l,.E] λxs3=>
 Ad D (Aqn 51 1) [Φ t3,Φ t4,iv t5,Φ xs3,iv 0] [] [.t,.C,.x,.X,.Y] λc l6 o1=>
 br (Bf 3 c)
 (dk [.L,.L,.I,.N,.E] [.l l6,.o o1] λxs4 xs5 n1=>
 AG D (Aqn 51 0) [Φ xs4,Φ xs5,iv (A.add δ n1 1)] [] λr2 o2=>
 AF 0 [] (AH.mk [] 0 Θ) [] r2 o2)
 (Θ))
 (Δ ((Aqm [iv 0,Φ t3],[]))):=by kernel_rfl
theorem Ahc(t3 t4:Rw)(t5:Int)(t6:Rw)(t7:Int):Dl A D Al Qb .n 51 1 (AL W1 1).fst (AL W1 1).snd [Φ t3,Φ t4,iv t5,Φ t6,iv t7] [] =
 br (A.lt t7 ↑(AP t6))
 (unI t7 λi=>
 Bh t6 i λcs=>
 dk [.I,.N] [.l cs] λn=>
 Ad D (φ 121) [Φ t3,iv n] [] [.l,.E] λxs=>
 AG D (Aqn 51 1) [Φ xs,Φ t4,iv t5,Φ t6,iv (A.add δ t7 1)] [] λr1 o1=>
 AF 0 [] (AH.mk [] 0 Θ) [] r1 o1)
 (Δ ((Aqm [iv 2,Φ t3,Φ t4,iv t5],[]))):=by kernel_rfl
end
section
open Go.RowKit
def AcF:MFn:=Au [⟨39,(mB 14386),[],[4,5],[(1,((mB 48),([],[])))]⟩] 52
def Ua:Hnt:=⟨[(122,(.agg Bb,[])),(123,(.agg Bb,[]))],[(0,[(1,([.ptr 0 0,.ptr 1 0],[.box Bb,.box Bb]))])],[(9,Bb),(11,[.ls]),(15,BC),(16,BC),(18,[.int .i64]),(22,[.int .i64]),(27,Bb),(29,Bb),(32,[.int .i64]),(33,Bb),(34,Bb),(38,Bb)]⟩
def AoC:MFn:=Au [⟨86,(mB 246290604621852),[],[3,4],[(0,((mB 64),([],[3,4,45]))),(1,((mB 28),([],[45])))]⟩] 14
def QR:List (Nat × MFn):=[(52,AcF),(14,AoC)]
variable (A:Ar) (D:Orc)
theorem e52(x0_0:Rw)(x0_1:Bool)(x0_2 x1:Rw):BZ A D Al Ua .n 52 AcF [ψ [Φ x0_0,bv x0_1,Φ x0_2],Φ x1] [] =
 Ad D (Aqn 52 0) [Φ x1,υ 0 0,υ 1 0,Φ x0_0,iv ↑(AP x0_0),iv 0] [bk [bv Ξ,Φ []],bk [bv x0_1,Φ x0_2]] [.t,.C,.x,.X,.Y] λc l o=>
 br (Bf 1 c)
 (dk [.P 0 0,.P 1 0,.N,.T,.B,.L,.N,.T,.B,.L,.N,.E] [.l l,.o o] λ_ _ b1 xs1=>
 Δ ((ψ [bv b1,Φ xs1],[])))
 (Θ):=by kernel_rfl
theorem U8(t1:Rw)(b4_0:Bool)(b4_1:Rw)(b5_0:Bool)(b5_1 t11:Rw)(t12 t13:Int):Dl A D Al Ua .n 52 0 (AL AcF 0).fst (AL AcF 0).snd [Φ t1,υ 0 0,υ 1 0,Φ t11,iv t12,iv t13] [bk [bv b4_0,Φ b4_1],bk [bv b5_0,Φ b5_1]] =
 br (A.lt t13 t12)
 (unI t13 λi=>
 Bh t11 i λcs=>
 dk [.I,.B,.L,.N] [.l cs] λn b xs=>
 br (A.le 0 n)
 (br (A.lt n ↑(AP t1))
 (unI n λi1=>
 Bh t1 i1 λcs1=>
 dk [.B,.L,.N] [.l cs1] λb1 xs1=>
 Ad D (φ 123) [ψ [bv b,Φ xs],ψ [bv b1,Φ xs1]] [] [.a,.B,.L,.N,.E] λb2 xs2=>
 Ad D (φ 122) [ψ [bv b5_0,Φ b5_1],ψ [bv b2,Φ xs2]] [] [.a,.B,.L,.N,.E] λb3 xs3=>
 AG D (Aqn 52 0) [Φ t1,υ 0 0,υ 1 0,Φ t11,iv t12,iv (A.add δ t13 1)] [bk [bv b4_0,Φ b4_1],bk [bv b3,Φ xs3]] λr2 o2=>
 AF 2 [0,1] (AH.mk [(1,bk [bv b3,Φ xs3]),(0,bk [bv b4_0,Φ b4_1]),(2,bk [iv n,bv b,Φ xs])] 3 Θ) [0,1] r2 o2)
 (AG D (Aqn 52 0) [Φ t1,υ 0 0,υ 1 0,Φ t11,iv t12,iv (A.add δ t13 1)] [bk [bv b4_0,Φ b4_1],bk [bv b5_0,Φ b5_1]] λr o=>
 AF 2 [0,1] (AH.mk [(1,bk [bv b5_0,Φ b5_1]),(0,bk [bv b4_0,Φ b4_1]),(2,bk [iv n,bv b,Φ xs])] 3 Θ) [0,1] r o))
 (AG D (Aqn 52 0) [Φ t1,υ 0 0,υ 1 0,Φ t11,iv t12,iv (A.add δ t13 1)] [bk [bv b4_0,Φ b4_1],bk [bv b5_0,Φ b5_1]] λr o=>
 AF 2 [0,1] (AH.mk [(1,bk [bv b5_0,Φ b5_1]),(0,bk [bv b4_0,Φ b4_1]),(2,bk [iv n,bv b,Φ xs])] 3 Θ) [0,1] r o))
 (Δ ((Aqm [iv 0,υ 0 0,υ 1 0],[Aqu (bk [bv b4_0,Φ b4_1]),Aqu (bk [bv b5_0,Φ b5_1])]))):=by kernel_rfl
end
section
open Go.RowKit
def AcD:MFn:=Au [⟨92,(mB 1806),[(8,1),(9,2)],[3],[(0,((mB 64),([],[3,8,9]))),(1,((mB 782),([],[])))]⟩] 13
def WJ:Hnt:=⟨[(16,(.bool,[])),(29,(.bool,[])),(34,(.bool,[])),(35,(.bool,[])),(36,(.bool,[])),(43,(.agg Bg,[])),(51,(.ls,[])),(52,(.agg Bb,[]))],[(0,[(0,([.bool],[.del,.del,.del])),(1,([.ls,.ls,.ptr 0 0,.sl 3 1,.sl 4 2],[.box Bg,.del,.del,.row U,.row U]))])],[(14,Bg),(27,Bg),(37,[.int .i64]),(38,[.int .i64]),(54,Bb),(55,Bb),(62,CH),(63,CH),(74,CH),(75,CH),(79,Bb),(82,Bg),(88,Bg)]⟩
def QQ:List (Nat × MFn):=[(13,AcD)]
variable (A:Ar) (D:Orc)
theorem e13(x0_0:Int)(x0_1:Rw)(x0_2:Bool)(x0_3:Rw)(x0_4:Bool)(x0_5 x1 x2:Rw):BZ A D Al WJ .n 13 AcD [ψ [iv x0_0,Φ x0_1,bv x0_2,Φ x0_3,bv x0_4,Φ x0_5],Φ x1,Φ x2] [] =
 Ad D (φ 34) [] [] [.b,.E] λb=>
 br b
 (Ad D (φ 35) [ψ [iv x0_0,Φ x0_1,bv x0_2,Φ x0_3,bv x0_4,Φ x0_5],iv 40,iv 8] [] [.b,.E] λb1=>
 br b1
 (br (A.lt 6 ↑(AP x1))
 (Δ ((bv U,[])))
 (Ad D (φ 29) [Φ x2,iv 6,iv 8] [] [.b,.E] λb2=>
 br b2
 (Ad D (φ 51) [ψ [iv x0_0,Φ x0_1,bv x0_2,Φ x0_3,bv x0_4,Φ x0_5]] [] [.l,.E] λxs=>
 br (A.lt 0 ↑(AP xs))
 (unI (A.sub δ (↑(AP xs)) 1) λi=>
 Bh xs i λcs=>
 dk [.I,.N] [.l cs] λn=>
 br (A.lt 5 n)
 (Δ ((bv U,[])))
 (Ad D (Aqn 13 0) [Φ x1,Φ x2,υ 0 0,κ 1 0 0 1,κ 2 0 0 2,iv 0] [bk [iv x0_0,Φ x0_1,bv x0_2,Φ x0_3,bv x0_4,Φ x0_5],Ω [] U U,Ω [] U U] [.t,.C,.x,.X,.Y] λc l1 o4=>
 br (Bf 0 c)
 (dk [.B,.N,.D,.D,.D,.E] [.l l1,.o o4] λb3=>
 Δ ((bv b3,[])))
 (br (Bf 1 c)
 (dk [.L,.L,.P 0 0,.C,.q 3 1,.C,.q 4 2,.N,.T,.I,.L,.B,.L,.B,.L,.N,.D,.D,.R,.X,.R,.X,.E] [.l l1,.o o4] λxs1 xs2 n1 n2 n3 xs3 b3 xs4 b4 xs5 cs3 cs4=>
 br ((0+n1*1).ble cs3.length) (AG D (φ 43) [ψ [iv n3,Φ xs3,bv b3,Φ xs4,bv b4,Φ xs5],Φ (Bl n1 1 (Aqj (n1*1) cs3)),Φ xs1] [] λr5 o5=>
 dk [.a,.I,.L,.B,.L,.B,.L,.N,.E] [.v r5,.o o5] λn4 xs6 b5 xs7 b6 xs8=>
 Ad D (φ 36) [ψ [iv n4,Φ xs6,bv b5,Φ xs7,bv b6,Φ xs8],Φ xs2] [] [.b,.E] λb7=>
 br b7
 (br ((0+n2*2).ble cs4.length) (AG D (φ 36) [ψ [iv n3,Φ xs3,bv b3,Φ xs4,bv b4,Φ xs5],Φ (Bl n2 2 (Aqj (n2*2) cs4))] [] λr7 o7=>
 dk [.b,.E] [.v r7,.o o7] λb8=>
 br b8
 (br (A.beq U U)
 (Δ ((bv U,[])))
 (Δ ((bv Ξ,[]))))
 (br (A.beq U Ξ)
 (Δ ((bv U,[])))
 (Δ ((bv Ξ,[]))))) Θ)
 (br ((0+n2*2).ble cs4.length) (AG D (φ 36) [ψ [iv n3,Φ xs3,bv b3,Φ xs4,bv b4,Φ xs5],Φ (Bl n2 2 (Aqj (n2*2) cs4))] [] λr7 o7=>
 dk [.b,.E] [.v r7,.o o7] λb8=>
 br b8
 (br (A.beq Ξ U)
 (Δ ((bv U,[])))
 (Δ ((bv Ξ,[]))))
 (br (A.beq Ξ Ξ)
 (Δ ((bv U,[])))
 (Δ ((bv Ξ,[]))))) Θ)) Θ)
 (Θ))))
 (Ad D (Aqn 13 0) [Φ x1,Φ x2,υ 0 0,κ 1 0 0 1,κ 2 0 0 2,iv 0] [bk [iv x0_0,Φ x0_1,bv x0_2,Φ x0_3,bv x0_4,Φ x0_5],Ω [] U U,Ω [] U U] [.t,.C,.x,.X,.Y] λc l o4=>
 br (Bf 0 c)
 (dk [.B,.N,.D,.D,.D,.E] [.l l,.o o4] λb3=>
 Δ ((bv b3,[])))
 (br (Bf 1 c)
 (dk [.L,.L,.P 0 0,.C,.q 3 1,.C,.q 4 2,.N,.T,.I,.L,.B,.L,.B,.L,.N,.D,.D,.R,.X,.R,.X,.E] [.l l,.o o4] λxs1 xs2 n n1 n2 xs3 b3 xs4 b4 xs5 cs2 cs3=>
 br ((0+n*1).ble cs2.length) (AG D (φ 43) [ψ [iv n2,Φ xs3,bv b3,Φ xs4,bv b4,Φ xs5],Φ (Bl n 1 (Aqj (n*1) cs2)),Φ xs1] [] λr5 o5=>
 dk [.a,.I,.L,.B,.L,.B,.L,.N,.E] [.v r5,.o o5] λn3 xs6 b5 xs7 b6 xs8=>
 Ad D (φ 36) [ψ [iv n3,Φ xs6,bv b5,Φ xs7,bv b6,Φ xs8],Φ xs2] [] [.b,.E] λb7=>
 br b7
 (br ((0+n1*2).ble cs3.length) (AG D (φ 36) [ψ [iv n2,Φ xs3,bv b3,Φ xs4,bv b4,Φ xs5],Φ (Bl n1 2 (Aqj (n1*2) cs3))] [] λr7 o7=>
 dk [.b,.E] [.v r7,.o o7] λb8=>
 br b8
 (br (A.beq U U)
 (Δ ((bv U,[])))
 (Δ ((bv Ξ,[]))))
 (br (A.beq U Ξ)
 (Δ ((bv U,[])))
 (Δ ((bv Ξ,[]))))) Θ)
 (br ((0+n1*2).ble cs3.length) (AG D (φ 36) [ψ [iv n2,Φ xs3,bv b3,Φ xs4,bv b4,Φ xs5],Φ (Bl n1 2 (Aqj (n1*2) cs3))] [] λr7 o7=>
 dk [.b,.E] [.v r7,.o o7] λb8=>
 br b8
 (br (A.beq Ξ U)
 (Δ ((bv U,[])))
 (Δ ((bv Ξ,[]))))
 (br (A.beq Ξ Ξ)
 (Δ ((bv U,[])))
 (Δ ((bv Ξ,[]))))) Θ)) Θ)
 (Θ))))
 (Δ ((bv U,[])))))
 (Δ ((bv U,[]))))
 (Δ ((bv Ξ,[]))):=by kernel_rfl
theorem YK(t1 t2:Rw)(b3_0:Int)(b3_1:Rw)(b3_2:Bool)(b3_3:Rw)(b3_4:Bool)(b3_5:Rw)(n8:Nat)(c8:List AV)(n9:Nat)(c9:List AV)(t10:Int):Dl A D Al WJ .n 13 0 (AL AcD 0).fst (AL AcD 0).snd [Φ t1,Φ t2,υ 0 0,κ 1 0 n8 1,κ 2 0 n9 2,iv t10] [bk [iv b3_0,Φ b3_1,bv b3_2,Φ b3_3,bv b3_4,Φ b3_5],{ cells:=c8,st:=U,ex:=U },{ cells:=c9,st:=U,ex:=U }] =
 br (A.lt t10 6)
 (br (A.lt t10 ↑(AP t2))
 (unI t10 λi=>
 Bh t2 i λcs=>
 dk [.B,.L,.N] [.l cs] λb xs=>
 br (A.lt t10 ↑(AP t1))
 (unI t10 λi1=>
 Bh t1 i1 λcs1=>
 dk [.L,.B,.L,.N] [.l cs1] λxs1 b1 xs2=>
 Ad D (φ 16) [Φ [[Φ xs1,bv b1,Φ xs2,bv Ξ]],iv 1,iv 8] [] [.b,.E] λb2=>
 br b2
 (br (Bc (n8+1) 8) (br ((0+n8*1).ble c8.length) (unI t10 λi2=>
 Bh t1 i2 λcs2=>
 dk [.L,.B,.L,.N] [.l cs2] λxs3 b3 xs4=>
 Ad D (φ 52) [ψ [Φ xs3,bv b3,Φ xs4],Φ t2] [] [.a,.B,.L,.N,.E] λb4 xs5=>
 br (Bc (n9+1) 32) (br ((0+n9*2).ble c9.length) (AG D (Aqn 13 0) [Φ t1,Φ t2,υ 0 0,κ 1 0 (n8+1) 1,κ 2 0 (n9+1) 2,iv (A.add δ t10 1)] [bk [iv b3_0,Φ b3_1,bv b3_2,Φ b3_3,bv b3_4,Φ b3_5],Ω (Aqp 0 (Aqj (0+n8*1) c8)++[iv t10]) U U,Ω (Aqp 0 (Aqj (0+n9*2) c9)++[bv b4,Φ xs5]) U U] λr2 o2=>
 AF 3 [0,6,8] (AH.mk [(0,bk [iv b3_0,Φ b3_1,bv b3_2,Φ b3_3,bv b3_4,Φ b3_5]),(8,Ω (Aqp 0 (Aqj (0+n9*2) c9)++[bv b4,Φ xs5]) U U),(7,Ω [bv b4,Φ xs5] U U),(3,bk [bv b4,Φ xs5]),(6,Ω (Aqp 0 (Aqj (0+n8*1) c8)++[iv t10]) U U),(5,Ω [iv t10] U U),(4,Ω [Φ xs1,bv b1,Φ xs2,bv Ξ] Ξ U)] 9 Θ) [1,2,0] r2 o2) Θ) Θ) Θ) Θ)
 (Δ ((Aqm [bv U,bv U],[BO.del,BO.del,BO.del]))))
 (br (Bc (n9+1) 32) (br ((0+n9*2).ble c9.length) (AG D (Aqn 13 0) [Φ t1,Φ t2,υ 0 0,κ 1 0 n8 1,κ 2 0 (n9+1) 2,iv (A.add δ t10 1)] [bk [iv b3_0,Φ b3_1,bv b3_2,Φ b3_3,bv b3_4,Φ b3_5],Ω c8 U U,Ω (Aqp 0 (Aqj (0+n9*2) c9)++[bv b,Φ xs]) U U] λr o=>
 AF 3 [0,1,5] (AH.mk [(0,bk [iv b3_0,Φ b3_1,bv b3_2,Φ b3_3,bv b3_4,Φ b3_5]),(5,Ω (Aqp 0 (Aqj (0+n9*2) c9)++[bv b,Φ xs]) U U),(4,Ω [bv b,Φ xs] U U),(3,bk [bv b,Φ xs]),(1,Ω c8 U U)] 6 Θ) [2,0] r o) Θ) Θ))
 (br (A.lt t10 ↑(AP t1))
 (unI t10 λi=>
 Bh t1 i λcs=>
 dk [.L,.B,.L,.N] [.l cs] λxs b xs1=>
 Ad D (φ 16) [Φ [[Φ xs,bv b,Φ xs1,bv Ξ]],iv 1,iv 8] [] [.b,.E] λb1=>
 br b1
 (br (Bc (n8+1) 8) (br ((0+n8*1).ble c8.length) (unI t10 λi1=>
 Bh t1 i1 λcs1=>
 dk [.L,.B,.L,.N] [.l cs1] λxs2 b2 xs3=>
 Ad D (φ 52) [ψ [Φ xs2,bv b2,Φ xs3],Φ t2] [] [.a,.B,.L,.N,.E] λb3 xs4=>
 br (Bc (n9+1) 32) (br ((0+n9*2).ble c9.length) (AG D (Aqn 13 0) [Φ t1,Φ t2,υ 0 0,κ 1 0 (n8+1) 1,κ 2 0 (n9+1) 2,iv (A.add δ t10 1)] [bk [iv b3_0,Φ b3_1,bv b3_2,Φ b3_3,bv b3_4,Φ b3_5],Ω (Aqp 0 (Aqj (0+n8*1) c8)++[iv t10]) U U,Ω (Aqp 0 (Aqj (0+n9*2) c9)++[bv b3,Φ xs4]) U U] λr2 o2=>
 AF 3 [0,6,8] (AH.mk [(0,bk [iv b3_0,Φ b3_1,bv b3_2,Φ b3_3,bv b3_4,Φ b3_5]),(8,Ω (Aqp 0 (Aqj (0+n9*2) c9)++[bv b3,Φ xs4]) U U),(7,Ω [bv b3,Φ xs4] U U),(3,bk [bv b3,Φ xs4]),(6,Ω (Aqp 0 (Aqj (0+n8*1) c8)++[iv t10]) U U),(5,Ω [iv t10] U U),(4,Ω [Φ xs,bv b,Φ xs1,bv Ξ] Ξ U)] 9 Θ) [1,2,0] r2 o2) Θ) Θ) Θ) Θ)
 (Δ ((Aqm [bv U,bv U],[BO.del,BO.del,BO.del]))))
 (br (Bc (n9+1) 32) (br ((0+n9*2).ble c9.length) (AG D (Aqn 13 0) [Φ t1,Φ t2,υ 0 0,κ 1 0 n8 1,κ 2 0 (n9+1) 2,iv (A.add δ t10 1)] [bk [iv b3_0,Φ b3_1,bv b3_2,Φ b3_3,bv b3_4,Φ b3_5],Ω c8 U U,Ω (Aqp 0 (Aqj (0+n9*2) c9)++[bv Ξ,AqC (Value.slice Θ 0 0)]) U U] λr o=>
 AF 3 [0,1,5] (AH.mk [(0,bk [iv b3_0,Φ b3_1,bv b3_2,Φ b3_3,bv b3_4,Φ b3_5]),(5,Ω (Aqp 0 (Aqj (0+n9*2) c9)++[bv Ξ,AqC (Value.slice Θ 0 0)]) U U),(4,Ω [bv Ξ,AqC (Value.slice Θ 0 0)] U U),(3,bk [bv Ξ,AqC (Value.slice Θ 0 0)]),(1,Ω c8 U U)] 6 Θ) [2,0] r o) Θ) Θ)))
 (Δ ((Aqm [iv 0,Φ t1,Φ t2,υ 0 0,κ 3 0 n8 1,κ 4 0 n9 2],[Aqu (bk [iv b3_0,Φ b3_1,bv b3_2,Φ b3_3,bv b3_4,Φ b3_5]),BO.del,BO.del,Aqu (Ω c8 U U),Aqu (Ω c9 U U)]))):=by kernel_rfl
end
