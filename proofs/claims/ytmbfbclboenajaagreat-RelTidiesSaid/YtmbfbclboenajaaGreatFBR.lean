/- Layer 4's tidying answer -/
import Derived.Test.YtmbfbclboenajaaGreatFBQ
set_option linter.all false
open Bool renaming false->Φ,true->Δ
open List renaming drop->AqT,map_cons->Aq8,map_map->Asa,map_nil->ArV,mem_cons->AqU,not_mem_nil->AuA,take->ε
open Option renaming none->Ξ,some->Θ
namespace Go.Proofs.YtmbfbclboenajaaGreat
noncomputable section
open ABlk renaming mk->θ
open AV renaming agg->φ,ls->Ψ,ptr->η,sl->χ,tup->γ
open BO renaming set->AqV
open IntKind renaming i64->δ
open Key renaming fn->ω,lp->ι
section
open Go.RowKit
abbrev Nh(n:Int):List AV:=[.v (.int .u32 n)]
abbrev Vo:List AV:=[iv 0,bv Φ,.ls [Nh 1]]
abbrev ZD:List AV:=[iv 0,bv Δ,.ls [Nh 1]]
set_option maxRecDepth 1000000
theorem y1:Vn 10 [iv 0,.ls [[iv 1]]] []=Θ (.agg [.ls [Vo],bv Φ,.ls []],[]):=by kernel_rfl
theorem y2:Vn 9 [.agg [.ls [Vo],bv Φ,.ls []]] []=Θ (.agg [.ls [Vo],bv Φ,.ls [],bv Φ],[]):=by kernel_rfl
theorem y3:Vn 10 [iv 0,.ls [[iv (-1)]]] []=Θ (.agg [.ls [ZD],bv Φ,.ls []],[]):=by kernel_rfl
theorem y4:Vn 9 [.agg [.ls [ZD],bv Φ,.ls []]] []=Θ (.agg [.ls [ZD],bv Φ,.ls [],bv Φ],[]):=by kernel_rfl
theorem y5:Vn 10 [iv 5,.ls []] []=Θ (.agg [.ls [],bv Φ,.ls [Nh 5]],[]):=by kernel_rfl
theorem y6:Vn 9 [.agg [.ls [],bv Φ,.ls [Nh 5]]] []=Θ (.agg [.ls [],bv Φ,.ls [Nh 5],bv Φ],[]):=by kernel_rfl
theorem y7:Vn 10 [iv (-1),.ls [[iv 1]]] []=Θ (.agg [.ls [Vo],bv Δ,.ls [Nh 1]],[]):=by kernel_rfl
theorem y8:Vn 9 [.agg [.ls [Vo],bv Δ,.ls [Nh 1]]] []=Θ (.agg [.ls [Vo],bv Δ,.ls [Nh 1],bv Φ],[]):=by kernel_rfl
theorem y9:Vn 11 [.agg [.ls [Vo],bv Φ,.ls [],bv Δ],.agg [.ls [Vo],bv Φ,.ls [],bv Δ]] []=Θ (bv Δ,[]):=by kernel_rfl
theorem JM{n:Nat}(h0:n≠0)(h:n<4294967296):Ai n=[n]:=by rw[Dh h0,Nat.mod_eq_of_lt h,Nat.div_eq_of_lt h,Cj]
theorem Akt:Aq 0=⟨Φ,[]⟩:=by unfold Aq;rw[show (0:Int).natAbs=0 from rfl,Cj];rfl
theorem Aku:Aq 1=⟨Φ,[1]⟩:=by unfold Aq;rw[show (1:Int).natAbs=1 from rfl,JM (by decide) (by decide)];rfl
theorem Aiy:Aq (-1)=⟨Δ,[1]⟩:=by unfold Aq;rw[show (-1:Int).natAbs=1 from rfl,JM (by decide) (by decide)];rfl
theorem Apg:Aq 5=⟨Φ,[5]⟩:=by unfold Aq;rw[show (5:Int).natAbs=5 from rfl,JM (by decide) (by decide)];rfl
theorem Aiq{r:RL}(h1:r.1.ps.length<=1)(h2:∀ p∈r.1.ps,InB 1 p.2)(h3:InB 1 r.1.k):TmB 1 1 r.1.tm:=(LB.mk h1 h2 h3:LB 1 1 r.1).tb
theorem Acf:InB 1 (-1):=by unfold InB;decide
theorem Ame:InB 1 1:=by unfold InB;decide
theorem Ao3:InB 1 5:=by unfold InB;decide
def tmT(r:RL):Tm × Bool:=(r.1.tm,r.2)
theorem Agn(r:RL):Jh (tmT r)=r:=by
 unfold Jh tmT;rw[BE]
def Akk:Option (List RL)->AV
 |some s=>.tup [.ls (s.map BX),bv Δ]
 |none=>.tup [.ls [],bv Φ]
theorem Aiv(l:List RL)(hl:l.length<=12)(hb:∀ r∈l,TmB 1 1 r.1.tm){o:Option (List RL)}(h:D0 l o):M8 (CX (EL ID)) [.ls (l.map BX)] []=Θ (Akk o,[]):=by
 have e:(l.map tmT).map Jh=l:=by
  rw[Asa]
  conv=>rhs;rw[←List.map_id l]
  exact List.map_congr_left λr _=>Agn r
 obtain⟨o',h',g⟩:=Yy (n:=1) (k:=1) (rs:=l.map tmT) (by omega) (by omega) (by omega) (by rw[List.length_map];omega) (λx hx=>by
  obtain⟨r,hr,rfl⟩:=List.mem_map.1 hx;exact hb r hr) ⟨l,hl,λx=>by rw[e]⟩
 rw[e]at h';rw[Asa]at g;refine Eq.trans g ?_;rw[PD h h']
 cases o'<;>rfl
theorem cX:BX rX=[.ls [Vo],bv Φ,.ls [],bv Φ]:=by
 show [Ψ [[iv 0,bv (Aq 1).neg,eN (Aq 1).abs]],bv (Aq 0).neg,eN (Aq 0).abs,bv Φ]=_
 rw[Akt,Aku];rfl
theorem cXm:BX ZI=[.ls [ZD],bv Φ,.ls [],bv Φ]:=by
 show [Ψ [[iv 0,bv (Aq (-1)).neg,eN (Aq (-1)).abs]],bv (Aq 0).neg,eN (Aq 0).abs,bv Φ]=_
 rw[Akt,Aiy];rfl
theorem cX1:BX rX1=[.ls [Vo],bv Δ,.ls [Nh 1],bv Φ]:=by
 show [Ψ [[iv 0,bv (Aq 1).neg,eN (Aq 1).abs]],bv (Aq (-1)).neg,eN (Aq (-1)).abs,bv Φ]=_
 rw[Aiy,Aku];rfl
theorem cXe:BX rXe=[.ls [Vo],bv Φ,.ls [],bv Δ]:=by
 show [Ψ [[iv 0,bv (Aq 1).neg,eN (Aq 1).abs]],bv (Aq 0).neg,eN (Aq 0).abs,bv Δ]=_
 rw[Akt,Aku];rfl
theorem c5:BX rK5=[.ls [],bv Φ,.ls [Nh 5],bv Φ]:=by
 show [Ψ [],bv (Aq 5).neg,eN (Aq 5).abs,bv Φ]=_
 rw[Apg];rfl
theorem tX{c k:Int}{e:Bool}(hc:InB 1 c)(hk:InB 1 k):TmB 1 1 (Lf.mk [(0,c)] k).tm:=Aiq (r:=(⟨[(0,c)],k⟩,e)) (by simp) (λp hp=>by rw[List.mem_singleton]at hp;rw[hp];exact hc) hk
theorem Apd:M8 (CX (EL ID)) [.ls [[.ls [Vo],bv Φ,.ls [],bv Φ],[.ls [ZD],bv Φ,.ls [],bv Φ],[.ls [],bv Φ,.ls [Nh 5],bv Φ]]] []=Θ (.tup [.ls [[.ls [Vo],bv Φ,.ls [],bv Δ]],bv Δ],[]):=by
 have:=Aiv [rX,ZI,rK5] (by decide) (λr hr=>by
  simp only[AqU,AuA,or_false]at hr;rcases hr with rfl|rfl|rfl
  .exact tX (e:=Φ) Ame (InB.zero 1)
  .exact tX (e:=Φ) Acf (InB.zero 1)
  .exact Aiq (r:=rK5) (by decide) (λp hp=>by cases hp) Ao3) Ad6
 simp only[Aq8,ArV,Akk,cX,cXm,c5,cXe]at this;exact this
theorem tno:M8 (CX (EL ID)) [.ls [[.ls [Vo],bv Δ,.ls [Nh 1],bv Φ],[.ls [ZD],bv Φ,.ls [],bv Φ]]] []=Θ (.tup [.ls [],bv Φ],[]):=by
 have:=Aiv [rX1,ZI] (by decide) (λr hr=>by
  simp only[AqU,AuA,or_false]at hr;rcases hr with rfl|rfl
  .exact tX (e:=Φ) Ame Acf
  .exact tX (e:=Φ) Acf (InB.zero 1)) AgP
 simp only[Aq8,ArV,Akk,cXm,cX1]at this;exact this
theorem W6:DTg.ask (.fn 4) [] []=Θ (bv Δ,[]):=by
 refine AB Ajq hn4 (e4 ..) ?_;refine Aa (Rl y1) ?_;simp only[ND,DK,Ab];refine Aa (IA y2) ?_;simp only[ND,DK,Ab];refine Aa (Rl y3) ?_;simp only[ND,DK,Ab];refine Aa (IA y4) ?_;simp only[ND,DK,Ab];refine Aa (Rl y5) ?_;simp only[ND,DK,Ab];refine Aa (IA y6) ?_;simp only[ND,DK,Ab];refine Aa (YF Apd) ?_;simp only[ND,DK,Ab];refine Aa (Rl y7) ?_;simp only[ND,DK,Ab];refine Aa (IA y8) ?_;simp only[ND,DK,Ab];refine Aa (Rl y3) ?_;simp only[ND,DK,Ab];refine Aa (IA y4) ?_;simp only[ND,DK,Ab];refine Aa (YF tno) ?_;simp only[ND,DK,Ab];refine Bu ?_ rfl;refine(At (f:=λx:List AV=>x) (rfl:[[Ψ [Vo],bv Φ,Ψ [],bv Δ]][0]? = Θ [Ψ [Vo],bv Φ,Ψ [],bv Δ]) _).trans ?_;simp only[ND,DK,Ab];refine Aa (Rl y1) ?_;simp only[ND,DK,Ab];refine Aa (Aei y9) ?_;rfl
theorem AbL:BS (B5 Tryz.prog 4) ((AY Af Pu).ask (.fn 4)):=
 DX (Z5 ⟨Ajg _,Ajg _,Ajg _,AhE,trivial⟩) _
end
section
open Go.RowKit
def AmG:MFn:=BI [] 11
def Aji:Hnt:=⟨[(28,(.bool,[]))],[],[(6,[.bool]),(8,[.bool]),(12,Bl),(14,Bl)]⟩
def Q7:List (Nat × MFn):=[(11,AmG)]
variable (A:Ar) (D:Orc)
theorem e11(x0_0:Rw)(x0_1:Bool)(x0_2:Rw)(x0_3:Bool)(x1_0:Rw)(x1_1:Bool)(x1_2:Rw)(x1_3:Bool):BN A D Al Aji .n 11 AmG [φ [Ψ x0_0,bv x0_1,Ψ x0_2,bv x0_3],φ [Ψ x1_0,bv x1_1,Ψ x1_2,bv x1_3]] [] =
 br (A.beq x0_3 x1_3)
 (Ae D (ω 28) [φ [Ψ x0_0,bv x0_1,Ψ x0_2],φ [Ψ x1_0,bv x1_1,Ψ x1_2]] [] [.b,.E] λb=>
 br b
 (Θ ((bv Δ,[])))
 (Θ ((bv Φ,[]))))
 (Θ ((bv Φ,[]))):=by kernel_rfl
end
section
open Go.RowKit
def XL:MFn:=BI [⟨76,(mB 224),[],[5,6],[(0,((mB 16),([],[5,6]))),(1,((mB 96),([],[])))]⟩] 100
def Qu:Hnt:=⟨[(21,(.int .i64,[])),(49,(.agg Bl,[]))],[(0,[(0,([.int .i64],[.del,.del])),(1,([.ptr 0 0,.ptr 1 0],[.box Bl,.box Bl]))])],[(11,Bl),(13,Bl),(17,[.ls]),(23,[.ls]),(30,[.ls]),(32,Br),(33,Br),(35,[.ls]),(37,Br),(38,Br),(40,[.int .i64]),(42,[.int .i64]),(45,[.int .i64]),(47,[.int .i64]),(50,Ay),(52,Ay),(58,[.ls]),(61,[.ls]),(65,[.ls]),(68,[.ls]),(72,Ay),(74,Ay)]⟩
def Anc:MFn:=BI [] 58
def AlU:Hnt:=⟨[(100,(.int .i64,[]))],[],[(7,Bl),(9,Bl),(15,[.bool]),(19,[.bool]),(22,[.bool]),(25,[.bool])]⟩
def mf8:MFn:=BI [⟨27,(mB 35),[],[],[(0,((mB 16),([],[]))),(1,([],([],[])))]⟩] 8
def hn8:Hnt:=⟨[(11,(.bool,[]))],[(0,[(0,([.bool],[])),(1,([],[]))])],[(19,B1),(20,B1),(23,B1),(24,B1)]⟩
def U8:List (Nat × MFn):=[(100,XL),(58,Anc),(8,mf8)]
variable (A:Ar) (D:Orc)
theorem Aot(x0_0:Rw)(x0_1:Bool)(x0_2 x1_0:Rw)(x1_1:Bool)(x1_2:Rw):BN A D Al Qu .n 100 XL [φ [Ψ x0_0,bv x0_1,Ψ x0_2],φ [Ψ x1_0,bv x1_1,Ψ x1_2]] [] =
 Ae D (ω 49) [φ [Ψ x0_0,bv x0_1,Ψ x0_2]] [] [.a,.L,.B,.L,.N,.E] λxs b xs1=>
 Ae D (ω 49) [φ [Ψ x1_0,bv x1_1,Ψ x1_2]] [] [.a,.L,.B,.L,.N,.E] λxs2 b1 xs3=>
 Ae D (ι 100 0) [η 0 0,η 1 0,iv 0] [bk [Ψ xs,bv b,Ψ xs1],bk [Ψ xs2,bv b1,Ψ xs3]] [.t,.C,.x,.X,.Y] λc l6 o2=>
 br (Bm 0 c)
 (dk [.I,.N,.D,.D,.E] [.l l6,.o o2] λn=>
 Θ ((iv n,[])))
 (br (Bm 1 c)
 (dk [.P 0 0,.P 1 0,.N,.T,.L,.B,.L,.N,.T,.L,.B,.L,.N,.E] [.l l6,.o o2] λxs4 b2 xs5 xs6 b3 xs7=>
 br (A.lt ↑(AL xs4) ↑(AL xs6))
 (Θ ((iv (-1),[])))
 (br (A.lt ↑(AL xs6) ↑(AL xs4))
 (Θ ((iv 1,[])))
 (Ae D (ω 21) [φ [bv b2,Ψ xs5],φ [bv b3,Ψ xs7]] [] [.i,.E] λn=>
 Θ ((iv n,[])))))
 (Ξ)):=by kernel_rfl
theorem VI(b5_0:Rw)(b5_1:Bool)(b5_2 b6_0:Rw)(b6_1:Bool)(b6_2:Rw)(t7:Int):CS A D Al Qu .n 100 0 (AJ XL 0).fst (AJ XL 0).snd [η 0 0,η 1 0,iv t7] [bk [Ψ b5_0,bv b5_1,Ψ b5_2],bk [Ψ b6_0,bv b6_1,Ψ b6_2]] =
 br (A.lt t7 ↑(AL b5_0))
 (br (A.lt t7 ↑(AL b6_0))
 (unI t7 λi=>
 Bj b5_0 i λcs=>
 dk [.I,.B,.L,.N] [.l cs] λn b xs=>
 unI t7 λi1=>
 Bj b6_0 i1 λcs1=>
 dk [.I,.B,.L,.N] [.l cs1] λn1 b1 xs1=>
 br (A.lt n n1)
 (Θ ((γ [bv Δ,iv (-1)],[BO.del,BO.del])))
 (br (A.lt n1 n)
 (Θ ((γ [bv Δ,iv 1],[BO.del,BO.del])))
 (Ae D (ω 21) [φ [bv b,Ψ xs],φ [bv b1,Ψ xs1]] [] [.i,.E] λn2=>
 br (A.eq n2 0)
 (AA D (ι 100 0) [η 0 0,η 1 0,iv (A.add δ t7 1)] [bk [Ψ b5_0,bv b5_1,Ψ b5_2],bk [Ψ b6_0,bv b6_1,Ψ b6_2]] λr1 o1=>
 As 2 [0,1] (AH.mk [(1,bk [Ψ b6_0,bv b6_1,Ψ b6_2]),(0,bk [Ψ b5_0,bv b5_1,Ψ b5_2]),(3,bk [iv n1,bv b1,Ψ xs1]),(2,bk [iv n,bv b,Ψ xs])] 4 Ξ) [0,1] r1 o1)
 (Θ ((γ [bv Δ,iv n2],[BO.del,BO.del]))))))
 (Θ ((γ [iv 0,η 0 0,η 1 0],[AqV (bk [Ψ b5_0,bv b5_1,Ψ b5_2]),AqV (bk [Ψ b6_0,bv b6_1,Ψ b6_2])]))))
 (Θ ((γ [iv 0,η 0 0,η 1 0],[AqV (bk [Ψ b5_0,bv b5_1,Ψ b5_2]),AqV (bk [Ψ b6_0,bv b6_1,Ψ b6_2])]))):=by kernel_rfl
theorem e58(x0_0:Rw)(x0_1:Bool)(x0_2:Rw)(x0_3:Bool)(x1_0:Rw)(x1_1:Bool)(x1_2:Rw)(x1_3:Bool):BN A D Al AlU (.b (.b .n (.b .n (.b (.b (.b (.b (.b .n (.b .n (.b (.t (.t (.b (.t .n) (.t .n)))) (.f (.f (.f .n)))))) .n) .n) .n) (.b .n (.b .n (.b .n (.b .n (.b .n (.b (.t (.t (.b (.t .n) (.t .n)))) (.f (.f (.f .n)))))))))))) .n) 58 Anc [φ [Ψ x0_0,bv x0_1,Ψ x0_2,bv x0_3],φ [Ψ x1_0,bv x1_1,Ψ x1_2,bv x1_3]] [] =
 Ae D (ω 100) [φ [Ψ x0_0,bv x0_1,Ψ x0_2],φ [Ψ x1_0,bv x1_1,Ψ x1_2]] [] [.i,.E] λn=>
 br (A.eq n 0)
 (br (A.not x0_3)
 (br x1_3
 (Θ ((iv (-1),[])))
 (br x0_3
 (br x0_3 (br x0_3 (br (A.not x1_3)
 (br x0_3 (Θ ((iv 1,[]))) Ξ)
 (br x0_3 (Θ ((iv 0,[]))) Ξ)) Ξ) Ξ)
 (br x0_3 Ξ (br x0_3 Ξ (br x0_3 Ξ (Θ ((iv 0,[]))))))))
 (br x0_3
 (br x0_3 (br x0_3 (br (A.not x1_3)
 (br x0_3 (Θ ((iv 1,[]))) Ξ)
 (br x0_3 (Θ ((iv 0,[]))) Ξ)) Ξ) Ξ)
 (br x0_3 Ξ (br x0_3 Ξ (br x0_3 Ξ (Θ ((iv 0,[]))))))))
 (Θ ((iv n,[]))):=by kernel_rfl
theorem e8(x0 x1:Rw):BN A D Al hn8 .n 8 mf8 [Ψ x0,Ψ x1] [] =
 br (A.eq ↑(AL x0) ↑(AL x1))
 (Ae D (ι 8 0) [Ψ x0,Ψ x1,iv 0] [] [.t,.C,.x,.X,.Y] λc l o=>
 br (Bm 0 c)
 (dk [.B,.N,.E] [.l l,.o o] λb=>
 Θ ((bv b,[])))
 (br (Bm 1 c)
 (Ft l<|
 DI o<|
 Θ ((bv Δ,[])))
 (Ξ)))
 (Θ ((bv Φ,[]))):=by kernel_rfl
theorem Alj(t0 t1:Rw)(t5:Int):CS A D Al hn8 .n 8 0 (AJ mf8 0).fst (AJ mf8 0).snd [Ψ t0,Ψ t1,iv t5] [] =
 br (A.lt t5 ↑(AL t0))
 (unI t5 λi=>
 Bj t0 i λcs=>
 dk [.L,.B,.L,.B,.N] [.l cs] λxs b xs1 b1=>
 unI t5 λi1=>
 Bj t1 i1 λcs1=>
 dk [.L,.B,.L,.B,.N] [.l cs1] λxs2 b2 xs3 b3=>
 Ae D (ω 11) [φ [Ψ xs,bv b,Ψ xs1,bv b1],φ [Ψ xs2,bv b2,Ψ xs3,bv b3]] [] [.b,.E] λb4=>
 br b4
 (AA D (ι 8 0) [Ψ t0,Ψ t1,iv (A.add δ t5 1)] [] λr1 o1=>
 As 0 [] (AH.mk [] 0 Ξ) [] r1 o1)
 (Θ ((γ [bv Δ,bv Φ],[]))))
 (Θ ((γ [iv 0],[]))):=by kernel_rfl
end
section
open Go.RowKit
def AmP:MFn:=BI [] 22
def Alx:Hnt:=⟨[],[],[(4,[.ls])]⟩
def AmL:MFn:=BI [] 18
def Alt:Hnt:=⟨[(22,(.agg Bl,[])),(27,(.agg Ay,[])),(28,(.bool,[])),(54,(.agg Bl,[]))],[],[(5,Bl),(7,Bl),(10,Bl),(12,Bl)]⟩
def Afn:MFn:=BI [⟨44,(mB 233),[(5,4)],[3],[(1,((mB 104),([],[])))]⟩] 25
def AbX:Hnt:=⟨[(58,(.int .i64,[]))],[(0,[(1,([.ptr 0 0,.sl 2 4,.bool],[.box B1,.del,.row Δ]))])],[(18,B1),(21,B1),(22,B1),(27,B1),(33,B1),(34,B1),(40,B1)]⟩
def mf7:MFn:=BI [⟨177,(mB 49),[(4,4)],[],[(0,((mB 12),([2],[4]))),(1,((mB 16),([],[])))]⟩,⟨177,(mB 784),[],[4,8],[(0,((mB 12),([2],[]))),(3,((mB 256),([],[])))]⟩,⟨177,(mB 130832),[],[4,8,12,13],[(5,((mB 65296),([],[])))]⟩] 7
def hn7:Hnt:=⟨[(17,(.tup [.agg B1,.int .i64],[])),(18,(.int .i64,[])),(19,(.agg Ay,[])),(20,(.agg Ay,[])),(21,(.int .i64,[])),(22,(.agg Bl,[])),(23,(.agg Bl,[])),(24,(.agg Bl,[])),(25,(.ls,[]))],[(0,[(0,(U0,[.del])),(1,([.sl 1 4],[.del,.row Δ]))]),(1,[(0,(U0,[])),(3,([.ls],[]))]),(2,[(5,([.ls,.ls,.int .i64,.ptr 0 0,.bool,.ptr 1 0,.ptr 2 0,.bool,.bool],[.box B1,.box Ay,.box Ay]))])],[(33,B1),(34,B1),(43,B1),(55,B1),(56,B1),(67,B1),(68,B1),(70,Bl),(72,Bl),(81,Ay),(87,Ay),(93,[.bool]),(99,Ay),(100,Ay),(105,Ay),(110,[.bool]),(116,Ay),(117,Ay),(122,Ay),(128,Ay),(129,Ay),(136,Bl),(143,Ay),(144,Ay),(149,Bl),(150,Ay),(158,B1),(162,Bl),(163,Ay),(170,Ay),(172,Bl)]⟩
def PA:List (Nat × MFn):=[(22,AmP),(18,AmL),(25,Afn),(7,mf7)]
variable (A:Ar) (D:Orc)
theorem e22(x0_0:Rw)(x0_1:Bool)(x0_2:Rw):BN A D Al Alx .n 22 AmP [φ [Ψ x0_0,bv x0_1,Ψ x0_2]] [] =
 Θ ((φ [Ψ x0_0,bv Φ,Ψ []],[])):=by kernel_rfl
theorem e18(x0_0:Rw)(x0_1:Bool)(x0_2 x1_0:Rw)(x1_1:Bool)(x1_2:Rw):BN A D Al Alt .n 18 AmL [φ [Ψ x0_0,bv x0_1,Ψ x0_2],φ [Ψ x1_0,bv x1_1,Ψ x1_2]] [] =
 Ae D (ω 22) [φ [Ψ x0_0,bv x0_1,Ψ x0_2]] [] [.a,.L,.B,.L,.N,.E] λxs b xs1=>
 Ae D (ω 22) [φ [Ψ x1_0,bv x1_1,Ψ x1_2]] [] [.a,.L,.B,.L,.N,.E] λxs2 b1 xs3=>
 Ae D (ω 28) [φ [Ψ xs,bv b,Ψ xs1],φ [Ψ xs2,bv b1,Ψ xs3]] [] [.b,.E] λb2=>
 br b2
 (Θ ((iv 1,[])))
 (Ae D (ω 22) [φ [Ψ x0_0,bv x0_1,Ψ x0_2]] [] [.a,.L,.B,.L,.N,.E] λxs4 b3 xs5=>
 Ae D (ω 22) [φ [Ψ x1_0,bv x1_1,Ψ x1_2]] [] [.a,.L,.B,.L,.N,.E] λxs6 b4 xs7=>
 Ae D (ω 27) [iv (-1)] [] [.a,.B,.L,.N,.E] λb5 xs8=>
 Ae D (ω 54) [φ [Ψ xs6,bv b4,Ψ xs7],φ [bv b5,Ψ xs8]] [] [.a,.L,.B,.L,.N,.E] λxs9 b6 xs10=>
 Ae D (ω 28) [φ [Ψ xs4,bv b3,Ψ xs5],φ [Ψ xs9,bv b6,Ψ xs10]] [] [.b,.E] λb7=>
 br b7
 (Θ ((iv (-1),[])))
 (Θ ((iv 0,[])))):=by kernel_rfl
theorem e25(x0 x1_0:Rw)(x1_1:Bool)(x1_2:Rw)(x1_3:Bool):BN A D Al AbX .n 25 Afn [Ψ x0,φ [Ψ x1_0,bv x1_1,Ψ x1_2,bv x1_3]] [] =
 Ae D (ι 25 0) [Ψ x0,η 0 0,χ 1 0 0 4,bv Φ,iv 0] [bk [Ψ x1_0,bv x1_1,Ψ x1_2,bv x1_3],θ [] Δ Δ] [.t,.C,.x,.X,.Y] λc l o=>
 br (Bm 1 c)
 (dk [.P 0 0,.C,.q 2 4,.B,.N,.T,.L,.B,.L,.B,.N,.D,.R,.X,.E] [.l l,.o o] λn b xs b1 xs1 b2 cs2=>
 br (A.not b)
 (br (AZ (n+1) 64) (br ((0+n*4).ble cs2.length) (br ((0+(n+1)*4).ble (AqT 0 (ε (0+n*4) cs2)++[Ψ xs,bv b1,Ψ xs1,bv b2]).length) (Θ ((Ψ (Bi (n+1) 4 (ε ((n+1)*4) (AqT 0 (AqT 0 (ε (0+n*4) cs2)++[Ψ xs,bv b1,Ψ xs1,bv b2])))),[]))) Ξ) Ξ) Ξ)
 (br ((0+n*4).ble cs2.length) (Θ ((Ψ (Bi n 4 (ε (n*4) cs2)),[]))) Ξ))
 (Ξ):=by kernel_rfl
theorem Ahi(t0 b3_0:Rw)(b3_1:Bool)(b3_2:Rw)(b3_3:Bool)(n5:Nat)(c5:List AV)(t6:Bool)(t7:Int):CS A D Al AbX .n 25 0 (AJ Afn 0).fst (AJ Afn 0).snd [Ψ t0,η 0 0,χ 1 0 n5 4,bv t6,iv t7] [bk [Ψ b3_0,bv b3_1,Ψ b3_2,bv b3_3],{ cells:=c5,st:=Δ,ex:=Δ }] =
 br (A.lt t7 ↑(AL t0))
 (br (A.not t6)
 (unI t7 λi=>
 Bj t0 i λcs=>
 dk [.L,.B,.L,.B,.N] [.l cs] λxs b xs1 b1=>
 Ae D (ω 58) [φ [Ψ b3_0,bv b3_1,Ψ b3_2,bv b3_3],φ [Ψ xs,bv b,Ψ xs1,bv b1]] [] [.i,.E] λn=>
 br (A.le n 0)
 (br (AZ (n5+1) 64) (br ((0+n5*4).ble c5.length) (unI t7 λi1=>
 Bj t0 i1 λcs1=>
 dk [.L,.B,.L,.B,.N] [.l cs1] λxs2 b2 xs3 b3=>
 br (AZ (n5+1+1) 64) (br ((0+(n5+1)*4).ble (AqT 0 (ε (0+n5*4) c5)++[Ψ b3_0,bv b3_1,Ψ b3_2,bv b3_3]).length) (AA D (ι 25 0) [Ψ t0,η 0 0,χ 1 0 (n5+1+1) 4,bv Δ,iv (A.add δ t7 1)] [bk [Ψ b3_0,bv b3_1,Ψ b3_2,bv b3_3],θ (AqT 0 (ε (0+(n5+1)*4) (AqT 0 (ε (0+n5*4) c5)++[Ψ b3_0,bv b3_1,Ψ b3_2,bv b3_3]))++[Ψ xs2,bv b2,Ψ xs3,bv b3]) Δ Δ] λr1 o1=>
 As 2 [0,5] (AH.mk [(0,bk [Ψ b3_0,bv b3_1,Ψ b3_2,bv b3_3]),(5,θ (AqT 0 (ε (0+(n5+1)*4) (AqT 0 (ε (0+n5*4) c5)++[Ψ b3_0,bv b3_1,Ψ b3_2,bv b3_3]))++[Ψ xs2,bv b2,Ψ xs3,bv b3]) Δ Δ),(4,θ [Ψ xs2,bv b2,Ψ xs3,bv b3] Δ Δ),(2,θ [Ψ b3_0,bv b3_1,Ψ b3_2,bv b3_3] Δ Δ)] 6 Ξ) [1,0] r1 o1) Ξ) Ξ) Ξ) Ξ)
 (unI t7 λi1=>
 Bj t0 i1 λcs1=>
 dk [.L,.B,.L,.B,.N] [.l cs1] λxs2 b2 xs3 b3=>
 br (AZ (n5+1) 64) (br ((0+n5*4).ble c5.length) (AA D (ι 25 0) [Ψ t0,η 0 0,χ 1 0 (n5+1) 4,bv t6,iv (A.add δ t7 1)] [bk [Ψ b3_0,bv b3_1,Ψ b3_2,bv b3_3],θ (AqT 0 (ε (0+n5*4) c5)++[Ψ xs2,bv b2,Ψ xs3,bv b3]) Δ Δ] λr1 o1=>
 As 2 [0,3] (AH.mk [(0,bk [Ψ b3_0,bv b3_1,Ψ b3_2,bv b3_3]),(3,θ (AqT 0 (ε (0+n5*4) c5)++[Ψ xs2,bv b2,Ψ xs3,bv b3]) Δ Δ),(2,θ [Ψ xs2,bv b2,Ψ xs3,bv b3] Δ Δ)] 4 Ξ) [1,0] r1 o1) Ξ) Ξ))
 (unI t7 λi=>
 Bj t0 i λcs=>
 dk [.L,.B,.L,.B,.N] [.l cs] λxs b xs1 b1=>
 br (AZ (n5+1) 64) (br ((0+n5*4).ble c5.length) (AA D (ι 25 0) [Ψ t0,η 0 0,χ 1 0 (n5+1) 4,bv t6,iv (A.add δ t7 1)] [bk [Ψ b3_0,bv b3_1,Ψ b3_2,bv b3_3],θ (AqT 0 (ε (0+n5*4) c5)++[Ψ xs,bv b,Ψ xs1,bv b1]) Δ Δ] λr o=>
 As 2 [0,3] (AH.mk [(0,bk [Ψ b3_0,bv b3_1,Ψ b3_2,bv b3_3]),(3,θ (AqT 0 (ε (0+n5*4) c5)++[Ψ xs,bv b,Ψ xs1,bv b1]) Δ Δ),(2,θ [Ψ xs,bv b,Ψ xs1,bv b1] Δ Δ)] 4 Ξ) [1,0] r o) Ξ) Ξ))
 (Θ ((γ [iv 0,η 0 0,χ 2 0 n5 4,bv t6],[AqV (bk [Ψ b3_0,bv b3_1,Ψ b3_2,bv b3_3]),BO.del,AqV (θ c5 Δ Δ)]))):=by kernel_rfl
theorem e7(x0:Rw):BN A D Al hn7 .n 7 mf7 [Ψ x0] [] =
 Ae D (ι 7 0) [Ψ x0,χ 0 0 0 4,iv 0] [θ [] Δ Δ] [.t,.C,.x,.X,.Y] λc l o=>
 br (Bm 0 c)
 (dk [.L,.B,.N,.D,.E] [.l l,.o o] λxs b=>
 Θ ((γ [Ψ xs,bv b],[])))
 (br (Bm 1 c)
 (dk [.C,.q 1 4,.N,.D,.R,.X,.E] [.l l,.o o] λn cs1=>
 br ((0+n*4).ble cs1.length) (AA D (ι 7 1) [Ψ (Bi n 4 (ε (n*4) cs1)),Ψ [],iv 0] [] λr1 o1=>
 dk [.t,.C,.x,.X] [.v r1] λc4 l4=>
 br (Bm 0 c4)
 (dk [.L,.B,.N,.E] [.l l4,.o o1] λxs b=>
 Θ ((γ [Ψ xs,bv b],[])))
 (br (Bm 3 c4)
 (dk [.L,.N,.E] [.l l4,.o o1] λxs=>
 Θ ((γ [Ψ xs,bv Δ],[])))
 (Ξ))) Ξ)
 (Ξ)):=by kernel_rfl
theorem Alg(t0:Rw)(n4:Nat)(c4:List AV)(t5:Int):CS A D Al hn7 .n 7 0 (AJ mf7 0).fst (AJ mf7 0).snd [Ψ t0,χ 0 0 n4 4,iv t5] [{ cells:=c4,st:=Δ,ex:=Δ }] =
 br (A.lt t5 ↑(AL t0))
 (unI t5 λi=>
 Bj t0 i λcs=>
 dk [.L,.B,.L,.B,.N] [.l cs] λxs b xs1 b1=>
 Ae D (ω 17) [φ [Ψ xs,bv b,Ψ xs1,bv b1]] [] [.t,.A,.L,.B,.L,.B,.N,.I,.N,.E] λxs2 b2 xs3 b3 n=>
 br (A.lt n 0)
 (Θ ((γ [bv Δ,Ψ [],bv Φ],[BO.del])))
 (br (A.eq n 0)
 (br (AZ (n4+1) 64) (br ((0+n4*4).ble c4.length) (AA D (ι 7 0) [Ψ t0,χ 0 0 (n4+1) 4,iv (A.add δ t5 1)] [θ (AqT 0 (ε (0+n4*4) c4)++[Ψ xs2,bv b2,Ψ xs3,bv b3]) Δ Δ] λr1 o1=>
 As 1 [3] (AH.mk [(3,θ (AqT 0 (ε (0+n4*4) c4)++[Ψ xs2,bv b2,Ψ xs3,bv b3]) Δ Δ),(2,θ [Ψ xs2,bv b2,Ψ xs3,bv b3] Δ Δ),(1,bk [Ψ xs2,bv b2,Ψ xs3,bv b3])] 4 Ξ) [0] r1 o1) Ξ) Ξ)
 (AA D (ι 7 0) [Ψ t0,χ 0 0 n4 4,iv (A.add δ t5 1)] [θ c4 Δ Δ] λr1 o1=>
 As 1 [0] (AH.mk [(1,bk [Ψ xs2,bv b2,Ψ xs3,bv b3]),(0,θ c4 Δ Δ)] 2 Ξ) [] r1 o1)))
 (Θ ((γ [iv 0,χ 1 0 n4 4],[BO.del,AqV (θ c4 Δ Δ)]))):=by kernel_rfl
theorem Alh(t4 t8:Rw)(t9:Int):CS A D Al hn7 (.b (.b (.b (.b (.t (.b (.b (.b (.b (.b (.b .n (.b (.b .n (.b .n (.b .n (.b .n (.t (.t (.t (.b (.b (.b (.b (.b .n (.b (.b .n (.b .n (.t (.t .n)))) .n)) .n) .n) .n) .n)))))))) .n)) .n) .n) .n) .n) (.b .n (.b .n (.b .n (.b .n (.b .n (.b .n (.b .n (.b .n (.b .n (.t (.t (.f (.b .n (.b .n (.b .n (.b .n (.b .n (.b .n (.b .n (.t (.f .n))))))))))))))))))))))) (.f (.b .n (.b .n (.b .n (.b .n (.b .n (.b .n (.b .n (.b .n (.b .n (.b .n (.f (.f (.b .n (.b .n (.b .n (.b .n (.b .n (.b .n (.b .n (.b .n (.f .n))))))))))))))))))))))) .n) .n) .n) 7 1 (AJ mf7 1).fst (AJ mf7 1).snd [Ψ t4,Ψ t8,iv t9] [] =
 br (A.lt t9 ↑(AL t4))
 (unI t9 λi=>
 Bj t4 i λcs=>
 dk [.L,.B,.L,.B,.N] [.l cs] λxs b xs1 b1=>
 Ae D (ι 7 2) [Ψ t4,Ψ t8,iv t9,η 0 0,bv Δ,η 1 0,η 2 0,bv Φ,bv Φ,iv 0] [bk [Ψ xs,bv b,Ψ xs1,bv b1],bk [bv Φ,Ψ []],bk [bv Φ,Ψ []]] [.t,.C,.x,.X,.Y] λc l4 o=>
 br (Bm 5 c)
 (dk [.L,.L,.I,.P 0 0,.B,.P 1 0,.P 2 0,.B,.B,.N,.T,.L,.B,.L,.B,.N,.T,.B,.L,.N,.T,.B,.L,.N,.E] [.l l4,.o o] λxs2 xs3 n b2 b3 b4 xs4 b5 xs5 b6 b7 xs6 b8 xs7=>
 br b3
 (br b3 (br b4
 (Ae D (ω 21) [φ [bv b7,Ψ xs6],φ [bv b8,Ψ xs7]] [] [.i,.E] λn1=>
 br (A.lt 0 n1)
 (Θ ((γ [bv Δ,Ψ [],bv Φ],[])))
 (br (A.not b2)
 (AA D (ι 7 1) [Ψ xs2,Ψ xs3,iv (A.add δ n 1)] [] λr2 o2=>
 As 0 [] (AH.mk [(2,bk [bv b8,Ψ xs7]),(1,bk [bv b7,Ψ xs6]),(0,bk [Ψ xs4,bv b5,Ψ xs5,bv b6])] 3 Ξ) [] r2 o2)
 (Ae D (ω 22) [φ [Ψ xs4,bv b5,Ψ xs5]] [] [.a,.L,.B,.L,.N,.E] λxs8 b9 xs9=>
 br b3 (br b3 (br b4 (AA D (ω 21) [φ [bv b7,Ψ xs6],φ [bv b8,Ψ xs7]] [] λr3 o3=>
 dk [.i,.E] [.v r3,.o o3] λn2=>
 br (A.eq n2 0)
 (Ae D (ω 24) [φ [bv b7,Ψ xs6]] [] [.a,.L,.B,.L,.N,.E] λxs10 b10 xs11=>
 Ae D (ω 23) [φ [Ψ xs8,bv b9,Ψ xs9],φ [Ψ xs10,bv b10,Ψ xs11]] [] [.a,.L,.B,.L,.N,.E] λxs12 b11 xs13=>
 Ae D (ω 17) [φ [Ψ xs12,bv b11,Ψ xs13,bv Δ]] [] [.t,.A,.L,.B,.L,.B,.N,.I,.N,.E] λxs14 b12 xs15 b13 _=>
 Ae D (ω 25) [Ψ xs3,φ [Ψ xs14,bv b12,Ψ xs15,bv b13]] [] [.l,.E] λxs16=>
 AA D (ι 7 1) [Ψ xs2,Ψ xs16,iv (A.add δ n 1)] [] λr8 o8=>
 As 0 [] (AH.mk [(4,bk [Ψ xs14,bv b12,Ψ xs15,bv b13]),(3,bk [Ψ xs8,bv b9,Ψ xs9]),(2,bk [bv b8,Ψ xs7]),(1,bk [bv b7,Ψ xs6]),(0,bk [Ψ xs4,bv b5,Ψ xs5,bv b6])] 5 Ξ) [] r8 o8)
 (br b3 (AA D (ω 24) [φ [bv b7,Ψ xs6]] [] λr4 o4=>
 dk [.a,.L,.B,.L,.N,.E] [.v r4,.o o4] λxs10 b10 xs11=>
 Ae D (ω 23) [φ [Ψ xs8,bv b9,Ψ xs9],φ [Ψ xs10,bv b10,Ψ xs11]] [] [.a,.L,.B,.L,.N,.E] λxs12 b11 xs13=>
 Ae D (ω 25) [Ψ xs3,φ [Ψ xs12,bv b11,Ψ xs13,bv Φ]] [] [.l,.E] λxs14=>
 br b4 (AA D (ω 24) [φ [bv b8,Ψ xs7]] [] λr7 o7=>
 dk [.a,.L,.B,.L,.N,.E] [.v r7,.o o7] λxs15 b12 xs16=>
 Ae D (ω 23) [φ [Ψ xs15,bv b12,Ψ xs16],φ [Ψ xs8,bv b9,Ψ xs9]] [] [.a,.L,.B,.L,.N,.E] λxs17 b13 xs18=>
 Ae D (ω 25) [Ψ xs14,φ [Ψ xs17,bv b13,Ψ xs18,bv Φ]] [] [.l,.E] λxs19=>
 AA D (ι 7 1) [Ψ xs2,Ψ xs19,iv (A.add δ n 1)] [] λr10 o10=>
 As 0 [] (AH.mk [(3,bk [Ψ xs8,bv b9,Ψ xs9]),(2,bk [bv b8,Ψ xs7]),(1,bk [bv b7,Ψ xs6]),(0,bk [Ψ xs4,bv b5,Ψ xs5,bv b6])] 4 Ξ) [] r10 o10) Ξ) Ξ)) Ξ) Ξ) Ξ)))
 (br (A.not b2)
 (AA D (ι 7 1) [Ψ xs2,Ψ xs3,iv (A.add δ n 1)] [] λr1 o1=>
 As 0 [] (AH.mk [(2,bk [bv b8,Ψ xs7]),(1,bk [bv b7,Ψ xs6]),(0,bk [Ψ xs4,bv b5,Ψ xs5,bv b6])] 3 Ξ) [] r1 o1)
 (Ae D (ω 22) [φ [Ψ xs4,bv b5,Ψ xs5]] [] [.a,.L,.B,.L,.N,.E] λxs8 b9 xs9=>
 br b3 (br b3 (br b4 Ξ (br b3 (AA D (ω 24) [φ [bv b7,Ψ xs6]] [] λr2 o2=>
 dk [.a,.L,.B,.L,.N,.E] [.v r2,.o o2] λxs10 b10 xs11=>
 Ae D (ω 23) [φ [Ψ xs8,bv b9,Ψ xs9],φ [Ψ xs10,bv b10,Ψ xs11]] [] [.a,.L,.B,.L,.N,.E] λxs12 b11 xs13=>
 Ae D (ω 25) [Ψ xs3,φ [Ψ xs12,bv b11,Ψ xs13,bv Φ]] [] [.l,.E] λxs14=>
 br b4 Ξ (AA D (ι 7 1) [Ψ xs2,Ψ xs14,iv (A.add δ n 1)] [] λr5 o5=>
 As 0 [] (AH.mk [(3,bk [Ψ xs8,bv b9,Ψ xs9]),(2,bk [bv b8,Ψ xs7]),(1,bk [bv b7,Ψ xs6]),(0,bk [Ψ xs4,bv b5,Ψ xs5,bv b6])] 4 Ξ) [] r5 o5)) Ξ)) Ξ) Ξ))) Ξ)
 (br b3 Ξ (br (A.not b2)
 (AA D (ι 7 1) [Ψ xs2,Ψ xs3,iv (A.add δ n 1)] [] λr1 o1=>
 As 0 [] (AH.mk [(2,bk [bv b8,Ψ xs7]),(1,bk [bv b7,Ψ xs6]),(0,bk [Ψ xs4,bv b5,Ψ xs5,bv b6])] 3 Ξ) [] r1 o1)
 (Ae D (ω 22) [φ [Ψ xs4,bv b5,Ψ xs5]] [] [.a,.L,.B,.L,.N,.E] λxs8 b9 xs9=>
 br b3 Ξ (br b3 Ξ (br b3 Ξ (br b4
 (Ae D (ω 24) [φ [bv b8,Ψ xs7]] [] [.a,.L,.B,.L,.N,.E] λxs10 b10 xs11=>
 Ae D (ω 23) [φ [Ψ xs10,bv b10,Ψ xs11],φ [Ψ xs8,bv b9,Ψ xs9]] [] [.a,.L,.B,.L,.N,.E] λxs12 b11 xs13=>
 Ae D (ω 25) [Ψ xs3,φ [Ψ xs12,bv b11,Ψ xs13,bv Φ]] [] [.l,.E] λxs14=>
 AA D (ι 7 1) [Ψ xs2,Ψ xs14,iv (A.add δ n 1)] [] λr5 o5=>
 As 0 [] (AH.mk [(3,bk [Ψ xs8,bv b9,Ψ xs9]),(2,bk [bv b8,Ψ xs7]),(1,bk [bv b7,Ψ xs6]),(0,bk [Ψ xs4,bv b5,Ψ xs5,bv b6])] 4 Ξ) [] r5 o5)
 (AA D (ι 7 1) [Ψ xs2,Ψ xs3,iv (A.add δ n 1)] [] λr2 o2=>
 As 0 [] (AH.mk [(3,bk [Ψ xs8,bv b9,Ψ xs9]),(2,bk [bv b8,Ψ xs7]),(1,bk [bv b7,Ψ xs6]),(0,bk [Ψ xs4,bv b5,Ψ xs5,bv b6])] 4 Ξ) [] r2 o2))))))))
 (Ξ))
 (Θ ((γ [iv 2,Ψ t8],[]))):=by kernel_rfl
theorem Ali(t4 t8:Rw)(t9:Int)(b10_0:Rw)(b10_1:Bool)(b10_2:Rw)(b10_3 t11 b12_0:Bool)(b12_1:Rw)(b13_0:Bool)(b13_1:Rw)(t14 t15:Bool)(t16:Int):CS A D Al hn7 (.b (.b (.b .n (.b .n (.b (.b (.b (.b (.f (.b (.b (.b .n (.b (.b (.b (.b (.b (.b .n (.b .n (.b .n (.b .n (.b (.b (.b (.b (.b (.b (.t .n) .n) .n) .n) .n) .n) .n))))) .n) (.b (.b (.b (.b (.b (.b (.b (.b .n (.b (.b (.b (.b (.t .n) .n) .n) .n) .n)) .n) (.b (.b .n (.b .n (.b (.b .n (.b .n (.t .n))) .n))) .n)) .n) .n) .n) .n) .n)) .n) .n) (.b .n (.b .n (.b .n (.b .n (.b .n (.b .n (.b .n (.t .n)))))))))) .n) .n)) .n) (.b .n (.t (.b .n (.b .n (.b (.b (.b (.b (.b (.b (.b .n (.b .n (.b .n (.b .n (.b (.b (.b (.b (.b (.b (.f .n) .n) .n) .n) .n) .n) .n))))) .n) (.b (.b (.b (.b (.b (.b (.b (.b .n (.b (.b (.b (.b (.f .n) .n) .n) .n) .n)) .n) (.b (.b .n (.b .n (.b (.b .n (.b .n (.f .n))) .n))) .n)) .n) .n) .n) .n) .n)) .n) .n) .n) .n)))))) .n) (.b .n (.b (.b (.f (.b (.b (.b .n (.b (.b (.b (.b (.b (.b .n (.b .n (.b .n (.b .n (.b (.b (.b (.b (.b (.b (.t .n) .n) .n) .n) .n) .n) .n))))) .n) (.b (.b (.b (.b (.b (.b (.b (.b .n (.b (.b (.b (.b (.t .n) .n) .n) .n) .n)) .n) (.b (.b .n (.b .n (.b (.b .n (.b .n (.t .n))) .n))) .n)) .n) .n) .n) .n) .n)) .n) .n) (.b .n (.b .n (.b .n (.b .n (.b .n (.b .n (.b .n (.t .n)))))))))) .n) .n)) .n) (.b .n (.t (.b .n (.b .n (.b (.b (.b (.b (.b (.b (.b .n (.b .n (.b .n (.b .n (.b (.b (.b (.b (.b (.b (.f .n) .n) .n) .n) .n) .n) .n))))) .n) (.b (.b (.b (.b (.b (.b (.b (.b .n (.b (.b (.b (.b (.f .n) .n) .n) .n) .n)) .n) (.b (.b .n (.b .n (.b (.b .n (.b .n (.f .n))) .n))) .n)) .n) .n) .n) .n) .n)) .n) .n) .n) .n)))))))))) .n) .n) 7 2 (AJ mf7 2).fst (AJ mf7 2).snd [Ψ t4,Ψ t8,iv t9,η 0 0,bv t11,η 1 0,η 2 0,bv t14,bv t15,iv t16] [bk [Ψ b10_0,bv b10_1,Ψ b10_2,bv b10_3],bk [bv b12_0,Ψ b12_1],bk [bv b13_0,Ψ b13_1]] =
 br (A.lt t16 ↑(AL t4))
 (unI t16 λi=>
 Bj t4 i λcs=>
 dk [.L,.B,.L,.B,.N] [.l cs] λxs b xs1 b1=>
 Ae D (ω 18) [φ [Ψ xs,bv b,Ψ xs1],φ [Ψ b10_0,bv b10_1,Ψ b10_2]] [] [.i,.E] λn=>
 br (A.eq n 0)
 (AA D (ι 7 2) [Ψ t4,Ψ t8,iv t9,η 0 0,bv t11,η 1 0,η 2 0,bv t14,bv t15,iv (A.add δ t16 1)] [bk [Ψ b10_0,bv b10_1,Ψ b10_2,bv b10_3],bk [bv b12_0,Ψ b12_1],bk [bv b13_0,Ψ b13_1]] λr1 o1=>
 As 3 [0,1,2] (AH.mk [(2,bk [bv b13_0,Ψ b13_1]),(1,bk [bv b12_0,Ψ b12_1]),(3,bk [Ψ xs,bv b,Ψ xs1,bv b1]),(0,bk [Ψ b10_0,bv b10_1,Ψ b10_2,bv b10_3])] 4 Ξ) [1,2] r1 o1)
 (br (A.lt t16 t9)
 (Ae D (ω 19) [φ [bv b,Ψ xs1]] [] [.a,.B,.L,.N,.E] λb2 xs2=>
 br (A.lt n 0)
 (Ae D (ω 20) [φ [bv b,Ψ xs1]] [] [.a,.B,.L,.N,.E] λb3 xs3=>
 br (A.lt 0 n) Ξ (br b1
 (br (A.not t14)
 (br (A.lt n 0) (br (A.not t15)
 (AA D (ι 7 2) [Ψ t4,Ψ t8,iv t9,η 0 0,bv Φ,η 1 0,η 2 0,bv Δ,bv Δ,iv (A.add δ t16 1)] [bk [Ψ b10_0,bv b10_1,Ψ b10_2,bv b10_3],bk [bv b3,Ψ xs3],bk [bv b3,Ψ xs3]] λr3 o3=>
 As 3 [0,1,2] (AH.mk [(2,bk [bv b3,Ψ xs3]),(1,bk [bv b3,Ψ xs3]),(4,bk [bv b3,Ψ xs3]),(3,bk [Ψ xs,bv b,Ψ xs1,bv b1]),(0,bk [Ψ b10_0,bv b10_1,Ψ b10_2,bv b10_3])] 5 Ξ) [1,2] r3 o3)
 (Ae D (ω 21) [φ [bv b3,Ψ xs3],φ [bv b13_0,Ψ b13_1]] [] [.i,.E] λn1=>
 br (A.lt n1 0)
 (AA D (ι 7 2) [Ψ t4,Ψ t8,iv t9,η 0 0,bv Φ,η 1 0,η 2 0,bv Δ,bv Δ,iv (A.add δ t16 1)] [bk [Ψ b10_0,bv b10_1,Ψ b10_2,bv b10_3],bk [bv b3,Ψ xs3],bk [bv b3,Ψ xs3]] λr4 o4=>
 As 3 [0,1,2] (AH.mk [(2,bk [bv b3,Ψ xs3]),(1,bk [bv b3,Ψ xs3]),(4,bk [bv b3,Ψ xs3]),(3,bk [Ψ xs,bv b,Ψ xs1,bv b1]),(0,bk [Ψ b10_0,bv b10_1,Ψ b10_2,bv b10_3])] 5 Ξ) [1,2] r4 o4)
 (AA D (ι 7 2) [Ψ t4,Ψ t8,iv t9,η 0 0,bv Φ,η 1 0,η 2 0,bv Δ,bv t15,iv (A.add δ t16 1)] [bk [Ψ b10_0,bv b10_1,Ψ b10_2,bv b10_3],bk [bv b3,Ψ xs3],bk [bv b13_0,Ψ b13_1]] λr4 o4=>
 As 3 [0,1,2] (AH.mk [(2,bk [bv b13_0,Ψ b13_1]),(1,bk [bv b3,Ψ xs3]),(4,bk [bv b3,Ψ xs3]),(3,bk [Ψ xs,bv b,Ψ xs1,bv b1]),(0,bk [Ψ b10_0,bv b10_1,Ψ b10_2,bv b10_3])] 5 Ξ) [1,2] r4 o4))) Ξ)
 (Ae D (ω 21) [φ [bv b3,Ψ xs3],φ [bv b12_0,Ψ b12_1]] [] [.i,.E] λn1=>
 br (A.lt 0 n1)
 (br (A.lt n 0) (br (A.not t15)
 (AA D (ι 7 2) [Ψ t4,Ψ t8,iv t9,η 0 0,bv Φ,η 1 0,η 2 0,bv Δ,bv Δ,iv (A.add δ t16 1)] [bk [Ψ b10_0,bv b10_1,Ψ b10_2,bv b10_3],bk [bv b3,Ψ xs3],bk [bv b3,Ψ xs3]] λr4 o4=>
 As 3 [0,1,2] (AH.mk [(2,bk [bv b3,Ψ xs3]),(1,bk [bv b3,Ψ xs3]),(4,bk [bv b3,Ψ xs3]),(3,bk [Ψ xs,bv b,Ψ xs1,bv b1]),(0,bk [Ψ b10_0,bv b10_1,Ψ b10_2,bv b10_3])] 5 Ξ) [1,2] r4 o4)
 (Ae D (ω 21) [φ [bv b3,Ψ xs3],φ [bv b13_0,Ψ b13_1]] [] [.i,.E] λn2=>
 br (A.lt n2 0)
 (AA D (ι 7 2) [Ψ t4,Ψ t8,iv t9,η 0 0,bv Φ,η 1 0,η 2 0,bv Δ,bv Δ,iv (A.add δ t16 1)] [bk [Ψ b10_0,bv b10_1,Ψ b10_2,bv b10_3],bk [bv b3,Ψ xs3],bk [bv b3,Ψ xs3]] λr5 o5=>
 As 3 [0,1,2] (AH.mk [(2,bk [bv b3,Ψ xs3]),(1,bk [bv b3,Ψ xs3]),(4,bk [bv b3,Ψ xs3]),(3,bk [Ψ xs,bv b,Ψ xs1,bv b1]),(0,bk [Ψ b10_0,bv b10_1,Ψ b10_2,bv b10_3])] 5 Ξ) [1,2] r5 o5)
 (AA D (ι 7 2) [Ψ t4,Ψ t8,iv t9,η 0 0,bv Φ,η 1 0,η 2 0,bv Δ,bv t15,iv (A.add δ t16 1)] [bk [Ψ b10_0,bv b10_1,Ψ b10_2,bv b10_3],bk [bv b3,Ψ xs3],bk [bv b13_0,Ψ b13_1]] λr5 o5=>
 As 3 [0,1,2] (AH.mk [(2,bk [bv b13_0,Ψ b13_1]),(1,bk [bv b3,Ψ xs3]),(4,bk [bv b3,Ψ xs3]),(3,bk [Ψ xs,bv b,Ψ xs1,bv b1]),(0,bk [Ψ b10_0,bv b10_1,Ψ b10_2,bv b10_3])] 5 Ξ) [1,2] r5 o5))) Ξ)
 (br (A.lt n 0) (br (A.not t15)
 (AA D (ι 7 2) [Ψ t4,Ψ t8,iv t9,η 0 0,bv Φ,η 1 0,η 2 0,bv t14,bv Δ,iv (A.add δ t16 1)] [bk [Ψ b10_0,bv b10_1,Ψ b10_2,bv b10_3],bk [bv b12_0,Ψ b12_1],bk [bv b3,Ψ xs3]] λr4 o4=>
 As 3 [0,1,2] (AH.mk [(2,bk [bv b3,Ψ xs3]),(1,bk [bv b12_0,Ψ b12_1]),(4,bk [bv b3,Ψ xs3]),(3,bk [Ψ xs,bv b,Ψ xs1,bv b1]),(0,bk [Ψ b10_0,bv b10_1,Ψ b10_2,bv b10_3])] 5 Ξ) [1,2] r4 o4)
 (Ae D (ω 21) [φ [bv b3,Ψ xs3],φ [bv b13_0,Ψ b13_1]] [] [.i,.E] λn2=>
 br (A.lt n2 0)
 (AA D (ι 7 2) [Ψ t4,Ψ t8,iv t9,η 0 0,bv Φ,η 1 0,η 2 0,bv t14,bv Δ,iv (A.add δ t16 1)] [bk [Ψ b10_0,bv b10_1,Ψ b10_2,bv b10_3],bk [bv b12_0,Ψ b12_1],bk [bv b3,Ψ xs3]] λr5 o5=>
 As 3 [0,1,2] (AH.mk [(2,bk [bv b3,Ψ xs3]),(1,bk [bv b12_0,Ψ b12_1]),(4,bk [bv b3,Ψ xs3]),(3,bk [Ψ xs,bv b,Ψ xs1,bv b1]),(0,bk [Ψ b10_0,bv b10_1,Ψ b10_2,bv b10_3])] 5 Ξ) [1,2] r5 o5)
 (AA D (ι 7 2) [Ψ t4,Ψ t8,iv t9,η 0 0,bv Φ,η 1 0,η 2 0,bv t14,bv t15,iv (A.add δ t16 1)] [bk [Ψ b10_0,bv b10_1,Ψ b10_2,bv b10_3],bk [bv b12_0,Ψ b12_1],bk [bv b13_0,Ψ b13_1]] λr5 o5=>
 As 3 [0,1,2] (AH.mk [(2,bk [bv b13_0,Ψ b13_1]),(1,bk [bv b12_0,Ψ b12_1]),(4,bk [bv b3,Ψ xs3]),(3,bk [Ψ xs,bv b,Ψ xs1,bv b1]),(0,bk [Ψ b10_0,bv b10_1,Ψ b10_2,bv b10_3])] 5 Ξ) [1,2] r5 o5))) Ξ)))
 (br (A.lt n 0) (br (A.not t15)
 (AA D (ι 7 2) [Ψ t4,Ψ t8,iv t9,η 0 0,bv Φ,η 1 0,η 2 0,bv t14,bv Δ,iv (A.add δ t16 1)] [bk [Ψ b10_0,bv b10_1,Ψ b10_2,bv b10_3],bk [bv b12_0,Ψ b12_1],bk [bv b3,Ψ xs3]] λr3 o3=>
 As 3 [0,1,2] (AH.mk [(2,bk [bv b3,Ψ xs3]),(1,bk [bv b12_0,Ψ b12_1]),(4,bk [bv b3,Ψ xs3]),(3,bk [Ψ xs,bv b,Ψ xs1,bv b1]),(0,bk [Ψ b10_0,bv b10_1,Ψ b10_2,bv b10_3])] 5 Ξ) [1,2] r3 o3)
 (Ae D (ω 21) [φ [bv b3,Ψ xs3],φ [bv b13_0,Ψ b13_1]] [] [.i,.E] λn1=>
 br (A.lt n1 0)
 (AA D (ι 7 2) [Ψ t4,Ψ t8,iv t9,η 0 0,bv Φ,η 1 0,η 2 0,bv t14,bv Δ,iv (A.add δ t16 1)] [bk [Ψ b10_0,bv b10_1,Ψ b10_2,bv b10_3],bk [bv b12_0,Ψ b12_1],bk [bv b3,Ψ xs3]] λr4 o4=>
 As 3 [0,1,2] (AH.mk [(2,bk [bv b3,Ψ xs3]),(1,bk [bv b12_0,Ψ b12_1]),(4,bk [bv b3,Ψ xs3]),(3,bk [Ψ xs,bv b,Ψ xs1,bv b1]),(0,bk [Ψ b10_0,bv b10_1,Ψ b10_2,bv b10_3])] 5 Ξ) [1,2] r4 o4)
 (AA D (ι 7 2) [Ψ t4,Ψ t8,iv t9,η 0 0,bv Φ,η 1 0,η 2 0,bv t14,bv t15,iv (A.add δ t16 1)] [bk [Ψ b10_0,bv b10_1,Ψ b10_2,bv b10_3],bk [bv b12_0,Ψ b12_1],bk [bv b13_0,Ψ b13_1]] λr4 o4=>
 As 3 [0,1,2] (AH.mk [(2,bk [bv b13_0,Ψ b13_1]),(1,bk [bv b12_0,Ψ b12_1]),(4,bk [bv b3,Ψ xs3]),(3,bk [Ψ xs,bv b,Ψ xs1,bv b1]),(0,bk [Ψ b10_0,bv b10_1,Ψ b10_2,bv b10_3])] 5 Ξ) [1,2] r4 o4))) Ξ)))
 (br (A.lt 0 n) (br (A.not t14)
 (br (A.lt n 0) Ξ (br b1
 (br (A.not t15)
 (AA D (ι 7 2) [Ψ t4,Ψ t8,iv t9,η 0 0,bv Φ,η 1 0,η 2 0,bv Δ,bv Δ,iv (A.add δ t16 1)] [bk [Ψ b10_0,bv b10_1,Ψ b10_2,bv b10_3],bk [bv b2,Ψ xs2],bk [bv b2,Ψ xs2]] λr2 o2=>
 As 3 [0,1,2] (AH.mk [(2,bk [bv b2,Ψ xs2]),(1,bk [bv b2,Ψ xs2]),(4,bk [bv b2,Ψ xs2]),(3,bk [Ψ xs,bv b,Ψ xs1,bv b1]),(0,bk [Ψ b10_0,bv b10_1,Ψ b10_2,bv b10_3])] 5 Ξ) [1,2] r2 o2)
 (Ae D (ω 21) [φ [bv b2,Ψ xs2],φ [bv b13_0,Ψ b13_1]] [] [.i,.E] λn1=>
 br (A.lt n1 0)
 (AA D (ι 7 2) [Ψ t4,Ψ t8,iv t9,η 0 0,bv Φ,η 1 0,η 2 0,bv Δ,bv Δ,iv (A.add δ t16 1)] [bk [Ψ b10_0,bv b10_1,Ψ b10_2,bv b10_3],bk [bv b2,Ψ xs2],bk [bv b2,Ψ xs2]] λr3 o3=>
 As 3 [0,1,2] (AH.mk [(2,bk [bv b2,Ψ xs2]),(1,bk [bv b2,Ψ xs2]),(4,bk [bv b2,Ψ xs2]),(3,bk [Ψ xs,bv b,Ψ xs1,bv b1]),(0,bk [Ψ b10_0,bv b10_1,Ψ b10_2,bv b10_3])] 5 Ξ) [1,2] r3 o3)
 (AA D (ι 7 2) [Ψ t4,Ψ t8,iv t9,η 0 0,bv Φ,η 1 0,η 2 0,bv Δ,bv t15,iv (A.add δ t16 1)] [bk [Ψ b10_0,bv b10_1,Ψ b10_2,bv b10_3],bk [bv b2,Ψ xs2],bk [bv b13_0,Ψ b13_1]] λr3 o3=>
 As 3 [0,1,2] (AH.mk [(2,bk [bv b13_0,Ψ b13_1]),(1,bk [bv b2,Ψ xs2]),(4,bk [bv b2,Ψ xs2]),(3,bk [Ψ xs,bv b,Ψ xs1,bv b1]),(0,bk [Ψ b10_0,bv b10_1,Ψ b10_2,bv b10_3])] 5 Ξ) [1,2] r3 o3)))
 (AA D (ι 7 2) [Ψ t4,Ψ t8,iv t9,η 0 0,bv Φ,η 1 0,η 2 0,bv Δ,bv t15,iv (A.add δ t16 1)] [bk [Ψ b10_0,bv b10_1,Ψ b10_2,bv b10_3],bk [bv b2,Ψ xs2],bk [bv b13_0,Ψ b13_1]] λr2 o2=>
 As 3 [0,1,2] (AH.mk [(2,bk [bv b13_0,Ψ b13_1]),(1,bk [bv b2,Ψ xs2]),(4,bk [bv b2,Ψ xs2]),(3,bk [Ψ xs,bv b,Ψ xs1,bv b1]),(0,bk [Ψ b10_0,bv b10_1,Ψ b10_2,bv b10_3])] 5 Ξ) [1,2] r2 o2)))
 (Ae D (ω 21) [φ [bv b2,Ψ xs2],φ [bv b12_0,Ψ b12_1]] [] [.i,.E] λn1=>
 br (A.lt 0 n1)
 (br (A.lt n 0) Ξ (br b1
 (br (A.not t15)
 (AA D (ι 7 2) [Ψ t4,Ψ t8,iv t9,η 0 0,bv Φ,η 1 0,η 2 0,bv Δ,bv Δ,iv (A.add δ t16 1)] [bk [Ψ b10_0,bv b10_1,Ψ b10_2,bv b10_3],bk [bv b2,Ψ xs2],bk [bv b2,Ψ xs2]] λr3 o3=>
 As 3 [0,1,2] (AH.mk [(2,bk [bv b2,Ψ xs2]),(1,bk [bv b2,Ψ xs2]),(4,bk [bv b2,Ψ xs2]),(3,bk [Ψ xs,bv b,Ψ xs1,bv b1]),(0,bk [Ψ b10_0,bv b10_1,Ψ b10_2,bv b10_3])] 5 Ξ) [1,2] r3 o3)
 (Ae D (ω 21) [φ [bv b2,Ψ xs2],φ [bv b13_0,Ψ b13_1]] [] [.i,.E] λn2=>
 br (A.lt n2 0)
 (AA D (ι 7 2) [Ψ t4,Ψ t8,iv t9,η 0 0,bv Φ,η 1 0,η 2 0,bv Δ,bv Δ,iv (A.add δ t16 1)] [bk [Ψ b10_0,bv b10_1,Ψ b10_2,bv b10_3],bk [bv b2,Ψ xs2],bk [bv b2,Ψ xs2]] λr4 o4=>
 As 3 [0,1,2] (AH.mk [(2,bk [bv b2,Ψ xs2]),(1,bk [bv b2,Ψ xs2]),(4,bk [bv b2,Ψ xs2]),(3,bk [Ψ xs,bv b,Ψ xs1,bv b1]),(0,bk [Ψ b10_0,bv b10_1,Ψ b10_2,bv b10_3])] 5 Ξ) [1,2] r4 o4)
 (AA D (ι 7 2) [Ψ t4,Ψ t8,iv t9,η 0 0,bv Φ,η 1 0,η 2 0,bv Δ,bv t15,iv (A.add δ t16 1)] [bk [Ψ b10_0,bv b10_1,Ψ b10_2,bv b10_3],bk [bv b2,Ψ xs2],bk [bv b13_0,Ψ b13_1]] λr4 o4=>
 As 3 [0,1,2] (AH.mk [(2,bk [bv b13_0,Ψ b13_1]),(1,bk [bv b2,Ψ xs2]),(4,bk [bv b2,Ψ xs2]),(3,bk [Ψ xs,bv b,Ψ xs1,bv b1]),(0,bk [Ψ b10_0,bv b10_1,Ψ b10_2,bv b10_3])] 5 Ξ) [1,2] r4 o4)))
 (AA D (ι 7 2) [Ψ t4,Ψ t8,iv t9,η 0 0,bv Φ,η 1 0,η 2 0,bv Δ,bv t15,iv (A.add δ t16 1)] [bk [Ψ b10_0,bv b10_1,Ψ b10_2,bv b10_3],bk [bv b2,Ψ xs2],bk [bv b13_0,Ψ b13_1]] λr3 o3=>
 As 3 [0,1,2] (AH.mk [(2,bk [bv b13_0,Ψ b13_1]),(1,bk [bv b2,Ψ xs2]),(4,bk [bv b2,Ψ xs2]),(3,bk [Ψ xs,bv b,Ψ xs1,bv b1]),(0,bk [Ψ b10_0,bv b10_1,Ψ b10_2,bv b10_3])] 5 Ξ) [1,2] r3 o3)))
 (br (A.lt n 0) Ξ (br b1
 (br (A.not t15)
 (AA D (ι 7 2) [Ψ t4,Ψ t8,iv t9,η 0 0,bv Φ,η 1 0,η 2 0,bv t14,bv Δ,iv (A.add δ t16 1)] [bk [Ψ b10_0,bv b10_1,Ψ b10_2,bv b10_3],bk [bv b12_0,Ψ b12_1],bk [bv b2,Ψ xs2]] λr3 o3=>
 As 3 [0,1,2] (AH.mk [(2,bk [bv b2,Ψ xs2]),(1,bk [bv b12_0,Ψ b12_1]),(4,bk [bv b2,Ψ xs2]),(3,bk [Ψ xs,bv b,Ψ xs1,bv b1]),(0,bk [Ψ b10_0,bv b10_1,Ψ b10_2,bv b10_3])] 5 Ξ) [1,2] r3 o3)
 (Ae D (ω 21) [φ [bv b2,Ψ xs2],φ [bv b13_0,Ψ b13_1]] [] [.i,.E] λn2=>
 br (A.lt n2 0)
 (AA D (ι 7 2) [Ψ t4,Ψ t8,iv t9,η 0 0,bv Φ,η 1 0,η 2 0,bv t14,bv Δ,iv (A.add δ t16 1)] [bk [Ψ b10_0,bv b10_1,Ψ b10_2,bv b10_3],bk [bv b12_0,Ψ b12_1],bk [bv b2,Ψ xs2]] λr4 o4=>
 As 3 [0,1,2] (AH.mk [(2,bk [bv b2,Ψ xs2]),(1,bk [bv b12_0,Ψ b12_1]),(4,bk [bv b2,Ψ xs2]),(3,bk [Ψ xs,bv b,Ψ xs1,bv b1]),(0,bk [Ψ b10_0,bv b10_1,Ψ b10_2,bv b10_3])] 5 Ξ) [1,2] r4 o4)
 (AA D (ι 7 2) [Ψ t4,Ψ t8,iv t9,η 0 0,bv Φ,η 1 0,η 2 0,bv t14,bv t15,iv (A.add δ t16 1)] [bk [Ψ b10_0,bv b10_1,Ψ b10_2,bv b10_3],bk [bv b12_0,Ψ b12_1],bk [bv b13_0,Ψ b13_1]] λr4 o4=>
 As 3 [0,1,2] (AH.mk [(2,bk [bv b13_0,Ψ b13_1]),(1,bk [bv b12_0,Ψ b12_1]),(4,bk [bv b2,Ψ xs2]),(3,bk [Ψ xs,bv b,Ψ xs1,bv b1]),(0,bk [Ψ b10_0,bv b10_1,Ψ b10_2,bv b10_3])] 5 Ξ) [1,2] r4 o4)))
 (AA D (ι 7 2) [Ψ t4,Ψ t8,iv t9,η 0 0,bv Φ,η 1 0,η 2 0,bv t14,bv t15,iv (A.add δ t16 1)] [bk [Ψ b10_0,bv b10_1,Ψ b10_2,bv b10_3],bk [bv b12_0,Ψ b12_1],bk [bv b13_0,Ψ b13_1]] λr3 o3=>
 As 3 [0,1,2] (AH.mk [(2,bk [bv b13_0,Ψ b13_1]),(1,bk [bv b12_0,Ψ b12_1]),(4,bk [bv b2,Ψ xs2]),(3,bk [Ψ xs,bv b,Ψ xs1,bv b1]),(0,bk [Ψ b10_0,bv b10_1,Ψ b10_2,bv b10_3])] 5 Ξ) [1,2] r3 o3))))) Ξ))
 (Ae D (ω 19) [φ [bv b,Ψ xs1]] [] [.a,.B,.L,.N,.E] λb2 xs2=>
 br (A.lt n 0)
 (Ae D (ω 20) [φ [bv b,Ψ xs1]] [] [.a,.B,.L,.N,.E] λb3 xs3=>
 br (A.lt 0 n) Ξ (br b1
 (br (A.not t14)
 (br (A.lt n 0) (br (A.not t15)
 (AA D (ι 7 2) [Ψ t4,Ψ t8,iv t9,η 0 0,bv t11,η 1 0,η 2 0,bv Δ,bv Δ,iv (A.add δ t16 1)] [bk [Ψ b10_0,bv b10_1,Ψ b10_2,bv b10_3],bk [bv b3,Ψ xs3],bk [bv b3,Ψ xs3]] λr3 o3=>
 As 3 [0,1,2] (AH.mk [(2,bk [bv b3,Ψ xs3]),(1,bk [bv b3,Ψ xs3]),(4,bk [bv b3,Ψ xs3]),(3,bk [Ψ xs,bv b,Ψ xs1,bv b1]),(0,bk [Ψ b10_0,bv b10_1,Ψ b10_2,bv b10_3])] 5 Ξ) [1,2] r3 o3)
 (Ae D (ω 21) [φ [bv b3,Ψ xs3],φ [bv b13_0,Ψ b13_1]] [] [.i,.E] λn1=>
 br (A.lt n1 0)
 (AA D (ι 7 2) [Ψ t4,Ψ t8,iv t9,η 0 0,bv t11,η 1 0,η 2 0,bv Δ,bv Δ,iv (A.add δ t16 1)] [bk [Ψ b10_0,bv b10_1,Ψ b10_2,bv b10_3],bk [bv b3,Ψ xs3],bk [bv b3,Ψ xs3]] λr4 o4=>
 As 3 [0,1,2] (AH.mk [(2,bk [bv b3,Ψ xs3]),(1,bk [bv b3,Ψ xs3]),(4,bk [bv b3,Ψ xs3]),(3,bk [Ψ xs,bv b,Ψ xs1,bv b1]),(0,bk [Ψ b10_0,bv b10_1,Ψ b10_2,bv b10_3])] 5 Ξ) [1,2] r4 o4)
 (AA D (ι 7 2) [Ψ t4,Ψ t8,iv t9,η 0 0,bv t11,η 1 0,η 2 0,bv Δ,bv t15,iv (A.add δ t16 1)] [bk [Ψ b10_0,bv b10_1,Ψ b10_2,bv b10_3],bk [bv b3,Ψ xs3],bk [bv b13_0,Ψ b13_1]] λr4 o4=>
 As 3 [0,1,2] (AH.mk [(2,bk [bv b13_0,Ψ b13_1]),(1,bk [bv b3,Ψ xs3]),(4,bk [bv b3,Ψ xs3]),(3,bk [Ψ xs,bv b,Ψ xs1,bv b1]),(0,bk [Ψ b10_0,bv b10_1,Ψ b10_2,bv b10_3])] 5 Ξ) [1,2] r4 o4))) Ξ)
 (Ae D (ω 21) [φ [bv b3,Ψ xs3],φ [bv b12_0,Ψ b12_1]] [] [.i,.E] λn1=>
 br (A.lt 0 n1)
 (br (A.lt n 0) (br (A.not t15)
 (AA D (ι 7 2) [Ψ t4,Ψ t8,iv t9,η 0 0,bv t11,η 1 0,η 2 0,bv Δ,bv Δ,iv (A.add δ t16 1)] [bk [Ψ b10_0,bv b10_1,Ψ b10_2,bv b10_3],bk [bv b3,Ψ xs3],bk [bv b3,Ψ xs3]] λr4 o4=>
 As 3 [0,1,2] (AH.mk [(2,bk [bv b3,Ψ xs3]),(1,bk [bv b3,Ψ xs3]),(4,bk [bv b3,Ψ xs3]),(3,bk [Ψ xs,bv b,Ψ xs1,bv b1]),(0,bk [Ψ b10_0,bv b10_1,Ψ b10_2,bv b10_3])] 5 Ξ) [1,2] r4 o4)
 (Ae D (ω 21) [φ [bv b3,Ψ xs3],φ [bv b13_0,Ψ b13_1]] [] [.i,.E] λn2=>
 br (A.lt n2 0)
 (AA D (ι 7 2) [Ψ t4,Ψ t8,iv t9,η 0 0,bv t11,η 1 0,η 2 0,bv Δ,bv Δ,iv (A.add δ t16 1)] [bk [Ψ b10_0,bv b10_1,Ψ b10_2,bv b10_3],bk [bv b3,Ψ xs3],bk [bv b3,Ψ xs3]] λr5 o5=>
 As 3 [0,1,2] (AH.mk [(2,bk [bv b3,Ψ xs3]),(1,bk [bv b3,Ψ xs3]),(4,bk [bv b3,Ψ xs3]),(3,bk [Ψ xs,bv b,Ψ xs1,bv b1]),(0,bk [Ψ b10_0,bv b10_1,Ψ b10_2,bv b10_3])] 5 Ξ) [1,2] r5 o5)
 (AA D (ι 7 2) [Ψ t4,Ψ t8,iv t9,η 0 0,bv t11,η 1 0,η 2 0,bv Δ,bv t15,iv (A.add δ t16 1)] [bk [Ψ b10_0,bv b10_1,Ψ b10_2,bv b10_3],bk [bv b3,Ψ xs3],bk [bv b13_0,Ψ b13_1]] λr5 o5=>
 As 3 [0,1,2] (AH.mk [(2,bk [bv b13_0,Ψ b13_1]),(1,bk [bv b3,Ψ xs3]),(4,bk [bv b3,Ψ xs3]),(3,bk [Ψ xs,bv b,Ψ xs1,bv b1]),(0,bk [Ψ b10_0,bv b10_1,Ψ b10_2,bv b10_3])] 5 Ξ) [1,2] r5 o5))) Ξ)
 (br (A.lt n 0) (br (A.not t15)
 (AA D (ι 7 2) [Ψ t4,Ψ t8,iv t9,η 0 0,bv t11,η 1 0,η 2 0,bv t14,bv Δ,iv (A.add δ t16 1)] [bk [Ψ b10_0,bv b10_1,Ψ b10_2,bv b10_3],bk [bv b12_0,Ψ b12_1],bk [bv b3,Ψ xs3]] λr4 o4=>
 As 3 [0,1,2] (AH.mk [(2,bk [bv b3,Ψ xs3]),(1,bk [bv b12_0,Ψ b12_1]),(4,bk [bv b3,Ψ xs3]),(3,bk [Ψ xs,bv b,Ψ xs1,bv b1]),(0,bk [Ψ b10_0,bv b10_1,Ψ b10_2,bv b10_3])] 5 Ξ) [1,2] r4 o4)
 (Ae D (ω 21) [φ [bv b3,Ψ xs3],φ [bv b13_0,Ψ b13_1]] [] [.i,.E] λn2=>
 br (A.lt n2 0)
 (AA D (ι 7 2) [Ψ t4,Ψ t8,iv t9,η 0 0,bv t11,η 1 0,η 2 0,bv t14,bv Δ,iv (A.add δ t16 1)] [bk [Ψ b10_0,bv b10_1,Ψ b10_2,bv b10_3],bk [bv b12_0,Ψ b12_1],bk [bv b3,Ψ xs3]] λr5 o5=>
 As 3 [0,1,2] (AH.mk [(2,bk [bv b3,Ψ xs3]),(1,bk [bv b12_0,Ψ b12_1]),(4,bk [bv b3,Ψ xs3]),(3,bk [Ψ xs,bv b,Ψ xs1,bv b1]),(0,bk [Ψ b10_0,bv b10_1,Ψ b10_2,bv b10_3])] 5 Ξ) [1,2] r5 o5)
 (AA D (ι 7 2) [Ψ t4,Ψ t8,iv t9,η 0 0,bv t11,η 1 0,η 2 0,bv t14,bv t15,iv (A.add δ t16 1)] [bk [Ψ b10_0,bv b10_1,Ψ b10_2,bv b10_3],bk [bv b12_0,Ψ b12_1],bk [bv b13_0,Ψ b13_1]] λr5 o5=>
 As 3 [0,1,2] (AH.mk [(2,bk [bv b13_0,Ψ b13_1]),(1,bk [bv b12_0,Ψ b12_1]),(4,bk [bv b3,Ψ xs3]),(3,bk [Ψ xs,bv b,Ψ xs1,bv b1]),(0,bk [Ψ b10_0,bv b10_1,Ψ b10_2,bv b10_3])] 5 Ξ) [1,2] r5 o5))) Ξ)))
 (br (A.lt n 0) (br (A.not t15)
 (AA D (ι 7 2) [Ψ t4,Ψ t8,iv t9,η 0 0,bv t11,η 1 0,η 2 0,bv t14,bv Δ,iv (A.add δ t16 1)] [bk [Ψ b10_0,bv b10_1,Ψ b10_2,bv b10_3],bk [bv b12_0,Ψ b12_1],bk [bv b3,Ψ xs3]] λr3 o3=>
 As 3 [0,1,2] (AH.mk [(2,bk [bv b3,Ψ xs3]),(1,bk [bv b12_0,Ψ b12_1]),(4,bk [bv b3,Ψ xs3]),(3,bk [Ψ xs,bv b,Ψ xs1,bv b1]),(0,bk [Ψ b10_0,bv b10_1,Ψ b10_2,bv b10_3])] 5 Ξ) [1,2] r3 o3)
 (Ae D (ω 21) [φ [bv b3,Ψ xs3],φ [bv b13_0,Ψ b13_1]] [] [.i,.E] λn1=>
 br (A.lt n1 0)
 (AA D (ι 7 2) [Ψ t4,Ψ t8,iv t9,η 0 0,bv t11,η 1 0,η 2 0,bv t14,bv Δ,iv (A.add δ t16 1)] [bk [Ψ b10_0,bv b10_1,Ψ b10_2,bv b10_3],bk [bv b12_0,Ψ b12_1],bk [bv b3,Ψ xs3]] λr4 o4=>
 As 3 [0,1,2] (AH.mk [(2,bk [bv b3,Ψ xs3]),(1,bk [bv b12_0,Ψ b12_1]),(4,bk [bv b3,Ψ xs3]),(3,bk [Ψ xs,bv b,Ψ xs1,bv b1]),(0,bk [Ψ b10_0,bv b10_1,Ψ b10_2,bv b10_3])] 5 Ξ) [1,2] r4 o4)
 (AA D (ι 7 2) [Ψ t4,Ψ t8,iv t9,η 0 0,bv t11,η 1 0,η 2 0,bv t14,bv t15,iv (A.add δ t16 1)] [bk [Ψ b10_0,bv b10_1,Ψ b10_2,bv b10_3],bk [bv b12_0,Ψ b12_1],bk [bv b13_0,Ψ b13_1]] λr4 o4=>
 As 3 [0,1,2] (AH.mk [(2,bk [bv b13_0,Ψ b13_1]),(1,bk [bv b12_0,Ψ b12_1]),(4,bk [bv b3,Ψ xs3]),(3,bk [Ψ xs,bv b,Ψ xs1,bv b1]),(0,bk [Ψ b10_0,bv b10_1,Ψ b10_2,bv b10_3])] 5 Ξ) [1,2] r4 o4))) Ξ)))
 (br (A.lt 0 n) (br (A.not t14)
 (br (A.lt n 0) Ξ (br b1
 (br (A.not t15)
 (AA D (ι 7 2) [Ψ t4,Ψ t8,iv t9,η 0 0,bv t11,η 1 0,η 2 0,bv Δ,bv Δ,iv (A.add δ t16 1)] [bk [Ψ b10_0,bv b10_1,Ψ b10_2,bv b10_3],bk [bv b2,Ψ xs2],bk [bv b2,Ψ xs2]] λr2 o2=>
 As 3 [0,1,2] (AH.mk [(2,bk [bv b2,Ψ xs2]),(1,bk [bv b2,Ψ xs2]),(4,bk [bv b2,Ψ xs2]),(3,bk [Ψ xs,bv b,Ψ xs1,bv b1]),(0,bk [Ψ b10_0,bv b10_1,Ψ b10_2,bv b10_3])] 5 Ξ) [1,2] r2 o2)
 (Ae D (ω 21) [φ [bv b2,Ψ xs2],φ [bv b13_0,Ψ b13_1]] [] [.i,.E] λn1=>
 br (A.lt n1 0)
 (AA D (ι 7 2) [Ψ t4,Ψ t8,iv t9,η 0 0,bv t11,η 1 0,η 2 0,bv Δ,bv Δ,iv (A.add δ t16 1)] [bk [Ψ b10_0,bv b10_1,Ψ b10_2,bv b10_3],bk [bv b2,Ψ xs2],bk [bv b2,Ψ xs2]] λr3 o3=>
 As 3 [0,1,2] (AH.mk [(2,bk [bv b2,Ψ xs2]),(1,bk [bv b2,Ψ xs2]),(4,bk [bv b2,Ψ xs2]),(3,bk [Ψ xs,bv b,Ψ xs1,bv b1]),(0,bk [Ψ b10_0,bv b10_1,Ψ b10_2,bv b10_3])] 5 Ξ) [1,2] r3 o3)
 (AA D (ι 7 2) [Ψ t4,Ψ t8,iv t9,η 0 0,bv t11,η 1 0,η 2 0,bv Δ,bv t15,iv (A.add δ t16 1)] [bk [Ψ b10_0,bv b10_1,Ψ b10_2,bv b10_3],bk [bv b2,Ψ xs2],bk [bv b13_0,Ψ b13_1]] λr3 o3=>
 As 3 [0,1,2] (AH.mk [(2,bk [bv b13_0,Ψ b13_1]),(1,bk [bv b2,Ψ xs2]),(4,bk [bv b2,Ψ xs2]),(3,bk [Ψ xs,bv b,Ψ xs1,bv b1]),(0,bk [Ψ b10_0,bv b10_1,Ψ b10_2,bv b10_3])] 5 Ξ) [1,2] r3 o3)))
 (AA D (ι 7 2) [Ψ t4,Ψ t8,iv t9,η 0 0,bv t11,η 1 0,η 2 0,bv Δ,bv t15,iv (A.add δ t16 1)] [bk [Ψ b10_0,bv b10_1,Ψ b10_2,bv b10_3],bk [bv b2,Ψ xs2],bk [bv b13_0,Ψ b13_1]] λr2 o2=>
 As 3 [0,1,2] (AH.mk [(2,bk [bv b13_0,Ψ b13_1]),(1,bk [bv b2,Ψ xs2]),(4,bk [bv b2,Ψ xs2]),(3,bk [Ψ xs,bv b,Ψ xs1,bv b1]),(0,bk [Ψ b10_0,bv b10_1,Ψ b10_2,bv b10_3])] 5 Ξ) [1,2] r2 o2)))
 (Ae D (ω 21) [φ [bv b2,Ψ xs2],φ [bv b12_0,Ψ b12_1]] [] [.i,.E] λn1=>
 br (A.lt 0 n1)
 (br (A.lt n 0) Ξ (br b1
 (br (A.not t15)
 (AA D (ι 7 2) [Ψ t4,Ψ t8,iv t9,η 0 0,bv t11,η 1 0,η 2 0,bv Δ,bv Δ,iv (A.add δ t16 1)] [bk [Ψ b10_0,bv b10_1,Ψ b10_2,bv b10_3],bk [bv b2,Ψ xs2],bk [bv b2,Ψ xs2]] λr3 o3=>
 As 3 [0,1,2] (AH.mk [(2,bk [bv b2,Ψ xs2]),(1,bk [bv b2,Ψ xs2]),(4,bk [bv b2,Ψ xs2]),(3,bk [Ψ xs,bv b,Ψ xs1,bv b1]),(0,bk [Ψ b10_0,bv b10_1,Ψ b10_2,bv b10_3])] 5 Ξ) [1,2] r3 o3)
 (Ae D (ω 21) [φ [bv b2,Ψ xs2],φ [bv b13_0,Ψ b13_1]] [] [.i,.E] λn2=>
 br (A.lt n2 0)
 (AA D (ι 7 2) [Ψ t4,Ψ t8,iv t9,η 0 0,bv t11,η 1 0,η 2 0,bv Δ,bv Δ,iv (A.add δ t16 1)] [bk [Ψ b10_0,bv b10_1,Ψ b10_2,bv b10_3],bk [bv b2,Ψ xs2],bk [bv b2,Ψ xs2]] λr4 o4=>
 As 3 [0,1,2] (AH.mk [(2,bk [bv b2,Ψ xs2]),(1,bk [bv b2,Ψ xs2]),(4,bk [bv b2,Ψ xs2]),(3,bk [Ψ xs,bv b,Ψ xs1,bv b1]),(0,bk [Ψ b10_0,bv b10_1,Ψ b10_2,bv b10_3])] 5 Ξ) [1,2] r4 o4)
 (AA D (ι 7 2) [Ψ t4,Ψ t8,iv t9,η 0 0,bv t11,η 1 0,η 2 0,bv Δ,bv t15,iv (A.add δ t16 1)] [bk [Ψ b10_0,bv b10_1,Ψ b10_2,bv b10_3],bk [bv b2,Ψ xs2],bk [bv b13_0,Ψ b13_1]] λr4 o4=>
 As 3 [0,1,2] (AH.mk [(2,bk [bv b13_0,Ψ b13_1]),(1,bk [bv b2,Ψ xs2]),(4,bk [bv b2,Ψ xs2]),(3,bk [Ψ xs,bv b,Ψ xs1,bv b1]),(0,bk [Ψ b10_0,bv b10_1,Ψ b10_2,bv b10_3])] 5 Ξ) [1,2] r4 o4)))
 (AA D (ι 7 2) [Ψ t4,Ψ t8,iv t9,η 0 0,bv t11,η 1 0,η 2 0,bv Δ,bv t15,iv (A.add δ t16 1)] [bk [Ψ b10_0,bv b10_1,Ψ b10_2,bv b10_3],bk [bv b2,Ψ xs2],bk [bv b13_0,Ψ b13_1]] λr3 o3=>
 As 3 [0,1,2] (AH.mk [(2,bk [bv b13_0,Ψ b13_1]),(1,bk [bv b2,Ψ xs2]),(4,bk [bv b2,Ψ xs2]),(3,bk [Ψ xs,bv b,Ψ xs1,bv b1]),(0,bk [Ψ b10_0,bv b10_1,Ψ b10_2,bv b10_3])] 5 Ξ) [1,2] r3 o3)))
 (br (A.lt n 0) Ξ (br b1
 (br (A.not t15)
 (AA D (ι 7 2) [Ψ t4,Ψ t8,iv t9,η 0 0,bv t11,η 1 0,η 2 0,bv t14,bv Δ,iv (A.add δ t16 1)] [bk [Ψ b10_0,bv b10_1,Ψ b10_2,bv b10_3],bk [bv b12_0,Ψ b12_1],bk [bv b2,Ψ xs2]] λr3 o3=>
 As 3 [0,1,2] (AH.mk [(2,bk [bv b2,Ψ xs2]),(1,bk [bv b12_0,Ψ b12_1]),(4,bk [bv b2,Ψ xs2]),(3,bk [Ψ xs,bv b,Ψ xs1,bv b1]),(0,bk [Ψ b10_0,bv b10_1,Ψ b10_2,bv b10_3])] 5 Ξ) [1,2] r3 o3)
 (Ae D (ω 21) [φ [bv b2,Ψ xs2],φ [bv b13_0,Ψ b13_1]] [] [.i,.E] λn2=>
 br (A.lt n2 0)
 (AA D (ι 7 2) [Ψ t4,Ψ t8,iv t9,η 0 0,bv t11,η 1 0,η 2 0,bv t14,bv Δ,iv (A.add δ t16 1)] [bk [Ψ b10_0,bv b10_1,Ψ b10_2,bv b10_3],bk [bv b12_0,Ψ b12_1],bk [bv b2,Ψ xs2]] λr4 o4=>
 As 3 [0,1,2] (AH.mk [(2,bk [bv b2,Ψ xs2]),(1,bk [bv b12_0,Ψ b12_1]),(4,bk [bv b2,Ψ xs2]),(3,bk [Ψ xs,bv b,Ψ xs1,bv b1]),(0,bk [Ψ b10_0,bv b10_1,Ψ b10_2,bv b10_3])] 5 Ξ) [1,2] r4 o4)
 (AA D (ι 7 2) [Ψ t4,Ψ t8,iv t9,η 0 0,bv t11,η 1 0,η 2 0,bv t14,bv t15,iv (A.add δ t16 1)] [bk [Ψ b10_0,bv b10_1,Ψ b10_2,bv b10_3],bk [bv b12_0,Ψ b12_1],bk [bv b13_0,Ψ b13_1]] λr4 o4=>
 As 3 [0,1,2] (AH.mk [(2,bk [bv b13_0,Ψ b13_1]),(1,bk [bv b12_0,Ψ b12_1]),(4,bk [bv b2,Ψ xs2]),(3,bk [Ψ xs,bv b,Ψ xs1,bv b1]),(0,bk [Ψ b10_0,bv b10_1,Ψ b10_2,bv b10_3])] 5 Ξ) [1,2] r4 o4)))
 (AA D (ι 7 2) [Ψ t4,Ψ t8,iv t9,η 0 0,bv t11,η 1 0,η 2 0,bv t14,bv t15,iv (A.add δ t16 1)] [bk [Ψ b10_0,bv b10_1,Ψ b10_2,bv b10_3],bk [bv b12_0,Ψ b12_1],bk [bv b13_0,Ψ b13_1]] λr3 o3=>
 As 3 [0,1,2] (AH.mk [(2,bk [bv b13_0,Ψ b13_1]),(1,bk [bv b12_0,Ψ b12_1]),(4,bk [bv b2,Ψ xs2]),(3,bk [Ψ xs,bv b,Ψ xs1,bv b1]),(0,bk [Ψ b10_0,bv b10_1,Ψ b10_2,bv b10_3])] 5 Ξ) [1,2] r3 o3))))) Ξ))))
 (Θ ((γ [iv 4,Ψ t4,Ψ t8,iv t9,η 0 0,bv t11,η 1 0,η 2 0,bv t14,bv t15],[AqV (bk [Ψ b10_0,bv b10_1,Ψ b10_2,bv b10_3]),AqV (bk [bv b12_0,Ψ b12_1]),AqV (bk [bv b13_0,Ψ b13_1])]))):=by kernel_rfl
end
section
open Go.RowKit
def mf3:MFn:=BI [] 3
def hn3:Hnt:=⟨[(4,(.bool,[])),(5,(.bool,[])),(6,(.tup U0,[])),(7,(.tup U0,[])),(8,(.bool,[]))],[],[]⟩
def W4:List (Nat × MFn):=[(3,mf3)]
variable (A:Ar) (D:Orc)
theorem e3(x0:Rw):BN A D Al hn3 .n 3 mf3 [Ψ x0] [] =
 Ae D (ω 4) [] [] [.b,.E] λb=>
 br b
 (Ae D (ω 5) [Ψ x0,iv 12,iv 8] [] [.b,.E] λb1=>
 br b1
 (Ae D (ω 6) [Ψ x0] [] [.t,.L,.B,.N,.E] λxs b2=>
 Ae D (ω 7) [Ψ x0] [] [.t,.L,.B,.N,.E] λxs1 b3=>
 br (A.beq b2 b3)
 (Ae D (ω 8) [Ψ xs,Ψ xs1] [] [.b,.E] λb4=>
 br b4
 (Θ ((bv Δ,[])))
 (Θ ((bv Φ,[]))))
 (Θ ((bv Φ,[]))))
 (Θ ((bv Δ,[]))))
 (Θ ((bv Φ,[]))):=by kernel_rfl
end
