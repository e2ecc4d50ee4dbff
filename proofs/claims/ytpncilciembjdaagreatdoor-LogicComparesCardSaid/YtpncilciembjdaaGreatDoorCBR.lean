/- Layer 5's alive answers -/
import Derived.Test.YtpncilciembjdaaGreatDoorCBQ
set_option linter.all false
open Bool renaming false->Φ,true->Δ
open List renaming drop->AtD,take->ο
open Option renaming none->Ξ,some->Θ
namespace Go.Proofs.YtpncilciembjdaaGreatDoor
noncomputable section
open ABlk renaming mk->δ
open AV renaming agg->ψ,fn->AtR,ls->Ψ,ptr->AtA,sl->χ,tup->υ
open BO renaming set->AtH
open IntKind renaming i64->θ
open Key renaming fn->ω,lp->AtB
section
open Go.RowKit
abbrev Je:List AV:=[iv 2,.ls [Zc],bv Φ,.ls [PQ 2],bv Φ,.ls []]
abbrev Tb:List AV:=[iv 2,.ls [pY],bv Φ,.ls [],bv Δ,.ls []]
abbrev fGe:List AV:=[iv 2,.ls [pX,V6],bv Φ,.ls [],bv Φ,.ls []]
abbrev fK(k:Int)(l:List (List AV)):List AV:=[iv k,.ls [],bv Φ,.ls [],bv Φ,.ls l]
abbrev Al0:List AV:=fK 4 [Je,Tb]
abbrev AeB:List AV:=fK 5 [Je,Tb]
abbrev AoW:List AV:=fK 4 [AeB,fGe]
abbrev AoX:List AV:=fK 3 [Al0]
abbrev fF:List AV:=fK 5 [[iv 2,.ls [pX],bv Δ,.ls [PQ 3],bv Φ,.ls []],[iv 2,.ls [pY],bv Δ,.ls [PQ 1],bv Φ,.ls []],[iv 2,.ls [V6],bv Δ,.ls [PQ 1],bv Φ,.ls []]]
abbrev AeC:List AV:=[iv 2,.ls [V6],bv Φ,.ls [PQ 2],bv Φ,.ls []]
set_option maxRecDepth 1000000
theorem a1:Dw 91 [iv 0,.ls [[iv 1]]] []=Θ (.agg [.ls [pX],bv Φ,.ls []],[]):=by kernel_rfl
theorem a2:Dw 91 [iv 0,.ls [[iv 0],[iv 1]]] []=Θ (.agg [.ls [pY],bv Φ,.ls []],[]):=by kernel_rfl
theorem a3:Dw 91 [iv 3,.ls []] []=Θ (.agg [.ls [],bv Φ,.ls [PQ 3]],[]):=by kernel_rfl
theorem a4:Dw 54 [iv 2,.agg [.ls [pX],bv Φ,.ls []],.agg [.ls [],bv Φ,.ls [PQ 3]]] []=Θ (.agg Je,[]):=by kernel_rfl
theorem a5:Dw 91 [iv 0,.ls []] []=Θ (.agg [.ls [],bv Φ,.ls []],[]):=by kernel_rfl
theorem a6:Dw 54 [iv 0,.agg [.ls [pY],bv Φ,.ls []],.agg [.ls [],bv Φ,.ls []]] []=Θ (.agg Tb,[]):=by kernel_rfl
theorem a7:Dw 92 [.ls [Je,Tb]] []=Θ (.agg Al0,[]):=by kernel_rfl
theorem a8:Dw 49 [.agg Al0] []=Θ (.agg AoX,[]):=by kernel_rfl
theorem a9:dBu 39 [.agg AoX] []=Θ (.agg fF,[]):=by kernel_rfl
theorem a10:Dw 93 [.agg fF,.ls [[sv (Cl [120])],[sv (Cl [121])]]] []=Θ (sv (Cl [40,120,32,45,32,51,32,62,61,32,48,32,124,32,121,32,45,32,49,32,62,61,32,48,32,124,32,45,121,32,45,32,49,32,62,61,32,48,41]),[]):=by kernel_rfl
theorem a11:Dw 94 [.ls [Je,Tb]] []=Θ (.agg AeB,[]):=by kernel_rfl
theorem a12:Dw 54 [iv 5,.agg [.ls [pX],bv Φ,.ls []],.agg [.ls [pY],bv Φ,.ls []]] []=Θ (.agg fGe,[]):=by kernel_rfl
theorem a13:Dw 92 [.ls [AeB,fGe]] []=Θ (.agg AoW,[]):=by kernel_rfl
theorem a14:dBu 47 [.agg AoW,iv 9] []=Θ (.tup [.ls [[.ls [rL,rG]],[.ls [rG,V9]]],iv 0],[]):=by kernel_rfl
theorem a15:dBu 47 [.agg AeB,iv 1] []=Θ (.tup [.ls [],iv 3],[]):=by kernel_rfl
theorem a16:Dw 56 [iv 2] []=Θ (.agg [bv Φ,.ls [PQ 2]],[]):=by kernel_rfl
theorem a17:Dw 36 [.agg Je,.ls [[bv Φ,.ls [PQ 2]]]] []=Θ (bv Δ,[]):=by kernel_rfl
theorem a18:Dw 95 [bv Φ] []=Θ (.agg (fK 1 []),[]):=by kernel_rfl
theorem a19:Dw 36 [.agg (fK 1 []),.ls []] []=Θ (bv Φ,[]):=by kernel_rfl
theorem a20:Dw 96 [.agg fF] []=Θ (iv 4,[]):=by kernel_rfl
theorem a21:Dw 97 [.agg fF] []=Θ (.ls [[iv 0],[iv 1]],[]):=by kernel_rfl
theorem a22:Dw 41 [.agg fF,.agg fF] []=Θ (bv Δ,[]):=by kernel_rfl
theorem a23:Dw 41 [.agg fF,.agg Je] []=Θ (bv Φ,[]):=by kernel_rfl
theorem a24:Dw 43 [.agg Je,.ls [[iv 0]],.ls [[.ls [pY],bv Φ,.ls []]]] []=Θ (.agg AeC,[]):=by kernel_rfl
theorem a25:Dw 45 [.agg Je,iv 1] []=Θ (.agg AeC,[]):=by kernel_rfl
theorem a26:Dw 41 [.agg AeC,.agg AeC] []=Θ (bv Δ,[]):=by kernel_rfl
theorem a27:Dw 98 [.agg [.ls [Zc],bv Φ,.ls [PQ 2],bv Φ]] []=Θ (.agg Je,[]):=by kernel_rfl
theorem Ae2:Q7.ask (.fn 34) [] []=Θ (bv Δ,[]):=by
 refine Aw ApE Apb (e34 ..) ?_;refine Aa (SG a1) ?_;simp only[ND,DK,Ab];refine Aa (SG a2) ?_;simp only[ND,DK,Ab];refine Aa (SG a3) ?_;simp only[ND,DK,Ab];refine Aa (J3 a4) ?_;simp only[ND,DK,Ab];refine Aa (SG a5) ?_;simp only[ND,DK,Ab];refine Aa (J3 a6) ?_;simp only[ND,DK,Ab];refine Aa (AdP a7) ?_;simp only[ND,DK,Ab];refine Aa (AdS a8) ?_;simp only[ND,DK,Ab];refine Aa (Ajk a9) ?_;simp only[ND,DK,Ab];refine AO ?_ rfl;refine AO ?_ rfl;refine Aa (AdU a10) ?_;simp only[ND,DK,Ab];refine AiS rfl ?_;refine Aa (AdQ a11) ?_;simp only[ND,DK,Ab];refine Aa (J3 a12) ?_;simp only[ND,DK,Ab];refine Aa (AdP a13) ?_;simp only[ND,DK,Ab];refine Aa (UZ a14) ?_;simp only[ND,DK,Ab];refine Aa (AdQ a11) ?_;simp only[ND,DK,Ab];refine Aa (UZ a15) ?_;simp only[ND,DK,Ab];refine Aa (An2 a16) ?_;simp only[ND,DK,Ab];refine AO ?_ rfl;refine AO ?_ rfl;refine AO ?_ rfl;refine Aa (Q6 a17) ?_;simp only[ND,DK,Ab];refine Aa (AdX a18) ?_;simp only[ND,DK,Ab];refine Aa (Q6 a19) ?_;simp only[ND,DK,Ab];refine Aa (Ajo a20) ?_;simp only[ND,DK,Ab];refine AO ?_ rfl;refine Aa (AdV a21) ?_;simp only[ND,DK,Ab];refine AO ?_ rfl;refine Aa (Px a22) ?_;simp only[ND,DK,Ab];refine Aa (Px a23) ?_;simp only[ND,DK,Ab];refine Aa (WA a24) ?_;simp only[ND,DK,Ab];refine Aa (AdT a25) ?_;simp only[ND,DK,Ab];refine Aa (Px a26) ?_;simp only[ND,DK,Ab];refine Aa (An1 a27) ?_;simp only[ND,DK,Ab];refine AO ?_ rfl;rfl
theorem Ao2:Be (Bk Tryz.prog 34) ((A1 Af Pa).ask (.fn 34)):=
 GC (ZA ⟨(Hk _),(Hk _),(Hk _),(Hk _),(Ao5 _),(Hk _),(Hk _),(Ao5 _),(Hk _),(Hk _),(Hk _),(Hk _),(Hk _),(Hk _),(Hk _),(Hk _),(Hk _),trivial⟩) _
end
section
open Go.RowKit
def Ak1:MFn:=AC [] 172
def Akg:Hnt:=⟨[(17,(.tup [.agg Fs,.int .i64],[])),(95,(.agg BD,[]))],[],[(6,Fs),(15,Fs)]⟩
def Xo:MFn:=AC [⟨68,(mB 1841),[(5,6)],[4],[(0,((mB 16),([4],[5]))),(1,((mB 49),([],[])))]⟩] 173
def Tz:Hnt:=⟨[(95,(.agg BD,[]))],[(0,[(0,([.ptr 0 0],[.box BD,.del])),(1,([.int .i64,.ptr 0 0,.sl 2 6],[.box BD,.del,.row Δ]))])],[(12,BD),(13,BD),(15,BD),(23,[.int .i64]),(30,[.int .i64]),(33,BD),(36,[.int .i64]),(40,[.int .i64]),(45,[.int .i64]),(50,[.ls]),(63,BD),(64,BD)]⟩
def Xp:MFn:=AC [⟨22,(mB 1826),[(5,6)],[],[(1,((mB 32),([],[])))]⟩] 174
def TA:Hnt:=⟨[(104,(.agg BD,[]))],[(0,[(1,([.sl 1 6],[.del,.row Δ]))])],[(12,BD),(13,BD),(15,BD)]⟩
def Xi:MFn:=AC [⟨69,(mB 234881072),[(5,6)],[4],[(2,((mB 48),([],[])))]⟩] 104
def HY:Hnt:=⟨[(23,(.ls,[])),(95,(.agg BD,[])),(104,(.agg BD,[])),(172,(.agg BD,[])),(173,(.agg BD,[])),(174,(.ls,[]))],[(0,[(2,([.ptr 0 0,.sl 2 6],[.box BD,.del,.row Δ]))])],[(10,[.int .i64]),(21,Fs),(24,Fs),(29,Fs),(30,Fs),(32,Fs),(42,[.ls]),(46,[.ls]),(47,BD),(48,BD),(56,[.int .i64]),(59,[.int .i64]),(63,[.ls])]⟩
def ApQ:MFn:=AC [] 39
def Apc:Hnt:=⟨[(104,(.agg BD,[]))],[],[(3,BD)]⟩
def X2:List (Nat × MFn):=[(172,Ak1),(173,Xo),(174,Xp),(104,Xi),(39,ApQ)]
variable (A:Ar) (D:Orc)
theorem Arm(x0_0:Rw)(x0_1:Bool)(x0_2:Rw)(x0_3:Bool):BZ A D As Akg .n 172 Ak1 [ψ [Ψ x0_0,bv x0_1,Ψ x0_2,bv x0_3]] [] =
 Ae D (ω 17) [ψ [Ψ x0_0,bv x0_1,Ψ x0_2,bv x0_3]] [] [.t,.A,.L,.B,.L,.B,.N,.I,.N,.E] λxs b xs1 b1 n=>
 br (A.eq n 0)
 (Θ ((ψ [iv 2,Ψ xs,bv b,Ψ xs1,bv b1,Ψ []],[])))
 (br (A.lt 0 n)
 (Ae D (ω 95) [bv Δ] [] [.a,.I,.L,.B,.L,.B,.L,.N,.E] λn1 xs2 b2 xs3 b3 xs4=>
 Θ ((ψ [iv n1,Ψ xs2,bv b2,Ψ xs3,bv b3,Ψ xs4],[])))
 (Ae D (ω 95) [bv Φ] [] [.a,.I,.L,.B,.L,.B,.L,.N,.E] λn1 xs2 b2 xs3 b3 xs4=>
 Θ ((ψ [iv n1,Ψ xs2,bv b2,Ψ xs3,bv b3,Ψ xs4],[])))):=by kernel_rfl
theorem Arn(x0:Int)(x1:Rw):BZ A D As Tz .n 173 Xo [iv x0,Ψ x1] [] =
 Ae D (AtB 173 0) [iv x0,AtA 0 0,χ 1 0 0 6,Ψ x1,iv ↑(AI x1),iv 0] [bk [iv 0,Ψ [],bv Φ,Ψ [],bv Φ,Ψ []],δ [] Δ Δ] [.t,.C,.x,.X,.Y] λc l o=>
 br (Bn 0 c)
 (dk [.P 0 0,.N,.T,.I,.L,.B,.L,.B,.L,.N,.D,.E] [.l l,.o o] λn xs b xs1 b1 xs2=>
 Θ ((ψ [iv n,Ψ xs,bv b,Ψ xs1,bv b1,Ψ xs2],[])))
 (br (Bn 1 c)
 (dk [.I,.P 0 0,.C,.q 2 6,.N,.T,.I,.L,.B,.L,.B,.L,.N,.D,.R,.X,.E] [.l l,.o o] λn n1 _ _ _ _ _ _ cs2=>
 br (A.eq (↑n1) 0)
 (br (A.eq n 4)
 (Ae D (ω 95) [bv Δ] [] [.a,.I,.L,.B,.L,.B,.L,.N,.E] λn3 xs3 b2 xs4 b3 xs5=>
 Θ ((ψ [iv n3,Ψ xs3,bv b2,Ψ xs4,bv b3,Ψ xs5],[])))
 (Ae D (ω 95) [bv Φ] [] [.a,.I,.L,.B,.L,.B,.L,.N,.E] λn3 xs3 b2 xs4 b3 xs5=>
 Θ ((ψ [iv n3,Ψ xs3,bv b2,Ψ xs4,bv b3,Ψ xs5],[]))))
 (br (A.eq (↑n1) 1)
 (br (Nat.blt 0 n1) (EW cs2 0 6 λcs3=>
 dk [.I,.L,.B,.L,.B,.L,.N] [.l cs3] λn3 xs3 b2 xs4 b3 xs5=>
 Θ ((ψ [iv n3,Ψ xs3,bv b2,Ψ xs4,bv b3,Ψ xs5],[]))) Ξ)
 (br ((0+n1*6).ble cs2.length) (Θ ((ψ [iv n,Ψ [],bv Φ,Ψ [],bv Φ,Ψ (Bh n1 6 (ο (n1*6) cs2))],[]))) Ξ)))
 (Ξ)):=by kernel_rfl
theorem AaO(t0 b4_0:Int)(b4_1:Rw)(b4_2:Bool)(b4_3:Rw)(b4_4:Bool)(b4_5:Rw)(n5:Nat)(c5:List AV)(t8:Rw)(t9 t10:Int):Dy A D As Tz (.b (.b (.b (.b (.b (.b (.b .n (.b (.b .n (.b .n (.f (.b .n (.b .n (.b .n (.b .n (.b .n (.b .n (.b .n (.b (.b (.b (.f .n) .n) .n) .n))))))))))) .n)) .n) .n) .n) (.b .n (.b .n (.b .n (.b .n (.b .n (.b .n (.b (.b (.b (.b (.b .n (.b (.b .n (.b .n (.f .n))) .n)) .n) .n) .n) .n)))))))) .n) .n) 173 0 (AU Xo 0).fst (AU Xo 0).snd [iv t0,AtA 0 0,χ 1 0 n5 6,Ψ t8,iv t9,iv t10] [bk [iv b4_0,Ψ b4_1,bv b4_2,Ψ b4_3,bv b4_4,Ψ b4_5],{ cells:=c5,st:=Δ,ex:=Δ }] =
 br (A.lt t10 t9)
 (unI t10 λi=>
 BC t8 i λcs=>
 dk [.I,.L,.B,.L,.B,.L,.N] [.l cs] λn xs b xs1 b1 xs2=>
 br (A.eq t0 4)
 (br (A.eq n 1)
 (Θ ((υ [bv Δ,AtA 0 0],[AtH (bk [iv n,Ψ xs,bv b,Ψ xs1,bv b1,Ψ xs2]),BO.del])))
 (br (A.eq t0 5) Ξ (br (A.eq n 0)
 (AG D (AtB 173 0) [iv t0,AtA 0 0,χ 1 0 n5 6,Ψ t8,iv t9,iv (A.add θ t10 1)] [bk [iv b4_0,Ψ b4_1,bv b4_2,Ψ b4_3,bv b4_4,Ψ b4_5],δ c5 Δ Δ] λr o=>
 AE 2 [0,1] (AH.mk [(0,bk [iv b4_0,Ψ b4_1,bv b4_2,Ψ b4_3,bv b4_4,Ψ b4_5]),(2,bk [iv n,Ψ xs,bv b,Ψ xs1,bv b1,Ψ xs2]),(1,δ c5 Δ Δ)] 3 Ξ) [0] r o)
 (br (A.eq n 1) Ξ (br (A.eq n t0)
 (br (EO 6 xs2) (br ((AI xs2).beq 0)
 (AG D (AtB 173 0) [iv t0,AtA 0 0,χ 1 0 n5 6,Ψ t8,iv t9,iv (A.add θ t10 1)] [bk [iv b4_0,Ψ b4_1,bv b4_2,Ψ b4_3,bv b4_4,Ψ b4_5],δ c5 Δ Δ] λr o=>
 AE 2 [0,1] (AH.mk [(0,bk [iv b4_0,Ψ b4_1,bv b4_2,Ψ b4_3,bv b4_4,Ψ b4_5]),(2,bk [iv n,Ψ xs,bv b,Ψ xs1,bv b1,Ψ xs2]),(1,δ c5 Δ Δ)] 3 Ξ) [0] r o)
 (br (F8 (EP xs2)) (br (Bf (n5+AI xs2) 96) (br ((0+n5*6).ble c5.length) (AG D (AtB 173 0) [iv t0,AtA 0 0,χ 1 0 (n5+AI xs2) 6,Ψ t8,iv t9,iv (A.add θ t10 1)] [bk [iv b4_0,Ψ b4_1,bv b4_2,Ψ b4_3,bv b4_4,Ψ b4_5],δ (AtD 0 (ο (0+n5*6) c5)++EP xs2) Δ Δ] λr o=>
 AE 2 [0,3] (AH.mk [(0,bk [iv b4_0,Ψ b4_1,bv b4_2,Ψ b4_3,bv b4_4,Ψ b4_5]),(3,δ (AtD 0 (ο (0+n5*6) c5)++EP xs2) Δ Δ),(2,bk [iv n,Ψ xs,bv b,Ψ xs1,bv b1,Ψ xs2])] 4 Ξ) [1,0] r o) Ξ) Ξ) Ξ)) Ξ)
 (br (Bf (n5+1) 96) (br ((0+n5*6).ble c5.length) (AG D (AtB 173 0) [iv t0,AtA 0 0,χ 1 0 (n5+1) 6,Ψ t8,iv t9,iv (A.add θ t10 1)] [bk [iv b4_0,Ψ b4_1,bv b4_2,Ψ b4_3,bv b4_4,Ψ b4_5],δ (AtD 0 (ο (0+n5*6) c5)++[iv n,Ψ xs,bv b,Ψ xs1,bv b1,Ψ xs2]) Δ Δ] λr o=>
 AE 2 [0,4] (AH.mk [(0,bk [iv b4_0,Ψ b4_1,bv b4_2,Ψ b4_3,bv b4_4,Ψ b4_5]),(4,δ (AtD 0 (ο (0+n5*6) c5)++[iv n,Ψ xs,bv b,Ψ xs1,bv b1,Ψ xs2]) Δ Δ),(3,δ [iv n,Ψ xs,bv b,Ψ xs1,bv b1,Ψ xs2] Δ Δ),(2,bk [iv n,Ψ xs,bv b,Ψ xs1,bv b1,Ψ xs2])] 5 Ξ) [1,0] r o) Ξ) Ξ))))))
 (br (A.eq t0 5)
 (br (A.eq n 0)
 (Θ ((υ [bv Δ,AtA 0 0],[AtH (bk [iv n,Ψ xs,bv b,Ψ xs1,bv b1,Ψ xs2]),BO.del])))
 (br (A.eq n 0) Ξ (br (A.eq n 1)
 (AG D (AtB 173 0) [iv t0,AtA 0 0,χ 1 0 n5 6,Ψ t8,iv t9,iv (A.add θ t10 1)] [bk [iv b4_0,Ψ b4_1,bv b4_2,Ψ b4_3,bv b4_4,Ψ b4_5],δ c5 Δ Δ] λr o=>
 AE 2 [0,1] (AH.mk [(0,bk [iv b4_0,Ψ b4_1,bv b4_2,Ψ b4_3,bv b4_4,Ψ b4_5]),(2,bk [iv n,Ψ xs,bv b,Ψ xs1,bv b1,Ψ xs2]),(1,δ c5 Δ Δ)] 3 Ξ) [0] r o)
 (br (A.eq n t0)
 (br (EO 6 xs2) (br ((AI xs2).beq 0)
 (AG D (AtB 173 0) [iv t0,AtA 0 0,χ 1 0 n5 6,Ψ t8,iv t9,iv (A.add θ t10 1)] [bk [iv b4_0,Ψ b4_1,bv b4_2,Ψ b4_3,bv b4_4,Ψ b4_5],δ c5 Δ Δ] λr o=>
 AE 2 [0,1] (AH.mk [(0,bk [iv b4_0,Ψ b4_1,bv b4_2,Ψ b4_3,bv b4_4,Ψ b4_5]),(2,bk [iv n,Ψ xs,bv b,Ψ xs1,bv b1,Ψ xs2]),(1,δ c5 Δ Δ)] 3 Ξ) [0] r o)
 (br (F8 (EP xs2)) (br (Bf (n5+AI xs2) 96) (br ((0+n5*6).ble c5.length) (AG D (AtB 173 0) [iv t0,AtA 0 0,χ 1 0 (n5+AI xs2) 6,Ψ t8,iv t9,iv (A.add θ t10 1)] [bk [iv b4_0,Ψ b4_1,bv b4_2,Ψ b4_3,bv b4_4,Ψ b4_5],δ (AtD 0 (ο (0+n5*6) c5)++EP xs2) Δ Δ] λr o=>
 AE 2 [0,3] (AH.mk [(0,bk [iv b4_0,Ψ b4_1,bv b4_2,Ψ b4_3,bv b4_4,Ψ b4_5]),(3,δ (AtD 0 (ο (0+n5*6) c5)++EP xs2) Δ Δ),(2,bk [iv n,Ψ xs,bv b,Ψ xs1,bv b1,Ψ xs2])] 4 Ξ) [1,0] r o) Ξ) Ξ) Ξ)) Ξ)
 (br (Bf (n5+1) 96) (br ((0+n5*6).ble c5.length) (AG D (AtB 173 0) [iv t0,AtA 0 0,χ 1 0 (n5+1) 6,Ψ t8,iv t9,iv (A.add θ t10 1)] [bk [iv b4_0,Ψ b4_1,bv b4_2,Ψ b4_3,bv b4_4,Ψ b4_5],δ (AtD 0 (ο (0+n5*6) c5)++[iv n,Ψ xs,bv b,Ψ xs1,bv b1,Ψ xs2]) Δ Δ] λr o=>
 AE 2 [0,4] (AH.mk [(0,bk [iv b4_0,Ψ b4_1,bv b4_2,Ψ b4_3,bv b4_4,Ψ b4_5]),(4,δ (AtD 0 (ο (0+n5*6) c5)++[iv n,Ψ xs,bv b,Ψ xs1,bv b1,Ψ xs2]) Δ Δ),(3,δ [iv n,Ψ xs,bv b,Ψ xs1,bv b1,Ψ xs2] Δ Δ),(2,bk [iv n,Ψ xs,bv b,Ψ xs1,bv b1,Ψ xs2])] 5 Ξ) [1,0] r o) Ξ) Ξ)))))
 (br (A.eq n 0)
 (AG D (AtB 173 0) [iv t0,AtA 0 0,χ 1 0 n5 6,Ψ t8,iv t9,iv (A.add θ t10 1)] [bk [iv b4_0,Ψ b4_1,bv b4_2,Ψ b4_3,bv b4_4,Ψ b4_5],δ c5 Δ Δ] λr o=>
 AE 2 [0,1] (AH.mk [(0,bk [iv b4_0,Ψ b4_1,bv b4_2,Ψ b4_3,bv b4_4,Ψ b4_5]),(2,bk [iv n,Ψ xs,bv b,Ψ xs1,bv b1,Ψ xs2]),(1,δ c5 Δ Δ)] 3 Ξ) [0] r o)
 (br (A.eq n 1)
 (AG D (AtB 173 0) [iv t0,AtA 0 0,χ 1 0 n5 6,Ψ t8,iv t9,iv (A.add θ t10 1)] [bk [iv b4_0,Ψ b4_1,bv b4_2,Ψ b4_3,bv b4_4,Ψ b4_5],δ c5 Δ Δ] λr o=>
 AE 2 [0,1] (AH.mk [(0,bk [iv b4_0,Ψ b4_1,bv b4_2,Ψ b4_3,bv b4_4,Ψ b4_5]),(2,bk [iv n,Ψ xs,bv b,Ψ xs1,bv b1,Ψ xs2]),(1,δ c5 Δ Δ)] 3 Ξ) [0] r o)
 (br (A.eq n t0)
 (br (EO 6 xs2) (br ((AI xs2).beq 0)
 (AG D (AtB 173 0) [iv t0,AtA 0 0,χ 1 0 n5 6,Ψ t8,iv t9,iv (A.add θ t10 1)] [bk [iv b4_0,Ψ b4_1,bv b4_2,Ψ b4_3,bv b4_4,Ψ b4_5],δ c5 Δ Δ] λr o=>
 AE 2 [0,1] (AH.mk [(0,bk [iv b4_0,Ψ b4_1,bv b4_2,Ψ b4_3,bv b4_4,Ψ b4_5]),(2,bk [iv n,Ψ xs,bv b,Ψ xs1,bv b1,Ψ xs2]),(1,δ c5 Δ Δ)] 3 Ξ) [0] r o)
 (br (F8 (EP xs2)) (br (Bf (n5+AI xs2) 96) (br ((0+n5*6).ble c5.length) (AG D (AtB 173 0) [iv t0,AtA 0 0,χ 1 0 (n5+AI xs2) 6,Ψ t8,iv t9,iv (A.add θ t10 1)] [bk [iv b4_0,Ψ b4_1,bv b4_2,Ψ b4_3,bv b4_4,Ψ b4_5],δ (AtD 0 (ο (0+n5*6) c5)++EP xs2) Δ Δ] λr o=>
 AE 2 [0,3] (AH.mk [(0,bk [iv b4_0,Ψ b4_1,bv b4_2,Ψ b4_3,bv b4_4,Ψ b4_5]),(3,δ (AtD 0 (ο (0+n5*6) c5)++EP xs2) Δ Δ),(2,bk [iv n,Ψ xs,bv b,Ψ xs1,bv b1,Ψ xs2])] 4 Ξ) [1,0] r o) Ξ) Ξ) Ξ)) Ξ)
 (br (Bf (n5+1) 96) (br ((0+n5*6).ble c5.length) (AG D (AtB 173 0) [iv t0,AtA 0 0,χ 1 0 (n5+1) 6,Ψ t8,iv t9,iv (A.add θ t10 1)] [bk [iv b4_0,Ψ b4_1,bv b4_2,Ψ b4_3,bv b4_4,Ψ b4_5],δ (AtD 0 (ο (0+n5*6) c5)++[iv n,Ψ xs,bv b,Ψ xs1,bv b1,Ψ xs2]) Δ Δ] λr o=>
 AE 2 [0,4] (AH.mk [(0,bk [iv b4_0,Ψ b4_1,bv b4_2,Ψ b4_3,bv b4_4,Ψ b4_5]),(4,δ (AtD 0 (ο (0+n5*6) c5)++[iv n,Ψ xs,bv b,Ψ xs1,bv b1,Ψ xs2]) Δ Δ),(3,δ [iv n,Ψ xs,bv b,Ψ xs1,bv b1,Ψ xs2] Δ Δ),(2,bk [iv n,Ψ xs,bv b,Ψ xs1,bv b1,Ψ xs2])] 5 Ξ) [1,0] r o) Ξ) Ξ))))))
 (Θ ((υ [iv 0,iv t0,AtA 0 0,χ 2 0 n5 6],[AtH (bk [iv b4_0,Ψ b4_1,bv b4_2,Ψ b4_3,bv b4_4,Ψ b4_5]),BO.del,AtH (δ c5 Δ Δ)]))):=by kernel_rfl
theorem Aro(x0:Rw)(x1:Bool):BZ A D As TA .n 174 Xp [Ψ x0,bv x1] [] =
 Ae D (AtB 174 0) [bv x1,χ 0 0 0 6,Ψ x0,iv ↑(AI x0),iv 0] [δ [] Δ Δ] [.t,.C,.x,.X,.Y] λc l o=>
 br (Bn 1 c)
 (dk [.C,.q 1 6,.N,.D,.R,.X,.E] [.l l,.o o] λn cs1=>
 br ((0+n*6).ble cs1.length) (Θ ((Ψ (Bh n 6 (ο (n*6) cs1)),[]))) Ξ)
 (Ξ):=by kernel_rfl
theorem AaP(t1:Bool)(n5:Nat)(c5:List AV)(t8:Rw)(t9 t10:Int):Dy A D As TA .n 174 0 (AU Xp 0).fst (AU Xp 0).snd [bv t1,χ 0 0 n5 6,Ψ t8,iv t9,iv t10] [{ cells:=c5,st:=Δ,ex:=Δ }] =
 br (A.lt t10 t9)
 (unI t10 λi=>
 BC t8 i λcs=>
 dk [.I,.L,.B,.L,.B,.L,.N] [.l cs] λn xs b xs1 b1 xs2=>
 Ae D (ω 104) [ψ [iv n,Ψ xs,bv b,Ψ xs1,bv b1,Ψ xs2],bv t1] [] [.a,.I,.L,.B,.L,.B,.L,.N,.E] λn1 xs3 b2 xs4 b3 xs5=>
 br (Bf (n5+1) 96) (br ((0+n5*6).ble c5.length) (AG D (AtB 174 0) [bv t1,χ 0 0 (n5+1) 6,Ψ t8,iv t9,iv (A.add θ t10 1)] [δ (AtD 0 (ο (0+n5*6) c5)++[iv n1,Ψ xs3,bv b2,Ψ xs4,bv b3,Ψ xs5]) Δ Δ] λr1 o1=>
 AE 1 [3] (AH.mk [(3,δ (AtD 0 (ο (0+n5*6) c5)++[iv n1,Ψ xs3,bv b2,Ψ xs4,bv b3,Ψ xs5]) Δ Δ),(2,δ [iv n1,Ψ xs3,bv b2,Ψ xs4,bv b3,Ψ xs5] Δ Δ),(1,bk [iv n,Ψ xs,bv b,Ψ xs1,bv b1,Ψ xs2])] 4 Ξ) [0] r1 o1) Ξ) Ξ)
 (Θ ((υ [iv 0,χ 1 0 n5 6],[BO.del,AtH (δ c5 Δ Δ)]))):=by kernel_rfl
theorem Vj(x0_0:Int)(x0_1:Rw)(x0_2:Bool)(x0_3:Rw)(x0_4:Bool)(x0_5:Rw)(x1:Bool):BZ A D As HY .n 104 Xi [ψ [iv x0_0,Ψ x0_1,bv x0_2,Ψ x0_3,bv x0_4,Ψ x0_5],bv x1] [] =
 br (A.eq x0_0 0)
 (br (A.not x1)
 (Ae D (ω 95) [bv Δ] [] [.a,.I,.L,.B,.L,.B,.L,.N,.E] λn xs b xs1 b1 xs2=>
 Θ ((ψ [iv n,Ψ xs,bv b,Ψ xs1,bv b1,Ψ xs2],[])))
 (Ae D (ω 95) [bv Φ] [] [.a,.I,.L,.B,.L,.B,.L,.N,.E] λn xs b xs1 b1 xs2=>
 Θ ((ψ [iv n,Ψ xs,bv b,Ψ xs1,bv b1,Ψ xs2],[]))))
 (br (A.eq x0_0 2)
 (br (A.not x1)
 (Ae D (ω 172) [ψ [Ψ x0_1,bv x0_2,Ψ x0_3,bv x0_4]] [] [.a,.I,.L,.B,.L,.B,.L,.N,.E] λn xs b xs1 b1 xs2=>
 Θ ((ψ [iv n,Ψ xs,bv b,Ψ xs1,bv b1,Ψ xs2],[])))
 (Ae D (ω 23) [ψ [Ψ x0_1,bv x0_2,Ψ x0_3,bv x0_4]] [] [.l,.E] λxs=>
 Ae D (AtB 104 0) [AtA 0 0,χ 1 0 0 6,Ψ xs,iv ↑(AI xs),iv 0] [bk [iv 0,Ψ [],bv Φ,Ψ [],bv Φ,Ψ []],δ [] Δ Δ] [.t,.C,.x,.X,.Y] λc l o1=>
 br (Bn 2 c)
 (dk [.P 0 0,.C,.q 2 6,.N,.T,.I,.L,.B,.L,.B,.L,.N,.D,.R,.X,.E] [.l l,.o o1] λn _ _ _ _ _ _ cs2=>
 br ((0+n*6).ble cs2.length) (AG D (ω 173) [iv 5,Ψ (Bh n 6 (ο (n*6) cs2))] [] λr2 o2=>
 dk [.a,.I,.L,.B,.L,.B,.L,.N,.E] [.v r2,.o o2] λn2 xs4 b2 xs5 b3 xs6=>
 Θ ((ψ [iv n2,Ψ xs4,bv b2,Ψ xs5,bv b3,Ψ xs6],[]))) Ξ)
 (Ξ)))
 (br (A.eq x0_0 3)
 (br (A.lt 0 ↑(AI x0_5))
 (BC x0_5 0 λcs=>
 dk [.I,.L,.B,.L,.B,.L,.N] [.l cs] λn xs b xs1 b1 xs2=>
 br (A.not x1)
 (Ae D (ω 104) [ψ [iv n,Ψ xs,bv b,Ψ xs1,bv b1,Ψ xs2],bv Δ] [] [.a,.I,.L,.B,.L,.B,.L,.N,.E] λn1 xs3 b2 xs4 b3 xs5=>
 Θ ((ψ [iv n1,Ψ xs3,bv b2,Ψ xs4,bv b3,Ψ xs5],[])))
 (Ae D (ω 104) [ψ [iv n,Ψ xs,bv b,Ψ xs1,bv b1,Ψ xs2],bv Φ] [] [.a,.I,.L,.B,.L,.B,.L,.N,.E] λn1 xs3 b2 xs4 b3 xs5=>
 Θ ((ψ [iv n1,Ψ xs3,bv b2,Ψ xs4,bv b3,Ψ xs5],[]))))
 (Ae D (ω 95) [bv x1] [] [.a,.I,.L,.B,.L,.B,.L,.N,.E] λn xs b xs1 b1 xs2=>
 Θ ((ψ [iv n,Ψ xs,bv b,Ψ xs1,bv b1,Ψ xs2],[]))))
 (br (A.eq x0_0 4)
 (br x1
 (Ae D (ω 174) [Ψ x0_5,bv x1] [] [.l,.E] λxs=>
 Ae D (ω 173) [iv (A.sub θ 9 x0_0),Ψ xs] [] [.a,.I,.L,.B,.L,.B,.L,.N,.E] λn xs1 b xs2 b1 xs3=>
 Θ ((ψ [iv n,Ψ xs1,bv b,Ψ xs2,bv b1,Ψ xs3],[])))
 (Ae D (ω 174) [Ψ x0_5,bv x1] [] [.l,.E] λxs=>
 Ae D (ω 173) [iv x0_0,Ψ xs] [] [.a,.I,.L,.B,.L,.B,.L,.N,.E] λn xs1 b xs2 b1 xs3=>
 Θ ((ψ [iv n,Ψ xs1,bv b,Ψ xs2,bv b1,Ψ xs3],[]))))
 (br (A.eq x0_0 5)
 (br x1
 (Ae D (ω 174) [Ψ x0_5,bv x1] [] [.l,.E] λxs=>
 Ae D (ω 173) [iv (A.sub θ 9 x0_0),Ψ xs] [] [.a,.I,.L,.B,.L,.B,.L,.N,.E] λn xs1 b xs2 b1 xs3=>
 Θ ((ψ [iv n,Ψ xs1,bv b,Ψ xs2,bv b1,Ψ xs3],[])))
 (Ae D (ω 174) [Ψ x0_5,bv x1] [] [.l,.E] λxs=>
 Ae D (ω 173) [iv x0_0,Ψ xs] [] [.a,.I,.L,.B,.L,.B,.L,.N,.E] λn xs1 b xs2 b1 xs3=>
 Θ ((ψ [iv n,Ψ xs1,bv b,Ψ xs2,bv b1,Ψ xs3],[]))))
 (Ae D (ω 95) [bv x1] [] [.a,.I,.L,.B,.L,.B,.L,.N,.E] λn xs b xs1 b1 xs2=>
 Θ ((ψ [iv n,Ψ xs,bv b,Ψ xs1,bv b1,Ψ xs2],[]))))))):=by kernel_rfl
theorem AaI(b4_0:Int)(b4_1:Rw)(b4_2:Bool)(b4_3:Rw)(b4_4:Bool)(b4_5:Rw)(n5:Nat)(c5:List AV)(t25:Rw)(t26 t27:Int):Dy A D As HY .n 104 0 (AU Xi 0).fst (AU Xi 0).snd [AtA 0 0,χ 1 0 n5 6,Ψ t25,iv t26,iv t27] [bk [iv b4_0,Ψ b4_1,bv b4_2,Ψ b4_3,bv b4_4,Ψ b4_5],{ cells:=c5,st:=Δ,ex:=Δ }] =
 br (A.lt t27 t26)
 (unI t27 λi=>
 BC t25 i λcs=>
 dk [.L,.B,.L,.B,.N] [.l cs] λxs b xs1 b1=>
 Ae D (ω 172) [ψ [Ψ xs,bv b,Ψ xs1,bv b1]] [] [.a,.I,.L,.B,.L,.B,.L,.N,.E] λn xs2 b2 xs3 b3 xs4=>
 br (Bf (n5+1) 96) (br ((0+n5*6).ble c5.length) (AG D (AtB 104 0) [AtA 0 0,χ 1 0 (n5+1) 6,Ψ t25,iv t26,iv (A.add θ t27 1)] [bk [iv b4_0,Ψ b4_1,bv b4_2,Ψ b4_3,bv b4_4,Ψ b4_5],δ (AtD 0 (ο (0+n5*6) c5)++[iv n,Ψ xs2,bv b2,Ψ xs3,bv b3,Ψ xs4]) Δ Δ] λr1 o1=>
 AE 2 [0,4] (AH.mk [(0,bk [iv b4_0,Ψ b4_1,bv b4_2,Ψ b4_3,bv b4_4,Ψ b4_5]),(4,δ (AtD 0 (ο (0+n5*6) c5)++[iv n,Ψ xs2,bv b2,Ψ xs3,bv b3,Ψ xs4]) Δ Δ),(3,δ [iv n,Ψ xs2,bv b2,Ψ xs3,bv b3,Ψ xs4] Δ Δ),(2,bk [Ψ xs,bv b,Ψ xs1,bv b1])] 5 Ξ) [1,0] r1 o1) Ξ) Ξ)
 (Θ ((υ [iv 1,AtA 0 0,χ 2 0 n5 6],[AtH (bk [iv b4_0,Ψ b4_1,bv b4_2,Ψ b4_3,bv b4_4,Ψ b4_5]),BO.del,AtH (δ c5 Δ Δ)]))):=by kernel_rfl
theorem e39(x0_0:Int)(x0_1:Rw)(x0_2:Bool)(x0_3:Rw)(x0_4:Bool)(x0_5:Rw):BZ A D As Apc .n 39 ApQ [ψ [iv x0_0,Ψ x0_1,bv x0_2,Ψ x0_3,bv x0_4,Ψ x0_5]] [] =
 Ae D (ω 104) [ψ [iv x0_0,Ψ x0_1,bv x0_2,Ψ x0_3,bv x0_4,Ψ x0_5],bv Φ] [] [.a,.I,.L,.B,.L,.B,.L,.N,.E] λn xs b xs1 b1 xs2=>
 Θ ((ψ [iv n,Ψ xs,bv b,Ψ xs1,bv b1,Ψ xs2],[])):=by kernel_rfl
end
section
open Go.RowKit
def AkA:MFn:=AC [] 101
def AjQ:Hnt:=⟨[(36,(.bool,[]))],[],[(4,BD),(5,[.ls])]⟩
def AkB:MFn:=AC [] 103
def AjR:Hnt:=⟨[(101,(.bool,[.keep]))],[],[(4,[.any]),(5,BD)]⟩
def OK:MFn:=AC [⟨19,(mB 387),[],[],[(0,((mB 16),([],[]))),(1,([],([],[])))]⟩] 171
def Oe:Hnt:=⟨[(101,(.bool,[.keep]))],[(0,[(0,([.int .i64],[.keep])),(1,([],[.keep]))])],[(14,BD),(15,BD)]⟩
def Of:Hnt:=⟨[(103,(.bool,[.keep,.keep]))],[(0,[(0,([.int .i64],[.keep,.keep])),(1,([],[.keep,.keep]))])],[(14,BD),(15,BD)]⟩
def Ace:MFn:=AC [] 102
def AbB:Hnt:=⟨[(171,(.int .i64,[.keep]))],[],[]⟩
def AbC:Hnt:=⟨[(171,(.int .i64,[.keep,.keep]))],[],[]⟩
def Ams:MFn:=AC [] 36
def Qj:Hnt:=⟨[(30,(.bool,[])),(101,(.bool,[.keep])),(102,(.bool,[.keep]))],[],[(8,[.int .i64]),(14,Fs),(15,[.ls]),(20,[.ls]),(24,[.any]),(26,[.ls]),(27,BD),(28,BD),(35,[.ls]),(42,[.ls]),(43,[.any])]⟩
def Ako:Hnt:=⟨[(30,(.bool,[])),(101,(.bool,[.keep])),(102,(.bool,[.keep,.keep]))],[],[(8,[.int .i64]),(14,Fs),(15,[.ls]),(20,[.ls]),(24,[.any]),(26,[.ls]),(27,BD),(28,BD),(35,[.ls]),(42,[.ls]),(43,[.any])]⟩
def X4:List (Nat × MFn):=[(101,AkA),(103,AkB),(171,OK),(102,Ace),(36,Ams)]
variable (A:Ar) (D:Orc)
theorem AqS(x0:Int)(x1:Rw)(x2:Bool)(x3:Rw)(x4:Bool)(x5 c0:Rw):BZ A D As AjQ .n 101 AkA [ψ [iv x0,Ψ x1,bv x2,Ψ x3,bv x4,Ψ x5],AtA 0 0] [bk [Ψ c0]] =
 Ae D (ω 36) [ψ [iv x0,Ψ x1,bv x2,Ψ x3,bv x4,Ψ x5],Ψ c0] [] [.b,.E] λb=>
 br b
 (Θ ((bv Δ,[BO.keep])))
 (Θ ((bv Φ,[BO.keep]))):=by kernel_rfl
theorem AqT(x0:Int)(x1:Rw)(x2:Bool)(x3:Rw)(x4:Bool)(x5 c0:Rw):BZ A D As AjR .n 103 AkB [ψ [iv x0,Ψ x1,bv x2,Ψ x3,bv x4,Ψ x5],AtA 0 0] [bk [AtR (Fn.func 101) [] [AtA 1 0]],bk [Ψ c0]] =
 Ae D (ω 101) [ψ [iv x0,Ψ x1,bv x2,Ψ x3,bv x4,Ψ x5],AtA 0 0] [bk [Ψ c0]] [.b,.K,.E] λb=>
 br b
 (Θ ((bv Φ,[BO.keep,BO.keep])))
 (Θ ((bv Δ,[BO.keep,BO.keep]))):=by kernel_rfl
theorem AoB(x0 c0:Rw):BZ A D As Oe .n 171 OK [Ψ x0,AtR (Fn.func 101) [] [AtA 0 0]] [bk [Ψ c0]] =
 Ae D (AtB 171 0) [Ψ x0,AtR (Fn.func 101) [] [AtA 0 0],iv ↑(AI x0),iv 0] [bk [Ψ c0]] [.t,.C,.x,.X,.Y] λc l o=>
 br (Bn 0 c)
 (dk [.I,.N,.K,.E] [.l l,.o o] λn=>
 Θ ((iv n,[BO.keep])))
 (br (Bn 1 c)
 (dk [.N,.K,.E,.w] [.l l,.o o] λ_=>
 Θ ((iv (-1),[BO.keep])))
 (Ξ)):=by kernel_rfl
theorem WP(x0 c0:Rw)(t7 t8:Int):Dy A D As Oe .n 171 0 (AU OK 0).fst (AU OK 0).snd [Ψ x0,AtR (Fn.func 101) [] [AtA 0 0],iv t7,iv t8] [bk [Ψ c0]] =
 br (A.lt t8 t7)
 (unI t8 λi=>
 BC x0 i λcs=>
 dk [.I,.L,.B,.L,.B,.L,.N] [.l cs] λn xs b xs1 b1 xs2=>
 Ae D (ω 101) [ψ [iv n,Ψ xs,bv b,Ψ xs1,bv b1,Ψ xs2],AtA 0 0] [bk [Ψ c0]] [.b,.K,.E] λb2=>
 br b2
 (Θ ((υ [bv Δ,iv t8],[BO.keep])))
 (AG D (AtB 171 0) [Ψ x0,AtR (Fn.func 101) [] [AtA 0 0],iv t7,iv (A.add θ t8 1)] [bk [Ψ c0]] λr1 o1=>
 AE 1 [0] (AH.mk [(0,bk [Ψ c0])] 1 Ξ) [] r1 o1))
 (Θ ((υ [iv 0],[BO.keep]))):=by kernel_rfl
theorem AoC(x0 c0:Rw):BZ A D As Of .n 171 OK [Ψ x0,AtR (Fn.func 103) [] [AtA 0 0]] [bk [AtR (Fn.func 101) [] [AtA 1 0]],bk [Ψ c0]] =
 Ae D (AtB 171 0) [Ψ x0,AtR (Fn.func 103) [] [AtA 0 0],iv ↑(AI x0),iv 0] [bk [AtR (Fn.func 101) [] [AtA 1 0]],bk [Ψ c0]] [.t,.C,.x,.X,.Y] λc l o=>
 br (Bn 0 c)
 (dk [.I,.N,.K,.K,.E] [.l l,.o o] λn=>
 Θ ((iv n,[BO.keep,BO.keep])))
 (br (Bn 1 c)
 (dk [.N,.K,.K,.E,.w] [.l l,.o o] λ_=>
 Θ ((iv (-1),[BO.keep,BO.keep])))
 (Ξ)):=by kernel_rfl
theorem WQ(x0 c0:Rw)(t7 t8:Int):Dy A D As Of .n 171 0 (AU OK 0).fst (AU OK 0).snd [Ψ x0,AtR (Fn.func 103) [] [AtA 0 0],iv t7,iv t8] [bk [AtR (Fn.func 101) [] [AtA 1 0]],bk [Ψ c0]] =
 br (A.lt t8 t7)
 (unI t8 λi=>
 BC x0 i λcs=>
 dk [.I,.L,.B,.L,.B,.L,.N] [.l cs] λn xs b xs1 b1 xs2=>
 Ae D (ω 103) [ψ [iv n,Ψ xs,bv b,Ψ xs1,bv b1,Ψ xs2],AtA 0 0] [bk [AtR (Fn.func 101) [] [AtA 1 0]],bk [Ψ c0]] [.b,.K,.K,.E] λb2=>
 br b2
 (Θ ((υ [bv Δ,iv t8],[BO.keep,BO.keep])))
 (AG D (AtB 171 0) [Ψ x0,AtR (Fn.func 103) [] [AtA 0 0],iv t7,iv (A.add θ t8 1)] [bk [AtR (Fn.func 101) [] [AtA 1 0]],bk [Ψ c0]] λr1 o1=>
 AE 2 [0,1] (AH.mk [(0,bk [AtR (Fn.func 101) [] [AtA 1 0]]),(1,bk [Ψ c0])] 2 Ξ) [] r1 o1))
 (Θ ((υ [iv 0],[BO.keep,BO.keep]))):=by kernel_rfl
theorem Aow(x0 c0:Rw):BZ A D As AbB .n 102 Ace [Ψ x0,AtR (Fn.func 101) [] [AtA 0 0]] [bk [Ψ c0]] =
 Ae D (ω 171) [Ψ x0,AtR (Fn.func 101) [] [AtA 0 0]] [bk [Ψ c0]] [.i,.K,.E] λn=>
 br (A.le 0 n)
 (Θ ((bv Δ,[BO.keep])))
 (Θ ((bv Φ,[BO.keep]))):=by kernel_rfl
theorem Aox(x0 c0:Rw):BZ A D As AbC .n 102 Ace [Ψ x0,AtR (Fn.func 103) [] [AtA 0 0]] [bk [AtR (Fn.func 101) [] [AtA 1 0]],bk [Ψ c0]] =
 Ae D (ω 171) [Ψ x0,AtR (Fn.func 103) [] [AtA 0 0]] [bk [AtR (Fn.func 101) [] [AtA 1 0]],bk [Ψ c0]] [.i,.K,.K,.E] λn=>
 br (A.le 0 n)
 (Θ ((bv Δ,[BO.keep,BO.keep])))
 (Θ ((bv Φ,[BO.keep,BO.keep]))):=by kernel_rfl
theorem Aa8(x0_0:Int)(x0_1:Rw)(x0_2:Bool)(x0_3:Rw)(x0_4:Bool)(x0_5 x1:Rw):BZ A D As Qj .n 36 Ams [ψ [iv x0_0,Ψ x0_1,bv x0_2,Ψ x0_3,bv x0_4,Ψ x0_5],Ψ x1] [] =
 br (A.eq x0_0 0)
 (Θ ((bv Δ,[])))
 (br (A.eq x0_0 2)
 (Ae D (ω 30) [ψ [Ψ x0_1,bv x0_2,Ψ x0_3,bv x0_4],Ψ x1] [] [.b,.E] λb=>
 br b
 (Θ ((bv Δ,[])))
 (Θ ((bv Φ,[]))))
 (br (A.eq x0_0 3)
 (br (A.lt 0 ↑(AI x0_5))
 (BC x0_5 0 λcs=>
 dk [.I,.L,.B,.L,.B,.L,.N] [.l cs] λn xs b xs1 b1 xs2=>
 Ae D (ω 101) [ψ [iv n,Ψ xs,bv b,Ψ xs1,bv b1,Ψ xs2],AtA 0 0] [bk [Ψ x1]] [.b,.K,.E] λb2=>
 br b2
 (Θ ((bv Φ,[])))
 (Θ ((bv Δ,[]))))
 (Θ ((bv Φ,[]))))
 (br (A.eq x0_0 4)
 (Ae D (ω 102) [Ψ x0_5,AtR (Fn.func 103) [] [AtA 0 0]] [bk [AtR (Fn.func 101) [] [AtA 1 0]],bk [Ψ x1]] [.b,.K,.E] λ_=>
 Ξ)
 (br (A.eq x0_0 5)
 (Ae D (ω 102) [Ψ x0_5,AtR (Fn.func 101) [] [AtA 0 0]] [bk [Ψ x1]] [.b,.K,.E] λb=>
 br b
 (Θ ((bv Δ,[])))
 (Θ ((bv Φ,[]))))
 (Θ ((bv Φ,[]))))))):=by kernel_rfl
theorem ArM(x0_0:Int)(x0_1:Rw)(x0_2:Bool)(x0_3:Rw)(x0_4:Bool)(x0_5 x1:Rw):BZ A D As Ako .n 36 Ams [ψ [iv x0_0,Ψ x0_1,bv x0_2,Ψ x0_3,bv x0_4,Ψ x0_5],Ψ x1] [] =
 br (A.eq x0_0 0)
 (Θ ((bv Δ,[])))
 (br (A.eq x0_0 2)
 (Ae D (ω 30) [ψ [Ψ x0_1,bv x0_2,Ψ x0_3,bv x0_4],Ψ x1] [] [.b,.E] λb=>
 br b
 (Θ ((bv Δ,[])))
 (Θ ((bv Φ,[]))))
 (br (A.eq x0_0 3)
 (br (A.lt 0 ↑(AI x0_5))
 (BC x0_5 0 λcs=>
 dk [.I,.L,.B,.L,.B,.L,.N] [.l cs] λn xs b xs1 b1 xs2=>
 Ae D (ω 101) [ψ [iv n,Ψ xs,bv b,Ψ xs1,bv b1,Ψ xs2],AtA 0 0] [bk [Ψ x1]] [.b,.K,.E] λb2=>
 br b2
 (Θ ((bv Φ,[])))
 (Θ ((bv Δ,[]))))
 (Θ ((bv Φ,[]))))
 (br (A.eq x0_0 4)
 (Ae D (ω 102) [Ψ x0_5,AtR (Fn.func 103) [] [AtA 0 0]] [bk [AtR (Fn.func 101) [] [AtA 1 0]],bk [Ψ x1]] [.b,.K,.K,.E] λb=>
 br b
 (Θ ((bv Φ,[])))
 (Θ ((bv Δ,[]))))
 (br (A.eq x0_0 5)
 (Ae D (ω 102) [Ψ x0_5,AtR (Fn.func 101) [] [AtA 0 0]] [bk [Ψ x1]] [.b,.K,.K,.E] λ_=>
 Ξ)
 (Θ ((bv Φ,[]))))))):=by kernel_rfl
end
section
open Go.RowKit
def Ae9:MFn:=AC [⟨39,(mB 14386),[],[4,5],[(1,((mB 48),([],[])))]⟩] 52
def VI:Hnt:=⟨[(122,(.agg AK,[])),(123,(.agg AK,[]))],[(0,[(1,([.ptr 0 0,.ptr 1 0],[.box AK,.box AK]))])],[(9,AK),(11,[.ls]),(15,Bw),(16,Bw),(18,[.int .i64]),(22,[.int .i64]),(27,AK),(29,AK),(32,[.int .i64]),(33,AK),(34,AK),(38,AK)]⟩
def Ae7:MFn:=AC [⟨86,(mB 246290604621852),[],[3,4],[(0,((mB 64),([],[3,4,45]))),(1,((mB 28),([],[45])))]⟩] 14
def AbE:Hnt:=⟨[(16,(.bool,[])),(29,(.bool,[])),(34,(.bool,[])),(36,(.bool,[])),(39,(.agg BD,[])),(52,(.agg AK,[])),(53,(.int .i64,[])),(54,(.agg BD,[]))],[(0,[(0,([.bool],[.del,.del,.del])),(1,([.ls,.ptr 0 0,.ptr 1 0],[.box Br,.box Br,.del]))])],[(13,Br),(15,Br),(25,Br),(28,Br),(50,[.bool]),(51,[.bool]),(53,Br),(54,Br),(62,Br),(63,Br),(72,Br),(73,Br),(79,Br),(80,Br)]⟩
def Sr:List (Nat × MFn):=[(52,Ae9),(14,Ae7)]
variable (A:Ar) (D:Orc)
theorem e52(x0_0:Rw)(x0_1:Bool)(x0_2 x1:Rw):BZ A D As VI .n 52 Ae9 [ψ [Ψ x0_0,bv x0_1,Ψ x0_2],Ψ x1] [] =
 Ae D (AtB 52 0) [Ψ x1,AtA 0 0,AtA 1 0,Ψ x0_0,iv ↑(AI x0_0),iv 0] [bk [bv Φ,Ψ []],bk [bv x0_1,Ψ x0_2]] [.t,.C,.x,.X,.Y] λc l o=>
 br (Bn 1 c)
 (dk [.P 0 0,.P 1 0,.N,.T,.B,.L,.N,.T,.B,.L,.N,.E] [.l l,.o o] λ_ _ b1 xs1=>
 Θ ((ψ [bv b1,Ψ xs1],[])))
 (Ξ):=by kernel_rfl
theorem WX(t1:Rw)(b4_0:Bool)(b4_1:Rw)(b5_0:Bool)(b5_1 t11:Rw)(t12 t13:Int):Dy A D As VI .n 52 0 (AU Ae9 0).fst (AU Ae9 0).snd [Ψ t1,AtA 0 0,AtA 1 0,Ψ t11,iv t12,iv t13] [bk [bv b4_0,Ψ b4_1],bk [bv b5_0,Ψ b5_1]] =
 br (A.lt t13 t12)
 (unI t13 λi=>
 BC t11 i λcs=>
 dk [.I,.B,.L,.N] [.l cs] λn b xs=>
 br (A.le 0 n)
 (br (A.lt n ↑(AI t1))
 (unI n λi1=>
 BC t1 i1 λcs1=>
 dk [.B,.L,.N] [.l cs1] λb1 xs1=>
 Ae D (ω 123) [ψ [bv b,Ψ xs],ψ [bv b1,Ψ xs1]] [] [.a,.B,.L,.N,.E] λb2 xs2=>
 Ae D (ω 122) [ψ [bv b5_0,Ψ b5_1],ψ [bv b2,Ψ xs2]] [] [.a,.B,.L,.N,.E] λb3 xs3=>
 AG D (AtB 52 0) [Ψ t1,AtA 0 0,AtA 1 0,Ψ t11,iv t12,iv (A.add θ t13 1)] [bk [bv b4_0,Ψ b4_1],bk [bv b3,Ψ xs3]] λr2 o2=>
 AE 2 [0,1] (AH.mk [(1,bk [bv b3,Ψ xs3]),(0,bk [bv b4_0,Ψ b4_1]),(2,bk [iv n,bv b,Ψ xs])] 3 Ξ) [0,1] r2 o2)
 (AG D (AtB 52 0) [Ψ t1,AtA 0 0,AtA 1 0,Ψ t11,iv t12,iv (A.add θ t13 1)] [bk [bv b4_0,Ψ b4_1],bk [bv b5_0,Ψ b5_1]] λr o=>
 AE 2 [0,1] (AH.mk [(1,bk [bv b5_0,Ψ b5_1]),(0,bk [bv b4_0,Ψ b4_1]),(2,bk [iv n,bv b,Ψ xs])] 3 Ξ) [0,1] r o))
 (AG D (AtB 52 0) [Ψ t1,AtA 0 0,AtA 1 0,Ψ t11,iv t12,iv (A.add θ t13 1)] [bk [bv b4_0,Ψ b4_1],bk [bv b5_0,Ψ b5_1]] λr o=>
 AE 2 [0,1] (AH.mk [(1,bk [bv b5_0,Ψ b5_1]),(0,bk [bv b4_0,Ψ b4_1]),(2,bk [iv n,bv b,Ψ xs])] 3 Ξ) [0,1] r o))
 (Θ ((υ [iv 0,AtA 0 0,AtA 1 0],[AtH (bk [bv b4_0,Ψ b4_1]),AtH (bk [bv b5_0,Ψ b5_1])]))):=by kernel_rfl
theorem e14(x0_0:Rw)(x0_1:Bool)(x0_2 x1_0:Rw)(x1_1:Bool)(x1_2 x2:Rw):BZ A D As AbE (.b (.b .n (.b .n (.b (.b .n (.b (.b (.b (.b (.b .n (.b .n (.b .n (.b .n (.b (.t (.b .n (.f (.t (.f (.t .n)))))) (.f (.b (.b (.t (.f (.f .n))) (.f (.t (.t .n)))) .n))))))) .n) .n) .n) .n)) .n))) .n) 14 Ae7 [ψ [Ψ x0_0,bv x0_1,Ψ x0_2],ψ [Ψ x1_0,bv x1_1,Ψ x1_2],Ψ x2] [] =
 Ae D (ω 34) [] [] [.b,.E] λb=>
 br b
 (Ae D (ω 16) [Ψ [[Ψ x0_0,bv x0_1,Ψ x0_2,bv Φ],[Ψ x1_0,bv x1_1,Ψ x1_2,bv Φ]],iv 2,iv 8] [] [.b,.E] λb1=>
 br b1
 (Ae D (ω 29) [Ψ x2,iv 20,iv 8] [] [.b,.E] λb2=>
 br b2
 (Ae D (ω 52) [ψ [Ψ x0_0,bv x0_1,Ψ x0_2],Ψ x2] [] [.a,.B,.L,.N,.E] λb3 xs=>
 Ae D (ω 52) [ψ [Ψ x1_0,bv x1_1,Ψ x1_2],Ψ x2] [] [.a,.B,.L,.N,.E] λb4 xs1=>
 Ae D (ω 53) [ψ [bv b3,Ψ xs],ψ [bv b4,Ψ xs1]] [] [.i,.E] λn=>
 br (A.eq n 0)
 (br (A.eq n 0) (br (A.lt n 0) Ξ (br (A.le n 0) (br (A.lt 0 n) Ξ (br (A.le 0 n) (AG D (AtB 14 0) [Ψ x2,AtA 0 0,AtA 1 0,χ 2 0 6 1,iv 6,iv 0] [bk [Ψ x0_0,bv x0_1,Ψ x0_2],bk [Ψ x1_0,bv x1_1,Ψ x1_2],δ [bv Δ,bv Φ,bv Φ,bv Δ,bv Φ,bv Δ] Δ Δ] λr6 o6=>
 dk [.t,.C,.x,.X] [.v r6] λc l4=>
 br (Bn 0 c)
 (dk [.B,.N,.D,.D,.D,.E] [.l l4,.o o6] λb5=>
 Θ ((bv b5,[])))
 (br (Bn 1 c)
 (dk [.L,.P 0 0,.P 1 0,.N,.T,.L,.B,.L,.N,.T,.L,.B,.L,.N,.D,.E] [.l l4,.o o6] λxs2 xs3 b5 xs4 xs5 b6 xs6=>
 Ae D (ω 54) [iv 6,ψ [Ψ xs3,bv b5,Ψ xs4],ψ [Ψ xs5,bv b6,Ψ xs6]] [] [.a,.I,.L,.B,.L,.B,.L,.N,.E] λn1 xs7 b7 xs8 b8 xs9=>
 Ae D (ω 36) [ψ [iv n1,Ψ xs7,bv b7,Ψ xs8,bv b8,Ψ xs9],Ψ xs2] [] [.b,.E] λb9=>
 br b9
 (Θ ((bv Φ,[])))
 (Ae D (ω 54) [iv (-1),ψ [Ψ xs3,bv b5,Ψ xs4],ψ [Ψ xs5,bv b6,Ψ xs6]] [] [.a,.I,.L,.B,.L,.B,.L,.N,.E] λn2 xs10 b10 xs11 b11 xs12=>
 Ae D (ω 36) [ψ [iv n2,Ψ xs10,bv b10,Ψ xs11,bv b11,Ψ xs12],Ψ xs2] [] [.b,.E] λb12=>
 br b12
 (Θ ((bv Φ,[])))
 (Θ ((bv Δ,[])))))
 (Ξ))) Ξ)) Ξ)) Ξ)
 (br (A.eq n 0) Ξ (br (A.lt n 0)
 (br (A.le n 0) (br (A.lt 0 n) Ξ (br (A.le 0 n) Ξ (AG D (AtB 14 0) [Ψ x2,AtA 0 0,AtA 1 0,χ 2 0 6 1,iv 6,iv 0] [bk [Ψ x0_0,bv x0_1,Ψ x0_2],bk [Ψ x1_0,bv x1_1,Ψ x1_2],δ [bv Φ,bv Δ,bv Δ,bv Δ,bv Φ,bv Φ] Δ Δ] λr6 o6=>
 dk [.t,.C,.x,.X] [.v r6] λc l4=>
 br (Bn 0 c)
 (dk [.B,.N,.D,.D,.D,.E] [.l l4,.o o6] λb5=>
 Θ ((bv b5,[])))
 (br (Bn 1 c)
 (dk [.L,.P 0 0,.P 1 0,.N,.T,.L,.B,.L,.N,.T,.L,.B,.L,.N,.D,.E] [.l l4,.o o6] λxs2 xs3 b5 xs4 xs5 b6 xs6=>
 Ae D (ω 54) [iv 6,ψ [Ψ xs3,bv b5,Ψ xs4],ψ [Ψ xs5,bv b6,Ψ xs6]] [] [.a,.I,.L,.B,.L,.B,.L,.N,.E] λn1 xs7 b7 xs8 b8 xs9=>
 Ae D (ω 36) [ψ [iv n1,Ψ xs7,bv b7,Ψ xs8,bv b8,Ψ xs9],Ψ xs2] [] [.b,.E] λb9=>
 br b9
 (Θ ((bv Φ,[])))
 (Ae D (ω 54) [iv (-1),ψ [Ψ xs3,bv b5,Ψ xs4],ψ [Ψ xs5,bv b6,Ψ xs6]] [] [.a,.I,.L,.B,.L,.B,.L,.N,.E] λn2 xs10 b10 xs11 b11 xs12=>
 Ae D (ω 36) [ψ [iv n2,Ψ xs10,bv b10,Ψ xs11,bv b11,Ψ xs12],Ψ xs2] [] [.b,.E] λb12=>
 br b12
 (Θ ((bv Φ,[])))
 (Θ ((bv Δ,[])))))
 (Ξ))))) Ξ)
 (br (A.le n 0) Ξ (br (A.lt 0 n) (br (A.le 0 n) (AG D (AtB 14 0) [Ψ x2,AtA 0 0,AtA 1 0,χ 2 0 6 1,iv 6,iv 0] [bk [Ψ x0_0,bv x0_1,Ψ x0_2],bk [Ψ x1_0,bv x1_1,Ψ x1_2],δ [bv Φ,bv Δ,bv Φ,bv Φ,bv Δ,bv Δ] Δ Δ] λr6 o6=>
 dk [.t,.C,.x,.X] [.v r6] λc l4=>
 br (Bn 0 c)
 (dk [.B,.N,.D,.D,.D,.E] [.l l4,.o o6] λb5=>
 Θ ((bv b5,[])))
 (br (Bn 1 c)
 (dk [.L,.P 0 0,.P 1 0,.N,.T,.L,.B,.L,.N,.T,.L,.B,.L,.N,.D,.E] [.l l4,.o o6] λxs2 xs3 b5 xs4 xs5 b6 xs6=>
 Ae D (ω 54) [iv 6,ψ [Ψ xs3,bv b5,Ψ xs4],ψ [Ψ xs5,bv b6,Ψ xs6]] [] [.a,.I,.L,.B,.L,.B,.L,.N,.E] λn1 xs7 b7 xs8 b8 xs9=>
 Ae D (ω 36) [ψ [iv n1,Ψ xs7,bv b7,Ψ xs8,bv b8,Ψ xs9],Ψ xs2] [] [.b,.E] λb9=>
 br b9
 (Θ ((bv Φ,[])))
 (Ae D (ω 54) [iv (-1),ψ [Ψ xs3,bv b5,Ψ xs4],ψ [Ψ xs5,bv b6,Ψ xs6]] [] [.a,.I,.L,.B,.L,.B,.L,.N,.E] λn2 xs10 b10 xs11 b11 xs12=>
 Ae D (ω 36) [ψ [iv n2,Ψ xs10,bv b10,Ψ xs11,bv b11,Ψ xs12],Ψ xs2] [] [.b,.E] λb12=>
 br b12
 (Θ ((bv Φ,[])))
 (Θ ((bv Δ,[])))))
 (Ξ))) Ξ) Ξ)))))
 (Θ ((bv Δ,[]))))
 (Θ ((bv Δ,[]))))
 (Θ ((bv Φ,[]))):=by kernel_rfl
theorem AjD(t2 b3_0:Rw)(b3_1:Bool)(b3_2 b4_0:Rw)(b4_1:Bool)(b4_2:Rw)(n45:Nat)(c45:List AV)(t46 t47:Int):Dy A D As AbE (.b (.b (.b (.b .n (.b (.b (.b (.b (.b (.b (.b (.b (.b (.b (.f .n) .n) .n) .n) .n) .n) .n) .n) .n) .n) .n)) (.b .n (.b (.b (.b (.b (.b (.b (.b (.b .n (.b (.b (.f .n) .n) .n)) .n) .n) .n) .n) .n) .n) .n))) .n) .n) 14 0 (AU Ae7 0).fst (AU Ae7 0).snd [Ψ t2,AtA 0 0,AtA 1 0,χ 2 0 n45 1,iv t46,iv t47] [bk [Ψ b3_0,bv b3_1,Ψ b3_2],bk [Ψ b4_0,bv b4_1,Ψ b4_2],{ cells:=c45,st:=Δ,ex:=Δ }] =
 br (A.lt t47 t46)
 (unI t47 λi=>
 br (i.blt n45) (EW c45 (0+i*1) 1 λcs=>
 dk [.B,.N] [.l cs] λb=>
 Ae D (ω 54) [iv t47,ψ [Ψ b3_0,bv b3_1,Ψ b3_2],ψ [Ψ b4_0,bv b4_1,Ψ b4_2]] [] [.a,.I,.L,.B,.L,.B,.L,.N,.E] λn xs b1 xs1 b2 xs2=>
 Ae D (ω 36) [ψ [iv n,Ψ xs,bv b1,Ψ xs1,bv b2,Ψ xs2],Ψ t2] [] [.b,.E] λb3=>
 br b3
 (br (A.not (A.beq Δ b))
 (Θ ((υ [bv Δ,bv Φ],[BO.del,BO.del,BO.del])))
 (Ae D (ω 54) [iv t47,ψ [Ψ b3_0,bv b3_1,Ψ b3_2],ψ [Ψ b4_0,bv b4_1,Ψ b4_2]] [] [.a,.I,.L,.B,.L,.B,.L,.N,.E] λn1 xs3 b4 xs4 b5 xs5=>
 Ae D (ω 39) [ψ [iv n1,Ψ xs3,bv b4,Ψ xs4,bv b5,Ψ xs5]] [] [.a,.I,.L,.B,.L,.B,.L,.N,.E] λn2 xs6 b6 xs7 b7 xs8=>
 Ae D (ω 36) [ψ [iv n2,Ψ xs6,bv b6,Ψ xs7,bv b7,Ψ xs8],Ψ t2] [] [.b,.E] λb8=>
 br b8
 (br (A.not (A.beq Δ b)) Ξ (AG D (AtB 14 0) [Ψ t2,AtA 0 0,AtA 1 0,χ 2 0 n45 1,iv t46,iv (A.add θ t47 1)] [bk [Ψ b3_0,bv b3_1,Ψ b3_2],bk [Ψ b4_0,bv b4_1,Ψ b4_2],δ c45 Δ Δ] λr5 o5=>
 AE 3 [0,1,2] (AH.mk [(1,bk [Ψ b4_0,bv b4_1,Ψ b4_2]),(0,bk [Ψ b3_0,bv b3_1,Ψ b3_2]),(2,δ c45 Δ Δ)] 3 Ξ) [0,1] r5 o5))
 (br (A.not (A.beq Φ b))
 (Θ ((υ [bv Δ,bv Φ],[BO.del,BO.del,BO.del])))
 (AG D (AtB 14 0) [Ψ t2,AtA 0 0,AtA 1 0,χ 2 0 n45 1,iv t46,iv (A.add θ t47 1)] [bk [Ψ b3_0,bv b3_1,Ψ b3_2],bk [Ψ b4_0,bv b4_1,Ψ b4_2],δ c45 Δ Δ] λr5 o5=>
 AE 3 [0,1,2] (AH.mk [(1,bk [Ψ b4_0,bv b4_1,Ψ b4_2]),(0,bk [Ψ b3_0,bv b3_1,Ψ b3_2]),(2,δ c45 Δ Δ)] 3 Ξ) [0,1] r5 o5))))
 (br (A.not (A.beq Φ b))
 (Θ ((υ [bv Δ,bv Φ],[BO.del,BO.del,BO.del])))
 (Ae D (ω 54) [iv t47,ψ [Ψ b3_0,bv b3_1,Ψ b3_2],ψ [Ψ b4_0,bv b4_1,Ψ b4_2]] [] [.a,.I,.L,.B,.L,.B,.L,.N,.E] λn1 xs3 b4 xs4 b5 xs5=>
 Ae D (ω 39) [ψ [iv n1,Ψ xs3,bv b4,Ψ xs4,bv b5,Ψ xs5]] [] [.a,.I,.L,.B,.L,.B,.L,.N,.E] λn2 xs6 b6 xs7 b7 xs8=>
 Ae D (ω 36) [ψ [iv n2,Ψ xs6,bv b6,Ψ xs7,bv b7,Ψ xs8],Ψ t2] [] [.b,.E] λb8=>
 br b8
 (br (A.not (A.beq Δ b))
 (Θ ((υ [bv Δ,bv Φ],[BO.del,BO.del,BO.del])))
 (AG D (AtB 14 0) [Ψ t2,AtA 0 0,AtA 1 0,χ 2 0 n45 1,iv t46,iv (A.add θ t47 1)] [bk [Ψ b3_0,bv b3_1,Ψ b3_2],bk [Ψ b4_0,bv b4_1,Ψ b4_2],δ c45 Δ Δ] λr5 o5=>
 AE 3 [0,1,2] (AH.mk [(1,bk [Ψ b4_0,bv b4_1,Ψ b4_2]),(0,bk [Ψ b3_0,bv b3_1,Ψ b3_2]),(2,δ c45 Δ Δ)] 3 Ξ) [0,1] r5 o5))
 (br (A.not (A.beq Φ b)) Ξ (AG D (AtB 14 0) [Ψ t2,AtA 0 0,AtA 1 0,χ 2 0 n45 1,iv t46,iv (A.add θ t47 1)] [bk [Ψ b3_0,bv b3_1,Ψ b3_2],bk [Ψ b4_0,bv b4_1,Ψ b4_2],δ c45 Δ Δ] λr5 o5=>
 AE 3 [0,1,2] (AH.mk [(1,bk [Ψ b4_0,bv b4_1,Ψ b4_2]),(0,bk [Ψ b3_0,bv b3_1,Ψ b3_2]),(2,δ c45 Δ Δ)] 3 Ξ) [0,1] r5 o5))))) Ξ)
 (Θ ((υ [iv 0,Ψ t2,AtA 0 0,AtA 1 0],[AtH (bk [Ψ b3_0,bv b3_1,Ψ b3_2]),AtH (bk [Ψ b4_0,bv b4_1,Ψ b4_2]),BO.del]))):=by kernel_rfl
end
