/- Layer 4's saying answers -/
import Derived.Test.YtpncilciembjdaaGreatDoorEBQ
set_option linter.all false
open Bool renaming false->Φ,true->Δ
open List renaming drop->ArV,take->ArQ
open Option renaming none->Ξ,some->Θ
namespace Go.Proofs.YtpncilciembjdaaGreatDoor
noncomputable section
open AV renaming agg->ω,ls->Ψ,tup->ι
open IntKind renaming i64->θ
open Key renaming fn->ψ,lp->ArW
section
open Go.RowKit
abbrev u32(n:Int):List AV:=[.v (.int .u32 n)]
set_option maxRecDepth 1000000
theorem s1:CZ 55 [iv (-6),.ls [[iv 4]]] []=Θ (.agg [.ls [[iv 0,bv Φ,.ls [u32 4]]],bv Δ,.ls [u32 6]],[]):=by kernel_rfl
theorem s2:CZ 28 [.agg [.ls [[iv 0,bv Φ,.ls [u32 4]]],bv Δ,.ls [u32 6]]] []=Θ (.agg [.ls [[iv 0,bv Φ,.ls [u32 4]]],bv Δ,.ls [u32 6],bv Φ],[]):=by kernel_rfl
theorem s3:CZ 17 [.agg [.ls [[iv 0,bv Φ,.ls [u32 4]]],bv Δ,.ls [u32 6],bv Φ]] []=Θ (.tup [.agg [.ls [[iv 0,bv Φ,.ls [u32 1]]],bv Δ,.ls [u32 2],bv Φ],iv 0],[]):=by kernel_rfl
theorem s4:CZ 27 [.agg [.ls [[iv 0,bv Φ,.ls [u32 4]]],bv Δ,.ls [u32 6]]] []=Θ (.agg [.ls [[iv 0,bv Φ,.ls [u32 4]]],bv Δ,.ls [u32 6],bv Δ],[]):=by kernel_rfl
theorem s5:CZ 17 [.agg [.ls [[iv 0,bv Φ,.ls [u32 4]]],bv Δ,.ls [u32 6],bv Δ]] []=Θ (.tup [.agg [.ls [],bv Φ,.ls [],bv Φ],iv (-1)],[]):=by kernel_rfl
theorem s6:CZ 55 [iv 3,.ls []] []=Θ (.agg [.ls [],bv Φ,.ls [u32 3]],[]):=by kernel_rfl
theorem s7:CZ 28 [.agg [.ls [],bv Φ,.ls [u32 3]]] []=Θ (.agg [.ls [],bv Φ,.ls [u32 3],bv Φ],[]):=by kernel_rfl
theorem s8:CZ 17 [.agg [.ls [],bv Φ,.ls [u32 3],bv Φ]] []=Θ (.tup [.agg [.ls [],bv Φ,.ls [],bv Φ],iv 1],[]):=by kernel_rfl
theorem s9:CZ 55 [iv (-2),.ls [[iv 1]]] []=Θ (.agg [.ls [[iv 0,bv Φ,.ls [u32 1]]],bv Δ,.ls [u32 2]],[]):=by kernel_rfl
theorem s10:CZ 21 [.agg [.ls [[iv 0,bv Φ,.ls [u32 1]]],bv Δ,.ls [u32 2],bv Φ],.agg [.ls [[iv 0,bv Φ,.ls [u32 1]]],bv Δ,.ls [u32 2],bv Φ]] []=Θ (bv Δ,[]):=by kernel_rfl
theorem s11:CZ 56 [iv 2] []=Θ (.agg [bv Φ,.ls [u32 2]],[]):=by kernel_rfl
theorem s12:CZ 30 [.agg [.ls [[iv 0,bv Φ,.ls [u32 1]]],bv Δ,.ls [u32 2],bv Φ],.ls [[bv Φ,.ls [u32 2]]]] []=Θ (bv Δ,[]):=by kernel_rfl
theorem s13:CZ 30 [.agg [.ls [[iv 0,bv Φ,.ls [u32 1]]],bv Δ,.ls [u32 2],bv Φ],.ls []] []=Θ (bv Φ,[]):=by kernel_rfl
theorem s14:CZ 26 [.agg [.ls [[iv 0,bv Φ,.ls [u32 1]]],bv Δ,.ls [u32 2],bv Φ],.agg [.ls [[iv 0,bv Φ,.ls [u32 1]]],bv Δ,.ls [u32 2],bv Φ]] []=Θ (bv Δ,[]):=by kernel_rfl
theorem s15:CZ 55 [iv 1,.ls []] []=Θ (.agg [.ls [],bv Φ,.ls [u32 1]],[]):=by kernel_rfl
theorem s16:CZ 28 [.agg [.ls [],bv Φ,.ls [u32 1]]] []=Θ (.agg [.ls [],bv Φ,.ls [u32 1],bv Φ],[]):=by kernel_rfl
theorem s17:CZ 55 [iv 2,.ls []] []=Θ (.agg [.ls [],bv Φ,.ls [u32 2]],[]):=by kernel_rfl
theorem s18:CZ 28 [.agg [.ls [],bv Φ,.ls [u32 2]]] []=Θ (.agg [.ls [],bv Φ,.ls [u32 2],bv Φ],[]):=by kernel_rfl
theorem s19:CZ 25 [.agg [.ls [],bv Φ,.ls [u32 1],bv Φ],.agg [.ls [],bv Φ,.ls [u32 2],bv Φ]] []=Θ (iv (-1),[]):=by kernel_rfl
theorem s20:CZ 57 [.agg [.ls [[iv 0,bv Φ,.ls [u32 1]]],bv Δ,.ls [u32 2],bv Φ],.ls [[sv (C7 [120])]]] []=Θ (sv (C7 [120,32,45,32,50,32,62,61,32,48]),[]):=by kernel_rfl
theorem s21:CZ 55 [iv 0,.ls [[iv 1]]] []=Θ (.agg [.ls [[iv 0,bv Φ,.ls [u32 1]]],bv Φ,.ls []],[]):=by kernel_rfl
theorem s22:CZ 27 [.agg [.ls [[iv 0,bv Φ,.ls [u32 1]]],bv Φ,.ls []]] []=Θ (.agg [.ls [[iv 0,bv Φ,.ls [u32 1]]],bv Φ,.ls [],bv Δ],[]):=by kernel_rfl
theorem s23:CZ 23 [.agg [.ls [[iv 0,bv Φ,.ls [u32 1]]],bv Φ,.ls [],bv Δ]] []=Θ (.ls [[.ls [[iv 0,bv Φ,.ls [u32 1]]],bv Δ,.ls [u32 1],bv Φ],[.ls [[iv 0,bv Δ,.ls [u32 1]]],bv Δ,.ls [u32 1],bv Φ]],[]):=by kernel_rfl
theorem s24:CZ 55 [iv 5,.ls []] []=Θ (.agg [.ls [],bv Φ,.ls [u32 5]],[]):=by kernel_rfl
theorem s25:CZ 58 [.agg [.ls [[iv 0,bv Φ,.ls [u32 1]]],bv Δ,.ls [u32 2],bv Φ],iv 0,.agg [.ls [],bv Φ,.ls [u32 5]]] []=Θ (.agg [.ls [],bv Φ,.ls [u32 3],bv Φ],[]):=by kernel_rfl
theorem s26:CZ 21 [.agg [.ls [],bv Φ,.ls [u32 3],bv Φ],.agg [.ls [],bv Φ,.ls [u32 3],bv Φ]] []=Θ (bv Δ,[]):=by kernel_rfl
theorem s27:CZ 59 [.agg [.ls [[iv 0,bv Φ,.ls [u32 1]]],bv Δ,.ls [u32 2],bv Φ],.ls [[iv 0]],.ls [[.ls [],bv Φ,.ls [u32 5]]]] []=Θ (.agg [.ls [],bv Φ,.ls [u32 3],bv Φ],[]):=by kernel_rfl
theorem s28:CZ 61 [.agg [.ls [[iv 0,bv Φ,.ls [u32 1]]],bv Δ,.ls [u32 2],bv Φ],iv 2] []=Θ (.agg [.ls [[iv 2,bv Φ,.ls [u32 1]]],bv Δ,.ls [u32 2],bv Φ],[]):=by kernel_rfl
theorem s29:CZ 60 [.agg [.ls [[iv 2,bv Φ,.ls [u32 1]]],bv Δ,.ls [u32 2],bv Φ]] []=Θ (.ls [[iv 2]],[]):=by kernel_rfl
theorem Al3:S8.ask (.fn 15) [] []=Θ (bv Δ,[]):=by
 refine AC AnS Ani (e15 ..) ?_;refine Ab (Iu s1) ?_;simp only[ND,DK,Aa];refine Ab (K6 s2) ?_;simp only[ND,DK,Aa];refine Ab (PF s3) ?_;simp only[ND,DK,Aa];refine Ab (Iu s1) ?_;simp only[ND,DK,Aa];refine Ab (YE s4) ?_;simp only[ND,DK,Aa];refine Ab (PF s5) ?_;simp only[ND,DK,Aa];refine Ab (Iu s6) ?_;simp only[ND,DK,Aa];refine Ab (K6 s7) ?_;simp only[ND,DK,Aa];refine Ab (PF s8) ?_;simp only[ND,DK,Aa];refine Ab (Iu s9) ?_;simp only[ND,DK,Aa];refine Ab (PE s10) ?_;simp only[ND,DK,Aa];refine Bt ?_ rfl;refine Bt ?_ rfl;refine Bt ?_ rfl;refine Ab (Amj s11) ?_;simp only[ND,DK,Aa];refine Ab (Vf s12) ?_;simp only[ND,DK,Aa];refine Ab (Vf s13) ?_;simp only[ND,DK,Aa];refine Ab (Aii s14) ?_;simp only[ND,DK,Aa];refine Ab (Iu s15) ?_;simp only[ND,DK,Aa];refine Ab (K6 s16) ?_;simp only[ND,DK,Aa];refine Ab (Iu s17) ?_;simp only[ND,DK,Aa];refine Ab (K6 s18) ?_;simp only[ND,DK,Aa];refine Ab (Amh s19) ?_;simp only[ND,DK,Aa];refine Bt ?_ rfl;refine Ab (Aij s20) ?_;simp only[ND,DK,Aa];refine AhL rfl ?_;refine Ab (Iu s21) ?_;simp only[ND,DK,Aa];refine Ab (YE s22) ?_;simp only[ND,DK,Aa];refine Ab (Aie s23) ?_;simp only[ND,DK,Aa];refine Bt ?_ rfl;refine Ab (Iu s24) ?_;simp only[ND,DK,Aa];refine Ab (Ami s25) ?_;simp only[ND,DK,Aa];refine Ab (Iu s6) ?_;simp only[ND,DK,Aa];refine Ab (PE s26) ?_;simp only[ND,DK,Aa];refine Ab (Iu s24) ?_;simp only[ND,DK,Aa];refine Ab (AaC s27) ?_;simp only[ND,DK,Aa];refine Ab (Iu s6) ?_;simp only[ND,DK,Aa];refine Ab (PE s26) ?_;simp only[ND,DK,Aa];refine Ab (Aif s28) ?_;simp only[ND,DK,Aa];refine Ab (Ail s29) ?_;simp only[ND,DK,Aa];refine Bt ?_ rfl;rfl
theorem Aqh:Bu (BD Tryz.prog 15) ((AL Ae Pk).ask (.fn 15)):=
 Do (Z4 ⟨(Hi _),(Hi _),(Hi _),(Hi _),(Hi _),(Hi _),(Hi _),(Hi _),(Hi _),(Hi _),(Hi _),(Hi _),(Hi _),(Hi _),(Hi _),trivial⟩) _
end
section
open Go.RowKit
def An9:MFn:=AU [] 21
def AkX:Hnt:=⟨[(78,(.bool,[]))],[],[(6,[.bool]),(8,[.bool]),(12,B7),(14,B7)]⟩
def An2:MFn:=AU [] 109
def An4:MFn:=AU [] 111
def An3:MFn:=AU [] 110
def Aqv:MFn:=AU [⟨43,(mB 60),[(6000003,6)],[2],[(2,((mB 12),([],[])))]⟩] 42
def Aqt:MFn:=AU [⟨52,(mB 44),[],[2,3],[(0,((mB 16),([],[2,3]))),(1,([],([],[2,3])))]⟩] 38
def QZ:List (Nat × MFn):=[(21,An9),(109,An2),(111,An4),(110,An3),(42,Aqv),(38,Aqt)]
variable (A:Ar) (D:Orc)
theorem e21(x0_0:Rw)(x0_1:Bool)(x0_2:Rw)(x0_3:Bool)(x1_0:Rw)(x1_1:Bool)(x1_2:Rw)(x1_3:Bool):BY A D At AkX .n 21 An9 [ω [Ψ x0_0,bv x0_1,Ψ x0_2,bv x0_3],ω [Ψ x1_0,bv x1_1,Ψ x1_2,bv x1_3]] [] =
 br (A.beq x0_3 x1_3)
 (Af D (ψ 78) [ω [Ψ x0_0,bv x0_1,Ψ x0_2],ω [Ψ x1_0,bv x1_1,Ψ x1_2]] [] [.b,.E] λb=>
 br b
 (Θ ((bv Δ,[])))
 (Θ ((bv Φ,[]))))
 (Θ ((bv Φ,[]))):=by kernel_rfl
end
section
open Go.RowKit
def Aqx:MFn:=AU [⟨76,(mB 224),[],[5,6],[(0,((mB 16),([],[5,6]))),(1,((mB 96),([],[])))]⟩] 74
def Aqn:MFn:=AU [] 24
def Aql:MFn:=AU [] 19
def Afq:MFn:=AU [⟨27,(mB 35),[],[],[(0,((mB 16),([],[]))),(1,([],([],[])))]⟩] 22
def Ab7:Hnt:=⟨[(21,(.bool,[]))],[(0,[(0,([.bool],[])),(1,([],[]))])],[(19,BL),(20,BL),(23,BL),(24,BL)]⟩
def Yr:List (Nat × MFn):=[(74,Aqx),(24,Aqn),(19,Aql),(22,Afq)]
variable (A:Ar) (D:Orc)
theorem e22(x0 x1:Rw):BY A D At Ab7 .n 22 Afq [Ψ x0,Ψ x1] [] =
 br (A.eq ↑(Al x0) ↑(Al x1))
 (Af D (ArW 22 0) [Ψ x0,Ψ x1,iv 0] [] [.t,.C,.x,.X,.Y] λc l o=>
 br (Bo 0 c)
 (dk [.B,.N,.E] [.l l,.o o] λb=>
 Θ ((bv b,[])))
 (br (Bo 1 c)
 (Fr l<|
 DE o<|
 Θ ((bv Δ,[])))
 (Ξ)))
 (Θ ((bv Φ,[]))):=by kernel_rfl
theorem AiC(t0 t1:Rw)(t5:Int):Dy A D At Ab7 .n 22 0 (AZ Afq 0).fst (AZ Afq 0).snd [Ψ t0,Ψ t1,iv t5] [] =
 br (A.lt t5 ↑(Al t0))
 (unI t5 λi=>
 BH t0 i λcs=>
 dk [.L,.B,.L,.B,.N] [.l cs] λxs b xs1 b1=>
 unI t5 λi1=>
 BH t1 i1 λcs1=>
 dk [.L,.B,.L,.B,.N] [.l cs1] λxs2 b2 xs3 b3=>
 Af D (ψ 21) [ω [Ψ xs,bv b,Ψ xs1,bv b1],ω [Ψ xs2,bv b2,Ψ xs3,bv b3]] [] [.b,.E] λb4=>
 br b4
 (AF D (ArW 22 0) [Ψ t0,Ψ t1,iv (A.add θ t5 1)] [] λr1 o1=>
 AW 0 [] (AH.mk [] 0 Ξ) [] r1 o1)
 (Θ ((ι [bv Δ,bv Φ],[]))))
 (Θ ((ι [iv 0],[]))):=by kernel_rfl
end
section
open Go.RowKit
def mf7:MFn:=AU [⟨124,(mB 60129542147),[],[],[(0,((mB 16),([],[]))),(1,([Δ,Δ],([],[])))]⟩] 7
def hn7:Hnt:=⟨[(15,(.bool,[])),(16,(.bool,[])),(17,(.tup [.agg BL,.int .i64],[])),(21,(.bool,[])),(22,(.bool,[])),(32,(.bool,[])),(33,(.tup [.ls,.bool],[]))],[(0,[(0,([.bool],[])),(1,([.ls,.int .i64],[]))])],[(37,BL),(38,BL),(40,BL),(45,BL),(55,BL),(56,BL),(67,[.ls])]⟩
def WR:List (Nat × MFn):=[(7,mf7)]
variable (A:Ar) (D:Orc)
theorem e7(x0:Rw)(x1:Int):BY A D At hn7 (.b (.b .n (.b (.b (.b (.b .n (.b .n (.b .n (.b .n (.b (.b .n (.b (.b (.b (.b .n (.b .n (.b .n (.b .n (.b .n (.b (.b .n (.b (.b (.b (.b (.b (.b (.b (.b (.b (.b (.b (.b (.b .n (.b (.b (.b (.b (.t (.t (.b (.b (.t .n) .n) (.b (.t .n) .n)))) (.f (.f (.b (.f .n) .n)))) .n) .n) .n)) .n) .n) .n) .n) .n) .n) .n) .n) .n) (.b (.b (.b (.b (.b (.b (.b (.b (.b (.b .n (.b (.b (.b (.b (.t (.t (.b (.b (.t .n) .n) (.b (.t .n) .n)))) (.f (.f (.b (.f .n) .n)))) .n) .n) .n)) .n) .n) .n) .n) .n) .n) .n) .n) .n)) (.b (.b (.b (.b (.b (.b (.b (.b (.b (.b (.b .n (.b (.b (.b (.b (.t (.t (.b (.b (.t .n) .n) (.b (.t .n) .n)))) (.f (.f (.b (.f .n) .n)))) .n) .n) .n)) .n) .n) .n) .n) .n) .n) .n) .n) .n) (.b (.b (.b (.b (.b (.b (.b (.b (.b (.b .n (.b (.b (.b (.b (.t (.t (.b (.b (.t .n) .n) (.b (.t .n) .n)))) (.f (.f (.b (.f .n) .n)))) .n) .n) .n)) .n) .n) .n) .n) .n) .n) .n) .n) .n))) (.b (.b (.b (.b (.b (.b (.b (.b (.b (.b (.b (.b .n (.b (.b (.b (.b (.t (.t (.b (.b (.t .n) .n) (.b (.t .n) .n)))) (.f (.f (.b (.f .n) .n)))) .n) .n) .n)) .n) .n) .n) .n) .n) .n) .n) .n) .n) (.b (.b (.b (.b (.b (.b (.b (.b (.b (.b .n (.b (.b (.b (.b (.t (.t (.b (.b (.t .n) .n) (.b (.t .n) .n)))) (.f (.f (.b (.f .n) .n)))) .n) .n) .n)) .n) .n) .n) .n) .n) .n) .n) .n) .n)) (.b (.b (.b (.b (.b (.b (.b (.b (.b (.b (.b .n (.b (.b (.b (.b (.t (.t (.b (.b (.t .n) .n) (.b (.t .n) .n)))) (.f (.f (.b (.f .n) .n)))) .n) .n) .n)) .n) .n) .n) .n) .n) .n) .n) .n) .n) (.b (.b (.b (.b (.b (.b (.b (.b (.b (.b .n (.b (.b (.b (.b (.t (.t (.b (.b (.t .n) .n) (.b (.t .n) .n)))) (.f (.f (.b (.f .n) .n)))) .n) .n) .n)) .n) .n) .n) .n) .n) .n) .n) .n) .n))))) .n)))))) .n) .n) .n)) .n))))) .n) .n) .n)) .n) 7 mf7 [Ψ x0,iv x1] [] =
 Af D (ψ 15) [] [] [.b,.E] λb=>
 br b
 (Af D (ψ 32) [] [] [.b,.E] λb1=>
 br b1
 (Af D (ψ 16) [Ψ x0,iv 12,iv 12] [] [.b,.E] λb2=>
 br b2
 (br (A.eq (↑(Al x0)) 0)
 (Θ ((bv Δ,[])))
 (Af D (ArW 7 0) [Ψ x0,iv x1,Ψ x0,iv ↑(Al x0),iv 0] [] [.t,.C,.x,.X,.Y] λc l o3=>
 br (Bo 0 c)
 (dk [.B,.N,.E] [.l l,.o o3] λb3=>
 Θ ((bv b3,[])))
 (br (Bo 1 c)
 (dk [.L,.I,.N,.E] [.l l,.o o3] λxs n=>
 br (A.eq (↑(Al xs)) 0)
 (Ξ)
 (unI (A.rem θ (A.bits BinOp.and θ n 1023) ↑(Al xs)) λi=>
 br (IJ i (Al xs) (Al xs)) (br (CU 4 xs) (br (CU 4 (AP (AS xs (Al xs)) i)) (br ((Al (AP (AS xs (Al xs)) i)).beq 0)
 (br (CU 4 xs) (br ((Al xs).beq 0)
 (unI (A.rem θ (A.bits BinOp.and θ n 1023) ↑(Al xs)) λi1=>
 br (IJ 0 i1 (Al xs)) (br (CU 4 xs) (br (CU 4 (AP (AS xs i1) 0)) (br ((Al (AP (AS xs i1) 0)).beq 0)
 (Af D (ψ 33) [Ψ xs] [] [.t,.L,.B,.N,.E] λxs1 b3=>
 Af D (ψ 33) [Ψ []] [] [.t,.L,.B,.N,.E] λxs2 b4=>
 Af D (ψ 33) [Ψ xs1] [] [.t,.L,.B,.N,.E] λxs3 b5=>
 br (A.beq b3 b4)
 (Af D (ψ 22) [Ψ xs1,Ψ xs2] [] [.b,.E] λb6=>
 br b6
 (br (A.not b3)
 (Θ ((bv Δ,[])))
 (br b5
 (br b5 (br b5 (AF D (ψ 22) [Ψ xs1,Ψ xs3] [] λr8 o8=>
 dk [.b,.E] [.v r8,.o o8] λb7=>
 br b7
 (br b5 (Θ ((bv Δ,[]))) Ξ)
 (br b5 (Θ ((bv Φ,[]))) Ξ)) Ξ) Ξ)
 (br b5 Ξ (br b5 Ξ (br b5 Ξ (Θ ((bv Φ,[]))))))))
 (Θ ((bv Φ,[]))))
 (Θ ((bv Φ,[]))))
 (br (EJ (B8 (AP (AS xs i1) 0))) (br (Bj (0+Al (AP (AS xs i1) 0)) 64) (AF D (ψ 33) [Ψ xs] [] λr4 o4=>
 dk [.t,.L,.B,.N,.E] [.v r4,.o o4] λxs1 b3=>
 br ((0+(0+Al (AP (AS xs i1) 0))*4).ble ([]++B8 (AP (AS xs i1) 0)).length) (AF D (ψ 33) [Ψ (Be (0+Al (AP (AS xs i1) 0)) 4 (ArQ ((0+Al (AP (AS xs i1) 0))*4) (ArV 0 ([]++B8 (AP (AS xs i1) 0)))))] [] λr5 o5=>
 dk [.t,.L,.B,.N,.E] [.v r5,.o o5] λxs2 b4=>
 Af D (ψ 33) [Ψ xs1] [] [.t,.L,.B,.N,.E] λxs3 b5=>
 br (A.beq b3 b4)
 (Af D (ψ 22) [Ψ xs1,Ψ xs2] [] [.b,.E] λb6=>
 br b6
 (br (A.not b3)
 (Θ ((bv Δ,[])))
 (br b5
 (br b5 (br b5 (AF D (ψ 22) [Ψ xs1,Ψ xs3] [] λr8 o8=>
 dk [.b,.E] [.v r8,.o o8] λb7=>
 br b7
 (br b5 (Θ ((bv Δ,[]))) Ξ)
 (br b5 (Θ ((bv Φ,[]))) Ξ)) Ξ) Ξ)
 (br b5 Ξ (br b5 Ξ (br b5 Ξ (Θ ((bv Φ,[]))))))))
 (Θ ((bv Φ,[]))))
 (Θ ((bv Φ,[])))) Ξ) Ξ) Ξ)) Ξ) Ξ) Ξ)
 (br (EJ (B8 xs)) (br (Bj (0+Al xs) 64) (unI (A.rem θ (A.bits BinOp.and θ n 1023) ↑(Al xs)) λi1=>
 br (IJ 0 i1 (Al xs)) (br (CU 4 xs) (br (CU 4 (AP (AS xs i1) 0)) (br ((Al (AP (AS xs i1) 0)).beq 0)
 (Af D (ψ 33) [Ψ xs] [] [.t,.L,.B,.N,.E] λxs1 b3=>
 br ((0+(0+Al xs)*4).ble ([]++B8 xs).length) (AF D (ψ 33) [Ψ (Be (0+Al xs) 4 (ArQ ((0+Al xs)*4) (ArV 0 ([]++B8 xs))))] [] λr5 o5=>
 dk [.t,.L,.B,.N,.E] [.v r5,.o o5] λxs2 b4=>
 Af D (ψ 33) [Ψ xs1] [] [.t,.L,.B,.N,.E] λxs3 b5=>
 br (A.beq b3 b4)
 (Af D (ψ 22) [Ψ xs1,Ψ xs2] [] [.b,.E] λb6=>
 br b6
 (br (A.not b3)
 (Θ ((bv Δ,[])))
 (br b5
 (br b5 (br b5 (AF D (ψ 22) [Ψ xs1,Ψ xs3] [] λr8 o8=>
 dk [.b,.E] [.v r8,.o o8] λb7=>
 br b7
 (br b5 (Θ ((bv Δ,[]))) Ξ)
 (br b5 (Θ ((bv Φ,[]))) Ξ)) Ξ) Ξ)
 (br b5 Ξ (br b5 Ξ (br b5 Ξ (Θ ((bv Φ,[]))))))))
 (Θ ((bv Φ,[]))))
 (Θ ((bv Φ,[])))) Ξ)
 (br (EJ (B8 (AP (AS xs i1) 0))) (br (Bj (0+Al xs+Al (AP (AS xs i1) 0)) 64) (br ((0+(0+Al xs)*4).ble ([]++B8 xs).length) (AF D (ψ 33) [Ψ xs] [] λr4 o4=>
 dk [.t,.L,.B,.N,.E] [.v r4,.o o4] λxs1 b3=>
 br ((0+(0+Al xs+Al (AP (AS xs i1) 0))*4).ble (ArV 0 (ArQ (0+(0+Al xs)*4) ([]++B8 xs))++B8 (AP (AS xs i1) 0)).length) (AF D (ψ 33) [Ψ (Be (0+Al xs+Al (AP (AS xs i1) 0)) 4 (ArQ ((0+Al xs+Al (AP (AS xs i1) 0))*4) (ArV 0 (ArV 0 (ArQ (0+(0+Al xs)*4) ([]++B8 xs))++B8 (AP (AS xs i1) 0)))))] [] λr5 o5=>
 dk [.t,.L,.B,.N,.E] [.v r5,.o o5] λxs2 b4=>
 Af D (ψ 33) [Ψ xs1] [] [.t,.L,.B,.N,.E] λxs3 b5=>
 br (A.beq b3 b4)
 (Af D (ψ 22) [Ψ xs1,Ψ xs2] [] [.b,.E] λb6=>
 br b6
 (br (A.not b3)
 (Θ ((bv Δ,[])))
 (br b5
 (br b5 (br b5 (AF D (ψ 22) [Ψ xs1,Ψ xs3] [] λr8 o8=>
 dk [.b,.E] [.v r8,.o o8] λb7=>
 br b7
 (br b5 (Θ ((bv Δ,[]))) Ξ)
 (br b5 (Θ ((bv Φ,[]))) Ξ)) Ξ) Ξ)
 (br b5 Ξ (br b5 Ξ (br b5 Ξ (Θ ((bv Φ,[]))))))))
 (Θ ((bv Φ,[]))))
 (Θ ((bv Φ,[])))) Ξ) Ξ) Ξ) Ξ)) Ξ) Ξ) Ξ) Ξ) Ξ)) Ξ)
 (br (EJ (B8 (AP (AS xs (Al xs)) i))) (br (Bj (0+Al (AP (AS xs (Al xs)) i)) 64) (br (CU 4 xs) (br ((Al xs).beq 0)
 (unI (A.rem θ (A.bits BinOp.and θ n 1023) ↑(Al xs)) λi1=>
 br (IJ 0 i1 (Al xs)) (br (CU 4 xs) (br (CU 4 (AP (AS xs i1) 0)) (br ((Al (AP (AS xs i1) 0)).beq 0)
 (Af D (ψ 33) [Ψ xs] [] [.t,.L,.B,.N,.E] λxs1 b3=>
 br ((0+(0+Al (AP (AS xs (Al xs)) i))*4).ble ([]++B8 (AP (AS xs (Al xs)) i)).length) (AF D (ψ 33) [Ψ (Be (0+Al (AP (AS xs (Al xs)) i)) 4 (ArQ ((0+Al (AP (AS xs (Al xs)) i))*4) (ArV 0 ([]++B8 (AP (AS xs (Al xs)) i)))))] [] λr5 o5=>
 dk [.t,.L,.B,.N,.E] [.v r5,.o o5] λxs2 b4=>
 Af D (ψ 33) [Ψ xs1] [] [.t,.L,.B,.N,.E] λxs3 b5=>
 br (A.beq b3 b4)
 (Af D (ψ 22) [Ψ xs1,Ψ xs2] [] [.b,.E] λb6=>
 br b6
 (br (A.not b3)
 (Θ ((bv Δ,[])))
 (br b5
 (br b5 (br b5 (AF D (ψ 22) [Ψ xs1,Ψ xs3] [] λr8 o8=>
 dk [.b,.E] [.v r8,.o o8] λb7=>
 br b7
 (br b5 (Θ ((bv Δ,[]))) Ξ)
 (br b5 (Θ ((bv Φ,[]))) Ξ)) Ξ) Ξ)
 (br b5 Ξ (br b5 Ξ (br b5 Ξ (Θ ((bv Φ,[]))))))))
 (Θ ((bv Φ,[]))))
 (Θ ((bv Φ,[])))) Ξ)
 (br (EJ (B8 (AP (AS xs i1) 0))) (br (Bj (0+Al (AP (AS xs (Al xs)) i)+Al (AP (AS xs i1) 0)) 64) (br ((0+(0+Al (AP (AS xs (Al xs)) i))*4).ble ([]++B8 (AP (AS xs (Al xs)) i)).length) (AF D (ψ 33) [Ψ xs] [] λr4 o4=>
 dk [.t,.L,.B,.N,.E] [.v r4,.o o4] λxs1 b3=>
 br ((0+(0+Al (AP (AS xs (Al xs)) i)+Al (AP (AS xs i1) 0))*4).ble (ArV 0 (ArQ (0+(0+Al (AP (AS xs (Al xs)) i))*4) ([]++B8 (AP (AS xs (Al xs)) i)))++B8 (AP (AS xs i1) 0)).length) (AF D (ψ 33) [Ψ (Be (0+Al (AP (AS xs (Al xs)) i)+Al (AP (AS xs i1) 0)) 4 (ArQ ((0+Al (AP (AS xs (Al xs)) i)+Al (AP (AS xs i1) 0))*4) (ArV 0 (ArV 0 (ArQ (0+(0+Al (AP (AS xs (Al xs)) i))*4) ([]++B8 (AP (AS xs (Al xs)) i)))++B8 (AP (AS xs i1) 0)))))] [] λr5 o5=>
 dk [.t,.L,.B,.N,.E] [.v r5,.o o5] λxs2 b4=>
 Af D (ψ 33) [Ψ xs1] [] [.t,.L,.B,.N,.E] λxs3 b5=>
 br (A.beq b3 b4)
 (Af D (ψ 22) [Ψ xs1,Ψ xs2] [] [.b,.E] λb6=>
 br b6
 (br (A.not b3)
 (Θ ((bv Δ,[])))
 (br b5
 (br b5 (br b5 (AF D (ψ 22) [Ψ xs1,Ψ xs3] [] λr8 o8=>
 dk [.b,.E] [.v r8,.o o8] λb7=>
 br b7
 (br b5 (Θ ((bv Δ,[]))) Ξ)
 (br b5 (Θ ((bv Φ,[]))) Ξ)) Ξ) Ξ)
 (br b5 Ξ (br b5 Ξ (br b5 Ξ (Θ ((bv Φ,[]))))))))
 (Θ ((bv Φ,[]))))
 (Θ ((bv Φ,[])))) Ξ) Ξ) Ξ) Ξ)) Ξ) Ξ) Ξ)
 (br (EJ (B8 xs)) (br (Bj (0+Al (AP (AS xs (Al xs)) i)+Al xs) 64) (br ((0+(0+Al (AP (AS xs (Al xs)) i))*4).ble ([]++B8 (AP (AS xs (Al xs)) i)).length) (unI (A.rem θ (A.bits BinOp.and θ n 1023) ↑(Al xs)) λi1=>
 br (IJ 0 i1 (Al xs)) (br (CU 4 xs) (br (CU 4 (AP (AS xs i1) 0)) (br ((Al (AP (AS xs i1) 0)).beq 0)
 (Af D (ψ 33) [Ψ xs] [] [.t,.L,.B,.N,.E] λxs1 b3=>
 br ((0+(0+Al (AP (AS xs (Al xs)) i)+Al xs)*4).ble (ArV 0 (ArQ (0+(0+Al (AP (AS xs (Al xs)) i))*4) ([]++B8 (AP (AS xs (Al xs)) i)))++B8 xs).length) (AF D (ψ 33) [Ψ (Be (0+Al (AP (AS xs (Al xs)) i)+Al xs) 4 (ArQ ((0+Al (AP (AS xs (Al xs)) i)+Al xs)*4) (ArV 0 (ArV 0 (ArQ (0+(0+Al (AP (AS xs (Al xs)) i))*4) ([]++B8 (AP (AS xs (Al xs)) i)))++B8 xs))))] [] λr5 o5=>
 dk [.t,.L,.B,.N,.E] [.v r5,.o o5] λxs2 b4=>
 Af D (ψ 33) [Ψ xs1] [] [.t,.L,.B,.N,.E] λxs3 b5=>
 br (A.beq b3 b4)
 (Af D (ψ 22) [Ψ xs1,Ψ xs2] [] [.b,.E] λb6=>
 br b6
 (br (A.not b3)
 (Θ ((bv Δ,[])))
 (br b5
 (br b5 (br b5 (AF D (ψ 22) [Ψ xs1,Ψ xs3] [] λr8 o8=>
 dk [.b,.E] [.v r8,.o o8] λb7=>
 br b7
 (br b5 (Θ ((bv Δ,[]))) Ξ)
 (br b5 (Θ ((bv Φ,[]))) Ξ)) Ξ) Ξ)
 (br b5 Ξ (br b5 Ξ (br b5 Ξ (Θ ((bv Φ,[]))))))))
 (Θ ((bv Φ,[]))))
 (Θ ((bv Φ,[])))) Ξ)
 (br (EJ (B8 (AP (AS xs i1) 0))) (br (Bj (0+Al (AP (AS xs (Al xs)) i)+Al xs+Al (AP (AS xs i1) 0)) 64) (br ((0+(0+Al (AP (AS xs (Al xs)) i)+Al xs)*4).ble (ArV 0 (ArQ (0+(0+Al (AP (AS xs (Al xs)) i))*4) ([]++B8 (AP (AS xs (Al xs)) i)))++B8 xs).length) (AF D (ψ 33) [Ψ xs] [] λr4 o4=>
 dk [.t,.L,.B,.N,.E] [.v r4,.o o4] λxs1 b3=>
 br ((0+(0+Al (AP (AS xs (Al xs)) i)+Al xs+Al (AP (AS xs i1) 0))*4).ble (ArV 0 (ArQ (0+(0+Al (AP (AS xs (Al xs)) i)+Al xs)*4) (ArV 0 (ArQ (0+(0+Al (AP (AS xs (Al xs)) i))*4) ([]++B8 (AP (AS xs (Al xs)) i)))++B8 xs))++B8 (AP (AS xs i1) 0)).length) (AF D (ψ 33) [Ψ (Be (0+Al (AP (AS xs (Al xs)) i)+Al xs+Al (AP (AS xs i1) 0)) 4 (ArQ ((0+Al (AP (AS xs (Al xs)) i)+Al xs+Al (AP (AS xs i1) 0))*4) (ArV 0 (ArV 0 (ArQ (0+(0+Al (AP (AS xs (Al xs)) i)+Al xs)*4) (ArV 0 (ArQ (0+(0+Al (AP (AS xs (Al xs)) i))*4) ([]++B8 (AP (AS xs (Al xs)) i)))++B8 xs))++B8 (AP (AS xs i1) 0)))))] [] λr5 o5=>
 dk [.t,.L,.B,.N,.E] [.v r5,.o o5] λxs2 b4=>
 Af D (ψ 33) [Ψ xs1] [] [.t,.L,.B,.N,.E] λxs3 b5=>
 br (A.beq b3 b4)
 (Af D (ψ 22) [Ψ xs1,Ψ xs2] [] [.b,.E] λb6=>
 br b6
 (br (A.not b3)
 (Θ ((bv Δ,[])))
 (br b5
 (br b5 (br b5 (AF D (ψ 22) [Ψ xs1,Ψ xs3] [] λr8 o8=>
 dk [.b,.E] [.v r8,.o o8] λb7=>
 br b7
 (br b5 (Θ ((bv Δ,[]))) Ξ)
 (br b5 (Θ ((bv Φ,[]))) Ξ)) Ξ) Ξ)
 (br b5 Ξ (br b5 Ξ (br b5 Ξ (Θ ((bv Φ,[]))))))))
 (Θ ((bv Φ,[]))))
 (Θ ((bv Φ,[])))) Ξ) Ξ) Ξ) Ξ)) Ξ) Ξ) Ξ) Ξ) Ξ) Ξ)) Ξ) Ξ) Ξ)) Ξ) Ξ) Ξ))
 (Ξ))))
 (Θ ((bv Δ,[]))))
 (Θ ((bv Φ,[]))))
 (Θ ((bv Φ,[]))):=by kernel_rfl
theorem Ana(t0:Rw)(t1:Int)(t33:Rw)(t34 t35:Int):Dy A D At hn7 (.b (.b (.b (.b (.b (.b (.b .n (.b (.b (.b (.b (.b (.b (.b .n (.b (.b .n (.b .n (.b (.b .n (.b (.b (.t .n) .n) .n)) .n))) .n)) .n) .n) .n) .n) .n) .n)) .n) .n) .n) (.b .n (.b .n (.b .n (.b .n (.b .n (.b .n (.b (.b (.f .n) .n) .n)))))))) .n) .n) 7 0 (AZ mf7 0).fst (AZ mf7 0).snd [Ψ t0,iv t1,Ψ t33,iv t34,iv t35] [] =
 br (A.lt t35 t34)
 (unI t35 λi=>
 BH t33 i λcs=>
 dk [.L,.B,.L,.B,.N] [.l cs] λxs b xs1 b1=>
 Af D (ψ 17) [ω [Ψ xs,bv b,Ψ xs1,bv b1]] [] [.t,.A,.L,.B,.L,.B,.N,.I,.N,.E] λxs2 b2 xs3 b3 n=>
 Af D (ψ 17) [ω [Ψ xs2,bv b2,Ψ xs3,bv b3]] [] [.t,.A,.L,.B,.L,.B,.N,.I,.N,.E] λxs4 b4 xs5 b5 n1=>
 br (A.eq n 0)
 (br (A.eq n1 0)
 (Af D (ψ 21) [ω [Ψ xs2,bv b2,Ψ xs3,bv b3],ω [Ψ xs4,bv b4,Ψ xs5,bv b5]] [] [.b,.E] λb6=>
 br b6
 (br (A.eq n 0) (AF D (ArW 7 0) [Ψ t0,iv t1,Ψ t33,iv t34,iv (A.add θ t35 1)] [] λr3 o3=>
 AW 0 [] (AH.mk [(2,bk [Ψ xs4,bv b4,Ψ xs5,bv b5]),(1,bk [Ψ xs2,bv b2,Ψ xs3,bv b3]),(0,bk [Ψ xs,bv b,Ψ xs1,bv b1])] 3 Ξ) [] r3 o3) Ξ)
 (Θ ((ι [bv Δ,bv Φ],[]))))
 (Θ ((ι [bv Δ,bv Φ],[]))))
 (br (A.eq n 0) Ξ (br (A.eq (↑(Al xs2)) 0)
 (AF D (ArW 7 0) [Ψ t0,iv t1,Ψ t33,iv t34,iv (A.add θ t35 1)] [] λr2 o2=>
 AW 0 [] (AH.mk [(2,bk [Ψ xs4,bv b4,Ψ xs5,bv b5]),(1,bk [Ψ xs2,bv b2,Ψ xs3,bv b3]),(0,bk [Ψ xs,bv b,Ψ xs1,bv b1])] 3 Ξ) [] r2 o2)
 (Θ ((ι [bv Δ,bv Φ],[]))))))
 (Θ ((ι [iv 0,Ψ t0,iv t1],[]))):=by kernel_rfl
end
