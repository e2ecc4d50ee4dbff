/- Layer 4's saying answers -/
import Derived.Test.YtpncilciembjdaaGreatDoorDBQ
set_option linter.all false
open Bool renaming false->Φ,true->Δ
open Option renaming none->Ξ,some->Θ
namespace Go.Proofs.YtpncilciembjdaaGreatDoor
open AV renaming agg->ω,ls->Ψ,tup->ε
open IntKind renaming i64->δ
open Key renaming fn->ψ,lp->ApW
section
open Go.RowKit
abbrev u32(n:Int):List AV:=[.v (.int .u32 n)]
set_option maxRecDepth 1000000
theorem s1:CU 55 [iv (-6),.ls [[iv 4]]] []=Θ (.agg [.ls [[iv 0,bv Φ,.ls [u32 4]]],bv Δ,.ls [u32 6]],[]):=by kernel_rfl
theorem s2:CU 28 [.agg [.ls [[iv 0,bv Φ,.ls [u32 4]]],bv Δ,.ls [u32 6]]] []=Θ (.agg [.ls [[iv 0,bv Φ,.ls [u32 4]]],bv Δ,.ls [u32 6],bv Φ],[]):=by kernel_rfl
theorem s3:CU 17 [.agg [.ls [[iv 0,bv Φ,.ls [u32 4]]],bv Δ,.ls [u32 6],bv Φ]] []=Θ (.tup [.agg [.ls [[iv 0,bv Φ,.ls [u32 1]]],bv Δ,.ls [u32 2],bv Φ],iv 0],[]):=by kernel_rfl
theorem s4:CU 27 [.agg [.ls [[iv 0,bv Φ,.ls [u32 4]]],bv Δ,.ls [u32 6]]] []=Θ (.agg [.ls [[iv 0,bv Φ,.ls [u32 4]]],bv Δ,.ls [u32 6],bv Δ],[]):=by kernel_rfl
theorem s5:CU 17 [.agg [.ls [[iv 0,bv Φ,.ls [u32 4]]],bv Δ,.ls [u32 6],bv Δ]] []=Θ (.tup [.agg [.ls [],bv Φ,.ls [],bv Φ],iv (-1)],[]):=by kernel_rfl
theorem s6:CU 55 [iv 3,.ls []] []=Θ (.agg [.ls [],bv Φ,.ls [u32 3]],[]):=by kernel_rfl
theorem s7:CU 28 [.agg [.ls [],bv Φ,.ls [u32 3]]] []=Θ (.agg [.ls [],bv Φ,.ls [u32 3],bv Φ],[]):=by kernel_rfl
theorem s8:CU 17 [.agg [.ls [],bv Φ,.ls [u32 3],bv Φ]] []=Θ (.tup [.agg [.ls [],bv Φ,.ls [],bv Φ],iv 1],[]):=by kernel_rfl
theorem s9:CU 55 [iv (-2),.ls [[iv 1]]] []=Θ (.agg [.ls [[iv 0,bv Φ,.ls [u32 1]]],bv Δ,.ls [u32 2]],[]):=by kernel_rfl
theorem s10:CU 21 [.agg [.ls [[iv 0,bv Φ,.ls [u32 1]]],bv Δ,.ls [u32 2],bv Φ],.agg [.ls [[iv 0,bv Φ,.ls [u32 1]]],bv Δ,.ls [u32 2],bv Φ]] []=Θ (bv Δ,[]):=by kernel_rfl
theorem s11:CU 56 [iv 2] []=Θ (.agg [bv Φ,.ls [u32 2]],[]):=by kernel_rfl
theorem s12:CU 30 [.agg [.ls [[iv 0,bv Φ,.ls [u32 1]]],bv Δ,.ls [u32 2],bv Φ],.ls [[bv Φ,.ls [u32 2]]]] []=Θ (bv Δ,[]):=by kernel_rfl
theorem s13:CU 30 [.agg [.ls [[iv 0,bv Φ,.ls [u32 1]]],bv Δ,.ls [u32 2],bv Φ],.ls []] []=Θ (bv Φ,[]):=by kernel_rfl
theorem s14:CU 26 [.agg [.ls [[iv 0,bv Φ,.ls [u32 1]]],bv Δ,.ls [u32 2],bv Φ],.agg [.ls [[iv 0,bv Φ,.ls [u32 1]]],bv Δ,.ls [u32 2],bv Φ]] []=Θ (bv Δ,[]):=by kernel_rfl
theorem s15:CU 55 [iv 1,.ls []] []=Θ (.agg [.ls [],bv Φ,.ls [u32 1]],[]):=by kernel_rfl
theorem s16:CU 28 [.agg [.ls [],bv Φ,.ls [u32 1]]] []=Θ (.agg [.ls [],bv Φ,.ls [u32 1],bv Φ],[]):=by kernel_rfl
theorem s17:CU 55 [iv 2,.ls []] []=Θ (.agg [.ls [],bv Φ,.ls [u32 2]],[]):=by kernel_rfl
theorem s18:CU 28 [.agg [.ls [],bv Φ,.ls [u32 2]]] []=Θ (.agg [.ls [],bv Φ,.ls [u32 2],bv Φ],[]):=by kernel_rfl
theorem s19:CU 25 [.agg [.ls [],bv Φ,.ls [u32 1],bv Φ],.agg [.ls [],bv Φ,.ls [u32 2],bv Φ]] []=Θ (iv (-1),[]):=by kernel_rfl
theorem s20:CU 57 [.agg [.ls [[iv 0,bv Φ,.ls [u32 1]]],bv Δ,.ls [u32 2],bv Φ],.ls [[sv (C2 [120])]]] []=Θ (sv (C2 [120,32,45,32,50,32,62,61,32,48]),[]):=by kernel_rfl
theorem s21:CU 55 [iv 0,.ls [[iv 1]]] []=Θ (.agg [.ls [[iv 0,bv Φ,.ls [u32 1]]],bv Φ,.ls []],[]):=by kernel_rfl
theorem s22:CU 27 [.agg [.ls [[iv 0,bv Φ,.ls [u32 1]]],bv Φ,.ls []]] []=Θ (.agg [.ls [[iv 0,bv Φ,.ls [u32 1]]],bv Φ,.ls [],bv Δ],[]):=by kernel_rfl
theorem s23:CU 23 [.agg [.ls [[iv 0,bv Φ,.ls [u32 1]]],bv Φ,.ls [],bv Δ]] []=Θ (.ls [[.ls [[iv 0,bv Φ,.ls [u32 1]]],bv Δ,.ls [u32 1],bv Φ],[.ls [[iv 0,bv Δ,.ls [u32 1]]],bv Δ,.ls [u32 1],bv Φ]],[]):=by kernel_rfl
theorem s24:CU 55 [iv 5,.ls []] []=Θ (.agg [.ls [],bv Φ,.ls [u32 5]],[]):=by kernel_rfl
theorem s25:CU 58 [.agg [.ls [[iv 0,bv Φ,.ls [u32 1]]],bv Δ,.ls [u32 2],bv Φ],iv 0,.agg [.ls [],bv Φ,.ls [u32 5]]] []=Θ (.agg [.ls [],bv Φ,.ls [u32 3],bv Φ],[]):=by kernel_rfl
theorem s26:CU 21 [.agg [.ls [],bv Φ,.ls [u32 3],bv Φ],.agg [.ls [],bv Φ,.ls [u32 3],bv Φ]] []=Θ (bv Δ,[]):=by kernel_rfl
theorem s27:CU 59 [.agg [.ls [[iv 0,bv Φ,.ls [u32 1]]],bv Δ,.ls [u32 2],bv Φ],.ls [[iv 0]],.ls [[.ls [],bv Φ,.ls [u32 5]]]] []=Θ (.agg [.ls [],bv Φ,.ls [u32 3],bv Φ],[]):=by kernel_rfl
theorem s28:CU 61 [.agg [.ls [[iv 0,bv Φ,.ls [u32 1]]],bv Δ,.ls [u32 2],bv Φ],iv 2] []=Θ (.agg [.ls [[iv 2,bv Φ,.ls [u32 1]]],bv Δ,.ls [u32 2],bv Φ],[]):=by kernel_rfl
theorem s29:CU 60 [.agg [.ls [[iv 2,bv Φ,.ls [u32 1]]],bv Δ,.ls [u32 2],bv Φ]] []=Θ (.ls [[iv 2]],[]):=by kernel_rfl
theorem AkW:SG.ask (.fn 15) [] []=Θ (bv Δ,[]):=by
 refine AI AmC Amb (e15 ..) ?_;refine Ab (If s1) ?_;simp only[ND,DK,Aa];refine Ab (KO s2) ?_;simp only[ND,DK,Aa];refine Ab (Pg s3) ?_;simp only[ND,DK,Aa];refine Ab (If s1) ?_;simp only[ND,DK,Aa];refine Ab (X4 s4) ?_;simp only[ND,DK,Aa];refine Ab (Pg s5) ?_;simp only[ND,DK,Aa];refine Ab (If s6) ?_;simp only[ND,DK,Aa];refine Ab (KO s7) ?_;simp only[ND,DK,Aa];refine Ab (Pg s8) ?_;simp only[ND,DK,Aa];refine Ab (If s9) ?_;simp only[ND,DK,Aa];refine Ab (Pf s10) ?_;simp only[ND,DK,Aa];refine BF ?_ rfl;refine BF ?_ rfl;refine BF ?_ rfl;refine Ab (Alb s11) ?_;simp only[ND,DK,Aa];refine Ab (UQ s12) ?_;simp only[ND,DK,Aa];refine Ab (UQ s13) ?_;simp only[ND,DK,Aa];refine Ab (Ahp s14) ?_;simp only[ND,DK,Aa];refine Ab (If s15) ?_;simp only[ND,DK,Aa];refine Ab (KO s16) ?_;simp only[ND,DK,Aa];refine Ab (If s17) ?_;simp only[ND,DK,Aa];refine Ab (KO s18) ?_;simp only[ND,DK,Aa];refine Ab (Ak9 s19) ?_;simp only[ND,DK,Aa];refine BF ?_ rfl;refine Ab (Ahq s20) ?_;simp only[ND,DK,Aa];refine AgS rfl ?_;refine Ab (If s21) ?_;simp only[ND,DK,Aa];refine Ab (X4 s22) ?_;simp only[ND,DK,Aa];refine Ab (Ahl s23) ?_;simp only[ND,DK,Aa];refine BF ?_ rfl;refine Ab (If s24) ?_;simp only[ND,DK,Aa];refine Ab (Ala s25) ?_;simp only[ND,DK,Aa];refine Ab (If s6) ?_;simp only[ND,DK,Aa];refine Ab (Pf s26) ?_;simp only[ND,DK,Aa];refine Ab (If s24) ?_;simp only[ND,DK,Aa];refine Ab (ZX s27) ?_;simp only[ND,DK,Aa];refine Ab (If s6) ?_;simp only[ND,DK,Aa];refine Ab (Pf s26) ?_;simp only[ND,DK,Aa];refine Ab (Ahm s28) ?_;simp only[ND,DK,Aa];refine Ab (Ahs s29) ?_;simp only[ND,DK,Aa];refine BF ?_ rfl;rfl
theorem AoB:Bk (Bu Tryz.prog 15) ((AD Ad OR).ask (.fn 15)):=
 Dg (Zo ⟨(G2 _),(G2 _),(G2 _),(G2 _),(G2 _),(G2 _),(G2 _),(G2 _),(G2 _),(G2 _),(G2 _),(G2 _),(G2 _),(G2 _),(G2 _),trivial⟩) _
end
section
open Go.RowKit
noncomputable def mf6:MFn:=AY [⟨123,(mB 7516192803),[],[],[(0,((mB 16),([],[]))),(1,((mB 35),([],[])))]⟩,⟨123,(mB 1083197534374707740536743971),[],[],[(0,((mB 16),([],[]))),(3,((mB 10273),([],[])))]⟩] 6
def hn6:Hnt:=⟨[(15,(.bool,[])),(16,(.bool,[])),(17,(.tup [.agg Bx,.int .i64],[])),(25,(.int .i64,[])),(29,(.bool,[])),(30,(.bool,[])),(32,(.bool,[])),(33,(.tup [.ls,.bool],[]))],[(0,[(0,([.bool],[])),(1,([.ls,.ls,.bool],[]))]),(1,[(0,([.bool],[])),(3,(Bx,[]))])],[(34,Bx),(35,Bx),(37,Bx),(41,Bx),(51,Bx),(92,Bx),(93,Bx),(96,Bx),(106,Bx),(107,Bx),(108,Bx)]⟩
noncomputable def Wp:List (Nat × MFn):=[(6,mf6)]
variable (A:Ar) (D:Orc)
theorem e6(x0 x1:Rw):Cm A D Av hn6 .n 6 mf6 [Ψ x0,Ψ x1] [] =
 Af D (ψ 15) [] [] [.b,.E] λb=>
 br b
 (Af D (ψ 32) [] [] [.b,.E] λb1=>
 br b1
 (Af D (ψ 16) [Ψ x0,iv 12,iv 12] [] [.b,.E] λb2=>
 br b2
 (Af D (ψ 29) [Ψ x1,iv 20,iv 12] [] [.b,.E] λb3=>
 br b3
 (Af D (ApW 6 0) [Ψ x0,Ψ x1,bv Δ,Ψ x0,iv ↑(AS x0),iv 0] [] [.t,.C,.x,.X,.Y] λc l o4=>
 br (Bp 0 c)
 (dk [.B,.N,.E] [.l l,.o o4] λb4=>
 Θ ((bv b4,[])))
 (br (Bp 1 c)
 (dk [.L,.L,.B,.N,.E] [.l l,.o o4] λxs xs1 b4=>
 Af D (ψ 33) [Ψ xs] [] [.t,.L,.B,.N,.E] λxs2 b5=>
 br (A.not b5)
 (br (A.not b4)
 (br (A.eq (↑(AS xs2)) 0)
 (Θ ((bv Δ,[])))
 (Θ ((bv Φ,[]))))
 (Θ ((bv Φ,[]))))
 (Af D (ApW 6 1) [Ψ xs,Ψ xs1,bv b4,Ψ xs2,bv Δ,Ψ xs2,iv ↑(AS xs2),iv 0] [] [.t,.C,.x,.X,.Y] λc1 l6 o6=>
 br (Bp 0 c1)
 (dk [.B,.N,.E] [.l l6,.o o6] λb6=>
 Θ ((bv b6,[])))
 (br (Bp 3 c1)
 (dk [.L,.B,.L,.B,.N,.E] [.l l6,.o o6] λxs3 b6 xs4 b7=>
 br (A.beq b7 b6)
 (br (A.le ↑(AS xs4) ↑(AS xs3))
 (Θ ((bv Δ,[])))
 (Θ ((bv Φ,[]))))
 (Θ ((bv Φ,[]))))
 (Ξ))))
 (Ξ)))
 (Θ ((bv Δ,[]))))
 (Θ ((bv Δ,[]))))
 (Θ ((bv Φ,[]))))
 (Θ ((bv Φ,[]))):=by kernel_rfl
theorem Al2(t0 t1:Rw)(t5:Bool)(t30:Rw)(t31 t32:Int):D2 A D Av hn6 (.b (.b (.b (.b (.t (.b (.b (.b (.b (.b (.b (.b (.b (.b .n (.b (.b .n (.b (.b (.f (.b (.b .n (.b .n (.b (.b .n (.b .n (.b .n (.b .n (.b (.b (.f .n) .n) .n))))) .n))) .n)) .n) .n)) .n)) .n) .n) (.b (.b (.b .n (.b (.b .n (.b (.b (.f (.b (.b .n (.b .n (.b (.b .n (.b .n (.b .n (.b .n (.b (.b (.f .n) .n) .n))))) .n))) .n)) .n) .n)) .n)) .n) .n)) .n) .n) .n) (.b .n (.b .n (.b .n (.b .n (.b .n (.b .n (.b .n (.b (.b (.b (.b (.b (.b (.b .n (.b (.b (.b .n (.b .n (.b .n (.b (.b (.f .n) .n) .n)))) .n) .n)) .n) .n) .n) .n) .n) .n))))))))) .n)) (.f (.b .n (.b (.b (.b (.b (.b (.b (.b (.b .n (.b (.b .n (.b (.b (.f (.b (.b .n (.b .n (.b (.b .n (.b .n (.b .n (.b .n (.b (.b (.f .n) .n) .n))))) .n))) .n)) .n) .n)) .n)) .n) .n) (.b (.b (.b .n (.b (.b .n (.b (.b (.f (.b (.b .n (.b .n (.b (.b .n (.b .n (.b .n (.b .n (.b (.b (.f .n) .n) .n))))) .n))) .n)) .n) .n)) .n)) .n) .n)) .n) .n) .n) (.b .n (.b .n (.b .n (.b .n (.b .n (.b .n (.b .n (.b (.b (.b (.b (.b (.b (.b .n (.b (.b (.b .n (.b .n (.b .n (.b (.b (.f .n) .n) .n)))) .n) .n)) .n) .n) .n) .n) .n) .n)))))))))))) (.b (.t (.b .n (.b (.b (.b (.b (.b (.b (.b (.b .n (.b (.b .n (.b (.b (.f (.b (.b .n (.b .n (.b (.b .n (.b .n (.b .n (.b .n (.b (.b (.f .n) .n) .n))))) .n))) .n)) .n) .n)) .n)) .n) .n) (.b (.b (.b .n (.b (.b .n (.b (.b (.f (.b (.b .n (.b .n (.b (.b .n (.b .n (.b .n (.b .n (.b (.b (.f .n) .n) .n))))) .n))) .n)) .n) .n)) .n)) .n) .n)) .n) .n) .n) .n))) (.f (.b .n (.b (.b (.b (.b (.b (.b (.b (.b .n (.b (.b .n (.b (.b (.f (.b (.b .n (.b .n (.b (.b .n (.b .n (.b .n (.b .n (.b (.b (.f .n) .n) .n))))) .n))) .n)) .n) .n)) .n)) .n) .n) (.b (.b (.b .n (.b (.b .n (.b (.b (.f (.b (.b .n (.b .n (.b (.b .n (.b .n (.b .n (.b .n (.b (.b (.f .n) .n) .n))))) .n))) .n)) .n) .n)) .n)) .n) .n)) .n) .n) .n) .n))))) .n) .n) 6 0 (AW mf6 0).fst (AW mf6 0).snd [Ψ t0,Ψ t1,bv t5,Ψ t30,iv t31,iv t32] [] =
 br (A.lt t32 t31)
 (unI t32 λi=>
 BG t30 i λcs=>
 dk [.L,.B,.L,.B,.N] [.l cs] λxs b xs1 b1=>
 Af D (ψ 17) [ω [Ψ xs,bv b,Ψ xs1,bv b1]] [] [.t,.A,.L,.B,.L,.B,.N,.I,.N,.E] λxs2 b2 xs3 b3 n=>
 Af D (ψ 30) [ω [Ψ xs,bv b,Ψ xs1,bv b1],Ψ t1] [] [.b,.E] λb4=>
 br b4
 (br t5
 (br t5 (br (A.eq n 0)
 (Af D (ψ 30) [ω [Ψ xs2,bv b2,Ψ xs3,bv b3],Ψ t1] [] [.b,.E] λb5=>
 br b5
 (br (A.not (A.beq Δ Δ))
 (Θ ((ε [bv Δ,bv Φ],[])))
 (br (A.eq n 1) Ξ (br (A.eq n (-1)) Ξ (AK D (ApW 6 0) [Ψ t0,Ψ t1,bv Δ,Ψ t30,iv t31,iv (A.add δ t32 1)] [] λr3 o3=>
 AF 0 [] (AH.mk [(1,bk [Ψ xs2,bv b2,Ψ xs3,bv b3]),(0,bk [Ψ xs,bv b,Ψ xs1,bv b1])] 2 Ξ) [] r3 o3))))
 (br (A.not (A.beq Φ Δ))
 (Θ ((ε [bv Δ,bv Φ],[])))
 (br (A.eq n 1) Ξ (br (A.eq n (-1)) Ξ (AK D (ApW 6 0) [Ψ t0,Ψ t1,bv Δ,Ψ t30,iv t31,iv (A.add δ t32 1)] [] λr3 o3=>
 AF 0 [] (AH.mk [(1,bk [Ψ xs2,bv b2,Ψ xs3,bv b3]),(0,bk [Ψ xs,bv b,Ψ xs1,bv b1])] 2 Ξ) [] r3 o3)))))
 (br (A.eq n 1)
 (br (A.eq n (-1)) Ξ (AK D (ApW 6 0) [Ψ t0,Ψ t1,bv Δ,Ψ t30,iv t31,iv (A.add δ t32 1)] [] λr2 o2=>
 AF 0 [] (AH.mk [(1,bk [Ψ xs2,bv b2,Ψ xs3,bv b3]),(0,bk [Ψ xs,bv b,Ψ xs1,bv b1])] 2 Ξ) [] r2 o2))
 (br (A.eq n (-1))
 (Θ ((ε [bv Δ,bv Φ],[])))
 (AK D (ApW 6 0) [Ψ t0,Ψ t1,bv Δ,Ψ t30,iv t31,iv (A.add δ t32 1)] [] λr2 o2=>
 AF 0 [] (AH.mk [(1,bk [Ψ xs2,bv b2,Ψ xs3,bv b3]),(0,bk [Ψ xs,bv b,Ψ xs1,bv b1])] 2 Ξ) [] r2 o2)))) Ξ)
 (br t5 Ξ (br (A.eq n 0)
 (Af D (ψ 30) [ω [Ψ xs2,bv b2,Ψ xs3,bv b3],Ψ t1] [] [.b,.E] λb5=>
 br b5
 (br (A.not (A.beq Δ Δ))
 (Θ ((ε [bv Δ,bv Φ],[])))
 (br (A.eq n 1) Ξ (br (A.eq n (-1)) Ξ (AK D (ApW 6 0) [Ψ t0,Ψ t1,bv Φ,Ψ t30,iv t31,iv (A.add δ t32 1)] [] λr3 o3=>
 AF 0 [] (AH.mk [(1,bk [Ψ xs2,bv b2,Ψ xs3,bv b3]),(0,bk [Ψ xs,bv b,Ψ xs1,bv b1])] 2 Ξ) [] r3 o3))))
 (br (A.not (A.beq Φ Δ))
 (Θ ((ε [bv Δ,bv Φ],[])))
 (br (A.eq n 1) Ξ (br (A.eq n (-1)) Ξ (AK D (ApW 6 0) [Ψ t0,Ψ t1,bv Φ,Ψ t30,iv t31,iv (A.add δ t32 1)] [] λr3 o3=>
 AF 0 [] (AH.mk [(1,bk [Ψ xs2,bv b2,Ψ xs3,bv b3]),(0,bk [Ψ xs,bv b,Ψ xs1,bv b1])] 2 Ξ) [] r3 o3)))))
 (br (A.eq n 1)
 (br (A.eq n (-1)) Ξ (AK D (ApW 6 0) [Ψ t0,Ψ t1,bv Φ,Ψ t30,iv t31,iv (A.add δ t32 1)] [] λr2 o2=>
 AF 0 [] (AH.mk [(1,bk [Ψ xs2,bv b2,Ψ xs3,bv b3]),(0,bk [Ψ xs,bv b,Ψ xs1,bv b1])] 2 Ξ) [] r2 o2))
 (br (A.eq n (-1))
 (Θ ((ε [bv Δ,bv Φ],[])))
 (AK D (ApW 6 0) [Ψ t0,Ψ t1,bv Φ,Ψ t30,iv t31,iv (A.add δ t32 1)] [] λr2 o2=>
 AF 0 [] (AH.mk [(1,bk [Ψ xs2,bv b2,Ψ xs3,bv b3]),(0,bk [Ψ xs,bv b,Ψ xs1,bv b1])] 2 Ξ) [] r2 o2))))))
 (br t5
 (br t5 (br (A.eq n 0)
 (Af D (ψ 30) [ω [Ψ xs2,bv b2,Ψ xs3,bv b3],Ψ t1] [] [.b,.E] λb5=>
 br b5
 (br (A.not (A.beq Δ Φ))
 (Θ ((ε [bv Δ,bv Φ],[])))
 (br (A.eq n 1) Ξ (br (A.eq n (-1)) Ξ (AK D (ApW 6 0) [Ψ t0,Ψ t1,bv Φ,Ψ t30,iv t31,iv (A.add δ t32 1)] [] λr3 o3=>
 AF 0 [] (AH.mk [(1,bk [Ψ xs2,bv b2,Ψ xs3,bv b3]),(0,bk [Ψ xs,bv b,Ψ xs1,bv b1])] 2 Ξ) [] r3 o3))))
 (br (A.not (A.beq Φ Φ))
 (Θ ((ε [bv Δ,bv Φ],[])))
 (br (A.eq n 1) Ξ (br (A.eq n (-1)) Ξ (AK D (ApW 6 0) [Ψ t0,Ψ t1,bv Φ,Ψ t30,iv t31,iv (A.add δ t32 1)] [] λr3 o3=>
 AF 0 [] (AH.mk [(1,bk [Ψ xs2,bv b2,Ψ xs3,bv b3]),(0,bk [Ψ xs,bv b,Ψ xs1,bv b1])] 2 Ξ) [] r3 o3)))))
 (br (A.eq n 1)
 (Θ ((ε [bv Δ,bv Φ],[])))
 (br (A.eq n (-1))
 (AK D (ApW 6 0) [Ψ t0,Ψ t1,bv Φ,Ψ t30,iv t31,iv (A.add δ t32 1)] [] λr2 o2=>
 AF 0 [] (AH.mk [(1,bk [Ψ xs2,bv b2,Ψ xs3,bv b3]),(0,bk [Ψ xs,bv b,Ψ xs1,bv b1])] 2 Ξ) [] r2 o2)
 (AK D (ApW 6 0) [Ψ t0,Ψ t1,bv Φ,Ψ t30,iv t31,iv (A.add δ t32 1)] [] λr2 o2=>
 AF 0 [] (AH.mk [(1,bk [Ψ xs2,bv b2,Ψ xs3,bv b3]),(0,bk [Ψ xs,bv b,Ψ xs1,bv b1])] 2 Ξ) [] r2 o2)))) Ξ)
 (br t5 Ξ (br (A.eq n 0)
 (Af D (ψ 30) [ω [Ψ xs2,bv b2,Ψ xs3,bv b3],Ψ t1] [] [.b,.E] λb5=>
 br b5
 (br (A.not (A.beq Δ Φ))
 (Θ ((ε [bv Δ,bv Φ],[])))
 (br (A.eq n 1) Ξ (br (A.eq n (-1)) Ξ (AK D (ApW 6 0) [Ψ t0,Ψ t1,bv Φ,Ψ t30,iv t31,iv (A.add δ t32 1)] [] λr3 o3=>
 AF 0 [] (AH.mk [(1,bk [Ψ xs2,bv b2,Ψ xs3,bv b3]),(0,bk [Ψ xs,bv b,Ψ xs1,bv b1])] 2 Ξ) [] r3 o3))))
 (br (A.not (A.beq Φ Φ))
 (Θ ((ε [bv Δ,bv Φ],[])))
 (br (A.eq n 1) Ξ (br (A.eq n (-1)) Ξ (AK D (ApW 6 0) [Ψ t0,Ψ t1,bv Φ,Ψ t30,iv t31,iv (A.add δ t32 1)] [] λr3 o3=>
 AF 0 [] (AH.mk [(1,bk [Ψ xs2,bv b2,Ψ xs3,bv b3]),(0,bk [Ψ xs,bv b,Ψ xs1,bv b1])] 2 Ξ) [] r3 o3)))))
 (br (A.eq n 1)
 (Θ ((ε [bv Δ,bv Φ],[])))
 (br (A.eq n (-1))
 (AK D (ApW 6 0) [Ψ t0,Ψ t1,bv Φ,Ψ t30,iv t31,iv (A.add δ t32 1)] [] λr2 o2=>
 AF 0 [] (AH.mk [(1,bk [Ψ xs2,bv b2,Ψ xs3,bv b3]),(0,bk [Ψ xs,bv b,Ψ xs1,bv b1])] 2 Ξ) [] r2 o2)
 (AK D (ApW 6 0) [Ψ t0,Ψ t1,bv Φ,Ψ t30,iv t31,iv (A.add δ t32 1)] [] λr2 o2=>
 AF 0 [] (AH.mk [(1,bk [Ψ xs2,bv b2,Ψ xs3,bv b3]),(0,bk [Ψ xs,bv b,Ψ xs1,bv b1])] 2 Ξ) [] r2 o2)))))))
 (Θ ((ε [iv 0,Ψ t0,Ψ t1,bv t5],[]))):=by kernel_rfl
theorem Al3(t0 t1:Rw)(t5:Bool)(t11:Rw)(t13:Bool)(t87:Rw)(t88 t89:Int):D2 A D Av hn6 (.b (.b (.b (.t (.t (.b (.t .n) (.t .n)))) (.f (.f (.f .n)))) .n) .n) 6 1 (AW mf6 1).fst (AW mf6 1).snd [Ψ t0,Ψ t1,bv t5,Ψ t11,bv t13,Ψ t87,iv t88,iv t89] [] =
 br (A.lt t89 t88)
 (unI t89 λi=>
 BG t87 i λcs=>
 dk [.L,.B,.L,.B,.N] [.l cs] λxs b xs1 b1=>
 br t13
 (br t13 (br t13 (AK D (ψ 30) [ω [Ψ xs,bv b,Ψ xs1,bv b1],Ψ t1] [] λr o=>
 JE r λb2=>
 Fl o<|
 br b2
 (br t13 (br (A.lt 0 t89)
 (unI (A.sub δ t89 1) λi1=>
 BG t11 i1 λcs1=>
 dk [.L,.B,.L,.B,.N] [.l cs1] λxs2 b3 xs3 b4=>
 Af D (ψ 25) [ω [Ψ xs2,bv b3,Ψ xs3,bv b4],ω [Ψ xs,bv b,Ψ xs1,bv b1]] [] [.i,.E] λn=>
 br (A.eq n (-1))
 (AK D (ApW 6 1) [Ψ t0,Ψ t1,bv t5,Ψ t11,bv Δ,Ψ t87,iv t88,iv (A.add δ t89 1)] [] λr2 o2=>
 AF 0 [] (AH.mk [(0,bk [Ψ xs,bv b,Ψ xs1,bv b1])] 1 Ξ) [] r2 o2)
 (Θ ((ε [bv Δ,bv Φ],[]))))
 (AK D (ApW 6 1) [Ψ t0,Ψ t1,bv t5,Ψ t11,bv Δ,Ψ t87,iv t88,iv (A.add δ t89 1)] [] λr1 o1=>
 AF 0 [] (AH.mk [(0,bk [Ψ xs,bv b,Ψ xs1,bv b1])] 1 Ξ) [] r1 o1)) Ξ)
 (br t13 (br (A.lt 0 t89)
 (unI (A.sub δ t89 1) λi1=>
 BG t11 i1 λcs1=>
 dk [.L,.B,.L,.B,.N] [.l cs1] λxs2 b3 xs3 b4=>
 Af D (ψ 25) [ω [Ψ xs2,bv b3,Ψ xs3,bv b4],ω [Ψ xs,bv b,Ψ xs1,bv b1]] [] [.i,.E] λn=>
 br (A.eq n (-1))
 (AK D (ApW 6 1) [Ψ t0,Ψ t1,bv t5,Ψ t11,bv Φ,Ψ t87,iv t88,iv (A.add δ t89 1)] [] λr2 o2=>
 AF 0 [] (AH.mk [(0,bk [Ψ xs,bv b,Ψ xs1,bv b1])] 1 Ξ) [] r2 o2)
 (Θ ((ε [bv Δ,bv Φ],[]))))
 (AK D (ApW 6 1) [Ψ t0,Ψ t1,bv t5,Ψ t11,bv Φ,Ψ t87,iv t88,iv (A.add δ t89 1)] [] λr1 o1=>
 AF 0 [] (AH.mk [(0,bk [Ψ xs,bv b,Ψ xs1,bv b1])] 1 Ξ) [] r1 o1)) Ξ)) Ξ) Ξ)
 (br t13 Ξ (br t13 Ξ (br t13 Ξ (br (A.lt 0 t89)
 (unI (A.sub δ t89 1) λi1=>
 BG t11 i1 λcs1=>
 dk [.L,.B,.L,.B,.N] [.l cs1] λxs2 b2 xs3 b3=>
 Af D (ψ 25) [ω [Ψ xs2,bv b2,Ψ xs3,bv b3],ω [Ψ xs,bv b,Ψ xs1,bv b1]] [] [.i,.E] λn=>
 br (A.eq n (-1))
 (AK D (ApW 6 1) [Ψ t0,Ψ t1,bv t5,Ψ t11,bv Φ,Ψ t87,iv t88,iv (A.add δ t89 1)] [] λr1 o1=>
 AF 0 [] (AH.mk [(0,bk [Ψ xs,bv b,Ψ xs1,bv b1])] 1 Ξ) [] r1 o1)
 (Θ ((ε [bv Δ,bv Φ],[]))))
 (AK D (ApW 6 1) [Ψ t0,Ψ t1,bv t5,Ψ t11,bv Φ,Ψ t87,iv t88,iv (A.add δ t89 1)] [] λr o=>
 AF 0 [] (AH.mk [(0,bk [Ψ xs,bv b,Ψ xs1,bv b1])] 1 Ξ) [] r o))))))
 (Θ ((ε [iv 2,Ψ t0,bv t5,Ψ t11,bv t13],[]))):=by kernel_rfl
