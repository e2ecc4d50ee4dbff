/- Layer 4's saying answers -/
import Derived.Test.YtpncilciembjdaaGreatDoorBBP
set_option linter.all false
namespace Go.Proofs.YtpncilciembjdaaGreatDoor
noncomputable section
open AV renaming agg->Ω,fn->Apq,ls->Δ,ptr->ε,tup->ν
open BO renaming set->ο
open IntKind renaming i64->Φ
open Key renaming fn->θ,lp->γ
section
open Go.RowKit
abbrev u32(n:Int):List AV:=[.v (.int .u32 n)]
set_option maxRecDepth 1000000
theorem s1:Ch 55 [iv (-6),.ls [[iv 4]]] []=some (.agg [.ls [[iv 0,bv false,.ls [u32 4]]],bv true,.ls [u32 6]],[]):=by kernel_rfl
theorem s2:Ch 28 [.agg [.ls [[iv 0,bv false,.ls [u32 4]]],bv true,.ls [u32 6]]] []=some (.agg [.ls [[iv 0,bv false,.ls [u32 4]]],bv true,.ls [u32 6],bv false],[]):=by kernel_rfl
theorem s3:Ch 17 [.agg [.ls [[iv 0,bv false,.ls [u32 4]]],bv true,.ls [u32 6],bv false]] []=some (.tup [.agg [.ls [[iv 0,bv false,.ls [u32 1]]],bv true,.ls [u32 2],bv false],iv 0],[]):=by kernel_rfl
theorem s4:Ch 27 [.agg [.ls [[iv 0,bv false,.ls [u32 4]]],bv true,.ls [u32 6]]] []=some (.agg [.ls [[iv 0,bv false,.ls [u32 4]]],bv true,.ls [u32 6],bv true],[]):=by kernel_rfl
theorem s5:Ch 17 [.agg [.ls [[iv 0,bv false,.ls [u32 4]]],bv true,.ls [u32 6],bv true]] []=some (.tup [.agg [.ls [],bv false,.ls [],bv false],iv (-1)],[]):=by kernel_rfl
theorem s6:Ch 55 [iv 3,.ls []] []=some (.agg [.ls [],bv false,.ls [u32 3]],[]):=by kernel_rfl
theorem s7:Ch 28 [.agg [.ls [],bv false,.ls [u32 3]]] []=some (.agg [.ls [],bv false,.ls [u32 3],bv false],[]):=by kernel_rfl
theorem s8:Ch 17 [.agg [.ls [],bv false,.ls [u32 3],bv false]] []=some (.tup [.agg [.ls [],bv false,.ls [],bv false],iv 1],[]):=by kernel_rfl
theorem s9:Ch 55 [iv (-2),.ls [[iv 1]]] []=some (.agg [.ls [[iv 0,bv false,.ls [u32 1]]],bv true,.ls [u32 2]],[]):=by kernel_rfl
theorem s10:Ch 21 [.agg [.ls [[iv 0,bv false,.ls [u32 1]]],bv true,.ls [u32 2],bv false],.agg [.ls [[iv 0,bv false,.ls [u32 1]]],bv true,.ls [u32 2],bv false]] []=some (bv true,[]):=by kernel_rfl
theorem s11:Ch 56 [iv 2] []=some (.agg [bv false,.ls [u32 2]],[]):=by kernel_rfl
theorem s12:Ch 30 [.agg [.ls [[iv 0,bv false,.ls [u32 1]]],bv true,.ls [u32 2],bv false],.ls [[bv false,.ls [u32 2]]]] []=some (bv true,[]):=by kernel_rfl
theorem s13:Ch 30 [.agg [.ls [[iv 0,bv false,.ls [u32 1]]],bv true,.ls [u32 2],bv false],.ls []] []=some (bv false,[]):=by kernel_rfl
theorem s14:Ch 26 [.agg [.ls [[iv 0,bv false,.ls [u32 1]]],bv true,.ls [u32 2],bv false],.agg [.ls [[iv 0,bv false,.ls [u32 1]]],bv true,.ls [u32 2],bv false]] []=some (bv true,[]):=by kernel_rfl
theorem s15:Ch 55 [iv 1,.ls []] []=some (.agg [.ls [],bv false,.ls [u32 1]],[]):=by kernel_rfl
theorem s16:Ch 28 [.agg [.ls [],bv false,.ls [u32 1]]] []=some (.agg [.ls [],bv false,.ls [u32 1],bv false],[]):=by kernel_rfl
theorem s17:Ch 55 [iv 2,.ls []] []=some (.agg [.ls [],bv false,.ls [u32 2]],[]):=by kernel_rfl
theorem s18:Ch 28 [.agg [.ls [],bv false,.ls [u32 2]]] []=some (.agg [.ls [],bv false,.ls [u32 2],bv false],[]):=by kernel_rfl
theorem s19:Ch 25 [.agg [.ls [],bv false,.ls [u32 1],bv false],.agg [.ls [],bv false,.ls [u32 2],bv false]] []=some (iv (-1),[]):=by kernel_rfl
theorem s20:Ch 57 [.agg [.ls [[iv 0,bv false,.ls [u32 1]]],bv true,.ls [u32 2],bv false],.ls [[sv (CV [120])]]] []=some (sv (CV [120,32,45,32,50,32,62,61,32,48]),[]):=by kernel_rfl
theorem s21:Ch 55 [iv 0,.ls [[iv 1]]] []=some (.agg [.ls [[iv 0,bv false,.ls [u32 1]]],bv false,.ls []],[]):=by kernel_rfl
theorem s22:Ch 27 [.agg [.ls [[iv 0,bv false,.ls [u32 1]]],bv false,.ls []]] []=some (.agg [.ls [[iv 0,bv false,.ls [u32 1]]],bv false,.ls [],bv true],[]):=by kernel_rfl
theorem s23:Ch 23 [.agg [.ls [[iv 0,bv false,.ls [u32 1]]],bv false,.ls [],bv true]] []=some (.ls [[.ls [[iv 0,bv false,.ls [u32 1]]],bv true,.ls [u32 1],bv false],[.ls [[iv 0,bv true,.ls [u32 1]]],bv true,.ls [u32 1],bv false]],[]):=by kernel_rfl
theorem s24:Ch 55 [iv 5,.ls []] []=some (.agg [.ls [],bv false,.ls [u32 5]],[]):=by kernel_rfl
theorem s25:Ch 58 [.agg [.ls [[iv 0,bv false,.ls [u32 1]]],bv true,.ls [u32 2],bv false],iv 0,.agg [.ls [],bv false,.ls [u32 5]]] []=some (.agg [.ls [],bv false,.ls [u32 3],bv false],[]):=by kernel_rfl
theorem s26:Ch 21 [.agg [.ls [],bv false,.ls [u32 3],bv false],.agg [.ls [],bv false,.ls [u32 3],bv false]] []=some (bv true,[]):=by kernel_rfl
theorem s27:Ch 59 [.agg [.ls [[iv 0,bv false,.ls [u32 1]]],bv true,.ls [u32 2],bv false],.ls [[iv 0]],.ls [[.ls [],bv false,.ls [u32 5]]]] []=some (.agg [.ls [],bv false,.ls [u32 3],bv false],[]):=by kernel_rfl
theorem s28:Ch 61 [.agg [.ls [[iv 0,bv false,.ls [u32 1]]],bv true,.ls [u32 2],bv false],iv 2] []=some (.agg [.ls [[iv 2,bv false,.ls [u32 1]]],bv true,.ls [u32 2],bv false],[]):=by kernel_rfl
theorem s29:Ch 60 [.agg [.ls [[iv 2,bv false,.ls [u32 1]]],bv true,.ls [u32 2],bv false]] []=some (.ls [[iv 2]],[]):=by kernel_rfl
theorem Ai4:P7.ask (.fn 15) [] []=some (bv true,[]):=by
 refine Ak4.fn' AjU _ rfl ((e15 ..).trans ?_);refine Aa (GZ s1) ?_;simp only[ND,DK,Ab];refine Aa (Je s2) ?_;simp only[ND,DK,Ab];refine Aa (Nm s3) ?_;simp only[ND,DK,Ab];refine Aa (GZ s1) ?_;simp only[ND,DK,Ab];refine Aa (UL s4) ?_;simp only[ND,DK,Ab];refine Aa (Nm s5) ?_;simp only[ND,DK,Ab];refine Aa (GZ s6) ?_;simp only[ND,DK,Ab];refine Aa (Je s7) ?_;simp only[ND,DK,Ab];refine Aa (Nm s8) ?_;simp only[ND,DK,Ab];refine Aa (GZ s9) ?_;simp only[ND,DK,Ab];refine Aa (Nl s10) ?_;simp only[ND,DK,Ab];refine Bi rfl ?_;refine Bi rfl ?_;refine Bi rfl ?_;refine Aa (Ajh s11) ?_;simp only[ND,DK,Ab];refine Aa (R0 s12) ?_;simp only[ND,DK,Ab];refine Aa (R0 s13) ?_;simp only[ND,DK,Ab];refine Aa (Afa s14) ?_;simp only[ND,DK,Ab];refine Aa (GZ s15) ?_;simp only[ND,DK,Ab];refine Aa (Je s16) ?_;simp only[ND,DK,Ab];refine Aa (GZ s17) ?_;simp only[ND,DK,Ab];refine Aa (Je s18) ?_;simp only[ND,DK,Ab];refine Aa (Ajf s19) ?_;simp only[ND,DK,Ab];refine Bi rfl ?_;refine Aa (Afb s20) ?_;simp only[ND,DK,Ab];refine AeF rfl ?_;refine Aa (GZ s21) ?_;simp only[ND,DK,Ab];refine Aa (UL s22) ?_;simp only[ND,DK,Ab];refine Aa (Ae6 s23) ?_;simp only[ND,DK,Ab];refine Bi rfl ?_;refine Aa (GZ s24) ?_;simp only[ND,DK,Ab];refine Aa (Ajg s25) ?_;simp only[ND,DK,Ab];refine Aa (GZ s6) ?_;simp only[ND,DK,Ab];refine Aa (Nl s26) ?_;simp only[ND,DK,Ab];refine Aa (GZ s24) ?_;simp only[ND,DK,Ab];refine Aa (Wu s27) ?_;simp only[ND,DK,Ab];refine Aa (GZ s6) ?_;simp only[ND,DK,Ab];refine Aa (Nl s26) ?_;simp only[ND,DK,Ab];refine Aa (Ae7 s28) ?_;simp only[ND,DK,Ab];refine Aa (Afc s29) ?_;simp only[ND,DK,Ab];refine Bi rfl ?_;rfl
theorem Ano:AW (Ba Tryz.prog 15) ((AC Ag Io).ask (.fn 15)):=
 Fz (V5 (Ib _) (Ib _) (Ib _) (Ib _) (Ib _) (Ib _) (Ib _) (Ib _) (Ib _) (Ib _) (Ib _) (Ib _) (Ib _) (Ib _) (Ib _)) _
end
section
open Go.RowKit
def AnG:AB:=[⟨18,[false,false,false,true,false,false,true,true,true],[],[],[(0,([false,false,true],([],[]))),(1,([false,false,false,true],([],[])))]⟩]
def Acn:MFn:=AS AnG 82
def Vo:Hnt:=⟨[],[(0,[(0,([.int .i64],[])),(1,([.int .i64],[]))])],[(10,[.int .i64]),(11,[.int .i64])]⟩
def AgJ:MFn:=AS [] 154
def AfZ:Hnt:=⟨[(82,(.int .i64,[])),(84,(.int .i64,[])),(155,(.int .i64,[]))],[],[(6,[.int .i64]),(8,[.int .i64]),(11,[.bool,.ls]),(13,[.bool,.ls])]⟩
def Akq:AB:=[⟨39,[true,true,true,false,false,false,false,false,false,false,false,true,true,true],[],[],[(0,([false,false,false,false,false,false,true],([],[]))),(1,([true,true],([],[])))]⟩]
def T7:MFn:=AS Akq 156
def QF:Hnt:=⟨[(154,(.int .i64,[]))],[(0,[(0,([.int .i64],[])),(1,([.ls,.ls],[]))])],[(16,[.int .i64,.bool,.ls]),(17,[.int .i64,.bool,.ls]),(24,[.int .i64,.bool,.ls]),(25,[.int .i64,.bool,.ls]),(27,[.int .i64,.bool,.ls]),(28,[.int .i64,.bool,.ls])]⟩
def AlB:MFn:=AS [] 83
def Akg:Hnt:=⟨[(62,(.agg [.ls,.bool,.ls],[])),(82,(.int .i64,[])),(155,(.int .i64,[])),(156,(.int .i64,[]))],[],[(6,[.ls,.bool,.ls]),(8,[.ls,.bool,.ls]),(11,[.ls]),(13,[.ls]),(17,[.bool,.ls]),(19,[.bool,.ls])]⟩
def AlD:MFn:=AS [] 85
def Aki:Hnt:=⟨[],[],[(4,[.bool])]⟩
def All:MFn:=AS [] 25
def Aj0:Hnt:=⟨[(82,(.int .i64,[])),(83,(.int .i64,[])),(84,(.int .i64,[])),(85,(.int .i64,[]))],[],[(6,[.ls,.bool,.ls]),(8,[.ls,.bool,.ls]),(10,[.ls,.bool,.ls,.bool]),(12,[.ls,.bool,.ls,.bool])]⟩
def Alm:MFn:=AS [] 26
def Aj1:Hnt:=⟨[(25,(.int .i64,[]))],[],[(5,[.ls,.bool,.ls,.bool]),(6,[.ls,.bool,.ls,.bool])]⟩
def Akj:AB:=[⟨32,[false,true,true,false,false,false,false,false,false,false,false,false,false,false,false,true,true,true],[],[],[(0,([false,false,false,false,false,false,true],([],[]))),(1,([],([],[])))]⟩]
def Ala:MFn:=AS Akj 108
def AnP:MFn:=AS [] 41
def RC:List (Nat × MFn):=[(82,Acn),(154,AgJ),(156,T7),(83,AlB),(85,AlD),(25,All),(26,Alm),(108,Ala),(41,AnP)]
variable (A:Ar) (D:Orc)
theorem e82(x0:Rw):BP A D As Vo .n 82 Acn [Δ x0] [] =
 Af D (γ 82 0) [iv 0,Δ x0,iv ↑(AF x0),iv 0] [] [.t,.C,.x,.X,.Y] λc l o=>
 br (Bo 0 c)
 (dk [.I,.N,.E] [.l l,.o o] λn=>
 some ((iv n,[])))
 (br (Bo 1 c)
 (dk [.I,.N,.E] [.l l,.o o] λn=>
 some ((iv n,[])))
 (none)):=by kernel_rfl
theorem XC(t3:Int)(t6:Rw)(t7 t8:Int):CO A D As Vo .n 82 0 (AN Acn 0).fst (AN Acn 0).snd [iv t3,Δ t6,iv t7,iv t8] [] =
 br (A.lt t8 t7)
 (unI t8 λi=>
 Bl t6 i λcs=>
 dk [.I,.N] [.l cs] λn=>
 br (A.eq n t3)
 (AI D (γ 82 0) [iv t3,Δ t6,iv t7,iv (A.add Φ t8 1)] [] λr o=>
 AE 0 [] (AH.mk [] 0 none) [] r o)
 (some ((ν [bv true,iv n],[]))))
 (some ((ν [iv 0,iv t3],[]))):=by kernel_rfl
theorem AmM(x0_0:Int)(x0_1:Bool)(x0_2:Rw)(x1_0:Int)(x1_1:Bool)(x1_2:Rw):BP A D As AfZ .n 154 AgJ [Ω [iv x0_0,bv x0_1,Δ x0_2],Ω [iv x1_0,bv x1_1,Δ x1_2]] [] =
 Af D (θ 84) [iv x0_0,iv x1_0] [] [.i,.E] λn=>
 Af D (θ 155) [Ω [bv x0_1,Δ x0_2],Ω [bv x1_1,Δ x1_2]] [] [.i,.E] λn1=>
 Af D (θ 82) [Δ [[iv n],[iv n1]]] [] [.i,.E] λn2=>
 some ((iv n2,[])):=by kernel_rfl
theorem AmO(x0 x1:Rw):BP A D As QF .n 156 T7 [Δ x0,Δ x1,Apq (Fn.func 154) [] []] [] =
 Af D (γ 156 0) [Δ x0,Δ x1,Apq (Fn.func 154) [] [],Δ x0,iv ↑(AF x0),iv 0] [] [.t,.C,.x,.X,.Y] λc l o=>
 br (Bo 0 c)
 (dk [.I,.N,.E] [.l l,.o o] λn=>
 some ((iv n,[])))
 (br (Bo 1 c)
 (dk [.L,.L,.N,.E] [.l l,.o o] λxs xs1=>
 br (A.lt ↑(AF xs) ↑(AF xs1))
 (some ((iv (-1),[])))
 (some ((iv 0,[]))))
 (none)):=by kernel_rfl
theorem Xe(t0 t1 t11:Rw)(t12 t13:Int):CO A D As QF .n 156 0 (AN T7 0).fst (AN T7 0).snd [Δ t0,Δ t1,Apq (Fn.func 154) [] [],Δ t11,iv t12,iv t13] [] =
 br (A.lt t13 t12)
 (unI t13 λi=>
 Bl t11 i λcs=>
 dk [.I,.B,.L,.N] [.l cs] λn b xs=>
 br (A.le (↑(AF t1)) t13)
 (some ((ν [bv true,iv 1],[])))
 (unI t13 λi1=>
 Bl t1 i1 λcs1=>
 dk [.I,.B,.L,.N] [.l cs1] λn1 b1 xs1=>
 Af D (θ 154) [Ω [iv n,bv b,Δ xs],Ω [iv n1,bv b1,Δ xs1]] [] [.i,.E] λn2=>
 br (A.eq n2 0)
 (AI D (γ 156 0) [Δ t0,Δ t1,Apq (Fn.func 154) [] [],Δ t11,iv t12,iv (A.add Φ t13 1)] [] λr1 o1=>
 AE 0 [] (AH.mk [(1,bk [iv n1,bv b1,Δ xs1]),(0,bk [iv n,bv b,Δ xs])] 2 none) [] r1 o1)
 (some ((ν [bv true,iv n2],[])))))
 (some ((ν [iv 0,Δ t0,Δ t1],[]))):=by kernel_rfl
theorem e83(x0_0:Rw)(x0_1:Bool)(x0_2 x1_0:Rw)(x1_1:Bool)(x1_2:Rw):BP A D As Akg .n 83 AlB [Ω [Δ x0_0,bv x0_1,Δ x0_2],Ω [Δ x1_0,bv x1_1,Δ x1_2]] [] =
 Af D (θ 62) [Ω [Δ x0_0,bv x0_1,Δ x0_2]] [] [.a,.L,.B,.L,.N,.E] λxs b xs1=>
 Af D (θ 62) [Ω [Δ x1_0,bv x1_1,Δ x1_2]] [] [.a,.L,.B,.L,.N,.E] λxs2 b1 xs3=>
 Af D (θ 156) [Δ xs,Δ xs2,Apq (Fn.func 154) [] []] [] [.i,.E] λn=>
 Af D (θ 155) [Ω [bv b,Δ xs1],Ω [bv b1,Δ xs3]] [] [.i,.E] λn1=>
 Af D (θ 82) [Δ [[iv n],[iv n1]]] [] [.i,.E] λn2=>
 some ((iv n2,[])):=by kernel_rfl
theorem e85(x0_0:Rw)(x0_1:Bool)(x0_2:Rw)(x0_3:Bool):BP A D As Aki .n 85 AlD [Ω [Δ x0_0,bv x0_1,Δ x0_2,bv x0_3]] [] =
 br x0_3
 (some ((iv 1,[])))
 (some ((iv 0,[]))):=by kernel_rfl
theorem e25(x0_0:Rw)(x0_1:Bool)(x0_2:Rw)(x0_3:Bool)(x1_0:Rw)(x1_1:Bool)(x1_2:Rw)(x1_3:Bool):BP A D As Aj0 .n 25 All [Ω [Δ x0_0,bv x0_1,Δ x0_2,bv x0_3],Ω [Δ x1_0,bv x1_1,Δ x1_2,bv x1_3]] [] =
 Af D (θ 83) [Ω [Δ x0_0,bv x0_1,Δ x0_2],Ω [Δ x1_0,bv x1_1,Δ x1_2]] [] [.i,.E] λn=>
 Af D (θ 85) [Ω [Δ x0_0,bv x0_1,Δ x0_2,bv x0_3]] [] [.i,.E] λn1=>
 Af D (θ 85) [Ω [Δ x1_0,bv x1_1,Δ x1_2,bv x1_3]] [] [.i,.E] λn2=>
 Af D (θ 84) [iv n1,iv n2] [] [.i,.E] λn3=>
 Af D (θ 82) [Δ [[iv n],[iv n3]]] [] [.i,.E] λn4=>
 some ((iv n4,[])):=by kernel_rfl
theorem e26(x0_0:Rw)(x0_1:Bool)(x0_2:Rw)(x0_3:Bool)(x1_0:Rw)(x1_1:Bool)(x1_2:Rw)(x1_3:Bool):BP A D As Aj1 .n 26 Alm [Ω [Δ x0_0,bv x0_1,Δ x0_2,bv x0_3],Ω [Δ x1_0,bv x1_1,Δ x1_2,bv x1_3]] [] =
 Af D (θ 25) [Ω [Δ x0_0,bv x0_1,Δ x0_2,bv x0_3],Ω [Δ x1_0,bv x1_1,Δ x1_2,bv x1_3]] [] [.i,.E] λn=>
 br (A.eq n 0)
 (some ((bv true,[])))
 (some ((bv false,[]))):=by kernel_rfl
end
section
open Go.RowKit
def Ali:MFn:=AS [] 21
def AhN:Hnt:=⟨[(78,(.bool,[]))],[],[(6,[.bool]),(8,[.bool]),(12,[.ls,.bool,.ls]),(14,[.ls,.bool,.ls])]⟩
def Alb:MFn:=AS [] 109
def Ald:MFn:=AS [] 111
def Alc:MFn:=AS [] 110
def Anv:AB:=[⟨43,[false,false,true,true,true,true],[(6000003,6)],[2],[(2,([false,false,true,true],([],[])))]⟩]
def AnQ:MFn:=AS Anv 42
def Anu:AB:=[⟨52,[false,false,true,true,false,true],[],[2,3],[(0,([false,false,false,false,true],([],[2,3]))),(1,([],([],[2,3])))]⟩]
def AnO:MFn:=AS Anu 38
def Nb:List (Nat × MFn):=[(21,Ali),(109,Alb),(111,Ald),(110,Alc),(42,AnQ),(38,AnO)]
variable (A:Ar) (D:Orc)
theorem e21(x0_0:Rw)(x0_1:Bool)(x0_2:Rw)(x0_3:Bool)(x1_0:Rw)(x1_1:Bool)(x1_2:Rw)(x1_3:Bool):BP A D As AhN .n 21 Ali [Ω [Δ x0_0,bv x0_1,Δ x0_2,bv x0_3],Ω [Δ x1_0,bv x1_1,Δ x1_2,bv x1_3]] [] =
 br (A.beq x0_3 x1_3)
 (Af D (θ 78) [Ω [Δ x0_0,bv x0_1,Δ x0_2],Ω [Δ x1_0,bv x1_1,Δ x1_2]] [] [.b,.E] λb=>
 br b
 (some ((bv true,[])))
 (some ((bv false,[]))))
 (some ((bv false,[]))):=by kernel_rfl
end
section
open Go.RowKit
def AnC:AB:=[⟨76,[false,false,false,false,false,true,true,true],[],[5,6],[(0,([false,false,false,false,true],([],[5,6]))),(1,([false,false,false,false,false,true,true],([],[])))]⟩]
def Acj:MFn:=AS AnC 74
def Vn:Hnt:=⟨[(20,(.agg [.ls,.bool,.ls],[])),(53,(.int .i64,[]))],[(0,[(0,([.int .i64],[.del,.del])),(1,([.ptr 0 0,.ptr 1 0],[.box [.ls,.bool,.ls],.box [.ls,.bool,.ls]]))])],[(11,[.ls,.bool,.ls]),(13,[.ls,.bool,.ls]),(17,[.ls]),(23,[.ls]),(30,[.ls]),(32,[.int .i64,.bool,.ls]),(33,[.int .i64,.bool,.ls]),(35,[.ls]),(37,[.int .i64,.bool,.ls]),(38,[.int .i64,.bool,.ls]),(40,[.int .i64]),(42,[.int .i64]),(45,[.int .i64]),(47,[.int .i64]),(50,[.bool,.ls]),(52,[.bool,.ls]),(58,[.ls]),(61,[.ls]),(65,[.ls]),(68,[.ls]),(72,[.bool,.ls]),(74,[.bool,.ls])]⟩
def Alk:MFn:=AS [] 24
def AjZ:Hnt:=⟨[(20,(.agg [.ls,.bool,.ls],[])),(56,(.agg [.bool,.ls],[])),(73,(.agg [.ls,.bool,.ls],[])),(80,(.agg [.ls,.bool,.ls],[])),(81,(.agg [.ls,.bool,.ls],[]))],[],[(9,[.ls,.bool,.ls]),(12,[.ls,.bool,.ls]),(13,[.ls,.bool,.ls]),(17,[.bool]),(19,[.ls,.bool,.ls,.bool]),(22,[.ls,.bool,.ls]),(24,[.ls,.bool,.ls]),(27,[.ls,.bool,.ls,.bool])]⟩
def Alh:MFn:=AS [] 19
def AjX:Hnt:=⟨[(74,(.int .i64,[]))],[],[(7,[.ls,.bool,.ls]),(9,[.ls,.bool,.ls]),(15,[.bool]),(19,[.bool]),(22,[.bool]),(25,[.bool])]⟩
def Anr:AB:=[⟨27,[true,true,false,false,false,true],[],[],[(0,([false,false,false,false,true],([],[]))),(1,([],([],[])))]⟩]
def Acd:MFn:=AS Anr 22
def X4:Hnt:=⟨[(21,(.bool,[]))],[(0,[(0,([.bool],[])),(1,([],[]))])],[(19,[.ls,.bool,.ls,.bool]),(20,[.ls,.bool,.ls,.bool]),(23,[.ls,.bool,.ls,.bool]),(24,[.ls,.bool,.ls,.bool])]⟩
def RH:List (Nat × MFn):=[(74,Acj),(24,Alk),(19,Alh),(22,Acd)]
variable (A:Ar) (D:Orc)
theorem e74(x0_0:Rw)(x0_1:Bool)(x0_2 x1_0:Rw)(x1_1:Bool)(x1_2:Rw):BP A D As Vn .n 74 Acj [Ω [Δ x0_0,bv x0_1,Δ x0_2],Ω [Δ x1_0,bv x1_1,Δ x1_2]] [] =
 Af D (θ 20) [Ω [Δ x0_0,bv x0_1,Δ x0_2]] [] [.a,.L,.B,.L,.N,.E] λxs b xs1=>
 Af D (θ 20) [Ω [Δ x1_0,bv x1_1,Δ x1_2]] [] [.a,.L,.B,.L,.N,.E] λxs2 b1 xs3=>
 Af D (γ 74 0) [ε 0 0,ε 1 0,iv 0] [bk [Δ xs,bv b,Δ xs1],bk [Δ xs2,bv b1,Δ xs3]] [.t,.C,.x,.X,.Y] λc l6 o2=>
 br (Bo 0 c)
 (dk [.I,.N,.D,.D,.E] [.l l6,.o o2] λn=>
 some ((iv n,[])))
 (br (Bo 1 c)
 (dk [.P 0 0,.P 1 0,.N,.T,.L,.B,.L,.N,.T,.L,.B,.L,.N,.E] [.l l6,.o o2] λxs4 b2 xs5 xs6 b3 xs7=>
 br (A.lt ↑(AF xs4) ↑(AF xs6))
 (some ((iv (-1),[])))
 (br (A.lt ↑(AF xs6) ↑(AF xs4))
 (some ((iv 1,[])))
 (Af D (θ 53) [Ω [bv b2,Δ xs5],Ω [bv b3,Δ xs7]] [] [.i,.E] λn=>
 some ((iv n,[])))))
 (none)):=by kernel_rfl
theorem XB(b5_0:Rw)(b5_1:Bool)(b5_2 b6_0:Rw)(b6_1:Bool)(b6_2:Rw)(t7:Int):CO A D As Vn .n 74 0 (AN Acj 0).fst (AN Acj 0).snd [ε 0 0,ε 1 0,iv t7] [bk [Δ b5_0,bv b5_1,Δ b5_2],bk [Δ b6_0,bv b6_1,Δ b6_2]] =
 br (A.lt t7 ↑(AF b5_0))
 (br (A.lt t7 ↑(AF b6_0))
 (unI t7 λi=>
 Bl b5_0 i λcs=>
 dk [.I,.B,.L,.N] [.l cs] λn b xs=>
 unI t7 λi1=>
 Bl b6_0 i1 λcs1=>
 dk [.I,.B,.L,.N] [.l cs1] λn1 b1 xs1=>
 br (A.lt n n1)
 (some ((ν [bv true,iv (-1)],[BO.del,BO.del])))
 (br (A.lt n1 n)
 (some ((ν [bv true,iv 1],[BO.del,BO.del])))
 (Af D (θ 53) [Ω [bv b,Δ xs],Ω [bv b1,Δ xs1]] [] [.i,.E] λn2=>
 br (A.eq n2 0)
 (AI D (γ 74 0) [ε 0 0,ε 1 0,iv (A.add Φ t7 1)] [bk [Δ b5_0,bv b5_1,Δ b5_2],bk [Δ b6_0,bv b6_1,Δ b6_2]] λr1 o1=>
 AE 2 [0,1] (AH.mk [(1,bk [Δ b6_0,bv b6_1,Δ b6_2]),(0,bk [Δ b5_0,bv b5_1,Δ b5_2]),(3,bk [iv n1,bv b1,Δ xs1]),(2,bk [iv n,bv b,Δ xs])] 4 none) [0,1] r1 o1)
 (some ((ν [bv true,iv n2],[BO.del,BO.del]))))))
 (some ((ν [iv 0,ε 0 0,ε 1 0],[ο (bk [Δ b5_0,bv b5_1,Δ b5_2]),ο (bk [Δ b6_0,bv b6_1,Δ b6_2])]))))
 (some ((ν [iv 0,ε 0 0,ε 1 0],[ο (bk [Δ b5_0,bv b5_1,Δ b5_2]),ο (bk [Δ b6_0,bv b6_1,Δ b6_2])]))):=by kernel_rfl
theorem e24(x0_0:Rw)(x0_1:Bool)(x0_2:Rw)(x0_3:Bool):BP A D As AjZ .n 24 Alk [Ω [Δ x0_0,bv x0_1,Δ x0_2,bv x0_3]] [] =
 Af D (θ 56) [iv 1] [] [.a,.B,.L,.N,.E] λb xs=>
 Af D (θ 80) [Ω [bv b,Δ xs]] [] [.a,.L,.B,.L,.N,.E] λxs1 b1 xs2=>
 Af D (θ 56) [iv (-1)] [] [.a,.B,.L,.N,.E] λb2 xs3=>
 Af D (θ 73) [Ω [Δ x0_0,bv x0_1,Δ x0_2],Ω [bv b2,Δ xs3]] [] [.a,.L,.B,.L,.N,.E] λxs4 b3 xs5=>
 Af D (θ 81) [Ω [Δ xs4,bv b3,Δ xs5],Ω [Δ xs1,bv b1,Δ xs2]] [] [.a,.L,.B,.L,.N,.E] λxs6 b4 xs7=>
 br (A.not x0_3)
 (some ((Δ [[Δ xs6,bv b4,Δ xs7,bv false]],[])))
 (Af D (θ 20) [Ω [Δ x0_0,bv x0_1,Δ x0_2]] [] [.a,.L,.B,.L,.N,.E] λxs8 b5 xs9=>
 Af D (θ 81) [Ω [Δ xs8,bv b5,Δ xs9],Ω [Δ xs1,bv b1,Δ xs2]] [] [.a,.L,.B,.L,.N,.E] λxs10 b6 xs11=>
 some ((Δ [[Δ xs10,bv b6,Δ xs11,bv false],[Δ xs6,bv b4,Δ xs7,bv false]],[]))):=by kernel_rfl
theorem e19(x0_0:Rw)(x0_1:Bool)(x0_2:Rw)(x0_3:Bool)(x1_0:Rw)(x1_1:Bool)(x1_2:Rw)(x1_3:Bool):BP A D As AjX (.b (.b .n (.b .n (.b (.b (.b (.b (.b .n (.b .n (.b (.t (.t (.b (.t .n) (.t .n)))) (.f (.f (.f .n)))))) .n) .n) .n) (.b .n (.b .n (.b .n (.b .n (.b .n (.b (.t (.t (.b (.t .n) (.t .n)))) (.f (.f (.f .n)))))))))))) .n) 19 Alh [Ω [Δ x0_0,bv x0_1,Δ x0_2,bv x0_3],Ω [Δ x1_0,bv x1_1,Δ x1_2,bv x1_3]] [] =
 Af D (θ 74) [Ω [Δ x0_0,bv x0_1,Δ x0_2],Ω [Δ x1_0,bv x1_1,Δ x1_2]] [] [.i,.E] λn=>
 br (A.eq n 0)
 (br (A.not x0_3)
 (br x1_3
 (some ((iv (-1),[])))
 (br x0_3
 (br x0_3 (br x0_3 (br (A.not x1_3)
 (br x0_3 (some ((iv 1,[]))) none)
 (br x0_3 (some ((iv 0,[]))) none)) none) none)
 (br x0_3 none (br x0_3 none (br x0_3 none (some ((iv 0,[]))))))))
 (br x0_3
 (br x0_3 (br x0_3 (br (A.not x1_3)
 (br x0_3 (some ((iv 1,[]))) none)
 (br x0_3 (some ((iv 0,[]))) none)) none) none)
 (br x0_3 none (br x0_3 none (br x0_3 none (some ((iv 0,[]))))))))
 (some ((iv n,[]))):=by kernel_rfl
theorem e22(x0 x1:Rw):BP A D As X4 .n 22 Acd [Δ x0,Δ x1] [] =
 br (A.eq ↑(AF x0) ↑(AF x1))
 (Af D (γ 22 0) [Δ x0,Δ x1,iv 0] [] [.t,.C,.x,.X,.Y] λc l o=>
 br (Bo 0 c)
 (dk [.B,.N,.E] [.l l,.o o] λb=>
 some ((bv b,[])))
 (br (Bo 1 c)
 (EM l<|
 Dd o<|
 some ((bv true,[])))
 (none)))
 (some ((bv false,[]))):=by kernel_rfl
theorem Aft(t0 t1:Rw)(t5:Int):CO A D As X4 .n 22 0 (AN Acd 0).fst (AN Acd 0).snd [Δ t0,Δ t1,iv t5] [] =
 br (A.lt t5 ↑(AF t0))
 (unI t5 λi=>
 Bl t0 i λcs=>
 dk [.L,.B,.L,.B,.N] [.l cs] λxs b xs1 b1=>
 unI t5 λi1=>
 Bl t1 i1 λcs1=>
 dk [.L,.B,.L,.B,.N] [.l cs1] λxs2 b2 xs3 b3=>
 Af D (θ 21) [Ω [Δ xs,bv b,Δ xs1,bv b1],Ω [Δ xs2,bv b2,Δ xs3,bv b3]] [] [.b,.E] λb4=>
 br b4
 (AI D (γ 22 0) [Δ t0,Δ t1,iv (A.add Φ t5 1)] [] λr1 o1=>
 AE 0 [] (AH.mk [] 0 none) [] r1 o1)
 (some ((ν [bv true,bv false],[]))))
 (some ((ν [iv 0],[]))):=by kernel_rfl
end
section
open Go.RowKit
def mf3:MFn:=AS [] 3
def hn3:Hnt:=⟨[(15,(.bool,[])),(16,(.bool,[])),(17,(.tup [.agg [.ls,.bool,.ls,.bool],.int .i64],[])),(18,(.tup [.agg [.ls,.bool,.ls,.bool],.int .i64],[])),(19,(.int .i64,[])),(20,(.agg [.ls,.bool,.ls],[])),(21,(.bool,[])),(22,(.bool,[])),(23,(.ls,[])),(24,(.ls,[])),(25,(.int .i64,[])),(26,(.bool,[])),(27,(.agg [.ls,.bool,.ls,.bool],[])),(28,(.agg [.ls,.bool,.ls,.bool],[]))],[],[(13,[.ls,.bool,.ls,.bool]),(14,[.ls,.bool,.ls,.bool]),(19,[.ls,.bool,.ls,.bool]),(24,[.ls,.bool,.ls,.bool]),(28,[.ls,.bool,.ls,.bool]),(29,[.ls,.bool,.ls,.bool]),(32,[.ls,.bool,.ls]),(38,[.ls,.bool,.ls,.bool]),(39,[.ls,.bool,.ls,.bool]),(43,[.ls,.bool,.ls,.bool]),(45,[.ls,.bool,.ls,.bool]),(50,[.ls,.bool,.ls,.bool]),(51,[.ls,.bool,.ls,.bool]),(57,[.ls,.bool,.ls,.bool]),(58,[.ls,.bool,.ls,.bool]),(66,[.ls,.bool,.ls]),(68,[.ls,.bool,.ls]),(74,[.ls,.bool,.ls]),(76,[.ls,.bool,.ls])]⟩
def PV:List (Nat × MFn):=[(3,mf3)]
variable (A:Ar) (D:Orc)
theorem e3(x0_0:Rw)(x0_1:Bool)(x0_2:Rw)(x0_3:Bool)(x1_0:Rw)(x1_1:Bool)(x1_2:Rw)(x1_3:Bool):BP A D As hn3 .n 3 mf3 [Ω [Δ x0_0,bv x0_1,Δ x0_2,bv x0_3],Ω [Δ x1_0,bv x1_1,Δ x1_2,bv x1_3]] [] =
 Af D (θ 15) [] [] [.b,.E] λb=>
 br b
 (Af D (θ 16) [Δ [[Δ x0_0,bv x0_1,Δ x0_2,bv x0_3],[Δ x1_0,bv x1_1,Δ x1_2,bv x1_3]],iv 2,iv 12] [] [.b,.E] λb1=>
 br b1
 (Af D (θ 17) [Ω [Δ x0_0,bv x0_1,Δ x0_2,bv x0_3]] [] [.t,.A,.L,.B,.L,.B,.N,.I,.N,.E] λxs b2 xs1 b3 n=>
 Af D (θ 18) [Ω [Δ x0_0,bv x0_1,Δ x0_2,bv x0_3]] [] [.t,.A,.L,.B,.L,.B,.N,.I,.N,.E] λxs2 b4 xs3 b5 n1=>
 Af D (θ 19) [Ω [Δ x0_0,bv x0_1,Δ x0_2,bv x0_3],Ω [Δ x1_0,bv x1_1,Δ x1_2,bv x1_3]] [] [.i,.E] λn2=>
 Af D (θ 20) [Ω [Δ x0_0,bv x0_1,Δ x0_2]] [] [.a,.L,.B,.L,.N,.E] λxs4 b6 xs5=>
 br (A.eq n n1)
 (Af D (θ 21) [Ω [Δ xs,bv b2,Δ xs1,bv b3],Ω [Δ xs2,bv b4,Δ xs3,bv b5]] [] [.b,.E] λb7=>
 br b7
 (Af D (θ 23) [Ω [Δ x0_0,bv x0_1,Δ x0_2,bv x0_3]] [] [.l,.E] λxs6=>
 Af D (θ 24) [Ω [Δ x0_0,bv x0_1,Δ x0_2,bv x0_3]] [] [.l,.E] λxs7=>
 Af D (θ 22) [Δ xs6,Δ xs7] [] [.b,.E] λb8=>
 br b8
 (Af D (θ 25) [Ω [Δ x0_0,bv x0_1,Δ x0_2,bv x0_3],Ω [Δ x1_0,bv x1_1,Δ x1_2,bv x1_3]] [] [.i,.E] λn3=>
 br (A.eq n3 n2)
 (Af D (θ 26) [Ω [Δ x0_0,bv x0_1,Δ x0_2,bv x0_3],Ω [Δ x1_0,bv x1_1,Δ x1_2,bv x1_3]] [] [.b,.E] λb9=>
 br b9
 (br (A.eq n2 0)
 (br (A.beq true true)
 (Af D (θ 27) [Ω [Δ x0_0,bv x0_1,Δ x0_2]] [] [.a,.L,.B,.L,.B,.N,.E] λxs8 b10 xs9 b11=>
 Af D (θ 21) [Ω [Δ xs8,bv b10,Δ xs9,bv b11],Ω [Δ xs4,bv b6,Δ xs5,bv true]] [] [.b,.E] λb12=>
 br b12
 (Af D (θ 28) [Ω [Δ x0_0,bv x0_1,Δ x0_2]] [] [.a,.L,.B,.L,.B,.N,.E] λxs10 b13 xs11 b14=>
 Af D (θ 21) [Ω [Δ xs10,bv b13,Δ xs11,bv b14],Ω [Δ xs4,bv b6,Δ xs5,bv false]] [] [.b,.E] λb15=>
 br b15
 (some ((bv true,[])))
 (some ((bv false,[]))))
 (some ((bv false,[]))))
 (some ((bv false,[]))))
 (br (A.beq true false)
 (Af D (θ 27) [Ω [Δ x0_0,bv x0_1,Δ x0_2]] [] [.a,.L,.B,.L,.B,.N,.E] λxs8 b10 xs9 b11=>
 Af D (θ 21) [Ω [Δ xs8,bv b10,Δ xs9,bv b11],Ω [Δ xs4,bv b6,Δ xs5,bv true]] [] [.b,.E] λb12=>
 br b12
 (Af D (θ 28) [Ω [Δ x0_0,bv x0_1,Δ x0_2]] [] [.a,.L,.B,.L,.B,.N,.E] λxs10 b13 xs11 b14=>
 Af D (θ 21) [Ω [Δ xs10,bv b13,Δ xs11,bv b14],Ω [Δ xs4,bv b6,Δ xs5,bv false]] [] [.b,.E] λb15=>
 br b15
 (some ((bv true,[])))
 (some ((bv false,[]))))
 (some ((bv false,[]))))
 (some ((bv false,[])))))
 (br (A.eq n2 0)
 (br (A.beq false true)
 (Af D (θ 27) [Ω [Δ x0_0,bv x0_1,Δ x0_2]] [] [.a,.L,.B,.L,.B,.N,.E] λxs8 b10 xs9 b11=>
 Af D (θ 21) [Ω [Δ xs8,bv b10,Δ xs9,bv b11],Ω [Δ xs4,bv b6,Δ xs5,bv true]] [] [.b,.E] λb12=>
 br b12
 (Af D (θ 28) [Ω [Δ x0_0,bv x0_1,Δ x0_2]] [] [.a,.L,.B,.L,.B,.N,.E] λxs10 b13 xs11 b14=>
 Af D (θ 21) [Ω [Δ xs10,bv b13,Δ xs11,bv b14],Ω [Δ xs4,bv b6,Δ xs5,bv false]] [] [.b,.E] λb15=>
 br b15
 (some ((bv true,[])))
 (some ((bv false,[]))))
 (some ((bv false,[]))))
 (some ((bv false,[]))))
 (br (A.beq false false)
 (Af D (θ 27) [Ω [Δ x0_0,bv x0_1,Δ x0_2]] [] [.a,.L,.B,.L,.B,.N,.E] λxs8 b10 xs9 b11=>
 Af D (θ 21) [Ω [Δ xs8,bv b10,Δ xs9,bv b11],Ω [Δ xs4,bv b6,Δ xs5,bv true]] [] [.b,.E] λb12=>
 br b12
 (Af D (θ 28) [Ω [Δ x0_0,bv x0_1,Δ x0_2]] [] [.a,.L,.B,.L,.B,.N,.E] λxs10 b13 xs11 b14=>
 Af D (θ 21) [Ω [Δ xs10,bv b13,Δ xs11,bv b14],Ω [Δ xs4,bv b6,Δ xs5,bv false]] [] [.b,.E] λb15=>
 br b15
 (some ((bv true,[])))
 (some ((bv false,[]))))
 (some ((bv false,[]))))
 (some ((bv false,[]))))))
 (some ((bv false,[]))))
 (some ((bv false,[]))))
 (some ((bv false,[]))))
 (some ((bv false,[]))))
 (some ((bv true,[]))))
 (some ((bv false,[]))):=by kernel_rfl
end
end
end Go.Proofs.YtpncilciembjdaaGreatDoor
