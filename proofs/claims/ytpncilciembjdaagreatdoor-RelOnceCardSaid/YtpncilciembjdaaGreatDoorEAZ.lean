/- slices.Grow of nil over -/
import Derived.Lib.AppendZeros
import Derived.Test.YtpncilciembjdaaGreatDoorEAY
set_option linter.all false
open Bool renaming true->Δ
open Nat renaming ble->ArY,le_refl->κ
open Option renaming none->Ξ,some->Θ
namespace Go.Proofs.YtpncilciembjdaaGreatDoor
noncomputable section
open ABlk renaming mk->δ
open AV renaming agg->ω,fn->Ar8,ls->Ψ,tup->ι
open IntKind renaming i64->θ
open Key renaming fn->ψ,lp->ArW
open Option.some renaming injEq->ξ
open Tryz renaming prog->ArP
open Go.RowKit
set_option maxRecDepth 100000 in
set_option maxHeartbeats 4000000 in
theorem Zd(w:World)(n:Nat)(hby:n*40<=140737488355328) :
  Calls ArP 262 #[.slice Ξ 0 0,.int .i64 n] w λe w'=>∃ v',e=.returned v'/\w'.ownsRow w.heap.size 84 3 v' 0 []/\Below w.heap.size w w':=by
 have y0:¬ (n:Int)<0:=by omega
 go_enter Tryz.func262,Tryz.ntmps262
 by_cases h0:n=0
 .subst h0
  go_wp2
  go_ret
  exact⟨_,rfl,World.ownsRow_nil _ _ _ _,Below.refl _ _⟩
 .have y1:(0:Int)<(n:Int):=by omega
  obtain⟨i0,hi0,hz0,hz1,hz2⟩:=info_parts (show (Tryz.prog.info? 84).map (λi=>(i.zero,i.size,i.bytes))=Θ (Θ (.agg #[.int .i64 0,.bool false,.slice Ξ 0 0]),3,40) by kernel_rfl);have hr:=λty=>Lib.run_append_nil_zeros (P:=ArP) w 22 3 ty 84 i0 _ .i64 .i64 Tryz.underlying22 Tryz.underlying3 hi0 hz0 n (by omega) (by rw[hz1];decide) (by omega) (by rw[hz2];omega)
  have c1:=grownCap_ge w n 0 84;have c2:=grownCap_le_maxLen w n 0 84 (by unfold maxLen;omega);have HR:=Lib.hid hr;clear hr;generalize grownCap w n 0 84=cap at *
  go_wp2_with (at_builtin;refine Lib.wpList_append_run _ rfl _ _ _ _ rfl _ _ rfl rfl _ _ (HR.out _) ?_)
  go_wp2_with fail
  go_ret
  refine⟨_,rfl,⟨by simp,.inr ⟨w.heap.size,cap,_,rfl,κ _,heap_alloc_new _ _,Nat.zero_le _,c2,?_,by simp⟩⟩,?_⟩
  .rw[Array.size_append,size_zeroCells,size_zeroCells]
   show n*3+(cap-n)*3=cap*3
   omega
  .exact(Vo (Below.refl _ _)).alloc (κ _) _
def EY(B:Nat):List AV->Option (Nat × List AV)
 |[.v (.slice Ξ 0 0),.v (.int .i64 (.ofNat n))]=>if ArY (n*B) 140737488355328=Δ then Θ (0,[]) else Ξ
 |_=>Ξ
theorem IG:Bu (BD ArP 262) (Dd 3 (EY 40)):=by
 refine Lo (CO _ _) 3 _ λargs n cells hr=>?_
 unfold EY at hr;split at hr
 .rename_i k
  split at hr
  .rename_i hk
   simp only[ξ,Prod.mk.injEq]at hr;obtain⟨rfl,rfl⟩:=hr;refine⟨rfl,rfl,λμ F w us hF hus=>?_⟩;obtain⟨u,t,rfl,hu,u2,t2,rfl,hu2,ht⟩:=hus;have ht:t2=[]:=ht;subst ht;unfold Rep at hu hu2;rw[hu.1,hu2.1];refine Calls.mono (Zd w k (Nat.le_of_ble_eq_true hk)) ?_;rintro e' w' ⟨v',rfl,ho,hb⟩;exact⟨v',rfl,_,[],ho,hb,rfl⟩
  .cases hr
 .cases hr
theorem LJ:∀ l:List Pt,AQ (Ag eP l)=Δ
 |[]=>rfl
 |x::r=>by
  have ih:=LJ r;have h1:Ag eP (x::r)=eP x++Ag eP r:=by simp[Ag]
  rw[h1,BB,List.all_append,←BB,←BB,ih];rfl
theorem Jl{l:List Pt}(h:l.length<=1000000000):Dd 3 (By 3 40) [.ls (l.map eP)] []=Θ (.sl 0 0 l.length 3,[.set (Ft l)]):=by
 unfold Dd By;have h4:ArY (Al (l.map eP)*40) 140737488355328=Δ:=by
  rw[Ao];simp;omega
 have h1:EJ (B8 (l.map eP))=Δ:=by rw[Dw];exact Gm Ws l
 have h2:AQ (B8 (l.map eP))=Δ:=by rw[Dw];exact LJ l
 simp only[IW Ay,h1,h2,h4,Bool.and_true,if_true,Option.map_some];rw[Ao,Dw]
theorem Qq{n:Nat}(h:n<=1000000000):Dd 3 (EY 40) [.v (.slice Ξ 0 0),iv (n:Int)] []=Θ (.sl 0 0 0 3,[.set (Ft [])]):=by
 have h4:ArY (n*40) 140737488355328=Δ:=by simp;omega
 show (if ArY (n*40) 140737488355328=Δ then Θ (0,([]:List AV)) else Ξ).map _=_
 rw[if_pos h4];rfl
theorem Amn:ZF PJ where
 frm z h:=Aeq (S6.frm z h)
 neg z h:=Air (S6.neg z h)
 sign z h:=Aer (S6.sign z h)
 of_ n h1 h2:=Aml (S6.of_ n h1 h2)
 cmp a b ha hb:=Ain (S6.cmp a b ha hb)
 add a b ha hb:=Aim (S6.add a b ha hb)
 mul a b ha hb h:=Aiq (S6.mul a b ha hb h)
theorem AqO:ZdF PJ where
 div a b ha hb:=Aio (Amm.div a b ha hb)
 exact a b ha hb:=AaE (Amm.exact a b ha hb)
 gcd a b ha hb:=Aip (Amm.gcd a b ha hb)
theorem UR:SeatOk ArP Bx LU:=Z2 ⟨Mi,(Zb _),(Zb _),(Zb _),(Zb _),(Zb _),(Zb _),(Zb _),(Zb _),(Zb _),(Zb _),(Zb _),(Zb _),(Zb _),trivial⟩
theorem gSk(f:Nat):Bu (BD ArP f) ((AL Ae LU).ask (.fn f)):=Do UR f
theorem Vv{l:List Pt}(h:l.length<=1000000000)(tl:List AV):FY 3 40 [.sl 0 0 l.length 3] [δ (Ag eP l++tl) Δ Δ]=Θ (.sl 1 0 l.length 3,[.keep,.set (Ft l)]):=by
 have hl:(Ag eP l).length=l.length*3:=AR Ay l;have e1:((Ag eP l++tl).drop 0).take (l.length*3)=Ag eP l:=by
  rw[List.drop_zero,←hl,List.take_left' rfl]
 unfold FY;simp only[e1];have h1:Nat.beq 3 3=Δ:=rfl;have h2:ArY (0+l.length*3) (Ag eP l++tl).length=Δ:=by
  rw[List.length_append,hl];simp
 have h3:EJ (Ag eP l)=Δ:=Gm Ws l;have h4:AQ (Ag eP l)=Δ:=LJ l;have h5:ArY (l.length*40) 140737488355328=Δ:=by simp;omega
 rw[h1,h2,h3,h4,h5]
theorem Y0{l:List Pt}(h:l.length<=1000000000):FY 3 40 [.ls (l.map eP)] []=Θ (.sl 0 0 l.length 3,[.set (Ft l)]):=Jl h
theorem Aaa{n k:Nat}{t:Tm}(ht:TmB n k t)(hn:n<=1000000)(hk:k+n<=300000000):PJ.ask (.fn 65) [.agg (eT t)] []=Θ (.tup [.agg (eT (Fx t)),.agg (eZ (Av (Dr t:Int)))],[]):=by
 have hcp:∀{z:Zi},Lz 1000000000 z->PJ.ask (.fn 138) [.agg (eZ z)] []=Θ (.agg (eZ (Av (zv z))),[]):=λh=>AaB (Ff AnW S6 h)
 have hsort:∀ l:List Pt,l.length<=1000000000->∃ r:List Pt,PJ.ask (.fn 136) [.sl 0 0 l.length 3,Fs] [Ft l]=Θ (.tup [],[.set (Ft r)])/\r.length=l.length/\r.Perm l/\Srt Pt.v r 0 r.length:=λl hl=>by
  obtain⟨r,g,h⟩:=UY Ack hl;exact⟨r,Aeo g,h⟩
 have hdel:∀ l:List Pt,l.length<=1000000000->(∀ p∈l,Lz 1000000000 p.z)->∃ cells:List AV,PJ.ask (.fn 140) [.sl 0 0 l.length 3,fnZ] [δ (Ag eP l) Δ Δ]
   = Θ (.sl 0 0 (l.filter λp=>!decide (zv p.z=0)).length 3,[.set (δ cells Δ Δ)])
   ∧ cells.take ((l.filter λp=>!decide (zv p.z=0)).length*3)=Ag eP (l.filter λp=>!decide (zv p.z=0))/\(l.filter λp=>!decide (zv p.z=0)).length*3<=cells.length:=λl hl hz=>by
  obtain⟨c,g,h⟩:=AmN l hl hz;exact⟨c,Aid g,h⟩
 have hl:=ht.len;have hb:=ht.lb.pln.tb;have hl2:=hb.len;obtain⟨tl,gn⟩:=ZE Acl Amn hcp hsort hdel ht hn (by omega) (Rf (Y0 (by omega)));obtain⟨tl',go⟩:=ZG Acl Amn hcp hsort hdel hb hn (by omega) (Rf (Vv (by omega) tl));rw[Cd]at go;have e1:t.lf.pln.tm.ps=(AG t.lf.ps).map AJ:=rfl;have e2:AG t.lf.pln.ps=AG t.lf.ps:=Cp (CW _);have e3:t.lf.pln.tm.k=Av (zv t.k):=rfl;rw[e2,e1,e3,List.length_map]at go;exact Z9 Acl AqO ht hn hk Amn.sign gn go
section
open Go.RowKit
def Afu:MFn:=AU [⟨18,(mB 456),[],[],[(0,([false,false,Δ],([],[]))),(1,((mB 8),([],[])))]⟩] 82
def Zh:Hnt:=⟨[],[(0,[(0,([.int .i64],[])),(1,([.int .i64],[]))])],[(10,[.int .i64]),(11,[.int .i64])]⟩
def AjM:MFn:=AU [] 154
def Ai2:Hnt:=⟨[(82,(.int .i64,[])),(84,(.int .i64,[])),(155,(.int .i64,[]))],[],[(6,[.int .i64]),(8,[.int .i64]),(11,AK),(13,AK)]⟩
def XM:MFn:=AU [⟨39,(mB 14343),[],[],[(0,((mB 64),([],[]))),(1,([Δ,Δ],([],[])))]⟩] 156
def TQ:Hnt:=⟨[(154,(.int .i64,[]))],[(0,[(0,([.int .i64],[])),(1,([.ls,.ls],[]))])],[(16,Br),(17,Br),(24,Br),(25,Br),(27,Br),(28,Br)]⟩
def Aon:MFn:=AU [] 83
def Anx:Hnt:=⟨[(62,(.agg B7,[])),(82,(.int .i64,[])),(155,(.int .i64,[])),(156,(.int .i64,[]))],[],[(6,B7),(8,B7),(11,[.ls]),(13,[.ls]),(17,AK),(19,AK)]⟩
def Aop:MFn:=AU [] 85
def AnA:Hnt:=⟨[],[],[(4,[.bool])]⟩
def Aob:MFn:=AU [] 25
def Ank:Hnt:=⟨[(82,(.int .i64,[])),(83,(.int .i64,[])),(84,(.int .i64,[])),(85,(.int .i64,[]))],[],[(6,B7),(8,B7),(10,BL),(12,BL)]⟩
def Aqo:MFn:=AU [] 26
def An1:MFn:=AU [⟨32,(mB 229382),[],[],[(0,((mB 64),([],[]))),(1,([],([],[])))]⟩] 108
def Aqu:MFn:=AU [] 41
def KY:List (Nat × MFn):=[(82,Afu),(154,AjM),(156,XM),(83,Aon),(85,Aop),(25,Aob),(26,Aqo),(108,An1),(41,Aqu)]
variable (A:Ar) (D:Orc)
theorem e82(x0:Rw):BY A D At Zh .n 82 Afu [Ψ x0] [] =
 Af D (ArW 82 0) [iv 0,Ψ x0,iv ↑(Al x0),iv 0] [] [.t,.C,.x,.X,.Y] λc l o=>
 br (Bo 0 c)
 (dk [.I,.N,.E] [.l l,.o o] λn=>
 Θ ((iv n,[])))
 (br (Bo 1 c)
 (dk [.I,.N,.E] [.l l,.o o] λn=>
 Θ ((iv n,[])))
 (Ξ)):=by kernel_rfl
theorem AbG(t3:Int)(t6:Rw)(t7 t8:Int):Dy A D At Zh .n 82 0 (AZ Afu 0).fst (AZ Afu 0).snd [iv t3,Ψ t6,iv t7,iv t8] [] =
 br (A.lt t8 t7)
 (unI t8 λi=>
 BH t6 i λcs=>
 dk [.I,.N] [.l cs] λn=>
 br (A.eq n t3)
 (AF D (ArW 82 0) [iv t3,Ψ t6,iv t7,iv (A.add θ t8 1)] [] λr o=>
 AW 0 [] (AH.mk [] 0 Ξ) [] r o)
 (Θ ((ι [bv Δ,iv n],[]))))
 (Θ ((ι [iv 0,iv t3],[]))):=by kernel_rfl
theorem ApG(x0_0:Int)(x0_1:Bool)(x0_2:Rw)(x1_0:Int)(x1_1:Bool)(x1_2:Rw):BY A D At Ai2 .n 154 AjM [ω [iv x0_0,bv x0_1,Ψ x0_2],ω [iv x1_0,bv x1_1,Ψ x1_2]] [] =
 Af D (ψ 84) [iv x0_0,iv x1_0] [] [.i,.E] λn=>
 Af D (ψ 155) [ω [bv x0_1,Ψ x0_2],ω [bv x1_1,Ψ x1_2]] [] [.i,.E] λn1=>
 Af D (ψ 82) [Ψ [[iv n],[iv n1]]] [] [.i,.E] λn2=>
 Θ ((iv n2,[])):=by kernel_rfl
theorem ApI(x0 x1:Rw):BY A D At TQ .n 156 XM [Ψ x0,Ψ x1,Ar8 (Fn.func 154) [] []] [] =
 Af D (ArW 156 0) [Ψ x0,Ψ x1,Ar8 (Fn.func 154) [] [],Ψ x0,iv ↑(Al x0),iv 0] [] [.t,.C,.x,.X,.Y] λc l o=>
 br (Bo 0 c)
 (dk [.I,.N,.E] [.l l,.o o] λn=>
 Θ ((iv n,[])))
 (br (Bo 1 c)
 (dk [.L,.L,.N,.E] [.l l,.o o] λxs xs1=>
 br (A.lt ↑(Al xs) ↑(Al xs1))
 (Θ ((iv (-1),[])))
 (Θ ((iv 0,[]))))
 (Ξ)):=by kernel_rfl
theorem Abk(t0 t1 t11:Rw)(t12 t13:Int):Dy A D At TQ .n 156 0 (AZ XM 0).fst (AZ XM 0).snd [Ψ t0,Ψ t1,Ar8 (Fn.func 154) [] [],Ψ t11,iv t12,iv t13] [] =
 br (A.lt t13 t12)
 (unI t13 λi=>
 BH t11 i λcs=>
 dk [.I,.B,.L,.N] [.l cs] λn b xs=>
 br (A.le (↑(Al t1)) t13)
 (Θ ((ι [bv Δ,iv 1],[])))
 (unI t13 λi1=>
 BH t1 i1 λcs1=>
 dk [.I,.B,.L,.N] [.l cs1] λn1 b1 xs1=>
 Af D (ψ 154) [ω [iv n,bv b,Ψ xs],ω [iv n1,bv b1,Ψ xs1]] [] [.i,.E] λn2=>
 br (A.eq n2 0)
 (AF D (ArW 156 0) [Ψ t0,Ψ t1,Ar8 (Fn.func 154) [] [],Ψ t11,iv t12,iv (A.add θ t13 1)] [] λr1 o1=>
 AW 0 [] (AH.mk [(1,bk [iv n1,bv b1,Ψ xs1]),(0,bk [iv n,bv b,Ψ xs])] 2 Ξ) [] r1 o1)
 (Θ ((ι [bv Δ,iv n2],[])))))
 (Θ ((ι [iv 0,Ψ t0,Ψ t1],[]))):=by kernel_rfl
theorem e83(x0_0:Rw)(x0_1:Bool)(x0_2 x1_0:Rw)(x1_1:Bool)(x1_2:Rw):BY A D At Anx .n 83 Aon [ω [Ψ x0_0,bv x0_1,Ψ x0_2],ω [Ψ x1_0,bv x1_1,Ψ x1_2]] [] =
 Af D (ψ 62) [ω [Ψ x0_0,bv x0_1,Ψ x0_2]] [] [.a,.L,.B,.L,.N,.E] λxs b xs1=>
 Af D (ψ 62) [ω [Ψ x1_0,bv x1_1,Ψ x1_2]] [] [.a,.L,.B,.L,.N,.E] λxs2 b1 xs3=>
 Af D (ψ 156) [Ψ xs,Ψ xs2,Ar8 (Fn.func 154) [] []] [] [.i,.E] λn=>
 Af D (ψ 155) [ω [bv b,Ψ xs1],ω [bv b1,Ψ xs3]] [] [.i,.E] λn1=>
 Af D (ψ 82) [Ψ [[iv n],[iv n1]]] [] [.i,.E] λn2=>
 Θ ((iv n2,[])):=by kernel_rfl
theorem e85(x0_0:Rw)(x0_1:Bool)(x0_2:Rw)(x0_3:Bool):BY A D At AnA .n 85 Aop [ω [Ψ x0_0,bv x0_1,Ψ x0_2,bv x0_3]] [] =
 br x0_3
 (Θ ((iv 1,[])))
 (Θ ((iv 0,[]))):=by kernel_rfl
theorem e25(x0_0:Rw)(x0_1:Bool)(x0_2:Rw)(x0_3:Bool)(x1_0:Rw)(x1_1:Bool)(x1_2:Rw)(x1_3:Bool):BY A D At Ank .n 25 Aob [ω [Ψ x0_0,bv x0_1,Ψ x0_2,bv x0_3],ω [Ψ x1_0,bv x1_1,Ψ x1_2,bv x1_3]] [] =
 Af D (ψ 83) [ω [Ψ x0_0,bv x0_1,Ψ x0_2],ω [Ψ x1_0,bv x1_1,Ψ x1_2]] [] [.i,.E] λn=>
 Af D (ψ 85) [ω [Ψ x0_0,bv x0_1,Ψ x0_2,bv x0_3]] [] [.i,.E] λn1=>
 Af D (ψ 85) [ω [Ψ x1_0,bv x1_1,Ψ x1_2,bv x1_3]] [] [.i,.E] λn2=>
 Af D (ψ 84) [iv n1,iv n2] [] [.i,.E] λn3=>
 Af D (ψ 82) [Ψ [[iv n],[iv n3]]] [] [.i,.E] λn4=>
 Θ ((iv n4,[])):=by kernel_rfl
end
