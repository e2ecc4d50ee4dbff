/- slices.Grow of nil over -/
import Derived.Lib.AppendZeros
import Derived.Test.YtpncilciembjdaaGreatDoorDAX
set_option linter.all false
open Bool renaming true->Δ
open Nat renaming ble->Ap3,le_refl->κ
open Option renaming none->Ξ,some->Θ
namespace Go.Proofs.YtpncilciembjdaaGreatDoor
noncomputable section
open ABlk renaming mk->θ
open AV renaming agg->ω,fn->Ap9,ls->Ψ,tup->ε
open IntKind renaming i64->δ
open Key renaming fn->ψ,lp->ApW
open Option.some renaming injEq->ξ
open Tryz renaming prog->υ
open Go.RowKit
set_option maxRecDepth 100000 in
set_option maxHeartbeats 4000000 in
theorem YA(w:World)(n:Nat)(hby:n*40<=140737488355328) :
  Calls υ 262 #[.slice Ξ 0 0,.int .i64 n] w λe w'=>∃ v',e=.returned v'/\w'.ownsRow w.heap.size 84 3 v' 0 []/\Below w.heap.size w w':=by
 have y0:¬ (n:Int)<0:=by omega
 go_enter Tryz.func262,Tryz.ntmps262
 by_cases h0:n=0
 .subst h0
  go_wp2
  go_ret
  exact⟨_,rfl,World.ownsRow_nil _ _ _ _,Below.refl _ _⟩
 .have y1:(0:Int)<(n:Int):=by omega
  obtain⟨i0,hi0,hz0,hz1,hz2⟩:=info_parts (show (Tryz.prog.info? 84).map (λi=>(i.zero,i.size,i.bytes))=Θ (Θ (.agg #[.int .i64 0,.bool false,.slice Ξ 0 0]),3,40) by kernel_rfl);have hr:=λty=>Lib.run_append_nil_zeros (P:=υ) w 22 3 ty 84 i0 _ .i64 .i64 Tryz.underlying22 Tryz.underlying3 hi0 hz0 n (by omega) (by rw[hz1];decide) (by omega) (by rw[hz2];omega)
  have c1:=grownCap_ge w n 0 84;have c2:=grownCap_le_maxLen w n 0 84 (by unfold maxLen;omega);have HR:=Lib.hid hr;clear hr;generalize grownCap w n 0 84=cap at *
  go_wp2_with (at_builtin;refine Lib.wpList_append_run _ rfl _ _ _ _ rfl _ _ rfl rfl _ _ (HR.out _) ?_)
  go_wp2_with fail
  go_ret
  refine⟨_,rfl,⟨by simp,.inr ⟨w.heap.size,cap,_,rfl,κ _,heap_alloc_new _ _,Nat.zero_le _,c2,?_,by simp⟩⟩,?_⟩
  .rw[Array.size_append,size_zeroCells,size_zeroCells]
   show n*3+(cap-n)*3=cap*3
   omega
  .exact(UZ (Below.refl _ _)).alloc (κ _) _
def EP(B:Nat):List AV->Option (Nat × List AV)
 |[.v (.slice Ξ 0 0),.v (.int .i64 (.ofNat n))]=>if Ap3 (n*B) 140737488355328=Δ then Θ (0,[]) else Ξ
 |_=>Ξ
theorem Iq:Bk (Bu υ 262) (C8 3 (EP 40)):=by
 refine K5 (CK _ _) 3 _ λargs n cells hr=>?_
 unfold EP at hr;split at hr
 .rename_i k
  split at hr
  .rename_i hk
   simp only[ξ,Prod.mk.injEq]at hr;obtain⟨rfl,rfl⟩:=hr;refine⟨rfl,rfl,λμ F w us hF hus=>?_⟩;obtain⟨u,t,rfl,hu,u2,t2,rfl,hu2,ht⟩:=hus;have ht:t2=[]:=ht;subst ht;unfold Rep at hu hu2;rw[hu.1,hu2.1];refine Calls.mono (YA w k (Nat.le_of_ble_eq_true hk)) ?_;rintro e' w' ⟨v',rfl,ho,hb⟩;exact⟨v',rfl,_,[],ho,hb,rfl⟩
  .cases hr
 .cases hr
theorem Lq:∀ l:List Pt,AO (Ag eP l)=Δ
 |[]=>rfl
 |x::r=>by
  have ih:=Lq r;have h1:Ag eP (x::r)=eP x++Ag eP r:=by simp[Ag]
  rw[h1,Br,List.all_append,←Br,←Br,ih];rfl
theorem Jc{l:List Pt}(h:l.length<=1000000000):C8 3 (Bo 3 40) [.ls (l.map eP)] []=Θ (.sl 0 0 l.length 3,[.set (Fp l)]):=by
 unfold C8 Bo;have h4:Ap3 (AS (l.map eP)*40) 140737488355328=Δ:=by
  rw[Aw];simp;omega
 have h1:HI (IH (l.map eP))=Δ:=by rw[E7];exact HK V3 l
 have h2:AO (IH (l.map eP))=Δ:=by rw[E7];exact Lq l
 simp only[LQ Au,h1,h2,h4,Bool.and_true,if_true,Option.map_some];rw[Aw,E7]
theorem P4{n:Nat}(h:n<=1000000000):C8 3 (EP 40) [.v (.slice Ξ 0 0),iv (n:Int)] []=Θ (.sl 0 0 0 3,[.set (Fp [])]):=by
 have h4:Ap3 (n*40) 140737488355328=Δ:=by simp;omega
 show (if Ap3 (n*40) 140737488355328=Δ then Θ (0,([]:List AV)) else Ξ).map _=_
 rw[if_pos h4];rfl
theorem Alf:ZF Pm where
 frm z h:=Ady (SD.frm z h)
 neg z h:=Ahy (SD.neg z h)
 sign z h:=Adz (SD.sign z h)
 of_ n h1 h2:=Ald (SD.of_ n h1 h2)
 cmp a b ha hb:=Ahu (SD.cmp a b ha hb)
 add a b ha hb:=Aht (SD.add a b ha hb)
 mul a b ha hb h:=Ahx (SD.mul a b ha hb h)
theorem AoU:ZdF Pm where
 div a b ha hb:=Ahv (Ale.div a b ha hb)
 exact a b ha hb:=ZZ (Ale.exact a b ha hb)
 gcd a b ha hb:=Ahw (Ale.gcd a b ha hb)
theorem Un:SeatOk υ Bn LG:=Zm ⟨LW,(Yy _),(Yy _),(Yy _),(Yy _),(Yy _),(Yy _),(Yy _),(Yy _),(Yy _),(Yy _),(Yy _),(Yy _),(Yy _),trivial⟩
theorem gSk(f:Nat):Bk (Bu υ f) ((AD Ad LG).ask (.fn f)):=Dg Un f
theorem U5{l:List Pt}(h:l.length<=1000000000)(tl:List AV):FR 3 40 [.sl 0 0 l.length 3] [θ (Ag eP l++tl) Δ Δ]=Θ (.sl 1 0 l.length 3,[.keep,.set (Fp l)]):=by
 have hl:(Ag eP l).length=l.length*3:=AP Au l;have e1:((Ag eP l++tl).drop 0).take (l.length*3)=Ag eP l:=by
  rw[List.drop_zero,←hl,List.take_left' rfl]
 unfold FR;simp only[e1];have h1:Nat.beq 3 3=Δ:=rfl;have h2:Ap3 (0+l.length*3) (Ag eP l++tl).length=Δ:=by
  rw[List.length_append,hl];simp
 have h3:HI (Ag eP l)=Δ:=HK V3 l;have h4:AO (Ag eP l)=Δ:=Lq l;have h5:Ap3 (l.length*40) 140737488355328=Δ:=by simp;omega
 rw[h1,h2,h3,h4,h5]
theorem Yo{l:List Pt}(h:l.length<=1000000000):FR 3 40 [.ls (l.map eP)] []=Θ (.sl 0 0 l.length 3,[.set (Fp l)]):=Jc h
theorem Zu{n k:Nat}{t:Tm}(ht:TmB n k t)(hn:n<=1000000)(hk:k+n<=300000000):Pm.ask (.fn 65) [.agg (eT t)] []=Θ (.tup [.agg (eT (D3 t)),.agg (eZ (Ap (Ck t:Int)))],[]):=by
 have hcp:∀{z:Zi},Lz 1000000000 z->Pm.ask (.fn 138) [.agg (eZ z)] []=Θ (.agg (eZ (Ap (zv z))),[]):=λh=>ZW (Ea AmG SD h)
 have hsort:∀ l:List Pt,l.length<=1000000000->∃ r:List Pt,Pm.ask (.fn 136) [.sl 0 0 l.length 3,Fo] [Fp l]=Θ (.tup [],[.set (Fp r)])/\r.length=l.length/\r.Perm l/\Srt Pt.v r 0 r.length:=λl hl=>by
  obtain⟨r,g,h⟩:=Uu Abz hl;exact⟨r,Adw g,h⟩
 have hdel:∀ l:List Pt,l.length<=1000000000->(∀ p∈l,Lz 1000000000 p.z)->∃ cells:List AV,Pm.ask (.fn 140) [.sl 0 0 l.length 3,fnZ] [θ (Ag eP l) Δ Δ]
   = Θ (.sl 0 0 (l.filter λp=>!decide (zv p.z=0)).length 3,[.set (θ cells Δ Δ)])
   ∧ cells.take ((l.filter λp=>!decide (zv p.z=0)).length*3)=Ag eP (l.filter λp=>!decide (zv p.z=0))/\(l.filter λp=>!decide (zv p.z=0)).length*3<=cells.length:=λl hl hz=>by
  obtain⟨c,g,h⟩:=AlG l hl hz;exact⟨c,Ahk g,h⟩
 have hl:=ht.len;have hb:=ht.lb.pln.tb;have hl2:=hb.len;obtain⟨tl,gn⟩:=Y3 AbA Alf hcp hsort hdel ht hn (by omega) (QM (Yo (by omega)));obtain⟨tl',go⟩:=Y4 AbA Alf hcp hsort hdel hb hn (by omega) (QM (U5 (by omega) tl));rw[BS]at go;have e1:t.lf.pln.tm.ps=(AC t.lf.ps).map AJ:=rfl;have e2:AC t.lf.pln.ps=AC t.lf.ps:=BV (Cw _);have e3:t.lf.pln.tm.k=Ap (zv t.k):=rfl;rw[e2,e1,e3,List.length_map]at go;exact Zt AbA AoU ht hn hk Alf.sign gn go
section
open Go.RowKit
def AeG:MFn:=AY [⟨18,(mB 456),[],[],[(0,([false,false,Δ],([],[]))),(1,((mB 8),([],[])))]⟩] 82
def YE:Hnt:=⟨[],[(0,[(0,([.int .i64],[])),(1,([.int .i64],[]))])],[(10,[.int .i64]),(11,[.int .i64])]⟩
def AiH:MFn:=AY [] 154
def Ah6:Hnt:=⟨[(82,(.int .i64,[])),(84,(.int .i64,[])),(155,(.int .i64,[]))],[],[(6,[.int .i64]),(8,[.int .i64]),(11,AR),(13,AR)]⟩
def Xj:MFn:=AY [⟨39,(mB 14343),[],[],[(0,((mB 64),([],[]))),(1,([Δ,Δ],([],[])))]⟩] 156
def Ts:Hnt:=⟨[(154,(.int .i64,[]))],[(0,[(0,([.int .i64],[])),(1,([.ls,.ls],[]))])],[(16,Bj),(17,Bj),(24,Bj),(25,Bj),(27,Bj),(28,Bj)]⟩
def AmX:MFn:=AY [] 83
def Amm:Hnt:=⟨[(62,(.agg B6,[])),(82,(.int .i64,[])),(155,(.int .i64,[])),(156,(.int .i64,[]))],[],[(6,B6),(8,B6),(11,[.ls]),(13,[.ls]),(17,AR),(19,AR)]⟩
def AmZ:MFn:=AY [] 85
def Amo:Hnt:=⟨[],[],[(4,[.bool])]⟩
def AmO:MFn:=AY [] 25
def Amd:Hnt:=⟨[(82,(.int .i64,[])),(83,(.int .i64,[])),(84,(.int .i64,[])),(85,(.int .i64,[]))],[],[(6,B6),(8,B6),(10,Bx),(12,Bx)]⟩
def AoF:MFn:=AY [] 26
def AmL:MFn:=AY [⟨32,(mB 229382),[],[],[(0,((mB 64),([],[]))),(1,([],([],[])))]⟩] 108
def AoI:MFn:=AY [] 41
def KE:List (Nat × MFn):=[(82,AeG),(154,AiH),(156,Xj),(83,AmX),(85,AmZ),(25,AmO),(26,AoF),(108,AmL),(41,AoI)]
variable (A:Ar) (D:Orc)
theorem e82(x0:Rw):Cm A D Av YE .n 82 AeG [Ψ x0] [] =
 Af D (ApW 82 0) [iv 0,Ψ x0,iv ↑(AS x0),iv 0] [] [.t,.C,.x,.X,.Y] λc l o=>
 br (Bp 0 c)
 (dk [.I,.N,.E] [.l l,.o o] λn=>
 Θ ((iv n,[])))
 (br (Bp 1 c)
 (dk [.I,.N,.E] [.l l,.o o] λn=>
 Θ ((iv n,[])))
 (Ξ)):=by kernel_rfl
theorem AaT(t3:Int)(t6:Rw)(t7 t8:Int):D2 A D Av YE .n 82 0 (AW AeG 0).fst (AW AeG 0).snd [iv t3,Ψ t6,iv t7,iv t8] [] =
 br (A.lt t8 t7)
 (unI t8 λi=>
 BG t6 i λcs=>
 dk [.I,.N] [.l cs] λn=>
 br (A.eq n t3)
 (AK D (ApW 82 0) [iv t3,Ψ t6,iv t7,iv (A.add δ t8 1)] [] λr o=>
 AF 0 [] (AH.mk [] 0 Ξ) [] r o)
 (Θ ((ε [bv Δ,iv n],[]))))
 (Θ ((ε [iv 0,iv t3],[]))):=by kernel_rfl
theorem An9(x0_0:Int)(x0_1:Bool)(x0_2:Rw)(x1_0:Int)(x1_1:Bool)(x1_2:Rw):Cm A D Av Ah6 .n 154 AiH [ω [iv x0_0,bv x0_1,Ψ x0_2],ω [iv x1_0,bv x1_1,Ψ x1_2]] [] =
 Af D (ψ 84) [iv x0_0,iv x1_0] [] [.i,.E] λn=>
 Af D (ψ 155) [ω [bv x0_1,Ψ x0_2],ω [bv x1_1,Ψ x1_2]] [] [.i,.E] λn1=>
 Af D (ψ 82) [Ψ [[iv n],[iv n1]]] [] [.i,.E] λn2=>
 Θ ((iv n2,[])):=by kernel_rfl
theorem Aob(x0 x1:Rw):Cm A D Av Ts .n 156 Xj [Ψ x0,Ψ x1,Ap9 (Fn.func 154) [] []] [] =
 Af D (ApW 156 0) [Ψ x0,Ψ x1,Ap9 (Fn.func 154) [] [],Ψ x0,iv ↑(AS x0),iv 0] [] [.t,.C,.x,.X,.Y] λc l o=>
 br (Bp 0 c)
 (dk [.I,.N,.E] [.l l,.o o] λn=>
 Θ ((iv n,[])))
 (br (Bp 1 c)
 (dk [.L,.L,.N,.E] [.l l,.o o] λxs xs1=>
 br (A.lt ↑(AS xs) ↑(AS xs1))
 (Θ ((iv (-1),[])))
 (Θ ((iv 0,[]))))
 (Ξ)):=by kernel_rfl
theorem AaC(t0 t1 t11:Rw)(t12 t13:Int):D2 A D Av Ts .n 156 0 (AW Xj 0).fst (AW Xj 0).snd [Ψ t0,Ψ t1,Ap9 (Fn.func 154) [] [],Ψ t11,iv t12,iv t13] [] =
 br (A.lt t13 t12)
 (unI t13 λi=>
 BG t11 i λcs=>
 dk [.I,.B,.L,.N] [.l cs] λn b xs=>
 br (A.le (↑(AS t1)) t13)
 (Θ ((ε [bv Δ,iv 1],[])))
 (unI t13 λi1=>
 BG t1 i1 λcs1=>
 dk [.I,.B,.L,.N] [.l cs1] λn1 b1 xs1=>
 Af D (ψ 154) [ω [iv n,bv b,Ψ xs],ω [iv n1,bv b1,Ψ xs1]] [] [.i,.E] λn2=>
 br (A.eq n2 0)
 (AK D (ApW 156 0) [Ψ t0,Ψ t1,Ap9 (Fn.func 154) [] [],Ψ t11,iv t12,iv (A.add δ t13 1)] [] λr1 o1=>
 AF 0 [] (AH.mk [(1,bk [iv n1,bv b1,Ψ xs1]),(0,bk [iv n,bv b,Ψ xs])] 2 Ξ) [] r1 o1)
 (Θ ((ε [bv Δ,iv n2],[])))))
 (Θ ((ε [iv 0,Ψ t0,Ψ t1],[]))):=by kernel_rfl
theorem e83(x0_0:Rw)(x0_1:Bool)(x0_2 x1_0:Rw)(x1_1:Bool)(x1_2:Rw):Cm A D Av Amm .n 83 AmX [ω [Ψ x0_0,bv x0_1,Ψ x0_2],ω [Ψ x1_0,bv x1_1,Ψ x1_2]] [] =
 Af D (ψ 62) [ω [Ψ x0_0,bv x0_1,Ψ x0_2]] [] [.a,.L,.B,.L,.N,.E] λxs b xs1=>
 Af D (ψ 62) [ω [Ψ x1_0,bv x1_1,Ψ x1_2]] [] [.a,.L,.B,.L,.N,.E] λxs2 b1 xs3=>
 Af D (ψ 156) [Ψ xs,Ψ xs2,Ap9 (Fn.func 154) [] []] [] [.i,.E] λn=>
 Af D (ψ 155) [ω [bv b,Ψ xs1],ω [bv b1,Ψ xs3]] [] [.i,.E] λn1=>
 Af D (ψ 82) [Ψ [[iv n],[iv n1]]] [] [.i,.E] λn2=>
 Θ ((iv n2,[])):=by kernel_rfl
theorem e85(x0_0:Rw)(x0_1:Bool)(x0_2:Rw)(x0_3:Bool):Cm A D Av Amo .n 85 AmZ [ω [Ψ x0_0,bv x0_1,Ψ x0_2,bv x0_3]] [] =
 br x0_3
 (Θ ((iv 1,[])))
 (Θ ((iv 0,[]))):=by kernel_rfl
theorem e25(x0_0:Rw)(x0_1:Bool)(x0_2:Rw)(x0_3:Bool)(x1_0:Rw)(x1_1:Bool)(x1_2:Rw)(x1_3:Bool):Cm A D Av Amd .n 25 AmO [ω [Ψ x0_0,bv x0_1,Ψ x0_2,bv x0_3],ω [Ψ x1_0,bv x1_1,Ψ x1_2,bv x1_3]] [] =
 Af D (ψ 83) [ω [Ψ x0_0,bv x0_1,Ψ x0_2],ω [Ψ x1_0,bv x1_1,Ψ x1_2]] [] [.i,.E] λn=>
 Af D (ψ 85) [ω [Ψ x0_0,bv x0_1,Ψ x0_2,bv x0_3]] [] [.i,.E] λn1=>
 Af D (ψ 85) [ω [Ψ x1_0,bv x1_1,Ψ x1_2,bv x1_3]] [] [.i,.E] λn2=>
 Af D (ψ 84) [iv n1,iv n2] [] [.i,.E] λn3=>
 Af D (ψ 82) [Ψ [[iv n],[iv n3]]] [] [.i,.E] λn4=>
 Θ ((iv n4,[])):=by kernel_rfl
end
