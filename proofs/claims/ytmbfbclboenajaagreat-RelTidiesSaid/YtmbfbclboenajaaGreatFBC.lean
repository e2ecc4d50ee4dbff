/- slices.Grow of nil over -/
import Derived.Lib.AppendZeros
import Derived.Test.YtmbfbclboenajaaGreatFBB
set_option linter.all false
open Bool renaming true->Δ
open Nat renaming ble->AqZ,le_refl->π
open Option renaming none->Ξ,some->Θ
namespace Go.Proofs.YtmbfbclboenajaaGreat
noncomputable section
open ABlk renaming mk->θ
open AV renaming agg->φ,fn->Arb,ls->Ψ,tup->γ
open IntKind renaming i64->δ
open Key renaming fn->ω,lp->ι
open Option.some renaming injEq->ψ
open Tryz renaming prog->Aq1
open Go.RowKit
set_option maxRecDepth 100000 in
set_option maxHeartbeats 4000000 in
theorem Za(w:World)(n:Nat)(hby:n*40<=140737488355328) :
  Calls Aq1 138 #[.slice Ξ 0 0,.int .i64 n] w λe w'=>∃ v',e=.returned v'/\w'.ownsRow w.heap.size 42 3 v' 0 []/\Below w.heap.size w w':=by
 have y0:¬ (n:Int)<0:=by omega
 go_enter Tryz.func138,Tryz.ntmps138
 by_cases h0:n=0
 .subst h0
  go_wp2
  go_ret
  exact⟨_,rfl,World.ownsRow_nil _ _ _ _,Below.refl _ _⟩
 .have y1:(0:Int)<(n:Int):=by omega
  obtain⟨i0,hi0,hz0,hz1,hz2⟩:=info_parts (show (Tryz.prog.info? 42).map (λi=>(i.zero,i.size,i.bytes))=Θ (Θ (.agg #[.int .i64 0,.bool false,.slice Ξ 0 0]),3,40) by kernel_rfl);have hr:=λty=>Lib.run_append_nil_zeros (P:=Aq1) w 29 3 ty 42 i0 _ .i64 .i64 Tryz.underlying29 Tryz.underlying3 hi0 hz0 n (by omega) (by rw[hz1];decide) (by omega) (by rw[hz2];omega)
  have c1:=grownCap_ge w n 0 42;have c2:=grownCap_le_maxLen w n 0 42 (by unfold maxLen;omega);have HR:=Lib.hid hr;clear hr;generalize grownCap w n 0 42=cap at *
  go_wp2_with (at_builtin;refine Lib.wpList_append_run _ rfl _ _ _ _ rfl _ _ rfl rfl _ _ (HR.out _) ?_)
  go_wp2_with fail
  go_ret
  refine⟨_,rfl,⟨by simp,.inr ⟨w.heap.size,cap,_,rfl,π _,heap_alloc_new _ _,Nat.zero_le _,c2,?_,by simp⟩⟩,?_⟩
  .rw[Array.size_append,size_zeroCells,size_zeroCells]
   show n*3+(cap-n)*3=cap*3
   omega
  .exact(Vv (Below.refl _ _)).alloc (π _) _
def FN(B:Nat):List AV->Option (Nat × List AV)
 |[.v (.slice Ξ 0 0),.v (.int .i64 (.ofNat n))]=>if AqZ (n*B) 140737488355328=Δ then Θ (0,[]) else Ξ
 |_=>Ξ
theorem LK:BS (B5 Aq1 138) (Dz 3 (FN 40)):=by
 refine LI (Dp _ _) 3 _ λargs n cells hr=>?_
 unfold FN at hr;split at hr
 .rename_i k
  split at hr
  .rename_i hk
   simp only[ψ,Prod.mk.injEq]at hr;obtain⟨rfl,rfl⟩:=hr;refine⟨rfl,rfl,λμ F w us hF hus=>?_⟩;obtain⟨u,t,rfl,hu,u2,t2,rfl,hu2,ht⟩:=hus;have ht:t2=[]:=ht;subst ht;unfold Rep at hu hu2;rw[hu.1,hu2.1];refine Calls.mono (Za w k (Nat.le_of_ble_eq_true hk)) ?_;rintro e' w' ⟨v',rfl,ho,hb⟩;exact⟨v',rfl,_,[],ho,hb,rfl⟩
  .cases hr
 .cases hr
theorem LZ:∀ l:List Pt,AU (Ah eP l)=Δ
 |[]=>rfl
 |x::r=>by
  have ih:=LZ r;have h1:Ah eP (x::r)=eP x++Ah eP r:=by simp[Ah]
  rw[h1,BJ,List.all_append,←BJ,←BJ,ih];rfl
theorem Jx{l:List Pt}(h:l.length<=1000000000):Dz 3 (BF 3 40) [.ls (l.map eP)] []=Θ (.sl 0 0 l.length 3,[.set (EB l)]):=by
 unfold Dz BF;have h4:AqZ (AL (l.map eP)*40) 140737488355328=Δ:=by
  rw[Ak];simp;omega
 have h1:Ih (I1 (l.map eP))=Δ:=by rw[Ff];exact Ii WE l
 have h2:AU (I1 (l.map eP))=Δ:=by rw[Ff];exact LZ l
 simp only[My Ax,h1,h2,h4,Bool.and_true,if_true,Option.map_some];rw[Ak,Ff]
theorem Qt{n:Nat}(h:n<=1000000000):Dz 3 (FN 40) [.v (.slice Ξ 0 0),iv (n:Int)] []=Θ (.sl 0 0 0 3,[.set (EB [])]):=by
 have h4:AqZ (n*40) 140737488355328=Δ:=by simp;omega
 show (if AqZ (n*40) 140737488355328=Δ then Θ (0,([]:List AV)) else Ξ).map _=_
 rw[if_pos h4];rfl
theorem Akr:ZF PO where
 frm z h:=Aek (Ta.frm z h)
 neg z h:=Ag9 (Ta.neg z h)
 sign z h:=Ael (Ta.sign z h)
 of_ n h1 h2:=Akp (Ta.of_ n h1 h2)
 cmp a b ha hb:=Ag5 (Ta.cmp a b ha hb)
 add a b ha hb:=Ag4 (Ta.add a b ha hb)
 mul a b ha hb h:=Ag8 (Ta.mul a b ha hb h)
theorem Ape:ZdF PO where
 div a b ha hb:=Ag6 (Akq.div a b ha hb)
 exact a b ha hb:=Aay (Akq.exact a b ha hb)
 gcd a b ha hb:=Ag7 (Akq.gcd a b ha hb)
theorem UU:SeatOk Aq1 BP Mh:=Z3 ⟨Tt,(Y8 _),(Y8 _),(Y8 _),(Y8 _),(Y8 _),(Y8 _),(Y8 _),(Y8 _),(Y8 _),(Y8 _),(Y8 _),(Y8 _),(Y8 _),trivial⟩
theorem gSk(f:Nat):BS (B5 Aq1 f) ((AY Af Mh).ask (.fn f)):=DX UU f
theorem Vz{l:List Pt}(h:l.length<=1000000000)(tl:List AV):GM 3 40 [.sl 0 0 l.length 3] [θ (Ah eP l++tl) Δ Δ]=Θ (.sl 1 0 l.length 3,[.keep,.set (EB l)]):=by
 have hl:(Ah eP l).length=l.length*3:=AT Ax l;have e1:((Ah eP l++tl).drop 0).take (l.length*3)=Ah eP l:=by
  rw[List.drop_zero,←hl,List.take_left' rfl]
 unfold GM;simp only[e1];have h1:Nat.beq 3 3=Δ:=rfl;have h2:AqZ (0+l.length*3) (Ah eP l++tl).length=Δ:=by
  rw[List.length_append,hl];simp
 have h3:Ih (Ah eP l)=Δ:=Ii WE l;have h4:AU (Ah eP l)=Δ:=LZ l;have h5:AqZ (l.length*40) 140737488355328=Δ:=by simp;omega
 rw[h1,h2,h3,h4,h5]
theorem YY{l:List Pt}(h:l.length<=1000000000):GM 3 40 [.ls (l.map eP)] []=Θ (.sl 0 0 l.length 3,[.set (EB l)]):=Jx h
theorem Z9{n k:Nat}{t:Tm}(ht:TmB n k t)(hn:n<=1000000)(hk:k+n<=300000000):PO.ask (.fn 31) [.agg (eT t)] []=Θ (.tup [.agg (eT (DP t)),.agg (eZ (Aq (Cu t:Int)))],[]):=by
 have hcp:∀{z:Zi},Lz 1000000000 z->PO.ask (.fn 62) [.agg (eZ z)] []=Θ (.agg (eZ (Aq (zv z))),[]):=λh=>Aaw (Fh AmB Ta h)
 have hsort:∀ l:List Pt,l.length<=1000000000->∃ r:List Pt,PO.ask (.fn 60) [.sl 0 0 l.length 3,Fv] [EB l]=Θ (.tup [],[.set (EB r)])/\r.length=l.length/\r.Perm l/\Srt Pt.v r 0 r.length:=λl hl=>by
  obtain⟨r,g,h⟩:=U4 Ack hl;exact⟨r,Aej g,h⟩
 have hdel:∀ l:List Pt,l.length<=1000000000->(∀ p∈l,Lz 1000000000 p.z)->∃ cells:List AV,PO.ask (.fn 64) [.sl 0 0 l.length 3,fnZ] [θ (Ah eP l) Δ Δ]
   = Θ (.sl 0 0 (l.filter λp=>!decide (zv p.z=0)).length 3,[.set (θ cells Δ Δ)])
   ∧ cells.take ((l.filter λp=>!decide (zv p.z=0)).length*3)=Ah eP (l.filter λp=>!decide (zv p.z=0))/\(l.filter λp=>!decide (zv p.z=0)).length*3<=cells.length:=λl hl hz=>by
  obtain⟨c,g,h⟩:=AkT l hl hz;exact⟨c,Ag0 g,h⟩
 have hl:=ht.len;have hb:=ht.lb.pln.tb;have hl2:=hb.len;obtain⟨tl,gn⟩:=ZE Acl Akr hcp hsort hdel ht hn (by omega) (Rk (YY (by omega)));obtain⟨tl',go⟩:=ZG Acl Akr hcp hsort hdel hb hn (by omega) (Rk (Vz (by omega) tl));rw[BE]at go;have e1:t.lf.pln.tm.ps=(AO t.lf.ps).map AP:=rfl;have e2:AO t.lf.pln.ps=AO t.lf.ps:=B7 (C5 _);have e3:t.lf.pln.tm.k=Aq (zv t.k):=rfl;rw[e2,e1,e3,List.length_map]at go;exact Z8 Acl Ape ht hn hk Akr.sign gn go
section
open Go.RowKit
def Afr:MFn:=BI [⟨18,(mB 456),[],[],[(0,([false,false,Δ],([],[]))),(1,((mB 8),([],[])))]⟩] 45
def Ze:Hnt:=⟨[],[(0,[(0,([.int .i64],[])),(1,([.int .i64],[]))])],[(10,[.int .i64]),(11,[.int .i64])]⟩
def Ans:MFn:=BI [] 89
def Ama:Hnt:=⟨[(41,(.int .i64,[])),(45,(.int .i64,[])),(47,(.int .i64,[]))],[],[(6,[.int .i64]),(8,[.int .i64]),(11,Ay),(13,Ay)]⟩
def AfA:MFn:=BI [⟨39,(mB 14343),[],[],[(0,((mB 64),([],[]))),(1,([Δ,Δ],([],[])))]⟩] 90
def Ab8:Hnt:=⟨[(89,(.int .i64,[]))],[(0,[(0,([.int .i64],[])),(1,([.ls,.ls],[]))])],[(16,Br),(17,Br),(24,Br),(25,Br),(27,Br),(28,Br)]⟩
def Am4:MFn:=BI [] 46
def AlM:Hnt:=⟨[(26,(.agg Bl,[])),(41,(.int .i64,[])),(45,(.int .i64,[])),(90,(.int .i64,[]))],[],[(6,Bl),(8,Bl),(11,[.ls]),(13,[.ls]),(17,Ay),(19,Ay)]⟩
def Am6:MFn:=BI [] 48
def AlO:Hnt:=⟨[],[],[(4,[.bool])]⟩
def AmJ:MFn:=BI [] 16
def Alr:Hnt:=⟨[(45,(.int .i64,[])),(46,(.int .i64,[])),(47,(.int .i64,[])),(48,(.int .i64,[]))],[],[(6,Bl),(8,Bl),(10,B1),(12,B1)]⟩
def Ld:List (Nat × MFn):=[(45,Afr),(89,Ans),(90,AfA),(46,Am4),(48,Am6),(16,AmJ)]
variable (A:Ar) (D:Orc)
theorem e45(x0:Rw):BN A D Al Ze .n 45 Afr [Ψ x0] [] =
 Ae D (ι 45 0) [iv 0,Ψ x0,iv ↑(AL x0),iv 0] [] [.t,.C,.x,.X,.Y] λc l o=>
 br (Bm 0 c)
 (dk [.I,.N,.E] [.l l,.o o] λn=>
 Θ ((iv n,[])))
 (br (Bm 1 c)
 (dk [.I,.N,.E] [.l l,.o o] λn=>
 Θ ((iv n,[])))
 (Ξ)):=by kernel_rfl
theorem Aby(t3:Int)(t6:Rw)(t7 t8:Int):CS A D Al Ze .n 45 0 (AJ Afr 0).fst (AJ Afr 0).snd [iv t3,Ψ t6,iv t7,iv t8] [] =
 br (A.lt t8 t7)
 (unI t8 λi=>
 Bj t6 i λcs=>
 dk [.I,.N] [.l cs] λn=>
 br (A.eq n t3)
 (AA D (ι 45 0) [iv t3,Ψ t6,iv t7,iv (A.add δ t8 1)] [] λr o=>
 As 0 [] (AH.mk [] 0 Ξ) [] r o)
 (Θ ((γ [bv Δ,iv n],[]))))
 (Θ ((γ [iv 0,iv t3],[]))):=by kernel_rfl
theorem e89(x0_0:Int)(x0_1:Bool)(x0_2:Rw)(x1_0:Int)(x1_1:Bool)(x1_2:Rw):BN A D Al Ama .n 89 Ans [φ [iv x0_0,bv x0_1,Ψ x0_2],φ [iv x1_0,bv x1_1,Ψ x1_2]] [] =
 Ae D (ω 47) [iv x0_0,iv x1_0] [] [.i,.E] λn=>
 Ae D (ω 41) [φ [bv x0_1,Ψ x0_2],φ [bv x1_1,Ψ x1_2]] [] [.i,.E] λn1=>
 Ae D (ω 45) [Ψ [[iv n],[iv n1]]] [] [.i,.E] λn2=>
 Θ ((iv n2,[])):=by kernel_rfl
theorem e90(x0 x1:Rw):BN A D Al Ab8 .n 90 AfA [Ψ x0,Ψ x1,Arb (Fn.func 89) [] []] [] =
 Ae D (ι 90 0) [Ψ x0,Ψ x1,Arb (Fn.func 89) [] [],Ψ x0,iv ↑(AL x0),iv 0] [] [.t,.C,.x,.X,.Y] λc l o=>
 br (Bm 0 c)
 (dk [.I,.N,.E] [.l l,.o o] λn=>
 Θ ((iv n,[])))
 (br (Bm 1 c)
 (dk [.L,.L,.N,.E] [.l l,.o o] λxs xs1=>
 br (A.lt ↑(AL xs) ↑(AL xs1))
 (Θ ((iv (-1),[])))
 (Θ ((iv 0,[]))))
 (Ξ)):=by kernel_rfl
theorem Ahs(t0 t1 t11:Rw)(t12 t13:Int):CS A D Al Ab8 .n 90 0 (AJ AfA 0).fst (AJ AfA 0).snd [Ψ t0,Ψ t1,Arb (Fn.func 89) [] [],Ψ t11,iv t12,iv t13] [] =
 br (A.lt t13 t12)
 (unI t13 λi=>
 Bj t11 i λcs=>
 dk [.I,.B,.L,.N] [.l cs] λn b xs=>
 br (A.le (↑(AL t1)) t13)
 (Θ ((γ [bv Δ,iv 1],[])))
 (unI t13 λi1=>
 Bj t1 i1 λcs1=>
 dk [.I,.B,.L,.N] [.l cs1] λn1 b1 xs1=>
 Ae D (ω 89) [φ [iv n,bv b,Ψ xs],φ [iv n1,bv b1,Ψ xs1]] [] [.i,.E] λn2=>
 br (A.eq n2 0)
 (AA D (ι 90 0) [Ψ t0,Ψ t1,Arb (Fn.func 89) [] [],Ψ t11,iv t12,iv (A.add δ t13 1)] [] λr1 o1=>
 As 0 [] (AH.mk [(1,bk [iv n1,bv b1,Ψ xs1]),(0,bk [iv n,bv b,Ψ xs])] 2 Ξ) [] r1 o1)
 (Θ ((γ [bv Δ,iv n2],[])))))
 (Θ ((γ [iv 0,Ψ t0,Ψ t1],[]))):=by kernel_rfl
theorem e46(x0_0:Rw)(x0_1:Bool)(x0_2 x1_0:Rw)(x1_1:Bool)(x1_2:Rw):BN A D Al AlM .n 46 Am4 [φ [Ψ x0_0,bv x0_1,Ψ x0_2],φ [Ψ x1_0,bv x1_1,Ψ x1_2]] [] =
 Ae D (ω 26) [φ [Ψ x0_0,bv x0_1,Ψ x0_2]] [] [.a,.L,.B,.L,.N,.E] λxs b xs1=>
 Ae D (ω 26) [φ [Ψ x1_0,bv x1_1,Ψ x1_2]] [] [.a,.L,.B,.L,.N,.E] λxs2 b1 xs3=>
 Ae D (ω 90) [Ψ xs,Ψ xs2,Arb (Fn.func 89) [] []] [] [.i,.E] λn=>
 Ae D (ω 41) [φ [bv b,Ψ xs1],φ [bv b1,Ψ xs3]] [] [.i,.E] λn1=>
 Ae D (ω 45) [Ψ [[iv n],[iv n1]]] [] [.i,.E] λn2=>
 Θ ((iv n2,[])):=by kernel_rfl
theorem e48(x0_0:Rw)(x0_1:Bool)(x0_2:Rw)(x0_3:Bool):BN A D Al AlO .n 48 Am6 [φ [Ψ x0_0,bv x0_1,Ψ x0_2,bv x0_3]] [] =
 br x0_3
 (Θ ((iv 1,[])))
 (Θ ((iv 0,[]))):=by kernel_rfl
theorem e16(x0_0:Rw)(x0_1:Bool)(x0_2:Rw)(x0_3:Bool)(x1_0:Rw)(x1_1:Bool)(x1_2:Rw)(x1_3:Bool):BN A D Al Alr .n 16 AmJ [φ [Ψ x0_0,bv x0_1,Ψ x0_2,bv x0_3],φ [Ψ x1_0,bv x1_1,Ψ x1_2,bv x1_3]] [] =
 Ae D (ω 46) [φ [Ψ x0_0,bv x0_1,Ψ x0_2],φ [Ψ x1_0,bv x1_1,Ψ x1_2]] [] [.i,.E] λn=>
 Ae D (ω 48) [φ [Ψ x0_0,bv x0_1,Ψ x0_2,bv x0_3]] [] [.i,.E] λn1=>
 Ae D (ω 48) [φ [Ψ x1_0,bv x1_1,Ψ x1_2,bv x1_3]] [] [.i,.E] λn2=>
 Ae D (ω 47) [iv n1,iv n2] [] [.i,.E] λn3=>
 Ae D (ω 45) [Ψ [[iv n],[iv n3]]] [] [.i,.E] λn4=>
 Θ ((iv n4,[])):=by kernel_rfl
end
