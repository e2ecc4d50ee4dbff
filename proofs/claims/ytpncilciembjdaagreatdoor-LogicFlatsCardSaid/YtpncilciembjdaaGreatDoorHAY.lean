/- A seat of D: tables of f -/
import Derived.Test.YtpncilciembjdaaGreatDoorHAX
import Derived.Lib.AppendZeros
set_option linter.all false
open Bool renaming true->Δ
open Nat renaming ble->Awf,le_refl->π
open Option renaming some->Θ
namespace Go.Proofs.YtpncilciembjdaaGreatDoor
noncomputable section
open ABlk renaming mk->θ
open Option.some renaming injEq->ψ
open Tryz renaming prog->Av9
open Go.RowKit
def NM:List (List (Nat × MFn)):=[Vl]
def R8:List (Nat × DF):=[(135,Fu 3 40),(145,(By Ap BW).ask (.fn 145)),(161,(By Ap BW).ask (.fn 161)),(64,(By Ap BW).ask (.fn 64)),(126,(By Ap BW).ask (.fn 126)),(155,(By Ap BW).ask (.fn 155)),(139,(By Ap BW).ask (.fn 139)),(158,(By Ap BW).ask (.fn 158)),(143,(By Ap BW).ask (.fn 143)),(147,(By Ap BW).ask (.fn 147)),(66,(By Ap BW).ask (.fn 66)),(138,(By Ap BW).ask (.fn 138)),(136,(By Ap BW).ask (.fn 136)),(140,(By Ap BW).ask (.fn 140))]
def Ji:Seat:=FK Nm NM.flatten R8
def Gp:Orc:=By Ap Ji
set_option maxRecDepth 100000 in
theorem Am7:Gy Av9 B4 NM:=by
 repeat' first|exact trivial|refine⟨⟨_,_,_,rfl⟩,by kernel_rfl,?_⟩|refine⟨?_,?_⟩
theorem Ane:(G7 NM&&O8 NM.flatten R8)=Δ:=by kernel_rfl
theorem Wu:Knows Nm Vl Gp:=BH Ane (i:=0) rfl
section
variable {args:Ab} {bs:List ABlk} {r:AV × List BO}
theorem PP(h:(Fu 3 40) args bs=Θ r):Gp.ask (.fn 135) args bs=Θ r:=Bq rfl h
theorem AaU(h:((By Ap BW).ask (.fn 145)) args bs=Θ r):Gp.ask (.fn 145) args bs=Θ r:=Bq rfl h
theorem Ae7(h:((By Ap BW).ask (.fn 161)) args bs=Θ r):Gp.ask (.fn 161) args bs=Θ r:=Bq rfl h
theorem AaV(h:((By Ap BW).ask (.fn 64)) args bs=Θ r):Gp.ask (.fn 64) args bs=Θ r:=Bq rfl h
theorem AkQ(h:((By Ap BW).ask (.fn 126)) args bs=Θ r):Gp.ask (.fn 126) args bs=Θ r:=Bq rfl h
theorem Ae3(h:((By Ap BW).ask (.fn 155)) args bs=Θ r):Gp.ask (.fn 155) args bs=Θ r:=Bq rfl h
theorem Ae2(h:((By Ap BW).ask (.fn 139)) args bs=Θ r):Gp.ask (.fn 139) args bs=Θ r:=Bq rfl h
theorem Ae6(h:((By Ap BW).ask (.fn 158)) args bs=Θ r):Gp.ask (.fn 158) args bs=Θ r:=Bq rfl h
theorem Xu(h:((By Ap BW).ask (.fn 143)) args bs=Θ r):Gp.ask (.fn 143) args bs=Θ r:=Bq rfl h
theorem Ae5(h:((By Ap BW).ask (.fn 147)) args bs=Θ r):Gp.ask (.fn 147) args bs=Θ r:=Bq rfl h
theorem Ae4(h:((By Ap BW).ask (.fn 66)) args bs=Θ r):Gp.ask (.fn 66) args bs=Θ r:=Bq rfl h
theorem Xq(h:((By Ap BW).ask (.fn 138)) args bs=Θ r):Gp.ask (.fn 138) args bs=Θ r:=Bq rfl h
theorem AaT(h:((By Ap BW).ask (.fn 136)) args bs=Θ r):Gp.ask (.fn 136) args bs=Θ r:=Bq rfl h
theorem AeU(h:((By Ap BW).ask (.fn 140)) args bs=Θ r):Gp.ask (.fn 140) args bs=Θ r:=Bq rfl h
end
theorem W3(h:GA Av9 R8):SeatOk Av9 B4 Ji:=EU P7 ES Am7 h
set_option maxRecDepth 100000 in
set_option maxHeartbeats 4000000 in
theorem ZG(w:World)(n:Nat)(hby:n*40<=140737488355328) :
  Calls Av9 262 #[.slice none 0 0,.int .i64 n] w λe w'=>∃ v',e=.returned v'/\w'.ownsRow w.heap.size 84 3 v' 0 []/\Below w.heap.size w w':=by
 have y0:¬ (n:Int)<0:=by omega
 go_enter Tryz.func262,Tryz.ntmps262
 by_cases h0:n=0
 .subst h0
  go_wp2
  go_ret
  exact⟨_,rfl,World.ownsRow_nil _ _ _ _,Below.refl _ _⟩
 .have y1:(0:Int)<(n:Int):=by omega
  obtain⟨i0,hi0,hz0,hz1,hz2⟩:=info_parts (show (Tryz.prog.info? 84).map (λi=>(i.zero,i.size,i.bytes))=Θ (Θ (.agg #[.int .i64 0,.bool false,.slice none 0 0]),3,40) by kernel_rfl);have hr:=λty=>Lib.run_append_nil_zeros (P:=Av9) w 22 3 ty 84 i0 _ .i64 .i64 Tryz.underlying22 Tryz.underlying3 hi0 hz0 n (by omega) (by rw[hz1];decide) (by omega) (by rw[hz2];omega)
  have c1:=grownCap_ge w n 0 84;have c2:=grownCap_le_maxLen w n 0 84 (by unfold maxLen;omega);have HR:=Lib.hid hr;clear hr;generalize grownCap w n 0 84=cap at *
  go_wp2_with (at_builtin;refine Lib.wpList_append_run _ rfl _ _ _ _ rfl _ _ rfl rfl _ _ (HR.out _) ?_)
  go_wp2_with fail
  go_ret
  refine⟨_,rfl,⟨by simp,.inr ⟨w.heap.size,cap,_,rfl,π _,heap_alloc_new _ _,Nat.zero_le _,c2,?_,by simp⟩⟩,?_⟩
  .rw[Array.size_append,size_zeroCells,size_zeroCells]
   show n*3+(cap-n)*3=cap*3
   omega
  .exact(N6 (Below.refl _ _)).alloc (π _) _
def D4(B:Nat):Ab->Option (Nat × Ab)
 |[.v (.slice none 0 0),.v (.int .i64 (.ofNat n))]=>if Awf (n*B) 140737488355328=Δ then Θ (0,[]) else none
 |_=>none
theorem I6:BD (BL Av9 262) (DH 3 (D4 40)):=by
 refine I5 (CQ _ _) 3 _ λargs n cells hr=>?_
 unfold D4 at hr;split at hr
 .rename_i k
  split at hr
  .rename_i hk
   simp only[ψ,Prod.mk.injEq]at hr;obtain⟨rfl,rfl⟩:=hr;refine⟨rfl,rfl,λμ F w us hF hus=>?_⟩;obtain⟨u,t,rfl,hu,u2,t2,rfl,hu2,ht⟩:=hus;have ht:t2=[]:=ht;subst ht;unfold Rep at hu hu2;rw[hu.1,hu2.1];refine Calls.mono (ZG w k (Nat.le_of_ble_eq_true hk)) ?_;rintro e' w' ⟨v',rfl,ho,hb⟩;exact⟨v',rfl,_,[],ho,hb,rfl⟩
  .cases hr
 .cases hr
theorem Mc:∀ l:List Pt,Bj (Ao eP l)=Δ
 |[]=>rfl
 |x::r=>by
  have ih:=Mc r;have h1:Ao eP (x::r)=eP x++Ao eP r:=by simp[Ao]
  rw[h1,BZ,List.all_append,←BZ,←BZ,ih];rfl
theorem Od{l:List Pt}(h:l.length<=1000000000):DH 3 (B7 3 40) [.ls (l.map eP)] []=Θ (.sl 0 0 l.length 3,[.set (Ky l)]):=by
 unfold DH B7;have h4:Awf (AT (l.map eP)*40) 140737488355328=Δ:=by
  rw[Al];simp;omega
 have h1:Gv (E8 (l.map eP))=Δ:=by rw[Eo];exact FG WI l
 have h2:Bj (E8 (l.map eP))=Δ:=by rw[Eo];exact Mc l
 simp only[El AU,h1,h2,h4,Bool.and_true,if_true,Option.map_some];rw[Al,Eo]
theorem ZE{n:Nat}(h:n<=1000000000):DH 3 (D4 40) [.v (.slice none 0 0),iv (n:Int)] []=Θ (.sl 0 0 0 3,[.set (Ky [])]):=by
 have h4:Awf (n*40) 140737488355328=Δ:=by simp;omega
 show (if Awf (n*40) 140737488355328=Δ then Θ (0,([]:Ab)) else none).map _=_
 rw[Ac h4];rfl
theorem VQ{l:List Pt}(h:l.length<=1000000000)(tl:Ab):Fu 3 40 [.sl 0 0 l.length 3] [θ (Ao eP l++tl) Δ Δ]=Θ (.sl 1 0 l.length 3,[.keep,.set (Ky l)]):=by
 have hl:(Ao eP l).length=l.length*3:=BC AU l;have e1:((Ao eP l++tl).drop 0).take (l.length*3)=Ao eP l:=by
  rw[List.drop_zero,←hl,List.take_left' rfl]
 unfold Fu;simp only[e1];have h1:Nat.beq 3 3=Δ:=rfl;have h2:Awf (0+l.length*3) (Ao eP l++tl).length=Δ:=by
  rw[List.length_append,hl];simp
 have h3:Gv (Ao eP l)=Δ:=FG WI l;have h4:Bj (Ao eP l)=Δ:=Mc l;have h5:Awf (l.length*40) 140737488355328=Δ:=by simp;omega
 rw[h1,h2,h3,h4,h5]
theorem Zq{l:List Pt}(h:l.length<=1000000000):Fu 3 40 [.ls (l.map eP)] []=Θ (.sl 0 0 l.length 3,[.set (Ky l)]):=Od h
theorem Afa:ZF Gp where
 frm z h:=AaU (Lx.frm z h)
 neg z h:=Ae7 (Lx.neg z h)
 sign z h:=AaV (Lx.sign z h)
 of_ n h1 h2:=AkQ (Lx.of_ n h1 h2)
 cmp a b ha hb:=Ae3 (Lx.cmp a b ha hb)
 add a b ha hb:=Ae2 (Lx.add a b ha hb)
 mul a b ha hb h:=Ae6 (Lx.mul a b ha hb h)
theorem Asz:ZdF Gp where
 div a b ha hb:=Ae4 (Ae9.div a b ha hb)
 exact a b ha hb:=Xu (Ae9.exact a b ha hb)
 gcd a b ha hb:=Ae5 (Ae9.gcd a b ha hb)
theorem SZ:SeatOk Av9 B4 Ji:=W3 ⟨Ik,(LO _),(LO _),(LO _),(LO _),(LO _),(LO _),(LO _),(LO _),(LO _),(LO _),(LO _),(LO _),(LO _),trivial⟩
theorem At3(f:Nat):BD (BL Av9 f) ((By Ap Ji).ask (.fn f)):=GY SZ f
theorem W8{n k:Nat}{t:Tm}(ht:TmB n k t)(hn:n<=20)(hk:k+n<=300000000):Gp.ask (.fn 65) [.agg (eT t)] []=Θ (.tup [.agg (eT (FL t)),.agg (eZ (AQ (Db t:Int)))],[]):=by
 have hcp:∀{z:Zi},Lz 1000000000 z->Gp.ask (.fn 138) [.agg (eZ z)] []=Θ (.agg (eZ (AQ (zv z))),[]):=λh=>Xq (Fw An2 Lx h)
 have hsort:∀ l:List Pt,l.length<=20->∃ r:List Pt,Gp.ask (.fn 136) [.sl 0 0 l.length 3,TU] [Ky l]=Θ (.tup [],[.set (Ky r)])/\r.length=l.length/\r.Perm l/\Srt Pt.v r 0 r.length:=λl hl=>by
  obtain⟨r,g,h⟩:=PD Wt hl;exact⟨r,AaT g,h⟩
 have hdel:∀ l:List Pt,l.length<=1000000000->(∀ p∈l,Lz 1000000000 p.z)->∃ cells:Ab,Gp.ask (.fn 140) [.sl 0 0 l.length 3,fnZ] [θ (Ao eP l) Δ Δ]
   = Θ (.sl 0 0 (l.filter λp=>!decide (zv p.z=0)).length 3,[.set (θ cells Δ Δ)])
   ∧ cells.take ((l.filter λp=>!decide (zv p.z=0)).length*3)=Ao eP (l.filter λp=>!decide (zv p.z=0))/\(l.filter λp=>!decide (zv p.z=0)).length*3<=cells.length:=λl hl hz=>by
  obtain⟨c,g,h⟩:=Anv l hl hz;exact⟨c,AeU g,h⟩
 have hl:=ht.len;have hb:=ht.lb.pln.tb;have hl2:=hb.len;obtain⟨tl,gn⟩:=Z5 Wu Afa hcp hsort hdel ht (by omega) hn (by omega) (PP (Zq (by omega)));obtain⟨tl',go⟩:=Z6 Wu Afa hcp hsort hdel hb (by omega) hn (by omega) (PP (VQ (by omega) tl));rw[Ek]at go;have e1:t.lf.pln.tm.ps=(BB t.lf.ps).map Bg:=rfl;have e2:BB t.lf.pln.ps=BB t.lf.ps:=J4 (DI _);have e3:t.lf.pln.tm.k=AQ (zv t.k):=rfl;rw[e2,e1,e3,List.length_map]at go;exact Aay Wu Asz ht (by omega) hk Afa.sign gn go
