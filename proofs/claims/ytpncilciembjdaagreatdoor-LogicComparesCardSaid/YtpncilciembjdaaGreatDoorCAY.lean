/- A seat of D: tables of f -/
import Derived.Test.YtpncilciembjdaaGreatDoorCAX
import Derived.Lib.AppendZeros
set_option linter.all false
open Bool renaming true->Δ
open Nat renaming ble->AtG,le_refl->η
open Option renaming some->Θ
namespace Go.Proofs.YtpncilciembjdaaGreatDoor
noncomputable section
open ABlk renaming mk->δ
open Option.some renaming injEq->φ
open Tryz renaming prog->ι
open Go.RowKit
def Sv:List (List (Nat × MFn)):=[UH]
def Vv:List (Nat × DF):=[(135,Fb 3 40),(145,(A1 Af BW).ask (.fn 145)),(161,(A1 Af BW).ask (.fn 161)),(64,(A1 Af BW).ask (.fn 64)),(126,(A1 Af BW).ask (.fn 126)),(155,(A1 Af BW).ask (.fn 155)),(139,(A1 Af BW).ask (.fn 139)),(158,(A1 Af BW).ask (.fn 158)),(143,(A1 Af BW).ask (.fn 143)),(147,(A1 Af BW).ask (.fn 147)),(66,(A1 Af BW).ask (.fn 66)),(138,(A1 Af BW).ask (.fn 138)),(136,(A1 Af BW).ask (.fn 136)),(140,(A1 Af BW).ask (.fn 140))]
def LZ:Seat:=Fr M0 Sv.flatten Vv
def PA:Orc:=A1 Af LZ
set_option maxRecDepth 100000 in
theorem Aoj:Ga ι Bz Sv:=by
 repeat' first|exact trivial|refine⟨⟨_,_,_,rfl⟩,by kernel_rfl,?_⟩|refine⟨?_,?_⟩
theorem Aoq:(GL Sv&&OQ Sv.flatten Vv)=Δ:=by kernel_rfl
theorem AbU:Knows M0 UH PA:=Bv Aoq (i:=0) rfl
section
variable {args:List AV} {bs:List ABlk} {r:AV × List BO}
theorem Q5(h:(Fb 3 40) args bs=Θ r):PA.ask (.fn 135) args bs=Θ r:=AW rfl h
theorem AdY(h:((A1 Af BW).ask (.fn 145)) args bs=Θ r):PA.ask (.fn 145) args bs=Θ r:=AW rfl h
theorem Aju(h:((A1 Af BW).ask (.fn 161)) args bs=Θ r):PA.ask (.fn 161) args bs=Θ r:=AW rfl h
theorem AdZ(h:((A1 Af BW).ask (.fn 64)) args bs=Θ r):PA.ask (.fn 64) args bs=Θ r:=AW rfl h
theorem An3(h:((A1 Af BW).ask (.fn 126)) args bs=Θ r):PA.ask (.fn 126) args bs=Θ r:=AW rfl h
theorem Ajq(h:((A1 Af BW).ask (.fn 155)) args bs=Θ r):PA.ask (.fn 155) args bs=Θ r:=AW rfl h
theorem Ajp(h:((A1 Af BW).ask (.fn 139)) args bs=Θ r):PA.ask (.fn 139) args bs=Θ r:=AW rfl h
theorem Ajt(h:((A1 Af BW).ask (.fn 158)) args bs=Θ r):PA.ask (.fn 158) args bs=Θ r:=AW rfl h
theorem Z8(h:((A1 Af BW).ask (.fn 143)) args bs=Θ r):PA.ask (.fn 143) args bs=Θ r:=AW rfl h
theorem Ajs(h:((A1 Af BW).ask (.fn 147)) args bs=Θ r):PA.ask (.fn 147) args bs=Θ r:=AW rfl h
theorem Ajr(h:((A1 Af BW).ask (.fn 66)) args bs=Θ r):PA.ask (.fn 66) args bs=Θ r:=AW rfl h
theorem Z6(h:((A1 Af BW).ask (.fn 138)) args bs=Θ r):PA.ask (.fn 138) args bs=Θ r:=AW rfl h
theorem AdW(h:((A1 Af BW).ask (.fn 136)) args bs=Θ r):PA.ask (.fn 136) args bs=Θ r:=AW rfl h
theorem Ajj(h:((A1 Af BW).ask (.fn 140)) args bs=Θ r):PA.ask (.fn 140) args bs=Θ r:=AW rfl h
end
theorem Zz(h:Gb ι Vv):SeatOk ι Bz LZ:=ED PN EB Aoj h
set_option maxRecDepth 100000 in
set_option maxHeartbeats 4000000 in
theorem YM(w:World)(n:Nat)(hby:n*40<=140737488355328) :
  Calls ι 262 #[.slice none 0 0,.int .i64 n] w λe w'=>∃ v',e=.returned v'/\w'.ownsRow w.heap.size 84 3 v' 0 []/\Below w.heap.size w w':=by
 have y0:¬ (n:Int)<0:=by omega
 go_enter Tryz.func262,Tryz.ntmps262
 by_cases h0:n=0
 .subst h0
  go_wp2
  go_ret
  exact⟨_,rfl,World.ownsRow_nil _ _ _ _,Below.refl _ _⟩
 .have y1:(0:Int)<(n:Int):=by omega
  obtain⟨i0,hi0,hz0,hz1,hz2⟩:=info_parts (show (Tryz.prog.info? 84).map (λi=>(i.zero,i.size,i.bytes))=Θ (Θ (.agg #[.int .i64 0,.bool false,.slice none 0 0]),3,40) by kernel_rfl);have hr:=λty=>Lib.run_append_nil_zeros (P:=ι) w 22 3 ty 84 i0 _ .i64 .i64 Tryz.underlying22 Tryz.underlying3 hi0 hz0 n (by omega) (by rw[hz1];decide) (by omega) (by rw[hz2];omega)
  have c1:=grownCap_ge w n 0 84;have c2:=grownCap_le_maxLen w n 0 84 (by unfold maxLen;omega);have HR:=Lib.hid hr;clear hr;generalize grownCap w n 0 84=cap at *
  go_wp2_with (at_builtin;refine Lib.wpList_append_run _ rfl _ _ _ _ rfl _ _ rfl rfl _ _ (HR.out _) ?_)
  go_wp2_with fail
  go_ret
  refine⟨_,rfl,⟨by simp,.inr ⟨w.heap.size,cap,_,rfl,η _,heap_alloc_new _ _,Nat.zero_le _,c2,?_,by simp⟩⟩,?_⟩
  .rw[Array.size_append,size_zeroCells,size_zeroCells]
   show n*3+(cap-n)*3=cap*3
   omega
  .exact(NK (Below.refl _ _)).alloc (η _) _
def DI(B:Nat):List AV->Option (Nat × List AV)
 |[.v (.slice none 0 0),.v (.int .i64 (.ofNat n))]=>if AtG (n*B) 140737488355328=Δ then Θ (0,[]) else none
 |_=>none
theorem IQ:Be (Bk ι 262) (Dj 3 (DI 40)):=by
 refine IP (Cv _ _) 3 _ λargs n cells hr=>?_
 unfold DI at hr;split at hr
 .rename_i k
  split at hr
  .rename_i hk
   simp only[φ,Prod.mk.injEq]at hr;obtain⟨rfl,rfl⟩:=hr;refine⟨rfl,rfl,λμ F w us hF hus=>?_⟩;obtain⟨u,t,rfl,hu,u2,t2,rfl,hu2,ht⟩:=hus;have ht:t2=[]:=ht;subst ht;unfold Rep at hu hu2;rw[hu.1,hu2.1];refine Calls.mono (YM w k (Nat.le_of_ble_eq_true hk)) ?_;rintro e' w' ⟨v',rfl,ho,hb⟩;exact⟨v',rfl,_,[],ho,hb,rfl⟩
  .cases hr
 .cases hr
theorem LQ:∀ l:List Pt,AQ (Ag eP l)=Δ
 |[]=>rfl
 |x::r=>by
  have ih:=LQ r;have h1:Ag eP (x::r)=eP x++Ag eP r:=by simp[Ag]
  rw[h1,BE,List.all_append,←BE,←BE,ih];rfl
theorem NS{l:List Pt}(h:l.length<=1000000000):Dj 3 (BI 3 40) [.ls (l.map eP)] []=Θ (.sl 0 0 l.length 3,[.set (Fx l)]):=by
 unfold Dj BI;have h4:AtG (AI (l.map eP)*40) 140737488355328=Δ:=by
  rw[Ao];simp;omega
 have h1:F8 (EP (l.map eP))=Δ:=by rw[D1];exact Fl V4 l
 have h2:AQ (EP (l.map eP))=Δ:=by rw[D1];exact LQ l
 simp only[E8 Az,h1,h2,h4,Bool.and_true,if_true,Option.map_some];rw[Ao,D1]
theorem YL{n:Nat}(h:n<=1000000000):Dj 3 (DI 40) [.v (.slice none 0 0),iv (n:Int)] []=Θ (.sl 0 0 0 3,[.set (Fx [])]):=by
 have h4:AtG (n*40) 140737488355328=Δ:=by simp;omega
 show (if AtG (n*40) 140737488355328=Δ then Θ (0,([]:List AV)) else none).map _=_
 rw[if_pos h4];rfl
theorem An5:ZF PA where
 frm z h:=AdY (SI.frm z h)
 neg z h:=Aju (SI.neg z h)
 sign z h:=AdZ (SI.sign z h)
 of_ n h1 h2:=An3 (SI.of_ n h1 h2)
 cmp a b ha hb:=Ajq (SI.cmp a b ha hb)
 add a b ha hb:=Ajp (SI.add a b ha hb)
 mul a b ha hb h:=Ajt (SI.mul a b ha hb h)
theorem Ar9:ZdF PA where
 div a b ha hb:=Ajr (An4.div a b ha hb)
 exact a b ha hb:=Z8 (An4.exact a b ha hb)
 gcd a b ha hb:=Ajs (An4.gcd a b ha hb)
theorem Us:SeatOk ι Bz LZ:=Zz ⟨HI,(YJ _),(YJ _),(YJ _),(YJ _),(YJ _),(YJ _),(YJ _),(YJ _),(YJ _),(YJ _),(YJ _),(YJ _),(YJ _),trivial⟩
theorem gSk(f:Nat):Be (Bk ι f) ((A1 Af LZ).ask (.fn f)):=GC Us f
theorem Vc{l:List Pt}(h:l.length<=1000000000)(tl:List AV):Fb 3 40 [.sl 0 0 l.length 3] [δ (Ag eP l++tl) Δ Δ]=Θ (.sl 1 0 l.length 3,[.keep,.set (Fx l)]):=by
 have hl:(Ag eP l).length=l.length*3:=AT Az l;have e1:((Ag eP l++tl).drop 0).take (l.length*3)=Ag eP l:=by
  rw[List.drop_zero,←hl,List.take_left' rfl]
 unfold Fb;simp only[e1];have h1:Nat.beq 3 3=Δ:=rfl;have h2:AtG (0+l.length*3) (Ag eP l++tl).length=Δ:=by
  rw[List.length_append,hl];simp
 have h3:F8 (Ag eP l)=Δ:=Fl V4 l;have h4:AQ (Ag eP l)=Δ:=LQ l;have h5:AtG (l.length*40) 140737488355328=Δ:=by simp;omega
 rw[h1,h2,h3,h4,h5]
theorem Yz{l:List Pt}(h:l.length<=1000000000):Fb 3 40 [.ls (l.map eP)] []=Θ (.sl 0 0 l.length 3,[.set (Fx l)]):=NS h
theorem ZH{n k:Nat}{t:Tm}(ht:TmB n k t)(hn:n<=1000000)(hk:k+n<=300000000):PA.ask (.fn 65) [.agg (eT t)] []=Θ (.tup [.agg (eT (FD t)),.agg (eZ (AD (CQ t:Int)))],[]):=by
 have hcp:∀{z:Zi},Lz 1000000000 z->PA.ask (.fn 138) [.agg (eZ z)] []=Θ (.agg (eZ (AD (zv z))),[]):=λh=>Z6 (Em ApG SI h)
 have hsort:∀ l:List Pt,l.length<=1000000000->∃ r:List Pt,PA.ask (.fn 136) [.sl 0 0 l.length 3,Fw] [Fx l]=Θ (.tup [],[.set (Fx r)])/\r.length=l.length/\r.Perm l/\Srt Pt.v r 0 r.length:=λl hl=>by
  obtain⟨r,g,h⟩:=Uw AbT hl;exact⟨r,AdW g,h⟩
 have hdel:∀ l:List Pt,l.length<=1000000000->(∀ p∈l,Lz 1000000000 p.z)->∃ cells:List AV,PA.ask (.fn 140) [.sl 0 0 l.length 3,fnZ] [δ (Ag eP l) Δ Δ]
   = Θ (.sl 0 0 (l.filter λp=>!decide (zv p.z=0)).length 3,[.set (δ cells Δ Δ)])
   ∧ cells.take ((l.filter λp=>!decide (zv p.z=0)).length*3)=Ag eP (l.filter λp=>!decide (zv p.z=0))/\(l.filter λp=>!decide (zv p.z=0)).length*3<=cells.length:=λl hl hz=>by
  obtain⟨c,g,h⟩:=Aou l hl hz;exact⟨c,Ajj g,h⟩
 have hl:=ht.len;have hb:=ht.lb.pln.tb;have hl2:=hb.len;obtain⟨tl,gn⟩:=Zd AbU An5 hcp hsort hdel ht hn (by omega) (Q5 (Yz (by omega)));obtain⟨tl',go⟩:=Ze AbU An5 hcp hsort hdel hb hn (by omega) (Q5 (Vc (by omega) tl));rw[DC]at go;have e1:t.lf.pln.tm.ps=(Ba t.lf.ps).map AR:=rfl;have e2:Ba t.lf.pln.ps=Ba t.lf.ps:=JP (DU _);have e3:t.lf.pln.tm.k=AD (zv t.k):=rfl;rw[e2,e1,e3,List.length_map]at go;exact ZG AbU Ar9 ht hn hk An5.sign gn go
