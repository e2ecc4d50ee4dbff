/- slices.Grow of nil over -/
import Derived.Lib.AppendZeros
import Derived.Test.YtpncilciembjdaaGreatDoorBBF
set_option linter.all false
open Nat renaming ble->Apa,le_refl->φ
namespace Go.Proofs.YtpncilciembjdaaGreatDoor
open ABlk renaming mk->Ξ
open Option.some renaming injEq->δ
open Tryz renaming prog->ψ
open Go.RowKit
set_option maxRecDepth 100000 in
set_option maxHeartbeats 4000000 in
theorem Vj(w:World)(n:Nat)(hby:n*40<=140737488355328) :
  Calls ψ 262 #[.slice none 0 0,.int .i64 n] w λe w'=>∃ v',e=.returned v'/\w'.ownsRow w.heap.size 84 3 v' 0 []/\Below w.heap.size w w':=by
 have y0:¬ (n:Int)<0:=by omega
 go_enter Tryz.func262,Tryz.ntmps262
 by_cases h0:n=0
 .subst h0
  go_wp2
  go_ret
  exact⟨_,rfl,World.ownsRow_nil _ _ _ _,Below.refl _ _⟩
 .have y1:(0:Int)<(n:Int):=by omega
  obtain⟨i0,hi0,hz0,hz1,hz2⟩:=info_parts (show (Tryz.prog.info? 84).map (λi=>(i.zero,i.size,i.bytes))=some (some (.agg #[.int .i64 0,.bool false,.slice none 0 0]),3,40) by kernel_rfl);have hr:=λty=>Lib.run_append_nil_zeros (P:=ψ) w 22 3 ty 84 i0 _ .i64 .i64 Tryz.underlying22 Tryz.underlying3 hi0 hz0 n (by omega) (by rw[hz1];decide) (by omega) (by rw[hz2];omega)
  have c1:=grownCap_ge w n 0 84;have c2:=grownCap_le_maxLen w n 0 84 (by unfold maxLen;omega);have HR:=Lib.hid hr;clear hr;generalize grownCap w n 0 84=cap at *
  go_wp2_with (at_builtin;refine Lib.wpList_append_run _ rfl _ _ _ _ rfl _ _ rfl rfl _ _ (HR.out _) ?_)
  go_wp2_with fail
  go_ret
  refine⟨_,rfl,⟨by simp,.inr ⟨w.heap.size,cap,_,rfl,φ _,heap_alloc_new _ _,Nat.zero_le _,c2,?_,by simp⟩⟩,?_⟩
  .rw[Array.size_append,size_zeroCells,size_zeroCells]
   show n*3+(cap-n)*3=cap*3
   omega
  .exact(R7 (Below.refl _ _)).alloc (φ _) _
def DL(B:Nat):List AV->Option (Nat × List AV)
 |[.v (.slice none 0 0),.v (.int .i64 (.ofNat n))]=>if Apa (n*B) 140737488355328=true then some (0,[]) else none
 |_=>none
theorem Ju:AW (Ba ψ 262) (Cg 3 (DL 40)):=by
 refine Jt (Dj _ _) 3 _ λargs n cells hr=>?_
 unfold DL at hr;split at hr
 .rename_i k
  split at hr
  .rename_i hk
   simp only[δ,Prod.mk.injEq]at hr;obtain⟨rfl,rfl⟩:=hr;refine⟨rfl,rfl,λμ F w us hF hus=>?_⟩;obtain⟨u,t,rfl,hu,u2,t2,rfl,hu2,ht⟩:=hus;have ht:t2=[]:=ht;subst ht;unfold Rep at hu hu2;rw[hu.1,hu2.1];refine Calls.mono (Vj w k (Nat.le_of_ble_eq_true hk)) ?_;rintro e' w' ⟨v',rfl,ho,hb⟩;exact⟨v',rfl,_,[],ho,hb,rfl⟩
  .cases hr
 .cases hr
theorem JF:∀ l:List Pt,AZ (Ai eP l)=true
 |[]=>rfl
 |x::r=>by
  have ih:=JF r;have h1:Ai eP (x::r)=eP x++Ai eP r:=by simp[Ai]
  rw[h1,BA,List.all_append,←BA,←BA,ih];rfl
theorem LU{l:List Pt}(h:l.length<=1000000000):Cg 3 (Bk 3 40) [.ls (l.map eP)] []=some (.sl 0 0 l.length 3,[.set (D8 l)]):=by
 unfold Cg Bk;have h4:Apa (AF (l.map eP)*40) 140737488355328=true:=by
  rw[Aj];simp;omega
 have h1:GI (Hj (l.map eP))=true:=by rw[EA];exact GJ S5 l
 have h2:AZ (Hj (l.map eP))=true:=by rw[EA];exact JF l
 simp only[JX Au,h1,h2,h4,Bool.and_true,if_true,Option.map_some];rw[Aj,EA]
theorem Vi{n:Nat}(h:n<=1000000000):Cg 3 (DL 40) [.v (.slice none 0 0),iv (n:Int)] []=some (.sl 0 0 0 3,[.set (D8 [])]):=by
 have h4:Apa (n*40) 140737488355328=true:=by simp;omega
 show (if Apa (n*40) 140737488355328=true then some (0,([]:List AV)) else none).map _=_
 rw[if_pos h4];rfl
theorem Ajl:ZF Nq where
 frm z h:=ZZ (P4.frm z h)
 neg z h:=Afi (P4.neg z h)
 sign z h:=Z0 (P4.sign z h)
 of_ n h1 h2:=Ajj (P4.of_ n h1 h2)
 cmp a b ha hb:=Afe (P4.cmp a b ha hb)
 add a b ha hb:=Afd (P4.add a b ha hb)
 mul a b ha hb h:=Afh (P4.mul a b ha hb h)
theorem AnZ:ZdF Nq where
 div a b ha hb:=Aff (Ajk.div a b ha hb)
 exact a b ha hb:=Ww (Ajk.exact a b ha hb)
 gcd a b ha hb:=Afg (Ajk.gcd a b ha hb)
theorem Rs:SeatOk ψ Bb GQ:=V4 J1 (Vg _) (Vg _) (Vg _) (Vg _) (Vg _) (Vg _) (Vg _) (Vg _) (Vg _) (Vg _) (Vg _) (Vg _) (Vg _)
theorem gSk(f:Nat):AW (Ba ψ f) ((AC Ag GQ).ask (.fn f)):=Fz Rs f
theorem Sd{l:List Pt}(h:l.length<=1000000000)(tl:List AV):DU 3 40 [.sl 0 0 l.length 3] [Ξ (Ai eP l++tl) true true]=some (.sl 1 0 l.length 3,[.keep,.set (D8 l)]):=by
 have hl:(Ai eP l).length=l.length*3:=AT Au l;have e1:((Ai eP l++tl).drop 0).take (l.length*3)=Ai eP l:=by
  rw[List.drop_zero,←hl,List.take_left' rfl]
 unfold DU;simp only[e1];have h1:Nat.beq 3 3=true:=rfl;have h2:Apa (0+l.length*3) (Ai eP l++tl).length=true:=by
  rw[List.length_append,hl];simp
 have h3:GI (Ai eP l)=true:=GJ S5 l;have h4:AZ (Ai eP l)=true:=JF l;have h5:Apa (l.length*40) 140737488355328=true:=by simp;omega
 rw[h1,h2,h3,h4,h5]
theorem U9{l:List Pt}(h:l.length<=1000000000):DU 3 40 [.ls (l.map eP)] []=some (.sl 0 0 l.length 3,[.set (D8 l)]):=LU h
theorem V9{n k:Nat}{t:Tm}(ht:TmB n k t)(hn:n<=1000000)(hk:k+n<=300000000):Nq.ask (.fn 65) [.agg (eT t)] []=some (.tup [.agg (eT (EJ t)),.agg (eZ (Az (CB t:Int)))],[]):=by
 have hcp:∀{z:Zi},Lz 1000000000 z->Nq.ask (.fn 138) [.agg (eZ z)] []=some (.agg (eZ (Az (zv z))),[]):=λh=>Wt (EC Ak6 P4 h)
 have hsort:∀ l:List Pt,l.length<=1000000000->∃ r:List Pt,Nq.ask (.fn 136) [.sl 0 0 l.length 3,EO] [D8 l]=some (.tup [],[.set (D8 r)])/\r.length=l.length/\r.Perm l/\Srt Pt.v r 0 r.length:=λl hl=>by
  obtain⟨r,g,h⟩:=Ry Yi hl;exact⟨r,ZY g,h⟩
 have hdel:∀ l:List Pt,l.length<=1000000000->(∀ p∈l,Lz 1000000000 p.z)->∃ cells:List AV,Nq.ask (.fn 140) [.sl 0 0 l.length 3,fnZ] [Ξ (Ai eP l) true true]
   = some (.sl 0 0 (l.filter λp=>!decide (zv p.z=0)).length 3,[.set (Ξ cells true true)])
   ∧ cells.take ((l.filter λp=>!decide (zv p.z=0)).length*3)=Ai eP (l.filter λp=>!decide (zv p.z=0))/\(l.filter λp=>!decide (zv p.z=0)).length*3<=cells.length:=λl hl hz=>by
  obtain⟨c,g,h⟩:=Aju l hl hz;exact⟨c,Ae5 g,h⟩
 have hl:=ht.len;have hb:=ht.lb.pln.tb;have hl2:=hb.len;obtain⟨tl,gn⟩:=VH Yj Ajl hcp hsort hdel ht hn (by omega) (OK (U9 (by omega)));obtain⟨tl',go⟩:=VI Yj Ajl hcp hsort hdel hb hn (by omega) (OK (Sd (by omega) tl));rw[Dc]at go;have e1:t.lf.pln.tm.ps=(A8 t.lf.ps).map AO:=rfl;have e2:A8 t.lf.pln.ps=A8 t.lf.ps:=Ij (CZ _);have e3:t.lf.pln.tm.k=Az (zv t.k):=rfl;rw[e2,e1,e3,List.length_map]at go;exact V8 Yj AnZ ht hn hk Ajl.sign gn go
end Go.Proofs.YtpncilciembjdaaGreatDoor
