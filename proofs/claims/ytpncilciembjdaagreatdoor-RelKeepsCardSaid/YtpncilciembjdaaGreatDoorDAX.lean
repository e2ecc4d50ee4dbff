/- What term.Plain comes to -/
import Derived.Test.YtpncilciembjdaaGreatDoorDAW
set_option linter.all false
open Bool renaming true->Δ
open List renaming drop_zero->Ap4,filter_congr->Ats,filter_map->AtG,foldl_cons->Arx,length_cons->ο,length_map->Ap1,map_reverse->Atz,mem_cons_of_mem->π,mem_cons_self->ι,mem_map->Aqm,mem_reverse->AtA,pairwise_map->Aso,take_append_drop->AqU
open Option renaming some->Θ
namespace Go.Proofs.YtpncilciembjdaaGreatDoor
noncomputable section
open ABlk renaming mk->θ
open Tryz renaming prog->υ
open Go.RowKit
section
variable {D:Orc} (Kt:Knows MA Uz D) (Z:ZF D) (hcp:∀{z:Zi},Lz 1000000000 z->D.ask (.fn 138) [.agg (eZ z)] []=Θ (.agg (eZ (Ap (zv z))),[]))
 (hsort:∀ l:List Pt,l.length<=1000000000->∃ r:List Pt,D.ask (.fn 136) [.sl 0 0 l.length 3,Fo] [Fp l]=Θ (.tup [],[.set (Fp r)])/\r.length=l.length/\r.Perm l/\Srt Pt.v r 0 r.length)
 (hdel:∀ l:List Pt,l.length<=1000000000->(∀ p∈l,Lz 1000000000 p.z)->∃ cells:List AV,D.ask (.fn 140) [.sl 0 0 l.length 3,fnZ] [θ (Ag eP l) Δ Δ]
   = Θ (.sl 0 0 (l.filter λp=>!decide (zv p.z=0)).length 3,[.set (θ cells Δ Δ)])
   ∧ cells.take ((l.filter λp=>!decide (zv p.z=0)).length*3)=Ag eP (l.filter λp=>!decide (zv p.z=0))/\(l.filter λp=>!decide (zv p.z=0)).length*3<=cells.length)
include Kt Z hcp hsort hdel
theorem Y3{n k:Nat}{t:Tm}(h:TmB n k t)(hn:n<=1000000)(hk:k+n<=900000000)(gc:D.ask (.fn 135) [.ls (t.ps.map eP)] []=Θ (.sl 0 0 t.ps.length 3,[.set (Fp t.ps)])):∃ tl:List AV,D.ask (.fn 62) [.agg (eT t)] []=Θ (.agg [.sl 0 0 (AC t.lf.ps).length 3,bv (Ap (zv t.k)).neg,eN (Ap (zv t.k)).abs],[.set (θ (Ag eP ((AC t.lf.ps).map AJ)++tl) Δ Δ)]):=by
 obtain⟨ps,kz⟩:=t;have hlen:ps.length<=n:=h.len;obtain⟨r,gs,gr,gp,go⟩:=hsort ps (by omega);have gk:=hcp (h.k.mono (show k<=1000000000 by omega));have hzr:∀ p∈r,Lz k p.z:=λp hp=>h.ps p (gp.mem_iff.1 hp)
 have gl:=Qp Kt Z hcp r (k:=k) (by omega) (by omega) hzr [] false [] (Ap (zv kz)).neg ((Ap (zv kz)).abs.map eL) _ 0 [] rfl (by omega) (by simp) (by simp);rw[Ap4]at gl;have hsrt:(r.map pv).Pairwise λa b=>a.1<=b.1:=by
  rw[Aso];exact ES Pt.v go
 have hpl:=Rj hsrt (gp.map pv);generalize hS:(r.map pv).foldl CV []=S at gl hpl;have hsb:∀ p∈((S.map AJ).reverse),Lz 1000000000 p.z:=by
  have key:∀(t s:List (Int × Int)) (j:Nat),(∀ q∈s,InB (k+j) q.2)->(∀ q∈t,InB k q.2)->∀ q∈t.foldl CV s,InB (k+j+t.length) q.2:=by
   intro t
   induction t with
   |nil=>intro s j hs _ q hq;exact hs q hq
   |cons p t ih=>
    intro s j hs ht q hq;have:=ih (CV s p) (j+1) (Hj hs ((ht p (ι ..)).mono (show k<=k+j by omega))) (λq hq=>ht q (π _ hq)) q hq;rw[ο];exact this.mono (by omega)
  intro p hp;rw[AtA,Aqm]at hp;obtain⟨q,hq,rfl⟩:=hp;have:=key (r.map pv) [] 0 (by simp) (λq hq=>by
   rw[Aqm]at hq;obtain⟨p,hp,rfl⟩:=hq;exact(hzr p hp).inb) q (by rw[hS];exact hq)
  rw[Ap1]at this;exact(this.lz).mono (by omega)
 have hSl:S.length<=1000000:=by
  have key:∀(t s:List (Int × Int)),(t.foldl CV s).length<=s.length+t.length:=by
   intro t
   induction t with
   |nil=>intro s;simp
   |cons p t ih=>
    intro s;have:=ih (CV s p);have h2:=Hk s p;rw[Arx,ο];omega
  have:=key (r.map pv) [];rw[hS,Ap1]at this;simp at this;omega
 obtain⟨cells,gd,gt,gle⟩:=hdel (S.map AJ).reverse (by simp;omega) hsb;have hfin:((S.map AJ).reverse).filter (λp=>!decide (zv p.z=0))=(AC (ps.map pv)).map AJ:=by
  rw[←hpl,←Atz,AtG]
  congr 1
  refine Ats λq _=>?_
  show (!decide (zv (Ap q.2)=0))=_
  rw[AU]
 rw[hfin]at gd gt gle;have hce:cells=Ag eP ((AC (ps.map pv)).map AJ)++cells.drop (((AC (ps.map pv)).map AJ).length*3):=by
  rw[←gt,AqU]
 refine⟨cells.drop (((AC (ps.map pv)).map AJ).length*3),?_⟩
 show _=Θ (AV.agg [.sl 0 0 (AC (ps.map pv)).length 3,bv (Ap (zv kz)).neg,eN (Ap (zv kz)).abs],([.set (θ (Ag eP ((AC (ps.map pv)).map AJ)++cells.drop (((AC (ps.map pv)).map AJ).length*3)) Δ Δ)]:List BO))
 rw[←hce];refine AI Kt N1 (AlZ ..) ?_;refine Ab gc ?_;simp only[ND,DK,Aa];refine Ab gs ?_;simp only[ND,DK,Aa];refine Ab gk ?_;simp only[eZ,eN,ND,DK,Aa];rw[show Nat.ble (0+ps.length*3) (Ag eP r).length=Δ from Bb Au r (by omega)];refine Ac ?_;rw[Bw Au r (by omega),←gr];refine Ab gl ?_;simp only[ND,DK,Aa];refine Ab gd ?_;simp only[Ap1,ND,DK,Aa]
theorem Y4{n k:Nat}{t:Tm}(h:TmB n k t)(hn:n<=1000000)(hk:k+n<=900000000){cs:List AV}(gc:D.ask (.fn 135) [.sl 0 0 t.ps.length 3] [θ cs Δ Δ]=Θ (.sl 1 0 t.ps.length 3,[.keep,.set (Fp t.ps)])):∃ tl:List AV,D.ask (.fn 62) [.agg [.sl 0 0 t.ps.length 3,bv t.k.neg,eN t.k.abs]] [θ cs Δ Δ]=Θ (.agg [.sl 1 0 (AC t.lf.ps).length 3,bv (Ap (zv t.k)).neg,eN (Ap (zv t.k)).abs],[.keep,.set (θ (Ag eP ((AC t.lf.ps).map AJ)++tl) Δ Δ)]):=by
 obtain⟨ps,kz⟩:=t;have hlen:ps.length<=n:=h.len;obtain⟨r,gs,gr,gp,go⟩:=hsort ps (by omega);have gk:=hcp (h.k.mono (show k<=1000000000 by omega));have hzr:∀ p∈r,Lz k p.z:=λp hp=>h.ps p (gp.mem_iff.1 hp)
 have gl:=Qp Kt Z hcp r (k:=k) (by omega) (by omega) hzr [] false [] (Ap (zv kz)).neg ((Ap (zv kz)).abs.map eL) _ 0 [] rfl (by omega) (by simp) (by simp);rw[Ap4]at gl;have hsrt:(r.map pv).Pairwise λa b=>a.1<=b.1:=by
  rw[Aso];exact ES Pt.v go
 have hpl:=Rj hsrt (gp.map pv);generalize hS:(r.map pv).foldl CV []=S at gl hpl;have hsb:∀ p∈((S.map AJ).reverse),Lz 1000000000 p.z:=by
  have key:∀(t s:List (Int × Int)) (j:Nat),(∀ q∈s,InB (k+j) q.2)->(∀ q∈t,InB k q.2)->∀ q∈t.foldl CV s,InB (k+j+t.length) q.2:=by
   intro t
   induction t with
   |nil=>intro s j hs _ q hq;exact hs q hq
   |cons p t ih=>
    intro s j hs ht q hq;have:=ih (CV s p) (j+1) (Hj hs ((ht p (ι ..)).mono (show k<=k+j by omega))) (λq hq=>ht q (π _ hq)) q hq;rw[ο];exact this.mono (by omega)
  intro p hp;rw[AtA,Aqm]at hp;obtain⟨q,hq,rfl⟩:=hp;have:=key (r.map pv) [] 0 (by simp) (λq hq=>by
   rw[Aqm]at hq;obtain⟨p,hp,rfl⟩:=hq;exact(hzr p hp).inb) q (by rw[hS];exact hq)
  rw[Ap1]at this;exact(this.lz).mono (by omega)
 have hSl:S.length<=1000000:=by
  have key:∀(t s:List (Int × Int)),(t.foldl CV s).length<=s.length+t.length:=by
   intro t
   induction t with
   |nil=>intro s;simp
   |cons p t ih=>
    intro s;have:=ih (CV s p);have h2:=Hk s p;rw[Arx,ο];omega
  have:=key (r.map pv) [];rw[hS,Ap1]at this;simp at this;omega
 obtain⟨cells,gd,gt,gle⟩:=hdel (S.map AJ).reverse (by simp;omega) hsb;have hfin:((S.map AJ).reverse).filter (λp=>!decide (zv p.z=0))=(AC (ps.map pv)).map AJ:=by
  rw[←hpl,←Atz,AtG]
  congr 1
  refine Ats λq _=>?_
  show (!decide (zv (Ap q.2)=0))=_
  rw[AU]
 rw[hfin]at gd gt gle;have hce:cells=Ag eP ((AC (ps.map pv)).map AJ)++cells.drop (((AC (ps.map pv)).map AJ).length*3):=by
  rw[←gt,AqU]
 refine⟨cells.drop (((AC (ps.map pv)).map AJ).length*3),?_⟩
 show _=Θ (AV.agg [.sl 1 0 (AC (ps.map pv)).length 3,bv (Ap (zv kz)).neg,eN (Ap (zv kz)).abs],([.keep,.set (θ (Ag eP ((AC (ps.map pv)).map AJ)++cells.drop (((AC (ps.map pv)).map AJ).length*3)) Δ Δ)]:List BO))
 rw[←hce];refine AI Kt Abo (Al0 ..) ?_;refine Ab gc ?_;simp only[ND,DK,Aa];refine Ab gs ?_;simp only[ND,DK,Aa];refine Ab gk ?_;simp only[eZ,eN,ND,DK,Aa];rw[show Nat.ble (0+ps.length*3) (Ag eP r).length=Δ from Bb Au r (by omega)];refine Ac ?_;rw[Bw Au r (by omega),←gr];refine Ab gl ?_;simp only[ND,DK,Aa];refine Ab gd ?_;simp only[Ap1,ND,DK,Aa]
end
theorem SY:CloneF Z3 where
 nat l h:=ZT (Il h)
theorem SD:ZF Z3:=AdC Ain Air SY
theorem AjA:DivF Z3 where
 div _ _ ha hal hb hbl:=Aho (Am1 ha hal hb hbl)
theorem Ale:ZdF Z3:=Ai8 Ain Air SY Amz AjA
theorem Uq:SeatOk υ Bn BM:=Zr ⟨EW,GB,(Al8 _),trivial⟩
theorem Yy(f:Nat):Bk (Bu υ f) ((AD Ad BM).ask (.fn f)):=Dg Uq f
theorem AlG(l:List Pt)(hl:l.length<=1000000000)(hz:∀ p∈l,Lz 1000000000 p.z):∃ cells:List AV,Z3.ask (.fn 140) [.sl 0 0 l.length 3,fnZ] [θ (Ag eP l) Δ Δ]
   = Θ (.sl 0 0 (l.filter λp=>!decide (zv p.z=0)).length 3,[.set (θ cells Δ Δ)])
   ∧ cells.take ((l.filter λp=>!decide (zv p.z=0)).length*3)=Ag eP (l.filter λp=>!decide (zv p.z=0))/\(l.filter λp=>!decide (zv p.z=0)).length*3<=cells.length:=
 AaA Abz (λp=>decide (zv p.z=0)) l hl (λp hp=>Qa Abz SD (hz p hp))
def Sk:List (List (Nat × MFn)):=[Uz]
def Vr:List (Nat × DF):=[(135,FR 3 40),(145,(AD Ad BM).ask (.fn 145)),(161,(AD Ad BM).ask (.fn 161)),(64,(AD Ad BM).ask (.fn 64)),(126,(AD Ad BM).ask (.fn 126)),(155,(AD Ad BM).ask (.fn 155)),(139,(AD Ad BM).ask (.fn 139)),(158,(AD Ad BM).ask (.fn 158)),(143,(AD Ad BM).ask (.fn 143)),(147,(AD Ad BM).ask (.fn 147)),(66,(AD Ad BM).ask (.fn 66)),(138,(AD Ad BM).ask (.fn 138)),(136,(AD Ad BM).ask (.fn 136)),(140,(AD Ad BM).ask (.fn 140))]
def LG:Seat:=EI MA Sk.flatten Vr
def Pm:Orc:=AD Ad LG
set_option maxRecDepth 100000 in
theorem Alu:Fu υ Bn Sk:=by
 repeat' first|exact trivial|refine⟨⟨_,_,_,rfl⟩,by kernel_rfl,?_⟩|refine⟨?_,?_⟩
theorem AlC:(D7 Sk&&HD Sk.flatten Vr)=Δ:=by kernel_rfl
theorem AbA:Knows MA Uz Pm:=Be AlC (i:=0) rfl
section
variable {args:List AV} {bs:List ABlk} {r:AV × List BO}
theorem QM(h:(FR 3 40) args bs=Θ r):Pm.ask (.fn 135) args bs=Θ r:=AA rfl h
theorem Ady(h:((AD Ad BM).ask (.fn 145)) args bs=Θ r):Pm.ask (.fn 145) args bs=Θ r:=AA rfl h
theorem Ahy(h:((AD Ad BM).ask (.fn 161)) args bs=Θ r):Pm.ask (.fn 161) args bs=Θ r:=AA rfl h
theorem Adz(h:((AD Ad BM).ask (.fn 64)) args bs=Θ r):Pm.ask (.fn 64) args bs=Θ r:=AA rfl h
theorem Ald(h:((AD Ad BM).ask (.fn 126)) args bs=Θ r):Pm.ask (.fn 126) args bs=Θ r:=AA rfl h
theorem Ahu(h:((AD Ad BM).ask (.fn 155)) args bs=Θ r):Pm.ask (.fn 155) args bs=Θ r:=AA rfl h
theorem Aht(h:((AD Ad BM).ask (.fn 139)) args bs=Θ r):Pm.ask (.fn 139) args bs=Θ r:=AA rfl h
theorem Ahx(h:((AD Ad BM).ask (.fn 158)) args bs=Θ r):Pm.ask (.fn 158) args bs=Θ r:=AA rfl h
theorem ZZ(h:((AD Ad BM).ask (.fn 143)) args bs=Θ r):Pm.ask (.fn 143) args bs=Θ r:=AA rfl h
theorem Ahw(h:((AD Ad BM).ask (.fn 147)) args bs=Θ r):Pm.ask (.fn 147) args bs=Θ r:=AA rfl h
theorem Ahv(h:((AD Ad BM).ask (.fn 66)) args bs=Θ r):Pm.ask (.fn 66) args bs=Θ r:=AA rfl h
theorem ZW(h:((AD Ad BM).ask (.fn 138)) args bs=Θ r):Pm.ask (.fn 138) args bs=Θ r:=AA rfl h
theorem Adw(h:((AD Ad BM).ask (.fn 136)) args bs=Θ r):Pm.ask (.fn 136) args bs=Θ r:=AA rfl h
theorem Ahk(h:((AD Ad BM).ask (.fn 140)) args bs=Θ r):Pm.ask (.fn 140) args bs=Θ r:=AA rfl h
end
theorem Zm(h:Fv υ Vr):SeatOk υ Bn LG:=DX Og DP Alu h
