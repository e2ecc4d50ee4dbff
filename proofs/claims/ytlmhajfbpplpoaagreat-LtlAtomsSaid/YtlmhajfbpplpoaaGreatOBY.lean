/- The contracts that hand- -/
import Derived.Test.YtlmhajfbpplpoaaGreatOBX
import Derived.Test.YtlmhajfbpplpoaaGreatOBU
import Derived.Test.YtlmhajfbpplpoaaGreatOAD
import Derived.Test.YtlmhajfbpplpoaaGreatOBH
import Derived.ProofKit
set_option linter.all false
open List renaming drop_zero->π
open Nat renaming ble->ApA
namespace Go.Proofs.YtlmhajfbpplpoaaGreat
open ABlk renaming mk->Δ
open Go.Proofs.Tryz renaming prog->φ
open Go.RowKit
theorem Aov:Bo (BH φ 91) (CG Oj):=Ad3 164 λs w hs=>(AdA s w hs).mono λe w' h=>by
 unfold Ze at h;unfold Qu;exact h
theorem AaF:Bo (BH φ 109) (CG Cy):=Aax λs w hs=>Abv s w hs
theorem Q3:Bo (BH φ 108) (CG BN):=UB λs w hs=>Jw s w hs
theorem AaG:Bo (BH φ 22) (CG E8):=R7 AaF Q3
section
open Go.RowKit
theorem gAz(f:Nat):Bo (BH φ f) ((Dn Af CH 200).ask (.fn f)):=(QT (YC Aov AaF Q3 AaG) 200).1 f
set_option maxRecDepth 1000000
theorem Al3:(Dn Af CH 200).ask (.fn 32) [sv (Ax s41),.agg (Jm Fo)] []=some (.tup [.agg (B7 q4),.agg [iv 0,iv 0],iv 0],[]):=by kernel_rfl
theorem Al4:(Dn Af CH 200).ask (.fn 32) [sv (Ax s42),.agg (Jm Fo)] []=some (.tup [.agg (B7 T0),.agg [iv 1,iv 8],iv 101],[]):=by kernel_rfl
theorem Al5:(Dn Af CH 200).ask (.fn 32) [sv (Ax s43),.agg (Jm Fo)] []=some (.tup [.agg (B7 T0),.agg [iv 1,iv 4],iv 110],[]):=by kernel_rfl
theorem Aen:(Dn Af CH 200).ask (.fn 38) [.agg (B7 q4)] []=some (sv (Ax s41),[]):=by kernel_rfl
theorem Aa6:(Dn Af CH 200).ask (.fn 36) [.agg (B7 q4)] []=some (bv true,[]):=by kernel_rfl
end
section
variable {D:Orc}
theorem U3(Kq:Knows Al TI D)(ps:List Pr)(hp:ps.length<=1000000):∀(n i:Nat) (out:List ByteArray),ps.length-i=n->out.length+n<=1000000->D.ask (.lp 232 0) [.sl 0 0 out.length 1,.ls (ps.map Y9),iv (ps.length:Int),iv (i:Int)] [Δ (Ap eS out) true true]
  = some (.tup [iv 0,.sl 1 0 (out++(ps.drop i).map (·.name)).length 1],[.del,.set (Δ (Ap eS (out++(ps.drop i).map (·.name))) true true)]):=by
 intro n
 induction n with
 |zero=>
  intro i out hi ho;refine Kq.lp' SB _ rfl (by kernel_rfl) ((Aac ..).trans ?_);rw[show ps.drop i=[] from List.drop_eq_nil_of_le (by omega),List.map_nil,List.append_nil];refine Ah (by omega) ?_;rfl
 |succ n ih=>
  intro i out hi ho;have hlt:i<ps.length:=by omega
  have ih:=ih (i+1) (out++[ps[i].name]) (by omega) (by simp;omega);rw[show ps.drop i=ps[i]::ps.drop (i+1) from List.drop_eq_getElem_cons hlt];rw[List.append_assoc,List.length_append,List.length_singleton]at ih;refine Kq.lp' SB _ rfl (by kernel_rfl) ((Aac ..).trans ?_);refine Ai (by omega) ?_;rw[Aw,Au (List.getElem?_eq_getElem hlt)];have hf:Bf (out.length+1) 16=true:=AJ (by omega) (by omega);have hb1:ApA (0+out.length*1) (Ap eS out).length=true:=AS MR out (by omega);have e3:∀ s,List.drop 0 (List.take (0+out.length*1) (Ap eS out))++[sv s]=Ap eS (out++[s]):=λs=>by
   rw[π,A4 MR out (by omega)];exact A6 eS out s
  simp only[Y9,ND,DK,Aa];rw[A8 (by omega),hf,hb1,e3];refine Ac ?_;refine Ac ?_;refine Ab ih ?_;rfl
theorem U4(Kq:Knows Al TI D)(y:Sy)(hp:y.ps.length<=1000000):D.ask (.fn 232) [.agg (Jm y)] []=some (.ls ((y.ps.map (·.name)).map eS),[]):=by
 refine Kq.fn' SB _ rfl ((An4 ..).trans ?_);rw[Ao];have g:=U3 Kq y.ps hp _ 0 [] rfl (by simpa using hp);refine Ab g ?_;simp only[ND,DK,Aa,π,List.nil_append];rw[AS MR _ (by omega)];refine Ac ?_;rw[Cf MR _ rfl]
end
theorem PX:∀ l:List Pt,AW (Ap eP l)=true
 |[]=>rfl
 |x::r=>by
  have ih:=PX r;have h1:Ap eP (x::r)=eP x++Ap eP r:=by simp[Ap]
  rw[h1,Bt,List.all_append,←Bt,←Bt,ih];rfl
theorem Uj{l:List Pt}(h:l.length<=1000000000):Fk 3 (B8 3 40) [.ls (l.map eP)] []=some (.sl 0 0 l.length 3,[.set (G9 l)]):=by
 unfold Fk B8;have h4:ApA (AQ (l.map eP)*40) 140737488355328=true:=by
  rw[Ao];simp;omega
 have h1:J9 (IP (l.map eP))=true:=by rw[EU];exact Kb AbI l
 have h2:AW (IP (l.map eP))=true:=by rw[EU];exact PX l
 simp only[IM Az,h1,h2,h4,Bool.and_true,if_true,Option.map_some];rw[Ao,EU]
theorem XH{n:Nat}(h:n<=1000000000):Fk 3 (GP 40) [.v (.slice none 0 0),iv (n:Int)] []=some (.sl 0 0 0 3,[.set (G9 [])]):=by
 have h4:ApA (n*40) 140737488355328=true:=by simp;omega
 show (if ApA (n*40) 140737488355328=true then some (0,([]:List AV)) else none).map _=_
 rw[if_pos h4];rfl
theorem Abh:LexN OQ where
 name s hs:=AfV (by unfold CG Cy;simp only[sv,hs,if_true];rfl)
 num s hs:=Y4 (by unfold CG BN;simp only[sv,hs,if_true];rfl)
theorem ZD:CloneF OQ where
 nat l h:=Y2 (Xr h)
theorem WD:PartF OQ where
 clone l h:=Y3 (Uj h)
 grow n h:=AcU (XH h)
theorem AmI:ZF OQ:=AmJ AlQ Al2 ZD
theorem Eo:SeatOk φ Bb Ci:=YD AaF Q3 Xs Ul XJ
theorem Aj2:ResF DRv where
 form vars t hv hz:=AfU (Ac9 Ahs AlZ Ahq AmI WD Ahp AlO Aho Ahr Abh vars hv t hz)
 same x y cx cy fx fy:=AfW (AaC Ahs Ahq AmI WD Ahp AlP (by omega) (by omega) _ x y (Nat.lt_succ_self _) fx fy cx cy)
 index xs s h:=AcV (F5 Aho xs h s)
 procs y h:=AcX (U4 AlR y h)
 right t hz hp:=AcZ (XX Al0 Ahr Abh t hz hp)
theorem Tu:SeatOk φ Bb GR:=YE (D8 Eo _) (D8 Eo _) (D8 Eo _) (D8 Eo _) (D8 Eo _)
theorem Aoy(f:Nat):Bo (BH φ f) ((Be Af GR).ask (.fn f)):=D8 Tu f
theorem AbS{y:Sy}(B:SyB y)(t:Tr)(hz:WzT t)(hp:WzP t)(hn:GL t<=1000000):(Be Af GR).ask (.fn 34) [.agg (B7 t),.agg (Jm y)] []=some (Tl (Lu y t),[]):=T7 Al1 Aj2 B t hz hp hn
open Go.ChangeShapes Go.WideShapes Go.ChangeAt
theorem AoV:RF TZ:=AmF AlV AlW
theorem Tt:SeatOk φ Bb Vq:=YB (gAz _) (gAz _) (gAz _) (Aoy _)
theorem Ake:SyB Fo where
 vars:=by decide
 ps:=by decide
 locs p hp:=by
  have:=Acz.q p hp;omega
theorem AbR:WzT Tf:=.mk (by simp) (by simp) (by simp) (by simp) (by simp) (by simp)
theorem AbQ:WzP Tf:=.mk (by decide) (by decide) (by simp)
theorem atR(t:Tr)(hz:WzT t)(hp:WzP t)(hn:GL t<=1000000):TZ.ask (.fn 34) [.agg (B7 t),.agg (Jm Fo)] []=some (Tl (Lu Fo t),[]):=VE (AbS Ake t hz hp hn)
set_option maxRecDepth 1000000 in
theorem AiP:Ug (some (Tl (Lu Fo q4),[]))=true:=by kernel_rfl
set_option maxRecDepth 1000000 in
theorem Akz:ZA (some (Tl (Lu Fo Tf),[]))=true:=by kernel_rfl
theorem Akx:Al4F TZ where
 res:=by
  rw[atR q4 Amz Amy (by decide)];exact Xq AiP
 no:=by
  rw[atR Tf AbR AbQ (by decide)];exact ZB Akz
 text:=AfX Aen
theorem Ade:TZ.ask (.fn 30) [] []=some (bv true,[]):=Xb Aa5 (ON Al3) (ON Al4) (ON Al5) (AcY Aa6) Akx
end Go.Proofs.YtlmhajfbpplpoaaGreat
