/- The contracts that hand-walked texts tell. Layer 1 -/
import Derived.Test.YtlmhajfbpplpoaaGreatOBV
import Derived.Test.YtlmhajfbpplpoaaGreatOBS
import Derived.Test.YtlmhajfbpplpoaaGreatOAD
import Derived.Test.YtlmhajfbpplpoaaGreatOBF
import Derived.ProofKit
set_option linter.all false
open List renaming drop_zero->ApD
open Nat renaming ble->ApM
namespace Go.Proofs.YtlmhajfbpplpoaaGreat
open Go.RowKit
theorem Aoy:Bz (BS Tryz.prog 91) (CS Oq):=Ad1 164 λs w hs=>(Adz s w hs).mono λe w' h=>by
 unfold Zd at h;unfold Qx;exact h
theorem AaE:Bz (BS Tryz.prog 109) (CS CJ):=Aaw λs w hs=>Abv s w hs
theorem Q6:Bz (BS Tryz.prog 108) (CS B0):=UG λs w hs=>Jw s w hs
theorem AaF:Bz (BS Tryz.prog 22) (CS Fh):=R9 AaE Q6
end Go.Proofs.YtlmhajfbpplpoaaGreat
namespace Go.Proofs.YtlmhajfbpplpoaaGreat
open Go.RowKit
theorem gAz(f:Nat):Bz (BS Tryz.prog f) ((Dn Aj CT 200).ask (.fn f)):=(QW (YD Aoy AaE Q6 AaF) 200).1 f
set_option maxRecDepth 1000000
theorem Al2:(Dn Aj CT 200).ask (.fn 32) [sv (AI s41),.agg (Jm Fv)] []=some (.tup [.agg (Ck q4),.agg [iv 0,iv 0],iv 0],[]):=by kernel_rfl
theorem Al3:(Dn Aj CT 200).ask (.fn 32) [sv (AI s42),.agg (Jm Fv)] []=some (.tup [.agg (Ck T0),.agg [iv 1,iv 8],iv 101],[]):=by kernel_rfl
theorem Al4:(Dn Aj CT 200).ask (.fn 32) [sv (AI s43),.agg (Jm Fv)] []=some (.tup [.agg (Ck T0),.agg [iv 1,iv 4],iv 110],[]):=by kernel_rfl
theorem Ael:(Dn Aj CT 200).ask (.fn 38) [.agg (Ck q4)] []=some (sv (AI s41),[]):=by kernel_rfl
theorem Aa5:(Dn Aj CT 200).ask (.fn 36) [.agg (Ck q4)] []=some (bv true,[]):=by kernel_rfl
end Go.Proofs.YtlmhajfbpplpoaaGreat
namespace Go.Proofs.YtlmhajfbpplpoaaGreat
open Go.RowKit
section
variable {D:Orc}
theorem U7(Kq:Knows Al TL D)(ps:List Pr)(hp:ps.length<=1000000):∀(n i:Nat) (out:List ByteArray),ps.length-i=n->out.length+n<=1000000->D.ask (.lp 232 0) [.sl 0 0 out.length 1,.ls (ps.map Y9),iv (ps.length:Int),iv (i:Int)] [ABlk.mk (Aw eS out) true true]
  = some (.tup [iv 0,.sl 1 0 (out++(ps.drop i).map (·.name)).length 1],[.del,.set (ABlk.mk (Aw eS (out++(ps.drop i).map (·.name))) true true)]):=by
 intro n
 induction n with
 |zero=>
  intro i out hi ho;refine Kq.lp' SD _ rfl (by kernel_rfl) ((Aab ..).trans ?_);rw[show ps.drop i=[] from List.drop_eq_nil_of_le (by omega),List.map_nil,List.append_nil];refine ltF_go (by omega)?_;rfl
 |succ n ih=>
  intro i out hi ho;have hlt:i<ps.length:=by omega
  have ih:=ih (i+1) (out++[ps[i].name]) (by omega) (by simp;omega);rw[show ps.drop i=ps[i]::ps.drop (i+1) from List.drop_eq_getElem_cons hlt];rw[List.append_assoc,List.length_append,List.length_singleton]at ih;refine Kq.lp' SD _ rfl (by kernel_rfl) ((Aab ..).trans ?_);refine Ao (by omega)?_;rw[AG,AD (List.getElem?_eq_getElem hlt)];have hf:Bp (out.length+1) 16=true:=AS (by omega) (by omega);have hb1:ApM (0+out.length*1) (Aw eS out).length=true:=A3 MW out (by omega);have e3:∀ s,List.drop 0 (List.take (0+out.length*1) (Aw eS out))++[sv s]=Aw eS (out++[s]):=λs=>by
   rw[ApD,Bf MW out (by omega)];exact Bg eS out s
  simp only[Y9,ND,Aa];rw[Bh (by omega),hf,hb1,e3];refine Ag ?_;refine Ag ?_;refine Ab ih ?_;rfl
theorem U8(Kq:Knows Al TL D)(y:Sy)(hp:y.ps.length<=1000000):D.ask (.fn 232) [.agg (Jm y)] []=some (.ls ((y.ps.map (·.name)).map eS),[]):=by
 refine Kq.fn' SD _ rfl ((An7 ..).trans ?_);rw[Av];have g:=U7 Kq y.ps hp _ 0 [] rfl (by simpa using hp);refine Ab g ?_;simp only[ND,Aa,ApD,List.nil_append];rw[A3 MW _ (by omega)];refine Ag ?_;rw[Cs MW _ rfl]
end
end Go.Proofs.YtlmhajfbpplpoaaGreat
namespace Go.Proofs.YtlmhajfbpplpoaaGreat
open Go.RowKit
theorem P3:∀ l:List Pt,A8 (Aw eP l)=true
 |[]=>rfl
 |x::r=>by
  have ih:=P3 r;have h1:Aw eP (x::r)=eP x++Aw eP r:=by simp[Aw]
  rw[h1,BD,List.all_append,←BD,←BD,ih];rfl
theorem Uo{l:List Pt}(h:l.length<=1000000000):Ft 3 (Cl 3 40) [.ls (l.map eP)] []=some (.sl 0 0 l.length 3,[.set (Hd l)]):=by
 unfold Ft Cl;have h4:ApM (A1 (l.map eP)*40) 140737488355328=true:=by
  rw[Av];simp;omega
 have h1:Kd (IQ (l.map eP))=true:=by rw[E3];exact Kg AbI l
 have h2:A8 (IQ (l.map eP))=true:=by rw[E3];exact P3 l
 simp only[IO AK,h1,h2,h4,Bool.and_true,if_true,Option.map_some];rw[Av,E3]
theorem XI{n:Nat}(h:n<=1000000000):Ft 3 (GU 40) [.v (.slice none 0 0),iv (n:Int)] []=some (.sl 0 0 0 3,[.set (Hd [])]):=by
 have h4:ApM (n*40) 140737488355328=true:=by simp;omega
 show (if ApM (n*40) 140737488355328=true then some (0,([]:List AV)) else none).map _=_
 rw[if_pos h4];rfl
end Go.Proofs.YtlmhajfbpplpoaaGreat
namespace Go.Proofs.YtlmhajfbpplpoaaGreat
open Go.RowKit
theorem Abg:LexN OW where
 name s hs:=AfS (by unfold CS CJ;simp only[sv,hs,if_true];rfl)
 num s hs:=Y4 (by unfold CS B0;simp only[sv,hs,if_true];rfl)
theorem ZC:CloneF OW where
 nat l h:=Y2 (Xs h)
theorem WE:PartF OW where
 clone l h:=Y3 (Uo h)
 grow n h:=AcU (XI h)
theorem AmK:ZF OW:=AmL AlP Al1 ZC
theorem EC:SeatOk Tryz.prog Bk Cv:=YE AaE Q6 Xt Uq XK
theorem Aj2:ResF DRv where
 form vars t hv hz:=AfR (Ac8 Aho AlY Ahm AmK WE Ahl AlN Ahk Ahn Abg vars hv t hz)
 same x y cx cy fx fy:=AfT (AaB Aho Ahm AmK WE Ahl AlO (by omega) (by omega) _ x y (Nat.lt_succ_self _) fx fy cx cy)
 index xs s h:=AcV (Gd Ahk xs h s)
 procs y h:=AcX (U8 AlQ y h)
 right t hz hp:=AcZ (XY AlZ Ahn Abg t hz hp)
theorem Tx:SeatOk Tryz.prog Bk GW:=YF (Ej EC _) (Ej EC _) (Ej EC _) (Ej EC _) (Ej EC _)
theorem AoB(f:Nat):Bz (BS Tryz.prog f) ((Bo Aj GW).ask (.fn f)):=Ej Tx f
theorem AbS{y:Sy}(B:SyB y)(t:Tr)(hz:WzT t)(hp:WzP t)(hn:GQ t<=1000000):(Bo Aj GW).ask (.fn 34) [.agg (Ck t),.agg (Jm y)] []=some (Tp (LC y t),[]):=Uc Al0 Aj2 B t hz hp hn
end Go.Proofs.YtlmhajfbpplpoaaGreat
namespace Go.Proofs.YtlmhajfbpplpoaaGreat
open Go.ChangeShapes Go.WideShapes Go.ChangeAt Go.RowKit
theorem AoY:RF T8:=AmD AlU AlV
theorem Tw:SeatOk Tryz.prog Bk Vu:=YC (gAz _) (gAz _) (gAz _) (AoB _)
theorem Akf:SyB Fv where
 vars:=by decide
 ps:=by decide
 locs p hp:=by
  have:=Acy.q p hp;omega
theorem AbR:WzT Ti:=.mk (by simp) (by simp) (by simp) (by simp) (by simp) (by simp)
theorem AbQ:WzP Ti:=.mk (by decide) (by decide) (by simp)
theorem atR(t:Tr)(hz:WzT t)(hp:WzP t)(hn:GQ t<=1000000):T8.ask (.fn 34) [.agg (Ck t),.agg (Jm Fv)] []=some (Tp (LC Fv t),[]):=VH (AbS Akf t hz hp hn)
set_option maxRecDepth 1000000 in
theorem AiP:Ul (some (Tp (LC Fv q4),[]))=true:=by kernel_rfl
set_option maxRecDepth 1000000 in
theorem Akz:Zz (some (Tp (LC Fv Ti),[]))=true:=by kernel_rfl
theorem Akx:Al4F T8 where
 res:=by
  rw[atR q4 Amx Amw (by decide)];exact Xr AiP
 no:=by
  rw[atR Ti AbR AbQ (by decide)];exact ZA Akz
 text:=AfU Ael
theorem Add:T8.ask (.fn 30) [] []=some (bv true,[]):=Xd Aa4 (OT Al2) (OT Al3) (OT Al4) (AcY Aa5) Akx
end Go.Proofs.YtlmhajfbpplpoaaGreat
