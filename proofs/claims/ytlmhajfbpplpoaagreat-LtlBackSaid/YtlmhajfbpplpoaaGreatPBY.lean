/- The contracts that hand- -/
import Derived.Test.YtlmhajfbpplpoaaGreatPBX
import Derived.Test.YtlmhajfbpplpoaaGreatPBU
import Derived.Test.YtlmhajfbpplpoaaGreatPAD
import Derived.ProofKit
set_option linter.all false
open List renaming drop_zero->υ
open Nat renaming ble->Arm
namespace Go.Proofs.YtlmhajfbpplpoaaGreat
open ABlk renaming mk->U
open Go.Proofs.Tryz renaming prog->ψ
open Go.RowKit
theorem Ap4:Bx (BY ψ 91) (B9 Ie):=AfN 164 λs w hs=>(Afh s w hs).mono λe w' h=>by
 unfold AaF at h;unfold Ry;exact h
theorem AbY:Bx (BY ψ 109) (B9 Ch):=AbO λs w hs=>Ac6 s w hs
theorem R6:Bx (BY ψ 108) (B9 BH):=VL λs w hs=>KF s w hs
theorem AbZ:Bx (BY ψ 22) (B9 Da):=Te AbY R6
section
open Go.RowKit
set_option maxRecDepth 1000000
end
section
variable {D:Orc}
theorem Wk(Kq:Knows Ag UY D)(ps:List Pr)(hp:ps.length<=1000000):∀(n i:Nat) (out:List ByteArray),ps.length-i=n->out.length+n<=1000000->D.ask (.lp 232 0) [.sl 0 0 out.length 1,.ls (ps.map R1),iv (ps.length:Int),iv (i:Int)] [U (Ao eS out) true true]
  = some (.tup [iv 0,.sl 1 0 (out++(ps.drop i).map (·.name)).length 1],[.del,.set (U (Ao eS (out++(ps.drop i).map (·.name))) true true)]):=by
 intro n
 induction n with
 |zero=>
  intro i out hi ho;refine Kq.lp' Ng _ rfl (by kernel_rfl) ((RZ ..).trans ?_);rw[show ps.drop i=[] from List.drop_eq_nil_of_le (by omega),List.map_nil,List.append_nil];refine Ak (by omega) ?_;rfl
 |succ n ih=>
  intro i out hi ho;have hlt:i<ps.length:=by omega
  have ih:=ih (i+1) (out++[ps[i].name]) (by omega) (by simp;omega);rw[show ps.drop i=ps[i]::ps.drop (i+1) from List.drop_eq_getElem_cons hlt];rw[List.append_assoc,List.length_append,List.length_singleton]at ih;refine Kq.lp' Ng _ rfl (by kernel_rfl) ((RZ ..).trans ?_);refine Al (by omega) ?_;rw[Ax,AF (List.getElem?_eq_getElem hlt)];have hf:Bc (out.length+1) 16=true:=AN (by omega) (by omega);have hb1:Arm (0+out.length*1) (Ao eS out).length=true:=AT Gm out (by omega);have e3:∀ s,List.drop 0 (List.take (0+out.length*1) (Ao eS out))++[sv s]=Ao eS (out++[s]):=λs=>by
   rw[υ,Bf Gm out (by omega)];exact A9 eS out s
  simp only[R1,ND,DK,Aa];rw[Bo (by omega),hf,hb1,e3];refine Ad ?_;refine Ad ?_;refine Ab ih ?_;rfl
theorem Wl(Kq:Knows Ag UY D)(y:Sy)(hp:y.ps.length<=1000000):D.ask (.fn 232) [.agg (JV y)] []=some (.ls ((y.ps.map (·.name)).map eS),[]):=by
 refine Kq.fn' Ng _ rfl ((Amk ..).trans ?_);rw[Aw];have g:=Wk Kq y.ps hp _ 0 [] rfl (by simpa using hp);refine Ab g ?_;simp only[ND,DK,Aa,υ,List.nil_append];rw[AT Gm _ (by omega)];refine Ad ?_;rw[Cz Gm _ rfl]
end
theorem Q6:∀ l:List Pt,AP (Ao eP l)=true
 |[]=>rfl
 |x::r=>by
  have ih:=Q6 r;have h1:Ao eP (x::r)=eP x++Ao eP r:=by simp[Ao]
  rw[h1,Bz,List.all_append,←Bz,←Bz,ih];rfl
theorem Vs{l:List Pt}(h:l.length<=1000000000):Gg 3 (Cs 3 40) [.ls (l.map eP)] []=some (.sl 0 0 l.length 3,[.set (IA l)]):=by
 unfold Gg Cs;have h4:Arm (AZ (l.map eP)*40) 140737488355328=true:=by
  rw[Aw];simp;omega
 have h1:LH (JK (l.map eP))=true:=by rw[FO];exact LI Ado l
 have h2:AP (JK (l.map eP))=true:=by rw[FO];exact Q6 l
 simp only[JJ Av,h1,h2,h4,Bool.and_true,if_true,Option.map_some];rw[Aw,FO]
theorem Y5{n:Nat}(h:n<=1000000000):Gg 3 (If 40) [.v (.slice none 0 0),iv (n:Int)] []=some (.sl 0 0 0 3,[.set (IA [])]):=by
 have h4:Arm (n*40) 140737488355328=true:=by simp;omega
 show (if Arm (n*40) 140737488355328=true then some (0,([]:List AV)) else none).map _=_
 rw[if_pos h4];rfl
theorem AcJ:LexN PW where
 name s hs:=Ahi (by unfold B9 Ch;simp only[sv,hs,if_true];rfl)
 num s hs:=Aaw (by unfold B9 BH;simp only[sv,hs,if_true];rfl)
theorem Aa3:CloneF PW where
 nat l h:=Aat (YR h)
theorem X8:PartF PW where
 clone l h:=Aau (Vs h)
 grow n h:=Aey (Y5 h)
theorem Aos:ZF PW:=Aot Anm Ant Aa3
theorem E5:SeatOk ψ AL CD:=Z1 AbY R6 YS Vu Y7
theorem Alu:ResF DRv where
 form vars t hv hz:=Ahh (AeN AiV Anq AiT Aos X8 AiS Ank AiR AiU AcJ vars hv t hz)
 same x y cx cy fx fy:=Ahj (AbV AiV AiT Aos X8 AiS Anl (by omega) (by omega) _ x y (Nat.lt_succ_self _) fx fy cx cy)
 index xs s h:=Aez (G4 AiR xs h s)
 procs y h:=AeB (Wl Ann y h)
 right t hz hp:=AeC (G7 Anr AiU AcJ t hz hp)
theorem UM:SeatOk ψ AL Ig:=Z2 (EN E5 _) (EN E5 _) (EN E5 _) (EN E5 _) (EN E5 _)
theorem Ap6(f:Nat):Bx (BY ψ f) ((A8 Ah Ig).ask (.fn f)):=EN UM f
theorem AdD{y:Sy}(B:SyB y)(t:Tr)(hz:WzT t)(hp:WzP t)(hn:ID t<=1000000):(A8 Ah Ig).ask (.fn 34) [.agg (Bq t),.agg (JV y)] []=some (Px (NR y t),[]):=Ve Ans Alu B t hz hp hn
open Go.ChangeShapes Go.WideShapes Go.ChangeAt
theorem Aee:SyB Ik where
 vars:=by decide
 ps:=by decide
 locs p hp:=by
  have:=UV.q p hp;omega
theorem AdC:WzT UE:=.mk (by simp) (by simp) (by simp) (by simp) (by simp) (by simp)
theorem AdB:WzP UE:=.mk (by decide) (by decide) (by simp)
set_option maxRecDepth 1000000 in
theorem Akt:Vq (some (Px (NR Ik q4),[]))=true:=by kernel_rfl
set_option maxRecDepth 1000000 in
theorem Al3:Aa0 (some (Px (NR Ik UE),[]))=true:=by kernel_rfl
end Go.Proofs.YtlmhajfbpplpoaaGreat
