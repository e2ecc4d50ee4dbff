/- What the reference's truths of conditions come to. -/
import Derived.Test.YtlmhajfbpplpoaaGreatSBR
import Derived.Test.YtlmhajfbpplpoaaGreatSAS
import Derived.Test.YtlmhajfbpplpoaaGreatSBG
import Derived.Test.YtlmhajfbpplpoaaGreatSBB
import Derived.Test.YtlmhajfbpplpoaaGreatSAD
import Derived.Test.YtlmhajfbpplpoaaGreatSBC
import Derived.Test.YtlmhajfbpplpoaaGreatSBI
import Derived.Test.YtlmhajfbpplpoaaGreatSBM
import Derived.ProofKit
set_option linter.unusedSectionVars false
set_option linter.unusedSimpArgs false
set_option linter.unusedVariables false
namespace Go.Proofs.YtlmhajfbpplpoaaGreat
open Go.RowKit
def Un(neg:Bool)(u:Int):Int:=if neg then -u else u
def IE(vars:List ByteArray)(f:Int->Int)(m:Mo):Int:=if m.var=AE [] then Gc m else match vars.findIdx? (m.var = ·) with
 |none=>0
 |some v=>Gc m*f v
theorem LS(vars:List ByteArray)(f:Int->Int)(m:Mo)(r:List Mo):Dc vars f (m::r)=IE vars f m+Dc vars f r:=rfl
theorem VL{vars:List ByteArray}{f:Int->Int}{mn:Bool}{mu mv:ByteArray}(h:mv=AE []):IE vars f ⟨mn,mu,mv⟩=Un mn (I8 ⟨mn,mu,mv⟩):=by
 unfold IE Un
 rw[if_pos h]
 rfl
theorem PJ{vars:List ByteArray}{f:Int->Int}{mn:Bool}{mu mv:ByteArray}(h:mv≠AE [])(e:vars.findIdx? (mv = ·)=none):IE vars f ⟨mn,mu,mv⟩=0:=by
 unfold IE
 rw[if_neg h]
 simp only[e]
theorem Ix{vars:List ByteArray}{f:Int->Int}{mn:Bool}{mu mv:ByteArray}{v:Nat}(h:mv≠AE [])(e:vars.findIdx? (mv = ·)=some v):IE vars f ⟨mn,mu,mv⟩=Un mn (I8 ⟨mn,mu,mv⟩*f v):=by
 unfold IE
 rw[if_neg h]
 simp only[e]
 cases mn with
 |false=>rfl
 |true=>exact Int.neg_mul ..
section
variable {D:Orc} (Kj:Knows As SM D) (F:RF D) (Kra:Knows As NY D)
include Kj F
include Kra in
theorem Aad(vars:List ByteArray)(hvl:vars.length<4611686018427387904)(vals:List Zi)(hvz:∀ z∈vals,Lz 23 z)(ms:List Mo)(hl:ms.length<=64)(y0:Bool)(y1:List (List AV)):∀(k i:Nat) (acc:Int),ms.length-i=k->i<=ms.length->InB (4100+i) acc->
  D.ask (.lp 68 0) [.ls (ms.map Gt),.ls (vars.map eS),.ls (vals.map eZ),.ptr 0 0,.ptr 1 0,iv (i:Int)] [⟨[bv y0,.ls y1],true,false⟩,⟨eZ (AS acc),true,false⟩]
   = some (.tup [iv 0,.ptr 0 0,.ptr 1 0],[.set ⟨[bv y0,.ls y1],true,false⟩,.set ⟨eZ (AS (acc+Dc vars (CK (vals.map zv)) (ms.drop i))),true,false⟩]):=by
 have e0:eZ (AS 0)=[bv false,.ls []]:=by rw[Ll];rfl
 intro k
 induction k with
 |zero=>
  intro i acc hm hi ha
  rw[List.drop_eq_nil_of_le (by omega),Dc,Int.add_zero]
  refine Kj.lp' Y4 _ rfl (by kernel_rfl) ((AdE ..).trans ?_)
  rw[Ax]
  exact(Ap (by omega)).trans rfl
 |succ k ih=>
  intro i acc hm hi ha
  have h1:i<ms.length:=by omega
  have hn1:∀ kk,BG (ms.map Gt) i kk=kk (Gt ms[i]):=fun kk=>AO (List.getElem?_eq_getElem h1) kk
  rw[List.drop_eq_getElem_cons h1,LS]
  refine Kj.lp' Y4 _ rfl (by kernel_rfl) ((AdE ..).trans ?_)
  rw[Ax]
  refine(Aq (by omega)).trans ?_
  refine(Aa (F.of_ 1 (by omega) (by omega)) _).trans ?_
  have hW:=NA ms[i]
  revert hn1 hW
  generalize ms[i]=m
  obtain⟨mn,mu,mv⟩:=m
  intro hn1 hW
  simp only[Gt]at hn1
  simp only[eZ,eN,AN,hn1,ND,Ab]
  by_cases hn:mu=AE []
  .have hnm:I8 ⟨mn,mu,mv⟩=1:=by unfold I8;rw[if_pos hn]
   rw[hnm]at hW
   refine(Dd hn).trans ?_
   by_cases hv:mv=AE []
   .refine(Dd hv).trans ?_
    have hU:InB 4100 ((1)):=(hW.mono (by omega))
    rw[show IE vars (CK (vals.map zv)) ⟨mn,mu,mv⟩=Un mn ((1)) from ((VL hv).trans (by rw[hnm]))]
    cases mn with
    |true=>
     have gn:=F.neg (AS ((1))) (hU.lz.mono (by omega))
     rw[AJ]at gn
     have ga:=F.add (AS acc) (AS (-((1)))) (ha.lz.mono (by omega)) (hU.neg.lz.mono (by omega))
     rw[AJ,AJ]at ga
     have ih:=ih (i+1) (acc + -((1))) (by omega) (by omega) (by
      show InB (4100+i+1) _
      exact InB.add ha (hU.neg.mono (by omega)))
     refine(Az _ _).trans ?_
     simp only[eZ,eN,ND,Ab]at gn ga ih ⊢
     refine(Aa gn _).trans ?_
     simp only[ND,Ab]
     refine(Aa ga _).trans ?_
     simp only[ND,Ab]
     rw[Bn (by omega)]
     refine(Aa ih _).trans ?_
     rw[Int.add_assoc]
     rfl
    |false=>
     have ga:=F.add (AS acc) (AS ((1))) (ha.lz.mono (by omega)) (hU.lz.mono (by omega))
     rw[AJ,AJ]at ga
     have ih:=ih (i+1) (acc+((1))) (by omega) (by omega) (by
      show InB (4100+i+1) _
      exact InB.add ha (hU.mono (by omega)))
     refine(CM _ _).trans ?_
     simp only[eZ,eN,ND,Ab]at ga ih ⊢
     refine(Aa ga _).trans ?_
     simp only[ND,Ab]
     rw[Bn (by omega)]
     refine(Aa ih _).trans ?_
     rw[Int.add_assoc]
     rfl
   .refine(El hv).trans ?_
    refine(Aa (Pi Kra vars hvl mv) _).trans ?_
    simp only[ND,Ab]
    cases ev:vars.findIdx? (mv = ·) with
    |none=>
     refine(Aq (show (-1:Int)<0 by omega)).trans ?_
     have ga:=F.add (AS acc) (AS 0) (ha.lz.mono (by omega)) ((InB.zero 1).lz.mono (by omega))
     have gn:=F.neg (AS 0) ((InB.zero 1).lz.mono (by omega))
     rw[AJ,e0]at gn
     have ga2:=ga
     rw[AJ,AJ,e0]at ga2
     rw[AJ,AJ]at ga
     have ih:=ih (i+1) (acc+0) (by omega) (by omega) (by
      show InB (4100+i+1) _
      exact InB.add ha (InB.zero _))
     rw[show IE vars (CK (vals.map zv)) ⟨mn,mu,mv⟩=0 from (PJ hv ev)]
     cases mn with
     |true=>
      refine(Az _ _).trans ?_
      rw[show (-0:Int)=0 from rfl]at gn
      simp only[eZ,eN,ND,Ab]at gn ga ih ⊢
      refine(Aa gn _).trans ?_
      simp only[ND,Ab]
      refine(Aa ga _).trans ?_
      simp only[ND,Ab]
      rw[Bn (by omega)]
      refine(Aa ih _).trans ?_
      rw[Int.add_assoc]
      rfl
     |false=>
      refine(CM _ _).trans ?_
      simp only[eZ,eN,ND,Ab]at ga2 ih ⊢
      refine(Aa ga2 _).trans ?_
      simp only[ND,Ab]
      rw[Bn (by omega)]
      refine(Aa ih _).trans ?_
      rw[Int.add_assoc]
      rfl
    |some v=>
     refine(Ap (show ¬ ((v:Nat):Int)<0 by omega)).trans ?_
     simp only[EC,Ax]
     by_cases hlen:vals.length<=v
     .refine(CN (by omega)).trans ?_
      have ga:=F.add (AS acc) (AS 0) (ha.lz.mono (by omega)) ((InB.zero 1).lz.mono (by omega))
      have gn:=F.neg (AS 0) ((InB.zero 1).lz.mono (by omega))
      rw[AJ,e0]at gn
      have ga2:=ga
      rw[AJ,AJ,e0]at ga2
      rw[AJ,AJ]at ga
      have ih:=ih (i+1) (acc+0) (by omega) (by omega) (by
       show InB (4100+i+1) _
       exact InB.add ha (InB.zero _))
      rw[show IE vars (CK (vals.map zv)) ⟨mn,mu,mv⟩=0 from (by rw[Ix hv ev,N6 _ (by simp;omega),Int.mul_zero];cases mn<;>rfl)]
      cases mn with
      |true=>
       refine(Az _ _).trans ?_
       rw[show (-0:Int)=0 from rfl]at gn
       simp only[eZ,eN,ND,Ab]at gn ga ih ⊢
       refine(Aa gn _).trans ?_
       simp only[ND,Ab]
       refine(Aa ga _).trans ?_
       simp only[ND,Ab]
       rw[Bn (by omega)]
       refine(Aa ih _).trans ?_
       rw[Int.add_assoc]
       rfl
      |false=>
       refine(CM _ _).trans ?_
       simp only[eZ,eN,ND,Ab]at ga2 ih ⊢
       refine(Aa ga2 _).trans ?_
       simp only[ND,Ab]
       rw[Bn (by omega)]
       refine(Aa ih _).trans ?_
       rw[Int.add_assoc]
       rfl
     .refine(C4 (by omega)).trans ?_
      have hlt:v<vals.length:=by omega
      have hzv:=hvz vals[v] (List.getElem_mem hlt)
      have gm:=F.mul (AS (1)) vals[v] (hW.lz.mono (by omega)) (hzv.mono (by omega))
      rw[AJ]at gm
      have ef:CK (vals.map zv) (v:Int)=zv vals[v]:=by
       rw[Kk,List.getD_eq_getElem?_getD,List.getElem?_eq_getElem (by simpa using hlt),Option.getD_some,List.getElem_map]
      rw[AN,AO (List.getElem?_eq_getElem hlt)]
      simp only[eZ,eN,ND,Ab]at gm ⊢
      refine(Aa gm _).trans ?_
      simp only[ND,Ab]
      have hU:InB 4100 (((1)*zv vals[v])):=((InB.mul hW hzv.inb).mono (by omega))
      rw[show IE vars (CK (vals.map zv)) ⟨mn,mu,mv⟩=Un mn (((1)*zv vals[v])) from ((Ix hv ev).trans (by rw[hnm,ef]))]
      cases mn with
      |true=>
       have gn:=F.neg (AS (((1)*zv vals[v]))) (hU.lz.mono (by omega))
       rw[AJ]at gn
       have ga:=F.add (AS acc) (AS (-(((1)*zv vals[v])))) (ha.lz.mono (by omega)) (hU.neg.lz.mono (by omega))
       rw[AJ,AJ]at ga
       have ih:=ih (i+1) (acc + -(((1)*zv vals[v]))) (by omega) (by omega) (by
        show InB (4100+i+1) _
        exact InB.add ha (hU.neg.mono (by omega)))
       refine(Az _ _).trans ?_
       simp only[eZ,eN,ND,Ab]at gn ga ih ⊢
       refine(Aa gn _).trans ?_
       simp only[ND,Ab]
       refine(Aa ga _).trans ?_
       simp only[ND,Ab]
       rw[Bn (by omega)]
       refine(Aa ih _).trans ?_
       rw[Int.add_assoc]
       rfl
      |false=>
       have ga:=F.add (AS acc) (AS (((1)*zv vals[v]))) (ha.lz.mono (by omega)) (hU.lz.mono (by omega))
       rw[AJ,AJ]at ga
       have ih:=ih (i+1) (acc+(((1)*zv vals[v]))) (by omega) (by omega) (by
        show InB (4100+i+1) _
        exact InB.add ha (hU.mono (by omega)))
       refine(CM _ _).trans ?_
       simp only[eZ,eN,ND,Ab]at ga ih ⊢
       refine(Aa ga _).trans ?_
       simp only[ND,Ab]
       rw[Bn (by omega)]
       refine(Aa ih _).trans ?_
       rw[Int.add_assoc]
       rfl
  .have hnm:I8 ⟨mn,mu,mv⟩=zv (Fi mu).1:=by unfold I8;rw[if_neg hn]
   have gp:=F.parse mu
   rw[hnm]at hW
   rw[So mu]at gp
   generalize zv (Fi mu).1=u at hnm gp hW
   refine(El hn).trans ?_
   refine(Aa gp _).trans ?_
   simp only[eZ,eN,ND,Ab]
   by_cases hv:mv=AE []
   .refine(Dd hv).trans ?_
    have hU:InB 4100 ((u)):=(hW.mono (by omega))
    rw[show IE vars (CK (vals.map zv)) ⟨mn,mu,mv⟩=Un mn ((u)) from ((VL hv).trans (by rw[hnm]))]
    cases mn with
    |true=>
     have gn:=F.neg (AS ((u))) (hU.lz.mono (by omega))
     rw[AJ]at gn
     have ga:=F.add (AS acc) (AS (-((u)))) (ha.lz.mono (by omega)) (hU.neg.lz.mono (by omega))
     rw[AJ,AJ]at ga
     have ih:=ih (i+1) (acc + -((u))) (by omega) (by omega) (by
      show InB (4100+i+1) _
      exact InB.add ha (hU.neg.mono (by omega)))
     refine(Az _ _).trans ?_
     simp only[eZ,eN,ND,Ab]at gn ga ih ⊢
     refine(Aa gn _).trans ?_
     simp only[ND,Ab]
     refine(Aa ga _).trans ?_
     simp only[ND,Ab]
     rw[Bn (by omega)]
     refine(Aa ih _).trans ?_
     rw[Int.add_assoc]
     rfl
    |false=>
     have ga:=F.add (AS acc) (AS ((u))) (ha.lz.mono (by omega)) (hU.lz.mono (by omega))
     rw[AJ,AJ]at ga
     have ih:=ih (i+1) (acc+((u))) (by omega) (by omega) (by
      show InB (4100+i+1) _
      exact InB.add ha (hU.mono (by omega)))
     refine(CM _ _).trans ?_
     simp only[eZ,eN,ND,Ab]at ga ih ⊢
     refine(Aa ga _).trans ?_
     simp only[ND,Ab]
     rw[Bn (by omega)]
     refine(Aa ih _).trans ?_
     rw[Int.add_assoc]
     rfl
   .refine(El hv).trans ?_
    refine(Aa (Pi Kra vars hvl mv) _).trans ?_
    simp only[ND,Ab]
    cases ev:vars.findIdx? (mv = ·) with
    |none=>
     refine(Aq (show (-1:Int)<0 by omega)).trans ?_
     have ga:=F.add (AS acc) (AS 0) (ha.lz.mono (by omega)) ((InB.zero 1).lz.mono (by omega))
     have gn:=F.neg (AS 0) ((InB.zero 1).lz.mono (by omega))
     rw[AJ,e0]at gn
     have ga2:=ga
     rw[AJ,AJ,e0]at ga2
     rw[AJ,AJ]at ga
     have ih:=ih (i+1) (acc+0) (by omega) (by omega) (by
      show InB (4100+i+1) _
      exact InB.add ha (InB.zero _))
     rw[show IE vars (CK (vals.map zv)) ⟨mn,mu,mv⟩=0 from (PJ hv ev)]
     cases mn with
     |true=>
      refine(Az _ _).trans ?_
      rw[show (-0:Int)=0 from rfl]at gn
      simp only[eZ,eN,ND,Ab]at gn ga ih ⊢
      refine(Aa gn _).trans ?_
      simp only[ND,Ab]
      refine(Aa ga _).trans ?_
      simp only[ND,Ab]
      rw[Bn (by omega)]
      refine(Aa ih _).trans ?_
      rw[Int.add_assoc]
      rfl
     |false=>
      refine(CM _ _).trans ?_
      simp only[eZ,eN,ND,Ab]at ga2 ih ⊢
      refine(Aa ga2 _).trans ?_
      simp only[ND,Ab]
      rw[Bn (by omega)]
      refine(Aa ih _).trans ?_
      rw[Int.add_assoc]
      rfl
    |some v=>
     refine(Ap (show ¬ ((v:Nat):Int)<0 by omega)).trans ?_
     simp only[EC,Ax]
     by_cases hlen:vals.length<=v
     .refine(CN (by omega)).trans ?_
      have ga:=F.add (AS acc) (AS 0) (ha.lz.mono (by omega)) ((InB.zero 1).lz.mono (by omega))
      have gn:=F.neg (AS 0) ((InB.zero 1).lz.mono (by omega))
      rw[AJ,e0]at gn
      have ga2:=ga
      rw[AJ,AJ,e0]at ga2
      rw[AJ,AJ]at ga
      have ih:=ih (i+1) (acc+0) (by omega) (by omega) (by
       show InB (4100+i+1) _
       exact InB.add ha (InB.zero _))
      rw[show IE vars (CK (vals.map zv)) ⟨mn,mu,mv⟩=0 from (by rw[Ix hv ev,N6 _ (by simp;omega),Int.mul_zero];cases mn<;>rfl)]
      cases mn with
      |true=>
       refine(Az _ _).trans ?_
       rw[show (-0:Int)=0 from rfl]at gn
       simp only[eZ,eN,ND,Ab]at gn ga ih ⊢
       refine(Aa gn _).trans ?_
       simp only[ND,Ab]
       refine(Aa ga _).trans ?_
       simp only[ND,Ab]
       rw[Bn (by omega)]
       refine(Aa ih _).trans ?_
       rw[Int.add_assoc]
       rfl
      |false=>
       refine(CM _ _).trans ?_
       simp only[eZ,eN,ND,Ab]at ga2 ih ⊢
       refine(Aa ga2 _).trans ?_
       simp only[ND,Ab]
       rw[Bn (by omega)]
       refine(Aa ih _).trans ?_
       rw[Int.add_assoc]
       rfl
     .refine(C4 (by omega)).trans ?_
      have hlt:v<vals.length:=by omega
      have hzv:=hvz vals[v] (List.getElem_mem hlt)
      have gm:=F.mul (AS (u)) vals[v] (hW.lz.mono (by omega)) (hzv.mono (by omega))
      rw[AJ]at gm
      have ef:CK (vals.map zv) (v:Int)=zv vals[v]:=by
       rw[Kk,List.getD_eq_getElem?_getD,List.getElem?_eq_getElem (by simpa using hlt),Option.getD_some,List.getElem_map]
      rw[AN,AO (List.getElem?_eq_getElem hlt)]
      simp only[eZ,eN,ND,Ab]at gm ⊢
      refine(Aa gm _).trans ?_
      simp only[ND,Ab]
      have hU:InB 4100 (((u)*zv vals[v])):=((InB.mul hW hzv.inb).mono (by omega))
      rw[show IE vars (CK (vals.map zv)) ⟨mn,mu,mv⟩=Un mn (((u)*zv vals[v])) from ((Ix hv ev).trans (by rw[hnm,ef]))]
      cases mn with
      |true=>
       have gn:=F.neg (AS (((u)*zv vals[v]))) (hU.lz.mono (by omega))
       rw[AJ]at gn
       have ga:=F.add (AS acc) (AS (-(((u)*zv vals[v])))) (ha.lz.mono (by omega)) (hU.neg.lz.mono (by omega))
       rw[AJ,AJ]at ga
       have ih:=ih (i+1) (acc + -(((u)*zv vals[v]))) (by omega) (by omega) (by
        show InB (4100+i+1) _
        exact InB.add ha (hU.neg.mono (by omega)))
       refine(Az _ _).trans ?_
       simp only[eZ,eN,ND,Ab]at gn ga ih ⊢
       refine(Aa gn _).trans ?_
       simp only[ND,Ab]
       refine(Aa ga _).trans ?_
       simp only[ND,Ab]
       rw[Bn (by omega)]
       refine(Aa ih _).trans ?_
       rw[Int.add_assoc]
       rfl
      |false=>
       have ga:=F.add (AS acc) (AS (((u)*zv vals[v]))) (ha.lz.mono (by omega)) (hU.lz.mono (by omega))
       rw[AJ,AJ]at ga
       have ih:=ih (i+1) (acc+(((u)*zv vals[v]))) (by omega) (by omega) (by
        show InB (4100+i+1) _
        exact InB.add ha (hU.mono (by omega)))
       refine(CM _ _).trans ?_
       simp only[eZ,eN,ND,Ab]at ga ih ⊢
       refine(Aa ga _).trans ?_
       simp only[ND,Ab]
       rw[Bn (by omega)]
       refine(Aa ih _).trans ?_
       rw[Int.add_assoc]
       rfl
include Kra in
theorem Sy(vars:List ByteArray)(hvl:vars.length<4611686018427387904)(vals:List Zi)(hvz:∀ z∈vals,Lz 23 z)(ms:List Mo)(hl:ms.length<=64):D.ask (.fn 68) [.ls (ms.map Gt),.ls (vars.map eS),.ls (vals.map eZ)] []=some (.agg (eZ (AS (Dc vars (CK (vals.map zv)) ms))),[]):=by
 have e0:eZ (AS 0)=[bv false,.ls []]:=by rw[Ll];rfl
 have g:=Aad Kj F Kra vars hvl vals hvz ms hl false [] _ 0 0 rfl (by omega) (InB.zero _)
 rw[List.drop_zero,Int.zero_add,e0]at g
 refine Kj.fn' Y4 _ rfl ((e68 ..).trans ?_)
 refine(Aa g _).trans ?_
 rfl
omit Kj F in
theorem Jm(vars:List ByteArray)(vals:List Zi)(hvz:∀ z∈vals,Lz 23 z):∀ ms:List Mo,InB (4100+ms.length) (Dc vars (CK (vals.map zv)) ms)
 |[]=>InB.zero _
 |m::r=>by
  have h:=Jm vars vals hvz r
  have hv:∀ v:Nat,InB 23 (CK (vals.map zv) (v:Int)):=fun v=>by
   rw[Kk]
   exact Rv (fun x hx=>by
    rw[List.mem_map]at hx
    obtain⟨z,hz,rfl⟩:=hx
    exact(hvz z hz).inb) v
  rw[LS,Int.add_comm,List.length_cons]
  show InB (4100+r.length+1) _
  refine InB.add h ?_
  unfold IE
  split
  .exact(Hy m).mono (by omega)
  .split
   .exact InB.zero _
   .exact(InB.mul (Hy m) (hv _)).mono (by omega)
include Kra in
theorem Xm(vars:List ByteArray)(hvl:vars.length<4611686018427387904)(vals:List Zi)(hvz:∀ z∈vals,Lz 23 z):∀(n:Nat) (t:Tr) (d:Nat),SizeOf.sizeOf t<n->BN t d=true->D.ask (.fn 29) [.agg (DI t),.ls (vars.map eS),.ls (vals.map eZ)] []=some (bv (Dm vars (CK (vals.map zv)) t),[]):=by
 intro n
 induction n with
 |zero=>intro t d h;omega
 |succ n ih=>
  intro t d hn h
  cases J2 h with
  |tt=>
   rw[Dm,if_pos rfl]
   exact Kj.fn' Wt _ rfl ((e29 ..).trans (AQ rfl))
  |ff=>
   rw[Dm,if_neg (by decide),if_neg (by decide),if_neg (by decide),if_neg (by decide),if_neg (by decide)]
   refine Kj.fn' Wt _ rfl ((e29 ..).trans ?_)
   refine(AA (by decide)).trans ?_
   refine(AA (by decide)).trans ?_
   refine(AA (by decide)).trans ?_
   refine(AA (by decide)).trans ?_
   exact AA (by decide)
  |@cmp _ l r op hl hr h1 h2=>
   have gl:=Sy Kj F Kra vars hvl vals hvz l (EH hl).2.1
   have gr:=Sy Kj F Kra vars hvl vals hvz r (EH hr).2.1
   have bl:=Jm vars vals hvz l
   have br_:=Jm vars vals hvz r
   have ll:=(EH hl).2.1
   have lr:=(EH hr).2.1
   rw[Dm,if_neg (by decide),if_pos rfl]
   generalize Dc vars (CK (vals.map zv)) l=a at gl bl
   generalize Dc vars (CK (vals.map zv)) r=b at gr br_
   have gc:=F.cmp (AS a) (AS b) (bl.lz.mono (by omega)) (br_.lz.mono (by omega))
   rw[AJ,AJ]at gc
   have s0:=Aal (a-b)
   have s1:=VG (a-b)
   have s2:=AcV (a-b)
   generalize CD (a-b)=s at gc s0 s1 s2
   refine Kj.fn' Wt _ rfl ((e29 ..).trans ?_)
   refine(AA (by decide)).trans ?_
   refine(AQ rfl).trans ?_
   simp only[eZ,eN,ND,Ab]at gl gr gc ⊢
   refine(Aa gl _).trans ?_
   simp only[ND,Ab]
   refine(Aa gr _).trans ?_
   simp only[ND,Ab]
   refine(Aa gc _).trans ?_
   simp only[ND,Ab]
   unfold UN
   by_cases o0:op=0
   .rw[if_pos o0]
    refine(AQ o0).trans ?_
    rw[Qz,IU]
    congr 3
    rw[decide_eq_decide];omega
   rw[if_neg o0]
   refine(AA o0).trans ?_
   by_cases o1:op=1
   .rw[if_pos o1]
    refine(AQ o1).trans ?_
    rw[Qz,PZ,←decide_not]
    congr 3
    rw[decide_eq_decide];omega
   rw[if_neg o1]
   refine(AA o1).trans ?_
   by_cases o2:op=2
   .rw[if_pos o2]
    refine(AQ o2).trans ?_
    rw[QA,IU]
    congr 3
    rw[decide_eq_decide];omega
   rw[if_neg o2]
   refine(AA o2).trans ?_
   by_cases o3:op=3
   .rw[if_pos o3]
    refine(AQ o3).trans ?_
    rw[NF,IU]
    congr 3
    rw[decide_eq_decide];omega
   rw[if_neg o3]
   refine(AA o3).trans ?_
   by_cases o4:op=4
   .rw[if_pos o4]
    refine(AQ o4).trans ?_
    rw[QA,IU]
    congr 3
    rw[decide_eq_decide];omega
   rw[if_neg o4,if_pos (by omega)]
   refine(AA o4).trans ?_
   rw[NF,IU]
   congr 3
   rw[decide_eq_decide];omega
  |@no _ x hd hx=>
   have gx:=ih x _ (by simp only[Tr.mk.sizeOf_spec,List.cons.sizeOf_spec]at hn;omega) hx
   rw[Dm,if_neg (by decide),if_neg (by decide),if_pos rfl,Mg]
   refine Kj.fn' Wt _ rfl ((e29 ..).trans ?_)
   refine(AA (by decide)).trans ?_
   refine(AA (by decide)).trans ?_
   refine(AQ rfl).trans ?_
   rw[Cw,AO (x:=x) (show [x][0]? = some x from rfl)]
   obtain⟨k,l,r,o,p,q,ks⟩:=x
   simp only[DI,ND,Ab]at gx ⊢
   refine(Aa gx _).trans ?_
   simp only[ND,Ab]
   exact PZ _
  |@bin _ k x y hk hd hx gd hy=>
   have gx:=ih x _ (by simp only[Tr.mk.sizeOf_spec,List.cons.sizeOf_spec]at hn;omega) hx
   have gy:=ih y _ (by simp only[Tr.mk.sizeOf_spec,List.cons.sizeOf_spec]at hn;omega) hy
   rw[Dm,if_neg (by omega),if_neg (by omega),if_neg (by omega)]
   refine Kj.fn' Wt _ rfl ((e29 ..).trans ?_)
   refine(AA (by omega)).trans ?_
   refine(AA (by omega)).trans ?_
   refine(AA (by omega)).trans ?_
   rw[Cw,AO (x:=x) (show [x,y][0]? = some x from rfl),AO (x:=x) (show [x,y][0]? = some x from rfl)]
   have e1:∀ kk,BG ([x,y].map DI) 1 kk=kk (DI y):=fun kk=>AO (x:=y) (show [x,y][1]? = some y from rfl) kk
   simp only[e1]
   clear e1
   generalize hbx:Dm vars (CK (vals.map zv)) x=bx at gx
   generalize hby:Dm vars (CK (vals.map zv)) y=by_ at gy
   rcases hk with rfl|rfl
   .rw[if_pos rfl,Gy,Gy,Gy,hbx,hby,Bool.and_true]
    clear hbx hby
    refine(AQ rfl).trans ?_
    obtain⟨k,l,r,o,p,q,ks⟩:=x
    obtain⟨k2,l2,r2,o2,p2,q2,ks2⟩:=y
    simp only[DI,ND,Ab]at gx gy ⊢
    refine(Aa gx _).trans ?_
    simp only[ND,Ab]
    cases bx with
    |false=>rfl
    |true=>
     refine(Az _ _).trans ?_
     refine(Aa gy _).trans ?_
     simp only[ND,Ab]
     exact P0 _
   .rw[if_neg (by decide),if_pos rfl,Gz,Gz,Gz,hbx,hby,Bool.or_false]
    clear hbx hby
    refine(AA (by decide)).trans ?_
    refine(AQ rfl).trans ?_
    obtain⟨k,l,r,o,p,q,ks⟩:=x
    obtain⟨k2,l2,r2,o2,p2,q2,ks2⟩:=y
    simp only[DI,ND,Ab]at gx gy ⊢
    refine(Aa gx _).trans ?_
    simp only[ND,Ab]
    cases bx with
    |true=>rfl
    |false=>
     refine(CM _ _).trans ?_
     refine(Aa gy _).trans ?_
     simp only[ND,Ab]
     exact P0 _
end
section
variable {D:Orc} (Kh:Knows As PA D)
include Kh
theorem AbG(vals:List Zi)(m:Int)(hl:vals.length<=1000000):∀(k i:Nat),vals.length-i=k->i<=vals.length->
  D.ask (.lp 26 0) [.ls (vals.map eZ),iv m,iv (i:Int)] []=some (if ∀ z∈vals.drop i,(z.abs.length:Int)<=m then .tup [iv 0] else .tup [bv true,bv false],[]):=by
 intro k
 induction k with
 |zero=>
  intro i hm hi
  rw[List.drop_eq_nil_of_le (by omega),if_pos (by simp)]
  refine Kh.lp' Y1 _ rfl (by kernel_rfl) ((Ady ..).trans ?_)
  rw[Ax]
  exact(Ap (by omega)).trans rfl
 |succ k ih=>
  intro i hm hi
  have h1:i<vals.length:=by omega
  have ih:=ih (i+1) (by omega) (by omega)
  rw[List.drop_eq_getElem_cons h1]
  refine Kh.lp' Y1 _ rfl (by kernel_rfl) ((Ady ..).trans ?_)
  rw[Ax]
  refine(Aq (by omega)).trans ?_
  rw[AN,AO (List.getElem?_eq_getElem h1)]
  simp only[eZ,eN,ND,Ab]
  rw[Ax]
  by_cases hz:m<(vals[i].abs.length:Int)
  .refine(Aq hz).trans ?_
   rw[if_neg (fun h=>by have:=h vals[i] (List.mem_cons_self ..);omega)]
  .refine(Ap hz).trans ?_
   rw[Bn (by omega)]
   refine(Aa ih _).trans ?_
   by_cases hr:∀ z∈vals.drop (i+1),(z.abs.length:Int)<=m
   .rw[if_pos hr,if_pos (fun z hz2=>by
     rcases List.mem_cons.1 hz2 with rfl|hz2
     .omega
     .exact hr z hz2)]
    rfl
   .rw[if_neg hr,if_neg (fun h=>hr fun z hz=>h z (List.mem_cons_of_mem _ hz))]
    rfl
theorem AbH(vals:List Zi)(n m:Nat)(hn:n<=1000000)(hl:vals.length<4611686018427387904):D.ask (.fn 26) [.ls (vals.map eZ),iv (n:Int),iv (m:Int)] []=some (bv (decide (vals.length<=n/\∀ z∈vals,z.abs.length<=m)),[]):=by
 refine Kh.fn' Y1 _ rfl ((e26 ..).trans ?_)
 rw[Ax]
 by_cases h:n<vals.length
 .rw[decide_eq_false (fun e=>by omega)]
  exact Aq (by omega)
 .have g:=AbG Kh vals m (by omega) _ 0 rfl (by omega)
  rw[List.drop_zero]at g
  refine(Ap (by omega)).trans ?_
  refine(Aa g _).trans ?_
  by_cases hr:∀ z∈vals,(z.abs.length:Int)<=(m:Int)
  .rw[if_pos hr,decide_eq_true ⟨by omega,fun z hz=>by have:=hr z hz;omega⟩]
   rfl
  .rw[if_neg hr,decide_eq_false (fun e=>hr fun z hz=>by have:=e.2 z hz;omega)]
   rfl
end
end Go.Proofs.YtlmhajfbpplpoaaGreat
namespace Go.Proofs.YtlmhajfbpplpoaaGreat
open Go.RowKit
def hs3:Am:=[]
noncomputable def mf3:MFn:=Bj Tryz.prog Ah hs3 false false 3
def hn3:Hnt:=⟨[(14,(.bool,[])),(15,(.tup [.ls,.agg [.int .i64,.int .i64],.int .i64],[])),(16,(.tup [.ls,.agg [.int .i64,.int .i64],.int .i64],[])),(17,(.tup [.agg [.int .i64,.ls,.ls,.int .i64,.str,.str,.ls],.agg [.int .i64,.int .i64],.int .i64],[])),(18,(.tup [.agg [.int .i64,.ls,.ls,.int .i64,.str,.str,.ls],.agg [.int .i64,.int .i64],.int .i64],[])),(19,(.bool,[])),(20,(.bool,[]))],[],[(45,[.int .i64,.int .i64]),(46,[.int .i64,.int .i64]),(60,[.int .i64,.int .i64]),(61,[.int .i64,.int .i64]),(65,[.int .i64,.ls,.ls,.int .i64,.str,.str,.ls]),(66,[.int .i64,.ls,.ls,.int .i64,.str,.str,.ls])]⟩
theorem e3(A:Ar)(D:Orc)(x0:ByteArray):B3 A D As hn3 .n 3 mf3 [sv x0] [] =
 Af D (Key.fn 14) [] [] fun r o=>
 AW r fun b=>
 Ac o<|
 br b
 (Af D (Key.fn 15) [sv x0] [] fun r1 o1=>
 AF r1 fun cs=>
 AI cs fun xs l=>
 Aj l fun c l1=>
 At c fun cs1=>
 Ay IntKind.i64 cs1 fun n l2=>
 Ay IntKind.i64 l2 fun n1 l3=>
 Ad l3<|
 Ay IntKind.i64 l1 fun n2 l4=>
 Ad l4<|
 Ac o1<|
 Af D (Key.fn 16) [sv x0] [] fun r2 o2=>
 AF r2 fun cs2=>
 AI cs2 fun xs1 l5=>
 Aj l5 fun c1 l6=>
 At c1 fun cs3=>
 Ay IntKind.i64 cs3 fun n3 l7=>
 Ay IntKind.i64 l7 fun n4 l8=>
 Ad l8<|
 Ay IntKind.i64 l6 fun n5 l9=>
 Ad l9<|
 Ac o2<|
 Af D (Key.fn 17) [sv x0] [] fun r3 o3=>
 AF r3 fun cs4=>
 Aj cs4 fun c2 l10=>
 At c2 fun cs5=>
 Ay IntKind.i64 cs5 fun n6 l11=>
 AI l11 fun xs2 l12=>
 AI l12 fun xs3 l13=>
 Ay IntKind.i64 l13 fun n7 l14=>
 Br l14 fun s l15=>
 Br l15 fun s1 l16=>
 AI l16 fun xs4 l17=>
 Ad l17<|
 Aj l10 fun c3 l18=>
 At c3 fun cs6=>
 Ay IntKind.i64 cs6 fun n8 l19=>
 Ay IntKind.i64 l19 fun n9 l20=>
 Ad l20<|
 Ay IntKind.i64 l18 fun n10 l21=>
 Ad l21<|
 Ac o3<|
 Af D (Key.fn 18) [sv x0] [] fun r4 o4=>
 AF r4 fun cs7=>
 Aj cs7 fun c4 l22=>
 At c4 fun cs8=>
 Ay IntKind.i64 cs8 fun n11 l23=>
 AI l23 fun xs5 l24=>
 AI l24 fun xs6 l25=>
 Ay IntKind.i64 l25 fun n12 l26=>
 Br l26 fun s2 l27=>
 Br l27 fun s3 l28=>
 AI l28 fun xs7 l29=>
 Ad l29<|
 Aj l22 fun c5 l30=>
 At c5 fun cs9=>
 Ay IntKind.i64 cs9 fun n13 l31=>
 Ay IntKind.i64 l31 fun n14 l32=>
 Ad l32<|
 Ay IntKind.i64 l30 fun n15 l33=>
 Ad l33<|
 Ac o4<|
 br (A.eq n2 n5)
 (br (A.band (A.eq n n3) (A.band (A.eq n1 n4) true))
 (Af D (Key.fn 19) [AV.ls xs,AV.ls xs1] [] fun r5 o5=>
 AW r5 fun b1=>
 Ac o5<|
 br b1
 (br (A.eq n10 n15)
 (br (A.band (A.eq n8 n13) (A.band (A.eq n9 n14) true))
 (Af D (Key.fn 20) [AV.agg [iv n6,AV.ls xs2,AV.ls xs3,iv n7,sv s,sv s1,AV.ls xs4],AV.agg [iv n11,AV.ls xs5,AV.ls xs6,iv n12,sv s2,sv s3,AV.ls xs7]] [] fun r6 o6=>
 AW r6 fun b2=>
 Ac o6<|
 br b2
 (some ((bv true,[])))
 (some ((bv false,[]))))
 (some ((bv false,[]))))
 (some ((bv false,[]))))
 (some ((bv false,[]))))
 (some ((bv false,[]))))
 (some ((bv false,[]))))
 (some ((bv false,[]))):=by kernel_rfl
end Go.Proofs.YtlmhajfbpplpoaaGreat
namespace Go.Proofs.YtlmhajfbpplpoaaGreat
open Go.RowKit
section
variable {D:Orc}
end
end Go.Proofs.YtlmhajfbpplpoaaGreat
namespace Go.Proofs.YtlmhajfbpplpoaaGreat
open Go.RowKit
def hs4:Am:=[]
noncomputable def mf4:MFn:=Bj Tryz.prog Ah hs4 false false 4
def hn4:Hnt:=⟨[(14,(.bool,[])),(15,(.tup [.ls,.agg [.int .i64,.int .i64],.int .i64],[])),(17,(.tup [.agg [.int .i64,.ls,.ls,.int .i64,.str,.str,.ls],.agg [.int .i64,.int .i64],.int .i64],[])),(19,(.bool,[])),(20,(.bool,[])),(21,(.int .i64,[])),(22,(.str,[])),(23,(.bool,[])),(24,(.bool,[])),(25,(.str,[]))],[],[(15,[.int .i64,.ls,.ls,.int .i64,.str,.str,.ls]),(41,[.int .i64,.ls,.ls,.int .i64,.str,.str,.ls]),(44,[.int .i64,.ls,.ls,.int .i64,.str,.str,.ls]),(47,[.int .i64,.ls,.ls,.int .i64,.str,.str,.ls]),(63,[.int .i64,.ls,.ls,.int .i64,.str,.str,.ls]),(64,[.int .i64,.ls,.ls,.int .i64,.str,.str,.ls])]⟩
def hs5:Am:=[]
noncomputable def mf5:MFn:=Bj Tryz.prog Ah hs5 false false 5
def hn5:Hnt:=⟨[(14,(.bool,[])),(17,(.tup [.agg [.int .i64,.ls,.ls,.int .i64,.str,.str,.ls],.agg [.int .i64,.int .i64],.int .i64],[])),(20,(.bool,[])),(24,(.bool,[])),(25,(.str,[]))],[],[(24,[.int .i64]),(27,[.int .i64,.ls,.ls,.int .i64,.str,.str,.ls]),(31,[.int .i64,.ls,.ls,.int .i64,.str,.str,.ls]),(39,[.int .i64,.ls,.ls,.int .i64,.str,.str,.ls]),(46,[.int .i64,.ls,.ls,.int .i64,.str,.str,.ls]),(47,[.int .i64,.ls,.ls,.int .i64,.str,.str,.ls]),(51,[.int .i64,.ls,.ls,.int .i64,.str,.str,.ls])]⟩
theorem e4(A:Ar)(D:Orc)(x0:List (List AV))(x1_0:Int)(x1_1:List (List AV))(x1_2:List (List AV))(x1_3:Int)(x1_4:ByteArray)(x1_5:ByteArray)(x1_6:List (List AV)):B3 A D As hn4 .n 4 mf4 [AV.ls x0,AV.agg [iv x1_0,AV.ls x1_1,AV.ls x1_2,iv x1_3,sv x1_4,sv x1_5,AV.ls x1_6]] [] =
 Af D (Key.fn 14) [] [] fun r o=>
 AW r fun b=>
 Ac o<|
 br b
 (Af D (Key.fn 21) [AV.agg [iv x1_0,AV.ls x1_1,AV.ls x1_2,iv x1_3,sv x1_4,sv x1_5,AV.ls x1_6],iv 200] [] fun r1 o1=>
 Bp IntKind.i64 r1 fun n=>
 Ac o1<|
 br (A.lt 200 n)
 (some ((bv true,[])))
 (br (A.lt 100 ↑(Be x0))
 (some ((bv true,[])))
 (Af D (Key.fn 22) [AV.ls x0] [] fun r2 o2=>
 FA r2 fun s=>
 Ac o2<|
 Af D (Key.fn 23) [AV.ls x0] [] fun r3 o3=>
 AW r3 fun b1=>
 Ac o3<|
 br b1
 (Af D (Key.fn 15) [sv s] [] fun r4 o4=>
 AF r4 fun cs=>
 AI cs fun xs l=>
 Aj l fun c l1=>
 At c fun cs1=>
 Ay IntKind.i64 cs1 fun _ l2=>
 Ay IntKind.i64 l2 fun _ l3=>
 Ad l3<|
 Ay IntKind.i64 l1 fun n3 l4=>
 Ad l4<|
 Ac o4<|
 br (A.eq n3 0)
 (Af D (Key.fn 19) [AV.ls xs,AV.ls x0] [] fun r5 o5=>
 AW r5 fun b2=>
 Ac o5<|
 br b2
 (Af D (Key.fn 24) [AV.agg [iv x1_0,AV.ls x1_1,AV.ls x1_2,iv x1_3,sv x1_4,sv x1_5,AV.ls x1_6]] [] fun r6 o6=>
 AW r6 fun b3=>
 Ac o6<|
 br b3
 (Af D (Key.fn 25) [AV.agg [iv x1_0,AV.ls x1_1,AV.ls x1_2,iv x1_3,sv x1_4,sv x1_5,AV.ls x1_6]] [] fun r7 o7=>
 FA r7 fun s1=>
 Ac o7<|
 Af D (Key.fn 17) [sv s1] [] fun r8 o8=>
 AF r8 fun cs2=>
 Aj cs2 fun c1 l5=>
 At c1 fun cs3=>
 Ay IntKind.i64 cs3 fun n4 l6=>
 AI l6 fun xs1 l7=>
 AI l7 fun xs2 l8=>
 Ay IntKind.i64 l8 fun n5 l9=>
 Br l9 fun s2 l10=>
 Br l10 fun s3 l11=>
 AI l11 fun xs3 l12=>
 Ad l12<|
 Aj l5 fun c2 l13=>
 At c2 fun cs4=>
 Ay IntKind.i64 cs4 fun _ l14=>
 Ay IntKind.i64 l14 fun _ l15=>
 Ad l15<|
 Ay IntKind.i64 l13 fun n8 l16=>
 Ad l16<|
 Ac o8<|
 br (A.lt 16384 ↑(A.slen s1))
 (br (A.eq n8 2)
 (some ((bv true,[])))
 (some ((bv false,[]))))
 (br (A.eq n8 0)
 (Af D (Key.fn 20) [AV.agg [iv n4,AV.ls xs1,AV.ls xs2,iv n5,sv s2,sv s3,AV.ls xs3],AV.agg [iv x1_0,AV.ls x1_1,AV.ls x1_2,iv x1_3,sv x1_4,sv x1_5,AV.ls x1_6]] [] fun r9 o9=>
 AW r9 fun b4=>
 Ac o9<|
 br b4
 (some ((bv true,[])))
 (some ((bv false,[]))))
 (some ((bv false,[])))))
 (Af D (Key.fn 25) [AV.agg [iv x1_0,AV.ls x1_1,AV.ls x1_2,iv x1_3,sv x1_4,sv x1_5,AV.ls x1_6]] [] fun r7 o7=>
 FA r7 fun s1=>
 Ac o7<|
 br (A.seq s1 (AE []))
 (some ((bv true,[])))
 (some ((bv false,[])))))
 (some ((bv false,[]))))
 (some ((bv false,[]))))
 (Af D (Key.fn 24) [AV.agg [iv x1_0,AV.ls x1_1,AV.ls x1_2,iv x1_3,sv x1_4,sv x1_5,AV.ls x1_6]] [] fun r4 o4=>
 AW r4 fun b2=>
 Ac o4<|
 br b2
 (Af D (Key.fn 25) [AV.agg [iv x1_0,AV.ls x1_1,AV.ls x1_2,iv x1_3,sv x1_4,sv x1_5,AV.ls x1_6]] [] fun r5 o5=>
 FA r5 fun s1=>
 Ac o5<|
 Af D (Key.fn 17) [sv s1] [] fun r6 o6=>
 AF r6 fun cs=>
 Aj cs fun c l=>
 At c fun cs1=>
 Ay IntKind.i64 cs1 fun n1 l1=>
 AI l1 fun xs l2=>
 AI l2 fun xs1 l3=>
 Ay IntKind.i64 l3 fun n2 l4=>
 Br l4 fun s2 l5=>
 Br l5 fun s3 l6=>
 AI l6 fun xs2 l7=>
 Ad l7<|
 Aj l fun c1 l8=>
 At c1 fun cs2=>
 Ay IntKind.i64 cs2 fun _ l9=>
 Ay IntKind.i64 l9 fun _ l10=>
 Ad l10<|
 Ay IntKind.i64 l8 fun n5 l11=>
 Ad l11<|
 Ac o6<|
 br (A.lt 16384 ↑(A.slen s1))
 (br (A.eq n5 2)
 (some ((bv true,[])))
 (some ((bv false,[]))))
 (br (A.eq n5 0)
 (Af D (Key.fn 20) [AV.agg [iv n1,AV.ls xs,AV.ls xs1,iv n2,sv s2,sv s3,AV.ls xs2],AV.agg [iv x1_0,AV.ls x1_1,AV.ls x1_2,iv x1_3,sv x1_4,sv x1_5,AV.ls x1_6]] [] fun r7 o7=>
 AW r7 fun b3=>
 Ac o7<|
 br b3
 (some ((bv true,[])))
 (some ((bv false,[]))))
 (some ((bv false,[])))))
 (Af D (Key.fn 25) [AV.agg [iv x1_0,AV.ls x1_1,AV.ls x1_2,iv x1_3,sv x1_4,sv x1_5,AV.ls x1_6]] [] fun r5 o5=>
 FA r5 fun s1=>
 Ac o5<|
 br (A.seq s1 (AE []))
 (some ((bv true,[])))
 (some ((bv false,[]))))))))
 (some ((bv false,[]))):=by kernel_rfl
theorem e5(A:Ar)(D:Orc)(x0:ByteArray):B3 A D As hn5 .n 5 mf5 [sv x0] [] =
 Af D (Key.fn 14) [] [] fun r o=>
 AW r fun b=>
 Ac o<|
 br b
 (br (A.lt 4000 ↑(A.slen x0))
 (some ((bv true,[])))
 (Af D (Key.fn 17) [sv x0] [] fun r1 o1=>
 AF r1 fun cs=>
 Aj cs fun c l=>
 At c fun cs1=>
 Ay IntKind.i64 cs1 fun n l1=>
 AI l1 fun xs l2=>
 AI l2 fun xs1 l3=>
 Ay IntKind.i64 l3 fun n1 l4=>
 Br l4 fun s l5=>
 Br l5 fun s1 l6=>
 AI l6 fun xs2 l7=>
 Ad l7<|
 Aj l fun c1 l8=>
 At c1 fun cs2=>
 Ay IntKind.i64 cs2 fun n2 l9=>
 Ay IntKind.i64 l9 fun _ l10=>
 Ad l10<|
 Ay IntKind.i64 l8 fun n4 l11=>
 Ad l11<|
 Ac o1<|
 br (A.eq n4 0)
 (Af D (Key.fn 25) [AV.agg [iv n,AV.ls xs,AV.ls xs1,iv n1,sv s,sv s1,AV.ls xs2]] [] fun r2 o2=>
 FA r2 fun s2=>
 Ac o2<|
 Af D (Key.fn 17) [sv s2] [] fun r3 o3=>
 AF r3 fun cs3=>
 Aj cs3 fun c2 l12=>
 At c2 fun cs4=>
 Ay IntKind.i64 cs4 fun n5 l13=>
 AI l13 fun xs3 l14=>
 AI l14 fun xs4 l15=>
 Ay IntKind.i64 l15 fun n6 l16=>
 Br l16 fun s3 l17=>
 Br l17 fun s4 l18=>
 AI l18 fun xs5 l19=>
 Ad l19<|
 Aj l12 fun c3 l20=>
 At c3 fun cs5=>
 Ay IntKind.i64 cs5 fun _ l21=>
 Ay IntKind.i64 l21 fun _ l22=>
 Ad l22<|
 Ay IntKind.i64 l20 fun n9 l23=>
 Ad l23<|
 Ac o3<|
 Af D (Key.fn 24) [AV.agg [iv n,AV.ls xs,AV.ls xs1,iv n1,sv s,sv s1,AV.ls xs2]] [] fun r4 o4=>
 AW r4 fun b1=>
 Ac o4<|
 br b1
 (br (A.eq n9 0)
 (Af D (Key.fn 20) [AV.agg [iv n5,AV.ls xs3,AV.ls xs4,iv n6,sv s3,sv s4,AV.ls xs5],AV.agg [iv n,AV.ls xs,AV.ls xs1,iv n1,sv s,sv s1,AV.ls xs2]] [] fun r5 o5=>
 AW r5 fun b2=>
 Ac o5<|
 br b2
 (Af D (Key.fn 25) [AV.agg [iv n5,AV.ls xs3,AV.ls xs4,iv n6,sv s3,sv s4,AV.ls xs5]] [] fun r6 o6=>
 FA r6 fun s5=>
 Ac o6<|
 br (A.seq s5 s2)
 (some ((bv true,[])))
 (some ((bv false,[]))))
 (some ((bv false,[]))))
 (some ((bv false,[]))))
 (some ((bv false,[]))))
 (br (A.le 1 n2)
 (Af D (Key.fn 20) [AV.agg [iv n,AV.ls xs,AV.ls xs1,iv n1,sv s,sv s1,AV.ls xs2],AV.agg [iv 0,AV.ls [],AV.ls [],iv 0,sv (AE []),sv (AE []),AV.ls []]] [] fun r2 o2=>
 AW r2 fun b1=>
 Ac o2<|
 br b1
 (some ((bv true,[])))
 (some ((bv false,[]))))
 (some ((bv false,[]))))))
 (some ((bv false,[]))):=by kernel_rfl
end Go.Proofs.YtlmhajfbpplpoaaGreat
namespace Go.Proofs.YtlmhajfbpplpoaaGreat
open Go.RowKit
section
variable {D:Orc}
end
end Go.Proofs.YtlmhajfbpplpoaaGreat
namespace Go.Proofs.YtlmhajfbpplpoaaGreat
open Go.RowKit
mutual
def KC:Tr->Nat
 |.mk _ _ _ _ _ _ ks=>1+Hc ks
def Hc:List Tr->Nat
 |[]=>0
 |x::r=>KC x+Hc r
end
theorem X5(k:Int)(l r:List Mo)(op:Int)(p q:ByteArray)(x:Tr):KC (.mk k l r op p q [x])=1+KC x:=by
 rw[KC,Hc,Hc,Nat.add_zero]
theorem X6(k:Int)(l r:List Mo)(op:Int)(p q:ByteArray)(x y:Tr):KC (.mk k l r op p q [x,y])=1+(KC x+KC y):=by
 rw[KC,Hc,Hc,Hc]
 omega
theorem UZ(x:Tr):On x<=(LR x).length+2:=by unfold On;split<;>omega
theorem U0(x:Tr):Nm x<=(LR x).length+2:=by unfold Nm;split<;>omega
theorem NT{ms:List Mo}(h:Pm ms=true):(FN ms).length<=5376:=by
 have h1:=Ld ms 0 (EH h).2.2
 have h2:=(EH h).2.1
 unfold FN
 rw[if_pos h]
 omega
theorem AhK:∀(n:Nat) (t:Tr) (d:Nat),SizeOf.sizeOf t<n->BN t d=true->(LR t).length+10<=11000*KC t:=by
 intro n
 induction n with
 |zero=>intro t d h;omega
 |succ n ih=>
  intro t d hn h
  cases J2 h with
  |tt=>decide
  |ff=>decide
  |@cmp _ l r op hl hr h1 h2=>
   have hc:Rg (.mk 2 l r op (AE []) (AE []) [])=true:=by
    unfold Rg
    simp[hl,hr,h1,h2]
   rw[LR,if_neg (by decide),if_pos rfl,if_pos hc,KC,Hc]
   unfold Adx
   have s1:=NT hl
   have s2:=NT hr
   have hol:(AcD.getD op.toNat []).length<=2:=by
    have:op.toNat<6:=by omega
    generalize op.toNat=n at this
    match n,this with
    |0,_=>decide
    |1,_=>decide
    |2,_=>decide
    |3,_=>decide
    |4,_=>decide
    |5,_=>decide
   simp only[List.length_append,List.length_cons,List.length_nil]
   omega
  |@no _ x hd hx=>
   have gx:=ih x _ (by simp only[Tr.mk.sizeOf_spec,List.cons.sizeOf_spec]at hn;omega) hx
   have:=UZ x
   rw[AhA,X5]
   omega
  |@bin _ k x y hk hd hx gd hy=>
   have gx:=ih x _ (by simp only[Tr.mk.sizeOf_spec,List.cons.sizeOf_spec]at hn;omega) hx
   have gy:=ih y _ (by simp only[Tr.mk.sizeOf_spec,List.cons.sizeOf_spec]at hn;omega) hy
   have o1:=UZ y
   have o2:=U0 x
   have o3:=U0 y
   rw[X6]
   rcases hk with rfl|rfl
   .rw[Adf];omega
   .rw[AhB];omega
section
variable {D:Orc}
theorem AcW(Ks:Knows As PB D)(t:Tr)(L:Nat)(hL:L<=1000)(hk:t.kids.length<4611686018427387904)
  (g:∀ x∈t.kids,∀ L:Nat,L<=1000->∃ n:Nat,D.ask (.fn 21) [.agg (DI x),iv (L:Int)] []=some (iv (n:Int),[])/\n<=L+1/\(n<=L->n=KC x)):∀(k i n:Nat),t.kids.length-i=k->n<=L+1->
  ∃ m:Nat,D.ask (.lp 21 0) [iv (L:Int),.ptr 0 0,iv (n:Int),iv (i:Int)] [MG t]=some (.tup [iv 0,iv (m:Int)],[.del])/\m<=L+1/\n<=m/\(m<=L->m=n+Hc (t.kids.drop i)):=by
 intro k
 obtain⟨kd,l,r,op,p,q,ks⟩:=t
 simp only[Tr.kids]at g hk ⊢
 have hlen:Be (YI ks)=ks.length:=by rw[Cw,Ax]
 induction k with
 |zero=>
  intro i n hi hn
  refine⟨n,?_,hn,Nat.le_refl _,fun _=>?_⟩
  .refine Ks.lp' Ws _ rfl (by kernel_rfl) ((Yx ..).trans ?_)
   rw[hlen]
   refine(Ap (by omega)).trans ?_
   rfl
  .rw[show ks.drop i=[] from List.drop_eq_nil_of_le (by omega),Hc]
   omega
 |succ k ih=>
  intro i n hi hn
  have hlt:i<ks.length:=by omega
  by_cases hnl:n<=L
  .obtain⟨a,g1,g2,g3⟩:=g ks[i] (List.getElem_mem hlt) (L-n) (by omega)
   obtain⟨m,k1,k2,k3,k4⟩:=ih (i+1) (n+a) (by omega) (by omega)
   refine⟨m,?_,k2,by omega,fun hm=>?_⟩
   .refine Ks.lp' Ws _ rfl (by kernel_rfl) ((Yx ..).trans ?_)
    rw[hlen]
    refine(Aq (by omega)).trans ?_
    rw[NF,decide_eq_true (show (n:Int)<=(L:Int) by omega)]
    refine(Az _ _).trans ?_
    rw[Cw,AN,AO (List.getElem?_eq_getElem hlt)]
    rw[F6 (a:=(L:Int)) (b:=(n:Int)) (by omega) (by omega),show (L:Int)-(n:Int)=((L-n:Nat):Int) by omega]
    revert g1
    generalize ks[i]=x
    obtain⟨xk,xl,xr,xo,xp,xq,xs⟩:=x
    intro g1
    simp only[DI,ND,Ab]at g1 ⊢
    refine(Aa g1 _).trans ?_
    simp only[ND,Ab]
    rw[Bn (by omega),GW (a:=(n:Int)) (b:=(a:Int)) (by omega) (by omega),show (n:Int)+(a:Int)=((n+a:Nat):Int) by omega]
    unfold MG at k1
    rw[DI,Cw]at k1
    refine(Aa k1 _).trans ?_
    rfl
   .rw[show ks.drop i=ks[i]::ks.drop (i+1) from List.drop_eq_getElem_cons hlt,Hc]
    have:=k4 hm
    have:=g3 (by omega)
    omega
  .refine⟨n,?_,hn,Nat.le_refl _,fun h=>absurd h hnl⟩
   refine Ks.lp' Ws _ rfl (by kernel_rfl) ((Yx ..).trans ?_)
   rw[hlen]
   refine(Aq (by omega)).trans ?_
   rw[NF,decide_eq_false (show ¬(n:Int)<=(L:Int) by omega)]
   rfl
theorem AcX(Ks:Knows As PB D):∀(N:Nat) (t:Tr),SizeOf.sizeOf t<N->WzT t->∀ L:Nat,L<=1000->∃ n:Nat,D.ask (.fn 21) [.agg (DI t),iv (L:Int)] []=some (iv (n:Int),[])/\n<=L+1/\(n<=L->n=KC t):=by
 intro N
 induction N with
 |zero=>intro t h;omega
 |succ N ih=>
  intro t hn hz L hL
  obtain⟨hl,hr,hk,zl,zr,hx⟩:=hz
  rename_i k l r op p q ks
  have g:=AcW Ks (.mk k l r op p q ks) L hL hk (fun x hm L hL=>ih x (by
   have h1:=R2 hm
   simp only[Tr.mk.sizeOf_spec,Tr.kids]at hn h1
   omega) (hx x hm) L hL) _ 0 1 rfl (by omega)
  obtain⟨m,g1,g2,g3,g4⟩:=g
  refine⟨m,?_,g2,fun h=>?_⟩
  .refine Ks.fn' Ws _ rfl ((e21 ..).trans ?_)
   refine(Aa g1 _).trans ?_
   rfl
  .rw[g4 h,KC]
   rfl
structure SumG (D:Orc):Prop where
 sum:∀ ms:List Mo,ms.length<4611686018427387904->(∀ m∈ms,WzM m)->D.ask (.fn 22) [.ls (ms.map Gt)] []=some (sv (AE (FN ms)),[])
theorem SumG.f(S:SumG D):SumF D:=⟨fun ms h=>S.sum ms (Pn h).1 (Pn h).2⟩
end
end Go.Proofs.YtlmhajfbpplpoaaGreat
namespace Go.Proofs.YtlmhajfbpplpoaaGreat
open Go.RowKit
section
variable {D:Orc} (Kt:Knows As J7 D) (Kf:Knows As LO D) (Ks:Knows As Fz D) (Z:ZF D) (C:PartF D) (Ko:Knows As NX D) (Kfe:Knows As Pz D) (Ka:Knows As LN D) (Kta:Knows As GY D) (N:LexN D) (Kj:Knows As SM D) (F:RF D) (Kra:Knows As NY D) (Kh:Knows As PA D) (Ksa:Knows As PB D) (Kl:Knows As VK D)
include Kt Kf Ks Z C Ko Kfe Ka Kta N Kj F Kra Kh Ksa Kl
theorem Wf(ha:D.ask (.fn 14) [] []=some (bv true,[]))(t:Tr)(hz:WzT t)(vars:List ByteArray)(hvl:vars.length<4611686018427387904)(vals:List Zi)(hv:∀ z∈vals,Limbs z.abs)(hl:vals.length<4611686018427387904) :
  D.ask (.fn 6) [.agg (DI t),.ls (vars.map eS),.ls (vals.map eZ)] []=some (bv true,[]):=by
 obtain⟨n,gn,gn1,gn2⟩:=AcX Ksa _ t (Nat.lt_succ_self _) hz 60 (by omega)
 have gw:=AbH Kh vals 10 4 (by omega) hl
 have gf:=UA Kt Kf Ks Z C Ko Kfe Ka Kta N vars hvl t hz
 have gb:BN t 0=true->(Cg vars t).2=true->vals.length<=10->(∀ z∈vals,z.abs.length<=4)->D.ask (.fn 28) [.agg (eF (Cg vars t).1),.ls (vals.map eZ)] []=some (bv (Dm vars (CK (vals.map zv)) t),[])/\D.ask (.fn 29) [.agg (DI t),.ls (vars.map eS),.ls (vals.map eZ)] []=some (bv (Dm vars (CK (vals.map zv)) t),[]):=fun hr ho h1 h2=>by
  have hz4:∀ z∈vals,Lz 4 z:=fun z hz=>⟨hv z hz,h2 z hz⟩
  have g1:=Wi Kh F (n:=128) (k:=30000) (by omega) vals hz4 (by omega) (by omega) _ (Cg vars t).1 (Nat.lt_succ_self _) (OO vars _ t 0 (Nat.lt_succ_self _) hr).2
  rw[M3 vars (SV _) t ho]at g1
  exact⟨g1,Xm Kj F Kra vars hvl vals (fun z hz=>(hz4 z hz).mono (by omega)) _ t 0 (Nat.lt_succ_self _) hr⟩
 unfold Rq at gf
 obtain⟨q,hq⟩:∃ q,q=Cg vars t:=⟨_,rfl⟩
 rw[←hq]at gf gb
 clear hq
 obtain⟨y,ok⟩:=q
 obtain⟨yk,yt,ye,ys⟩:=y
 obtain⟨k,l,r,o,p,s,ks⟩:=t
 refine Kl.fn' hn6 _ rfl ((e6 ..).trans ?_)
 refine(Aa ha _).trans ?_
 simp only[ND,Ab]
 rw[DI]at gn gf gb
 refine(Aa gn _).trans ?_
 simp only[ND,Ab]
 by_cases h2:60<n
 .exact(Aq (by omega)).trans rfl
 refine(Ap (by omega)).trans ?_
 rw[Ax]
 by_cases h3:10<vars.length
 .exact(Aq (by omega)).trans rfl
 refine(Ap (by omega)).trans ?_
 refine(Aa gw _).trans ?_
 simp only[ND,Ab]
 by_cases h4:vals.length<=10/\∀ z∈vals,z.abs.length<=4
 .rw[decide_eq_true h4]
  refine(Az _ _).trans ?_
  by_cases h5:(BN (.mk k l r o p s ks) 0&&ok)=true
  .rw[if_pos h5]at gf
   rw[Bool.and_eq_true]at h5
   obtain⟨g1,g2⟩:=gb h5.1 h5.2 h4.1 h4.2
   rw[eF]at gf g1
   refine(Aa gf _).trans ?_
   simp only[eN,ND,Ab]at g1 ⊢
   refine(CM _ _).trans ?_
   refine(Aa g1 _).trans ?_
   simp only[ND,Ab]
   generalize Dm vars (CK (vals.map zv)) (.mk k l r o p s ks)=b at g2
   cases b with
   |true=>
    refine(Az _ _).trans ?_
    refine(Aa g2 _).trans ?_
    rfl
   |false=>
    refine(CM _ _).trans ?_
    refine(Aa g2 _).trans ?_
    rfl
  .rw[if_neg h5]at gf
   refine(Aa gf _).trans ?_
   rfl
 .rw[decide_eq_false h4]
  rfl
end
end Go.Proofs.YtlmhajfbpplpoaaGreat
namespace Go.Proofs.YtlmhajfbpplpoaaGreat
open Go.ChangeShapes Go.WideShapes Go.ChangeAt Go.RowKit
theorem Pd:∀ l:List Pt,A8 (Av eP l)=true
 |[]=>rfl
 |x::r=>by
  have ih:=Pd r
  have h1:Av eP (x::r)=eP x++Av eP r:=by simp[Av]
  rw[h1,BA,List.all_append,←BA,←BA,ih]
  rfl
theorem Ti{l:List Pt}(h:l.length<=1000000000):Fh 3 (Ch 3 40) [.ls (l.map eP)] []=some (.sl 0 0 l.length 3,[.set (GZ l)]):=by
 unfold Fh Ch
 have h4:Nat.ble (Be (l.map eP)*40) 140737488355328=true:=by
  rw[Ax]
  simp
  omega
 have h1:JP (Iz (l.map eP))=true:=by rw[EX];exact JQ ZL l
 have h2:A8 (Iz (l.map eP))=true:=by rw[EX];exact Pd l
 simp only[Iy AK,h1,h2,h4,Bool.and_true,if_true,Option.map_some]
 rw[Ax,EX]
theorem Wm{n:Nat}(h:n<=1000000000):Fh 3 (GI 40) [.v (.slice none 0 0),iv (n:Int)] []=some (.sl 0 0 0 3,[.set (GZ [])]):=by
 have h4:Nat.ble (n*40) 140737488355328=true:=by simp;omega
 show (if Nat.ble (n*40) 140737488355328=true then some (0,([]:List AV)) else none).map _=_
 rw[if_pos h4]
 rfl
theorem KY:LexN Ib where
 name s hs:=Adn (by unfold Cx CF;simp only[sv,hs,if_true];rfl)
 num s hs:=XE (by unfold Cx BV;simp only[sv,hs,if_true];rfl)
theorem X3:CloneF Ib where
 nat l h:=XC (V8 h)
theorem Qw:PartF Ib where
 clone l h:=XD (Ti h)
 grow n h:=AaO (Wm h)
theorem AhE:ZF Ib:=Ak1 AjY Aj6 X3
theorem AnL:RF Ib:=AkS Aj2 Aj3
theorem SA:SeatOk Tryz.prog Ah Um:=Xd YU Qk Rt V9 Tn Wo (gAy _) (gAy _) (gAy _) (gAy _)
theorem NW:BN t1 0=true:=by kernel_rfl
theorem Adc:(DW [AE [120]] Vo).2=true:=by kernel_rfl
theorem AbJ:(Cg [AE [120],AE [121],AE [97]] t1).2=true:=by kernel_rfl
theorem Ab8:(Cg [AE [120],AE [121],AE [97]] t1).1.kind=4:=by kernel_rfl
theorem AgI:(DW [AE [120]] Vo).1.ps.length=1:=by
 obtain⟨l,hl,c,hc,h0⟩:∃ l,DX [AE [120]] Vo Mr=some l/\∃ c:Int,l.ps=[(0,c)]/\c≠0:=by
  refine⟨_,rfl,_,rfl,?_⟩
  have e1:GE (FF (AE [50])).1=(AZ 2,0):=by
   have:(FF (AE [50])).1=AE [50]:=by kernel_rfl
   rw[this]
   rfl
  have e2:(FF (AE [50])).2=false:=by kernel_rfl
  have e3:zv (Fi (AE [50])).1=2:=by
   unfold Fi
   rw[e1,e2,if_pos rfl]
   simp only[AJ,AY]
   rfl
  show Gc ⟨true,AE [50],AE [120]⟩≠0
  unfold Gc I8
  rw[if_pos rfl,if_neg (by decide),e3]
  decide
 unfold DW
 rw[if_pos (show Pm Vo=true by kernel_rfl),hl]
 simp only[Lf.pln,hc]
 unfold DA DA
 rw[if_pos (show (0:Int)<=0 by decide)]
 unfold G0
 rw[if_neg h0]
 rfl
theorem AhR:AlF Ib where
 term:=by
  have g:=QT Zg Zf AhE Qw Ze Zd Nk KY [AE [120]] (by decide) Vo (K4.1 (show Pf Vo=true by kernel_rfl)).2 (by decide)
  rw[Adc]at g
  have hl:=AgI
  refine⟨_,_,_,g,?_⟩
  rw[Ax]
  simpa[Lf.tm]using hl
 form:=by
  have g:=UA Zg Aey Zf AhE Qw Aex Ze Zd Nk KY [AE [120],AE [121],AE [97]] (by decide) t1 Afp
  unfold Rq at g
  rw[NW,AbJ,if_pos (show (true&&true)=true from rfl)]at g
  have hk:=Ab8
  generalize (Cg [AE [120],AE [121],AE [97]] t1).1=y at g hk
  obtain⟨yk,yt,ye,ys⟩:=y
  have hk:yk=4:=hk
  subst hk
  rw[eF]at g
  exact⟨_,_,_,_,_,g⟩
 text:=Ado Ab9
 sumText:=Uz (by unfold Cx;rw[Ot Vo (by kernel_rfl)];kernel_rfl)
 right:=(Q6 Nk KY t1 Afp).trans (by rw[NW])
 rightSum:=Ez Nk KY Vo (K4.1 (show Pf Vo=true by kernel_rfl)).2 (by decide)
 bare:=UI Nk t1
 cmp:=N3 Nk KY To UM
 ct:=Oa Aj8
theorem Aa0:Ib.ask (.fn 14) [] []=some (bv true,[]):=XQ AjW AhR (Km AgF) (Km AgG) (S4 AgH)
end Go.Proofs.YtlmhajfbpplpoaaGreat
