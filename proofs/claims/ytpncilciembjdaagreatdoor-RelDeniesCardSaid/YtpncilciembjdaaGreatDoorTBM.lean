/-
  How long what is handed in may be.
  Numbers that are handed in.
  Formulas as they lie in cells; what is made of comparisons and conditions. No program in sight.
  Values of sums, variable by variable. No program in sight.
  Functions of the program as trees: what a call comes to.
  What logic's functions come to: copies, Not, And, Or, comparisons.
  Functions of the program as trees: what a call comes to.
  What the reference's functions of layer 1 come to: Trim, At, Cmp, Add, Sub, small.
  What the reference's functions of layer 1 come to: Mul, Parse, Same.
  Functions of the program as trees: what a call comes to.
  What the reference's functions of layer 2 come to.
  What is known of the reference's numbers, in one.
  What the references' values and truths come to.
  Functions of the program as trees: what a call comes to.
  What a term's value, a relation's truth, and what denies it come to; layer 4's laws RelHolds and RelDenies, over D.
  Terms and relations that are handed in.
  The row of a law that lists package-level variables, out of a contract; its tied card.
  A world in which the listed tables lie as the program's text lays them.
  RelDenies: the row and its tied card.
-/
import Derived.Test.YtpncilciembjdaaGreatDoorTBJ
import Derived.Test.YtpncilciembjdaaGreatDoorTBL
import Derived.Test.YtpncilciembjdaaGreatDoorTAS
import Derived.Test.YtpncilciembjdaaGreatDoorTBI
import Derived.Test.YtpncilciembjdaaGreatDoorTBH
import Derived.Test.YtpncilciembjdaaGreatDoorTBF
import Derived.Test.YtpncilciembjdaaGreatDoorTBK
import Derived.Deep.DeepHandedRow
import Derived.LaidLaws
import Derived.Test.YtpncilciembjdaaGreatDoorTie
import Derived.Test.YtpncilciembjdaaGreatDoorTBG
import Derived.Test.YtpncilciembjdaaGreatDoorCards
import Derived.Test.YtpncilciembjdaaGreatDoorTAN
import Derived.ProofKit
import Derived.SevenTiedAt
set_option linter.unusedSectionVars false
set_option linter.unusedSimpArgs false
set_option linter.unusedVariables false
namespace Go.Proofs.YtpncilciembjdaaGreatDoor
open Go.ChangeShapes Go.WideShapes Go.ChangeAt Go.RowKit

theorem reach_lt{n b:Nat}(hb:2<=b)(h:n*b<=reachBytes):n<4611686018427387904:=by
 have h1:n*2<=n*b:=Nat.mul_le_mul_left n hb
 have h2:reachBytes<9223372036854775808:=by decide +kernel
 omega
end Go.Proofs.YtpncilciembjdaaGreatDoor
namespace Go.Proofs.YtpncilciembjdaaGreatDoor
open Go.ChangeShapes Go.WideShapes Go.ChangeAt Go.RowKit

theorem limbs_of{y:D}(h:D.Typed Tryz.prog y 24):∃ l:List Nat,y.av=[eN l]/\Limbs l:=by
 obtain⟨xs,rfl,hx⟩:=h.slice_ Tryz.underlying24
 have:∀ xs:List D,(∀ y∈xs,D.Typed Tryz.prog y 134)->∃ l:List Nat,xs.map D.av=l.map eL/\Limbs l:=fun xs=>by
  induction xs with
  |nil=>intro _;exact⟨[],rfl,limbs_nil⟩
  |cons x r ih=>
   intro hh
   obtain⟨l,e1,e2⟩:=ih fun y hy=>hh y (List.mem_cons_of_mem _ hy)
   obtain⟨n,rfl,hw⟩:=(hh x (List.mem_cons_self ..)).int_ Tryz.underlying134
   have hw:0<=n/\n<4294967296:=by
    simp only[Lit.wf,Bool.and_eq_true,decide_eq_true_eq]at hw
    have h1:IntKind.u32.min=0:=by decide
    have h2:IntKind.u32.max=4294967295:=by decide
    omega
   obtain⟨m,rfl⟩:=Int.eq_ofNat_of_zero_le hw.1
   exact⟨m::l,by rw[List.map_cons,List.map_cons,e1];rfl,limbs_cons (by omega) e2⟩
 obtain⟨l,e1,e2⟩:=this xs hx
 exact⟨l,by rw[D.av,avRows_map,e1];rfl,e2⟩
theorem zi_of{y:D}(h:D.Typed Tryz.prog y 26):∃ z:Zi,y.av=eZ z/\Limbs z.abs:=by
 obtain⟨xs,rfl,g0⟩:=h.struct_ Tryz.underlying26
 obtain⟨x0,r0,rfl,h0,g1⟩:=D.TypedFields.cons_ g0
 obtain⟨x1,r1,rfl,h1,g2⟩:=D.TypedFields.cons_ g1
 obtain rfl:=D.TypedFields.nil_ g2
 obtain⟨b,rfl⟩:=h0.bool_ Tryz.underlying4
 obtain⟨l,e1,e2⟩:=limbs_of h1
 refine⟨⟨b,l⟩,?_,e2⟩
 show D.av (.agg [.bool b,x1])=_
 simp only[D.av,avCat,e1]
 rfl
theorem zis_of{y:D}(h:D.Typed Tryz.prog y 42)(hf:D.Fits Tryz.prog y 42):∃ zs:List Zi,y.av=[.ls (zs.map eZ)]/\zs.length<4611686018427387904/\∀ z∈zs,Limbs z.abs:=by
 obtain⟨xs,rfl,hx⟩:=h.slice_ Tryz.underlying42
 obtain⟨h1,h2⟩:=hf.slice_ Tryz.underlying42
 have hl:=reach_lt (Nat.le_of_ble_eq_true (by kernel_rfl)) h1
 have:∀ xs:List D,(∀ y∈xs,D.Typed Tryz.prog y 26)->∃ zs:List Zi,xs.map D.av=zs.map eZ/\zs.length=xs.length/\∀ z∈zs,Limbs z.abs:=fun xs=>by
  induction xs with
  |nil=>intro _;exact⟨[],rfl,rfl,by simp⟩
  |cons x r ih=>
   intro hh
   obtain⟨zs,e1,e2,e3⟩:=ih fun y hy=>hh y (List.mem_cons_of_mem _ hy)
   obtain⟨z,k1,k2⟩:=zi_of (hh x (List.mem_cons_self ..))
   refine⟨z::zs,by rw[List.map_cons,List.map_cons,e1,k1],by simp[e2],fun u hu=>?_⟩
   rcases List.mem_cons.1 hu with rfl|hu
   .exact k2
   .exact e3 u hu
 obtain⟨zs,e1,e2,e3⟩:=this xs hx
 exact⟨zs,by rw[D.av,avRows_map,e1],by omega,e3⟩
end Go.Proofs.YtpncilciembjdaaGreatDoor
namespace Go.Proofs.YtpncilciembjdaaGreatDoor
open Go.RowKit

inductive Fm where
 |mk (kind:Int) (t:Tm) (eq:Bool) (kids:List Fm)
def Fm.kind:Fm->Int
 |.mk k _ _ _=>k
def Fm.tm:Fm->Tm
 |.mk _ t _ _=>t
def Fm.eq:Fm->Bool
 |.mk _ _ e _=>e
def Fm.kids:Fm->List Fm
 |.mk _ _ _ ks=>ks
def Tm0:Tm:=⟨[],⟨false,[]⟩⟩
def kF(k:Int)(ks:List Fm):Fm:=.mk k Tm0 false ks
def truF(b:Bool):Fm:=kF (if b then 0 else 1) []
def atomF(l:Lf)(e:Bool):Fm:=.mk 2 l.tm e []
mutual
def cloneF:Fm->Fm
 |.mk k t e ks=>if k=0 then truF true else if k=2 then atomF t.lf.pln e else if k=3 then kF 3 (cloneF1 ks) else if k=4\/k=5 then kF k (cloneFs ks) else truF false
def cloneF1:List Fm->List Fm
 |[]=>[]
 |x::_=>[cloneF x]
def cloneFs:List Fm->List Fm
 |[]=>[]
 |x::r=>cloneF x::cloneFs r
end
def relH(v:Int)(e:Bool):Bool:=decide (v=0)||(!e&&decide (0<v))
theorem val_num(f:Int->Int)(k:Int):(Lf.num k).val f=k:=by
 show 0+k=k
 omega
mutual
inductive CanF:Fm->Prop
 |tru (b:Bool):CanF (truF b)
 |atom (l:Lf) (e:Bool) (h:l.pln=l):CanF (atomF l e)
 |no (x:Fm) (h:CanF x):CanF (kF 3 [x])
 |and (l:List Fm) (h:CanFs l):CanF (kF 4 l)
 |or (l:List Fm) (h:CanFs l):CanF (kF 5 l)
 |no0:CanF (kF 3 [])
inductive CanFs:List Fm->Prop
 |nil:CanFs []
 |cons {x:Fm} {r:List Fm} (h:CanF x) (hr:CanFs r):CanFs (x::r)
end
mutual
theorem CanF.clone:∀{x:Fm},CanF x->cloneF x=x
 |_,.tru b=>by cases b<;>rfl
 |_,.atom l e h=>by
  unfold atomF
  rw[cloneF,if_neg (by decide),if_pos rfl,tm_lf,h]
  rfl
 |_,.no x h=>by
  unfold kF
  rw[cloneF,if_neg (by decide),if_neg (by decide),if_pos rfl,cloneF1,h.clone]
  rfl
 |_,.and l h=>by
  unfold kF
  rw[cloneF,if_neg (by decide),if_neg (by decide),if_neg (by decide),if_pos (.inl rfl),h.clone]
  rfl
 |_,.or l h=>by
  unfold kF
  rw[cloneF,if_neg (by decide),if_neg (by decide),if_neg (by decide),if_pos (.inr rfl),h.clone]
  rfl
 |_,.no0=>rfl
theorem CanFs.clone:∀{l:List Fm},CanFs l->cloneFs l=l
 |_,.nil=>rfl
 |_,.cons h hr=>by rw[cloneFs,h.clone,hr.clone]
end
theorem sub_can(l r:Lf):(l.sub r).pln=l.sub r:=pln_pln _
end Go.Proofs.YtpncilciembjdaaGreatDoor
namespace Go.Proofs.YtpncilciembjdaaGreatDoor
open Go.RowKit

def sumC(ps:List (Int × Int))(vals:List Int):Nat->Int
 |0=>0
 |n+1=>sumC ps vals n+coefL (n:Int) ps*vals.getD n 0
theorem valF_nat(vals:List Int)(n:Nat):valF vals (n:Int)=vals.getD n 0:=by
 unfold valF
 rw[if_neg (by omega),Int.toNat_natCast]
theorem valF_far(vals:List Int){v:Int}(h:(vals.length:Int)<=v):valF vals v=0:=by
 unfold valF
 rw[if_neg (by omega),List.getD_eq_getElem?_getD,List.getElem?_eq_none (by omega)]
 rfl
theorem sumC_nil(vals:List Int):∀ n,sumC [] vals n=0
 |0=>rfl
 |n+1=>by rw[sumC,sumC_nil vals n,coefL,Int.zero_mul];rfl
theorem sumC_cons(p:Int × Int)(r:List (Int × Int))(vals:List Int):∀ n:Nat,sumC (p::r) vals n=(if 0<=p.1/\p.1<(n:Int) then p.2*valF vals p.1 else 0)+sumC r vals n
 |0=>by rw[sumC,sumC,if_neg (by omega)];rfl
 |n+1=>by
  rw[sumC,sumC,sumC_cons p r vals n,coefL,Int.add_mul]
  by_cases h:p.1=(n:Int)
  .rw[if_pos h,if_neg (by omega),if_pos (by omega),h,valF_nat]
   omega
  .rw[if_neg h,Int.zero_mul]
   by_cases h2:0<=p.1/\p.1<(n:Int)
   .rw[if_pos h2,if_pos (by omega)];omega
   .rw[if_neg h2,if_neg (by omega)];omega
theorem sumV_sumC(vals:List Int):∀ ps:List (Int × Int),sumV (valF vals) ps=sumC ps vals vals.length
 |[]=>by rw[sumC_nil];rfl
 |p::r=>by
  rw[sumC_cons,sumV,sumV_sumC vals r]
  by_cases h:0<=p.1/\p.1<(vals.length:Int)
  .rw[if_pos h]
  .rw[if_neg h]
   by_cases h0:p.1<0
   .rw[valF_neg _ _ h0,Int.mul_zero]
   .rw[valF_far vals (by omega),Int.mul_zero]
theorem val_sumC(vals:List Int)(l:Lf):l.val (valF vals)=l.k+sumC l.ps vals vals.length:=by
 unfold Lf.val
 rw[sumV_sumC]
 omega
theorem getD_inb{k:Nat}{vals:List Int}(h:∀ x∈vals,InB k x)(n:Nat):InB k (vals.getD n 0):=by
 rw[List.getD_eq_getElem?_getD]
 cases e:vals[n]? with
 |none=>exact InB.zero _
 |some x=>
  obtain⟨hn,rfl⟩:=List.getElem?_eq_some_iff.1 e
  exact h _ (List.getElem_mem hn)
theorem sumC_inb{n k j:Nat}{l:Lf}{vals:List Int}(hl:LB n k l)(hv:∀ x∈vals,InB j x):∀ m:Nat,InB (k+n+j+m) (sumC l.ps vals m)
 |0=>InB.zero _
 |m+1=>by
  rw[sumC,←Nat.add_assoc]
  refine InB.add (sumC_inb hl hv m) ?_
  have h1:=coefL_inb (m:Int) l.ps hl.ps
  have h2:=InB.mul h1 (getD_inb hv m)
  exact h2.mono (by have:=hl.len;omega)
end Go.Proofs.YtpncilciembjdaaGreatDoor
namespace Go.Proofs.YtpncilciembjdaaGreatDoor
open Go.RowKit
variable (A:Ar) (D:Orc)
end Go.Proofs.YtpncilciembjdaaGreatDoor
namespace Go.Proofs.YtpncilciembjdaaGreatDoor
open Go.RowKit

theorem LB.sub{n m k:Nat}{a b:Lf}(ha:LB n k a)(hb:LB m k b):LB (n+m) (2*k+2+2*(n+m)) (a.sub b):=by
 have h1:LB m (k+1+m) (b.scale (-1)):=hb.scale (by unfold InB;decide)
 exact(ha.add h1).mono (Nat.le_refl _) (by omega)

end Go.Proofs.YtpncilciembjdaaGreatDoor
namespace Go.Proofs.YtpncilciembjdaaGreatDoor
open Go.RowKit
variable (A:Ar) (D:Orc)
end Go.Proofs.YtpncilciembjdaaGreatDoor
namespace Go.Proofs.YtpncilciembjdaaGreatDoor
open Go.RowKit


end Go.Proofs.YtpncilciembjdaaGreatDoor
namespace Go.Proofs.YtpncilciembjdaaGreatDoor
open Go.RowKit


end Go.Proofs.YtpncilciembjdaaGreatDoor
namespace Go.Proofs.YtpncilciembjdaaGreatDoor
open Go.RowKit
variable (A:Ar) (D:Orc)
end Go.Proofs.YtpncilciembjdaaGreatDoor
namespace Go.Proofs.YtpncilciembjdaaGreatDoor
open Go.RowKit


end Go.Proofs.YtpncilciembjdaaGreatDoor
namespace Go.Proofs.YtpncilciembjdaaGreatDoor
open Go.RowKit

structure RF (D:Orc):Prop where
 clean:∀ z:Zi,Lz 1000000000 z->D.ask (.fn 75) [.agg (eZ z)] []=some (.agg (eZ (ziOf (zv z))),[])
 neg:∀ z:Zi,Lz 1000000000 z->D.ask (.fn 179) [.agg (eZ z)] []=some (.agg (eZ (ziOf (-zv z))),[])
 sign:∀ z:Zi,Lz 1000000000 z->D.ask (.fn 69) [.agg (eZ z)] []=some (iv (sgnZ (zv z)),[])
 of_:∀ n:Int,-9223372036854775808<n->n<9223372036854775808->D.ask (.fn 56) [iv n] []=some (.agg (eZ (ziOf n)),[])
 cmp:∀ a b:Zi,Lz 900000000 a->Lz 900000000 b->D.ask (.fn 53) [.agg (eZ a),.agg (eZ b)] []=some (iv (sgnZ (zv a-zv b)),[])
 add:∀ a b:Zi,Lz 900000000 a->Lz 900000000 b->D.ask (.fn 122) [.agg (eZ a),.agg (eZ b)] []=some (.agg (eZ (ziOf (zv a+zv b))),[])
 mul:∀ a b:Zi,Lz 400000000 a->Lz 400000000 b->D.ask (.fn 123) [.agg (eZ a),.agg (eZ b)] []=some (.agg (eZ (ziOf (zv a*zv b))),[])
 same:∀ a b:Zi,Lz 1000000000 a->D.ask (.fn 152) [.agg (eZ a),.agg (eZ b)] []=some (bv (decide (a.neg=b.neg/\a.abs=b.abs)),[])

end Go.Proofs.YtpncilciembjdaaGreatDoor
namespace Go.Proofs.YtpncilciembjdaaGreatDoor
open Go.RowKit

theorem sgnZ_0(n:Int):sgnZ n=0 ↔ n=0:=by
 unfold sgnZ
 repeat' split
 all_goals omega
theorem sgnZ_gt(n:Int):0<sgnZ n ↔ 0<n:=by
 unfold sgnZ
 repeat' split
 all_goals omega
section
variable {D:Orc} (Kh:Knows ownC tabRh D) (F:RF D)
include Kh F
omit Kh F in
theorem lfval_inb{n k j:Nat}{l:Lf}(hl:LB n k l){vals:List Int}(hv:∀ x∈vals,InB j x):InB (k+n+j+vals.length+1) (l.val (valF vals)):=by
 rw[val_sumC,Int.add_comm]
 exact InB.add (sumC_inb hl hv _) (hl.k.mono (by omega))
end
section
variable {D:Orc} (Kh:Knows ownC tabRh D)
include Kh
theorem fewV_lp(vals:List Zi)(m:Int)(hl:vals.length<=1000000):∀(k i:Nat),vals.length-i=k->i<=vals.length->
  D.ask (.lp 29 0) [.ls (vals.map eZ),iv m,iv (i:Int)] []=some (if ∀ z∈vals.drop i,(z.abs.length:Int)<=m then .tup [iv 0] else .tup [bv true,bv false],[]):=by
 intro k
 induction k with
 |zero=>
  intro i hm hi
  rw[List.drop_eq_nil_of_le (by omega),if_pos (by simp)]
  refine Kh.lp' hn29 _ rfl (by kernel_rfl) ((e29_0 ..).trans ?_)
  rw[lenR_map]
  exact(br_ltF (by omega)).trans rfl
 |succ k ih=>
  intro i hm hi
  have h1:i<vals.length:=by omega
  have ih:=ih (i+1) (by omega) (by omega)
  rw[List.drop_eq_getElem_cons h1]
  refine Kh.lp' hn29 _ rfl (by kernel_rfl) ((e29_0 ..).trans ?_)
  rw[lenR_map]
  refine(br_ltT (by omega)).trans ?_
  rw[unI_n,nthK_some (List.getElem?_eq_getElem h1)]
  simp only[eZ,eN,ND,DK,unFn_fn]
  rw[lenR_map]
  by_cases hz:m<(vals[i].abs.length:Int)
  .refine(br_ltT hz).trans ?_
   rw[if_neg (fun h=>by have:=h vals[i] (List.mem_cons_self ..);omega)]
  .refine(br_ltF hz).trans ?_
   rw[add1 (by omega)]
   refine(askK_of ih _).trans ?_
   by_cases hr:∀ z∈vals.drop (i+1),(z.abs.length:Int)<=m
   .rw[if_pos hr,if_pos (fun z hz2=>by
     rcases List.mem_cons.1 hz2 with rfl|hz2
     .omega
     .exact hr z hz2)]
    rfl
   .rw[if_neg hr,if_neg (fun h=>hr fun z hz=>h z (List.mem_cons_of_mem _ hz))]
    rfl
theorem fewV_ok(vals:List Zi)(n m:Nat)(hn:n<=1000000)(hl:vals.length<4611686018427387904):D.ask (.fn 29) [.ls (vals.map eZ),iv (n:Int),iv (m:Int)] []=some (bv (decide (vals.length<=n/\∀ z∈vals,z.abs.length<=m)),[]):=by
 refine Kh.fn' hn29 _ rfl ((e29 ..).trans ?_)
 rw[lenR_map]
 by_cases h:n<vals.length
 .rw[decide_eq_false (fun e=>by omega)]
  exact br_ltT (by omega)
 .have g:=fewV_lp Kh vals m (by omega) _ 0 rfl (by omega)
  rw[List.drop_zero]at g
  refine(br_ltF (by omega)).trans ?_
  refine(askK_of g _).trans ?_
  by_cases hr:∀ z∈vals,(z.abs.length:Int)<=(m:Int)
  .rw[if_pos hr,decide_eq_true ⟨by omega,fun z hz=>by have:=hr z hz;omega⟩]
   rfl
  .rw[if_neg hr,decide_eq_false (fun e=>hr fun z hz=>by have:=e.2 z hz;omega)]
   rfl
end
end Go.Proofs.YtpncilciembjdaaGreatDoor
namespace Go.Proofs.YtpncilciembjdaaGreatDoor
open Go.RowKit
variable (A:Ar) (D:Orc)
end Go.Proofs.YtpncilciembjdaaGreatDoor
namespace Go.Proofs.YtpncilciembjdaaGreatDoor
open Go.RowKit

def eRl(r:Tm × Bool):List AV:=eT r.1++[bv r.2]
theorem eRl_mk(ps:List Pt)(kz:Zi)(e:Bool):eRl (⟨ps,kz⟩,e)=[.ls (ps.map eP),bv kz.neg,eN kz.abs,bv e]:=rfl
section
variable {D:Orc} (Kv:Knows ownC tabHv D) (Kt:Knows ownC tabTe D) (Z:ZF D)
include Kv Z
theorem tvalue_lp{n k j:Nat}(ps:List Pt)(hl:ps.length<=n)(hn:n<=1000000)(hz:∀ p∈ps,Lz k p.z)(vals:List Zi)(hv:∀ z∈vals,Lz j z)(hv24:∀ z∈vals,z.abs.length<24)(hvl:vals.length<=1000000)(hk:k+j+1+n<=400000000)(y0:Bool)(y1:List (List AV)):∀(m i:Nat) (acc:Int),ps.length-i=m->i<=ps.length->InB (k+j+1+i) acc->
  D.ask (.lp 86 0) [.ls (vals.map eZ),.ptr 0 0,.ptr 1 0,.ls (ps.map eP),iv (ps.length:Int),iv (i:Int)] [⟨[bv y0,.ls y1],true,false⟩,⟨eZ (ziOf acc),true,false⟩]
   = some (.tup [iv 0,.ptr 0 0,.ptr 1 0],[.set ⟨[bv y0,.ls y1],true,false⟩,.set ⟨eZ (ziOf (acc+sumV (valF (vals.map zv)) ((ps.drop i).map pv))),true,false⟩]):=by
 intro m
 induction m with
 |zero=>
  intro i acc hm hi ha
  rw[List.drop_eq_nil_of_le (by omega),List.map_nil,sumV,Int.add_zero]
  refine Kv.lp' hn86 _ rfl (by kernel_rfl) ((e86_0 ..).trans ?_)
  exact(br_ltF (by omega)).trans rfl
 |succ m ih=>
  intro i acc hm hi ha
  have h1:i<ps.length:=by omega
  have hn1:∀ kk,nthK (ps.map eP) i kk=kk (eP ps[i]):=fun kk=>nthK_some (List.getElem?_eq_getElem h1) kk
  have hzp:=hz ps[i] (List.getElem_mem h1)
  rw[List.drop_eq_getElem_cons h1,List.map_cons,sumV]
  revert hn1 hzp
  generalize ps[i]=p
  intro hn1 hzp
  have hp:∀ v:Int,(pv p).2*valF (vals.map zv) (pv p).1=v->acc+(v+sumV (valF (vals.map zv)) ((ps.drop (i+1)).map pv))=acc+v+sumV (valF (vals.map zv)) ((ps.drop (i+1)).map pv):=fun v _=>by omega
  rw[hp _ rfl]
  have skip:valF (vals.map zv) (pv p).1=0->D.ask (.lp 86 0) [.ls (vals.map eZ),.ptr 0 0,.ptr 1 0,.ls (ps.map eP),iv (ps.length:Int),iv ((i+1:Nat):Int)] [⟨[bv y0,.ls y1],true,false⟩,⟨eZ (ziOf acc),true,false⟩]
   = some (.tup [iv 0,.ptr 0 0,.ptr 1 0],[.set ⟨[bv y0,.ls y1],true,false⟩,.set ⟨eZ (ziOf (acc+(pv p).2*valF (vals.map zv) (pv p).1+sumV (valF (vals.map zv)) ((ps.drop (i+1)).map pv))),true,false⟩]):=fun h0=>by
   have g:=ih (i+1) acc (by omega) (by omega) (ha.mono (by omega))
   rw[h0,Int.mul_zero,Int.add_zero]
   exact g
  refine Kv.lp' hn86 _ rfl (by kernel_rfl) ((e86_0 ..).trans ?_)
  refine(br_ltT (by omega)).trans ?_
  rw[unI_n,hn1]
  simp only[eP,eN,ND,DK,unFn_fn]
  rw[lenR_map,add1 (by omega)]
  by_cases h0:0<=p.v
  .refine(br_leT h0).trans ?_
   by_cases h2:p.v<(vals.length:Int)
   .refine(br_ltT h2).trans ?_
    obtain⟨v,hvv⟩:=Int.eq_ofNat_of_zero_le h0
    have h3:v<vals.length:=by omega
    have hn2:∀ kk,nthK (vals.map eZ) v kk=kk (eZ vals[v]):=fun kk=>nthK_some (List.getElem?_eq_getElem h3) kk
    have hx:=hv vals[v] (List.getElem_mem h3)
    have hx24:=hv24 vals[v] (List.getElem_mem h3)
    have ev:valF (vals.map zv) (pv p).1=zv vals[v]:=by
     show valF _ p.v=_
     rw[hvv,valF_nat,List.getD_eq_getElem?_getD,List.getElem?_map,List.getElem?_eq_getElem h3]
     rfl
    rw[ev]
    rw[hvv,unI_n,hn2]
    revert hn2 hx hx24
    generalize vals[v]=x
    intro _ hx hx24
    have gm:=Z.mul p.z x (hzp.mono (by omega)) (hx.mono (by omega)) (.inr hx24)
    have hpr:InB (k+j) (zv p.z*zv x):=InB.mul hzp.inb hx.inb
    have ga:=Z.add (ziOf acc) (ziOf (zv p.z*zv x)) (ha.lz.mono (by omega)) (hpr.lz.mono (by omega))
    rw[zv_ziOf,zv_ziOf]at ga
    have g:=ih (i+1) (acc+zv p.z*zv x) (by omega) (by omega) (by
     show InB (k+j+1+i+1) _
     exact InB.add ha (hpr.mono (by omega)))
    obtain⟨xn,xa⟩:=x
    simp only[eZ,eN,ND,DK,unFn_fn]at gm ga g ⊢
    refine(askK_of gm _).trans ?_
    simp only[ND,DK,unFn_fn]
    refine(askK_of ga _).trans ?_
    simp only[ND,DK,unFn_fn]
    refine(askK_of g _).trans ?_
    rfl
   .refine(br_ltF h2).trans ?_
    have g:=skip (valF_far _ (by rw[List.length_map];show _<=p.v;omega))
    simp only[eZ,eN]at g ⊢
    refine(askK_of g _).trans ?_
    rfl
  .refine(br_leF h0).trans ?_
   have g:=skip (valF_neg _ _ (by show p.v<0;omega))
   simp only[eZ,eN]at g ⊢
   refine(askK_of g _).trans ?_
   rfl
include Kt in
theorem tvalue_ok{n k j:Nat}{t:Tm}(ht:TmB n k t)(hn:n<=1000000)(vals:List Zi)(hv:∀ z∈vals,Lz j z)(hv24:∀ z∈vals,z.abs.length<24)(hvl:vals.length<=1000000)(hk:k+j+1+n<=400000000):D.ask (.fn 86) [.agg (eT t),.ls (vals.map eZ)] []=some (.agg (eZ (ziOf (t.lf.val (valF (vals.map zv))))),[]):=by
 obtain⟨ps,kz⟩:=t
 have gc:=copiedZ_ok Kt Z (ht.k.mono (show k<=1000000000 by omega))
 have hl:ps.length<=n:=ht.len
 have g:=tvalue_lp Kv Z ps hl hn ht.ps vals hv hv24 hvl hk false [] _ 0 (zv kz) rfl (by omega) (ht.k.inb.mono (by omega))
 rw[List.drop_zero]at g
 have el:zv kz+sumV (valF (vals.map zv)) (ps.map pv)=(Tm.mk ps kz).lf.val (valF (vals.map zv)):=by
  unfold Lf.val Tm.lf
  exact Int.add_comm _ _
 rw[el]at g
 refine Kv.fn' hn86 _ rfl ((e86 ..).trans ?_)
 refine(askK_of gc _).trans ?_
 simp only[eZ,eN,ND,DK,unFn_fn,lenR_map]at g ⊢
 refine(askK_of g _).trans ?_
 rfl
include Kt in
theorem relholds_ok{n k j:Nat}{t:Tm}(ht:TmB n k t)(hn:n<=1000000)(e:Bool)(vals:List Zi)(hv:∀ z∈vals,Lz j z)(hv24:∀ z∈vals,z.abs.length<24)(hvl:vals.length<=1000000)(hk:k+n+j+1+vals.length<=400000000):D.ask (.fn 30) [.agg (eRl (t,e)),.ls (vals.map eZ)] []=some (bv (relH (t.lf.val (valF (vals.map zv))) e),[]):=by
 have g:=tvalue_ok Kv Kt Z ht hn vals hv hv24 hvl (by omega)
 have hb:=lfval_inb ht.lb (vals:=vals.map zv) (fun x hx=>by
  rw[List.mem_map]at hx
  obtain⟨z,hz,rfl⟩:=hx
  exact(hv z hz).inb)
 rw[List.length_map]at hb
 generalize t.lf.val (valF (vals.map zv))=x at g hb
 have gs:=Z.sign (ziOf x) (hb.lz.mono (by omega))
 rw[zv_ziOf]at gs
 obtain⟨ps,kz⟩:=t
 refine Kv.fn' hn30 _ rfl ((e30 ..).trans ?_)
 refine(askK_of g _).trans ?_
 simp only[eZ,eN,ND,DK,unFn_fn]at gs ⊢
 refine(askK_of gs _).trans ?_
 simp only[ND,DK,unFn_fn]
 unfold relH
 by_cases h0:x=0
 .refine(br_eqT ((sgnZ_0 x).2 h0)).trans ?_
  rw[decide_eq_true h0]
  rfl
 .refine(br_eqF fun h=>h0 ((sgnZ_0 x).1 h)).trans ?_
  rw[decide_eq_false h0]
  cases e with
  |true=>rfl
  |false=>
   refine(br_t _ _).trans ?_
   by_cases h1:0<x
   .refine(br_ltT ((sgnZ_gt x).2 h1)).trans ?_
    rw[decide_eq_true h1]
    rfl
   .refine(br_ltF fun h=>h1 ((sgnZ_gt x).1 h)).trans ?_
    rw[decide_eq_false h1]
    rfl
end
section
variable {D:Orc} (Kw:Knows ownC tabFw D)
include Kw
def okPs(L:Int)(ps:List Pt):Bool:=ps.all fun p=>decide ((p.z.abs.length:Int)<=L)
def okRl(L:Int)(r:Tm × Bool):Bool:=decide (r.1.ps.length<=20)&&(decide ((r.1.k.abs.length:Int)<=L)&&okPs L r.1.ps)
theorem few1_lp(rs:List (Tm × Bool))(L:Int)(i:Nat)(h1:i<rs.length)(hl:rs[i].1.ps.length<=20):∀(m k:Nat),rs[i].1.ps.length-k=m->k<=rs[i].1.ps.length->
  D.ask (.lp 16 1) [.ls (rs.map eRl),iv L,iv (i:Int),iv (k:Int)] []=some (if okPs L (rs[i].1.ps.drop k)=true then .tup [iv 2,.ls (rs.map eRl),iv L,iv (i:Int)] else .tup [bv true,bv false],[]):=by
 have hn1:∀ kk,nthK (rs.map eRl) i kk=kk (eRl rs[i]):=fun kk=>nthK_some (List.getElem?_eq_getElem h1) kk
 revert hn1 hl
 generalize rs[i]=r
 intro hl hn1
 obtain⟨⟨ps,kz⟩,e⟩:=r
 simp only at hl ⊢
 intro m
 induction m with
 |zero=>
  intro k hm hk
  rw[List.drop_eq_nil_of_le (by omega)]
  refine Kw.lp' hn16 _ rfl (by kernel_rfl) ((e16_1 ..).trans ?_)
  simp only[unI_n,hn1,eRl_mk,eN,ND,DK,unFn_fn,lenR_map]
  exact(br_ltF (by omega)).trans rfl
 |succ m ih=>
  intro k hm hk
  have h2:k<ps.length:=by omega
  have ih:=ih (k+1) (by omega) (by omega)
  have hn2:∀ kk,nthK (ps.map eP) k kk=kk (eP ps[k]):=fun kk=>nthK_some (List.getElem?_eq_getElem h2) kk
  rw[List.drop_eq_getElem_cons h2]
  revert hn2
  generalize ps[k]=p
  intro hn2
  unfold okPs at ih ⊢
  rw[List.all_cons]
  refine Kw.lp' hn16 _ rfl (by kernel_rfl) ((e16_1 ..).trans ?_)
  simp only[unI_n,hn1,hn2,eRl_mk,eP,eN,ND,DK,unFn_fn,lenR_map]
  refine(br_ltT (by omega)).trans ?_
  by_cases hz:L<(p.z.abs.length:Int)
  .refine(br_ltT hz).trans ?_
   rw[decide_eq_false (by omega:¬ (p.z.abs.length:Int)<=L)]
   rfl
  .refine(br_ltF hz).trans ?_
   rw[decide_eq_true (by omega:(p.z.abs.length:Int)<=L),Bool.true_and,add1 (by omega)]
   refine(askK_of ih _).trans ?_
   cases (ps.drop (k+1)).all fun p=>decide ((p.z.abs.length:Int)<=L)<;>rfl
theorem few0_lp(rs:List (Tm × Bool))(L:Int)(hrl:rs.length<=1000000):∀(m i:Nat),rs.length-i=m->i<=rs.length->
  D.ask (.lp 16 0) [.ls (rs.map eRl),iv L,iv (i:Int)] []=some (if(rs.drop i).all (okRl L)=true then .tup [iv 0] else .tup [bv true,bv false],[]):=by
 intro m
 induction m with
 |zero=>
  intro i hm hi
  rw[List.drop_eq_nil_of_le (by omega)]
  refine Kw.lp' hn16 _ rfl (by kernel_rfl) ((e16_0 ..).trans ?_)
  rw[lenR_map]
  exact(br_ltF (by omega)).trans rfl
 |succ m ih=>
  intro i hm hi
  have h1:i<rs.length:=by omega
  have ih:=ih (i+1) (by omega) (by omega)
  have hn1:∀ kk,nthK (rs.map eRl) i kk=kk (eRl rs[i]):=fun kk=>nthK_some (List.getElem?_eq_getElem h1) kk
  have g1:=few1_lp Kw rs L i h1
  rw[List.drop_eq_getElem_cons h1,List.all_cons]
  revert hn1 g1
  generalize rs[i]=r
  obtain⟨⟨ps,kz⟩,e⟩:=r
  intro hn1 g1
  simp only at g1
  unfold okRl
  simp only
  refine Kw.lp' hn16 _ rfl (by kernel_rfl) ((e16_0 ..).trans ?_)
  rw[lenR_map]
  refine(br_ltT (by omega)).trans ?_
  simp only[unI_n,hn1,eRl_mk,eN,ND,DK,unFn_fn,lenR_map]
  by_cases hp:ps.length<=20
  .refine(br_ltF (by omega)).trans ?_
   rw[decide_eq_true hp,Bool.true_and]
   by_cases hk:(kz.abs.length:Int)<=L
   .refine(br_ltF (by omega)).trans ?_
    rw[decide_eq_true hk,Bool.true_and]
    have g1:=g1 hp _ 0 rfl (Nat.zero_le _)
    rw[List.drop_zero]at g1
    refine(askK_of g1 _).trans ?_
    cases hr:okPs L ps with
    |true=>
     rw[if_pos rfl,Bool.true_and]
     simp only[ND,DK,unFn_fn,ax_3]
     rw[add1 (by omega)]
     refine(askK_of ih _).trans ?_
     unfold okRl
     cases (rs.drop (i+1)).all fun r=>decide (r.1.ps.length<=20)&&(decide ((r.1.k.abs.length:Int)<=L)&&okPs L r.1.ps)<;>rfl
    |false=>rfl
   .refine(br_ltT (by omega)).trans ?_
    rw[decide_eq_false hk]
    rfl
  .refine(br_ltT (by omega)).trans ?_
   rw[decide_eq_false hp]
   rfl
theorem few_ok(rs:List (Tm × Bool))(n:Nat)(L:Int)(hn:n<=1000000):D.ask (.fn 16) [.ls (rs.map eRl),iv (n:Int),iv L] []=some (bv (decide (rs.length<=n)&&rs.all (okRl L)),[]):=by
 refine Kw.fn' hn16 _ rfl ((e16 ..).trans ?_)
 rw[lenR_map]
 by_cases h:n<rs.length
 .rw[decide_eq_false (by omega:¬ rs.length<=n)]
  exact br_ltT (by omega)
 .have g:=few0_lp Kw rs L (by omega) _ 0 rfl (by omega)
  rw[List.drop_zero]at g
  rw[decide_eq_true (by omega:rs.length<=n),Bool.true_and]
  refine(br_ltF (by omega)).trans ?_
  refine(askK_of g _).trans ?_
  cases rs.all (okRl L)<;>rfl
end
structure LmT (t:Tm):Prop where
 ps:∀ p∈t.ps,Limbs p.z.abs
 k:Limbs t.k.abs
theorem LmT.tmb{t:Tm}{e:Bool}{L:Nat}(h:LmT t)(ho:okRl (L:Int) (t,e)=true):TmB 20 L t:=by
 unfold okRl okPs at ho
 simp only[Bool.and_eq_true,decide_eq_true_eq,List.all_eq_true]at ho
 exact⟨ho.1,fun p hp=>⟨h.ps p hp,by have:=ho.2.2 p hp;omega⟩,⟨h.k,by have:=ho.2.1;omega⟩⟩

def belowL(l:Lf):Lf:=(l.scale (-1)).sub (Lf.num 1)
theorem belowL_val{f:Int->Int}(hf:∀ v,v<0->f v=0)(l:Lf):(belowL l).val f=-(l.val f)-1:=by
 unfold belowL
 rw[val_sub hf,val_scale hf,val_num]
 omega
theorem numk_lb(k:Nat)(h:1<=k):LB 0 k (Lf.num 1):=⟨Nat.le_refl _,by simp[Lf.num],InB.one h⟩
theorem belowL_lb{n k:Nat}{l:Lf}(h:LB n k l):LB n (2*(k+1+n)+2+2*n) (belowL l):=by
 have h1:LB n (k+1+n) (l.scale (-1)):=h.scale (by unfold InB;decide)
 exact(LB.sub h1 (numk_lb (k+1+n) (by omega)):LB (n+0) _ _)
def denyL(l:Lf)(e:Bool):List (Tm × Bool):=if e then [((belowL (l.scale (-1))).tm,false),((belowL l).tm,false)] else [((belowL l).tm,false)]
section
variable {D:Orc} (Kt:Knows ownC tabTe D) (Kf:Knows ownC tabTf D) (Ks:Knows ownC tabSo D) (Z:ZF D) (C:PartF D) (Kd:Knows ownC tabRd D)
include Kt Kf Ks Z C Kd
theorem below_ok{n k:Nat}{t:Tm}(ht:TmB n k t)(hn:n<=1000)(hk:k<=1000):D.ask (.fn 79) [.agg (eT t)] []=some (.agg (eRl ((belowL t.lf).tm,false)),[]):=by
 have g1:=neg_ok Kt Kf Ks Z C ht (by omega) (by omega)
 have hs:LB n (k+1+n) (t.lf.scale (-1)):=ht.lb.scale (by unfold InB;decide)
 have g2:=Z.of_ 1 (by omega) (by omega)
 have g3:=number_ok Kt Kf Z (z:=ziOf 1) ((InB.one (Nat.le_refl 1)).lz.mono (by omega))
 rw[zv_ziOf]at g3
 have g4:=sub_ok Kt Kf Ks Z C hs.tb (numk_lb (k+1+n) (by omega)).tb (by omega) (by omega)
 rw[tm_lf,tm_lf]at g4
 have g5:=least_ok Kt Kf Ks Z C (belowL_lb ht.lb).tb (by omega) (by omega)
 rw[tm_lf,show (belowL t.lf).pln=belowL t.lf from sub_can _ _]at g5
 change D.ask _ [.agg (eT (t.lf.scale (-1)).tm),.agg (eT (Lf.num 1).tm)] []=some (.agg (eT (belowL t.lf).tm),[]) at g4
 revert g1 g4 g5
 unfold eRl
 simp only
 generalize (t.lf.scale (-1)).tm=a
 generalize (belowL t.lf).tm=c
 generalize (Lf.num 1).tm=b at g3 ⊢
 generalize ziOf 1=z at g2 g3
 intro g1 g5 g4
 obtain⟨ps,kz⟩:=t
 refine Kd.fn' hn79 _ rfl ((e79 ..).trans ?_)
 simp only[eT,eZ,eN,ND,DK,unFn_fn]at g1 g2 g3 g4 g5 ⊢
 refine(askK_of g1 _).trans ?_
 simp only[ND,DK,unFn_fn]
 refine(askK_of g2 _).trans ?_
 simp only[ND,DK,unFn_fn]
 refine(askK_of g3 _).trans ?_
 simp only[ND,DK,unFn_fn]
 refine(askK_of g4 _).trans ?_
 simp only[ND,DK,unFn_fn]
 refine(askK_of g5 _).trans ?_
 rfl
theorem deny_ok2{n k:Nat}{t:Tm}(ht:TmB n k t)(hn:n<=500)(hk:k+n+1<=1000)(e:Bool):D.ask (.fn 23) [.agg (eRl (t,e))] []=some (.ls ((denyL t.lf e).map eRl),[]):=by
 have gb:=below_ok Kt Kf Ks Z C Kd ht (by omega) (by omega)
 have g1:=neg_ok Kt Kf Ks Z C ht (by omega) (by omega)
 have hs:LB n (k+1+n) (t.lf.scale (-1)):=ht.lb.scale (by unfold InB;decide)
 have gc:=below_ok Kt Kf Ks Z C Kd hs.tb (by omega) (by omega)
 rw[tm_lf]at gc
 revert gb g1 gc
 unfold denyL
 generalize (belowL (t.lf.scale (-1))).tm=d
 generalize (t.lf.scale (-1)).tm=a
 generalize (belowL t.lf).tm=c
 intro gb g1 gc
 obtain⟨ps,kz⟩:=t
 refine Kd.fn' hn23 _ rfl ((e23 ..).trans ?_)
 simp only[eT,eRl,eN,List.cons_append,List.nil_append]at gb g1 gc ⊢
 cases e with
 |false=>
  refine(br_t _ _).trans ?_
  refine(askK_of gb _).trans ?_
  rfl
 |true=>
  refine(br_f _ _).trans ?_
  refine(askK_of g1 _).trans ?_
  simp only[ND,DK,unFn_fn]
  refine(askK_of gc _).trans ?_
  simp only[ND,DK,unFn_fn]
  refine(askK_of gb _).trans ?_
  rfl
end
section
variable {D:Orc} (Kl:Knows ownC tabLr2 D)
include Kl
theorem denies_lp(vals:List Zi)(ds:List (Tm × Bool))(h:Tm × Bool->Bool)(hl:ds.length<=1000)(g:∀ d∈ds,d.2=false/\D.ask (.fn 30) [.agg (eRl d),.ls (vals.map eZ)] []=some (bv (h d),[]))(b0:List (List AV))(b1:Bool)(b2:List (List AV))(b3:Bool):∀(m i c:Nat),ds.length-i=m->i<=ds.length->c<=i->
  D.ask (.lp 5 0) [.ls (vals.map eZ),.ptr 0 0,iv (c:Int),.ls (ds.map eRl),iv (ds.length:Int),iv (i:Int)] [⟨[.ls b0,bv b1,.ls b2,bv b3],true,false⟩]=some (.tup [iv 0,.ls (vals.map eZ),.ptr 0 0,iv ((c+(ds.drop i).countP h:Nat):Int)],[.set ⟨[.ls b0,bv b1,.ls b2,bv b3],true,false⟩]):=by
 intro m
 induction m with
 |zero=>
  intro i c hm hi hc
  rw[List.drop_eq_nil_of_le (by omega)]
  refine Kl.lp' hn5 _ rfl (by kernel_rfl) ((e5_0 ..).trans ?_)
  exact(br_ltF (by omega)).trans rfl
 |succ m ih=>
  intro i c hm hi hc
  have h1:i<ds.length:=by omega
  have hn1:∀ kk,nthK (ds.map eRl) i kk=kk (eRl ds[i]):=fun kk=>nthK_some (List.getElem?_eq_getElem h1) kk
  obtain⟨hf,gd⟩:=g ds[i] (List.getElem_mem h1)
  rw[List.drop_eq_getElem_cons h1,List.countP_cons]
  revert hn1 hf gd
  generalize ds[i]=d
  obtain⟨⟨ps,kz⟩,e⟩:=d
  intro hn1 hf gd
  have hf:e=false:=hf
  subst hf
  refine Kl.lp' hn5 _ rfl (by kernel_rfl) ((e5_0 ..).trans ?_)
  refine(br_ltT (by omega)).trans ?_
  simp only[unI_n,hn1,eRl_mk,eN,ND,DK,unFn_fn]at gd ⊢
  refine(askK_of gd _).trans ?_
  simp only[ND,DK,unFn_fn]
  cases hh:h (⟨ps,kz⟩,false) with
  |true=>
   have ih:=ih (i+1) (c+1) (by omega) (by omega) (by omega)
   refine(br_t _ _).trans ?_
   rw[add1 (by omega),add1 (by omega),if_pos rfl,show c+((ds.drop (i+1)).countP h+1)=c+1+(ds.drop (i+1)).countP h by omega]
   refine(askK_of ih _).trans ?_
   rfl
  |false=>
   have ih:=ih (i+1) c (by omega) (by omega) (by omega)
   refine(br_f _ _).trans ?_
   rw[add1 (by omega),if_neg (by decide),Nat.add_zero]
   refine(askK_of ih _).trans ?_
   rfl
variable (Kv:Knows ownC tabHv D) (Kt:Knows ownC tabTe D) (Z:ZF D) (Kw:Knows ownC tabFw D) (Kh:Knows ownC tabRh D) (Kf:Knows ownC tabTf D) (Ks:Knows ownC tabSo D) (C:PartF D) (Kd:Knows ownC tabRd D)
include Kv Kt Z Kw Kh Kf Ks C Kd
theorem lreldenies_ok(S:D.ask (.fn 15) [] []=some (bv true,[]))(t:Tm)(e:Bool)(ht:LmT t)(vals:List Zi)(hv:∀ z∈vals,Limbs z.abs)(hl:vals.length<4611686018427387904):D.ask (.fn 5) [.agg (eRl (t,e)),.ls (vals.map eZ)] []=some (bv true,[]):=by
 have gf:=few_ok Kw [(t,e)] 1 (12:Nat) (by omega)
 have gv:=fewV_ok Kh vals 20 12 (by omega) hl
 have body:okRl ((12:Nat):Int) (t,e)=true->(vals.length<=20/\∀ z∈vals,z.abs.length<=12)->∃(ds:List (Tm × Bool)) (n:Nat) (b:Bool),ds.length<=1000/\D.ask (.fn 23) [.agg (eRl (t,e))] []=some (.ls (ds.map eRl),[])/\D.ask (.fn 30) [.agg (eRl (t,e)),.ls (vals.map eZ)] []=some (bv b,[])/\n=(if b then 0 else 1) ∧
   ∀(b0:List (List AV)) (b1:Bool) (b2:List (List AV)) (b3:Bool),D.ask (.lp 5 0) [.ls (vals.map eZ),.ptr 0 0,iv 0,.ls (ds.map eRl),iv (ds.length:Int),iv 0] [⟨[.ls b0,bv b1,.ls b2,bv b3],true,false⟩]=some (.tup [iv 0,.ls (vals.map eZ),.ptr 0 0,iv (n:Int)],[.set ⟨[.ls b0,bv b1,.ls b2,bv b3],true,false⟩]):=fun h1 h2=>by
  have hb:=ht.tmb h1
  have hz:∀ z∈vals,Lz 12 z:=fun z hz=>⟨hv z hz,h2.2 z hz⟩
  have h24:∀ z∈vals,z.abs.length<24:=fun z hz=>by have:=h2.2 z hz;omega
  have gH:=relholds_ok Kv Kt Z hb (by omega) e vals hz h24 (by omega) (by omega)
  have gD:=deny_ok2 Kt Kf Ks Z C Kd hb (by omega) (by omega) e
  have hf:∀ v,v<0->valF (vals.map zv) v=0:=valF_neg _
  have hs:LB 20 (12+1+20) (t.lf.scale (-1)):=hb.lb.scale (by unfold InB;decide)
  have gB:∀{l:Lf},LB 20 33 l->D.ask (.fn 30) [.agg (eRl ((belowL l).tm,false)),.ls (vals.map eZ)] []=some (bv (decide (l.val (valF (vals.map zv))<0)),[]):=fun {l} hl=>by
   have:=relholds_ok Kv Kt Z (belowL_lb hl).tb (by omega) false vals hz h24 (by omega) (by omega)
   rw[tm_lf,belowL_val hf]at this
   rw[this]
   congr 3
   unfold relH
   rw[Bool.not_false,Bool.true_and,←Bool.decide_or,decide_eq_decide]
   omega
  refine⟨denyL t.lf e,(denyL t.lf e).countP fun d=>relH (d.1.lf.val (valF (vals.map zv))) false,_,by unfold denyL;split<;>simp,gD,gH,?_,?_⟩
  .unfold denyL
   generalize ht2:t.lf.val (valF (vals.map zv))=s
   have v1:(belowL t.lf).val (valF (vals.map zv))=-s-1:=by rw[belowL_val hf,ht2]
   have v2:(belowL (t.lf.scale (-1))).val (valF (vals.map zv))=s-1:=by rw[belowL_val hf,val_scale hf,ht2];omega
   cases e with
   |false=>
    rw[if_neg (by decide),List.countP_cons,List.countP_nil,tm_lf,v1]
    have e1:relH s false=decide (¬ s<0):=by
     unfold relH
     rw[Bool.not_false,Bool.true_and,←Bool.decide_or,decide_eq_decide]
     omega
    have e2:relH (-s-1) false=decide (s<0):=by
     unfold relH
     rw[Bool.not_false,Bool.true_and,←Bool.decide_or,decide_eq_decide]
     omega
    rw[e1,e2]
    by_cases h:s<0
    .rw[decide_eq_true h,decide_eq_false (by omega:¬ ¬ s<0)]
     rfl
    .rw[decide_eq_false h,decide_eq_true h]
     rfl
   |true=>
    rw[if_pos rfl,List.countP_cons,List.countP_cons,List.countP_nil,tm_lf,tm_lf,v1,v2]
    have e1:relH (s-1) false=decide (0<s):=by
     unfold relH
     rw[Bool.not_false,Bool.true_and,←Bool.decide_or,decide_eq_decide]
     omega
    have e2:relH (-s-1) false=decide (s<0):=by
     unfold relH
     rw[Bool.not_false,Bool.true_and,←Bool.decide_or,decide_eq_decide]
     omega
    have e3:relH s true=decide (s=0):=by
     unfold relH
     rw[Bool.not_true,Bool.false_and,Bool.or_false]
    rw[e1,e2,e3]
    rcases Int.lt_trichotomy s 0 with h|h|h
    .rw[decide_eq_true h,decide_eq_false (by omega:¬ 0<s),decide_eq_false (by omega:¬ s=0)]
     rfl
    .rw[decide_eq_true h,decide_eq_false (by omega:¬ 0<s),decide_eq_false (by omega:¬ s<0)]
     rfl
    .rw[decide_eq_true h,decide_eq_false (by omega:¬ s<0),decide_eq_false (by omega:¬ s=0)]
     rfl
  .intro b0 b1 b2 b3
   have key:=denies_lp Kl vals (denyL t.lf e) (fun d=>relH (d.1.lf.val (valF (vals.map zv))) false) (by unfold denyL;split<;>simp) (fun d hd=>by
    have hd2:∃ l:Lf,LB 20 33 l/\d=((belowL l).tm,false):=by
     unfold denyL at hd
     cases e with
     |true=>
      rw[if_pos rfl]at hd
      rcases List.mem_cons.1 hd with rfl|hd
      .exact⟨_,hs,rfl⟩
      .rw[List.mem_singleton]at hd
       exact⟨_,hb.lb.mono (by omega) (by omega),hd⟩
     |false=>
      rw[if_neg (by decide),List.mem_singleton]at hd
      exact⟨_,hb.lb.mono (by omega) (by omega),hd⟩
    obtain⟨l,hl,rfl⟩:=hd2
    refine⟨rfl,(gB hl).trans ?_⟩
    congr 3
    simp only
    rw[tm_lf,belowL_val hf]
    unfold relH
    rw[Bool.not_false,Bool.true_and,←Bool.decide_or,decide_eq_decide]
    omega) b0 b1 b2 b3 _ 0 0 rfl (by omega) (by omega)
   rw[List.drop_zero,Nat.zero_add]at key
   exact key
 obtain⟨ps,kz⟩:=t
 rw[List.map_cons,List.map_nil,List.all_cons,List.all_nil,Bool.and_true,show (decide ([((⟨ps,kz⟩:Tm),e)].length<=1))=true from rfl,Bool.true_and]at gf
 simp only[eRl_mk,eN]at gf body ⊢
 refine Kl.fn' hn5 _ rfl ((e5 ..).trans ?_)
 refine(askK_of S _).trans ?_
 simp only[ND,DK,unFn_fn]
 refine(askK_of gf _).trans ?_
 simp only[ND,DK,unFn_fn]
 cases h1:okRl ((12:Nat):Int) (⟨ps,kz⟩,e) with
 |true=>
  refine(br_t _ _).trans ?_
  refine(askK_of gv _).trans ?_
  simp only[ND,DK,unFn_fn]
  by_cases h2:vals.length<=20/\∀ z∈vals,z.abs.length<=12
  .rw[decide_eq_true h2]
   refine(br_t _ _).trans ?_
   obtain⟨ds,n,b,hdl,gD,gH,hn,gl⟩:=body h1 h2
   refine(askK_of gD _).trans ?_
   simp only[ND,DK,unFn_fn]
   rw[lenR_map]
   refine(askK_of (gl ..) _).trans ?_
   simp only[ND,DK,unFn_fn]
   refine(askK_of gH _).trans ?_
   simp only[ND,DK,unFn_fn]
   cases b with
   |true=>
    have hn:n=0:=hn
    subst hn
    rfl
   |false=>
    have hn:n=1:=hn
    subst hn
    rfl
  .rw[decide_eq_false h2]
   rfl
 |false=>rfl
end
end Go.Proofs.YtpncilciembjdaaGreatDoor
namespace Go.Proofs.YtpncilciembjdaaGreatDoor
open Go.ChangeShapes Go.WideShapes Go.ChangeAt Go.RowKit

theorem pt_of{y:D}(h:D.Typed Tryz.prog y 84):∃ p:Pt,y.av=eP p/\Limbs p.z.abs:=by
 obtain⟨xs,rfl,g0⟩:=h.struct_ Tryz.underlying84
 obtain⟨x0,r0,rfl,h0,g1⟩:=D.TypedFields.cons_ g0
 obtain⟨x1,r1,rfl,h1,g2⟩:=D.TypedFields.cons_ g1
 obtain rfl:=D.TypedFields.nil_ g2
 obtain⟨n,rfl,_⟩:=h0.int_ Tryz.underlying3
 obtain⟨z,e1,e2⟩:=zi_of h1
 refine⟨⟨n,z⟩,?_,e2⟩
 show D.av (.agg [.int .i64 n,x1])=_
 simp only[D.av,avCat,e1]
 rfl
theorem pts_of{y:D}(h:D.Typed Tryz.prog y 22):∃ ps:List Pt,y.av=[.ls (ps.map eP)]/\∀ p∈ps,Limbs p.z.abs:=by
 obtain⟨xs,rfl,hx⟩:=h.slice_ Tryz.underlying22
 have:∀ xs:List D,(∀ y∈xs,D.Typed Tryz.prog y 84)->∃ ps:List Pt,xs.map D.av=ps.map eP/\∀ p∈ps,Limbs p.z.abs:=fun xs=>by
  induction xs with
  |nil=>intro _;exact⟨[],rfl,by simp⟩
  |cons x r ih=>
   intro hh
   obtain⟨ps,e1,e2⟩:=ih fun y hy=>hh y (List.mem_cons_of_mem _ hy)
   obtain⟨p,k1,k2⟩:=pt_of (hh x (List.mem_cons_self ..))
   refine⟨p::ps,by rw[List.map_cons,List.map_cons,e1,k1],fun u hu=>?_⟩
   rcases List.mem_cons.1 hu with rfl|hu
   .exact k2
   .exact e2 u hu
 obtain⟨ps,e1,e2⟩:=this xs hx
 exact⟨ps,by rw[D.av,avRows_map,e1],e2⟩
theorem tm_of{y:D}(h:D.Typed Tryz.prog y 28):∃ t:Tm,y.av=eT t/\LmT t:=by
 obtain⟨xs,rfl,g0⟩:=h.struct_ Tryz.underlying28
 obtain⟨x0,r0,rfl,h0,g1⟩:=D.TypedFields.cons_ g0
 obtain⟨x1,r1,rfl,h1,g2⟩:=D.TypedFields.cons_ g1
 obtain rfl:=D.TypedFields.nil_ g2
 obtain⟨ps,e1,e2⟩:=pts_of h0
 obtain⟨z,e3,e4⟩:=zi_of h1
 refine⟨⟨ps,z⟩,?_,⟨e2,e4⟩⟩
 show D.av (.agg [x0,x1])=_
 simp only[D.av,avCat,e1,e3]
 rfl
theorem rl_of{y:D}(h:D.Typed Tryz.prog y 30):∃(t:Tm) (e:Bool),y.av=eRl (t,e)/\LmT t:=by
 obtain⟨xs,rfl,g0⟩:=h.struct_ Tryz.underlying30
 obtain⟨x0,r0,rfl,h0,g1⟩:=D.TypedFields.cons_ g0
 obtain⟨x1,r1,rfl,h1,g2⟩:=D.TypedFields.cons_ g1
 obtain rfl:=D.TypedFields.nil_ g2
 obtain⟨t,e1,e2⟩:=tm_of h0
 obtain⟨b,rfl⟩:=h1.bool_ Tryz.underlying4
 refine⟨t,b,?_,e2⟩
 show D.av (.agg [x0,.bool b])=_
 simp only[D.av,avCat,e1]
 rfl
end Go.Proofs.YtpncilciembjdaaGreatDoor
namespace Go.Proofs.YtpncilciembjdaaGreatDoor
open Go.ChangeShapes Go.WideShapes Go.ChangeAt Go.RowKit

theorem law_laid{H:Type}{enc:TypeId × Value->H}{C:Checked}{os:Go.Os}{f:FuncId}{fn:Func}{s:ChangeSpec}{F:Stop.Interp}(laid:List (String × DataW Unit))(n:Nat)(L:List TypeId)(tb:TypeId)
  (own:ownKnob C.prog.godebug=none) (started:os.Started) (noInit:C.prog.inits.idxOf? f=none) (hfn:C.prog.funcs[f]? = some fn)
  (witness:∃(w:World) (tape:Tape) (i:Input),w.os=os/\(w.forCall tape i).Shaped C.prog/\i.vars=[]/\Input.okWide C.prog (w.forCall tape i) .any w.heap.size f i ∧
   (OpenSpec.ofChange s).preRow enc C.prog fn [] false laid (w.forCall tape i).memory i.args/\({}:Assume).holds C.prog (lone (Frame.enter C.prog f i.args .normal) [] (w.forCall tape i)))
  (hL:L.all (okType C.prog L)=true) (hn:fn.params.toList.length=n) (hin:(fn.params.toList.all fun t=>L.contains t&&C.prog.readableRec t&&decide (t<C.prog.types.size))=true)
  (laidO:laidOutB C.prog=true) (hres:fn.resultTypes=#[tb]) (htb:C.prog.underlying tb=some .bool)
  (hvars:s.vars=[]) (hspec:∀ ds:List (DataW H),ds.length=n->s.fn H ds={ results:=[.lit (.bool true)],args:=ds })
  (contract:∀(W:World) (args:Array Value) (xs:List D),AllFit W C.prog fn.params.toList args.toList xs->Calls C.prog f args W fun e W'=>e=.returned (.bool true)/\Below W.heap.size W W') :
  ReturnsInHanded {} C os f .any ((OpenSpec.ofChange s).preRow enc C.prog fn [] false laid) (((OpenSpec.ofChange s).at F).post enc C.prog fn false true false false):=by
 refine returnsInHanded_of_row own started noInit hfn witness ?_
 intro W base args ds gs before hval hW _ _ hsz _ _ _
 have hW':DataW.Whole enc C.prog fn.params.toList s.vars false W args.toList ds gs before:=hW
 have hvars':s.plain.varTypes C.prog=[]:=by unfold DataSpec.varTypes ChangeSpec.plain;simp[hvars]
 have hsz':(DataW.weightsEach C.prog (fn.params.toList++s.plain.varTypes C.prog) (ds++gs)).all (· ≤ reachBytes)=true:=hsz
 obtain⟨p,q,hA,hV,rfl,hfz,hnd⟩:=hW
 have hV':DataW.TrodVars enc C.prog W _ s.vars gs q:=hV
 rw[hvars]at hV'
 have hg:gs=[]/\q=[]:=by
  cases gs with
  |nil=>exact⟨rfl,hV'⟩
  |cons _ _=>exact hV'.elim
 obtain⟨rfl,rfl⟩:=hg
 have hlt:∀ x∈p++[],x.block<W.heap.size:=fun x hx=>hW'.lt x hx
 have hlen:ds.length=n:=(trodAll_len _ _ _ _ hA).trans hn
 have hall:∀ t∈fn.params.toList,t∈L/\C.prog.readableRec t=true/\t<C.prog.types.size:=fun t ht=>by
  have:=List.all_eq_true.1 hin t ht
  simpa[and_assoc]using this
 obtain⟨xs,hxs⟩:=all_fit hL fn.params.toList args.toList ds p (fun t ht=>(hall t ht).1) (fun j t v h1 h2=>hval j t v (by simpa using h1) (by simpa using h2)) hA (fun k hk=>by
  have:=List.all_eq_true.1 hsz' k
  rw[hvars']at this
  simpa using this (by simpa using hk))
 refine(contract W args xs hxs).mono fun e W' ⟨he,hb⟩=>⟨_,he,?_⟩
 have hsp:s.fn H (ds++[])={ results:=[.lit (.bool true)],args:=ds }:=by rw[List.append_nil];exact hspec ds hlen
 show s.post enc C.prog fn false true false false W args _ W'
 refine⟨ds,[],p++[],[],p,[],hW',?_,?_,?_,hb.frame _,fun h=>by cases h⟩
 .rw[hsp,hres]
  exact trodAll_mk1 (shut_bool htb true)
 .rw[hsp]
  have:=trodAll_below (P:=C.prog) laidO hb fn.params.toList args.toList ds p (fun t ht=>(hall t ht).2) (fun x hx=>hlt x (by simp[hx])) hA
  exact this
 .rw[hvars]
  exact(show DataW.TrodVars enc C.prog W' _ [] (s.fn H (ds++[])).vars [] from by rw[hsp];exact rfl)
end Go.Proofs.YtpncilciembjdaaGreatDoor
namespace Go.Proofs.YtpncilciembjdaaGreatDoor
open Go.ChangeShapes Go.WideShapes Go.ChangeAt Go.RowKit

def tabVals:DataW Unit->Array Value
 |.agg xs=>(xs.map fun | .lit (.int k n)=>Value.int k n|_=>Go.undef).toArray
 |_=>#[]
def layTab(vs:Array Value):Obj->Obj
 |.cells _ t fz=>.cells vs t fz
 |o=>o
noncomputable def laidWorld(os:Go.Os):World:=
 { World.holding Tryz.prog os ⟨#[],#[],[]⟩ with heap:=(((World.holding Tryz.prog os ⟨#[],#[],[]⟩).heap.modify 2 (layTab (tabVals Rows.laid_math_bits_deBruijn32tab))).modify 3 (layTab (tabVals Rows.laid_math_bits_deBruijn64tab))).modify 1 (layTab (tabVals Rows.laid_internal_strconv_uint64pow10)) }
def laidL:List (String × DataW Unit):=[("math/bits.deBruijn32tab",Rows.laid_math_bits_deBruijn32tab),("math/bits.deBruijn64tab",Rows.laid_math_bits_deBruijn64tab),("internal/strconv.uint64pow10",Rows.laid_internal_strconv_uint64pow10)]
set_option maxRecDepth 100000 in
theorem laid_met(os:Go.Os)(args:Array Value):laidMet Tryz.prog laidL ((laidWorld os).forCall (fun _ _=>0) ⟨#[],args,[]⟩).memory:=
 laidMet_of_run' 8 (by kernel_rfl) (by kernel_rfl)
set_option maxRecDepth 1000000 in
theorem card_main:Tryz.pinned.checked.prog.mainIs=some (true, "71c373f515b5d6404ff57fe099454b4ae9c8cd2d69debb21d8290a970539b276".toList):=by kernel_rfl
set_option maxRecDepth 1000000 in
theorem card_looks:false=Tryz.pinned.checked.prog.looks []:=by kernel_rfl
end Go.Proofs.YtpncilciembjdaaGreatDoor
namespace Go.Proofs.YtpncilciembjdaaGreatDoor
open Go.ChangeShapes Go.WideShapes Go.ChangeAt Go.RowKit

theorem sayDy:DDy.ask (.fn 15) [] []=some (bv true,[]):=xSayDy say_ok
theorem cloneFDy:CloneF DDy where
 nat l h:=xCloneNDy (clone_ans h)
theorem zfDy:ZF DDy:=zf_of kNaDy kZiDy cloneFDy
theorem partFDy:PartF DDy where
 clone l h:=xClonePDy (cloneP_ans h)
 grow n h:=xGrowPDy (growP_ans h)
theorem seatDy_good:SeatOk Tryz.prog entsC seatDy:=seatDy_ok clone_nat clone_part grow_part gSay
theorem relDenies_calls(v1 v2:Value)(t:Tm)(e:Bool)(ht:LmT t)(vals:List Zi)(h3:vals.length<4611686018427387904)(hv:∀ z∈vals,Limbs z.abs)(w:World)(r1:Rep (fun _=>none) (fun g _=>g<w.heap.size) w (.agg (eRl (t,e))) v1)(r2:Rep (fun _=>none) (fun g _=>g<w.heap.size) w (.ls (vals.map eZ)) v2) :
  Calls Tryz.prog 5 #[v1,v2] w fun e w'=>e=.returned (.bool true)/\Below w.heap.size w w':=by
 have g:=den_calls seatDy_good (lreldenies_ok kLr2Dy kHvDy kTeDy zfDy kFwDy kRhDy kTfDy kSoDy partFDy kRdDy sayDy t e ht vals hv h3) w [v1,v2] (by
  simp only[RepList]
  exact⟨_,_,rfl,r1,_,_,rfl,r2,rfl⟩)
 refine Calls.mono g ?_
 rintro e w' ⟨u,rfl,hb,μ',F',hr⟩
 unfold bv Rep at hr
 rw[hr.1]
 exact⟨rfl,hb⟩
set_option maxRecDepth 100000 in
theorem relDenies_witness(os:Go.Os){H:Type}(enc:TypeId × Value->H) :
  (OpenSpec.ofChange Rows.relDeniesSpec).preRow enc Tryz.prog Tryz.f5 [] false laidL ((laidWorld os).forCall (fun _ _=>0) ⟨#[],#[.agg #[.slice none 0 0,.bool false,.slice none 0 0,.bool false],.slice none 0 0],[]⟩).memory #[.agg #[.slice none 0 0,.bool false,.slice none 0 0,.bool false],.slice none 0 0]:=by
 have hw:(DataW.whole enc Tryz.prog ((laidWorld os).forCall (fun _ _=>0) ⟨#[],#[.agg #[.slice none 0 0,.bool false,.slice none 0 0,.bool false],.slice none 0 0],[]⟩).memory Tryz.f5.params.toList (OpenSpec.ofChange Rows.relDeniesSpec).vars false #[Value.agg #[.slice none 0 0,.bool false,.slice none 0 0,.bool false],Value.slice none 0 0].toList 8).map (fun x=>(x.1,x.2.1)) =
   some ([.agg [.agg [.nil,.agg [.lit (.bool false),.nil]],.lit (.bool false)],.nil],[]):=by kernel_rfl
 obtain⟨⟨x1,x2,x3⟩,hx,hx1⟩:=Option.map_eq_some_iff.1 hw
 simp only[Prod.mk.injEq]at hx1
 obtain⟨rfl,rfl⟩:=hx1
 exact OpenSpec.preRow_of_cond 8 hx (by kernel_rfl) (fun k hk=>by cases hk) (by kernel_rfl) (laid_met os _)
set_option maxRecDepth 100000 in
theorem relDenies_lifted(os:Go.Os)(started:os.Started)(H:Type)(enc:TypeId × Value->H)(F:Stop.Interp) :
  ReturnsInHanded {} Tryz.checked os 5 .any ((OpenSpec.ofChange Rows.relDeniesSpec).preRow enc Tryz.prog Tryz.f5 [] false laidL) (((OpenSpec.ofChange Rows.relDeniesSpec).at F).post enc Tryz.prog Tryz.f5 false true false false):=by
 refine law_laid (C:=Tryz.checked) laidL 2 [4,3,134,24,26,42,84,22,28,30] 4 own_knob started (by kernel_rfl) Tryz.func5
  (witness_row_at (enc:=enc) (C:=Tryz.checked) false (laidWorld os) #[.agg #[.slice none 0 0,.bool false,.slice none 0 0,.bool false],.slice none 0 0] rfl (by kernel_rfl) (by kernel_rfl) (by kernel_rfl) (relDenies_witness os enc))
  (by kernel_rfl) rfl (by kernel_rfl) laid_out rfl Tryz.underlying4 rfl (fun ds h=>?_) (fun W args xs h=>?_)
 .match ds,h with
  |[d1,d2],_=>rfl
 .have h':AllFit W Tryz.prog [30,42] args.toList xs:=h
  obtain⟨args⟩:=args
  obtain⟨v1,a1,x1,y1,q1,rfl,⟨cs1,e1,h1,t1,z1⟩,h'⟩:=allFit_cons h'
  obtain⟨v2,a2,x2,y2,rfl,rfl,⟨cs2,e2,h2,t2,z2⟩,h'⟩:=allFit_cons h'
  obtain rfl:=allFit_nil h'
  have q1:args=[v1,v2]:=q1
  subst q1
  obtain⟨t,e,k1,k2⟩:=rl_of t1
  obtain⟨vals,m1,m2,m3⟩:=zis_of t2 z2
  have i1:=is_rep (μ:=fun _=>none) (F:=fun g _=>g<W.heap.size) (fun g hg _=>hg) x1 cs1 h1
  have i2:=is_rep (μ:=fun _=>none) (F:=fun g _=>g<W.heap.size) (fun g hg _=>hg) x2 cs2 h2
  rw[k1]at i1
  rw[m1]at i2
  obtain⟨zs,rfl,_⟩:=t1.struct_ Tryz.underlying30
  obtain⟨ys,rfl,_⟩:=t2.slice_ Tryz.underlying42
  rw[RepList]at i2
  obtain⟨u,tl,rfl,i2,j2⟩:=i2
  rw[RepList]at j2
  subst j2
  have e1:v1=.agg cs1.toArray:=e1
  have e2:v2=u:=e2
  subst e1 e2
  exact relDenies_calls _ v2 t e k2 vals m2 m3 W (by rw[Rep];exact⟨cs1.toArray,rfl,i1⟩) i2
set_option maxRecDepth 1000000 in
set_option maxHeartbeats 4000000 in
theorem relDenies_joined:joinedFacts Tryz.pinned.checked.prog 5 Tryz.f5 (OpenSpec.ofChange Rows.relDeniesSpec).bare Rows.relDeniesRow=true:=by
 unfold joinedFacts
 repeat' (with_reducible refine Bool.and_eq_true_iff.2 ⟨?_,?_⟩)
 all_goals (as_aux_lemma=>kernel_rfl)
theorem relDenies_said:Rows.RelDeniesSaid:=
 OpenClaim.holds_of_cond 5 Tryz.f5 rfl rfl rfl rfl rfl rfl rfl ⟨rfl,rfl,rfl,rfl,rfl⟩ rfl rfl rfl rfl rfl (by kernel_rfl) Tryz.func5 relDenies_joined
  (of_decide_eq_true (by kernel_rfl)) (by unfold Func.isWrapper;first | (rw[if_pos (by decide +kernel)];kernel_rfl) | (rw[if_neg (by decide +kernel)];exact⟨rfl,rfl⟩))
  (fun os started H enc _ F=>by rw[OpenClaim.pre_eq_preRow];exact relDenies_lifted os started H enc F)
set_option maxRecDepth 1000000 in
theorem relDenies_wf:Rows.relDeniesRow.wfByText (OpenSpec.ofChange Rows.relDeniesSpec)=true:=by kernel_rfl
set_option maxRecDepth 1000000 in
theorem relDenies_goes:false=Rows.relDeniesRow.goesBy Tryz.pinned.checked.prog:=by kernel_rfl
theorem relDenies_par:(Tryz.f5.params.toList.all fun t=>!Tryz.pinned.checked.prog.wantsStandIn t)=true:=by kernel_rfl
theorem relDenies_named:Tryz.pinned.checked.prog.funcNamed "plumbline/plumblinelaw04.RelDenies" = some 5:=by kernel_rfl
theorem relDenies_holds:Rows.RelDeniesCardSaid:=
 Claim7.holds_tied_plain_at .later [] [.data,.data,.data] true (true, "71c373f515b5d6404ff57fe099454b4ae9c8cd2d69debb21d8290a970539b276") false
  relDenies_said (fun _ h=>by cases h) relDenies_wf (fun _ h=>by cases h) relDenies_row_tie rfl ⟨rfl,rfl⟩ card_main rfl
  (fun f fn hf hfn=>by
   obtain rfl:f=5:=(Option.some.inj (relDenies_named.symm.trans hf)).symm
   obtain rfl:fn=Tryz.f5:=(Option.some.inj (Tryz.func5.symm.trans hfn)).symm
   refine⟨card_looks,fun j t ht=>?_⟩
   have h3:=List.all_eq_true.1 relDenies_par t (List.mem_of_getElem? (by rw[Array.getElem?_toList];exact ht))
   exact Bool.not_eq_true' _▸h3)
  relDenies_goes
end Go.Proofs.YtpncilciembjdaaGreatDoor
