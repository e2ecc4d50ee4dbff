/-
  Formulas as they lie in cells; what is made of comparisons and conditions. No program in sight.
  Values of sums, variable by variable. No program in sight.
  Summands in order, those of one variable taken together. No program in sight.
  What the numbers' functions of layer 1 come to: trim, Trim, Of, Cmp, Add, Sub.
  What the numbers' functions of layer 1 come to: products.
  What the numbers' functions of layer 2 come to.
  What is known of zint's functions, in one.
  What the sort functions come to: blocks of twenty.
  Rows put in order by a number: two runs become one. No program in sight.
  What the sort functions come to: two runs merged in place.
  What the sort functions come to: symMerge.
  What the sort functions come to: parts struck from a row.
  What term.Plain comes to.
  Functions of the program as trees: what a call comes to.
  What term's sums, multiples and differences come to.
  Functions of the program as trees: what a call comes to.
  What logic's functions come to: copies, Not, And, Or, comparisons.
  What the reference's functions of layer 1 come to: Trim, At, Cmp, Add, Sub, small.
  What the reference's functions of layer 1 come to: Mul, Parse, Same.
  What the reference's functions of layer 2 come to.
  What is known of the reference's numbers, in one.
  What the references' values and truths come to.
  Functions of the program as trees: what a call comes to.
  Functions of the program as trees: what a call comes to.
  Functions of the program as trees: what a call comes to.
  What a term's value, a relation's truth, and what denies it come to; layer 4's laws RelHolds and RelDenies, over D.
-/
import Derived.Test.YtpncilciembjdaaGreatDoorAAZ
import Derived.Test.YtpncilciembjdaaGreatDoorABR
import Derived.Test.YtpncilciembjdaaGreatDoorAAX
set_option linter.unusedSectionVars false
set_option linter.unusedSimpArgs false
set_option linter.unusedVariables false
namespace Go.Proofs.YtpncilciembjdaaGreatDoor
open Go.RowKit

inductive Fm where
 |mk (kind:Int) (t:Tm) (eq:Bool) (kids:List Fm)
mutual
def eF:Fm->List AV
 |.mk k t e ks=>[iv k,.ls (t.ps.map eP),bv t.k.neg,eN t.k.abs,bv e,.ls (eFs ks)]
def eFs:List Fm->List (List AV)
 |[]=>[]
 |x::r=>eF x::eFs r
end
theorem eFs_map:∀ l,eFs l=l.map eF
 |[]=>rfl
 |x::r=>by simp[eFs,eFs_map r]
def Fm.kind:Fm->Int
 |.mk k _ _ _=>k
def Fm.tm:Fm->Tm
 |.mk _ t _ _=>t
def Fm.eq:Fm->Bool
 |.mk _ _ e _=>e
def Fm.kids:Fm->List Fm
 |.mk _ _ _ ks=>ks
def Tm0:Tm:=⟨[],⟨false,[]⟩⟩
def kF(k:Int)(ks:List Fm):Fm:=.mk k Tm0 false ks
def truF(b:Bool):Fm:=kF (if b then 0 else 1) []
def atomF(l:Lf)(e:Bool):Fm:=.mk 2 l.tm e []
def kidsF:Fm->List Fm
 |.mk k _ _ ks=>if k=4\/k=5 then ks else if k=3 then ks.take 1 else []
mutual
def cloneF:Fm->Fm
 |.mk k t e ks=>if k=0 then truF true else if k=2 then atomF t.lf.pln e else if k=3 then kF 3 (cloneF1 ks) else if k=4\/k=5 then kF k (cloneFs ks) else truF false
def cloneF1:List Fm->List Fm
 |[]=>[]
 |x::_=>[cloneF x]
def cloneFs:List Fm->List Fm
 |[]=>[]
 |x::r=>cloneF x::cloneFs r
end
def relH(v:Int)(e:Bool):Bool:=decide (v=0)||(!e&&decide (0<v))
mutual
def holdsF(f:Int->Int):Fm->Bool
 |.mk k t e ks=>if k=0 then true else if k=2 then relH (t.lf.val f) e else if k=3 then holdsN f ks else if k=4 then holdsA f ks else if k=5 then holdsO f ks else false
def holdsN(f:Int->Int):List Fm->Bool
 |[]=>false
 |x::_=>!holdsF f x
def holdsA(f:Int->Int):List Fm->Bool
 |[]=>true
 |x::r=>holdsF f x&&holdsA f r
def holdsO(f:Int->Int):List Fm->Bool
 |[]=>false
 |x::r=>holdsF f x||holdsO f r
end
mutual
inductive CanF:Fm->Prop
 |tru (b:Bool):CanF (truF b)
 |atom (l:Lf) (e:Bool) (h:l.pln=l):CanF (atomF l e)
 |no (x:Fm) (h:CanF x):CanF (kF 3 [x])
 |and (l:List Fm) (h:CanFs l):CanF (kF 4 l)
 |or (l:List Fm) (h:CanFs l):CanF (kF 5 l)
 |no0:CanF (kF 3 [])
inductive CanFs:List Fm->Prop
 |nil:CanFs []
 |cons {x:Fm} {r:List Fm} (h:CanF x) (hr:CanFs r):CanFs (x::r)
end
mutual
theorem CanF.clone:∀{x:Fm},CanF x->cloneF x=x
 |_,.tru b=>by cases b<;>rfl
 |_,.atom l e h=>by
  unfold atomF
  rw[cloneF,if_neg (by decide),if_pos rfl,tm_lf,h]
  rfl
 |_,.no x h=>by
  unfold kF
  rw[cloneF,if_neg (by decide),if_neg (by decide),if_pos rfl,cloneF1,h.clone]
  rfl
 |_,.and l h=>by
  unfold kF
  rw[cloneF,if_neg (by decide),if_neg (by decide),if_neg (by decide),if_pos (.inl rfl),h.clone]
  rfl
 |_,.or l h=>by
  unfold kF
  rw[cloneF,if_neg (by decide),if_neg (by decide),if_neg (by decide),if_pos (.inr rfl),h.clone]
  rfl
 |_,.no0=>rfl
theorem CanFs.clone:∀{l:List Fm},CanFs l->cloneFs l=l
 |_,.nil=>rfl
 |_,.cons h hr=>by rw[cloneFs,h.clone,hr.clone]
end
end Go.Proofs.YtpncilciembjdaaGreatDoor
namespace Go.Proofs.YtpncilciembjdaaGreatDoor
open Go.RowKit

def sumC(ps:List (Int × Int))(vals:List Int):Nat->Int
 |0=>0
 |n+1=>sumC ps vals n+coefL (n:Int) ps*vals.getD n 0
theorem valF_nat(vals:List Int)(n:Nat):valF vals (n:Int)=vals.getD n 0:=by
 unfold valF
 rw[if_neg (by omega),Int.toNat_natCast]
theorem valF_far(vals:List Int){v:Int}(h:(vals.length:Int)<=v):valF vals v=0:=by
 unfold valF
 rw[if_neg (by omega),List.getD_eq_getElem?_getD,List.getElem?_eq_none (by omega)]
 rfl
theorem sumC_nil(vals:List Int):∀ n,sumC [] vals n=0
 |0=>rfl
 |n+1=>by rw[sumC,sumC_nil vals n,coefL,Int.zero_mul];rfl
theorem sumC_cons(p:Int × Int)(r:List (Int × Int))(vals:List Int):∀ n:Nat,sumC (p::r) vals n=(if 0<=p.1/\p.1<(n:Int) then p.2*valF vals p.1 else 0)+sumC r vals n
 |0=>by rw[sumC,sumC,if_neg (by omega)];rfl
 |n+1=>by
  rw[sumC,sumC,sumC_cons p r vals n,coefL,Int.add_mul]
  by_cases h:p.1=(n:Int)
  .rw[if_pos h,if_neg (by omega),if_pos (by omega),h,valF_nat]
   omega
  .rw[if_neg h,Int.zero_mul]
   by_cases h2:0<=p.1/\p.1<(n:Int)
   .rw[if_pos h2,if_pos (by omega)];omega
   .rw[if_neg h2,if_neg (by omega)];omega
theorem sumV_sumC(vals:List Int):∀ ps:List (Int × Int),sumV (valF vals) ps=sumC ps vals vals.length
 |[]=>by rw[sumC_nil];rfl
 |p::r=>by
  rw[sumC_cons,sumV,sumV_sumC vals r]
  by_cases h:0<=p.1/\p.1<(vals.length:Int)
  .rw[if_pos h]
  .rw[if_neg h]
   by_cases h0:p.1<0
   .rw[valF_neg _ _ h0,Int.mul_zero]
   .rw[valF_far vals (by omega),Int.mul_zero]
theorem val_sumC(vals:List Int)(l:Lf):l.val (valF vals)=l.k+sumC l.ps vals vals.length:=by
 unfold Lf.val
 rw[sumV_sumC]
 omega
theorem getD_inb{k:Nat}{vals:List Int}(h:∀ x∈vals,InB k x)(n:Nat):InB k (vals.getD n 0):=by
 rw[List.getD_eq_getElem?_getD]
 cases e:vals[n]? with
 |none=>exact InB.zero _
 |some x=>
  obtain⟨hn,rfl⟩:=List.getElem?_eq_some_iff.1 e
  exact h _ (List.getElem_mem hn)
theorem sumC_inb{n k j:Nat}{l:Lf}{vals:List Int}(hl:LB n k l)(hv:∀ x∈vals,InB j x):∀ m:Nat,InB (k+n+j+m) (sumC l.ps vals m)
 |0=>InB.zero _
 |m+1=>by
  rw[sumC,←Nat.add_assoc]
  refine InB.add (sumC_inb hl hv m) ?_
  have h1:=coefL_inb (m:Int) l.ps hl.ps
  have h2:=InB.mul h1 (getD_inb hv m)
  exact h2.mono (by have:=hl.len;omega)
end Go.Proofs.YtpncilciembjdaaGreatDoor
namespace Go.Proofs.YtpncilciembjdaaGreatDoor
open Go.RowKit

end Go.Proofs.YtpncilciembjdaaGreatDoor
namespace Go.Proofs.YtpncilciembjdaaGreatDoor
open Go.RowKit

theorem r_conv32(x:Nat):realA.conv .u32 (x:Int)=((x % 4294967296:Nat):Int):=by
 show IntKind.u32.wrap (x:Int)=_
 rw[IntKind.wrap_u32]
 omega
theorem r_conv32s{x:Nat}(h:x<4294967296):realA.conv .u32 (x:Int)=(x:Int):=by rw[r_conv32,Nat.mod_eq_of_lt h]
theorem r_conv64{x:Nat}(h:x<18446744073709551616):realA.conv .u64 (x:Int)=(x:Int):=by
 show IntKind.u64.wrap (x:Int)=_
 rw[IntKind.wrap_u64]
 omega
theorem r_add64{x y:Nat}(h:x+y<18446744073709551616):realA.add .u64 (x:Int) (y:Int)=((x+y:Nat):Int):=by
 show IntKind.u64.wrap ((x:Int)+(y:Int))=_
 rw[IntKind.wrap_u64]
 omega
theorem r_sub64{x y:Nat}(h:y<=x)(h2:x<18446744073709551616):realA.sub .u64 (x:Int) (y:Int)=((x-y:Nat):Int):=by
 show IntKind.u64.wrap ((x:Int)-(y:Int))=_
 rw[IntKind.wrap_u64]
 omega
theorem r_mul64{x y:Nat}(h:x*y<18446744073709551616):realA.mul .u64 (x:Int) (y:Int)=((x*y:Nat):Int):=by
 show IntKind.u64.wrap ((x:Int)*(y:Int))=_
 rw[IntKind.wrap_u64,←Int.natCast_mul]
 omega
theorem r_shr32(x:Nat):realA.shr .u64 (x:Int) 32=((x / 4294967296:Nat):Int):=by
 show Int.fdiv (x:Int) (2 ^ 32)=_
 have:(2 ^ 32:Int)=((4294967296:Nat):Int):=by decide
 rw[this,Int.fdiv_eq_ediv_of_nonneg _ (by omega)]
 rfl
theorem subN{i j:Nat}(h:j<=i)(h2:i<4611686018427387904):realA.sub .i64 (i:Int) (j:Int)=((i-j:Nat):Int):=by
 rw[r_sub (by omega) (by omega)]
 omega
theorem addN{i j:Nat}(h2:i+j<4611686018427387904):realA.add .i64 (i:Int) (j:Int)=((i+j:Nat):Int):=by
 rw[r_add (by omega) (by omega)]
 omega
theorem cIk(kd:IntKind)(n:Int)(r:List AV)(k:Int->List AV->KR):cInt kd (.v (.int kd n)::r) k=k n r:=by simp[cInt]
theorem uIk(kd:IntKind)(n:Int)(k:Int->KR):unInt kd (.v (.int kd n)) k=k n:=by simp[unInt]
theorem eL_u(n:Nat)(k:Int->List AV->KR)(r:List AV):cInt .u32 (.v (.int .u32 (n:Int))::r) k=k n r:=rfl
theorem wide_eL(l:List Nat):wideR 1 (l.map eL)=true:=wideR_map eL_len l
theorem one_eL(l:List Nat):oneL (catR (l.map eL))=true:=by rw[catR_map];exact oneL_row (fun _=>rfl) l
theorem noid_eL(l:List Nat):noidL (catR (l.map eL))=true:=by
 rw[catR_map]
 induction l with
 |nil=>rfl
 |cons x r ih=>exact ih
theorem take_map_eL(l:List Nat)(n:Nat):dropR (takeR (l.map eL) n) 0=(l.take n).map eL:=by
 rw[takeR_eq,dropR_eq,List.drop_zero,List.map_take]
theorem addL_len:∀(a b:List Nat) (c:Nat),(addL c a b).length=a.length+1
 |[],_,_=>rfl
 |x::a,b,c=>by rw[addL,List.length_cons,addL_len a,List.length_cons]
theorem cmpN_len{a b:Nat}(h:(natL a).length<(natL b).length):a<b:=by
 by_cases h2:a<b
 .exact h2
 .have h3:natL_limbs b=natL_limbs b:=rfl
  have h4:0<(natL b).length:=by omega
  have hb:4294967296 ^ ((natL b).length-1)<=b:=by
   by_cases h5:4294967296 ^ ((natL b).length-1)<=b
   .exact h5
   .have:=natL_len_le (n:=b) (k:=(natL b).length-1) (by omega)
    omega
  have h6:=le_natL_len (n:=a) (k:=(natL b).length-1) (by omega)
  omega
def SmL(l:List Nat):Prop:=l.length<=1000000000
theorem natL_sm{l:List Nat}(h:Limbs l)(h2:SmL l):SmL (natL (valL l)):=by
 unfold SmL at *
 rw[natL_len l h]
 have:=topL_le l
 omega
structure CloneF (D:Orc):Prop where
 nat:∀ l:List Nat,SmL l->D.ask (.fn 236) [eN l] []=some (.sl 0 0 l.length 1,[.set (ABlk.mk (rowC eL l) true true)])
theorem clone_ans{l:List Nat}(h:SmL l):ownD 1 (resClone 1 4) [eN l] []=some (.sl 0 0 l.length 1,[.set (ABlk.mk (rowC eL l) true true)]):=by
 unfold ownD resClone eN
 have h4:Nat.ble (lenR (l.map eL)*4) 140737488355328=true:=by
  rw[lenR_map]
  unfold SmL at h
  simp
  omega
 simp only[wide_eL,one_eL,noid_eL,h4,Bool.and_true,if_true,Option.map_some]
 rw[lenR_map,catR_map]
section
variable {D:Orc} (K:Knows ownC tabNa D)
include K
theorem trim_lp(l:List Nat)(hl:SmL l):∀(n:Nat),n<=l.length->topL l<=n->D.ask (.lp 200 0) [eN l,iv (n:Int)] []=some (.tup [iv 0,eN l,iv (topL l:Int)],[]):=by
 intro n
 have hl':=hl
 unfold SmL at hl'
 induction n with
 |zero=>
  intro _ ht
  refine K.lp' hn200 _ rfl (by kernel_rfl) ((e200_0 ..).trans ?_)
  refine(br_ltF (by omega)).trans ?_
  rw[show topL l=0 by omega]
  rfl
 |succ n ih=>
  intro hn ht
  refine K.lp' hn200 _ rfl (by kernel_rfl) ((e200_0 ..).trans ?_)
  refine(br_ltT (by omega)).trans ?_
  rw[show realA.sub .i64 ((n+1:Nat):Int) 1=(n:Int) from (subN (i:=n+1) (j:=1) (by omega) (by omega)).trans (by simp)]
  rw[unI_n,nthK_some (List.getElem?_eq_getElem (show n<l.length by omega))]
  simp only[eL,eL_u,ND,DK,unFn_fn]
  by_cases h0:l[n]=0
  .refine(br_eqT (by rw[h0];rfl)).trans ?_
   refine(askK_of (ih (by omega) (topL_down ht (by rw[List.getElem?_eq_getElem (show n<l.length by omega),h0]))) _).trans ?_
   rfl
  .refine(br_eqF (by omega)).trans ?_
   have:=topL_ge (List.getElem?_eq_getElem (show n<l.length by omega)) h0
   rw[show topL l=n+1 by omega]
   rfl
theorem trim_ok{l:List Nat}(hl:SmL l)(h:Limbs l):D.ask (.fn 200) [eN l] []=some (eN (natL (valL l)),[]):=by
 refine K.fn' hn200 _ rfl ((e200 ..).trans ?_)
 rw[lenR_map]
 refine(askK_of (trim_lp K l hl _ (Nat.le_refl _) (topL_le l)) _).trans ?_
 simp only[eN,ND,DK,unFn_fn]
 rw[unI_n,lenR_map,wide_eL,take_map_eL,take_top h]
 rw[show inB 0 (topL l) l.length=true by unfold inB;rw[show Nat.ble 0 (topL l)=true by simp];simpa using topL_le l]
 rfl
variable (C:CloneF D)
include C
theorem Trim_ok{l:List Nat}(hl:SmL l)(h:Limbs l):D.ask (.fn 202) [eN l] []=some (eN (natL (valL l)),[]):=by
 refine K.fn' hn202 _ rfl ((e202 ..).trans ?_)
 refine(askK_of (trim_ok K hl h) _).trans ?_
 simp only[eN,ND,DK,unFn_fn]
 have g:=C.nat _ (natL_sm h hl)
 unfold eN at g
 refine(askK_of g _).trans ?_
 simp only[ND,DK,unFn_fn]
 rw[ble_row eL_len _ (by omega)]
 refine(br_t _ _).trans ?_
 rw[chunk_of eL_len _ rfl]
theorem Of_ok(n:Nat)(h:n<18446744073709551616):D.ask (.fn 184) [.v (.int .u64 (n:Int))] []=some (eN (natL n),[]):=by
 refine K.fn' hn184 _ rfl ((e184 ..).trans ?_)
 refine(br_ltF (by decide)).trans ?_
 rw[r_conv32,r_shr32,r_conv32]
 have hl:Limbs [n % 4294967296,n / 4294967296 % 4294967296]:=limbs_cons (Nat.mod_lt _ (by omega)) (limbs_cons (Nat.mod_lt _ (by omega)) limbs_nil)
 have g:=Trim_ok K C (l:=[n % 4294967296,n / 4294967296 % 4294967296]) (by unfold SmL;simp) hl
 rw[show valL [n % 4294967296,n / 4294967296 % 4294967296]=n by simp only[valL];omega]at g
 refine(askK_of g _).trans ?_
 rfl
omit C in
theorem Cmp_lp(a b:List Nat)(ha:Limbs a)(hb:Limbs b)(hab:a.length=b.length)(hs:SmL a):∀(n:Nat),n<=a.length->D.ask (.lp 201 0) [eN a,eN b,iv ((n:Int)-1)] []
  = some (if cmpN (valL (a.take n)) (valL (b.take n))=0 then .tup [iv 1] else .tup [bv true,iv (cmpN (valL (a.take n)) (valL (b.take n)))],[]):=by
 intro n
 unfold SmL at hs
 induction n with
 |zero=>
  intro _
  refine K.lp' hn201 _ rfl (by kernel_rfl) ((e201_0 ..).trans ?_)
  refine(br_leF (by omega)).trans ?_
  rfl
 |succ n ih=>
  intro hn
  refine K.lp' hn201 _ rfl (by kernel_rfl) ((e201_0 ..).trans ?_)
  rw[show (((n+1:Nat):Int)-1)=(n:Int) by omega]
  refine(br_leT (by omega)).trans ?_
  have h1:n<a.length:=by omega
  have h2:n<b.length:=by omega
  have e1:a.take (n+1)=a.take n++[a[n]]:=by rw[List.take_succ_eq_append_getElem h1]
  have e2:b.take (n+1)=b.take n++[b[n]]:=by rw[List.take_succ_eq_append_getElem h2]
  rw[e1,e2,cmp_snoc (ha.take n) (hb.take n) (by simp;omega)]
  simp only[unI_n,nthK_some (List.getElem?_eq_getElem h1),nthK_some (List.getElem?_eq_getElem h2),eL,eL_u,ND,DK,unFn_fn]
  by_cases h3:a[n]<b[n]
  .refine(br_ltT (by omega)).trans ?_
   rw[if_pos h3]
   rfl
  .refine(br_ltF (by omega)).trans ?_
   rw[if_neg h3]
   by_cases h4:b[n]<a[n]
   .refine(br_ltT (by omega)).trans ?_
    rw[if_pos h4]
    rfl
   .refine(br_ltF (by omega)).trans ?_
    rw[if_neg h4]
    rw[show realA.sub .i64 (n:Int) 1=(n:Int)-1 from r_sub (by omega) (by omega)]
    refine(askK_of (ih (by omega)) _).trans ?_
    by_cases h5:cmpN (valL (a.take n)) (valL (b.take n))=0
    .rw[if_pos h5];rfl
    .rw[if_neg h5];rfl
omit C in
theorem Cmp_ok{a b:List Nat}(hsa:SmL a)(ha:Limbs a)(hsb:SmL b)(hb:Limbs b):D.ask (.fn 201) [eN a,eN b] []=some (iv (cmpN (valL a) (valL b)),[]):=by
 have s1:=natL_sm ha hsa
 have s2:=natL_sm hb hsb
 unfold SmL at s1 s2
 refine K.fn' hn201 _ rfl ((e201 ..).trans ?_)
 refine(askK_of (trim_ok K hsa ha) _).trans ?_
 simp only[eN,ND,DK,unFn_fn]
 refine(askK_of (trim_ok K hsb hb) _).trans ?_
 simp only[eN,ND,DK,unFn_fn,lenR_map]
 generalize valL a=x at *
 generalize valL b=y at *
 by_cases h1:(natL x).length<(natL y).length
 .refine(br_ltT (by omega)).trans ?_
  have:=cmpN_len h1
  unfold cmpN
  rw[if_pos this]
 .refine(br_ltF (by omega)).trans ?_
  by_cases h2:(natL y).length<(natL x).length
  .refine(br_ltT (by omega)).trans ?_
   have:=cmpN_len h2
   unfold cmpN
   rw[if_neg (by omega),if_pos this]
  .refine(br_ltF (by omega)).trans ?_
   have hx:(natL x).length=(natL y).length:=by omega
   have g:=Cmp_lp K (natL x) (natL y) (natL_limbs x) (natL_limbs y) hx s1 (natL x).length (Nat.le_refl _)
   rw[List.take_length,hx,List.take_length,valL_natL,valL_natL]at g
   rw[show realA.sub .i64 ((natL x).length:Int) 1=((natL x).length:Int)-1 from r_sub (by omega) (by omega),hx]
   refine(askK_of g _).trans ?_
   by_cases h5:cmpN x y=0
   .rw[if_pos h5,h5];rfl
   .rw[if_neg h5];rfl
omit C in
theorem Add_lp(b:List Nat)(hb:Limbs b)(a:List Nat)(ha:Limbs a)(hs:SmL a):∀(k i:Nat) (out:List Nat) (c:Nat),a.length-i=k->i<=a.length->b.length<=a.length->c<=1->out.length+k<=2000000000->
  ∃(o:List Nat) (c':Nat),D.ask (.lp 197 0) [eN b,.sl 0 0 out.length 1,.v (.int .u64 (c:Int)),eN a,iv (a.length:Int),iv (i:Int)] [ABlk.mk (rowC eL out) true true]
   = some (.tup [iv 0,.sl 1 0 o.length 1,.v (.int .u64 (c':Int))],[.del,.set (ABlk.mk (rowC eL o) true true)])/\c'<=1/\o++[c']=out++addL c (a.drop i) (b.drop i):=by
 intro k
 unfold SmL at hs
 induction k with
 |zero=>
  intro i out c hi hle hba hc ho
  refine⟨out,c,?_,hc,?_⟩
  .refine K.lp' hn197 _ rfl (by kernel_rfl) ((e197_0 ..).trans ?_)
   refine(br_ltF (by omega)).trans ?_
   rfl
  .rw[show a.drop i=[] from List.drop_eq_nil_of_le (by omega)]
   rfl
 |succ k ih=>
  intro i out c hi hle hba hc ho
  have hlt:i<a.length:=by omega
  have hx:=ha.get hlt
  have hbd:=headD_lt (hb.drop i)
  have hdt:(b.drop i).tail=b.drop (i+1):=by rw[List.tail_drop]
  rw[show a.drop i=a[i]::a.drop (i+1) from List.drop_eq_getElem_cons hlt]
  obtain⟨o,c',h1,h2,h3⟩:=ih (i+1) (out++[(a[i]+(b.drop i).headD 0+c) % 4294967296]) ((a[i]+(b.drop i).headD 0+c) / 4294967296) (by omega) (by omega) hba (by omega) (by simp;omega)
  refine⟨o,c',?_,h2,?_⟩
  .refine K.lp' hn197 _ rfl (by kernel_rfl) ((e197_0 ..).trans ?_)
   refine(br_ltT (by omega)).trans ?_
   rw[unI_n,nthK_some (List.getElem?_eq_getElem hlt)]
   have hf:fitsB (out.length+1) 4=true:=fits_small (by omega) (by omega)
   have hb1:Nat.ble (0+out.length*1) (rowC eL out).length=true:=ble_row eL_len out (by omega)
   have e3:∀ s:Nat,List.drop 0 (List.take (0+out.length*1) (rowC eL out))++[.v (.int .u32 (s:Int))]=rowC eL (out++[s]):=fun s=>by
    rw[List.drop_zero,rowC_all eL_len out (by omega)]
    exact rowC_snoc eL out s
   rw[List.length_append,List.length_singleton]at h1
   simp only[eL,eL_u,ND,DK,unFn_fn,lenR_map]
   rw[add1 (by omega)]
   by_cases hib:i<b.length
   .have hd:(b.drop i).headD 0=b[i]:=by rw[List.drop_eq_getElem_cons hib];rfl
    rw[hd]at h1 hbd
    refine(br_ltT (by omega)).trans ?_
    rw[unI_n,nthK_some (List.getElem?_eq_getElem hib)]
    simp only[eL,eL_u,ND,DK,unFn_fn]
    rw[r_conv64 (by omega),r_conv64 (by omega),r_add64 (by omega),r_add64 (by omega),r_conv32,r_shr32,hf,hb1,e3]
    rw[show a[i]+c+b[i]=a[i]+b[i]+c by omega]
    refine(br_t _ _).trans ?_
    refine(br_t _ _).trans ?_
    refine(br_ltF (by decide)).trans ?_
    refine(askK_of h1 _).trans ?_
    rfl
   .have hd:(b.drop i).headD 0=0:=by rw[List.drop_eq_nil_of_le (by omega)];rfl
    rw[hd]at h1
    refine(br_ltF (by omega)).trans ?_
    rw[r_conv64 (by omega),r_add64 (by omega),r_conv32,r_shr32,hf,hb1,e3]
    rw[show a[i]+c=a[i]+0+c by omega]
    refine(br_t _ _).trans ?_
    refine(br_t _ _).trans ?_
    refine(br_ltF (by decide)).trans ?_
    refine(askK_of h1 _).trans ?_
    rfl
  .rw[h3,addL,hdt,List.append_assoc]
   rfl
theorem Add_ok{a b:List Nat}(hsa:a.length<=999999999)(ha:Limbs a)(hsb:b.length<=999999999)(hb:Limbs b):D.ask (.fn 197) [eN a,eN b] []=some (eN (natL (valL a+valL b)),[]):=by
 have s1:=natL_sm ha (by unfold SmL;omega)
 have s2:=natL_sm hb (by unfold SmL;omega)
 have t1:(natL (valL a)).length<=999999999:=by rw[natL_len a ha];have:=topL_le a;omega
 have t2:(natL (valL b)).length<=999999999:=by rw[natL_len b hb];have:=topL_le b;omega
 refine K.fn' hn197 _ rfl ((e197 ..).trans ?_)
 refine(askK_of (trim_ok K (by unfold SmL;omega) ha) _).trans ?_
 simp only[eN,ND,DK,unFn_fn]
 refine(askK_of (trim_ok K (by unfold SmL;omega) hb) _).trans ?_
 simp only[eN,ND,DK,unFn_fn,lenR_map]
 generalize valL a=x at *
 generalize valL b=y at *
 by_cases h1:(natL x).length<(natL y).length
 .refine(br_ltT (by omega)).trans ?_
  have hl:Limbs (addL 0 (natL y) (natL x)):=addL_limbs _ _ _ (natL_limbs _) (natL_limbs _) (by omega)
  obtain⟨o,c',g,hc,ho⟩:=Add_lp K (natL x) (natL_limbs x) (natL y) (natL_limbs y) s2 (natL y).length 0 [] 0 (by omega) (by omega) (by omega) (by omega) (by unfold SmL at s2;simp;omega)
  rw[List.nil_append,List.drop_zero,List.drop_zero]at ho
  have hol:o.length=(natL y).length:=by
   have:=congrArg List.length ho
   rw[List.length_append,addL_len]at this
   simpa using this
  have hsx:=s2
  unfold SmL at hsx
  rw[show realA.add .i64 ((natL y).length:Int) 1=(((natL y).length+1:Nat):Int) from add1 (by omega),unI_n]
  rw[fits_small (n:=(natL y).length+1) (b:=4) (by omega) (by omega)]
  refine(br_t _ _).trans ?_
  refine(askK_of g _).trans ?_
  simp only[cIk,ND,DK,unFn_fn]
  rw[r_conv32s (by omega)]
  have e3:List.drop 0 (List.take (0+o.length*1) (rowC eL o))++[.v (.int .u32 (c':Int))]=rowC eL (o++[c']):=by
   rw[List.drop_zero,rowC_all eL_len o (by omega)]
   exact rowC_snoc eL o c'
  rw[fits_small (n:=o.length+1) (b:=4) (by omega) (by omega),ble_row eL_len o (by omega),e3,ble_row eL_len (o++[c']) (by simp)]
  refine(br_t _ _).trans ?_
  refine(br_t _ _).trans ?_
  refine(br_t _ _).trans ?_
  rw[List.drop_zero,rowC_all eL_len (o++[c']) (by simp),show chunk (o.length+1) 1 (rowC eL (o++[c']))=(o++[c']).map eL from by have:=chunk_row eL_len (o++[c']);rwa [List.length_append]at this]
  rw[ho]
  have gt:=Trim_ok K C (l:=addL 0 (natL y) (natL x)) (by unfold SmL;rw[addL_len];omega) hl
  rw[valL_addL _ _ _ (by omega),valL_natL,valL_natL]at gt
  refine(askK_of gt _).trans ?_
  rw[show 0+y+x=x+y by omega]
  rfl
 .refine(br_ltF (by omega)).trans ?_
  have hl:Limbs (addL 0 (natL x) (natL y)):=addL_limbs _ _ _ (natL_limbs _) (natL_limbs _) (by omega)
  obtain⟨o,c',g,hc,ho⟩:=Add_lp K (natL y) (natL_limbs y) (natL x) (natL_limbs x) s1 (natL x).length 0 [] 0 (by omega) (by omega) (by omega) (by omega) (by unfold SmL at s1;simp;omega)
  rw[List.nil_append,List.drop_zero,List.drop_zero]at ho
  have hol:o.length=(natL x).length:=by
   have:=congrArg List.length ho
   rw[List.length_append,addL_len]at this
   simpa using this
  have hsx:=s1
  unfold SmL at hsx
  rw[show realA.add .i64 ((natL x).length:Int) 1=(((natL x).length+1:Nat):Int) from add1 (by omega),unI_n]
  rw[fits_small (n:=(natL x).length+1) (b:=4) (by omega) (by omega)]
  refine(br_t _ _).trans ?_
  refine(askK_of g _).trans ?_
  simp only[cIk,ND,DK,unFn_fn]
  rw[r_conv32s (by omega)]
  have e3:List.drop 0 (List.take (0+o.length*1) (rowC eL o))++[.v (.int .u32 (c':Int))]=rowC eL (o++[c']):=by
   rw[List.drop_zero,rowC_all eL_len o (by omega)]
   exact rowC_snoc eL o c'
  rw[fits_small (n:=o.length+1) (b:=4) (by omega) (by omega),ble_row eL_len o (by omega),e3,ble_row eL_len (o++[c']) (by simp)]
  refine(br_t _ _).trans ?_
  refine(br_t _ _).trans ?_
  refine(br_t _ _).trans ?_
  rw[List.drop_zero,rowC_all eL_len (o++[c']) (by simp),show chunk (o.length+1) 1 (rowC eL (o++[c']))=(o++[c']).map eL from by have:=chunk_row eL_len (o++[c']);rwa [List.length_append]at this]
  rw[ho]
  have gt:=Trim_ok K C (l:=addL 0 (natL x) (natL y)) (by unfold SmL;rw[addL_len];omega) hl
  rw[valL_addL _ _ _ (by omega),valL_natL,valL_natL]at gt
  refine(askK_of gt _).trans ?_
  rw[show 0+x+y=x+y by omega]
  rfl
omit C in
theorem Sub_lp(b:List Nat)(hb:Limbs b)(a:List Nat)(ha:Limbs a)(hs:SmL a):∀(k i:Nat) (out:List Nat) (c:Nat),a.length-i=k->i<=a.length->c<=1->out.length+k<=2000000000->
  D.ask (.lp 198 0) [eN b,.sl 0 0 out.length 1,.v (.int .u64 (c:Int)),eN a,iv (a.length:Int),iv (i:Int)] [ABlk.mk (rowC eL out) true true]
   = some (.tup [iv 0,.sl 1 0 (out++subL c (a.drop i) (b.drop i)).length 1],[.del,.set (ABlk.mk (rowC eL (out++subL c (a.drop i) (b.drop i))) true true)]):=by
 intro k
 unfold SmL at hs
 induction k with
 |zero=>
  intro i out c hi hle hc ho
  refine K.lp' hn198 _ rfl (by kernel_rfl) ((e198_0 ..).trans ?_)
  refine(br_ltF (by omega)).trans ?_
  rw[show a.drop i=[] from List.drop_eq_nil_of_le (by omega)]
  simp only[subL,List.append_nil]
  all_goals rfl
 |succ k ih=>
  intro i out c hi hle hc ho
  have hlt:i<a.length:=by omega
  have hx:=ha.get hlt
  have hbd:=headD_lt (hb.drop i)
  have hdt:(b.drop i).tail=b.drop (i+1):=by rw[List.tail_drop]
  rw[show a.drop i=a[i]::a.drop (i+1) from List.drop_eq_getElem_cons hlt,subL,hdt]
  have h1:=ih (i+1) (out++[if a[i]<(b.drop i).headD 0+c then a[i]+4294967296-((b.drop i).headD 0+c) else a[i]-((b.drop i).headD 0+c)]) (if a[i]<(b.drop i).headD 0+c then 1 else 0) (by omega) (by omega) (by split<;>omega) (by simp;omega)
  rw[List.append_assoc,List.length_append,List.length_singleton]at h1
  refine K.lp' hn198 _ rfl (by kernel_rfl) ((e198_0 ..).trans ?_)
  refine(br_ltT (by omega)).trans ?_
  rw[unI_n,nthK_some (List.getElem?_eq_getElem hlt)]
  have hf:fitsB (out.length+1) 4=true:=fits_small (by omega) (by omega)
  have hb1:Nat.ble (0+out.length*1) (rowC eL out).length=true:=ble_row eL_len out (by omega)
  have e3:∀ s:Nat,List.drop 0 (List.take (0+out.length*1) (rowC eL out))++[.v (.int .u32 (s:Int))]=rowC eL (out++[s]):=fun s=>by
   rw[List.drop_zero,rowC_all eL_len out (by omega)]
   exact rowC_snoc eL out s
  simp only[eL,eL_u,ND,DK,unFn_fn,lenR_map]
  rw[add1 (by omega)]
  by_cases hib:i<b.length
  .have hd:(b.drop i).headD 0=b[i]:=by rw[List.drop_eq_getElem_cons hib];rfl
   rw[hd]at h1 hbd
   rw[hd]
   refine(br_ltT (by omega)).trans ?_
   rw[unI_n,nthK_some (List.getElem?_eq_getElem hib)]
   simp only[eL,eL_u,ND,DK,unFn_fn]
   rw[r_conv64 (show a[i]<_ by omega),r_conv64 (show b[i]<_ by omega),r_add64 (by omega)]
   by_cases hlt2:a[i]<b[i]+c
   .refine(br_ltT (by omega)).trans ?_
    rw[if_pos hlt2,if_pos hlt2]at h1
    rw[if_pos hlt2,if_pos hlt2]
    rw[show (4294967296:Int)=((4294967296:Nat):Int) from rfl,r_add64 (by omega),show c+b[i]=b[i]+c by omega,r_sub64 (by omega) (by omega),r_conv32s (by omega),hf,hb1,e3]
    refine(br_t _ _).trans ?_
    refine(br_t _ _).trans ?_
    refine(askK_of h1 _).trans ?_
    rfl
   .refine(br_ltF (by omega)).trans ?_
    rw[if_neg hlt2,if_neg hlt2]at h1
    rw[if_neg hlt2,if_neg hlt2]
    rw[show c+b[i]=b[i]+c by omega,r_sub64 (by omega) (by omega),r_conv32s (by omega),hf,hb1,e3]
    refine(br_t _ _).trans ?_
    refine(br_t _ _).trans ?_
    refine(askK_of h1 _).trans ?_
    rfl
  .have hd:(b.drop i).headD 0=0:=by rw[List.drop_eq_nil_of_le (by omega)];rfl
   rw[hd]at h1
   rw[hd]
   refine(br_ltF (by omega)).trans ?_
   rw[r_conv64 (show a[i]<_ by omega)]
   rw[Nat.zero_add]at h1
   simp only[show (0:Nat)+c=c by omega]
   by_cases hlt2:a[i]<c
   .refine(br_ltT (by omega)).trans ?_
    rw[if_pos hlt2,if_pos hlt2]at h1
    rw[if_pos hlt2,if_pos hlt2]
    rw[show (4294967296:Int)=((4294967296:Nat):Int) from rfl,r_add64 (by omega),r_sub64 (by omega) (by omega),r_conv32s (by omega),hf,hb1,e3]
    refine(br_t _ _).trans ?_
    refine(br_t _ _).trans ?_
    refine(askK_of h1 _).trans ?_
    rfl
   .refine(br_ltF (by omega)).trans ?_
    rw[if_neg hlt2,if_neg hlt2]at h1
    rw[if_neg hlt2,if_neg hlt2]
    rw[r_sub64 (by omega) (by omega),r_conv32s (by omega),hf,hb1,e3]
    refine(br_t _ _).trans ?_
    refine(br_t _ _).trans ?_
    refine(askK_of h1 _).trans ?_
    rfl
def eSubN(x y:Nat):AV:=if y<=x then .tup [eN (natL (x-y)),bv true] else .tup [eN [],bv false]
theorem Sub_ok{a b:List Nat}(hsa:SmL a)(ha:Limbs a)(hsb:SmL b)(hb:Limbs b):D.ask (.fn 198) [eN a,eN b] []=some (eSubN (valL a) (valL b),[]):=by
 have s1:=natL_sm ha hsa
 have s2:=natL_sm hb hsb
 refine K.fn' hn198 _ rfl ((e198 ..).trans ?_)
 refine(askK_of (trim_ok K hsa ha) _).trans ?_
 simp only[eN,ND,DK,unFn_fn]
 refine(askK_of (trim_ok K hsb hb) _).trans ?_
 simp only[eN,ND,DK,unFn_fn,lenR_map]
 have gc:=Cmp_ok K s1 (natL_limbs _) s2 (natL_limbs _)
 rw[valL_natL,valL_natL]at gc
 refine(askK_of gc _).trans ?_
 simp only[ND,DK,unFn_fn]
 generalize valL a=x at *
 generalize valL b=y at *
 unfold eSubN
 unfold SmL at s1 s2
 by_cases h1:x<y
 .rw[show cmpN x y=-1 by unfold cmpN;rw[if_pos h1]]
  refine(br_ltT (by decide)).trans ?_
  rw[if_neg (by omega)]
  rfl
 .refine(br_ltF (by unfold cmpN;rw[if_neg h1];split<;>omega)).trans ?_
  rw[if_pos (by omega)]
  have hle:(natL y).length<=(natL x).length:=by
   by_cases h:(natL x).length<(natL y).length
   .have:=cmpN_len h;omega
   .omega
  rw[fits_small (n:=(natL x).length) (b:=4) (by omega) (by omega)]
  refine(br_t _ _).trans ?_
  have g:=Sub_lp K (natL y) (natL_limbs y) (natL x) (natL_limbs x) s1 (natL x).length 0 [] 0 (by omega) (by omega) (by omega) (by simp;omega)
  refine(askK_of g _).trans ?_
  simp only[ND,DK,unFn_fn,List.drop_zero,List.nil_append]
  rw[ble_row eL_len _ (by omega)]
  refine(br_t _ _).trans ?_
  rw[chunk_of eL_len _ rfl]
  have gt:=Trim_ok K C (l:=subL 0 (natL x) (natL y)) (by unfold SmL;rw[subL_len];exact s1) (subL_limbs _ _ _ (natL_limbs _) (natL_limbs _) (by omega))
  rw[valL_sub (natL_limbs _) (natL_limbs _) hle (by rw[valL_natL,valL_natL];omega),valL_natL,valL_natL]at gt
  refine(askK_of gt _).trans ?_
  rfl
end
end Go.Proofs.YtpncilciembjdaaGreatDoor
namespace Go.Proofs.YtpncilciembjdaaGreatDoor
open Go.RowKit

def eC(n:Nat):AV:=.v (.int .u32 (n:Int))
theorem rowC_eL:∀ l:List Nat,rowC eL l=l.map eC
 |[]=>rfl
 |x::r=>by
  have ih:=rowC_eL r
  unfold rowC at ih ⊢
  rw[List.flatMap_cons,ih]
  rfl
theorem splice_eL(l:List Nat)(i v:Nat)(h:i<l.length):splice (rowC eL l) (0+i*1) [.v (.int .u32 (v:Int))]=rowC eL (l.set i v):=by
 rw[rowC_eL,rowC_eL,List.set_eq_take_append_cons_drop,if_pos h]
 unfold splice
 simp only[Nat.zero_add,Nat.mul_one,List.map_append,List.map_cons,List.map_take,List.map_drop,List.length_singleton]
 rw[List.append_assoc]
 rfl
theorem rdK_eL(l:List Nat)(i:Nat)(h:i<l.length)(k:List AV->KR):rdK (rowC eL l) (0+i*1) 1 k=k [.v (.int .u32 (l[i]:Int))]:=by
 have hx:(rowC eL l)[i]? = some (.v (.int .u32 (l[i]:Int))):=by
  rw[rowC_eL,List.getElem?_map,List.getElem?_eq_getElem h]
  rfl
 obtain⟨hl,hx⟩:=List.getElem?_eq_some_iff.1 hx
 unfold rdK
 have:Nat.ble (0+i*1+1) (rowC eL l).length=true:=by simp;omega
 rw[this]
 simp only[Nat.zero_add,Nat.mul_one]
 rw[List.drop_eq_getElem_cons hl,hx]
 rfl
theorem zeros_eL(n:Nat):zeros [.v (.int .u32 0)] (n*1)=rowC eL (List.replicate n 0):=by
 rw[rowC_eL,Nat.mul_one]
 unfold zeros
 rw[List.map_replicate]
 refine List.ext_getElem (by simp) fun i h1 h2=>?_
 simp[Nat.mod_one,eC]
theorem mulR_drop:∀(x:Nat) (b o:List Nat) (c:Nat),(mulR x c b o).drop (b.length+1)=o.drop (b.length+1)
 |x,[],o,c=>by
  rw[mulR]
  cases o<;>simp
 |x,y::b,o,c=>by
  rw[mulR,List.length_cons,List.drop_succ_cons,mulR_drop x b o.tail]
  cases o with
  |nil=>simp
  |cons z o=>rfl
def ZeroFrom(j:Nat)(l:List Nat):Prop:=∀ y∈l.drop j,y=0
theorem zero_head{j:Nat}{l:List Nat}(h:ZeroFrom j l):(l.drop j).headD 0=0:=by
 unfold ZeroFrom at h
 cases e:l.drop j with
 |nil=>rfl
 |cons z r=>
  rw[e]at h
  exact h z (List.mem_cons_self ..)
theorem blt_true{a b:Nat}(h:a<b):Nat.blt a b=true:=by simpa using h
section
variable {D:Orc} (K:Knows ownC tabNa D)
include K
theorem school_in(a b:List Nat)(hb:Limbs b)(i:Nat)(hi:i<a.length)(hsz:a.length+b.length<=1000000000)(x:Nat)(hx:x<4294967296):∀(m k:Nat) (out:List Nat) (c:Nat),b.length-k=m->k<=b.length->Limbs out->c<4294967296->out.length=a.length+b.length->
  ∃(o:List Nat) (c':Nat),D.ask (.lp 243 1) [eN b,.sl 0 0 out.length 1,iv (i:Int),.v (.int .u32 (x:Int)),.v (.int .u64 (c:Int)),eN a,iv (a.length:Int),iv (i:Int),eN b,iv (b.length:Int),iv (k:Int)] [ABlk.mk (rowC eL out) true true]
   = some (.tup [iv 2,eN b,.sl 1 0 out.length 1,iv (i:Int),.v (.int .u64 (c':Int)),eN a,iv (a.length:Int),iv (i:Int)],[.del,.set (ABlk.mk (rowC eL o) true true)])
   ∧ c'<4294967296/\Limbs o/\o.length=out.length/\o.set (i+b.length) c'=out.take (i+k)++mulR x c (b.drop k) (out.drop (i+k)):=by
 intro m
 induction m with
 |zero=>
  intro k out c hm hk ho hc hlen
  obtain rfl:k=b.length:=by omega
  refine⟨out,c,?_,hc,ho,rfl,?_⟩
  .refine K.lp' hn243 _ rfl (by kernel_rfl) ((e243_1 ..).trans ?_)
   refine(br_ltF (by omega)).trans ?_
   rfl
  .rw[List.drop_length,mulR,List.set_eq_take_append_cons_drop,if_pos (by omega),List.tail_drop]
 |succ m ih=>
  intro k out c hm hk ho hc hlen
  have hlt:k<b.length:=by omega
  have hik:i+k<out.length:=by omega
  have hy:=hb.get hlt
  have hz:=ho.get hik
  have hp:=mul_lt hx hy
  have hd:(out.drop (i+k)).headD 0=out[i+k]:=by rw[List.drop_eq_getElem_cons hik];rfl
  obtain⟨o,c',h1,h2,h3,h4,h5⟩:=ih (k+1) (out.set (i+k) ((x*b[k]+out[i+k]+c) % 4294967296)) ((x*b[k]+out[i+k]+c) / 4294967296) (by omega) (by omega)
   (fun z hz'=>by
    rcases List.mem_or_eq_of_mem_set hz' with h|h
    .exact ho z h
    .rw[h];exact Nat.mod_lt _ (by omega)) (by omega) (by rw[List.length_set];exact hlen)
  rw[List.length_set]at h1 h4
  refine⟨o,c',?_,h2,h3,h4,?_⟩
  .refine K.lp' hn243 _ rfl (by kernel_rfl) ((e243_1 ..).trans ?_)
   refine(br_ltT (by omega)).trans ?_
   rw[unI_n,nthK_some (List.getElem?_eq_getElem hlt)]
   simp only[eL,cIk,ND,DK,unFn_fn]
   rw[addN (by omega),unI_n,blt_true hik]
   refine(br_t _ _).trans ?_
   refine(rdK_eL out _ hik _).trans ?_
   simp only[cIk,ND,DK,unFn_fn]
   rw[unI_n,blt_true hik]
   refine(br_t _ _).trans ?_
   rw[show Nat.ble (0+(i+k)*1+1) (rowC eL out).length=true by rw[rowC_len eL_len];simp;omega]
   refine(br_t _ _).trans ?_
   refine(br_ltF (by decide)).trans ?_
   rw[r_conv64 (show x<_ by omega),r_conv64 (show b[k]<_ by omega),r_conv64 (show out[i+k]<_ by omega),r_mul64 (by omega),r_add64 (by omega),r_add64 (by omega),r_conv32,r_shr32,splice_eL _ _ _ hik,add1 (by omega)]
   refine(askK_of h1 _).trans ?_
   rfl
  .rw[h5,List.drop_eq_getElem_cons hlt,mulR,hd]
   have e1:List.take (i+(k+1)) (out.set (i+k) ((x*b[k]+out[i+k]+c) % 4294967296))=out.take (i+k)++[(x*b[k]+out[i+k]+c) % 4294967296]:=by
    rw[show i+(k+1)=i+k+1 by omega,List.take_succ_eq_append_getElem (by rw[List.length_set];exact hik),List.getElem_set_self,List.take_set_of_le (Nat.le_refl _)]
   have e2:List.drop (i+(k+1)) (out.set (i+k) ((x*b[k]+out[i+k]+c) % 4294967296))=(out.drop (i+k)).tail:=by
    rw[List.drop_set_of_lt (by omega),List.tail_drop]
    rfl
   rw[e1,e2,List.append_assoc]
   rfl
theorem school_lp(a b:List Nat)(ha:Limbs a)(hb:Limbs b)(hsz:a.length+b.length<=1000000000):∀(m i:Nat) (out:List Nat),a.length-i=m->i<=a.length->Limbs out->out.length=a.length+b.length->ZeroFrom (i+b.length) out->
  ∃ o:List Nat,D.ask (.lp 243 0) [eN b,.sl 0 0 out.length 1,eN a,iv (a.length:Int),iv (i:Int)] [ABlk.mk (rowC eL out) true true]=some (.tup [iv 0,.sl 1 0 o.length 1],[.del,.set (ABlk.mk (rowC eL o) true true)])
   ∧ Limbs o/\o.length=out.length/\valL o=valL out+4294967296 ^ i*valL (a.drop i)*valL b:=by
 intro m
 induction m with
 |zero=>
  intro i out hm hi ho hlen hz
  refine⟨out,?_,ho,rfl,?_⟩
  .refine K.lp' hn243 _ rfl (by kernel_rfl) ((e243_0 ..).trans ?_)
   refine(br_ltF (by omega)).trans ?_
   rfl
  .rw[show a.drop i=[] from List.drop_eq_nil_of_le (by omega)]
   simp[valL]
 |succ m ih=>
  intro i out hm hi ho hlen hz
  have hlt:i<a.length:=by omega
  have hx:=ha.get hlt
  obtain⟨o,c',g1,g2,g3,g4,g5⟩:=school_in K a b hb i hlt hsz a[i] hx b.length 0 out 0 (by omega) (by omega) ho (by omega) hlen
  rw[Nat.add_zero,List.drop_zero]at g5
  have hdl:(out.drop i).length=a.length+b.length-i:=by rw[List.length_drop];omega
  have hlm:Limbs (o.set (i+b.length) c'):=by
   rw[g5]
   exact limbs_app (ho.take i) (mulR_limbs _ _ _ _ hx hb (ho.drop i) (by omega))
  have hhead:((out.drop i).drop b.length).headD 0=0:=by
   rw[List.drop_drop]
   exact zero_head hz
  have hv:valL (o.set (i+b.length) c')=valL out+4294967296 ^ i*(a[i]*valL b):=by
   rw[g5,valL_app,valL_mulR _ _ _ _ hhead]
   have e:valL out=valL (out.take i)+4294967296 ^ i*valL (out.drop i):=by
    have:=valL_app (out.take i) (out.drop i)
    rw[List.take_append_drop,List.length_take,Nat.min_eq_left (by omega)]at this
    exact this
   rw[e,List.length_take,Nat.min_eq_left (by omega),Nat.add_zero,Nat.mul_add]
   omega
  have hz2:ZeroFrom (i+1+b.length) (o.set (i+b.length) c'):=by
   unfold ZeroFrom
   rw[g5,List.drop_append,List.drop_eq_nil_of_le (by rw[List.length_take];omega),List.nil_append,List.length_take,Nat.min_eq_left (by omega),show i+1+b.length-i=b.length+1 by omega,mulR_drop,List.drop_drop]
   intro y hy
   exact hz y (by
    have:List.drop (i+(b.length+1)) out=List.drop 1 (List.drop (i+b.length) out):=by rw[List.drop_drop];rfl
    rw[this]at hy
    exact List.mem_of_mem_drop hy)
  obtain⟨o2,k1,k2,k3,k4⟩:=ih (i+1) (o.set (i+b.length) c') (by omega) (by omega) hlm (by rw[List.length_set,g4,hlen]) hz2
  rw[List.length_set,g4]at k1 k3
  refine⟨o2,?_,k2,k3,?_⟩
  .refine K.lp' hn243 _ rfl (by kernel_rfl) ((e243_0 ..).trans ?_)
   refine(br_ltT (by omega)).trans ?_
   rw[unI_n,nthK_some (List.getElem?_eq_getElem hlt)]
   simp only[eL,cIk,lenR_map,ND,DK,unFn_fn]
   refine(askK_of g1 _).trans ?_
   simp only[eN,cIk,lenR_map,ND,DK,unFn_fn]
   rw[addN (by omega),unI_n,blt_true (by omega)]
   refine(br_t _ _).trans ?_
   rw[show Nat.ble (0+(i+b.length)*1+1) (rowC eL o).length=true by rw[rowC_len eL_len];simp;omega]
   refine(br_t _ _).trans ?_
   rw[r_conv32s g2,splice_eL _ _ _ (by omega),add1 (by omega)]
   refine(askK_of k1 _).trans ?_
   rfl
  .rw[k4,hv,List.drop_eq_getElem_cons hlt,valL,Nat.pow_succ]
   have e1:4294967296 ^ i*(a[i]+4294967296*valL (List.drop (i+1) a))*valL b=4294967296 ^ i*(a[i]*valL b)+4294967296 ^ i*4294967296*valL (List.drop (i+1) a)*valL b:=by
    rw[Nat.mul_add,Nat.add_mul,Nat.mul_assoc _ a[i],Nat.mul_assoc (4294967296 ^ i) 4294967296]
   rw[e1]
   omega
variable (C:CloneF D)
include C
theorem school_ok{a b:List Nat}(ha:Limbs a)(hb:Limbs b)(hsz:a.length+b.length<=1000000000):D.ask (.fn 243) [eN a,eN b] []=some (eN (natL (valL a*valL b)),[]):=by
 obtain⟨o,k1,k2,k3,k4⟩:=school_lp K a b ha hb hsz a.length 0 (List.replicate (a.length+b.length) 0) (by omega) (by omega) (fun x hx=>by rw[(List.mem_replicate.1 hx).2];omega) (by simp) (fun y hy=>(List.mem_replicate.1 (List.mem_of_mem_drop hy)).2)
 rw[List.length_replicate]at k1 k3
 have hz:∀ n,valL (List.replicate n 0)=0:=fun n=>by
  induction n with
  |zero=>rfl
  |succ n ih=>rw[List.replicate_succ,valL,ih]
 rw[hz,List.drop_zero,Nat.pow_zero,Nat.one_mul,Nat.zero_add]at k4
 refine K.fn' hn243 _ rfl ((e243 ..).trans ?_)
 rw[lenR_map,lenR_map,addN (by omega)]
 simp only[unI_n]
 rw[show Nat.ble (a.length+b.length) (a.length+b.length)=true by simp,fits_small (n:=a.length+b.length) (b:=4) (by omega) (by omega),zeros_eL]
 refine(br_t _ _).trans ?_
 refine(br_t _ _).trans ?_
 refine(askK_of k1 _).trans ?_
 simp only[ND,DK,unFn_fn]
 rw[ble_row eL_len _ (by omega)]
 refine(br_t _ _).trans ?_
 rw[chunk_of eL_len _ rfl]
 have gt:=Trim_ok K C (l:=o) (by unfold SmL;omega) k2
 rw[k4]at gt
 refine(askK_of gt _).trans ?_
 rfl
theorem Mul_ok{a b:List Nat}(hsa:a.length<=400000000)(ha:Limbs a)(hsb:b.length<=400000000)(hb:Limbs b)(h24:a.length<24\/b.length<24):D.ask (.fn 212) [eN a,eN b] []=some (eN (natL (valL a*valL b)),[]):=by
 have t1:(natL (valL a)).length<=a.length:=by rw[natL_len a ha];exact topL_le a
 have t2:(natL (valL b)).length<=b.length:=by rw[natL_len b hb];exact topL_le b
 refine K.fn' hn212 _ rfl ((e212 ..).trans ?_)
 refine(askK_of (trim_ok K (by unfold SmL;omega) ha) _).trans ?_
 simp only[eN,ND,DK,unFn_fn]
 refine(askK_of (trim_ok K (by unfold SmL;omega) hb) _).trans ?_
 simp only[eN,ND,DK,unFn_fn,lenR_map]
 have g:=school_ok K C (natL_limbs (valL a)) (natL_limbs (valL b)) (by omega)
 rw[valL_natL,valL_natL]at g
 by_cases h1:(natL (valL a)).length<24
 .refine(br_ltT (by omega)).trans ?_
  refine(askK_of g _).trans ?_
  rfl
 .refine(br_ltF (by omega)).trans ?_
  refine(br_ltT (by omega)).trans ?_
  refine(askK_of g _).trans ?_
  rfl
end
end Go.Proofs.YtpncilciembjdaaGreatDoor
namespace Go.Proofs.YtpncilciembjdaaGreatDoor
open Go.RowKit

section
variable {D:Orc} (K:Knows ownC tabNa D) (Z:Knows ownC tabZi D) (C:CloneF D)
include K Z C
theorem From_ok(neg:Bool){a:List Nat}(ha:Limbs a)(hs:SmL a):D.ask (.fn 145) [bv neg,eN a] []=some (.agg (eZ (ziOf (sgI neg (valL a)))),[]):=by
 refine Z.fn' hn145 _ rfl ((e145 ..).trans ?_)
 refine(askK_of (Trim_ok K C hs ha) _).trans ?_
 simp only[eN,ND,DK,unFn_fn,lenR_map]
 rw[ziOf_sg]
 unfold eZ eN
 cases neg with
 |false=>rfl
 |true=>
  refine(br_t _ _).trans ?_
  refine(br_t _ _).trans ?_
  refine(br_t _ _).trans ?_
  have hp:=@natL_pos_iff (valL a)
  by_cases h:0<valL a
  .refine(br_ltT (by have:=hp.2 h;omega)).trans ?_
   rw[decide_eq_true h]
   rfl
  .refine(br_ltF (by intro e;exact h (hp.1 (by omega)))).trans ?_
   rw[decide_eq_false h]
   rfl
theorem clean_ok{z:Zi}(hz:Lz 1000000000 z):D.ask (.fn 142) [.agg (eZ z)] []=some (.agg (eZ (ziOf (zv z))),[]):=by
 refine Z.fn' hn142 _ rfl ((e142 ..).trans ?_)
 refine(askK_of (From_ok K Z C z.neg hz.lim hz.len) _).trans ?_
 rfl
theorem zNeg_ok{z:Zi}(hz:Lz 1000000000 z):D.ask (.fn 161) [.agg (eZ z)] []=some (.agg (eZ (ziOf (-zv z))),[]):=by
 have e:-zv z=sgI (!z.neg) (valL z.abs):=by
  unfold zv sgI
  cases z.neg<;>simp
 rw[e]
 refine Z.fn' hn161 _ rfl ((e161 ..).trans ?_)
 rw[r_not]
 have g:=fun b=>From_ok K Z C b hz.lim hz.len
 cases z.neg with
 |false=>
  refine(br_t _ _).trans ?_
  refine(askK_of (g true) _).trans ?_
  rfl
 |true=>
  refine(br_f _ _).trans ?_
  refine(askK_of (g false) _).trans ?_
  rfl
theorem zSign_ok{z:Zi}(hz:Lz 1000000000 z):D.ask (.fn 64) [.agg (eZ z)] []=some (iv (sgnZ (zv z)),[]):=by
 refine Z.fn' hn64 _ rfl ((e64 ..).trans ?_)
 refine(askK_of (clean_ok K Z C hz) _).trans ?_
 simp only[eZ,eN,ND,DK,unFn_fn,lenR_map]
 unfold ziOf sgnZ
 by_cases h:zv z<0
 .rw[if_pos h,decide_eq_true h]
  rfl
 .rw[if_neg h,decide_eq_false h]
  refine(br_f _ _).trans ?_
  have hp:=@natL_pos_iff (zv z).natAbs
  by_cases h2:0<zv z
  .rw[if_pos h2]
   refine(br_ltT (by have:=hp.2 (by omega);dsimp only;omega)).trans ?_
   rfl
  .rw[if_neg h2]
   refine(br_ltF (by dsimp only;intro e;have:=hp.1 (by omega);omega)).trans ?_
   rfl
theorem zOf_ok(n:Int)(h1:-9223372036854775808<=n)(h2:n<9223372036854775808):D.ask (.fn 126) [iv n] []=some (.agg (eZ (ziOf n)),[]):=by
 refine Z.fn' hn126 _ rfl ((e126 ..).trans ?_)
 have hl:∀ m:Nat,m<18446744073709551616->(natL m).length<=2:=fun m h=>natL_len_le (by omega)
 by_cases h:n<0
 .refine(br_ltT h).trans ?_
  have e1:realA.add .i64 n 1=n+1:=r_add (by omega) (by omega)
  have e2:realA.sub .i64 0 (n+1)=((n.natAbs-1:Nat):Int):=by rw[r_sub (by omega) (by omega)];omega
  rw[e1,e2,r_conv64 (by omega),show (1:Int)=((1:Nat):Int) from rfl,r_add64 (by omega),show n.natAbs-1+1=n.natAbs by omega]
  refine(askK_of (Of_ok K C n.natAbs (by omega)) _).trans ?_
  simp only[eN,ND,DK,unFn_fn]
  have g:=From_ok K Z C true (natL_limbs n.natAbs) (by unfold SmL;have:=hl n.natAbs (by omega);omega)
  rw[valL_natL,show sgI true n.natAbs=n by unfold sgI;rw[if_pos rfl];omega]at g
  refine(askK_of g _).trans ?_
  rfl
 .refine(br_ltF h).trans ?_
  obtain⟨m,rfl⟩:=Int.eq_ofNat_of_zero_le (show 0<=n by omega)
  rw[r_conv64 (by omega)]
  refine(askK_of (Of_ok K C m (by omega)) _).trans ?_
  simp only[eN,ND,DK,unFn_fn]
  have g:=From_ok K Z C false (natL_limbs m) (by unfold SmL;have:=hl m (by omega);omega)
  rw[valL_natL,show sgI false m=(m:Int) from rfl]at g
  refine(askK_of g _).trans ?_
  rfl
theorem zCmp_ok{a b:Zi}(ha:Lz 1000000000 a)(hb:Lz 1000000000 b):D.ask (.fn 155) [.agg (eZ a),.agg (eZ b)] []=some (iv (cmpZ (zv a) (zv b)),[]):=by
 refine Z.fn' hn155 _ rfl ((e155 ..).trans ?_)
 refine(askK_of (zSign_ok K Z C ha) _).trans ?_
 simp only[ND,DK,unFn_fn]
 refine(askK_of (zSign_ok K Z C hb) _).trans ?_
 simp only[ND,DK,unFn_fn]
 have g1:=Cmp_ok K (a:=b.abs) (b:=a.abs) hb.len hb.lim ha.len ha.lim
 have g2:=Cmp_ok K (a:=a.abs) (b:=b.abs) ha.len ha.lim hb.len hb.lim
 have na:=zv_neg a
 have nb:=zv_neg b
 have za:=zv_zero a
 have zb:=zv_zero b
 have va:zv a=sgI a.neg (valL a.abs):=rfl
 have vb:zv b=sgI b.neg (valL b.abs):=rfl
 unfold sgnZ
 by_cases h1:zv a<0
 .rw[if_pos h1]
  rw[sgI,if_pos (na.1 h1).1]at va
  by_cases h2:zv b<0
  .rw[if_pos h2]
   rw[sgI,if_pos (nb.1 h2).1]at vb
   refine(br_ltF (by decide)).trans ?_
   refine(br_ltF (by decide)).trans ?_
   refine(br_ltT (by decide)).trans ?_
   refine(askK_of g1 _).trans ?_
   rw[show cmpZ (zv a) (zv b)=cmpN (valL b.abs) (valL a.abs) by
    unfold cmpZ cmpN
    rw[va,vb]
    by_cases h3:valL b.abs<valL a.abs
    .rw[if_pos (by omega),if_pos h3]
    .rw[if_neg (by omega),if_neg h3]
     by_cases h4:valL a.abs<valL b.abs
     .rw[if_pos (by omega),if_pos h4]
     .rw[if_neg (by omega),if_neg h4]]
   rfl
  .rw[if_neg h2]
   rw[show cmpZ (zv a) (zv b)=-1 by unfold cmpZ;rw[if_pos (by omega)]]
   by_cases h3:0<zv b
   .rw[if_pos h3];rfl
   .rw[if_neg h3];rfl
 .rw[if_neg h1]
  by_cases h2:zv b<0
  .rw[if_pos h2]
   rw[show cmpZ (zv a) (zv b)=1 by unfold cmpZ;rw[if_neg (by omega),if_pos (by omega)]]
   by_cases h3:0<zv a
   .rw[if_pos h3];rfl
   .rw[if_neg h3];rfl
  .rw[if_neg h2]
   have ea:zv a=(valL a.abs:Int):=by
    by_cases h:0<valL a.abs
    .rw[va,sgI,if_neg (fun e=>h1 (na.2 ⟨e,h⟩))]
    .rw[za.2 (by omega)];omega
   have eb:zv b=(valL b.abs:Int):=by
    by_cases h:0<valL b.abs
    .rw[vb,sgI,if_neg (fun e=>h2 (nb.2 ⟨e,h⟩))]
    .rw[zb.2 (by omega)];omega
   have ec:cmpZ (zv a) (zv b)=cmpN (valL a.abs) (valL b.abs):=by
    unfold cmpZ cmpN
    rw[ea,eb]
    by_cases h3:valL a.abs<valL b.abs
    .rw[if_pos (by omega),if_pos h3]
    .rw[if_neg (by omega),if_neg h3]
     by_cases h4:valL b.abs<valL a.abs
     .rw[if_pos (by omega),if_pos h4]
     .rw[if_neg (by omega),if_neg h4]
   rw[ec]
   by_cases h3:0<zv a
   .rw[if_pos h3]
    by_cases h4:0<zv b
    .rw[if_pos h4]
     refine(br_ltF (by decide)).trans ?_
     refine(br_ltF (by decide)).trans ?_
     refine(br_ltF (by decide)).trans ?_
     refine(askK_of g2 _).trans ?_
     rfl
    .rw[if_neg h4]
     refine(br_ltF (by decide)).trans ?_
     refine(br_ltT (by decide)).trans ?_
     rw[show cmpN (valL a.abs) (valL b.abs)=1 by unfold cmpN;rw[if_neg (by omega),if_pos (by omega)]]
   .rw[if_neg h3]
    by_cases h4:0<zv b
    .rw[if_pos h4]
     refine(br_ltT (by decide)).trans ?_
     rw[show cmpN (valL a.abs) (valL b.abs)=-1 by unfold cmpN;rw[if_pos (by omega)]]
    .rw[if_neg h4]
     refine(br_ltF (by decide)).trans ?_
     refine(br_ltF (by decide)).trans ?_
     refine(br_ltF (by decide)).trans ?_
     refine(askK_of g2 _).trans ?_
     rfl
theorem zAdd_ok{k:Nat}(hk:k<=900000000){a b:Zi}(ha:Lz k a)(hb:Lz k b):D.ask (.fn 139) [.agg (eZ a),.agg (eZ b)] []=some (.agg (eZ (ziOf (zv a+zv b))),[]):=by
 have la:=ha.len
 have lb:=hb.len
 refine Z.fn' hn139 _ rfl ((e139 ..).trans ?_)
 have hfr:∀(neg:Bool) (n:Nat),n<4294967296 ^ (k+1)->D.ask (.fn 145) [bv neg,eN (natL n)] []=some (.agg (eZ (ziOf (sgI neg n))),[]):=fun neg n h=>by
  have:=From_ok K Z C neg (natL_limbs n) (by unfold SmL;have:=natL_len_le h;omega)
  rwa [valL_natL]at this
 have ba:=valL_lt ha.lim
 have bb:=valL_lt hb.lim
 have pa:4294967296 ^ a.abs.length<=4294967296 ^ k:=Nat.pow_le_pow_right (by omega) la
 have pb:4294967296 ^ b.abs.length<=4294967296 ^ k:=Nat.pow_le_pow_right (by omega) lb
 have ps:4294967296 ^ (k+1)=4294967296 ^ k*4294967296:=Nat.pow_succ ..
 by_cases h:a.neg=b.neg
 .rw[r_beq,show (a.neg == b.neg)=true by simpa using h]
  refine(br_t _ _).trans ?_
  refine(askK_of (Add_ok K C (by omega) ha.lim (by omega) hb.lim) _).trans ?_
  simp only[eN,ND,DK,unFn_fn]
  refine(askK_of (hfr a.neg (valL a.abs+valL b.abs) (by omega)) _).trans ?_
  rw[show sgI a.neg (valL a.abs+valL b.abs)=zv a+zv b by
   unfold zv
   rw[←h]
   unfold sgI
   split<;>omega]
  rfl
 .rw[r_beq,show (a.neg == b.neg)=false by simpa using h]
  refine(br_f _ _).trans ?_
  have hop:zv a+zv b=sgI a.neg (valL a.abs)+sgI (!a.neg) (valL b.abs):=by
   unfold zv
   have:b.neg = !a.neg:=by
    revert h
    cases a.neg<;>cases b.neg<;>simp
   rw[this]
  have g1:=Sub_ok K C (a:=a.abs) (b:=b.abs) (by unfold SmL;omega) ha.lim (by unfold SmL;omega) hb.lim
  have g2:=Sub_ok K C (a:=b.abs) (b:=a.abs) (by unfold SmL;omega) hb.lim (by unfold SmL;omega) ha.lim
  unfold eSubN at g1 g2
  refine(askK_of g1 _).trans ?_
  by_cases hle:valL b.abs<=valL a.abs
  .rw[if_pos hle]
   simp only[eN,ND,DK,unFn_fn]
   refine(askK_of (hfr a.neg (valL a.abs-valL b.abs) (by omega)) _).trans ?_
   rw[show sgI a.neg (valL a.abs-valL b.abs)=zv a+zv b by
    rw[hop]
    unfold sgI
    cases a.neg<;>simp<;>omega]
   rfl
  .rw[if_neg hle]
   rw[if_pos (by omega)]at g2
   simp only[eN,ND,DK,unFn_fn]
   refine(askK_of g2 _).trans ?_
   simp only[eN,ND,DK,unFn_fn]
   refine(askK_of (hfr b.neg (valL b.abs-valL a.abs) (by omega)) _).trans ?_
   rw[show sgI b.neg (valL b.abs-valL a.abs)=zv a+zv b by
    rw[hop]
    have:b.neg = !a.neg:=by
     revert h
     cases a.neg<;>cases b.neg<;>simp
    rw[this]
    unfold sgI
    cases a.neg<;>simp<;>omega]
   rfl
theorem zMul_ok{k m:Nat}(hk:k<=400000000)(hkm:m<=400000000){a b:Zi}(ha:Lz k a)(hb:Lz m b)(h24:a.abs.length<24\/b.abs.length<24):D.ask (.fn 158) [.agg (eZ a),.agg (eZ b)] []=some (.agg (eZ (ziOf (zv a*zv b))),[]):=by
 have la:=ha.len
 have lb:=hb.len
 refine Z.fn' hn158 _ rfl ((e158 ..).trans ?_)
 have hm:InB (k+m) (zv a*zv b):=ha.inb.mul hb.inb
 have hab:(zv a*zv b).natAbs=valL a.abs*valL b.abs:=by
  have f:∀ z:Zi,(zv z).natAbs=valL z.abs:=fun z=>by
   unfold zv sgI
   split
   .rw[Int.natAbs_neg];rfl
   .rfl
  rw[Int.natAbs_mul,f,f]
 unfold InB at hm
 rw[hab]at hm
 have hl:=natL_len_le hm
 have hfr:∀(neg:Bool),D.ask (.fn 145) [bv neg,eN (natL (valL a.abs*valL b.abs))] []=some (.agg (eZ (ziOf (sgI neg (valL a.abs*valL b.abs)))),[]):=fun neg=>by
  have:=From_ok K Z C neg (natL_limbs (valL a.abs*valL b.abs)) (by unfold SmL;omega)
  rwa [valL_natL]at this
 have g:=Mul_ok K C (by omega) ha.lim (by omega) hb.lim h24
 have hs:sgI (a.neg != b.neg) (valL a.abs*valL b.abs)=zv a*zv b:=by
  unfold zv sgI
  cases a.neg<;>cases b.neg<;>simp[Int.mul_neg,Int.neg_mul]
 rw[r_not,r_beq]
 by_cases h:a.neg=b.neg
 .rw[show (!(a.neg == b.neg))=false by simp[h]]
  rw[show (a.neg != b.neg)=false by simp[h]]at hs
  refine(br_f _ _).trans ?_
  refine(askK_of g _).trans ?_
  simp only[eN,ND,DK,unFn_fn]
  refine(askK_of (hfr false) _).trans ?_
  rw[hs]
  rfl
 .rw[show (!(a.neg == b.neg))=true by simp[h]]
  rw[show (a.neg != b.neg)=true by simp[h]]at hs
  refine(br_t _ _).trans ?_
  refine(askK_of g _).trans ?_
  simp only[eN,ND,DK,unFn_fn]
  refine(askK_of (hfr true) _).trans ?_
  rw[hs]
  rfl
end
end Go.Proofs.YtpncilciembjdaaGreatDoor
namespace Go.Proofs.YtpncilciembjdaaGreatDoor
open Go.RowKit

structure ZF (D:Orc):Prop where
 frm:∀ z:Zi,Lz 1000000000 z->D.ask (.fn 145) [bv z.neg,eN z.abs] []=some (.agg (eZ (ziOf (zv z))),[])
 neg:∀ z:Zi,Lz 1000000000 z->D.ask (.fn 161) [.agg (eZ z)] []=some (.agg (eZ (ziOf (-zv z))),[])
 sign:∀ z:Zi,Lz 1000000000 z->D.ask (.fn 64) [.agg (eZ z)] []=some (iv (sgnZ (zv z)),[])
 of_:∀ n:Int,-9223372036854775808<=n->n<9223372036854775808->D.ask (.fn 126) [iv n] []=some (.agg (eZ (ziOf n)),[])
 cmp:∀ a b:Zi,Lz 1000000000 a->Lz 1000000000 b->D.ask (.fn 155) [.agg (eZ a),.agg (eZ b)] []=some (iv (cmpZ (zv a) (zv b)),[])
 add:∀ a b:Zi,Lz 900000000 a->Lz 900000000 b->D.ask (.fn 139) [.agg (eZ a),.agg (eZ b)] []=some (.agg (eZ (ziOf (zv a+zv b))),[])
 mul:∀ a b:Zi,Lz 400000000 a->Lz 400000000 b->a.abs.length<24\/b.abs.length<24->D.ask (.fn 158) [.agg (eZ a),.agg (eZ b)] []=some (.agg (eZ (ziOf (zv a*zv b))),[])
theorem zf_of{D:Orc}(K:Knows ownC tabNa D)(Z:Knows ownC tabZi D)(C:CloneF D):ZF D where
 frm z h:=by
  have:=From_ok K Z C z.neg h.lim (by unfold SmL;exact h.len)
  exact this
 neg z h:=zNeg_ok K Z C h
 sign z h:=zSign_ok K Z C h
 of_ n h1 h2:=zOf_ok K Z C n h1 h2
 cmp a b ha hb:=zCmp_ok K Z C ha hb
 add a b ha hb:=zAdd_ok K Z C (Nat.le_refl _) ha hb
 mul a b ha hb h:=zMul_ok K Z C (Nat.le_refl _) (Nat.le_refl _) ha hb h
end Go.Proofs.YtpncilciembjdaaGreatDoor
namespace Go.Proofs.YtpncilciembjdaaGreatDoor
open Go.RowKit

theorem Srt.same{l r:List Pt}{a b p q:Nat}(h:Srt Pt.v l p q)(hs:Same0 l r a b)(hd:q<=a\/b<=p):Srt Pt.v r p q:=by
 intro x y h1 h2 h3
 rw[hs.kf Pt.v (by omega),hs.kf Pt.v (by omega)]
 exact h x y h1 h2 h3

end Go.Proofs.YtpncilciembjdaaGreatDoor
namespace Go.Proofs.YtpncilciembjdaaGreatDoor
open Go.RowKit


end Go.Proofs.YtpncilciembjdaaGreatDoor
namespace Go.Proofs.YtpncilciembjdaaGreatDoor
open Go.RowKit

abbrev bkP(l:List Pt):ABlk:=ABlk.mk (rowC eP l) true true

end Go.Proofs.YtpncilciembjdaaGreatDoor
namespace Go.Proofs.YtpncilciembjdaaGreatDoor
open Go.RowKit


end Go.Proofs.YtpncilciembjdaaGreatDoor
namespace Go.Proofs.YtpncilciembjdaaGreatDoor
open Go.RowKit


end Go.Proofs.YtpncilciembjdaaGreatDoor
namespace Go.Proofs.YtpncilciembjdaaGreatDoor
open Go.RowKit

structure PartF (D:Orc):Prop where
 clone:∀ l:List Pt,l.length<=1000000000->D.ask (.fn 135) [.ls (l.map eP)] []=some (.sl 0 0 l.length 3,[.set (bkP l)])
 grow:∀ n:Nat,n<=1000000000->D.ask (.fn 262) [.v (.slice none 0 0),iv (n:Int)] []=some (.sl 0 0 0 3,[.set (bkP [])])

section
variable {D:Orc} (Kt:Knows ownC tabTe D)  (Z:ZF D) (C:PartF D)
include Z
include Kt in
theorem copiedZ_ok{z:Zi}(hz:Lz 1000000000 z):D.ask (.fn 138) [.agg (eZ z)] []=some (.agg (eZ (ziOf (zv z))),[]):=by
 refine Kt.fn' hn138 _ rfl ((e138 ..).trans ?_)
 refine(askK_of (Z.frm z hz) _).trans ?_
 rfl
include Kt in
include Kt C in
end
end Go.Proofs.YtpncilciembjdaaGreatDoor
namespace Go.Proofs.YtpncilciembjdaaGreatDoor
open Go.RowKit
variable (A:Ar) (D:Orc)
end Go.Proofs.YtpncilciembjdaaGreatDoor
namespace Go.Proofs.YtpncilciembjdaaGreatDoor
open Go.RowKit


end Go.Proofs.YtpncilciembjdaaGreatDoor
namespace Go.Proofs.YtpncilciembjdaaGreatDoor
open Go.RowKit
variable (A:Ar) (D:Orc)
end Go.Proofs.YtpncilciembjdaaGreatDoor
namespace Go.Proofs.YtpncilciembjdaaGreatDoor
open Go.RowKit

theorem LB.sub{n m k:Nat}{a b:Lf}(ha:LB n k a)(hb:LB m k b):LB (n+m) (2*k+2+2*(n+m)) (a.sub b):=by
 have h1:LB m (k+1+m) (b.scale (-1)):=hb.scale (by unfold InB;decide)
 exact(ha.add h1).mono (Nat.le_refl _) (by omega)
theorem kid_size{k:Int}{t:Tm}{e:Bool}{ks:List Fm}{x:Fm}(h:x∈ks):SizeOf.sizeOf x<SizeOf.sizeOf (Fm.mk k t e ks):=by
 have:=List.sizeOf_lt_of_mem h
 simp only[Fm.mk.sizeOf_spec]
 omega

end Go.Proofs.YtpncilciembjdaaGreatDoor
namespace Go.Proofs.YtpncilciembjdaaGreatDoor
open Go.RowKit

theorem r_quo64(x:Nat)(h:x<18446744073709551616):realA.quo .u64 (x:Int) 4294967296=((x / 4294967296:Nat):Int):=by
 show IntKind.u64.wrap ((x:Int).tdiv 4294967296)=_
 have:(x:Int).tdiv 4294967296=((x / 4294967296:Nat):Int):=rfl
 rw[this,IntKind.wrap_u64]
 omega
theorem r_rem64(x:Nat):realA.rem .u64 (x:Int) 4294967296=((x % 4294967296:Nat):Int):=by
 show (x:Int).tmod 4294967296=_
 rfl
theorem take_rowC(l:List Nat)(n:Nat):(rowC eL l).take n=rowC eL (l.take n):=by rw[rowC_eL,rowC_eL,List.map_take]
theorem chunk_take(l:List Nat)(n:Nat)(h:n<=l.length):chunk n 1 ((rowC eL l).take (n*1))=(l.take n).map eL:=by
 rw[Nat.mul_one,take_rowC]
 have:=chunk_row eL_len (l.take n)
 rwa [List.length_take,Nat.min_eq_left h]at this
theorem getD_drop(l:List Nat)(i:Nat):(l.drop i).headD 0=l.getD i 0:=by
 rw[List.getD_eq_getElem?_getD]
 by_cases h:i<l.length
 .rw[List.drop_eq_getElem_cons h,List.getElem?_eq_getElem h];rfl
 .rw[List.drop_eq_nil_of_le (by omega),List.getElem?_eq_none (by omega)];rfl
theorem getD_lt{l:List Nat}(h:Limbs l)(i:Nat):l.getD i 0<4294967296:=by
 rw[←getD_drop]
 exact headD_lt (h.drop i)
def padL(n:Nat)(l:List Nat):List Nat:=l++List.replicate (n-l.length) 0
theorem val_rep(n:Nat):valL (List.replicate n 0)=0:=by
 induction n with
 |zero=>rfl
 |succ n ih=>rw[List.replicate_succ,valL,ih]
theorem valL_pad(n:Nat)(l:List Nat):valL (padL n l)=valL l:=by
 unfold padL
 rw[valL_app,val_rep]
 omega
theorem padL_len{n:Nat}{l:List Nat}(h:l.length<=n):(padL n l).length=n:=by
 unfold padL
 rw[List.length_append,List.length_replicate]
 omega
theorem padL_limbs{n:Nat}{l:List Nat}(h:Limbs l):Limbs (padL n l):=limbs_app h fun x hx=>by
 rw[(List.mem_replicate.1 hx).2]
 omega
theorem padL_get{n i:Nat}{l:List Nat}(h:l.length<=n)(hi:i<n):(padL n l)[i]'(by rw[padL_len h];exact hi)=l.getD i 0:=by
 rw[List.getD_eq_getElem?_getD]
 unfold padL
 by_cases h2:i<l.length
 .rw[List.getElem_append_left h2,List.getElem?_eq_getElem h2];rfl
 .rw[List.getElem_append_right (by omega),List.getElem_replicate,List.getElem?_eq_none (by omega)];rfl
section
variable {D:Orc} (K:Knows ownC tabRn D)
include K
theorem rtrim_cp(l:List Nat)(hl:SmL l):∀(k i:Nat) (out:List Nat),l.length-i=k->out.length+k<=2000000000->D.ask (.lp 149 0) [eN l,.sl 0 0 out.length 1,iv (i:Int)] [ABlk.mk (rowC eL out) true true]
  = some (.tup [iv 0,.sl 1 0 (out++l.drop i).length 1],[.del,.set (ABlk.mk (rowC eL (out++l.drop i)) true true)]):=by
 intro k
 unfold SmL at hl
 induction k with
 |zero=>
  intro i out hi ho
  refine K.lp' hn149 _ rfl (by kernel_rfl) ((e149_0 ..).trans ?_)
  rw[lenR_map,show l.drop i=[] from List.drop_eq_nil_of_le (by omega),List.append_nil]
  refine(br_ltF (by omega)).trans ?_
  rfl
 |succ k ih=>
  intro i out hi ho
  have hlt:i<l.length:=by omega
  have ih':=ih (i+1) (out++[l[i]]) (by omega) (by simp;omega)
  rw[List.append_assoc,List.length_append,List.length_singleton]at ih'
  refine K.lp' hn149 _ rfl (by kernel_rfl) ((e149_0 ..).trans ?_)
  rw[lenR_map,List.drop_eq_getElem_cons hlt]
  refine(br_ltT (by omega)).trans ?_
  rw[unI_n,nthK_some (List.getElem?_eq_getElem hlt)]
  have hf:fitsB (out.length+1) 4=true:=fits_small (by omega) (by omega)
  have hb1:Nat.ble (0+out.length*1) (rowC eL out).length=true:=ble_row eL_len out (by omega)
  have e3:∀ s:Nat,List.drop 0 (List.take (0+out.length*1) (rowC eL out))++[.v (.int .u32 (s:Int))]=rowC eL (out++[s]):=fun s=>by
   rw[List.drop_zero,rowC_all eL_len out (by omega)]
   exact rowC_snoc eL out s
  simp only[eL,cIk,ND,DK,unFn_fn]
  rw[add1 (by omega),hf,hb1,e3]
  refine(br_t _ _).trans ?_
  refine(br_t _ _).trans ?_
  refine(askK_of ih' _).trans ?_
  rfl
theorem rtrim_lp(l:List Nat)(hl:SmL l):∀(n:Nat),n<=l.length->topL l<=n->D.ask (.lp 149 1) [.sl 0 0 n 1] [ABlk.mk (rowC eL l) true true]=some (.tup [iv 2,.sl 1 0 (topL l) 1],[.del,.set (ABlk.mk (rowC eL l) true true)]):=by
 intro n
 unfold SmL at hl
 induction n with
 |zero=>
  intro _ ht
  refine K.lp' hn149 _ rfl (by kernel_rfl) ((e149_1 ..).trans ?_)
  refine(br_ltF (by omega)).trans ?_
  rw[show topL l=0 by omega]
 |succ n ih=>
  intro hn ht
  refine K.lp' hn149 _ rfl (by kernel_rfl) ((e149_1 ..).trans ?_)
  refine(br_ltT (by omega)).trans ?_
  rw[show realA.sub .i64 ((n+1:Nat):Int) 1=(n:Int) from (subN (i:=n+1) (j:=1) (by omega) (by omega)).trans (by simp)]
  rw[unI_n,blt_true (Nat.lt_succ_self n)]
  refine(br_t _ _).trans ?_
  refine(rdK_eL l n (by omega) _).trans ?_
  simp only[cIk,ND,DK,unFn_fn]
  by_cases h0:l[n]=0
  .refine(br_eqT (by rw[h0];rfl)).trans ?_
   rw[unI_n,show inB 0 n (n+1)=true by unfold inB;rw[show Nat.ble 0 n=true by simp];simp]
   refine(br_t _ _).trans ?_
   refine(askK_of (ih (by omega) (topL_down ht (by rw[List.getElem?_eq_getElem (show n<l.length by omega),h0]))) _).trans ?_
   rfl
  .refine(br_eqF (by omega)).trans ?_
   have:=topL_ge (List.getElem?_eq_getElem (show n<l.length by omega)) h0
   rw[show topL l=n+1 by omega]
theorem rTrim_ok{l:List Nat}(hl:SmL l)(h:Limbs l):D.ask (.fn 149) [eN l] []=some (eN (natL (valL l)),[]):=by
 have hs:=hl
 unfold SmL at hs
 refine K.fn' hn149 _ rfl ((e149 ..).trans ?_)
 have g:=rtrim_cp K l hl l.length 0 [] rfl (by simp;omega)
 rw[List.nil_append,List.drop_zero]at g
 refine(askK_of g _).trans ?_
 simp only[ND,DK,unFn_fn]
 refine(askK_of (rtrim_lp K l hl l.length (Nat.le_refl _) (topL_le l)) _).trans ?_
 simp only[ND,DK,unFn_fn]
 have ht:=topL_le l
 rw[show Nat.ble (0+topL l*1) (rowC eL l).length=true by rw[rowC_len eL_len];simp;omega]
 refine(br_t _ _).trans ?_
 rw[chunk_take l _ ht,take_top h]
 rfl
theorem longer_ok(a b:List Nat):D.ask (.fn 186) [eN a,eN b] []=some (iv ((max a.length b.length:Nat):Int),[]):=by
 refine K.fn' hn186 _ rfl ((e186 ..).trans ?_)
 rw[lenR_map,lenR_map]
 by_cases h:b.length<a.length
 .refine(br_ltT (by omega)).trans ?_
  rw[show max a.length b.length=a.length by omega]
 .refine(br_ltF (by omega)).trans ?_
  rw[show max a.length b.length=b.length by omega]
theorem rAt_ok{a:List Nat}(ha:Limbs a)(i:Nat):D.ask (.fn 187) [eN a,iv (i:Int)] []=some (.v (.int .u64 (a.getD i 0:Int)),[]):=by
 refine K.fn' hn187 _ rfl ((e187 ..).trans ?_)
 rw[lenR_map,List.getD_eq_getElem?_getD]
 refine(br_ltF (by omega)).trans ?_
 by_cases h:i<a.length
 .refine(br_leF (by omega)).trans ?_
  have hx:=ha.get h
  rw[unI_n,nthK_some (List.getElem?_eq_getElem h),List.getElem?_eq_getElem h]
  simp only[eL,cIk,ND,DK,unFn_fn]
  rw[r_conv64 (by omega)]
  rfl
 .refine(br_leT (by omega)).trans ?_
  rw[List.getElem?_eq_none (by omega)]
  rfl
theorem rCmp_lp{a b:List Nat}(ha:Limbs a)(hb:Limbs b)(m:Nat)(hma:a.length<=m)(hmb:b.length<=m)(hm:m<=1000000000):∀(n:Nat),n<=m->D.ask (.lp 228 0) [eN a,eN b,iv ((n:Int)-1)] []
  = some (if cmpN (valL ((padL m a).take n)) (valL ((padL m b).take n))=0 then .tup [iv 0] else .tup [bv true,iv (cmpN (valL ((padL m a).take n)) (valL ((padL m b).take n)))],[]):=by
 intro n
 induction n with
 |zero=>
  intro _
  refine K.lp' hn228 _ rfl (by kernel_rfl) ((e228_0 ..).trans ?_)
  refine(br_leF (by omega)).trans ?_
  rfl
 |succ n ih=>
  intro hn
  refine K.lp' hn228 _ rfl (by kernel_rfl) ((e228_0 ..).trans ?_)
  rw[show (((n+1:Nat):Int)-1)=(n:Int) by omega]
  refine(br_leT (by omega)).trans ?_
  have h1:n<(padL m a).length:=by rw[padL_len hma];omega
  have h2:n<(padL m b).length:=by rw[padL_len hmb];omega
  have e1:(padL m a).take (n+1)=(padL m a).take n++[a.getD n 0]:=by rw[List.take_succ_eq_append_getElem h1,padL_get hma (by omega)]
  have e2:(padL m b).take (n+1)=(padL m b).take n++[b.getD n 0]:=by rw[List.take_succ_eq_append_getElem h2,padL_get hmb (by omega)]
  rw[e1,e2,cmp_snoc ((padL_limbs ha).take n) ((padL_limbs hb).take n) (by simp;omega)]
  refine(askK_of (rAt_ok K ha n) _).trans ?_
  simp only[uIk,ND,DK,unFn_fn]
  refine(askK_of (rAt_ok K hb n) _).trans ?_
  simp only[uIk,ND,DK,unFn_fn]
  by_cases h3:a.getD n 0<b.getD n 0
  .refine(br_ltT (by omega)).trans ?_
   rw[if_pos h3]
   rfl
  .refine(br_ltF (by omega)).trans ?_
   rw[if_neg h3]
   refine(askK_of (rAt_ok K ha n) _).trans ?_
   simp only[uIk,ND,DK,unFn_fn]
   refine(askK_of (rAt_ok K hb n) _).trans ?_
   simp only[uIk,ND,DK,unFn_fn]
   by_cases h4:b.getD n 0<a.getD n 0
   .refine(br_ltT (by omega)).trans ?_
    rw[if_pos h4]
    rfl
   .refine(br_ltF (by omega)).trans ?_
    rw[if_neg h4]
    rw[show realA.sub .i64 (n:Int) 1=(n:Int)-1 from r_sub (by omega) (by omega)]
    refine(askK_of (ih (by omega)) _).trans ?_
    by_cases h5:cmpN (valL ((padL m a).take n)) (valL ((padL m b).take n))=0
    .rw[if_pos h5];rfl
    .rw[if_neg h5];rfl
theorem rCmp_ok{a b:List Nat}(hsa:SmL a)(ha:Limbs a)(hsb:SmL b)(hb:Limbs b):D.ask (.fn 228) [eN a,eN b] []=some (iv (cmpN (valL a) (valL b)),[]):=by
 unfold SmL at hsa hsb
 refine K.fn' hn228 _ rfl ((e228 ..).trans ?_)
 refine(askK_of (longer_ok K a b) _).trans ?_
 simp only[ND,DK,unFn_fn]
 rw[show realA.sub .i64 ((max a.length b.length:Nat):Int) 1=((max a.length b.length:Nat):Int)-1 from r_sub (by omega) (by omega)]
 have g:=rCmp_lp K ha hb (max a.length b.length) (by omega) (by omega) (by omega) (max a.length b.length) (Nat.le_refl _)
 rw[List.take_of_length_le (by rw[padL_len (by omega)];omega),List.take_of_length_le (by rw[padL_len (by omega)];omega),valL_pad,valL_pad]at g
 refine(askK_of g _).trans ?_
 by_cases h5:cmpN (valL a) (valL b)=0
 .rw[if_pos h5,h5];rfl
 .rw[if_neg h5];rfl
theorem rAdd_lp{a b:List Nat}(ha:Limbs a)(hb:Limbs b)(hm:max a.length b.length<=1000000000):∀(k i:Nat) (out:List Nat) (c:Nat),max a.length b.length+1-i=k->c<=1->out.length+k<=2000000000->
  D.ask (.lp 129 0) [eN a,eN b,.sl 0 0 out.length 1,.v (.int .u64 (c:Int)),iv (i:Int)] [ABlk.mk (rowC eL out) true true]
   = some (.tup [iv 0,.sl 1 0 (out++addR k c (a.drop i) (b.drop i)).length 1],[.del,.set (ABlk.mk (rowC eL (out++addR k c (a.drop i) (b.drop i))) true true)]):=by
 intro k
 induction k with
 |zero=>
  intro i out c hi hc ho
  refine K.lp' hn129 _ rfl (by kernel_rfl) ((e129_0 ..).trans ?_)
  refine(askK_of (longer_ok K a b) _).trans ?_
  simp only[ND,DK,unFn_fn]
  refine(br_leF (by omega)).trans ?_
  rw[addR,List.append_nil]
 |succ k ih=>
  intro i out c hi hc ho
  have h1:=getD_lt ha i
  have h2:=getD_lt hb i
  have ih':=ih (i+1) (out++[(a.getD i 0+b.getD i 0+c) % 4294967296]) ((a.getD i 0+b.getD i 0+c) / 4294967296) (by omega) (by omega) (by simp;omega)
  rw[List.append_assoc,List.length_append,List.length_singleton]at ih'
  refine K.lp' hn129 _ rfl (by kernel_rfl) ((e129_0 ..).trans ?_)
  refine(askK_of (longer_ok K a b) _).trans ?_
  simp only[ND,DK,unFn_fn]
  refine(br_leT (by omega)).trans ?_
  refine(askK_of (rAt_ok K ha i) _).trans ?_
  simp only[uIk,ND,DK,unFn_fn]
  refine(askK_of (rAt_ok K hb i) _).trans ?_
  simp only[uIk,ND,DK,unFn_fn]
  refine(br_eqF (by decide)).trans ?_
  have hf:fitsB (out.length+1) 4=true:=fits_small (by omega) (by omega)
  have hb1:Nat.ble (0+out.length*1) (rowC eL out).length=true:=ble_row eL_len out (by omega)
  have e3:∀ s:Nat,List.drop 0 (List.take (0+out.length*1) (rowC eL out))++[.v (.int .u32 (s:Int))]=rowC eL (out++[s]):=fun s=>by
   rw[List.drop_zero,rowC_all eL_len out (by omega)]
   exact rowC_snoc eL out s
  rw[r_add64 (by omega),r_add64 (by omega),r_rem64,r_quo64 _ (by omega),r_conv32s (Nat.mod_lt _ (by omega)),add1 (by omega),hf,hb1,e3]
  refine(br_t _ _).trans ?_
  refine(br_t _ _).trans ?_
  refine(br_eqF (by decide)).trans ?_
  refine(askK_of ih' _).trans ?_
  rw[addR,getD_drop,getD_drop,List.tail_drop,List.tail_drop]
  rfl
theorem rAdd_ok{a b:List Nat}(hsa:a.length<=999999999)(ha:Limbs a)(hsb:b.length<=999999999)(hb:Limbs b):D.ask (.fn 129) [eN a,eN b] []=some (eN (natL (valL a+valL b)),[]):=by
 refine K.fn' hn129 _ rfl ((e129 ..).trans ?_)
 have g:=rAdd_lp K ha hb (by omega) (max a.length b.length+1) 0 [] 0 rfl (by omega) (by simp;omega)
 rw[List.nil_append,List.drop_zero,List.drop_zero]at g
 refine(askK_of g _).trans ?_
 simp only[ND,DK,unFn_fn]
 rw[ble_row eL_len _ (by omega)]
 refine(br_t _ _).trans ?_
 rw[chunk_of eL_len _ rfl]
 have hlen:∀(k c:Nat) (a b:List Nat),(addR k c a b).length=k:=fun k=>by
  induction k with
  |zero=>intro c a b;rfl
  |succ k ih=>intro c a b;rw[addR,List.length_cons,ih]
 have gt:=rTrim_ok K (l:=addR (max a.length b.length+1) 0 a b) (by unfold SmL;rw[hlen];omega) (addR_limbs _ _ _ _)
 rw[valL_addR]at gt
 have h1:=valL_lt ha
 have h2:=valL_lt hb
 have p1:4294967296 ^ a.length<=4294967296 ^ (max a.length b.length):=Nat.pow_le_pow_right (by omega) (by omega)
 have p2:4294967296 ^ b.length<=4294967296 ^ (max a.length b.length):=Nat.pow_le_pow_right (by omega) (by omega)
 rw[Nat.mod_eq_of_lt (by rw[Nat.pow_succ];omega),Nat.zero_add]at gt
 refine(askK_of gt _).trans ?_
 rfl
theorem rSub_lp{a b:List Nat}(ha:Limbs a)(hb:Limbs b)(m:Nat)(hma:max a.length b.length=m)(hm:m<=1000000000):∀(k i:Nat) (out:List Nat) (c:Nat),m-i=k->c<=1->out.length+k<=2000000000->
  D.ask (.lp 182 0) [eN a,eN b,.sl 0 0 out.length 1,.v (.int .u64 (c:Int)),iv (i:Int)] [ABlk.mk (rowC eL out) true true]
   = some (.tup [iv 0,.sl 1 0 (out++subL c ((padL m a).drop i) ((padL m b).drop i)).length 1],[.del,.set (ABlk.mk (rowC eL (out++subL c ((padL m a).drop i) ((padL m b).drop i))) true true)]):=by
 intro k
 have la:=padL_len (n:=m) (l:=a) (by omega)
 have lb:=padL_len (n:=m) (l:=b) (by omega)
 induction k with
 |zero=>
  intro i out c hi hc ho
  refine K.lp' hn182 _ rfl (by kernel_rfl) ((e182_0 ..).trans ?_)
  refine(askK_of (longer_ok K a b) _).trans ?_
  simp only[ND,DK,unFn_fn]
  refine(br_ltF (by omega)).trans ?_
  rw[show (padL m a).drop i=[] from List.drop_eq_nil_of_le (by omega),subL,List.append_nil]
 |succ k ih=>
  intro i out c hi hc ho
  have h1:=getD_lt ha i
  have h2:=getD_lt hb i
  have ia:i<(padL m a).length:=by omega
  have ib:i<(padL m b).length:=by omega
  rw[List.drop_eq_getElem_cons ia,padL_get (by omega) (by omega),List.drop_eq_getElem_cons ib,padL_get (by omega) (by omega),subL,List.headD_cons,List.tail_cons]
  refine K.lp' hn182 _ rfl (by kernel_rfl) ((e182_0 ..).trans ?_)
  refine(askK_of (longer_ok K a b) _).trans ?_
  simp only[ND,DK,unFn_fn]
  refine(br_ltT (by omega)).trans ?_
  refine(askK_of (rAt_ok K ha i) _).trans ?_
  simp only[uIk,ND,DK,unFn_fn]
  refine(askK_of (rAt_ok K hb i) _).trans ?_
  simp only[uIk,ND,DK,unFn_fn]
  refine(br_eqF (by decide)).trans ?_
  have hf:fitsB (out.length+1) 4=true:=fits_small (by omega) (by omega)
  have hb1:Nat.ble (0+out.length*1) (rowC eL out).length=true:=ble_row eL_len out (by omega)
  have e3:∀ s:Nat,List.drop 0 (List.take (0+out.length*1) (rowC eL out))++[.v (.int .u32 (s:Int))]=rowC eL (out++[s]):=fun s=>by
   rw[List.drop_zero,rowC_all eL_len out (by omega)]
   exact rowC_snoc eL out s
  rw[show (4294967296:Int)=((4294967296:Nat):Int) from rfl,r_add64 (by omega),r_sub64 (by omega) (by omega),r_sub64 (by omega) (by omega)]
  rw[show ((4294967296:Nat):Int)=(4294967296:Int) from rfl,r_rem64,r_quo64 _ (by omega),r_conv32s (Nat.mod_lt _ (by omega)),add1 (by omega),show (1:Int)=((1:Nat):Int) from rfl,r_sub64 (by omega) (by omega),hf,hb1,e3]
  refine(br_t _ _).trans ?_
  refine(br_t _ _).trans ?_
  refine(br_eqF (by decide)).trans ?_
  by_cases hlt:a.getD i 0<b.getD i 0+c
  .rw[if_pos hlt,if_pos hlt]
   have ih':=ih (i+1) (out++[a.getD i 0+4294967296-(b.getD i 0+c)]) 1 (by omega) (by omega) (by simp;omega)
   rw[List.append_assoc,List.length_append,List.length_singleton]at ih'
   rw[show (a.getD i 0+4294967296-b.getD i 0-c) % 4294967296=a.getD i 0+4294967296-(b.getD i 0+c) by omega,show 1-(a.getD i 0+4294967296-b.getD i 0-c) / 4294967296=1 by omega]
   refine(askK_of ih' _).trans ?_
   rfl
  .rw[if_neg hlt,if_neg hlt]
   have ih':=ih (i+1) (out++[a.getD i 0-(b.getD i 0+c)]) 0 (by omega) (by omega) (by simp;omega)
   rw[List.append_assoc,List.length_append,List.length_singleton]at ih'
   rw[show (a.getD i 0+4294967296-b.getD i 0-c) % 4294967296=a.getD i 0-(b.getD i 0+c) by omega,show 1-(a.getD i 0+4294967296-b.getD i 0-c) / 4294967296=0 by omega]
   refine(askK_of ih' _).trans ?_
   rfl
theorem rSub_ok{a b:List Nat}(hsa:SmL a)(ha:Limbs a)(hsb:SmL b)(hb:Limbs b):D.ask (.fn 182) [eN a,eN b] []=some (eSubN (valL a) (valL b),[]):=by
 have s1:=hsa
 have s2:=hsb
 unfold SmL at s1 s2
 refine K.fn' hn182 _ rfl ((e182 ..).trans ?_)
 refine(askK_of (rCmp_ok K hsa ha hsb hb) _).trans ?_
 simp only[ND,DK,unFn_fn]
 unfold eSubN
 by_cases h1:valL a<valL b
 .rw[show cmpN (valL a) (valL b)=-1 by unfold cmpN;rw[if_pos h1]]
  refine(br_ltT (by decide)).trans ?_
  rw[if_neg (by omega)]
  rfl
 .refine(br_ltF (by unfold cmpN;rw[if_neg h1];split<;>omega)).trans ?_
  rw[if_pos (by omega)]
  have la:=padL_len (n:=max a.length b.length) (l:=a) (by omega)
  have lb:=padL_len (n:=max a.length b.length) (l:=b) (by omega)
  have g:=rSub_lp K ha hb (max a.length b.length) rfl (by omega) (max a.length b.length) 0 [] 0 (by omega) (by omega) (by simp;omega)
  rw[List.nil_append,List.drop_zero,List.drop_zero]at g
  refine(askK_of g _).trans ?_
  simp only[ND,DK,unFn_fn]
  rw[ble_row eL_len _ (by omega)]
  refine(br_t _ _).trans ?_
  rw[chunk_of eL_len _ rfl]
  have gt:=rTrim_ok K (l:=subL 0 (padL (max a.length b.length) a) (padL (max a.length b.length) b)) (by unfold SmL;rw[subL_len];omega) (subL_limbs _ _ _ (padL_limbs ha) (padL_limbs hb) (by omega))
  rw[valL_sub (padL_limbs ha) (padL_limbs hb) (by omega) (by rw[valL_pad,valL_pad];omega),valL_pad,valL_pad]at gt
  refine(askK_of gt _).trans ?_
  rfl
theorem rsmall_lp{a:List Nat}(ha:Limbs a)(hs:SmL a)(m:Nat)(hm:m<4294967296):∀(k i:Nat) (out:List Nat) (c:Nat),a.length-i=k->i<=a.length->c<4294967296->out.length+k<=2000000000->
  ∃(o:List Nat) (c':Nat),D.ask (.lp 229 0) [eN a,.v (.int .u64 (m:Int)),.sl 0 0 out.length 1,.v (.int .u64 (c:Int)),iv (i:Int)] [ABlk.mk (rowC eL out) true true]
   = some (.tup [iv 0,.sl 1 0 o.length 1,.v (.int .u64 (c':Int))],[.del,.set (ABlk.mk (rowC eL o) true true)])/\c'<4294967296/\o++[c']=out++smallL m c (a.drop i):=by
 intro k
 unfold SmL at hs
 induction k with
 |zero=>
  intro i out c hi hle hc ho
  refine⟨out,c,?_,hc,?_⟩
  .refine K.lp' hn229 _ rfl (by kernel_rfl) ((e229_0 ..).trans ?_)
   rw[lenR_map]
   refine(br_ltF (by omega)).trans ?_
   rfl
  .rw[show a.drop i=[] from List.drop_eq_nil_of_le (by omega)]
   rfl
 |succ k ih=>
  intro i out c hi hle hc ho
  have hlt:i<a.length:=by omega
  have hx:=ha.get hlt
  have hp:=mul_lt hx hm
  have hg:a.getD i 0=a[i]:=by rw[List.getD_eq_getElem?_getD,List.getElem?_eq_getElem hlt];rfl
  obtain⟨o,c',h1,h2,h3⟩:=ih (i+1) (out++[(a[i]*m+c) % 4294967296]) ((a[i]*m+c) / 4294967296) (by omega) (by omega) (by omega) (by simp;omega)
  refine⟨o,c',?_,h2,?_⟩
  .refine K.lp' hn229 _ rfl (by kernel_rfl) ((e229_0 ..).trans ?_)
   rw[lenR_map]
   refine(br_ltT (by omega)).trans ?_
   refine(askK_of (rAt_ok K ha i) _).trans ?_
   simp only[uIk,ND,DK,unFn_fn,hg]
   refine(br_eqF (by decide)).trans ?_
   have hf:fitsB (out.length+1) 4=true:=fits_small (by omega) (by omega)
   have hb1:Nat.ble (0+out.length*1) (rowC eL out).length=true:=ble_row eL_len out (by omega)
   have e3:∀ s:Nat,List.drop 0 (List.take (0+out.length*1) (rowC eL out))++[.v (.int .u32 (s:Int))]=rowC eL (out++[s]):=fun s=>by
    rw[List.drop_zero,rowC_all eL_len out (by omega)]
    exact rowC_snoc eL out s
   rw[List.length_append,List.length_singleton]at h1
   rw[r_mul64 (by omega),r_add64 (by omega),r_rem64,r_quo64 _ (by omega),r_conv32s (Nat.mod_lt _ (by omega)),add1 (by omega),hf,hb1,e3]
   refine(br_t _ _).trans ?_
   refine(br_t _ _).trans ?_
   refine(br_eqF (by decide)).trans ?_
   refine(askK_of h1 _).trans ?_
   rfl
  .rw[h3,List.drop_eq_getElem_cons hlt,smallL,List.append_assoc]
   rfl
omit K in
theorem smallL_len:∀(m c:Nat) (a:List Nat),(smallL m c a).length=a.length+1
 |_,_,[]=>rfl
 |m,c,x::a=>by rw[smallL,List.length_cons,smallL_len,List.length_cons]
theorem rsmall_ok{a:List Nat}(ha:Limbs a)(hs:a.length<=999999999)(m:Nat)(hm:m<4294967296):D.ask (.fn 229) [eN a,.v (.int .u64 (m:Int))] []=some (eN (natL (valL a*m)),[]):=by
 obtain⟨o,c',g,hc,ho⟩:=rsmall_lp K ha (by unfold SmL;omega) m hm a.length 0 [] 0 (by omega) (by omega) (by omega) (by simp;omega)
 rw[List.nil_append,List.drop_zero]at ho
 have hol:o.length=a.length:=by
  have:=congrArg List.length ho
  rw[List.length_append,smallL_len]at this
  simpa using this
 refine K.fn' hn229 _ rfl ((e229 ..).trans ?_)
 refine(askK_of g _).trans ?_
 simp only[cIk,ND,DK,unFn_fn]
 rw[r_conv32s hc]
 have e3:List.drop 0 (List.take (0+o.length*1) (rowC eL o))++[.v (.int .u32 (c':Int))]=rowC eL (o++[c']):=by
  rw[List.drop_zero,rowC_all eL_len o (by omega)]
  exact rowC_snoc eL o c'
 rw[fits_small (n:=o.length+1) (b:=4) (by omega) (by omega),ble_row eL_len o (by omega),e3,ble_row eL_len (o++[c']) (by simp)]
 refine(br_t _ _).trans ?_
 refine(br_t _ _).trans ?_
 refine(br_t _ _).trans ?_
 rw[List.drop_zero,rowC_all eL_len (o++[c']) (by simp),show chunk (o.length+1) 1 (rowC eL (o++[c']))=(o++[c']).map eL from by have:=chunk_row eL_len (o++[c']);rwa [List.length_append]at this]
 rw[ho]
 have gt:=rTrim_ok K (l:=smallL m 0 a) (by unfold SmL;rw[smallL_len];omega) (smallL_limbs _ _ _ hm ha (by omega))
 rw[valL_smallL,Nat.add_zero]at gt
 refine(askK_of gt _).trans ?_
 rfl
end
end Go.Proofs.YtpncilciembjdaaGreatDoor
namespace Go.Proofs.YtpncilciembjdaaGreatDoor
open Go.RowKit

theorem natL_mul_len{a b:List Nat}(ha:Limbs a)(hb:Limbs b):(natL (valL a*valL b)).length<=a.length+b.length:=by
 refine natL_len_le ?_
 rw[Nat.pow_add]
 exact Nat.mul_lt_mul'' (valL_lt ha) (valL_lt hb)
theorem mul_step(va x vd:Nat):0+4294967296*(va*vd)+va*x=va*(x+4294967296*vd):=by
 rw[Nat.mul_add,Nat.mul_left_comm va]
 omega
theorem small_lt{d:Nat}(h:d<4294967296):Limbs [d]:=limbs_cons h limbs_nil
section
variable {D:Orc} (K:Knows ownC tabRn D)
include K
theorem rmul_in(A B:AV)(t:Int){xs ys:List (List AV)}(hA:A=.ls xs)(hB:B=.ls ys){out:List Nat}(hs:out.length<=999999999):∀(k i:Nat) (up:List Nat),out.length-i=k->i<=out.length->up=0::out.take i->
  D.ask (.lp 183 1) [A,B,eN out,iv t,.sl 0 0 (i+1) 1,iv (i:Int)] [ABlk.mk (rowC eL up) true true]=some (.tup [iv 2,A,B,iv t,.sl 1 0 (out.length+1) 1],[.del,.set (ABlk.mk (rowC eL (0::out)) true true)]):=by
 subst hA hB
 intro k
 induction k with
 |zero=>
  intro i up hk hi hu
  obtain rfl:i=out.length:=by omega
  rw[List.take_length]at hu
  subst hu
  refine K.lp' hn183 _ rfl (by kernel_rfl) ((e183_1 ..).trans ?_)
  rw[lenR_map]
  exact(br_ltF (by omega)).trans rfl
 |succ k ih=>
  intro i up hk hi hu
  have hlt:i<out.length:=by omega
  have hl:up.length=i+1:=by rw[hu,List.length_cons,List.length_take,Nat.min_eq_left hi]
  have ih':=ih (i+1) (up++[out[i]]) (by omega) (by omega) (by rw[hu,List.take_succ_eq_append_getElem hlt];rfl)
  have e3:List.drop 0 (List.take (0+(i+1)*1) (rowC eL up))++[.v (.int .u32 (out[i]:Int))]=rowC eL (up++[out[i]]):=by
   rw[List.drop_zero,rowC_all eL_len up (by omega)]
   exact rowC_snoc eL up out[i]
  refine K.lp' hn183 _ rfl (by kernel_rfl) ((e183_1 ..).trans ?_)
  rw[lenR_map]
  refine(br_ltT (by omega)).trans ?_
  rw[unI_n,nthK_some (List.getElem?_eq_getElem hlt)]
  simp only[eL,cIk,ND,DK,unFn_fn]
  rw[add1 (by omega),fits_small (n:=i+1+1) (b:=4) (by omega) (by omega),ble_row eL_len up (by omega),e3]
  refine(br_t _ _).trans ?_
  refine(br_t _ _).trans ?_
  refine(askK_of ih' _).trans ?_
  rfl
theorem rmul_lp{a b:List Nat}(ha:Limbs a)(hb:Limbs b)(hs:a.length+b.length<=900000000):∀ i:Nat,i<=b.length->D.ask (.lp 183 0) [eN a,eN b,eN (natL (valL a*valL (b.drop i))),iv ((i:Int)-1)] []=some (.tup [iv 0,eN (natL (valL a*valL b))],[]):=by
 intro i
 induction i with
 |zero=>
  intro _
  refine K.lp' hn183 _ rfl (by kernel_rfl) ((e183_0 ..).trans ?_)
  refine(br_leF (by omega)).trans ?_
  rw[List.drop_zero]
  rfl
 |succ i ih=>
  intro hi
  have hlt:i<b.length:=by omega
  have hx:=hb.get hlt
  have ln:∀ j:Nat,(natL (valL a*valL (b.drop j))).length<=a.length+b.length:=fun j=>by
   have:=natL_mul_len ha (hb.drop j)
   rw[List.length_drop]at this
   omega
  have l1:=ln (i+1)
  rw[show (((i+1:Nat):Int)-1)=(i:Int) by omega]
  refine K.lp' hn183 _ rfl (by kernel_rfl) ((e183_0 ..).trans ?_)
  refine(br_leT (by omega)).trans ?_
  have g:=rmul_in K (eN a) (eN b) (i:Int) rfl rfl (out:=natL (valL a*valL (b.drop (i+1)))) (by omega) _ 0 [0] rfl (by omega) rfl
  refine(askK_of g _).trans ?_
  simp only[eN,cIk,ND,DK,unFn_fn]
  rw[unI_n,nthK_some (List.getElem?_eq_getElem hlt)]
  simp only[eL,cIk,ND,DK,unFn_fn]
  rw[r_conv64 (show b[i]<_ by omega)]
  refine(br_t _ _).trans ?_
  refine(askK_of (rsmall_ok K ha (by omega) b[i] hx) _).trans ?_
  simp only[eN,cIk,ND,DK,unFn_fn]
  rw[ble_row eL_len (0::natL (valL a*valL (b.drop (i+1)))) (by simp)]
  refine(br_t _ _).trans ?_
  rw[rowC_all eL_len (0::natL (valL a*valL (b.drop (i+1)))) (by simp),show chunk ((natL (valL a*valL (b.drop (i+1)))).length+1) 1 (rowC eL (0::natL (valL a*valL (b.drop (i+1)))))=(0::natL (valL a*valL (b.drop (i+1)))).map eL from chunk_row eL_len (0::natL (valL a*valL (b.drop (i+1))))]
  have l3:(natL (valL a*b[i])).length<=a.length+1:=by
   have:=natL_mul_len ha (small_lt hx)
   rwa [show valL [b[i]]=b[i] by simp[valL]]at this
  have g2:=rAdd_ok K (a:=0::natL (valL a*valL (b.drop (i+1)))) (b:=natL (valL a*b[i])) (by rw[List.length_cons];omega) (limbs_cons (by omega) (natL_limbs _)) (by omega) (natL_limbs _)
  rw[valL,valL_natL,valL_natL,mul_step,show b[i]+4294967296*valL (b.drop (i+1))=valL (b.drop i) by rw[List.drop_eq_getElem_cons hlt,valL]]at g2
  refine(askK_of g2 _).trans ?_
  simp only[eN,cIk,ND,DK,unFn_fn]
  rw[r_sub (by omega) (by omega)]
  refine(askK_of (ih (by omega)) _).trans ?_
  rfl
theorem rMul_ok{a b:List Nat}(ha:Limbs a)(hb:Limbs b)(hs:a.length+b.length<=900000000):D.ask (.fn 183) [eN a,eN b] []=some (eN (natL (valL a*valL b)),[]):=by
 have g:=rmul_lp K ha hb hs b.length (Nat.le_refl _)
 rw[List.drop_length,valL,Nat.mul_zero,natL_0]at g
 refine K.fn' hn183 _ rfl ((e183 ..).trans ?_)
 rw[lenR_map,r_sub (by omega) (by omega)]
 refine(askK_of g _).trans ?_
 simp only[eN,ND,DK,unFn_fn]
 have l1:=natL_mul_len ha hb
 have g2:=rTrim_ok K (l:=natL (valL a*valL b)) (by unfold SmL;omega) (natL_limbs _)
 rw[valL_natL]at g2
 refine(askK_of g2 _).trans ?_
 rfl
theorem rsame_lp{a b:List Nat}(hl:a.length=b.length)(hs:SmL a):∀(k i:Nat),a.length-i=k->i<=a.length->D.ask (.lp 210 0) [eN a,eN b,iv (i:Int)] []=if a.drop i=b.drop i then some (.tup [iv 0],[]) else some (.tup [bv true,bv false],[]):=by
 intro k
 unfold SmL at hs
 induction k with
 |zero=>
  intro i hk hi
  rw[List.drop_eq_nil_of_le (show a.length<=i by omega),List.drop_eq_nil_of_le (show b.length<=i by omega),if_pos rfl]
  refine K.lp' hn210 _ rfl (by kernel_rfl) ((e210_0 ..).trans ?_)
  rw[lenR_map]
  exact(br_ltF (by omega)).trans rfl
 |succ k ih=>
  intro i hk hi
  have h1:i<a.length:=by omega
  have h2:i<b.length:=by omega
  have ih':=ih (i+1) (by omega) (by omega)
  rw[List.drop_eq_getElem_cons h1,List.drop_eq_getElem_cons h2]
  by_cases h:a[i]=b[i]
  .by_cases h3:a.drop (i+1)=b.drop (i+1)
   .rw[if_pos h3]at ih'
    rw[if_pos (by rw[h,h3])]
    refine K.lp' hn210 _ rfl (by kernel_rfl) ((e210_0 ..).trans ?_)
    rw[lenR_map]
    refine(br_ltT (by omega)).trans ?_
    rw[unI_n,nthK_some (List.getElem?_eq_getElem h1)]
    simp only[eL,cIk,ND,DK,unFn_fn]
    rw[unI_n,nthK_some (List.getElem?_eq_getElem h2)]
    simp only[eL,cIk,ND,DK,unFn_fn]
    rw[add1 (by omega)]
    refine(br_eqT (by omega)).trans ?_
    refine(askK_of ih' _).trans ?_
    rfl
   .rw[if_neg h3]at ih'
    rw[if_neg (fun e=>h3 (List.cons.inj e).2)]
    refine K.lp' hn210 _ rfl (by kernel_rfl) ((e210_0 ..).trans ?_)
    rw[lenR_map]
    refine(br_ltT (by omega)).trans ?_
    rw[unI_n,nthK_some (List.getElem?_eq_getElem h1)]
    simp only[eL,cIk,ND,DK,unFn_fn]
    rw[unI_n,nthK_some (List.getElem?_eq_getElem h2)]
    simp only[eL,cIk,ND,DK,unFn_fn]
    rw[add1 (by omega)]
    refine(br_eqT (by omega)).trans ?_
    refine(askK_of ih' _).trans ?_
    rfl
  .rw[if_neg (fun e=>h (List.cons.inj e).1)]
   refine K.lp' hn210 _ rfl (by kernel_rfl) ((e210_0 ..).trans ?_)
   rw[lenR_map]
   refine(br_ltT (by omega)).trans ?_
   rw[unI_n,nthK_some (List.getElem?_eq_getElem h1)]
   simp only[eL,cIk,ND,DK,unFn_fn]
   rw[unI_n,nthK_some (List.getElem?_eq_getElem h2)]
   simp only[eL,cIk,ND,DK,unFn_fn]
   rw[add1 (by omega)]
   exact(br_eqF (by omega)).trans rfl
theorem rSame_ok{a b:List Nat}(hs:SmL a):D.ask (.fn 210) [eN a,eN b] []=some (bv (decide (a=b)),[]):=by
 refine K.fn' hn210 _ rfl ((e210 ..).trans ?_)
 rw[lenR_map,lenR_map]
 by_cases hl:a.length=b.length
 .refine(br_eqT (by omega)).trans ?_
  have g:=rsame_lp K hl hs a.length 0 (by omega) (by omega)
  rw[List.drop_zero,List.drop_zero]at g
  by_cases h:a=b
  .rw[if_pos h]at g
   rw[decide_eq_true h]
   refine(askK_of g _).trans ?_
   rfl
  .rw[if_neg h]at g
   rw[decide_eq_false h]
   refine(askK_of g _).trans ?_
   rfl
 .refine(br_eqF (by omega)).trans ?_
  rw[decide_eq_false (fun e=>hl (by rw[e]))]
end
end Go.Proofs.YtpncilciembjdaaGreatDoor
namespace Go.Proofs.YtpncilciembjdaaGreatDoor
open Go.RowKit

theorem zv_negE{z:Zi}(h:zv z<0):zv z=-(valL z.abs:Int):=by
 unfold zv sgI at *
 cases e:z.neg<;>rw[e]at h<;>simp at h ⊢
 omega
theorem zv_posE{z:Zi}(h:¬ zv z<0):zv z=(valL z.abs:Int):=by
 unfold zv sgI at *
 cases e:z.neg<;>rw[e]at h<;>simp at h ⊢
 omega
theorem sgn_lt{n:Int}:sgnZ n<0 ↔ n<0:=by
 unfold sgnZ
 split
 .omega
 .split<;>omega
theorem inb_add{k:Nat}{x y:Int}(hx:InB k x)(hy:InB k y):InB (k+1) (x+y):=by
 unfold InB at *
 rw[Nat.pow_succ]
 have:=Int.natAbs_add_le x y
 omega
theorem natAdd_sm{k:Nat}(hk:k<=900000000){a b:Zi}(ha:Lz k a)(hb:Lz k b):SmL (natL (valL a.abs+valL b.abs)):=by
 unfold SmL
 have h1:=ha.inb
 have h2:=hb.inb
 have f:∀ z:Zi,(zv z).natAbs=valL z.abs:=fun z=>by
  unfold zv sgI
  split
  .rw[Int.natAbs_neg];rfl
  .rfl
 unfold InB at h1 h2
 rw[f]at h1 h2
 have:=natL_len_le (n:=valL a.abs+valL b.abs) (k:=k+1) (by rw[Nat.pow_succ];omega)
 omega
theorem sgn_cases(n:Int):sgnZ n=-1/\n<0\/sgnZ n=1/\0<n\/sgnZ n=0/\n=0:=by
 unfold sgnZ
 split
 .omega
 .split<;>omega
theorem sgn_mul_wrap(x y:Int):realA.mul .i64 (sgnZ x) (sgnZ y)=sgnZ x*sgnZ y:=by
 show IntKind.i64.wrap (sgnZ x*sgnZ y)=_
 rw[IntKind.wrap_i64]
 rcases sgn_cases x with h|h|h<;>rcases sgn_cases y with h2|h2|h2<;>rw[h.1,h2.1]<;>rfl
theorem mul_neg_of{a b:Zi}(h:sgnZ (zv a)*sgnZ (zv b)<0):sgI true (valL a.abs*valL b.abs)=zv a*zv b:=by
 unfold sgI
 rw[if_pos rfl,Int.natCast_mul]
 by_cases ha:zv a<0
 .rw[zv_negE ha]
  by_cases hb:zv b<0
  .exfalso
   rcases sgn_cases (zv a) with h1|h1|h1<;>rcases sgn_cases (zv b) with h2|h2|h2<;>rw[h1.1,h2.1]at h<;>omega
  .rw[zv_posE hb,Int.neg_mul]
 .rw[zv_posE ha]
  by_cases hb:zv b<0
  .rw[zv_negE hb,Int.mul_neg]
  .exfalso
   rcases sgn_cases (zv a) with h1|h1|h1<;>rcases sgn_cases (zv b) with h2|h2|h2<;>rw[h1.1,h2.1]at h<;>omega
theorem mul_pos_of{a b:Zi}(h:¬ sgnZ (zv a)*sgnZ (zv b)<0):sgI false (valL a.abs*valL b.abs)=zv a*zv b:=by
 unfold sgI
 rw[if_neg (by simp),Int.natCast_mul]
 rcases sgn_cases (zv a) with h1|h1|h1
 .rcases sgn_cases (zv b) with h2|h2|h2
  .rw[zv_negE h1.2,zv_negE h2.2,Int.neg_mul_neg]
  .exfalso
   rw[h1.1,h2.1]at h
   omega
  .have:=zv_posE (z:=b) (by omega)
   rw[h2.2,Int.mul_zero,←this,h2.2,Int.mul_zero]
 .rcases sgn_cases (zv b) with h2|h2|h2
  .exfalso
   rw[h1.1,h2.1]at h
   omega
  .rw[←zv_posE (z:=a) (by omega),←zv_posE (z:=b) (by omega)]
  .have:=zv_posE (z:=b) (by omega)
   rw[h2.2,Int.mul_zero,←this,h2.2,Int.mul_zero]
 .have:=zv_posE (z:=a) (by omega)
  rw[h1.2,Int.zero_mul,←this,h1.2,Int.zero_mul]
section
variable {D:Orc} (K:Knows ownC tabRn D) (R:Knows ownC tabRz D)
include K R
theorem rFrom_ok(neg:Bool){a:List Nat}(ha:Limbs a)(hs:SmL a):D.ask (.fn 128) [bv neg,eN a] []=some (.agg (eZ (ziOf (sgI neg (valL a)))),[]):=by
 refine R.fn' hn128 _ rfl ((e128 ..).trans ?_)
 refine(askK_of (rTrim_ok K hs ha) _).trans ?_
 simp only[eN,ND,DK,unFn_fn,lenR_map]
 rw[ziOf_sg]
 unfold eZ eN
 have hp:=@natL_pos_iff (valL a)
 by_cases h:0<valL a
 .refine(br_eqF (by have:=hp.2 h;omega)).trans ?_
  rw[decide_eq_true h,Bool.and_true]
 .have h0:valL a=0:=by omega
  rw[decide_eq_false h,Bool.and_false,h0,natL_0]
  exact(br_eqT rfl).trans rfl
theorem rClean_ok{z:Zi}(hz:Lz 1000000000 z):D.ask (.fn 75) [.agg (eZ z)] []=some (.agg (eZ (ziOf (zv z))),[]):=by
 refine R.fn' hn75 _ rfl ((e75 ..).trans ?_)
 refine(askK_of (rFrom_ok K R z.neg hz.lim hz.len) _).trans ?_
 rfl
theorem rSign_ok{z:Zi}(hz:Lz 1000000000 z):D.ask (.fn 69) [.agg (eZ z)] []=some (iv (sgnZ (zv z)),[]):=by
 refine R.fn' hn69 _ rfl ((e69 ..).trans ?_)
 refine(askK_of (rTrim_ok K hz.len hz.lim) _).trans ?_
 simp only[eN,ND,DK,unFn_fn,lenR_map]
 have hp:=@natL_pos_iff (valL z.abs)
 unfold zv sgI
 by_cases h:0<valL z.abs
 .refine(br_eqF (by have:=hp.2 h;omega)).trans ?_
  cases z.neg with
  |false=>
   refine(br_f _ _).trans ?_
   rw[if_neg (by simp)]
   unfold sgnZ
   rw[if_neg (by omega)]
   first|rw[if_pos (by omega)] | rw[if_neg (by omega)]
  |true=>
   refine(br_t _ _).trans ?_
   rw[if_pos rfl]
   unfold sgnZ
   first|rw[if_pos (by omega)] | rw[if_neg (by omega),if_neg (by omega)]
 .have h0:valL z.abs=0:=by omega
  rw[h0,natL_0]
  refine(br_eqT rfl).trans ?_
  cases z.neg<;>rfl
theorem rNeg_ok{z:Zi}(hz:Lz 1000000000 z):D.ask (.fn 179) [.agg (eZ z)] []=some (.agg (eZ (ziOf (-zv z))),[]):=by
 have e:-zv z=sgI (!z.neg) (valL z.abs):=by
  unfold zv sgI
  cases z.neg<;>simp
 rw[e]
 refine R.fn' hn179 _ rfl ((e179 ..).trans ?_)
 rw[r_not]
 have g:=fun b=>rFrom_ok K R b hz.lim hz.len
 cases z.neg with
 |false=>
  refine(br_t _ _).trans ?_
  refine(askK_of (g true) _).trans ?_
  rfl
 |true=>
  refine(br_f _ _).trans ?_
  refine(askK_of (g false) _).trans ?_
  rfl
theorem rzAdd_pos{k:Nat}(hk:k<=900000000){a b:Zi}(ha:Lz k a)(hb:Lz k b)(hp:¬ zv a<0):D.ask (.fn 122) [.agg (eZ a),.agg (eZ b)] []=some (.agg (eZ (ziOf (zv a+zv b))),[]):=by
 have la:=ha.len
 have lb:=hb.len
 have sa:=rSign_ok K R (ha.mono (show k<=1000000000 by omega))
 have sb:=rSign_ok K R (hb.mono (show k<=1000000000 by omega))
 have ea:=zv_posE hp
 have hsa:¬ sgnZ (zv a)<0:=fun h=>hp (sgn_lt.1 h)
 refine R.fn' hn122 _ rfl ((e122 ..).trans ?_)
 refine(askK_of sa _).trans ?_
 simp only[uIk,ND,DK,unFn_fn]
 refine(br_ltF hsa).trans ?_
 refine(askK_of sa _).trans ?_
 simp only[uIk,ND,DK,unFn_fn]
 refine(br_leT (by omega)).trans ?_
 refine(askK_of sb _).trans ?_
 simp only[uIk,ND,DK,unFn_fn]
 by_cases hb0:zv b<0
 .have hsb:=sgn_lt.2 hb0
  have eb:=zv_negE hb0
  refine(br_leF (by omega)).trans ?_
  refine(askK_of sa _).trans ?_
  simp only[uIk,ND,DK,unFn_fn]
  refine(br_ltF hsa).trans ?_
  have g1:=rSub_ok K (a:=a.abs) (b:=b.abs) (by unfold SmL;omega) ha.lim (by unfold SmL;omega) hb.lim
  unfold eSubN at g1
  refine(askK_of g1 _).trans ?_
  by_cases hle:valL b.abs<=valL a.abs
  .rw[if_pos hle]
   simp only[eN,ND,DK,unFn_fn]
   have g2:=rFrom_ok K R false (a:=natL (valL a.abs-valL b.abs)) (natL_limbs _) (by
    unfold SmL
    have:=natL_len_le (n:=valL a.abs-valL b.abs) (k:=a.abs.length) (by have:=valL_lt ha.lim;omega)
    omega)
   rw[valL_natL,show sgI false (valL a.abs-valL b.abs)=zv a+zv b by unfold sgI;rw[if_neg (by simp)];omega]at g2
   refine(askK_of g2 _).trans ?_
   rfl
  .rw[if_neg hle]
   simp only[eN,ND,DK,unFn_fn]
   have g3:=rSub_ok K (a:=b.abs) (b:=a.abs) (by unfold SmL;omega) hb.lim (by unfold SmL;omega) ha.lim
   unfold eSubN at g3
   rw[if_pos (show valL a.abs<=valL b.abs by omega)]at g3
   refine(askK_of g3 _).trans ?_
   simp only[eN,ND,DK,unFn_fn]
   have g2:=rFrom_ok K R true (a:=natL (valL b.abs-valL a.abs)) (natL_limbs _) (by
    unfold SmL
    have:=natL_len_le (n:=valL b.abs-valL a.abs) (k:=b.abs.length) (by have:=valL_lt hb.lim;omega)
    omega)
   rw[valL_natL,show sgI true (valL b.abs-valL a.abs)=zv a+zv b by unfold sgI;rw[if_pos rfl];omega]at g2
   refine(askK_of g2 _).trans ?_
   rfl
 .have hsb:¬ sgnZ (zv b)<0:=fun h=>hb0 (sgn_lt.1 h)
  have eb:=zv_posE hb0
  refine(br_leT (by omega)).trans ?_
  refine(askK_of (rAdd_ok K (by omega) ha.lim (by omega) hb.lim) _).trans ?_
  simp only[eN,ND,DK,unFn_fn]
  have g2:=rFrom_ok K R false (a:=natL (valL a.abs+valL b.abs)) (natL_limbs _) (natAdd_sm hk ha hb)
  rw[valL_natL,show sgI false (valL a.abs+valL b.abs)=zv a+zv b by unfold sgI;rw[if_neg (by simp)];omega]at g2
  refine(askK_of g2 _).trans ?_
  rfl
theorem rzAdd_ok{k:Nat}(hk:k<=900000000){a b:Zi}(ha:Lz k a)(hb:Lz k b):D.ask (.fn 122) [.agg (eZ a),.agg (eZ b)] []=some (.agg (eZ (ziOf (zv a+zv b))),[]):=by
 by_cases hp:zv a<0
 .have la:=ha.len
  have lb:=hb.len
  have sa:=rSign_ok K R (ha.mono (show k<=1000000000 by omega))
  have sb:=rSign_ok K R (hb.mono (show k<=1000000000 by omega))
  have ea:=zv_negE hp
  have hsa:=sgn_lt.2 hp
  refine R.fn' hn122 _ rfl ((e122 ..).trans ?_)
  refine(askK_of sa _).trans ?_
  simp only[uIk,ND,DK,unFn_fn]
  refine(br_ltT hsa).trans ?_
  refine(askK_of sb _).trans ?_
  simp only[uIk,ND,DK,unFn_fn]
  by_cases hb0:zv b<0
  .have eb:=zv_negE hb0
   refine(br_ltT (sgn_lt.2 hb0)).trans ?_
   refine(askK_of (rAdd_ok K (by omega) ha.lim (by omega) hb.lim) _).trans ?_
   simp only[eN,ND,DK,unFn_fn]
   have g2:=rFrom_ok K R true (a:=natL (valL a.abs+valL b.abs)) (natL_limbs _) (natAdd_sm hk ha hb)
   rw[valL_natL,show sgI true (valL a.abs+valL b.abs)=zv a+zv b by unfold sgI;rw[if_pos rfl];omega]at g2
   refine(askK_of g2 _).trans ?_
   rfl
  .refine(br_ltF (fun h=>hb0 (sgn_lt.1 h))).trans ?_
   refine(askK_of sa _).trans ?_
   simp only[uIk,ND,DK,unFn_fn]
   refine(br_leF (by omega)).trans ?_
   refine(askK_of sa _).trans ?_
   simp only[uIk,ND,DK,unFn_fn]
   refine(br_ltT hsa).trans ?_
   have g:=rzAdd_pos K R hk hb ha hb0
   rw[Int.add_comm]at g
   refine(askK_of g _).trans ?_
   rfl
 .exact rzAdd_pos K R hk ha hb hp
theorem rzSub_ok{k:Nat}(hk:k<=900000000){a b:Zi}(ha:Lz k a)(hb:Lz k b):D.ask (.fn 124) [.agg (eZ a),.agg (eZ b)] []=some (.agg (eZ (ziOf (zv a-zv b))),[]):=by
 refine R.fn' hn124 _ rfl ((e124 ..).trans ?_)
 refine(askK_of (rNeg_ok K R (hb.mono (show k<=1000000000 by omega))) _).trans ?_
 have hn:Lz k (ziOf (-zv b)):=InB.lz (by have:=hb.inb;unfold InB at *;rwa [Int.natAbs_neg])
 have g:=rzAdd_ok K R hk ha hn
 rw[zv_ziOf,←Int.sub_eq_add_neg]at g
 simp only[eZ,eN,ND,DK,unFn_fn]
 refine(askK_of g _).trans ?_
 rfl
theorem rzCmp_ok{k:Nat}(hk:k<=900000000){a b:Zi}(ha:Lz k a)(hb:Lz k b):D.ask (.fn 53) [.agg (eZ a),.agg (eZ b)] []=some (iv (sgnZ (zv a-zv b)),[]):=by
 refine R.fn' hn53 _ rfl ((e53 ..).trans ?_)
 refine(askK_of (rzSub_ok K R hk ha hb) _).trans ?_
 have hs:Lz (k+1) (ziOf (zv a-zv b)):=InB.lz (by rw[Int.sub_eq_add_neg];exact inb_add ha.inb (by have:=hb.inb;unfold InB at *;rwa [Int.natAbs_neg]))
 have g:=rSign_ok K R (hs.mono (show k+1<=1000000000 by omega))
 rw[zv_ziOf]at g
 simp only[eZ,eN,ND,DK,unFn_fn]
 refine(askK_of g _).trans ?_
 rfl
theorem rzMul_ok{k m:Nat}(hk:k<=400000000)(hm:m<=400000000){a b:Zi}(ha:Lz k a)(hb:Lz m b):D.ask (.fn 123) [.agg (eZ a),.agg (eZ b)] []=some (.agg (eZ (ziOf (zv a*zv b))),[]):=by
 have la:=ha.len
 have lb:=hb.len
 have sa:=rSign_ok K R (ha.mono (show k<=1000000000 by omega))
 have sb:=rSign_ok K R (hb.mono (show m<=1000000000 by omega))
 refine R.fn' hn123 _ rfl ((e123 ..).trans ?_)
 refine(askK_of sa _).trans ?_
 simp only[uIk,ND,DK,unFn_fn]
 refine(askK_of sb _).trans ?_
 simp only[uIk,ND,DK,unFn_fn]
 have g:=rMul_ok K ha.lim hb.lim (by omega)
 have l1:=natL_mul_len ha.lim hb.lim
 have gf:∀ ng,D.ask (.fn 128) [bv ng,eN (natL (valL a.abs*valL b.abs))] []=some (.agg (eZ (ziOf (sgI ng (valL a.abs*valL b.abs)))),[]):=fun ng=>by
  have:=rFrom_ok K R ng (a:=natL (valL a.abs*valL b.abs)) (natL_limbs _) (by unfold SmL;omega)
  rwa [valL_natL]at this
 have hmul:realA.mul .i64 (sgnZ (zv a)) (sgnZ (zv b))=sgnZ (zv a)*sgnZ (zv b):=sgn_mul_wrap _ _
 rw[hmul]
 by_cases h:sgnZ (zv a)*sgnZ (zv b)<0
 .refine(br_ltT h).trans ?_
  refine(askK_of g _).trans ?_
  simp only[eN,ND,DK,unFn_fn]
  have g2:=gf true
  rw[mul_neg_of h]at g2
  refine(askK_of g2 _).trans ?_
  rfl
 .refine(br_ltF h).trans ?_
  refine(askK_of g _).trans ?_
  simp only[eN,ND,DK,unFn_fn]
  have g2:=gf false
  rw[mul_pos_of h]at g2
  refine(askK_of g2 _).trans ?_
  rfl
theorem rzSame_ok{a b:Zi}(ha:Lz 1000000000 a):D.ask (.fn 152) [.agg (eZ a),.agg (eZ b)] []=some (bv (decide (a.neg=b.neg/\a.abs=b.abs)),[]):=by
 refine R.fn' hn152 _ rfl ((e152 ..).trans ?_)
 rw[r_beq]
 by_cases h:a.neg=b.neg
 .rw[show (a.neg == b.neg)=true by simp[h]]
  refine(br_t _ _).trans ?_
  refine(askK_of (rSame_ok K (a:=a.abs) (b:=b.abs) ha.len) _).trans ?_
  by_cases h2:a.abs=b.abs
  .rw[decide_eq_true h2,decide_eq_true ⟨h,h2⟩]
   rfl
  .rw[decide_eq_false h2,decide_eq_false (fun e=>h2 e.2)]
   rfl
 .rw[show (a.neg == b.neg)=false by simp[h],decide_eq_false (fun e=>h e.1)]
  exact(br_f _ _).trans rfl
end
end Go.Proofs.YtpncilciembjdaaGreatDoor
namespace Go.Proofs.YtpncilciembjdaaGreatDoor
open Go.RowKit

theorem r_remB(m:Nat)(h:m<9223372036854775808):realA.rem .i64 (m:Int) 4294967296=((m % 4294967296:Nat):Int):=by
 show Int.tmod (m:Int) 4294967296=_
 rw[show (4294967296:Int)=((4294967296:Nat):Int) from rfl,←Int.ofNat_tmod]
theorem r_quoB(m:Nat)(h:m<9223372036854775808):realA.quo .i64 (m:Int) 4294967296=((m / 4294967296:Nat):Int):=by
 show IntKind.i64.wrap (Int.tdiv (m:Int) 4294967296)=_
 rw[IntKind.wrap_i64,show (4294967296:Int)=((4294967296:Nat):Int) from rfl,←Int.ofNat_tdiv]
 omega
theorem valL_two(m:Nat):valL [m % 4294967296,m / 4294967296]=m:=by
 unfold valL valL valL
 omega
theorem limbs_two(m:Nat)(h:m<9223372036854775808):Limbs [m % 4294967296,m / 4294967296]:=limbs_cons (by omega) (limbs_cons (by omega) limbs_nil)
structure RF (D:Orc):Prop where
 clean:∀ z:Zi,Lz 1000000000 z->D.ask (.fn 75) [.agg (eZ z)] []=some (.agg (eZ (ziOf (zv z))),[])
 neg:∀ z:Zi,Lz 1000000000 z->D.ask (.fn 179) [.agg (eZ z)] []=some (.agg (eZ (ziOf (-zv z))),[])
 sign:∀ z:Zi,Lz 1000000000 z->D.ask (.fn 69) [.agg (eZ z)] []=some (iv (sgnZ (zv z)),[])
 of_:∀ n:Int,-9223372036854775808<n->n<9223372036854775808->D.ask (.fn 56) [iv n] []=some (.agg (eZ (ziOf n)),[])
 cmp:∀ a b:Zi,Lz 900000000 a->Lz 900000000 b->D.ask (.fn 53) [.agg (eZ a),.agg (eZ b)] []=some (iv (sgnZ (zv a-zv b)),[])
 add:∀ a b:Zi,Lz 900000000 a->Lz 900000000 b->D.ask (.fn 122) [.agg (eZ a),.agg (eZ b)] []=some (.agg (eZ (ziOf (zv a+zv b))),[])
 mul:∀ a b:Zi,Lz 400000000 a->Lz 400000000 b->D.ask (.fn 123) [.agg (eZ a),.agg (eZ b)] []=some (.agg (eZ (ziOf (zv a*zv b))),[])
 same:∀ a b:Zi,Lz 1000000000 a->D.ask (.fn 152) [.agg (eZ a),.agg (eZ b)] []=some (bv (decide (a.neg=b.neg/\a.abs=b.abs)),[])
section
variable {D:Orc} (K:Knows ownC tabRn D) (R:Knows ownC tabRz D)
include K R
theorem rOf_ok(n:Int)(h1:-9223372036854775808<n)(h2:n<9223372036854775808):D.ask (.fn 56) [iv n] []=some (.agg (eZ (ziOf n)),[]):=by
 refine R.fn' hn56 _ rfl ((e56 ..).trans ?_)
 by_cases h:0<=n
 .obtain⟨m,rfl⟩:=Int.eq_ofNat_of_zero_le h
  have g:=rFrom_ok K R false (limbs_two m (by omega)) (by unfold SmL;simp)
  rw[valL_two,show sgI false m=(m:Int) from rfl]at g
  refine(br_leT h).trans ?_
  refine(br_eqF (by decide)).trans ?_
  refine(br_eqF (by decide)).trans ?_
  rw[r_remB m (by omega),r_quoB m (by omega),r_conv32s (by omega),r_conv32s (by omega)]
  refine(askK_of g _).trans ?_
  rfl
 .obtain⟨m,hm⟩:∃ m:Nat,n=-((m+1:Nat):Int):=⟨n.natAbs-1,by omega⟩
  have e1:realA.sub .i64 0 (realA.add .i64 n 1)=(m:Int):=by
   rw[r_add (by omega) (by omega),r_sub (by omega) (by omega)]
   omega
  have ga:=rAdd_ok K (a:=[m % 4294967296,m / 4294967296]) (b:=[1]) (by simp) (limbs_two m (by omega)) (by simp) (limbs_cons (by omega) limbs_nil)
  rw[valL_two,show valL [1]=1 from rfl]at ga
  have hl:(natL (m+1)).length<=2:=natL_len_le (by omega)
  have g:=rFrom_ok K R true (natL_limbs (m+1)) (by unfold SmL;omega)
  rw[valL_natL,show sgI true (m+1)=n by rw[hm];rfl]at g
  refine(br_leF h).trans ?_
  refine(br_eqF (by decide)).trans ?_
  refine(br_eqF (by decide)).trans ?_
  rw[e1,r_remB m (by omega),r_quoB m (by omega),r_conv32s (by omega),r_conv32s (by omega)]
  refine(askK_of ga _).trans ?_
  simp only[eN,ND,DK,unFn_fn]
  refine(askK_of g _).trans ?_
  rfl
theorem rf_of:RF D where
 clean z h:=rClean_ok K R h
 neg z h:=rNeg_ok K R h
 sign z h:=rSign_ok K R h
 of_ n h1 h2:=rOf_ok K R n h1 h2
 cmp a b ha hb:=rzCmp_ok K R (Nat.le_refl _) ha hb
 add a b ha hb:=rzAdd_ok K R (Nat.le_refl _) ha hb
 mul a b ha hb:=rzMul_ok K R (Nat.le_refl _) (Nat.le_refl _) ha hb
 same a b ha:=rzSame_ok K R ha
end
end Go.Proofs.YtpncilciembjdaaGreatDoor
namespace Go.Proofs.YtpncilciembjdaaGreatDoor
open Go.RowKit

theorem sgnZ_0(n:Int):sgnZ n=0 ↔ n=0:=by
 unfold sgnZ
 repeat' split
 all_goals omega
theorem sgnZ_lt(n:Int):sgnZ n<0 ↔ n<0:=by
 unfold sgnZ
 repeat' split
 all_goals omega
theorem sgnZ_gt(n:Int):0<sgnZ n ↔ 0<n:=by
 unfold sgnZ
 repeat' split
 all_goals omega
theorem br_dec(p:Prop)[Decidable p]:br (decide p) (some (bv true,([]:List BO))) (some (bv false,[]))=some (bv (decide p),[]):=by
 by_cases h:p
 .rw[decide_eq_true h];rfl
 .rw[decide_eq_false h];rfl
theorem br_same(b:Bool):br b (some (bv true,([]:List BO))) (some (bv false,[]))=some (bv b,[]):=by cases b<;>rfl
theorem br_notS(b:Bool):br b (some (bv false,([]:List BO))) (some (bv true,[]))=some (bv (!b),[]):=by cases b<;>rfl
section
variable {D:Orc} (Kh:Knows ownC tabRh D) (F:RF D)
include Kh F
theorem coef_lp{n k:Nat}{ps:List Pt}{kz:Zi}(ht:TmB n k ⟨ps,kz⟩)(hn:n<=1000000)(hk:k+n<=400000000)(v:Int)(y0:Bool)(y1:List (List AV)):∀(m i:Nat) (acc:Int),ps.length-i=m->i<=ps.length->InB (k+i) acc->
  D.ask (.lp 77 0) [iv v,.ptr 0 0,.ptr 1 0,.ptr 2 0,iv (i:Int)] [⟨[.ls (ps.map eP),bv kz.neg,eN kz.abs],true,false⟩,⟨[bv y0,.ls y1],true,false⟩,⟨eZ (ziOf acc),true,false⟩]
   = some (.tup [iv 0,.ptr 1 0,.ptr 2 0],[.del,.set ⟨[bv y0,.ls y1],true,false⟩,.set ⟨eZ (ziOf (acc+if 0<=v then coefL v ((ps.drop i).map pv) else 0)),true,false⟩]):=by
 have hlen:ps.length<=n:=ht.len
 intro m
 induction m with
 |zero=>
  intro i acc hm hi ha
  rw[List.drop_eq_nil_of_le (by omega)]
  have e0:acc+(if 0<=v then coefL v (([]:List Pt).map pv) else 0)=acc:=by
   rw[List.map_nil,coefL]
   split<;>omega
  rw[e0]
  refine Kh.lp' hn77 _ rfl (by kernel_rfl) ((e77_0 ..).trans ?_)
  rw[lenR_map]
  exact(br_ltF (by omega)).trans rfl
 |succ m ih=>
  intro i acc hm hi ha
  have h1:i<ps.length:=by omega
  have hz:=ht.ps ps[i] (List.getElem_mem h1)
  rw[List.drop_eq_getElem_cons h1,List.map_cons,coefL]
  have hn1:∀ kk,nthK (ps.map eP) i kk=kk (eP ps[i]):=fun kk=>nthK_some (List.getElem?_eq_getElem h1) kk
  have ga:=F.add (ziOf acc) ps[i].z (ha.lz.mono (by omega)) (hz.mono (by omega))
  rw[zv_ziOf]at ga
  have ih1:=ih (i+1) acc (by omega) (by omega) (ha.mono (by omega))
  have ih2:=ih (i+1) (acc+zv ps[i].z) (by omega) (by omega) (by
   show InB (k+i+1) _
   exact InB.add ha (hz.inb.mono (by omega)))
  refine Kh.lp' hn77 _ rfl (by kernel_rfl) ((e77_0 ..).trans ?_)
  rw[lenR_map]
  refine(br_ltT (by omega)).trans ?_
  rw[unI_n,hn1]
  simp only[eP,eN,ND,DK,unFn_fn]
  by_cases hv:ps[i].v=v
  .refine(br_eqT hv).trans ?_
   by_cases h0:0<=v
   .refine(br_leT h0).trans ?_
    rw[unI_n,hn1]
    simp only[eP,eN,ND,DK,unFn_fn]
    refine(askK_of ga _).trans ?_
    simp only[eZ,eN,ND,DK,unFn_fn]
    rw[add1 (by omega)]
    refine(askK_of ih2 _).trans ?_
    rw[if_pos h0,if_pos h0,if_pos (show (pv ps[i]).1=v from hv),Int.add_assoc]
    rfl
   .refine(br_leF h0).trans ?_
    rw[add1 (by omega)]
    refine(askK_of ih1 _).trans ?_
    rw[if_neg h0,if_neg h0]
    rfl
  .refine(br_eqF hv).trans ?_
   rw[add1 (by omega)]
   refine(askK_of ih1 _).trans ?_
   rw[if_neg (show ¬(pv ps[i]).1=v from hv),Int.zero_add]
   rfl
theorem coef_ok{n k:Nat}{t:Tm}(ht:TmB n k t)(hn:n<=1000000)(hk:k+n<=400000000)(v:Int):D.ask (.fn 77) [.agg (eT t),iv v] []=some (.agg (eZ (ziOf (if 0<=v then coefL v t.lf.ps else 0))),[]):=by
 obtain⟨ps,kz⟩:=t
 have g:=coef_lp Kh F ht hn hk v false [] _ 0 0 rfl (by omega) (InB.zero _)
 rw[List.drop_zero,Int.zero_add]at g
 have e0:eZ (ziOf 0)=[bv false,.ls []]:=by rw[ziOf_0];rfl
 rw[e0]at g
 refine Kh.fn' hn77 _ rfl ((e77 ..).trans ?_)
 refine(askK_of g _).trans ?_
 rfl
theorem value_lp{n k j:Nat}{t:Tm}(ht:TmB n k t)(hn:n<=1000000)(vals:List Zi)(hv:∀ z∈vals,Lz j z)(hl:vals.length<=1000000)(hk:k+n+j+1+vals.length<=400000000)(y0:Bool)(y1:List (List AV)):∀(m i:Nat) (out:Zi),vals.length-i=m->i<=vals.length->Lz (k+n+j+1+i) out->zv out=zv t.k+sumC t.lf.ps (vals.map zv) i->
  ∃ z:Zi,D.ask (.lp 87 0) [.ls (vals.map eZ),.ptr 0 0,.ptr 1 0,.ptr 2 0,iv (i:Int)] [⟨eT t,true,false⟩,⟨[bv y0,.ls y1],true,false⟩,⟨eZ out,true,false⟩]
   = some (.tup [iv 0,.ptr 1 0,.ptr 2 0],[.del,.set ⟨[bv y0,.ls y1],true,false⟩,.set ⟨eZ z,true,false⟩])/\zv z=zv t.k+sumC t.lf.ps (vals.map zv) vals.length/\Lz (k+n+j+1+vals.length) z:=by
 intro m
 induction m with
 |zero=>
  intro i out hm hi ho hz
  obtain rfl:i=vals.length:=by omega
  refine⟨out,?_,hz,ho⟩
  obtain⟨ps,kz⟩:=t
  obtain⟨o1,o2⟩:=out
  refine Kh.lp' hn87 _ rfl (by kernel_rfl) ((e87_0 ..).trans ?_)
  rw[lenR_map]
  exact(br_ltF (by omega)).trans rfl
 |succ m ih=>
  intro i out hm hi ho hz
  have h1:i<vals.length:=by omega
  have gc:=coef_ok Kh F ht hn (by omega) (i:Int)
  rw[if_pos (by omega)]at gc
  have hzv:=hv vals[i] (List.getElem_mem h1)
  have hc:InB (k+n) (coefL (i:Int) t.lf.ps):=(coefL_inb _ _ ht.lb.ps).mono (by have:=ht.lb.len;omega)
  have gm:=F.mul (ziOf (coefL (i:Int) t.lf.ps)) vals[i] (hc.lz.mono (by omega)) (hzv.mono (by omega))
  rw[zv_ziOf]at gm
  have hp:InB (k+n+j) (coefL (i:Int) t.lf.ps*zv vals[i]):=InB.mul hc hzv.inb
  have ga:=F.add out (ziOf (coefL (i:Int) t.lf.ps*zv vals[i])) (ho.mono (by omega)) (hp.lz.mono (by omega))
  rw[zv_ziOf]at ga
  obtain⟨z,g,h⟩:=ih (i+1) (ziOf (zv out+coefL (i:Int) t.lf.ps*zv vals[i])) (by omega) (by omega) (by
   have:=InB.add ho.inb (hp.mono (show k+n+j<=k+n+j+1+i by omega))
   exact this.lz) (by
   rw[zv_ziOf,hz,sumC,List.getD_eq_getElem?_getD,List.getElem?_eq_getElem (by simpa using h1),Option.getD_some,List.getElem_map]
   omega)
  refine⟨z,?_,h⟩
  obtain⟨ps,kz⟩:=t
  obtain⟨o1,o2⟩:=out
  refine Kh.lp' hn87 _ rfl (by kernel_rfl) ((e87_0 ..).trans ?_)
  rw[lenR_map]
  refine(br_ltT (by omega)).trans ?_
  refine(askK_of gc _).trans ?_
  simp only[eZ,eN,ND,DK,unFn_fn]
  rw[unI_n,nthK_some (List.getElem?_eq_getElem h1)]
  simp only[eZ,eN,ND,DK,unFn_fn]
  refine(askK_of gm _).trans ?_
  simp only[eZ,eN,ND,DK,unFn_fn]
  refine(askK_of ga _).trans ?_
  simp only[eZ,eN,ND,DK,unFn_fn]
  rw[add1 (by omega)]
  refine(askK_of g _).trans ?_
  rfl
theorem rvalue_ok{n k j:Nat}{t:Tm}(ht:TmB n k t)(hn:n<=1000000)(vals:List Zi)(hv:∀ z∈vals,Lz j z)(hl:vals.length<=1000000)(hk:k+n+j+1+vals.length<=400000000) :
  D.ask (.fn 87) [.agg (eT t),.ls (vals.map eZ)] []=some (.agg (eZ (ziOf (t.lf.val (valF (vals.map zv))))),[]):=by
 obtain⟨z,g,hz,hlz⟩:=value_lp Kh F ht hn vals hv hl hk false [] _ 0 t.k rfl (by omega) (ht.k.mono (by omega)) (by rw[sumC];omega)
 have gc:=F.clean z (hlz.mono (by omega))
 have ev:zv z=t.lf.val (valF (vals.map zv)):=by
  rw[hz,val_sumC,List.length_map]
  rfl
 rw[ev]at gc
 obtain⟨ps,kz⟩:=t
 refine Kh.fn' hn87 _ rfl ((e87 ..).trans ?_)
 refine(askK_of g _).trans ?_
 simp only[eZ,eN,ND,DK,unFn_fn]
 refine(askK_of gc _).trans ?_
 rfl
omit Kh F in
theorem lfval_inb{n k j:Nat}{l:Lf}(hl:LB n k l){vals:List Int}(hv:∀ x∈vals,InB j x):InB (k+n+j+vals.length+1) (l.val (valF vals)):=by
 rw[val_sumC,Int.add_comm]
 exact InB.add (sumC_inb hl hv _) (hl.k.mono (by omega))
theorem rholds_ok{n k j:Nat}{t:Tm}(ht:TmB n k t)(hn:n<=1000000)(e:Bool)(vals:List Zi)(hv:∀ z∈vals,Lz j z)(hl:vals.length<=1000000)(hk:k+n+j+1+vals.length<=400000000) :
  D.ask (.fn 31) [.agg [.ls (t.ps.map eP),bv t.k.neg,eN t.k.abs,bv e],.ls (vals.map eZ)] []=some (bv (relH (t.lf.val (valF (vals.map zv))) e),[]):=by
 have g:=rvalue_ok Kh F ht hn vals hv hl hk
 have hb:=lfval_inb ht.lb (vals:=vals.map zv) (fun x hx=>by
  rw[List.mem_map]at hx
  obtain⟨z,hz,rfl⟩:=hx
  exact(hv z hz).inb)
 rw[List.length_map]at hb
 generalize t.lf.val (valF (vals.map zv))=x at g hb
 have gs:=F.sign (ziOf x) (hb.lz.mono (by omega))
 rw[zv_ziOf]at gs
 obtain⟨ps,kz⟩:=t
 refine Kh.fn' hn31 _ rfl ((e31 ..).trans ?_)
 refine(askK_of g _).trans ?_
 simp only[eZ,eN,ND,DK,unFn_fn]
 refine(askK_of gs _).trans ?_
 simp only[ND,DK,unFn_fn]
 have h0:=sgnZ_0 x
 have h1:=sgnZ_lt x
 cases e with
 |true=>
  refine(br_t _ _).trans ?_
  rw[r_eq,br_dec]
  congr 3
  unfold relH
  simp only[Bool.not_true,Bool.false_and,Bool.or_false]
  rw[decide_eq_decide]
  exact h0
 |false=>
  refine(br_f _ _).trans ?_
  rw[r_le,br_dec]
  congr 3
  unfold relH
  simp only[Bool.not_false,Bool.true_and]
  rw[←Bool.decide_or,decide_eq_decide]
  omega
def boxF(x:Fm):ABlk:=ABlk.mk (eF x) true false
omit F in
theorem hoA_lp(f:Int->Int)(vals:List (List AV))(xk:Int)(xt:Tm)(xe:Bool)(ks:List Fm)(hl:ks.length<=1000000)(g:∀ y∈ks,D.ask (.fn 37) [.agg (eF y),.ls vals] []=some (bv (holdsF f y),[])):∀(m i:Nat),ks.length-i=m->i<=ks.length->
  D.ask (.lp 37 0) [.ls vals,.ptr 0 0,iv (i:Int)] [boxF (.mk xk xt xe ks)]=some (if holdsA f (ks.drop i) then .tup [iv 1] else .tup [bv true,bv false],[.del]):=by
 intro m
 induction m with
 |zero=>
  intro i hm hi
  rw[List.drop_eq_nil_of_le (by omega),holdsA,if_pos rfl]
  refine Kh.lp' hn37 _ rfl (by kernel_rfl) ((e37_0 ..).trans ?_)
  rw[eFs_map,lenR_map]
  exact(br_ltF (by omega)).trans rfl
 |succ m ih=>
  intro i hm hi
  have h1:i<ks.length:=by omega
  have gy:=g ks[i] (List.getElem_mem h1)
  have ih:=ih (i+1) (by omega) (by omega)
  rw[List.drop_eq_getElem_cons h1,holdsA]
  unfold boxF at ih ⊢
  rw[eF,eFs_map]at ih ⊢
  refine Kh.lp' hn37 _ rfl (by kernel_rfl) ((e37_0 ..).trans ?_)
  rw[lenR_map]
  refine(br_ltT (by omega)).trans ?_
  rw[unI_n,nthK_some (List.getElem?_eq_getElem h1)]
  revert gy
  generalize ks[i]=y
  obtain⟨yk,yt,ye,ys⟩:=y
  intro gy
  simp only[eF,eN,ND,DK,unFn_fn]at gy ⊢
  refine(askK_of gy _).trans ?_
  simp only[ND,DK,unFn_fn]
  cases holdsF f (.mk yk yt ye ys) with
  |false=>rfl
  |true=>
   refine(br_t _ _).trans ?_
   rw[add1 (by omega),Bool.true_and]
   refine(askK_of ih _).trans ?_
   cases holdsA f (ks.drop (i+1))<;>rfl
omit F in
theorem hoO_lp(f:Int->Int)(vals:List (List AV))(xk:Int)(xt:Tm)(xe:Bool)(ks:List Fm)(hl:ks.length<=1000000)(g:∀ y∈ks,D.ask (.fn 37) [.agg (eF y),.ls vals] []=some (bv (holdsF f y),[])):∀(m i:Nat),ks.length-i=m->i<=ks.length->
  D.ask (.lp 37 1) [.ls vals,.ptr 0 0,iv (i:Int)] [boxF (.mk xk xt xe ks)]=some (if holdsO f (ks.drop i) then .tup [bv true,bv true] else .tup [iv 3],[.del]):=by
 intro m
 induction m with
 |zero=>
  intro i hm hi
  rw[List.drop_eq_nil_of_le (by omega),holdsO,if_neg (by simp)]
  refine Kh.lp' hn37 _ rfl (by kernel_rfl) ((e37_1 ..).trans ?_)
  rw[eFs_map,lenR_map]
  exact(br_ltF (by omega)).trans rfl
 |succ m ih=>
  intro i hm hi
  have h1:i<ks.length:=by omega
  have gy:=g ks[i] (List.getElem_mem h1)
  have ih:=ih (i+1) (by omega) (by omega)
  rw[List.drop_eq_getElem_cons h1,holdsO]
  unfold boxF at ih ⊢
  rw[eF,eFs_map]at ih ⊢
  refine Kh.lp' hn37 _ rfl (by kernel_rfl) ((e37_1 ..).trans ?_)
  rw[lenR_map]
  refine(br_ltT (by omega)).trans ?_
  rw[unI_n,nthK_some (List.getElem?_eq_getElem h1)]
  revert gy
  generalize ks[i]=y
  obtain⟨yk,yt,ye,ys⟩:=y
  intro gy
  simp only[eF,eN,ND,DK,unFn_fn]at gy ⊢
  refine(askK_of gy _).trans ?_
  simp only[ND,DK,unFn_fn]
  cases holdsF f (.mk yk yt ye ys) with
  |true=>rfl
  |false=>
   refine(br_f _ _).trans ?_
   rw[add1 (by omega),Bool.false_or]
   refine(askK_of ih _).trans ?_
   cases holdsO f (ks.drop (i+1))<;>rfl
end
section
variable {D:Orc} (Kh:Knows ownC tabRh D)
include Kh
theorem fewV_lp(vals:List Zi)(m:Int)(hl:vals.length<=1000000):∀(k i:Nat),vals.length-i=k->i<=vals.length->
  D.ask (.lp 29 0) [.ls (vals.map eZ),iv m,iv (i:Int)] []=some (if ∀ z∈vals.drop i,(z.abs.length:Int)<=m then .tup [iv 0] else .tup [bv true,bv false],[]):=by
 intro k
 induction k with
 |zero=>
  intro i hm hi
  rw[List.drop_eq_nil_of_le (by omega),if_pos (by simp)]
  refine Kh.lp' hn29 _ rfl (by kernel_rfl) ((e29_0 ..).trans ?_)
  rw[lenR_map]
  exact(br_ltF (by omega)).trans rfl
 |succ k ih=>
  intro i hm hi
  have h1:i<vals.length:=by omega
  have ih:=ih (i+1) (by omega) (by omega)
  rw[List.drop_eq_getElem_cons h1]
  refine Kh.lp' hn29 _ rfl (by kernel_rfl) ((e29_0 ..).trans ?_)
  rw[lenR_map]
  refine(br_ltT (by omega)).trans ?_
  rw[unI_n,nthK_some (List.getElem?_eq_getElem h1)]
  simp only[eZ,eN,ND,DK,unFn_fn]
  rw[lenR_map]
  by_cases hz:m<(vals[i].abs.length:Int)
  .refine(br_ltT hz).trans ?_
   rw[if_neg (fun h=>by have:=h vals[i] (List.mem_cons_self ..);omega)]
  .refine(br_ltF hz).trans ?_
   rw[add1 (by omega)]
   refine(askK_of ih _).trans ?_
   by_cases hr:∀ z∈vals.drop (i+1),(z.abs.length:Int)<=m
   .rw[if_pos hr,if_pos (fun z hz2=>by
     rcases List.mem_cons.1 hz2 with rfl|hz2
     .omega
     .exact hr z hz2)]
    rfl
   .rw[if_neg hr,if_neg (fun h=>hr fun z hz=>h z (List.mem_cons_of_mem _ hz))]
    rfl
theorem fewV_ok(vals:List Zi)(n m:Nat)(hn:n<=1000000)(hl:vals.length<4611686018427387904):D.ask (.fn 29) [.ls (vals.map eZ),iv (n:Int),iv (m:Int)] []=some (bv (decide (vals.length<=n/\∀ z∈vals,z.abs.length<=m)),[]):=by
 refine Kh.fn' hn29 _ rfl ((e29 ..).trans ?_)
 rw[lenR_map]
 by_cases h:n<vals.length
 .rw[decide_eq_false (fun e=>by omega)]
  exact br_ltT (by omega)
 .have g:=fewV_lp Kh vals m (by omega) _ 0 rfl (by omega)
  rw[List.drop_zero]at g
  refine(br_ltF (by omega)).trans ?_
  refine(askK_of g _).trans ?_
  by_cases hr:∀ z∈vals,(z.abs.length:Int)<=(m:Int)
  .rw[if_pos hr,decide_eq_true ⟨by omega,fun z hz=>by have:=hr z hz;omega⟩]
   rfl
  .rw[if_neg hr,decide_eq_false (fun e=>hr fun z hz=>by have:=e.2 z hz;omega)]
   rfl
end
end Go.Proofs.YtpncilciembjdaaGreatDoor
namespace Go.Proofs.YtpncilciembjdaaGreatDoor
open Go.RowKit
variable (A:Ar) (D:Orc)
end Go.Proofs.YtpncilciembjdaaGreatDoor
namespace Go.Proofs.YtpncilciembjdaaGreatDoor
open Go.RowKit
variable (A:Ar) (D:Orc)
end Go.Proofs.YtpncilciembjdaaGreatDoor
namespace Go.Proofs.YtpncilciembjdaaGreatDoor
open Go.RowKit
variable (A:Ar) (D:Orc)
end Go.Proofs.YtpncilciembjdaaGreatDoor
namespace Go.Proofs.YtpncilciembjdaaGreatDoor
open Go.RowKit

def eRl(r:Tm × Bool):List AV:=eT r.1++[bv r.2]
theorem eRl_mk(ps:List Pt)(kz:Zi)(e:Bool):eRl (⟨ps,kz⟩,e)=[.ls (ps.map eP),bv kz.neg,eN kz.abs,bv e]:=rfl
section
variable {D:Orc} (Kv:Knows ownC tabHv D) (Kt:Knows ownC tabTe D) (Z:ZF D)
include Kv Z
theorem tvalue_lp{n k j:Nat}(ps:List Pt)(hl:ps.length<=n)(hn:n<=1000000)(hz:∀ p∈ps,Lz k p.z)(vals:List Zi)(hv:∀ z∈vals,Lz j z)(hv24:∀ z∈vals,z.abs.length<24)(hvl:vals.length<=1000000)(hk:k+j+1+n<=400000000)(y0:Bool)(y1:List (List AV)):∀(m i:Nat) (acc:Int),ps.length-i=m->i<=ps.length->InB (k+j+1+i) acc->
  D.ask (.lp 86 0) [.ls (vals.map eZ),.ptr 0 0,.ptr 1 0,.ls (ps.map eP),iv (ps.length:Int),iv (i:Int)] [⟨[bv y0,.ls y1],true,false⟩,⟨eZ (ziOf acc),true,false⟩]
   = some (.tup [iv 0,.ptr 0 0,.ptr 1 0],[.set ⟨[bv y0,.ls y1],true,false⟩,.set ⟨eZ (ziOf (acc+sumV (valF (vals.map zv)) ((ps.drop i).map pv))),true,false⟩]):=by
 intro m
 induction m with
 |zero=>
  intro i acc hm hi ha
  rw[List.drop_eq_nil_of_le (by omega),List.map_nil,sumV,Int.add_zero]
  refine Kv.lp' hn86 _ rfl (by kernel_rfl) ((e86_0 ..).trans ?_)
  exact(br_ltF (by omega)).trans rfl
 |succ m ih=>
  intro i acc hm hi ha
  have h1:i<ps.length:=by omega
  have hn1:∀ kk,nthK (ps.map eP) i kk=kk (eP ps[i]):=fun kk=>nthK_some (List.getElem?_eq_getElem h1) kk
  have hzp:=hz ps[i] (List.getElem_mem h1)
  rw[List.drop_eq_getElem_cons h1,List.map_cons,sumV]
  revert hn1 hzp
  generalize ps[i]=p
  intro hn1 hzp
  have hp:∀ v:Int,(pv p).2*valF (vals.map zv) (pv p).1=v->acc+(v+sumV (valF (vals.map zv)) ((ps.drop (i+1)).map pv))=acc+v+sumV (valF (vals.map zv)) ((ps.drop (i+1)).map pv):=fun v _=>by omega
  rw[hp _ rfl]
  have skip:valF (vals.map zv) (pv p).1=0->D.ask (.lp 86 0) [.ls (vals.map eZ),.ptr 0 0,.ptr 1 0,.ls (ps.map eP),iv (ps.length:Int),iv ((i+1:Nat):Int)] [⟨[bv y0,.ls y1],true,false⟩,⟨eZ (ziOf acc),true,false⟩]
   = some (.tup [iv 0,.ptr 0 0,.ptr 1 0],[.set ⟨[bv y0,.ls y1],true,false⟩,.set ⟨eZ (ziOf (acc+(pv p).2*valF (vals.map zv) (pv p).1+sumV (valF (vals.map zv)) ((ps.drop (i+1)).map pv))),true,false⟩]):=fun h0=>by
   have g:=ih (i+1) acc (by omega) (by omega) (ha.mono (by omega))
   rw[h0,Int.mul_zero,Int.add_zero]
   exact g
  refine Kv.lp' hn86 _ rfl (by kernel_rfl) ((e86_0 ..).trans ?_)
  refine(br_ltT (by omega)).trans ?_
  rw[unI_n,hn1]
  simp only[eP,eN,ND,DK,unFn_fn]
  rw[lenR_map,add1 (by omega)]
  by_cases h0:0<=p.v
  .refine(br_leT h0).trans ?_
   by_cases h2:p.v<(vals.length:Int)
   .refine(br_ltT h2).trans ?_
    obtain⟨v,hvv⟩:=Int.eq_ofNat_of_zero_le h0
    have h3:v<vals.length:=by omega
    have hn2:∀ kk,nthK (vals.map eZ) v kk=kk (eZ vals[v]):=fun kk=>nthK_some (List.getElem?_eq_getElem h3) kk
    have hx:=hv vals[v] (List.getElem_mem h3)
    have hx24:=hv24 vals[v] (List.getElem_mem h3)
    have ev:valF (vals.map zv) (pv p).1=zv vals[v]:=by
     show valF _ p.v=_
     rw[hvv,valF_nat,List.getD_eq_getElem?_getD,List.getElem?_map,List.getElem?_eq_getElem h3]
     rfl
    rw[ev]
    rw[hvv,unI_n,hn2]
    revert hn2 hx hx24
    generalize vals[v]=x
    intro _ hx hx24
    have gm:=Z.mul p.z x (hzp.mono (by omega)) (hx.mono (by omega)) (.inr hx24)
    have hpr:InB (k+j) (zv p.z*zv x):=InB.mul hzp.inb hx.inb
    have ga:=Z.add (ziOf acc) (ziOf (zv p.z*zv x)) (ha.lz.mono (by omega)) (hpr.lz.mono (by omega))
    rw[zv_ziOf,zv_ziOf]at ga
    have g:=ih (i+1) (acc+zv p.z*zv x) (by omega) (by omega) (by
     show InB (k+j+1+i+1) _
     exact InB.add ha (hpr.mono (by omega)))
    obtain⟨xn,xa⟩:=x
    simp only[eZ,eN,ND,DK,unFn_fn]at gm ga g ⊢
    refine(askK_of gm _).trans ?_
    simp only[ND,DK,unFn_fn]
    refine(askK_of ga _).trans ?_
    simp only[ND,DK,unFn_fn]
    refine(askK_of g _).trans ?_
    rfl
   .refine(br_ltF h2).trans ?_
    have g:=skip (valF_far _ (by rw[List.length_map];show _<=p.v;omega))
    simp only[eZ,eN]at g ⊢
    refine(askK_of g _).trans ?_
    rfl
  .refine(br_leF h0).trans ?_
   have g:=skip (valF_neg _ _ (by show p.v<0;omega))
   simp only[eZ,eN]at g ⊢
   refine(askK_of g _).trans ?_
   rfl
include Kt in
theorem tvalue_ok{n k j:Nat}{t:Tm}(ht:TmB n k t)(hn:n<=1000000)(vals:List Zi)(hv:∀ z∈vals,Lz j z)(hv24:∀ z∈vals,z.abs.length<24)(hvl:vals.length<=1000000)(hk:k+j+1+n<=400000000):D.ask (.fn 86) [.agg (eT t),.ls (vals.map eZ)] []=some (.agg (eZ (ziOf (t.lf.val (valF (vals.map zv))))),[]):=by
 obtain⟨ps,kz⟩:=t
 have gc:=copiedZ_ok Kt Z (ht.k.mono (show k<=1000000000 by omega))
 have hl:ps.length<=n:=ht.len
 have g:=tvalue_lp Kv Z ps hl hn ht.ps vals hv hv24 hvl hk false [] _ 0 (zv kz) rfl (by omega) (ht.k.inb.mono (by omega))
 rw[List.drop_zero]at g
 have el:zv kz+sumV (valF (vals.map zv)) (ps.map pv)=(Tm.mk ps kz).lf.val (valF (vals.map zv)):=by
  unfold Lf.val Tm.lf
  exact Int.add_comm _ _
 rw[el]at g
 refine Kv.fn' hn86 _ rfl ((e86 ..).trans ?_)
 refine(askK_of gc _).trans ?_
 simp only[eZ,eN,ND,DK,unFn_fn,lenR_map]at g ⊢
 refine(askK_of g _).trans ?_
 rfl
include Kt in
theorem relholds_ok{n k j:Nat}{t:Tm}(ht:TmB n k t)(hn:n<=1000000)(e:Bool)(vals:List Zi)(hv:∀ z∈vals,Lz j z)(hv24:∀ z∈vals,z.abs.length<24)(hvl:vals.length<=1000000)(hk:k+n+j+1+vals.length<=400000000):D.ask (.fn 30) [.agg (eRl (t,e)),.ls (vals.map eZ)] []=some (bv (relH (t.lf.val (valF (vals.map zv))) e),[]):=by
 have g:=tvalue_ok Kv Kt Z ht hn vals hv hv24 hvl (by omega)
 have hb:=lfval_inb ht.lb (vals:=vals.map zv) (fun x hx=>by
  rw[List.mem_map]at hx
  obtain⟨z,hz,rfl⟩:=hx
  exact(hv z hz).inb)
 rw[List.length_map]at hb
 generalize t.lf.val (valF (vals.map zv))=x at g hb
 have gs:=Z.sign (ziOf x) (hb.lz.mono (by omega))
 rw[zv_ziOf]at gs
 obtain⟨ps,kz⟩:=t
 refine Kv.fn' hn30 _ rfl ((e30 ..).trans ?_)
 refine(askK_of g _).trans ?_
 simp only[eZ,eN,ND,DK,unFn_fn]at gs ⊢
 refine(askK_of gs _).trans ?_
 simp only[ND,DK,unFn_fn]
 unfold relH
 by_cases h0:x=0
 .refine(br_eqT ((sgnZ_0 x).2 h0)).trans ?_
  rw[decide_eq_true h0]
  rfl
 .refine(br_eqF fun h=>h0 ((sgnZ_0 x).1 h)).trans ?_
  rw[decide_eq_false h0]
  cases e with
  |true=>rfl
  |false=>
   refine(br_t _ _).trans ?_
   by_cases h1:0<x
   .refine(br_ltT ((sgnZ_gt x).2 h1)).trans ?_
    rw[decide_eq_true h1]
    rfl
   .refine(br_ltF fun h=>h1 ((sgnZ_gt x).1 h)).trans ?_
    rw[decide_eq_false h1]
    rfl
end
section
variable {D:Orc} (Kw:Knows ownC tabFw D)
include Kw
def okPs(L:Int)(ps:List Pt):Bool:=ps.all fun p=>decide ((p.z.abs.length:Int)<=L)
def okRl(L:Int)(r:Tm × Bool):Bool:=decide (r.1.ps.length<=20)&&(decide ((r.1.k.abs.length:Int)<=L)&&okPs L r.1.ps)
theorem few1_lp(rs:List (Tm × Bool))(L:Int)(i:Nat)(h1:i<rs.length)(hl:rs[i].1.ps.length<=20):∀(m k:Nat),rs[i].1.ps.length-k=m->k<=rs[i].1.ps.length->
  D.ask (.lp 16 1) [.ls (rs.map eRl),iv L,iv (i:Int),iv (k:Int)] []=some (if okPs L (rs[i].1.ps.drop k)=true then .tup [iv 2,.ls (rs.map eRl),iv L,iv (i:Int)] else .tup [bv true,bv false],[]):=by
 have hn1:∀ kk,nthK (rs.map eRl) i kk=kk (eRl rs[i]):=fun kk=>nthK_some (List.getElem?_eq_getElem h1) kk
 revert hn1 hl
 generalize rs[i]=r
 intro hl hn1
 obtain⟨⟨ps,kz⟩,e⟩:=r
 simp only at hl ⊢
 intro m
 induction m with
 |zero=>
  intro k hm hk
  rw[List.drop_eq_nil_of_le (by omega)]
  refine Kw.lp' hn16 _ rfl (by kernel_rfl) ((e16_1 ..).trans ?_)
  simp only[unI_n,hn1,eRl_mk,eN,ND,DK,unFn_fn,lenR_map]
  exact(br_ltF (by omega)).trans rfl
 |succ m ih=>
  intro k hm hk
  have h2:k<ps.length:=by omega
  have ih:=ih (k+1) (by omega) (by omega)
  have hn2:∀ kk,nthK (ps.map eP) k kk=kk (eP ps[k]):=fun kk=>nthK_some (List.getElem?_eq_getElem h2) kk
  rw[List.drop_eq_getElem_cons h2]
  revert hn2
  generalize ps[k]=p
  intro hn2
  unfold okPs at ih ⊢
  rw[List.all_cons]
  refine Kw.lp' hn16 _ rfl (by kernel_rfl) ((e16_1 ..).trans ?_)
  simp only[unI_n,hn1,hn2,eRl_mk,eP,eN,ND,DK,unFn_fn,lenR_map]
  refine(br_ltT (by omega)).trans ?_
  by_cases hz:L<(p.z.abs.length:Int)
  .refine(br_ltT hz).trans ?_
   rw[decide_eq_false (by omega:¬ (p.z.abs.length:Int)<=L)]
   rfl
  .refine(br_ltF hz).trans ?_
   rw[decide_eq_true (by omega:(p.z.abs.length:Int)<=L),Bool.true_and,add1 (by omega)]
   refine(askK_of ih _).trans ?_
   cases (ps.drop (k+1)).all fun p=>decide ((p.z.abs.length:Int)<=L)<;>rfl
theorem few0_lp(rs:List (Tm × Bool))(L:Int)(hrl:rs.length<=1000000):∀(m i:Nat),rs.length-i=m->i<=rs.length->
  D.ask (.lp 16 0) [.ls (rs.map eRl),iv L,iv (i:Int)] []=some (if(rs.drop i).all (okRl L)=true then .tup [iv 0] else .tup [bv true,bv false],[]):=by
 intro m
 induction m with
 |zero=>
  intro i hm hi
  rw[List.drop_eq_nil_of_le (by omega)]
  refine Kw.lp' hn16 _ rfl (by kernel_rfl) ((e16_0 ..).trans ?_)
  rw[lenR_map]
  exact(br_ltF (by omega)).trans rfl
 |succ m ih=>
  intro i hm hi
  have h1:i<rs.length:=by omega
  have ih:=ih (i+1) (by omega) (by omega)
  have hn1:∀ kk,nthK (rs.map eRl) i kk=kk (eRl rs[i]):=fun kk=>nthK_some (List.getElem?_eq_getElem h1) kk
  have g1:=few1_lp Kw rs L i h1
  rw[List.drop_eq_getElem_cons h1,List.all_cons]
  revert hn1 g1
  generalize rs[i]=r
  obtain⟨⟨ps,kz⟩,e⟩:=r
  intro hn1 g1
  simp only at g1
  unfold okRl
  simp only
  refine Kw.lp' hn16 _ rfl (by kernel_rfl) ((e16_0 ..).trans ?_)
  rw[lenR_map]
  refine(br_ltT (by omega)).trans ?_
  simp only[unI_n,hn1,eRl_mk,eN,ND,DK,unFn_fn,lenR_map]
  by_cases hp:ps.length<=20
  .refine(br_ltF (by omega)).trans ?_
   rw[decide_eq_true hp,Bool.true_and]
   by_cases hk:(kz.abs.length:Int)<=L
   .refine(br_ltF (by omega)).trans ?_
    rw[decide_eq_true hk,Bool.true_and]
    have g1:=g1 hp _ 0 rfl (Nat.zero_le _)
    rw[List.drop_zero]at g1
    refine(askK_of g1 _).trans ?_
    cases hr:okPs L ps with
    |true=>
     rw[if_pos rfl,Bool.true_and]
     simp only[ND,DK,unFn_fn,ax_3]
     rw[add1 (by omega)]
     refine(askK_of ih _).trans ?_
     unfold okRl
     cases (rs.drop (i+1)).all fun r=>decide (r.1.ps.length<=20)&&(decide ((r.1.k.abs.length:Int)<=L)&&okPs L r.1.ps)<;>rfl
    |false=>rfl
   .refine(br_ltT (by omega)).trans ?_
    rw[decide_eq_false hk]
    rfl
  .refine(br_ltT (by omega)).trans ?_
   rw[decide_eq_false hp]
   rfl
theorem few_ok(rs:List (Tm × Bool))(n:Nat)(L:Int)(hn:n<=1000000):D.ask (.fn 16) [.ls (rs.map eRl),iv (n:Int),iv L] []=some (bv (decide (rs.length<=n)&&rs.all (okRl L)),[]):=by
 refine Kw.fn' hn16 _ rfl ((e16 ..).trans ?_)
 rw[lenR_map]
 by_cases h:n<rs.length
 .rw[decide_eq_false (by omega:¬ rs.length<=n)]
  exact br_ltT (by omega)
 .have g:=few0_lp Kw rs L (by omega) _ 0 rfl (by omega)
  rw[List.drop_zero]at g
  rw[decide_eq_true (by omega:rs.length<=n),Bool.true_and]
  refine(br_ltF (by omega)).trans ?_
  refine(askK_of g _).trans ?_
  cases rs.all (okRl L)<;>rfl
end
structure LmT (t:Tm):Prop where
 ps:∀ p∈t.ps,Limbs p.z.abs
 k:Limbs t.k.abs
theorem LmT.tmb{t:Tm}{e:Bool}{L:Nat}(h:LmT t)(ho:okRl (L:Int) (t,e)=true):TmB 20 L t:=by
 unfold okRl okPs at ho
 simp only[Bool.and_eq_true,decide_eq_true_eq,List.all_eq_true]at ho
 exact⟨ho.1,fun p hp=>⟨h.ps p hp,by have:=ho.2.2 p hp;omega⟩,⟨h.k,by have:=ho.2.1;omega⟩⟩



end Go.Proofs.YtpncilciembjdaaGreatDoor
