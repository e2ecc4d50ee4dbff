/- slices.Clone over this s -/
import Derived.Maps.AppendAt
import Derived.Test.YtpncilciembjdaaGreatDoorGAM
import Derived.Test.YtpncilciembjdaaGreatDoorGAO
import Derived.Test.YtpncilciembjdaaGreatDoorGAP
import Derived.Lib.AppendZeros
set_option linter.all false
open Bool renaming false->Ξ,true->U,and_eq_true->Aqr
open Int renaming add_mul->AsX,le_refl->AsY,mul_assoc->AtB
open List renaming append_assoc->AqM,drop->Aqp,drop_drop->AsD,drop_eq_getElem_cons->π,drop_eq_nil_of_le->Aqq,drop_zero->Aqk,eq_nil_of_length_eq_zero->AqN,ext_getElem?->Atf,flatten_cons->Arm,getElem?_drop->Arj,getElem?_eq_getElem->θ,getElem?_set_ne->Arn,getElem?_set_self->Arv,getElem?_take->AqH,length->AtH,length_append->χ,length_cons->ε,length_set->AqW,length_singleton->Arb,length_take->AqT,map_cons->AqF,map_take->AsF,mem_cons->ι,mem_cons_of_mem->Aql,mem_cons_self->Aqs,mem_filter->Ary,mem_iff_getElem?->As1,mem_map->Aq6,mem_of_mem_drop->Arh,mem_replicate->Atc,mem_singleton->Aq1,nil_append->Aq0,pairwise_cons->AqY,pairwise_singleton->AsU,replicate->ArD,set_eq_take_append_cons_drop->Asq,tail_drop->Asi,take->Aqj,take_append_drop->Asw,take_length->ArB,take_succ_eq_append_getElem->Arq
open Nat renaming add_mul->Aq9,add_zero->Arf,ble->Aqv,dvd_mul_left->AsQ,dvd_sub->Atk,dvd_zero->AtF,eq_zero_or_pos->Atd,le_of_dvd->As7,le_refl->ω,min_eq_left->ArG,min_eq_right->Ar5,mod_lt->Ar1,mul_add->Asr,mul_assoc->Ar9,mul_one->AsE,ne_of_gt->AtG,one_mul->Asl,pow_le_pow_right->ArC,pow_succ->ArH,strongRecOn->Arz,zero_add->Aqw,zero_le->AqR,zero_mul->ArI
open Option renaming none->Θ,some->Δ
namespace Go.Proofs.YtpncilciembjdaaGreatDoor
noncomputable section
open ABlk renaming mk->Ω
open AV renaming agg->ψ,ls->Φ,sl->κ,tup->Aqm,v->AqC
open BO renaming set->Aqu
open IntKind renaming i64->δ,u32->γ,u64->ξ
open Key renaming fn->φ,lp->Aqn
open Lib renaming hid->ζ,run_eql_slice_nil->As0
open Option.some renaming injEq->Ψ
open Tryz renaming prog->η
open Go.RowKit
theorem Ox(a:Addr)(j:Nat):(a.add j).block=a.block:=by unfold Addr.add;split<;>rfl
set_option maxRecDepth 100000 in
set_option maxHeartbeats 4000000 in
theorem MI(w:World)(A:Option Addr)(n c:Nat)(us:List Value)(hn:us.length=n*3)(hc:n<=c)(hA:n≠0->∃ g o,A=Δ ⟨g,o,Θ⟩/\∀ j u,us[j]? = Δ u->w.cell? ⟨g,o+j,Θ⟩=Δ u)
  (h1:∀ u∈us,u.oneCell'=U) (hby:n*40<=140737488355328) :
  Calls η 135 #[.slice A n c] w λe w'=>∃ v',e=.returned v'/\w'.ownsRow w.heap.size 84 3 v' n us/\Below w.heap.size w w':=by
 obtain⟨i0,hi0,hz0,hz1,hz2⟩:=info_parts (show (Tryz.prog.info? 84).map (λi=>(i.zero,i.size,i.bytes))=Δ (Δ (.agg #[.int .i64 0,.bool Ξ,.slice Θ 0 0]),3,40) by kernel_rfl);have HU:=ζ hn;have HA:=ζ hA;have H1:=ζ h1;clear hn hA h1;have hq:∀(w:World) (a:Option Addr) (n c:Nat),(binOp .eql 22 (.slice a n c) (.slice Θ 0 0)).run η w=.ok (.bool a.isNone) w:=λw a n c=>As0 w _ _ a n c 0 0 Tryz.underlying22
 go_enter Tryz.func135,Tryz.ntmps135
 cases A with
 |none=>
  have h0:n=0:=by
   rcases Atd n with h|h
   .exact h
   .exfalso
    obtain⟨g,o,h2,_⟩:=HA.out (AtG h)
    cases h2
  subst h0
  go_wp2
  go_ret
  have hu:us=[]:=AqN (by rw[HU.out,ArI]);rw[hu];exact⟨_,rfl,World.ownsRow_nil _ _ _ _,Below.refl _ _⟩
 |some ad=>
  obtain⟨ag,ao,asp⟩:=ad;have hcells:∀ j u,us[j]? = Δ u->ag<w.heap.size/\w.cell? ((⟨ag,ao,asp⟩:Addr).add j)=Δ u:=λj u hj=>by
   have hn0:n≠0:=by
    rintro rfl;have hu:us=[]:=AqN (by rw[HU.out,ArI]);rw[hu]at hj
    cases hj
   obtain⟨g,o,h2,h3⟩:=HA.out hn0
   cases h2
   have h5:=h3 j u hj;exact⟨CL h5,by rw[GL];exact h5⟩
  have HC:=ζ hcells;clear hcells
  go_wp2_with (at_builtin;refine wpList_append_own_at _ rfl _ _ 22 rfl w.heap.size 84 i0 (.agg #[.int .i64 0,.bool Ξ,.slice Θ 0 0]) 3 40 Tryz.underlying22 hi0 hz0 hz1 hz2 rfl (by decide) _ 0 [] rfl ?c0 ⟨ag,ao,asp⟩ n c us rfl HU.out ?c1 H1.out ?c3 ?c4 ?c5 ?_)
  case c0=>exact⟨by simp,.inr ⟨w.heap.size,0,#[],rfl,ω _,heap_alloc_new _ _,ω _,AqR _,by simp,by simp⟩⟩
  case c1=>
   intro j u hj;have:=HC.out j u hj;exact((AJ w (.cells #[] 84)).cell (p:=(⟨ag,ao,asp⟩:Addr).add j) (by rw[Ox];exact this.1)).trans this.2
  case c3=>unfold maxLen;omega
  case c4=>omega
  case c5=>exact(AJ w _).size
  intro v' w3 hown hgrow _ _
  try simp only[Aqw,Aq0]at hown
  have HO:=ζ hown;have HB:=ζ ((AJ w (.cells #[] 84)).grown hgrow (AJ w _).size (λk hk=>by have hk:Δ w.heap.size=Δ k:=hk;cases hk;exact ω _));clear hown hgrow
  go_wp2_with fail
  go_ret
  exact⟨_,rfl,HO.out,HB.out⟩
set_option maxRecDepth 100000 in
set_option maxHeartbeats 4000000 in
theorem Ty(w:World)(A:Option Addr)(n c:Nat)(us:List Value)(hn:us.length=n*1)(hc:n<=c)(hA:n≠0->∃ g o,A=Δ ⟨g,o,Θ⟩/\∀ j u,us[j]? = Δ u->w.cell? ⟨g,o+j,Θ⟩=Δ u)
  (h1:∀ u∈us,u.oneCell'=U) (hby:n*4<=140737488355328) :
  Calls η 236 #[.slice A n c] w λe w'=>∃ v',e=.returned v'/\w'.ownsRow w.heap.size 134 1 v' n us/\Below w.heap.size w w':=by
 obtain⟨i0,hi0,hz0,hz1,hz2⟩:=info_parts (show (Tryz.prog.info? 134).map (λi=>(i.zero,i.size,i.bytes))=Δ (Δ (.int .u32 0),1,4) by kernel_rfl);have HU:=ζ hn;have HA:=ζ hA;have H1:=ζ h1;clear hn hA h1;have hq:∀(w:World) (a:Option Addr) (n c:Nat),(binOp .eql 24 (.slice a n c) (.slice Θ 0 0)).run η w=.ok (.bool a.isNone) w:=λw a n c=>As0 w _ _ a n c 0 0 Tryz.underlying24
 go_enter Tryz.func236,Tryz.ntmps236
 cases A with
 |none=>
  have h0:n=0:=by
   rcases Atd n with h|h
   .exact h
   .exfalso
    obtain⟨g,o,h2,_⟩:=HA.out (AtG h)
    cases h2
  subst h0
  go_wp2
  go_ret
  have hu:us=[]:=AqN (by rw[HU.out,ArI]);rw[hu];exact⟨_,rfl,World.ownsRow_nil _ _ _ _,Below.refl _ _⟩
 |some ad=>
  obtain⟨ag,ao,asp⟩:=ad;have hcells:∀ j u,us[j]? = Δ u->ag<w.heap.size/\w.cell? ((⟨ag,ao,asp⟩:Addr).add j)=Δ u:=λj u hj=>by
   have hn0:n≠0:=by
    rintro rfl;have hu:us=[]:=AqN (by rw[HU.out,ArI]);rw[hu]at hj
    cases hj
   obtain⟨g,o,h2,h3⟩:=HA.out hn0
   cases h2
   have h5:=h3 j u hj;exact⟨CL h5,by rw[GL];exact h5⟩
  have HC:=ζ hcells;clear hcells
  go_wp2_with (at_builtin;refine wpList_append_own_at _ rfl _ _ 24 rfl w.heap.size 134 i0 (.int .u32 0) 1 4 Tryz.underlying24 hi0 hz0 hz1 hz2 rfl (by decide) _ 0 [] rfl ?c0 ⟨ag,ao,asp⟩ n c us rfl HU.out ?c1 H1.out ?c3 ?c4 ?c5 ?_)
  case c0=>exact⟨by simp,.inr ⟨w.heap.size,0,#[],rfl,ω _,heap_alloc_new _ _,ω _,AqR _,by simp,by simp⟩⟩
  case c1=>
   intro j u hj;have:=HC.out j u hj;exact((AJ w (.cells #[] 134)).cell (p:=(⟨ag,ao,asp⟩:Addr).add j) (by rw[Ox];exact this.1)).trans this.2
  case c3=>unfold maxLen;omega
  case c4=>omega
  case c5=>exact(AJ w _).size
  intro v' w3 hown hgrow _ _
  try simp only[Aqw,Aq0]at hown
  have HO:=ζ hown;have HB:=ζ ((AJ w (.cells #[] 134)).grown hgrow (AJ w _).size (λk hk=>by have hk:Δ w.heap.size=Δ k:=hk;cases hk;exact ω _));clear hown hgrow
  go_wp2_with fail
  go_ret
  exact⟨_,rfl,HO.out,HB.out⟩
section
variable {μ:Mu} {F:Az} {w:World} {g:Nat}
theorem U1:∀(xs:List AV) (o:Nat),RepAt μ F w g xs o->∃ us,RepList μ F w xs us/\∀ j u,us[j]? = Δ u->w.cell? ⟨g,o+j,Θ⟩=Δ u
 |[],o,_=>⟨[],rfl,λj u h=>by simp at h⟩
 |x::r,o,h=>by
  simp only[RepAt]at h;obtain⟨⟨_,u,h2,h3⟩,h4⟩:=h;obtain⟨us,h5,h6⟩:=U1 r (o+1) h4;refine⟨u::us,⟨u,us,rfl,h3,h5⟩,λj v hj=>?_⟩
  cases j with
  |zero=>simp at hj;subst hj;exact h2
  |succ j=>
   have:=h6 j v (by simpa using hj)
   rwa [show o+1+j=o+(j+1) by omega]at this
theorem KU{e:Nat}:∀(xs:List (List AV)) (o:Nat),RepRows μ F w g e xs o->∃ us,RepList μ F w xs.flatten us/\∀ j u,us[j]? = Δ u->w.cell? ⟨g,o+j,Θ⟩=Δ u
 |[],o,_=>⟨[],rfl,λj u h=>by simp at h⟩
 |x::r,o,h=>by
  simp only[RepRows]at h;obtain⟨h1,h2,h3⟩:=h;obtain⟨us,a1,a2⟩:=U1 x o h2;obtain⟨vs,b1,b2⟩:=KU r (o+e) h3;refine⟨us++vs,by rw[Arm];exact RepList.append a1 b1,λj v hj=>?_⟩;have hl:us.length=e:=by rw[a1.length,h1]
  by_cases hj2:j<us.length
  .exact a2 j v (by rwa [List.getElem?_append_left hj2]at hj)
  .rw[List.getElem?_append_right (by omega),hl]at hj
   have:=b2 (j-e) v hj
   rwa [show o+e+(j-e)=o+j by omega]at this
end
def BP(e B:Nat):List AV->Option (Nat × List AV)
 |[.ls xs]=>if(E4 e xs&&I4 (Il xs)&&AA (Il xs)&&Aqv (AP xs*B) 140737488355328)=U then Δ (AP xs,Il xs) else Θ
 |_=>Θ
theorem IN{P:Program}{f:Nat}{ety:TypeId}(e B:Nat) (h:∀(w:World) (A:Option Addr) (n c:Nat) (us:List Value),us.length=n*e->n<=c->(n≠0->∃ g o,A=Δ ⟨g,o,Θ⟩/\∀ j u,us[j]? = Δ u->w.cell? ⟨g,o+j,Θ⟩=Δ u)->
  (∀ u∈us,u.oneCell'=U)->n*B<=140737488355328->Calls P f #[.slice A n c] w λe' w'=>∃ v',e'=.returned v'/\w'.ownsRow w.heap.size ety e v' n us/\Below w.heap.size w w'):AN (AT P f) (Dy e (BP e B)):=by
 refine HQ (B8 P f) e _ λargs n cells hr=>?_
 unfold BP at hr;split at hr
 .rename_i xs
  split at hr
  .rename_i hc
   simp only[Aqr,Nat.ble_eq]at hc;obtain⟨⟨⟨c1,c2⟩,c3⟩,c4⟩:=hc;rw[Hw]at c1;rw[Jn]at c2 c3;rw[Gb]at c4;simp only[Ψ,Prod.mk.injEq]at hr;obtain⟨rfl,rfl⟩:=hr;rw[Gb,Jn];have hlen:xs.flatten.length=xs.length*e:=by
    clear c2 c3 c4
    induction xs with
    |nil=>simp
    |cons x r ih=>
     rw[List.all_cons,Aqr]at c1;rw[Arm,χ,ih c1.2,ε,Aq9,Asl];have:x.length=e:=by simpa using c1.1
     omega
   refine⟨c3,hlen,λμ F w us hF hus=>?_⟩;obtain⟨v,t,rfl,hv,ht⟩:=hus;have ht:t=[]:=ht;subst ht;unfold Rep at hv;obtain⟨_,A,c,rfl,h2,_,h4⟩:=hv;have key:∃ vs,RepList μ F w xs.flatten vs/\(xs.length≠0->∃ g o,A=Δ ⟨g,o,Θ⟩/\∀ j u,vs[j]? = Δ u->w.cell? ⟨g,o+j,Θ⟩=Δ u):=by
    by_cases hx:xs=[]
    .subst hx
     exact⟨[],rfl,λh=>absurd rfl h⟩
    .obtain⟨g,o,e',hA,hr⟩:=h4 hx
     obtain⟨vs,k1,k2⟩:=KU xs o hr;exact⟨vs,k1,λ_=>⟨g,o,hA,k2⟩⟩
   obtain⟨vs,k1,k2⟩:=key;have hone:∀ u∈vs,u.oneCell'=U:=λu hu=>by
    obtain⟨j,hj,rfl⟩:=List.getElem_of_mem hu;have hj2:j<xs.flatten.length:=by rw[←k1.length];exact hj
    obtain⟨u,a1,a2⟩:=k1.get (θ hj2);rw[θ hj]at a1
    cases a1
    rw[EX]at c2;exact a2.one (List.all_eq_true.1 c2 _ (List.getElem_mem hj2))
   refine Calls.mono (h w A xs.length c vs (by rw[k1.length,hlen]) h2 k2 hone c4) ?_;rintro e' w' ⟨v',rfl,ho,hb⟩;exact⟨v',rfl,ety,vs,ho,hb,k1⟩
  .cases hr
 .cases hr
theorem HI:AN (AT η 236) (Dy 1 (BP 1 4)):=IN 1 4 λw A n c us h1 h2 h3 h4 h5=>Ty w A n c us h1 h2 h3 h4 h5
theorem MJ:AN (AT η 135) (Dy 3 (BP 3 40)):=IN 3 40 λw A n c us h1 h2 h3 h4 h5=>MI w A n c us h1 h2 h3 h4 h5
set_option maxRecDepth 100000 in
set_option maxHeartbeats 4000000 in
theorem WE(w:World)(n:Nat)(hby:n*40<=140737488355328) :
  Calls η 262 #[.slice Θ 0 0,.int .i64 n] w λe w'=>∃ v',e=.returned v'/\w'.ownsRow w.heap.size 84 3 v' 0 []/\Below w.heap.size w w':=by
 have y0:¬ (n:Int)<0:=by omega
 go_enter Tryz.func262,Tryz.ntmps262
 by_cases h0:n=0
 .subst h0
  go_wp2
  go_ret
  exact⟨_,rfl,World.ownsRow_nil _ _ _ _,Below.refl _ _⟩
 .have y1:(0:Int)<(n:Int):=by omega
  obtain⟨i0,hi0,hz0,hz1,hz2⟩:=info_parts (show (Tryz.prog.info? 84).map (λi=>(i.zero,i.size,i.bytes))=Δ (Δ (.agg #[.int .i64 0,.bool Ξ,.slice Θ 0 0]),3,40) by kernel_rfl);have hr:=λty=>Lib.run_append_nil_zeros (P:=η) w 22 3 ty 84 i0 _ .i64 .i64 Tryz.underlying22 Tryz.underlying3 hi0 hz0 n (by omega) (by rw[hz1];decide) (by omega) (by rw[hz2];omega)
  have c1:=grownCap_ge w n 0 84;have c2:=grownCap_le_maxLen w n 0 84 (by unfold maxLen;omega);have HR:=ζ hr;clear hr;generalize grownCap w n 0 84=cap at *
  go_wp2_with (at_builtin;refine Lib.wpList_append_run _ rfl _ _ _ _ rfl _ _ rfl rfl _ _ (HR.out _) ?_)
  go_wp2_with fail
  go_ret
  refine⟨_,rfl,⟨by simp,.inr ⟨w.heap.size,cap,_,rfl,ω _,heap_alloc_new _ _,AqR _,c2,?_,by simp⟩⟩,?_⟩
  .rw[Array.size_append,size_zeroCells,size_zeroCells]
   show n*3+(cap-n)*3=cap*3
   omega
  .exact(MB (Below.refl _ _)).alloc (ω _) _
def C9(B:Nat):List AV->Option (Nat × List AV)
 |[.v (.slice Θ 0 0),.v (.int .i64 (.ofNat n))]=>if Aqv (n*B) 140737488355328=U then Δ (0,[]) else Θ
 |_=>Θ
theorem HT:AN (AT η 262) (Dy 3 (C9 40)):=by
 refine HQ (B8 _ _) 3 _ λargs n cells hr=>?_
 unfold C9 at hr;split at hr
 .rename_i k
  split at hr
  .rename_i hk
   simp only[Ψ,Prod.mk.injEq]at hr;obtain⟨rfl,rfl⟩:=hr;refine⟨rfl,rfl,λμ F w us hF hus=>?_⟩;obtain⟨u,t,rfl,hu,u2,t2,rfl,hu2,ht⟩:=hus;have ht:t2=[]:=ht;subst ht;unfold Rep at hu hu2;rw[hu.1,hu2.1];refine Calls.mono (WE w k (Nat.le_of_ble_eq_true hk)) ?_;rintro e' w' ⟨v',rfl,ho,hb⟩;exact⟨v',rfl,_,[],ho,hb,rfl⟩
  .cases hr
 .cases hr
def AQ(v:Int):List (Int × Int)->Int
 |[]=>0
 |p::r=>(if p.1=v then p.2 else 0)+AQ v r
theorem Et{v:Int}:∀{l:List (Int × Int)},(∀ p∈l,p.1≠v)->AQ v l=0
 |[],_=>rfl
 |p::r,h=>by
  rw[AQ,if_neg (h p (Aqs ..)),Et λq hq=>h q (Aql _ hq)];rfl
theorem MP{v:Int}{a b:List (Int × Int)}(h:a.Perm b):AQ v a=AQ v b:=by
 induction h with
 |nil=>rfl
 |cons x _ ih=>rw[AQ,AQ,ih]
 |swap x y l=>rw[AQ,AQ,AQ,AQ];omega
 |trans _ _ ih1 ih2=>rw[ih1,ih2]
structure Pln (l:List (Int × Int)):Prop where
 asc:l.Pairwise λa b=>a.1<b.1
 pos:∀ p∈l,0<=p.1
 nz:∀ p∈l,p.2≠0
theorem VI:Pln []:=⟨.nil,by simp,by simp⟩
theorem Pln.tail{p:Int × Int}{r:List (Int × Int)}(h:Pln (p::r)):Pln r:=⟨(AqY.1 h.asc).2,λq hq=>h.pos q (Aql _ hq),λq hq=>h.nz q (Aql _ hq)⟩
theorem Pln.head{p:Int × Int}{r:List (Int × Int)}(h:Pln (p::r)):AQ p.1 (p::r)=p.2:=by
 rw[AQ,if_pos rfl,Et λq hq=>by have:=(AqY.1 h.asc).1 q hq;omega];omega
theorem Pln.below{p:Int × Int}{r:List (Int × Int)}(h:Pln (p::r)){v:Int}(hv:v<p.1):AQ v (p::r)=0:=by
 refine Et λq hq=>?_
 rcases ι.1 hq with rfl|hq
 .omega
 .have:=(AqY.1 h.asc).1 q hq
  omega
theorem Pln.ext:∀{a b:List (Int × Int)},Pln a->Pln b->(∀ v,AQ v a=AQ v b)->a=b
 |[],[],_,_,_=>rfl
 |[],q::s,_,hb,h=>by
  have h1:=hb.head;rw[←h q.1]at h1;exact absurd h1.symm (hb.nz q (Aqs ..))
 |p::r,[],ha,_,h=>by
  have h1:=ha.head;rw[h p.1]at h1;exact absurd h1.symm (ha.nz p (Aqs ..))
 |p::r,q::s,ha,hb,h=>by
  have h1:=ha.head;have h2:=hb.head;have n1:=ha.nz p (Aqs ..);have n2:=hb.nz q (Aqs ..);have e:p.1=q.1:=by
   rcases Int.lt_trichotomy p.1 q.1 with h3|h3|h3
   .rw[h p.1,hb.below h3]at h1
    exact absurd h1.symm n1
   .exact h3
   .rw[←h q.1,ha.below h3]at h2
    exact absurd h2.symm n2
  have e2:p.2=q.2:=by rw[←h1,←h2,h p.1,e]
  have ep:p=q:=Prod.ext e e2;rw[ep,Pln.ext ha.tail hb.tail λv=>by
   have:=h v;rw[AQ,AQ,ep]at this;omega]
def Fu(v c:Int):List (Int × Int)->List (Int × Int)
 |[]=>if c=0 then [] else [(v,c)]
 |p::r=>if v<p.1 then(if c=0 then p::r else(v,c)::p::r) else if p.1<v then p::Fu v c r else if p.2+c=0 then r else(v,p.2+c)::r
theorem KD(v c u:Int):∀ l:List (Int × Int),AQ u (Fu v c l)=(if v=u then c else 0)+AQ u l
 |[]=>by
  unfold Fu;split
  .rename_i h;simp[AQ,h]
  .simp[AQ]
 |p::r=>by
  have ih:=KD v c u r;unfold Fu;split
  .split
   .rename_i h;rw[h];simp
   .rfl
  .split
   .rw[AQ,ih,AQ];omega
   .have e:p.1=v:=by omega
    split
    .rename_i h
     rw[AQ,e];split<;>omega
    .rw[AQ,AQ,e]
     split<;>omega
theorem Sk{v c:Int}:∀{l:List (Int × Int)} {q:Int × Int},q∈Fu v c l->q.1=v\/q∈l
 |[],q,h=>by
  unfold Fu at h;split at h
  .exact .inr h
  .rw[Aq1.1 h];exact .inl rfl
 |p::r,q,h=>by
  unfold Fu at h;split at h
  .split at h
   .exact .inr h
   .rcases ι.1 h with h|h
    .rw[h];exact .inl rfl
    .exact .inr h
  .split at h
   .rcases ι.1 h with h|h
    .rw[h];exact .inr (Aqs ..)
    .rcases Sk h with h|h
     .exact .inl h
     .exact .inr (Aql _ h)
   .split at h
    .exact .inr (Aql _ h)
    .rcases ι.1 h with h|h
     .rw[h];exact .inl rfl
     .exact .inr (Aql _ h)
theorem Sl{v c:Int}(hv:0<=v):∀{l:List (Int × Int)},Pln l->Pln (Fu v c l)
 |[],_=>by
  unfold Fu;split
  .exact VI
  .rename_i h
   exact⟨AsU _ _,by simpa using hv,by simpa using h⟩
 |p::r,h=>by
  have ih:=Sl (c:=c) hv h.tail;have hp:=AqY.1 h.asc;unfold Fu;split
  .rename_i h1
   split
   .exact h
   .rename_i h2
    refine⟨AqY.2 ⟨λq hq=>?_,h.asc⟩,λq hq=>?_,λq hq=>?_⟩
    .rcases ι.1 hq with rfl|hq
     .exact h1
     .have:=hp.1 q hq;simp only;omega
    .rcases ι.1 hq with rfl|hq
     .exact hv
     .exact h.pos q hq
    .rcases ι.1 hq with rfl|hq
     .exact h2
     .exact h.nz q hq
  .split
   .rename_i h1 h2
    refine⟨AqY.2 ⟨λq hq=>?_,ih.asc⟩,λq hq=>?_,λq hq=>?_⟩
    .rcases Sk hq with e|hq
     .rw[e];exact h2
     .exact hp.1 q hq
    .rcases ι.1 hq with rfl|hq
     .exact h.pos _ (Aqs ..)
     .exact ih.pos q hq
    .rcases ι.1 hq with rfl|hq
     .exact h.nz _ (Aqs ..)
     .exact ih.nz q hq
   .rename_i h1 h2
    split
    .exact h.tail
    .rename_i h3
     refine⟨AqY.2 ⟨λq hq=>?_,hp.2⟩,λq hq=>?_,λq hq=>?_⟩
     .have:=hp.1 q hq;simp only;omega
     .rcases ι.1 hq with rfl|hq
      .exact hv
      .exact h.tail.pos q hq
     .rcases ι.1 hq with rfl|hq
      .exact h3
      .exact h.tail.nz q hq
def B3:List (Int × Int)->List (Int × Int)
 |[]=>[]
 |p::r=>if 0<=p.1 then Fu p.1 p.2 (B3 r) else B3 r
theorem CU:∀ l:List (Int × Int),Pln (B3 l)
 |[]=>VI
 |p::r=>by
  unfold B3;split
  .rename_i h;exact Sl h (CU r)
  .exact CU r
theorem I5(v:Int):∀ l:List (Int × Int),AQ v (B3 l)=if 0<=v then AQ v l else 0
 |[]=>by simp[B3,AQ]
 |p::r=>by
  have ih:=I5 v r;unfold B3
  by_cases h:0<=p.1
  .by_cases hv:0<=v
   .rw[if_pos h,KD,ih,AQ,if_pos hv,if_pos hv]
   .rw[if_pos h,KD,ih,if_neg hv,if_neg hv,if_neg (by omega)]
    rfl
  .by_cases hv:0<=v
   .rw[if_neg h,ih,AQ,if_pos hv,if_pos hv,if_neg (show ¬ p.1=v by omega)]
    omega
   .rw[if_neg h,ih,if_neg hv,if_neg hv]
theorem NF{l r:List (Int × Int)}(h:Pln r)(hc:∀ v,0<=v->AQ v r=AQ v l):r=B3 l:=by
 refine Pln.ext h (CU l) λv=>?_
 rw[I5]
 by_cases hv:0<=v
 .rw[if_pos hv,hc v hv]
 .rw[if_neg hv]
  refine Et λp hp e=>?_
  have:=h.pos p hp;omega
theorem Ux{l:List (Int × Int)}(h:Pln l):B3 l=l:=(NF h λ_ _=>rfl).symm
theorem Pj:∀ l:List (Int × Int),(B3 l).length<=l.length
 |[]=>ω _
 |p::r=>by
  have ih:=Pj r;have ins:∀ l:List (Int × Int),(Fu p.1 p.2 l).length<=l.length+1:=λl=>by
   induction l with
   |nil=>unfold Fu;split<;>simp
   |cons q s ih=>
    unfold Fu;split
    .split<;>simp
    .split
     .simpa using ih
     .split
      .simp;omega
      .simp
  unfold B3;split
  .have:=ins (B3 r)
   rw[ε];omega
  .rw[ε]
   omega
structure Tm where
 ps:List Pt
 k:Zi
def eT(t:Tm):List AV:=[.ls (t.ps.map eP),bv t.k.neg,eN t.k.abs]
structure Lf where
 ps:List (Int × Int)
 k:Int
def pv(p:Pt):Int × Int:=(p.v,zv p.z)
def BR(p:Int × Int):Pt:=⟨p.1,A1 p.2⟩
def Tm.lf(t:Tm):Lf:=⟨t.ps.map pv,zv t.k⟩
def Lf.tm(l:Lf):Tm:=⟨l.ps.map BR,A1 l.k⟩
def Lf.pln(l:Lf):Lf:=⟨B3 l.ps,l.k⟩
theorem Agh(p:Int × Int):pv (BR p)=p:=by
 unfold pv BR;rw[Cb]
theorem LO(l:Lf):l.tm.lf=l:=by
 obtain⟨ps,k⟩:=l;unfold Lf.tm Tm.lf;simp only[List.map_map,Cb];rw[show (pv ∘ BR)=id from funext Agh,List.map_id]
theorem Aga(l:Lf):l.pln.pln=l.pln:=by
 unfold Lf.pln;rw[Ux (CU _)]
structure TmB (n k:Nat) (t:Tm):Prop where
 len:t.ps.length<=n
 ps:∀ p∈t.ps,Lz k p.z
 k:Lz k t.k
structure LB (n k:Nat) (l:Lf):Prop where
 len:l.ps.length<=n
 ps:∀ p∈l.ps,InB k p.2
 k:InB k l.k
theorem TmB.lb{n k:Nat}{t:Tm}(h:TmB n k t):LB n k t.lf:=by
 refine⟨by simpa[Tm.lf]using h.len,λp hp=>?_,h.k.inb⟩;simp only[Tm.lf,Aq6]at hp;obtain⟨q,hq,rfl⟩:=hp;exact(h.ps q hq).inb
theorem LB.tb{n k:Nat}{l:Lf}(h:LB n k l):TmB n k l.tm:=by
 refine⟨by simpa[Lf.tm]using h.len,λp hp=>?_,h.k.lz⟩;simp only[Lf.tm,Aq6]at hp;obtain⟨q,hq,rfl⟩:=hp;exact(h.ps q hq).lz
theorem LB.mono{n k m j:Nat}{l:Lf}(h:LB n k l)(hn:n<=m)(hk:k<=j):LB m j l:=⟨by have:=h.len;omega,λp hp=>(h.ps p hp).mono hk,h.k.mono hk⟩
theorem TmB.mono{n k m j:Nat}{t:Tm}(h:TmB n k t)(hn:n<=m)(hk:k<=j):TmB m j t:=⟨by have:=h.len;omega,λp hp=>(h.ps p hp).mono hk,h.k.mono hk⟩
theorem HK{k:Nat}(v:Int):∀ l:List (Int × Int),(∀ p∈l,InB k p.2)->InB (k+l.length) (AQ v l)
 |[],_=>InB.zero _
 |p::r,h=>by
  have h1:=HK v r λq hq=>h q (Aql _ hq)
  have h2:=h p (Aqs ..);rw[AQ,ε,←Nat.add_assoc];refine InB.add ?_ h1;split
  .exact h2.mono (by omega)
  .exact InB.zero _
theorem Pln.mem:∀{l:List (Int × Int)},Pln l->∀ p∈l,AQ p.1 l=p.2
 |q::r,h,p,hp=>by
  rcases ι.1 hp with rfl|hp
  .exact h.head
  .rw[AQ,if_neg (by have:=(AqY.1 h.asc).1 p hp;omega),h.tail.mem p hp]
   omega
theorem LB.pln{n k:Nat}{l:Lf}(h:LB n k l):LB n (k+n) l.pln:=by
 have hl:=Pj l.ps;refine⟨by have:=h.len;simp only[Lf.pln];omega,λp hp=>?_,h.k.mono (by omega)⟩;have h1:=(CU l.ps).mem p hp;rw[I5,if_pos ((CU l.ps).pos p hp)]at h1;rw[←h1];exact(HK p.1 l.ps h.ps).mono (by have:=h.len;omega)
def Lf.add(a b:Lf):Lf:=Lf.pln ⟨a.ps++b.ps,a.k+b.k⟩
def Lf.scale(a:Lf)(n:Int):Lf:=Lf.pln ⟨a.ps.map λp=>(p.1,p.2*n),a.k*n⟩
def Lf.sub(a b:Lf):Lf:=a.add (b.scale (-1))
def Lf.num(k:Int):Lf:=⟨[],k⟩
theorem LB.app{n k m j:Nat}{a b:Lf}(ha:LB n k a)(hb:LB m j b):LB (n+m) (k+j+1) ⟨a.ps++b.ps,a.k+b.k⟩:=by
 refine⟨by have:=ha.len;have:=hb.len;simp only[χ];omega,λp hp=>?_,InB.add (ha.k.mono (by omega)) (hb.k.mono (by omega))⟩;rcases List.mem_append.1 hp with h|h
 .exact(ha.ps p h).mono (by omega)
 .exact(hb.ps p h).mono (by omega)
theorem LB.mul{n k j:Nat}{a:Lf}{x:Int}(ha:LB n k a)(hx:InB j x):LB n (k+j) ⟨a.ps.map λp=>(p.1,p.2*x),a.k*x⟩:=by
 refine⟨by simpa using ha.len,λp hp=>?_,InB.mul ha.k hx⟩;simp only[Aq6]at hp;obtain⟨q,hq,rfl⟩:=hp;exact InB.mul (ha.ps q hq) hx
theorem LB.add{n k m j:Nat}{a b:Lf}(ha:LB n k a)(hb:LB m j b):LB (n+m) (k+j+1+(n+m)) (a.add b):=(ha.app hb).pln
theorem LB.scale{n k j:Nat}{a:Lf}{x:Int}(ha:LB n k a)(hx:InB j x):LB n (k+j+n) (a.scale x):=(ha.mul hx).pln
def Cl(f:Int->Int):List (Int × Int)->Int
 |[]=>0
 |p::r=>p.2*f p.1+Cl f r
def Lf.val(f:Int->Int)(l:Lf):Int:=Cl f l.ps+l.k
theorem SZ(f:Int->Int):∀ a b,Cl f (a++b)=Cl f a+Cl f b
 |[],b=>by simp[Cl]
 |p::r,b=>by rw[List.cons_append,Cl,Cl,SZ f r b];omega
theorem NY(f:Int->Int)(n:Int):∀ a:List (Int × Int),Cl f (a.map λp=>(p.1,p.2*n))=Cl f a*n
 |[]=>by simp[Cl]
 |p::r=>by
  rw[AqF,Cl,Cl,NY f n r,AsX,AtB,AtB,Int.mul_comm n]
theorem Pv(f:Int->Int)(v c:Int):∀ l,Cl f (Fu v c l)=c*f v+Cl f l
 |[]=>by
  unfold Fu;split
  .rename_i h;simp[Cl,h]
  .simp[Cl]
 |p::r=>by
  have ih:=Pv f v c r;unfold Fu;split
  .split
   .rename_i h;rw[h];simp
   .rfl
  .split
   .rw[Cl,ih,Cl];omega
   .have e:p.1=v:=by omega
    split
    .rename_i h
     rw[Cl,e,←Int.add_assoc,←AsX,Int.add_comm c,h];simp
    .show (p.2+c)*f v+Cl f r=c*f v+(p.2*f p.1+Cl f r)
     rw[e,AsX];omega
theorem NX{f:Int->Int}(hf:∀ v,v<0->f v=0):∀ l,Cl f (B3 l)=Cl f l
 |[]=>rfl
 |p::r=>by
  have ih:=NX hf r;unfold B3;split
  .rw[Pv,ih,Cl]
  .rename_i h
   rw[ih,Cl,hf p.1 (by omega)];simp
theorem Ij{f:Int->Int}(hf:∀ v,v<0->f v=0)(l:Lf):l.pln.val f=l.val f:=by
 unfold Lf.pln Lf.val;rw[NX hf]
theorem AgQ{f:Int->Int}(hf:∀ v,v<0->f v=0)(a b:Lf):(a.add b).val f=a.val f+b.val f:=by
 unfold Lf.add;rw[Ij hf];unfold Lf.val;simp only[SZ];omega
theorem X0{f:Int->Int}(hf:∀ v,v<0->f v=0)(a:Lf)(n:Int):(a.scale n).val f=a.val f*n:=by
 unfold Lf.scale;rw[Ij hf];unfold Lf.val;simp only[NY,AsX]
def Cm(vals:List Int)(v:Int):Int:=if v<0 then 0 else vals.getD v.toNat 0
theorem Ht(vals:List Int)(v:Int)(h:v<0):Cm vals v=0:=if_pos h
def Fb:List (Int × Int)->Int × Int->List (Int × Int)
 |[],p=>if p.1<0 then [] else [p]
 |q::r,p=>if p.1<0 then q::r else if q.1=p.1 then(q.1,q.2+p.2)::r else p::q::r
theorem Fr(p:Int × Int):Fb [] p=if p.1<0 then [] else [p]:=rfl
theorem El(q:Int × Int)(r:List (Int × Int))(p:Int × Int):Fb (q::r) p=if p.1<0 then q::r else if q.1=p.1 then(q.1,q.2+p.2)::r else p::q::r:=rfl
structure GrpI (s t:List (Int × Int)):Prop where
 desc:s.Pairwise λa b=>b.1<a.1
 pos:∀ q∈s,0<=q.1
 up:∀ q∈s,∀ p∈t,0<=p.1->q.1<=p.1
theorem WG(v:Int)(hv:0<=v):∀(s:List (Int × Int)) (p:Int × Int),AQ v (Fb s p)=AQ v s+(if p.1=v then p.2 else 0)
 |[],p=>by
  rw[Fr];split
  .rw[if_neg (by omega)];simp[AQ]
  .simp[AQ]
 |q::r,p=>by
  rw[El];split
  .rw[if_neg (by omega)];omega
  .split
   .rename_i h
    rw[AQ,AQ];simp only[h];split<;>omega
   .rw[AQ]
    omega
theorem Zu{s t:List (Int × Int)}{p:Int × Int}(h:GrpI s (p::t))(ht:∀ x∈t,p.1<=x.1):GrpI (Fb s p) t:=by
 have ut:∀ q∈s,∀ x∈t,0<=x.1->q.1<=x.1:=λq hq x hx=>h.up q hq x (Aql _ hx)
 cases s with
 |nil=>
  rw[Fr];split
  .exact⟨.nil,by simp,by simp⟩
  .exact⟨AsU _ _,by simp;omega,λq hq x hx _=>by rw[Aq1.1 hq];exact ht x hx⟩
 |cons q r=>
  have hd:=AqY.1 h.desc;rw[El];split
  .exact⟨h.desc,h.pos,ut⟩
  .rename_i hp
   split
   .refine⟨AqY.2 ⟨λx hx=>hd.1 x hx,hd.2⟩,λx hx=>?_,λx hx y hy hy0=>?_⟩
    .rcases ι.1 hx with rfl|hx
     .exact h.pos q (Aqs ..)
     .exact h.pos x (Aql _ hx)
    .rcases ι.1 hx with rfl|hx
     .exact ut q (Aqs ..) y hy hy0
     .exact ut x (Aql _ hx) y hy hy0
   .rename_i hne
    have hq:=h.up q (Aqs ..) p (Aqs ..) (by omega);refine⟨AqY.2 ⟨λx hx=>?_,h.desc⟩,λx hx=>?_,λx hx y hy hy0=>?_⟩
    .rcases ι.1 hx with rfl|hx
     .omega
     .have:=hd.1 x hx;omega
    .rcases ι.1 hx with rfl|hx
     .omega
     .exact h.pos x hx
    .rcases ι.1 hx with rfl|hx
     .exact ht y hy
     .exact ut x hx y hy hy0
theorem Vc:∀(t s:List (Int × Int)),t.Pairwise (λa b=>a.1<=b.1)->GrpI s t->GrpI (t.foldl Fb s) []/\∀ v,0<=v->AQ v (t.foldl Fb s)=AQ v s+AQ v t
 |[],s,_,h=>⟨h,λv _=>by simp[AQ]⟩
 |p::t,s,ht,h=>by
  have hp:=AqY.1 ht;obtain⟨g1,g2⟩:=Vc t (Fb s p) hp.2 (Zu h hp.1);refine⟨g1,λv hv=>?_⟩;rw[List.foldl_cons,g2 v hv,WG v hv,AQ];omega
theorem Ru(v:Int):∀ l:List (Int × Int),AQ v (l.filter λp=>!decide (p.2=0))=AQ v l
 |[]=>rfl
 |p::r=>by
  have ih:=Ru v r
  by_cases h:p.2=0
  .rw[List.filter_cons_of_neg (by simp[h]),ih,AQ,h]
   simp
  .rw[List.filter_cons_of_pos (by simp[h]),AQ,AQ,ih]
theorem Acq{t l:List (Int × Int)}(ht:t.Pairwise λa b=>a.1<=b.1)(hp:t.Perm l):((t.foldl Fb []).reverse).filter (λp=>!decide (p.2=0))=B3 l:=by
 obtain⟨g1,g2⟩:=Vc t [] ht ⟨.nil,by simp,by simp⟩;refine NF ⟨?_,λp h=>?_,λp h=>?_⟩ λv hv=>?_
 .refine List.Pairwise.filter _ ?_
  rw[List.pairwise_reverse];exact g1.desc
 .have:=(Ary.1 h).1
  exact g1.pos p (List.mem_reverse.1 this)
 .simpa using (Ary.1 h).2
 .rw[Ru,MP (List.reverse_perm _),g2 v hv,MP hp]
  simp[AQ]
theorem RS{k:Nat}{s:List (Int × Int)}{p:Int × Int}(hs:∀ q∈s,InB k q.2)(hp:InB k p.2):∀ q∈Fb s p,InB (k+1) q.2:=by
 cases s with
 |nil=>
  rw[Fr];split
  .simp
  .intro q hq
   rw[Aq1.1 hq];exact hp.mono (by omega)
 |cons q r=>
  rw[El];have hq:=hs q (Aqs ..);have hr:∀ x∈r,InB (k+1) x.2:=λx hx=>(hs x (Aql _ hx)).mono (by omega)
  split
  .intro x hx
   rcases ι.1 hx with rfl|hx
   .exact hq.mono (by omega)
   .exact hr x hx
  .split
   .intro x hx
    rcases ι.1 hx with rfl|hx
    .exact InB.add hq hp
    .exact hr x hx
   .intro x hx
    rcases ι.1 hx with rfl|hx
    .exact hp.mono (by omega)
    .rcases ι.1 hx with rfl|hx
     .exact hq.mono (by omega)
     .exact hr x hx
theorem RU(s:List (Int × Int))(p:Int × Int):(Fb s p).length<=s.length+1:=by
 cases s with
 |nil=>rw[Fr];split<;>simp
 |cons q r=>
  rw[El];split
  .simp
  .split<;>simp
section
open Go.RowKit
def Vw:MFn:=Au [⟨21,(mB 9),[],[],[(1,((mB 9),([],[])))]⟩] 200
def R9:Hnt:=⟨[],[(0,[(1,([.ls,.int .i64],[]))])],[(12,[.int .u32]),(13,[.int .u32])]⟩
def Ais:MFn:=Au [] 202
def AhR:Hnt:=⟨[(200,(.ls,[])),(236,(.sl 0 1,[.row U]))],[],[]⟩
def Ain:MFn:=Au [] 184
def AhM:Hnt:=⟨[(202,(.ls,[]))],[],[]⟩
def Vx:MFn:=Au [⟨49,(mB 35),[],[],[(0,((mB 16),([],[]))),(2,([],([],[])))]⟩] 201
def Sa:Hnt:=⟨[(200,(.ls,[]))],[(0,[(0,([.int .i64],[])),(2,([],[]))])],[(32,[.int .u32]),(33,[.int .u32]),(36,[.int .u32]),(37,[.int .u32]),(42,[.int .u32]),(43,[.int .u32]),(46,[.int .u32]),(47,[.int .u32])]⟩
def Vt:MFn:=Au [⟨61,(mB 234881122),[(5,1)],[],[(1,((mB 96),([],[])))]⟩] 197
def R7:Hnt:=⟨[(200,(.ls,[])),(202,(.ls,[]))],[(0,[(1,([.sl 1 1,.int .u64],[.del,.row U]))])],[(30,[.int .u32]),(31,[.int .u32]),(43,[.int .u32]),(44,[.int .u32])]⟩
def Vu:MFn:=Au [⟨59,(mB 58720450),[(6,1)],[],[(1,((mB 64),([],[])))]⟩] 198
def R8:Hnt:=⟨[(200,(.ls,[])),(201,(.int .i64,[])),(202,(.ls,[]))],[(0,[(1,([.sl 1 1],[.del,.row U]))])],[(28,[.int .u32]),(29,[.int .u32]),(38,[.int .u32]),(39,[.int .u32])]⟩
def Pa:MFn:=Au [⟨68,(mB 1835042),[],[],[(1,((mB 32),([],[])))]⟩,⟨68,(mB 236716514),[],[],[(3,((mB 1835362),([],[])))]⟩] 243
def Lu:Hnt:=⟨[(202,(.ls,[]))],[(0,[(1,([.sl 1 1],[.del,.row U]))]),(1,[(3,([.ls,.sl 1 1,.int .i64,.int .u64,.ls,.int .i64,.int .i64],[.del,.row U]))])],[(23,[.int .u32]),(24,[.int .u32]),(30,[.int .u32]),(31,[.int .u32]),(41,[.int .u32]),(42,[.int .u32]),(53,[.int .u32]),(64,[.int .u32])]⟩
def Ait:MFn:=Au [] 212
def AhS:Hnt:=⟨[(200,(.ls,[])),(243,(.ls,[])),(244,(.ls,[]))],[],[]⟩
def Py:List (Nat × MFn):=[(200,Vw),(202,Ais),(184,Ain),(201,Vx),(197,Vt),(198,Vu),(243,Pa),(212,Ait)]
variable (A:Ar) (D:Orc)
theorem Aof(x0:Rw):BZ A D Al R9 .n 200 Vw [Φ x0] [] =
 Ad D (Aqn 200 0) [Φ x0,iv ↑(AP x0)] [] [.t,.C,.x,.X,.Y] λc l o=>
 br (Bf 1 c)
 (dk [.L,.I,.N,.E] [.l l,.o o] λxs n=>
 unI n λi=>
 br (Nm 0 i (AP xs)) (br (E4 1 xs) (Δ ((Φ (GR (Hq xs i) 0),[]))) Θ) Θ)
 (Θ):=by kernel_rfl
theorem YX(t0:Rw)(t3:Int):Dl A D Al R9 .n 200 0 (AL Vw 0).fst (AL Vw 0).snd [Φ t0,iv t3] [] =
 br (A.lt 0 t3)
 (unI (A.sub δ t3 1) λi=>
 Bh t0 i λcs=>
 dk [.J .u32,.N] [.l cs] λn=>
 br (A.eq n 0)
 (AG D (Aqn 200 0) [Φ t0,iv (A.sub δ t3 1)] [] λr o=>
 AF 0 [] (AH.mk [] 0 Θ) [] r o)
 (Δ ((Aqm [iv 0,Φ t0,iv t3],[]))))
 (Δ ((Aqm [iv 0,Φ t0,iv t3],[]))):=by kernel_rfl
theorem Aoh(x0:Rw):BZ A D Al AhR .n 202 Ais [Φ x0] [] =
 Ad D (φ 200) [Φ x0] [] [.l,.E] λxs=>
 Ad D (φ 236) [Φ xs] [] [.q 0 1,.R,.X,.E] λn cs=>
 br ((0+n*1).ble cs.length) (Δ ((Φ (Bl n 1 (Aqj (n*1) cs)),[]))) Θ:=by kernel_rfl
theorem An5(x0:Int):BZ A D Al AhM .n 184 Ain [AqC (Value.int ξ x0)] [] =
 br (A.lt 32 0)
 (Θ)
 (Ad D (φ 202) [Φ [[AqC (Value.int γ (A.conv γ x0))],[AqC (Value.int γ (A.conv γ (A.shr ξ x0 32)))]]] [] [.l,.E] λxs=>
 Δ ((Φ xs,[]))):=by kernel_rfl
theorem Aog(x0 x1:Rw):BZ A D Al Sa .n 201 Vx [Φ x0,Φ x1] [] =
 Ad D (φ 200) [Φ x0] [] [.l,.E] λxs=>
 Ad D (φ 200) [Φ x1] [] [.l,.E] λxs1=>
 br (A.lt ↑(AP xs) ↑(AP xs1))
 (Δ ((iv (-1),[])))
 (br (A.lt ↑(AP xs1) ↑(AP xs))
 (Δ ((iv 1,[])))
 (Ad D (Aqn 201 0) [Φ xs,Φ xs1,iv (A.sub δ (↑(AP xs)) 1)] [] [.t,.C,.x,.X,.Y] λc l o2=>
 br (Bf 0 c)
 (dk [.I,.N,.E] [.l l,.o o2] λn=>
 Δ ((iv n,[])))
 (br (Bf 2 c)
 (Ea l<|
 CD o2<|
 Δ ((iv 0,[])))
 (Θ)))):=by kernel_rfl
theorem YY(t0 t1:Rw)(t5:Int):Dl A D Al Sa .n 201 0 (AL Vx 0).fst (AL Vx 0).snd [Φ t0,Φ t1,iv t5] [] =
 br (A.le 0 t5)
 (unI t5 λi=>
 Bh t0 i λcs=>
 dk [.J .u32,.N] [.l cs] λn=>
 unI t5 λi1=>
 Bh t1 i1 λcs1=>
 dk [.J .u32,.N] [.l cs1] λn1=>
 br (A.lt n n1)
 (Δ ((Aqm [bv U,iv (-1)],[])))
 (unI t5 λi2=>
 Bh t0 i2 λcs2=>
 dk [.J .u32,.N] [.l cs2] λn2=>
 unI t5 λi3=>
 Bh t1 i3 λcs3=>
 dk [.J .u32,.N] [.l cs3] λn3=>
 br (A.lt n3 n2)
 (Δ ((Aqm [bv U,iv 1],[])))
 (AG D (Aqn 201 0) [Φ t0,Φ t1,iv (A.sub δ t5 1)] [] λr o=>
 AF 0 [] (AH.mk [] 0 Θ) [] r o)))
 (Δ ((Aqm [iv 1],[]))):=by kernel_rfl
theorem Aoc(x0 x1:Rw):BZ A D Al R7 .n 197 Vt [Φ x0,Φ x1] [] =
 Ad D (φ 200) [Φ x0] [] [.l,.E] λxs=>
 Ad D (φ 200) [Φ x1] [] [.l,.E] λxs1=>
 br (A.lt ↑(AP xs) ↑(AP xs1))
 (unI (A.add δ (↑(AP xs1)) 1) λi=>
 br (Bc i 4) (AG D (Aqn 197 0) [Φ xs,κ 0 0 0 1,AqC (Value.int ξ 0),Φ xs1,iv ↑(AP xs1),iv 0] [Ω [] U U] λr2 o2=>
 dk [.t,.C,.x,.X] [.v r2] λc l=>
 br (Bf 1 c)
 (dk [.C,.q 1 1,.J .u64,.N,.D,.R,.X,.E] [.l l,.o o2] λn n1 cs1=>
 br (Bc (n+1) 4) (br ((0+n*1).ble cs1.length) (br ((0+(n+1)*1).ble (Aqp 0 (Aqj (0+n*1) cs1)++[AqC (Value.int γ (A.conv γ n1))]).length) (AG D (φ 202) [Φ (Bl (n+1) 1 (Aqj ((n+1)*1) (Aqp 0 (Aqp 0 (Aqj (0+n*1) cs1)++[AqC (Value.int γ (A.conv γ n1))]))))] [] λr3 o3=>
 dk [.l,.E] [.v r3,.o o3] λxs2=>
 Δ ((Φ xs2,[]))) Θ) Θ) Θ)
 (Θ)) Θ)
 (unI (A.add δ (↑(AP xs)) 1) λi=>
 br (Bc i 4) (AG D (Aqn 197 0) [Φ xs1,κ 0 0 0 1,AqC (Value.int ξ 0),Φ xs,iv ↑(AP xs),iv 0] [Ω [] U U] λr2 o2=>
 dk [.t,.C,.x,.X] [.v r2] λc l=>
 br (Bf 1 c)
 (dk [.C,.q 1 1,.J .u64,.N,.D,.R,.X,.E] [.l l,.o o2] λn n1 cs1=>
 br (Bc (n+1) 4) (br ((0+n*1).ble cs1.length) (br ((0+(n+1)*1).ble (Aqp 0 (Aqj (0+n*1) cs1)++[AqC (Value.int γ (A.conv γ n1))]).length) (AG D (φ 202) [Φ (Bl (n+1) 1 (Aqj ((n+1)*1) (Aqp 0 (Aqp 0 (Aqj (0+n*1) cs1)++[AqC (Value.int γ (A.conv γ n1))]))))] [] λr3 o3=>
 dk [.l,.E] [.v r3,.o o3] λxs2=>
 Δ ((Φ xs2,[]))) Θ) Θ) Θ)
 (Θ)) Θ):=by kernel_rfl
theorem YV(t1:Rw)(n5:Nat)(c5:List AV)(t6:Int)(t25:Rw)(t26 t27:Int):Dl A D Al R7 .n 197 0 (AL Vt 0).fst (AL Vt 0).snd [Φ t1,κ 0 0 n5 1,AqC (Value.int ξ t6),Φ t25,iv t26,iv t27] [{ cells:=c5,st:=U,ex:=U }] =
 br (A.lt t27 t26)
 (unI t27 λi=>
 Bh t25 i λcs=>
 dk [.J .u32,.N] [.l cs] λn=>
 br (A.lt t27 ↑(AP t1))
 (unI t27 λi1=>
 Bh t1 i1 λcs1=>
 dk [.J .u32,.N] [.l cs1] λn1=>
 br (Bc (n5+1) 4) (br ((0+n5*1).ble c5.length) (br (A.lt 32 0)
 (Θ)
 (AG D (Aqn 197 0) [Φ t1,κ 0 0 (n5+1) 1,AqC (Value.int ξ (A.shr ξ (A.add ξ (A.add ξ (A.conv ξ n) t6) (A.conv ξ n1)) 32)),Φ t25,iv t26,iv (A.add δ t27 1)] [Ω (Aqp 0 (Aqj (0+n5*1) c5)++[AqC (Value.int γ (A.conv γ (A.add ξ (A.add ξ (A.conv ξ n) t6) (A.conv ξ n1))))]) U U] λr o=>
 AF 1 [2] (AH.mk [(2,Ω (Aqp 0 (Aqj (0+n5*1) c5)++[AqC (Value.int γ (A.conv γ (A.add ξ (A.add ξ (A.conv ξ n) t6) (A.conv ξ n1))))]) U U),(1,Ω [AqC (Value.int γ (A.conv γ (A.add ξ (A.add ξ (A.conv ξ n) t6) (A.conv ξ n1))))] U U)] 3 Θ) [0] r o)) Θ) Θ)
 (br (Bc (n5+1) 4) (br ((0+n5*1).ble c5.length) (br (A.lt 32 0)
 (Θ)
 (AG D (Aqn 197 0) [Φ t1,κ 0 0 (n5+1) 1,AqC (Value.int ξ (A.shr ξ (A.add ξ (A.conv ξ n) t6) 32)),Φ t25,iv t26,iv (A.add δ t27 1)] [Ω (Aqp 0 (Aqj (0+n5*1) c5)++[AqC (Value.int γ (A.conv γ (A.add ξ (A.conv ξ n) t6)))]) U U] λr o=>
 AF 1 [2] (AH.mk [(2,Ω (Aqp 0 (Aqj (0+n5*1) c5)++[AqC (Value.int γ (A.conv γ (A.add ξ (A.conv ξ n) t6)))]) U U),(1,Ω [AqC (Value.int γ (A.conv γ (A.add ξ (A.conv ξ n) t6)))] U U)] 3 Θ) [0] r o)) Θ) Θ))
 (Δ ((Aqm [iv 0,κ 1 0 n5 1,AqC (Value.int ξ t6)],[BO.del,Aqu (Ω c5 U U)]))):=by kernel_rfl
theorem Aod(x0 x1:Rw):BZ A D Al R8 .n 198 Vu [Φ x0,Φ x1] [] =
 Ad D (φ 200) [Φ x0] [] [.l,.E] λxs=>
 Ad D (φ 200) [Φ x1] [] [.l,.E] λxs1=>
 Ad D (φ 201) [Φ xs,Φ xs1] [] [.i,.E] λn=>
 br (A.lt n 0)
 (Δ ((Aqm [Φ [],bv Ξ],[])))
 (br (Bc (AP xs) 4) (AG D (Aqn 198 0) [Φ xs1,κ 0 0 0 1,AqC (Value.int ξ 0),Φ xs,iv ↑(AP xs),iv 0] [Ω [] U U] λr3 o3=>
 dk [.t,.C,.x,.X] [.v r3] λc l=>
 br (Bf 1 c)
 (dk [.C,.q 1 1,.N,.D,.R,.X,.E] [.l l,.o o3] λn1 cs1=>
 br ((0+n1*1).ble cs1.length) (AG D (φ 202) [Φ (Bl n1 1 (Aqj (n1*1) cs1))] [] λr4 o4=>
 K9 r4 λxs2=>
 CD o4<|
 Δ ((Aqm [Φ xs2,bv U],[]))) Θ)
 (Θ)) Θ):=by kernel_rfl
theorem YW(t1:Rw)(n6:Nat)(c6:List AV)(t7:Int)(t23:Rw)(t24 t25:Int):Dl A D Al R8 .n 198 0 (AL Vu 0).fst (AL Vu 0).snd [Φ t1,κ 0 0 n6 1,AqC (Value.int ξ t7),Φ t23,iv t24,iv t25] [{ cells:=c6,st:=U,ex:=U }] =
 br (A.lt t25 t24)
 (unI t25 λi=>
 Bh t23 i λcs=>
 dk [.J .u32,.N] [.l cs] λn=>
 br (A.lt t25 ↑(AP t1))
 (unI t25 λi1=>
 Bh t1 i1 λcs1=>
 dk [.J .u32,.N] [.l cs1] λn1=>
 br (A.lt (A.conv ξ n) (A.add ξ t7 (A.conv ξ n1)))
 (br (Bc (n6+1) 4) (br ((0+n6*1).ble c6.length) (AG D (Aqn 198 0) [Φ t1,κ 0 0 (n6+1) 1,AqC (Value.int ξ 1),Φ t23,iv t24,iv (A.add δ t25 1)] [Ω (Aqp 0 (Aqj (0+n6*1) c6)++[AqC (Value.int γ (A.conv γ (A.sub ξ (A.add ξ (A.conv ξ n) 4294967296) (A.add ξ t7 (A.conv ξ n1)))))]) U U] λr o=>
 AF 1 [2] (AH.mk [(2,Ω (Aqp 0 (Aqj (0+n6*1) c6)++[AqC (Value.int γ (A.conv γ (A.sub ξ (A.add ξ (A.conv ξ n) 4294967296) (A.add ξ t7 (A.conv ξ n1)))))]) U U),(1,Ω [AqC (Value.int γ (A.conv γ (A.sub ξ (A.add ξ (A.conv ξ n) 4294967296) (A.add ξ t7 (A.conv ξ n1)))))] U U)] 3 Θ) [0] r o) Θ) Θ)
 (br (Bc (n6+1) 4) (br ((0+n6*1).ble c6.length) (AG D (Aqn 198 0) [Φ t1,κ 0 0 (n6+1) 1,AqC (Value.int ξ 0),Φ t23,iv t24,iv (A.add δ t25 1)] [Ω (Aqp 0 (Aqj (0+n6*1) c6)++[AqC (Value.int γ (A.conv γ (A.sub ξ (A.conv ξ n) (A.add ξ t7 (A.conv ξ n1)))))]) U U] λr o=>
 AF 1 [2] (AH.mk [(2,Ω (Aqp 0 (Aqj (0+n6*1) c6)++[AqC (Value.int γ (A.conv γ (A.sub ξ (A.conv ξ n) (A.add ξ t7 (A.conv ξ n1)))))]) U U),(1,Ω [AqC (Value.int γ (A.conv γ (A.sub ξ (A.conv ξ n) (A.add ξ t7 (A.conv ξ n1)))))] U U)] 3 Θ) [0] r o) Θ) Θ))
 (br (A.lt (A.conv ξ n) t7)
 (br (Bc (n6+1) 4) (br ((0+n6*1).ble c6.length) (AG D (Aqn 198 0) [Φ t1,κ 0 0 (n6+1) 1,AqC (Value.int ξ 1),Φ t23,iv t24,iv (A.add δ t25 1)] [Ω (Aqp 0 (Aqj (0+n6*1) c6)++[AqC (Value.int γ (A.conv γ (A.sub ξ (A.add ξ (A.conv ξ n) 4294967296) t7)))]) U U] λr o=>
 AF 1 [2] (AH.mk [(2,Ω (Aqp 0 (Aqj (0+n6*1) c6)++[AqC (Value.int γ (A.conv γ (A.sub ξ (A.add ξ (A.conv ξ n) 4294967296) t7)))]) U U),(1,Ω [AqC (Value.int γ (A.conv γ (A.sub ξ (A.add ξ (A.conv ξ n) 4294967296) t7)))] U U)] 3 Θ) [0] r o) Θ) Θ)
 (br (Bc (n6+1) 4) (br ((0+n6*1).ble c6.length) (AG D (Aqn 198 0) [Φ t1,κ 0 0 (n6+1) 1,AqC (Value.int ξ 0),Φ t23,iv t24,iv (A.add δ t25 1)] [Ω (Aqp 0 (Aqj (0+n6*1) c6)++[AqC (Value.int γ (A.conv γ (A.sub ξ (A.conv ξ n) t7)))]) U U] λr o=>
 AF 1 [2] (AH.mk [(2,Ω (Aqp 0 (Aqj (0+n6*1) c6)++[AqC (Value.int γ (A.conv γ (A.sub ξ (A.conv ξ n) t7)))]) U U),(1,Ω [AqC (Value.int γ (A.conv γ (A.sub ξ (A.conv ξ n) t7)))] U U)] 3 Θ) [0] r o) Θ) Θ)))
 (Δ ((Aqm [iv 0,κ 1 0 n6 1],[BO.del,Aqu (Ω c6 U U)]))):=by kernel_rfl
theorem Aon(x0 x1:Rw):BZ A D Al Lu .n 243 Pa [Φ x0,Φ x1] [] =
 unI (A.add δ ↑(AP x0) ↑(AP x1)) λi=>
 unI (A.add δ ↑(AP x0) ↑(AP x1)) λi1=>
 br (i.ble i1) (br (Bc i1 4) (AG D (Aqn 243 0) [Φ x1,κ 0 0 i 1,Φ x0,iv ↑(AP x0),iv 0] [Ω (BQ [AqC (Value.int γ 0)] (i*1)) U U] λr o=>
 dk [.t,.C,.x,.X] [.v r] λc l=>
 br (Bf 1 c)
 (dk [.C,.q 1 1,.N,.D,.R,.X,.E] [.l l,.o o] λn cs1=>
 br ((0+n*1).ble cs1.length) (AG D (φ 202) [Φ (Bl n 1 (Aqj (n*1) cs1))] [] λr1 o1=>
 K9 r1 λxs=>
 CD o1<|
 Δ ((Φ xs,[]))) Θ)
 (Θ)) Θ) Θ:=by kernel_rfl
theorem Y5(t1:Rw)(n5:Nat)(c5:List AV)(t18:Rw)(t19 t20:Int):Dl A D Al Lu .n 243 0 (AL Pa 0).fst (AL Pa 0).snd [Φ t1,κ 0 0 n5 1,Φ t18,iv t19,iv t20] [{ cells:=c5,st:=U,ex:=U }] =
 br (A.lt t20 t19)
 (unI t20 λi=>
 Bh t18 i λcs=>
 dk [.J .u32,.N] [.l cs] λn=>
 Ad D (Aqn 243 1) [Φ t1,κ 0 0 n5 1,iv t20,AqC (Value.int γ n),AqC (Value.int ξ 0),Φ t18,iv t19,iv t20,Φ t1,iv ↑(AP t1),iv 0] [Ω c5 U U] [.t,.C,.x,.X,.Y] λc l1 o=>
 br (Bf 3 c)
 (dk [.L,.C,.q 1 1,.I,.J .u64,.L,.I,.I,.N,.D,.R,.X,.E] [.l l1,.o o] λxs n1 n2 n3 xs1 n4 n6 cs2=>
 unI (A.add δ n2 ↑(AP xs)) λi1=>
 br (i1.blt n1) (br ((0+i1*1+1).ble cs2.length) (AG D (Aqn 243 0) [Φ xs,κ 0 0 n1 1,Φ xs1,iv n4,iv (A.add δ n6 1)] [Ω (AI cs2 (0+i1*1) [AqC (Value.int γ (A.conv γ n3))]) U U] λr1 o1=>
 AF 1 [1] (AH.mk [(1,Ω (AI cs2 (0+i1*1) [AqC (Value.int γ (A.conv γ n3))]) U U)] 2 Θ) [0] r1 o1) Θ) Θ)
 (Θ))
 (Δ ((Aqm [iv 0,κ 1 0 n5 1],[BO.del,Aqu (Ω c5 U U)]))):=by kernel_rfl
theorem Y6(t1:Rw)(n5:Nat)(c5:List AV)(t6 t7 t8:Int)(t18:Rw)(t19 t20:Int)(t25:Rw)(t26 t27:Int):Dl A D Al Lu .n 243 1 (AL Pa 1).fst (AL Pa 1).snd [Φ t1,κ 0 0 n5 1,iv t6,AqC (Value.int γ t7),AqC (Value.int ξ t8),Φ t18,iv t19,iv t20,Φ t25,iv t26,iv t27] [{ cells:=c5,st:=U,ex:=U }] =
 br (A.lt t27 t26)
 (unI t27 λi=>
 Bh t25 i λcs=>
 dk [.J .u32,.N] [.l cs] λn=>
 unI (A.add δ t6 t27) λi1=>
 br (i1.blt n5) (Io c5 (0+i1*1) 1 λcs1=>
 dk [.J .u32,.N] [.l cs1] λn1=>
 unI (A.add δ t6 t27) λi2=>
 br (i2.blt n5) (br ((0+i2*1+1).ble c5.length) (br (A.lt 32 0)
 (Θ)
 (AG D (Aqn 243 1) [Φ t1,κ 0 0 n5 1,iv t6,AqC (Value.int γ t7),AqC (Value.int ξ (A.shr ξ (A.add ξ (A.add ξ (A.mul ξ (A.conv ξ t7) (A.conv ξ n)) (A.conv ξ n1)) t8) 32)),Φ t18,iv t19,iv t20,Φ t25,iv t26,iv (A.add δ t27 1)] [Ω (AI c5 (0+i2*1) [AqC (Value.int γ (A.conv γ (A.add ξ (A.add ξ (A.mul ξ (A.conv ξ t7) (A.conv ξ n)) (A.conv ξ n1)) t8)))]) U U] λr o=>
 AF 1 [0] (AH.mk [(0,Ω (AI c5 (0+i2*1) [AqC (Value.int γ (A.conv γ (A.add ξ (A.add ξ (A.mul ξ (A.conv ξ t7) (A.conv ξ n)) (A.conv ξ n1)) t8)))]) U U)] 1 Θ) [0] r o)) Θ) Θ) Θ)
 (Δ ((Aqm [iv 2,Φ t1,κ 1 0 n5 1,iv t6,AqC (Value.int ξ t8),Φ t18,iv t19,iv t20],[BO.del,Aqu (Ω c5 U U)]))):=by kernel_rfl
theorem Aoj(x0 x1:Rw):BZ A D Al AhS .n 212 Ait [Φ x0,Φ x1] [] =
 Ad D (φ 200) [Φ x0] [] [.l,.E] λxs=>
 Ad D (φ 200) [Φ x1] [] [.l,.E] λxs1=>
 br (A.lt (↑(AP xs)) 24)
 (Ad D (φ 243) [Φ xs,Φ xs1] [] [.l,.E] λxs2=>
 Δ ((Φ xs2,[])))
 (br (A.lt (↑(AP xs1)) 24)
 (Ad D (φ 243) [Φ xs,Φ xs1] [] [.l,.E] λxs2=>
 Δ ((Φ xs2,[])))
 (Ad D (φ 244) [Φ xs,Φ xs1] [] [.l,.E] λxs2=>
 Δ ((Φ xs2,[])))):=by kernel_rfl
end
theorem FG(x:Nat):Ah.conv .u32 (x:Int)=((x % 4294967296:Nat):Int):=by
 show IntKind.u32.wrap (x:Int)=_
 rw[IntKind.wrap_u32];omega
theorem BK{x:Nat}(h:x<4294967296):Ah.conv .u32 (x:Int)=(x:Int):=by rw[FG,Nat.mod_eq_of_lt h]
theorem Cj{x:Nat}(h:x<18446744073709551616):Ah.conv .u64 (x:Int)=(x:Int):=by
 show IntKind.u64.wrap (x:Int)=_
 rw[IntKind.wrap_u64];omega
theorem CV{x y:Nat}(h:x+y<18446744073709551616):Ah.add .u64 (x:Int) (y:Int)=((x+y:Nat):Int):=by
 show IntKind.u64.wrap ((x:Int)+(y:Int))=_
 rw[IntKind.wrap_u64];omega
theorem Gg{x y:Nat}(h:y<=x)(h2:x<18446744073709551616):Ah.sub .u64 (x:Int) (y:Int)=((x-y:Nat):Int):=by
 show IntKind.u64.wrap ((x:Int)-(y:Int))=_
 rw[IntKind.wrap_u64];omega
theorem VN{x y:Nat}(h:x*y<18446744073709551616):Ah.mul .u64 (x:Int) (y:Int)=((x*y:Nat):Int):=by
 show IntKind.u64.wrap ((x:Int)*(y:Int))=_
 rw[IntKind.wrap_u64,←Int.natCast_mul];omega
theorem Ml(x:Nat):Ah.shr .u64 (x:Int) 32=((x / 4294967296:Nat):Int):=by
 show Int.fdiv (x:Int) (2 ^ 32)=_
 have:(2 ^ 32:Int)=((4294967296:Nat):Int):=by decide
 rw[this,Int.fdiv_eq_ediv_of_nonneg _ (by omega)];rfl
theorem Am4{i j:Nat}(h:j<=i)(h2:i<4611686018427387904):Ah.sub .i64 (i:Int) (j:Int)=((i-j:Nat):Int):=by
 rw[FH (by omega) (by omega)];omega
theorem AiK{i j:Nat}(h2:i+j<4611686018427387904):Ah.add .i64 (i:Int) (j:Int)=((i+j:Nat):Int):=by
 rw[Gy (by omega) (by omega)];omega
theorem Oj(kd:IntKind)(n:Int)(r:List AV)(k:Int->List AV->KR):MG kd (.v (.int kd n)::r) k=k n r:=by simp[MG]
theorem Q8(kd:IntKind)(n:Int)(k:Int->KR):IF kd (.v (.int kd n)) k=k n:=by simp[IF]
theorem Wt(n:Nat)(k:Int->List AV->KR)(r:List AV):MG .u32 (.v (.int .u32 (n:Int))::r) k=k n r:=rfl
theorem V2(l:List Nat):E4 1 (l.map eL)=U:=FR AW l
theorem AkK(l:List Nat):I4 (Il (l.map eL))=U:=by rw[Es];exact JJ (λ_=>rfl) l
theorem Af7(l:List Nat):AA (Il (l.map eL))=U:=by
 rw[Es]
 induction l with
 |nil=>rfl
 |cons x r ih=>exact ih
theorem S2(l:List Nat)(n:Nat):GR (Hq (l.map eL) n) 0=(l.take n).map eL:=by
 rw[Hr,GS,Aqk,AsF]
theorem GK:∀(a b:List Nat) (c:Nat),(J8 c a b).length=a.length+1
 |[],_,_=>rfl
 |x::a,b,c=>by rw[J8,ε,GK a,ε]
theorem MK{a b:Nat}(h:(AK a).length<(AK b).length):a<b:=by
 by_cases h2:a<b
 .exact h2
 .have h3:Ay b=Ay b:=rfl
  have h4:0<(AK b).length:=by omega
  have hb:4294967296 ^ ((AK b).length-1)<=b:=by
   by_cases h5:4294967296 ^ ((AK b).length-1)<=b
   .exact h5
   .have:=B1 (n:=b) (k:=(AK b).length-1) (by omega)
    omega
  have h6:=Sq (n:=a) (k:=(AK b).length-1) (by omega);omega
def Cv(l:List Nat):Prop:=l.length<=1000000000
theorem Gd{l:List Nat}(h:Limbs l)(h2:Cv l):Cv (AK (Ae l)):=by
 unfold Cv at *;rw[Ha l h];have:=DH l;omega
structure CloneF (D:Orc):Prop where
 nat:∀ l:List Nat,Cv l->D.ask (.fn 236) [eN l] []=Δ (.sl 0 0 l.length 1,[.set (Ω (Ao eL l) U U)])
theorem Wo{l:List Nat}(h:Cv l):Dy 1 (BP 1 4) [eN l] []=Δ (.sl 0 0 l.length 1,[.set (Ω (Ao eL l) U U)]):=by
 unfold Dy BP eN;have h4:Aqv (AP (l.map eL)*4) 140737488355328=U:=by
  rw[Ai];unfold Cv at h;simp;omega
 simp only[V2,AkK,Af7,h4,Bool.and_true,if_true,Option.map_some];rw[Ai,Es]
section
variable {D:Orc} (K:Knows Al Py D)
include K
theorem AgN(l:List Nat)(hl:Cv l):∀(n:Nat),n<=l.length->CI l<=n->D.ask (.lp 200 0) [eN l,iv (n:Int)] []=Δ (.tup [iv 0,eN l,iv (CI l:Int)],[]):=by
 intro n;have hl':=hl;unfold Cv at hl'
 induction n with
 |zero=>
  intro _ ht;refine As K R9 (YX ..) ?_;refine Aj ?_;rw[show CI l=0 by omega];rfl
 |succ n ih=>
  intro hn ht;refine As K R9 (YX ..) ?_;refine Ak ?_;rw[show Ah.sub .i64 ((n+1:Nat):Int) 1=(n:Int) from (Am4 (i:=n+1) (j:=1) (by omega) (by omega)).trans (by simp)];rw[Av,At (θ (show n<l.length by omega))];simp only[eL,Wt,ND,DK,Ab]
  by_cases h0:l[n]=0
  .refine Bk ?_ (by rw[h0];rfl)
   refine Aa (ih (by omega) (PC ht (by rw[θ (show n<l.length by omega),h0]))) ?_;rfl
  .refine AC ?_
   have:=Q4 (θ (show n<l.length by omega)) h0;rw[show CI l=n+1 by omega];rfl
theorem Eh{l:List Nat}(hl:Cv l)(h:Limbs l):D.ask (.fn 200) [eN l] []=Δ (eN (AK (Ae l)),[]):=by
 refine Aw K R9 (Aof ..) ?_;rw[Ai];refine Aa (AgN K l hl _ (ω _) (DH l)) ?_;simp only[eN,ND,DK,Ab];rw[Av,Ai,V2,S2,J0 h];rw[show Nm 0 (CI l) l.length=U by unfold Nm;rw[show Aqv 0 (CI l)=U by simp];simpa using DH l];rfl
variable (C:CloneF D)
include C
theorem Hy{l:List Nat}(hl:Cv l)(h:Limbs l):D.ask (.fn 202) [eN l] []=Δ (eN (AK (Ae l)),[]):=by
 refine Aw K AhR (Aoh ..) ?_;refine Aa (Eh K hl h) ?_;simp only[eN,ND,DK,Ab];have g:=C.nat _ (Gd h hl);unfold eN at g;refine Aa g ?_;simp only[ND,DK,Ab];rw[AU AW _ (by omega)];refine Ac ?_;rw[Cg AW _ rfl]
theorem Ag4(n:Nat)(h:n<18446744073709551616):D.ask (.fn 184) [.v (.int .u64 (n:Int))] []=Δ (eN (AK n),[]):=by
 refine Aw K AhM (An5 ..) ?_;refine Aj ?_ (by decide);rw[FG,Ml,FG];have hl:Limbs [n % 4294967296,n / 4294967296 % 4294967296]:=Bx (Ar1 _ (by omega)) (Bx (Ar1 _ (by omega)) Cr);have g:=Hy K C (l:=[n % 4294967296,n / 4294967296 % 4294967296]) (by unfold Cv;simp) hl;rw[show Ae [n % 4294967296,n / 4294967296 % 4294967296]=n by simp only[Ae];omega]at g;refine Aa g ?_;rfl
omit C in
theorem AiG(a b:List Nat)(ha:Limbs a)(hb:Limbs b)(hab:a.length=b.length)(hs:Cv a):∀(n:Nat),n<=a.length->D.ask (.lp 201 0) [eN a,eN b,iv ((n:Int)-1)] []
  = Δ (if Db (Ae (a.take n)) (Ae (b.take n))=0 then .tup [iv 1] else .tup [bv U,iv (Db (Ae (a.take n)) (Ae (b.take n)))],[]):=by
 intro n;unfold Cv at hs
 induction n with
 |zero=>
  intro _;refine As K Sa (YY ..) ?_;refine C2 ?_;rfl
 |succ n ih=>
  intro hn;refine As K Sa (YY ..) ?_;rw[show (((n+1:Nat):Int)-1)=(n:Int) by omega];refine Cx ?_;have h1:n<a.length:=by omega
  have h2:n<b.length:=by omega
  have e1:a.take (n+1)=a.take n++[a[n]]:=by rw[Arq h1]
  have e2:b.take (n+1)=b.take n++[b[n]]:=by rw[Arq h2]
  rw[e1,e2,Rs (ha.take n) (hb.take n) (by simp;omega)];simp only[Av,At (θ h1),At (θ h2),eL,Wt,ND,DK,Ab]
  by_cases h3:a[n]<b[n]
  .refine Ak ?_
   rw[if_pos h3];rfl
  .refine Aj ?_
   rw[if_neg h3]
   by_cases h4:b[n]<a[n]
   .refine Ak ?_
    rw[if_pos h4];rfl
   .refine Aj ?_
    rw[if_neg h4];rw[show Ah.sub .i64 (n:Int) 1=(n:Int)-1 from FH (by omega) (by omega)];refine Aa (ih (by omega)) ?_
    by_cases h5:Db (Ae (a.take n)) (Ae (b.take n))=0
    .rw[if_pos h5];rfl
    .rw[if_neg h5];rfl
omit C in
theorem Tn{a b:List Nat}(hsa:Cv a)(ha:Limbs a)(hsb:Cv b)(hb:Limbs b):D.ask (.fn 201) [eN a,eN b] []=Δ (iv (Db (Ae a) (Ae b)),[]):=by
 have s1:=Gd ha hsa;have s2:=Gd hb hsb;unfold Cv at s1 s2;refine Aw K Sa (Aog ..) ?_;refine Aa (Eh K hsa ha) ?_;simp only[eN,ND,DK,Ab];refine Aa (Eh K hsb hb) ?_;simp only[eN,ND,DK,Ab,Ai];generalize Ae a=x at *;generalize Ae b=y at *
 by_cases h1:(AK x).length<(AK y).length
 .refine Ak ?_
  have:=MK h1;unfold Db;rw[if_pos this]
 .refine Aj ?_
  by_cases h2:(AK y).length<(AK x).length
  .refine Ak ?_
   have:=MK h2;unfold Db;rw[if_neg (by omega),if_pos this]
  .refine Aj ?_
   have hx:(AK x).length=(AK y).length:=by omega
   have g:=AiG K (AK x) (AK y) (Ay x) (Ay y) hx s1 (AK x).length (ω _);rw[ArB,hx,ArB,AR,AR]at g;rw[show Ah.sub .i64 ((AK x).length:Int) 1=((AK x).length:Int)-1 from FH (by omega) (by omega),hx];refine Aa g ?_
   by_cases h5:Db x y=0
   .rw[if_pos h5,h5];rfl
   .rw[if_neg h5];rfl
omit C in
theorem Yi(b:List Nat)(hb:Limbs b)(a:List Nat)(ha:Limbs a)(hs:Cv a):∀(k i:Nat) (out:List Nat) (c:Nat),a.length-i=k->i<=a.length->b.length<=a.length->c<=1->out.length+k<=2000000000->
  ∃(o:List Nat) (c':Nat),D.ask (.lp 197 0) [eN b,.sl 0 0 out.length 1,.v (.int .u64 (c:Int)),eN a,iv (a.length:Int),iv (i:Int)] [Ω (Ao eL out) U U]
   = Δ (.tup [iv 0,.sl 1 0 o.length 1,.v (.int .u64 (c':Int))],[.del,.set (Ω (Ao eL o) U U)])/\c'<=1/\o++[c']=out++J8 c (a.drop i) (b.drop i):=by
 intro k;unfold Cv at hs
 induction k with
 |zero=>
  intro i out c hi hle hba hc ho;refine⟨out,c,?_,hc,?_⟩
  .refine As K R7 (YV ..) ?_
   refine Aj ?_;rfl
  .rw[show a.drop i=[] from Aqq (by omega)]
   rfl
 |succ k ih=>
  intro i out c hi hle hba hc ho;have hlt:i<a.length:=by omega
  have hx:=ha.get hlt;have hbd:=Ez (hb.drop i);have hdt:(b.drop i).tail=b.drop (i+1):=by rw[Asi]
  rw[show a.drop i=a[i]::a.drop (i+1) from π hlt];obtain⟨o,c',h1,h2,h3⟩:=ih (i+1) (out++[(a[i]+(b.drop i).headD 0+c) % 4294967296]) ((a[i]+(b.drop i).headD 0+c) / 4294967296) (by omega) (by omega) hba (by omega) (by simp;omega);refine⟨o,c',?_,h2,?_⟩
  .refine As K R7 (YV ..) ?_
   refine Ak ?_;rw[Av,At (θ hlt)];have hf:Bc (out.length+1) 4=U:=AS (by omega) (by omega);have hb1:Aqv (0+out.length*1) (Ao eL out).length=U:=AU AW out (by omega);have e3:∀ s:Nat,Aqp 0 (Aqj (0+out.length*1) (Ao eL out))++[.v (.int .u32 (s:Int))]=Ao eL (out++[s]):=λs=>by
    rw[Aqk,Bm AW out (by omega)];exact Bj eL out s
   rw[χ,Arb]at h1;simp only[eL,Wt,ND,DK,Ab,Ai];rw[BB (by omega)]
   by_cases hib:i<b.length
   .have hd:(b.drop i).headD 0=b[i]:=by rw[π hib];rfl
    rw[hd]at h1 hbd;refine Ak ?_;rw[Av,At (θ hib)];simp only[eL,Wt,ND,DK,Ab];rw[Cj (by omega),Cj (by omega),CV (by omega),CV (by omega),FG,Ml,hf,hb1,e3];rw[show a[i]+c+b[i]=a[i]+b[i]+c by omega];refine Ac ?_;refine Ac ?_;refine Aj ?_ (by decide);refine Aa h1 ?_;rfl
   .have hd:(b.drop i).headD 0=0:=by rw[Aqq (by omega)];rfl
    rw[hd]at h1;refine Aj ?_;rw[Cj (by omega),CV (by omega),FG,Ml,hf,hb1,e3];rw[show a[i]+c=a[i]+0+c by omega];refine Ac ?_;refine Ac ?_;refine Aj ?_ (by decide);refine Aa h1 ?_;rfl
  .rw[h3,J8,hdt,AqM]
   rfl
theorem AiF{a b:List Nat}(hsa:a.length<=999999999)(ha:Limbs a)(hsb:b.length<=999999999)(hb:Limbs b):D.ask (.fn 197) [eN a,eN b] []=Δ (eN (AK (Ae a+Ae b)),[]):=by
 have s1:=Gd ha (by unfold Cv;omega);have s2:=Gd hb (by unfold Cv;omega);have t1:(AK (Ae a)).length<=999999999:=by rw[Ha a ha];have:=DH a;omega
 have t2:(AK (Ae b)).length<=999999999:=by rw[Ha b hb];have:=DH b;omega
 refine Aw K R7 (Aoc ..) ?_;refine Aa (Eh K (by unfold Cv;omega) ha) ?_;simp only[eN,ND,DK,Ab];refine Aa (Eh K (by unfold Cv;omega) hb) ?_;simp only[eN,ND,DK,Ab,Ai];generalize Ae a=x at *;generalize Ae b=y at *
 by_cases h1:(AK x).length<(AK y).length
 .refine Ak ?_
  have hl:Limbs (J8 0 (AK y) (AK x)):=IH _ _ _ (Ay _) (Ay _) (by omega);obtain⟨o,c',g,hc,ho⟩:=Yi K (AK x) (Ay x) (AK y) (Ay y) s2 (AK y).length 0 [] 0 (by omega) (by omega) (by omega) (by omega) (by unfold Cv at s2;simp;omega);rw[Aq0,Aqk,Aqk]at ho;have hol:o.length=(AK y).length:=by
   have:=congrArg AtH ho;rw[χ,GK]at this;simpa using this
  have hsx:=s2;unfold Cv at hsx;rw[show Ah.add .i64 ((AK y).length:Int) 1=(((AK y).length+1:Nat):Int) from BB (by omega),Av];rw[AS (n:=(AK y).length+1) (b:=4) (by omega) (by omega)];refine Ac ?_;refine Aa g ?_;simp only[Oj,ND,DK,Ab];rw[BK (by omega)];have e3:Aqp 0 (Aqj (0+o.length*1) (Ao eL o))++[.v (.int .u32 (c':Int))]=Ao eL (o++[c']):=by
   rw[Aqk,Bm AW o (by omega)];exact Bj eL o c'
  rw[AS (n:=o.length+1) (b:=4) (by omega) (by omega),AU AW o (by omega),e3,AU AW (o++[c']) (by simp)];refine Ac ?_;refine Ac ?_;refine Ac ?_;rw[Aqk,Bm AW (o++[c']) (by simp),show Bl (o.length+1) 1 (Ao eL (o++[c']))=(o++[c']).map eL from by have:=Dg AW (o++[c']);rwa [χ]at this];rw[ho];have gt:=Hy K C (l:=J8 0 (AK y) (AK x)) (by unfold Cv;rw[GK];omega) hl;rw[La _ _ _ (by omega),AR,AR]at gt;refine Aa gt ?_;rw[show 0+y+x=x+y by omega];rfl
 .refine Aj ?_
  have hl:Limbs (J8 0 (AK x) (AK y)):=IH _ _ _ (Ay _) (Ay _) (by omega);obtain⟨o,c',g,hc,ho⟩:=Yi K (AK y) (Ay y) (AK x) (Ay x) s1 (AK x).length 0 [] 0 (by omega) (by omega) (by omega) (by omega) (by unfold Cv at s1;simp;omega);rw[Aq0,Aqk,Aqk]at ho;have hol:o.length=(AK x).length:=by
   have:=congrArg AtH ho;rw[χ,GK]at this;simpa using this
  have hsx:=s1;unfold Cv at hsx;rw[show Ah.add .i64 ((AK x).length:Int) 1=(((AK x).length+1:Nat):Int) from BB (by omega),Av];rw[AS (n:=(AK x).length+1) (b:=4) (by omega) (by omega)];refine Ac ?_;refine Aa g ?_;simp only[Oj,ND,DK,Ab];rw[BK (by omega)];have e3:Aqp 0 (Aqj (0+o.length*1) (Ao eL o))++[.v (.int .u32 (c':Int))]=Ao eL (o++[c']):=by
   rw[Aqk,Bm AW o (by omega)];exact Bj eL o c'
  rw[AS (n:=o.length+1) (b:=4) (by omega) (by omega),AU AW o (by omega),e3,AU AW (o++[c']) (by simp)];refine Ac ?_;refine Ac ?_;refine Ac ?_;rw[Aqk,Bm AW (o++[c']) (by simp),show Bl (o.length+1) 1 (Ao eL (o++[c']))=(o++[c']).map eL from by have:=Dg AW (o++[c']);rwa [χ]at this];rw[ho];have gt:=Hy K C (l:=J8 0 (AK x) (AK y)) (by unfold Cv;rw[GK];omega) hl;rw[La _ _ _ (by omega),AR,AR]at gt;refine Aa gt ?_;rw[show 0+x+y=x+y by omega];rfl
omit C in
theorem AiJ(b:List Nat)(hb:Limbs b)(a:List Nat)(ha:Limbs a)(hs:Cv a):∀(k i:Nat) (out:List Nat) (c:Nat),a.length-i=k->i<=a.length->c<=1->out.length+k<=2000000000->
  D.ask (.lp 198 0) [eN b,.sl 0 0 out.length 1,.v (.int .u64 (c:Int)),eN a,iv (a.length:Int),iv (i:Int)] [Ω (Ao eL out) U U]
   = Δ (.tup [iv 0,.sl 1 0 (out++Gl c (a.drop i) (b.drop i)).length 1],[.del,.set (Ω (Ao eL (out++Gl c (a.drop i) (b.drop i))) U U)]):=by
 intro k;unfold Cv at hs
 induction k with
 |zero=>
  intro i out c hi hle hc ho;refine As K R8 (YW ..) ?_;refine Aj ?_;rw[show a.drop i=[] from Aqq (by omega)];simp only[Gl,List.append_nil]
  all_goals rfl
 |succ k ih=>
  intro i out c hi hle hc ho;have hlt:i<a.length:=by omega
  have hx:=ha.get hlt;have hbd:=Ez (hb.drop i);have hdt:(b.drop i).tail=b.drop (i+1):=by rw[Asi]
  rw[show a.drop i=a[i]::a.drop (i+1) from π hlt,Gl,hdt];have h1:=ih (i+1) (out++[if a[i]<(b.drop i).headD 0+c then a[i]+4294967296-((b.drop i).headD 0+c) else a[i]-((b.drop i).headD 0+c)]) (if a[i]<(b.drop i).headD 0+c then 1 else 0) (by omega) (by omega) (by split<;>omega) (by simp;omega);rw[AqM,χ,Arb]at h1;refine As K R8 (YW ..) ?_;refine Ak ?_;rw[Av,At (θ hlt)];have hf:Bc (out.length+1) 4=U:=AS (by omega) (by omega);have hb1:Aqv (0+out.length*1) (Ao eL out).length=U:=AU AW out (by omega);have e3:∀ s:Nat,Aqp 0 (Aqj (0+out.length*1) (Ao eL out))++[.v (.int .u32 (s:Int))]=Ao eL (out++[s]):=λs=>by
   rw[Aqk,Bm AW out (by omega)];exact Bj eL out s
  simp only[eL,Wt,ND,DK,Ab,Ai];rw[BB (by omega)]
  by_cases hib:i<b.length
  .have hd:(b.drop i).headD 0=b[i]:=by rw[π hib];rfl
   rw[hd]at h1 hbd;rw[hd];refine Ak ?_;rw[Av,At (θ hib)];simp only[eL,Wt,ND,DK,Ab];rw[Cj (show a[i]<_ by omega),Cj (show b[i]<_ by omega),CV (by omega)]
   by_cases hlt2:a[i]<b[i]+c
   .refine Ak ?_
    rw[if_pos hlt2,if_pos hlt2]at h1;rw[if_pos hlt2,if_pos hlt2];rw[show (4294967296:Int)=((4294967296:Nat):Int) from rfl,CV (by omega),show c+b[i]=b[i]+c by omega,Gg (by omega) (by omega),BK (by omega),hf,hb1,e3];refine Ac ?_;refine Ac ?_;refine Aa h1 ?_;rfl
   .refine Aj ?_
    rw[if_neg hlt2,if_neg hlt2]at h1;rw[if_neg hlt2,if_neg hlt2];rw[show c+b[i]=b[i]+c by omega,Gg (by omega) (by omega),BK (by omega),hf,hb1,e3];refine Ac ?_;refine Ac ?_;refine Aa h1 ?_;rfl
  .have hd:(b.drop i).headD 0=0:=by rw[Aqq (by omega)];rfl
   rw[hd]at h1;rw[hd];refine Aj ?_;rw[Cj (show a[i]<_ by omega)];rw[Aqw]at h1;simp only[show (0:Nat)+c=c by omega]
   by_cases hlt2:a[i]<c
   .refine Ak ?_
    rw[if_pos hlt2,if_pos hlt2]at h1;rw[if_pos hlt2,if_pos hlt2];rw[show (4294967296:Int)=((4294967296:Nat):Int) from rfl,CV (by omega),Gg (by omega) (by omega),BK (by omega),hf,hb1,e3];refine Ac ?_;refine Ac ?_;refine Aa h1 ?_;rfl
   .refine Aj ?_
    rw[if_neg hlt2,if_neg hlt2]at h1;rw[if_neg hlt2,if_neg hlt2];rw[Gg (by omega) (by omega),BK (by omega),hf,hb1,e3];refine Ac ?_;refine Ac ?_;refine Aa h1 ?_;rfl
def MT(x y:Nat):AV:=if y<=x then .tup [eN (AK (x-y)),bv U] else .tup [eN [],bv Ξ]
theorem Yk{a b:List Nat}(hsa:Cv a)(ha:Limbs a)(hsb:Cv b)(hb:Limbs b):D.ask (.fn 198) [eN a,eN b] []=Δ (MT (Ae a) (Ae b),[]):=by
 have s1:=Gd ha hsa;have s2:=Gd hb hsb;refine Aw K R8 (Aod ..) ?_;refine Aa (Eh K hsa ha) ?_;simp only[eN,ND,DK,Ab];refine Aa (Eh K hsb hb) ?_;simp only[eN,ND,DK,Ab,Ai];have gc:=Tn K s1 (Ay _) s2 (Ay _);rw[AR,AR]at gc;refine Aa gc ?_;simp only[ND,DK,Ab];generalize Ae a=x at *;generalize Ae b=y at *;unfold MT;unfold Cv at s1 s2
 by_cases h1:x<y
 .rw[show Db x y=-1 by unfold Db;rw[if_pos h1]]
  refine Ak ?_ (by decide);rw[if_neg (by omega)];rfl
 .refine Aj ?_ (by unfold Db;rw[if_neg h1];split<;>omega)
  rw[if_pos (by omega)];have hle:(AK y).length<=(AK x).length:=by
   by_cases h:(AK x).length<(AK y).length
   .have:=MK h;omega
   .omega
  rw[AS (n:=(AK x).length) (b:=4) (by omega) (by omega)];refine Ac ?_;have g:=AiJ K (AK y) (Ay y) (AK x) (Ay x) s1 (AK x).length 0 [] 0 (by omega) (by omega) (by omega) (by simp;omega);refine Aa g ?_;simp only[ND,DK,Ab,Aqk,Aq0];rw[AU AW _ (by omega)];refine Ac ?_;rw[Cg AW _ rfl];have gt:=Hy K C (l:=Gl 0 (AK x) (AK y)) (by unfold Cv;rw[JZ];exact s1) (Gm _ _ _ (Ay _) (Ay _) (by omega));rw[Tb (Ay _) (Ay _) hle (by rw[AR,AR];omega),AR,AR]at gt;refine Aa gt ?_;rfl
end
def eC(n:Nat):AV:=.v (.int .u32 (n:Int))
theorem Gj:∀ l:List Nat,Ao eL l=l.map eC
 |[]=>rfl
 |x::r=>by
  have ih:=Gj r;unfold Ao at ih ⊢;rw[List.flatMap_cons,ih];rfl
theorem Pq(l:List Nat)(i v:Nat)(h:i<l.length):AI (Ao eL l) (0+i*1) [.v (.int .u32 (v:Int))]=Ao eL (l.set i v):=by
 rw[Gj,Gj,Asq,if_pos h];unfold AI;simp only[Aqw,AsE,List.map_append,AqF,AsF,List.map_drop,Arb];rw[AqM];rfl
theorem Aaq(l:List Nat)(i:Nat)(h:i<l.length)(k:List AV->KR):Io (Ao eL l) (0+i*1) 1 k=k [.v (.int .u32 (l[i]:Int))]:=by
 have hx:(Ao eL l)[i]? = Δ (.v (.int .u32 (l[i]:Int))):=by
  rw[Gj,List.getElem?_map,θ h];rfl
 obtain⟨hl,hx⟩:=List.getElem?_eq_some_iff.1 hx;unfold Io;have:Aqv (0+i*1+1) (Ao eL l).length=U:=by simp;omega
 rw[this];simp only[Aqw,AsE];rw[π hl,hx];rfl
theorem AbL(n:Nat):BQ [.v (.int .u32 0)] (n*1)=Ao eL (ArD n 0):=by
 rw[Gj,AsE];unfold BQ;rw[List.map_replicate];refine List.ext_getElem (by simp) λi h1 h2=>?_
 simp[Nat.mod_one,eC]
theorem Pb:∀(x:Nat) (b o:List Nat) (c:Nat),(Nv x c b o).drop (b.length+1)=o.drop (b.length+1)
 |x,[],o,c=>by
  rw[Nv]
  cases o<;>simp
 |x,y::b,o,c=>by
  rw[Nv,ε,List.drop_succ_cons,Pb x b o.tail]
  cases o with
  |nil=>simp
  |cons z o=>rfl
def GJ(j:Nat)(l:List Nat):Prop:=∀ y∈l.drop j,y=0
theorem Yc{j:Nat}{l:List Nat}(h:GJ j l):(l.drop j).headD 0=0:=by
 unfold GJ at h
 cases e:l.drop j with
 |nil=>rfl
 |cons z r=>
  rw[e]at h;exact h z (Aqs ..)
theorem Jk{a b:Nat}(h:a<b):Nat.blt a b=U:=by simpa using h
section
variable {D:Orc} (K:Knows Al Py D)
include K
theorem Xo(a b:List Nat)(hb:Limbs b)(i:Nat)(hi:i<a.length)(hsz:a.length+b.length<=1000000000)(x:Nat)(hx:x<4294967296):∀(m k:Nat) (out:List Nat) (c:Nat),b.length-k=m->k<=b.length->Limbs out->c<4294967296->out.length=a.length+b.length->
  ∃(o:List Nat) (c':Nat),D.ask (.lp 243 1) [eN b,.sl 0 0 out.length 1,iv (i:Int),.v (.int .u32 (x:Int)),.v (.int .u64 (c:Int)),eN a,iv (a.length:Int),iv (i:Int),eN b,iv (b.length:Int),iv (k:Int)] [Ω (Ao eL out) U U]
   = Δ (.tup [iv 2,eN b,.sl 1 0 out.length 1,iv (i:Int),.v (.int .u64 (c':Int)),eN a,iv (a.length:Int),iv (i:Int)],[.del,.set (Ω (Ao eL o) U U)])
   ∧ c'<4294967296/\Limbs o/\o.length=out.length/\o.set (i+b.length) c'=out.take (i+k)++Nv x c (b.drop k) (out.drop (i+k)):=by
 intro m
 induction m with
 |zero=>
  intro k out c hm hk ho hc hlen;obtain rfl:k=b.length:=by omega
  refine⟨out,c,?_,hc,ho,rfl,?_⟩
  .refine As K Lu (Y6 ..) ?_
   refine Aj ?_;rfl
  .rw[List.drop_length,Nv,Asq,if_pos (by omega),Asi]
 |succ m ih=>
  intro k out c hm hk ho hc hlen;have hlt:k<b.length:=by omega
  have hik:i+k<out.length:=by omega
  have hy:=hb.get hlt;have hz:=ho.get hik;have hp:=Qn hx hy;have hd:(out.drop (i+k)).headD 0=out[i+k]:=by rw[π hik];rfl
  obtain⟨o,c',h1,h2,h3,h4,h5⟩:=ih (k+1) (out.set (i+k) ((x*b[k]+out[i+k]+c) % 4294967296)) ((x*b[k]+out[i+k]+c) / 4294967296) (by omega) (by omega)
   (λz hz'=>by
    rcases List.mem_or_eq_of_mem_set hz' with h|h
    .exact ho z h
    .rw[h];exact Ar1 _ (by omega)) (by omega) (by rw[AqW];exact hlen)
  rw[AqW]at h1 h4;refine⟨o,c',?_,h2,h3,h4,?_⟩
  .refine As K Lu (Y6 ..) ?_
   refine Ak ?_;rw[Av,At (θ hlt)];simp only[eL,Oj,ND,DK,Ab];rw[AiK (by omega),Av,Jk hik];refine Ac ?_;refine(Aaq out _ hik _).trans ?_;simp only[Oj,ND,DK,Ab];rw[Av,Jk hik];refine Ac ?_;rw[show Aqv (0+(i+k)*1+1) (Ao eL out).length=U by rw[Bn AW];simp;omega];refine Ac ?_;refine Aj ?_ (by decide);rw[Cj (show x<_ by omega),Cj (show b[k]<_ by omega),Cj (show out[i+k]<_ by omega),VN (by omega),CV (by omega),CV (by omega),FG,Ml,Pq _ _ _ hik,BB (by omega)];refine Aa h1 ?_;rfl
  .rw[h5,π hlt,Nv,hd]
   have e1:Aqj (i+(k+1)) (out.set (i+k) ((x*b[k]+out[i+k]+c) % 4294967296))=out.take (i+k)++[(x*b[k]+out[i+k]+c) % 4294967296]:=by
    rw[show i+(k+1)=i+k+1 by omega,Arq (by rw[AqW];exact hik),List.getElem_set_self,List.take_set_of_le (ω _)]
   have e2:Aqp (i+(k+1)) (out.set (i+k) ((x*b[k]+out[i+k]+c) % 4294967296))=(out.drop (i+k)).tail:=by
    rw[List.drop_set_of_lt (by omega),Asi];rfl
   rw[e1,e2,AqM];rfl
theorem Xp(a b:List Nat)(ha:Limbs a)(hb:Limbs b)(hsz:a.length+b.length<=1000000000):∀(m i:Nat) (out:List Nat),a.length-i=m->i<=a.length->Limbs out->out.length=a.length+b.length->GJ (i+b.length) out->
  ∃ o:List Nat,D.ask (.lp 243 0) [eN b,.sl 0 0 out.length 1,eN a,iv (a.length:Int),iv (i:Int)] [Ω (Ao eL out) U U]=Δ (.tup [iv 0,.sl 1 0 o.length 1],[.del,.set (Ω (Ao eL o) U U)])
   ∧ Limbs o/\o.length=out.length/\Ae o=Ae out+4294967296 ^ i*Ae (a.drop i)*Ae b:=by
 intro m
 induction m with
 |zero=>
  intro i out hm hi ho hlen hz;refine⟨out,?_,ho,rfl,?_⟩
  .refine As K Lu (Y5 ..) ?_
   refine Aj ?_;rfl
  .rw[show a.drop i=[] from Aqq (by omega)]
   simp[Ae]
 |succ m ih=>
  intro i out hm hi ho hlen hz;have hlt:i<a.length:=by omega
  have hx:=ha.get hlt;obtain⟨o,c',g1,g2,g3,g4,g5⟩:=Xo K a b hb i hlt hsz a[i] hx b.length 0 out 0 (by omega) (by omega) ho (by omega) hlen;rw[Arf,Aqk]at g5;have hdl:(out.drop i).length=a.length+b.length-i:=by rw[List.length_drop];omega
  have hlm:Limbs (o.set (i+b.length) c'):=by
   rw[g5];exact O3 (ho.take i) (Nw _ _ _ _ hx hb (ho.drop i) (by omega))
  have hhead:((out.drop i).drop b.length).headD 0=0:=by
   rw[AsD];exact Yc hz
  have hv:Ae (o.set (i+b.length) c')=Ae out+4294967296 ^ i*(a[i]*Ae b):=by
   rw[g5,FO,PI _ _ _ _ hhead];have e:Ae out=Ae (out.take i)+4294967296 ^ i*Ae (out.drop i):=by
    have:=FO (out.take i) (out.drop i);rw[Asw,AqT,ArG (by omega)]at this;exact this
   rw[e,AqT,ArG (by omega),Arf,Asr];omega
  have hz2:GJ (i+1+b.length) (o.set (i+b.length) c'):=by
   unfold GJ;rw[g5,List.drop_append,Aqq (by rw[AqT];omega),Aq0,AqT,ArG (by omega),show i+1+b.length-i=b.length+1 by omega,Pb,AsD];intro y hy;exact hz y (by
    have:Aqp (i+(b.length+1)) out=Aqp 1 (Aqp (i+b.length) out):=by rw[AsD];rfl
    rw[this]at hy;exact Arh hy)
  obtain⟨o2,k1,k2,k3,k4⟩:=ih (i+1) (o.set (i+b.length) c') (by omega) (by omega) hlm (by rw[AqW,g4,hlen]) hz2;rw[AqW,g4]at k1 k3;refine⟨o2,?_,k2,k3,?_⟩
  .refine As K Lu (Y5 ..) ?_
   refine Ak ?_;rw[Av,At (θ hlt)];simp only[eL,Oj,Ai,ND,DK,Ab];refine Aa g1 ?_;simp only[eN,Oj,Ai,ND,DK,Ab];rw[AiK (by omega),Av,Jk (by omega)];refine Ac ?_;rw[show Aqv (0+(i+b.length)*1+1) (Ao eL o).length=U by rw[Bn AW];simp;omega];refine Ac ?_;rw[BK g2,Pq _ _ _ (by omega),BB (by omega)];refine Aa k1 ?_;rfl
  .rw[k4,hv,π hlt,Ae,ArH]
   have e1:4294967296 ^ i*(a[i]+4294967296*Ae (Aqp (i+1) a))*Ae b=4294967296 ^ i*(a[i]*Ae b)+4294967296 ^ i*4294967296*Ae (Aqp (i+1) a)*Ae b:=by
    rw[Asr,Aq9,Ar9 _ a[i],Ar9 (4294967296 ^ i) 4294967296]
   rw[e1];omega
variable (C:CloneF D)
include C
theorem Xq{a b:List Nat}(ha:Limbs a)(hb:Limbs b)(hsz:a.length+b.length<=1000000000):D.ask (.fn 243) [eN a,eN b] []=Δ (eN (AK (Ae a*Ae b)),[]):=by
 obtain⟨o,k1,k2,k3,k4⟩:=Xp K a b ha hb hsz a.length 0 (ArD (a.length+b.length) 0) (by omega) (by omega) (λx hx=>by rw[(Atc.1 hx).2];omega) (by simp) (λy hy=>(Atc.1 (Arh hy)).2);rw[List.length_replicate]at k1 k3;have hz:∀ n,Ae (ArD n 0)=0:=λn=>by
  induction n with
  |zero=>rfl
  |succ n ih=>rw[List.replicate_succ,Ae,ih]
 rw[hz,Aqk,Nat.pow_zero,Asl,Aqw]at k4;refine Aw K Lu (Aon ..) ?_;rw[Ai,Ai,AiK (by omega)];simp only[Av];rw[show Aqv (a.length+b.length) (a.length+b.length)=U by simp,AS (n:=a.length+b.length) (b:=4) (by omega) (by omega),AbL];refine Ac ?_;refine Ac ?_;refine Aa k1 ?_;simp only[ND,DK,Ab];rw[AU AW _ (by omega)];refine Ac ?_;rw[Cg AW _ rfl];have gt:=Hy K C (l:=o) (by unfold Cv;omega) k2;rw[k4]at gt;refine Aa gt ?_;rfl
theorem AiI{a b:List Nat}(hsa:a.length<=400000000)(ha:Limbs a)(hsb:b.length<=400000000)(hb:Limbs b)(h24:a.length<24\/b.length<24):D.ask (.fn 212) [eN a,eN b] []=Δ (eN (AK (Ae a*Ae b)),[]):=by
 have t1:(AK (Ae a)).length<=a.length:=by rw[Ha a ha];exact DH a
 have t2:(AK (Ae b)).length<=b.length:=by rw[Ha b hb];exact DH b
 refine Aw K AhS (Aoj ..) ?_;refine Aa (Eh K (by unfold Cv;omega) ha) ?_;simp only[eN,ND,DK,Ab];refine Aa (Eh K (by unfold Cv;omega) hb) ?_;simp only[eN,ND,DK,Ab,Ai];have g:=Xq K C (Ay (Ae a)) (Ay (Ae b)) (by omega);rw[AR,AR]at g
 by_cases h1:(AK (Ae a)).length<24
 .refine Ak ?_
  refine Aa g ?_;rfl
 .refine Aj ?_
  refine Ak ?_;refine Aa g ?_;rfl
end
section
open Go.RowKit
def Aie:MFn:=Au [] 145
def AhD:Hnt:=⟨[(202,(.ls,[]))],[],[]⟩
def Aid:MFn:=Au [] 142
def AhC:Hnt:=⟨[(145,(.agg Bb,[]))],[],[(4,[.bool]),(6,[.ls])]⟩
def Ah6:MFn:=Au [] 126
def Ahv:Hnt:=⟨[(145,(.agg Bb,[])),(184,(.ls,[]))],[],[]⟩
def Aij:MFn:=Au [] 161
def AhI:Hnt:=⟨[(145,(.agg Bb,[]))],[],[(4,[.bool]),(7,[.ls])]⟩
def AmB:MFn:=Au [] 64
def Al5:Hnt:=⟨[(142,(.agg Bb,[]))],[],[(3,Bb),(7,[.bool]),(10,[.ls])]⟩
def Aig:MFn:=Au [] 155
def AhF:Hnt:=⟨[(64,(.int .i64,[])),(201,(.int .i64,[]))],[],[(7,Bb),(9,Bb),(23,[.ls]),(25,[.ls]),(28,[.ls]),(30,[.ls])]⟩
def Aib:MFn:=Au [] 139
def AhA:Hnt:=⟨[(145,(.agg Bb,[])),(197,(.ls,[])),(198,(.tup [.ls,.bool],[]))],[],[(10,[.bool]),(12,[.bool]),(15,[.bool]),(17,[.ls]),(19,[.ls]),(24,[.ls]),(26,[.ls]),(32,[.bool]),(37,[.ls]),(39,[.ls]),(44,[.bool])]⟩
def Aii:MFn:=Au [] 158
def AhH:Hnt:=⟨[(145,(.agg Bb,[])),(212,(.ls,[]))],[],[(6,[.bool]),(8,[.bool]),(11,[.ls]),(13,[.ls])]⟩
def V0:List (Nat × MFn):=[(145,Aie),(142,Aid),(126,Ah6),(161,Aij),(64,AmB),(155,Aig),(139,Aib),(158,Aii)]
variable (A:Ar) (D:Orc)
theorem AnR(x0:Bool)(x1:Rw):BZ A D Al AhD (.b (.t (.t (.b (.t .n) (.t .n)))) (.f (.f (.f .n)))) 145 Aie [bv x0,Φ x1] [] =
 Ad D (φ 202) [Φ x1] [] [.l,.E] λxs=>
 br x0
 (br x0 (br x0 (br (A.lt 0 ↑(AP xs))
 (br x0 (Δ ((ψ [bv U,Φ xs],[]))) Θ)
 (br x0 (Δ ((ψ [bv Ξ,Φ xs],[]))) Θ)) Θ) Θ)
 (br x0 Θ (br x0 Θ (br x0 Θ (Δ ((ψ [bv Ξ,Φ xs],[])))))):=by kernel_rfl
theorem AnQ(x0_0:Bool)(x0_1:Rw):BZ A D Al AhC .n 142 Aid [ψ [bv x0_0,Φ x0_1]] [] =
 Ad D (φ 145) [bv x0_0,Φ x0_1] [] [.a,.B,.L,.N,.E] λb xs=>
 Δ ((ψ [bv b,Φ xs],[])):=by kernel_rfl
theorem AnH(x0:Int):BZ A D Al Ahv .n 126 Ah6 [iv x0] [] =
 br (A.lt x0 0)
 (Ad D (φ 184) [AqC (Value.int ξ (A.add ξ (A.conv ξ (A.sub δ 0 (A.add δ x0 1))) 1))] [] [.l,.E] λxs=>
 Ad D (φ 145) [bv U,Φ xs] [] [.a,.B,.L,.N,.E] λb xs1=>
 Δ ((ψ [bv b,Φ xs1],[])))
 (Ad D (φ 184) [AqC (Value.int ξ (A.conv ξ x0))] [] [.l,.E] λxs=>
 Ad D (φ 145) [bv Ξ,Φ xs] [] [.a,.B,.L,.N,.E] λb xs1=>
 Δ ((ψ [bv b,Φ xs1],[]))):=by kernel_rfl
theorem AnY(x0_0:Bool)(x0_1:Rw):BZ A D Al AhI .n 161 Aij [ψ [bv x0_0,Φ x0_1]] [] =
 br (A.not x0_0)
 (Ad D (φ 145) [bv U,Φ x0_1] [] [.a,.B,.L,.N,.E] λb xs=>
 Δ ((ψ [bv b,Φ xs],[])))
 (Ad D (φ 145) [bv Ξ,Φ x0_1] [] [.a,.B,.L,.N,.E] λb xs=>
 Δ ((ψ [bv b,Φ xs],[]))):=by kernel_rfl
theorem e64(x0_0:Bool)(x0_1:Rw):BZ A D Al Al5 .n 64 AmB [ψ [bv x0_0,Φ x0_1]] [] =
 Ad D (φ 142) [ψ [bv x0_0,Φ x0_1]] [] [.a,.B,.L,.N,.E] λb xs=>
 br b
 (Δ ((iv (-1),[])))
 (br (A.lt 0 ↑(AP xs))
 (Δ ((iv 1,[])))
 (Δ ((iv 0,[])))):=by kernel_rfl
theorem AnV(x0_0:Bool)(x0_1:Rw)(x1_0:Bool)(x1_1:Rw):BZ A D Al AhF .n 155 Aig [ψ [bv x0_0,Φ x0_1],ψ [bv x1_0,Φ x1_1]] [] =
 Ad D (φ 64) [ψ [bv x0_0,Φ x0_1]] [] [.i,.E] λn=>
 Ad D (φ 64) [ψ [bv x1_0,Φ x1_1]] [] [.i,.E] λn1=>
 br (A.lt n n1)
 (Δ ((iv (-1),[])))
 (br (A.lt n1 n)
 (Δ ((iv 1,[])))
 (br (A.lt n 0)
 (Ad D (φ 201) [Φ x1_1,Φ x0_1] [] [.i,.E] λn2=>
 Δ ((iv n2,[])))
 (Ad D (φ 201) [Φ x0_1,Φ x1_1] [] [.i,.E] λn2=>
 Δ ((iv n2,[]))))):=by kernel_rfl
theorem AnO(x0_0:Bool)(x0_1:Rw)(x1_0:Bool)(x1_1:Rw):BZ A D Al AhA .n 139 Aib [ψ [bv x0_0,Φ x0_1],ψ [bv x1_0,Φ x1_1]] [] =
 br (A.beq x0_0 x1_0)
 (Ad D (φ 197) [Φ x0_1,Φ x1_1] [] [.l,.E] λxs=>
 Ad D (φ 145) [bv x0_0,Φ xs] [] [.a,.B,.L,.N,.E] λb xs1=>
 Δ ((ψ [bv b,Φ xs1],[])))
 (Ad D (φ 198) [Φ x0_1,Φ x1_1] [] [.t,.L,.B,.N,.E] λxs b=>
 br b
 (Ad D (φ 145) [bv x0_0,Φ xs] [] [.a,.B,.L,.N,.E] λb1 xs1=>
 Δ ((ψ [bv b1,Φ xs1],[])))
 (Ad D (φ 198) [Φ x1_1,Φ x0_1] [] [.t,.L,.B,.N,.E] λxs1 _=>
 Ad D (φ 145) [bv x1_0,Φ xs1] [] [.a,.B,.L,.N,.E] λb2 xs2=>
 Δ ((ψ [bv b2,Φ xs2],[])))):=by kernel_rfl
theorem AnX(x0_0:Bool)(x0_1:Rw)(x1_0:Bool)(x1_1:Rw):BZ A D Al AhH .n 158 Aii [ψ [bv x0_0,Φ x0_1],ψ [bv x1_0,Φ x1_1]] [] =
 br (A.not (A.beq x0_0 x1_0))
 (Ad D (φ 212) [Φ x0_1,Φ x1_1] [] [.l,.E] λxs=>
 Ad D (φ 145) [bv U,Φ xs] [] [.a,.B,.L,.N,.E] λb xs1=>
 Δ ((ψ [bv b,Φ xs1],[])))
 (Ad D (φ 212) [Φ x0_1,Φ x1_1] [] [.l,.E] λxs=>
 Ad D (φ 145) [bv Ξ,Φ xs] [] [.a,.B,.L,.N,.E] λb xs1=>
 Δ ((ψ [bv b,Φ xs1],[]))):=by kernel_rfl
end
section
variable {D:Orc} (K:Knows Al Py D) (Z:Knows Al V0 D) (C:CloneF D)
include K Z C
theorem FS(neg:Bool){a:List Nat}(ha:Limbs a)(hs:Cv a):D.ask (.fn 145) [bv neg,eN a] []=Δ (.agg (eZ (A1 (DE neg (Ae a)))),[]):=by
 refine Aw Z AhD (AnR ..) ?_;refine Aa (Hy K C hs ha) ?_;simp only[eN,ND,DK,Ab,Ai];rw[V3];unfold eZ eN
 cases neg with
 |false=>rfl
 |true=>
  refine Ac ?_;refine Ac ?_;refine Ac ?_;have hp:=@Ee (Ae a)
  by_cases h:0<Ae a
  .refine Ak ?_ (by have:=hp.2 h;omega)
   rw[decide_eq_true h];rfl
  .refine Aj ?_ (by intro e;exact h (hp.1 (by omega)))
   rw[decide_eq_false h];rfl
theorem Yx{z:Zi}(hz:Lz 1000000000 z):D.ask (.fn 142) [.agg (eZ z)] []=Δ (.agg (eZ (A1 (zv z))),[]):=by
 refine Aw Z AhC (AnQ ..) ?_;refine Aa (FS K Z C z.neg hz.lim hz.len) ?_;rfl
theorem Ag2{z:Zi}(hz:Lz 1000000000 z):D.ask (.fn 161) [.agg (eZ z)] []=Δ (.agg (eZ (A1 (-zv z))),[]):=by
 have e:-zv z=DE (!z.neg) (Ae z.abs):=by
  unfold zv DE
  cases z.neg<;>simp
 rw[e];refine Aw Z AhI (AnY ..) ?_;rw[Aan];have g:=λb=>FS K Z C b hz.lim hz.len
 cases z.neg with
 |false=>
  refine Ac ?_;refine Aa (g U) ?_;rfl
 |true=>
  refine D6 ?_;refine Aa (g Ξ) ?_;rfl
theorem N9{z:Zi}(hz:Lz 1000000000 z):D.ask (.fn 64) [.agg (eZ z)] []=Δ (iv (Cy (zv z)),[]):=by
 refine Aw Z Al5 (e64 ..) ?_;refine Aa (Yx K Z C hz) ?_;simp only[eZ,eN,ND,DK,Ab,Ai];unfold A1 Cy
 by_cases h:zv z<0
 .rw[if_pos h,decide_eq_true h]
  rfl
 .rw[if_neg h,decide_eq_false h]
  refine D6 ?_;have hp:=@Ee (zv z).natAbs
  by_cases h2:0<zv z
  .rw[if_pos h2]
   refine Ak ?_ (by have:=hp.2 (by omega);dsimp only;omega);rfl
  .rw[if_neg h2]
   refine Aj ?_ (by dsimp only;intro e;have:=hp.1 (by omega);omega);rfl
theorem Ala(n:Int)(h1:-9223372036854775808<=n)(h2:n<9223372036854775808):D.ask (.fn 126) [iv n] []=Δ (.agg (eZ (A1 n)),[]):=by
 refine Aw Z Ahv (AnH ..) ?_;have hl:∀ m:Nat,m<18446744073709551616->(AK m).length<=2:=λm h=>B1 (by omega)
 by_cases h:n<0
 .refine Ak ?_ h
  have e1:Ah.add .i64 n 1=n+1:=Gy (by omega) (by omega);have e2:Ah.sub .i64 0 (n+1)=((n.natAbs-1:Nat):Int):=by rw[FH (by omega) (by omega)];omega
  rw[e1,e2,Cj (by omega),show (1:Int)=((1:Nat):Int) from rfl,CV (by omega),show n.natAbs-1+1=n.natAbs by omega];refine Aa (Ag4 K C n.natAbs (by omega)) ?_;simp only[eN,ND,DK,Ab];have g:=FS K Z C U (Ay n.natAbs) (by unfold Cv;have:=hl n.natAbs (by omega);omega);rw[AR,show DE U n.natAbs=n by unfold DE;rw[if_pos rfl];omega]at g;refine Aa g ?_;rfl
 .refine Aj ?_ h
  obtain⟨m,rfl⟩:=Int.eq_ofNat_of_zero_le (show 0<=n by omega);rw[Cj (by omega)];refine Aa (Ag4 K C m (by omega)) ?_;simp only[eN,ND,DK,Ab];have g:=FS K Z C Ξ (Ay m) (by unfold Cv;have:=hl m (by omega);omega);rw[AR,show DE Ξ m=(m:Int) from rfl]at g;refine Aa g ?_;rfl
theorem Ag0{a b:Zi}(ha:Lz 1000000000 a)(hb:Lz 1000000000 b):D.ask (.fn 155) [.agg (eZ a),.agg (eZ b)] []=Δ (iv (IP (zv a) (zv b)),[]):=by
 refine Aw Z AhF (AnV ..) ?_;refine Aa (N9 K Z C ha) ?_;simp only[ND,DK,Ab];refine Aa (N9 K Z C hb) ?_;simp only[ND,DK,Ab];have g1:=Tn K (a:=b.abs) (b:=a.abs) hb.len hb.lim ha.len ha.lim;have g2:=Tn K (a:=a.abs) (b:=b.abs) ha.len ha.lim hb.len hb.lim;have na:=AbO a;have nb:=AbO b;have za:=V4 a;have zb:=V4 b;have va:zv a=DE a.neg (Ae a.abs):=rfl;have vb:zv b=DE b.neg (Ae b.abs):=rfl;unfold Cy
 by_cases h1:zv a<0
 .rw[if_pos h1]
  rw[DE,if_pos (na.1 h1).1]at va
  by_cases h2:zv b<0
  .rw[if_pos h2]
   rw[DE,if_pos (nb.1 h2).1]at vb;refine Aj ?_ (by decide);refine Aj ?_ (by decide);refine Ak ?_ (by decide);refine Aa g1 ?_;rw[show IP (zv a) (zv b)=Db (Ae b.abs) (Ae a.abs) by
    unfold IP Db;rw[va,vb]
    by_cases h3:Ae b.abs<Ae a.abs
    .rw[if_pos (by omega),if_pos h3]
    .rw[if_neg (by omega),if_neg h3]
     by_cases h4:Ae a.abs<Ae b.abs
     .rw[if_pos (by omega),if_pos h4]
     .rw[if_neg (by omega),if_neg h4]]
   rfl
  .rw[if_neg h2]
   rw[show IP (zv a) (zv b)=-1 by unfold IP;rw[if_pos (by omega)]]
   by_cases h3:0<zv b
   .rw[if_pos h3];rfl
   .rw[if_neg h3];rfl
 .rw[if_neg h1]
  by_cases h2:zv b<0
  .rw[if_pos h2]
   rw[show IP (zv a) (zv b)=1 by unfold IP;rw[if_neg (by omega),if_pos (by omega)]]
   by_cases h3:0<zv a
   .rw[if_pos h3];rfl
   .rw[if_neg h3];rfl
  .rw[if_neg h2]
   have ea:zv a=(Ae a.abs:Int):=by
    by_cases h:0<Ae a.abs
    .rw[va,DE,if_neg (λe=>h1 (na.2 ⟨e,h⟩))]
    .rw[za.2 (by omega)];omega
   have eb:zv b=(Ae b.abs:Int):=by
    by_cases h:0<Ae b.abs
    .rw[vb,DE,if_neg (λe=>h2 (nb.2 ⟨e,h⟩))]
    .rw[zb.2 (by omega)];omega
   have ec:IP (zv a) (zv b)=Db (Ae a.abs) (Ae b.abs):=by
    unfold IP Db;rw[ea,eb]
    by_cases h3:Ae a.abs<Ae b.abs
    .rw[if_pos (by omega),if_pos h3]
    .rw[if_neg (by omega),if_neg h3]
     by_cases h4:Ae b.abs<Ae a.abs
     .rw[if_pos (by omega),if_pos h4]
     .rw[if_neg (by omega),if_neg h4]
   rw[ec]
   by_cases h3:0<zv a
   .rw[if_pos h3]
    by_cases h4:0<zv b
    .rw[if_pos h4]
     refine Aj ?_ (by decide);refine Aj ?_ (by decide);refine Aj ?_ (by decide);refine Aa g2 ?_;rfl
    .rw[if_neg h4]
     refine Aj ?_ (by decide);refine Ak ?_ (by decide);rw[show Db (Ae a.abs) (Ae b.abs)=1 by unfold Db;rw[if_neg (by omega),if_pos (by omega)]]
   .rw[if_neg h3]
    by_cases h4:0<zv b
    .rw[if_pos h4]
     refine Ak ?_ (by decide);rw[show Db (Ae a.abs) (Ae b.abs)=-1 by unfold Db;rw[if_pos (by omega)]]
    .rw[if_neg h4]
     refine Aj ?_ (by decide);refine Aj ?_ (by decide);refine Aj ?_ (by decide);refine Aa g2 ?_;rfl
theorem AgZ{k:Nat}(hk:k<=900000000){a b:Zi}(ha:Lz k a)(hb:Lz k b):D.ask (.fn 139) [.agg (eZ a),.agg (eZ b)] []=Δ (.agg (eZ (A1 (zv a+zv b))),[]):=by
 have la:=ha.len;have lb:=hb.len;refine Aw Z AhA (AnO ..) ?_;have hfr:∀(neg:Bool) (n:Nat),n<4294967296 ^ (k+1)->D.ask (.fn 145) [bv neg,eN (AK n)] []=Δ (.agg (eZ (A1 (DE neg n))),[]):=λneg n h=>by
  have:=FS K Z C neg (Ay n) (by unfold Cv;have:=B1 h;omega)
  rwa [AR]at this
 have ba:=Cz ha.lim;have bb:=Cz hb.lim;have pa:4294967296 ^ a.abs.length<=4294967296 ^ k:=ArC (by omega) la;have pb:4294967296 ^ b.abs.length<=4294967296 ^ k:=ArC (by omega) lb;have ps:4294967296 ^ (k+1)=4294967296 ^ k*4294967296:=ArH ..
 by_cases h:a.neg=b.neg
 .rw[VM,show (a.neg == b.neg)=U by simpa using h]
  refine Ac ?_;refine Aa (AiF K C (by omega) ha.lim (by omega) hb.lim) ?_;simp only[eN,ND,DK,Ab];refine Aa (hfr a.neg (Ae a.abs+Ae b.abs) (by omega)) ?_;rw[show DE a.neg (Ae a.abs+Ae b.abs)=zv a+zv b by
   unfold zv;rw[←h];unfold DE;split<;>omega]
  rfl
 .rw[VM,show (a.neg == b.neg)=Ξ by simpa using h]
  refine D6 ?_;have hop:zv a+zv b=DE a.neg (Ae a.abs)+DE (!a.neg) (Ae b.abs):=by
   unfold zv;have:b.neg = !a.neg:=by
    revert h
    cases a.neg<;>cases b.neg<;>simp
   rw[this]
  have g1:=Yk K C (a:=a.abs) (b:=b.abs) (by unfold Cv;omega) ha.lim (by unfold Cv;omega) hb.lim;have g2:=Yk K C (a:=b.abs) (b:=a.abs) (by unfold Cv;omega) hb.lim (by unfold Cv;omega) ha.lim;unfold MT at g1 g2;refine Aa g1 ?_
  by_cases hle:Ae b.abs<=Ae a.abs
  .rw[if_pos hle]
   simp only[eN,ND,DK,Ab];refine Aa (hfr a.neg (Ae a.abs-Ae b.abs) (by omega)) ?_;rw[show DE a.neg (Ae a.abs-Ae b.abs)=zv a+zv b by
    rw[hop];unfold DE
    cases a.neg<;>simp<;>omega]
   rfl
  .rw[if_neg hle]
   rw[if_pos (by omega)]at g2;simp only[eN,ND,DK,Ab];refine Aa g2 ?_;simp only[eN,ND,DK,Ab];refine Aa (hfr b.neg (Ae b.abs-Ae a.abs) (by omega)) ?_;rw[show DE b.neg (Ae b.abs-Ae a.abs)=zv a+zv b by
    rw[hop];have:b.neg = !a.neg:=by
     revert h
     cases a.neg<;>cases b.neg<;>simp
    rw[this];unfold DE
    cases a.neg<;>simp<;>omega]
   rfl
theorem Ag1{k m:Nat}(hk:k<=400000000)(hkm:m<=400000000){a b:Zi}(ha:Lz k a)(hb:Lz m b)(h24:a.abs.length<24\/b.abs.length<24):D.ask (.fn 158) [.agg (eZ a),.agg (eZ b)] []=Δ (.agg (eZ (A1 (zv a*zv b))),[]):=by
 have la:=ha.len;have lb:=hb.len;refine Aw Z AhH (AnX ..) ?_;have hm:InB (k+m) (zv a*zv b):=ha.inb.mul hb.inb;have hab:(zv a*zv b).natAbs=Ae a.abs*Ae b.abs:=by
  have f:∀ z:Zi,(zv z).natAbs=Ae z.abs:=λz=>by
   unfold zv DE;split
   .rw[Int.natAbs_neg];rfl
   .rfl
  rw[Int.natAbs_mul,f,f]
 unfold InB at hm;rw[hab]at hm;have hl:=B1 hm;have hfr:∀(neg:Bool),D.ask (.fn 145) [bv neg,eN (AK (Ae a.abs*Ae b.abs))] []=Δ (.agg (eZ (A1 (DE neg (Ae a.abs*Ae b.abs)))),[]):=λneg=>by
  have:=FS K Z C neg (Ay (Ae a.abs*Ae b.abs)) (by unfold Cv;omega)
  rwa [AR]at this
 have g:=AiI K C (by omega) ha.lim (by omega) hb.lim h24;have hs:DE (a.neg != b.neg) (Ae a.abs*Ae b.abs)=zv a*zv b:=by
  unfold zv DE
  cases a.neg<;>cases b.neg<;>simp[Int.mul_neg,Int.neg_mul]
 rw[Aan,VM]
 by_cases h:a.neg=b.neg
 .rw[show (!(a.neg == b.neg))=Ξ by simp[h]]
  rw[show (a.neg != b.neg)=Ξ by simp[h]]at hs;refine D6 ?_;refine Aa g ?_;simp only[eN,ND,DK,Ab];refine Aa (hfr Ξ) ?_;rw[hs];rfl
 .rw[show (!(a.neg == b.neg))=U by simp[h]]
  rw[show (a.neg != b.neg)=U by simp[h]]at hs;refine Ac ?_;refine Aa g ?_;simp only[eN,ND,DK,Ab];refine Aa (hfr U) ?_;rw[hs];rfl
end
structure ZF (D:Orc):Prop where
 frm:∀ z:Zi,Lz 1000000000 z->D.ask (.fn 145) [bv z.neg,eN z.abs] []=Δ (.agg (eZ (A1 (zv z))),[])
 neg:∀ z:Zi,Lz 1000000000 z->D.ask (.fn 161) [.agg (eZ z)] []=Δ (.agg (eZ (A1 (-zv z))),[])
 sign:∀ z:Zi,Lz 1000000000 z->D.ask (.fn 64) [.agg (eZ z)] []=Δ (iv (Cy (zv z)),[])
 of_:∀ n:Int,-9223372036854775808<=n->n<9223372036854775808->D.ask (.fn 126) [iv n] []=Δ (.agg (eZ (A1 n)),[])
 cmp:∀ a b:Zi,Lz 1000000000 a->Lz 1000000000 b->D.ask (.fn 155) [.agg (eZ a),.agg (eZ b)] []=Δ (iv (IP (zv a) (zv b)),[])
 add:∀ a b:Zi,Lz 900000000 a->Lz 900000000 b->D.ask (.fn 139) [.agg (eZ a),.agg (eZ b)] []=Δ (.agg (eZ (A1 (zv a+zv b))),[])
 mul:∀ a b:Zi,Lz 400000000 a->Lz 400000000 b->a.abs.length<24\/b.abs.length<24->D.ask (.fn 158) [.agg (eZ a),.agg (eZ b)] []=Δ (.agg (eZ (A1 (zv a*zv b))),[])
theorem Anf{D:Orc}(K:Knows Al Py D)(Z:Knows Al V0 D)(C:CloneF D):ZF D where
 frm z h:=by
  have:=FS K Z C z.neg h.lim (by unfold Cv;exact h.len);exact this
 neg z h:=Ag2 K Z C h
 sign z h:=N9 K Z C h
 of_ n h1 h2:=Ala K Z C n h1 h2
 cmp a b ha hb:=Ag0 K Z C ha hb
 add a b ha hb:=AgZ K Z C (ω _) ha hb
 mul a b ha hb h:=Ag1 K Z C (ω _) (ω _) ha hb h
theorem Srt.same{l r:List Pt}{a b p q:Nat}(h:Srt Pt.v l p q)(hs:Same0 l r a b)(hd:q<=a\/b<=p):Srt Pt.v r p q:=by
 intro x y h1 h2 h3;rw[hs.kf Pt.v (by omega),hs.kf Pt.v (by omega)];exact h x y h1 h2 h3
def Tl(q t:Nat)(l:List Pt):Prop:=∀ p,q ∣ p->p+q<=t->Srt Pt.v l p (p+q)
theorem All{a:Nat}(h:a<4611686018427387000):Ah.add .i64 (a:Int) 20=((a+20:Nat):Int):=by
 rw[Gy (by omega) (by omega)];rfl
section
variable {D:Orc} (K:Knows Al Hp D)
include K
theorem AkY:∀(m a:Nat) (l:List Pt),l.length-a=m->a<=l.length->l.length<=1000000000->20 ∣ a->Tl 20 a l->
  ∃(r:List Pt) (c:Nat),D.ask (.lp 196 0) [.sl 0 0 l.length 3,iv (l.length:Int),EP,iv 20,iv (a:Int),iv ((a+20:Nat):Int)] [Ω (Ao eP l) U U]
   = Δ (.tup [iv 0,.sl 0 0 l.length 3,iv (l.length:Int),EP,iv 20,iv (c:Int)],[.set (Ω (Ao eP r) U U)])
   ∧ r.length=l.length/\r.Perm l/\c<=l.length/\l.length<c+20/\20 ∣ c/\Tl 20 c r:=by
 intro m
 induction m using Arz with
 |_ m ih=>
  intro a l hm ha hl hd hb
  by_cases h:a+20<=l.length
  .obtain⟨r,g,hr,hp,ho,hsm⟩:=ZK K (a:=a) (b:=a+20) (l:=l) (by omega) h hl
   have hb2:Tl 20 (a+20) r:=λp h1 h2=>by
    by_cases hpa:p=a
    .subst hpa
     exact ho
    .exact(hb p h1 (by omega)).same hsm (.inl (by omega))
   obtain⟨r2,c,g2,hr2,hp2,h3,h4,h5,h6⟩:=ih (r.length-(a+20)) (by omega) (a+20) r rfl (by omega) (by omega) (by omega) hb2;rw[hr]at g2 h3 h4;refine⟨r2,c,?_,by omega,hp2.trans hp,h3,h4,h5,h6⟩;refine As K Gv (YT ..) ?_;refine Cx ?_;refine Aa g ?_;simp only[EP,ND,DK,Ab];rw[All (by omega)];refine Aa g2 ?_;rfl
  .refine⟨l,a,?_,rfl,List.Perm.refl _,ha,by omega,hd,hb⟩
   refine As K Gv (YT ..) ?_;exact C2 rfl
omit K in
def Ms(D:Orc):Prop:=∀(l:List Pt) (a m b:Nat),a<m->m<b->b<=l.length->l.length<=1000000000->Srt Pt.v l a m->Srt Pt.v l m b->
 ∃ r:List Pt,D.ask (.fn 235) [.sl 0 0 l.length 3,iv (a:Int),iv (m:Int),iv (b:Int),EP] [Ω (Ao eP l) U U]=Δ (.tup [],[.set (Ω (Ao eP r) U U)])
  ∧ r.length=l.length/\r.Perm l/\Srt Pt.v r a b/\Same0 l r a b
def TlS(q a:Nat)(l:List Pt):Prop:=∀ j,Srt Pt.v l (a+j*q) (min (a+(j+1)*q) l.length)
theorem Ak0(M:Ms D)(q:Nat)(hq:0<q)(hq2:q<=1000000000):∀(m a:Nat) (l:List Pt),l.length-a=m->a<=l.length->l.length<=1000000000->2*q ∣ a->Tl (2*q) a l->TlS q a l->
  ∃(r:List Pt) (c:Nat),D.ask (.lp 196 2) [.sl 0 0 l.length 3,iv (l.length:Int),EP,iv (q:Int),iv (a:Int),iv ((a+2*q:Nat):Int)] [Ω (Ao eP l) U U]
   = Δ (.tup [iv 4,.sl 0 0 l.length 3,iv (l.length:Int),EP,iv (q:Int),iv (c:Int)],[.set (Ω (Ao eP r) U U)])
   ∧ r.length=l.length/\r.Perm l/\c<=l.length/\l.length<c+2*q/\2*q ∣ c/\Tl (2*q) c r/\TlS q c r:=by
 intro m
 induction m using Arz with
 |_ m ih=>
  intro a l hm ha hl hd hb ht
  by_cases h:a+2*q<=l.length
  .have t0:=ht 0
   have t1:=ht 1;rw[ArI,Arf,Aqw,Asl,ArG (by omega)]at t0;rw[Asl,show (1+1)*q=2*q from rfl,ArG h]at t1;obtain⟨r,g,hr,hp,ho,hsm⟩:=M l a (a+q) (a+2*q) (by omega) (by omega) h hl t0 t1;have hb2:Tl (2*q) (a+2*q) r:=λp h1 h2=>by
    by_cases hpa:p=a
    .subst hpa
     exact ho
    .have:=As7 (by omega) (Atk hd h1)
     exact(hb p h1 (by omega)).same hsm (.inl (by omega))
   have ht2:TlS q (a+2*q) r:=λj=>by
    have:=ht (j+2);rw[show a+(j+2)*q=a+2*q+j*q by rw[Aq9];omega,show a+(j+2+1)*q=a+2*q+(j+1)*q by rw[Aq9,Aq9,Aq9];omega]at this;rw[hr];exact this.same hsm (.inr (by omega))
   obtain⟨r2,c,g2,hr2,hp2,h3,h4,h5,h6,h7⟩:=ih (r.length-(a+2*q)) (by omega) (a+2*q) r rfl (by omega) (by omega) (Nat.dvd_add hd (Nat.dvd_refl _)) hb2 ht2;rw[hr]at g2 h3 h4;refine⟨r2,c,?_,by omega,hp2.trans hp,h3,h4,h5,h6,h7⟩;refine As K Gv (YU ..) ?_;refine Cx ?_;rw[show Ah.add .i64 (a:Int) (q:Int)=((a+q:Nat):Int) by rw[Gy (by omega) (by omega)];omega,
    show Ah.mul .i64 2 (q:Int)=((2*q:Nat):Int) by
     show IntKind.i64.wrap (2*(q:Int))=_
     rw[IntKind.wrap_i64];omega,
    show Ah.add .i64 ((a+2*q:Nat):Int) ((2*q:Nat):Int)=((a+2*q+2*q:Nat):Int) by rw[Gy (by omega) (by omega)];omega]
   refine Aa g ?_;simp only[EP,ND,DK,Ab];refine Aa g2 ?_;rfl
  .refine⟨l,a,?_,rfl,List.Perm.refl _,ha,by omega,hd,hb,ht⟩
   refine As K Gv (YU ..) ?_;exact C2 rfl
omit K in
theorem UT{q c:Nat}{r:List Pt}(hq:0<q)(hd:q ∣ c)(hn:r.length<c+q)(hb:Tl q c r)(hs:Srt Pt.v r c r.length):TlS q 0 r:=λj=>by
 rw[Aqw,Aqw];have e:(j+1)*q=j*q+q:=by rw[Aq9];omega
 by_cases h1:j*q+q<=c
 .have:=hb (j*q) (AsQ q j) h1
  intro x y hx hxy hy;exact this x y hx hxy (by omega)
 .by_cases h2:j*q=c
  .intro x y hx hxy hy
   exact hs x y (by omega) hxy (by omega)
  .intro x y hx hxy hy
   exfalso
   by_cases h3:j*q<c
   .have:=As7 (by omega) (Atk hd (AsQ q j))
    omega
   .have:=As7 (by omega) (Atk (AsQ q j) hd)
    omega
theorem AkZ(M:Ms D):∀(m q:Nat) (l:List Pt),l.length-q=m->0<q->q<=2000000000->l.length<=1000000000->TlS q 0 l->
  ∃ r:List Pt,D.ask (.lp 196 1) [.sl 0 0 l.length 3,iv (l.length:Int),EP,iv (q:Int)] [Ω (Ao eP l) U U]
   = Δ (.tup [iv 2,.sl 0 0 l.length 3],[.set (Ω (Ao eP r) U U)])
   ∧ r.length=l.length/\r.Perm l/\Srt Pt.v r 0 r.length:=by
 intro m
 induction m using Arz with
 |_ m ih=>
  intro q l hm hq hq2 hl ht
  by_cases h:q<l.length
  .obtain⟨r,c,g,hr,hp,hc,hn,hd,hb,ht2⟩:=Ak0 K M q hq (by omega) _ 0 l rfl (by omega) hl (AtF _) (λp _ h2=>by omega) ht
   have t0:=ht2 0;have t1:=ht2 1;rw[ArI,Arf,Aqw,Asl]at t0;rw[Asl,show (1+1)*q=2*q from rfl,Ar5 (by omega)]at t1;rw[Aqw]at g;have emul:Ah.mul .i64 2 (q:Int)=((2*q:Nat):Int):=by
    show IntKind.i64.wrap (2*(q:Int))=_
    rw[IntKind.wrap_i64];omega
   have emul2:Ah.mul .i64 (q:Int) 2=((2*q:Nat):Int):=by
    show IntKind.i64.wrap ((q:Int)*2)=_
    rw[IntKind.wrap_i64];omega
   have eadd:Ah.add .i64 (c:Int) (q:Int)=((c+q:Nat):Int):=by rw[Gy (by omega) (by omega)];omega
   by_cases h2:c+q<l.length
   .rw[ArG (by omega)]at t0
    obtain⟨r3,g3,hr3,hp3,ho3,hsm⟩:=M r c (c+q) r.length (by omega) (by omega) (ω _) (by omega) t0 t1;have ht3:TlS (2*q) 0 r3:=UT (by omega) hd (by omega) (λp h1 h2=>(hb p h1 h2).same hsm (.inl (by omega))) (by rw[hr3];exact ho3);obtain⟨r4,g4,hr4,hp4,ho4⟩:=ih (r3.length-2*q) (by omega) (2*q) r3 rfl (by omega) (by omega) (by omega) ht3;rw[hr]at g3 hr3;rw[hr3]at g4 hr4;refine⟨r4,?_,hr4,hp4.trans (hp3.trans hp),ho4⟩;refine As K Gv (TI ..) ?_;refine Ak ?_;rw[emul];refine Aa g ?_;simp only[EP,ND,DK,Ab];refine Ac ?_;rw[eadd,emul2];refine Ak ?_;refine Aa g3 ?_;simp only[EP,ND,DK,Ab];refine Aa g4 ?_;rfl
   .rw[Ar5 (by omega)]at t0
    have ht3:TlS (2*q) 0 r:=UT (by omega) hd (by omega) hb t0;obtain⟨r4,g4,hr4,hp4,ho4⟩:=ih (r.length-2*q) (by omega) (2*q) r rfl (by omega) (by omega) (by omega) ht3;rw[hr]at g4 hr4;refine⟨r4,?_,hr4,hp4.trans hp,ho4⟩;refine As K Gv (TI ..) ?_;refine Ak ?_;rw[emul];refine Aa g ?_;simp only[EP,ND,DK,Ab];refine Ac ?_;rw[eadd,emul2];refine Aj ?_;refine Aa g4 ?_;rfl
  .refine⟨l,?_,rfl,List.Perm.refl _,?_⟩
   .refine As K Gv (TI ..) ?_
    exact Aj rfl
   .have t0:=ht 0
    rw[ArI,Aqw,Aqw,Asl,Ar5 (by omega)]at t0;exact t0
theorem XH(M:Ms D){l:List Pt}(hl:l.length<=1000000000) :
  ∃ r:List Pt,D.ask (.fn 196) [.sl 0 0 l.length 3,iv (l.length:Int),EP] [Ω (Ao eP l) U U]=Δ (.tup [],[.set (Ω (Ao eP r) U U)])
   ∧ r.length=l.length/\r.Perm l/\Srt Pt.v r 0 r.length:=by
 obtain⟨r,c,g,hr,hp,hc,hn,hd,hb⟩:=AkY K _ 0 l rfl (by omega) hl (AtF _) (λp _ h2=>by omega);obtain⟨r2,g2,hr2,hp2,ho2,hsm⟩:=ZK K (a:=c) (b:=r.length) (l:=r) (by omega) (ω _) (by omega);have ht:TlS 20 0 r2:=UT (by omega) hd (by omega) (λp h1 h2=>(hb p h1 h2).same hsm (.inl (by omega))) (by rw[hr2];exact ho2);obtain⟨r3,g3,hr3,hp3,ho3⟩:=AkZ K M _ 20 r2 rfl (by omega) (by omega) (by omega) ht;rw[hr]at g2 hr2;rw[hr2]at g3 hr3;refine⟨r3,?_,hr3,hp3.trans (hp2.trans hp),ho3⟩;refine Aw K Gv (Aob ..) ?_;refine Aa g ?_;simp only[EP,ND,DK,Ab];refine Aa g2 ?_;simp only[EP,ND,DK,Ab];refine Aa g3 ?_;rfl
theorem AgA(M:Ms D){l:List Pt}(hl:l.length<=1000000000) :
  ∃ r:List Pt,D.ask (.fn 136) [.sl 0 0 l.length 3,EP] [Ω (Ao eP l) U U]=Δ (.tup [],[.set (Ω (Ao eP r) U U)])
   ∧ r.length=l.length/\r.Perm l/\Srt Pt.v r 0 r.length:=by
 obtain⟨r,g,h⟩:=XH K M hl;refine⟨r,?_,h⟩;refine Aw K Ahx (AnL ..) ?_;refine Aa g ?_;rfl
end
section
variable {α:Type} (key:α->Int)
structure Rot (l r:List α) (a m b:Nat):Prop where
 out:∀ p,p<a\/b<=p->r[p]? = l[p]?
 low:∀ p,a<=p->p<a+(b-m)->r[p]? = l[p+(m-a)]?
 high:∀ p,a+(b-m)<=p->p<b->r[p]? = l[p-(b-m)]?
structure SwR (l r:List α) (a b n:Nat):Prop where
 out:∀ p,p<a\/(a+n<=p/\p<b)\/b+n<=p->r[p]? = l[p]?
 low:∀ p,a<=p->p<a+n->r[p]? = l[p+(b-a)]?
 high:∀ p,b<=p->p<b+n->r[p]? = l[p-(b-a)]?
theorem Ce{l:List α}{i j:Nat}(h:i=j):l[i]? = l[j]?:=by rw[h]
theorem AaC{c d r:List α}{i j m:Nat}(h0:i<=m)(h:j<i)(s:SwR c d (m-i) m j)(t:Rot d r (m-(i-j)) m (m+j)):Rot c r (m-i) m (m+j):=by
 refine⟨λp hp=>?_,λp h1 h2=>?_,λp h1 h2=>?_⟩
 .rw[t.out p (by omega),s.out p (by omega)]
 .rw[t.out p (by omega),s.low p (by omega) (by omega)]
 .by_cases h3:p<m-(i-j)+j
  .rw[t.low p (by omega) (by omega),s.high _ (by omega) (by omega)]
   exact Ce (by omega)
  .rw[t.high p (by omega) (by omega),s.out _ (by omega)]
theorem Xj{c d r:List α}{i j m:Nat}(h0:i<=m)(h:i<j)(s:SwR c d (m-i) (m+j-i) i)(t:Rot d r (m-i) m (m+(j-i))):Rot c r (m-i) m (m+j):=by
 refine⟨λp hp=>?_,λp h1 h2=>?_,λp h1 h2=>?_⟩
 .rw[t.out p (by omega),s.out p (by omega)]
 .by_cases h3:p<m-i+(j-i)
  .rw[t.low p (by omega) (by omega),s.out _ (by omega)]
  .rw[t.high p (by omega) (by omega),s.low _ (by omega) (by omega)]
   exact Ce (by omega)
 .rw[t.out p (by omega),s.high p (by omega) (by omega)]
  exact Ce (by omega)
theorem AaE{c r:List α}{i m:Nat}(h0:i<=m)(s:SwR c r (m-i) m i):Rot c r (m-i) m (m+i):=by
 refine⟨λp hp=>?_,λp h1 h2=>?_,λp h1 h2=>?_⟩
 .rw[s.out p (by omega)]
 .rw[s.low p (by omega) (by omega)]
 .rw[s.high p (by omega) (by omega)]
  exact Ce (by omega)
theorem FJ{l:List α}{a m b:Nat}(h:a=m\/m=b)(ha:a<=m)(hb:m<=b):Rot l l a m b:=by
 refine⟨λp hp=>rfl,λp h1 h2=>Ce (by omega),λp h1 h2=>Ce (by omega)⟩
theorem Aa3{l r:List α}{a b n:Nat}(hab:a+n<b)(hb:b+n<l.length)(s:SwR l r a b n)(hr:r.length=l.length):SwR l (CR r (a+n) (b+n)) a b (n+1):=by
 have ha:a+n<r.length:=by omega
 have hb2:b+n<r.length:=by omega
 have e1:∀ p,(CR r (a+n) (b+n))[p]? = if p=a+n then r[b+n]? else if p=b+n then r[a+n]? else r[p]?:=λp=>by
  rw[DG ha hb2]
  by_cases h1:p=b+n
  .subst h1
   rw[if_neg (by omega),if_pos rfl,Arv (by simpa using hb2),θ ha]
  .rw[Arn (λe=>h1 e.symm)]
   by_cases h2:p=a+n
   .subst h2
    rw[if_pos rfl,Arv ha,θ hb2]
   .rw[if_neg h2,if_neg h1,Arn (λe=>h2 e.symm)]
 refine⟨λp hp=>?_,λp h1 h2=>?_,λp h1 h2=>?_⟩
 .rw[e1,if_neg (by omega),if_neg (by omega),s.out p (by omega)]
 .rw[e1]
  by_cases h:p=a+n
  .rw[if_pos h,s.out _ (by omega)]
   exact Ce (by omega)
  .rw[if_neg h,if_neg (by omega),s.low p h1 (by omega)]
 .rw[e1]
  by_cases h:p=b+n
  .rw[if_neg (by omega),if_pos h,s.out _ (by omega)]
   exact Ce (by omega)
  .rw[if_neg (by omega),if_neg h,s.high p h1 (by omega)]
theorem Aa4(l:List α)(a b:Nat):SwR l l a b 0:=⟨λ_ _=>rfl,λ_ h1 h2=>by omega,λ_ h1 h2=>by omega⟩
theorem G3{l r:List α}{p q:Nat}(h:r[p]? = l[q]?):kf key r p=kf key l q:=by
 unfold kf;rw[h]
theorem Rot.kout{l r:List α}{a m b p:Nat}(h:Rot l r a m b)(hp:p<a\/b<=p):kf key r p=kf key l p:=G3 key (h.out p hp)
theorem Rot.klow{l r:List α}{a m b p:Nat}(h:Rot l r a m b)(h1:a<=p)(h2:p<a+(b-m)):kf key r p=kf key l (p+(m-a)):=G3 key (h.low p h1 h2)
theorem Rot.khigh{l r:List α}{a m b p:Nat}(h:Rot l r a m b)(h1:a+(b-m)<=p)(h2:p<b):kf key r p=kf key l (p-(b-m)):=G3 key (h.high p h1 h2)
theorem Sv{l r:List α}{a b i:Nat}(hi:a+1<=i)(hib:i<=b)(hs:Srt key l (a+1) b)(h1:∀ p,a+1<=p->p<i->kf key l p<kf key l a)(h2:∀ p,i<=p->p<b->kf key l a<=kf key l p)(t:Rot l r a (a+1) i):Srt key r a b:=by
 intro p q hp hpq hq
 by_cases q1:q<i-1
 .rw[t.klow key (by omega) (by omega),t.klow key (by omega) (by omega)]
  exact hs _ _ (by omega) (by omega) (by omega)
 .by_cases q2:q=i-1
  .rw[t.klow key (by omega) (by omega),t.khigh key (by omega) (by omega),show q-(i-(a+1))=a by omega]
   have:=h1 (p+(a+1-a)) (by omega) (by omega);omega
  .rw[t.kout key (p:=q) (by omega)]
   by_cases p1:p<i-1
   .rw[t.klow key (by omega) (by omega)]
    exact hs _ _ (by omega) (by omega) (by omega)
   .by_cases p2:p=i-1
    .rw[t.khigh key (by omega) (by omega),show p-(i-(a+1))=a by omega]
     exact h2 q (by omega) hq
    .rw[t.kout key (by omega)]
     exact hs _ _ (by omega) (by omega) (by omega)
theorem Um{l r:List α}{a m i:Nat}(hi:a<=i)(him:i<=m)(hs:Srt key l a m)(h1:∀ p,a<=p->p<i->kf key l p<=kf key l m)(h2:∀ p,i<=p->p<m->kf key l m<kf key l p)(t:Rot l r i m (m+1)):Srt key r a (m+1):=by
 intro p q hp hpq hq
 by_cases p1:p<i
 .rw[t.kout key (p:=p) (by omega)]
  by_cases q1:q<i
  .rw[t.kout key (by omega)]
   exact hs _ _ (by omega) (by omega) (by omega)
  .by_cases q2:q=i
   .rw[t.klow key (by omega) (by omega),show q+(m-i)=m by omega]
    exact h1 p hp p1
   .rw[t.khigh key (by omega) (by omega)]
    exact hs _ _ (by omega) (by omega) (by omega)
 .rw[t.khigh key (p:=q) (by omega) (by omega)]
  by_cases p2:p=i
  .rw[t.klow key (by omega) (by omega),show p+(m-i)=m by omega]
   have:=h2 (q-(m+1-m)) (by omega) (by omega);omega
  .rw[t.khigh key (by omega) (by omega)]
   exact hs _ _ (by omega) (by omega) (by omega)
def Low(l:List α)(a m b:Nat):Prop:=∀ p q,a<=p->p<m->m<=q->q<b->kf key l p<=kf key l q
theorem AgB{l:List α}{a m b:Nat}(h1:Srt key l a m)(h2:Srt key l m b)(h3:Low key l a m b):Srt key l a b:=by
 intro p q hp hpq hq
 by_cases c:q<m
 .exact h1 p q hp hpq c
 .by_cases d:p<m
  .exact h3 p q hp d (by omega) hq
  .exact h2 p q (by omega) hpq hq
structure CutAt (l:List α) (a m b mid s e:Nat):Prop where
 asl:a<=s
 sm:s<=m
 me:m<=e
 eb:e<=b
 mid:s+(e-m)=mid
 up:∀ p q,a<=p->p<s->e<=q->q<b->kf key l p<=kf key l q
 dn:∀ p q,m<=p->p<e->s<=q->q<m->kf key l p<=kf key l q
theorem Ek{l r:List α}{a m b mid s e:Nat}(c:CutAt key l a m b mid s e)(h1:Srt key l a m)(h2:Srt key l m b)(t:Rot l r s m e) :
  Srt key r a s/\Srt key r s mid/\Srt key r mid e/\Srt key r e b/\Low key r a mid b:=by
 have:=c.asl;have:=c.sm;have:=c.me;have:=c.eb;have:=c.mid;refine⟨λp q x y z=>?_,λp q x y z=>?_,λp q x y z=>?_,λp q x y z=>?_,λp q x y z w=>?_⟩
 .rw[t.kout key (by omega),t.kout key (by omega)]
  exact h1 _ _ (by omega) (by omega) (by omega)
 .rw[t.klow key (by omega) (by omega),t.klow key (by omega) (by omega)]
  exact h2 _ _ (by omega) (by omega) (by omega)
 .rw[t.khigh key (by omega) (by omega),t.khigh key (by omega) (by omega)]
  exact h1 _ _ (by omega) (by omega) (by omega)
 .rw[t.kout key (by omega),t.kout key (by omega)]
  exact h2 _ _ (by omega) (by omega) (by omega)
 .by_cases p1:p<s
  .rw[t.kout key (p:=p) (by omega)]
   by_cases q1:q<e
   .rw[t.khigh key (by omega) (by omega)]
    exact h1 _ _ (by omega) (by omega) (by omega)
   .rw[t.kout key (by omega)]
    exact c.up _ _ (by omega) (by omega) (by omega) (by omega)
  .rw[t.klow key (p:=p) (by omega) (by omega)]
   by_cases q1:q<e
   .rw[t.khigh key (by omega) (by omega)]
    exact c.dn _ _ (by omega) (by omega) (by omega) (by omega)
   .rw[t.kout key (by omega)]
    exact h2 _ _ (by omega) (by omega) (by omega)
theorem VD{l r:List α}{a b:Nat}(hp:r.Perm l)(hs:Same0 l r a b){p:Nat}(h1:a<=p)(h2:p<b)(hb:b<=l.length):∃ q,a<=q/\q<b/\r[p]? = l[q]?:=by
 have hlen:=hp.length_eq;have ht:r.take a=l.take a:=by
  apply Atf;intro i;rw[AqH,AqH];split
  .exact hs i (by omega)
  .rfl
 have hd:r.drop b=l.drop b:=by
  apply Atf;intro i;rw[Arj,Arj];exact hs _ (by omega)
 have er:∀ x:List α,b<=x.length->x=x.take a++((x.drop a).take (b-a)++x.drop b):=λx hx=>by
  have e1:=(Asw a x).symm;have e2:=(Asw (b-a) (x.drop a)).symm;rw[AsD,show a+(b-a)=b by omega]at e2;rw[←e2];exact e1
 have hp2:(r.take a++((r.drop a).take (b-a)++r.drop b)).Perm (l.take a++((l.drop a).take (b-a)++l.drop b)):=by
  rw[←er r (by omega),←er l hb];exact hp
 rw[ht,hd]at hp2;have hp3:=(List.perm_append_right_iff _).1 ((List.perm_append_left_iff _).1 hp2);have hpr:p<r.length:=by omega
 have hm:r[p]∈(r.drop a).take (b-a):=by
  rw[As1];refine⟨p-a,?_⟩;rw[AqH,if_pos (by omega),Arj,show a+(p-a)=p by omega,θ hpr]
 have hm2:=hp3.mem_iff.1 hm;rw[As1]at hm2;obtain⟨i,hi⟩:=hm2;rw[AqH]at hi;split at hi
 .rename_i hib
  rw[Arj]at hi;exact⟨a+i,by omega,by omega,by rw[hi,θ hpr]⟩
 .cases hi
theorem Z0{l r:List α}{a m b:Nat}(h:Low key l a m b)(hp:r.Perm l)(hs:Same0 l r a m)(hb:m<=l.length):Low key r a m b:=by
 intro p q x y z w;obtain⟨p2,h1,h2,h3⟩:=VD hp hs x y hb;rw[G3 key h3,hs.kf key (by omega)];exact h p2 q h1 h2 z w
theorem WX{l r:List α}{a m b:Nat}(h:Low key l a m b)(hp:r.Perm l)(hs:Same0 l r m b)(hb:b<=l.length):Low key r a m b:=by
 intro p q x y z w;obtain⟨q2,h1,h2,h3⟩:=VD hp hs z w hb;rw[G3 key h3,hs.kf key (by omega)];exact h p q2 x y h1 h2
theorem Srt.same'{l r:List α}{a b p q:Nat}(h:Srt key l p q)(hs:Same0 l r a b)(hd:q<=a\/b<=p):Srt key r p q:=by
 intro x y h1 h2 h3;rw[hs.kf key (by omega),hs.kf key (by omega)];exact h x y h1 h2 h3
theorem JX{l:List α}{a s m:Nat}(h:s=a\/s=m)(h1:Srt key l a s)(h2:Srt key l s m):Srt key l a m:=by
 rcases h with rfl|rfl
 .exact h2
 .exact h1
structure Bs (l:List α) (n x y s r:Nat):Prop where
 xs:x<=s
 sr:s<=r
 ry:r<=y
 lo:∀ c,x<=c->c<s->kf key l c<=kf key l (n-1-c)
 hi:∀ c,r<=c->c<y->kf key l (n-1-c)<kf key l c
section
variable {l:List α} {n x y s r a m b:Nat}
theorem Bs.up(B:Bs key l n x y s r)(h1:Srt key l a m)(h2:Srt key l m b)(hx:a<=x)(hy:y<=m)(hn:n<=x+b)(hm:m+y<=n){c:Nat}(hc:s<=c)(hr:c<r)(h:kf key l c<=kf key l (n-1-c)):Bs key l n x y (c+1) r:=by
 have:=B.xs;have:=B.sr;have:=B.ry;refine⟨by omega,by omega,B.ry,λd hd1 hd2=>?_,B.hi⟩
 by_cases hdc:d=c
 .rw[hdc];exact h
 .have e1:=h1 d c (by omega) (by omega) (by omega)
  have e2:=h2 (n-1-c) (n-1-d) (by omega) (by omega) (by omega);omega
theorem Bs.dn(B:Bs key l n x y s r)(h1:Srt key l a m)(h2:Srt key l m b)(hx:a<=x)(hy:y<=m)(hn:n<=x+b)(hm:m+y<=n){c:Nat}(hc:s<=c)(hr:c<r)(h:kf key l (n-1-c)<kf key l c):Bs key l n x y s c:=by
 have:=B.xs;have:=B.sr;have:=B.ry;refine⟨B.xs,hc,by omega,B.lo,λd hd1 hd2=>?_⟩
 by_cases hdc:d=c
 .rw[hdc];exact h
 .have e1:=h1 c d (by omega) (by omega) (by omega)
  have e2:=h2 (n-1-d) (n-1-c) (by omega) (by omega) (by omega);omega
theorem Bs.cut{mid:Nat}(B:Bs key l (mid+m) x y s s)(h1:Srt key l a m)(h2:Srt key l m b)(hx:a<=x)(hy:y<=m)(hn:mid+m<=x+b)(hm:y<=mid)(cx:x=a\/mid+m=x+b)(cy:y=m\/y=mid):CutAt key l a m b mid s (mid+m-s):=by
 have:=B.xs;have:=B.ry;refine⟨by omega,by omega,by omega,by omega,by omega,λp q c1 c2 c3 c4=>?_,λp q c1 c2 c3 c4=>?_⟩
 .have hs:x<s:=by omega
  have e:=B.lo (s-1) (by omega) (by omega);rw[show mid+m-1-(s-1)=mid+m-s by omega]at e;have e1:kf key l p<=kf key l (s-1):=by
   by_cases h:p=s-1
   .rw[h];exact AsY _
   .exact h1 _ _ (by omega) (by omega) (by omega)
  have e2:kf key l (mid+m-s)<=kf key l q:=by
   by_cases h:q=mid+m-s
   .rw[h];exact AsY _
   .exact h2 _ _ (by omega) (by omega) (by omega)
  omega
 .have hs:s<y:=by omega
  have e:=B.hi s (by omega) (by omega);have e1:kf key l p<=kf key l (mid+m-1-s):=by
   by_cases h:p=mid+m-1-s
   .rw[h];exact AsY _
   .exact h2 _ _ (by omega) (by omega) (by omega)
  have e2:kf key l s<=kf key l q:=by
   by_cases h:q=s
   .rw[h];exact AsY _
   .exact h1 _ _ (by omega) (by omega) (by omega)
  omega
end
theorem AkU{l r:List α}{a k:Nat}(h:a<=k)(hk:k+1<l.length)(hr:r.length=l.length)(t:Rot l r a (a+1) (k+1)):Rot l (CR r k (k+1)) a (a+1) (k+2):=by
 have e1:∀ p,(CR r k (k+1))[p]? = if p=k then r[k+1]? else if p=k+1 then r[k]? else r[p]?:=λp=>by
  rw[DG (by omega) (by omega)]
  by_cases h1:p=k+1
  .subst h1
   rw[if_neg (by omega),if_pos rfl,Arv (by rw[AqW];omega),θ (by omega)]
  .rw[Arn (λe=>h1 e.symm)]
   by_cases h2:p=k
   .subst h2
    rw[if_pos rfl,Arv (by omega),θ (by omega)]
   .rw[if_neg h2,if_neg h1,Arn (λe=>h2 e.symm)]
 refine⟨λp hp=>?_,λp h1 h2=>?_,λp h1 h2=>?_⟩
 .rw[e1,if_neg (by omega),if_neg (by omega),t.out p (by omega)]
 .rw[e1]
  by_cases h:p=k
  .rw[if_pos h,t.out _ (by omega)]
   exact Ce (by omega)
  .rw[if_neg h,if_neg (by omega),t.low p h1 (by omega)]
 .rw[e1,if_neg (by omega),if_pos (by omega),t.high k (by omega) (by omega)]
  exact Ce (by omega)
theorem AaB{l r:List α}{m k:Nat}(h:k<m)(hk:m<l.length)(hr:r.length=l.length)(t:Rot l r (k+1) m (m+1)):Rot l (CR r (k+1) k) k m (m+1):=by
 have e1:∀ p,(CR r (k+1) k)[p]? = if p=k then r[k+1]? else if p=k+1 then r[k]? else r[p]?:=λp=>by
  rw[DG (by omega) (by omega)]
  by_cases h1:p=k
  .subst h1
   rw[if_pos rfl,Arv (by rw[AqW];omega),θ (by omega)]
  .rw[if_neg h1,Arn (λe=>h1 e.symm)]
   by_cases h2:p=k+1
   .subst h2
    rw[if_pos rfl,Arv (by omega),θ (by omega)]
   .rw[if_neg h2,Arn (λe=>h2 e.symm)]
 refine⟨λp hp=>?_,λp h1 h2=>?_,λp h1 h2=>?_⟩
 .rw[e1,if_neg (by omega),if_neg (by omega),t.out p (by omega)]
 .rw[e1,if_pos (by omega),t.low (k+1) (by omega) (by omega)]
  exact Ce (by omega)
 .rw[e1,if_neg (by omega)]
  by_cases h:p=k+1
  .rw[if_pos h,t.out _ (by omega)]
   exact Ce (by omega)
  .rw[if_neg h,t.high p (by omega) (by omega)]
end
