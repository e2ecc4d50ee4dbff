/- slices.Clone over this s -/
import Derived.Maps.AppendAt
import Derived.Test.YtpncilciembjdaaGreatDoorJAM
import Derived.Test.YtpncilciembjdaaGreatDoorJAO
import Derived.Test.YtpncilciembjdaaGreatDoorJAP
import Derived.Lib.AppendZeros
set_option linter.all false
open Bool renaming false->Ξ,true->U,and_eq_true->Atk
open Int renaming le_refl->AvI
open List renaming append_assoc->Atp,drop->Atg,drop_drop->Avp,drop_eq_getElem_cons->χ,drop_eq_nil_of_le->Atc,drop_zero->ι,eq_nil_of_length_eq_zero->AtJ,ext_getElem?->AvX,flatten_cons->Aug,getElem?_drop->Aud,getElem?_eq_getElem->δ,getElem?_set_ne->Aua,getElem?_set_self->Aul,getElem?_take->AtC,length->Awl,length_append->γ,length_cons->Ate,length_set->AtL,length_singleton->AtP,length_take->AtN,map_take->Avt,mem_cons->Atd,mem_cons_of_mem->Atj,mem_cons_self->Atq,mem_filter->Auk,mem_iff_getElem?->AvM,mem_map->AtH,mem_of_mem_drop->At6,mem_replicate->AvT,mem_singleton->AtX,nil_append->Atw,pairwise_cons->AtV,pairwise_singleton->AvF,replicate->Auu,set_eq_take_append_cons_drop->Ave,tail_drop->Au5,take->ε,take_append_drop->AuR,take_length->Aur,take_succ_eq_append_getElem->Auf
open Nat renaming add_mul->At2,add_zero->At3,ble->Atl,dvd_mul_left->AvB,dvd_sub->Av0,dvd_zero->Awi,eq_zero_or_pos->AvU,le_of_dvd->AvP,le_refl->η,min_eq_left->AuL,min_eq_right->AvC,mod_lt->AuP,mul_add->Avq,mul_assoc->Avf,mul_one->Avr,ne_of_gt->Awj,one_mul->Au8,pow_le_pow_right->Aus,pow_succ->Auy,strongRecOn->Aun,zero_add->Ato,zero_le->AtI,zero_mul->Auz
open Option renaming none->Θ,some->Δ
namespace Go.Proofs.YtpncilciembjdaaGreatDoor
noncomputable section
open ABlk renaming mk->Ψ
open AV renaming agg->ξ,ls->Φ,sl->π,tup->Ath,v->Ati
open BO renaming set->Atb
open IntKind renaming i64->Ω,u32->υ,u64->φ
open Key renaming fn->ω,lp->ο
open Lib renaming hid->κ,run_eql_slice_nil->AvK
open Option.some renaming injEq->θ
open Tryz renaming prog->ζ
open Go.RowKit
theorem OY(a:Addr)(j:Nat):(a.add j).block=a.block:=by unfold Addr.add;split<;>rfl
set_option maxRecDepth 100000 in
set_option maxHeartbeats 4000000 in
theorem M8(w:World)(A:Option Addr)(n c:Nat)(us:AA)(hn:us.length=n*3)(hc:n<=c)(hA:n≠0->∃ g o,A=Δ ⟨g,o,Θ⟩/\∀ j u,us[j]? = Δ u->w.cell? ⟨g,o+j,Θ⟩=Δ u)
  (h1:∀ u∈us,u.oneCell'=U) (hby:n*40<=140737488355328) :
  Calls ζ 135 #[.slice A n c] w λe w'=>∃ v',e=.returned v'/\w'.ownsRow w.heap.size 84 3 v' n us/\Below w.heap.size w w':=by
 obtain⟨i0,hi0,hz0,hz1,hz2⟩:=info_parts (show (Tryz.prog.info? 84).map (λi=>(i.zero,i.size,i.bytes))=Δ (Δ (.agg #[.int .i64 0,.bool Ξ,.slice Θ 0 0]),3,40) by kernel_rfl);have HU:=κ hn;have HA:=κ hA;have H1:=κ h1;clear hn hA h1;have hq:∀(w:World) (a:Option Addr) (n c:Nat),(binOp .eql 22 (.slice a n c) (.slice Θ 0 0)).run ζ w=.ok (.bool a.isNone) w:=λw a n c=>AvK w _ _ a n c 0 0 Tryz.underlying22
 go_enter Tryz.func135,Tryz.ntmps135
 cases A with
 |none=>
  have h0:n=0:=by
   rcases AvU n with h|h
   .exact h
   .exfalso
    obtain⟨g,o,h2,_⟩:=HA.out (Awj h)
    cases h2
  subst h0
  go_wp2
  go_ret
  have hu:us=[]:=AtJ (by rw[HU.out,Auz]);rw[hu];exact⟨_,rfl,World.ownsRow_nil _ _ _ _,Below.refl _ _⟩
 |some ad=>
  obtain⟨ag,ao,asp⟩:=ad;have hcells:∀ j u,us[j]? = Δ u->ag<w.heap.size/\w.cell? ((⟨ag,ao,asp⟩:Addr).add j)=Δ u:=λj u hj=>by
   have hn0:n≠0:=by
    rintro rfl;have hu:us=[]:=AtJ (by rw[HU.out,Auz]);rw[hu]at hj
    cases hj
   obtain⟨g,o,h2,h3⟩:=HA.out hn0
   cases h2
   have h5:=h3 j u hj;exact⟨C7 h5,by rw[G6];exact h5⟩
  have HC:=κ hcells;clear hcells
  go_wp2_with (at_builtin;refine wpList_append_own_at _ rfl _ _ 22 rfl w.heap.size 84 i0 (.agg #[.int .i64 0,.bool Ξ,.slice Θ 0 0]) 3 40 Tryz.underlying22 hi0 hz0 hz1 hz2 rfl (by decide) _ 0 [] rfl ?c0 ⟨ag,ao,asp⟩ n c us rfl HU.out ?c1 H1.out ?c3 ?c4 ?c5 ?_)
  case c0=>exact⟨by simp,.inr ⟨w.heap.size,0,#[],rfl,η _,heap_alloc_new _ _,η _,AtI _,by simp,by simp⟩⟩
  case c1=>
   intro j u hj;have:=HC.out j u hj;exact((Be w (.cells #[] 84)).cell (p:=(⟨ag,ao,asp⟩:Addr).add j) (by rw[OY];exact this.1)).trans this.2
  case c3=>unfold maxLen;omega
  case c4=>omega
  case c5=>exact(Be w _).size
  intro v' w3 hown hgrow _ _
  try simp only[Ato,Atw]at hown
  have HO:=κ hown;have HB:=κ ((Be w (.cells #[] 84)).grown hgrow (Be w _).size (λk hk=>by have hk:Δ w.heap.size=Δ k:=hk;cases hk;exact η _));clear hown hgrow
  go_wp2_with fail
  go_ret
  exact⟨_,rfl,HO.out,HB.out⟩
set_option maxRecDepth 100000 in
set_option maxHeartbeats 4000000 in
theorem Ua(w:World)(A:Option Addr)(n c:Nat)(us:AA)(hn:us.length=n*1)(hc:n<=c)(hA:n≠0->∃ g o,A=Δ ⟨g,o,Θ⟩/\∀ j u,us[j]? = Δ u->w.cell? ⟨g,o+j,Θ⟩=Δ u)
  (h1:∀ u∈us,u.oneCell'=U) (hby:n*4<=140737488355328) :
  Calls ζ 236 #[.slice A n c] w λe w'=>∃ v',e=.returned v'/\w'.ownsRow w.heap.size 134 1 v' n us/\Below w.heap.size w w':=by
 obtain⟨i0,hi0,hz0,hz1,hz2⟩:=info_parts (show (Tryz.prog.info? 134).map (λi=>(i.zero,i.size,i.bytes))=Δ (Δ (.int .u32 0),1,4) by kernel_rfl);have HU:=κ hn;have HA:=κ hA;have H1:=κ h1;clear hn hA h1;have hq:∀(w:World) (a:Option Addr) (n c:Nat),(binOp .eql 24 (.slice a n c) (.slice Θ 0 0)).run ζ w=.ok (.bool a.isNone) w:=λw a n c=>AvK w _ _ a n c 0 0 Tryz.underlying24
 go_enter Tryz.func236,Tryz.ntmps236
 cases A with
 |none=>
  have h0:n=0:=by
   rcases AvU n with h|h
   .exact h
   .exfalso
    obtain⟨g,o,h2,_⟩:=HA.out (Awj h)
    cases h2
  subst h0
  go_wp2
  go_ret
  have hu:us=[]:=AtJ (by rw[HU.out,Auz]);rw[hu];exact⟨_,rfl,World.ownsRow_nil _ _ _ _,Below.refl _ _⟩
 |some ad=>
  obtain⟨ag,ao,asp⟩:=ad;have hcells:∀ j u,us[j]? = Δ u->ag<w.heap.size/\w.cell? ((⟨ag,ao,asp⟩:Addr).add j)=Δ u:=λj u hj=>by
   have hn0:n≠0:=by
    rintro rfl;have hu:us=[]:=AtJ (by rw[HU.out,Auz]);rw[hu]at hj
    cases hj
   obtain⟨g,o,h2,h3⟩:=HA.out hn0
   cases h2
   have h5:=h3 j u hj;exact⟨C7 h5,by rw[G6];exact h5⟩
  have HC:=κ hcells;clear hcells
  go_wp2_with (at_builtin;refine wpList_append_own_at _ rfl _ _ 24 rfl w.heap.size 134 i0 (.int .u32 0) 1 4 Tryz.underlying24 hi0 hz0 hz1 hz2 rfl (by decide) _ 0 [] rfl ?c0 ⟨ag,ao,asp⟩ n c us rfl HU.out ?c1 H1.out ?c3 ?c4 ?c5 ?_)
  case c0=>exact⟨by simp,.inr ⟨w.heap.size,0,#[],rfl,η _,heap_alloc_new _ _,η _,AtI _,by simp,by simp⟩⟩
  case c1=>
   intro j u hj;have:=HC.out j u hj;exact((Be w (.cells #[] 134)).cell (p:=(⟨ag,ao,asp⟩:Addr).add j) (by rw[OY];exact this.1)).trans this.2
  case c3=>unfold maxLen;omega
  case c4=>omega
  case c5=>exact(Be w _).size
  intro v' w3 hown hgrow _ _
  try simp only[Ato,Atw]at hown
  have HO:=κ hown;have HB:=κ ((Be w (.cells #[] 134)).grown hgrow (Be w _).size (λk hk=>by have hk:Δ w.heap.size=Δ k:=hk;cases hk;exact η _));clear hown hgrow
  go_wp2_with fail
  go_ret
  exact⟨_,rfl,HO.out,HB.out⟩
section
variable {μ:Mu} {F:AP} {w:World} {g:Nat}
theorem VN:∀(xs:Aa) (o:Nat),RepAt μ F w g xs o->∃ us,RepList μ F w xs us/\∀ j u,us[j]? = Δ u->w.cell? ⟨g,o+j,Θ⟩=Δ u
 |[],o,_=>⟨[],rfl,λj u h=>by simp at h⟩
 |x::r,o,h=>by
  simp only[RepAt]at h;obtain⟨⟨_,u,h2,h3⟩,h4⟩:=h;obtain⟨us,h5,h6⟩:=VN r (o+1) h4;refine⟨u::us,⟨u,us,rfl,h3,h5⟩,λj v hj=>?_⟩
  cases j with
  |zero=>simp at hj;subst hj;exact h2
  |succ j=>
   have:=h6 j v (by simpa using hj)
   rwa [show o+1+j=o+(j+1) by omega]at this
theorem Ld{e:Nat}:∀(xs:Rw) (o:Nat),RepRows μ F w g e xs o->∃ us,RepList μ F w xs.flatten us/\∀ j u,us[j]? = Δ u->w.cell? ⟨g,o+j,Θ⟩=Δ u
 |[],o,_=>⟨[],rfl,λj u h=>by simp at h⟩
 |x::r,o,h=>by
  simp only[RepRows]at h;obtain⟨h1,h2,h3⟩:=h;obtain⟨us,a1,a2⟩:=VN x o h2;obtain⟨vs,b1,b2⟩:=Ld r (o+e) h3;refine⟨us++vs,by rw[Aug];exact RepList.append a1 b1,λj v hj=>?_⟩;have hl:us.length=e:=by rw[a1.length,h1]
  by_cases hj2:j<us.length
  .exact a2 j v (by rwa [List.getElem?_append_left hj2]at hj)
  .rw[List.getElem?_append_right (by omega),hl]at hj
   have:=b2 (j-e) v hj
   rwa [show o+e+(j-e)=o+j by omega]at this
end
def Ce(e B:Nat):Aa->Option (Nat × Aa)
 |[.ls xs]=>if(Fs e xs&&I9 (Ip xs)&&AU (Ip xs)&&Atl (Bb xs*B) 140737488355328)=U then Δ (Bb xs,Ip xs) else Θ
 |_=>Θ
theorem IR{P:Program}{f:Nat}{ety:TypeId}(e B:Nat) (h:∀(w:World) (A:Option Addr) (n c:Nat) (us:AA),us.length=n*e->n<=c->(n≠0->∃ g o,A=Δ ⟨g,o,Θ⟩/\∀ j u,us[j]? = Δ u->w.cell? ⟨g,o+j,Θ⟩=Δ u)->
  (∀ u∈us,u.oneCell'=U)->n*B<=140737488355328->Calls P f #[.slice A n c] w λe' w'=>∃ v',e'=.returned v'/\w'.ownsRow w.heap.size ety e v' n us/\Below w.heap.size w w'):A1 (Bi P f) (DS e (Ce e B)):=by
 refine H7 (Ci P f) e _ λargs n cells hr=>?_
 unfold Ce at hr;split at hr
 .rename_i xs
  split at hr
  .rename_i hc
   simp only[Atk,Nat.ble_eq]at hc;obtain⟨⟨⟨c1,c2⟩,c3⟩,c4⟩:=hc;rw[HE]at c1;rw[Jt]at c2 c3;rw[Gr]at c4;simp only[θ,Prod.mk.injEq]at hr;obtain⟨rfl,rfl⟩:=hr;rw[Gr,Jt];have hlen:xs.flatten.length=xs.length*e:=by
    clear c2 c3 c4
    induction xs with
    |nil=>simp
    |cons x r ih=>
     rw[List.all_cons,Atk]at c1;rw[Aug,γ,ih c1.2,Ate,At2,Au8];have:x.length=e:=by simpa using c1.1
     omega
   refine⟨c3,hlen,λμ F w us hF hus=>?_⟩;obtain⟨v,t,rfl,hv,ht⟩:=hus;have ht:t=[]:=ht;subst ht;unfold Rep at hv;obtain⟨_,A,c,rfl,h2,_,h4⟩:=hv;have key:∃ vs,RepList μ F w xs.flatten vs/\(xs.length≠0->∃ g o,A=Δ ⟨g,o,Θ⟩/\∀ j u,vs[j]? = Δ u->w.cell? ⟨g,o+j,Θ⟩=Δ u):=by
    by_cases hx:xs=[]
    .subst hx
     exact⟨[],rfl,λh=>absurd rfl h⟩
    .obtain⟨g,o,e',hA,hr⟩:=h4 hx
     obtain⟨vs,k1,k2⟩:=Ld xs o hr;exact⟨vs,k1,λ_=>⟨g,o,hA,k2⟩⟩
   obtain⟨vs,k1,k2⟩:=key;have hone:∀ u∈vs,u.oneCell'=U:=λu hu=>by
    obtain⟨j,hj,rfl⟩:=List.getElem_of_mem hu;have hj2:j<xs.flatten.length:=by rw[←k1.length];exact hj
    obtain⟨u,a1,a2⟩:=k1.get (δ hj2);rw[δ hj]at a1
    cases a1
    rw[Fl]at c2;exact a2.one (List.all_eq_true.1 c2 _ (List.getElem_mem hj2))
   refine Calls.mono (h w A xs.length c vs (by rw[k1.length,hlen]) h2 k2 hone c4) ?_;rintro e' w' ⟨v',rfl,ho,hb⟩;exact⟨v',rfl,ety,vs,ho,hb,k1⟩
  .cases hr
 .cases hr
theorem HT:A1 (Bi ζ 236) (DS 1 (Ce 1 4)):=IR 1 4 λw A n c us h1 h2 h3 h4 h5=>Ua w A n c us h1 h2 h3 h4 h5
theorem M9:A1 (Bi ζ 135) (DS 3 (Ce 3 40)):=IR 3 40 λw A n c us h1 h2 h3 h4 h5=>M8 w A n c us h1 h2 h3 h4 h5
set_option maxRecDepth 100000 in
set_option maxHeartbeats 4000000 in
theorem Xz(w:World)(n:Nat)(hby:n*40<=140737488355328) :
  Calls ζ 262 #[.slice Θ 0 0,.int .i64 n] w λe w'=>∃ v',e=.returned v'/\w'.ownsRow w.heap.size 84 3 v' 0 []/\Below w.heap.size w w':=by
 have y0:¬ (n:Int)<0:=by omega
 go_enter Tryz.func262,Tryz.ntmps262
 by_cases h0:n=0
 .subst h0
  go_wp2
  go_ret
  exact⟨_,rfl,World.ownsRow_nil _ _ _ _,Below.refl _ _⟩
 .have y1:(0:Int)<(n:Int):=by omega
  obtain⟨i0,hi0,hz0,hz1,hz2⟩:=info_parts (show (Tryz.prog.info? 84).map (λi=>(i.zero,i.size,i.bytes))=Δ (Δ (.agg #[.int .i64 0,.bool Ξ,.slice Θ 0 0]),3,40) by kernel_rfl);have hr:=λty=>Lib.run_append_nil_zeros (P:=ζ) w 22 3 ty 84 i0 _ .i64 .i64 Tryz.underlying22 Tryz.underlying3 hi0 hz0 n (by omega) (by rw[hz1];decide) (by omega) (by rw[hz2];omega)
  have c1:=grownCap_ge w n 0 84;have c2:=grownCap_le_maxLen w n 0 84 (by unfold maxLen;omega);have HR:=κ hr;clear hr;generalize grownCap w n 0 84=cap at *
  go_wp2_with (at_builtin;refine Lib.wpList_append_run _ rfl _ _ _ _ rfl _ _ rfl rfl _ _ (HR.out _) ?_)
  go_wp2_with fail
  go_ret
  refine⟨_,rfl,⟨by simp,.inr ⟨w.heap.size,cap,_,rfl,η _,heap_alloc_new _ _,AtI _,c2,?_,by simp⟩⟩,?_⟩
  .rw[Array.size_append,size_zeroCells,size_zeroCells]
   show n*3+(cap-n)*3=cap*3
   omega
  .exact(M2 (Below.refl _ _)).alloc (η _) _
def Dy(B:Nat):Aa->Option (Nat × Aa)
 |[.v (.slice Θ 0 0),.v (.int .i64 (.ofNat n))]=>if Atl (n*B) 140737488355328=U then Δ (0,[]) else Θ
 |_=>Θ
theorem H8:A1 (Bi ζ 262) (DS 3 (Dy 40)):=by
 refine H7 (Ci _ _) 3 _ λargs n cells hr=>?_
 unfold Dy at hr;split at hr
 .rename_i k
  split at hr
  .rename_i hk
   simp only[θ,Prod.mk.injEq]at hr;obtain⟨rfl,rfl⟩:=hr;refine⟨rfl,rfl,λμ F w us hF hus=>?_⟩;obtain⟨u,t,rfl,hu,u2,t2,rfl,hu2,ht⟩:=hus;have ht:t2=[]:=ht;subst ht;unfold Rep at hu hu2;rw[hu.1,hu2.1];refine Calls.mono (Xz w k (Nat.le_of_ble_eq_true hk)) ?_;rintro e' w' ⟨v',rfl,ho,hb⟩;exact⟨v',rfl,_,[],ho,hb,rfl⟩
  .cases hr
 .cases hr
def Bj(v:Int):List (Int × Int)->Int
 |[]=>0
 |p::r=>(if p.1=v then p.2 else 0)+Bj v r
theorem EN{v:Int}:∀{l:List (Int × Int)},(∀ p∈l,p.1≠v)->Bj v l=0
 |[],_=>rfl
 |p::r,h=>by
  rw[Bj,Ad (h p (Atq ..)),EN λq hq=>h q (Atj _ hq)];rfl
theorem Nc{v:Int}{a b:List (Int × Int)}(h:a.Perm b):Bj v a=Bj v b:=by
 induction h with
 |nil=>rfl
 |cons x _ ih=>rw[Bj,Bj,ih]
 |swap x y l=>rw[Bj,Bj,Bj,Bj];omega
 |trans _ _ ih1 ih2=>rw[ih1,ih2]
theorem FG{v:Int}(hv:0<=v):∀ l:List (Int × Int),Bj v (l.filter λp=>decide (0<=p.1))=Bj v l
 |[]=>rfl
 |p::r=>by
  have ih:=FG hv r
  by_cases h:0<=p.1
  .grind [Bj]
  .grind [Bj]
structure Pln (l:List (Int × Int)):Prop where
 asc:l.Pairwise λa b=>a.1<b.1
 pos:∀ p∈l,0<=p.1
 nz:∀ p∈l,p.2≠0
theorem WE:Pln []:=⟨.nil,by simp,by simp⟩
theorem Pln.tail{p:Int × Int}{r:List (Int × Int)}(h:Pln (p::r)):Pln r:=⟨(AtV.1 h.asc).2,λq hq=>h.pos q (Atj _ hq),λq hq=>h.nz q (Atj _ hq)⟩
theorem Pln.head{p:Int × Int}{r:List (Int × Int)}(h:Pln (p::r)):Bj p.1 (p::r)=p.2:=by
 rw[Bj,Ac rfl,EN λq hq=>by have:=(AtV.1 h.asc).1 q hq;omega];omega
theorem Pln.below{p:Int × Int}{r:List (Int × Int)}(h:Pln (p::r)){v:Int}(hv:v<p.1):Bj v (p::r)=0:=by
 refine EN λq hq=>?_
 rcases Atd.1 hq with rfl|hq
 .omega
 .have:=(AtV.1 h.asc).1 q hq
  omega
theorem Pln.ext:∀{a b:List (Int × Int)},Pln a->Pln b->(∀ v,Bj v a=Bj v b)->a=b
 |[],[],_,_,_=>rfl
 |[],q::s,_,hb,h=>by
  have h1:=hb.head;rw[←h q.1]at h1;exact absurd h1.symm (hb.nz q (Atq ..))
 |p::r,[],ha,_,h=>by
  have h1:=ha.head;rw[h p.1]at h1;exact absurd h1.symm (ha.nz p (Atq ..))
 |p::r,q::s,ha,hb,h=>by
  have h1:=ha.head;have h2:=hb.head;have n1:=ha.nz p (Atq ..);have n2:=hb.nz q (Atq ..);have e:p.1=q.1:=by
   rcases Int.lt_trichotomy p.1 q.1 with h3|h3|h3
   .rw[h p.1,hb.below h3]at h1
    exact absurd h1.symm n1
   .exact h3
   .rw[←h q.1,ha.below h3]at h2
    exact absurd h2.symm n2
  have e2:p.2=q.2:=by rw[←h1,←h2,h p.1,e]
  have ep:p=q:=Prod.ext e e2;rw[ep,Pln.ext ha.tail hb.tail λv=>by
   have:=h v;rw[Bj,Bj,ep]at this;omega]
def Hh(v c:Int):List (Int × Int)->List (Int × Int)
 |[]=>if c=0 then [] else [(v,c)]
 |p::r=>if v<p.1 then(if c=0 then p::r else(v,c)::p::r) else if p.1<v then p::Hh v c r else if p.2+c=0 then r else(v,p.2+c)::r
theorem KW(v c u:Int):∀ l:List (Int × Int),Bj u (Hh v c l)=(if v=u then c else 0)+Bj u l
 |[]=>by
  grind [Bj,Hh]
 |p::r=>by
  have ih:=KW v c u r;unfold Hh;split
  .split
   .rename_i h;rw[h];simp
   .rfl
  .grind [Bj]
theorem SD{v c:Int}:∀{l:List (Int × Int)} {q:Int × Int},q∈Hh v c l->q.1=v\/q∈l
 |[],q,h=>by
  unfold Hh at h;split at h
  .exact .inr h
  .grind
 |p::r,q,h=>by
  unfold Hh at h;split at h
  .grind
  .split at h
   .rcases Atd.1 h with h|h
    .grind
    .rcases SD h with h|h
     .exact .inl h
     .grind
   .grind
theorem SE{v c:Int}(hv:0<=v):∀{l:List (Int × Int)},Pln l->Pln (Hh v c l)
 |[],_=>by
  unfold Hh;split
  .exact WE
  .rename_i h
   exact⟨AvF _ _,by simpa using hv,by simpa using h⟩
 |p::r,h=>by
  have ih:=SE (c:=c) hv h.tail;have hp:=AtV.1 h.asc;unfold Hh;split
  .rename_i h1
   split
   .exact h
   .rename_i h2
    refine⟨AtV.2 ⟨λq hq=>?_,h.asc⟩,λq hq=>?_,λq hq=>?_⟩
    .grind
    .grind
    .rcases Atd.1 hq with rfl|hq
     .exact h2
     .exact h.nz q hq
  .split
   .rename_i h1 h2
    refine⟨AtV.2 ⟨λq hq=>?_,ih.asc⟩,λq hq=>?_,λq hq=>?_⟩
    .grind [SD]
    .rcases Atd.1 hq with rfl|hq
     .exact h.pos _ (Atq ..)
     .exact ih.pos q hq
    .rcases Atd.1 hq with rfl|hq
     .exact h.nz _ (Atq ..)
     .exact ih.nz q hq
   .rename_i h1 h2
    split
    .exact h.tail
    .rename_i h3
     refine⟨AtV.2 ⟨λq hq=>?_,hp.2⟩,λq hq=>?_,λq hq=>?_⟩
     .grind
     .grind
     .rcases Atd.1 hq with rfl|hq
      .exact h3
      .exact h.tail.nz q hq
def Bu:List (Int × Int)->List (Int × Int)
 |[]=>[]
 |p::r=>if 0<=p.1 then Hh p.1 p.2 (Bu r) else Bu r
theorem Dj:∀ l:List (Int × Int),Pln (Bu l)
 |[]=>WE
 |p::r=>by
  unfold Bu;split
  .rename_i h;exact SE h (Dj r)
  .exact Dj r
theorem Gw(v:Int):∀ l:List (Int × Int),Bj v (Bu l)=if 0<=v then Bj v l else 0
 |[]=>by simp[Bu,Bj]
 |p::r=>by
  have ih:=Gw v r;unfold Bu
  by_cases h:0<=p.1
  .by_cases hv:0<=v
   .simp_all [Bj,Ac,KW]
   .rw[Ac h,KW,ih,Ad hv,Ad hv,Ad (by omega)]
    rfl
  .grind [Bj]
theorem JY{l r:List (Int × Int)}(h:Pln r)(hc:∀ v,0<=v->Bj v r=Bj v l):r=Bu l:=by
 refine Pln.ext h (Dj l) λv=>?_
 rw[Gw]
 by_cases hv:0<=v
 .rw[Ac hv,hc v hv]
 .rw[Ad hv]
  refine EN λp hp e=>?_
  have:=h.pos p hp;omega
theorem U6{l:List (Int × Int)}(h:Pln l):Bu l=l:=(JY h λ_ _=>rfl).symm
theorem Ii:∀ l:List (Int × Int),(Bu l).length<=l.length
 |[]=>η _
 |p::r=>by
  have ih:=Ii r;have ins:∀ l:List (Int × Int),(Hh p.1 p.2 l).length<=l.length+1:=λl=>by
   induction l with
   |nil=>unfold Hh;split<;>simp
   |cons q s ih=>
    unfold Hh;split
    .split<;>simp
    .grind
  unfold Bu;split
  .grind
  .grind
structure Tm where
 ps:List Pt
 k:Zi
def eT(t:Tm):Aa:=[.ls (t.ps.map eP),bv t.k.neg,eN t.k.abs]
structure Lf where
 ps:List (Int × Int)
 k:Int
def pv(p:Pt):Int × Int:=(p.v,zv p.z)
def Bc(p:Int × Int):Pt:=⟨p.1,AY p.2⟩
def Tm.lf(t:Tm):Lf:=⟨t.ps.map pv,zv t.k⟩
def Lf.tm(l:Lf):Tm:=⟨l.ps.map Bc,AY l.k⟩
def Lf.pln(l:Lf):Lf:=⟨Bu l.ps,l.k⟩
theorem AhX(p:Int × Int):pv (Bc p)=p:=by
 unfold pv Bc;rw[BY]
theorem Ey(l:Lf):l.tm.lf=l:=by
 obtain⟨ps,k⟩:=l;unfold Lf.tm Tm.lf;simp only[List.map_map,BY];rw[show (pv ∘ Bc)=id from funext AhX,List.map_id]
theorem AhP(l:Lf):l.pln.pln=l.pln:=by
 unfold Lf.pln;rw[U6 (Dj _)]
structure TmB (n k:Nat) (t:Tm):Prop where
 len:t.ps.length<=n
 ps:∀ p∈t.ps,Lz k p.z
 k:Lz k t.k
structure LB (n k:Nat) (l:Lf):Prop where
 len:l.ps.length<=n
 ps:∀ p∈l.ps,InB k p.2
 k:InB k l.k
theorem TmB.lb{n k:Nat}{t:Tm}(h:TmB n k t):LB n k t.lf:=by
 refine⟨by simpa[Tm.lf]using h.len,λp hp=>?_,h.k.inb⟩;simp only[Tm.lf,AtH]at hp;obtain⟨q,hq,rfl⟩:=hp;exact(h.ps q hq).inb
theorem LB.tb{n k:Nat}{l:Lf}(h:LB n k l):TmB n k l.tm:=by
 refine⟨by simpa[Lf.tm]using h.len,λp hp=>?_,h.k.lz⟩;simp only[Lf.tm,AtH]at hp;obtain⟨q,hq,rfl⟩:=hp;exact(h.ps q hq).lz
theorem LB.mono{n k m j:Nat}{l:Lf}(h:LB n k l)(hn:n<=m)(hk:k<=j):LB m j l:=⟨by have:=h.len;omega,λp hp=>(h.ps p hp).mono hk,h.k.mono hk⟩
theorem TmB.mono{n k m j:Nat}{t:Tm}(h:TmB n k t)(hn:n<=m)(hk:k<=j):TmB m j t:=⟨by have:=h.len;omega,λp hp=>(h.ps p hp).mono hk,h.k.mono hk⟩
theorem KK{k:Nat}(v:Int):∀ l:List (Int × Int),(∀ p∈l,InB k p.2)->InB (k+l.length) (Bj v l)
 |[],_=>InB.zero _
 |p::r,h=>by
  have h1:=KK v r λq hq=>h q (Atj _ hq)
  have h2:=h p (Atq ..);rw[Bj,Ate,←Nat.add_assoc];refine InB.add ?_ h1;split
  .exact h2.mono (by omega)
  .exact InB.zero _
theorem Pln.mem:∀{l:List (Int × Int)},Pln l->∀ p∈l,Bj p.1 l=p.2
 |q::r,h,p,hp=>by
  rcases Atd.1 hp with rfl|hp
  .exact h.head
  .rw[Bj,Ad (by have:=(AtV.1 h.asc).1 p hp;omega),h.tail.mem p hp]
   omega
theorem LB.pln{n k:Nat}{l:Lf}(h:LB n k l):LB n (k+n) l.pln:=by
 have hl:=Ii l.ps;refine⟨by have:=h.len;simp only[Lf.pln];omega,λp hp=>?_,h.k.mono (by omega)⟩;have h1:=(Dj l.ps).mem p hp;rw[Gw,Ac ((Dj l.ps).pos p hp)]at h1;rw[←h1];exact(KK p.1 l.ps h.ps).mono (by have:=h.len;omega)
def Lf.add(a b:Lf):Lf:=Lf.pln ⟨a.ps++b.ps,a.k+b.k⟩
def Lf.scale(a:Lf)(n:Int):Lf:=Lf.pln ⟨a.ps.map λp=>(p.1,p.2*n),a.k*n⟩
def Lf.sub(a b:Lf):Lf:=a.add (b.scale (-1))
def Lf.num(k:Int):Lf:=⟨[],k⟩
theorem LB.app{n k m j:Nat}{a b:Lf}(ha:LB n k a)(hb:LB m j b):LB (n+m) (k+j+1) ⟨a.ps++b.ps,a.k+b.k⟩:=by
 refine⟨by have:=ha.len;have:=hb.len;simp only[γ];omega,λp hp=>?_,InB.add (ha.k.mono (by omega)) (hb.k.mono (by omega))⟩;rcases List.mem_append.1 hp with h|h
 .exact(ha.ps p h).mono (by omega)
 .exact(hb.ps p h).mono (by omega)
theorem LB.mul{n k j:Nat}{a:Lf}{x:Int}(ha:LB n k a)(hx:InB j x):LB n (k+j) ⟨a.ps.map λp=>(p.1,p.2*x),a.k*x⟩:=by
 refine⟨by simpa using ha.len,λp hp=>?_,InB.mul ha.k hx⟩;simp only[AtH]at hp;obtain⟨q,hq,rfl⟩:=hp;exact InB.mul (ha.ps q hq) hx
theorem LB.add{n k m j:Nat}{a b:Lf}(ha:LB n k a)(hb:LB m j b):LB (n+m) (k+j+1+(n+m)) (a.add b):=(ha.app hb).pln
theorem LB.scale{n k j:Nat}{a:Lf}{x:Int}(ha:LB n k a)(hx:InB j x):LB n (k+j+n) (a.scale x):=(ha.mul hx).pln
def ApK(f:Int->Int):List (Int × Int)->Int
 |[]=>0
 |p::r=>p.2*f p.1+ApK f r
def Lf.val(f:Int->Int)(l:Lf):Int:=ApK f l.ps+l.k
def Dt:List (Int × Int)->Int × Int->List (Int × Int)
 |[],p=>if p.1<0 then [] else [p]
 |q::r,p=>if p.1<0 then q::r else if q.1=p.1 then(q.1,q.2+p.2)::r else p::q::r
theorem Ej(p:Int × Int):Dt [] p=if p.1<0 then [] else [p]:=rfl
theorem DG(q:Int × Int)(r:List (Int × Int))(p:Int × Int):Dt (q::r) p=if p.1<0 then q::r else if q.1=p.1 then(q.1,q.2+p.2)::r else p::q::r:=rfl
structure GrpI (s t:List (Int × Int)):Prop where
 desc:s.Pairwise λa b=>b.1<a.1
 pos:∀ q∈s,0<=q.1
 up:∀ q∈s,∀ p∈t,0<=p.1->q.1<=p.1
theorem XB(v:Int)(hv:0<=v):∀(s:List (Int × Int)) (p:Int × Int),Bj v (Dt s p)=Bj v s+(if p.1=v then p.2 else 0)
 |[],p=>by
  rw[Ej];split
  .rw[Ad (by omega)];simp[Bj]
  .simp[Bj]
 |q::r,p=>by
  rw[DG];split
  .rw[Ad (by omega)];omega
  .split
   .rename_i h
    rw[Bj,Bj];simp only[h];split<;>omega
   .rw[Bj]
    omega
theorem AaG{s t:List (Int × Int)}{p:Int × Int}(h:GrpI s (p::t))(ht:∀ x∈t,p.1<=x.1):GrpI (Dt s p) t:=by
 have ut:∀ q∈s,∀ x∈t,0<=x.1->q.1<=x.1:=λq hq x hx=>h.up q hq x (Atj _ hx)
 cases s with
 |nil=>
  rw[Ej];split
  .exact⟨.nil,by simp,by simp⟩
  .exact⟨AvF _ _,by simp;omega,λq hq x hx _=>by rw[AtX.1 hq];exact ht x hx⟩
 |cons q r=>
  have hd:=AtV.1 h.desc;rw[DG];split
  .exact⟨h.desc,h.pos,ut⟩
  .rename_i hp
   split
   .refine⟨AtV.2 ⟨λx hx=>hd.1 x hx,hd.2⟩,λx hx=>?_,λx hx y hy hy0=>?_⟩
    .rcases Atd.1 hx with rfl|hx
     .exact h.pos q (Atq ..)
     .exact h.pos x (Atj _ hx)
    .rcases Atd.1 hx with rfl|hx
     .exact ut q (Atq ..) y hy hy0
     .exact ut x (Atj _ hx) y hy hy0
   .rename_i hne
    have hq:=h.up q (Atq ..) p (Atq ..) (by omega);refine⟨AtV.2 ⟨λx hx=>?_,h.desc⟩,λx hx=>?_,λx hx y hy hy0=>?_⟩
    .rcases Atd.1 hx with rfl|hx
     .omega
     .have:=hd.1 x hx;omega
    .rcases Atd.1 hx with rfl|hx
     .omega
     .exact h.pos x hx
    .rcases Atd.1 hx with rfl|hx
     .exact ht y hy
     .exact ut x hx y hy hy0
theorem V6:∀(t s:List (Int × Int)),t.Pairwise (λa b=>a.1<=b.1)->GrpI s t->GrpI (t.foldl Dt s) []/\∀ v,0<=v->Bj v (t.foldl Dt s)=Bj v s+Bj v t
 |[],s,_,h=>⟨h,λv _=>by simp[Bj]⟩
 |p::t,s,ht,h=>by
  have hp:=AtV.1 ht;obtain⟨g1,g2⟩:=V6 t (Dt s p) hp.2 (AaG h hp.1);refine⟨g1,λv hv=>?_⟩;rw[List.foldl_cons,g2 v hv,XB v hv,Bj];omega
theorem RS(v:Int):∀ l:List (Int × Int),Bj v (l.filter λp=>!decide (p.2=0))=Bj v l
 |[]=>rfl
 |p::r=>by
  have ih:=RS v r
  by_cases h:p.2=0
  .rw[List.filter_cons_of_neg (by simp[h]),ih,Bj,h]
   simp
  .rw[List.filter_cons_of_pos (by simp[h]),Bj,Bj,ih]
theorem V7{t l:List (Int × Int)}(ht:t.Pairwise λa b=>a.1<=b.1)(hp:t.Perm l):((t.foldl Dt []).reverse).filter (λp=>!decide (p.2=0))=Bu l:=by
 obtain⟨g1,g2⟩:=V6 t [] ht ⟨.nil,by simp,by simp⟩;refine JY ⟨?_,λp h=>?_,λp h=>?_⟩ λv hv=>?_
 .refine List.Pairwise.filter _ ?_
  rw[List.pairwise_reverse];exact g1.desc
 .have:=(Auk.1 h).1
  exact g1.pos p (List.mem_reverse.1 this)
 .simpa using (Auk.1 h).2
 .rw[RS,Nc (List.reverse_perm _),g2 v hv,Nc hp]
  simp[Bj]
theorem JC{k:Nat}{s:List (Int × Int)}{p:Int × Int}(hs:∀ q∈s,InB k q.2)(hp:InB k p.2):∀ q∈Dt s p,InB (k+1) q.2:=by
 cases s with
 |nil=>
  rw[Ej];split
  .simp
  .intro q hq
   rw[AtX.1 hq];exact hp.mono (by omega)
 |cons q r=>
  rw[DG];have hq:=hs q (Atq ..);have hr:∀ x∈r,InB (k+1) x.2:=λx hx=>(hs x (Atj _ hx)).mono (by omega)
  split
  .intro x hx
   rcases Atd.1 hx with rfl|hx
   .exact hq.mono (by omega)
   .exact hr x hx
  .split
   .intro x hx
    rcases Atd.1 hx with rfl|hx
    .exact InB.add hq hp
    .exact hr x hx
   .intro x hx
    rcases Atd.1 hx with rfl|hx
    .exact hp.mono (by omega)
    .rcases Atd.1 hx with rfl|hx
     .exact hq.mono (by omega)
     .exact hr x hx
theorem JD(s:List (Int × Int))(p:Int × Int):(Dt s p).length<=s.length+1:=by
 cases s with
 |nil=>rw[Ej];split<;>simp
 |cons q r=>
  rw[DG];split
  .simp
  .split<;>simp
section
open Go.RowKit
def Wr:MFn:=AE [⟨21,(mB 9),[],[],[(1,((mB 9),([],[])))]⟩] 200
def Sv:Hnt:=⟨[],[(0,[(1,([.ls,.int .i64],[]))])],[(12,[.int .u32]),(13,[.int .u32])]⟩
def Akq:MFn:=AE [] 202
def AjO:Hnt:=⟨[(200,(.ls,[])),(236,(.sl 0 1,[.row U]))],[],[]⟩
def Akl:MFn:=AE [] 184
def AjJ:Hnt:=⟨[(202,(.ls,[]))],[],[]⟩
def Ws:MFn:=AE [⟨49,(mB 35),[],[],[(0,((mB 16),([],[]))),(2,([],([],[])))]⟩] 201
def Sw:Hnt:=⟨[(200,(.ls,[]))],[(0,[(0,([.int .i64],[])),(2,([],[]))])],[(32,[.int .u32]),(33,[.int .u32]),(36,[.int .u32]),(37,[.int .u32]),(42,[.int .u32]),(43,[.int .u32]),(46,[.int .u32]),(47,[.int .u32])]⟩
def Wp:MFn:=AE [⟨61,(mB 234881122),[(5,1)],[],[(1,((mB 96),([],[])))]⟩] 197
def St:Hnt:=⟨[(200,(.ls,[])),(202,(.ls,[]))],[(0,[(1,([.sl 1 1,.int .u64],[.del,.row U]))])],[(30,[.int .u32]),(31,[.int .u32]),(43,[.int .u32]),(44,[.int .u32])]⟩
def Wq:MFn:=AE [⟨59,(mB 58720450),[(6,1)],[],[(1,((mB 64),([],[])))]⟩] 198
def Su:Hnt:=⟨[(200,(.ls,[])),(201,(.int .i64,[])),(202,(.ls,[]))],[(0,[(1,([.sl 1 1],[.del,.row U]))])],[(28,[.int .u32]),(29,[.int .u32]),(38,[.int .u32]),(39,[.int .u32])]⟩
def PE:MFn:=AE [⟨68,(mB 1835042),[],[],[(1,((mB 32),([],[])))]⟩,⟨68,(mB 236716514),[],[],[(3,((mB 1835362),([],[])))]⟩] 243
def LQ:Hnt:=⟨[(202,(.ls,[]))],[(0,[(1,([.sl 1 1],[.del,.row U]))]),(1,[(3,([.ls,.sl 1 1,.int .i64,.int .u64,.ls,.int .i64,.int .i64],[.del,.row U]))])],[(23,[.int .u32]),(24,[.int .u32]),(30,[.int .u32]),(31,[.int .u32]),(41,[.int .u32]),(42,[.int .u32]),(53,[.int .u32]),(64,[.int .u32])]⟩
def Akr:MFn:=AE [] 212
def AjP:Hnt:=⟨[(200,(.ls,[])),(243,(.ls,[])),(244,(.ls,[]))],[],[]⟩
def PV:List (Nat × MFn):=[(200,Wr),(202,Akq),(184,Akl),(201,Ws),(197,Wp),(198,Wq),(243,PE),(212,Akr)]
variable (A:Ar) (D:Orc)
theorem AqW(x0:Rw):BZ A D Aq Sv .n 200 Wr [Φ x0] [] =
 Ag D (ο 200 0) [Φ x0,iv ↑(Bb x0)] [] [.t,.C,.x,.X,.Y] λc l o=>
 br (Bg 1 c)
 (dk [.L,.I,.N,.E] [.l l,.o o] λxs n=>
 unI n λi=>
 br (I4 0 i (Bb xs)) (br (Fs 1 xs) (Δ ((Φ (Ha (HD xs i) 0),[]))) Θ) Θ)
 (Θ):=by kernel_rfl
theorem Z6(t0:Rw)(t3:Int):C2 A D Aq Sv .n 200 0 (AN Wr 0).fst (AN Wr 0).snd [Φ t0,iv t3] [] =
 br (A.lt 0 t3)
 (unI (A.sub Ω t3 1) λi=>
 Bh t0 i λcs=>
 dk [.J .u32,.N] [.l cs] λn=>
 br (A.eq n 0)
 (AT D (ο 200 0) [Φ t0,iv (A.sub Ω t3 1)] [] λr o=>
 AI 0 [] (AH.mk [] 0 Θ) [] r o)
 (Δ ((Ath [iv 0,Φ t0,iv t3],[]))))
 (Δ ((Ath [iv 0,Φ t0,iv t3],[]))):=by kernel_rfl
theorem AqY(x0:Rw):BZ A D Aq AjO .n 202 Akq [Φ x0] [] =
 Ag D (ω 200) [Φ x0] [] [.l,.E] λxs=>
 Ag D (ω 236) [Φ xs] [] [.q 0 1,.R,.X,.E] λn cs=>
 br ((0+n*1).ble cs.length) (Δ ((Φ (Bk n 1 (ε (n*1) cs)),[]))) Θ:=by kernel_rfl
theorem AqM(x0:Int):BZ A D Aq AjJ .n 184 Akl [Ati (Value.int φ x0)] [] =
 br (A.lt 32 0)
 (Θ)
 (Ag D (ω 202) [Φ [[Ati (Value.int υ (A.conv υ x0))],[Ati (Value.int υ (A.conv υ (A.shr φ x0 32)))]]] [] [.l,.E] λxs=>
 Δ ((Φ xs,[]))):=by kernel_rfl
theorem AqX(x0 x1:Rw):BZ A D Aq Sw .n 201 Ws [Φ x0,Φ x1] [] =
 Ag D (ω 200) [Φ x0] [] [.l,.E] λxs=>
 Ag D (ω 200) [Φ x1] [] [.l,.E] λxs1=>
 br (A.lt ↑(Bb xs) ↑(Bb xs1))
 (Δ ((iv (-1),[])))
 (br (A.lt ↑(Bb xs1) ↑(Bb xs))
 (Δ ((iv 1,[])))
 (Ag D (ο 201 0) [Φ xs,Φ xs1,iv (A.sub Ω (↑(Bb xs)) 1)] [] [.t,.C,.x,.X,.Y] λc l o2=>
 br (Bg 0 c)
 (dk [.I,.N,.E] [.l l,.o o2] λn=>
 Δ ((iv n,[])))
 (br (Bg 2 c)
 (E0 l<|
 CW o2<|
 Δ ((iv 0,[])))
 (Θ)))):=by kernel_rfl
theorem Z7(t0 t1:Rw)(t5:Int):C2 A D Aq Sw .n 201 0 (AN Ws 0).fst (AN Ws 0).snd [Φ t0,Φ t1,iv t5] [] =
 br (A.le 0 t5)
 (unI t5 λi=>
 Bh t0 i λcs=>
 dk [.J .u32,.N] [.l cs] λn=>
 unI t5 λi1=>
 Bh t1 i1 λcs1=>
 dk [.J .u32,.N] [.l cs1] λn1=>
 br (A.lt n n1)
 (Δ ((Ath [bv U,iv (-1)],[])))
 (unI t5 λi2=>
 Bh t0 i2 λcs2=>
 dk [.J .u32,.N] [.l cs2] λn2=>
 unI t5 λi3=>
 Bh t1 i3 λcs3=>
 dk [.J .u32,.N] [.l cs3] λn3=>
 br (A.lt n3 n2)
 (Δ ((Ath [bv U,iv 1],[])))
 (AT D (ο 201 0) [Φ t0,Φ t1,iv (A.sub Ω t5 1)] [] λr o=>
 AI 0 [] (AH.mk [] 0 Θ) [] r o)))
 (Δ ((Ath [iv 1],[]))):=by kernel_rfl
theorem AqT(x0 x1:Rw):BZ A D Aq St .n 197 Wp [Φ x0,Φ x1] [] =
 Ag D (ω 200) [Φ x0] [] [.l,.E] λxs=>
 Ag D (ω 200) [Φ x1] [] [.l,.E] λxs1=>
 br (A.lt ↑(Bb xs) ↑(Bb xs1))
 (unI (A.add Ω (↑(Bb xs1)) 1) λi=>
 br (Bo i 4) (AT D (ο 197 0) [Φ xs,π 0 0 0 1,Ati (Value.int φ 0),Φ xs1,iv ↑(Bb xs1),iv 0] [Ψ [] U U] λr2 o2=>
 dk [.t,.C,.x,.X] [.v r2] λc l=>
 br (Bg 1 c)
 (dk [.C,.q 1 1,.J .u64,.N,.D,.R,.X,.E] [.l l,.o o2] λn n1 cs1=>
 br (Bo (n+1) 4) (br ((0+n*1).ble cs1.length) (br ((0+(n+1)*1).ble (Atg 0 (ε (0+n*1) cs1)++[Ati (Value.int υ (A.conv υ n1))]).length) (AT D (ω 202) [Φ (Bk (n+1) 1 (ε ((n+1)*1) (Atg 0 (Atg 0 (ε (0+n*1) cs1)++[Ati (Value.int υ (A.conv υ n1))]))))] [] λr3 o3=>
 dk [.l,.E] [.v r3,.o o3] λxs2=>
 Δ ((Φ xs2,[]))) Θ) Θ) Θ)
 (Θ)) Θ)
 (unI (A.add Ω (↑(Bb xs)) 1) λi=>
 br (Bo i 4) (AT D (ο 197 0) [Φ xs1,π 0 0 0 1,Ati (Value.int φ 0),Φ xs,iv ↑(Bb xs),iv 0] [Ψ [] U U] λr2 o2=>
 dk [.t,.C,.x,.X] [.v r2] λc l=>
 br (Bg 1 c)
 (dk [.C,.q 1 1,.J .u64,.N,.D,.R,.X,.E] [.l l,.o o2] λn n1 cs1=>
 br (Bo (n+1) 4) (br ((0+n*1).ble cs1.length) (br ((0+(n+1)*1).ble (Atg 0 (ε (0+n*1) cs1)++[Ati (Value.int υ (A.conv υ n1))]).length) (AT D (ω 202) [Φ (Bk (n+1) 1 (ε ((n+1)*1) (Atg 0 (Atg 0 (ε (0+n*1) cs1)++[Ati (Value.int υ (A.conv υ n1))]))))] [] λr3 o3=>
 dk [.l,.E] [.v r3,.o o3] λxs2=>
 Δ ((Φ xs2,[]))) Θ) Θ) Θ)
 (Θ)) Θ):=by kernel_rfl
theorem Z4(t1:Rw)(n5:Nat)(c5:Aa)(t6:Int)(t25:Rw)(t26 t27:Int):C2 A D Aq St .n 197 0 (AN Wp 0).fst (AN Wp 0).snd [Φ t1,π 0 0 n5 1,Ati (Value.int φ t6),Φ t25,iv t26,iv t27] [{ cells:=c5,st:=U,ex:=U }] =
 br (A.lt t27 t26)
 (unI t27 λi=>
 Bh t25 i λcs=>
 dk [.J .u32,.N] [.l cs] λn=>
 br (A.lt t27 ↑(Bb t1))
 (unI t27 λi1=>
 Bh t1 i1 λcs1=>
 dk [.J .u32,.N] [.l cs1] λn1=>
 br (Bo (n5+1) 4) (br ((0+n5*1).ble c5.length) (br (A.lt 32 0)
 (Θ)
 (AT D (ο 197 0) [Φ t1,π 0 0 (n5+1) 1,Ati (Value.int φ (A.shr φ (A.add φ (A.add φ (A.conv φ n) t6) (A.conv φ n1)) 32)),Φ t25,iv t26,iv (A.add Ω t27 1)] [Ψ (Atg 0 (ε (0+n5*1) c5)++[Ati (Value.int υ (A.conv υ (A.add φ (A.add φ (A.conv φ n) t6) (A.conv φ n1))))]) U U] λr o=>
 AI 1 [2] (AH.mk [(2,Ψ (Atg 0 (ε (0+n5*1) c5)++[Ati (Value.int υ (A.conv υ (A.add φ (A.add φ (A.conv φ n) t6) (A.conv φ n1))))]) U U),(1,Ψ [Ati (Value.int υ (A.conv υ (A.add φ (A.add φ (A.conv φ n) t6) (A.conv φ n1))))] U U)] 3 Θ) [0] r o)) Θ) Θ)
 (br (Bo (n5+1) 4) (br ((0+n5*1).ble c5.length) (br (A.lt 32 0)
 (Θ)
 (AT D (ο 197 0) [Φ t1,π 0 0 (n5+1) 1,Ati (Value.int φ (A.shr φ (A.add φ (A.conv φ n) t6) 32)),Φ t25,iv t26,iv (A.add Ω t27 1)] [Ψ (Atg 0 (ε (0+n5*1) c5)++[Ati (Value.int υ (A.conv υ (A.add φ (A.conv φ n) t6)))]) U U] λr o=>
 AI 1 [2] (AH.mk [(2,Ψ (Atg 0 (ε (0+n5*1) c5)++[Ati (Value.int υ (A.conv υ (A.add φ (A.conv φ n) t6)))]) U U),(1,Ψ [Ati (Value.int υ (A.conv υ (A.add φ (A.conv φ n) t6)))] U U)] 3 Θ) [0] r o)) Θ) Θ))
 (Δ ((Ath [iv 0,π 1 0 n5 1,Ati (Value.int φ t6)],[BO.del,Atb (Ψ c5 U U)]))):=by kernel_rfl
theorem AqU(x0 x1:Rw):BZ A D Aq Su .n 198 Wq [Φ x0,Φ x1] [] =
 Ag D (ω 200) [Φ x0] [] [.l,.E] λxs=>
 Ag D (ω 200) [Φ x1] [] [.l,.E] λxs1=>
 Ag D (ω 201) [Φ xs,Φ xs1] [] [.i,.E] λn=>
 br (A.lt n 0)
 (Δ ((Ath [Φ [],bv Ξ],[])))
 (br (Bo (Bb xs) 4) (AT D (ο 198 0) [Φ xs1,π 0 0 0 1,Ati (Value.int φ 0),Φ xs,iv ↑(Bb xs),iv 0] [Ψ [] U U] λr3 o3=>
 dk [.t,.C,.x,.X] [.v r3] λc l=>
 br (Bg 1 c)
 (dk [.C,.q 1 1,.N,.D,.R,.X,.E] [.l l,.o o3] λn1 cs1=>
 br ((0+n1*1).ble cs1.length) (AT D (ω 202) [Φ (Bk n1 1 (ε (n1*1) cs1))] [] λr4 o4=>
 Lv r4 λxs2=>
 CW o4<|
 Δ ((Ath [Φ xs2,bv U],[]))) Θ)
 (Θ)) Θ):=by kernel_rfl
theorem Z5(t1:Rw)(n6:Nat)(c6:Aa)(t7:Int)(t23:Rw)(t24 t25:Int):C2 A D Aq Su .n 198 0 (AN Wq 0).fst (AN Wq 0).snd [Φ t1,π 0 0 n6 1,Ati (Value.int φ t7),Φ t23,iv t24,iv t25] [{ cells:=c6,st:=U,ex:=U }] =
 br (A.lt t25 t24)
 (unI t25 λi=>
 Bh t23 i λcs=>
 dk [.J .u32,.N] [.l cs] λn=>
 br (A.lt t25 ↑(Bb t1))
 (unI t25 λi1=>
 Bh t1 i1 λcs1=>
 dk [.J .u32,.N] [.l cs1] λn1=>
 br (A.lt (A.conv φ n) (A.add φ t7 (A.conv φ n1)))
 (br (Bo (n6+1) 4) (br ((0+n6*1).ble c6.length) (AT D (ο 198 0) [Φ t1,π 0 0 (n6+1) 1,Ati (Value.int φ 1),Φ t23,iv t24,iv (A.add Ω t25 1)] [Ψ (Atg 0 (ε (0+n6*1) c6)++[Ati (Value.int υ (A.conv υ (A.sub φ (A.add φ (A.conv φ n) 4294967296) (A.add φ t7 (A.conv φ n1)))))]) U U] λr o=>
 AI 1 [2] (AH.mk [(2,Ψ (Atg 0 (ε (0+n6*1) c6)++[Ati (Value.int υ (A.conv υ (A.sub φ (A.add φ (A.conv φ n) 4294967296) (A.add φ t7 (A.conv φ n1)))))]) U U),(1,Ψ [Ati (Value.int υ (A.conv υ (A.sub φ (A.add φ (A.conv φ n) 4294967296) (A.add φ t7 (A.conv φ n1)))))] U U)] 3 Θ) [0] r o) Θ) Θ)
 (br (Bo (n6+1) 4) (br ((0+n6*1).ble c6.length) (AT D (ο 198 0) [Φ t1,π 0 0 (n6+1) 1,Ati (Value.int φ 0),Φ t23,iv t24,iv (A.add Ω t25 1)] [Ψ (Atg 0 (ε (0+n6*1) c6)++[Ati (Value.int υ (A.conv υ (A.sub φ (A.conv φ n) (A.add φ t7 (A.conv φ n1)))))]) U U] λr o=>
 AI 1 [2] (AH.mk [(2,Ψ (Atg 0 (ε (0+n6*1) c6)++[Ati (Value.int υ (A.conv υ (A.sub φ (A.conv φ n) (A.add φ t7 (A.conv φ n1)))))]) U U),(1,Ψ [Ati (Value.int υ (A.conv υ (A.sub φ (A.conv φ n) (A.add φ t7 (A.conv φ n1)))))] U U)] 3 Θ) [0] r o) Θ) Θ))
 (br (A.lt (A.conv φ n) t7)
 (br (Bo (n6+1) 4) (br ((0+n6*1).ble c6.length) (AT D (ο 198 0) [Φ t1,π 0 0 (n6+1) 1,Ati (Value.int φ 1),Φ t23,iv t24,iv (A.add Ω t25 1)] [Ψ (Atg 0 (ε (0+n6*1) c6)++[Ati (Value.int υ (A.conv υ (A.sub φ (A.add φ (A.conv φ n) 4294967296) t7)))]) U U] λr o=>
 AI 1 [2] (AH.mk [(2,Ψ (Atg 0 (ε (0+n6*1) c6)++[Ati (Value.int υ (A.conv υ (A.sub φ (A.add φ (A.conv φ n) 4294967296) t7)))]) U U),(1,Ψ [Ati (Value.int υ (A.conv υ (A.sub φ (A.add φ (A.conv φ n) 4294967296) t7)))] U U)] 3 Θ) [0] r o) Θ) Θ)
 (br (Bo (n6+1) 4) (br ((0+n6*1).ble c6.length) (AT D (ο 198 0) [Φ t1,π 0 0 (n6+1) 1,Ati (Value.int φ 0),Φ t23,iv t24,iv (A.add Ω t25 1)] [Ψ (Atg 0 (ε (0+n6*1) c6)++[Ati (Value.int υ (A.conv υ (A.sub φ (A.conv φ n) t7)))]) U U] λr o=>
 AI 1 [2] (AH.mk [(2,Ψ (Atg 0 (ε (0+n6*1) c6)++[Ati (Value.int υ (A.conv υ (A.sub φ (A.conv φ n) t7)))]) U U),(1,Ψ [Ati (Value.int υ (A.conv υ (A.sub φ (A.conv φ n) t7)))] U U)] 3 Θ) [0] r o) Θ) Θ)))
 (Δ ((Ath [iv 0,π 1 0 n6 1],[BO.del,Atb (Ψ c6 U U)]))):=by kernel_rfl
theorem Aq5(x0 x1:Rw):BZ A D Aq LQ .n 243 PE [Φ x0,Φ x1] [] =
 unI (A.add Ω ↑(Bb x0) ↑(Bb x1)) λi=>
 unI (A.add Ω ↑(Bb x0) ↑(Bb x1)) λi1=>
 br (i.ble i1) (br (Bo i1 4) (AT D (ο 243 0) [Φ x1,π 0 0 i 1,Φ x0,iv ↑(Bb x0),iv 0] [Ψ (B5 [Ati (Value.int υ 0)] (i*1)) U U] λr o=>
 dk [.t,.C,.x,.X] [.v r] λc l=>
 br (Bg 1 c)
 (dk [.C,.q 1 1,.N,.D,.R,.X,.E] [.l l,.o o] λn cs1=>
 br ((0+n*1).ble cs1.length) (AT D (ω 202) [Φ (Bk n 1 (ε (n*1) cs1))] [] λr1 o1=>
 Lv r1 λxs=>
 CW o1<|
 Δ ((Φ xs,[]))) Θ)
 (Θ)) Θ) Θ:=by kernel_rfl
theorem Aag(t1:Rw)(n5:Nat)(c5:Aa)(t18:Rw)(t19 t20:Int):C2 A D Aq LQ .n 243 0 (AN PE 0).fst (AN PE 0).snd [Φ t1,π 0 0 n5 1,Φ t18,iv t19,iv t20] [{ cells:=c5,st:=U,ex:=U }] =
 br (A.lt t20 t19)
 (unI t20 λi=>
 Bh t18 i λcs=>
 dk [.J .u32,.N] [.l cs] λn=>
 Ag D (ο 243 1) [Φ t1,π 0 0 n5 1,iv t20,Ati (Value.int υ n),Ati (Value.int φ 0),Φ t18,iv t19,iv t20,Φ t1,iv ↑(Bb t1),iv 0] [Ψ c5 U U] [.t,.C,.x,.X,.Y] λc l1 o=>
 br (Bg 3 c)
 (dk [.L,.C,.q 1 1,.I,.J .u64,.L,.I,.I,.N,.D,.R,.X,.E] [.l l1,.o o] λxs n1 n2 n3 xs1 n4 n6 cs2=>
 unI (A.add Ω n2 ↑(Bb xs)) λi1=>
 br (i1.blt n1) (br ((0+i1*1+1).ble cs2.length) (AT D (ο 243 0) [Φ xs,π 0 0 n1 1,Φ xs1,iv n4,iv (A.add Ω n6 1)] [Ψ (AG cs2 (0+i1*1) [Ati (Value.int υ (A.conv υ n3))]) U U] λr1 o1=>
 AI 1 [1] (AH.mk [(1,Ψ (AG cs2 (0+i1*1) [Ati (Value.int υ (A.conv υ n3))]) U U)] 2 Θ) [0] r1 o1) Θ) Θ)
 (Θ))
 (Δ ((Ath [iv 0,π 1 0 n5 1],[BO.del,Atb (Ψ c5 U U)]))):=by kernel_rfl
theorem Aah(t1:Rw)(n5:Nat)(c5:Aa)(t6 t7 t8:Int)(t18:Rw)(t19 t20:Int)(t25:Rw)(t26 t27:Int):C2 A D Aq LQ .n 243 1 (AN PE 1).fst (AN PE 1).snd [Φ t1,π 0 0 n5 1,iv t6,Ati (Value.int υ t7),Ati (Value.int φ t8),Φ t18,iv t19,iv t20,Φ t25,iv t26,iv t27] [{ cells:=c5,st:=U,ex:=U }] =
 br (A.lt t27 t26)
 (unI t27 λi=>
 Bh t25 i λcs=>
 dk [.J .u32,.N] [.l cs] λn=>
 unI (A.add Ω t6 t27) λi1=>
 br (i1.blt n5) (EX c5 (0+i1*1) 1 λcs1=>
 dk [.J .u32,.N] [.l cs1] λn1=>
 unI (A.add Ω t6 t27) λi2=>
 br (i2.blt n5) (br ((0+i2*1+1).ble c5.length) (br (A.lt 32 0)
 (Θ)
 (AT D (ο 243 1) [Φ t1,π 0 0 n5 1,iv t6,Ati (Value.int υ t7),Ati (Value.int φ (A.shr φ (A.add φ (A.add φ (A.mul φ (A.conv φ t7) (A.conv φ n)) (A.conv φ n1)) t8) 32)),Φ t18,iv t19,iv t20,Φ t25,iv t26,iv (A.add Ω t27 1)] [Ψ (AG c5 (0+i2*1) [Ati (Value.int υ (A.conv υ (A.add φ (A.add φ (A.mul φ (A.conv φ t7) (A.conv φ n)) (A.conv φ n1)) t8)))]) U U] λr o=>
 AI 1 [0] (AH.mk [(0,Ψ (AG c5 (0+i2*1) [Ati (Value.int υ (A.conv υ (A.add φ (A.add φ (A.mul φ (A.conv φ t7) (A.conv φ n)) (A.conv φ n1)) t8)))]) U U)] 1 Θ) [0] r o)) Θ) Θ) Θ)
 (Δ ((Ath [iv 2,Φ t1,π 1 0 n5 1,iv t6,Ati (Value.int φ t8),Φ t18,iv t19,iv t20],[BO.del,Atb (Ψ c5 U U)]))):=by kernel_rfl
theorem Aq1(x0 x1:Rw):BZ A D Aq AjP .n 212 Akr [Φ x0,Φ x1] [] =
 Ag D (ω 200) [Φ x0] [] [.l,.E] λxs=>
 Ag D (ω 200) [Φ x1] [] [.l,.E] λxs1=>
 br (A.lt (↑(Bb xs)) 24)
 (Ag D (ω 243) [Φ xs,Φ xs1] [] [.l,.E] λxs2=>
 Δ ((Φ xs2,[])))
 (br (A.lt (↑(Bb xs1)) 24)
 (Ag D (ω 243) [Φ xs,Φ xs1] [] [.l,.E] λxs2=>
 Δ ((Φ xs2,[])))
 (Ag D (ω 244) [Φ xs,Φ xs1] [] [.l,.E] λxs2=>
 Δ ((Φ xs2,[])))):=by kernel_rfl
end
theorem FT(x:Nat):Ah.conv .u32 (x:Int)=((x % 4294967296:Nat):Int):=by
 show IntKind.u32.wrap (x:Int)=_
 rw[IntKind.wrap_u32];omega
theorem B7{x:Nat}(h:x<4294967296):Ah.conv .u32 (x:Int)=(x:Int):=by rw[FT,Nat.mod_eq_of_lt h]
theorem CD{x:Nat}(h:x<18446744073709551616):Ah.conv .u64 (x:Int)=(x:Int):=by
 show IntKind.u64.wrap (x:Int)=_
 rw[IntKind.wrap_u64];omega
theorem Dk{x y:Nat}(h:x+y<18446744073709551616):Ah.add .u64 (x:Int) (y:Int)=((x+y:Nat):Int):=by
 show IntKind.u64.wrap ((x:Int)+(y:Int))=_
 rw[IntKind.wrap_u64];omega
theorem Gz{x y:Nat}(h:y<=x)(h2:x<18446744073709551616):Ah.sub .u64 (x:Int) (y:Int)=((x-y:Nat):Int):=by
 show IntKind.u64.wrap ((x:Int)-(y:Int))=_
 rw[IntKind.wrap_u64];omega
theorem WI{x y:Nat}(h:x*y<18446744073709551616):Ah.mul .u64 (x:Int) (y:Int)=((x*y:Nat):Int):=by
 show IntKind.u64.wrap ((x:Int)*(y:Int))=_
 rw[IntKind.wrap_u64,←Int.natCast_mul];omega
theorem MJ(x:Nat):Ah.shr .u64 (x:Int) 32=((x / 4294967296:Nat):Int):=by
 show Int.fdiv (x:Int) (2 ^ 32)=_
 have:(2 ^ 32:Int)=((4294967296:Nat):Int):=by decide
 rw[this,Int.fdiv_eq_ediv_of_nonneg _ (by omega)];rfl
theorem ApJ{i j:Nat}(h:j<=i)(h2:i<4611686018427387904):Ah.sub .i64 (i:Int) (j:Int)=((i-j:Nat):Int):=by
 rw[DL (by omega) (by omega)];omega
theorem AkO{i j:Nat}(h2:i+j<4611686018427387904):Ah.add .i64 (i:Int) (j:Int)=((i+j:Nat):Int):=by
 rw[Fo (by omega) (by omega)];omega
theorem OP(kd:IntKind)(n:Int)(r:Aa)(k:Int->Aa->KR):M5 kd (.v (.int kd n)::r) k=k n r:=by simp[M5]
theorem RB(kd:IntKind)(n:Int)(k:Int->KR):II kd (.v (.int kd n)) k=k n:=by simp[II]
theorem Xp(n:Nat)(k:Int->Aa->KR)(r:Aa):M5 .u32 (.v (.int .u32 (n:Int))::r) k=k n r:=rfl
theorem WY(l:Ae):Fs 1 (l.map eL)=U:=EJ Bp l
theorem AmK(l:Ae):I9 (Ip (l.map eL))=U:=by rw[EM];exact JU (λ_=>rfl) l
theorem AhL(l:Ae):AU (Ip (l.map eL))=U:=by
 rw[EM]
 induction l with
 |nil=>rfl
 |cons x r ih=>exact ih
theorem TA(l:Ae)(n:Nat):Ha (HD (l.map eL) n) 0=(l.take n).map eL:=by
 rw[F5,FH,ι,Avt]
theorem G5:∀(a b:Ae) (c:Nat),(KC c a b).length=a.length+1
 |[],_,_=>rfl
 |x::a,b,c=>by rw[KC,Ate,G5 a,Ate]
theorem Nb{a b:Nat}(h:(Bf a).length<(Bf b).length):a<b:=by
 by_cases h2:a<b
 .exact h2
 .have h3:AK b=AK b:=rfl
  have h4:0<(Bf b).length:=by omega
  have hb:4294967296 ^ ((Bf b).length-1)<=b:=by
   by_cases h5:4294967296 ^ ((Bf b).length-1)<=b
   .exact h5
   .have:=Co (n:=b) (k:=(Bf b).length-1) (by omega)
    omega
  have h6:=SM (n:=a) (k:=(Bf b).length-1) (by omega);omega
def CK(l:Ae):Prop:=l.length<=1000000000
theorem Gu{l:Ae}(h:Limbs l)(h2:CK l):CK (Bf (Ak l)):=by
 unfold CK at *;rw[Hm l h];have:=DZ l;omega
structure CloneF (D:Orc):Prop where
 nat:∀ l:Ae,CK l->D.ask (.fn 236) [eN l] []=Δ (.sl 0 0 l.length 1,[.set (Ψ (Aj eL l) U U)])
theorem Xk{l:Ae}(h:CK l):DS 1 (Ce 1 4) [eN l] []=Δ (.sl 0 0 l.length 1,[.set (Ψ (Aj eL l) U U)]):=by
 unfold DS Ce eN;have h4:Atl (Bb (l.map eL)*4) 140737488355328=U:=by
  rw[Ao];unfold CK at h;simp;omega
 simp only[WY,AmK,AhL,h4,Bool.and_true,if_true,Option.map_some];rw[Ao,EM]
section
variable {D:Orc} (K:Knows Aq PV D)
include K
theorem Aix(l:Ae)(hl:CK l):∀(n:Nat),n<=l.length->C5 l<=n->D.ask (.lp 200 0) [eN l,iv (n:Int)] []=Δ (.tup [iv 0,eN l,iv (C5 l:Int)],[]):=by
 intro n;have hl':=hl;unfold CK at hl'
 induction n with
 |zero=>
  intro _ ht;refine Ax K Sv (Z6 ..) ?_;refine At ?_;rw[show C5 l=0 by omega];rfl
 |succ n ih=>
  intro hn ht;refine Ax K Sv (Z6 ..) ?_;refine Au ?_;rw[show Ah.sub .i64 ((n+1:Nat):Int) 1=(n:Int) from (ApJ (i:=n+1) (j:=1) (by omega) (by omega)).trans (by simp)];rw[AC,AD (δ (show n<l.length by omega))];simp only[eL,Xp,Ai]
  by_cases h0:l[n]=0
  .refine Ba ?_ (by rw[h0];rfl)
   refine Ab (ih (by omega) (PY ht (by rw[δ (show n<l.length by omega),h0]))) ?_;rfl
  .refine AO ?_
   have:=Ru (δ (show n<l.length by omega)) h0;rw[show C5 l=n+1 by omega];rfl
theorem EE{l:Ae}(hl:CK l)(h:Limbs l):D.ask (.fn 200) [eN l] []=Δ (eN (Bf (Ak l)),[]):=by
 refine Az K Sv (AqW ..) ?_;rw[Ao];refine Ab (Aix K l hl _ (η _) (DZ l)) ?_;simp only[eN,Ai];rw[AC,Ao,WY,TA,Kl h];rw[show I4 0 (C5 l) l.length=U by unfold I4;rw[show Atl 0 (C5 l)=U by simp];simpa using DZ l];rfl
variable (C:CloneF D)
include C
theorem HK{l:Ae}(hl:CK l)(h:Limbs l):D.ask (.fn 202) [eN l] []=Δ (eN (Bf (Ak l)),[]):=by
 refine Az K AjO (AqY ..) ?_;refine Ab (EE K hl h) ?_;simp only[eN,Ai];have g:=C.nat _ (Gu h hl);unfold eN at g;refine Ab g ?_;simp only[Ai];rw[AQ Bp _ (by omega)];refine Af ?_;rw[BF Bp _ rfl]
theorem AiZ(n:Nat)(h:n<18446744073709551616):D.ask (.fn 184) [.v (.int .u64 (n:Int))] []=Δ (eN (Bf n),[]):=by
 refine Az K AjJ (AqM ..) ?_;refine At ?_ (by decide);rw[FT,MJ,FT];have hl:Limbs [n % 4294967296,n / 4294967296 % 4294967296]:=BM (AuP _ (by omega)) (BM (AuP _ (by omega)) CH);have g:=HK K C (l:=[n % 4294967296,n / 4294967296 % 4294967296]) (by unfold CK;simp) hl;rw[show Ak [n % 4294967296,n / 4294967296 % 4294967296]=n by simp only[Ak];omega]at g;refine Ab g ?_;rfl
omit C in
theorem AkJ(a b:Ae)(ha:Limbs a)(hb:Limbs b)(hab:a.length=b.length)(hs:CK a):∀(n:Nat),n<=a.length->D.ask (.lp 201 0) [eN a,eN b,iv ((n:Int)-1)] []
  = Δ (if DA (Ak (a.take n)) (Ak (b.take n))=0 then .tup [iv 1] else .tup [bv U,iv (DA (Ak (a.take n)) (Ak (b.take n)))],[]):=by
 intro n;unfold CK at hs
 induction n with
 |zero=>
  intro _;refine Ax K Sw (Z7 ..) ?_;refine CQ ?_;rfl
 |succ n ih=>
  intro hn;refine Ax K Sw (Z7 ..) ?_;rw[show (((n+1:Nat):Int)-1)=(n:Int) by omega];refine Cz ?_;have h1:n<a.length:=by omega
  have h2:n<b.length:=by omega
  have e1:a.take (n+1)=a.take n++[a[n]]:=by rw[Auf h1]
  have e2:b.take (n+1)=b.take n++[b[n]]:=by rw[Auf h2]
  rw[e1,e2,RR (ha.take n) (hb.take n) (by simp;omega)];simp only[AC,AD (δ h1),AD (δ h2),eL,Xp,Ai]
  by_cases h3:a[n]<b[n]
  .refine Au ?_
   rw[Ac h3];rfl
  .refine At ?_
   rw[Ad h3]
   by_cases h4:b[n]<a[n]
   .refine Au ?_
    rw[Ac h4];rfl
   .refine At ?_
    rw[Ad h4];rw[show Ah.sub .i64 (n:Int) 1=(n:Int)-1 from DL (by omega) (by omega)];refine Ab (ih (by omega)) ?_
    by_cases h5:DA (Ak (a.take n)) (Ak (b.take n))=0
    .rw[Ac h5];rfl
    .rw[Ad h5];rfl
omit C in
theorem TU{a b:Ae}(hsa:CK a)(ha:Limbs a)(hsb:CK b)(hb:Limbs b):D.ask (.fn 201) [eN a,eN b] []=Δ (iv (DA (Ak a) (Ak b)),[]):=by
 have s1:=Gu ha hsa;have s2:=Gu hb hsb;unfold CK at s1 s2;refine Az K Sw (AqX ..) ?_;refine Ab (EE K hsa ha) ?_;simp only[eN,Ai];refine Ab (EE K hsb hb) ?_;simp only[eN,Ai,Ao];generalize Ak a=x at *;generalize Ak b=y at *
 by_cases h1:(Bf x).length<(Bf y).length
 .refine Au ?_
  have:=Nb h1;unfold DA;rw[Ac this]
 .refine At ?_
  by_cases h2:(Bf y).length<(Bf x).length
  .refine Au ?_
   have:=Nb h2;unfold DA;rw[Ad (by omega),Ac this]
  .refine At ?_
   have hx:(Bf x).length=(Bf y).length:=by omega
   have g:=AkJ K (Bf x) (Bf y) (AK x) (AK y) hx s1 (Bf x).length (η _);rw[Aur,hx,Aur,Bm,Bm]at g;rw[show Ah.sub .i64 ((Bf x).length:Int) 1=((Bf x).length:Int)-1 from DL (by omega) (by omega),hx];refine Ab g ?_
   by_cases h5:DA x y=0
   .rw[Ac h5,h5];rfl
   .rw[Ad h5];rfl
omit C in
theorem Zh(b:Ae)(hb:Limbs b)(a:Ae)(ha:Limbs a)(hs:CK a):∀(k i:Nat) (out:Ae) (c:Nat),a.length-i=k->i<=a.length->b.length<=a.length->c<=1->out.length+k<=2000000000->
  ∃(o:Ae) (c':Nat),D.ask (.lp 197 0) [eN b,.sl 0 0 out.length 1,.v (.int .u64 (c:Int)),eN a,iv (a.length:Int),iv (i:Int)] [Ψ (Aj eL out) U U]
   = Δ (.tup [iv 0,.sl 1 0 o.length 1,.v (.int .u64 (c':Int))],[.del,.set (Ψ (Aj eL o) U U)])/\c'<=1/\o++[c']=out++KC c (a.drop i) (b.drop i):=by
 intro k;unfold CK at hs
 induction k with
 |zero=>
  intro i out c hi hle hba hc ho;refine⟨out,c,?_,hc,?_⟩
  .refine Ax K St (Z4 ..) ?_
   refine At ?_;rfl
  .rw[show a.drop i=[] from Atc (by omega)]
   rfl
 |succ k ih=>
  intro i out c hi hle hba hc ho;have hlt:i<a.length:=by omega
  have hx:=ha.get hlt;have hbd:=ES (hb.drop i);have hdt:(b.drop i).tail=b.drop (i+1):=by rw[Au5]
  rw[show a.drop i=a[i]::a.drop (i+1) from χ hlt];obtain⟨o,c',h1,h2,h3⟩:=ih (i+1) (out++[(a[i]+(b.drop i).headD 0+c) % 4294967296]) ((a[i]+(b.drop i).headD 0+c) / 4294967296) (by omega) (by omega) hba (by omega) (by simp;omega);refine⟨o,c',?_,h2,?_⟩
  .refine Ax K St (Z4 ..) ?_
   refine Au ?_;rw[AC,AD (δ hlt)];have hf:Bo (out.length+1) 4=U:=AZ (by omega) (by omega);have hb1:Atl (0+out.length*1) (Aj eL out).length=U:=AQ Bp out (by omega);have e3:∀ s:Nat,Atg 0 (ε (0+out.length*1) (Aj eL out))++[.v (.int .u32 (s:Int))]=Aj eL (out++[s]):=λs=>by
    rw[ι,Br Bp out (by omega)];exact Bl eL out s
   rw[γ,AtP]at h1;simp only[eL,Xp,Ai,Ao];rw[BE (by omega)]
   by_cases hib:i<b.length
   .have hd:(b.drop i).headD 0=b[i]:=by rw[χ hib];rfl
    rw[hd]at h1 hbd;refine Au ?_;rw[AC,AD (δ hib)];simp only[eL,Xp,Ai];rw[CD (by omega),CD (by omega),Dk (by omega),Dk (by omega),FT,MJ,hf,hb1,e3];rw[show a[i]+c+b[i]=a[i]+b[i]+c by omega];refine Af ?_;refine Af ?_;refine At ?_ (by decide);refine Ab h1 ?_;rfl
   .have hd:(b.drop i).headD 0=0:=by rw[Atc (by omega)];rfl
    rw[hd]at h1;refine At ?_;rw[CD (by omega),Dk (by omega),FT,MJ,hf,hb1,e3];rw[show a[i]+c=a[i]+0+c by omega];refine Af ?_;refine Af ?_;refine At ?_ (by decide);refine Ab h1 ?_;rfl
  .rw[h3,KC,hdt,Atp]
   rfl
theorem AkI{a b:Ae}(hsa:a.length<=999999999)(ha:Limbs a)(hsb:b.length<=999999999)(hb:Limbs b):D.ask (.fn 197) [eN a,eN b] []=Δ (eN (Bf (Ak a+Ak b)),[]):=by
 have s1:=Gu ha (by unfold CK;omega);have s2:=Gu hb (by unfold CK;omega);have t1:(Bf (Ak a)).length<=999999999:=by rw[Hm a ha];have:=DZ a;omega
 have t2:(Bf (Ak b)).length<=999999999:=by rw[Hm b hb];have:=DZ b;omega
 refine Az K St (AqT ..) ?_;refine Ab (EE K (by unfold CK;omega) ha) ?_;simp only[eN,Ai];refine Ab (EE K (by unfold CK;omega) hb) ?_;simp only[eN,Ai,Ao];generalize Ak a=x at *;generalize Ak b=y at *
 by_cases h1:(Bf x).length<(Bf y).length
 .refine Au ?_
  have hl:Limbs (KC 0 (Bf y) (Bf x)):=IK _ _ _ (AK _) (AK _) (by omega);obtain⟨o,c',g,hc,ho⟩:=Zh K (Bf x) (AK x) (Bf y) (AK y) s2 (Bf y).length 0 [] 0 (by omega) (by omega) (by omega) (by omega) (by unfold CK at s2;simp;omega);rw[Atw,ι,ι]at ho;have hol:o.length=(Bf y).length:=by
   have:=congrArg Awl ho;rw[γ,G5]at this;simpa using this
  have hsx:=s2;unfold CK at hsx;rw[show Ah.add .i64 ((Bf y).length:Int) 1=(((Bf y).length+1:Nat):Int) from BE (by omega),AC];rw[AZ (n:=(Bf y).length+1) (b:=4) (by omega) (by omega)];refine Af ?_;refine Ab g ?_;simp only[OP,Ai];rw[B7 (by omega)];have e3:Atg 0 (ε (0+o.length*1) (Aj eL o))++[.v (.int .u32 (c':Int))]=Aj eL (o++[c']):=by
   rw[ι,Br Bp o (by omega)];exact Bl eL o c'
  rw[AZ (n:=o.length+1) (b:=4) (by omega) (by omega),AQ Bp o (by omega),e3,AQ Bp (o++[c']) (by simp)];refine Af ?_;refine Af ?_;refine Af ?_;rw[ι,Br Bp (o++[c']) (by simp),show Bk (o.length+1) 1 (Aj eL (o++[c']))=(o++[c']).map eL from by have:=CX Bp (o++[c']);rwa [γ]at this];rw[ho];have gt:=HK K C (l:=KC 0 (Bf y) (Bf x)) (by unfold CK;rw[G5];omega) hl;rw[Lw _ _ _ (by omega),Bm,Bm]at gt;refine Ab gt ?_;rw[show 0+y+x=x+y by omega];rfl
 .refine At ?_
  have hl:Limbs (KC 0 (Bf x) (Bf y)):=IK _ _ _ (AK _) (AK _) (by omega);obtain⟨o,c',g,hc,ho⟩:=Zh K (Bf y) (AK y) (Bf x) (AK x) s1 (Bf x).length 0 [] 0 (by omega) (by omega) (by omega) (by omega) (by unfold CK at s1;simp;omega);rw[Atw,ι,ι]at ho;have hol:o.length=(Bf x).length:=by
   have:=congrArg Awl ho;rw[γ,G5]at this;simpa using this
  have hsx:=s1;unfold CK at hsx;rw[show Ah.add .i64 ((Bf x).length:Int) 1=(((Bf x).length+1:Nat):Int) from BE (by omega),AC];rw[AZ (n:=(Bf x).length+1) (b:=4) (by omega) (by omega)];refine Af ?_;refine Ab g ?_;simp only[OP,Ai];rw[B7 (by omega)];have e3:Atg 0 (ε (0+o.length*1) (Aj eL o))++[.v (.int .u32 (c':Int))]=Aj eL (o++[c']):=by
   rw[ι,Br Bp o (by omega)];exact Bl eL o c'
  rw[AZ (n:=o.length+1) (b:=4) (by omega) (by omega),AQ Bp o (by omega),e3,AQ Bp (o++[c']) (by simp)];refine Af ?_;refine Af ?_;refine Af ?_;rw[ι,Br Bp (o++[c']) (by simp),show Bk (o.length+1) 1 (Aj eL (o++[c']))=(o++[c']).map eL from by have:=CX Bp (o++[c']);rwa [γ]at this];rw[ho];have gt:=HK K C (l:=KC 0 (Bf x) (Bf y)) (by unfold CK;rw[G5];omega) hl;rw[Lw _ _ _ (by omega),Bm,Bm]at gt;refine Ab gt ?_;rw[show 0+x+y=x+y by omega];rfl
omit C in
theorem AkN(b:Ae)(hb:Limbs b)(a:Ae)(ha:Limbs a)(hs:CK a):∀(k i:Nat) (out:Ae) (c:Nat),a.length-i=k->i<=a.length->c<=1->out.length+k<=2000000000->
  D.ask (.lp 198 0) [eN b,.sl 0 0 out.length 1,.v (.int .u64 (c:Int)),eN a,iv (a.length:Int),iv (i:Int)] [Ψ (Aj eL out) U U]
   = Δ (.tup [iv 0,.sl 1 0 (out++GD c (a.drop i) (b.drop i)).length 1],[.del,.set (Ψ (Aj eL (out++GD c (a.drop i) (b.drop i))) U U)]):=by
 intro k;unfold CK at hs
 induction k with
 |zero=>
  intro i out c hi hle hc ho;refine Ax K Su (Z5 ..) ?_;refine At ?_;rw[show a.drop i=[] from Atc (by omega)];simp only[GD,List.append_nil]
  all_goals rfl
 |succ k ih=>
  intro i out c hi hle hc ho;have hlt:i<a.length:=by omega
  have hx:=ha.get hlt;have hbd:=ES (hb.drop i);have hdt:(b.drop i).tail=b.drop (i+1):=by rw[Au5]
  rw[show a.drop i=a[i]::a.drop (i+1) from χ hlt,GD,hdt];have h1:=ih (i+1) (out++[if a[i]<(b.drop i).headD 0+c then a[i]+4294967296-((b.drop i).headD 0+c) else a[i]-((b.drop i).headD 0+c)]) (if a[i]<(b.drop i).headD 0+c then 1 else 0) (by omega) (by omega) (by split<;>omega) (by simp;omega);rw[Atp,γ,AtP]at h1;refine Ax K Su (Z5 ..) ?_;refine Au ?_;rw[AC,AD (δ hlt)];have hf:Bo (out.length+1) 4=U:=AZ (by omega) (by omega);have hb1:Atl (0+out.length*1) (Aj eL out).length=U:=AQ Bp out (by omega);have e3:∀ s:Nat,Atg 0 (ε (0+out.length*1) (Aj eL out))++[.v (.int .u32 (s:Int))]=Aj eL (out++[s]):=λs=>by
   rw[ι,Br Bp out (by omega)];exact Bl eL out s
  simp only[eL,Xp,Ai,Ao];rw[BE (by omega)]
  by_cases hib:i<b.length
  .have hd:(b.drop i).headD 0=b[i]:=by rw[χ hib];rfl
   rw[hd]at h1 hbd;rw[hd];refine Au ?_;rw[AC,AD (δ hib)];simp only[eL,Xp,Ai];rw[CD (show a[i]<_ by omega),CD (show b[i]<_ by omega),Dk (by omega)]
   by_cases hlt2:a[i]<b[i]+c
   .refine Au ?_
    rw[Ac hlt2,Ac hlt2]at h1;rw[Ac hlt2,Ac hlt2];rw[show (4294967296:Int)=((4294967296:Nat):Int) from rfl,Dk (by omega),show c+b[i]=b[i]+c by omega,Gz (by omega) (by omega),B7 (by omega),hf,hb1,e3];refine Af ?_;refine Af ?_;refine Ab h1 ?_;rfl
   .refine At ?_
    rw[Ad hlt2,Ad hlt2]at h1;rw[Ad hlt2,Ad hlt2];rw[show c+b[i]=b[i]+c by omega,Gz (by omega) (by omega),B7 (by omega),hf,hb1,e3];refine Af ?_;refine Af ?_;refine Ab h1 ?_;rfl
  .have hd:(b.drop i).headD 0=0:=by rw[Atc (by omega)];rfl
   rw[hd]at h1;rw[hd];refine At ?_;rw[CD (show a[i]<_ by omega)];rw[Ato]at h1;simp only[show (0:Nat)+c=c by omega]
   by_cases hlt2:a[i]<c
   .refine Au ?_
    rw[Ac hlt2,Ac hlt2]at h1;rw[Ac hlt2,Ac hlt2];rw[show (4294967296:Int)=((4294967296:Nat):Int) from rfl,Dk (by omega),Gz (by omega) (by omega),B7 (by omega),hf,hb1,e3];refine Af ?_;refine Af ?_;refine Ab h1 ?_;rfl
   .refine At ?_
    rw[Ad hlt2,Ad hlt2]at h1;rw[Ad hlt2,Ad hlt2];rw[Gz (by omega) (by omega),B7 (by omega),hf,hb1,e3];refine Af ?_;refine Af ?_;refine Ab h1 ?_;rfl
def Ng(x y:Nat):AV:=if y<=x then .tup [eN (Bf (x-y)),bv U] else .tup [eN [],bv Ξ]
theorem Zk{a b:Ae}(hsa:CK a)(ha:Limbs a)(hsb:CK b)(hb:Limbs b):D.ask (.fn 198) [eN a,eN b] []=Δ (Ng (Ak a) (Ak b),[]):=by
 have s1:=Gu ha hsa;have s2:=Gu hb hsb;refine Az K Su (AqU ..) ?_;refine Ab (EE K hsa ha) ?_;simp only[eN,Ai];refine Ab (EE K hsb hb) ?_;simp only[eN,Ai,Ao];have gc:=TU K s1 (AK _) s2 (AK _);rw[Bm,Bm]at gc;refine Ab gc ?_;simp only[Ai];generalize Ak a=x at *;generalize Ak b=y at *;unfold Ng;unfold CK at s1 s2
 by_cases h1:x<y
 .rw[show DA x y=-1 by unfold DA;rw[Ac h1]]
  refine Au ?_ (by decide);rw[Ad (by omega)];rfl
 .refine At ?_ (by unfold DA;rw[Ad h1];split<;>omega)
  rw[Ac (by omega)];have hle:(Bf y).length<=(Bf x).length:=by
   by_cases h:(Bf x).length<(Bf y).length
   .have:=Nb h;omega
   .omega
  rw[AZ (n:=(Bf x).length) (b:=4) (by omega) (by omega)];refine Af ?_;have g:=AkN K (Bf y) (AK y) (Bf x) (AK x) s1 (Bf x).length 0 [] 0 (by omega) (by omega) (by omega) (by simp;omega);refine Ab g ?_;simp only[Ai,ι,Atw];rw[AQ Bp _ (by omega)];refine Af ?_;rw[BF Bp _ rfl];have gt:=HK K C (l:=GD 0 (Bf x) (Bf y)) (by unfold CK;rw[Kj];exact s1) (GF _ _ _ (AK _) (AK _) (by omega));rw[TI (AK _) (AK _) hle (by rw[Bm,Bm];omega),Bm,Bm]at gt;refine Ab gt ?_;rfl
end
def eC(n:Nat):AV:=.v (.int .u32 (n:Int))
theorem GB:∀ l:Ae,Aj eL l=l.map eC
 |[]=>rfl
 |x::r=>by
  have ih:=GB r;unfold Aj at ih ⊢;rw[List.flatMap_cons,ih];rfl
theorem PU(l:Ae)(i v:Nat)(h:i<l.length):AG (Aj eL l) (0+i*1) [.v (.int .u32 (v:Int))]=Aj eL (l.set i v):=by
 rw[GB,GB,Ave,Ac h];unfold AG;simp only[Ato,Avr,List.map_append,List.map_cons,Avt,List.map_drop,AtP];rw[Atp];rfl
theorem AbS(l:Ae)(i:Nat)(h:i<l.length)(k:Aa->KR):EX (Aj eL l) (0+i*1) 1 k=k [.v (.int .u32 (l[i]:Int))]:=by
 have hx:(Aj eL l)[i]? = Δ (.v (.int .u32 (l[i]:Int))):=by
  rw[GB,List.getElem?_map,δ h];rfl
 obtain⟨hl,hx⟩:=List.getElem?_eq_some_iff.1 hx;unfold EX;have:Atl (0+i*1+1) (Aj eL l).length=U:=by simp;omega
 rw[this];simp only[Ato,Avr];rw[χ hl,hx];rfl
theorem Adm(n:Nat):B5 [.v (.int .u32 0)] (n*1)=Aj eL (Auu n 0):=by
 rw[GB,Avr];unfold B5;rw[List.map_replicate];refine List.ext_getElem (by simp) λi h1 h2=>?_
 simp[Nat.mod_one,eC]
theorem PF:∀(x:Nat) (b o:Ae) (c:Nat),(NZ x c b o).drop (b.length+1)=o.drop (b.length+1)
 |x,[],o,c=>by
  rw[NZ]
  cases o<;>simp
 |x,y::b,o,c=>by
  rw[NZ,Ate,List.drop_succ_cons,PF x b o.tail]
  cases o with
  |nil=>simp
  |cons z o=>rfl
def G4(j:Nat)(l:Ae):Prop:=∀ y∈l.drop j,y=0
theorem Za{j:Nat}{l:Ae}(h:G4 j l):(l.drop j).headD 0=0:=by
 unfold G4 at h
 cases e:l.drop j with
 |nil=>rfl
 |cons z r=>
  rw[e]at h;exact h z (Atq ..)
theorem FF{a b:Nat}(h:a<b):Nat.blt a b=U:=by simpa using h
section
variable {D:Orc} (K:Knows Aq PV D)
include K
theorem Yn(a b:Ae)(hb:Limbs b)(i:Nat)(hi:i<a.length)(hsz:a.length+b.length<=1000000000)(x:Nat)(hx:x<4294967296):∀(m k:Nat) (out:Ae) (c:Nat),b.length-k=m->k<=b.length->Limbs out->c<4294967296->out.length=a.length+b.length->
  ∃(o:Ae) (c':Nat),D.ask (.lp 243 1) [eN b,.sl 0 0 out.length 1,iv (i:Int),.v (.int .u32 (x:Int)),.v (.int .u64 (c:Int)),eN a,iv (a.length:Int),iv (i:Int),eN b,iv (b.length:Int),iv (k:Int)] [Ψ (Aj eL out) U U]
   = Δ (.tup [iv 2,eN b,.sl 1 0 out.length 1,iv (i:Int),.v (.int .u64 (c':Int)),eN a,iv (a.length:Int),iv (i:Int)],[.del,.set (Ψ (Aj eL o) U U)])
   ∧ c'<4294967296/\Limbs o/\o.length=out.length/\o.set (i+b.length) c'=out.take (i+k)++NZ x c (b.drop k) (out.drop (i+k)):=by
 intro m
 induction m with
 |zero=>
  intro k out c hm hk ho hc hlen;obtain rfl:k=b.length:=by omega
  refine⟨out,c,?_,hc,ho,rfl,?_⟩
  .refine Ax K LQ (Aah ..) ?_
   refine At ?_;rfl
  .rw[List.drop_length,NZ,Ave,Ac (by omega),Au5]
 |succ m ih=>
  intro k out c hm hk ho hc hlen;have hlt:k<b.length:=by omega
  have hik:i+k<out.length:=by omega
  have hy:=hb.get hlt;have hz:=ho.get hik;have hp:=QL hx hy;have hd:(out.drop (i+k)).headD 0=out[i+k]:=by rw[χ hik];rfl
  obtain⟨o,c',h1,h2,h3,h4,h5⟩:=ih (k+1) (out.set (i+k) ((x*b[k]+out[i+k]+c) % 4294967296)) ((x*b[k]+out[i+k]+c) / 4294967296) (by omega) (by omega)
   (λz hz'=>by
    rcases List.mem_or_eq_of_mem_set hz' with h|h
    .exact ho z h
    .rw[h];exact AuP _ (by omega)) (by omega) (by rw[AtL];exact hlen)
  rw[AtL]at h1 h4;refine⟨o,c',?_,h2,h3,h4,?_⟩
  .refine Ax K LQ (Aah ..) ?_
   refine Au ?_;rw[AC,AD (δ hlt)];simp only[eL,OP,Ai];rw[AkO (by omega),AC,FF hik];refine Af ?_;refine(AbS out _ hik _).trans ?_;simp only[OP,Ai];rw[AC,FF hik];refine Af ?_;rw[show Atl (0+(i+k)*1+1) (Aj eL out).length=U by rw[AR Bp];simp;omega];refine Af ?_;refine At ?_ (by decide);rw[CD (show x<_ by omega),CD (show b[k]<_ by omega),CD (show out[i+k]<_ by omega),WI (by omega),Dk (by omega),Dk (by omega),FT,MJ,PU _ _ _ hik,BE (by omega)];refine Ab h1 ?_;rfl
  .rw[h5,χ hlt,NZ,hd]
   have e1:ε (i+(k+1)) (out.set (i+k) ((x*b[k]+out[i+k]+c) % 4294967296))=out.take (i+k)++[(x*b[k]+out[i+k]+c) % 4294967296]:=by
    rw[show i+(k+1)=i+k+1 by omega,Auf (by rw[AtL];exact hik),List.getElem_set_self,List.take_set_of_le (η _)]
   have e2:Atg (i+(k+1)) (out.set (i+k) ((x*b[k]+out[i+k]+c) % 4294967296))=(out.drop (i+k)).tail:=by
    rw[List.drop_set_of_lt (by omega),Au5];rfl
   rw[e1,e2,Atp];rfl
theorem Yo(a b:Ae)(ha:Limbs a)(hb:Limbs b)(hsz:a.length+b.length<=1000000000):∀(m i:Nat) (out:Ae),a.length-i=m->i<=a.length->Limbs out->out.length=a.length+b.length->G4 (i+b.length) out->
  ∃ o:Ae,D.ask (.lp 243 0) [eN b,.sl 0 0 out.length 1,eN a,iv (a.length:Int),iv (i:Int)] [Ψ (Aj eL out) U U]=Δ (.tup [iv 0,.sl 1 0 o.length 1],[.del,.set (Ψ (Aj eL o) U U)])
   ∧ Limbs o/\o.length=out.length/\Ak o=Ak out+4294967296 ^ i*Ak (a.drop i)*Ak b:=by
 intro m
 induction m with
 |zero=>
  intro i out hm hi ho hlen hz;refine⟨out,?_,ho,rfl,?_⟩
  .refine Ax K LQ (Aag ..) ?_
   refine At ?_;rfl
  .rw[show a.drop i=[] from Atc (by omega)]
   simp[Ak]
 |succ m ih=>
  intro i out hm hi ho hlen hz;have hlt:i<a.length:=by omega
  have hx:=ha.get hlt;obtain⟨o,c',g1,g2,g3,g4,g5⟩:=Yn K a b hb i hlt hsz a[i] hx b.length 0 out 0 (by omega) (by omega) ho (by omega) hlen;rw[At3,ι]at g5;have hdl:(out.drop i).length=a.length+b.length-i:=by rw[List.length_drop];omega
  have hlm:Limbs (o.set (i+b.length) c'):=by
   rw[g5];exact Px (ho.take i) (N0 _ _ _ _ hx hb (ho.drop i) (by omega))
  have hhead:((out.drop i).drop b.length).headD 0=0:=by
   rw[Avp];exact Za hz
  have hv:Ak (o.set (i+b.length) c')=Ak out+4294967296 ^ i*(a[i]*Ak b):=by
   rw[g5,F8,P5 _ _ _ _ hhead];have e:Ak out=Ak (out.take i)+4294967296 ^ i*Ak (out.drop i):=by
    have:=F8 (out.take i) (out.drop i);rw[AuR,AtN,AuL (by omega)]at this;exact this
   rw[e,AtN,AuL (by omega),At3,Avq];omega
  have hz2:G4 (i+1+b.length) (o.set (i+b.length) c'):=by
   unfold G4;rw[g5,List.drop_append,Atc (by rw[AtN];omega),Atw,AtN,AuL (by omega),show i+1+b.length-i=b.length+1 by omega,PF,Avp];intro y hy;exact hz y (by
    have:Atg (i+(b.length+1)) out=Atg 1 (Atg (i+b.length) out):=by rw[Avp];rfl
    rw[this]at hy;exact At6 hy)
  obtain⟨o2,k1,k2,k3,k4⟩:=ih (i+1) (o.set (i+b.length) c') (by omega) (by omega) hlm (by rw[AtL,g4,hlen]) hz2;rw[AtL,g4]at k1 k3;refine⟨o2,?_,k2,k3,?_⟩
  .refine Ax K LQ (Aag ..) ?_
   refine Au ?_;rw[AC,AD (δ hlt)];simp only[eL,OP,Ao,Ai];refine Ab g1 ?_;simp only[eN,OP,Ao,Ai];rw[AkO (by omega),AC,FF (by omega)];refine Af ?_;rw[show Atl (0+(i+b.length)*1+1) (Aj eL o).length=U by rw[AR Bp];simp;omega];refine Af ?_;rw[B7 g2,PU _ _ _ (by omega),BE (by omega)];refine Ab k1 ?_;rfl
  .rw[k4,hv,χ hlt,Ak,Auy]
   have e1:4294967296 ^ i*(a[i]+4294967296*Ak (Atg (i+1) a))*Ak b=4294967296 ^ i*(a[i]*Ak b)+4294967296 ^ i*4294967296*Ak (Atg (i+1) a)*Ak b:=by
    rw[Avq,At2,Avf _ a[i],Avf (4294967296 ^ i) 4294967296]
   rw[e1];omega
variable (C:CloneF D)
include C
theorem Yp{a b:Ae}(ha:Limbs a)(hb:Limbs b)(hsz:a.length+b.length<=1000000000):D.ask (.fn 243) [eN a,eN b] []=Δ (eN (Bf (Ak a*Ak b)),[]):=by
 obtain⟨o,k1,k2,k3,k4⟩:=Yo K a b ha hb hsz a.length 0 (Auu (a.length+b.length) 0) (by omega) (by omega) (λx hx=>by rw[(AvT.1 hx).2];omega) (by simp) (λy hy=>(AvT.1 (At6 hy)).2);rw[List.length_replicate]at k1 k3;have hz:∀ n,Ak (Auu n 0)=0:=λn=>by
  induction n with
  |zero=>rfl
  |succ n ih=>rw[List.replicate_succ,Ak,ih]
 rw[hz,ι,Nat.pow_zero,Au8,Ato]at k4;refine Az K LQ (Aq5 ..) ?_;rw[Ao,Ao,AkO (by omega)];simp only[AC];rw[show Atl (a.length+b.length) (a.length+b.length)=U by simp,AZ (n:=a.length+b.length) (b:=4) (by omega) (by omega),Adm];refine Af ?_;refine Af ?_;refine Ab k1 ?_;simp only[Ai];rw[AQ Bp _ (by omega)];refine Af ?_;rw[BF Bp _ rfl];have gt:=HK K C (l:=o) (by unfold CK;omega) k2;rw[k4]at gt;refine Ab gt ?_;rfl
theorem AkM{a b:Ae}(hsa:a.length<=400000000)(ha:Limbs a)(hsb:b.length<=400000000)(hb:Limbs b)(h24:a.length<24\/b.length<24):D.ask (.fn 212) [eN a,eN b] []=Δ (eN (Bf (Ak a*Ak b)),[]):=by
 have t1:(Bf (Ak a)).length<=a.length:=by rw[Hm a ha];exact DZ a
 have t2:(Bf (Ak b)).length<=b.length:=by rw[Hm b hb];exact DZ b
 refine Az K AjP (Aq1 ..) ?_;refine Ab (EE K (by unfold CK;omega) ha) ?_;simp only[eN,Ai];refine Ab (EE K (by unfold CK;omega) hb) ?_;simp only[eN,Ai,Ao];have g:=Yp K C (AK (Ak a)) (AK (Ak b)) (by omega);rw[Bm,Bm]at g
 by_cases h1:(Bf (Ak a)).length<24
 .refine Au ?_
  refine Ab g ?_;rfl
 .refine At ?_
  refine Au ?_;refine Ab g ?_;rfl
end
section
open Go.RowKit
def Akc:MFn:=AE [] 145
def Ajz:Hnt:=⟨[(202,(.ls,[]))],[],[]⟩
def Akb:MFn:=AE [] 142
def Ajy:Hnt:=⟨[(145,(.agg Bv,[]))],[],[(4,[.bool]),(6,[.ls])]⟩
def Aj7:MFn:=AE [] 126
def Ajr:Hnt:=⟨[(145,(.agg Bv,[])),(184,(.ls,[]))],[],[]⟩
def Akh:MFn:=AE [] 161
def AjF:Hnt:=⟨[(145,(.agg Bv,[]))],[],[(4,[.bool]),(7,[.ls])]⟩
def Ao8:MFn:=AE [] 64
def AoC:Hnt:=⟨[(142,(.agg Bv,[]))],[],[(3,Bv),(7,[.bool]),(10,[.ls])]⟩
def Akf:MFn:=AE [] 155
def AjC:Hnt:=⟨[(64,(.int .i64,[])),(201,(.int .i64,[]))],[],[(7,Bv),(9,Bv),(23,[.ls]),(25,[.ls]),(28,[.ls]),(30,[.ls])]⟩
def Aka:MFn:=AE [] 139
def Ajw:Hnt:=⟨[(145,(.agg Bv,[])),(197,(.ls,[])),(198,(.tup [.ls,.bool],[]))],[],[(10,[.bool]),(12,[.bool]),(15,[.bool]),(17,[.ls]),(19,[.ls]),(24,[.ls]),(26,[.ls]),(32,[.bool]),(37,[.ls]),(39,[.ls]),(44,[.bool])]⟩
def Akg:MFn:=AE [] 158
def AjE:Hnt:=⟨[(145,(.agg Bv,[])),(212,(.ls,[]))],[],[(6,[.bool]),(8,[.bool]),(11,[.ls]),(13,[.ls])]⟩
def WW:List (Nat × MFn):=[(145,Akc),(142,Akb),(126,Aj7),(161,Akh),(64,Ao8),(155,Akf),(139,Aka),(158,Akg)]
variable (A:Ar) (D:Orc)
theorem Aqx(x0:Bool)(x1:Rw):BZ A D Aq Ajz (.b (.t (.t (.b (.t .n) (.t .n)))) (.f (.f (.f .n)))) 145 Akc [bv x0,Φ x1] [] =
 Ag D (ω 202) [Φ x1] [] [.l,.E] λxs=>
 br x0
 (br x0 (br x0 (br (A.lt 0 ↑(Bb xs))
 (br x0 (Δ ((ξ [bv U,Φ xs],[]))) Θ)
 (br x0 (Δ ((ξ [bv Ξ,Φ xs],[]))) Θ)) Θ) Θ)
 (br x0 Θ (br x0 Θ (br x0 Θ (Δ ((ξ [bv Ξ,Φ xs],[])))))):=by kernel_rfl
theorem Aqw(x0_0:Bool)(x0_1:Rw):BZ A D Aq Ajy .n 142 Akb [ξ [bv x0_0,Φ x0_1]] [] =
 Ag D (ω 145) [bv x0_0,Φ x0_1] [] [.a,.B,.L,.N,.E] λb xs=>
 Δ ((ξ [bv b,Φ xs],[])):=by kernel_rfl
theorem Aqn(x0:Int):BZ A D Aq Ajr .n 126 Aj7 [iv x0] [] =
 br (A.lt x0 0)
 (Ag D (ω 184) [Ati (Value.int φ (A.add φ (A.conv φ (A.sub Ω 0 (A.add Ω x0 1))) 1))] [] [.l,.E] λxs=>
 Ag D (ω 145) [bv U,Φ xs] [] [.a,.B,.L,.N,.E] λb xs1=>
 Δ ((ξ [bv b,Φ xs1],[])))
 (Ag D (ω 184) [Ati (Value.int φ (A.conv φ x0))] [] [.l,.E] λxs=>
 Ag D (ω 145) [bv Ξ,Φ xs] [] [.a,.B,.L,.N,.E] λb xs1=>
 Δ ((ξ [bv b,Φ xs1],[]))):=by kernel_rfl
theorem AqF(x0_0:Bool)(x0_1:Rw):BZ A D Aq AjF .n 161 Akh [ξ [bv x0_0,Φ x0_1]] [] =
 br (A.not x0_0)
 (Ag D (ω 145) [bv U,Φ x0_1] [] [.a,.B,.L,.N,.E] λb xs=>
 Δ ((ξ [bv b,Φ xs],[])))
 (Ag D (ω 145) [bv Ξ,Φ x0_1] [] [.a,.B,.L,.N,.E] λb xs=>
 Δ ((ξ [bv b,Φ xs],[]))):=by kernel_rfl
theorem e64(x0_0:Bool)(x0_1:Rw):BZ A D Aq AoC .n 64 Ao8 [ξ [bv x0_0,Φ x0_1]] [] =
 Ag D (ω 142) [ξ [bv x0_0,Φ x0_1]] [] [.a,.B,.L,.N,.E] λb xs=>
 br b
 (Δ ((iv (-1),[])))
 (br (A.lt 0 ↑(Bb xs))
 (Δ ((iv 1,[])))
 (Δ ((iv 0,[])))):=by kernel_rfl
theorem AqC(x0_0:Bool)(x0_1:Rw)(x1_0:Bool)(x1_1:Rw):BZ A D Aq AjC .n 155 Akf [ξ [bv x0_0,Φ x0_1],ξ [bv x1_0,Φ x1_1]] [] =
 Ag D (ω 64) [ξ [bv x0_0,Φ x0_1]] [] [.i,.E] λn=>
 Ag D (ω 64) [ξ [bv x1_0,Φ x1_1]] [] [.i,.E] λn1=>
 br (A.lt n n1)
 (Δ ((iv (-1),[])))
 (br (A.lt n1 n)
 (Δ ((iv 1,[])))
 (br (A.lt n 0)
 (Ag D (ω 201) [Φ x1_1,Φ x0_1] [] [.i,.E] λn2=>
 Δ ((iv n2,[])))
 (Ag D (ω 201) [Φ x0_1,Φ x1_1] [] [.i,.E] λn2=>
 Δ ((iv n2,[]))))):=by kernel_rfl
theorem Aqu(x0_0:Bool)(x0_1:Rw)(x1_0:Bool)(x1_1:Rw):BZ A D Aq Ajw .n 139 Aka [ξ [bv x0_0,Φ x0_1],ξ [bv x1_0,Φ x1_1]] [] =
 br (A.beq x0_0 x1_0)
 (Ag D (ω 197) [Φ x0_1,Φ x1_1] [] [.l,.E] λxs=>
 Ag D (ω 145) [bv x0_0,Φ xs] [] [.a,.B,.L,.N,.E] λb xs1=>
 Δ ((ξ [bv b,Φ xs1],[])))
 (Ag D (ω 198) [Φ x0_1,Φ x1_1] [] [.t,.L,.B,.N,.E] λxs b=>
 br b
 (Ag D (ω 145) [bv x0_0,Φ xs] [] [.a,.B,.L,.N,.E] λb1 xs1=>
 Δ ((ξ [bv b1,Φ xs1],[])))
 (Ag D (ω 198) [Φ x1_1,Φ x0_1] [] [.t,.L,.B,.N,.E] λxs1 _=>
 Ag D (ω 145) [bv x1_0,Φ xs1] [] [.a,.B,.L,.N,.E] λb2 xs2=>
 Δ ((ξ [bv b2,Φ xs2],[])))):=by kernel_rfl
theorem AqE(x0_0:Bool)(x0_1:Rw)(x1_0:Bool)(x1_1:Rw):BZ A D Aq AjE .n 158 Akg [ξ [bv x0_0,Φ x0_1],ξ [bv x1_0,Φ x1_1]] [] =
 br (A.not (A.beq x0_0 x1_0))
 (Ag D (ω 212) [Φ x0_1,Φ x1_1] [] [.l,.E] λxs=>
 Ag D (ω 145) [bv U,Φ xs] [] [.a,.B,.L,.N,.E] λb xs1=>
 Δ ((ξ [bv b,Φ xs1],[])))
 (Ag D (ω 212) [Φ x0_1,Φ x1_1] [] [.l,.E] λxs=>
 Ag D (ω 145) [bv Ξ,Φ xs] [] [.a,.B,.L,.N,.E] λb xs1=>
 Δ ((ξ [bv b,Φ xs1],[]))):=by kernel_rfl
end
section
variable {D:Orc} (K:Knows Aq PV D) (Z:Knows Aq WW D) (C:CloneF D)
include K Z C
theorem Gb(neg:Bool){a:Ae}(ha:Limbs a)(hs:CK a):D.ask (.fn 145) [bv neg,eN a] []=Δ (.agg (eZ (AY (DX neg (Ak a)))),[]):=by
 refine Az Z Ajz (Aqx ..) ?_;refine Ab (HK K C hs ha) ?_;simp only[eN,Ai,Ao];rw[W0];unfold eZ eN
 cases neg with
 |false=>rfl
 |true=>
  refine Af ?_;refine Af ?_;refine Af ?_;have hp:=@EC (Ak a)
  by_cases h:0<Ak a
  .refine Au ?_ (by have:=hp.2 h;omega)
   rw[B3 h];rfl
  .refine At ?_ (by intro e;exact h (hp.1 (by omega)))
   rw[Cn h];rfl
theorem ZC{z:Zi}(hz:Lz 1000000000 z):D.ask (.fn 142) [.agg (eZ z)] []=Δ (.agg (eZ (AY (zv z))),[]):=by
 refine Az Z Ajy (Aqw ..) ?_;refine Ab (Gb K Z C z.neg hz.lim hz.len) ?_;rfl
theorem AiY{z:Zi}(hz:Lz 1000000000 z):D.ask (.fn 161) [.agg (eZ z)] []=Δ (.agg (eZ (AY (-zv z))),[]):=by
 have e:-zv z=DX (!z.neg) (Ak z.abs):=by
  unfold zv DX
  cases z.neg<;>simp
 rw[e];refine Az Z AjF (AqF ..) ?_;rw[AbP];have g:=λb=>Gb K Z C b hz.lim hz.len
 cases z.neg with
 |false=>
  refine Af ?_;refine Ab (g U) ?_;rfl
 |true=>
  refine Fv ?_;refine Ab (g Ξ) ?_;rfl
theorem OG{z:Zi}(hz:Lz 1000000000 z):D.ask (.fn 64) [.agg (eZ z)] []=Δ (iv (C4 (zv z)),[]):=by
 refine Az Z AoC (e64 ..) ?_;refine Ab (ZC K Z C hz) ?_;simp only[eZ,eN,Ai,Ao];unfold AY C4
 by_cases h:zv z<0
 .rw[Ac h,B3 h]
  rfl
 .rw[Ad h,Cn h]
  refine Fv ?_;have hp:=@EC (zv z).natAbs
  by_cases h2:0<zv z
  .rw[Ac h2]
   refine Au ?_ (by have:=hp.2 (by omega);dsimp only;omega);rfl
  .rw[Ad h2]
   refine At ?_ (by dsimp only;intro e;have:=hp.1 (by omega);omega);rfl
theorem Anj(n:Int)(h1:-9223372036854775808<=n)(h2:n<9223372036854775808):D.ask (.fn 126) [iv n] []=Δ (.agg (eZ (AY n)),[]):=by
 refine Az Z Ajr (Aqn ..) ?_;have hl:∀ m:Nat,m<18446744073709551616->(Bf m).length<=2:=λm h=>Co (by omega)
 by_cases h:n<0
 .refine Au ?_ h
  have e1:Ah.add .i64 n 1=n+1:=Fo (by omega) (by omega);have e2:Ah.sub .i64 0 (n+1)=((n.natAbs-1:Nat):Int):=by rw[DL (by omega) (by omega)];omega
  rw[e1,e2,CD (by omega),show (1:Int)=((1:Nat):Int) from rfl,Dk (by omega),show n.natAbs-1+1=n.natAbs by omega];refine Ab (AiZ K C n.natAbs (by omega)) ?_;simp only[eN,Ai];have g:=Gb K Z C U (AK n.natAbs) (by unfold CK;have:=hl n.natAbs (by omega);omega);rw[Bm,show DX U n.natAbs=n by unfold DX;rw[Ac rfl];omega]at g;refine Ab g ?_;rfl
 .refine At ?_ h
  obtain⟨m,rfl⟩:=Int.eq_ofNat_of_zero_le (show 0<=n by omega);rw[CD (by omega)];refine Ab (AiZ K C m (by omega)) ?_;simp only[eN,Ai];have g:=Gb K Z C Ξ (AK m) (by unfold CK;have:=hl m (by omega);omega);rw[Bm,show DX Ξ m=(m:Int) from rfl]at g;refine Ab g ?_;rfl
theorem AiW{a b:Zi}(ha:Lz 1000000000 a)(hb:Lz 1000000000 b):D.ask (.fn 155) [.agg (eZ a),.agg (eZ b)] []=Δ (iv (Iq (zv a) (zv b)),[]):=by
 refine Az Z AjC (AqC ..) ?_;refine Ab (OG K Z C ha) ?_;simp only[Ai];refine Ab (OG K Z C hb) ?_;simp only[Ai];have g1:=TU K (a:=b.abs) (b:=a.abs) hb.len hb.lim ha.len ha.lim;have g2:=TU K (a:=a.abs) (b:=b.abs) ha.len ha.lim hb.len hb.lim;have na:=Ado a;have nb:=Ado b;have za:=W1 a;have zb:=W1 b;have va:zv a=DX a.neg (Ak a.abs):=rfl;have vb:zv b=DX b.neg (Ak b.abs):=rfl;unfold C4
 by_cases h1:zv a<0
 .rw[Ac h1]
  rw[DX,Ac (na.1 h1).1]at va
  by_cases h2:zv b<0
  .rw[Ac h2]
   rw[DX,Ac (nb.1 h2).1]at vb;refine At ?_ (by decide);refine At ?_ (by decide);refine Au ?_ (by decide);refine Ab g1 ?_;rw[show Iq (zv a) (zv b)=DA (Ak b.abs) (Ak a.abs) by
    unfold Iq DA;rw[va,vb]
    by_cases h3:Ak b.abs<Ak a.abs
    .rw[Ac (by omega),Ac h3]
    .rw[Ad (by omega),Ad h3]
     by_cases h4:Ak a.abs<Ak b.abs
     .rw[Ac (by omega),Ac h4]
     .rw[Ad (by omega),Ad h4]]
   rfl
  .rw[Ad h2]
   rw[show Iq (zv a) (zv b)=-1 by unfold Iq;rw[Ac (by omega)]]
   by_cases h3:0<zv b
   .rw[Ac h3];rfl
   .rw[Ad h3];rfl
 .rw[Ad h1]
  by_cases h2:zv b<0
  .rw[Ac h2]
   rw[show Iq (zv a) (zv b)=1 by unfold Iq;rw[Ad (by omega),Ac (by omega)]]
   by_cases h3:0<zv a
   .rw[Ac h3];rfl
   .rw[Ad h3];rfl
  .rw[Ad h2]
   have ea:zv a=(Ak a.abs:Int):=by
    by_cases h:0<Ak a.abs
    .rw[va,DX,Ad (λe=>h1 (na.2 ⟨e,h⟩))]
    .rw[za.2 (by omega)];omega
   have eb:zv b=(Ak b.abs:Int):=by
    by_cases h:0<Ak b.abs
    .rw[vb,DX,Ad (λe=>h2 (nb.2 ⟨e,h⟩))]
    .rw[zb.2 (by omega)];omega
   have ec:Iq (zv a) (zv b)=DA (Ak a.abs) (Ak b.abs):=by
    unfold Iq DA;rw[ea,eb]
    by_cases h3:Ak a.abs<Ak b.abs
    .rw[Ac (by omega),Ac h3]
    .rw[Ad (by omega),Ad h3]
     by_cases h4:Ak b.abs<Ak a.abs
     .rw[Ac (by omega),Ac h4]
     .rw[Ad (by omega),Ad h4]
   rw[ec]
   by_cases h3:0<zv a
   .rw[Ac h3]
    by_cases h4:0<zv b
    .rw[Ac h4]
     refine At ?_ (by decide);refine At ?_ (by decide);refine At ?_ (by decide);refine Ab g2 ?_;rfl
    .rw[Ad h4]
     refine At ?_ (by decide);refine Au ?_ (by decide);rw[show DA (Ak a.abs) (Ak b.abs)=1 by unfold DA;rw[Ad (by omega),Ac (by omega)]]
   .rw[Ad h3]
    by_cases h4:0<zv b
    .rw[Ac h4]
     refine Au ?_ (by decide);rw[show DA (Ak a.abs) (Ak b.abs)=-1 by unfold DA;rw[Ac (by omega)]]
    .rw[Ad h4]
     refine At ?_ (by decide);refine At ?_ (by decide);refine At ?_ (by decide);refine Ab g2 ?_;rfl
theorem AiV{k:Nat}(hk:k<=900000000){a b:Zi}(ha:Lz k a)(hb:Lz k b):D.ask (.fn 139) [.agg (eZ a),.agg (eZ b)] []=Δ (.agg (eZ (AY (zv a+zv b))),[]):=by
 have la:=ha.len;have lb:=hb.len;refine Az Z Ajw (Aqu ..) ?_;have hfr:∀(neg:Bool) (n:Nat),n<4294967296 ^ (k+1)->D.ask (.fn 145) [bv neg,eN (Bf n)] []=Δ (.agg (eZ (AY (DX neg n))),[]):=λneg n h=>by
  have:=Gb K Z C neg (AK n) (by unfold CK;have:=Co h;omega)
  rwa [Bm]at this
 have ba:=CR ha.lim;have bb:=CR hb.lim;have pa:4294967296 ^ a.abs.length<=4294967296 ^ k:=Aus (by omega) la;have pb:4294967296 ^ b.abs.length<=4294967296 ^ k:=Aus (by omega) lb;have ps:4294967296 ^ (k+1)=4294967296 ^ k*4294967296:=Auy ..
 by_cases h:a.neg=b.neg
 .rw[PP,show (a.neg == b.neg)=U by simpa using h]
  refine Af ?_;refine Ab (AkI K C (by omega) ha.lim (by omega) hb.lim) ?_;simp only[eN,Ai];refine Ab (hfr a.neg (Ak a.abs+Ak b.abs) (by omega)) ?_;rw[show DX a.neg (Ak a.abs+Ak b.abs)=zv a+zv b by
   unfold zv;rw[←h];unfold DX;split<;>omega]
  rfl
 .rw[PP,show (a.neg == b.neg)=Ξ by simpa using h]
  refine Fv ?_;have hop:zv a+zv b=DX a.neg (Ak a.abs)+DX (!a.neg) (Ak b.abs):=by
   unfold zv;have:b.neg = !a.neg:=by
    revert h
    cases a.neg<;>cases b.neg<;>simp
   rw[this]
  have g1:=Zk K C (a:=a.abs) (b:=b.abs) (by unfold CK;omega) ha.lim (by unfold CK;omega) hb.lim;have g2:=Zk K C (a:=b.abs) (b:=a.abs) (by unfold CK;omega) hb.lim (by unfold CK;omega) ha.lim;unfold Ng at g1 g2;refine Ab g1 ?_
  by_cases hle:Ak b.abs<=Ak a.abs
  .rw[Ac hle]
   simp only[eN,Ai];refine Ab (hfr a.neg (Ak a.abs-Ak b.abs) (by omega)) ?_;rw[show DX a.neg (Ak a.abs-Ak b.abs)=zv a+zv b by
    rw[hop];unfold DX
    cases a.neg<;>simp<;>omega]
   rfl
  .rw[Ad hle]
   rw[Ac (by omega)]at g2;simp only[eN,Ai];refine Ab g2 ?_;simp only[eN,Ai];refine Ab (hfr b.neg (Ak b.abs-Ak a.abs) (by omega)) ?_;rw[show DX b.neg (Ak b.abs-Ak a.abs)=zv a+zv b by
    rw[hop];have:b.neg = !a.neg:=by
     revert h
     cases a.neg<;>cases b.neg<;>simp
    rw[this];unfold DX
    cases a.neg<;>simp<;>omega]
   rfl
theorem AiX{k m:Nat}(hk:k<=400000000)(hkm:m<=400000000){a b:Zi}(ha:Lz k a)(hb:Lz m b)(h24:a.abs.length<24\/b.abs.length<24):D.ask (.fn 158) [.agg (eZ a),.agg (eZ b)] []=Δ (.agg (eZ (AY (zv a*zv b))),[]):=by
 have la:=ha.len;have lb:=hb.len;refine Az Z AjE (AqE ..) ?_;have hm:InB (k+m) (zv a*zv b):=ha.inb.mul hb.inb;have hab:(zv a*zv b).natAbs=Ak a.abs*Ak b.abs:=by
  have f:∀ z:Zi,(zv z).natAbs=Ak z.abs:=λz=>by
   unfold zv DX;split
   .rw[Int.natAbs_neg];rfl
   .rfl
  rw[Int.natAbs_mul,f,f]
 unfold InB at hm;rw[hab]at hm;have hl:=Co hm;have hfr:∀(neg:Bool),D.ask (.fn 145) [bv neg,eN (Bf (Ak a.abs*Ak b.abs))] []=Δ (.agg (eZ (AY (DX neg (Ak a.abs*Ak b.abs)))),[]):=λneg=>by
  have:=Gb K Z C neg (AK (Ak a.abs*Ak b.abs)) (by unfold CK;omega)
  rwa [Bm]at this
 have g:=AkM K C (by omega) ha.lim (by omega) hb.lim h24;have hs:DX (a.neg != b.neg) (Ak a.abs*Ak b.abs)=zv a*zv b:=by
  unfold zv DX
  cases a.neg<;>cases b.neg<;>simp[Int.mul_neg,Int.neg_mul]
 rw[AbP,PP]
 by_cases h:a.neg=b.neg
 .rw[show (!(a.neg == b.neg))=Ξ by simp[h]]
  rw[show (a.neg != b.neg)=Ξ by simp[h]]at hs;refine Fv ?_;refine Ab g ?_;simp only[eN,Ai];refine Ab (hfr Ξ) ?_;rw[hs];rfl
 .rw[show (!(a.neg == b.neg))=U by simp[h]]
  rw[show (a.neg != b.neg)=U by simp[h]]at hs;refine Af ?_;refine Ab g ?_;simp only[eN,Ai];refine Ab (hfr U) ?_;rw[hs];rfl
end
structure ZF (D:Orc):Prop where
 frm:∀ z:Zi,Lz 1000000000 z->D.ask (.fn 145) [bv z.neg,eN z.abs] []=Δ (.agg (eZ (AY (zv z))),[])
 neg:∀ z:Zi,Lz 1000000000 z->D.ask (.fn 161) [.agg (eZ z)] []=Δ (.agg (eZ (AY (-zv z))),[])
 sign:∀ z:Zi,Lz 1000000000 z->D.ask (.fn 64) [.agg (eZ z)] []=Δ (iv (C4 (zv z)),[])
 of_:∀ n:Int,-9223372036854775808<=n->n<9223372036854775808->D.ask (.fn 126) [iv n] []=Δ (.agg (eZ (AY n)),[])
 cmp:∀ a b:Zi,Lz 1000000000 a->Lz 1000000000 b->D.ask (.fn 155) [.agg (eZ a),.agg (eZ b)] []=Δ (iv (Iq (zv a) (zv b)),[])
 add:∀ a b:Zi,Lz 900000000 a->Lz 900000000 b->D.ask (.fn 139) [.agg (eZ a),.agg (eZ b)] []=Δ (.agg (eZ (AY (zv a+zv b))),[])
 mul:∀ a b:Zi,Lz 400000000 a->Lz 400000000 b->a.abs.length<24\/b.abs.length<24->D.ask (.fn 158) [.agg (eZ a),.agg (eZ b)] []=Δ (.agg (eZ (AY (zv a*zv b))),[])
theorem ApW{D:Orc}(K:Knows Aq PV D)(Z:Knows Aq WW D)(C:CloneF D):ZF D where
 frm z h:=by
  have:=Gb K Z C z.neg h.lim (by unfold CK;exact h.len);exact this
 neg z h:=AiY K Z C h
 sign z h:=OG K Z C h
 of_ n h1 h2:=Anj K Z C n h1 h2
 cmp a b ha hb:=AiW K Z C ha hb
 add a b ha hb:=AiV K Z C (η _) ha hb
 mul a b ha hb h:=AiX K Z C (η _) (η _) ha hb h
theorem Srt.same{l r:List Pt}{a b p q:Nat}(h:Srt Pt.v l p q)(hs:Same0 l r a b)(hd:q<=a\/b<=p):Srt Pt.v r p q:=by
 intro x y h1 h2 h3;rw[hs.kf Pt.v (by omega),hs.kf Pt.v (by omega)];exact h x y h1 h2 h3
def TT(q t:Nat)(l:List Pt):Prop:=∀ p,q ∣ p->p+q<=t->Srt Pt.v l p (p+q)
theorem Ant{a:Nat}(h:a<4611686018427387000):Ah.add .i64 (a:Int) 20=((a+20:Nat):Int):=by
 rw[Fo (by omega) (by omega)];rfl
section
variable {D:Orc} (K:Knows Aq Oz D)
include K
theorem Am3:∀(m a:Nat) (l:List Pt),l.length-a=m->a<=l.length->l.length<=1000000000->20 ∣ a->TT 20 a l->
  ∃(r:List Pt) (c:Nat),D.ask (.lp 196 0) [.sl 0 0 l.length 3,iv (l.length:Int),E5,iv 20,iv (a:Int),iv ((a+20:Nat):Int)] [Ψ (Aj eP l) U U]
   = Δ (.tup [iv 0,.sl 0 0 l.length 3,iv (l.length:Int),E5,iv 20,iv (c:Int)],[.set (Ψ (Aj eP r) U U)])
   ∧ r.length=l.length/\r.Perm l/\c<=l.length/\l.length<c+20/\20 ∣ c/\TT 20 c r:=by
 intro m
 induction m using Aun with
 |_ m ih=>
  intro a l hm ha hl hd hb
  by_cases h:a+20<=l.length
  .obtain⟨r,g,hr,hp,ho,hsm⟩:=Aa0 K (a:=a) (b:=a+20) (l:=l) (by omega) h hl
   have hb2:TT 20 (a+20) r:=λp h1 h2=>by
    by_cases hpa:p=a
    .subst hpa
     exact ho
    .exact(hb p h1 (by omega)).same hsm (.inl (by omega))
   obtain⟨r2,c,g2,hr2,hp2,h3,h4,h5,h6⟩:=ih (r.length-(a+20)) (by omega) (a+20) r rfl (by omega) (by omega) (by omega) hb2;rw[hr]at g2 h3 h4;refine⟨r2,c,?_,by omega,hp2.trans hp,h3,h4,h5,h6⟩;refine Ax K GO (Z2 ..) ?_;refine Cz ?_;refine Ab g ?_;simp only[E5,Ai];rw[Ant (by omega)];refine Ab g2 ?_;rfl
  .refine⟨l,a,?_,rfl,List.Perm.refl _,ha,by omega,hd,hb⟩
   refine Ax K GO (Z2 ..) ?_;exact CQ rfl
end
section
variable {D:Orc} (K:Knows Aq Es D)
include K
omit K in
def MS(D:Orc):Prop:=∀(l:List Pt) (a m b:Nat),a<m->m<b->b<=l.length->l.length<=1000000000->Srt Pt.v l a m->Srt Pt.v l m b->
 ∃ r:List Pt,D.ask (.fn 235) [.sl 0 0 l.length 3,iv (a:Int),iv (m:Int),iv (b:Int),E5] [Ψ (Aj eP l) U U]=Δ (.tup [],[.set (Ψ (Aj eP r) U U)])
  ∧ r.length=l.length/\r.Perm l/\Srt Pt.v r a b/\Same0 l r a b
def TlS(q a:Nat)(l:List Pt):Prop:=∀ j,Srt Pt.v l (a+j*q) (min (a+(j+1)*q) l.length)
theorem Am5(M:MS D)(q:Nat)(hq:0<q)(hq2:q<=1000000000):∀(m a:Nat) (l:List Pt),l.length-a=m->a<=l.length->l.length<=1000000000->2*q ∣ a->TT (2*q) a l->TlS q a l->
  ∃(r:List Pt) (c:Nat),D.ask (.lp 196 2) [.sl 0 0 l.length 3,iv (l.length:Int),E5,iv (q:Int),iv (a:Int),iv ((a+2*q:Nat):Int)] [Ψ (Aj eP l) U U]
   = Δ (.tup [iv 4,.sl 0 0 l.length 3,iv (l.length:Int),E5,iv (q:Int),iv (c:Int)],[.set (Ψ (Aj eP r) U U)])
   ∧ r.length=l.length/\r.Perm l/\c<=l.length/\l.length<c+2*q/\2*q ∣ c/\TT (2*q) c r/\TlS q c r:=by
 intro m
 induction m using Aun with
 |_ m ih=>
  intro a l hm ha hl hd hb ht
  by_cases h:a+2*q<=l.length
  .have t0:=ht 0
   have t1:=ht 1;rw[Auz,At3,Ato,Au8,AuL (by omega)]at t0;rw[Au8,show (1+1)*q=2*q from rfl,AuL h]at t1;obtain⟨r,g,hr,hp,ho,hsm⟩:=M l a (a+q) (a+2*q) (by omega) (by omega) h hl t0 t1;have hb2:TT (2*q) (a+2*q) r:=λp h1 h2=>by
    by_cases hpa:p=a
    .subst hpa
     exact ho
    .have:=AvP (by omega) (Av0 hd h1)
     exact(hb p h1 (by omega)).same hsm (.inl (by omega))
   have ht2:TlS q (a+2*q) r:=λj=>by
    have:=ht (j+2);rw[show a+(j+2)*q=a+2*q+j*q by rw[At2];omega,show a+(j+2+1)*q=a+2*q+(j+1)*q by rw[At2,At2,At2];omega]at this;rw[hr];exact this.same hsm (.inr (by omega))
   obtain⟨r2,c,g2,hr2,hp2,h3,h4,h5,h6,h7⟩:=ih (r.length-(a+2*q)) (by omega) (a+2*q) r rfl (by omega) (by omega) (Nat.dvd_add hd (Nat.dvd_refl _)) hb2 ht2;rw[hr]at g2 h3 h4;refine⟨r2,c,?_,by omega,hp2.trans hp,h3,h4,h5,h6,h7⟩;refine Ax K GO (Z3 ..) ?_;refine Cz ?_;rw[show Ah.add .i64 (a:Int) (q:Int)=((a+q:Nat):Int) by rw[Fo (by omega) (by omega)];omega,
    show Ah.mul .i64 2 (q:Int)=((2*q:Nat):Int) by
     show IntKind.i64.wrap (2*(q:Int))=_
     rw[IntKind.wrap_i64];omega,
    show Ah.add .i64 ((a+2*q:Nat):Int) ((2*q:Nat):Int)=((a+2*q+2*q:Nat):Int) by rw[Fo (by omega) (by omega)];omega]
   refine Ab g ?_;simp only[E5,Ai];refine Ab g2 ?_;rfl
  .refine⟨l,a,?_,rfl,List.Perm.refl _,ha,by omega,hd,hb,ht⟩
   refine Ax K GO (Z3 ..) ?_;exact CQ rfl
omit K in
theorem VF{q c:Nat}{r:List Pt}(hq:0<q)(hd:q ∣ c)(hn:r.length<c+q)(hb:TT q c r)(hs:Srt Pt.v r c r.length):TlS q 0 r:=λj=>by
 rw[Ato,Ato];have e:(j+1)*q=j*q+q:=by rw[At2];omega
 by_cases h1:j*q+q<=c
 .have:=hb (j*q) (AvB q j) h1
  intro x y hx hxy hy;exact this x y hx hxy (by omega)
 .by_cases h2:j*q=c
  .intro x y hx hxy hy
   exact hs x y (by omega) hxy (by omega)
  .intro x y hx hxy hy
   exfalso
   by_cases h3:j*q<c
   .have:=AvP (by omega) (Av0 hd (AvB q j))
    omega
   .have:=AvP (by omega) (Av0 (AvB q j) hd)
    omega
theorem Am4(M:MS D):∀(m q:Nat) (l:List Pt),l.length-q=m->0<q->q<=2000000000->l.length<=1000000000->TlS q 0 l->
  ∃ r:List Pt,D.ask (.lp 196 1) [.sl 0 0 l.length 3,iv (l.length:Int),E5,iv (q:Int)] [Ψ (Aj eP l) U U]
   = Δ (.tup [iv 2,.sl 0 0 l.length 3],[.set (Ψ (Aj eP r) U U)])
   ∧ r.length=l.length/\r.Perm l/\Srt Pt.v r 0 r.length:=by
 intro m
 induction m using Aun with
 |_ m ih=>
  intro q l hm hq hq2 hl ht
  by_cases h:q<l.length
  .obtain⟨r,c,g,hr,hp,hc,hn,hd,hb,ht2⟩:=Am5 K M q hq (by omega) _ 0 l rfl (by omega) hl (Awi _) (λp _ h2=>by omega) ht
   have t0:=ht2 0;have t1:=ht2 1;rw[Auz,At3,Ato,Au8]at t0;rw[Au8,show (1+1)*q=2*q from rfl,AvC (by omega)]at t1;rw[Ato]at g;have emul:Ah.mul .i64 2 (q:Int)=((2*q:Nat):Int):=by
    show IntKind.i64.wrap (2*(q:Int))=_
    rw[IntKind.wrap_i64];omega
   have emul2:Ah.mul .i64 (q:Int) 2=((2*q:Nat):Int):=by
    show IntKind.i64.wrap ((q:Int)*2)=_
    rw[IntKind.wrap_i64];omega
   have eadd:Ah.add .i64 (c:Int) (q:Int)=((c+q:Nat):Int):=by rw[Fo (by omega) (by omega)];omega
   by_cases h2:c+q<l.length
   .rw[AuL (by omega)]at t0
    obtain⟨r3,g3,hr3,hp3,ho3,hsm⟩:=M r c (c+q) r.length (by omega) (by omega) (η _) (by omega) t0 t1;have ht3:TlS (2*q) 0 r3:=VF (by omega) hd (by omega) (λp h1 h2=>(hb p h1 h2).same hsm (.inl (by omega))) (by rw[hr3];exact ho3);obtain⟨r4,g4,hr4,hp4,ho4⟩:=ih (r3.length-2*q) (by omega) (2*q) r3 rfl (by omega) (by omega) (by omega) ht3;rw[hr]at g3 hr3;rw[hr3]at g4 hr4;refine⟨r4,?_,hr4,hp4.trans (hp3.trans hp),ho4⟩;refine Ax K GO (Uj ..) ?_;refine Au ?_;rw[emul];refine Ab g ?_;simp only[E5,Ai];refine Af ?_;rw[eadd,emul2];refine Au ?_;refine Ab g3 ?_;simp only[E5,Ai];refine Ab g4 ?_;rfl
   .rw[AvC (by omega)]at t0
    have ht3:TlS (2*q) 0 r:=VF (by omega) hd (by omega) hb t0;obtain⟨r4,g4,hr4,hp4,ho4⟩:=ih (r.length-2*q) (by omega) (2*q) r rfl (by omega) (by omega) (by omega) ht3;rw[hr]at g4 hr4;refine⟨r4,?_,hr4,hp4.trans hp,ho4⟩;refine Ax K GO (Uj ..) ?_;refine Au ?_;rw[emul];refine Ab g ?_;simp only[E5,Ai];refine Af ?_;rw[eadd,emul2];refine At ?_;refine Ab g4 ?_;rfl
  .refine⟨l,?_,rfl,List.Perm.refl _,?_⟩
   .refine Ax K GO (Uj ..) ?_
    exact At rfl
   .have t0:=ht 0
    rw[Auz,Ato,Ato,Au8,AvC (by omega)]at t0;exact t0
theorem YL(M:MS D){l:List Pt}(hl:l.length<=1000000000) :
  ∃ r:List Pt,D.ask (.fn 196) [.sl 0 0 l.length 3,iv (l.length:Int),E5] [Ψ (Aj eP l) U U]=Δ (.tup [],[.set (Ψ (Aj eP r) U U)])
   ∧ r.length=l.length/\r.Perm l/\Srt Pt.v r 0 r.length:=by
 obtain⟨r,c,g,hr,hp,hc,hn,hd,hb⟩:=Am3 (FZ K) _ 0 l rfl (by omega) hl (Awi _) (λp _ h2=>by omega);obtain⟨r2,g2,hr2,hp2,ho2,hsm⟩:=Aa0 (FZ K) (a:=c) (b:=r.length) (l:=r) (by omega) (η _) (by omega);have ht:TlS 20 0 r2:=VF (by omega) hd (by omega) (λp h1 h2=>(hb p h1 h2).same hsm (.inl (by omega))) (by rw[hr2];exact ho2);obtain⟨r3,g3,hr3,hp3,ho3⟩:=Am4 K M _ 20 r2 rfl (by omega) (by omega) (by omega) ht;rw[hr]at g2 hr2;rw[hr2]at g3 hr3;refine⟨r3,?_,hr3,hp3.trans (hp2.trans hp),ho3⟩;refine Az K GO (AqS ..) ?_;refine Ab g ?_;simp only[E5,Ai];refine Ab g2 ?_;simp only[E5,Ai];refine Ab g3 ?_;rfl
theorem Aik(M:MS D){l:List Pt}(hl:l.length<=1000000000) :
  ∃ r:List Pt,D.ask (.fn 136) [.sl 0 0 l.length 3,E5] [Ψ (Aj eP l) U U]=Δ (.tup [],[.set (Ψ (Aj eP r) U U)])
   ∧ r.length=l.length/\r.Perm l/\Srt Pt.v r 0 r.length:=by
 obtain⟨r,g,h⟩:=YL K M hl;refine⟨r,?_,h⟩;refine Az K Ajt (Aqr ..) ?_;refine Ab g ?_;rfl
end
section
variable {α:Type} (key:α->Int)
structure Rot (l r:List α) (a m b:Nat):Prop where
 out:∀ p,p<a\/b<=p->r[p]? = l[p]?
 low:∀ p,a<=p->p<a+(b-m)->r[p]? = l[p+(m-a)]?
 high:∀ p,a+(b-m)<=p->p<b->r[p]? = l[p-(b-m)]?
structure SwR (l r:List α) (a b n:Nat):Prop where
 out:∀ p,p<a\/(a+n<=p/\p<b)\/b+n<=p->r[p]? = l[p]?
 low:∀ p,a<=p->p<a+n->r[p]? = l[p+(b-a)]?
 high:∀ p,b<=p->p<b+n->r[p]? = l[p-(b-a)]?
theorem CA{l:List α}{i j:Nat}(h:i=j):l[i]? = l[j]?:=by rw[h]
theorem Ab4{c d r:List α}{i j m:Nat}(h0:i<=m)(h:j<i)(s:SwR c d (m-i) m j)(t:Rot d r (m-(i-j)) m (m+j)):Rot c r (m-i) m (m+j):=by
 refine⟨λp hp=>?_,λp h1 h2=>?_,λp h1 h2=>?_⟩
 .rw[t.out p (by omega),s.out p (by omega)]
 .rw[t.out p (by omega),s.low p (by omega) (by omega)]
 .by_cases h3:p<m-(i-j)+j
  .rw[t.low p (by omega) (by omega),s.high _ (by omega) (by omega)]
   exact CA (by omega)
  .rw[t.high p (by omega) (by omega),s.out _ (by omega)]
theorem Yg{c d r:List α}{i j m:Nat}(h0:i<=m)(h:i<j)(s:SwR c d (m-i) (m+j-i) i)(t:Rot d r (m-i) m (m+(j-i))):Rot c r (m-i) m (m+j):=by
 refine⟨λp hp=>?_,λp h1 h2=>?_,λp h1 h2=>?_⟩
 .rw[t.out p (by omega),s.out p (by omega)]
 .by_cases h3:p<m-i+(j-i)
  .rw[t.low p (by omega) (by omega),s.out _ (by omega)]
  .rw[t.high p (by omega) (by omega),s.low _ (by omega) (by omega)]
   exact CA (by omega)
 .rw[t.out p (by omega),s.high p (by omega) (by omega)]
  exact CA (by omega)
theorem Ab6{c r:List α}{i m:Nat}(h0:i<=m)(s:SwR c r (m-i) m i):Rot c r (m-i) m (m+i):=by
 refine⟨λp hp=>?_,λp h1 h2=>?_,λp h1 h2=>?_⟩
 .rw[s.out p (by omega)]
 .rw[s.low p (by omega) (by omega)]
 .rw[s.high p (by omega) (by omega)]
  exact CA (by omega)
theorem FV{l:List α}{a m b:Nat}(h:a=m\/m=b)(ha:a<=m)(hb:m<=b):Rot l l a m b:=by
 refine⟨λp hp=>rfl,λp h1 h2=>CA (by omega),λp h1 h2=>CA (by omega)⟩
theorem Acw{l r:List α}{a b n:Nat}(hab:a+n<b)(hb:b+n<l.length)(s:SwR l r a b n)(hr:r.length=l.length):SwR l (Dg r (a+n) (b+n)) a b (n+1):=by
 have ha:a+n<r.length:=by omega
 have hb2:b+n<r.length:=by omega
 have e1:∀ p,(Dg r (a+n) (b+n))[p]? = if p=a+n then r[b+n]? else if p=b+n then r[a+n]? else r[p]?:=λp=>by
  rw[DY ha hb2]
  by_cases h1:p=b+n
  .subst h1
   rw[Ad (by omega),Ac rfl,Aul (by simpa using hb2),δ ha]
  .rw[Aua (λe=>h1 e.symm)]
   by_cases h2:p=a+n
   .subst h2
    rw[Ac rfl,Aul ha,δ hb2]
   .rw[Ad h2,Ad h1,Aua (λe=>h2 e.symm)]
 refine⟨λp hp=>?_,λp h1 h2=>?_,λp h1 h2=>?_⟩
 .rw[e1,Ad (by omega),Ad (by omega),s.out p (by omega)]
 .rw[e1]
  by_cases h:p=a+n
  .rw[Ac h,s.out _ (by omega)]
   exact CA (by omega)
  .rw[Ad h,Ad (by omega),s.low p h1 (by omega)]
 .rw[e1]
  by_cases h:p=b+n
  .rw[Ad (by omega),Ac h,s.out _ (by omega)]
   exact CA (by omega)
  .rw[Ad (by omega),Ad h,s.high p h1 (by omega)]
theorem Acx(l:List α)(a b:Nat):SwR l l a b 0:=⟨λ_ _=>rfl,λ_ h1 h2=>by omega,λ_ h1 h2=>by omega⟩
theorem Hk{l r:List α}{p q:Nat}(h:r[p]? = l[q]?):kf key r p=kf key l q:=by
 unfold kf;rw[h]
theorem Rot.kout{l r:List α}{a m b p:Nat}(h:Rot l r a m b)(hp:p<a\/b<=p):kf key r p=kf key l p:=Hk key (h.out p hp)
theorem Rot.klow{l r:List α}{a m b p:Nat}(h:Rot l r a m b)(h1:a<=p)(h2:p<a+(b-m)):kf key r p=kf key l (p+(m-a)):=Hk key (h.low p h1 h2)
theorem Rot.khigh{l r:List α}{a m b p:Nat}(h:Rot l r a m b)(h1:a+(b-m)<=p)(h2:p<b):kf key r p=kf key l (p-(b-m)):=Hk key (h.high p h1 h2)
theorem SR{l r:List α}{a b i:Nat}(hi:a+1<=i)(hib:i<=b)(hs:Srt key l (a+1) b)(h1:∀ p,a+1<=p->p<i->kf key l p<kf key l a)(h2:∀ p,i<=p->p<b->kf key l a<=kf key l p)(t:Rot l r a (a+1) i):Srt key r a b:=by
 intro p q hp hpq hq
 by_cases q1:q<i-1
 .rw[t.klow key (by omega) (by omega),t.klow key (by omega) (by omega)]
  exact hs _ _ (by omega) (by omega) (by omega)
 .by_cases q2:q=i-1
  .rw[t.klow key (by omega) (by omega),t.khigh key (by omega) (by omega),show q-(i-(a+1))=a by omega]
   have:=h1 (p+(a+1-a)) (by omega) (by omega);omega
  .rw[t.kout key (p:=q) (by omega)]
   by_cases p1:p<i-1
   .rw[t.klow key (by omega) (by omega)]
    exact hs _ _ (by omega) (by omega) (by omega)
   .by_cases p2:p=i-1
    .rw[t.khigh key (by omega) (by omega),show p-(i-(a+1))=a by omega]
     exact h2 q (by omega) hq
    .rw[t.kout key (by omega)]
     exact hs _ _ (by omega) (by omega) (by omega)
theorem UW{l r:List α}{a m i:Nat}(hi:a<=i)(him:i<=m)(hs:Srt key l a m)(h1:∀ p,a<=p->p<i->kf key l p<=kf key l m)(h2:∀ p,i<=p->p<m->kf key l m<kf key l p)(t:Rot l r i m (m+1)):Srt key r a (m+1):=by
 intro p q hp hpq hq
 by_cases p1:p<i
 .rw[t.kout key (p:=p) (by omega)]
  by_cases q1:q<i
  .rw[t.kout key (by omega)]
   exact hs _ _ (by omega) (by omega) (by omega)
  .by_cases q2:q=i
   .rw[t.klow key (by omega) (by omega),show q+(m-i)=m by omega]
    exact h1 p hp p1
   .rw[t.khigh key (by omega) (by omega)]
    exact hs _ _ (by omega) (by omega) (by omega)
 .rw[t.khigh key (p:=q) (by omega) (by omega)]
  by_cases p2:p=i
  .rw[t.klow key (by omega) (by omega),show p+(m-i)=m by omega]
   have:=h2 (q-(m+1-m)) (by omega) (by omega);omega
  .rw[t.khigh key (by omega) (by omega)]
   exact hs _ _ (by omega) (by omega) (by omega)
def Low(l:List α)(a m b:Nat):Prop:=∀ p q,a<=p->p<m->m<=q->q<b->kf key l p<=kf key l q
theorem Aim{l:List α}{a m b:Nat}(h1:Srt key l a m)(h2:Srt key l m b)(h3:Low key l a m b):Srt key l a b:=by
 intro p q hp hpq hq
 by_cases c:q<m
 .exact h1 p q hp hpq c
 .by_cases d:p<m
  .exact h3 p q hp d (by omega) hq
  .exact h2 p q (by omega) hpq hq
structure CutAt (l:List α) (a m b mid s e:Nat):Prop where
 asl:a<=s
 sm:s<=m
 me:m<=e
 eb:e<=b
 mid:s+(e-m)=mid
 up:∀ p q,a<=p->p<s->e<=q->q<b->kf key l p<=kf key l q
 dn:∀ p q,m<=p->p<e->s<=q->q<m->kf key l p<=kf key l q
theorem EH{l r:List α}{a m b mid s e:Nat}(c:CutAt key l a m b mid s e)(h1:Srt key l a m)(h2:Srt key l m b)(t:Rot l r s m e) :
  Srt key r a s/\Srt key r s mid/\Srt key r mid e/\Srt key r e b/\Low key r a mid b:=by
 have:=c.asl;have:=c.sm;have:=c.me;have:=c.eb;have:=c.mid;refine⟨λp q x y z=>?_,λp q x y z=>?_,λp q x y z=>?_,λp q x y z=>?_,λp q x y z w=>?_⟩
 .rw[t.kout key (by omega),t.kout key (by omega)]
  exact h1 _ _ (by omega) (by omega) (by omega)
 .rw[t.klow key (by omega) (by omega),t.klow key (by omega) (by omega)]
  exact h2 _ _ (by omega) (by omega) (by omega)
 .rw[t.khigh key (by omega) (by omega),t.khigh key (by omega) (by omega)]
  exact h1 _ _ (by omega) (by omega) (by omega)
 .rw[t.kout key (by omega),t.kout key (by omega)]
  exact h2 _ _ (by omega) (by omega) (by omega)
 .by_cases p1:p<s
  .rw[t.kout key (p:=p) (by omega)]
   by_cases q1:q<e
   .rw[t.khigh key (by omega) (by omega)]
    exact h1 _ _ (by omega) (by omega) (by omega)
   .rw[t.kout key (by omega)]
    exact c.up _ _ (by omega) (by omega) (by omega) (by omega)
  .rw[t.klow key (p:=p) (by omega) (by omega)]
   by_cases q1:q<e
   .rw[t.khigh key (by omega) (by omega)]
    exact c.dn _ _ (by omega) (by omega) (by omega) (by omega)
   .rw[t.kout key (by omega)]
    exact h2 _ _ (by omega) (by omega) (by omega)
theorem WA{l r:List α}{a b:Nat}(hp:r.Perm l)(hs:Same0 l r a b){p:Nat}(h1:a<=p)(h2:p<b)(hb:b<=l.length):∃ q,a<=q/\q<b/\r[p]? = l[q]?:=by
 have hlen:=hp.length_eq;have ht:r.take a=l.take a:=by
  apply AvX;intro i;rw[AtC,AtC];split
  .exact hs i (by omega)
  .rfl
 have hd:r.drop b=l.drop b:=by
  apply AvX;intro i;rw[Aud,Aud];exact hs _ (by omega)
 have er:∀ x:List α,b<=x.length->x=x.take a++((x.drop a).take (b-a)++x.drop b):=λx hx=>by
  have e1:=(AuR a x).symm;have e2:=(AuR (b-a) (x.drop a)).symm;rw[Avp,show a+(b-a)=b by omega]at e2;rw[←e2];exact e1
 have hp2:(r.take a++((r.drop a).take (b-a)++r.drop b)).Perm (l.take a++((l.drop a).take (b-a)++l.drop b)):=by
  rw[←er r (by omega),←er l hb];exact hp
 rw[ht,hd]at hp2;have hp3:=(List.perm_append_right_iff _).1 ((List.perm_append_left_iff _).1 hp2);have hpr:p<r.length:=by omega
 have hm:r[p]∈(r.drop a).take (b-a):=by
  rw[AvM];refine⟨p-a,?_⟩;rw[AtC,Ac (by omega),Aud,show a+(p-a)=p by omega,δ hpr]
 have hm2:=hp3.mem_iff.1 hm;rw[AvM]at hm2;obtain⟨i,hi⟩:=hm2;rw[AtC]at hi;split at hi
 .rename_i hib
  rw[Aud]at hi;exact⟨a+i,by omega,by omega,by rw[hi,δ hpr]⟩
 .cases hi
theorem Abg{l r:List α}{a m b:Nat}(h:Low key l a m b)(hp:r.Perm l)(hs:Same0 l r a m)(hb:m<=l.length):Low key r a m b:=by
 intro p q x y z w;obtain⟨p2,h1,h2,h3⟩:=WA hp hs x y hb;rw[Hk key h3,hs.kf key (by omega)];exact h p2 q h1 h2 z w
theorem XO{l r:List α}{a m b:Nat}(h:Low key l a m b)(hp:r.Perm l)(hs:Same0 l r m b)(hb:b<=l.length):Low key r a m b:=by
 intro p q x y z w;obtain⟨q2,h1,h2,h3⟩:=WA hp hs z w hb;rw[Hk key h3,hs.kf key (by omega)];exact h p q2 x y h1 h2
theorem Srt.same'{l r:List α}{a b p q:Nat}(h:Srt key l p q)(hs:Same0 l r a b)(hd:q<=a\/b<=p):Srt key r p q:=by
 intro x y h1 h2 h3;rw[hs.kf key (by omega),hs.kf key (by omega)];exact h x y h1 h2 h3
theorem Kb{l:List α}{a s m:Nat}(h:s=a\/s=m)(h1:Srt key l a s)(h2:Srt key l s m):Srt key l a m:=by
 rcases h with rfl|rfl
 .exact h2
 .exact h1
structure Bs (l:List α) (n x y s r:Nat):Prop where
 xs:x<=s
 sr:s<=r
 ry:r<=y
 lo:∀ c,x<=c->c<s->kf key l c<=kf key l (n-1-c)
 hi:∀ c,r<=c->c<y->kf key l (n-1-c)<kf key l c
section
variable {l:List α} {n x y s r a m b:Nat}
theorem Bs.up(B:Bs key l n x y s r)(h1:Srt key l a m)(h2:Srt key l m b)(hx:a<=x)(hy:y<=m)(hn:n<=x+b)(hm:m+y<=n){c:Nat}(hc:s<=c)(hr:c<r)(h:kf key l c<=kf key l (n-1-c)):Bs key l n x y (c+1) r:=by
 have:=B.xs;have:=B.sr;have:=B.ry;refine⟨by omega,by omega,B.ry,λd hd1 hd2=>?_,B.hi⟩
 by_cases hdc:d=c
 .rw[hdc];exact h
 .have e1:=h1 d c (by omega) (by omega) (by omega)
  have e2:=h2 (n-1-c) (n-1-d) (by omega) (by omega) (by omega);omega
theorem Bs.dn(B:Bs key l n x y s r)(h1:Srt key l a m)(h2:Srt key l m b)(hx:a<=x)(hy:y<=m)(hn:n<=x+b)(hm:m+y<=n){c:Nat}(hc:s<=c)(hr:c<r)(h:kf key l (n-1-c)<kf key l c):Bs key l n x y s c:=by
 have:=B.xs;have:=B.sr;have:=B.ry;refine⟨B.xs,hc,by omega,B.lo,λd hd1 hd2=>?_⟩
 by_cases hdc:d=c
 .rw[hdc];exact h
 .have e1:=h1 c d (by omega) (by omega) (by omega)
  have e2:=h2 (n-1-d) (n-1-c) (by omega) (by omega) (by omega);omega
theorem Bs.cut{mid:Nat}(B:Bs key l (mid+m) x y s s)(h1:Srt key l a m)(h2:Srt key l m b)(hx:a<=x)(hy:y<=m)(hn:mid+m<=x+b)(hm:y<=mid)(cx:x=a\/mid+m=x+b)(cy:y=m\/y=mid):CutAt key l a m b mid s (mid+m-s):=by
 have:=B.xs;have:=B.ry;refine⟨by omega,by omega,by omega,by omega,by omega,λp q c1 c2 c3 c4=>?_,λp q c1 c2 c3 c4=>?_⟩
 .have hs:x<s:=by omega
  have e:=B.lo (s-1) (by omega) (by omega);rw[show mid+m-1-(s-1)=mid+m-s by omega]at e;have e1:kf key l p<=kf key l (s-1):=by
   by_cases h:p=s-1
   .rw[h];exact AvI _
   .exact h1 _ _ (by omega) (by omega) (by omega)
  have e2:kf key l (mid+m-s)<=kf key l q:=by
   by_cases h:q=mid+m-s
   .rw[h];exact AvI _
   .exact h2 _ _ (by omega) (by omega) (by omega)
  omega
 .have hs:s<y:=by omega
  have e:=B.hi s (by omega) (by omega);have e1:kf key l p<=kf key l (mid+m-1-s):=by
   by_cases h:p=mid+m-1-s
   .rw[h];exact AvI _
   .exact h2 _ _ (by omega) (by omega) (by omega)
  have e2:kf key l s<=kf key l q:=by
   by_cases h:q=s
   .rw[h];exact AvI _
   .exact h1 _ _ (by omega) (by omega) (by omega)
  omega
end
theorem AmY{l r:List α}{a k:Nat}(h:a<=k)(hk:k+1<l.length)(hr:r.length=l.length)(t:Rot l r a (a+1) (k+1)):Rot l (Dg r k (k+1)) a (a+1) (k+2):=by
 have e1:∀ p,(Dg r k (k+1))[p]? = if p=k then r[k+1]? else if p=k+1 then r[k]? else r[p]?:=λp=>by
  rw[DY (by omega) (by omega)]
  by_cases h1:p=k+1
  .subst h1
   rw[Ad (by omega),Ac rfl,Aul (by rw[AtL];omega),δ (by omega)]
  .rw[Aua (λe=>h1 e.symm)]
   by_cases h2:p=k
   .subst h2
    rw[Ac rfl,Aul (by omega),δ (by omega)]
   .rw[Ad h2,Ad h1,Aua (λe=>h2 e.symm)]
 refine⟨λp hp=>?_,λp h1 h2=>?_,λp h1 h2=>?_⟩
 .rw[e1,Ad (by omega),Ad (by omega),t.out p (by omega)]
 .rw[e1]
  by_cases h:p=k
  .rw[Ac h,t.out _ (by omega)]
   exact CA (by omega)
  .rw[Ad h,Ad (by omega),t.low p h1 (by omega)]
 .rw[e1,Ad (by omega),Ac (by omega),t.high k (by omega) (by omega)]
  exact CA (by omega)
theorem Ab3{l r:List α}{m k:Nat}(h:k<m)(hk:m<l.length)(hr:r.length=l.length)(t:Rot l r (k+1) m (m+1)):Rot l (Dg r (k+1) k) k m (m+1):=by
 have e1:∀ p,(Dg r (k+1) k)[p]? = if p=k then r[k+1]? else if p=k+1 then r[k]? else r[p]?:=λp=>by
  rw[DY (by omega) (by omega)]
  by_cases h1:p=k
  .subst h1
   rw[Ac rfl,Aul (by rw[AtL];omega),δ (by omega)]
  .rw[Ad h1,Aua (λe=>h1 e.symm)]
   by_cases h2:p=k+1
   .subst h2
    rw[Ac rfl,Aul (by omega),δ (by omega)]
   .rw[Ad h2,Aua (λe=>h2 e.symm)]
 refine⟨λp hp=>?_,λp h1 h2=>?_,λp h1 h2=>?_⟩
 .rw[e1,Ad (by omega),Ad (by omega),t.out p (by omega)]
 .rw[e1,Ac (by omega),t.low (k+1) (by omega) (by omega)]
  exact CA (by omega)
 .rw[e1,Ad (by omega)]
  by_cases h:p=k+1
  .rw[Ac h,t.out _ (by omega)]
   exact CA (by omega)
  .rw[Ad h,t.high p (by omega) (by omega)]
end
