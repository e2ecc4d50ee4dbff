/- slices.Clone over this s -/
import Derived.Maps.AppendAt
import Derived.Test.YtpncilciembjdaaGreatDoorDAM
import Derived.Test.YtpncilciembjdaaGreatDoorDAO
import Derived.Test.YtpncilciembjdaaGreatDoorDAP
set_option linter.all false
open Bool renaming true->Δ,and_eq_true->ApZ
open Int renaming fdiv_eq_ediv_of_nonneg->AsL,natCast_mul->AsC,natCast_pow->AtD,tdiv->Atx,toNat_natCast->Atq
open List renaming append_assoc->Ap7,append_nil->Aq9,cons_append->AqE,drop->Aqe,drop_drop->Ar2,drop_eq_getElem_cons->ApV,drop_eq_nil_of_le->Aqd,drop_length->Ar3,drop_set_of_lt->Aq2,drop_zero->Ap4,eq_nil_of_length_eq_zero->Aqy,flatten_cons->Aq4,getElem?_append_right->Aqf,getElem?_drop->AqT,getElem?_eq_getElem->φ,getElem_set_self->Asx,headD_cons->Arh,length->Atv,length_append->χ,length_cons->ο,length_drop->Ars,length_replicate->Asa,length_set->Aqc,length_singleton->AqB,length_take->Aqh,map_take->AsO,mem_of_mem_drop->Ari,mem_or_eq_of_mem_set->AsT,mem_replicate->Atm,nil_append->Aql,replicate->Arm,set_append_right->Atc,set_cons_zero->Arq,set_eq_take_append_cons_drop->Asr,singleton_append->ArJ,tail_cons->ArC,tail_drop->Asb,take->Ap2,take_append_drop->AqU,take_length->Arb,take_nil->AsP,take_set_of_le->Atk,take_succ_cons->ArF,take_succ_eq_append_getElem->AqL
open Nat renaming add_assoc->Aqu,add_comm->At5,add_mod->Aud,add_mul->Aqz,add_mul_div_left->AsE,add_sub_cancel->Aq0,add_zero->AqJ,ble->Ap3,blt->AqK,div_add_mod->AsF,div_lt_iff_lt_mul->Ase,eq_zero_or_pos->Aq7,le_refl->κ,lt_succ_self->Asw,min->AqX,min_eq_left->AqW,mod_eq_of_lt->Aq3,mod_lt->AqR,mul_add->AqS,mul_assoc->Aqr,mul_comm->AqH,mul_le_mul_right->Aqb,mul_mod->Aue,mul_one->Ar1,ne_of_gt->Aua,one_mul->Aq8,pow_succ->Ary,sub_self->Asf,zero_add->Ap6,zero_le->AqC,zero_mul->Arn
open Option renaming none->Ξ,some->Θ
namespace Go.Proofs.YtpncilciembjdaaGreatDoor
noncomputable section
open ABlk renaming mk->θ
open AV renaming ls->Ψ,sl->γ,tup->ε,v->Ap8
open BO renaming set->ApX
open IntKind renaming i64->δ,u32->η,u64->Ω,u8->Ate
open Key renaming fn->ψ,lp->ApW
open Lib renaming hid->ζ,run_eql_slice_nil->As9
open Option.some renaming injEq->ξ
open Tryz renaming prog->υ
open Go.RowKit
theorem PE(a:Addr)(j:Nat):(a.add j).block=a.block:=by unfold Addr.add;split<;>rfl
set_option maxRecDepth 100000 in
set_option maxHeartbeats 4000000 in
theorem Nu(w:World)(A:Option Addr)(n c:Nat)(us:List Value)(hn:us.length=n*3)(hc:n<=c)(hA:n≠0->∃ g o,A=Θ ⟨g,o,Ξ⟩/\∀ j u,us[j]? = Θ u->w.cell? ⟨g,o+j,Ξ⟩=Θ u)
  (h1:∀ u∈us,u.oneCell'=Δ) (hby:n*40<=140737488355328) :
  Calls υ 135 #[.slice A n c] w λe w'=>∃ v',e=.returned v'/\w'.ownsRow w.heap.size 84 3 v' n us/\Below w.heap.size w w':=by
 obtain⟨i0,hi0,hz0,hz1,hz2⟩:=info_parts (show (Tryz.prog.info? 84).map (λi=>(i.zero,i.size,i.bytes))=Θ (Θ (.agg #[.int .i64 0,.bool false,.slice Ξ 0 0]),3,40) by kernel_rfl);have HU:=ζ hn;have HA:=ζ hA;have H1:=ζ h1;clear hn hA h1;have hq:∀(w:World) (a:Option Addr) (n c:Nat),(binOp .eql 22 (.slice a n c) (.slice Ξ 0 0)).run υ w=.ok (.bool a.isNone) w:=λw a n c=>As9 w _ _ a n c 0 0 Tryz.underlying22
 go_enter Tryz.func135,Tryz.ntmps135
 cases A with
 |none=>
  have h0:n=0:=by
   rcases Aq7 n with h|h
   .exact h
   .exfalso
    obtain⟨g,o,h2,_⟩:=HA.out (Aua h)
    cases h2
  subst h0
  go_wp2
  go_ret
  have hu:us=[]:=Aqy (by rw[HU.out,Arn]);rw[hu];exact⟨_,rfl,World.ownsRow_nil _ _ _ _,Below.refl _ _⟩
 |some ad=>
  obtain⟨ag,ao,asp⟩:=ad;have hcells:∀ j u,us[j]? = Θ u->ag<w.heap.size/\w.cell? ((⟨ag,ao,asp⟩:Addr).add j)=Θ u:=λj u hj=>by
   have hn0:n≠0:=by
    rintro rfl;have hu:us=[]:=Aqy (by rw[HU.out,Arn]);rw[hu]at hj
    cases hj
   obtain⟨g,o,h2,h3⟩:=HA.out hn0
   cases h2
   have h5:=h3 j u hj;exact⟨Dc h5,by rw[Hb];exact h5⟩
  have HC:=ζ hcells;clear hcells
  go_wp2_with (at_builtin;refine wpList_append_own_at _ rfl _ _ 22 rfl w.heap.size 84 i0 (.agg #[.int .i64 0,.bool false,.slice Ξ 0 0]) 3 40 Tryz.underlying22 hi0 hz0 hz1 hz2 rfl (by decide) _ 0 [] rfl ?c0 ⟨ag,ao,asp⟩ n c us rfl HU.out ?c1 H1.out ?c3 ?c4 ?c5 ?_)
  case c0=>exact⟨by simp,.inr ⟨w.heap.size,0,#[],rfl,κ _,heap_alloc_new _ _,κ _,AqC _,by simp,by simp⟩⟩
  case c1=>
   intro j u hj;have:=HC.out j u hj;exact((AT w (.cells #[] 84)).cell (p:=(⟨ag,ao,asp⟩:Addr).add j) (by rw[PE];exact this.1)).trans this.2
  case c3=>unfold maxLen;omega
  case c4=>omega
  case c5=>exact(AT w _).size
  intro v' w3 hown hgrow _ _
  try simp only[Ap6,Aql]at hown
  have HO:=ζ hown;have HB:=ζ ((AT w (.cells #[] 84)).grown hgrow (AT w _).size (λk hk=>by have hk:Θ w.heap.size=Θ k:=hk;cases hk;exact κ _));clear hown hgrow
  go_wp2_with fail
  go_ret
  exact⟨_,rfl,HO.out,HB.out⟩
set_option maxRecDepth 100000 in
set_option maxHeartbeats 4000000 in
theorem U6(w:World)(A:Option Addr)(n c:Nat)(us:List Value)(hn:us.length=n*1)(hc:n<=c)(hA:n≠0->∃ g o,A=Θ ⟨g,o,Ξ⟩/\∀ j u,us[j]? = Θ u->w.cell? ⟨g,o+j,Ξ⟩=Θ u)
  (h1:∀ u∈us,u.oneCell'=Δ) (hby:n*4<=140737488355328) :
  Calls υ 236 #[.slice A n c] w λe w'=>∃ v',e=.returned v'/\w'.ownsRow w.heap.size 134 1 v' n us/\Below w.heap.size w w':=by
 obtain⟨i0,hi0,hz0,hz1,hz2⟩:=info_parts (show (Tryz.prog.info? 134).map (λi=>(i.zero,i.size,i.bytes))=Θ (Θ (.int .u32 0),1,4) by kernel_rfl);have HU:=ζ hn;have HA:=ζ hA;have H1:=ζ h1;clear hn hA h1;have hq:∀(w:World) (a:Option Addr) (n c:Nat),(binOp .eql 24 (.slice a n c) (.slice Ξ 0 0)).run υ w=.ok (.bool a.isNone) w:=λw a n c=>As9 w _ _ a n c 0 0 Tryz.underlying24
 go_enter Tryz.func236,Tryz.ntmps236
 cases A with
 |none=>
  have h0:n=0:=by
   rcases Aq7 n with h|h
   .exact h
   .exfalso
    obtain⟨g,o,h2,_⟩:=HA.out (Aua h)
    cases h2
  subst h0
  go_wp2
  go_ret
  have hu:us=[]:=Aqy (by rw[HU.out,Arn]);rw[hu];exact⟨_,rfl,World.ownsRow_nil _ _ _ _,Below.refl _ _⟩
 |some ad=>
  obtain⟨ag,ao,asp⟩:=ad;have hcells:∀ j u,us[j]? = Θ u->ag<w.heap.size/\w.cell? ((⟨ag,ao,asp⟩:Addr).add j)=Θ u:=λj u hj=>by
   have hn0:n≠0:=by
    rintro rfl;have hu:us=[]:=Aqy (by rw[HU.out,Arn]);rw[hu]at hj
    cases hj
   obtain⟨g,o,h2,h3⟩:=HA.out hn0
   cases h2
   have h5:=h3 j u hj;exact⟨Dc h5,by rw[Hb];exact h5⟩
  have HC:=ζ hcells;clear hcells
  go_wp2_with (at_builtin;refine wpList_append_own_at _ rfl _ _ 24 rfl w.heap.size 134 i0 (.int .u32 0) 1 4 Tryz.underlying24 hi0 hz0 hz1 hz2 rfl (by decide) _ 0 [] rfl ?c0 ⟨ag,ao,asp⟩ n c us rfl HU.out ?c1 H1.out ?c3 ?c4 ?c5 ?_)
  case c0=>exact⟨by simp,.inr ⟨w.heap.size,0,#[],rfl,κ _,heap_alloc_new _ _,κ _,AqC _,by simp,by simp⟩⟩
  case c1=>
   intro j u hj;have:=HC.out j u hj;exact((AT w (.cells #[] 134)).cell (p:=(⟨ag,ao,asp⟩:Addr).add j) (by rw[PE];exact this.1)).trans this.2
  case c3=>unfold maxLen;omega
  case c4=>omega
  case c5=>exact(AT w _).size
  intro v' w3 hown hgrow _ _
  try simp only[Ap6,Aql]at hown
  have HO:=ζ hown;have HB:=ζ ((AT w (.cells #[] 134)).grown hgrow (AT w _).size (λk hk=>by have hk:Θ w.heap.size=Θ k:=hk;cases hk;exact κ _));clear hown hgrow
  go_wp2_with fail
  go_ret
  exact⟨_,rfl,HO.out,HB.out⟩
section
variable {μ:Mu} {F:AG} {w:World} {g:Nat}
theorem WF:∀(xs:List AV) (o:Nat),RepAt μ F w g xs o->∃ us,RepList μ F w xs us/\∀ j u,us[j]? = Θ u->w.cell? ⟨g,o+j,Ξ⟩=Θ u
 |[],o,_=>⟨[],rfl,λj u h=>by simp at h⟩
 |x::r,o,h=>by
  simp only[RepAt]at h;obtain⟨⟨_,u,h2,h3⟩,h4⟩:=h;obtain⟨us,h5,h6⟩:=WF r (o+1) h4;refine⟨u::us,⟨u,us,rfl,h3,h5⟩,λj v hj=>?_⟩
  cases j with
  |zero=>simp at hj;subst hj;exact h2
  |succ j=>
   have:=h6 j v (by simpa using hj)
   rwa [show o+1+j=o+(j+1) by omega]at this
theorem LA{e:Nat}:∀(xs:List (List AV)) (o:Nat),RepRows μ F w g e xs o->∃ us,RepList μ F w xs.flatten us/\∀ j u,us[j]? = Θ u->w.cell? ⟨g,o+j,Ξ⟩=Θ u
 |[],o,_=>⟨[],rfl,λj u h=>by simp at h⟩
 |x::r,o,h=>by
  simp only[RepRows]at h;obtain⟨h1,h2,h3⟩:=h;obtain⟨us,a1,a2⟩:=WF x o h2;obtain⟨vs,b1,b2⟩:=LA r (o+e) h3;refine⟨us++vs,by rw[Aq4];exact RepList.append a1 b1,λj v hj=>?_⟩;have hl:us.length=e:=by rw[a1.length,h1]
  by_cases hj2:j<us.length
  .exact a2 j v (by rwa [List.getElem?_append_left hj2]at hj)
  .rw[Aqf (by omega),hl]at hj
   have:=b2 (j-e) v hj
   rwa [show o+e+(j-e)=o+j by omega]at this
end
def Bo(e B:Nat):List AV->Option (Nat × List AV)
 |[.ls xs]=>if(Gw e xs&&HI (IH xs)&&AO (IH xs)&&Ap3 (AS xs*B) 140737488355328)=Δ then Θ (AS xs,IH xs) else Ξ
 |_=>Ξ
theorem Jd{P:Program}{f:Nat}{ety:TypeId}(e B:Nat) (h:∀(w:World) (A:Option Addr) (n c:Nat) (us:List Value),us.length=n*e->n<=c->(n≠0->∃ g o,A=Θ ⟨g,o,Ξ⟩/\∀ j u,us[j]? = Θ u->w.cell? ⟨g,o+j,Ξ⟩=Θ u)->
  (∀ u∈us,u.oneCell'=Δ)->n*B<=140737488355328->Calls P f #[.slice A n c] w λe' w'=>∃ v',e'=.returned v'/\w'.ownsRow w.heap.size ety e v' n us/\Below w.heap.size w w'):Bk (Bu P f) (C8 e (Bo e B)):=by
 refine K5 (CK P f) e _ λargs n cells hr=>?_
 unfold Bo at hr;split at hr
 .rename_i xs
  split at hr
  .rename_i hc
   simp only[ApZ,Nat.ble_eq]at hc;obtain⟨⟨⟨c1,c2⟩,c3⟩,c4⟩:=hc;rw[Ib]at c1;rw[JM]at c2 c3;rw[GI]at c4;simp only[ξ,Prod.mk.injEq]at hr;obtain⟨rfl,rfl⟩:=hr;rw[GI,JM];have hlen:xs.flatten.length=xs.length*e:=by
    clear c2 c3 c4
    induction xs with
    |nil=>simp
    |cons x r ih=>
     rw[List.all_cons,ApZ]at c1;rw[Aq4,χ,ih c1.2,ο,Aqz,Aq8];have:x.length=e:=by simpa using c1.1
     omega
   refine⟨c3,hlen,λμ F w us hF hus=>?_⟩;obtain⟨v,t,rfl,hv,ht⟩:=hus;have ht:t=[]:=ht;subst ht;unfold Rep at hv;obtain⟨_,A,c,rfl,h2,_,h4⟩:=hv;have key:∃ vs,RepList μ F w xs.flatten vs/\(xs.length≠0->∃ g o,A=Θ ⟨g,o,Ξ⟩/\∀ j u,vs[j]? = Θ u->w.cell? ⟨g,o+j,Ξ⟩=Θ u):=by
    by_cases hx:xs=[]
    .subst hx
     exact⟨[],rfl,λh=>absurd rfl h⟩
    .obtain⟨g,o,e',hA,hr⟩:=h4 hx
     obtain⟨vs,k1,k2⟩:=LA xs o hr;exact⟨vs,k1,λ_=>⟨g,o,hA,k2⟩⟩
   obtain⟨vs,k1,k2⟩:=key;have hone:∀ u∈vs,u.oneCell'=Δ:=λu hu=>by
    obtain⟨j,hj,rfl⟩:=List.getElem_of_mem hu;have hj2:j<xs.flatten.length:=by rw[←k1.length];exact hj
    obtain⟨u,a1,a2⟩:=k1.get (φ hj2);rw[φ hj]at a1
    cases a1
    rw[FJ]at c2;exact a2.one (List.all_eq_true.1 c2 _ (List.getElem_mem hj2))
   refine Calls.mono (h w A xs.length c vs (by rw[k1.length,hlen]) h2 k2 hone c4) ?_;rintro e' w' ⟨v',rfl,ho,hb⟩;exact⟨v',rfl,ety,vs,ho,hb,k1⟩
  .cases hr
 .cases hr
theorem EW:Bk (Bu υ 236) (C8 1 (Bo 1 4)):=Jd 1 4 λw A n c us h1 h2 h3 h4 h5=>U6 w A n c us h1 h2 h3 h4 h5
theorem GB:Bk (Bu υ 135) (C8 3 (Bo 3 40)):=Jd 3 40 λw A n c us h1 h2 h3 h4 h5=>Nu w A n c us h1 h2 h3 h4 h5
theorem CN(x:Nat):Ad.conv .u32 (x:Int)=((x % 4294967296:Nat):Int):=by
 show IntKind.u32.wrap (x:Int)=_
 rw[IntKind.wrap_u32];omega
theorem BW{x:Nat}(h:x<4294967296):Ad.conv .u32 (x:Int)=(x:Int):=by rw[CN,Aq3 h]
theorem A1{x:Nat}(h:x<18446744073709551616):Ad.conv .u64 (x:Int)=(x:Int):=by
 show IntKind.u64.wrap (x:Int)=_
 rw[IntKind.wrap_u64];omega
theorem Cq{x y:Nat}(h:x+y<18446744073709551616):Ad.add .u64 (x:Int) (y:Int)=((x+y:Nat):Int):=by
 show IntKind.u64.wrap ((x:Int)+(y:Int))=_
 rw[IntKind.wrap_u64];omega
theorem FK{x y:Nat}(h:y<=x)(h2:x<18446744073709551616):Ad.sub .u64 (x:Int) (y:Int)=((x-y:Nat):Int):=by
 show IntKind.u64.wrap ((x:Int)-(y:Int))=_
 rw[IntKind.wrap_u64];omega
theorem MZ{x y:Nat}(h:x*y<18446744073709551616):Ad.mul .u64 (x:Int) (y:Int)=((x*y:Nat):Int):=by
 show IntKind.u64.wrap ((x:Int)*(y:Int))=_
 rw[IntKind.wrap_u64,←AsC];omega
theorem EO(x:Nat):Ad.shr .u64 (x:Int) 32=((x / 4294967296:Nat):Int):=by
 show Int.fdiv (x:Int) (2 ^ 32)=_
 have:(2 ^ 32:Int)=((4294967296:Nat):Int):=by decide
 rw[this,AsL _ (by omega)];rfl
theorem AgG(x y:Nat):Ad.add .u32 (x:Int) (y:Int)=(((x+y) % 4294967296:Nat):Int):=by
 show IntKind.u32.wrap ((x:Int)+(y:Int))=_
 rw[IntKind.wrap_u32];omega
theorem PB{i j:Nat}(h:j<=i)(h2:i<4611686018427387904):Ad.sub .i64 (i:Int) (j:Int)=((i-j:Nat):Int):=by
 rw[EH (by omega) (by omega)];omega
theorem Aac{i j:Nat}(h2:i+j<4611686018427387904):Ad.add .i64 (i:Int) (j:Int)=((i+j:Nat):Int):=by
 rw[EG (by omega) (by omega)];omega
theorem KQ(kd:IntKind)(n:Int)(r:List AV)(k:Int->List AV->KR):Mw kd (.v (.int kd n)::r) k=k n r:=by simp[Mw]
theorem uIk(kd:IntKind)(n:Int)(k:Int->KR):I2 kd (.v (.int kd n)) k=k n:=by simp[I2]
theorem S7(n:Nat)(k:Int->List AV->KR)(r:List AV):Mw .u32 (.v (.int .u32 (n:Int))::r) k=k n r:=rfl
theorem SA(l:List Nat):Gw 1 (l.map eL)=Δ:=LQ AE l
theorem AkE(l:List Nat):HI (IH (l.map eL))=Δ:=by rw[E7];exact HK (λ_=>rfl) l
theorem Agv(l:List Nat):AO (IH (l.map eL))=Δ:=by
 rw[E7]
 induction l with
 |nil=>rfl
 |cons x r ih=>exact ih
theorem Ml(l:List Nat)(n:Nat):IR (I0 (l.map eL) n) 0=(l.take n).map eL:=by
 rw[O3,NC,Ap4,AsO]
theorem Ha:∀(a b:List Nat) (c:Nat),(KT c a b).length=a.length+1
 |[],_,_=>rfl
 |x::a,b,c=>by rw[KT,ο,Ha a,ο]
theorem F6{a b:Nat}(h:(Aj a).length<(Aj b).length):a<b:=by
 by_cases h2:a<b
 .exact h2
 .have h3:Aq b=Aq b:=rfl
  have h4:0<(Aj b).length:=by omega
  have hb:4294967296 ^ ((Aj b).length-1)<=b:=by
   by_cases h5:4294967296 ^ ((Aj b).length-1)<=b
   .exact h5
   .have:=B4 (n:=b) (k:=(Aj b).length-1) (by omega)
    omega
  have h6:=Hv (n:=a) (k:=(Aj b).length-1) (by omega);omega
def CA(l:List Nat):Prop:=l.length<=1000000000
theorem Dx{l:List Nat}(h:Limbs l)(h2:CA l):CA (Aj (Ae l)):=by
 unfold CA at *;rw[Dq l h];have:=CB l;omega
structure CloneF (D:Orc):Prop where
 nat:∀ l:List Nat,CA l->D.ask (.fn 236) [eN l] []=Θ (.sl 0 0 l.length 1,[.set (θ (Ag eL l) Δ Δ)])
theorem Il{l:List Nat}(h:CA l):C8 1 (Bo 1 4) [eN l] []=Θ (.sl 0 0 l.length 1,[.set (θ (Ag eL l) Δ Δ)]):=by
 unfold C8 Bo eN;have h4:Ap3 (AS (l.map eL)*4) 140737488355328=Δ:=by
  rw[Aw];unfold CA at h;simp;omega
 simp only[SA,AkE,Agv,h4,Bool.and_true,if_true,Option.map_some];rw[Aw,E7]
section
variable {D:Orc} (K:Knows Av GY D)
include K
theorem Ahe(l:List Nat)(hl:CA l):∀(n:Nat),n<=l.length->CP l<=n->D.ask (.lp 200 0) [eN l,iv (n:Int)] []=Θ (.tup [iv 0,eN l,iv (CP l:Int)],[]):=by
 intro n;have hl':=hl;unfold CA at hl'
 induction n with
 |zero=>
  intro _ ht;refine Ax K Tw (AaI ..) ?_;refine Ak ?_;rw[show CP l=0 by omega];rfl
 |succ n ih=>
  intro hn ht;refine Ax K Tw (AaI ..) ?_;refine Al ?_;rw[show Ad.sub .i64 ((n+1:Nat):Int) 1=(n:Int) from (PB (i:=n+1) (j:=1) (by omega) (by omega)).trans (by simp)];rw[At,AB (φ (show n<l.length by omega))];simp only[eL,S7,ND,DK,Aa]
  by_cases h0:l[n]=0
  .refine BF ?_ (by rw[h0];rfl)
   refine Ab (ih (by omega) (QB ht (by rw[φ (show n<l.length by omega),h0]))) ?_;rfl
  .refine Bm ?_
   have:=St (φ (show n<l.length by omega)) h0;rw[show CP l=n+1 by omega];rfl
theorem EU{l:List Nat}(hl:CA l)(h:Limbs l):D.ask (.fn 200) [eN l] []=Θ (eN (Aj (Ae l)),[]):=by
 refine AI K Tw (Aon ..) ?_;rw[Aw];refine Ab (Ahe K l hl _ (κ _) (CB l)) ?_;simp only[eN,ND,DK,Aa];rw[At,Aw,SA,Ml,KG h];rw[show L9 0 (CP l) l.length=Δ by unfold L9;rw[show Ap3 0 (CP l)=Δ by simp];simpa using CB l];rfl
variable (C:CloneF D)
include C
theorem Fw{l:List Nat}(hl:CA l)(h:Limbs l):D.ask (.fn 202) [eN l] []=Θ (eN (Aj (Ae l)),[]):=by
 refine AI K Aif (Aop ..) ?_;refine Ab (EU K hl h) ?_;simp only[eN,ND,DK,Aa];have g:=C.nat _ (Dx h hl);unfold eN at g;refine Ab g ?_;simp only[ND,DK,Aa];rw[Bb AE _ (by omega)];refine Ac ?_;rw[Bw AE _ rfl]
theorem AhE(n:Nat)(h:n<18446744073709551616):D.ask (.fn 184) [.v (.int .u64 (n:Int))] []=Θ (eN (Aj n),[]):=by
 refine AI K Aid (Aoh ..) ?_;refine Ak ?_ (by decide);rw[CN,EO,CN];have hl:Limbs [n % 4294967296,n / 4294967296 % 4294967296]:=Bg (AqR _ (by omega)) (Bg (AqR _ (by omega)) BT);have g:=Fw K C (l:=[n % 4294967296,n / 4294967296 % 4294967296]) (by unfold CA;simp) hl;rw[show Ae [n % 4294967296,n / 4294967296 % 4294967296]=n by simp only[Ae];omega]at g;refine Ab g ?_;rfl
omit C in
theorem Ajb(a b:List Nat)(ha:Limbs a)(hb:Limbs b)(hab:a.length=b.length)(hs:CA a):∀(n:Nat),n<=a.length->D.ask (.lp 201 0) [eN a,eN b,iv ((n:Int)-1)] []
  = Θ (if Do (Ae (a.take n)) (Ae (b.take n))=0 then .tup [iv 1] else .tup [bv Δ,iv (Do (Ae (a.take n)) (Ae (b.take n)))],[]):=by
 intro n;unfold CA at hs
 induction n with
 |zero=>
  intro _;refine Ax K Tx (AaJ ..) ?_;refine DA ?_;rfl
 |succ n ih=>
  intro hn;refine Ax K Tx (AaJ ..) ?_;rw[show (((n+1:Nat):Int)-1)=(n:Int) by omega];refine CI ?_;have h1:n<a.length:=by omega
  have h2:n<b.length:=by omega
  have e1:a.take (n+1)=a.take n++[a[n]]:=by rw[AqL h1]
  have e2:b.take (n+1)=b.take n++[b[n]]:=by rw[AqL h2]
  rw[e1,e2,SZ (ha.take n) (hb.take n) (by simp;omega)];simp only[At,AB (φ h1),AB (φ h2),eL,S7,ND,DK,Aa]
  by_cases h3:a[n]<b[n]
  .refine Al ?_
   rw[if_pos h3];rfl
  .refine Ak ?_
   rw[if_neg h3]
   by_cases h4:b[n]<a[n]
   .refine Al ?_
    rw[if_pos h4];rfl
   .refine Ak ?_
    rw[if_neg h4];rw[show Ad.sub .i64 (n:Int) 1=(n:Int)-1 from EH (by omega) (by omega)];refine Ab (ih (by omega)) ?_
    by_cases h5:Do (Ae (a.take n)) (Ae (b.take n))=0
    .rw[if_pos h5];rfl
    .rw[if_neg h5];rfl
omit C in
theorem UT{a b:List Nat}(hsa:CA a)(ha:Limbs a)(hsb:CA b)(hb:Limbs b):D.ask (.fn 201) [eN a,eN b] []=Θ (iv (Do (Ae a) (Ae b)),[]):=by
 have s1:=Dx ha hsa;have s2:=Dx hb hsb;unfold CA at s1 s2;refine AI K Tx (Aoo ..) ?_;refine Ab (EU K hsa ha) ?_;simp only[eN,ND,DK,Aa];refine Ab (EU K hsb hb) ?_;simp only[eN,ND,DK,Aa,Aw];generalize Ae a=x at *;generalize Ae b=y at *
 by_cases h1:(Aj x).length<(Aj y).length
 .refine Al ?_
  have:=F6 h1;unfold Do;rw[if_pos this]
 .refine Ak ?_
  by_cases h2:(Aj y).length<(Aj x).length
  .refine Al ?_
   have:=F6 h2;unfold Do;rw[if_neg (by omega),if_pos this]
  .refine Ak ?_
   have hx:(Aj x).length=(Aj y).length:=by omega
   have g:=Ajb K (Aj x) (Aj y) (Aq x) (Aq y) hx s1 (Aj x).length (κ _);rw[Arb,hx,Arb,Az,Az]at g;rw[show Ad.sub .i64 ((Aj x).length:Int) 1=((Aj x).length:Int)-1 from EH (by omega) (by omega),hx];refine Ab g ?_
   by_cases h5:Do x y=0
   .rw[if_pos h5,h5];rfl
   .rw[if_neg h5];rfl
omit C in
theorem Z8(b:List Nat)(hb:Limbs b)(a:List Nat)(ha:Limbs a)(hs:CA a):∀(k i:Nat) (out:List Nat) (c:Nat),a.length-i=k->i<=a.length->b.length<=a.length->c<=1->out.length+k<=2000000000->
  ∃(o:List Nat) (c':Nat),D.ask (.lp 197 0) [eN b,.sl 0 0 out.length 1,.v (.int .u64 (c:Int)),eN a,iv (a.length:Int),iv (i:Int)] [θ (Ag eL out) Δ Δ]
   = Θ (.tup [iv 0,.sl 1 0 o.length 1,.v (.int .u64 (c':Int))],[.del,.set (θ (Ag eL o) Δ Δ)])/\c'<=1/\o++[c']=out++KT c (a.drop i) (b.drop i):=by
 intro k;unfold CA at hs
 induction k with
 |zero=>
  intro i out c hi hle hba hc ho;refine⟨out,c,?_,hc,?_⟩
  .refine Ax K Tu (AaG ..) ?_
   refine Ak ?_;rfl
  .rw[show a.drop i=[] from Aqd (by omega)]
   rfl
 |succ k ih=>
  intro i out c hi hle hba hc ho;have hlt:i<a.length:=by omega
  have hx:=ha.get hlt;have hbd:=Et (hb.drop i);have hdt:(b.drop i).tail=b.drop (i+1):=by rw[Asb]
  rw[show a.drop i=a[i]::a.drop (i+1) from ApV hlt];obtain⟨o,c',h1,h2,h3⟩:=ih (i+1) (out++[(a[i]+(b.drop i).headD 0+c) % 4294967296]) ((a[i]+(b.drop i).headD 0+c) / 4294967296) (by omega) (by omega) hba (by omega) (by simp;omega);refine⟨o,c',?_,h2,?_⟩
  .refine Ax K Tu (AaG ..) ?_
   refine Al ?_;rw[At,AB (φ hlt)];have hf:BB (out.length+1) 4=Δ:=Ba (by omega) (by omega);have hb1:Ap3 (0+out.length*1) (Ag eL out).length=Δ:=Bb AE out (by omega);have e3:∀ s:Nat,Aqe 0 (Ap2 (0+out.length*1) (Ag eL out))++[.v (.int .u32 (s:Int))]=Ag eL (out++[s]):=λs=>by
    rw[Ap4,BH AE out (by omega)];exact BD eL out s
   rw[χ,AqB]at h1;simp only[eL,S7,ND,DK,Aa,Aw];rw[BZ (by omega)]
   by_cases hib:i<b.length
   .have hd:(b.drop i).headD 0=b[i]:=by rw[ApV hib];rfl
    rw[hd]at h1 hbd;refine Al ?_;rw[At,AB (φ hib)];simp only[eL,S7,ND,DK,Aa];rw[A1 (by omega),A1 (by omega),Cq (by omega),Cq (by omega),CN,EO,hf,hb1,e3];rw[show a[i]+c+b[i]=a[i]+b[i]+c by omega];refine Ac ?_;refine Ac ?_;refine Ak ?_ (by decide);refine Ab h1 ?_;rfl
   .have hd:(b.drop i).headD 0=0:=by rw[Aqd (by omega)];rfl
    rw[hd]at h1;refine Ak ?_;rw[A1 (by omega),Cq (by omega),CN,EO,hf,hb1,e3];rw[show a[i]+c=a[i]+0+c by omega];refine Ac ?_;refine Ac ?_;refine Ak ?_ (by decide);refine Ab h1 ?_;rfl
  .rw[h3,KT,hdt,Ap7]
   rfl
theorem Aja{a b:List Nat}(hsa:a.length<=999999999)(ha:Limbs a)(hsb:b.length<=999999999)(hb:Limbs b):D.ask (.fn 197) [eN a,eN b] []=Θ (eN (Aj (Ae a+Ae b)),[]):=by
 have s1:=Dx ha (by unfold CA;omega);have s2:=Dx hb (by unfold CA;omega);have t1:(Aj (Ae a)).length<=999999999:=by rw[Dq a ha];have:=CB a;omega
 have t2:(Aj (Ae b)).length<=999999999:=by rw[Dq b hb];have:=CB b;omega
 refine AI K Tu (Aok ..) ?_;refine Ab (EU K (by unfold CA;omega) ha) ?_;simp only[eN,ND,DK,Aa];refine Ab (EU K (by unfold CA;omega) hb) ?_;simp only[eN,ND,DK,Aa,Aw];generalize Ae a=x at *;generalize Ae b=y at *
 by_cases h1:(Aj x).length<(Aj y).length
 .refine Al ?_
  have hl:Limbs (KT 0 (Aj y) (Aj x)):=I5 _ _ _ (Aq _) (Aq _) (by omega);obtain⟨o,c',g,hc,ho⟩:=Z8 K (Aj x) (Aq x) (Aj y) (Aq y) s2 (Aj y).length 0 [] 0 (by omega) (by omega) (by omega) (by omega) (by unfold CA at s2;simp;omega);rw[Aql,Ap4,Ap4]at ho;have hol:o.length=(Aj y).length:=by
   have:=congrArg Atv ho;rw[χ,Ha]at this;simpa using this
  have hsx:=s2;unfold CA at hsx;rw[show Ad.add .i64 ((Aj y).length:Int) 1=(((Aj y).length+1:Nat):Int) from BZ (by omega),At];rw[Ba (n:=(Aj y).length+1) (b:=4) (by omega) (by omega)];refine Ac ?_;refine Ab g ?_;simp only[KQ,ND,DK,Aa];rw[BW (by omega)];have e3:Aqe 0 (Ap2 (0+o.length*1) (Ag eL o))++[.v (.int .u32 (c':Int))]=Ag eL (o++[c']):=by
   rw[Ap4,BH AE o (by omega)];exact BD eL o c'
  rw[Ba (n:=o.length+1) (b:=4) (by omega) (by omega),Bb AE o (by omega),e3,Bb AE (o++[c']) (by simp)];refine Ac ?_;refine Ac ?_;refine Ac ?_;rw[Ap4,BH AE (o++[c']) (by simp),show Bi (o.length+1) 1 (Ag eL (o++[c']))=(o++[c']).map eL from by have:=DE AE (o++[c']);rwa [χ]at this];rw[ho];have gt:=Fw K C (l:=KT 0 (Aj y) (Aj x)) (by unfold CA;rw[Ha];omega) hl;rw[LO _ _ _ (by omega),Az,Az]at gt;refine Ab gt ?_;rw[show 0+y+x=x+y by omega];rfl
 .refine Ak ?_
  have hl:Limbs (KT 0 (Aj x) (Aj y)):=I5 _ _ _ (Aq _) (Aq _) (by omega);obtain⟨o,c',g,hc,ho⟩:=Z8 K (Aj y) (Aq y) (Aj x) (Aq x) s1 (Aj x).length 0 [] 0 (by omega) (by omega) (by omega) (by omega) (by unfold CA at s1;simp;omega);rw[Aql,Ap4,Ap4]at ho;have hol:o.length=(Aj x).length:=by
   have:=congrArg Atv ho;rw[χ,Ha]at this;simpa using this
  have hsx:=s1;unfold CA at hsx;rw[show Ad.add .i64 ((Aj x).length:Int) 1=(((Aj x).length+1:Nat):Int) from BZ (by omega),At];rw[Ba (n:=(Aj x).length+1) (b:=4) (by omega) (by omega)];refine Ac ?_;refine Ab g ?_;simp only[KQ,ND,DK,Aa];rw[BW (by omega)];have e3:Aqe 0 (Ap2 (0+o.length*1) (Ag eL o))++[.v (.int .u32 (c':Int))]=Ag eL (o++[c']):=by
   rw[Ap4,BH AE o (by omega)];exact BD eL o c'
  rw[Ba (n:=o.length+1) (b:=4) (by omega) (by omega),Bb AE o (by omega),e3,Bb AE (o++[c']) (by simp)];refine Ac ?_;refine Ac ?_;refine Ac ?_;rw[Ap4,BH AE (o++[c']) (by simp),show Bi (o.length+1) 1 (Ag eL (o++[c']))=(o++[c']).map eL from by have:=DE AE (o++[c']);rwa [χ]at this];rw[ho];have gt:=Fw K C (l:=KT 0 (Aj x) (Aj y)) (by unfold CA;rw[Ha];omega) hl;rw[LO _ _ _ (by omega),Az,Az]at gt;refine Ab gt ?_;rw[show 0+x+y=x+y by omega];rfl
omit C in
theorem Aji(b:List Nat)(hb:Limbs b)(a:List Nat)(ha:Limbs a)(hs:CA a):∀(k i:Nat) (out:List Nat) (c:Nat),a.length-i=k->i<=a.length->c<=1->out.length+k<=2000000000->
  D.ask (.lp 198 0) [eN b,.sl 0 0 out.length 1,.v (.int .u64 (c:Int)),eN a,iv (a.length:Int),iv (i:Int)] [θ (Ag eL out) Δ Δ]
   = Θ (.tup [iv 0,.sl 1 0 (out++KD c (a.drop i) (b.drop i)).length 1],[.del,.set (θ (Ag eL (out++KD c (a.drop i) (b.drop i))) Δ Δ)]):=by
 intro k;unfold CA at hs
 induction k with
 |zero=>
  intro i out c hi hle hc ho;refine Ax K Tv (AaH ..) ?_;refine Ak ?_;rw[show a.drop i=[] from Aqd (by omega)];simp only[KD,Aq9]
  all_goals rfl
 |succ k ih=>
  intro i out c hi hle hc ho;have hlt:i<a.length:=by omega
  have hx:=ha.get hlt;have hbd:=Et (hb.drop i);have hdt:(b.drop i).tail=b.drop (i+1):=by rw[Asb]
  rw[show a.drop i=a[i]::a.drop (i+1) from ApV hlt,KD,hdt];have h1:=ih (i+1) (out++[if a[i]<(b.drop i).headD 0+c then a[i]+4294967296-((b.drop i).headD 0+c) else a[i]-((b.drop i).headD 0+c)]) (if a[i]<(b.drop i).headD 0+c then 1 else 0) (by omega) (by omega) (by split<;>omega) (by simp;omega);rw[Ap7,χ,AqB]at h1;refine Ax K Tv (AaH ..) ?_;refine Al ?_;rw[At,AB (φ hlt)];have hf:BB (out.length+1) 4=Δ:=Ba (by omega) (by omega);have hb1:Ap3 (0+out.length*1) (Ag eL out).length=Δ:=Bb AE out (by omega);have e3:∀ s:Nat,Aqe 0 (Ap2 (0+out.length*1) (Ag eL out))++[.v (.int .u32 (s:Int))]=Ag eL (out++[s]):=λs=>by
   rw[Ap4,BH AE out (by omega)];exact BD eL out s
  simp only[eL,S7,ND,DK,Aa,Aw];rw[BZ (by omega)]
  by_cases hib:i<b.length
  .have hd:(b.drop i).headD 0=b[i]:=by rw[ApV hib];rfl
   rw[hd]at h1 hbd;rw[hd];refine Al ?_;rw[At,AB (φ hib)];simp only[eL,S7,ND,DK,Aa];rw[A1 (show a[i]<_ by omega),A1 (show b[i]<_ by omega),Cq (by omega)]
   by_cases hlt2:a[i]<b[i]+c
   .refine Al ?_
    rw[if_pos hlt2,if_pos hlt2]at h1;rw[if_pos hlt2,if_pos hlt2];rw[show (4294967296:Int)=((4294967296:Nat):Int) from rfl,Cq (by omega),show c+b[i]=b[i]+c by omega,FK (by omega) (by omega),BW (by omega),hf,hb1,e3];refine Ac ?_;refine Ac ?_;refine Ab h1 ?_;rfl
   .refine Ak ?_
    rw[if_neg hlt2,if_neg hlt2]at h1;rw[if_neg hlt2,if_neg hlt2];rw[show c+b[i]=b[i]+c by omega,FK (by omega) (by omega),BW (by omega),hf,hb1,e3];refine Ac ?_;refine Ac ?_;refine Ab h1 ?_;rfl
  .have hd:(b.drop i).headD 0=0:=by rw[Aqd (by omega)];rfl
   rw[hd]at h1;rw[hd];refine Ak ?_;rw[A1 (show a[i]<_ by omega)];rw[Ap6]at h1;simp only[show (0:Nat)+c=c by omega]
   by_cases hlt2:a[i]<c
   .refine Al ?_
    rw[if_pos hlt2,if_pos hlt2]at h1;rw[if_pos hlt2,if_pos hlt2];rw[show (4294967296:Int)=((4294967296:Nat):Int) from rfl,Cq (by omega),FK (by omega) (by omega),BW (by omega),hf,hb1,e3];refine Ac ?_;refine Ac ?_;refine Ab h1 ?_;rfl
   .refine Ak ?_
    rw[if_neg hlt2,if_neg hlt2]at h1;rw[if_neg hlt2,if_neg hlt2];rw[FK (by omega) (by omega),BW (by omega),hf,hb1,e3];refine Ac ?_;refine Ac ?_;refine Ab h1 ?_;rfl
def AaU(x y:Nat):AV:=if y<=x then .tup [eN (Aj (x-y)),bv Δ] else .tup [eN [],bv false]
theorem Aab{a b:List Nat}(hsa:CA a)(ha:Limbs a)(hsb:CA b)(hb:Limbs b):D.ask (.fn 198) [eN a,eN b] []=Θ (AaU (Ae a) (Ae b),[]):=by
 have s1:=Dx ha hsa;have s2:=Dx hb hsb;refine AI K Tv (Aol ..) ?_;refine Ab (EU K hsa ha) ?_;simp only[eN,ND,DK,Aa];refine Ab (EU K hsb hb) ?_;simp only[eN,ND,DK,Aa,Aw];have gc:=UT K s1 (Aq _) s2 (Aq _);rw[Az,Az]at gc;refine Ab gc ?_;simp only[ND,DK,Aa];generalize Ae a=x at *;generalize Ae b=y at *;unfold AaU;unfold CA at s1 s2
 by_cases h1:x<y
 .rw[show Do x y=-1 by unfold Do;rw[if_pos h1]]
  refine Al ?_ (by decide);rw[if_neg (by omega)];rfl
 .refine Ak ?_ (by unfold Do;rw[if_neg h1];split<;>omega)
  rw[if_pos (by omega)];have hle:(Aj y).length<=(Aj x).length:=by
   by_cases h:(Aj x).length<(Aj y).length
   .have:=F6 h;omega
   .omega
  rw[Ba (n:=(Aj x).length) (b:=4) (by omega) (by omega)];refine Ac ?_;have g:=Aji K (Aj y) (Aq y) (Aj x) (Aq x) s1 (Aj x).length 0 [] 0 (by omega) (by omega) (by omega) (by simp;omega);refine Ab g ?_;simp only[ND,DK,Aa,Ap4,Aql];rw[Bb AE _ (by omega)];refine Ac ?_;rw[Bw AE _ rfl];have gt:=Fw K C (l:=KD 0 (Aj x) (Aj y)) (by unfold CA;rw[OY];exact s1) (JC _ _ _ (Aq _) (Aq _) (by omega));rw[Adp (Aq _) (Aq _) hle (by rw[Az,Az];omega),Az,Az]at gt;refine Ab gt ?_;rfl
end
theorem Acu{x c r:Nat}(hc:c<2 ^ r)(hx:x*2 ^ r+c<18446744073709551616):Ad.bits .or .u64 ((x*2 ^ r:Nat):Int) (c:Int)=((x*2 ^ r+c:Nat):Int):=by
 show IntKind.u64.wrap ((BitVec.ofInt 64 ((x*2 ^ r:Nat):Int) ||| BitVec.ofInt 64 (c:Int)).toNat:Int)=_
 have e:x*2 ^ r ||| c=x*2 ^ r+c:=by
  rw[AqH];exact(Nat.two_pow_add_eq_or_of_lt hc x).symm
 rw[BitVec.ofInt_natCast,BitVec.ofInt_natCast,BitVec.toNat_or,BitVec.toNat_ofNat,BitVec.toNat_ofNat,Aq3 (show x*2 ^ r<2 ^ 64 by omega),Aq3 (show c<2 ^ 64 by omega),e,IntKind.wrap_u64];omega
theorem XA{x:Nat}(hx:x<18446744073709551616):Ad.bits .and .u64 (x:Int) 4294967295=((x % 4294967296:Nat):Int):=by
 show IntKind.u64.wrap ((BitVec.ofInt 64 (x:Int) &&& BitVec.ofInt 64 4294967295).toNat:Int)=_
 have e:x &&& 4294967295=x % 4294967296:=Nat.and_two_pow_sub_one_eq_mod x 32;rw[BitVec.ofInt_natCast,show BitVec.ofInt 64 4294967295=BitVec.ofNat 64 4294967295 from rfl,BitVec.toNat_and,BitVec.toNat_ofNat,BitVec.toNat_ofNat,Aq3 (show x<2 ^ 64 by omega),show 4294967295 % 2 ^ 64=4294967295 from rfl,e,IntKind.wrap_u64];omega
theorem XB{x r:Nat}(hr:r<=64)(hx:x*2 ^ r<18446744073709551616):Ad.shl .u64 (x:Int) (r:Int)=((x*2 ^ r:Nat):Int):=by
 show IntKind.u64.wrap ((x:Int)*2 ^ (AqX (r:Int).toNat 64))=_
 rw[Atq,show AqX r 64=r from AqW hr,show ((x:Int)*2 ^ r)=((x*2 ^ r:Nat):Int) by rw[AsC,AtD];rfl,IntKind.wrap_u64];omega
theorem Kg{x:Nat}(hx:x<4294967296):Ad.shl .u64 (x:Int) 32=((x*4294967296:Nat):Int):=XB (r:=32) (by omega) (by show x*4294967296<_;omega)
theorem OA{x c:Nat}(hc:c<4294967296)(hx:x<4294967296):Ad.bits .or .u64 ((x*4294967296:Nat):Int) (c:Int)=((x*4294967296+c:Nat):Int):=Acu (r:=32) hc (by show x*4294967296+c<_;omega)
theorem Acv{s:Nat}(h:s<=31):Ad.quo .i64 (s:Int) 32=((0:Nat):Int):=by
 show IntKind.i64.wrap (Atx (s:Int) ((32:Nat):Int))=_
 rw[show Atx (s:Int) ((32:Nat):Int)=((s / 32:Nat):Int) from rfl,Nat.div_eq_of_lt (by omega)];rfl
theorem Acx{s:Nat}(h:s<=31):Ad.rem .i64 (s:Int) 32=(s:Int):=by
 show Int.tmod (s:Int) ((32:Nat):Int)=_
 rw[show Int.tmod (s:Int) ((32:Nat):Int)=((s % 32:Nat):Int) from rfl,Aq3 (by omega)]
theorem AkK(s:Nat):Ad.max (s:Int) 0=(s:Int):=by
 show (if(s:Int)<0 then(0:Int) else(s:Int))=_
 rw[if_neg (by omega)]
theorem Oy{s:Nat}(h:s<=31):0<2 ^ s/\2 ^ s<=2147483648/\2 ^ s*2 ^ (32-s)=4294967296:=by
 refine⟨Nat.two_pow_pos s,Nat.pow_le_pow_right (n:=2) (by omega) h,?_⟩;rw[←Nat.pow_add,show s+(32-s)=32 by omega]
theorem RY{k:IntKind}{x r:Nat}(hr:r<=k.bits):Ad.shr k (x:Int) (r:Int)=((x / 2 ^ r:Nat):Int):=by
 show Int.fdiv (x:Int) (2 ^ (AqX (r:Int).toNat k.bits))=_
 rw[Atq,show AqX r k.bits=r from AqW hr,show (2 ^ r:Int)=((2 ^ r:Nat):Int) by rw[AtD];rfl,AsL _ (Int.natCast_nonneg _)];rfl
theorem Acw{x y:Nat}(hx:x<18446744073709551616):Ad.quo .u64 (x:Int) (y:Int)=((x / y:Nat):Int):=by
 show IntKind.u64.wrap (Atx (x:Int) (y:Int))=_
 have:=Nat.div_le_self x y;rw[show Atx (x:Int) (y:Int)=((x / y:Nat):Int) from rfl];generalize x / y=q at *;rw[IntKind.wrap_u64];omega
theorem Acy(x y:Nat):Ad.rem .u64 (x:Int) (y:Int)=((x % y:Nat):Int):=by
 rfl
theorem AkL{x y:Nat}(hy:y<=4294967296)(hx:x<4294967296):Ad.conv .u32 (Ad.sub .u64 (x:Int) (y:Int))=(((x+4294967296-y) % 4294967296:Nat):Int):=by
 show IntKind.u32.wrap (IntKind.u64.wrap ((x:Int)-(y:Int)))=_
 rw[IntKind.wrap_u64,IntKind.wrap_u32];omega
theorem OW(m:Nat):∀(a:List Nat) (c:Nat),(FX m c a).length=a.length+1
 |[],_=>rfl
 |x::a,c=>by rw[FX,ο,OW m a,ο]
def Jf(b:Nat):List Nat->List Nat
 |[]=>[]
 |x::r=>((Ae r % b)*4294967296+x) / b::Jf b r
theorem Hi(b:Nat):∀ l,(Jf b l).length=l.length
 |[]=>rfl
 |x::r=>by rw[Jf,ο,Hi b r,ο]
theorem WN{b s x:Nat}(hs:s<b)(hx:x<4294967296):(s*4294967296+x) / b<4294967296:=by
 rw[Ase (by omega)];have:(s+1)*4294967296<=b*4294967296:=Aqb _ hs;rw[AqH 4294967296 b];omega
theorem NB{b:Nat}(hb:0<b):∀ l,Limbs l->Limbs (Jf b l)
 |[],_=>BT
 |x::r,h=>Bg (WN (AqR _ hb) h.cons.1) (NB hb r h.cons.2)
theorem Zb(b x:Nat)(r:List Nat):((Ae r % b)*4294967296+x) % b=Ae (x::r) % b:=by
 rw[Ae,Aud,Aue,Nat.mod_mod,←Aue,←Aud,AqH,At5]
theorem QH{b:Nat}(hb:0<b):∀ l,Ae (Jf b l)=Ae l / b
 |[]=>by simp[Jf,Ae]
 |x::r=>by
  rw[Jf,Ae,Ae,QH hb r];have h1:=AsF (Ae r) b;generalize Ae r / b=q at h1 ⊢;generalize Ae r % b=s at h1 ⊢;rw[←h1];have e:x+4294967296*(b*q+s)=(s*4294967296+x)+b*(4294967296*q):=by
   rw[AqS,←Aqr,←Aqr,AqH b 4294967296];omega
  rw[e,AsE _ _ hb]
def Fg(P:Nat):List Nat->List Nat
 |[]=>[]
 |x::r=>((r.headD 0*4294967296+x) / P) % 4294967296::Fg P r
theorem OL(P:Nat):∀ l,(Fg P l).length=l.length
 |[]=>rfl
 |x::r=>by rw[Fg,ο,OL P r,ο]
theorem Ko(P:Nat):∀ l,Limbs (Fg P l)
 |[]=>BT
 |x::r=>Bg (AqR _ (by omega)) (Ko P r)
theorem Wb{P Q h k x V:Nat}(hP:0<P)(hPQ:P*Q=4294967296)(hx:x<4294967296)(hV:V=h+4294967296*k):(h*4294967296+x) / P % 4294967296+4294967296*(V / P)=(x+4294967296*V) / P:=by
 have e1:(h*4294967296+x) / P=h*Q+x / P:=by
  rw[←hPQ,show h*(P*Q)+x=x+P*(h*Q) by rw[←Aqr,AqH h P,Aqr];omega,AsE _ _ hP,At5]
 have e2:(x+4294967296*V) / P=x / P+Q*V:=by
  rw[←hPQ,show x+P*Q*V=x+P*(Q*V) by rw[Aqr],AsE _ _ hP]
 have hxP:x / P<Q:=by
  rw[Ase hP,AqH,hPQ];exact hx
 have h1:=AsF V P;have h2:=AqR V hP;have e3:Q*V=4294967296*(V / P)+Q*(V % P):=by
  rw[←hPQ];have:Q*V=Q*(P*(V / P)+V % P):=by rw[h1]
  rw[this,AqS,←Aqr,AqH Q P]
 have e4:(h*Q+x / P) % 4294967296=Q*(V % P)+x / P:=by
  have e5:h*Q+4294967296*(k*Q)=4294967296*(V / P)+Q*(V % P):=by
   rw[←e3,hV,AqS,AqH h Q,←Aqr,←Aqr,AqH Q 4294967296,Aqr,Aqr,AqH Q k]
  have hb:Q*(V % P)+x / P<4294967296:=by
   have:Q*(V % P+1)<=Q*P:=Nat.mul_le_mul_left _ h2;rw[AqS,Ar1,AqH Q P,hPQ]at this;omega
  have e6:h*Q+x / P+4294967296*(k*Q)=(Q*(V % P)+x / P)+4294967296*(V / P):=by omega
  have e7:=congrArg (· % 4294967296) e6;simp only[Nat.add_mul_mod_self_left]at e7;rw[e7,Aq3 hb]
 rw[e1,e2,e3,e4];omega
theorem Mq{P Q:Nat}(hP:0<P)(hPQ:P*Q=4294967296):∀ l,Limbs l->Ae (Fg P l)=Ae l / P
 |[],_=>by simp[Fg,Ae]
 |x::r,h=>by
  rw[Fg,Ae,Ae,Mq hP hPQ r h.cons.2];exact Wb hP hPQ h.cons.1 (KN r)
def eC(n:Nat):AV:=.v (.int .u32 (n:Int))
theorem EQ:∀ l:List Nat,Ag eL l=l.map eC
 |[]=>rfl
 |x::r=>by
  have ih:=EQ r;unfold Ag at ih ⊢;rw[List.flatMap_cons,ih];rfl
theorem CT(l:List Nat)(i v:Nat)(h:i<l.length):Ay (Ag eL l) (0+i*1) [.v (.int .u32 (v:Int))]=Ag eL (l.set i v):=by
 rw[EQ,EQ,Asr,if_pos h];unfold Ay;simp only[Ap6,Ar1,List.map_append,List.map_cons,AsO,List.map_drop,AqB];rw[Ap7];rfl
theorem Ju(l:List Nat)(i:Nat)(h:i<l.length)(k:List AV->KR):EZ (Ag eL l) (0+i*1) 1 k=k [.v (.int .u32 (l[i]:Int))]:=by
 have hx:(Ag eL l)[i]? = Θ (.v (.int .u32 (l[i]:Int))):=by
  rw[EQ,List.getElem?_map,φ h];rfl
 obtain⟨hl,hx⟩:=List.getElem?_eq_some_iff.1 hx;unfold EZ;have:Ap3 (0+i*1+1) (Ag eL l).length=Δ:=by simp;omega
 rw[this];simp only[Ap6,Ar1];rw[ApV hl,hx];rfl
theorem Ig(n:Nat):BJ [.v (.int .u32 0)] (n*1)=Ag eL (Arm n 0):=by
 rw[EQ,Ar1];unfold BJ;rw[List.map_replicate];refine List.ext_getElem (by simp) λi h1 h2=>?_
 simp[Nat.mod_one,eC]
theorem Qi:∀(x:Nat) (b o:List Nat) (c:Nat),(Oi x c b o).drop (b.length+1)=o.drop (b.length+1)
 |x,[],o,c=>by
  rw[Oi]
  cases o<;>simp
 |x,y::b,o,c=>by
  rw[Oi,ο,List.drop_succ_cons,Qi x b o.tail]
  cases o with
  |nil=>simp
  |cons z o=>rfl
def G9(j:Nat)(l:List Nat):Prop:=∀ y∈l.drop j,y=0
theorem Z1{j:Nat}{l:List Nat}(h:G9 j l):(l.drop j).headD 0=0:=by
 unfold G9 at h
 cases e:l.drop j with
 |nil=>rfl
 |cons z r=>
  rw[e]at h;exact h z (List.mem_cons_self ..)
theorem Bv{a b:Nat}(h:a<b):AqK a b=Δ:=by simpa using h
section
variable {D:Orc} (K:Knows Av GY D)
include K
theorem Zd(a b:List Nat)(hb:Limbs b)(i:Nat)(hi:i<a.length)(hsz:a.length+b.length<=1000000000)(x:Nat)(hx:x<4294967296):∀(m k:Nat) (out:List Nat) (c:Nat),b.length-k=m->k<=b.length->Limbs out->c<4294967296->out.length=a.length+b.length->
  ∃(o:List Nat) (c':Nat),D.ask (.lp 243 1) [eN b,.sl 0 0 out.length 1,iv (i:Int),.v (.int .u32 (x:Int)),.v (.int .u64 (c:Int)),eN a,iv (a.length:Int),iv (i:Int),eN b,iv (b.length:Int),iv (k:Int)] [θ (Ag eL out) Δ Δ]
   = Θ (.tup [iv 2,eN b,.sl 1 0 out.length 1,iv (i:Int),.v (.int .u64 (c':Int)),eN a,iv (a.length:Int),iv (i:Int)],[.del,.set (θ (Ag eL o) Δ Δ)])
   ∧ c'<4294967296/\Limbs o/\o.length=out.length/\o.set (i+b.length) c'=out.take (i+k)++Oi x c (b.drop k) (out.drop (i+k)):=by
 intro m
 induction m with
 |zero=>
  intro k out c hm hk ho hc hlen;obtain rfl:k=b.length:=by omega
  refine⟨out,c,?_,hc,ho,rfl,?_⟩
  .refine Ax K L8 (AaQ ..) ?_
   refine Ak ?_;rfl
  .rw[Ar3,Oi,Asr,if_pos (by omega),Asb]
 |succ m ih=>
  intro k out c hm hk ho hc hlen;have hlt:k<b.length:=by omega
  have hik:i+k<out.length:=by omega
  have hy:=hb.get hlt;have hz:=ho.get hik;have hp:=Lo hx hy;have hd:(out.drop (i+k)).headD 0=out[i+k]:=by rw[ApV hik];rfl
  obtain⟨o,c',h1,h2,h3,h4,h5⟩:=ih (k+1) (out.set (i+k) ((x*b[k]+out[i+k]+c) % 4294967296)) ((x*b[k]+out[i+k]+c) / 4294967296) (by omega) (by omega)
   (λz hz'=>by
    rcases AsT hz' with h|h
    .exact ho z h
    .rw[h];exact AqR _ (by omega)) (by omega) (by rw[Aqc];exact hlen)
  rw[Aqc]at h1 h4;refine⟨o,c',?_,h2,h3,h4,?_⟩
  .refine Ax K L8 (AaQ ..) ?_
   refine Al ?_;rw[At,AB (φ hlt)];simp only[eL,KQ,ND,DK,Aa];rw[Aac (by omega),At,Bv hik];refine Ac ?_;refine(Ju out _ hik _).trans ?_;simp only[KQ,ND,DK,Aa];rw[At,Bv hik];refine Ac ?_;rw[show Ap3 (0+(i+k)*1+1) (Ag eL out).length=Δ by rw[AP AE];simp;omega];refine Ac ?_;refine Ak ?_ (by decide);rw[A1 (show x<_ by omega),A1 (show b[k]<_ by omega),A1 (show out[i+k]<_ by omega),MZ (by omega),Cq (by omega),Cq (by omega),CN,EO,CT _ _ _ hik,BZ (by omega)];refine Ab h1 ?_;rfl
  .rw[h5,ApV hlt,Oi,hd]
   have e1:Ap2 (i+(k+1)) (out.set (i+k) ((x*b[k]+out[i+k]+c) % 4294967296))=out.take (i+k)++[(x*b[k]+out[i+k]+c) % 4294967296]:=by
    rw[show i+(k+1)=i+k+1 by omega,AqL (by rw[Aqc];exact hik),Asx,Atk (κ _)]
   have e2:Aqe (i+(k+1)) (out.set (i+k) ((x*b[k]+out[i+k]+c) % 4294967296))=(out.drop (i+k)).tail:=by
    rw[Aq2 (by omega),Asb];rfl
   rw[e1,e2,Ap7];rfl
theorem Ze(a b:List Nat)(ha:Limbs a)(hb:Limbs b)(hsz:a.length+b.length<=1000000000):∀(m i:Nat) (out:List Nat),a.length-i=m->i<=a.length->Limbs out->out.length=a.length+b.length->G9 (i+b.length) out->
  ∃ o:List Nat,D.ask (.lp 243 0) [eN b,.sl 0 0 out.length 1,eN a,iv (a.length:Int),iv (i:Int)] [θ (Ag eL out) Δ Δ]=Θ (.tup [iv 0,.sl 1 0 o.length 1],[.del,.set (θ (Ag eL o) Δ Δ)])
   ∧ Limbs o/\o.length=out.length/\Ae o=Ae out+4294967296 ^ i*Ae (a.drop i)*Ae b:=by
 intro m
 induction m with
 |zero=>
  intro i out hm hi ho hlen hz;refine⟨out,?_,ho,rfl,?_⟩
  .refine Ax K L8 (AaP ..) ?_
   refine Ak ?_;rfl
  .rw[show a.drop i=[] from Aqd (by omega)]
   simp[Ae]
 |succ m ih=>
  intro i out hm hi ho hlen hz;have hlt:i<a.length:=by omega
  have hx:=ha.get hlt;obtain⟨o,c',g1,g2,g3,g4,g5⟩:=Zd K a b hb i hlt hsz a[i] hx b.length 0 out 0 (by omega) (by omega) ho (by omega) hlen;rw[AqJ,Ap4]at g5;have hdl:(out.drop i).length=a.length+b.length-i:=by rw[Ars];omega
  have hlm:Limbs (o.set (i+b.length) c'):=by
   rw[g5];exact CR (ho.take i) (Oj _ _ _ _ hx hb (ho.drop i) (by omega))
  have hhead:((out.drop i).drop b.length).headD 0=0:=by
   rw[Ar2];exact Z1 hz
  have hv:Ae (o.set (i+b.length) c')=Ae out+4294967296 ^ i*(a[i]*Ae b):=by
   rw[g5,By,QI _ _ _ _ hhead];have e:Ae out=Ae (out.take i)+4294967296 ^ i*Ae (out.drop i):=by
    have:=By (out.take i) (out.drop i);rw[AqU,Aqh,AqW (by omega)]at this;exact this
   rw[e,Aqh,AqW (by omega),AqJ,AqS];omega
  have hz2:G9 (i+1+b.length) (o.set (i+b.length) c'):=by
   unfold G9;rw[g5,List.drop_append,Aqd (by rw[Aqh];omega),Aql,Aqh,AqW (by omega),show i+1+b.length-i=b.length+1 by omega,Qi,Ar2];intro y hy;exact hz y (by
    have:Aqe (i+(b.length+1)) out=Aqe 1 (Aqe (i+b.length) out):=by rw[Ar2];rfl
    rw[this]at hy;exact Ari hy)
  obtain⟨o2,k1,k2,k3,k4⟩:=ih (i+1) (o.set (i+b.length) c') (by omega) (by omega) hlm (by rw[Aqc,g4,hlen]) hz2;rw[Aqc,g4]at k1 k3;refine⟨o2,?_,k2,k3,?_⟩
  .refine Ax K L8 (AaP ..) ?_
   refine Al ?_;rw[At,AB (φ hlt)];simp only[eL,KQ,Aw,ND,DK,Aa];refine Ab g1 ?_;simp only[eN,KQ,Aw,ND,DK,Aa];rw[Aac (by omega),At,Bv (by omega)];refine Ac ?_;rw[show Ap3 (0+(i+b.length)*1+1) (Ag eL o).length=Δ by rw[AP AE];simp;omega];refine Ac ?_;rw[BW g2,CT _ _ _ (by omega),BZ (by omega)];refine Ab k1 ?_;rfl
  .rw[k4,hv,ApV hlt,Ae,Ary]
   have e1:4294967296 ^ i*(a[i]+4294967296*Ae (Aqe (i+1) a))*Ae b=4294967296 ^ i*(a[i]*Ae b)+4294967296 ^ i*4294967296*Ae (Aqe (i+1) a)*Ae b:=by
    rw[AqS,Aqz,Aqr _ a[i],Aqr (4294967296 ^ i) 4294967296]
   rw[e1];omega
variable (C:CloneF D)
include C
theorem Zf{a b:List Nat}(ha:Limbs a)(hb:Limbs b)(hsz:a.length+b.length<=1000000000):D.ask (.fn 243) [eN a,eN b] []=Θ (eN (Aj (Ae a*Ae b)),[]):=by
 obtain⟨o,k1,k2,k3,k4⟩:=Ze K a b ha hb hsz a.length 0 (Arm (a.length+b.length) 0) (by omega) (by omega) (λx hx=>by rw[(Atm.1 hx).2];omega) (by simp) (λy hy=>(Atm.1 (Ari hy)).2);rw[Asa]at k1 k3;have hz:∀ n,Ae (Arm n 0)=0:=λn=>by
  induction n with
  |zero=>rfl
  |succ n ih=>rw[List.replicate_succ,Ae,ih]
 rw[hz,Ap4,Nat.pow_zero,Aq8,Ap6]at k4;refine AI K L8 (Aou ..) ?_;rw[Aw,Aw,Aac (by omega)];simp only[At];rw[show Ap3 (a.length+b.length) (a.length+b.length)=Δ by simp,Ba (n:=a.length+b.length) (b:=4) (by omega) (by omega),Ig];refine Ac ?_;refine Ac ?_;refine Ab k1 ?_;simp only[ND,DK,Aa];rw[Bb AE _ (by omega)];refine Ac ?_;rw[Bw AE _ rfl];have gt:=Fw K C (l:=o) (by unfold CA;omega) k2;rw[k4]at gt;refine Ab gt ?_;rfl
theorem Ajg{a b:List Nat}(hsa:a.length<=400000000)(ha:Limbs a)(hsb:b.length<=400000000)(hb:Limbs b)(h24:a.length<24\/b.length<24):D.ask (.fn 212) [eN a,eN b] []=Θ (eN (Aj (Ae a*Ae b)),[]):=by
 have t1:(Aj (Ae a)).length<=a.length:=by rw[Dq a ha];exact CB a
 have t2:(Aj (Ae b)).length<=b.length:=by rw[Dq b hb];exact CB b
 refine AI K Aig (Aor ..) ?_;refine Ab (EU K (by unfold CA;omega) ha) ?_;simp only[eN,ND,DK,Aa];refine Ab (EU K (by unfold CA;omega) hb) ?_;simp only[eN,ND,DK,Aa,Aw];have g:=Zf K C (Aq (Ae a)) (Aq (Ae b)) (by omega);rw[Az,Az]at g
 by_cases h1:(Aj (Ae a)).length<24
 .refine Al ?_
  refine Ab g ?_;rfl
 .refine Ak ?_
  refine Al ?_;refine Ab g ?_;rfl
end
section
open Go.RowKit
def Dk:List (Nat × Nat):=[(239,0),(240,0),(241,0)]
def RB:MFn:=AY [⟨21,(mB 9),[],[],[(1,((mB 9),([],[])))]⟩] 200
def NU:Hnt:=⟨[],[(0,[(1,([.ls,.int .i64],[]))])],[(12,[.int .u32]),(13,[.int .u32])]⟩
def Ab0:MFn:=MU υ Bn [] Δ false 202
def Abk:Hnt:=⟨[(200,(.ls,[])),(236,(.sl 0 1,[.row Δ]))],[],[]⟩
def AbZ:MFn:=AY [] 184
def Abj:Hnt:=⟨[(202,(.sl 0 1,[.row Δ]))],[],[]⟩
def RC:MFn:=AY [⟨49,(mB 35),[],[],[(0,((mB 16),([],[]))),(2,([],([],[])))]⟩] 201
def NV:Hnt:=⟨[(200,(.ls,[]))],[(0,[(0,([.int .i64],[])),(2,([],[]))])],[(32,[.int .u32]),(33,[.int .u32]),(36,[.int .u32]),(37,[.int .u32]),(42,[.int .u32]),(43,[.int .u32]),(46,[.int .u32]),(47,[.int .u32])]⟩
def RD:MFn:=AY [⟨44,(mB 451),[],[],[(1,((mB 192),([],[])))]⟩] 203
def NW:Hnt:=⟨[(202,(.sl 0 1,[.row Δ]))],[(0,[(1,([.sl 1 1,.int .u64],[.del,.row Δ]))])],[(24,[.int .u32]),(25,[.int .u32]),(35,[.int .u32])]⟩
def RH:MFn:=AY [⟨67,(mB 931),[],[],[(1,((mB 256),([],[])))]⟩] 239
def Rm:Hnt:=⟨[],[(0,[(1,([.int .u64],[.keep]))])],[(14,[.int .u32]),(15,[.int .u32]),(21,[.int .u32]),(22,[.int .u32]),(28,[.int .u32]),(29,[.int .u32]),(44,[.int .u32]),(45,[.int .u32]),(53,[.int .u32]),(54,[.int .u32])]⟩
def RI:MFn:=AY [⟨74,(mB 917895),[],[],[(1,((mB 387),([],[1000000])))]⟩] 240
def K9:Hnt:=⟨[],[(0,[(1,([.slo 0 1,.ls,.int .u64,.int .u64],[.row Δ]))])],[(22,[.int .u32]),(23,[.int .u32]),(38,[.int .u32]),(39,[.int .u32]),(52,[.int .u32]),(61,[.int .u32]),(62,[.int .u32]),(70,[.int .u32])]⟩
def RJ:MFn:=AY [⟨42,(mB 1811),[],[],[(1,((mB 19),([],[1000000])))]⟩] 241
def NZ:Hnt:=⟨[],[(0,[(1,([.slo 0 1,.ls,.int .u64],[.row Δ]))])],[(13,[.int .u32]),(14,[.int .u32]),(17,[.int .u32]),(18,[.int .u32]),(29,[.int .u32]),(36,[.int .u32]),(37,[.int .u32]),(41,[.int .u32])]⟩
def RG:MFn:=MU υ Bn [⟨58,(mB 30064771968),[(8,1)],[],[(2,((mB 768),([],[])))]⟩] Δ false 238
def NY:Hnt:=⟨[(200,(.ls,[])),(202,(.sl 0 1,[.row Δ]))],[(0,[(2,([.sl 1 1,.int .u64],[.del,.row Δ]))])],[(36,[.int .u32]),(37,[.int .u32])]⟩
def RK:MFn:=AY [⟨61,(mB 449),[(7,1)],[],[(1,((mB 128),([],[])))]⟩] 242
def N0:Hnt:=⟨[(200,(.ls,[])),(202,(.sl 0 1,[.row Δ]))],[(0,[(1,([.sl 1 1],[.del,.row Δ]))])],[(42,[.int .u32]),(43,[.int .u32]),(50,[.int .u32]),(51,[.int .u32])]⟩
def RE:MFn:=AY [⟨96,(mB 14544),[],[7],[(1,((mB 6224),([],[])))]⟩] 204
def K7:Hnt:=⟨[(202,(.sl 0 1,[.row Δ])),(237,(.int .i64,[])),(238,(.tup [.sl 0 1,.int .i64],[.row Δ])),(239,(.int .u64,[.keep])),(240,(.bool,[.row Δ])),(241,(.tup [],[.row Δ])),(242,(.ls,[]))],[(0,[(1,([.sl 2 1,.int .i64,.sl 3 1,.int .i64],[.del,.del,.row Δ,.row Δ]))])],[(19,[.int .u32]),(20,[.int .u32]),(88,[.int .u32])]⟩
def AbX:MFn:=AY [] 144
def Abh:Hnt:=⟨[(184,(.ls,[])),(200,(.ls,[])),(201,(.int .i64,[])),(202,(.sl 0 1,[.row Δ])),(203,(.tup [.ls,.int .u32],[])),(204,(.tup [.ls,.ls],[]))],[],[(31,[.int .u32]),(32,[.int .u32])]⟩
def Aj2:MFn:=AY [⟨25,[Δ,Δ],[],[],[(1,([Δ],([],[])))]⟩] 205
def Ab3:MFn:=AY [] 237
def Abl:Hnt:=⟨[(222,(.int .i64,[]))],[],[]⟩
def Ab1:MFn:=AY [] 222
def NX:Hnt:=⟨[],[],[]⟩
def IX:List (Nat × MFn):=[(200,RB),(202,Ab0),(184,AbZ),(201,RC),(203,RD),(239,RH),(240,RI),(241,RJ),(238,RG),(242,RK),(204,RE),(144,AbX),(205,Aj2),(237,Ab3),(222,Ab1)]
variable (A:Ar) (D:Orc)
theorem AlM(x0:Rw):Cm A D Dk NU .n 200 RB [Ψ x0] [] =
 Af D (ApW 200 0) [Ψ x0,iv ↑(AS x0)] [] [.t,.C,.x,.X,.Y] λc l o=>
 br (Bp 1 c)
 (dk [.L,.I,.N,.E] [.l l,.o o] λxs n=>
 unI n λi=>
 br (L9 0 i (AS xs)) (br (Gw 1 xs) (Θ ((Ψ (IR (I0 xs i) 0),[]))) Ξ) Ξ)
 (Ξ):=by kernel_rfl
theorem WO(t0:Rw)(t3:Int):D2 A D Dk NU .n 200 0 (AW RB 0).fst (AW RB 0).snd [Ψ t0,iv t3] [] =
 br (A.lt 0 t3)
 (unI (A.sub δ t3 1) λi=>
 BG t0 i λcs=>
 dk [.J .u32,.N] [.l cs] λn=>
 br (A.eq n 0)
 (AK D (ApW 200 0) [Ψ t0,iv (A.sub δ t3 1)] [] λr o=>
 AF 0 [] (AH.mk [] 0 Ξ) [] r o)
 (Θ ((ε [iv 0,Ψ t0,iv t3],[]))))
 (Θ ((ε [iv 0,Ψ t0,iv t3],[]))):=by kernel_rfl
theorem AlO(x0:Rw):Cm A D Dk Abk .n 202 Ab0 [Ψ x0] [] =
 Af D (ψ 200) [Ψ x0] [] [.l,.E] λxs=>
 Af D (ψ 236) [Ψ xs] [] [.q 0 1,.R,.X,.E] λn cs=>
 Θ ((γ 0 0 n 1,[ApX (θ cs Δ Δ)])):=by kernel_rfl
theorem AlL(x0:Int):Cm A D Dk Abj .n 184 AbZ [Ap8 (Value.int Ω x0)] [] =
 br (A.lt 32 0)
 (Ξ)
 (Af D (ψ 202) [Ψ [[Ap8 (Value.int η (A.conv η x0))],[Ap8 (Value.int η (A.conv η (A.shr Ω x0 32)))]]] [] [.q 0 1,.R,.X,.E] λn cs=>
 br ((0+n*1).ble cs.length) (Θ ((Ψ (Bi n 1 (Ap2 (n*1) cs)),[]))) Ξ):=by kernel_rfl
theorem AlN(x0 x1:Rw):Cm A D Dk NV .n 201 RC [Ψ x0,Ψ x1] [] =
 Af D (ψ 200) [Ψ x0] [] [.l,.E] λxs=>
 Af D (ψ 200) [Ψ x1] [] [.l,.E] λxs1=>
 br (A.lt ↑(AS xs) ↑(AS xs1))
 (Θ ((iv (-1),[])))
 (br (A.lt ↑(AS xs1) ↑(AS xs))
 (Θ ((iv 1,[])))
 (Af D (ApW 201 0) [Ψ xs,Ψ xs1,iv (A.sub δ (↑(AS xs)) 1)] [] [.t,.C,.x,.X,.Y] λc l o2=>
 br (Bp 0 c)
 (dk [.I,.N,.E] [.l l,.o o2] λn=>
 Θ ((iv n,[])))
 (br (Bp 2 c)
 (Gu l<|
 Fl o2<|
 Θ ((iv 0,[])))
 (Ξ)))):=by kernel_rfl
theorem WP(t0 t1:Rw)(t5:Int):D2 A D Dk NV .n 201 0 (AW RC 0).fst (AW RC 0).snd [Ψ t0,Ψ t1,iv t5] [] =
 br (A.le 0 t5)
 (unI t5 λi=>
 BG t0 i λcs=>
 dk [.J .u32,.N] [.l cs] λn=>
 unI t5 λi1=>
 BG t1 i1 λcs1=>
 dk [.J .u32,.N] [.l cs1] λn1=>
 br (A.lt n n1)
 (Θ ((ε [bv Δ,iv (-1)],[])))
 (unI t5 λi2=>
 BG t0 i2 λcs2=>
 dk [.J .u32,.N] [.l cs2] λn2=>
 unI t5 λi3=>
 BG t1 i3 λcs3=>
 dk [.J .u32,.N] [.l cs3] λn3=>
 br (A.lt n3 n2)
 (Θ ((ε [bv Δ,iv 1],[])))
 (AK D (ApW 201 0) [Ψ t0,Ψ t1,iv (A.sub δ t5 1)] [] λr o=>
 AF 0 [] (AH.mk [] 0 Ξ) [] r o)))
 (Θ ((ε [iv 1],[]))):=by kernel_rfl
theorem AlP(x0:Rw)(x1:Int):Cm A D Dk NW .n 203 RD [Ψ x0,Ap8 (Value.int η x1)] [] =
 br ((AS x0).ble (AS x0)) (br (BB (AS x0) 4) (AK D (ApW 203 0) [Ψ x0,Ap8 (Value.int η x1),γ 0 0 (AS x0) 1,Ap8 (Value.int Ω 0),iv (A.sub δ (↑(AS x0)) 1)] [θ (BJ [Ap8 (Value.int η 0)] (AS x0*1)) Δ Δ] λr o=>
 dk [.t,.C,.x,.X] [.v r] λc l=>
 br (Bp 1 c)
 (dk [.C,.q 1 1,.J .u64,.N,.D,.R,.X,.E] [.l l,.o o] λn n1 cs1=>
 br ((0+n*1).ble cs1.length) (AK D (ψ 202) [Ψ (Bi n 1 (Ap2 (n*1) cs1))] [] λr1 o1=>
 dk [.q 0 1,.R,.X,.E] [.v r1,.o o1] λn2 cs2=>
 br ((0+n2*1).ble cs2.length) (Θ ((ε [Ψ (Bi n2 1 (Ap2 (n2*1) cs2)),Ap8 (Value.int η (A.conv η n1))],[]))) Ξ) Ξ)
 (Ξ)) Ξ) Ξ:=by kernel_rfl
theorem WQ(t0:Rw)(t1:Int)(n6:Nat)(c6:List AV)(t7 t8:Int):D2 A D Dk NW (.b (.b (.b .n (.b .n (.f .n))) .n) .n) 203 0 (AW RD 0).fst (AW RD 0).snd [Ψ t0,Ap8 (Value.int η t1),γ 0 0 n6 1,Ap8 (Value.int Ω t7),iv t8] [{ cells:=c6,st:=Δ,ex:=Δ }] =
 br (A.le 0 t8)
 (br (A.lt 32 0)
 (Ξ)
 (unI t8 λi=>
 BG t0 i λcs=>
 dk [.J .u32,.N] [.l cs] λn=>
 br (A.eq (A.conv Ω t1) 0)
 (Ξ)
 (unI t8 λi1=>
 br (i1.blt n6) (br ((0+i1*1+1).ble c6.length) (br (A.eq (A.conv Ω t1) 0) Ξ (AK D (ApW 203 0) [Ψ t0,Ap8 (Value.int η t1),γ 0 0 n6 1,Ap8 (Value.int Ω (A.rem Ω (A.bits BinOp.or Ω (A.shl Ω t7 32) (A.conv Ω n)) (A.conv Ω t1))),iv (A.sub δ t8 1)] [θ (Ay c6 (0+i1*1) [Ap8 (Value.int η (A.conv η (A.quo Ω (A.bits BinOp.or Ω (A.shl Ω t7 32) (A.conv Ω n)) (A.conv Ω t1))))]) Δ Δ] λr o=>
 AF 1 [0] (AH.mk [(0,θ (Ay c6 (0+i1*1) [Ap8 (Value.int η (A.conv η (A.quo Ω (A.bits BinOp.or Ω (A.shl Ω t7 32) (A.conv Ω n)) (A.conv Ω t1))))]) Δ Δ)] 1 Ξ) [0] r o)) Ξ) Ξ)))
 (Θ ((ε [iv 0,γ 1 0 n6 1,Ap8 (Value.int Ω t7)],[BO.del,ApX (θ c6 Δ Δ)]))):=by kernel_rfl
theorem AlV(o0 n0:Nat)(c0:List AV)(x1:Rw):Cm A D Dk Rm (.b .n (.b .n (.f .n))) 239 RH [γ 0 o0 n0 1,Ψ x1] [{ cells:=c0,st:=Δ,ex:=Δ }] =
 br ((AS x1).blt n0) (EZ c0 (o0+AS x1*1) 1 λcs=>
 dk [.J .u32,.N] [.l cs] λn=>
 br (A.lt 32 0)
 (Ξ)
 (unI (A.sub δ (↑(AS x1)) 1) λi=>
 br (i.blt n0) (EZ c0 (o0+i*1) 1 λcs1=>
 dk [.J .u32,.N] [.l cs1] λn1=>
 unI (A.sub δ (↑(AS x1)) 1) λi1=>
 BG x1 i1 λcs2=>
 dk [.J .u32,.N] [.l cs2] λn2=>
 br (A.eq (A.conv Ω n2) 0)
 (Ξ)
 (br (A.eq (A.conv Ω n2) 0) Ξ (AK D (ApW 239 0) [γ 0 o0 n0 1,Ψ x1,iv ↑(AS x1),Ap8 (Value.int Ω (A.conv Ω n2)),Ap8 (Value.int Ω (A.quo Ω (A.bits BinOp.or Ω (A.shl Ω (A.conv Ω n) 32) (A.conv Ω n1)) (A.conv Ω n2))),Ap8 (Value.int Ω (A.rem Ω (A.bits BinOp.or Ω (A.shl Ω (A.conv Ω n) 32) (A.conv Ω n1)) (A.conv Ω n2)))] [θ c0 Δ Δ] λr o=>
 dk [.t,.C,.x,.X] [.v r] λc l3=>
 br (Bp 1 c)
 (dk [.J .u64,.N,.K,.E] [.l l3,.o o] λn3=>
 Θ ((Ap8 (Value.int Ω n3),[BO.keep])))
 (Ξ)))) Ξ)) Ξ:=by kernel_rfl
theorem Ad8(o0 n0:Nat)(c0:List AV)(t1:Rw)(t5 t7 t8 t9:Int):D2 A D Dk Rm .n 239 0 (AW RH 0).fst (AW RH 0).snd [γ 0 o0 n0 1,Ψ t1,iv t5,Ap8 (Value.int Ω t7),Ap8 (Value.int Ω t8),Ap8 (Value.int Ω t9)] [{ cells:=c0,st:=Δ,ex:=Δ }] =
 br (A.le 4294967296 t8)
 (br (A.le 4294967296 (A.add Ω t9 t7))
 (Θ ((ε [iv 0,Ap8 (Value.int Ω (A.sub Ω t8 1))],[BO.keep])))
 (AK D (ApW 239 0) [γ 0 o0 n0 1,Ψ t1,iv t5,Ap8 (Value.int Ω t7),Ap8 (Value.int Ω (A.sub Ω t8 1)),Ap8 (Value.int Ω (A.add Ω t9 t7))] [θ c0 Δ Δ] λr o=>
 AF 1 [0] (AH.mk [(0,θ c0 Δ Δ)] 1 Ξ) [] r o))
 (unI (A.sub δ t5 2) λi=>
 BG t1 i λcs=>
 dk [.J .u32,.N] [.l cs] λn=>
 br (A.lt 32 0)
 (Ξ)
 (unI (A.sub δ t5 2) λi1=>
 br (i1.blt n0) (EZ c0 (o0+i1*1) 1 λcs1=>
 dk [.J .u32,.N] [.l cs1] λn1=>
 br (A.lt (A.bits BinOp.or Ω (A.shl Ω t9 32) (A.conv Ω n1)) (A.mul Ω t8 (A.conv Ω n)))
 (br (A.le 4294967296 (A.add Ω t9 t7))
 (Θ ((ε [iv 0,Ap8 (Value.int Ω (A.sub Ω t8 1))],[BO.keep])))
 (AK D (ApW 239 0) [γ 0 o0 n0 1,Ψ t1,iv t5,Ap8 (Value.int Ω t7),Ap8 (Value.int Ω (A.sub Ω t8 1)),Ap8 (Value.int Ω (A.add Ω t9 t7))] [θ c0 Δ Δ] λr o=>
 AF 1 [0] (AH.mk [(0,θ c0 Δ Δ)] 1 Ξ) [] r o))
 (Θ ((ε [iv 0,Ap8 (Value.int Ω t8)],[BO.keep])))) Ξ)):=by kernel_rfl
theorem AlW(o0 n0:Nat)(c0:List AV)(x1:Rw)(x2:Int):Cm A D Dk K9 .n 240 RI [γ 0 o0 n0 1,Ψ x1,Ap8 (Value.int Ω x2)] [{ cells:=c0,st:=Δ,ex:=Δ }] =
 Af D (ApW 240 0) [γ 0 o0 n0 1,Ψ x1,Ap8 (Value.int Ω x2),Ap8 (Value.int Ω 0),Ap8 (Value.int Ω 0),Ψ x1,iv ↑(AS x1),iv 0] [θ c0 Δ Δ] [.t,.C,.x,.X,.Y] λc l o=>
 br (Bp 1 c)
 (D0 l λc1 l1=>
 QF 0 1 c1 λo1 n=>
 dk [.L,.J .u64,.J .u64,.N,.R,.X,.E] [.l l1,.o o] λxs n1 n2 cs1=>
 br ((AS xs).blt n) (EZ cs1 (o1+AS xs*1) 1 λcs2=>
 dk [.J .u32,.N] [.l cs2] λn3=>
 br ((AS xs).blt n) (br ((o1+AS xs*1+1).ble cs1.length) (br (A.lt (A.conv Ω n3) (A.add Ω n1 n2))
 (Θ ((bv Δ,[ApX (θ (Ay cs1 (o1+AS xs*1) [Ap8 (Value.int η (A.conv η (A.sub Ω (A.conv Ω n3) (A.add Ω n1 n2))))]) Δ Δ)])))
 (Θ ((bv false,[ApX (θ (Ay cs1 (o1+AS xs*1) [Ap8 (Value.int η (A.conv η (A.sub Ω (A.conv Ω n3) (A.add Ω n1 n2))))]) Δ Δ)])))) Ξ) Ξ) Ξ)
 (Ξ):=by kernel_rfl
theorem Rd(o0 n0:Nat)(c0:List AV)(t1 t17:Rw)(t2 t7 t8 t18 t19:Int):D2 A D Dk K9 .n 240 0 (AW RI 0).fst (AW RI 0).snd [γ 0 o0 n0 1,Ψ t1,Ap8 (Value.int Ω t2),Ap8 (Value.int Ω t7),Ap8 (Value.int Ω t8),Ψ t17,iv t18,iv t19] [{ cells:=c0,st:=Δ,ex:=Δ }] =
 br (A.lt t19 t18)
 (unI t19 λi=>
 BG t17 i λcs=>
 dk [.J .u32,.N] [.l cs] λn=>
 br (A.lt 32 0)
 (Ξ)
 (unI t19 λi1=>
 br (i1.blt n0) (EZ c0 (o0+i1*1) 1 λcs1=>
 dk [.J .u32,.N] [.l cs1] λn1=>
 br (A.lt (A.conv Ω n1) (A.add Ω (A.bits BinOp.and Ω (A.add Ω (A.mul Ω t2 (A.conv Ω n)) t7) 4294967295) t8))
 (unI t19 λi2=>
 br (i2.blt n0) (br ((o0+i2*1+1).ble c0.length) (AK D (ApW 240 0) [γ 0 o0 n0 1,Ψ t1,Ap8 (Value.int Ω t2),Ap8 (Value.int Ω (A.shr Ω (A.add Ω (A.mul Ω t2 (A.conv Ω n)) t7) 32)),Ap8 (Value.int Ω 1),Ψ t17,iv t18,iv (A.add δ t19 1)] [θ (Ay c0 (o0+i2*1) [Ap8 (Value.int η (A.conv η (A.sub Ω (A.add Ω (A.conv Ω n1) 4294967296) (A.add Ω (A.bits BinOp.and Ω (A.add Ω (A.mul Ω t2 (A.conv Ω n)) t7) 4294967295) t8))))]) Δ Δ] λr o=>
 AF 1 [0] (AH.mk [(0,θ (Ay c0 (o0+i2*1) [Ap8 (Value.int η (A.conv η (A.sub Ω (A.add Ω (A.conv Ω n1) 4294967296) (A.add Ω (A.bits BinOp.and Ω (A.add Ω (A.mul Ω t2 (A.conv Ω n)) t7) 4294967295) t8))))]) Δ Δ)] 1 Ξ) [0] r o) Ξ) Ξ)
 (unI t19 λi2=>
 br (i2.blt n0) (br ((o0+i2*1+1).ble c0.length) (AK D (ApW 240 0) [γ 0 o0 n0 1,Ψ t1,Ap8 (Value.int Ω t2),Ap8 (Value.int Ω (A.shr Ω (A.add Ω (A.mul Ω t2 (A.conv Ω n)) t7) 32)),Ap8 (Value.int Ω 0),Ψ t17,iv t18,iv (A.add δ t19 1)] [θ (Ay c0 (o0+i2*1) [Ap8 (Value.int η (A.conv η (A.sub Ω (A.conv Ω n1) (A.add Ω (A.bits BinOp.and Ω (A.add Ω (A.mul Ω t2 (A.conv Ω n)) t7) 4294967295) t8))))]) Δ Δ] λr o=>
 AF 1 [0] (AH.mk [(0,θ (Ay c0 (o0+i2*1) [Ap8 (Value.int η (A.conv η (A.sub Ω (A.conv Ω n1) (A.add Ω (A.bits BinOp.and Ω (A.add Ω (A.mul Ω t2 (A.conv Ω n)) t7) 4294967295) t8))))]) Δ Δ)] 1 Ξ) [0] r o) Ξ) Ξ)) Ξ))
 (Θ ((ε [iv 0,γ 0 o0 n0 1,Ψ t1,Ap8 (Value.int Ω t7),Ap8 (Value.int Ω t8)],[ApX (θ c0 Δ Δ)]))):=by kernel_rfl
theorem AlX(o0 n0:Nat)(c0:List AV)(x1:Rw):Cm A D Dk NZ .n 241 RJ [γ 0 o0 n0 1,Ψ x1] [{ cells:=c0,st:=Δ,ex:=Δ }] =
 Af D (ApW 241 0) [γ 0 o0 n0 1,Ψ x1,Ap8 (Value.int Ω 0),Ψ x1,iv ↑(AS x1),iv 0] [θ c0 Δ Δ] [.t,.C,.x,.X,.Y] λc l o=>
 br (Bp 1 c)
 (D0 l λc1 l1=>
 QF 0 1 c1 λo1 n=>
 dk [.L,.J .u64,.N,.R,.X,.E] [.l l1,.o o] λxs n1 cs1=>
 br ((AS xs).blt n) (EZ cs1 (o1+AS xs*1) 1 λcs2=>
 dk [.J .u32,.N] [.l cs2] λn2=>
 br ((AS xs).blt n) (br ((o1+AS xs*1+1).ble cs1.length) (Θ ((ε [],[ApX (θ (Ay cs1 (o1+AS xs*1) [Ap8 (Value.int η (A.add η n2 (A.conv η n1)))]) Δ Δ)]))) Ξ) Ξ) Ξ)
 (Ξ):=by kernel_rfl
theorem WS(o0 n0:Nat)(c0:List AV)(t1 t8:Rw)(t4 t9 t10:Int):D2 A D Dk NZ .n 241 0 (AW RJ 0).fst (AW RJ 0).snd [γ 0 o0 n0 1,Ψ t1,Ap8 (Value.int Ω t4),Ψ t8,iv t9,iv t10] [{ cells:=c0,st:=Δ,ex:=Δ }] =
 br (A.lt t10 t9)
 (unI t10 λi=>
 BG t8 i λcs=>
 dk [.J .u32,.N] [.l cs] λn=>
 unI t10 λi1=>
 br (i1.blt n0) (EZ c0 (o0+i1*1) 1 λcs1=>
 dk [.J .u32,.N] [.l cs1] λn1=>
 unI t10 λi2=>
 br (i2.blt n0) (br ((o0+i2*1+1).ble c0.length) (br (A.lt 32 0)
 (Ξ)
 (AK D (ApW 241 0) [γ 0 o0 n0 1,Ψ t1,Ap8 (Value.int Ω (A.shr Ω (A.add Ω (A.add Ω (A.conv Ω n1) (A.conv Ω n)) t4) 32)),Ψ t8,iv t9,iv (A.add δ t10 1)] [θ (Ay c0 (o0+i2*1) [Ap8 (Value.int η (A.conv η (A.add Ω (A.add Ω (A.conv Ω n1) (A.conv Ω n)) t4)))]) Δ Δ] λr o=>
 AF 1 [0] (AH.mk [(0,θ (Ay c0 (o0+i2*1) [Ap8 (Value.int η (A.conv η (A.add Ω (A.add Ω (A.conv Ω n1) (A.conv Ω n)) t4)))]) Δ Δ)] 1 Ξ) [0] r o)) Ξ) Ξ) Ξ)
 (Θ ((ε [iv 0,γ 0 o0 n0 1,Ψ t1,Ap8 (Value.int Ω t4)],[ApX (θ c0 Δ Δ)]))):=by kernel_rfl
theorem AlU(x0:Rw)(x1:Int):Cm A D Dk NY (.b .n (.b .n (.b .n (.b .n (.b .n (.f .n)))))) 238 RG [Ψ x0,iv x1] [] =
 br (A.lt x1 0)
 (Θ ((ε [Ap8 (Value.slice Ξ 0 0),iv 1],[])))
 (br (A.lt 1048576 x1)
 (Θ ((ε [Ap8 (Value.slice Ξ 0 0),iv 2],[])))
 (Af D (ψ 200) [Ψ x0] [] [.l,.E] λxs=>
 br (A.eq 32 0)
 (Ξ)
 (br (A.eq 32 0) Ξ (unI (A.quo δ x1 32) λi=>
 unI (A.add δ (A.add δ (A.quo δ x1 32) ↑(AS xs)) 1) λi1=>
 br (i.ble i1) (br (BB i1 4) (AK D (ApW 238 0) [iv (A.rem δ x1 32),γ 0 0 i 1,Ap8 (Value.int Ω 0),Ψ xs,iv ↑(AS xs),iv 0] [θ (BJ [Ap8 (Value.int η 0)] (i*1)) Δ Δ] λr1 o1=>
 dk [.t,.C,.x,.X] [.v r1] λc l=>
 br (Bp 2 c)
 (dk [.C,.q 1 1,.J .u64,.N,.D,.R,.X,.E] [.l l,.o o1] λn n1 cs1=>
 br (BB (n+1) 4) (br ((0+n*1).ble cs1.length) (br ((0+(n+1)*1).ble (Aqe 0 (Ap2 (0+n*1) cs1)++[Ap8 (Value.int η (A.conv η n1))]).length) (AK D (ψ 202) [Ψ (Bi (n+1) 1 (Ap2 ((n+1)*1) (Aqe 0 (Aqe 0 (Ap2 (0+n*1) cs1)++[Ap8 (Value.int η (A.conv η n1))]))))] [] λr2 o2=>
 dk [.q 0 1,.R,.X,.E] [.v r2,.o o2] λn2 cs2=>
 Θ ((ε [γ 0 0 n2 1,iv 0],[ApX (θ cs2 Δ Δ)]))) Ξ) Ξ) Ξ)
 (Ξ)) Ξ) Ξ)))):=by kernel_rfl
theorem WR(t7:Int)(n8:Nat)(c8:List AV)(t9:Int)(t32:Rw)(t33 t34:Int):D2 A D Dk NY .n 238 0 (AW RG 0).fst (AW RG 0).snd [iv t7,γ 0 0 n8 1,Ap8 (Value.int Ω t9),Ψ t32,iv t33,iv t34] [{ cells:=c8,st:=Δ,ex:=Δ }] =
 br (A.lt t34 t33)
 (unI t34 λi=>
 BG t32 i λcs=>
 dk [.J .u32,.N] [.l cs] λn=>
 br (A.lt t7 0)
 (Ξ)
 (br (BB (n8+1) 4) (br ((0+n8*1).ble c8.length) (br (A.lt 32 0)
 (Ξ)
 (AK D (ApW 238 0) [iv t7,γ 0 0 (n8+1) 1,Ap8 (Value.int Ω (A.shr Ω (A.bits BinOp.or Ω (A.shl Ω (A.conv Ω n) t7) t9) 32)),Ψ t32,iv t33,iv (A.add δ t34 1)] [θ (Aqe 0 (Ap2 (0+n8*1) c8)++[Ap8 (Value.int η (A.conv η (A.bits BinOp.or Ω (A.shl Ω (A.conv Ω n) t7) t9)))]) Δ Δ] λr o=>
 AF 1 [2] (AH.mk [(2,θ (Aqe 0 (Ap2 (0+n8*1) c8)++[Ap8 (Value.int η (A.conv η (A.bits BinOp.or Ω (A.shl Ω (A.conv Ω n) t7) t9)))]) Δ Δ),(1,θ [Ap8 (Value.int η (A.conv η (A.bits BinOp.or Ω (A.shl Ω (A.conv Ω n) t7) t9)))] Δ Δ)] 3 Ξ) [0] r o)) Ξ) Ξ))
 (Θ ((ε [iv 1,γ 1 0 n8 1,Ap8 (Value.int Ω t9)],[BO.del,ApX (θ c8 Δ Δ)]))):=by kernel_rfl
theorem AlY(x0:Rw)(x1:Int):Cm A D Dk N0 (.b .n (.f .n)) 242 RK [Ψ x0,iv x1] [] =
 Af D (ψ 200) [Ψ x0] [] [.l,.E] λxs=>
 br (A.eq 32 0)
 (Ξ)
 (br (A.eq 32 0) Ξ (br (A.le (↑(AS xs)) (A.quo δ (A.max x1 0) 32))
 (Θ ((Ψ [],[])))
 (unI (A.sub δ (↑(AS xs)) (A.quo δ (A.max x1 0) 32)) λi=>
 br (BB i 4) (AK D (ApW 242 0) [Ψ xs,iv (A.rem δ (A.max x1 0) 32),γ 0 0 0 1,iv (A.quo δ (A.max x1 0) 32)] [θ [] Δ Δ] λr1 o1=>
 dk [.t,.C,.x,.X] [.v r1] λc l=>
 br (Bp 1 c)
 (dk [.C,.q 1 1,.N,.D,.R,.X,.E] [.l l,.o o1] λn cs1=>
 br ((0+n*1).ble cs1.length) (AK D (ψ 202) [Ψ (Bi n 1 (Ap2 (n*1) cs1))] [] λr2 o2=>
 dk [.q 0 1,.R,.X,.E] [.v r2,.o o2] λn1 cs2=>
 br ((0+n1*1).ble cs2.length) (Θ ((Ψ (Bi n1 1 (Ap2 (n1*1) cs2)),[]))) Ξ) Ξ)
 (Ξ)) Ξ))):=by kernel_rfl
theorem WT(t0:Rw)(t6:Int)(n7:Nat)(c7:List AV)(t8:Int):D2 A D Dk N0 .n 242 0 (AW RK 0).fst (AW RK 0).snd [Ψ t0,iv t6,γ 0 0 n7 1,iv t8] [{ cells:=c7,st:=Δ,ex:=Δ }] =
 br (A.lt t8 ↑(AS t0))
 (br (A.lt (A.add δ t8 1) ↑(AS t0))
 (unI (A.add δ t8 1) λi=>
 BG t0 i λcs=>
 dk [.J .u32,.N] [.l cs] λn=>
 br (A.lt 32 0)
 (Ξ)
 (unI t8 λi1=>
 BG t0 i1 λcs1=>
 dk [.J .u32,.N] [.l cs1] λn1=>
 br (A.lt t6 0)
 (Ξ)
 (br (BB (n7+1) 4) (br ((0+n7*1).ble c7.length) (AK D (ApW 242 0) [Ψ t0,iv t6,γ 0 0 (n7+1) 1,iv (A.add δ t8 1)] [θ (Aqe 0 (Ap2 (0+n7*1) c7)++[Ap8 (Value.int η (A.conv η (A.shr Ω (A.bits BinOp.or Ω (A.shl Ω (A.conv Ω n) 32) (A.conv Ω n1)) t6)))]) Δ Δ] λr o=>
 AF 1 [2] (AH.mk [(2,θ (Aqe 0 (Ap2 (0+n7*1) c7)++[Ap8 (Value.int η (A.conv η (A.shr Ω (A.bits BinOp.or Ω (A.shl Ω (A.conv Ω n) 32) (A.conv Ω n1)) t6)))]) Δ Δ),(1,θ [Ap8 (Value.int η (A.conv η (A.shr Ω (A.bits BinOp.or Ω (A.shl Ω (A.conv Ω n) 32) (A.conv Ω n1)) t6)))] Δ Δ)] 3 Ξ) [0] r o) Ξ) Ξ)))
 (br (A.lt 32 0)
 (Ξ)
 (unI t8 λi=>
 BG t0 i λcs=>
 dk [.J .u32,.N] [.l cs] λn=>
 br (A.lt t6 0)
 (Ξ)
 (br (BB (n7+1) 4) (br ((0+n7*1).ble c7.length) (AK D (ApW 242 0) [Ψ t0,iv t6,γ 0 0 (n7+1) 1,iv (A.add δ t8 1)] [θ (Aqe 0 (Ap2 (0+n7*1) c7)++[Ap8 (Value.int η (A.conv η (A.shr Ω (A.bits BinOp.or Ω (A.shl Ω 0 32) (A.conv Ω n)) t6)))]) Δ Δ] λr o=>
 AF 1 [2] (AH.mk [(2,θ (Aqe 0 (Ap2 (0+n7*1) c7)++[Ap8 (Value.int η (A.conv η (A.shr Ω (A.bits BinOp.or Ω (A.shl Ω 0 32) (A.conv Ω n)) t6)))]) Δ Δ),(1,θ [Ap8 (Value.int η (A.conv η (A.shr Ω (A.bits BinOp.or Ω (A.shl Ω 0 32) (A.conv Ω n)) t6)))] Δ Δ)] 3 Ξ) [0] r o) Ξ) Ξ))))
 (Θ ((ε [iv 0,γ 1 0 n7 1],[BO.del,ApX (θ c7 Δ Δ)]))):=by kernel_rfl
theorem AlQ(x0 x1:Rw):Cm A D Dk K7 .n 204 RE [Ψ x0,Ψ x1] [] =
 unI (A.sub δ (↑(AS x1)) 1) λi=>
 BG x1 i λcs=>
 dk [.J .u32,.N] [.l cs] λn=>
 Af D (ψ 237) [Ap8 (Value.int η n)] [] [.i,.E] λn1=>
 Af D (ψ 238) [Ψ x1,iv n1] [] [.t,.C,.q 0 1,.I,.N,.R,.X,.E] λn2 _ cs2=>
 Af D (ψ 238) [Ψ x0,iv n1] [] [.t,.C,.q 0 1,.I,.N,.R,.X,.E] λn4 _ cs4=>
 unI (A.sub δ (A.add δ (↑(AS x0)) 1) ↑n4) λi1=>
 br (i1.ble 9223372036854775807) (br (i1.beq 0)
 (unI (A.sub δ ↑n4 ↑n2) λi2=>
 unI (A.sub δ ↑n4 ↑n2) λi3=>
 br (i2.ble i3) (br (BB i3 4) (br ((0+n2*1).ble cs2.length) (AK D (ApW 204 0) [γ 0 0 i2 1,iv n1,Ψ (Bi n2 1 (Ap2 (n2*1) cs2)),γ 1 0 n4 1,iv ↑n2,iv (A.sub δ (A.sub δ ↑n4 ↑n2) 1)] [θ (BJ [Ap8 (Value.int η 0)] (i2*1)) Δ Δ,θ cs4 Δ Δ] λr3 o3=>
 dk [.t,.C,.x,.X] [.v r3] λc4 l7=>
 br (Bp 1 c4)
 (dk [.C,.q 2 1,.I,.C,.q 3 1,.I,.N,.D,.D,.R,.X,.R,.X,.E] [.l l7,.o o3] λn6 n7 n8 n9 cs6 cs7=>
 br ((0+n6*1).ble cs6.length) (AK D (ψ 202) [Ψ (Bi n6 1 (Ap2 (n6*1) cs6))] [] λr4 o4=>
 dk [.q 0 1,.R,.X,.E] [.v r4,.o o4] λn10 cs8=>
 unI n9 λi4=>
 br (L9 0 i4 n8) (br ((0+i4*1).ble cs7.length) (AK D (ψ 242) [Ψ (Bi i4 1 (Ap2 (i4*1) cs7)),iv n7] [] λr5 o5=>
 dk [.l,.E] [.v r5,.o o5] λxs=>
 br ((0+n10*1).ble cs8.length) (Θ ((ε [Ψ (Bi n10 1 (Ap2 (n10*1) cs8)),Ψ xs],[]))) Ξ) Ξ) Ξ) Ξ)
 (Ξ)) Ξ) Ξ) Ξ)
 (br (HI (BJ [Ap8 (Value.int η 0)] (i1*1))) (br (BB (n4+i1) 4) (br ((0+n4*1).ble cs4.length) (unI (A.sub δ ↑(n4+i1) ↑n2) λi2=>
 unI (A.sub δ ↑(n4+i1) ↑n2) λi3=>
 br (i2.ble i3) (br (BB i3 4) (br ((0+n2*1).ble cs2.length) (AK D (ApW 204 0) [γ 0 0 i2 1,iv n1,Ψ (Bi n2 1 (Ap2 (n2*1) cs2)),γ 1 0 (n4+i1) 1,iv ↑n2,iv (A.sub δ (A.sub δ ↑(n4+i1) ↑n2) 1)] [θ (BJ [Ap8 (Value.int η 0)] (i2*1)) Δ Δ,θ (Aqe 0 (Ap2 (0+n4*1) cs4)++BJ [Ap8 (Value.int η 0)] (i1*1)) Δ Δ] λr3 o3=>
 dk [.t,.C,.x,.X] [.v r3] λc4 l7=>
 br (Bp 1 c4)
 (dk [.C,.q 2 1,.I,.C,.q 3 1,.I,.N,.D,.D,.R,.X,.R,.X,.E] [.l l7,.o o3] λn6 n7 n8 n9 cs6 cs7=>
 br ((0+n6*1).ble cs6.length) (AK D (ψ 202) [Ψ (Bi n6 1 (Ap2 (n6*1) cs6))] [] λr4 o4=>
 dk [.q 0 1,.R,.X,.E] [.v r4,.o o4] λn10 cs8=>
 unI n9 λi4=>
 br (L9 0 i4 n8) (br ((0+i4*1).ble cs7.length) (AK D (ψ 242) [Ψ (Bi i4 1 (Ap2 (i4*1) cs7)),iv n7] [] λr5 o5=>
 dk [.l,.E] [.v r5,.o o5] λxs=>
 br ((0+n10*1).ble cs8.length) (Θ ((ε [Ψ (Bi n10 1 (Ap2 (n10*1) cs8)),Ψ xs],[]))) Ξ) Ξ) Ξ) Ξ)
 (Ξ)) Ξ) Ξ) Ξ) Ξ) Ξ) Ξ)) Ξ:=by kernel_rfl
theorem Ra(n4:Nat)(c4:List AV)(t6:Int)(t7:Rw)(n11:Nat)(c11:List AV)(t12 t13:Int):D2 A D Dk K7 .n 204 0 (AW RE 0).fst (AW RE 0).snd [γ 0 0 n4 1,iv t6,Ψ t7,γ 1 0 n11 1,iv t12,iv t13] [{ cells:=c4,st:=Δ,ex:=Δ },{ cells:=c11,st:=Δ,ex:=Δ }] =
 br (A.le 0 t13)
 (unI t13 λi=>
 br (L9 i n11 n11) (AK D (ψ 239) [γ 0 (0+i*1) (n11-i) 1,Ψ t7] [θ c11 Δ Δ] λr o=>
 dk [.j .u64,.K,.E] [.v r,.o o] λn=>
 unI t13 λi1=>
 unI (A.add δ (A.add δ t13 t12) 1) λi2=>
 br (L9 i1 i2 n11) (AK D (ψ 240) [γ 0 (0+i1*1) (i2-i1) 1,Ψ t7,Ap8 (Value.int Ω n)] [θ c11 Δ Δ] λr1 o1=>
 dk [.b,.R,.X,.E] [.v r1,.o o1] λb cs=>
 br b
 (unI t13 λi3=>
 unI (A.add δ (A.add δ t13 t12) 1) λi4=>
 br (L9 i3 i4 n11) (AK D (ψ 241) [γ 0 (0+i3*1) (i4-i3) 1,Ψ t7] [θ cs Δ Δ] λr2 o2=>
 dk [.t,.N,.R,.X,.E] [.v r2,.o o2] λcs2=>
 unI t13 λi5=>
 br (i5.blt n4) (br ((0+i5*1+1).ble c4.length) (AK D (ApW 204 0) [γ 0 0 n4 1,iv t6,Ψ t7,γ 1 0 n11 1,iv t12,iv (A.sub δ t13 1)] [θ (Ay c4 (0+i5*1) [Ap8 (Value.int η (A.conv η (A.sub Ω n 1)))]) Δ Δ,θ cs2 Δ Δ] λr3 o3=>
 AF 2 [0,1] (AH.mk [(0,θ (Ay c4 (0+i5*1) [Ap8 (Value.int η (A.conv η (A.sub Ω n 1)))]) Δ Δ),(1,θ cs2 Δ Δ)] 2 Ξ) [1,0] r3 o3) Ξ) Ξ) Ξ)
 (unI t13 λi3=>
 br (i3.blt n4) (br ((0+i3*1+1).ble c4.length) (AK D (ApW 204 0) [γ 0 0 n4 1,iv t6,Ψ t7,γ 1 0 n11 1,iv t12,iv (A.sub δ t13 1)] [θ (Ay c4 (0+i3*1) [Ap8 (Value.int η (A.conv η n))]) Δ Δ,θ cs Δ Δ] λr2 o2=>
 AF 2 [0,1] (AH.mk [(0,θ (Ay c4 (0+i3*1) [Ap8 (Value.int η (A.conv η n))]) Δ Δ),(1,θ cs Δ Δ)] 2 Ξ) [1,0] r2 o2) Ξ) Ξ)) Ξ) Ξ)
 (Θ ((ε [iv 0,γ 2 0 n4 1,iv t6,γ 3 0 n11 1,iv t12],[BO.del,BO.del,ApX (θ c4 Δ Δ),ApX (θ c11 Δ Δ)]))):=by kernel_rfl
theorem AlI(x0 x1:Rw):Cm A D Dk Abh .n 144 AbX [Ψ x0,Ψ x1] [] =
 Af D (ψ 200) [Ψ x0] [] [.l,.E] λxs=>
 Af D (ψ 200) [Ψ x1] [] [.l,.E] λxs1=>
 br (A.eq (↑(AS xs1)) 0)
 (Θ ((ε [Ψ [],Ψ [],iv 10],[])))
 (Af D (ψ 201) [Ψ xs,Ψ xs1] [] [.i,.E] λn=>
 br (A.lt n 0)
 (Af D (ψ 202) [Ψ xs] [] [.q 0 1,.R,.X,.E] λn1 cs=>
 br ((0+n1*1).ble cs.length) (Θ ((ε [Ψ [],Ψ (Bi n1 1 (Ap2 (n1*1) cs)),iv 0],[]))) Ξ)
 (br (A.eq (↑(AS xs1)) 1)
 (BG xs1 0 λcs=>
 dk [.J .u32,.N] [.l cs] λn1=>
 Af D (ψ 203) [Ψ xs,Ap8 (Value.int η n1)] [] [.t,.L,.J .u32,.N,.E] λxs2 n2=>
 Af D (ψ 184) [Ap8 (Value.int Ω (A.conv Ω n2))] [] [.l,.E] λxs3=>
 Θ ((ε [Ψ xs2,Ψ xs3,iv 0],[])))
 (Af D (ψ 204) [Ψ xs,Ψ xs1] [] [.t,.L,.L,.N,.E] λxs2 xs3=>
 Θ ((ε [Ψ xs2,Ψ xs3,iv 0],[]))))):=by kernel_rfl
theorem AlT(x0:Int):Cm A D Dk Abl .n 237 Ab3 [Ap8 (Value.int η x0)] [] =
 Af D (ψ 222) [Ap8 (Value.int η x0)] [] [.i,.E] λn=>
 Θ ((iv (A.sub δ 32 n),[])):=by kernel_rfl
theorem AlR(x0:Int):Cm A D Dk NX .n 222 Ab1 [Ap8 (Value.int η x0)] [] =
 br (A.le 65536 x0)
 (br (A.lt 16 0)
 (Ξ)
 (br (A.le 256 (A.shr η x0 16))
 (br (A.lt 8 0)
 (Ξ)
 (unI (A.conv Ate (A.shr η (A.shr η x0 16) 8)) λi=>
 br (i.blt (A.slen (C2 [0,1,2,2,3,3,3,3,4,4,4,4,4,4,4,4,5,5,5,5,5,5,5,5,5,5,5,5,5,5,5,5,6,6,6,6,6,6,6,6,6,6,6,6,6,6,6,6,6,6,6,6,6,6,6,6,6,6,6,6,6,6,6,6,7,7,7,7,7,7,7,7,7,7,7,7,7,7,7,7,7,7,7,7,7,7,7,7,7,7,7,7,7,7,7,7,7,7,7,7,7,7,7,7,7,7,7,7,7,7,7,7,7,7,7,7,7,7,7,7,7,7,7,7,7,7,7,7,8,8,8,8,8,8,8,8,8,8,8,8,8,8,8,8,8,8,8,8,8,8,8,8,8,8,8,8,8,8,8,8,8,8,8,8,8,8,8,8,8,8,8,8,8,8,8,8,8,8,8,8,8,8,8,8,8,8,8,8,8,8,8,8,8,8,8,8,8,8,8,8,8,8,8,8,8,8,8,8,8,8,8,8,8,8,8,8,8,8,8,8,8,8,8,8,8,8,8,8,8,8,8,8,8,8,8,8,8,8,8,8,8,8,8,8,8,8,8,8,8,8,8,8,8,8,8,8]))) (Θ ((iv (A.add δ (A.add δ 16 8) (A.conv δ (A.sat (C2 [0,1,2,2,3,3,3,3,4,4,4,4,4,4,4,4,5,5,5,5,5,5,5,5,5,5,5,5,5,5,5,5,6,6,6,6,6,6,6,6,6,6,6,6,6,6,6,6,6,6,6,6,6,6,6,6,6,6,6,6,6,6,6,6,7,7,7,7,7,7,7,7,7,7,7,7,7,7,7,7,7,7,7,7,7,7,7,7,7,7,7,7,7,7,7,7,7,7,7,7,7,7,7,7,7,7,7,7,7,7,7,7,7,7,7,7,7,7,7,7,7,7,7,7,7,7,7,7,8,8,8,8,8,8,8,8,8,8,8,8,8,8,8,8,8,8,8,8,8,8,8,8,8,8,8,8,8,8,8,8,8,8,8,8,8,8,8,8,8,8,8,8,8,8,8,8,8,8,8,8,8,8,8,8,8,8,8,8,8,8,8,8,8,8,8,8,8,8,8,8,8,8,8,8,8,8,8,8,8,8,8,8,8,8,8,8,8,8,8,8,8,8,8,8,8,8,8,8,8,8,8,8,8,8,8,8,8,8,8,8,8,8,8,8,8,8,8,8,8,8,8,8,8,8,8,8]) i))),[]))) Ξ))
 (unI (A.conv Ate (A.shr η x0 16)) λi=>
 br (i.blt (A.slen (C2 [0,1,2,2,3,3,3,3,4,4,4,4,4,4,4,4,5,5,5,5,5,5,5,5,5,5,5,5,5,5,5,5,6,6,6,6,6,6,6,6,6,6,6,6,6,6,6,6,6,6,6,6,6,6,6,6,6,6,6,6,6,6,6,6,7,7,7,7,7,7,7,7,7,7,7,7,7,7,7,7,7,7,7,7,7,7,7,7,7,7,7,7,7,7,7,7,7,7,7,7,7,7,7,7,7,7,7,7,7,7,7,7,7,7,7,7,7,7,7,7,7,7,7,7,7,7,7,7,8,8,8,8,8,8,8,8,8,8,8,8,8,8,8,8,8,8,8,8,8,8,8,8,8,8,8,8,8,8,8,8,8,8,8,8,8,8,8,8,8,8,8,8,8,8,8,8,8,8,8,8,8,8,8,8,8,8,8,8,8,8,8,8,8,8,8,8,8,8,8,8,8,8,8,8,8,8,8,8,8,8,8,8,8,8,8,8,8,8,8,8,8,8,8,8,8,8,8,8,8,8,8,8,8,8,8,8,8,8,8,8,8,8,8,8,8,8,8,8,8,8,8,8,8,8,8,8]))) (Θ ((iv (A.add δ 16 (A.conv δ (A.sat (C2 [0,1,2,2,3,3,3,3,4,4,4,4,4,4,4,4,5,5,5,5,5,5,5,5,5,5,5,5,5,5,5,5,6,6,6,6,6,6,6,6,6,6,6,6,6,6,6,6,6,6,6,6,6,6,6,6,6,6,6,6,6,6,6,6,7,7,7,7,7,7,7,7,7,7,7,7,7,7,7,7,7,7,7,7,7,7,7,7,7,7,7,7,7,7,7,7,7,7,7,7,7,7,7,7,7,7,7,7,7,7,7,7,7,7,7,7,7,7,7,7,7,7,7,7,7,7,7,7,8,8,8,8,8,8,8,8,8,8,8,8,8,8,8,8,8,8,8,8,8,8,8,8,8,8,8,8,8,8,8,8,8,8,8,8,8,8,8,8,8,8,8,8,8,8,8,8,8,8,8,8,8,8,8,8,8,8,8,8,8,8,8,8,8,8,8,8,8,8,8,8,8,8,8,8,8,8,8,8,8,8,8,8,8,8,8,8,8,8,8,8,8,8,8,8,8,8,8,8,8,8,8,8,8,8,8,8,8,8,8,8,8,8,8,8,8,8,8,8,8,8,8,8,8,8,8,8]) i))),[]))) Ξ)))
 (br (A.le 256 x0)
 (br (A.lt 8 0)
 (Ξ)
 (unI (A.conv Ate (A.shr η x0 8)) λi=>
 br (i.blt (A.slen (C2 [0,1,2,2,3,3,3,3,4,4,4,4,4,4,4,4,5,5,5,5,5,5,5,5,5,5,5,5,5,5,5,5,6,6,6,6,6,6,6,6,6,6,6,6,6,6,6,6,6,6,6,6,6,6,6,6,6,6,6,6,6,6,6,6,7,7,7,7,7,7,7,7,7,7,7,7,7,7,7,7,7,7,7,7,7,7,7,7,7,7,7,7,7,7,7,7,7,7,7,7,7,7,7,7,7,7,7,7,7,7,7,7,7,7,7,7,7,7,7,7,7,7,7,7,7,7,7,7,8,8,8,8,8,8,8,8,8,8,8,8,8,8,8,8,8,8,8,8,8,8,8,8,8,8,8,8,8,8,8,8,8,8,8,8,8,8,8,8,8,8,8,8,8,8,8,8,8,8,8,8,8,8,8,8,8,8,8,8,8,8,8,8,8,8,8,8,8,8,8,8,8,8,8,8,8,8,8,8,8,8,8,8,8,8,8,8,8,8,8,8,8,8,8,8,8,8,8,8,8,8,8,8,8,8,8,8,8,8,8,8,8,8,8,8,8,8,8,8,8,8,8,8,8,8,8,8]))) (Θ ((iv (A.add δ (A.add δ 0 8) (A.conv δ (A.sat (C2 [0,1,2,2,3,3,3,3,4,4,4,4,4,4,4,4,5,5,5,5,5,5,5,5,5,5,5,5,5,5,5,5,6,6,6,6,6,6,6,6,6,6,6,6,6,6,6,6,6,6,6,6,6,6,6,6,6,6,6,6,6,6,6,6,7,7,7,7,7,7,7,7,7,7,7,7,7,7,7,7,7,7,7,7,7,7,7,7,7,7,7,7,7,7,7,7,7,7,7,7,7,7,7,7,7,7,7,7,7,7,7,7,7,7,7,7,7,7,7,7,7,7,7,7,7,7,7,7,8,8,8,8,8,8,8,8,8,8,8,8,8,8,8,8,8,8,8,8,8,8,8,8,8,8,8,8,8,8,8,8,8,8,8,8,8,8,8,8,8,8,8,8,8,8,8,8,8,8,8,8,8,8,8,8,8,8,8,8,8,8,8,8,8,8,8,8,8,8,8,8,8,8,8,8,8,8,8,8,8,8,8,8,8,8,8,8,8,8,8,8,8,8,8,8,8,8,8,8,8,8,8,8,8,8,8,8,8,8,8,8,8,8,8,8,8,8,8,8,8,8,8,8,8,8,8,8]) i))),[]))) Ξ))
 (unI (A.conv Ate x0) λi=>
 br (i.blt (A.slen (C2 [0,1,2,2,3,3,3,3,4,4,4,4,4,4,4,4,5,5,5,5,5,5,5,5,5,5,5,5,5,5,5,5,6,6,6,6,6,6,6,6,6,6,6,6,6,6,6,6,6,6,6,6,6,6,6,6,6,6,6,6,6,6,6,6,7,7,7,7,7,7,7,7,7,7,7,7,7,7,7,7,7,7,7,7,7,7,7,7,7,7,7,7,7,7,7,7,7,7,7,7,7,7,7,7,7,7,7,7,7,7,7,7,7,7,7,7,7,7,7,7,7,7,7,7,7,7,7,7,8,8,8,8,8,8,8,8,8,8,8,8,8,8,8,8,8,8,8,8,8,8,8,8,8,8,8,8,8,8,8,8,8,8,8,8,8,8,8,8,8,8,8,8,8,8,8,8,8,8,8,8,8,8,8,8,8,8,8,8,8,8,8,8,8,8,8,8,8,8,8,8,8,8,8,8,8,8,8,8,8,8,8,8,8,8,8,8,8,8,8,8,8,8,8,8,8,8,8,8,8,8,8,8,8,8,8,8,8,8,8,8,8,8,8,8,8,8,8,8,8,8,8,8,8,8,8,8]))) (Θ ((iv (A.add δ 0 (A.conv δ (A.sat (C2 [0,1,2,2,3,3,3,3,4,4,4,4,4,4,4,4,5,5,5,5,5,5,5,5,5,5,5,5,5,5,5,5,6,6,6,6,6,6,6,6,6,6,6,6,6,6,6,6,6,6,6,6,6,6,6,6,6,6,6,6,6,6,6,6,7,7,7,7,7,7,7,7,7,7,7,7,7,7,7,7,7,7,7,7,7,7,7,7,7,7,7,7,7,7,7,7,7,7,7,7,7,7,7,7,7,7,7,7,7,7,7,7,7,7,7,7,7,7,7,7,7,7,7,7,7,7,7,7,8,8,8,8,8,8,8,8,8,8,8,8,8,8,8,8,8,8,8,8,8,8,8,8,8,8,8,8,8,8,8,8,8,8,8,8,8,8,8,8,8,8,8,8,8,8,8,8,8,8,8,8,8,8,8,8,8,8,8,8,8,8,8,8,8,8,8,8,8,8,8,8,8,8,8,8,8,8,8,8,8,8,8,8,8,8,8,8,8,8,8,8,8,8,8,8,8,8,8,8,8,8,8,8,8,8,8,8,8,8,8,8,8,8,8,8,8,8,8,8,8,8,8,8,8,8,8,8]) i))),[]))) Ξ)):=by kernel_rfl
end
section
variable {D:Orc} (K:Knows Dk IX D)
include K
theorem Adk(l:List Nat)(hl:CA l):∀(n:Nat),n<=l.length->CP l<=n->D.ask (.lp 200 0) [eN l,iv (n:Int)] []=Θ (.tup [iv 0,eN l,iv (CP l:Int)],[]):=by
 intro n;have hl':=hl;unfold CA at hl'
 induction n with
 |zero=>
  intro _ ht;refine Ax K NU (WO ..) ?_;refine Ak ?_;rw[show CP l=0 by omega];rfl
 |succ n ih=>
  intro hn ht;refine Ax K NU (WO ..) ?_;refine Al ?_;rw[show Ad.sub .i64 ((n+1:Nat):Int) 1=(n:Int) from (PB (i:=n+1) (j:=1) (by omega) (by omega)).trans (by simp)];rw[At,AB (φ (show n<l.length by omega))];simp only[eL,S7,ND,DK,Aa]
  by_cases h0:l[n]=0
  .refine BF ?_ (by rw[h0];rfl)
   refine Ab (ih (by omega) (QB ht (by rw[φ (show n<l.length by omega),h0]))) ?_;rfl
  .refine Bm ?_
   have:=St (φ (show n<l.length by omega)) h0;rw[show CP l=n+1 by omega];rfl
theorem Fk{l:List Nat}(hl:CA l)(h:Limbs l):D.ask (.fn 200) [eN l] []=Θ (eN (Aj (Ae l)),[]):=by
 refine AI K NU (AlM ..) ?_;rw[Aw];refine Ab (Adk K l hl _ (κ _) (CB l)) ?_;simp only[eN,ND,DK,Aa];rw[At,Aw,SA,Ml,KG h];rw[show L9 0 (CP l) l.length=Δ by unfold L9;rw[show Ap3 0 (CP l)=Δ by simp];simpa using CB l];rfl
variable (C:CloneF D)
include C
theorem FZ{l:List Nat}(hl:CA l)(h:Limbs l):D.ask (.fn 202) [eN l] []=Θ (.sl 0 0 (Aj (Ae l)).length 1,[.set (θ (Ag eL (Aj (Ae l))) Δ Δ)]):=by
 refine AI K Abk (AlO ..) ?_;refine Ab (Fk K hl h) ?_;simp only[eN,ND,DK,Aa];have g:=C.nat _ (Dx h hl);unfold eN at g;refine Ab g ?_;rfl
theorem Ajh(n:Nat)(h:n<18446744073709551616):D.ask (.fn 184) [.v (.int .u64 (n:Int))] []=Θ (eN (Aj n),[]):=by
 refine AI K Abj (AlL ..) ?_;refine Ak ?_ (by decide);rw[CN,EO,CN];have hl:Limbs [n % 4294967296,n / 4294967296 % 4294967296]:=Bg (AqR _ (by omega)) (Bg (AqR _ (by omega)) BT);have g:=FZ K C (l:=[n % 4294967296,n / 4294967296 % 4294967296]) (by unfold CA;simp) hl;rw[show Ae [n % 4294967296,n / 4294967296 % 4294967296]=n by simp only[Ae];omega]at g;refine Ab g ?_;simp only[ND,DK,Aa];rw[Bb AE _ (by omega)];refine Ac ?_;rw[Bw AE _ rfl];rfl
omit C in
theorem AdN(a b:List Nat)(ha:Limbs a)(hb:Limbs b)(hab:a.length=b.length)(hs:CA a):∀(n:Nat),n<=a.length->D.ask (.lp 201 0) [eN a,eN b,iv ((n:Int)-1)] []
  = Θ (if Do (Ae (a.take n)) (Ae (b.take n))=0 then .tup [iv 1] else .tup [bv Δ,iv (Do (Ae (a.take n)) (Ae (b.take n)))],[]):=by
 intro n;unfold CA at hs
 induction n with
 |zero=>
  intro _;refine Ax K NV (WP ..) ?_;refine DA ?_;rfl
 |succ n ih=>
  intro hn;refine Ax K NV (WP ..) ?_;rw[show (((n+1:Nat):Int)-1)=(n:Int) by omega];refine CI ?_;have h1:n<a.length:=by omega
  have h2:n<b.length:=by omega
  have e1:a.take (n+1)=a.take n++[a[n]]:=by rw[AqL h1]
  have e2:b.take (n+1)=b.take n++[b[n]]:=by rw[AqL h2]
  rw[e1,e2,SZ (ha.take n) (hb.take n) (by simp;omega)];simp only[At,AB (φ h1),AB (φ h2),eL,S7,ND,DK,Aa]
  by_cases h3:a[n]<b[n]
  .refine Al ?_
   rw[if_pos h3];rfl
  .refine Ak ?_
   rw[if_neg h3]
   by_cases h4:b[n]<a[n]
   .refine Al ?_
    rw[if_pos h4];rfl
   .refine Ak ?_
    rw[if_neg h4];rw[show Ad.sub .i64 (n:Int) 1=(n:Int)-1 from EH (by omega) (by omega)];refine Ab (ih (by omega)) ?_
    by_cases h5:Do (Ae (a.take n)) (Ae (b.take n))=0
    .rw[if_pos h5];rfl
    .rw[if_neg h5];rfl
omit C in
theorem AdO{a b:List Nat}(hsa:CA a)(ha:Limbs a)(hsb:CA b)(hb:Limbs b):D.ask (.fn 201) [eN a,eN b] []=Θ (iv (Do (Ae a) (Ae b)),[]):=by
 have s1:=Dx ha hsa;have s2:=Dx hb hsb;unfold CA at s1 s2;refine AI K NV (AlN ..) ?_;refine Ab (Fk K hsa ha) ?_;simp only[eN,ND,DK,Aa];refine Ab (Fk K hsb hb) ?_;simp only[eN,ND,DK,Aa,Aw];generalize Ae a=x at *;generalize Ae b=y at *
 by_cases h1:(Aj x).length<(Aj y).length
 .refine Al ?_
  have:=F6 h1;unfold Do;rw[if_pos this]
 .refine Ak ?_
  by_cases h2:(Aj y).length<(Aj x).length
  .refine Al ?_
   have:=F6 h2;unfold Do;rw[if_neg (by omega),if_pos this]
  .refine Ak ?_
   have hx:(Aj x).length=(Aj y).length:=by omega
   have g:=AdN K (Aj x) (Aj y) (Aq x) (Aq y) hx s1 (Aj x).length (κ _);rw[Arb,hx,Arb,Az,Az]at g;rw[show Ad.sub .i64 ((Aj x).length:Int) 1=((Aj x).length:Int)-1 from EH (by omega) (by omega),hx];refine Ab g ?_
   by_cases h5:Do x y=0
   .rw[if_pos h5,h5];rfl
   .rw[if_neg h5];rfl
omit C in
theorem Ajr(a:List Nat)(ha:Limbs a)(hs:CA a)(b:Nat)(hb:0<b)(hb2:b<4294967296):∀(i:Nat) (out:List Nat),i<=a.length->out.length=a.length->out.drop i=Jf b (a.drop i)->
  D.ask (.lp 203 0) [eN a,.v (.int .u32 (b:Int)),.sl 0 0 out.length 1,.v (.int .u64 ((Ae (a.drop i) % b:Nat):Int)),iv ((i:Int)-1)] [θ (Ag eL out) Δ Δ]
   = Θ (.tup [iv 0,.sl 1 0 a.length 1,.v (.int .u64 ((Ae a % b:Nat):Int))],[.del,.set (θ (Ag eL (Jf b a)) Δ Δ)]):=by
 unfold CA at hs;intro i
 induction i with
 |zero=>
  intro out hi hl hd;rw[Ap4,Ap4]at hd;rw[Ap4,hd,Hi];refine Ax K NW (WQ ..) ?_;exact U2 (by omega)
 |succ i ih=>
  intro out hi hl hd;have h1:i<a.length:=by omega
  have h2:i<out.length:=by omega
  have hx:=ha.get h1;have hm:=AqR (Ae (a.drop (i+1))) hb;have hdc:a.drop i=a[i]::a.drop (i+1):=ApV h1;have hr:=Zb b a[i] (a.drop (i+1));rw[←hdc]at hr;have hq:Jf b (a.drop i)=((Ae (a.drop (i+1)) % b)*4294967296+a[i]) / b::Jf b (a.drop (i+1)):=by rw[hdc,Jf]
  have hqlt:=WN (b:=b) hm hx;refine Ax K NW (WQ ..) ?_;rw[show (((i+1:Nat):Int)-1)=(i:Int) by omega];refine CI ?_;refine Ak ?_ (by decide);rw[At,AB (φ h1)];simp only[eL,KQ,ND,DK,Aa];rw[A1 (show b<_ by omega)];refine Bm ?_;rw[At,Bv h2];refine Ac ?_;rw[show Ap3 (0+i*1+1) (Ag eL out).length=Δ by rw[AP AE];simp;omega];refine Ac ?_;refine Bm ?_;have hbig:(Ae (a.drop (i+1)) % b)*4294967296+a[i]<18446744073709551616:=by omega
  rw[A1 (show a[i]<_ by omega),Kg (by omega),OA hx (by omega),Acw hbig,Acy,BW hqlt,hr,show Ad.sub .i64 (i:Int) 1=(i:Int)-1 from EH (by omega) (by omega),CT _ _ _ h2];have g:=ih (out.set i (((Ae (a.drop (i+1)) % b)*4294967296+a[i]) / b)) (by omega) (by rw[Aqc];exact hl) (by
   rw[hq,←hd,ApV (by rw[Aqc];exact h2),Asx,Aq2 (by omega)])
  rw[Aqc]at g;refine Ab g ?_;rfl
theorem Yi{a:List Nat}(ha:Limbs a)(hs:CA a){b:Nat}(hb:0<b)(hb2:b<4294967296):D.ask (.fn 203) [eN a,.v (.int .u32 (b:Int))] []=Θ (.tup [eN (Aj (Ae a / b)),.v (.int .u32 ((Ae a % b:Nat):Int))],[]):=by
 have hs':=hs;unfold CA at hs';have g:=Ajr K a ha hs b hb hb2 a.length (Arm a.length 0) (κ _) (by simp) (by simp[Jf]);rw[Asa,Ar3,show Ae [] % b=0 by simp[Ae]]at g;refine AI K NW (AlP ..) ?_;rw[Aw,show Ap3 a.length a.length=Δ by simp];refine Ac ?_;rw[Ba (n:=a.length) (b:=4) (by omega) (by omega)];refine Ac ?_;rw[Ig,show Ad.sub .i64 (a.length:Int) 1=(a.length:Int)-1 from EH (by omega) (by omega)];refine Ab g ?_;simp only[KQ,ND,DK,Aa];have hm:=AqR (Ae a) hb;have gt:=FZ K C (l:=Jf b a) (by unfold CA;rw[Hi];exact hs') (NB hb a ha);rw[QH hb]at gt;rw[show Ap3 (0+a.length*1) (Ag eL (Jf b a)).length=Δ by rw[AP AE,Hi];simp];refine Ac ?_;rw[Bw AE _ (Hi b a).symm];refine Ab gt ?_;simp only[ND,DK,Aa];rw[Bb AE _ (by omega)];refine Ac ?_;rw[Bw AE _ rfl];rw[BW (by omega)];rfl
end
section
variable {D:Orc} (K:Knows Dk IX D)
include K
theorem Aev(a:List Nat)(ha:Limbs a)(hs:CA a)(s:Nat)(h31:s<=31):∀(k i:Nat) (out:List Nat) (c:Nat),a.length-i=k->i<=a.length->c<2 ^ s->out.length+k<=2000000000->
  ∃(o:List Nat) (c':Nat),D.ask (.lp 238 0) [iv (s:Int),.sl 0 0 out.length 1,.v (.int .u64 (c:Int)),eN a,iv (a.length:Int),iv (i:Int)] [θ (Ag eL out) Δ Δ]
   = Θ (.tup [iv 1,.sl 1 0 o.length 1,.v (.int .u64 (c':Int))],[.del,.set (θ (Ag eL o) Δ Δ)])/\c'<2 ^ s/\o++[c']=out++FX (2 ^ s) c (a.drop i):=by
 obtain⟨p0,p31,_⟩:=Oy h31;intro k;unfold CA at hs
 induction k with
 |zero=>
  intro i out c hi hle hc ho;refine⟨out,c,?_,hc,?_⟩
  .refine Ax K NY (WR ..) ?_
   exact C3 (by omega)
  .rw[show a.drop i=[] from Aqd (by omega)]
   rfl
 |succ k ih=>
  intro i out c hi hle hc ho;have hlt:i<a.length:=by omega
  have hx:=ha.get hlt;have hmul:a[i]*2 ^ s<=4294967295*2 ^ s:=Aqb _ (by omega);have hb:a[i]*2 ^ s+c<18446744073709551616:=by omega
  have hc2:(a[i]*2 ^ s+c) / 4294967296<2 ^ s:=by
   rw[Ase (by omega)];omega
  rw[show a.drop i=a[i]::a.drop (i+1) from ApV hlt];obtain⟨o,c',h1,h2,h3⟩:=ih (i+1) (out++[(a[i]*2 ^ s+c) % 4294967296]) ((a[i]*2 ^ s+c) / 4294967296) (by omega) (by omega) hc2 (by simp;omega);refine⟨o,c',?_,h2,?_⟩
  .refine Ax K NY (WR ..) ?_
   refine Al ?_;rw[At,AB (φ hlt)];have hf:BB (out.length+1) 4=Δ:=Ba (by omega) (by omega);have hb1:Ap3 (0+out.length*1) (Ag eL out).length=Δ:=Bb AE out (by omega);have e3:∀ s:Nat,Aqe 0 (Ap2 (0+out.length*1) (Ag eL out))++[.v (.int .u32 (s:Int))]=Ag eL (out++[s]):=λs=>by
    rw[Ap4,BH AE out (by omega)];exact BD eL out s
   rw[χ,AqB]at h1;simp only[eL,KQ,ND,DK,Aa];refine Ak ?_;rw[hf,hb1];refine Ac ?_;refine Ac ?_;refine Ak ?_ (by decide);rw[A1 (by omega),XB (by omega) (by omega),Acu hc hb,CN,EO,e3,BZ (by omega)];refine Ab h1 ?_;rfl
  .rw[h3,FX,Ap7]
   rfl
variable (C:CloneF D)
include C
theorem Xd{a:List Nat}(ha:Limbs a)(hs0:a.length<=999999998){s:Nat}(h31:s<=31):D.ask (.fn 238) [eN a,iv (s:Int)] []=Θ (.tup [.sl 0 0 (Aj (Ae a*2 ^ s)).length 1,iv 0],[.set (θ (Ag eL (Aj (Ae a*2 ^ s))) Δ Δ)]):=by
 obtain⟨p0,p31,_⟩:=Oy h31;have hs:CA a:=by unfold CA;omega
 have hsn0:(Aj (Ae a)).length<=999999998:=by rw[Dq a ha];have:=CB a;omega
 have hsn:=Dx ha hs;obtain⟨o,c',g,hc,ho⟩:=Aev K (Aj (Ae a)) (Aq _) hsn s h31 (Aj (Ae a)).length 0 [] 0 (by omega) (by omega) p0 (by unfold CA at hsn;simp;omega);rw[Aql,Ap4]at ho;have hlm:Limbs (FX (2 ^ s) 0 (Aj (Ae a))):=Kz _ _ _ (by omega) (Aq _) (by omega);have hol:o.length=(Aj (Ae a)).length:=by
  have:=congrArg Atv ho;rw[χ,OW]at this;simpa using this
 have gt:=FZ K C (l:=o++[c']) (by unfold CA;rw[χ,hol];simp;omega) (by rw[ho];exact hlm);rw[ho,Mr,Az,AqJ,←ho]at gt;unfold CA at hsn;refine AI K NY (AlU ..) ?_;refine Ak ?_;refine Ak ?_;refine Ab (Fk K hs ha) ?_;simp only[eN,ND,DK,Aa];refine Bm ?_ (by decide);refine Bm ?_ (by decide);rw[Acv h31,Acx h31,Aw,Aac (by omega),show Ad.add .i64 ((0+(Aj (Ae a)).length:Nat):Int) 1=((0+(Aj (Ae a)).length+1:Nat):Int) from BZ (by omega),At,At];refine Ac ?_;rw[Ba (by omega) (by omega)];refine Ac ?_;refine Ab g ?_;simp only[KQ,ND,DK,Aa];rw[Ba (n:=o.length+1) (b:=4) (by omega) (by omega),Bb AE o (by omega),BW (by omega)];have e3:Aqe 0 (Ap2 (0+o.length*1) (Ag eL o))++[.v (.int .u32 (c':Int))]=Ag eL (o++[c']):=by
  rw[Ap4,BH AE o (by omega)];exact BD eL o c'
 rw[e3,Bb AE (o++[c']) (by simp)];refine Ac ?_;refine Ac ?_;rw[Ap4,BH AE (o++[c']) (by simp),show Bi (o.length+1) 1 (Ag eL (o++[c']))=(o++[c']).map eL from by have:=DE AE (o++[c']);rwa [χ]at this];refine Ac ?_;refine Ac ?_;refine Ab gt ?_;rfl
omit C in
theorem YY(a:List Nat)(ha:Limbs a)(hs:CA a)(s:Nat)(h31:s<=31):∀(k i:Nat) (out:List Nat),a.length-i=k->i<=a.length->out.length+k<=2000000000->
  ∃ o:List Nat,o=out++Fg (2 ^ s) (a.drop i)/\D.ask (.lp 242 0) [eN a,iv (s:Int),.sl 0 0 out.length 1,iv (i:Int)] [θ (Ag eL out) Δ Δ]
   = Θ (.tup [iv 0,.sl 1 0 o.length 1],[.del,.set (θ (Ag eL o) Δ Δ)]):=by
 intro k;unfold CA at hs
 induction k with
 |zero=>
  intro i out hi hle ho;refine⟨out,by rw[show a.drop i=[] from Aqd (by omega),Fg,Aq9],?_⟩;refine Ax K N0 (WT ..) ?_;rw[Aw];exact C3 (by omega)
 |succ k ih=>
  intro i out hi hle ho;have hlt:i<a.length:=by omega
  have hx:=ha.get hlt;rw[show a.drop i=a[i]::a.drop (i+1) from ApV hlt,Fg];obtain⟨o,ho2,h1⟩:=ih (i+1) (out++[((a.drop (i+1)).headD 0*4294967296+a[i]) / 2 ^ s % 4294967296]) (by omega) (by omega) (by simp;omega);rw[Ap7,ArJ]at ho2;refine⟨o,ho2,?_⟩;clear ho2;rw[show (out++[((a.drop (i+1)).headD 0*4294967296+a[i]) / 2 ^ s % 4294967296]).length=out.length+1 by simp]at h1;refine Ax K N0 (WT ..) ?_;rw[Aw];refine Al ?_;have hf:BB (out.length+1) 4=Δ:=Ba (by omega) (by omega);have hb1:Ap3 (0+out.length*1) (Ag eL out).length=Δ:=Bb AE out (by omega);have e3:∀ s:Nat,Aqe 0 (Ap2 (0+out.length*1) (Ag eL out))++[.v (.int .u32 (s:Int))]=Ag eL (out++[s]):=λs=>by
   rw[Ap4,BH AE out (by omega)];exact BD eL out s
  rw[BZ (by omega)]
  by_cases h2:i+1<a.length
  .have hd:(a.drop (i+1)).headD 0=a[i+1]:=by rw[ApV h2];rfl
   have hy:=ha.get h2;rw[hd]at h1;refine Al ?_;rw[At,AB (φ h2)];simp only[eL,KQ,ND,DK,Aa];refine Ak ?_ (by decide);rw[At,AB (φ hlt)];simp only[eL,KQ,ND,DK,Aa];refine Ak ?_;rw[hf,hb1,A1 (show a[i+1]<_ by omega),A1 (show a[i]<_ by omega),Kg hy,OA hx hy,RY (by show s<=64;omega),CN,e3];refine Ac ?_;refine Ac ?_;refine Ab h1 ?_;rfl
  .have hd:(a.drop (i+1)).headD 0=0:=by rw[Aqd (by omega)];rfl
   rw[hd]at h1;refine Ak ?_;refine Ak ?_ (by decide);rw[At,AB (φ hlt)];simp only[eL,KQ,ND,DK,Aa];refine Ak ?_;rw[hf,hb1,A1 (show a[i]<_ by omega),show Ad.shl .u64 0 32=((0*4294967296:Nat):Int) from Kg (x:=0) (by omega),OA hx (by omega),RY (by show s<=64;omega),CN,e3];refine Ac ?_;refine Ac ?_;refine Ab h1 ?_;rfl
theorem YZ{a:List Nat}(ha:Limbs a)(hs:CA a){s:Nat}(h31:s<=31):D.ask (.fn 242) [eN a,iv (s:Int)] []=Θ (eN (Aj (Ae a / 2 ^ s)),[]):=by
 obtain⟨p0,p31,pq⟩:=Oy h31;have hsn:=Dx ha hs;obtain⟨o,ho,g⟩:=YY K (Aj (Ae a)) (Aq _) hsn s h31 (Aj (Ae a)).length 0 [] (by omega) (by omega) (by unfold CA at hsn;simp;omega);rw[Aql,Ap4]at ho;subst ho;have hlen:=OL (2 ^ s) (Aj (Ae a));have gt:=FZ K C (l:=Fg (2 ^ s) (Aj (Ae a))) (by unfold CA at *;rw[hlen];exact hsn) (Ko _ _);rw[Mq p0 pq _ (Aq _),Az]at gt;unfold CA at hsn;refine AI K N0 (AlY ..) ?_;refine Ab (Fk K hs ha) ?_;simp only[eN,ND,DK,Aa];refine Bm ?_ (by decide);refine Bm ?_ (by decide);rw[AkK,Acv h31,Acx h31,Aw]
 by_cases h0:Ae a=0
 .rw[h0,CW,Nat.zero_div,CW]
  exact KW (by decide)
 .have hne:0<(Aj (Ae a)).length:=by
   rcases Aq7 (Aj (Ae a)).length with h|h
   .exact absurd (TS.1 (Aqy h)) h0
   .exact h
  refine DA ?_;rw[PB (j:=0) (by omega) (by omega),At,Ba (by omega) (by omega)];refine Ac ?_;refine Ab g ?_;simp only[ND,DK,Aa];rw[Bb AE _ (by omega)];refine Ac ?_;rw[Bw AE _ rfl];refine Ab gt ?_;simp only[ND,DK,Aa];rw[Bb AE _ (by omega)];refine Ac ?_;rw[Bw AE _ rfl]
end
theorem Nh:∀(m c w:Nat) (u d:List Nat),Dm m c w u d=Dm m c w (u.take d.length) d
 |_,_,_,_,[]=>rfl
 |m,c,w,[],x::d=>by rw[AsP]
 |m,c,w,y::u,x::d=>by
  rw[ο,ArF,Dm,Dm,ArC,ArC,Arh,Arh,Nh m _ _ u d]
theorem Nj:∀(m c w:Nat) (u d:List Nat),CY m c w u d=CY m c w (u.take d.length) d
 |_,_,_,_,[]=>rfl
 |m,c,w,[],x::d=>by rw[AsP]
 |m,c,w,y::u,x::d=>by
  rw[ο,ArF,CY,CY,ArC,ArC,Arh,Arh,Nj m _ _ u d]
theorem Nm:∀(c:Nat) (u d:List Nat),CZ c u d=CZ c (u.take d.length) d
 |_,_,[]=>rfl
 |c,[],x::d=>by rw[AsP]
 |c,y::u,x::d=>by
  rw[ο,ArF,CZ,CZ,ArC,ArC,Arh,Arh,Nm _ u d]
theorem Nl:∀(c:Nat) (u d:List Nat),CG c u d=CG c (u.take d.length) d
 |_,_,[]=>rfl
 |c,[],x::d=>by rw[AsP]
 |c,y::u,x::d=>by
  rw[ο,ArF,CG,CG,ArC,ArC,Arh,Arh,Nl _ u d]
theorem Iy{l:List Nat}(h:Limbs l){i v:Nat}(hv:v<4294967296):Limbs (l.set i v):=λz hz=>by
 rcases AsT hz with h1|h1
 .exact h z h1
 .rw[h1];exact hv
theorem OU{l:List Nat}{j v:Nat}(h:j<l.length):(l.set j v).take (j+1)=l.take j++[v]:=by
 rw[AqL (by rw[Aqc];exact h),Asx,Atk (κ _)]
theorem cuN(n:Int)(f:Int->KR):(Mw .u32 [.v (.int .u32 n)] λn y=>Gu y (f n))=f n:=by rw[KQ];rfl
section
variable {D:Orc} (K:Knows Dk IX D)
include K
theorem AdV(d:List Nat)(hd:Limbs d)(m:Nat)(hm:m<4294967296)(o n:Nat)(hn:d.length<n):∀(k i:Nat) (U:List Nat) (c w:Nat),d.length-i=k->i<=d.length->Limbs U->o+n<=U.length->U.length<=2000000000->c<4294967296->w<=1->
  ∃ U':List Nat,U'=U.take (o+i)++Dm m c w (U.drop (o+i)) (d.drop i)++U.drop (o+d.length) ∧
   D.ask (.lp 240 0) [.sl 0 o n 1,eN d,.v (.int .u64 (m:Int)),.v (.int .u64 (c:Int)),.v (.int .u64 (w:Int)),eN d,iv (d.length:Int),iv (i:Int)] [θ (Ag eL U) Δ Δ]
    = Θ (.tup [iv 0,.sl 0 o n 1,eN d,.v (.int .u64 (DC m c (d.drop i):Int)),.v (.int .u64 (CY m c w (U.drop (o+i)) (d.drop i):Int))],[.set (θ (Ag eL U') Δ Δ)]):=by
 intro k
 induction k with
 |zero=>
  intro i U c w hi hle hU hoU hUl hc hw;obtain rfl:i=d.length:=by omega
  refine⟨U,?_,?_⟩
  .rw[Ar3,Dm,Aq9,AqU]
  .rw[Ar3,DC,CY]
   refine Ax K K9 (Rd ..) ?_;exact C3 (by omega)
 |succ k ih=>
  intro i U c w hi hle hU hoU hUl hc hw;have hlt:i<d.length:=by omega
  have hou:o+i<U.length:=by omega
  have hx:=hd.get hlt;have hy:=hU.get hou;have hp:=Lo hm hx;have hmd:=AqR (m*d[i]+c) (show 0<4294967296 by omega);have hhd:(U.drop (o+i)).headD 0=U[o+i]:=by rw[ApV hou];rfl
  have htl:(U.drop (o+i)).tail=U.drop (o+i+1):=by rw[Asb]
  rw[show d.drop i=d[i]::d.drop (i+1) from ApV hlt,Dm,DC,CY,hhd,htl]
  by_cases hb:U[o+i]<(m*d[i]+c) % 4294967296+w
  .rw[if_pos hb,if_pos hb]
   obtain⟨U',hU',g⟩:=ih (i+1) (U.set (o+i) (U[o+i]+4294967296-((m*d[i]+c) % 4294967296+w))) ((m*d[i]+c) / 4294967296) 1 (by omega) (by omega) (Iy hU (by omega)) (by rw[Aqc];exact hoU) (by rw[Aqc];exact hUl) (by omega) (κ _);rw[show o+(i+1)=o+i+1 by omega,OU hou,Aq2 (by omega),Aq2 (by omega)]at hU';rw[show o+(i+1)=o+i+1 by omega,Aq2 (show o+i<o+i+1 by omega)]at g;refine⟨U',by rw[hU'];simp only[Ap7,ArJ,AqE,Aql],?_⟩;refine Ax K K9 (Rd ..) ?_;refine Al ?_;rw[At,AB (φ hlt)];simp only[eL,KQ,ND,DK,Aa];refine Ak ?_ (by decide);rw[At,show AqK i n=Δ from Bv (by omega),show o+i*1=0+(o+i)*1 by omega];refine Ac ?_;refine(Ju U _ hou _).trans ?_;simp only[KQ,ND,DK,Aa];rw[A1 (show U[o+i]<_ by omega),A1 (show d[i]<_ by omega),MZ (by omega),Cq (show m*d[i]+c<_ by omega),XA (by omega),Cq (by omega),EO];refine Al ?_;rw[At,show AqK i n=Δ from Bv (by omega)];refine Ac ?_;rw[show o+i*1=0+(o+i)*1 by omega,show Ap3 (0+(o+i)*1+1) (Ag eL U).length=Δ by rw[AP AE];simp;omega];refine Ac ?_;rw[show Ad.add .u64 (U[o+i]:Int) 4294967296=((U[o+i]+4294967296:Nat):Int) from Cq (y:=4294967296) (by omega),FK (by omega) (by omega),BW (by omega),CT _ _ _ hou,BZ (by omega)];refine Ab g ?_;rfl
  .rw[if_neg hb,if_neg hb]
   obtain⟨U',hU',g⟩:=ih (i+1) (U.set (o+i) (U[o+i]-((m*d[i]+c) % 4294967296+w))) ((m*d[i]+c) / 4294967296) 0 (by omega) (by omega) (Iy hU (by omega)) (by rw[Aqc];exact hoU) (by rw[Aqc];exact hUl) (by omega) (AqC _);rw[show o+(i+1)=o+i+1 by omega,OU hou,Aq2 (by omega),Aq2 (by omega)]at hU';rw[show o+(i+1)=o+i+1 by omega,Aq2 (show o+i<o+i+1 by omega)]at g;refine⟨U',by rw[hU'];simp only[Ap7,ArJ,AqE,Aql],?_⟩;refine Ax K K9 (Rd ..) ?_;refine Al ?_;rw[At,AB (φ hlt)];simp only[eL,KQ,ND,DK,Aa];refine Ak ?_ (by decide);rw[At,show AqK i n=Δ from Bv (by omega),show o+i*1=0+(o+i)*1 by omega];refine Ac ?_;refine(Ju U _ hou _).trans ?_;simp only[KQ,ND,DK,Aa];rw[A1 (show U[o+i]<_ by omega),A1 (show d[i]<_ by omega),MZ (by omega),Cq (show m*d[i]+c<_ by omega),XA (by omega),Cq (by omega),EO];refine Ak ?_;rw[At,show AqK i n=Δ from Bv (by omega)];refine Ac ?_;rw[show o+i*1=0+(o+i)*1 by omega,show Ap3 (0+(o+i)*1+1) (Ag eL U).length=Δ by rw[AP AE];simp;omega];refine Ac ?_;rw[FK (by omega) (by omega),BW (by omega),CT _ _ _ hou,BZ (by omega)];refine Ab g ?_;rfl
theorem UA{d:List Nat}(hd:Limbs d){m:Nat}(hm:m<4294967296){o:Nat}{U:List Nat}(hU:Limbs U)(hl:o+d.length<U.length)(hUl:U.length<=1000000000) :
  D.ask (.fn 240) [.sl 0 o (d.length+1) 1,eN d,.v (.int .u64 (m:Int))] [θ (Ag eL U) Δ Δ]
   = Θ (bv (decide (U[o+d.length]<DC m 0 d+CY m 0 0 (U.drop o) d)),[.set (θ (Ag eL (U.take o++(Dm m 0 0 (U.drop o) d++[(U[o+d.length]+4294967296-(DC m 0 d+CY m 0 0 (U.drop o) d)) % 4294967296])++U.drop (o+(d.length+1)))) Δ Δ)]):=by
 obtain⟨U',hU',g⟩:=AdV K d hd m hm o (d.length+1) (Asw _) d.length 0 U 0 0 (by omega) (by omega) hU (by omega) (by omega) (by omega) (by omega);simp only[AqJ,Ap4]at hU' g;have hc:=Ng m 0 d hm hd (by omega);have hw:=Ni m 0 0 (U.drop o) d (AqC _);have hul:=hU.get hl;have hlen:U'.length=U.length:=by
  rw[hU'];simp only[χ,Aqh,Ars,F5];omega
 have hjl:o+d.length<U'.length:=by omega
 have hpre:(U.take o++Dm m 0 0 (U.drop o) d).length=o+d.length:=by
  rw[χ,Aqh,F5];omega
 have hget:U'[o+d.length]=U[o+d.length]:=by
  have:U'[o+d.length]? = U[o+d.length]?:=by
   rw[hU',Aqf (by omega),hpre,Asf,AqT,AqJ]
  rw[φ hjl,φ hl]at this;injection this
 have hset:∀ v,U'.set (o+d.length) v=U.take o++(Dm m 0 0 (U.drop o) d++[v])++U.drop (o+(d.length+1)):=λv=>by
  rw[hU',Atc _ _ (by omega),hpre,Asf,ApV hl,Arq];simp only[Ap7,ArJ,AqE,Aql];rw[Aqu]
 refine AI K K9 (AlW ..) ?_;rw[Aw];refine Ab g ?_;simp only[eN,KQ,UH,Aw,ND,DK,Aa];rw[show AqK d.length (d.length+1)=Δ from Bv (Asw _),show o+d.length*1=0+(o+d.length)*1 by omega];refine Ac ?_;refine(Ju U' _ hjl _).trans ?_;refine(cuN _ _).trans ?_;refine Ac ?_;rw[show Ap3 (0+(o+d.length)*1+1) (Ag eL U').length=Δ by rw[AP AE];simp;omega];refine Ac ?_;rw[hget,A1 (by omega),Cq (by omega),AkL (by omega) hul,CT _ _ _ hjl,hset]
 by_cases hb:U[o+d.length]<DC m 0 d+CY m 0 0 (U.drop o) d
 .rw[decide_eq_true hb]
  exact QW (by omega)
 .rw[decide_eq_false hb]
  exact C3 (by omega)
theorem AdX(d:List Nat)(hd:Limbs d)(o n:Nat)(hn:d.length<n):∀(k i:Nat) (U:List Nat) (c:Nat),d.length-i=k->i<=d.length->Limbs U->o+n<=U.length->U.length<=2000000000->c<=1->
  ∃ U':List Nat,U'=U.take (o+i)++CZ c (U.drop (o+i)) (d.drop i)++U.drop (o+d.length) ∧
   D.ask (.lp 241 0) [.sl 0 o n 1,eN d,.v (.int .u64 (c:Int)),eN d,iv (d.length:Int),iv (i:Int)] [θ (Ag eL U) Δ Δ]
    = Θ (.tup [iv 0,.sl 0 o n 1,eN d,.v (.int .u64 (CG c (U.drop (o+i)) (d.drop i):Int))],[.set (θ (Ag eL U') Δ Δ)]):=by
 intro k
 induction k with
 |zero=>
  intro i U c hi hle hU hoU hUl hc;obtain rfl:i=d.length:=by omega
  refine⟨U,?_,?_⟩
  .rw[Ar3,CZ,Aq9,AqU]
  .rw[Ar3,CG]
   refine Ax K NZ (WS ..) ?_;exact C3 (by omega)
 |succ k ih=>
  intro i U c hi hle hU hoU hUl hc;have hlt:i<d.length:=by omega
  have hou:o+i<U.length:=by omega
  have hx:=hd.get hlt;have hy:=hU.get hou;have hhd:(U.drop (o+i)).headD 0=U[o+i]:=by rw[ApV hou];rfl
  have htl:(U.drop (o+i)).tail=U.drop (o+i+1):=by rw[Asb]
  have hmd:=AqR (U[o+i]+d[i]+c) (show 0<4294967296 by omega);rw[show d.drop i=d[i]::d.drop (i+1) from ApV hlt,CZ,CG,hhd,htl];obtain⟨U',hU',g⟩:=ih (i+1) (U.set (o+i) ((U[o+i]+d[i]+c) % 4294967296)) ((U[o+i]+d[i]+c) / 4294967296) (by omega) (by omega) (Iy hU hmd) (by rw[Aqc];exact hoU) (by rw[Aqc];exact hUl) (by omega);rw[show o+(i+1)=o+i+1 by omega,OU hou,Aq2 (by omega),Aq2 (by omega)]at hU';rw[show o+(i+1)=o+i+1 by omega,Aq2 (show o+i<o+i+1 by omega)]at g;refine⟨U',by rw[hU'];simp only[Ap7,ArJ,AqE,Aql],?_⟩;refine Ax K NZ (WS ..) ?_;refine Al ?_;rw[At,AB (φ hlt)];simp only[eL,KQ,ND,DK,Aa];rw[At,show AqK i n=Δ from Bv (by omega),show o+i*1=0+(o+i)*1 by omega];refine Ac ?_;refine(Ju U _ hou _).trans ?_;simp only[KQ,ND,DK,Aa];rw[At,show AqK i n=Δ from Bv (by omega)];refine Ac ?_;rw[show o+i*1=0+(o+i)*1 by omega,show Ap3 (0+(o+i)*1+1) (Ag eL U).length=Δ by rw[AP AE];simp;omega];refine Ac ?_;refine Ak ?_ (by decide);rw[A1 (show U[o+i]<_ by omega),A1 (show d[i]<_ by omega),Cq (by omega),Cq (by omega),EO,CN,CT _ _ _ hou,BZ (by omega)];refine Ab g ?_;rfl
theorem V7{d:List Nat}(hd:Limbs d){o:Nat}{U:List Nat}(hU:Limbs U)(hl:o+d.length<U.length)(hUl:U.length<=1000000000) :
  D.ask (.fn 241) [.sl 0 o (d.length+1) 1,eN d] [θ (Ag eL U) Δ Δ]
   = Θ (.tup [],[.set (θ (Ag eL (U.take o++(CZ 0 (U.drop o) d++[(U[o+d.length]+CG 0 (U.drop o) d) % 4294967296])++U.drop (o+(d.length+1)))) Δ Δ)]):=by
 obtain⟨U',hU',g⟩:=AdX K d hd o (d.length+1) (Asw _) d.length 0 U 0 (by omega) (by omega) hU (by omega) (by omega) (by omega);simp only[AqJ,Ap4]at hU' g;have hc:=Nk 0 (U.drop o) d (hU.drop o) hd (by omega);have hul:=hU.get hl;have hlen:U'.length=U.length:=by
  rw[hU'];simp only[χ,Aqh,Ars,D8];omega
 have hjl:o+d.length<U'.length:=by omega
 have hpre:(U.take o++CZ 0 (U.drop o) d).length=o+d.length:=by
  rw[χ,Aqh,D8];omega
 have hget:U'[o+d.length]=U[o+d.length]:=by
  have:U'[o+d.length]? = U[o+d.length]?:=by
   rw[hU',Aqf (by omega),hpre,Asf,AqT,AqJ]
  rw[φ hjl,φ hl]at this;injection this
 have hset:∀ v,U'.set (o+d.length) v=U.take o++(CZ 0 (U.drop o) d++[v])++U.drop (o+(d.length+1)):=λv=>by
  rw[hU',Atc _ _ (by omega),hpre,Asf,ApV hl,Arq];simp only[Ap7,ArJ,AqE,Aql];rw[Aqu]
 refine AI K NZ (AlX ..) ?_;rw[Aw];refine Ab g ?_;simp only[eN,KQ,UH,Aw,ND,DK,Aa];rw[show AqK d.length (d.length+1)=Δ from Bv (Asw _),show o+d.length*1=0+(o+d.length)*1 by omega];refine Ac ?_;refine(Ju U' _ hjl _).trans ?_;refine(cuN _ _).trans ?_;refine Ac ?_;rw[show Ap3 (0+(o+d.length)*1+1) (Ag eL U').length=Δ by rw[AP AE];simp;omega];refine Ac ?_;rw[hget,BW (by omega),AgG,CT _ _ _ hjl,hset]
end
def Hl(f v ul:Nat):Nat->Nat->Nat->Nat
 |0,g,_=>g
 |k+1,g,r=>if 4294967296<=g\/r*4294967296+ul<g*v then(if 4294967296<=r+f then g-1 else Hl f v ul k (g-1) (r+f)) else g
structure Gs (W Dv g:Nat):Prop where
 lt:g<4294967296
 hi:g*Dv<W+Dv
 lo:W<(g+1)*Dv
theorem VG{P f v vl ul wl T W Dv:Nat}(hv:v<4294967296)(hvl:vl<P)(hwl:wl<P)(hf:2147483648<=f)(hDv:Dv=(f*4294967296+v)*P+vl)(hW:W=(T*4294967296+ul)*P+wl)(hWD:W<Dv*4294967296):∀(k g r:Nat),g*f+r=T->W<(g+1)*Dv->r<4294967296->4294967296<=r+k*f->Gs W Dv (Hl f v ul k g r):=by
 have hTV:T<=f*4294967296+v:=by
  by_cases h:T<=f*4294967296+v
  .exact h
  .exfalso
   have h1:(f*4294967296+v+1)*4294967296*P<=(T*4294967296+ul)*P:=Aqb _ (by omega);have h2:Dv*4294967296<=(f*4294967296+v+1)*4294967296*P:=by
    rw[hDv,Aqr _ 4294967296 P,AqH 4294967296 P,←Aqr];exact Aqb _ (by rw[Aqz _ 1 P,Aq8];omega)
   omega
 have good:∀ g r,g*f+r=T->g<4294967296->g*v<=r*4294967296+ul->W<(g+1)*Dv->Gs W Dv g:=λg r h1 h2 h3 h4=>by
  refine⟨h2,?_,h4⟩;have h5:g*(f*4294967296+v)<=T*4294967296+ul:=by
   rw[←h1,AqS,Aqz,Aqr];omega
  have:=Abd (ul:=wl) hvl (show 4294967296<=f*4294967296+v by omega) (Nat.le_of_lt h2) h5;rw[hDv,hW];exact this
 intro k
 induction k with
 |zero=>intro g r _ _ h1 h2;omega
 |succ k ih=>
  intro g r h1 h2 h3 h4;rw[Hl]
  by_cases hc:4294967296<=g\/r*4294967296+ul<g*v
  .rw[if_pos hc]
   have hg:1<=g:=by
    rcases hc with h|h
    .omega
    .rcases Aq7 g with e|e
     .rw[e]at h;omega
     .exact e
   obtain⟨g',rfl⟩:∃ g',g=g'+1:=⟨g-1,by omega⟩;rw[Aq0];have hlo:W<(g'+1)*Dv:=by
    rcases hc with h|h
    .have:4294967296*Dv<=(g'+1)*Dv:=Aqb _ h
     rw[AqH]at this;omega
    .have h5:T*4294967296+ul<(g'+1)*(f*4294967296+v):=by
      rw[←h1,AqS,Aqz,Aqr];omega
     have:=Abe (vl:=vl) hwl h5;rw[hDv,hW];exact this
   have hr:g'*f+(r+f)=T:=by
    rw[Aqz,Aq8]at h1;omega
   by_cases hb:4294967296<=r+f
   .rw[if_pos hb]
    have hgB:g'<4294967296:=by
     by_cases h:g'<4294967296
     .exact h
     .have:4294967296*f<=g'*f:=Aqb _ (by omega)
      rw[AqH]at this;omega
    refine good g' (r+f) hr hgB ?_ hlo;have h6:g'*v<=4294967296*4294967296:=Nat.mul_le_mul (by omega) (by omega);have h7:4294967296*4294967296<=(r+f)*4294967296:=Aqb _ hb;omega
   .rw[if_neg hb]
    exact ih g' (r+f) hr hlo (by omega) (by rw[Aqz,Aq8]at h4;omega)
  .rw[if_neg hc]
   have hc1:¬ 4294967296<=g:=λh=>hc (.inl h)
   have hc2:¬ r*4294967296+ul<g*v:=λh=>hc (.inr h)
   exact good g r h1 (by omega) (by omega) h2
theorem Abc{f v T:Nat}(hv:v<4294967296)(hf:2147483648<=f)(h:T<=f*4294967296+v):T / f<=4294967297:=by
 have h1:T<4294967298*f:=by
  rw[show 4294967298*f=f*4294967296+2*f by rw[AqH f];omega];omega
 have:=(Ase (show 0<f by omega)).2 h1;omega
theorem Ac0{win d win':List Nat}{ul ul' W Dv g:Nat}(hn:win.length=d.length)(hn':win'.length=d.length)(hd:Limbs d)(hW:Ae (win++[ul])=W)(hDv:Ae d=Dv)(hG:Gs W Dv g){t:Nat}(hlw:Limbs (win'++[ul']))
  (hA:Ae (win'++[ul'])+g*Dv=W+(if ul<t then 4294967296 ^ (d.length+1) else 0)) :
  (¬ ul<t->Ae (win'++[ul'])+g*Dv=W/\Ae (win'++[ul'])<Dv) ∧
  (ul<t->1<=g/\(Ae (win'++[ul'])+Dv) % 4294967296 ^ (d.length+1)+(g-1)*Dv=W/\(Ae (win'++[ul'])+Dv) % 4294967296 ^ (d.length+1)<Dv):=by
 have hlt:=B8 hlw;have hdl:=B8 hd;rw[hDv]at hdl;have hpw:4294967296 ^ (d.length+1)=4294967296 ^ d.length*4294967296:=Ary ..;rw[χ,AqB,hn']at hlt;have hlo:=hG.lo;have hhi:=hG.hi;rw[Aqz,Aq8]at hlo;refine⟨λh=>?_,λh=>?_⟩
 .rw[if_neg h]at hA
  omega
 .rw[if_pos h]at hA
  have hg:1<=g:=by
   rcases Aq7 g with e|e
   .rw[e,Arn]at hA
    omega
   .exact e
  obtain⟨g',rfl⟩:∃ g',g=g'+1:=⟨g-1,by omega⟩;rw[Aqz,Aq8]at hA hhi;rw[Aq0];have e:(Ae (win'++[ul'])+Dv) % 4294967296 ^ (d.length+1)=Ae (win'++[ul'])+Dv-4294967296 ^ (d.length+1):=by
   rw[Nat.mod_eq_sub_mod (by omega)];refine Aq3 ?_;omega
  rw[e];omega
