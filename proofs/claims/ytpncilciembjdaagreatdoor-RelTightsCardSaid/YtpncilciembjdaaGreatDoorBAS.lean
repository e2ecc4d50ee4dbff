/- slices.Clone over this s -/
import Derived.Maps.AppendAt
import Derived.Test.YtpncilciembjdaaGreatDoorBAO
import Derived.Test.YtpncilciembjdaaGreatDoorBAQ
import Derived.Test.YtpncilciembjdaaGreatDoorBAR
set_option linter.all false
open Bool renaming and_eq_true->Ape
open Int renaming fdiv_eq_ediv_of_nonneg->ArL,natCast_mul->Aq8,natCast_pow->AsC,tdiv->Arj,toNat_natCast->Asp
open List renaming append_assoc->Ao9,append_nil->ApQ,cons_append->Aqz,drop->ι,drop_drop->Aq3,drop_eq_getElem_cons->ω,drop_eq_nil_of_le->υ,drop_length->Aq4,drop_set_of_lt->Aqd,drop_zero->χ,eq_nil_of_length_eq_zero->Apr,flatten_cons->AqT,getElem?_append_right->Apk,getElem?_drop->Ap3,getElem?_eq_getElem->Ψ,getElem_set_self->ArE,headD_cons->Aqp,length->Asw,length_append->η,length_cons->π,length_drop->AqA,length_replicate->Arb,length_set->Apl,length_singleton->Apm,length_take->Apg,map_take->ArN,mem_of_mem_drop->Aqr,mem_or_eq_of_mem_set->ArS,mem_replicate->Asl,nil_append->Apv,replicate->Aqj,set_append_right->Asa,set_cons_zero->Aqx,set_eq_take_append_cons_drop->Arw,singleton_append->Ap4,tail_cons->AqF,tail_drop->AqV,take->κ,take_append_drop->Ap5,take_length->Aql,take_nil->ArO,take_set_of_le->Asi,take_succ_cons->AqI,take_succ_eq_append_getElem->ApC
open Nat renaming add_assoc->Apz,add_comm->AsX,add_mod->As5,add_mul->ApA,add_mul_div_left->AqZ,add_sub_cancel->AqO,add_zero->ApJ,ble->Apa,blt->ApR,div_add_mod->ArH,div_lt_iff_lt_mul->Ard,eq_zero_or_pos->Aqh,le_refl->φ,lt_succ_self->ArD,min->Ap7,min_eq_left->ApL,mod_eq_of_lt->Ap1,mod_lt->ApI,mul_add->ApW,mul_assoc->Apo,mul_comm->ApD,mul_le_mul_right->Apj,mul_mod->As8,mul_one->AqP,ne_of_gt->As1,one_mul->Aqi,pow_succ->ApU,sub_self->Arf,zero_add->Apy,zero_le->ApM,zero_mul->Aqu
namespace Go.Proofs.YtpncilciembjdaaGreatDoor
noncomputable section
open ABlk renaming mk->Ξ
open AV renaming ls->Δ,sl->ζ,tup->ν,v->Apc
open BO renaming set->ο
open IntKind renaming i64->Φ,u32->ξ,u64->Θ,u8->Asd
open Key renaming fn->θ,lp->γ
open Lib renaming hid->Apb,run_eql_slice_nil->Ar8
open Option.some renaming injEq->δ
open Tryz renaming prog->ψ
open Go.RowKit
theorem NK(a:Addr)(j:Nat):(a.add j).block=a.block:=by unfold Addr.add;split<;>rfl
set_option maxRecDepth 100000 in
set_option maxHeartbeats 4000000 in
theorem LV(w:World)(A:Option Addr)(n c:Nat)(us:List Value)(hn:us.length=n*3)(hc:n<=c)(hA:n≠0->∃ g o,A=some ⟨g,o,none⟩/\∀ j u,us[j]? = some u->w.cell? ⟨g,o+j,none⟩=some u)
  (h1:∀ u∈us,u.oneCell'=true) (hby:n*40<=140737488355328) :
  Calls ψ 135 #[.slice A n c] w λe w'=>∃ v',e=.returned v'/\w'.ownsRow w.heap.size 84 3 v' n us/\Below w.heap.size w w':=by
 obtain⟨i0,hi0,hz0,hz1,hz2⟩:=info_parts (show (Tryz.prog.info? 84).map (λi=>(i.zero,i.size,i.bytes))=some (some (.agg #[.int .i64 0,.bool false,.slice none 0 0]),3,40) by kernel_rfl);have HU:=Apb hn;have HA:=Apb hA;have H1:=Apb h1;clear hn hA h1;have hq:∀(w:World) (a:Option Addr) (n c:Nat),(binOp .eql 22 (.slice a n c) (.slice none 0 0)).run ψ w=.ok (.bool a.isNone) w:=λw a n c=>Ar8 w _ _ a n c 0 0 Tryz.underlying22
 go_enter Tryz.func135,Tryz.ntmps135
 cases A with
 |none=>
  have h0:n=0:=by
   rcases Aqh n with h|h
   .exact h
   .exfalso
    obtain⟨g,o,h2,_⟩:=HA.out (As1 h)
    cases h2
  subst h0
  go_wp2
  go_ret
  have hu:us=[]:=Apr (by rw[HU.out,Aqu]);rw[hu];exact⟨_,rfl,World.ownsRow_nil _ _ _ _,Below.refl _ _⟩
 |some ad=>
  obtain⟨ag,ao,asp⟩:=ad;have hcells:∀ j u,us[j]? = some u->ag<w.heap.size/\w.cell? ((⟨ag,ao,asp⟩:Addr).add j)=some u:=λj u hj=>by
   have hn0:n≠0:=by
    rintro rfl;have hu:us=[]:=Apr (by rw[HU.out,Aqu]);rw[hu]at hj
    cases hj
   obtain⟨g,o,h2,h3⟩:=HA.out hn0
   cases h2
   have h5:=h3 j u hj;exact⟨DC h5,by rw[Iy];exact h5⟩
  have HC:=Apb hcells;clear hcells
  go_wp2_with (at_builtin;refine wpList_append_own_at _ rfl _ _ 22 rfl w.heap.size 84 i0 (.agg #[.int .i64 0,.bool false,.slice none 0 0]) 3 40 Tryz.underlying22 hi0 hz0 hz1 hz2 rfl (by decide) _ 0 [] rfl ?c0 ⟨ag,ao,asp⟩ n c us rfl HU.out ?c1 H1.out ?c3 ?c4 ?c5 ?_)
  case c0=>exact⟨by simp,.inr ⟨w.heap.size,0,#[],rfl,φ _,heap_alloc_new _ _,φ _,ApM _,by simp,by simp⟩⟩
  case c1=>
   intro j u hj;have:=HC.out j u hj;exact((BV w (.cells #[] 84)).cell (p:=(⟨ag,ao,asp⟩:Addr).add j) (by rw[NK];exact this.1)).trans this.2
  case c3=>unfold maxLen;omega
  case c4=>omega
  case c5=>exact(BV w _).size
  intro v' w3 hown hgrow _ _
  try simp only[Apy,Apv]at hown
  have HO:=Apb hown;have HB:=Apb ((BV w (.cells #[] 84)).grown hgrow (BV w _).size (λk hk=>by have hk:some w.heap.size=some k:=hk;cases hk;exact φ _));clear hown hgrow
  go_wp2_with fail
  go_ret
  exact⟨_,rfl,HO.out,HB.out⟩
set_option maxRecDepth 100000 in
set_option maxHeartbeats 4000000 in
theorem Se(w:World)(A:Option Addr)(n c:Nat)(us:List Value)(hn:us.length=n*1)(hc:n<=c)(hA:n≠0->∃ g o,A=some ⟨g,o,none⟩/\∀ j u,us[j]? = some u->w.cell? ⟨g,o+j,none⟩=some u)
  (h1:∀ u∈us,u.oneCell'=true) (hby:n*4<=140737488355328) :
  Calls ψ 236 #[.slice A n c] w λe w'=>∃ v',e=.returned v'/\w'.ownsRow w.heap.size 134 1 v' n us/\Below w.heap.size w w':=by
 obtain⟨i0,hi0,hz0,hz1,hz2⟩:=info_parts (show (Tryz.prog.info? 134).map (λi=>(i.zero,i.size,i.bytes))=some (some (.int .u32 0),1,4) by kernel_rfl);have HU:=Apb hn;have HA:=Apb hA;have H1:=Apb h1;clear hn hA h1;have hq:∀(w:World) (a:Option Addr) (n c:Nat),(binOp .eql 24 (.slice a n c) (.slice none 0 0)).run ψ w=.ok (.bool a.isNone) w:=λw a n c=>Ar8 w _ _ a n c 0 0 Tryz.underlying24
 go_enter Tryz.func236,Tryz.ntmps236
 cases A with
 |none=>
  have h0:n=0:=by
   rcases Aqh n with h|h
   .exact h
   .exfalso
    obtain⟨g,o,h2,_⟩:=HA.out (As1 h)
    cases h2
  subst h0
  go_wp2
  go_ret
  have hu:us=[]:=Apr (by rw[HU.out,Aqu]);rw[hu];exact⟨_,rfl,World.ownsRow_nil _ _ _ _,Below.refl _ _⟩
 |some ad=>
  obtain⟨ag,ao,asp⟩:=ad;have hcells:∀ j u,us[j]? = some u->ag<w.heap.size/\w.cell? ((⟨ag,ao,asp⟩:Addr).add j)=some u:=λj u hj=>by
   have hn0:n≠0:=by
    rintro rfl;have hu:us=[]:=Apr (by rw[HU.out,Aqu]);rw[hu]at hj
    cases hj
   obtain⟨g,o,h2,h3⟩:=HA.out hn0
   cases h2
   have h5:=h3 j u hj;exact⟨DC h5,by rw[Iy];exact h5⟩
  have HC:=Apb hcells;clear hcells
  go_wp2_with (at_builtin;refine wpList_append_own_at _ rfl _ _ 24 rfl w.heap.size 134 i0 (.int .u32 0) 1 4 Tryz.underlying24 hi0 hz0 hz1 hz2 rfl (by decide) _ 0 [] rfl ?c0 ⟨ag,ao,asp⟩ n c us rfl HU.out ?c1 H1.out ?c3 ?c4 ?c5 ?_)
  case c0=>exact⟨by simp,.inr ⟨w.heap.size,0,#[],rfl,φ _,heap_alloc_new _ _,φ _,ApM _,by simp,by simp⟩⟩
  case c1=>
   intro j u hj;have:=HC.out j u hj;exact((BV w (.cells #[] 134)).cell (p:=(⟨ag,ao,asp⟩:Addr).add j) (by rw[NK];exact this.1)).trans this.2
  case c3=>unfold maxLen;omega
  case c4=>omega
  case c5=>exact(BV w _).size
  intro v' w3 hown hgrow _ _
  try simp only[Apy,Apv]at hown
  have HO:=Apb hown;have HB:=Apb ((BV w (.cells #[] 134)).grown hgrow (BV w _).size (λk hk=>by have hk:some w.heap.size=some k:=hk;cases hk;exact φ _));clear hown hgrow
  go_wp2_with fail
  go_ret
  exact⟨_,rfl,HO.out,HB.out⟩
section
variable {μ:Mu} {F:AQ} {w:World} {g:Nat}
theorem Ty:∀(xs:List AV) (o:Nat),RepAt μ F w g xs o->∃ us,RepList μ F w xs us/\∀ j u,us[j]? = some u->w.cell? ⟨g,o+j,none⟩=some u
 |[],o,_=>⟨[],rfl,λj u h=>by simp at h⟩
 |x::r,o,h=>by
  simp only[RepAt]at h;obtain⟨⟨_,u,h2,h3⟩,h4⟩:=h;obtain⟨us,h5,h6⟩:=Ty r (o+1) h4;refine⟨u::us,⟨u,us,rfl,h3,h5⟩,λj v hj=>?_⟩
  cases j with
  |zero=>simp at hj;subst hj;exact h2
  |succ j=>
   have:=h6 j v (by simpa using hj)
   rwa [show o+1+j=o+(j+1) by omega]at this
theorem Om{e:Nat}:∀(xs:List (List AV)) (o:Nat),RepRows μ F w g e xs o->∃ us,RepList μ F w xs.flatten us/\∀ j u,us[j]? = some u->w.cell? ⟨g,o+j,none⟩=some u
 |[],o,_=>⟨[],rfl,λj u h=>by simp at h⟩
 |x::r,o,h=>by
  simp only[RepRows]at h;obtain⟨h1,h2,h3⟩:=h;obtain⟨us,a1,a2⟩:=Ty x o h2;obtain⟨vs,b1,b2⟩:=Om r (o+e) h3;refine⟨us++vs,by rw[AqT];exact RepList.append a1 b1,λj v hj=>?_⟩;have hl:us.length=e:=by rw[a1.length,h1]
  by_cases hj2:j<us.length
  .exact a2 j v (by rwa [List.getElem?_append_left hj2]at hj)
  .rw[Apk (by omega),hl]at hj
   have:=b2 (j-e) v hj
   rwa [show o+e+(j-e)=o+j by omega]at this
end
def Bk(e B:Nat):List AV->Option (Nat × List AV)
 |[.ls xs]=>if(FF e xs&&GI (Hj xs)&&AZ (Hj xs)&&Apa (AF xs*B) 140737488355328)=true then some (AF xs,Hj xs) else none
 |_=>none
theorem HT{P:Program}{f:Nat}{ety:TypeId}(e B:Nat) (h:∀(w:World) (A:Option Addr) (n c:Nat) (us:List Value),us.length=n*e->n<=c->(n≠0->∃ g o,A=some ⟨g,o,none⟩/\∀ j u,us[j]? = some u->w.cell? ⟨g,o+j,none⟩=some u)->
  (∀ u∈us,u.oneCell'=true)->n*B<=140737488355328->Calls P f #[.slice A n c] w λe' w'=>∃ v',e'=.returned v'/\w'.ownsRow w.heap.size ety e v' n us/\Below w.heap.size w w'):AW (Ba P f) (Cg e (Bk e B)):=by
 refine Jt (Dj P f) e _ λargs n cells hr=>?_
 unfold Bk at hr;split at hr
 .rename_i xs
  split at hr
  .rename_i hc
   simp only[Ape,Nat.ble_eq]at hc;obtain⟨⟨⟨c1,c2⟩,c3⟩,c4⟩:=hc;rw[GX]at c1;rw[ID]at c2 c3;rw[FP]at c4;simp only[δ,Prod.mk.injEq]at hr;obtain⟨rfl,rfl⟩:=hr;rw[FP,ID];have hlen:xs.flatten.length=xs.length*e:=by
    clear c2 c3 c4
    induction xs with
    |nil=>simp
    |cons x r ih=>
     rw[List.all_cons,Ape]at c1;rw[AqT,η,ih c1.2,π,ApA,Aqi];have:x.length=e:=by simpa using c1.1
     omega
   refine⟨c3,hlen,λμ F w us hF hus=>?_⟩;obtain⟨v,t,rfl,hv,ht⟩:=hus;have ht:t=[]:=ht;subst ht;unfold Rep at hv;obtain⟨_,A,c,rfl,h2,_,h4⟩:=hv;have key:∃ vs,RepList μ F w xs.flatten vs/\(xs.length≠0->∃ g o,A=some ⟨g,o,none⟩/\∀ j u,vs[j]? = some u->w.cell? ⟨g,o+j,none⟩=some u):=by
    by_cases hx:xs=[]
    .subst hx
     exact⟨[],rfl,λh=>absurd rfl h⟩
    .obtain⟨g,o,e',hA,hr⟩:=h4 hx
     obtain⟨vs,k1,k2⟩:=Om xs o hr;exact⟨vs,k1,λ_=>⟨g,o,hA,k2⟩⟩
   obtain⟨vs,k1,k2⟩:=key;have hone:∀ u∈vs,u.oneCell'=true:=λu hu=>by
    obtain⟨j,hj,rfl⟩:=List.getElem_of_mem hu;have hj2:j<xs.flatten.length:=by rw[←k1.length];exact hj
    obtain⟨u,a1,a2⟩:=k1.get (Ψ hj2);rw[Ψ hj]at a1
    cases a1
    rw[E4]at c2;exact a2.one (List.all_eq_true.1 c2 _ (List.getElem_mem hj2))
   refine Calls.mono (h w A xs.length c vs (by rw[k1.length,hlen]) h2 k2 hone c4) ?_;rintro e' w' ⟨v',rfl,ho,hb⟩;exact⟨v',rfl,ety,vs,ho,hb,k1⟩
  .cases hr
 .cases hr
theorem Fk:AW (Ba ψ 236) (Cg 1 (Bk 1 4)):=HT 1 4 λw A n c us h1 h2 h3 h4 h5=>Se w A n c us h1 h2 h3 h4 h5
theorem HV:AW (Ba ψ 135) (Cg 3 (Bk 3 40)):=HT 3 40 λw A n c us h1 h2 h3 h4 h5=>LV w A n c us h1 h2 h3 h4 h5
theorem CF(x:Nat):Ag.conv .u32 (x:Int)=((x % 4294967296:Nat):Int):=by
 show IntKind.u32.wrap (x:Int)=_
 rw[IntKind.wrap_u32];omega
theorem Bu{x:Nat}(h:x<4294967296):Ag.conv .u32 (x:Int)=(x:Int):=by rw[CF,Ap1 h]
theorem Bj{x:Nat}(h:x<18446744073709551616):Ag.conv .u64 (x:Int)=(x:Int):=by
 show IntKind.u64.wrap (x:Int)=_
 rw[IntKind.wrap_u64];omega
theorem BT{x y:Nat}(h:x+y<18446744073709551616):Ag.add .u64 (x:Int) (y:Int)=((x+y:Nat):Int):=by
 show IntKind.u64.wrap ((x:Int)+(y:Int))=_
 rw[IntKind.wrap_u64];omega
theorem DH{x y:Nat}(h:y<=x)(h2:x<18446744073709551616):Ag.sub .u64 (x:Int) (y:Int)=((x-y:Nat):Int):=by
 show IntKind.u64.wrap ((x:Int)-(y:Int))=_
 rw[IntKind.wrap_u64];omega
theorem IY{x y:Nat}(h:x*y<18446744073709551616):Ag.mul .u64 (x:Int) (y:Int)=((x*y:Nat):Int):=by
 show IntKind.u64.wrap ((x:Int)*(y:Int))=_
 rw[IntKind.wrap_u64,←Aq8];omega
theorem El(x:Nat):Ag.shr .u64 (x:Int) 32=((x / 4294967296:Nat):Int):=by
 show Int.fdiv (x:Int) (2 ^ 32)=_
 have:(2 ^ 32:Int)=((4294967296:Nat):Int):=by decide
 rw[this,ArL _ (by omega)];rfl
theorem Aer(x y:Nat):Ag.add .u32 (x:Int) (y:Int)=(((x+y) % 4294967296:Nat):Int):=by
 show IntKind.u32.wrap ((x:Int)+(y:Int))=_
 rw[IntKind.wrap_u32];omega
theorem K9{i j:Nat}(h:j<=i)(h2:i<4611686018427387904):Ag.sub .i64 (i:Int) (j:Int)=((i-j:Nat):Int):=by
 rw[C4 (by omega) (by omega)];omega
theorem WH{i j:Nat}(h2:i+j<4611686018427387904):Ag.add .i64 (i:Int) (j:Int)=((i+j:Nat):Int):=by
 rw[Ef (by omega) (by omega)];omega
theorem EN(kd:IntKind)(n:Int)(r:List AV)(k:Int->List AV->KR):KY kd (.v (.int kd n)::r) k=k n r:=by simp[KY]
theorem NH(kd:IntKind)(n:Int)(k:Int->KR):HE kd (.v (.int kd n)) k=k n:=by simp[HE]
theorem Qq(n:Nat)(k:Int->List AV->KR)(r:List AV):KY .u32 (.v (.int .u32 (n:Int))::r) k=k n r:=rfl
theorem P1(l:List Nat):FF 1 (l.map eL)=true:=JX AA l
theorem AiP(l:List Nat):GI (Hj (l.map eL))=true:=by rw[EA];exact GJ (λ_=>rfl) l
theorem Aed(l:List Nat):AZ (Hj (l.map eL))=true:=by
 rw[EA]
 induction l with
 |nil=>rfl
 |cons x r ih=>exact ih
theorem KO(l:List Nat)(n:Nat):Hq (Hz (l.map eL) n) 0=(l.take n).map eL:=by
 rw[Nf,L7,χ,ArN]
theorem Gk:∀(a b:List Nat) (c:Nat),(Ji c a b).length=a.length+1
 |[],_,_=>rfl
 |x::a,b,c=>by rw[Ji,π,Gk a,π]
theorem Fl{a b:Nat}(h:(Ah a).length<(Ah b).length):a<b:=by
 by_cases h2:a<b
 .exact h2
 .have h3:Al b=Al b:=rfl
  have h4:0<(Ah b).length:=by omega
  have hb:4294967296 ^ ((Ah b).length-1)<=b:=by
   by_cases h5:4294967296 ^ ((Ah b).length-1)<=b
   .exact h5
   .have:=A1 (n:=b) (k:=(Ah b).length-1) (by omega)
    omega
  have h6:=GD (n:=a) (k:=(Ah b).length-1) (by omega);omega
def BD(l:List Nat):Prop:=l.length<=1000000000
theorem Df{l:List Nat}(h:Limbs l)(h2:BD l):BD (Ah (Ad l)):=by
 unfold BD at *;rw[Cs l h];have:=BZ l;omega
structure CloneF (D:Orc):Prop where
 nat:∀ l:List Nat,BD l->D.ask (.fn 236) [eN l] []=some (.sl 0 0 l.length 1,[.set (Ξ (Ai eL l) true true)])
theorem Jm{l:List Nat}(h:BD l):Cg 1 (Bk 1 4) [eN l] []=some (.sl 0 0 l.length 1,[.set (Ξ (Ai eL l) true true)]):=by
 unfold Cg Bk eN;have h4:Apa (AF (l.map eL)*4) 140737488355328=true:=by
  rw[Aj];unfold BD at h;simp;omega
 simp only[P1,AiP,Aed,h4,Bool.and_true,if_true,Option.map_some];rw[Aj,EA]
section
variable {D:Orc} (K:Knows As Gb D)
include K
theorem AeX(l:List Nat)(hl:BD l):∀(n:Nat),n<=l.length->Cm l<=n->D.ask (.lp 200 0) [eN l,iv (n:Int)] []=some (.tup [iv 0,eN l,iv (Cm l:Int)],[]):=by
 intro n;have hl':=hl;unfold BD at hl'
 induction n with
 |zero=>
  intro _ ht;refine K.lp' QK _ rfl (by kernel_rfl) ((Xm ..).trans ?_);refine Ak (by omega) ?_;rw[show Cm l=0 by omega];rfl
 |succ n ih=>
  intro hn ht;refine K.lp' QK _ rfl (by kernel_rfl) ((Xm ..).trans ?_);refine Aq (by omega) ?_;rw[show Ag.sub .i64 ((n+1:Nat):Int) 1=(n:Int) from (K9 (i:=n+1) (j:=1) (by omega) (by omega)).trans (by simp)];rw[Av,Aw (Ψ (show n<l.length by omega))];simp only[eL,Qq,ND,DK,Ab]
  by_cases h0:l[n]=0
  .refine Bi (by rw[h0];rfl) ?_
   refine Aa (ih (by omega) (JO ht (by rw[Ψ (show n<l.length by omega),h0]))) ?_;rfl
  .refine AK (by omega) ?_
   have:=Lv (Ψ (show n<l.length by omega)) h0;rw[show Cm l=n+1 by omega];rfl
theorem Eo{l:List Nat}(hl:BD l)(h:Limbs l):D.ask (.fn 200) [eN l] []=some (eN (Ah (Ad l)),[]):=by
 refine K.fn' QK _ rfl ((Am3 ..).trans ?_);rw[Aj];refine Aa (AeX K l hl _ (φ _) (BZ l)) ?_;simp only[eN,ND,DK,Ab];rw[Av,Aj,P1,KO,GV h];rw[show IK 0 (Cm l) l.length=true by unfold IK;rw[show Apa 0 (Cm l)=true by simp];simpa using BZ l];rfl
variable (C:CloneF D)
include C
theorem ES{l:List Nat}(hl:BD l)(h:Limbs l):D.ask (.fn 202) [eN l] []=some (eN (Ah (Ad l)),[]):=by
 refine K.fn' Af9 _ rfl ((Am5 ..).trans ?_);refine Aa (Eo K hl h) ?_;simp only[eN,ND,DK,Ab];have g:=C.nat _ (Df h hl);unfold eN at g;refine Aa g ?_;simp only[ND,DK,Ab];rw[AJ AA _ (by omega)];refine Ae ?_;rw[Bp AA _ rfl]
theorem Afo(n:Nat)(h:n<18446744073709551616):D.ask (.fn 184) [.v (.int .u64 (n:Int))] []=some (eN (Ah n),[]):=by
 refine K.fn' Af5 _ rfl ((AmV ..).trans ?_);refine Ak (by decide) ?_;rw[CF,El,CF];have hl:Limbs [n % 4294967296,n / 4294967296 % 4294967296]:=A5 (ApI _ (by omega)) (A5 (ApI _ (by omega)) Bz);have g:=ES K C (l:=[n % 4294967296,n / 4294967296 % 4294967296]) (by unfold BD;simp) hl;rw[show Ad [n % 4294967296,n / 4294967296 % 4294967296]=n by simp only[Ad];omega]at g;refine Aa g ?_;rfl
omit C in
theorem Ag9(a b:List Nat)(ha:Limbs a)(hb:Limbs b)(hab:a.length=b.length)(hs:BD a):∀(n:Nat),n<=a.length->D.ask (.lp 201 0) [eN a,eN b,iv ((n:Int)-1)] []
  = some (if Cx (Ad (a.take n)) (Ad (b.take n))=0 then .tup [iv 1] else .tup [bv true,iv (Cx (Ad (a.take n)) (Ad (b.take n)))],[]):=by
 intro n;unfold BD at hs
 induction n with
 |zero=>
  intro _;refine K.lp' QL _ rfl (by kernel_rfl) ((Xn ..).trans ?_);refine Ca (by omega) ?_;rfl
 |succ n ih=>
  intro hn;refine K.lp' QL _ rfl (by kernel_rfl) ((Xn ..).trans ?_);rw[show (((n+1:Nat):Int)-1)=(n:Int) by omega];refine BW (by omega) ?_;have h1:n<a.length:=by omega
  have h2:n<b.length:=by omega
  have e1:a.take (n+1)=a.take n++[a[n]]:=by rw[ApC h1]
  have e2:b.take (n+1)=b.take n++[b[n]]:=by rw[ApC h2]
  rw[e1,e2,LW (ha.take n) (hb.take n) (by simp;omega)];simp only[Av,Aw (Ψ h1),Aw (Ψ h2),eL,Qq,ND,DK,Ab]
  by_cases h3:a[n]<b[n]
  .refine Aq (by omega) ?_
   rw[if_pos h3];rfl
  .refine Ak (by omega) ?_
   rw[if_neg h3]
   by_cases h4:b[n]<a[n]
   .refine Aq (by omega) ?_
    rw[if_pos h4];rfl
   .refine Ak (by omega) ?_
    rw[if_neg h4];rw[show Ag.sub .i64 (n:Int) 1=(n:Int)-1 from C4 (by omega) (by omega)];refine Aa (ih (by omega)) ?_
    by_cases h5:Cx (Ad (a.take n)) (Ad (b.take n))=0
    .rw[if_pos h5];rfl
    .rw[if_neg h5];rfl
omit C in
theorem R2{a b:List Nat}(hsa:BD a)(ha:Limbs a)(hsb:BD b)(hb:Limbs b):D.ask (.fn 201) [eN a,eN b] []=some (iv (Cx (Ad a) (Ad b)),[]):=by
 have s1:=Df ha hsa;have s2:=Df hb hsb;unfold BD at s1 s2;refine K.fn' QL _ rfl ((Am4 ..).trans ?_);refine Aa (Eo K hsa ha) ?_;simp only[eN,ND,DK,Ab];refine Aa (Eo K hsb hb) ?_;simp only[eN,ND,DK,Ab,Aj];generalize Ad a=x at *;generalize Ad b=y at *
 by_cases h1:(Ah x).length<(Ah y).length
 .refine Aq (by omega) ?_
  have:=Fl h1;unfold Cx;rw[if_pos this]
 .refine Ak (by omega) ?_
  by_cases h2:(Ah y).length<(Ah x).length
  .refine Aq (by omega) ?_
   have:=Fl h2;unfold Cx;rw[if_neg (by omega),if_pos this]
  .refine Ak (by omega) ?_
   have hx:(Ah x).length=(Ah y).length:=by omega
   have g:=Ag9 K (Ah x) (Ah y) (Al x) (Al y) hx s1 (Ah x).length (φ _);rw[Aql,hx,Aql,Ax,Ax]at g;rw[show Ag.sub .i64 ((Ah x).length:Int) 1=((Ah x).length:Int)-1 from C4 (by omega) (by omega),hx];refine Aa g ?_
   by_cases h5:Cx x y=0
   .rw[if_pos h5,h5];rfl
   .rw[if_neg h5];rfl
omit C in
theorem WF(b:List Nat)(hb:Limbs b)(a:List Nat)(ha:Limbs a)(hs:BD a):∀(k i:Nat) (out:List Nat) (c:Nat),a.length-i=k->i<=a.length->b.length<=a.length->c<=1->out.length+k<=2000000000->
  ∃(o:List Nat) (c':Nat),D.ask (.lp 197 0) [eN b,.sl 0 0 out.length 1,.v (.int .u64 (c:Int)),eN a,iv (a.length:Int),iv (i:Int)] [Ξ (Ai eL out) true true]
   = some (.tup [iv 0,.sl 1 0 o.length 1,.v (.int .u64 (c':Int))],[.del,.set (Ξ (Ai eL o) true true)])/\c'<=1/\o++[c']=out++Ji c (a.drop i) (b.drop i):=by
 intro k;unfold BD at hs
 induction k with
 |zero=>
  intro i out c hi hle hba hc ho;refine⟨out,c,?_,hc,?_⟩
  .refine K.lp' QI _ rfl (by kernel_rfl) ((Xk ..).trans ?_)
   refine Ak (by omega) ?_;rfl
  .rw[show a.drop i=[] from υ (by omega)]
   rfl
 |succ k ih=>
  intro i out c hi hle hba hc ho;have hlt:i<a.length:=by omega
  have hx:=ha.get hlt;have hbd:=DB (hb.drop i);have hdt:(b.drop i).tail=b.drop (i+1):=by rw[AqV]
  rw[show a.drop i=a[i]::a.drop (i+1) from ω hlt];obtain⟨o,c',h1,h2,h3⟩:=ih (i+1) (out++[(a[i]+(b.drop i).headD 0+c) % 4294967296]) ((a[i]+(b.drop i).headD 0+c) / 4294967296) (by omega) (by omega) hba (by omega) (by simp;omega);refine⟨o,c',?_,h2,?_⟩
  .refine K.lp' QI _ rfl (by kernel_rfl) ((Xk ..).trans ?_)
   refine Aq (by omega) ?_;rw[Av,Aw (Ψ hlt)];have hf:Be (out.length+1) 4=true:=AL (by omega) (by omega);have hb1:Apa (0+out.length*1) (Ai eL out).length=true:=AJ AA out (by omega);have e3:∀ s:Nat,ι 0 (κ (0+out.length*1) (Ai eL out))++[.v (.int .u32 (s:Int))]=Ai eL (out++[s]):=λs=>by
    rw[χ,Bf AA out (by omega)];exact Bc eL out s
   rw[η,Apm]at h1;simp only[eL,Qq,ND,DK,Ab,Aj];rw[BC (by omega)]
   by_cases hib:i<b.length
   .have hd:(b.drop i).headD 0=b[i]:=by rw[ω hib];rfl
    rw[hd]at h1 hbd;refine Aq (by omega) ?_;rw[Av,Aw (Ψ hib)];simp only[eL,Qq,ND,DK,Ab];rw[Bj (by omega),Bj (by omega),BT (by omega),BT (by omega),CF,El,hf,hb1,e3];rw[show a[i]+c+b[i]=a[i]+b[i]+c by omega];refine Ae ?_;refine Ae ?_;refine Ak (by decide) ?_;refine Aa h1 ?_;rfl
   .have hd:(b.drop i).headD 0=0:=by rw[υ (by omega)];rfl
    rw[hd]at h1;refine Ak (by omega) ?_;rw[Bj (by omega),BT (by omega),CF,El,hf,hb1,e3];rw[show a[i]+c=a[i]+0+c by omega];refine Ae ?_;refine Ae ?_;refine Ak (by decide) ?_;refine Aa h1 ?_;rfl
  .rw[h3,Ji,hdt,Ao9]
   rfl
theorem Ag8{a b:List Nat}(hsa:a.length<=999999999)(ha:Limbs a)(hsb:b.length<=999999999)(hb:Limbs b):D.ask (.fn 197) [eN a,eN b] []=some (eN (Ah (Ad a+Ad b)),[]):=by
 have s1:=Df ha (by unfold BD;omega);have s2:=Df hb (by unfold BD;omega);have t1:(Ah (Ad a)).length<=999999999:=by rw[Cs a ha];have:=BZ a;omega
 have t2:(Ah (Ad b)).length<=999999999:=by rw[Cs b hb];have:=BZ b;omega
 refine K.fn' QI _ rfl ((Am0 ..).trans ?_);refine Aa (Eo K (by unfold BD;omega) ha) ?_;simp only[eN,ND,DK,Ab];refine Aa (Eo K (by unfold BD;omega) hb) ?_;simp only[eN,ND,DK,Ab,Aj];generalize Ad a=x at *;generalize Ad b=y at *
 by_cases h1:(Ah x).length<(Ah y).length
 .refine Aq (by omega) ?_
  have hl:Limbs (Ji 0 (Ah y) (Ah x)):=HI _ _ _ (Al _) (Al _) (by omega);obtain⟨o,c',g,hc,ho⟩:=WF K (Ah x) (Al x) (Ah y) (Al y) s2 (Ah y).length 0 [] 0 (by omega) (by omega) (by omega) (by omega) (by unfold BD at s2;simp;omega);rw[Apv,χ,χ]at ho;have hol:o.length=(Ah y).length:=by
   have:=congrArg Asw ho;rw[η,Gk]at this;simpa using this
  have hsx:=s2;unfold BD at hsx;rw[show Ag.add .i64 ((Ah y).length:Int) 1=(((Ah y).length+1:Nat):Int) from BC (by omega),Av];rw[AL (n:=(Ah y).length+1) (b:=4) (by omega) (by omega)];refine Ae ?_;refine Aa g ?_;simp only[EN,ND,DK,Ab];rw[Bu (by omega)];have e3:ι 0 (κ (0+o.length*1) (Ai eL o))++[.v (.int .u32 (c':Int))]=Ai eL (o++[c']):=by
   rw[χ,Bf AA o (by omega)];exact Bc eL o c'
  rw[AL (n:=o.length+1) (b:=4) (by omega) (by omega),AJ AA o (by omega),e3,AJ AA (o++[c']) (by simp)];refine Ae ?_;refine Ae ?_;refine Ae ?_;rw[χ,Bf AA (o++[c']) (by simp),show Bh (o.length+1) 1 (Ai eL (o++[c']))=(o++[c']).map eL from by have:=Co AA (o++[c']);rwa [η]at this];rw[ho];have gt:=ES K C (l:=Ji 0 (Ah y) (Ah x)) (by unfold BD;rw[Gk];omega) hl;rw[JS _ _ _ (by omega),Ax,Ax]at gt;refine Aa gt ?_;rw[show 0+y+x=x+y by omega];rfl
 .refine Ak (by omega) ?_
  have hl:Limbs (Ji 0 (Ah x) (Ah y)):=HI _ _ _ (Al _) (Al _) (by omega);obtain⟨o,c',g,hc,ho⟩:=WF K (Ah y) (Al y) (Ah x) (Al x) s1 (Ah x).length 0 [] 0 (by omega) (by omega) (by omega) (by omega) (by unfold BD at s1;simp;omega);rw[Apv,χ,χ]at ho;have hol:o.length=(Ah x).length:=by
   have:=congrArg Asw ho;rw[η,Gk]at this;simpa using this
  have hsx:=s1;unfold BD at hsx;rw[show Ag.add .i64 ((Ah x).length:Int) 1=(((Ah x).length+1:Nat):Int) from BC (by omega),Av];rw[AL (n:=(Ah x).length+1) (b:=4) (by omega) (by omega)];refine Ae ?_;refine Aa g ?_;simp only[EN,ND,DK,Ab];rw[Bu (by omega)];have e3:ι 0 (κ (0+o.length*1) (Ai eL o))++[.v (.int .u32 (c':Int))]=Ai eL (o++[c']):=by
   rw[χ,Bf AA o (by omega)];exact Bc eL o c'
  rw[AL (n:=o.length+1) (b:=4) (by omega) (by omega),AJ AA o (by omega),e3,AJ AA (o++[c']) (by simp)];refine Ae ?_;refine Ae ?_;refine Ae ?_;rw[χ,Bf AA (o++[c']) (by simp),show Bh (o.length+1) 1 (Ai eL (o++[c']))=(o++[c']).map eL from by have:=Co AA (o++[c']);rwa [η]at this];rw[ho];have gt:=ES K C (l:=Ji 0 (Ah x) (Ah y)) (by unfold BD;rw[Gk];omega) hl;rw[JS _ _ _ (by omega),Ax,Ax]at gt;refine Aa gt ?_;rw[show 0+x+y=x+y by omega];rfl
omit C in
theorem Ahf(b:List Nat)(hb:Limbs b)(a:List Nat)(ha:Limbs a)(hs:BD a):∀(k i:Nat) (out:List Nat) (c:Nat),a.length-i=k->i<=a.length->c<=1->out.length+k<=2000000000->
  D.ask (.lp 198 0) [eN b,.sl 0 0 out.length 1,.v (.int .u64 (c:Int)),eN a,iv (a.length:Int),iv (i:Int)] [Ξ (Ai eL out) true true]
   = some (.tup [iv 0,.sl 1 0 (out++FV c (a.drop i) (b.drop i)).length 1],[.del,.set (Ξ (Ai eL (out++FV c (a.drop i) (b.drop i))) true true)]):=by
 intro k;unfold BD at hs
 induction k with
 |zero=>
  intro i out c hi hle hc ho;refine K.lp' QJ _ rfl (by kernel_rfl) ((Xl ..).trans ?_);refine Ak (by omega) ?_;rw[show a.drop i=[] from υ (by omega)];simp only[FV,ApQ]
  all_goals rfl
 |succ k ih=>
  intro i out c hi hle hc ho;have hlt:i<a.length:=by omega
  have hx:=ha.get hlt;have hbd:=DB (hb.drop i);have hdt:(b.drop i).tail=b.drop (i+1):=by rw[AqV]
  rw[show a.drop i=a[i]::a.drop (i+1) from ω hlt,FV,hdt];have h1:=ih (i+1) (out++[if a[i]<(b.drop i).headD 0+c then a[i]+4294967296-((b.drop i).headD 0+c) else a[i]-((b.drop i).headD 0+c)]) (if a[i]<(b.drop i).headD 0+c then 1 else 0) (by omega) (by omega) (by split<;>omega) (by simp;omega);rw[Ao9,η,Apm]at h1;refine K.lp' QJ _ rfl (by kernel_rfl) ((Xl ..).trans ?_);refine Aq (by omega) ?_;rw[Av,Aw (Ψ hlt)];have hf:Be (out.length+1) 4=true:=AL (by omega) (by omega);have hb1:Apa (0+out.length*1) (Ai eL out).length=true:=AJ AA out (by omega);have e3:∀ s:Nat,ι 0 (κ (0+out.length*1) (Ai eL out))++[.v (.int .u32 (s:Int))]=Ai eL (out++[s]):=λs=>by
   rw[χ,Bf AA out (by omega)];exact Bc eL out s
  simp only[eL,Qq,ND,DK,Ab,Aj];rw[BC (by omega)]
  by_cases hib:i<b.length
  .have hd:(b.drop i).headD 0=b[i]:=by rw[ω hib];rfl
   rw[hd]at h1 hbd;rw[hd];refine Aq (by omega) ?_;rw[Av,Aw (Ψ hib)];simp only[eL,Qq,ND,DK,Ab];rw[Bj (show a[i]<_ by omega),Bj (show b[i]<_ by omega),BT (by omega)]
   by_cases hlt2:a[i]<b[i]+c
   .refine Aq (by omega) ?_
    rw[if_pos hlt2,if_pos hlt2]at h1;rw[if_pos hlt2,if_pos hlt2];rw[show (4294967296:Int)=((4294967296:Nat):Int) from rfl,BT (by omega),show c+b[i]=b[i]+c by omega,DH (by omega) (by omega),Bu (by omega),hf,hb1,e3];refine Ae ?_;refine Ae ?_;refine Aa h1 ?_;rfl
   .refine Ak (by omega) ?_
    rw[if_neg hlt2,if_neg hlt2]at h1;rw[if_neg hlt2,if_neg hlt2];rw[show c+b[i]=b[i]+c by omega,DH (by omega) (by omega),Bu (by omega),hf,hb1,e3];refine Ae ?_;refine Ae ?_;refine Aa h1 ?_;rfl
  .have hd:(b.drop i).headD 0=0:=by rw[υ (by omega)];rfl
   rw[hd]at h1;rw[hd];refine Ak (by omega) ?_;rw[Bj (show a[i]<_ by omega)];rw[Apy]at h1;simp only[show (0:Nat)+c=c by omega]
   by_cases hlt2:a[i]<c
   .refine Aq (by omega) ?_
    rw[if_pos hlt2,if_pos hlt2]at h1;rw[if_pos hlt2,if_pos hlt2];rw[show (4294967296:Int)=((4294967296:Nat):Int) from rfl,BT (by omega),DH (by omega) (by omega),Bu (by omega),hf,hb1,e3];refine Ae ?_;refine Ae ?_;refine Aa h1 ?_;rfl
   .refine Ak (by omega) ?_
    rw[if_neg hlt2,if_neg hlt2]at h1;rw[if_neg hlt2,if_neg hlt2];rw[DH (by omega) (by omega),Bu (by omega),hf,hb1,e3];refine Ae ?_;refine Ae ?_;refine Aa h1 ?_;rfl
def J5(x y:Nat):AV:=if y<=x then .tup [eN (Ah (x-y)),bv true] else .tup [eN [],bv false]
theorem WG{a b:List Nat}(hsa:BD a)(ha:Limbs a)(hsb:BD b)(hb:Limbs b):D.ask (.fn 198) [eN a,eN b] []=some (J5 (Ad a) (Ad b),[]):=by
 have s1:=Df ha hsa;have s2:=Df hb hsb;refine K.fn' QJ _ rfl ((Am1 ..).trans ?_);refine Aa (Eo K hsa ha) ?_;simp only[eN,ND,DK,Ab];refine Aa (Eo K hsb hb) ?_;simp only[eN,ND,DK,Ab,Aj];have gc:=R2 K s1 (Al _) s2 (Al _);rw[Ax,Ax]at gc;refine Aa gc ?_;simp only[ND,DK,Ab];generalize Ad a=x at *;generalize Ad b=y at *;unfold J5;unfold BD at s1 s2
 by_cases h1:x<y
 .rw[show Cx x y=-1 by unfold Cx;rw[if_pos h1]]
  refine Aq (by decide) ?_;rw[if_neg (by omega)];rfl
 .refine Ak (by unfold Cx;rw[if_neg h1];split<;>omega) ?_
  rw[if_pos (by omega)];have hle:(Ah y).length<=(Ah x).length:=by
   by_cases h:(Ah x).length<(Ah y).length
   .have:=Fl h;omega
   .omega
  rw[AL (n:=(Ah x).length) (b:=4) (by omega) (by omega)];refine Ae ?_;have g:=Ahf K (Ah y) (Al y) (Ah x) (Al x) s1 (Ah x).length 0 [] 0 (by omega) (by omega) (by omega) (by simp;omega);refine Aa g ?_;simp only[ND,DK,Ab,χ,Apv];rw[AJ AA _ (by omega)];refine Ae ?_;rw[Bp AA _ rfl];have gt:=ES K C (l:=FV 0 (Ah x) (Ah y)) (by unfold BD;rw[Ja];exact s1) (FW _ _ _ (Al _) (Al _) (by omega));rw[RU (Al _) (Al _) hle (by rw[Ax,Ax];omega),Ax,Ax]at gt;refine Aa gt ?_;rfl
end
theorem YX{x c r:Nat}(hc:c<2 ^ r)(hx:x*2 ^ r+c<18446744073709551616):Ag.bits .or .u64 ((x*2 ^ r:Nat):Int) (c:Int)=((x*2 ^ r+c:Nat):Int):=by
 show IntKind.u64.wrap ((BitVec.ofInt 64 ((x*2 ^ r:Nat):Int) ||| BitVec.ofInt 64 (c:Int)).toNat:Int)=_
 have e:x*2 ^ r ||| c=x*2 ^ r+c:=by
  rw[ApD];exact(Nat.two_pow_add_eq_or_of_lt hc x).symm
 rw[BitVec.ofInt_natCast,BitVec.ofInt_natCast,BitVec.toNat_or,BitVec.toNat_ofNat,BitVec.toNat_ofNat,Ap1 (show x*2 ^ r<2 ^ 64 by omega),Ap1 (show c<2 ^ 64 by omega),e,IntKind.wrap_u64];omega
theorem Ux{x:Nat}(hx:x<18446744073709551616):Ag.bits .and .u64 (x:Int) 4294967295=((x % 4294967296:Nat):Int):=by
 show IntKind.u64.wrap ((BitVec.ofInt 64 (x:Int) &&& BitVec.ofInt 64 4294967295).toNat:Int)=_
 have e:x &&& 4294967295=x % 4294967296:=Nat.and_two_pow_sub_one_eq_mod x 32;rw[BitVec.ofInt_natCast,show BitVec.ofInt 64 4294967295=BitVec.ofNat 64 4294967295 from rfl,BitVec.toNat_and,BitVec.toNat_ofNat,BitVec.toNat_ofNat,Ap1 (show x<2 ^ 64 by omega),show 4294967295 % 2 ^ 64=4294967295 from rfl,e,IntKind.wrap_u64];omega
theorem Uy{x r:Nat}(hr:r<=64)(hx:x*2 ^ r<18446744073709551616):Ag.shl .u64 (x:Int) (r:Int)=((x*2 ^ r:Nat):Int):=by
 show IntKind.u64.wrap ((x:Int)*2 ^ (Ap7 (r:Int).toNat 64))=_
 rw[Asp,show Ap7 r 64=r from ApL hr,show ((x:Int)*2 ^ r)=((x*2 ^ r:Nat):Int) by rw[Aq8,AsC];rfl,IntKind.wrap_u64];omega
theorem IZ{x:Nat}(hx:x<4294967296):Ag.shl .u64 (x:Int) 32=((x*4294967296:Nat):Int):=Uy (r:=32) (by omega) (by show x*4294967296<_;omega)
theorem MT{x c:Nat}(hc:c<4294967296)(hx:x<4294967296):Ag.bits .or .u64 ((x*4294967296:Nat):Int) (c:Int)=((x*4294967296+c:Nat):Int):=YX (r:=32) hc (by show x*4294967296+c<_;omega)
theorem YY{s:Nat}(h:s<=31):Ag.quo .i64 (s:Int) 32=((0:Nat):Int):=by
 show IntKind.i64.wrap (Arj (s:Int) ((32:Nat):Int))=_
 rw[show Arj (s:Int) ((32:Nat):Int)=((s / 32:Nat):Int) from rfl,Nat.div_eq_of_lt (by omega)];rfl
theorem Y1{s:Nat}(h:s<=31):Ag.rem .i64 (s:Int) 32=(s:Int):=by
 show Int.tmod (s:Int) ((32:Nat):Int)=_
 rw[show Int.tmod (s:Int) ((32:Nat):Int)=((s % 32:Nat):Int) from rfl,Ap1 (by omega)]
theorem AiU(s:Nat):Ag.max (s:Int) 0=(s:Int):=by
 show (if(s:Int)<0 then(0:Int) else(s:Int))=_
 rw[if_neg (by omega)]
theorem MS{s:Nat}(h:s<=31):0<2 ^ s/\2 ^ s<=2147483648/\2 ^ s*2 ^ (32-s)=4294967296:=by
 refine⟨Nat.two_pow_pos s,Nat.pow_le_pow_right (n:=2) (by omega) h,?_⟩;rw[←Nat.pow_add,show s+(32-s)=32 by omega]
theorem PI{k:IntKind}{x r:Nat}(hr:r<=k.bits):Ag.shr k (x:Int) (r:Int)=((x / 2 ^ r:Nat):Int):=by
 show Int.fdiv (x:Int) (2 ^ (Ap7 (r:Int).toNat k.bits))=_
 rw[Asp,show Ap7 r k.bits=r from ApL hr,show (2 ^ r:Int)=((2 ^ r:Nat):Int) by rw[AsC];rfl,ArL _ (Int.natCast_nonneg _)];rfl
theorem Y0{x y:Nat}(hx:x<18446744073709551616):Ag.quo .u64 (x:Int) (y:Int)=((x / y:Nat):Int):=by
 show IntKind.u64.wrap (Arj (x:Int) (y:Int))=_
 have:=Nat.div_le_self x y;rw[show Arj (x:Int) (y:Int)=((x / y:Nat):Int) from rfl];generalize x / y=q at *;rw[IntKind.wrap_u64];omega
theorem Y3(x y:Nat):Ag.rem .u64 (x:Int) (y:Int)=((x % y:Nat):Int):=by
 rfl
theorem AiV{x y:Nat}(hy:y<=4294967296)(hx:x<4294967296):Ag.conv .u32 (Ag.sub .u64 (x:Int) (y:Int))=(((x+4294967296-y) % 4294967296:Nat):Int):=by
 show IntKind.u32.wrap (IntKind.u64.wrap ((x:Int)-(y:Int)))=_
 rw[IntKind.wrap_u64,IntKind.wrap_u32];omega
theorem M9(m:Nat):∀(a:List Nat) (c:Nat),(Dk m c a).length=a.length+1
 |[],_=>rfl
 |x::a,c=>by rw[Dk,π,M9 m a,π]
def HW(b:Nat):List Nat->List Nat
 |[]=>[]
 |x::r=>((Ad r % b)*4294967296+x) / b::HW b r
theorem Gr(b:Nat):∀ l,(HW b l).length=l.length
 |[]=>rfl
 |x::r=>by rw[HW,π,Gr b r,π]
theorem TF{b s x:Nat}(hs:s<b)(hx:x<4294967296):(s*4294967296+x) / b<4294967296:=by
 rw[Ard (by omega)];have:(s+1)*4294967296<=b*4294967296:=Apj _ hs;rw[ApD 4294967296 b];omega
theorem L6{b:Nat}(hb:0<b):∀ l,Limbs l->Limbs (HW b l)
 |[],_=>Bz
 |x::r,h=>A5 (TF (ApI _ hb) h.cons.1) (L6 hb r h.cons.2)
theorem VP(b x:Nat)(r:List Nat):((Ad r % b)*4294967296+x) % b=Ad (x::r) % b:=by
 rw[Ad,As5,As8,Nat.mod_mod,←As8,←As5,ApD,AsX]
theorem OF{b:Nat}(hb:0<b):∀ l,Ad (HW b l)=Ad l / b
 |[]=>by simp[HW,Ad]
 |x::r=>by
  rw[HW,Ad,Ad,OF hb r];have h1:=ArH (Ad r) b;generalize Ad r / b=q at h1 ⊢;generalize Ad r % b=s at h1 ⊢;rw[←h1];have e:x+4294967296*(b*q+s)=(s*4294967296+x)+b*(4294967296*q):=by
   rw[ApW,←Apo,←Apo,ApD b 4294967296];omega
  rw[e,AqZ _ _ hb]
def EI(P:Nat):List Nat->List Nat
 |[]=>[]
 |x::r=>((r.headD 0*4294967296+x) / P) % 4294967296::EI P r
theorem M0(P:Nat):∀ l,(EI P l).length=l.length
 |[]=>rfl
 |x::r=>by rw[EI,π,M0 P r,π]
theorem I5(P:Nat):∀ l,Limbs (EI P l)
 |[]=>Bz
 |x::r=>A5 (ApI _ (by omega)) (I5 P r)
theorem Td{P Q h k x V:Nat}(hP:0<P)(hPQ:P*Q=4294967296)(hx:x<4294967296)(hV:V=h+4294967296*k):(h*4294967296+x) / P % 4294967296+4294967296*(V / P)=(x+4294967296*V) / P:=by
 have e1:(h*4294967296+x) / P=h*Q+x / P:=by
  rw[←hPQ,show h*(P*Q)+x=x+P*(h*Q) by rw[←Apo,ApD h P,Apo];omega,AqZ _ _ hP,AsX]
 have e2:(x+4294967296*V) / P=x / P+Q*V:=by
  rw[←hPQ,show x+P*Q*V=x+P*(Q*V) by rw[Apo],AqZ _ _ hP]
 have hxP:x / P<Q:=by
  rw[Ard hP,ApD,hPQ];exact hx
 have h1:=ArH V P;have h2:=ApI V hP;have e3:Q*V=4294967296*(V / P)+Q*(V % P):=by
  rw[←hPQ];have:Q*V=Q*(P*(V / P)+V % P):=by rw[h1]
  rw[this,ApW,←Apo,ApD Q P]
 have e4:(h*Q+x / P) % 4294967296=Q*(V % P)+x / P:=by
  have e5:h*Q+4294967296*(k*Q)=4294967296*(V / P)+Q*(V % P):=by
   rw[←e3,hV,ApW,ApD h Q,←Apo,←Apo,ApD Q 4294967296,Apo,Apo,ApD Q k]
  have hb:Q*(V % P)+x / P<4294967296:=by
   have:Q*(V % P+1)<=Q*P:=Nat.mul_le_mul_left _ h2;rw[ApW,AqP,ApD Q P,hPQ]at this;omega
  have e6:h*Q+x / P+4294967296*(k*Q)=(Q*(V % P)+x / P)+4294967296*(V / P):=by omega
  have e7:=congrArg (· % 4294967296) e6;simp only[Nat.add_mul_mod_self_left]at e7;rw[e7,Ap1 hb]
 rw[e1,e2,e3,e4];omega
theorem KU{P Q:Nat}(hP:0<P)(hPQ:P*Q=4294967296):∀ l,Limbs l->Ad (EI P l)=Ad l / P
 |[],_=>by simp[EI,Ad]
 |x::r,h=>by
  rw[EI,Ad,Ad,KU hP hPQ r h.cons.2];exact Td hP hPQ h.cons.1 (F5 r)
def eC(n:Nat):AV:=.v (.int .u32 (n:Int))
theorem DM:∀ l:List Nat,Ai eL l=l.map eC
 |[]=>rfl
 |x::r=>by
  have ih:=DM r;unfold Ai at ih ⊢;rw[List.flatMap_cons,ih];rfl
theorem CJ(l:List Nat)(i v:Nat)(h:i<l.length):AG (Ai eL l) (0+i*1) [.v (.int .u32 (v:Int))]=Ai eL (l.set i v):=by
 rw[DM,DM,Arw,if_pos h];unfold AG;simp only[Apy,AqP,List.map_append,List.map_cons,ArN,List.map_drop,Apm];rw[Ao9];rfl
theorem GN(l:List Nat)(i:Nat)(h:i<l.length)(k:List AV->KR):EQ (Ai eL l) (0+i*1) 1 k=k [.v (.int .u32 (l[i]:Int))]:=by
 have hx:(Ai eL l)[i]? = some (.v (.int .u32 (l[i]:Int))):=by
  rw[DM,List.getElem?_map,Ψ h];rfl
 obtain⟨hl,hx⟩:=List.getElem?_eq_some_iff.1 hx;unfold EQ;have:Apa (0+i*1+1) (Ai eL l).length=true:=by simp;omega
 rw[this];simp only[Apy,AqP];rw[ω hl,hx];rfl
theorem G0(n:Nat):BM [.v (.int .u32 0)] (n*1)=Ai eL (Aqj n 0):=by
 rw[DM,AqP];unfold BM;rw[List.map_replicate];refine List.ext_getElem (by simp) λi h1 h2=>?_
 simp[Nat.mod_one,eC]
theorem Oc:∀(x:Nat) (b o:List Nat) (c:Nat),(MJ x c b o).drop (b.length+1)=o.drop (b.length+1)
 |x,[],o,c=>by
  rw[MJ]
  cases o<;>simp
 |x,y::b,o,c=>by
  rw[MJ,π,List.drop_succ_cons,Oc x b o.tail]
  cases o with
  |nil=>simp
  |cons z o=>rfl
def Gj(j:Nat)(l:List Nat):Prop:=∀ y∈l.drop j,y=0
theorem Wy{j:Nat}{l:List Nat}(h:Gj j l):(l.drop j).headD 0=0:=by
 unfold Gj at h
 cases e:l.drop j with
 |nil=>rfl
 |cons z r=>
  rw[e]at h;exact h z (List.mem_cons_self ..)
theorem BB{a b:Nat}(h:a<b):ApR a b=true:=by simpa using h
section
variable {D:Orc} (K:Knows As Gb D)
include K
theorem VW(a b:List Nat)(hb:Limbs b)(i:Nat)(hi:i<a.length)(hsz:a.length+b.length<=1000000000)(x:Nat)(hx:x<4294967296):∀(m k:Nat) (out:List Nat) (c:Nat),b.length-k=m->k<=b.length->Limbs out->c<4294967296->out.length=a.length+b.length->
  ∃(o:List Nat) (c':Nat),D.ask (.lp 243 1) [eN b,.sl 0 0 out.length 1,iv (i:Int),.v (.int .u32 (x:Int)),.v (.int .u64 (c:Int)),eN a,iv (a.length:Int),iv (i:Int),eN b,iv (b.length:Int),iv (k:Int)] [Ξ (Ai eL out) true true]
   = some (.tup [iv 2,eN b,.sl 1 0 out.length 1,iv (i:Int),.v (.int .u64 (c':Int)),eN a,iv (a.length:Int),iv (i:Int)],[.del,.set (Ξ (Ai eL o) true true)])
   ∧ c'<4294967296/\Limbs o/\o.length=out.length/\o.set (i+b.length) c'=out.take (i+k)++MJ x c (b.drop k) (out.drop (i+k)):=by
 intro m
 induction m with
 |zero=>
  intro k out c hm hk ho hc hlen;obtain rfl:k=b.length:=by omega
  refine⟨out,c,?_,hc,ho,rfl,?_⟩
  .refine K.lp' Kg _ rfl (by kernel_rfl) ((Xy ..).trans ?_)
   refine Ak (by omega) ?_;rfl
  .rw[Aq4,MJ,Arw,if_pos (by omega),AqV]
 |succ m ih=>
  intro k out c hm hk ho hc hlen;have hlt:k<b.length:=by omega
  have hik:i+k<out.length:=by omega
  have hy:=hb.get hlt;have hz:=ho.get hik;have hp:=Ih hx hy;have hd:(out.drop (i+k)).headD 0=out[i+k]:=by rw[ω hik];rfl
  obtain⟨o,c',h1,h2,h3,h4,h5⟩:=ih (k+1) (out.set (i+k) ((x*b[k]+out[i+k]+c) % 4294967296)) ((x*b[k]+out[i+k]+c) / 4294967296) (by omega) (by omega)
   (λz hz'=>by
    rcases ArS hz' with h|h
    .exact ho z h
    .rw[h];exact ApI _ (by omega)) (by omega) (by rw[Apl];exact hlen)
  rw[Apl]at h1 h4;refine⟨o,c',?_,h2,h3,h4,?_⟩
  .refine K.lp' Kg _ rfl (by kernel_rfl) ((Xy ..).trans ?_)
   refine Aq (by omega) ?_;rw[Av,Aw (Ψ hlt)];simp only[eL,EN,ND,DK,Ab];rw[WH (by omega),Av,BB hik];refine Ae ?_;refine(GN out _ hik _).trans ?_;simp only[EN,ND,DK,Ab];rw[Av,BB hik];refine Ae ?_;rw[show Apa (0+(i+k)*1+1) (Ai eL out).length=true by rw[AT AA];simp;omega];refine Ae ?_;refine Ak (by decide) ?_;rw[Bj (show x<_ by omega),Bj (show b[k]<_ by omega),Bj (show out[i+k]<_ by omega),IY (by omega),BT (by omega),BT (by omega),CF,El,CJ _ _ _ hik,BC (by omega)];refine Aa h1 ?_;rfl
  .rw[h5,ω hlt,MJ,hd]
   have e1:κ (i+(k+1)) (out.set (i+k) ((x*b[k]+out[i+k]+c) % 4294967296))=out.take (i+k)++[(x*b[k]+out[i+k]+c) % 4294967296]:=by
    rw[show i+(k+1)=i+k+1 by omega,ApC (by rw[Apl];exact hik),ArE,Asi (φ _)]
   have e2:ι (i+(k+1)) (out.set (i+k) ((x*b[k]+out[i+k]+c) % 4294967296))=(out.drop (i+k)).tail:=by
    rw[Aqd (by omega),AqV];rfl
   rw[e1,e2,Ao9];rfl
theorem VX(a b:List Nat)(ha:Limbs a)(hb:Limbs b)(hsz:a.length+b.length<=1000000000):∀(m i:Nat) (out:List Nat),a.length-i=m->i<=a.length->Limbs out->out.length=a.length+b.length->Gj (i+b.length) out->
  ∃ o:List Nat,D.ask (.lp 243 0) [eN b,.sl 0 0 out.length 1,eN a,iv (a.length:Int),iv (i:Int)] [Ξ (Ai eL out) true true]=some (.tup [iv 0,.sl 1 0 o.length 1],[.del,.set (Ξ (Ai eL o) true true)])
   ∧ Limbs o/\o.length=out.length/\Ad o=Ad out+4294967296 ^ i*Ad (a.drop i)*Ad b:=by
 intro m
 induction m with
 |zero=>
  intro i out hm hi ho hlen hz;refine⟨out,?_,ho,rfl,?_⟩
  .refine K.lp' Kg _ rfl (by kernel_rfl) ((Xx ..).trans ?_)
   refine Ak (by omega) ?_;rfl
  .rw[show a.drop i=[] from υ (by omega)]
   simp[Ad]
 |succ m ih=>
  intro i out hm hi ho hlen hz;have hlt:i<a.length:=by omega
  have hx:=ha.get hlt;obtain⟨o,c',g1,g2,g3,g4,g5⟩:=VW K a b hb i hlt hsz a[i] hx b.length 0 out 0 (by omega) (by omega) ho (by omega) hlen;rw[ApJ,χ]at g5;have hdl:(out.drop i).length=a.length+b.length-i:=by rw[AqA];omega
  have hlm:Limbs (o.set (i+b.length) c'):=by
   rw[g5];exact Cr (ho.take i) (MK _ _ _ _ hx hb (ho.drop i) (by omega))
  have hhead:((out.drop i).drop b.length).headD 0=0:=by
   rw[Aq3];exact Wy hz
  have hv:Ad (o.set (i+b.length) c')=Ad out+4294967296 ^ i*(a[i]*Ad b):=by
   rw[g5,Bw,OG _ _ _ _ hhead];have e:Ad out=Ad (out.take i)+4294967296 ^ i*Ad (out.drop i):=by
    have:=Bw (out.take i) (out.drop i);rw[Ap5,Apg,ApL (by omega)]at this;exact this
   rw[e,Apg,ApL (by omega),ApJ,ApW];omega
  have hz2:Gj (i+1+b.length) (o.set (i+b.length) c'):=by
   unfold Gj;rw[g5,List.drop_append,υ (by rw[Apg];omega),Apv,Apg,ApL (by omega),show i+1+b.length-i=b.length+1 by omega,Oc,Aq3];intro y hy;exact hz y (by
    have:ι (i+(b.length+1)) out=ι 1 (ι (i+b.length) out):=by rw[Aq3];rfl
    rw[this]at hy;exact Aqr hy)
  obtain⟨o2,k1,k2,k3,k4⟩:=ih (i+1) (o.set (i+b.length) c') (by omega) (by omega) hlm (by rw[Apl,g4,hlen]) hz2;rw[Apl,g4]at k1 k3;refine⟨o2,?_,k2,k3,?_⟩
  .refine K.lp' Kg _ rfl (by kernel_rfl) ((Xx ..).trans ?_)
   refine Aq (by omega) ?_;rw[Av,Aw (Ψ hlt)];simp only[eL,EN,Aj,ND,DK,Ab];refine Aa g1 ?_;simp only[eN,EN,Aj,ND,DK,Ab];rw[WH (by omega),Av,BB (by omega)];refine Ae ?_;rw[show Apa (0+(i+b.length)*1+1) (Ai eL o).length=true by rw[AT AA];simp;omega];refine Ae ?_;rw[Bu g2,CJ _ _ _ (by omega),BC (by omega)];refine Aa k1 ?_;rfl
  .rw[k4,hv,ω hlt,Ad,ApU]
   have e1:4294967296 ^ i*(a[i]+4294967296*Ad (ι (i+1) a))*Ad b=4294967296 ^ i*(a[i]*Ad b)+4294967296 ^ i*4294967296*Ad (ι (i+1) a)*Ad b:=by
    rw[ApW,ApA,Apo _ a[i],Apo (4294967296 ^ i) 4294967296]
   rw[e1];omega
variable (C:CloneF D)
include C
theorem VY{a b:List Nat}(ha:Limbs a)(hb:Limbs b)(hsz:a.length+b.length<=1000000000):D.ask (.fn 243) [eN a,eN b] []=some (eN (Ah (Ad a*Ad b)),[]):=by
 obtain⟨o,k1,k2,k3,k4⟩:=VX K a b ha hb hsz a.length 0 (Aqj (a.length+b.length) 0) (by omega) (by omega) (λx hx=>by rw[(Asl.1 hx).2];omega) (by simp) (λy hy=>(Asl.1 (Aqr hy)).2);rw[Arb]at k1 k3;have hz:∀ n,Ad (Aqj n 0)=0:=λn=>by
  induction n with
  |zero=>rfl
  |succ n ih=>rw[List.replicate_succ,Ad,ih]
 rw[hz,χ,Nat.pow_zero,Aqi,Apy]at k4;refine K.fn' Kg _ rfl ((Anh ..).trans ?_);rw[Aj,Aj,WH (by omega)];simp only[Av];rw[show Apa (a.length+b.length) (a.length+b.length)=true by simp,AL (n:=a.length+b.length) (b:=4) (by omega) (by omega),G0];refine Ae ?_;refine Ae ?_;refine Aa k1 ?_;simp only[ND,DK,Ab];rw[AJ AA _ (by omega)];refine Ae ?_;rw[Bp AA _ rfl];have gt:=ES K C (l:=o) (by unfold BD;omega) k2;rw[k4]at gt;refine Aa gt ?_;rfl
theorem Ahd{a b:List Nat}(hsa:a.length<=400000000)(ha:Limbs a)(hsb:b.length<=400000000)(hb:Limbs b)(h24:a.length<24\/b.length<24):D.ask (.fn 212) [eN a,eN b] []=some (eN (Ah (Ad a*Ad b)),[]):=by
 have t1:(Ah (Ad a)).length<=a.length:=by rw[Cs a ha];exact BZ a
 have t2:(Ah (Ad b)).length<=b.length:=by rw[Cs b hb];exact BZ b
 refine K.fn' Agb _ rfl ((Anc ..).trans ?_);refine Aa (Eo K (by unfold BD;omega) ha) ?_;simp only[eN,ND,DK,Ab];refine Aa (Eo K (by unfold BD;omega) hb) ?_;simp only[eN,ND,DK,Ab,Aj];have g:=VY K C (Al (Ad a)) (Al (Ad b)) (by omega);rw[Ax,Ax]at g
 by_cases h1:(Ah (Ad a)).length<24
 .refine Aq (by omega) ?_
  refine Aa g ?_;rfl
 .refine Ak (by omega) ?_
  refine Aq (by omega) ?_;refine Aa g ?_;rfl
end
section
open Go.RowKit
def C6:List (Nat × Nat):=[(239,0),(240,0),(241,0)]
def AhO:AB:=[⟨21,[true,false,false,true],[],[],[(1,([true,false,false,true],([],[])))]⟩]
def Pp:MFn:=AS AhO 200
def Mn:Hnt:=⟨[],[(0,[(1,([.ls,.int .i64],[]))])],[(12,[.int .u32]),(13,[.int .u32])]⟩
def YA:MFn:=P6 ψ Bb [] true false 202
def X3:Hnt:=⟨[(200,(.ls,[])),(236,(.sl 0 1,[.row true]))],[],[]⟩
def Yz:MFn:=AS [] 184
def X1:Hnt:=⟨[(202,(.sl 0 1,[.row true]))],[],[]⟩
def AhP:AB:=[⟨49,[true,true,false,false,false,true],[],[],[(0,([false,false,false,false,true],([],[]))),(2,([],([],[])))]⟩]
def Pq:MFn:=AS AhP 201
def Mo:Hnt:=⟨[(200,(.ls,[]))],[(0,[(0,([.int .i64],[])),(2,([],[]))])],[(32,[.int .u32]),(33,[.int .u32]),(36,[.int .u32]),(37,[.int .u32]),(42,[.int .u32]),(43,[.int .u32]),(46,[.int .u32]),(47,[.int .u32])]⟩
def AhQ:AB:=[⟨44,[true,true,false,false,false,false,true,true,true],[],[],[(1,([false,false,false,false,false,false,true,true],([],[])))]⟩]
def Pr:MFn:=AS AhQ 203
def Mp:Hnt:=⟨[(202,(.sl 0 1,[.row true]))],[(0,[(1,([.sl 1 1,.int .u64],[.del,.row true]))])],[(24,[.int .u32]),(25,[.int .u32]),(35,[.int .u32])]⟩
def AhU:AB:=[⟨67,[true,true,false,false,false,true,false,true,true,true],[],[],[(1,([false,false,false,false,false,false,false,false,true],([],[])))]⟩]
def Pv:MFn:=AS AhU 239
def Pb:Hnt:=⟨[],[(0,[(1,([.int .u64],[.keep]))])],[(14,[.int .u32]),(15,[.int .u32]),(21,[.int .u32]),(22,[.int .u32]),(28,[.int .u32]),(29,[.int .u32]),(44,[.int .u32]),(45,[.int .u32]),(53,[.int .u32]),(54,[.int .u32])]⟩
def AhV:AB:=[⟨74,[true,true,true,false,false,false,false,true,true,false,false,false,false,false,false,false,false,true,true,true],[],[],[(1,([true,true,false,false,false,false,false,true,true],([],[1000000])))]⟩]
def Pw:MFn:=AS AhV 240
def Jw:Hnt:=⟨[],[(0,[(1,([.slo 0 1,.ls,.int .u64,.int .u64],[.row true]))])],[(22,[.int .u32]),(23,[.int .u32]),(38,[.int .u32]),(39,[.int .u32]),(52,[.int .u32]),(61,[.int .u32]),(62,[.int .u32]),(70,[.int .u32])]⟩
def AhW:AB:=[⟨42,[true,true,false,false,true,false,false,false,true,true,true],[],[],[(1,([true,true,false,false,true],([],[1000000])))]⟩]
def Px:MFn:=AS AhW 241
def Mv:Hnt:=⟨[],[(0,[(1,([.slo 0 1,.ls,.int .u64],[.row true]))])],[(13,[.int .u32]),(14,[.int .u32]),(17,[.int .u32]),(18,[.int .u32]),(29,[.int .u32]),(36,[.int .u32]),(37,[.int .u32]),(41,[.int .u32])]⟩
def AhT:AB:=[⟨58,[false,false,false,false,false,false,false,true,true,true,false,false,false,false,false,false,false,false,false,false,false,false,false,false,false,false,false,false,false,false,false,false,true,true,true],[(8,1)],[],[(2,([false,false,false,false,false,false,false,false,true,true],([],[])))]⟩]
def Pu:MFn:=P6 ψ Bb AhT true false 238
def Mt:Hnt:=⟨[(200,(.ls,[])),(202,(.sl 0 1,[.row true]))],[(0,[(2,([.sl 1 1,.int .u64],[.del,.row true]))])],[(36,[.int .u32]),(37,[.int .u32])]⟩
def AhX:AB:=[⟨61,[true,false,false,false,false,false,true,true,true],[(7,1)],[],[(1,([false,false,false,false,false,false,false,true],([],[])))]⟩]
def Py:MFn:=AS AhX 242
def Mw:Hnt:=⟨[(200,(.ls,[])),(202,(.sl 0 1,[.row true]))],[(0,[(1,([.sl 1 1],[.del,.row true]))])],[(42,[.int .u32]),(43,[.int .u32]),(50,[.int .u32]),(51,[.int .u32])]⟩
def AhR:AB:=[⟨96,[false,false,false,false,true,false,true,true,false,false,false,true,true,true],[],[7],[(1,([false,false,false,false,true,false,true,false,false,false,false,true,true],([],[])))]⟩]
def Ps:MFn:=AS AhR 204
def Jv:Hnt:=⟨[(202,(.sl 0 1,[.row true])),(237,(.int .i64,[])),(238,(.tup [.sl 0 1,.int .i64],[.row true])),(239,(.int .u64,[.keep])),(240,(.bool,[.row true])),(241,(.tup [],[.row true])),(242,(.ls,[]))],[(0,[(1,([.sl 2 1,.int .i64,.sl 3 1,.int .i64],[.del,.del,.row true,.row true]))])],[(19,[.int .u32]),(20,[.int .u32]),(88,[.int .u32])]⟩
def Yy:MFn:=AS [] 144
def X0:Hnt:=⟨[(184,(.ls,[])),(200,(.ls,[])),(201,(.int .i64,[])),(202,(.sl 0 1,[.row true])),(203,(.tup [.ls,.int .u32],[])),(204,(.tup [.ls,.ls],[]))],[],[(31,[.int .u32]),(32,[.int .u32])]⟩
def AhS:AB:=[⟨25,[true,true],[],[],[(1,([true],([],[])))]⟩]
def Aif:MFn:=AS AhS 205
def YC:MFn:=AS [] 237
def X5:Hnt:=⟨[(222,(.int .i64,[]))],[],[]⟩
def YB:MFn:=AS [] 222
def Ms:Hnt:=⟨[],[],[]⟩
def GS:List (Nat × MFn):=[(200,Pp),(202,YA),(184,Yz),(201,Pq),(203,Pr),(239,Pv),(240,Pw),(241,Px),(238,Pu),(242,Py),(204,Ps),(144,Yy),(205,Aif),(237,YC),(222,YB)]
variable (A:Ar) (D:Orc)
theorem Ajz(x0:Rw):BP A D C6 Mn .n 200 Pp [Δ x0] [] =
 Af D (γ 200 0) [Δ x0,iv ↑(AF x0)] [] [.t,.C,.x,.X,.Y] λc l o=>
 br (Bo 1 c)
 (dk [.L,.I,.N,.E] [.l l,.o o] λxs n=>
 unI n λi=>
 br (IK 0 i (AF xs)) (br (FF 1 xs) (some ((Δ (Hq (Hz xs i) 0),[]))) none) none)
 (none):=by kernel_rfl
theorem TG(t0:Rw)(t3:Int):CO A D C6 Mn .n 200 0 (AN Pp 0).fst (AN Pp 0).snd [Δ t0,iv t3] [] =
 br (A.lt 0 t3)
 (unI (A.sub Φ t3 1) λi=>
 Bl t0 i λcs=>
 dk [.J .u32,.N] [.l cs] λn=>
 br (A.eq n 0)
 (AI D (γ 200 0) [Δ t0,iv (A.sub Φ t3 1)] [] λr o=>
 AE 0 [] (AH.mk [] 0 none) [] r o)
 (some ((ν [iv 0,Δ t0,iv t3],[]))))
 (some ((ν [iv 0,Δ t0,iv t3],[]))):=by kernel_rfl
theorem AjB(x0:Rw):BP A D C6 X3 .n 202 YA [Δ x0] [] =
 Af D (θ 200) [Δ x0] [] [.l,.E] λxs=>
 Af D (θ 236) [Δ xs] [] [.q 0 1,.R,.X,.E] λn cs=>
 some ((ζ 0 0 n 1,[ο (Ξ cs true true)])):=by kernel_rfl
theorem Ajy(x0:Int):BP A D C6 X1 .n 184 Yz [Apc (Value.int Θ x0)] [] =
 br (A.lt 32 0)
 (none)
 (Af D (θ 202) [Δ [[Apc (Value.int ξ (A.conv ξ x0))],[Apc (Value.int ξ (A.conv ξ (A.shr Θ x0 32)))]]] [] [.q 0 1,.R,.X,.E] λn cs=>
 br ((0+n*1).ble cs.length) (some ((Δ (Bh n 1 (κ (n*1) cs)),[]))) none):=by kernel_rfl
theorem AjA(x0 x1:Rw):BP A D C6 Mo .n 201 Pq [Δ x0,Δ x1] [] =
 Af D (θ 200) [Δ x0] [] [.l,.E] λxs=>
 Af D (θ 200) [Δ x1] [] [.l,.E] λxs1=>
 br (A.lt ↑(AF xs) ↑(AF xs1))
 (some ((iv (-1),[])))
 (br (A.lt ↑(AF xs1) ↑(AF xs))
 (some ((iv 1,[])))
 (Af D (γ 201 0) [Δ xs,Δ xs1,iv (A.sub Φ (↑(AF xs)) 1)] [] [.t,.C,.x,.X,.Y] λc l o2=>
 br (Bo 0 c)
 (dk [.I,.N,.E] [.l l,.o o2] λn=>
 some ((iv n,[])))
 (br (Bo 2 c)
 (EM l<|
 Dd o2<|
 some ((iv 0,[])))
 (none)))):=by kernel_rfl
theorem TH(t0 t1:Rw)(t5:Int):CO A D C6 Mo .n 201 0 (AN Pq 0).fst (AN Pq 0).snd [Δ t0,Δ t1,iv t5] [] =
 br (A.le 0 t5)
 (unI t5 λi=>
 Bl t0 i λcs=>
 dk [.J .u32,.N] [.l cs] λn=>
 unI t5 λi1=>
 Bl t1 i1 λcs1=>
 dk [.J .u32,.N] [.l cs1] λn1=>
 br (A.lt n n1)
 (some ((ν [bv true,iv (-1)],[])))
 (unI t5 λi2=>
 Bl t0 i2 λcs2=>
 dk [.J .u32,.N] [.l cs2] λn2=>
 unI t5 λi3=>
 Bl t1 i3 λcs3=>
 dk [.J .u32,.N] [.l cs3] λn3=>
 br (A.lt n3 n2)
 (some ((ν [bv true,iv 1],[])))
 (AI D (γ 201 0) [Δ t0,Δ t1,iv (A.sub Φ t5 1)] [] λr o=>
 AE 0 [] (AH.mk [] 0 none) [] r o)))
 (some ((ν [iv 1],[]))):=by kernel_rfl
theorem AjC(x0:Rw)(x1:Int):BP A D C6 Mp .n 203 Pr [Δ x0,Apc (Value.int ξ x1)] [] =
 br ((AF x0).ble (AF x0)) (br (Be (AF x0) 4) (AI D (γ 203 0) [Δ x0,Apc (Value.int ξ x1),ζ 0 0 (AF x0) 1,Apc (Value.int Θ 0),iv (A.sub Φ (↑(AF x0)) 1)] [Ξ (BM [Apc (Value.int ξ 0)] (AF x0*1)) true true] λr o=>
 dk [.t,.C,.x,.X] [.v r] λc l=>
 br (Bo 1 c)
 (dk [.C,.q 1 1,.J .u64,.N,.D,.R,.X,.E] [.l l,.o o] λn n1 cs1=>
 br ((0+n*1).ble cs1.length) (AI D (θ 202) [Δ (Bh n 1 (κ (n*1) cs1))] [] λr1 o1=>
 dk [.q 0 1,.R,.X,.E] [.v r1,.o o1] λn2 cs2=>
 br ((0+n2*1).ble cs2.length) (some ((ν [Δ (Bh n2 1 (κ (n2*1) cs2)),Apc (Value.int ξ (A.conv ξ n1))],[]))) none) none)
 (none)) none) none:=by kernel_rfl
theorem TI(t0:Rw)(t1:Int)(n6:Nat)(c6:List AV)(t7 t8:Int):CO A D C6 Mp (.b (.b (.b .n (.b .n (.f .n))) .n) .n) 203 0 (AN Pr 0).fst (AN Pr 0).snd [Δ t0,Apc (Value.int ξ t1),ζ 0 0 n6 1,Apc (Value.int Θ t7),iv t8] [{ cells:=c6,st:=true,ex:=true }] =
 br (A.le 0 t8)
 (br (A.lt 32 0)
 (none)
 (unI t8 λi=>
 Bl t0 i λcs=>
 dk [.J .u32,.N] [.l cs] λn=>
 br (A.eq (A.conv Θ t1) 0)
 (none)
 (unI t8 λi1=>
 br (i1.blt n6) (br ((0+i1*1+1).ble c6.length) (br (A.eq (A.conv Θ t1) 0) none (AI D (γ 203 0) [Δ t0,Apc (Value.int ξ t1),ζ 0 0 n6 1,Apc (Value.int Θ (A.rem Θ (A.bits BinOp.or Θ (A.shl Θ t7 32) (A.conv Θ n)) (A.conv Θ t1))),iv (A.sub Φ t8 1)] [Ξ (AG c6 (0+i1*1) [Apc (Value.int ξ (A.conv ξ (A.quo Θ (A.bits BinOp.or Θ (A.shl Θ t7 32) (A.conv Θ n)) (A.conv Θ t1))))]) true true] λr o=>
 AE 1 [0] (AH.mk [(0,Ξ (AG c6 (0+i1*1) [Apc (Value.int ξ (A.conv ξ (A.quo Θ (A.bits BinOp.or Θ (A.shl Θ t7 32) (A.conv Θ n)) (A.conv Θ t1))))]) true true)] 1 none) [0] r o)) none) none)))
 (some ((ν [iv 0,ζ 1 0 n6 1,Apc (Value.int Θ t7)],[BO.del,ο (Ξ c6 true true)]))):=by kernel_rfl
theorem AjJ(o0 n0:Nat)(c0:List AV)(x1:Rw):BP A D C6 Pb (.b .n (.b .n (.f .n))) 239 Pv [ζ 0 o0 n0 1,Δ x1] [{ cells:=c0,st:=true,ex:=true }] =
 br ((AF x1).blt n0) (EQ c0 (o0+AF x1*1) 1 λcs=>
 dk [.J .u32,.N] [.l cs] λn=>
 br (A.lt 32 0)
 (none)
 (unI (A.sub Φ (↑(AF x1)) 1) λi=>
 br (i.blt n0) (EQ c0 (o0+i*1) 1 λcs1=>
 dk [.J .u32,.N] [.l cs1] λn1=>
 unI (A.sub Φ (↑(AF x1)) 1) λi1=>
 Bl x1 i1 λcs2=>
 dk [.J .u32,.N] [.l cs2] λn2=>
 br (A.eq (A.conv Θ n2) 0)
 (none)
 (br (A.eq (A.conv Θ n2) 0) none (AI D (γ 239 0) [ζ 0 o0 n0 1,Δ x1,iv ↑(AF x1),Apc (Value.int Θ (A.conv Θ n2)),Apc (Value.int Θ (A.quo Θ (A.bits BinOp.or Θ (A.shl Θ (A.conv Θ n) 32) (A.conv Θ n1)) (A.conv Θ n2))),Apc (Value.int Θ (A.rem Θ (A.bits BinOp.or Θ (A.shl Θ (A.conv Θ n) 32) (A.conv Θ n1)) (A.conv Θ n2)))] [Ξ c0 true true] λr o=>
 dk [.t,.C,.x,.X] [.v r] λc l3=>
 br (Bo 1 c)
 (dk [.J .u64,.N,.K,.E] [.l l3,.o o] λn3=>
 some ((Apc (Value.int Θ n3),[BO.keep])))
 (none)))) none)) none:=by kernel_rfl
theorem Aa1(o0 n0:Nat)(c0:List AV)(t1:Rw)(t5 t7 t8 t9:Int):CO A D C6 Pb .n 239 0 (AN Pv 0).fst (AN Pv 0).snd [ζ 0 o0 n0 1,Δ t1,iv t5,Apc (Value.int Θ t7),Apc (Value.int Θ t8),Apc (Value.int Θ t9)] [{ cells:=c0,st:=true,ex:=true }] =
 br (A.le 4294967296 t8)
 (br (A.le 4294967296 (A.add Θ t9 t7))
 (some ((ν [iv 0,Apc (Value.int Θ (A.sub Θ t8 1))],[BO.keep])))
 (AI D (γ 239 0) [ζ 0 o0 n0 1,Δ t1,iv t5,Apc (Value.int Θ t7),Apc (Value.int Θ (A.sub Θ t8 1)),Apc (Value.int Θ (A.add Θ t9 t7))] [Ξ c0 true true] λr o=>
 AE 1 [0] (AH.mk [(0,Ξ c0 true true)] 1 none) [] r o))
 (unI (A.sub Φ t5 2) λi=>
 Bl t1 i λcs=>
 dk [.J .u32,.N] [.l cs] λn=>
 br (A.lt 32 0)
 (none)
 (unI (A.sub Φ t5 2) λi1=>
 br (i1.blt n0) (EQ c0 (o0+i1*1) 1 λcs1=>
 dk [.J .u32,.N] [.l cs1] λn1=>
 br (A.lt (A.bits BinOp.or Θ (A.shl Θ t9 32) (A.conv Θ n1)) (A.mul Θ t8 (A.conv Θ n)))
 (br (A.le 4294967296 (A.add Θ t9 t7))
 (some ((ν [iv 0,Apc (Value.int Θ (A.sub Θ t8 1))],[BO.keep])))
 (AI D (γ 239 0) [ζ 0 o0 n0 1,Δ t1,iv t5,Apc (Value.int Θ t7),Apc (Value.int Θ (A.sub Θ t8 1)),Apc (Value.int Θ (A.add Θ t9 t7))] [Ξ c0 true true] λr o=>
 AE 1 [0] (AH.mk [(0,Ξ c0 true true)] 1 none) [] r o))
 (some ((ν [iv 0,Apc (Value.int Θ t8)],[BO.keep])))) none)):=by kernel_rfl
theorem AjK(o0 n0:Nat)(c0:List AV)(x1:Rw)(x2:Int):BP A D C6 Jw .n 240 Pw [ζ 0 o0 n0 1,Δ x1,Apc (Value.int Θ x2)] [{ cells:=c0,st:=true,ex:=true }] =
 Af D (γ 240 0) [ζ 0 o0 n0 1,Δ x1,Apc (Value.int Θ x2),Apc (Value.int Θ 0),Apc (Value.int Θ 0),Δ x1,iv ↑(AF x1),iv 0] [Ξ c0 true true] [.t,.C,.x,.X,.Y] λc l o=>
 br (Bo 1 c)
 (DQ l λc1 l1=>
 OC 0 1 c1 λo1 n=>
 dk [.L,.J .u64,.J .u64,.N,.R,.X,.E] [.l l1,.o o] λxs n1 n2 cs1=>
 br ((AF xs).blt n) (EQ cs1 (o1+AF xs*1) 1 λcs2=>
 dk [.J .u32,.N] [.l cs2] λn3=>
 br ((AF xs).blt n) (br ((o1+AF xs*1+1).ble cs1.length) (br (A.lt (A.conv Θ n3) (A.add Θ n1 n2))
 (some ((bv true,[ο (Ξ (AG cs1 (o1+AF xs*1) [Apc (Value.int ξ (A.conv ξ (A.sub Θ (A.conv Θ n3) (A.add Θ n1 n2))))]) true true)])))
 (some ((bv false,[ο (Ξ (AG cs1 (o1+AF xs*1) [Apc (Value.int ξ (A.conv ξ (A.sub Θ (A.conv Θ n3) (A.add Θ n1 n2))))]) true true)])))) none) none) none)
 (none):=by kernel_rfl
theorem O5(o0 n0:Nat)(c0:List AV)(t1 t17:Rw)(t2 t7 t8 t18 t19:Int):CO A D C6 Jw .n 240 0 (AN Pw 0).fst (AN Pw 0).snd [ζ 0 o0 n0 1,Δ t1,Apc (Value.int Θ t2),Apc (Value.int Θ t7),Apc (Value.int Θ t8),Δ t17,iv t18,iv t19] [{ cells:=c0,st:=true,ex:=true }] =
 br (A.lt t19 t18)
 (unI t19 λi=>
 Bl t17 i λcs=>
 dk [.J .u32,.N] [.l cs] λn=>
 br (A.lt 32 0)
 (none)
 (unI t19 λi1=>
 br (i1.blt n0) (EQ c0 (o0+i1*1) 1 λcs1=>
 dk [.J .u32,.N] [.l cs1] λn1=>
 br (A.lt (A.conv Θ n1) (A.add Θ (A.bits BinOp.and Θ (A.add Θ (A.mul Θ t2 (A.conv Θ n)) t7) 4294967295) t8))
 (unI t19 λi2=>
 br (i2.blt n0) (br ((o0+i2*1+1).ble c0.length) (AI D (γ 240 0) [ζ 0 o0 n0 1,Δ t1,Apc (Value.int Θ t2),Apc (Value.int Θ (A.shr Θ (A.add Θ (A.mul Θ t2 (A.conv Θ n)) t7) 32)),Apc (Value.int Θ 1),Δ t17,iv t18,iv (A.add Φ t19 1)] [Ξ (AG c0 (o0+i2*1) [Apc (Value.int ξ (A.conv ξ (A.sub Θ (A.add Θ (A.conv Θ n1) 4294967296) (A.add Θ (A.bits BinOp.and Θ (A.add Θ (A.mul Θ t2 (A.conv Θ n)) t7) 4294967295) t8))))]) true true] λr o=>
 AE 1 [0] (AH.mk [(0,Ξ (AG c0 (o0+i2*1) [Apc (Value.int ξ (A.conv ξ (A.sub Θ (A.add Θ (A.conv Θ n1) 4294967296) (A.add Θ (A.bits BinOp.and Θ (A.add Θ (A.mul Θ t2 (A.conv Θ n)) t7) 4294967295) t8))))]) true true)] 1 none) [0] r o) none) none)
 (unI t19 λi2=>
 br (i2.blt n0) (br ((o0+i2*1+1).ble c0.length) (AI D (γ 240 0) [ζ 0 o0 n0 1,Δ t1,Apc (Value.int Θ t2),Apc (Value.int Θ (A.shr Θ (A.add Θ (A.mul Θ t2 (A.conv Θ n)) t7) 32)),Apc (Value.int Θ 0),Δ t17,iv t18,iv (A.add Φ t19 1)] [Ξ (AG c0 (o0+i2*1) [Apc (Value.int ξ (A.conv ξ (A.sub Θ (A.conv Θ n1) (A.add Θ (A.bits BinOp.and Θ (A.add Θ (A.mul Θ t2 (A.conv Θ n)) t7) 4294967295) t8))))]) true true] λr o=>
 AE 1 [0] (AH.mk [(0,Ξ (AG c0 (o0+i2*1) [Apc (Value.int ξ (A.conv ξ (A.sub Θ (A.conv Θ n1) (A.add Θ (A.bits BinOp.and Θ (A.add Θ (A.mul Θ t2 (A.conv Θ n)) t7) 4294967295) t8))))]) true true)] 1 none) [0] r o) none) none)) none))
 (some ((ν [iv 0,ζ 0 o0 n0 1,Δ t1,Apc (Value.int Θ t7),Apc (Value.int Θ t8)],[ο (Ξ c0 true true)]))):=by kernel_rfl
theorem AjL(o0 n0:Nat)(c0:List AV)(x1:Rw):BP A D C6 Mv .n 241 Px [ζ 0 o0 n0 1,Δ x1] [{ cells:=c0,st:=true,ex:=true }] =
 Af D (γ 241 0) [ζ 0 o0 n0 1,Δ x1,Apc (Value.int Θ 0),Δ x1,iv ↑(AF x1),iv 0] [Ξ c0 true true] [.t,.C,.x,.X,.Y] λc l o=>
 br (Bo 1 c)
 (DQ l λc1 l1=>
 OC 0 1 c1 λo1 n=>
 dk [.L,.J .u64,.N,.R,.X,.E] [.l l1,.o o] λxs n1 cs1=>
 br ((AF xs).blt n) (EQ cs1 (o1+AF xs*1) 1 λcs2=>
 dk [.J .u32,.N] [.l cs2] λn2=>
 br ((AF xs).blt n) (br ((o1+AF xs*1+1).ble cs1.length) (some ((ν [],[ο (Ξ (AG cs1 (o1+AF xs*1) [Apc (Value.int ξ (A.add ξ n2 (A.conv ξ n1)))]) true true)]))) none) none) none)
 (none):=by kernel_rfl
theorem TK(o0 n0:Nat)(c0:List AV)(t1 t8:Rw)(t4 t9 t10:Int):CO A D C6 Mv .n 241 0 (AN Px 0).fst (AN Px 0).snd [ζ 0 o0 n0 1,Δ t1,Apc (Value.int Θ t4),Δ t8,iv t9,iv t10] [{ cells:=c0,st:=true,ex:=true }] =
 br (A.lt t10 t9)
 (unI t10 λi=>
 Bl t8 i λcs=>
 dk [.J .u32,.N] [.l cs] λn=>
 unI t10 λi1=>
 br (i1.blt n0) (EQ c0 (o0+i1*1) 1 λcs1=>
 dk [.J .u32,.N] [.l cs1] λn1=>
 unI t10 λi2=>
 br (i2.blt n0) (br ((o0+i2*1+1).ble c0.length) (br (A.lt 32 0)
 (none)
 (AI D (γ 241 0) [ζ 0 o0 n0 1,Δ t1,Apc (Value.int Θ (A.shr Θ (A.add Θ (A.add Θ (A.conv Θ n1) (A.conv Θ n)) t4) 32)),Δ t8,iv t9,iv (A.add Φ t10 1)] [Ξ (AG c0 (o0+i2*1) [Apc (Value.int ξ (A.conv ξ (A.add Θ (A.add Θ (A.conv Θ n1) (A.conv Θ n)) t4)))]) true true] λr o=>
 AE 1 [0] (AH.mk [(0,Ξ (AG c0 (o0+i2*1) [Apc (Value.int ξ (A.conv ξ (A.add Θ (A.add Θ (A.conv Θ n1) (A.conv Θ n)) t4)))]) true true)] 1 none) [0] r o)) none) none) none)
 (some ((ν [iv 0,ζ 0 o0 n0 1,Δ t1,Apc (Value.int Θ t4)],[ο (Ξ c0 true true)]))):=by kernel_rfl
theorem AjI(x0:Rw)(x1:Int):BP A D C6 Mt (.b .n (.b .n (.b .n (.b .n (.b .n (.f .n)))))) 238 Pu [Δ x0,iv x1] [] =
 br (A.lt x1 0)
 (some ((ν [Apc (Value.slice none 0 0),iv 1],[])))
 (br (A.lt 1048576 x1)
 (some ((ν [Apc (Value.slice none 0 0),iv 2],[])))
 (Af D (θ 200) [Δ x0] [] [.l,.E] λxs=>
 br (A.eq 32 0)
 (none)
 (br (A.eq 32 0) none (unI (A.quo Φ x1 32) λi=>
 unI (A.add Φ (A.add Φ (A.quo Φ x1 32) ↑(AF xs)) 1) λi1=>
 br (i.ble i1) (br (Be i1 4) (AI D (γ 238 0) [iv (A.rem Φ x1 32),ζ 0 0 i 1,Apc (Value.int Θ 0),Δ xs,iv ↑(AF xs),iv 0] [Ξ (BM [Apc (Value.int ξ 0)] (i*1)) true true] λr1 o1=>
 dk [.t,.C,.x,.X] [.v r1] λc l=>
 br (Bo 2 c)
 (dk [.C,.q 1 1,.J .u64,.N,.D,.R,.X,.E] [.l l,.o o1] λn n1 cs1=>
 br (Be (n+1) 4) (br ((0+n*1).ble cs1.length) (br ((0+(n+1)*1).ble (ι 0 (κ (0+n*1) cs1)++[Apc (Value.int ξ (A.conv ξ n1))]).length) (AI D (θ 202) [Δ (Bh (n+1) 1 (κ ((n+1)*1) (ι 0 (ι 0 (κ (0+n*1) cs1)++[Apc (Value.int ξ (A.conv ξ n1))]))))] [] λr2 o2=>
 dk [.q 0 1,.R,.X,.E] [.v r2,.o o2] λn2 cs2=>
 some ((ν [ζ 0 0 n2 1,iv 0],[ο (Ξ cs2 true true)]))) none) none) none)
 (none)) none) none)))):=by kernel_rfl
theorem TJ(t7:Int)(n8:Nat)(c8:List AV)(t9:Int)(t32:Rw)(t33 t34:Int):CO A D C6 Mt .n 238 0 (AN Pu 0).fst (AN Pu 0).snd [iv t7,ζ 0 0 n8 1,Apc (Value.int Θ t9),Δ t32,iv t33,iv t34] [{ cells:=c8,st:=true,ex:=true }] =
 br (A.lt t34 t33)
 (unI t34 λi=>
 Bl t32 i λcs=>
 dk [.J .u32,.N] [.l cs] λn=>
 br (A.lt t7 0)
 (none)
 (br (Be (n8+1) 4) (br ((0+n8*1).ble c8.length) (br (A.lt 32 0)
 (none)
 (AI D (γ 238 0) [iv t7,ζ 0 0 (n8+1) 1,Apc (Value.int Θ (A.shr Θ (A.bits BinOp.or Θ (A.shl Θ (A.conv Θ n) t7) t9) 32)),Δ t32,iv t33,iv (A.add Φ t34 1)] [Ξ (ι 0 (κ (0+n8*1) c8)++[Apc (Value.int ξ (A.conv ξ (A.bits BinOp.or Θ (A.shl Θ (A.conv Θ n) t7) t9)))]) true true] λr o=>
 AE 1 [2] (AH.mk [(2,Ξ (ι 0 (κ (0+n8*1) c8)++[Apc (Value.int ξ (A.conv ξ (A.bits BinOp.or Θ (A.shl Θ (A.conv Θ n) t7) t9)))]) true true),(1,Ξ [Apc (Value.int ξ (A.conv ξ (A.bits BinOp.or Θ (A.shl Θ (A.conv Θ n) t7) t9)))] true true)] 3 none) [0] r o)) none) none))
 (some ((ν [iv 1,ζ 1 0 n8 1,Apc (Value.int Θ t9)],[BO.del,ο (Ξ c8 true true)]))):=by kernel_rfl
theorem AjM(x0:Rw)(x1:Int):BP A D C6 Mw (.b .n (.f .n)) 242 Py [Δ x0,iv x1] [] =
 Af D (θ 200) [Δ x0] [] [.l,.E] λxs=>
 br (A.eq 32 0)
 (none)
 (br (A.eq 32 0) none (br (A.le (↑(AF xs)) (A.quo Φ (A.max x1 0) 32))
 (some ((Δ [],[])))
 (unI (A.sub Φ (↑(AF xs)) (A.quo Φ (A.max x1 0) 32)) λi=>
 br (Be i 4) (AI D (γ 242 0) [Δ xs,iv (A.rem Φ (A.max x1 0) 32),ζ 0 0 0 1,iv (A.quo Φ (A.max x1 0) 32)] [Ξ [] true true] λr1 o1=>
 dk [.t,.C,.x,.X] [.v r1] λc l=>
 br (Bo 1 c)
 (dk [.C,.q 1 1,.N,.D,.R,.X,.E] [.l l,.o o1] λn cs1=>
 br ((0+n*1).ble cs1.length) (AI D (θ 202) [Δ (Bh n 1 (κ (n*1) cs1))] [] λr2 o2=>
 dk [.q 0 1,.R,.X,.E] [.v r2,.o o2] λn1 cs2=>
 br ((0+n1*1).ble cs2.length) (some ((Δ (Bh n1 1 (κ (n1*1) cs2)),[]))) none) none)
 (none)) none))):=by kernel_rfl
theorem TL(t0:Rw)(t6:Int)(n7:Nat)(c7:List AV)(t8:Int):CO A D C6 Mw .n 242 0 (AN Py 0).fst (AN Py 0).snd [Δ t0,iv t6,ζ 0 0 n7 1,iv t8] [{ cells:=c7,st:=true,ex:=true }] =
 br (A.lt t8 ↑(AF t0))
 (br (A.lt (A.add Φ t8 1) ↑(AF t0))
 (unI (A.add Φ t8 1) λi=>
 Bl t0 i λcs=>
 dk [.J .u32,.N] [.l cs] λn=>
 br (A.lt 32 0)
 (none)
 (unI t8 λi1=>
 Bl t0 i1 λcs1=>
 dk [.J .u32,.N] [.l cs1] λn1=>
 br (A.lt t6 0)
 (none)
 (br (Be (n7+1) 4) (br ((0+n7*1).ble c7.length) (AI D (γ 242 0) [Δ t0,iv t6,ζ 0 0 (n7+1) 1,iv (A.add Φ t8 1)] [Ξ (ι 0 (κ (0+n7*1) c7)++[Apc (Value.int ξ (A.conv ξ (A.shr Θ (A.bits BinOp.or Θ (A.shl Θ (A.conv Θ n) 32) (A.conv Θ n1)) t6)))]) true true] λr o=>
 AE 1 [2] (AH.mk [(2,Ξ (ι 0 (κ (0+n7*1) c7)++[Apc (Value.int ξ (A.conv ξ (A.shr Θ (A.bits BinOp.or Θ (A.shl Θ (A.conv Θ n) 32) (A.conv Θ n1)) t6)))]) true true),(1,Ξ [Apc (Value.int ξ (A.conv ξ (A.shr Θ (A.bits BinOp.or Θ (A.shl Θ (A.conv Θ n) 32) (A.conv Θ n1)) t6)))] true true)] 3 none) [0] r o) none) none)))
 (br (A.lt 32 0)
 (none)
 (unI t8 λi=>
 Bl t0 i λcs=>
 dk [.J .u32,.N] [.l cs] λn=>
 br (A.lt t6 0)
 (none)
 (br (Be (n7+1) 4) (br ((0+n7*1).ble c7.length) (AI D (γ 242 0) [Δ t0,iv t6,ζ 0 0 (n7+1) 1,iv (A.add Φ t8 1)] [Ξ (ι 0 (κ (0+n7*1) c7)++[Apc (Value.int ξ (A.conv ξ (A.shr Θ (A.bits BinOp.or Θ (A.shl Θ 0 32) (A.conv Θ n)) t6)))]) true true] λr o=>
 AE 1 [2] (AH.mk [(2,Ξ (ι 0 (κ (0+n7*1) c7)++[Apc (Value.int ξ (A.conv ξ (A.shr Θ (A.bits BinOp.or Θ (A.shl Θ 0 32) (A.conv Θ n)) t6)))]) true true),(1,Ξ [Apc (Value.int ξ (A.conv ξ (A.shr Θ (A.bits BinOp.or Θ (A.shl Θ 0 32) (A.conv Θ n)) t6)))] true true)] 3 none) [0] r o) none) none))))
 (some ((ν [iv 0,ζ 1 0 n7 1],[BO.del,ο (Ξ c7 true true)]))):=by kernel_rfl
theorem AjD(x0 x1:Rw):BP A D C6 Jv .n 204 Ps [Δ x0,Δ x1] [] =
 unI (A.sub Φ (↑(AF x1)) 1) λi=>
 Bl x1 i λcs=>
 dk [.J .u32,.N] [.l cs] λn=>
 Af D (θ 237) [Apc (Value.int ξ n)] [] [.i,.E] λn1=>
 Af D (θ 238) [Δ x1,iv n1] [] [.t,.C,.q 0 1,.I,.N,.R,.X,.E] λn2 _ cs2=>
 Af D (θ 238) [Δ x0,iv n1] [] [.t,.C,.q 0 1,.I,.N,.R,.X,.E] λn4 _ cs4=>
 unI (A.sub Φ (A.add Φ (↑(AF x0)) 1) ↑n4) λi1=>
 br (i1.ble 9223372036854775807) (br (i1.beq 0)
 (unI (A.sub Φ ↑n4 ↑n2) λi2=>
 unI (A.sub Φ ↑n4 ↑n2) λi3=>
 br (i2.ble i3) (br (Be i3 4) (br ((0+n2*1).ble cs2.length) (AI D (γ 204 0) [ζ 0 0 i2 1,iv n1,Δ (Bh n2 1 (κ (n2*1) cs2)),ζ 1 0 n4 1,iv ↑n2,iv (A.sub Φ (A.sub Φ ↑n4 ↑n2) 1)] [Ξ (BM [Apc (Value.int ξ 0)] (i2*1)) true true,Ξ cs4 true true] λr3 o3=>
 dk [.t,.C,.x,.X] [.v r3] λc4 l7=>
 br (Bo 1 c4)
 (dk [.C,.q 2 1,.I,.C,.q 3 1,.I,.N,.D,.D,.R,.X,.R,.X,.E] [.l l7,.o o3] λn6 n7 n8 n9 cs6 cs7=>
 br ((0+n6*1).ble cs6.length) (AI D (θ 202) [Δ (Bh n6 1 (κ (n6*1) cs6))] [] λr4 o4=>
 dk [.q 0 1,.R,.X,.E] [.v r4,.o o4] λn10 cs8=>
 unI n9 λi4=>
 br (IK 0 i4 n8) (br ((0+i4*1).ble cs7.length) (AI D (θ 242) [Δ (Bh i4 1 (κ (i4*1) cs7)),iv n7] [] λr5 o5=>
 dk [.l,.E] [.v r5,.o o5] λxs=>
 br ((0+n10*1).ble cs8.length) (some ((ν [Δ (Bh n10 1 (κ (n10*1) cs8)),Δ xs],[]))) none) none) none) none)
 (none)) none) none) none)
 (br (GI (BM [Apc (Value.int ξ 0)] (i1*1))) (br (Be (n4+i1) 4) (br ((0+n4*1).ble cs4.length) (unI (A.sub Φ ↑(n4+i1) ↑n2) λi2=>
 unI (A.sub Φ ↑(n4+i1) ↑n2) λi3=>
 br (i2.ble i3) (br (Be i3 4) (br ((0+n2*1).ble cs2.length) (AI D (γ 204 0) [ζ 0 0 i2 1,iv n1,Δ (Bh n2 1 (κ (n2*1) cs2)),ζ 1 0 (n4+i1) 1,iv ↑n2,iv (A.sub Φ (A.sub Φ ↑(n4+i1) ↑n2) 1)] [Ξ (BM [Apc (Value.int ξ 0)] (i2*1)) true true,Ξ (ι 0 (κ (0+n4*1) cs4)++BM [Apc (Value.int ξ 0)] (i1*1)) true true] λr3 o3=>
 dk [.t,.C,.x,.X] [.v r3] λc4 l7=>
 br (Bo 1 c4)
 (dk [.C,.q 2 1,.I,.C,.q 3 1,.I,.N,.D,.D,.R,.X,.R,.X,.E] [.l l7,.o o3] λn6 n7 n8 n9 cs6 cs7=>
 br ((0+n6*1).ble cs6.length) (AI D (θ 202) [Δ (Bh n6 1 (κ (n6*1) cs6))] [] λr4 o4=>
 dk [.q 0 1,.R,.X,.E] [.v r4,.o o4] λn10 cs8=>
 unI n9 λi4=>
 br (IK 0 i4 n8) (br ((0+i4*1).ble cs7.length) (AI D (θ 242) [Δ (Bh i4 1 (κ (i4*1) cs7)),iv n7] [] λr5 o5=>
 dk [.l,.E] [.v r5,.o o5] λxs=>
 br ((0+n10*1).ble cs8.length) (some ((ν [Δ (Bh n10 1 (κ (n10*1) cs8)),Δ xs],[]))) none) none) none) none)
 (none)) none) none) none) none) none) none)) none:=by kernel_rfl
theorem O3(n4:Nat)(c4:List AV)(t6:Int)(t7:Rw)(n11:Nat)(c11:List AV)(t12 t13:Int):CO A D C6 Jv .n 204 0 (AN Ps 0).fst (AN Ps 0).snd [ζ 0 0 n4 1,iv t6,Δ t7,ζ 1 0 n11 1,iv t12,iv t13] [{ cells:=c4,st:=true,ex:=true },{ cells:=c11,st:=true,ex:=true }] =
 br (A.le 0 t13)
 (unI t13 λi=>
 br (IK i n11 n11) (AI D (θ 239) [ζ 0 (0+i*1) (n11-i) 1,Δ t7] [Ξ c11 true true] λr o=>
 dk [.j .u64,.K,.E] [.v r,.o o] λn=>
 unI t13 λi1=>
 unI (A.add Φ (A.add Φ t13 t12) 1) λi2=>
 br (IK i1 i2 n11) (AI D (θ 240) [ζ 0 (0+i1*1) (i2-i1) 1,Δ t7,Apc (Value.int Θ n)] [Ξ c11 true true] λr1 o1=>
 dk [.b,.R,.X,.E] [.v r1,.o o1] λb cs=>
 br b
 (unI t13 λi3=>
 unI (A.add Φ (A.add Φ t13 t12) 1) λi4=>
 br (IK i3 i4 n11) (AI D (θ 241) [ζ 0 (0+i3*1) (i4-i3) 1,Δ t7] [Ξ cs true true] λr2 o2=>
 dk [.t,.N,.R,.X,.E] [.v r2,.o o2] λcs2=>
 unI t13 λi5=>
 br (i5.blt n4) (br ((0+i5*1+1).ble c4.length) (AI D (γ 204 0) [ζ 0 0 n4 1,iv t6,Δ t7,ζ 1 0 n11 1,iv t12,iv (A.sub Φ t13 1)] [Ξ (AG c4 (0+i5*1) [Apc (Value.int ξ (A.conv ξ (A.sub Θ n 1)))]) true true,Ξ cs2 true true] λr3 o3=>
 AE 2 [0,1] (AH.mk [(0,Ξ (AG c4 (0+i5*1) [Apc (Value.int ξ (A.conv ξ (A.sub Θ n 1)))]) true true),(1,Ξ cs2 true true)] 2 none) [1,0] r3 o3) none) none) none)
 (unI t13 λi3=>
 br (i3.blt n4) (br ((0+i3*1+1).ble c4.length) (AI D (γ 204 0) [ζ 0 0 n4 1,iv t6,Δ t7,ζ 1 0 n11 1,iv t12,iv (A.sub Φ t13 1)] [Ξ (AG c4 (0+i3*1) [Apc (Value.int ξ (A.conv ξ n))]) true true,Ξ cs true true] λr2 o2=>
 AE 2 [0,1] (AH.mk [(0,Ξ (AG c4 (0+i3*1) [Apc (Value.int ξ (A.conv ξ n))]) true true),(1,Ξ cs true true)] 2 none) [1,0] r2 o2) none) none)) none) none)
 (some ((ν [iv 0,ζ 2 0 n4 1,iv t6,ζ 3 0 n11 1,iv t12],[BO.del,BO.del,ο (Ξ c4 true true),ο (Ξ c11 true true)]))):=by kernel_rfl
theorem Ajx(x0 x1:Rw):BP A D C6 X0 .n 144 Yy [Δ x0,Δ x1] [] =
 Af D (θ 200) [Δ x0] [] [.l,.E] λxs=>
 Af D (θ 200) [Δ x1] [] [.l,.E] λxs1=>
 br (A.eq (↑(AF xs1)) 0)
 (some ((ν [Δ [],Δ [],iv 10],[])))
 (Af D (θ 201) [Δ xs,Δ xs1] [] [.i,.E] λn=>
 br (A.lt n 0)
 (Af D (θ 202) [Δ xs] [] [.q 0 1,.R,.X,.E] λn1 cs=>
 br ((0+n1*1).ble cs.length) (some ((ν [Δ [],Δ (Bh n1 1 (κ (n1*1) cs)),iv 0],[]))) none)
 (br (A.eq (↑(AF xs1)) 1)
 (Bl xs1 0 λcs=>
 dk [.J .u32,.N] [.l cs] λn1=>
 Af D (θ 203) [Δ xs,Apc (Value.int ξ n1)] [] [.t,.L,.J .u32,.N,.E] λxs2 n2=>
 Af D (θ 184) [Apc (Value.int Θ (A.conv Θ n2))] [] [.l,.E] λxs3=>
 some ((ν [Δ xs2,Δ xs3,iv 0],[])))
 (Af D (θ 204) [Δ xs,Δ xs1] [] [.t,.L,.L,.N,.E] λxs2 xs3=>
 some ((ν [Δ xs2,Δ xs3,iv 0],[]))))):=by kernel_rfl
theorem AjH(x0:Int):BP A D C6 X5 .n 237 YC [Apc (Value.int ξ x0)] [] =
 Af D (θ 222) [Apc (Value.int ξ x0)] [] [.i,.E] λn=>
 some ((iv (A.sub Φ 32 n),[])):=by kernel_rfl
theorem AjF(x0:Int):BP A D C6 Ms .n 222 YB [Apc (Value.int ξ x0)] [] =
 br (A.le 65536 x0)
 (br (A.lt 16 0)
 (none)
 (br (A.le 256 (A.shr ξ x0 16))
 (br (A.lt 8 0)
 (none)
 (unI (A.conv Asd (A.shr ξ (A.shr ξ x0 16) 8)) λi=>
 br (i.blt (A.slen (CV [0,1,2,2,3,3,3,3,4,4,4,4,4,4,4,4,5,5,5,5,5,5,5,5,5,5,5,5,5,5,5,5,6,6,6,6,6,6,6,6,6,6,6,6,6,6,6,6,6,6,6,6,6,6,6,6,6,6,6,6,6,6,6,6,7,7,7,7,7,7,7,7,7,7,7,7,7,7,7,7,7,7,7,7,7,7,7,7,7,7,7,7,7,7,7,7,7,7,7,7,7,7,7,7,7,7,7,7,7,7,7,7,7,7,7,7,7,7,7,7,7,7,7,7,7,7,7,7,8,8,8,8,8,8,8,8,8,8,8,8,8,8,8,8,8,8,8,8,8,8,8,8,8,8,8,8,8,8,8,8,8,8,8,8,8,8,8,8,8,8,8,8,8,8,8,8,8,8,8,8,8,8,8,8,8,8,8,8,8,8,8,8,8,8,8,8,8,8,8,8,8,8,8,8,8,8,8,8,8,8,8,8,8,8,8,8,8,8,8,8,8,8,8,8,8,8,8,8,8,8,8,8,8,8,8,8,8,8,8,8,8,8,8,8,8,8,8,8,8,8,8,8,8,8,8,8]))) (some ((iv (A.add Φ (A.add Φ 16 8) (A.conv Φ (A.sat (CV [0,1,2,2,3,3,3,3,4,4,4,4,4,4,4,4,5,5,5,5,5,5,5,5,5,5,5,5,5,5,5,5,6,6,6,6,6,6,6,6,6,6,6,6,6,6,6,6,6,6,6,6,6,6,6,6,6,6,6,6,6,6,6,6,7,7,7,7,7,7,7,7,7,7,7,7,7,7,7,7,7,7,7,7,7,7,7,7,7,7,7,7,7,7,7,7,7,7,7,7,7,7,7,7,7,7,7,7,7,7,7,7,7,7,7,7,7,7,7,7,7,7,7,7,7,7,7,7,8,8,8,8,8,8,8,8,8,8,8,8,8,8,8,8,8,8,8,8,8,8,8,8,8,8,8,8,8,8,8,8,8,8,8,8,8,8,8,8,8,8,8,8,8,8,8,8,8,8,8,8,8,8,8,8,8,8,8,8,8,8,8,8,8,8,8,8,8,8,8,8,8,8,8,8,8,8,8,8,8,8,8,8,8,8,8,8,8,8,8,8,8,8,8,8,8,8,8,8,8,8,8,8,8,8,8,8,8,8,8,8,8,8,8,8,8,8,8,8,8,8,8,8,8,8,8,8]) i))),[]))) none))
 (unI (A.conv Asd (A.shr ξ x0 16)) λi=>
 br (i.blt (A.slen (CV [0,1,2,2,3,3,3,3,4,4,4,4,4,4,4,4,5,5,5,5,5,5,5,5,5,5,5,5,5,5,5,5,6,6,6,6,6,6,6,6,6,6,6,6,6,6,6,6,6,6,6,6,6,6,6,6,6,6,6,6,6,6,6,6,7,7,7,7,7,7,7,7,7,7,7,7,7,7,7,7,7,7,7,7,7,7,7,7,7,7,7,7,7,7,7,7,7,7,7,7,7,7,7,7,7,7,7,7,7,7,7,7,7,7,7,7,7,7,7,7,7,7,7,7,7,7,7,7,8,8,8,8,8,8,8,8,8,8,8,8,8,8,8,8,8,8,8,8,8,8,8,8,8,8,8,8,8,8,8,8,8,8,8,8,8,8,8,8,8,8,8,8,8,8,8,8,8,8,8,8,8,8,8,8,8,8,8,8,8,8,8,8,8,8,8,8,8,8,8,8,8,8,8,8,8,8,8,8,8,8,8,8,8,8,8,8,8,8,8,8,8,8,8,8,8,8,8,8,8,8,8,8,8,8,8,8,8,8,8,8,8,8,8,8,8,8,8,8,8,8,8,8,8,8,8,8]))) (some ((iv (A.add Φ 16 (A.conv Φ (A.sat (CV [0,1,2,2,3,3,3,3,4,4,4,4,4,4,4,4,5,5,5,5,5,5,5,5,5,5,5,5,5,5,5,5,6,6,6,6,6,6,6,6,6,6,6,6,6,6,6,6,6,6,6,6,6,6,6,6,6,6,6,6,6,6,6,6,7,7,7,7,7,7,7,7,7,7,7,7,7,7,7,7,7,7,7,7,7,7,7,7,7,7,7,7,7,7,7,7,7,7,7,7,7,7,7,7,7,7,7,7,7,7,7,7,7,7,7,7,7,7,7,7,7,7,7,7,7,7,7,7,8,8,8,8,8,8,8,8,8,8,8,8,8,8,8,8,8,8,8,8,8,8,8,8,8,8,8,8,8,8,8,8,8,8,8,8,8,8,8,8,8,8,8,8,8,8,8,8,8,8,8,8,8,8,8,8,8,8,8,8,8,8,8,8,8,8,8,8,8,8,8,8,8,8,8,8,8,8,8,8,8,8,8,8,8,8,8,8,8,8,8,8,8,8,8,8,8,8,8,8,8,8,8,8,8,8,8,8,8,8,8,8,8,8,8,8,8,8,8,8,8,8,8,8,8,8,8,8]) i))),[]))) none)))
 (br (A.le 256 x0)
 (br (A.lt 8 0)
 (none)
 (unI (A.conv Asd (A.shr ξ x0 8)) λi=>
 br (i.blt (A.slen (CV [0,1,2,2,3,3,3,3,4,4,4,4,4,4,4,4,5,5,5,5,5,5,5,5,5,5,5,5,5,5,5,5,6,6,6,6,6,6,6,6,6,6,6,6,6,6,6,6,6,6,6,6,6,6,6,6,6,6,6,6,6,6,6,6,7,7,7,7,7,7,7,7,7,7,7,7,7,7,7,7,7,7,7,7,7,7,7,7,7,7,7,7,7,7,7,7,7,7,7,7,7,7,7,7,7,7,7,7,7,7,7,7,7,7,7,7,7,7,7,7,7,7,7,7,7,7,7,7,8,8,8,8,8,8,8,8,8,8,8,8,8,8,8,8,8,8,8,8,8,8,8,8,8,8,8,8,8,8,8,8,8,8,8,8,8,8,8,8,8,8,8,8,8,8,8,8,8,8,8,8,8,8,8,8,8,8,8,8,8,8,8,8,8,8,8,8,8,8,8,8,8,8,8,8,8,8,8,8,8,8,8,8,8,8,8,8,8,8,8,8,8,8,8,8,8,8,8,8,8,8,8,8,8,8,8,8,8,8,8,8,8,8,8,8,8,8,8,8,8,8,8,8,8,8,8,8]))) (some ((iv (A.add Φ (A.add Φ 0 8) (A.conv Φ (A.sat (CV [0,1,2,2,3,3,3,3,4,4,4,4,4,4,4,4,5,5,5,5,5,5,5,5,5,5,5,5,5,5,5,5,6,6,6,6,6,6,6,6,6,6,6,6,6,6,6,6,6,6,6,6,6,6,6,6,6,6,6,6,6,6,6,6,7,7,7,7,7,7,7,7,7,7,7,7,7,7,7,7,7,7,7,7,7,7,7,7,7,7,7,7,7,7,7,7,7,7,7,7,7,7,7,7,7,7,7,7,7,7,7,7,7,7,7,7,7,7,7,7,7,7,7,7,7,7,7,7,8,8,8,8,8,8,8,8,8,8,8,8,8,8,8,8,8,8,8,8,8,8,8,8,8,8,8,8,8,8,8,8,8,8,8,8,8,8,8,8,8,8,8,8,8,8,8,8,8,8,8,8,8,8,8,8,8,8,8,8,8,8,8,8,8,8,8,8,8,8,8,8,8,8,8,8,8,8,8,8,8,8,8,8,8,8,8,8,8,8,8,8,8,8,8,8,8,8,8,8,8,8,8,8,8,8,8,8,8,8,8,8,8,8,8,8,8,8,8,8,8,8,8,8,8,8,8,8]) i))),[]))) none))
 (unI (A.conv Asd x0) λi=>
 br (i.blt (A.slen (CV [0,1,2,2,3,3,3,3,4,4,4,4,4,4,4,4,5,5,5,5,5,5,5,5,5,5,5,5,5,5,5,5,6,6,6,6,6,6,6,6,6,6,6,6,6,6,6,6,6,6,6,6,6,6,6,6,6,6,6,6,6,6,6,6,7,7,7,7,7,7,7,7,7,7,7,7,7,7,7,7,7,7,7,7,7,7,7,7,7,7,7,7,7,7,7,7,7,7,7,7,7,7,7,7,7,7,7,7,7,7,7,7,7,7,7,7,7,7,7,7,7,7,7,7,7,7,7,7,8,8,8,8,8,8,8,8,8,8,8,8,8,8,8,8,8,8,8,8,8,8,8,8,8,8,8,8,8,8,8,8,8,8,8,8,8,8,8,8,8,8,8,8,8,8,8,8,8,8,8,8,8,8,8,8,8,8,8,8,8,8,8,8,8,8,8,8,8,8,8,8,8,8,8,8,8,8,8,8,8,8,8,8,8,8,8,8,8,8,8,8,8,8,8,8,8,8,8,8,8,8,8,8,8,8,8,8,8,8,8,8,8,8,8,8,8,8,8,8,8,8,8,8,8,8,8,8]))) (some ((iv (A.add Φ 0 (A.conv Φ (A.sat (CV [0,1,2,2,3,3,3,3,4,4,4,4,4,4,4,4,5,5,5,5,5,5,5,5,5,5,5,5,5,5,5,5,6,6,6,6,6,6,6,6,6,6,6,6,6,6,6,6,6,6,6,6,6,6,6,6,6,6,6,6,6,6,6,6,7,7,7,7,7,7,7,7,7,7,7,7,7,7,7,7,7,7,7,7,7,7,7,7,7,7,7,7,7,7,7,7,7,7,7,7,7,7,7,7,7,7,7,7,7,7,7,7,7,7,7,7,7,7,7,7,7,7,7,7,7,7,7,7,8,8,8,8,8,8,8,8,8,8,8,8,8,8,8,8,8,8,8,8,8,8,8,8,8,8,8,8,8,8,8,8,8,8,8,8,8,8,8,8,8,8,8,8,8,8,8,8,8,8,8,8,8,8,8,8,8,8,8,8,8,8,8,8,8,8,8,8,8,8,8,8,8,8,8,8,8,8,8,8,8,8,8,8,8,8,8,8,8,8,8,8,8,8,8,8,8,8,8,8,8,8,8,8,8,8,8,8,8,8,8,8,8,8,8,8,8,8,8,8,8,8,8,8,8,8,8,8]) i))),[]))) none)):=by kernel_rfl
end
section
variable {D:Orc} (K:Knows C6 GS D)
include K
theorem ZQ(l:List Nat)(hl:BD l):∀(n:Nat),n<=l.length->Cm l<=n->D.ask (.lp 200 0) [eN l,iv (n:Int)] []=some (.tup [iv 0,eN l,iv (Cm l:Int)],[]):=by
 intro n;have hl':=hl;unfold BD at hl'
 induction n with
 |zero=>
  intro _ ht;refine K.lp' Mn _ rfl (by kernel_rfl) ((TG ..).trans ?_);refine Ak (by omega) ?_;rw[show Cm l=0 by omega];rfl
 |succ n ih=>
  intro hn ht;refine K.lp' Mn _ rfl (by kernel_rfl) ((TG ..).trans ?_);refine Aq (by omega) ?_;rw[show Ag.sub .i64 ((n+1:Nat):Int) 1=(n:Int) from (K9 (i:=n+1) (j:=1) (by omega) (by omega)).trans (by simp)];rw[Av,Aw (Ψ (show n<l.length by omega))];simp only[eL,Qq,ND,DK,Ab]
  by_cases h0:l[n]=0
  .refine Bi (by rw[h0];rfl) ?_
   refine Aa (ih (by omega) (JO ht (by rw[Ψ (show n<l.length by omega),h0]))) ?_;rfl
  .refine AK (by omega) ?_
   have:=Lv (Ψ (show n<l.length by omega)) h0;rw[show Cm l=n+1 by omega];rfl
theorem EL{l:List Nat}(hl:BD l)(h:Limbs l):D.ask (.fn 200) [eN l] []=some (eN (Ah (Ad l)),[]):=by
 refine K.fn' Mn _ rfl ((Ajz ..).trans ?_);rw[Aj];refine Aa (ZQ K l hl _ (φ _) (BZ l)) ?_;simp only[eN,ND,DK,Ab];rw[Av,Aj,P1,KO,GV h];rw[show IK 0 (Cm l) l.length=true by unfold IK;rw[show Apa 0 (Cm l)=true by simp];simpa using BZ l];rfl
variable (C:CloneF D)
include C
theorem Fi{l:List Nat}(hl:BD l)(h:Limbs l):D.ask (.fn 202) [eN l] []=some (.sl 0 0 (Ah (Ad l)).length 1,[.set (Ξ (Ai eL (Ah (Ad l))) true true)]):=by
 refine K.fn' X3 _ rfl ((AjB ..).trans ?_);refine Aa (EL K hl h) ?_;simp only[eN,ND,DK,Ab];have g:=C.nat _ (Df h hl);unfold eN at g;refine Aa g ?_;rfl
theorem Ahe(n:Nat)(h:n<18446744073709551616):D.ask (.fn 184) [.v (.int .u64 (n:Int))] []=some (eN (Ah n),[]):=by
 refine K.fn' X1 _ rfl ((Ajy ..).trans ?_);refine Ak (by decide) ?_;rw[CF,El,CF];have hl:Limbs [n % 4294967296,n / 4294967296 % 4294967296]:=A5 (ApI _ (by omega)) (A5 (ApI _ (by omega)) Bz);have g:=Fi K C (l:=[n % 4294967296,n / 4294967296 % 4294967296]) (by unfold BD;simp) hl;rw[show Ad [n % 4294967296,n / 4294967296 % 4294967296]=n by simp only[Ad];omega]at g;refine Aa g ?_;simp only[ND,DK,Ab];rw[AJ AA _ (by omega)];refine Ae ?_;rw[Bp AA _ rfl];rfl
omit C in
theorem Z7(a b:List Nat)(ha:Limbs a)(hb:Limbs b)(hab:a.length=b.length)(hs:BD a):∀(n:Nat),n<=a.length->D.ask (.lp 201 0) [eN a,eN b,iv ((n:Int)-1)] []
  = some (if Cx (Ad (a.take n)) (Ad (b.take n))=0 then .tup [iv 1] else .tup [bv true,iv (Cx (Ad (a.take n)) (Ad (b.take n)))],[]):=by
 intro n;unfold BD at hs
 induction n with
 |zero=>
  intro _;refine K.lp' Mo _ rfl (by kernel_rfl) ((TH ..).trans ?_);refine Ca (by omega) ?_;rfl
 |succ n ih=>
  intro hn;refine K.lp' Mo _ rfl (by kernel_rfl) ((TH ..).trans ?_);rw[show (((n+1:Nat):Int)-1)=(n:Int) by omega];refine BW (by omega) ?_;have h1:n<a.length:=by omega
  have h2:n<b.length:=by omega
  have e1:a.take (n+1)=a.take n++[a[n]]:=by rw[ApC h1]
  have e2:b.take (n+1)=b.take n++[b[n]]:=by rw[ApC h2]
  rw[e1,e2,LW (ha.take n) (hb.take n) (by simp;omega)];simp only[Av,Aw (Ψ h1),Aw (Ψ h2),eL,Qq,ND,DK,Ab]
  by_cases h3:a[n]<b[n]
  .refine Aq (by omega) ?_
   rw[if_pos h3];rfl
  .refine Ak (by omega) ?_
   rw[if_neg h3]
   by_cases h4:b[n]<a[n]
   .refine Aq (by omega) ?_
    rw[if_pos h4];rfl
   .refine Ak (by omega) ?_
    rw[if_neg h4];rw[show Ag.sub .i64 (n:Int) 1=(n:Int)-1 from C4 (by omega) (by omega)];refine Aa (ih (by omega)) ?_
    by_cases h5:Cx (Ad (a.take n)) (Ad (b.take n))=0
    .rw[if_pos h5];rfl
    .rw[if_neg h5];rfl
omit C in
theorem Z8{a b:List Nat}(hsa:BD a)(ha:Limbs a)(hsb:BD b)(hb:Limbs b):D.ask (.fn 201) [eN a,eN b] []=some (iv (Cx (Ad a) (Ad b)),[]):=by
 have s1:=Df ha hsa;have s2:=Df hb hsb;unfold BD at s1 s2;refine K.fn' Mo _ rfl ((AjA ..).trans ?_);refine Aa (EL K hsa ha) ?_;simp only[eN,ND,DK,Ab];refine Aa (EL K hsb hb) ?_;simp only[eN,ND,DK,Ab,Aj];generalize Ad a=x at *;generalize Ad b=y at *
 by_cases h1:(Ah x).length<(Ah y).length
 .refine Aq (by omega) ?_
  have:=Fl h1;unfold Cx;rw[if_pos this]
 .refine Ak (by omega) ?_
  by_cases h2:(Ah y).length<(Ah x).length
  .refine Aq (by omega) ?_
   have:=Fl h2;unfold Cx;rw[if_neg (by omega),if_pos this]
  .refine Ak (by omega) ?_
   have hx:(Ah x).length=(Ah y).length:=by omega
   have g:=Z7 K (Ah x) (Ah y) (Al x) (Al y) hx s1 (Ah x).length (φ _);rw[Aql,hx,Aql,Ax,Ax]at g;rw[show Ag.sub .i64 ((Ah x).length:Int) 1=((Ah x).length:Int)-1 from C4 (by omega) (by omega),hx];refine Aa g ?_
   by_cases h5:Cx x y=0
   .rw[if_pos h5,h5];rfl
   .rw[if_neg h5];rfl
omit C in
theorem Ahs(a:List Nat)(ha:Limbs a)(hs:BD a)(b:Nat)(hb:0<b)(hb2:b<4294967296):∀(i:Nat) (out:List Nat),i<=a.length->out.length=a.length->out.drop i=HW b (a.drop i)->
  D.ask (.lp 203 0) [eN a,.v (.int .u32 (b:Int)),.sl 0 0 out.length 1,.v (.int .u64 ((Ad (a.drop i) % b:Nat):Int)),iv ((i:Int)-1)] [Ξ (Ai eL out) true true]
   = some (.tup [iv 0,.sl 1 0 a.length 1,.v (.int .u64 ((Ad a % b:Nat):Int))],[.del,.set (Ξ (Ai eL (HW b a)) true true)]):=by
 unfold BD at hs;intro i
 induction i with
 |zero=>
  intro out hi hl hd;rw[χ,χ]at hd;rw[χ,hd,Gr];refine K.lp' Mp _ rfl (by kernel_rfl) ((TI ..).trans ?_);exact OS (by omega)
 |succ i ih=>
  intro out hi hl hd;have h1:i<a.length:=by omega
  have h2:i<out.length:=by omega
  have hx:=ha.get h1;have hm:=ApI (Ad (a.drop (i+1))) hb;have hdc:a.drop i=a[i]::a.drop (i+1):=ω h1;have hr:=VP b a[i] (a.drop (i+1));rw[←hdc]at hr;have hq:HW b (a.drop i)=((Ad (a.drop (i+1)) % b)*4294967296+a[i]) / b::HW b (a.drop (i+1)):=by rw[hdc,HW]
  have hqlt:=TF (b:=b) hm hx;refine K.lp' Mp _ rfl (by kernel_rfl) ((TI ..).trans ?_);rw[show (((i+1:Nat):Int)-1)=(i:Int) by omega];refine BW (by omega) ?_;refine Ak (by decide) ?_;rw[Av,Aw (Ψ h1)];simp only[eL,EN,ND,DK,Ab];rw[Bj (show b<_ by omega)];refine AK (by omega) ?_;rw[Av,BB h2];refine Ae ?_;rw[show Apa (0+i*1+1) (Ai eL out).length=true by rw[AT AA];simp;omega];refine Ae ?_;refine AK (by omega) ?_;have hbig:(Ad (a.drop (i+1)) % b)*4294967296+a[i]<18446744073709551616:=by omega
  rw[Bj (show a[i]<_ by omega),IZ (by omega),MT hx (by omega),Y0 hbig,Y3,Bu hqlt,hr,show Ag.sub .i64 (i:Int) 1=(i:Int)-1 from C4 (by omega) (by omega),CJ _ _ _ h2];have g:=ih (out.set i (((Ad (a.drop (i+1)) % b)*4294967296+a[i]) / b)) (by omega) (by rw[Apl];exact hl) (by
   rw[hq,←hd,ω (by rw[Apl];exact h2),ArE,Aqd (by omega)])
  rw[Apl]at g;refine Aa g ?_;rfl
theorem U4{a:List Nat}(ha:Limbs a)(hs:BD a){b:Nat}(hb:0<b)(hb2:b<4294967296):D.ask (.fn 203) [eN a,.v (.int .u32 (b:Int))] []=some (.tup [eN (Ah (Ad a / b)),.v (.int .u32 ((Ad a % b:Nat):Int))],[]):=by
 have hs':=hs;unfold BD at hs';have g:=Ahs K a ha hs b hb hb2 a.length (Aqj a.length 0) (φ _) (by simp) (by simp[HW]);rw[Arb,Aq4,show Ad [] % b=0 by simp[Ad]]at g;refine K.fn' Mp _ rfl ((AjC ..).trans ?_);rw[Aj,show Apa a.length a.length=true by simp];refine Ae ?_;rw[AL (n:=a.length) (b:=4) (by omega) (by omega)];refine Ae ?_;rw[G0,show Ag.sub .i64 (a.length:Int) 1=(a.length:Int)-1 from C4 (by omega) (by omega)];refine Aa g ?_;simp only[EN,ND,DK,Ab];have hm:=ApI (Ad a) hb;have gt:=Fi K C (l:=HW b a) (by unfold BD;rw[Gr];exact hs') (L6 hb a ha);rw[OF hb]at gt;rw[show Apa (0+a.length*1) (Ai eL (HW b a)).length=true by rw[AT AA,Gr];simp];refine Ae ?_;rw[Bp AA _ (Gr b a).symm];refine Aa gt ?_;simp only[ND,DK,Ab];rw[AJ AA _ (by omega)];refine Ae ?_;rw[Bp AA _ rfl];rw[Bu (by omega)];rfl
end
section
variable {D:Orc} (K:Knows C6 GS D)
include K
theorem Ab4(a:List Nat)(ha:Limbs a)(hs:BD a)(s:Nat)(h31:s<=31):∀(k i:Nat) (out:List Nat) (c:Nat),a.length-i=k->i<=a.length->c<2 ^ s->out.length+k<=2000000000->
  ∃(o:List Nat) (c':Nat),D.ask (.lp 238 0) [iv (s:Int),.sl 0 0 out.length 1,.v (.int .u64 (c:Int)),eN a,iv (a.length:Int),iv (i:Int)] [Ξ (Ai eL out) true true]
   = some (.tup [iv 1,.sl 1 0 o.length 1,.v (.int .u64 (c':Int))],[.del,.set (Ξ (Ai eL o) true true)])/\c'<2 ^ s/\o++[c']=out++Dk (2 ^ s) c (a.drop i):=by
 obtain⟨p0,p31,_⟩:=MS h31;intro k;unfold BD at hs
 induction k with
 |zero=>
  intro i out c hi hle hc ho;refine⟨out,c,?_,hc,?_⟩
  .refine K.lp' Mt _ rfl (by kernel_rfl) ((TJ ..).trans ?_)
   exact CA (by omega)
  .rw[show a.drop i=[] from υ (by omega)]
   rfl
 |succ k ih=>
  intro i out c hi hle hc ho;have hlt:i<a.length:=by omega
  have hx:=ha.get hlt;have hmul:a[i]*2 ^ s<=4294967295*2 ^ s:=Apj _ (by omega);have hb:a[i]*2 ^ s+c<18446744073709551616:=by omega
  have hc2:(a[i]*2 ^ s+c) / 4294967296<2 ^ s:=by
   rw[Ard (by omega)];omega
  rw[show a.drop i=a[i]::a.drop (i+1) from ω hlt];obtain⟨o,c',h1,h2,h3⟩:=ih (i+1) (out++[(a[i]*2 ^ s+c) % 4294967296]) ((a[i]*2 ^ s+c) / 4294967296) (by omega) (by omega) hc2 (by simp;omega);refine⟨o,c',?_,h2,?_⟩
  .refine K.lp' Mt _ rfl (by kernel_rfl) ((TJ ..).trans ?_)
   refine Aq (by omega) ?_;rw[Av,Aw (Ψ hlt)];have hf:Be (out.length+1) 4=true:=AL (by omega) (by omega);have hb1:Apa (0+out.length*1) (Ai eL out).length=true:=AJ AA out (by omega);have e3:∀ s:Nat,ι 0 (κ (0+out.length*1) (Ai eL out))++[.v (.int .u32 (s:Int))]=Ai eL (out++[s]):=λs=>by
    rw[χ,Bf AA out (by omega)];exact Bc eL out s
   rw[η,Apm]at h1;simp only[eL,EN,ND,DK,Ab];refine Ak (by omega) ?_;rw[hf,hb1];refine Ae ?_;refine Ae ?_;refine Ak (by decide) ?_;rw[Bj (by omega),Uy (by omega) (by omega),YX hc hb,CF,El,e3,BC (by omega)];refine Aa h1 ?_;rfl
  .rw[h3,Dk,Ao9]
   rfl
variable (C:CloneF D)
include C
theorem TX{a:List Nat}(ha:Limbs a)(hs0:a.length<=999999998){s:Nat}(h31:s<=31):D.ask (.fn 238) [eN a,iv (s:Int)] []=some (.tup [.sl 0 0 (Ah (Ad a*2 ^ s)).length 1,iv 0],[.set (Ξ (Ai eL (Ah (Ad a*2 ^ s))) true true)]):=by
 obtain⟨p0,p31,_⟩:=MS h31;have hs:BD a:=by unfold BD;omega
 have hsn0:(Ah (Ad a)).length<=999999998:=by rw[Cs a ha];have:=BZ a;omega
 have hsn:=Df ha hs;obtain⟨o,c',g,hc,ho⟩:=Ab4 K (Ah (Ad a)) (Al _) hsn s h31 (Ah (Ad a)).length 0 [] 0 (by omega) (by omega) p0 (by unfold BD at hsn;simp;omega);rw[Apv,χ]at ho;have hlm:Limbs (Dk (2 ^ s) 0 (Ah (Ad a))):=FT _ _ _ (by omega) (Al _) (by omega);have hol:o.length=(Ah (Ad a)).length:=by
  have:=congrArg Asw ho;rw[η,M9]at this;simpa using this
 have gt:=Fi K C (l:=o++[c']) (by unfold BD;rw[η,hol];simp;omega) (by rw[ho];exact hlm);rw[ho,GW,Ax,ApJ,←ho]at gt;unfold BD at hsn;refine K.fn' Mt _ rfl ((AjI ..).trans ?_);refine Ak (by omega) ?_;refine Ak (by omega) ?_;refine Aa (EL K hs ha) ?_;simp only[eN,ND,DK,Ab];refine AK (by decide) ?_;refine AK (by decide) ?_;rw[YY h31,Y1 h31,Aj,WH (by omega),show Ag.add .i64 ((0+(Ah (Ad a)).length:Nat):Int) 1=((0+(Ah (Ad a)).length+1:Nat):Int) from BC (by omega),Av,Av];refine Ae ?_;rw[AL (by omega) (by omega)];refine Ae ?_;refine Aa g ?_;simp only[EN,ND,DK,Ab];rw[AL (n:=o.length+1) (b:=4) (by omega) (by omega),AJ AA o (by omega),Bu (by omega)];have e3:ι 0 (κ (0+o.length*1) (Ai eL o))++[.v (.int .u32 (c':Int))]=Ai eL (o++[c']):=by
  rw[χ,Bf AA o (by omega)];exact Bc eL o c'
 rw[e3,AJ AA (o++[c']) (by simp)];refine Ae ?_;refine Ae ?_;rw[χ,Bf AA (o++[c']) (by simp),show Bh (o.length+1) 1 (Ai eL (o++[c']))=(o++[c']).map eL from by have:=Co AA (o++[c']);rwa [η]at this];refine Ae ?_;refine Ae ?_;refine Aa gt ?_;rfl
omit C in
theorem VC(a:List Nat)(ha:Limbs a)(hs:BD a)(s:Nat)(h31:s<=31):∀(k i:Nat) (out:List Nat),a.length-i=k->i<=a.length->out.length+k<=2000000000->
  ∃ o:List Nat,o=out++EI (2 ^ s) (a.drop i)/\D.ask (.lp 242 0) [eN a,iv (s:Int),.sl 0 0 out.length 1,iv (i:Int)] [Ξ (Ai eL out) true true]
   = some (.tup [iv 0,.sl 1 0 o.length 1],[.del,.set (Ξ (Ai eL o) true true)]):=by
 intro k;unfold BD at hs
 induction k with
 |zero=>
  intro i out hi hle ho;refine⟨out,by rw[show a.drop i=[] from υ (by omega),EI,ApQ],?_⟩;refine K.lp' Mw _ rfl (by kernel_rfl) ((TL ..).trans ?_);rw[Aj];exact CA (by omega)
 |succ k ih=>
  intro i out hi hle ho;have hlt:i<a.length:=by omega
  have hx:=ha.get hlt;rw[show a.drop i=a[i]::a.drop (i+1) from ω hlt,EI];obtain⟨o,ho2,h1⟩:=ih (i+1) (out++[((a.drop (i+1)).headD 0*4294967296+a[i]) / 2 ^ s % 4294967296]) (by omega) (by omega) (by simp;omega);rw[Ao9,Ap4]at ho2;refine⟨o,ho2,?_⟩;clear ho2;rw[show (out++[((a.drop (i+1)).headD 0*4294967296+a[i]) / 2 ^ s % 4294967296]).length=out.length+1 by simp]at h1;refine K.lp' Mw _ rfl (by kernel_rfl) ((TL ..).trans ?_);rw[Aj];refine Aq (by omega) ?_;have hf:Be (out.length+1) 4=true:=AL (by omega) (by omega);have hb1:Apa (0+out.length*1) (Ai eL out).length=true:=AJ AA out (by omega);have e3:∀ s:Nat,ι 0 (κ (0+out.length*1) (Ai eL out))++[.v (.int .u32 (s:Int))]=Ai eL (out++[s]):=λs=>by
   rw[χ,Bf AA out (by omega)];exact Bc eL out s
  rw[BC (by omega)]
  by_cases h2:i+1<a.length
  .have hd:(a.drop (i+1)).headD 0=a[i+1]:=by rw[ω h2];rfl
   have hy:=ha.get h2;rw[hd]at h1;refine Aq (by omega) ?_;rw[Av,Aw (Ψ h2)];simp only[eL,EN,ND,DK,Ab];refine Ak (by decide) ?_;rw[Av,Aw (Ψ hlt)];simp only[eL,EN,ND,DK,Ab];refine Ak (by omega) ?_;rw[hf,hb1,Bj (show a[i+1]<_ by omega),Bj (show a[i]<_ by omega),IZ hy,MT hx hy,PI (by show s<=64;omega),CF,e3];refine Ae ?_;refine Ae ?_;refine Aa h1 ?_;rfl
  .have hd:(a.drop (i+1)).headD 0=0:=by rw[υ (by omega)];rfl
   rw[hd]at h1;refine Ak (by omega) ?_;refine Ak (by decide) ?_;rw[Av,Aw (Ψ hlt)];simp only[eL,EN,ND,DK,Ab];refine Ak (by omega) ?_;rw[hf,hb1,Bj (show a[i]<_ by omega),show Ag.shl .u64 0 32=((0*4294967296:Nat):Int) from IZ (x:=0) (by omega),MT hx (by omega),PI (by show s<=64;omega),CF,e3];refine Ae ?_;refine Ae ?_;refine Aa h1 ?_;rfl
theorem VD{a:List Nat}(ha:Limbs a)(hs:BD a){s:Nat}(h31:s<=31):D.ask (.fn 242) [eN a,iv (s:Int)] []=some (eN (Ah (Ad a / 2 ^ s)),[]):=by
 obtain⟨p0,p31,pq⟩:=MS h31;have hsn:=Df ha hs;obtain⟨o,ho,g⟩:=VC K (Ah (Ad a)) (Al _) hsn s h31 (Ah (Ad a)).length 0 [] (by omega) (by omega) (by unfold BD at hsn;simp;omega);rw[Apv,χ]at ho;subst ho;have hlen:=M0 (2 ^ s) (Ah (Ad a));have gt:=Fi K C (l:=EI (2 ^ s) (Ah (Ad a))) (by unfold BD at *;rw[hlen];exact hsn) (I5 _ _);rw[KU p0 pq _ (Al _),Ax]at gt;unfold BD at hsn;refine K.fn' Mw _ rfl ((AjM ..).trans ?_);refine Aa (EL K hs ha) ?_;simp only[eN,ND,DK,Ab];refine AK (by decide) ?_;refine AK (by decide) ?_;rw[AiU,YY h31,Y1 h31,Aj]
 by_cases h0:Ad a=0
 .rw[h0,Cb,Nat.zero_div,Cb]
  exact OT (by decide)
 .have hne:0<(Ah (Ad a)).length:=by
   rcases Aqh (Ah (Ad a)).length with h|h
   .exact absurd (Q8.1 (Apr h)) h0
   .exact h
  refine Ca (by omega) ?_;rw[K9 (j:=0) (by omega) (by omega),Av,AL (by omega) (by omega)];refine Ae ?_;refine Aa g ?_;simp only[ND,DK,Ab];rw[AJ AA _ (by omega)];refine Ae ?_;rw[Bp AA _ rfl];refine Aa gt ?_;simp only[ND,DK,Ab];rw[AJ AA _ (by omega)];refine Ae ?_;rw[Bp AA _ rfl]
end
theorem LI:∀(m c w:Nat) (u d:List Nat),C8 m c w u d=C8 m c w (u.take d.length) d
 |_,_,_,_,[]=>rfl
 |m,c,w,[],x::d=>by rw[ArO]
 |m,c,w,y::u,x::d=>by
  rw[π,AqI,C8,C8,AqF,AqF,Aqp,Aqp,LI m _ _ u d]
theorem LK:∀(m c w:Nat) (u d:List Nat),CL m c w u d=CL m c w (u.take d.length) d
 |_,_,_,_,[]=>rfl
 |m,c,w,[],x::d=>by rw[ArO]
 |m,c,w,y::u,x::d=>by
  rw[π,AqI,CL,CL,AqF,AqF,Aqp,Aqp,LK m _ _ u d]
theorem LN:∀(c:Nat) (u d:List Nat),CM c u d=CM c (u.take d.length) d
 |_,_,[]=>rfl
 |c,[],x::d=>by rw[ArO]
 |c,y::u,x::d=>by
  rw[π,AqI,CM,CM,AqF,AqF,Aqp,Aqp,LN _ u d]
theorem LM:∀(c:Nat) (u d:List Nat),Cy c u d=Cy c (u.take d.length) d
 |_,_,[]=>rfl
 |c,[],x::d=>by rw[ArO]
 |c,y::u,x::d=>by
  rw[π,AqI,Cy,Cy,AqF,AqF,Aqp,Aqp,LM _ u d]
theorem Hc{l:List Nat}(h:Limbs l){i v:Nat}(hv:v<4294967296):Limbs (l.set i v):=λz hz=>by
 rcases ArS hz with h1|h1
 .exact h z h1
 .rw[h1];exact hv
theorem M7{l:List Nat}{j v:Nat}(h:j<l.length):(l.set j v).take (j+1)=l.take j++[v]:=by
 rw[ApC (by rw[Apl];exact h),ArE,Asi (φ _)]
theorem cuN(n:Int)(f:Int->KR):(KY .u32 [.v (.int .u32 n)] λn y=>EM y (f n))=f n:=by rw[EN];rfl
section
variable {D:Orc} (K:Knows C6 GS D)
include K
theorem AaH(d:List Nat)(hd:Limbs d)(m:Nat)(hm:m<4294967296)(o n:Nat)(hn:d.length<n):∀(k i:Nat) (U:List Nat) (c w:Nat),d.length-i=k->i<=d.length->Limbs U->o+n<=U.length->U.length<=2000000000->c<4294967296->w<=1->
  ∃ U':List Nat,U'=U.take (o+i)++C8 m c w (U.drop (o+i)) (d.drop i)++U.drop (o+d.length) ∧
   D.ask (.lp 240 0) [.sl 0 o n 1,eN d,.v (.int .u64 (m:Int)),.v (.int .u64 (c:Int)),.v (.int .u64 (w:Int)),eN d,iv (d.length:Int),iv (i:Int)] [Ξ (Ai eL U) true true]
    = some (.tup [iv 0,.sl 0 o n 1,eN d,.v (.int .u64 (Do m c (d.drop i):Int)),.v (.int .u64 (CL m c w (U.drop (o+i)) (d.drop i):Int))],[.set (Ξ (Ai eL U') true true)]):=by
 intro k
 induction k with
 |zero=>
  intro i U c w hi hle hU hoU hUl hc hw;obtain rfl:i=d.length:=by omega
  refine⟨U,?_,?_⟩
  .rw[Aq4,C8,ApQ,Ap5]
  .rw[Aq4,Do,CL]
   refine K.lp' Jw _ rfl (by kernel_rfl) ((O5 ..).trans ?_);exact CA (by omega)
 |succ k ih=>
  intro i U c w hi hle hU hoU hUl hc hw;have hlt:i<d.length:=by omega
  have hou:o+i<U.length:=by omega
  have hx:=hd.get hlt;have hy:=hU.get hou;have hp:=Ih hm hx;have hmd:=ApI (m*d[i]+c) (show 0<4294967296 by omega);have hhd:(U.drop (o+i)).headD 0=U[o+i]:=by rw[ω hou];rfl
  have htl:(U.drop (o+i)).tail=U.drop (o+i+1):=by rw[AqV]
  rw[show d.drop i=d[i]::d.drop (i+1) from ω hlt,C8,Do,CL,hhd,htl]
  by_cases hb:U[o+i]<(m*d[i]+c) % 4294967296+w
  .rw[if_pos hb,if_pos hb]
   obtain⟨U',hU',g⟩:=ih (i+1) (U.set (o+i) (U[o+i]+4294967296-((m*d[i]+c) % 4294967296+w))) ((m*d[i]+c) / 4294967296) 1 (by omega) (by omega) (Hc hU (by omega)) (by rw[Apl];exact hoU) (by rw[Apl];exact hUl) (by omega) (φ _);rw[show o+(i+1)=o+i+1 by omega,M7 hou,Aqd (by omega),Aqd (by omega)]at hU';rw[show o+(i+1)=o+i+1 by omega,Aqd (show o+i<o+i+1 by omega)]at g;refine⟨U',by rw[hU'];simp only[Ao9,Ap4,Aqz,Apv],?_⟩;refine K.lp' Jw _ rfl (by kernel_rfl) ((O5 ..).trans ?_);refine Aq (by omega) ?_;rw[Av,Aw (Ψ hlt)];simp only[eL,EN,ND,DK,Ab];refine Ak (by decide) ?_;rw[Av,show ApR i n=true from BB (by omega),show o+i*1=0+(o+i)*1 by omega];refine Ae ?_;refine(GN U _ hou _).trans ?_;simp only[EN,ND,DK,Ab];rw[Bj (show U[o+i]<_ by omega),Bj (show d[i]<_ by omega),IY (by omega),BT (show m*d[i]+c<_ by omega),Ux (by omega),BT (by omega),El];refine Aq (by omega) ?_;rw[Av,show ApR i n=true from BB (by omega)];refine Ae ?_;rw[show o+i*1=0+(o+i)*1 by omega,show Apa (0+(o+i)*1+1) (Ai eL U).length=true by rw[AT AA];simp;omega];refine Ae ?_;rw[show Ag.add .u64 (U[o+i]:Int) 4294967296=((U[o+i]+4294967296:Nat):Int) from BT (y:=4294967296) (by omega),DH (by omega) (by omega),Bu (by omega),CJ _ _ _ hou,BC (by omega)];refine Aa g ?_;rfl
  .rw[if_neg hb,if_neg hb]
   obtain⟨U',hU',g⟩:=ih (i+1) (U.set (o+i) (U[o+i]-((m*d[i]+c) % 4294967296+w))) ((m*d[i]+c) / 4294967296) 0 (by omega) (by omega) (Hc hU (by omega)) (by rw[Apl];exact hoU) (by rw[Apl];exact hUl) (by omega) (ApM _);rw[show o+(i+1)=o+i+1 by omega,M7 hou,Aqd (by omega),Aqd (by omega)]at hU';rw[show o+(i+1)=o+i+1 by omega,Aqd (show o+i<o+i+1 by omega)]at g;refine⟨U',by rw[hU'];simp only[Ao9,Ap4,Aqz,Apv],?_⟩;refine K.lp' Jw _ rfl (by kernel_rfl) ((O5 ..).trans ?_);refine Aq (by omega) ?_;rw[Av,Aw (Ψ hlt)];simp only[eL,EN,ND,DK,Ab];refine Ak (by decide) ?_;rw[Av,show ApR i n=true from BB (by omega),show o+i*1=0+(o+i)*1 by omega];refine Ae ?_;refine(GN U _ hou _).trans ?_;simp only[EN,ND,DK,Ab];rw[Bj (show U[o+i]<_ by omega),Bj (show d[i]<_ by omega),IY (by omega),BT (show m*d[i]+c<_ by omega),Ux (by omega),BT (by omega),El];refine Ak (by omega) ?_;rw[Av,show ApR i n=true from BB (by omega)];refine Ae ?_;rw[show o+i*1=0+(o+i)*1 by omega,show Apa (0+(o+i)*1+1) (Ai eL U).length=true by rw[AT AA];simp;omega];refine Ae ?_;rw[DH (by omega) (by omega),Bu (by omega),CJ _ _ _ hou,BC (by omega)];refine Aa g ?_;rfl
theorem RK{d:List Nat}(hd:Limbs d){m:Nat}(hm:m<4294967296){o:Nat}{U:List Nat}(hU:Limbs U)(hl:o+d.length<U.length)(hUl:U.length<=1000000000) :
  D.ask (.fn 240) [.sl 0 o (d.length+1) 1,eN d,.v (.int .u64 (m:Int))] [Ξ (Ai eL U) true true]
   = some (bv (decide (U[o+d.length]<Do m 0 d+CL m 0 0 (U.drop o) d)),[.set (Ξ (Ai eL (U.take o++(C8 m 0 0 (U.drop o) d++[(U[o+d.length]+4294967296-(Do m 0 d+CL m 0 0 (U.drop o) d)) % 4294967296])++U.drop (o+(d.length+1)))) true true)]):=by
 obtain⟨U',hU',g⟩:=AaH K d hd m hm o (d.length+1) (ArD _) d.length 0 U 0 0 (by omega) (by omega) hU (by omega) (by omega) (by omega) (by omega);simp only[ApJ,χ]at hU' g;have hc:=LH m 0 d hm hd (by omega);have hw:=LJ m 0 0 (U.drop o) d (ApM _);have hul:=hU.get hl;have hlen:U'.length=U.length:=by
  rw[hU'];simp only[η,Apg,AqA,Fj];omega
 have hjl:o+d.length<U'.length:=by omega
 have hpre:(U.take o++C8 m 0 0 (U.drop o) d).length=o+d.length:=by
  rw[η,Apg,Fj];omega
 have hget:U'[o+d.length]=U[o+d.length]:=by
  have:U'[o+d.length]? = U[o+d.length]?:=by
   rw[hU',Apk (by omega),hpre,Arf,Ap3,ApJ]
  rw[Ψ hjl,Ψ hl]at this;injection this
 have hset:∀ v,U'.set (o+d.length) v=U.take o++(C8 m 0 0 (U.drop o) d++[v])++U.drop (o+(d.length+1)):=λv=>by
  rw[hU',Asa _ _ (by omega),hpre,Arf,ω hl,Aqx];simp only[Ao9,Ap4,Aqz,Apv];rw[Apz]
 refine K.fn' Jw _ rfl ((AjK ..).trans ?_);rw[Aj];refine Aa g ?_;simp only[eN,EN,RS,Aj,ND,DK,Ab];rw[show ApR d.length (d.length+1)=true from BB (ArD _),show o+d.length*1=0+(o+d.length)*1 by omega];refine Ae ?_;refine(GN U' _ hjl _).trans ?_;refine(cuN _ _).trans ?_;refine Ae ?_;rw[show Apa (0+(o+d.length)*1+1) (Ai eL U').length=true by rw[AT AA];simp;omega];refine Ae ?_;rw[hget,Bj (by omega),BT (by omega),AiV (by omega) hul,CJ _ _ _ hjl,hset]
 by_cases hb:U[o+d.length]<Do m 0 d+CL m 0 0 (U.drop o) d
 .rw[decide_eq_true hb]
  exact Jk (by omega)
 .rw[decide_eq_false hb]
  exact CA (by omega)
theorem AaJ(d:List Nat)(hd:Limbs d)(o n:Nat)(hn:d.length<n):∀(k i:Nat) (U:List Nat) (c:Nat),d.length-i=k->i<=d.length->Limbs U->o+n<=U.length->U.length<=2000000000->c<=1->
  ∃ U':List Nat,U'=U.take (o+i)++CM c (U.drop (o+i)) (d.drop i)++U.drop (o+d.length) ∧
   D.ask (.lp 241 0) [.sl 0 o n 1,eN d,.v (.int .u64 (c:Int)),eN d,iv (d.length:Int),iv (i:Int)] [Ξ (Ai eL U) true true]
    = some (.tup [iv 0,.sl 0 o n 1,eN d,.v (.int .u64 (Cy c (U.drop (o+i)) (d.drop i):Int))],[.set (Ξ (Ai eL U') true true)]):=by
 intro k
 induction k with
 |zero=>
  intro i U c hi hle hU hoU hUl hc;obtain rfl:i=d.length:=by omega
  refine⟨U,?_,?_⟩
  .rw[Aq4,CM,ApQ,Ap5]
  .rw[Aq4,Cy]
   refine K.lp' Mv _ rfl (by kernel_rfl) ((TK ..).trans ?_);exact CA (by omega)
 |succ k ih=>
  intro i U c hi hle hU hoU hUl hc;have hlt:i<d.length:=by omega
  have hou:o+i<U.length:=by omega
  have hx:=hd.get hlt;have hy:=hU.get hou;have hhd:(U.drop (o+i)).headD 0=U[o+i]:=by rw[ω hou];rfl
  have htl:(U.drop (o+i)).tail=U.drop (o+i+1):=by rw[AqV]
  have hmd:=ApI (U[o+i]+d[i]+c) (show 0<4294967296 by omega);rw[show d.drop i=d[i]::d.drop (i+1) from ω hlt,CM,Cy,hhd,htl];obtain⟨U',hU',g⟩:=ih (i+1) (U.set (o+i) ((U[o+i]+d[i]+c) % 4294967296)) ((U[o+i]+d[i]+c) / 4294967296) (by omega) (by omega) (Hc hU hmd) (by rw[Apl];exact hoU) (by rw[Apl];exact hUl) (by omega);rw[show o+(i+1)=o+i+1 by omega,M7 hou,Aqd (by omega),Aqd (by omega)]at hU';rw[show o+(i+1)=o+i+1 by omega,Aqd (show o+i<o+i+1 by omega)]at g;refine⟨U',by rw[hU'];simp only[Ao9,Ap4,Aqz,Apv],?_⟩;refine K.lp' Mv _ rfl (by kernel_rfl) ((TK ..).trans ?_);refine Aq (by omega) ?_;rw[Av,Aw (Ψ hlt)];simp only[eL,EN,ND,DK,Ab];rw[Av,show ApR i n=true from BB (by omega),show o+i*1=0+(o+i)*1 by omega];refine Ae ?_;refine(GN U _ hou _).trans ?_;simp only[EN,ND,DK,Ab];rw[Av,show ApR i n=true from BB (by omega)];refine Ae ?_;rw[show o+i*1=0+(o+i)*1 by omega,show Apa (0+(o+i)*1+1) (Ai eL U).length=true by rw[AT AA];simp;omega];refine Ae ?_;refine Ak (by decide) ?_;rw[Bj (show U[o+i]<_ by omega),Bj (show d[i]<_ by omega),BT (by omega),BT (by omega),El,CF,CJ _ _ _ hou,BC (by omega)];refine Aa g ?_;rfl
theorem S9{d:List Nat}(hd:Limbs d){o:Nat}{U:List Nat}(hU:Limbs U)(hl:o+d.length<U.length)(hUl:U.length<=1000000000) :
  D.ask (.fn 241) [.sl 0 o (d.length+1) 1,eN d] [Ξ (Ai eL U) true true]
   = some (.tup [],[.set (Ξ (Ai eL (U.take o++(CM 0 (U.drop o) d++[(U[o+d.length]+Cy 0 (U.drop o) d) % 4294967296])++U.drop (o+(d.length+1)))) true true)]):=by
 obtain⟨U',hU',g⟩:=AaJ K d hd o (d.length+1) (ArD _) d.length 0 U 0 (by omega) (by omega) hU (by omega) (by omega) (by omega);simp only[ApJ,χ]at hU' g;have hc:=LL 0 (U.drop o) d (hU.drop o) hd (by omega);have hul:=hU.get hl;have hlen:U'.length=U.length:=by
  rw[hU'];simp only[η,Apg,AqA,DT];omega
 have hjl:o+d.length<U'.length:=by omega
 have hpre:(U.take o++CM 0 (U.drop o) d).length=o+d.length:=by
  rw[η,Apg,DT];omega
 have hget:U'[o+d.length]=U[o+d.length]:=by
  have:U'[o+d.length]? = U[o+d.length]?:=by
   rw[hU',Apk (by omega),hpre,Arf,Ap3,ApJ]
  rw[Ψ hjl,Ψ hl]at this;injection this
 have hset:∀ v,U'.set (o+d.length) v=U.take o++(CM 0 (U.drop o) d++[v])++U.drop (o+(d.length+1)):=λv=>by
  rw[hU',Asa _ _ (by omega),hpre,Arf,ω hl,Aqx];simp only[Ao9,Ap4,Aqz,Apv];rw[Apz]
 refine K.fn' Mv _ rfl ((AjL ..).trans ?_);rw[Aj];refine Aa g ?_;simp only[eN,EN,RS,Aj,ND,DK,Ab];rw[show ApR d.length (d.length+1)=true from BB (ArD _),show o+d.length*1=0+(o+d.length)*1 by omega];refine Ae ?_;refine(GN U' _ hjl _).trans ?_;refine(cuN _ _).trans ?_;refine Ae ?_;rw[show Apa (0+(o+d.length)*1+1) (Ai eL U').length=true by rw[AT AA];simp;omega];refine Ae ?_;rw[hget,Bu (by omega),Aer,CJ _ _ _ hjl,hset]
end
def Gv(f v ul:Nat):Nat->Nat->Nat->Nat
 |0,g,_=>g
 |k+1,g,r=>if 4294967296<=g\/r*4294967296+ul<g*v then(if 4294967296<=r+f then g-1 else Gv f v ul k (g-1) (r+f)) else g
structure Gs (W Dv g:Nat):Prop where
 lt:g<4294967296
 hi:g*Dv<W+Dv
 lo:W<(g+1)*Dv
theorem SM{P f v vl ul wl T W Dv:Nat}(hv:v<4294967296)(hvl:vl<P)(hwl:wl<P)(hf:2147483648<=f)(hDv:Dv=(f*4294967296+v)*P+vl)(hW:W=(T*4294967296+ul)*P+wl)(hWD:W<Dv*4294967296):∀(k g r:Nat),g*f+r=T->W<(g+1)*Dv->r<4294967296->4294967296<=r+k*f->Gs W Dv (Gv f v ul k g r):=by
 have hTV:T<=f*4294967296+v:=by
  by_cases h:T<=f*4294967296+v
  .exact h
  .exfalso
   have h1:(f*4294967296+v+1)*4294967296*P<=(T*4294967296+ul)*P:=Apj _ (by omega);have h2:Dv*4294967296<=(f*4294967296+v+1)*4294967296*P:=by
    rw[hDv,Apo _ 4294967296 P,ApD 4294967296 P,←Apo];exact Apj _ (by rw[ApA _ 1 P,Aqi];omega)
   omega
 have good:∀ g r,g*f+r=T->g<4294967296->g*v<=r*4294967296+ul->W<(g+1)*Dv->Gs W Dv g:=λg r h1 h2 h3 h4=>by
  refine⟨h2,?_,h4⟩;have h5:g*(f*4294967296+v)<=T*4294967296+ul:=by
   rw[←h1,ApW,ApA,Apo];omega
  have:=XW (ul:=wl) hvl (show 4294967296<=f*4294967296+v by omega) (Nat.le_of_lt h2) h5;rw[hDv,hW];exact this
 intro k
 induction k with
 |zero=>intro g r _ _ h1 h2;omega
 |succ k ih=>
  intro g r h1 h2 h3 h4;rw[Gv]
  by_cases hc:4294967296<=g\/r*4294967296+ul<g*v
  .rw[if_pos hc]
   have hg:1<=g:=by
    rcases hc with h|h
    .omega
    .rcases Aqh g with e|e
     .rw[e]at h;omega
     .exact e
   obtain⟨g',rfl⟩:∃ g',g=g'+1:=⟨g-1,by omega⟩;rw[AqO];have hlo:W<(g'+1)*Dv:=by
    rcases hc with h|h
    .have:4294967296*Dv<=(g'+1)*Dv:=Apj _ h
     rw[ApD]at this;omega
    .have h5:T*4294967296+ul<(g'+1)*(f*4294967296+v):=by
      rw[←h1,ApW,ApA,Apo];omega
     have:=XX (vl:=vl) hwl h5;rw[hDv,hW];exact this
   have hr:g'*f+(r+f)=T:=by
    rw[ApA,Aqi]at h1;omega
   by_cases hb:4294967296<=r+f
   .rw[if_pos hb]
    have hgB:g'<4294967296:=by
     by_cases h:g'<4294967296
     .exact h
     .have:4294967296*f<=g'*f:=Apj _ (by omega)
      rw[ApD]at this;omega
    refine good g' (r+f) hr hgB ?_ hlo;have h6:g'*v<=4294967296*4294967296:=Nat.mul_le_mul (by omega) (by omega);have h7:4294967296*4294967296<=(r+f)*4294967296:=Apj _ hb;omega
   .rw[if_neg hb]
    exact ih g' (r+f) hr hlo (by omega) (by rw[ApA,Aqi]at h4;omega)
  .rw[if_neg hc]
   have hc1:¬ 4294967296<=g:=λh=>hc (.inl h)
   have hc2:¬ r*4294967296+ul<g*v:=λh=>hc (.inr h)
   exact good g r h1 (by omega) (by omega) h2
theorem XV{f v T:Nat}(hv:v<4294967296)(hf:2147483648<=f)(h:T<=f*4294967296+v):T / f<=4294967297:=by
 have h1:T<4294967298*f:=by
  rw[show 4294967298*f=f*4294967296+2*f by rw[ApD f];omega];omega
 have:=(Ard (show 0<f by omega)).2 h1;omega
theorem Zy{win d win':List Nat}{ul ul' W Dv g:Nat}(hn:win.length=d.length)(hn':win'.length=d.length)(hd:Limbs d)(hW:Ad (win++[ul])=W)(hDv:Ad d=Dv)(hG:Gs W Dv g){t:Nat}(hlw:Limbs (win'++[ul']))
  (hA:Ad (win'++[ul'])+g*Dv=W+(if ul<t then 4294967296 ^ (d.length+1) else 0)) :
  (¬ ul<t->Ad (win'++[ul'])+g*Dv=W/\Ad (win'++[ul'])<Dv) ∧
  (ul<t->1<=g/\(Ad (win'++[ul'])+Dv) % 4294967296 ^ (d.length+1)+(g-1)*Dv=W/\(Ad (win'++[ul'])+Dv) % 4294967296 ^ (d.length+1)<Dv):=by
 have hlt:=Bm hlw;have hdl:=Bm hd;rw[hDv]at hdl;have hpw:4294967296 ^ (d.length+1)=4294967296 ^ d.length*4294967296:=ApU ..;rw[η,Apm,hn']at hlt;have hlo:=hG.lo;have hhi:=hG.hi;rw[ApA,Aqi]at hlo;refine⟨λh=>?_,λh=>?_⟩
 .rw[if_neg h]at hA
  omega
 .rw[if_pos h]at hA
  have hg:1<=g:=by
   rcases Aqh g with e|e
   .rw[e,Aqu]at hA
    omega
   .exact e
  obtain⟨g',rfl⟩:∃ g',g=g'+1:=⟨g-1,by omega⟩;rw[ApA,Aqi]at hA hhi;rw[AqO];have e:(Ad (win'++[ul'])+Dv) % 4294967296 ^ (d.length+1)=Ad (win'++[ul'])+Dv-4294967296 ^ (d.length+1):=by
   rw[Nat.mod_eq_sub_mod (by omega)];refine Ap1 ?_;omega
  rw[e];omega
end
end Go.Proofs.YtpncilciembjdaaGreatDoor
