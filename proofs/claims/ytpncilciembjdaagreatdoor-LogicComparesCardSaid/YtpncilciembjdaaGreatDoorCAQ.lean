/- slices.Clone over this s -/
import Derived.Maps.AppendAt
import Derived.Test.YtpncilciembjdaaGreatDoorCAM
import Derived.Test.YtpncilciembjdaaGreatDoorCAO
import Derived.Test.YtpncilciembjdaaGreatDoorCAP
set_option linter.all false
open Bool renaming true->Δ,and_eq_true->AtI
open Int renaming fdiv_eq_ediv_of_nonneg->Awl,natCast_mul->AvJ,natCast_pow->Axf,tdiv->Aw8,toNat_natCast->Aw0
open List renaming append_assoc->AtK,append_nil->Auu,cons_append->AuH,drop->AtD,drop_drop->AvC,drop_eq_getElem_cons->ε,drop_eq_nil_of_le->AtM,drop_length->AvD,drop_set_of_lt->AuJ,drop_zero->Aty,eq_nil_of_length_eq_zero->Auc,flatten_cons->AuL,getElem?_append_right->AtW,getElem?_drop->AuA,getElem?_eq_getElem->ξ,getElem_set_self->Av9,headD_cons->AuX,length->Aw6,length_append->κ,length_cons->γ,length_drop->Au8,length_replicate->AvP,length_set->AtX,length_singleton->AtT,length_take->AtV,map_take->Awn,mem_of_mem_drop->AuZ,mem_or_eq_of_mem_set->Aws,mem_replicate->AwW,nil_append->AtZ,replicate->AuQ,set_append_right->AwM,set_cons_zero->Au6,set_eq_take_append_cons_drop->Av5,singleton_append->Au3,tail_cons->Avj,tail_drop->Avv,take->ο,take_append_drop->AuB,take_length->AuS,take_nil->Awo,take_set_of_le->AwU,take_succ_cons->Avl,take_succ_eq_append_getElem->Auh
open Nat renaming add_assoc->Aud,add_comm->Axy,add_mod->AxE,add_mul->Aue,add_mul_div_left->Awe,add_sub_cancel->Au0,add_zero->Aun,ble->AtG,blt->Auq,div_add_mod->Awf,div_lt_iff_lt_mul->AvQ,eq_zero_or_pos->AuO,le_refl->η,lt_succ_self->AuT,min->AuF,min_eq_left->Auy,mod_eq_of_lt->AuK,mod_lt->Auo,mul_add->Auz,mul_assoc->At6,mul_comm->Auj,mul_le_mul_right->AtU,mul_mod->AxF,mul_one->AvA,ne_of_gt->AxC,one_mul->AuP,pow_succ->AuM,sub_self->AvS,zero_add->AtQ,zero_le->At7,zero_mul->Avd
open Option renaming none->Ξ,some->Θ
namespace Go.Proofs.YtpncilciembjdaaGreatDoor
noncomputable section
open ABlk renaming mk->δ
open AV renaming ls->Ψ,sl->χ,tup->υ,v->AtO
open BO renaming set->AtH
open IntKind renaming i64->θ,u32->ζ,u64->Ω,u8->AwO
open Key renaming fn->ω,lp->AtB
open Lib renaming hid->π,run_eql_slice_nil->AwK
open Option.some renaming injEq->φ
open Tryz renaming prog->ι
open Go.RowKit
theorem PT(a:Addr)(j:Nat):(a.add j).block=a.block:=by unfold Addr.add;split<;>rfl
set_option maxRecDepth 100000 in
set_option maxHeartbeats 4000000 in
theorem NT(w:World)(A:Option Addr)(n c:Nat)(us:List Value)(hn:us.length=n*3)(hc:n<=c)(hA:n≠0->∃ g o,A=Θ ⟨g,o,Ξ⟩/\∀ j u,us[j]? = Θ u->w.cell? ⟨g,o+j,Ξ⟩=Θ u)
  (h1:∀ u∈us,u.oneCell'=Δ) (hby:n*40<=140737488355328) :
  Calls ι 135 #[.slice A n c] w λe w'=>∃ v',e=.returned v'/\w'.ownsRow w.heap.size 84 3 v' n us/\Below w.heap.size w w':=by
 obtain⟨i0,hi0,hz0,hz1,hz2⟩:=info_parts (show (Tryz.prog.info? 84).map (λi=>(i.zero,i.size,i.bytes))=Θ (Θ (.agg #[.int .i64 0,.bool false,.slice Ξ 0 0]),3,40) by kernel_rfl);have HU:=π hn;have HA:=π hA;have H1:=π h1;clear hn hA h1;have hq:∀(w:World) (a:Option Addr) (n c:Nat),(binOp .eql 22 (.slice a n c) (.slice Ξ 0 0)).run ι w=.ok (.bool a.isNone) w:=λw a n c=>AwK w _ _ a n c 0 0 Tryz.underlying22
 go_enter Tryz.func135,Tryz.ntmps135
 cases A with
 |none=>
  have h0:n=0:=by
   rcases AuO n with h|h
   .exact h
   .exfalso
    obtain⟨g,o,h2,_⟩:=HA.out (AxC h)
    cases h2
  subst h0
  go_wp2
  go_ret
  have hu:us=[]:=Auc (by rw[HU.out,Avd]);rw[hu];exact⟨_,rfl,World.ownsRow_nil _ _ _ _,Below.refl _ _⟩
 |some ad=>
  obtain⟨ag,ao,asp⟩:=ad;have hcells:∀ j u,us[j]? = Θ u->ag<w.heap.size/\w.cell? ((⟨ag,ao,asp⟩:Addr).add j)=Θ u:=λj u hj=>by
   have hn0:n≠0:=by
    rintro rfl;have hu:us=[]:=Auc (by rw[HU.out,Avd]);rw[hu]at hj
    cases hj
   obtain⟨g,o,h2,h3⟩:=HA.out hn0
   cases h2
   have h5:=h3 j u hj;exact⟨C6 h5,by rw[Hu];exact h5⟩
  have HC:=π hcells;clear hcells
  go_wp2_with (at_builtin;refine wpList_append_own_at _ rfl _ _ 22 rfl w.heap.size 84 i0 (.agg #[.int .i64 0,.bool false,.slice Ξ 0 0]) 3 40 Tryz.underlying22 hi0 hz0 hz1 hz2 rfl (by decide) _ 0 [] rfl ?c0 ⟨ag,ao,asp⟩ n c us rfl HU.out ?c1 H1.out ?c3 ?c4 ?c5 ?_)
  case c0=>exact⟨by simp,.inr ⟨w.heap.size,0,#[],rfl,η _,heap_alloc_new _ _,η _,At7 _,by simp,by simp⟩⟩
  case c1=>
   intro j u hj;have:=HC.out j u hj;exact((AZ w (.cells #[] 84)).cell (p:=(⟨ag,ao,asp⟩:Addr).add j) (by rw[PT];exact this.1)).trans this.2
  case c3=>unfold maxLen;omega
  case c4=>omega
  case c5=>exact(AZ w _).size
  intro v' w3 hown hgrow _ _
  try simp only[AtQ,AtZ]at hown
  have HO:=π hown;have HB:=π ((AZ w (.cells #[] 84)).grown hgrow (AZ w _).size (λk hk=>by have hk:Θ w.heap.size=Θ k:=hk;cases hk;exact η _));clear hown hgrow
  go_wp2_with fail
  go_ret
  exact⟨_,rfl,HO.out,HB.out⟩
set_option maxRecDepth 100000 in
set_option maxHeartbeats 4000000 in
theorem Vd(w:World)(A:Option Addr)(n c:Nat)(us:List Value)(hn:us.length=n*1)(hc:n<=c)(hA:n≠0->∃ g o,A=Θ ⟨g,o,Ξ⟩/\∀ j u,us[j]? = Θ u->w.cell? ⟨g,o+j,Ξ⟩=Θ u)
  (h1:∀ u∈us,u.oneCell'=Δ) (hby:n*4<=140737488355328) :
  Calls ι 236 #[.slice A n c] w λe w'=>∃ v',e=.returned v'/\w'.ownsRow w.heap.size 134 1 v' n us/\Below w.heap.size w w':=by
 obtain⟨i0,hi0,hz0,hz1,hz2⟩:=info_parts (show (Tryz.prog.info? 134).map (λi=>(i.zero,i.size,i.bytes))=Θ (Θ (.int .u32 0),1,4) by kernel_rfl);have HU:=π hn;have HA:=π hA;have H1:=π h1;clear hn hA h1;have hq:∀(w:World) (a:Option Addr) (n c:Nat),(binOp .eql 24 (.slice a n c) (.slice Ξ 0 0)).run ι w=.ok (.bool a.isNone) w:=λw a n c=>AwK w _ _ a n c 0 0 Tryz.underlying24
 go_enter Tryz.func236,Tryz.ntmps236
 cases A with
 |none=>
  have h0:n=0:=by
   rcases AuO n with h|h
   .exact h
   .exfalso
    obtain⟨g,o,h2,_⟩:=HA.out (AxC h)
    cases h2
  subst h0
  go_wp2
  go_ret
  have hu:us=[]:=Auc (by rw[HU.out,Avd]);rw[hu];exact⟨_,rfl,World.ownsRow_nil _ _ _ _,Below.refl _ _⟩
 |some ad=>
  obtain⟨ag,ao,asp⟩:=ad;have hcells:∀ j u,us[j]? = Θ u->ag<w.heap.size/\w.cell? ((⟨ag,ao,asp⟩:Addr).add j)=Θ u:=λj u hj=>by
   have hn0:n≠0:=by
    rintro rfl;have hu:us=[]:=Auc (by rw[HU.out,Avd]);rw[hu]at hj
    cases hj
   obtain⟨g,o,h2,h3⟩:=HA.out hn0
   cases h2
   have h5:=h3 j u hj;exact⟨C6 h5,by rw[Hu];exact h5⟩
  have HC:=π hcells;clear hcells
  go_wp2_with (at_builtin;refine wpList_append_own_at _ rfl _ _ 24 rfl w.heap.size 134 i0 (.int .u32 0) 1 4 Tryz.underlying24 hi0 hz0 hz1 hz2 rfl (by decide) _ 0 [] rfl ?c0 ⟨ag,ao,asp⟩ n c us rfl HU.out ?c1 H1.out ?c3 ?c4 ?c5 ?_)
  case c0=>exact⟨by simp,.inr ⟨w.heap.size,0,#[],rfl,η _,heap_alloc_new _ _,η _,At7 _,by simp,by simp⟩⟩
  case c1=>
   intro j u hj;have:=HC.out j u hj;exact((AZ w (.cells #[] 134)).cell (p:=(⟨ag,ao,asp⟩:Addr).add j) (by rw[PT];exact this.1)).trans this.2
  case c3=>unfold maxLen;omega
  case c4=>omega
  case c5=>exact(AZ w _).size
  intro v' w3 hown hgrow _ _
  try simp only[AtQ,AtZ]at hown
  have HO:=π hown;have HB:=π ((AZ w (.cells #[] 134)).grown hgrow (AZ w _).size (λk hk=>by have hk:Θ w.heap.size=Θ k:=hk;cases hk;exact η _));clear hown hgrow
  go_wp2_with fail
  go_ret
  exact⟨_,rfl,HO.out,HB.out⟩
section
variable {μ:Mu} {F:AN} {w:World} {g:Nat}
theorem WF:∀(xs:List AV) (o:Nat),RepAt μ F w g xs o->∃ us,RepList μ F w xs us/\∀ j u,us[j]? = Θ u->w.cell? ⟨g,o+j,Ξ⟩=Θ u
 |[],o,_=>⟨[],rfl,λj u h=>by simp at h⟩
 |x::r,o,h=>by
  simp only[RepAt]at h;obtain⟨⟨_,u,h2,h3⟩,h4⟩:=h;obtain⟨us,h5,h6⟩:=WF r (o+1) h4;refine⟨u::us,⟨u,us,rfl,h3,h5⟩,λj v hj=>?_⟩
  cases j with
  |zero=>simp at hj;subst hj;exact h2
  |succ j=>
   have:=h6 j v (by simpa using hj)
   rwa [show o+1+j=o+(j+1) by omega]at this
theorem LW{e:Nat}:∀(xs:List (List AV)) (o:Nat),RepRows μ F w g e xs o->∃ us,RepList μ F w xs.flatten us/\∀ j u,us[j]? = Θ u->w.cell? ⟨g,o+j,Ξ⟩=Θ u
 |[],o,_=>⟨[],rfl,λj u h=>by simp at h⟩
 |x::r,o,h=>by
  simp only[RepRows]at h;obtain⟨h1,h2,h3⟩:=h;obtain⟨us,a1,a2⟩:=WF x o h2;obtain⟨vs,b1,b2⟩:=LW r (o+e) h3;refine⟨us++vs,by rw[AuL];exact RepList.append a1 b1,λj v hj=>?_⟩;have hl:us.length=e:=by rw[a1.length,h1]
  by_cases hj2:j<us.length
  .exact a2 j v (by rwa [List.getElem?_append_left hj2]at hj)
  .rw[AtW (by omega),hl]at hj
   have:=b2 (j-e) v hj
   rwa [show o+e+(j-e)=o+j by omega]at this
end
def BI(e B:Nat):List AV->Option (Nat × List AV)
 |[.ls xs]=>if(EO e xs&&F8 (EP xs)&&AQ (EP xs)&&AtG (AI xs*B) 140737488355328)=Δ then Θ (AI xs,EP xs) else Ξ
 |_=>Ξ
theorem Jx{P:Program}{f:Nat}{ety:TypeId}(e B:Nat) (h:∀(w:World) (A:Option Addr) (n c:Nat) (us:List Value),us.length=n*e->n<=c->(n≠0->∃ g o,A=Θ ⟨g,o,Ξ⟩/\∀ j u,us[j]? = Θ u->w.cell? ⟨g,o+j,Ξ⟩=Θ u)->
  (∀ u∈us,u.oneCell'=Δ)->n*B<=140737488355328->Calls P f #[.slice A n c] w λe' w'=>∃ v',e'=.returned v'/\w'.ownsRow w.heap.size ety e v' n us/\Below w.heap.size w w'):Be (Bk P f) (Dj e (BI e B)):=by
 refine IP (Cv P f) e _ λargs n cells hr=>?_
 unfold BI at hr;split at hr
 .rename_i xs
  split at hr
  .rename_i hc
   simp only[AtI,Nat.ble_eq]at hc;obtain⟨⟨⟨c1,c2⟩,c3⟩,c4⟩:=hc;rw[IC]at c1;rw[Ka]at c2 c3;rw[GY]at c4;simp only[φ,Prod.mk.injEq]at hr;obtain⟨rfl,rfl⟩:=hr;rw[GY,Ka];have hlen:xs.flatten.length=xs.length*e:=by
    clear c2 c3 c4
    induction xs with
    |nil=>simp
    |cons x r ih=>
     rw[List.all_cons,AtI]at c1;rw[AuL,κ,ih c1.2,γ,Aue,AuP];have:x.length=e:=by simpa using c1.1
     omega
   refine⟨c3,hlen,λμ F w us hF hus=>?_⟩;obtain⟨v,t,rfl,hv,ht⟩:=hus;have ht:t=[]:=ht;subst ht;unfold Rep at hv;obtain⟨_,A,c,rfl,h2,_,h4⟩:=hv;have key:∃ vs,RepList μ F w xs.flatten vs/\(xs.length≠0->∃ g o,A=Θ ⟨g,o,Ξ⟩/\∀ j u,vs[j]? = Θ u->w.cell? ⟨g,o+j,Ξ⟩=Θ u):=by
    by_cases hx:xs=[]
    .subst hx
     exact⟨[],rfl,λh=>absurd rfl h⟩
    .obtain⟨g,o,e',hA,hr⟩:=h4 hx
     obtain⟨vs,k1,k2⟩:=LW xs o hr;exact⟨vs,k1,λ_=>⟨g,o,hA,k2⟩⟩
   obtain⟨vs,k1,k2⟩:=key;have hone:∀ u∈vs,u.oneCell'=Δ:=λu hu=>by
    obtain⟨j,hj,rfl⟩:=List.getElem_of_mem hu;have hj2:j<xs.flatten.length:=by rw[←k1.length];exact hj
    obtain⟨u,a1,a2⟩:=k1.get (ξ hj2);rw[ξ hj]at a1
    cases a1
    rw[FP]at c2;exact a2.one (List.all_eq_true.1 c2 _ (List.getElem_mem hj2))
   refine Calls.mono (h w A xs.length c vs (by rw[k1.length,hlen]) h2 k2 hone c4) ?_;rintro e' w' ⟨v',rfl,ho,hb⟩;exact⟨v',rfl,ety,vs,ho,hb,k1⟩
  .cases hr
 .cases hr
theorem E5:Be (Bk ι 236) (Dj 1 (BI 1 4)):=Jx 1 4 λw A n c us h1 h2 h3 h4 h5=>Vd w A n c us h1 h2 h3 h4 h5
theorem Jy:Be (Bk ι 135) (Dj 3 (BI 3 40)):=Jx 3 40 λw A n c us h1 h2 h3 h4 h5=>NT w A n c us h1 h2 h3 h4 h5
theorem CX(x:Nat):Af.conv .u32 (x:Int)=((x % 4294967296:Nat):Int):=by
 show IntKind.u32.wrap (x:Int)=_
 rw[IntKind.wrap_u32];omega
theorem Bt{x:Nat}(h:x<4294967296):Af.conv .u32 (x:Int)=(x:Int):=by rw[CX,AuK h]
theorem Bi{x:Nat}(h:x<18446744073709551616):Af.conv .u64 (x:Int)=(x:Int):=by
 show IntKind.u64.wrap (x:Int)=_
 rw[IntKind.wrap_u64];omega
theorem B3{x y:Nat}(h:x+y<18446744073709551616):Af.add .u64 (x:Int) (y:Int)=((x+y:Nat):Int):=by
 show IntKind.u64.wrap ((x:Int)+(y:Int))=_
 rw[IntKind.wrap_u64];omega
theorem Eb{x y:Nat}(h:y<=x)(h2:x<18446744073709551616):Af.sub .u64 (x:Int) (y:Int)=((x-y:Nat):Int):=by
 show IntKind.u64.wrap ((x:Int)-(y:Int))=_
 rw[IntKind.wrap_u64];omega
theorem KO{x y:Nat}(h:x*y<18446744073709551616):Af.mul .u64 (x:Int) (y:Int)=((x*y:Nat):Int):=by
 show IntKind.u64.wrap ((x:Int)*(y:Int))=_
 rw[IntKind.wrap_u64,←AvJ];omega
theorem EV(x:Nat):Af.shr .u64 (x:Int) 32=((x / 4294967296:Nat):Int):=by
 show Int.fdiv (x:Int) (2 ^ 32)=_
 have:(2 ^ 32:Int)=((4294967296:Nat):Int):=by decide
 rw[this,Awl _ (by omega)];rfl
theorem AiI(x y:Nat):Af.add .u32 (x:Int) (y:Int)=(((x+y) % 4294967296:Nat):Int):=by
 show IntKind.u32.wrap ((x:Int)+(y:Int))=_
 rw[IntKind.wrap_u32];omega
theorem Pg{i j:Nat}(h:j<=i)(h2:i<4611686018427387904):Af.sub .i64 (i:Int) (j:Int)=((i-j:Nat):Int):=by
 rw[DW (by omega) (by omega)];omega
theorem Aak{i j:Nat}(h2:i+j<4611686018427387904):Af.add .i64 (i:Int) (j:Int)=((i+j:Nat):Int):=by
 rw[EM (by omega) (by omega)];omega
theorem FW(kd:IntKind)(n:Int)(r:List AV)(k:Int->List AV->KR):MW kd (.v (.int kd n)::r) k=k n r:=by simp[MW]
theorem PP(kd:IntKind)(n:Int)(k:Int->KR):Jo kd (.v (.int kd n)) k=k n:=by simp[Jo]
theorem S7(n:Nat)(k:Int->List AV->KR)(r:List AV):MW .u32 (.v (.int .u32 (n:Int))::r) k=k n r:=rfl
theorem SE(l:List Nat):EO 1 (l.map eL)=Δ:=E8 AB l
theorem AnA(l:List Nat):F8 (EP (l.map eL))=Δ:=by rw[D1];exact Fl (λ_=>rfl) l
theorem Aiy(l:List Nat):AQ (EP (l.map eL))=Δ:=by
 rw[D1]
 induction l with
 |nil=>rfl
 |cons x r ih=>exact ih
theorem MK(l:List Nat)(n:Nat):HM (Iz (l.map eL) n) 0=(l.take n).map eL:=by
 rw[K6,Kk,Aty,Awn]
theorem Ht:∀(a b:List Nat) (c:Nat),(Lk c a b).length=a.length+1
 |[],_,_=>rfl
 |x::a,b,c=>by rw[Lk,γ,Ht a,γ]
theorem Ge{a b:Nat}(h:(Ah a).length<(Ah b).length):a<b:=by
 by_cases h2:a<b
 .exact h2
 .have h3:Ap b=Ap b:=rfl
  have h4:0<(Ah b).length:=by omega
  have hb:4294967296 ^ ((Ah b).length-1)<=b:=by
   by_cases h5:4294967296 ^ ((Ah b).length-1)<=b
   .exact h5
   .have:=Bx (n:=b) (k:=(Ah b).length-1) (by omega)
    omega
  have h6:=Ig (n:=a) (k:=(Ah b).length-1) (by omega);omega
def BX(l:List Nat):Prop:=l.length<=1000000000
theorem DH{l:List Nat}(h:Limbs l)(h2:BX l):BX (Ah (Ad l)):=by
 unfold BX at *;rw[Dz l h];have:=Cx l;omega
structure CloneF (D:Orc):Prop where
 nat:∀ l:List Nat,BX l->D.ask (.fn 236) [eN l] []=Θ (.sl 0 0 l.length 1,[.set (δ (Ag eL l) Δ Δ)])
theorem Lp{l:List Nat}(h:BX l):Dj 1 (BI 1 4) [eN l] []=Θ (.sl 0 0 l.length 1,[.set (δ (Ag eL l) Δ Δ)]):=by
 unfold Dj BI eN;have h4:AtG (AI (l.map eL)*4) 140737488355328=Δ:=by
  rw[Ao];unfold BX at h;simp;omega
 simp only[SE,AnA,Aiy,h4,Bool.and_true,if_true,Option.map_some];rw[Ao,D1]
section
variable {D:Orc} (K:Knows As Jk D)
include K
theorem Ajb(l:List Nat)(hl:BX l):∀(n:Nat),n<=l.length->CE l<=n->D.ask (.lp 200 0) [eN l,iv (n:Int)] []=Θ (.tup [iv 0,eN l,iv (CE l:Int)],[]):=by
 intro n;have hl':=hl;unfold BX at hl'
 induction n with
 |zero=>
  intro _ ht;refine Ay K TE (AaX ..) ?_;refine Ai ?_;rw[show CE l=0 by omega];rfl
 |succ n ih=>
  intro hn ht;refine Ay K TE (AaX ..) ?_;refine Al ?_;rw[show Af.sub .i64 ((n+1:Nat):Int) 1=(n:Int) from (Pg (i:=n+1) (j:=1) (by omega) (by omega)).trans (by simp)];rw[Au,Ax (ξ (show n<l.length by omega))];simp only[eL,S7,ND,DK,Ab]
  by_cases h0:l[n]=0
  .refine AO ?_ (by rw[h0];rfl)
   refine Aa (ih (by omega) (Mc ht (by rw[ξ (show n<l.length by omega),h0]))) ?_;rfl
  .refine Aq ?_
   have:=Nq (ξ (show n<l.length by omega)) h0;rw[show CE l=n+1 by omega];rfl
theorem EZ{l:List Nat}(hl:BX l)(h:Limbs l):D.ask (.fn 200) [eN l] []=Θ (eN (Ah (Ad l)),[]):=by
 refine Aw K TE (ArA ..) ?_;rw[Ao];refine Aa (Ajb K l hl _ (η _) (Cx l)) ?_;simp only[eN,ND,DK,Ab];rw[Au,Ao,SE,MK,IA h];rw[show Jf 0 (CE l) l.length=Δ by unfold Jf;rw[show AtG 0 (CE l)=Δ by simp];simpa using Cx l];rfl
variable (C:CloneF D)
include C
theorem FE{l:List Nat}(hl:BX l)(h:Limbs l):D.ask (.fn 202) [eN l] []=Θ (eN (Ah (Ad l)),[]):=by
 refine Aw K Akm (ArC ..) ?_;refine Aa (EZ K hl h) ?_;simp only[eN,ND,DK,Ab];have g:=C.nat _ (DH h hl);unfold eN at g;refine Aa g ?_;simp only[ND,DK,Ab];rw[AL AB _ (by omega)];refine Ac ?_;rw[Bp AB _ rfl]
theorem AjA(n:Nat)(h:n<18446744073709551616):D.ask (.fn 184) [.v (.int .u64 (n:Int))] []=Θ (eN (Ah n),[]):=by
 refine Aw K Aki (Ars ..) ?_;refine Ai ?_ (by decide);rw[CX,EV,CX];have hl:Limbs [n % 4294967296,n / 4294967296 % 4294967296]:=Bb (Auo _ (by omega)) (Bb (Auo _ (by omega)) BH);have g:=FE K C (l:=[n % 4294967296,n / 4294967296 % 4294967296]) (by unfold BX;simp) hl;rw[show Ad [n % 4294967296,n / 4294967296 % 4294967296]=n by simp only[Ad];omega]at g;refine Aa g ?_;rfl
omit C in
theorem Alo(a b:List Nat)(ha:Limbs a)(hb:Limbs b)(hab:a.length=b.length)(hs:BX a):∀(n:Nat),n<=a.length->D.ask (.lp 201 0) [eN a,eN b,iv ((n:Int)-1)] []
  = Θ (if CM (Ad (a.take n)) (Ad (b.take n))=0 then .tup [iv 1] else .tup [bv Δ,iv (CM (Ad (a.take n)) (Ad (b.take n)))],[]):=by
 intro n;unfold BX at hs
 induction n with
 |zero=>
  intro _;refine Ay K TF (AaY ..) ?_;refine Cn ?_;rfl
 |succ n ih=>
  intro hn;refine Ay K TF (AaY ..) ?_;rw[show (((n+1:Nat):Int)-1)=(n:Int) by omega];refine BV ?_;have h1:n<a.length:=by omega
  have h2:n<b.length:=by omega
  have e1:a.take (n+1)=a.take n++[a[n]]:=by rw[Auh h1]
  have e2:b.take (n+1)=b.take n++[b[n]]:=by rw[Auh h2]
  rw[e1,e2,NU (ha.take n) (hb.take n) (by simp;omega)];simp only[Au,Ax (ξ h1),Ax (ξ h2),eL,S7,ND,DK,Ab]
  by_cases h3:a[n]<b[n]
  .refine Al ?_
   rw[if_pos h3];rfl
  .refine Ai ?_
   rw[if_neg h3]
   by_cases h4:b[n]<a[n]
   .refine Al ?_
    rw[if_pos h4];rfl
   .refine Ai ?_
    rw[if_neg h4];rw[show Af.sub .i64 (n:Int) 1=(n:Int)-1 from DW (by omega) (by omega)];refine Aa (ih (by omega)) ?_
    by_cases h5:CM (Ad (a.take n)) (Ad (b.take n))=0
    .rw[if_pos h5];rfl
    .rw[if_neg h5];rfl
omit C in
theorem U1{a b:List Nat}(hsa:BX a)(ha:Limbs a)(hsb:BX b)(hb:Limbs b):D.ask (.fn 201) [eN a,eN b] []=Θ (iv (CM (Ad a) (Ad b)),[]):=by
 have s1:=DH ha hsa;have s2:=DH hb hsb;unfold BX at s1 s2;refine Aw K TF (ArB ..) ?_;refine Aa (EZ K hsa ha) ?_;simp only[eN,ND,DK,Ab];refine Aa (EZ K hsb hb) ?_;simp only[eN,ND,DK,Ab,Ao];generalize Ad a=x at *;generalize Ad b=y at *
 by_cases h1:(Ah x).length<(Ah y).length
 .refine Al ?_
  have:=Ge h1;unfold CM;rw[if_pos this]
 .refine Ai ?_
  by_cases h2:(Ah y).length<(Ah x).length
  .refine Al ?_
   have:=Ge h2;unfold CM;rw[if_neg (by omega),if_pos this]
  .refine Ai ?_
   have hx:(Ah x).length=(Ah y).length:=by omega
   have g:=Alo K (Ah x) (Ah y) (Ap x) (Ap y) hx s1 (Ah x).length (η _);rw[AuS,hx,AuS,AA,AA]at g;rw[show Af.sub .i64 ((Ah x).length:Int) 1=((Ah x).length:Int)-1 from DW (by omega) (by omega),hx];refine Aa g ?_
   by_cases h5:CM x y=0
   .rw[if_pos h5,h5];rfl
   .rw[if_neg h5];rfl
omit C in
theorem Aah(b:List Nat)(hb:Limbs b)(a:List Nat)(ha:Limbs a)(hs:BX a):∀(k i:Nat) (out:List Nat) (c:Nat),a.length-i=k->i<=a.length->b.length<=a.length->c<=1->out.length+k<=2000000000->
  ∃(o:List Nat) (c':Nat),D.ask (.lp 197 0) [eN b,.sl 0 0 out.length 1,.v (.int .u64 (c:Int)),eN a,iv (a.length:Int),iv (i:Int)] [δ (Ag eL out) Δ Δ]
   = Θ (.tup [iv 0,.sl 1 0 o.length 1,.v (.int .u64 (c':Int))],[.del,.set (δ (Ag eL o) Δ Δ)])/\c'<=1/\o++[c']=out++Lk c (a.drop i) (b.drop i):=by
 intro k;unfold BX at hs
 induction k with
 |zero=>
  intro i out c hi hle hba hc ho;refine⟨out,c,?_,hc,?_⟩
  .refine Ay K TC (AaV ..) ?_
   refine Ai ?_;rfl
  .rw[show a.drop i=[] from AtM (by omega)]
   rfl
 |succ k ih=>
  intro i out c hi hle hba hc ho;have hlt:i<a.length:=by omega
  have hx:=ha.get hlt;have hbd:=D5 (hb.drop i);have hdt:(b.drop i).tail=b.drop (i+1):=by rw[Avv]
  rw[show a.drop i=a[i]::a.drop (i+1) from ε hlt];obtain⟨o,c',h1,h2,h3⟩:=ih (i+1) (out++[(a[i]+(b.drop i).headD 0+c) % 4294967296]) ((a[i]+(b.drop i).headD 0+c) / 4294967296) (by omega) (by omega) hba (by omega) (by simp;omega);refine⟨o,c',?_,h2,?_⟩
  .refine Ay K TC (AaV ..) ?_
   refine Al ?_;rw[Au,Ax (ξ hlt)];have hf:Bf (out.length+1) 4=Δ:=AJ (by omega) (by omega);have hb1:AtG (0+out.length*1) (Ag eL out).length=Δ:=AL AB out (by omega);have e3:∀ s:Nat,AtD 0 (ο (0+out.length*1) (Ag eL out))++[.v (.int .u32 (s:Int))]=Ag eL (out++[s]):=λs=>by
    rw[Aty,Bc AB out (by omega)];exact Bg eL out s
   rw[κ,AtT]at h1;simp only[eL,S7,ND,DK,Ab,Ao];rw[BQ (by omega)]
   by_cases hib:i<b.length
   .have hd:(b.drop i).headD 0=b[i]:=by rw[ε hib];rfl
    rw[hd]at h1 hbd;refine Al ?_;rw[Au,Ax (ξ hib)];simp only[eL,S7,ND,DK,Ab];rw[Bi (by omega),Bi (by omega),B3 (by omega),B3 (by omega),CX,EV,hf,hb1,e3];rw[show a[i]+c+b[i]=a[i]+b[i]+c by omega];refine Ac ?_;refine Ac ?_;refine Ai ?_ (by decide);refine Aa h1 ?_;rfl
   .have hd:(b.drop i).headD 0=0:=by rw[AtM (by omega)];rfl
    rw[hd]at h1;refine Ai ?_;rw[Bi (by omega),B3 (by omega),CX,EV,hf,hb1,e3];rw[show a[i]+c=a[i]+0+c by omega];refine Ac ?_;refine Ac ?_;refine Ai ?_ (by decide);refine Aa h1 ?_;rfl
  .rw[h3,Lk,hdt,AtK]
   rfl
theorem Aln{a b:List Nat}(hsa:a.length<=999999999)(ha:Limbs a)(hsb:b.length<=999999999)(hb:Limbs b):D.ask (.fn 197) [eN a,eN b] []=Θ (eN (Ah (Ad a+Ad b)),[]):=by
 have s1:=DH ha (by unfold BX;omega);have s2:=DH hb (by unfold BX;omega);have t1:(Ah (Ad a)).length<=999999999:=by rw[Dz a ha];have:=Cx a;omega
 have t2:(Ah (Ad b)).length<=999999999:=by rw[Dz b hb];have:=Cx b;omega
 refine Aw K TC (Arx ..) ?_;refine Aa (EZ K (by unfold BX;omega) ha) ?_;simp only[eN,ND,DK,Ab];refine Aa (EZ K (by unfold BX;omega) hb) ?_;simp only[eN,ND,DK,Ab,Ao];generalize Ad a=x at *;generalize Ad b=y at *
 by_cases h1:(Ah x).length<(Ah y).length
 .refine Al ?_
  have hl:Limbs (Lk 0 (Ah y) (Ah x)):=Jq _ _ _ (Ap _) (Ap _) (by omega);obtain⟨o,c',g,hc,ho⟩:=Aah K (Ah x) (Ap x) (Ah y) (Ap y) s2 (Ah y).length 0 [] 0 (by omega) (by omega) (by omega) (by omega) (by unfold BX at s2;simp;omega);rw[AtZ,Aty,Aty]at ho;have hol:o.length=(Ah y).length:=by
   have:=congrArg Aw6 ho;rw[κ,Ht]at this;simpa using this
  have hsx:=s2;unfold BX at hsx;rw[show Af.add .i64 ((Ah y).length:Int) 1=(((Ah y).length+1:Nat):Int) from BQ (by omega),Au];rw[AJ (n:=(Ah y).length+1) (b:=4) (by omega) (by omega)];refine Ac ?_;refine Aa g ?_;simp only[FW,ND,DK,Ab];rw[Bt (by omega)];have e3:AtD 0 (ο (0+o.length*1) (Ag eL o))++[.v (.int .u32 (c':Int))]=Ag eL (o++[c']):=by
   rw[Aty,Bc AB o (by omega)];exact Bg eL o c'
  rw[AJ (n:=o.length+1) (b:=4) (by omega) (by omega),AL AB o (by omega),e3,AL AB (o++[c']) (by simp)];refine Ac ?_;refine Ac ?_;refine Ac ?_;rw[Aty,Bc AB (o++[c']) (by simp),show Bh (o.length+1) 1 (Ag eL (o++[c']))=(o++[c']).map eL from by have:=CG AB (o++[c']);rwa [κ]at this];rw[ho];have gt:=FE K C (l:=Lk 0 (Ah y) (Ah x)) (by unfold BX;rw[Ht];omega) hl;rw[Mh _ _ _ (by omega),AA,AA]at gt;refine Aa gt ?_;rw[show 0+y+x=x+y by omega];rfl
 .refine Ai ?_
  have hl:Limbs (Lk 0 (Ah x) (Ah y)):=Jq _ _ _ (Ap _) (Ap _) (by omega);obtain⟨o,c',g,hc,ho⟩:=Aah K (Ah y) (Ap y) (Ah x) (Ap x) s1 (Ah x).length 0 [] 0 (by omega) (by omega) (by omega) (by omega) (by unfold BX at s1;simp;omega);rw[AtZ,Aty,Aty]at ho;have hol:o.length=(Ah x).length:=by
   have:=congrArg Aw6 ho;rw[κ,Ht]at this;simpa using this
  have hsx:=s1;unfold BX at hsx;rw[show Af.add .i64 ((Ah x).length:Int) 1=(((Ah x).length+1:Nat):Int) from BQ (by omega),Au];rw[AJ (n:=(Ah x).length+1) (b:=4) (by omega) (by omega)];refine Ac ?_;refine Aa g ?_;simp only[FW,ND,DK,Ab];rw[Bt (by omega)];have e3:AtD 0 (ο (0+o.length*1) (Ag eL o))++[.v (.int .u32 (c':Int))]=Ag eL (o++[c']):=by
   rw[Aty,Bc AB o (by omega)];exact Bg eL o c'
  rw[AJ (n:=o.length+1) (b:=4) (by omega) (by omega),AL AB o (by omega),e3,AL AB (o++[c']) (by simp)];refine Ac ?_;refine Ac ?_;refine Ac ?_;rw[Aty,Bc AB (o++[c']) (by simp),show Bh (o.length+1) 1 (Ag eL (o++[c']))=(o++[c']).map eL from by have:=CG AB (o++[c']);rwa [κ]at this];rw[ho];have gt:=FE K C (l:=Lk 0 (Ah x) (Ah y)) (by unfold BX;rw[Ht];omega) hl;rw[Mh _ _ _ (by omega),AA,AA]at gt;refine Aa gt ?_;rw[show 0+x+y=x+y by omega];rfl
omit C in
theorem Alu(b:List Nat)(hb:Limbs b)(a:List Nat)(ha:Limbs a)(hs:BX a):∀(k i:Nat) (out:List Nat) (c:Nat),a.length-i=k->i<=a.length->c<=1->out.length+k<=2000000000->
  D.ask (.lp 198 0) [eN b,.sl 0 0 out.length 1,.v (.int .u64 (c:Int)),eN a,iv (a.length:Int),iv (i:Int)] [δ (Ag eL out) Δ Δ]
   = Θ (.tup [iv 0,.sl 1 0 (out++G8 c (a.drop i) (b.drop i)).length 1],[.del,.set (δ (Ag eL (out++G8 c (a.drop i) (b.drop i))) Δ Δ)]):=by
 intro k;unfold BX at hs
 induction k with
 |zero=>
  intro i out c hi hle hc ho;refine Ay K TD (AaW ..) ?_;refine Ai ?_;rw[show a.drop i=[] from AtM (by omega)];simp only[G8,Auu]
  all_goals rfl
 |succ k ih=>
  intro i out c hi hle hc ho;have hlt:i<a.length:=by omega
  have hx:=ha.get hlt;have hbd:=D5 (hb.drop i);have hdt:(b.drop i).tail=b.drop (i+1):=by rw[Avv]
  rw[show a.drop i=a[i]::a.drop (i+1) from ε hlt,G8,hdt];have h1:=ih (i+1) (out++[if a[i]<(b.drop i).headD 0+c then a[i]+4294967296-((b.drop i).headD 0+c) else a[i]-((b.drop i).headD 0+c)]) (if a[i]<(b.drop i).headD 0+c then 1 else 0) (by omega) (by omega) (by split<;>omega) (by simp;omega);rw[AtK,κ,AtT]at h1;refine Ay K TD (AaW ..) ?_;refine Al ?_;rw[Au,Ax (ξ hlt)];have hf:Bf (out.length+1) 4=Δ:=AJ (by omega) (by omega);have hb1:AtG (0+out.length*1) (Ag eL out).length=Δ:=AL AB out (by omega);have e3:∀ s:Nat,AtD 0 (ο (0+out.length*1) (Ag eL out))++[.v (.int .u32 (s:Int))]=Ag eL (out++[s]):=λs=>by
   rw[Aty,Bc AB out (by omega)];exact Bg eL out s
  simp only[eL,S7,ND,DK,Ab,Ao];rw[BQ (by omega)]
  by_cases hib:i<b.length
  .have hd:(b.drop i).headD 0=b[i]:=by rw[ε hib];rfl
   rw[hd]at h1 hbd;rw[hd];refine Al ?_;rw[Au,Ax (ξ hib)];simp only[eL,S7,ND,DK,Ab];rw[Bi (show a[i]<_ by omega),Bi (show b[i]<_ by omega),B3 (by omega)]
   by_cases hlt2:a[i]<b[i]+c
   .refine Al ?_
    rw[if_pos hlt2,if_pos hlt2]at h1;rw[if_pos hlt2,if_pos hlt2];rw[show (4294967296:Int)=((4294967296:Nat):Int) from rfl,B3 (by omega),show c+b[i]=b[i]+c by omega,Eb (by omega) (by omega),Bt (by omega),hf,hb1,e3];refine Ac ?_;refine Ac ?_;refine Aa h1 ?_;rfl
   .refine Ai ?_
    rw[if_neg hlt2,if_neg hlt2]at h1;rw[if_neg hlt2,if_neg hlt2];rw[show c+b[i]=b[i]+c by omega,Eb (by omega) (by omega),Bt (by omega),hf,hb1,e3];refine Ac ?_;refine Ac ?_;refine Aa h1 ?_;rfl
  .have hd:(b.drop i).headD 0=0:=by rw[AtM (by omega)];rfl
   rw[hd]at h1;rw[hd];refine Ai ?_;rw[Bi (show a[i]<_ by omega)];rw[AtQ]at h1;simp only[show (0:Nat)+c=c by omega]
   by_cases hlt2:a[i]<c
   .refine Al ?_
    rw[if_pos hlt2,if_pos hlt2]at h1;rw[if_pos hlt2,if_pos hlt2];rw[show (4294967296:Int)=((4294967296:Nat):Int) from rfl,B3 (by omega),Eb (by omega) (by omega),Bt (by omega),hf,hb1,e3];refine Ac ?_;refine Ac ?_;refine Aa h1 ?_;rfl
   .refine Ai ?_
    rw[if_neg hlt2,if_neg hlt2]at h1;rw[if_neg hlt2,if_neg hlt2];rw[Eb (by omega) (by omega),Bt (by omega),hf,hb1,e3];refine Ac ?_;refine Ac ?_;refine Aa h1 ?_;rfl
def NZ(x y:Nat):AV:=if y<=x then .tup [eN (Ah (x-y)),bv Δ] else .tup [eN [],bv false]
theorem Aaj{a b:List Nat}(hsa:BX a)(ha:Limbs a)(hsb:BX b)(hb:Limbs b):D.ask (.fn 198) [eN a,eN b] []=Θ (NZ (Ad a) (Ad b),[]):=by
 have s1:=DH ha hsa;have s2:=DH hb hsb;refine Aw K TD (Ary ..) ?_;refine Aa (EZ K hsa ha) ?_;simp only[eN,ND,DK,Ab];refine Aa (EZ K hsb hb) ?_;simp only[eN,ND,DK,Ab,Ao];have gc:=U1 K s1 (Ap _) s2 (Ap _);rw[AA,AA]at gc;refine Aa gc ?_;simp only[ND,DK,Ab];generalize Ad a=x at *;generalize Ad b=y at *;unfold NZ;unfold BX at s1 s2
 by_cases h1:x<y
 .rw[show CM x y=-1 by unfold CM;rw[if_pos h1]]
  refine Al ?_ (by decide);rw[if_neg (by omega)];rfl
 .refine Ai ?_ (by unfold CM;rw[if_neg h1];split<;>omega)
  rw[if_pos (by omega)];have hle:(Ah y).length<=(Ah x).length:=by
   by_cases h:(Ah x).length<(Ah y).length
   .have:=Ge h;omega
   .omega
  rw[AJ (n:=(Ah x).length) (b:=4) (by omega) (by omega)];refine Ac ?_;have g:=Alu K (Ah y) (Ap y) (Ah x) (Ap x) s1 (Ah x).length 0 [] 0 (by omega) (by omega) (by omega) (by simp;omega);refine Aa g ?_;simp only[ND,DK,Ab,Aty,AtZ];rw[AL AB _ (by omega)];refine Ac ?_;rw[Bp AB _ rfl];have gt:=FE K C (l:=G8 0 (Ah x) (Ah y)) (by unfold BX;rw[K5];exact s1) (G9 _ _ _ (Ap _) (Ap _) (by omega));rw[US (Ap _) (Ap _) hle (by rw[AA,AA];omega),AA,AA]at gt;refine Aa gt ?_;rfl
end
theorem AcH{x c r:Nat}(hc:c<2 ^ r)(hx:x*2 ^ r+c<18446744073709551616):Af.bits .or .u64 ((x*2 ^ r:Nat):Int) (c:Int)=((x*2 ^ r+c:Nat):Int):=by
 show IntKind.u64.wrap ((BitVec.ofInt 64 ((x*2 ^ r:Nat):Int) ||| BitVec.ofInt 64 (c:Int)).toNat:Int)=_
 have e:x*2 ^ r ||| c=x*2 ^ r+c:=by
  rw[Auj];exact(Nat.two_pow_add_eq_or_of_lt hc x).symm
 rw[BitVec.ofInt_natCast,BitVec.ofInt_natCast,BitVec.toNat_or,BitVec.toNat_ofNat,BitVec.toNat_ofNat,AuK (show x*2 ^ r<2 ^ 64 by omega),AuK (show c<2 ^ 64 by omega),e,IntKind.wrap_u64];omega
theorem XQ{x:Nat}(hx:x<18446744073709551616):Af.bits .and .u64 (x:Int) 4294967295=((x % 4294967296:Nat):Int):=by
 show IntKind.u64.wrap ((BitVec.ofInt 64 (x:Int) &&& BitVec.ofInt 64 4294967295).toNat:Int)=_
 have e:x &&& 4294967295=x % 4294967296:=Nat.and_two_pow_sub_one_eq_mod x 32;rw[BitVec.ofInt_natCast,show BitVec.ofInt 64 4294967295=BitVec.ofNat 64 4294967295 from rfl,BitVec.toNat_and,BitVec.toNat_ofNat,BitVec.toNat_ofNat,AuK (show x<2 ^ 64 by omega),show 4294967295 % 2 ^ 64=4294967295 from rfl,e,IntKind.wrap_u64];omega
theorem XS{x r:Nat}(hr:r<=64)(hx:x*2 ^ r<18446744073709551616):Af.shl .u64 (x:Int) (r:Int)=((x*2 ^ r:Nat):Int):=by
 show IntKind.u64.wrap ((x:Int)*2 ^ (AuF (r:Int).toNat 64))=_
 rw[Aw0,show AuF r 64=r from Auy hr,show ((x:Int)*2 ^ r)=((x*2 ^ r:Nat):Int) by rw[AvJ,Axf];rfl,IntKind.wrap_u64];omega
theorem KP{x:Nat}(hx:x<4294967296):Af.shl .u64 (x:Int) 32=((x*4294967296:Nat):Int):=XS (r:=32) (by omega) (by show x*4294967296<_;omega)
theorem O0{x c:Nat}(hc:c<4294967296)(hx:x<4294967296):Af.bits .or .u64 ((x*4294967296:Nat):Int) (c:Int)=((x*4294967296+c:Nat):Int):=AcH (r:=32) hc (by show x*4294967296+c<_;omega)
theorem AcI{s:Nat}(h:s<=31):Af.quo .i64 (s:Int) 32=((0:Nat):Int):=by
 show IntKind.i64.wrap (Aw8 (s:Int) ((32:Nat):Int))=_
 rw[show Aw8 (s:Int) ((32:Nat):Int)=((s / 32:Nat):Int) from rfl,Nat.div_eq_of_lt (by omega)];rfl
theorem AcL{s:Nat}(h:s<=31):Af.rem .i64 (s:Int) 32=(s:Int):=by
 show Int.tmod (s:Int) ((32:Nat):Int)=_
 rw[show Int.tmod (s:Int) ((32:Nat):Int)=((s % 32:Nat):Int) from rfl,AuK (by omega)]
theorem AnF(s:Nat):Af.max (s:Int) 0=(s:Int):=by
 show (if(s:Int)<0 then(0:Int) else(s:Int))=_
 rw[if_neg (by omega)]
theorem OZ{s:Nat}(h:s<=31):0<2 ^ s/\2 ^ s<=2147483648/\2 ^ s*2 ^ (32-s)=4294967296:=by
 refine⟨Nat.two_pow_pos s,Nat.pow_le_pow_right (n:=2) (by omega) h,?_⟩;rw[←Nat.pow_add,show s+(32-s)=32 by omega]
theorem R7{k:IntKind}{x r:Nat}(hr:r<=k.bits):Af.shr k (x:Int) (r:Int)=((x / 2 ^ r:Nat):Int):=by
 show Int.fdiv (x:Int) (2 ^ (AuF (r:Int).toNat k.bits))=_
 rw[Aw0,show AuF r k.bits=r from Auy hr,show (2 ^ r:Int)=((2 ^ r:Nat):Int) by rw[Axf];rfl,Awl _ (Int.natCast_nonneg _)];rfl
theorem AcK{x y:Nat}(hx:x<18446744073709551616):Af.quo .u64 (x:Int) (y:Int)=((x / y:Nat):Int):=by
 show IntKind.u64.wrap (Aw8 (x:Int) (y:Int))=_
 have:=Nat.div_le_self x y;rw[show Aw8 (x:Int) (y:Int)=((x / y:Nat):Int) from rfl];generalize x / y=q at *;rw[IntKind.wrap_u64];omega
theorem AcN(x y:Nat):Af.rem .u64 (x:Int) (y:Int)=((x % y:Nat):Int):=by
 rfl
theorem AnG{x y:Nat}(hy:y<=4294967296)(hx:x<4294967296):Af.conv .u32 (Af.sub .u64 (x:Int) (y:Int))=(((x+4294967296-y) % 4294967296:Nat):Int):=by
 show IntKind.u32.wrap (IntKind.u64.wrap ((x:Int)-(y:Int)))=_
 rw[IntKind.wrap_u64,IntKind.wrap_u32];omega
theorem Pe(m:Nat):∀(a:List Nat) (c:Nat),(DN m c a).length=a.length+1
 |[],_=>rfl
 |x::a,c=>by rw[DN,γ,Pe m a,γ]
def Jz(b:Nat):List Nat->List Nat
 |[]=>[]
 |x::r=>((Ad r % b)*4294967296+x) / b::Jz b r
theorem HL(b:Nat):∀ l,(Jz b l).length=l.length
 |[]=>rfl
 |x::r=>by rw[Jz,γ,HL b r,γ]
theorem WO{b s x:Nat}(hs:s<b)(hx:x<4294967296):(s*4294967296+x) / b<4294967296:=by
 rw[AvQ (by omega)];have:(s+1)*4294967296<=b*4294967296:=AtU _ hs;rw[Auj 4294967296 b];omega
theorem NY{b:Nat}(hb:0<b):∀ l,Limbs l->Limbs (Jz b l)
 |[],_=>BH
 |x::r,h=>Bb (WO (Auo _ hb) h.cons.1) (NY hb r h.cons.2)
theorem Zm(b x:Nat)(r:List Nat):((Ad r % b)*4294967296+x) % b=Ad (x::r) % b:=by
 rw[Ad,AxE,AxF,Nat.mod_mod,←AxF,←AxE,Auj,Axy]
theorem QY{b:Nat}(hb:0<b):∀ l,Ad (Jz b l)=Ad l / b
 |[]=>by simp[Jz,Ad]
 |x::r=>by
  rw[Jz,Ad,Ad,QY hb r];have h1:=Awf (Ad r) b;generalize Ad r / b=q at h1 ⊢;generalize Ad r % b=s at h1 ⊢;rw[←h1];have e:x+4294967296*(b*q+s)=(s*4294967296+x)+b*(4294967296*q):=by
   rw[Auz,←At6,←At6,Auj b 4294967296];omega
  rw[e,Awe _ _ hb]
def Fp(P:Nat):List Nat->List Nat
 |[]=>[]
 |x::r=>((r.headD 0*4294967296+x) / P) % 4294967296::Fp P r
theorem O6(P:Nat):∀ l,(Fp P l).length=l.length
 |[]=>rfl
 |x::r=>by rw[Fp,γ,O6 P r,γ]
theorem KW(P:Nat):∀ l,Limbs (Fp P l)
 |[]=>BH
 |x::r=>Bb (Auo _ (by omega)) (KW P r)
theorem Wb{P Q h k x V:Nat}(hP:0<P)(hPQ:P*Q=4294967296)(hx:x<4294967296)(hV:V=h+4294967296*k):(h*4294967296+x) / P % 4294967296+4294967296*(V / P)=(x+4294967296*V) / P:=by
 have e1:(h*4294967296+x) / P=h*Q+x / P:=by
  rw[←hPQ,show h*(P*Q)+x=x+P*(h*Q) by rw[←At6,Auj h P,At6];omega,Awe _ _ hP,Axy]
 have e2:(x+4294967296*V) / P=x / P+Q*V:=by
  rw[←hPQ,show x+P*Q*V=x+P*(Q*V) by rw[At6],Awe _ _ hP]
 have hxP:x / P<Q:=by
  rw[AvQ hP,Auj,hPQ];exact hx
 have h1:=Awf V P;have h2:=Auo V hP;have e3:Q*V=4294967296*(V / P)+Q*(V % P):=by
  rw[←hPQ];have:Q*V=Q*(P*(V / P)+V % P):=by rw[h1]
  rw[this,Auz,←At6,Auj Q P]
 have e4:(h*Q+x / P) % 4294967296=Q*(V % P)+x / P:=by
  have e5:h*Q+4294967296*(k*Q)=4294967296*(V / P)+Q*(V % P):=by
   rw[←e3,hV,Auz,Auj h Q,←At6,←At6,Auj Q 4294967296,At6,At6,Auj Q k]
  have hb:Q*(V % P)+x / P<4294967296:=by
   have:Q*(V % P+1)<=Q*P:=Nat.mul_le_mul_left _ h2;rw[Auz,AvA,Auj Q P,hPQ]at this;omega
  have e6:h*Q+x / P+4294967296*(k*Q)=(Q*(V % P)+x / P)+4294967296*(V / P):=by omega
  have e7:=congrArg (· % 4294967296) e6;simp only[Nat.add_mul_mod_self_left]at e7;rw[e7,AuK hb]
 rw[e1,e2,e3,e4];omega
theorem MR{P Q:Nat}(hP:0<P)(hPQ:P*Q=4294967296):∀ l,Limbs l->Ad (Fp P l)=Ad l / P
 |[],_=>by simp[Fp,Ad]
 |x::r,h=>by
  rw[Fp,Ad,Ad,MR hP hPQ r h.cons.2];exact Wb hP hPQ h.cons.1 (He r)
def eC(n:Nat):AV:=.v (.int .u32 (n:Int))
theorem Ed:∀ l:List Nat,Ag eL l=l.map eC
 |[]=>rfl
 |x::r=>by
  have ih:=Ed r;unfold Ag at ih ⊢;rw[List.flatMap_cons,ih];rfl
theorem C0(l:List Nat)(i v:Nat)(h:i<l.length):AF (Ag eL l) (0+i*1) [.v (.int .u32 (v:Int))]=Ag eL (l.set i v):=by
 rw[Ed,Ed,Av5,if_pos h];unfold AF;simp only[AtQ,AvA,List.map_append,List.map_cons,Awn,List.map_drop,AtT];rw[AtK];rfl
theorem Iq(l:List Nat)(i:Nat)(h:i<l.length)(k:List AV->KR):EW (Ag eL l) (0+i*1) 1 k=k [.v (.int .u32 (l[i]:Int))]:=by
 have hx:(Ag eL l)[i]? = Θ (.v (.int .u32 (l[i]:Int))):=by
  rw[Ed,List.getElem?_map,ξ h];rfl
 obtain⟨hl,hx⟩:=List.getElem?_eq_some_iff.1 hx;unfold EW;have:AtG (0+i*1+1) (Ag eL l).length=Δ:=by simp;omega
 rw[this];simp only[AtQ,AvA];rw[ε hl,hx];rfl
theorem IE(n:Nat):BS [.v (.int .u32 0)] (n*1)=Ag eL (AuQ n 0):=by
 rw[Ed,AvA];unfold BS;rw[List.map_replicate];refine List.ext_getElem (by simp) λi h1 h2=>?_
 simp[Nat.mod_one,eC]
theorem Qx:∀(x:Nat) (b o:List Nat) (c:Nat),(OM x c b o).drop (b.length+1)=o.drop (b.length+1)
 |x,[],o,c=>by
  rw[OM]
  cases o<;>simp
 |x,y::b,o,c=>by
  rw[OM,γ,List.drop_succ_cons,Qx x b o.tail]
  cases o with
  |nil=>simp
  |cons z o=>rfl
def Hs(j:Nat)(l:List Nat):Prop:=∀ y∈l.drop j,y=0
theorem Aaa{j:Nat}{l:List Nat}(h:Hs j l):(l.drop j).headD 0=0:=by
 unfold Hs at h
 cases e:l.drop j with
 |nil=>rfl
 |cons z r=>
  rw[e]at h;exact h z (List.mem_cons_self ..)
theorem By{a b:Nat}(h:a<b):Auq a b=Δ:=by simpa using h
section
variable {D:Orc} (K:Knows As Jk D)
include K
theorem Zr(a b:List Nat)(hb:Limbs b)(i:Nat)(hi:i<a.length)(hsz:a.length+b.length<=1000000000)(x:Nat)(hx:x<4294967296):∀(m k:Nat) (out:List Nat) (c:Nat),b.length-k=m->k<=b.length->Limbs out->c<4294967296->out.length=a.length+b.length->
  ∃(o:List Nat) (c':Nat),D.ask (.lp 243 1) [eN b,.sl 0 0 out.length 1,iv (i:Int),.v (.int .u32 (x:Int)),.v (.int .u64 (c:Int)),eN a,iv (a.length:Int),iv (i:Int),eN b,iv (b.length:Int),iv (k:Int)] [δ (Ag eL out) Δ Δ]
   = Θ (.tup [iv 2,eN b,.sl 1 0 out.length 1,iv (i:Int),.v (.int .u64 (c':Int)),eN a,iv (a.length:Int),iv (i:Int)],[.del,.set (δ (Ag eL o) Δ Δ)])
   ∧ c'<4294967296/\Limbs o/\o.length=out.length/\o.set (i+b.length) c'=out.take (i+k)++OM x c (b.drop k) (out.drop (i+k)):=by
 intro m
 induction m with
 |zero=>
  intro k out c hm hk ho hc hlen;obtain rfl:k=b.length:=by omega
  refine⟨out,c,?_,hc,ho,rfl,?_⟩
  .refine Ay K Mv (Aa6 ..) ?_
   refine Ai ?_;rfl
  .rw[AvD,OM,Av5,if_pos (by omega),Avv]
 |succ m ih=>
  intro k out c hm hk ho hc hlen;have hlt:k<b.length:=by omega
  have hik:i+k<out.length:=by omega
  have hy:=hb.get hlt;have hz:=ho.get hik;have hp:=JM hx hy;have hd:(out.drop (i+k)).headD 0=out[i+k]:=by rw[ε hik];rfl
  obtain⟨o,c',h1,h2,h3,h4,h5⟩:=ih (k+1) (out.set (i+k) ((x*b[k]+out[i+k]+c) % 4294967296)) ((x*b[k]+out[i+k]+c) / 4294967296) (by omega) (by omega)
   (λz hz'=>by
    rcases Aws hz' with h|h
    .exact ho z h
    .rw[h];exact Auo _ (by omega)) (by omega) (by rw[AtX];exact hlen)
  rw[AtX]at h1 h4;refine⟨o,c',?_,h2,h3,h4,?_⟩
  .refine Ay K Mv (Aa6 ..) ?_
   refine Al ?_;rw[Au,Ax (ξ hlt)];simp only[eL,FW,ND,DK,Ab];rw[Aak (by omega),Au,By hik];refine Ac ?_;refine(Iq out _ hik _).trans ?_;simp only[FW,ND,DK,Ab];rw[Au,By hik];refine Ac ?_;rw[show AtG (0+(i+k)*1+1) (Ag eL out).length=Δ by rw[AT AB];simp;omega];refine Ac ?_;refine Ai ?_ (by decide);rw[Bi (show x<_ by omega),Bi (show b[k]<_ by omega),Bi (show out[i+k]<_ by omega),KO (by omega),B3 (by omega),B3 (by omega),CX,EV,C0 _ _ _ hik,BQ (by omega)];refine Aa h1 ?_;rfl
  .rw[h5,ε hlt,OM,hd]
   have e1:ο (i+(k+1)) (out.set (i+k) ((x*b[k]+out[i+k]+c) % 4294967296))=out.take (i+k)++[(x*b[k]+out[i+k]+c) % 4294967296]:=by
    rw[show i+(k+1)=i+k+1 by omega,Auh (by rw[AtX];exact hik),Av9,AwU (η _)]
   have e2:AtD (i+(k+1)) (out.set (i+k) ((x*b[k]+out[i+k]+c) % 4294967296))=(out.drop (i+k)).tail:=by
    rw[AuJ (by omega),Avv];rfl
   rw[e1,e2,AtK];rfl
theorem Zs(a b:List Nat)(ha:Limbs a)(hb:Limbs b)(hsz:a.length+b.length<=1000000000):∀(m i:Nat) (out:List Nat),a.length-i=m->i<=a.length->Limbs out->out.length=a.length+b.length->Hs (i+b.length) out->
  ∃ o:List Nat,D.ask (.lp 243 0) [eN b,.sl 0 0 out.length 1,eN a,iv (a.length:Int),iv (i:Int)] [δ (Ag eL out) Δ Δ]=Θ (.tup [iv 0,.sl 1 0 o.length 1],[.del,.set (δ (Ag eL o) Δ Δ)])
   ∧ Limbs o/\o.length=out.length/\Ad o=Ad out+4294967296 ^ i*Ad (a.drop i)*Ad b:=by
 intro m
 induction m with
 |zero=>
  intro i out hm hi ho hlen hz;refine⟨out,?_,ho,rfl,?_⟩
  .refine Ay K Mv (Aa5 ..) ?_
   refine Ai ?_;rfl
  .rw[show a.drop i=[] from AtM (by omega)]
   simp[Ad]
 |succ m ih=>
  intro i out hm hi ho hlen hz;have hlt:i<a.length:=by omega
  have hx:=ha.get hlt;obtain⟨o,c',g1,g2,g3,g4,g5⟩:=Zr K a b hb i hlt hsz a[i] hx b.length 0 out 0 (by omega) (by omega) ho (by omega) hlen;rw[Aun,Aty]at g5;have hdl:(out.drop i).length=a.length+b.length-i:=by rw[Au8];omega
  have hlm:Limbs (o.set (i+b.length) c'):=by
   rw[g5];exact CJ (ho.take i) (ON _ _ _ _ hx hb (ho.drop i) (by omega))
  have hhead:((out.drop i).drop b.length).headD 0=0:=by
   rw[AvC];exact Aaa hz
  have hv:Ad (o.set (i+b.length) c')=Ad out+4294967296 ^ i*(a[i]*Ad b):=by
   rw[g5,BG,QZ _ _ _ _ hhead];have e:Ad out=Ad (out.take i)+4294967296 ^ i*Ad (out.drop i):=by
    have:=BG (out.take i) (out.drop i);rw[AuB,AtV,Auy (by omega)]at this;exact this
   rw[e,AtV,Auy (by omega),Aun,Auz];omega
  have hz2:Hs (i+1+b.length) (o.set (i+b.length) c'):=by
   unfold Hs;rw[g5,List.drop_append,AtM (by rw[AtV];omega),AtZ,AtV,Auy (by omega),show i+1+b.length-i=b.length+1 by omega,Qx,AvC];intro y hy;exact hz y (by
    have:AtD (i+(b.length+1)) out=AtD 1 (AtD (i+b.length) out):=by rw[AvC];rfl
    rw[this]at hy;exact AuZ hy)
  obtain⟨o2,k1,k2,k3,k4⟩:=ih (i+1) (o.set (i+b.length) c') (by omega) (by omega) hlm (by rw[AtX,g4,hlen]) hz2;rw[AtX,g4]at k1 k3;refine⟨o2,?_,k2,k3,?_⟩
  .refine Ay K Mv (Aa5 ..) ?_
   refine Al ?_;rw[Au,Ax (ξ hlt)];simp only[eL,FW,Ao,ND,DK,Ab];refine Aa g1 ?_;simp only[eN,FW,Ao,ND,DK,Ab];rw[Aak (by omega),Au,By (by omega)];refine Ac ?_;rw[show AtG (0+(i+b.length)*1+1) (Ag eL o).length=Δ by rw[AT AB];simp;omega];refine Ac ?_;rw[Bt g2,C0 _ _ _ (by omega),BQ (by omega)];refine Aa k1 ?_;rfl
  .rw[k4,hv,ε hlt,Ad,AuM]
   have e1:4294967296 ^ i*(a[i]+4294967296*Ad (AtD (i+1) a))*Ad b=4294967296 ^ i*(a[i]*Ad b)+4294967296 ^ i*4294967296*Ad (AtD (i+1) a)*Ad b:=by
    rw[Auz,Aue,At6 _ a[i],At6 (4294967296 ^ i) 4294967296]
   rw[e1];omega
variable (C:CloneF D)
include C
theorem Zt{a b:List Nat}(ha:Limbs a)(hb:Limbs b)(hsz:a.length+b.length<=1000000000):D.ask (.fn 243) [eN a,eN b] []=Θ (eN (Ah (Ad a*Ad b)),[]):=by
 obtain⟨o,k1,k2,k3,k4⟩:=Zs K a b ha hb hsz a.length 0 (AuQ (a.length+b.length) 0) (by omega) (by omega) (λx hx=>by rw[(AwW.1 hx).2];omega) (by simp) (λy hy=>(AwW.1 (AuZ hy)).2);rw[AvP]at k1 k3;have hz:∀ n,Ad (AuQ n 0)=0:=λn=>by
  induction n with
  |zero=>rfl
  |succ n ih=>rw[List.replicate_succ,Ad,ih]
 rw[hz,Aty,Nat.pow_zero,AuP,AtQ]at k4;refine Aw K Mv (ArJ ..) ?_;rw[Ao,Ao,Aak (by omega)];simp only[Au];rw[show AtG (a.length+b.length) (a.length+b.length)=Δ by simp,AJ (n:=a.length+b.length) (b:=4) (by omega) (by omega),IE];refine Ac ?_;refine Ac ?_;refine Aa k1 ?_;simp only[ND,DK,Ab];rw[AL AB _ (by omega)];refine Ac ?_;rw[Bp AB _ rfl];have gt:=FE K C (l:=o) (by unfold BX;omega) k2;rw[k4]at gt;refine Aa gt ?_;rfl
theorem Als{a b:List Nat}(hsa:a.length<=400000000)(ha:Limbs a)(hsb:b.length<=400000000)(hb:Limbs b)(h24:a.length<24\/b.length<24):D.ask (.fn 212) [eN a,eN b] []=Θ (eN (Ah (Ad a*Ad b)),[]):=by
 have t1:(Ah (Ad a)).length<=a.length:=by rw[Dz a ha];exact Cx a
 have t2:(Ah (Ad b)).length<=b.length:=by rw[Dz b hb];exact Cx b
 refine Aw K Akn (ArF ..) ?_;refine Aa (EZ K (by unfold BX;omega) ha) ?_;simp only[eN,ND,DK,Ab];refine Aa (EZ K (by unfold BX;omega) hb) ?_;simp only[eN,ND,DK,Ab,Ao];have g:=Zt K C (Ap (Ad a)) (Ap (Ad b)) (by omega);rw[AA,AA]at g
 by_cases h1:(Ah (Ad a)).length<24
 .refine Al ?_
  refine Aa g ?_;rfl
 .refine Ai ?_
  refine Al ?_;refine Aa g ?_;rfl
end
section
open Go.RowKit
def Ds:List (Nat × Nat):=[(239,0),(240,0),(241,0)]
def RO:MFn:=AC [⟨21,(mB 9),[],[],[(1,((mB 9),([],[])))]⟩] 200
def Oh:Hnt:=⟨[],[(0,[(1,([.ls,.int .i64],[]))])],[(12,[.int .u32]),(13,[.int .u32])]⟩
def Ach:MFn:=LO ι Bz [] Δ false 202
def AbH:Hnt:=⟨[(200,(.ls,[])),(236,(.sl 0 1,[.row Δ]))],[],[]⟩
def Acg:MFn:=AC [] 184
def AbG:Hnt:=⟨[(202,(.sl 0 1,[.row Δ]))],[],[]⟩
def RQ:MFn:=AC [⟨49,(mB 35),[],[],[(0,((mB 16),([],[]))),(2,([],([],[])))]⟩] 201
def Oi:Hnt:=⟨[(200,(.ls,[]))],[(0,[(0,([.int .i64],[])),(2,([],[]))])],[(32,[.int .u32]),(33,[.int .u32]),(36,[.int .u32]),(37,[.int .u32]),(42,[.int .u32]),(43,[.int .u32]),(46,[.int .u32]),(47,[.int .u32])]⟩
def RR:MFn:=AC [⟨44,(mB 451),[],[],[(1,((mB 192),([],[])))]⟩] 203
def Oj:Hnt:=⟨[(202,(.sl 0 1,[.row Δ]))],[(0,[(1,([.sl 1 1,.int .u64],[.del,.row Δ]))])],[(24,[.int .u32]),(25,[.int .u32]),(35,[.int .u32])]⟩
def RV:MFn:=AC [⟨67,(mB 931),[],[],[(1,((mB 256),([],[])))]⟩] 239
def RE:Hnt:=⟨[],[(0,[(1,([.int .u64],[.keep]))])],[(14,[.int .u32]),(15,[.int .u32]),(21,[.int .u32]),(22,[.int .u32]),(28,[.int .u32]),(29,[.int .u32]),(44,[.int .u32]),(45,[.int .u32]),(53,[.int .u32]),(54,[.int .u32])]⟩
def RW:MFn:=AC [⟨74,(mB 917895),[],[],[(1,((mB 387),([],[1000000])))]⟩] 240
def Lx:Hnt:=⟨[],[(0,[(1,([.slo 0 1,.ls,.int .u64,.int .u64],[.row Δ]))])],[(22,[.int .u32]),(23,[.int .u32]),(38,[.int .u32]),(39,[.int .u32]),(52,[.int .u32]),(61,[.int .u32]),(62,[.int .u32]),(70,[.int .u32])]⟩
def RX:MFn:=AC [⟨42,(mB 1811),[],[],[(1,((mB 19),([],[1000000])))]⟩] 241
def On:Hnt:=⟨[],[(0,[(1,([.slo 0 1,.ls,.int .u64],[.row Δ]))])],[(13,[.int .u32]),(14,[.int .u32]),(17,[.int .u32]),(18,[.int .u32]),(29,[.int .u32]),(36,[.int .u32]),(37,[.int .u32]),(41,[.int .u32])]⟩
def RU:MFn:=LO ι Bz [⟨58,(mB 30064771968),[(8,1)],[],[(2,((mB 768),([],[])))]⟩] Δ false 238
def Om:Hnt:=⟨[(200,(.ls,[])),(202,(.sl 0 1,[.row Δ]))],[(0,[(2,([.sl 1 1,.int .u64],[.del,.row Δ]))])],[(36,[.int .u32]),(37,[.int .u32])]⟩
def RY:MFn:=AC [⟨61,(mB 449),[(7,1)],[],[(1,((mB 128),([],[])))]⟩] 242
def Oo:Hnt:=⟨[(200,(.ls,[])),(202,(.sl 0 1,[.row Δ]))],[(0,[(1,([.sl 1 1],[.del,.row Δ]))])],[(42,[.int .u32]),(43,[.int .u32]),(50,[.int .u32]),(51,[.int .u32])]⟩
def RS:MFn:=AC [⟨96,(mB 14544),[],[7],[(1,((mB 6224),([],[])))]⟩] 204
def Lw:Hnt:=⟨[(202,(.sl 0 1,[.row Δ])),(237,(.int .i64,[])),(238,(.tup [.sl 0 1,.int .i64],[.row Δ])),(239,(.int .u64,[.keep])),(240,(.bool,[.row Δ])),(241,(.tup [],[.row Δ])),(242,(.ls,[]))],[(0,[(1,([.sl 2 1,.int .i64,.sl 3 1,.int .i64],[.del,.del,.row Δ,.row Δ]))])],[(19,[.int .u32]),(20,[.int .u32]),(88,[.int .u32])]⟩
def Acf:MFn:=AC [] 144
def AbF:Hnt:=⟨[(184,(.ls,[])),(200,(.ls,[])),(201,(.int .i64,[])),(202,(.sl 0 1,[.row Δ])),(203,(.tup [.ls,.int .u32],[])),(204,(.tup [.ls,.ls],[]))],[],[(31,[.int .u32]),(32,[.int .u32])]⟩
def Amr:MFn:=AC [⟨25,[Δ,Δ],[],[],[(1,([Δ],([],[])))]⟩] 205
def Acj:MFn:=AC [] 237
def AbI:Hnt:=⟨[(222,(.int .i64,[]))],[],[]⟩
def Aci:MFn:=AC [] 222
def Ol:Hnt:=⟨[],[],[]⟩
def Jl:List (Nat × MFn):=[(200,RO),(202,Ach),(184,Acg),(201,RQ),(203,RR),(239,RV),(240,RW),(241,RX),(238,RU),(242,RY),(204,RS),(144,Acf),(205,Amr),(237,Acj),(222,Aci)]
variable (A:Ar) (D:Orc)
theorem AoE(x0:Rw):BZ A D Ds Oh .n 200 RO [Ψ x0] [] =
 Ae D (AtB 200 0) [Ψ x0,iv ↑(AI x0)] [] [.t,.C,.x,.X,.Y] λc l o=>
 br (Bn 1 c)
 (dk [.L,.I,.N,.E] [.l l,.o o] λxs n=>
 unI n λi=>
 br (Jf 0 i (AI xs)) (br (EO 1 xs) (Θ ((Ψ (HM (Iz xs i) 0),[]))) Ξ) Ξ)
 (Ξ):=by kernel_rfl
theorem WR(t0:Rw)(t3:Int):Dy A D Ds Oh .n 200 0 (AU RO 0).fst (AU RO 0).snd [Ψ t0,iv t3] [] =
 br (A.lt 0 t3)
 (unI (A.sub θ t3 1) λi=>
 BC t0 i λcs=>
 dk [.J .u32,.N] [.l cs] λn=>
 br (A.eq n 0)
 (AG D (AtB 200 0) [Ψ t0,iv (A.sub θ t3 1)] [] λr o=>
 AE 0 [] (AH.mk [] 0 Ξ) [] r o)
 (Θ ((υ [iv 0,Ψ t0,iv t3],[]))))
 (Θ ((υ [iv 0,Ψ t0,iv t3],[]))):=by kernel_rfl
theorem AoG(x0:Rw):BZ A D Ds AbH .n 202 Ach [Ψ x0] [] =
 Ae D (ω 200) [Ψ x0] [] [.l,.E] λxs=>
 Ae D (ω 236) [Ψ xs] [] [.q 0 1,.R,.X,.E] λn cs=>
 Θ ((χ 0 0 n 1,[AtH (δ cs Δ Δ)])):=by kernel_rfl
theorem AoD(x0:Int):BZ A D Ds AbG .n 184 Acg [AtO (Value.int Ω x0)] [] =
 br (A.lt 32 0)
 (Ξ)
 (Ae D (ω 202) [Ψ [[AtO (Value.int ζ (A.conv ζ x0))],[AtO (Value.int ζ (A.conv ζ (A.shr Ω x0 32)))]]] [] [.q 0 1,.R,.X,.E] λn cs=>
 br ((0+n*1).ble cs.length) (Θ ((Ψ (Bh n 1 (ο (n*1) cs)),[]))) Ξ):=by kernel_rfl
theorem AoF(x0 x1:Rw):BZ A D Ds Oi .n 201 RQ [Ψ x0,Ψ x1] [] =
 Ae D (ω 200) [Ψ x0] [] [.l,.E] λxs=>
 Ae D (ω 200) [Ψ x1] [] [.l,.E] λxs1=>
 br (A.lt ↑(AI xs) ↑(AI xs1))
 (Θ ((iv (-1),[])))
 (br (A.lt ↑(AI xs1) ↑(AI xs))
 (Θ ((iv 1,[])))
 (Ae D (AtB 201 0) [Ψ xs,Ψ xs1,iv (A.sub θ (↑(AI xs)) 1)] [] [.t,.C,.x,.X,.Y] λc l o2=>
 br (Bn 0 c)
 (dk [.I,.N,.E] [.l l,.o o2] λn=>
 Θ ((iv n,[])))
 (br (Bn 2 c)
 (Fv l<|
 DE o2<|
 Θ ((iv 0,[])))
 (Ξ)))):=by kernel_rfl
theorem WS(t0 t1:Rw)(t5:Int):Dy A D Ds Oi .n 201 0 (AU RQ 0).fst (AU RQ 0).snd [Ψ t0,Ψ t1,iv t5] [] =
 br (A.le 0 t5)
 (unI t5 λi=>
 BC t0 i λcs=>
 dk [.J .u32,.N] [.l cs] λn=>
 unI t5 λi1=>
 BC t1 i1 λcs1=>
 dk [.J .u32,.N] [.l cs1] λn1=>
 br (A.lt n n1)
 (Θ ((υ [bv Δ,iv (-1)],[])))
 (unI t5 λi2=>
 BC t0 i2 λcs2=>
 dk [.J .u32,.N] [.l cs2] λn2=>
 unI t5 λi3=>
 BC t1 i3 λcs3=>
 dk [.J .u32,.N] [.l cs3] λn3=>
 br (A.lt n3 n2)
 (Θ ((υ [bv Δ,iv 1],[])))
 (AG D (AtB 201 0) [Ψ t0,Ψ t1,iv (A.sub θ t5 1)] [] λr o=>
 AE 0 [] (AH.mk [] 0 Ξ) [] r o)))
 (Θ ((υ [iv 1],[]))):=by kernel_rfl
theorem AoH(x0:Rw)(x1:Int):BZ A D Ds Oj .n 203 RR [Ψ x0,AtO (Value.int ζ x1)] [] =
 br ((AI x0).ble (AI x0)) (br (Bf (AI x0) 4) (AG D (AtB 203 0) [Ψ x0,AtO (Value.int ζ x1),χ 0 0 (AI x0) 1,AtO (Value.int Ω 0),iv (A.sub θ (↑(AI x0)) 1)] [δ (BS [AtO (Value.int ζ 0)] (AI x0*1)) Δ Δ] λr o=>
 dk [.t,.C,.x,.X] [.v r] λc l=>
 br (Bn 1 c)
 (dk [.C,.q 1 1,.J .u64,.N,.D,.R,.X,.E] [.l l,.o o] λn n1 cs1=>
 br ((0+n*1).ble cs1.length) (AG D (ω 202) [Ψ (Bh n 1 (ο (n*1) cs1))] [] λr1 o1=>
 dk [.q 0 1,.R,.X,.E] [.v r1,.o o1] λn2 cs2=>
 br ((0+n2*1).ble cs2.length) (Θ ((υ [Ψ (Bh n2 1 (ο (n2*1) cs2)),AtO (Value.int ζ (A.conv ζ n1))],[]))) Ξ) Ξ)
 (Ξ)) Ξ) Ξ:=by kernel_rfl
theorem WT(t0:Rw)(t1:Int)(n6:Nat)(c6:List AV)(t7 t8:Int):Dy A D Ds Oj (.b (.b (.b .n (.b .n (.f .n))) .n) .n) 203 0 (AU RR 0).fst (AU RR 0).snd [Ψ t0,AtO (Value.int ζ t1),χ 0 0 n6 1,AtO (Value.int Ω t7),iv t8] [{ cells:=c6,st:=Δ,ex:=Δ }] =
 br (A.le 0 t8)
 (br (A.lt 32 0)
 (Ξ)
 (unI t8 λi=>
 BC t0 i λcs=>
 dk [.J .u32,.N] [.l cs] λn=>
 br (A.eq (A.conv Ω t1) 0)
 (Ξ)
 (unI t8 λi1=>
 br (i1.blt n6) (br ((0+i1*1+1).ble c6.length) (br (A.eq (A.conv Ω t1) 0) Ξ (AG D (AtB 203 0) [Ψ t0,AtO (Value.int ζ t1),χ 0 0 n6 1,AtO (Value.int Ω (A.rem Ω (A.bits BinOp.or Ω (A.shl Ω t7 32) (A.conv Ω n)) (A.conv Ω t1))),iv (A.sub θ t8 1)] [δ (AF c6 (0+i1*1) [AtO (Value.int ζ (A.conv ζ (A.quo Ω (A.bits BinOp.or Ω (A.shl Ω t7 32) (A.conv Ω n)) (A.conv Ω t1))))]) Δ Δ] λr o=>
 AE 1 [0] (AH.mk [(0,δ (AF c6 (0+i1*1) [AtO (Value.int ζ (A.conv ζ (A.quo Ω (A.bits BinOp.or Ω (A.shl Ω t7 32) (A.conv Ω n)) (A.conv Ω t1))))]) Δ Δ)] 1 Ξ) [0] r o)) Ξ) Ξ)))
 (Θ ((υ [iv 0,χ 1 0 n6 1,AtO (Value.int Ω t7)],[BO.del,AtH (δ c6 Δ Δ)]))):=by kernel_rfl
theorem AoN(o0 n0:Nat)(c0:List AV)(x1:Rw):BZ A D Ds RE (.b .n (.b .n (.f .n))) 239 RV [χ 0 o0 n0 1,Ψ x1] [{ cells:=c0,st:=Δ,ex:=Δ }] =
 br ((AI x1).blt n0) (EW c0 (o0+AI x1*1) 1 λcs=>
 dk [.J .u32,.N] [.l cs] λn=>
 br (A.lt 32 0)
 (Ξ)
 (unI (A.sub θ (↑(AI x1)) 1) λi=>
 br (i.blt n0) (EW c0 (o0+i*1) 1 λcs1=>
 dk [.J .u32,.N] [.l cs1] λn1=>
 unI (A.sub θ (↑(AI x1)) 1) λi1=>
 BC x1 i1 λcs2=>
 dk [.J .u32,.N] [.l cs2] λn2=>
 br (A.eq (A.conv Ω n2) 0)
 (Ξ)
 (br (A.eq (A.conv Ω n2) 0) Ξ (AG D (AtB 239 0) [χ 0 o0 n0 1,Ψ x1,iv ↑(AI x1),AtO (Value.int Ω (A.conv Ω n2)),AtO (Value.int Ω (A.quo Ω (A.bits BinOp.or Ω (A.shl Ω (A.conv Ω n) 32) (A.conv Ω n1)) (A.conv Ω n2))),AtO (Value.int Ω (A.rem Ω (A.bits BinOp.or Ω (A.shl Ω (A.conv Ω n) 32) (A.conv Ω n1)) (A.conv Ω n2)))] [δ c0 Δ Δ] λr o=>
 dk [.t,.C,.x,.X] [.v r] λc l3=>
 br (Bn 1 c)
 (dk [.J .u64,.N,.K,.E] [.l l3,.o o] λn3=>
 Θ ((AtO (Value.int Ω n3),[BO.keep])))
 (Ξ)))) Ξ)) Ξ:=by kernel_rfl
theorem Aex(o0 n0:Nat)(c0:List AV)(t1:Rw)(t5 t7 t8 t9:Int):Dy A D Ds RE .n 239 0 (AU RV 0).fst (AU RV 0).snd [χ 0 o0 n0 1,Ψ t1,iv t5,AtO (Value.int Ω t7),AtO (Value.int Ω t8),AtO (Value.int Ω t9)] [{ cells:=c0,st:=Δ,ex:=Δ }] =
 br (A.le 4294967296 t8)
 (br (A.le 4294967296 (A.add Ω t9 t7))
 (Θ ((υ [iv 0,AtO (Value.int Ω (A.sub Ω t8 1))],[BO.keep])))
 (AG D (AtB 239 0) [χ 0 o0 n0 1,Ψ t1,iv t5,AtO (Value.int Ω t7),AtO (Value.int Ω (A.sub Ω t8 1)),AtO (Value.int Ω (A.add Ω t9 t7))] [δ c0 Δ Δ] λr o=>
 AE 1 [0] (AH.mk [(0,δ c0 Δ Δ)] 1 Ξ) [] r o))
 (unI (A.sub θ t5 2) λi=>
 BC t1 i λcs=>
 dk [.J .u32,.N] [.l cs] λn=>
 br (A.lt 32 0)
 (Ξ)
 (unI (A.sub θ t5 2) λi1=>
 br (i1.blt n0) (EW c0 (o0+i1*1) 1 λcs1=>
 dk [.J .u32,.N] [.l cs1] λn1=>
 br (A.lt (A.bits BinOp.or Ω (A.shl Ω t9 32) (A.conv Ω n1)) (A.mul Ω t8 (A.conv Ω n)))
 (br (A.le 4294967296 (A.add Ω t9 t7))
 (Θ ((υ [iv 0,AtO (Value.int Ω (A.sub Ω t8 1))],[BO.keep])))
 (AG D (AtB 239 0) [χ 0 o0 n0 1,Ψ t1,iv t5,AtO (Value.int Ω t7),AtO (Value.int Ω (A.sub Ω t8 1)),AtO (Value.int Ω (A.add Ω t9 t7))] [δ c0 Δ Δ] λr o=>
 AE 1 [0] (AH.mk [(0,δ c0 Δ Δ)] 1 Ξ) [] r o))
 (Θ ((υ [iv 0,AtO (Value.int Ω t8)],[BO.keep])))) Ξ)):=by kernel_rfl
theorem AoO(o0 n0:Nat)(c0:List AV)(x1:Rw)(x2:Int):BZ A D Ds Lx .n 240 RW [χ 0 o0 n0 1,Ψ x1,AtO (Value.int Ω x2)] [{ cells:=c0,st:=Δ,ex:=Δ }] =
 Ae D (AtB 240 0) [χ 0 o0 n0 1,Ψ x1,AtO (Value.int Ω x2),AtO (Value.int Ω 0),AtO (Value.int Ω 0),Ψ x1,iv ↑(AI x1),iv 0] [δ c0 Δ Δ] [.t,.C,.x,.X,.Y] λc l o=>
 br (Bn 1 c)
 (Eh l λc1 l1=>
 QU 0 1 c1 λo1 n=>
 dk [.L,.J .u64,.J .u64,.N,.R,.X,.E] [.l l1,.o o] λxs n1 n2 cs1=>
 br ((AI xs).blt n) (EW cs1 (o1+AI xs*1) 1 λcs2=>
 dk [.J .u32,.N] [.l cs2] λn3=>
 br ((AI xs).blt n) (br ((o1+AI xs*1+1).ble cs1.length) (br (A.lt (A.conv Ω n3) (A.add Ω n1 n2))
 (Θ ((bv Δ,[AtH (δ (AF cs1 (o1+AI xs*1) [AtO (Value.int ζ (A.conv ζ (A.sub Ω (A.conv Ω n3) (A.add Ω n1 n2))))]) Δ Δ)])))
 (Θ ((bv false,[AtH (δ (AF cs1 (o1+AI xs*1) [AtO (Value.int ζ (A.conv ζ (A.sub Ω (A.conv Ω n3) (A.add Ω n1 n2))))]) Δ Δ)])))) Ξ) Ξ) Ξ)
 (Ξ):=by kernel_rfl
theorem Ru(o0 n0:Nat)(c0:List AV)(t1 t17:Rw)(t2 t7 t8 t18 t19:Int):Dy A D Ds Lx .n 240 0 (AU RW 0).fst (AU RW 0).snd [χ 0 o0 n0 1,Ψ t1,AtO (Value.int Ω t2),AtO (Value.int Ω t7),AtO (Value.int Ω t8),Ψ t17,iv t18,iv t19] [{ cells:=c0,st:=Δ,ex:=Δ }] =
 br (A.lt t19 t18)
 (unI t19 λi=>
 BC t17 i λcs=>
 dk [.J .u32,.N] [.l cs] λn=>
 br (A.lt 32 0)
 (Ξ)
 (unI t19 λi1=>
 br (i1.blt n0) (EW c0 (o0+i1*1) 1 λcs1=>
 dk [.J .u32,.N] [.l cs1] λn1=>
 br (A.lt (A.conv Ω n1) (A.add Ω (A.bits BinOp.and Ω (A.add Ω (A.mul Ω t2 (A.conv Ω n)) t7) 4294967295) t8))
 (unI t19 λi2=>
 br (i2.blt n0) (br ((o0+i2*1+1).ble c0.length) (AG D (AtB 240 0) [χ 0 o0 n0 1,Ψ t1,AtO (Value.int Ω t2),AtO (Value.int Ω (A.shr Ω (A.add Ω (A.mul Ω t2 (A.conv Ω n)) t7) 32)),AtO (Value.int Ω 1),Ψ t17,iv t18,iv (A.add θ t19 1)] [δ (AF c0 (o0+i2*1) [AtO (Value.int ζ (A.conv ζ (A.sub Ω (A.add Ω (A.conv Ω n1) 4294967296) (A.add Ω (A.bits BinOp.and Ω (A.add Ω (A.mul Ω t2 (A.conv Ω n)) t7) 4294967295) t8))))]) Δ Δ] λr o=>
 AE 1 [0] (AH.mk [(0,δ (AF c0 (o0+i2*1) [AtO (Value.int ζ (A.conv ζ (A.sub Ω (A.add Ω (A.conv Ω n1) 4294967296) (A.add Ω (A.bits BinOp.and Ω (A.add Ω (A.mul Ω t2 (A.conv Ω n)) t7) 4294967295) t8))))]) Δ Δ)] 1 Ξ) [0] r o) Ξ) Ξ)
 (unI t19 λi2=>
 br (i2.blt n0) (br ((o0+i2*1+1).ble c0.length) (AG D (AtB 240 0) [χ 0 o0 n0 1,Ψ t1,AtO (Value.int Ω t2),AtO (Value.int Ω (A.shr Ω (A.add Ω (A.mul Ω t2 (A.conv Ω n)) t7) 32)),AtO (Value.int Ω 0),Ψ t17,iv t18,iv (A.add θ t19 1)] [δ (AF c0 (o0+i2*1) [AtO (Value.int ζ (A.conv ζ (A.sub Ω (A.conv Ω n1) (A.add Ω (A.bits BinOp.and Ω (A.add Ω (A.mul Ω t2 (A.conv Ω n)) t7) 4294967295) t8))))]) Δ Δ] λr o=>
 AE 1 [0] (AH.mk [(0,δ (AF c0 (o0+i2*1) [AtO (Value.int ζ (A.conv ζ (A.sub Ω (A.conv Ω n1) (A.add Ω (A.bits BinOp.and Ω (A.add Ω (A.mul Ω t2 (A.conv Ω n)) t7) 4294967295) t8))))]) Δ Δ)] 1 Ξ) [0] r o) Ξ) Ξ)) Ξ))
 (Θ ((υ [iv 0,χ 0 o0 n0 1,Ψ t1,AtO (Value.int Ω t7),AtO (Value.int Ω t8)],[AtH (δ c0 Δ Δ)]))):=by kernel_rfl
theorem AoP(o0 n0:Nat)(c0:List AV)(x1:Rw):BZ A D Ds On .n 241 RX [χ 0 o0 n0 1,Ψ x1] [{ cells:=c0,st:=Δ,ex:=Δ }] =
 Ae D (AtB 241 0) [χ 0 o0 n0 1,Ψ x1,AtO (Value.int Ω 0),Ψ x1,iv ↑(AI x1),iv 0] [δ c0 Δ Δ] [.t,.C,.x,.X,.Y] λc l o=>
 br (Bn 1 c)
 (Eh l λc1 l1=>
 QU 0 1 c1 λo1 n=>
 dk [.L,.J .u64,.N,.R,.X,.E] [.l l1,.o o] λxs n1 cs1=>
 br ((AI xs).blt n) (EW cs1 (o1+AI xs*1) 1 λcs2=>
 dk [.J .u32,.N] [.l cs2] λn2=>
 br ((AI xs).blt n) (br ((o1+AI xs*1+1).ble cs1.length) (Θ ((υ [],[AtH (δ (AF cs1 (o1+AI xs*1) [AtO (Value.int ζ (A.add ζ n2 (A.conv ζ n1)))]) Δ Δ)]))) Ξ) Ξ) Ξ)
 (Ξ):=by kernel_rfl
theorem WV(o0 n0:Nat)(c0:List AV)(t1 t8:Rw)(t4 t9 t10:Int):Dy A D Ds On .n 241 0 (AU RX 0).fst (AU RX 0).snd [χ 0 o0 n0 1,Ψ t1,AtO (Value.int Ω t4),Ψ t8,iv t9,iv t10] [{ cells:=c0,st:=Δ,ex:=Δ }] =
 br (A.lt t10 t9)
 (unI t10 λi=>
 BC t8 i λcs=>
 dk [.J .u32,.N] [.l cs] λn=>
 unI t10 λi1=>
 br (i1.blt n0) (EW c0 (o0+i1*1) 1 λcs1=>
 dk [.J .u32,.N] [.l cs1] λn1=>
 unI t10 λi2=>
 br (i2.blt n0) (br ((o0+i2*1+1).ble c0.length) (br (A.lt 32 0)
 (Ξ)
 (AG D (AtB 241 0) [χ 0 o0 n0 1,Ψ t1,AtO (Value.int Ω (A.shr Ω (A.add Ω (A.add Ω (A.conv Ω n1) (A.conv Ω n)) t4) 32)),Ψ t8,iv t9,iv (A.add θ t10 1)] [δ (AF c0 (o0+i2*1) [AtO (Value.int ζ (A.conv ζ (A.add Ω (A.add Ω (A.conv Ω n1) (A.conv Ω n)) t4)))]) Δ Δ] λr o=>
 AE 1 [0] (AH.mk [(0,δ (AF c0 (o0+i2*1) [AtO (Value.int ζ (A.conv ζ (A.add Ω (A.add Ω (A.conv Ω n1) (A.conv Ω n)) t4)))]) Δ Δ)] 1 Ξ) [0] r o)) Ξ) Ξ) Ξ)
 (Θ ((υ [iv 0,χ 0 o0 n0 1,Ψ t1,AtO (Value.int Ω t4)],[AtH (δ c0 Δ Δ)]))):=by kernel_rfl
theorem AoM(x0:Rw)(x1:Int):BZ A D Ds Om (.b .n (.b .n (.b .n (.b .n (.b .n (.f .n)))))) 238 RU [Ψ x0,iv x1] [] =
 br (A.lt x1 0)
 (Θ ((υ [AtO (Value.slice Ξ 0 0),iv 1],[])))
 (br (A.lt 1048576 x1)
 (Θ ((υ [AtO (Value.slice Ξ 0 0),iv 2],[])))
 (Ae D (ω 200) [Ψ x0] [] [.l,.E] λxs=>
 br (A.eq 32 0)
 (Ξ)
 (br (A.eq 32 0) Ξ (unI (A.quo θ x1 32) λi=>
 unI (A.add θ (A.add θ (A.quo θ x1 32) ↑(AI xs)) 1) λi1=>
 br (i.ble i1) (br (Bf i1 4) (AG D (AtB 238 0) [iv (A.rem θ x1 32),χ 0 0 i 1,AtO (Value.int Ω 0),Ψ xs,iv ↑(AI xs),iv 0] [δ (BS [AtO (Value.int ζ 0)] (i*1)) Δ Δ] λr1 o1=>
 dk [.t,.C,.x,.X] [.v r1] λc l=>
 br (Bn 2 c)
 (dk [.C,.q 1 1,.J .u64,.N,.D,.R,.X,.E] [.l l,.o o1] λn n1 cs1=>
 br (Bf (n+1) 4) (br ((0+n*1).ble cs1.length) (br ((0+(n+1)*1).ble (AtD 0 (ο (0+n*1) cs1)++[AtO (Value.int ζ (A.conv ζ n1))]).length) (AG D (ω 202) [Ψ (Bh (n+1) 1 (ο ((n+1)*1) (AtD 0 (AtD 0 (ο (0+n*1) cs1)++[AtO (Value.int ζ (A.conv ζ n1))]))))] [] λr2 o2=>
 dk [.q 0 1,.R,.X,.E] [.v r2,.o o2] λn2 cs2=>
 Θ ((υ [χ 0 0 n2 1,iv 0],[AtH (δ cs2 Δ Δ)]))) Ξ) Ξ) Ξ)
 (Ξ)) Ξ) Ξ)))):=by kernel_rfl
theorem WU(t7:Int)(n8:Nat)(c8:List AV)(t9:Int)(t32:Rw)(t33 t34:Int):Dy A D Ds Om .n 238 0 (AU RU 0).fst (AU RU 0).snd [iv t7,χ 0 0 n8 1,AtO (Value.int Ω t9),Ψ t32,iv t33,iv t34] [{ cells:=c8,st:=Δ,ex:=Δ }] =
 br (A.lt t34 t33)
 (unI t34 λi=>
 BC t32 i λcs=>
 dk [.J .u32,.N] [.l cs] λn=>
 br (A.lt t7 0)
 (Ξ)
 (br (Bf (n8+1) 4) (br ((0+n8*1).ble c8.length) (br (A.lt 32 0)
 (Ξ)
 (AG D (AtB 238 0) [iv t7,χ 0 0 (n8+1) 1,AtO (Value.int Ω (A.shr Ω (A.bits BinOp.or Ω (A.shl Ω (A.conv Ω n) t7) t9) 32)),Ψ t32,iv t33,iv (A.add θ t34 1)] [δ (AtD 0 (ο (0+n8*1) c8)++[AtO (Value.int ζ (A.conv ζ (A.bits BinOp.or Ω (A.shl Ω (A.conv Ω n) t7) t9)))]) Δ Δ] λr o=>
 AE 1 [2] (AH.mk [(2,δ (AtD 0 (ο (0+n8*1) c8)++[AtO (Value.int ζ (A.conv ζ (A.bits BinOp.or Ω (A.shl Ω (A.conv Ω n) t7) t9)))]) Δ Δ),(1,δ [AtO (Value.int ζ (A.conv ζ (A.bits BinOp.or Ω (A.shl Ω (A.conv Ω n) t7) t9)))] Δ Δ)] 3 Ξ) [0] r o)) Ξ) Ξ))
 (Θ ((υ [iv 1,χ 1 0 n8 1,AtO (Value.int Ω t9)],[BO.del,AtH (δ c8 Δ Δ)]))):=by kernel_rfl
theorem AoQ(x0:Rw)(x1:Int):BZ A D Ds Oo (.b .n (.f .n)) 242 RY [Ψ x0,iv x1] [] =
 Ae D (ω 200) [Ψ x0] [] [.l,.E] λxs=>
 br (A.eq 32 0)
 (Ξ)
 (br (A.eq 32 0) Ξ (br (A.le (↑(AI xs)) (A.quo θ (A.max x1 0) 32))
 (Θ ((Ψ [],[])))
 (unI (A.sub θ (↑(AI xs)) (A.quo θ (A.max x1 0) 32)) λi=>
 br (Bf i 4) (AG D (AtB 242 0) [Ψ xs,iv (A.rem θ (A.max x1 0) 32),χ 0 0 0 1,iv (A.quo θ (A.max x1 0) 32)] [δ [] Δ Δ] λr1 o1=>
 dk [.t,.C,.x,.X] [.v r1] λc l=>
 br (Bn 1 c)
 (dk [.C,.q 1 1,.N,.D,.R,.X,.E] [.l l,.o o1] λn cs1=>
 br ((0+n*1).ble cs1.length) (AG D (ω 202) [Ψ (Bh n 1 (ο (n*1) cs1))] [] λr2 o2=>
 dk [.q 0 1,.R,.X,.E] [.v r2,.o o2] λn1 cs2=>
 br ((0+n1*1).ble cs2.length) (Θ ((Ψ (Bh n1 1 (ο (n1*1) cs2)),[]))) Ξ) Ξ)
 (Ξ)) Ξ))):=by kernel_rfl
theorem WW(t0:Rw)(t6:Int)(n7:Nat)(c7:List AV)(t8:Int):Dy A D Ds Oo .n 242 0 (AU RY 0).fst (AU RY 0).snd [Ψ t0,iv t6,χ 0 0 n7 1,iv t8] [{ cells:=c7,st:=Δ,ex:=Δ }] =
 br (A.lt t8 ↑(AI t0))
 (br (A.lt (A.add θ t8 1) ↑(AI t0))
 (unI (A.add θ t8 1) λi=>
 BC t0 i λcs=>
 dk [.J .u32,.N] [.l cs] λn=>
 br (A.lt 32 0)
 (Ξ)
 (unI t8 λi1=>
 BC t0 i1 λcs1=>
 dk [.J .u32,.N] [.l cs1] λn1=>
 br (A.lt t6 0)
 (Ξ)
 (br (Bf (n7+1) 4) (br ((0+n7*1).ble c7.length) (AG D (AtB 242 0) [Ψ t0,iv t6,χ 0 0 (n7+1) 1,iv (A.add θ t8 1)] [δ (AtD 0 (ο (0+n7*1) c7)++[AtO (Value.int ζ (A.conv ζ (A.shr Ω (A.bits BinOp.or Ω (A.shl Ω (A.conv Ω n) 32) (A.conv Ω n1)) t6)))]) Δ Δ] λr o=>
 AE 1 [2] (AH.mk [(2,δ (AtD 0 (ο (0+n7*1) c7)++[AtO (Value.int ζ (A.conv ζ (A.shr Ω (A.bits BinOp.or Ω (A.shl Ω (A.conv Ω n) 32) (A.conv Ω n1)) t6)))]) Δ Δ),(1,δ [AtO (Value.int ζ (A.conv ζ (A.shr Ω (A.bits BinOp.or Ω (A.shl Ω (A.conv Ω n) 32) (A.conv Ω n1)) t6)))] Δ Δ)] 3 Ξ) [0] r o) Ξ) Ξ)))
 (br (A.lt 32 0)
 (Ξ)
 (unI t8 λi=>
 BC t0 i λcs=>
 dk [.J .u32,.N] [.l cs] λn=>
 br (A.lt t6 0)
 (Ξ)
 (br (Bf (n7+1) 4) (br ((0+n7*1).ble c7.length) (AG D (AtB 242 0) [Ψ t0,iv t6,χ 0 0 (n7+1) 1,iv (A.add θ t8 1)] [δ (AtD 0 (ο (0+n7*1) c7)++[AtO (Value.int ζ (A.conv ζ (A.shr Ω (A.bits BinOp.or Ω (A.shl Ω 0 32) (A.conv Ω n)) t6)))]) Δ Δ] λr o=>
 AE 1 [2] (AH.mk [(2,δ (AtD 0 (ο (0+n7*1) c7)++[AtO (Value.int ζ (A.conv ζ (A.shr Ω (A.bits BinOp.or Ω (A.shl Ω 0 32) (A.conv Ω n)) t6)))]) Δ Δ),(1,δ [AtO (Value.int ζ (A.conv ζ (A.shr Ω (A.bits BinOp.or Ω (A.shl Ω 0 32) (A.conv Ω n)) t6)))] Δ Δ)] 3 Ξ) [0] r o) Ξ) Ξ))))
 (Θ ((υ [iv 0,χ 1 0 n7 1],[BO.del,AtH (δ c7 Δ Δ)]))):=by kernel_rfl
theorem AoI(x0 x1:Rw):BZ A D Ds Lw .n 204 RS [Ψ x0,Ψ x1] [] =
 unI (A.sub θ (↑(AI x1)) 1) λi=>
 BC x1 i λcs=>
 dk [.J .u32,.N] [.l cs] λn=>
 Ae D (ω 237) [AtO (Value.int ζ n)] [] [.i,.E] λn1=>
 Ae D (ω 238) [Ψ x1,iv n1] [] [.t,.C,.q 0 1,.I,.N,.R,.X,.E] λn2 _ cs2=>
 Ae D (ω 238) [Ψ x0,iv n1] [] [.t,.C,.q 0 1,.I,.N,.R,.X,.E] λn4 _ cs4=>
 unI (A.sub θ (A.add θ (↑(AI x0)) 1) ↑n4) λi1=>
 br (i1.ble 9223372036854775807) (br (i1.beq 0)
 (unI (A.sub θ ↑n4 ↑n2) λi2=>
 unI (A.sub θ ↑n4 ↑n2) λi3=>
 br (i2.ble i3) (br (Bf i3 4) (br ((0+n2*1).ble cs2.length) (AG D (AtB 204 0) [χ 0 0 i2 1,iv n1,Ψ (Bh n2 1 (ο (n2*1) cs2)),χ 1 0 n4 1,iv ↑n2,iv (A.sub θ (A.sub θ ↑n4 ↑n2) 1)] [δ (BS [AtO (Value.int ζ 0)] (i2*1)) Δ Δ,δ cs4 Δ Δ] λr3 o3=>
 dk [.t,.C,.x,.X] [.v r3] λc4 l7=>
 br (Bn 1 c4)
 (dk [.C,.q 2 1,.I,.C,.q 3 1,.I,.N,.D,.D,.R,.X,.R,.X,.E] [.l l7,.o o3] λn6 n7 n8 n9 cs6 cs7=>
 br ((0+n6*1).ble cs6.length) (AG D (ω 202) [Ψ (Bh n6 1 (ο (n6*1) cs6))] [] λr4 o4=>
 dk [.q 0 1,.R,.X,.E] [.v r4,.o o4] λn10 cs8=>
 unI n9 λi4=>
 br (Jf 0 i4 n8) (br ((0+i4*1).ble cs7.length) (AG D (ω 242) [Ψ (Bh i4 1 (ο (i4*1) cs7)),iv n7] [] λr5 o5=>
 dk [.l,.E] [.v r5,.o o5] λxs=>
 br ((0+n10*1).ble cs8.length) (Θ ((υ [Ψ (Bh n10 1 (ο (n10*1) cs8)),Ψ xs],[]))) Ξ) Ξ) Ξ) Ξ)
 (Ξ)) Ξ) Ξ) Ξ)
 (br (F8 (BS [AtO (Value.int ζ 0)] (i1*1))) (br (Bf (n4+i1) 4) (br ((0+n4*1).ble cs4.length) (unI (A.sub θ ↑(n4+i1) ↑n2) λi2=>
 unI (A.sub θ ↑(n4+i1) ↑n2) λi3=>
 br (i2.ble i3) (br (Bf i3 4) (br ((0+n2*1).ble cs2.length) (AG D (AtB 204 0) [χ 0 0 i2 1,iv n1,Ψ (Bh n2 1 (ο (n2*1) cs2)),χ 1 0 (n4+i1) 1,iv ↑n2,iv (A.sub θ (A.sub θ ↑(n4+i1) ↑n2) 1)] [δ (BS [AtO (Value.int ζ 0)] (i2*1)) Δ Δ,δ (AtD 0 (ο (0+n4*1) cs4)++BS [AtO (Value.int ζ 0)] (i1*1)) Δ Δ] λr3 o3=>
 dk [.t,.C,.x,.X] [.v r3] λc4 l7=>
 br (Bn 1 c4)
 (dk [.C,.q 2 1,.I,.C,.q 3 1,.I,.N,.D,.D,.R,.X,.R,.X,.E] [.l l7,.o o3] λn6 n7 n8 n9 cs6 cs7=>
 br ((0+n6*1).ble cs6.length) (AG D (ω 202) [Ψ (Bh n6 1 (ο (n6*1) cs6))] [] λr4 o4=>
 dk [.q 0 1,.R,.X,.E] [.v r4,.o o4] λn10 cs8=>
 unI n9 λi4=>
 br (Jf 0 i4 n8) (br ((0+i4*1).ble cs7.length) (AG D (ω 242) [Ψ (Bh i4 1 (ο (i4*1) cs7)),iv n7] [] λr5 o5=>
 dk [.l,.E] [.v r5,.o o5] λxs=>
 br ((0+n10*1).ble cs8.length) (Θ ((υ [Ψ (Bh n10 1 (ο (n10*1) cs8)),Ψ xs],[]))) Ξ) Ξ) Ξ) Ξ)
 (Ξ)) Ξ) Ξ) Ξ) Ξ) Ξ) Ξ)) Ξ:=by kernel_rfl
theorem Rs(n4:Nat)(c4:List AV)(t6:Int)(t7:Rw)(n11:Nat)(c11:List AV)(t12 t13:Int):Dy A D Ds Lw .n 204 0 (AU RS 0).fst (AU RS 0).snd [χ 0 0 n4 1,iv t6,Ψ t7,χ 1 0 n11 1,iv t12,iv t13] [{ cells:=c4,st:=Δ,ex:=Δ },{ cells:=c11,st:=Δ,ex:=Δ }] =
 br (A.le 0 t13)
 (unI t13 λi=>
 br (Jf i n11 n11) (AG D (ω 239) [χ 0 (0+i*1) (n11-i) 1,Ψ t7] [δ c11 Δ Δ] λr o=>
 dk [.j .u64,.K,.E] [.v r,.o o] λn=>
 unI t13 λi1=>
 unI (A.add θ (A.add θ t13 t12) 1) λi2=>
 br (Jf i1 i2 n11) (AG D (ω 240) [χ 0 (0+i1*1) (i2-i1) 1,Ψ t7,AtO (Value.int Ω n)] [δ c11 Δ Δ] λr1 o1=>
 dk [.b,.R,.X,.E] [.v r1,.o o1] λb cs=>
 br b
 (unI t13 λi3=>
 unI (A.add θ (A.add θ t13 t12) 1) λi4=>
 br (Jf i3 i4 n11) (AG D (ω 241) [χ 0 (0+i3*1) (i4-i3) 1,Ψ t7] [δ cs Δ Δ] λr2 o2=>
 dk [.t,.N,.R,.X,.E] [.v r2,.o o2] λcs2=>
 unI t13 λi5=>
 br (i5.blt n4) (br ((0+i5*1+1).ble c4.length) (AG D (AtB 204 0) [χ 0 0 n4 1,iv t6,Ψ t7,χ 1 0 n11 1,iv t12,iv (A.sub θ t13 1)] [δ (AF c4 (0+i5*1) [AtO (Value.int ζ (A.conv ζ (A.sub Ω n 1)))]) Δ Δ,δ cs2 Δ Δ] λr3 o3=>
 AE 2 [0,1] (AH.mk [(0,δ (AF c4 (0+i5*1) [AtO (Value.int ζ (A.conv ζ (A.sub Ω n 1)))]) Δ Δ),(1,δ cs2 Δ Δ)] 2 Ξ) [1,0] r3 o3) Ξ) Ξ) Ξ)
 (unI t13 λi3=>
 br (i3.blt n4) (br ((0+i3*1+1).ble c4.length) (AG D (AtB 204 0) [χ 0 0 n4 1,iv t6,Ψ t7,χ 1 0 n11 1,iv t12,iv (A.sub θ t13 1)] [δ (AF c4 (0+i3*1) [AtO (Value.int ζ (A.conv ζ n))]) Δ Δ,δ cs Δ Δ] λr2 o2=>
 AE 2 [0,1] (AH.mk [(0,δ (AF c4 (0+i3*1) [AtO (Value.int ζ (A.conv ζ n))]) Δ Δ),(1,δ cs Δ Δ)] 2 Ξ) [1,0] r2 o2) Ξ) Ξ)) Ξ) Ξ)
 (Θ ((υ [iv 0,χ 2 0 n4 1,iv t6,χ 3 0 n11 1,iv t12],[BO.del,BO.del,AtH (δ c4 Δ Δ),AtH (δ c11 Δ Δ)]))):=by kernel_rfl
theorem AoA(x0 x1:Rw):BZ A D Ds AbF .n 144 Acf [Ψ x0,Ψ x1] [] =
 Ae D (ω 200) [Ψ x0] [] [.l,.E] λxs=>
 Ae D (ω 200) [Ψ x1] [] [.l,.E] λxs1=>
 br (A.eq (↑(AI xs1)) 0)
 (Θ ((υ [Ψ [],Ψ [],iv 10],[])))
 (Ae D (ω 201) [Ψ xs,Ψ xs1] [] [.i,.E] λn=>
 br (A.lt n 0)
 (Ae D (ω 202) [Ψ xs] [] [.q 0 1,.R,.X,.E] λn1 cs=>
 br ((0+n1*1).ble cs.length) (Θ ((υ [Ψ [],Ψ (Bh n1 1 (ο (n1*1) cs)),iv 0],[]))) Ξ)
 (br (A.eq (↑(AI xs1)) 1)
 (BC xs1 0 λcs=>
 dk [.J .u32,.N] [.l cs] λn1=>
 Ae D (ω 203) [Ψ xs,AtO (Value.int ζ n1)] [] [.t,.L,.J .u32,.N,.E] λxs2 n2=>
 Ae D (ω 184) [AtO (Value.int Ω (A.conv Ω n2))] [] [.l,.E] λxs3=>
 Θ ((υ [Ψ xs2,Ψ xs3,iv 0],[])))
 (Ae D (ω 204) [Ψ xs,Ψ xs1] [] [.t,.L,.L,.N,.E] λxs2 xs3=>
 Θ ((υ [Ψ xs2,Ψ xs3,iv 0],[]))))):=by kernel_rfl
theorem AoL(x0:Int):BZ A D Ds AbI .n 237 Acj [AtO (Value.int ζ x0)] [] =
 Ae D (ω 222) [AtO (Value.int ζ x0)] [] [.i,.E] λn=>
 Θ ((iv (A.sub θ 32 n),[])):=by kernel_rfl
theorem AoJ(x0:Int):BZ A D Ds Ol .n 222 Aci [AtO (Value.int ζ x0)] [] =
 br (A.le 65536 x0)
 (br (A.lt 16 0)
 (Ξ)
 (br (A.le 256 (A.shr ζ x0 16))
 (br (A.lt 8 0)
 (Ξ)
 (unI (A.conv AwO (A.shr ζ (A.shr ζ x0 16) 8)) λi=>
 br (i.blt (A.slen (Cl [0,1,2,2,3,3,3,3,4,4,4,4,4,4,4,4,5,5,5,5,5,5,5,5,5,5,5,5,5,5,5,5,6,6,6,6,6,6,6,6,6,6,6,6,6,6,6,6,6,6,6,6,6,6,6,6,6,6,6,6,6,6,6,6,7,7,7,7,7,7,7,7,7,7,7,7,7,7,7,7,7,7,7,7,7,7,7,7,7,7,7,7,7,7,7,7,7,7,7,7,7,7,7,7,7,7,7,7,7,7,7,7,7,7,7,7,7,7,7,7,7,7,7,7,7,7,7,7,8,8,8,8,8,8,8,8,8,8,8,8,8,8,8,8,8,8,8,8,8,8,8,8,8,8,8,8,8,8,8,8,8,8,8,8,8,8,8,8,8,8,8,8,8,8,8,8,8,8,8,8,8,8,8,8,8,8,8,8,8,8,8,8,8,8,8,8,8,8,8,8,8,8,8,8,8,8,8,8,8,8,8,8,8,8,8,8,8,8,8,8,8,8,8,8,8,8,8,8,8,8,8,8,8,8,8,8,8,8,8,8,8,8,8,8,8,8,8,8,8,8,8,8,8,8,8,8]))) (Θ ((iv (A.add θ (A.add θ 16 8) (A.conv θ (A.sat (Cl [0,1,2,2,3,3,3,3,4,4,4,4,4,4,4,4,5,5,5,5,5,5,5,5,5,5,5,5,5,5,5,5,6,6,6,6,6,6,6,6,6,6,6,6,6,6,6,6,6,6,6,6,6,6,6,6,6,6,6,6,6,6,6,6,7,7,7,7,7,7,7,7,7,7,7,7,7,7,7,7,7,7,7,7,7,7,7,7,7,7,7,7,7,7,7,7,7,7,7,7,7,7,7,7,7,7,7,7,7,7,7,7,7,7,7,7,7,7,7,7,7,7,7,7,7,7,7,7,8,8,8,8,8,8,8,8,8,8,8,8,8,8,8,8,8,8,8,8,8,8,8,8,8,8,8,8,8,8,8,8,8,8,8,8,8,8,8,8,8,8,8,8,8,8,8,8,8,8,8,8,8,8,8,8,8,8,8,8,8,8,8,8,8,8,8,8,8,8,8,8,8,8,8,8,8,8,8,8,8,8,8,8,8,8,8,8,8,8,8,8,8,8,8,8,8,8,8,8,8,8,8,8,8,8,8,8,8,8,8,8,8,8,8,8,8,8,8,8,8,8,8,8,8,8,8,8]) i))),[]))) Ξ))
 (unI (A.conv AwO (A.shr ζ x0 16)) λi=>
 br (i.blt (A.slen (Cl [0,1,2,2,3,3,3,3,4,4,4,4,4,4,4,4,5,5,5,5,5,5,5,5,5,5,5,5,5,5,5,5,6,6,6,6,6,6,6,6,6,6,6,6,6,6,6,6,6,6,6,6,6,6,6,6,6,6,6,6,6,6,6,6,7,7,7,7,7,7,7,7,7,7,7,7,7,7,7,7,7,7,7,7,7,7,7,7,7,7,7,7,7,7,7,7,7,7,7,7,7,7,7,7,7,7,7,7,7,7,7,7,7,7,7,7,7,7,7,7,7,7,7,7,7,7,7,7,8,8,8,8,8,8,8,8,8,8,8,8,8,8,8,8,8,8,8,8,8,8,8,8,8,8,8,8,8,8,8,8,8,8,8,8,8,8,8,8,8,8,8,8,8,8,8,8,8,8,8,8,8,8,8,8,8,8,8,8,8,8,8,8,8,8,8,8,8,8,8,8,8,8,8,8,8,8,8,8,8,8,8,8,8,8,8,8,8,8,8,8,8,8,8,8,8,8,8,8,8,8,8,8,8,8,8,8,8,8,8,8,8,8,8,8,8,8,8,8,8,8,8,8,8,8,8,8]))) (Θ ((iv (A.add θ 16 (A.conv θ (A.sat (Cl [0,1,2,2,3,3,3,3,4,4,4,4,4,4,4,4,5,5,5,5,5,5,5,5,5,5,5,5,5,5,5,5,6,6,6,6,6,6,6,6,6,6,6,6,6,6,6,6,6,6,6,6,6,6,6,6,6,6,6,6,6,6,6,6,7,7,7,7,7,7,7,7,7,7,7,7,7,7,7,7,7,7,7,7,7,7,7,7,7,7,7,7,7,7,7,7,7,7,7,7,7,7,7,7,7,7,7,7,7,7,7,7,7,7,7,7,7,7,7,7,7,7,7,7,7,7,7,7,8,8,8,8,8,8,8,8,8,8,8,8,8,8,8,8,8,8,8,8,8,8,8,8,8,8,8,8,8,8,8,8,8,8,8,8,8,8,8,8,8,8,8,8,8,8,8,8,8,8,8,8,8,8,8,8,8,8,8,8,8,8,8,8,8,8,8,8,8,8,8,8,8,8,8,8,8,8,8,8,8,8,8,8,8,8,8,8,8,8,8,8,8,8,8,8,8,8,8,8,8,8,8,8,8,8,8,8,8,8,8,8,8,8,8,8,8,8,8,8,8,8,8,8,8,8,8,8]) i))),[]))) Ξ)))
 (br (A.le 256 x0)
 (br (A.lt 8 0)
 (Ξ)
 (unI (A.conv AwO (A.shr ζ x0 8)) λi=>
 br (i.blt (A.slen (Cl [0,1,2,2,3,3,3,3,4,4,4,4,4,4,4,4,5,5,5,5,5,5,5,5,5,5,5,5,5,5,5,5,6,6,6,6,6,6,6,6,6,6,6,6,6,6,6,6,6,6,6,6,6,6,6,6,6,6,6,6,6,6,6,6,7,7,7,7,7,7,7,7,7,7,7,7,7,7,7,7,7,7,7,7,7,7,7,7,7,7,7,7,7,7,7,7,7,7,7,7,7,7,7,7,7,7,7,7,7,7,7,7,7,7,7,7,7,7,7,7,7,7,7,7,7,7,7,7,8,8,8,8,8,8,8,8,8,8,8,8,8,8,8,8,8,8,8,8,8,8,8,8,8,8,8,8,8,8,8,8,8,8,8,8,8,8,8,8,8,8,8,8,8,8,8,8,8,8,8,8,8,8,8,8,8,8,8,8,8,8,8,8,8,8,8,8,8,8,8,8,8,8,8,8,8,8,8,8,8,8,8,8,8,8,8,8,8,8,8,8,8,8,8,8,8,8,8,8,8,8,8,8,8,8,8,8,8,8,8,8,8,8,8,8,8,8,8,8,8,8,8,8,8,8,8,8]))) (Θ ((iv (A.add θ (A.add θ 0 8) (A.conv θ (A.sat (Cl [0,1,2,2,3,3,3,3,4,4,4,4,4,4,4,4,5,5,5,5,5,5,5,5,5,5,5,5,5,5,5,5,6,6,6,6,6,6,6,6,6,6,6,6,6,6,6,6,6,6,6,6,6,6,6,6,6,6,6,6,6,6,6,6,7,7,7,7,7,7,7,7,7,7,7,7,7,7,7,7,7,7,7,7,7,7,7,7,7,7,7,7,7,7,7,7,7,7,7,7,7,7,7,7,7,7,7,7,7,7,7,7,7,7,7,7,7,7,7,7,7,7,7,7,7,7,7,7,8,8,8,8,8,8,8,8,8,8,8,8,8,8,8,8,8,8,8,8,8,8,8,8,8,8,8,8,8,8,8,8,8,8,8,8,8,8,8,8,8,8,8,8,8,8,8,8,8,8,8,8,8,8,8,8,8,8,8,8,8,8,8,8,8,8,8,8,8,8,8,8,8,8,8,8,8,8,8,8,8,8,8,8,8,8,8,8,8,8,8,8,8,8,8,8,8,8,8,8,8,8,8,8,8,8,8,8,8,8,8,8,8,8,8,8,8,8,8,8,8,8,8,8,8,8,8,8]) i))),[]))) Ξ))
 (unI (A.conv AwO x0) λi=>
 br (i.blt (A.slen (Cl [0,1,2,2,3,3,3,3,4,4,4,4,4,4,4,4,5,5,5,5,5,5,5,5,5,5,5,5,5,5,5,5,6,6,6,6,6,6,6,6,6,6,6,6,6,6,6,6,6,6,6,6,6,6,6,6,6,6,6,6,6,6,6,6,7,7,7,7,7,7,7,7,7,7,7,7,7,7,7,7,7,7,7,7,7,7,7,7,7,7,7,7,7,7,7,7,7,7,7,7,7,7,7,7,7,7,7,7,7,7,7,7,7,7,7,7,7,7,7,7,7,7,7,7,7,7,7,7,8,8,8,8,8,8,8,8,8,8,8,8,8,8,8,8,8,8,8,8,8,8,8,8,8,8,8,8,8,8,8,8,8,8,8,8,8,8,8,8,8,8,8,8,8,8,8,8,8,8,8,8,8,8,8,8,8,8,8,8,8,8,8,8,8,8,8,8,8,8,8,8,8,8,8,8,8,8,8,8,8,8,8,8,8,8,8,8,8,8,8,8,8,8,8,8,8,8,8,8,8,8,8,8,8,8,8,8,8,8,8,8,8,8,8,8,8,8,8,8,8,8,8,8,8,8,8,8]))) (Θ ((iv (A.add θ 0 (A.conv θ (A.sat (Cl [0,1,2,2,3,3,3,3,4,4,4,4,4,4,4,4,5,5,5,5,5,5,5,5,5,5,5,5,5,5,5,5,6,6,6,6,6,6,6,6,6,6,6,6,6,6,6,6,6,6,6,6,6,6,6,6,6,6,6,6,6,6,6,6,7,7,7,7,7,7,7,7,7,7,7,7,7,7,7,7,7,7,7,7,7,7,7,7,7,7,7,7,7,7,7,7,7,7,7,7,7,7,7,7,7,7,7,7,7,7,7,7,7,7,7,7,7,7,7,7,7,7,7,7,7,7,7,7,8,8,8,8,8,8,8,8,8,8,8,8,8,8,8,8,8,8,8,8,8,8,8,8,8,8,8,8,8,8,8,8,8,8,8,8,8,8,8,8,8,8,8,8,8,8,8,8,8,8,8,8,8,8,8,8,8,8,8,8,8,8,8,8,8,8,8,8,8,8,8,8,8,8,8,8,8,8,8,8,8,8,8,8,8,8,8,8,8,8,8,8,8,8,8,8,8,8,8,8,8,8,8,8,8,8,8,8,8,8,8,8,8,8,8,8,8,8,8,8,8,8,8,8,8,8,8,8]) i))),[]))) Ξ)):=by kernel_rfl
end
section
variable {D:Orc} (K:Knows Ds Jl D)
include K
theorem AdI(l:List Nat)(hl:BX l):∀(n:Nat),n<=l.length->CE l<=n->D.ask (.lp 200 0) [eN l,iv (n:Int)] []=Θ (.tup [iv 0,eN l,iv (CE l:Int)],[]):=by
 intro n;have hl':=hl;unfold BX at hl'
 induction n with
 |zero=>
  intro _ ht;refine Ay K Oh (WR ..) ?_;refine Ai ?_;rw[show CE l=0 by omega];rfl
 |succ n ih=>
  intro hn ht;refine Ay K Oh (WR ..) ?_;refine Al ?_;rw[show Af.sub .i64 ((n+1:Nat):Int) 1=(n:Int) from (Pg (i:=n+1) (j:=1) (by omega) (by omega)).trans (by simp)];rw[Au,Ax (ξ (show n<l.length by omega))];simp only[eL,S7,ND,DK,Ab]
  by_cases h0:l[n]=0
  .refine AO ?_ (by rw[h0];rfl)
   refine Aa (ih (by omega) (Mc ht (by rw[ξ (show n<l.length by omega),h0]))) ?_;rfl
  .refine Aq ?_
   have:=Nq (ξ (show n<l.length by omega)) h0;rw[show CE l=n+1 by omega];rfl
theorem Fu{l:List Nat}(hl:BX l)(h:Limbs l):D.ask (.fn 200) [eN l] []=Θ (eN (Ah (Ad l)),[]):=by
 refine Aw K Oh (AoE ..) ?_;rw[Ao];refine Aa (AdI K l hl _ (η _) (Cx l)) ?_;simp only[eN,ND,DK,Ab];rw[Au,Ao,SE,MK,IA h];rw[show Jf 0 (CE l) l.length=Δ by unfold Jf;rw[show AtG 0 (CE l)=Δ by simp];simpa using Cx l];rfl
variable (C:CloneF D)
include C
theorem Gc{l:List Nat}(hl:BX l)(h:Limbs l):D.ask (.fn 202) [eN l] []=Θ (.sl 0 0 (Ah (Ad l)).length 1,[.set (δ (Ag eL (Ah (Ad l))) Δ Δ)]):=by
 refine Aw K AbH (AoG ..) ?_;refine Aa (Fu K hl h) ?_;simp only[eN,ND,DK,Ab];have g:=C.nat _ (DH h hl);unfold eN at g;refine Aa g ?_;rfl
theorem Alt(n:Nat)(h:n<18446744073709551616):D.ask (.fn 184) [.v (.int .u64 (n:Int))] []=Θ (eN (Ah n),[]):=by
 refine Aw K AbG (AoD ..) ?_;refine Ai ?_ (by decide);rw[CX,EV,CX];have hl:Limbs [n % 4294967296,n / 4294967296 % 4294967296]:=Bb (Auo _ (by omega)) (Bb (Auo _ (by omega)) BH);have g:=Gc K C (l:=[n % 4294967296,n / 4294967296 % 4294967296]) (by unfold BX;simp) hl;rw[show Ad [n % 4294967296,n / 4294967296 % 4294967296]=n by simp only[Ad];omega]at g;refine Aa g ?_;simp only[ND,DK,Ab];rw[AL AB _ (by omega)];refine Ac ?_;rw[Bp AB _ rfl];rfl
omit C in
theorem Aeb(a b:List Nat)(ha:Limbs a)(hb:Limbs b)(hab:a.length=b.length)(hs:BX a):∀(n:Nat),n<=a.length->D.ask (.lp 201 0) [eN a,eN b,iv ((n:Int)-1)] []
  = Θ (if CM (Ad (a.take n)) (Ad (b.take n))=0 then .tup [iv 1] else .tup [bv Δ,iv (CM (Ad (a.take n)) (Ad (b.take n)))],[]):=by
 intro n;unfold BX at hs
 induction n with
 |zero=>
  intro _;refine Ay K Oi (WS ..) ?_;refine Cn ?_;rfl
 |succ n ih=>
  intro hn;refine Ay K Oi (WS ..) ?_;rw[show (((n+1:Nat):Int)-1)=(n:Int) by omega];refine BV ?_;have h1:n<a.length:=by omega
  have h2:n<b.length:=by omega
  have e1:a.take (n+1)=a.take n++[a[n]]:=by rw[Auh h1]
  have e2:b.take (n+1)=b.take n++[b[n]]:=by rw[Auh h2]
  rw[e1,e2,NU (ha.take n) (hb.take n) (by simp;omega)];simp only[Au,Ax (ξ h1),Ax (ξ h2),eL,S7,ND,DK,Ab]
  by_cases h3:a[n]<b[n]
  .refine Al ?_
   rw[if_pos h3];rfl
  .refine Ai ?_
   rw[if_neg h3]
   by_cases h4:b[n]<a[n]
   .refine Al ?_
    rw[if_pos h4];rfl
   .refine Ai ?_
    rw[if_neg h4];rw[show Af.sub .i64 (n:Int) 1=(n:Int)-1 from DW (by omega) (by omega)];refine Aa (ih (by omega)) ?_
    by_cases h5:CM (Ad (a.take n)) (Ad (b.take n))=0
    .rw[if_pos h5];rfl
    .rw[if_neg h5];rfl
omit C in
theorem Aec{a b:List Nat}(hsa:BX a)(ha:Limbs a)(hsb:BX b)(hb:Limbs b):D.ask (.fn 201) [eN a,eN b] []=Θ (iv (CM (Ad a) (Ad b)),[]):=by
 have s1:=DH ha hsa;have s2:=DH hb hsb;unfold BX at s1 s2;refine Aw K Oi (AoF ..) ?_;refine Aa (Fu K hsa ha) ?_;simp only[eN,ND,DK,Ab];refine Aa (Fu K hsb hb) ?_;simp only[eN,ND,DK,Ab,Ao];generalize Ad a=x at *;generalize Ad b=y at *
 by_cases h1:(Ah x).length<(Ah y).length
 .refine Al ?_
  have:=Ge h1;unfold CM;rw[if_pos this]
 .refine Ai ?_
  by_cases h2:(Ah y).length<(Ah x).length
  .refine Al ?_
   have:=Ge h2;unfold CM;rw[if_neg (by omega),if_pos this]
  .refine Ai ?_
   have hx:(Ah x).length=(Ah y).length:=by omega
   have g:=Aeb K (Ah x) (Ah y) (Ap x) (Ap y) hx s1 (Ah x).length (η _);rw[AuS,hx,AuS,AA,AA]at g;rw[show Af.sub .i64 ((Ah x).length:Int) 1=((Ah x).length:Int)-1 from DW (by omega) (by omega),hx];refine Aa g ?_
   by_cases h5:CM x y=0
   .rw[if_pos h5,h5];rfl
   .rw[if_neg h5];rfl
omit C in
theorem AlK(a:List Nat)(ha:Limbs a)(hs:BX a)(b:Nat)(hb:0<b)(hb2:b<4294967296):∀(i:Nat) (out:List Nat),i<=a.length->out.length=a.length->out.drop i=Jz b (a.drop i)->
  D.ask (.lp 203 0) [eN a,.v (.int .u32 (b:Int)),.sl 0 0 out.length 1,.v (.int .u64 ((Ad (a.drop i) % b:Nat):Int)),iv ((i:Int)-1)] [δ (Ag eL out) Δ Δ]
   = Θ (.tup [iv 0,.sl 1 0 a.length 1,.v (.int .u64 ((Ad a % b:Nat):Int))],[.del,.set (δ (Ag eL (Jz b a)) Δ Δ)]):=by
 unfold BX at hs;intro i
 induction i with
 |zero=>
  intro out hi hl hd;rw[Aty,Aty]at hd;rw[Aty,hd,HL];refine Ay K Oj (WT ..) ?_;exact NM (by omega)
 |succ i ih=>
  intro out hi hl hd;have h1:i<a.length:=by omega
  have h2:i<out.length:=by omega
  have hx:=ha.get h1;have hm:=Auo (Ad (a.drop (i+1))) hb;have hdc:a.drop i=a[i]::a.drop (i+1):=ε h1;have hr:=Zm b a[i] (a.drop (i+1));rw[←hdc]at hr;have hq:Jz b (a.drop i)=((Ad (a.drop (i+1)) % b)*4294967296+a[i]) / b::Jz b (a.drop (i+1)):=by rw[hdc,Jz]
  have hqlt:=WO (b:=b) hm hx;refine Ay K Oj (WT ..) ?_;rw[show (((i+1:Nat):Int)-1)=(i:Int) by omega];refine BV ?_;refine Ai ?_ (by decide);rw[Au,Ax (ξ h1)];simp only[eL,FW,ND,DK,Ab];rw[Bi (show b<_ by omega)];refine Aq ?_;rw[Au,By h2];refine Ac ?_;rw[show AtG (0+i*1+1) (Ag eL out).length=Δ by rw[AT AB];simp;omega];refine Ac ?_;refine Aq ?_;have hbig:(Ad (a.drop (i+1)) % b)*4294967296+a[i]<18446744073709551616:=by omega
  rw[Bi (show a[i]<_ by omega),KP (by omega),O0 hx (by omega),AcK hbig,AcN,Bt hqlt,hr,show Af.sub .i64 (i:Int) 1=(i:Int)-1 from DW (by omega) (by omega),C0 _ _ _ h2];have g:=ih (out.set i (((Ad (a.drop (i+1)) % b)*4294967296+a[i]) / b)) (by omega) (by rw[AtX];exact hl) (by
   rw[hq,←hd,ε (by rw[AtX];exact h2),Av9,AuJ (by omega)])
  rw[AtX]at g;refine Aa g ?_;rfl
theorem Yq{a:List Nat}(ha:Limbs a)(hs:BX a){b:Nat}(hb:0<b)(hb2:b<4294967296):D.ask (.fn 203) [eN a,.v (.int .u32 (b:Int))] []=Θ (.tup [eN (Ah (Ad a / b)),.v (.int .u32 ((Ad a % b:Nat):Int))],[]):=by
 have hs':=hs;unfold BX at hs';have g:=AlK K a ha hs b hb hb2 a.length (AuQ a.length 0) (η _) (by simp) (by simp[Jz]);rw[AvP,AvD,show Ad [] % b=0 by simp[Ad]]at g;refine Aw K Oj (AoH ..) ?_;rw[Ao,show AtG a.length a.length=Δ by simp];refine Ac ?_;rw[AJ (n:=a.length) (b:=4) (by omega) (by omega)];refine Ac ?_;rw[IE,show Af.sub .i64 (a.length:Int) 1=(a.length:Int)-1 from DW (by omega) (by omega)];refine Aa g ?_;simp only[FW,ND,DK,Ab];have hm:=Auo (Ad a) hb;have gt:=Gc K C (l:=Jz b a) (by unfold BX;rw[HL];exact hs') (NY hb a ha);rw[QY hb]at gt;rw[show AtG (0+a.length*1) (Ag eL (Jz b a)).length=Δ by rw[AT AB,HL];simp];refine Ac ?_;rw[Bp AB _ (HL b a).symm];refine Aa gt ?_;simp only[ND,DK,Ab];rw[AL AB _ (by omega)];refine Ac ?_;rw[Bp AB _ rfl];rw[Bt (by omega)];rfl
end
section
variable {D:Orc} (K:Knows Ds Jl D)
include K
theorem AeY(a:List Nat)(ha:Limbs a)(hs:BX a)(s:Nat)(h31:s<=31):∀(k i:Nat) (out:List Nat) (c:Nat),a.length-i=k->i<=a.length->c<2 ^ s->out.length+k<=2000000000->
  ∃(o:List Nat) (c':Nat),D.ask (.lp 238 0) [iv (s:Int),.sl 0 0 out.length 1,.v (.int .u64 (c:Int)),eN a,iv (a.length:Int),iv (i:Int)] [δ (Ag eL out) Δ Δ]
   = Θ (.tup [iv 1,.sl 1 0 o.length 1,.v (.int .u64 (c':Int))],[.del,.set (δ (Ag eL o) Δ Δ)])/\c'<2 ^ s/\o++[c']=out++DN (2 ^ s) c (a.drop i):=by
 obtain⟨p0,p31,_⟩:=OZ h31;intro k;unfold BX at hs
 induction k with
 |zero=>
  intro i out c hi hle hc ho;refine⟨out,c,?_,hc,?_⟩
  .refine Ay K Om (WU ..) ?_
   exact DL (by omega)
  .rw[show a.drop i=[] from AtM (by omega)]
   rfl
 |succ k ih=>
  intro i out c hi hle hc ho;have hlt:i<a.length:=by omega
  have hx:=ha.get hlt;have hmul:a[i]*2 ^ s<=4294967295*2 ^ s:=AtU _ (by omega);have hb:a[i]*2 ^ s+c<18446744073709551616:=by omega
  have hc2:(a[i]*2 ^ s+c) / 4294967296<2 ^ s:=by
   rw[AvQ (by omega)];omega
  rw[show a.drop i=a[i]::a.drop (i+1) from ε hlt];obtain⟨o,c',h1,h2,h3⟩:=ih (i+1) (out++[(a[i]*2 ^ s+c) % 4294967296]) ((a[i]*2 ^ s+c) / 4294967296) (by omega) (by omega) hc2 (by simp;omega);refine⟨o,c',?_,h2,?_⟩
  .refine Ay K Om (WU ..) ?_
   refine Al ?_;rw[Au,Ax (ξ hlt)];have hf:Bf (out.length+1) 4=Δ:=AJ (by omega) (by omega);have hb1:AtG (0+out.length*1) (Ag eL out).length=Δ:=AL AB out (by omega);have e3:∀ s:Nat,AtD 0 (ο (0+out.length*1) (Ag eL out))++[.v (.int .u32 (s:Int))]=Ag eL (out++[s]):=λs=>by
    rw[Aty,Bc AB out (by omega)];exact Bg eL out s
   rw[κ,AtT]at h1;simp only[eL,FW,ND,DK,Ab];refine Ai ?_;rw[hf,hb1];refine Ac ?_;refine Ac ?_;refine Ai ?_ (by decide);rw[Bi (by omega),XS (by omega) (by omega),AcH hc hb,CX,EV,e3,BQ (by omega)];refine Aa h1 ?_;rfl
  .rw[h3,DN,AtK]
   rfl
variable (C:CloneF D)
include C
theorem Xh{a:List Nat}(ha:Limbs a)(hs0:a.length<=999999998){s:Nat}(h31:s<=31):D.ask (.fn 238) [eN a,iv (s:Int)] []=Θ (.tup [.sl 0 0 (Ah (Ad a*2 ^ s)).length 1,iv 0],[.set (δ (Ag eL (Ah (Ad a*2 ^ s))) Δ Δ)]):=by
 obtain⟨p0,p31,_⟩:=OZ h31;have hs:BX a:=by unfold BX;omega
 have hsn0:(Ah (Ad a)).length<=999999998:=by rw[Dz a ha];have:=Cx a;omega
 have hsn:=DH ha hs;obtain⟨o,c',g,hc,ho⟩:=AeY K (Ah (Ad a)) (Ap _) hsn s h31 (Ah (Ad a)).length 0 [] 0 (by omega) (by omega) p0 (by unfold BX at hsn;simp;omega);rw[AtZ,Aty]at ho;have hlm:Limbs (DN (2 ^ s) 0 (Ah (Ad a))):=G6 _ _ _ (by omega) (Ap _) (by omega);have hol:o.length=(Ah (Ad a)).length:=by
  have:=congrArg Aw6 ho;rw[κ,Pe]at this;simpa using this
 have gt:=Gc K C (l:=o++[c']) (by unfold BX;rw[κ,hol];simp;omega) (by rw[ho];exact hlm);rw[ho,IB,AA,Aun,←ho]at gt;unfold BX at hsn;refine Aw K Om (AoM ..) ?_;refine Ai ?_;refine Ai ?_;refine Aa (Fu K hs ha) ?_;simp only[eN,ND,DK,Ab];refine Aq ?_ (by decide);refine Aq ?_ (by decide);rw[AcI h31,AcL h31,Ao,Aak (by omega),show Af.add .i64 ((0+(Ah (Ad a)).length:Nat):Int) 1=((0+(Ah (Ad a)).length+1:Nat):Int) from BQ (by omega),Au,Au];refine Ac ?_;rw[AJ (by omega) (by omega)];refine Ac ?_;refine Aa g ?_;simp only[FW,ND,DK,Ab];rw[AJ (n:=o.length+1) (b:=4) (by omega) (by omega),AL AB o (by omega),Bt (by omega)];have e3:AtD 0 (ο (0+o.length*1) (Ag eL o))++[.v (.int .u32 (c':Int))]=Ag eL (o++[c']):=by
  rw[Aty,Bc AB o (by omega)];exact Bg eL o c'
 rw[e3,AL AB (o++[c']) (by simp)];refine Ac ?_;refine Ac ?_;rw[Aty,Bc AB (o++[c']) (by simp),show Bh (o.length+1) 1 (Ag eL (o++[c']))=(o++[c']).map eL from by have:=CG AB (o++[c']);rwa [κ]at this];refine Ac ?_;refine Ac ?_;refine Aa gt ?_;rfl
omit C in
theorem Y8(a:List Nat)(ha:Limbs a)(hs:BX a)(s:Nat)(h31:s<=31):∀(k i:Nat) (out:List Nat),a.length-i=k->i<=a.length->out.length+k<=2000000000->
  ∃ o:List Nat,o=out++Fp (2 ^ s) (a.drop i)/\D.ask (.lp 242 0) [eN a,iv (s:Int),.sl 0 0 out.length 1,iv (i:Int)] [δ (Ag eL out) Δ Δ]
   = Θ (.tup [iv 0,.sl 1 0 o.length 1],[.del,.set (δ (Ag eL o) Δ Δ)]):=by
 intro k;unfold BX at hs
 induction k with
 |zero=>
  intro i out hi hle ho;refine⟨out,by rw[show a.drop i=[] from AtM (by omega),Fp,Auu],?_⟩;refine Ay K Oo (WW ..) ?_;rw[Ao];exact DL (by omega)
 |succ k ih=>
  intro i out hi hle ho;have hlt:i<a.length:=by omega
  have hx:=ha.get hlt;rw[show a.drop i=a[i]::a.drop (i+1) from ε hlt,Fp];obtain⟨o,ho2,h1⟩:=ih (i+1) (out++[((a.drop (i+1)).headD 0*4294967296+a[i]) / 2 ^ s % 4294967296]) (by omega) (by omega) (by simp;omega);rw[AtK,Au3]at ho2;refine⟨o,ho2,?_⟩;clear ho2;rw[show (out++[((a.drop (i+1)).headD 0*4294967296+a[i]) / 2 ^ s % 4294967296]).length=out.length+1 by simp]at h1;refine Ay K Oo (WW ..) ?_;rw[Ao];refine Al ?_;have hf:Bf (out.length+1) 4=Δ:=AJ (by omega) (by omega);have hb1:AtG (0+out.length*1) (Ag eL out).length=Δ:=AL AB out (by omega);have e3:∀ s:Nat,AtD 0 (ο (0+out.length*1) (Ag eL out))++[.v (.int .u32 (s:Int))]=Ag eL (out++[s]):=λs=>by
   rw[Aty,Bc AB out (by omega)];exact Bg eL out s
  rw[BQ (by omega)]
  by_cases h2:i+1<a.length
  .have hd:(a.drop (i+1)).headD 0=a[i+1]:=by rw[ε h2];rfl
   have hy:=ha.get h2;rw[hd]at h1;refine Al ?_;rw[Au,Ax (ξ h2)];simp only[eL,FW,ND,DK,Ab];refine Ai ?_ (by decide);rw[Au,Ax (ξ hlt)];simp only[eL,FW,ND,DK,Ab];refine Ai ?_;rw[hf,hb1,Bi (show a[i+1]<_ by omega),Bi (show a[i]<_ by omega),KP hy,O0 hx hy,R7 (by show s<=64;omega),CX,e3];refine Ac ?_;refine Ac ?_;refine Aa h1 ?_;rfl
  .have hd:(a.drop (i+1)).headD 0=0:=by rw[AtM (by omega)];rfl
   rw[hd]at h1;refine Ai ?_;refine Ai ?_ (by decide);rw[Au,Ax (ξ hlt)];simp only[eL,FW,ND,DK,Ab];refine Ai ?_;rw[hf,hb1,Bi (show a[i]<_ by omega),show Af.shl .u64 0 32=((0*4294967296:Nat):Int) from KP (x:=0) (by omega),O0 hx (by omega),R7 (by show s<=64;omega),CX,e3];refine Ac ?_;refine Ac ?_;refine Aa h1 ?_;rfl
theorem Y9{a:List Nat}(ha:Limbs a)(hs:BX a){s:Nat}(h31:s<=31):D.ask (.fn 242) [eN a,iv (s:Int)] []=Θ (eN (Ah (Ad a / 2 ^ s)),[]):=by
 obtain⟨p0,p31,pq⟩:=OZ h31;have hsn:=DH ha hs;obtain⟨o,ho,g⟩:=Y8 K (Ah (Ad a)) (Ap _) hsn s h31 (Ah (Ad a)).length 0 [] (by omega) (by omega) (by unfold BX at hsn;simp;omega);rw[AtZ,Aty]at ho;subst ho;have hlen:=O6 (2 ^ s) (Ah (Ad a));have gt:=Gc K C (l:=Fp (2 ^ s) (Ah (Ad a))) (by unfold BX at *;rw[hlen];exact hsn) (KW _ _);rw[MR p0 pq _ (Ap _),AA]at gt;unfold BX at hsn;refine Aw K Oo (AoQ ..) ?_;refine Aa (Fu K hs ha) ?_;simp only[eN,ND,DK,Ab];refine Aq ?_ (by decide);refine Aq ?_ (by decide);rw[AnF,AcI h31,AcL h31,Ao]
 by_cases h0:Ad a=0
 .rw[h0,CR,Nat.zero_div,CR]
  exact NN (by decide)
 .have hne:0<(Ah (Ad a)).length:=by
   rcases AuO (Ah (Ad a)).length with h|h
   .exact absurd (T5.1 (Auc h)) h0
   .exact h
  refine Cn ?_;rw[Pg (j:=0) (by omega) (by omega),Au,AJ (by omega) (by omega)];refine Ac ?_;refine Aa g ?_;simp only[ND,DK,Ab];rw[AL AB _ (by omega)];refine Ac ?_;rw[Bp AB _ rfl];refine Aa gt ?_;simp only[ND,DK,Ab];rw[AL AB _ (by omega)];refine Ac ?_;rw[Bp AB _ rfl]
end
theorem NC:∀(m c w:Nat) (u d:List Nat),Du m c w u d=Du m c w (u.take d.length) d
 |_,_,_,_,[]=>rfl
 |m,c,w,[],x::d=>by rw[Awo]
 |m,c,w,y::u,x::d=>by
  rw[γ,Avl,Du,Du,Avj,Avj,AuX,AuX,NC m _ _ u d]
theorem NF:∀(m c w:Nat) (u d:List Nat),C3 m c w u d=C3 m c w (u.take d.length) d
 |_,_,_,_,[]=>rfl
 |m,c,w,[],x::d=>by rw[Awo]
 |m,c,w,y::u,x::d=>by
  rw[γ,Avl,C3,C3,Avj,Avj,AuX,AuX,NF m _ _ u d]
theorem NI:∀(c:Nat) (u d:List Nat),C4 c u d=C4 c (u.take d.length) d
 |_,_,[]=>rfl
 |c,[],x::d=>by rw[Awo]
 |c,y::u,x::d=>by
  rw[γ,Avl,C4,C4,Avj,Avj,AuX,AuX,NI _ u d]
theorem NH:∀(c:Nat) (u d:List Nat),CN c u d=CN c (u.take d.length) d
 |_,_,[]=>rfl
 |c,[],x::d=>by rw[Awo]
 |c,y::u,x::d=>by
  rw[γ,Avl,CN,CN,Avj,Avj,AuX,AuX,NH _ u d]
theorem IV{l:List Nat}(h:Limbs l){i v:Nat}(hv:v<4294967296):Limbs (l.set i v):=λz hz=>by
 rcases Aws hz with h1|h1
 .exact h z h1
 .rw[h1];exact hv
theorem Pc{l:List Nat}{j v:Nat}(h:j<l.length):(l.set j v).take (j+1)=l.take j++[v]:=by
 rw[Auh (by rw[AtX];exact h),Av9,AwU (η _)]
theorem cuN(n:Int)(f:Int->KR):(MW .u32 [.v (.int .u32 n)] λn y=>Fv y (f n))=f n:=by rw[FW];rfl
section
variable {D:Orc} (K:Knows Ds Jl D)
include K
theorem Aei(d:List Nat)(hd:Limbs d)(m:Nat)(hm:m<4294967296)(o n:Nat)(hn:d.length<n):∀(k i:Nat) (U:List Nat) (c w:Nat),d.length-i=k->i<=d.length->Limbs U->o+n<=U.length->U.length<=2000000000->c<4294967296->w<=1->
  ∃ U':List Nat,U'=U.take (o+i)++Du m c w (U.drop (o+i)) (d.drop i)++U.drop (o+d.length) ∧
   D.ask (.lp 240 0) [.sl 0 o n 1,eN d,.v (.int .u64 (m:Int)),.v (.int .u64 (c:Int)),.v (.int .u64 (w:Int)),eN d,iv (d.length:Int),iv (i:Int)] [δ (Ag eL U) Δ Δ]
    = Θ (.tup [iv 0,.sl 0 o n 1,eN d,.v (.int .u64 (DP m c (d.drop i):Int)),.v (.int .u64 (C3 m c w (U.drop (o+i)) (d.drop i):Int))],[.set (δ (Ag eL U') Δ Δ)]):=by
 intro k
 induction k with
 |zero=>
  intro i U c w hi hle hU hoU hUl hc hw;obtain rfl:i=d.length:=by omega
  refine⟨U,?_,?_⟩
  .rw[AvD,Du,Auu,AuB]
  .rw[AvD,DP,C3]
   refine Ay K Lx (Ru ..) ?_;exact DL (by omega)
 |succ k ih=>
  intro i U c w hi hle hU hoU hUl hc hw;have hlt:i<d.length:=by omega
  have hou:o+i<U.length:=by omega
  have hx:=hd.get hlt;have hy:=hU.get hou;have hp:=JM hm hx;have hmd:=Auo (m*d[i]+c) (show 0<4294967296 by omega);have hhd:(U.drop (o+i)).headD 0=U[o+i]:=by rw[ε hou];rfl
  have htl:(U.drop (o+i)).tail=U.drop (o+i+1):=by rw[Avv]
  rw[show d.drop i=d[i]::d.drop (i+1) from ε hlt,Du,DP,C3,hhd,htl]
  by_cases hb:U[o+i]<(m*d[i]+c) % 4294967296+w
  .rw[if_pos hb,if_pos hb]
   obtain⟨U',hU',g⟩:=ih (i+1) (U.set (o+i) (U[o+i]+4294967296-((m*d[i]+c) % 4294967296+w))) ((m*d[i]+c) / 4294967296) 1 (by omega) (by omega) (IV hU (by omega)) (by rw[AtX];exact hoU) (by rw[AtX];exact hUl) (by omega) (η _);rw[show o+(i+1)=o+i+1 by omega,Pc hou,AuJ (by omega),AuJ (by omega)]at hU';rw[show o+(i+1)=o+i+1 by omega,AuJ (show o+i<o+i+1 by omega)]at g;refine⟨U',by rw[hU'];simp only[AtK,Au3,AuH,AtZ],?_⟩;refine Ay K Lx (Ru ..) ?_;refine Al ?_;rw[Au,Ax (ξ hlt)];simp only[eL,FW,ND,DK,Ab];refine Ai ?_ (by decide);rw[Au,show Auq i n=Δ from By (by omega),show o+i*1=0+(o+i)*1 by omega];refine Ac ?_;refine(Iq U _ hou _).trans ?_;simp only[FW,ND,DK,Ab];rw[Bi (show U[o+i]<_ by omega),Bi (show d[i]<_ by omega),KO (by omega),B3 (show m*d[i]+c<_ by omega),XQ (by omega),B3 (by omega),EV];refine Al ?_;rw[Au,show Auq i n=Δ from By (by omega)];refine Ac ?_;rw[show o+i*1=0+(o+i)*1 by omega,show AtG (0+(o+i)*1+1) (Ag eL U).length=Δ by rw[AT AB];simp;omega];refine Ac ?_;rw[show Af.add .u64 (U[o+i]:Int) 4294967296=((U[o+i]+4294967296:Nat):Int) from B3 (y:=4294967296) (by omega),Eb (by omega) (by omega),Bt (by omega),C0 _ _ _ hou,BQ (by omega)];refine Aa g ?_;rfl
  .rw[if_neg hb,if_neg hb]
   obtain⟨U',hU',g⟩:=ih (i+1) (U.set (o+i) (U[o+i]-((m*d[i]+c) % 4294967296+w))) ((m*d[i]+c) / 4294967296) 0 (by omega) (by omega) (IV hU (by omega)) (by rw[AtX];exact hoU) (by rw[AtX];exact hUl) (by omega) (At7 _);rw[show o+(i+1)=o+i+1 by omega,Pc hou,AuJ (by omega),AuJ (by omega)]at hU';rw[show o+(i+1)=o+i+1 by omega,AuJ (show o+i<o+i+1 by omega)]at g;refine⟨U',by rw[hU'];simp only[AtK,Au3,AuH,AtZ],?_⟩;refine Ay K Lx (Ru ..) ?_;refine Al ?_;rw[Au,Ax (ξ hlt)];simp only[eL,FW,ND,DK,Ab];refine Ai ?_ (by decide);rw[Au,show Auq i n=Δ from By (by omega),show o+i*1=0+(o+i)*1 by omega];refine Ac ?_;refine(Iq U _ hou _).trans ?_;simp only[FW,ND,DK,Ab];rw[Bi (show U[o+i]<_ by omega),Bi (show d[i]<_ by omega),KO (by omega),B3 (show m*d[i]+c<_ by omega),XQ (by omega),B3 (by omega),EV];refine Ai ?_;rw[Au,show Auq i n=Δ from By (by omega)];refine Ac ?_;rw[show o+i*1=0+(o+i)*1 by omega,show AtG (0+(o+i)*1+1) (Ag eL U).length=Δ by rw[AT AB];simp;omega];refine Ac ?_;rw[Eb (by omega) (by omega),Bt (by omega),C0 _ _ _ hou,BQ (by omega)];refine Aa g ?_;rfl
theorem UJ{d:List Nat}(hd:Limbs d){m:Nat}(hm:m<4294967296){o:Nat}{U:List Nat}(hU:Limbs U)(hl:o+d.length<U.length)(hUl:U.length<=1000000000) :
  D.ask (.fn 240) [.sl 0 o (d.length+1) 1,eN d,.v (.int .u64 (m:Int))] [δ (Ag eL U) Δ Δ]
   = Θ (bv (decide (U[o+d.length]<DP m 0 d+C3 m 0 0 (U.drop o) d)),[.set (δ (Ag eL (U.take o++(Du m 0 0 (U.drop o) d++[(U[o+d.length]+4294967296-(DP m 0 d+C3 m 0 0 (U.drop o) d)) % 4294967296])++U.drop (o+(d.length+1)))) Δ Δ)]):=by
 obtain⟨U',hU',g⟩:=Aei K d hd m hm o (d.length+1) (AuT _) d.length 0 U 0 0 (by omega) (by omega) hU (by omega) (by omega) (by omega) (by omega);simp only[Aun,Aty]at hU' g;have hc:=NB m 0 d hm hd (by omega);have hw:=NE m 0 0 (U.drop o) d (At7 _);have hul:=hU.get hl;have hlen:U'.length=U.length:=by
  rw[hU'];simp only[κ,AtV,Au8,Gd];omega
 have hjl:o+d.length<U'.length:=by omega
 have hpre:(U.take o++Du m 0 0 (U.drop o) d).length=o+d.length:=by
  rw[κ,AtV,Gd];omega
 have hget:U'[o+d.length]=U[o+d.length]:=by
  have:U'[o+d.length]? = U[o+d.length]?:=by
   rw[hU',AtW (by omega),hpre,AvS,AuA,Aun]
  rw[ξ hjl,ξ hl]at this;injection this
 have hset:∀ v,U'.set (o+d.length) v=U.take o++(Du m 0 0 (U.drop o) d++[v])++U.drop (o+(d.length+1)):=λv=>by
  rw[hU',AwM _ _ (by omega),hpre,AvS,ε hl,Au6];simp only[AtK,Au3,AuH,AtZ];rw[Aud]
 refine Aw K Lx (AoO ..) ?_;rw[Ao];refine Aa g ?_;simp only[eN,FW,UR,Ao,ND,DK,Ab];rw[show Auq d.length (d.length+1)=Δ from By (AuT _),show o+d.length*1=0+(o+d.length)*1 by omega];refine Ac ?_;refine(Iq U' _ hjl _).trans ?_;refine(cuN _ _).trans ?_;refine Ac ?_;rw[show AtG (0+(o+d.length)*1+1) (Ag eL U').length=Δ by rw[AT AB];simp;omega];refine Ac ?_;rw[hget,Bi (by omega),B3 (by omega),AnG (by omega) hul,C0 _ _ _ hjl,hset]
 by_cases hb:U[o+d.length]<DP m 0 d+C3 m 0 0 (U.drop o) d
 .rw[decide_eq_true hb]
  exact Rg (by omega)
 .rw[decide_eq_false hb]
  exact DL (by omega)
theorem Aek(d:List Nat)(hd:Limbs d)(o n:Nat)(hn:d.length<n):∀(k i:Nat) (U:List Nat) (c:Nat),d.length-i=k->i<=d.length->Limbs U->o+n<=U.length->U.length<=2000000000->c<=1->
  ∃ U':List Nat,U'=U.take (o+i)++C4 c (U.drop (o+i)) (d.drop i)++U.drop (o+d.length) ∧
   D.ask (.lp 241 0) [.sl 0 o n 1,eN d,.v (.int .u64 (c:Int)),eN d,iv (d.length:Int),iv (i:Int)] [δ (Ag eL U) Δ Δ]
    = Θ (.tup [iv 0,.sl 0 o n 1,eN d,.v (.int .u64 (CN c (U.drop (o+i)) (d.drop i):Int))],[.set (δ (Ag eL U') Δ Δ)]):=by
 intro k
 induction k with
 |zero=>
  intro i U c hi hle hU hoU hUl hc;obtain rfl:i=d.length:=by omega
  refine⟨U,?_,?_⟩
  .rw[AvD,C4,Auu,AuB]
  .rw[AvD,CN]
   refine Ay K On (WV ..) ?_;exact DL (by omega)
 |succ k ih=>
  intro i U c hi hle hU hoU hUl hc;have hlt:i<d.length:=by omega
  have hou:o+i<U.length:=by omega
  have hx:=hd.get hlt;have hy:=hU.get hou;have hhd:(U.drop (o+i)).headD 0=U[o+i]:=by rw[ε hou];rfl
  have htl:(U.drop (o+i)).tail=U.drop (o+i+1):=by rw[Avv]
  have hmd:=Auo (U[o+i]+d[i]+c) (show 0<4294967296 by omega);rw[show d.drop i=d[i]::d.drop (i+1) from ε hlt,C4,CN,hhd,htl];obtain⟨U',hU',g⟩:=ih (i+1) (U.set (o+i) ((U[o+i]+d[i]+c) % 4294967296)) ((U[o+i]+d[i]+c) / 4294967296) (by omega) (by omega) (IV hU hmd) (by rw[AtX];exact hoU) (by rw[AtX];exact hUl) (by omega);rw[show o+(i+1)=o+i+1 by omega,Pc hou,AuJ (by omega),AuJ (by omega)]at hU';rw[show o+(i+1)=o+i+1 by omega,AuJ (show o+i<o+i+1 by omega)]at g;refine⟨U',by rw[hU'];simp only[AtK,Au3,AuH,AtZ],?_⟩;refine Ay K On (WV ..) ?_;refine Al ?_;rw[Au,Ax (ξ hlt)];simp only[eL,FW,ND,DK,Ab];rw[Au,show Auq i n=Δ from By (by omega),show o+i*1=0+(o+i)*1 by omega];refine Ac ?_;refine(Iq U _ hou _).trans ?_;simp only[FW,ND,DK,Ab];rw[Au,show Auq i n=Δ from By (by omega)];refine Ac ?_;rw[show o+i*1=0+(o+i)*1 by omega,show AtG (0+(o+i)*1+1) (Ag eL U).length=Δ by rw[AT AB];simp;omega];refine Ac ?_;refine Ai ?_ (by decide);rw[Bi (show U[o+i]<_ by omega),Bi (show d[i]<_ by omega),B3 (by omega),B3 (by omega),EV,CX,C0 _ _ _ hou,BQ (by omega)];refine Aa g ?_;rfl
theorem V8{d:List Nat}(hd:Limbs d){o:Nat}{U:List Nat}(hU:Limbs U)(hl:o+d.length<U.length)(hUl:U.length<=1000000000) :
  D.ask (.fn 241) [.sl 0 o (d.length+1) 1,eN d] [δ (Ag eL U) Δ Δ]
   = Θ (.tup [],[.set (δ (Ag eL (U.take o++(C4 0 (U.drop o) d++[(U[o+d.length]+CN 0 (U.drop o) d) % 4294967296])++U.drop (o+(d.length+1)))) Δ Δ)]):=by
 obtain⟨U',hU',g⟩:=Aek K d hd o (d.length+1) (AuT _) d.length 0 U 0 (by omega) (by omega) hU (by omega) (by omega) (by omega);simp only[Aun,Aty]at hU' g;have hc:=NG 0 (U.drop o) d (hU.drop o) hd (by omega);have hul:=hU.get hl;have hlen:U'.length=U.length:=by
  rw[hU'];simp only[κ,AtV,Au8,El];omega
 have hjl:o+d.length<U'.length:=by omega
 have hpre:(U.take o++C4 0 (U.drop o) d).length=o+d.length:=by
  rw[κ,AtV,El];omega
 have hget:U'[o+d.length]=U[o+d.length]:=by
  have:U'[o+d.length]? = U[o+d.length]?:=by
   rw[hU',AtW (by omega),hpre,AvS,AuA,Aun]
  rw[ξ hjl,ξ hl]at this;injection this
 have hset:∀ v,U'.set (o+d.length) v=U.take o++(C4 0 (U.drop o) d++[v])++U.drop (o+(d.length+1)):=λv=>by
  rw[hU',AwM _ _ (by omega),hpre,AvS,ε hl,Au6];simp only[AtK,Au3,AuH,AtZ];rw[Aud]
 refine Aw K On (AoP ..) ?_;rw[Ao];refine Aa g ?_;simp only[eN,FW,UR,Ao,ND,DK,Ab];rw[show Auq d.length (d.length+1)=Δ from By (AuT _),show o+d.length*1=0+(o+d.length)*1 by omega];refine Ac ?_;refine(Iq U' _ hjl _).trans ?_;refine(cuN _ _).trans ?_;refine Ac ?_;rw[show AtG (0+(o+d.length)*1+1) (Ag eL U').length=Δ by rw[AT AB];simp;omega];refine Ac ?_;rw[hget,Bt (by omega),AiI,C0 _ _ _ hjl,hset]
end
def HW(f v ul:Nat):Nat->Nat->Nat->Nat
 |0,g,_=>g
 |k+1,g,r=>if 4294967296<=g\/r*4294967296+ul<g*v then(if 4294967296<=r+f then g-1 else HW f v ul k (g-1) (r+f)) else g
structure Gs (W Dv g:Nat):Prop where
 lt:g<4294967296
 hi:g*Dv<W+Dv
 lo:W<(g+1)*Dv
theorem VG{P f v vl ul wl T W Dv:Nat}(hv:v<4294967296)(hvl:vl<P)(hwl:wl<P)(hf:2147483648<=f)(hDv:Dv=(f*4294967296+v)*P+vl)(hW:W=(T*4294967296+ul)*P+wl)(hWD:W<Dv*4294967296):∀(k g r:Nat),g*f+r=T->W<(g+1)*Dv->r<4294967296->4294967296<=r+k*f->Gs W Dv (HW f v ul k g r):=by
 have hTV:T<=f*4294967296+v:=by
  by_cases h:T<=f*4294967296+v
  .exact h
  .exfalso
   have h1:(f*4294967296+v+1)*4294967296*P<=(T*4294967296+ul)*P:=AtU _ (by omega);have h2:Dv*4294967296<=(f*4294967296+v+1)*4294967296*P:=by
    rw[hDv,At6 _ 4294967296 P,Auj 4294967296 P,←At6];exact AtU _ (by rw[Aue _ 1 P,AuP];omega)
   omega
 have good:∀ g r,g*f+r=T->g<4294967296->g*v<=r*4294967296+ul->W<(g+1)*Dv->Gs W Dv g:=λg r h1 h2 h3 h4=>by
  refine⟨h2,?_,h4⟩;have h5:g*(f*4294967296+v)<=T*4294967296+ul:=by
   rw[←h1,Auz,Aue,At6];omega
  have:=Aby (ul:=wl) hvl (show 4294967296<=f*4294967296+v by omega) (Nat.le_of_lt h2) h5;rw[hDv,hW];exact this
 intro k
 induction k with
 |zero=>intro g r _ _ h1 h2;omega
 |succ k ih=>
  intro g r h1 h2 h3 h4;rw[HW]
  by_cases hc:4294967296<=g\/r*4294967296+ul<g*v
  .rw[if_pos hc]
   have hg:1<=g:=by
    rcases hc with h|h
    .omega
    .rcases AuO g with e|e
     .rw[e]at h;omega
     .exact e
   obtain⟨g',rfl⟩:∃ g',g=g'+1:=⟨g-1,by omega⟩;rw[Au0];have hlo:W<(g'+1)*Dv:=by
    rcases hc with h|h
    .have:4294967296*Dv<=(g'+1)*Dv:=AtU _ h
     rw[Auj]at this;omega
    .have h5:T*4294967296+ul<(g'+1)*(f*4294967296+v):=by
      rw[←h1,Auz,Aue,At6];omega
     have:=Abz (vl:=vl) hwl h5;rw[hDv,hW];exact this
   have hr:g'*f+(r+f)=T:=by
    rw[Aue,AuP]at h1;omega
   by_cases hb:4294967296<=r+f
   .rw[if_pos hb]
    have hgB:g'<4294967296:=by
     by_cases h:g'<4294967296
     .exact h
     .have:4294967296*f<=g'*f:=AtU _ (by omega)
      rw[Auj]at this;omega
    refine good g' (r+f) hr hgB ?_ hlo;have h6:g'*v<=4294967296*4294967296:=Nat.mul_le_mul (by omega) (by omega);have h7:4294967296*4294967296<=(r+f)*4294967296:=AtU _ hb;omega
   .rw[if_neg hb]
    exact ih g' (r+f) hr hlo (by omega) (by rw[Aue,AuP]at h4;omega)
  .rw[if_neg hc]
   have hc1:¬ 4294967296<=g:=λh=>hc (.inl h)
   have hc2:¬ r*4294967296+ul<g*v:=λh=>hc (.inr h)
   exact good g r h1 (by omega) (by omega) h2
theorem Abx{f v T:Nat}(hv:v<4294967296)(hf:2147483648<=f)(h:T<=f*4294967296+v):T / f<=4294967297:=by
 have h1:T<4294967298*f:=by
  rw[show 4294967298*f=f*4294967296+2*f by rw[Auj f];omega];omega
 have:=(AvQ (show 0<f by omega)).2 h1;omega
theorem Adn{win d win':List Nat}{ul ul' W Dv g:Nat}(hn:win.length=d.length)(hn':win'.length=d.length)(hd:Limbs d)(hW:Ad (win++[ul])=W)(hDv:Ad d=Dv)(hG:Gs W Dv g){t:Nat}(hlw:Limbs (win'++[ul']))
  (hA:Ad (win'++[ul'])+g*Dv=W+(if ul<t then 4294967296 ^ (d.length+1) else 0)) :
  (¬ ul<t->Ad (win'++[ul'])+g*Dv=W/\Ad (win'++[ul'])<Dv) ∧
  (ul<t->1<=g/\(Ad (win'++[ul'])+Dv) % 4294967296 ^ (d.length+1)+(g-1)*Dv=W/\(Ad (win'++[ul'])+Dv) % 4294967296 ^ (d.length+1)<Dv):=by
 have hlt:=BM hlw;have hdl:=BM hd;rw[hDv]at hdl;have hpw:4294967296 ^ (d.length+1)=4294967296 ^ d.length*4294967296:=AuM ..;rw[κ,AtT,hn']at hlt;have hlo:=hG.lo;have hhi:=hG.hi;rw[Aue,AuP]at hlo;refine⟨λh=>?_,λh=>?_⟩
 .rw[if_neg h]at hA
  omega
 .rw[if_pos h]at hA
  have hg:1<=g:=by
   rcases AuO g with e|e
   .rw[e,Avd]at hA
    omega
   .exact e
  obtain⟨g',rfl⟩:∃ g',g=g'+1:=⟨g-1,by omega⟩;rw[Aue,AuP]at hA hhi;rw[Au0];have e:(Ad (win'++[ul'])+Dv) % 4294967296 ^ (d.length+1)=Ad (win'++[ul'])+Dv-4294967296 ^ (d.length+1):=by
   rw[Nat.mod_eq_sub_mod (by omega)];refine AuK ?_;omega
  rw[e];omega
