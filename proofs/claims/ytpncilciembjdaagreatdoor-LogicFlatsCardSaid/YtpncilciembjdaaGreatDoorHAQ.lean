/- slices.Clone over this s -/
import Derived.Maps.AppendAt
import Derived.Test.YtpncilciembjdaaGreatDoorHAM
import Derived.Test.YtpncilciembjdaaGreatDoorHAO
import Derived.Test.YtpncilciembjdaaGreatDoorHAP
set_option linter.all false
open Bool renaming true->Δ,and_eq_true->Awh
open Int renaming fdiv_eq_ediv_of_nonneg->AyQ,natCast_mul->AyK,natCast_pow->AzA,tdiv->Ayr,toNat_natCast->Azo
open List renaming append_assoc->Awd,append_nil->AwF,cons_append->AxC,drop->Av8,drop_drop->Ayd,drop_eq_getElem_cons->η,drop_eq_nil_of_le->Awb,drop_length->Ayf,drop_set_of_lt->Axg,drop_zero->ο,eq_nil_of_length_eq_zero->AwD,flatten_cons->Axp,getElem?_append_right->AwR,getElem?_drop->Axy,getElem?_eq_getElem->ξ,getElem_set_self->AyI,headD_cons->Axs,length->Azt,length_append->ε,length_cons->γ,length_drop->AxD,length_replicate->Ayl,length_set->AwJ,length_singleton->Awp,length_take->Awo,map_take->AyR,mem_of_mem_drop->Axt,mem_or_eq_of_mem_set->AyW,mem_replicate->Azk,nil_append->Awv,replicate->Axl,set_append_right->Azb,set_cons_zero->Axz,set_eq_take_append_cons_drop->AyD,singleton_append->AwO,tail_cons->AxO,tail_drop->Ax3,take->κ,take_append_drop->Axf,take_length->Axn,take_nil->AyS,take_set_of_le->Azh,take_succ_cons->Axo,take_succ_eq_append_getElem->AwK
open Nat renaming add_assoc->AwI,add_comm->AzS,add_mul->AwW,add_mul_div_left->Ax8,add_sub_cancel->AxA,add_zero->Aw1,ble->Awf,blt->Aw0,div_add_mod->AyL,div_lt_iff_lt_mul->Aym,eq_zero_or_pos->Axk,le_refl->π,lt_succ_self->AwC,min->Axd,min_eq_left->Aw4,mod_eq_of_lt->Aw8,mod_lt->AwU,mul_add->Axu,mul_assoc->Aw3,mul_comm->Aw2,mul_le_mul_right->Aww,mul_one->Aya,ne_of_gt->AzV,one_mul->AxR,pow_succ->Aw6,sub_self->Ayn,zero_add->Awt,zero_le->Awz,zero_mul->Ax2
open Option renaming none->Ξ,some->Θ
namespace Go.Proofs.YtpncilciembjdaaGreatDoor
noncomputable section
open ABlk renaming mk->θ
open AV renaming ls->Ψ,sl->υ,tup->Awe,v->Awc
open BO renaming set->Awn
open IntKind renaming i64->ω,u32->ζ,u64->Ω,u8->Azc
open Key renaming fn->φ,lp->Awa
open Lib renaming hid->ι,run_eql_slice_nil->Aza
open Option.some renaming injEq->ψ
open Tryz renaming prog->Av9
open Go.RowKit
theorem Qe(a:Addr)(j:Nat):(a.add j).block=a.block:=by unfold Addr.add;split<;>rfl
set_option maxRecDepth 100000 in
set_option maxHeartbeats 4000000 in
theorem Oe(w:World)(A:Option Addr)(n c:Nat)(us:AO)(hn:us.length=n*3)(hc:n<=c)(hA:n≠0->∃ g o,A=Θ ⟨g,o,Ξ⟩/\∀ j u,us[j]? = Θ u->w.cell? ⟨g,o+j,Ξ⟩=Θ u)
  (h1:∀ u∈us,u.oneCell'=Δ) (hby:n*40<=140737488355328) :
  Calls Av9 135 #[.slice A n c] w λe w'=>∃ v',e=.returned v'/\w'.ownsRow w.heap.size 84 3 v' n us/\Below w.heap.size w w':=by
 obtain⟨i0,hi0,hz0,hz1,hz2⟩:=info_parts (show (Tryz.prog.info? 84).map (λi=>(i.zero,i.size,i.bytes))=Θ (Θ (.agg #[.int .i64 0,.bool false,.slice Ξ 0 0]),3,40) by kernel_rfl);have HU:=ι hn;have HA:=ι hA;have H1:=ι h1;clear hn hA h1;have hq:∀(w:World) (a:Option Addr) (n c:Nat),(binOp .eql 22 (.slice a n c) (.slice Ξ 0 0)).run Av9 w=.ok (.bool a.isNone) w:=λw a n c=>Aza w _ _ a n c 0 0 Tryz.underlying22
 go_enter Tryz.func135,Tryz.ntmps135
 cases A with
 |none=>
  have h0:n=0:=by
   rcases Axk n with h|h
   .exact h
   .exfalso
    obtain⟨g,o,h2,_⟩:=HA.out (AzV h)
    cases h2
  subst h0
  go_wp2
  go_ret
  have hu:us=[]:=AwD (by rw[HU.out,Ax2]);rw[hu];exact⟨_,rfl,World.ownsRow_nil _ _ _ _,Below.refl _ _⟩
 |some ad=>
  obtain⟨ag,ao,asp⟩:=ad;have hcells:∀ j u,us[j]? = Θ u->ag<w.heap.size/\w.cell? ((⟨ag,ao,asp⟩:Addr).add j)=Θ u:=λj u hj=>by
   have hn0:n≠0:=by
    rintro rfl;have hu:us=[]:=AwD (by rw[HU.out,Ax2]);rw[hu]at hj
    cases hj
   obtain⟨g,o,h2,h3⟩:=HA.out hn0
   cases h2
   have h5:=h3 j u hj;exact⟨Dt h5,by rw[Ig];exact h5⟩
  have HC:=ι hcells;clear hcells
  go_wp2_with (at_builtin;refine wpList_append_own_at _ rfl _ _ 22 rfl w.heap.size 84 i0 (.agg #[.int .i64 0,.bool false,.slice Ξ 0 0]) 3 40 Tryz.underlying22 hi0 hz0 hz1 hz2 rfl (by decide) _ 0 [] rfl ?c0 ⟨ag,ao,asp⟩ n c us rfl HU.out ?c1 H1.out ?c3 ?c4 ?c5 ?_)
  case c0=>exact⟨by simp,.inr ⟨w.heap.size,0,#[],rfl,π _,heap_alloc_new _ _,π _,Awz _,by simp,by simp⟩⟩
  case c1=>
   intro j u hj;have:=HC.out j u hj;exact((Bx w (.cells #[] 84)).cell (p:=(⟨ag,ao,asp⟩:Addr).add j) (by rw[Qe];exact this.1)).trans this.2
  case c3=>unfold maxLen;omega
  case c4=>omega
  case c5=>exact(Bx w _).size
  intro v' w3 hown hgrow _ _
  try simp only[Awt,Awv]at hown
  have HO:=ι hown;have HB:=ι ((Bx w (.cells #[] 84)).grown hgrow (Bx w _).size (λk hk=>by have hk:Θ w.heap.size=Θ k:=hk;cases hk;exact π _));clear hown hgrow
  go_wp2_with fail
  go_ret
  exact⟨_,rfl,HO.out,HB.out⟩
set_option maxRecDepth 100000 in
set_option maxHeartbeats 4000000 in
theorem VR(w:World)(A:Option Addr)(n c:Nat)(us:AO)(hn:us.length=n*1)(hc:n<=c)(hA:n≠0->∃ g o,A=Θ ⟨g,o,Ξ⟩/\∀ j u,us[j]? = Θ u->w.cell? ⟨g,o+j,Ξ⟩=Θ u)
  (h1:∀ u∈us,u.oneCell'=Δ) (hby:n*4<=140737488355328) :
  Calls Av9 236 #[.slice A n c] w λe w'=>∃ v',e=.returned v'/\w'.ownsRow w.heap.size 134 1 v' n us/\Below w.heap.size w w':=by
 obtain⟨i0,hi0,hz0,hz1,hz2⟩:=info_parts (show (Tryz.prog.info? 134).map (λi=>(i.zero,i.size,i.bytes))=Θ (Θ (.int .u32 0),1,4) by kernel_rfl);have HU:=ι hn;have HA:=ι hA;have H1:=ι h1;clear hn hA h1;have hq:∀(w:World) (a:Option Addr) (n c:Nat),(binOp .eql 24 (.slice a n c) (.slice Ξ 0 0)).run Av9 w=.ok (.bool a.isNone) w:=λw a n c=>Aza w _ _ a n c 0 0 Tryz.underlying24
 go_enter Tryz.func236,Tryz.ntmps236
 cases A with
 |none=>
  have h0:n=0:=by
   rcases Axk n with h|h
   .exact h
   .exfalso
    obtain⟨g,o,h2,_⟩:=HA.out (AzV h)
    cases h2
  subst h0
  go_wp2
  go_ret
  have hu:us=[]:=AwD (by rw[HU.out,Ax2]);rw[hu];exact⟨_,rfl,World.ownsRow_nil _ _ _ _,Below.refl _ _⟩
 |some ad=>
  obtain⟨ag,ao,asp⟩:=ad;have hcells:∀ j u,us[j]? = Θ u->ag<w.heap.size/\w.cell? ((⟨ag,ao,asp⟩:Addr).add j)=Θ u:=λj u hj=>by
   have hn0:n≠0:=by
    rintro rfl;have hu:us=[]:=AwD (by rw[HU.out,Ax2]);rw[hu]at hj
    cases hj
   obtain⟨g,o,h2,h3⟩:=HA.out hn0
   cases h2
   have h5:=h3 j u hj;exact⟨Dt h5,by rw[Ig];exact h5⟩
  have HC:=ι hcells;clear hcells
  go_wp2_with (at_builtin;refine wpList_append_own_at _ rfl _ _ 24 rfl w.heap.size 134 i0 (.int .u32 0) 1 4 Tryz.underlying24 hi0 hz0 hz1 hz2 rfl (by decide) _ 0 [] rfl ?c0 ⟨ag,ao,asp⟩ n c us rfl HU.out ?c1 H1.out ?c3 ?c4 ?c5 ?_)
  case c0=>exact⟨by simp,.inr ⟨w.heap.size,0,#[],rfl,π _,heap_alloc_new _ _,π _,Awz _,by simp,by simp⟩⟩
  case c1=>
   intro j u hj;have:=HC.out j u hj;exact((Bx w (.cells #[] 134)).cell (p:=(⟨ag,ao,asp⟩:Addr).add j) (by rw[Qe];exact this.1)).trans this.2
  case c3=>unfold maxLen;omega
  case c4=>omega
  case c5=>exact(Bx w _).size
  intro v' w3 hown hgrow _ _
  try simp only[Awt,Awv]at hown
  have HO:=ι hown;have HB:=ι ((Bx w (.cells #[] 134)).grown hgrow (Bx w _).size (λk hk=>by have hk:Θ w.heap.size=Θ k:=hk;cases hk;exact π _));clear hown hgrow
  go_wp2_with fail
  go_ret
  exact⟨_,rfl,HO.out,HB.out⟩
section
variable {μ:Mu} {F:Bf} {w:World} {g:Nat}
theorem Xy:∀(xs:Ab) (o:Nat),RepAt μ F w g xs o->∃ us,RepList μ F w xs us/\∀ j u,us[j]? = Θ u->w.cell? ⟨g,o+j,Ξ⟩=Θ u
 |[],o,_=>⟨[],rfl,λj u h=>by simp at h⟩
 |x::r,o,h=>by
  simp only[RepAt]at h;obtain⟨⟨_,u,h2,h3⟩,h4⟩:=h;obtain⟨us,h5,h6⟩:=Xy r (o+1) h4;refine⟨u::us,⟨u,us,rfl,h3,h5⟩,λj v hj=>?_⟩
  cases j with
  |zero=>simp at hj;subst hj;exact h2
  |succ j=>
   have:=h6 j v (by simpa using hj)
   rwa [show o+1+j=o+(j+1) by omega]at this
theorem Mg{e:Nat}:∀(xs:Rw) (o:Nat),RepRows μ F w g e xs o->∃ us,RepList μ F w xs.flatten us/\∀ j u,us[j]? = Θ u->w.cell? ⟨g,o+j,Ξ⟩=Θ u
 |[],o,_=>⟨[],rfl,λj u h=>by simp at h⟩
 |x::r,o,h=>by
  simp only[RepRows]at h;obtain⟨h1,h2,h3⟩:=h;obtain⟨us,a1,a2⟩:=Xy x o h2;obtain⟨vs,b1,b2⟩:=Mg r (o+e) h3;refine⟨us++vs,by rw[Axp];exact RepList.append a1 b1,λj v hj=>?_⟩;have hl:us.length=e:=by rw[a1.length,h1]
  by_cases hj2:j<us.length
  .exact a2 j v (by rwa [List.getElem?_append_left hj2]at hj)
  .rw[AwR (by omega),hl]at hj
   have:=b2 (j-e) v hj
   rwa [show o+e+(j-e)=o+j by omega]at this
end
def B7(e B:Nat):Ab->Option (Nat × Ab)
 |[.ls xs]=>if(EG e xs&&Gv (E8 xs)&&Bj (E8 xs)&&Awf (AT xs*B) 140737488355328)=Δ then Θ (AT xs,E8 xs) else Ξ
 |_=>Ξ
theorem JL{P:Program}{f:Nat}{ety:TypeId}(e B:Nat) (h:∀(w:World) (A:Option Addr) (n c:Nat) (us:AO),us.length=n*e->n<=c->(n≠0->∃ g o,A=Θ ⟨g,o,Ξ⟩/\∀ j u,us[j]? = Θ u->w.cell? ⟨g,o+j,Ξ⟩=Θ u)->
  (∀ u∈us,u.oneCell'=Δ)->n*B<=140737488355328->Calls P f #[.slice A n c] w λe' w'=>∃ v',e'=.returned v'/\w'.ownsRow w.heap.size ety e v' n us/\Below w.heap.size w w'):BD (BL P f) (DH e (B7 e B)):=by
 refine I5 (CQ P f) e _ λargs n cells hr=>?_
 unfold B7 at hr;split at hr
 .rename_i xs
  split at hr
  .rename_i hc
   simp only[Awh,Nat.ble_eq]at hc;obtain⟨⟨⟨c1,c2⟩,c3⟩,c4⟩:=hc;rw[IT]at c1;rw[KF]at c2 c3;rw[Hk]at c4;simp only[ψ,Prod.mk.injEq]at hr;obtain⟨rfl,rfl⟩:=hr;rw[Hk,KF];have hlen:xs.flatten.length=xs.length*e:=by
    clear c2 c3 c4
    induction xs with
    |nil=>simp
    |cons x r ih=>
     rw[List.all_cons,Awh]at c1;rw[Axp,ε,ih c1.2,γ,AwW,AxR];have:x.length=e:=by simpa using c1.1
     omega
   refine⟨c3,hlen,λμ F w us hF hus=>?_⟩;obtain⟨v,t,rfl,hv,ht⟩:=hus;have ht:t=[]:=ht;subst ht;unfold Rep at hv;obtain⟨_,A,c,rfl,h2,_,h4⟩:=hv;have key:∃ vs,RepList μ F w xs.flatten vs/\(xs.length≠0->∃ g o,A=Θ ⟨g,o,Ξ⟩/\∀ j u,vs[j]? = Θ u->w.cell? ⟨g,o+j,Ξ⟩=Θ u):=by
    by_cases hx:xs=[]
    .subst hx
     exact⟨[],rfl,λh=>absurd rfl h⟩
    .obtain⟨g,o,e',hA,hr⟩:=h4 hx
     obtain⟨vs,k1,k2⟩:=Mg xs o hr;exact⟨vs,k1,λ_=>⟨g,o,hA,k2⟩⟩
   obtain⟨vs,k1,k2⟩:=key;have hone:∀ u∈vs,u.oneCell'=Δ:=λu hu=>by
    obtain⟨j,hj,rfl⟩:=List.getElem_of_mem hu;have hj2:j<xs.flatten.length:=by rw[←k1.length];exact hj
    obtain⟨u,a1,a2⟩:=k1.get (ξ hj2);rw[ξ hj]at a1
    cases a1
    rw[Ga]at c2;exact a2.one (List.all_eq_true.1 c2 _ (List.getElem_mem hj2))
   refine Calls.mono (h w A xs.length c vs (by rw[k1.length,hlen]) h2 k2 hone c4) ?_;rintro e' w' ⟨v',rfl,ho,hb⟩;exact⟨v',rfl,ety,vs,ho,hb,k1⟩
  .cases hr
 .cases hr
theorem Fk:BD (BL Av9 236) (DH 1 (B7 1 4)):=JL 1 4 λw A n c us h1 h2 h3 h4 h5=>VR w A n c us h1 h2 h3 h4 h5
theorem JM:BD (BL Av9 135) (DH 3 (B7 3 40)):=JL 3 40 λw A n c us h1 h2 h3 h4 h5=>Oe w A n c us h1 h2 h3 h4 h5
theorem Dh(x:Nat):Ap.conv .u32 (x:Int)=((x % 4294967296:Nat):Int):=by
 show IntKind.u32.wrap (x:Int)=_
 rw[IntKind.wrap_u32];omega
theorem BQ{x:Nat}(h:x<4294967296):Ap.conv .u32 (x:Int)=(x:Int):=by rw[Dh,Aw8 h]
theorem BK{x:Nat}(h:x<18446744073709551616):Ap.conv .u64 (x:Int)=(x:Int):=by
 show IntKind.u64.wrap (x:Int)=_
 rw[IntKind.wrap_u64];omega
theorem Cp{x y:Nat}(h:x+y<18446744073709551616):Ap.add .u64 (x:Int) (y:Int)=((x+y:Nat):Int):=by
 show IntKind.u64.wrap ((x:Int)+(y:Int))=_
 rw[IntKind.wrap_u64];omega
theorem Ey{x y:Nat}(h:y<=x)(h2:x<18446744073709551616):Ap.sub .u64 (x:Int) (y:Int)=((x-y:Nat):Int):=by
 show IntKind.u64.wrap ((x:Int)-(y:Int))=_
 rw[IntKind.wrap_u64];omega
theorem La{x y:Nat}(h:x*y<18446744073709551616):Ap.mul .u64 (x:Int) (y:Int)=((x*y:Nat):Int):=by
 show IntKind.u64.wrap ((x:Int)*(y:Int))=_
 rw[IntKind.wrap_u64,←AyK];omega
theorem Fe(x:Nat):Ap.shr .u64 (x:Int) 32=((x / 4294967296:Nat):Int):=by
 show Int.fdiv (x:Int) (2 ^ 32)=_
 have:(2 ^ 32:Int)=((4294967296:Nat):Int):=by decide
 rw[this,AyQ _ (by omega)];rfl
theorem Aka(x y:Nat):Ap.add .u32 (x:Int) (y:Int)=(((x+y) % 4294967296:Nat):Int):=by
 show IntKind.u32.wrap ((x:Int)+(y:Int))=_
 rw[IntKind.wrap_u32];omega
theorem Np{i j:Nat}(h:j<=i)(h2:i<4611686018427387904):Ap.sub .i64 (i:Int) (j:Int)=((i-j:Nat):Int):=by
 rw[DZ (by omega) (by omega)];omega
theorem Aa7{i j:Nat}(h2:i+j<4611686018427387904):Ap.add .i64 (i:Int) (j:Int)=((i+j:Nat):Int):=by
 rw[GU (by omega) (by omega)];omega
theorem FR(kd:IntKind)(n:Int)(r:Ab)(k:Int->Ab->KR):Ng kd (.v (.int kd n)::r) k=k n r:=by simp[Ng]
theorem Qa(kd:IntKind)(n:Int)(k:Int->KR):JD kd (.v (.int kd n)) k=k n:=by simp[JD]
theorem TK(n:Nat)(k:Int->Ab->KR)(r:Ab):Ng .u32 (.v (.int .u32 (n:Int))::r) k=k n r:=rfl
theorem Tj(l:Af):EG 1 (l.map eL)=Δ:=El AR l
theorem Apd(l:Af):Gv (E8 (l.map eL))=Δ:=by rw[Eo];exact FG (λ_=>rfl) l
theorem AjX(l:Af):Bj (E8 (l.map eL))=Δ:=by
 rw[Eo]
 induction l with
 |nil=>rfl
 |cons x r ih=>exact ih
theorem M4(l:Af)(n:Nat):HL (HT (l.map eL) n) 0=(l.take n).map eL:=by
 rw[GZ,GG,ο,AyR]
theorem If:∀(a b:Af) (c:Nat),(LC c a b).length=a.length+1
 |[],_,_=>rfl
 |x::a,b,c=>by rw[LC,γ,If a,γ]
theorem GD{a b:Nat}(h:(Aq a).length<(Aq b).length):a<b:=by
 by_cases h2:a<b
 .exact h2
 .have h3:Av b=Av b:=rfl
  have h4:0<(Aq b).length:=by omega
  have hb:4294967296 ^ ((Aq b).length-1)<=b:=by
   by_cases h5:4294967296 ^ ((Aq b).length-1)<=b
   .exact h5
   .have:=Bu (n:=b) (k:=(Aq b).length-1) (by omega)
    omega
  have h6:=IC (n:=a) (k:=(Aq b).length-1) (by omega);omega
def B5(l:Af):Prop:=l.length<=1000000000
theorem D3{l:Af}(h:Limbs l)(h2:B5 l):B5 (Aq (Ag l)):=by
 unfold B5 at *;rw[C2 l h];have:=Cx l;omega
structure CloneF (D:Orc):Prop where
 nat:∀ l:Af,B5 l->D.ask (.fn 236) [eN l] []=Θ (.sl 0 0 l.length 1,[.set (θ (Ao eL l) Δ Δ)])
theorem LI{l:Af}(h:B5 l):DH 1 (B7 1 4) [eN l] []=Θ (.sl 0 0 l.length 1,[.set (θ (Ao eL l) Δ Δ)]):=by
 unfold DH B7 eN;have h4:Awf (AT (l.map eL)*4) 140737488355328=Δ:=by
  rw[Al];unfold B5 at h;simp;omega
 simp only[Tj,Apd,AjX,h4,Bool.and_true,if_true,Option.map_some];rw[Al,Eo]
section
variable {D:Orc} (K:Knows Au Jy D)
include K
theorem AkD(l:Af)(hl:B5 l):∀(n:Nat),n<=l.length->CX l<=n->D.ask (.lp 200 0) [eN l,iv (n:Int)] []=Θ (.tup [iv 0,eN l,iv (CX l:Int)],[]):=by
 intro n;have hl':=hl;unfold B5 at hl'
 induction n with
 |zero=>
  intro _ ht;refine AE K Un (AbY ..) ?_;refine AA ?_;rw[show CX l=0 by omega];rfl
 |succ n ih=>
  intro hn ht;refine AE K Un (AbY ..) ?_;refine AB ?_;rw[show Ap.sub .i64 ((n+1:Nat):Int) 1=(n:Int) from (Np (i:=n+1) (j:=1) (by omega) (by omega)).trans (by simp)];rw[AI,Az (ξ (show n<l.length by omega))];simp only[eL,TK,Aj]
  by_cases h0:l[n]=0
  .refine AG ?_ (by rw[h0];rfl)
   refine Aa (ih (by omega) (Mn ht (by rw[ξ (show n<l.length by omega),h0]))) ?_;rfl
  .refine Ay ?_
   have:=NO (ξ (show n<l.length by omega)) h0;rw[show CX l=n+1 by omega];rfl
theorem Fh{l:Af}(hl:B5 l)(h:Limbs l):D.ask (.fn 200) [eN l] []=Θ (eN (Aq (Ag l)),[]):=by
 refine AC K Un (AtK ..) ?_;rw[Al];refine Aa (AkD K l hl _ (π _) (Cx l)) ?_;simp only[eN,Aj];rw[AI,Al,Tj,M4,IQ h];rw[show HY 0 (CX l) l.length=Δ by unfold HY;rw[show Awf 0 (CX l)=Δ by simp];simpa using Cx l];rfl
variable (C:CloneF D)
include C
theorem FV{l:Af}(hl:B5 l)(h:Limbs l):D.ask (.fn 202) [eN l] []=Θ (eN (Aq (Ag l)),[]):=by
 refine AC K AlS (AtM ..) ?_;refine Aa (Fh K hl h) ?_;simp only[eN,Aj];have g:=C.nat _ (D3 h hl);unfold eN at g;refine Aa g ?_;simp only[Aj];rw[AK AR _ (by omega)];refine Ah ?_;rw[Bi AR _ rfl]
theorem AkV(n:Nat)(h:n<18446744073709551616):D.ask (.fn 184) [.v (.int .u64 (n:Int))] []=Θ (eN (Aq n),[]):=by
 refine AC K AlO (AtB ..) ?_;refine AA ?_ (by decide);rw[Dh,Fe,Dh];have hl:Limbs [n % 4294967296,n / 4294967296 % 4294967296]:=Bv (AwU _ (by omega)) (Bv (AwU _ (by omega)) BY);have g:=FV K C (l:=[n % 4294967296,n / 4294967296 % 4294967296]) (by unfold B5;simp) hl;rw[show Ag [n % 4294967296,n / 4294967296 % 4294967296]=n by simp only[Ag];omega]at g;refine Aa g ?_;rfl
omit C in
theorem AmZ(a b:Af)(ha:Limbs a)(hb:Limbs b)(hab:a.length=b.length)(hs:B5 a):∀(n:Nat),n<=a.length->D.ask (.lp 201 0) [eN a,eN b,iv ((n:Int)-1)] []
  = Θ (if C7 (Ag (a.take n)) (Ag (b.take n))=0 then .tup [iv 1] else .tup [bv Δ,iv (C7 (Ag (a.take n)) (Ag (b.take n)))],[]):=by
 intro n;unfold B5 at hs
 induction n with
 |zero=>
  intro _;refine AE K Uo (AbZ ..) ?_;refine CN ?_;rfl
 |succ n ih=>
  intro hn;refine AE K Uo (AbZ ..) ?_;rw[show (((n+1:Nat):Int)-1)=(n:Int) by omega];refine Cs ?_;have h1:n<a.length:=by omega
  have h2:n<b.length:=by omega
  have e1:a.take (n+1)=a.take n++[a[n]]:=by rw[AwK h1]
  have e2:b.take (n+1)=b.take n++[b[n]]:=by rw[AwK h2]
  rw[e1,e2,Og (ha.take n) (hb.take n) (by simp;omega)];simp only[AI,Az (ξ h1),Az (ξ h2),eL,TK,Aj]
  by_cases h3:a[n]<b[n]
  .refine AB ?_
   rw[Ac h3];rfl
  .refine AA ?_
   rw[Ad h3]
   by_cases h4:b[n]<a[n]
   .refine AB ?_
    rw[Ac h4];rfl
   .refine AA ?_
    rw[Ad h4];rw[show Ap.sub .i64 (n:Int) 1=(n:Int)-1 from DZ (by omega) (by omega)];refine Aa (ih (by omega)) ?_
    by_cases h5:C7 (Ag (a.take n)) (Ag (b.take n))=0
    .rw[Ac h5];rfl
    .rw[Ad h5];rfl
omit C in
theorem VG{a b:Af}(hsa:B5 a)(ha:Limbs a)(hsb:B5 b)(hb:Limbs b):D.ask (.fn 201) [eN a,eN b] []=Θ (iv (C7 (Ag a) (Ag b)),[]):=by
 have s1:=D3 ha hsa;have s2:=D3 hb hsb;unfold B5 at s1 s2;refine AC K Uo (AtL ..) ?_;refine Aa (Fh K hsa ha) ?_;simp only[eN,Aj];refine Aa (Fh K hsb hb) ?_;simp only[eN,Aj,Al];generalize Ag a=x at *;generalize Ag b=y at *
 by_cases h1:(Aq x).length<(Aq y).length
 .refine AB ?_
  have:=GD h1;unfold C7;rw[Ac this]
 .refine AA ?_
  by_cases h2:(Aq y).length<(Aq x).length
  .refine AB ?_
   have:=GD h2;unfold C7;rw[Ad (by omega),Ac this]
  .refine AA ?_
   have hx:(Aq x).length=(Aq y).length:=by omega
   have g:=AmZ K (Aq x) (Aq y) (Av x) (Av y) hx s1 (Aq x).length (π _);rw[Axn,hx,Axn,AF,AF]at g;rw[show Ap.sub .i64 ((Aq x).length:Int) 1=((Aq x).length:Int)-1 from DZ (by omega) (by omega),hx];refine Aa g ?_
   by_cases h5:C7 x y=0
   .rw[Ac h5,h5];rfl
   .rw[Ad h5];rfl
omit C in
theorem Aa4(b:Af)(hb:Limbs b)(a:Af)(ha:Limbs a)(hs:B5 a):∀(k i:Nat) (out:Af) (c:Nat),a.length-i=k->i<=a.length->b.length<=a.length->c<=1->out.length+k<=2000000000->
  ∃(o:Af) (c':Nat),D.ask (.lp 197 0) [eN b,.sl 0 0 out.length 1,.v (.int .u64 (c:Int)),eN a,iv (a.length:Int),iv (i:Int)] [θ (Ao eL out) Δ Δ]
   = Θ (.tup [iv 0,.sl 1 0 o.length 1,.v (.int .u64 (c':Int))],[.del,.set (θ (Ao eL o) Δ Δ)])/\c'<=1/\o++[c']=out++LC c (a.drop i) (b.drop i):=by
 intro k;unfold B5 at hs
 induction k with
 |zero=>
  intro i out c hi hle hba hc ho;refine⟨out,c,?_,hc,?_⟩
  .refine AE K Ul (AbW ..) ?_
   refine AA ?_;rfl
  .rw[show a.drop i=[] from Awb (by omega)]
   rfl
 |succ k ih=>
  intro i out c hi hle hba hc ho;have hlt:i<a.length:=by omega
  have hx:=ha.get hlt;have hbd:=Es (hb.drop i);have hdt:(b.drop i).tail=b.drop (i+1):=by rw[Ax3]
  rw[show a.drop i=a[i]::a.drop (i+1) from η hlt];obtain⟨o,c',h1,h2,h3⟩:=ih (i+1) (out++[(a[i]+(b.drop i).headD 0+c) % 4294967296]) ((a[i]+(b.drop i).headD 0+c) / 4294967296) (by omega) (by omega) hba (by omega) (by simp;omega);refine⟨o,c',?_,h2,?_⟩
  .refine AE K Ul (AbW ..) ?_
   refine AB ?_;rw[AI,Az (ξ hlt)];have hf:Ba (out.length+1) 4=Δ:=AP (by omega) (by omega);have hb1:Awf (0+out.length*1) (Ao eL out).length=Δ:=AK AR out (by omega);have e3:∀ s:Nat,Av8 0 (κ (0+out.length*1) (Ao eL out))++[.v (.int .u32 (s:Int))]=Ao eL (out++[s]):=λs=>by
    rw[ο,Bb AR out (by omega)];exact Bc eL out s
   rw[ε,Awp]at h1;simp only[eL,TK,Aj,Al];rw[BU (by omega)]
   by_cases hib:i<b.length
   .have hd:(b.drop i).headD 0=b[i]:=by rw[η hib];rfl
    rw[hd]at h1 hbd;refine AB ?_;rw[AI,Az (ξ hib)];simp only[eL,TK,Aj];rw[BK (by omega),BK (by omega),Cp (by omega),Cp (by omega),Dh,Fe,hf,hb1,e3];rw[show a[i]+c+b[i]=a[i]+b[i]+c by omega];refine Ah ?_;refine Ah ?_;refine AA ?_ (by decide);refine Aa h1 ?_;rfl
   .have hd:(b.drop i).headD 0=0:=by rw[Awb (by omega)];rfl
    rw[hd]at h1;refine AA ?_;rw[BK (by omega),Cp (by omega),Dh,Fe,hf,hb1,e3];rw[show a[i]+c=a[i]+0+c by omega];refine Ah ?_;refine Ah ?_;refine AA ?_ (by decide);refine Aa h1 ?_;rfl
  .rw[h3,LC,hdt,Awd]
   rfl
theorem AmX{a b:Af}(hsa:a.length<=999999999)(ha:Limbs a)(hsb:b.length<=999999999)(hb:Limbs b):D.ask (.fn 197) [eN a,eN b] []=Θ (eN (Aq (Ag a+Ag b)),[]):=by
 have s1:=D3 ha (by unfold B5;omega);have s2:=D3 hb (by unfold B5;omega);have t1:(Aq (Ag a)).length<=999999999:=by rw[C2 a ha];have:=Cx a;omega
 have t2:(Aq (Ag b)).length<=999999999:=by rw[C2 b hb];have:=Cx b;omega
 refine AC K Ul (AtH ..) ?_;refine Aa (Fh K (by unfold B5;omega) ha) ?_;simp only[eN,Aj];refine Aa (Fh K (by unfold B5;omega) hb) ?_;simp only[eN,Aj,Al];generalize Ag a=x at *;generalize Ag b=y at *
 by_cases h1:(Aq x).length<(Aq y).length
 .refine AB ?_
  have hl:Limbs (LC 0 (Aq y) (Aq x)):=JF _ _ _ (Av _) (Av _) (by omega);obtain⟨o,c',g,hc,ho⟩:=Aa4 K (Aq x) (Av x) (Aq y) (Av y) s2 (Aq y).length 0 [] 0 (by omega) (by omega) (by omega) (by omega) (by unfold B5 at s2;simp;omega);rw[Awv,ο,ο]at ho;have hol:o.length=(Aq y).length:=by
   have:=congrArg Azt ho;rw[ε,If]at this;simpa using this
  have hsx:=s2;unfold B5 at hsx;rw[show Ap.add .i64 ((Aq y).length:Int) 1=(((Aq y).length+1:Nat):Int) from BU (by omega),AI];rw[AP (n:=(Aq y).length+1) (b:=4) (by omega) (by omega)];refine Ah ?_;refine Aa g ?_;simp only[FR,Aj];rw[BQ (by omega)];have e3:Av8 0 (κ (0+o.length*1) (Ao eL o))++[.v (.int .u32 (c':Int))]=Ao eL (o++[c']):=by
   rw[ο,Bb AR o (by omega)];exact Bc eL o c'
  rw[AP (n:=o.length+1) (b:=4) (by omega) (by omega),AK AR o (by omega),e3,AK AR (o++[c']) (by simp)];refine Ah ?_;refine Ah ?_;refine Ah ?_;rw[ο,Bb AR (o++[c']) (by simp),show Bo (o.length+1) 1 (Ao eL (o++[c']))=(o++[c']).map eL from by have:=CZ AR (o++[c']);rwa [ε]at this];rw[ho];have gt:=FV K C (l:=LC 0 (Aq y) (Aq x)) (by unfold B5;rw[If];omega) hl;rw[Ms _ _ _ (by omega),AF,AF]at gt;refine Aa gt ?_;rw[show 0+y+x=x+y by omega];rfl
 .refine AA ?_
  have hl:Limbs (LC 0 (Aq x) (Aq y)):=JF _ _ _ (Av _) (Av _) (by omega);obtain⟨o,c',g,hc,ho⟩:=Aa4 K (Aq y) (Av y) (Aq x) (Av x) s1 (Aq x).length 0 [] 0 (by omega) (by omega) (by omega) (by omega) (by unfold B5 at s1;simp;omega);rw[Awv,ο,ο]at ho;have hol:o.length=(Aq x).length:=by
   have:=congrArg Azt ho;rw[ε,If]at this;simpa using this
  have hsx:=s1;unfold B5 at hsx;rw[show Ap.add .i64 ((Aq x).length:Int) 1=(((Aq x).length+1:Nat):Int) from BU (by omega),AI];rw[AP (n:=(Aq x).length+1) (b:=4) (by omega) (by omega)];refine Ah ?_;refine Aa g ?_;simp only[FR,Aj];rw[BQ (by omega)];have e3:Av8 0 (κ (0+o.length*1) (Ao eL o))++[.v (.int .u32 (c':Int))]=Ao eL (o++[c']):=by
   rw[ο,Bb AR o (by omega)];exact Bc eL o c'
  rw[AP (n:=o.length+1) (b:=4) (by omega) (by omega),AK AR o (by omega),e3,AK AR (o++[c']) (by simp)];refine Ah ?_;refine Ah ?_;refine Ah ?_;rw[ο,Bb AR (o++[c']) (by simp),show Bo (o.length+1) 1 (Ao eL (o++[c']))=(o++[c']).map eL from by have:=CZ AR (o++[c']);rwa [ε]at this];rw[ho];have gt:=FV K C (l:=LC 0 (Aq x) (Aq y)) (by unfold B5;rw[If];omega) hl;rw[Ms _ _ _ (by omega),AF,AF]at gt;refine Aa gt ?_;rw[show 0+x+y=x+y by omega];rfl
omit C in
theorem Am4(b:Af)(hb:Limbs b)(a:Af)(ha:Limbs a)(hs:B5 a):∀(k i:Nat) (out:Af) (c:Nat),a.length-i=k->i<=a.length->c<=1->out.length+k<=2000000000->
  D.ask (.lp 198 0) [eN b,.sl 0 0 out.length 1,.v (.int .u64 (c:Int)),eN a,iv (a.length:Int),iv (i:Int)] [θ (Ao eL out) Δ Δ]
   = Θ (.tup [iv 0,.sl 1 0 (out++Hv c (a.drop i) (b.drop i)).length 1],[.del,.set (θ (Ao eL (out++Hv c (a.drop i) (b.drop i))) Δ Δ)]):=by
 intro k;unfold B5 at hs
 induction k with
 |zero=>
  intro i out c hi hle hc ho;refine AE K Um (AbX ..) ?_;refine AA ?_;rw[show a.drop i=[] from Awb (by omega)];simp only[Hv,AwF]
  all_goals rfl
 |succ k ih=>
  intro i out c hi hle hc ho;have hlt:i<a.length:=by omega
  have hx:=ha.get hlt;have hbd:=Es (hb.drop i);have hdt:(b.drop i).tail=b.drop (i+1):=by rw[Ax3]
  rw[show a.drop i=a[i]::a.drop (i+1) from η hlt,Hv,hdt];have h1:=ih (i+1) (out++[if a[i]<(b.drop i).headD 0+c then a[i]+4294967296-((b.drop i).headD 0+c) else a[i]-((b.drop i).headD 0+c)]) (if a[i]<(b.drop i).headD 0+c then 1 else 0) (by omega) (by omega) (by split<;>omega) (by simp;omega);rw[Awd,ε,Awp]at h1;refine AE K Um (AbX ..) ?_;refine AB ?_;rw[AI,Az (ξ hlt)];have hf:Ba (out.length+1) 4=Δ:=AP (by omega) (by omega);have hb1:Awf (0+out.length*1) (Ao eL out).length=Δ:=AK AR out (by omega);have e3:∀ s:Nat,Av8 0 (κ (0+out.length*1) (Ao eL out))++[.v (.int .u32 (s:Int))]=Ao eL (out++[s]):=λs=>by
   rw[ο,Bb AR out (by omega)];exact Bc eL out s
  simp only[eL,TK,Aj,Al];rw[BU (by omega)]
  by_cases hib:i<b.length
  .have hd:(b.drop i).headD 0=b[i]:=by rw[η hib];rfl
   rw[hd]at h1 hbd;rw[hd];refine AB ?_;rw[AI,Az (ξ hib)];simp only[eL,TK,Aj];rw[BK (show a[i]<_ by omega),BK (show b[i]<_ by omega),Cp (by omega)]
   by_cases hlt2:a[i]<b[i]+c
   .refine AB ?_
    rw[Ac hlt2,Ac hlt2]at h1;rw[Ac hlt2,Ac hlt2];rw[show (4294967296:Int)=((4294967296:Nat):Int) from rfl,Cp (by omega),show c+b[i]=b[i]+c by omega,Ey (by omega) (by omega),BQ (by omega),hf,hb1,e3];refine Ah ?_;refine Ah ?_;refine Aa h1 ?_;rfl
   .refine AA ?_
    rw[Ad hlt2,Ad hlt2]at h1;rw[Ad hlt2,Ad hlt2];rw[show c+b[i]=b[i]+c by omega,Ey (by omega) (by omega),BQ (by omega),hf,hb1,e3];refine Ah ?_;refine Ah ?_;refine Aa h1 ?_;rfl
  .have hd:(b.drop i).headD 0=0:=by rw[Awb (by omega)];rfl
   rw[hd]at h1;rw[hd];refine AA ?_;rw[BK (show a[i]<_ by omega)];rw[Awt]at h1;simp only[show (0:Nat)+c=c by omega]
   by_cases hlt2:a[i]<c
   .refine AB ?_
    rw[Ac hlt2,Ac hlt2]at h1;rw[Ac hlt2,Ac hlt2];rw[show (4294967296:Int)=((4294967296:Nat):Int) from rfl,Cp (by omega),Ey (by omega) (by omega),BQ (by omega),hf,hb1,e3];refine Ah ?_;refine Ah ?_;refine Aa h1 ?_;rfl
   .refine AA ?_
    rw[Ad hlt2,Ad hlt2]at h1;rw[Ad hlt2,Ad hlt2];rw[Ey (by omega) (by omega),BQ (by omega),hf,hb1,e3];refine Ah ?_;refine Ah ?_;refine Aa h1 ?_;rfl
def MF(x y:Nat):AV:=if y<=x then .tup [eN (Aq (x-y)),bv Δ] else .tup [eN [],bv false]
theorem Aa6{a b:Af}(hsa:B5 a)(ha:Limbs a)(hsb:B5 b)(hb:Limbs b):D.ask (.fn 198) [eN a,eN b] []=Θ (MF (Ag a) (Ag b),[]):=by
 have s1:=D3 ha hsa;have s2:=D3 hb hsb;refine AC K Um (AtI ..) ?_;refine Aa (Fh K hsa ha) ?_;simp only[eN,Aj];refine Aa (Fh K hsb hb) ?_;simp only[eN,Aj,Al];have gc:=VG K s1 (Av _) s2 (Av _);rw[AF,AF]at gc;refine Aa gc ?_;simp only[Aj];generalize Ag a=x at *;generalize Ag b=y at *;unfold MF;unfold B5 at s1 s2
 by_cases h1:x<y
 .rw[show C7 x y=-1 by unfold C7;rw[Ac h1]]
  refine AB ?_ (by decide);rw[Ad (by omega)];rfl
 .refine AA ?_ (by unfold C7;rw[Ad h1];split<;>omega)
  rw[Ac (by omega)];have hle:(Aq y).length<=(Aq x).length:=by
   by_cases h:(Aq x).length<(Aq y).length
   .have:=GD h;omega
   .omega
  rw[AP (n:=(Aq x).length) (b:=4) (by omega) (by omega)];refine Ah ?_;have g:=Am4 K (Aq y) (Av y) (Aq x) (Av x) s1 (Aq x).length 0 [] 0 (by omega) (by omega) (by omega) (by simp;omega);refine Aa g ?_;simp only[Aj,ο,Awv];rw[AK AR _ (by omega)];refine Ah ?_;rw[Bi AR _ rfl];have gt:=FV K C (l:=Hv 0 (Aq x) (Aq y)) (by unfold B5;rw[Lq];exact s1) (Hw _ _ _ (Av _) (Av _) (by omega));rw[Vz (Av _) (Av _) hle (by rw[AF,AF];omega),AF,AF]at gt;refine Aa gt ?_;rfl
end
theorem AdO{x c r:Nat}(hc:c<2 ^ r)(hx:x*2 ^ r+c<18446744073709551616):Ap.bits .or .u64 ((x*2 ^ r:Nat):Int) (c:Int)=((x*2 ^ r+c:Nat):Int):=by
 show IntKind.u64.wrap ((BitVec.ofInt 64 ((x*2 ^ r:Nat):Int) ||| BitVec.ofInt 64 (c:Int)).toNat:Int)=_
 have e:x*2 ^ r ||| c=x*2 ^ r+c:=by
  grind [Aw2,Nat.two_pow_add_eq_or_of_lt]
 rw[BitVec.ofInt_natCast,BitVec.ofInt_natCast,BitVec.toNat_or,BitVec.toNat_ofNat,BitVec.toNat_ofNat,Aw8 (show x*2 ^ r<2 ^ 64 by omega),Aw8 (show c<2 ^ 64 by omega),e,IntKind.wrap_u64];omega
theorem YL{x:Nat}(hx:x<18446744073709551616):Ap.bits .and .u64 (x:Int) 4294967295=((x % 4294967296:Nat):Int):=by
 show IntKind.u64.wrap ((BitVec.ofInt 64 (x:Int) &&& BitVec.ofInt 64 4294967295).toNat:Int)=_
 have e:x &&& 4294967295=x % 4294967296:=Nat.and_two_pow_sub_one_eq_mod x 32;rw[BitVec.ofInt_natCast,show BitVec.ofInt 64 4294967295=BitVec.ofNat 64 4294967295 from rfl,BitVec.toNat_and,BitVec.toNat_ofNat,BitVec.toNat_ofNat,Aw8 (show x<2 ^ 64 by omega),show 4294967295 % 2 ^ 64=4294967295 from rfl,e,IntKind.wrap_u64];omega
theorem YM{x r:Nat}(hr:r<=64)(hx:x*2 ^ r<18446744073709551616):Ap.shl .u64 (x:Int) (r:Int)=((x*2 ^ r:Nat):Int):=by
 show IntKind.u64.wrap ((x:Int)*2 ^ (Axd (r:Int).toNat 64))=_
 rw[Azo,show Axd r 64=r from Aw4 hr,show ((x:Int)*2 ^ r)=((x*2 ^ r:Nat):Int) by rw[AyK,AzA];rfl,IntKind.wrap_u64];omega
theorem Lb{x:Nat}(hx:x<4294967296):Ap.shl .u64 (x:Int) 32=((x*4294967296:Nat):Int):=YM (r:=32) (by omega) (by show x*4294967296<_;omega)
theorem Ph{x c:Nat}(hc:c<4294967296)(hx:x<4294967296):Ap.bits .or .u64 ((x*4294967296:Nat):Int) (c:Int)=((x*4294967296+c:Nat):Int):=AdO (r:=32) hc (by show x*4294967296+c<_;omega)
theorem AdP{s:Nat}(h:s<=31):Ap.quo .i64 (s:Int) 32=((0:Nat):Int):=by
 show IntKind.i64.wrap (Ayr (s:Int) ((32:Nat):Int))=_
 rw[show Ayr (s:Int) ((32:Nat):Int)=((s / 32:Nat):Int) from rfl,Nat.div_eq_of_lt (by omega)];rfl
theorem AdS{s:Nat}(h:s<=31):Ap.rem .i64 (s:Int) 32=(s:Int):=by
 show Int.tmod (s:Int) ((32:Nat):Int)=_
 rw[show Int.tmod (s:Int) ((32:Nat):Int)=((s % 32:Nat):Int) from rfl,Aw8 (by omega)]
theorem Api(s:Nat):Ap.max (s:Int) 0=(s:Int):=by
 show (if(s:Int)<0 then(0:Int) else(s:Int))=_
 rw[Ad (by omega)]
theorem Pg{s:Nat}(h:s<=31):0<2 ^ s/\2 ^ s<=2147483648/\2 ^ s*2 ^ (32-s)=4294967296:=by
 refine⟨Nat.two_pow_pos s,Nat.pow_le_pow_right (n:=2) (by omega) h,?_⟩;rw[←Nat.pow_add,show s+(32-s)=32 by omega]
theorem SR{k:IntKind}{x r:Nat}(hr:r<=k.bits):Ap.shr k (x:Int) (r:Int)=((x / 2 ^ r:Nat):Int):=by
 show Int.fdiv (x:Int) (2 ^ (Axd (r:Int).toNat k.bits))=_
 rw[Azo,show Axd r k.bits=r from Aw4 hr,show (2 ^ r:Int)=((2 ^ r:Nat):Int) by rw[AzA];rfl,AyQ _ (Int.natCast_nonneg _)];rfl
theorem AdR{x y:Nat}(hx:x<18446744073709551616):Ap.quo .u64 (x:Int) (y:Int)=((x / y:Nat):Int):=by
 show IntKind.u64.wrap (Ayr (x:Int) (y:Int))=_
 have:=Nat.div_le_self x y;rw[show Ayr (x:Int) (y:Int)=((x / y:Nat):Int) from rfl];generalize x / y=q at *;rw[IntKind.wrap_u64];omega
theorem AdU(x y:Nat):Ap.rem .u64 (x:Int) (y:Int)=((x % y:Nat):Int):=by
 rfl
theorem Apj{x y:Nat}(hy:y<=4294967296)(hx:x<4294967296):Ap.conv .u32 (Ap.sub .u64 (x:Int) (y:Int))=(((x+4294967296-y) % 4294967296:Nat):Int):=by
 show IntKind.u32.wrap (IntKind.u64.wrap ((x:Int)-(y:Int)))=_
 rw[IntKind.wrap_u64,IntKind.wrap_u32];omega
theorem PC(m:Nat):∀(a:Af) (c:Nat),(D8 m c a).length=a.length+1
 |[],_=>rfl
 |x::a,c=>by rw[D8,γ,PC m a,γ]
def JN(b:Nat):Af->Af
 |[]=>[]
 |x::r=>((Ag r % b)*4294967296+x) / b::JN b r
theorem In(b:Nat):∀ l,(JN b l).length=l.length
 |[]=>rfl
 |x::r=>by rw[JN,γ,In b r,γ]
theorem XI{b s x:Nat}(hs:s<b)(hx:x<4294967296):(s*4294967296+x) / b<4294967296:=by
 rw[Aym (by omega)];have:(s+1)*4294967296<=b*4294967296:=Aww _ hs;rw[Aw2 4294967296 b];omega
theorem Ok{b:Nat}(hb:0<b):∀ l,Limbs l->Limbs (JN b l)
 |[],_=>BY
 |x::r,h=>Bv (XI (AwU _ hb) h.cons.1) (Ok hb r h.cons.2)
theorem Aaf(b x:Nat)(r:Af):((Ag r % b)*4294967296+x) % b=Ag (x::r) % b:=by
 grind [Ag,AzS,Nat.add_mod,Nat.mod_mod,Aw2,Nat.mul_mod]
theorem RC{b:Nat}(hb:0<b):∀ l,Ag (JN b l)=Ag l / b
 |[]=>by simp[JN,Ag]
 |x::r=>by
  rw[JN,Ag,Ag,RC hb r];have h1:=AyL (Ag r) b;generalize Ag r / b=q at h1 ⊢;generalize Ag r % b=s at h1 ⊢;rw[←h1];have e:x+4294967296*(b*q+s)=(s*4294967296+x)+b*(4294967296*q):=by
   grind
  rw[e,Ax8 _ _ hb]
def FI(P:Nat):Af->Af
 |[]=>[]
 |x::r=>((r.headD 0*4294967296+x) / P) % 4294967296::FI P r
theorem Pp(P:Nat):∀ l,(FI P l).length=l.length
 |[]=>rfl
 |x::r=>by rw[FI,γ,Pp P r,γ]
theorem Lk(P:Nat):∀ l,Limbs (FI P l)
 |[]=>BY
 |x::r=>Bv (AwU _ (by omega)) (Lk P r)
theorem WS{P Q h k x V:Nat}(hP:0<P)(hPQ:P*Q=4294967296)(hx:x<4294967296)(hV:V=h+4294967296*k):(h*4294967296+x) / P % 4294967296+4294967296*(V / P)=(x+4294967296*V) / P:=by
 have e1:(h*4294967296+x) / P=h*Q+x / P:=by
  rw[←hPQ,show h*(P*Q)+x=x+P*(h*Q) by rw[←Aw3,Aw2 h P,Aw3];omega,Ax8 _ _ hP,AzS]
 have e2:(x+4294967296*V) / P=x / P+Q*V:=by
  grind [Ax8,Aw3]
 have hxP:x / P<Q:=by
  simp_all [Aym,Aw2]
 have h1:=AyL V P;have h2:=AwU V hP;have e3:Q*V=4294967296*(V / P)+Q*(V % P):=by
  grind
 have e4:(h*Q+x / P) % 4294967296=Q*(V % P)+x / P:=by
  have e5:h*Q+4294967296*(k*Q)=4294967296*(V / P)+Q*(V % P):=by
   grind
  have hb:Q*(V % P)+x / P<4294967296:=by
   have:Q*(V % P+1)<=Q*P:=Nat.mul_le_mul_left _ h2;rw[Axu,Aya,Aw2 Q P,hPQ]at this;omega
  have e6:h*Q+x / P+4294967296*(k*Q)=(Q*(V % P)+x / P)+4294967296*(V / P):=by omega
  have e7:=congrArg (· % 4294967296) e6;simp only[Nat.add_mul_mod_self_left]at e7;rw[e7,Aw8 hb]
 rw[e1,e2,e3,e4];omega
theorem M9{P Q:Nat}(hP:0<P)(hPQ:P*Q=4294967296):∀ l,Limbs l->Ag (FI P l)=Ag l / P
 |[],_=>by simp[FI,Ag]
 |x::r,h=>by
  rw[FI,Ag,Ag,M9 hP hPQ r h.cons.2];exact WS hP hPQ h.cons.1 (HD r)
def eC(n:Nat):AV:=.v (.int .u32 (n:Int))
theorem EB:∀ l:Af,Ao eL l=l.map eC
 |[]=>rfl
 |x::r=>by
  have ih:=EB r;unfold Ao at ih ⊢;rw[List.flatMap_cons,ih];rfl
theorem Dm(l:Af)(i v:Nat)(h:i<l.length):Bp (Ao eL l) (0+i*1) [.v (.int .u32 (v:Int))]=Ao eL (l.set i v):=by
 rw[EB,EB,AyD,Ac h];unfold Bp;simp only[Awt,Aya,List.map_append,List.map_cons,AyR,List.map_drop,Awp];rw[Awd];rfl
theorem IJ(l:Af)(i:Nat)(h:i<l.length)(k:Ab->KR):Ia (Ao eL l) (0+i*1) 1 k=k [.v (.int .u32 (l[i]:Int))]:=by
 have hx:(Ao eL l)[i]? = Θ (.v (.int .u32 (l[i]:Int))):=by
  rw[EB,List.getElem?_map,ξ h];rfl
 obtain⟨hl,hx⟩:=List.getElem?_eq_some_iff.1 hx;unfold Ia;have:Awf (0+i*1+1) (Ao eL l).length=Δ:=by simp;omega
 rw[this];simp only[Awt,Aya];rw[η hl,hx];rfl
theorem IV(n:Nat):Ch [.v (.int .u32 0)] (n*1)=Ao eL (Axl n 0):=by
 rw[EB,Aya];unfold Ch;rw[List.map_replicate];refine List.ext_getElem (by simp) λi h1 h2=>?_
 simp[Nat.mod_one,eC]
theorem Q2:∀(x:Nat) (b o:Af) (c:Nat),(O5 x c b o).drop (b.length+1)=o.drop (b.length+1)
 |x,[],o,c=>by
  rw[O5]
  cases o<;>simp
 |x,y::b,o,c=>by
  rw[O5,γ,List.drop_succ_cons,Q2 x b o.tail]
  cases o with
  |nil=>simp
  |cons z o=>rfl
def Ie(j:Nat)(l:Af):Prop:=∀ y∈l.drop j,y=0
theorem AaX{j:Nat}{l:Af}(h:Ie j l):(l.drop j).headD 0=0:=by
 unfold Ie at h
 cases e:l.drop j with
 |nil=>rfl
 |cons z r=>
  rw[e]at h;exact h z (List.mem_cons_self ..)
theorem B1{a b:Nat}(h:a<b):Aw0 a b=Δ:=by simpa using h
section
variable {D:Orc} (K:Knows Au Jy D)
include K
theorem Aam(a b:Af)(hb:Limbs b)(i:Nat)(hi:i<a.length)(hsz:a.length+b.length<=1000000000)(x:Nat)(hx:x<4294967296):∀(m k:Nat) (out:Af) (c:Nat),b.length-k=m->k<=b.length->Limbs out->c<4294967296->out.length=a.length+b.length->
  ∃(o:Af) (c':Nat),D.ask (.lp 243 1) [eN b,.sl 0 0 out.length 1,iv (i:Int),.v (.int .u32 (x:Int)),.v (.int .u64 (c:Int)),eN a,iv (a.length:Int),iv (i:Int),eN b,iv (b.length:Int),iv (k:Int)] [θ (Ao eL out) Δ Δ]
   = Θ (.tup [iv 2,eN b,.sl 1 0 out.length 1,iv (i:Int),.v (.int .u64 (c':Int)),eN a,iv (a.length:Int),iv (i:Int)],[.del,.set (θ (Ao eL o) Δ Δ)])
   ∧ c'<4294967296/\Limbs o/\o.length=out.length/\o.set (i+b.length) c'=out.take (i+k)++O5 x c (b.drop k) (out.drop (i+k)):=by
 intro m
 induction m with
 |zero=>
  intro k out c hm hk ho hc hlen;obtain rfl:k=b.length:=by omega
  refine⟨out,c,?_,hc,ho,rfl,?_⟩
  .refine AE K MN (Ab8 ..) ?_
   refine AA ?_;rfl
  .rw[Ayf,O5,AyD,Ac (by omega),Ax3]
 |succ m ih=>
  intro k out c hm hk ho hc hlen;have hlt:k<b.length:=by omega
  have hik:i+k<out.length:=by omega
  have hy:=hb.get hlt;have hz:=ho.get hik;have hp:=J0 hx hy;have hd:(out.drop (i+k)).headD 0=out[i+k]:=by rw[η hik];rfl
  obtain⟨o,c',h1,h2,h3,h4,h5⟩:=ih (k+1) (out.set (i+k) ((x*b[k]+out[i+k]+c) % 4294967296)) ((x*b[k]+out[i+k]+c) / 4294967296) (by omega) (by omega)
   (λz hz'=>by
    rcases AyW hz' with h|h
    .exact ho z h
    .rw[h];exact AwU _ (by omega)) (by omega) (by rw[AwJ];exact hlen)
  rw[AwJ]at h1 h4;refine⟨o,c',?_,h2,h3,h4,?_⟩
  .refine AE K MN (Ab8 ..) ?_
   refine AB ?_;rw[AI,Az (ξ hlt)];simp only[eL,FR,Aj];rw[Aa7 (by omega),AI,B1 hik];refine Ah ?_;refine(IJ out _ hik _).trans ?_;simp only[FR,Aj];rw[AI,B1 hik];refine Ah ?_;rw[show Awf (0+(i+k)*1+1) (Ao eL out).length=Δ by rw[BC AR];simp;omega];refine Ah ?_;refine AA ?_ (by decide);rw[BK (show x<_ by omega),BK (show b[k]<_ by omega),BK (show out[i+k]<_ by omega),La (by omega),Cp (by omega),Cp (by omega),Dh,Fe,Dm _ _ _ hik,BU (by omega)];refine Aa h1 ?_;rfl
  .rw[h5,η hlt,O5,hd]
   have e1:κ (i+(k+1)) (out.set (i+k) ((x*b[k]+out[i+k]+c) % 4294967296))=out.take (i+k)++[(x*b[k]+out[i+k]+c) % 4294967296]:=by
    rw[show i+(k+1)=i+k+1 by omega,AwK (by rw[AwJ];exact hik),AyI,Azh (π _)]
   have e2:Av8 (i+(k+1)) (out.set (i+k) ((x*b[k]+out[i+k]+c) % 4294967296))=(out.drop (i+k)).tail:=by
    rw[Axg (by omega),Ax3];rfl
   rw[e1,e2,Awd];rfl
theorem Aan(a b:Af)(ha:Limbs a)(hb:Limbs b)(hsz:a.length+b.length<=1000000000):∀(m i:Nat) (out:Af),a.length-i=m->i<=a.length->Limbs out->out.length=a.length+b.length->Ie (i+b.length) out->
  ∃ o:Af,D.ask (.lp 243 0) [eN b,.sl 0 0 out.length 1,eN a,iv (a.length:Int),iv (i:Int)] [θ (Ao eL out) Δ Δ]=Θ (.tup [iv 0,.sl 1 0 o.length 1],[.del,.set (θ (Ao eL o) Δ Δ)])
   ∧ Limbs o/\o.length=out.length/\Ag o=Ag out+4294967296 ^ i*Ag (a.drop i)*Ag b:=by
 intro m
 induction m with
 |zero=>
  intro i out hm hi ho hlen hz;refine⟨out,?_,ho,rfl,?_⟩
  .refine AE K MN (Ab7 ..) ?_
   refine AA ?_;rfl
  .rw[show a.drop i=[] from Awb (by omega)]
   simp[Ag]
 |succ m ih=>
  intro i out hm hi ho hlen hz;have hlt:i<a.length:=by omega
  have hx:=ha.get hlt;obtain⟨o,c',g1,g2,g3,g4,g5⟩:=Aam K a b hb i hlt hsz a[i] hx b.length 0 out 0 (by omega) (by omega) ho (by omega) hlen;rw[Aw1,ο]at g5;have hdl:(out.drop i).length=a.length+b.length-i:=by rw[AxD];omega
  have hlm:Limbs (o.set (i+b.length) c'):=by
   rw[g5];exact C1 (ho.take i) (O6 _ _ _ _ hx hb (ho.drop i) (by omega))
  have hhead:((out.drop i).drop b.length).headD 0=0:=by
   rw[Ayd];exact AaX hz
  have hv:Ag (o.set (i+b.length) c')=Ag out+4294967296 ^ i*(a[i]*Ag b):=by
   rw[g5,BV,RD _ _ _ _ hhead];have e:Ag out=Ag (out.take i)+4294967296 ^ i*Ag (out.drop i):=by
    have:=BV (out.take i) (out.drop i);rw[Axf,Awo,Aw4 (by omega)]at this;exact this
   rw[e,Awo,Aw4 (by omega),Aw1,Axu];omega
  have hz2:Ie (i+1+b.length) (o.set (i+b.length) c'):=by
   unfold Ie;rw[g5,List.drop_append,Awb (by rw[Awo];omega),Awv,Awo,Aw4 (by omega),show i+1+b.length-i=b.length+1 by omega,Q2,Ayd];intro y hy;exact hz y (by
    have:Av8 (i+(b.length+1)) out=Av8 1 (Av8 (i+b.length) out):=by rw[Ayd];rfl
    rw[this]at hy;exact Axt hy)
  obtain⟨o2,k1,k2,k3,k4⟩:=ih (i+1) (o.set (i+b.length) c') (by omega) (by omega) hlm (by rw[AwJ,g4,hlen]) hz2;rw[AwJ,g4]at k1 k3;refine⟨o2,?_,k2,k3,?_⟩
  .refine AE K MN (Ab7 ..) ?_
   refine AB ?_;rw[AI,Az (ξ hlt)];simp only[eL,FR,Al,Aj];refine Aa g1 ?_;simp only[eN,FR,Al,Aj];rw[Aa7 (by omega),AI,B1 (by omega)];refine Ah ?_;rw[show Awf (0+(i+b.length)*1+1) (Ao eL o).length=Δ by rw[BC AR];simp;omega];refine Ah ?_;rw[BQ g2,Dm _ _ _ (by omega),BU (by omega)];refine Aa k1 ?_;rfl
  .rw[k4,hv,η hlt,Ag,Aw6]
   have e1:4294967296 ^ i*(a[i]+4294967296*Ag (Av8 (i+1) a))*Ag b=4294967296 ^ i*(a[i]*Ag b)+4294967296 ^ i*4294967296*Ag (Av8 (i+1) a)*Ag b:=by
    rw[Axu,AwW,Aw3 _ a[i],Aw3 (4294967296 ^ i) 4294967296]
   rw[e1];omega
variable (C:CloneF D)
include C
theorem Aao{a b:Af}(ha:Limbs a)(hb:Limbs b)(hsz:a.length+b.length<=1000000000):D.ask (.fn 243) [eN a,eN b] []=Θ (eN (Aq (Ag a*Ag b)),[]):=by
 obtain⟨o,k1,k2,k3,k4⟩:=Aan K a b ha hb hsz a.length 0 (Axl (a.length+b.length) 0) (by omega) (by omega) (λx hx=>by rw[(Azk.1 hx).2];omega) (by simp) (λy hy=>(Azk.1 (Axt hy)).2);rw[Ayl]at k1 k3;have hz:∀ n,Ag (Axl n 0)=0:=λn=>by
  induction n with
  |zero=>rfl
  |succ n ih=>rw[List.replicate_succ,Ag,ih]
 rw[hz,ο,Nat.pow_zero,AxR,Awt]at k4;refine AC K MN (AtX ..) ?_;rw[Al,Al,Aa7 (by omega)];simp only[AI];rw[show Awf (a.length+b.length) (a.length+b.length)=Δ by simp,AP (n:=a.length+b.length) (b:=4) (by omega) (by omega),IV];refine Ah ?_;refine Ah ?_;refine Aa k1 ?_;simp only[Aj];rw[AK AR _ (by omega)];refine Ah ?_;rw[Bi AR _ rfl];have gt:=FV K C (l:=o) (by unfold B5;omega) k2;rw[k4]at gt;refine Aa gt ?_;rfl
theorem Am2{a b:Af}(hsa:a.length<=400000000)(ha:Limbs a)(hsb:b.length<=400000000)(hb:Limbs b)(h24:a.length<24\/b.length<24):D.ask (.fn 212) [eN a,eN b] []=Θ (eN (Aq (Ag a*Ag b)),[]):=by
 have t1:(Aq (Ag a)).length<=a.length:=by rw[C2 a ha];exact Cx a
 have t2:(Aq (Ag b)).length<=b.length:=by rw[C2 b hb];exact Cx b
 refine AC K AlU (AtT ..) ?_;refine Aa (Fh K (by unfold B5;omega) ha) ?_;simp only[eN,Aj];refine Aa (Fh K (by unfold B5;omega) hb) ?_;simp only[eN,Aj,Al];have g:=Aao K C (Av (Ag a)) (Av (Ag b)) (by omega);rw[AF,AF]at g
 by_cases h1:(Aq (Ag a)).length<24
 .refine AB ?_
  refine Aa g ?_;rfl
 .refine AA ?_
  refine AB ?_;refine Aa g ?_;rfl
end
section
open Go.RowKit
def DQ:List (Nat × Nat):=[(239,0),(240,0),(241,0)]
def Sv:MFn:=AN [⟨21,(mB 9),[],[],[(1,((mB 9),([],[])))]⟩] 200
def OG:Hnt:=⟨[],[(0,[(1,([.ls,.int .i64],[]))])],[(12,[.int .u32]),(13,[.int .u32])]⟩
def Adl:MFn:=NB Av9 B4 [] Δ false 202
def AcH:Hnt:=⟨[(200,(.ls,[])),(236,(.sl 0 1,[.row Δ]))],[],[]⟩
def Adk:MFn:=AN [] 184
def AcF:Hnt:=⟨[(202,(.sl 0 1,[.row Δ]))],[],[]⟩
def Sw:MFn:=AN [⟨49,(mB 35),[],[],[(0,((mB 16),([],[]))),(2,([],([],[])))]⟩] 201
def OH:Hnt:=⟨[(200,(.ls,[]))],[(0,[(0,([.int .i64],[])),(2,([],[]))])],[(32,[.int .u32]),(33,[.int .u32]),(36,[.int .u32]),(37,[.int .u32]),(42,[.int .u32]),(43,[.int .u32]),(46,[.int .u32]),(47,[.int .u32])]⟩
def Sx:MFn:=AN [⟨44,(mB 451),[],[],[(1,((mB 192),([],[])))]⟩] 203
def OI:Hnt:=⟨[(202,(.sl 0 1,[.row Δ]))],[(0,[(1,([.sl 1 1,.int .u64],[.del,.row Δ]))])],[(24,[.int .u32]),(25,[.int .u32]),(35,[.int .u32])]⟩
def SA:MFn:=AN [⟨67,(mB 931),[],[],[(1,((mB 256),([],[])))]⟩] 239
def Sg:Hnt:=⟨[],[(0,[(1,([.int .u64],[.keep]))])],[(14,[.int .u32]),(15,[.int .u32]),(21,[.int .u32]),(22,[.int .u32]),(28,[.int .u32]),(29,[.int .u32]),(44,[.int .u32]),(45,[.int .u32]),(53,[.int .u32]),(54,[.int .u32])]⟩
def SB:MFn:=AN [⟨74,(mB 917895),[],[],[(1,((mB 387),([],[1000000])))]⟩] 240
def LU:Hnt:=⟨[],[(0,[(1,([.slo 0 1,.ls,.int .u64,.int .u64],[.row Δ]))])],[(22,[.int .u32]),(23,[.int .u32]),(38,[.int .u32]),(39,[.int .u32]),(52,[.int .u32]),(61,[.int .u32]),(62,[.int .u32]),(70,[.int .u32])]⟩
def SC:MFn:=AN [⟨42,(mB 1811),[],[],[(1,((mB 19),([],[1000000])))]⟩] 241
def ON:Hnt:=⟨[],[(0,[(1,([.slo 0 1,.ls,.int .u64],[.row Δ]))])],[(13,[.int .u32]),(14,[.int .u32]),(17,[.int .u32]),(18,[.int .u32]),(29,[.int .u32]),(36,[.int .u32]),(37,[.int .u32]),(41,[.int .u32])]⟩
def Sz:MFn:=NB Av9 B4 [⟨58,(mB 30064771968),[(8,1)],[],[(2,((mB 768),([],[])))]⟩] Δ false 238
def OM:Hnt:=⟨[(200,(.ls,[])),(202,(.sl 0 1,[.row Δ]))],[(0,[(2,([.sl 1 1,.int .u64],[.del,.row Δ]))])],[(36,[.int .u32]),(37,[.int .u32])]⟩
def SD:MFn:=AN [⟨61,(mB 449),[(7,1)],[],[(1,((mB 128),([],[])))]⟩] 242
def OO:Hnt:=⟨[(200,(.ls,[])),(202,(.sl 0 1,[.row Δ]))],[(0,[(1,([.sl 1 1],[.del,.row Δ]))])],[(42,[.int .u32]),(43,[.int .u32]),(50,[.int .u32]),(51,[.int .u32])]⟩
def Sy:MFn:=AN [⟨96,(mB 14544),[],[7],[(1,((mB 6224),([],[])))]⟩] 204
def LS:Hnt:=⟨[(202,(.sl 0 1,[.row Δ])),(237,(.int .i64,[])),(238,(.tup [.sl 0 1,.int .i64],[.row Δ])),(239,(.int .u64,[.keep])),(240,(.bool,[.row Δ])),(241,(.tup [],[.row Δ])),(242,(.ls,[]))],[(0,[(1,([.sl 2 1,.int .i64,.sl 3 1,.int .i64],[.del,.del,.row Δ,.row Δ]))])],[(19,[.int .u32]),(20,[.int .u32]),(88,[.int .u32])]⟩
def Adj:MFn:=AN [] 144
def AcE:Hnt:=⟨[(184,(.ls,[])),(200,(.ls,[])),(201,(.int .i64,[])),(202,(.sl 0 1,[.row Δ])),(203,(.tup [.ls,.int .u32],[])),(204,(.tup [.ls,.ls],[]))],[],[(31,[.int .u32]),(32,[.int .u32])]⟩
def An7:MFn:=AN [⟨25,[Δ,Δ],[],[],[(1,([Δ],([],[])))]⟩] 205
def Adn:MFn:=AN [] 237
def AcI:Hnt:=⟨[(222,(.int .i64,[]))],[],[]⟩
def Adm:MFn:=AN [] 222
def OL:Hnt:=⟨[],[],[]⟩
def Jz:List (Nat × MFn):=[(200,Sv),(202,Adl),(184,Adk),(201,Sw),(203,Sx),(239,SA),(240,SB),(241,SC),(238,Sz),(242,SD),(204,Sy),(144,Adj),(205,An7),(237,Adn),(222,Adm)]
variable (A:Ar) (D:Orc)
theorem Ap3(x0:Rw):B3 A D DQ OG .n 200 Sv [Ψ x0] [] =
 Ai D (Awa 200 0) [Ψ x0,iv ↑(AT x0)] [] [.t,.C,.x,.X,.Y] λc l o=>
 br (BA 1 c)
 (dk [.L,.I,.N,.E] [.l l,.o o] λxs n=>
 unI n λi=>
 br (HY 0 i (AT xs)) (br (EG 1 xs) (Θ ((Ψ (HL (HT xs i) 0),[]))) Ξ) Ξ)
 (Ξ):=by kernel_rfl
theorem XJ(t0:Rw)(t3:Int):Dc A D DQ OG .n 200 0 (A1 Sv 0).fst (A1 Sv 0).snd [Ψ t0,iv t3] [] =
 br (A.lt 0 t3)
 (unI (A.sub ω t3 1) λi=>
 Bw t0 i λcs=>
 dk [.J .u32,.N] [.l cs] λn=>
 br (A.eq n 0)
 (AW D (Awa 200 0) [Ψ t0,iv (A.sub ω t3 1)] [] λr o=>
 AS 0 [] (AH.mk [] 0 Ξ) [] r o)
 (Θ ((Awe [iv 0,Ψ t0,iv t3],[]))))
 (Θ ((Awe [iv 0,Ψ t0,iv t3],[]))):=by kernel_rfl
theorem Ap5(x0:Rw):B3 A D DQ AcH .n 202 Adl [Ψ x0] [] =
 Ai D (φ 200) [Ψ x0] [] [.l,.E] λxs=>
 Ai D (φ 236) [Ψ xs] [] [.q 0 1,.R,.X,.E] λn cs=>
 Θ ((υ 0 0 n 1,[Awn (θ cs Δ Δ)])):=by kernel_rfl
theorem Ap2(x0:Int):B3 A D DQ AcF .n 184 Adk [Awc (Value.int Ω x0)] [] =
 br (A.lt 32 0)
 (Ξ)
 (Ai D (φ 202) [Ψ [[Awc (Value.int ζ (A.conv ζ x0))],[Awc (Value.int ζ (A.conv ζ (A.shr Ω x0 32)))]]] [] [.q 0 1,.R,.X,.E] λn cs=>
 br ((0+n*1).ble cs.length) (Θ ((Ψ (Bo n 1 (κ (n*1) cs)),[]))) Ξ):=by kernel_rfl
theorem Ap4(x0 x1:Rw):B3 A D DQ OH .n 201 Sw [Ψ x0,Ψ x1] [] =
 Ai D (φ 200) [Ψ x0] [] [.l,.E] λxs=>
 Ai D (φ 200) [Ψ x1] [] [.l,.E] λxs1=>
 br (A.lt ↑(AT xs) ↑(AT xs1))
 (Θ ((iv (-1),[])))
 (br (A.lt ↑(AT xs1) ↑(AT xs))
 (Θ ((iv 1,[])))
 (Ai D (Awa 201 0) [Ψ xs,Ψ xs1,iv (A.sub ω (↑(AT xs)) 1)] [] [.t,.C,.x,.X,.Y] λc l o2=>
 br (BA 0 c)
 (dk [.I,.N,.E] [.l l,.o o2] λn=>
 Θ ((iv n,[])))
 (br (BA 2 c)
 (FQ l<|
 D2 o2<|
 Θ ((iv 0,[])))
 (Ξ)))):=by kernel_rfl
theorem XK(t0 t1:Rw)(t5:Int):Dc A D DQ OH .n 201 0 (A1 Sw 0).fst (A1 Sw 0).snd [Ψ t0,Ψ t1,iv t5] [] =
 br (A.le 0 t5)
 (unI t5 λi=>
 Bw t0 i λcs=>
 dk [.J .u32,.N] [.l cs] λn=>
 unI t5 λi1=>
 Bw t1 i1 λcs1=>
 dk [.J .u32,.N] [.l cs1] λn1=>
 br (A.lt n n1)
 (Θ ((Awe [bv Δ,iv (-1)],[])))
 (unI t5 λi2=>
 Bw t0 i2 λcs2=>
 dk [.J .u32,.N] [.l cs2] λn2=>
 unI t5 λi3=>
 Bw t1 i3 λcs3=>
 dk [.J .u32,.N] [.l cs3] λn3=>
 br (A.lt n3 n2)
 (Θ ((Awe [bv Δ,iv 1],[])))
 (AW D (Awa 201 0) [Ψ t0,Ψ t1,iv (A.sub ω t5 1)] [] λr o=>
 AS 0 [] (AH.mk [] 0 Ξ) [] r o)))
 (Θ ((Awe [iv 1],[]))):=by kernel_rfl
theorem Ap6(x0:Rw)(x1:Int):B3 A D DQ OI .n 203 Sx [Ψ x0,Awc (Value.int ζ x1)] [] =
 br ((AT x0).ble (AT x0)) (br (Ba (AT x0) 4) (AW D (Awa 203 0) [Ψ x0,Awc (Value.int ζ x1),υ 0 0 (AT x0) 1,Awc (Value.int Ω 0),iv (A.sub ω (↑(AT x0)) 1)] [θ (Ch [Awc (Value.int ζ 0)] (AT x0*1)) Δ Δ] λr o=>
 dk [.t,.C,.x,.X] [.v r] λc l=>
 br (BA 1 c)
 (dk [.C,.q 1 1,.J .u64,.N,.D,.R,.X,.E] [.l l,.o o] λn n1 cs1=>
 br ((0+n*1).ble cs1.length) (AW D (φ 202) [Ψ (Bo n 1 (κ (n*1) cs1))] [] λr1 o1=>
 dk [.q 0 1,.R,.X,.E] [.v r1,.o o1] λn2 cs2=>
 br ((0+n2*1).ble cs2.length) (Θ ((Awe [Ψ (Bo n2 1 (κ (n2*1) cs2)),Awc (Value.int ζ (A.conv ζ n1))],[]))) Ξ) Ξ)
 (Ξ)) Ξ) Ξ:=by kernel_rfl
theorem XL(t0:Rw)(t1:Int)(n6:Nat)(c6:Ab)(t7 t8:Int):Dc A D DQ OI (.b (.b (.b .n (.b .n (.f .n))) .n) .n) 203 0 (A1 Sx 0).fst (A1 Sx 0).snd [Ψ t0,Awc (Value.int ζ t1),υ 0 0 n6 1,Awc (Value.int Ω t7),iv t8] [{ cells:=c6,st:=Δ,ex:=Δ }] =
 br (A.le 0 t8)
 (br (A.lt 32 0)
 (Ξ)
 (unI t8 λi=>
 Bw t0 i λcs=>
 dk [.J .u32,.N] [.l cs] λn=>
 br (A.eq (A.conv Ω t1) 0)
 (Ξ)
 (unI t8 λi1=>
 br (i1.blt n6) (br ((0+i1*1+1).ble c6.length) (br (A.eq (A.conv Ω t1) 0) Ξ (AW D (Awa 203 0) [Ψ t0,Awc (Value.int ζ t1),υ 0 0 n6 1,Awc (Value.int Ω (A.rem Ω (A.bits BinOp.or Ω (A.shl Ω t7 32) (A.conv Ω n)) (A.conv Ω t1))),iv (A.sub ω t8 1)] [θ (Bp c6 (0+i1*1) [Awc (Value.int ζ (A.conv ζ (A.quo Ω (A.bits BinOp.or Ω (A.shl Ω t7 32) (A.conv Ω n)) (A.conv Ω t1))))]) Δ Δ] λr o=>
 AS 1 [0] (AH.mk [(0,θ (Bp c6 (0+i1*1) [Awc (Value.int ζ (A.conv ζ (A.quo Ω (A.bits BinOp.or Ω (A.shl Ω t7 32) (A.conv Ω n)) (A.conv Ω t1))))]) Δ Δ)] 1 Ξ) [0] r o)) Ξ) Ξ)))
 (Θ ((Awe [iv 0,υ 1 0 n6 1,Awc (Value.int Ω t7)],[BO.del,Awn (θ c6 Δ Δ)]))):=by kernel_rfl
theorem Aqd(o0 n0:Nat)(c0:Ab)(x1:Rw):B3 A D DQ Sg (.b .n (.b .n (.f .n))) 239 SA [υ 0 o0 n0 1,Ψ x1] [{ cells:=c0,st:=Δ,ex:=Δ }] =
 br ((AT x1).blt n0) (Ia c0 (o0+AT x1*1) 1 λcs=>
 dk [.J .u32,.N] [.l cs] λn=>
 br (A.lt 32 0)
 (Ξ)
 (unI (A.sub ω (↑(AT x1)) 1) λi=>
 br (i.blt n0) (Ia c0 (o0+i*1) 1 λcs1=>
 dk [.J .u32,.N] [.l cs1] λn1=>
 unI (A.sub ω (↑(AT x1)) 1) λi1=>
 Bw x1 i1 λcs2=>
 dk [.J .u32,.N] [.l cs2] λn2=>
 br (A.eq (A.conv Ω n2) 0)
 (Ξ)
 (br (A.eq (A.conv Ω n2) 0) Ξ (AW D (Awa 239 0) [υ 0 o0 n0 1,Ψ x1,iv ↑(AT x1),Awc (Value.int Ω (A.conv Ω n2)),Awc (Value.int Ω (A.quo Ω (A.bits BinOp.or Ω (A.shl Ω (A.conv Ω n) 32) (A.conv Ω n1)) (A.conv Ω n2))),Awc (Value.int Ω (A.rem Ω (A.bits BinOp.or Ω (A.shl Ω (A.conv Ω n) 32) (A.conv Ω n1)) (A.conv Ω n2)))] [θ c0 Δ Δ] λr o=>
 dk [.t,.C,.x,.X] [.v r] λc l3=>
 br (BA 1 c)
 (dk [.J .u64,.N,.K,.E] [.l l3,.o o] λn3=>
 Θ ((Awc (Value.int Ω n3),[BO.keep])))
 (Ξ)))) Ξ)) Ξ:=by kernel_rfl
theorem AfI(o0 n0:Nat)(c0:Ab)(t1:Rw)(t5 t7 t8 t9:Int):Dc A D DQ Sg .n 239 0 (A1 SA 0).fst (A1 SA 0).snd [υ 0 o0 n0 1,Ψ t1,iv t5,Awc (Value.int Ω t7),Awc (Value.int Ω t8),Awc (Value.int Ω t9)] [{ cells:=c0,st:=Δ,ex:=Δ }] =
 br (A.le 4294967296 t8)
 (br (A.le 4294967296 (A.add Ω t9 t7))
 (Θ ((Awe [iv 0,Awc (Value.int Ω (A.sub Ω t8 1))],[BO.keep])))
 (AW D (Awa 239 0) [υ 0 o0 n0 1,Ψ t1,iv t5,Awc (Value.int Ω t7),Awc (Value.int Ω (A.sub Ω t8 1)),Awc (Value.int Ω (A.add Ω t9 t7))] [θ c0 Δ Δ] λr o=>
 AS 1 [0] (AH.mk [(0,θ c0 Δ Δ)] 1 Ξ) [] r o))
 (unI (A.sub ω t5 2) λi=>
 Bw t1 i λcs=>
 dk [.J .u32,.N] [.l cs] λn=>
 br (A.lt 32 0)
 (Ξ)
 (unI (A.sub ω t5 2) λi1=>
 br (i1.blt n0) (Ia c0 (o0+i1*1) 1 λcs1=>
 dk [.J .u32,.N] [.l cs1] λn1=>
 br (A.lt (A.bits BinOp.or Ω (A.shl Ω t9 32) (A.conv Ω n1)) (A.mul Ω t8 (A.conv Ω n)))
 (br (A.le 4294967296 (A.add Ω t9 t7))
 (Θ ((Awe [iv 0,Awc (Value.int Ω (A.sub Ω t8 1))],[BO.keep])))
 (AW D (Awa 239 0) [υ 0 o0 n0 1,Ψ t1,iv t5,Awc (Value.int Ω t7),Awc (Value.int Ω (A.sub Ω t8 1)),Awc (Value.int Ω (A.add Ω t9 t7))] [θ c0 Δ Δ] λr o=>
 AS 1 [0] (AH.mk [(0,θ c0 Δ Δ)] 1 Ξ) [] r o))
 (Θ ((Awe [iv 0,Awc (Value.int Ω t8)],[BO.keep])))) Ξ)):=by kernel_rfl
theorem Aqe(o0 n0:Nat)(c0:Ab)(x1:Rw)(x2:Int):B3 A D DQ LU .n 240 SB [υ 0 o0 n0 1,Ψ x1,Awc (Value.int Ω x2)] [{ cells:=c0,st:=Δ,ex:=Δ }] =
 Ai D (Awa 240 0) [υ 0 o0 n0 1,Ψ x1,Awc (Value.int Ω x2),Awc (Value.int Ω 0),Awc (Value.int Ω 0),Ψ x1,iv ↑(AT x1),iv 0] [θ c0 Δ Δ] [.t,.C,.x,.X,.Y] λc l o=>
 br (BA 1 c)
 (EE l λc1 l1=>
 Ry 0 1 c1 λo1 n=>
 dk [.L,.J .u64,.J .u64,.N,.R,.X,.E] [.l l1,.o o] λxs n1 n2 cs1=>
 br ((AT xs).blt n) (Ia cs1 (o1+AT xs*1) 1 λcs2=>
 dk [.J .u32,.N] [.l cs2] λn3=>
 br ((AT xs).blt n) (br ((o1+AT xs*1+1).ble cs1.length) (br (A.lt (A.conv Ω n3) (A.add Ω n1 n2))
 (Θ ((bv Δ,[Awn (θ (Bp cs1 (o1+AT xs*1) [Awc (Value.int ζ (A.conv ζ (A.sub Ω (A.conv Ω n3) (A.add Ω n1 n2))))]) Δ Δ)])))
 (Θ ((bv false,[Awn (θ (Bp cs1 (o1+AT xs*1) [Awc (Value.int ζ (A.conv ζ (A.sub Ω (A.conv Ω n3) (A.add Ω n1 n2))))]) Δ Δ)])))) Ξ) Ξ) Ξ)
 (Ξ):=by kernel_rfl
theorem R6(o0 n0:Nat)(c0:Ab)(t1 t17:Rw)(t2 t7 t8 t18 t19:Int):Dc A D DQ LU .n 240 0 (A1 SB 0).fst (A1 SB 0).snd [υ 0 o0 n0 1,Ψ t1,Awc (Value.int Ω t2),Awc (Value.int Ω t7),Awc (Value.int Ω t8),Ψ t17,iv t18,iv t19] [{ cells:=c0,st:=Δ,ex:=Δ }] =
 br (A.lt t19 t18)
 (unI t19 λi=>
 Bw t17 i λcs=>
 dk [.J .u32,.N] [.l cs] λn=>
 br (A.lt 32 0)
 (Ξ)
 (unI t19 λi1=>
 br (i1.blt n0) (Ia c0 (o0+i1*1) 1 λcs1=>
 dk [.J .u32,.N] [.l cs1] λn1=>
 br (A.lt (A.conv Ω n1) (A.add Ω (A.bits BinOp.and Ω (A.add Ω (A.mul Ω t2 (A.conv Ω n)) t7) 4294967295) t8))
 (unI t19 λi2=>
 br (i2.blt n0) (br ((o0+i2*1+1).ble c0.length) (AW D (Awa 240 0) [υ 0 o0 n0 1,Ψ t1,Awc (Value.int Ω t2),Awc (Value.int Ω (A.shr Ω (A.add Ω (A.mul Ω t2 (A.conv Ω n)) t7) 32)),Awc (Value.int Ω 1),Ψ t17,iv t18,iv (A.add ω t19 1)] [θ (Bp c0 (o0+i2*1) [Awc (Value.int ζ (A.conv ζ (A.sub Ω (A.add Ω (A.conv Ω n1) 4294967296) (A.add Ω (A.bits BinOp.and Ω (A.add Ω (A.mul Ω t2 (A.conv Ω n)) t7) 4294967295) t8))))]) Δ Δ] λr o=>
 AS 1 [0] (AH.mk [(0,θ (Bp c0 (o0+i2*1) [Awc (Value.int ζ (A.conv ζ (A.sub Ω (A.add Ω (A.conv Ω n1) 4294967296) (A.add Ω (A.bits BinOp.and Ω (A.add Ω (A.mul Ω t2 (A.conv Ω n)) t7) 4294967295) t8))))]) Δ Δ)] 1 Ξ) [0] r o) Ξ) Ξ)
 (unI t19 λi2=>
 br (i2.blt n0) (br ((o0+i2*1+1).ble c0.length) (AW D (Awa 240 0) [υ 0 o0 n0 1,Ψ t1,Awc (Value.int Ω t2),Awc (Value.int Ω (A.shr Ω (A.add Ω (A.mul Ω t2 (A.conv Ω n)) t7) 32)),Awc (Value.int Ω 0),Ψ t17,iv t18,iv (A.add ω t19 1)] [θ (Bp c0 (o0+i2*1) [Awc (Value.int ζ (A.conv ζ (A.sub Ω (A.conv Ω n1) (A.add Ω (A.bits BinOp.and Ω (A.add Ω (A.mul Ω t2 (A.conv Ω n)) t7) 4294967295) t8))))]) Δ Δ] λr o=>
 AS 1 [0] (AH.mk [(0,θ (Bp c0 (o0+i2*1) [Awc (Value.int ζ (A.conv ζ (A.sub Ω (A.conv Ω n1) (A.add Ω (A.bits BinOp.and Ω (A.add Ω (A.mul Ω t2 (A.conv Ω n)) t7) 4294967295) t8))))]) Δ Δ)] 1 Ξ) [0] r o) Ξ) Ξ)) Ξ))
 (Θ ((Awe [iv 0,υ 0 o0 n0 1,Ψ t1,Awc (Value.int Ω t7),Awc (Value.int Ω t8)],[Awn (θ c0 Δ Δ)]))):=by kernel_rfl
theorem Aqf(o0 n0:Nat)(c0:Ab)(x1:Rw):B3 A D DQ ON .n 241 SC [υ 0 o0 n0 1,Ψ x1] [{ cells:=c0,st:=Δ,ex:=Δ }] =
 Ai D (Awa 241 0) [υ 0 o0 n0 1,Ψ x1,Awc (Value.int Ω 0),Ψ x1,iv ↑(AT x1),iv 0] [θ c0 Δ Δ] [.t,.C,.x,.X,.Y] λc l o=>
 br (BA 1 c)
 (EE l λc1 l1=>
 Ry 0 1 c1 λo1 n=>
 dk [.L,.J .u64,.N,.R,.X,.E] [.l l1,.o o] λxs n1 cs1=>
 br ((AT xs).blt n) (Ia cs1 (o1+AT xs*1) 1 λcs2=>
 dk [.J .u32,.N] [.l cs2] λn2=>
 br ((AT xs).blt n) (br ((o1+AT xs*1+1).ble cs1.length) (Θ ((Awe [],[Awn (θ (Bp cs1 (o1+AT xs*1) [Awc (Value.int ζ (A.add ζ n2 (A.conv ζ n1)))]) Δ Δ)]))) Ξ) Ξ) Ξ)
 (Ξ):=by kernel_rfl
theorem XN(o0 n0:Nat)(c0:Ab)(t1 t8:Rw)(t4 t9 t10:Int):Dc A D DQ ON .n 241 0 (A1 SC 0).fst (A1 SC 0).snd [υ 0 o0 n0 1,Ψ t1,Awc (Value.int Ω t4),Ψ t8,iv t9,iv t10] [{ cells:=c0,st:=Δ,ex:=Δ }] =
 br (A.lt t10 t9)
 (unI t10 λi=>
 Bw t8 i λcs=>
 dk [.J .u32,.N] [.l cs] λn=>
 unI t10 λi1=>
 br (i1.blt n0) (Ia c0 (o0+i1*1) 1 λcs1=>
 dk [.J .u32,.N] [.l cs1] λn1=>
 unI t10 λi2=>
 br (i2.blt n0) (br ((o0+i2*1+1).ble c0.length) (br (A.lt 32 0)
 (Ξ)
 (AW D (Awa 241 0) [υ 0 o0 n0 1,Ψ t1,Awc (Value.int Ω (A.shr Ω (A.add Ω (A.add Ω (A.conv Ω n1) (A.conv Ω n)) t4) 32)),Ψ t8,iv t9,iv (A.add ω t10 1)] [θ (Bp c0 (o0+i2*1) [Awc (Value.int ζ (A.conv ζ (A.add Ω (A.add Ω (A.conv Ω n1) (A.conv Ω n)) t4)))]) Δ Δ] λr o=>
 AS 1 [0] (AH.mk [(0,θ (Bp c0 (o0+i2*1) [Awc (Value.int ζ (A.conv ζ (A.add Ω (A.add Ω (A.conv Ω n1) (A.conv Ω n)) t4)))]) Δ Δ)] 1 Ξ) [0] r o)) Ξ) Ξ) Ξ)
 (Θ ((Awe [iv 0,υ 0 o0 n0 1,Ψ t1,Awc (Value.int Ω t4)],[Awn (θ c0 Δ Δ)]))):=by kernel_rfl
theorem Aqc(x0:Rw)(x1:Int):B3 A D DQ OM (.b .n (.b .n (.b .n (.b .n (.b .n (.f .n)))))) 238 Sz [Ψ x0,iv x1] [] =
 br (A.lt x1 0)
 (Θ ((Awe [Awc (Value.slice Ξ 0 0),iv 1],[])))
 (br (A.lt 1048576 x1)
 (Θ ((Awe [Awc (Value.slice Ξ 0 0),iv 2],[])))
 (Ai D (φ 200) [Ψ x0] [] [.l,.E] λxs=>
 br (A.eq 32 0)
 (Ξ)
 (br (A.eq 32 0) Ξ (unI (A.quo ω x1 32) λi=>
 unI (A.add ω (A.add ω (A.quo ω x1 32) ↑(AT xs)) 1) λi1=>
 br (i.ble i1) (br (Ba i1 4) (AW D (Awa 238 0) [iv (A.rem ω x1 32),υ 0 0 i 1,Awc (Value.int Ω 0),Ψ xs,iv ↑(AT xs),iv 0] [θ (Ch [Awc (Value.int ζ 0)] (i*1)) Δ Δ] λr1 o1=>
 dk [.t,.C,.x,.X] [.v r1] λc l=>
 br (BA 2 c)
 (dk [.C,.q 1 1,.J .u64,.N,.D,.R,.X,.E] [.l l,.o o1] λn n1 cs1=>
 br (Ba (n+1) 4) (br ((0+n*1).ble cs1.length) (br ((0+(n+1)*1).ble (Av8 0 (κ (0+n*1) cs1)++[Awc (Value.int ζ (A.conv ζ n1))]).length) (AW D (φ 202) [Ψ (Bo (n+1) 1 (κ ((n+1)*1) (Av8 0 (Av8 0 (κ (0+n*1) cs1)++[Awc (Value.int ζ (A.conv ζ n1))]))))] [] λr2 o2=>
 dk [.q 0 1,.R,.X,.E] [.v r2,.o o2] λn2 cs2=>
 Θ ((Awe [υ 0 0 n2 1,iv 0],[Awn (θ cs2 Δ Δ)]))) Ξ) Ξ) Ξ)
 (Ξ)) Ξ) Ξ)))):=by kernel_rfl
theorem XM(t7:Int)(n8:Nat)(c8:Ab)(t9:Int)(t32:Rw)(t33 t34:Int):Dc A D DQ OM .n 238 0 (A1 Sz 0).fst (A1 Sz 0).snd [iv t7,υ 0 0 n8 1,Awc (Value.int Ω t9),Ψ t32,iv t33,iv t34] [{ cells:=c8,st:=Δ,ex:=Δ }] =
 br (A.lt t34 t33)
 (unI t34 λi=>
 Bw t32 i λcs=>
 dk [.J .u32,.N] [.l cs] λn=>
 br (A.lt t7 0)
 (Ξ)
 (br (Ba (n8+1) 4) (br ((0+n8*1).ble c8.length) (br (A.lt 32 0)
 (Ξ)
 (AW D (Awa 238 0) [iv t7,υ 0 0 (n8+1) 1,Awc (Value.int Ω (A.shr Ω (A.bits BinOp.or Ω (A.shl Ω (A.conv Ω n) t7) t9) 32)),Ψ t32,iv t33,iv (A.add ω t34 1)] [θ (Av8 0 (κ (0+n8*1) c8)++[Awc (Value.int ζ (A.conv ζ (A.bits BinOp.or Ω (A.shl Ω (A.conv Ω n) t7) t9)))]) Δ Δ] λr o=>
 AS 1 [2] (AH.mk [(2,θ (Av8 0 (κ (0+n8*1) c8)++[Awc (Value.int ζ (A.conv ζ (A.bits BinOp.or Ω (A.shl Ω (A.conv Ω n) t7) t9)))]) Δ Δ),(1,θ [Awc (Value.int ζ (A.conv ζ (A.bits BinOp.or Ω (A.shl Ω (A.conv Ω n) t7) t9)))] Δ Δ)] 3 Ξ) [0] r o)) Ξ) Ξ))
 (Θ ((Awe [iv 1,υ 1 0 n8 1,Awc (Value.int Ω t9)],[BO.del,Awn (θ c8 Δ Δ)]))):=by kernel_rfl
theorem Aqg(x0:Rw)(x1:Int):B3 A D DQ OO (.b .n (.f .n)) 242 SD [Ψ x0,iv x1] [] =
 Ai D (φ 200) [Ψ x0] [] [.l,.E] λxs=>
 br (A.eq 32 0)
 (Ξ)
 (br (A.eq 32 0) Ξ (br (A.le (↑(AT xs)) (A.quo ω (A.max x1 0) 32))
 (Θ ((Ψ [],[])))
 (unI (A.sub ω (↑(AT xs)) (A.quo ω (A.max x1 0) 32)) λi=>
 br (Ba i 4) (AW D (Awa 242 0) [Ψ xs,iv (A.rem ω (A.max x1 0) 32),υ 0 0 0 1,iv (A.quo ω (A.max x1 0) 32)] [θ [] Δ Δ] λr1 o1=>
 dk [.t,.C,.x,.X] [.v r1] λc l=>
 br (BA 1 c)
 (dk [.C,.q 1 1,.N,.D,.R,.X,.E] [.l l,.o o1] λn cs1=>
 br ((0+n*1).ble cs1.length) (AW D (φ 202) [Ψ (Bo n 1 (κ (n*1) cs1))] [] λr2 o2=>
 dk [.q 0 1,.R,.X,.E] [.v r2,.o o2] λn1 cs2=>
 br ((0+n1*1).ble cs2.length) (Θ ((Ψ (Bo n1 1 (κ (n1*1) cs2)),[]))) Ξ) Ξ)
 (Ξ)) Ξ))):=by kernel_rfl
theorem XO(t0:Rw)(t6:Int)(n7:Nat)(c7:Ab)(t8:Int):Dc A D DQ OO .n 242 0 (A1 SD 0).fst (A1 SD 0).snd [Ψ t0,iv t6,υ 0 0 n7 1,iv t8] [{ cells:=c7,st:=Δ,ex:=Δ }] =
 br (A.lt t8 ↑(AT t0))
 (br (A.lt (A.add ω t8 1) ↑(AT t0))
 (unI (A.add ω t8 1) λi=>
 Bw t0 i λcs=>
 dk [.J .u32,.N] [.l cs] λn=>
 br (A.lt 32 0)
 (Ξ)
 (unI t8 λi1=>
 Bw t0 i1 λcs1=>
 dk [.J .u32,.N] [.l cs1] λn1=>
 br (A.lt t6 0)
 (Ξ)
 (br (Ba (n7+1) 4) (br ((0+n7*1).ble c7.length) (AW D (Awa 242 0) [Ψ t0,iv t6,υ 0 0 (n7+1) 1,iv (A.add ω t8 1)] [θ (Av8 0 (κ (0+n7*1) c7)++[Awc (Value.int ζ (A.conv ζ (A.shr Ω (A.bits BinOp.or Ω (A.shl Ω (A.conv Ω n) 32) (A.conv Ω n1)) t6)))]) Δ Δ] λr o=>
 AS 1 [2] (AH.mk [(2,θ (Av8 0 (κ (0+n7*1) c7)++[Awc (Value.int ζ (A.conv ζ (A.shr Ω (A.bits BinOp.or Ω (A.shl Ω (A.conv Ω n) 32) (A.conv Ω n1)) t6)))]) Δ Δ),(1,θ [Awc (Value.int ζ (A.conv ζ (A.shr Ω (A.bits BinOp.or Ω (A.shl Ω (A.conv Ω n) 32) (A.conv Ω n1)) t6)))] Δ Δ)] 3 Ξ) [0] r o) Ξ) Ξ)))
 (br (A.lt 32 0)
 (Ξ)
 (unI t8 λi=>
 Bw t0 i λcs=>
 dk [.J .u32,.N] [.l cs] λn=>
 br (A.lt t6 0)
 (Ξ)
 (br (Ba (n7+1) 4) (br ((0+n7*1).ble c7.length) (AW D (Awa 242 0) [Ψ t0,iv t6,υ 0 0 (n7+1) 1,iv (A.add ω t8 1)] [θ (Av8 0 (κ (0+n7*1) c7)++[Awc (Value.int ζ (A.conv ζ (A.shr Ω (A.bits BinOp.or Ω (A.shl Ω 0 32) (A.conv Ω n)) t6)))]) Δ Δ] λr o=>
 AS 1 [2] (AH.mk [(2,θ (Av8 0 (κ (0+n7*1) c7)++[Awc (Value.int ζ (A.conv ζ (A.shr Ω (A.bits BinOp.or Ω (A.shl Ω 0 32) (A.conv Ω n)) t6)))]) Δ Δ),(1,θ [Awc (Value.int ζ (A.conv ζ (A.shr Ω (A.bits BinOp.or Ω (A.shl Ω 0 32) (A.conv Ω n)) t6)))] Δ Δ)] 3 Ξ) [0] r o) Ξ) Ξ))))
 (Θ ((Awe [iv 0,υ 1 0 n7 1],[BO.del,Awn (θ c7 Δ Δ)]))):=by kernel_rfl
theorem Ap7(x0 x1:Rw):B3 A D DQ LS .n 204 Sy [Ψ x0,Ψ x1] [] =
 unI (A.sub ω (↑(AT x1)) 1) λi=>
 Bw x1 i λcs=>
 dk [.J .u32,.N] [.l cs] λn=>
 Ai D (φ 237) [Awc (Value.int ζ n)] [] [.i,.E] λn1=>
 Ai D (φ 238) [Ψ x1,iv n1] [] [.t,.C,.q 0 1,.I,.N,.R,.X,.E] λn2 _ cs2=>
 Ai D (φ 238) [Ψ x0,iv n1] [] [.t,.C,.q 0 1,.I,.N,.R,.X,.E] λn4 _ cs4=>
 unI (A.sub ω (A.add ω (↑(AT x0)) 1) ↑n4) λi1=>
 br (i1.ble 9223372036854775807) (br (i1.beq 0)
 (unI (A.sub ω ↑n4 ↑n2) λi2=>
 unI (A.sub ω ↑n4 ↑n2) λi3=>
 br (i2.ble i3) (br (Ba i3 4) (br ((0+n2*1).ble cs2.length) (AW D (Awa 204 0) [υ 0 0 i2 1,iv n1,Ψ (Bo n2 1 (κ (n2*1) cs2)),υ 1 0 n4 1,iv ↑n2,iv (A.sub ω (A.sub ω ↑n4 ↑n2) 1)] [θ (Ch [Awc (Value.int ζ 0)] (i2*1)) Δ Δ,θ cs4 Δ Δ] λr3 o3=>
 dk [.t,.C,.x,.X] [.v r3] λc4 l7=>
 br (BA 1 c4)
 (dk [.C,.q 2 1,.I,.C,.q 3 1,.I,.N,.D,.D,.R,.X,.R,.X,.E] [.l l7,.o o3] λn6 n7 n8 n9 cs6 cs7=>
 br ((0+n6*1).ble cs6.length) (AW D (φ 202) [Ψ (Bo n6 1 (κ (n6*1) cs6))] [] λr4 o4=>
 dk [.q 0 1,.R,.X,.E] [.v r4,.o o4] λn10 cs8=>
 unI n9 λi4=>
 br (HY 0 i4 n8) (br ((0+i4*1).ble cs7.length) (AW D (φ 242) [Ψ (Bo i4 1 (κ (i4*1) cs7)),iv n7] [] λr5 o5=>
 dk [.l,.E] [.v r5,.o o5] λxs=>
 br ((0+n10*1).ble cs8.length) (Θ ((Awe [Ψ (Bo n10 1 (κ (n10*1) cs8)),Ψ xs],[]))) Ξ) Ξ) Ξ) Ξ)
 (Ξ)) Ξ) Ξ) Ξ)
 (br (Gv (Ch [Awc (Value.int ζ 0)] (i1*1))) (br (Ba (n4+i1) 4) (br ((0+n4*1).ble cs4.length) (unI (A.sub ω ↑(n4+i1) ↑n2) λi2=>
 unI (A.sub ω ↑(n4+i1) ↑n2) λi3=>
 br (i2.ble i3) (br (Ba i3 4) (br ((0+n2*1).ble cs2.length) (AW D (Awa 204 0) [υ 0 0 i2 1,iv n1,Ψ (Bo n2 1 (κ (n2*1) cs2)),υ 1 0 (n4+i1) 1,iv ↑n2,iv (A.sub ω (A.sub ω ↑(n4+i1) ↑n2) 1)] [θ (Ch [Awc (Value.int ζ 0)] (i2*1)) Δ Δ,θ (Av8 0 (κ (0+n4*1) cs4)++Ch [Awc (Value.int ζ 0)] (i1*1)) Δ Δ] λr3 o3=>
 dk [.t,.C,.x,.X] [.v r3] λc4 l7=>
 br (BA 1 c4)
 (dk [.C,.q 2 1,.I,.C,.q 3 1,.I,.N,.D,.D,.R,.X,.R,.X,.E] [.l l7,.o o3] λn6 n7 n8 n9 cs6 cs7=>
 br ((0+n6*1).ble cs6.length) (AW D (φ 202) [Ψ (Bo n6 1 (κ (n6*1) cs6))] [] λr4 o4=>
 dk [.q 0 1,.R,.X,.E] [.v r4,.o o4] λn10 cs8=>
 unI n9 λi4=>
 br (HY 0 i4 n8) (br ((0+i4*1).ble cs7.length) (AW D (φ 242) [Ψ (Bo i4 1 (κ (i4*1) cs7)),iv n7] [] λr5 o5=>
 dk [.l,.E] [.v r5,.o o5] λxs=>
 br ((0+n10*1).ble cs8.length) (Θ ((Awe [Ψ (Bo n10 1 (κ (n10*1) cs8)),Ψ xs],[]))) Ξ) Ξ) Ξ) Ξ)
 (Ξ)) Ξ) Ξ) Ξ) Ξ) Ξ) Ξ)) Ξ:=by kernel_rfl
theorem R4(n4:Nat)(c4:Ab)(t6:Int)(t7:Rw)(n11:Nat)(c11:Ab)(t12 t13:Int):Dc A D DQ LS .n 204 0 (A1 Sy 0).fst (A1 Sy 0).snd [υ 0 0 n4 1,iv t6,Ψ t7,υ 1 0 n11 1,iv t12,iv t13] [{ cells:=c4,st:=Δ,ex:=Δ },{ cells:=c11,st:=Δ,ex:=Δ }] =
 br (A.le 0 t13)
 (unI t13 λi=>
 br (HY i n11 n11) (AW D (φ 239) [υ 0 (0+i*1) (n11-i) 1,Ψ t7] [θ c11 Δ Δ] λr o=>
 dk [.j .u64,.K,.E] [.v r,.o o] λn=>
 unI t13 λi1=>
 unI (A.add ω (A.add ω t13 t12) 1) λi2=>
 br (HY i1 i2 n11) (AW D (φ 240) [υ 0 (0+i1*1) (i2-i1) 1,Ψ t7,Awc (Value.int Ω n)] [θ c11 Δ Δ] λr1 o1=>
 dk [.b,.R,.X,.E] [.v r1,.o o1] λb cs=>
 br b
 (unI t13 λi3=>
 unI (A.add ω (A.add ω t13 t12) 1) λi4=>
 br (HY i3 i4 n11) (AW D (φ 241) [υ 0 (0+i3*1) (i4-i3) 1,Ψ t7] [θ cs Δ Δ] λr2 o2=>
 dk [.t,.N,.R,.X,.E] [.v r2,.o o2] λcs2=>
 unI t13 λi5=>
 br (i5.blt n4) (br ((0+i5*1+1).ble c4.length) (AW D (Awa 204 0) [υ 0 0 n4 1,iv t6,Ψ t7,υ 1 0 n11 1,iv t12,iv (A.sub ω t13 1)] [θ (Bp c4 (0+i5*1) [Awc (Value.int ζ (A.conv ζ (A.sub Ω n 1)))]) Δ Δ,θ cs2 Δ Δ] λr3 o3=>
 AS 2 [0,1] (AH.mk [(0,θ (Bp c4 (0+i5*1) [Awc (Value.int ζ (A.conv ζ (A.sub Ω n 1)))]) Δ Δ),(1,θ cs2 Δ Δ)] 2 Ξ) [1,0] r3 o3) Ξ) Ξ) Ξ)
 (unI t13 λi3=>
 br (i3.blt n4) (br ((0+i3*1+1).ble c4.length) (AW D (Awa 204 0) [υ 0 0 n4 1,iv t6,Ψ t7,υ 1 0 n11 1,iv t12,iv (A.sub ω t13 1)] [θ (Bp c4 (0+i3*1) [Awc (Value.int ζ (A.conv ζ n))]) Δ Δ,θ cs Δ Δ] λr2 o2=>
 AS 2 [0,1] (AH.mk [(0,θ (Bp c4 (0+i3*1) [Awc (Value.int ζ (A.conv ζ n))]) Δ Δ),(1,θ cs Δ Δ)] 2 Ξ) [1,0] r2 o2) Ξ) Ξ)) Ξ) Ξ)
 (Θ ((Awe [iv 0,υ 2 0 n4 1,iv t6,υ 3 0 n11 1,iv t12],[BO.del,BO.del,Awn (θ c4 Δ Δ),Awn (θ c11 Δ Δ)]))):=by kernel_rfl
theorem Ap1(x0 x1:Rw):B3 A D DQ AcE .n 144 Adj [Ψ x0,Ψ x1] [] =
 Ai D (φ 200) [Ψ x0] [] [.l,.E] λxs=>
 Ai D (φ 200) [Ψ x1] [] [.l,.E] λxs1=>
 br (A.eq (↑(AT xs1)) 0)
 (Θ ((Awe [Ψ [],Ψ [],iv 10],[])))
 (Ai D (φ 201) [Ψ xs,Ψ xs1] [] [.i,.E] λn=>
 br (A.lt n 0)
 (Ai D (φ 202) [Ψ xs] [] [.q 0 1,.R,.X,.E] λn1 cs=>
 br ((0+n1*1).ble cs.length) (Θ ((Awe [Ψ [],Ψ (Bo n1 1 (κ (n1*1) cs)),iv 0],[]))) Ξ)
 (br (A.eq (↑(AT xs1)) 1)
 (Bw xs1 0 λcs=>
 dk [.J .u32,.N] [.l cs] λn1=>
 Ai D (φ 203) [Ψ xs,Awc (Value.int ζ n1)] [] [.t,.L,.J .u32,.N,.E] λxs2 n2=>
 Ai D (φ 184) [Awc (Value.int Ω (A.conv Ω n2))] [] [.l,.E] λxs3=>
 Θ ((Awe [Ψ xs2,Ψ xs3,iv 0],[])))
 (Ai D (φ 204) [Ψ xs,Ψ xs1] [] [.t,.L,.L,.N,.E] λxs2 xs3=>
 Θ ((Awe [Ψ xs2,Ψ xs3,iv 0],[]))))):=by kernel_rfl
theorem Aqb(x0:Int):B3 A D DQ AcI .n 237 Adn [Awc (Value.int ζ x0)] [] =
 Ai D (φ 222) [Awc (Value.int ζ x0)] [] [.i,.E] λn=>
 Θ ((iv (A.sub ω 32 n),[])):=by kernel_rfl
theorem Ap9(x0:Int):B3 A D DQ OL .n 222 Adm [Awc (Value.int ζ x0)] [] =
 br (A.le 65536 x0)
 (br (A.lt 16 0)
 (Ξ)
 (br (A.le 256 (A.shr ζ x0 16))
 (br (A.lt 8 0)
 (Ξ)
 (unI (A.conv Azc (A.shr ζ (A.shr ζ x0 16) 8)) λi=>
 br (i.blt (A.slen (CH P1))) (Θ ((iv (A.add ω (A.add ω 16 8) (A.conv ω (A.sat (CH P1) i))),[]))) Ξ))
 (unI (A.conv Azc (A.shr ζ x0 16)) λi=>
 br (i.blt (A.slen (CH P1))) (Θ ((iv (A.add ω 16 (A.conv ω (A.sat (CH P1) i))),[]))) Ξ)))
 (br (A.le 256 x0)
 (br (A.lt 8 0)
 (Ξ)
 (unI (A.conv Azc (A.shr ζ x0 8)) λi=>
 br (i.blt (A.slen (CH P1))) (Θ ((iv (A.add ω (A.add ω 0 8) (A.conv ω (A.sat (CH P1) i))),[]))) Ξ))
 (unI (A.conv Azc x0) λi=>
 br (i.blt (A.slen (CH P1))) (Θ ((iv (A.add ω 0 (A.conv ω (A.sat (CH P1) i))),[]))) Ξ)):=by kernel_rfl
end
section
variable {D:Orc} (K:Knows DQ Jz D)
include K
theorem AeL(l:Af)(hl:B5 l):∀(n:Nat),n<=l.length->CX l<=n->D.ask (.lp 200 0) [eN l,iv (n:Int)] []=Θ (.tup [iv 0,eN l,iv (CX l:Int)],[]):=by
 intro n;have hl':=hl;unfold B5 at hl'
 induction n with
 |zero=>
  intro _ ht;refine AE K OG (XJ ..) ?_;refine AA ?_;rw[show CX l=0 by omega];rfl
 |succ n ih=>
  intro hn ht;refine AE K OG (XJ ..) ?_;refine AB ?_;rw[show Ap.sub .i64 ((n+1:Nat):Int) 1=(n:Int) from (Np (i:=n+1) (j:=1) (by omega) (by omega)).trans (by simp)];rw[AI,Az (ξ (show n<l.length by omega))];simp only[eL,TK,Aj]
  by_cases h0:l[n]=0
  .refine AG ?_ (by rw[h0];rfl)
   refine Aa (ih (by omega) (Mn ht (by rw[ξ (show n<l.length by omega),h0]))) ?_;rfl
  .refine Ay ?_
   have:=NO (ξ (show n<l.length by omega)) h0;rw[show CX l=n+1 by omega];rfl
theorem FO{l:Af}(hl:B5 l)(h:Limbs l):D.ask (.fn 200) [eN l] []=Θ (eN (Aq (Ag l)),[]):=by
 refine AC K OG (Ap3 ..) ?_;rw[Al];refine Aa (AeL K l hl _ (π _) (Cx l)) ?_;simp only[eN,Aj];rw[AI,Al,Tj,M4,IQ h];rw[show HY 0 (CX l) l.length=Δ by unfold HY;rw[show Awf 0 (CX l)=Δ by simp];simpa using Cx l];rfl
variable (C:CloneF D)
include C
theorem GB{l:Af}(hl:B5 l)(h:Limbs l):D.ask (.fn 202) [eN l] []=Θ (.sl 0 0 (Aq (Ag l)).length 1,[.set (θ (Ao eL (Aq (Ag l))) Δ Δ)]):=by
 refine AC K AcH (Ap5 ..) ?_;refine Aa (FO K hl h) ?_;simp only[eN,Aj];have g:=C.nat _ (D3 h hl);unfold eN at g;refine Aa g ?_;rfl
theorem Am3(n:Nat)(h:n<18446744073709551616):D.ask (.fn 184) [.v (.int .u64 (n:Int))] []=Θ (eN (Aq n),[]):=by
 refine AC K AcF (Ap2 ..) ?_;refine AA ?_ (by decide);rw[Dh,Fe,Dh];have hl:Limbs [n % 4294967296,n / 4294967296 % 4294967296]:=Bv (AwU _ (by omega)) (Bv (AwU _ (by omega)) BY);have g:=GB K C (l:=[n % 4294967296,n / 4294967296 % 4294967296]) (by unfold B5;simp) hl;rw[show Ag [n % 4294967296,n / 4294967296 % 4294967296]=n by simp only[Ag];omega]at g;refine Aa g ?_;simp only[Aj];rw[AK AR _ (by omega)];refine Ah ?_;rw[Bi AR _ rfl];rfl
omit C in
theorem Afi(a b:Af)(ha:Limbs a)(hb:Limbs b)(hab:a.length=b.length)(hs:B5 a):∀(n:Nat),n<=a.length->D.ask (.lp 201 0) [eN a,eN b,iv ((n:Int)-1)] []
  = Θ (if C7 (Ag (a.take n)) (Ag (b.take n))=0 then .tup [iv 1] else .tup [bv Δ,iv (C7 (Ag (a.take n)) (Ag (b.take n)))],[]):=by
 intro n;unfold B5 at hs
 induction n with
 |zero=>
  intro _;refine AE K OH (XK ..) ?_;refine CN ?_;rfl
 |succ n ih=>
  intro hn;refine AE K OH (XK ..) ?_;rw[show (((n+1:Nat):Int)-1)=(n:Int) by omega];refine Cs ?_;have h1:n<a.length:=by omega
  have h2:n<b.length:=by omega
  have e1:a.take (n+1)=a.take n++[a[n]]:=by rw[AwK h1]
  have e2:b.take (n+1)=b.take n++[b[n]]:=by rw[AwK h2]
  rw[e1,e2,Og (ha.take n) (hb.take n) (by simp;omega)];simp only[AI,Az (ξ h1),Az (ξ h2),eL,TK,Aj]
  by_cases h3:a[n]<b[n]
  .refine AB ?_
   rw[Ac h3];rfl
  .refine AA ?_
   rw[Ad h3]
   by_cases h4:b[n]<a[n]
   .refine AB ?_
    rw[Ac h4];rfl
   .refine AA ?_
    rw[Ad h4];rw[show Ap.sub .i64 (n:Int) 1=(n:Int)-1 from DZ (by omega) (by omega)];refine Aa (ih (by omega)) ?_
    by_cases h5:C7 (Ag (a.take n)) (Ag (b.take n))=0
    .rw[Ac h5];rfl
    .rw[Ad h5];rfl
omit C in
theorem Afj{a b:Af}(hsa:B5 a)(ha:Limbs a)(hsb:B5 b)(hb:Limbs b):D.ask (.fn 201) [eN a,eN b] []=Θ (iv (C7 (Ag a) (Ag b)),[]):=by
 have s1:=D3 ha hsa;have s2:=D3 hb hsb;unfold B5 at s1 s2;refine AC K OH (Ap4 ..) ?_;refine Aa (FO K hsa ha) ?_;simp only[eN,Aj];refine Aa (FO K hsb hb) ?_;simp only[eN,Aj,Al];generalize Ag a=x at *;generalize Ag b=y at *
 by_cases h1:(Aq x).length<(Aq y).length
 .refine AB ?_
  have:=GD h1;unfold C7;rw[Ac this]
 .refine AA ?_
  by_cases h2:(Aq y).length<(Aq x).length
  .refine AB ?_
   have:=GD h2;unfold C7;rw[Ad (by omega),Ac this]
  .refine AA ?_
   have hx:(Aq x).length=(Aq y).length:=by omega
   have g:=Afi K (Aq x) (Aq y) (Av x) (Av y) hx s1 (Aq x).length (π _);rw[Axn,hx,Axn,AF,AF]at g;rw[show Ap.sub .i64 ((Aq x).length:Int) 1=((Aq x).length:Int)-1 from DZ (by omega) (by omega),hx];refine Aa g ?_
   by_cases h5:C7 x y=0
   .rw[Ac h5,h5];rfl
   .rw[Ad h5];rfl
omit C in
theorem Anp(a:Af)(ha:Limbs a)(hs:B5 a)(b:Nat)(hb:0<b)(hb2:b<4294967296):∀(i:Nat) (out:Af),i<=a.length->out.length=a.length->out.drop i=JN b (a.drop i)->
  D.ask (.lp 203 0) [eN a,.v (.int .u32 (b:Int)),.sl 0 0 out.length 1,.v (.int .u64 ((Ag (a.drop i) % b:Nat):Int)),iv ((i:Int)-1)] [θ (Ao eL out) Δ Δ]
   = Θ (.tup [iv 0,.sl 1 0 a.length 1,.v (.int .u64 ((Ag a % b:Nat):Int))],[.del,.set (θ (Ao eL (JN b a)) Δ Δ)]):=by
 unfold B5 at hs;intro i
 induction i with
 |zero=>
  intro out hi hl hd;rw[ο,ο]at hd;rw[ο,hd,In];refine AE K OI (XL ..) ?_;exact N7 (by omega)
 |succ i ih=>
  intro out hi hl hd;have h1:i<a.length:=by omega
  have h2:i<out.length:=by omega
  have hx:=ha.get h1;have hm:=AwU (Ag (a.drop (i+1))) hb;have hdc:a.drop i=a[i]::a.drop (i+1):=η h1;have hr:=Aaf b a[i] (a.drop (i+1));rw[←hdc]at hr;have hq:JN b (a.drop i)=((Ag (a.drop (i+1)) % b)*4294967296+a[i]) / b::JN b (a.drop (i+1)):=by rw[hdc,JN]
  have hqlt:=XI (b:=b) hm hx;refine AE K OI (XL ..) ?_;rw[show (((i+1:Nat):Int)-1)=(i:Int) by omega];refine Cs ?_;refine AA ?_ (by decide);rw[AI,Az (ξ h1)];simp only[eL,FR,Aj];rw[BK (show b<_ by omega)];refine Ay ?_;rw[AI,B1 h2];refine Ah ?_;rw[show Awf (0+i*1+1) (Ao eL out).length=Δ by rw[BC AR];simp;omega];refine Ah ?_;refine Ay ?_;have hbig:(Ag (a.drop (i+1)) % b)*4294967296+a[i]<18446744073709551616:=by omega
  rw[BK (show a[i]<_ by omega),Lb (by omega),Ph hx (by omega),AdR hbig,AdU,BQ hqlt,hr,show Ap.sub .i64 (i:Int) 1=(i:Int)-1 from DZ (by omega) (by omega),Dm _ _ _ h2];have g:=ih (out.set i (((Ag (a.drop (i+1)) % b)*4294967296+a[i]) / b)) (by omega) (by rw[AwJ];exact hl) (by
   rw[hq,←hd,η (by rw[AwJ];exact h2),AyI,Axg (by omega)])
  rw[AwJ]at g;refine Aa g ?_;rfl
theorem Zk{a:Af}(ha:Limbs a)(hs:B5 a){b:Nat}(hb:0<b)(hb2:b<4294967296):D.ask (.fn 203) [eN a,.v (.int .u32 (b:Int))] []=Θ (.tup [eN (Aq (Ag a / b)),.v (.int .u32 ((Ag a % b:Nat):Int))],[]):=by
 have hs':=hs;unfold B5 at hs';have g:=Anp K a ha hs b hb hb2 a.length (Axl a.length 0) (π _) (by simp) (by simp[JN]);rw[Ayl,Ayf,show Ag [] % b=0 by simp[Ag]]at g;refine AC K OI (Ap6 ..) ?_;rw[Al,show Awf a.length a.length=Δ by simp];refine Ah ?_;rw[AP (n:=a.length) (b:=4) (by omega) (by omega)];refine Ah ?_;rw[IV,show Ap.sub .i64 (a.length:Int) 1=(a.length:Int)-1 from DZ (by omega) (by omega)];refine Aa g ?_;simp only[FR,Aj];have hm:=AwU (Ag a) hb;have gt:=GB K C (l:=JN b a) (by unfold B5;rw[In];exact hs') (Ok hb a ha);rw[RC hb]at gt;rw[show Awf (0+a.length*1) (Ao eL (JN b a)).length=Δ by rw[BC AR,In];simp];refine Ah ?_;rw[Bi AR _ (In b a).symm];refine Aa gt ?_;simp only[Aj];rw[AK AR _ (by omega)];refine Ah ?_;rw[Bi AR _ rfl];rw[BQ (by omega)];rfl
end
section
variable {D:Orc} (K:Knows DQ Jz D)
include K
theorem Agd(a:Af)(ha:Limbs a)(hs:B5 a)(s:Nat)(h31:s<=31):∀(k i:Nat) (out:Af) (c:Nat),a.length-i=k->i<=a.length->c<2 ^ s->out.length+k<=2000000000->
  ∃(o:Af) (c':Nat),D.ask (.lp 238 0) [iv (s:Int),.sl 0 0 out.length 1,.v (.int .u64 (c:Int)),eN a,iv (a.length:Int),iv (i:Int)] [θ (Ao eL out) Δ Δ]
   = Θ (.tup [iv 1,.sl 1 0 o.length 1,.v (.int .u64 (c':Int))],[.del,.set (θ (Ao eL o) Δ Δ)])/\c'<2 ^ s/\o++[c']=out++D8 (2 ^ s) c (a.drop i):=by
 obtain⟨p0,p31,_⟩:=Pg h31;intro k;unfold B5 at hs
 induction k with
 |zero=>
  intro i out c hi hle hc ho;refine⟨out,c,?_,hc,?_⟩
  .refine AE K OM (XM ..) ?_
   exact Da (by omega)
  .rw[show a.drop i=[] from Awb (by omega)]
   rfl
 |succ k ih=>
  intro i out c hi hle hc ho;have hlt:i<a.length:=by omega
  have hx:=ha.get hlt;have hmul:a[i]*2 ^ s<=4294967295*2 ^ s:=Aww _ (by omega);have hb:a[i]*2 ^ s+c<18446744073709551616:=by omega
  have hc2:(a[i]*2 ^ s+c) / 4294967296<2 ^ s:=by
   rw[Aym (by omega)];omega
  rw[show a.drop i=a[i]::a.drop (i+1) from η hlt];obtain⟨o,c',h1,h2,h3⟩:=ih (i+1) (out++[(a[i]*2 ^ s+c) % 4294967296]) ((a[i]*2 ^ s+c) / 4294967296) (by omega) (by omega) hc2 (by simp;omega);refine⟨o,c',?_,h2,?_⟩
  .refine AE K OM (XM ..) ?_
   refine AB ?_;rw[AI,Az (ξ hlt)];have hf:Ba (out.length+1) 4=Δ:=AP (by omega) (by omega);have hb1:Awf (0+out.length*1) (Ao eL out).length=Δ:=AK AR out (by omega);have e3:∀ s:Nat,Av8 0 (κ (0+out.length*1) (Ao eL out))++[.v (.int .u32 (s:Int))]=Ao eL (out++[s]):=λs=>by
    rw[ο,Bb AR out (by omega)];exact Bc eL out s
   rw[ε,Awp]at h1;simp only[eL,FR,Aj];refine AA ?_;rw[hf,hb1];refine Ah ?_;refine Ah ?_;refine AA ?_ (by decide);rw[BK (by omega),YM (by omega) (by omega),AdO hc hb,Dh,Fe,e3,BU (by omega)];refine Aa h1 ?_;rfl
  .rw[h3,D8,Awd]
   rfl
variable (C:CloneF D)
include C
theorem X6{a:Af}(ha:Limbs a)(hs0:a.length<=999999998){s:Nat}(h31:s<=31):D.ask (.fn 238) [eN a,iv (s:Int)] []=Θ (.tup [.sl 0 0 (Aq (Ag a*2 ^ s)).length 1,iv 0],[.set (θ (Ao eL (Aq (Ag a*2 ^ s))) Δ Δ)]):=by
 obtain⟨p0,p31,_⟩:=Pg h31;have hs:B5 a:=by unfold B5;omega
 have hsn0:(Aq (Ag a)).length<=999999998:=by rw[C2 a ha];have:=Cx a;omega
 have hsn:=D3 ha hs;obtain⟨o,c',g,hc,ho⟩:=Agd K (Aq (Ag a)) (Av _) hsn s h31 (Aq (Ag a)).length 0 [] 0 (by omega) (by omega) p0 (by unfold B5 at hsn;simp;omega);rw[Awv,ο]at ho;have hlm:Limbs (D8 (2 ^ s) 0 (Aq (Ag a))):=Ht _ _ _ (by omega) (Av _) (by omega);have hol:o.length=(Aq (Ag a)).length:=by
  have:=congrArg Azt ho;rw[ε,PC]at this;simpa using this
 have gt:=GB K C (l:=o++[c']) (by unfold B5;rw[ε,hol];simp;omega) (by rw[ho];exact hlm);rw[ho,IS,AF,Aw1,←ho]at gt;unfold B5 at hsn;refine AC K OM (Aqc ..) ?_;refine AA ?_;refine AA ?_;refine Aa (FO K hs ha) ?_;simp only[eN,Aj];refine Ay ?_ (by decide);refine Ay ?_ (by decide);rw[AdP h31,AdS h31,Al,Aa7 (by omega),show Ap.add .i64 ((0+(Aq (Ag a)).length:Nat):Int) 1=((0+(Aq (Ag a)).length+1:Nat):Int) from BU (by omega),AI,AI];refine Ah ?_;rw[AP (by omega) (by omega)];refine Ah ?_;refine Aa g ?_;simp only[FR,Aj];rw[AP (n:=o.length+1) (b:=4) (by omega) (by omega),AK AR o (by omega),BQ (by omega)];have e3:Av8 0 (κ (0+o.length*1) (Ao eL o))++[.v (.int .u32 (c':Int))]=Ao eL (o++[c']):=by
  rw[ο,Bb AR o (by omega)];exact Bc eL o c'
 rw[e3,AK AR (o++[c']) (by simp)];refine Ah ?_;refine Ah ?_;rw[ο,Bb AR (o++[c']) (by simp),show Bo (o.length+1) 1 (Ao eL (o++[c']))=(o++[c']).map eL from by have:=CZ AR (o++[c']);rwa [ε]at this];refine Ah ?_;refine Ah ?_;refine Aa gt ?_;rfl
omit C in
theorem ZZ(a:Af)(ha:Limbs a)(hs:B5 a)(s:Nat)(h31:s<=31):∀(k i:Nat) (out:Af),a.length-i=k->i<=a.length->out.length+k<=2000000000->
  ∃ o:Af,o=out++FI (2 ^ s) (a.drop i)/\D.ask (.lp 242 0) [eN a,iv (s:Int),.sl 0 0 out.length 1,iv (i:Int)] [θ (Ao eL out) Δ Δ]
   = Θ (.tup [iv 0,.sl 1 0 o.length 1],[.del,.set (θ (Ao eL o) Δ Δ)]):=by
 intro k;unfold B5 at hs
 induction k with
 |zero=>
  intro i out hi hle ho;refine⟨out,by rw[show a.drop i=[] from Awb (by omega),FI,AwF],?_⟩;refine AE K OO (XO ..) ?_;rw[Al];exact Da (by omega)
 |succ k ih=>
  intro i out hi hle ho;have hlt:i<a.length:=by omega
  have hx:=ha.get hlt;rw[show a.drop i=a[i]::a.drop (i+1) from η hlt,FI];obtain⟨o,ho2,h1⟩:=ih (i+1) (out++[((a.drop (i+1)).headD 0*4294967296+a[i]) / 2 ^ s % 4294967296]) (by omega) (by omega) (by simp;omega);rw[Awd,AwO]at ho2;refine⟨o,ho2,?_⟩;clear ho2;rw[show (out++[((a.drop (i+1)).headD 0*4294967296+a[i]) / 2 ^ s % 4294967296]).length=out.length+1 by simp]at h1;refine AE K OO (XO ..) ?_;rw[Al];refine AB ?_;have hf:Ba (out.length+1) 4=Δ:=AP (by omega) (by omega);have hb1:Awf (0+out.length*1) (Ao eL out).length=Δ:=AK AR out (by omega);have e3:∀ s:Nat,Av8 0 (κ (0+out.length*1) (Ao eL out))++[.v (.int .u32 (s:Int))]=Ao eL (out++[s]):=λs=>by
   rw[ο,Bb AR out (by omega)];exact Bc eL out s
  rw[BU (by omega)]
  by_cases h2:i+1<a.length
  .have hd:(a.drop (i+1)).headD 0=a[i+1]:=by rw[η h2];rfl
   have hy:=ha.get h2;rw[hd]at h1;refine AB ?_;rw[AI,Az (ξ h2)];simp only[eL,FR,Aj];refine AA ?_ (by decide);rw[AI,Az (ξ hlt)];simp only[eL,FR,Aj];refine AA ?_;rw[hf,hb1,BK (show a[i+1]<_ by omega),BK (show a[i]<_ by omega),Lb hy,Ph hx hy,SR (by show s<=64;omega),Dh,e3];refine Ah ?_;refine Ah ?_;refine Aa h1 ?_;rfl
  .have hd:(a.drop (i+1)).headD 0=0:=by rw[Awb (by omega)];rfl
   rw[hd]at h1;refine AA ?_;refine AA ?_ (by decide);rw[AI,Az (ξ hlt)];simp only[eL,FR,Aj];refine AA ?_;rw[hf,hb1,BK (show a[i]<_ by omega),show Ap.shl .u64 0 32=((0*4294967296:Nat):Int) from Lb (x:=0) (by omega),Ph hx (by omega),SR (by show s<=64;omega),Dh,e3];refine Ah ?_;refine Ah ?_;refine Aa h1 ?_;rfl
theorem Z0{a:Af}(ha:Limbs a)(hs:B5 a){s:Nat}(h31:s<=31):D.ask (.fn 242) [eN a,iv (s:Int)] []=Θ (eN (Aq (Ag a / 2 ^ s)),[]):=by
 obtain⟨p0,p31,pq⟩:=Pg h31;have hsn:=D3 ha hs;obtain⟨o,ho,g⟩:=ZZ K (Aq (Ag a)) (Av _) hsn s h31 (Aq (Ag a)).length 0 [] (by omega) (by omega) (by unfold B5 at hsn;simp;omega);rw[Awv,ο]at ho;subst ho;have hlen:=Pp (2 ^ s) (Aq (Ag a));have gt:=GB K C (l:=FI (2 ^ s) (Aq (Ag a))) (by unfold B5 at *;rw[hlen];exact hsn) (Lk _ _);rw[M9 p0 pq _ (Av _),AF]at gt;unfold B5 at hsn;refine AC K OO (Aqg ..) ?_;refine Aa (FO K hs ha) ?_;simp only[eN,Aj];refine Ay ?_ (by decide);refine Ay ?_ (by decide);rw[Api,AdP h31,AdS h31,Al]
 by_cases h0:Ag a=0
 .rw[h0,CJ,Nat.zero_div,CJ]
  exact RR (by decide)
 .have hne:0<(Aq (Ag a)).length:=by
   rcases Axk (Aq (Ag a)).length with h|h
   .exact absurd (UL.1 (AwD h)) h0
   .exact h
  refine CN ?_;rw[Np (j:=0) (by omega) (by omega),AI,AP (by omega) (by omega)];refine Ah ?_;refine Aa g ?_;simp only[Aj];rw[AK AR _ (by omega)];refine Ah ?_;rw[Bi AR _ rfl];refine Aa gt ?_;simp only[Aj];rw[AK AR _ (by omega)];refine Ah ?_;rw[Bi AR _ rfl]
end
theorem NZ:∀(m c w:Nat) (u d:Af),DT m c w u d=DT m c w (u.take d.length) d
 |_,_,_,_,[]=>rfl
 |m,c,w,[],x::d=>by rw[AyS]
 |m,c,w,y::u,x::d=>by
  rw[γ,Axo,DT,DT,AxO,AxO,Axs,Axs,NZ m _ _ u d]
theorem N1:∀(m c w:Nat) (u d:Af),Dq m c w u d=Dq m c w (u.take d.length) d
 |_,_,_,_,[]=>rfl
 |m,c,w,[],x::d=>by rw[AyS]
 |m,c,w,y::u,x::d=>by
  rw[γ,Axo,Dq,Dq,AxO,AxO,Axs,Axs,N1 m _ _ u d]
theorem N4:∀(c:Nat) (u d:Af),Dr c u d=Dr c (u.take d.length) d
 |_,_,[]=>rfl
 |c,[],x::d=>by rw[AyS]
 |c,y::u,x::d=>by
  rw[γ,Axo,Dr,Dr,AxO,AxO,Axs,Axs,N4 _ u d]
theorem N3:∀(c:Nat) (u d:Af),Dw c u d=Dw c (u.take d.length) d
 |_,_,[]=>rfl
 |c,[],x::d=>by rw[AyS]
 |c,y::u,x::d=>by
  rw[γ,Axo,Dw,Dw,AxO,AxO,Axs,Axs,N3 _ u d]
theorem Jb{l:Af}(h:Limbs l){i v:Nat}(hv:v<4294967296):Limbs (l.set i v):=λz hz=>by
 rcases AyW hz with h1|h1
 .exact h z h1
 .rw[h1];exact hv
theorem Pz{l:Af}{j v:Nat}(h:j<l.length):(l.set j v).take (j+1)=l.take j++[v]:=by
 rw[AwK (by rw[AwJ];exact h),AyI,Azh (π _)]
theorem cuN(n:Int)(f:Int->KR):(Ng .u32 [.v (.int .u32 n)] λn y=>FQ y (f n))=f n:=by rw[FR];rfl
section
variable {D:Orc} (K:Knows DQ Jz D)
include K
theorem Afp(d:Af)(hd:Limbs d)(m:Nat)(hm:m<4294967296)(o n:Nat)(hn:d.length<n):∀(k i:Nat) (U:Af) (c w:Nat),d.length-i=k->i<=d.length->Limbs U->o+n<=U.length->U.length<=2000000000->c<4294967296->w<=1->
  ∃ U':Af,U'=U.take (o+i)++DT m c w (U.drop (o+i)) (d.drop i)++U.drop (o+d.length) ∧
   D.ask (.lp 240 0) [.sl 0 o n 1,eN d,.v (.int .u64 (m:Int)),.v (.int .u64 (c:Int)),.v (.int .u64 (w:Int)),eN d,iv (d.length:Int),iv (i:Int)] [θ (Ao eL U) Δ Δ]
    = Θ (.tup [iv 0,.sl 0 o n 1,eN d,.v (.int .u64 (Eb m c (d.drop i):Int)),.v (.int .u64 (Dq m c w (U.drop (o+i)) (d.drop i):Int))],[.set (θ (Ao eL U') Δ Δ)]):=by
 intro k
 induction k with
 |zero=>
  intro i U c w hi hle hU hoU hUl hc hw;obtain rfl:i=d.length:=by omega
  refine⟨U,?_,?_⟩
  .rw[Ayf,DT,AwF,Axf]
  .rw[Ayf,Eb,Dq]
   refine AE K LU (R6 ..) ?_;exact Da (by omega)
 |succ k ih=>
  intro i U c w hi hle hU hoU hUl hc hw;have hlt:i<d.length:=by omega
  have hou:o+i<U.length:=by omega
  have hx:=hd.get hlt;have hy:=hU.get hou;have hp:=J0 hm hx;have hmd:=AwU (m*d[i]+c) (show 0<4294967296 by omega);have hhd:(U.drop (o+i)).headD 0=U[o+i]:=by rw[η hou];rfl
  have htl:(U.drop (o+i)).tail=U.drop (o+i+1):=by rw[Ax3]
  rw[show d.drop i=d[i]::d.drop (i+1) from η hlt,DT,Eb,Dq,hhd,htl]
  by_cases hb:U[o+i]<(m*d[i]+c) % 4294967296+w
  .rw[Ac hb,Ac hb]
   obtain⟨U',hU',g⟩:=ih (i+1) (U.set (o+i) (U[o+i]+4294967296-((m*d[i]+c) % 4294967296+w))) ((m*d[i]+c) / 4294967296) 1 (by omega) (by omega) (Jb hU (by omega)) (by rw[AwJ];exact hoU) (by rw[AwJ];exact hUl) (by omega) (π _);rw[show o+(i+1)=o+i+1 by omega,Pz hou,Axg (by omega),Axg (by omega)]at hU';rw[show o+(i+1)=o+i+1 by omega,Axg (show o+i<o+i+1 by omega)]at g;refine⟨U',by rw[hU'];simp only[Awd,AwO,AxC,Awv],?_⟩;refine AE K LU (R6 ..) ?_;refine AB ?_;rw[AI,Az (ξ hlt)];simp only[eL,FR,Aj];refine AA ?_ (by decide);rw[AI,show Aw0 i n=Δ from B1 (by omega),show o+i*1=0+(o+i)*1 by omega];refine Ah ?_;refine(IJ U _ hou _).trans ?_;simp only[FR,Aj];rw[BK (show U[o+i]<_ by omega),BK (show d[i]<_ by omega),La (by omega),Cp (show m*d[i]+c<_ by omega),YL (by omega),Cp (by omega),Fe];refine AB ?_;rw[AI,show Aw0 i n=Δ from B1 (by omega)];refine Ah ?_;rw[show o+i*1=0+(o+i)*1 by omega,show Awf (0+(o+i)*1+1) (Ao eL U).length=Δ by rw[BC AR];simp;omega];refine Ah ?_;rw[show Ap.add .u64 (U[o+i]:Int) 4294967296=((U[o+i]+4294967296:Nat):Int) from Cp (y:=4294967296) (by omega),Ey (by omega) (by omega),BQ (by omega),Dm _ _ _ hou,BU (by omega)];refine Aa g ?_;rfl
  .rw[Ad hb,Ad hb]
   obtain⟨U',hU',g⟩:=ih (i+1) (U.set (o+i) (U[o+i]-((m*d[i]+c) % 4294967296+w))) ((m*d[i]+c) / 4294967296) 0 (by omega) (by omega) (Jb hU (by omega)) (by rw[AwJ];exact hoU) (by rw[AwJ];exact hUl) (by omega) (Awz _);rw[show o+(i+1)=o+i+1 by omega,Pz hou,Axg (by omega),Axg (by omega)]at hU';rw[show o+(i+1)=o+i+1 by omega,Axg (show o+i<o+i+1 by omega)]at g;refine⟨U',by rw[hU'];simp only[Awd,AwO,AxC,Awv],?_⟩;refine AE K LU (R6 ..) ?_;refine AB ?_;rw[AI,Az (ξ hlt)];simp only[eL,FR,Aj];refine AA ?_ (by decide);rw[AI,show Aw0 i n=Δ from B1 (by omega),show o+i*1=0+(o+i)*1 by omega];refine Ah ?_;refine(IJ U _ hou _).trans ?_;simp only[FR,Aj];rw[BK (show U[o+i]<_ by omega),BK (show d[i]<_ by omega),La (by omega),Cp (show m*d[i]+c<_ by omega),YL (by omega),Cp (by omega),Fe];refine AA ?_;rw[AI,show Aw0 i n=Δ from B1 (by omega)];refine Ah ?_;rw[show o+i*1=0+(o+i)*1 by omega,show Awf (0+(o+i)*1+1) (Ao eL U).length=Δ by rw[BC AR];simp;omega];refine Ah ?_;rw[Ey (by omega) (by omega),BQ (by omega),Dm _ _ _ hou,BU (by omega)];refine Aa g ?_;rfl
theorem Vn{d:Af}(hd:Limbs d){m:Nat}(hm:m<4294967296){o:Nat}{U:Af}(hU:Limbs U)(hl:o+d.length<U.length)(hUl:U.length<=1000000000) :
  D.ask (.fn 240) [.sl 0 o (d.length+1) 1,eN d,.v (.int .u64 (m:Int))] [θ (Ao eL U) Δ Δ]
   = Θ (bv (decide (U[o+d.length]<Eb m 0 d+Dq m 0 0 (U.drop o) d)),[.set (θ (Ao eL (U.take o++(DT m 0 0 (U.drop o) d++[(U[o+d.length]+4294967296-(Eb m 0 d+Dq m 0 0 (U.drop o) d)) % 4294967296])++U.drop (o+(d.length+1)))) Δ Δ)]):=by
 obtain⟨U',hU',g⟩:=Afp K d hd m hm o (d.length+1) (AwC _) d.length 0 U 0 0 (by omega) (by omega) hU (by omega) (by omega) (by omega) (by omega);simp only[Aw1,ο]at hU' g;have hc:=NY m 0 d hm hd (by omega);have hw:=N0 m 0 0 (U.drop o) d (Awz _);have hul:=hU.get hl;have hlen:U'.length=U.length:=by
  rw[hU'];simp only[ε,Awo,AxD,GC];omega
 have hjl:o+d.length<U'.length:=by omega
 have hpre:(U.take o++DT m 0 0 (U.drop o) d).length=o+d.length:=by
  rw[ε,Awo,GC];omega
 have hget:U'[o+d.length]=U[o+d.length]:=by
  have:U'[o+d.length]? = U[o+d.length]?:=by
   rw[hU',AwR (by omega),hpre,Ayn,Axy,Aw1]
  rw[ξ hjl,ξ hl]at this;injection this
 have hset:∀ v,U'.set (o+d.length) v=U.take o++(DT m 0 0 (U.drop o) d++[v])++U.drop (o+(d.length+1)):=λv=>by
  rw[hU',Azb _ _ (by omega),hpre,Ayn,η hl,Axz];simp only[Awd,AwO,AxC,Awv];rw[AwI]
 refine AC K LU (Aqe ..) ?_;rw[Al];refine Aa g ?_;simp only[eN,FR,Vy,Al,Aj];rw[show Aw0 d.length (d.length+1)=Δ from B1 (AwC _),show o+d.length*1=0+(o+d.length)*1 by omega];refine Ah ?_;refine(IJ U' _ hjl _).trans ?_;refine(cuN _ _).trans ?_;refine Ah ?_;rw[show Awf (0+(o+d.length)*1+1) (Ao eL U').length=Δ by rw[BC AR];simp;omega];refine Ah ?_;rw[hget,BK (by omega),Cp (by omega),Apj (by omega) hul,Dm _ _ _ hjl,hset]
 by_cases hb:U[o+d.length]<Eb m 0 d+Dq m 0 0 (U.drop o) d
 .rw[BT hb]
  exact N8 (by omega)
 .rw[BX hb]
  exact Da (by omega)
theorem Afr(d:Af)(hd:Limbs d)(o n:Nat)(hn:d.length<n):∀(k i:Nat) (U:Af) (c:Nat),d.length-i=k->i<=d.length->Limbs U->o+n<=U.length->U.length<=2000000000->c<=1->
  ∃ U':Af,U'=U.take (o+i)++Dr c (U.drop (o+i)) (d.drop i)++U.drop (o+d.length) ∧
   D.ask (.lp 241 0) [.sl 0 o n 1,eN d,.v (.int .u64 (c:Int)),eN d,iv (d.length:Int),iv (i:Int)] [θ (Ao eL U) Δ Δ]
    = Θ (.tup [iv 0,.sl 0 o n 1,eN d,.v (.int .u64 (Dw c (U.drop (o+i)) (d.drop i):Int))],[.set (θ (Ao eL U') Δ Δ)]):=by
 intro k
 induction k with
 |zero=>
  intro i U c hi hle hU hoU hUl hc;obtain rfl:i=d.length:=by omega
  refine⟨U,?_,?_⟩
  .rw[Ayf,Dr,AwF,Axf]
  .rw[Ayf,Dw]
   refine AE K ON (XN ..) ?_;exact Da (by omega)
 |succ k ih=>
  intro i U c hi hle hU hoU hUl hc;have hlt:i<d.length:=by omega
  have hou:o+i<U.length:=by omega
  have hx:=hd.get hlt;have hy:=hU.get hou;have hhd:(U.drop (o+i)).headD 0=U[o+i]:=by rw[η hou];rfl
  have htl:(U.drop (o+i)).tail=U.drop (o+i+1):=by rw[Ax3]
  have hmd:=AwU (U[o+i]+d[i]+c) (show 0<4294967296 by omega);rw[show d.drop i=d[i]::d.drop (i+1) from η hlt,Dr,Dw,hhd,htl];obtain⟨U',hU',g⟩:=ih (i+1) (U.set (o+i) ((U[o+i]+d[i]+c) % 4294967296)) ((U[o+i]+d[i]+c) / 4294967296) (by omega) (by omega) (Jb hU hmd) (by rw[AwJ];exact hoU) (by rw[AwJ];exact hUl) (by omega);rw[show o+(i+1)=o+i+1 by omega,Pz hou,Axg (by omega),Axg (by omega)]at hU';rw[show o+(i+1)=o+i+1 by omega,Axg (show o+i<o+i+1 by omega)]at g;refine⟨U',by rw[hU'];simp only[Awd,AwO,AxC,Awv],?_⟩;refine AE K ON (XN ..) ?_;refine AB ?_;rw[AI,Az (ξ hlt)];simp only[eL,FR,Aj];rw[AI,show Aw0 i n=Δ from B1 (by omega),show o+i*1=0+(o+i)*1 by omega];refine Ah ?_;refine(IJ U _ hou _).trans ?_;simp only[FR,Aj];rw[AI,show Aw0 i n=Δ from B1 (by omega)];refine Ah ?_;rw[show o+i*1=0+(o+i)*1 by omega,show Awf (0+(o+i)*1+1) (Ao eL U).length=Δ by rw[BC AR];simp;omega];refine Ah ?_;refine AA ?_ (by decide);rw[BK (show U[o+i]<_ by omega),BK (show d[i]<_ by omega),Cp (by omega),Cp (by omega),Fe,Dh,Dm _ _ _ hou,BU (by omega)];refine Aa g ?_;rfl
theorem WN{d:Af}(hd:Limbs d){o:Nat}{U:Af}(hU:Limbs U)(hl:o+d.length<U.length)(hUl:U.length<=1000000000) :
  D.ask (.fn 241) [.sl 0 o (d.length+1) 1,eN d] [θ (Ao eL U) Δ Δ]
   = Θ (.tup [],[.set (θ (Ao eL (U.take o++(Dr 0 (U.drop o) d++[(U[o+d.length]+Dw 0 (U.drop o) d) % 4294967296])++U.drop (o+(d.length+1)))) Δ Δ)]):=by
 obtain⟨U',hU',g⟩:=Afr K d hd o (d.length+1) (AwC _) d.length 0 U 0 (by omega) (by omega) hU (by omega) (by omega) (by omega);simp only[Aw1,ο]at hU' g;have hc:=N2 0 (U.drop o) d (hU.drop o) hd (by omega);have hul:=hU.get hl;have hlen:U'.length=U.length:=by
  rw[hU'];simp only[ε,Awo,AxD,EH];omega
 have hjl:o+d.length<U'.length:=by omega
 have hpre:(U.take o++Dr 0 (U.drop o) d).length=o+d.length:=by
  rw[ε,Awo,EH];omega
 have hget:U'[o+d.length]=U[o+d.length]:=by
  have:U'[o+d.length]? = U[o+d.length]?:=by
   rw[hU',AwR (by omega),hpre,Ayn,Axy,Aw1]
  rw[ξ hjl,ξ hl]at this;injection this
 have hset:∀ v,U'.set (o+d.length) v=U.take o++(Dr 0 (U.drop o) d++[v])++U.drop (o+(d.length+1)):=λv=>by
  rw[hU',Azb _ _ (by omega),hpre,Ayn,η hl,Axz];simp only[Awd,AwO,AxC,Awv];rw[AwI]
 refine AC K ON (Aqf ..) ?_;rw[Al];refine Aa g ?_;simp only[eN,FR,Vy,Al,Aj];rw[show Aw0 d.length (d.length+1)=Δ from B1 (AwC _),show o+d.length*1=0+(o+d.length)*1 by omega];refine Ah ?_;refine(IJ U' _ hjl _).trans ?_;refine(cuN _ _).trans ?_;refine Ah ?_;rw[show Awf (0+(o+d.length)*1+1) (Ao eL U').length=Δ by rw[BC AR];simp;omega];refine Ah ?_;rw[hget,BQ (by omega),Aka,Dm _ _ _ hjl,hset]
end
def Iq(f v ul:Nat):Nat->Nat->Nat->Nat
 |0,g,_=>g
 |k+1,g,r=>if 4294967296<=g\/r*4294967296+ul<g*v then(if 4294967296<=r+f then g-1 else Iq f v ul k (g-1) (r+f)) else g
structure Gs (W Dv g:Nat):Prop where
 lt:g<4294967296
 hi:g*Dv<W+Dv
 lo:W<(g+1)*Dv
theorem Wj{P f v vl ul wl T W Dv:Nat}(hv:v<4294967296)(hvl:vl<P)(hwl:wl<P)(hf:2147483648<=f)(hDv:Dv=(f*4294967296+v)*P+vl)(hW:W=(T*4294967296+ul)*P+wl)(hWD:W<Dv*4294967296):∀(k g r:Nat),g*f+r=T->W<(g+1)*Dv->r<4294967296->4294967296<=r+k*f->Gs W Dv (Iq f v ul k g r):=by
 have hTV:T<=f*4294967296+v:=by
  by_cases h:T<=f*4294967296+v
  .exact h
  .exfalso
   have h1:(f*4294967296+v+1)*4294967296*P<=(T*4294967296+ul)*P:=Aww _ (by omega);have h2:Dv*4294967296<=(f*4294967296+v+1)*4294967296*P:=by
    rw[hDv,Aw3 _ 4294967296 P,Aw2 4294967296 P,←Aw3];exact Aww _ (by rw[AwW _ 1 P,AxR];omega)
   omega
 have good:∀ g r,g*f+r=T->g<4294967296->g*v<=r*4294967296+ul->W<(g+1)*Dv->Gs W Dv g:=λg r h1 h2 h3 h4=>by
  refine⟨h2,?_,h4⟩;have h5:g*(f*4294967296+v)<=T*4294967296+ul:=by
   rw[←h1,Axu,AwW,Aw3];omega
  have:=Acz (ul:=wl) hvl (show 4294967296<=f*4294967296+v by omega) (Nat.le_of_lt h2) h5;rw[hDv,hW];exact this
 intro k
 induction k with
 |zero=>intro g r _ _ h1 h2;omega
 |succ k ih=>
  intro g r h1 h2 h3 h4;rw[Iq]
  by_cases hc:4294967296<=g\/r*4294967296+ul<g*v
  .rw[Ac hc]
   have hg:1<=g:=by
    rcases hc with h|h
    .omega
    .rcases Axk g with e|e
     .rw[e]at h;omega
     .exact e
   obtain⟨g',rfl⟩:∃ g',g=g'+1:=⟨g-1,by omega⟩;rw[AxA];have hlo:W<(g'+1)*Dv:=by
    rcases hc with h|h
    .have:4294967296*Dv<=(g'+1)*Dv:=Aww _ h
     rw[Aw2]at this;omega
    .have h5:T*4294967296+ul<(g'+1)*(f*4294967296+v):=by
      rw[←h1,Axu,AwW,Aw3];omega
     have:=AcA (vl:=vl) hwl h5;rw[hDv,hW];exact this
   have hr:g'*f+(r+f)=T:=by
    rw[AwW,AxR]at h1;omega
   by_cases hb:4294967296<=r+f
   .rw[Ac hb]
    have hgB:g'<4294967296:=by
     by_cases h:g'<4294967296
     .exact h
     .have:4294967296*f<=g'*f:=Aww _ (by omega)
      rw[Aw2]at this;omega
    refine good g' (r+f) hr hgB ?_ hlo;have h6:g'*v<=4294967296*4294967296:=Nat.mul_le_mul (by omega) (by omega);have h7:4294967296*4294967296<=(r+f)*4294967296:=Aww _ hb;omega
   .rw[Ad hb]
    exact ih g' (r+f) hr hlo (by omega) (by rw[AwW,AxR]at h4;omega)
  .rw[Ad hc]
   have hc1:¬ 4294967296<=g:=λh=>hc (.inl h)
   have hc2:¬ r*4294967296+ul<g*v:=λh=>hc (.inr h)
   exact good g r h1 (by omega) (by omega) h2
theorem Acy{f v T:Nat}(hv:v<4294967296)(hf:2147483648<=f)(h:T<=f*4294967296+v):T / f<=4294967297:=by
 have h1:T<4294967298*f:=by
  rw[show 4294967298*f=f*4294967296+2*f by rw[Aw2 f];omega];omega
 have:=(Aym (show 0<f by omega)).2 h1;omega
theorem Aes{win d win':Af}{ul ul' W Dv g:Nat}(hn:win.length=d.length)(hn':win'.length=d.length)(hd:Limbs d)(hW:Ag (win++[ul])=W)(hDv:Ag d=Dv)(hG:Gs W Dv g){t:Nat}(hlw:Limbs (win'++[ul']))
  (hA:Ag (win'++[ul'])+g*Dv=W+(if ul<t then 4294967296 ^ (d.length+1) else 0)) :
  (¬ ul<t->Ag (win'++[ul'])+g*Dv=W/\Ag (win'++[ul'])<Dv) ∧
  (ul<t->1<=g/\(Ag (win'++[ul'])+Dv) % 4294967296 ^ (d.length+1)+(g-1)*Dv=W/\(Ag (win'++[ul'])+Dv) % 4294967296 ^ (d.length+1)<Dv):=by
 have hlt:=BM hlw;have hdl:=BM hd;rw[hDv]at hdl;have hpw:4294967296 ^ (d.length+1)=4294967296 ^ d.length*4294967296:=Aw6 ..;rw[ε,Awp,hn']at hlt;have hlo:=hG.lo;have hhi:=hG.hi;rw[AwW,AxR]at hlo;refine⟨λh=>?_,λh=>?_⟩
 .rw[Ad h]at hA
  omega
 .rw[Ac h]at hA
  have hg:1<=g:=by
   rcases Axk g with e|e
   .rw[e,Ax2]at hA
    omega
   .exact e
  obtain⟨g',rfl⟩:∃ g',g=g'+1:=⟨g-1,by omega⟩;rw[AwW,AxR]at hA hhi;rw[AxA];have e:(Ag (win'++[ul'])+Dv) % 4294967296 ^ (d.length+1)=Ag (win'++[ul'])+Dv-4294967296 ^ (d.length+1):=by
   rw[Nat.mod_eq_sub_mod (by omega)];refine Aw8 ?_;omega
  rw[e];omega
