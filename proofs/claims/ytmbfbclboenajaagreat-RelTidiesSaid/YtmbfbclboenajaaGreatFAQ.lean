/- slices.Clone over this s -/
import Derived.Maps.AppendAt
import Derived.Test.YtmbfbclboenajaaGreatFAM
import Derived.Test.YtmbfbclboenajaaGreatFAO
import Derived.Test.YtmbfbclboenajaaGreatFAP
set_option linter.all false
open Bool renaming true->Δ,and_eq_true->Aq6
open Int renaming fdiv_eq_ediv_of_nonneg->AtI,natCast_mul->As3,natCast_pow->AuC,tdiv->Atd,toNat_natCast->Auo
open List renaming append_assoc->AqY,append_nil->ArB,cons_append->Arm,drop->AqT,drop_drop->AsX,drop_eq_getElem_cons->κ,drop_eq_nil_of_le->AqX,drop_length->AsY,drop_set_of_lt->Ar3,drop_zero->AqQ,eq_nil_of_length_eq_zero->Arn,flatten_cons->Ar5,getElem?_append_right->Arf,getElem?_drop->ArU,getElem?_eq_getElem->ξ,getElem_set_self->Atv,headD_cons->Ase,length->Auw,length_append->υ,length_cons->AqR,length_drop->Asr,length_replicate->As7,length_set->Are,length_singleton->Ari,length_take->Aq9,map_take->AtK,mem_of_mem_drop->Asg,mem_or_eq_of_mem_set->AtQ,mem_replicate->Aui,nil_append->Aq4,replicate->AsH,set_append_right->At9,set_cons_zero->Auj,set_eq_take_append_cons_drop->Ato,singleton_append->ArI,tail_cons->Asw,tail_drop->AsI,take->ε,take_append_drop->ArW,take_length->Asb,take_nil->AtL,take_set_of_le->Auf,take_succ_cons->Asz,take_succ_eq_append_getElem->Arw
open Nat renaming add_assoc->Ars,add_comm->AuV,add_mod->Au4,add_mul->Art,add_mul_div_left->AsT,add_sub_cancel->Ar1,add_zero->ArG,ble->AqZ,blt->ArK,div_add_mod->AtA,div_lt_iff_lt_mul->As9,eq_zero_or_pos->Ar8,le_refl->π,lt_succ_self->Atu,min->ArY,min_eq_left->ArH,mod_eq_of_lt->ArT,mod_lt->ArF,mul_add->ArR,mul_assoc->Ark,mul_comm->Arz,mul_le_mul_right->Ard,mul_mod->Au7,mul_one->AsC,ne_of_gt->AuZ,one_mul->Ar9,pow_succ->ArP,sub_self->Ata,zero_add->Ara,zero_le->ArC,zero_mul->Asm
open Option renaming none->Ξ,some->Θ
namespace Go.Proofs.YtmbfbclboenajaaGreat
noncomputable section
open ABlk renaming mk->θ
open AV renaming ls->Ψ,sl->χ,tup->γ,v->Aq0
open BO renaming set->AqV
open IntKind renaming i64->δ,u32->ζ,u64->Ω,u8->Aub
open Key renaming fn->ω,lp->ι
open Lib renaming hid->Aq2,run_eql_slice_nil->At6
open Option.some renaming injEq->ψ
open Tryz renaming prog->Aq1
open Go.RowKit
theorem P4(a:Addr)(j:Nat):(a.add j).block=a.block:=by unfold Addr.add;split<;>rfl
set_option maxRecDepth 100000 in
set_option maxHeartbeats 4000000 in
theorem N2(w:World)(A:Option Addr)(n c:Nat)(us:List Value)(hn:us.length=n*3)(hc:n<=c)(hA:n≠0->∃ g o,A=Θ ⟨g,o,Ξ⟩/\∀ j u,us[j]? = Θ u->w.cell? ⟨g,o+j,Ξ⟩=Θ u)
  (h1:∀ u∈us,u.oneCell'=Δ) (hby:n*40<=140737488355328) :
  Calls Aq1 59 #[.slice A n c] w λe w'=>∃ v',e=.returned v'/\w'.ownsRow w.heap.size 42 3 v' n us/\Below w.heap.size w w':=by
 obtain⟨i0,hi0,hz0,hz1,hz2⟩:=info_parts (show (Tryz.prog.info? 42).map (λi=>(i.zero,i.size,i.bytes))=Θ (Θ (.agg #[.int .i64 0,.bool false,.slice Ξ 0 0]),3,40) by kernel_rfl);have HU:=Aq2 hn;have HA:=Aq2 hA;have H1:=Aq2 h1;clear hn hA h1;have hq:∀(w:World) (a:Option Addr) (n c:Nat),(binOp .eql 29 (.slice a n c) (.slice Ξ 0 0)).run Aq1 w=.ok (.bool a.isNone) w:=λw a n c=>At6 w _ _ a n c 0 0 Tryz.underlying29
 go_enter Tryz.func59,Tryz.ntmps59
 cases A with
 |none=>
  have h0:n=0:=by
   rcases Ar8 n with h|h
   .exact h
   .exfalso
    obtain⟨g,o,h2,_⟩:=HA.out (AuZ h)
    cases h2
  subst h0
  go_wp2
  go_ret
  have hu:us=[]:=Arn (by rw[HU.out,Asm]);rw[hu];exact⟨_,rfl,World.ownsRow_nil _ _ _ _,Below.refl _ _⟩
 |some ad=>
  obtain⟨ag,ao,asp⟩:=ad;have hcells:∀ j u,us[j]? = Θ u->ag<w.heap.size/\w.cell? ((⟨ag,ao,asp⟩:Addr).add j)=Θ u:=λj u hj=>by
   have hn0:n≠0:=by
    rintro rfl;have hu:us=[]:=Arn (by rw[HU.out,Asm]);rw[hu]at hj
    cases hj
   obtain⟨g,o,h2,h3⟩:=HA.out hn0
   cases h2
   have h5:=h3 j u hj;exact⟨ES h5,by rw[Hw];exact h5⟩
  have HC:=Aq2 hcells;clear hcells
  go_wp2_with (at_builtin;refine wpList_append_own_at _ rfl _ _ 29 rfl w.heap.size 42 i0 (.agg #[.int .i64 0,.bool false,.slice Ξ 0 0]) 3 40 Tryz.underlying29 hi0 hz0 hz1 hz2 rfl (by decide) _ 0 [] rfl ?c0 ⟨ag,ao,asp⟩ n c us rfl HU.out ?c1 H1.out ?c3 ?c4 ?c5 ?_)
  case c0=>exact⟨by simp,.inr ⟨w.heap.size,0,#[],rfl,π _,heap_alloc_new _ _,π _,ArC _,by simp,by simp⟩⟩
  case c1=>
   intro j u hj;have:=HC.out j u hj;exact((Bv w (.cells #[] 42)).cell (p:=(⟨ag,ao,asp⟩:Addr).add j) (by rw[P4];exact this.1)).trans this.2
  case c3=>unfold maxLen;omega
  case c4=>omega
  case c5=>exact(Bv w _).size
  intro v' w3 hown hgrow _ _
  try simp only[Ara,Aq4]at hown
  have HO:=Aq2 hown;have HB:=Aq2 ((Bv w (.cells #[] 42)).grown hgrow (Bv w _).size (λk hk=>by have hk:Θ w.heap.size=Θ k:=hk;cases hk;exact π _));clear hown hgrow
  go_wp2_with fail
  go_ret
  exact⟨_,rfl,HO.out,HB.out⟩
set_option maxRecDepth 100000 in
set_option maxHeartbeats 4000000 in
theorem VA(w:World)(A:Option Addr)(n c:Nat)(us:List Value)(hn:us.length=n*1)(hc:n<=c)(hA:n≠0->∃ g o,A=Θ ⟨g,o,Ξ⟩/\∀ j u,us[j]? = Θ u->w.cell? ⟨g,o+j,Ξ⟩=Θ u)
  (h1:∀ u∈us,u.oneCell'=Δ) (hby:n*4<=140737488355328) :
  Calls Aq1 130 #[.slice A n c] w λe w'=>∃ v',e=.returned v'/\w'.ownsRow w.heap.size 92 1 v' n us/\Below w.heap.size w w':=by
 obtain⟨i0,hi0,hz0,hz1,hz2⟩:=info_parts (show (Tryz.prog.info? 92).map (λi=>(i.zero,i.size,i.bytes))=Θ (Θ (.int .u32 0),1,4) by kernel_rfl);have HU:=Aq2 hn;have HA:=Aq2 hA;have H1:=Aq2 h1;clear hn hA h1;have hq:∀(w:World) (a:Option Addr) (n c:Nat),(binOp .eql 31 (.slice a n c) (.slice Ξ 0 0)).run Aq1 w=.ok (.bool a.isNone) w:=λw a n c=>At6 w _ _ a n c 0 0 Tryz.underlying31
 go_enter Tryz.func130,Tryz.ntmps130
 cases A with
 |none=>
  have h0:n=0:=by
   rcases Ar8 n with h|h
   .exact h
   .exfalso
    obtain⟨g,o,h2,_⟩:=HA.out (AuZ h)
    cases h2
  subst h0
  go_wp2
  go_ret
  have hu:us=[]:=Arn (by rw[HU.out,Asm]);rw[hu];exact⟨_,rfl,World.ownsRow_nil _ _ _ _,Below.refl _ _⟩
 |some ad=>
  obtain⟨ag,ao,asp⟩:=ad;have hcells:∀ j u,us[j]? = Θ u->ag<w.heap.size/\w.cell? ((⟨ag,ao,asp⟩:Addr).add j)=Θ u:=λj u hj=>by
   have hn0:n≠0:=by
    rintro rfl;have hu:us=[]:=Arn (by rw[HU.out,Asm]);rw[hu]at hj
    cases hj
   obtain⟨g,o,h2,h3⟩:=HA.out hn0
   cases h2
   have h5:=h3 j u hj;exact⟨ES h5,by rw[Hw];exact h5⟩
  have HC:=Aq2 hcells;clear hcells
  go_wp2_with (at_builtin;refine wpList_append_own_at _ rfl _ _ 31 rfl w.heap.size 92 i0 (.int .u32 0) 1 4 Tryz.underlying31 hi0 hz0 hz1 hz2 rfl (by decide) _ 0 [] rfl ?c0 ⟨ag,ao,asp⟩ n c us rfl HU.out ?c1 H1.out ?c3 ?c4 ?c5 ?_)
  case c0=>exact⟨by simp,.inr ⟨w.heap.size,0,#[],rfl,π _,heap_alloc_new _ _,π _,ArC _,by simp,by simp⟩⟩
  case c1=>
   intro j u hj;have:=HC.out j u hj;exact((Bv w (.cells #[] 92)).cell (p:=(⟨ag,ao,asp⟩:Addr).add j) (by rw[P4];exact this.1)).trans this.2
  case c3=>unfold maxLen;omega
  case c4=>omega
  case c5=>exact(Bv w _).size
  intro v' w3 hown hgrow _ _
  try simp only[Ara,Aq4]at hown
  have HO:=Aq2 hown;have HB:=Aq2 ((Bv w (.cells #[] 92)).grown hgrow (Bv w _).size (λk hk=>by have hk:Θ w.heap.size=Θ k:=hk;cases hk;exact π _));clear hown hgrow
  go_wp2_with fail
  go_ret
  exact⟨_,rfl,HO.out,HB.out⟩
section
variable {μ:Mu} {F:AS} {w:World} {g:Nat}
theorem Xe:∀(xs:List AV) (o:Nat),RepAt μ F w g xs o->∃ us,RepList μ F w xs us/\∀ j u,us[j]? = Θ u->w.cell? ⟨g,o+j,Ξ⟩=Θ u
 |[],o,_=>⟨[],rfl,λj u h=>by simp at h⟩
 |x::r,o,h=>by
  simp only[RepAt]at h;obtain⟨⟨_,u,h2,h3⟩,h4⟩:=h;obtain⟨us,h5,h6⟩:=Xe r (o+1) h4;refine⟨u::us,⟨u,us,rfl,h3,h5⟩,λj v hj=>?_⟩
  cases j with
  |zero=>simp at hj;subst hj;exact h2
  |succ j=>
   have:=h6 j v (by simpa using hj)
   rwa [show o+1+j=o+(j+1) by omega]at this
theorem Mc{e:Nat}:∀(xs:List (List AV)) (o:Nat),RepRows μ F w g e xs o->∃ us,RepList μ F w xs.flatten us/\∀ j u,us[j]? = Θ u->w.cell? ⟨g,o+j,Ξ⟩=Θ u
 |[],o,_=>⟨[],rfl,λj u h=>by simp at h⟩
 |x::r,o,h=>by
  simp only[RepRows]at h;obtain⟨h1,h2,h3⟩:=h;obtain⟨us,a1,a2⟩:=Xe x o h2;obtain⟨vs,b1,b2⟩:=Mc r (o+e) h3;refine⟨us++vs,by rw[Ar5];exact RepList.append a1 b1,λj v hj=>?_⟩;have hl:us.length=e:=by rw[a1.length,h1]
  by_cases hj2:j<us.length
  .exact a2 j v (by rwa [List.getElem?_append_left hj2]at hj)
  .rw[Arf (by omega),hl]at hj
   have:=b2 (j-e) v hj
   rwa [show o+e+(j-e)=o+j by omega]at this
end
def BF(e B:Nat):List AV->Option (Nat × List AV)
 |[.ls xs]=>if(GF e xs&&Ih (I1 xs)&&AU (I1 xs)&&AqZ (AL xs*B) 140737488355328)=Δ then Θ (AL xs,I1 xs) else Ξ
 |_=>Ξ
theorem Jy{P:Program}{f:Nat}{ety:TypeId}(e B:Nat) (h:∀(w:World) (A:Option Addr) (n c:Nat) (us:List Value),us.length=n*e->n<=c->(n≠0->∃ g o,A=Θ ⟨g,o,Ξ⟩/\∀ j u,us[j]? = Θ u->w.cell? ⟨g,o+j,Ξ⟩=Θ u)->
  (∀ u∈us,u.oneCell'=Δ)->n*B<=140737488355328->Calls P f #[.slice A n c] w λe' w'=>∃ v',e'=.returned v'/\w'.ownsRow w.heap.size ety e v' n us/\Below w.heap.size w w'):BS (B5 P f) (Dz e (BF e B)):=by
 refine LI (Dp P f) e _ λargs n cells hr=>?_
 unfold BF at hr;split at hr
 .rename_i xs
  split at hr
  .rename_i hc
   simp only[Aq6,Nat.ble_eq]at hc;obtain⟨⟨⟨c1,c2⟩,c3⟩,c4⟩:=hc;rw[Iy]at c1;rw[J6]at c2 c3;rw[GU]at c4;simp only[ψ,Prod.mk.injEq]at hr;obtain⟨rfl,rfl⟩:=hr;rw[GU,J6];have hlen:xs.flatten.length=xs.length*e:=by
    clear c2 c3 c4
    induction xs with
    |nil=>simp
    |cons x r ih=>
     rw[List.all_cons,Aq6]at c1;rw[Ar5,υ,ih c1.2,AqR,Art,Ar9];have:x.length=e:=by simpa using c1.1
     omega
   refine⟨c3,hlen,λμ F w us hF hus=>?_⟩;obtain⟨v,t,rfl,hv,ht⟩:=hus;have ht:t=[]:=ht;subst ht;unfold Rep at hv;obtain⟨_,A,c,rfl,h2,_,h4⟩:=hv;have key:∃ vs,RepList μ F w xs.flatten vs/\(xs.length≠0->∃ g o,A=Θ ⟨g,o,Ξ⟩/\∀ j u,vs[j]? = Θ u->w.cell? ⟨g,o+j,Ξ⟩=Θ u):=by
    by_cases hx:xs=[]
    .subst hx
     exact⟨[],rfl,λh=>absurd rfl h⟩
    .obtain⟨g,o,e',hA,hr⟩:=h4 hx
     obtain⟨vs,k1,k2⟩:=Mc xs o hr;exact⟨vs,k1,λ_=>⟨g,o,hA,k2⟩⟩
   obtain⟨vs,k1,k2⟩:=key;have hone:∀ u∈vs,u.oneCell'=Δ:=λu hu=>by
    obtain⟨j,hj,rfl⟩:=List.getElem_of_mem hu;have hj2:j<xs.flatten.length:=by rw[←k1.length];exact hj
    obtain⟨u,a1,a2⟩:=k1.get (ξ hj2);rw[ξ hj]at a1
    cases a1
    rw[FK]at c2;exact a2.one (List.all_eq_true.1 c2 _ (List.getElem_mem hj2))
   refine Calls.mono (h w A xs.length c vs (by rw[k1.length,hlen]) h2 k2 hone c4) ?_;rintro e' w' ⟨v',rfl,ho,hb⟩;exact⟨v',rfl,ety,vs,ho,hb,k1⟩
  .cases hr
 .cases hr
theorem Ga:BS (B5 Aq1 130) (Dz 1 (BF 1 4)):=Jy 1 4 λw A n c us h1 h2 h3 h4 h5=>VA w A n c us h1 h2 h3 h4 h5
theorem GN:BS (B5 Aq1 59) (Dz 3 (BF 3 40)):=Jy 3 40 λw A n c us h1 h2 h3 h4 h5=>N2 w A n c us h1 h2 h3 h4 h5
theorem C1(x:Nat):Af.conv .u32 (x:Int)=((x % 4294967296:Nat):Int):=by
 show IntKind.u32.wrap (x:Int)=_
 rw[IntKind.wrap_u32];omega
theorem Bz{x:Nat}(h:x<4294967296):Af.conv .u32 (x:Int)=(x:Int):=by rw[C1,ArT h]
theorem Bo{x:Nat}(h:x<18446744073709551616):Af.conv .u64 (x:Int)=(x:Int):=by
 show IntKind.u64.wrap (x:Int)=_
 rw[IntKind.wrap_u64];omega
theorem Cc{x y:Nat}(h:x+y<18446744073709551616):Af.add .u64 (x:Int) (y:Int)=((x+y:Nat):Int):=by
 show IntKind.u64.wrap ((x:Int)+(y:Int))=_
 rw[IntKind.wrap_u64];omega
theorem D9{x y:Nat}(h:y<=x)(h2:x<18446744073709551616):Af.sub .u64 (x:Int) (y:Int)=((x-y:Nat):Int):=by
 show IntKind.u64.wrap ((x:Int)-(y:Int))=_
 rw[IntKind.wrap_u64];omega
theorem KV{x y:Nat}(h:x*y<18446744073709551616):Af.mul .u64 (x:Int) (y:Int)=((x*y:Nat):Int):=by
 show IntKind.u64.wrap ((x:Int)*(y:Int))=_
 rw[IntKind.wrap_u64,←As3];omega
theorem EW(x:Nat):Af.shr .u64 (x:Int) 32=((x / 4294967296:Nat):Int):=by
 show Int.fdiv (x:Int) (2 ^ 32)=_
 have:(2 ^ 32:Int)=((4294967296:Nat):Int):=by decide
 rw[this,AtI _ (by omega)];rfl
theorem Af8(x y:Nat):Af.add .u32 (x:Int) (y:Int)=(((x+y) % 4294967296:Nat):Int):=by
 show IntKind.u32.wrap ((x:Int)+(y:Int))=_
 rw[IntKind.wrap_u32];omega
theorem Ng{i j:Nat}(h:j<=i)(h2:i<4611686018427387904):Af.sub .i64 (i:Int) (j:Int)=((i-j:Nat):Int):=by
 rw[Dm (by omega) (by omega)];omega
theorem AaN{i j:Nat}(h2:i+j<4611686018427387904):Af.add .i64 (i:Int) (j:Int)=((i+j:Nat):Int):=by
 rw[EJ (by omega) (by omega)];omega
theorem Fu(kd:IntKind)(n:Int)(r:List AV)(k:Int->List AV->KR):M6 kd (.v (.int kd n)::r) k=k n r:=by simp[M6]
theorem P2(kd:IntKind)(n:Int)(k:Int->KR):Jp kd (.v (.int kd n)) k=k n:=by simp[Jp]
theorem TC(n:Nat)(k:Int->List AV->KR)(r:List AV):M6 .u32 (.v (.int .u32 (n:Int))::r) k=k n r:=rfl
theorem S7(l:List Nat):GF 1 (l.map eL)=Δ:=My AD l
theorem AjW(l:List Nat):Ih (I1 (l.map eL))=Δ:=by rw[Ff];exact Ii (λ_=>rfl) l
theorem AfT(l:List Nat):AU (I1 (l.map eL))=Δ:=by
 rw[Ff]
 induction l with
 |nil=>rfl
 |cons x r ih=>exact ih
theorem MW(l:List Nat)(n:Nat):Jc (Jn (l.map eL) n) 0=(l.take n).map eL:=by
 rw[PC,Ob,AqQ,AtK]
theorem Hv:∀(a b:List Nat) (c:Nat),(Ls c a b).length=a.length+1
 |[],_,_=>rfl
 |x::a,b,c=>by rw[Ls,AqR,Hv a,AqR]
theorem Gb{a b:Nat}(h:(Ai a).length<(Ai b).length):a<b:=by
 by_cases h2:a<b
 .exact h2
 .have h3:Am b=Am b:=rfl
  have h4:0<(Ai b).length:=by omega
  have hb:4294967296 ^ ((Ai b).length-1)<=b:=by
   by_cases h5:4294967296 ^ ((Ai b).length-1)<=b
   .exact h5
   .have:=Bc (n:=b) (k:=(Ai b).length-1) (by omega)
    omega
  have h6:=Ib (n:=a) (k:=(Ai b).length-1) (by omega);omega
def BL(l:List Nat):Prop:=l.length<=1000000000
theorem DL{l:List Nat}(h:Limbs l)(h2:BL l):BL (Ai (Ad l)):=by
 unfold BL at *;rw[CO l h];have:=Ch l;omega
structure CloneF (D:Orc):Prop where
 nat:∀ l:List Nat,BL l->D.ask (.fn 130) [eN l] []=Θ (.sl 0 0 l.length 1,[.set (θ (Ah eL l) Δ Δ)])
theorem IF{l:List Nat}(h:BL l):Dz 1 (BF 1 4) [eN l] []=Θ (.sl 0 0 l.length 1,[.set (θ (Ah eL l) Δ Δ)]):=by
 unfold Dz BF eN;have h4:AqZ (AL (l.map eL)*4) 140737488355328=Δ:=by
  rw[Ak];unfold BL at h;simp;omega
 simp only[S7,AjW,AfT,h4,Bool.and_true,if_true,Option.map_some];rw[Ak,Ff]
section
variable {D:Orc} (K:Knows Al Hi D)
include K
theorem AgS(l:List Nat)(hl:BL l):∀(n:Nat),n<=l.length->CI l<=n->D.ask (.lp 108 0) [eN l,iv (n:Int)] []=Θ (.tup [iv 0,eN l,iv (CI l:Int)],[]):=by
 intro n;have hl':=hl;unfold BL at hl'
 induction n with
 |zero=>
  intro _ ht;refine Au K TV (Abi ..) ?_;refine Ag ?_;rw[show CI l=0 by omega];rfl
 |succ n ih=>
  intro hn ht;refine Au K TV (Abi ..) ?_;refine Aj ?_;rw[show Af.sub .i64 ((n+1:Nat):Int) 1=(n:Int) from (Ng (i:=n+1) (j:=1) (by omega) (by omega)).trans (by simp)];rw[Av,At (ξ (show n<l.length by omega))];simp only[eL,TC,ND,DK,Ab]
  by_cases h0:l[n]=0
  .refine Bu ?_ (by rw[h0];rfl)
   refine Aa (ih (by omega) (Mo ht (by rw[ξ (show n<l.length by omega),h0]))) ?_;rfl
  .refine AN ?_
   have:=NB (ξ (show n<l.length by omega)) h0;rw[show CI l=n+1 by omega];rfl
theorem E3{l:List Nat}(hl:BL l)(h:Limbs l):D.ask (.fn 108) [eN l] []=Θ (eN (Ai (Ad l)),[]):=by
 refine AB K TV (AoB ..) ?_;rw[Ak];refine Aa (AgS K l hl _ (π _) (Ch l)) ?_;simp only[eN,ND,DK,Ab];rw[Av,Ak,S7,MW,Iu h];rw[show KA 0 (CI l) l.length=Δ by unfold KA;rw[show AqZ 0 (CI l)=Δ by simp];simpa using Ch l];rfl
variable (C:CloneF D)
include C
theorem Fy{l:List Nat}(hl:BL l)(h:Limbs l):D.ask (.fn 109) [eN l] []=Θ (eN (Ai (Ad l)),[]):=by
 refine AB K AhI (AoC ..) ?_;refine Aa (E3 K hl h) ?_;simp only[eN,ND,DK,Ab];have g:=C.nat _ (DL h hl);unfold eN at g;refine Aa g ?_;simp only[ND,DK,Ab];rw[AF AD _ (by omega)];refine Ac ?_;rw[Bp AD _ rfl]
theorem Ahg(n:Nat)(h:n<18446744073709551616):D.ask (.fn 111) [.v (.int .u64 (n:Int))] []=Θ (eN (Ai n),[]):=by
 refine AB K AhJ (AoD ..) ?_;refine Ag ?_ (by decide);rw[C1,EW,C1];have hl:Limbs [n % 4294967296,n / 4294967296 % 4294967296]:=Bf (ArF _ (by omega)) (Bf (ArF _ (by omega)) BH);have g:=Fy K C (l:=[n % 4294967296,n / 4294967296 % 4294967296]) (by unfold BL;simp) hl;rw[show Ad [n % 4294967296,n / 4294967296 % 4294967296]=n by simp only[Ad];omega]at g;refine Aa g ?_;rfl
omit C in
theorem AiB(a b:List Nat)(ha:Limbs a)(hb:Limbs b)(hab:a.length=b.length)(hs:BL a):∀(n:Nat),n<=a.length->D.ask (.lp 78 0) [eN a,eN b,iv ((n:Int)-1)] []
  = Θ (if CT (Ad (a.take n)) (Ad (b.take n))=0 then .tup [iv 1] else .tup [bv Δ,iv (CT (Ad (a.take n)) (Ad (b.take n)))],[]):=by
 intro n;unfold BL at hs
 induction n with
 |zero=>
  intro _;refine Au K Ab7 (Ahr ..) ?_;refine Cr ?_;rfl
 |succ n ih=>
  intro hn;refine Au K Ab7 (Ahr ..) ?_;rw[show (((n+1:Nat):Int)-1)=(n:Int) by omega];refine B6 ?_;have h1:n<a.length:=by omega
  have h2:n<b.length:=by omega
  have e1:a.take (n+1)=a.take n++[a[n]]:=by rw[Arw h1]
  have e2:b.take (n+1)=b.take n++[b[n]]:=by rw[Arw h2]
  rw[e1,e2,N6 (ha.take n) (hb.take n) (by simp;omega)];simp only[Av,At (ξ h1),At (ξ h2),eL,TC,ND,DK,Ab]
  by_cases h3:a[n]<b[n]
  .refine Aj ?_
   rw[if_pos h3];rfl
  .refine Ag ?_
   rw[if_neg h3]
   by_cases h4:b[n]<a[n]
   .refine Aj ?_
    rw[if_pos h4];rfl
   .refine Ag ?_
    rw[if_neg h4];rw[show Af.sub .i64 (n:Int) 1=(n:Int)-1 from Dm (by omega) (by omega)];refine Aa (ih (by omega)) ?_
    by_cases h5:CT (Ad (a.take n)) (Ad (b.take n))=0
    .rw[if_pos h5];rfl
    .rw[if_neg h5];rfl
omit C in
theorem Vq{a b:List Nat}(hsa:BL a)(ha:Limbs a)(hsb:BL b)(hb:Limbs b):D.ask (.fn 78) [eN a,eN b] []=Θ (iv (CT (Ad a) (Ad b)),[]):=by
 have s1:=DL ha hsa;have s2:=DL hb hsb;unfold BL at s1 s2;refine AB K Ab7 (e78 ..) ?_;refine Aa (E3 K hsa ha) ?_;simp only[eN,ND,DK,Ab];refine Aa (E3 K hsb hb) ?_;simp only[eN,ND,DK,Ab,Ak];generalize Ad a=x at *;generalize Ad b=y at *
 by_cases h1:(Ai x).length<(Ai y).length
 .refine Aj ?_
  have:=Gb h1;unfold CT;rw[if_pos this]
 .refine Ag ?_
  by_cases h2:(Ai y).length<(Ai x).length
  .refine Aj ?_
   have:=Gb h2;unfold CT;rw[if_neg (by omega),if_pos this]
  .refine Ag ?_
   have hx:(Ai x).length=(Ai y).length:=by omega
   have g:=AiB K (Ai x) (Ai y) (Am x) (Am y) hx s1 (Ai x).length (π _);rw[Asb,hx,Asb,Az,Az]at g;rw[show Af.sub .i64 ((Ai x).length:Int) 1=((Ai x).length:Int)-1 from Dm (by omega) (by omega),hx];refine Aa g ?_
   by_cases h5:CT x y=0
   .rw[if_pos h5,h5];rfl
   .rw[if_neg h5];rfl
omit C in
theorem AaJ(b:List Nat)(hb:Limbs b)(a:List Nat)(ha:Limbs a)(hs:BL a):∀(k i:Nat) (out:List Nat) (c:Nat),a.length-i=k->i<=a.length->b.length<=a.length->c<=1->out.length+k<=2000000000->
  ∃(o:List Nat) (c':Nat),D.ask (.lp 102 0) [eN b,.sl 0 0 out.length 1,.v (.int .u64 (c:Int)),eN a,iv (a.length:Int),iv (i:Int)] [θ (Ah eL out) Δ Δ]
   = Θ (.tup [iv 0,.sl 1 0 o.length 1,.v (.int .u64 (c':Int))],[.del,.set (θ (Ah eL o) Δ Δ)])/\c'<=1/\o++[c']=out++Ls c (a.drop i) (b.drop i):=by
 intro k;unfold BL at hs
 induction k with
 |zero=>
  intro i out c hi hle hba hc ho;refine⟨out,c,?_,hc,?_⟩
  .refine Au K TT (Abg ..) ?_
   refine Ag ?_;rfl
  .rw[show a.drop i=[] from AqX (by omega)]
   rfl
 |succ k ih=>
  intro i out c hi hle hba hc ho;have hlt:i<a.length:=by omega
  have hx:=ha.get hlt;have hbd:=D5 (hb.drop i);have hdt:(b.drop i).tail=b.drop (i+1):=by rw[AsI]
  rw[show a.drop i=a[i]::a.drop (i+1) from κ hlt];obtain⟨o,c',h1,h2,h3⟩:=ih (i+1) (out++[(a[i]+(b.drop i).headD 0+c) % 4294967296]) ((a[i]+(b.drop i).headD 0+c) / 4294967296) (by omega) (by omega) hba (by omega) (by simp;omega);refine⟨o,c',?_,h2,?_⟩
  .refine Au K TT (Abg ..) ?_
   refine Aj ?_;rw[Av,At (ξ hlt)];have hf:AZ (out.length+1) 4=Δ:=AG (by omega) (by omega);have hb1:AqZ (0+out.length*1) (Ah eL out).length=Δ:=AF AD out (by omega);have e3:∀ s:Nat,AqT 0 (ε (0+out.length*1) (Ah eL out))++[.v (.int .u32 (s:Int))]=Ah eL (out++[s]):=λs=>by
    rw[AqQ,Be AD out (by omega)];exact Bb eL out s
   rw[υ,Ari]at h1;simp only[eL,TC,ND,DK,Ab,Ak];rw[BA (by omega)]
   by_cases hib:i<b.length
   .have hd:(b.drop i).headD 0=b[i]:=by rw[κ hib];rfl
    rw[hd]at h1 hbd;refine Aj ?_;rw[Av,At (ξ hib)];simp only[eL,TC,ND,DK,Ab];rw[Bo (by omega),Bo (by omega),Cc (by omega),Cc (by omega),C1,EW,hf,hb1,e3];rw[show a[i]+c+b[i]=a[i]+b[i]+c by omega];refine Ac ?_;refine Ac ?_;refine Ag ?_ (by decide);refine Aa h1 ?_;rfl
   .have hd:(b.drop i).headD 0=0:=by rw[AqX (by omega)];rfl
    rw[hd]at h1;refine Ag ?_;rw[Bo (by omega),Cc (by omega),C1,EW,hf,hb1,e3];rw[show a[i]+c=a[i]+0+c by omega];refine Ac ?_;refine Ac ?_;refine Ag ?_ (by decide);refine Aa h1 ?_;rfl
  .rw[h3,Ls,hdt,AqY]
   rfl
theorem AiA{a b:List Nat}(hsa:a.length<=999999999)(ha:Limbs a)(hsb:b.length<=999999999)(hb:Limbs b):D.ask (.fn 102) [eN a,eN b] []=Θ (eN (Ai (Ad a+Ad b)),[]):=by
 have s1:=DL ha (by unfold BL;omega);have s2:=DL hb (by unfold BL;omega);have t1:(Ai (Ad a)).length<=999999999:=by rw[CO a ha];have:=Ch a;omega
 have t2:(Ai (Ad b)).length<=999999999:=by rw[CO b hb];have:=Ch b;omega
 refine AB K TT (Aov ..) ?_;refine Aa (E3 K (by unfold BL;omega) ha) ?_;simp only[eN,ND,DK,Ab];refine Aa (E3 K (by unfold BL;omega) hb) ?_;simp only[eN,ND,DK,Ab,Ak];generalize Ad a=x at *;generalize Ad b=y at *
 by_cases h1:(Ai x).length<(Ai y).length
 .refine Aj ?_
  have hl:Limbs (Ls 0 (Ai y) (Ai x)):=Jr _ _ _ (Am _) (Am _) (by omega);obtain⟨o,c',g,hc,ho⟩:=AaJ K (Ai x) (Am x) (Ai y) (Am y) s2 (Ai y).length 0 [] 0 (by omega) (by omega) (by omega) (by omega) (by unfold BL at s2;simp;omega);rw[Aq4,AqQ,AqQ]at ho;have hol:o.length=(Ai y).length:=by
   have:=congrArg Auw ho;rw[υ,Hv]at this;simpa using this
  have hsx:=s2;unfold BL at hsx;rw[show Af.add .i64 ((Ai y).length:Int) 1=(((Ai y).length+1:Nat):Int) from BA (by omega),Av];rw[AG (n:=(Ai y).length+1) (b:=4) (by omega) (by omega)];refine Ac ?_;refine Aa g ?_;simp only[Fu,ND,DK,Ab];rw[Bz (by omega)];have e3:AqT 0 (ε (0+o.length*1) (Ah eL o))++[.v (.int .u32 (c':Int))]=Ah eL (o++[c']):=by
   rw[AqQ,Be AD o (by omega)];exact Bb eL o c'
  rw[AG (n:=o.length+1) (b:=4) (by omega) (by omega),AF AD o (by omega),e3,AF AD (o++[c']) (by simp)];refine Ac ?_;refine Ac ?_;refine Ac ?_;rw[AqQ,Be AD (o++[c']) (by simp),show Bi (o.length+1) 1 (Ah eL (o++[c']))=(o++[c']).map eL from by have:=CL AD (o++[c']);rwa [υ]at this];rw[ho];have gt:=Fy K C (l:=Ls 0 (Ai y) (Ai x)) (by unfold BL;rw[Hv];omega) hl;rw[Ms _ _ _ (by omega),Az,Az]at gt;refine Aa gt ?_;rw[show 0+y+x=x+y by omega];rfl
 .refine Ag ?_
  have hl:Limbs (Ls 0 (Ai x) (Ai y)):=Jr _ _ _ (Am _) (Am _) (by omega);obtain⟨o,c',g,hc,ho⟩:=AaJ K (Ai y) (Am y) (Ai x) (Am x) s1 (Ai x).length 0 [] 0 (by omega) (by omega) (by omega) (by omega) (by unfold BL at s1;simp;omega);rw[Aq4,AqQ,AqQ]at ho;have hol:o.length=(Ai x).length:=by
   have:=congrArg Auw ho;rw[υ,Hv]at this;simpa using this
  have hsx:=s1;unfold BL at hsx;rw[show Af.add .i64 ((Ai x).length:Int) 1=(((Ai x).length+1:Nat):Int) from BA (by omega),Av];rw[AG (n:=(Ai x).length+1) (b:=4) (by omega) (by omega)];refine Ac ?_;refine Aa g ?_;simp only[Fu,ND,DK,Ab];rw[Bz (by omega)];have e3:AqT 0 (ε (0+o.length*1) (Ah eL o))++[.v (.int .u32 (c':Int))]=Ah eL (o++[c']):=by
   rw[AqQ,Be AD o (by omega)];exact Bb eL o c'
  rw[AG (n:=o.length+1) (b:=4) (by omega) (by omega),AF AD o (by omega),e3,AF AD (o++[c']) (by simp)];refine Ac ?_;refine Ac ?_;refine Ac ?_;rw[AqQ,Be AD (o++[c']) (by simp),show Bi (o.length+1) 1 (Ah eL (o++[c']))=(o++[c']).map eL from by have:=CL AD (o++[c']);rwa [υ]at this];rw[ho];have gt:=Fy K C (l:=Ls 0 (Ai x) (Ai y)) (by unfold BL;rw[Hv];omega) hl;rw[Ms _ _ _ (by omega),Az,Az]at gt;refine Aa gt ?_;rw[show 0+x+y=x+y by omega];rfl
omit C in
theorem AiH(b:List Nat)(hb:Limbs b)(a:List Nat)(ha:Limbs a)(hs:BL a):∀(k i:Nat) (out:List Nat) (c:Nat),a.length-i=k->i<=a.length->c<=1->out.length+k<=2000000000->
  D.ask (.lp 103 0) [eN b,.sl 0 0 out.length 1,.v (.int .u64 (c:Int)),eN a,iv (a.length:Int),iv (i:Int)] [θ (Ah eL out) Δ Δ]
   = Θ (.tup [iv 0,.sl 1 0 (out++G4 c (a.drop i) (b.drop i)).length 1],[.del,.set (θ (Ah eL (out++G4 c (a.drop i) (b.drop i))) Δ Δ)]):=by
 intro k;unfold BL at hs
 induction k with
 |zero=>
  intro i out c hi hle hc ho;refine Au K TU (Abh ..) ?_;refine Ag ?_;rw[show a.drop i=[] from AqX (by omega)];simp only[G4,ArB]
  all_goals rfl
 |succ k ih=>
  intro i out c hi hle hc ho;have hlt:i<a.length:=by omega
  have hx:=ha.get hlt;have hbd:=D5 (hb.drop i);have hdt:(b.drop i).tail=b.drop (i+1):=by rw[AsI]
  rw[show a.drop i=a[i]::a.drop (i+1) from κ hlt,G4,hdt];have h1:=ih (i+1) (out++[if a[i]<(b.drop i).headD 0+c then a[i]+4294967296-((b.drop i).headD 0+c) else a[i]-((b.drop i).headD 0+c)]) (if a[i]<(b.drop i).headD 0+c then 1 else 0) (by omega) (by omega) (by split<;>omega) (by simp;omega);rw[AqY,υ,Ari]at h1;refine Au K TU (Abh ..) ?_;refine Aj ?_;rw[Av,At (ξ hlt)];have hf:AZ (out.length+1) 4=Δ:=AG (by omega) (by omega);have hb1:AqZ (0+out.length*1) (Ah eL out).length=Δ:=AF AD out (by omega);have e3:∀ s:Nat,AqT 0 (ε (0+out.length*1) (Ah eL out))++[.v (.int .u32 (s:Int))]=Ah eL (out++[s]):=λs=>by
   rw[AqQ,Be AD out (by omega)];exact Bb eL out s
  simp only[eL,TC,ND,DK,Ab,Ak];rw[BA (by omega)]
  by_cases hib:i<b.length
  .have hd:(b.drop i).headD 0=b[i]:=by rw[κ hib];rfl
   rw[hd]at h1 hbd;rw[hd];refine Aj ?_;rw[Av,At (ξ hib)];simp only[eL,TC,ND,DK,Ab];rw[Bo (show a[i]<_ by omega),Bo (show b[i]<_ by omega),Cc (by omega)]
   by_cases hlt2:a[i]<b[i]+c
   .refine Aj ?_
    rw[if_pos hlt2,if_pos hlt2]at h1;rw[if_pos hlt2,if_pos hlt2];rw[show (4294967296:Int)=((4294967296:Nat):Int) from rfl,Cc (by omega),show c+b[i]=b[i]+c by omega,D9 (by omega) (by omega),Bz (by omega),hf,hb1,e3];refine Ac ?_;refine Ac ?_;refine Aa h1 ?_;rfl
   .refine Ag ?_
    rw[if_neg hlt2,if_neg hlt2]at h1;rw[if_neg hlt2,if_neg hlt2];rw[show c+b[i]=b[i]+c by omega,D9 (by omega) (by omega),Bz (by omega),hf,hb1,e3];refine Ac ?_;refine Ac ?_;refine Aa h1 ?_;rfl
  .have hd:(b.drop i).headD 0=0:=by rw[AqX (by omega)];rfl
   rw[hd]at h1;rw[hd];refine Ag ?_;rw[Bo (show a[i]<_ by omega)];rw[Ara]at h1;simp only[show (0:Nat)+c=c by omega]
   by_cases hlt2:a[i]<c
   .refine Aj ?_
    rw[if_pos hlt2,if_pos hlt2]at h1;rw[if_pos hlt2,if_pos hlt2];rw[show (4294967296:Int)=((4294967296:Nat):Int) from rfl,Cc (by omega),D9 (by omega) (by omega),Bz (by omega),hf,hb1,e3];refine Ac ?_;refine Ac ?_;refine Aa h1 ?_;rfl
   .refine Ag ?_
    rw[if_neg hlt2,if_neg hlt2]at h1;rw[if_neg hlt2,if_neg hlt2];rw[D9 (by omega) (by omega),Bz (by omega),hf,hb1,e3];refine Ac ?_;refine Ac ?_;refine Aa h1 ?_;rfl
def ME(x y:Nat):AV:=if y<=x then .tup [eN (Ai (x-y)),bv Δ] else .tup [eN [],bv false]
theorem AaM{a b:List Nat}(hsa:BL a)(ha:Limbs a)(hsb:BL b)(hb:Limbs b):D.ask (.fn 103) [eN a,eN b] []=Θ (ME (Ad a) (Ad b),[]):=by
 have s1:=DL ha hsa;have s2:=DL hb hsb;refine AB K TU (Aow ..) ?_;refine Aa (E3 K hsa ha) ?_;simp only[eN,ND,DK,Ab];refine Aa (E3 K hsb hb) ?_;simp only[eN,ND,DK,Ab,Ak];have gc:=Vq K s1 (Am _) s2 (Am _);rw[Az,Az]at gc;refine Aa gc ?_;simp only[ND,DK,Ab];generalize Ad a=x at *;generalize Ad b=y at *;unfold ME;unfold BL at s1 s2
 by_cases h1:x<y
 .rw[show CT x y=-1 by unfold CT;rw[if_pos h1]]
  refine Aj ?_ (by decide);rw[if_neg (by omega)];rfl
 .refine Ag ?_ (by unfold CT;rw[if_neg h1];split<;>omega)
  rw[if_pos (by omega)];have hle:(Ai y).length<=(Ai x).length:=by
   by_cases h:(Ai x).length<(Ai y).length
   .have:=Gb h;omega
   .omega
  rw[AG (n:=(Ai x).length) (b:=4) (by omega) (by omega)];refine Ac ?_;have g:=AiH K (Ai y) (Am y) (Ai x) (Am x) s1 (Ai x).length 0 [] 0 (by omega) (by omega) (by omega) (by simp;omega);refine Aa g ?_;simp only[ND,DK,Ab,AqQ,Aq4];rw[AF AD _ (by omega)];refine Ac ?_;rw[Bp AD _ rfl];have gt:=Fy K C (l:=G4 0 (Ai x) (Ai y)) (by unfold BL;rw[Lb];exact s1) (G5 _ _ _ (Am _) (Am _) (by omega));rw[Vh (Am _) (Am _) hle (by rw[Az,Az];omega),Az,Az]at gt;refine Aa gt ?_;rfl
end
theorem Adb{x c r:Nat}(hc:c<2 ^ r)(hx:x*2 ^ r+c<18446744073709551616):Af.bits .or .u64 ((x*2 ^ r:Nat):Int) (c:Int)=((x*2 ^ r+c:Nat):Int):=by
 show IntKind.u64.wrap ((BitVec.ofInt 64 ((x*2 ^ r:Nat):Int) ||| BitVec.ofInt 64 (c:Int)).toNat:Int)=_
 have e:x*2 ^ r ||| c=x*2 ^ r+c:=by
  rw[Arz];exact(Nat.two_pow_add_eq_or_of_lt hc x).symm
 rw[BitVec.ofInt_natCast,BitVec.ofInt_natCast,BitVec.toNat_or,BitVec.toNat_ofNat,BitVec.toNat_ofNat,ArT (show x*2 ^ r<2 ^ 64 by omega),ArT (show c<2 ^ 64 by omega),e,IntKind.wrap_u64];omega
theorem Yd{x:Nat}(hx:x<18446744073709551616):Af.bits .and .u64 (x:Int) 4294967295=((x % 4294967296:Nat):Int):=by
 show IntKind.u64.wrap ((BitVec.ofInt 64 (x:Int) &&& BitVec.ofInt 64 4294967295).toNat:Int)=_
 have e:x &&& 4294967295=x % 4294967296:=Nat.and_two_pow_sub_one_eq_mod x 32;rw[BitVec.ofInt_natCast,show BitVec.ofInt 64 4294967295=BitVec.ofNat 64 4294967295 from rfl,BitVec.toNat_and,BitVec.toNat_ofNat,BitVec.toNat_ofNat,ArT (show x<2 ^ 64 by omega),show 4294967295 % 2 ^ 64=4294967295 from rfl,e,IntKind.wrap_u64];omega
theorem Ye{x r:Nat}(hr:r<=64)(hx:x*2 ^ r<18446744073709551616):Af.shl .u64 (x:Int) (r:Int)=((x*2 ^ r:Nat):Int):=by
 show IntKind.u64.wrap ((x:Int)*2 ^ (ArY (r:Int).toNat 64))=_
 rw[Auo,show ArY r 64=r from ArH hr,show ((x:Int)*2 ^ r)=((x*2 ^ r:Nat):Int) by rw[As3,AuC];rfl,IntKind.wrap_u64];omega
theorem KW{x:Nat}(hx:x<4294967296):Af.shl .u64 (x:Int) 32=((x*4294967296:Nat):Int):=Ye (r:=32) (by omega) (by show x*4294967296<_;omega)
theorem Pb{x c:Nat}(hc:c<4294967296)(hx:x<4294967296):Af.bits .or .u64 ((x*4294967296:Nat):Int) (c:Int)=((x*4294967296+c:Nat):Int):=Adb (r:=32) hc (by show x*4294967296+c<_;omega)
theorem Adc{s:Nat}(h:s<=31):Af.quo .i64 (s:Int) 32=((0:Nat):Int):=by
 show IntKind.i64.wrap (Atd (s:Int) ((32:Nat):Int))=_
 rw[show Atd (s:Int) ((32:Nat):Int)=((s / 32:Nat):Int) from rfl,Nat.div_eq_of_lt (by omega)];rfl
theorem Adg{s:Nat}(h:s<=31):Af.rem .i64 (s:Int) 32=(s:Int):=by
 show Int.tmod (s:Int) ((32:Nat):Int)=_
 rw[show Int.tmod (s:Int) ((32:Nat):Int)=((s % 32:Nat):Int) from rfl,ArT (by omega)]
theorem Aj2(s:Nat):Af.max (s:Int) 0=(s:Int):=by
 show (if(s:Int)<0 then(0:Int) else(s:Int))=_
 rw[if_neg (by omega)]
theorem O9{s:Nat}(h:s<=31):0<2 ^ s/\2 ^ s<=2147483648/\2 ^ s*2 ^ (32-s)=4294967296:=by
 refine⟨Nat.two_pow_pos s,Nat.pow_le_pow_right (n:=2) (by omega) h,?_⟩;rw[←Nat.pow_add,show s+(32-s)=32 by omega]
theorem Sz{k:IntKind}{x r:Nat}(hr:r<=k.bits):Af.shr k (x:Int) (r:Int)=((x / 2 ^ r:Nat):Int):=by
 show Int.fdiv (x:Int) (2 ^ (ArY (r:Int).toNat k.bits))=_
 rw[Auo,show ArY r k.bits=r from ArH hr,show (2 ^ r:Int)=((2 ^ r:Nat):Int) by rw[AuC];rfl,AtI _ (Int.natCast_nonneg _)];rfl
theorem Adf{x y:Nat}(hx:x<18446744073709551616):Af.quo .u64 (x:Int) (y:Int)=((x / y:Nat):Int):=by
 show IntKind.u64.wrap (Atd (x:Int) (y:Int))=_
 have:=Nat.div_le_self x y;rw[show Atd (x:Int) (y:Int)=((x / y:Nat):Int) from rfl];generalize x / y=q at *;rw[IntKind.wrap_u64];omega
theorem Adi(x y:Nat):Af.rem .u64 (x:Int) (y:Int)=((x % y:Nat):Int):=by
 rfl
theorem Aj3{x y:Nat}(hy:y<=4294967296)(hx:x<4294967296):Af.conv .u32 (Af.sub .u64 (x:Int) (y:Int))=(((x+4294967296-y) % 4294967296:Nat):Int):=by
 show IntKind.u32.wrap (IntKind.u64.wrap ((x:Int)-(y:Int)))=_
 rw[IntKind.wrap_u64,IntKind.wrap_u32];omega
theorem Py(m:Nat):∀(a:List Nat) (c:Nat),(DQ m c a).length=a.length+1
 |[],_=>rfl
 |x::a,c=>by rw[DQ,AqR,Py m a,AqR]
def Jz(b:Nat):List Nat->List Nat
 |[]=>[]
 |x::r=>((Ad r % b)*4294967296+x) / b::Jz b r
theorem HK(b:Nat):∀ l,(Jz b l).length=l.length
 |[]=>rfl
 |x::r=>by rw[Jz,AqR,HK b r,AqR]
theorem Xk{b s x:Nat}(hs:s<b)(hx:x<4294967296):(s*4294967296+x) / b<4294967296:=by
 rw[As9 (by omega)];have:(s+1)*4294967296<=b*4294967296:=Ard _ hs;rw[Arz 4294967296 b];omega
theorem Oa{b:Nat}(hb:0<b):∀ l,Limbs l->Limbs (Jz b l)
 |[],_=>BH
 |x::r,h=>Bf (Xk (ArF _ hb) h.cons.1) (Oa hb r h.cons.2)
theorem ZO(b x:Nat)(r:List Nat):((Ad r % b)*4294967296+x) % b=Ad (x::r) % b:=by
 rw[Ad,Au4,Au7,Nat.mod_mod,←Au7,←Au4,Arz,AuV]
theorem Rf{b:Nat}(hb:0<b):∀ l,Ad (Jz b l)=Ad l / b
 |[]=>by simp[Jz,Ad]
 |x::r=>by
  rw[Jz,Ad,Ad,Rf hb r];have h1:=AtA (Ad r) b;generalize Ad r / b=q at h1 ⊢;generalize Ad r % b=s at h1 ⊢;rw[←h1];have e:x+4294967296*(b*q+s)=(s*4294967296+x)+b*(4294967296*q):=by
   rw[ArR,←Ark,←Ark,Arz b 4294967296];omega
  rw[e,AsT _ _ hb]
def Fp(P:Nat):List Nat->List Nat
 |[]=>[]
 |x::r=>((r.headD 0*4294967296+x) / P) % 4294967296::Fp P r
theorem Pj(P:Nat):∀ l,(Fp P l).length=l.length
 |[]=>rfl
 |x::r=>by rw[Fp,AqR,Pj P r,AqR]
theorem K3(P:Nat):∀ l,Limbs (Fp P l)
 |[]=>BH
 |x::r=>Bf (ArF _ (by omega)) (K3 P r)
theorem WN{P Q h k x V:Nat}(hP:0<P)(hPQ:P*Q=4294967296)(hx:x<4294967296)(hV:V=h+4294967296*k):(h*4294967296+x) / P % 4294967296+4294967296*(V / P)=(x+4294967296*V) / P:=by
 have e1:(h*4294967296+x) / P=h*Q+x / P:=by
  rw[←hPQ,show h*(P*Q)+x=x+P*(h*Q) by rw[←Ark,Arz h P,Ark];omega,AsT _ _ hP,AuV]
 have e2:(x+4294967296*V) / P=x / P+Q*V:=by
  rw[←hPQ,show x+P*Q*V=x+P*(Q*V) by rw[Ark],AsT _ _ hP]
 have hxP:x / P<Q:=by
  rw[As9 hP,Arz,hPQ];exact hx
 have h1:=AtA V P;have h2:=ArF V hP;have e3:Q*V=4294967296*(V / P)+Q*(V % P):=by
  rw[←hPQ];have:Q*V=Q*(P*(V / P)+V % P):=by rw[h1]
  rw[this,ArR,←Ark,Arz Q P]
 have e4:(h*Q+x / P) % 4294967296=Q*(V % P)+x / P:=by
  have e5:h*Q+4294967296*(k*Q)=4294967296*(V / P)+Q*(V % P):=by
   rw[←e3,hV,ArR,Arz h Q,←Ark,←Ark,Arz Q 4294967296,Ark,Ark,Arz Q k]
  have hb:Q*(V % P)+x / P<4294967296:=by
   have:Q*(V % P+1)<=Q*P:=Nat.mul_le_mul_left _ h2;rw[ArR,AsC,Arz Q P,hPQ]at this;omega
  have e6:h*Q+x / P+4294967296*(k*Q)=(Q*(V % P)+x / P)+4294967296*(V / P):=by omega
  have e7:=congrArg (· % 4294967296) e6;simp only[Nat.add_mul_mod_self_left]at e7;rw[e7,ArT hb]
 rw[e1,e2,e3,e4];omega
theorem M1{P Q:Nat}(hP:0<P)(hPQ:P*Q=4294967296):∀ l,Limbs l->Ad (Fp P l)=Ad l / P
 |[],_=>by simp[Fp,Ad]
 |x::r,h=>by
  rw[Fp,Ad,Ad,M1 hP hPQ r h.cons.2];exact WN hP hPQ h.cons.1 (G8 r)
def eC(n:Nat):AV:=.v (.int .u32 (n:Int))
theorem Eb:∀ l:List Nat,Ah eL l=l.map eC
 |[]=>rfl
 |x::r=>by
  have ih:=Eb r;unfold Ah at ih ⊢;rw[List.flatMap_cons,ih];rfl
theorem C7(l:List Nat)(i v:Nat)(h:i<l.length):AI (Ah eL l) (0+i*1) [.v (.int .u32 (v:Int))]=Ah eL (l.set i v):=by
 rw[Eb,Eb,Ato,if_pos h];unfold AI;simp only[Ara,AsC,List.map_append,List.map_cons,AtK,List.map_drop,Ari];rw[AqY];rfl
theorem In(l:List Nat)(i:Nat)(h:i<l.length)(k:List AV->KR):EX (Ah eL l) (0+i*1) 1 k=k [.v (.int .u32 (l[i]:Int))]:=by
 have hx:(Ah eL l)[i]? = Θ (.v (.int .u32 (l[i]:Int))):=by
  rw[Eb,List.getElem?_map,ξ h];rfl
 obtain⟨hl,hx⟩:=List.getElem?_eq_some_iff.1 hx;unfold EX;have:AqZ (0+i*1+1) (Ah eL l).length=Δ:=by simp;omega
 rw[this];simp only[Ara,AsC];rw[κ hl,hx];rfl
theorem IB(n:Nat):BW [.v (.int .u32 0)] (n*1)=Ah eL (AsH n 0):=by
 rw[Eb,AsC];unfold BW;rw[List.map_replicate];refine List.ext_getElem (by simp) λi h1 h2=>?_
 simp[Nat.mod_one,eC]
theorem QM:∀(x:Nat) (b o:List Nat) (c:Nat),(OT x c b o).drop (b.length+1)=o.drop (b.length+1)
 |x,[],o,c=>by
  rw[OT]
  cases o<;>simp
 |x,y::b,o,c=>by
  rw[OT,AqR,List.drop_succ_cons,QM x b o.tail]
  cases o with
  |nil=>simp
  |cons z o=>rfl
def Hu(j:Nat)(l:List Nat):Prop:=∀ y∈l.drop j,y=0
theorem AaA{j:Nat}{l:List Nat}(h:Hu j l):(l.drop j).headD 0=0:=by
 unfold Hu at h
 cases e:l.drop j with
 |nil=>rfl
 |cons z r=>
  rw[e]at h;exact h z (List.mem_cons_self ..)
theorem BK{a b:Nat}(h:a<b):ArK a b=Δ:=by simpa using h
section
variable {D:Orc} (K:Knows Al Hi D)
include K
theorem ZW(a b:List Nat)(hb:Limbs b)(i:Nat)(hi:i<a.length)(hsz:a.length+b.length<=1000000000)(x:Nat)(hx:x<4294967296):∀(m k:Nat) (out:List Nat) (c:Nat),b.length-k=m->k<=b.length->Limbs out->c<4294967296->out.length=a.length+b.length->
  ∃(o:List Nat) (c':Nat),D.ask (.lp 143 1) [eN b,.sl 0 0 out.length 1,iv (i:Int),.v (.int .u32 (x:Int)),.v (.int .u64 (c:Int)),eN a,iv (a.length:Int),iv (i:Int),eN b,iv (b.length:Int),iv (k:Int)] [θ (Ah eL out) Δ Δ]
   = Θ (.tup [iv 2,eN b,.sl 1 0 out.length 1,iv (i:Int),.v (.int .u64 (c':Int)),eN a,iv (a.length:Int),iv (i:Int)],[.del,.set (θ (Ah eL o) Δ Δ)])
   ∧ c'<4294967296/\Limbs o/\o.length=out.length/\o.set (i+b.length) c'=out.take (i+k)++OT x c (b.drop k) (out.drop (i+k)):=by
 intro m
 induction m with
 |zero=>
  intro k out c hm hk ho hc hlen;obtain rfl:k=b.length:=by omega
  refine⟨out,c,?_,hc,ho,rfl,?_⟩
  .refine Au K MJ (Abv ..) ?_
   refine Ag ?_;rfl
  .rw[AsY,OT,Ato,if_pos (by omega),AsI]
 |succ m ih=>
  intro k out c hm hk ho hc hlen;have hlt:k<b.length:=by omega
  have hik:i+k<out.length:=by omega
  have hy:=hb.get hlt;have hz:=ho.get hik;have hp:=JL hx hy;have hd:(out.drop (i+k)).headD 0=out[i+k]:=by rw[κ hik];rfl
  obtain⟨o,c',h1,h2,h3,h4,h5⟩:=ih (k+1) (out.set (i+k) ((x*b[k]+out[i+k]+c) % 4294967296)) ((x*b[k]+out[i+k]+c) / 4294967296) (by omega) (by omega)
   (λz hz'=>by
    rcases AtQ hz' with h|h
    .exact ho z h
    .rw[h];exact ArF _ (by omega)) (by omega) (by rw[Are];exact hlen)
  rw[Are]at h1 h4;refine⟨o,c',?_,h2,h3,h4,?_⟩
  .refine Au K MJ (Abv ..) ?_
   refine Aj ?_;rw[Av,At (ξ hlt)];simp only[eL,Fu,ND,DK,Ab];rw[AaN (by omega),Av,BK hik];refine Ac ?_;refine(In out _ hik _).trans ?_;simp only[Fu,ND,DK,Ab];rw[Av,BK hik];refine Ac ?_;rw[show AqZ (0+(i+k)*1+1) (Ah eL out).length=Δ by rw[AT AD];simp;omega];refine Ac ?_;refine Ag ?_ (by decide);rw[Bo (show x<_ by omega),Bo (show b[k]<_ by omega),Bo (show out[i+k]<_ by omega),KV (by omega),Cc (by omega),Cc (by omega),C1,EW,C7 _ _ _ hik,BA (by omega)];refine Aa h1 ?_;rfl
  .rw[h5,κ hlt,OT,hd]
   have e1:ε (i+(k+1)) (out.set (i+k) ((x*b[k]+out[i+k]+c) % 4294967296))=out.take (i+k)++[(x*b[k]+out[i+k]+c) % 4294967296]:=by
    rw[show i+(k+1)=i+k+1 by omega,Arw (by rw[Are];exact hik),Atv,Auf (π _)]
   have e2:AqT (i+(k+1)) (out.set (i+k) ((x*b[k]+out[i+k]+c) % 4294967296))=(out.drop (i+k)).tail:=by
    rw[Ar3 (by omega),AsI];rfl
   rw[e1,e2,AqY];rfl
theorem ZX(a b:List Nat)(ha:Limbs a)(hb:Limbs b)(hsz:a.length+b.length<=1000000000):∀(m i:Nat) (out:List Nat),a.length-i=m->i<=a.length->Limbs out->out.length=a.length+b.length->Hu (i+b.length) out->
  ∃ o:List Nat,D.ask (.lp 143 0) [eN b,.sl 0 0 out.length 1,eN a,iv (a.length:Int),iv (i:Int)] [θ (Ah eL out) Δ Δ]=Θ (.tup [iv 0,.sl 1 0 o.length 1],[.del,.set (θ (Ah eL o) Δ Δ)])
   ∧ Limbs o/\o.length=out.length/\Ad o=Ad out+4294967296 ^ i*Ad (a.drop i)*Ad b:=by
 intro m
 induction m with
 |zero=>
  intro i out hm hi ho hlen hz;refine⟨out,?_,ho,rfl,?_⟩
  .refine Au K MJ (Abu ..) ?_
   refine Ag ?_;rfl
  .rw[show a.drop i=[] from AqX (by omega)]
   simp[Ad]
 |succ m ih=>
  intro i out hm hi ho hlen hz;have hlt:i<a.length:=by omega
  have hx:=ha.get hlt;obtain⟨o,c',g1,g2,g3,g4,g5⟩:=ZW K a b hb i hlt hsz a[i] hx b.length 0 out 0 (by omega) (by omega) ho (by omega) hlen;rw[ArG,AqQ]at g5;have hdl:(out.drop i).length=a.length+b.length-i:=by rw[Asr];omega
  have hlm:Limbs (o.set (i+b.length) c'):=by
   rw[g5];exact CN (ho.take i) (OU _ _ _ _ hx hb (ho.drop i) (by omega))
  have hhead:((out.drop i).drop b.length).headD 0=0:=by
   rw[AsX];exact AaA hz
  have hv:Ad (o.set (i+b.length) c')=Ad out+4294967296 ^ i*(a[i]*Ad b):=by
   rw[g5,BD,Rg _ _ _ _ hhead];have e:Ad out=Ad (out.take i)+4294967296 ^ i*Ad (out.drop i):=by
    have:=BD (out.take i) (out.drop i);rw[ArW,Aq9,ArH (by omega)]at this;exact this
   rw[e,Aq9,ArH (by omega),ArG,ArR];omega
  have hz2:Hu (i+1+b.length) (o.set (i+b.length) c'):=by
   unfold Hu;rw[g5,List.drop_append,AqX (by rw[Aq9];omega),Aq4,Aq9,ArH (by omega),show i+1+b.length-i=b.length+1 by omega,QM,AsX];intro y hy;exact hz y (by
    have:AqT (i+(b.length+1)) out=AqT 1 (AqT (i+b.length) out):=by rw[AsX];rfl
    rw[this]at hy;exact Asg hy)
  obtain⟨o2,k1,k2,k3,k4⟩:=ih (i+1) (o.set (i+b.length) c') (by omega) (by omega) hlm (by rw[Are,g4,hlen]) hz2;rw[Are,g4]at k1 k3;refine⟨o2,?_,k2,k3,?_⟩
  .refine Au K MJ (Abu ..) ?_
   refine Aj ?_;rw[Av,At (ξ hlt)];simp only[eL,Fu,Ak,ND,DK,Ab];refine Aa g1 ?_;simp only[eN,Fu,Ak,ND,DK,Ab];rw[AaN (by omega),Av,BK (by omega)];refine Ac ?_;rw[show AqZ (0+(i+b.length)*1+1) (Ah eL o).length=Δ by rw[AT AD];simp;omega];refine Ac ?_;rw[Bz g2,C7 _ _ _ (by omega),BA (by omega)];refine Aa k1 ?_;rfl
  .rw[k4,hv,κ hlt,Ad,ArP]
   have e1:4294967296 ^ i*(a[i]+4294967296*Ad (AqT (i+1) a))*Ad b=4294967296 ^ i*(a[i]*Ad b)+4294967296 ^ i*4294967296*Ad (AqT (i+1) a)*Ad b:=by
    rw[ArR,Art,Ark _ a[i],Ark (4294967296 ^ i) 4294967296]
   rw[e1];omega
variable (C:CloneF D)
include C
theorem ZY{a b:List Nat}(ha:Limbs a)(hb:Limbs b)(hsz:a.length+b.length<=1000000000):D.ask (.fn 143) [eN a,eN b] []=Θ (eN (Ai (Ad a*Ad b)),[]):=by
 obtain⟨o,k1,k2,k3,k4⟩:=ZX K a b ha hb hsz a.length 0 (AsH (a.length+b.length) 0) (by omega) (by omega) (λx hx=>by rw[(Aui.1 hx).2];omega) (by simp) (λy hy=>(Aui.1 (Asg hy)).2);rw[As7]at k1 k3;have hz:∀ n,Ad (AsH n 0)=0:=λn=>by
  induction n with
  |zero=>rfl
  |succ n ih=>rw[List.replicate_succ,Ad,ih]
 rw[hz,AqQ,Nat.pow_zero,Ar9,Ara]at k4;refine AB K MJ (AoR ..) ?_;rw[Ak,Ak,AaN (by omega)];simp only[Av];rw[show AqZ (a.length+b.length) (a.length+b.length)=Δ by simp,AG (n:=a.length+b.length) (b:=4) (by omega) (by omega),IB];refine Ac ?_;refine Ac ?_;refine Aa k1 ?_;simp only[ND,DK,Ab];rw[AF AD _ (by omega)];refine Ac ?_;rw[Bp AD _ rfl];have gt:=Fy K C (l:=o) (by unfold BL;omega) k2;rw[k4]at gt;refine Aa gt ?_;rfl
theorem AiF{a b:List Nat}(hsa:a.length<=400000000)(ha:Limbs a)(hsb:b.length<=400000000)(hb:Limbs b)(h24:a.length<24\/b.length<24):D.ask (.fn 137) [eN a,eN b] []=Θ (eN (Ai (Ad a*Ad b)),[]):=by
 have t1:(Ai (Ad a)).length<=a.length:=by rw[CO a ha];exact Ch a
 have t2:(Ai (Ad b)).length<=b.length:=by rw[CO b hb];exact Ch b
 refine AB K AhM (AoN ..) ?_;refine Aa (E3 K (by unfold BL;omega) ha) ?_;simp only[eN,ND,DK,Ab];refine Aa (E3 K (by unfold BL;omega) hb) ?_;simp only[eN,ND,DK,Ab,Ak];have g:=ZY K C (Am (Ad a)) (Am (Ad b)) (by omega);rw[Az,Az]at g
 by_cases h1:(Ai (Ad a)).length<24
 .refine Aj ?_
  refine Aa g ?_;rfl
 .refine Ag ?_
  refine Aj ?_;refine Aa g ?_;rfl
end
section
open Go.RowKit
def DA:List (Nat × Nat):=[(133,0),(134,0),(135,0)]
def Se:MFn:=BI [⟨21,(mB 9),[],[],[(1,((mB 9),([],[])))]⟩] 108
def Ov:Hnt:=⟨[],[(0,[(1,([.ls,.int .i64],[]))])],[(12,[.int .u32]),(13,[.int .u32])]⟩
def AcJ:MFn:=PN Aq1 BP [] Δ false 109
def AbT:Hnt:=⟨[(108,(.ls,[])),(130,(.sl 0 1,[.row Δ]))],[],[]⟩
def AcK:MFn:=BI [] 111
def AbU:Hnt:=⟨[(109,(.sl 0 1,[.row Δ]))],[],[]⟩
def X3:MFn:=BI [⟨49,(mB 35),[],[],[(0,((mB 16),([],[]))),(2,([],([],[])))]⟩] 78
def T7:Hnt:=⟨[(108,(.ls,[]))],[(0,[(0,([.int .i64],[])),(2,([],[]))])],[(32,[.int .u32]),(33,[.int .u32]),(36,[.int .u32]),(37,[.int .u32]),(42,[.int .u32]),(43,[.int .u32]),(46,[.int .u32]),(47,[.int .u32])]⟩
def Sf:MFn:=BI [⟨44,(mB 451),[],[],[(1,((mB 192),([],[])))]⟩] 110
def Ow:Hnt:=⟨[(109,(.sl 0 1,[.row Δ]))],[(0,[(1,([.sl 1 1,.int .u64],[.del,.row Δ]))])],[(24,[.int .u32]),(25,[.int .u32]),(35,[.int .u32])]⟩
def Sj:MFn:=BI [⟨67,(mB 931),[],[],[(1,((mB 256),([],[])))]⟩] 133
def RY:Hnt:=⟨[],[(0,[(1,([.int .u64],[.keep]))])],[(14,[.int .u32]),(15,[.int .u32]),(21,[.int .u32]),(22,[.int .u32]),(28,[.int .u32]),(29,[.int .u32]),(44,[.int .u32]),(45,[.int .u32]),(53,[.int .u32]),(54,[.int .u32])]⟩
def Sk:MFn:=BI [⟨74,(mB 917895),[],[],[(1,((mB 387),([],[1000000])))]⟩] 134
def LM:Hnt:=⟨[],[(0,[(1,([.slo 0 1,.ls,.int .u64,.int .u64],[.row Δ]))])],[(22,[.int .u32]),(23,[.int .u32]),(38,[.int .u32]),(39,[.int .u32]),(52,[.int .u32]),(61,[.int .u32]),(62,[.int .u32]),(70,[.int .u32])]⟩
def Sl:MFn:=BI [⟨42,(mB 1811),[],[],[(1,((mB 19),([],[1000000])))]⟩] 135
def Oz:Hnt:=⟨[],[(0,[(1,([.slo 0 1,.ls,.int .u64],[.row Δ]))])],[(13,[.int .u32]),(14,[.int .u32]),(17,[.int .u32]),(18,[.int .u32]),(29,[.int .u32]),(36,[.int .u32]),(37,[.int .u32]),(41,[.int .u32])]⟩
def Si:MFn:=PN Aq1 BP [⟨58,(mB 30064771968),[(8,1)],[],[(2,((mB 768),([],[])))]⟩] Δ false 132
def Oy:Hnt:=⟨[(108,(.ls,[])),(109,(.sl 0 1,[.row Δ]))],[(0,[(2,([.sl 1 1,.int .u64],[.del,.row Δ]))])],[(36,[.int .u32]),(37,[.int .u32])]⟩
def Sm:MFn:=BI [⟨61,(mB 449),[(7,1)],[],[(1,((mB 128),([],[])))]⟩] 136
def OA:Hnt:=⟨[(108,(.ls,[])),(109,(.sl 0 1,[.row Δ]))],[(0,[(1,([.sl 1 1],[.del,.row Δ]))])],[(42,[.int .u32]),(43,[.int .u32]),(50,[.int .u32]),(51,[.int .u32])]⟩
def Sg:MFn:=BI [⟨96,(mB 14544),[],[7],[(1,((mB 6224),([],[])))]⟩] 112
def LL:Hnt:=⟨[(109,(.sl 0 1,[.row Δ])),(131,(.int .i64,[])),(132,(.tup [.sl 0 1,.int .i64],[.row Δ])),(133,(.int .u64,[.keep])),(134,(.bool,[.row Δ])),(135,(.tup [],[.row Δ])),(136,(.ls,[]))],[(0,[(1,([.sl 2 1,.int .i64,.sl 3 1,.int .i64],[.del,.del,.row Δ,.row Δ]))])],[(19,[.int .u32]),(20,[.int .u32]),(88,[.int .u32])]⟩
def Aie:MFn:=BI [] 70
def AhQ:Hnt:=⟨[(78,(.int .i64,[])),(108,(.ls,[])),(109,(.sl 0 1,[.row Δ])),(110,(.tup [.ls,.int .u32],[])),(111,(.ls,[])),(112,(.tup [.ls,.ls],[]))],[],[(31,[.int .u32]),(32,[.int .u32])]⟩
def Ajw:MFn:=BI [⟨25,[Δ,Δ],[],[],[(1,([Δ],([],[])))]⟩] 113
def AcL:MFn:=BI [] 131
def AbV:Hnt:=⟨[(87,(.int .i64,[]))],[],[]⟩
def Aif:MFn:=BI [] 87
def T8:Hnt:=⟨[],[],[]⟩
def Jk:List (Nat × MFn):=[(108,Se),(109,AcJ),(111,AcK),(78,X3),(110,Sf),(133,Sj),(134,Sk),(135,Sl),(132,Si),(136,Sm),(112,Sg),(70,Aie),(113,Ajw),(131,AcL),(87,Aif)]
variable (A:Ar) (D:Orc)
theorem AkU(x0:Rw):BN A D DA Ov .n 108 Se [Ψ x0] [] =
 Ae D (ι 108 0) [Ψ x0,iv ↑(AL x0)] [] [.t,.C,.x,.X,.Y] λc l o=>
 br (Bm 1 c)
 (dk [.L,.I,.N,.E] [.l l,.o o] λxs n=>
 unI n λi=>
 br (KA 0 i (AL xs)) (br (GF 1 xs) (Θ ((Ψ (Jc (Jn xs i) 0),[]))) Ξ) Ξ)
 (Ξ):=by kernel_rfl
theorem Xl(t0:Rw)(t3:Int):CS A D DA Ov .n 108 0 (AJ Se 0).fst (AJ Se 0).snd [Ψ t0,iv t3] [] =
 br (A.lt 0 t3)
 (unI (A.sub δ t3 1) λi=>
 Bj t0 i λcs=>
 dk [.J .u32,.N] [.l cs] λn=>
 br (A.eq n 0)
 (AA D (ι 108 0) [Ψ t0,iv (A.sub δ t3 1)] [] λr o=>
 As 0 [] (AH.mk [] 0 Ξ) [] r o)
 (Θ ((γ [iv 0,Ψ t0,iv t3],[]))))
 (Θ ((γ [iv 0,Ψ t0,iv t3],[]))):=by kernel_rfl
theorem AkV(x0:Rw):BN A D DA AbT .n 109 AcJ [Ψ x0] [] =
 Ae D (ω 108) [Ψ x0] [] [.l,.E] λxs=>
 Ae D (ω 130) [Ψ xs] [] [.q 0 1,.R,.X,.E] λn cs=>
 Θ ((χ 0 0 n 1,[AqV (θ cs Δ Δ)])):=by kernel_rfl
theorem AkX(x0:Int):BN A D DA AbU .n 111 AcK [Aq0 (Value.int Ω x0)] [] =
 br (A.lt 32 0)
 (Ξ)
 (Ae D (ω 109) [Ψ [[Aq0 (Value.int ζ (A.conv ζ x0))],[Aq0 (Value.int ζ (A.conv ζ (A.shr Ω x0 32)))]]] [] [.q 0 1,.R,.X,.E] λn cs=>
 br ((0+n*1).ble cs.length) (Θ ((Ψ (Bi n 1 (ε (n*1) cs)),[]))) Ξ):=by kernel_rfl
theorem AoZ(x0 x1:Rw):BN A D DA T7 .n 78 X3 [Ψ x0,Ψ x1] [] =
 Ae D (ω 108) [Ψ x0] [] [.l,.E] λxs=>
 Ae D (ω 108) [Ψ x1] [] [.l,.E] λxs1=>
 br (A.lt ↑(AL xs) ↑(AL xs1))
 (Θ ((iv (-1),[])))
 (br (A.lt ↑(AL xs1) ↑(AL xs))
 (Θ ((iv 1,[])))
 (Ae D (ι 78 0) [Ψ xs,Ψ xs1,iv (A.sub δ (↑(AL xs)) 1)] [] [.t,.C,.x,.X,.Y] λc l o2=>
 br (Bm 0 c)
 (dk [.I,.N,.E] [.l l,.o o2] λn=>
 Θ ((iv n,[])))
 (br (Bm 2 c)
 (Ft l<|
 DI o2<|
 Θ ((iv 0,[])))
 (Ξ)))):=by kernel_rfl
theorem AbA(t0 t1:Rw)(t5:Int):CS A D DA T7 .n 78 0 (AJ X3 0).fst (AJ X3 0).snd [Ψ t0,Ψ t1,iv t5] [] =
 br (A.le 0 t5)
 (unI t5 λi=>
 Bj t0 i λcs=>
 dk [.J .u32,.N] [.l cs] λn=>
 unI t5 λi1=>
 Bj t1 i1 λcs1=>
 dk [.J .u32,.N] [.l cs1] λn1=>
 br (A.lt n n1)
 (Θ ((γ [bv Δ,iv (-1)],[])))
 (unI t5 λi2=>
 Bj t0 i2 λcs2=>
 dk [.J .u32,.N] [.l cs2] λn2=>
 unI t5 λi3=>
 Bj t1 i3 λcs3=>
 dk [.J .u32,.N] [.l cs3] λn3=>
 br (A.lt n3 n2)
 (Θ ((γ [bv Δ,iv 1],[])))
 (AA D (ι 78 0) [Ψ t0,Ψ t1,iv (A.sub δ t5 1)] [] λr o=>
 As 0 [] (AH.mk [] 0 Ξ) [] r o)))
 (Θ ((γ [iv 1],[]))):=by kernel_rfl
theorem AkW(x0:Rw)(x1:Int):BN A D DA Ow .n 110 Sf [Ψ x0,Aq0 (Value.int ζ x1)] [] =
 br ((AL x0).ble (AL x0)) (br (AZ (AL x0) 4) (AA D (ι 110 0) [Ψ x0,Aq0 (Value.int ζ x1),χ 0 0 (AL x0) 1,Aq0 (Value.int Ω 0),iv (A.sub δ (↑(AL x0)) 1)] [θ (BW [Aq0 (Value.int ζ 0)] (AL x0*1)) Δ Δ] λr o=>
 dk [.t,.C,.x,.X] [.v r] λc l=>
 br (Bm 1 c)
 (dk [.C,.q 1 1,.J .u64,.N,.D,.R,.X,.E] [.l l,.o o] λn n1 cs1=>
 br ((0+n*1).ble cs1.length) (AA D (ω 109) [Ψ (Bi n 1 (ε (n*1) cs1))] [] λr1 o1=>
 dk [.q 0 1,.R,.X,.E] [.v r1,.o o1] λn2 cs2=>
 br ((0+n2*1).ble cs2.length) (Θ ((γ [Ψ (Bi n2 1 (ε (n2*1) cs2)),Aq0 (Value.int ζ (A.conv ζ n1))],[]))) Ξ) Ξ)
 (Ξ)) Ξ) Ξ:=by kernel_rfl
theorem Xm(t0:Rw)(t1:Int)(n6:Nat)(c6:List AV)(t7 t8:Int):CS A D DA Ow (.b (.b (.b .n (.b .n (.f .n))) .n) .n) 110 0 (AJ Sf 0).fst (AJ Sf 0).snd [Ψ t0,Aq0 (Value.int ζ t1),χ 0 0 n6 1,Aq0 (Value.int Ω t7),iv t8] [{ cells:=c6,st:=Δ,ex:=Δ }] =
 br (A.le 0 t8)
 (br (A.lt 32 0)
 (Ξ)
 (unI t8 λi=>
 Bj t0 i λcs=>
 dk [.J .u32,.N] [.l cs] λn=>
 br (A.eq (A.conv Ω t1) 0)
 (Ξ)
 (unI t8 λi1=>
 br (i1.blt n6) (br ((0+i1*1+1).ble c6.length) (br (A.eq (A.conv Ω t1) 0) Ξ (AA D (ι 110 0) [Ψ t0,Aq0 (Value.int ζ t1),χ 0 0 n6 1,Aq0 (Value.int Ω (A.rem Ω (A.bits BinOp.or Ω (A.shl Ω t7 32) (A.conv Ω n)) (A.conv Ω t1))),iv (A.sub δ t8 1)] [θ (AI c6 (0+i1*1) [Aq0 (Value.int ζ (A.conv ζ (A.quo Ω (A.bits BinOp.or Ω (A.shl Ω t7 32) (A.conv Ω n)) (A.conv Ω t1))))]) Δ Δ] λr o=>
 As 1 [0] (AH.mk [(0,θ (AI c6 (0+i1*1) [Aq0 (Value.int ζ (A.conv ζ (A.quo Ω (A.bits BinOp.or Ω (A.shl Ω t7 32) (A.conv Ω n)) (A.conv Ω t1))))]) Δ Δ)] 1 Ξ) [0] r o)) Ξ) Ξ)))
 (Θ ((γ [iv 0,χ 1 0 n6 1,Aq0 (Value.int Ω t7)],[BO.del,AqV (θ c6 Δ Δ)]))):=by kernel_rfl
theorem Ak3(o0 n0:Nat)(c0:List AV)(x1:Rw):BN A D DA RY (.b .n (.b .n (.f .n))) 133 Sj [χ 0 o0 n0 1,Ψ x1] [{ cells:=c0,st:=Δ,ex:=Δ }] =
 br ((AL x1).blt n0) (EX c0 (o0+AL x1*1) 1 λcs=>
 dk [.J .u32,.N] [.l cs] λn=>
 br (A.lt 32 0)
 (Ξ)
 (unI (A.sub δ (↑(AL x1)) 1) λi=>
 br (i.blt n0) (EX c0 (o0+i*1) 1 λcs1=>
 dk [.J .u32,.N] [.l cs1] λn1=>
 unI (A.sub δ (↑(AL x1)) 1) λi1=>
 Bj x1 i1 λcs2=>
 dk [.J .u32,.N] [.l cs2] λn2=>
 br (A.eq (A.conv Ω n2) 0)
 (Ξ)
 (br (A.eq (A.conv Ω n2) 0) Ξ (AA D (ι 133 0) [χ 0 o0 n0 1,Ψ x1,iv ↑(AL x1),Aq0 (Value.int Ω (A.conv Ω n2)),Aq0 (Value.int Ω (A.quo Ω (A.bits BinOp.or Ω (A.shl Ω (A.conv Ω n) 32) (A.conv Ω n1)) (A.conv Ω n2))),Aq0 (Value.int Ω (A.rem Ω (A.bits BinOp.or Ω (A.shl Ω (A.conv Ω n) 32) (A.conv Ω n1)) (A.conv Ω n2)))] [θ c0 Δ Δ] λr o=>
 dk [.t,.C,.x,.X] [.v r] λc l3=>
 br (Bm 1 c)
 (dk [.J .u64,.N,.K,.E] [.l l3,.o o] λn3=>
 Θ ((Aq0 (Value.int Ω n3),[BO.keep])))
 (Ξ)))) Ξ)) Ξ:=by kernel_rfl
theorem AeR(o0 n0:Nat)(c0:List AV)(t1:Rw)(t5 t7 t8 t9:Int):CS A D DA RY .n 133 0 (AJ Sj 0).fst (AJ Sj 0).snd [χ 0 o0 n0 1,Ψ t1,iv t5,Aq0 (Value.int Ω t7),Aq0 (Value.int Ω t8),Aq0 (Value.int Ω t9)] [{ cells:=c0,st:=Δ,ex:=Δ }] =
 br (A.le 4294967296 t8)
 (br (A.le 4294967296 (A.add Ω t9 t7))
 (Θ ((γ [iv 0,Aq0 (Value.int Ω (A.sub Ω t8 1))],[BO.keep])))
 (AA D (ι 133 0) [χ 0 o0 n0 1,Ψ t1,iv t5,Aq0 (Value.int Ω t7),Aq0 (Value.int Ω (A.sub Ω t8 1)),Aq0 (Value.int Ω (A.add Ω t9 t7))] [θ c0 Δ Δ] λr o=>
 As 1 [0] (AH.mk [(0,θ c0 Δ Δ)] 1 Ξ) [] r o))
 (unI (A.sub δ t5 2) λi=>
 Bj t1 i λcs=>
 dk [.J .u32,.N] [.l cs] λn=>
 br (A.lt 32 0)
 (Ξ)
 (unI (A.sub δ t5 2) λi1=>
 br (i1.blt n0) (EX c0 (o0+i1*1) 1 λcs1=>
 dk [.J .u32,.N] [.l cs1] λn1=>
 br (A.lt (A.bits BinOp.or Ω (A.shl Ω t9 32) (A.conv Ω n1)) (A.mul Ω t8 (A.conv Ω n)))
 (br (A.le 4294967296 (A.add Ω t9 t7))
 (Θ ((γ [iv 0,Aq0 (Value.int Ω (A.sub Ω t8 1))],[BO.keep])))
 (AA D (ι 133 0) [χ 0 o0 n0 1,Ψ t1,iv t5,Aq0 (Value.int Ω t7),Aq0 (Value.int Ω (A.sub Ω t8 1)),Aq0 (Value.int Ω (A.add Ω t9 t7))] [θ c0 Δ Δ] λr o=>
 As 1 [0] (AH.mk [(0,θ c0 Δ Δ)] 1 Ξ) [] r o))
 (Θ ((γ [iv 0,Aq0 (Value.int Ω t8)],[BO.keep])))) Ξ)):=by kernel_rfl
theorem Ak4(o0 n0:Nat)(c0:List AV)(x1:Rw)(x2:Int):BN A D DA LM .n 134 Sk [χ 0 o0 n0 1,Ψ x1,Aq0 (Value.int Ω x2)] [{ cells:=c0,st:=Δ,ex:=Δ }] =
 Ae D (ι 134 0) [χ 0 o0 n0 1,Ψ x1,Aq0 (Value.int Ω x2),Aq0 (Value.int Ω 0),Aq0 (Value.int Ω 0),Ψ x1,iv ↑(AL x1),iv 0] [θ c0 Δ Δ] [.t,.C,.x,.X,.Y] λc l o=>
 br (Bm 1 c)
 (Ef l λc1 l1=>
 Rc 0 1 c1 λo1 n=>
 dk [.L,.J .u64,.J .u64,.N,.R,.X,.E] [.l l1,.o o] λxs n1 n2 cs1=>
 br ((AL xs).blt n) (EX cs1 (o1+AL xs*1) 1 λcs2=>
 dk [.J .u32,.N] [.l cs2] λn3=>
 br ((AL xs).blt n) (br ((o1+AL xs*1+1).ble cs1.length) (br (A.lt (A.conv Ω n3) (A.add Ω n1 n2))
 (Θ ((bv Δ,[AqV (θ (AI cs1 (o1+AL xs*1) [Aq0 (Value.int ζ (A.conv ζ (A.sub Ω (A.conv Ω n3) (A.add Ω n1 n2))))]) Δ Δ)])))
 (Θ ((bv false,[AqV (θ (AI cs1 (o1+AL xs*1) [Aq0 (Value.int ζ (A.conv ζ (A.sub Ω (A.conv Ω n3) (A.add Ω n1 n2))))]) Δ Δ)])))) Ξ) Ξ) Ξ)
 (Ξ):=by kernel_rfl
theorem RP(o0 n0:Nat)(c0:List AV)(t1 t17:Rw)(t2 t7 t8 t18 t19:Int):CS A D DA LM .n 134 0 (AJ Sk 0).fst (AJ Sk 0).snd [χ 0 o0 n0 1,Ψ t1,Aq0 (Value.int Ω t2),Aq0 (Value.int Ω t7),Aq0 (Value.int Ω t8),Ψ t17,iv t18,iv t19] [{ cells:=c0,st:=Δ,ex:=Δ }] =
 br (A.lt t19 t18)
 (unI t19 λi=>
 Bj t17 i λcs=>
 dk [.J .u32,.N] [.l cs] λn=>
 br (A.lt 32 0)
 (Ξ)
 (unI t19 λi1=>
 br (i1.blt n0) (EX c0 (o0+i1*1) 1 λcs1=>
 dk [.J .u32,.N] [.l cs1] λn1=>
 br (A.lt (A.conv Ω n1) (A.add Ω (A.bits BinOp.and Ω (A.add Ω (A.mul Ω t2 (A.conv Ω n)) t7) 4294967295) t8))
 (unI t19 λi2=>
 br (i2.blt n0) (br ((o0+i2*1+1).ble c0.length) (AA D (ι 134 0) [χ 0 o0 n0 1,Ψ t1,Aq0 (Value.int Ω t2),Aq0 (Value.int Ω (A.shr Ω (A.add Ω (A.mul Ω t2 (A.conv Ω n)) t7) 32)),Aq0 (Value.int Ω 1),Ψ t17,iv t18,iv (A.add δ t19 1)] [θ (AI c0 (o0+i2*1) [Aq0 (Value.int ζ (A.conv ζ (A.sub Ω (A.add Ω (A.conv Ω n1) 4294967296) (A.add Ω (A.bits BinOp.and Ω (A.add Ω (A.mul Ω t2 (A.conv Ω n)) t7) 4294967295) t8))))]) Δ Δ] λr o=>
 As 1 [0] (AH.mk [(0,θ (AI c0 (o0+i2*1) [Aq0 (Value.int ζ (A.conv ζ (A.sub Ω (A.add Ω (A.conv Ω n1) 4294967296) (A.add Ω (A.bits BinOp.and Ω (A.add Ω (A.mul Ω t2 (A.conv Ω n)) t7) 4294967295) t8))))]) Δ Δ)] 1 Ξ) [0] r o) Ξ) Ξ)
 (unI t19 λi2=>
 br (i2.blt n0) (br ((o0+i2*1+1).ble c0.length) (AA D (ι 134 0) [χ 0 o0 n0 1,Ψ t1,Aq0 (Value.int Ω t2),Aq0 (Value.int Ω (A.shr Ω (A.add Ω (A.mul Ω t2 (A.conv Ω n)) t7) 32)),Aq0 (Value.int Ω 0),Ψ t17,iv t18,iv (A.add δ t19 1)] [θ (AI c0 (o0+i2*1) [Aq0 (Value.int ζ (A.conv ζ (A.sub Ω (A.conv Ω n1) (A.add Ω (A.bits BinOp.and Ω (A.add Ω (A.mul Ω t2 (A.conv Ω n)) t7) 4294967295) t8))))]) Δ Δ] λr o=>
 As 1 [0] (AH.mk [(0,θ (AI c0 (o0+i2*1) [Aq0 (Value.int ζ (A.conv ζ (A.sub Ω (A.conv Ω n1) (A.add Ω (A.bits BinOp.and Ω (A.add Ω (A.mul Ω t2 (A.conv Ω n)) t7) 4294967295) t8))))]) Δ Δ)] 1 Ξ) [0] r o) Ξ) Ξ)) Ξ))
 (Θ ((γ [iv 0,χ 0 o0 n0 1,Ψ t1,Aq0 (Value.int Ω t7),Aq0 (Value.int Ω t8)],[AqV (θ c0 Δ Δ)]))):=by kernel_rfl
theorem Ak5(o0 n0:Nat)(c0:List AV)(x1:Rw):BN A D DA Oz .n 135 Sl [χ 0 o0 n0 1,Ψ x1] [{ cells:=c0,st:=Δ,ex:=Δ }] =
 Ae D (ι 135 0) [χ 0 o0 n0 1,Ψ x1,Aq0 (Value.int Ω 0),Ψ x1,iv ↑(AL x1),iv 0] [θ c0 Δ Δ] [.t,.C,.x,.X,.Y] λc l o=>
 br (Bm 1 c)
 (Ef l λc1 l1=>
 Rc 0 1 c1 λo1 n=>
 dk [.L,.J .u64,.N,.R,.X,.E] [.l l1,.o o] λxs n1 cs1=>
 br ((AL xs).blt n) (EX cs1 (o1+AL xs*1) 1 λcs2=>
 dk [.J .u32,.N] [.l cs2] λn2=>
 br ((AL xs).blt n) (br ((o1+AL xs*1+1).ble cs1.length) (Θ ((γ [],[AqV (θ (AI cs1 (o1+AL xs*1) [Aq0 (Value.int ζ (A.add ζ n2 (A.conv ζ n1)))]) Δ Δ)]))) Ξ) Ξ) Ξ)
 (Ξ):=by kernel_rfl
theorem Xo(o0 n0:Nat)(c0:List AV)(t1 t8:Rw)(t4 t9 t10:Int):CS A D DA Oz .n 135 0 (AJ Sl 0).fst (AJ Sl 0).snd [χ 0 o0 n0 1,Ψ t1,Aq0 (Value.int Ω t4),Ψ t8,iv t9,iv t10] [{ cells:=c0,st:=Δ,ex:=Δ }] =
 br (A.lt t10 t9)
 (unI t10 λi=>
 Bj t8 i λcs=>
 dk [.J .u32,.N] [.l cs] λn=>
 unI t10 λi1=>
 br (i1.blt n0) (EX c0 (o0+i1*1) 1 λcs1=>
 dk [.J .u32,.N] [.l cs1] λn1=>
 unI t10 λi2=>
 br (i2.blt n0) (br ((o0+i2*1+1).ble c0.length) (br (A.lt 32 0)
 (Ξ)
 (AA D (ι 135 0) [χ 0 o0 n0 1,Ψ t1,Aq0 (Value.int Ω (A.shr Ω (A.add Ω (A.add Ω (A.conv Ω n1) (A.conv Ω n)) t4) 32)),Ψ t8,iv t9,iv (A.add δ t10 1)] [θ (AI c0 (o0+i2*1) [Aq0 (Value.int ζ (A.conv ζ (A.add Ω (A.add Ω (A.conv Ω n1) (A.conv Ω n)) t4)))]) Δ Δ] λr o=>
 As 1 [0] (AH.mk [(0,θ (AI c0 (o0+i2*1) [Aq0 (Value.int ζ (A.conv ζ (A.add Ω (A.add Ω (A.conv Ω n1) (A.conv Ω n)) t4)))]) Δ Δ)] 1 Ξ) [0] r o)) Ξ) Ξ) Ξ)
 (Θ ((γ [iv 0,χ 0 o0 n0 1,Ψ t1,Aq0 (Value.int Ω t4)],[AqV (θ c0 Δ Δ)]))):=by kernel_rfl
theorem Ak2(x0:Rw)(x1:Int):BN A D DA Oy (.b .n (.b .n (.b .n (.b .n (.b .n (.f .n)))))) 132 Si [Ψ x0,iv x1] [] =
 br (A.lt x1 0)
 (Θ ((γ [Aq0 (Value.slice Ξ 0 0),iv 1],[])))
 (br (A.lt 1048576 x1)
 (Θ ((γ [Aq0 (Value.slice Ξ 0 0),iv 2],[])))
 (Ae D (ω 108) [Ψ x0] [] [.l,.E] λxs=>
 br (A.eq 32 0)
 (Ξ)
 (br (A.eq 32 0) Ξ (unI (A.quo δ x1 32) λi=>
 unI (A.add δ (A.add δ (A.quo δ x1 32) ↑(AL xs)) 1) λi1=>
 br (i.ble i1) (br (AZ i1 4) (AA D (ι 132 0) [iv (A.rem δ x1 32),χ 0 0 i 1,Aq0 (Value.int Ω 0),Ψ xs,iv ↑(AL xs),iv 0] [θ (BW [Aq0 (Value.int ζ 0)] (i*1)) Δ Δ] λr1 o1=>
 dk [.t,.C,.x,.X] [.v r1] λc l=>
 br (Bm 2 c)
 (dk [.C,.q 1 1,.J .u64,.N,.D,.R,.X,.E] [.l l,.o o1] λn n1 cs1=>
 br (AZ (n+1) 4) (br ((0+n*1).ble cs1.length) (br ((0+(n+1)*1).ble (AqT 0 (ε (0+n*1) cs1)++[Aq0 (Value.int ζ (A.conv ζ n1))]).length) (AA D (ω 109) [Ψ (Bi (n+1) 1 (ε ((n+1)*1) (AqT 0 (AqT 0 (ε (0+n*1) cs1)++[Aq0 (Value.int ζ (A.conv ζ n1))]))))] [] λr2 o2=>
 dk [.q 0 1,.R,.X,.E] [.v r2,.o o2] λn2 cs2=>
 Θ ((γ [χ 0 0 n2 1,iv 0],[AqV (θ cs2 Δ Δ)]))) Ξ) Ξ) Ξ)
 (Ξ)) Ξ) Ξ)))):=by kernel_rfl
theorem Xn(t7:Int)(n8:Nat)(c8:List AV)(t9:Int)(t32:Rw)(t33 t34:Int):CS A D DA Oy .n 132 0 (AJ Si 0).fst (AJ Si 0).snd [iv t7,χ 0 0 n8 1,Aq0 (Value.int Ω t9),Ψ t32,iv t33,iv t34] [{ cells:=c8,st:=Δ,ex:=Δ }] =
 br (A.lt t34 t33)
 (unI t34 λi=>
 Bj t32 i λcs=>
 dk [.J .u32,.N] [.l cs] λn=>
 br (A.lt t7 0)
 (Ξ)
 (br (AZ (n8+1) 4) (br ((0+n8*1).ble c8.length) (br (A.lt 32 0)
 (Ξ)
 (AA D (ι 132 0) [iv t7,χ 0 0 (n8+1) 1,Aq0 (Value.int Ω (A.shr Ω (A.bits BinOp.or Ω (A.shl Ω (A.conv Ω n) t7) t9) 32)),Ψ t32,iv t33,iv (A.add δ t34 1)] [θ (AqT 0 (ε (0+n8*1) c8)++[Aq0 (Value.int ζ (A.conv ζ (A.bits BinOp.or Ω (A.shl Ω (A.conv Ω n) t7) t9)))]) Δ Δ] λr o=>
 As 1 [2] (AH.mk [(2,θ (AqT 0 (ε (0+n8*1) c8)++[Aq0 (Value.int ζ (A.conv ζ (A.bits BinOp.or Ω (A.shl Ω (A.conv Ω n) t7) t9)))]) Δ Δ),(1,θ [Aq0 (Value.int ζ (A.conv ζ (A.bits BinOp.or Ω (A.shl Ω (A.conv Ω n) t7) t9)))] Δ Δ)] 3 Ξ) [0] r o)) Ξ) Ξ))
 (Θ ((γ [iv 1,χ 1 0 n8 1,Aq0 (Value.int Ω t9)],[BO.del,AqV (θ c8 Δ Δ)]))):=by kernel_rfl
theorem Ak6(x0:Rw)(x1:Int):BN A D DA OA (.b .n (.f .n)) 136 Sm [Ψ x0,iv x1] [] =
 Ae D (ω 108) [Ψ x0] [] [.l,.E] λxs=>
 br (A.eq 32 0)
 (Ξ)
 (br (A.eq 32 0) Ξ (br (A.le (↑(AL xs)) (A.quo δ (A.max x1 0) 32))
 (Θ ((Ψ [],[])))
 (unI (A.sub δ (↑(AL xs)) (A.quo δ (A.max x1 0) 32)) λi=>
 br (AZ i 4) (AA D (ι 136 0) [Ψ xs,iv (A.rem δ (A.max x1 0) 32),χ 0 0 0 1,iv (A.quo δ (A.max x1 0) 32)] [θ [] Δ Δ] λr1 o1=>
 dk [.t,.C,.x,.X] [.v r1] λc l=>
 br (Bm 1 c)
 (dk [.C,.q 1 1,.N,.D,.R,.X,.E] [.l l,.o o1] λn cs1=>
 br ((0+n*1).ble cs1.length) (AA D (ω 109) [Ψ (Bi n 1 (ε (n*1) cs1))] [] λr2 o2=>
 dk [.q 0 1,.R,.X,.E] [.v r2,.o o2] λn1 cs2=>
 br ((0+n1*1).ble cs2.length) (Θ ((Ψ (Bi n1 1 (ε (n1*1) cs2)),[]))) Ξ) Ξ)
 (Ξ)) Ξ))):=by kernel_rfl
theorem Xp(t0:Rw)(t6:Int)(n7:Nat)(c7:List AV)(t8:Int):CS A D DA OA .n 136 0 (AJ Sm 0).fst (AJ Sm 0).snd [Ψ t0,iv t6,χ 0 0 n7 1,iv t8] [{ cells:=c7,st:=Δ,ex:=Δ }] =
 br (A.lt t8 ↑(AL t0))
 (br (A.lt (A.add δ t8 1) ↑(AL t0))
 (unI (A.add δ t8 1) λi=>
 Bj t0 i λcs=>
 dk [.J .u32,.N] [.l cs] λn=>
 br (A.lt 32 0)
 (Ξ)
 (unI t8 λi1=>
 Bj t0 i1 λcs1=>
 dk [.J .u32,.N] [.l cs1] λn1=>
 br (A.lt t6 0)
 (Ξ)
 (br (AZ (n7+1) 4) (br ((0+n7*1).ble c7.length) (AA D (ι 136 0) [Ψ t0,iv t6,χ 0 0 (n7+1) 1,iv (A.add δ t8 1)] [θ (AqT 0 (ε (0+n7*1) c7)++[Aq0 (Value.int ζ (A.conv ζ (A.shr Ω (A.bits BinOp.or Ω (A.shl Ω (A.conv Ω n) 32) (A.conv Ω n1)) t6)))]) Δ Δ] λr o=>
 As 1 [2] (AH.mk [(2,θ (AqT 0 (ε (0+n7*1) c7)++[Aq0 (Value.int ζ (A.conv ζ (A.shr Ω (A.bits BinOp.or Ω (A.shl Ω (A.conv Ω n) 32) (A.conv Ω n1)) t6)))]) Δ Δ),(1,θ [Aq0 (Value.int ζ (A.conv ζ (A.shr Ω (A.bits BinOp.or Ω (A.shl Ω (A.conv Ω n) 32) (A.conv Ω n1)) t6)))] Δ Δ)] 3 Ξ) [0] r o) Ξ) Ξ)))
 (br (A.lt 32 0)
 (Ξ)
 (unI t8 λi=>
 Bj t0 i λcs=>
 dk [.J .u32,.N] [.l cs] λn=>
 br (A.lt t6 0)
 (Ξ)
 (br (AZ (n7+1) 4) (br ((0+n7*1).ble c7.length) (AA D (ι 136 0) [Ψ t0,iv t6,χ 0 0 (n7+1) 1,iv (A.add δ t8 1)] [θ (AqT 0 (ε (0+n7*1) c7)++[Aq0 (Value.int ζ (A.conv ζ (A.shr Ω (A.bits BinOp.or Ω (A.shl Ω 0 32) (A.conv Ω n)) t6)))]) Δ Δ] λr o=>
 As 1 [2] (AH.mk [(2,θ (AqT 0 (ε (0+n7*1) c7)++[Aq0 (Value.int ζ (A.conv ζ (A.shr Ω (A.bits BinOp.or Ω (A.shl Ω 0 32) (A.conv Ω n)) t6)))]) Δ Δ),(1,θ [Aq0 (Value.int ζ (A.conv ζ (A.shr Ω (A.bits BinOp.or Ω (A.shl Ω 0 32) (A.conv Ω n)) t6)))] Δ Δ)] 3 Ξ) [0] r o) Ξ) Ξ))))
 (Θ ((γ [iv 0,χ 1 0 n7 1],[BO.del,AqV (θ c7 Δ Δ)]))):=by kernel_rfl
theorem AkY(x0 x1:Rw):BN A D DA LL .n 112 Sg [Ψ x0,Ψ x1] [] =
 unI (A.sub δ (↑(AL x1)) 1) λi=>
 Bj x1 i λcs=>
 dk [.J .u32,.N] [.l cs] λn=>
 Ae D (ω 131) [Aq0 (Value.int ζ n)] [] [.i,.E] λn1=>
 Ae D (ω 132) [Ψ x1,iv n1] [] [.t,.C,.q 0 1,.I,.N,.R,.X,.E] λn2 _ cs2=>
 Ae D (ω 132) [Ψ x0,iv n1] [] [.t,.C,.q 0 1,.I,.N,.R,.X,.E] λn4 _ cs4=>
 unI (A.sub δ (A.add δ (↑(AL x0)) 1) ↑n4) λi1=>
 br (i1.ble 9223372036854775807) (br (i1.beq 0)
 (unI (A.sub δ ↑n4 ↑n2) λi2=>
 unI (A.sub δ ↑n4 ↑n2) λi3=>
 br (i2.ble i3) (br (AZ i3 4) (br ((0+n2*1).ble cs2.length) (AA D (ι 112 0) [χ 0 0 i2 1,iv n1,Ψ (Bi n2 1 (ε (n2*1) cs2)),χ 1 0 n4 1,iv ↑n2,iv (A.sub δ (A.sub δ ↑n4 ↑n2) 1)] [θ (BW [Aq0 (Value.int ζ 0)] (i2*1)) Δ Δ,θ cs4 Δ Δ] λr3 o3=>
 dk [.t,.C,.x,.X] [.v r3] λc4 l7=>
 br (Bm 1 c4)
 (dk [.C,.q 2 1,.I,.C,.q 3 1,.I,.N,.D,.D,.R,.X,.R,.X,.E] [.l l7,.o o3] λn6 n7 n8 n9 cs6 cs7=>
 br ((0+n6*1).ble cs6.length) (AA D (ω 109) [Ψ (Bi n6 1 (ε (n6*1) cs6))] [] λr4 o4=>
 dk [.q 0 1,.R,.X,.E] [.v r4,.o o4] λn10 cs8=>
 unI n9 λi4=>
 br (KA 0 i4 n8) (br ((0+i4*1).ble cs7.length) (AA D (ω 136) [Ψ (Bi i4 1 (ε (i4*1) cs7)),iv n7] [] λr5 o5=>
 dk [.l,.E] [.v r5,.o o5] λxs=>
 br ((0+n10*1).ble cs8.length) (Θ ((γ [Ψ (Bi n10 1 (ε (n10*1) cs8)),Ψ xs],[]))) Ξ) Ξ) Ξ) Ξ)
 (Ξ)) Ξ) Ξ) Ξ)
 (br (Ih (BW [Aq0 (Value.int ζ 0)] (i1*1))) (br (AZ (n4+i1) 4) (br ((0+n4*1).ble cs4.length) (unI (A.sub δ ↑(n4+i1) ↑n2) λi2=>
 unI (A.sub δ ↑(n4+i1) ↑n2) λi3=>
 br (i2.ble i3) (br (AZ i3 4) (br ((0+n2*1).ble cs2.length) (AA D (ι 112 0) [χ 0 0 i2 1,iv n1,Ψ (Bi n2 1 (ε (n2*1) cs2)),χ 1 0 (n4+i1) 1,iv ↑n2,iv (A.sub δ (A.sub δ ↑(n4+i1) ↑n2) 1)] [θ (BW [Aq0 (Value.int ζ 0)] (i2*1)) Δ Δ,θ (AqT 0 (ε (0+n4*1) cs4)++BW [Aq0 (Value.int ζ 0)] (i1*1)) Δ Δ] λr3 o3=>
 dk [.t,.C,.x,.X] [.v r3] λc4 l7=>
 br (Bm 1 c4)
 (dk [.C,.q 2 1,.I,.C,.q 3 1,.I,.N,.D,.D,.R,.X,.R,.X,.E] [.l l7,.o o3] λn6 n7 n8 n9 cs6 cs7=>
 br ((0+n6*1).ble cs6.length) (AA D (ω 109) [Ψ (Bi n6 1 (ε (n6*1) cs6))] [] λr4 o4=>
 dk [.q 0 1,.R,.X,.E] [.v r4,.o o4] λn10 cs8=>
 unI n9 λi4=>
 br (KA 0 i4 n8) (br ((0+i4*1).ble cs7.length) (AA D (ω 136) [Ψ (Bi i4 1 (ε (i4*1) cs7)),iv n7] [] λr5 o5=>
 dk [.l,.E] [.v r5,.o o5] λxs=>
 br ((0+n10*1).ble cs8.length) (Θ ((γ [Ψ (Bi n10 1 (ε (n10*1) cs8)),Ψ xs],[]))) Ξ) Ξ) Ξ) Ξ)
 (Ξ)) Ξ) Ξ) Ξ) Ξ) Ξ) Ξ)) Ξ:=by kernel_rfl
theorem RO(n4:Nat)(c4:List AV)(t6:Int)(t7:Rw)(n11:Nat)(c11:List AV)(t12 t13:Int):CS A D DA LL .n 112 0 (AJ Sg 0).fst (AJ Sg 0).snd [χ 0 0 n4 1,iv t6,Ψ t7,χ 1 0 n11 1,iv t12,iv t13] [{ cells:=c4,st:=Δ,ex:=Δ },{ cells:=c11,st:=Δ,ex:=Δ }] =
 br (A.le 0 t13)
 (unI t13 λi=>
 br (KA i n11 n11) (AA D (ω 133) [χ 0 (0+i*1) (n11-i) 1,Ψ t7] [θ c11 Δ Δ] λr o=>
 dk [.j .u64,.K,.E] [.v r,.o o] λn=>
 unI t13 λi1=>
 unI (A.add δ (A.add δ t13 t12) 1) λi2=>
 br (KA i1 i2 n11) (AA D (ω 134) [χ 0 (0+i1*1) (i2-i1) 1,Ψ t7,Aq0 (Value.int Ω n)] [θ c11 Δ Δ] λr1 o1=>
 dk [.b,.R,.X,.E] [.v r1,.o o1] λb cs=>
 br b
 (unI t13 λi3=>
 unI (A.add δ (A.add δ t13 t12) 1) λi4=>
 br (KA i3 i4 n11) (AA D (ω 135) [χ 0 (0+i3*1) (i4-i3) 1,Ψ t7] [θ cs Δ Δ] λr2 o2=>
 dk [.t,.N,.R,.X,.E] [.v r2,.o o2] λcs2=>
 unI t13 λi5=>
 br (i5.blt n4) (br ((0+i5*1+1).ble c4.length) (AA D (ι 112 0) [χ 0 0 n4 1,iv t6,Ψ t7,χ 1 0 n11 1,iv t12,iv (A.sub δ t13 1)] [θ (AI c4 (0+i5*1) [Aq0 (Value.int ζ (A.conv ζ (A.sub Ω n 1)))]) Δ Δ,θ cs2 Δ Δ] λr3 o3=>
 As 2 [0,1] (AH.mk [(0,θ (AI c4 (0+i5*1) [Aq0 (Value.int ζ (A.conv ζ (A.sub Ω n 1)))]) Δ Δ),(1,θ cs2 Δ Δ)] 2 Ξ) [1,0] r3 o3) Ξ) Ξ) Ξ)
 (unI t13 λi3=>
 br (i3.blt n4) (br ((0+i3*1+1).ble c4.length) (AA D (ι 112 0) [χ 0 0 n4 1,iv t6,Ψ t7,χ 1 0 n11 1,iv t12,iv (A.sub δ t13 1)] [θ (AI c4 (0+i3*1) [Aq0 (Value.int ζ (A.conv ζ n))]) Δ Δ,θ cs Δ Δ] λr2 o2=>
 As 2 [0,1] (AH.mk [(0,θ (AI c4 (0+i3*1) [Aq0 (Value.int ζ (A.conv ζ n))]) Δ Δ),(1,θ cs Δ Δ)] 2 Ξ) [1,0] r2 o2) Ξ) Ξ)) Ξ) Ξ)
 (Θ ((γ [iv 0,χ 2 0 n4 1,iv t6,χ 3 0 n11 1,iv t12],[BO.del,BO.del,AqV (θ c4 Δ Δ),AqV (θ c11 Δ Δ)]))):=by kernel_rfl
theorem AoY(x0 x1:Rw):BN A D DA AhQ .n 70 Aie [Ψ x0,Ψ x1] [] =
 Ae D (ω 108) [Ψ x0] [] [.l,.E] λxs=>
 Ae D (ω 108) [Ψ x1] [] [.l,.E] λxs1=>
 br (A.eq (↑(AL xs1)) 0)
 (Θ ((γ [Ψ [],Ψ [],iv 10],[])))
 (Ae D (ω 78) [Ψ xs,Ψ xs1] [] [.i,.E] λn=>
 br (A.lt n 0)
 (Ae D (ω 109) [Ψ xs] [] [.q 0 1,.R,.X,.E] λn1 cs=>
 br ((0+n1*1).ble cs.length) (Θ ((γ [Ψ [],Ψ (Bi n1 1 (ε (n1*1) cs)),iv 0],[]))) Ξ)
 (br (A.eq (↑(AL xs1)) 1)
 (Bj xs1 0 λcs=>
 dk [.J .u32,.N] [.l cs] λn1=>
 Ae D (ω 110) [Ψ xs,Aq0 (Value.int ζ n1)] [] [.t,.L,.J .u32,.N,.E] λxs2 n2=>
 Ae D (ω 111) [Aq0 (Value.int Ω (A.conv Ω n2))] [] [.l,.E] λxs3=>
 Θ ((γ [Ψ xs2,Ψ xs3,iv 0],[])))
 (Ae D (ω 112) [Ψ xs,Ψ xs1] [] [.t,.L,.L,.N,.E] λxs2 xs3=>
 Θ ((γ [Ψ xs2,Ψ xs3,iv 0],[]))))):=by kernel_rfl
theorem Ak1(x0:Int):BN A D DA AbV .n 131 AcL [Aq0 (Value.int ζ x0)] [] =
 Ae D (ω 87) [Aq0 (Value.int ζ x0)] [] [.i,.E] λn=>
 Θ ((iv (A.sub δ 32 n),[])):=by kernel_rfl
theorem Ao0(x0:Int):BN A D DA T8 .n 87 Aif [Aq0 (Value.int ζ x0)] [] =
 br (A.le 65536 x0)
 (br (A.lt 16 0)
 (Ξ)
 (br (A.le 256 (A.shr ζ x0 16))
 (br (A.lt 8 0)
 (Ξ)
 (unI (A.conv Aub (A.shr ζ (A.shr ζ x0 16) 8)) λi=>
 br (i.blt (A.slen (M5 [0,1,2,2,3,3,3,3,4,4,4,4,4,4,4,4,5,5,5,5,5,5,5,5,5,5,5,5,5,5,5,5,6,6,6,6,6,6,6,6,6,6,6,6,6,6,6,6,6,6,6,6,6,6,6,6,6,6,6,6,6,6,6,6,7,7,7,7,7,7,7,7,7,7,7,7,7,7,7,7,7,7,7,7,7,7,7,7,7,7,7,7,7,7,7,7,7,7,7,7,7,7,7,7,7,7,7,7,7,7,7,7,7,7,7,7,7,7,7,7,7,7,7,7,7,7,7,7,8,8,8,8,8,8,8,8,8,8,8,8,8,8,8,8,8,8,8,8,8,8,8,8,8,8,8,8,8,8,8,8,8,8,8,8,8,8,8,8,8,8,8,8,8,8,8,8,8,8,8,8,8,8,8,8,8,8,8,8,8,8,8,8,8,8,8,8,8,8,8,8,8,8,8,8,8,8,8,8,8,8,8,8,8,8,8,8,8,8,8,8,8,8,8,8,8,8,8,8,8,8,8,8,8,8,8,8,8,8,8,8,8,8,8,8,8,8,8,8,8,8,8,8,8,8,8,8]))) (Θ ((iv (A.add δ (A.add δ 16 8) (A.conv δ (A.sat (M5 [0,1,2,2,3,3,3,3,4,4,4,4,4,4,4,4,5,5,5,5,5,5,5,5,5,5,5,5,5,5,5,5,6,6,6,6,6,6,6,6,6,6,6,6,6,6,6,6,6,6,6,6,6,6,6,6,6,6,6,6,6,6,6,6,7,7,7,7,7,7,7,7,7,7,7,7,7,7,7,7,7,7,7,7,7,7,7,7,7,7,7,7,7,7,7,7,7,7,7,7,7,7,7,7,7,7,7,7,7,7,7,7,7,7,7,7,7,7,7,7,7,7,7,7,7,7,7,7,8,8,8,8,8,8,8,8,8,8,8,8,8,8,8,8,8,8,8,8,8,8,8,8,8,8,8,8,8,8,8,8,8,8,8,8,8,8,8,8,8,8,8,8,8,8,8,8,8,8,8,8,8,8,8,8,8,8,8,8,8,8,8,8,8,8,8,8,8,8,8,8,8,8,8,8,8,8,8,8,8,8,8,8,8,8,8,8,8,8,8,8,8,8,8,8,8,8,8,8,8,8,8,8,8,8,8,8,8,8,8,8,8,8,8,8,8,8,8,8,8,8,8,8,8,8,8,8]) i))),[]))) Ξ))
 (unI (A.conv Aub (A.shr ζ x0 16)) λi=>
 br (i.blt (A.slen (M5 [0,1,2,2,3,3,3,3,4,4,4,4,4,4,4,4,5,5,5,5,5,5,5,5,5,5,5,5,5,5,5,5,6,6,6,6,6,6,6,6,6,6,6,6,6,6,6,6,6,6,6,6,6,6,6,6,6,6,6,6,6,6,6,6,7,7,7,7,7,7,7,7,7,7,7,7,7,7,7,7,7,7,7,7,7,7,7,7,7,7,7,7,7,7,7,7,7,7,7,7,7,7,7,7,7,7,7,7,7,7,7,7,7,7,7,7,7,7,7,7,7,7,7,7,7,7,7,7,8,8,8,8,8,8,8,8,8,8,8,8,8,8,8,8,8,8,8,8,8,8,8,8,8,8,8,8,8,8,8,8,8,8,8,8,8,8,8,8,8,8,8,8,8,8,8,8,8,8,8,8,8,8,8,8,8,8,8,8,8,8,8,8,8,8,8,8,8,8,8,8,8,8,8,8,8,8,8,8,8,8,8,8,8,8,8,8,8,8,8,8,8,8,8,8,8,8,8,8,8,8,8,8,8,8,8,8,8,8,8,8,8,8,8,8,8,8,8,8,8,8,8,8,8,8,8,8]))) (Θ ((iv (A.add δ 16 (A.conv δ (A.sat (M5 [0,1,2,2,3,3,3,3,4,4,4,4,4,4,4,4,5,5,5,5,5,5,5,5,5,5,5,5,5,5,5,5,6,6,6,6,6,6,6,6,6,6,6,6,6,6,6,6,6,6,6,6,6,6,6,6,6,6,6,6,6,6,6,6,7,7,7,7,7,7,7,7,7,7,7,7,7,7,7,7,7,7,7,7,7,7,7,7,7,7,7,7,7,7,7,7,7,7,7,7,7,7,7,7,7,7,7,7,7,7,7,7,7,7,7,7,7,7,7,7,7,7,7,7,7,7,7,7,8,8,8,8,8,8,8,8,8,8,8,8,8,8,8,8,8,8,8,8,8,8,8,8,8,8,8,8,8,8,8,8,8,8,8,8,8,8,8,8,8,8,8,8,8,8,8,8,8,8,8,8,8,8,8,8,8,8,8,8,8,8,8,8,8,8,8,8,8,8,8,8,8,8,8,8,8,8,8,8,8,8,8,8,8,8,8,8,8,8,8,8,8,8,8,8,8,8,8,8,8,8,8,8,8,8,8,8,8,8,8,8,8,8,8,8,8,8,8,8,8,8,8,8,8,8,8,8]) i))),[]))) Ξ)))
 (br (A.le 256 x0)
 (br (A.lt 8 0)
 (Ξ)
 (unI (A.conv Aub (A.shr ζ x0 8)) λi=>
 br (i.blt (A.slen (M5 [0,1,2,2,3,3,3,3,4,4,4,4,4,4,4,4,5,5,5,5,5,5,5,5,5,5,5,5,5,5,5,5,6,6,6,6,6,6,6,6,6,6,6,6,6,6,6,6,6,6,6,6,6,6,6,6,6,6,6,6,6,6,6,6,7,7,7,7,7,7,7,7,7,7,7,7,7,7,7,7,7,7,7,7,7,7,7,7,7,7,7,7,7,7,7,7,7,7,7,7,7,7,7,7,7,7,7,7,7,7,7,7,7,7,7,7,7,7,7,7,7,7,7,7,7,7,7,7,8,8,8,8,8,8,8,8,8,8,8,8,8,8,8,8,8,8,8,8,8,8,8,8,8,8,8,8,8,8,8,8,8,8,8,8,8,8,8,8,8,8,8,8,8,8,8,8,8,8,8,8,8,8,8,8,8,8,8,8,8,8,8,8,8,8,8,8,8,8,8,8,8,8,8,8,8,8,8,8,8,8,8,8,8,8,8,8,8,8,8,8,8,8,8,8,8,8,8,8,8,8,8,8,8,8,8,8,8,8,8,8,8,8,8,8,8,8,8,8,8,8,8,8,8,8,8,8]))) (Θ ((iv (A.add δ (A.add δ 0 8) (A.conv δ (A.sat (M5 [0,1,2,2,3,3,3,3,4,4,4,4,4,4,4,4,5,5,5,5,5,5,5,5,5,5,5,5,5,5,5,5,6,6,6,6,6,6,6,6,6,6,6,6,6,6,6,6,6,6,6,6,6,6,6,6,6,6,6,6,6,6,6,6,7,7,7,7,7,7,7,7,7,7,7,7,7,7,7,7,7,7,7,7,7,7,7,7,7,7,7,7,7,7,7,7,7,7,7,7,7,7,7,7,7,7,7,7,7,7,7,7,7,7,7,7,7,7,7,7,7,7,7,7,7,7,7,7,8,8,8,8,8,8,8,8,8,8,8,8,8,8,8,8,8,8,8,8,8,8,8,8,8,8,8,8,8,8,8,8,8,8,8,8,8,8,8,8,8,8,8,8,8,8,8,8,8,8,8,8,8,8,8,8,8,8,8,8,8,8,8,8,8,8,8,8,8,8,8,8,8,8,8,8,8,8,8,8,8,8,8,8,8,8,8,8,8,8,8,8,8,8,8,8,8,8,8,8,8,8,8,8,8,8,8,8,8,8,8,8,8,8,8,8,8,8,8,8,8,8,8,8,8,8,8,8]) i))),[]))) Ξ))
 (unI (A.conv Aub x0) λi=>
 br (i.blt (A.slen (M5 [0,1,2,2,3,3,3,3,4,4,4,4,4,4,4,4,5,5,5,5,5,5,5,5,5,5,5,5,5,5,5,5,6,6,6,6,6,6,6,6,6,6,6,6,6,6,6,6,6,6,6,6,6,6,6,6,6,6,6,6,6,6,6,6,7,7,7,7,7,7,7,7,7,7,7,7,7,7,7,7,7,7,7,7,7,7,7,7,7,7,7,7,7,7,7,7,7,7,7,7,7,7,7,7,7,7,7,7,7,7,7,7,7,7,7,7,7,7,7,7,7,7,7,7,7,7,7,7,8,8,8,8,8,8,8,8,8,8,8,8,8,8,8,8,8,8,8,8,8,8,8,8,8,8,8,8,8,8,8,8,8,8,8,8,8,8,8,8,8,8,8,8,8,8,8,8,8,8,8,8,8,8,8,8,8,8,8,8,8,8,8,8,8,8,8,8,8,8,8,8,8,8,8,8,8,8,8,8,8,8,8,8,8,8,8,8,8,8,8,8,8,8,8,8,8,8,8,8,8,8,8,8,8,8,8,8,8,8,8,8,8,8,8,8,8,8,8,8,8,8,8,8,8,8,8,8]))) (Θ ((iv (A.add δ 0 (A.conv δ (A.sat (M5 [0,1,2,2,3,3,3,3,4,4,4,4,4,4,4,4,5,5,5,5,5,5,5,5,5,5,5,5,5,5,5,5,6,6,6,6,6,6,6,6,6,6,6,6,6,6,6,6,6,6,6,6,6,6,6,6,6,6,6,6,6,6,6,6,7,7,7,7,7,7,7,7,7,7,7,7,7,7,7,7,7,7,7,7,7,7,7,7,7,7,7,7,7,7,7,7,7,7,7,7,7,7,7,7,7,7,7,7,7,7,7,7,7,7,7,7,7,7,7,7,7,7,7,7,7,7,7,7,8,8,8,8,8,8,8,8,8,8,8,8,8,8,8,8,8,8,8,8,8,8,8,8,8,8,8,8,8,8,8,8,8,8,8,8,8,8,8,8,8,8,8,8,8,8,8,8,8,8,8,8,8,8,8,8,8,8,8,8,8,8,8,8,8,8,8,8,8,8,8,8,8,8,8,8,8,8,8,8,8,8,8,8,8,8,8,8,8,8,8,8,8,8,8,8,8,8,8,8,8,8,8,8,8,8,8,8,8,8,8,8,8,8,8,8,8,8,8,8,8,8,8,8,8,8,8,8]) i))),[]))) Ξ)):=by kernel_rfl
end
section
variable {D:Orc} (K:Knows DA Jk D)
include K
theorem Aea(l:List Nat)(hl:BL l):∀(n:Nat),n<=l.length->CI l<=n->D.ask (.lp 108 0) [eN l,iv (n:Int)] []=Θ (.tup [iv 0,eN l,iv (CI l:Int)],[]):=by
 intro n;have hl':=hl;unfold BL at hl'
 induction n with
 |zero=>
  intro _ ht;refine Au K Ov (Xl ..) ?_;refine Ag ?_;rw[show CI l=0 by omega];rfl
 |succ n ih=>
  intro hn ht;refine Au K Ov (Xl ..) ?_;refine Aj ?_;rw[show Af.sub .i64 ((n+1:Nat):Int) 1=(n:Int) from (Ng (i:=n+1) (j:=1) (by omega) (by omega)).trans (by simp)];rw[Av,At (ξ (show n<l.length by omega))];simp only[eL,TC,ND,DK,Ab]
  by_cases h0:l[n]=0
  .refine Bu ?_ (by rw[h0];rfl)
   refine Aa (ih (by omega) (Mo ht (by rw[ξ (show n<l.length by omega),h0]))) ?_;rfl
  .refine AN ?_
   have:=NB (ξ (show n<l.length by omega)) h0;rw[show CI l=n+1 by omega];rfl
theorem Fs{l:List Nat}(hl:BL l)(h:Limbs l):D.ask (.fn 108) [eN l] []=Θ (eN (Ai (Ad l)),[]):=by
 refine AB K Ov (AkU ..) ?_;rw[Ak];refine Aa (Aea K l hl _ (π _) (Ch l)) ?_;simp only[eN,ND,DK,Ab];rw[Av,Ak,S7,MW,Iu h];rw[show KA 0 (CI l) l.length=Δ by unfold KA;rw[show AqZ 0 (CI l)=Δ by simp];simpa using Ch l];rfl
variable (C:CloneF D)
include C
theorem F7{l:List Nat}(hl:BL l)(h:Limbs l):D.ask (.fn 109) [eN l] []=Θ (.sl 0 0 (Ai (Ad l)).length 1,[.set (θ (Ah eL (Ai (Ad l))) Δ Δ)]):=by
 refine AB K AbT (AkV ..) ?_;refine Aa (Fs K hl h) ?_;simp only[eN,ND,DK,Ab];have g:=C.nat _ (DL h hl);unfold eN at g;refine Aa g ?_;rfl
theorem AiG(n:Nat)(h:n<18446744073709551616):D.ask (.fn 111) [.v (.int .u64 (n:Int))] []=Θ (eN (Ai n),[]):=by
 refine AB K AbU (AkX ..) ?_;refine Ag ?_ (by decide);rw[C1,EW,C1];have hl:Limbs [n % 4294967296,n / 4294967296 % 4294967296]:=Bf (ArF _ (by omega)) (Bf (ArF _ (by omega)) BH);have g:=F7 K C (l:=[n % 4294967296,n / 4294967296 % 4294967296]) (by unfold BL;simp) hl;rw[show Ad [n % 4294967296,n / 4294967296 % 4294967296]=n by simp only[Ad];omega]at g;refine Aa g ?_;simp only[ND,DK,Ab];rw[AF AD _ (by omega)];refine Ac ?_;rw[Bp AD _ rfl];rfl
omit C in
theorem Aes(a b:List Nat)(ha:Limbs a)(hb:Limbs b)(hab:a.length=b.length)(hs:BL a):∀(n:Nat),n<=a.length->D.ask (.lp 78 0) [eN a,eN b,iv ((n:Int)-1)] []
  = Θ (if CT (Ad (a.take n)) (Ad (b.take n))=0 then .tup [iv 1] else .tup [bv Δ,iv (CT (Ad (a.take n)) (Ad (b.take n)))],[]):=by
 intro n;unfold BL at hs
 induction n with
 |zero=>
  intro _;refine Au K T7 (AbA ..) ?_;refine Cr ?_;rfl
 |succ n ih=>
  intro hn;refine Au K T7 (AbA ..) ?_;rw[show (((n+1:Nat):Int)-1)=(n:Int) by omega];refine B6 ?_;have h1:n<a.length:=by omega
  have h2:n<b.length:=by omega
  have e1:a.take (n+1)=a.take n++[a[n]]:=by rw[Arw h1]
  have e2:b.take (n+1)=b.take n++[b[n]]:=by rw[Arw h2]
  rw[e1,e2,N6 (ha.take n) (hb.take n) (by simp;omega)];simp only[Av,At (ξ h1),At (ξ h2),eL,TC,ND,DK,Ab]
  by_cases h3:a[n]<b[n]
  .refine Aj ?_
   rw[if_pos h3];rfl
  .refine Ag ?_
   rw[if_neg h3]
   by_cases h4:b[n]<a[n]
   .refine Aj ?_
    rw[if_pos h4];rfl
   .refine Ag ?_
    rw[if_neg h4];rw[show Af.sub .i64 (n:Int) 1=(n:Int)-1 from Dm (by omega) (by omega)];refine Aa (ih (by omega)) ?_
    by_cases h5:CT (Ad (a.take n)) (Ad (b.take n))=0
    .rw[if_pos h5];rfl
    .rw[if_neg h5];rfl
omit C in
theorem Aet{a b:List Nat}(hsa:BL a)(ha:Limbs a)(hsb:BL b)(hb:Limbs b):D.ask (.fn 78) [eN a,eN b] []=Θ (iv (CT (Ad a) (Ad b)),[]):=by
 have s1:=DL ha hsa;have s2:=DL hb hsb;unfold BL at s1 s2;refine AB K T7 (AoZ ..) ?_;refine Aa (Fs K hsa ha) ?_;simp only[eN,ND,DK,Ab];refine Aa (Fs K hsb hb) ?_;simp only[eN,ND,DK,Ab,Ak];generalize Ad a=x at *;generalize Ad b=y at *
 by_cases h1:(Ai x).length<(Ai y).length
 .refine Aj ?_
  have:=Gb h1;unfold CT;rw[if_pos this]
 .refine Ag ?_
  by_cases h2:(Ai y).length<(Ai x).length
  .refine Aj ?_
   have:=Gb h2;unfold CT;rw[if_neg (by omega),if_pos this]
  .refine Ag ?_
   have hx:(Ai x).length=(Ai y).length:=by omega
   have g:=Aes K (Ai x) (Ai y) (Am x) (Am y) hx s1 (Ai x).length (π _);rw[Asb,hx,Asb,Az,Az]at g;rw[show Af.sub .i64 ((Ai x).length:Int) 1=((Ai x).length:Int)-1 from Dm (by omega) (by omega),hx];refine Aa g ?_
   by_cases h5:CT x y=0
   .rw[if_pos h5,h5];rfl
   .rw[if_neg h5];rfl
omit C in
theorem AiT(a:List Nat)(ha:Limbs a)(hs:BL a)(b:Nat)(hb:0<b)(hb2:b<4294967296):∀(i:Nat) (out:List Nat),i<=a.length->out.length=a.length->out.drop i=Jz b (a.drop i)->
  D.ask (.lp 110 0) [eN a,.v (.int .u32 (b:Int)),.sl 0 0 out.length 1,.v (.int .u64 ((Ad (a.drop i) % b:Nat):Int)),iv ((i:Int)-1)] [θ (Ah eL out) Δ Δ]
   = Θ (.tup [iv 0,.sl 1 0 a.length 1,.v (.int .u64 ((Ad a % b:Nat):Int))],[.del,.set (θ (Ah eL (Jz b a)) Δ Δ)]):=by
 unfold BL at hs;intro i
 induction i with
 |zero=>
  intro out hi hl hd;rw[AqQ,AqQ]at hd;rw[AqQ,hd,HK];refine Au K Ow (Xm ..) ?_;exact Rx (by omega)
 |succ i ih=>
  intro out hi hl hd;have h1:i<a.length:=by omega
  have h2:i<out.length:=by omega
  have hx:=ha.get h1;have hm:=ArF (Ad (a.drop (i+1))) hb;have hdc:a.drop i=a[i]::a.drop (i+1):=κ h1;have hr:=ZO b a[i] (a.drop (i+1));rw[←hdc]at hr;have hq:Jz b (a.drop i)=((Ad (a.drop (i+1)) % b)*4294967296+a[i]) / b::Jz b (a.drop (i+1)):=by rw[hdc,Jz]
  have hqlt:=Xk (b:=b) hm hx;refine Au K Ow (Xm ..) ?_;rw[show (((i+1:Nat):Int)-1)=(i:Int) by omega];refine B6 ?_;refine Ag ?_ (by decide);rw[Av,At (ξ h1)];simp only[eL,Fu,ND,DK,Ab];rw[Bo (show b<_ by omega)];refine AN ?_;rw[Av,BK h2];refine Ac ?_;rw[show AqZ (0+i*1+1) (Ah eL out).length=Δ by rw[AT AD];simp;omega];refine Ac ?_;refine AN ?_;have hbig:(Ad (a.drop (i+1)) % b)*4294967296+a[i]<18446744073709551616:=by omega
  rw[Bo (show a[i]<_ by omega),KW (by omega),Pb hx (by omega),Adf hbig,Adi,Bz hqlt,hr,show Af.sub .i64 (i:Int) 1=(i:Int)-1 from Dm (by omega) (by omega),C7 _ _ _ h2];have g:=ih (out.set i (((Ad (a.drop (i+1)) % b)*4294967296+a[i]) / b)) (by omega) (by rw[Are];exact hl) (by
   rw[hq,←hd,κ (by rw[Are];exact h2),Atv,Ar3 (by omega)])
  rw[Are]at g;refine Aa g ?_;rfl
theorem YU{a:List Nat}(ha:Limbs a)(hs:BL a){b:Nat}(hb:0<b)(hb2:b<4294967296):D.ask (.fn 110) [eN a,.v (.int .u32 (b:Int))] []=Θ (.tup [eN (Ai (Ad a / b)),.v (.int .u32 ((Ad a % b:Nat):Int))],[]):=by
 have hs':=hs;unfold BL at hs';have g:=AiT K a ha hs b hb hb2 a.length (AsH a.length 0) (π _) (by simp) (by simp[Jz]);rw[As7,AsY,show Ad [] % b=0 by simp[Ad]]at g;refine AB K Ow (AkW ..) ?_;rw[Ak,show AqZ a.length a.length=Δ by simp];refine Ac ?_;rw[AG (n:=a.length) (b:=4) (by omega) (by omega)];refine Ac ?_;rw[IB,show Af.sub .i64 (a.length:Int) 1=(a.length:Int)-1 from Dm (by omega) (by omega)];refine Aa g ?_;simp only[Fu,ND,DK,Ab];have hm:=ArF (Ad a) hb;have gt:=F7 K C (l:=Jz b a) (by unfold BL;rw[HK];exact hs') (Oa hb a ha);rw[Rf hb]at gt;rw[show AqZ (0+a.length*1) (Ah eL (Jz b a)).length=Δ by rw[AT AD,HK];simp];refine Ac ?_;rw[Bp AD _ (HK b a).symm];refine Aa gt ?_;simp only[ND,DK,Ab];rw[AF AD _ (by omega)];refine Ac ?_;rw[Bp AD _ rfl];rw[Bz (by omega)];rfl
end
section
variable {D:Orc} (K:Knows DA Jk D)
include K
theorem Afg(a:List Nat)(ha:Limbs a)(hs:BL a)(s:Nat)(h31:s<=31):∀(k i:Nat) (out:List Nat) (c:Nat),a.length-i=k->i<=a.length->c<2 ^ s->out.length+k<=2000000000->
  ∃(o:List Nat) (c':Nat),D.ask (.lp 132 0) [iv (s:Int),.sl 0 0 out.length 1,.v (.int .u64 (c:Int)),eN a,iv (a.length:Int),iv (i:Int)] [θ (Ah eL out) Δ Δ]
   = Θ (.tup [iv 1,.sl 1 0 o.length 1,.v (.int .u64 (c':Int))],[.del,.set (θ (Ah eL o) Δ Δ)])/\c'<2 ^ s/\o++[c']=out++DQ (2 ^ s) c (a.drop i):=by
 obtain⟨p0,p31,_⟩:=O9 h31;intro k;unfold BL at hs
 induction k with
 |zero=>
  intro i out c hi hle hc ho;refine⟨out,c,?_,hc,?_⟩
  .refine Au K Oy (Xn ..) ?_
   exact CK (by omega)
  .rw[show a.drop i=[] from AqX (by omega)]
   rfl
 |succ k ih=>
  intro i out c hi hle hc ho;have hlt:i<a.length:=by omega
  have hx:=ha.get hlt;have hmul:a[i]*2 ^ s<=4294967295*2 ^ s:=Ard _ (by omega);have hb:a[i]*2 ^ s+c<18446744073709551616:=by omega
  have hc2:(a[i]*2 ^ s+c) / 4294967296<2 ^ s:=by
   rw[As9 (by omega)];omega
  rw[show a.drop i=a[i]::a.drop (i+1) from κ hlt];obtain⟨o,c',h1,h2,h3⟩:=ih (i+1) (out++[(a[i]*2 ^ s+c) % 4294967296]) ((a[i]*2 ^ s+c) / 4294967296) (by omega) (by omega) hc2 (by simp;omega);refine⟨o,c',?_,h2,?_⟩
  .refine Au K Oy (Xn ..) ?_
   refine Aj ?_;rw[Av,At (ξ hlt)];have hf:AZ (out.length+1) 4=Δ:=AG (by omega) (by omega);have hb1:AqZ (0+out.length*1) (Ah eL out).length=Δ:=AF AD out (by omega);have e3:∀ s:Nat,AqT 0 (ε (0+out.length*1) (Ah eL out))++[.v (.int .u32 (s:Int))]=Ah eL (out++[s]):=λs=>by
    rw[AqQ,Be AD out (by omega)];exact Bb eL out s
   rw[υ,Ari]at h1;simp only[eL,Fu,ND,DK,Ab];refine Ag ?_;rw[hf,hb1];refine Ac ?_;refine Ac ?_;refine Ag ?_ (by decide);rw[Bo (by omega),Ye (by omega) (by omega),Adb hc hb,C1,EW,e3,BA (by omega)];refine Aa h1 ?_;rfl
  .rw[h3,DQ,AqY]
   rfl
variable (C:CloneF D)
include C
theorem XH{a:List Nat}(ha:Limbs a)(hs0:a.length<=999999998){s:Nat}(h31:s<=31):D.ask (.fn 132) [eN a,iv (s:Int)] []=Θ (.tup [.sl 0 0 (Ai (Ad a*2 ^ s)).length 1,iv 0],[.set (θ (Ah eL (Ai (Ad a*2 ^ s))) Δ Δ)]):=by
 obtain⟨p0,p31,_⟩:=O9 h31;have hs:BL a:=by unfold BL;omega
 have hsn0:(Ai (Ad a)).length<=999999998:=by rw[CO a ha];have:=Ch a;omega
 have hsn:=DL ha hs;obtain⟨o,c',g,hc,ho⟩:=Afg K (Ai (Ad a)) (Am _) hsn s h31 (Ai (Ad a)).length 0 [] 0 (by omega) (by omega) p0 (by unfold BL at hsn;simp;omega);rw[Aq4,AqQ]at ho;have hlm:Limbs (DQ (2 ^ s) 0 (Ai (Ad a))):=G3 _ _ _ (by omega) (Am _) (by omega);have hol:o.length=(Ai (Ad a)).length:=by
  have:=congrArg Auw ho;rw[υ,Py]at this;simpa using this
 have gt:=F7 K C (l:=o++[c']) (by unfold BL;rw[υ,hol];simp;omega) (by rw[ho];exact hlm);rw[ho,Ix,Az,ArG,←ho]at gt;unfold BL at hsn;refine AB K Oy (Ak2 ..) ?_;refine Ag ?_;refine Ag ?_;refine Aa (Fs K hs ha) ?_;simp only[eN,ND,DK,Ab];refine AN ?_ (by decide);refine AN ?_ (by decide);rw[Adc h31,Adg h31,Ak,AaN (by omega),show Af.add .i64 ((0+(Ai (Ad a)).length:Nat):Int) 1=((0+(Ai (Ad a)).length+1:Nat):Int) from BA (by omega),Av,Av];refine Ac ?_;rw[AG (by omega) (by omega)];refine Ac ?_;refine Aa g ?_;simp only[Fu,ND,DK,Ab];rw[AG (n:=o.length+1) (b:=4) (by omega) (by omega),AF AD o (by omega),Bz (by omega)];have e3:AqT 0 (ε (0+o.length*1) (Ah eL o))++[.v (.int .u32 (c':Int))]=Ah eL (o++[c']):=by
  rw[AqQ,Be AD o (by omega)];exact Bb eL o c'
 rw[e3,AF AD (o++[c']) (by simp)];refine Ac ?_;refine Ac ?_;rw[AqQ,Be AD (o++[c']) (by simp),show Bi (o.length+1) 1 (Ah eL (o++[c']))=(o++[c']).map eL from by have:=CL AD (o++[c']);rwa [υ]at this];refine Ac ?_;refine Ac ?_;refine Aa gt ?_;rfl
omit C in
theorem Zz(a:List Nat)(ha:Limbs a)(hs:BL a)(s:Nat)(h31:s<=31):∀(k i:Nat) (out:List Nat),a.length-i=k->i<=a.length->out.length+k<=2000000000->
  ∃ o:List Nat,o=out++Fp (2 ^ s) (a.drop i)/\D.ask (.lp 136 0) [eN a,iv (s:Int),.sl 0 0 out.length 1,iv (i:Int)] [θ (Ah eL out) Δ Δ]
   = Θ (.tup [iv 0,.sl 1 0 o.length 1],[.del,.set (θ (Ah eL o) Δ Δ)]):=by
 intro k;unfold BL at hs
 induction k with
 |zero=>
  intro i out hi hle ho;refine⟨out,by rw[show a.drop i=[] from AqX (by omega),Fp,ArB],?_⟩;refine Au K OA (Xp ..) ?_;rw[Ak];exact CK (by omega)
 |succ k ih=>
  intro i out hi hle ho;have hlt:i<a.length:=by omega
  have hx:=ha.get hlt;rw[show a.drop i=a[i]::a.drop (i+1) from κ hlt,Fp];obtain⟨o,ho2,h1⟩:=ih (i+1) (out++[((a.drop (i+1)).headD 0*4294967296+a[i]) / 2 ^ s % 4294967296]) (by omega) (by omega) (by simp;omega);rw[AqY,ArI]at ho2;refine⟨o,ho2,?_⟩;clear ho2;rw[show (out++[((a.drop (i+1)).headD 0*4294967296+a[i]) / 2 ^ s % 4294967296]).length=out.length+1 by simp]at h1;refine Au K OA (Xp ..) ?_;rw[Ak];refine Aj ?_;have hf:AZ (out.length+1) 4=Δ:=AG (by omega) (by omega);have hb1:AqZ (0+out.length*1) (Ah eL out).length=Δ:=AF AD out (by omega);have e3:∀ s:Nat,AqT 0 (ε (0+out.length*1) (Ah eL out))++[.v (.int .u32 (s:Int))]=Ah eL (out++[s]):=λs=>by
   rw[AqQ,Be AD out (by omega)];exact Bb eL out s
  rw[BA (by omega)]
  by_cases h2:i+1<a.length
  .have hd:(a.drop (i+1)).headD 0=a[i+1]:=by rw[κ h2];rfl
   have hy:=ha.get h2;rw[hd]at h1;refine Aj ?_;rw[Av,At (ξ h2)];simp only[eL,Fu,ND,DK,Ab];refine Ag ?_ (by decide);rw[Av,At (ξ hlt)];simp only[eL,Fu,ND,DK,Ab];refine Ag ?_;rw[hf,hb1,Bo (show a[i+1]<_ by omega),Bo (show a[i]<_ by omega),KW hy,Pb hx hy,Sz (by show s<=64;omega),C1,e3];refine Ac ?_;refine Ac ?_;refine Aa h1 ?_;rfl
  .have hd:(a.drop (i+1)).headD 0=0:=by rw[AqX (by omega)];rfl
   rw[hd]at h1;refine Ag ?_;refine Ag ?_ (by decide);rw[Av,At (ξ hlt)];simp only[eL,Fu,ND,DK,Ab];refine Ag ?_;rw[hf,hb1,Bo (show a[i]<_ by omega),show Af.shl .u64 0 32=((0*4294967296:Nat):Int) from KW (x:=0) (by omega),Pb hx (by omega),Sz (by show s<=64;omega),C1,e3];refine Ac ?_;refine Ac ?_;refine Aa h1 ?_;rfl
theorem ZA{a:List Nat}(ha:Limbs a)(hs:BL a){s:Nat}(h31:s<=31):D.ask (.fn 136) [eN a,iv (s:Int)] []=Θ (eN (Ai (Ad a / 2 ^ s)),[]):=by
 obtain⟨p0,p31,pq⟩:=O9 h31;have hsn:=DL ha hs;obtain⟨o,ho,g⟩:=Zz K (Ai (Ad a)) (Am _) hsn s h31 (Ai (Ad a)).length 0 [] (by omega) (by omega) (by unfold BL at hsn;simp;omega);rw[Aq4,AqQ]at ho;subst ho;have hlen:=Pj (2 ^ s) (Ai (Ad a));have gt:=F7 K C (l:=Fp (2 ^ s) (Ai (Ad a))) (by unfold BL at *;rw[hlen];exact hsn) (K3 _ _);rw[M1 p0 pq _ (Am _),Az]at gt;unfold BL at hsn;refine AB K OA (Ak6 ..) ?_;refine Aa (Fs K hs ha) ?_;simp only[eN,ND,DK,Ab];refine AN ?_ (by decide);refine AN ?_ (by decide);rw[Aj2,Adc h31,Adg h31,Ak]
 by_cases h0:Ad a=0
 .rw[h0,Cj,Nat.zero_div,Cj]
  exact NW (by decide)
 .have hne:0<(Ai (Ad a)).length:=by
   rcases Ar8 (Ai (Ad a)).length with h|h
   .exact absurd (Uu.1 (Arn h)) h0
   .exact h
  refine Cr ?_;rw[Ng (j:=0) (by omega) (by omega),Av,AG (by omega) (by omega)];refine Ac ?_;refine Aa g ?_;simp only[ND,DK,Ab];rw[AF AD _ (by omega)];refine Ac ?_;rw[Bp AD _ rfl];refine Aa gt ?_;simp only[ND,DK,Ab];rw[AF AD _ (by omega)];refine Ac ?_;rw[Bp AD _ rfl]
end
theorem NN:∀(m c w:Nat) (u d:List Nat),DC m c w u d=DC m c w (u.take d.length) d
 |_,_,_,_,[]=>rfl
 |m,c,w,[],x::d=>by rw[AtL]
 |m,c,w,y::u,x::d=>by
  rw[AqR,Asz,DC,DC,Asw,Asw,Ase,Ase,NN m _ _ u d]
theorem NP:∀(m c w:Nat) (u d:List Nat),Db m c w u d=Db m c w (u.take d.length) d
 |_,_,_,_,[]=>rfl
 |m,c,w,[],x::d=>by rw[AtL]
 |m,c,w,y::u,x::d=>by
  rw[AqR,Asz,Db,Db,Asw,Asw,Ase,Ase,NP m _ _ u d]
theorem NS:∀(c:Nat) (u d:List Nat),Dc c u d=Dc c (u.take d.length) d
 |_,_,[]=>rfl
 |c,[],x::d=>by rw[AtL]
 |c,y::u,x::d=>by
  rw[AqR,Asz,Dc,Dc,Asw,Asw,Ase,Ase,NS _ u d]
theorem NR:∀(c:Nat) (u d:List Nat),CU c u d=CU c (u.take d.length) d
 |_,_,[]=>rfl
 |c,[],x::d=>by rw[AtL]
 |c,y::u,x::d=>by
  rw[AqR,Asz,CU,CU,Asw,Asw,Ase,Ase,NR _ u d]
theorem IP{l:List Nat}(h:Limbs l){i v:Nat}(hv:v<4294967296):Limbs (l.set i v):=λz hz=>by
 rcases AtQ hz with h1|h1
 .exact h z h1
 .rw[h1];exact hv
theorem Pw{l:List Nat}{j v:Nat}(h:j<l.length):(l.set j v).take (j+1)=l.take j++[v]:=by
 rw[Arw (by rw[Are];exact h),Atv,Auf (π _)]
theorem cuN(n:Int)(f:Int->KR):(M6 .u32 [.v (.int .u32 n)] λn y=>Ft y (f n))=f n:=by rw[Fu];rfl
section
variable {D:Orc} (K:Knows DA Jk D)
include K
theorem AeB(d:List Nat)(hd:Limbs d)(m:Nat)(hm:m<4294967296)(o n:Nat)(hn:d.length<n):∀(k i:Nat) (U:List Nat) (c w:Nat),d.length-i=k->i<=d.length->Limbs U->o+n<=U.length->U.length<=2000000000->c<4294967296->w<=1->
  ∃ U':List Nat,U'=U.take (o+i)++DC m c w (U.drop (o+i)) (d.drop i)++U.drop (o+d.length) ∧
   D.ask (.lp 134 0) [.sl 0 o n 1,eN d,.v (.int .u64 (m:Int)),.v (.int .u64 (c:Int)),.v (.int .u64 (w:Int)),eN d,iv (d.length:Int),iv (i:Int)] [θ (Ah eL U) Δ Δ]
    = Θ (.tup [iv 0,.sl 0 o n 1,eN d,.v (.int .u64 (DS m c (d.drop i):Int)),.v (.int .u64 (Db m c w (U.drop (o+i)) (d.drop i):Int))],[.set (θ (Ah eL U') Δ Δ)]):=by
 intro k
 induction k with
 |zero=>
  intro i U c w hi hle hU hoU hUl hc hw;obtain rfl:i=d.length:=by omega
  refine⟨U,?_,?_⟩
  .rw[AsY,DC,ArB,ArW]
  .rw[AsY,DS,Db]
   refine Au K LM (RP ..) ?_;exact CK (by omega)
 |succ k ih=>
  intro i U c w hi hle hU hoU hUl hc hw;have hlt:i<d.length:=by omega
  have hou:o+i<U.length:=by omega
  have hx:=hd.get hlt;have hy:=hU.get hou;have hp:=JL hm hx;have hmd:=ArF (m*d[i]+c) (show 0<4294967296 by omega);have hhd:(U.drop (o+i)).headD 0=U[o+i]:=by rw[κ hou];rfl
  have htl:(U.drop (o+i)).tail=U.drop (o+i+1):=by rw[AsI]
  rw[show d.drop i=d[i]::d.drop (i+1) from κ hlt,DC,DS,Db,hhd,htl]
  by_cases hb:U[o+i]<(m*d[i]+c) % 4294967296+w
  .rw[if_pos hb,if_pos hb]
   obtain⟨U',hU',g⟩:=ih (i+1) (U.set (o+i) (U[o+i]+4294967296-((m*d[i]+c) % 4294967296+w))) ((m*d[i]+c) / 4294967296) 1 (by omega) (by omega) (IP hU (by omega)) (by rw[Are];exact hoU) (by rw[Are];exact hUl) (by omega) (π _);rw[show o+(i+1)=o+i+1 by omega,Pw hou,Ar3 (by omega),Ar3 (by omega)]at hU';rw[show o+(i+1)=o+i+1 by omega,Ar3 (show o+i<o+i+1 by omega)]at g;refine⟨U',by rw[hU'];simp only[AqY,ArI,Arm,Aq4],?_⟩;refine Au K LM (RP ..) ?_;refine Aj ?_;rw[Av,At (ξ hlt)];simp only[eL,Fu,ND,DK,Ab];refine Ag ?_ (by decide);rw[Av,show ArK i n=Δ from BK (by omega),show o+i*1=0+(o+i)*1 by omega];refine Ac ?_;refine(In U _ hou _).trans ?_;simp only[Fu,ND,DK,Ab];rw[Bo (show U[o+i]<_ by omega),Bo (show d[i]<_ by omega),KV (by omega),Cc (show m*d[i]+c<_ by omega),Yd (by omega),Cc (by omega),EW];refine Aj ?_;rw[Av,show ArK i n=Δ from BK (by omega)];refine Ac ?_;rw[show o+i*1=0+(o+i)*1 by omega,show AqZ (0+(o+i)*1+1) (Ah eL U).length=Δ by rw[AT AD];simp;omega];refine Ac ?_;rw[show Af.add .u64 (U[o+i]:Int) 4294967296=((U[o+i]+4294967296:Nat):Int) from Cc (y:=4294967296) (by omega),D9 (by omega) (by omega),Bz (by omega),C7 _ _ _ hou,BA (by omega)];refine Aa g ?_;rfl
  .rw[if_neg hb,if_neg hb]
   obtain⟨U',hU',g⟩:=ih (i+1) (U.set (o+i) (U[o+i]-((m*d[i]+c) % 4294967296+w))) ((m*d[i]+c) / 4294967296) 0 (by omega) (by omega) (IP hU (by omega)) (by rw[Are];exact hoU) (by rw[Are];exact hUl) (by omega) (ArC _);rw[show o+(i+1)=o+i+1 by omega,Pw hou,Ar3 (by omega),Ar3 (by omega)]at hU';rw[show o+(i+1)=o+i+1 by omega,Ar3 (show o+i<o+i+1 by omega)]at g;refine⟨U',by rw[hU'];simp only[AqY,ArI,Arm,Aq4],?_⟩;refine Au K LM (RP ..) ?_;refine Aj ?_;rw[Av,At (ξ hlt)];simp only[eL,Fu,ND,DK,Ab];refine Ag ?_ (by decide);rw[Av,show ArK i n=Δ from BK (by omega),show o+i*1=0+(o+i)*1 by omega];refine Ac ?_;refine(In U _ hou _).trans ?_;simp only[Fu,ND,DK,Ab];rw[Bo (show U[o+i]<_ by omega),Bo (show d[i]<_ by omega),KV (by omega),Cc (show m*d[i]+c<_ by omega),Yd (by omega),Cc (by omega),EW];refine Ag ?_;rw[Av,show ArK i n=Δ from BK (by omega)];refine Ac ?_;rw[show o+i*1=0+(o+i)*1 by omega,show AqZ (0+(o+i)*1+1) (Ah eL U).length=Δ by rw[AT AD];simp;omega];refine Ac ?_;rw[D9 (by omega) (by omega),Bz (by omega),C7 _ _ _ hou,BA (by omega)];refine Aa g ?_;rfl
theorem Va{d:List Nat}(hd:Limbs d){m:Nat}(hm:m<4294967296){o:Nat}{U:List Nat}(hU:Limbs U)(hl:o+d.length<U.length)(hUl:U.length<=1000000000) :
  D.ask (.fn 134) [.sl 0 o (d.length+1) 1,eN d,.v (.int .u64 (m:Int))] [θ (Ah eL U) Δ Δ]
   = Θ (bv (decide (U[o+d.length]<DS m 0 d+Db m 0 0 (U.drop o) d)),[.set (θ (Ah eL (U.take o++(DC m 0 0 (U.drop o) d++[(U[o+d.length]+4294967296-(DS m 0 d+Db m 0 0 (U.drop o) d)) % 4294967296])++U.drop (o+(d.length+1)))) Δ Δ)]):=by
 obtain⟨U',hU',g⟩:=AeB K d hd m hm o (d.length+1) (Atu _) d.length 0 U 0 0 (by omega) (by omega) hU (by omega) (by omega) (by omega) (by omega);simp only[ArG,AqQ]at hU' g;have hc:=NM m 0 d hm hd (by omega);have hw:=NO m 0 0 (U.drop o) d (ArC _);have hul:=hU.get hl;have hlen:U'.length=U.length:=by
  rw[hU'];simp only[υ,Aq9,Asr,F9];omega
 have hjl:o+d.length<U'.length:=by omega
 have hpre:(U.take o++DC m 0 0 (U.drop o) d).length=o+d.length:=by
  rw[υ,Aq9,F9];omega
 have hget:U'[o+d.length]=U[o+d.length]:=by
  have:U'[o+d.length]? = U[o+d.length]?:=by
   rw[hU',Arf (by omega),hpre,Ata,ArU,ArG]
  rw[ξ hjl,ξ hl]at this;injection this
 have hset:∀ v,U'.set (o+d.length) v=U.take o++(DC m 0 0 (U.drop o) d++[v])++U.drop (o+(d.length+1)):=λv=>by
  rw[hU',At9 _ _ (by omega),hpre,Ata,κ hl,Auj];simp only[AqY,ArI,Arm,Aq4];rw[Ars]
 refine AB K LM (Ak4 ..) ?_;rw[Ak];refine Aa g ?_;simp only[eN,Fu,Vf,Ak,ND,DK,Ab];rw[show ArK d.length (d.length+1)=Δ from BK (Atu _),show o+d.length*1=0+(o+d.length)*1 by omega];refine Ac ?_;refine(In U' _ hjl _).trans ?_;refine(cuN _ _).trans ?_;refine Ac ?_;rw[show AqZ (0+(o+d.length)*1+1) (Ah eL U').length=Δ by rw[AT AD];simp;omega];refine Ac ?_;rw[hget,Bo (by omega),Cc (by omega),Aj3 (by omega) hul,C7 _ _ _ hjl,hset]
 by_cases hb:U[o+d.length]<DS m 0 d+Db m 0 0 (U.drop o) d
 .rw[decide_eq_true hb]
  exact Lx (by omega)
 .rw[decide_eq_false hb]
  exact CK (by omega)
theorem AeD(d:List Nat)(hd:Limbs d)(o n:Nat)(hn:d.length<n):∀(k i:Nat) (U:List Nat) (c:Nat),d.length-i=k->i<=d.length->Limbs U->o+n<=U.length->U.length<=2000000000->c<=1->
  ∃ U':List Nat,U'=U.take (o+i)++Dc c (U.drop (o+i)) (d.drop i)++U.drop (o+d.length) ∧
   D.ask (.lp 135 0) [.sl 0 o n 1,eN d,.v (.int .u64 (c:Int)),eN d,iv (d.length:Int),iv (i:Int)] [θ (Ah eL U) Δ Δ]
    = Θ (.tup [iv 0,.sl 0 o n 1,eN d,.v (.int .u64 (CU c (U.drop (o+i)) (d.drop i):Int))],[.set (θ (Ah eL U') Δ Δ)]):=by
 intro k
 induction k with
 |zero=>
  intro i U c hi hle hU hoU hUl hc;obtain rfl:i=d.length:=by omega
  refine⟨U,?_,?_⟩
  .rw[AsY,Dc,ArB,ArW]
  .rw[AsY,CU]
   refine Au K Oz (Xo ..) ?_;exact CK (by omega)
 |succ k ih=>
  intro i U c hi hle hU hoU hUl hc;have hlt:i<d.length:=by omega
  have hou:o+i<U.length:=by omega
  have hx:=hd.get hlt;have hy:=hU.get hou;have hhd:(U.drop (o+i)).headD 0=U[o+i]:=by rw[κ hou];rfl
  have htl:(U.drop (o+i)).tail=U.drop (o+i+1):=by rw[AsI]
  have hmd:=ArF (U[o+i]+d[i]+c) (show 0<4294967296 by omega);rw[show d.drop i=d[i]::d.drop (i+1) from κ hlt,Dc,CU,hhd,htl];obtain⟨U',hU',g⟩:=ih (i+1) (U.set (o+i) ((U[o+i]+d[i]+c) % 4294967296)) ((U[o+i]+d[i]+c) / 4294967296) (by omega) (by omega) (IP hU hmd) (by rw[Are];exact hoU) (by rw[Are];exact hUl) (by omega);rw[show o+(i+1)=o+i+1 by omega,Pw hou,Ar3 (by omega),Ar3 (by omega)]at hU';rw[show o+(i+1)=o+i+1 by omega,Ar3 (show o+i<o+i+1 by omega)]at g;refine⟨U',by rw[hU'];simp only[AqY,ArI,Arm,Aq4],?_⟩;refine Au K Oz (Xo ..) ?_;refine Aj ?_;rw[Av,At (ξ hlt)];simp only[eL,Fu,ND,DK,Ab];rw[Av,show ArK i n=Δ from BK (by omega),show o+i*1=0+(o+i)*1 by omega];refine Ac ?_;refine(In U _ hou _).trans ?_;simp only[Fu,ND,DK,Ab];rw[Av,show ArK i n=Δ from BK (by omega)];refine Ac ?_;rw[show o+i*1=0+(o+i)*1 by omega,show AqZ (0+(o+i)*1+1) (Ah eL U).length=Δ by rw[AT AD];simp;omega];refine Ac ?_;refine Ag ?_ (by decide);rw[Bo (show U[o+i]<_ by omega),Bo (show d[i]<_ by omega),Cc (by omega),Cc (by omega),EW,C1,C7 _ _ _ hou,BA (by omega)];refine Aa g ?_;rfl
theorem WI{d:List Nat}(hd:Limbs d){o:Nat}{U:List Nat}(hU:Limbs U)(hl:o+d.length<U.length)(hUl:U.length<=1000000000) :
  D.ask (.fn 135) [.sl 0 o (d.length+1) 1,eN d] [θ (Ah eL U) Δ Δ]
   = Θ (.tup [],[.set (θ (Ah eL (U.take o++(Dc 0 (U.drop o) d++[(U[o+d.length]+CU 0 (U.drop o) d) % 4294967296])++U.drop (o+(d.length+1)))) Δ Δ)]):=by
 obtain⟨U',hU',g⟩:=AeD K d hd o (d.length+1) (Atu _) d.length 0 U 0 (by omega) (by omega) hU (by omega) (by omega) (by omega);simp only[ArG,AqQ]at hU' g;have hc:=NQ 0 (U.drop o) d (hU.drop o) hd (by omega);have hul:=hU.get hl;have hlen:U'.length=U.length:=by
  rw[hU'];simp only[υ,Aq9,Asr,Ek];omega
 have hjl:o+d.length<U'.length:=by omega
 have hpre:(U.take o++Dc 0 (U.drop o) d).length=o+d.length:=by
  rw[υ,Aq9,Ek];omega
 have hget:U'[o+d.length]=U[o+d.length]:=by
  have:U'[o+d.length]? = U[o+d.length]?:=by
   rw[hU',Arf (by omega),hpre,Ata,ArU,ArG]
  rw[ξ hjl,ξ hl]at this;injection this
 have hset:∀ v,U'.set (o+d.length) v=U.take o++(Dc 0 (U.drop o) d++[v])++U.drop (o+(d.length+1)):=λv=>by
  rw[hU',At9 _ _ (by omega),hpre,Ata,κ hl,Auj];simp only[AqY,ArI,Arm,Aq4];rw[Ars]
 refine AB K Oz (Ak5 ..) ?_;rw[Ak];refine Aa g ?_;simp only[eN,Fu,Vf,Ak,ND,DK,Ab];rw[show ArK d.length (d.length+1)=Δ from BK (Atu _),show o+d.length*1=0+(o+d.length)*1 by omega];refine Ac ?_;refine(In U' _ hjl _).trans ?_;refine(cuN _ _).trans ?_;refine Ac ?_;rw[show AqZ (0+(o+d.length)*1+1) (Ah eL U').length=Δ by rw[AT AD];simp;omega];refine Ac ?_;rw[hget,Bz (by omega),Af8,C7 _ _ _ hjl,hset]
end
def HN(f v ul:Nat):Nat->Nat->Nat->Nat
 |0,g,_=>g
 |k+1,g,r=>if 4294967296<=g\/r*4294967296+ul<g*v then(if 4294967296<=r+f then g-1 else HN f v ul k (g-1) (r+f)) else g
structure Gs (W Dv g:Nat):Prop where
 lt:g<4294967296
 hi:g*Dv<W+Dv
 lo:W<(g+1)*Dv
theorem We{P f v vl ul wl T W Dv:Nat}(hv:v<4294967296)(hvl:vl<P)(hwl:wl<P)(hf:2147483648<=f)(hDv:Dv=(f*4294967296+v)*P+vl)(hW:W=(T*4294967296+ul)*P+wl)(hWD:W<Dv*4294967296):∀(k g r:Nat),g*f+r=T->W<(g+1)*Dv->r<4294967296->4294967296<=r+k*f->Gs W Dv (HN f v ul k g r):=by
 have hTV:T<=f*4294967296+v:=by
  by_cases h:T<=f*4294967296+v
  .exact h
  .exfalso
   have h1:(f*4294967296+v+1)*4294967296*P<=(T*4294967296+ul)*P:=Ard _ (by omega);have h2:Dv*4294967296<=(f*4294967296+v+1)*4294967296*P:=by
    rw[hDv,Ark _ 4294967296 P,Arz 4294967296 P,←Ark];exact Ard _ (by rw[Art _ 1 P,Ar9];omega)
   omega
 have good:∀ g r,g*f+r=T->g<4294967296->g*v<=r*4294967296+ul->W<(g+1)*Dv->Gs W Dv g:=λg r h1 h2 h3 h4=>by
  refine⟨h2,?_,h4⟩;have h5:g*(f*4294967296+v)<=T*4294967296+ul:=by
   rw[←h1,ArR,Art,Ark];omega
  have:=AbQ (ul:=wl) hvl (show 4294967296<=f*4294967296+v by omega) (Nat.le_of_lt h2) h5;rw[hDv,hW];exact this
 intro k
 induction k with
 |zero=>intro g r _ _ h1 h2;omega
 |succ k ih=>
  intro g r h1 h2 h3 h4;rw[HN]
  by_cases hc:4294967296<=g\/r*4294967296+ul<g*v
  .rw[if_pos hc]
   have hg:1<=g:=by
    rcases hc with h|h
    .omega
    .rcases Ar8 g with e|e
     .rw[e]at h;omega
     .exact e
   obtain⟨g',rfl⟩:∃ g',g=g'+1:=⟨g-1,by omega⟩;rw[Ar1];have hlo:W<(g'+1)*Dv:=by
    rcases hc with h|h
    .have:4294967296*Dv<=(g'+1)*Dv:=Ard _ h
     rw[Arz]at this;omega
    .have h5:T*4294967296+ul<(g'+1)*(f*4294967296+v):=by
      rw[←h1,ArR,Art,Ark];omega
     have:=AbR (vl:=vl) hwl h5;rw[hDv,hW];exact this
   have hr:g'*f+(r+f)=T:=by
    rw[Art,Ar9]at h1;omega
   by_cases hb:4294967296<=r+f
   .rw[if_pos hb]
    have hgB:g'<4294967296:=by
     by_cases h:g'<4294967296
     .exact h
     .have:4294967296*f<=g'*f:=Ard _ (by omega)
      rw[Arz]at this;omega
    refine good g' (r+f) hr hgB ?_ hlo;have h6:g'*v<=4294967296*4294967296:=Nat.mul_le_mul (by omega) (by omega);have h7:4294967296*4294967296<=(r+f)*4294967296:=Ard _ hb;omega
   .rw[if_neg hb]
    exact ih g' (r+f) hr hlo (by omega) (by rw[Art,Ar9]at h4;omega)
  .rw[if_neg hc]
   have hc1:¬ 4294967296<=g:=λh=>hc (.inl h)
   have hc2:¬ r*4294967296+ul<g*v:=λh=>hc (.inr h)
   exact good g r h1 (by omega) (by omega) h2
theorem AbP{f v T:Nat}(hv:v<4294967296)(hf:2147483648<=f)(h:T<=f*4294967296+v):T / f<=4294967297:=by
 have h1:T<4294967298*f:=by
  rw[show 4294967298*f=f*4294967296+2*f by rw[Arz f];omega];omega
 have:=(As9 (show 0<f by omega)).2 h1;omega
theorem AdT{win d win':List Nat}{ul ul' W Dv g:Nat}(hn:win.length=d.length)(hn':win'.length=d.length)(hd:Limbs d)(hW:Ad (win++[ul])=W)(hDv:Ad d=Dv)(hG:Gs W Dv g){t:Nat}(hlw:Limbs (win'++[ul']))
  (hA:Ad (win'++[ul'])+g*Dv=W+(if ul<t then 4294967296 ^ (d.length+1) else 0)) :
  (¬ ul<t->Ad (win'++[ul'])+g*Dv=W/\Ad (win'++[ul'])<Dv) ∧
  (ul<t->1<=g/\(Ad (win'++[ul'])+Dv) % 4294967296 ^ (d.length+1)+(g-1)*Dv=W/\(Ad (win'++[ul'])+Dv) % 4294967296 ^ (d.length+1)<Dv):=by
 have hlt:=Bt hlw;have hdl:=Bt hd;rw[hDv]at hdl;have hpw:4294967296 ^ (d.length+1)=4294967296 ^ d.length*4294967296:=ArP ..;rw[υ,Ari,hn']at hlt;have hlo:=hG.lo;have hhi:=hG.hi;rw[Art,Ar9]at hlo;refine⟨λh=>?_,λh=>?_⟩
 .rw[if_neg h]at hA
  omega
 .rw[if_pos h]at hA
  have hg:1<=g:=by
   rcases Ar8 g with e|e
   .rw[e,Asm]at hA
    omega
   .exact e
  obtain⟨g',rfl⟩:∃ g',g=g'+1:=⟨g-1,by omega⟩;rw[Art,Ar9]at hA hhi;rw[Ar1];have e:(Ad (win'++[ul'])+Dv) % 4294967296 ^ (d.length+1)=Ad (win'++[ul'])+Dv-4294967296 ^ (d.length+1):=by
   rw[Nat.mod_eq_sub_mod (by omega)];refine ArT ?_;omega
  rw[e];omega
