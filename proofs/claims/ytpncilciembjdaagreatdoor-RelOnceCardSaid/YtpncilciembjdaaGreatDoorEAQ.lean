/- slices.Clone over this s -/
import Derived.Maps.AppendAt
import Derived.Test.YtpncilciembjdaaGreatDoorEAM
import Derived.Test.YtpncilciembjdaaGreatDoorEAO
import Derived.Test.YtpncilciembjdaaGreatDoorEAP
set_option linter.all false
open Bool renaming true->Δ,and_eq_true->ArX
open Int renaming fdiv_eq_ediv_of_nonneg->AuK,natCast_mul->At8,natCast_pow->AvC,tdiv->Avv,toNat_natCast->Avo
open List renaming append_assoc->Ar4,append_nil->AsX,cons_append->AsK,drop->ArV,drop_drop->At2,drop_eq_getElem_cons->ο,drop_eq_nil_of_le->Ar6,drop_length->At3,drop_set_of_lt->As4,drop_zero->ArT,eq_nil_of_length_eq_zero->Asx,flatten_cons->As6,getElem?_append_right->Ase,getElem?_drop->AsT,getElem?_eq_getElem->φ,getElem_set_self->Aux,headD_cons->Atg,length->Avt,length_append->η,length_cons->ε,length_drop->Ats,length_replicate->Auc,length_set->Asd,length_singleton->Asi,length_take->Asb,map_take->AuM,mem_of_mem_drop->As1,mem_or_eq_of_mem_set->AuR,mem_replicate->Avk,nil_append->Asg,replicate->Atb,set_append_right->Ava,set_cons_zero->Atq,set_eq_take_append_cons_drop->Auq,singleton_append->AtK,tail_cons->AtB,tail_drop->AtQ,take->ArQ,take_append_drop->AsU,take_length->Atc,take_nil->AuN,take_set_of_le->Avi,take_succ_cons->AtG,take_succ_eq_append_getElem->AsD
open Nat renaming add_assoc->Asy,add_comm->AvU,add_mod->Av0,add_mul->Asz,add_mul_div_left->AuC,add_sub_cancel->As2,add_zero->AsI,ble->ArY,blt->AsL,div_add_mod->AuD,div_lt_iff_lt_mul->Aue,eq_zero_or_pos->As9,le_refl->κ,lt_succ_self->Auw,min->AsY,min_eq_left->AsR,mod_eq_of_lt->As5,mod_lt->AsJ,mul_add->AsS,mul_assoc->Asp,mul_comm->AsF,mul_le_mul_right->Asa,mul_mod->Av1,mul_one->At0,ne_of_gt->AvY,one_mul->Ata,pow_succ->As7,sub_self->Auf,zero_add->Ar5,zero_le->AsB,zero_mul->Atu
open Option renaming none->Ξ,some->Θ
namespace Go.Proofs.YtpncilciembjdaaGreatDoor
noncomputable section
open ABlk renaming mk->δ
open AV renaming ls->Ψ,sl->χ,tup->ι,v->ArZ
open BO renaming set->ArU
open IntKind renaming i64->θ,u32->ζ,u64->Ω,u8->Avc
open Key renaming fn->ψ,lp->ArW
open Lib renaming hid->π,run_eql_slice_nil->Au7
open Option.some renaming injEq->ξ
open Tryz renaming prog->ArP
open Go.RowKit
theorem P0(a:Addr)(j:Nat):(a.add j).block=a.block:=by unfold Addr.add;split<;>rfl
set_option maxRecDepth 100000 in
set_option maxHeartbeats 4000000 in
theorem NV(w:World)(A:Option Addr)(n c:Nat)(us:List Value)(hn:us.length=n*3)(hc:n<=c)(hA:n≠0->∃ g o,A=Θ ⟨g,o,Ξ⟩/\∀ j u,us[j]? = Θ u->w.cell? ⟨g,o+j,Ξ⟩=Θ u)
  (h1:∀ u∈us,u.oneCell'=Δ) (hby:n*40<=140737488355328) :
  Calls ArP 135 #[.slice A n c] w λe w'=>∃ v',e=.returned v'/\w'.ownsRow w.heap.size 84 3 v' n us/\Below w.heap.size w w':=by
 obtain⟨i0,hi0,hz0,hz1,hz2⟩:=info_parts (show (Tryz.prog.info? 84).map (λi=>(i.zero,i.size,i.bytes))=Θ (Θ (.agg #[.int .i64 0,.bool false,.slice Ξ 0 0]),3,40) by kernel_rfl);have HU:=π hn;have HA:=π hA;have H1:=π h1;clear hn hA h1;have hq:∀(w:World) (a:Option Addr) (n c:Nat),(binOp .eql 22 (.slice a n c) (.slice Ξ 0 0)).run ArP w=.ok (.bool a.isNone) w:=λw a n c=>Au7 w _ _ a n c 0 0 Tryz.underlying22
 go_enter Tryz.func135,Tryz.ntmps135
 cases A with
 |none=>
  have h0:n=0:=by
   rcases As9 n with h|h
   .exact h
   .exfalso
    obtain⟨g,o,h2,_⟩:=HA.out (AvY h)
    cases h2
  subst h0
  go_wp2
  go_ret
  have hu:us=[]:=Asx (by rw[HU.out,Atu]);rw[hu];exact⟨_,rfl,World.ownsRow_nil _ _ _ _,Below.refl _ _⟩
 |some ad=>
  obtain⟨ag,ao,asp⟩:=ad;have hcells:∀ j u,us[j]? = Θ u->ag<w.heap.size/\w.cell? ((⟨ag,ao,asp⟩:Addr).add j)=Θ u:=λj u hj=>by
   have hn0:n≠0:=by
    rintro rfl;have hu:us=[]:=Asx (by rw[HU.out,Atu]);rw[hu]at hj
    cases hj
   obtain⟨g,o,h2,h3⟩:=HA.out hn0
   cases h2
   have h5:=h3 j u hj;exact⟨Dg h5,by rw[Hu];exact h5⟩
  have HC:=π hcells;clear hcells
  go_wp2_with (at_builtin;refine wpList_append_own_at _ rfl _ _ 22 rfl w.heap.size 84 i0 (.agg #[.int .i64 0,.bool false,.slice Ξ 0 0]) 3 40 Tryz.underlying22 hi0 hz0 hz1 hz2 rfl (by decide) _ 0 [] rfl ?c0 ⟨ag,ao,asp⟩ n c us rfl HU.out ?c1 H1.out ?c3 ?c4 ?c5 ?_)
  case c0=>exact⟨by simp,.inr ⟨w.heap.size,0,#[],rfl,κ _,heap_alloc_new _ _,κ _,AsB _,by simp,by simp⟩⟩
  case c1=>
   intro j u hj;have:=HC.out j u hj;exact((Bb w (.cells #[] 84)).cell (p:=(⟨ag,ao,asp⟩:Addr).add j) (by rw[P0];exact this.1)).trans this.2
  case c3=>unfold maxLen;omega
  case c4=>omega
  case c5=>exact(Bb w _).size
  intro v' w3 hown hgrow _ _
  try simp only[Ar5,Asg]at hown
  have HO:=π hown;have HB:=π ((Bb w (.cells #[] 84)).grown hgrow (Bb w _).size (λk hk=>by have hk:Θ w.heap.size=Θ k:=hk;cases hk;exact κ _));clear hown hgrow
  go_wp2_with fail
  go_ret
  exact⟨_,rfl,HO.out,HB.out⟩
set_option maxRecDepth 100000 in
set_option maxHeartbeats 4000000 in
theorem Vw(w:World)(A:Option Addr)(n c:Nat)(us:List Value)(hn:us.length=n*1)(hc:n<=c)(hA:n≠0->∃ g o,A=Θ ⟨g,o,Ξ⟩/\∀ j u,us[j]? = Θ u->w.cell? ⟨g,o+j,Ξ⟩=Θ u)
  (h1:∀ u∈us,u.oneCell'=Δ) (hby:n*4<=140737488355328) :
  Calls ArP 236 #[.slice A n c] w λe w'=>∃ v',e=.returned v'/\w'.ownsRow w.heap.size 134 1 v' n us/\Below w.heap.size w w':=by
 obtain⟨i0,hi0,hz0,hz1,hz2⟩:=info_parts (show (Tryz.prog.info? 134).map (λi=>(i.zero,i.size,i.bytes))=Θ (Θ (.int .u32 0),1,4) by kernel_rfl);have HU:=π hn;have HA:=π hA;have H1:=π h1;clear hn hA h1;have hq:∀(w:World) (a:Option Addr) (n c:Nat),(binOp .eql 24 (.slice a n c) (.slice Ξ 0 0)).run ArP w=.ok (.bool a.isNone) w:=λw a n c=>Au7 w _ _ a n c 0 0 Tryz.underlying24
 go_enter Tryz.func236,Tryz.ntmps236
 cases A with
 |none=>
  have h0:n=0:=by
   rcases As9 n with h|h
   .exact h
   .exfalso
    obtain⟨g,o,h2,_⟩:=HA.out (AvY h)
    cases h2
  subst h0
  go_wp2
  go_ret
  have hu:us=[]:=Asx (by rw[HU.out,Atu]);rw[hu];exact⟨_,rfl,World.ownsRow_nil _ _ _ _,Below.refl _ _⟩
 |some ad=>
  obtain⟨ag,ao,asp⟩:=ad;have hcells:∀ j u,us[j]? = Θ u->ag<w.heap.size/\w.cell? ((⟨ag,ao,asp⟩:Addr).add j)=Θ u:=λj u hj=>by
   have hn0:n≠0:=by
    rintro rfl;have hu:us=[]:=Asx (by rw[HU.out,Atu]);rw[hu]at hj
    cases hj
   obtain⟨g,o,h2,h3⟩:=HA.out hn0
   cases h2
   have h5:=h3 j u hj;exact⟨Dg h5,by rw[Hu];exact h5⟩
  have HC:=π hcells;clear hcells
  go_wp2_with (at_builtin;refine wpList_append_own_at _ rfl _ _ 24 rfl w.heap.size 134 i0 (.int .u32 0) 1 4 Tryz.underlying24 hi0 hz0 hz1 hz2 rfl (by decide) _ 0 [] rfl ?c0 ⟨ag,ao,asp⟩ n c us rfl HU.out ?c1 H1.out ?c3 ?c4 ?c5 ?_)
  case c0=>exact⟨by simp,.inr ⟨w.heap.size,0,#[],rfl,κ _,heap_alloc_new _ _,κ _,AsB _,by simp,by simp⟩⟩
  case c1=>
   intro j u hj;have:=HC.out j u hj;exact((Bb w (.cells #[] 134)).cell (p:=(⟨ag,ao,asp⟩:Addr).add j) (by rw[P0];exact this.1)).trans this.2
  case c3=>unfold maxLen;omega
  case c4=>omega
  case c5=>exact(Bb w _).size
  intro v' w3 hown hgrow _ _
  try simp only[Ar5,Asg]at hown
  have HO:=π hown;have HB:=π ((Bb w (.cells #[] 134)).grown hgrow (Bb w _).size (λk hk=>by have hk:Θ w.heap.size=Θ k:=hk;cases hk;exact κ _));clear hown hgrow
  go_wp2_with fail
  go_ret
  exact⟨_,rfl,HO.out,HB.out⟩
section
variable {μ:Mu} {F:AI} {w:World} {g:Nat}
theorem W7:∀(xs:List AV) (o:Nat),RepAt μ F w g xs o->∃ us,RepList μ F w xs us/\∀ j u,us[j]? = Θ u->w.cell? ⟨g,o+j,Ξ⟩=Θ u
 |[],o,_=>⟨[],rfl,λj u h=>by simp at h⟩
 |x::r,o,h=>by
  simp only[RepAt]at h;obtain⟨⟨_,u,h2,h3⟩,h4⟩:=h;obtain⟨us,h5,h6⟩:=W7 r (o+1) h4;refine⟨u::us,⟨u,us,rfl,h3,h5⟩,λj v hj=>?_⟩
  cases j with
  |zero=>simp at hj;subst hj;exact h2
  |succ j=>
   have:=h6 j v (by simpa using hj)
   rwa [show o+1+j=o+(j+1) by omega]at this
theorem LP{e:Nat}:∀(xs:List (List AV)) (o:Nat),RepRows μ F w g e xs o->∃ us,RepList μ F w xs.flatten us/\∀ j u,us[j]? = Θ u->w.cell? ⟨g,o+j,Ξ⟩=Θ u
 |[],o,_=>⟨[],rfl,λj u h=>by simp at h⟩
 |x::r,o,h=>by
  simp only[RepRows]at h;obtain⟨h1,h2,h3⟩:=h;obtain⟨us,a1,a2⟩:=W7 x o h2;obtain⟨vs,b1,b2⟩:=LP r (o+e) h3;refine⟨us++vs,by rw[As6];exact RepList.append a1 b1,λj v hj=>?_⟩;have hl:us.length=e:=by rw[a1.length,h1]
  by_cases hj2:j<us.length
  .exact a2 j v (by rwa [List.getElem?_append_left hj2]at hj)
  .rw[Ase (by omega),hl]at hj
   have:=b2 (j-e) v hj
   rwa [show o+e+(j-e)=o+j by omega]at this
end
def By(e B:Nat):List AV->Option (Nat × List AV)
 |[.ls xs]=>if(CU e xs&&EJ (B8 xs)&&AQ (B8 xs)&&ArY (Al xs*B) 140737488355328)=Δ then Θ (Al xs,B8 xs) else Ξ
 |_=>Ξ
theorem Jm{P:Program}{f:Nat}{ety:TypeId}(e B:Nat) (h:∀(w:World) (A:Option Addr) (n c:Nat) (us:List Value),us.length=n*e->n<=c->(n≠0->∃ g o,A=Θ ⟨g,o,Ξ⟩/\∀ j u,us[j]? = Θ u->w.cell? ⟨g,o+j,Ξ⟩=Θ u)->
  (∀ u∈us,u.oneCell'=Δ)->n*B<=140737488355328->Calls P f #[.slice A n c] w λe' w'=>∃ v',e'=.returned v'/\w'.ownsRow w.heap.size ety e v' n us/\Below w.heap.size w w'):Bu (BD P f) (Dd e (By e B)):=by
 refine Lo (CO P f) e _ λargs n cells hr=>?_
 unfold By at hr;split at hr
 .rename_i xs
  split at hr
  .rename_i hc
   simp only[ArX,Nat.ble_eq]at hc;obtain⟨⟨⟨c1,c2⟩,c3⟩,c4⟩:=hc;rw[Ip]at c1;rw[JW]at c2 c3;rw[GU]at c4;simp only[ξ,Prod.mk.injEq]at hr;obtain⟨rfl,rfl⟩:=hr;rw[GU,JW];have hlen:xs.flatten.length=xs.length*e:=by
    clear c2 c3 c4
    induction xs with
    |nil=>simp
    |cons x r ih=>
     rw[List.all_cons,ArX]at c1;rw[As6,η,ih c1.2,ε,Asz,Ata];have:x.length=e:=by simpa using c1.1
     omega
   refine⟨c3,hlen,λμ F w us hF hus=>?_⟩;obtain⟨v,t,rfl,hv,ht⟩:=hus;have ht:t=[]:=ht;subst ht;unfold Rep at hv;obtain⟨_,A,c,rfl,h2,_,h4⟩:=hv;have key:∃ vs,RepList μ F w xs.flatten vs/\(xs.length≠0->∃ g o,A=Θ ⟨g,o,Ξ⟩/\∀ j u,vs[j]? = Θ u->w.cell? ⟨g,o+j,Ξ⟩=Θ u):=by
    by_cases hx:xs=[]
    .subst hx
     exact⟨[],rfl,λh=>absurd rfl h⟩
    .obtain⟨g,o,e',hA,hr⟩:=h4 hx
     obtain⟨vs,k1,k2⟩:=LP xs o hr;exact⟨vs,k1,λ_=>⟨g,o,hA,k2⟩⟩
   obtain⟨vs,k1,k2⟩:=key;have hone:∀ u∈vs,u.oneCell'=Δ:=λu hu=>by
    obtain⟨j,hj,rfl⟩:=List.getElem_of_mem hu;have hj2:j<xs.flatten.length:=by rw[←k1.length];exact hj
    obtain⟨u,a1,a2⟩:=k1.get (φ hj2);rw[φ hj]at a1
    cases a1
    rw[FO]at c2;exact a2.one (List.all_eq_true.1 c2 _ (List.getElem_mem hj2))
   refine Calls.mono (h w A xs.length c vs (by rw[k1.length,hlen]) h2 k2 hone c4) ?_;rintro e' w' ⟨v',rfl,ho,hb⟩;exact⟨v',rfl,ety,vs,ho,hb,k1⟩
  .cases hr
 .cases hr
theorem E7:Bu (BD ArP 236) (Dd 1 (By 1 4)):=Jm 1 4 λw A n c us h1 h2 h3 h4 h5=>Vw w A n c us h1 h2 h3 h4 h5
theorem GO:Bu (BD ArP 135) (Dd 3 (By 3 40)):=Jm 3 40 λw A n c us h1 h2 h3 h4 h5=>NV w A n c us h1 h2 h3 h4 h5
theorem CS(x:Nat):Ae.conv .u32 (x:Int)=((x % 4294967296:Nat):Int):=by
 show IntKind.u32.wrap (x:Int)=_
 rw[IntKind.wrap_u32];omega
theorem Bq{x:Nat}(h:x<4294967296):Ae.conv .u32 (x:Int)=(x:Int):=by rw[CS,As5 h]
theorem Bg{x:Nat}(h:x<18446744073709551616):Ae.conv .u64 (x:Int)=(x:Int):=by
 show IntKind.u64.wrap (x:Int)=_
 rw[IntKind.wrap_u64];omega
theorem BZ{x y:Nat}(h:x+y<18446744073709551616):Ae.add .u64 (x:Int) (y:Int)=((x+y:Nat):Int):=by
 show IntKind.u64.wrap ((x:Int)+(y:Int))=_
 rw[IntKind.wrap_u64];omega
theorem D4{x y:Nat}(h:y<=x)(h2:x<18446744073709551616):Ae.sub .u64 (x:Int) (y:Int)=((x-y:Nat):Int):=by
 show IntKind.u64.wrap ((x:Int)-(y:Int))=_
 rw[IntKind.wrap_u64];omega
theorem KE{x y:Nat}(h:x*y<18446744073709551616):Ae.mul .u64 (x:Int) (y:Int)=((x*y:Nat):Int):=by
 show IntKind.u64.wrap ((x:Int)*(y:Int))=_
 rw[IntKind.wrap_u64,←At8];omega
theorem EW(x:Nat):Ae.shr .u64 (x:Int) 32=((x / 4294967296:Nat):Int):=by
 show Int.fdiv (x:Int) (2 ^ 32)=_
 have:(2 ^ 32:Int)=((4294967296:Nat):Int):=by decide
 rw[this,AuK _ (by omega)];rfl
theorem Ahy(x y:Nat):Ae.add .u32 (x:Int) (y:Int)=(((x+y) % 4294967296:Nat):Int):=by
 show IntKind.u32.wrap ((x:Int)+(y:Int))=_
 rw[IntKind.wrap_u32];omega
theorem Ps{i j:Nat}(h:j<=i)(h2:i<4611686018427387904):Ae.sub .i64 (i:Int) (j:Int)=((i-j:Nat):Int):=by
 rw[DB (by omega) (by omega)];omega
theorem AaS{i j:Nat}(h2:i+j<4611686018427387904):Ae.add .i64 (i:Int) (j:Int)=((i+j:Nat):Int):=by
 rw[EM (by omega) (by omega)];omega
theorem FX(kd:IntKind)(n:Int)(r:List AV)(k:Int->List AV->KR):MP kd (.v (.int kd n)::r) k=k n r:=by simp[MP]
theorem PX(kd:IntKind)(n:Int)(k:Int->KR):Jd kd (.v (.int kd n)) k=k n:=by simp[Jd]
theorem Tx(n:Nat)(k:Int->List AV->KR)(r:List AV):MP .u32 (.v (.int .u32 (n:Int))::r) k=k n r:=rfl
theorem S3(l:List Nat):CU 1 (l.map eL)=Δ:=IW AA l
theorem AlL(l:List Nat):EJ (B8 (l.map eL))=Δ:=by rw[Dw];exact Gm (λ_=>rfl) l
theorem Ahi(l:List Nat):AQ (B8 (l.map eL))=Δ:=by
 rw[Dw]
 induction l with
 |nil=>rfl
 |cons x r ih=>exact ih
theorem MF(l:List Nat)(n:Nat):AP (AS (l.map eL) n) 0=(l.take n).map eL:=by
 rw[K0,J3,ArT,AuM]
theorem Ht:∀(a b:List Nat) (c:Nat),(K9 c a b).length=a.length+1
 |[],_,_=>rfl
 |x::a,b,c=>by rw[K9,ε,Ht a,ε]
theorem Gb{a b:Nat}(h:(Ah a).length<(Ah b).length):a<b:=by
 by_cases h2:a<b
 .exact h2
 .have h3:Aq b=Aq b:=rfl
  have h4:0<(Ah b).length:=by omega
  have hb:4294967296 ^ ((Ah b).length-1)<=b:=by
   by_cases h5:4294967296 ^ ((Ah b).length-1)<=b
   .exact h5
   .have:=Bz (n:=b) (k:=(Ah b).length-1) (by omega)
    omega
  have h6:=H7 (n:=a) (k:=(Ah b).length-1) (by omega);omega
def BU(l:List Nat):Prop:=l.length<=1000000000
theorem DH{l:List Nat}(h:Limbs l)(h2:BU l):BU (Ah (Ad l)):=by
 unfold BU at *;rw[Dz l h];have:=Cs l;omega
structure CloneF (D:Orc):Prop where
 nat:∀ l:List Nat,BU l->D.ask (.fn 236) [eN l] []=Θ (.sl 0 0 l.length 1,[.set (δ (Ag eL l) Δ Δ)])
theorem IC{l:List Nat}(h:BU l):Dd 1 (By 1 4) [eN l] []=Θ (.sl 0 0 l.length 1,[.set (δ (Ag eL l) Δ Δ)]):=by
 unfold Dd By eN;have h4:ArY (Al (l.map eL)*4) 140737488355328=Δ:=by
  rw[Ao];unfold BU at h;simp;omega
 simp only[S3,AlL,Ahi,h4,Bool.and_true,if_true,Option.map_some];rw[Ao,Dw]
section
variable {D:Orc} (K:Knows At Hg D)
include K
theorem Ah5(l:List Nat)(hl:BU l):∀(n:Nat),n<=l.length->CC l<=n->D.ask (.lp 200 0) [eN l,iv (n:Int)] []=Θ (.tup [iv 0,eN l,iv (CC l:Int)],[]):=by
 intro n;have hl':=hl;unfold BU at hl'
 induction n with
 |zero=>
  intro _ ht;refine Ax K TV (Abt ..) ?_;refine Ak ?_;rw[show CC l=0 by omega];rfl
 |succ n ih=>
  intro hn ht;refine Ax K TV (Abt ..) ?_;refine Ap ?_;rw[show Ae.sub .i64 ((n+1:Nat):Int) 1=(n:Int) from (Ps (i:=n+1) (j:=1) (by omega) (by omega)).trans (by simp)];rw[Au,AB (φ (show n<l.length by omega))];simp only[eL,Tx,ND,DK,Aa]
  by_cases h0:l[n]=0
  .refine Bt ?_ (by rw[h0];rfl)
   refine Ab (ih (by omega) (L8 ht (by rw[φ (show n<l.length by omega),h0]))) ?_;rfl
  .refine Ba ?_
   have:=Ns (φ (show n<l.length by omega)) h0;rw[show CC l=n+1 by omega];rfl
theorem E4{l:List Nat}(hl:BU l)(h:Limbs l):D.ask (.fn 200) [eN l] []=Θ (eN (Ah (Ad l)),[]):=by
 refine AC K TV (ApZ ..) ?_;rw[Ao];refine Ab (Ah5 K l hl _ (κ _) (Cs l)) ?_;simp only[eN,ND,DK,Aa];rw[Au,Ao,S3,MF,In h];rw[show IJ 0 (CC l) l.length=Δ by unfold IJ;rw[show ArY 0 (CC l)=Δ by simp];simpa using Cs l];rfl
variable (C:CloneF D)
include C
theorem FA{l:List Nat}(hl:BU l)(h:Limbs l):D.ask (.fn 202) [eN l] []=Θ (eN (Ah (Ad l)),[]):=by
 refine AC K Aje (Ap1 ..) ?_;refine Ab (E4 K hl h) ?_;simp only[eN,ND,DK,Aa];have g:=C.nat _ (DH h hl);unfold eN at g;refine Ab g ?_;simp only[ND,DK,Aa];rw[A1 AA _ (by omega)];refine Ac ?_;rw[Bw AA _ rfl]
theorem Aix(n:Nat)(h:n<18446744073709551616):D.ask (.fn 184) [.v (.int .u64 (n:Int))] []=Θ (eN (Ah n),[]):=by
 refine AC K Aja (ApR ..) ?_;refine Ak ?_ (by decide);rw[CS,EW,CS];have hl:Limbs [n % 4294967296,n / 4294967296 % 4294967296]:=Bc (AsJ _ (by omega)) (Bc (AsJ _ (by omega)) BG);have g:=FA K C (l:=[n % 4294967296,n / 4294967296 % 4294967296]) (by unfold BU;simp) hl;rw[show Ad [n % 4294967296,n / 4294967296 % 4294967296]=n by simp only[Ad];omega]at g;refine Ab g ?_;rfl
omit C in
theorem Akj(a b:List Nat)(ha:Limbs a)(hb:Limbs b)(hab:a.length=b.length)(hs:BU a):∀(n:Nat),n<=a.length->D.ask (.lp 201 0) [eN a,eN b,iv ((n:Int)-1)] []
  = Θ (if CJ (Ad (a.take n)) (Ad (b.take n))=0 then .tup [iv 1] else .tup [bv Δ,iv (CJ (Ad (a.take n)) (Ad (b.take n)))],[]):=by
 intro n;unfold BU at hs
 induction n with
 |zero=>
  intro _;refine Ax K TW (Abu ..) ?_;refine CA ?_;rfl
 |succ n ih=>
  intro hn;refine Ax K TW (Abu ..) ?_;rw[show (((n+1:Nat):Int)-1)=(n:Int) by omega];refine Cg ?_;have h1:n<a.length:=by omega
  have h2:n<b.length:=by omega
  have e1:a.take (n+1)=a.take n++[a[n]]:=by rw[AsD h1]
  have e2:b.take (n+1)=b.take n++[b[n]]:=by rw[AsD h2]
  rw[e1,e2,NZ (ha.take n) (hb.take n) (by simp;omega)];simp only[Au,AB (φ h1),AB (φ h2),eL,Tx,ND,DK,Aa]
  by_cases h3:a[n]<b[n]
  .refine Ap ?_
   rw[if_pos h3];rfl
  .refine Ak ?_
   rw[if_neg h3]
   by_cases h4:b[n]<a[n]
   .refine Ap ?_
    rw[if_pos h4];rfl
   .refine Ak ?_
    rw[if_neg h4];rw[show Ae.sub .i64 (n:Int) 1=(n:Int)-1 from DB (by omega) (by omega)];refine Ab (ih (by omega)) ?_
    by_cases h5:CJ (Ad (a.take n)) (Ad (b.take n))=0
    .rw[if_pos h5];rfl
    .rw[if_neg h5];rfl
omit C in
theorem Vi{a b:List Nat}(hsa:BU a)(ha:Limbs a)(hsb:BU b)(hb:Limbs b):D.ask (.fn 201) [eN a,eN b] []=Θ (iv (CJ (Ad a) (Ad b)),[]):=by
 have s1:=DH ha hsa;have s2:=DH hb hsb;unfold BU at s1 s2;refine AC K TW (Ap0 ..) ?_;refine Ab (E4 K hsa ha) ?_;simp only[eN,ND,DK,Aa];refine Ab (E4 K hsb hb) ?_;simp only[eN,ND,DK,Aa,Ao];generalize Ad a=x at *;generalize Ad b=y at *
 by_cases h1:(Ah x).length<(Ah y).length
 .refine Ap ?_
  have:=Gb h1;unfold CJ;rw[if_pos this]
 .refine Ak ?_
  by_cases h2:(Ah y).length<(Ah x).length
  .refine Ap ?_
   have:=Gb h2;unfold CJ;rw[if_neg (by omega),if_pos this]
  .refine Ak ?_
   have hx:(Ah x).length=(Ah y).length:=by omega
   have g:=Akj K (Ah x) (Ah y) (Aq x) (Aq y) hx s1 (Ah x).length (κ _);rw[Atc,hx,Atc,Az,Az]at g;rw[show Ae.sub .i64 ((Ah x).length:Int) 1=((Ah x).length:Int)-1 from DB (by omega) (by omega),hx];refine Ab g ?_
   by_cases h5:CJ x y=0
   .rw[if_pos h5,h5];rfl
   .rw[if_neg h5];rfl
omit C in
theorem AaN(b:List Nat)(hb:Limbs b)(a:List Nat)(ha:Limbs a)(hs:BU a):∀(k i:Nat) (out:List Nat) (c:Nat),a.length-i=k->i<=a.length->b.length<=a.length->c<=1->out.length+k<=2000000000->
  ∃(o:List Nat) (c':Nat),D.ask (.lp 197 0) [eN b,.sl 0 0 out.length 1,.v (.int .u64 (c:Int)),eN a,iv (a.length:Int),iv (i:Int)] [δ (Ag eL out) Δ Δ]
   = Θ (.tup [iv 0,.sl 1 0 o.length 1,.v (.int .u64 (c':Int))],[.del,.set (δ (Ag eL o) Δ Δ)])/\c'<=1/\o++[c']=out++K9 c (a.drop i) (b.drop i):=by
 intro k;unfold BU at hs
 induction k with
 |zero=>
  intro i out c hi hle hba hc ho;refine⟨out,c,?_,hc,?_⟩
  .refine Ax K TT (Abr ..) ?_
   refine Ak ?_;rfl
  .rw[show a.drop i=[] from Ar6 (by omega)]
   rfl
 |succ k ih=>
  intro i out c hi hle hba hc ho;have hlt:i<a.length:=by omega
  have hx:=ha.get hlt;have hbd:=DZ (hb.drop i);have hdt:(b.drop i).tail=b.drop (i+1):=by rw[AtQ]
  rw[show a.drop i=a[i]::a.drop (i+1) from ο hlt];obtain⟨o,c',h1,h2,h3⟩:=ih (i+1) (out++[(a[i]+(b.drop i).headD 0+c) % 4294967296]) ((a[i]+(b.drop i).headD 0+c) / 4294967296) (by omega) (by omega) hba (by omega) (by simp;omega);refine⟨o,c',?_,h2,?_⟩
  .refine Ax K TT (Abr ..) ?_
   refine Ap ?_;rw[Au,AB (φ hlt)];have hf:Bj (out.length+1) 4=Δ:=AY (by omega) (by omega);have hb1:ArY (0+out.length*1) (Ag eL out).length=Δ:=A1 AA out (by omega);have e3:∀ s:Nat,ArV 0 (ArQ (0+out.length*1) (Ag eL out))++[.v (.int .u32 (s:Int))]=Ag eL (out++[s]):=λs=>by
    rw[ArT,Bk AA out (by omega)];exact Bn eL out s
   rw[η,Asi]at h1;simp only[eL,Tx,ND,DK,Aa,Ao];rw[BV (by omega)]
   by_cases hib:i<b.length
   .have hd:(b.drop i).headD 0=b[i]:=by rw[ο hib];rfl
    rw[hd]at h1 hbd;refine Ap ?_;rw[Au,AB (φ hib)];simp only[eL,Tx,ND,DK,Aa];rw[Bg (by omega),Bg (by omega),BZ (by omega),BZ (by omega),CS,EW,hf,hb1,e3];rw[show a[i]+c+b[i]=a[i]+b[i]+c by omega];refine Ac ?_;refine Ac ?_;refine Ak ?_ (by decide);refine Ab h1 ?_;rfl
   .have hd:(b.drop i).headD 0=0:=by rw[Ar6 (by omega)];rfl
    rw[hd]at h1;refine Ak ?_;rw[Bg (by omega),BZ (by omega),CS,EW,hf,hb1,e3];rw[show a[i]+c=a[i]+0+c by omega];refine Ac ?_;refine Ac ?_;refine Ak ?_ (by decide);refine Ab h1 ?_;rfl
  .rw[h3,K9,hdt,Ar4]
   rfl
theorem Aki{a b:List Nat}(hsa:a.length<=999999999)(ha:Limbs a)(hsb:b.length<=999999999)(hb:Limbs b):D.ask (.fn 197) [eN a,eN b] []=Θ (eN (Ah (Ad a+Ad b)),[]):=by
 have s1:=DH ha (by unfold BU;omega);have s2:=DH hb (by unfold BU;omega);have t1:(Ah (Ad a)).length<=999999999:=by rw[Dz a ha];have:=Cs a;omega
 have t2:(Ah (Ad b)).length<=999999999:=by rw[Dz b hb];have:=Cs b;omega
 refine AC K TT (ApW ..) ?_;refine Ab (E4 K (by unfold BU;omega) ha) ?_;simp only[eN,ND,DK,Aa];refine Ab (E4 K (by unfold BU;omega) hb) ?_;simp only[eN,ND,DK,Aa,Ao];generalize Ad a=x at *;generalize Ad b=y at *
 by_cases h1:(Ah x).length<(Ah y).length
 .refine Ap ?_
  have hl:Limbs (K9 0 (Ah y) (Ah x)):=Jf _ _ _ (Aq _) (Aq _) (by omega);obtain⟨o,c',g,hc,ho⟩:=AaN K (Ah x) (Aq x) (Ah y) (Aq y) s2 (Ah y).length 0 [] 0 (by omega) (by omega) (by omega) (by omega) (by unfold BU at s2;simp;omega);rw[Asg,ArT,ArT]at ho;have hol:o.length=(Ah y).length:=by
   have:=congrArg Avt ho;rw[η,Ht]at this;simpa using this
  have hsx:=s2;unfold BU at hsx;rw[show Ae.add .i64 ((Ah y).length:Int) 1=(((Ah y).length+1:Nat):Int) from BV (by omega),Au];rw[AY (n:=(Ah y).length+1) (b:=4) (by omega) (by omega)];refine Ac ?_;refine Ab g ?_;simp only[FX,ND,DK,Aa];rw[Bq (by omega)];have e3:ArV 0 (ArQ (0+o.length*1) (Ag eL o))++[.v (.int .u32 (c':Int))]=Ag eL (o++[c']):=by
   rw[ArT,Bk AA o (by omega)];exact Bn eL o c'
  rw[AY (n:=o.length+1) (b:=4) (by omega) (by omega),A1 AA o (by omega),e3,A1 AA (o++[c']) (by simp)];refine Ac ?_;refine Ac ?_;refine Ac ?_;rw[ArT,Bk AA (o++[c']) (by simp),show Be (o.length+1) 1 (Ag eL (o++[c']))=(o++[c']).map eL from by have:=CE AA (o++[c']);rwa [η]at this];rw[ho];have gt:=FA K C (l:=K9 0 (Ah y) (Ah x)) (by unfold BU;rw[Ht];omega) hl;rw[Mc _ _ _ (by omega),Az,Az]at gt;refine Ab gt ?_;rw[show 0+y+x=x+y by omega];rfl
 .refine Ak ?_
  have hl:Limbs (K9 0 (Ah x) (Ah y)):=Jf _ _ _ (Aq _) (Aq _) (by omega);obtain⟨o,c',g,hc,ho⟩:=AaN K (Ah y) (Aq y) (Ah x) (Aq x) s1 (Ah x).length 0 [] 0 (by omega) (by omega) (by omega) (by omega) (by unfold BU at s1;simp;omega);rw[Asg,ArT,ArT]at ho;have hol:o.length=(Ah x).length:=by
   have:=congrArg Avt ho;rw[η,Ht]at this;simpa using this
  have hsx:=s1;unfold BU at hsx;rw[show Ae.add .i64 ((Ah x).length:Int) 1=(((Ah x).length+1:Nat):Int) from BV (by omega),Au];rw[AY (n:=(Ah x).length+1) (b:=4) (by omega) (by omega)];refine Ac ?_;refine Ab g ?_;simp only[FX,ND,DK,Aa];rw[Bq (by omega)];have e3:ArV 0 (ArQ (0+o.length*1) (Ag eL o))++[.v (.int .u32 (c':Int))]=Ag eL (o++[c']):=by
   rw[ArT,Bk AA o (by omega)];exact Bn eL o c'
  rw[AY (n:=o.length+1) (b:=4) (by omega) (by omega),A1 AA o (by omega),e3,A1 AA (o++[c']) (by simp)];refine Ac ?_;refine Ac ?_;refine Ac ?_;rw[ArT,Bk AA (o++[c']) (by simp),show Be (o.length+1) 1 (Ag eL (o++[c']))=(o++[c']).map eL from by have:=CE AA (o++[c']);rwa [η]at this];rw[ho];have gt:=FA K C (l:=K9 0 (Ah x) (Ah y)) (by unfold BU;rw[Ht];omega) hl;rw[Mc _ _ _ (by omega),Az,Az]at gt;refine Ab gt ?_;rw[show 0+x+y=x+y by omega];rfl
omit C in
theorem Akp(b:List Nat)(hb:Limbs b)(a:List Nat)(ha:Limbs a)(hs:BU a):∀(k i:Nat) (out:List Nat) (c:Nat),a.length-i=k->i<=a.length->c<=1->out.length+k<=2000000000->
  D.ask (.lp 198 0) [eN b,.sl 0 0 out.length 1,.v (.int .u64 (c:Int)),eN a,iv (a.length:Int),iv (i:Int)] [δ (Ag eL out) Δ Δ]
   = Θ (.tup [iv 0,.sl 1 0 (out++G5 c (a.drop i) (b.drop i)).length 1],[.del,.set (δ (Ag eL (out++G5 c (a.drop i) (b.drop i))) Δ Δ)]):=by
 intro k;unfold BU at hs
 induction k with
 |zero=>
  intro i out c hi hle hc ho;refine Ax K TU (Abs ..) ?_;refine Ak ?_;rw[show a.drop i=[] from Ar6 (by omega)];simp only[G5,AsX]
  all_goals rfl
 |succ k ih=>
  intro i out c hi hle hc ho;have hlt:i<a.length:=by omega
  have hx:=ha.get hlt;have hbd:=DZ (hb.drop i);have hdt:(b.drop i).tail=b.drop (i+1):=by rw[AtQ]
  rw[show a.drop i=a[i]::a.drop (i+1) from ο hlt,G5,hdt];have h1:=ih (i+1) (out++[if a[i]<(b.drop i).headD 0+c then a[i]+4294967296-((b.drop i).headD 0+c) else a[i]-((b.drop i).headD 0+c)]) (if a[i]<(b.drop i).headD 0+c then 1 else 0) (by omega) (by omega) (by split<;>omega) (by simp;omega);rw[Ar4,η,Asi]at h1;refine Ax K TU (Abs ..) ?_;refine Ap ?_;rw[Au,AB (φ hlt)];have hf:Bj (out.length+1) 4=Δ:=AY (by omega) (by omega);have hb1:ArY (0+out.length*1) (Ag eL out).length=Δ:=A1 AA out (by omega);have e3:∀ s:Nat,ArV 0 (ArQ (0+out.length*1) (Ag eL out))++[.v (.int .u32 (s:Int))]=Ag eL (out++[s]):=λs=>by
   rw[ArT,Bk AA out (by omega)];exact Bn eL out s
  simp only[eL,Tx,ND,DK,Aa,Ao];rw[BV (by omega)]
  by_cases hib:i<b.length
  .have hd:(b.drop i).headD 0=b[i]:=by rw[ο hib];rfl
   rw[hd]at h1 hbd;rw[hd];refine Ap ?_;rw[Au,AB (φ hib)];simp only[eL,Tx,ND,DK,Aa];rw[Bg (show a[i]<_ by omega),Bg (show b[i]<_ by omega),BZ (by omega)]
   by_cases hlt2:a[i]<b[i]+c
   .refine Ap ?_
    rw[if_pos hlt2,if_pos hlt2]at h1;rw[if_pos hlt2,if_pos hlt2];rw[show (4294967296:Int)=((4294967296:Nat):Int) from rfl,BZ (by omega),show c+b[i]=b[i]+c by omega,D4 (by omega) (by omega),Bq (by omega),hf,hb1,e3];refine Ac ?_;refine Ac ?_;refine Ab h1 ?_;rfl
   .refine Ak ?_
    rw[if_neg hlt2,if_neg hlt2]at h1;rw[if_neg hlt2,if_neg hlt2];rw[show c+b[i]=b[i]+c by omega,D4 (by omega) (by omega),Bq (by omega),hf,hb1,e3];refine Ac ?_;refine Ac ?_;refine Ab h1 ?_;rfl
  .have hd:(b.drop i).headD 0=0:=by rw[Ar6 (by omega)];rfl
   rw[hd]at h1;rw[hd];refine Ak ?_;rw[Bg (show a[i]<_ by omega)];rw[Ar5]at h1;simp only[show (0:Nat)+c=c by omega]
   by_cases hlt2:a[i]<c
   .refine Ap ?_
    rw[if_pos hlt2,if_pos hlt2]at h1;rw[if_pos hlt2,if_pos hlt2];rw[show (4294967296:Int)=((4294967296:Nat):Int) from rfl,BZ (by omega),D4 (by omega) (by omega),Bq (by omega),hf,hb1,e3];refine Ac ?_;refine Ac ?_;refine Ab h1 ?_;rfl
   .refine Ak ?_
    rw[if_neg hlt2,if_neg hlt2]at h1;rw[if_neg hlt2,if_neg hlt2];rw[D4 (by omega) (by omega),Bq (by omega),hf,hb1,e3];refine Ac ?_;refine Ac ?_;refine Ab h1 ?_;rfl
def N6(x y:Nat):AV:=if y<=x then .tup [eN (Ah (x-y)),bv Δ] else .tup [eN [],bv false]
theorem AaR{a b:List Nat}(hsa:BU a)(ha:Limbs a)(hsb:BU b)(hb:Limbs b):D.ask (.fn 198) [eN a,eN b] []=Θ (N6 (Ad a) (Ad b),[]):=by
 have s1:=DH ha hsa;have s2:=DH hb hsb;refine AC K TU (ApX ..) ?_;refine Ab (E4 K hsa ha) ?_;simp only[eN,ND,DK,Aa];refine Ab (E4 K hsb hb) ?_;simp only[eN,ND,DK,Aa,Ao];have gc:=Vi K s1 (Aq _) s2 (Aq _);rw[Az,Az]at gc;refine Ab gc ?_;simp only[ND,DK,Aa];generalize Ad a=x at *;generalize Ad b=y at *;unfold N6;unfold BU at s1 s2
 by_cases h1:x<y
 .rw[show CJ x y=-1 by unfold CJ;rw[if_pos h1]]
  refine Ap ?_ (by decide);rw[if_neg (by omega)];rfl
 .refine Ak ?_ (by unfold CJ;rw[if_neg h1];split<;>omega)
  rw[if_pos (by omega)];have hle:(Ah y).length<=(Ah x).length:=by
   by_cases h:(Ah x).length<(Ah y).length
   .have:=Gb h;omega
   .omega
  rw[AY (n:=(Ah x).length) (b:=4) (by omega) (by omega)];refine Ac ?_;have g:=Akp K (Ah y) (Aq y) (Ah x) (Aq x) s1 (Ah x).length 0 [] 0 (by omega) (by omega) (by omega) (by simp;omega);refine Ab g ?_;simp only[ND,DK,Aa,ArT,Asg];rw[A1 AA _ (by omega)];refine Ac ?_;rw[Bw AA _ rfl];have gt:=FA K C (l:=G5 0 (Ah x) (Ah y)) (by unfold BU;rw[KW];exact s1) (G6 _ _ _ (Aq _) (Aq _) (by omega));rw[U8 (Aq _) (Aq _) hle (by rw[Az,Az];omega),Az,Az]at gt;refine Ab gt ?_;rfl
end
theorem Adf{x c r:Nat}(hc:c<2 ^ r)(hx:x*2 ^ r+c<18446744073709551616):Ae.bits .or .u64 ((x*2 ^ r:Nat):Int) (c:Int)=((x*2 ^ r+c:Nat):Int):=by
 show IntKind.u64.wrap ((BitVec.ofInt 64 ((x*2 ^ r:Nat):Int) ||| BitVec.ofInt 64 (c:Int)).toNat:Int)=_
 have e:x*2 ^ r ||| c=x*2 ^ r+c:=by
  rw[AsF];exact(Nat.two_pow_add_eq_or_of_lt hc x).symm
 rw[BitVec.ofInt_natCast,BitVec.ofInt_natCast,BitVec.toNat_or,BitVec.toNat_ofNat,BitVec.toNat_ofNat,As5 (show x*2 ^ r<2 ^ 64 by omega),As5 (show c<2 ^ 64 by omega),e,IntKind.wrap_u64];omega
theorem X9{x:Nat}(hx:x<18446744073709551616):Ae.bits .and .u64 (x:Int) 4294967295=((x % 4294967296:Nat):Int):=by
 show IntKind.u64.wrap ((BitVec.ofInt 64 (x:Int) &&& BitVec.ofInt 64 4294967295).toNat:Int)=_
 have e:x &&& 4294967295=x % 4294967296:=Nat.and_two_pow_sub_one_eq_mod x 32;rw[BitVec.ofInt_natCast,show BitVec.ofInt 64 4294967295=BitVec.ofNat 64 4294967295 from rfl,BitVec.toNat_and,BitVec.toNat_ofNat,BitVec.toNat_ofNat,As5 (show x<2 ^ 64 by omega),show 4294967295 % 2 ^ 64=4294967295 from rfl,e,IntKind.wrap_u64];omega
theorem Ya{x r:Nat}(hr:r<=64)(hx:x*2 ^ r<18446744073709551616):Ae.shl .u64 (x:Int) (r:Int)=((x*2 ^ r:Nat):Int):=by
 show IntKind.u64.wrap ((x:Int)*2 ^ (AsY (r:Int).toNat 64))=_
 rw[Avo,show AsY r 64=r from AsR hr,show ((x:Int)*2 ^ r)=((x*2 ^ r:Nat):Int) by rw[At8,AvC];rfl,IntKind.wrap_u64];omega
theorem KF{x:Nat}(hx:x<4294967296):Ae.shl .u64 (x:Int) 32=((x*4294967296:Nat):Int):=Ya (r:=32) (by omega) (by show x*4294967296<_;omega)
theorem O4{x c:Nat}(hc:c<4294967296)(hx:x<4294967296):Ae.bits .or .u64 ((x*4294967296:Nat):Int) (c:Int)=((x*4294967296+c:Nat):Int):=Adf (r:=32) hc (by show x*4294967296+c<_;omega)
theorem Adg{s:Nat}(h:s<=31):Ae.quo .i64 (s:Int) 32=((0:Nat):Int):=by
 show IntKind.i64.wrap (Avv (s:Int) ((32:Nat):Int))=_
 rw[show Avv (s:Int) ((32:Nat):Int)=((s / 32:Nat):Int) from rfl,Nat.div_eq_of_lt (by omega)];rfl
theorem Adj{s:Nat}(h:s<=31):Ae.rem .i64 (s:Int) 32=(s:Int):=by
 show Int.tmod (s:Int) ((32:Nat):Int)=_
 rw[show Int.tmod (s:Int) ((32:Nat):Int)=((s % 32:Nat):Int) from rfl,As5 (by omega)]
theorem AlR(s:Nat):Ae.max (s:Int) 0=(s:Int):=by
 show (if(s:Int)<0 then(0:Int) else(s:Int))=_
 rw[if_neg (by omega)]
theorem O3{s:Nat}(h:s<=31):0<2 ^ s/\2 ^ s<=2147483648/\2 ^ s*2 ^ (32-s)=4294967296:=by
 refine⟨Nat.two_pow_pos s,Nat.pow_le_pow_right (n:=2) (by omega) h,?_⟩;rw[←Nat.pow_add,show s+(32-s)=32 by omega]
theorem Sr{k:IntKind}{x r:Nat}(hr:r<=k.bits):Ae.shr k (x:Int) (r:Int)=((x / 2 ^ r:Nat):Int):=by
 show Int.fdiv (x:Int) (2 ^ (AsY (r:Int).toNat k.bits))=_
 rw[Avo,show AsY r k.bits=r from AsR hr,show (2 ^ r:Int)=((2 ^ r:Nat):Int) by rw[AvC];rfl,AuK _ (Int.natCast_nonneg _)];rfl
theorem Adi{x y:Nat}(hx:x<18446744073709551616):Ae.quo .u64 (x:Int) (y:Int)=((x / y:Nat):Int):=by
 show IntKind.u64.wrap (Avv (x:Int) (y:Int))=_
 have:=Nat.div_le_self x y;rw[show Avv (x:Int) (y:Int)=((x / y:Nat):Int) from rfl];generalize x / y=q at *;rw[IntKind.wrap_u64];omega
theorem Adl(x y:Nat):Ae.rem .u64 (x:Int) (y:Int)=((x % y:Nat):Int):=by
 rfl
theorem AlS{x y:Nat}(hy:y<=4294967296)(hx:x<4294967296):Ae.conv .u32 (Ae.sub .u64 (x:Int) (y:Int))=(((x+4294967296-y) % 4294967296:Nat):Int):=by
 show IntKind.u32.wrap (IntKind.u64.wrap ((x:Int)-(y:Int)))=_
 rw[IntKind.wrap_u64,IntKind.wrap_u32];omega
theorem Pq(m:Nat):∀(a:List Nat) (c:Nat),(DL m c a).length=a.length+1
 |[],_=>rfl
 |x::a,c=>by rw[DL,ε,Pq m a,ε]
def Jo(b:Nat):List Nat->List Nat
 |[]=>[]
 |x::r=>((Ad r % b)*4294967296+x) / b::Jo b r
theorem HD(b:Nat):∀ l,(Jo b l).length=l.length
 |[]=>rfl
 |x::r=>by rw[Jo,ε,HD b r,ε]
theorem Xg{b s x:Nat}(hs:s<b)(hx:x<4294967296):(s*4294967296+x) / b<4294967296:=by
 rw[Aue (by omega)];have:(s+1)*4294967296<=b*4294967296:=Asa _ hs;rw[AsF 4294967296 b];omega
theorem N4{b:Nat}(hb:0<b):∀ l,Limbs l->Limbs (Jo b l)
 |[],_=>BG
 |x::r,h=>Bc (Xg (AsJ _ hb) h.cons.1) (N4 hb r h.cons.2)
theorem ZP(b x:Nat)(r:List Nat):((Ad r % b)*4294967296+x) % b=Ad (x::r) % b:=by
 rw[Ad,Av0,Av1,Nat.mod_mod,←Av1,←Av0,AsF,AvU]
theorem Ra{b:Nat}(hb:0<b):∀ l,Ad (Jo b l)=Ad l / b
 |[]=>by simp[Jo,Ad]
 |x::r=>by
  rw[Jo,Ad,Ad,Ra hb r];have h1:=AuD (Ad r) b;generalize Ad r / b=q at h1 ⊢;generalize Ad r % b=s at h1 ⊢;rw[←h1];have e:x+4294967296*(b*q+s)=(s*4294967296+x)+b*(4294967296*q):=by
   rw[AsS,←Asp,←Asp,AsF b 4294967296];omega
  rw[e,AuC _ _ hb]
def Fl(P:Nat):List Nat->List Nat
 |[]=>[]
 |x::r=>((r.headD 0*4294967296+x) / P) % 4294967296::Fl P r
theorem Pd(P:Nat):∀ l,(Fl P l).length=l.length
 |[]=>rfl
 |x::r=>by rw[Fl,ε,Pd P r,ε]
theorem KN(P:Nat):∀ l,Limbs (Fl P l)
 |[]=>BG
 |x::r=>Bc (AsJ _ (by omega)) (KN P r)
theorem WD{P Q h k x V:Nat}(hP:0<P)(hPQ:P*Q=4294967296)(hx:x<4294967296)(hV:V=h+4294967296*k):(h*4294967296+x) / P % 4294967296+4294967296*(V / P)=(x+4294967296*V) / P:=by
 have e1:(h*4294967296+x) / P=h*Q+x / P:=by
  rw[←hPQ,show h*(P*Q)+x=x+P*(h*Q) by rw[←Asp,AsF h P,Asp];omega,AuC _ _ hP,AvU]
 have e2:(x+4294967296*V) / P=x / P+Q*V:=by
  rw[←hPQ,show x+P*Q*V=x+P*(Q*V) by rw[Asp],AuC _ _ hP]
 have hxP:x / P<Q:=by
  rw[Aue hP,AsF,hPQ];exact hx
 have h1:=AuD V P;have h2:=AsJ V hP;have e3:Q*V=4294967296*(V / P)+Q*(V % P):=by
  rw[←hPQ];have:Q*V=Q*(P*(V / P)+V % P):=by rw[h1]
  rw[this,AsS,←Asp,AsF Q P]
 have e4:(h*Q+x / P) % 4294967296=Q*(V % P)+x / P:=by
  have e5:h*Q+4294967296*(k*Q)=4294967296*(V / P)+Q*(V % P):=by
   rw[←e3,hV,AsS,AsF h Q,←Asp,←Asp,AsF Q 4294967296,Asp,Asp,AsF Q k]
  have hb:Q*(V % P)+x / P<4294967296:=by
   have:Q*(V % P+1)<=Q*P:=Nat.mul_le_mul_left _ h2;rw[AsS,At0,AsF Q P,hPQ]at this;omega
  have e6:h*Q+x / P+4294967296*(k*Q)=(Q*(V % P)+x / P)+4294967296*(V / P):=by omega
  have e7:=congrArg (· % 4294967296) e6;simp only[Nat.add_mul_mod_self_left]at e7;rw[e7,As5 hb]
 rw[e1,e2,e3,e4];omega
theorem MK{P Q:Nat}(hP:0<P)(hPQ:P*Q=4294967296):∀ l,Limbs l->Ad (Fl P l)=Ad l / P
 |[],_=>by simp[Fl,Ad]
 |x::r,h=>by
  rw[Fl,Ad,Ad,MK hP hPQ r h.cons.2];exact WD hP hPQ h.cons.1 (G9 r)
def eC(n:Nat):AV:=.v (.int .u32 (n:Int))
theorem D6:∀ l:List Nat,Ag eL l=l.map eC
 |[]=>rfl
 |x::r=>by
  have ih:=D6 r;unfold Ag at ih ⊢;rw[List.flatMap_cons,ih];rfl
theorem CY(l:List Nat)(i v:Nat)(h:i<l.length):AD (Ag eL l) (0+i*1) [.v (.int .u32 (v:Int))]=Ag eL (l.set i v):=by
 rw[D6,D6,Auq,if_pos h];unfold AD;simp only[Ar5,At0,List.map_append,List.map_cons,AuM,List.map_drop,Asi];rw[Ar4];rfl
theorem Ii(l:List Nat)(i:Nat)(h:i<l.length)(k:List AV->KR):EX (Ag eL l) (0+i*1) 1 k=k [.v (.int .u32 (l[i]:Int))]:=by
 have hx:(Ag eL l)[i]? = Θ (.v (.int .u32 (l[i]:Int))):=by
  rw[D6,List.getElem?_map,φ h];rfl
 obtain⟨hl,hx⟩:=List.getElem?_eq_some_iff.1 hx;unfold EX;have:ArY (0+i*1+1) (Ag eL l).length=Δ:=by simp;omega
 rw[this];simp only[Ar5,At0];rw[ο hl,hx];rfl
theorem Iw(n:Nat):BQ [.v (.int .u32 0)] (n*1)=Ag eL (Atb n 0):=by
 rw[D6,At0];unfold BQ;rw[List.map_replicate];refine List.ext_getElem (by simp) λi h1 h2=>?_
 simp[Nat.mod_one,eC]
theorem QG:∀(x:Nat) (b o:List Nat) (c:Nat),(OQ x c b o).drop (b.length+1)=o.drop (b.length+1)
 |x,[],o,c=>by
  rw[OQ]
  cases o<;>simp
 |x,y::b,o,c=>by
  rw[OQ,ε,List.drop_succ_cons,QG x b o.tail]
  cases o with
  |nil=>simp
  |cons z o=>rfl
def Hs(j:Nat)(l:List Nat):Prop:=∀ y∈l.drop j,y=0
theorem AaG{j:Nat}{l:List Nat}(h:Hs j l):(l.drop j).headD 0=0:=by
 unfold Hs at h
 cases e:l.drop j with
 |nil=>rfl
 |cons z r=>
  rw[e]at h;exact h z (List.mem_cons_self ..)
theorem BE{a b:Nat}(h:a<b):AsL a b=Δ:=by simpa using h
section
variable {D:Orc} (K:Knows At Hg D)
include K
theorem ZU(a b:List Nat)(hb:Limbs b)(i:Nat)(hi:i<a.length)(hsz:a.length+b.length<=1000000000)(x:Nat)(hx:x<4294967296):∀(m k:Nat) (out:List Nat) (c:Nat),b.length-k=m->k<=b.length->Limbs out->c<4294967296->out.length=a.length+b.length->
  ∃(o:List Nat) (c':Nat),D.ask (.lp 243 1) [eN b,.sl 0 0 out.length 1,iv (i:Int),.v (.int .u32 (x:Int)),.v (.int .u64 (c:Int)),eN a,iv (a.length:Int),iv (i:Int),eN b,iv (b.length:Int),iv (k:Int)] [δ (Ag eL out) Δ Δ]
   = Θ (.tup [iv 2,eN b,.sl 1 0 out.length 1,iv (i:Int),.v (.int .u64 (c':Int)),eN a,iv (a.length:Int),iv (i:Int)],[.del,.set (δ (Ag eL o) Δ Δ)])
   ∧ c'<4294967296/\Limbs o/\o.length=out.length/\o.set (i+b.length) c'=out.take (i+k)++OQ x c (b.drop k) (out.drop (i+k)):=by
 intro m
 induction m with
 |zero=>
  intro k out c hm hk ho hc hlen;obtain rfl:k=b.length:=by omega
  refine⟨out,c,?_,hc,ho,rfl,?_⟩
  .refine Ax K Mp (AbD ..) ?_
   refine Ak ?_;rfl
  .rw[At3,OQ,Auq,if_pos (by omega),AtQ]
 |succ m ih=>
  intro k out c hm hk ho hc hlen;have hlt:k<b.length:=by omega
  have hik:i+k<out.length:=by omega
  have hy:=hb.get hlt;have hz:=ho.get hik;have hp:=JA hx hy;have hd:(out.drop (i+k)).headD 0=out[i+k]:=by rw[ο hik];rfl
  obtain⟨o,c',h1,h2,h3,h4,h5⟩:=ih (k+1) (out.set (i+k) ((x*b[k]+out[i+k]+c) % 4294967296)) ((x*b[k]+out[i+k]+c) / 4294967296) (by omega) (by omega)
   (λz hz'=>by
    rcases AuR hz' with h|h
    .exact ho z h
    .rw[h];exact AsJ _ (by omega)) (by omega) (by rw[Asd];exact hlen)
  rw[Asd]at h1 h4;refine⟨o,c',?_,h2,h3,h4,?_⟩
  .refine Ax K Mp (AbD ..) ?_
   refine Ap ?_;rw[Au,AB (φ hlt)];simp only[eL,FX,ND,DK,Aa];rw[AaS (by omega),Au,BE hik];refine Ac ?_;refine(Ii out _ hik _).trans ?_;simp only[FX,ND,DK,Aa];rw[Au,BE hik];refine Ac ?_;rw[show ArY (0+(i+k)*1+1) (Ag eL out).length=Δ by rw[AR AA];simp;omega];refine Ac ?_;refine Ak ?_ (by decide);rw[Bg (show x<_ by omega),Bg (show b[k]<_ by omega),Bg (show out[i+k]<_ by omega),KE (by omega),BZ (by omega),BZ (by omega),CS,EW,CY _ _ _ hik,BV (by omega)];refine Ab h1 ?_;rfl
  .rw[h5,ο hlt,OQ,hd]
   have e1:ArQ (i+(k+1)) (out.set (i+k) ((x*b[k]+out[i+k]+c) % 4294967296))=out.take (i+k)++[(x*b[k]+out[i+k]+c) % 4294967296]:=by
    rw[show i+(k+1)=i+k+1 by omega,AsD (by rw[Asd];exact hik),Aux,Avi (κ _)]
   have e2:ArV (i+(k+1)) (out.set (i+k) ((x*b[k]+out[i+k]+c) % 4294967296))=(out.drop (i+k)).tail:=by
    rw[As4 (by omega),AtQ];rfl
   rw[e1,e2,Ar4];rfl
theorem ZV(a b:List Nat)(ha:Limbs a)(hb:Limbs b)(hsz:a.length+b.length<=1000000000):∀(m i:Nat) (out:List Nat),a.length-i=m->i<=a.length->Limbs out->out.length=a.length+b.length->Hs (i+b.length) out->
  ∃ o:List Nat,D.ask (.lp 243 0) [eN b,.sl 0 0 out.length 1,eN a,iv (a.length:Int),iv (i:Int)] [δ (Ag eL out) Δ Δ]=Θ (.tup [iv 0,.sl 1 0 o.length 1],[.del,.set (δ (Ag eL o) Δ Δ)])
   ∧ Limbs o/\o.length=out.length/\Ad o=Ad out+4294967296 ^ i*Ad (a.drop i)*Ad b:=by
 intro m
 induction m with
 |zero=>
  intro i out hm hi ho hlen hz;refine⟨out,?_,ho,rfl,?_⟩
  .refine Ax K Mp (AbC ..) ?_
   refine Ak ?_;rfl
  .rw[show a.drop i=[] from Ar6 (by omega)]
   simp[Ad]
 |succ m ih=>
  intro i out hm hi ho hlen hz;have hlt:i<a.length:=by omega
  have hx:=ha.get hlt;obtain⟨o,c',g1,g2,g3,g4,g5⟩:=ZU K a b hb i hlt hsz a[i] hx b.length 0 out 0 (by omega) (by omega) ho (by omega) hlen;rw[AsI,ArT]at g5;have hdl:(out.drop i).length=a.length+b.length-i:=by rw[Ats];omega
  have hlm:Limbs (o.set (i+b.length) c'):=by
   rw[g5];exact CG (ho.take i) (OR _ _ _ _ hx hb (ho.drop i) (by omega))
  have hhead:((out.drop i).drop b.length).headD 0=0:=by
   rw[At2];exact AaG hz
  have hv:Ad (o.set (i+b.length) c')=Ad out+4294967296 ^ i*(a[i]*Ad b):=by
   rw[g5,BF,Rb _ _ _ _ hhead];have e:Ad out=Ad (out.take i)+4294967296 ^ i*Ad (out.drop i):=by
    have:=BF (out.take i) (out.drop i);rw[AsU,Asb,AsR (by omega)]at this;exact this
   rw[e,Asb,AsR (by omega),AsI,AsS];omega
  have hz2:Hs (i+1+b.length) (o.set (i+b.length) c'):=by
   unfold Hs;rw[g5,List.drop_append,Ar6 (by rw[Asb];omega),Asg,Asb,AsR (by omega),show i+1+b.length-i=b.length+1 by omega,QG,At2];intro y hy;exact hz y (by
    have:ArV (i+(b.length+1)) out=ArV 1 (ArV (i+b.length) out):=by rw[At2];rfl
    rw[this]at hy;exact As1 hy)
  obtain⟨o2,k1,k2,k3,k4⟩:=ih (i+1) (o.set (i+b.length) c') (by omega) (by omega) hlm (by rw[Asd,g4,hlen]) hz2;rw[Asd,g4]at k1 k3;refine⟨o2,?_,k2,k3,?_⟩
  .refine Ax K Mp (AbC ..) ?_
   refine Ap ?_;rw[Au,AB (φ hlt)];simp only[eL,FX,Ao,ND,DK,Aa];refine Ab g1 ?_;simp only[eN,FX,Ao,ND,DK,Aa];rw[AaS (by omega),Au,BE (by omega)];refine Ac ?_;rw[show ArY (0+(i+b.length)*1+1) (Ag eL o).length=Δ by rw[AR AA];simp;omega];refine Ac ?_;rw[Bq g2,CY _ _ _ (by omega),BV (by omega)];refine Ab k1 ?_;rfl
  .rw[k4,hv,ο hlt,Ad,As7]
   have e1:4294967296 ^ i*(a[i]+4294967296*Ad (ArV (i+1) a))*Ad b=4294967296 ^ i*(a[i]*Ad b)+4294967296 ^ i*4294967296*Ad (ArV (i+1) a)*Ad b:=by
    rw[AsS,Asz,Asp _ a[i],Asp (4294967296 ^ i) 4294967296]
   rw[e1];omega
variable (C:CloneF D)
include C
theorem ZW{a b:List Nat}(ha:Limbs a)(hb:Limbs b)(hsz:a.length+b.length<=1000000000):D.ask (.fn 243) [eN a,eN b] []=Θ (eN (Ah (Ad a*Ad b)),[]):=by
 obtain⟨o,k1,k2,k3,k4⟩:=ZV K a b ha hb hsz a.length 0 (Atb (a.length+b.length) 0) (by omega) (by omega) (λx hx=>by rw[(Avk.1 hx).2];omega) (by simp) (λy hy=>(Avk.1 (As1 hy)).2);rw[Auc]at k1 k3;have hz:∀ n,Ad (Atb n 0)=0:=λn=>by
  induction n with
  |zero=>rfl
  |succ n ih=>rw[List.replicate_succ,Ad,ih]
 rw[hz,ArT,Nat.pow_zero,Ata,Ar5]at k4;refine AC K Mp (Ap9 ..) ?_;rw[Ao,Ao,AaS (by omega)];simp only[Au];rw[show ArY (a.length+b.length) (a.length+b.length)=Δ by simp,AY (n:=a.length+b.length) (b:=4) (by omega) (by omega),Iw];refine Ac ?_;refine Ac ?_;refine Ab k1 ?_;simp only[ND,DK,Aa];rw[A1 AA _ (by omega)];refine Ac ?_;rw[Bw AA _ rfl];have gt:=FA K C (l:=o) (by unfold BU;omega) k2;rw[k4]at gt;refine Ab gt ?_;rfl
theorem Akn{a b:List Nat}(hsa:a.length<=400000000)(ha:Limbs a)(hsb:b.length<=400000000)(hb:Limbs b)(h24:a.length<24\/b.length<24):D.ask (.fn 212) [eN a,eN b] []=Θ (eN (Ah (Ad a*Ad b)),[]):=by
 have t1:(Ah (Ad a)).length<=a.length:=by rw[Dz a ha];exact Cs a
 have t2:(Ah (Ad b)).length<=b.length:=by rw[Dz b hb];exact Cs b
 refine AC K Ajf (Ap4 ..) ?_;refine Ab (E4 K (by unfold BU;omega) ha) ?_;simp only[eN,ND,DK,Aa];refine Ab (E4 K (by unfold BU;omega) hb) ?_;simp only[eN,ND,DK,Aa,Ao];have g:=ZW K C (Aq (Ad a)) (Aq (Ad b)) (by omega);rw[Az,Az]at g
 by_cases h1:(Ah (Ad a)).length<24
 .refine Ap ?_
  refine Ab g ?_;rfl
 .refine Ak ?_
  refine Ap ?_;refine Ab g ?_;rfl
end
section
open Go.RowKit
def Ds:List (Nat × Nat):=[(239,0),(240,0),(241,0)]
def R3:MFn:=AU [⟨21,(mB 9),[],[],[(1,((mB 9),([],[])))]⟩] 200
def Oo:Hnt:=⟨[],[(0,[(1,([.ls,.int .i64],[]))])],[(12,[.int .u32]),(13,[.int .u32])]⟩
def AcM:MFn:=Ni ArP Bx [] Δ false 202
def Ab6:Hnt:=⟨[(200,(.ls,[])),(236,(.sl 0 1,[.row Δ]))],[],[]⟩
def AcL:MFn:=AU [] 184
def Ab5:Hnt:=⟨[(202,(.sl 0 1,[.row Δ]))],[],[]⟩
def R4:MFn:=AU [⟨49,(mB 35),[],[],[(0,((mB 16),([],[]))),(2,([],([],[])))]⟩] 201
def Oq:Hnt:=⟨[(200,(.ls,[]))],[(0,[(0,([.int .i64],[])),(2,([],[]))])],[(32,[.int .u32]),(33,[.int .u32]),(36,[.int .u32]),(37,[.int .u32]),(42,[.int .u32]),(43,[.int .u32]),(46,[.int .u32]),(47,[.int .u32])]⟩
def R5:MFn:=AU [⟨44,(mB 451),[],[],[(1,((mB 192),([],[])))]⟩] 203
def Ot:Hnt:=⟨[(202,(.sl 0 1,[.row Δ]))],[(0,[(1,([.sl 1 1,.int .u64],[.del,.row Δ]))])],[(24,[.int .u32]),(25,[.int .u32]),(35,[.int .u32])]⟩
def R8:MFn:=AU [⟨67,(mB 931),[],[],[(1,((mB 256),([],[])))]⟩] 239
def RU:Hnt:=⟨[],[(0,[(1,([.int .u64],[.keep]))])],[(14,[.int .u32]),(15,[.int .u32]),(21,[.int .u32]),(22,[.int .u32]),(28,[.int .u32]),(29,[.int .u32]),(44,[.int .u32]),(45,[.int .u32]),(53,[.int .u32]),(54,[.int .u32])]⟩
def R9:MFn:=AU [⟨74,(mB 917895),[],[],[(1,((mB 387),([],[1000000])))]⟩] 240
def Ls:Hnt:=⟨[],[(0,[(1,([.slo 0 1,.ls,.int .u64,.int .u64],[.row Δ]))])],[(22,[.int .u32]),(23,[.int .u32]),(38,[.int .u32]),(39,[.int .u32]),(52,[.int .u32]),(61,[.int .u32]),(62,[.int .u32]),(70,[.int .u32])]⟩
def Sa:MFn:=AU [⟨42,(mB 1811),[],[],[(1,((mB 19),([],[1000000])))]⟩] 241
def Ox:Hnt:=⟨[],[(0,[(1,([.slo 0 1,.ls,.int .u64],[.row Δ]))])],[(13,[.int .u32]),(14,[.int .u32]),(17,[.int .u32]),(18,[.int .u32]),(29,[.int .u32]),(36,[.int .u32]),(37,[.int .u32]),(41,[.int .u32])]⟩
def R7:MFn:=Ni ArP Bx [⟨58,(mB 30064771968),[(8,1)],[],[(2,((mB 768),([],[])))]⟩] Δ false 238
def Ow:Hnt:=⟨[(200,(.ls,[])),(202,(.sl 0 1,[.row Δ]))],[(0,[(2,([.sl 1 1,.int .u64],[.del,.row Δ]))])],[(36,[.int .u32]),(37,[.int .u32])]⟩
def Sb:MFn:=AU [⟨61,(mB 449),[(7,1)],[],[(1,((mB 128),([],[])))]⟩] 242
def Oy:Hnt:=⟨[(200,(.ls,[])),(202,(.sl 0 1,[.row Δ]))],[(0,[(1,([.sl 1 1],[.del,.row Δ]))])],[(42,[.int .u32]),(43,[.int .u32]),(50,[.int .u32]),(51,[.int .u32])]⟩
def R6:MFn:=AU [⟨96,(mB 14544),[],[7],[(1,((mB 6224),([],[])))]⟩] 204
def Lq:Hnt:=⟨[(202,(.sl 0 1,[.row Δ])),(237,(.int .i64,[])),(238,(.tup [.sl 0 1,.int .i64],[.row Δ])),(239,(.int .u64,[.keep])),(240,(.bool,[.row Δ])),(241,(.tup [],[.row Δ])),(242,(.ls,[]))],[(0,[(1,([.sl 2 1,.int .i64,.sl 3 1,.int .i64],[.del,.del,.row Δ,.row Δ]))])],[(19,[.int .u32]),(20,[.int .u32]),(88,[.int .u32])]⟩
def AcJ:MFn:=AU [] 144
def Ab3:Hnt:=⟨[(184,(.ls,[])),(200,(.ls,[])),(201,(.int .i64,[])),(202,(.sl 0 1,[.row Δ])),(203,(.tup [.ls,.int .u32],[])),(204,(.tup [.ls,.ls],[]))],[],[(31,[.int .u32]),(32,[.int .u32])]⟩
def Ak9:MFn:=AU [⟨25,[Δ,Δ],[],[],[(1,([Δ],([],[])))]⟩] 205
def AcP:MFn:=AU [] 237
def Ab8:Hnt:=⟨[(222,(.int .i64,[]))],[],[]⟩
def AcN:MFn:=AU [] 222
def Ov:Hnt:=⟨[],[],[]⟩
def I9:List (Nat × MFn):=[(200,R3),(202,AcM),(184,AcL),(201,R4),(203,R5),(239,R8),(240,R9),(241,Sa),(238,R7),(242,Sb),(204,R6),(144,AcJ),(205,Ak9),(237,AcP),(222,AcN)]
variable (A:Ar) (D:Orc)
theorem AmU(x0:Rw):BY A D Ds Oo .n 200 R3 [Ψ x0] [] =
 Af D (ArW 200 0) [Ψ x0,iv ↑(Al x0)] [] [.t,.C,.x,.X,.Y] λc l o=>
 br (Bo 1 c)
 (dk [.L,.I,.N,.E] [.l l,.o o] λxs n=>
 unI n λi=>
 br (IJ 0 i (Al xs)) (br (CU 1 xs) (Θ ((Ψ (AP (AS xs i) 0),[]))) Ξ) Ξ)
 (Ξ):=by kernel_rfl
theorem Xh(t0:Rw)(t3:Int):Dy A D Ds Oo .n 200 0 (AZ R3 0).fst (AZ R3 0).snd [Ψ t0,iv t3] [] =
 br (A.lt 0 t3)
 (unI (A.sub θ t3 1) λi=>
 BH t0 i λcs=>
 dk [.J .u32,.N] [.l cs] λn=>
 br (A.eq n 0)
 (AF D (ArW 200 0) [Ψ t0,iv (A.sub θ t3 1)] [] λr o=>
 AW 0 [] (AH.mk [] 0 Ξ) [] r o)
 (Θ ((ι [iv 0,Ψ t0,iv t3],[]))))
 (Θ ((ι [iv 0,Ψ t0,iv t3],[]))):=by kernel_rfl
theorem AmW(x0:Rw):BY A D Ds Ab6 .n 202 AcM [Ψ x0] [] =
 Af D (ψ 200) [Ψ x0] [] [.l,.E] λxs=>
 Af D (ψ 236) [Ψ xs] [] [.q 0 1,.R,.X,.E] λn cs=>
 Θ ((χ 0 0 n 1,[ArU (δ cs Δ Δ)])):=by kernel_rfl
theorem AmT(x0:Int):BY A D Ds Ab5 .n 184 AcL [ArZ (Value.int Ω x0)] [] =
 br (A.lt 32 0)
 (Ξ)
 (Af D (ψ 202) [Ψ [[ArZ (Value.int ζ (A.conv ζ x0))],[ArZ (Value.int ζ (A.conv ζ (A.shr Ω x0 32)))]]] [] [.q 0 1,.R,.X,.E] λn cs=>
 br ((0+n*1).ble cs.length) (Θ ((Ψ (Be n 1 (ArQ (n*1) cs)),[]))) Ξ):=by kernel_rfl
theorem AmV(x0 x1:Rw):BY A D Ds Oq .n 201 R4 [Ψ x0,Ψ x1] [] =
 Af D (ψ 200) [Ψ x0] [] [.l,.E] λxs=>
 Af D (ψ 200) [Ψ x1] [] [.l,.E] λxs1=>
 br (A.lt ↑(Al xs) ↑(Al xs1))
 (Θ ((iv (-1),[])))
 (br (A.lt ↑(Al xs1) ↑(Al xs))
 (Θ ((iv 1,[])))
 (Af D (ArW 201 0) [Ψ xs,Ψ xs1,iv (A.sub θ (↑(Al xs)) 1)] [] [.t,.C,.x,.X,.Y] λc l o2=>
 br (Bo 0 c)
 (dk [.I,.N,.E] [.l l,.o o2] λn=>
 Θ ((iv n,[])))
 (br (Bo 2 c)
 (Fr l<|
 DE o2<|
 Θ ((iv 0,[])))
 (Ξ)))):=by kernel_rfl
theorem Xi(t0 t1:Rw)(t5:Int):Dy A D Ds Oq .n 201 0 (AZ R4 0).fst (AZ R4 0).snd [Ψ t0,Ψ t1,iv t5] [] =
 br (A.le 0 t5)
 (unI t5 λi=>
 BH t0 i λcs=>
 dk [.J .u32,.N] [.l cs] λn=>
 unI t5 λi1=>
 BH t1 i1 λcs1=>
 dk [.J .u32,.N] [.l cs1] λn1=>
 br (A.lt n n1)
 (Θ ((ι [bv Δ,iv (-1)],[])))
 (unI t5 λi2=>
 BH t0 i2 λcs2=>
 dk [.J .u32,.N] [.l cs2] λn2=>
 unI t5 λi3=>
 BH t1 i3 λcs3=>
 dk [.J .u32,.N] [.l cs3] λn3=>
 br (A.lt n3 n2)
 (Θ ((ι [bv Δ,iv 1],[])))
 (AF D (ArW 201 0) [Ψ t0,Ψ t1,iv (A.sub θ t5 1)] [] λr o=>
 AW 0 [] (AH.mk [] 0 Ξ) [] r o)))
 (Θ ((ι [iv 1],[]))):=by kernel_rfl
theorem AmX(x0:Rw)(x1:Int):BY A D Ds Ot .n 203 R5 [Ψ x0,ArZ (Value.int ζ x1)] [] =
 br ((Al x0).ble (Al x0)) (br (Bj (Al x0) 4) (AF D (ArW 203 0) [Ψ x0,ArZ (Value.int ζ x1),χ 0 0 (Al x0) 1,ArZ (Value.int Ω 0),iv (A.sub θ (↑(Al x0)) 1)] [δ (BQ [ArZ (Value.int ζ 0)] (Al x0*1)) Δ Δ] λr o=>
 dk [.t,.C,.x,.X] [.v r] λc l=>
 br (Bo 1 c)
 (dk [.C,.q 1 1,.J .u64,.N,.D,.R,.X,.E] [.l l,.o o] λn n1 cs1=>
 br ((0+n*1).ble cs1.length) (AF D (ψ 202) [Ψ (Be n 1 (ArQ (n*1) cs1))] [] λr1 o1=>
 dk [.q 0 1,.R,.X,.E] [.v r1,.o o1] λn2 cs2=>
 br ((0+n2*1).ble cs2.length) (Θ ((ι [Ψ (Be n2 1 (ArQ (n2*1) cs2)),ArZ (Value.int ζ (A.conv ζ n1))],[]))) Ξ) Ξ)
 (Ξ)) Ξ) Ξ:=by kernel_rfl
theorem Xj(t0:Rw)(t1:Int)(n6:Nat)(c6:List AV)(t7 t8:Int):Dy A D Ds Ot (.b (.b (.b .n (.b .n (.f .n))) .n) .n) 203 0 (AZ R5 0).fst (AZ R5 0).snd [Ψ t0,ArZ (Value.int ζ t1),χ 0 0 n6 1,ArZ (Value.int Ω t7),iv t8] [{ cells:=c6,st:=Δ,ex:=Δ }] =
 br (A.le 0 t8)
 (br (A.lt 32 0)
 (Ξ)
 (unI t8 λi=>
 BH t0 i λcs=>
 dk [.J .u32,.N] [.l cs] λn=>
 br (A.eq (A.conv Ω t1) 0)
 (Ξ)
 (unI t8 λi1=>
 br (i1.blt n6) (br ((0+i1*1+1).ble c6.length) (br (A.eq (A.conv Ω t1) 0) Ξ (AF D (ArW 203 0) [Ψ t0,ArZ (Value.int ζ t1),χ 0 0 n6 1,ArZ (Value.int Ω (A.rem Ω (A.bits BinOp.or Ω (A.shl Ω t7 32) (A.conv Ω n)) (A.conv Ω t1))),iv (A.sub θ t8 1)] [δ (AD c6 (0+i1*1) [ArZ (Value.int ζ (A.conv ζ (A.quo Ω (A.bits BinOp.or Ω (A.shl Ω t7 32) (A.conv Ω n)) (A.conv Ω t1))))]) Δ Δ] λr o=>
 AW 1 [0] (AH.mk [(0,δ (AD c6 (0+i1*1) [ArZ (Value.int ζ (A.conv ζ (A.quo Ω (A.bits BinOp.or Ω (A.shl Ω t7 32) (A.conv Ω n)) (A.conv Ω t1))))]) Δ Δ)] 1 Ξ) [0] r o)) Ξ) Ξ)))
 (Θ ((ι [iv 0,χ 1 0 n6 1,ArZ (Value.int Ω t7)],[BO.del,ArU (δ c6 Δ Δ)]))):=by kernel_rfl
theorem Am3(o0 n0:Nat)(c0:List AV)(x1:Rw):BY A D Ds RU (.b .n (.b .n (.f .n))) 239 R8 [χ 0 o0 n0 1,Ψ x1] [{ cells:=c0,st:=Δ,ex:=Δ }] =
 br ((Al x1).blt n0) (EX c0 (o0+Al x1*1) 1 λcs=>
 dk [.J .u32,.N] [.l cs] λn=>
 br (A.lt 32 0)
 (Ξ)
 (unI (A.sub θ (↑(Al x1)) 1) λi=>
 br (i.blt n0) (EX c0 (o0+i*1) 1 λcs1=>
 dk [.J .u32,.N] [.l cs1] λn1=>
 unI (A.sub θ (↑(Al x1)) 1) λi1=>
 BH x1 i1 λcs2=>
 dk [.J .u32,.N] [.l cs2] λn2=>
 br (A.eq (A.conv Ω n2) 0)
 (Ξ)
 (br (A.eq (A.conv Ω n2) 0) Ξ (AF D (ArW 239 0) [χ 0 o0 n0 1,Ψ x1,iv ↑(Al x1),ArZ (Value.int Ω (A.conv Ω n2)),ArZ (Value.int Ω (A.quo Ω (A.bits BinOp.or Ω (A.shl Ω (A.conv Ω n) 32) (A.conv Ω n1)) (A.conv Ω n2))),ArZ (Value.int Ω (A.rem Ω (A.bits BinOp.or Ω (A.shl Ω (A.conv Ω n) 32) (A.conv Ω n1)) (A.conv Ω n2)))] [δ c0 Δ Δ] λr o=>
 dk [.t,.C,.x,.X] [.v r] λc l3=>
 br (Bo 1 c)
 (dk [.J .u64,.N,.K,.E] [.l l3,.o o] λn3=>
 Θ ((ArZ (Value.int Ω n3),[BO.keep])))
 (Ξ)))) Ξ)) Ξ:=by kernel_rfl
theorem AeX(o0 n0:Nat)(c0:List AV)(t1:Rw)(t5 t7 t8 t9:Int):Dy A D Ds RU .n 239 0 (AZ R8 0).fst (AZ R8 0).snd [χ 0 o0 n0 1,Ψ t1,iv t5,ArZ (Value.int Ω t7),ArZ (Value.int Ω t8),ArZ (Value.int Ω t9)] [{ cells:=c0,st:=Δ,ex:=Δ }] =
 br (A.le 4294967296 t8)
 (br (A.le 4294967296 (A.add Ω t9 t7))
 (Θ ((ι [iv 0,ArZ (Value.int Ω (A.sub Ω t8 1))],[BO.keep])))
 (AF D (ArW 239 0) [χ 0 o0 n0 1,Ψ t1,iv t5,ArZ (Value.int Ω t7),ArZ (Value.int Ω (A.sub Ω t8 1)),ArZ (Value.int Ω (A.add Ω t9 t7))] [δ c0 Δ Δ] λr o=>
 AW 1 [0] (AH.mk [(0,δ c0 Δ Δ)] 1 Ξ) [] r o))
 (unI (A.sub θ t5 2) λi=>
 BH t1 i λcs=>
 dk [.J .u32,.N] [.l cs] λn=>
 br (A.lt 32 0)
 (Ξ)
 (unI (A.sub θ t5 2) λi1=>
 br (i1.blt n0) (EX c0 (o0+i1*1) 1 λcs1=>
 dk [.J .u32,.N] [.l cs1] λn1=>
 br (A.lt (A.bits BinOp.or Ω (A.shl Ω t9 32) (A.conv Ω n1)) (A.mul Ω t8 (A.conv Ω n)))
 (br (A.le 4294967296 (A.add Ω t9 t7))
 (Θ ((ι [iv 0,ArZ (Value.int Ω (A.sub Ω t8 1))],[BO.keep])))
 (AF D (ArW 239 0) [χ 0 o0 n0 1,Ψ t1,iv t5,ArZ (Value.int Ω t7),ArZ (Value.int Ω (A.sub Ω t8 1)),ArZ (Value.int Ω (A.add Ω t9 t7))] [δ c0 Δ Δ] λr o=>
 AW 1 [0] (AH.mk [(0,δ c0 Δ Δ)] 1 Ξ) [] r o))
 (Θ ((ι [iv 0,ArZ (Value.int Ω t8)],[BO.keep])))) Ξ)):=by kernel_rfl
theorem Am4(o0 n0:Nat)(c0:List AV)(x1:Rw)(x2:Int):BY A D Ds Ls .n 240 R9 [χ 0 o0 n0 1,Ψ x1,ArZ (Value.int Ω x2)] [{ cells:=c0,st:=Δ,ex:=Δ }] =
 Af D (ArW 240 0) [χ 0 o0 n0 1,Ψ x1,ArZ (Value.int Ω x2),ArZ (Value.int Ω 0),ArZ (Value.int Ω 0),Ψ x1,iv ↑(Al x1),iv 0] [δ c0 Δ Δ] [.t,.C,.x,.X,.Y] λc l o=>
 br (Bo 1 c)
 (Eb l λc1 l1=>
 Q7 0 1 c1 λo1 n=>
 dk [.L,.J .u64,.J .u64,.N,.R,.X,.E] [.l l1,.o o] λxs n1 n2 cs1=>
 br ((Al xs).blt n) (EX cs1 (o1+Al xs*1) 1 λcs2=>
 dk [.J .u32,.N] [.l cs2] λn3=>
 br ((Al xs).blt n) (br ((o1+Al xs*1+1).ble cs1.length) (br (A.lt (A.conv Ω n3) (A.add Ω n1 n2))
 (Θ ((bv Δ,[ArU (δ (AD cs1 (o1+Al xs*1) [ArZ (Value.int ζ (A.conv ζ (A.sub Ω (A.conv Ω n3) (A.add Ω n1 n2))))]) Δ Δ)])))
 (Θ ((bv false,[ArU (δ (AD cs1 (o1+Al xs*1) [ArZ (Value.int ζ (A.conv ζ (A.sub Ω (A.conv Ω n3) (A.add Ω n1 n2))))]) Δ Δ)])))) Ξ) Ξ) Ξ)
 (Ξ):=by kernel_rfl
theorem RJ(o0 n0:Nat)(c0:List AV)(t1 t17:Rw)(t2 t7 t8 t18 t19:Int):Dy A D Ds Ls .n 240 0 (AZ R9 0).fst (AZ R9 0).snd [χ 0 o0 n0 1,Ψ t1,ArZ (Value.int Ω t2),ArZ (Value.int Ω t7),ArZ (Value.int Ω t8),Ψ t17,iv t18,iv t19] [{ cells:=c0,st:=Δ,ex:=Δ }] =
 br (A.lt t19 t18)
 (unI t19 λi=>
 BH t17 i λcs=>
 dk [.J .u32,.N] [.l cs] λn=>
 br (A.lt 32 0)
 (Ξ)
 (unI t19 λi1=>
 br (i1.blt n0) (EX c0 (o0+i1*1) 1 λcs1=>
 dk [.J .u32,.N] [.l cs1] λn1=>
 br (A.lt (A.conv Ω n1) (A.add Ω (A.bits BinOp.and Ω (A.add Ω (A.mul Ω t2 (A.conv Ω n)) t7) 4294967295) t8))
 (unI t19 λi2=>
 br (i2.blt n0) (br ((o0+i2*1+1).ble c0.length) (AF D (ArW 240 0) [χ 0 o0 n0 1,Ψ t1,ArZ (Value.int Ω t2),ArZ (Value.int Ω (A.shr Ω (A.add Ω (A.mul Ω t2 (A.conv Ω n)) t7) 32)),ArZ (Value.int Ω 1),Ψ t17,iv t18,iv (A.add θ t19 1)] [δ (AD c0 (o0+i2*1) [ArZ (Value.int ζ (A.conv ζ (A.sub Ω (A.add Ω (A.conv Ω n1) 4294967296) (A.add Ω (A.bits BinOp.and Ω (A.add Ω (A.mul Ω t2 (A.conv Ω n)) t7) 4294967295) t8))))]) Δ Δ] λr o=>
 AW 1 [0] (AH.mk [(0,δ (AD c0 (o0+i2*1) [ArZ (Value.int ζ (A.conv ζ (A.sub Ω (A.add Ω (A.conv Ω n1) 4294967296) (A.add Ω (A.bits BinOp.and Ω (A.add Ω (A.mul Ω t2 (A.conv Ω n)) t7) 4294967295) t8))))]) Δ Δ)] 1 Ξ) [0] r o) Ξ) Ξ)
 (unI t19 λi2=>
 br (i2.blt n0) (br ((o0+i2*1+1).ble c0.length) (AF D (ArW 240 0) [χ 0 o0 n0 1,Ψ t1,ArZ (Value.int Ω t2),ArZ (Value.int Ω (A.shr Ω (A.add Ω (A.mul Ω t2 (A.conv Ω n)) t7) 32)),ArZ (Value.int Ω 0),Ψ t17,iv t18,iv (A.add θ t19 1)] [δ (AD c0 (o0+i2*1) [ArZ (Value.int ζ (A.conv ζ (A.sub Ω (A.conv Ω n1) (A.add Ω (A.bits BinOp.and Ω (A.add Ω (A.mul Ω t2 (A.conv Ω n)) t7) 4294967295) t8))))]) Δ Δ] λr o=>
 AW 1 [0] (AH.mk [(0,δ (AD c0 (o0+i2*1) [ArZ (Value.int ζ (A.conv ζ (A.sub Ω (A.conv Ω n1) (A.add Ω (A.bits BinOp.and Ω (A.add Ω (A.mul Ω t2 (A.conv Ω n)) t7) 4294967295) t8))))]) Δ Δ)] 1 Ξ) [0] r o) Ξ) Ξ)) Ξ))
 (Θ ((ι [iv 0,χ 0 o0 n0 1,Ψ t1,ArZ (Value.int Ω t7),ArZ (Value.int Ω t8)],[ArU (δ c0 Δ Δ)]))):=by kernel_rfl
theorem Am5(o0 n0:Nat)(c0:List AV)(x1:Rw):BY A D Ds Ox .n 241 Sa [χ 0 o0 n0 1,Ψ x1] [{ cells:=c0,st:=Δ,ex:=Δ }] =
 Af D (ArW 241 0) [χ 0 o0 n0 1,Ψ x1,ArZ (Value.int Ω 0),Ψ x1,iv ↑(Al x1),iv 0] [δ c0 Δ Δ] [.t,.C,.x,.X,.Y] λc l o=>
 br (Bo 1 c)
 (Eb l λc1 l1=>
 Q7 0 1 c1 λo1 n=>
 dk [.L,.J .u64,.N,.R,.X,.E] [.l l1,.o o] λxs n1 cs1=>
 br ((Al xs).blt n) (EX cs1 (o1+Al xs*1) 1 λcs2=>
 dk [.J .u32,.N] [.l cs2] λn2=>
 br ((Al xs).blt n) (br ((o1+Al xs*1+1).ble cs1.length) (Θ ((ι [],[ArU (δ (AD cs1 (o1+Al xs*1) [ArZ (Value.int ζ (A.add ζ n2 (A.conv ζ n1)))]) Δ Δ)]))) Ξ) Ξ) Ξ)
 (Ξ):=by kernel_rfl
theorem Xl(o0 n0:Nat)(c0:List AV)(t1 t8:Rw)(t4 t9 t10:Int):Dy A D Ds Ox .n 241 0 (AZ Sa 0).fst (AZ Sa 0).snd [χ 0 o0 n0 1,Ψ t1,ArZ (Value.int Ω t4),Ψ t8,iv t9,iv t10] [{ cells:=c0,st:=Δ,ex:=Δ }] =
 br (A.lt t10 t9)
 (unI t10 λi=>
 BH t8 i λcs=>
 dk [.J .u32,.N] [.l cs] λn=>
 unI t10 λi1=>
 br (i1.blt n0) (EX c0 (o0+i1*1) 1 λcs1=>
 dk [.J .u32,.N] [.l cs1] λn1=>
 unI t10 λi2=>
 br (i2.blt n0) (br ((o0+i2*1+1).ble c0.length) (br (A.lt 32 0)
 (Ξ)
 (AF D (ArW 241 0) [χ 0 o0 n0 1,Ψ t1,ArZ (Value.int Ω (A.shr Ω (A.add Ω (A.add Ω (A.conv Ω n1) (A.conv Ω n)) t4) 32)),Ψ t8,iv t9,iv (A.add θ t10 1)] [δ (AD c0 (o0+i2*1) [ArZ (Value.int ζ (A.conv ζ (A.add Ω (A.add Ω (A.conv Ω n1) (A.conv Ω n)) t4)))]) Δ Δ] λr o=>
 AW 1 [0] (AH.mk [(0,δ (AD c0 (o0+i2*1) [ArZ (Value.int ζ (A.conv ζ (A.add Ω (A.add Ω (A.conv Ω n1) (A.conv Ω n)) t4)))]) Δ Δ)] 1 Ξ) [0] r o)) Ξ) Ξ) Ξ)
 (Θ ((ι [iv 0,χ 0 o0 n0 1,Ψ t1,ArZ (Value.int Ω t4)],[ArU (δ c0 Δ Δ)]))):=by kernel_rfl
theorem Am2(x0:Rw)(x1:Int):BY A D Ds Ow (.b .n (.b .n (.b .n (.b .n (.b .n (.f .n)))))) 238 R7 [Ψ x0,iv x1] [] =
 br (A.lt x1 0)
 (Θ ((ι [ArZ (Value.slice Ξ 0 0),iv 1],[])))
 (br (A.lt 1048576 x1)
 (Θ ((ι [ArZ (Value.slice Ξ 0 0),iv 2],[])))
 (Af D (ψ 200) [Ψ x0] [] [.l,.E] λxs=>
 br (A.eq 32 0)
 (Ξ)
 (br (A.eq 32 0) Ξ (unI (A.quo θ x1 32) λi=>
 unI (A.add θ (A.add θ (A.quo θ x1 32) ↑(Al xs)) 1) λi1=>
 br (i.ble i1) (br (Bj i1 4) (AF D (ArW 238 0) [iv (A.rem θ x1 32),χ 0 0 i 1,ArZ (Value.int Ω 0),Ψ xs,iv ↑(Al xs),iv 0] [δ (BQ [ArZ (Value.int ζ 0)] (i*1)) Δ Δ] λr1 o1=>
 dk [.t,.C,.x,.X] [.v r1] λc l=>
 br (Bo 2 c)
 (dk [.C,.q 1 1,.J .u64,.N,.D,.R,.X,.E] [.l l,.o o1] λn n1 cs1=>
 br (Bj (n+1) 4) (br ((0+n*1).ble cs1.length) (br ((0+(n+1)*1).ble (ArV 0 (ArQ (0+n*1) cs1)++[ArZ (Value.int ζ (A.conv ζ n1))]).length) (AF D (ψ 202) [Ψ (Be (n+1) 1 (ArQ ((n+1)*1) (ArV 0 (ArV 0 (ArQ (0+n*1) cs1)++[ArZ (Value.int ζ (A.conv ζ n1))]))))] [] λr2 o2=>
 dk [.q 0 1,.R,.X,.E] [.v r2,.o o2] λn2 cs2=>
 Θ ((ι [χ 0 0 n2 1,iv 0],[ArU (δ cs2 Δ Δ)]))) Ξ) Ξ) Ξ)
 (Ξ)) Ξ) Ξ)))):=by kernel_rfl
theorem Xk(t7:Int)(n8:Nat)(c8:List AV)(t9:Int)(t32:Rw)(t33 t34:Int):Dy A D Ds Ow .n 238 0 (AZ R7 0).fst (AZ R7 0).snd [iv t7,χ 0 0 n8 1,ArZ (Value.int Ω t9),Ψ t32,iv t33,iv t34] [{ cells:=c8,st:=Δ,ex:=Δ }] =
 br (A.lt t34 t33)
 (unI t34 λi=>
 BH t32 i λcs=>
 dk [.J .u32,.N] [.l cs] λn=>
 br (A.lt t7 0)
 (Ξ)
 (br (Bj (n8+1) 4) (br ((0+n8*1).ble c8.length) (br (A.lt 32 0)
 (Ξ)
 (AF D (ArW 238 0) [iv t7,χ 0 0 (n8+1) 1,ArZ (Value.int Ω (A.shr Ω (A.bits BinOp.or Ω (A.shl Ω (A.conv Ω n) t7) t9) 32)),Ψ t32,iv t33,iv (A.add θ t34 1)] [δ (ArV 0 (ArQ (0+n8*1) c8)++[ArZ (Value.int ζ (A.conv ζ (A.bits BinOp.or Ω (A.shl Ω (A.conv Ω n) t7) t9)))]) Δ Δ] λr o=>
 AW 1 [2] (AH.mk [(2,δ (ArV 0 (ArQ (0+n8*1) c8)++[ArZ (Value.int ζ (A.conv ζ (A.bits BinOp.or Ω (A.shl Ω (A.conv Ω n) t7) t9)))]) Δ Δ),(1,δ [ArZ (Value.int ζ (A.conv ζ (A.bits BinOp.or Ω (A.shl Ω (A.conv Ω n) t7) t9)))] Δ Δ)] 3 Ξ) [0] r o)) Ξ) Ξ))
 (Θ ((ι [iv 1,χ 1 0 n8 1,ArZ (Value.int Ω t9)],[BO.del,ArU (δ c8 Δ Δ)]))):=by kernel_rfl
theorem Am6(x0:Rw)(x1:Int):BY A D Ds Oy (.b .n (.f .n)) 242 Sb [Ψ x0,iv x1] [] =
 Af D (ψ 200) [Ψ x0] [] [.l,.E] λxs=>
 br (A.eq 32 0)
 (Ξ)
 (br (A.eq 32 0) Ξ (br (A.le (↑(Al xs)) (A.quo θ (A.max x1 0) 32))
 (Θ ((Ψ [],[])))
 (unI (A.sub θ (↑(Al xs)) (A.quo θ (A.max x1 0) 32)) λi=>
 br (Bj i 4) (AF D (ArW 242 0) [Ψ xs,iv (A.rem θ (A.max x1 0) 32),χ 0 0 0 1,iv (A.quo θ (A.max x1 0) 32)] [δ [] Δ Δ] λr1 o1=>
 dk [.t,.C,.x,.X] [.v r1] λc l=>
 br (Bo 1 c)
 (dk [.C,.q 1 1,.N,.D,.R,.X,.E] [.l l,.o o1] λn cs1=>
 br ((0+n*1).ble cs1.length) (AF D (ψ 202) [Ψ (Be n 1 (ArQ (n*1) cs1))] [] λr2 o2=>
 dk [.q 0 1,.R,.X,.E] [.v r2,.o o2] λn1 cs2=>
 br ((0+n1*1).ble cs2.length) (Θ ((Ψ (Be n1 1 (ArQ (n1*1) cs2)),[]))) Ξ) Ξ)
 (Ξ)) Ξ))):=by kernel_rfl
theorem Xm(t0:Rw)(t6:Int)(n7:Nat)(c7:List AV)(t8:Int):Dy A D Ds Oy .n 242 0 (AZ Sb 0).fst (AZ Sb 0).snd [Ψ t0,iv t6,χ 0 0 n7 1,iv t8] [{ cells:=c7,st:=Δ,ex:=Δ }] =
 br (A.lt t8 ↑(Al t0))
 (br (A.lt (A.add θ t8 1) ↑(Al t0))
 (unI (A.add θ t8 1) λi=>
 BH t0 i λcs=>
 dk [.J .u32,.N] [.l cs] λn=>
 br (A.lt 32 0)
 (Ξ)
 (unI t8 λi1=>
 BH t0 i1 λcs1=>
 dk [.J .u32,.N] [.l cs1] λn1=>
 br (A.lt t6 0)
 (Ξ)
 (br (Bj (n7+1) 4) (br ((0+n7*1).ble c7.length) (AF D (ArW 242 0) [Ψ t0,iv t6,χ 0 0 (n7+1) 1,iv (A.add θ t8 1)] [δ (ArV 0 (ArQ (0+n7*1) c7)++[ArZ (Value.int ζ (A.conv ζ (A.shr Ω (A.bits BinOp.or Ω (A.shl Ω (A.conv Ω n) 32) (A.conv Ω n1)) t6)))]) Δ Δ] λr o=>
 AW 1 [2] (AH.mk [(2,δ (ArV 0 (ArQ (0+n7*1) c7)++[ArZ (Value.int ζ (A.conv ζ (A.shr Ω (A.bits BinOp.or Ω (A.shl Ω (A.conv Ω n) 32) (A.conv Ω n1)) t6)))]) Δ Δ),(1,δ [ArZ (Value.int ζ (A.conv ζ (A.shr Ω (A.bits BinOp.or Ω (A.shl Ω (A.conv Ω n) 32) (A.conv Ω n1)) t6)))] Δ Δ)] 3 Ξ) [0] r o) Ξ) Ξ)))
 (br (A.lt 32 0)
 (Ξ)
 (unI t8 λi=>
 BH t0 i λcs=>
 dk [.J .u32,.N] [.l cs] λn=>
 br (A.lt t6 0)
 (Ξ)
 (br (Bj (n7+1) 4) (br ((0+n7*1).ble c7.length) (AF D (ArW 242 0) [Ψ t0,iv t6,χ 0 0 (n7+1) 1,iv (A.add θ t8 1)] [δ (ArV 0 (ArQ (0+n7*1) c7)++[ArZ (Value.int ζ (A.conv ζ (A.shr Ω (A.bits BinOp.or Ω (A.shl Ω 0 32) (A.conv Ω n)) t6)))]) Δ Δ] λr o=>
 AW 1 [2] (AH.mk [(2,δ (ArV 0 (ArQ (0+n7*1) c7)++[ArZ (Value.int ζ (A.conv ζ (A.shr Ω (A.bits BinOp.or Ω (A.shl Ω 0 32) (A.conv Ω n)) t6)))]) Δ Δ),(1,δ [ArZ (Value.int ζ (A.conv ζ (A.shr Ω (A.bits BinOp.or Ω (A.shl Ω 0 32) (A.conv Ω n)) t6)))] Δ Δ)] 3 Ξ) [0] r o) Ξ) Ξ))))
 (Θ ((ι [iv 0,χ 1 0 n7 1],[BO.del,ArU (δ c7 Δ Δ)]))):=by kernel_rfl
theorem AmY(x0 x1:Rw):BY A D Ds Lq .n 204 R6 [Ψ x0,Ψ x1] [] =
 unI (A.sub θ (↑(Al x1)) 1) λi=>
 BH x1 i λcs=>
 dk [.J .u32,.N] [.l cs] λn=>
 Af D (ψ 237) [ArZ (Value.int ζ n)] [] [.i,.E] λn1=>
 Af D (ψ 238) [Ψ x1,iv n1] [] [.t,.C,.q 0 1,.I,.N,.R,.X,.E] λn2 _ cs2=>
 Af D (ψ 238) [Ψ x0,iv n1] [] [.t,.C,.q 0 1,.I,.N,.R,.X,.E] λn4 _ cs4=>
 unI (A.sub θ (A.add θ (↑(Al x0)) 1) ↑n4) λi1=>
 br (i1.ble 9223372036854775807) (br (i1.beq 0)
 (unI (A.sub θ ↑n4 ↑n2) λi2=>
 unI (A.sub θ ↑n4 ↑n2) λi3=>
 br (i2.ble i3) (br (Bj i3 4) (br ((0+n2*1).ble cs2.length) (AF D (ArW 204 0) [χ 0 0 i2 1,iv n1,Ψ (Be n2 1 (ArQ (n2*1) cs2)),χ 1 0 n4 1,iv ↑n2,iv (A.sub θ (A.sub θ ↑n4 ↑n2) 1)] [δ (BQ [ArZ (Value.int ζ 0)] (i2*1)) Δ Δ,δ cs4 Δ Δ] λr3 o3=>
 dk [.t,.C,.x,.X] [.v r3] λc4 l7=>
 br (Bo 1 c4)
 (dk [.C,.q 2 1,.I,.C,.q 3 1,.I,.N,.D,.D,.R,.X,.R,.X,.E] [.l l7,.o o3] λn6 n7 n8 n9 cs6 cs7=>
 br ((0+n6*1).ble cs6.length) (AF D (ψ 202) [Ψ (Be n6 1 (ArQ (n6*1) cs6))] [] λr4 o4=>
 dk [.q 0 1,.R,.X,.E] [.v r4,.o o4] λn10 cs8=>
 unI n9 λi4=>
 br (IJ 0 i4 n8) (br ((0+i4*1).ble cs7.length) (AF D (ψ 242) [Ψ (Be i4 1 (ArQ (i4*1) cs7)),iv n7] [] λr5 o5=>
 dk [.l,.E] [.v r5,.o o5] λxs=>
 br ((0+n10*1).ble cs8.length) (Θ ((ι [Ψ (Be n10 1 (ArQ (n10*1) cs8)),Ψ xs],[]))) Ξ) Ξ) Ξ) Ξ)
 (Ξ)) Ξ) Ξ) Ξ)
 (br (EJ (BQ [ArZ (Value.int ζ 0)] (i1*1))) (br (Bj (n4+i1) 4) (br ((0+n4*1).ble cs4.length) (unI (A.sub θ ↑(n4+i1) ↑n2) λi2=>
 unI (A.sub θ ↑(n4+i1) ↑n2) λi3=>
 br (i2.ble i3) (br (Bj i3 4) (br ((0+n2*1).ble cs2.length) (AF D (ArW 204 0) [χ 0 0 i2 1,iv n1,Ψ (Be n2 1 (ArQ (n2*1) cs2)),χ 1 0 (n4+i1) 1,iv ↑n2,iv (A.sub θ (A.sub θ ↑(n4+i1) ↑n2) 1)] [δ (BQ [ArZ (Value.int ζ 0)] (i2*1)) Δ Δ,δ (ArV 0 (ArQ (0+n4*1) cs4)++BQ [ArZ (Value.int ζ 0)] (i1*1)) Δ Δ] λr3 o3=>
 dk [.t,.C,.x,.X] [.v r3] λc4 l7=>
 br (Bo 1 c4)
 (dk [.C,.q 2 1,.I,.C,.q 3 1,.I,.N,.D,.D,.R,.X,.R,.X,.E] [.l l7,.o o3] λn6 n7 n8 n9 cs6 cs7=>
 br ((0+n6*1).ble cs6.length) (AF D (ψ 202) [Ψ (Be n6 1 (ArQ (n6*1) cs6))] [] λr4 o4=>
 dk [.q 0 1,.R,.X,.E] [.v r4,.o o4] λn10 cs8=>
 unI n9 λi4=>
 br (IJ 0 i4 n8) (br ((0+i4*1).ble cs7.length) (AF D (ψ 242) [Ψ (Be i4 1 (ArQ (i4*1) cs7)),iv n7] [] λr5 o5=>
 dk [.l,.E] [.v r5,.o o5] λxs=>
 br ((0+n10*1).ble cs8.length) (Θ ((ι [Ψ (Be n10 1 (ArQ (n10*1) cs8)),Ψ xs],[]))) Ξ) Ξ) Ξ) Ξ)
 (Ξ)) Ξ) Ξ) Ξ) Ξ) Ξ) Ξ)) Ξ:=by kernel_rfl
theorem RE(n4:Nat)(c4:List AV)(t6:Int)(t7:Rw)(n11:Nat)(c11:List AV)(t12 t13:Int):Dy A D Ds Lq .n 204 0 (AZ R6 0).fst (AZ R6 0).snd [χ 0 0 n4 1,iv t6,Ψ t7,χ 1 0 n11 1,iv t12,iv t13] [{ cells:=c4,st:=Δ,ex:=Δ },{ cells:=c11,st:=Δ,ex:=Δ }] =
 br (A.le 0 t13)
 (unI t13 λi=>
 br (IJ i n11 n11) (AF D (ψ 239) [χ 0 (0+i*1) (n11-i) 1,Ψ t7] [δ c11 Δ Δ] λr o=>
 dk [.j .u64,.K,.E] [.v r,.o o] λn=>
 unI t13 λi1=>
 unI (A.add θ (A.add θ t13 t12) 1) λi2=>
 br (IJ i1 i2 n11) (AF D (ψ 240) [χ 0 (0+i1*1) (i2-i1) 1,Ψ t7,ArZ (Value.int Ω n)] [δ c11 Δ Δ] λr1 o1=>
 dk [.b,.R,.X,.E] [.v r1,.o o1] λb cs=>
 br b
 (unI t13 λi3=>
 unI (A.add θ (A.add θ t13 t12) 1) λi4=>
 br (IJ i3 i4 n11) (AF D (ψ 241) [χ 0 (0+i3*1) (i4-i3) 1,Ψ t7] [δ cs Δ Δ] λr2 o2=>
 dk [.t,.N,.R,.X,.E] [.v r2,.o o2] λcs2=>
 unI t13 λi5=>
 br (i5.blt n4) (br ((0+i5*1+1).ble c4.length) (AF D (ArW 204 0) [χ 0 0 n4 1,iv t6,Ψ t7,χ 1 0 n11 1,iv t12,iv (A.sub θ t13 1)] [δ (AD c4 (0+i5*1) [ArZ (Value.int ζ (A.conv ζ (A.sub Ω n 1)))]) Δ Δ,δ cs2 Δ Δ] λr3 o3=>
 AW 2 [0,1] (AH.mk [(0,δ (AD c4 (0+i5*1) [ArZ (Value.int ζ (A.conv ζ (A.sub Ω n 1)))]) Δ Δ),(1,δ cs2 Δ Δ)] 2 Ξ) [1,0] r3 o3) Ξ) Ξ) Ξ)
 (unI t13 λi3=>
 br (i3.blt n4) (br ((0+i3*1+1).ble c4.length) (AF D (ArW 204 0) [χ 0 0 n4 1,iv t6,Ψ t7,χ 1 0 n11 1,iv t12,iv (A.sub θ t13 1)] [δ (AD c4 (0+i3*1) [ArZ (Value.int ζ (A.conv ζ n))]) Δ Δ,δ cs Δ Δ] λr2 o2=>
 AW 2 [0,1] (AH.mk [(0,δ (AD c4 (0+i3*1) [ArZ (Value.int ζ (A.conv ζ n))]) Δ Δ),(1,δ cs Δ Δ)] 2 Ξ) [1,0] r2 o2) Ξ) Ξ)) Ξ) Ξ)
 (Θ ((ι [iv 0,χ 2 0 n4 1,iv t6,χ 3 0 n11 1,iv t12],[BO.del,BO.del,ArU (δ c4 Δ Δ),ArU (δ c11 Δ Δ)]))):=by kernel_rfl
theorem AmQ(x0 x1:Rw):BY A D Ds Ab3 .n 144 AcJ [Ψ x0,Ψ x1] [] =
 Af D (ψ 200) [Ψ x0] [] [.l,.E] λxs=>
 Af D (ψ 200) [Ψ x1] [] [.l,.E] λxs1=>
 br (A.eq (↑(Al xs1)) 0)
 (Θ ((ι [Ψ [],Ψ [],iv 10],[])))
 (Af D (ψ 201) [Ψ xs,Ψ xs1] [] [.i,.E] λn=>
 br (A.lt n 0)
 (Af D (ψ 202) [Ψ xs] [] [.q 0 1,.R,.X,.E] λn1 cs=>
 br ((0+n1*1).ble cs.length) (Θ ((ι [Ψ [],Ψ (Be n1 1 (ArQ (n1*1) cs)),iv 0],[]))) Ξ)
 (br (A.eq (↑(Al xs1)) 1)
 (BH xs1 0 λcs=>
 dk [.J .u32,.N] [.l cs] λn1=>
 Af D (ψ 203) [Ψ xs,ArZ (Value.int ζ n1)] [] [.t,.L,.J .u32,.N,.E] λxs2 n2=>
 Af D (ψ 184) [ArZ (Value.int Ω (A.conv Ω n2))] [] [.l,.E] λxs3=>
 Θ ((ι [Ψ xs2,Ψ xs3,iv 0],[])))
 (Af D (ψ 204) [Ψ xs,Ψ xs1] [] [.t,.L,.L,.N,.E] λxs2 xs3=>
 Θ ((ι [Ψ xs2,Ψ xs3,iv 0],[]))))):=by kernel_rfl
theorem Am1(x0:Int):BY A D Ds Ab8 .n 237 AcP [ArZ (Value.int ζ x0)] [] =
 Af D (ψ 222) [ArZ (Value.int ζ x0)] [] [.i,.E] λn=>
 Θ ((iv (A.sub θ 32 n),[])):=by kernel_rfl
theorem AmZ(x0:Int):BY A D Ds Ov .n 222 AcN [ArZ (Value.int ζ x0)] [] =
 br (A.le 65536 x0)
 (br (A.lt 16 0)
 (Ξ)
 (br (A.le 256 (A.shr ζ x0 16))
 (br (A.lt 8 0)
 (Ξ)
 (unI (A.conv Avc (A.shr ζ (A.shr ζ x0 16) 8)) λi=>
 br (i.blt (A.slen (C7 [0,1,2,2,3,3,3,3,4,4,4,4,4,4,4,4,5,5,5,5,5,5,5,5,5,5,5,5,5,5,5,5,6,6,6,6,6,6,6,6,6,6,6,6,6,6,6,6,6,6,6,6,6,6,6,6,6,6,6,6,6,6,6,6,7,7,7,7,7,7,7,7,7,7,7,7,7,7,7,7,7,7,7,7,7,7,7,7,7,7,7,7,7,7,7,7,7,7,7,7,7,7,7,7,7,7,7,7,7,7,7,7,7,7,7,7,7,7,7,7,7,7,7,7,7,7,7,7,8,8,8,8,8,8,8,8,8,8,8,8,8,8,8,8,8,8,8,8,8,8,8,8,8,8,8,8,8,8,8,8,8,8,8,8,8,8,8,8,8,8,8,8,8,8,8,8,8,8,8,8,8,8,8,8,8,8,8,8,8,8,8,8,8,8,8,8,8,8,8,8,8,8,8,8,8,8,8,8,8,8,8,8,8,8,8,8,8,8,8,8,8,8,8,8,8,8,8,8,8,8,8,8,8,8,8,8,8,8,8,8,8,8,8,8,8,8,8,8,8,8,8,8,8,8,8,8]))) (Θ ((iv (A.add θ (A.add θ 16 8) (A.conv θ (A.sat (C7 [0,1,2,2,3,3,3,3,4,4,4,4,4,4,4,4,5,5,5,5,5,5,5,5,5,5,5,5,5,5,5,5,6,6,6,6,6,6,6,6,6,6,6,6,6,6,6,6,6,6,6,6,6,6,6,6,6,6,6,6,6,6,6,6,7,7,7,7,7,7,7,7,7,7,7,7,7,7,7,7,7,7,7,7,7,7,7,7,7,7,7,7,7,7,7,7,7,7,7,7,7,7,7,7,7,7,7,7,7,7,7,7,7,7,7,7,7,7,7,7,7,7,7,7,7,7,7,7,8,8,8,8,8,8,8,8,8,8,8,8,8,8,8,8,8,8,8,8,8,8,8,8,8,8,8,8,8,8,8,8,8,8,8,8,8,8,8,8,8,8,8,8,8,8,8,8,8,8,8,8,8,8,8,8,8,8,8,8,8,8,8,8,8,8,8,8,8,8,8,8,8,8,8,8,8,8,8,8,8,8,8,8,8,8,8,8,8,8,8,8,8,8,8,8,8,8,8,8,8,8,8,8,8,8,8,8,8,8,8,8,8,8,8,8,8,8,8,8,8,8,8,8,8,8,8,8]) i))),[]))) Ξ))
 (unI (A.conv Avc (A.shr ζ x0 16)) λi=>
 br (i.blt (A.slen (C7 [0,1,2,2,3,3,3,3,4,4,4,4,4,4,4,4,5,5,5,5,5,5,5,5,5,5,5,5,5,5,5,5,6,6,6,6,6,6,6,6,6,6,6,6,6,6,6,6,6,6,6,6,6,6,6,6,6,6,6,6,6,6,6,6,7,7,7,7,7,7,7,7,7,7,7,7,7,7,7,7,7,7,7,7,7,7,7,7,7,7,7,7,7,7,7,7,7,7,7,7,7,7,7,7,7,7,7,7,7,7,7,7,7,7,7,7,7,7,7,7,7,7,7,7,7,7,7,7,8,8,8,8,8,8,8,8,8,8,8,8,8,8,8,8,8,8,8,8,8,8,8,8,8,8,8,8,8,8,8,8,8,8,8,8,8,8,8,8,8,8,8,8,8,8,8,8,8,8,8,8,8,8,8,8,8,8,8,8,8,8,8,8,8,8,8,8,8,8,8,8,8,8,8,8,8,8,8,8,8,8,8,8,8,8,8,8,8,8,8,8,8,8,8,8,8,8,8,8,8,8,8,8,8,8,8,8,8,8,8,8,8,8,8,8,8,8,8,8,8,8,8,8,8,8,8,8]))) (Θ ((iv (A.add θ 16 (A.conv θ (A.sat (C7 [0,1,2,2,3,3,3,3,4,4,4,4,4,4,4,4,5,5,5,5,5,5,5,5,5,5,5,5,5,5,5,5,6,6,6,6,6,6,6,6,6,6,6,6,6,6,6,6,6,6,6,6,6,6,6,6,6,6,6,6,6,6,6,6,7,7,7,7,7,7,7,7,7,7,7,7,7,7,7,7,7,7,7,7,7,7,7,7,7,7,7,7,7,7,7,7,7,7,7,7,7,7,7,7,7,7,7,7,7,7,7,7,7,7,7,7,7,7,7,7,7,7,7,7,7,7,7,7,8,8,8,8,8,8,8,8,8,8,8,8,8,8,8,8,8,8,8,8,8,8,8,8,8,8,8,8,8,8,8,8,8,8,8,8,8,8,8,8,8,8,8,8,8,8,8,8,8,8,8,8,8,8,8,8,8,8,8,8,8,8,8,8,8,8,8,8,8,8,8,8,8,8,8,8,8,8,8,8,8,8,8,8,8,8,8,8,8,8,8,8,8,8,8,8,8,8,8,8,8,8,8,8,8,8,8,8,8,8,8,8,8,8,8,8,8,8,8,8,8,8,8,8,8,8,8,8]) i))),[]))) Ξ)))
 (br (A.le 256 x0)
 (br (A.lt 8 0)
 (Ξ)
 (unI (A.conv Avc (A.shr ζ x0 8)) λi=>
 br (i.blt (A.slen (C7 [0,1,2,2,3,3,3,3,4,4,4,4,4,4,4,4,5,5,5,5,5,5,5,5,5,5,5,5,5,5,5,5,6,6,6,6,6,6,6,6,6,6,6,6,6,6,6,6,6,6,6,6,6,6,6,6,6,6,6,6,6,6,6,6,7,7,7,7,7,7,7,7,7,7,7,7,7,7,7,7,7,7,7,7,7,7,7,7,7,7,7,7,7,7,7,7,7,7,7,7,7,7,7,7,7,7,7,7,7,7,7,7,7,7,7,7,7,7,7,7,7,7,7,7,7,7,7,7,8,8,8,8,8,8,8,8,8,8,8,8,8,8,8,8,8,8,8,8,8,8,8,8,8,8,8,8,8,8,8,8,8,8,8,8,8,8,8,8,8,8,8,8,8,8,8,8,8,8,8,8,8,8,8,8,8,8,8,8,8,8,8,8,8,8,8,8,8,8,8,8,8,8,8,8,8,8,8,8,8,8,8,8,8,8,8,8,8,8,8,8,8,8,8,8,8,8,8,8,8,8,8,8,8,8,8,8,8,8,8,8,8,8,8,8,8,8,8,8,8,8,8,8,8,8,8,8]))) (Θ ((iv (A.add θ (A.add θ 0 8) (A.conv θ (A.sat (C7 [0,1,2,2,3,3,3,3,4,4,4,4,4,4,4,4,5,5,5,5,5,5,5,5,5,5,5,5,5,5,5,5,6,6,6,6,6,6,6,6,6,6,6,6,6,6,6,6,6,6,6,6,6,6,6,6,6,6,6,6,6,6,6,6,7,7,7,7,7,7,7,7,7,7,7,7,7,7,7,7,7,7,7,7,7,7,7,7,7,7,7,7,7,7,7,7,7,7,7,7,7,7,7,7,7,7,7,7,7,7,7,7,7,7,7,7,7,7,7,7,7,7,7,7,7,7,7,7,8,8,8,8,8,8,8,8,8,8,8,8,8,8,8,8,8,8,8,8,8,8,8,8,8,8,8,8,8,8,8,8,8,8,8,8,8,8,8,8,8,8,8,8,8,8,8,8,8,8,8,8,8,8,8,8,8,8,8,8,8,8,8,8,8,8,8,8,8,8,8,8,8,8,8,8,8,8,8,8,8,8,8,8,8,8,8,8,8,8,8,8,8,8,8,8,8,8,8,8,8,8,8,8,8,8,8,8,8,8,8,8,8,8,8,8,8,8,8,8,8,8,8,8,8,8,8,8]) i))),[]))) Ξ))
 (unI (A.conv Avc x0) λi=>
 br (i.blt (A.slen (C7 [0,1,2,2,3,3,3,3,4,4,4,4,4,4,4,4,5,5,5,5,5,5,5,5,5,5,5,5,5,5,5,5,6,6,6,6,6,6,6,6,6,6,6,6,6,6,6,6,6,6,6,6,6,6,6,6,6,6,6,6,6,6,6,6,7,7,7,7,7,7,7,7,7,7,7,7,7,7,7,7,7,7,7,7,7,7,7,7,7,7,7,7,7,7,7,7,7,7,7,7,7,7,7,7,7,7,7,7,7,7,7,7,7,7,7,7,7,7,7,7,7,7,7,7,7,7,7,7,8,8,8,8,8,8,8,8,8,8,8,8,8,8,8,8,8,8,8,8,8,8,8,8,8,8,8,8,8,8,8,8,8,8,8,8,8,8,8,8,8,8,8,8,8,8,8,8,8,8,8,8,8,8,8,8,8,8,8,8,8,8,8,8,8,8,8,8,8,8,8,8,8,8,8,8,8,8,8,8,8,8,8,8,8,8,8,8,8,8,8,8,8,8,8,8,8,8,8,8,8,8,8,8,8,8,8,8,8,8,8,8,8,8,8,8,8,8,8,8,8,8,8,8,8,8,8,8]))) (Θ ((iv (A.add θ 0 (A.conv θ (A.sat (C7 [0,1,2,2,3,3,3,3,4,4,4,4,4,4,4,4,5,5,5,5,5,5,5,5,5,5,5,5,5,5,5,5,6,6,6,6,6,6,6,6,6,6,6,6,6,6,6,6,6,6,6,6,6,6,6,6,6,6,6,6,6,6,6,6,7,7,7,7,7,7,7,7,7,7,7,7,7,7,7,7,7,7,7,7,7,7,7,7,7,7,7,7,7,7,7,7,7,7,7,7,7,7,7,7,7,7,7,7,7,7,7,7,7,7,7,7,7,7,7,7,7,7,7,7,7,7,7,7,8,8,8,8,8,8,8,8,8,8,8,8,8,8,8,8,8,8,8,8,8,8,8,8,8,8,8,8,8,8,8,8,8,8,8,8,8,8,8,8,8,8,8,8,8,8,8,8,8,8,8,8,8,8,8,8,8,8,8,8,8,8,8,8,8,8,8,8,8,8,8,8,8,8,8,8,8,8,8,8,8,8,8,8,8,8,8,8,8,8,8,8,8,8,8,8,8,8,8,8,8,8,8,8,8,8,8,8,8,8,8,8,8,8,8,8,8,8,8,8,8,8,8,8,8,8,8,8]) i))),[]))) Ξ)):=by kernel_rfl
end
section
variable {D:Orc} (K:Knows Ds I9 D)
include K
theorem Aed(l:List Nat)(hl:BU l):∀(n:Nat),n<=l.length->CC l<=n->D.ask (.lp 200 0) [eN l,iv (n:Int)] []=Θ (.tup [iv 0,eN l,iv (CC l:Int)],[]):=by
 intro n;have hl':=hl;unfold BU at hl'
 induction n with
 |zero=>
  intro _ ht;refine Ax K Oo (Xh ..) ?_;refine Ak ?_;rw[show CC l=0 by omega];rfl
 |succ n ih=>
  intro hn ht;refine Ax K Oo (Xh ..) ?_;refine Ap ?_;rw[show Ae.sub .i64 ((n+1:Nat):Int) 1=(n:Int) from (Ps (i:=n+1) (j:=1) (by omega) (by omega)).trans (by simp)];rw[Au,AB (φ (show n<l.length by omega))];simp only[eL,Tx,ND,DK,Aa]
  by_cases h0:l[n]=0
  .refine Bt ?_ (by rw[h0];rfl)
   refine Ab (ih (by omega) (L8 ht (by rw[φ (show n<l.length by omega),h0]))) ?_;rfl
  .refine Ba ?_
   have:=Ns (φ (show n<l.length by omega)) h0;rw[show CC l=n+1 by omega];rfl
theorem Fq{l:List Nat}(hl:BU l)(h:Limbs l):D.ask (.fn 200) [eN l] []=Θ (eN (Ah (Ad l)),[]):=by
 refine AC K Oo (AmU ..) ?_;rw[Ao];refine Ab (Aed K l hl _ (κ _) (Cs l)) ?_;simp only[eN,ND,DK,Aa];rw[Au,Ao,S3,MF,In h];rw[show IJ 0 (CC l) l.length=Δ by unfold IJ;rw[show ArY 0 (CC l)=Δ by simp];simpa using Cs l];rfl
variable (C:CloneF D)
include C
theorem F9{l:List Nat}(hl:BU l)(h:Limbs l):D.ask (.fn 202) [eN l] []=Θ (.sl 0 0 (Ah (Ad l)).length 1,[.set (δ (Ag eL (Ah (Ad l))) Δ Δ)]):=by
 refine AC K Ab6 (AmW ..) ?_;refine Ab (Fq K hl h) ?_;simp only[eN,ND,DK,Aa];have g:=C.nat _ (DH h hl);unfold eN at g;refine Ab g ?_;rfl
theorem Ako(n:Nat)(h:n<18446744073709551616):D.ask (.fn 184) [.v (.int .u64 (n:Int))] []=Θ (eN (Ah n),[]):=by
 refine AC K Ab5 (AmT ..) ?_;refine Ak ?_ (by decide);rw[CS,EW,CS];have hl:Limbs [n % 4294967296,n / 4294967296 % 4294967296]:=Bc (AsJ _ (by omega)) (Bc (AsJ _ (by omega)) BG);have g:=F9 K C (l:=[n % 4294967296,n / 4294967296 % 4294967296]) (by unfold BU;simp) hl;rw[show Ad [n % 4294967296,n / 4294967296 % 4294967296]=n by simp only[Ad];omega]at g;refine Ab g ?_;simp only[ND,DK,Aa];rw[A1 AA _ (by omega)];refine Ac ?_;rw[Bw AA _ rfl];rfl
omit C in
theorem AeC(a b:List Nat)(ha:Limbs a)(hb:Limbs b)(hab:a.length=b.length)(hs:BU a):∀(n:Nat),n<=a.length->D.ask (.lp 201 0) [eN a,eN b,iv ((n:Int)-1)] []
  = Θ (if CJ (Ad (a.take n)) (Ad (b.take n))=0 then .tup [iv 1] else .tup [bv Δ,iv (CJ (Ad (a.take n)) (Ad (b.take n)))],[]):=by
 intro n;unfold BU at hs
 induction n with
 |zero=>
  intro _;refine Ax K Oq (Xi ..) ?_;refine CA ?_;rfl
 |succ n ih=>
  intro hn;refine Ax K Oq (Xi ..) ?_;rw[show (((n+1:Nat):Int)-1)=(n:Int) by omega];refine Cg ?_;have h1:n<a.length:=by omega
  have h2:n<b.length:=by omega
  have e1:a.take (n+1)=a.take n++[a[n]]:=by rw[AsD h1]
  have e2:b.take (n+1)=b.take n++[b[n]]:=by rw[AsD h2]
  rw[e1,e2,NZ (ha.take n) (hb.take n) (by simp;omega)];simp only[Au,AB (φ h1),AB (φ h2),eL,Tx,ND,DK,Aa]
  by_cases h3:a[n]<b[n]
  .refine Ap ?_
   rw[if_pos h3];rfl
  .refine Ak ?_
   rw[if_neg h3]
   by_cases h4:b[n]<a[n]
   .refine Ap ?_
    rw[if_pos h4];rfl
   .refine Ak ?_
    rw[if_neg h4];rw[show Ae.sub .i64 (n:Int) 1=(n:Int)-1 from DB (by omega) (by omega)];refine Ab (ih (by omega)) ?_
    by_cases h5:CJ (Ad (a.take n)) (Ad (b.take n))=0
    .rw[if_pos h5];rfl
    .rw[if_neg h5];rfl
omit C in
theorem AeD{a b:List Nat}(hsa:BU a)(ha:Limbs a)(hsb:BU b)(hb:Limbs b):D.ask (.fn 201) [eN a,eN b] []=Θ (iv (CJ (Ad a) (Ad b)),[]):=by
 have s1:=DH ha hsa;have s2:=DH hb hsb;unfold BU at s1 s2;refine AC K Oq (AmV ..) ?_;refine Ab (Fq K hsa ha) ?_;simp only[eN,ND,DK,Aa];refine Ab (Fq K hsb hb) ?_;simp only[eN,ND,DK,Aa,Ao];generalize Ad a=x at *;generalize Ad b=y at *
 by_cases h1:(Ah x).length<(Ah y).length
 .refine Ap ?_
  have:=Gb h1;unfold CJ;rw[if_pos this]
 .refine Ak ?_
  by_cases h2:(Ah y).length<(Ah x).length
  .refine Ap ?_
   have:=Gb h2;unfold CJ;rw[if_neg (by omega),if_pos this]
  .refine Ak ?_
   have hx:(Ah x).length=(Ah y).length:=by omega
   have g:=AeC K (Ah x) (Ah y) (Aq x) (Aq y) hx s1 (Ah x).length (κ _);rw[Atc,hx,Atc,Az,Az]at g;rw[show Ae.sub .i64 ((Ah x).length:Int) 1=((Ah x).length:Int)-1 from DB (by omega) (by omega),hx];refine Ab g ?_
   by_cases h5:CJ x y=0
   .rw[if_pos h5,h5];rfl
   .rw[if_neg h5];rfl
omit C in
theorem Aky(a:List Nat)(ha:Limbs a)(hs:BU a)(b:Nat)(hb:0<b)(hb2:b<4294967296):∀(i:Nat) (out:List Nat),i<=a.length->out.length=a.length->out.drop i=Jo b (a.drop i)->
  D.ask (.lp 203 0) [eN a,.v (.int .u32 (b:Int)),.sl 0 0 out.length 1,.v (.int .u64 ((Ad (a.drop i) % b:Nat):Int)),iv ((i:Int)-1)] [δ (Ag eL out) Δ Δ]
   = Θ (.tup [iv 0,.sl 1 0 a.length 1,.v (.int .u64 ((Ad a % b:Nat):Int))],[.del,.set (δ (Ag eL (Jo b a)) Δ Δ)]):=by
 unfold BU at hs;intro i
 induction i with
 |zero=>
  intro out hi hl hd;rw[ArT,ArT]at hd;rw[ArT,hd,HD];refine Ax K Ot (Xj ..) ?_;exact Vr (by omega)
 |succ i ih=>
  intro out hi hl hd;have h1:i<a.length:=by omega
  have h2:i<out.length:=by omega
  have hx:=ha.get h1;have hm:=AsJ (Ad (a.drop (i+1))) hb;have hdc:a.drop i=a[i]::a.drop (i+1):=ο h1;have hr:=ZP b a[i] (a.drop (i+1));rw[←hdc]at hr;have hq:Jo b (a.drop i)=((Ad (a.drop (i+1)) % b)*4294967296+a[i]) / b::Jo b (a.drop (i+1)):=by rw[hdc,Jo]
  have hqlt:=Xg (b:=b) hm hx;refine Ax K Ot (Xj ..) ?_;rw[show (((i+1:Nat):Int)-1)=(i:Int) by omega];refine Cg ?_;refine Ak ?_ (by decide);rw[Au,AB (φ h1)];simp only[eL,FX,ND,DK,Aa];rw[Bg (show b<_ by omega)];refine Ba ?_;rw[Au,BE h2];refine Ac ?_;rw[show ArY (0+i*1+1) (Ag eL out).length=Δ by rw[AR AA];simp;omega];refine Ac ?_;refine Ba ?_;have hbig:(Ad (a.drop (i+1)) % b)*4294967296+a[i]<18446744073709551616:=by omega
  rw[Bg (show a[i]<_ by omega),KF (by omega),O4 hx (by omega),Adi hbig,Adl,Bq hqlt,hr,show Ae.sub .i64 (i:Int) 1=(i:Int)-1 from DB (by omega) (by omega),CY _ _ _ h2];have g:=ih (out.set i (((Ad (a.drop (i+1)) % b)*4294967296+a[i]) / b)) (by omega) (by rw[Asd];exact hl) (by
   rw[hq,←hd,ο (by rw[Asd];exact h2),Aux,As4 (by omega)])
  rw[Asd]at g;refine Ab g ?_;rfl
theorem YU{a:List Nat}(ha:Limbs a)(hs:BU a){b:Nat}(hb:0<b)(hb2:b<4294967296):D.ask (.fn 203) [eN a,.v (.int .u32 (b:Int))] []=Θ (.tup [eN (Ah (Ad a / b)),.v (.int .u32 ((Ad a % b:Nat):Int))],[]):=by
 have hs':=hs;unfold BU at hs';have g:=Aky K a ha hs b hb hb2 a.length (Atb a.length 0) (κ _) (by simp) (by simp[Jo]);rw[Auc,At3,show Ad [] % b=0 by simp[Ad]]at g;refine AC K Ot (AmX ..) ?_;rw[Ao,show ArY a.length a.length=Δ by simp];refine Ac ?_;rw[AY (n:=a.length) (b:=4) (by omega) (by omega)];refine Ac ?_;rw[Iw,show Ae.sub .i64 (a.length:Int) 1=(a.length:Int)-1 from DB (by omega) (by omega)];refine Ab g ?_;simp only[FX,ND,DK,Aa];have hm:=AsJ (Ad a) hb;have gt:=F9 K C (l:=Jo b a) (by unfold BU;rw[HD];exact hs') (N4 hb a ha);rw[Ra hb]at gt;rw[show ArY (0+a.length*1) (Ag eL (Jo b a)).length=Δ by rw[AR AA,HD];simp];refine Ac ?_;rw[Bw AA _ (HD b a).symm];refine Ab gt ?_;simp only[ND,DK,Aa];rw[A1 AA _ (by omega)];refine Ac ?_;rw[Bw AA _ rfl];rw[Bq (by omega)];rfl
end
section
variable {D:Orc} (K:Knows Ds I9 D)
include K
theorem Afi(a:List Nat)(ha:Limbs a)(hs:BU a)(s:Nat)(h31:s<=31):∀(k i:Nat) (out:List Nat) (c:Nat),a.length-i=k->i<=a.length->c<2 ^ s->out.length+k<=2000000000->
  ∃(o:List Nat) (c':Nat),D.ask (.lp 238 0) [iv (s:Int),.sl 0 0 out.length 1,.v (.int .u64 (c:Int)),eN a,iv (a.length:Int),iv (i:Int)] [δ (Ag eL out) Δ Δ]
   = Θ (.tup [iv 1,.sl 1 0 o.length 1,.v (.int .u64 (c':Int))],[.del,.set (δ (Ag eL o) Δ Δ)])/\c'<2 ^ s/\o++[c']=out++DL (2 ^ s) c (a.drop i):=by
 obtain⟨p0,p31,_⟩:=O3 h31;intro k;unfold BU at hs
 induction k with
 |zero=>
  intro i out c hi hle hc ho;refine⟨out,c,?_,hc,?_⟩
  .refine Ax K Ow (Xk ..) ?_
   exact Ek (by omega)
  .rw[show a.drop i=[] from Ar6 (by omega)]
   rfl
 |succ k ih=>
  intro i out c hi hle hc ho;have hlt:i<a.length:=by omega
  have hx:=ha.get hlt;have hmul:a[i]*2 ^ s<=4294967295*2 ^ s:=Asa _ (by omega);have hb:a[i]*2 ^ s+c<18446744073709551616:=by omega
  have hc2:(a[i]*2 ^ s+c) / 4294967296<2 ^ s:=by
   rw[Aue (by omega)];omega
  rw[show a.drop i=a[i]::a.drop (i+1) from ο hlt];obtain⟨o,c',h1,h2,h3⟩:=ih (i+1) (out++[(a[i]*2 ^ s+c) % 4294967296]) ((a[i]*2 ^ s+c) / 4294967296) (by omega) (by omega) hc2 (by simp;omega);refine⟨o,c',?_,h2,?_⟩
  .refine Ax K Ow (Xk ..) ?_
   refine Ap ?_;rw[Au,AB (φ hlt)];have hf:Bj (out.length+1) 4=Δ:=AY (by omega) (by omega);have hb1:ArY (0+out.length*1) (Ag eL out).length=Δ:=A1 AA out (by omega);have e3:∀ s:Nat,ArV 0 (ArQ (0+out.length*1) (Ag eL out))++[.v (.int .u32 (s:Int))]=Ag eL (out++[s]):=λs=>by
    rw[ArT,Bk AA out (by omega)];exact Bn eL out s
   rw[η,Asi]at h1;simp only[eL,FX,ND,DK,Aa];refine Ak ?_;rw[hf,hb1];refine Ac ?_;refine Ac ?_;refine Ak ?_ (by decide);rw[Bg (by omega),Ya (by omega) (by omega),Adf hc hb,CS,EW,e3,BV (by omega)];refine Ab h1 ?_;rfl
  .rw[h3,DL,Ar4]
   rfl
variable (C:CloneF D)
include C
theorem XG{a:List Nat}(ha:Limbs a)(hs0:a.length<=999999998){s:Nat}(h31:s<=31):D.ask (.fn 238) [eN a,iv (s:Int)] []=Θ (.tup [.sl 0 0 (Ah (Ad a*2 ^ s)).length 1,iv 0],[.set (δ (Ag eL (Ah (Ad a*2 ^ s))) Δ Δ)]):=by
 obtain⟨p0,p31,_⟩:=O3 h31;have hs:BU a:=by unfold BU;omega
 have hsn0:(Ah (Ad a)).length<=999999998:=by rw[Dz a ha];have:=Cs a;omega
 have hsn:=DH ha hs;obtain⟨o,c',g,hc,ho⟩:=Afi K (Ah (Ad a)) (Aq _) hsn s h31 (Ah (Ad a)).length 0 [] 0 (by omega) (by omega) p0 (by unfold BU at hsn;simp;omega);rw[Asg,ArT]at ho;have hlm:Limbs (DL (2 ^ s) 0 (Ah (Ad a))):=G4 _ _ _ (by omega) (Aq _) (by omega);have hol:o.length=(Ah (Ad a)).length:=by
  have:=congrArg Avt ho;rw[η,Pq]at this;simpa using this
 have gt:=F9 K C (l:=o++[c']) (by unfold BU;rw[η,hol];simp;omega) (by rw[ho];exact hlm);rw[ho,Io,Az,AsI,←ho]at gt;unfold BU at hsn;refine AC K Ow (Am2 ..) ?_;refine Ak ?_;refine Ak ?_;refine Ab (Fq K hs ha) ?_;simp only[eN,ND,DK,Aa];refine Ba ?_ (by decide);refine Ba ?_ (by decide);rw[Adg h31,Adj h31,Ao,AaS (by omega),show Ae.add .i64 ((0+(Ah (Ad a)).length:Nat):Int) 1=((0+(Ah (Ad a)).length+1:Nat):Int) from BV (by omega),Au,Au];refine Ac ?_;rw[AY (by omega) (by omega)];refine Ac ?_;refine Ab g ?_;simp only[FX,ND,DK,Aa];rw[AY (n:=o.length+1) (b:=4) (by omega) (by omega),A1 AA o (by omega),Bq (by omega)];have e3:ArV 0 (ArQ (0+o.length*1) (Ag eL o))++[.v (.int .u32 (c':Int))]=Ag eL (o++[c']):=by
  rw[ArT,Bk AA o (by omega)];exact Bn eL o c'
 rw[e3,A1 AA (o++[c']) (by simp)];refine Ac ?_;refine Ac ?_;rw[ArT,Bk AA (o++[c']) (by simp),show Be (o.length+1) 1 (Ag eL (o++[c']))=(o++[c']).map eL from by have:=CE AA (o++[c']);rwa [η]at this];refine Ac ?_;refine Ac ?_;refine Ab gt ?_;rfl
omit C in
theorem Zz(a:List Nat)(ha:Limbs a)(hs:BU a)(s:Nat)(h31:s<=31):∀(k i:Nat) (out:List Nat),a.length-i=k->i<=a.length->out.length+k<=2000000000->
  ∃ o:List Nat,o=out++Fl (2 ^ s) (a.drop i)/\D.ask (.lp 242 0) [eN a,iv (s:Int),.sl 0 0 out.length 1,iv (i:Int)] [δ (Ag eL out) Δ Δ]
   = Θ (.tup [iv 0,.sl 1 0 o.length 1],[.del,.set (δ (Ag eL o) Δ Δ)]):=by
 intro k;unfold BU at hs
 induction k with
 |zero=>
  intro i out hi hle ho;refine⟨out,by rw[show a.drop i=[] from Ar6 (by omega),Fl,AsX],?_⟩;refine Ax K Oy (Xm ..) ?_;rw[Ao];exact Ek (by omega)
 |succ k ih=>
  intro i out hi hle ho;have hlt:i<a.length:=by omega
  have hx:=ha.get hlt;rw[show a.drop i=a[i]::a.drop (i+1) from ο hlt,Fl];obtain⟨o,ho2,h1⟩:=ih (i+1) (out++[((a.drop (i+1)).headD 0*4294967296+a[i]) / 2 ^ s % 4294967296]) (by omega) (by omega) (by simp;omega);rw[Ar4,AtK]at ho2;refine⟨o,ho2,?_⟩;clear ho2;rw[show (out++[((a.drop (i+1)).headD 0*4294967296+a[i]) / 2 ^ s % 4294967296]).length=out.length+1 by simp]at h1;refine Ax K Oy (Xm ..) ?_;rw[Ao];refine Ap ?_;have hf:Bj (out.length+1) 4=Δ:=AY (by omega) (by omega);have hb1:ArY (0+out.length*1) (Ag eL out).length=Δ:=A1 AA out (by omega);have e3:∀ s:Nat,ArV 0 (ArQ (0+out.length*1) (Ag eL out))++[.v (.int .u32 (s:Int))]=Ag eL (out++[s]):=λs=>by
   rw[ArT,Bk AA out (by omega)];exact Bn eL out s
  rw[BV (by omega)]
  by_cases h2:i+1<a.length
  .have hd:(a.drop (i+1)).headD 0=a[i+1]:=by rw[ο h2];rfl
   have hy:=ha.get h2;rw[hd]at h1;refine Ap ?_;rw[Au,AB (φ h2)];simp only[eL,FX,ND,DK,Aa];refine Ak ?_ (by decide);rw[Au,AB (φ hlt)];simp only[eL,FX,ND,DK,Aa];refine Ak ?_;rw[hf,hb1,Bg (show a[i+1]<_ by omega),Bg (show a[i]<_ by omega),KF hy,O4 hx hy,Sr (by show s<=64;omega),CS,e3];refine Ac ?_;refine Ac ?_;refine Ab h1 ?_;rfl
  .have hd:(a.drop (i+1)).headD 0=0:=by rw[Ar6 (by omega)];rfl
   rw[hd]at h1;refine Ak ?_;refine Ak ?_ (by decide);rw[Au,AB (φ hlt)];simp only[eL,FX,ND,DK,Aa];refine Ak ?_;rw[hf,hb1,Bg (show a[i]<_ by omega),show Ae.shl .u64 0 32=((0*4294967296:Nat):Int) from KF (x:=0) (by omega),O4 hx (by omega),Sr (by show s<=64;omega),CS,e3];refine Ac ?_;refine Ac ?_;refine Ab h1 ?_;rfl
theorem ZA{a:List Nat}(ha:Limbs a)(hs:BU a){s:Nat}(h31:s<=31):D.ask (.fn 242) [eN a,iv (s:Int)] []=Θ (eN (Ah (Ad a / 2 ^ s)),[]):=by
 obtain⟨p0,p31,pq⟩:=O3 h31;have hsn:=DH ha hs;obtain⟨o,ho,g⟩:=Zz K (Ah (Ad a)) (Aq _) hsn s h31 (Ah (Ad a)).length 0 [] (by omega) (by omega) (by unfold BU at hsn;simp;omega);rw[Asg,ArT]at ho;subst ho;have hlen:=Pd (2 ^ s) (Ah (Ad a));have gt:=F9 K C (l:=Fl (2 ^ s) (Ah (Ad a))) (by unfold BU at *;rw[hlen];exact hsn) (KN _ _);rw[MK p0 pq _ (Aq _),Az]at gt;unfold BU at hsn;refine AC K Oy (Am6 ..) ?_;refine Ab (Fq K hs ha) ?_;simp only[eN,ND,DK,Aa];refine Ba ?_ (by decide);refine Ba ?_ (by decide);rw[AlR,Adg h31,Adj h31,Ao]
 by_cases h0:Ad a=0
 .rw[h0,CB,Nat.zero_div,CB]
  exact Rr (by decide)
 .have hne:0<(Ah (Ad a)).length:=by
   rcases As9 (Ah (Ad a)).length with h|h
   .exact absurd (Up.1 (Asx h)) h0
   .exact h
  refine CA ?_;rw[Ps (j:=0) (by omega) (by omega),Au,AY (by omega) (by omega)];refine Ac ?_;refine Ab g ?_;simp only[ND,DK,Aa];rw[A1 AA _ (by omega)];refine Ac ?_;rw[Bw AA _ rfl];refine Ab gt ?_;simp only[ND,DK,Aa];rw[A1 AA _ (by omega)];refine Ac ?_;rw[Bw AA _ rfl]
end
theorem NI:∀(m c w:Nat) (u d:List Nat),Du m c w u d=Du m c w (u.take d.length) d
 |_,_,_,_,[]=>rfl
 |m,c,w,[],x::d=>by rw[AuN]
 |m,c,w,y::u,x::d=>by
  rw[ε,AtG,Du,Du,AtB,AtB,Atg,Atg,NI m _ _ u d]
theorem NK:∀(m c w:Nat) (u d:List Nat),C3 m c w u d=C3 m c w (u.take d.length) d
 |_,_,_,_,[]=>rfl
 |m,c,w,[],x::d=>by rw[AuN]
 |m,c,w,y::u,x::d=>by
  rw[ε,AtG,C3,C3,AtB,AtB,Atg,Atg,NK m _ _ u d]
theorem NN:∀(c:Nat) (u d:List Nat),C4 c u d=C4 c (u.take d.length) d
 |_,_,[]=>rfl
 |c,[],x::d=>by rw[AuN]
 |c,y::u,x::d=>by
  rw[ε,AtG,C4,C4,AtB,AtB,Atg,Atg,NN _ u d]
theorem NM:∀(c:Nat) (u d:List Nat),CK c u d=CK c (u.take d.length) d
 |_,_,[]=>rfl
 |c,[],x::d=>by rw[AuN]
 |c,y::u,x::d=>by
  rw[ε,AtG,CK,CK,AtB,AtB,Atg,Atg,NM _ u d]
theorem IM{l:List Nat}(h:Limbs l){i v:Nat}(hv:v<4294967296):Limbs (l.set i v):=λz hz=>by
 rcases AuR hz with h1|h1
 .exact h z h1
 .rw[h1];exact hv
theorem Po{l:List Nat}{j v:Nat}(h:j<l.length):(l.set j v).take (j+1)=l.take j++[v]:=by
 rw[AsD (by rw[Asd];exact h),Aux,Avi (κ _)]
theorem cuN(n:Int)(f:Int->KR):(MP .u32 [.v (.int .u32 n)] λn y=>Fr y (f n))=f n:=by rw[FX];rfl
section
variable {D:Orc} (K:Knows Ds I9 D)
include K
theorem AeJ(d:List Nat)(hd:Limbs d)(m:Nat)(hm:m<4294967296)(o n:Nat)(hn:d.length<n):∀(k i:Nat) (U:List Nat) (c w:Nat),d.length-i=k->i<=d.length->Limbs U->o+n<=U.length->U.length<=2000000000->c<4294967296->w<=1->
  ∃ U':List Nat,U'=U.take (o+i)++Du m c w (U.drop (o+i)) (d.drop i)++U.drop (o+d.length) ∧
   D.ask (.lp 240 0) [.sl 0 o n 1,eN d,.v (.int .u64 (m:Int)),.v (.int .u64 (c:Int)),.v (.int .u64 (w:Int)),eN d,iv (d.length:Int),iv (i:Int)] [δ (Ag eL U) Δ Δ]
    = Θ (.tup [iv 0,.sl 0 o n 1,eN d,.v (.int .u64 (DN m c (d.drop i):Int)),.v (.int .u64 (C3 m c w (U.drop (o+i)) (d.drop i):Int))],[.set (δ (Ag eL U') Δ Δ)]):=by
 intro k
 induction k with
 |zero=>
  intro i U c w hi hle hU hoU hUl hc hw;obtain rfl:i=d.length:=by omega
  refine⟨U,?_,?_⟩
  .rw[At3,Du,AsX,AsU]
  .rw[At3,DN,C3]
   refine Ax K Ls (RJ ..) ?_;exact Ek (by omega)
 |succ k ih=>
  intro i U c w hi hle hU hoU hUl hc hw;have hlt:i<d.length:=by omega
  have hou:o+i<U.length:=by omega
  have hx:=hd.get hlt;have hy:=hU.get hou;have hp:=JA hm hx;have hmd:=AsJ (m*d[i]+c) (show 0<4294967296 by omega);have hhd:(U.drop (o+i)).headD 0=U[o+i]:=by rw[ο hou];rfl
  have htl:(U.drop (o+i)).tail=U.drop (o+i+1):=by rw[AtQ]
  rw[show d.drop i=d[i]::d.drop (i+1) from ο hlt,Du,DN,C3,hhd,htl]
  by_cases hb:U[o+i]<(m*d[i]+c) % 4294967296+w
  .rw[if_pos hb,if_pos hb]
   obtain⟨U',hU',g⟩:=ih (i+1) (U.set (o+i) (U[o+i]+4294967296-((m*d[i]+c) % 4294967296+w))) ((m*d[i]+c) / 4294967296) 1 (by omega) (by omega) (IM hU (by omega)) (by rw[Asd];exact hoU) (by rw[Asd];exact hUl) (by omega) (κ _);rw[show o+(i+1)=o+i+1 by omega,Po hou,As4 (by omega),As4 (by omega)]at hU';rw[show o+(i+1)=o+i+1 by omega,As4 (show o+i<o+i+1 by omega)]at g;refine⟨U',by rw[hU'];simp only[Ar4,AtK,AsK,Asg],?_⟩;refine Ax K Ls (RJ ..) ?_;refine Ap ?_;rw[Au,AB (φ hlt)];simp only[eL,FX,ND,DK,Aa];refine Ak ?_ (by decide);rw[Au,show AsL i n=Δ from BE (by omega),show o+i*1=0+(o+i)*1 by omega];refine Ac ?_;refine(Ii U _ hou _).trans ?_;simp only[FX,ND,DK,Aa];rw[Bg (show U[o+i]<_ by omega),Bg (show d[i]<_ by omega),KE (by omega),BZ (show m*d[i]+c<_ by omega),X9 (by omega),BZ (by omega),EW];refine Ap ?_;rw[Au,show AsL i n=Δ from BE (by omega)];refine Ac ?_;rw[show o+i*1=0+(o+i)*1 by omega,show ArY (0+(o+i)*1+1) (Ag eL U).length=Δ by rw[AR AA];simp;omega];refine Ac ?_;rw[show Ae.add .u64 (U[o+i]:Int) 4294967296=((U[o+i]+4294967296:Nat):Int) from BZ (y:=4294967296) (by omega),D4 (by omega) (by omega),Bq (by omega),CY _ _ _ hou,BV (by omega)];refine Ab g ?_;rfl
  .rw[if_neg hb,if_neg hb]
   obtain⟨U',hU',g⟩:=ih (i+1) (U.set (o+i) (U[o+i]-((m*d[i]+c) % 4294967296+w))) ((m*d[i]+c) / 4294967296) 0 (by omega) (by omega) (IM hU (by omega)) (by rw[Asd];exact hoU) (by rw[Asd];exact hUl) (by omega) (AsB _);rw[show o+(i+1)=o+i+1 by omega,Po hou,As4 (by omega),As4 (by omega)]at hU';rw[show o+(i+1)=o+i+1 by omega,As4 (show o+i<o+i+1 by omega)]at g;refine⟨U',by rw[hU'];simp only[Ar4,AtK,AsK,Asg],?_⟩;refine Ax K Ls (RJ ..) ?_;refine Ap ?_;rw[Au,AB (φ hlt)];simp only[eL,FX,ND,DK,Aa];refine Ak ?_ (by decide);rw[Au,show AsL i n=Δ from BE (by omega),show o+i*1=0+(o+i)*1 by omega];refine Ac ?_;refine(Ii U _ hou _).trans ?_;simp only[FX,ND,DK,Aa];rw[Bg (show U[o+i]<_ by omega),Bg (show d[i]<_ by omega),KE (by omega),BZ (show m*d[i]+c<_ by omega),X9 (by omega),BZ (by omega),EW];refine Ak ?_;rw[Au,show AsL i n=Δ from BE (by omega)];refine Ac ?_;rw[show o+i*1=0+(o+i)*1 by omega,show ArY (0+(o+i)*1+1) (Ag eL U).length=Δ by rw[AR AA];simp;omega];refine Ac ?_;rw[D4 (by omega) (by omega),Bq (by omega),CY _ _ _ hou,BV (by omega)];refine Ab g ?_;rfl
theorem U0{d:List Nat}(hd:Limbs d){m:Nat}(hm:m<4294967296){o:Nat}{U:List Nat}(hU:Limbs U)(hl:o+d.length<U.length)(hUl:U.length<=1000000000) :
  D.ask (.fn 240) [.sl 0 o (d.length+1) 1,eN d,.v (.int .u64 (m:Int))] [δ (Ag eL U) Δ Δ]
   = Θ (bv (decide (U[o+d.length]<DN m 0 d+C3 m 0 0 (U.drop o) d)),[.set (δ (Ag eL (U.take o++(Du m 0 0 (U.drop o) d++[(U[o+d.length]+4294967296-(DN m 0 d+C3 m 0 0 (U.drop o) d)) % 4294967296])++U.drop (o+(d.length+1)))) Δ Δ)]):=by
 obtain⟨U',hU',g⟩:=AeJ K d hd m hm o (d.length+1) (Auw _) d.length 0 U 0 0 (by omega) (by omega) hU (by omega) (by omega) (by omega) (by omega);simp only[AsI,ArT]at hU' g;have hc:=NH m 0 d hm hd (by omega);have hw:=NJ m 0 0 (U.drop o) d (AsB _);have hul:=hU.get hl;have hlen:U'.length=U.length:=by
  rw[hU'];simp only[η,Asb,Ats,Ga];omega
 have hjl:o+d.length<U'.length:=by omega
 have hpre:(U.take o++Du m 0 0 (U.drop o) d).length=o+d.length:=by
  rw[η,Asb,Ga];omega
 have hget:U'[o+d.length]=U[o+d.length]:=by
  have:U'[o+d.length]? = U[o+d.length]?:=by
   rw[hU',Ase (by omega),hpre,Auf,AsT,AsI]
  rw[φ hjl,φ hl]at this;injection this
 have hset:∀ v,U'.set (o+d.length) v=U.take o++(Du m 0 0 (U.drop o) d++[v])++U.drop (o+(d.length+1)):=λv=>by
  rw[hU',Ava _ _ (by omega),hpre,Auf,ο hl,Atq];simp only[Ar4,AtK,AsK,Asg];rw[Asy]
 refine AC K Ls (Am4 ..) ?_;rw[Ao];refine Ab g ?_;simp only[eN,FX,U6,Ao,ND,DK,Aa];rw[show AsL d.length (d.length+1)=Δ from BE (Auw _),show o+d.length*1=0+(o+d.length)*1 by omega];refine Ac ?_;refine(Ii U' _ hjl _).trans ?_;refine(cuN _ _).trans ?_;refine Ac ?_;rw[show ArY (0+(o+d.length)*1+1) (Ag eL U').length=Δ by rw[AR AA];simp;omega];refine Ac ?_;rw[hget,Bg (by omega),BZ (by omega),AlS (by omega) hul,CY _ _ _ hjl,hset]
 by_cases hb:U[o+d.length]<DN m 0 d+C3 m 0 0 (U.drop o) d
 .rw[decide_eq_true hb]
  exact Vs (by omega)
 .rw[decide_eq_false hb]
  exact Ek (by omega)
theorem AeL(d:List Nat)(hd:Limbs d)(o n:Nat)(hn:d.length<n):∀(k i:Nat) (U:List Nat) (c:Nat),d.length-i=k->i<=d.length->Limbs U->o+n<=U.length->U.length<=2000000000->c<=1->
  ∃ U':List Nat,U'=U.take (o+i)++C4 c (U.drop (o+i)) (d.drop i)++U.drop (o+d.length) ∧
   D.ask (.lp 241 0) [.sl 0 o n 1,eN d,.v (.int .u64 (c:Int)),eN d,iv (d.length:Int),iv (i:Int)] [δ (Ag eL U) Δ Δ]
    = Θ (.tup [iv 0,.sl 0 o n 1,eN d,.v (.int .u64 (CK c (U.drop (o+i)) (d.drop i):Int))],[.set (δ (Ag eL U') Δ Δ)]):=by
 intro k
 induction k with
 |zero=>
  intro i U c hi hle hU hoU hUl hc;obtain rfl:i=d.length:=by omega
  refine⟨U,?_,?_⟩
  .rw[At3,C4,AsX,AsU]
  .rw[At3,CK]
   refine Ax K Ox (Xl ..) ?_;exact Ek (by omega)
 |succ k ih=>
  intro i U c hi hle hU hoU hUl hc;have hlt:i<d.length:=by omega
  have hou:o+i<U.length:=by omega
  have hx:=hd.get hlt;have hy:=hU.get hou;have hhd:(U.drop (o+i)).headD 0=U[o+i]:=by rw[ο hou];rfl
  have htl:(U.drop (o+i)).tail=U.drop (o+i+1):=by rw[AtQ]
  have hmd:=AsJ (U[o+i]+d[i]+c) (show 0<4294967296 by omega);rw[show d.drop i=d[i]::d.drop (i+1) from ο hlt,C4,CK,hhd,htl];obtain⟨U',hU',g⟩:=ih (i+1) (U.set (o+i) ((U[o+i]+d[i]+c) % 4294967296)) ((U[o+i]+d[i]+c) / 4294967296) (by omega) (by omega) (IM hU hmd) (by rw[Asd];exact hoU) (by rw[Asd];exact hUl) (by omega);rw[show o+(i+1)=o+i+1 by omega,Po hou,As4 (by omega),As4 (by omega)]at hU';rw[show o+(i+1)=o+i+1 by omega,As4 (show o+i<o+i+1 by omega)]at g;refine⟨U',by rw[hU'];simp only[Ar4,AtK,AsK,Asg],?_⟩;refine Ax K Ox (Xl ..) ?_;refine Ap ?_;rw[Au,AB (φ hlt)];simp only[eL,FX,ND,DK,Aa];rw[Au,show AsL i n=Δ from BE (by omega),show o+i*1=0+(o+i)*1 by omega];refine Ac ?_;refine(Ii U _ hou _).trans ?_;simp only[FX,ND,DK,Aa];rw[Au,show AsL i n=Δ from BE (by omega)];refine Ac ?_;rw[show o+i*1=0+(o+i)*1 by omega,show ArY (0+(o+i)*1+1) (Ag eL U).length=Δ by rw[AR AA];simp;omega];refine Ac ?_;refine Ak ?_ (by decide);rw[Bg (show U[o+i]<_ by omega),Bg (show d[i]<_ by omega),BZ (by omega),BZ (by omega),EW,CS,CY _ _ _ hou,BV (by omega)];refine Ab g ?_;rfl
theorem Wy{d:List Nat}(hd:Limbs d){o:Nat}{U:List Nat}(hU:Limbs U)(hl:o+d.length<U.length)(hUl:U.length<=1000000000) :
  D.ask (.fn 241) [.sl 0 o (d.length+1) 1,eN d] [δ (Ag eL U) Δ Δ]
   = Θ (.tup [],[.set (δ (Ag eL (U.take o++(C4 0 (U.drop o) d++[(U[o+d.length]+CK 0 (U.drop o) d) % 4294967296])++U.drop (o+(d.length+1)))) Δ Δ)]):=by
 obtain⟨U',hU',g⟩:=AeL K d hd o (d.length+1) (Auw _) d.length 0 U 0 (by omega) (by omega) hU (by omega) (by omega) (by omega);simp only[AsI,ArT]at hU' g;have hc:=NL 0 (U.drop o) d (hU.drop o) hd (by omega);have hul:=hU.get hl;have hlen:U'.length=U.length:=by
  rw[hU'];simp only[η,Asb,Ats,Ej];omega
 have hjl:o+d.length<U'.length:=by omega
 have hpre:(U.take o++C4 0 (U.drop o) d).length=o+d.length:=by
  rw[η,Asb,Ej];omega
 have hget:U'[o+d.length]=U[o+d.length]:=by
  have:U'[o+d.length]? = U[o+d.length]?:=by
   rw[hU',Ase (by omega),hpre,Auf,AsT,AsI]
  rw[φ hjl,φ hl]at this;injection this
 have hset:∀ v,U'.set (o+d.length) v=U.take o++(C4 0 (U.drop o) d++[v])++U.drop (o+(d.length+1)):=λv=>by
  rw[hU',Ava _ _ (by omega),hpre,Auf,ο hl,Atq];simp only[Ar4,AtK,AsK,Asg];rw[Asy]
 refine AC K Ox (Am5 ..) ?_;rw[Ao];refine Ab g ?_;simp only[eN,FX,U6,Ao,ND,DK,Aa];rw[show AsL d.length (d.length+1)=Δ from BE (Auw _),show o+d.length*1=0+(o+d.length)*1 by omega];refine Ac ?_;refine(Ii U' _ hjl _).trans ?_;refine(cuN _ _).trans ?_;refine Ac ?_;rw[show ArY (0+(o+d.length)*1+1) (Ag eL U').length=Δ by rw[AR AA];simp;omega];refine Ac ?_;rw[hget,Bq (by omega),Ahy,CY _ _ _ hjl,hset]
end
def HK(f v ul:Nat):Nat->Nat->Nat->Nat
 |0,g,_=>g
 |k+1,g,r=>if 4294967296<=g\/r*4294967296+ul<g*v then(if 4294967296<=r+f then g-1 else HK f v ul k (g-1) (r+f)) else g
structure Gs (W Dv g:Nat):Prop where
 lt:g<4294967296
 hi:g*Dv<W+Dv
 lo:W<(g+1)*Dv
theorem V6{P f v vl ul wl T W Dv:Nat}(hv:v<4294967296)(hvl:vl<P)(hwl:wl<P)(hf:2147483648<=f)(hDv:Dv=(f*4294967296+v)*P+vl)(hW:W=(T*4294967296+ul)*P+wl)(hWD:W<Dv*4294967296):∀(k g r:Nat),g*f+r=T->W<(g+1)*Dv->r<4294967296->4294967296<=r+k*f->Gs W Dv (HK f v ul k g r):=by
 have hTV:T<=f*4294967296+v:=by
  by_cases h:T<=f*4294967296+v
  .exact h
  .exfalso
   have h1:(f*4294967296+v+1)*4294967296*P<=(T*4294967296+ul)*P:=Asa _ (by omega);have h2:Dv*4294967296<=(f*4294967296+v+1)*4294967296*P:=by
    rw[hDv,Asp _ 4294967296 P,AsF 4294967296 P,←Asp];exact Asa _ (by rw[Asz _ 1 P,Ata];omega)
   omega
 have good:∀ g r,g*f+r=T->g<4294967296->g*v<=r*4294967296+ul->W<(g+1)*Dv->Gs W Dv g:=λg r h1 h2 h3 h4=>by
  refine⟨h2,?_,h4⟩;have h5:g*(f*4294967296+v)<=T*4294967296+ul:=by
   rw[←h1,AsS,Asz,Asp];omega
  have:=AbX (ul:=wl) hvl (show 4294967296<=f*4294967296+v by omega) (Nat.le_of_lt h2) h5;rw[hDv,hW];exact this
 intro k
 induction k with
 |zero=>intro g r _ _ h1 h2;omega
 |succ k ih=>
  intro g r h1 h2 h3 h4;rw[HK]
  by_cases hc:4294967296<=g\/r*4294967296+ul<g*v
  .rw[if_pos hc]
   have hg:1<=g:=by
    rcases hc with h|h
    .omega
    .rcases As9 g with e|e
     .rw[e]at h;omega
     .exact e
   obtain⟨g',rfl⟩:∃ g',g=g'+1:=⟨g-1,by omega⟩;rw[As2];have hlo:W<(g'+1)*Dv:=by
    rcases hc with h|h
    .have:4294967296*Dv<=(g'+1)*Dv:=Asa _ h
     rw[AsF]at this;omega
    .have h5:T*4294967296+ul<(g'+1)*(f*4294967296+v):=by
      rw[←h1,AsS,Asz,Asp];omega
     have:=AbY (vl:=vl) hwl h5;rw[hDv,hW];exact this
   have hr:g'*f+(r+f)=T:=by
    rw[Asz,Ata]at h1;omega
   by_cases hb:4294967296<=r+f
   .rw[if_pos hb]
    have hgB:g'<4294967296:=by
     by_cases h:g'<4294967296
     .exact h
     .have:4294967296*f<=g'*f:=Asa _ (by omega)
      rw[AsF]at this;omega
    refine good g' (r+f) hr hgB ?_ hlo;have h6:g'*v<=4294967296*4294967296:=Nat.mul_le_mul (by omega) (by omega);have h7:4294967296*4294967296<=(r+f)*4294967296:=Asa _ hb;omega
   .rw[if_neg hb]
    exact ih g' (r+f) hr hlo (by omega) (by rw[Asz,Ata]at h4;omega)
  .rw[if_neg hc]
   have hc1:¬ 4294967296<=g:=λh=>hc (.inl h)
   have hc2:¬ r*4294967296+ul<g*v:=λh=>hc (.inr h)
   exact good g r h1 (by omega) (by omega) h2
theorem AbW{f v T:Nat}(hv:v<4294967296)(hf:2147483648<=f)(h:T<=f*4294967296+v):T / f<=4294967297:=by
 have h1:T<4294967298*f:=by
  rw[show 4294967298*f=f*4294967296+2*f by rw[AsF f];omega];omega
 have:=(Aue (show 0<f by omega)).2 h1;omega
theorem AdU{win d win':List Nat}{ul ul' W Dv g:Nat}(hn:win.length=d.length)(hn':win'.length=d.length)(hd:Limbs d)(hW:Ad (win++[ul])=W)(hDv:Ad d=Dv)(hG:Gs W Dv g){t:Nat}(hlw:Limbs (win'++[ul']))
  (hA:Ad (win'++[ul'])+g*Dv=W+(if ul<t then 4294967296 ^ (d.length+1) else 0)) :
  (¬ ul<t->Ad (win'++[ul'])+g*Dv=W/\Ad (win'++[ul'])<Dv) ∧
  (ul<t->1<=g/\(Ad (win'++[ul'])+Dv) % 4294967296 ^ (d.length+1)+(g-1)*Dv=W/\(Ad (win'++[ul'])+Dv) % 4294967296 ^ (d.length+1)<Dv):=by
 have hlt:=BK hlw;have hdl:=BK hd;rw[hDv]at hdl;have hpw:4294967296 ^ (d.length+1)=4294967296 ^ d.length*4294967296:=As7 ..;rw[η,Asi,hn']at hlt;have hlo:=hG.lo;have hhi:=hG.hi;rw[Asz,Ata]at hlo;refine⟨λh=>?_,λh=>?_⟩
 .rw[if_neg h]at hA
  omega
 .rw[if_pos h]at hA
  have hg:1<=g:=by
   rcases As9 g with e|e
   .rw[e,Atu]at hA
    omega
   .exact e
  obtain⟨g',rfl⟩:∃ g',g=g'+1:=⟨g-1,by omega⟩;rw[Asz,Ata]at hA hhi;rw[As2];have e:(Ad (win'++[ul'])+Dv) % 4294967296 ^ (d.length+1)=Ad (win'++[ul'])+Dv-4294967296 ^ (d.length+1):=by
   rw[Nat.mod_eq_sub_mod (by omega)];refine As5 ?_;omega
  rw[e];omega
