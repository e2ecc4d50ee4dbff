/- slices.Clone over this s -/
import Derived.Maps.AppendAt
import Derived.Test.YtlmhajfbpplpoaaGreatOAX
import Derived.Test.YtlmhajfbpplpoaaGreatOAB
import Derived.Test.YtlmhajfbpplpoaaGreatOBA
import Derived.Lib.AppendZeros
import Derived.Test.YtlmhajfbpplpoaaGreatOAU
set_option linter.all false
open Bool renaming and_eq_true->ε
open List renaming drop->Apx,drop_eq_getElem_cons->χ,drop_eq_nil_of_le->Apz,drop_zero->π,eq_nil_of_length_eq_zero->ApY,findIdx?_cons->Ass,flatten_cons->AqJ,getElem?_eq_getElem->Φ,nil_append->ApU,take->ο
open Nat renaming eq_zero_or_pos->Asu,le_refl->ω,ne_of_gt->Arb,zero_add->ApN,zero_le->Aqk,zero_mul->AqV
open Option renaming map_some->ApI
namespace Go.Proofs.YtlmhajfbpplpoaaGreat
noncomputable section
open ABlk renaming mk->Δ
open AV renaming agg->Ξ,fn->ApE,ls->V,ptr->η,sl->ζ,tup->ψ,v->ApB
open BO renaming set->γ
open IntKind renaming i64->U,u32->θ,u64->Ψ,u8->Arl
open Key renaming fn->Ω,lp->ι
open Lib renaming hid->δ,run_eql_slice_nil->Asf
open Option.some renaming injEq->Θ
open Tryz renaming prog->φ
open Go.RowKit
theorem Pa(a:Addr)(j:Nat):(a.add j).block=a.block:=by unfold Addr.add;split<;>rfl
set_option maxRecDepth 100000 in
set_option maxHeartbeats 4000000 in
theorem Uk(w:World)(A:Option Addr)(n c:Nat)(us:List Value)(hn:us.length=n*3)(hc:n<=c)(hA:n≠0->∃ g o,A=some ⟨g,o,none⟩/\∀ j u,us[j]? = some u->w.cell? ⟨g,o+j,none⟩=some u)
  (h1:∀ u∈us,u.oneCell'=true) (hby:n*40<=140737488355328) :
  Calls φ 151 #[.slice A n c] w λe w'=>∃ v',e=.returned v'/\w'.ownsRow w.heap.size 154 3 v' n us/\Below w.heap.size w w':=by
 obtain⟨i0,hi0,hz0,hz1,hz2⟩:=info_parts (show (Tryz.prog.info? 154).map (λi=>(i.zero,i.size,i.bytes))=some (some (.agg #[.int .i64 0,.bool false,.slice none 0 0]),3,40) by kernel_rfl);have HU:=δ hn;have HA:=δ hA;have H1:=δ h1;clear hn hA h1;have hq:∀(w:World) (a:Option Addr) (n c:Nat),(binOp .eql 50 (.slice a n c) (.slice none 0 0)).run φ w=.ok (.bool a.isNone) w:=λw a n c=>Asf w _ _ a n c 0 0 Tryz.underlying50
 go_enter Tryz.func151,Tryz.ntmps151
 cases A with
 |none=>
  have h0:n=0:=by
   rcases Asu n with h|h
   .exact h
   .exfalso
    obtain⟨g,o,h2,_⟩:=HA.out (Arb h)
    cases h2
  subst h0
  go_wp2
  go_ret
  have hu:us=[]:=ApY (by rw[HU.out,AqV]);rw[hu];exact⟨_,rfl,World.ownsRow_nil _ _ _ _,Below.refl _ _⟩
 |some ad=>
  obtain⟨ag,ao,asp⟩:=ad;have hcells:∀ j u,us[j]? = some u->ag<w.heap.size/\w.cell? ((⟨ag,ao,asp⟩:Addr).add j)=some u:=λj u hj=>by
   have hn0:n≠0:=by
    rintro rfl;have hu:us=[]:=ApY (by rw[HU.out,AqV]);rw[hu]at hj
    cases hj
   obtain⟨g,o,h2,h3⟩:=HA.out hn0
   cases h2
   have h5:=h3 j u hj;exact⟨Dl h5,by rw[EO];exact h5⟩
  have HC:=δ hcells;clear hcells
  go_wp2_with (at_builtin;refine wpList_append_own_at _ rfl _ _ 50 rfl w.heap.size 154 i0 (.agg #[.int .i64 0,.bool false,.slice none 0 0]) 3 40 Tryz.underlying50 hi0 hz0 hz1 hz2 rfl (by decide) _ 0 [] rfl ?c0 ⟨ag,ao,asp⟩ n c us rfl HU.out ?c1 H1.out ?c3 ?c4 ?c5 ?_)
  case c0=>exact⟨by simp,.inr ⟨w.heap.size,0,#[],rfl,ω _,heap_alloc_new _ _,ω _,Aqk _,by simp,by simp⟩⟩
  case c1=>
   intro j u hj;have:=HC.out j u hj;exact((Bi w (.cells #[] 154)).cell (p:=(⟨ag,ao,asp⟩:Addr).add j) (by rw[Pa];exact this.1)).trans this.2
  case c3=>unfold maxLen;omega
  case c4=>omega
  case c5=>exact(Bi w _).size
  intro v' w3 hown hgrow _ _
  try simp only[ApN,ApU]at hown
  have HO:=δ hown;have HB:=δ ((Bi w (.cells #[] 154)).grown hgrow (Bi w _).size (λk hk=>by have hk:some w.heap.size=some k:=hk;cases hk;exact ω _));clear hown hgrow
  go_wp2_with fail
  go_ret
  exact⟨_,rfl,HO.out,HB.out⟩
set_option maxRecDepth 100000 in
set_option maxHeartbeats 4000000 in
theorem Ui(w:World)(A:Option Addr)(n c:Nat)(us:List Value)(hn:us.length=n*1)(hc:n<=c)(hA:n≠0->∃ g o,A=some ⟨g,o,none⟩/\∀ j u,us[j]? = some u->w.cell? ⟨g,o+j,none⟩=some u)
  (h1:∀ u∈us,u.oneCell'=true) (hby:n*4<=140737488355328) :
  Calls φ 240 #[.slice A n c] w λe w'=>∃ v',e=.returned v'/\w'.ownsRow w.heap.size 230 1 v' n us/\Below w.heap.size w w':=by
 obtain⟨i0,hi0,hz0,hz1,hz2⟩:=info_parts (show (Tryz.prog.info? 230).map (λi=>(i.zero,i.size,i.bytes))=some (some (.int .u32 0),1,4) by kernel_rfl);have HU:=δ hn;have HA:=δ hA;have H1:=δ h1;clear hn hA h1;have hq:∀(w:World) (a:Option Addr) (n c:Nat),(binOp .eql 52 (.slice a n c) (.slice none 0 0)).run φ w=.ok (.bool a.isNone) w:=λw a n c=>Asf w _ _ a n c 0 0 Tryz.underlying52
 go_enter Tryz.func240,Tryz.ntmps240
 cases A with
 |none=>
  have h0:n=0:=by
   rcases Asu n with h|h
   .exact h
   .exfalso
    obtain⟨g,o,h2,_⟩:=HA.out (Arb h)
    cases h2
  subst h0
  go_wp2
  go_ret
  have hu:us=[]:=ApY (by rw[HU.out,AqV]);rw[hu];exact⟨_,rfl,World.ownsRow_nil _ _ _ _,Below.refl _ _⟩
 |some ad=>
  obtain⟨ag,ao,asp⟩:=ad;have hcells:∀ j u,us[j]? = some u->ag<w.heap.size/\w.cell? ((⟨ag,ao,asp⟩:Addr).add j)=some u:=λj u hj=>by
   have hn0:n≠0:=by
    rintro rfl;have hu:us=[]:=ApY (by rw[HU.out,AqV]);rw[hu]at hj
    cases hj
   obtain⟨g,o,h2,h3⟩:=HA.out hn0
   cases h2
   have h5:=h3 j u hj;exact⟨Dl h5,by rw[EO];exact h5⟩
  have HC:=δ hcells;clear hcells
  go_wp2_with (at_builtin;refine wpList_append_own_at _ rfl _ _ 52 rfl w.heap.size 230 i0 (.int .u32 0) 1 4 Tryz.underlying52 hi0 hz0 hz1 hz2 rfl (by decide) _ 0 [] rfl ?c0 ⟨ag,ao,asp⟩ n c us rfl HU.out ?c1 H1.out ?c3 ?c4 ?c5 ?_)
  case c0=>exact⟨by simp,.inr ⟨w.heap.size,0,#[],rfl,ω _,heap_alloc_new _ _,ω _,Aqk _,by simp,by simp⟩⟩
  case c1=>
   intro j u hj;have:=HC.out j u hj;exact((Bi w (.cells #[] 230)).cell (p:=(⟨ag,ao,asp⟩:Addr).add j) (by rw[Pa];exact this.1)).trans this.2
  case c3=>unfold maxLen;omega
  case c4=>omega
  case c5=>exact(Bi w _).size
  intro v' w3 hown hgrow _ _
  try simp only[ApN,ApU]at hown
  have HO:=δ hown;have HB:=δ ((Bi w (.cells #[] 230)).grown hgrow (Bi w _).size (λk hk=>by have hk:some w.heap.size=some k:=hk;cases hk;exact ω _));clear hown hgrow
  go_wp2_with fail
  go_ret
  exact⟨_,rfl,HO.out,HB.out⟩
section
variable {μ:Mu} {F:AG} {w:World} {g:Nat}
theorem VJ:∀(xs:List AV) (o:Nat),RepAt μ F w g xs o->∃ us,RepList μ F w xs us/\∀ j u,us[j]? = some u->w.cell? ⟨g,o+j,none⟩=some u
 |[],o,_=>⟨[],rfl,λj u h=>by simp at h⟩
 |x::r,o,h=>by
  simp only[RepAt]at h;obtain⟨⟨_,u,h2,h3⟩,h4⟩:=h;obtain⟨us,h5,h6⟩:=VJ r (o+1) h4;refine⟨u::us,⟨u,us,rfl,h3,h5⟩,λj v hj=>?_⟩
  cases j with
  |zero=>simp at hj;subst hj;exact h2
  |succ j=>
   have:=h6 j v (by simpa using hj)
   rwa [show o+1+j=o+(j+1) by omega]at this
theorem P4{e:Nat}:∀(xs:List (List AV)) (o:Nat),RepRows μ F w g e xs o->∃ us,RepList μ F w xs.flatten us/\∀ j u,us[j]? = some u->w.cell? ⟨g,o+j,none⟩=some u
 |[],o,_=>⟨[],rfl,λj u h=>by simp at h⟩
 |x::r,o,h=>by
  simp only[RepRows]at h;obtain⟨h1,h2,h3⟩:=h;obtain⟨us,a1,a2⟩:=VJ x o h2;obtain⟨vs,b1,b2⟩:=P4 r (o+e) h3;refine⟨us++vs,by rw[AqJ];exact RepList.append a1 b1,λj v hj=>?_⟩;have hl:us.length=e:=by rw[a1.length,h1]
  by_cases hj2:j<us.length
  .exact a2 j v (by rwa [List.getElem?_append_left hj2]at hj)
  .rw[List.getElem?_append_right (by omega),hl]at hj
   have:=b2 (j-e) v hj
   rwa [show o+e+(j-e)=o+j by omega]at this
end
def B8(e B:Nat):List AV->Option (Nat × List AV)
 |[.ls xs]=>if(Gp e xs&&J9 (IP xs)&&AW (IP xs)&&Nat.ble (AQ xs*B) 140737488355328)=true then some (AQ xs,IP xs) else none
 |_=>none
theorem Nl{P:Program}{f:Nat}{ety:TypeId}(e B:Nat) (h:∀(w:World) (A:Option Addr) (n c:Nat) (us:List Value),us.length=n*e->n<=c->(n≠0->∃ g o,A=some ⟨g,o,none⟩/\∀ j u,us[j]? = some u->w.cell? ⟨g,o+j,none⟩=some u)->
  (∀ u∈us,u.oneCell'=true)->n*B<=140737488355328->Calls P f #[.slice A n c] w λe' w'=>∃ v',e'=.returned v'/\w'.ownsRow w.heap.size ety e v' n us/\Below w.heap.size w w'):Bo (BH P f) (Fk e (B8 e B)):=by
 refine PD (CI P f) e _ λargs n cells hr=>?_
 unfold B8 at hr;split at hr
 .rename_i xs
  split at hr
  .rename_i hc
   simp only[ε,Nat.ble_eq]at hc;obtain⟨⟨⟨c1,c2⟩,c3⟩,c4⟩:=hc;rw[Il]at c1;rw[JQ]at c2 c3;rw[GI]at c4;simp only[Θ,Prod.mk.injEq]at hr;obtain⟨rfl,rfl⟩:=hr;rw[GI,JQ];have hlen:xs.flatten.length=xs.length*e:=by
    clear c2 c3 c4
    induction xs with
    |nil=>simp
    |cons x r ih=>
     rw[List.all_cons,ε]at c1;rw[AqJ,List.length_append,ih c1.2,List.length_cons,Nat.add_mul,Nat.one_mul];have:x.length=e:=by simpa using c1.1
     omega
   refine⟨c3,hlen,λμ F w us hF hus=>?_⟩;obtain⟨v,t,rfl,hv,ht⟩:=hus;have ht:t=[]:=ht;subst ht;unfold Rep at hv;obtain⟨_,A,c,rfl,h2,_,h4⟩:=hv;have key:∃ vs,RepList μ F w xs.flatten vs/\(xs.length≠0->∃ g o,A=some ⟨g,o,none⟩/\∀ j u,vs[j]? = some u->w.cell? ⟨g,o+j,none⟩=some u):=by
    by_cases hx:xs=[]
    .subst hx
     exact⟨[],rfl,λh=>absurd rfl h⟩
    .obtain⟨g,o,e',hA,hr⟩:=h4 hx
     obtain⟨vs,k1,k2⟩:=P4 xs o hr;exact⟨vs,k1,λ_=>⟨g,o,hA,k2⟩⟩
   obtain⟨vs,k1,k2⟩:=key;have hone:∀ u∈vs,u.oneCell'=true:=λu hu=>by
    obtain⟨j,hj,rfl⟩:=List.getElem_of_mem hu;have hj2:j<xs.flatten.length:=by rw[←k1.length];exact hj
    obtain⟨u,a1,a2⟩:=k1.get (Φ hj2);rw[Φ hj]at a1
    cases a1
    rw[IA]at c2;exact a2.one (List.all_eq_true.1 c2 _ (List.getElem_mem hj2))
   refine Calls.mono (h w A xs.length c vs (by rw[k1.length,hlen]) h2 k2 hone c4) ?_;rintro e' w' ⟨v',rfl,ho,hb⟩;exact⟨v',rfl,ety,vs,ho,hb,k1⟩
  .cases hr
 .cases hr
theorem Xs:Bo (BH φ 240) (Fk 1 (B8 1 4)):=Nl 1 4 λw A n c us h1 h2 h3 h4 h5=>Ui w A n c us h1 h2 h3 h4 h5
theorem Ul:Bo (BH φ 151) (Fk 3 (B8 3 40)):=Nl 3 40 λw A n c us h1 h2 h3 h4 h5=>Uk w A n c us h1 h2 h3 h4 h5
set_option maxRecDepth 100000 in
set_option maxHeartbeats 4000000 in
theorem XI(w:World)(n:Nat)(hby:n*40<=140737488355328) :
  Calls φ 263 #[.slice none 0 0,.int .i64 n] w λe w'=>∃ v',e=.returned v'/\w'.ownsRow w.heap.size 154 3 v' 0 []/\Below w.heap.size w w':=by
 have y0:¬ (n:Int)<0:=by omega
 go_enter Tryz.func263,Tryz.ntmps263
 by_cases h0:n=0
 .subst h0
  go_wp2
  go_ret
  exact⟨_,rfl,World.ownsRow_nil _ _ _ _,Below.refl _ _⟩
 .have y1:(0:Int)<(n:Int):=by omega
  obtain⟨i0,hi0,hz0,hz1,hz2⟩:=info_parts (show (Tryz.prog.info? 154).map (λi=>(i.zero,i.size,i.bytes))=some (some (.agg #[.int .i64 0,.bool false,.slice none 0 0]),3,40) by kernel_rfl);have hr:=λty=>Lib.run_append_nil_zeros (P:=φ) w 50 3 ty 154 i0 _ .i64 .i64 Tryz.underlying50 Tryz.underlying3 hi0 hz0 n (by omega) (by rw[hz1];decide) (by omega) (by rw[hz2];omega)
  have c1:=grownCap_ge w n 0 154;have c2:=grownCap_le_maxLen w n 0 154 (by unfold maxLen;omega);have HR:=δ hr;clear hr;generalize grownCap w n 0 154=cap at *
  go_wp2_with (at_builtin;refine Lib.wpList_append_run _ rfl _ _ _ _ rfl _ _ rfl rfl _ _ (HR.out _) ?_)
  go_wp2_with fail
  go_ret
  refine⟨_,rfl,⟨by simp,.inr ⟨w.heap.size,cap,_,rfl,ω _,heap_alloc_new _ _,Aqk _,c2,?_,by simp⟩⟩,?_⟩
  .rw[Array.size_append,size_zeroCells,size_zeroCells]
   show n*3+(cap-n)*3=cap*3
   omega
  .exact(Jf (Below.refl _ _)).alloc (ω _) _
def GP(B:Nat):List AV->Option (Nat × List AV)
 |[.v (.slice none 0 0),.v (.int .i64 (.ofNat n))]=>if Nat.ble (n*B) 140737488355328=true then some (0,[]) else none
 |_=>none
theorem XJ:Bo (BH φ 263) (Fk 3 (GP 40)):=by
 refine PD (CI _ _) 3 _ λargs n cells hr=>?_
 unfold GP at hr;split at hr
 .rename_i k
  split at hr
  .rename_i hk
   simp only[Θ,Prod.mk.injEq]at hr;obtain⟨rfl,rfl⟩:=hr;refine⟨rfl,rfl,λμ F w us hF hus=>?_⟩;obtain⟨u,t,rfl,hu,u2,t2,rfl,hu2,ht⟩:=hus;have ht:t2=[]:=ht;subst ht;unfold Rep at hu hu2;rw[hu.1,hu2.1];refine Calls.mono (XI w k (Nat.le_of_ble_eq_true hk)) ?_;rintro e' w' ⟨v',rfl,ho,hb⟩;exact⟨v',rfl,_,[],ho,hb,rfl⟩
  .cases hr
 .cases hr
def Ml:List (Nat × MFn):=[(121,V9)]
def OA:List (Nat × MFn):=[(88,AeB),(219,Al7)]
section
variable {D:Orc}
theorem XU(K:Knows Al OA D)(xs:List ByteArray)(hx:xs.length<4611686018427387904)(s:ByteArray):∀(k i:Nat),xs.length-i=k->D.ask (.lp 88 0) [.ls (xs.map eS),sv s,iv (xs.length:Int),iv (i:Int)] []=some (E3 i ((xs.drop i).findIdx? (s = ·)),[]):=by
 intro k
 induction k with
 |zero=>
  intro i hi;refine K.lp' AaW _ rfl (by kernel_rfl) ((Agh ..).trans ?_);have:xs.drop i=[]:=Apz (by omega);simp only[O5,this,G2];rw[if_neg (by simp;omega)];rfl
 |succ k ih=>
  intro i hi;have hlt:i<xs.length:=by omega
  refine K.lp' AaW _ rfl (by kernel_rfl) ((Agh ..).trans ?_);have e1:xs.drop i=xs[i]::xs.drop (i+1):=χ hlt;have ih':=ih (i+1) (by omega);have e2:Af.add .i64 (i:Int) 1=((i+1:Nat):Int):=A8 (by omega);simp only[O5,Aw,N6,Φ hlt,eS,ND,DK,Aa,Me,e2,G2];rw[if_pos (by simpa using hlt),e1,Ass]
  by_cases h:s=xs[i]
  .simp[←h,E3]
  .rw[if_neg (by simpa using h),if_neg (by simpa using h)]
   refine Ab ih' ?_
   cases (xs.drop (i+1)).findIdx? (s = ·) with
   |none=>rfl
   |some j=>
    simp only[E3,ApI,show i+(j+1)=i+1+j by omega];rfl
theorem F5(K:Knows Al OA D)(xs:List ByteArray)(hx:xs.length<4611686018427387904)(s:ByteArray):D.ask (.fn 88) [.ls (xs.map eS),sv s] []=some (iv (C1 (xs.findIdx? (s = ·))),[]):=by
 refine K.fn' AaW _ rfl ((e88 ..).trans ?_);rw[Ao];refine Ab (XU K xs hx s _ 0 rfl) ?_;rw[π]
 cases xs.findIdx? (s = ·) with
 |none=>rfl
 |some j=>simp only[E3,ND,DK,Aa,ApN];rfl
theorem Yk(K:Knows Al Ml D)(xs:List ByteArray)(hx:xs.length<4611686018427387904)(s:ByteArray):∀(k i:Nat),xs.length-i=k->D.ask (.lp 121 0) [.ls (xs.map eS),sv s,iv (i:Int)] []=some (E3 i ((xs.drop i).findIdx? (s = ·)),[]):=by
 intro k
 induction k with
 |zero=>
  intro i hi;refine K.lp' So _ rfl (by kernel_rfl) ((ZT ..).trans ?_);have:xs.drop i=[]:=Apz (by omega);simp only[O5,Ao,this,G2];rw[if_neg (by simp;omega)];rfl
 |succ k ih=>
  intro i hi;have hlt:i<xs.length:=by omega
  refine K.lp' So _ rfl (by kernel_rfl) ((ZT ..).trans ?_);have e1:xs.drop i=xs[i]::xs.drop (i+1):=χ hlt;have ih':=ih (i+1) (by omega);have e2:Af.add .i64 (i:Int) 1=((i+1:Nat):Int):=A8 (by omega);simp only[O5,Ao,Aw,N6,Φ hlt,eS,ND,DK,Aa,Me,e2,G2];rw[if_pos (by simpa using hlt),e1,Ass]
  by_cases h:s=xs[i]
  .simp[←h,E3]
  .rw[if_neg (by simpa using λe=>h e.symm),if_neg (by simpa using h)]
   refine Ab ih' ?_
   cases (xs.drop (i+1)).findIdx? (s = ·) with
   |none=>rfl
   |some j=>
    simp only[E3,ApI,show i+(j+1)=i+1+j by omega];rfl
theorem P1(K:Knows Al Ml D)(xs:List ByteArray)(hx:xs.length<4611686018427387904)(s:ByteArray):D.ask (.fn 121) [.ls (xs.map eS),sv s] []=some (iv (C1 (xs.findIdx? (s = ·))),[]):=by
 refine K.fn' So _ rfl ((Anb ..).trans ?_);refine Ab (Yk K xs hx s _ 0 rfl) ?_;rw[π]
 cases xs.findIdx? (s = ·) with
 |none=>rfl
 |some j=>simp only[E3,ND,DK,Aa,ApN];rfl
end
section
open Go.RowKit
def AlC:A3:=[⟨20,[false,false,false,true,false,false,false,true,true,true],[(3,1)],[],[(1,([false,false,false,true],([],[])))]⟩]
def Wo:MFn:=Bm AlC 232
def SB:Hnt:=⟨[],[(0,[(1,([.sl 1 1],[.del,.row true]))])],[(7,[.ls]),(11,[.str,.ls,.ls]),(12,[.str,.ls,.ls]),(15,[.str])]⟩
variable (A:Ar) (D:Orc)
theorem An4(x0_0 x0_1:Rw)(x0_2:Int)(x0_3:Rw)(x0_4:Bool)(x0_5:Rw)(x0_6:Bool)(x0_7 x0_8 x0_9:Rw):By A D Al SB .n 232 Wo [Ξ [V x0_0,V x0_1,iv x0_2,V x0_3,bv x0_4,V x0_5,bv x0_6,V x0_7,V x0_8,V x0_9]] [] =
 Ad D (ι 232 0) [ζ 0 0 0 1,V x0_8,iv ↑(AQ x0_8),iv 0] [Δ [] true true] [.t,.C,.x,.X,.Y] λc l o=>
 br (A9 1 c)
 (dk [.C,.q 1 1,.N,.D,.R,.X,.E] [.l l,.o o] λn cs1=>
 br ((0+n*1).ble cs1.length) (some ((V (Bp n 1 (ο (n*1) cs1)),[]))) none)
 (none):=by kernel_rfl
theorem Aac(n3:Nat)(c3:List AV)(t7:Rw)(t8 t9:Int):Di A D Al SB .n 232 0 (AL Wo 0).fst (AL Wo 0).snd [ζ 0 0 n3 1,V t7,iv t8,iv t9] [{ cells:=c3,st:=true,ex:=true }] =
 br (A.lt t9 t8)
 (unI t9 λi=>
 Bh t7 i λcs=>
 dk [.S,.L,.L,.N] [.l cs] λs xs xs1=>
 br (Bf (n3+1) 16) (br ((0+n3*1).ble c3.length) (AE D (ι 232 0) [ζ 0 0 (n3+1) 1,V t7,iv t8,iv (A.add U t9 1)] [Δ (Apx 0 (ο (0+n3*1) c3)++[sv s]) true true] λr o=>
 AD 1 [3] (AH.mk [(3,Δ (Apx 0 (ο (0+n3*1) c3)++[sv s]) true true),(2,Δ [sv s] true true),(1,bk [sv s,V xs,V xs1])] 4 none) [0] r o) none) none)
 (some ((ψ [iv 0,ζ 1 0 n3 1],[BO.del,γ (Δ c3 true true)]))):=by kernel_rfl
end
def TI:List (Nat × MFn):=[(232,Wo)]
section
open Go.RowKit
def AhG:MFn:=Bm [] 132
def AgC:Hnt:=⟨[],[],[]⟩
def Ah2:MFn:=Bm [] 194
def AgY:Hnt:=⟨[],[],[]⟩
def AhI:MFn:=Bm [] 134
def AgE:Hnt:=⟨[(132,(.int .i64,[])),(194,(.int .i64,[]))],[],[(13,[.int .i64])]⟩
def AhH:MFn:=Bm [] 133
def AgD:Hnt:=⟨[(45,(.bool,[])),(46,(.bool,[])),(109,(.bool,[]))],[],[(4,[.int .i64]),(7,[.int .i64,.ls,.ls,.int .i64,.str,.str,.ls]),(12,[.ls]),(17,[.ls]),(23,[.int .i64]),(28,[.str]),(33,[.str]),(36,[.int .i64,.ls,.ls,.int .i64,.str,.str,.ls])]⟩
def AoM:A3:=[⟨57,[false,true,true,false,false,false,false,false,false,false,false,false,false,false,false,false,false,false,false,false,false,false,false,false,false,false,false,false,false,false,false,false,false,true,true,true],[],[2],[(0,([false,false,false,false,true],([],[2]))),(1,([],([],[2])))]⟩]
def AeA:MFn:=Bm AoM 74
def AaV:Hnt:=⟨[(45,(.bool,[])),(74,(.bool,[])),(132,(.int .i64,[])),(133,(.bool,[])),(134,(.bool,[]))],[(0,[(0,([.bool],[.del])),(1,([],[.del]))])],[(10,[.int .i64]),(13,[.ls]),(19,[.int .i64,.ls,.ls,.int .i64,.str,.str,.ls]),(28,[.int .i64,.ls,.ls,.int .i64,.str,.str,.ls]),(33,[.ls]),(38,[.int .i64,.ls,.ls,.int .i64,.str,.str,.ls]),(39,[.int .i64,.ls,.ls,.int .i64,.str,.str,.ls]),(42,[.int .i64]),(44,[.int .i64,.ls,.ls,.int .i64,.str,.str,.ls]),(51,[.int .i64,.ls,.ls,.int .i64,.str,.str,.ls])]⟩
def Amd:MFn:=Bm [] 36
def Ak1:Hnt:=⟨[(74,(.bool,[]))],[],[(3,[.int .i64,.ls,.ls,.int .i64,.str,.str,.ls])]⟩
def WW:List (Nat × MFn):=[(132,AhG),(194,Ah2),(134,AhI),(133,AhH),(74,AeA),(36,Amd)]
variable (A:Ar) (D:Orc)
theorem Anf(x0:Int):By A D Al AgC .n 132 AhG [iv x0] [] =
 br (A.eq x0 0)
 (some ((iv 0,[])))
 (br (A.eq x0 1)
 (some ((iv 0,[])))
 (br (A.eq x0 2)
 (some ((iv 0,[])))
 (br (A.eq x0 6)
 (some ((iv 0,[])))
 (br (A.eq x0 3)
 (some ((iv 1,[])))
 (br (A.eq x0 8)
 (some ((iv 1,[])))
 (br (A.eq x0 9)
 (some ((iv 1,[])))
 (br (A.eq x0 10)
 (some ((iv 1,[])))
 (br (A.eq x0 4)
 (some ((iv 2,[])))
 (br (A.eq x0 5)
 (some ((iv 2,[])))
 (br (A.eq x0 7)
 (some ((iv 2,[])))
 (br (A.eq x0 11)
 (some ((iv 2,[])))
 (br (A.eq x0 12)
 (some ((iv 2,[])))
 (some ((iv (-1),[]))))))))))))))):=by kernel_rfl
theorem AnM(x0:Int):By A D Al AgY .n 194 Ah2 [iv x0] [] =
 br (A.eq x0 7)
 (some ((iv 1,[])))
 (br (A.eq x0 5)
 (some ((iv 2,[])))
 (br (A.eq x0 4)
 (some ((iv 3,[])))
 (br (A.eq x0 11)
 (some ((iv 4,[])))
 (br (A.eq x0 12)
 (some ((iv 4,[])))
 (some ((iv 5,[]))))))):=by kernel_rfl
theorem Anh(x0 x1 x2_0:Int)(x2_1 x2_2:Rw)(x2_3:Int)(x2_4 x2_5:ByteArray)(x2_6:Rw):By A D Al AgE .n 134 AhI [iv x0,iv x1,Ξ [iv x2_0,V x2_1,V x2_2,iv x2_3,sv x2_4,sv x2_5,V x2_6]] [] =
 Ad D (Ω 194) [iv x0] [] [.i,.E] λn=>
 Ad D (Ω 194) [iv x2_0] [] [.i,.E] λn1=>
 Ad D (Ω 132) [iv x0] [] [.i,.E] λn2=>
 br (A.eq n2 1)
 (br (A.lt n1 5)
 (some ((bv true,[])))
 (some ((bv false,[]))))
 (br (A.eq n n1)
 (br (A.eq n 1)
 (br (A.eq x1 0)
 (br (A.beq true true)
 (some ((bv true,[])))
 (some ((bv false,[]))))
 (br (A.beq true false)
 (some ((bv true,[])))
 (some ((bv false,[])))))
 (br (A.eq n 4)
 (br (A.eq x1 0)
 (br (A.beq true true)
 (some ((bv true,[])))
 (some ((bv false,[]))))
 (br (A.beq true false)
 (some ((bv true,[])))
 (some ((bv false,[])))))
 (br (A.eq x1 0)
 (br (A.beq false true)
 (some ((bv true,[])))
 (some ((bv false,[]))))
 (br (A.beq false false)
 (some ((bv true,[])))
 (some ((bv false,[])))))))
 (br (A.lt n1 n)
 (some ((bv true,[])))
 (some ((bv false,[]))))):=by kernel_rfl
theorem Ang(x0_0:Int)(x0_1 x0_2:Rw)(x0_3:Int)(x0_4 x0_5:ByteArray)(x0_6:Rw):By A D Al AgD .n 133 AhH [Ξ [iv x0_0,V x0_1,V x0_2,iv x0_3,sv x0_4,sv x0_5,V x0_6]] [] =
 br (A.eq x0_0 2)
 (Ad D (Ω 46) [Ξ [iv x0_0,V x0_1,V x0_2,iv x0_3,sv x0_4,sv x0_5,V x0_6]] [] [.b,.E] λb=>
 br b
 (some ((bv true,[])))
 (some ((bv false,[]))))
 (br (A.eq x0_0 6)
 (br (A.eq (↑(AQ x0_1)) 0)
 (br (A.eq (↑(AQ x0_2)) 0)
 (br (A.eq x0_3 0)
 (Ad D (Ω 109) [sv x0_4] [] [.b,.E] λb=>
 br b
 (Ad D (Ω 109) [sv x0_5] [] [.b,.E] λb1=>
 br b1
 (some ((bv true,[])))
 (some ((bv false,[]))))
 (some ((bv false,[]))))
 (some ((bv false,[]))))
 (some ((bv false,[]))))
 (some ((bv false,[]))))
 (Ad D (Ω 45) [Ξ [iv x0_0,V x0_1,V x0_2,iv x0_3,sv x0_4,sv x0_5,V x0_6]] [] [.b,.E] λb=>
 br b
 (some ((bv true,[])))
 (some ((bv false,[]))))):=by kernel_rfl
theorem e74(x0_0:Int)(x0_1 x0_2:Rw)(x0_3:Int)(x0_4 x0_5:ByteArray)(x0_6:Rw)(x1:Int):By A D Al AaV .n 74 AeA [Ξ [iv x0_0,V x0_1,V x0_2,iv x0_3,sv x0_4,sv x0_5,V x0_6],iv x1] [] =
 Ad D (Ω 132) [iv x0_0] [] [.i,.E] λn=>
 br (A.eq (↑(AQ x0_6)) n)
 (br (A.eq n 0)
 (Ad D (Ω 133) [Ξ [iv x0_0,V x0_1,V x0_2,iv x0_3,sv x0_4,sv x0_5,V x0_6]] [] [.b,.E] λb=>
 br b
 (some ((bv true,[])))
 (some ((bv false,[]))))
 (br (A.eq n 1)
 (br (A.lt 60 (A.add U x1 1))
 (some ((bv false,[])))
 (Ad D (Ω 45) [Ξ [iv x0_0,V x0_1,V x0_2,iv x0_3,sv x0_4,sv x0_5,V x0_6]] [] [.b,.E] λb=>
 br b
 (Ad D (ι 74 0) [iv (A.add U x1 1),η 0 0,V x0_6,iv ↑(AQ x0_6),iv 0] [bk [iv x0_0,V x0_1,V x0_2,iv x0_3,sv x0_4,sv x0_5,V x0_6]] [.t,.C,.x,.X,.Y] λc l o2=>
 br (A9 0 c)
 (dk [.B,.N,.D,.E] [.l l,.o o2] λb1=>
 some ((bv b1,[])))
 (br (A9 1 c)
 (dk [.N,.D,.E,.w] [.l l,.o o2] λ_=>
 some ((bv true,[])))
 (none)))
 (some ((bv false,[])))))
 (br (A.lt 60 x1)
 (some ((bv false,[])))
 (Ad D (Ω 45) [Ξ [iv x0_0,V x0_1,V x0_2,iv x0_3,sv x0_4,sv x0_5,V x0_6]] [] [.b,.E] λb=>
 br b
 (Ad D (ι 74 0) [iv x1,η 0 0,V x0_6,iv ↑(AQ x0_6),iv 0] [bk [iv x0_0,V x0_1,V x0_2,iv x0_3,sv x0_4,sv x0_5,V x0_6]] [.t,.C,.x,.X,.Y] λc l o2=>
 br (A9 0 c)
 (dk [.B,.N,.D,.E] [.l l,.o o2] λb1=>
 some ((bv b1,[])))
 (br (A9 1 c)
 (dk [.N,.D,.E,.w] [.l l,.o o2] λ_=>
 some ((bv true,[])))
 (none)))
 (some ((bv false,[])))))))
 (some ((bv false,[]))):=by kernel_rfl
theorem Agg(t1 b2_0:Int)(b2_1 b2_2:Rw)(b2_3:Int)(b2_4 b2_5:ByteArray)(b2_6 t33:Rw)(t34 t35:Int):Di A D Al AaV .n 74 0 (AL AeA 0).fst (AL AeA 0).snd [iv t1,η 0 0,V t33,iv t34,iv t35] [bk [iv b2_0,V b2_1,V b2_2,iv b2_3,sv b2_4,sv b2_5,V b2_6]] =
 br (A.lt t35 t34)
 (unI t35 λi=>
 Bh t33 i λcs=>
 dk [.I,.L,.L,.I,.S,.S,.L,.N] [.l cs] λn xs xs1 n1 s s1 xs2=>
 Ad D (Ω 134) [iv b2_0,iv t35,Ξ [iv n,V xs,V xs1,iv n1,sv s,sv s1,V xs2]] [] [.b,.E] λb=>
 br b
 (br (A.lt 60 (A.add U t1 1))
 (some ((ψ [bv true,bv false],[BO.del])))
 (Ad D (Ω 74) [Ξ [iv n,V xs,V xs1,iv n1,sv s,sv s1,V xs2],iv (A.add U t1 1)] [] [.b,.E] λb1=>
 br b1
 (AE D (ι 74 0) [iv t1,η 0 0,V t33,iv t34,iv (A.add U t35 1)] [bk [iv b2_0,V b2_1,V b2_2,iv b2_3,sv b2_4,sv b2_5,V b2_6]] λr2 o2=>
 AD 1 [0] (AH.mk [(0,bk [iv b2_0,V b2_1,V b2_2,iv b2_3,sv b2_4,sv b2_5,V b2_6]),(1,bk [iv n,V xs,V xs1,iv n1,sv s,sv s1,V xs2])] 2 none) [0] r2 o2)
 (some ((ψ [bv true,bv false],[BO.del])))))
 (br (A.lt 60 t1)
 (some ((ψ [bv true,bv false],[BO.del])))
 (Ad D (Ω 74) [Ξ [iv n,V xs,V xs1,iv n1,sv s,sv s1,V xs2],iv t1] [] [.b,.E] λb1=>
 br b1
 (AE D (ι 74 0) [iv t1,η 0 0,V t33,iv t34,iv (A.add U t35 1)] [bk [iv b2_0,V b2_1,V b2_2,iv b2_3,sv b2_4,sv b2_5,V b2_6]] λr2 o2=>
 AD 1 [0] (AH.mk [(0,bk [iv b2_0,V b2_1,V b2_2,iv b2_3,sv b2_4,sv b2_5,V b2_6]),(1,bk [iv n,V xs,V xs1,iv n1,sv s,sv s1,V xs2])] 2 none) [0] r2 o2)
 (some ((ψ [bv true,bv false],[BO.del]))))))
 (some ((ψ [iv 0],[BO.del]))):=by kernel_rfl
theorem e36(x0_0:Int)(x0_1 x0_2:Rw)(x0_3:Int)(x0_4 x0_5:ByteArray)(x0_6:Rw):By A D Al Ak1 .n 36 Amd [Ξ [iv x0_0,V x0_1,V x0_2,iv x0_3,sv x0_4,sv x0_5,V x0_6]] [] =
 Ad D (Ω 74) [Ξ [iv x0_0,V x0_1,V x0_2,iv x0_3,sv x0_4,sv x0_5,V x0_6],iv 0] [] [.b,.E] λb=>
 br b
 (some ((bv true,[])))
 (some ((bv false,[]))):=by kernel_rfl
end
section
open Go.RowKit
def Alw:A3:=[⟨21,[true,false,false,true],[],[],[(1,([true,false,false,true],([],[])))]⟩]
def Wj:MFn:=Bm Alw 204
def Sw:Hnt:=⟨[],[(0,[(1,([.ls,.int .i64],[]))])],[(12,[.int .u32]),(13,[.int .u32])]⟩
def Ah3:MFn:=Bm [] 200
def AgZ:Hnt:=⟨[(204,(.ls,[])),(240,(.sl 0 1,[.row true]))],[],[]⟩
def AhK:MFn:=Bm [] 146
def AgG:Hnt:=⟨[(200,(.ls,[]))],[],[]⟩
def Alx:A3:=[⟨49,[true,true,false,false,false,true],[],[],[(0,([false,false,false,false,true],([],[]))),(2,([],([],[])))]⟩]
def Wk:MFn:=Bm Alx 205
def Sx:Hnt:=⟨[(204,(.ls,[]))],[(0,[(0,([.int .i64],[])),(2,([],[]))])],[(32,[.int .u32]),(33,[.int .u32]),(36,[.int .u32]),(37,[.int .u32]),(42,[.int .u32]),(43,[.int .u32]),(46,[.int .u32]),(47,[.int .u32])]⟩
def Alk:A3:=[⟨61,[false,true,false,false,false,true,true,false,false,false,false,false,false,false,false,false,false,false,false,false,false,false,false,false,false,true,true,true],[(5,1)],[],[(1,([false,false,false,false,false,true,true],([],[])))]⟩]
def Wa:MFn:=Bm Alk 149
def Sp:Hnt:=⟨[(200,(.ls,[])),(204,(.ls,[]))],[(0,[(1,([.sl 1 1,.int .u64],[.del,.row true]))])],[(30,[.int .u32]),(31,[.int .u32]),(43,[.int .u32]),(44,[.int .u32])]⟩
def All:A3:=[⟨59,[false,true,false,false,false,false,true,true,false,false,false,false,false,false,false,false,false,false,false,false,false,false,false,true,true,true],[(6,1)],[],[(1,([false,false,false,false,false,false,true],([],[])))]⟩]
def Wb:MFn:=Bm All 150
def Sq:Hnt:=⟨[(200,(.ls,[])),(204,(.ls,[])),(205,(.int .i64,[]))],[(0,[(1,([.sl 1 1],[.del,.row true]))])],[(28,[.int .u32]),(29,[.int .u32]),(38,[.int .u32]),(39,[.int .u32])]⟩
def AlM:A3:=[⟨68,[false,true,false,false,false,true,false,false,false,false,false,false,false,false,false,false,false,false,true,true,true],[],[],[(1,([false,false,false,false,false,true],([],[])))]⟩,⟨68,[false,true,false,false,false,true,true,true,true,false,false,false,false,false,false,false,false,false,true,true,true,false,false,false,false,true,true,true],[],[],[(3,([false,true,false,false,false,true,true,false,true,false,false,false,false,false,false,false,false,false,true,true,true],([],[])))]⟩]
def PS:MFn:=Bm AlM 282
def LZ:Hnt:=⟨[(200,(.ls,[]))],[(0,[(1,([.sl 1 1],[.del,.row true]))]),(1,[(3,([.ls,.sl 1 1,.int .i64,.int .u64,.ls,.int .i64,.int .i64],[.del,.row true]))])],[(23,[.int .u32]),(24,[.int .u32]),(30,[.int .u32]),(31,[.int .u32]),(41,[.int .u32]),(42,[.int .u32]),(53,[.int .u32]),(64,[.int .u32])]⟩
def Aik:MFn:=Bm [] 275
def Ahf:Hnt:=⟨[(204,(.ls,[])),(282,(.ls,[])),(283,(.ls,[]))],[],[]⟩
def Ah5:MFn:=Bm [] 202
def AaR:Hnt:=⟨[],[],[]⟩
def Alv:A3:=[⟨47,[false,true,false,false,false,false,false,true,true,false,false,false,false,false,false,false,false,false,true,true,true],[(7,1)],[],[(1,([false,false,false,false,false,false,false,true,true],([],[])))]⟩]
def Wi:MFn:=Bm Alv 203
def PE:Hnt:=⟨[],[(0,[(1,([.sl 1 1,.int .u64],[.del,.row true]))])],[(22,[.int .u32]),(23,[.int .u32])]⟩
def Alj:A3:=[⟨49,[true,false,false,false,true,true,true,false,false,false,false,false,false,false,false,false,false,false,true,true],[],[],[(0,([false,false,true,true],([2],[]))),(2,([false,false,false,false,true,true,true],([4],[])))]⟩]
def PN:MFn:=Bm Alj 148
def Ew:Hnt:=⟨[(200,(.ls,[])),(202,(.tup [.int .u32,.bool],[])),(203,(.ls,[]))],[(0,[(0,([.ls,.int .i64],[])),(2,([.ls,.int .u32,.int .u32],[]))])],[]⟩
def KD:List (Nat × MFn):=[(204,Wj),(200,Ah3),(146,AhK),(205,Wk),(149,Wa),(150,Wb),(282,PS),(275,Aik),(202,Ah5),(203,Wi),(148,PN)]
variable (A:Ar) (D:Orc)
theorem AnP(x0:Rw):By A D Al Sw .n 204 Wj [V x0] [] =
 Ad D (ι 204 0) [V x0,iv ↑(AQ x0)] [] [.t,.C,.x,.X,.Y] λc l o=>
 br (A9 1 c)
 (dk [.L,.I,.N,.E] [.l l,.o o] λxs n=>
 unI n λi=>
 br (J1 0 i (AQ xs)) (br (Gp 1 xs) (some ((V (I0 (I9 xs i) 0),[]))) none) none)
 (none):=by kernel_rfl
theorem Z5(t0:Rw)(t3:Int):Di A D Al Sw .n 204 0 (AL Wj 0).fst (AL Wj 0).snd [V t0,iv t3] [] =
 br (A.lt 0 t3)
 (unI (A.sub U t3 1) λi=>
 Bh t0 i λcs=>
 dk [.J .u32,.N] [.l cs] λn=>
 br (A.eq n 0)
 (AE D (ι 204 0) [V t0,iv (A.sub U t3 1)] [] λr o=>
 AD 0 [] (AH.mk [] 0 none) [] r o)
 (some ((ψ [iv 0,V t0,iv t3],[]))))
 (some ((ψ [iv 0,V t0,iv t3],[]))):=by kernel_rfl
theorem AnN(x0:Rw):By A D Al AgZ .n 200 Ah3 [V x0] [] =
 Ad D (Ω 204) [V x0] [] [.l,.E] λxs=>
 Ad D (Ω 240) [V xs] [] [.q 0 1,.R,.X,.E] λn cs=>
 br ((0+n*1).ble cs.length) (some ((V (Bp n 1 (ο (n*1) cs)),[]))) none:=by kernel_rfl
theorem Anj(x0:Int):By A D Al AgG .n 146 AhK [ApB (Value.int Ψ x0)] [] =
 br (A.lt 32 0)
 (none)
 (Ad D (Ω 200) [V [[ApB (Value.int θ (A.conv θ x0))],[ApB (Value.int θ (A.conv θ (A.shr Ψ x0 32)))]]] [] [.l,.E] λxs=>
 some ((V xs,[]))):=by kernel_rfl
theorem AnQ(x0 x1:Rw):By A D Al Sx .n 205 Wk [V x0,V x1] [] =
 Ad D (Ω 204) [V x0] [] [.l,.E] λxs=>
 Ad D (Ω 204) [V x1] [] [.l,.E] λxs1=>
 br (A.lt ↑(AQ xs) ↑(AQ xs1))
 (some ((iv (-1),[])))
 (br (A.lt ↑(AQ xs1) ↑(AQ xs))
 (some ((iv 1,[])))
 (Ad D (ι 205 0) [V xs,V xs1,iv (A.sub U (↑(AQ xs)) 1)] [] [.t,.C,.x,.X,.Y] λc l o2=>
 br (A9 0 c)
 (dk [.I,.N,.E] [.l l,.o o2] λn=>
 some ((iv n,[])))
 (br (A9 2 c)
 (Fe l<|
 CZ o2<|
 some ((iv 0,[])))
 (none)))):=by kernel_rfl
theorem Z6(t0 t1:Rw)(t5:Int):Di A D Al Sx .n 205 0 (AL Wk 0).fst (AL Wk 0).snd [V t0,V t1,iv t5] [] =
 br (A.le 0 t5)
 (unI t5 λi=>
 Bh t0 i λcs=>
 dk [.J .u32,.N] [.l cs] λn=>
 unI t5 λi1=>
 Bh t1 i1 λcs1=>
 dk [.J .u32,.N] [.l cs1] λn1=>
 br (A.lt n n1)
 (some ((ψ [bv true,iv (-1)],[])))
 (unI t5 λi2=>
 Bh t0 i2 λcs2=>
 dk [.J .u32,.N] [.l cs2] λn2=>
 unI t5 λi3=>
 Bh t1 i3 λcs3=>
 dk [.J .u32,.N] [.l cs3] λn3=>
 br (A.lt n3 n2)
 (some ((ψ [bv true,iv 1],[])))
 (AE D (ι 205 0) [V t0,V t1,iv (A.sub U t5 1)] [] λr o=>
 AD 0 [] (AH.mk [] 0 none) [] r o)))
 (some ((ψ [iv 1],[]))):=by kernel_rfl
theorem Anm(x0 x1:Rw):By A D Al Sp .n 149 Wa [V x0,V x1] [] =
 Ad D (Ω 204) [V x0] [] [.l,.E] λxs=>
 Ad D (Ω 204) [V x1] [] [.l,.E] λxs1=>
 br (A.lt ↑(AQ xs) ↑(AQ xs1))
 (unI (A.add U (↑(AQ xs1)) 1) λi=>
 br (Bf i 4) (AE D (ι 149 0) [V xs,ζ 0 0 0 1,ApB (Value.int Ψ 0),V xs1,iv ↑(AQ xs1),iv 0] [Δ [] true true] λr2 o2=>
 dk [.t,.C,.x,.X] [.v r2] λc l=>
 br (A9 1 c)
 (dk [.C,.q 1 1,.J .u64,.N,.D,.R,.X,.E] [.l l,.o o2] λn n1 cs1=>
 br (Bf (n+1) 4) (br ((0+n*1).ble cs1.length) (br ((0+(n+1)*1).ble (Apx 0 (ο (0+n*1) cs1)++[ApB (Value.int θ (A.conv θ n1))]).length) (AE D (Ω 200) [V (Bp (n+1) 1 (ο ((n+1)*1) (Apx 0 (Apx 0 (ο (0+n*1) cs1)++[ApB (Value.int θ (A.conv θ n1))]))))] [] λr3 o3=>
 dk [.l,.E] [.v r3,.o o3] λxs2=>
 some ((V xs2,[]))) none) none) none)
 (none)) none)
 (unI (A.add U (↑(AQ xs)) 1) λi=>
 br (Bf i 4) (AE D (ι 149 0) [V xs1,ζ 0 0 0 1,ApB (Value.int Ψ 0),V xs,iv ↑(AQ xs),iv 0] [Δ [] true true] λr2 o2=>
 dk [.t,.C,.x,.X] [.v r2] λc l=>
 br (A9 1 c)
 (dk [.C,.q 1 1,.J .u64,.N,.D,.R,.X,.E] [.l l,.o o2] λn n1 cs1=>
 br (Bf (n+1) 4) (br ((0+n*1).ble cs1.length) (br ((0+(n+1)*1).ble (Apx 0 (ο (0+n*1) cs1)++[ApB (Value.int θ (A.conv θ n1))]).length) (AE D (Ω 200) [V (Bp (n+1) 1 (ο ((n+1)*1) (Apx 0 (Apx 0 (ο (0+n*1) cs1)++[ApB (Value.int θ (A.conv θ n1))]))))] [] λr3 o3=>
 dk [.l,.E] [.v r3,.o o3] λxs2=>
 some ((V xs2,[]))) none) none) none)
 (none)) none):=by kernel_rfl
theorem ZU(t1:Rw)(n5:Nat)(c5:List AV)(t6:Int)(t25:Rw)(t26 t27:Int):Di A D Al Sp .n 149 0 (AL Wa 0).fst (AL Wa 0).snd [V t1,ζ 0 0 n5 1,ApB (Value.int Ψ t6),V t25,iv t26,iv t27] [{ cells:=c5,st:=true,ex:=true }] =
 br (A.lt t27 t26)
 (unI t27 λi=>
 Bh t25 i λcs=>
 dk [.J .u32,.N] [.l cs] λn=>
 br (A.lt t27 ↑(AQ t1))
 (unI t27 λi1=>
 Bh t1 i1 λcs1=>
 dk [.J .u32,.N] [.l cs1] λn1=>
 br (Bf (n5+1) 4) (br ((0+n5*1).ble c5.length) (br (A.lt 32 0)
 (none)
 (AE D (ι 149 0) [V t1,ζ 0 0 (n5+1) 1,ApB (Value.int Ψ (A.shr Ψ (A.add Ψ (A.add Ψ (A.conv Ψ n) t6) (A.conv Ψ n1)) 32)),V t25,iv t26,iv (A.add U t27 1)] [Δ (Apx 0 (ο (0+n5*1) c5)++[ApB (Value.int θ (A.conv θ (A.add Ψ (A.add Ψ (A.conv Ψ n) t6) (A.conv Ψ n1))))]) true true] λr o=>
 AD 1 [2] (AH.mk [(2,Δ (Apx 0 (ο (0+n5*1) c5)++[ApB (Value.int θ (A.conv θ (A.add Ψ (A.add Ψ (A.conv Ψ n) t6) (A.conv Ψ n1))))]) true true),(1,Δ [ApB (Value.int θ (A.conv θ (A.add Ψ (A.add Ψ (A.conv Ψ n) t6) (A.conv Ψ n1))))] true true)] 3 none) [0] r o)) none) none)
 (br (Bf (n5+1) 4) (br ((0+n5*1).ble c5.length) (br (A.lt 32 0)
 (none)
 (AE D (ι 149 0) [V t1,ζ 0 0 (n5+1) 1,ApB (Value.int Ψ (A.shr Ψ (A.add Ψ (A.conv Ψ n) t6) 32)),V t25,iv t26,iv (A.add U t27 1)] [Δ (Apx 0 (ο (0+n5*1) c5)++[ApB (Value.int θ (A.conv θ (A.add Ψ (A.conv Ψ n) t6)))]) true true] λr o=>
 AD 1 [2] (AH.mk [(2,Δ (Apx 0 (ο (0+n5*1) c5)++[ApB (Value.int θ (A.conv θ (A.add Ψ (A.conv Ψ n) t6)))]) true true),(1,Δ [ApB (Value.int θ (A.conv θ (A.add Ψ (A.conv Ψ n) t6)))] true true)] 3 none) [0] r o)) none) none))
 (some ((ψ [iv 0,ζ 1 0 n5 1,ApB (Value.int Ψ t6)],[BO.del,γ (Δ c5 true true)]))):=by kernel_rfl
theorem Ann(x0 x1:Rw):By A D Al Sq .n 150 Wb [V x0,V x1] [] =
 Ad D (Ω 204) [V x0] [] [.l,.E] λxs=>
 Ad D (Ω 204) [V x1] [] [.l,.E] λxs1=>
 Ad D (Ω 205) [V xs,V xs1] [] [.i,.E] λn=>
 br (A.lt n 0)
 (some ((ψ [V [],bv false],[])))
 (br (Bf (AQ xs) 4) (AE D (ι 150 0) [V xs1,ζ 0 0 0 1,ApB (Value.int Ψ 0),V xs,iv ↑(AQ xs),iv 0] [Δ [] true true] λr3 o3=>
 dk [.t,.C,.x,.X] [.v r3] λc l=>
 br (A9 1 c)
 (dk [.C,.q 1 1,.N,.D,.R,.X,.E] [.l l,.o o3] λn1 cs1=>
 br ((0+n1*1).ble cs1.length) (AE D (Ω 200) [V (Bp n1 1 (ο (n1*1) cs1))] [] λr4 o4=>
 LK r4 λxs2=>
 CZ o4<|
 some ((ψ [V xs2,bv true],[]))) none)
 (none)) none):=by kernel_rfl
theorem ZV(t1:Rw)(n6:Nat)(c6:List AV)(t7:Int)(t23:Rw)(t24 t25:Int):Di A D Al Sq .n 150 0 (AL Wb 0).fst (AL Wb 0).snd [V t1,ζ 0 0 n6 1,ApB (Value.int Ψ t7),V t23,iv t24,iv t25] [{ cells:=c6,st:=true,ex:=true }] =
 br (A.lt t25 t24)
 (unI t25 λi=>
 Bh t23 i λcs=>
 dk [.J .u32,.N] [.l cs] λn=>
 br (A.lt t25 ↑(AQ t1))
 (unI t25 λi1=>
 Bh t1 i1 λcs1=>
 dk [.J .u32,.N] [.l cs1] λn1=>
 br (A.lt (A.conv Ψ n) (A.add Ψ t7 (A.conv Ψ n1)))
 (br (Bf (n6+1) 4) (br ((0+n6*1).ble c6.length) (AE D (ι 150 0) [V t1,ζ 0 0 (n6+1) 1,ApB (Value.int Ψ 1),V t23,iv t24,iv (A.add U t25 1)] [Δ (Apx 0 (ο (0+n6*1) c6)++[ApB (Value.int θ (A.conv θ (A.sub Ψ (A.add Ψ (A.conv Ψ n) 4294967296) (A.add Ψ t7 (A.conv Ψ n1)))))]) true true] λr o=>
 AD 1 [2] (AH.mk [(2,Δ (Apx 0 (ο (0+n6*1) c6)++[ApB (Value.int θ (A.conv θ (A.sub Ψ (A.add Ψ (A.conv Ψ n) 4294967296) (A.add Ψ t7 (A.conv Ψ n1)))))]) true true),(1,Δ [ApB (Value.int θ (A.conv θ (A.sub Ψ (A.add Ψ (A.conv Ψ n) 4294967296) (A.add Ψ t7 (A.conv Ψ n1)))))] true true)] 3 none) [0] r o) none) none)
 (br (Bf (n6+1) 4) (br ((0+n6*1).ble c6.length) (AE D (ι 150 0) [V t1,ζ 0 0 (n6+1) 1,ApB (Value.int Ψ 0),V t23,iv t24,iv (A.add U t25 1)] [Δ (Apx 0 (ο (0+n6*1) c6)++[ApB (Value.int θ (A.conv θ (A.sub Ψ (A.conv Ψ n) (A.add Ψ t7 (A.conv Ψ n1)))))]) true true] λr o=>
 AD 1 [2] (AH.mk [(2,Δ (Apx 0 (ο (0+n6*1) c6)++[ApB (Value.int θ (A.conv θ (A.sub Ψ (A.conv Ψ n) (A.add Ψ t7 (A.conv Ψ n1)))))]) true true),(1,Δ [ApB (Value.int θ (A.conv θ (A.sub Ψ (A.conv Ψ n) (A.add Ψ t7 (A.conv Ψ n1)))))] true true)] 3 none) [0] r o) none) none))
 (br (A.lt (A.conv Ψ n) t7)
 (br (Bf (n6+1) 4) (br ((0+n6*1).ble c6.length) (AE D (ι 150 0) [V t1,ζ 0 0 (n6+1) 1,ApB (Value.int Ψ 1),V t23,iv t24,iv (A.add U t25 1)] [Δ (Apx 0 (ο (0+n6*1) c6)++[ApB (Value.int θ (A.conv θ (A.sub Ψ (A.add Ψ (A.conv Ψ n) 4294967296) t7)))]) true true] λr o=>
 AD 1 [2] (AH.mk [(2,Δ (Apx 0 (ο (0+n6*1) c6)++[ApB (Value.int θ (A.conv θ (A.sub Ψ (A.add Ψ (A.conv Ψ n) 4294967296) t7)))]) true true),(1,Δ [ApB (Value.int θ (A.conv θ (A.sub Ψ (A.add Ψ (A.conv Ψ n) 4294967296) t7)))] true true)] 3 none) [0] r o) none) none)
 (br (Bf (n6+1) 4) (br ((0+n6*1).ble c6.length) (AE D (ι 150 0) [V t1,ζ 0 0 (n6+1) 1,ApB (Value.int Ψ 0),V t23,iv t24,iv (A.add U t25 1)] [Δ (Apx 0 (ο (0+n6*1) c6)++[ApB (Value.int θ (A.conv θ (A.sub Ψ (A.conv Ψ n) t7)))]) true true] λr o=>
 AD 1 [2] (AH.mk [(2,Δ (Apx 0 (ο (0+n6*1) c6)++[ApB (Value.int θ (A.conv θ (A.sub Ψ (A.conv Ψ n) t7)))]) true true),(1,Δ [ApB (Value.int θ (A.conv θ (A.sub Ψ (A.conv Ψ n) t7)))] true true)] 3 none) [0] r o) none) none)))
 (some ((ψ [iv 0,ζ 1 0 n6 1],[BO.del,γ (Δ c6 true true)]))):=by kernel_rfl
theorem Aol(x0 x1:Rw):By A D Al LZ .n 282 PS [V x0,V x1] [] =
 unI (A.add U ↑(AQ x0) ↑(AQ x1)) λi=>
 unI (A.add U ↑(AQ x0) ↑(AQ x1)) λi1=>
 br (i.ble i1) (br (Bf i1 4) (AE D (ι 282 0) [V x1,ζ 0 0 i 1,V x0,iv ↑(AQ x0),iv 0] [Δ (Cj [ApB (Value.int θ 0)] (i*1)) true true] λr o=>
 dk [.t,.C,.x,.X] [.v r] λc l=>
 br (A9 1 c)
 (dk [.C,.q 1 1,.N,.D,.R,.X,.E] [.l l,.o o] λn cs1=>
 br ((0+n*1).ble cs1.length) (AE D (Ω 200) [V (Bp n 1 (ο (n*1) cs1))] [] λr1 o1=>
 LK r1 λxs=>
 CZ o1<|
 some ((V xs,[]))) none)
 (none)) none) none:=by kernel_rfl
theorem Aak(t1:Rw)(n5:Nat)(c5:List AV)(t18:Rw)(t19 t20:Int):Di A D Al LZ .n 282 0 (AL PS 0).fst (AL PS 0).snd [V t1,ζ 0 0 n5 1,V t18,iv t19,iv t20] [{ cells:=c5,st:=true,ex:=true }] =
 br (A.lt t20 t19)
 (unI t20 λi=>
 Bh t18 i λcs=>
 dk [.J .u32,.N] [.l cs] λn=>
 Ad D (ι 282 1) [V t1,ζ 0 0 n5 1,iv t20,ApB (Value.int θ n),ApB (Value.int Ψ 0),V t18,iv t19,iv t20,V t1,iv ↑(AQ t1),iv 0] [Δ c5 true true] [.t,.C,.x,.X,.Y] λc l1 o=>
 br (A9 3 c)
 (dk [.L,.C,.q 1 1,.I,.J .u64,.L,.I,.I,.N,.D,.R,.X,.E] [.l l1,.o o] λxs n1 n2 n3 xs1 n4 n6 cs2=>
 unI (A.add U n2 ↑(AQ xs)) λi1=>
 br (i1.blt n1) (br ((0+i1*1+1).ble cs2.length) (AE D (ι 282 0) [V xs,ζ 0 0 n1 1,V xs1,iv n4,iv (A.add U n6 1)] [Δ (AZ cs2 (0+i1*1) [ApB (Value.int θ (A.conv θ n3))]) true true] λr1 o1=>
 AD 1 [1] (AH.mk [(1,Δ (AZ cs2 (0+i1*1) [ApB (Value.int θ (A.conv θ n3))]) true true)] 2 none) [0] r1 o1) none) none)
 (none))
 (some ((ψ [iv 0,ζ 1 0 n5 1],[BO.del,γ (Δ c5 true true)]))):=by kernel_rfl
theorem Aal(t1:Rw)(n5:Nat)(c5:List AV)(t6 t7 t8:Int)(t18:Rw)(t19 t20:Int)(t25:Rw)(t26 t27:Int):Di A D Al LZ .n 282 1 (AL PS 1).fst (AL PS 1).snd [V t1,ζ 0 0 n5 1,iv t6,ApB (Value.int θ t7),ApB (Value.int Ψ t8),V t18,iv t19,iv t20,V t25,iv t26,iv t27] [{ cells:=c5,st:=true,ex:=true }] =
 br (A.lt t27 t26)
 (unI t27 λi=>
 Bh t25 i λcs=>
 dk [.J .u32,.N] [.l cs] λn=>
 unI (A.add U t6 t27) λi1=>
 br (i1.blt n5) (IE c5 (0+i1*1) 1 λcs1=>
 dk [.J .u32,.N] [.l cs1] λn1=>
 unI (A.add U t6 t27) λi2=>
 br (i2.blt n5) (br ((0+i2*1+1).ble c5.length) (br (A.lt 32 0)
 (none)
 (AE D (ι 282 1) [V t1,ζ 0 0 n5 1,iv t6,ApB (Value.int θ t7),ApB (Value.int Ψ (A.shr Ψ (A.add Ψ (A.add Ψ (A.mul Ψ (A.conv Ψ t7) (A.conv Ψ n)) (A.conv Ψ n1)) t8) 32)),V t18,iv t19,iv t20,V t25,iv t26,iv (A.add U t27 1)] [Δ (AZ c5 (0+i2*1) [ApB (Value.int θ (A.conv θ (A.add Ψ (A.add Ψ (A.mul Ψ (A.conv Ψ t7) (A.conv Ψ n)) (A.conv Ψ n1)) t8)))]) true true] λr o=>
 AD 1 [0] (AH.mk [(0,Δ (AZ c5 (0+i2*1) [ApB (Value.int θ (A.conv θ (A.add Ψ (A.add Ψ (A.mul Ψ (A.conv Ψ t7) (A.conv Ψ n)) (A.conv Ψ n1)) t8)))]) true true)] 1 none) [0] r o)) none) none) none)
 (some ((ψ [iv 2,V t1,ζ 1 0 n5 1,iv t6,ApB (Value.int Ψ t8),V t18,iv t19,iv t20],[BO.del,γ (Δ c5 true true)]))):=by kernel_rfl
theorem Aoh(x0 x1:Rw):By A D Al Ahf .n 275 Aik [V x0,V x1] [] =
 Ad D (Ω 204) [V x0] [] [.l,.E] λxs=>
 Ad D (Ω 204) [V x1] [] [.l,.E] λxs1=>
 br (A.lt (↑(AQ xs)) 24)
 (Ad D (Ω 282) [V xs,V xs1] [] [.l,.E] λxs2=>
 some ((V xs2,[])))
 (br (A.lt (↑(AQ xs1)) 24)
 (Ad D (Ω 282) [V xs,V xs1] [] [.l,.E] λxs2=>
 some ((V xs2,[])))
 (Ad D (Ω 283) [V xs,V xs1] [] [.l,.E] λxs2=>
 some ((V xs2,[])))):=by kernel_rfl
theorem AkO(x0:Int):By A D Al AaR .n 202 Ah5 [ApB (Value.int Arl x0)] [] =
 br (A.le 48 x0)
 (br (A.le x0 57)
 (some ((ψ [ApB (Value.int θ (A.conv θ (A.sub Arl x0 48))),bv true],[])))
 (some ((ψ [ApB (Value.int θ (A.conv θ (A.sub Arl x0 48))),bv false],[]))))
 (some ((ψ [ApB (Value.int θ (A.conv θ (A.sub Arl x0 48))),bv false],[]))):=by kernel_rfl
theorem AkP(x0:Rw)(x1 x2:Int):By A D Al PE .n 203 Wi [V x0,ApB (Value.int θ x1),ApB (Value.int θ x2)] [] =
 unI (A.add U (↑(AQ x0)) 1) λi=>
 br (Bf i 4) (AE D (ι 203 0) [ApB (Value.int θ x1),ζ 0 0 0 1,ApB (Value.int Ψ (A.conv Ψ x2)),V x0,iv ↑(AQ x0),iv 0] [Δ [] true true] λr o=>
 dk [.t,.C,.x,.X] [.v r] λc l=>
 br (A9 1 c)
 (dk [.C,.q 1 1,.J .u64,.N,.D,.R,.X,.E] [.l l,.o o] λn n1 cs1=>
 br (A.lt 0 n1)
 (br (Bf (n+1) 4) (br ((0+n*1).ble cs1.length) (br ((0+(n+1)*1).ble (Apx 0 (ο (0+n*1) cs1)++[ApB (Value.int θ (A.conv θ n1))]).length) (some ((V (Bp (n+1) 1 (ο ((n+1)*1) (Apx 0 (Apx 0 (ο (0+n*1) cs1)++[ApB (Value.int θ (A.conv θ n1))])))),[]))) none) none) none)
 (br ((0+n*1).ble cs1.length) (some ((V (Bp n 1 (ο (n*1) cs1)),[]))) none))
 (none)) none:=by kernel_rfl
theorem Z4(t1:Int)(n7:Nat)(c7:List AV)(t8:Int)(t18:Rw)(t19 t20:Int):Di A D Al PE .n 203 0 (AL Wi 0).fst (AL Wi 0).snd [ApB (Value.int θ t1),ζ 0 0 n7 1,ApB (Value.int Ψ t8),V t18,iv t19,iv t20] [{ cells:=c7,st:=true,ex:=true }] =
 br (A.lt t20 t19)
 (unI t20 λi=>
 Bh t18 i λcs=>
 dk [.J .u32,.N] [.l cs] λn=>
 br (Bf (n7+1) 4) (br ((0+n7*1).ble c7.length) (br (A.lt 32 0)
 (none)
 (AE D (ι 203 0) [ApB (Value.int θ t1),ζ 0 0 (n7+1) 1,ApB (Value.int Ψ (A.shr Ψ (A.add Ψ (A.mul Ψ (A.conv Ψ n) (A.conv Ψ t1)) t8) 32)),V t18,iv t19,iv (A.add U t20 1)] [Δ (Apx 0 (ο (0+n7*1) c7)++[ApB (Value.int θ (A.conv θ (A.add Ψ (A.mul Ψ (A.conv Ψ n) (A.conv Ψ t1)) t8)))]) true true] λr o=>
 AD 1 [2] (AH.mk [(2,Δ (Apx 0 (ο (0+n7*1) c7)++[ApB (Value.int θ (A.conv θ (A.add Ψ (A.mul Ψ (A.conv Ψ n) (A.conv Ψ t1)) t8)))]) true true),(1,Δ [ApB (Value.int θ (A.conv θ (A.add Ψ (A.mul Ψ (A.conv Ψ n) (A.conv Ψ t1)) t8)))] true true)] 3 none) [0] r o)) none) none)
 (some ((ψ [iv 0,ζ 1 0 n7 1,ApB (Value.int Ψ t8)],[BO.del,γ (Δ c7 true true)]))):=by kernel_rfl
theorem Anl(x0:ByteArray):By A D Al Ew .n 148 PN [sv x0] [] =
 br (A.lt 4000 ↑(A.slen x0))
 (some ((ψ [V [],iv 2],[])))
 (br (A.seq x0 (Ax []))
 (some ((ψ [V [],iv 20],[])))
 (Ad D (ι 148 0) [sv x0,ApB (Value.slice none 0 0),ApB (Value.int θ 0),ApB (Value.int θ 1),iv ↑(A.slen x0),iv 0] [] [.t,.C,.x,.X,.Y] λc l o=>
 br (A9 0 c)
 (dk [.L,.I,.N,.E] [.l l,.o o] λxs n=>
 some ((ψ [V xs,iv n],[])))
 (br (A9 2 c)
 (dk [.L,.J .u32,.J .u32,.N,.E] [.l l,.o o] λxs n n1=>
 Ad D (Ω 203) [V xs,ApB (Value.int θ n1),ApB (Value.int θ n)] [] [.l,.E] λxs1=>
 Ad D (Ω 200) [V xs1] [] [.l,.E] λxs2=>
 some ((ψ [V xs2,iv 0],[])))
 (none)))):=by kernel_rfl
theorem K3(t0:ByteArray)(t4:Rw)(t5 t6 t18 t19:Int):Di A D Al Ew .n 148 0 (AL PN 0).fst (AL PN 0).snd [sv t0,V t4,ApB (Value.int θ t5),ApB (Value.int θ t6),iv t18,iv t19] [] =
 br (A.lt t19 t18)
 (unI t19 λi=>
 br (i.blt (A.slen t0)) (AE D (Ω 202) [ApB (Value.int Arl (A.sat t0 i))] [] λr o=>
 dk [.t,.J .u32,.B,.N,.E] [.v r,.o o] λn b=>
 br (A.not b)
 (some ((ψ [bv true,V [],iv 20],[])))
 (br (A.eq (A.mul θ t6 10) 1000000000)
 (Ad D (Ω 203) [V t4,ApB (Value.int θ (A.mul θ t6 10)),ApB (Value.int θ (A.add θ (A.mul θ t5 10) n))] [] [.l,.E] λxs=>
 AE D (ι 148 0) [sv t0,V xs,ApB (Value.int θ 0),ApB (Value.int θ 1),iv t18,iv (A.add U t19 1)] [] λr2 o2=>
 AD 0 [] (AH.mk [] 0 none) [] r2 o2)
 (AE D (ι 148 0) [sv t0,V t4,ApB (Value.int θ (A.add θ (A.mul θ t5 10) n)),ApB (Value.int θ (A.mul θ t6 10)),iv t18,iv (A.add U t19 1)] [] λr1 o1=>
 AD 0 [] (AH.mk [] 0 none) [] r1 o1))) none)
 (some ((ψ [iv 1,V t4,ApB (Value.int θ t5),ApB (Value.int θ t6)],[]))):=by kernel_rfl
theorem Iu(t0:ByteArray)(t5 t6 t18 t19:Int):Di A D Al Ew .n 148 0 (AL PN 0).fst (AL PN 0).snd [sv t0,ApB (Value.slice none 0 0),ApB (Value.int θ t5),ApB (Value.int θ t6),iv t18,iv t19] [] =
 br (A.lt t19 t18)
 (unI t19 λi=>
 br (i.blt (A.slen t0)) (AE D (Ω 202) [ApB (Value.int Arl (A.sat t0 i))] [] λr o=>
 dk [.t,.J .u32,.B,.N,.E] [.v r,.o o] λn b=>
 br (A.not b)
 (some ((ψ [bv true,V [],iv 20],[])))
 (br (A.eq (A.mul θ t6 10) 1000000000)
 (Ad D (Ω 203) [V [],ApB (Value.int θ (A.mul θ t6 10)),ApB (Value.int θ (A.add θ (A.mul θ t5 10) n))] [] [.l,.E] λxs=>
 AE D (ι 148 0) [sv t0,V xs,ApB (Value.int θ 0),ApB (Value.int θ 1),iv t18,iv (A.add U t19 1)] [] λr2 o2=>
 AD 0 [] (AH.mk [] 0 none) [] r2 o2)
 (AE D (ι 148 0) [sv t0,ApB (Value.slice none 0 0),ApB (Value.int θ (A.add θ (A.mul θ t5 10) n)),ApB (Value.int θ (A.mul θ t6 10)),iv t18,iv (A.add U t19 1)] [] λr1 o1=>
 AD 0 [] (AH.mk [] 0 none) [] r1 o1))) none)
 (some ((ψ [iv 1,V [],ApB (Value.int θ t5),ApB (Value.int θ t6)],[]))):=by kernel_rfl
end
section
open Go.RowKit
def AhJ:MFn:=Bm [] 145
def AgF:Hnt:=⟨[(200,(.ls,[]))],[],[]⟩
def Ah7:MFn:=Bm [] 209
def Ag2:Hnt:=⟨[(145,(.agg [.bool,.ls],[]))],[],[(4,[.bool]),(6,[.ls])]⟩
def Amo:MFn:=Bm [] 84
def Alc:Hnt:=⟨[(145,(.agg [.bool,.ls],[])),(146,(.ls,[]))],[],[]⟩
def Amq:MFn:=Bm [] 86
def Ale:Hnt:=⟨[(145,(.agg [.bool,.ls],[]))],[],[(4,[.bool]),(7,[.ls])]⟩
def AhR:MFn:=Bm [] 158
def AgN:Hnt:=⟨[(209,(.agg [.bool,.ls],[]))],[],[(3,[.bool,.ls]),(7,[.bool]),(10,[.ls])]⟩
def Aio:MFn:=Bm [] 285
def Ahj:Hnt:=⟨[(158,(.int .i64,[])),(205,(.int .i64,[]))],[],[(7,[.bool,.ls]),(9,[.bool,.ls]),(23,[.ls]),(25,[.ls]),(28,[.ls]),(30,[.ls])]⟩
def Amr:MFn:=Bm [] 87
def Alf:Hnt:=⟨[(145,(.agg [.bool,.ls],[])),(149,(.ls,[])),(150,(.tup [.ls,.bool],[]))],[],[(10,[.bool]),(12,[.bool]),(15,[.bool]),(17,[.ls]),(19,[.ls]),(24,[.ls]),(26,[.ls]),(32,[.bool]),(37,[.ls]),(39,[.ls]),(44,[.bool])]⟩
def Aii:MFn:=Bm [] 264
def Ahd:Hnt:=⟨[(145,(.agg [.bool,.ls],[])),(275,(.ls,[]))],[],[(6,[.bool]),(8,[.bool]),(11,[.ls]),(13,[.ls])]⟩
def Amp:MFn:=Bm [] 85
def Ald:Hnt:=⟨[(145,(.agg [.bool,.ls],[])),(147,(.tup [.str,.bool],[])),(148,(.tup [.ls,.int .i64],[]))],[],[]⟩
def AhL:MFn:=Bm [] 147
def AgH:Hnt:=⟨[(201,(.tup [.str,.bool],[]))],[],[]⟩
def Ah4:MFn:=Bm [] 201
def Ag0:Hnt:=⟨[(241,(.bool,[]))],[],[]⟩
def Aig:MFn:=Bm [] 241
def Ahb:Hnt:=⟨[],[],[]⟩
def Qh:List (Nat × MFn):=[(145,AhJ),(209,Ah7),(84,Amo),(86,Amq),(158,AhR),(285,Aio),(87,Amr),(264,Aii),(85,Amp),(147,AhL),(201,Ah4),(241,Aig)]
variable (A:Ar) (D:Orc)
theorem Ani(x0:Bool)(x1:Rw):By A D Al AgF (.b (.t (.t (.b (.t .n) (.t .n)))) (.f (.f (.f .n)))) 145 AhJ [bv x0,V x1] [] =
 Ad D (Ω 200) [V x1] [] [.l,.E] λxs=>
 br x0
 (br x0 (br x0 (br (A.lt 0 ↑(AQ xs))
 (br x0 (some ((Ξ [bv true,V xs],[]))) none)
 (br x0 (some ((Ξ [bv false,V xs],[]))) none)) none) none)
 (br x0 none (br x0 none (br x0 none (some ((Ξ [bv false,V xs],[])))))):=by kernel_rfl
theorem AnU(x0_0:Bool)(x0_1:Rw):By A D Al Ag2 .n 209 Ah7 [Ξ [bv x0_0,V x0_1]] [] =
 Ad D (Ω 145) [bv x0_0,V x0_1] [] [.a,.B,.L,.N,.E] λb xs=>
 some ((Ξ [bv b,V xs],[])):=by kernel_rfl
theorem e84(x0:Int):By A D Al Alc .n 84 Amo [iv x0] [] =
 br (A.lt x0 0)
 (Ad D (Ω 146) [ApB (Value.int Ψ (A.add Ψ (A.conv Ψ (A.sub U 0 (A.add U x0 1))) 1))] [] [.l,.E] λxs=>
 Ad D (Ω 145) [bv true,V xs] [] [.a,.B,.L,.N,.E] λb xs1=>
 some ((Ξ [bv b,V xs1],[])))
 (Ad D (Ω 146) [ApB (Value.int Ψ (A.conv Ψ x0))] [] [.l,.E] λxs=>
 Ad D (Ω 145) [bv false,V xs] [] [.a,.B,.L,.N,.E] λb xs1=>
 some ((Ξ [bv b,V xs1],[]))):=by kernel_rfl
theorem e86(x0_0:Bool)(x0_1:Rw):By A D Al Ale .n 86 Amq [Ξ [bv x0_0,V x0_1]] [] =
 br (A.not x0_0)
 (Ad D (Ω 145) [bv true,V x0_1] [] [.a,.B,.L,.N,.E] λb xs=>
 some ((Ξ [bv b,V xs],[])))
 (Ad D (Ω 145) [bv false,V x0_1] [] [.a,.B,.L,.N,.E] λb xs=>
 some ((Ξ [bv b,V xs],[]))):=by kernel_rfl
theorem Ant(x0_0:Bool)(x0_1:Rw):By A D Al AgN .n 158 AhR [Ξ [bv x0_0,V x0_1]] [] =
 Ad D (Ω 209) [Ξ [bv x0_0,V x0_1]] [] [.a,.B,.L,.N,.E] λb xs=>
 br b
 (some ((iv (-1),[])))
 (br (A.lt 0 ↑(AQ xs))
 (some ((iv 1,[])))
 (some ((iv 0,[])))):=by kernel_rfl
theorem Aon(x0_0:Bool)(x0_1:Rw)(x1_0:Bool)(x1_1:Rw):By A D Al Ahj .n 285 Aio [Ξ [bv x0_0,V x0_1],Ξ [bv x1_0,V x1_1]] [] =
 Ad D (Ω 158) [Ξ [bv x0_0,V x0_1]] [] [.i,.E] λn=>
 Ad D (Ω 158) [Ξ [bv x1_0,V x1_1]] [] [.i,.E] λn1=>
 br (A.lt n n1)
 (some ((iv (-1),[])))
 (br (A.lt n1 n)
 (some ((iv 1,[])))
 (br (A.lt n 0)
 (Ad D (Ω 205) [V x1_1,V x0_1] [] [.i,.E] λn2=>
 some ((iv n2,[])))
 (Ad D (Ω 205) [V x0_1,V x1_1] [] [.i,.E] λn2=>
 some ((iv n2,[]))))):=by kernel_rfl
theorem e87(x0_0:Bool)(x0_1:Rw)(x1_0:Bool)(x1_1:Rw):By A D Al Alf .n 87 Amr [Ξ [bv x0_0,V x0_1],Ξ [bv x1_0,V x1_1]] [] =
 br (A.beq x0_0 x1_0)
 (Ad D (Ω 149) [V x0_1,V x1_1] [] [.l,.E] λxs=>
 Ad D (Ω 145) [bv x0_0,V xs] [] [.a,.B,.L,.N,.E] λb xs1=>
 some ((Ξ [bv b,V xs1],[])))
 (Ad D (Ω 150) [V x0_1,V x1_1] [] [.t,.L,.B,.N,.E] λxs b=>
 br b
 (Ad D (Ω 145) [bv x0_0,V xs] [] [.a,.B,.L,.N,.E] λb1 xs1=>
 some ((Ξ [bv b1,V xs1],[])))
 (Ad D (Ω 150) [V x1_1,V x0_1] [] [.t,.L,.B,.N,.E] λxs1 _=>
 Ad D (Ω 145) [bv x1_0,V xs1] [] [.a,.B,.L,.N,.E] λb2 xs2=>
 some ((Ξ [bv b2,V xs2],[])))):=by kernel_rfl
theorem Aoe(x0_0:Bool)(x0_1:Rw)(x1_0:Bool)(x1_1:Rw):By A D Al Ahd .n 264 Aii [Ξ [bv x0_0,V x0_1],Ξ [bv x1_0,V x1_1]] [] =
 br (A.not (A.beq x0_0 x1_0))
 (Ad D (Ω 275) [V x0_1,V x1_1] [] [.l,.E] λxs=>
 Ad D (Ω 145) [bv true,V xs] [] [.a,.B,.L,.N,.E] λb xs1=>
 some ((Ξ [bv b,V xs1],[])))
 (Ad D (Ω 275) [V x0_1,V x1_1] [] [.l,.E] λxs=>
 Ad D (Ω 145) [bv false,V xs] [] [.a,.B,.L,.N,.E] λb xs1=>
 some ((Ξ [bv b,V xs1],[]))):=by kernel_rfl
theorem e85(x0:ByteArray):By A D Al Ald .n 85 Amp [sv x0] [] =
 Ad D (Ω 147) [sv x0,sv (Ax [45])] [] [.t,.S,.B,.N,.E] λs b=>
 Ad D (Ω 148) [sv s] [] [.t,.L,.I,.N,.E] λxs n=>
 br (A.eq n 0)
 (Ad D (Ω 145) [bv b,V xs] [] [.a,.B,.L,.N,.E] λb1 xs1=>
 some ((ψ [Ξ [bv b1,V xs1],iv 0],[])))
 (some ((ψ [Ξ [bv false,V []],iv n],[]))):=by kernel_rfl
theorem Ank(x0 x1:ByteArray):By A D Al AgH .n 147 AhL [sv x0,sv x1] [] =
 Ad D (Ω 201) [sv x0,sv x1] [] [.t,.S,.B,.N,.E] λs b=>
 some ((ψ [sv s,bv b],[])):=by kernel_rfl
theorem AnO(x0 x1:ByteArray):By A D Al Ag0 .n 201 Ah4 [sv x0,sv x1] [] =
 Ad D (Ω 241) [sv x0,sv x1] [] [.b,.E] λb=>
 br b
 (br (J1 (A.slen x1) (A.slen x0) (A.slen x0)) (some ((ψ [sv (A.ssub x0 (A.slen x1) (A.slen x0)),bv true],[]))) none)
 (some ((ψ [sv x0,bv false],[]))):=by kernel_rfl
theorem An7(x0 x1:ByteArray):By A D Al Ahb .n 241 Aig [sv x0,sv x1] [] =
 br (A.le ↑(A.slen x1) ↑(A.slen x0))
 (br (J1 0 (A.slen x1) (A.slen x0)) (br (A.seq (A.ssub x0 0 (A.slen x1)) x1)
 (some ((bv true,[])))
 (some ((bv false,[])))) none)
 (some ((bv false,[]))):=by kernel_rfl
end
section
open Go.RowKit
def Ah6:MFn:=Bm [] 207
def Ag1:Hnt:=⟨[],[],[]⟩
def AhO:MFn:=Bm [] 154
def AgK:Hnt:=⟨[(207,(.bool,[]))],[],[]⟩
def AhN:MFn:=Bm [] 153
def AgJ:Hnt:=⟨[(154,(.int .i64,[]))],[],[(6,[.int .i64]),(8,[.int .i64])]⟩
def AhQ:MFn:=Bm [] 157
def AgM:Hnt:=⟨[(158,(.int .i64,[]))],[],[(4,[.bool,.ls])]⟩
def AhM:MFn:=MF φ Bb [] false true 152
def AgI:Hnt:=⟨[(153,(.int .i64,[])),(206,(.tup [],[.row true]))],[],[]⟩
def Aly:A3:=[⟨63,[true,true,true,false,false,false,true,true,true],[],[],[(1,([true,true,true,false,false,false,true,true],([],[1000000])))]⟩,⟨63,[true,true,true,false,false,false,true],[],[],[(3,([true],([],[1000000])))]⟩,⟨63,[true,true,true,false,false,false,true,true,true],[],[],[(5,([true,true,true,false,false,false,true,true],([],[1000000])))]⟩]
def L8:MFn:=MF φ Bb Aly false true 206
def G3:Hnt:=⟨[(153,(.int .i64,[])),(242,(.tup [],[.row true])),(243,(.tup [],[.row true]))],[(0,[(1,([.sl 0 3,.int .i64,.fnc 153,.int .i64,.int .i64],[.row true]))]),(1,[(3,([.sl 0 3],[.row true]))]),(2,[(5,([.sl 0 3,.int .i64,.fnc 153,.int .i64,.int .i64],[.row true]))])],[]⟩
def AlD:A3:=[⟨53,[true,true,true,true,false,false,false,false,true],[],[],[(1,([true],([],[1000000])))]⟩,⟨53,[true,true,true,true,false,false,false,false,true,true],[],[],[(3,([true,true,true,true,false,false,false,false,true],([],[1000000])))]⟩]
def PQ:MFn:=MF φ Bb AlD false true 242
def Hp:Hnt:=⟨[(153,(.int .i64,[]))],[(0,[(1,([.sl 0 3],[.row true]))]),(1,[(3,([.sl 0 3,.int .i64,.int .i64,.fnc 153,.int .i64],[.row true]))])],[(25,[.int .i64,.bool,.ls]),(26,[.int .i64,.bool,.ls]),(30,[.int .i64,.bool,.ls]),(31,[.int .i64,.bool,.ls]),(45,[.int .i64,.bool,.ls]),(46,[.int .i64,.bool,.ls]),(49,[.int .i64,.bool,.ls]),(50,[.int .i64,.bool,.ls]),(51,[.int .i64,.bool,.ls]),(52,[.int .i64,.bool,.ls])]⟩
def AlE:A3:=[⟨220,[true,true,false,false,true,false,false,false,false,false,true,true],[],[],[(1,([true,true,false,false,false,false,false,false,false,false,true],([],[1000000])))]⟩,⟨220,[true,false,false,false,false,false,false,false,false,false,true,false,false,true],[],[],[(3,([true],([],[1000000])))]⟩,⟨220,[true,false,true,false,true,false,false,false,false,false,false,false,false,false,true,true],[],[],[(5,([true,false,true,false,false,false,false,false,false,false,false,false,false,false,true],([],[1000000])))]⟩,⟨220,[true,false,false,false,false,false,false,false,false,false,false,false,false,false,true,false,false,true],[],[],[(7,([true],([],[1000000])))]⟩,⟨220,[true,true,true,true,true,false,false,false,false,false,false,false,false,false,false,false,false,false,true,true,true,true,true],[],[],[(9,([true,true,true,true,true,false,false,false,false,false,false,false,false,false,false,false,false,false,true,true,true],([],[1000000])))]⟩]
def G5:MFn:=MF φ Bb AlE false true 243
def CB:Hnt:=⟨[(153,(.int .i64,[])),(243,(.tup [],[.row true])),(260,(.tup [],[.row true]))],[(0,[(1,([.sl 0 3,.int .i64,.int .i64],[.row true]))]),(1,[(3,([.sl 0 3],[.row true]))]),(2,[(5,([.sl 0 3,.int .i64,.int .i64],[.row true]))]),(3,[(7,([.sl 0 3],[.row true]))]),(4,[(9,([.sl 0 3,.int .i64,.int .i64,.int .i64,.fnc 153,.int .i64,.int .i64,.int .i64],[.row true]))])],[(43,[.int .i64,.bool,.ls]),(44,[.int .i64,.bool,.ls]),(47,[.int .i64,.bool,.ls]),(48,[.int .i64,.bool,.ls]),(69,[.int .i64,.bool,.ls]),(70,[.int .i64,.bool,.ls]),(73,[.int .i64,.bool,.ls]),(74,[.int .i64,.bool,.ls]),(75,[.int .i64,.bool,.ls]),(76,[.int .i64,.bool,.ls]),(95,[.int .i64,.bool,.ls]),(96,[.int .i64,.bool,.ls]),(99,[.int .i64,.bool,.ls]),(100,[.int .i64,.bool,.ls]),(121,[.int .i64,.bool,.ls]),(122,[.int .i64,.bool,.ls]),(125,[.int .i64,.bool,.ls]),(126,[.int .i64,.bool,.ls]),(127,[.int .i64,.bool,.ls]),(128,[.int .i64,.bool,.ls]),(163,[.int .i64,.bool,.ls]),(164,[.int .i64,.bool,.ls]),(167,[.int .i64,.bool,.ls]),(168,[.int .i64,.bool,.ls])]⟩
def AlJ:A3:=[⟨58,[true,false,true,false,true,false,false,false,false,false,true,true],[],[],[(1,([true,false,true,false,true,false,false,false,false,false,true],([],[1000000])))]⟩]
def Ws:MFn:=MF φ Bb AlJ false true 260
def PF:Hnt:=⟨[(153,(.int .i64,[])),(273,(.tup [],[.row true]))],[(0,[(1,([.sl 0 3,.int .i64,.fnc 153,.int .i64],[.row true]))])],[]⟩
def AlK:A3:=[⟨38,[true,true,true,true,false,false,false,false,false,false,true],[],[],[(1,([true],([],[1000000])))]⟩]
def Wt:MFn:=MF φ Bb AlK false true 273
def SE:Hnt:=⟨[(153,(.int .i64,[]))],[(0,[(1,([.sl 0 3],[.row true]))])],[(28,[.int .i64,.bool,.ls]),(29,[.int .i64,.bool,.ls]),(34,[.int .i64,.bool,.ls]),(35,[.int .i64,.bool,.ls]),(36,[.int .i64,.bool,.ls]),(37,[.int .i64,.bool,.ls])]⟩
def Alm:A3:=[⟨42,[true,true,false,false,false,true,true],[],[],[(1,([true,false,false,false,false,true],([],[1000000])))]⟩]
def Wc:MFn:=MF φ Bb Alm true true 156
def NI:Hnt:=⟨[(157,(.bool,[])),(208,(.int .i64,[.row true]))],[(0,[(1,([.sl 0 3,.int .i64],[.row true]))])],[(24,[.int .i64,.bool,.ls]),(25,[.int .i64,.bool,.ls]),(27,[.int .i64,.bool,.ls]),(32,[.int .i64,.bool,.ls]),(33,[.int .i64,.bool,.ls])]⟩
def Alz:A3:=[⟨19,[true,true,false,false,false,false,false,true,true],[],[],[(0,([true,false,false,false,true],([],[1000000]))),(1,([true],([],[1000000])))]⟩]
def Wl:MFn:=MF φ Bb Alz false true 208
def NK:Hnt:=⟨[(157,(.bool,[]))],[(0,[(0,([.sl 0 3,.int .i64],[.row true])),(1,([.sl 0 3],[.row true]))])],[(14,[.int .i64,.bool,.ls]),(15,[.int .i64,.bool,.ls])]⟩
def Fb:List (Nat × MFn):=[(207,Ah6),(154,AhO),(153,AhN),(157,AhQ),(152,AhM),(206,L8),(242,PQ),(243,G5),(260,Ws),(273,Wt),(156,Wc),(208,Wl)]
variable (A:Ar) (D:Orc)
theorem AnS(x0:Int):By A D Al Ag1 .n 207 Ah6 [iv x0] [] =
 br (A.eq x0 x0)
 (some ((bv false,[])))
 (some ((bv true,[]))):=by kernel_rfl
theorem Anq(x0 x1:Int):By A D Al AgK .n 154 AhO [iv x0,iv x1] [] =
 Ad D (Ω 207) [iv x0] [] [.b,.E] λb=>
 br b
 (Ad D (Ω 207) [iv x1] [] [.b,.E] λb1=>
 br b1
 (some ((iv 0,[])))
 (some ((iv (-1),[]))))
 (Ad D (Ω 207) [iv x1] [] [.b,.E] λb1=>
 br b1
 (some ((iv 1,[])))
 (br (A.lt x0 x1)
 (some ((iv (-1),[])))
 (br (A.lt x1 x0)
 (some ((iv 1,[])))
 (some ((iv 0,[])))))):=by kernel_rfl
theorem Anp(x0_0:Int)(x0_1:Bool)(x0_2:Rw)(x1_0:Int)(x1_1:Bool)(x1_2:Rw):By A D Al AgJ .n 153 AhN [Ξ [iv x0_0,bv x0_1,V x0_2],Ξ [iv x1_0,bv x1_1,V x1_2]] [] =
 Ad D (Ω 154) [iv x0_0,iv x1_0] [] [.i,.E] λn=>
 some ((iv n,[])):=by kernel_rfl
theorem Ans(x0_0:Int)(x0_1:Bool)(x0_2:Rw):By A D Al AgM .n 157 AhQ [Ξ [iv x0_0,bv x0_1,V x0_2]] [] =
 Ad D (Ω 158) [Ξ [bv x0_1,V x0_2]] [] [.i,.E] λn=>
 br (A.eq n 0)
 (some ((bv true,[])))
 (some ((bv false,[]))):=by kernel_rfl
theorem Ano(n0:Nat)(c0:List AV):By A D Al AgI .n 152 AhM [ζ 0 0 n0 3,ApE (Fn.func 153) [] []] [{ cells:=c0,st:=true,ex:=true }] =
 Ad D (Ω 206) [ζ 0 0 n0 3,iv ↑n0,ApE (Fn.func 153) [] []] [Δ c0 true true] [.t,.N,.R,.X,.E] λcs1=>
 some ((ψ [],[γ (Δ cs1 true true)])):=by kernel_rfl
theorem AnR(n0:Nat)(c0:List AV)(x1:Int):By A D Al G3 .n 206 L8 [ζ 0 0 n0 3,iv x1,ApE (Fn.func 153) [] []] [{ cells:=c0,st:=true,ex:=true }] =
 Ad D (ι 206 0) [ζ 0 0 n0 3,iv x1,ApE (Fn.func 153) [] [],iv 20,iv 0,iv 20] [Δ c0 true true] [.t,.C,.x,.X,.Y] λc l o=>
 br (A9 1 c)
 (dk [.C,.q 0 3,.I,.C,.f 153,.I,.I,.N,.R,.X,.E] [.l l,.o o] λn n1 n2 n3 cs1=>
 Ad D (Ω 242) [ζ 0 0 n 3,iv n3,iv n1,ApE (Fn.func 153) [] []] [Δ cs1 true true] [.t,.N,.R,.X,.E] λcs3=>
 Ad D (ι 206 1) [ζ 0 0 n 3,iv n1,ApE (Fn.func 153) [] [],iv n2] [Δ cs3 true true] [.t,.C,.x,.X,.Y] λc5 l8 o2=>
 br (A9 3 c5)
 (dk [.C,.q 0 3,.N,.R,.X,.E] [.l l8,.o o2] λ_ cs5=>
 some ((ψ [],[γ (Δ cs5 true true)])))
 (none))
 (none):=by kernel_rfl
theorem Z7(n0:Nat)(c0:List AV)(t1 t6 t7 t8:Int):Di A D Al G3 .n 206 0 (AL L8 0).fst (AL L8 0).snd [ζ 0 0 n0 3,iv t1,ApE (Fn.func 153) [] [],iv t6,iv t7,iv t8] [{ cells:=c0,st:=true,ex:=true }] =
 br (A.le t8 t1)
 (Ad D (Ω 242) [ζ 0 0 n0 3,iv t7,iv t8,ApE (Fn.func 153) [] []] [Δ c0 true true] [.t,.N,.R,.X,.E] λcs1=>
 AE D (ι 206 0) [ζ 0 0 n0 3,iv t1,ApE (Fn.func 153) [] [],iv t6,iv t8,iv (A.add U t8 t6)] [Δ cs1 true true] λr1 o1=>
 AD 1 [0] (AH.mk [(0,Δ cs1 true true)] 1 none) [0] r1 o1)
 (some ((ψ [iv 0,ζ 0 0 n0 3,iv t1,ApE (Fn.func 153) [] [],iv t6,iv t7],[γ (Δ c0 true true)]))):=by kernel_rfl
theorem Us(n0:Nat)(c0:List AV)(t1 t6:Int):Di A D Al G3 .n 206 1 (AL L8 1).fst (AL L8 1).snd [ζ 0 0 n0 3,iv t1,ApE (Fn.func 153) [] [],iv t6] [{ cells:=c0,st:=true,ex:=true }] =
 br (A.lt t6 t1)
 (Ad D (ι 206 2) [ζ 0 0 n0 3,iv t1,ApE (Fn.func 153) [] [],iv t6,iv 0,iv (A.mul U 2 t6)] [Δ c0 true true] [.t,.C,.x,.X,.Y] λc l o=>
 br (A9 5 c)
 (dk [.C,.q 0 3,.I,.C,.f 153,.I,.I,.N,.R,.X,.E] [.l l,.o o] λn n1 n2 n3 cs1=>
 br (A.lt (A.add U n3 n2) n1)
 (Ad D (Ω 243) [ζ 0 0 n 3,iv n3,iv (A.add U n3 n2),iv n1,ApE (Fn.func 153) [] []] [Δ cs1 true true] [.t,.N,.R,.X,.E] λcs3=>
 AE D (ι 206 1) [ζ 0 0 n 3,iv n1,ApE (Fn.func 153) [] [],iv (A.mul U n2 2)] [Δ cs3 true true] λr2 o2=>
 AD 1 [0] (AH.mk [(0,Δ cs3 true true)] 1 none) [0] r2 o2)
 (AE D (ι 206 1) [ζ 0 0 n 3,iv n1,ApE (Fn.func 153) [] [],iv (A.mul U n2 2)] [Δ cs1 true true] λr1 o1=>
 AD 1 [0] (AH.mk [(0,Δ cs1 true true)] 1 none) [0] r1 o1))
 (none))
 (some ((ψ [iv 2,ζ 0 0 n0 3],[γ (Δ c0 true true)]))):=by kernel_rfl
theorem Z8(n0:Nat)(c0:List AV)(t1 t6 t7 t8:Int):Di A D Al G3 .n 206 2 (AL L8 2).fst (AL L8 2).snd [ζ 0 0 n0 3,iv t1,ApE (Fn.func 153) [] [],iv t6,iv t7,iv t8] [{ cells:=c0,st:=true,ex:=true }] =
 br (A.le t8 t1)
 (Ad D (Ω 243) [ζ 0 0 n0 3,iv t7,iv (A.add U t7 t6),iv t8,ApE (Fn.func 153) [] []] [Δ c0 true true] [.t,.N,.R,.X,.E] λcs1=>
 AE D (ι 206 2) [ζ 0 0 n0 3,iv t1,ApE (Fn.func 153) [] [],iv t6,iv t8,iv (A.add U t8 (A.mul U 2 t6))] [Δ cs1 true true] λr1 o1=>
 AD 1 [0] (AH.mk [(0,Δ cs1 true true)] 1 none) [0] r1 o1)
 (some ((ψ [iv 4,ζ 0 0 n0 3,iv t1,ApE (Fn.func 153) [] [],iv t6,iv t7],[γ (Δ c0 true true)]))):=by kernel_rfl
theorem AkQ(n0:Nat)(c0:List AV)(x1 x2:Int):By A D Al Hp .n 242 PQ [ζ 0 0 n0 3,iv x1,iv x2,ApE (Fn.func 153) [] []] [{ cells:=c0,st:=true,ex:=true }] =
 Ad D (ι 242 0) [ζ 0 0 n0 3,iv x1,iv x2,ApE (Fn.func 153) [] [],iv (A.add U x1 1)] [Δ c0 true true] [.t,.C,.x,.X,.Y] λc l o=>
 br (A9 1 c)
 (dk [.C,.q 0 3,.N,.R,.X,.E] [.l l,.o o] λ_ cs1=>
 some ((ψ [],[γ (Δ cs1 true true)])))
 (none):=by kernel_rfl
theorem Ut(n0:Nat)(c0:List AV)(t1 t2 t8:Int):Di A D Al Hp .n 242 0 (AL PQ 0).fst (AL PQ 0).snd [ζ 0 0 n0 3,iv t1,iv t2,ApE (Fn.func 153) [] [],iv t8] [{ cells:=c0,st:=true,ex:=true }] =
 br (A.lt t8 t2)
 (Ad D (ι 242 1) [ζ 0 0 n0 3,iv t1,iv t2,ApE (Fn.func 153) [] [],iv t8,iv t8] [Δ c0 true true] [.t,.C,.x,.X,.Y] λc l o=>
 br (A9 3 c)
 (dk [.C,.q 0 3,.I,.I,.C,.f 153,.I,.N,.R,.X,.E] [.l l,.o o] λn n1 n2 n3 cs1=>
 AE D (ι 242 0) [ζ 0 0 n 3,iv n1,iv n2,ApE (Fn.func 153) [] [],iv (A.add U n3 1)] [Δ cs1 true true] λr1 o1=>
 AD 1 [0] (AH.mk [(0,Δ cs1 true true)] 1 none) [0] r1 o1)
 (none))
 (some ((ψ [iv 0,ζ 0 0 n0 3],[γ (Δ c0 true true)]))):=by kernel_rfl
theorem Uu(n0:Nat)(c0:List AV)(t1 t2 t8 t9:Int):Di A D Al Hp .n 242 1 (AL PQ 1).fst (AL PQ 1).snd [ζ 0 0 n0 3,iv t1,iv t2,ApE (Fn.func 153) [] [],iv t8,iv t9] [{ cells:=c0,st:=true,ex:=true }] =
 br (A.lt t1 t9)
 (unI t9 λi=>
 br (i.blt n0) (IE c0 (0+i*3) 3 λcs=>
 dk [.I,.B,.L,.N] [.l cs] λn b xs=>
 unI (A.sub U t9 1) λi1=>
 br (i1.blt n0) (IE c0 (0+i1*3) 3 λcs1=>
 dk [.I,.B,.L,.N] [.l cs1] λn1 b1 xs1=>
 Ad D (Ω 153) [Ξ [iv n,bv b,V xs],Ξ [iv n1,bv b1,V xs1]] [] [.i,.E] λn2=>
 br (A.lt n2 0)
 (unI (A.sub U t9 1) λi2=>
 br (i2.blt n0) (IE c0 (0+i2*3) 3 λcs2=>
 dk [.I,.B,.L,.N] [.l cs2] λn3 b2 xs2=>
 unI t9 λi3=>
 br (i3.blt n0) (IE c0 (0+i3*3) 3 λcs3=>
 dk [.I,.B,.L,.N] [.l cs3] λn4 b3 xs3=>
 unI t9 λi4=>
 br (i4.blt n0) (br ((0+i4*3+3).ble c0.length) (unI (A.sub U t9 1) λi5=>
 br (i5.blt n0) (br ((0+i5*3+3).ble (AZ c0 (0+i4*3) [iv n3,bv b2,V xs2]).length) (AE D (ι 242 1) [ζ 0 0 n0 3,iv t1,iv t2,ApE (Fn.func 153) [] [],iv t8,iv (A.sub U t9 1)] [Δ (AZ (AZ c0 (0+i4*3) [iv n3,bv b2,V xs2]) (0+i5*3) [iv n4,bv b3,V xs3]) true true] λr1 o1=>
 AD 1 [0] (AH.mk [(0,Δ (AZ (AZ c0 (0+i4*3) [iv n3,bv b2,V xs2]) (0+i5*3) [iv n4,bv b3,V xs3]) true true)] 1 none) [0] r1 o1) none) none) none) none) none) none)
 (some ((ψ [iv 2,ζ 0 0 n0 3,iv t1,iv t2,ApE (Fn.func 153) [] [],iv t8],[γ (Δ c0 true true)])))) none) none)
 (some ((ψ [iv 2,ζ 0 0 n0 3,iv t1,iv t2,ApE (Fn.func 153) [] [],iv t8],[γ (Δ c0 true true)]))):=by kernel_rfl
theorem R3(n0:Nat)(c0:List AV)(x1 x2 x3:Int):By A D Al CB .n 243 G5 [ζ 0 0 n0 3,iv x1,iv x2,iv x3,ApE (Fn.func 153) [] []] [{ cells:=c0,st:=true,ex:=true }] =
 br (A.eq (A.sub U x2 x1) 1)
 (Ad D (ι 243 0) [ζ 0 0 n0 3,iv x1,ApE (Fn.func 153) [] [],iv x2,iv x3] [Δ c0 true true] [.t,.C,.x,.X,.Y] λc l o=>
 br (A9 1 c)
 (dk [.C,.q 0 3,.I,.I,.N,.R,.X,.E] [.l l,.o o] λn n1 n2 cs1=>
 Ad D (ι 243 1) [ζ 0 0 n 3,iv n2,iv n1] [Δ cs1 true true] [.t,.C,.x,.X,.Y] λc3 l5 o1=>
 br (A9 3 c3)
 (dk [.C,.q 0 3,.N,.R,.X,.E] [.l l5,.o o1] λ_ cs3=>
 some ((ψ [],[γ (Δ cs3 true true)])))
 (none))
 (none))
 (br (A.eq (A.sub U x3 x2) 1)
 (Ad D (ι 243 2) [ζ 0 0 n0 3,iv x2,ApE (Fn.func 153) [] [],iv x1,iv x2] [Δ c0 true true] [.t,.C,.x,.X,.Y] λc l o=>
 br (A9 5 c)
 (dk [.C,.q 0 3,.I,.I,.N,.R,.X,.E] [.l l,.o o] λn n1 n2 cs1=>
 Ad D (ι 243 3) [ζ 0 0 n 3,iv n2,iv n1] [Δ cs1 true true] [.t,.C,.x,.X,.Y] λc3 l5 o1=>
 br (A9 7 c3)
 (dk [.C,.q 0 3,.N,.R,.X,.E] [.l l5,.o o1] λ_ cs3=>
 some ((ψ [],[γ (Δ cs3 true true)])))
 (none))
 (none))
 (br (A.lt 1 0)
 (none)
 (br (A.lt (A.conv U (A.shr Ψ (A.conv Ψ (A.add U x1 x3)) 1)) x2)
 (Ad D (ι 243 4) [ζ 0 0 n0 3,iv x1,iv x2,iv x3,ApE (Fn.func 153) [] [],iv (A.conv U (A.shr Ψ (A.conv Ψ (A.add U x1 x3)) 1)),iv (A.add U (A.conv U (A.shr Ψ (A.conv Ψ (A.add U x1 x3)) 1)) x2),iv (A.sub U (A.add U (A.conv U (A.shr Ψ (A.conv Ψ (A.add U x1 x3)) 1)) x2) x3),iv (A.conv U (A.shr Ψ (A.conv Ψ (A.add U x1 x3)) 1)),iv (A.sub U (A.add U (A.conv U (A.shr Ψ (A.conv Ψ (A.add U x1 x3)) 1)) x2) 1)] [Δ c0 true true] [.t,.C,.x,.X,.Y] λc l o=>
 br (A9 9 c)
 (dk [.C,.q 0 3,.I,.I,.I,.C,.f 153,.I,.I,.I,.N,.R,.X,.E] [.l l,.o o] λn n1 n2 n3 n4 n5 n6 cs1=>
 br (A.lt n6 n2)
 (br (A.lt n2 (A.sub U n5 n6))
 (Ad D (Ω 260) [ζ 0 0 n 3,iv n6,iv n2,iv (A.sub U n5 n6),ApE (Fn.func 153) [] []] [Δ cs1 true true] [.t,.N,.R,.X,.E] λcs3=>
 br (A.lt n1 n6)
 (br (A.lt n6 n4)
 (Ad D (Ω 243) [ζ 0 0 n 3,iv n1,iv n6,iv n4,ApE (Fn.func 153) [] []] [Δ cs3 true true] [.t,.N,.R,.X,.E] λcs5=>
 br (A.lt n4 (A.sub U n5 n6))
 (br (A.lt (A.sub U n5 n6) n3)
 (Ad D (Ω 243) [ζ 0 0 n 3,iv n4,iv (A.sub U n5 n6),iv n3,ApE (Fn.func 153) [] []] [Δ cs5 true true] [.t,.N,.R,.X,.E] λcs7=>
 some ((ψ [],[γ (Δ cs7 true true)])))
 (some ((ψ [],[γ (Δ cs5 true true)]))))
 (some ((ψ [],[γ (Δ cs5 true true)]))))
 (br (A.lt n4 (A.sub U n5 n6))
 (br (A.lt (A.sub U n5 n6) n3)
 (Ad D (Ω 243) [ζ 0 0 n 3,iv n4,iv (A.sub U n5 n6),iv n3,ApE (Fn.func 153) [] []] [Δ cs3 true true] [.t,.N,.R,.X,.E] λcs5=>
 some ((ψ [],[γ (Δ cs5 true true)])))
 (some ((ψ [],[γ (Δ cs3 true true)]))))
 (some ((ψ [],[γ (Δ cs3 true true)])))))
 (br (A.lt n4 (A.sub U n5 n6))
 (br (A.lt (A.sub U n5 n6) n3)
 (Ad D (Ω 243) [ζ 0 0 n 3,iv n4,iv (A.sub U n5 n6),iv n3,ApE (Fn.func 153) [] []] [Δ cs3 true true] [.t,.N,.R,.X,.E] λcs5=>
 some ((ψ [],[γ (Δ cs5 true true)])))
 (some ((ψ [],[γ (Δ cs3 true true)]))))
 (some ((ψ [],[γ (Δ cs3 true true)])))))
 (br (A.lt n1 n6)
 (br (A.lt n6 n4)
 (Ad D (Ω 243) [ζ 0 0 n 3,iv n1,iv n6,iv n4,ApE (Fn.func 153) [] []] [Δ cs1 true true] [.t,.N,.R,.X,.E] λcs3=>
 br (A.lt n4 (A.sub U n5 n6))
 (br (A.lt (A.sub U n5 n6) n3)
 (Ad D (Ω 243) [ζ 0 0 n 3,iv n4,iv (A.sub U n5 n6),iv n3,ApE (Fn.func 153) [] []] [Δ cs3 true true] [.t,.N,.R,.X,.E] λcs5=>
 some ((ψ [],[γ (Δ cs5 true true)])))
 (some ((ψ [],[γ (Δ cs3 true true)]))))
 (some ((ψ [],[γ (Δ cs3 true true)]))))
 (br (A.lt n4 (A.sub U n5 n6))
 (br (A.lt (A.sub U n5 n6) n3)
 (Ad D (Ω 243) [ζ 0 0 n 3,iv n4,iv (A.sub U n5 n6),iv n3,ApE (Fn.func 153) [] []] [Δ cs1 true true] [.t,.N,.R,.X,.E] λcs3=>
 some ((ψ [],[γ (Δ cs3 true true)])))
 (some ((ψ [],[γ (Δ cs1 true true)]))))
 (some ((ψ [],[γ (Δ cs1 true true)])))))
 (br (A.lt n4 (A.sub U n5 n6))
 (br (A.lt (A.sub U n5 n6) n3)
 (Ad D (Ω 243) [ζ 0 0 n 3,iv n4,iv (A.sub U n5 n6),iv n3,ApE (Fn.func 153) [] []] [Δ cs1 true true] [.t,.N,.R,.X,.E] λcs3=>
 some ((ψ [],[γ (Δ cs3 true true)])))
 (some ((ψ [],[γ (Δ cs1 true true)]))))
 (some ((ψ [],[γ (Δ cs1 true true)]))))))
 (br (A.lt n1 n6)
 (br (A.lt n6 n4)
 (Ad D (Ω 243) [ζ 0 0 n 3,iv n1,iv n6,iv n4,ApE (Fn.func 153) [] []] [Δ cs1 true true] [.t,.N,.R,.X,.E] λcs3=>
 br (A.lt n4 (A.sub U n5 n6))
 (br (A.lt (A.sub U n5 n6) n3)
 (Ad D (Ω 243) [ζ 0 0 n 3,iv n4,iv (A.sub U n5 n6),iv n3,ApE (Fn.func 153) [] []] [Δ cs3 true true] [.t,.N,.R,.X,.E] λcs5=>
 some ((ψ [],[γ (Δ cs5 true true)])))
 (some ((ψ [],[γ (Δ cs3 true true)]))))
 (some ((ψ [],[γ (Δ cs3 true true)]))))
 (br (A.lt n4 (A.sub U n5 n6))
 (br (A.lt (A.sub U n5 n6) n3)
 (Ad D (Ω 243) [ζ 0 0 n 3,iv n4,iv (A.sub U n5 n6),iv n3,ApE (Fn.func 153) [] []] [Δ cs1 true true] [.t,.N,.R,.X,.E] λcs3=>
 some ((ψ [],[γ (Δ cs3 true true)])))
 (some ((ψ [],[γ (Δ cs1 true true)]))))
 (some ((ψ [],[γ (Δ cs1 true true)])))))
 (br (A.lt n4 (A.sub U n5 n6))
 (br (A.lt (A.sub U n5 n6) n3)
 (Ad D (Ω 243) [ζ 0 0 n 3,iv n4,iv (A.sub U n5 n6),iv n3,ApE (Fn.func 153) [] []] [Δ cs1 true true] [.t,.N,.R,.X,.E] λcs3=>
 some ((ψ [],[γ (Δ cs3 true true)])))
 (some ((ψ [],[γ (Δ cs1 true true)]))))
 (some ((ψ [],[γ (Δ cs1 true true)]))))))
 (none))
 (Ad D (ι 243 4) [ζ 0 0 n0 3,iv x1,iv x2,iv x3,ApE (Fn.func 153) [] [],iv (A.conv U (A.shr Ψ (A.conv Ψ (A.add U x1 x3)) 1)),iv (A.add U (A.conv U (A.shr Ψ (A.conv Ψ (A.add U x1 x3)) 1)) x2),iv x1,iv x2,iv (A.sub U (A.add U (A.conv U (A.shr Ψ (A.conv Ψ (A.add U x1 x3)) 1)) x2) 1)] [Δ c0 true true] [.t,.C,.x,.X,.Y] λc l o=>
 br (A9 9 c)
 (dk [.C,.q 0 3,.I,.I,.I,.C,.f 153,.I,.I,.I,.N,.R,.X,.E] [.l l,.o o] λn n1 n2 n3 n4 n5 n6 cs1=>
 br (A.lt n6 n2)
 (br (A.lt n2 (A.sub U n5 n6))
 (Ad D (Ω 260) [ζ 0 0 n 3,iv n6,iv n2,iv (A.sub U n5 n6),ApE (Fn.func 153) [] []] [Δ cs1 true true] [.t,.N,.R,.X,.E] λcs3=>
 br (A.lt n1 n6)
 (br (A.lt n6 n4)
 (Ad D (Ω 243) [ζ 0 0 n 3,iv n1,iv n6,iv n4,ApE (Fn.func 153) [] []] [Δ cs3 true true] [.t,.N,.R,.X,.E] λcs5=>
 br (A.lt n4 (A.sub U n5 n6))
 (br (A.lt (A.sub U n5 n6) n3)
 (Ad D (Ω 243) [ζ 0 0 n 3,iv n4,iv (A.sub U n5 n6),iv n3,ApE (Fn.func 153) [] []] [Δ cs5 true true] [.t,.N,.R,.X,.E] λcs7=>
 some ((ψ [],[γ (Δ cs7 true true)])))
 (some ((ψ [],[γ (Δ cs5 true true)]))))
 (some ((ψ [],[γ (Δ cs5 true true)]))))
 (br (A.lt n4 (A.sub U n5 n6))
 (br (A.lt (A.sub U n5 n6) n3)
 (Ad D (Ω 243) [ζ 0 0 n 3,iv n4,iv (A.sub U n5 n6),iv n3,ApE (Fn.func 153) [] []] [Δ cs3 true true] [.t,.N,.R,.X,.E] λcs5=>
 some ((ψ [],[γ (Δ cs5 true true)])))
 (some ((ψ [],[γ (Δ cs3 true true)]))))
 (some ((ψ [],[γ (Δ cs3 true true)])))))
 (br (A.lt n4 (A.sub U n5 n6))
 (br (A.lt (A.sub U n5 n6) n3)
 (Ad D (Ω 243) [ζ 0 0 n 3,iv n4,iv (A.sub U n5 n6),iv n3,ApE (Fn.func 153) [] []] [Δ cs3 true true] [.t,.N,.R,.X,.E] λcs5=>
 some ((ψ [],[γ (Δ cs5 true true)])))
 (some ((ψ [],[γ (Δ cs3 true true)]))))
 (some ((ψ [],[γ (Δ cs3 true true)])))))
 (br (A.lt n1 n6)
 (br (A.lt n6 n4)
 (Ad D (Ω 243) [ζ 0 0 n 3,iv n1,iv n6,iv n4,ApE (Fn.func 153) [] []] [Δ cs1 true true] [.t,.N,.R,.X,.E] λcs3=>
 br (A.lt n4 (A.sub U n5 n6))
 (br (A.lt (A.sub U n5 n6) n3)
 (Ad D (Ω 243) [ζ 0 0 n 3,iv n4,iv (A.sub U n5 n6),iv n3,ApE (Fn.func 153) [] []] [Δ cs3 true true] [.t,.N,.R,.X,.E] λcs5=>
 some ((ψ [],[γ (Δ cs5 true true)])))
 (some ((ψ [],[γ (Δ cs3 true true)]))))
 (some ((ψ [],[γ (Δ cs3 true true)]))))
 (br (A.lt n4 (A.sub U n5 n6))
 (br (A.lt (A.sub U n5 n6) n3)
 (Ad D (Ω 243) [ζ 0 0 n 3,iv n4,iv (A.sub U n5 n6),iv n3,ApE (Fn.func 153) [] []] [Δ cs1 true true] [.t,.N,.R,.X,.E] λcs3=>
 some ((ψ [],[γ (Δ cs3 true true)])))
 (some ((ψ [],[γ (Δ cs1 true true)]))))
 (some ((ψ [],[γ (Δ cs1 true true)])))))
 (br (A.lt n4 (A.sub U n5 n6))
 (br (A.lt (A.sub U n5 n6) n3)
 (Ad D (Ω 243) [ζ 0 0 n 3,iv n4,iv (A.sub U n5 n6),iv n3,ApE (Fn.func 153) [] []] [Δ cs1 true true] [.t,.N,.R,.X,.E] λcs3=>
 some ((ψ [],[γ (Δ cs3 true true)])))
 (some ((ψ [],[γ (Δ cs1 true true)]))))
 (some ((ψ [],[γ (Δ cs1 true true)]))))))
 (br (A.lt n1 n6)
 (br (A.lt n6 n4)
 (Ad D (Ω 243) [ζ 0 0 n 3,iv n1,iv n6,iv n4,ApE (Fn.func 153) [] []] [Δ cs1 true true] [.t,.N,.R,.X,.E] λcs3=>
 br (A.lt n4 (A.sub U n5 n6))
 (br (A.lt (A.sub U n5 n6) n3)
 (Ad D (Ω 243) [ζ 0 0 n 3,iv n4,iv (A.sub U n5 n6),iv n3,ApE (Fn.func 153) [] []] [Δ cs3 true true] [.t,.N,.R,.X,.E] λcs5=>
 some ((ψ [],[γ (Δ cs5 true true)])))
 (some ((ψ [],[γ (Δ cs3 true true)]))))
 (some ((ψ [],[γ (Δ cs3 true true)]))))
 (br (A.lt n4 (A.sub U n5 n6))
 (br (A.lt (A.sub U n5 n6) n3)
 (Ad D (Ω 243) [ζ 0 0 n 3,iv n4,iv (A.sub U n5 n6),iv n3,ApE (Fn.func 153) [] []] [Δ cs1 true true] [.t,.N,.R,.X,.E] λcs3=>
 some ((ψ [],[γ (Δ cs3 true true)])))
 (some ((ψ [],[γ (Δ cs1 true true)]))))
 (some ((ψ [],[γ (Δ cs1 true true)])))))
 (br (A.lt n4 (A.sub U n5 n6))
 (br (A.lt (A.sub U n5 n6) n3)
 (Ad D (Ω 243) [ζ 0 0 n 3,iv n4,iv (A.sub U n5 n6),iv n3,ApE (Fn.func 153) [] []] [Δ cs1 true true] [.t,.N,.R,.X,.E] λcs3=>
 some ((ψ [],[γ (Δ cs3 true true)])))
 (some ((ψ [],[γ (Δ cs1 true true)]))))
 (some ((ψ [],[γ (Δ cs1 true true)]))))))
 (none))))):=by kernel_rfl
theorem Uv(n0:Nat)(c0:List AV)(t1 t10 t11:Int):Di A D Al CB .n 243 0 (AL G5 0).fst (AL G5 0).snd [ζ 0 0 n0 3,iv t1,ApE (Fn.func 153) [] [],iv t10,iv t11] [{ cells:=c0,st:=true,ex:=true }] =
 br (A.lt t10 t11)
 (br (A.lt 1 0)
 (none)
 (unI (A.conv U (A.shr Ψ (A.conv Ψ (A.add U t10 t11)) 1)) λi=>
 br (i.blt n0) (IE c0 (0+i*3) 3 λcs=>
 dk [.I,.B,.L,.N] [.l cs] λn b xs=>
 unI t1 λi1=>
 br (i1.blt n0) (IE c0 (0+i1*3) 3 λcs1=>
 dk [.I,.B,.L,.N] [.l cs1] λn1 b1 xs1=>
 Ad D (Ω 153) [Ξ [iv n,bv b,V xs],Ξ [iv n1,bv b1,V xs1]] [] [.i,.E] λn2=>
 br (A.lt n2 0)
 (AE D (ι 243 0) [ζ 0 0 n0 3,iv t1,ApE (Fn.func 153) [] [],iv (A.add U (A.conv U (A.shr Ψ (A.conv Ψ (A.add U t10 t11)) 1)) 1),iv t11] [Δ c0 true true] λr1 o1=>
 AD 1 [0] (AH.mk [(0,Δ c0 true true)] 1 none) [] r1 o1)
 (AE D (ι 243 0) [ζ 0 0 n0 3,iv t1,ApE (Fn.func 153) [] [],iv t10,iv (A.conv U (A.shr Ψ (A.conv Ψ (A.add U t10 t11)) 1))] [Δ c0 true true] λr1 o1=>
 AD 1 [0] (AH.mk [(0,Δ c0 true true)] 1 none) [] r1 o1)) none) none))
 (some ((ψ [iv 0,ζ 0 0 n0 3,iv t1,iv t10],[γ (Δ c0 true true)]))):=by kernel_rfl
theorem Aad(n0:Nat)(c0:List AV)(t10 t13:Int):Di A D Al CB .n 243 1 (AL G5 1).fst (AL G5 1).snd [ζ 0 0 n0 3,iv t10,iv t13] [{ cells:=c0,st:=true,ex:=true }] =
 br (A.lt t13 (A.sub U t10 1))
 (unI (A.add U t13 1) λi=>
 br (i.blt n0) (IE c0 (0+i*3) 3 λcs=>
 dk [.I,.B,.L,.N] [.l cs] λn b xs=>
 unI t13 λi1=>
 br (i1.blt n0) (IE c0 (0+i1*3) 3 λcs1=>
 dk [.I,.B,.L,.N] [.l cs1] λn1 b1 xs1=>
 unI t13 λi2=>
 br (i2.blt n0) (br ((0+i2*3+3).ble c0.length) (unI (A.add U t13 1) λi3=>
 br (i3.blt n0) (br ((0+i3*3+3).ble (AZ c0 (0+i2*3) [iv n,bv b,V xs]).length) (AE D (ι 243 1) [ζ 0 0 n0 3,iv t10,iv (A.add U t13 1)] [Δ (AZ (AZ c0 (0+i2*3) [iv n,bv b,V xs]) (0+i3*3) [iv n1,bv b1,V xs1]) true true] λr o=>
 AD 1 [0] (AH.mk [(0,Δ (AZ (AZ c0 (0+i2*3) [iv n,bv b,V xs]) (0+i3*3) [iv n1,bv b1,V xs1]) true true)] 1 none) [0] r o) none) none) none) none) none) none)
 (some ((ψ [iv 2,ζ 0 0 n0 3],[γ (Δ c0 true true)]))):=by kernel_rfl
theorem Uw(n0:Nat)(c0:List AV)(t2 t14 t15:Int):Di A D Al CB .n 243 2 (AL G5 2).fst (AL G5 2).snd [ζ 0 0 n0 3,iv t2,ApE (Fn.func 153) [] [],iv t14,iv t15] [{ cells:=c0,st:=true,ex:=true }] =
 br (A.lt t14 t15)
 (br (A.lt 1 0)
 (none)
 (unI t2 λi=>
 br (i.blt n0) (IE c0 (0+i*3) 3 λcs=>
 dk [.I,.B,.L,.N] [.l cs] λn b xs=>
 unI (A.conv U (A.shr Ψ (A.conv Ψ (A.add U t14 t15)) 1)) λi1=>
 br (i1.blt n0) (IE c0 (0+i1*3) 3 λcs1=>
 dk [.I,.B,.L,.N] [.l cs1] λn1 b1 xs1=>
 Ad D (Ω 153) [Ξ [iv n,bv b,V xs],Ξ [iv n1,bv b1,V xs1]] [] [.i,.E] λn2=>
 br (A.lt n2 0)
 (AE D (ι 243 2) [ζ 0 0 n0 3,iv t2,ApE (Fn.func 153) [] [],iv t14,iv (A.conv U (A.shr Ψ (A.conv Ψ (A.add U t14 t15)) 1))] [Δ c0 true true] λr1 o1=>
 AD 1 [0] (AH.mk [(0,Δ c0 true true)] 1 none) [] r1 o1)
 (AE D (ι 243 2) [ζ 0 0 n0 3,iv t2,ApE (Fn.func 153) [] [],iv (A.add U (A.conv U (A.shr Ψ (A.conv Ψ (A.add U t14 t15)) 1)) 1),iv t15] [Δ c0 true true] λr1 o1=>
 AD 1 [0] (AH.mk [(0,Δ c0 true true)] 1 none) [] r1 o1)) none) none))
 (some ((ψ [iv 4,ζ 0 0 n0 3,iv t2,iv t14],[γ (Δ c0 true true)]))):=by kernel_rfl
theorem Aae(n0:Nat)(c0:List AV)(t14 t17:Int):Di A D Al CB .n 243 3 (AL G5 3).fst (AL G5 3).snd [ζ 0 0 n0 3,iv t14,iv t17] [{ cells:=c0,st:=true,ex:=true }] =
 br (A.lt t14 t17)
 (unI (A.sub U t17 1) λi=>
 br (i.blt n0) (IE c0 (0+i*3) 3 λcs=>
 dk [.I,.B,.L,.N] [.l cs] λn b xs=>
 unI t17 λi1=>
 br (i1.blt n0) (IE c0 (0+i1*3) 3 λcs1=>
 dk [.I,.B,.L,.N] [.l cs1] λn1 b1 xs1=>
 unI t17 λi2=>
 br (i2.blt n0) (br ((0+i2*3+3).ble c0.length) (unI (A.sub U t17 1) λi3=>
 br (i3.blt n0) (br ((0+i3*3+3).ble (AZ c0 (0+i2*3) [iv n,bv b,V xs]).length) (AE D (ι 243 3) [ζ 0 0 n0 3,iv t14,iv (A.sub U t17 1)] [Δ (AZ (AZ c0 (0+i2*3) [iv n,bv b,V xs]) (0+i3*3) [iv n1,bv b1,V xs1]) true true] λr o=>
 AD 1 [0] (AH.mk [(0,Δ (AZ (AZ c0 (0+i2*3) [iv n,bv b,V xs]) (0+i3*3) [iv n1,bv b1,V xs1]) true true)] 1 none) [0] r o) none) none) none) none) none) none)
 (some ((ψ [iv 6,ζ 0 0 n0 3],[γ (Δ c0 true true)]))):=by kernel_rfl
theorem Ux(n0:Nat)(c0:List AV)(t1 t2 t3 t18 t19 t20 t21 t22:Int):Di A D Al CB .n 243 4 (AL G5 4).fst (AL G5 4).snd [ζ 0 0 n0 3,iv t1,iv t2,iv t3,ApE (Fn.func 153) [] [],iv t18,iv t19,iv t20,iv t21,iv t22] [{ cells:=c0,st:=true,ex:=true }] =
 br (A.lt t20 t21)
 (br (A.lt 1 0)
 (none)
 (unI (A.sub U t22 (A.conv U (A.shr Ψ (A.conv Ψ (A.add U t20 t21)) 1))) λi=>
 br (i.blt n0) (IE c0 (0+i*3) 3 λcs=>
 dk [.I,.B,.L,.N] [.l cs] λn b xs=>
 unI (A.conv U (A.shr Ψ (A.conv Ψ (A.add U t20 t21)) 1)) λi1=>
 br (i1.blt n0) (IE c0 (0+i1*3) 3 λcs1=>
 dk [.I,.B,.L,.N] [.l cs1] λn1 b1 xs1=>
 Ad D (Ω 153) [Ξ [iv n,bv b,V xs],Ξ [iv n1,bv b1,V xs1]] [] [.i,.E] λn2=>
 br (A.lt n2 0)
 (AE D (ι 243 4) [ζ 0 0 n0 3,iv t1,iv t2,iv t3,ApE (Fn.func 153) [] [],iv t18,iv t19,iv t20,iv (A.conv U (A.shr Ψ (A.conv Ψ (A.add U t20 t21)) 1)),iv t22] [Δ c0 true true] λr1 o1=>
 AD 1 [0] (AH.mk [(0,Δ c0 true true)] 1 none) [] r1 o1)
 (AE D (ι 243 4) [ζ 0 0 n0 3,iv t1,iv t2,iv t3,ApE (Fn.func 153) [] [],iv t18,iv t19,iv (A.add U (A.conv U (A.shr Ψ (A.conv Ψ (A.add U t20 t21)) 1)) 1),iv t21,iv t22] [Δ c0 true true] λr1 o1=>
 AD 1 [0] (AH.mk [(0,Δ c0 true true)] 1 none) [] r1 o1)) none) none))
 (some ((ψ [iv 8,ζ 0 0 n0 3,iv t1,iv t2,iv t3,ApE (Fn.func 153) [] [],iv t18,iv t19,iv t20],[γ (Δ c0 true true)]))):=by kernel_rfl
theorem Aod(n0:Nat)(c0:List AV)(x1 x2 x3:Int):By A D Al PF .n 260 Ws [ζ 0 0 n0 3,iv x1,iv x2,iv x3,ApE (Fn.func 153) [] []] [{ cells:=c0,st:=true,ex:=true }] =
 Ad D (ι 260 0) [ζ 0 0 n0 3,iv x2,ApE (Fn.func 153) [] [],iv (A.sub U x2 x1),iv (A.sub U x3 x2)] [Δ c0 true true] [.t,.C,.x,.X,.Y] λc l o=>
 br (A9 1 c)
 (dk [.C,.q 0 3,.I,.C,.f 153,.I,.N,.R,.X,.E] [.l l,.o o] λn n1 n2 cs1=>
 Ad D (Ω 273) [ζ 0 0 n 3,iv (A.sub U n1 n2),iv n1,iv n2,ApE (Fn.func 153) [] []] [Δ cs1 true true] [.t,.N,.R,.X,.E] λcs3=>
 some ((ψ [],[γ (Δ cs3 true true)])))
 (none):=by kernel_rfl
theorem Uy(n0:Nat)(c0:List AV)(t2 t10 t11:Int):Di A D Al PF .n 260 0 (AL Ws 0).fst (AL Ws 0).snd [ζ 0 0 n0 3,iv t2,ApE (Fn.func 153) [] [],iv t10,iv t11] [{ cells:=c0,st:=true,ex:=true }] =
 br (A.eq t10 t11)
 (some ((ψ [iv 0,ζ 0 0 n0 3,iv t2,ApE (Fn.func 153) [] [],iv t10],[γ (Δ c0 true true)])))
 (br (A.lt t11 t10)
 (Ad D (Ω 273) [ζ 0 0 n0 3,iv (A.sub U t2 t10),iv t2,iv t11,ApE (Fn.func 153) [] []] [Δ c0 true true] [.t,.N,.R,.X,.E] λcs1=>
 AE D (ι 260 0) [ζ 0 0 n0 3,iv t2,ApE (Fn.func 153) [] [],iv (A.sub U t10 t11),iv t11] [Δ cs1 true true] λr1 o1=>
 AD 1 [0] (AH.mk [(0,Δ cs1 true true)] 1 none) [0] r1 o1)
 (Ad D (Ω 273) [ζ 0 0 n0 3,iv (A.sub U t2 t10),iv (A.sub U (A.add U t2 t11) t10),iv t10,ApE (Fn.func 153) [] []] [Δ c0 true true] [.t,.N,.R,.X,.E] λcs1=>
 AE D (ι 260 0) [ζ 0 0 n0 3,iv t2,ApE (Fn.func 153) [] [],iv t10,iv (A.sub U t11 t10)] [Δ cs1 true true] λr1 o1=>
 AD 1 [0] (AH.mk [(0,Δ cs1 true true)] 1 none) [0] r1 o1)):=by kernel_rfl
theorem Aog(n0:Nat)(c0:List AV)(x1 x2 x3:Int):By A D Al SE .n 273 Wt [ζ 0 0 n0 3,iv x1,iv x2,iv x3,ApE (Fn.func 153) [] []] [{ cells:=c0,st:=true,ex:=true }] =
 Ad D (ι 273 0) [ζ 0 0 n0 3,iv x1,iv x2,iv x3,iv 0] [Δ c0 true true] [.t,.C,.x,.X,.Y] λc l o=>
 br (A9 1 c)
 (dk [.C,.q 0 3,.N,.R,.X,.E] [.l l,.o o] λ_ cs1=>
 some ((ψ [],[γ (Δ cs1 true true)])))
 (none):=by kernel_rfl
theorem Aaj(n0:Nat)(c0:List AV)(t1 t2 t3 t10:Int):Di A D Al SE .n 273 0 (AL Wt 0).fst (AL Wt 0).snd [ζ 0 0 n0 3,iv t1,iv t2,iv t3,iv t10] [{ cells:=c0,st:=true,ex:=true }] =
 br (A.lt t10 t3)
 (unI (A.add U t2 t10) λi=>
 br (i.blt n0) (IE c0 (0+i*3) 3 λcs=>
 dk [.I,.B,.L,.N] [.l cs] λn b xs=>
 unI (A.add U t1 t10) λi1=>
 br (i1.blt n0) (IE c0 (0+i1*3) 3 λcs1=>
 dk [.I,.B,.L,.N] [.l cs1] λn1 b1 xs1=>
 unI (A.add U t1 t10) λi2=>
 br (i2.blt n0) (br ((0+i2*3+3).ble c0.length) (unI (A.add U t2 t10) λi3=>
 br (i3.blt n0) (br ((0+i3*3+3).ble (AZ c0 (0+i2*3) [iv n,bv b,V xs]).length) (AE D (ι 273 0) [ζ 0 0 n0 3,iv t1,iv t2,iv t3,iv (A.add U t10 1)] [Δ (AZ (AZ c0 (0+i2*3) [iv n,bv b,V xs]) (0+i3*3) [iv n1,bv b1,V xs1]) true true] λr o=>
 AD 1 [0] (AH.mk [(0,Δ (AZ (AZ c0 (0+i2*3) [iv n,bv b,V xs]) (0+i3*3) [iv n1,bv b1,V xs1]) true true)] 1 none) [0] r o) none) none) none) none) none) none)
 (some ((ψ [iv 0,ζ 0 0 n0 3],[γ (Δ c0 true true)]))):=by kernel_rfl
theorem AkJ(n0:Nat)(c0:List AV):By A D Al NI .n 156 Wc [ζ 0 0 n0 3,ApE (Fn.func 157) [] []] [{ cells:=c0,st:=true,ex:=true }] =
 Ad D (Ω 208) [ζ 0 0 n0 3,ApE (Fn.func 157) [] []] [Δ c0 true true] [.i,.R,.X,.E] λn cs=>
 br (A.eq n (-1))
 (some ((ζ 0 0 n0 3,[γ (Δ cs true true)])))
 (Ad D (ι 156 0) [ζ 0 0 n0 3,ApE (Fn.func 157) [] [],iv n,iv (A.add U n 1)] [Δ cs true true] [.t,.C,.x,.X,.Y] λc1 l1 o1=>
 br (A9 1 c1)
 (dk [.C,.q 0 3,.I,.N,.R,.X,.E] [.l l1,.o o1] λn1 n2 cs2=>
 unI n2 λi=>
 br (J1 i n1 n1) (br ((0+i*3+(n1-i)*3).ble cs2.length) (unI n2 λi1=>
 br (J1 0 i1 n1) (some ((ζ 0 0 i1 3,[γ (Δ (AZ cs2 (0+i*3) (Cj [iv 0,bv false,ApB (Value.slice none 0 0)] ((n1-i)*3))) true true)]))) none) none) none)
 (none)):=by kernel_rfl
theorem Ur(n0:Nat)(c0:List AV)(t5 t6:Int):Di A D Al NI .n 156 0 (AL Wc 0).fst (AL Wc 0).snd [ζ 0 0 n0 3,ApE (Fn.func 157) [] [],iv t5,iv t6] [{ cells:=c0,st:=true,ex:=true }] =
 br (A.lt t6 ↑n0)
 (unI t6 λi=>
 br (i.blt n0) (IE c0 (0+i*3) 3 λcs=>
 dk [.I,.B,.L,.N] [.l cs] λn b xs=>
 Ad D (Ω 157) [Ξ [iv n,bv b,V xs]] [] [.b,.E] λb1=>
 br b1
 (AE D (ι 156 0) [ζ 0 0 n0 3,ApE (Fn.func 157) [] [],iv t5,iv (A.add U t6 1)] [Δ c0 true true] λr1 o1=>
 AD 1 [0] (AH.mk [(1,bk [iv n,bv b,V xs]),(0,Δ c0 true true)] 2 none) [] r1 o1)
 (unI t5 λi1=>
 br (i1.blt n0) (br ((0+i1*3+3).ble c0.length) (AE D (ι 156 0) [ζ 0 0 n0 3,ApE (Fn.func 157) [] [],iv (A.add U t5 1),iv (A.add U t6 1)] [Δ (AZ c0 (0+i1*3) [iv n,bv b,V xs]) true true] λr1 o1=>
 AD 1 [0] (AH.mk [(0,Δ (AZ c0 (0+i1*3) [iv n,bv b,V xs]) true true),(1,bk [iv n,bv b,V xs])] 2 none) [0] r1 o1) none) none)) none)
 (some ((ψ [iv 0,ζ 0 0 n0 3,iv t5],[γ (Δ c0 true true)]))):=by kernel_rfl
theorem AnT(n0:Nat)(c0:List AV):By A D Al NK .n 208 Wl [ζ 0 0 n0 3,ApE (Fn.func 157) [] []] [{ cells:=c0,st:=true,ex:=true }] =
 Ad D (ι 208 0) [ζ 0 0 n0 3,ApE (Fn.func 157) [] [],iv ↑n0,iv 0] [Δ c0 true true] [.t,.C,.x,.X,.Y] λc l o=>
 br (A9 0 c)
 (dk [.C,.q 0 3,.I,.N,.R,.X,.E] [.l l,.o o] λ_ n1 cs1=>
 some ((iv n1,[γ (Δ cs1 true true)])))
 (br (A9 1 c)
 (dk [.C,.q 0 3,.N,.R,.X,.E] [.l l,.o o] λ_ cs1=>
 some ((iv (-1),[γ (Δ cs1 true true)])))
 (none)):=by kernel_rfl
theorem QW(n0:Nat)(c0:List AV)(t7 t8:Int):Di A D Al NK .n 208 0 (AL Wl 0).fst (AL Wl 0).snd [ζ 0 0 n0 3,ApE (Fn.func 157) [] [],iv t7,iv t8] [{ cells:=c0,st:=true,ex:=true }] =
 br (A.lt t8 t7)
 (unI t8 λi=>
 br (i.blt n0) (IE c0 (0+i*3) 3 λcs=>
 dk [.I,.B,.L,.N] [.l cs] λn b xs=>
 Ad D (Ω 157) [Ξ [iv n,bv b,V xs]] [] [.b,.E] λb1=>
 br b1
 (some ((ψ [bv true,ζ 0 0 n0 3,iv t8],[γ (Δ c0 true true)])))
 (AE D (ι 208 0) [ζ 0 0 n0 3,ApE (Fn.func 157) [] [],iv t7,iv (A.add U t8 1)] [Δ c0 true true] λr1 o1=>
 AD 1 [0] (AH.mk [(0,Δ c0 true true)] 1 none) [] r1 o1)) none)
 (some ((ψ [iv 0,ζ 0 0 n0 3],[γ (Δ c0 true true)]))):=by kernel_rfl
end
section
open Go.RowKit
def AhP:MFn:=Bm [] 155
def AgL:Hnt:=⟨[(145,(.agg [.bool,.ls],[]))],[],[(4,[.bool]),(6,[.ls])]⟩
def AoO:A3:=[⟨74,[false,false,true,false,true,false,false,false,false,false,false,false,false,false,false,false,false,true,true,true],[(1000004,3)],[2,17],[(1,([false,false,true,false,true],([],[])))]⟩]
def AeC:MFn:=Bm AoO 89
def AaX:Hnt:=⟨[(87,(.agg [.bool,.ls],[])),(151,(.sl 0 3,[.row true])),(152,(.tup [],[.row true])),(155,(.agg [.bool,.ls],[])),(156,(.sl 0 3,[.row true]))],[(0,[(1,([.ptr 0 0,.ptr 1 0],[.box [.ls,.bool,.ls],.box [.sl 3 3,.bool,.ls],.del,.row true]))])],[(9,[.ls]),(14,[.bool,.ls]),(21,[.int .i64,.bool,.ls]),(22,[.int .i64,.bool,.ls]),(24,[.int .i64]),(27,[.ls]),(34,[.ls]),(36,[.int .i64,.bool,.ls]),(38,[.int .i64]),(40,[.int .i64]),(44,[.ls]),(47,[.ls]),(49,[.int .i64,.bool,.ls]),(51,[.bool,.ls]),(53,[.bool,.ls]),(55,[.int .i64,.bool,.ls]),(58,[.ls]),(60,[.int .i64]),(62,[.bool,.ls]),(70,[.ls]),(73,[.ls,.bool,.ls])]⟩
def I7:List (Nat × MFn):=[(155,AhP),(89,AeC)]
variable (A:Ar) (D:Orc)
theorem Anr(x0_0:Bool)(x0_1:Rw):By A D Al AgL .n 155 AhP [Ξ [bv x0_0,V x0_1]] [] =
 Ad D (Ω 145) [bv x0_0,V x0_1] [] [.a,.B,.L,.N,.E] λb xs=>
 some ((Ξ [bv b,V xs],[])):=by kernel_rfl
theorem e89(x0_0:Rw)(x0_1:Bool)(x0_2:Rw):By A D Al AaX .n 89 AeC [Ξ [V x0_0,bv x0_1,V x0_2]] [] =
 Ad D (Ω 151) [V x0_0] [] [.q 0 3,.R,.X,.E] λn cs=>
 Ad D (Ω 152) [ζ 0 0 n 3,ApE (Fn.func 153) [] []] [Δ cs true true] [.t,.N,.R,.X,.E] λcs2=>
 Ad D (Ω 155) [Ξ [bv x0_1,V x0_2]] [] [.a,.B,.L,.N,.E] λb xs=>
 br ((0+n*3).ble cs2.length) (AE D (ι 89 0) [η 0 0,η 1 0,V (Bp n 3 (ο (n*3) cs2)),iv ↑n,iv 0] [bk [V [],bv false,V []],bk [ζ 2 0 0 3,bv b,V xs],Δ [] true true] λr3 o3=>
 dk [.t,.C,.x,.X] [.v r3] λc2 l4=>
 br (A9 1 c2)
 (dk [.P 0 0,.P 1 0,.N,.T,.L,.B,.L,.N,.T,.C,.q 3 3,.B,.L,.N,.D,.R,.X,.E] [.l l4,.o o3] λ_ _ _ n1 b2 xs3 cs7=>
 Ad D (Ω 156) [ζ 0 0 n1 3,ApE (Fn.func 157) [] []] [Δ cs7 true true] [.q 0 3,.R,.X,.E] λn2 cs8=>
 br ((0+n2*3).ble cs8.length) (some ((Ξ [V (Bp n2 3 (ο (n2*3) cs8)),bv b2,V xs3],[]))) none)
 (none)) none:=by kernel_rfl
theorem Agi(r0:Rw)(r1:Bool)(r2:Rw)(n4:Nat)(k1:Bool)(k2:Rw)(c4:List AV)(t17:Rw)(t18 t19:Int):Di A D Al AaX .n 89 0 (AL AeC 0).fst (AL AeC 0).snd [η 0 0,η 1 0,V t17,iv t18,iv t19] [bk [V r0,bv r1,V r2],bk [ζ 2 0 n4 3,bv k1,V k2],{ cells:=c4,st:=true,ex:=true }] =
 br (A.lt t19 t18)
 (unI t19 λi=>
 Bh t17 i λcs=>
 dk [.I,.B,.L,.N] [.l cs] λn b xs=>
 br (A.lt n 0)
 (AE D (ι 89 0) [η 0 0,η 1 0,V t17,iv t18,iv (A.add U t19 1)] [bk [V r0,bv r1,V r2],bk [ζ 2 0 n4 3,bv k1,V k2],Δ c4 true true] λr o=>
 AD 3 [0,1,2] (AH.mk [(0,bk [V r0,bv r1,V r2]),(3,bk [iv n,bv b,V xs]),(1,bk [ζ 2 0 n4 3,bv k1,V k2]),(2,Δ c4 true true)] 4 none) [0] r o)
 (br (A.le 0 (A.sub U (↑n4) 1))
 (unI (A.sub U (↑n4) 1) λi1=>
 br (i1.blt n4) (IE c4 (0+i1*3+0) 1 λcs1=>
 dk [.I,.N] [.l cs1] λn1=>
 br (A.eq n1 n)
 (unI (A.sub U (↑n4) 1) λi2=>
 br (i2.blt n4) (IE c4 (0+i2*3+1) 2 λcs2=>
 dk [.B,.L,.N] [.l cs2] λb1 xs1=>
 Ad D (Ω 87) [Ξ [bv b1,V xs1],Ξ [bv b,V xs]] [] [.a,.B,.L,.N,.E] λb2 xs2=>
 unI (A.sub U (↑n4) 1) λi3=>
 br (i3.blt n4) (br ((0+i3*3+1+2).ble c4.length) (AE D (ι 89 0) [η 0 0,η 1 0,V t17,iv t18,iv (A.add U t19 1)] [bk [V r0,bv r1,V r2],bk [ζ 2 0 n4 3,bv k1,V k2],Δ (AZ c4 (0+i3*3+1) [bv b2,V xs2]) true true] λr3 o1=>
 AD 3 [0,1,2] (AH.mk [(0,bk [V r0,bv r1,V r2]),(2,Δ (AZ c4 (0+i3*3+1) [bv b2,V xs2]) true true),(3,bk [iv n,bv b,V xs]),(1,bk [ζ 2 0 n4 3,bv k1,V k2])] 4 none) [2,0] r3 o1) none) none) none)
 (Ad D (Ω 155) [Ξ [bv b,V xs]] [] [.a,.B,.L,.N,.E] λb1 xs1=>
 br (Bf (n4+1) 40) (br ((0+n4*3).ble c4.length) (AE D (ι 89 0) [η 0 0,η 1 0,V t17,iv t18,iv (A.add U t19 1)] [bk [V r0,bv r1,V r2],bk [ζ 2 0 (n4+1) 3,bv k1,V k2],Δ (Apx 0 (ο (0+n4*3) c4)++[iv n,bv b1,V xs1]) true true] λr3 o1=>
 AD 3 [0,1,5] (AH.mk [(0,bk [V r0,bv r1,V r2]),(1,bk [ζ 5 0 (n4+1) 3,bv k1,V k2]),(5,Δ (Apx 0 (ο (0+n4*3) c4)++[iv n,bv b1,V xs1]) true true),(4,Δ [iv n,bv b1,V xs1] true true),(3,bk [iv n,bv b,V xs])] 6 none) [2,1,0] r3 o1) none) none)) none)
 (Ad D (Ω 155) [Ξ [bv b,V xs]] [] [.a,.B,.L,.N,.E] λb1 xs1=>
 br (Bf (n4+1) 40) (br ((0+n4*3).ble c4.length) (AE D (ι 89 0) [η 0 0,η 1 0,V t17,iv t18,iv (A.add U t19 1)] [bk [V r0,bv r1,V r2],bk [ζ 2 0 (n4+1) 3,bv k1,V k2],Δ (Apx 0 (ο (0+n4*3) c4)++[iv n,bv b1,V xs1]) true true] λr3 o1=>
 AD 3 [0,1,5] (AH.mk [(0,bk [V r0,bv r1,V r2]),(1,bk [ζ 5 0 (n4+1) 3,bv k1,V k2]),(5,Δ (Apx 0 (ο (0+n4*3) c4)++[iv n,bv b1,V xs1]) true true),(4,Δ [iv n,bv b1,V xs1] true true),(3,bk [iv n,bv b,V xs])] 6 none) [2,1,0] r3 o1) none) none)))
 (some ((ψ [iv 0,η 0 0,η 1 0],[γ (bk [V r0,bv r1,V r2]),γ (bk [ζ 3 0 n4 3,bv k1,V k2]),BO.del,γ (Δ c4 true true)]))):=by kernel_rfl
end
section
open Go.RowKit
def AlF:A3:=[⟨36,[true,false,false,true,false,false,false,false,false,true,true,true],[],[],[(1,([true,false,false,true],([],[])))]⟩,⟨36,[false,false,false,false,false,false,true,false,false,false,false,false,false,false,false,false,false,false,false,false,false,false,false,false,false,true,true,true],[(6,3)],[],[(3,([false,false,false,false,false,false,true],([],[])))]⟩]
def PR:MFn:=Bm AlF 250
def LY:Hnt:=⟨[(263,(.sl 0 3,[.row true]))],[(0,[(1,([.ls,.int .i64],[]))]),(1,[(3,([.sl 1 3],[.del,.row true]))])],[(13,[.ls]),(14,[.ls]),(29,[.ls]),(30,[.ls])]⟩
def AhS:MFn:=Bm [] 170
def AgO:Hnt:=⟨[(155,(.agg [.bool,.ls],[]))],[],[(3,[.bool,.ls])]⟩
def Ah9:MFn:=Bm [] 223
def Ag4:Hnt:=⟨[(87,(.agg [.bool,.ls],[])),(89,(.agg [.ls,.bool,.ls],[])),(250,(.ls,[]))],[],[(6,[.ls]),(8,[.ls]),(12,[.bool,.ls]),(14,[.bool,.ls])]⟩
def Aia:MFn:=Bm [] 224
def Ag5:Hnt:=⟨[(84,(.agg [.bool,.ls],[])),(251,(.agg [.ls,.bool,.ls],[]))],[],[(3,[.ls,.bool,.ls])]⟩
def AlG:A3:=[⟨35,[false,false,false,true,true,true,false,false,false,false,false,false,false,false,true,true,true],[(1000005,3)],[3,4],[(1,([false,false,false,false,true,true],([],[3])))]⟩]
def Wp:MFn:=Bm AlG 251
def SC:Hnt:=⟨[(89,(.agg [.ls,.bool,.ls],[])),(264,(.agg [.bool,.ls],[]))],[(0,[(1,([.ptr 1 0,.ptr 2 0],[.del,.box [.ls,.bool,.ls],.box [.sl 4 3,.bool,.ls],.del,.row true]))])],[(9,[.bool,.ls]),(10,[.bool,.ls]),(14,[.ls]),(18,[.int .i64,.bool,.ls]),(19,[.int .i64,.bool,.ls]),(21,[.ls]),(23,[.int .i64]),(25,[.bool,.ls]),(26,[.bool,.ls]),(33,[.ls,.bool,.ls])]⟩
def AhV:MFn:=Bm [] 173
def AgR:Hnt:=⟨[(223,(.agg [.ls,.bool,.ls],[])),(224,(.agg [.ls,.bool,.ls],[]))],[],[(5,[.ls,.bool,.ls]),(6,[.ls,.bool,.ls])]⟩
def AhU:MFn:=Bm [] 172
def AgQ:Hnt:=⟨[(89,(.agg [.ls,.bool,.ls],[]))],[],[(3,[.ls,.bool,.ls])]⟩
def AhW:MFn:=Bm [] 174
def AgS:Hnt:=⟨[(89,(.agg [.ls,.bool,.ls],[]))],[],[(3,[.ls,.bool,.ls])]⟩
def Mm:List (Nat × MFn):=[(250,PR),(170,AhS),(223,Ah9),(224,Aia),(251,Wp),(173,AhV),(172,AhU),(174,AhW)]
variable (A:Ar) (D:Orc)
theorem An8(x0:Rw):By A D Al LY .n 250 PR [V x0] [] =
 Ad D (ι 250 0) [V x0,iv 0,V x0,iv ↑(AQ x0),iv 0] [] [.t,.C,.x,.X,.Y] λc l o=>
 br (A9 1 c)
 (dk [.L,.I,.N,.E] [.l l,.o o] λxs n=>
 Ad D (Ω 263) [ApB (Value.slice none 0 0),iv n] [] [.q 0 3,.R,.X,.E] λn1 cs1=>
 Ad D (ι 250 1) [ζ 0 0 n1 3,V xs,iv ↑(AQ xs),iv 0] [Δ cs1 true true] [.t,.C,.x,.X,.Y] λc2 l4 o2=>
 br (A9 3 c2)
 (dk [.C,.q 1 3,.N,.D,.R,.X,.E] [.l l4,.o o2] λn2 cs3=>
 br ((0+n2*3).ble cs3.length) (some ((V (Bp n2 3 (ο (n2*3) cs3)),[]))) none)
 (none))
 (none):=by kernel_rfl
theorem Aaf(t0:Rw)(t3:Int)(t9:Rw)(t10 t11:Int):Di A D Al LY .n 250 0 (AL PR 0).fst (AL PR 0).snd [V t0,iv t3,V t9,iv t10,iv t11] [] =
 br (A.lt t11 t10)
 (unI t11 λi=>
 Bh t9 i λcs=>
 dk [.L,.N] [.l cs] λxs=>
 br (A.lt (A.add U t3 ↑(AQ xs)) 0)
 (none)
 (AE D (ι 250 0) [V t0,iv (A.add U t3 ↑(AQ xs)),V t9,iv t10,iv (A.add U t11 1)] [] λr o=>
 AD 0 [] (AH.mk [] 0 none) [] r o))
 (some ((ψ [iv 0,V t0,iv t3],[]))):=by kernel_rfl
theorem Aag(n6:Nat)(c6:List AV)(t25:Rw)(t26 t27:Int):Di A D Al LY .n 250 1 (AL PR 1).fst (AL PR 1).snd [ζ 0 0 n6 3,V t25,iv t26,iv t27] [{ cells:=c6,st:=true,ex:=true }] =
 br (A.lt t27 t26)
 (unI t27 λi=>
 Bh t25 i λcs=>
 dk [.L,.N] [.l cs] λxs=>
 br (Gp 3 xs) (br ((AQ xs).beq 0)
 (AE D (ι 250 1) [ζ 0 0 n6 3,V t25,iv t26,iv (A.add U t27 1)] [Δ c6 true true] λr o=>
 AD 1 [0] (AH.mk [(0,Δ c6 true true)] 1 none) [] r o)
 (br (J9 (IP xs)) (br (Bf (n6+AQ xs) 40) (br ((0+n6*3).ble c6.length) (AE D (ι 250 1) [ζ 0 0 (n6+AQ xs) 3,V t25,iv t26,iv (A.add U t27 1)] [Δ (Apx 0 (ο (0+n6*3) c6)++IP xs) true true] λr o=>
 AD 1 [1] (AH.mk [(1,Δ (Apx 0 (ο (0+n6*3) c6)++IP xs) true true)] 2 none) [0] r o) none) none) none)) none)
 (some ((ψ [iv 2,ζ 1 0 n6 3],[BO.del,γ (Δ c6 true true)]))):=by kernel_rfl
theorem Anu(x0_0:Bool)(x0_1:Rw):By A D Al AgO .n 170 AhS [Ξ [bv x0_0,V x0_1]] [] =
 Ad D (Ω 155) [Ξ [bv x0_0,V x0_1]] [] [.a,.B,.L,.N,.E] λb xs=>
 some ((Ξ [V [],bv b,V xs],[])):=by kernel_rfl
theorem AnX(x0_0:Rw)(x0_1:Bool)(x0_2 x1_0:Rw)(x1_1:Bool)(x1_2:Rw):By A D Al Ag4 .n 223 Ah9 [Ξ [V x0_0,bv x0_1,V x0_2],Ξ [V x1_0,bv x1_1,V x1_2]] [] =
 Ad D (Ω 250) [V [[V x0_0],[V x1_0]]] [] [.l,.E] λxs=>
 Ad D (Ω 87) [Ξ [bv x0_1,V x0_2],Ξ [bv x1_1,V x1_2]] [] [.a,.B,.L,.N,.E] λb xs1=>
 Ad D (Ω 89) [Ξ [V xs,bv b,V xs1]] [] [.a,.L,.B,.L,.N,.E] λxs2 b1 xs3=>
 some ((Ξ [V xs2,bv b1,V xs3],[])):=by kernel_rfl
theorem AnY(x0_0:Rw)(x0_1:Bool)(x0_2:Rw):By A D Al Ag5 .n 224 Aia [Ξ [V x0_0,bv x0_1,V x0_2]] [] =
 Ad D (Ω 84) [iv (-1)] [] [.a,.B,.L,.N,.E] λb xs=>
 Ad D (Ω 251) [Ξ [V x0_0,bv x0_1,V x0_2],Ξ [bv b,V xs]] [] [.a,.L,.B,.L,.N,.E] λxs1 b1 xs2=>
 some ((Ξ [V xs1,bv b1,V xs2],[])):=by kernel_rfl
theorem An9(x0_0:Rw)(x0_1:Bool)(x0_2:Rw)(x1_0:Bool)(x1_1:Rw):By A D Al SC .n 251 Wp [Ξ [V x0_0,bv x0_1,V x0_2],Ξ [bv x1_0,V x1_1]] [] =
 Ad D (Ω 264) [Ξ [bv x0_1,V x0_2],Ξ [bv x1_0,V x1_1]] [] [.a,.B,.L,.N,.E] λb xs=>
 Ad D (ι 251 0) [η 0 0,η 1 0,η 2 0,V x0_0,iv ↑(AQ x0_0),iv 0] [bk [bv x1_0,V x1_1],bk [V [],bv false,V []],bk [ζ 3 0 0 3,bv b,V xs],Δ [] true true] [.t,.C,.x,.X,.Y] λc l2 o1=>
 br (A9 1 c)
 (dk [.P 1 0,.P 2 0,.N,.D,.T,.L,.B,.L,.N,.T,.C,.q 4 3,.B,.L,.N,.D,.R,.X,.E] [.l l2,.o o1] λ_ _ _ n b2 xs3 cs4=>
 br ((0+n*3).ble cs4.length) (AE D (Ω 89) [Ξ [V (Bp n 3 (ο (n*3) cs4)),bv b2,V xs3]] [] λr2 o2=>
 dk [.a,.L,.B,.L,.N,.E] [.v r2,.o o2] λxs4 b3 xs5=>
 some ((Ξ [V xs4,bv b3,V xs5],[]))) none)
 (none):=by kernel_rfl
theorem Aah(i0:Bool)(i1 r0:Rw)(r1:Bool)(r2:Rw)(n5:Nat)(k1:Bool)(k2:Rw)(c5:List AV)(t14:Rw)(t15 t16:Int):Di A D Al SC .n 251 0 (AL Wp 0).fst (AL Wp 0).snd [η 0 0,η 1 0,η 2 0,V t14,iv t15,iv t16] [bk [bv i0,V i1],bk [V r0,bv r1,V r2],bk [ζ 3 0 n5 3,bv k1,V k2],{ cells:=c5,st:=true,ex:=true }] =
 br (A.lt t16 t15)
 (unI t16 λi=>
 Bh t14 i λcs=>
 dk [.I,.B,.L,.N] [.l cs] λn b xs=>
 Ad D (Ω 264) [Ξ [bv b,V xs],Ξ [bv i0,V i1]] [] [.a,.B,.L,.N,.E] λb1 xs1=>
 br (Bf (n5+1) 40) (br ((0+n5*3).ble c5.length) (AE D (ι 251 0) [η 0 0,η 1 0,η 2 0,V t14,iv t15,iv (A.add U t16 1)] [bk [bv i0,V i1],bk [V r0,bv r1,V r2],bk [ζ 3 0 (n5+1) 3,bv k1,V k2],Δ (Apx 0 (ο (0+n5*3) c5)++[iv n,bv b1,V xs1]) true true] λr3 o1=>
 AD 4 [0,1,2,6] (AH.mk [(1,bk [V r0,bv r1,V r2]),(0,bk [bv i0,V i1]),(2,bk [ζ 6 0 (n5+1) 3,bv k1,V k2]),(6,Δ (Apx 0 (ο (0+n5*3) c5)++[iv n,bv b1,V xs1]) true true),(5,Δ [iv n,bv b1,V xs1] true true),(4,bk [iv n,bv b,V xs])] 7 none) [3,2,0,1] r3 o1) none) none)
 (some ((ψ [iv 0,η 1 0,η 2 0],[BO.del,γ (bk [V r0,bv r1,V r2]),γ (bk [ζ 4 0 n5 3,bv k1,V k2]),BO.del,γ (Δ c5 true true)]))):=by kernel_rfl
theorem Anx(x0_0:Rw)(x0_1:Bool)(x0_2 x1_0:Rw)(x1_1:Bool)(x1_2:Rw):By A D Al AgR .n 173 AhV [Ξ [V x0_0,bv x0_1,V x0_2],Ξ [V x1_0,bv x1_1,V x1_2]] [] =
 Ad D (Ω 224) [Ξ [V x1_0,bv x1_1,V x1_2]] [] [.a,.L,.B,.L,.N,.E] λxs b xs1=>
 Ad D (Ω 223) [Ξ [V x0_0,bv x0_1,V x0_2],Ξ [V xs,bv b,V xs1]] [] [.a,.L,.B,.L,.N,.E] λxs2 b1 xs3=>
 some ((Ξ [V xs2,bv b1,V xs3],[])):=by kernel_rfl
theorem Anw(x0_0:Rw)(x0_1:Bool)(x0_2:Rw):By A D Al AgQ .n 172 AhU [Ξ [V x0_0,bv x0_1,V x0_2]] [] =
 Ad D (Ω 89) [Ξ [V x0_0,bv x0_1,V x0_2]] [] [.a,.L,.B,.L,.N,.E] λxs b xs1=>
 some ((Ξ [V xs,bv b,V xs1,bv true],[])):=by kernel_rfl
theorem Anz(x0_0:Rw)(x0_1:Bool)(x0_2:Rw):By A D Al AgS .n 174 AhW [Ξ [V x0_0,bv x0_1,V x0_2]] [] =
 Ad D (Ω 89) [Ξ [V x0_0,bv x0_1,V x0_2]] [] [.a,.L,.B,.L,.N,.E] λxs b xs1=>
 some ((Ξ [V xs,bv b,V xs1,bv false],[])):=by kernel_rfl
end
section
open Go.RowKit
def Ah8:MFn:=Bm [] 222
def Ag3:Hnt:=⟨[(89,(.agg [.ls,.bool,.ls],[]))],[],[(4,[.ls,.bool,.ls]),(7,[.bool])]⟩
def AhT:MFn:=Bm [] 171
def AgP:Hnt:=⟨[(222,(.agg [.ls,.bool,.ls,.bool],[]))],[],[(3,[.ls,.bool,.ls,.bool])]⟩
def Aml:MFn:=Bm [] 64
def Ak9:Hnt:=⟨[],[],[]⟩
def Aib:MFn:=Bm [] 225
def Ag6:Hnt:=⟨[],[],[(4,[.int .i64]),(9,[.ls]),(13,[.ls]),(15,[.ls])]⟩
def AhX:MFn:=Bm [] 175
def AgT:Hnt:=⟨[(64,(.agg [.int .i64,.ls,.bool,.ls,.bool,.ls],[])),(171,(.agg [.int .i64,.ls,.bool,.ls,.bool,.ls],[])),(176,(.ls,[])),(225,(.ls,[]))],[],[(4,[.int .i64]),(11,[.ls,.bool,.ls,.bool]),(18,[.int .i64]),(19,[.int .i64,.ls,.bool,.ls,.bool,.ls])]⟩
def Aln:A3:=[⟨19,[false,false,false,true,false,false,true,true,true],[(3,6)],[],[(1,([false,false,false,true],([],[])))]⟩]
def Wd:MFn:=Bm Aln 176
def Sr:Hnt:=⟨[(175,(.agg [.int .i64,.ls,.bool,.ls,.bool,.ls],[]))],[(0,[(1,([.sl 1 6],[.del,.row true]))])],[(10,[.int .i64,.ls,.bool,.ls,.bool,.ls]),(11,[.int .i64,.ls,.bool,.ls,.bool,.ls]),(13,[.int .i64,.ls,.bool,.ls,.bool,.ls])]⟩
def Ahw:MFn:=Bm [] 113
def Agt:Hnt:=⟨[(175,(.agg [.int .i64,.ls,.bool,.ls,.bool,.ls],[]))],[],[(3,[.int .i64,.ls,.bool,.ls,.bool,.ls])]⟩
def Ahx:MFn:=Bm [] 114
def Agu:Hnt:=⟨[(176,(.ls,[]))],[],[]⟩
def Ahy:MFn:=Bm [] 115
def Agv:Hnt:=⟨[(176,(.ls,[]))],[],[]⟩
def Ahv:MFn:=Bm [] 112
def LV:Hnt:=⟨[(64,(.agg [.int .i64,.ls,.bool,.ls,.bool,.ls],[])),(84,(.agg [.bool,.ls],[])),(112,(.agg [.int .i64,.ls,.bool,.ls,.bool,.ls],[])),(113,(.agg [.int .i64,.ls,.bool,.ls,.bool,.ls],[])),(170,(.agg [.ls,.bool,.ls],[])),(171,(.agg [.int .i64,.ls,.bool,.ls,.bool,.ls],[])),(172,(.agg [.ls,.bool,.ls,.bool],[])),(173,(.agg [.ls,.bool,.ls],[])),(174,(.agg [.ls,.bool,.ls,.bool],[]))],[],[(13,[.ls,.bool,.ls]),(14,[.ls,.bool,.ls]),(20,[.ls,.bool,.ls]),(21,[.ls,.bool,.ls]),(26,[.ls,.bool,.ls]),(27,[.ls,.bool,.ls]),(29,[.ls,.bool,.ls]),(35,[.ls,.bool,.ls]),(36,[.ls,.bool,.ls]),(42,[.ls,.bool,.ls]),(43,[.ls,.bool,.ls]),(47,[.ls,.bool,.ls]),(48,[.ls,.bool,.ls])]⟩
def Mk:List (Nat × MFn):=[(222,Ah8),(171,AhT),(64,Aml),(225,Aib),(175,AhX),(176,Wd),(113,Ahw),(114,Ahx),(115,Ahy),(112,Ahv)]
variable (A:Ar) (D:Orc)
theorem AnW(x0_0:Rw)(x0_1:Bool)(x0_2:Rw)(x0_3:Bool):By A D Al Ag3 .n 222 Ah8 [Ξ [V x0_0,bv x0_1,V x0_2,bv x0_3]] [] =
 Ad D (Ω 89) [Ξ [V x0_0,bv x0_1,V x0_2]] [] [.a,.L,.B,.L,.N,.E] λxs b xs1=>
 some ((Ξ [V xs,bv b,V xs1,bv x0_3],[])):=by kernel_rfl
theorem Anv(x0_0:Rw)(x0_1:Bool)(x0_2:Rw)(x0_3:Bool):By A D Al AgP .n 171 AhT [Ξ [V x0_0,bv x0_1,V x0_2,bv x0_3]] [] =
 Ad D (Ω 222) [Ξ [V x0_0,bv x0_1,V x0_2,bv x0_3]] [] [.a,.L,.B,.L,.B,.N,.E] λxs b xs1 b1=>
 some ((Ξ [iv 2,V xs,bv b,V xs1,bv b1,V []],[])):=by kernel_rfl
theorem e64(x0:Bool):By A D Al Ak9 .n 64 Aml [bv x0] [] =
 br x0
 (some ((Ξ [iv 0,V [],bv false,V [],bv false,V []],[])))
 (some ((Ξ [iv 1,V [],bv false,V [],bv false,V []],[]))):=by kernel_rfl
theorem AnZ(x0_0:Int)(x0_1:Rw)(x0_2:Bool)(x0_3:Rw)(x0_4:Bool)(x0_5:Rw):By A D Al Ag6 .n 225 Aib [Ξ [iv x0_0,V x0_1,bv x0_2,V x0_3,bv x0_4,V x0_5]] [] =
 br (A.eq x0_0 4)
 (some ((V x0_5,[])))
 (br (A.eq x0_0 5)
 (some ((V x0_5,[])))
 (br (A.eq x0_0 3)
 (unI (A.min (↑(AQ x0_5)) 1) λi=>
 br (J1 0 i (AQ x0_5)) (br (Gp 6 x0_5) (some ((V (I0 (I9 x0_5 i) 0),[]))) none) none)
 (some ((V [],[]))))):=by kernel_rfl
theorem AnA(x0_0:Int)(x0_1:Rw)(x0_2:Bool)(x0_3:Rw)(x0_4:Bool)(x0_5:Rw):By A D Al AgT .n 175 AhX [Ξ [iv x0_0,V x0_1,bv x0_2,V x0_3,bv x0_4,V x0_5]] [] =
 br (A.eq x0_0 0)
 (Ad D (Ω 64) [bv true] [] [.a,.I,.L,.B,.L,.B,.L,.N,.E] λn xs b xs1 b1 xs2=>
 some ((Ξ [iv n,V xs,bv b,V xs1,bv b1,V xs2],[])))
 (br (A.eq x0_0 2)
 (Ad D (Ω 171) [Ξ [V x0_1,bv x0_2,V x0_3,bv x0_4]] [] [.a,.I,.L,.B,.L,.B,.L,.N,.E] λn xs b xs1 b1 xs2=>
 some ((Ξ [iv n,V xs,bv b,V xs1,bv b1,V xs2],[])))
 (br (A.eq x0_0 3)
 (Ad D (Ω 225) [Ξ [iv x0_0,V x0_1,bv x0_2,V x0_3,bv x0_4,V x0_5]] [] [.l,.E] λxs=>
 Ad D (Ω 176) [V xs] [] [.l,.E] λxs1=>
 some ((Ξ [iv x0_0,V [],bv false,V [],bv false,V xs1],[])))
 (br (A.eq x0_0 4)
 (Ad D (Ω 225) [Ξ [iv x0_0,V x0_1,bv x0_2,V x0_3,bv x0_4,V x0_5]] [] [.l,.E] λxs=>
 Ad D (Ω 176) [V xs] [] [.l,.E] λxs1=>
 some ((Ξ [iv x0_0,V [],bv false,V [],bv false,V xs1],[])))
 (br (A.eq x0_0 5)
 (Ad D (Ω 225) [Ξ [iv x0_0,V x0_1,bv x0_2,V x0_3,bv x0_4,V x0_5]] [] [.l,.E] λxs=>
 Ad D (Ω 176) [V xs] [] [.l,.E] λxs1=>
 some ((Ξ [iv x0_0,V [],bv false,V [],bv false,V xs1],[])))
 (Ad D (Ω 64) [bv false] [] [.a,.I,.L,.B,.L,.B,.L,.N,.E] λn xs b xs1 b1 xs2=>
 some ((Ξ [iv n,V xs,bv b,V xs1,bv b1,V xs2],[]))))))):=by kernel_rfl
theorem AnB(x0:Rw):By A D Al Sr .n 176 Wd [V x0] [] =
 Ad D (ι 176 0) [ζ 0 0 0 6,V x0,iv ↑(AQ x0),iv 0] [Δ [] true true] [.t,.C,.x,.X,.Y] λc l o=>
 br (A9 1 c)
 (dk [.C,.q 1 6,.N,.D,.R,.X,.E] [.l l,.o o] λn cs1=>
 br ((0+n*6).ble cs1.length) (some ((V (Bp n 6 (ο (n*6) cs1)),[]))) none)
 (none):=by kernel_rfl
theorem ZW(n3:Nat)(c3:List AV)(t6:Rw)(t7 t8:Int):Di A D Al Sr .n 176 0 (AL Wd 0).fst (AL Wd 0).snd [ζ 0 0 n3 6,V t6,iv t7,iv t8] [{ cells:=c3,st:=true,ex:=true }] =
 br (A.lt t8 t7)
 (unI t8 λi=>
 Bh t6 i λcs=>
 dk [.I,.L,.B,.L,.B,.L,.N] [.l cs] λn xs b xs1 b1 xs2=>
 Ad D (Ω 175) [Ξ [iv n,V xs,bv b,V xs1,bv b1,V xs2]] [] [.a,.I,.L,.B,.L,.B,.L,.N,.E] λn1 xs3 b2 xs4 b3 xs5=>
 br (Bf (n3+1) 96) (br ((0+n3*6).ble c3.length) (AE D (ι 176 0) [ζ 0 0 (n3+1) 6,V t6,iv t7,iv (A.add U t8 1)] [Δ (Apx 0 (ο (0+n3*6) c3)++[iv n1,V xs3,bv b2,V xs4,bv b3,V xs5]) true true] λr1 o1=>
 AD 1 [3] (AH.mk [(3,Δ (Apx 0 (ο (0+n3*6) c3)++[iv n1,V xs3,bv b2,V xs4,bv b3,V xs5]) true true),(2,Δ [iv n1,V xs3,bv b2,V xs4,bv b3,V xs5] true true),(1,bk [iv n,V xs,bv b,V xs1,bv b1,V xs2])] 4 none) [0] r1 o1) none) none)
 (some ((ψ [iv 0,ζ 1 0 n3 6],[BO.del,γ (Δ c3 true true)]))):=by kernel_rfl
theorem Am3(x0_0:Int)(x0_1:Rw)(x0_2:Bool)(x0_3:Rw)(x0_4:Bool)(x0_5:Rw):By A D Al Agt .n 113 Ahw [Ξ [iv x0_0,V x0_1,bv x0_2,V x0_3,bv x0_4,V x0_5]] [] =
 Ad D (Ω 175) [Ξ [iv x0_0,V x0_1,bv x0_2,V x0_3,bv x0_4,V x0_5]] [] [.a,.I,.L,.B,.L,.B,.L,.N,.E] λn xs b xs1 b1 xs2=>
 some ((Ξ [iv 3,V [],bv false,V [],bv false,V [[iv n,V xs,bv b,V xs1,bv b1,V xs2]]],[])):=by kernel_rfl
theorem Am4(x0:Rw):By A D Al Agu .n 114 Ahx [V x0] [] =
 Ad D (Ω 176) [V x0] [] [.l,.E] λxs=>
 some ((Ξ [iv 4,V [],bv false,V [],bv false,V xs],[])):=by kernel_rfl
theorem Am5(x0:Rw):By A D Al Agv .n 115 Ahy [V x0] [] =
 Ad D (Ω 176) [V x0] [] [.l,.E] λxs=>
 some ((Ξ [iv 5,V [],bv false,V [],bv false,V xs],[])):=by kernel_rfl
theorem Uq(x0:Int)(x1_0:Rw)(x1_1:Bool)(x1_2 x2_0:Rw)(x2_1:Bool)(x2_2:Rw):By A D Al LV .n 112 Ahv [iv x0,Ξ [V x1_0,bv x1_1,V x1_2],Ξ [V x2_0,bv x2_1,V x2_2]] [] =
 Ad D (Ω 84) [iv 1] [] [.a,.B,.L,.N,.E] λb xs=>
 Ad D (Ω 170) [Ξ [bv b,V xs]] [] [.a,.L,.B,.L,.N,.E] λxs1 b1 xs2=>
 br (A.eq x0 0)
 (Ad D (Ω 173) [Ξ [V x1_0,bv x1_1,V x1_2],Ξ [V x2_0,bv x2_1,V x2_2]] [] [.a,.L,.B,.L,.N,.E] λxs3 b2 xs4=>
 Ad D (Ω 172) [Ξ [V xs3,bv b2,V xs4]] [] [.a,.L,.B,.L,.B,.N,.E] λxs5 b3 xs6 b4=>
 Ad D (Ω 171) [Ξ [V xs5,bv b3,V xs6,bv b4]] [] [.a,.I,.L,.B,.L,.B,.L,.N,.E] λn xs7 b5 xs8 b6 xs9=>
 some ((Ξ [iv n,V xs7,bv b5,V xs8,bv b6,V xs9],[])))
 (br (A.eq x0 1)
 (Ad D (Ω 112) [iv 0,Ξ [V x1_0,bv x1_1,V x1_2],Ξ [V x2_0,bv x2_1,V x2_2]] [] [.a,.I,.L,.B,.L,.B,.L,.N,.E] λn xs3 b2 xs4 b3 xs5=>
 Ad D (Ω 113) [Ξ [iv n,V xs3,bv b2,V xs4,bv b3,V xs5]] [] [.a,.I,.L,.B,.L,.B,.L,.N,.E] λn1 xs6 b4 xs7 b5 xs8=>
 some ((Ξ [iv n1,V xs6,bv b4,V xs7,bv b5,V xs8],[])))
 (br (A.eq x0 2)
 (Ad D (Ω 173) [Ξ [V x2_0,bv x2_1,V x2_2],Ξ [V x1_0,bv x1_1,V x1_2]] [] [.a,.L,.B,.L,.N,.E] λxs3 b2 xs4=>
 Ad D (Ω 173) [Ξ [V xs3,bv b2,V xs4],Ξ [V xs1,bv b1,V xs2]] [] [.a,.L,.B,.L,.N,.E] λxs5 b3 xs6=>
 Ad D (Ω 174) [Ξ [V xs5,bv b3,V xs6]] [] [.a,.L,.B,.L,.B,.N,.E] λxs7 b4 xs8 b5=>
 Ad D (Ω 171) [Ξ [V xs7,bv b4,V xs8,bv b5]] [] [.a,.I,.L,.B,.L,.B,.L,.N,.E] λn xs9 b6 xs10 b7 xs11=>
 some ((Ξ [iv n,V xs9,bv b6,V xs10,bv b7,V xs11],[])))
 (br (A.eq x0 3)
 (Ad D (Ω 173) [Ξ [V x2_0,bv x2_1,V x2_2],Ξ [V x1_0,bv x1_1,V x1_2]] [] [.a,.L,.B,.L,.N,.E] λxs3 b2 xs4=>
 Ad D (Ω 174) [Ξ [V xs3,bv b2,V xs4]] [] [.a,.L,.B,.L,.B,.N,.E] λxs5 b3 xs6 b4=>
 Ad D (Ω 171) [Ξ [V xs5,bv b3,V xs6,bv b4]] [] [.a,.I,.L,.B,.L,.B,.L,.N,.E] λn xs7 b5 xs8 b6 xs9=>
 some ((Ξ [iv n,V xs7,bv b5,V xs8,bv b6,V xs9],[])))
 (br (A.eq x0 4)
 (Ad D (Ω 112) [iv 2,Ξ [V x2_0,bv x2_1,V x2_2],Ξ [V x1_0,bv x1_1,V x1_2]] [] [.a,.I,.L,.B,.L,.B,.L,.N,.E] λn xs3 b2 xs4 b3 xs5=>
 some ((Ξ [iv n,V xs3,bv b2,V xs4,bv b3,V xs5],[])))
 (br (A.eq x0 5)
 (Ad D (Ω 112) [iv 3,Ξ [V x2_0,bv x2_1,V x2_2],Ξ [V x1_0,bv x1_1,V x1_2]] [] [.a,.I,.L,.B,.L,.B,.L,.N,.E] λn xs3 b2 xs4 b3 xs5=>
 some ((Ξ [iv n,V xs3,bv b2,V xs4,bv b3,V xs5],[])))
 (Ad D (Ω 64) [bv false] [] [.a,.I,.L,.B,.L,.B,.L,.N,.E] λn xs3 b2 xs4 b3 xs5=>
 some ((Ξ [iv n,V xs3,bv b2,V xs4,bv b3,V xs5],[])))))))):=by kernel_rfl
end
end
end Go.Proofs.YtlmhajfbpplpoaaGreat
