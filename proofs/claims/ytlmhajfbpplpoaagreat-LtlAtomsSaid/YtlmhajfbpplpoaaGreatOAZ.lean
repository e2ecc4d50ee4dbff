/- slices.Clone over this seat's element types. slice -/
import Derived.Maps.AppendAt
import Derived.Test.YtlmhajfbpplpoaaGreatOAV
import Derived.Test.YtlmhajfbpplpoaaGreatOAB
import Derived.Test.YtlmhajfbpplpoaaGreatOAY
import Derived.Lib.AppendZeros
set_option linter.all false
open Bool renaming and_eq_true->ApF
open List renaming drop->ApK,drop_eq_getElem_cons->ApE,drop_eq_nil_of_le->ApL,drop_zero->ApD,eq_nil_of_length_eq_zero->Ap8,findIdx?_cons->Asu,flatten_cons->AqU,getElem?_eq_getElem->Apy,nil_append->Ap4,take->ApG
open Nat renaming eq_zero_or_pos->Asw,le_refl->ApA,ne_of_gt->Arh,zero_add->ApX,zero_le->Aqv,zero_mul->Aq2
open Option renaming map_some->ApS
namespace Go.Proofs.YtlmhajfbpplpoaaGreat
noncomputable section
open Go.RowKit
theorem Ph(a:Addr)(j:Nat):(a.add j).block=a.block:=by unfold Addr.add;split<;>rfl
set_option maxRecDepth 100000 in
set_option maxHeartbeats 4000000 in
theorem Up(w:World)(A:Option Addr)(n c:Nat)(us:List Value)(hn:us.length=n*3)(hc:n<=c)(hA:n≠0->∃ g o,A=some ⟨g,o,none⟩/\∀ j u,us[j]? = some u->w.cell? ⟨g,o+j,none⟩=some u)
  (h1:∀ u∈us,u.oneCell'=true) (hby:n*40<=140737488355328) :
  Calls Tryz.prog 151 #[.slice A n c] w λe w'=>∃ v',e=.returned v'/\w'.ownsRow w.heap.size 154 3 v' n us/\Below w.heap.size w w':=by
 obtain⟨i0,hi0,hz0,hz1,hz2⟩:=info_parts (show (Tryz.prog.info? 154).map (λi=>(i.zero,i.size,i.bytes))=some (some (.agg #[.int .i64 0,.bool false,.slice none 0 0]),3,40) by kernel_rfl);have HU:=Lib.hid hn;have HA:=Lib.hid hA;have H1:=Lib.hid h1;clear hn hA h1;have hq:∀(w:World) (a:Option Addr) (n c:Nat),(binOp .eql 50 (.slice a n c) (.slice none 0 0)).run Tryz.prog w=.ok (.bool a.isNone) w:=λw a n c=>Lib.run_eql_slice_nil w _ _ a n c 0 0 Tryz.underlying50
 go_enter Tryz.func151,Tryz.ntmps151
 cases A with
 |none=>
  have h0:n=0:=by
   rcases Asw n with h|h
   .exact h
   .exfalso
    obtain⟨g,o,h2,_⟩:=HA.out (Arh h)
    cases h2
  subst h0
  go_wp2
  go_ret
  have hu:us=[]:=Ap8 (by rw[HU.out,Aq2]);rw[hu];exact⟨_,rfl,World.ownsRow_nil _ _ _ _,Below.refl _ _⟩
 |some ad=>
  obtain⟨ag,ao,asp⟩:=ad;have hcells:∀ j u,us[j]? = some u->ag<w.heap.size/\w.cell? ((⟨ag,ao,asp⟩:Addr).add j)=some u:=λj u hj=>by
   have hn0:n≠0:=by
    rintro rfl;have hu:us=[]:=Ap8 (by rw[HU.out,Aq2]);rw[hu]at hj
    cases hj
   obtain⟨g,o,h2,h3⟩:=HA.out hn0
   cases h2
   have h5:=h3 j u hj;exact⟨Dy h5,by rw[EX];exact h5⟩
  have HC:=Lib.hid hcells;clear hcells
  go_wp2_with (at_builtin;refine wpList_append_own_at _ rfl _ _ 50 rfl w.heap.size 154 i0 (.agg #[.int .i64 0,.bool false,.slice none 0 0]) 3 40 Tryz.underlying50 hi0 hz0 hz1 hz2 rfl (by decide) _ 0 [] rfl ?c0 ⟨ag,ao,asp⟩ n c us rfl HU.out ?c1 H1.out ?c3 ?c4 ?c5 ?_)
  case c0=>exact⟨by simp,.inr ⟨w.heap.size,0,#[],rfl,ApA _,heap_alloc_new _ _,ApA _,Aqv _,by simp,by simp⟩⟩
  case c1=>
   intro j u hj;have:=HC.out j u hj;exact((Bl w (.cells #[] 154)).cell (p:=(⟨ag,ao,asp⟩:Addr).add j) (by rw[Ph];exact this.1)).trans this.2
  case c3=>unfold maxLen;omega
  case c4=>omega
  case c5=>exact(Bl w _).size
  intro v' w3 hown hgrow _ _
  try simp only[ApX,Ap4]at hown
  have HO:=Lib.hid hown;have HB:=Lib.hid ((Bl w (.cells #[] 154)).grown hgrow (Bl w _).size (λk hk=>by have hk:some w.heap.size=some k:=hk;cases hk;exact ApA _));clear hown hgrow
  go_wp2_with fail
  go_ret
  exact⟨_,rfl,HO.out,HB.out⟩
set_option maxRecDepth 100000 in
set_option maxHeartbeats 4000000 in
theorem Un(w:World)(A:Option Addr)(n c:Nat)(us:List Value)(hn:us.length=n*1)(hc:n<=c)(hA:n≠0->∃ g o,A=some ⟨g,o,none⟩/\∀ j u,us[j]? = some u->w.cell? ⟨g,o+j,none⟩=some u)
  (h1:∀ u∈us,u.oneCell'=true) (hby:n*4<=140737488355328) :
  Calls Tryz.prog 240 #[.slice A n c] w λe w'=>∃ v',e=.returned v'/\w'.ownsRow w.heap.size 230 1 v' n us/\Below w.heap.size w w':=by
 obtain⟨i0,hi0,hz0,hz1,hz2⟩:=info_parts (show (Tryz.prog.info? 230).map (λi=>(i.zero,i.size,i.bytes))=some (some (.int .u32 0),1,4) by kernel_rfl);have HU:=Lib.hid hn;have HA:=Lib.hid hA;have H1:=Lib.hid h1;clear hn hA h1;have hq:∀(w:World) (a:Option Addr) (n c:Nat),(binOp .eql 52 (.slice a n c) (.slice none 0 0)).run Tryz.prog w=.ok (.bool a.isNone) w:=λw a n c=>Lib.run_eql_slice_nil w _ _ a n c 0 0 Tryz.underlying52
 go_enter Tryz.func240,Tryz.ntmps240
 cases A with
 |none=>
  have h0:n=0:=by
   rcases Asw n with h|h
   .exact h
   .exfalso
    obtain⟨g,o,h2,_⟩:=HA.out (Arh h)
    cases h2
  subst h0
  go_wp2
  go_ret
  have hu:us=[]:=Ap8 (by rw[HU.out,Aq2]);rw[hu];exact⟨_,rfl,World.ownsRow_nil _ _ _ _,Below.refl _ _⟩
 |some ad=>
  obtain⟨ag,ao,asp⟩:=ad;have hcells:∀ j u,us[j]? = some u->ag<w.heap.size/\w.cell? ((⟨ag,ao,asp⟩:Addr).add j)=some u:=λj u hj=>by
   have hn0:n≠0:=by
    rintro rfl;have hu:us=[]:=Ap8 (by rw[HU.out,Aq2]);rw[hu]at hj
    cases hj
   obtain⟨g,o,h2,h3⟩:=HA.out hn0
   cases h2
   have h5:=h3 j u hj;exact⟨Dy h5,by rw[EX];exact h5⟩
  have HC:=Lib.hid hcells;clear hcells
  go_wp2_with (at_builtin;refine wpList_append_own_at _ rfl _ _ 52 rfl w.heap.size 230 i0 (.int .u32 0) 1 4 Tryz.underlying52 hi0 hz0 hz1 hz2 rfl (by decide) _ 0 [] rfl ?c0 ⟨ag,ao,asp⟩ n c us rfl HU.out ?c1 H1.out ?c3 ?c4 ?c5 ?_)
  case c0=>exact⟨by simp,.inr ⟨w.heap.size,0,#[],rfl,ApA _,heap_alloc_new _ _,ApA _,Aqv _,by simp,by simp⟩⟩
  case c1=>
   intro j u hj;have:=HC.out j u hj;exact((Bl w (.cells #[] 230)).cell (p:=(⟨ag,ao,asp⟩:Addr).add j) (by rw[Ph];exact this.1)).trans this.2
  case c3=>unfold maxLen;omega
  case c4=>omega
  case c5=>exact(Bl w _).size
  intro v' w3 hown hgrow _ _
  try simp only[ApX,Ap4]at hown
  have HO:=Lib.hid hown;have HB:=Lib.hid ((Bl w (.cells #[] 230)).grown hgrow (Bl w _).size (λk hk=>by have hk:some w.heap.size=some k:=hk;cases hk;exact ApA _));clear hown hgrow
  go_wp2_with fail
  go_ret
  exact⟨_,rfl,HO.out,HB.out⟩
section
variable {μ:Mu} {F:AP} {w:World} {g:Nat}
theorem VM:∀(xs:List AV) (o:Nat),RepAt μ F w g xs o->∃ us,RepList μ F w xs us/\∀ j u,us[j]? = some u->w.cell? ⟨g,o+j,none⟩=some u
 |[],o,_=>⟨[],rfl,λj u h=>by simp at h⟩
 |x::r,o,h=>by
  simp only[RepAt]at h;obtain⟨⟨_,u,h2,h3⟩,h4⟩:=h;obtain⟨us,h5,h6⟩:=VM r (o+1) h4;refine⟨u::us,⟨u,us,rfl,h3,h5⟩,λj v hj=>?_⟩
  cases j with
  |zero=>simp at hj;subst hj;exact h2
  |succ j=>
   have:=h6 j v (by simpa using hj)
   rwa [show o+1+j=o+(j+1) by omega]at this
theorem P9{e:Nat}:∀(xs:List (List AV)) (o:Nat),RepRows μ F w g e xs o->∃ us,RepList μ F w xs.flatten us/\∀ j u,us[j]? = some u->w.cell? ⟨g,o+j,none⟩=some u
 |[],o,_=>⟨[],rfl,λj u h=>by simp at h⟩
 |x::r,o,h=>by
  simp only[RepRows]at h;obtain⟨h1,h2,h3⟩:=h;obtain⟨us,a1,a2⟩:=VM x o h2;obtain⟨vs,b1,b2⟩:=P9 r (o+e) h3;refine⟨us++vs,by rw[AqU];exact RepList.append a1 b1,λj v hj=>?_⟩;have hl:us.length=e:=by rw[a1.length,h1]
  by_cases hj2:j<us.length
  .exact a2 j v (by rwa [List.getElem?_append_left hj2]at hj)
  .rw[List.getElem?_append_right (by omega),hl]at hj
   have:=b2 (j-e) v hj
   rwa [show o+e+(j-e)=o+j by omega]at this
end
def Cl(e B:Nat):List AV->Option (Nat × List AV)
 |[.ls xs]=>if(Gv e xs&&Kd (IQ xs)&&A8 (IQ xs)&&Nat.ble (A1 xs*B) 140737488355328)=true then some (A1 xs,IQ xs) else none
 |_=>none
theorem Nq{P:Program}{f:Nat}{ety:TypeId}(e B:Nat) (h:∀(w:World) (A:Option Addr) (n c:Nat) (us:List Value),us.length=n*e->n<=c->(n≠0->∃ g o,A=some ⟨g,o,none⟩/\∀ j u,us[j]? = some u->w.cell? ⟨g,o+j,none⟩=some u)->
  (∀ u∈us,u.oneCell'=true)->n*B<=140737488355328->Calls P f #[.slice A n c] w λe' w'=>∃ v',e'=.returned v'/\w'.ownsRow w.heap.size ety e v' n us/\Below w.heap.size w w'):Bz (BS P f) (Ft e (Cl e B)):=by
 refine PI (CU P f) e _ λargs n cells hr=>?_
 unfold Cl at hr;split at hr
 .rename_i xs
  split at hr
  .rename_i hc
   simp only[ApF,Nat.ble_eq]at hc;obtain⟨⟨⟨c1,c2⟩,c3⟩,c4⟩:=hc;rw[In]at c1;rw[JS]at c2 c3;rw[GN]at c4;simp only[Option.some.injEq,Prod.mk.injEq]at hr;obtain⟨rfl,rfl⟩:=hr;rw[GN,JS];have hlen:xs.flatten.length=xs.length*e:=by
    clear c2 c3 c4
    induction xs with
    |nil=>simp
    |cons x r ih=>
     rw[List.all_cons,ApF]at c1;rw[AqU,List.length_append,ih c1.2,List.length_cons,Nat.add_mul,Nat.one_mul];have:x.length=e:=by simpa using c1.1
     omega
   refine⟨c3,hlen,λμ F w us hF hus=>?_⟩;obtain⟨v,t,rfl,hv,ht⟩:=hus;have ht:t=[]:=ht;subst ht;unfold Rep at hv;obtain⟨_,A,c,rfl,h2,_,h4⟩:=hv;have key:∃ vs,RepList μ F w xs.flatten vs/\(xs.length≠0->∃ g o,A=some ⟨g,o,none⟩/\∀ j u,vs[j]? = some u->w.cell? ⟨g,o+j,none⟩=some u):=by
    by_cases hx:xs=[]
    .subst hx
     exact⟨[],rfl,λh=>absurd rfl h⟩
    .obtain⟨g,o,e',hA,hr⟩:=h4 hx
     obtain⟨vs,k1,k2⟩:=P9 xs o hr;exact⟨vs,k1,λ_=>⟨g,o,hA,k2⟩⟩
   obtain⟨vs,k1,k2⟩:=key;have hone:∀ u∈vs,u.oneCell'=true:=λu hu=>by
    obtain⟨j,hj,rfl⟩:=List.getElem_of_mem hu;have hj2:j<xs.flatten.length:=by rw[←k1.length];exact hj
    obtain⟨u,a1,a2⟩:=k1.get (Apy hj2);rw[Apy hj]at a1
    cases a1
    rw[IC]at c2;exact a2.one (List.all_eq_true.1 c2 _ (List.getElem_mem hj2))
   refine Calls.mono (h w A xs.length c vs (by rw[k1.length,hlen]) h2 k2 hone c4) ?_;rintro e' w' ⟨v',rfl,ho,hb⟩;exact⟨v',rfl,ety,vs,ho,hb,k1⟩
  .cases hr
 .cases hr
theorem Xt:Bz (BS Tryz.prog 240) (Ft 1 (Cl 1 4)):=Nq 1 4 λw A n c us h1 h2 h3 h4 h5=>Un w A n c us h1 h2 h3 h4 h5
theorem Uq:Bz (BS Tryz.prog 151) (Ft 3 (Cl 3 40)):=Nq 3 40 λw A n c us h1 h2 h3 h4 h5=>Up w A n c us h1 h2 h3 h4 h5
set_option maxRecDepth 100000 in
set_option maxHeartbeats 4000000 in
theorem XJ(w:World)(n:Nat)(hby:n*40<=140737488355328) :
  Calls Tryz.prog 263 #[.slice none 0 0,.int .i64 n] w λe w'=>∃ v',e=.returned v'/\w'.ownsRow w.heap.size 154 3 v' 0 []/\Below w.heap.size w w':=by
 have y0:¬ (n:Int)<0:=by omega
 go_enter Tryz.func263,Tryz.ntmps263
 by_cases h0:n=0
 .subst h0
  go_wp2
  go_ret
  exact⟨_,rfl,World.ownsRow_nil _ _ _ _,Below.refl _ _⟩
 .have y1:(0:Int)<(n:Int):=by omega
  obtain⟨i0,hi0,hz0,hz1,hz2⟩:=info_parts (show (Tryz.prog.info? 154).map (λi=>(i.zero,i.size,i.bytes))=some (some (.agg #[.int .i64 0,.bool false,.slice none 0 0]),3,40) by kernel_rfl);have hr:=λty=>Lib.run_append_nil_zeros (P:=Tryz.prog) w 50 3 ty 154 i0 _ .i64 .i64 Tryz.underlying50 Tryz.underlying3 hi0 hz0 n (by omega) (by rw[hz1];decide) (by omega) (by rw[hz2];omega)
  have c1:=grownCap_ge w n 0 154;have c2:=grownCap_le_maxLen w n 0 154 (by unfold maxLen;omega);have HR:=Lib.hid hr;clear hr;generalize grownCap w n 0 154=cap at *
  go_wp2_with (at_builtin;refine Lib.wpList_append_run _ rfl _ _ _ _ rfl _ _ rfl rfl _ _ (HR.out _) ?_)
  go_wp2_with fail
  go_ret
  refine⟨_,rfl,⟨by simp,.inr ⟨w.heap.size,cap,_,rfl,ApA _,heap_alloc_new _ _,Aqv _,c2,?_,by simp⟩⟩,?_⟩
  .rw[Array.size_append,size_zeroCells,size_zeroCells]
   show n*3+(cap-n)*3=cap*3
   omega
  .exact(Jf (Below.refl _ _)).alloc (ApA _) _
def GU(B:Nat):List AV->Option (Nat × List AV)
 |[.v (.slice none 0 0),.v (.int .i64 (.ofNat n))]=>if Nat.ble (n*B) 140737488355328=true then some (0,[]) else none
 |_=>none
theorem XK:Bz (BS Tryz.prog 263) (Ft 3 (GU 40)):=by
 refine PI (CU _ _) 3 _ λargs n cells hr=>?_
 unfold GU at hr;split at hr
 .rename_i k
  split at hr
  .rename_i hk
   simp only[Option.some.injEq,Prod.mk.injEq]at hr;obtain⟨rfl,rfl⟩:=hr;refine⟨rfl,rfl,λμ F w us hF hus=>?_⟩;obtain⟨u,t,rfl,hu,u2,t2,rfl,hu2,ht⟩:=hus;have ht:t2=[]:=ht;subst ht;unfold Rep at hu hu2;rw[hu.1,hu2.1];refine Calls.mono (XJ w k (Nat.le_of_ble_eq_true hk)) ?_;rintro e' w' ⟨v',rfl,ho,hb⟩;exact⟨v',rfl,_,[],ho,hb,rfl⟩
  .cases hr
 .cases hr
def Ms:List (Nat × MFn):=[(121,S0)]
def OG:List (Nat × MFn):=[(88,Abp),(219,Ah4)]
section
variable {D:Orc}
theorem XV(K:Knows Al OG D)(xs:List ByteArray)(hx:xs.length<4611686018427387904)(s:ByteArray):∀(k i:Nat),xs.length-i=k->D.ask (.lp 88 0) [.ls (xs.map eS),sv s,iv (xs.length:Int),iv (i:Int)] []=some (Fc i ((xs.drop i).findIdx? (s = ·)),[]):=by
 intro k
 induction k with
 |zero=>
  intro i hi;refine K.lp' AaV _ rfl (by kernel_rfl) ((Agd ..).trans ?_);have:xs.drop i=[]:=ApL (by omega);simp only[Pb,this,G6];rw[if_neg (by simp;omega)];rfl
 |succ k ih=>
  intro i hi;have hlt:i<xs.length:=by omega
  refine K.lp' AaV _ rfl (by kernel_rfl) ((Agd ..).trans ?_);have e1:xs.drop i=xs[i]::xs.drop (i+1):=ApE hlt;have ih':=ih (i+1) (by omega);have e2:Aj.add .i64 (i:Int) 1=((i+1:Nat):Int):=Bh (by omega);simp only[Pb,AG,Oc,Apy hlt,eS,QP,LQ,Mk,e2,G6];rw[if_pos (by simpa using hlt),e1,Asu]
  by_cases h:s=xs[i]
  .simp[←h,Fc]
  .rw[if_neg (by simpa using h),if_neg (by simpa using h)]
   refine Ab ih' ?_
   cases (xs.drop (i+1)).findIdx? (s = ·) with
   |none=>rfl
   |some j=>
    simp only[Fc,ApS,show i+(j+1)=i+1+j by omega];rfl
theorem Gd(K:Knows Al OG D)(xs:List ByteArray)(hx:xs.length<4611686018427387904)(s:ByteArray):D.ask (.fn 88) [.ls (xs.map eS),sv s] []=some (iv (Dc (xs.findIdx? (s = ·))),[]):=by
 refine K.fn' AaV _ rfl ((e88 ..).trans ?_);rw[Av];refine Ab (XV K xs hx s _ 0 rfl)?_;rw[ApD]
 cases xs.findIdx? (s = ·) with
 |none=>rfl
 |some j=>simp only[Fc,ND,Aa,ApX];rfl
theorem Yl(K:Knows Al Ms D)(xs:List ByteArray)(hx:xs.length<4611686018427387904)(s:ByteArray):∀(k i:Nat),xs.length-i=k->D.ask (.lp 121 0) [.ls (xs.map eS),sv s,iv (i:Int)] []=some (Fc i ((xs.drop i).findIdx? (s = ·)),[]):=by
 intro k
 induction k with
 |zero=>
  intro i hi;refine K.lp' Sq _ rfl (by kernel_rfl) ((ZS ..).trans ?_);have:xs.drop i=[]:=ApL (by omega);simp only[Pb,Av,this,G6];rw[if_neg (by simp;omega)];rfl
 |succ k ih=>
  intro i hi;have hlt:i<xs.length:=by omega
  refine K.lp' Sq _ rfl (by kernel_rfl) ((ZS ..).trans ?_);have e1:xs.drop i=xs[i]::xs.drop (i+1):=ApE hlt;have ih':=ih (i+1) (by omega);have e2:Aj.add .i64 (i:Int) 1=((i+1:Nat):Int):=Bh (by omega);simp only[Pb,Av,AG,Oc,Apy hlt,eS,QP,LQ,Mk,e2,G6];rw[if_pos (by simpa using hlt),e1,Asu]
  by_cases h:s=xs[i]
  .simp[←h,Fc]
  .rw[if_neg (by simpa using λe=>h e.symm),if_neg (by simpa using h)]
   refine Ab ih' ?_
   cases (xs.drop (i+1)).findIdx? (s = ·) with
   |none=>rfl
   |some j=>
    simp only[Fc,ApS,show i+(j+1)=i+1+j by omega];rfl
theorem P6(K:Knows Al Ms D)(xs:List ByteArray)(hx:xs.length<4611686018427387904)(s:ByteArray):D.ask (.fn 121) [.ls (xs.map eS),sv s] []=some (iv (Dc (xs.findIdx? (s = ·))),[]):=by
 refine K.fn' Sq _ rfl ((Anf ..).trans ?_);refine Ab (Yl K xs hx s _ 0 rfl)?_;rw[ApD]
 cases xs.findIdx? (s = ·) with
 |none=>rfl
 |some j=>simp only[Fc,ND,Aa,ApX];rfl
end
def AlB:Be:=[⟨20,[false,false,false,true,false,false,false,true,true,true],[(3,1)],[],[(1,([false,false,false,true],([],[])))]⟩]
def S1:MFn:=Bx AlB 232
def SD:Hnt:=⟨[],[(0,[(1,([.sl 1 1],[.del,.row true]))])],[(7,[.ls]),(11,[.str,.ls,.ls]),(12,[.str,.ls,.ls]),(15,[.str])]⟩
def AcA:List (Nat × MFn):=[(265,mf265),(126,mf126),(232,S1),(276,mf276),(266,mf266),(267,mf267),(185,mf185),(186,mf186),(125,mf125),(230,mf230),(252,mf252),(70,mf70)]
theorem An7(A:Ar)(D:Orc)(x0_0:List (List AV))(x0_1:List (List AV))(x0_2:Int)(x0_3:List (List AV))(x0_4:Bool)(x0_5:List (List AV))(x0_6:Bool)(x0_7:List (List AV))(x0_8:List (List AV))(x0_9:List (List AV)):BI A D Al SD .n 232 S1 [AV.agg [AV.ls x0_0,AV.ls x0_1,iv x0_2,AV.ls x0_3,bv x0_4,AV.ls x0_5,bv x0_6,AV.ls x0_7,AV.ls x0_8,AV.ls x0_9]] [] =
 Ae D (Key.lp 232 0) [AV.sl 0 0 0 1,AV.ls x0_8,iv ↑(A1 x0_8),iv 0] [ABlk.mk [] true true] λr o=>
 Az r λcs=>
 Ai cs λc l=>
 br (Bi 1 c)
 (Ai l λc1 l1=>
 B1 1 1 c1 λn=>
 Ad l1<|
 Am o λc2 l2=>
 Bn c2<|
 Am l2 λc3 l3=>
 AE true true c3 λcs1=>
 Ac l3<|
 br ((0+n*1).ble cs1.length) (some ((AV.ls (BA n 1 (ApG (n*1) cs1)),[]))) none)
 (none):=by kernel_rfl
theorem Aab(A:Ar)(D:Orc)(n3:Nat)(c3:List AV)(t7:List (List AV))(t8:Int)(t9:Int):Dv A D Al SD .n 232 0 (AW S1 0).fst (AW S1 0).snd [AV.sl 0 0 n3 1,AV.ls t7,iv t8,iv t9] [{ cells:=c3,st:=true,ex:=true }] =
 br (A.lt t9 t8)
 (unI t9 λi=>
 Br t7 i λcs=>
 Bv cs λs l=>
 As l λxs l1=>
 As l1 λxs1 l2=>
 Ad l2<|
 br (Bp (n3+1) 16) (br ((0+n3*1).ble c3.length) (Ae D (Key.lp 232 0) [AV.sl 0 0 (n3+1) 1,AV.ls t7,iv t8,iv (A.add IntKind.i64 t9 1)] [ABlk.mk (ApK 0 (ApG (0+n3*1) c3)++[sv s]) true true] λr o=>
 AN 1 [3] (AH.mk [(3,ABlk.mk (ApK 0 (ApG (0+n3*1) c3)++[sv s]) true true),(2,ABlk.mk [sv s] true true),(1,ABlk.mk [sv s,AV.ls xs,AV.ls xs1] true false)] 4 none) [0] r o) none) none)
 (some ((AV.tup [iv 0,AV.sl 1 0 n3 1],[BO.del,BO.set (ABlk.mk c3 true true)]))):=by kernel_rfl
def TL:List (Nat × MFn):=[(232,S1)]
def AhC:MFn:=Bx [] 132
def Agy:Hnt:=⟨[],[],[]⟩
def AhY:MFn:=Bx [] 194
def AgU:Hnt:=⟨[],[],[]⟩
def AhE:MFn:=Bx [] 134
def AgA:Hnt:=⟨[(132,(.int .i64,[])),(194,(.int .i64,[]))],[],[(13,[.int .i64])]⟩
def AhD:MFn:=Bx [] 133
def Agz:Hnt:=⟨[(45,(.bool,[])),(46,(.bool,[])),(109,(.bool,[]))],[],[(4,[.int .i64]),(7,[.int .i64,.ls,.ls,.int .i64,.str,.str,.ls]),(12,[.ls]),(17,[.ls]),(23,[.int .i64]),(28,[.str]),(33,[.str]),(36,[.int .i64,.ls,.ls,.int .i64,.str,.str,.ls])]⟩
def AoP:Be:=[⟨57,[false,true,true,false,false,false,false,false,false,false,false,false,false,false,false,false,false,false,false,false,false,false,false,false,false,false,false,false,false,false,false,false,false,true,true,true],[],[2],[(0,([false,false,false,false,true],([],[2]))),(1,([],([],[2])))]⟩]
def Aey:MFn:=Bx AoP 74
def AaU:Hnt:=⟨[(45,(.bool,[])),(74,(.bool,[])),(132,(.int .i64,[])),(133,(.bool,[])),(134,(.bool,[]))],[(0,[(0,([.bool],[.del])),(1,([],[.del]))])],[(10,[.int .i64]),(13,[.ls]),(19,[.int .i64,.ls,.ls,.int .i64,.str,.str,.ls]),(28,[.int .i64,.ls,.ls,.int .i64,.str,.str,.ls]),(33,[.ls]),(38,[.int .i64,.ls,.ls,.int .i64,.str,.str,.ls]),(39,[.int .i64,.ls,.ls,.int .i64,.str,.str,.ls]),(42,[.int .i64]),(44,[.int .i64,.ls,.ls,.int .i64,.str,.str,.ls]),(51,[.int .i64,.ls,.ls,.int .i64,.str,.str,.ls])]⟩
def Amb:MFn:=Bx [] 36
def Ak0:Hnt:=⟨[(74,(.bool,[]))],[],[(3,[.int .i64,.ls,.ls,.int .i64,.str,.str,.ls])]⟩
def WZ:List (Nat × MFn):=[(132,AhC),(194,AhY),(134,AhE),(133,AhD),(74,Aey),(36,Amb)]
theorem Ani(A:Ar)(D:Orc)(x0:Int):BI A D Al Agy .n 132 AhC [iv x0] [] =
 br (A.eq x0 0)
 (some ((iv 0,[])))
 (br (A.eq x0 1)
 (some ((iv 0,[])))
 (br (A.eq x0 2)
 (some ((iv 0,[])))
 (br (A.eq x0 6)
 (some ((iv 0,[])))
 (br (A.eq x0 3)
 (some ((iv 1,[])))
 (br (A.eq x0 8)
 (some ((iv 1,[])))
 (br (A.eq x0 9)
 (some ((iv 1,[])))
 (br (A.eq x0 10)
 (some ((iv 1,[])))
 (br (A.eq x0 4)
 (some ((iv 2,[])))
 (br (A.eq x0 5)
 (some ((iv 2,[])))
 (br (A.eq x0 7)
 (some ((iv 2,[])))
 (br (A.eq x0 11)
 (some ((iv 2,[])))
 (br (A.eq x0 12)
 (some ((iv 2,[])))
 (some ((iv (-1),[]))))))))))))))):=by kernel_rfl
theorem AnP(A:Ar)(D:Orc)(x0:Int):BI A D Al AgU .n 194 AhY [iv x0] [] =
 br (A.eq x0 7)
 (some ((iv 1,[])))
 (br (A.eq x0 5)
 (some ((iv 2,[])))
 (br (A.eq x0 4)
 (some ((iv 3,[])))
 (br (A.eq x0 11)
 (some ((iv 4,[])))
 (br (A.eq x0 12)
 (some ((iv 4,[])))
 (some ((iv 5,[]))))))):=by kernel_rfl
theorem Ank(A:Ar)(D:Orc)(x0:Int)(x1:Int)(x2_0:Int)(x2_1:List (List AV))(x2_2:List (List AV))(x2_3:Int)(x2_4:ByteArray)(x2_5:ByteArray)(x2_6:List (List AV)):BI A D Al AgA .n 134 AhE [iv x0,iv x1,AV.agg [iv x2_0,AV.ls x2_1,AV.ls x2_2,iv x2_3,sv x2_4,sv x2_5,AV.ls x2_6]] [] =
 Ae D (Key.fn 194) [iv x0] [] λr o=>
 AT IntKind.i64 r λn=>
 Ac o<|
 Ae D (Key.fn 194) [iv x2_0] [] λr1 o1=>
 AT IntKind.i64 r1 λn1=>
 Ac o1<|
 Ae D (Key.fn 132) [iv x0] [] λr2 o2=>
 AT IntKind.i64 r2 λn2=>
 Ac o2<|
 br (A.eq n2 1)
 (br (A.lt n1 5)
 (some ((bv true,[])))
 (some ((bv false,[]))))
 (br (A.eq n n1)
 (br (A.eq n 1)
 (br (A.eq x1 0)
 (br (A.beq true true)
 (some ((bv true,[])))
 (some ((bv false,[]))))
 (br (A.beq true false)
 (some ((bv true,[])))
 (some ((bv false,[])))))
 (br (A.eq n 4)
 (br (A.eq x1 0)
 (br (A.beq true true)
 (some ((bv true,[])))
 (some ((bv false,[]))))
 (br (A.beq true false)
 (some ((bv true,[])))
 (some ((bv false,[])))))
 (br (A.eq x1 0)
 (br (A.beq false true)
 (some ((bv true,[])))
 (some ((bv false,[]))))
 (br (A.beq false false)
 (some ((bv true,[])))
 (some ((bv false,[])))))))
 (br (A.lt n1 n)
 (some ((bv true,[])))
 (some ((bv false,[]))))):=by kernel_rfl
theorem Anj(A:Ar)(D:Orc)(x0_0:Int)(x0_1:List (List AV))(x0_2:List (List AV))(x0_3:Int)(x0_4:ByteArray)(x0_5:ByteArray)(x0_6:List (List AV)):BI A D Al Agz .n 133 AhD [AV.agg [iv x0_0,AV.ls x0_1,AV.ls x0_2,iv x0_3,sv x0_4,sv x0_5,AV.ls x0_6]] [] =
 br (A.eq x0_0 2)
 (Ae D (Key.fn 46) [AV.agg [iv x0_0,AV.ls x0_1,AV.ls x0_2,iv x0_3,sv x0_4,sv x0_5,AV.ls x0_6]] [] λr o=>
 AR r λb=>
 Ac o<|
 br b
 (some ((bv true,[])))
 (some ((bv false,[]))))
 (br (A.eq x0_0 6)
 (br (A.eq (↑(A1 x0_1)) 0)
 (br (A.eq (↑(A1 x0_2)) 0)
 (br (A.eq x0_3 0)
 (Ae D (Key.fn 109) [sv x0_4] [] λr o=>
 AR r λb=>
 Ac o<|
 br b
 (Ae D (Key.fn 109) [sv x0_5] [] λr1 o1=>
 AR r1 λb1=>
 Ac o1<|
 br b1
 (some ((bv true,[])))
 (some ((bv false,[]))))
 (some ((bv false,[]))))
 (some ((bv false,[]))))
 (some ((bv false,[]))))
 (some ((bv false,[]))))
 (Ae D (Key.fn 45) [AV.agg [iv x0_0,AV.ls x0_1,AV.ls x0_2,iv x0_3,sv x0_4,sv x0_5,AV.ls x0_6]] [] λr o=>
 AR r λb=>
 Ac o<|
 br b
 (some ((bv true,[])))
 (some ((bv false,[]))))):=by kernel_rfl
theorem e74(A:Ar)(D:Orc)(x0_0:Int)(x0_1:List (List AV))(x0_2:List (List AV))(x0_3:Int)(x0_4:ByteArray)(x0_5:ByteArray)(x0_6:List (List AV))(x1:Int):BI A D Al AaU .n 74 Aey [AV.agg [iv x0_0,AV.ls x0_1,AV.ls x0_2,iv x0_3,sv x0_4,sv x0_5,AV.ls x0_6],iv x1] [] =
 Ae D (Key.fn 132) [iv x0_0] [] λr o=>
 AT IntKind.i64 r λn=>
 Ac o<|
 br (A.eq (↑(A1 x0_6)) n)
 (br (A.eq n 0)
 (Ae D (Key.fn 133) [AV.agg [iv x0_0,AV.ls x0_1,AV.ls x0_2,iv x0_3,sv x0_4,sv x0_5,AV.ls x0_6]] [] λr1 o1=>
 AR r1 λb=>
 Ac o1<|
 br b
 (some ((bv true,[])))
 (some ((bv false,[]))))
 (br (A.eq n 1)
 (br (A.lt 60 (A.add IntKind.i64 x1 1))
 (some ((bv false,[])))
 (Ae D (Key.fn 45) [AV.agg [iv x0_0,AV.ls x0_1,AV.ls x0_2,iv x0_3,sv x0_4,sv x0_5,AV.ls x0_6]] [] λr1 o1=>
 AR r1 λb=>
 Ac o1<|
 br b
 (Ae D (Key.lp 74 0) [iv (A.add IntKind.i64 x1 1),AV.ptr 0 0,AV.ls x0_6,iv ↑(A1 x0_6),iv 0] [ABlk.mk [iv x0_0,AV.ls x0_1,AV.ls x0_2,iv x0_3,sv x0_4,sv x0_5,AV.ls x0_6] true false] λr2 o2=>
 Az r2 λcs=>
 Ai cs λc l=>
 br (Bi 0 c)
 (Af l λb1 l1=>
 Ad l1<|
 Am o2 λc1 l2=>
 Bn c1<|
 Ac l2<|
 some ((bv b1,[])))
 (br (Bi 1 c)
 (Ad l<|
 Am o2 λc1 l1=>
 Bn c1<|
 Ac l1<|
 some ((bv true,[])))
 (none)))
 (some ((bv false,[])))))
 (br (A.lt 60 x1)
 (some ((bv false,[])))
 (Ae D (Key.fn 45) [AV.agg [iv x0_0,AV.ls x0_1,AV.ls x0_2,iv x0_3,sv x0_4,sv x0_5,AV.ls x0_6]] [] λr1 o1=>
 AR r1 λb=>
 Ac o1<|
 br b
 (Ae D (Key.lp 74 0) [iv x1,AV.ptr 0 0,AV.ls x0_6,iv ↑(A1 x0_6),iv 0] [ABlk.mk [iv x0_0,AV.ls x0_1,AV.ls x0_2,iv x0_3,sv x0_4,sv x0_5,AV.ls x0_6] true false] λr2 o2=>
 Az r2 λcs=>
 Ai cs λc l=>
 br (Bi 0 c)
 (Af l λb1 l1=>
 Ad l1<|
 Am o2 λc1 l2=>
 Bn c1<|
 Ac l2<|
 some ((bv b1,[])))
 (br (Bi 1 c)
 (Ad l<|
 Am o2 λc1 l1=>
 Bn c1<|
 Ac l1<|
 some ((bv true,[])))
 (none)))
 (some ((bv false,[])))))))
 (some ((bv false,[]))):=by kernel_rfl
theorem Agc(A:Ar)(D:Orc)(t1:Int)(b2_0:Int)(b2_1:List (List AV))(b2_2:List (List AV))(b2_3:Int)(b2_4:ByteArray)(b2_5:ByteArray)(b2_6:List (List AV))(t33:List (List AV))(t34:Int)(t35:Int):Dv A D Al AaU .n 74 0 (AW Aey 0).fst (AW Aey 0).snd [iv t1,AV.ptr 0 0,AV.ls t33,iv t34,iv t35] [{ cells:=[iv b2_0,AV.ls b2_1,AV.ls b2_2,iv b2_3,sv b2_4,sv b2_5,AV.ls b2_6],st:=true,ex:=false }] =
 br (A.lt t35 t34)
 (unI t35 λi=>
 Br t33 i λcs=>
 At IntKind.i64 cs λn l=>
 As l λxs l1=>
 As l1 λxs1 l2=>
 At IntKind.i64 l2 λn1 l3=>
 Bv l3 λs l4=>
 Bv l4 λs1 l5=>
 As l5 λxs2 l6=>
 Ad l6<|
 Ae D (Key.fn 134) [iv b2_0,iv t35,AV.agg [iv n,AV.ls xs,AV.ls xs1,iv n1,sv s,sv s1,AV.ls xs2]] [] λr o=>
 AR r λb=>
 Ac o<|
 br b
 (br (A.lt 60 (A.add IntKind.i64 t1 1))
 (some ((AV.tup [bv true,bv false],[BO.del])))
 (Ae D (Key.fn 74) [AV.agg [iv n,AV.ls xs,AV.ls xs1,iv n1,sv s,sv s1,AV.ls xs2],iv (A.add IntKind.i64 t1 1)] [] λr1 o1=>
 AR r1 λb1=>
 Ac o1<|
 br b1
 (Ae D (Key.lp 74 0) [iv t1,AV.ptr 0 0,AV.ls t33,iv t34,iv (A.add IntKind.i64 t35 1)] [ABlk.mk [iv b2_0,AV.ls b2_1,AV.ls b2_2,iv b2_3,sv b2_4,sv b2_5,AV.ls b2_6] true false] λr2 o2=>
 AN 1 [0] (AH.mk [(0,ABlk.mk [iv b2_0,AV.ls b2_1,AV.ls b2_2,iv b2_3,sv b2_4,sv b2_5,AV.ls b2_6] true false),(1,ABlk.mk [iv n,AV.ls xs,AV.ls xs1,iv n1,sv s,sv s1,AV.ls xs2] true false)] 2 none) [0] r2 o2)
 (some ((AV.tup [bv true,bv false],[BO.del])))))
 (br (A.lt 60 t1)
 (some ((AV.tup [bv true,bv false],[BO.del])))
 (Ae D (Key.fn 74) [AV.agg [iv n,AV.ls xs,AV.ls xs1,iv n1,sv s,sv s1,AV.ls xs2],iv t1] [] λr1 o1=>
 AR r1 λb1=>
 Ac o1<|
 br b1
 (Ae D (Key.lp 74 0) [iv t1,AV.ptr 0 0,AV.ls t33,iv t34,iv (A.add IntKind.i64 t35 1)] [ABlk.mk [iv b2_0,AV.ls b2_1,AV.ls b2_2,iv b2_3,sv b2_4,sv b2_5,AV.ls b2_6] true false] λr2 o2=>
 AN 1 [0] (AH.mk [(0,ABlk.mk [iv b2_0,AV.ls b2_1,AV.ls b2_2,iv b2_3,sv b2_4,sv b2_5,AV.ls b2_6] true false),(1,ABlk.mk [iv n,AV.ls xs,AV.ls xs1,iv n1,sv s,sv s1,AV.ls xs2] true false)] 2 none) [0] r2 o2)
 (some ((AV.tup [bv true,bv false],[BO.del]))))))
 (some ((AV.tup [iv 0],[BO.del]))):=by kernel_rfl
theorem e36(A:Ar)(D:Orc)(x0_0:Int)(x0_1:List (List AV))(x0_2:List (List AV))(x0_3:Int)(x0_4:ByteArray)(x0_5:ByteArray)(x0_6:List (List AV)):BI A D Al Ak0 .n 36 Amb [AV.agg [iv x0_0,AV.ls x0_1,AV.ls x0_2,iv x0_3,sv x0_4,sv x0_5,AV.ls x0_6]] [] =
 Ae D (Key.fn 74) [AV.agg [iv x0_0,AV.ls x0_1,AV.ls x0_2,iv x0_3,sv x0_4,sv x0_5,AV.ls x0_6],iv 0] [] λr o=>
 AR r λb=>
 Ac o<|
 br b
 (some ((bv true,[])))
 (some ((bv false,[]))):=by kernel_rfl
def Alv:Be:=[⟨21,[true,false,false,true],[],[],[(1,([true,false,false,true],([],[])))]⟩]
def Wl:MFn:=Bx Alv 204
def Sz:Hnt:=⟨[],[(0,[(1,([.ls,.int .i64],[]))])],[(12,[.int .u32]),(13,[.int .u32])]⟩
def AhZ:MFn:=Bx [] 200
def AgV:Hnt:=⟨[(204,(.ls,[])),(240,(.sl 0 1,[.row true]))],[],[]⟩
def AhG:MFn:=Bx [] 146
def AgC:Hnt:=⟨[(200,(.ls,[]))],[],[]⟩
def Alw:Be:=[⟨49,[true,true,false,false,false,true],[],[],[(0,([false,false,false,false,true],([],[]))),(2,([],([],[])))]⟩]
def Wm:MFn:=Bx Alw 205
def SA:Hnt:=⟨[(204,(.ls,[]))],[(0,[(0,([.int .i64],[])),(2,([],[]))])],[(32,[.int .u32]),(33,[.int .u32]),(36,[.int .u32]),(37,[.int .u32]),(42,[.int .u32]),(43,[.int .u32]),(46,[.int .u32]),(47,[.int .u32])]⟩
def Alj:Be:=[⟨61,[false,true,false,false,false,true,true,false,false,false,false,false,false,false,false,false,false,false,false,false,false,false,false,false,false,true,true,true],[(5,1)],[],[(1,([false,false,false,false,false,true,true],([],[])))]⟩]
def Wc:MFn:=Bx Alj 149
def Sr:Hnt:=⟨[(200,(.ls,[])),(204,(.ls,[]))],[(0,[(1,([.sl 1 1,.int .u64],[.del,.row true]))])],[(30,[.int .u32]),(31,[.int .u32]),(43,[.int .u32]),(44,[.int .u32])]⟩
def Alk:Be:=[⟨59,[false,true,false,false,false,false,true,true,false,false,false,false,false,false,false,false,false,false,false,false,false,false,false,true,true,true],[(6,1)],[],[(1,([false,false,false,false,false,false,true],([],[])))]⟩]
def Wd:MFn:=Bx Alk 150
def Ss:Hnt:=⟨[(200,(.ls,[])),(204,(.ls,[])),(205,(.int .i64,[]))],[(0,[(1,([.sl 1 1],[.del,.row true]))])],[(28,[.int .u32]),(29,[.int .u32]),(38,[.int .u32]),(39,[.int .u32])]⟩
def AlL:Be:=[⟨68,[false,true,false,false,false,true,false,false,false,false,false,false,false,false,false,false,false,false,true,true,true],[],[],[(1,([false,false,false,false,false,true],([],[])))]⟩,⟨68,[false,true,false,false,false,true,true,true,true,false,false,false,false,false,false,false,false,false,true,true,true,false,false,false,false,true,true,true],[],[],[(3,([false,true,false,false,false,true,true,false,true,false,false,false,false,false,false,false,false,false,true,true,true],([],[])))]⟩]
def PX:MFn:=Bx AlL 282
def Mb:Hnt:=⟨[(200,(.ls,[]))],[(0,[(1,([.sl 1 1],[.del,.row true]))]),(1,[(3,([.ls,.sl 1 1,.int .i64,.int .u64,.ls,.int .i64,.int .i64],[.del,.row true]))])],[(23,[.int .u32]),(24,[.int .u32]),(30,[.int .u32]),(31,[.int .u32]),(41,[.int .u32]),(42,[.int .u32]),(53,[.int .u32]),(64,[.int .u32])]⟩
def Aih:MFn:=Bx [] 275
def Ahb:Hnt:=⟨[(204,(.ls,[])),(282,(.ls,[])),(283,(.ls,[]))],[],[]⟩
def Ah1:MFn:=Bx [] 202
def AaQ:Hnt:=⟨[],[],[]⟩
def Alu:Be:=[⟨47,[false,true,false,false,false,false,false,true,true,false,false,false,false,false,false,false,false,false,true,true,true],[(7,1)],[],[(1,([false,false,false,false,false,false,false,true,true],([],[])))]⟩]
def Wk:MFn:=Bx Alu 203
def PJ:Hnt:=⟨[],[(0,[(1,([.sl 1 1,.int .u64],[.del,.row true]))])],[(22,[.int .u32]),(23,[.int .u32])]⟩
def Ali:Be:=[⟨49,[true,false,false,false,true,true,true,false,false,false,false,false,false,false,false,false,false,false,true,true],[],[],[(0,([false,false,true,true],([2],[]))),(2,([false,false,false,false,true,true,true],([4],[])))]⟩]
def PS:MFn:=Bx Ali 148
def EG:Hnt:=⟨[(200,(.ls,[])),(202,(.tup [.int .u32,.bool],[])),(203,(.ls,[]))],[(0,[(0,([.ls,.int .i64],[])),(2,([.ls,.int .u32,.int .u32],[]))])],[]⟩
def KN:List (Nat × MFn):=[(204,Wl),(200,AhZ),(146,AhG),(205,Wm),(149,Wc),(150,Wd),(282,PX),(275,Aih),(202,Ah1),(203,Wk),(148,PS)]
theorem AnS(A:Ar)(D:Orc)(x0:List (List AV)):BI A D Al Sz .n 204 Wl [AV.ls x0] [] =
 Ae D (Key.lp 204 0) [AV.ls x0,iv ↑(A1 x0)] [] λr o=>
 Az r λcs=>
 Ai cs λc l=>
 br (Bi 1 c)
 (As l λxs l1=>
 At IntKind.i64 l1 λn l2=>
 Ad l2<|
 Ac o<|
 unI n λi=>
 br (J3 0 i (A1 xs)) (br (Gv 1 xs) (some ((AV.ls (I0 (I9 xs i) 0),[]))) none) none)
 (none):=by kernel_rfl
theorem Z4(A:Ar)(D:Orc)(t0:List (List AV))(t3:Int):Dv A D Al Sz .n 204 0 (AW Wl 0).fst (AW Wl 0).snd [AV.ls t0,iv t3] [] =
 br (A.lt 0 t3)
 (unI (A.sub IntKind.i64 t3 1) λi=>
 Br t0 i λcs=>
 At IntKind.u32 cs λn l=>
 Ad l<|
 br (A.eq n 0)
 (Ae D (Key.lp 204 0) [AV.ls t0,iv (A.sub IntKind.i64 t3 1)] [] λr o=>
 AN 0 [] (AH.mk [] 0 none) [] r o)
 (some ((AV.tup [iv 0,AV.ls t0,iv t3],[]))))
 (some ((AV.tup [iv 0,AV.ls t0,iv t3],[]))):=by kernel_rfl
theorem AnQ(A:Ar)(D:Orc)(x0:List (List AV)):BI A D Al AgV .n 200 AhZ [AV.ls x0] [] =
 Ae D (Key.fn 204) [AV.ls x0] [] λr o=>
 BX r λxs=>
 Ac o<|
 Ae D (Key.fn 240) [AV.ls xs] [] λr1 o1=>
 B1 0 1 r1 λn=>
 Am o1 λc l=>
 AE true true c λcs=>
 Ac l<|
 br ((0+n*1).ble cs.length) (some ((AV.ls (BA n 1 (ApG (n*1) cs)),[]))) none:=by kernel_rfl
theorem Anm(A:Ar)(D:Orc)(x0:Int):BI A D Al AgC .n 146 AhG [AV.v (Value.int IntKind.u64 x0)] [] =
 br (A.lt 32 0)
 (none)
 (Ae D (Key.fn 200) [AV.ls [[AV.v (Value.int IntKind.u32 (A.conv IntKind.u32 x0))],[AV.v (Value.int IntKind.u32 (A.conv IntKind.u32 (A.shr IntKind.u64 x0 32)))]]] [] λr o=>
 BX r λxs=>
 Ac o<|
 some ((AV.ls xs,[]))):=by kernel_rfl
theorem AnT(A:Ar)(D:Orc)(x0:List (List AV))(x1:List (List AV)):BI A D Al SA .n 205 Wm [AV.ls x0,AV.ls x1] [] =
 Ae D (Key.fn 204) [AV.ls x0] [] λr o=>
 BX r λxs=>
 Ac o<|
 Ae D (Key.fn 204) [AV.ls x1] [] λr1 o1=>
 BX r1 λxs1=>
 Ac o1<|
 br (A.lt ↑(A1 xs) ↑(A1 xs1))
 (some ((iv (-1),[])))
 (br (A.lt ↑(A1 xs1) ↑(A1 xs))
 (some ((iv 1,[])))
 (Ae D (Key.lp 205 0) [AV.ls xs,AV.ls xs1,iv (A.sub IntKind.i64 (↑(A1 xs)) 1)] [] λr2 o2=>
 Az r2 λcs=>
 Ai cs λc l=>
 br (Bi 0 c)
 (At IntKind.i64 l λn l1=>
 Ad l1<|
 Ac o2<|
 some ((iv n,[])))
 (br (Bi 2 c)
 (Ad l<|
 Ac o2<|
 some ((iv 0,[])))
 (none)))):=by kernel_rfl
theorem Z5(A:Ar)(D:Orc)(t0:List (List AV))(t1:List (List AV))(t5:Int):Dv A D Al SA .n 205 0 (AW Wm 0).fst (AW Wm 0).snd [AV.ls t0,AV.ls t1,iv t5] [] =
 br (A.le 0 t5)
 (unI t5 λi=>
 Br t0 i λcs=>
 At IntKind.u32 cs λn l=>
 Ad l<|
 unI t5 λi1=>
 Br t1 i1 λcs1=>
 At IntKind.u32 cs1 λn1 l1=>
 Ad l1<|
 br (A.lt n n1)
 (some ((AV.tup [bv true,iv (-1)],[])))
 (unI t5 λi2=>
 Br t0 i2 λcs2=>
 At IntKind.u32 cs2 λn2 l2=>
 Ad l2<|
 unI t5 λi3=>
 Br t1 i3 λcs3=>
 At IntKind.u32 cs3 λn3 l3=>
 Ad l3<|
 br (A.lt n3 n2)
 (some ((AV.tup [bv true,iv 1],[])))
 (Ae D (Key.lp 205 0) [AV.ls t0,AV.ls t1,iv (A.sub IntKind.i64 t5 1)] [] λr o=>
 AN 0 [] (AH.mk [] 0 none) [] r o)))
 (some ((AV.tup [iv 1],[]))):=by kernel_rfl
theorem Anp(A:Ar)(D:Orc)(x0:List (List AV))(x1:List (List AV)):BI A D Al Sr .n 149 Wc [AV.ls x0,AV.ls x1] [] =
 Ae D (Key.fn 204) [AV.ls x0] [] λr o=>
 BX r λxs=>
 Ac o<|
 Ae D (Key.fn 204) [AV.ls x1] [] λr1 o1=>
 BX r1 λxs1=>
 Ac o1<|
 br (A.lt ↑(A1 xs) ↑(A1 xs1))
 (unI (A.add IntKind.i64 (↑(A1 xs1)) 1) λi=>
 br (Bp i 4) (Ae D (Key.lp 149 0) [AV.ls xs,AV.sl 0 0 0 1,AV.v (Value.int IntKind.u64 0),AV.ls xs1,iv ↑(A1 xs1),iv 0] [ABlk.mk [] true true] λr2 o2=>
 Az r2 λcs=>
 Ai cs λc l=>
 br (Bi 1 c)
 (Ai l λc1 l1=>
 B1 1 1 c1 λn=>
 At IntKind.u64 l1 λn1 l2=>
 Ad l2<|
 Am o2 λc2 l3=>
 Bn c2<|
 Am l3 λc3 l4=>
 AE true true c3 λcs1=>
 Ac l4<|
 br (Bp (n+1) 4) (br ((0+n*1).ble cs1.length) (br ((0+(n+1)*1).ble (ApK 0 (ApG (0+n*1) cs1)++[AV.v (Value.int IntKind.u32 (A.conv IntKind.u32 n1))]).length) (Ae D (Key.fn 200) [AV.ls (BA (n+1) 1 (ApG ((n+1)*1) (ApK 0 (ApK 0 (ApG (0+n*1) cs1)++[AV.v (Value.int IntKind.u32 (A.conv IntKind.u32 n1))]))))] [] λr3 o3=>
 BX r3 λxs2=>
 Ac o3<|
 some ((AV.ls xs2,[]))) none) none) none)
 (none)) none)
 (unI (A.add IntKind.i64 (↑(A1 xs)) 1) λi=>
 br (Bp i 4) (Ae D (Key.lp 149 0) [AV.ls xs1,AV.sl 0 0 0 1,AV.v (Value.int IntKind.u64 0),AV.ls xs,iv ↑(A1 xs),iv 0] [ABlk.mk [] true true] λr2 o2=>
 Az r2 λcs=>
 Ai cs λc l=>
 br (Bi 1 c)
 (Ai l λc1 l1=>
 B1 1 1 c1 λn=>
 At IntKind.u64 l1 λn1 l2=>
 Ad l2<|
 Am o2 λc2 l3=>
 Bn c2<|
 Am l3 λc3 l4=>
 AE true true c3 λcs1=>
 Ac l4<|
 br (Bp (n+1) 4) (br ((0+n*1).ble cs1.length) (br ((0+(n+1)*1).ble (ApK 0 (ApG (0+n*1) cs1)++[AV.v (Value.int IntKind.u32 (A.conv IntKind.u32 n1))]).length) (Ae D (Key.fn 200) [AV.ls (BA (n+1) 1 (ApG ((n+1)*1) (ApK 0 (ApK 0 (ApG (0+n*1) cs1)++[AV.v (Value.int IntKind.u32 (A.conv IntKind.u32 n1))]))))] [] λr3 o3=>
 BX r3 λxs2=>
 Ac o3<|
 some ((AV.ls xs2,[]))) none) none) none)
 (none)) none):=by kernel_rfl
theorem ZT(A:Ar)(D:Orc)(t1:List (List AV))(n5:Nat)(c5:List AV)(t6:Int)(t25:List (List AV))(t26:Int)(t27:Int):Dv A D Al Sr .n 149 0 (AW Wc 0).fst (AW Wc 0).snd [AV.ls t1,AV.sl 0 0 n5 1,AV.v (Value.int IntKind.u64 t6),AV.ls t25,iv t26,iv t27] [{ cells:=c5,st:=true,ex:=true }] =
 br (A.lt t27 t26)
 (unI t27 λi=>
 Br t25 i λcs=>
 At IntKind.u32 cs λn l=>
 Ad l<|
 br (A.lt t27 ↑(A1 t1))
 (unI t27 λi1=>
 Br t1 i1 λcs1=>
 At IntKind.u32 cs1 λn1 l1=>
 Ad l1<|
 br (Bp (n5+1) 4) (br ((0+n5*1).ble c5.length) (br (A.lt 32 0)
 (none)
 (Ae D (Key.lp 149 0) [AV.ls t1,AV.sl 0 0 (n5+1) 1,AV.v (Value.int IntKind.u64 (A.shr IntKind.u64 (A.add IntKind.u64 (A.add IntKind.u64 (A.conv IntKind.u64 n) t6) (A.conv IntKind.u64 n1)) 32)),AV.ls t25,iv t26,iv (A.add IntKind.i64 t27 1)] [ABlk.mk (ApK 0 (ApG (0+n5*1) c5)++[AV.v (Value.int IntKind.u32 (A.conv IntKind.u32 (A.add IntKind.u64 (A.add IntKind.u64 (A.conv IntKind.u64 n) t6) (A.conv IntKind.u64 n1))))]) true true] λr o=>
 AN 1 [2] (AH.mk [(2,ABlk.mk (ApK 0 (ApG (0+n5*1) c5)++[AV.v (Value.int IntKind.u32 (A.conv IntKind.u32 (A.add IntKind.u64 (A.add IntKind.u64 (A.conv IntKind.u64 n) t6) (A.conv IntKind.u64 n1))))]) true true),(1,ABlk.mk [AV.v (Value.int IntKind.u32 (A.conv IntKind.u32 (A.add IntKind.u64 (A.add IntKind.u64 (A.conv IntKind.u64 n) t6) (A.conv IntKind.u64 n1))))] true true)] 3 none) [0] r o)) none) none)
 (br (Bp (n5+1) 4) (br ((0+n5*1).ble c5.length) (br (A.lt 32 0)
 (none)
 (Ae D (Key.lp 149 0) [AV.ls t1,AV.sl 0 0 (n5+1) 1,AV.v (Value.int IntKind.u64 (A.shr IntKind.u64 (A.add IntKind.u64 (A.conv IntKind.u64 n) t6) 32)),AV.ls t25,iv t26,iv (A.add IntKind.i64 t27 1)] [ABlk.mk (ApK 0 (ApG (0+n5*1) c5)++[AV.v (Value.int IntKind.u32 (A.conv IntKind.u32 (A.add IntKind.u64 (A.conv IntKind.u64 n) t6)))]) true true] λr o=>
 AN 1 [2] (AH.mk [(2,ABlk.mk (ApK 0 (ApG (0+n5*1) c5)++[AV.v (Value.int IntKind.u32 (A.conv IntKind.u32 (A.add IntKind.u64 (A.conv IntKind.u64 n) t6)))]) true true),(1,ABlk.mk [AV.v (Value.int IntKind.u32 (A.conv IntKind.u32 (A.add IntKind.u64 (A.conv IntKind.u64 n) t6)))] true true)] 3 none) [0] r o)) none) none))
 (some ((AV.tup [iv 0,AV.sl 1 0 n5 1,AV.v (Value.int IntKind.u64 t6)],[BO.del,BO.set (ABlk.mk c5 true true)]))):=by kernel_rfl
theorem Anq(A:Ar)(D:Orc)(x0:List (List AV))(x1:List (List AV)):BI A D Al Ss .n 150 Wd [AV.ls x0,AV.ls x1] [] =
 Ae D (Key.fn 204) [AV.ls x0] [] λr o=>
 BX r λxs=>
 Ac o<|
 Ae D (Key.fn 204) [AV.ls x1] [] λr1 o1=>
 BX r1 λxs1=>
 Ac o1<|
 Ae D (Key.fn 205) [AV.ls xs,AV.ls xs1] [] λr2 o2=>
 AT IntKind.i64 r2 λn=>
 Ac o2<|
 br (A.lt n 0)
 (some ((AV.tup [AV.ls [],bv false],[])))
 (br (Bp (A1 xs) 4) (Ae D (Key.lp 150 0) [AV.ls xs1,AV.sl 0 0 0 1,AV.v (Value.int IntKind.u64 0),AV.ls xs,iv ↑(A1 xs),iv 0] [ABlk.mk [] true true] λr3 o3=>
 Az r3 λcs=>
 Ai cs λc l=>
 br (Bi 1 c)
 (Ai l λc1 l1=>
 B1 1 1 c1 λn1=>
 Ad l1<|
 Am o3 λc2 l2=>
 Bn c2<|
 Am l2 λc3 l3=>
 AE true true c3 λcs1=>
 Ac l3<|
 br ((0+n1*1).ble cs1.length) (Ae D (Key.fn 200) [AV.ls (BA n1 1 (ApG (n1*1) cs1))] [] λr4 o4=>
 BX r4 λxs2=>
 Ac o4<|
 some ((AV.tup [AV.ls xs2,bv true],[]))) none)
 (none)) none):=by kernel_rfl
theorem ZU(A:Ar)(D:Orc)(t1:List (List AV))(n6:Nat)(c6:List AV)(t7:Int)(t23:List (List AV))(t24:Int)(t25:Int):Dv A D Al Ss .n 150 0 (AW Wd 0).fst (AW Wd 0).snd [AV.ls t1,AV.sl 0 0 n6 1,AV.v (Value.int IntKind.u64 t7),AV.ls t23,iv t24,iv t25] [{ cells:=c6,st:=true,ex:=true }] =
 br (A.lt t25 t24)
 (unI t25 λi=>
 Br t23 i λcs=>
 At IntKind.u32 cs λn l=>
 Ad l<|
 br (A.lt t25 ↑(A1 t1))
 (unI t25 λi1=>
 Br t1 i1 λcs1=>
 At IntKind.u32 cs1 λn1 l1=>
 Ad l1<|
 br (A.lt (A.conv IntKind.u64 n) (A.add IntKind.u64 t7 (A.conv IntKind.u64 n1)))
 (br (Bp (n6+1) 4) (br ((0+n6*1).ble c6.length) (Ae D (Key.lp 150 0) [AV.ls t1,AV.sl 0 0 (n6+1) 1,AV.v (Value.int IntKind.u64 1),AV.ls t23,iv t24,iv (A.add IntKind.i64 t25 1)] [ABlk.mk (ApK 0 (ApG (0+n6*1) c6)++[AV.v (Value.int IntKind.u32 (A.conv IntKind.u32 (A.sub IntKind.u64 (A.add IntKind.u64 (A.conv IntKind.u64 n) 4294967296) (A.add IntKind.u64 t7 (A.conv IntKind.u64 n1)))))]) true true] λr o=>
 AN 1 [2] (AH.mk [(2,ABlk.mk (ApK 0 (ApG (0+n6*1) c6)++[AV.v (Value.int IntKind.u32 (A.conv IntKind.u32 (A.sub IntKind.u64 (A.add IntKind.u64 (A.conv IntKind.u64 n) 4294967296) (A.add IntKind.u64 t7 (A.conv IntKind.u64 n1)))))]) true true),(1,ABlk.mk [AV.v (Value.int IntKind.u32 (A.conv IntKind.u32 (A.sub IntKind.u64 (A.add IntKind.u64 (A.conv IntKind.u64 n) 4294967296) (A.add IntKind.u64 t7 (A.conv IntKind.u64 n1)))))] true true)] 3 none) [0] r o) none) none)
 (br (Bp (n6+1) 4) (br ((0+n6*1).ble c6.length) (Ae D (Key.lp 150 0) [AV.ls t1,AV.sl 0 0 (n6+1) 1,AV.v (Value.int IntKind.u64 0),AV.ls t23,iv t24,iv (A.add IntKind.i64 t25 1)] [ABlk.mk (ApK 0 (ApG (0+n6*1) c6)++[AV.v (Value.int IntKind.u32 (A.conv IntKind.u32 (A.sub IntKind.u64 (A.conv IntKind.u64 n) (A.add IntKind.u64 t7 (A.conv IntKind.u64 n1)))))]) true true] λr o=>
 AN 1 [2] (AH.mk [(2,ABlk.mk (ApK 0 (ApG (0+n6*1) c6)++[AV.v (Value.int IntKind.u32 (A.conv IntKind.u32 (A.sub IntKind.u64 (A.conv IntKind.u64 n) (A.add IntKind.u64 t7 (A.conv IntKind.u64 n1)))))]) true true),(1,ABlk.mk [AV.v (Value.int IntKind.u32 (A.conv IntKind.u32 (A.sub IntKind.u64 (A.conv IntKind.u64 n) (A.add IntKind.u64 t7 (A.conv IntKind.u64 n1)))))] true true)] 3 none) [0] r o) none) none))
 (br (A.lt (A.conv IntKind.u64 n) t7)
 (br (Bp (n6+1) 4) (br ((0+n6*1).ble c6.length) (Ae D (Key.lp 150 0) [AV.ls t1,AV.sl 0 0 (n6+1) 1,AV.v (Value.int IntKind.u64 1),AV.ls t23,iv t24,iv (A.add IntKind.i64 t25 1)] [ABlk.mk (ApK 0 (ApG (0+n6*1) c6)++[AV.v (Value.int IntKind.u32 (A.conv IntKind.u32 (A.sub IntKind.u64 (A.add IntKind.u64 (A.conv IntKind.u64 n) 4294967296) t7)))]) true true] λr o=>
 AN 1 [2] (AH.mk [(2,ABlk.mk (ApK 0 (ApG (0+n6*1) c6)++[AV.v (Value.int IntKind.u32 (A.conv IntKind.u32 (A.sub IntKind.u64 (A.add IntKind.u64 (A.conv IntKind.u64 n) 4294967296) t7)))]) true true),(1,ABlk.mk [AV.v (Value.int IntKind.u32 (A.conv IntKind.u32 (A.sub IntKind.u64 (A.add IntKind.u64 (A.conv IntKind.u64 n) 4294967296) t7)))] true true)] 3 none) [0] r o) none) none)
 (br (Bp (n6+1) 4) (br ((0+n6*1).ble c6.length) (Ae D (Key.lp 150 0) [AV.ls t1,AV.sl 0 0 (n6+1) 1,AV.v (Value.int IntKind.u64 0),AV.ls t23,iv t24,iv (A.add IntKind.i64 t25 1)] [ABlk.mk (ApK 0 (ApG (0+n6*1) c6)++[AV.v (Value.int IntKind.u32 (A.conv IntKind.u32 (A.sub IntKind.u64 (A.conv IntKind.u64 n) t7)))]) true true] λr o=>
 AN 1 [2] (AH.mk [(2,ABlk.mk (ApK 0 (ApG (0+n6*1) c6)++[AV.v (Value.int IntKind.u32 (A.conv IntKind.u32 (A.sub IntKind.u64 (A.conv IntKind.u64 n) t7)))]) true true),(1,ABlk.mk [AV.v (Value.int IntKind.u32 (A.conv IntKind.u32 (A.sub IntKind.u64 (A.conv IntKind.u64 n) t7)))] true true)] 3 none) [0] r o) none) none)))
 (some ((AV.tup [iv 0,AV.sl 1 0 n6 1],[BO.del,BO.set (ABlk.mk c6 true true)]))):=by kernel_rfl
theorem Aoo(A:Ar)(D:Orc)(x0:List (List AV))(x1:List (List AV)):BI A D Al Mb .n 282 PX [AV.ls x0,AV.ls x1] [] =
 unI (A.add IntKind.i64 ↑(A1 x0) ↑(A1 x1)) λi=>
 unI (A.add IntKind.i64 ↑(A1 x0) ↑(A1 x1)) λi1=>
 br (i.ble i1) (br (Bp i1 4) (Ae D (Key.lp 282 0) [AV.ls x1,AV.sl 0 0 i 1,AV.ls x0,iv ↑(A1 x0),iv 0] [ABlk.mk (Cw [AV.v (Value.int IntKind.u32 0)] (i*1)) true true] λr o=>
 Az r λcs=>
 Ai cs λc l=>
 br (Bi 1 c)
 (Ai l λc1 l1=>
 B1 1 1 c1 λn=>
 Ad l1<|
 Am o λc2 l2=>
 Bn c2<|
 Am l2 λc3 l3=>
 AE true true c3 λcs1=>
 Ac l3<|
 br ((0+n*1).ble cs1.length) (Ae D (Key.fn 200) [AV.ls (BA n 1 (ApG (n*1) cs1))] [] λr1 o1=>
 BX r1 λxs=>
 Ac o1<|
 some ((AV.ls xs,[]))) none)
 (none)) none) none:=by kernel_rfl
theorem Aaj(A:Ar)(D:Orc)(t1:List (List AV))(n5:Nat)(c5:List AV)(t18:List (List AV))(t19:Int)(t20:Int):Dv A D Al Mb .n 282 0 (AW PX 0).fst (AW PX 0).snd [AV.ls t1,AV.sl 0 0 n5 1,AV.ls t18,iv t19,iv t20] [{ cells:=c5,st:=true,ex:=true }] =
 br (A.lt t20 t19)
 (unI t20 λi=>
 Br t18 i λcs=>
 At IntKind.u32 cs λn l=>
 Ad l<|
 Ae D (Key.lp 282 1) [AV.ls t1,AV.sl 0 0 n5 1,iv t20,AV.v (Value.int IntKind.u32 n),AV.v (Value.int IntKind.u64 0),AV.ls t18,iv t19,iv t20,AV.ls t1,iv ↑(A1 t1),iv 0] [ABlk.mk c5 true true] λr o=>
 Az r λcs1=>
 Ai cs1 λc l1=>
 br (Bi 3 c)
 (As l1 λxs l2=>
 Ai l2 λc1 l3=>
 B1 1 1 c1 λn1=>
 At IntKind.i64 l3 λn2 l4=>
 At IntKind.u64 l4 λn3 l5=>
 As l5 λxs1 l6=>
 At IntKind.i64 l6 λn4 l7=>
 At IntKind.i64 l7 λn6 l8=>
 Ad l8<|
 Am o λc2 l9=>
 Bn c2<|
 Am l9 λc3 l10=>
 AE true true c3 λcs2=>
 Ac l10<|
 unI (A.add IntKind.i64 n2 ↑(A1 xs)) λi1=>
 br (i1.blt n1) (br ((0+i1*1+1).ble cs2.length) (Ae D (Key.lp 282 0) [AV.ls xs,AV.sl 0 0 n1 1,AV.ls xs1,iv n4,iv (A.add IntKind.i64 n6 1)] [ABlk.mk (Ba cs2 (0+i1*1) [AV.v (Value.int IntKind.u32 (A.conv IntKind.u32 n3))]) true true] λr1 o1=>
 AN 1 [1] (AH.mk [(1,ABlk.mk (Ba cs2 (0+i1*1) [AV.v (Value.int IntKind.u32 (A.conv IntKind.u32 n3))]) true true)] 2 none) [0] r1 o1) none) none)
 (none))
 (some ((AV.tup [iv 0,AV.sl 1 0 n5 1],[BO.del,BO.set (ABlk.mk c5 true true)]))):=by kernel_rfl
theorem Aak(A:Ar)(D:Orc)(t1:List (List AV))(n5:Nat)(c5:List AV)(t6:Int)(t7:Int)(t8:Int)(t18:List (List AV))(t19:Int)(t20:Int)(t25:List (List AV))(t26:Int)(t27:Int):Dv A D Al Mb .n 282 1 (AW PX 1).fst (AW PX 1).snd [AV.ls t1,AV.sl 0 0 n5 1,iv t6,AV.v (Value.int IntKind.u32 t7),AV.v (Value.int IntKind.u64 t8),AV.ls t18,iv t19,iv t20,AV.ls t25,iv t26,iv t27] [{ cells:=c5,st:=true,ex:=true }] =
 br (A.lt t27 t26)
 (unI t27 λi=>
 Br t25 i λcs=>
 At IntKind.u32 cs λn l=>
 Ad l<|
 unI (A.add IntKind.i64 t6 t27) λi1=>
 br (i1.blt n5) (IG c5 (0+i1*1) 1 λcs1=>
 At IntKind.u32 cs1 λn1 l1=>
 Ad l1<|
 unI (A.add IntKind.i64 t6 t27) λi2=>
 br (i2.blt n5) (br ((0+i2*1+1).ble c5.length) (br (A.lt 32 0)
 (none)
 (Ae D (Key.lp 282 1) [AV.ls t1,AV.sl 0 0 n5 1,iv t6,AV.v (Value.int IntKind.u32 t7),AV.v (Value.int IntKind.u64 (A.shr IntKind.u64 (A.add IntKind.u64 (A.add IntKind.u64 (A.mul IntKind.u64 (A.conv IntKind.u64 t7) (A.conv IntKind.u64 n)) (A.conv IntKind.u64 n1)) t8) 32)),AV.ls t18,iv t19,iv t20,AV.ls t25,iv t26,iv (A.add IntKind.i64 t27 1)] [ABlk.mk (Ba c5 (0+i2*1) [AV.v (Value.int IntKind.u32 (A.conv IntKind.u32 (A.add IntKind.u64 (A.add IntKind.u64 (A.mul IntKind.u64 (A.conv IntKind.u64 t7) (A.conv IntKind.u64 n)) (A.conv IntKind.u64 n1)) t8)))]) true true] λr o=>
 AN 1 [0] (AH.mk [(0,ABlk.mk (Ba c5 (0+i2*1) [AV.v (Value.int IntKind.u32 (A.conv IntKind.u32 (A.add IntKind.u64 (A.add IntKind.u64 (A.mul IntKind.u64 (A.conv IntKind.u64 t7) (A.conv IntKind.u64 n)) (A.conv IntKind.u64 n1)) t8)))]) true true)] 1 none) [0] r o)) none) none) none)
 (some ((AV.tup [iv 2,AV.ls t1,AV.sl 1 0 n5 1,iv t6,AV.v (Value.int IntKind.u64 t8),AV.ls t18,iv t19,iv t20],[BO.del,BO.set (ABlk.mk c5 true true)]))):=by kernel_rfl
theorem Aok(A:Ar)(D:Orc)(x0:List (List AV))(x1:List (List AV)):BI A D Al Ahb .n 275 Aih [AV.ls x0,AV.ls x1] [] =
 Ae D (Key.fn 204) [AV.ls x0] [] λr o=>
 BX r λxs=>
 Ac o<|
 Ae D (Key.fn 204) [AV.ls x1] [] λr1 o1=>
 BX r1 λxs1=>
 Ac o1<|
 br (A.lt (↑(A1 xs)) 24)
 (Ae D (Key.fn 282) [AV.ls xs,AV.ls xs1] [] λr2 o2=>
 BX r2 λxs2=>
 Ac o2<|
 some ((AV.ls xs2,[])))
 (br (A.lt (↑(A1 xs1)) 24)
 (Ae D (Key.fn 282) [AV.ls xs,AV.ls xs1] [] λr2 o2=>
 BX r2 λxs2=>
 Ac o2<|
 some ((AV.ls xs2,[])))
 (Ae D (Key.fn 283) [AV.ls xs,AV.ls xs1] [] λr2 o2=>
 BX r2 λxs2=>
 Ac o2<|
 some ((AV.ls xs2,[])))):=by kernel_rfl
theorem AkN(A:Ar)(D:Orc)(x0:Int):BI A D Al AaQ .n 202 Ah1 [AV.v (Value.int IntKind.u8 x0)] [] =
 br (A.le 48 x0)
 (br (A.le x0 57)
 (some ((AV.tup [AV.v (Value.int IntKind.u32 (A.conv IntKind.u32 (A.sub IntKind.u8 x0 48))),bv true],[])))
 (some ((AV.tup [AV.v (Value.int IntKind.u32 (A.conv IntKind.u32 (A.sub IntKind.u8 x0 48))),bv false],[]))))
 (some ((AV.tup [AV.v (Value.int IntKind.u32 (A.conv IntKind.u32 (A.sub IntKind.u8 x0 48))),bv false],[]))):=by kernel_rfl
theorem AkO(A:Ar)(D:Orc)(x0:List (List AV))(x1:Int)(x2:Int):BI A D Al PJ .n 203 Wk [AV.ls x0,AV.v (Value.int IntKind.u32 x1),AV.v (Value.int IntKind.u32 x2)] [] =
 unI (A.add IntKind.i64 (↑(A1 x0)) 1) λi=>
 br (Bp i 4) (Ae D (Key.lp 203 0) [AV.v (Value.int IntKind.u32 x1),AV.sl 0 0 0 1,AV.v (Value.int IntKind.u64 (A.conv IntKind.u64 x2)),AV.ls x0,iv ↑(A1 x0),iv 0] [ABlk.mk [] true true] λr o=>
 Az r λcs=>
 Ai cs λc l=>
 br (Bi 1 c)
 (Ai l λc1 l1=>
 B1 1 1 c1 λn=>
 At IntKind.u64 l1 λn1 l2=>
 Ad l2<|
 Am o λc2 l3=>
 Bn c2<|
 Am l3 λc3 l4=>
 AE true true c3 λcs1=>
 Ac l4<|
 br (A.lt 0 n1)
 (br (Bp (n+1) 4) (br ((0+n*1).ble cs1.length) (br ((0+(n+1)*1).ble (ApK 0 (ApG (0+n*1) cs1)++[AV.v (Value.int IntKind.u32 (A.conv IntKind.u32 n1))]).length) (some ((AV.ls (BA (n+1) 1 (ApG ((n+1)*1) (ApK 0 (ApK 0 (ApG (0+n*1) cs1)++[AV.v (Value.int IntKind.u32 (A.conv IntKind.u32 n1))])))),[]))) none) none) none)
 (br ((0+n*1).ble cs1.length) (some ((AV.ls (BA n 1 (ApG (n*1) cs1)),[]))) none))
 (none)) none:=by kernel_rfl
theorem Z3(A:Ar)(D:Orc)(t1:Int)(n7:Nat)(c7:List AV)(t8:Int)(t18:List (List AV))(t19:Int)(t20:Int):Dv A D Al PJ .n 203 0 (AW Wk 0).fst (AW Wk 0).snd [AV.v (Value.int IntKind.u32 t1),AV.sl 0 0 n7 1,AV.v (Value.int IntKind.u64 t8),AV.ls t18,iv t19,iv t20] [{ cells:=c7,st:=true,ex:=true }] =
 br (A.lt t20 t19)
 (unI t20 λi=>
 Br t18 i λcs=>
 At IntKind.u32 cs λn l=>
 Ad l<|
 br (Bp (n7+1) 4) (br ((0+n7*1).ble c7.length) (br (A.lt 32 0)
 (none)
 (Ae D (Key.lp 203 0) [AV.v (Value.int IntKind.u32 t1),AV.sl 0 0 (n7+1) 1,AV.v (Value.int IntKind.u64 (A.shr IntKind.u64 (A.add IntKind.u64 (A.mul IntKind.u64 (A.conv IntKind.u64 n) (A.conv IntKind.u64 t1)) t8) 32)),AV.ls t18,iv t19,iv (A.add IntKind.i64 t20 1)] [ABlk.mk (ApK 0 (ApG (0+n7*1) c7)++[AV.v (Value.int IntKind.u32 (A.conv IntKind.u32 (A.add IntKind.u64 (A.mul IntKind.u64 (A.conv IntKind.u64 n) (A.conv IntKind.u64 t1)) t8)))]) true true] λr o=>
 AN 1 [2] (AH.mk [(2,ABlk.mk (ApK 0 (ApG (0+n7*1) c7)++[AV.v (Value.int IntKind.u32 (A.conv IntKind.u32 (A.add IntKind.u64 (A.mul IntKind.u64 (A.conv IntKind.u64 n) (A.conv IntKind.u64 t1)) t8)))]) true true),(1,ABlk.mk [AV.v (Value.int IntKind.u32 (A.conv IntKind.u32 (A.add IntKind.u64 (A.mul IntKind.u64 (A.conv IntKind.u64 n) (A.conv IntKind.u64 t1)) t8)))] true true)] 3 none) [0] r o)) none) none)
 (some ((AV.tup [iv 0,AV.sl 1 0 n7 1,AV.v (Value.int IntKind.u64 t8)],[BO.del,BO.set (ABlk.mk c7 true true)]))):=by kernel_rfl
theorem Ano(A:Ar)(D:Orc)(x0:ByteArray):BI A D Al EG .n 148 PS [sv x0] [] =
 br (A.lt 4000 ↑(A.slen x0))
 (some ((AV.tup [AV.ls [],iv 2],[])))
 (br (A.seq x0 (AI []))
 (some ((AV.tup [AV.ls [],iv 20],[])))
 (Ae D (Key.lp 148 0) [sv x0,AV.v (Value.slice none 0 0),AV.v (Value.int IntKind.u32 0),AV.v (Value.int IntKind.u32 1),iv ↑(A.slen x0),iv 0] [] λr o=>
 Az r λcs=>
 Ai cs λc l=>
 br (Bi 0 c)
 (As l λxs l1=>
 At IntKind.i64 l1 λn l2=>
 Ad l2<|
 Ac o<|
 some ((AV.tup [AV.ls xs,iv n],[])))
 (br (Bi 2 c)
 (As l λxs l1=>
 At IntKind.u32 l1 λn l2=>
 At IntKind.u32 l2 λn1 l3=>
 Ad l3<|
 Ac o<|
 Ae D (Key.fn 203) [AV.ls xs,AV.v (Value.int IntKind.u32 n1),AV.v (Value.int IntKind.u32 n)] [] λr1 o1=>
 BX r1 λxs1=>
 Ac o1<|
 Ae D (Key.fn 200) [AV.ls xs1] [] λr2 o2=>
 BX r2 λxs2=>
 Ac o2<|
 some ((AV.tup [AV.ls xs2,iv 0],[])))
 (none)))):=by kernel_rfl
theorem K8(A:Ar)(D:Orc)(t0:ByteArray)(t4:List (List AV))(t5:Int)(t6:Int)(t18:Int)(t19:Int):Dv A D Al EG .n 148 0 (AW PS 0).fst (AW PS 0).snd [sv t0,AV.ls t4,AV.v (Value.int IntKind.u32 t5),AV.v (Value.int IntKind.u32 t6),iv t18,iv t19] [] =
 br (A.lt t19 t18)
 (unI t19 λi=>
 br (i.blt (A.slen t0)) (Ae D (Key.fn 202) [AV.v (Value.int IntKind.u8 (A.sat t0 i))] [] λr o=>
 Az r λcs=>
 At IntKind.u32 cs λn l=>
 Af l λb l1=>
 Ad l1<|
 Ac o<|
 br (A.not b)
 (some ((AV.tup [bv true,AV.ls [],iv 20],[])))
 (br (A.eq (A.mul IntKind.u32 t6 10) 1000000000)
 (Ae D (Key.fn 203) [AV.ls t4,AV.v (Value.int IntKind.u32 (A.mul IntKind.u32 t6 10)),AV.v (Value.int IntKind.u32 (A.add IntKind.u32 (A.mul IntKind.u32 t5 10) n))] [] λr1 o1=>
 BX r1 λxs=>
 Ac o1<|
 Ae D (Key.lp 148 0) [sv t0,AV.ls xs,AV.v (Value.int IntKind.u32 0),AV.v (Value.int IntKind.u32 1),iv t18,iv (A.add IntKind.i64 t19 1)] [] λr2 o2=>
 AN 0 [] (AH.mk [] 0 none) [] r2 o2)
 (Ae D (Key.lp 148 0) [sv t0,AV.ls t4,AV.v (Value.int IntKind.u32 (A.add IntKind.u32 (A.mul IntKind.u32 t5 10) n)),AV.v (Value.int IntKind.u32 (A.mul IntKind.u32 t6 10)),iv t18,iv (A.add IntKind.i64 t19 1)] [] λr1 o1=>
 AN 0 [] (AH.mk [] 0 none) [] r1 o1))) none)
 (some ((AV.tup [iv 1,AV.ls t4,AV.v (Value.int IntKind.u32 t5),AV.v (Value.int IntKind.u32 t6)],[]))):=by kernel_rfl
theorem Iw(A:Ar)(D:Orc)(t0:ByteArray)(t5:Int)(t6:Int)(t18:Int)(t19:Int):Dv A D Al EG .n 148 0 (AW PS 0).fst (AW PS 0).snd [sv t0,AV.v (Value.slice none 0 0),AV.v (Value.int IntKind.u32 t5),AV.v (Value.int IntKind.u32 t6),iv t18,iv t19] [] =
 br (A.lt t19 t18)
 (unI t19 λi=>
 br (i.blt (A.slen t0)) (Ae D (Key.fn 202) [AV.v (Value.int IntKind.u8 (A.sat t0 i))] [] λr o=>
 Az r λcs=>
 At IntKind.u32 cs λn l=>
 Af l λb l1=>
 Ad l1<|
 Ac o<|
 br (A.not b)
 (some ((AV.tup [bv true,AV.ls [],iv 20],[])))
 (br (A.eq (A.mul IntKind.u32 t6 10) 1000000000)
 (Ae D (Key.fn 203) [AV.ls [],AV.v (Value.int IntKind.u32 (A.mul IntKind.u32 t6 10)),AV.v (Value.int IntKind.u32 (A.add IntKind.u32 (A.mul IntKind.u32 t5 10) n))] [] λr1 o1=>
 BX r1 λxs=>
 Ac o1<|
 Ae D (Key.lp 148 0) [sv t0,AV.ls xs,AV.v (Value.int IntKind.u32 0),AV.v (Value.int IntKind.u32 1),iv t18,iv (A.add IntKind.i64 t19 1)] [] λr2 o2=>
 AN 0 [] (AH.mk [] 0 none) [] r2 o2)
 (Ae D (Key.lp 148 0) [sv t0,AV.v (Value.slice none 0 0),AV.v (Value.int IntKind.u32 (A.add IntKind.u32 (A.mul IntKind.u32 t5 10) n)),AV.v (Value.int IntKind.u32 (A.mul IntKind.u32 t6 10)),iv t18,iv (A.add IntKind.i64 t19 1)] [] λr1 o1=>
 AN 0 [] (AH.mk [] 0 none) [] r1 o1))) none)
 (some ((AV.tup [iv 1,AV.ls [],AV.v (Value.int IntKind.u32 t5),AV.v (Value.int IntKind.u32 t6)],[]))):=by kernel_rfl
def AhF:MFn:=Bx [] 145
def AgB:Hnt:=⟨[(200,(.ls,[]))],[],[]⟩
def Ah3:MFn:=Bx [] 209
def AgY:Hnt:=⟨[(145,(.agg [.bool,.ls],[]))],[],[(4,[.bool]),(6,[.ls])]⟩
def Amm:MFn:=Bx [] 84
def Alb:Hnt:=⟨[(145,(.agg [.bool,.ls],[])),(146,(.ls,[]))],[],[]⟩
def Amo:MFn:=Bx [] 86
def Ald:Hnt:=⟨[(145,(.agg [.bool,.ls],[]))],[],[(4,[.bool]),(7,[.ls])]⟩
def AhN:MFn:=Bx [] 158
def AgJ:Hnt:=⟨[(209,(.agg [.bool,.ls],[]))],[],[(3,[.bool,.ls]),(7,[.bool]),(10,[.ls])]⟩
def Ail:MFn:=Bx [] 285
def Ahf:Hnt:=⟨[(158,(.int .i64,[])),(205,(.int .i64,[]))],[],[(7,[.bool,.ls]),(9,[.bool,.ls]),(23,[.ls]),(25,[.ls]),(28,[.ls]),(30,[.ls])]⟩
def Amp:MFn:=Bx [] 87
def Ale:Hnt:=⟨[(145,(.agg [.bool,.ls],[])),(149,(.ls,[])),(150,(.tup [.ls,.bool],[]))],[],[(10,[.bool]),(12,[.bool]),(15,[.bool]),(17,[.ls]),(19,[.ls]),(24,[.ls]),(26,[.ls]),(32,[.bool]),(37,[.ls]),(39,[.ls]),(44,[.bool])]⟩
def Aif:MFn:=Bx [] 264
def Ag9:Hnt:=⟨[(145,(.agg [.bool,.ls],[])),(275,(.ls,[]))],[],[(6,[.bool]),(8,[.bool]),(11,[.ls]),(13,[.ls])]⟩
def Amn:MFn:=Bx [] 85
def Alc:Hnt:=⟨[(145,(.agg [.bool,.ls],[])),(147,(.tup [.str,.bool],[])),(148,(.tup [.ls,.int .i64],[]))],[],[]⟩
def AhH:MFn:=Bx [] 147
def AgD:Hnt:=⟨[(201,(.tup [.str,.bool],[]))],[],[]⟩
def Ah0:MFn:=Bx [] 201
def AgW:Hnt:=⟨[(241,(.bool,[]))],[],[]⟩
def Aid:MFn:=Bx [] 241
def Ag7:Hnt:=⟨[],[],[]⟩
def Qm:List (Nat × MFn):=[(145,AhF),(209,Ah3),(84,Amm),(86,Amo),(158,AhN),(285,Ail),(87,Amp),(264,Aif),(85,Amn),(147,AhH),(201,Ah0),(241,Aid)]
theorem Anl(A:Ar)(D:Orc)(x0:Bool)(x1:List (List AV)):BI A D Al AgB (.b (.t (.t (.b (.t .n) (.t .n)))) (.f (.f (.f .n)))) 145 AhF [bv x0,AV.ls x1] [] =
 Ae D (Key.fn 200) [AV.ls x1] [] λr o=>
 BX r λxs=>
 Ac o<|
 br x0
 (br x0 (br x0 (br (A.lt 0 ↑(A1 xs))
 (br x0 (some ((AV.agg [bv true,AV.ls xs],[]))) none)
 (br x0 (some ((AV.agg [bv false,AV.ls xs],[]))) none)) none) none)
 (br x0 none (br x0 none (br x0 none (some ((AV.agg [bv false,AV.ls xs],[])))))):=by kernel_rfl
theorem AnX(A:Ar)(D:Orc)(x0_0:Bool)(x0_1:List (List AV)):BI A D Al AgY .n 209 Ah3 [AV.agg [bv x0_0,AV.ls x0_1]] [] =
 Ae D (Key.fn 145) [bv x0_0,AV.ls x0_1] [] λr o=>
 Au r λcs=>
 Af cs λb l=>
 As l λxs l1=>
 Ad l1<|
 Ac o<|
 some ((AV.agg [bv b,AV.ls xs],[])):=by kernel_rfl
theorem e84(A:Ar)(D:Orc)(x0:Int):BI A D Al Alb .n 84 Amm [iv x0] [] =
 br (A.lt x0 0)
 (Ae D (Key.fn 146) [AV.v (Value.int IntKind.u64 (A.add IntKind.u64 (A.conv IntKind.u64 (A.sub IntKind.i64 0 (A.add IntKind.i64 x0 1))) 1))] [] λr o=>
 BX r λxs=>
 Ac o<|
 Ae D (Key.fn 145) [bv true,AV.ls xs] [] λr1 o1=>
 Au r1 λcs=>
 Af cs λb l=>
 As l λxs1 l1=>
 Ad l1<|
 Ac o1<|
 some ((AV.agg [bv b,AV.ls xs1],[])))
 (Ae D (Key.fn 146) [AV.v (Value.int IntKind.u64 (A.conv IntKind.u64 x0))] [] λr o=>
 BX r λxs=>
 Ac o<|
 Ae D (Key.fn 145) [bv false,AV.ls xs] [] λr1 o1=>
 Au r1 λcs=>
 Af cs λb l=>
 As l λxs1 l1=>
 Ad l1<|
 Ac o1<|
 some ((AV.agg [bv b,AV.ls xs1],[]))):=by kernel_rfl
theorem e86(A:Ar)(D:Orc)(x0_0:Bool)(x0_1:List (List AV)):BI A D Al Ald .n 86 Amo [AV.agg [bv x0_0,AV.ls x0_1]] [] =
 br (A.not x0_0)
 (Ae D (Key.fn 145) [bv true,AV.ls x0_1] [] λr o=>
 Au r λcs=>
 Af cs λb l=>
 As l λxs l1=>
 Ad l1<|
 Ac o<|
 some ((AV.agg [bv b,AV.ls xs],[])))
 (Ae D (Key.fn 145) [bv false,AV.ls x0_1] [] λr o=>
 Au r λcs=>
 Af cs λb l=>
 As l λxs l1=>
 Ad l1<|
 Ac o<|
 some ((AV.agg [bv b,AV.ls xs],[]))):=by kernel_rfl
theorem Anw(A:Ar)(D:Orc)(x0_0:Bool)(x0_1:List (List AV)):BI A D Al AgJ .n 158 AhN [AV.agg [bv x0_0,AV.ls x0_1]] [] =
 Ae D (Key.fn 209) [AV.agg [bv x0_0,AV.ls x0_1]] [] λr o=>
 Au r λcs=>
 Af cs λb l=>
 As l λxs l1=>
 Ad l1<|
 Ac o<|
 br b
 (some ((iv (-1),[])))
 (br (A.lt 0 ↑(A1 xs))
 (some ((iv 1,[])))
 (some ((iv 0,[])))):=by kernel_rfl
theorem Aoq(A:Ar)(D:Orc)(x0_0:Bool)(x0_1:List (List AV))(x1_0:Bool)(x1_1:List (List AV)):BI A D Al Ahf .n 285 Ail [AV.agg [bv x0_0,AV.ls x0_1],AV.agg [bv x1_0,AV.ls x1_1]] [] =
 Ae D (Key.fn 158) [AV.agg [bv x0_0,AV.ls x0_1]] [] λr o=>
 AT IntKind.i64 r λn=>
 Ac o<|
 Ae D (Key.fn 158) [AV.agg [bv x1_0,AV.ls x1_1]] [] λr1 o1=>
 AT IntKind.i64 r1 λn1=>
 Ac o1<|
 br (A.lt n n1)
 (some ((iv (-1),[])))
 (br (A.lt n1 n)
 (some ((iv 1,[])))
 (br (A.lt n 0)
 (Ae D (Key.fn 205) [AV.ls x1_1,AV.ls x0_1] [] λr2 o2=>
 AT IntKind.i64 r2 λn2=>
 Ac o2<|
 some ((iv n2,[])))
 (Ae D (Key.fn 205) [AV.ls x0_1,AV.ls x1_1] [] λr2 o2=>
 AT IntKind.i64 r2 λn2=>
 Ac o2<|
 some ((iv n2,[]))))):=by kernel_rfl
theorem e87(A:Ar)(D:Orc)(x0_0:Bool)(x0_1:List (List AV))(x1_0:Bool)(x1_1:List (List AV)):BI A D Al Ale .n 87 Amp [AV.agg [bv x0_0,AV.ls x0_1],AV.agg [bv x1_0,AV.ls x1_1]] [] =
 br (A.beq x0_0 x1_0)
 (Ae D (Key.fn 149) [AV.ls x0_1,AV.ls x1_1] [] λr o=>
 BX r λxs=>
 Ac o<|
 Ae D (Key.fn 145) [bv x0_0,AV.ls xs] [] λr1 o1=>
 Au r1 λcs=>
 Af cs λb l=>
 As l λxs1 l1=>
 Ad l1<|
 Ac o1<|
 some ((AV.agg [bv b,AV.ls xs1],[])))
 (Ae D (Key.fn 150) [AV.ls x0_1,AV.ls x1_1] [] λr o=>
 Az r λcs=>
 As cs λxs l=>
 Af l λb l1=>
 Ad l1<|
 Ac o<|
 br b
 (Ae D (Key.fn 145) [bv x0_0,AV.ls xs] [] λr1 o1=>
 Au r1 λcs1=>
 Af cs1 λb1 l2=>
 As l2 λxs1 l3=>
 Ad l3<|
 Ac o1<|
 some ((AV.agg [bv b1,AV.ls xs1],[])))
 (Ae D (Key.fn 150) [AV.ls x1_1,AV.ls x0_1] [] λr1 o1=>
 Az r1 λcs1=>
 As cs1 λxs1 l2=>
 Af l2 λ_ l3=>
 Ad l3<|
 Ac o1<|
 Ae D (Key.fn 145) [bv x1_0,AV.ls xs1] [] λr2 o2=>
 Au r2 λcs2=>
 Af cs2 λb2 l4=>
 As l4 λxs2 l5=>
 Ad l5<|
 Ac o2<|
 some ((AV.agg [bv b2,AV.ls xs2],[])))):=by kernel_rfl
theorem Aoh(A:Ar)(D:Orc)(x0_0:Bool)(x0_1:List (List AV))(x1_0:Bool)(x1_1:List (List AV)):BI A D Al Ag9 .n 264 Aif [AV.agg [bv x0_0,AV.ls x0_1],AV.agg [bv x1_0,AV.ls x1_1]] [] =
 br (A.not (A.beq x0_0 x1_0))
 (Ae D (Key.fn 275) [AV.ls x0_1,AV.ls x1_1] [] λr o=>
 BX r λxs=>
 Ac o<|
 Ae D (Key.fn 145) [bv true,AV.ls xs] [] λr1 o1=>
 Au r1 λcs=>
 Af cs λb l=>
 As l λxs1 l1=>
 Ad l1<|
 Ac o1<|
 some ((AV.agg [bv b,AV.ls xs1],[])))
 (Ae D (Key.fn 275) [AV.ls x0_1,AV.ls x1_1] [] λr o=>
 BX r λxs=>
 Ac o<|
 Ae D (Key.fn 145) [bv false,AV.ls xs] [] λr1 o1=>
 Au r1 λcs=>
 Af cs λb l=>
 As l λxs1 l1=>
 Ad l1<|
 Ac o1<|
 some ((AV.agg [bv b,AV.ls xs1],[]))):=by kernel_rfl
theorem e85(A:Ar)(D:Orc)(x0:ByteArray):BI A D Al Alc .n 85 Amn [sv x0] [] =
 Ae D (Key.fn 147) [sv x0,sv (AI [45])] [] λr o=>
 Az r λcs=>
 Bv cs λs l=>
 Af l λb l1=>
 Ad l1<|
 Ac o<|
 Ae D (Key.fn 148) [sv s] [] λr1 o1=>
 Az r1 λcs1=>
 As cs1 λxs l2=>
 At IntKind.i64 l2 λn l3=>
 Ad l3<|
 Ac o1<|
 br (A.eq n 0)
 (Ae D (Key.fn 145) [bv b,AV.ls xs] [] λr2 o2=>
 Au r2 λcs2=>
 Af cs2 λb1 l4=>
 As l4 λxs1 l5=>
 Ad l5<|
 Ac o2<|
 some ((AV.tup [AV.agg [bv b1,AV.ls xs1],iv 0],[])))
 (some ((AV.tup [AV.agg [bv false,AV.ls []],iv n],[]))):=by kernel_rfl
theorem Ann(A:Ar)(D:Orc)(x0:ByteArray)(x1:ByteArray):BI A D Al AgD .n 147 AhH [sv x0,sv x1] [] =
 Ae D (Key.fn 201) [sv x0,sv x1] [] λr o=>
 Az r λcs=>
 Bv cs λs l=>
 Af l λb l1=>
 Ad l1<|
 Ac o<|
 some ((AV.tup [sv s,bv b],[])):=by kernel_rfl
theorem AnR(A:Ar)(D:Orc)(x0:ByteArray)(x1:ByteArray):BI A D Al AgW .n 201 Ah0 [sv x0,sv x1] [] =
 Ae D (Key.fn 241) [sv x0,sv x1] [] λr o=>
 AR r λb=>
 Ac o<|
 br b
 (br (J3 (A.slen x1) (A.slen x0) (A.slen x0)) (some ((AV.tup [sv (A.ssub x0 (A.slen x1) (A.slen x0)),bv true],[]))) none)
 (some ((AV.tup [sv x0,bv false],[]))):=by kernel_rfl
theorem Aoa(A:Ar)(D:Orc)(x0:ByteArray)(x1:ByteArray):BI A D Al Ag7 .n 241 Aid [sv x0,sv x1] [] =
 br (A.le ↑(A.slen x1) ↑(A.slen x0))
 (br (J3 0 (A.slen x1) (A.slen x0)) (br (A.seq (A.ssub x0 0 (A.slen x1)) x1)
 (some ((bv true,[])))
 (some ((bv false,[])))) none)
 (some ((bv false,[]))):=by kernel_rfl
def Ah2:MFn:=Bx [] 207
def AgX:Hnt:=⟨[],[],[]⟩
def AhK:MFn:=Bx [] 154
def AgG:Hnt:=⟨[(207,(.bool,[]))],[],[]⟩
def AhJ:MFn:=Bx [] 153
def AgF:Hnt:=⟨[(154,(.int .i64,[]))],[],[(6,[.int .i64]),(8,[.int .i64])]⟩
def AhM:MFn:=Bx [] 157
def AgI:Hnt:=⟨[(158,(.int .i64,[]))],[],[(4,[.bool,.ls])]⟩
def AhI:MFn:=MK Tryz.prog Bk [] false true 152
def AgE:Hnt:=⟨[(153,(.int .i64,[])),(206,(.tup [],[.row true]))],[],[]⟩
def Alx:Be:=[⟨63,[true,true,true,false,false,false,true,true,true],[],[],[(1,([true,true,true,false,false,false,true,true],([],[1000000])))]⟩,⟨63,[true,true,true,false,false,false,true],[],[],[(3,([true],([],[1000000])))]⟩,⟨63,[true,true,true,false,false,false,true,true,true],[],[],[(5,([true,true,true,false,false,false,true,true],([],[1000000])))]⟩]
def Me:MFn:=MK Tryz.prog Bk Alx false true 206
def G7:Hnt:=⟨[(153,(.int .i64,[])),(242,(.tup [],[.row true])),(243,(.tup [],[.row true]))],[(0,[(1,([.sl 0 3,.int .i64,.fnc 153,.int .i64,.int .i64],[.row true]))]),(1,[(3,([.sl 0 3],[.row true]))]),(2,[(5,([.sl 0 3,.int .i64,.fnc 153,.int .i64,.int .i64],[.row true]))])],[]⟩
def AlC:Be:=[⟨53,[true,true,true,true,false,false,false,false,true],[],[],[(1,([true],([],[1000000])))]⟩,⟨53,[true,true,true,true,false,false,false,false,true,true],[],[],[(3,([true,true,true,true,false,false,false,false,true],([],[1000000])))]⟩]
def PV:MFn:=MK Tryz.prog Bk AlC false true 242
def Ht:Hnt:=⟨[(153,(.int .i64,[]))],[(0,[(1,([.sl 0 3],[.row true]))]),(1,[(3,([.sl 0 3,.int .i64,.int .i64,.fnc 153,.int .i64],[.row true]))])],[(25,[.int .i64,.bool,.ls]),(26,[.int .i64,.bool,.ls]),(30,[.int .i64,.bool,.ls]),(31,[.int .i64,.bool,.ls]),(45,[.int .i64,.bool,.ls]),(46,[.int .i64,.bool,.ls]),(49,[.int .i64,.bool,.ls]),(50,[.int .i64,.bool,.ls]),(51,[.int .i64,.bool,.ls]),(52,[.int .i64,.bool,.ls])]⟩
def AlD:Be:=[⟨220,[true,true,false,false,true,false,false,false,false,false,true,true],[],[],[(1,([true,true,false,false,false,false,false,false,false,false,true],([],[1000000])))]⟩,⟨220,[true,false,false,false,false,false,false,false,false,false,true,false,false,true],[],[],[(3,([true],([],[1000000])))]⟩,⟨220,[true,false,true,false,true,false,false,false,false,false,false,false,false,false,true,true],[],[],[(5,([true,false,true,false,false,false,false,false,false,false,false,false,false,false,true],([],[1000000])))]⟩,⟨220,[true,false,false,false,false,false,false,false,false,false,false,false,false,false,true,false,false,true],[],[],[(7,([true],([],[1000000])))]⟩,⟨220,[true,true,true,true,true,false,false,false,false,false,false,false,false,false,false,false,false,false,true,true,true,true,true],[],[],[(9,([true,true,true,true,true,false,false,false,false,false,false,false,false,false,false,false,false,false,true,true,true],([],[1000000])))]⟩]
def G9:MFn:=MK Tryz.prog Bk AlD false true 243
def CM:Hnt:=⟨[(153,(.int .i64,[])),(243,(.tup [],[.row true])),(260,(.tup [],[.row true]))],[(0,[(1,([.sl 0 3,.int .i64,.int .i64],[.row true]))]),(1,[(3,([.sl 0 3],[.row true]))]),(2,[(5,([.sl 0 3,.int .i64,.int .i64],[.row true]))]),(3,[(7,([.sl 0 3],[.row true]))]),(4,[(9,([.sl 0 3,.int .i64,.int .i64,.int .i64,.fnc 153,.int .i64,.int .i64,.int .i64],[.row true]))])],[(43,[.int .i64,.bool,.ls]),(44,[.int .i64,.bool,.ls]),(47,[.int .i64,.bool,.ls]),(48,[.int .i64,.bool,.ls]),(69,[.int .i64,.bool,.ls]),(70,[.int .i64,.bool,.ls]),(73,[.int .i64,.bool,.ls]),(74,[.int .i64,.bool,.ls]),(75,[.int .i64,.bool,.ls]),(76,[.int .i64,.bool,.ls]),(95,[.int .i64,.bool,.ls]),(96,[.int .i64,.bool,.ls]),(99,[.int .i64,.bool,.ls]),(100,[.int .i64,.bool,.ls]),(121,[.int .i64,.bool,.ls]),(122,[.int .i64,.bool,.ls]),(125,[.int .i64,.bool,.ls]),(126,[.int .i64,.bool,.ls]),(127,[.int .i64,.bool,.ls]),(128,[.int .i64,.bool,.ls]),(163,[.int .i64,.bool,.ls]),(164,[.int .i64,.bool,.ls]),(167,[.int .i64,.bool,.ls]),(168,[.int .i64,.bool,.ls])]⟩
def AlI:Be:=[⟨58,[true,false,true,false,true,false,false,false,false,false,true,true],[],[],[(1,([true,false,true,false,true,false,false,false,false,false,true],([],[1000000])))]⟩]
def Wt:MFn:=MK Tryz.prog Bk AlI false true 260
def PK:Hnt:=⟨[(153,(.int .i64,[])),(273,(.tup [],[.row true]))],[(0,[(1,([.sl 0 3,.int .i64,.fnc 153,.int .i64],[.row true]))])],[]⟩
def AlJ:Be:=[⟨38,[true,true,true,true,false,false,false,false,false,false,true],[],[],[(1,([true],([],[1000000])))]⟩]
def Wu:MFn:=MK Tryz.prog Bk AlJ false true 273
def SG:Hnt:=⟨[(153,(.int .i64,[]))],[(0,[(1,([.sl 0 3],[.row true]))])],[(28,[.int .i64,.bool,.ls]),(29,[.int .i64,.bool,.ls]),(34,[.int .i64,.bool,.ls]),(35,[.int .i64,.bool,.ls]),(36,[.int .i64,.bool,.ls]),(37,[.int .i64,.bool,.ls])]⟩
def All:Be:=[⟨42,[true,true,false,false,false,true,true],[],[],[(1,([true,false,false,false,false,true],([],[1000000])))]⟩]
def We:MFn:=MK Tryz.prog Bk All true true 156
def NO:Hnt:=⟨[(157,(.bool,[])),(208,(.int .i64,[.row true]))],[(0,[(1,([.sl 0 3,.int .i64],[.row true]))])],[(24,[.int .i64,.bool,.ls]),(25,[.int .i64,.bool,.ls]),(27,[.int .i64,.bool,.ls]),(32,[.int .i64,.bool,.ls]),(33,[.int .i64,.bool,.ls])]⟩
def Aly:Be:=[⟨19,[true,true,false,false,false,false,false,true,true],[],[],[(0,([true,false,false,false,true],([],[1000000]))),(1,([true],([],[1000000])))]⟩]
def Wn:MFn:=MK Tryz.prog Bk Aly false true 208
def NQ:Hnt:=⟨[(157,(.bool,[]))],[(0,[(0,([.sl 0 3,.int .i64],[.row true])),(1,([.sl 0 3],[.row true]))])],[(14,[.int .i64,.bool,.ls]),(15,[.int .i64,.bool,.ls])]⟩
def Fk:List (Nat × MFn):=[(207,Ah2),(154,AhK),(153,AhJ),(157,AhM),(152,AhI),(206,Me),(242,PV),(243,G9),(260,Wt),(273,Wu),(156,We),(208,Wn)]
theorem AnV(A:Ar)(D:Orc)(x0:Int):BI A D Al AgX .n 207 Ah2 [iv x0] [] =
 br (A.eq x0 x0)
 (some ((bv false,[])))
 (some ((bv true,[]))):=by kernel_rfl
theorem Ant(A:Ar)(D:Orc)(x0:Int)(x1:Int):BI A D Al AgG .n 154 AhK [iv x0,iv x1] [] =
 Ae D (Key.fn 207) [iv x0] [] λr o=>
 AR r λb=>
 Ac o<|
 br b
 (Ae D (Key.fn 207) [iv x1] [] λr1 o1=>
 AR r1 λb1=>
 Ac o1<|
 br b1
 (some ((iv 0,[])))
 (some ((iv (-1),[]))))
 (Ae D (Key.fn 207) [iv x1] [] λr1 o1=>
 AR r1 λb1=>
 Ac o1<|
 br b1
 (some ((iv 1,[])))
 (br (A.lt x0 x1)
 (some ((iv (-1),[])))
 (br (A.lt x1 x0)
 (some ((iv 1,[])))
 (some ((iv 0,[])))))):=by kernel_rfl
theorem Ans(A:Ar)(D:Orc)(x0_0:Int)(x0_1:Bool)(x0_2:List (List AV))(x1_0:Int)(x1_1:Bool)(x1_2:List (List AV)):BI A D Al AgF .n 153 AhJ [AV.agg [iv x0_0,bv x0_1,AV.ls x0_2],AV.agg [iv x1_0,bv x1_1,AV.ls x1_2]] [] =
 Ae D (Key.fn 154) [iv x0_0,iv x1_0] [] λr o=>
 AT IntKind.i64 r λn=>
 Ac o<|
 some ((iv n,[])):=by kernel_rfl
theorem Anv(A:Ar)(D:Orc)(x0_0:Int)(x0_1:Bool)(x0_2:List (List AV)):BI A D Al AgI .n 157 AhM [AV.agg [iv x0_0,bv x0_1,AV.ls x0_2]] [] =
 Ae D (Key.fn 158) [AV.agg [bv x0_1,AV.ls x0_2]] [] λr o=>
 AT IntKind.i64 r λn=>
 Ac o<|
 br (A.eq n 0)
 (some ((bv true,[])))
 (some ((bv false,[]))):=by kernel_rfl
theorem Anr(A:Ar)(D:Orc)(n0:Nat)(c0:List AV):BI A D Al AgE .n 152 AhI [AV.sl 0 0 n0 3,AV.fn (Fn.func 153) [] []] [{ cells:=c0,st:=true,ex:=true }] =
 Ae D (Key.fn 206) [AV.sl 0 0 n0 3,iv ↑n0,AV.fn (Fn.func 153) [] []] [ABlk.mk c0 true true] λr o=>
 Az r λcs=>
 Ad cs<|
 Am o λc l=>
 AE true true c λcs1=>
 Ac l<|
 some ((AV.tup [],[BO.set (ABlk.mk cs1 true true)])):=by kernel_rfl
theorem AnU(A:Ar)(D:Orc)(n0:Nat)(c0:List AV)(x1:Int):BI A D Al G7 .n 206 Me [AV.sl 0 0 n0 3,iv x1,AV.fn (Fn.func 153) [] []] [{ cells:=c0,st:=true,ex:=true }] =
 Ae D (Key.lp 206 0) [AV.sl 0 0 n0 3,iv x1,AV.fn (Fn.func 153) [] [],iv 20,iv 0,iv 20] [ABlk.mk c0 true true] λr o=>
 Az r λcs=>
 Ai cs λc l=>
 br (Bi 1 c)
 (Ai l λc1 l1=>
 B1 0 3 c1 λn=>
 At IntKind.i64 l1 λn1 l2=>
 Ai l2 λc2 l3=>
 Pe 153 c2<|
 At IntKind.i64 l3 λn2 l4=>
 At IntKind.i64 l4 λn3 l5=>
 Ad l5<|
 Am o λc3 l6=>
 AE true true c3 λcs1=>
 Ac l6<|
 Ae D (Key.fn 242) [AV.sl 0 0 n 3,iv n3,iv n1,AV.fn (Fn.func 153) [] []] [ABlk.mk cs1 true true] λr1 o1=>
 Az r1 λcs2=>
 Ad cs2<|
 Am o1 λc4 l7=>
 AE true true c4 λcs3=>
 Ac l7<|
 Ae D (Key.lp 206 1) [AV.sl 0 0 n 3,iv n1,AV.fn (Fn.func 153) [] [],iv n2] [ABlk.mk cs3 true true] λr2 o2=>
 Az r2 λcs4=>
 Ai cs4 λc5 l8=>
 br (Bi 3 c5)
 (Ai l8 λc6 l9=>
 B1 0 3 c6 λ_=>
 Ad l9<|
 Am o2 λc7 l10=>
 AE true true c7 λcs5=>
 Ac l10<|
 some ((AV.tup [],[BO.set (ABlk.mk cs5 true true)])))
 (none))
 (none):=by kernel_rfl
theorem Z6(A:Ar)(D:Orc)(n0:Nat)(c0:List AV)(t1:Int)(t6:Int)(t7:Int)(t8:Int):Dv A D Al G7 .n 206 0 (AW Me 0).fst (AW Me 0).snd [AV.sl 0 0 n0 3,iv t1,AV.fn (Fn.func 153) [] [],iv t6,iv t7,iv t8] [{ cells:=c0,st:=true,ex:=true }] =
 br (A.le t8 t1)
 (Ae D (Key.fn 242) [AV.sl 0 0 n0 3,iv t7,iv t8,AV.fn (Fn.func 153) [] []] [ABlk.mk c0 true true] λr o=>
 Az r λcs=>
 Ad cs<|
 Am o λc l=>
 AE true true c λcs1=>
 Ac l<|
 Ae D (Key.lp 206 0) [AV.sl 0 0 n0 3,iv t1,AV.fn (Fn.func 153) [] [],iv t6,iv t8,iv (A.add IntKind.i64 t8 t6)] [ABlk.mk cs1 true true] λr1 o1=>
 AN 1 [0] (AH.mk [(0,ABlk.mk cs1 true true)] 1 none) [0] r1 o1)
 (some ((AV.tup [iv 0,AV.sl 0 0 n0 3,iv t1,AV.fn (Fn.func 153) [] [],iv t6,iv t7],[BO.set (ABlk.mk c0 true true)]))):=by kernel_rfl
theorem Ux(A:Ar)(D:Orc)(n0:Nat)(c0:List AV)(t1:Int)(t6:Int):Dv A D Al G7 .n 206 1 (AW Me 1).fst (AW Me 1).snd [AV.sl 0 0 n0 3,iv t1,AV.fn (Fn.func 153) [] [],iv t6] [{ cells:=c0,st:=true,ex:=true }] =
 br (A.lt t6 t1)
 (Ae D (Key.lp 206 2) [AV.sl 0 0 n0 3,iv t1,AV.fn (Fn.func 153) [] [],iv t6,iv 0,iv (A.mul IntKind.i64 2 t6)] [ABlk.mk c0 true true] λr o=>
 Az r λcs=>
 Ai cs λc l=>
 br (Bi 5 c)
 (Ai l λc1 l1=>
 B1 0 3 c1 λn=>
 At IntKind.i64 l1 λn1 l2=>
 Ai l2 λc2 l3=>
 Pe 153 c2<|
 At IntKind.i64 l3 λn2 l4=>
 At IntKind.i64 l4 λn3 l5=>
 Ad l5<|
 Am o λc3 l6=>
 AE true true c3 λcs1=>
 Ac l6<|
 br (A.lt (A.add IntKind.i64 n3 n2) n1)
 (Ae D (Key.fn 243) [AV.sl 0 0 n 3,iv n3,iv (A.add IntKind.i64 n3 n2),iv n1,AV.fn (Fn.func 153) [] []] [ABlk.mk cs1 true true] λr1 o1=>
 Az r1 λcs2=>
 Ad cs2<|
 Am o1 λc4 l7=>
 AE true true c4 λcs3=>
 Ac l7<|
 Ae D (Key.lp 206 1) [AV.sl 0 0 n 3,iv n1,AV.fn (Fn.func 153) [] [],iv (A.mul IntKind.i64 n2 2)] [ABlk.mk cs3 true true] λr2 o2=>
 AN 1 [0] (AH.mk [(0,ABlk.mk cs3 true true)] 1 none) [0] r2 o2)
 (Ae D (Key.lp 206 1) [AV.sl 0 0 n 3,iv n1,AV.fn (Fn.func 153) [] [],iv (A.mul IntKind.i64 n2 2)] [ABlk.mk cs1 true true] λr1 o1=>
 AN 1 [0] (AH.mk [(0,ABlk.mk cs1 true true)] 1 none) [0] r1 o1))
 (none))
 (some ((AV.tup [iv 2,AV.sl 0 0 n0 3],[BO.set (ABlk.mk c0 true true)]))):=by kernel_rfl
theorem Z7(A:Ar)(D:Orc)(n0:Nat)(c0:List AV)(t1:Int)(t6:Int)(t7:Int)(t8:Int):Dv A D Al G7 .n 206 2 (AW Me 2).fst (AW Me 2).snd [AV.sl 0 0 n0 3,iv t1,AV.fn (Fn.func 153) [] [],iv t6,iv t7,iv t8] [{ cells:=c0,st:=true,ex:=true }] =
 br (A.le t8 t1)
 (Ae D (Key.fn 243) [AV.sl 0 0 n0 3,iv t7,iv (A.add IntKind.i64 t7 t6),iv t8,AV.fn (Fn.func 153) [] []] [ABlk.mk c0 true true] λr o=>
 Az r λcs=>
 Ad cs<|
 Am o λc l=>
 AE true true c λcs1=>
 Ac l<|
 Ae D (Key.lp 206 2) [AV.sl 0 0 n0 3,iv t1,AV.fn (Fn.func 153) [] [],iv t6,iv t8,iv (A.add IntKind.i64 t8 (A.mul IntKind.i64 2 t6))] [ABlk.mk cs1 true true] λr1 o1=>
 AN 1 [0] (AH.mk [(0,ABlk.mk cs1 true true)] 1 none) [0] r1 o1)
 (some ((AV.tup [iv 4,AV.sl 0 0 n0 3,iv t1,AV.fn (Fn.func 153) [] [],iv t6,iv t7],[BO.set (ABlk.mk c0 true true)]))):=by kernel_rfl
theorem AkP(A:Ar)(D:Orc)(n0:Nat)(c0:List AV)(x1:Int)(x2:Int):BI A D Al Ht .n 242 PV [AV.sl 0 0 n0 3,iv x1,iv x2,AV.fn (Fn.func 153) [] []] [{ cells:=c0,st:=true,ex:=true }] =
 Ae D (Key.lp 242 0) [AV.sl 0 0 n0 3,iv x1,iv x2,AV.fn (Fn.func 153) [] [],iv (A.add IntKind.i64 x1 1)] [ABlk.mk c0 true true] λr o=>
 Az r λcs=>
 Ai cs λc l=>
 br (Bi 1 c)
 (Ai l λc1 l1=>
 B1 0 3 c1 λ_=>
 Ad l1<|
 Am o λc2 l2=>
 AE true true c2 λcs1=>
 Ac l2<|
 some ((AV.tup [],[BO.set (ABlk.mk cs1 true true)])))
 (none):=by kernel_rfl
theorem Uy(A:Ar)(D:Orc)(n0:Nat)(c0:List AV)(t1:Int)(t2:Int)(t8:Int):Dv A D Al Ht .n 242 0 (AW PV 0).fst (AW PV 0).snd [AV.sl 0 0 n0 3,iv t1,iv t2,AV.fn (Fn.func 153) [] [],iv t8] [{ cells:=c0,st:=true,ex:=true }] =
 br (A.lt t8 t2)
 (Ae D (Key.lp 242 1) [AV.sl 0 0 n0 3,iv t1,iv t2,AV.fn (Fn.func 153) [] [],iv t8,iv t8] [ABlk.mk c0 true true] λr o=>
 Az r λcs=>
 Ai cs λc l=>
 br (Bi 3 c)
 (Ai l λc1 l1=>
 B1 0 3 c1 λn=>
 At IntKind.i64 l1 λn1 l2=>
 At IntKind.i64 l2 λn2 l3=>
 Ai l3 λc2 l4=>
 Pe 153 c2<|
 At IntKind.i64 l4 λn3 l5=>
 Ad l5<|
 Am o λc3 l6=>
 AE true true c3 λcs1=>
 Ac l6<|
 Ae D (Key.lp 242 0) [AV.sl 0 0 n 3,iv n1,iv n2,AV.fn (Fn.func 153) [] [],iv (A.add IntKind.i64 n3 1)] [ABlk.mk cs1 true true] λr1 o1=>
 AN 1 [0] (AH.mk [(0,ABlk.mk cs1 true true)] 1 none) [0] r1 o1)
 (none))
 (some ((AV.tup [iv 0,AV.sl 0 0 n0 3],[BO.set (ABlk.mk c0 true true)]))):=by kernel_rfl
theorem Uz(A:Ar)(D:Orc)(n0:Nat)(c0:List AV)(t1:Int)(t2:Int)(t8:Int)(t9:Int):Dv A D Al Ht .n 242 1 (AW PV 1).fst (AW PV 1).snd [AV.sl 0 0 n0 3,iv t1,iv t2,AV.fn (Fn.func 153) [] [],iv t8,iv t9] [{ cells:=c0,st:=true,ex:=true }] =
 br (A.lt t1 t9)
 (unI t9 λi=>
 br (i.blt n0) (IG c0 (0+i*3) 3 λcs=>
 At IntKind.i64 cs λn l=>
 Af l λb l1=>
 As l1 λxs l2=>
 Ad l2<|
 unI (A.sub IntKind.i64 t9 1) λi1=>
 br (i1.blt n0) (IG c0 (0+i1*3) 3 λcs1=>
 At IntKind.i64 cs1 λn1 l3=>
 Af l3 λb1 l4=>
 As l4 λxs1 l5=>
 Ad l5<|
 Ae D (Key.fn 153) [AV.agg [iv n,bv b,AV.ls xs],AV.agg [iv n1,bv b1,AV.ls xs1]] [] λr o=>
 AT IntKind.i64 r λn2=>
 Ac o<|
 br (A.lt n2 0)
 (unI (A.sub IntKind.i64 t9 1) λi2=>
 br (i2.blt n0) (IG c0 (0+i2*3) 3 λcs2=>
 At IntKind.i64 cs2 λn3 l6=>
 Af l6 λb2 l7=>
 As l7 λxs2 l8=>
 Ad l8<|
 unI t9 λi3=>
 br (i3.blt n0) (IG c0 (0+i3*3) 3 λcs3=>
 At IntKind.i64 cs3 λn4 l9=>
 Af l9 λb3 l10=>
 As l10 λxs3 l11=>
 Ad l11<|
 unI t9 λi4=>
 br (i4.blt n0) (br ((0+i4*3+3).ble c0.length) (unI (A.sub IntKind.i64 t9 1) λi5=>
 br (i5.blt n0) (br ((0+i5*3+3).ble (Ba c0 (0+i4*3) [iv n3,bv b2,AV.ls xs2]).length) (Ae D (Key.lp 242 1) [AV.sl 0 0 n0 3,iv t1,iv t2,AV.fn (Fn.func 153) [] [],iv t8,iv (A.sub IntKind.i64 t9 1)] [ABlk.mk (Ba (Ba c0 (0+i4*3) [iv n3,bv b2,AV.ls xs2]) (0+i5*3) [iv n4,bv b3,AV.ls xs3]) true true] λr1 o1=>
 AN 1 [0] (AH.mk [(0,ABlk.mk (Ba (Ba c0 (0+i4*3) [iv n3,bv b2,AV.ls xs2]) (0+i5*3) [iv n4,bv b3,AV.ls xs3]) true true)] 1 none) [0] r1 o1) none) none) none) none) none) none)
 (some ((AV.tup [iv 2,AV.sl 0 0 n0 3,iv t1,iv t2,AV.fn (Fn.func 153) [] [],iv t8],[BO.set (ABlk.mk c0 true true)])))) none) none)
 (some ((AV.tup [iv 2,AV.sl 0 0 n0 3,iv t1,iv t2,AV.fn (Fn.func 153) [] [],iv t8],[BO.set (ABlk.mk c0 true true)]))):=by kernel_rfl
theorem R5(A:Ar)(D:Orc)(n0:Nat)(c0:List AV)(x1:Int)(x2:Int)(x3:Int):BI A D Al CM .n 243 G9 [AV.sl 0 0 n0 3,iv x1,iv x2,iv x3,AV.fn (Fn.func 153) [] []] [{ cells:=c0,st:=true,ex:=true }] =
 br (A.eq (A.sub IntKind.i64 x2 x1) 1)
 (Ae D (Key.lp 243 0) [AV.sl 0 0 n0 3,iv x1,AV.fn (Fn.func 153) [] [],iv x2,iv x3] [ABlk.mk c0 true true] λr o=>
 Az r λcs=>
 Ai cs λc l=>
 br (Bi 1 c)
 (Ai l λc1 l1=>
 B1 0 3 c1 λn=>
 At IntKind.i64 l1 λn1 l2=>
 At IntKind.i64 l2 λn2 l3=>
 Ad l3<|
 Am o λc2 l4=>
 AE true true c2 λcs1=>
 Ac l4<|
 Ae D (Key.lp 243 1) [AV.sl 0 0 n 3,iv n2,iv n1] [ABlk.mk cs1 true true] λr1 o1=>
 Az r1 λcs2=>
 Ai cs2 λc3 l5=>
 br (Bi 3 c3)
 (Ai l5 λc4 l6=>
 B1 0 3 c4 λ_=>
 Ad l6<|
 Am o1 λc5 l7=>
 AE true true c5 λcs3=>
 Ac l7<|
 some ((AV.tup [],[BO.set (ABlk.mk cs3 true true)])))
 (none))
 (none))
 (br (A.eq (A.sub IntKind.i64 x3 x2) 1)
 (Ae D (Key.lp 243 2) [AV.sl 0 0 n0 3,iv x2,AV.fn (Fn.func 153) [] [],iv x1,iv x2] [ABlk.mk c0 true true] λr o=>
 Az r λcs=>
 Ai cs λc l=>
 br (Bi 5 c)
 (Ai l λc1 l1=>
 B1 0 3 c1 λn=>
 At IntKind.i64 l1 λn1 l2=>
 At IntKind.i64 l2 λn2 l3=>
 Ad l3<|
 Am o λc2 l4=>
 AE true true c2 λcs1=>
 Ac l4<|
 Ae D (Key.lp 243 3) [AV.sl 0 0 n 3,iv n2,iv n1] [ABlk.mk cs1 true true] λr1 o1=>
 Az r1 λcs2=>
 Ai cs2 λc3 l5=>
 br (Bi 7 c3)
 (Ai l5 λc4 l6=>
 B1 0 3 c4 λ_=>
 Ad l6<|
 Am o1 λc5 l7=>
 AE true true c5 λcs3=>
 Ac l7<|
 some ((AV.tup [],[BO.set (ABlk.mk cs3 true true)])))
 (none))
 (none))
 (br (A.lt 1 0)
 (none)
 (br (A.lt (A.conv IntKind.i64 (A.shr IntKind.u64 (A.conv IntKind.u64 (A.add IntKind.i64 x1 x3)) 1)) x2)
 (Ae D (Key.lp 243 4) [AV.sl 0 0 n0 3,iv x1,iv x2,iv x3,AV.fn (Fn.func 153) [] [],iv (A.conv IntKind.i64 (A.shr IntKind.u64 (A.conv IntKind.u64 (A.add IntKind.i64 x1 x3)) 1)),iv (A.add IntKind.i64 (A.conv IntKind.i64 (A.shr IntKind.u64 (A.conv IntKind.u64 (A.add IntKind.i64 x1 x3)) 1)) x2),iv (A.sub IntKind.i64 (A.add IntKind.i64 (A.conv IntKind.i64 (A.shr IntKind.u64 (A.conv IntKind.u64 (A.add IntKind.i64 x1 x3)) 1)) x2) x3),iv (A.conv IntKind.i64 (A.shr IntKind.u64 (A.conv IntKind.u64 (A.add IntKind.i64 x1 x3)) 1)),iv (A.sub IntKind.i64 (A.add IntKind.i64 (A.conv IntKind.i64 (A.shr IntKind.u64 (A.conv IntKind.u64 (A.add IntKind.i64 x1 x3)) 1)) x2) 1)] [ABlk.mk c0 true true] λr o=>
 Az r λcs=>
 Ai cs λc l=>
 br (Bi 9 c)
 (Ai l λc1 l1=>
 B1 0 3 c1 λn=>
 At IntKind.i64 l1 λn1 l2=>
 At IntKind.i64 l2 λn2 l3=>
 At IntKind.i64 l3 λn3 l4=>
 Ai l4 λc2 l5=>
 Pe 153 c2<|
 At IntKind.i64 l5 λn4 l6=>
 At IntKind.i64 l6 λn5 l7=>
 At IntKind.i64 l7 λn6 l8=>
 Ad l8<|
 Am o λc3 l9=>
 AE true true c3 λcs1=>
 Ac l9<|
 br (A.lt n6 n2)
 (br (A.lt n2 (A.sub IntKind.i64 n5 n6))
 (Ae D (Key.fn 260) [AV.sl 0 0 n 3,iv n6,iv n2,iv (A.sub IntKind.i64 n5 n6),AV.fn (Fn.func 153) [] []] [ABlk.mk cs1 true true] λr1 o1=>
 Az r1 λcs2=>
 Ad cs2<|
 Am o1 λc4 l10=>
 AE true true c4 λcs3=>
 Ac l10<|
 br (A.lt n1 n6)
 (br (A.lt n6 n4)
 (Ae D (Key.fn 243) [AV.sl 0 0 n 3,iv n1,iv n6,iv n4,AV.fn (Fn.func 153) [] []] [ABlk.mk cs3 true true] λr2 o2=>
 Az r2 λcs4=>
 Ad cs4<|
 Am o2 λc5 l11=>
 AE true true c5 λcs5=>
 Ac l11<|
 br (A.lt n4 (A.sub IntKind.i64 n5 n6))
 (br (A.lt (A.sub IntKind.i64 n5 n6) n3)
 (Ae D (Key.fn 243) [AV.sl 0 0 n 3,iv n4,iv (A.sub IntKind.i64 n5 n6),iv n3,AV.fn (Fn.func 153) [] []] [ABlk.mk cs5 true true] λr3 o3=>
 Az r3 λcs6=>
 Ad cs6<|
 Am o3 λc6 l12=>
 AE true true c6 λcs7=>
 Ac l12<|
 some ((AV.tup [],[BO.set (ABlk.mk cs7 true true)])))
 (some ((AV.tup [],[BO.set (ABlk.mk cs5 true true)]))))
 (some ((AV.tup [],[BO.set (ABlk.mk cs5 true true)]))))
 (br (A.lt n4 (A.sub IntKind.i64 n5 n6))
 (br (A.lt (A.sub IntKind.i64 n5 n6) n3)
 (Ae D (Key.fn 243) [AV.sl 0 0 n 3,iv n4,iv (A.sub IntKind.i64 n5 n6),iv n3,AV.fn (Fn.func 153) [] []] [ABlk.mk cs3 true true] λr2 o2=>
 Az r2 λcs4=>
 Ad cs4<|
 Am o2 λc5 l11=>
 AE true true c5 λcs5=>
 Ac l11<|
 some ((AV.tup [],[BO.set (ABlk.mk cs5 true true)])))
 (some ((AV.tup [],[BO.set (ABlk.mk cs3 true true)]))))
 (some ((AV.tup [],[BO.set (ABlk.mk cs3 true true)])))))
 (br (A.lt n4 (A.sub IntKind.i64 n5 n6))
 (br (A.lt (A.sub IntKind.i64 n5 n6) n3)
 (Ae D (Key.fn 243) [AV.sl 0 0 n 3,iv n4,iv (A.sub IntKind.i64 n5 n6),iv n3,AV.fn (Fn.func 153) [] []] [ABlk.mk cs3 true true] λr2 o2=>
 Az r2 λcs4=>
 Ad cs4<|
 Am o2 λc5 l11=>
 AE true true c5 λcs5=>
 Ac l11<|
 some ((AV.tup [],[BO.set (ABlk.mk cs5 true true)])))
 (some ((AV.tup [],[BO.set (ABlk.mk cs3 true true)]))))
 (some ((AV.tup [],[BO.set (ABlk.mk cs3 true true)])))))
 (br (A.lt n1 n6)
 (br (A.lt n6 n4)
 (Ae D (Key.fn 243) [AV.sl 0 0 n 3,iv n1,iv n6,iv n4,AV.fn (Fn.func 153) [] []] [ABlk.mk cs1 true true] λr1 o1=>
 Az r1 λcs2=>
 Ad cs2<|
 Am o1 λc4 l10=>
 AE true true c4 λcs3=>
 Ac l10<|
 br (A.lt n4 (A.sub IntKind.i64 n5 n6))
 (br (A.lt (A.sub IntKind.i64 n5 n6) n3)
 (Ae D (Key.fn 243) [AV.sl 0 0 n 3,iv n4,iv (A.sub IntKind.i64 n5 n6),iv n3,AV.fn (Fn.func 153) [] []] [ABlk.mk cs3 true true] λr2 o2=>
 Az r2 λcs4=>
 Ad cs4<|
 Am o2 λc5 l11=>
 AE true true c5 λcs5=>
 Ac l11<|
 some ((AV.tup [],[BO.set (ABlk.mk cs5 true true)])))
 (some ((AV.tup [],[BO.set (ABlk.mk cs3 true true)]))))
 (some ((AV.tup [],[BO.set (ABlk.mk cs3 true true)]))))
 (br (A.lt n4 (A.sub IntKind.i64 n5 n6))
 (br (A.lt (A.sub IntKind.i64 n5 n6) n3)
 (Ae D (Key.fn 243) [AV.sl 0 0 n 3,iv n4,iv (A.sub IntKind.i64 n5 n6),iv n3,AV.fn (Fn.func 153) [] []] [ABlk.mk cs1 true true] λr1 o1=>
 Az r1 λcs2=>
 Ad cs2<|
 Am o1 λc4 l10=>
 AE true true c4 λcs3=>
 Ac l10<|
 some ((AV.tup [],[BO.set (ABlk.mk cs3 true true)])))
 (some ((AV.tup [],[BO.set (ABlk.mk cs1 true true)]))))
 (some ((AV.tup [],[BO.set (ABlk.mk cs1 true true)])))))
 (br (A.lt n4 (A.sub IntKind.i64 n5 n6))
 (br (A.lt (A.sub IntKind.i64 n5 n6) n3)
 (Ae D (Key.fn 243) [AV.sl 0 0 n 3,iv n4,iv (A.sub IntKind.i64 n5 n6),iv n3,AV.fn (Fn.func 153) [] []] [ABlk.mk cs1 true true] λr1 o1=>
 Az r1 λcs2=>
 Ad cs2<|
 Am o1 λc4 l10=>
 AE true true c4 λcs3=>
 Ac l10<|
 some ((AV.tup [],[BO.set (ABlk.mk cs3 true true)])))
 (some ((AV.tup [],[BO.set (ABlk.mk cs1 true true)]))))
 (some ((AV.tup [],[BO.set (ABlk.mk cs1 true true)]))))))
 (br (A.lt n1 n6)
 (br (A.lt n6 n4)
 (Ae D (Key.fn 243) [AV.sl 0 0 n 3,iv n1,iv n6,iv n4,AV.fn (Fn.func 153) [] []] [ABlk.mk cs1 true true] λr1 o1=>
 Az r1 λcs2=>
 Ad cs2<|
 Am o1 λc4 l10=>
 AE true true c4 λcs3=>
 Ac l10<|
 br (A.lt n4 (A.sub IntKind.i64 n5 n6))
 (br (A.lt (A.sub IntKind.i64 n5 n6) n3)
 (Ae D (Key.fn 243) [AV.sl 0 0 n 3,iv n4,iv (A.sub IntKind.i64 n5 n6),iv n3,AV.fn (Fn.func 153) [] []] [ABlk.mk cs3 true true] λr2 o2=>
 Az r2 λcs4=>
 Ad cs4<|
 Am o2 λc5 l11=>
 AE true true c5 λcs5=>
 Ac l11<|
 some ((AV.tup [],[BO.set (ABlk.mk cs5 true true)])))
 (some ((AV.tup [],[BO.set (ABlk.mk cs3 true true)]))))
 (some ((AV.tup [],[BO.set (ABlk.mk cs3 true true)]))))
 (br (A.lt n4 (A.sub IntKind.i64 n5 n6))
 (br (A.lt (A.sub IntKind.i64 n5 n6) n3)
 (Ae D (Key.fn 243) [AV.sl 0 0 n 3,iv n4,iv (A.sub IntKind.i64 n5 n6),iv n3,AV.fn (Fn.func 153) [] []] [ABlk.mk cs1 true true] λr1 o1=>
 Az r1 λcs2=>
 Ad cs2<|
 Am o1 λc4 l10=>
 AE true true c4 λcs3=>
 Ac l10<|
 some ((AV.tup [],[BO.set (ABlk.mk cs3 true true)])))
 (some ((AV.tup [],[BO.set (ABlk.mk cs1 true true)]))))
 (some ((AV.tup [],[BO.set (ABlk.mk cs1 true true)])))))
 (br (A.lt n4 (A.sub IntKind.i64 n5 n6))
 (br (A.lt (A.sub IntKind.i64 n5 n6) n3)
 (Ae D (Key.fn 243) [AV.sl 0 0 n 3,iv n4,iv (A.sub IntKind.i64 n5 n6),iv n3,AV.fn (Fn.func 153) [] []] [ABlk.mk cs1 true true] λr1 o1=>
 Az r1 λcs2=>
 Ad cs2<|
 Am o1 λc4 l10=>
 AE true true c4 λcs3=>
 Ac l10<|
 some ((AV.tup [],[BO.set (ABlk.mk cs3 true true)])))
 (some ((AV.tup [],[BO.set (ABlk.mk cs1 true true)]))))
 (some ((AV.tup [],[BO.set (ABlk.mk cs1 true true)]))))))
 (none))
 (Ae D (Key.lp 243 4) [AV.sl 0 0 n0 3,iv x1,iv x2,iv x3,AV.fn (Fn.func 153) [] [],iv (A.conv IntKind.i64 (A.shr IntKind.u64 (A.conv IntKind.u64 (A.add IntKind.i64 x1 x3)) 1)),iv (A.add IntKind.i64 (A.conv IntKind.i64 (A.shr IntKind.u64 (A.conv IntKind.u64 (A.add IntKind.i64 x1 x3)) 1)) x2),iv x1,iv x2,iv (A.sub IntKind.i64 (A.add IntKind.i64 (A.conv IntKind.i64 (A.shr IntKind.u64 (A.conv IntKind.u64 (A.add IntKind.i64 x1 x3)) 1)) x2) 1)] [ABlk.mk c0 true true] λr o=>
 Az r λcs=>
 Ai cs λc l=>
 br (Bi 9 c)
 (Ai l λc1 l1=>
 B1 0 3 c1 λn=>
 At IntKind.i64 l1 λn1 l2=>
 At IntKind.i64 l2 λn2 l3=>
 At IntKind.i64 l3 λn3 l4=>
 Ai l4 λc2 l5=>
 Pe 153 c2<|
 At IntKind.i64 l5 λn4 l6=>
 At IntKind.i64 l6 λn5 l7=>
 At IntKind.i64 l7 λn6 l8=>
 Ad l8<|
 Am o λc3 l9=>
 AE true true c3 λcs1=>
 Ac l9<|
 br (A.lt n6 n2)
 (br (A.lt n2 (A.sub IntKind.i64 n5 n6))
 (Ae D (Key.fn 260) [AV.sl 0 0 n 3,iv n6,iv n2,iv (A.sub IntKind.i64 n5 n6),AV.fn (Fn.func 153) [] []] [ABlk.mk cs1 true true] λr1 o1=>
 Az r1 λcs2=>
 Ad cs2<|
 Am o1 λc4 l10=>
 AE true true c4 λcs3=>
 Ac l10<|
 br (A.lt n1 n6)
 (br (A.lt n6 n4)
 (Ae D (Key.fn 243) [AV.sl 0 0 n 3,iv n1,iv n6,iv n4,AV.fn (Fn.func 153) [] []] [ABlk.mk cs3 true true] λr2 o2=>
 Az r2 λcs4=>
 Ad cs4<|
 Am o2 λc5 l11=>
 AE true true c5 λcs5=>
 Ac l11<|
 br (A.lt n4 (A.sub IntKind.i64 n5 n6))
 (br (A.lt (A.sub IntKind.i64 n5 n6) n3)
 (Ae D (Key.fn 243) [AV.sl 0 0 n 3,iv n4,iv (A.sub IntKind.i64 n5 n6),iv n3,AV.fn (Fn.func 153) [] []] [ABlk.mk cs5 true true] λr3 o3=>
 Az r3 λcs6=>
 Ad cs6<|
 Am o3 λc6 l12=>
 AE true true c6 λcs7=>
 Ac l12<|
 some ((AV.tup [],[BO.set (ABlk.mk cs7 true true)])))
 (some ((AV.tup [],[BO.set (ABlk.mk cs5 true true)]))))
 (some ((AV.tup [],[BO.set (ABlk.mk cs5 true true)]))))
 (br (A.lt n4 (A.sub IntKind.i64 n5 n6))
 (br (A.lt (A.sub IntKind.i64 n5 n6) n3)
 (Ae D (Key.fn 243) [AV.sl 0 0 n 3,iv n4,iv (A.sub IntKind.i64 n5 n6),iv n3,AV.fn (Fn.func 153) [] []] [ABlk.mk cs3 true true] λr2 o2=>
 Az r2 λcs4=>
 Ad cs4<|
 Am o2 λc5 l11=>
 AE true true c5 λcs5=>
 Ac l11<|
 some ((AV.tup [],[BO.set (ABlk.mk cs5 true true)])))
 (some ((AV.tup [],[BO.set (ABlk.mk cs3 true true)]))))
 (some ((AV.tup [],[BO.set (ABlk.mk cs3 true true)])))))
 (br (A.lt n4 (A.sub IntKind.i64 n5 n6))
 (br (A.lt (A.sub IntKind.i64 n5 n6) n3)
 (Ae D (Key.fn 243) [AV.sl 0 0 n 3,iv n4,iv (A.sub IntKind.i64 n5 n6),iv n3,AV.fn (Fn.func 153) [] []] [ABlk.mk cs3 true true] λr2 o2=>
 Az r2 λcs4=>
 Ad cs4<|
 Am o2 λc5 l11=>
 AE true true c5 λcs5=>
 Ac l11<|
 some ((AV.tup [],[BO.set (ABlk.mk cs5 true true)])))
 (some ((AV.tup [],[BO.set (ABlk.mk cs3 true true)]))))
 (some ((AV.tup [],[BO.set (ABlk.mk cs3 true true)])))))
 (br (A.lt n1 n6)
 (br (A.lt n6 n4)
 (Ae D (Key.fn 243) [AV.sl 0 0 n 3,iv n1,iv n6,iv n4,AV.fn (Fn.func 153) [] []] [ABlk.mk cs1 true true] λr1 o1=>
 Az r1 λcs2=>
 Ad cs2<|
 Am o1 λc4 l10=>
 AE true true c4 λcs3=>
 Ac l10<|
 br (A.lt n4 (A.sub IntKind.i64 n5 n6))
 (br (A.lt (A.sub IntKind.i64 n5 n6) n3)
 (Ae D (Key.fn 243) [AV.sl 0 0 n 3,iv n4,iv (A.sub IntKind.i64 n5 n6),iv n3,AV.fn (Fn.func 153) [] []] [ABlk.mk cs3 true true] λr2 o2=>
 Az r2 λcs4=>
 Ad cs4<|
 Am o2 λc5 l11=>
 AE true true c5 λcs5=>
 Ac l11<|
 some ((AV.tup [],[BO.set (ABlk.mk cs5 true true)])))
 (some ((AV.tup [],[BO.set (ABlk.mk cs3 true true)]))))
 (some ((AV.tup [],[BO.set (ABlk.mk cs3 true true)]))))
 (br (A.lt n4 (A.sub IntKind.i64 n5 n6))
 (br (A.lt (A.sub IntKind.i64 n5 n6) n3)
 (Ae D (Key.fn 243) [AV.sl 0 0 n 3,iv n4,iv (A.sub IntKind.i64 n5 n6),iv n3,AV.fn (Fn.func 153) [] []] [ABlk.mk cs1 true true] λr1 o1=>
 Az r1 λcs2=>
 Ad cs2<|
 Am o1 λc4 l10=>
 AE true true c4 λcs3=>
 Ac l10<|
 some ((AV.tup [],[BO.set (ABlk.mk cs3 true true)])))
 (some ((AV.tup [],[BO.set (ABlk.mk cs1 true true)]))))
 (some ((AV.tup [],[BO.set (ABlk.mk cs1 true true)])))))
 (br (A.lt n4 (A.sub IntKind.i64 n5 n6))
 (br (A.lt (A.sub IntKind.i64 n5 n6) n3)
 (Ae D (Key.fn 243) [AV.sl 0 0 n 3,iv n4,iv (A.sub IntKind.i64 n5 n6),iv n3,AV.fn (Fn.func 153) [] []] [ABlk.mk cs1 true true] λr1 o1=>
 Az r1 λcs2=>
 Ad cs2<|
 Am o1 λc4 l10=>
 AE true true c4 λcs3=>
 Ac l10<|
 some ((AV.tup [],[BO.set (ABlk.mk cs3 true true)])))
 (some ((AV.tup [],[BO.set (ABlk.mk cs1 true true)]))))
 (some ((AV.tup [],[BO.set (ABlk.mk cs1 true true)]))))))
 (br (A.lt n1 n6)
 (br (A.lt n6 n4)
 (Ae D (Key.fn 243) [AV.sl 0 0 n 3,iv n1,iv n6,iv n4,AV.fn (Fn.func 153) [] []] [ABlk.mk cs1 true true] λr1 o1=>
 Az r1 λcs2=>
 Ad cs2<|
 Am o1 λc4 l10=>
 AE true true c4 λcs3=>
 Ac l10<|
 br (A.lt n4 (A.sub IntKind.i64 n5 n6))
 (br (A.lt (A.sub IntKind.i64 n5 n6) n3)
 (Ae D (Key.fn 243) [AV.sl 0 0 n 3,iv n4,iv (A.sub IntKind.i64 n5 n6),iv n3,AV.fn (Fn.func 153) [] []] [ABlk.mk cs3 true true] λr2 o2=>
 Az r2 λcs4=>
 Ad cs4<|
 Am o2 λc5 l11=>
 AE true true c5 λcs5=>
 Ac l11<|
 some ((AV.tup [],[BO.set (ABlk.mk cs5 true true)])))
 (some ((AV.tup [],[BO.set (ABlk.mk cs3 true true)]))))
 (some ((AV.tup [],[BO.set (ABlk.mk cs3 true true)]))))
 (br (A.lt n4 (A.sub IntKind.i64 n5 n6))
 (br (A.lt (A.sub IntKind.i64 n5 n6) n3)
 (Ae D (Key.fn 243) [AV.sl 0 0 n 3,iv n4,iv (A.sub IntKind.i64 n5 n6),iv n3,AV.fn (Fn.func 153) [] []] [ABlk.mk cs1 true true] λr1 o1=>
 Az r1 λcs2=>
 Ad cs2<|
 Am o1 λc4 l10=>
 AE true true c4 λcs3=>
 Ac l10<|
 some ((AV.tup [],[BO.set (ABlk.mk cs3 true true)])))
 (some ((AV.tup [],[BO.set (ABlk.mk cs1 true true)]))))
 (some ((AV.tup [],[BO.set (ABlk.mk cs1 true true)])))))
 (br (A.lt n4 (A.sub IntKind.i64 n5 n6))
 (br (A.lt (A.sub IntKind.i64 n5 n6) n3)
 (Ae D (Key.fn 243) [AV.sl 0 0 n 3,iv n4,iv (A.sub IntKind.i64 n5 n6),iv n3,AV.fn (Fn.func 153) [] []] [ABlk.mk cs1 true true] λr1 o1=>
 Az r1 λcs2=>
 Ad cs2<|
 Am o1 λc4 l10=>
 AE true true c4 λcs3=>
 Ac l10<|
 some ((AV.tup [],[BO.set (ABlk.mk cs3 true true)])))
 (some ((AV.tup [],[BO.set (ABlk.mk cs1 true true)]))))
 (some ((AV.tup [],[BO.set (ABlk.mk cs1 true true)]))))))
 (none))))):=by kernel_rfl
theorem UA(A:Ar)(D:Orc)(n0:Nat)(c0:List AV)(t1:Int)(t10:Int)(t11:Int):Dv A D Al CM .n 243 0 (AW G9 0).fst (AW G9 0).snd [AV.sl 0 0 n0 3,iv t1,AV.fn (Fn.func 153) [] [],iv t10,iv t11] [{ cells:=c0,st:=true,ex:=true }] =
 br (A.lt t10 t11)
 (br (A.lt 1 0)
 (none)
 (unI (A.conv IntKind.i64 (A.shr IntKind.u64 (A.conv IntKind.u64 (A.add IntKind.i64 t10 t11)) 1)) λi=>
 br (i.blt n0) (IG c0 (0+i*3) 3 λcs=>
 At IntKind.i64 cs λn l=>
 Af l λb l1=>
 As l1 λxs l2=>
 Ad l2<|
 unI t1 λi1=>
 br (i1.blt n0) (IG c0 (0+i1*3) 3 λcs1=>
 At IntKind.i64 cs1 λn1 l3=>
 Af l3 λb1 l4=>
 As l4 λxs1 l5=>
 Ad l5<|
 Ae D (Key.fn 153) [AV.agg [iv n,bv b,AV.ls xs],AV.agg [iv n1,bv b1,AV.ls xs1]] [] λr o=>
 AT IntKind.i64 r λn2=>
 Ac o<|
 br (A.lt n2 0)
 (Ae D (Key.lp 243 0) [AV.sl 0 0 n0 3,iv t1,AV.fn (Fn.func 153) [] [],iv (A.add IntKind.i64 (A.conv IntKind.i64 (A.shr IntKind.u64 (A.conv IntKind.u64 (A.add IntKind.i64 t10 t11)) 1)) 1),iv t11] [ABlk.mk c0 true true] λr1 o1=>
 AN 1 [0] (AH.mk [(0,ABlk.mk c0 true true)] 1 none) [] r1 o1)
 (Ae D (Key.lp 243 0) [AV.sl 0 0 n0 3,iv t1,AV.fn (Fn.func 153) [] [],iv t10,iv (A.conv IntKind.i64 (A.shr IntKind.u64 (A.conv IntKind.u64 (A.add IntKind.i64 t10 t11)) 1))] [ABlk.mk c0 true true] λr1 o1=>
 AN 1 [0] (AH.mk [(0,ABlk.mk c0 true true)] 1 none) [] r1 o1)) none) none))
 (some ((AV.tup [iv 0,AV.sl 0 0 n0 3,iv t1,iv t10],[BO.set (ABlk.mk c0 true true)]))):=by kernel_rfl
theorem Aac(A:Ar)(D:Orc)(n0:Nat)(c0:List AV)(t10:Int)(t13:Int):Dv A D Al CM .n 243 1 (AW G9 1).fst (AW G9 1).snd [AV.sl 0 0 n0 3,iv t10,iv t13] [{ cells:=c0,st:=true,ex:=true }] =
 br (A.lt t13 (A.sub IntKind.i64 t10 1))
 (unI (A.add IntKind.i64 t13 1) λi=>
 br (i.blt n0) (IG c0 (0+i*3) 3 λcs=>
 At IntKind.i64 cs λn l=>
 Af l λb l1=>
 As l1 λxs l2=>
 Ad l2<|
 unI t13 λi1=>
 br (i1.blt n0) (IG c0 (0+i1*3) 3 λcs1=>
 At IntKind.i64 cs1 λn1 l3=>
 Af l3 λb1 l4=>
 As l4 λxs1 l5=>
 Ad l5<|
 unI t13 λi2=>
 br (i2.blt n0) (br ((0+i2*3+3).ble c0.length) (unI (A.add IntKind.i64 t13 1) λi3=>
 br (i3.blt n0) (br ((0+i3*3+3).ble (Ba c0 (0+i2*3) [iv n,bv b,AV.ls xs]).length) (Ae D (Key.lp 243 1) [AV.sl 0 0 n0 3,iv t10,iv (A.add IntKind.i64 t13 1)] [ABlk.mk (Ba (Ba c0 (0+i2*3) [iv n,bv b,AV.ls xs]) (0+i3*3) [iv n1,bv b1,AV.ls xs1]) true true] λr o=>
 AN 1 [0] (AH.mk [(0,ABlk.mk (Ba (Ba c0 (0+i2*3) [iv n,bv b,AV.ls xs]) (0+i3*3) [iv n1,bv b1,AV.ls xs1]) true true)] 1 none) [0] r o) none) none) none) none) none) none)
 (some ((AV.tup [iv 2,AV.sl 0 0 n0 3],[BO.set (ABlk.mk c0 true true)]))):=by kernel_rfl
theorem UB(A:Ar)(D:Orc)(n0:Nat)(c0:List AV)(t2:Int)(t14:Int)(t15:Int):Dv A D Al CM .n 243 2 (AW G9 2).fst (AW G9 2).snd [AV.sl 0 0 n0 3,iv t2,AV.fn (Fn.func 153) [] [],iv t14,iv t15] [{ cells:=c0,st:=true,ex:=true }] =
 br (A.lt t14 t15)
 (br (A.lt 1 0)
 (none)
 (unI t2 λi=>
 br (i.blt n0) (IG c0 (0+i*3) 3 λcs=>
 At IntKind.i64 cs λn l=>
 Af l λb l1=>
 As l1 λxs l2=>
 Ad l2<|
 unI (A.conv IntKind.i64 (A.shr IntKind.u64 (A.conv IntKind.u64 (A.add IntKind.i64 t14 t15)) 1)) λi1=>
 br (i1.blt n0) (IG c0 (0+i1*3) 3 λcs1=>
 At IntKind.i64 cs1 λn1 l3=>
 Af l3 λb1 l4=>
 As l4 λxs1 l5=>
 Ad l5<|
 Ae D (Key.fn 153) [AV.agg [iv n,bv b,AV.ls xs],AV.agg [iv n1,bv b1,AV.ls xs1]] [] λr o=>
 AT IntKind.i64 r λn2=>
 Ac o<|
 br (A.lt n2 0)
 (Ae D (Key.lp 243 2) [AV.sl 0 0 n0 3,iv t2,AV.fn (Fn.func 153) [] [],iv t14,iv (A.conv IntKind.i64 (A.shr IntKind.u64 (A.conv IntKind.u64 (A.add IntKind.i64 t14 t15)) 1))] [ABlk.mk c0 true true] λr1 o1=>
 AN 1 [0] (AH.mk [(0,ABlk.mk c0 true true)] 1 none) [] r1 o1)
 (Ae D (Key.lp 243 2) [AV.sl 0 0 n0 3,iv t2,AV.fn (Fn.func 153) [] [],iv (A.add IntKind.i64 (A.conv IntKind.i64 (A.shr IntKind.u64 (A.conv IntKind.u64 (A.add IntKind.i64 t14 t15)) 1)) 1),iv t15] [ABlk.mk c0 true true] λr1 o1=>
 AN 1 [0] (AH.mk [(0,ABlk.mk c0 true true)] 1 none) [] r1 o1)) none) none))
 (some ((AV.tup [iv 4,AV.sl 0 0 n0 3,iv t2,iv t14],[BO.set (ABlk.mk c0 true true)]))):=by kernel_rfl
theorem Aad(A:Ar)(D:Orc)(n0:Nat)(c0:List AV)(t14:Int)(t17:Int):Dv A D Al CM .n 243 3 (AW G9 3).fst (AW G9 3).snd [AV.sl 0 0 n0 3,iv t14,iv t17] [{ cells:=c0,st:=true,ex:=true }] =
 br (A.lt t14 t17)
 (unI (A.sub IntKind.i64 t17 1) λi=>
 br (i.blt n0) (IG c0 (0+i*3) 3 λcs=>
 At IntKind.i64 cs λn l=>
 Af l λb l1=>
 As l1 λxs l2=>
 Ad l2<|
 unI t17 λi1=>
 br (i1.blt n0) (IG c0 (0+i1*3) 3 λcs1=>
 At IntKind.i64 cs1 λn1 l3=>
 Af l3 λb1 l4=>
 As l4 λxs1 l5=>
 Ad l5<|
 unI t17 λi2=>
 br (i2.blt n0) (br ((0+i2*3+3).ble c0.length) (unI (A.sub IntKind.i64 t17 1) λi3=>
 br (i3.blt n0) (br ((0+i3*3+3).ble (Ba c0 (0+i2*3) [iv n,bv b,AV.ls xs]).length) (Ae D (Key.lp 243 3) [AV.sl 0 0 n0 3,iv t14,iv (A.sub IntKind.i64 t17 1)] [ABlk.mk (Ba (Ba c0 (0+i2*3) [iv n,bv b,AV.ls xs]) (0+i3*3) [iv n1,bv b1,AV.ls xs1]) true true] λr o=>
 AN 1 [0] (AH.mk [(0,ABlk.mk (Ba (Ba c0 (0+i2*3) [iv n,bv b,AV.ls xs]) (0+i3*3) [iv n1,bv b1,AV.ls xs1]) true true)] 1 none) [0] r o) none) none) none) none) none) none)
 (some ((AV.tup [iv 6,AV.sl 0 0 n0 3],[BO.set (ABlk.mk c0 true true)]))):=by kernel_rfl
theorem UC(A:Ar)(D:Orc)(n0:Nat)(c0:List AV)(t1:Int)(t2:Int)(t3:Int)(t18:Int)(t19:Int)(t20:Int)(t21:Int)(t22:Int):Dv A D Al CM .n 243 4 (AW G9 4).fst (AW G9 4).snd [AV.sl 0 0 n0 3,iv t1,iv t2,iv t3,AV.fn (Fn.func 153) [] [],iv t18,iv t19,iv t20,iv t21,iv t22] [{ cells:=c0,st:=true,ex:=true }] =
 br (A.lt t20 t21)
 (br (A.lt 1 0)
 (none)
 (unI (A.sub IntKind.i64 t22 (A.conv IntKind.i64 (A.shr IntKind.u64 (A.conv IntKind.u64 (A.add IntKind.i64 t20 t21)) 1))) λi=>
 br (i.blt n0) (IG c0 (0+i*3) 3 λcs=>
 At IntKind.i64 cs λn l=>
 Af l λb l1=>
 As l1 λxs l2=>
 Ad l2<|
 unI (A.conv IntKind.i64 (A.shr IntKind.u64 (A.conv IntKind.u64 (A.add IntKind.i64 t20 t21)) 1)) λi1=>
 br (i1.blt n0) (IG c0 (0+i1*3) 3 λcs1=>
 At IntKind.i64 cs1 λn1 l3=>
 Af l3 λb1 l4=>
 As l4 λxs1 l5=>
 Ad l5<|
 Ae D (Key.fn 153) [AV.agg [iv n,bv b,AV.ls xs],AV.agg [iv n1,bv b1,AV.ls xs1]] [] λr o=>
 AT IntKind.i64 r λn2=>
 Ac o<|
 br (A.lt n2 0)
 (Ae D (Key.lp 243 4) [AV.sl 0 0 n0 3,iv t1,iv t2,iv t3,AV.fn (Fn.func 153) [] [],iv t18,iv t19,iv t20,iv (A.conv IntKind.i64 (A.shr IntKind.u64 (A.conv IntKind.u64 (A.add IntKind.i64 t20 t21)) 1)),iv t22] [ABlk.mk c0 true true] λr1 o1=>
 AN 1 [0] (AH.mk [(0,ABlk.mk c0 true true)] 1 none) [] r1 o1)
 (Ae D (Key.lp 243 4) [AV.sl 0 0 n0 3,iv t1,iv t2,iv t3,AV.fn (Fn.func 153) [] [],iv t18,iv t19,iv (A.add IntKind.i64 (A.conv IntKind.i64 (A.shr IntKind.u64 (A.conv IntKind.u64 (A.add IntKind.i64 t20 t21)) 1)) 1),iv t21,iv t22] [ABlk.mk c0 true true] λr1 o1=>
 AN 1 [0] (AH.mk [(0,ABlk.mk c0 true true)] 1 none) [] r1 o1)) none) none))
 (some ((AV.tup [iv 8,AV.sl 0 0 n0 3,iv t1,iv t2,iv t3,AV.fn (Fn.func 153) [] [],iv t18,iv t19,iv t20],[BO.set (ABlk.mk c0 true true)]))):=by kernel_rfl
theorem Aog(A:Ar)(D:Orc)(n0:Nat)(c0:List AV)(x1:Int)(x2:Int)(x3:Int):BI A D Al PK .n 260 Wt [AV.sl 0 0 n0 3,iv x1,iv x2,iv x3,AV.fn (Fn.func 153) [] []] [{ cells:=c0,st:=true,ex:=true }] =
 Ae D (Key.lp 260 0) [AV.sl 0 0 n0 3,iv x2,AV.fn (Fn.func 153) [] [],iv (A.sub IntKind.i64 x2 x1),iv (A.sub IntKind.i64 x3 x2)] [ABlk.mk c0 true true] λr o=>
 Az r λcs=>
 Ai cs λc l=>
 br (Bi 1 c)
 (Ai l λc1 l1=>
 B1 0 3 c1 λn=>
 At IntKind.i64 l1 λn1 l2=>
 Ai l2 λc2 l3=>
 Pe 153 c2<|
 At IntKind.i64 l3 λn2 l4=>
 Ad l4<|
 Am o λc3 l5=>
 AE true true c3 λcs1=>
 Ac l5<|
 Ae D (Key.fn 273) [AV.sl 0 0 n 3,iv (A.sub IntKind.i64 n1 n2),iv n1,iv n2,AV.fn (Fn.func 153) [] []] [ABlk.mk cs1 true true] λr1 o1=>
 Az r1 λcs2=>
 Ad cs2<|
 Am o1 λc4 l6=>
 AE true true c4 λcs3=>
 Ac l6<|
 some ((AV.tup [],[BO.set (ABlk.mk cs3 true true)])))
 (none):=by kernel_rfl
theorem UD(A:Ar)(D:Orc)(n0:Nat)(c0:List AV)(t2:Int)(t10:Int)(t11:Int):Dv A D Al PK .n 260 0 (AW Wt 0).fst (AW Wt 0).snd [AV.sl 0 0 n0 3,iv t2,AV.fn (Fn.func 153) [] [],iv t10,iv t11] [{ cells:=c0,st:=true,ex:=true }] =
 br (A.eq t10 t11)
 (some ((AV.tup [iv 0,AV.sl 0 0 n0 3,iv t2,AV.fn (Fn.func 153) [] [],iv t10],[BO.set (ABlk.mk c0 true true)])))
 (br (A.lt t11 t10)
 (Ae D (Key.fn 273) [AV.sl 0 0 n0 3,iv (A.sub IntKind.i64 t2 t10),iv t2,iv t11,AV.fn (Fn.func 153) [] []] [ABlk.mk c0 true true] λr o=>
 Az r λcs=>
 Ad cs<|
 Am o λc l=>
 AE true true c λcs1=>
 Ac l<|
 Ae D (Key.lp 260 0) [AV.sl 0 0 n0 3,iv t2,AV.fn (Fn.func 153) [] [],iv (A.sub IntKind.i64 t10 t11),iv t11] [ABlk.mk cs1 true true] λr1 o1=>
 AN 1 [0] (AH.mk [(0,ABlk.mk cs1 true true)] 1 none) [0] r1 o1)
 (Ae D (Key.fn 273) [AV.sl 0 0 n0 3,iv (A.sub IntKind.i64 t2 t10),iv (A.sub IntKind.i64 (A.add IntKind.i64 t2 t11) t10),iv t10,AV.fn (Fn.func 153) [] []] [ABlk.mk c0 true true] λr o=>
 Az r λcs=>
 Ad cs<|
 Am o λc l=>
 AE true true c λcs1=>
 Ac l<|
 Ae D (Key.lp 260 0) [AV.sl 0 0 n0 3,iv t2,AV.fn (Fn.func 153) [] [],iv t10,iv (A.sub IntKind.i64 t11 t10)] [ABlk.mk cs1 true true] λr1 o1=>
 AN 1 [0] (AH.mk [(0,ABlk.mk cs1 true true)] 1 none) [0] r1 o1)):=by kernel_rfl
theorem Aoj(A:Ar)(D:Orc)(n0:Nat)(c0:List AV)(x1:Int)(x2:Int)(x3:Int):BI A D Al SG .n 273 Wu [AV.sl 0 0 n0 3,iv x1,iv x2,iv x3,AV.fn (Fn.func 153) [] []] [{ cells:=c0,st:=true,ex:=true }] =
 Ae D (Key.lp 273 0) [AV.sl 0 0 n0 3,iv x1,iv x2,iv x3,iv 0] [ABlk.mk c0 true true] λr o=>
 Az r λcs=>
 Ai cs λc l=>
 br (Bi 1 c)
 (Ai l λc1 l1=>
 B1 0 3 c1 λ_=>
 Ad l1<|
 Am o λc2 l2=>
 AE true true c2 λcs1=>
 Ac l2<|
 some ((AV.tup [],[BO.set (ABlk.mk cs1 true true)])))
 (none):=by kernel_rfl
theorem Aai(A:Ar)(D:Orc)(n0:Nat)(c0:List AV)(t1:Int)(t2:Int)(t3:Int)(t10:Int):Dv A D Al SG .n 273 0 (AW Wu 0).fst (AW Wu 0).snd [AV.sl 0 0 n0 3,iv t1,iv t2,iv t3,iv t10] [{ cells:=c0,st:=true,ex:=true }] =
 br (A.lt t10 t3)
 (unI (A.add IntKind.i64 t2 t10) λi=>
 br (i.blt n0) (IG c0 (0+i*3) 3 λcs=>
 At IntKind.i64 cs λn l=>
 Af l λb l1=>
 As l1 λxs l2=>
 Ad l2<|
 unI (A.add IntKind.i64 t1 t10) λi1=>
 br (i1.blt n0) (IG c0 (0+i1*3) 3 λcs1=>
 At IntKind.i64 cs1 λn1 l3=>
 Af l3 λb1 l4=>
 As l4 λxs1 l5=>
 Ad l5<|
 unI (A.add IntKind.i64 t1 t10) λi2=>
 br (i2.blt n0) (br ((0+i2*3+3).ble c0.length) (unI (A.add IntKind.i64 t2 t10) λi3=>
 br (i3.blt n0) (br ((0+i3*3+3).ble (Ba c0 (0+i2*3) [iv n,bv b,AV.ls xs]).length) (Ae D (Key.lp 273 0) [AV.sl 0 0 n0 3,iv t1,iv t2,iv t3,iv (A.add IntKind.i64 t10 1)] [ABlk.mk (Ba (Ba c0 (0+i2*3) [iv n,bv b,AV.ls xs]) (0+i3*3) [iv n1,bv b1,AV.ls xs1]) true true] λr o=>
 AN 1 [0] (AH.mk [(0,ABlk.mk (Ba (Ba c0 (0+i2*3) [iv n,bv b,AV.ls xs]) (0+i3*3) [iv n1,bv b1,AV.ls xs1]) true true)] 1 none) [0] r o) none) none) none) none) none) none)
 (some ((AV.tup [iv 0,AV.sl 0 0 n0 3],[BO.set (ABlk.mk c0 true true)]))):=by kernel_rfl
theorem AkI(A:Ar)(D:Orc)(n0:Nat)(c0:List AV):BI A D Al NO .n 156 We [AV.sl 0 0 n0 3,AV.fn (Fn.func 157) [] []] [{ cells:=c0,st:=true,ex:=true }] =
 Ae D (Key.fn 208) [AV.sl 0 0 n0 3,AV.fn (Fn.func 157) [] []] [ABlk.mk c0 true true] λr o=>
 AT IntKind.i64 r λn=>
 Am o λc l=>
 AE true true c λcs=>
 Ac l<|
 br (A.eq n (-1))
 (some ((AV.sl 0 0 n0 3,[BO.set (ABlk.mk cs true true)])))
 (Ae D (Key.lp 156 0) [AV.sl 0 0 n0 3,AV.fn (Fn.func 157) [] [],iv n,iv (A.add IntKind.i64 n 1)] [ABlk.mk cs true true] λr1 o1=>
 Az r1 λcs1=>
 Ai cs1 λc1 l1=>
 br (Bi 1 c1)
 (Ai l1 λc2 l2=>
 B1 0 3 c2 λn1=>
 At IntKind.i64 l2 λn2 l3=>
 Ad l3<|
 Am o1 λc3 l4=>
 AE true true c3 λcs2=>
 Ac l4<|
 unI n2 λi=>
 br (J3 i n1 n1) (br ((0+i*3+(n1-i)*3).ble cs2.length) (unI n2 λi1=>
 br (J3 0 i1 n1) (some ((AV.sl 0 0 i1 3,[BO.set (ABlk.mk (Ba cs2 (0+i*3) (Cw [iv 0,bv false,AV.v (Value.slice none 0 0)] ((n1-i)*3))) true true)]))) none) none) none)
 (none)):=by kernel_rfl
theorem Uw(A:Ar)(D:Orc)(n0:Nat)(c0:List AV)(t5:Int)(t6:Int):Dv A D Al NO .n 156 0 (AW We 0).fst (AW We 0).snd [AV.sl 0 0 n0 3,AV.fn (Fn.func 157) [] [],iv t5,iv t6] [{ cells:=c0,st:=true,ex:=true }] =
 br (A.lt t6 ↑n0)
 (unI t6 λi=>
 br (i.blt n0) (IG c0 (0+i*3) 3 λcs=>
 At IntKind.i64 cs λn l=>
 Af l λb l1=>
 As l1 λxs l2=>
 Ad l2<|
 Ae D (Key.fn 157) [AV.agg [iv n,bv b,AV.ls xs]] [] λr o=>
 AR r λb1=>
 Ac o<|
 br b1
 (Ae D (Key.lp 156 0) [AV.sl 0 0 n0 3,AV.fn (Fn.func 157) [] [],iv t5,iv (A.add IntKind.i64 t6 1)] [ABlk.mk c0 true true] λr1 o1=>
 AN 1 [0] (AH.mk [(1,ABlk.mk [iv n,bv b,AV.ls xs] true false),(0,ABlk.mk c0 true true)] 2 none) [] r1 o1)
 (unI t5 λi1=>
 br (i1.blt n0) (br ((0+i1*3+3).ble c0.length) (Ae D (Key.lp 156 0) [AV.sl 0 0 n0 3,AV.fn (Fn.func 157) [] [],iv (A.add IntKind.i64 t5 1),iv (A.add IntKind.i64 t6 1)] [ABlk.mk (Ba c0 (0+i1*3) [iv n,bv b,AV.ls xs]) true true] λr1 o1=>
 AN 1 [0] (AH.mk [(0,ABlk.mk (Ba c0 (0+i1*3) [iv n,bv b,AV.ls xs]) true true),(1,ABlk.mk [iv n,bv b,AV.ls xs] true false)] 2 none) [0] r1 o1) none) none)) none)
 (some ((AV.tup [iv 0,AV.sl 0 0 n0 3,iv t5],[BO.set (ABlk.mk c0 true true)]))):=by kernel_rfl
theorem AnW(A:Ar)(D:Orc)(n0:Nat)(c0:List AV):BI A D Al NQ .n 208 Wn [AV.sl 0 0 n0 3,AV.fn (Fn.func 157) [] []] [{ cells:=c0,st:=true,ex:=true }] =
 Ae D (Key.lp 208 0) [AV.sl 0 0 n0 3,AV.fn (Fn.func 157) [] [],iv ↑n0,iv 0] [ABlk.mk c0 true true] λr o=>
 Az r λcs=>
 Ai cs λc l=>
 br (Bi 0 c)
 (Ai l λc1 l1=>
 B1 0 3 c1 λ_=>
 At IntKind.i64 l1 λn1 l2=>
 Ad l2<|
 Am o λc2 l3=>
 AE true true c2 λcs1=>
 Ac l3<|
 some ((iv n1,[BO.set (ABlk.mk cs1 true true)])))
 (br (Bi 1 c)
 (Ai l λc1 l1=>
 B1 0 3 c1 λ_=>
 Ad l1<|
 Am o λc2 l2=>
 AE true true c2 λcs1=>
 Ac l2<|
 some ((iv (-1),[BO.set (ABlk.mk cs1 true true)])))
 (none)):=by kernel_rfl
theorem Q0(A:Ar)(D:Orc)(n0:Nat)(c0:List AV)(t7:Int)(t8:Int):Dv A D Al NQ .n 208 0 (AW Wn 0).fst (AW Wn 0).snd [AV.sl 0 0 n0 3,AV.fn (Fn.func 157) [] [],iv t7,iv t8] [{ cells:=c0,st:=true,ex:=true }] =
 br (A.lt t8 t7)
 (unI t8 λi=>
 br (i.blt n0) (IG c0 (0+i*3) 3 λcs=>
 At IntKind.i64 cs λn l=>
 Af l λb l1=>
 As l1 λxs l2=>
 Ad l2<|
 Ae D (Key.fn 157) [AV.agg [iv n,bv b,AV.ls xs]] [] λr o=>
 AR r λb1=>
 Ac o<|
 br b1
 (some ((AV.tup [bv true,AV.sl 0 0 n0 3,iv t8],[BO.set (ABlk.mk c0 true true)])))
 (Ae D (Key.lp 208 0) [AV.sl 0 0 n0 3,AV.fn (Fn.func 157) [] [],iv t7,iv (A.add IntKind.i64 t8 1)] [ABlk.mk c0 true true] λr1 o1=>
 AN 1 [0] (AH.mk [(0,ABlk.mk c0 true true)] 1 none) [] r1 o1)) none)
 (some ((AV.tup [iv 0,AV.sl 0 0 n0 3],[BO.set (ABlk.mk c0 true true)]))):=by kernel_rfl
def AhL:MFn:=Bx [] 155
def AgH:Hnt:=⟨[(145,(.agg [.bool,.ls],[]))],[],[(4,[.bool]),(6,[.ls])]⟩
def AoR:Be:=[⟨74,[false,false,true,false,true,false,false,false,false,false,false,false,false,false,false,false,false,true,true,true],[(1000004,3)],[2,17],[(1,([false,false,true,false,true],([],[])))]⟩]
def Aez:MFn:=Bx AoR 89
def AaW:Hnt:=⟨[(87,(.agg [.bool,.ls],[])),(151,(.sl 0 3,[.row true])),(152,(.tup [],[.row true])),(155,(.agg [.bool,.ls],[])),(156,(.sl 0 3,[.row true]))],[(0,[(1,([.ptr 0 0,.ptr 1 0],[.box [.ls,.bool,.ls],.box [.sl 3 3,.bool,.ls],.del,.row true]))])],[(9,[.ls]),(14,[.bool,.ls]),(21,[.int .i64,.bool,.ls]),(22,[.int .i64,.bool,.ls]),(24,[.int .i64]),(27,[.ls]),(34,[.ls]),(36,[.int .i64,.bool,.ls]),(38,[.int .i64]),(40,[.int .i64]),(44,[.ls]),(47,[.ls]),(49,[.int .i64,.bool,.ls]),(51,[.bool,.ls]),(53,[.bool,.ls]),(55,[.int .i64,.bool,.ls]),(58,[.ls]),(60,[.int .i64]),(62,[.bool,.ls]),(70,[.ls]),(73,[.ls,.bool,.ls])]⟩
def I7:List (Nat × MFn):=[(155,AhL),(89,Aez)]
theorem Anu(A:Ar)(D:Orc)(x0_0:Bool)(x0_1:List (List AV)):BI A D Al AgH .n 155 AhL [AV.agg [bv x0_0,AV.ls x0_1]] [] =
 Ae D (Key.fn 145) [bv x0_0,AV.ls x0_1] [] λr o=>
 Au r λcs=>
 Af cs λb l=>
 As l λxs l1=>
 Ad l1<|
 Ac o<|
 some ((AV.agg [bv b,AV.ls xs],[])):=by kernel_rfl
theorem e89(A:Ar)(D:Orc)(x0_0:List (List AV))(x0_1:Bool)(x0_2:List (List AV)):BI A D Al AaW .n 89 Aez [AV.agg [AV.ls x0_0,bv x0_1,AV.ls x0_2]] [] =
 Ae D (Key.fn 151) [AV.ls x0_0] [] λr o=>
 B1 0 3 r λn=>
 Am o λc l=>
 AE true true c λcs=>
 Ac l<|
 Ae D (Key.fn 152) [AV.sl 0 0 n 3,AV.fn (Fn.func 153) [] []] [ABlk.mk cs true true] λr1 o1=>
 Az r1 λcs1=>
 Ad cs1<|
 Am o1 λc1 l1=>
 AE true true c1 λcs2=>
 Ac l1<|
 Ae D (Key.fn 155) [AV.agg [bv x0_1,AV.ls x0_2]] [] λr2 o2=>
 Au r2 λcs3=>
 Af cs3 λb l2=>
 As l2 λxs l3=>
 Ad l3<|
 Ac o2<|
 br ((0+n*3).ble cs2.length) (Ae D (Key.lp 89 0) [AV.ptr 0 0,AV.ptr 1 0,AV.ls (BA n 3 (ApG (n*3) cs2)),iv ↑n,iv 0] [ABlk.mk [AV.ls [],bv false,AV.ls []] true false,ABlk.mk [AV.sl 2 0 0 3,bv b,AV.ls xs] true false,ABlk.mk [] true true] λr3 o3=>
 Az r3 λcs4=>
 Ai cs4 λc2 l4=>
 br (Bi 1 c2)
 (Ai l4 λc3 l5=>
 Cp 0 0 c3<|
 Ai l5 λc4 l6=>
 Cp 1 0 c4<|
 Ad l6<|
 Am o3 λc5 l7=>
 AE true false c5 λcs5=>
 As cs5 λ_ l8=>
 Af l8 λ_ l9=>
 As l9 λ_ l10=>
 Ad l10<|
 Am l7 λc6 l11=>
 AE true false c6 λcs6=>
 Ai cs6 λc7 l12=>
 B1 3 3 c7 λn1=>
 Af l12 λb2 l13=>
 As l13 λxs3 l14=>
 Ad l14<|
 Am l11 λc8 l15=>
 Bn c8<|
 Am l15 λc9 l16=>
 AE true true c9 λcs7=>
 Ac l16<|
 Ae D (Key.fn 156) [AV.sl 0 0 n1 3,AV.fn (Fn.func 157) [] []] [ABlk.mk cs7 true true] λr4 o4=>
 B1 0 3 r4 λn2=>
 Am o4 λc10 l17=>
 AE true true c10 λcs8=>
 Ac l17<|
 br ((0+n2*3).ble cs8.length) (some ((AV.agg [AV.ls (BA n2 3 (ApG (n2*3) cs8)),bv b2,AV.ls xs3],[]))) none)
 (none)) none:=by kernel_rfl
theorem Age(A:Ar)(D:Orc)(r0:List (List AV))(r1:Bool)(r2:List (List AV))(n4:Nat)(k1:Bool)(k2:List (List AV))(c4:List AV)(t17:List (List AV))(t18:Int)(t19:Int):Dv A D Al AaW .n 89 0 (AW Aez 0).fst (AW Aez 0).snd [AV.ptr 0 0,AV.ptr 1 0,AV.ls t17,iv t18,iv t19] [{ cells:=[AV.ls r0,bv r1,AV.ls r2],st:=true,ex:=false },{ cells:=[AV.sl 2 0 n4 3,bv k1,AV.ls k2],st:=true,ex:=false },{ cells:=c4,st:=true,ex:=true }] =
 br (A.lt t19 t18)
 (unI t19 λi=>
 Br t17 i λcs=>
 At IntKind.i64 cs λn l=>
 Af l λb l1=>
 As l1 λxs l2=>
 Ad l2<|
 br (A.lt n 0)
 (Ae D (Key.lp 89 0) [AV.ptr 0 0,AV.ptr 1 0,AV.ls t17,iv t18,iv (A.add IntKind.i64 t19 1)] [ABlk.mk [AV.ls r0,bv r1,AV.ls r2] true false,ABlk.mk [AV.sl 2 0 n4 3,bv k1,AV.ls k2] true false,ABlk.mk c4 true true] λr o=>
 AN 3 [0,1,2] (AH.mk [(0,ABlk.mk [AV.ls r0,bv r1,AV.ls r2] true false),(3,ABlk.mk [iv n,bv b,AV.ls xs] true false),(1,ABlk.mk [AV.sl 2 0 n4 3,bv k1,AV.ls k2] true false),(2,ABlk.mk c4 true true)] 4 none) [0] r o)
 (br (A.le 0 (A.sub IntKind.i64 (↑n4) 1))
 (unI (A.sub IntKind.i64 (↑n4) 1) λi1=>
 br (i1.blt n4) (IG c4 (0+i1*3+0) 1 λcs1=>
 At IntKind.i64 cs1 λn1 l3=>
 Ad l3<|
 br (A.eq n1 n)
 (unI (A.sub IntKind.i64 (↑n4) 1) λi2=>
 br (i2.blt n4) (IG c4 (0+i2*3+1) 2 λcs2=>
 Af cs2 λb1 l4=>
 As l4 λxs1 l5=>
 Ad l5<|
 Ae D (Key.fn 87) [AV.agg [bv b1,AV.ls xs1],AV.agg [bv b,AV.ls xs]] [] λr o=>
 Au r λcs3=>
 Af cs3 λb2 l6=>
 As l6 λxs2 l7=>
 Ad l7<|
 Ac o<|
 unI (A.sub IntKind.i64 (↑n4) 1) λi3=>
 br (i3.blt n4) (br ((0+i3*3+1+2).ble c4.length) (Ae D (Key.lp 89 0) [AV.ptr 0 0,AV.ptr 1 0,AV.ls t17,iv t18,iv (A.add IntKind.i64 t19 1)] [ABlk.mk [AV.ls r0,bv r1,AV.ls r2] true false,ABlk.mk [AV.sl 2 0 n4 3,bv k1,AV.ls k2] true false,ABlk.mk (Ba c4 (0+i3*3+1) [bv b2,AV.ls xs2]) true true] λr3 o1=>
 AN 3 [0,1,2] (AH.mk [(0,ABlk.mk [AV.ls r0,bv r1,AV.ls r2] true false),(2,ABlk.mk (Ba c4 (0+i3*3+1) [bv b2,AV.ls xs2]) true true),(3,ABlk.mk [iv n,bv b,AV.ls xs] true false),(1,ABlk.mk [AV.sl 2 0 n4 3,bv k1,AV.ls k2] true false)] 4 none) [2,0] r3 o1) none) none) none)
 (Ae D (Key.fn 155) [AV.agg [bv b,AV.ls xs]] [] λr o=>
 Au r λcs2=>
 Af cs2 λb1 l4=>
 As l4 λxs1 l5=>
 Ad l5<|
 Ac o<|
 br (Bp (n4+1) 40) (br ((0+n4*3).ble c4.length) (Ae D (Key.lp 89 0) [AV.ptr 0 0,AV.ptr 1 0,AV.ls t17,iv t18,iv (A.add IntKind.i64 t19 1)] [ABlk.mk [AV.ls r0,bv r1,AV.ls r2] true false,ABlk.mk [AV.sl 2 0 (n4+1) 3,bv k1,AV.ls k2] true false,ABlk.mk (ApK 0 (ApG (0+n4*3) c4)++[iv n,bv b1,AV.ls xs1]) true true] λr3 o1=>
 AN 3 [0,1,5] (AH.mk [(0,ABlk.mk [AV.ls r0,bv r1,AV.ls r2] true false),(1,ABlk.mk [AV.sl 5 0 (n4+1) 3,bv k1,AV.ls k2] true false),(5,ABlk.mk (ApK 0 (ApG (0+n4*3) c4)++[iv n,bv b1,AV.ls xs1]) true true),(4,ABlk.mk [iv n,bv b1,AV.ls xs1] true true),(3,ABlk.mk [iv n,bv b,AV.ls xs] true false)] 6 none) [2,1,0] r3 o1) none) none)) none)
 (Ae D (Key.fn 155) [AV.agg [bv b,AV.ls xs]] [] λr o=>
 Au r λcs1=>
 Af cs1 λb1 l3=>
 As l3 λxs1 l4=>
 Ad l4<|
 Ac o<|
 br (Bp (n4+1) 40) (br ((0+n4*3).ble c4.length) (Ae D (Key.lp 89 0) [AV.ptr 0 0,AV.ptr 1 0,AV.ls t17,iv t18,iv (A.add IntKind.i64 t19 1)] [ABlk.mk [AV.ls r0,bv r1,AV.ls r2] true false,ABlk.mk [AV.sl 2 0 (n4+1) 3,bv k1,AV.ls k2] true false,ABlk.mk (ApK 0 (ApG (0+n4*3) c4)++[iv n,bv b1,AV.ls xs1]) true true] λr3 o1=>
 AN 3 [0,1,5] (AH.mk [(0,ABlk.mk [AV.ls r0,bv r1,AV.ls r2] true false),(1,ABlk.mk [AV.sl 5 0 (n4+1) 3,bv k1,AV.ls k2] true false),(5,ABlk.mk (ApK 0 (ApG (0+n4*3) c4)++[iv n,bv b1,AV.ls xs1]) true true),(4,ABlk.mk [iv n,bv b1,AV.ls xs1] true true),(3,ABlk.mk [iv n,bv b,AV.ls xs] true false)] 6 none) [2,1,0] r3 o1) none) none)))
 (some ((AV.tup [iv 0,AV.ptr 0 0,AV.ptr 1 0],[BO.set (ABlk.mk [AV.ls r0,bv r1,AV.ls r2] true false),BO.set (ABlk.mk [AV.sl 3 0 n4 3,bv k1,AV.ls k2] true false),BO.del,BO.set (ABlk.mk c4 true true)]))):=by kernel_rfl
end
end Go.Proofs.YtlmhajfbpplpoaaGreat
