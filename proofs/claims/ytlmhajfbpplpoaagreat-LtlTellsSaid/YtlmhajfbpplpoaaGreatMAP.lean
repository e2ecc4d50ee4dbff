/- slices.Clone over this s -/
import Derived.Maps.AppendAt
import Derived.Test.YtlmhajfbpplpoaaGreatMAO
import Derived.Test.YtlmhajfbpplpoaaGreatMAB
import Derived.Lib.AppendZeros
set_option linter.all false
open Bool renaming false->Θ,true->U,and_eq_true->AvF
open List renaming drop->AvI,drop_eq_getElem_cons->ω,drop_eq_nil_of_le->ο,drop_zero->κ,eq_nil_of_length_eq_zero->Av4,findIdx?_cons->AxG,flatten_cons->Aww,getElem?_eq_getElem->Ω,nil_append->AvV,take->AvG
open Nat renaming eq_zero_or_pos->Ayu,le_refl->η,ne_of_gt->Axq,zero_add->AvW,zero_le->Awh,zero_mul->AwK
open Option renaming none->Δ,some->V,map_some->AvP
namespace Go.Proofs.YtlmhajfbpplpoaaGreat
noncomputable section
open ABlk renaming mk->Ψ
open AV renaming agg->Φ,fn->Av2,ls->Ξ,ptr->ψ,sl->ν,tup->γ,v->AvM
open BO renaming set->AvH
open IntKind renaming i64->φ,u32->χ,u64->υ,u8->AxI
open Key renaming fn->δ,lp->ι
open Lib renaming hid->θ,run_eql_slice_nil->Ayj
open Option.some renaming injEq->ξ
open Tryz renaming prog->π
open Go.RowKit
theorem Q2(a:Addr)(j:Nat):(a.add j).block=a.block:=by unfold Addr.add;split<;>rfl
set_option maxRecDepth 100000 in
set_option maxHeartbeats 4000000 in
theorem W8(w:World)(A:Option Addr)(n c:Nat)(us:AN)(hn:us.length=n*3)(hc:n<=c)(hA:n≠0->∃ g o,A=V ⟨g,o,Δ⟩/\∀ j u,us[j]? = V u->w.cell? ⟨g,o+j,Δ⟩=V u)
  (h1:∀ u∈us,u.oneCell'=U) (hby:n*40<=140737488355328) :
  Calls π 151 #[.slice A n c] w λe w'=>∃ v',e=.returned v'/\w'.ownsRow w.heap.size 154 3 v' n us/\Below w.heap.size w w':=by
 obtain⟨i0,hi0,hz0,hz1,hz2⟩:=info_parts (show (Tryz.prog.info? 154).map (λi=>(i.zero,i.size,i.bytes))=V (V (.agg #[.int .i64 0,.bool Θ,.slice Δ 0 0]),3,40) by kernel_rfl);have HU:=θ hn;have HA:=θ hA;have H1:=θ h1;clear hn hA h1;have hq:∀(w:World) (a:Option Addr) (n c:Nat),(binOp .eql 50 (.slice a n c) (.slice Δ 0 0)).run π w=.ok (.bool a.isNone) w:=λw a n c=>Ayj w _ _ a n c 0 0 Tryz.underlying50
 go_enter Tryz.func151,Tryz.ntmps151
 cases A with
 |none=>
  have h0:n=0:=by
   rcases Ayu n with h|h
   .exact h
   .exfalso
    obtain⟨g,o,h2,_⟩:=HA.out (Axq h)
    cases h2
  subst h0
  go_wp2
  go_ret
  have hu:us=[]:=Av4 (by rw[HU.out,AwK]);rw[hu];exact⟨_,rfl,World.ownsRow_nil _ _ _ _,Below.refl _ _⟩
 |some ad=>
  obtain⟨ag,ao,asp⟩:=ad;have hcells:∀ j u,us[j]? = V u->ag<w.heap.size/\w.cell? ((⟨ag,ao,asp⟩:Addr).add j)=V u:=λj u hj=>by
   have hn0:n≠0:=by
    rintro rfl;have hu:us=[]:=Av4 (by rw[HU.out,AwK]);rw[hu]at hj
    cases hj
   obtain⟨g,o,h2,h3⟩:=HA.out hn0
   cases h2
   have h5:=h3 j u hj;exact⟨DW h5,by rw[FH];exact h5⟩
  have HC:=θ hcells;clear hcells
  go_wp2_with (at_builtin;refine wpList_append_own_at _ rfl _ _ 50 rfl w.heap.size 154 i0 (.agg #[.int .i64 0,.bool Θ,.slice Δ 0 0]) 3 40 Tryz.underlying50 hi0 hz0 hz1 hz2 rfl (by decide) _ 0 [] rfl ?c0 ⟨ag,ao,asp⟩ n c us rfl HU.out ?c1 H1.out ?c3 ?c4 ?c5 ?_)
  case c0=>exact⟨by simp,.inr ⟨w.heap.size,0,#[],rfl,η _,heap_alloc_new _ _,η _,Awh _,by simp,by simp⟩⟩
  case c1=>
   intro j u hj;have:=HC.out j u hj;exact((Bw w (.cells #[] 154)).cell (p:=(⟨ag,ao,asp⟩:Addr).add j) (by rw[Q2];exact this.1)).trans this.2
  case c3=>unfold maxLen;omega
  case c4=>omega
  case c5=>exact(Bw w _).size
  intro v' w3 hown hgrow _ _
  try simp only[AvW,AvV]at hown
  have HO:=θ hown;have HB:=θ ((Bw w (.cells #[] 154)).grown hgrow (Bw w _).size (λk hk=>by have hk:V w.heap.size=V k:=hk;cases hk;exact η _));clear hown hgrow
  go_wp2_with fail
  go_ret
  exact⟨_,rfl,HO.out,HB.out⟩
set_option maxRecDepth 100000 in
set_option maxHeartbeats 4000000 in
theorem W6(w:World)(A:Option Addr)(n c:Nat)(us:AN)(hn:us.length=n*1)(hc:n<=c)(hA:n≠0->∃ g o,A=V ⟨g,o,Δ⟩/\∀ j u,us[j]? = V u->w.cell? ⟨g,o+j,Δ⟩=V u)
  (h1:∀ u∈us,u.oneCell'=U) (hby:n*4<=140737488355328) :
  Calls π 240 #[.slice A n c] w λe w'=>∃ v',e=.returned v'/\w'.ownsRow w.heap.size 230 1 v' n us/\Below w.heap.size w w':=by
 obtain⟨i0,hi0,hz0,hz1,hz2⟩:=info_parts (show (Tryz.prog.info? 230).map (λi=>(i.zero,i.size,i.bytes))=V (V (.int .u32 0),1,4) by kernel_rfl);have HU:=θ hn;have HA:=θ hA;have H1:=θ h1;clear hn hA h1;have hq:∀(w:World) (a:Option Addr) (n c:Nat),(binOp .eql 52 (.slice a n c) (.slice Δ 0 0)).run π w=.ok (.bool a.isNone) w:=λw a n c=>Ayj w _ _ a n c 0 0 Tryz.underlying52
 go_enter Tryz.func240,Tryz.ntmps240
 cases A with
 |none=>
  have h0:n=0:=by
   rcases Ayu n with h|h
   .exact h
   .exfalso
    obtain⟨g,o,h2,_⟩:=HA.out (Axq h)
    cases h2
  subst h0
  go_wp2
  go_ret
  have hu:us=[]:=Av4 (by rw[HU.out,AwK]);rw[hu];exact⟨_,rfl,World.ownsRow_nil _ _ _ _,Below.refl _ _⟩
 |some ad=>
  obtain⟨ag,ao,asp⟩:=ad;have hcells:∀ j u,us[j]? = V u->ag<w.heap.size/\w.cell? ((⟨ag,ao,asp⟩:Addr).add j)=V u:=λj u hj=>by
   have hn0:n≠0:=by
    rintro rfl;have hu:us=[]:=Av4 (by rw[HU.out,AwK]);rw[hu]at hj
    cases hj
   obtain⟨g,o,h2,h3⟩:=HA.out hn0
   cases h2
   have h5:=h3 j u hj;exact⟨DW h5,by rw[FH];exact h5⟩
  have HC:=θ hcells;clear hcells
  go_wp2_with (at_builtin;refine wpList_append_own_at _ rfl _ _ 52 rfl w.heap.size 230 i0 (.int .u32 0) 1 4 Tryz.underlying52 hi0 hz0 hz1 hz2 rfl (by decide) _ 0 [] rfl ?c0 ⟨ag,ao,asp⟩ n c us rfl HU.out ?c1 H1.out ?c3 ?c4 ?c5 ?_)
  case c0=>exact⟨by simp,.inr ⟨w.heap.size,0,#[],rfl,η _,heap_alloc_new _ _,η _,Awh _,by simp,by simp⟩⟩
  case c1=>
   intro j u hj;have:=HC.out j u hj;exact((Bw w (.cells #[] 230)).cell (p:=(⟨ag,ao,asp⟩:Addr).add j) (by rw[Q2];exact this.1)).trans this.2
  case c3=>unfold maxLen;omega
  case c4=>omega
  case c5=>exact(Bw w _).size
  intro v' w3 hown hgrow _ _
  try simp only[AvW,AvV]at hown
  have HO:=θ hown;have HB:=θ ((Bw w (.cells #[] 230)).grown hgrow (Bw w _).size (λk hk=>by have hk:V w.heap.size=V k:=hk;cases hk;exact η _));clear hown hgrow
  go_wp2_with fail
  go_ret
  exact⟨_,rfl,HO.out,HB.out⟩
section
variable {μ:Mu} {F:AQ} {w:World} {g:Nat}
theorem YS:∀(xs:Ab) (o:Nat),RepAt μ F w g xs o->∃ us,RepList μ F w xs us/\∀ j u,us[j]? = V u->w.cell? ⟨g,o+j,Δ⟩=V u
 |[],o,_=>⟨[],rfl,λj u h=>by simp at h⟩
 |x::r,o,h=>by
  simp only[RepAt]at h;obtain⟨⟨_,u,h2,h3⟩,h4⟩:=h;obtain⟨us,h5,h6⟩:=YS r (o+1) h4;refine⟨u::us,⟨u,us,rfl,h3,h5⟩,λj v hj=>?_⟩
  cases j with
  |zero=>simp at hj;subst hj;exact h2
  |succ j=>
   have:=h6 j v (by simpa using hj)
   rwa [show o+1+j=o+(j+1) by omega]at this
theorem R5{e:Nat}:∀(xs:Rw) (o:Nat),RepRows μ F w g e xs o->∃ us,RepList μ F w xs.flatten us/\∀ j u,us[j]? = V u->w.cell? ⟨g,o+j,Δ⟩=V u
 |[],o,_=>⟨[],rfl,λj u h=>by simp at h⟩
 |x::r,o,h=>by
  simp only[RepRows]at h;obtain⟨h1,h2,h3⟩:=h;obtain⟨us,a1,a2⟩:=YS x o h2;obtain⟨vs,b1,b2⟩:=R5 r (o+e) h3;refine⟨us++vs,by rw[Aww];exact RepList.append a1 b1,λj v hj=>?_⟩;have hl:us.length=e:=by rw[a1.length,h1]
  by_cases hj2:j<us.length
  .exact a2 j v (by rwa [List.getElem?_append_left hj2]at hj)
  .rw[List.getElem?_append_right (by omega),hl]at hj
   have:=b2 (j-e) v hj
   rwa [show o+e+(j-e)=o+j by omega]at this
end
def Dh(e B:Nat):Ab->Option (Nat × Ab)
 |[.ls xs]=>if(GH e xs&&LQ (Kz xs)&&A6 (Kz xs)&&Nat.ble (AP xs*B) 140737488355328)=U then V (AP xs,Kz xs) else Δ
 |_=>Δ
theorem OY{P:Program}{f:Nat}{ety:TypeId}(e B:Nat) (h:∀(w:World) (A:Option Addr) (n c:Nat) (us:AN),us.length=n*e->n<=c->(n≠0->∃ g o,A=V ⟨g,o,Δ⟩/\∀ j u,us[j]? = V u->w.cell? ⟨g,o+j,Δ⟩=V u)->
  (∀ u∈us,u.oneCell'=U)->n*B<=140737488355328->Calls P f #[.slice A n c] w λe' w'=>∃ v',e'=.returned v'/\w'.ownsRow w.heap.size ety e v' n us/\Below w.heap.size w w'):Ca (CW P f) (JQ e (Dh e B)):=by
 refine Ru (CV P f) e _ λargs n cells hr=>?_
 unfold Dh at hr;split at hr
 .rename_i xs
  split at hr
  .rename_i hc
   simp only[AvF,Nat.ble_eq]at hc;obtain⟨⟨⟨c1,c2⟩,c3⟩,c4⟩:=hc;rw[Ju]at c1;rw[Ln]at c2 c3;rw[Ia]at c4;simp only[ξ,Prod.mk.injEq]at hr;obtain⟨rfl,rfl⟩:=hr;rw[Ia,Ln];have hlen:xs.flatten.length=xs.length*e:=by
    clear c2 c3 c4
    induction xs with
    |nil=>simp
    |cons x r ih=>
     rw[List.all_cons,AvF]at c1;rw[Aww,List.length_append,ih c1.2,List.length_cons,Nat.add_mul,Nat.one_mul];have:x.length=e:=by simpa using c1.1
     omega
   refine⟨c3,hlen,λμ F w us hF hus=>?_⟩;obtain⟨v,t,rfl,hv,ht⟩:=hus;have ht:t=[]:=ht;subst ht;unfold Rep at hv;obtain⟨_,A,c,rfl,h2,_,h4⟩:=hv;have key:∃ vs,RepList μ F w xs.flatten vs/\(xs.length≠0->∃ g o,A=V ⟨g,o,Δ⟩/\∀ j u,vs[j]? = V u->w.cell? ⟨g,o+j,Δ⟩=V u):=by
    by_cases hx:xs=[]
    .subst hx
     exact⟨[],rfl,λh=>absurd rfl h⟩
    .obtain⟨g,o,e',hA,hr⟩:=h4 hx
     obtain⟨vs,k1,k2⟩:=R5 xs o hr;exact⟨vs,k1,λ_=>⟨g,o,hA,k2⟩⟩
   obtain⟨vs,k1,k2⟩:=key;have hone:∀ u∈vs,u.oneCell'=U:=λu hu=>by
    obtain⟨j,hj,rfl⟩:=List.getElem_of_mem hu;have hj2:j<xs.flatten.length:=by rw[←k1.length];exact hj
    obtain⟨u,a1,a2⟩:=k1.get (Ω hj2);rw[Ω hj]at a1
    cases a1
    rw[Ie]at c2;exact a2.one (List.all_eq_true.1 c2 _ (List.getElem_mem hj2))
   refine Calls.mono (h w A xs.length c vs (by rw[k1.length,hlen]) h2 k2 hone c4) ?_;rintro e' w' ⟨v',rfl,ho,hb⟩;exact⟨v',rfl,ety,vs,ho,hb,k1⟩
  .cases hr
 .cases hr
theorem AaR:Ca (CW π 240) (JQ 1 (Dh 1 4)):=OY 1 4 λw A n c us h1 h2 h3 h4 h5=>W6 w A n c us h1 h2 h3 h4 h5
theorem Xa:Ca (CW π 151) (JQ 3 (Dh 3 40)):=OY 3 40 λw A n c us h1 h2 h3 h4 h5=>W8 w A n c us h1 h2 h3 h4 h5
set_option maxRecDepth 100000 in
set_option maxHeartbeats 4000000 in
theorem Aa8(w:World)(n:Nat)(hby:n*40<=140737488355328) :
  Calls π 263 #[.slice Δ 0 0,.int .i64 n] w λe w'=>∃ v',e=.returned v'/\w'.ownsRow w.heap.size 154 3 v' 0 []/\Below w.heap.size w w':=by
 have y0:¬ (n:Int)<0:=by omega
 go_enter Tryz.func263,Tryz.ntmps263
 by_cases h0:n=0
 .subst h0
  go_wp2
  go_ret
  exact⟨_,rfl,World.ownsRow_nil _ _ _ _,Below.refl _ _⟩
 .have y1:(0:Int)<(n:Int):=by omega
  obtain⟨i0,hi0,hz0,hz1,hz2⟩:=info_parts (show (Tryz.prog.info? 154).map (λi=>(i.zero,i.size,i.bytes))=V (V (.agg #[.int .i64 0,.bool Θ,.slice Δ 0 0]),3,40) by kernel_rfl);have hr:=λty=>Lib.run_append_nil_zeros (P:=π) w 50 3 ty 154 i0 _ .i64 .i64 Tryz.underlying50 Tryz.underlying3 hi0 hz0 n (by omega) (by rw[hz1];decide) (by omega) (by rw[hz2];omega)
  have c1:=grownCap_ge w n 0 154;have c2:=grownCap_le_maxLen w n 0 154 (by unfold maxLen;omega);have HR:=θ hr;clear hr;generalize grownCap w n 0 154=cap at *
  go_wp2_with (at_builtin;refine Lib.wpList_append_run _ rfl _ _ _ _ rfl _ _ rfl rfl _ _ (HR.out _) ?_)
  go_wp2_with fail
  go_ret
  refine⟨_,rfl,⟨by simp,.inr ⟨w.heap.size,cap,_,rfl,η _,heap_alloc_new _ _,Awh _,c2,?_,by simp⟩⟩,?_⟩
  .rw[Array.size_append,size_zeroCells,size_zeroCells]
   show n*3+(cap-n)*3=cap*3
   omega
  .exact(Kr (Below.refl _ _)).alloc (η _) _
def Mb(B:Nat):Ab->Option (Nat × Ab)
 |[.v (.slice Δ 0 0),.v (.int .i64 (.ofNat n))]=>if Nat.ble (n*B) 140737488355328=U then V (0,[]) else Δ
 |_=>Δ
theorem Aa9:Ca (CW π 263) (JQ 3 (Mb 40)):=by
 refine Ru (CV _ _) 3 _ λargs n cells hr=>?_
 unfold Mb at hr;split at hr
 .rename_i k
  split at hr
  .rename_i hk
   simp only[ξ,Prod.mk.injEq]at hr;obtain⟨rfl,rfl⟩:=hr;refine⟨rfl,rfl,λμ F w us hF hus=>?_⟩;obtain⟨u,t,rfl,hu,u2,t2,rfl,hu2,ht⟩:=hus;have ht:t2=[]:=ht;subst ht;unfold Rep at hu hu2;rw[hu.1,hu2.1];refine Calls.mono (Aa8 w k (Nat.le_of_ble_eq_true hk)) ?_;rintro e' w' ⟨v',rfl,ho,hb⟩;exact⟨v',rfl,_,[],ho,hb,rfl⟩
  .cases hr
 .cases hr
def Wo:List (Nat × MFn):=[(121,Zq)]
def Sj:List (Nat × MFn):=[(88,AfJ),(219,AmS)]
section
variable {D:Orc}
theorem Abj(K:Knows Ak Sj D)(xs:List ByteArray)(hx:xs.length<4611686018427387904)(s:ByteArray):∀(k i:Nat),xs.length-i=k->D.ask (.lp 88 0) [.ls (xs.map eS),sv s,iv (xs.length:Int),iv (i:Int)] []=V (Ek i ((xs.drop i).findIdx? (s = ·)),[]):=by
 intro k
 induction k with
 |zero=>
  intro i hi;refine Ax K Ae0 (AkH ..) ?_;have:xs.drop i=[]:=ο (by omega);simp only[V2,this,EV];rw[Ad (by simp;omega)];rfl
 |succ k ih=>
  intro i hi;have hlt:i<xs.length:=by omega
  refine Ax K Ae0 (AkH ..) ?_;have e1:xs.drop i=xs[i]::xs.drop (i+1):=ω hlt;have ih':=ih (i+1) (by omega);have e2:Ai.add .i64 (i:Int) 1=((i+1:Nat):Int):=Bn (by omega);simp only[V2,AA,PO,Ω hlt,eS,Ae,J5,e2,EV];rw[Ac (by simpa using hlt),e1,AxG]
  by_cases h:s=xs[i]
  .simp[←h,Ek]
  .rw[Ad (by simpa using h),Ad (by simpa using h)]
   refine Aa ih' ?_
   cases (xs.drop (i+1)).findIdx? (s = ·) with
   |none=>rfl
   |some j=>
    simp only[Ek,AvP,show i+(j+1)=i+1+j by omega];rfl
theorem RC(K:Knows Ak Sj D)(xs:List ByteArray)(hx:xs.length<4611686018427387904)(s:ByteArray):D.ask (.fn 88) [.ls (xs.map eS),sv s] []=V (iv (Dr (xs.findIdx? (s = ·))),[]):=by
 refine Aq K Ae0 (e88 ..) ?_;rw[Aj];refine Aa (Abj K xs hx s _ 0 rfl) ?_;rw[κ]
 cases xs.findIdx? (s = ·) with
 |none=>rfl
 |some j=>simp only[Ek,Ae,AvW];rfl
theorem AbH(K:Knows Ak Wo D)(xs:List ByteArray)(hx:xs.length<4611686018427387904)(s:ByteArray):∀(k i:Nat),xs.length-i=k->D.ask (.lp 121 0) [.ls (xs.map eS),sv s,iv (i:Int)] []=V (Ek i ((xs.drop i).findIdx? (s = ·)),[]):=by
 intro k
 induction k with
 |zero=>
  intro i hi;refine Ax K US (AdE ..) ?_;have:xs.drop i=[]:=ο (by omega);simp only[V2,Aj,this,EV];rw[Ad (by simp;omega)];rfl
 |succ k ih=>
  intro i hi;have hlt:i<xs.length:=by omega
  refine Ax K US (AdE ..) ?_;have e1:xs.drop i=xs[i]::xs.drop (i+1):=ω hlt;have ih':=ih (i+1) (by omega);have e2:Ai.add .i64 (i:Int) 1=((i+1:Nat):Int):=Bn (by omega);simp only[V2,Aj,AA,PO,Ω hlt,eS,Ae,J5,e2,EV];rw[Ac (by simpa using hlt),e1,AxG]
  by_cases h:s=xs[i]
  .simp[←h,Ek]
  .rw[Ad (by simpa using λe=>h e.symm),Ad (by simpa using h)]
   refine Aa ih' ?_
   cases (xs.drop (i+1)).findIdx? (s = ·) with
   |none=>rfl
   |some j=>
    simp only[Ek,AvP,show i+(j+1)=i+1+j by omega];rfl
theorem R1(K:Knows Ak Wo D)(xs:List ByteArray)(hx:xs.length<4611686018427387904)(s:ByteArray):D.ask (.fn 121) [.ls (xs.map eS),sv s] []=V (iv (Dr (xs.findIdx? (s = ·))),[]):=by
 refine Aq K US (AsL ..) ?_;refine Aa (AbH K xs hx s _ 0 rfl) ?_;rw[κ]
 cases xs.findIdx? (s = ·) with
 |none=>rfl
 |some j=>simp only[Ek,Ae,AvW];rfl
end
section
open Go.RowKit
def ZI:MFn:=Bj [⟨20,(mB 904),[(3,1)],[],[(1,((mB 8),([],[])))]⟩] 232
def U7:Hnt:=⟨[],[(0,[(1,([.sl 1 1],[.del,.row U]))])],[(7,[.ls]),(11,Qj),(12,Qj),(15,[.str])]⟩
variable (A:Ar) (D:Orc)
theorem AtP(x0_0 x0_1:Rw)(x0_2:Int)(x0_3:Rw)(x0_4:Bool)(x0_5:Rw)(x0_6:Bool)(x0_7 x0_8 x0_9:Rw):Bp A D Ak U7 .n 232 ZI [Φ [Ξ x0_0,Ξ x0_1,iv x0_2,Ξ x0_3,bv x0_4,Ξ x0_5,bv x0_6,Ξ x0_7,Ξ x0_8,Ξ x0_9]] [] =
 Ah D (ι 232 0) [ν 0 0 0 1,Ξ x0_8,iv ↑(AP x0_8),iv 0] [Ψ [] U U] [.t,.C,.x,.X,.Y] λc l o=>
 br (AT 1 c)
 (dk [.C,.q 1 1,.N,.D,.R,.X,.E] [.l l,.o o] λn cs1=>
 br ((0+n*1).ble cs1.length) (V ((Ξ (Bo n 1 (AvG (n*1) cs1)),[]))) Δ)
 (Δ):=by kernel_rfl
theorem AdZ(n3:Nat)(c3:Ab)(t7:Rw)(t8 t9:Int):CT A D Ak U7 .n 232 0 (AI ZI 0).fst (AI ZI 0).snd [ν 0 0 n3 1,Ξ t7,iv t8,iv t9] [{ cells:=c3,st:=U,ex:=U }] =
 br (A.lt t9 t8) (unI t9 λi=>A4 t7 i λcs=>dk [.S,.L,.L,.N] [.l cs] λs xs xs1=>br (AU (n3+1) 16) (br ((0+n3*1).ble c3.length)
 (let y1:=Ψ (AvI 0 (AvG (0+n3*1) c3)++[sv s]) U U;AJ D (ι 232 0) [ν 0 0 (n3+1) 1,Ξ t7,iv t8,iv (A.add φ t9 1)] [y1] λr o=>AG 1 [3] (AH.mk [(3,y1),(2,
 Ψ [sv s] U U),(1,bk [sv s,Ξ xs,Ξ xs1])] 4 Δ) [0] r o) Δ) Δ) (V (γ [iv 0,ν 1 0 n3 1],[BO.del,AvH (Ψ c3 U U)])):=by kernel_rfl
end
def Aap:List (Nat × MFn):=[(232,ZI)]
section
open Go.RowKit
def Aml:MFn:=Bj [] 132
def Ak1:Hnt:=⟨[],[],[]⟩
def AmM:MFn:=Bj [] 194
def Alu:Hnt:=⟨[],[],[]⟩
def Amn:MFn:=Bj [] 134
def Ak3:Hnt:=⟨[(132,(.int .i64,[])),(194,(.int .i64,[]))],[],[(13,[.int .i64])]⟩
def Amm:MFn:=Bj [] 133
def Ak2:Hnt:=⟨[(45,(.bool,[])),(46,(.bool,[])),(109,(.bool,[]))],[],[(4,[.int .i64]),(7,A8),(12,[.ls]),(17,[.ls]),(23,[.int .i64]),(28,[.str]),(33,[.str]),(36,A8)]⟩
def AiR:MFn:=Bj [⟨57,(mB 60129542150),[],[2],[(0,((mB 16),([],[2]))),(1,([],([],[2])))]⟩] 74
def AeY:Hnt:=⟨[(45,(.bool,[])),(74,(.bool,[])),(132,(.int .i64,[])),(133,(.bool,[])),(134,(.bool,[]))],[(0,[(0,([.bool],[.del])),(1,([],[.del]))])],[(10,[.int .i64]),(13,[.ls]),(19,A8),(28,A8),(33,[.ls]),(38,A8),(39,A8),(42,[.int .i64]),(44,A8),(51,A8)]⟩
def Arq:MFn:=Bj [] 36
def AqA:Hnt:=⟨[(74,(.bool,[]))],[],[(3,A8)]⟩
def NX:List (Nat × MFn):=[(132,Aml),(194,AmM),(134,Amn),(133,Amm),(74,AiR),(36,Arq)]
variable (A:Ar) (D:Orc)
theorem AsO(x0:Int):Bp A D Ak Ak1 .n 132 Aml [iv x0] [] =
 let y2:=V (iv 0,[]);br (A.eq x0 0) y2 (br (A.eq x0 1) y2 (br (A.eq x0 2) y2 (br (A.eq x0 6) y2 (let y3:=V (iv 1,[]);br (A.eq x0 3) y3 (br (A.eq x0 8) y3 (br (A.eq x0 9) y3 (br (A.eq x0 10) y3
 (let y1:=V (iv 2,[]);br (A.eq x0 4) y1 (br (A.eq x0 5) y1 (br (A.eq x0 7) y1 (br (A.eq x0 11) y1 (br (A.eq x0 12) y1 (V (iv (- 1),[])))))))))))))):=by kernel_rfl
theorem Ats(x0:Int):Bp A D Ak Alu .n 194 AmM [iv x0] [] =
 br (A.eq x0 7)
 (V ((iv 1,[])))
 (br (A.eq x0 5)
 (V ((iv 2,[])))
 (br (A.eq x0 4)
 (V ((iv 3,[])))
 (br (A.eq x0 11)
 (V ((iv 4,[])))
 (br (A.eq x0 12)
 (V ((iv 4,[])))
 (V ((iv 5,[]))))))):=by kernel_rfl
theorem AsQ(x0 x1 x2_0:Int)(x2_1 x2_2:Rw)(x2_3:Int)(x2_4 x2_5:ByteArray)(x2_6:Rw):Bp A D Ak Ak3 .n 134 Amn [iv x0,iv x1,Φ [iv x2_0,Ξ x2_1,Ξ x2_2,iv x2_3,sv x2_4,sv x2_5,Ξ x2_6]] [] =
 Ah D (δ 194) [iv x0] [] [.i,.E] λn=>Ah D (δ 194) [iv x2_0] [] [.i,.E] λn1=>Ah D (δ 132) [iv x0] [] [.i,.E] λn2=>let y2:=V (bv U,[]);let y3:=V (bv Θ,[]);br (A.eq n2 1)
 (br (A.lt n1 5) y2 y3) (br (A.eq n n1) (let y1:=br (A.eq x1 0) (br (A.beq U U) y2 y3) (br (A.beq U Θ) y2 y3);br (A.eq n 1) y1 (br (A.eq n 4) y1 (br (A.eq x1 0) (br (A.beq Θ U) y2 y3) (br (A.beq Θ
 Θ) y2 y3)))) (br (A.lt n1 n) y2 y3)):=by kernel_rfl
theorem AsP(x0_0:Int)(x0_1 x0_2:Rw)(x0_3:Int)(x0_4 x0_5:ByteArray)(x0_6:Rw):Bp A D Ak Ak2 .n 133 Amm [Φ [iv x0_0,Ξ x0_1,Ξ x0_2,iv x0_3,sv x0_4,sv x0_5,Ξ x0_6]] [] =
 let y1:=V (bv Θ,[]);let y2:=[Φ [iv x0_0,Ξ x0_1,Ξ x0_2,iv x0_3,sv x0_4,sv x0_5,Ξ x0_6]];let y3:=λz1=>br z1 (V (bv U,[])) y1;br (A.eq x0_0 2) (Ah D (δ 46) y2 [] [.b,.E]
 y3) (br (A.eq x0_0 6) (br (A.eq (↑(AP x0_1)) 0) (br (A.eq (↑(AP x0_2)) 0) (br (A.eq x0_3 0) (Ah D (δ 109) [sv x0_4] [] [.b,.E] λb=>br b (Ah D (δ 109) [sv x0_5] [] [.b,.E] y3) y1) y1) y1) y1) (Ah D
 (δ 45) y2 [] [.b,.E] y3)):=by kernel_rfl
theorem e74(x0_0:Int)(x0_1 x0_2:Rw)(x0_3:Int)(x0_4 x0_5:ByteArray)(x0_6:Rw)(x1:Int):Bp A D Ak AeY .n 74 AiR [Φ [iv x0_0,Ξ x0_1,Ξ x0_2,iv x0_3,sv x0_4,sv x0_5,Ξ x0_6],iv x1] [] =
 Ah D (δ 132) [iv x0_0] [] [.i,.E] λn=>let y3:=V (bv Θ,[]);br (A.eq (↑(AP x0_6)) n) (let y1:=[iv x0_0,Ξ x0_1,Ξ x0_2,iv x0_3,sv x0_4,sv x0_5,Ξ x0_6];br (A.eq n 0) (Ah D (δ 133)
 [Φ y1] [] [.b,.E] λb=>br b (V (bv U,[])) y3)
 (let y2:=λz1 z2 z3=>br (AT 0 z1) (dk [.B,.N,.D,.E] [.l z2,.o z3] λb1=>V (bv b1,[])) (br (AT 1 z1) (dk [.N,.D,.E,.w] [.l z2,.o z3] λ_=>V (bv U,[])) Δ);br (A.eq n 1) (br (A.lt 60 (A.add
 φ x1 1)) y3 (Ah D (δ 45) [Φ y1] [] [.b,.E] λb=>br b (Ah D (ι 74 0) [iv (A.add φ x1 1),ψ 0 0,Ξ x0_6,iv ↑(AP x0_6),iv 0] [bk y1] [.t,.C,.x,.X,.Y] y2) y3)) (br (A.lt
 60 x1) y3 (Ah D (δ 45) [Φ y1] [] [.b,.E] λb=>br b (Ah D (ι 74 0) [iv x1,ψ 0 0,Ξ x0_6,iv ↑(AP x0_6),iv 0] [bk y1] [.t,.C,.x,.X,.Y] y2) y3)))) y3:=by kernel_rfl
theorem AkC(t1 b2_0:Int)(b2_1 b2_2:Rw)(b2_3:Int)(b2_4 b2_5:ByteArray)(b2_6 t33:Rw)(t34 t35:Int):CT A D Ak AeY .n 74 0 (AI AiR 0).fst (AI AiR 0).snd [iv t1,ψ 0 0,Ξ t33,iv t34,iv t35] [bk [iv b2_0,Ξ b2_1,Ξ b2_2,iv b2_3,sv b2_4,sv b2_5,Ξ b2_6]] =
 br (A.lt t35 t34) (unI t35 λi=>A4 t33 i λcs=>dk [.I,.L,.L,.I,.S,.S,.L,.N] [.l cs] λn xs xs1 n1 s s1 xs2=>let y2:=[iv n,Ξ xs,Ξ xs1,iv n1,sv s,sv s1,Ξ xs2];Ah D (δ 134) [iv b2_0,
 iv t35,Φ y2] [] [.b,.E] λb=>let y3:=V (γ [bv U,bv Θ],[BO.del]);
 let y1:=λz1=>br z1 (let y4:=bk [iv b2_0,Ξ b2_1,Ξ b2_2,iv b2_3,sv b2_4,sv b2_5,Ξ b2_6];AJ D (ι 74 0) [iv t1,ψ 0 0,Ξ t33,iv t34,iv (A.add φ t35 1)] [y4] λr2 o2=>AG 1 [0] (AH.mk [(0,y4),(1,bk y2)] 2 Δ) [0] r2 o2) y3;
 br b (br (A.lt 60 (A.add φ t1 1)) y3 (Ah D (δ 74) [Φ y2,iv (A.add φ t1 1)] [] [.b,.E] y1)) (br (A.lt 60 t1) y3 (Ah D (δ 74) [Φ y2,iv t1] [] [.b,.E] y1))) (V (γ [iv 0],
 [BO.del])):=by kernel_rfl
theorem e36(x0_0:Int)(x0_1 x0_2:Rw)(x0_3:Int)(x0_4 x0_5:ByteArray)(x0_6:Rw):Bp A D Ak AqA .n 36 Arq [Φ [iv x0_0,Ξ x0_1,Ξ x0_2,iv x0_3,sv x0_4,sv x0_5,Ξ x0_6]] [] =
 Ah D (δ 74) [Φ [iv x0_0,Ξ x0_1,Ξ x0_2,iv x0_3,sv x0_4,sv x0_5,Ξ x0_6],iv 0] [] [.b,.E] λb=>
 br b
 (V ((bv U,[])))
 (V ((bv Θ,[]))):=by kernel_rfl
end
section
open Go.RowKit
def ZD:MFn:=Bj [⟨21,(mB 9),[],[],[(1,((mB 9),([],[])))]⟩] 204
def U3:Hnt:=⟨[],[(0,[(1,(Se,[]))])],[(12,[.int .u32]),(13,[.int .u32])]⟩
def AmO:MFn:=Bj [] 200
def Alw:Hnt:=⟨[(204,(.ls,[])),(240,(.sl 0 1,[.row U]))],[],[]⟩
def Amx:MFn:=Bj [] 146
def Alb:Hnt:=⟨[(200,(.ls,[]))],[],[]⟩
def ZE:MFn:=Bj [⟨49,(mB 35),[],[],[(0,((mB 16),([],[]))),(2,([],([],[])))]⟩] 205
def U4:Hnt:=⟨[(204,(.ls,[]))],[(0,[(0,([.int .i64],[])),(2,([],[]))])],[(32,[.int .u32]),(33,[.int .u32]),(36,[.int .u32]),(37,[.int .u32]),(42,[.int .u32]),(43,[.int .u32]),(46,[.int .u32]),(47,[.int .u32])]⟩
def Zs:MFn:=Bj [⟨61,(mB 234881122),[(5,1)],[],[(1,((mB 96),([],[])))]⟩] 149
def UV:Hnt:=⟨[(200,(.ls,[])),(204,(.ls,[]))],[(0,[(1,([.sl 1 1,.int .u64],[.del,.row U]))])],[(30,[.int .u32]),(31,[.int .u32]),(43,[.int .u32]),(44,[.int .u32])]⟩
def Zt:MFn:=Bj [⟨59,(mB 58720450),[(6,1)],[],[(1,((mB 64),([],[])))]⟩] 150
def UW:Hnt:=⟨[(200,(.ls,[])),(204,(.ls,[])),(205,(.int .i64,[]))],[(0,[(1,([.sl 1 1],[.del,.row U]))])],[(28,[.int .u32]),(29,[.int .u32]),(38,[.int .u32]),(39,[.int .u32])]⟩
def RO:MFn:=Bj [⟨68,(mB 1835042),[],[],[(1,((mB 32),([],[])))]⟩,⟨68,(mB 236716514),[],[],[(3,((mB 1835362),([],[])))]⟩] 282
def NH:Hnt:=⟨[(200,(.ls,[]))],[(0,[(1,([.sl 1 1],[.del,.row U]))]),(1,[(3,([.ls,.sl 1 1,.int .i64,.int .u64,.ls,.int .i64,.int .i64],[.del,.row U]))])],[(23,[.int .u32]),(24,[.int .u32]),(30,[.int .u32]),(31,[.int .u32]),(41,[.int .u32]),(42,[.int .u32]),(53,[.int .u32]),(64,[.int .u32])]⟩
def Ana:MFn:=Bj [] 275
def AlR:Hnt:=⟨[(204,(.ls,[])),(282,(.ls,[])),(283,(.ls,[]))],[],[]⟩
def AmQ:MFn:=Bj [] 202
def AeL:Hnt:=⟨[],[],[]⟩
def ZC:MFn:=Bj [⟨47,(mB 1835394),[(7,1)],[],[(1,((mB 384),([],[])))]⟩] 203
def Rx:Hnt:=⟨[],[(0,[(1,([.sl 1 1,.int .u64],[.del,.row U]))])],[(22,[.int .u32]),(23,[.int .u32])]⟩
def RK:MFn:=Bj [⟨49,(mB 786545),[],[],[(0,((mB 12),([2],[]))),(2,((mB 112),([4],[])))]⟩] 148
def Ix:Hnt:=⟨[(200,(.ls,[])),(202,(.tup [.int .u32,.bool],[])),(203,(.ls,[]))],[(0,[(0,(Se,[])),(2,([.ls,.int .u32,.int .u32],[]))])],[]⟩
def NV:List (Nat × MFn):=[(204,ZD),(200,AmO),(146,Amx),(205,ZE),(149,Zs),(150,Zt),(282,RO),(275,Ana),(202,AmQ),(203,ZC),(148,RK)]
variable (A:Ar) (D:Orc)
theorem Aty(x0:Rw):Bp A D Ak U3 .n 204 ZD [Ξ x0] [] =
 Ah D (ι 204 0) [Ξ x0,iv ↑(AP x0)] [] [.t,.C,.x,.X,.Y] λc l o=>
 br (AT 1 c)
 (dk [.L,.I,.N,.E] [.l l,.o o] λxs n=>
 unI n λi=>
 br (J1 0 i (AP xs)) (br (GH 1 xs) (V ((Ξ (IS (Jo xs i) 0),[]))) Δ) Δ)
 (Δ):=by kernel_rfl
theorem AdS(t0:Rw)(t3:Int):CT A D Ak U3 .n 204 0 (AI ZD 0).fst (AI ZD 0).snd [Ξ t0,iv t3] [] =
 br (A.lt 0 t3)
 (unI (A.sub φ t3 1) λi=>
 A4 t0 i λcs=>
 dk [.J .u32,.N] [.l cs] λn=>
 br (A.eq n 0)
 (AJ D (ι 204 0) [Ξ t0,iv (A.sub φ t3 1)] [] λr o=>
 AG 0 [] (AH.mk [] 0 Δ) [] r o)
 (V ((γ [iv 0,Ξ t0,iv t3],[]))))
 (V ((γ [iv 0,Ξ t0,iv t3],[]))):=by kernel_rfl
theorem Atw(x0:Rw):Bp A D Ak Alw .n 200 AmO [Ξ x0] [] =
 Ah D (δ 204) [Ξ x0] [] [.l,.E] λxs=>
 Ah D (δ 240) [Ξ xs] [] [.q 0 1,.R,.X,.E] λn cs=>
 br ((0+n*1).ble cs.length) (V ((Ξ (Bo n 1 (AvG (n*1) cs)),[]))) Δ:=by kernel_rfl
theorem AsZ(x0:Int):Bp A D Ak Alb .n 146 Amx [AvM (Value.int υ x0)] [] =
 br (A.lt 32 0)
 (Δ)
 (Ah D (δ 200) [Ξ [[AvM (Value.int χ (A.conv χ x0))],[AvM (Value.int χ (A.conv χ (A.shr υ x0 32)))]]] [] [.l,.E] λxs=>
 V ((Ξ xs,[]))):=by kernel_rfl
theorem Atz(x0 x1:Rw):Bp A D Ak U4 .n 205 ZE [Ξ x0,Ξ x1] [] =
 Ah D (δ 204) [Ξ x0] [] [.l,.E] λxs=>
 Ah D (δ 204) [Ξ x1] [] [.l,.E] λxs1=>
 br (A.lt ↑(AP xs) ↑(AP xs1))
 (V ((iv (-1),[])))
 (br (A.lt ↑(AP xs1) ↑(AP xs))
 (V ((iv 1,[])))
 (Ah D (ι 205 0) [Ξ xs,Ξ xs1,iv (A.sub φ (↑(AP xs)) 1)] [] [.t,.C,.x,.X,.Y] λc l o2=>
 br (AT 0 c)
 (dk [.I,.N,.E] [.l l,.o o2] λn=>
 V ((iv n,[])))
 (br (AT 2 c)
 (EB l<|
 CB o2<|
 V ((iv 0,[])))
 (Δ)))):=by kernel_rfl
theorem AdT(t0 t1:Rw)(t5:Int):CT A D Ak U4 .n 205 0 (AI ZE 0).fst (AI ZE 0).snd [Ξ t0,Ξ t1,iv t5] [] =
 br (A.le 0 t5)
 (unI t5 λi=>
 A4 t0 i λcs=>
 dk [.J .u32,.N] [.l cs] λn=>
 unI t5 λi1=>
 A4 t1 i1 λcs1=>
 dk [.J .u32,.N] [.l cs1] λn1=>
 br (A.lt n n1)
 (V ((γ [bv U,iv (-1)],[])))
 (unI t5 λi2=>
 A4 t0 i2 λcs2=>
 dk [.J .u32,.N] [.l cs2] λn2=>
 unI t5 λi3=>
 A4 t1 i3 λcs3=>
 dk [.J .u32,.N] [.l cs3] λn3=>
 br (A.lt n3 n2)
 (V ((γ [bv U,iv 1],[])))
 (AJ D (ι 205 0) [Ξ t0,Ξ t1,iv (A.sub φ t5 1)] [] λr o=>
 AG 0 [] (AH.mk [] 0 Δ) [] r o)))
 (V ((γ [iv 1],[]))):=by kernel_rfl
theorem As2(x0 x1:Rw):Bp A D Ak UV .n 149 Zs [Ξ x0,Ξ x1] [] =
 Ah D (δ 204) [Ξ x0] [] [.l,.E] λxs=>Ah D (δ 204) [Ξ x1] [] [.l,.E] λxs1=>
 let y1:=λz1 z2=>unI (A.add φ (↑(AP z1)) 1) λi=>br (AU i 4) (AJ D (ι 149 0) [Ξ z2,ν 0 0 0 1,AvM (Value.int υ 0),Ξ z1,iv ↑(AP z1),iv 0] [Ψ [] U U] λr2 o2=>dk [.t,.C,.x,.X] [.v r2] λc l=>br (AT 1 c) (dk [.C,.q 1 1,.J .u64,.N,.D,.R,.X,.E] [.l l,.o o2] λn n1 cs1=>br (AU (n+1) 4) (br ((0+n*1).ble cs1.length) (br ((0+(n+1)*1).ble (AvI 0 (AvG (0+n*1) cs1)++[AvM (Value.int χ (A.conv χ n1))]).length) (AJ D (δ 200) [Ξ (Bo (n+1) 1 (AvG ((n+1)*1) (AvI 0 (AvI 0 (AvG (0+n*1) cs1)++[AvM (Value.int χ (A.conv χ n1))]))))] [] λr3 o3=>dk [.l,.E] [.v r3,.o o3] λxs2=>V (Ξ xs2,[])) Δ) Δ) Δ) Δ) Δ;
 br (A.lt ↑(AP xs) ↑(AP xs1)) (y1 xs1 xs) (y1 xs xs1):=by kernel_rfl
theorem AdG(t1:Rw)(n5:Nat)(c5:Ab)(t6:Int)(t25:Rw)(t26 t27:Int):CT A D Ak UV .n 149 0 (AI Zs 0).fst (AI Zs 0).snd [Ξ t1,ν 0 0 n5 1,AvM (Value.int υ t6),Ξ t25,iv t26,iv t27] [{ cells:=c5,st:=U,ex:=U }] =
 br (A.lt t27 t26) (unI t27 λi=>A4 t25 i λcs=>dk [.J .u32,.N] [.l cs] λn=>let y1:=A.add υ (A.conv υ n) t6;
 let y5:=λz1 z2=>AJ D (ι 149 0) [Ξ t1,ν 0 0 (n5+1) 1,AvM (Value.int υ (A.shr υ z1 32)),Ξ t25,iv t26,iv (A.add φ t27 1)] [z2] λr o=>AG 1 [2] (AH.mk [(2,z2),(1,Ψ [AvM (Value.int χ (A.conv χ z1))] U U)] 3 Δ) [0] r o;
 let y6:=λz1=>Ψ (AvI 0 (AvG (0+n5*1) c5)++[AvM (Value.int χ (A.conv χ z1))]) U U;br (A.lt t27 ↑(AP t1)) (unI t27 λi1=>A4 t1 i1 λcs1=>dk [.J .u32,.N] [.l
 cs1] λn1=>br (AU (n5+1) 4) (br ((0+n5*1).ble c5.length) (br (A.lt 32 0) Δ (let y4:=A.add υ y1 (A.conv υ n1);let y2:=y6 y4;y5 y4 y2)) Δ) Δ) (br (AU (n5+1) 4) (br ((0+n5 *
 1).ble c5.length) (br (A.lt 32 0) Δ (let y3:=y6 y1;y5 y1 y3)) Δ) Δ)) (V (γ [iv 0,ν 1 0 n5 1,AvM (Value.int υ t6)],[BO.del,AvH (Ψ c5 U U)])):=by kernel_rfl
theorem As3(x0 x1:Rw):Bp A D Ak UW .n 150 Zt [Ξ x0,Ξ x1] [] =
 Ah D (δ 204) [Ξ x0] [] [.l,.E] λxs=>
 Ah D (δ 204) [Ξ x1] [] [.l,.E] λxs1=>
 Ah D (δ 205) [Ξ xs,Ξ xs1] [] [.i,.E] λn=>
 br (A.lt n 0)
 (V ((γ [Ξ [],bv Θ],[])))
 (br (AU (AP xs) 4) (AJ D (ι 150 0) [Ξ xs1,ν 0 0 0 1,AvM (Value.int υ 0),Ξ xs,iv ↑(AP xs),iv 0] [Ψ [] U U] λr3 o3=>
 dk [.t,.C,.x,.X] [.v r3] λc l=>
 br (AT 1 c)
 (dk [.C,.q 1 1,.N,.D,.R,.X,.E] [.l l,.o o3] λn1 cs1=>
 br ((0+n1*1).ble cs1.length) (AJ D (δ 200) [Ξ (Bo n1 1 (AvG (n1*1) cs1))] [] λr4 o4=>
 Mr r4 λxs2=>
 CB o4<|
 V ((γ [Ξ xs2,bv U],[]))) Δ)
 (Δ)) Δ):=by kernel_rfl
theorem AdH(t1:Rw)(n6:Nat)(c6:Ab)(t7:Int)(t23:Rw)(t24 t25:Int):CT A D Ak UW .n 150 0 (AI Zt 0).fst (AI Zt 0).snd [Ξ t1,ν 0 0 n6 1,AvM (Value.int υ t7),Ξ t23,iv t24,iv t25] [{ cells:=c6,st:=U,ex:=U }] =
 br (A.lt t25 t24) (unI t25 λi=>A4 t23 i λcs=>dk [.J .u32,.N] [.l cs] λn=>let y5:=[Ξ t1,ν 0 0 (n6+1) 1,AvM (Value.int υ 1),Ξ t23,iv t24,iv (A.add φ t25 1)];
 let y6:=[Ξ t1,ν 0 0 (n6+1) 1,AvM (Value.int υ 0),Ξ t23,iv t24,iv (A.add φ t25 1)];let y9:=A.add υ (A.conv υ n) 4294967296;br (A.lt t25 ↑(AP t1)) (unI t25 λi1
 =>A4 t1 i1 λcs1=>dk [.J .u32,.N] [.l cs1] λn1=>let y8:=A.add υ t7 (A.conv υ n1);br (A.lt (A.conv υ n) y8) (br (AU (n6+1) 4) (br ((0+n6*1).ble c6.length)
 (let y1:=A.conv χ (A.sub υ y9 y8);let y7:=Ψ (AvI 0 (AvG (0+n6*1) c6)++[AvM (Value.int χ y1)]) U U;AJ D (ι 150 0) y5 [y7] λr o=>AG 1 [2] (AH.mk
 [(2,y7),(1,Ψ [AvM (Value.int χ y1)] U U)] 3 Δ) [0] r o) Δ) Δ) (br (AU (n6+1) 4) (br ((0+n6*1).ble c6.length)
 (let y2:=Ψ (AvI 0 (AvG (0+n6*1) c6)++[AvM (Value.int χ (A.conv χ (A.sub υ (A.conv υ n) y8)))]) U U;AJ D (ι 150 0) y6 [y2] λr o=>AG 1 [2]
 (AH.mk [(2,y2),(1,Ψ [AvM (Value.int χ (A.conv χ (A.sub υ (A.conv υ n) y8)))] U U)] 3 Δ) [0] r o) Δ) Δ)) (br (A.lt (A.conv υ n) t7) (br (AU (n6+1) 4)
 (br ((0+n6*1).ble c6.length) (let y3:=Ψ (AvI 0 (AvG (0+n6*1) c6)++[AvM (Value.int χ (A.conv χ (A.sub υ y9 t7)))]) U U;AJ D (ι 150 0) y5 [y3] λr o=>
 AG 1 [2] (AH.mk [(2,y3),(1,Ψ [AvM (Value.int χ (A.conv χ (A.sub υ y9 t7)))] U U)] 3 Δ) [0] r o) Δ) Δ) (br (AU (n6+1) 4) (br ((0+n6*1).ble c6.length)
 (let y4:=Ψ (AvI 0 (AvG (0+n6*1) c6)++[AvM (Value.int χ (A.conv χ (A.sub υ (A.conv υ n) t7)))]) U U;AJ D (ι 150 0) y6 [y4] λr o=>AG 1 [2]
 (AH.mk [(2,y4),(1,Ψ [AvM (Value.int χ (A.conv χ (A.sub υ (A.conv υ n) t7)))] U U)] 3 Δ) [0] r o) Δ) Δ))) (V (γ [iv 0,ν 1 0 n6 1],[BO.del,AvH
 (Ψ c6 U U)])):=by kernel_rfl
theorem Auh(x0 x1:Rw):Bp A D Ak NH .n 282 RO [Ξ x0,Ξ x1] [] =
 unI (A.add φ ↑(AP x0) ↑(AP x1)) λi=>
 unI (A.add φ ↑(AP x0) ↑(AP x1)) λi1=>
 br (i.ble i1) (br (AU i1 4) (AJ D (ι 282 0) [Ξ x1,ν 0 0 i 1,Ξ x0,iv ↑(AP x0),iv 0] [Ψ (Cr [AvM (Value.int χ 0)] (i*1)) U U] λr o=>
 dk [.t,.C,.x,.X] [.v r] λc l=>
 br (AT 1 c)
 (dk [.C,.q 1 1,.N,.D,.R,.X,.E] [.l l,.o o] λn cs1=>
 br ((0+n*1).ble cs1.length) (AJ D (δ 200) [Ξ (Bo n 1 (AvG (n*1) cs1))] [] λr1 o1=>
 Mr r1 λxs=>
 CB o1<|
 V ((Ξ xs,[]))) Δ)
 (Δ)) Δ) Δ:=by kernel_rfl
theorem Aec(t1:Rw)(n5:Nat)(c5:Ab)(t18:Rw)(t19 t20:Int):CT A D Ak NH .n 282 0 (AI RO 0).fst (AI RO 0).snd [Ξ t1,ν 0 0 n5 1,Ξ t18,iv t19,iv t20] [{ cells:=c5,st:=U,ex:=U }] =
 br (A.lt t20 t19) (unI t20 λi=>A4 t18 i λcs=>dk [.J .u32,.N] [.l cs] λn=>Ah D (ι 282 1) [Ξ t1,ν 0 0 n5 1,iv t20,AvM (Value.int χ n),AvM (Value.int υ 0),Ξ t18,iv
 t19,iv t20,Ξ t1,iv ↑(AP t1),iv 0] [Ψ c5 U U] [.t,.C,.x,.X,.Y] λc l1 o=>br (AT 3 c) (dk [.L,.C,.q 1 1,.I,.J .u64,.L,.I,.I,.N,.D,.R,.X,.E] [.l l1,.o o] λxs n1 n2 n3 xs1 n4 n6 cs2=>
 unI (A.add φ n2 ↑(AP xs)) λi1=>br (i1.blt n1) (br ((0+i1*1+1).ble cs2.length) (let y1:=Ψ (Bv cs2 (0+i1*1) [AvM (Value.int χ (A.conv χ n3))]) U U;AJ D (ι
 282 0) [Ξ xs,ν 0 0 n1 1,Ξ xs1,iv n4,iv (A.add φ n6 1)] [y1] λr1 o1=>AG 1 [1] (AH.mk [(1,y1)] 2 Δ) [0] r1 o1) Δ) Δ) Δ) (V (γ [iv 0,ν 1 0 n5 1],[BO.del,AvH (Ψ
 c5 U U)])):=by kernel_rfl
theorem Aed(t1:Rw)(n5:Nat)(c5:Ab)(t6 t7 t8:Int)(t18:Rw)(t19 t20:Int)(t25:Rw)(t26 t27:Int):CT A D Ak NH .n 282 1 (AI RO 1).fst (AI RO 1).snd [Ξ t1,ν 0 0 n5 1,iv t6,AvM (Value.int χ t7),AvM (Value.int υ t8),Ξ t18,iv t19,iv t20,Ξ t25,iv t26,iv t27] [{ cells:=c5,st:=U,ex:=U }] =
 br (A.lt t27 t26) (unI t27 λi=>A4 t25 i λcs=>dk [.J .u32,.N] [.l cs] λn=>unI (A.add φ t6 t27) λi1=>br (i1.blt n5) (Gf c5 (0+i1*1) 1 λcs1=>dk [.J .u32,.N] [.l cs1] λn1=>unI (A.add
 φ t6 t27) λi2=>br (i2.blt n5) (br ((0+i2*1+1).ble c5.length) (br (A.lt 32 0) Δ
 (let y1:=A.add υ (A.add υ (A.mul υ (A.conv υ t7) (A.conv υ n)) (A.conv υ n1)) t8;
 let y2:=Ψ (Bv c5 (0+i2*1) [AvM (Value.int χ (A.conv χ y1))]) U U;AJ D (ι 282 1) [Ξ t1,ν 0 0 n5 1,iv t6,AvM (Value.int χ t7),AvM (Value.int υ
 (A.shr υ y1 32)),Ξ t18,iv t19,iv t20,Ξ t25,iv t26,iv (A.add φ t27 1)] [y2] λr o=>AG 1 [0] (AH.mk [(0,y2)] 1 Δ) [0] r o)) Δ) Δ) Δ) (V (γ [iv 2,Ξ t1,ν 1 0 n5
 1,iv t6,AvM (Value.int υ t8),Ξ t18,iv t19,iv t20],[BO.del,AvH (Ψ c5 U U)])):=by kernel_rfl
theorem Aub(x0 x1:Rw):Bp A D Ak AlR .n 275 Ana [Ξ x0,Ξ x1] [] =
 Ah D (δ 204) [Ξ x0] [] [.l,.E] λxs=>Ah D (δ 204) [Ξ x1] [] [.l,.E] λxs1=>let y1:=Ah D (δ 282) [Ξ xs,Ξ xs1] [] [.l,.E] λxs2=>V (Ξ xs2,[]);br (A.lt (↑(AP xs)) 24)
 y1 (br (A.lt (↑(AP xs1)) 24) y1 (Ah D (δ 283) [Ξ xs,Ξ xs1] [] [.l,.E] λxs2=>V (Ξ xs2,[]))):=by kernel_rfl
theorem Aqe(x0:Int):Bp A D Ak AeL .n 202 AmQ [AvM (Value.int AxI x0)] [] =
 let y1:=V (γ [AvM (Value.int χ (A.conv χ (A.sub AxI x0 48))),bv Θ],[]);br (A.le 48 x0) (br (A.le x0 57) (V (γ [AvM (Value.int χ (A.conv χ (A.sub AxI
 x0 48))),bv U],[])) y1) y1:=by kernel_rfl
theorem Aqf(x0:Rw)(x1 x2:Int):Bp A D Ak Rx .n 203 ZC [Ξ x0,AvM (Value.int χ x1),AvM (Value.int χ x2)] [] =
 unI (A.add φ (↑(AP x0)) 1) λi=>
 br (AU i 4) (AJ D (ι 203 0) [AvM (Value.int χ x1),ν 0 0 0 1,AvM (Value.int υ (A.conv υ x2)),Ξ x0,iv ↑(AP x0),iv 0] [Ψ [] U U] λr o=>
 dk [.t,.C,.x,.X] [.v r] λc l=>
 br (AT 1 c)
 (dk [.C,.q 1 1,.J .u64,.N,.D,.R,.X,.E] [.l l,.o o] λn n1 cs1=>
 br (A.lt 0 n1)
 (br (AU (n+1) 4) (br ((0+n*1).ble cs1.length) (br ((0+(n+1)*1).ble (AvI 0 (AvG (0+n*1) cs1)++[AvM (Value.int χ (A.conv χ n1))]).length) (V ((Ξ (Bo (n+1) 1 (AvG ((n+1)*1) (AvI 0 (AvI 0 (AvG (0+n*1) cs1)++[AvM (Value.int χ (A.conv χ n1))])))),[]))) Δ) Δ) Δ)
 (br ((0+n*1).ble cs1.length) (V ((Ξ (Bo n 1 (AvG (n*1) cs1)),[]))) Δ))
 (Δ)) Δ:=by kernel_rfl
theorem AdR(t1:Int)(n7:Nat)(c7:Ab)(t8:Int)(t18:Rw)(t19 t20:Int):CT A D Ak Rx .n 203 0 (AI ZC 0).fst (AI ZC 0).snd [AvM (Value.int χ t1),ν 0 0 n7 1,AvM (Value.int υ t8),Ξ t18,iv t19,iv t20] [{ cells:=c7,st:=U,ex:=U }] =
 br (A.lt t20 t19) (unI t20 λi=>A4 t18 i λcs=>dk [.J .u32,.N] [.l cs] λn=>br (AU (n7+1) 4) (br ((0+n7*1).ble c7.length) (br (A.lt 32 0) Δ
 (let y1:=A.add υ (A.mul υ (A.conv υ n) (A.conv υ t1)) t8;let y2:=Ψ (AvI 0 (AvG (0+n7*1) c7)++[AvM (Value.int χ (A.conv χ y1))]) U U;
 AJ D (ι 203 0) [AvM (Value.int χ t1),ν 0 0 (n7+1) 1,AvM (Value.int υ (A.shr υ y1 32)),Ξ t18,iv t19,iv (A.add φ t20 1)] [y2] λr o=>AG 1 [2] (AH.mk [(2,y2),
 (1,Ψ [AvM (Value.int χ (A.conv χ y1))] U U)] 3 Δ) [0] r o)) Δ) Δ) (V (γ [iv 0,ν 1 0 n7 1,AvM (Value.int υ t8)],[BO.del,AvH (Ψ c7 U U)])):=by kernel_rfl
theorem As1(x0:ByteArray):Bp A D Ak Ix .n 148 RK [sv x0] [] =
 br (A.lt 4000 ↑(A.slen x0))
 (V ((γ [Ξ [],iv 2],[])))
 (br (A.seq x0 (Ag []))
 (V ((γ [Ξ [],iv 20],[])))
 (Ah D (ι 148 0) [sv x0,AvM (Value.slice Δ 0 0),AvM (Value.int χ 0),AvM (Value.int χ 1),iv ↑(A.slen x0),iv 0] [] [.t,.C,.x,.X,.Y] λc l o=>
 br (AT 0 c)
 (dk [.L,.I,.N,.E] [.l l,.o o] λxs n=>
 V ((γ [Ξ xs,iv n],[])))
 (br (AT 2 c)
 (dk [.L,.J .u32,.J .u32,.N,.E] [.l l,.o o] λxs n n1=>
 Ah D (δ 203) [Ξ xs,AvM (Value.int χ n1),AvM (Value.int χ n)] [] [.l,.E] λxs1=>
 Ah D (δ 200) [Ξ xs1] [] [.l,.E] λxs2=>
 V ((γ [Ξ xs2,iv 0],[])))
 (Δ)))):=by kernel_rfl
theorem SW(t0:ByteArray)(t4:Rw)(t5 t6 t18 t19:Int):CT A D Ak Ix .n 148 0 (AI RK 0).fst (AI RK 0).snd [sv t0,Ξ t4,AvM (Value.int χ t5),AvM (Value.int χ t6),iv t18,iv t19] [] =
 br (A.lt t19 t18)
 (unI t19 λi=>
 br (i.blt (A.slen t0)) (AJ D (δ 202) [AvM (Value.int AxI (A.sat t0 i))] [] λr o=>
 dk [.t,.J .u32,.B,.N,.E] [.v r,.o o] λn b=>
 br (A.not b)
 (V ((γ [bv U,Ξ [],iv 20],[])))
 (br (A.eq (A.mul χ t6 10) 1000000000)
 (Ah D (δ 203) [Ξ t4,AvM (Value.int χ (A.mul χ t6 10)),AvM (Value.int χ (A.add χ (A.mul χ t5 10) n))] [] [.l,.E] λxs=>
 AJ D (ι 148 0) [sv t0,Ξ xs,AvM (Value.int χ 0),AvM (Value.int χ 1),iv t18,iv (A.add φ t19 1)] [] λr2 o2=>
 AG 0 [] (AH.mk [] 0 Δ) [] r2 o2)
 (AJ D (ι 148 0) [sv t0,Ξ t4,AvM (Value.int χ (A.add χ (A.mul χ t5 10) n)),AvM (Value.int χ (A.mul χ t6 10)),iv t18,iv (A.add φ t19 1)] [] λr1 o1=>
 AG 0 [] (AH.mk [] 0 Δ) [] r1 o1))) Δ)
 (V ((γ [iv 1,Ξ t4,AvM (Value.int χ t5),AvM (Value.int χ t6)],[]))):=by kernel_rfl
theorem Oo(t0:ByteArray)(t5 t6 t18 t19:Int):CT A D Ak Ix .n 148 0 (AI RK 0).fst (AI RK 0).snd [sv t0,AvM (Value.slice Δ 0 0),AvM (Value.int χ t5),AvM (Value.int χ t6),iv t18,iv t19] [] =
 br (A.lt t19 t18)
 (unI t19 λi=>
 br (i.blt (A.slen t0)) (AJ D (δ 202) [AvM (Value.int AxI (A.sat t0 i))] [] λr o=>
 dk [.t,.J .u32,.B,.N,.E] [.v r,.o o] λn b=>
 br (A.not b)
 (V ((γ [bv U,Ξ [],iv 20],[])))
 (br (A.eq (A.mul χ t6 10) 1000000000)
 (Ah D (δ 203) [Ξ [],AvM (Value.int χ (A.mul χ t6 10)),AvM (Value.int χ (A.add χ (A.mul χ t5 10) n))] [] [.l,.E] λxs=>
 AJ D (ι 148 0) [sv t0,Ξ xs,AvM (Value.int χ 0),AvM (Value.int χ 1),iv t18,iv (A.add φ t19 1)] [] λr2 o2=>
 AG 0 [] (AH.mk [] 0 Δ) [] r2 o2)
 (AJ D (ι 148 0) [sv t0,AvM (Value.slice Δ 0 0),AvM (Value.int χ (A.add χ (A.mul χ t5 10) n)),AvM (Value.int χ (A.mul χ t6 10)),iv t18,iv (A.add φ t19 1)] [] λr1 o1=>
 AG 0 [] (AH.mk [] 0 Δ) [] r1 o1))) Δ)
 (V ((γ [iv 1,Ξ [],AvM (Value.int χ t5),AvM (Value.int χ t6)],[]))):=by kernel_rfl
end
section
open Go.RowKit
def Amw:MFn:=Bj [] 145
def Ala:Hnt:=⟨[(200,(.ls,[]))],[],[]⟩
def AmR:MFn:=Bj [] 209
def Alz:Hnt:=⟨[(145,(.agg Bk,[]))],[],[(4,[.bool]),(6,[.ls])]⟩
def ArI:MFn:=Bj [] 84
def AqR:Hnt:=⟨[(145,(.agg Bk,[])),(146,(.ls,[]))],[],[]⟩
def ArK:MFn:=Bj [] 86
def AqT:Hnt:=⟨[(145,(.agg Bk,[]))],[],[(4,[.bool]),(7,[.ls])]⟩
def AmA:MFn:=Bj [] 158
def Ali:Hnt:=⟨[(209,(.agg Bk,[]))],[],[(3,Bk),(7,[.bool]),(10,[.ls])]⟩
def Ang:MFn:=Bj [] 285
def AlW:Hnt:=⟨[(158,(.int .i64,[])),(205,(.int .i64,[]))],[],[(7,Bk),(9,Bk),(23,[.ls]),(25,[.ls]),(28,[.ls]),(30,[.ls])]⟩
def ArL:MFn:=Bj [] 87
def AqU:Hnt:=⟨[(145,(.agg Bk,[])),(149,(.ls,[])),(150,(.tup [.ls,.bool],[]))],[],[(10,[.bool]),(12,[.bool]),(15,[.bool]),(17,[.ls]),(19,[.ls]),(24,[.ls]),(26,[.ls]),(32,[.bool]),(37,[.ls]),(39,[.ls]),(44,[.bool])]⟩
def Am6:MFn:=Bj [] 264
def AlN:Hnt:=⟨[(145,(.agg Bk,[])),(275,(.ls,[]))],[],[(6,[.bool]),(8,[.bool]),(11,[.ls]),(13,[.ls])]⟩
def ArJ:MFn:=Bj [] 85
def AqS:Hnt:=⟨[(145,(.agg Bk,[])),(147,(.tup [.str,.bool],[])),(148,(.tup Se,[]))],[],[]⟩
def Amy:MFn:=Bj [] 147
def Alc:Hnt:=⟨[(201,(.tup [.str,.bool],[]))],[],[]⟩
def AmP:MFn:=Bj [] 201
def Alx:Hnt:=⟨[(241,(.bool,[]))],[],[]⟩
def Am3:MFn:=Bj [] 241
def AlK:Hnt:=⟨[],[],[]⟩
def Ws:List (Nat × MFn):=[(145,Amw),(209,AmR),(84,ArI),(86,ArK),(158,AmA),(285,Ang),(87,ArL),(264,Am6),(85,ArJ),(147,Amy),(201,AmP),(241,Am3)]
variable (A:Ar) (D:Orc)
theorem AsY(x0:Bool)(x1:Rw):Bp A D Ak Ala (.b (.t (.t (.b (.t .n) (.t .n)))) (.f (.f (.f .n)))) 145 Amw [bv x0,Ξ x1] [] =
 Ah D (δ 200) [Ξ x1] [] [.l,.E] λxs=>
 br x0
 (br x0 (br x0 (br (A.lt 0 ↑(AP xs))
 (br x0 (V ((Φ [bv U,Ξ xs],[]))) Δ)
 (br x0 (V ((Φ [bv Θ,Ξ xs],[]))) Δ)) Δ) Δ)
 (br x0 Δ (br x0 Δ (br x0 Δ (V ((Φ [bv Θ,Ξ xs],[])))))):=by kernel_rfl
theorem AtD(x0_0:Bool)(x0_1:Rw):Bp A D Ak Alz .n 209 AmR [Φ [bv x0_0,Ξ x0_1]] [] =
 Ah D (δ 145) [bv x0_0,Ξ x0_1] [] [.a,.B,.L,.N,.E] λb xs=>
 V ((Φ [bv b,Ξ xs],[])):=by kernel_rfl
theorem e84(x0:Int):Bp A D Ak AqR .n 84 ArI [iv x0] [] =
 br (A.lt x0 0)
 (Ah D (δ 146) [AvM (Value.int υ (A.add υ (A.conv υ (A.sub φ 0 (A.add φ x0 1))) 1))] [] [.l,.E] λxs=>
 Ah D (δ 145) [bv U,Ξ xs] [] [.a,.B,.L,.N,.E] λb xs1=>
 V ((Φ [bv b,Ξ xs1],[])))
 (Ah D (δ 146) [AvM (Value.int υ (A.conv υ x0))] [] [.l,.E] λxs=>
 Ah D (δ 145) [bv Θ,Ξ xs] [] [.a,.B,.L,.N,.E] λb xs1=>
 V ((Φ [bv b,Ξ xs1],[]))):=by kernel_rfl
theorem e86(x0_0:Bool)(x0_1:Rw):Bp A D Ak AqT .n 86 ArK [Φ [bv x0_0,Ξ x0_1]] [] =
 br (A.not x0_0)
 (Ah D (δ 145) [bv U,Ξ x0_1] [] [.a,.B,.L,.N,.E] λb xs=>
 V ((Φ [bv b,Ξ xs],[])))
 (Ah D (δ 145) [bv Θ,Ξ x0_1] [] [.a,.B,.L,.N,.E] λb xs=>
 V ((Φ [bv b,Ξ xs],[]))):=by kernel_rfl
theorem As9(x0_0:Bool)(x0_1:Rw):Bp A D Ak Ali .n 158 AmA [Φ [bv x0_0,Ξ x0_1]] [] =
 Ah D (δ 209) [Φ [bv x0_0,Ξ x0_1]] [] [.a,.B,.L,.N,.E] λb xs=>
 br b
 (V ((iv (-1),[])))
 (br (A.lt 0 ↑(AP xs))
 (V ((iv 1,[])))
 (V ((iv 0,[])))):=by kernel_rfl
theorem Auj(x0_0:Bool)(x0_1:Rw)(x1_0:Bool)(x1_1:Rw):Bp A D Ak AlW .n 285 Ang [Φ [bv x0_0,Ξ x0_1],Φ [bv x1_0,Ξ x1_1]] [] =
 Ah D (δ 158) [Φ [bv x0_0,Ξ x0_1]] [] [.i,.E] λn=>
 Ah D (δ 158) [Φ [bv x1_0,Ξ x1_1]] [] [.i,.E] λn1=>
 br (A.lt n n1)
 (V ((iv (-1),[])))
 (br (A.lt n1 n)
 (V ((iv 1,[])))
 (br (A.lt n 0)
 (Ah D (δ 205) [Ξ x1_1,Ξ x0_1] [] [.i,.E] λn2=>
 V ((iv n2,[])))
 (Ah D (δ 205) [Ξ x0_1,Ξ x1_1] [] [.i,.E] λn2=>
 V ((iv n2,[]))))):=by kernel_rfl
theorem e87(x0_0:Bool)(x0_1:Rw)(x1_0:Bool)(x1_1:Rw):Bp A D Ak AqU .n 87 ArL [Φ [bv x0_0,Ξ x0_1],Φ [bv x1_0,Ξ x1_1]] [] =
 let y1:=λz1=>Ah D (δ 145) [bv x0_0,Ξ z1] [] [.a,.B,.L,.N,.E] λb xs1=>V (Φ [bv b,Ξ xs1],[]);br (A.beq x0_0 x1_0) (Ah D (δ 149) [Ξ x0_1,Ξ x1_1] [] [.l,.E] y1) (Ah D
 (δ 150) [Ξ x0_1,Ξ x1_1] [] [.t,.L,.B,.N,.E] λxs b=>br b (y1 xs) (Ah D (δ 150) [Ξ x1_1,Ξ x0_1] [] [.t,.L,.B,.N,.E] λxs1 _=>Ah D (δ 145) [bv x1_0,Ξ xs1] [] [.a,.B,.L,
 .N,.E] λb2 xs2=>V (Φ [bv b2,Ξ xs2],[]))):=by kernel_rfl
theorem At6(x0_0:Bool)(x0_1:Rw)(x1_0:Bool)(x1_1:Rw):Bp A D Ak AlN .n 264 Am6 [Φ [bv x0_0,Ξ x0_1],Φ [bv x1_0,Ξ x1_1]] [] =
 br (A.not (A.beq x0_0 x1_0))
 (Ah D (δ 275) [Ξ x0_1,Ξ x1_1] [] [.l,.E] λxs=>
 Ah D (δ 145) [bv U,Ξ xs] [] [.a,.B,.L,.N,.E] λb xs1=>
 V ((Φ [bv b,Ξ xs1],[])))
 (Ah D (δ 275) [Ξ x0_1,Ξ x1_1] [] [.l,.E] λxs=>
 Ah D (δ 145) [bv Θ,Ξ xs] [] [.a,.B,.L,.N,.E] λb xs1=>
 V ((Φ [bv b,Ξ xs1],[]))):=by kernel_rfl
theorem e85(x0:ByteArray):Bp A D Ak AqS .n 85 ArJ [sv x0] [] =
 Ah D (δ 147) [sv x0,sv (Ag [45])] [] [.t,.S,.B,.N,.E] λs b=>
 Ah D (δ 148) [sv s] [] [.t,.L,.I,.N,.E] λxs n=>
 br (A.eq n 0)
 (Ah D (δ 145) [bv b,Ξ xs] [] [.a,.B,.L,.N,.E] λb1 xs1=>
 V ((γ [Φ [bv b1,Ξ xs1],iv 0],[])))
 (V ((γ [Φ [bv Θ,Ξ []],iv n],[]))):=by kernel_rfl
theorem As0(x0 x1:ByteArray):Bp A D Ak Alc .n 147 Amy [sv x0,sv x1] [] =
 Ah D (δ 201) [sv x0,sv x1] [] [.t,.S,.B,.N,.E] λs b=>
 V ((γ [sv s,bv b],[])):=by kernel_rfl
theorem Atx(x0 x1:ByteArray):Bp A D Ak Alx .n 201 AmP [sv x0,sv x1] [] =
 Ah D (δ 241) [sv x0,sv x1] [] [.b,.E] λb=>
 br b
 (br (J1 (A.slen x1) (A.slen x0) (A.slen x0)) (V ((γ [sv (A.ssub x0 (A.slen x1) (A.slen x0)),bv U],[]))) Δ)
 (V ((γ [sv x0,bv Θ],[]))):=by kernel_rfl
theorem AtW(x0 x1:ByteArray):Bp A D Ak AlK .n 241 Am3 [sv x0,sv x1] [] =
 br (A.le ↑(A.slen x1) ↑(A.slen x0))
 (br (J1 0 (A.slen x1) (A.slen x0)) (br (A.seq (A.ssub x0 0 (A.slen x1)) x1)
 (V ((bv U,[])))
 (V ((bv Θ,[])))) Δ)
 (V ((bv Θ,[]))):=by kernel_rfl
end
section
open Go.RowKit
def AfH:MFn:=Bj [] 207
def Aly:Hnt:=⟨[],[],[]⟩
def AfE:MFn:=Bj [] 154
def Alf:Hnt:=⟨[(207,(.bool,[]))],[],[]⟩
def AfD:MFn:=Bj [] 153
def Ale:Hnt:=⟨[(154,(.int .i64,[]))],[],[(6,[.int .i64]),(8,[.int .i64])]⟩
def AfF:MFn:=Bj [] 157
def Alh:Hnt:=⟨[(158,(.int .i64,[]))],[],[(4,Bk)]⟩
def AfC:MFn:=I5 π BI [] Θ U 152
def Ald:Hnt:=⟨[(153,(.int .i64,[])),(206,(.tup [],[.row U]))],[],[]⟩
def LI:MFn:=I5 π BI [⟨63,(mB 455),[],[],[(1,((mB 199),([],[1000000])))]⟩,⟨63,(mB 71),[],[],[(3,([U],([],[1000000])))]⟩,⟨63,(mB 455),[],[],[(5,((mB 199),([],[1000000])))]⟩] Θ U 206
def Iy:Hnt:=⟨[(153,(.int .i64,[])),(242,(.tup [],[.row U])),(243,(.tup [],[.row U]))],[(0,[(1,([.sl 0 3,.int .i64,.fnc 153,.int .i64,.int .i64],[.row U]))]),(1,[(3,([.sl 0 3],[.row U]))]),(2,[(5,([.sl 0 3,.int .i64,.fnc 153,.int .i64,.int .i64],[.row U]))])],[]⟩
def PC:MFn:=I5 π BI [⟨53,(mB 271),[],[],[(1,([U],([],[1000000])))]⟩,⟨53,(mB 783),[],[],[(3,((mB 271),([],[1000000])))]⟩] Θ U 242
def IW:Hnt:=⟨[(153,(.int .i64,[]))],[(0,[(1,([.sl 0 3],[.row U]))]),(1,[(3,([.sl 0 3,.int .i64,.int .i64,.fnc 153,.int .i64],[.row U]))])],[(25,BM),(26,BM),(30,BM),(31,BM),(45,BM),(46,BM),(49,BM),(50,BM),(51,BM),(52,BM)]⟩
def IC:MFn:=I5 π BI [⟨220,(mB 3091),[],[],[(1,((mB 1027),([],[1000000])))]⟩,⟨220,(mB 9217),[],[],[(3,([U],([],[1000000])))]⟩,⟨220,(mB 49173),[],[],[(5,((mB 16389),([],[1000000])))]⟩,⟨220,(mB 147457),[],[],[(7,([U],([],[1000000])))]⟩,⟨220,(mB 8126495),[],[],[(9,((mB 1835039),([],[1000000])))]⟩] Θ U 243
def De:Hnt:=⟨[(153,(.int .i64,[])),(243,(.tup [],[.row U])),(260,(.tup [],[.row U]))],[(0,[(1,([.sl 0 3,.int .i64,.int .i64],[.row U]))]),(1,[(3,([.sl 0 3],[.row U]))]),(2,[(5,([.sl 0 3,.int .i64,.int .i64],[.row U]))]),(3,[(7,([.sl 0 3],[.row U]))]),(4,[(9,([.sl 0 3,.int .i64,.int .i64,.int .i64,.fnc 153,.int .i64,.int .i64,.int .i64],[.row U]))])],[(43,BM),(44,BM),(47,BM),(48,BM),(69,BM),(70,BM),(73,BM),(74,BM),(75,BM),(76,BM),(95,BM),(96,BM),(99,BM),(100,BM),(121,BM),(122,BM),(125,BM),(126,BM),(127,BM),(128,BM),(163,BM),(164,BM),(167,BM),(168,BM)]⟩
def ZQ:MFn:=I5 π BI [⟨58,(mB 3093),[],[],[(1,((mB 1045),([],[1000000])))]⟩] Θ U 260
def Ry:Hnt:=⟨[(153,(.int .i64,[])),(273,(.tup [],[.row U]))],[(0,[(1,([.sl 0 3,.int .i64,.fnc 153,.int .i64],[.row U]))])],[]⟩
def ZR:MFn:=I5 π BI [⟨38,(mB 1039),[],[],[(1,([U],([],[1000000])))]⟩] Θ U 273
def Ve:Hnt:=⟨[(153,(.int .i64,[]))],[(0,[(1,([.sl 0 3],[.row U]))])],[(28,BM),(29,BM),(34,BM),(35,BM),(36,BM),(37,BM)]⟩
def VB:MFn:=I5 π BI [⟨42,(mB 99),[],[],[(1,((mB 33),([],[1000000])))]⟩] U U 156
def Pf:Hnt:=⟨[(157,(.bool,[])),(208,(.int .i64,[.row U]))],[(0,[(1,([.sl 0 3,.int .i64],[.row U]))])],[(24,BM),(25,BM),(27,BM),(32,BM),(33,BM)]⟩
def VC:MFn:=I5 π BI [⟨19,(mB 387),[],[],[(0,((mB 17),([],[1000000]))),(1,([U],([],[1000000])))]⟩] Θ U 208
def Pj:Hnt:=⟨[(157,(.bool,[]))],[(0,[(0,([.sl 0 3,.int .i64],[.row U])),(1,([.sl 0 3],[.row U]))])],[(14,BM),(15,BM)]⟩
def Fc:List (Nat × MFn):=[(207,AfH),(154,AfE),(153,AfD),(157,AfF),(152,AfC),(206,LI),(242,PC),(243,IC),(260,ZQ),(273,ZR),(156,VB),(208,VC)]
variable (A:Ar) (D:Orc)
theorem AtB(x0:Int):Bp A D Ak Aly .n 207 AfH [iv x0] [] =
 br (A.eq x0 x0)
 (V ((bv Θ,[])))
 (V ((bv U,[]))):=by kernel_rfl
theorem As6(x0 x1:Int):Bp A D Ak Alf .n 154 AfE [iv x0,iv x1] [] =
 Ah D (δ 207) [iv x0] [] [.b,.E] λb=>
 br b
 (Ah D (δ 207) [iv x1] [] [.b,.E] λb1=>
 br b1
 (V ((iv 0,[])))
 (V ((iv (-1),[]))))
 (Ah D (δ 207) [iv x1] [] [.b,.E] λb1=>
 br b1
 (V ((iv 1,[])))
 (br (A.lt x0 x1)
 (V ((iv (-1),[])))
 (br (A.lt x1 x0)
 (V ((iv 1,[])))
 (V ((iv 0,[])))))):=by kernel_rfl
theorem As5(x0_0:Int)(x0_1:Bool)(x0_2:Rw)(x1_0:Int)(x1_1:Bool)(x1_2:Rw):Bp A D Ak Ale .n 153 AfD [Φ [iv x0_0,bv x0_1,Ξ x0_2],Φ [iv x1_0,bv x1_1,Ξ x1_2]] [] =
 Ah D (δ 154) [iv x0_0,iv x1_0] [] [.i,.E] λn=>
 V ((iv n,[])):=by kernel_rfl
theorem As8(x0_0:Int)(x0_1:Bool)(x0_2:Rw):Bp A D Ak Alh .n 157 AfF [Φ [iv x0_0,bv x0_1,Ξ x0_2]] [] =
 Ah D (δ 158) [Φ [bv x0_1,Ξ x0_2]] [] [.i,.E] λn=>
 br (A.eq n 0)
 (V ((bv U,[])))
 (V ((bv Θ,[]))):=by kernel_rfl
theorem As4(n0:Nat)(c0:Ab):Bp A D Ak Ald .n 152 AfC [ν 0 0 n0 3,Av2 (Fn.func 153) [] []] [{ cells:=c0,st:=U,ex:=U }] =
 Ah D (δ 206) [ν 0 0 n0 3,iv ↑n0,Av2 (Fn.func 153) [] []] [Ψ c0 U U] [.t,.N,.R,.X,.E] λcs1=>
 V ((γ [],[AvH (Ψ cs1 U U)])):=by kernel_rfl
theorem AtA(n0:Nat)(c0:Ab)(x1:Int):Bp A D Ak Iy .n 206 LI [ν 0 0 n0 3,iv x1,Av2 (Fn.func 153) [] []] [{ cells:=c0,st:=U,ex:=U }] =
 Ah D (ι 206 0) [ν 0 0 n0 3,iv x1,Av2 (Fn.func 153) [] [],iv 20,iv 0,iv 20] [Ψ c0 U U] [.t,.C,.x,.X,.Y] λc l o=>
 br (AT 1 c)
 (dk [.C,.q 0 3,.I,.C,.f 153,.I,.I,.N,.R,.X,.E] [.l l,.o o] λn n1 n2 n3 cs1=>
 Ah D (δ 242) [ν 0 0 n 3,iv n3,iv n1,Av2 (Fn.func 153) [] []] [Ψ cs1 U U] [.t,.N,.R,.X,.E] λcs3=>
 Ah D (ι 206 1) [ν 0 0 n 3,iv n1,Av2 (Fn.func 153) [] [],iv n2] [Ψ cs3 U U] [.t,.C,.x,.X,.Y] λc5 l8 o2=>
 br (AT 3 c5)
 (dk [.C,.q 0 3,.N,.R,.X,.E] [.l l8,.o o2] λ_ cs5=>
 V ((γ [],[AvH (Ψ cs5 U U)])))
 (Δ))
 (Δ):=by kernel_rfl
theorem AdU(n0:Nat)(c0:Ab)(t1 t6 t7 t8:Int):CT A D Ak Iy .n 206 0 (AI LI 0).fst (AI LI 0).snd [ν 0 0 n0 3,iv t1,Av2 (Fn.func 153) [] [],iv t6,iv t7,iv t8] [{ cells:=c0,st:=U,ex:=U }] =
 br (A.le t8 t1)
 (Ah D (δ 242) [ν 0 0 n0 3,iv t7,iv t8,Av2 (Fn.func 153) [] []] [Ψ c0 U U] [.t,.N,.R,.X,.E] λcs1=>
 AJ D (ι 206 0) [ν 0 0 n0 3,iv t1,Av2 (Fn.func 153) [] [],iv t6,iv t8,iv (A.add φ t8 t6)] [Ψ cs1 U U] λr1 o1=>
 AG 1 [0] (AH.mk [(0,Ψ cs1 U U)] 1 Δ) [0] r1 o1)
 (V ((γ [iv 0,ν 0 0 n0 3,iv t1,Av2 (Fn.func 153) [] [],iv t6,iv t7],[AvH (Ψ c0 U U)]))):=by kernel_rfl
theorem Xk(n0:Nat)(c0:Ab)(t1 t6:Int):CT A D Ak Iy .n 206 1 (AI LI 1).fst (AI LI 1).snd [ν 0 0 n0 3,iv t1,Av2 (Fn.func 153) [] [],iv t6] [{ cells:=c0,st:=U,ex:=U }] =
 br (A.lt t6 t1) (Ah D (ι 206 2) [ν 0 0 n0 3,iv t1,Av2 (Fn.func 153) [] [],iv t6,iv 0,iv (A.mul φ 2 t6)] [Ψ c0 U U] [.t,.C,.x,.X,.Y] λc l o=>br (AT 5 c) (dk [.C,.q 0 3,.I,.C,
 .f 153,.I,.I,.N,.R,.X,.E] [.l l,.o o] λn n1 n2 n3 cs1=>
 let y1:=λz1=>AJ D (ι 206 1) [ν 0 0 n 3,iv n1,Av2 (Fn.func 153) [] [],iv (A.mul φ n2 2)] [Ψ z1 U U] λr2 o2=>AG 1 [0] (AH.mk [(0,Ψ z1 U U)] 1 Δ) [0] r2 o2;br
 (A.lt (A.add φ n3 n2) n1) (Ah D (δ 243) [ν 0 0 n 3,iv n3,iv (A.add φ n3 n2),iv n1,Av2 (Fn.func 153) [] []] [Ψ cs1 U U] [.t,.N,.R,.X,.E] y1) (y1 cs1)) Δ) (V (γ [iv
 2,ν 0 0 n0 3],[AvH (Ψ c0 U U)])):=by kernel_rfl
theorem AdV(n0:Nat)(c0:Ab)(t1 t6 t7 t8:Int):CT A D Ak Iy .n 206 2 (AI LI 2).fst (AI LI 2).snd [ν 0 0 n0 3,iv t1,Av2 (Fn.func 153) [] [],iv t6,iv t7,iv t8] [{ cells:=c0,st:=U,ex:=U }] =
 br (A.le t8 t1)
 (Ah D (δ 243) [ν 0 0 n0 3,iv t7,iv (A.add φ t7 t6),iv t8,Av2 (Fn.func 153) [] []] [Ψ c0 U U] [.t,.N,.R,.X,.E] λcs1=>
 AJ D (ι 206 2) [ν 0 0 n0 3,iv t1,Av2 (Fn.func 153) [] [],iv t6,iv t8,iv (A.add φ t8 (A.mul φ 2 t6))] [Ψ cs1 U U] λr1 o1=>
 AG 1 [0] (AH.mk [(0,Ψ cs1 U U)] 1 Δ) [0] r1 o1)
 (V ((γ [iv 4,ν 0 0 n0 3,iv t1,Av2 (Fn.func 153) [] [],iv t6,iv t7],[AvH (Ψ c0 U U)]))):=by kernel_rfl
theorem Aqg(n0:Nat)(c0:Ab)(x1 x2:Int):Bp A D Ak IW .n 242 PC [ν 0 0 n0 3,iv x1,iv x2,Av2 (Fn.func 153) [] []] [{ cells:=c0,st:=U,ex:=U }] =
 Ah D (ι 242 0) [ν 0 0 n0 3,iv x1,iv x2,Av2 (Fn.func 153) [] [],iv (A.add φ x1 1)] [Ψ c0 U U] [.t,.C,.x,.X,.Y] λc l o=>
 br (AT 1 c)
 (dk [.C,.q 0 3,.N,.R,.X,.E] [.l l,.o o] λ_ cs1=>
 V ((γ [],[AvH (Ψ cs1 U U)])))
 (Δ):=by kernel_rfl
theorem Xl(n0:Nat)(c0:Ab)(t1 t2 t8:Int):CT A D Ak IW .n 242 0 (AI PC 0).fst (AI PC 0).snd [ν 0 0 n0 3,iv t1,iv t2,Av2 (Fn.func 153) [] [],iv t8] [{ cells:=c0,st:=U,ex:=U }] =
 br (A.lt t8 t2)
 (Ah D (ι 242 1) [ν 0 0 n0 3,iv t1,iv t2,Av2 (Fn.func 153) [] [],iv t8,iv t8] [Ψ c0 U U] [.t,.C,.x,.X,.Y] λc l o=>
 br (AT 3 c)
 (dk [.C,.q 0 3,.I,.I,.C,.f 153,.I,.N,.R,.X,.E] [.l l,.o o] λn n1 n2 n3 cs1=>
 AJ D (ι 242 0) [ν 0 0 n 3,iv n1,iv n2,Av2 (Fn.func 153) [] [],iv (A.add φ n3 1)] [Ψ cs1 U U] λr1 o1=>
 AG 1 [0] (AH.mk [(0,Ψ cs1 U U)] 1 Δ) [0] r1 o1)
 (Δ))
 (V ((γ [iv 0,ν 0 0 n0 3],[AvH (Ψ c0 U U)]))):=by kernel_rfl
theorem Xm(n0:Nat)(c0:Ab)(t1 t2 t8 t9:Int):CT A D Ak IW .n 242 1 (AI PC 1).fst (AI PC 1).snd [ν 0 0 n0 3,iv t1,iv t2,Av2 (Fn.func 153) [] [],iv t8,iv t9] [{ cells:=c0,st:=U,ex:=U }] =
 let y2:=V (γ [iv 2,ν 0 0 n0 3,iv t1,iv t2,Av2 (Fn.func 153) [] [],iv t8],[AvH (Ψ c0 U U)]);br (A.lt t1 t9) (unI t9 λi=>br (i.blt n0) (Gf c0 (0+i*3) 3 λcs=>dk [.I,.B,.L,.N]
 [.l cs] λn b xs=>unI (A.sub φ t9 1) λi1=>br (i1.blt n0) (Gf c0 (0+i1*3) 3 λcs1=>dk [.I,.B,.L,.N] [.l cs1] λn1 b1 xs1=>Ah D (δ 153) [Φ [iv n,bv b,Ξ xs],Φ [iv n1,bv
 b1,Ξ xs1]] [] [.i,.E] λn2=>br (A.lt n2 0) (unI (A.sub φ t9 1) λi2=>br (i2.blt n0) (Gf c0 (0+i2*3) 3 λcs2=>dk [.I,.B,.L,.N] [.l cs2] λn3 b2 xs2=>unI t9 λi3=>br (i3.blt n0) (Gf c0
 (0+i3*3) 3 λcs3=>dk [.I,.B,.L,.N] [.l cs3] λn4 b3 xs3=>unI t9 λi4=>br (i4.blt n0) (br ((0+i4*3+3).ble c0.length) (unI (A.sub φ t9 1) λi5=>br (i5.blt n0) (br ((0+i5*3+3).ble
 (Bv c0 (0+i4*3) [iv n3,bv b2,Ξ xs2]).length) (let y1:=Ψ (Bv (Bv c0 (0+i4*3) [iv n3,bv b2,Ξ xs2]) (0+i5*3) [iv n4,bv b3,Ξ xs3]) U U;AJ D (ι 242 1) [ν 0 0 n0 3,
 iv t1,iv t2,Av2 (Fn.func 153) [] [],iv t8,iv (A.sub φ t9 1)] [y1] λr1 o1=>AG 1 [0] (AH.mk [(0,y1)] 1 Δ) [0] r1 o1) Δ) Δ) Δ) Δ) Δ) Δ) y2) Δ) Δ) y2:=by kernel_rfl
theorem AaY(n0:Nat)(c0:Ab)(x1 x2 x3:Int):Bp A D Ak De .n 243 IC [ν 0 0 n0 3,iv x1,iv x2,iv x3,Av2 (Fn.func 153) [] []] [{ cells:=c0,st:=U,ex:=U }] =
 let y5:=λz1=>V (γ [],[AvH (Ψ z1 U U)]);let y6:=Av2 (Fn.func 153) [] [];let y8:=[Ψ c0 U U];br (A.eq (A.sub φ x2 x1) 1) (Ah D (ι 243 0) [ν 0 0 n0 3,iv x1,
 y6,iv x2,iv x3] y8 [.t,.C,.x,.X,.Y] λc l o=>br (AT 1 c) (dk [.C,.q 0 3,.I,.I,.N,.R,.X,.E] [.l l,.o o] λn n1 n2 cs1=>Ah D (ι 243 1) [ν 0 0 n 3,iv n2,iv n1] [Ψ cs1 U U] [.t,.C,
 .x,.X,.Y] λc3 l5 o1=>br (AT 3 c3) (dk [.C,.q 0 3,.N,.R,.X,.E] [.l l5,.o o1] λ_ cs3=>y5 cs3) Δ) Δ) (br (A.eq (A.sub φ x3 x2) 1) (Ah D (ι 243 2) [ν 0 0 n0 3,iv x2,y6,iv x1,iv x2]
 y8 [.t,.C,.x,.X,.Y] λc l o=>br (AT 5 c) (dk [.C,.q 0 3,.I,.I,.N,.R,.X,.E] [.l l,.o o] λn n1 n2 cs1=>Ah D (ι 243 3) [ν 0 0 n 3,iv n2,iv n1] [Ψ cs1 U U] [.t,.C,.x,.X,.Y] λc3
 l5 o1=>br (AT 7 c3) (dk [.C,.q 0 3,.N,.R,.X,.E] [.l l5,.o o1] λ_ cs3=>y5 cs3) Δ) Δ) (br (A.lt 1 0) Δ
 (let y1:=λz1 z2 z3 z4 z5 z6 z7=>let y2:=λz1=>br (A.lt z3 (A.sub φ z6 z2)) (br (A.lt (A.sub φ z6 z2) z7) (Ah D (δ 243) [ν 0 0 z4 3,iv z3,iv (A.sub φ z6 z2),iv z7,y6] [Ψ z1 U U] [.t,.N,.R,.X,.E] y5) (y5 z1)) (y5 z1);br (A.lt z1 z2) (br (A.lt z2 z3) (Ah D (δ 243) [ν 0 0 z4 3,iv z1,iv z2,iv z3,y6] [Ψ z5 U U] [.t,.N,.R,.X,.E] y2) (y2 z5)) (y2 z5);
 let y3:=A.conv φ (A.shr υ (A.conv υ (A.add φ x1 x3)) 1);
 let y4:=λz1 z2 z3=>br (AT 9 z1) (dk [.C,.q 0 3,.I,.I,.I,.C,.f 153,.I,.I,.I,.N,.R,.X,.E] [.l z2,.o z3] λn n1 n2 n3 n4 n5 n6 cs1=>br (A.lt n6 n2) (br (A.lt n2 (A.sub φ n5 n6)) (Ah D (δ 260) [ν 0 0 n 3,iv n6,iv n2,iv (A.sub φ n5 n6),y6] [Ψ cs1 U U] [.t,.N,.R,.X,.E] λcs3=>y1 n1 n6 n4 n cs3 n5 n3) (y1 n1 n6 n4 n cs1 n5 n3)) (y1 n1 n6 n4 n cs1 n5 n3)) Δ;
 let y7:=A.add φ y3 x2;br (A.lt y3 x2) (Ah D (ι 243 4) [ν 0 0 n0 3,iv x1,iv x2,iv x3,y6,iv y3,iv y7,iv (A.sub φ y7 x3),iv y3,iv (A.sub φ y7 1)] y8 [.t,.C,.x,.X,.Y] y4)
 (Ah D (ι 243 4) [ν 0 0 n0 3,iv x1,iv x2,iv x3,y6,iv y3,iv y7,iv x1,iv x2,iv (A.sub φ y7 1)] y8 [.t,.C,.x,.X,.Y] y4)))):=by kernel_rfl
theorem Xn(n0:Nat)(c0:Ab)(t1 t10 t11:Int):CT A D Ak De .n 243 0 (AI IC 0).fst (AI IC 0).snd [ν 0 0 n0 3,iv t1,Av2 (Fn.func 153) [] [],iv t10,iv t11] [{ cells:=c0,st:=U,ex:=U }] =
 let y2:=Ψ c0 U U;br (A.lt t10 t11) (br (A.lt 1 0) Δ (let y1:=A.conv φ (A.shr υ (A.conv υ (A.add φ t10 t11)) 1);unI y1 λi=>br (i.blt n0) (Gf c0 (0+i*3) 3 fun
 cs=>dk [.I,.B,.L,.N] [.l cs] λn b xs=>unI t1 λi1=>br (i1.blt n0) (Gf c0 (0+i1*3) 3 λcs1=>dk [.I,.B,.L,.N] [.l cs1] λn1 b1 xs1=>Ah D (δ 153) [Φ [iv n,bv b,Ξ xs],Φ [iv n1,
 bv b1,Ξ xs1]] [] [.i,.E] λn2=>br (A.lt n2 0) (AJ D (ι 243 0) [ν 0 0 n0 3,iv t1,Av2 (Fn.func 153) [] [],iv (A.add φ y1 1),iv t11] [y2] λr1 o1=>AG 1 [0] (AH.mk [(0,y2)] 1 Δ) [] r1
 o1) (AJ D (ι 243 0) [ν 0 0 n0 3,iv t1,Av2 (Fn.func 153) [] [],iv t10,iv y1] [y2] λr1 o1=>AG 1 [0] (AH.mk [(0,y2)] 1 Δ) [] r1 o1)) Δ) Δ)) (V (γ [iv 0,ν 0 0 n0 3,iv t1,iv t10],
 [AvH y2])):=by kernel_rfl
theorem Ad2(n0:Nat)(c0:Ab)(t10 t13:Int):CT A D Ak De .n 243 1 (AI IC 1).fst (AI IC 1).snd [ν 0 0 n0 3,iv t10,iv t13] [{ cells:=c0,st:=U,ex:=U }] =
 br (A.lt t13 (A.sub φ t10 1)) (unI (A.add φ t13 1) λi=>br (i.blt n0) (Gf c0 (0+i*3) 3 λcs=>dk [.I,.B,.L,.N] [.l cs] λn b xs=>unI t13 λi1=>br (i1.blt n0) (Gf c0 (0+i1*3) 3 fun
 cs1=>dk [.I,.B,.L,.N] [.l cs1] λn1 b1 xs1=>unI t13 λi2=>br (i2.blt n0) (br ((0+i2*3+3).ble c0.length) (unI (A.add φ t13 1) λi3=>br (i3.blt n0) (br ((0+i3*3+3).ble (Bv c0 (0+i2*3)
 [iv n,bv b,Ξ xs]).length) (let y1:=Ψ (Bv (Bv c0 (0+i2*3) [iv n,bv b,Ξ xs]) (0+i3*3) [iv n1,bv b1,Ξ xs1]) U U;AJ D (ι 243 1) [ν 0 0 n0 3,iv t10,iv (A.add φ
 t13 1)] [y1] λr o=>AG 1 [0] (AH.mk [(0,y1)] 1 Δ) [0] r o) Δ) Δ) Δ) Δ) Δ) Δ) (V (γ [iv 2,ν 0 0 n0 3],[AvH (Ψ c0 U U)])):=by kernel_rfl
theorem Xo(n0:Nat)(c0:Ab)(t2 t14 t15:Int):CT A D Ak De .n 243 2 (AI IC 2).fst (AI IC 2).snd [ν 0 0 n0 3,iv t2,Av2 (Fn.func 153) [] [],iv t14,iv t15] [{ cells:=c0,st:=U,ex:=U }] =
 let y2:=Ψ c0 U U;br (A.lt t14 t15) (br (A.lt 1 0) Δ (unI t2 λi=>br (i.blt n0) (Gf c0 (0+i*3) 3 λcs=>dk [.I,.B,.L,.N] [.l cs] λn b xs=>
 let y1:=A.conv φ (A.shr υ (A.conv υ (A.add φ t14 t15)) 1);unI y1 λi1=>br (i1.blt n0) (Gf c0 (0+i1*3) 3 λcs1=>dk [.I,.B,.L,.N] [.l cs1] λn1 b1 xs1=>Ah D (δ
 153) [Φ [iv n,bv b,Ξ xs],Φ [iv n1,bv b1,Ξ xs1]] [] [.i,.E] λn2=>br (A.lt n2 0) (AJ D (ι 243 2) [ν 0 0 n0 3,iv t2,Av2 (Fn.func 153) [] [],iv t14,iv y1] [y2] λr1 o1=>AG 1 [0]
 (AH.mk [(0,y2)] 1 Δ) [] r1 o1) (AJ D (ι 243 2) [ν 0 0 n0 3,iv t2,Av2 (Fn.func 153) [] [],iv (A.add φ y1 1),iv t15] [y2] λr1 o1=>AG 1 [0] (AH.mk [(0,y2)] 1 Δ) [] r1 o1)) Δ) Δ))
 (V (γ [iv 4,ν 0 0 n0 3,iv t2,iv t14],[AvH y2])):=by kernel_rfl
theorem Ad3(n0:Nat)(c0:Ab)(t14 t17:Int):CT A D Ak De .n 243 3 (AI IC 3).fst (AI IC 3).snd [ν 0 0 n0 3,iv t14,iv t17] [{ cells:=c0,st:=U,ex:=U }] =
 br (A.lt t14 t17) (unI (A.sub φ t17 1) λi=>br (i.blt n0) (Gf c0 (0+i*3) 3 λcs=>dk [.I,.B,.L,.N] [.l cs] λn b xs=>unI t17 λi1=>br (i1.blt n0) (Gf c0 (0+i1*3) 3 λcs1=>dk [.I,.B,.L,
 .N] [.l cs1] λn1 b1 xs1=>unI t17 λi2=>br (i2.blt n0) (br ((0+i2*3+3).ble c0.length) (unI (A.sub φ t17 1) λi3=>br (i3.blt n0) (br ((0+i3*3+3).ble (Bv c0 (0+i2*3) [iv n,bv b,Ξ
 xs]).length) (let y1:=Ψ (Bv (Bv c0 (0+i2*3) [iv n,bv b,Ξ xs]) (0+i3*3) [iv n1,bv b1,Ξ xs1]) U U;AJ D (ι 243 3) [ν 0 0 n0 3,iv t14,iv (A.sub φ t17 1)] [y1] λr o
 =>AG 1 [0] (AH.mk [(0,y1)] 1 Δ) [0] r o) Δ) Δ) Δ) Δ) Δ) Δ) (V (γ [iv 6,ν 0 0 n0 3],[AvH (Ψ c0 U U)])):=by kernel_rfl
theorem Xp(n0:Nat)(c0:Ab)(t1 t2 t3 t18 t19 t20 t21 t22:Int):CT A D Ak De .n 243 4 (AI IC 4).fst (AI IC 4).snd [ν 0 0 n0 3,iv t1,iv t2,iv t3,Av2 (Fn.func 153) [] [],iv t18,iv t19,iv t20,iv t21,iv t22] [{ cells:=c0,st:=U,ex:=U }] =
 let y2:=Ψ c0 U U;br (A.lt t20 t21) (br (A.lt 1 0) Δ (let y1:=A.conv φ (A.shr υ (A.conv υ (A.add φ t20 t21)) 1);unI (A.sub φ t22 y1) λi=>br (i.blt n0)
 (Gf c0 (0+i*3) 3 λcs=>dk [.I,.B,.L,.N] [.l cs] λn b xs=>unI y1 λi1=>br (i1.blt n0) (Gf c0 (0+i1*3) 3 λcs1=>dk [.I,.B,.L,.N] [.l cs1] λn1 b1 xs1=>Ah D (δ 153) [Φ [iv n,bv b,
 Ξ xs],Φ [iv n1,bv b1,Ξ xs1]] [] [.i,.E] λn2=>br (A.lt n2 0) (AJ D (ι 243 4) [ν 0 0 n0 3,iv t1,iv t2,iv t3,Av2 (Fn.func 153) [] [],iv t18,iv t19,iv t20,iv y1,iv t22] [y2] λr1 o1=>
 AG 1 [0] (AH.mk [(0,y2)] 1 Δ) [] r1 o1) (AJ D (ι 243 4) [ν 0 0 n0 3,iv t1,iv t2,iv t3,Av2 (Fn.func 153) [] [],iv t18,iv t19,iv (A.add φ y1 1),iv t21,iv t22] [y2] λr1 o1=>AG 1 [0]
 (AH.mk [(0,y2)] 1 Δ) [] r1 o1)) Δ) Δ)) (V (γ [iv 8,ν 0 0 n0 3,iv t1,iv t2,iv t3,Av2 (Fn.func 153) [] [],iv t18,iv t19,iv t20],[AvH y2])):=by kernel_rfl
theorem At5(n0:Nat)(c0:Ab)(x1 x2 x3:Int):Bp A D Ak Ry .n 260 ZQ [ν 0 0 n0 3,iv x1,iv x2,iv x3,Av2 (Fn.func 153) [] []] [{ cells:=c0,st:=U,ex:=U }] =
 Ah D (ι 260 0) [ν 0 0 n0 3,iv x2,Av2 (Fn.func 153) [] [],iv (A.sub φ x2 x1),iv (A.sub φ x3 x2)] [Ψ c0 U U] [.t,.C,.x,.X,.Y] λc l o=>
 br (AT 1 c)
 (dk [.C,.q 0 3,.I,.C,.f 153,.I,.N,.R,.X,.E] [.l l,.o o] λn n1 n2 cs1=>
 Ah D (δ 273) [ν 0 0 n 3,iv (A.sub φ n1 n2),iv n1,iv n2,Av2 (Fn.func 153) [] []] [Ψ cs1 U U] [.t,.N,.R,.X,.E] λcs3=>
 V ((γ [],[AvH (Ψ cs3 U U)])))
 (Δ):=by kernel_rfl
theorem Xq(n0:Nat)(c0:Ab)(t2 t10 t11:Int):CT A D Ak Ry .n 260 0 (AI ZQ 0).fst (AI ZQ 0).snd [ν 0 0 n0 3,iv t2,Av2 (Fn.func 153) [] [],iv t10,iv t11] [{ cells:=c0,st:=U,ex:=U }] =
 let y1:=Av2 (Fn.func 153) [] [];let y2:=ν 0 0 n0 3;br (A.eq t10 t11) (V (γ [iv 0,y2,iv t2,y1,iv t10],[AvH (Ψ c0 U U)])) (br (A.lt t11 t10) (Ah D (δ 273) [y2,iv (A.sub φ t2
 t10),iv t2,iv t11,y1] [Ψ c0 U U] [.t,.N,.R,.X,.E] λcs1=>AJ D (ι 260 0) [y2,iv t2,y1,iv (A.sub φ t10 t11),iv t11] [Ψ cs1 U U] λr1 o1=>AG 1 [0] (AH.mk [(0,Ψ
 cs1 U U)] 1 Δ) [0] r1 o1) (Ah D (δ 273) [y2,iv (A.sub φ t2 t10),iv (A.sub φ (A.add φ t2 t11) t10),iv t10,y1] [Ψ c0 U U] [.t,.N,.R,.X,.E] λcs1=>AJ D (ι
 260 0) [y2,iv t2,y1,iv t10,iv (A.sub φ t11 t10)] [Ψ cs1 U U] λr1 o1=>AG 1 [0] (AH.mk [(0,Ψ cs1 U U)] 1 Δ) [0] r1 o1)):=by kernel_rfl
theorem Aua(n0:Nat)(c0:Ab)(x1 x2 x3:Int):Bp A D Ak Ve .n 273 ZR [ν 0 0 n0 3,iv x1,iv x2,iv x3,Av2 (Fn.func 153) [] []] [{ cells:=c0,st:=U,ex:=U }] =
 Ah D (ι 273 0) [ν 0 0 n0 3,iv x1,iv x2,iv x3,iv 0] [Ψ c0 U U] [.t,.C,.x,.X,.Y] λc l o=>
 br (AT 1 c)
 (dk [.C,.q 0 3,.N,.R,.X,.E] [.l l,.o o] λ_ cs1=>
 V ((γ [],[AvH (Ψ cs1 U U)])))
 (Δ):=by kernel_rfl
theorem Aea(n0:Nat)(c0:Ab)(t1 t2 t3 t10:Int):CT A D Ak Ve .n 273 0 (AI ZR 0).fst (AI ZR 0).snd [ν 0 0 n0 3,iv t1,iv t2,iv t3,iv t10] [{ cells:=c0,st:=U,ex:=U }] =
 br (A.lt t10 t3) (unI (A.add φ t2 t10) λi=>br (i.blt n0) (Gf c0 (0+i*3) 3 λcs=>dk [.I,.B,.L,.N] [.l cs] λn b xs=>unI (A.add φ t1 t10) λi1=>br (i1.blt n0) (Gf c0 (0+i1*3) 3 fun
 cs1=>dk [.I,.B,.L,.N] [.l cs1] λn1 b1 xs1=>unI (A.add φ t1 t10) λi2=>br (i2.blt n0) (br ((0+i2*3+3).ble c0.length) (unI (A.add φ t2 t10) λi3=>br (i3.blt n0) (br ((0+i3*3+3).ble
 (Bv c0 (0+i2*3) [iv n,bv b,Ξ xs]).length) (let y1:=Ψ (Bv (Bv c0 (0+i2*3) [iv n,bv b,Ξ xs]) (0+i3*3) [iv n1,bv b1,Ξ xs1]) U U;AJ D (ι 273 0) [ν 0 0 n0 3,iv t1,
 iv t2,iv t3,iv (A.add φ t10 1)] [y1] λr o=>AG 1 [0] (AH.mk [(0,y1)] 1 Δ) [0] r o) Δ) Δ) Δ) Δ) Δ) Δ) (V (γ [iv 0,ν 0 0 n0 3],[AvH (Ψ c0 U U)])):=by kernel_rfl
theorem Ap8(n0:Nat)(c0:Ab):Bp A D Ak Pf .n 156 VB [ν 0 0 n0 3,Av2 (Fn.func 157) [] []] [{ cells:=c0,st:=U,ex:=U }] =
 Ah D (δ 208) [ν 0 0 n0 3,Av2 (Fn.func 157) [] []] [Ψ c0 U U] [.i,.R,.X,.E] λn cs=>
 br (A.eq n (-1))
 (V ((ν 0 0 n0 3,[AvH (Ψ cs U U)])))
 (Ah D (ι 156 0) [ν 0 0 n0 3,Av2 (Fn.func 157) [] [],iv n,iv (A.add φ n 1)] [Ψ cs U U] [.t,.C,.x,.X,.Y] λc1 l1 o1=>
 br (AT 1 c1)
 (dk [.C,.q 0 3,.I,.N,.R,.X,.E] [.l l1,.o o1] λn1 n2 cs2=>
 unI n2 λi=>
 br (J1 i n1 n1) (br ((0+i*3+(n1-i)*3).ble cs2.length) (unI n2 λi1=>
 br (J1 0 i1 n1) (V ((ν 0 0 i1 3,[AvH (Ψ (Bv cs2 (0+i*3) (Cr [iv 0,bv Θ,AvM (Value.slice Δ 0 0)] ((n1-i)*3))) U U)]))) Δ) Δ) Δ)
 (Δ)):=by kernel_rfl
theorem Xj(n0:Nat)(c0:Ab)(t5 t6:Int):CT A D Ak Pf .n 156 0 (AI VB 0).fst (AI VB 0).snd [ν 0 0 n0 3,Av2 (Fn.func 157) [] [],iv t5,iv t6] [{ cells:=c0,st:=U,ex:=U }] =
 br (A.lt t6 ↑n0) (unI t6 λi=>br (i.blt n0) (Gf c0 (0+i*3) 3 λcs=>dk [.I,.B,.L,.N] [.l cs] λn b xs=>let y1:=[iv n,bv b,Ξ xs];Ah D (δ 157) [Φ y1] [] [.b,.E] λb1=>br b1 (AJ D
 (ι 156 0) [ν 0 0 n0 3,Av2 (Fn.func 157) [] [],iv t5,iv (A.add φ t6 1)] [Ψ c0 U U] λr1 o1=>AG 1 [0] (AH.mk [(1,bk y1),(0,Ψ c0 U U)] 2 Δ) [] r1 o1) (unI t5 λi1=>br
 (i1.blt n0) (br ((0+i1*3+3).ble c0.length) (AJ D (ι 156 0) [ν 0 0 n0 3,Av2 (Fn.func 157) [] [],iv (A.add φ t5 1),iv (A.add φ t6 1)] [Ψ (Bv c0 (0+i1*3) y1) U U] λr1
 o1=>AG 1 [0] (AH.mk [(0,Ψ (Bv c0 (0+i1*3) y1) U U),(1,bk y1)] 2 Δ) [0] r1 o1) Δ) Δ)) Δ) (V (γ [iv 0,ν 0 0 n0 3,iv t5],[AvH (Ψ c0 U U)])):=by kernel_rfl
theorem AtC(n0:Nat)(c0:Ab):Bp A D Ak Pj .n 208 VC [ν 0 0 n0 3,Av2 (Fn.func 157) [] []] [{ cells:=c0,st:=U,ex:=U }] =
 Ah D (ι 208 0) [ν 0 0 n0 3,Av2 (Fn.func 157) [] [],iv ↑n0,iv 0] [Ψ c0 U U] [.t,.C,.x,.X,.Y] λc l o=>
 br (AT 0 c)
 (dk [.C,.q 0 3,.I,.N,.R,.X,.E] [.l l,.o o] λ_ n1 cs1=>
 V ((iv n1,[AvH (Ψ cs1 U U)])))
 (br (AT 1 c)
 (dk [.C,.q 0 3,.N,.R,.X,.E] [.l l,.o o] λ_ cs1=>
 V ((iv (-1),[AvH (Ψ cs1 U U)])))
 (Δ)):=by kernel_rfl
theorem SZ(n0:Nat)(c0:Ab)(t7 t8:Int):CT A D Ak Pj .n 208 0 (AI VC 0).fst (AI VC 0).snd [ν 0 0 n0 3,Av2 (Fn.func 157) [] [],iv t7,iv t8] [{ cells:=c0,st:=U,ex:=U }] =
 br (A.lt t8 t7)
 (unI t8 λi=>
 br (i.blt n0) (Gf c0 (0+i*3) 3 λcs=>
 dk [.I,.B,.L,.N] [.l cs] λn b xs=>
 Ah D (δ 157) [Φ [iv n,bv b,Ξ xs]] [] [.b,.E] λb1=>
 br b1
 (V ((γ [bv U,ν 0 0 n0 3,iv t8],[AvH (Ψ c0 U U)])))
 (AJ D (ι 208 0) [ν 0 0 n0 3,Av2 (Fn.func 157) [] [],iv t7,iv (A.add φ t8 1)] [Ψ c0 U U] λr1 o1=>
 AG 1 [0] (AH.mk [(0,Ψ c0 U U)] 1 Δ) [] r1 o1)) Δ)
 (V ((γ [iv 0,ν 0 0 n0 3],[AvH (Ψ c0 U U)]))):=by kernel_rfl
end
section
open Go.RowKit
def Amz:MFn:=Bj [] 155
def Alg:Hnt:=⟨[(145,(.agg Bk,[]))],[],[(4,[.bool]),(6,[.ls])]⟩
def AiW:MFn:=Bj [⟨74,(mB 917524),[(1000004,3)],[2,17],[(1,((mB 20),([],[])))]⟩] 89
def Ae1:Hnt:=⟨[(87,(.agg Bk,[])),(151,(.sl 0 3,[.row U])),(152,(.tup [],[.row U])),(155,(.agg Bk,[])),(156,(.sl 0 3,[.row U]))],[(0,[(1,([.ptr 0 0,.ptr 1 0],[.box BA,.box [.sl 3 3,.bool,.ls],.del,.row U]))])],[(9,[.ls]),(14,Bk),(21,BM),(22,BM),(24,[.int .i64]),(27,[.ls]),(34,[.ls]),(36,BM),(38,[.int .i64]),(40,[.int .i64]),(44,[.ls]),(47,[.ls]),(49,BM),(51,Bk),(53,Bk),(55,BM),(58,[.ls]),(60,[.int .i64]),(62,Bk),(70,[.ls]),(73,BA)]⟩
def J7:List (Nat × MFn):=[(155,Amz),(89,AiW)]
variable (A:Ar) (D:Orc)
theorem As7(x0_0:Bool)(x0_1:Rw):Bp A D Ak Alg .n 155 Amz [Φ [bv x0_0,Ξ x0_1]] [] =
 Ah D (δ 145) [bv x0_0,Ξ x0_1] [] [.a,.B,.L,.N,.E] λb xs=>
 V ((Φ [bv b,Ξ xs],[])):=by kernel_rfl
theorem e89(x0_0:Rw)(x0_1:Bool)(x0_2:Rw):Bp A D Ak Ae1 .n 89 AiW [Φ [Ξ x0_0,bv x0_1,Ξ x0_2]] [] =
 Ah D (δ 151) [Ξ x0_0] [] [.q 0 3,.R,.X,.E] λn cs=>
 Ah D (δ 152) [ν 0 0 n 3,Av2 (Fn.func 153) [] []] [Ψ cs U U] [.t,.N,.R,.X,.E] λcs2=>
 Ah D (δ 155) [Φ [bv x0_1,Ξ x0_2]] [] [.a,.B,.L,.N,.E] λb xs=>
 br ((0+n*3).ble cs2.length) (AJ D (ι 89 0) [ψ 0 0,ψ 1 0,Ξ (Bo n 3 (AvG (n*3) cs2)),iv ↑n,iv 0] [bk [Ξ [],bv Θ,Ξ []],bk [ν 2 0 0 3,bv b,Ξ xs],Ψ [] U U] λr3 o3=>
 dk [.t,.C,.x,.X] [.v r3] λc2 l4=>
 br (AT 1 c2)
 (dk [.P 0 0,.P 1 0,.N,.T,.L,.B,.L,.N,.T,.C,.q 3 3,.B,.L,.N,.D,.R,.X,.E] [.l l4,.o o3] λ_ _ _ n1 b2 xs3 cs7=>
 Ah D (δ 156) [ν 0 0 n1 3,Av2 (Fn.func 157) [] []] [Ψ cs7 U U] [.q 0 3,.R,.X,.E] λn2 cs8=>
 br ((0+n2*3).ble cs8.length) (V ((Φ [Ξ (Bo n2 3 (AvG (n2*3) cs8)),bv b2,Ξ xs3],[]))) Δ)
 (Δ)) Δ:=by kernel_rfl
theorem AkI(r0:Rw)(r1:Bool)(r2:Rw)(n4:Nat)(k1:Bool)(k2:Rw)(c4:Ab)(t17:Rw)(t18 t19:Int):CT A D Ak Ae1 .n 89 0 (AI AiW 0).fst (AI AiW 0).snd [ψ 0 0,ψ 1 0,Ξ t17,iv t18,iv t19] [bk [Ξ r0,bv r1,Ξ r2],bk [ν 2 0 n4 3,bv k1,Ξ k2],{ cells:=c4,st:=U,ex:=U }] =
 let y2:=bk [Ξ r0,bv r1,Ξ r2];br (A.lt t19 t18) (unI t19 λi=>A4 t17 i λcs=>dk [.I,.B,.L,.N] [.l cs] λn b xs=>let y3:=[ψ 0 0,ψ 1 0,Ξ t17,iv t18,iv (A.add φ t19 1)];
 let y4:=bk [ν 2 0 n4 3,bv k1,Ξ k2];let y7:=bk [iv n,bv b,Ξ xs];br (A.lt n 0) (AJ D (ι 89 0) y3 [y2,y4,Ψ c4 U U] λr o=>AG 3 [0,1,2] (AH.mk [(0,y2),(3,y7),(1,y4),(2,
 Ψ c4 U U)] 4 Δ) [0] r o)
 (let y1:=Ah D (δ 155) [Φ [bv b,Ξ xs]] [] [.a,.B,.L,.N,.E] λb1 xs1=>br (AU (n4+1) 40) (br ((0+n4*3).ble c4.length) (let y5:=Ψ (AvI 0 (AvG (0+n4*3) c4)++[iv n,bv b1,Ξ xs1]) U U;AJ D (ι 89 0) y3 [y2,bk [ν 2 0 (n4+1) 3,bv k1,Ξ k2],y5] λr3 o1=>AG 3 [0,1,5] (AH.mk [(0,y2),(1,bk [ν 5 0 (n4+1) 3,bv k1,Ξ k2]),(5,y5),(4,Ψ [iv n,bv b1,Ξ xs1] U U),(3,y7)] 6 Δ) [2,1,0] r3 o1) Δ) Δ;
 let y8:=A.sub φ (↑n4) 1;br (A.le 0 y8) (unI y8 λi1=>br (i1.blt n4) (Gf c4 (0+i1*3+0) 1 λcs1=>dk [.I,.N] [.l cs1] λn1=>br (A.eq n1 n) (unI y8 λi2=>br (i2.blt n4) (Gf c4 (0+i2*3+1) 2
 λcs2=>dk [.B,.L,.N] [.l cs2] λb1 xs1=>Ah D (δ 87) [Φ [bv b1,Ξ xs1],Φ [bv b,Ξ xs]] [] [.a,.B,.L,.N,.E] λb2 xs2=>unI y8 λi3=>br (i3.blt n4) (br ((0+i3*3+1+2).ble
 c4.length) (let y6:=Ψ (Bv c4 (0+i3*3+1) [bv b2,Ξ xs2]) U U;AJ D (ι 89 0) y3 [y2,y4,y6] λr3 o1=>AG 3 [0,1,2] (AH.mk [(0,y2),(2,y6),(3,y7),(1,y4)] 4 Δ) [2,0] r3 o1) Δ)
 Δ) Δ) y1) Δ) y1)) (V (γ [iv 0,ψ 0 0,ψ 1 0],[AvH y2,AvH (bk [ν 3 0 n4 3,bv k1,Ξ k2]),BO.del,AvH (Ψ c4 U U)])):=by kernel_rfl
end
section
open Go.RowKit
def RN:MFn:=Bj [⟨36,(mB 3593),[],[],[(1,((mB 9),([],[])))]⟩,⟨36,(mB 234881088),[(6,3)],[],[(3,((mB 64),([],[])))]⟩] 250
def NG:Hnt:=⟨[(263,(.sl 0 3,[.row U]))],[(0,[(1,(Se,[]))]),(1,[(3,([.sl 1 3],[.del,.row U]))])],[(13,[.ls]),(14,[.ls]),(29,[.ls]),(30,[.ls])]⟩
def AmB:MFn:=Bj [] 170
def Alj:Hnt:=⟨[(155,(.agg Bk,[]))],[],[(3,Bk)]⟩
def AmU:MFn:=Bj [] 223
def AlB:Hnt:=⟨[(87,(.agg Bk,[])),(89,(.agg BA,[])),(250,(.ls,[]))],[],[(6,[.ls]),(8,[.ls]),(12,Bk),(14,Bk)]⟩
def AmV:MFn:=Bj [] 224
def AlC:Hnt:=⟨[(84,(.agg Bk,[])),(251,(.agg BA,[]))],[],[(3,BA)]⟩
def ZL:MFn:=Bj [⟨35,(mB 114744),[(1000005,3)],[3,4],[(1,((mB 48),([],[3])))]⟩] 251
def Va:Hnt:=⟨[(89,(.agg BA,[])),(264,(.agg Bk,[]))],[(0,[(1,([.ptr 1 0,.ptr 2 0],[.del,.box BA,.box [.sl 4 3,.bool,.ls],.del,.row U]))])],[(9,Bk),(10,Bk),(14,[.ls]),(18,BM),(19,BM),(21,[.ls]),(23,[.int .i64]),(25,Bk),(26,Bk),(33,BA)]⟩
def AmE:MFn:=Bj [] 173
def Alm:Hnt:=⟨[(223,(.agg BA,[])),(224,(.agg BA,[]))],[],[(5,BA),(6,BA)]⟩
def AmD:MFn:=Bj [] 172
def All:Hnt:=⟨[(89,(.agg BA,[]))],[],[(3,BA)]⟩
def AmF:MFn:=Bj [] 174
def Aln:Hnt:=⟨[(89,(.agg BA,[]))],[],[(3,BA)]⟩
def Qu:List (Nat × MFn):=[(250,RN),(170,AmB),(223,AmU),(224,AmV),(251,ZL),(173,AmE),(172,AmD),(174,AmF)]
variable (A:Ar) (D:Orc)
theorem AtX(x0:Rw):Bp A D Ak NG .n 250 RN [Ξ x0] [] =
 Ah D (ι 250 0) [Ξ x0,iv 0,Ξ x0,iv ↑(AP x0),iv 0] [] [.t,.C,.x,.X,.Y] λc l o=>
 br (AT 1 c)
 (dk [.L,.I,.N,.E] [.l l,.o o] λxs n=>
 Ah D (δ 263) [AvM (Value.slice Δ 0 0),iv n] [] [.q 0 3,.R,.X,.E] λn1 cs1=>
 Ah D (ι 250 1) [ν 0 0 n1 3,Ξ xs,iv ↑(AP xs),iv 0] [Ψ cs1 U U] [.t,.C,.x,.X,.Y] λc2 l4 o2=>
 br (AT 3 c2)
 (dk [.C,.q 1 3,.N,.D,.R,.X,.E] [.l l4,.o o2] λn2 cs3=>
 br ((0+n2*3).ble cs3.length) (V ((Ξ (Bo n2 3 (AvG (n2*3) cs3)),[]))) Δ)
 (Δ))
 (Δ):=by kernel_rfl
theorem Ad4(t0:Rw)(t3:Int)(t9:Rw)(t10 t11:Int):CT A D Ak NG .n 250 0 (AI RN 0).fst (AI RN 0).snd [Ξ t0,iv t3,Ξ t9,iv t10,iv t11] [] =
 br (A.lt t11 t10)
 (unI t11 λi=>
 A4 t9 i λcs=>
 dk [.L,.N] [.l cs] λxs=>
 br (A.lt (A.add φ t3 ↑(AP xs)) 0)
 (Δ)
 (AJ D (ι 250 0) [Ξ t0,iv (A.add φ t3 ↑(AP xs)),Ξ t9,iv t10,iv (A.add φ t11 1)] [] λr o=>
 AG 0 [] (AH.mk [] 0 Δ) [] r o))
 (V ((γ [iv 0,Ξ t0,iv t3],[]))):=by kernel_rfl
theorem Ad5(n6:Nat)(c6:Ab)(t25:Rw)(t26 t27:Int):CT A D Ak NG .n 250 1 (AI RN 1).fst (AI RN 1).snd [ν 0 0 n6 3,Ξ t25,iv t26,iv t27] [{ cells:=c6,st:=U,ex:=U }] =
 br (A.lt t27 t26) (unI t27 λi=>A4 t25 i λcs=>dk [.L,.N] [.l cs] λxs=>br (GH 3 xs) (br ((AP xs).beq 0) (AJ D (ι 250 1) [ν 0 0 n6 3,Ξ t25,iv t26,iv (A.add φ t27 1)] [Ψ c6
 U U] λr o=>AG 1 [0] (AH.mk [(0,Ψ c6 U U)] 1 Δ) [] r o) (br (LQ (Kz xs)) (br (AU (n6+AP xs) 40) (br ((0+n6*3).ble c6.length)
 (let y1:=Ψ (AvI 0 (AvG (0+n6*3) c6)++Kz xs) U U;AJ D (ι 250 1) [ν 0 0 (n6+AP xs) 3,Ξ t25,iv t26,iv (A.add φ t27 1)] [y1] λr o=>AG 1 [1] (AH.mk [(1,y1)]
 2 Δ) [0] r o) Δ) Δ) Δ)) Δ) (V (γ [iv 2,ν 1 0 n6 3],[BO.del,AvH (Ψ c6 U U)])):=by kernel_rfl
theorem Ata(x0_0:Bool)(x0_1:Rw):Bp A D Ak Alj .n 170 AmB [Φ [bv x0_0,Ξ x0_1]] [] =
 Ah D (δ 155) [Φ [bv x0_0,Ξ x0_1]] [] [.a,.B,.L,.N,.E] λb xs=>
 V ((Φ [Ξ [],bv b,Ξ xs],[])):=by kernel_rfl
theorem AtH(x0_0:Rw)(x0_1:Bool)(x0_2 x1_0:Rw)(x1_1:Bool)(x1_2:Rw):Bp A D Ak AlB .n 223 AmU [Φ [Ξ x0_0,bv x0_1,Ξ x0_2],Φ [Ξ x1_0,bv x1_1,Ξ x1_2]] [] =
 Ah D (δ 250) [Ξ [[Ξ x0_0],[Ξ x1_0]]] [] [.l,.E] λxs=>
 Ah D (δ 87) [Φ [bv x0_1,Ξ x0_2],Φ [bv x1_1,Ξ x1_2]] [] [.a,.B,.L,.N,.E] λb xs1=>
 Ah D (δ 89) [Φ [Ξ xs,bv b,Ξ xs1]] [] [.a,.L,.B,.L,.N,.E] λxs2 b1 xs3=>
 V ((Φ [Ξ xs2,bv b1,Ξ xs3],[])):=by kernel_rfl
theorem AtI(x0_0:Rw)(x0_1:Bool)(x0_2:Rw):Bp A D Ak AlC .n 224 AmV [Φ [Ξ x0_0,bv x0_1,Ξ x0_2]] [] =
 Ah D (δ 84) [iv (-1)] [] [.a,.B,.L,.N,.E] λb xs=>
 Ah D (δ 251) [Φ [Ξ x0_0,bv x0_1,Ξ x0_2],Φ [bv b,Ξ xs]] [] [.a,.L,.B,.L,.N,.E] λxs1 b1 xs2=>
 V ((Φ [Ξ xs1,bv b1,Ξ xs2],[])):=by kernel_rfl
theorem AtY(x0_0:Rw)(x0_1:Bool)(x0_2:Rw)(x1_0:Bool)(x1_1:Rw):Bp A D Ak Va .n 251 ZL [Φ [Ξ x0_0,bv x0_1,Ξ x0_2],Φ [bv x1_0,Ξ x1_1]] [] =
 Ah D (δ 264) [Φ [bv x0_1,Ξ x0_2],Φ [bv x1_0,Ξ x1_1]] [] [.a,.B,.L,.N,.E] λb xs=>
 Ah D (ι 251 0) [ψ 0 0,ψ 1 0,ψ 2 0,Ξ x0_0,iv ↑(AP x0_0),iv 0] [bk [bv x1_0,Ξ x1_1],bk [Ξ [],bv Θ,Ξ []],bk [ν 3 0 0 3,bv b,Ξ xs],Ψ [] U U] [.t,.C,.x,.X,.Y] λc l2 o1=>
 br (AT 1 c)
 (dk [.P 1 0,.P 2 0,.N,.D,.T,.L,.B,.L,.N,.T,.C,.q 4 3,.B,.L,.N,.D,.R,.X,.E] [.l l2,.o o1] λ_ _ _ n b2 xs3 cs4=>
 br ((0+n*3).ble cs4.length) (AJ D (δ 89) [Φ [Ξ (Bo n 3 (AvG (n*3) cs4)),bv b2,Ξ xs3]] [] λr2 o2=>
 dk [.a,.L,.B,.L,.N,.E] [.v r2,.o o2] λxs4 b3 xs5=>
 V ((Φ [Ξ xs4,bv b3,Ξ xs5],[]))) Δ)
 (Δ):=by kernel_rfl
theorem Ad6(i0:Bool)(i1 r0:Rw)(r1:Bool)(r2:Rw)(n5:Nat)(k1:Bool)(k2:Rw)(c5:Ab)(t14:Rw)(t15 t16:Int):CT A D Ak Va .n 251 0 (AI ZL 0).fst (AI ZL 0).snd [ψ 0 0,ψ 1 0,ψ 2 0,Ξ t14,iv t15,iv t16] [bk [bv i0,Ξ i1],bk [Ξ r0,bv r1,Ξ r2],bk [ν 3 0 n5 3,bv k1,Ξ k2],{ cells:=c5,st:=U,ex:=U }] =
 let y2:=bk [Ξ r0,bv r1,Ξ r2];br (A.lt t16 t15) (unI t16 λi=>A4 t14 i λcs=>dk [.I,.B,.L,.N] [.l cs] λn b xs=>Ah D (δ 264) [Φ [bv b,Ξ xs],Φ [bv i0,Ξ i1]] [] [.a,.B,.L,
 .N,.E] λb1 xs1=>br (AU (n5+1) 40) (br ((0+n5*3).ble c5.length) (let y1:=Ψ (AvI 0 (AvG (0+n5*3) c5)++[iv n,bv b1,Ξ xs1]) U U;AJ D (ι 251 0) [ψ 0 0,ψ 1 0,
 ψ 2 0,Ξ t14,iv t15,iv (A.add φ t16 1)] [bk [bv i0,Ξ i1],y2,bk [ν 3 0 (n5+1) 3,bv k1,Ξ k2],y1] λr3 o1=>AG 4 [0,1,2,6] (AH.mk [(1,y2),(0,bk [bv i0,Ξ i1]),(2,bk [ν
 6 0 (n5+1) 3,bv k1,Ξ k2]),(6,y1),(5,Ψ [iv n,bv b1,Ξ xs1] U U),(4,bk [iv n,bv b,Ξ xs])] 7 Δ) [3,2,0,1] r3 o1) Δ) Δ) (V (γ [iv 0,ψ 1 0,ψ 2 0],[BO.del,AvH
 y2,AvH (bk [ν 4 0 n5 3,bv k1,Ξ k2]),BO.del,AvH (Ψ c5 U U)])):=by kernel_rfl
theorem Atd(x0_0:Rw)(x0_1:Bool)(x0_2 x1_0:Rw)(x1_1:Bool)(x1_2:Rw):Bp A D Ak Alm .n 173 AmE [Φ [Ξ x0_0,bv x0_1,Ξ x0_2],Φ [Ξ x1_0,bv x1_1,Ξ x1_2]] [] =
 Ah D (δ 224) [Φ [Ξ x1_0,bv x1_1,Ξ x1_2]] [] [.a,.L,.B,.L,.N,.E] λxs b xs1=>
 Ah D (δ 223) [Φ [Ξ x0_0,bv x0_1,Ξ x0_2],Φ [Ξ xs,bv b,Ξ xs1]] [] [.a,.L,.B,.L,.N,.E] λxs2 b1 xs3=>
 V ((Φ [Ξ xs2,bv b1,Ξ xs3],[])):=by kernel_rfl
theorem Atc(x0_0:Rw)(x0_1:Bool)(x0_2:Rw):Bp A D Ak All .n 172 AmD [Φ [Ξ x0_0,bv x0_1,Ξ x0_2]] [] =
 Ah D (δ 89) [Φ [Ξ x0_0,bv x0_1,Ξ x0_2]] [] [.a,.L,.B,.L,.N,.E] λxs b xs1=>
 V ((Φ [Ξ xs,bv b,Ξ xs1,bv U],[])):=by kernel_rfl
theorem Ate(x0_0:Rw)(x0_1:Bool)(x0_2:Rw):Bp A D Ak Aln .n 174 AmF [Φ [Ξ x0_0,bv x0_1,Ξ x0_2]] [] =
 Ah D (δ 89) [Φ [Ξ x0_0,bv x0_1,Ξ x0_2]] [] [.a,.L,.B,.L,.N,.E] λxs b xs1=>
 V ((Φ [Ξ xs,bv b,Ξ xs1,bv Θ],[])):=by kernel_rfl
end
section
open Go.RowKit
def AmT:MFn:=Bj [] 222
def AlA:Hnt:=⟨[(89,(.agg BA,[]))],[],[(4,BA),(7,[.bool])]⟩
def AmC:MFn:=Bj [] 171
def Alk:Hnt:=⟨[(222,(.agg Mj,[]))],[],[(3,Mj)]⟩
def ArC:MFn:=Bj [] 64
def AqL:Hnt:=⟨[],[],[]⟩
def AmW:MFn:=Bj [] 225
def AlD:Hnt:=⟨[],[],[(4,[.int .i64]),(9,[.ls]),(13,[.ls]),(15,[.ls])]⟩
def AmG:MFn:=Bj [] 175
def Alo:Hnt:=⟨[(64,(.agg BS,[])),(171,(.agg BS,[])),(176,(.ls,[])),(225,(.ls,[]))],[],[(4,[.int .i64]),(11,Mj),(18,[.int .i64]),(19,BS)]⟩
def Zu:MFn:=Bj [⟨19,(mB 456),[(3,6)],[],[(1,((mB 8),([],[])))]⟩] 176
def UX:Hnt:=⟨[(175,(.agg BS,[]))],[(0,[(1,([.sl 1 6],[.del,.row U]))])],[(10,BS),(11,BS),(13,BS)]⟩
def Amb:MFn:=Bj [] 113
def AkS:Hnt:=⟨[(175,(.agg BS,[]))],[],[(3,BS)]⟩
def Amc:MFn:=Bj [] 114
def AkT:Hnt:=⟨[(176,(.ls,[]))],[],[]⟩
def Amd:MFn:=Bj [] 115
def AkU:Hnt:=⟨[(176,(.ls,[]))],[],[]⟩
def Ama:MFn:=Bj [] 112
def NC:Hnt:=⟨[(64,(.agg BS,[])),(84,(.agg Bk,[])),(112,(.agg BS,[])),(113,(.agg BS,[])),(170,(.agg BA,[])),(171,(.agg BS,[])),(172,(.agg Mj,[])),(173,(.agg BA,[])),(174,(.agg Mj,[]))],[],[(13,BA),(14,BA),(20,BA),(21,BA),(26,BA),(27,BA),(29,BA),(35,BA),(36,BA),(42,BA),(43,BA),(47,BA),(48,BA)]⟩
def Sk:List (Nat × MFn):=[(222,AmT),(171,AmC),(64,ArC),(225,AmW),(175,AmG),(176,Zu),(113,Amb),(114,Amc),(115,Amd),(112,Ama)]
variable (A:Ar) (D:Orc)
theorem AtG(x0_0:Rw)(x0_1:Bool)(x0_2:Rw)(x0_3:Bool):Bp A D Ak AlA .n 222 AmT [Φ [Ξ x0_0,bv x0_1,Ξ x0_2,bv x0_3]] [] =
 Ah D (δ 89) [Φ [Ξ x0_0,bv x0_1,Ξ x0_2]] [] [.a,.L,.B,.L,.N,.E] λxs b xs1=>
 V ((Φ [Ξ xs,bv b,Ξ xs1,bv x0_3],[])):=by kernel_rfl
theorem Atb(x0_0:Rw)(x0_1:Bool)(x0_2:Rw)(x0_3:Bool):Bp A D Ak Alk .n 171 AmC [Φ [Ξ x0_0,bv x0_1,Ξ x0_2,bv x0_3]] [] =
 Ah D (δ 222) [Φ [Ξ x0_0,bv x0_1,Ξ x0_2,bv x0_3]] [] [.a,.L,.B,.L,.B,.N,.E] λxs b xs1 b1=>
 V ((Φ [iv 2,Ξ xs,bv b,Ξ xs1,bv b1,Ξ []],[])):=by kernel_rfl
theorem e64(x0:Bool):Bp A D Ak AqL .n 64 ArC [bv x0] [] =
 br x0
 (V ((Φ [iv 0,Ξ [],bv Θ,Ξ [],bv Θ,Ξ []],[])))
 (V ((Φ [iv 1,Ξ [],bv Θ,Ξ [],bv Θ,Ξ []],[]))):=by kernel_rfl
theorem AtJ(x0_0:Int)(x0_1:Rw)(x0_2:Bool)(x0_3:Rw)(x0_4:Bool)(x0_5:Rw):Bp A D Ak AlD .n 225 AmW [Φ [iv x0_0,Ξ x0_1,bv x0_2,Ξ x0_3,bv x0_4,Ξ x0_5]] [] =
 br (A.eq x0_0 4)
 (V ((Ξ x0_5,[])))
 (br (A.eq x0_0 5)
 (V ((Ξ x0_5,[])))
 (br (A.eq x0_0 3)
 (unI (A.min (↑(AP x0_5)) 1) λi=>
 br (J1 0 i (AP x0_5)) (br (GH 6 x0_5) (V ((Ξ (IS (Jo x0_5 i) 0),[]))) Δ) Δ)
 (V ((Ξ [],[]))))):=by kernel_rfl
theorem Atf(x0_0:Int)(x0_1:Rw)(x0_2:Bool)(x0_3:Rw)(x0_4:Bool)(x0_5:Rw):Bp A D Ak Alo .n 175 AmG [Φ [iv x0_0,Ξ x0_1,bv x0_2,Ξ x0_3,bv x0_4,Ξ x0_5]] [] =
 let y2:=λz1 z2 z3 z4 z5 z6=>V (Φ [iv z1,Ξ z2,bv z3,Ξ z4,bv z5,Ξ z6],[]);br (A.eq x0_0 0) (Ah D (δ 64) [bv U] [] [.a,.I,.L,.B,.L,.B,.L,.N,.E] y2) (br (A.eq x0_0 2) (Ah D
 (δ 171) [Φ [Ξ x0_1,bv x0_2,Ξ x0_3,bv x0_4]] [] [.a,.I,.L,.B,.L,.B,.L,.N,.E] y2)
 (let y1:=Ah D (δ 225) [Φ [iv x0_0,Ξ x0_1,bv x0_2,Ξ x0_3,bv x0_4,Ξ x0_5]] [] [.l,.E] λxs=>Ah D (δ 176) [Ξ xs] [] [.l,.E] λxs1=>V (Φ [iv x0_0,Ξ [],bv Θ,Ξ [],bv Θ,Ξ xs1],[]);
 br (A.eq x0_0 3) y1 (br (A.eq x0_0 4) y1 (br (A.eq x0_0 5) y1 (Ah D (δ 64) [bv Θ] [] [.a,.I,.L,.B,.L,.B,.L,.N,.E] y2))))):=by kernel_rfl
theorem Atg(x0:Rw):Bp A D Ak UX .n 176 Zu [Ξ x0] [] =
 Ah D (ι 176 0) [ν 0 0 0 6,Ξ x0,iv ↑(AP x0),iv 0] [Ψ [] U U] [.t,.C,.x,.X,.Y] λc l o=>
 br (AT 1 c)
 (dk [.C,.q 1 6,.N,.D,.R,.X,.E] [.l l,.o o] λn cs1=>
 br ((0+n*6).ble cs1.length) (V ((Ξ (Bo n 6 (AvG (n*6) cs1)),[]))) Δ)
 (Δ):=by kernel_rfl
theorem AdI(n3:Nat)(c3:Ab)(t6:Rw)(t7 t8:Int):CT A D Ak UX .n 176 0 (AI Zu 0).fst (AI Zu 0).snd [ν 0 0 n3 6,Ξ t6,iv t7,iv t8] [{ cells:=c3,st:=U,ex:=U }] =
 br (A.lt t8 t7) (unI t8 λi=>A4 t6 i λcs=>dk [.I,.L,.B,.L,.B,.L,.N] [.l cs] λn xs b xs1 b1 xs2=>Ah D (δ 175) [Φ [iv n,Ξ xs,bv b,Ξ xs1,bv b1,Ξ xs2]] [] [.a,.I,.L,.B,.L,.B,
 .L,.N,.E] λn1 xs3 b2 xs4 b3 xs5=>br (AU (n3+1) 96) (br ((0+n3*6).ble c3.length) (let y1:=Ψ (AvI 0 (AvG (0+n3*6) c3)++[iv n1,Ξ xs3,bv b2,Ξ xs4,bv b3,Ξ xs5]) U U;
 AJ D (ι 176 0) [ν 0 0 (n3+1) 6,Ξ t6,iv t7,iv (A.add φ t8 1)] [y1] λr1 o1=>AG 1 [3] (AH.mk [(3,y1),(2,Ψ [iv n1,Ξ xs3,bv b2,Ξ xs4,bv b3,Ξ xs5] U U),(1,bk [iv
 n,Ξ xs,bv b,Ξ xs1,bv b1,Ξ xs2])] 4 Δ) [0] r1 o1) Δ) Δ) (V (γ [iv 0,ν 1 0 n3 6],[BO.del,AvH (Ψ c3 U U)])):=by kernel_rfl
theorem AsE(x0_0:Int)(x0_1:Rw)(x0_2:Bool)(x0_3:Rw)(x0_4:Bool)(x0_5:Rw):Bp A D Ak AkS .n 113 Amb [Φ [iv x0_0,Ξ x0_1,bv x0_2,Ξ x0_3,bv x0_4,Ξ x0_5]] [] =
 Ah D (δ 175) [Φ [iv x0_0,Ξ x0_1,bv x0_2,Ξ x0_3,bv x0_4,Ξ x0_5]] [] [.a,.I,.L,.B,.L,.B,.L,.N,.E] λn xs b xs1 b1 xs2=>
 V ((Φ [iv 3,Ξ [],bv Θ,Ξ [],bv Θ,Ξ [[iv n,Ξ xs,bv b,Ξ xs1,bv b1,Ξ xs2]]],[])):=by kernel_rfl
theorem AsF(x0:Rw):Bp A D Ak AkT .n 114 Amc [Ξ x0] [] =
 Ah D (δ 176) [Ξ x0] [] [.l,.E] λxs=>
 V ((Φ [iv 4,Ξ [],bv Θ,Ξ [],bv Θ,Ξ xs],[])):=by kernel_rfl
theorem AsG(x0:Rw):Bp A D Ak AkU .n 115 Amd [Ξ x0] [] =
 Ah D (δ 176) [Ξ x0] [] [.l,.E] λxs=>
 V ((Φ [iv 5,Ξ [],bv Θ,Ξ [],bv Θ,Ξ xs],[])):=by kernel_rfl
theorem Xi(x0:Int)(x1_0:Rw)(x1_1:Bool)(x1_2 x2_0:Rw)(x2_1:Bool)(x2_2:Rw):Bp A D Ak NC .n 112 Ama [iv x0,Φ [Ξ x1_0,bv x1_1,Ξ x1_2],Φ [Ξ x2_0,bv x2_1,Ξ x2_2]] [] =
 Ah D (δ 84) [iv 1] [] [.a,.B,.L,.N,.E] λb xs=>Ah D (δ 170) [Φ [bv b,Ξ xs]] [] [.a,.L,.B,.L,.N,.E] λxs1 b1 xs2=>
 let y4:=λz1 z2 z3 z4 z5 z6=>V (Φ [iv z1,Ξ z2,bv z3,Ξ z4,bv z5,Ξ z6],[]);
 let y1:=λz1 z2 z3 z4=>Ah D (δ 171) [Φ [Ξ z1,bv z2,Ξ z3,bv z4]] [] [.a,.I,.L,.B,.L,.B,.L,.N,.E] y4;let y2:=Φ [Ξ x1_0,bv x1_1,Ξ x1_2];
 let y3:=Φ [Ξ x2_0,bv x2_1,Ξ x2_2];br (A.eq x0 0) (Ah D (δ 173) [y2,y3] [] [.a,.L,.B,.L,.N,.E] λxs3 b2 xs4=>Ah D (δ 172) [Φ [Ξ xs3,bv b2,Ξ xs4]] [] [.a,.L,.B,.L,.B,
 .N,.E] y1) (br (A.eq x0 1) (Ah D (δ 112) [iv 0,y2,y3] [] [.a,.I,.L,.B,.L,.B,.L,.N,.E] λn xs3 b2 xs4 b3 xs5=>Ah D (δ 113) [Φ [iv n,Ξ xs3,bv b2,Ξ xs4,bv b3,Ξ xs5]] [] [.a,.I,
 .L,.B,.L,.B,.L,.N,.E] y4) (let y5:=λz1 z2 z3=>Ah D (δ 174) [Φ [Ξ z1,bv z2,Ξ z3]] [] [.a,.L,.B,.L,.B,.N,.E] y1;br (A.eq x0 2) (Ah D (δ 173) [y3,y2] [] [.a,.L,.B,.L,.N,.E] fun
 xs3 b2 xs4=>Ah D (δ 173) [Φ [Ξ xs3,bv b2,Ξ xs4],Φ [Ξ xs1,bv b1,Ξ xs2]] [] [.a,.L,.B,.L,.N,.E] y5) (br (A.eq x0 3) (Ah D (δ 173) [y3,y2] [] [.a,.L,.B,.L,.N,.E] y5) (br
 (A.eq x0 4) (Ah D (δ 112) [iv 2,y3,y2] [] [.a,.I,.L,.B,.L,.B,.L,.N,.E] y4) (br (A.eq x0 5) (Ah D (δ 112) [iv 3,y3,y2] [] [.a,.I,.L,.B,.L,.B,.L,.N,.E] y4) (Ah D (δ 64) [bv Θ] [] [.a,
 .I,.L,.B,.L,.B,.L,.N,.E] y4)))))):=by kernel_rfl
end
section
open Go.RowKit
def AiO:MFn:=Bj [⟨61,(mB 229458),[(1000006,3),(3000006,0)],[4],[(0,((mB 48),([4],[1000006,6]))),(1,((mB 80),([],[])))]⟩] 44
def AeS:Hnt:=⟨[(23,(.bool,[])),(84,(.agg Bk,[])),(85,(.tup [.agg Bk,.int .i64],[])),(86,(.agg Bk,[])),(87,(.agg Bk,[])),(88,(.int .i64,[])),(89,(.agg BA,[]))],[(0,[(0,([.ptr 0 0,.bool],[.box BA,.del,.del])),(1,([.ptr 0 0,.ptr 1 0],[.box BA,.box [.sl 3 3,.bool,.ls],.del,.row U]))])],[(19,Mi),(20,Mi),(23,[.str]),(27,[.str]),(32,[.bool]),(33,Bk),(36,[.str]),(39,Bk),(40,Bk),(45,[.str]),(51,[.ls]),(53,Bk),(59,BA)]⟩
def AiQ:MFn:=Bj [⟨82,(mB 30786325578774),[(10,6)],[2,4],[(0,((mB 48),([4],[2,10]))),(1,((mB 1044),([],[])))]⟩] 65
def Abf:Hnt:=⟨[(44,(.tup [.agg BA,.bool],[])),(64,(.agg BS,[])),(65,(.tup [.agg BS,.bool],[])),(112,(.agg BS,[])),(113,(.agg BS,[])),(114,(.agg BS,[])),(115,(.agg BS,[]))],[(0,[(0,([.ptr 1 0,.bool],[.del,.box BS,.del])),(1,([.ptr 0 0,.ptr 1 0,.sl 3 6],[.box A8,.box BS,.del,.row U]))])],[(16,[.int .i64]),(20,[.ls]),(27,[.ls]),(33,[.int .i64]),(34,BA),(35,BA),(42,[.ls]),(46,A8),(47,A8),(49,A8),(58,BS),(63,[.int .i64]),(70,BS),(71,BS)]⟩
def Aro:MFn:=Bj [] 27
def Aqx:Hnt:=⟨[(24,(.bool,[])),(64,(.agg BS,[])),(65,(.tup [.agg BS,.bool],[]))],[],[(8,A8),(13,A8),(21,BS)]⟩
def Aan:List (Nat × MFn):=[(44,AiO),(65,AiQ),(27,Aro)]
variable (A:Ar) (D:Orc)
theorem e44(x0 x1:Rw):Bp A D Ak AeS .n 44 AiO [Ξ x0,Ξ x1] [] =
 Ah D (δ 23) [Ξ x0] [] [.b,.E] λb=>
 br b
 (Ah D (ι 44 0) [Ξ x1,ψ 0 0,ψ 1 0,Ξ x0,iv ↑(AP x0),iv 0] [bk [Ξ [],bv Θ,Ξ []],bk [ν 2 0 0 3,bv Θ,Ξ []],Ψ [] U U] [.t,.C,.x,.X,.Y] λc l o1=>
 br (AT 0 c)
 (dk [.P 0 0,.B,.N,.T,.L,.B,.L,.N,.D,.D,.E] [.l l,.o o1] λb1 xs b2 xs1=>
 V ((γ [Φ [Ξ xs,bv b2,Ξ xs1],bv b1],[])))
 (br (AT 1 c)
 (dk [.P 0 0,.P 1 0,.N,.T,.L,.B,.L,.N,.T,.C,.q 3 3,.B,.L,.N,.D,.R,.X,.E] [.l l,.o o1] λ_ _ _ n b2 xs2 cs3=>
 br ((0+n*3).ble cs3.length) (AJ D (δ 89) [Φ [Ξ (Bo n 3 (AvG (n*3) cs3)),bv b2,Ξ xs2]] [] λr2 o2=>
 dk [.a,.L,.B,.L,.N,.E] [.v r2,.o o2] λxs3 b3 xs4=>
 V ((γ [Φ [Ξ xs3,bv b3,Ξ xs4],bv U],[]))) Δ)
 (Δ)))
 (V ((γ [Φ [Ξ [],bv Θ,Ξ []],bv Θ],[]))):=by kernel_rfl
theorem Akz(t1 r0:Rw)(r1:Bool)(r2:Rw)(n6:Nat)(k1:Bool)(k2:Rw)(c6:Ab)(t15:Rw)(t16 t17:Int):CT A D Ak AeS .n 44 0 (AI AiO 0).fst (AI AiO 0).snd [Ξ t1,ψ 0 0,ψ 1 0,Ξ t15,iv t16,iv t17] [bk [Ξ r0,bv r1,Ξ r2],bk [ν 2 0 n6 3,bv k1,Ξ k2],{ cells:=c6,st:=U,ex:=U }] =
 let y2:=bk [Ξ r0,bv r1,Ξ r2];br (A.lt t17 t16) (unI t17 λi=>A4 t15 i λcs=>dk [.B,.S,.S,.N] [.l cs] λb s s1=>Ah D (δ 84) [iv 1] [] [.a,.B,.L,.N,.E] λb1 xs=>
 let y1:=λz1 z2=>let y5:=[Ξ t1,ψ 0 0,ψ 1 0,Ξ t15,iv t16,iv (A.add φ t17 1)];br (A.seq s1 (Ag [])) (Ah D (δ 87) [Φ [bv k1,Ξ k2],Φ [bv z1,Ξ z2]] [] [.a,.B,.L,.N,.E] λb3 xs2=>AJ D (ι 44 0) y5 [y2,bk [ν 2 0 n6 3,bv b3,Ξ xs2],Ψ c6 U U] λr5 o3=>AG 3 [0,1,2] (AH.mk [(0,y2),(1,bk [ν 2 0 n6 3,bv b3,Ξ xs2]),(4,bk [bv z1,Ξ z2]),(3,bk [bv b,sv s,sv s1]),(2,Ψ c6 U U)] 5 Δ) [1,0] r5 o3) (Ah D (δ 88) [Ξ t1,sv s1] [] [.i,.E] λn=>br (A.lt n 0) (V (γ [bv U,ψ 0 0,bv Θ],[AvH (bk [Ξ [],bv Θ,Ξ []]),BO.del,BO.del])) (br (AU (n6+1) 40) (br ((0+n6*3).ble c6.length) (let y4:=Ψ (AvI 0 (AvG (0+n6*3) c6)++[iv n,bv z1,Ξ z2]) U U;AJ D (ι 44 0) y5 [y2,bk [ν 2 0 (n6+1) 3,bv k1,Ξ k2],y4] λr5 o3=>AG 3 [0,1,6] (AH.mk [(0,y2),(1,bk [ν 6 0 (n6+1) 3,bv k1,Ξ k2]),(6,y4),(5,Ψ [iv n,bv z1,Ξ z2] U U),(4,bk [bv z1,Ξ z2]),(3,bk [bv b,sv s,sv s1])] 7 Δ) [2,1,0] r5 o3) Δ) Δ));
 let y3:=λz1 z2=>br b (Ah D (δ 86) [Φ [bv z1,Ξ z2]] [] [.a,.B,.L,.N,.E] y1) (y1 z1 z2);br (A.seq s (Ag [])) (y3 b1 xs) (Ah D (δ 85) [sv s] [] [.t,.A,.B,.L,.N,.I,.N,.E] λb2 xs1 _=>
 y3 b2 xs1)) (V (γ [iv 0,ψ 0 0,ψ 1 0],[AvH y2,AvH (bk [ν 3 0 n6 3,bv k1,Ξ k2]),BO.del,AvH (Ψ c6 U U)])):=by kernel_rfl
theorem e65(x0_0:Int)(x0_1 x0_2:Rw)(x0_3:Int)(x0_4 x0_5:ByteArray)(x0_6 x1:Rw):Bp A D Ak Abf (.b (.b (.b (.t .n) (.f .n)) .n) .n) 65 AiQ [Φ [iv x0_0,Ξ x0_1,Ξ x0_2,iv x0_3,sv x0_4,sv x0_5,Ξ x0_6],Ξ x1] [] =
 let y2:=λz1 z2 z3 z4 z5 z6=>Φ [iv z1,Ξ z2,bv z3,Ξ z4,bv z5,Ξ z6];let y1:=λz1 z2 z3 z4 z5 z6=>V (γ [y2 z1 z2 z3 z4 z5 z6,bv U],[]);br (A.eq x0_0 2) (Ah D (δ 44) [Ξ
 x0_1,Ξ x1] [] [.t,.A,.L,.B,.L,.N,.B,.N,.E] λxs b xs1 b1=>Ah D (δ 44) [Ξ x0_2,Ξ x1] [] [.t,.A,.L,.B,.L,.N,.B,.N,.E] λxs2 b2 xs3 b3=>Ah D (δ 112) [iv x0_3,Φ [Ξ xs,bv
 b,Ξ xs1],Φ [Ξ xs2,bv b2,Ξ xs3]] [] [.a,.I,.L,.B,.L,.B,.L,.N,.E] λn xs4 b4 xs5 b5 xs6=>let y4:=V (γ [y2 n xs4 b4 xs5 b5 xs6,bv Θ],[]);br b1 (br b1 (br b3 (y1 n xs4 b4 xs5 b5 xs6)
 y4) Δ) (br b1 Δ y4)) (Ah D (ι 65 0) [Ξ x1,ψ 0 0,ψ 1 0,ν 2 0 0 6,Ξ x0_6,iv ↑(AP x0_6),iv 0] [bk [iv x0_0,Ξ x0_1,Ξ x0_2,iv x0_3,sv x0_4,sv x0_5,Ξ x0_6],bk [iv 0,Ξ
 [],bv Θ,Ξ [],bv Θ,Ξ []],Ψ [] U U] [.t,.C,.x,.X,.Y] λc l o=>br (AT 0 c) (dk [.P 1 0,.B,.N,.D,.T,.I,.L,.B,.L,.B,.L,.N,.D,.E] [.l l,.o o] λb n xs b1 xs1 b2 xs2=>V
 (γ [y2 n xs b1 xs1 b2 xs2,bv b],[])) (br (AT 1 c) (dk [.P 0 0,.P 1 0,.C,.q 3 6,.N,.T,.I,.L,.L,.I,.S,.S,.L,.N,.T,.I,.L,.B,.L,.B,.L,.N,.D,.R,.X,.E] [.l l,.o o] λn n1 _ _ _ _ _ _ _ _ _ _ _ _
 cs3=>br (A.eq n1 0) (Ah D (δ 64) [bv U] [] [.a,.I,.L,.B,.L,.B,.L,.N,.E] y1) (br (A.eq n1 3) (br (Nat.blt 0 n) (Gf cs3 0 6 λcs4=>dk [.I,.L,.B,.L,.B,.L,.N] [.l cs4] λn4 xs6 b2 xs7 b3 xs8=>Ah
 D (δ 113) [y2 n4 xs6 b2 xs7 b3 xs8] [] [.a,.I,.L,.B,.L,.B,.L,.N,.E] y1) Δ) (let y3:=λz1 z2=>dk [.a,.I,.L,.B,.L,.B,.L,.N,.E] [.v z1,.o z2] y1;br (A.eq n1 4) (br ((0+n*6).ble cs3.length) (AJ
 D (δ 114) [Ξ (Bo n 6 (AvG (n*6) cs3))] [] y3) Δ) (br (A.eq n1 5) (br ((0+n*6).ble cs3.length) (AJ D (δ 115) [Ξ (Bo n 6 (AvG (n*6) cs3))] [] y3) Δ) (Ah D (δ 64) [bv
 Θ] [] [.a,.I,.L,.B,.L,.B,.L,.N,.E] y1))))) Δ)):=by kernel_rfl
theorem AkB(t1:Rw)(b2_0:Int)(b2_1 b2_2:Rw)(b2_3:Int)(b2_4 b2_5:ByteArray)(b2_6:Rw)(b4_0:Int)(b4_1:Rw)(b4_2:Bool)(b4_3:Rw)(b4_4:Bool)(b4_5:Rw)(n10:Nat)(c10:Ab)(t42:Rw)(t43 t44:Int):CT A D Ak Abf .n 65 0 (AI AiQ 0).fst (AI AiQ 0).snd [Ξ t1,ψ 0 0,ψ 1 0,ν 2 0 n10 6,Ξ t42,iv t43,iv t44] [bk [iv b2_0,Ξ b2_1,Ξ b2_2,iv b2_3,sv b2_4,sv b2_5,Ξ b2_6],bk [iv b4_0,Ξ b4_1,bv b4_2,Ξ b4_3,bv b4_4,Ξ b4_5],{ cells:=c10,st:=U,ex:=U }] =
 let y2:=bk [iv b2_0,Ξ b2_1,Ξ b2_2,iv b2_3,sv b2_4,sv b2_5,Ξ b2_6];let y3:=bk [iv b4_0,Ξ b4_1,bv b4_2,Ξ b4_3,bv b4_4,Ξ b4_5];br (A.lt t44 t43) (unI t44 λi=>A4 t42 i λcs=>dk [.I,
 .L,.L,.I,.S,.S,.L,.N] [.l cs] λn xs xs1 n1 s s1 xs2=>let y4:=[iv n,Ξ xs,Ξ xs1,iv n1,sv s,sv s1,Ξ xs2];Ah D (δ 65) [Φ y4,Ξ t1] [] [.t,.A,.I,.L,.B,.L,.B,.L,.N,.B,.N,.E]
 λn2 xs3 b xs4 b1 xs5 b2=>br (A.not b2) (V (γ [bv U,ψ 1 0,bv Θ],[BO.del,AvH (bk [iv 0,Ξ [],bv Θ,Ξ [],bv Θ,Ξ []]),BO.del])) (br (AU (n10+1) 96) (br ((0+n10*6).ble
 c10.length) (let y1:=[iv n2,Ξ xs3,bv b,Ξ xs4,bv b1,Ξ xs5];let y5:=Ψ (AvI 0 (AvG (0+n10*6) c10)++y1) U U;AJ D (ι 65 0) [Ξ t1,ψ 0 0,ψ 1 0,ν 2 0 (n10
 + 1) 6,Ξ t42,iv t43,iv (A.add φ t44 1)] [y2,y3,y5] λr1 o1=>AG 3 [0,1,6] (AH.mk [(1,y3),(0,y2),(6,y5),(5,Ψ y1 U U),(4,bk y1),(3,bk y4)] 7 Δ) [2,0,1] r1 o1) Δ) Δ))
 (V (γ [iv 0,ψ 0 0,ψ 1 0,ν 3 0 n10 6],[AvH y2,AvH y3,BO.del,AvH (Ψ c10 U U)])):=by kernel_rfl
theorem e27(x0_0:Int)(x0_1 x0_2:Rw)(x0_3:Int)(x0_4 x0_5:ByteArray)(x0_6 x1:Rw):Bp A D Ak Aqx .n 27 Aro [Φ [iv x0_0,Ξ x0_1,Ξ x0_2,iv x0_3,sv x0_4,sv x0_5,Ξ x0_6],Ξ x1] [] =
 let y2:=Φ [iv x0_0,Ξ x0_1,Ξ x0_2,iv x0_3,sv x0_4,sv x0_5,Ξ x0_6];Ah D (δ 24) [y2] [] [.b,.E] λb=>
 let y1:=Ah D (δ 64) [bv Θ] [] [.a,.I,.L,.B,.L,.B,.L,.N,.E] λn1 xs3 b4 xs4 b5 xs5=>V (γ [Φ [iv n1,Ξ xs3,bv b4,Ξ xs4,bv b5,Ξ xs5],bv Θ],[]);br b (Ah D (δ 65)
 [y2,Ξ x1] [] [.t,.A,.I,.L,.B,.L,.B,.L,.N,.B,.N,.E] λn xs b1 xs1 b2 xs2 b3=>br (A.not b3) y1 (V (γ [Φ [iv n,Ξ xs,bv b1,Ξ xs1,bv b2,Ξ xs2],bv U],[]))) y1:=by kernel_rfl
end
section
open Go.RowKit
def ZS:MFn:=Bj [⟨18,(mB 456),[],[],[(0,([Θ,Θ,U],([],[]))),(1,((mB 8),([],[])))]⟩] 277
def Rz:Hnt:=⟨[],[(0,[(0,([.int .i64],[])),(1,([.int .i64],[]))])],[(10,[.int .i64]),(11,[.int .i64])]⟩
def Anf:MFn:=Bj [] 284
def AlV:Hnt:=⟨[(154,(.int .i64,[])),(277,(.int .i64,[])),(285,(.int .i64,[]))],[],[(6,[.int .i64]),(8,[.int .i64]),(11,Bk),(13,Bk)]⟩
def ZU:MFn:=Bj [⟨39,(mB 14343),[],[],[(0,((mB 64),([],[]))),(1,([U,U],([],[])))]⟩] 286
def Vg:Hnt:=⟨[(284,(.int .i64,[]))],[(0,[(0,([.int .i64],[])),(1,([.ls,.ls],[]))])],[(16,BM),(17,BM),(24,BM),(25,BM),(27,BM),(28,BM)]⟩
def Anb:MFn:=Bj [] 278
def AlS:Hnt:=⟨[(89,(.agg BA,[])),(277,(.int .i64,[])),(285,(.int .i64,[])),(286,(.int .i64,[]))],[],[(6,BA),(8,BA),(11,[.ls]),(13,[.ls]),(17,Bk),(19,Bk)]⟩
def Anc:MFn:=Bj [] 279
def AlT:Hnt:=⟨[],[],[(4,[.bool])]⟩
def Am7:MFn:=Bj [] 270
def AlO:Hnt:=⟨[(154,(.int .i64,[])),(277,(.int .i64,[])),(278,(.int .i64,[])),(279,(.int .i64,[]))],[],[(6,BA),(8,BA),(10,Mj),(12,Mj)]⟩
def Am4:MFn:=Bj [] 254
def AlL:Hnt:=⟨[(270,(.int .i64,[]))],[],[(5,Mj),(6,Mj)]⟩
def ZM:MFn:=Bj [⟨32,(mB 229382),[],[],[(0,((mB 64),([],[]))),(1,([],([],[])))]⟩] 255
def Vb:Hnt:=⟨[(233,(.bool,[]))],[(0,[(0,([.bool],[])),(1,([],[]))])],[(20,BS),(21,BS),(24,BS),(25,BS),(27,BS),(28,BS)]⟩
def AmZ:MFn:=Bj [] 233
def AlG:Hnt:=⟨[(175,(.agg BS,[])),(254,(.bool,[])),(255,(.bool,[]))],[],[(5,BS),(7,BS),(10,[.int .i64]),(12,[.int .i64]),(16,[.int .i64]),(20,Mj),(22,Mj),(28,[.ls]),(30,[.ls])]⟩
def Aao:List (Nat × MFn):=[(277,ZS),(284,Anf),(286,ZU),(278,Anb),(279,Anc),(270,Am7),(254,Am4),(255,ZM),(233,AmZ)]
variable (A:Ar) (D:Orc)
theorem Auc(x0:Rw):Bp A D Ak Rz .n 277 ZS [Ξ x0] [] =
 Ah D (ι 277 0) [iv 0,Ξ x0,iv ↑(AP x0),iv 0] [] [.t,.C,.x,.X,.Y] λc l o=>let y1:=dk [.I,.N,.E] [.l l,.o o] λn=>V (iv n,[]);br (AT 0 c) y1 (br (AT 1 c) y1 Δ):=by kernel_rfl
theorem Xr(t3:Int)(t6:Rw)(t7 t8:Int):CT A D Ak Rz .n 277 0 (AI ZS 0).fst (AI ZS 0).snd [iv t3,Ξ t6,iv t7,iv t8] [] =
 br (A.lt t8 t7)
 (unI t8 λi=>
 A4 t6 i λcs=>
 dk [.I,.N] [.l cs] λn=>
 br (A.eq n t3)
 (AJ D (ι 277 0) [iv t3,Ξ t6,iv t7,iv (A.add φ t8 1)] [] λr o=>
 AG 0 [] (AH.mk [] 0 Δ) [] r o)
 (V ((γ [bv U,iv n],[]))))
 (V ((γ [iv 0,iv t3],[]))):=by kernel_rfl
theorem Aui(x0_0:Int)(x0_1:Bool)(x0_2:Rw)(x1_0:Int)(x1_1:Bool)(x1_2:Rw):Bp A D Ak AlV .n 284 Anf [Φ [iv x0_0,bv x0_1,Ξ x0_2],Φ [iv x1_0,bv x1_1,Ξ x1_2]] [] =
 Ah D (δ 154) [iv x0_0,iv x1_0] [] [.i,.E] λn=>
 Ah D (δ 285) [Φ [bv x0_1,Ξ x0_2],Φ [bv x1_1,Ξ x1_2]] [] [.i,.E] λn1=>
 Ah D (δ 277) [Ξ [[iv n],[iv n1]]] [] [.i,.E] λn2=>
 V ((iv n2,[])):=by kernel_rfl
theorem Auk(x0 x1:Rw):Bp A D Ak Vg .n 286 ZU [Ξ x0,Ξ x1,Av2 (Fn.func 284) [] []] [] =
 Ah D (ι 286 0) [Ξ x0,Ξ x1,Av2 (Fn.func 284) [] [],Ξ x0,iv ↑(AP x0),iv 0] [] [.t,.C,.x,.X,.Y] λc l o=>
 br (AT 0 c)
 (dk [.I,.N,.E] [.l l,.o o] λn=>
 V ((iv n,[])))
 (br (AT 1 c)
 (dk [.L,.L,.N,.E] [.l l,.o o] λxs xs1=>
 br (A.lt ↑(AP xs) ↑(AP xs1))
 (V ((iv (-1),[])))
 (V ((iv 0,[]))))
 (Δ)):=by kernel_rfl
theorem Aee(t0 t1 t11:Rw)(t12 t13:Int):CT A D Ak Vg .n 286 0 (AI ZU 0).fst (AI ZU 0).snd [Ξ t0,Ξ t1,Av2 (Fn.func 284) [] [],Ξ t11,iv t12,iv t13] [] =
 br (A.lt t13 t12)
 (unI t13 λi=>
 A4 t11 i λcs=>
 dk [.I,.B,.L,.N] [.l cs] λn b xs=>
 br (A.le (↑(AP t1)) t13)
 (V ((γ [bv U,iv 1],[])))
 (unI t13 λi1=>
 A4 t1 i1 λcs1=>
 dk [.I,.B,.L,.N] [.l cs1] λn1 b1 xs1=>
 Ah D (δ 284) [Φ [iv n,bv b,Ξ xs],Φ [iv n1,bv b1,Ξ xs1]] [] [.i,.E] λn2=>
 br (A.eq n2 0)
 (AJ D (ι 286 0) [Ξ t0,Ξ t1,Av2 (Fn.func 284) [] [],Ξ t11,iv t12,iv (A.add φ t13 1)] [] λr1 o1=>
 AG 0 [] (AH.mk [(1,bk [iv n1,bv b1,Ξ xs1]),(0,bk [iv n,bv b,Ξ xs])] 2 Δ) [] r1 o1)
 (V ((γ [bv U,iv n2],[])))))
 (V ((γ [iv 0,Ξ t0,Ξ t1],[]))):=by kernel_rfl
theorem Aud(x0_0:Rw)(x0_1:Bool)(x0_2 x1_0:Rw)(x1_1:Bool)(x1_2:Rw):Bp A D Ak AlS .n 278 Anb [Φ [Ξ x0_0,bv x0_1,Ξ x0_2],Φ [Ξ x1_0,bv x1_1,Ξ x1_2]] [] =
 Ah D (δ 89) [Φ [Ξ x0_0,bv x0_1,Ξ x0_2]] [] [.a,.L,.B,.L,.N,.E] λxs b xs1=>
 Ah D (δ 89) [Φ [Ξ x1_0,bv x1_1,Ξ x1_2]] [] [.a,.L,.B,.L,.N,.E] λxs2 b1 xs3=>
 Ah D (δ 286) [Ξ xs,Ξ xs2,Av2 (Fn.func 284) [] []] [] [.i,.E] λn=>
 Ah D (δ 285) [Φ [bv b,Ξ xs1],Φ [bv b1,Ξ xs3]] [] [.i,.E] λn1=>
 Ah D (δ 277) [Ξ [[iv n],[iv n1]]] [] [.i,.E] λn2=>
 V ((iv n2,[])):=by kernel_rfl
theorem Aue(x0_0:Rw)(x0_1:Bool)(x0_2:Rw)(x0_3:Bool):Bp A D Ak AlT .n 279 Anc [Φ [Ξ x0_0,bv x0_1,Ξ x0_2,bv x0_3]] [] =
 br x0_3
 (V ((iv 1,[])))
 (V ((iv 0,[]))):=by kernel_rfl
theorem At7(x0_0:Rw)(x0_1:Bool)(x0_2:Rw)(x0_3:Bool)(x1_0:Rw)(x1_1:Bool)(x1_2:Rw)(x1_3:Bool):Bp A D Ak AlO .n 270 Am7 [Φ [Ξ x0_0,bv x0_1,Ξ x0_2,bv x0_3],Φ [Ξ x1_0,bv x1_1,Ξ x1_2,bv x1_3]] [] =
 Ah D (δ 278) [Φ [Ξ x0_0,bv x0_1,Ξ x0_2],Φ [Ξ x1_0,bv x1_1,Ξ x1_2]] [] [.i,.E] λn=>
 Ah D (δ 279) [Φ [Ξ x0_0,bv x0_1,Ξ x0_2,bv x0_3]] [] [.i,.E] λn1=>
 Ah D (δ 279) [Φ [Ξ x1_0,bv x1_1,Ξ x1_2,bv x1_3]] [] [.i,.E] λn2=>
 Ah D (δ 154) [iv n1,iv n2] [] [.i,.E] λn3=>
 Ah D (δ 277) [Ξ [[iv n],[iv n3]]] [] [.i,.E] λn4=>
 V ((iv n4,[])):=by kernel_rfl
theorem AtZ(x0_0:Rw)(x0_1:Bool)(x0_2:Rw)(x0_3:Bool)(x1_0:Rw)(x1_1:Bool)(x1_2:Rw)(x1_3:Bool):Bp A D Ak AlL .n 254 Am4 [Φ [Ξ x0_0,bv x0_1,Ξ x0_2,bv x0_3],Φ [Ξ x1_0,bv x1_1,Ξ x1_2,bv x1_3]] [] =
 Ah D (δ 270) [Φ [Ξ x0_0,bv x0_1,Ξ x0_2,bv x0_3],Φ [Ξ x1_0,bv x1_1,Ξ x1_2,bv x1_3]] [] [.i,.E] λn=>
 br (A.eq n 0)
 (V ((bv U,[])))
 (V ((bv Θ,[]))):=by kernel_rfl
theorem At0(x0 x1:Rw):Bp A D Ak Vb .n 255 ZM [Ξ x0,Ξ x1,Av2 (Fn.func 233) [] []] [] =
 br (A.eq ↑(AP x0) ↑(AP x1))
 (Ah D (ι 255 0) [Ξ x1,Av2 (Fn.func 233) [] [],Ξ x0,iv ↑(AP x0),iv 0] [] [.t,.C,.x,.X,.Y] λc l o=>
 br (AT 0 c)
 (dk [.B,.N,.E] [.l l,.o o] λb=>
 V ((bv b,[])))
 (br (AT 1 c)
 (EB l<|
 CB o<|
 V ((bv U,[])))
 (Δ)))
 (V ((bv Θ,[]))):=by kernel_rfl
theorem Ad7(t1 t15:Rw)(t16 t17:Int):CT A D Ak Vb .n 255 0 (AI ZM 0).fst (AI ZM 0).snd [Ξ t1,Av2 (Fn.func 233) [] [],Ξ t15,iv t16,iv t17] [] =
 br (A.lt t17 t16)
 (unI t17 λi=>
 A4 t15 i λcs=>
 dk [.I,.L,.B,.L,.B,.L,.N] [.l cs] λn xs b xs1 b1 xs2=>
 unI t17 λi1=>
 A4 t1 i1 λcs1=>
 dk [.I,.L,.B,.L,.B,.L,.N] [.l cs1] λn1 xs3 b2 xs4 b3 xs5=>
 Ah D (δ 233) [Φ [iv n,Ξ xs,bv b,Ξ xs1,bv b1,Ξ xs2],Φ [iv n1,Ξ xs3,bv b2,Ξ xs4,bv b3,Ξ xs5]] [] [.b,.E] λb4=>
 br b4
 (AJ D (ι 255 0) [Ξ t1,Av2 (Fn.func 233) [] [],Ξ t15,iv t16,iv (A.add φ t17 1)] [] λr1 o1=>
 AG 0 [] (AH.mk [(1,bk [iv n1,Ξ xs3,bv b2,Ξ xs4,bv b3,Ξ xs5]),(0,bk [iv n,Ξ xs,bv b,Ξ xs1,bv b1,Ξ xs2])] 2 Δ) [] r1 o1)
 (V ((γ [bv U,bv Θ],[]))))
 (V ((γ [iv 0],[]))):=by kernel_rfl
theorem AtQ(x0_0:Int)(x0_1:Rw)(x0_2:Bool)(x0_3:Rw)(x0_4:Bool)(x0_5:Rw)(x1_0:Int)(x1_1:Rw)(x1_2:Bool)(x1_3:Rw)(x1_4:Bool)(x1_5:Rw):Bp A D Ak AlG .n 233 AmZ [Φ [iv x0_0,Ξ x0_1,bv x0_2,Ξ x0_3,bv x0_4,Ξ x0_5],Φ [iv x1_0,Ξ x1_1,bv x1_2,Ξ x1_3,bv x1_4,Ξ x1_5]] [] =
 Ah D (δ 175) [Φ [iv x0_0,Ξ x0_1,bv x0_2,Ξ x0_3,bv x0_4,Ξ x0_5]] [] [.a,.I,.L,.B,.L,.B,.L,.N,.E] λn xs b xs1 b1 xs2=>Ah D (δ 175) [Φ [iv x1_0,Ξ x1_1,bv x1_2,Ξ x1_3,
 bv x1_4,Ξ x1_5]] [] [.a,.I,.L,.B,.L,.B,.L,.N,.E] λn1 xs3 b2 xs4 b3 xs5=>br (A.eq n n1)
 (let y1:=Ah D (δ 255) [Ξ xs2,Ξ xs5,Av2 (Fn.func 233) [] []] [] [.b,.E] λb5=>br b5 (V (bv U,[])) (V (bv Θ,[]));br (A.eq n 2) (Ah D (δ 254) [Φ [Ξ xs,bv b,Ξ xs1,bv
 b1],Φ [Ξ xs3,bv b2,Ξ xs4,bv b3]] [] [.b,.E] λb4=>br b4 y1 (V (bv Θ,[]))) y1) (V (bv Θ,[])):=by kernel_rfl
end
