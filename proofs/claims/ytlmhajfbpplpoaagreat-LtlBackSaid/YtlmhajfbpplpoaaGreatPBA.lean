/- slices.Clone over this s -/
import Derived.Maps.AppendAt
import Derived.Test.YtlmhajfbpplpoaaGreatPAX
import Derived.Test.YtlmhajfbpplpoaaGreatPAB
import Derived.Test.YtlmhajfbpplpoaaGreatPAZ
import Derived.Lib.AppendZeros
import Derived.Test.YtlmhajfbpplpoaaGreatPAU
set_option linter.all false
open Bool renaming and_eq_true->χ
open List renaming drop->ο,eq_nil_of_length_eq_zero->ArK,flatten_cons->Asw,getElem?_eq_getElem->Ψ,nil_append->Arx,take->ι
open Nat renaming eq_zero_or_pos->Aui,le_refl->ω,ne_of_gt->AsU,zero_add->Ary,zero_le->ArX,zero_mul->AsG
namespace Go.Proofs.YtlmhajfbpplpoaaGreat
noncomputable section
open ABlk renaming mk->U
open AV renaming agg->Ξ,fn->Arj,ls->V,ptr->δ,sl->π,tup->φ,v->Art
open BO renaming set->ζ
open IntKind renaming i64->Δ,u32->κ,u64->θ,u8->Atq
open Key renaming fn->Φ,lp->Arh
open Lib renaming hid->Ω,run_eql_slice_nil->At4
open Option.some renaming injEq->Θ
open Tryz renaming prog->ψ
open Go.RowKit
theorem Qd(a:Addr)(j:Nat):(a.add j).block=a.block:=by unfold Addr.add;split<;>rfl
set_option maxRecDepth 100000 in
set_option maxHeartbeats 4000000 in
theorem Vt(w:World)(A:Option Addr)(n c:Nat)(us:List Value)(hn:us.length=n*3)(hc:n<=c)(hA:n≠0->∃ g o,A=some ⟨g,o,none⟩/\∀ j u,us[j]? = some u->w.cell? ⟨g,o+j,none⟩=some u)
  (h1:∀ u∈us,u.oneCell'=true) (hby:n*40<=140737488355328) :
  Calls ψ 151 #[.slice A n c] w λe w'=>∃ v',e=.returned v'/\w'.ownsRow w.heap.size 154 3 v' n us/\Below w.heap.size w w':=by
 obtain⟨i0,hi0,hz0,hz1,hz2⟩:=info_parts (show (Tryz.prog.info? 154).map (λi=>(i.zero,i.size,i.bytes))=some (some (.agg #[.int .i64 0,.bool false,.slice none 0 0]),3,40) by kernel_rfl);have HU:=Ω hn;have HA:=Ω hA;have H1:=Ω h1;clear hn hA h1;have hq:∀(w:World) (a:Option Addr) (n c:Nat),(binOp .eql 50 (.slice a n c) (.slice none 0 0)).run ψ w=.ok (.bool a.isNone) w:=λw a n c=>At4 w _ _ a n c 0 0 Tryz.underlying50
 go_enter Tryz.func151,Tryz.ntmps151
 cases A with
 |none=>
  have h0:n=0:=by
   rcases Aui n with h|h
   .exact h
   .exfalso
    obtain⟨g,o,h2,_⟩:=HA.out (AsU h)
    cases h2
  subst h0
  go_wp2
  go_ret
  have hu:us=[]:=ArK (by rw[HU.out,AsG]);rw[hu];exact⟨_,rfl,World.ownsRow_nil _ _ _ _,Below.refl _ _⟩
 |some ad=>
  obtain⟨ag,ao,asp⟩:=ad;have hcells:∀ j u,us[j]? = some u->ag<w.heap.size/\w.cell? ((⟨ag,ao,asp⟩:Addr).add j)=some u:=λj u hj=>by
   have hn0:n≠0:=by
    rintro rfl;have hu:us=[]:=ArK (by rw[HU.out,AsG]);rw[hu]at hj
    cases hj
   obtain⟨g,o,h2,h3⟩:=HA.out hn0
   cases h2
   have h5:=h3 j u hj;exact⟨DY h5,by rw[FI];exact h5⟩
  have HC:=Ω hcells;clear hcells
  go_wp2_with (at_builtin;refine wpList_append_own_at _ rfl _ _ 50 rfl w.heap.size 154 i0 (.agg #[.int .i64 0,.bool false,.slice none 0 0]) 3 40 Tryz.underlying50 hi0 hz0 hz1 hz2 rfl (by decide) _ 0 [] rfl ?c0 ⟨ag,ao,asp⟩ n c us rfl HU.out ?c1 H1.out ?c3 ?c4 ?c5 ?_)
  case c0=>exact⟨by simp,.inr ⟨w.heap.size,0,#[],rfl,ω _,heap_alloc_new _ _,ω _,ArX _,by simp,by simp⟩⟩
  case c1=>
   intro j u hj;have:=HC.out j u hj;exact((Ba w (.cells #[] 154)).cell (p:=(⟨ag,ao,asp⟩:Addr).add j) (by rw[Qd];exact this.1)).trans this.2
  case c3=>unfold maxLen;omega
  case c4=>omega
  case c5=>exact(Ba w _).size
  intro v' w3 hown hgrow _ _
  try simp only[Ary,Arx]at hown
  have HO:=Ω hown;have HB:=Ω ((Ba w (.cells #[] 154)).grown hgrow (Ba w _).size (λk hk=>by have hk:some w.heap.size=some k:=hk;cases hk;exact ω _));clear hown hgrow
  go_wp2_with fail
  go_ret
  exact⟨_,rfl,HO.out,HB.out⟩
set_option maxRecDepth 100000 in
set_option maxHeartbeats 4000000 in
theorem Vr(w:World)(A:Option Addr)(n c:Nat)(us:List Value)(hn:us.length=n*1)(hc:n<=c)(hA:n≠0->∃ g o,A=some ⟨g,o,none⟩/\∀ j u,us[j]? = some u->w.cell? ⟨g,o+j,none⟩=some u)
  (h1:∀ u∈us,u.oneCell'=true) (hby:n*4<=140737488355328) :
  Calls ψ 240 #[.slice A n c] w λe w'=>∃ v',e=.returned v'/\w'.ownsRow w.heap.size 230 1 v' n us/\Below w.heap.size w w':=by
 obtain⟨i0,hi0,hz0,hz1,hz2⟩:=info_parts (show (Tryz.prog.info? 230).map (λi=>(i.zero,i.size,i.bytes))=some (some (.int .u32 0),1,4) by kernel_rfl);have HU:=Ω hn;have HA:=Ω hA;have H1:=Ω h1;clear hn hA h1;have hq:∀(w:World) (a:Option Addr) (n c:Nat),(binOp .eql 52 (.slice a n c) (.slice none 0 0)).run ψ w=.ok (.bool a.isNone) w:=λw a n c=>At4 w _ _ a n c 0 0 Tryz.underlying52
 go_enter Tryz.func240,Tryz.ntmps240
 cases A with
 |none=>
  have h0:n=0:=by
   rcases Aui n with h|h
   .exact h
   .exfalso
    obtain⟨g,o,h2,_⟩:=HA.out (AsU h)
    cases h2
  subst h0
  go_wp2
  go_ret
  have hu:us=[]:=ArK (by rw[HU.out,AsG]);rw[hu];exact⟨_,rfl,World.ownsRow_nil _ _ _ _,Below.refl _ _⟩
 |some ad=>
  obtain⟨ag,ao,asp⟩:=ad;have hcells:∀ j u,us[j]? = some u->ag<w.heap.size/\w.cell? ((⟨ag,ao,asp⟩:Addr).add j)=some u:=λj u hj=>by
   have hn0:n≠0:=by
    rintro rfl;have hu:us=[]:=ArK (by rw[HU.out,AsG]);rw[hu]at hj
    cases hj
   obtain⟨g,o,h2,h3⟩:=HA.out hn0
   cases h2
   have h5:=h3 j u hj;exact⟨DY h5,by rw[FI];exact h5⟩
  have HC:=Ω hcells;clear hcells
  go_wp2_with (at_builtin;refine wpList_append_own_at _ rfl _ _ 52 rfl w.heap.size 230 i0 (.int .u32 0) 1 4 Tryz.underlying52 hi0 hz0 hz1 hz2 rfl (by decide) _ 0 [] rfl ?c0 ⟨ag,ao,asp⟩ n c us rfl HU.out ?c1 H1.out ?c3 ?c4 ?c5 ?_)
  case c0=>exact⟨by simp,.inr ⟨w.heap.size,0,#[],rfl,ω _,heap_alloc_new _ _,ω _,ArX _,by simp,by simp⟩⟩
  case c1=>
   intro j u hj;have:=HC.out j u hj;exact((Ba w (.cells #[] 230)).cell (p:=(⟨ag,ao,asp⟩:Addr).add j) (by rw[Qd];exact this.1)).trans this.2
  case c3=>unfold maxLen;omega
  case c4=>omega
  case c5=>exact(Ba w _).size
  intro v' w3 hown hgrow _ _
  try simp only[Ary,Arx]at hown
  have HO:=Ω hown;have HB:=Ω ((Ba w (.cells #[] 230)).grown hgrow (Ba w _).size (λk hk=>by have hk:some w.heap.size=some k:=hk;cases hk;exact ω _));clear hown hgrow
  go_wp2_with fail
  go_ret
  exact⟨_,rfl,HO.out,HB.out⟩
section
variable {μ:Mu} {F:Az} {w:World} {g:Nat}
theorem W7:∀(xs:List AV) (o:Nat),RepAt μ F w g xs o->∃ us,RepList μ F w xs us/\∀ j u,us[j]? = some u->w.cell? ⟨g,o+j,none⟩=some u
 |[],o,_=>⟨[],rfl,λj u h=>by simp at h⟩
 |x::r,o,h=>by
  simp only[RepAt]at h;obtain⟨⟨_,u,h2,h3⟩,h4⟩:=h;obtain⟨us,h5,h6⟩:=W7 r (o+1) h4;refine⟨u::us,⟨u,us,rfl,h3,h5⟩,λj v hj=>?_⟩
  cases j with
  |zero=>simp at hj;subst hj;exact h2
  |succ j=>
   have:=h6 j v (by simpa using hj)
   rwa [show o+1+j=o+(j+1) by omega]at this
theorem Rc{e:Nat}:∀(xs:List (List AV)) (o:Nat),RepRows μ F w g e xs o->∃ us,RepList μ F w xs.flatten us/\∀ j u,us[j]? = some u->w.cell? ⟨g,o+j,none⟩=some u
 |[],o,_=>⟨[],rfl,λj u h=>by simp at h⟩
 |x::r,o,h=>by
  simp only[RepRows]at h;obtain⟨h1,h2,h3⟩:=h;obtain⟨us,a1,a2⟩:=W7 x o h2;obtain⟨vs,b1,b2⟩:=Rc r (o+e) h3;refine⟨us++vs,by rw[Asw];exact RepList.append a1 b1,λj v hj=>?_⟩;have hl:us.length=e:=by rw[a1.length,h1]
  by_cases hj2:j<us.length
  .exact a2 j v (by rwa [List.getElem?_append_left hj2]at hj)
  .rw[List.getElem?_append_right (by omega),hl]at hj
   have:=b2 (j-e) v hj
   rwa [show o+e+(j-e)=o+j by omega]at this
end
def Cs(e B:Nat):List AV->Option (Nat × List AV)
 |[.ls xs]=>if(Hm e xs&&LH (JK xs)&&AP (JK xs)&&Nat.ble (AZ xs*B) 140737488355328)=true then some (AZ xs,JK xs) else none
 |_=>none
theorem Ov{P:Program}{f:Nat}{ety:TypeId}(e B:Nat) (h:∀(w:World) (A:Option Addr) (n c:Nat) (us:List Value),us.length=n*e->n<=c->(n≠0->∃ g o,A=some ⟨g,o,none⟩/\∀ j u,us[j]? = some u->w.cell? ⟨g,o+j,none⟩=some u)->
  (∀ u∈us,u.oneCell'=true)->n*B<=140737488355328->Calls P f #[.slice A n c] w λe' w'=>∃ v',e'=.returned v'/\w'.ownsRow w.heap.size ety e v' n us/\Below w.heap.size w w'):Bx (BY P f) (Gg e (Cs e B)):=by
 refine Qz (Db P f) e _ λargs n cells hr=>?_
 unfold Cs at hr;split at hr
 .rename_i xs
  split at hr
  .rename_i hc
   simp only[χ,Nat.ble_eq]at hc;obtain⟨⟨⟨c1,c2⟩,c3⟩,c4⟩:=hc;rw[Jn]at c1;rw[K8]at c2 c3;rw[H7]at c4;simp only[Θ,Prod.mk.injEq]at hr;obtain⟨rfl,rfl⟩:=hr;rw[H7,K8];have hlen:xs.flatten.length=xs.length*e:=by
    clear c2 c3 c4
    induction xs with
    |nil=>simp
    |cons x r ih=>
     rw[List.all_cons,χ]at c1;rw[Asw,List.length_append,ih c1.2,List.length_cons,Nat.add_mul,Nat.one_mul];have:x.length=e:=by simpa using c1.1
     omega
   refine⟨c3,hlen,λμ F w us hF hus=>?_⟩;obtain⟨v,t,rfl,hv,ht⟩:=hus;have ht:t=[]:=ht;subst ht;unfold Rep at hv;obtain⟨_,A,c,rfl,h2,_,h4⟩:=hv;have key:∃ vs,RepList μ F w xs.flatten vs/\(xs.length≠0->∃ g o,A=some ⟨g,o,none⟩/\∀ j u,vs[j]? = some u->w.cell? ⟨g,o+j,none⟩=some u):=by
    by_cases hx:xs=[]
    .subst hx
     exact⟨[],rfl,λh=>absurd rfl h⟩
    .obtain⟨g,o,e',hA,hr⟩:=h4 hx
     obtain⟨vs,k1,k2⟩:=Rc xs o hr;exact⟨vs,k1,λ_=>⟨g,o,hA,k2⟩⟩
   obtain⟨vs,k1,k2⟩:=key;have hone:∀ u∈vs,u.oneCell'=true:=λu hu=>by
    obtain⟨j,hj,rfl⟩:=List.getElem_of_mem hu;have hj2:j<xs.flatten.length:=by rw[←k1.length];exact hj
    obtain⟨u,a1,a2⟩:=k1.get (Ψ hj2);rw[Ψ hj]at a1
    cases a1
    rw[Jz]at c2;exact a2.one (List.all_eq_true.1 c2 _ (List.getElem_mem hj2))
   refine Calls.mono (h w A xs.length c vs (by rw[k1.length,hlen]) h2 k2 hone c4) ?_;rintro e' w' ⟨v',rfl,ho,hb⟩;exact⟨v',rfl,ety,vs,ho,hb,k1⟩
  .cases hr
 .cases hr
theorem YS:Bx (BY ψ 240) (Gg 1 (Cs 1 4)):=Ov 1 4 λw A n c us h1 h2 h3 h4 h5=>Vr w A n c us h1 h2 h3 h4 h5
theorem Vu:Bx (BY ψ 151) (Gg 3 (Cs 3 40)):=Ov 3 40 λw A n c us h1 h2 h3 h4 h5=>Vt w A n c us h1 h2 h3 h4 h5
set_option maxRecDepth 100000 in
set_option maxHeartbeats 4000000 in
theorem Y6(w:World)(n:Nat)(hby:n*40<=140737488355328) :
  Calls ψ 263 #[.slice none 0 0,.int .i64 n] w λe w'=>∃ v',e=.returned v'/\w'.ownsRow w.heap.size 154 3 v' 0 []/\Below w.heap.size w w':=by
 have y0:¬ (n:Int)<0:=by omega
 go_enter Tryz.func263,Tryz.ntmps263
 by_cases h0:n=0
 .subst h0
  go_wp2
  go_ret
  exact⟨_,rfl,World.ownsRow_nil _ _ _ _,Below.refl _ _⟩
 .have y1:(0:Int)<(n:Int):=by omega
  obtain⟨i0,hi0,hz0,hz1,hz2⟩:=info_parts (show (Tryz.prog.info? 154).map (λi=>(i.zero,i.size,i.bytes))=some (some (.agg #[.int .i64 0,.bool false,.slice none 0 0]),3,40) by kernel_rfl);have hr:=λty=>Lib.run_append_nil_zeros (P:=ψ) w 50 3 ty 154 i0 _ .i64 .i64 Tryz.underlying50 Tryz.underlying3 hi0 hz0 n (by omega) (by rw[hz1];decide) (by omega) (by rw[hz2];omega)
  have c1:=grownCap_ge w n 0 154;have c2:=grownCap_le_maxLen w n 0 154 (by unfold maxLen;omega);have HR:=Ω hr;clear hr;generalize grownCap w n 0 154=cap at *
  go_wp2_with (at_builtin;refine Lib.wpList_append_run _ rfl _ _ _ _ rfl _ _ rfl rfl _ _ (HR.out _) ?_)
  go_wp2_with fail
  go_ret
  refine⟨_,rfl,⟨by simp,.inr ⟨w.heap.size,cap,_,rfl,ω _,heap_alloc_new _ _,ArX _,c2,?_,by simp⟩⟩,?_⟩
  .rw[Array.size_append,size_zeroCells,size_zeroCells]
   show n*3+(cap-n)*3=cap*3
   omega
  .exact(Kd (Below.refl _ _)).alloc (ω _) _
def If(B:Nat):List AV->Option (Nat × List AV)
 |[.v (.slice none 0 0),.v (.int .i64 (.ofNat n))]=>if Nat.ble (n*B) 140737488355328=true then some (0,[]) else none
 |_=>none
theorem Y7:Bx (BY ψ 263) (Gg 3 (If 40)):=by
 refine Qz (Db _ _) 3 _ λargs n cells hr=>?_
 unfold If at hr;split at hr
 .rename_i k
  split at hr
  .rename_i hk
   simp only[Θ,Prod.mk.injEq]at hr;obtain⟨rfl,rfl⟩:=hr;refine⟨rfl,rfl,λμ F w us hF hus=>?_⟩;obtain⟨u,t,rfl,hu,u2,t2,rfl,hu2,ht⟩:=hus;have ht:t2=[]:=ht;subst ht;unfold Rep at hu hu2;rw[hu.1,hu2.1];refine Calls.mono (Y6 w k (Nat.le_of_ble_eq_true hk)) ?_;rintro e' w' ⟨v',rfl,ho,hb⟩;exact⟨v',rfl,_,[],ho,hb,rfl⟩
  .cases hr
 .cases hr

def PH:List (Nat × MFn):=[(88,Ac0),(219,AcY)]
section
variable {D:Orc}
theorem Zg(K:Knows Ag PH D)(xs:List ByteArray)(hx:xs.length<4611686018427387904)(s:ByteArray):∀(k i:Nat),xs.length-i=k->D.ask (.lp 88 0) [.ls (xs.map eS),sv s,iv (xs.length:Int),iv (i:Int)] []=some (FY i ((xs.drop i).findIdx? (s = ·)),[]):=by
 intro k
 induction k with
 |zero=>
  intro i hi;refine K.lp' TK _ rfl (by kernel_rfl) ((Xj ..).trans ?_);have:xs.drop i=[]:=List.drop_eq_nil_of_le (by omega);simp only[JM,this,Ff];rw[if_neg (by simp;omega)];rfl
 |succ k ih=>
  intro i hi;have hlt:i<xs.length:=by omega
  refine K.lp' TK _ rfl (by kernel_rfl) ((Xj ..).trans ?_);have e1:xs.drop i=xs[i]::xs.drop (i+1):=List.drop_eq_getElem_cons hlt;have ih':=ih (i+1) (by omega);have e2:Ah.add .i64 (i:Int) 1=((i+1:Nat):Int):=Bo (by omega);simp only[JM,Ax,G9,Ψ hlt,eS,ND,DK,Aa,F6,e2,Ff];rw[if_pos (by simpa using hlt),e1,List.findIdx?_cons]
  by_cases h:s=xs[i]
  .simp[←h,FY]
  .rw[if_neg (by simpa using h),if_neg (by simpa using h)]
   refine Ab ih' ?_
   cases (xs.drop (i+1)).findIdx? (s = ·) with
   |none=>rfl
   |some j=>
    simp only[FY,Option.map_some,show i+(j+1)=i+1+j by omega];rfl
theorem G4(K:Knows Ag PH D)(xs:List ByteArray)(hx:xs.length<4611686018427387904)(s:ByteArray):D.ask (.fn 88) [.ls (xs.map eS),sv s] []=some (iv (CC (xs.findIdx? (s = ·))),[]):=by
 refine K.fn' TK _ rfl ((e88 ..).trans ?_);rw[Aw];refine Ab (Zg K xs hx s _ 0 rfl) ?_;rw[List.drop_zero]
 cases xs.findIdx? (s = ·) with
 |none=>rfl
 |some j=>simp only[FY,ND,DK,Aa,Ary];rfl
end
section
open Go.RowKit
def AjR:MFn:=Ce [] 265
def AiA:Hnt:=⟨[],[],[(5,[.int .i64]),(9,[.str]),(14,[.int .i64]),(18,[.str]),(23,[.int .i64]),(27,[.str]),(32,[.int .i64]),(36,[.str])]⟩
def Ai9:MFn:=Ce [] 126
def AhV:Hnt:=⟨[],[],[]⟩
def Am7:Bv:=[⟨20,[false,false,false,true,false,false,false,true,true,true],[(3,1)],[],[(1,([false,false,false,true],([],[])))]⟩]
def Ui:MFn:=Ce Am7 232
def Ng:Hnt:=⟨[],[(0,[(1,([.sl 1 1],[.del,.row true]))])],[(7,[.ls]),(11,[.str,.ls,.ls]),(12,[.str,.ls,.ls]),(15,[.str])]⟩
def AjW:MFn:=Ia ψ AL [] false true 276
def AiF:Hnt:=⟨[(88,(.int .i64,[])),(92,(.agg [.int .i64,.str,.int .i64,.int .i64],[.box [.ls,.int .i64,.ls,.bool]])),(109,(.bool,[]))],[],[(9,[.any]),(12,[.int .i64]),(16,[.str]),(22,[.str]),(27,[.any]),(30,[.int .i64])]⟩
def AjS:MFn:=Ia ψ AL [] false true 266
def AiB:Hnt:=⟨[(232,(.ls,[])),(248,(.int .i64,[.box [.ls,.int .i64,.ls,.bool]])),(276,(.tup [.int .i64,.int .i64],[.box [.ls,.int .i64,.ls,.bool]]))],[],[(9,[.any,.ls,.ls,.int .i64,.ls,.bool,.ls,.bool,.ls,.ls,.ls]),(11,[.ls,.ls,.int .i64,.ls,.bool,.ls,.bool,.ls,.ls,.ls]),(19,[.any]),(27,[.ls]),(29,[.str,.ls,.ls]),(30,[.str,.ls,.ls]),(32,[.any,.ls,.ls,.int .i64,.ls,.bool,.ls,.bool,.ls,.ls,.ls]),(34,[.ls]),(43,[.str]),(45,[.ls]),(47,[.str]),(48,[.str])]⟩
def AjT:MFn:=Ia ψ AL [] false true 267
def AiC:Hnt:=⟨[(93,(.bool,[.box [.ls,.int .i64,.ls,.bool]])),(126,(.agg [.int .i64,.ls,.ls,.int .i64,.str,.str,.ls],[])),(249,(.tup [.agg [.int .i64,.ls,.ls,.int .i64,.str,.str,.ls],.int .i64],[.box [.ls,.int .i64,.ls,.bool]]))],[],[(6,[.any]),(11,[.any]),(15,[.any])]⟩
def Am0:Bv:=[⟨44,[true,true,true,true,true,true,false,false,false,false,true,false,true,true],[],[5,10,12],[(1,([true,false,false,false,false,false,false,false,false,false,true,false,true,true],([],[5])))]⟩]
def O2:MFn:=Ia ψ AL Am0 false true 185
def Fh:Hnt:=⟨[(93,(.bool,[.box [.ls,.int .i64,.ls,.bool]])),(126,(.agg [.int .i64,.ls,.ls,.int .i64,.str,.str,.ls],[])),(186,(.tup [.agg [.int .i64,.ls,.ls,.int .i64,.str,.str,.ls],.int .i64],[.box [.ls,.int .i64,.ls,.bool]])),(230,(.tup [.agg [.int .i64,.ls,.ls,.int .i64,.str,.str,.ls],.int .i64],[.box [.ls,.int .i64,.ls,.bool]]))],[(0,[(1,([.agg [.ptr 0 0,.ls,.ls,.int .i64,.ls,.bool,.ls,.bool,.ls,.ls,.ls],.ptr 2 0,.ptr 3 0,.int .i64],[.box [.ls,.int .i64,.ls,.bool],.del,.box [.int .i64,.ls,.ls,.int .i64,.str,.str,.ls],.box [.int .i64,.ls,.ls,.int .i64,.str,.str,.ls]]))])],[(25,[.any]),(38,[.int .i64,.ls,.ls,.int .i64,.str,.str,.ls]),(39,[.int .i64,.ls,.ls,.int .i64,.str,.str,.ls]),(42,[.int .i64,.ls,.ls,.int .i64,.str,.str,.ls])]⟩
def Ajw:MFn:=Ia ψ AL [] false true 186
def Aih:Hnt:=⟨[(185,(.tup [.agg [.int .i64,.ls,.ls,.int .i64,.str,.str,.ls],.int .i64],[.box [.ls,.int .i64,.ls,.bool]]))],[],[(6,[.any,.ls,.ls,.int .i64,.ls,.bool,.ls,.bool,.ls,.ls,.ls]),(8,[.any,.ls,.ls,.int .i64,.ls,.bool,.ls,.bool,.ls,.ls,.ls])]⟩
def Ai8:MFn:=Ia ψ AL [] false true 125
def AhU:Hnt:=⟨[(185,(.tup [.agg [.int .i64,.ls,.ls,.int .i64,.str,.str,.ls],.int .i64],[.box [.ls,.int .i64,.ls,.bool]]))],[],[(6,[.any,.ls,.ls,.int .i64,.ls,.bool,.ls,.bool,.ls,.ls,.ls]),(8,[.any,.ls,.ls,.int .i64,.ls,.bool,.ls,.bool,.ls,.ls,.ls])]⟩
def AjJ:MFn:=Ia ψ AL [] false true 230
def TD:Hnt:=⟨[(93,(.bool,[.box [.ls,.int .i64,.ls,.bool]])),(126,(.agg [.int .i64,.ls,.ls,.int .i64,.str,.str,.ls],[])),(230,(.tup [.agg [.int .i64,.ls,.ls,.int .i64,.str,.str,.ls],.int .i64],[.box [.ls,.int .i64,.ls,.bool]])),(252,(.tup [.agg [.int .i64,.ls,.ls,.int .i64,.str,.str,.ls],.int .i64],[.box [.ls,.int .i64,.ls,.bool]]))],[],[(11,[.any,.ls,.ls,.int .i64,.ls,.bool,.ls,.bool,.ls,.ls,.ls]),(18,[.int .i64,.ls,.ls,.int .i64,.str,.str,.ls]),(20,[.int .i64,.ls,.ls,.int .i64,.str,.str,.ls]),(23,[.any]),(27,[.any]),(30,[.any,.ls,.ls,.int .i64,.ls,.bool,.ls,.bool,.ls,.ls,.ls]),(36,[.int .i64,.ls,.ls,.int .i64,.str,.str,.ls]),(37,[.int .i64,.ls,.ls,.int .i64,.str,.str,.ls])]⟩
def AjO:MFn:=Ia ψ AL [] false true 252
def Xr:Hnt:=⟨[(70,(.tup [.agg [.int .i64,.ls,.ls,.int .i64,.str,.str,.ls],.int .i64],[.box [.ls,.int .i64,.ls,.bool]])),(92,(.agg [.int .i64,.str,.int .i64,.int .i64],[.box [.ls,.int .i64,.ls,.bool]])),(93,(.bool,[.box [.ls,.int .i64,.ls,.bool]])),(126,(.agg [.int .i64,.ls,.ls,.int .i64,.str,.str,.ls],[])),(248,(.int .i64,[.box [.ls,.int .i64,.ls,.bool]])),(252,(.tup [.agg [.int .i64,.ls,.ls,.int .i64,.str,.str,.ls],.int .i64],[.box [.ls,.int .i64,.ls,.bool]])),(265,(.int .i64,[])),(266,(.tup [.agg [.int .i64,.ls,.ls,.int .i64,.str,.str,.ls],.int .i64],[.box [.ls,.int .i64,.ls,.bool]])),(267,(.tup [.agg [.int .i64,.ls,.ls,.int .i64,.str,.str,.ls],.int .i64],[.box [.ls,.int .i64,.ls,.bool]]))],[],[(14,[.any]),(16,[.int .i64,.str,.int .i64,.int .i64]),(19,[.int .i64]),(23,[.str]),(41,[.any]),(44,[.int .i64]),(49,[.any,.ls,.ls,.int .i64,.ls,.bool,.ls,.bool,.ls,.ls,.ls]),(56,[.int .i64,.ls,.ls,.int .i64,.str,.str,.ls]),(62,[.any]),(65,[.any,.ls,.ls,.int .i64,.ls,.bool,.ls,.bool,.ls,.ls,.ls]),(74,[.any]),(76,[.int .i64,.ls,.ls,.int .i64,.str,.str,.ls]),(80,[.any]),(82,[.any,.ls,.ls,.int .i64,.ls,.bool,.ls,.bool,.ls,.ls,.ls]),(86,[.any,.ls,.ls,.int .i64,.ls,.bool,.ls,.bool,.ls,.ls,.ls])]⟩
def AnW:MFn:=Ia ψ AL [] false true 70
def AfW:Hnt:=⟨[(70,(.tup [.agg [.int .i64,.ls,.ls,.int .i64,.str,.str,.ls],.int .i64],[.box [.ls,.int .i64,.ls,.bool]])),(93,(.bool,[.box [.ls,.int .i64,.ls,.bool]])),(125,(.tup [.agg [.int .i64,.ls,.ls,.int .i64,.str,.str,.ls],.int .i64],[.box [.ls,.int .i64,.ls,.bool]])),(126,(.agg [.int .i64,.ls,.ls,.int .i64,.str,.str,.ls],[]))],[],[(10,[.any,.ls,.ls,.int .i64,.ls,.bool,.ls,.bool,.ls,.ls,.ls]),(19,[.any]),(23,[.int .i64,.ls,.ls,.int .i64,.str,.str,.ls]),(26,[.any,.ls,.ls,.int .i64,.ls,.bool,.ls,.bool,.ls,.ls,.ls]),(31,[.int .i64,.ls,.ls,.int .i64,.str,.str,.ls]),(32,[.int .i64,.ls,.ls,.int .i64,.str,.str,.ls])]⟩
def Fj:List (Nat × MFn):=[(265,AjR),(126,Ai9),(232,Ui),(276,AjW),(266,AjS),(267,AjT),(185,O2),(186,Ajw),(125,Ai8),(230,AjJ),(252,AjO),(70,AnW)]
variable (A:Ar) (D:Orc)
theorem ApJ(x0_0:Int)(x0_1:ByteArray)(x0_2 x0_3:Int):By A D Ag AiA (.b (.b (.b (.b (.b .n (.b (.b .n (.b .n (.b (.b (.b (.b (.b .n (.b (.b .n (.b .n (.t (.b (.b (.b (.b .n (.b (.b .n (.b .n (.t .n))) .n)) .n) .n) .n)))) .n)) .n) .n) .n) (.b .n (.b .n (.b .n (.b .n (.b .n (.b .n (.f (.b .n (.b .n (.b .n (.b .n (.b .n (.b .n (.f .n))))))))))))))))) .n)) .n) .n) .n) (.b .n (.b .n (.b .n (.b .n (.b .n (.b .n (.b (.b (.b (.b (.b .n (.b (.b .n (.b .n (.t (.b (.b (.b (.b .n (.b (.b .n (.b .n (.t .n))) .n)) .n) .n) .n)))) .n)) .n) .n) .n) (.b .n (.b .n (.b .n (.b .n (.b .n (.b .n (.f (.b .n (.b .n (.b .n (.b .n (.b .n (.b .n (.f .n)))))))))))))))))))))) 265 AjR [Ξ [iv x0_0,sv x0_1,iv x0_2,iv x0_3]] [] =
 br (A.eq x0_0 2)
 (br (A.seq x0_1 (Af [33]))
 (some ((iv 3,[])))
 (br (A.eq x0_0 4)
 (br (A.seq x0_1 (Af [88]))
 (some ((iv 8,[])))
 (br (A.eq x0_0 4) (br (A.seq x0_1 (Af [71]))
 (some ((iv 9,[])))
 (br (A.eq x0_0 4) (br (A.seq x0_1 (Af [70]))
 (some ((iv 10,[])))
 (some ((iv (-1),[])))) none)) none))
 (br (A.eq x0_0 4) none (br (A.eq x0_0 4) none (some ((iv (-1),[])))))))
 (br (A.eq x0_0 4)
 (br (A.seq x0_1 (Af [88]))
 (some ((iv 8,[])))
 (br (A.eq x0_0 4) (br (A.seq x0_1 (Af [71]))
 (some ((iv 9,[])))
 (br (A.eq x0_0 4) (br (A.seq x0_1 (Af [70]))
 (some ((iv 10,[])))
 (some ((iv (-1),[])))) none)) none))
 (br (A.eq x0_0 4) none (br (A.eq x0_0 4) none (some ((iv (-1),[])))))):=by kernel_rfl
theorem AoP(x0:Int)(x1:Rw):By A D Ag AhV .n 126 Ai9 [iv x0,V x1] [] =
 some ((Ξ [iv x0,V [],V [],iv 0,sv (Af []),sv (Af []),V x1],[])):=by kernel_rfl
theorem Amk(x0_0 x0_1:Rw)(x0_2:Int)(x0_3:Rw)(x0_4:Bool)(x0_5:Rw)(x0_6:Bool)(x0_7 x0_8 x0_9:Rw):By A D Ag Ng .n 232 Ui [Ξ [V x0_0,V x0_1,iv x0_2,V x0_3,bv x0_4,V x0_5,bv x0_6,V x0_7,V x0_8,V x0_9]] [] =
 Ae D (Arh 232 0) [π 0 0 0 1,V x0_8,iv ↑(AZ x0_8),iv 0] [U [] true true] [.t,.C,.x,.X,.Y] λc l o=>
 br (Bb 1 c)
 (dk [.C,.q 1 1,.N,.D,.R,.X,.E] [.l l,.o o] λn cs1=>
 br ((0+n*1).ble cs1.length) (some ((V (BC n 1 (ι (n*1) cs1)),[]))) none)
 (none):=by kernel_rfl
theorem RZ(n3:Nat)(c3:List AV)(t7:Rw)(t8 t9:Int):EH A D Ag Ng .n 232 0 (AW Ui 0).fst (AW Ui 0).snd [π 0 0 n3 1,V t7,iv t8,iv t9] [{ cells:=c3,st:=true,ex:=true }] =
 br (A.lt t9 t8)
 (unI t9 λi=>
 B7 t7 i λcs=>
 dk [.S,.L,.L,.N] [.l cs] λs xs xs1=>
 br (Bc (n3+1) 16) (br ((0+n3*1).ble c3.length) (AD D (Arh 232 0) [π 0 0 (n3+1) 1,V t7,iv t8,iv (A.add Δ t9 1)] [U (ο 0 (ι (0+n3*1) c3)++[sv s]) true true] λr o=>
 AE 1 [3] (AH.mk [(3,U (ο 0 (ι (0+n3*1) c3)++[sv s]) true true),(2,U [sv s] true true),(1,bk [sv s,V xs,V xs1])] 4 none) [0] r o) none) none)
 (some ((φ [iv 0,π 1 0 n3 1],[BO.del,ζ (U c3 true true)]))):=by kernel_rfl
theorem ApP(s1 s2:Rw)(s3:Int)(s4:Rw)(s5:Bool)(s6:Rw)(s7:Bool)(s8 s9 s10 x1 p_0:Rw)(p_1:Int)(p_2:Rw)(p_3:Bool):By A D Ag AiF .n 276 AjW [Ξ [δ 0 0,V s1,V s2,iv s3,V s4,bv s5,V s6,bv s7,V s8,V s9,V s10],V x1] [bk [V p_0,iv p_1,V p_2,bv p_3]] =
 Ae D (Φ 92) [δ 0 0] [bk [V p_0,iv p_1,V p_2,bv p_3]] [.a,.I,.S,.I,.I,.N,.T,.L,.I,.L,.B,.N,.E] λn s _ _ xs n3 xs1 b=>
 br (A.eq n 1)
 (Ae D (Φ 109) [sv s] [] [.b,.E] λb1=>
 br b1
 (Ae D (Φ 88) [V x1,sv s] [] [.i,.E] λn4=>
 br (A.lt n4 0)
 (some ((φ [iv 0,iv 110],[ζ (bk [V xs,iv n3,V xs1,bv b])])))
 (some ((φ [iv n4,iv 0],[ζ (bk [V xs,iv (A.add Δ n3 1),V xs1,bv b])]))))
 (some ((φ [iv 0,iv 101],[ζ (bk [V xs,iv n3,V xs1,bv b])]))))
 (some ((φ [iv 0,iv 101],[ζ (bk [V xs,iv n3,V xs1,bv b])]))):=by kernel_rfl
theorem ApK(s1 s2:Rw)(s3:Int)(s4:Rw)(s5:Bool)(s6:Rw)(s7:Bool)(s8 s9 s10 p_0:Rw)(p_1:Int)(p_2:Rw)(p_3:Bool):By A D Ag AiB (.b .n (.b .n (.f .n))) 266 AjS [Ξ [δ 0 0,V s1,V s2,iv s3,V s4,bv s5,V s6,bv s7,V s8,V s9,V s10]] [bk [V p_0,iv p_1,V p_2,bv p_3]] =
 Ae D (Φ 232) [Ξ [V s1,V s2,iv s3,V s4,bv s5,V s6,bv s7,V s8,V s9,V s10]] [] [.l,.E] λxs=>
 Ae D (Φ 276) [Ξ [δ 0 0,V s1,V s2,iv s3,V s4,bv s5,V s6,bv s7,V s8,V s9,V s10],V xs] [bk [V p_0,iv p_1,V p_2,bv p_3]] [.t,.I,.I,.N,.T,.L,.I,.L,.B,.N,.E] λn n1 xs1 n2 xs2 b=>
 br (A.eq n1 0)
 (Ae D (Φ 248) [δ 0 0,sv (Af [46])] [bk [V xs1,iv n2,V xs2,bv b]] [.i,.T,.L,.I,.L,.B,.N,.E] λn3 xs3 n4 xs4 b1=>
 br (A.eq n3 0)
 (unI n λi=>
 B7 s9 i λcs3=>
 dk [.S,.L,.L,.N] [.l cs3] λs xs5 _=>
 Ae D (Φ 276) [Ξ [δ 0 0,V s1,V s2,iv s3,V s4,bv s5,V s6,bv s7,V s8,V s9,V s10],V xs5] [bk [V xs3,iv n4,V xs4,bv b1]] [.t,.I,.I,.N,.T,.L,.I,.L,.B,.N,.E] λn5 n6 xs7 n7 xs8 b2=>
 br (A.eq n6 0)
 (unI n5 λi1=>
 B7 xs5 i1 λcs6=>
 dk [.S,.N] [.l cs6] λs11=>
 some ((φ [Ξ [iv 6,V [],V [],iv 0,sv s,sv s11,V []],iv 0],[ζ (bk [V xs7,iv n7,V xs8,bv b2])])))
 (some ((φ [Ξ [iv 0,V [],V [],iv 0,sv (Af []),sv (Af []),V []],iv n6],[ζ (bk [V xs7,iv n7,V xs8,bv b2])]))))
 (some ((φ [Ξ [iv 0,V [],V [],iv 0,sv (Af []),sv (Af []),V []],iv n3],[ζ (bk [V xs3,iv n4,V xs4,bv b1])]))))
 (br (A.eq n1 0) none (some ((φ [Ξ [iv 0,V [],V [],iv 0,sv (Af []),sv (Af []),V []],iv n1],[ζ (bk [V xs1,iv n2,V xs2,bv b])])))):=by kernel_rfl
theorem ApL(s1 s2:Rw)(s3:Int)(s4:Rw)(s5:Bool)(s6:Rw)(s7:Bool)(s8 s9 s10 p_0:Rw)(p_1:Int)(p_2:Rw)(p_3:Bool):By A D Ag AiC .n 267 AjT [Ξ [δ 0 0,V s1,V s2,iv s3,V s4,bv s5,V s6,bv s7,V s8,V s9,V s10]] [bk [V p_0,iv p_1,V p_2,bv p_3]] =
 Ae D (Φ 93) [δ 0 0,sv (Af [116,114,117,101])] [bk [V p_0,iv p_1,V p_2,bv p_3]] [.b,.T,.L,.I,.L,.B,.N,.E] λb xs n xs1 b1=>
 br b
 (Ae D (Φ 126) [iv 0,V []] [] [.a,.I,.L,.L,.I,.S,.S,.L,.N,.E] λn1 xs2 xs3 n2 s s11 xs4=>
 some ((φ [Ξ [iv n1,V xs2,V xs3,iv n2,sv s,sv s11,V xs4],iv 0],[ζ (bk [V xs,iv n,V xs1,bv b1])])))
 (Ae D (Φ 93) [δ 0 0,sv (Af [102,97,108,115,101])] [bk [V xs,iv n,V xs1,bv b1]] [.b,.T,.L,.I,.L,.B,.N,.E] λb2 xs2 n1 xs3 b3=>
 br b2
 (Ae D (Φ 126) [iv 1,V []] [] [.a,.I,.L,.L,.I,.S,.S,.L,.N,.E] λn2 xs4 xs5 n3 s s11 xs6=>
 some ((φ [Ξ [iv n2,V xs4,V xs5,iv n3,sv s,sv s11,V xs6],iv 0],[ζ (bk [V xs2,iv n1,V xs3,bv b3])])))
 (Ae D (Φ 249) [δ 0 0] [bk [V xs2,iv n1,V xs3,bv b3]] [.t,.A,.I,.L,.L,.I,.S,.S,.L,.N,.I,.N,.T,.L,.I,.L,.B,.N,.E] λn2 xs4 xs5 n3 s s11 xs6 n4 xs7 n5 xs8 b4=>
 some ((φ [Ξ [iv n2,V xs4,V xs5,iv n3,sv s,sv s11,V xs6],iv n4],[ζ (bk [V xs7,iv n5,V xs8,bv b4])])))):=by kernel_rfl
theorem Ahw(s1 s2:Rw)(s3:Int)(s4:Rw)(s5:Bool)(s6:Rw)(s7:Bool)(s8 s9 s10:Rw)(x1:ByteArray)(x2 x3:Int)(p_0:Rw)(p_1:Int)(p_2:Rw)(p_3:Bool):By A D Ag Fh .n 185 O2 [Ξ [δ 0 0,V s1,V s2,iv s3,V s4,bv s5,V s6,bv s7,V s8,V s9,V s10],sv x1,iv x2,iv x3,Arj (Fn.func 186) [Ξ [δ 0 0,V s1,V s2,iv s3,V s4,bv s5,V s6,bv s7,V s8,V s9,V s10]] []] [bk [V p_0,iv p_1,V p_2,bv p_3]] =
 Ae D (Φ 186) [Ξ [δ 0 0,V s1,V s2,iv s3,V s4,bv s5,V s6,bv s7,V s8,V s9,V s10],iv x3] [bk [V p_0,iv p_1,V p_2,bv p_3]] [.t,.A,.I,.L,.L,.I,.S,.S,.L,.N,.I,.N,.T,.L,.I,.L,.B,.N,.E] λn xs xs1 n1 s s11 xs2 n2 xs3 n3 xs4 b=>
 Ae D (Arh 185 0) [Ξ [δ 0 0,V s1,V s2,iv s3,V s4,bv s5,V s6,bv s7,V s8,V s9,V s10],sv x1,iv x2,iv x3,Arj (Fn.func 186) [Ξ [δ 0 0,V s1,V s2,iv s3,V s4,bv s5,V s6,bv s7,V s8,V s9,V s10]] [],δ 1 0,δ 2 0,δ 3 0,iv n2] [bk [V xs3,iv n3,V xs4,bv b],bk [δ 0 0,V s1,V s2,iv s3,V s4,bv s5,V s6,bv s7,V s8,V s9,V s10],bk [iv 0,V [],V [],iv 0,sv (Af []),sv (Af []),V []],bk [iv n,V xs,V xs1,iv n1,sv s,sv s11,V xs2]] [.t,.C,.x,.X,.Y] λc2 l14 o1=>
 br (Bb 1 c2)
 (dk [.A,.P 0 0,.L,.L,.I,.L,.B,.L,.B,.L,.L,.L,.N,.P 2 0,.P 3 0,.I,.N,.T,.L,.I,.L,.B,.N,.D,.T,.I,.L,.L,.I,.X,.Y] [.l l14,.o o1] λ_ _ _ _ _ _ _ _ _ _ n5 xs12 n6 xs13 b3 _ _ _ _ l40 l36=>
 dk [.S,.S,.L,.N,.T,.I,.L,.L,.I,.S,.S,.L,.N,.E] [.l l40,.o l36] λ_ _ _ n9 xs17 xs18 n10 s14 s15 xs19=>
 some ((φ [Ξ [iv n9,V xs17,V xs18,iv n10,sv s14,sv s15,V xs19],iv n5],[ζ (bk [V xs12,iv n6,V xs13,bv b3])])))
 (none):=by kernel_rfl
theorem NZ(t1:ByteArray)(t2 t3:Int)(s1 s2:Rw)(s3:Int)(s4:Rw)(s5:Bool)(s6:Rw)(s7:Bool)(s8 s9 s10 p_0:Rw)(p_1:Int)(p_2:Rw)(p_3:Bool)(a0:Int)(a1 a2:Rw)(a3:Int)(a4 a5:ByteArray)(a6:Rw)(b0:Int)(b1 b2:Rw)(b3:Int)(b4 b5:ByteArray)(b6:Rw)(t13:Int):EH A D Ag Fh .n 185 0 (AW O2 0).fst (AW O2 0).snd [Ξ [δ 0 0,V s1,V s2,iv s3,V s4,bv s5,V s6,bv s7,V s8,V s9,V s10],sv t1,iv t2,iv t3,Arj (Fn.func 186) [Ξ [δ 0 0,V s1,V s2,iv s3,V s4,bv s5,V s6,bv s7,V s8,V s9,V s10]] [],δ 1 0,δ 2 0,δ 3 0,iv t13] [bk [V p_0,iv p_1,V p_2,bv p_3],bk [δ 0 0,V s1,V s2,iv s3,V s4,bv s5,V s6,bv s7,V s8,V s9,V s10],bk [iv a0,V a1,V a2,iv a3,sv a4,sv a5,V a6],bk [iv b0,V b1,V b2,iv b3,sv b4,sv b5,V b6]] =
 br (A.eq t13 0)
 (Ae D (Φ 93) [δ 0 0,sv t1] [bk [V p_0,iv p_1,V p_2,bv p_3]] [.b,.T,.L,.I,.L,.B,.N,.E] λb xs n xs1 b7=>
 br b
 (Ae D (Φ 186) [Ξ [δ 0 0,V s1,V s2,iv s3,V s4,bv s5,V s6,bv s7,V s8,V s9,V s10],iv t3] [bk [V xs,iv n,V xs1,bv b7]] [.t,.A,.I,.L,.L,.I,.S,.S,.L,.N,.I,.N,.T,.L,.I,.L,.B,.N,.E] λn1 xs2 xs3 n2 s s11 xs4 n3 xs5 n4 xs6 b8=>
 br (A.eq n3 0)
 (Ae D (Φ 126) [iv t2,V [[iv b0,V b1,V b2,iv b3,sv b4,sv b5,V b6],[iv n1,V xs2,V xs3,iv n2,sv s,sv s11,V xs4]]] [] [.a,.I,.L,.L,.I,.S,.S,.L,.N,.E] λn5 xs7 xs8 n6 s12 s13 xs9=>
 AD D (Arh 185 0) [Ξ [δ 0 0,V s1,V s2,iv s3,V s4,bv s5,V s6,bv s7,V s8,V s9,V s10],sv t1,iv t2,iv t3,Arj (Fn.func 186) [Ξ [δ 0 0,V s1,V s2,iv s3,V s4,bv s5,V s6,bv s7,V s8,V s9,V s10]] [],δ 1 0,δ 2 0,δ 3 0,iv n3] [bk [V xs5,iv n4,V xs6,bv b8],bk [δ 0 0,V s1,V s2,iv s3,V s4,bv s5,V s6,bv s7,V s8,V s9,V s10],bk [iv a0,V a1,V a2,iv a3,sv a4,sv a5,V a6],bk [iv n5,V xs7,V xs8,iv n6,sv s12,sv s13,V xs9]] λr3 o3=>
 AE 4 [0,1,2,3] (AH.mk [(3,bk [iv n5,V xs7,V xs8,iv n6,sv s12,sv s13,V xs9]),(2,bk [iv a0,V a1,V a2,iv a3,sv a4,sv a5,V a6]),(1,bk [δ 0 0,V s1,V s2,iv s3,V s4,bv s5,V s6,bv s7,V s8,V s9,V s10]),(5,U [iv b0,V b1,V b2,iv b3,sv b4,sv b5,V b6,iv n1,V xs2,V xs3,iv n2,sv s,sv s11,V xs4] false true),(4,bk [iv n1,V xs2,V xs3,iv n2,sv s,sv s11,V xs4]),(0,bk [V xs5,iv n4,V xs6,bv b8])] 6 none) [0,1,2,3] r3 o3)
 (AD D (Arh 185 0) [Ξ [δ 0 0,V s1,V s2,iv s3,V s4,bv s5,V s6,bv s7,V s8,V s9,V s10],sv t1,iv t2,iv t3,Arj (Fn.func 186) [Ξ [δ 0 0,V s1,V s2,iv s3,V s4,bv s5,V s6,bv s7,V s8,V s9,V s10]] [],δ 1 0,δ 2 0,δ 3 0,iv n3] [bk [V xs5,iv n4,V xs6,bv b8],bk [δ 0 0,V s1,V s2,iv s3,V s4,bv s5,V s6,bv s7,V s8,V s9,V s10],bk [iv a0,V a1,V a2,iv a3,sv a4,sv a5,V a6],bk [iv b0,V b1,V b2,iv b3,sv b4,sv b5,V b6]] λr2 o2=>
 AE 4 [0,1,2,3] (AH.mk [(3,bk [iv b0,V b1,V b2,iv b3,sv b4,sv b5,V b6]),(2,bk [iv a0,V a1,V a2,iv a3,sv a4,sv a5,V a6]),(1,bk [δ 0 0,V s1,V s2,iv s3,V s4,bv s5,V s6,bv s7,V s8,V s9,V s10]),(4,bk [iv n1,V xs2,V xs3,iv n2,sv s,sv s11,V xs4]),(0,bk [V xs5,iv n4,V xs6,bv b8])] 5 none) [0,1,2,3] r2 o2))
 (some ((φ [iv 0,Ξ [δ 0 0,V s1,V s2,iv s3,V s4,bv s5,V s6,bv s7,V s8,V s9,V s10],δ 2 0,δ 3 0,iv t13],[ζ (bk [V xs,iv n,V xs1,bv b7]),BO.del,ζ (bk [iv a0,V a1,V a2,iv a3,sv a4,sv a5,V a6]),ζ (bk [iv b0,V b1,V b2,iv b3,sv b4,sv b5,V b6])]))))
 (some ((φ [iv 0,Ξ [δ 0 0,V s1,V s2,iv s3,V s4,bv s5,V s6,bv s7,V s8,V s9,V s10],δ 2 0,δ 3 0,iv t13],[ζ (bk [V p_0,iv p_1,V p_2,bv p_3]),BO.del,ζ (bk [iv a0,V a1,V a2,iv a3,sv a4,sv a5,V a6]),ζ (bk [iv b0,V b1,V b2,iv b3,sv b4,sv b5,V b6])]))):=by kernel_rfl
theorem Ahx(s1 s2:Rw)(s3:Int)(s4:Rw)(s5:Bool)(s6:Rw)(s7:Bool)(s8 s9 s10:Rw)(x1:ByteArray)(x2 x3:Int)(p_0:Rw)(p_1:Int)(p_2:Rw)(p_3:Bool):By A D Ag Fh .n 185 O2 [Ξ [δ 0 0,V s1,V s2,iv s3,V s4,bv s5,V s6,bv s7,V s8,V s9,V s10],sv x1,iv x2,iv x3,Arj (Fn.func 230) [Ξ [δ 0 0,V s1,V s2,iv s3,V s4,bv s5,V s6,bv s7,V s8,V s9,V s10]] []] [bk [V p_0,iv p_1,V p_2,bv p_3]] =
 Ae D (Φ 230) [Ξ [δ 0 0,V s1,V s2,iv s3,V s4,bv s5,V s6,bv s7,V s8,V s9,V s10],iv x3] [bk [V p_0,iv p_1,V p_2,bv p_3]] [.t,.A,.I,.L,.L,.I,.S,.S,.L,.N,.I,.N,.T,.L,.I,.L,.B,.N,.E] λn xs xs1 n1 s s11 xs2 n2 xs3 n3 xs4 b=>
 Ae D (Arh 185 0) [Ξ [δ 0 0,V s1,V s2,iv s3,V s4,bv s5,V s6,bv s7,V s8,V s9,V s10],sv x1,iv x2,iv x3,Arj (Fn.func 230) [Ξ [δ 0 0,V s1,V s2,iv s3,V s4,bv s5,V s6,bv s7,V s8,V s9,V s10]] [],δ 1 0,δ 2 0,δ 3 0,iv n2] [bk [V xs3,iv n3,V xs4,bv b],bk [δ 0 0,V s1,V s2,iv s3,V s4,bv s5,V s6,bv s7,V s8,V s9,V s10],bk [iv 0,V [],V [],iv 0,sv (Af []),sv (Af []),V []],bk [iv n,V xs,V xs1,iv n1,sv s,sv s11,V xs2]] [.t,.C,.x,.X,.Y] λc2 l14 o1=>
 br (Bb 1 c2)
 (dk [.A,.P 0 0,.L,.L,.I,.L,.B,.L,.B,.L,.L,.L,.N,.P 2 0,.P 3 0,.I,.N,.T,.L,.I,.L,.B,.N,.D,.T,.I,.L,.L,.I,.X,.Y] [.l l14,.o o1] λ_ _ _ _ _ _ _ _ _ _ n5 xs12 n6 xs13 b3 _ _ _ _ l40 l36=>
 dk [.S,.S,.L,.N,.T,.I,.L,.L,.I,.S,.S,.L,.N,.E] [.l l40,.o l36] λ_ _ _ n9 xs17 xs18 n10 s14 s15 xs19=>
 some ((φ [Ξ [iv n9,V xs17,V xs18,iv n10,sv s14,sv s15,V xs19],iv n5],[ζ (bk [V xs12,iv n6,V xs13,bv b3])])))
 (none):=by kernel_rfl
theorem N0(t1:ByteArray)(t2 t3:Int)(s1 s2:Rw)(s3:Int)(s4:Rw)(s5:Bool)(s6:Rw)(s7:Bool)(s8 s9 s10 p_0:Rw)(p_1:Int)(p_2:Rw)(p_3:Bool)(a0:Int)(a1 a2:Rw)(a3:Int)(a4 a5:ByteArray)(a6:Rw)(b0:Int)(b1 b2:Rw)(b3:Int)(b4 b5:ByteArray)(b6:Rw)(t13:Int):EH A D Ag Fh .n 185 0 (AW O2 0).fst (AW O2 0).snd [Ξ [δ 0 0,V s1,V s2,iv s3,V s4,bv s5,V s6,bv s7,V s8,V s9,V s10],sv t1,iv t2,iv t3,Arj (Fn.func 230) [Ξ [δ 0 0,V s1,V s2,iv s3,V s4,bv s5,V s6,bv s7,V s8,V s9,V s10]] [],δ 1 0,δ 2 0,δ 3 0,iv t13] [bk [V p_0,iv p_1,V p_2,bv p_3],bk [δ 0 0,V s1,V s2,iv s3,V s4,bv s5,V s6,bv s7,V s8,V s9,V s10],bk [iv a0,V a1,V a2,iv a3,sv a4,sv a5,V a6],bk [iv b0,V b1,V b2,iv b3,sv b4,sv b5,V b6]] =
 br (A.eq t13 0)
 (Ae D (Φ 93) [δ 0 0,sv t1] [bk [V p_0,iv p_1,V p_2,bv p_3]] [.b,.T,.L,.I,.L,.B,.N,.E] λb xs n xs1 b7=>
 br b
 (Ae D (Φ 230) [Ξ [δ 0 0,V s1,V s2,iv s3,V s4,bv s5,V s6,bv s7,V s8,V s9,V s10],iv t3] [bk [V xs,iv n,V xs1,bv b7]] [.t,.A,.I,.L,.L,.I,.S,.S,.L,.N,.I,.N,.T,.L,.I,.L,.B,.N,.E] λn1 xs2 xs3 n2 s s11 xs4 n3 xs5 n4 xs6 b8=>
 br (A.eq n3 0)
 (Ae D (Φ 126) [iv t2,V [[iv b0,V b1,V b2,iv b3,sv b4,sv b5,V b6],[iv n1,V xs2,V xs3,iv n2,sv s,sv s11,V xs4]]] [] [.a,.I,.L,.L,.I,.S,.S,.L,.N,.E] λn5 xs7 xs8 n6 s12 s13 xs9=>
 AD D (Arh 185 0) [Ξ [δ 0 0,V s1,V s2,iv s3,V s4,bv s5,V s6,bv s7,V s8,V s9,V s10],sv t1,iv t2,iv t3,Arj (Fn.func 230) [Ξ [δ 0 0,V s1,V s2,iv s3,V s4,bv s5,V s6,bv s7,V s8,V s9,V s10]] [],δ 1 0,δ 2 0,δ 3 0,iv n3] [bk [V xs5,iv n4,V xs6,bv b8],bk [δ 0 0,V s1,V s2,iv s3,V s4,bv s5,V s6,bv s7,V s8,V s9,V s10],bk [iv a0,V a1,V a2,iv a3,sv a4,sv a5,V a6],bk [iv n5,V xs7,V xs8,iv n6,sv s12,sv s13,V xs9]] λr3 o3=>
 AE 4 [0,1,2,3] (AH.mk [(3,bk [iv n5,V xs7,V xs8,iv n6,sv s12,sv s13,V xs9]),(2,bk [iv a0,V a1,V a2,iv a3,sv a4,sv a5,V a6]),(1,bk [δ 0 0,V s1,V s2,iv s3,V s4,bv s5,V s6,bv s7,V s8,V s9,V s10]),(5,U [iv b0,V b1,V b2,iv b3,sv b4,sv b5,V b6,iv n1,V xs2,V xs3,iv n2,sv s,sv s11,V xs4] false true),(4,bk [iv n1,V xs2,V xs3,iv n2,sv s,sv s11,V xs4]),(0,bk [V xs5,iv n4,V xs6,bv b8])] 6 none) [0,1,2,3] r3 o3)
 (AD D (Arh 185 0) [Ξ [δ 0 0,V s1,V s2,iv s3,V s4,bv s5,V s6,bv s7,V s8,V s9,V s10],sv t1,iv t2,iv t3,Arj (Fn.func 230) [Ξ [δ 0 0,V s1,V s2,iv s3,V s4,bv s5,V s6,bv s7,V s8,V s9,V s10]] [],δ 1 0,δ 2 0,δ 3 0,iv n3] [bk [V xs5,iv n4,V xs6,bv b8],bk [δ 0 0,V s1,V s2,iv s3,V s4,bv s5,V s6,bv s7,V s8,V s9,V s10],bk [iv a0,V a1,V a2,iv a3,sv a4,sv a5,V a6],bk [iv b0,V b1,V b2,iv b3,sv b4,sv b5,V b6]] λr2 o2=>
 AE 4 [0,1,2,3] (AH.mk [(3,bk [iv b0,V b1,V b2,iv b3,sv b4,sv b5,V b6]),(2,bk [iv a0,V a1,V a2,iv a3,sv a4,sv a5,V a6]),(1,bk [δ 0 0,V s1,V s2,iv s3,V s4,bv s5,V s6,bv s7,V s8,V s9,V s10]),(4,bk [iv n1,V xs2,V xs3,iv n2,sv s,sv s11,V xs4]),(0,bk [V xs5,iv n4,V xs6,bv b8])] 5 none) [0,1,2,3] r2 o2))
 (some ((φ [iv 0,Ξ [δ 0 0,V s1,V s2,iv s3,V s4,bv s5,V s6,bv s7,V s8,V s9,V s10],δ 2 0,δ 3 0,iv t13],[ζ (bk [V xs,iv n,V xs1,bv b7]),BO.del,ζ (bk [iv a0,V a1,V a2,iv a3,sv a4,sv a5,V a6]),ζ (bk [iv b0,V b1,V b2,iv b3,sv b4,sv b5,V b6])]))))
 (some ((φ [iv 0,Ξ [δ 0 0,V s1,V s2,iv s3,V s4,bv s5,V s6,bv s7,V s8,V s9,V s10],δ 2 0,δ 3 0,iv t13],[ζ (bk [V p_0,iv p_1,V p_2,bv p_3]),BO.del,ζ (bk [iv a0,V a1,V a2,iv a3,sv a4,sv a5,V a6]),ζ (bk [iv b0,V b1,V b2,iv b3,sv b4,sv b5,V b6])]))):=by kernel_rfl
theorem Apf(s1 s2:Rw)(s3:Int)(s4:Rw)(s5:Bool)(s6:Rw)(s7:Bool)(s8 s9 s10:Rw)(x1:Int)(p_0:Rw)(p_1:Int)(p_2:Rw)(p_3:Bool):By A D Ag Aih .n 186 Ajw [Ξ [δ 0 0,V s1,V s2,iv s3,V s4,bv s5,V s6,bv s7,V s8,V s9,V s10],iv x1] [bk [V p_0,iv p_1,V p_2,bv p_3]] =
 Ae D (Φ 185) [Ξ [δ 0 0,V s1,V s2,iv s3,V s4,bv s5,V s6,bv s7,V s8,V s9,V s10],sv (Af [38]),iv 4,iv x1,Arj (Fn.func 230) [Ξ [δ 0 0,V s1,V s2,iv s3,V s4,bv s5,V s6,bv s7,V s8,V s9,V s10]] []] [bk [V p_0,iv p_1,V p_2,bv p_3]] [.t,.A,.I,.L,.L,.I,.S,.S,.L,.N,.I,.N,.T,.L,.I,.L,.B,.N,.E] λn xs xs1 n1 s s11 xs2 n2 xs3 n3 xs4 b=>
 some ((φ [Ξ [iv n,V xs,V xs1,iv n1,sv s,sv s11,V xs2],iv n2],[ζ (bk [V xs3,iv n3,V xs4,bv b])])):=by kernel_rfl
theorem AoO(s1 s2:Rw)(s3:Int)(s4:Rw)(s5:Bool)(s6:Rw)(s7:Bool)(s8 s9 s10:Rw)(x1:Int)(p_0:Rw)(p_1:Int)(p_2:Rw)(p_3:Bool):By A D Ag AhU .n 125 Ai8 [Ξ [δ 0 0,V s1,V s2,iv s3,V s4,bv s5,V s6,bv s7,V s8,V s9,V s10],iv x1] [bk [V p_0,iv p_1,V p_2,bv p_3]] =
 Ae D (Φ 185) [Ξ [δ 0 0,V s1,V s2,iv s3,V s4,bv s5,V s6,bv s7,V s8,V s9,V s10],sv (Af [124]),iv 5,iv x1,Arj (Fn.func 186) [Ξ [δ 0 0,V s1,V s2,iv s3,V s4,bv s5,V s6,bv s7,V s8,V s9,V s10]] []] [bk [V p_0,iv p_1,V p_2,bv p_3]] [.t,.A,.I,.L,.L,.I,.S,.S,.L,.N,.I,.N,.T,.L,.I,.L,.B,.N,.E] λn xs xs1 n1 s s11 xs2 n2 xs3 n3 xs4 b=>
 some ((φ [Ξ [iv n,V xs,V xs1,iv n1,sv s,sv s11,V xs2],iv n2],[ζ (bk [V xs3,iv n3,V xs4,bv b])])):=by kernel_rfl
theorem AfG(s1 s2:Rw)(s3:Int)(s4:Rw)(s5:Bool)(s6:Rw)(s7:Bool)(s8 s9 s10:Rw)(x1:Int)(p_0:Rw)(p_1:Int)(p_2:Rw)(p_3:Bool):By A D Ag TD .n 230 AjJ [Ξ [δ 0 0,V s1,V s2,iv s3,V s4,bv s5,V s6,bv s7,V s8,V s9,V s10],iv x1] [bk [V p_0,iv p_1,V p_2,bv p_3]] =
 Ae D (Φ 252) [Ξ [δ 0 0,V s1,V s2,iv s3,V s4,bv s5,V s6,bv s7,V s8,V s9,V s10],iv x1] [bk [V p_0,iv p_1,V p_2,bv p_3]] [.t,.A,.I,.L,.L,.I,.S,.S,.L,.N,.I,.N,.T,.L,.I,.L,.B,.N,.E] λn xs xs1 n1 s s11 xs2 n2 xs3 n3 xs4 b=>
 br (A.eq n2 0)
 (Ae D (Φ 93) [δ 0 0,sv (Af [85])] [bk [V xs3,iv n3,V xs4,bv b]] [.b,.T,.L,.I,.L,.B,.N,.E] λb1 xs5 n4 xs6 b2=>
 br b1
 (Ae D (Φ 230) [Ξ [δ 0 0,V s1,V s2,iv s3,V s4,bv s5,V s6,bv s7,V s8,V s9,V s10],iv x1] [bk [V xs5,iv n4,V xs6,bv b2]] [.t,.A,.I,.L,.L,.I,.S,.S,.L,.N,.I,.N,.T,.L,.I,.L,.B,.N,.E] λn5 xs7 xs8 n6 s12 s13 xs9 n7 xs10 n8 xs11 b3=>
 Ae D (Φ 126) [iv 11,V [[iv n,V xs,V xs1,iv n1,sv s,sv s11,V xs2],[iv n5,V xs7,V xs8,iv n6,sv s12,sv s13,V xs9]]] [] [.a,.I,.L,.L,.I,.S,.S,.L,.N,.E] λn9 xs12 xs13 n10 s14 s15 xs14=>
 some ((φ [Ξ [iv n9,V xs12,V xs13,iv n10,sv s14,sv s15,V xs14],iv n7],[ζ (bk [V xs10,iv n8,V xs11,bv b3])])))
 (Ae D (Φ 93) [δ 0 0,sv (Af [82])] [bk [V xs5,iv n4,V xs6,bv b2]] [.b,.T,.L,.I,.L,.B,.N,.E] λb3 xs7 n5 xs8 b4=>
 br b3
 (Ae D (Φ 230) [Ξ [δ 0 0,V s1,V s2,iv s3,V s4,bv s5,V s6,bv s7,V s8,V s9,V s10],iv x1] [bk [V xs7,iv n5,V xs8,bv b4]] [.t,.A,.I,.L,.L,.I,.S,.S,.L,.N,.I,.N,.T,.L,.I,.L,.B,.N,.E] λn6 xs9 xs10 n7 s12 s13 xs11 n8 xs12 n9 xs13 b5=>
 Ae D (Φ 126) [iv 12,V [[iv n,V xs,V xs1,iv n1,sv s,sv s11,V xs2],[iv n6,V xs9,V xs10,iv n7,sv s12,sv s13,V xs11]]] [] [.a,.I,.L,.L,.I,.S,.S,.L,.N,.E] λn10 xs14 xs15 n11 s14 s15 xs16=>
 some ((φ [Ξ [iv n10,V xs14,V xs15,iv n11,sv s14,sv s15,V xs16],iv n8],[ζ (bk [V xs12,iv n9,V xs13,bv b5])])))
 (some ((φ [Ξ [iv n,V xs,V xs1,iv n1,sv s,sv s11,V xs2],iv 0],[ζ (bk [V xs7,iv n5,V xs8,bv b4])])))))
 (some ((φ [Ξ [iv n,V xs,V xs1,iv n1,sv s,sv s11,V xs2],iv n2],[ζ (bk [V xs3,iv n3,V xs4,bv b])]))):=by kernel_rfl
theorem AkJ(s1 s2:Rw)(s3:Int)(s4:Rw)(s5:Bool)(s6:Rw)(s7:Bool)(s8 s9 s10:Rw)(x1:Int)(p_0:Rw)(p_1:Int)(p_2:Rw)(p_3:Bool):By A D Ag Xr (.b (.b (.b (.b (.b (.b (.b (.b (.b .n (.b (.b (.b (.b (.b .n (.b (.b .n (.b .n (.t .n))) .n)) .n) .n) .n) .n)) (.b (.b .n (.b (.b (.b (.b .n (.b (.b .n (.b .n (.f .n))) .n)) .n) .n) .n)) .n)) .n) .n) (.b (.b .n (.b (.b .n (.b (.b (.b (.b (.b .n (.b (.b .n (.b .n (.t .n))) .n)) .n) .n) .n) .n)) (.b (.b .n (.b .n (.b .n (.b .n (.b .n (.b .n (.b .n (.f .n)))))))) .n))) .n)) .n) .n) .n) (.b .n (.b .n (.b .n (.b .n (.b .n (.b (.b .n (.b (.b (.b (.b (.b .n (.b (.b .n (.b .n (.t .n))) .n)) .n) .n) .n) .n)) (.b (.b .n (.b .n (.b .n (.b .n (.b .n (.b .n (.b .n (.f .n)))))))) .n)))))))) 252 AjO [Ξ [δ 0 0,V s1,V s2,iv s3,V s4,bv s5,V s6,bv s7,V s8,V s9,V s10],iv x1] [bk [V p_0,iv p_1,V p_2,bv p_3]] =
 Ae D (Φ 92) [δ 0 0] [bk [V p_0,iv p_1,V p_2,bv p_3]] [.a,.I,.S,.I,.I,.N,.T,.L,.I,.L,.B,.N,.E] λn s n1 n2 xs n3 xs1 b=>
 Ae D (Φ 265) [Ξ [iv n,sv s,iv n1,iv n2]] [] [.i,.E] λn4=>
 br (A.eq n 2)
 (br (A.seq s (Af [40]))
 (br (A.le 0 n4)
 (br (A.eq x1 60)
 (some ((φ [Ξ [iv 0,V [],V [],iv 0,sv (Af []),sv (Af []),V []],iv 102],[ζ (bk [V xs,iv n3,V xs1,bv b])])))
 (br (A.le 0 n4) (AD D (Φ 252) [Ξ [δ 0 0,V s1,V s2,iv s3,V s4,bv s5,V s6,bv s7,V s8,V s9,V s10],iv (A.add Δ x1 1)] [bk [V xs,iv (A.add Δ n3 1),V xs1,bv b]] λr2 o2=>
 dk [.t,.A,.I,.L,.L,.I,.S,.S,.L,.N,.I,.N,.T,.L,.I,.L,.B,.N,.E] [.v r2,.o o2] λn5 xs2 xs3 n6 s11 s12 xs4 n7 xs5 n8 xs6 b1=>
 Ae D (Φ 126) [iv n4,V [[iv n5,V xs2,V xs3,iv n6,sv s11,sv s12,V xs4]]] [] [.a,.I,.L,.L,.I,.S,.S,.L,.N,.E] λn9 xs7 xs8 n10 s13 s14 xs9=>
 some ((φ [Ξ [iv n9,V xs7,V xs8,iv n10,sv s13,sv s14,V xs9],iv n7],[ζ (bk [V xs5,iv n8,V xs6,bv b1])]))) none))
 (br (A.eq x1 60)
 (some ((φ [Ξ [iv 0,V [],V [],iv 0,sv (Af []),sv (Af []),V []],iv 102],[ζ (bk [V xs,iv n3,V xs1,bv b])])))
 (br (A.le 0 n4) none (AD D (Φ 93) [δ 0 0,sv (Af [40])] [bk [V xs,iv n3,V xs1,bv b]] λr2 o2=>
 dk [.b,.T,.L,.I,.L,.B,.N,.E] [.v r2,.o o2] λb1 xs2 n5 xs3 b2=>
 br b1
 (Ae D (Φ 70) [Ξ [δ 0 0,V s1,V s2,iv s3,V s4,bv s5,V s6,bv s7,V s8,V s9,V s10],iv (A.add Δ x1 1)] [bk [V xs2,iv n5,V xs3,bv b2]] [.t,.A,.I,.L,.L,.I,.S,.S,.L,.N,.I,.N,.T,.L,.I,.L,.B,.N,.E] λn6 xs4 xs5 n7 s11 s12 xs6 n8 xs7 n9 xs8 b3=>
 br (A.eq n8 0)
 (Ae D (Φ 248) [δ 0 0,sv (Af [41])] [bk [V xs7,iv n9,V xs8,bv b3]] [.i,.T,.L,.I,.L,.B,.N,.E] λn10 xs9 n11 xs10 b4=>
 some ((φ [Ξ [iv n6,V xs4,V xs5,iv n7,sv s11,sv s12,V xs6],iv n10],[ζ (bk [V xs9,iv n11,V xs10,bv b4])])))
 (some ((φ [Ξ [iv n6,V xs4,V xs5,iv n7,sv s11,sv s12,V xs6],iv n8],[ζ (bk [V xs7,iv n9,V xs8,bv b3])]))))
 (Ae D (Φ 93) [δ 0 0,sv (Af [64])] [bk [V xs2,iv n5,V xs3,bv b2]] [.b,.T,.L,.I,.L,.B,.N,.E] λb3 xs4 n6 xs5 b4=>
 br b3
 (Ae D (Φ 266) [Ξ [δ 0 0,V s1,V s2,iv s3,V s4,bv s5,V s6,bv s7,V s8,V s9,V s10]] [bk [V xs4,iv n6,V xs5,bv b4]] [.t,.A,.I,.L,.L,.I,.S,.S,.L,.N,.I,.N,.T,.L,.I,.L,.B,.N,.E] λn7 xs6 xs7 n8 s11 s12 xs8 n9 xs9 n10 xs10 b5=>
 some ((φ [Ξ [iv n7,V xs6,V xs7,iv n8,sv s11,sv s12,V xs8],iv n9],[ζ (bk [V xs9,iv n10,V xs10,bv b5])])))
 (Ae D (Φ 267) [Ξ [δ 0 0,V s1,V s2,iv s3,V s4,bv s5,V s6,bv s7,V s8,V s9,V s10]] [bk [V xs4,iv n6,V xs5,bv b4]] [.t,.A,.I,.L,.L,.I,.S,.S,.L,.N,.I,.N,.T,.L,.I,.L,.B,.N,.E] λn7 xs6 xs7 n8 s11 s12 xs8 n9 xs9 n10 xs10 b5=>
 some ((φ [Ξ [iv n7,V xs6,V xs7,iv n8,sv s11,sv s12,V xs8],iv n9],[ζ (bk [V xs9,iv n10,V xs10,bv b5])]))))))))
 (br (A.le 0 n4)
 (br (A.eq x1 60)
 (some ((φ [Ξ [iv 0,V [],V [],iv 0,sv (Af []),sv (Af []),V []],iv 102],[ζ (bk [V xs,iv n3,V xs1,bv b])])))
 (br (A.le 0 n4) (AD D (Φ 252) [Ξ [δ 0 0,V s1,V s2,iv s3,V s4,bv s5,V s6,bv s7,V s8,V s9,V s10],iv (A.add Δ x1 1)] [bk [V xs,iv (A.add Δ n3 1),V xs1,bv b]] λr2 o2=>
 dk [.t,.A,.I,.L,.L,.I,.S,.S,.L,.N,.I,.N,.T,.L,.I,.L,.B,.N,.E] [.v r2,.o o2] λn5 xs2 xs3 n6 s11 s12 xs4 n7 xs5 n8 xs6 b1=>
 Ae D (Φ 126) [iv n4,V [[iv n5,V xs2,V xs3,iv n6,sv s11,sv s12,V xs4]]] [] [.a,.I,.L,.L,.I,.S,.S,.L,.N,.E] λn9 xs7 xs8 n10 s13 s14 xs9=>
 some ((φ [Ξ [iv n9,V xs7,V xs8,iv n10,sv s13,sv s14,V xs9],iv n7],[ζ (bk [V xs5,iv n8,V xs6,bv b1])]))) none))
 (br (A.le 0 n4) none (AD D (Φ 93) [δ 0 0,sv (Af [40])] [bk [V xs,iv n3,V xs1,bv b]] λr2 o2=>
 dk [.b,.T,.L,.I,.L,.B,.N,.E] [.v r2,.o o2] λb1 xs2 n5 xs3 b2=>
 br b1
 (Ae D (Φ 70) [Ξ [δ 0 0,V s1,V s2,iv s3,V s4,bv s5,V s6,bv s7,V s8,V s9,V s10],iv (A.add Δ x1 1)] [bk [V xs2,iv n5,V xs3,bv b2]] [.t,.A,.I,.L,.L,.I,.S,.S,.L,.N,.I,.N,.T,.L,.I,.L,.B,.N,.E] λn6 xs4 xs5 n7 s11 s12 xs6 n8 xs7 n9 xs8 b3=>
 br (A.eq n8 0)
 (Ae D (Φ 248) [δ 0 0,sv (Af [41])] [bk [V xs7,iv n9,V xs8,bv b3]] [.i,.T,.L,.I,.L,.B,.N,.E] λn10 xs9 n11 xs10 b4=>
 some ((φ [Ξ [iv n6,V xs4,V xs5,iv n7,sv s11,sv s12,V xs6],iv n10],[ζ (bk [V xs9,iv n11,V xs10,bv b4])])))
 (some ((φ [Ξ [iv n6,V xs4,V xs5,iv n7,sv s11,sv s12,V xs6],iv n8],[ζ (bk [V xs7,iv n9,V xs8,bv b3])]))))
 (Ae D (Φ 93) [δ 0 0,sv (Af [64])] [bk [V xs2,iv n5,V xs3,bv b2]] [.b,.T,.L,.I,.L,.B,.N,.E] λb3 xs4 n6 xs5 b4=>
 br b3
 (Ae D (Φ 266) [Ξ [δ 0 0,V s1,V s2,iv s3,V s4,bv s5,V s6,bv s7,V s8,V s9,V s10]] [bk [V xs4,iv n6,V xs5,bv b4]] [.t,.A,.I,.L,.L,.I,.S,.S,.L,.N,.I,.N,.T,.L,.I,.L,.B,.N,.E] λn7 xs6 xs7 n8 s11 s12 xs8 n9 xs9 n10 xs10 b5=>
 some ((φ [Ξ [iv n7,V xs6,V xs7,iv n8,sv s11,sv s12,V xs8],iv n9],[ζ (bk [V xs9,iv n10,V xs10,bv b5])])))
 (Ae D (Φ 267) [Ξ [δ 0 0,V s1,V s2,iv s3,V s4,bv s5,V s6,bv s7,V s8,V s9,V s10]] [bk [V xs4,iv n6,V xs5,bv b4]] [.t,.A,.I,.L,.L,.I,.S,.S,.L,.N,.I,.N,.T,.L,.I,.L,.B,.N,.E] λn7 xs6 xs7 n8 s11 s12 xs8 n9 xs9 n10 xs10 b5=>
 some ((φ [Ξ [iv n7,V xs6,V xs7,iv n8,sv s11,sv s12,V xs8],iv n9],[ζ (bk [V xs9,iv n10,V xs10,bv b5])]))))))))
 (br (A.le 0 n4)
 (br (A.eq x1 60)
 (some ((φ [Ξ [iv 0,V [],V [],iv 0,sv (Af []),sv (Af []),V []],iv 102],[ζ (bk [V xs,iv n3,V xs1,bv b])])))
 (br (A.le 0 n4) (AD D (Φ 252) [Ξ [δ 0 0,V s1,V s2,iv s3,V s4,bv s5,V s6,bv s7,V s8,V s9,V s10],iv (A.add Δ x1 1)] [bk [V xs,iv (A.add Δ n3 1),V xs1,bv b]] λr2 o2=>
 dk [.t,.A,.I,.L,.L,.I,.S,.S,.L,.N,.I,.N,.T,.L,.I,.L,.B,.N,.E] [.v r2,.o o2] λn5 xs2 xs3 n6 s11 s12 xs4 n7 xs5 n8 xs6 b1=>
 Ae D (Φ 126) [iv n4,V [[iv n5,V xs2,V xs3,iv n6,sv s11,sv s12,V xs4]]] [] [.a,.I,.L,.L,.I,.S,.S,.L,.N,.E] λn9 xs7 xs8 n10 s13 s14 xs9=>
 some ((φ [Ξ [iv n9,V xs7,V xs8,iv n10,sv s13,sv s14,V xs9],iv n7],[ζ (bk [V xs5,iv n8,V xs6,bv b1])]))) none))
 (br (A.le 0 n4) none (AD D (Φ 93) [δ 0 0,sv (Af [40])] [bk [V xs,iv n3,V xs1,bv b]] λr2 o2=>
 dk [.b,.T,.L,.I,.L,.B,.N,.E] [.v r2,.o o2] λb1 xs2 n5 xs3 b2=>
 br b1
 (Ae D (Φ 70) [Ξ [δ 0 0,V s1,V s2,iv s3,V s4,bv s5,V s6,bv s7,V s8,V s9,V s10],iv (A.add Δ x1 1)] [bk [V xs2,iv n5,V xs3,bv b2]] [.t,.A,.I,.L,.L,.I,.S,.S,.L,.N,.I,.N,.T,.L,.I,.L,.B,.N,.E] λn6 xs4 xs5 n7 s11 s12 xs6 n8 xs7 n9 xs8 b3=>
 br (A.eq n8 0)
 (Ae D (Φ 248) [δ 0 0,sv (Af [41])] [bk [V xs7,iv n9,V xs8,bv b3]] [.i,.T,.L,.I,.L,.B,.N,.E] λn10 xs9 n11 xs10 b4=>
 some ((φ [Ξ [iv n6,V xs4,V xs5,iv n7,sv s11,sv s12,V xs6],iv n10],[ζ (bk [V xs9,iv n11,V xs10,bv b4])])))
 (some ((φ [Ξ [iv n6,V xs4,V xs5,iv n7,sv s11,sv s12,V xs6],iv n8],[ζ (bk [V xs7,iv n9,V xs8,bv b3])]))))
 (Ae D (Φ 93) [δ 0 0,sv (Af [64])] [bk [V xs2,iv n5,V xs3,bv b2]] [.b,.T,.L,.I,.L,.B,.N,.E] λb3 xs4 n6 xs5 b4=>
 br b3
 (Ae D (Φ 266) [Ξ [δ 0 0,V s1,V s2,iv s3,V s4,bv s5,V s6,bv s7,V s8,V s9,V s10]] [bk [V xs4,iv n6,V xs5,bv b4]] [.t,.A,.I,.L,.L,.I,.S,.S,.L,.N,.I,.N,.T,.L,.I,.L,.B,.N,.E] λn7 xs6 xs7 n8 s11 s12 xs8 n9 xs9 n10 xs10 b5=>
 some ((φ [Ξ [iv n7,V xs6,V xs7,iv n8,sv s11,sv s12,V xs8],iv n9],[ζ (bk [V xs9,iv n10,V xs10,bv b5])])))
 (Ae D (Φ 267) [Ξ [δ 0 0,V s1,V s2,iv s3,V s4,bv s5,V s6,bv s7,V s8,V s9,V s10]] [bk [V xs4,iv n6,V xs5,bv b4]] [.t,.A,.I,.L,.L,.I,.S,.S,.L,.N,.I,.N,.T,.L,.I,.L,.B,.N,.E] λn7 xs6 xs7 n8 s11 s12 xs8 n9 xs9 n10 xs10 b5=>
 some ((φ [Ξ [iv n7,V xs6,V xs7,iv n8,sv s11,sv s12,V xs8],iv n9],[ζ (bk [V xs9,iv n10,V xs10,bv b5])]))))))):=by kernel_rfl
theorem e70(s1 s2:Rw)(s3:Int)(s4:Rw)(s5:Bool)(s6:Rw)(s7:Bool)(s8 s9 s10:Rw)(x1:Int)(p_0:Rw)(p_1:Int)(p_2:Rw)(p_3:Bool):By A D Ag AfW .n 70 AnW [Ξ [δ 0 0,V s1,V s2,iv s3,V s4,bv s5,V s6,bv s7,V s8,V s9,V s10],iv x1] [bk [V p_0,iv p_1,V p_2,bv p_3]] =
 Ae D (Φ 125) [Ξ [δ 0 0,V s1,V s2,iv s3,V s4,bv s5,V s6,bv s7,V s8,V s9,V s10],iv x1] [bk [V p_0,iv p_1,V p_2,bv p_3]] [.t,.A,.I,.L,.L,.I,.S,.S,.L,.N,.I,.N,.T,.L,.I,.L,.B,.N,.E] λn xs xs1 n1 s s11 xs2 n2 xs3 n3 xs4 b=>
 br (A.eq n2 0)
 (Ae D (Φ 93) [δ 0 0,sv (Af [45,62])] [bk [V xs3,iv n3,V xs4,bv b]] [.b,.T,.L,.I,.L,.B,.N,.E] λb1 xs5 n4 xs6 b2=>
 br b1
 (Ae D (Φ 70) [Ξ [δ 0 0,V s1,V s2,iv s3,V s4,bv s5,V s6,bv s7,V s8,V s9,V s10],iv x1] [bk [V xs5,iv n4,V xs6,bv b2]] [.t,.A,.I,.L,.L,.I,.S,.S,.L,.N,.I,.N,.T,.L,.I,.L,.B,.N,.E] λn5 xs7 xs8 n6 s12 s13 xs9 n7 xs10 n8 xs11 b3=>
 Ae D (Φ 126) [iv 7,V [[iv n,V xs,V xs1,iv n1,sv s,sv s11,V xs2],[iv n5,V xs7,V xs8,iv n6,sv s12,sv s13,V xs9]]] [] [.a,.I,.L,.L,.I,.S,.S,.L,.N,.E] λn9 xs12 xs13 n10 s14 s15 xs14=>
 some ((φ [Ξ [iv n9,V xs12,V xs13,iv n10,sv s14,sv s15,V xs14],iv n7],[ζ (bk [V xs10,iv n8,V xs11,bv b3])])))
 (some ((φ [Ξ [iv n,V xs,V xs1,iv n1,sv s,sv s11,V xs2],iv n2],[ζ (bk [V xs5,iv n4,V xs6,bv b2])]))))
 (some ((φ [Ξ [iv n,V xs,V xs1,iv n1,sv s,sv s11,V xs2],iv n2],[ζ (bk [V xs3,iv n3,V xs4,bv b])]))):=by kernel_rfl
end
def UY:List (Nat × MFn):=[(232,Ui)]
section
open Go.RowKit
def Aja:MFn:=Ce [] 132
def AhW:Hnt:=⟨[],[],[]⟩
def Ajz:MFn:=Ce [] 194
def Aik:Hnt:=⟨[],[],[]⟩
def Ajc:MFn:=Ce [] 134
def AhY:Hnt:=⟨[(132,(.int .i64,[])),(194,(.int .i64,[]))],[],[(13,[.int .i64])]⟩
def Ajb:MFn:=Ce [] 133
def AhX:Hnt:=⟨[(45,(.bool,[])),(46,(.bool,[])),(109,(.bool,[]))],[],[(4,[.int .i64]),(7,[.int .i64,.ls,.ls,.int .i64,.str,.str,.ls]),(12,[.ls]),(17,[.ls]),(23,[.int .i64]),(28,[.str]),(33,[.str]),(36,[.int .i64,.ls,.ls,.int .i64,.str,.str,.ls])]⟩
def Aqh:Bv:=[⟨57,[false,true,true,false,false,false,false,false,false,false,false,false,false,false,false,false,false,false,false,false,false,false,false,false,false,false,false,false,false,false,false,false,false,true,true,true],[],[2],[(0,([false,false,false,false,true],([],[2]))),(1,([],([],[2])))]⟩]
def Agl:MFn:=Ce Aqh 74
def Acg:Hnt:=⟨[(45,(.bool,[])),(74,(.bool,[])),(132,(.int .i64,[])),(133,(.bool,[])),(134,(.bool,[]))],[(0,[(0,([.bool],[.del])),(1,([],[.del]))])],[(10,[.int .i64]),(13,[.ls]),(19,[.int .i64,.ls,.ls,.int .i64,.str,.str,.ls]),(28,[.int .i64,.ls,.ls,.int .i64,.str,.str,.ls]),(33,[.ls]),(38,[.int .i64,.ls,.ls,.int .i64,.str,.str,.ls]),(39,[.int .i64,.ls,.ls,.int .i64,.str,.str,.ls]),(42,[.int .i64]),(44,[.int .i64,.ls,.ls,.int .i64,.str,.str,.ls]),(51,[.int .i64,.ls,.ls,.int .i64,.str,.str,.ls])]⟩
def AnJ:MFn:=Ce [] 36
def Amy:Hnt:=⟨[(74,(.bool,[]))],[],[(3,[.int .i64,.ls,.ls,.int .i64,.str,.str,.ls])]⟩
def Jj:List (Nat × MFn):=[(132,Aja),(194,Ajz),(134,Ajc),(133,Ajb),(74,Agl),(36,AnJ)]
variable (A:Ar) (D:Orc)
theorem AoQ(x0:Int):By A D Ag AhW .n 132 Aja [iv x0] [] =
 br (A.eq x0 0)
 (some ((iv 0,[])))
 (br (A.eq x0 1)
 (some ((iv 0,[])))
 (br (A.eq x0 2)
 (some ((iv 0,[])))
 (br (A.eq x0 6)
 (some ((iv 0,[])))
 (br (A.eq x0 3)
 (some ((iv 1,[])))
 (br (A.eq x0 8)
 (some ((iv 1,[])))
 (br (A.eq x0 9)
 (some ((iv 1,[])))
 (br (A.eq x0 10)
 (some ((iv 1,[])))
 (br (A.eq x0 4)
 (some ((iv 2,[])))
 (br (A.eq x0 5)
 (some ((iv 2,[])))
 (br (A.eq x0 7)
 (some ((iv 2,[])))
 (br (A.eq x0 11)
 (some ((iv 2,[])))
 (br (A.eq x0 12)
 (some ((iv 2,[])))
 (some ((iv (-1),[]))))))))))))))):=by kernel_rfl
theorem Api(x0:Int):By A D Ag Aik .n 194 Ajz [iv x0] [] =
 br (A.eq x0 7)
 (some ((iv 1,[])))
 (br (A.eq x0 5)
 (some ((iv 2,[])))
 (br (A.eq x0 4)
 (some ((iv 3,[])))
 (br (A.eq x0 11)
 (some ((iv 4,[])))
 (br (A.eq x0 12)
 (some ((iv 4,[])))
 (some ((iv 5,[]))))))):=by kernel_rfl
theorem AoS(x0 x1 x2_0:Int)(x2_1 x2_2:Rw)(x2_3:Int)(x2_4 x2_5:ByteArray)(x2_6:Rw):By A D Ag AhY .n 134 Ajc [iv x0,iv x1,Ξ [iv x2_0,V x2_1,V x2_2,iv x2_3,sv x2_4,sv x2_5,V x2_6]] [] =
 Ae D (Φ 194) [iv x0] [] [.i,.E] λn=>
 Ae D (Φ 194) [iv x2_0] [] [.i,.E] λn1=>
 Ae D (Φ 132) [iv x0] [] [.i,.E] λn2=>
 br (A.eq n2 1)
 (br (A.lt n1 5)
 (some ((bv true,[])))
 (some ((bv false,[]))))
 (br (A.eq n n1)
 (br (A.eq n 1)
 (br (A.eq x1 0)
 (br (A.beq true true)
 (some ((bv true,[])))
 (some ((bv false,[]))))
 (br (A.beq true false)
 (some ((bv true,[])))
 (some ((bv false,[])))))
 (br (A.eq n 4)
 (br (A.eq x1 0)
 (br (A.beq true true)
 (some ((bv true,[])))
 (some ((bv false,[]))))
 (br (A.beq true false)
 (some ((bv true,[])))
 (some ((bv false,[])))))
 (br (A.eq x1 0)
 (br (A.beq false true)
 (some ((bv true,[])))
 (some ((bv false,[]))))
 (br (A.beq false false)
 (some ((bv true,[])))
 (some ((bv false,[])))))))
 (br (A.lt n1 n)
 (some ((bv true,[])))
 (some ((bv false,[]))))):=by kernel_rfl
theorem AoR(x0_0:Int)(x0_1 x0_2:Rw)(x0_3:Int)(x0_4 x0_5:ByteArray)(x0_6:Rw):By A D Ag AhX .n 133 Ajb [Ξ [iv x0_0,V x0_1,V x0_2,iv x0_3,sv x0_4,sv x0_5,V x0_6]] [] =
 br (A.eq x0_0 2)
 (Ae D (Φ 46) [Ξ [iv x0_0,V x0_1,V x0_2,iv x0_3,sv x0_4,sv x0_5,V x0_6]] [] [.b,.E] λb=>
 br b
 (some ((bv true,[])))
 (some ((bv false,[]))))
 (br (A.eq x0_0 6)
 (br (A.eq (↑(AZ x0_1)) 0)
 (br (A.eq (↑(AZ x0_2)) 0)
 (br (A.eq x0_3 0)
 (Ae D (Φ 109) [sv x0_4] [] [.b,.E] λb=>
 br b
 (Ae D (Φ 109) [sv x0_5] [] [.b,.E] λb1=>
 br b1
 (some ((bv true,[])))
 (some ((bv false,[]))))
 (some ((bv false,[]))))
 (some ((bv false,[]))))
 (some ((bv false,[]))))
 (some ((bv false,[]))))
 (Ae D (Φ 45) [Ξ [iv x0_0,V x0_1,V x0_2,iv x0_3,sv x0_4,sv x0_5,V x0_6]] [] [.b,.E] λb=>
 br b
 (some ((bv true,[])))
 (some ((bv false,[]))))):=by kernel_rfl
theorem e74(x0_0:Int)(x0_1 x0_2:Rw)(x0_3:Int)(x0_4 x0_5:ByteArray)(x0_6:Rw)(x1:Int):By A D Ag Acg .n 74 Agl [Ξ [iv x0_0,V x0_1,V x0_2,iv x0_3,sv x0_4,sv x0_5,V x0_6],iv x1] [] =
 Ae D (Φ 132) [iv x0_0] [] [.i,.E] λn=>
 br (A.eq (↑(AZ x0_6)) n)
 (br (A.eq n 0)
 (Ae D (Φ 133) [Ξ [iv x0_0,V x0_1,V x0_2,iv x0_3,sv x0_4,sv x0_5,V x0_6]] [] [.b,.E] λb=>
 br b
 (some ((bv true,[])))
 (some ((bv false,[]))))
 (br (A.eq n 1)
 (br (A.lt 60 (A.add Δ x1 1))
 (some ((bv false,[])))
 (Ae D (Φ 45) [Ξ [iv x0_0,V x0_1,V x0_2,iv x0_3,sv x0_4,sv x0_5,V x0_6]] [] [.b,.E] λb=>
 br b
 (Ae D (Arh 74 0) [iv (A.add Δ x1 1),δ 0 0,V x0_6,iv ↑(AZ x0_6),iv 0] [bk [iv x0_0,V x0_1,V x0_2,iv x0_3,sv x0_4,sv x0_5,V x0_6]] [.t,.C,.x,.X,.Y] λc l o2=>
 br (Bb 0 c)
 (dk [.B,.N,.D,.E] [.l l,.o o2] λb1=>
 some ((bv b1,[])))
 (br (Bb 1 c)
 (dk [.N,.D,.E,.w] [.l l,.o o2] λ_=>
 some ((bv true,[])))
 (none)))
 (some ((bv false,[])))))
 (br (A.lt 60 x1)
 (some ((bv false,[])))
 (Ae D (Φ 45) [Ξ [iv x0_0,V x0_1,V x0_2,iv x0_3,sv x0_4,sv x0_5,V x0_6]] [] [.b,.E] λb=>
 br b
 (Ae D (Arh 74 0) [iv x1,δ 0 0,V x0_6,iv ↑(AZ x0_6),iv 0] [bk [iv x0_0,V x0_1,V x0_2,iv x0_3,sv x0_4,sv x0_5,V x0_6]] [.t,.C,.x,.X,.Y] λc l o2=>
 br (Bb 0 c)
 (dk [.B,.N,.D,.E] [.l l,.o o2] λb1=>
 some ((bv b1,[])))
 (br (Bb 1 c)
 (dk [.N,.D,.E,.w] [.l l,.o o2] λ_=>
 some ((bv true,[])))
 (none)))
 (some ((bv false,[])))))))
 (some ((bv false,[]))):=by kernel_rfl
theorem AhF(t1 b2_0:Int)(b2_1 b2_2:Rw)(b2_3:Int)(b2_4 b2_5:ByteArray)(b2_6 t33:Rw)(t34 t35:Int):EH A D Ag Acg .n 74 0 (AW Agl 0).fst (AW Agl 0).snd [iv t1,δ 0 0,V t33,iv t34,iv t35] [bk [iv b2_0,V b2_1,V b2_2,iv b2_3,sv b2_4,sv b2_5,V b2_6]] =
 br (A.lt t35 t34)
 (unI t35 λi=>
 B7 t33 i λcs=>
 dk [.I,.L,.L,.I,.S,.S,.L,.N] [.l cs] λn xs xs1 n1 s s1 xs2=>
 Ae D (Φ 134) [iv b2_0,iv t35,Ξ [iv n,V xs,V xs1,iv n1,sv s,sv s1,V xs2]] [] [.b,.E] λb=>
 br b
 (br (A.lt 60 (A.add Δ t1 1))
 (some ((φ [bv true,bv false],[BO.del])))
 (Ae D (Φ 74) [Ξ [iv n,V xs,V xs1,iv n1,sv s,sv s1,V xs2],iv (A.add Δ t1 1)] [] [.b,.E] λb1=>
 br b1
 (AD D (Arh 74 0) [iv t1,δ 0 0,V t33,iv t34,iv (A.add Δ t35 1)] [bk [iv b2_0,V b2_1,V b2_2,iv b2_3,sv b2_4,sv b2_5,V b2_6]] λr2 o2=>
 AE 1 [0] (AH.mk [(0,bk [iv b2_0,V b2_1,V b2_2,iv b2_3,sv b2_4,sv b2_5,V b2_6]),(1,bk [iv n,V xs,V xs1,iv n1,sv s,sv s1,V xs2])] 2 none) [0] r2 o2)
 (some ((φ [bv true,bv false],[BO.del])))))
 (br (A.lt 60 t1)
 (some ((φ [bv true,bv false],[BO.del])))
 (Ae D (Φ 74) [Ξ [iv n,V xs,V xs1,iv n1,sv s,sv s1,V xs2],iv t1] [] [.b,.E] λb1=>
 br b1
 (AD D (Arh 74 0) [iv t1,δ 0 0,V t33,iv t34,iv (A.add Δ t35 1)] [bk [iv b2_0,V b2_1,V b2_2,iv b2_3,sv b2_4,sv b2_5,V b2_6]] λr2 o2=>
 AE 1 [0] (AH.mk [(0,bk [iv b2_0,V b2_1,V b2_2,iv b2_3,sv b2_4,sv b2_5,V b2_6]),(1,bk [iv n,V xs,V xs1,iv n1,sv s,sv s1,V xs2])] 2 none) [0] r2 o2)
 (some ((φ [bv true,bv false],[BO.del]))))))
 (some ((φ [iv 0],[BO.del]))):=by kernel_rfl
theorem e36(x0_0:Int)(x0_1 x0_2:Rw)(x0_3:Int)(x0_4 x0_5:ByteArray)(x0_6:Rw):By A D Ag Amy .n 36 AnJ [Ξ [iv x0_0,V x0_1,V x0_2,iv x0_3,sv x0_4,sv x0_5,V x0_6]] [] =
 Ae D (Φ 74) [Ξ [iv x0_0,V x0_1,V x0_2,iv x0_3,sv x0_4,sv x0_5,V x0_6],iv 0] [] [.b,.E] λb=>
 br b
 (some ((bv true,[])))
 (some ((bv false,[]))):=by kernel_rfl
end
section
open Go.RowKit
def Am3:Bv:=[⟨21,[true,false,false,true],[],[],[(1,([true,false,false,true],([],[])))]⟩]
def XL:MFn:=Ce Am3 204
def TA:Hnt:=⟨[],[(0,[(1,([.ls,.int .i64],[]))])],[(12,[.int .u32]),(13,[.int .u32])]⟩
def AjA:MFn:=Ce [] 200
def Ail:Hnt:=⟨[(204,(.ls,[])),(240,(.sl 0 1,[.row true]))],[],[]⟩
def Ajg:MFn:=Ce [] 146
def Ah1:Hnt:=⟨[(200,(.ls,[]))],[],[]⟩
def Am4:Bv:=[⟨49,[true,true,false,false,false,true],[],[],[(0,([false,false,false,false,true],([],[]))),(2,([],([],[])))]⟩]
def XM:MFn:=Ce Am4 205
def TC:Hnt:=⟨[(204,(.ls,[]))],[(0,[(0,([.int .i64],[])),(2,([],[]))])],[(32,[.int .u32]),(33,[.int .u32]),(36,[.int .u32]),(37,[.int .u32]),(42,[.int .u32]),(43,[.int .u32]),(46,[.int .u32]),(47,[.int .u32])]⟩
def AmV:Bv:=[⟨61,[false,true,false,false,false,true,true,false,false,false,false,false,false,false,false,false,false,false,false,false,false,false,false,false,false,true,true,true],[(5,1)],[],[(1,([false,false,false,false,false,true,true],([],[])))]⟩]
def XG:MFn:=Ce AmV 149
def Tw:Hnt:=⟨[(200,(.ls,[])),(204,(.ls,[]))],[(0,[(1,([.sl 1 1,.int .u64],[.del,.row true]))])],[(30,[.int .u32]),(31,[.int .u32]),(43,[.int .u32]),(44,[.int .u32])]⟩
def AmW:Bv:=[⟨59,[false,true,false,false,false,false,true,true,false,false,false,false,false,false,false,false,false,false,false,false,false,false,false,true,true,true],[(6,1)],[],[(1,([false,false,false,false,false,false,true],([],[])))]⟩]
def XH:MFn:=Ce AmW 150
def Tx:Hnt:=⟨[(200,(.ls,[])),(204,(.ls,[])),(205,(.int .i64,[]))],[(0,[(1,([.sl 1 1],[.del,.row true]))])],[(28,[.int .u32]),(29,[.int .u32]),(38,[.int .u32]),(39,[.int .u32])]⟩
def Ani:Bv:=[⟨68,[false,true,false,false,false,true,false,false,false,false,false,false,false,false,false,false,false,false,true,true,true],[],[],[(1,([false,false,false,false,false,true],([],[])))]⟩,⟨68,[false,true,false,false,false,true,true,true,true,false,false,false,false,false,false,false,false,false,true,true,true,false,false,false,false,true,true,true],[],[],[(3,([false,true,false,false,false,true,true,false,true,false,false,false,false,false,false,false,false,false,true,true,true],([],[])))]⟩]
def QY:MFn:=Ce Ani 282
def Ni:Hnt:=⟨[(200,(.ls,[]))],[(0,[(1,([.sl 1 1],[.del,.row true]))]),(1,[(3,([.ls,.sl 1 1,.int .i64,.int .u64,.ls,.int .i64,.int .i64],[.del,.row true]))])],[(23,[.int .u32]),(24,[.int .u32]),(30,[.int .u32]),(31,[.int .u32]),(41,[.int .u32]),(42,[.int .u32]),(53,[.int .u32]),(64,[.int .u32])]⟩
def AjV:MFn:=Ce [] 275
def AiE:Hnt:=⟨[(204,(.ls,[])),(282,(.ls,[])),(283,(.ls,[]))],[],[]⟩
def AjC:MFn:=Ce [] 202
def Aca:Hnt:=⟨[],[],[]⟩
def Am2:Bv:=[⟨47,[false,true,false,false,false,false,false,true,true,false,false,false,false,false,false,false,false,false,true,true,true],[(7,1)],[],[(1,([false,false,false,false,false,false,false,true,true],([],[])))]⟩]
def XK:MFn:=Ce Am2 203
def QA:Hnt:=⟨[],[(0,[(1,([.sl 1 1,.int .u64],[.del,.row true]))])],[(22,[.int .u32]),(23,[.int .u32])]⟩
def AmU:Bv:=[⟨49,[true,false,false,false,true,true,true,false,false,false,false,false,false,false,false,false,false,false,true,true],[],[],[(0,([false,false,true,true],([2],[]))),(2,([false,false,false,false,true,true,true],([4],[])))]⟩]
def QU:MFn:=Ce AmU 148
def Fg:Hnt:=⟨[(200,(.ls,[])),(202,(.tup [.int .u32,.bool],[])),(203,(.ls,[]))],[(0,[(0,([.ls,.int .i64],[])),(2,([.ls,.int .u32,.int .u32],[]))])],[]⟩
def Mf:List (Nat × MFn):=[(204,XL),(200,AjA),(146,Ajg),(205,XM),(149,XG),(150,XH),(282,QY),(275,AjV),(202,AjC),(203,XK),(148,QU)]
variable (A:Ar) (D:Orc)
theorem Apl(x0:Rw):By A D Ag TA .n 204 XL [V x0] [] =
 Ae D (Arh 204 0) [V x0,iv ↑(AZ x0)] [] [.t,.C,.x,.X,.Y] λc l o=>
 br (Bb 1 c)
 (dk [.L,.I,.N,.E] [.l l,.o o] λxs n=>
 unI n λi=>
 br (OS 0 i (AZ xs)) (br (Hm 1 xs) (some ((V (JU (J6 xs i) 0),[]))) none) none)
 (none):=by kernel_rfl
theorem Abm(t0:Rw)(t3:Int):EH A D Ag TA .n 204 0 (AW XL 0).fst (AW XL 0).snd [V t0,iv t3] [] =
 br (A.lt 0 t3)
 (unI (A.sub Δ t3 1) λi=>
 B7 t0 i λcs=>
 dk [.J .u32,.N] [.l cs] λn=>
 br (A.eq n 0)
 (AD D (Arh 204 0) [V t0,iv (A.sub Δ t3 1)] [] λr o=>
 AE 0 [] (AH.mk [] 0 none) [] r o)
 (some ((φ [iv 0,V t0,iv t3],[]))))
 (some ((φ [iv 0,V t0,iv t3],[]))):=by kernel_rfl
theorem Apj(x0:Rw):By A D Ag Ail .n 200 AjA [V x0] [] =
 Ae D (Φ 204) [V x0] [] [.l,.E] λxs=>
 Ae D (Φ 240) [V xs] [] [.q 0 1,.R,.X,.E] λn cs=>
 br ((0+n*1).ble cs.length) (some ((V (BC n 1 (ι (n*1) cs)),[]))) none:=by kernel_rfl
theorem AoV(x0:Int):By A D Ag Ah1 .n 146 Ajg [Art (Value.int θ x0)] [] =
 br (A.lt 32 0)
 (none)
 (Ae D (Φ 200) [V [[Art (Value.int κ (A.conv κ x0))],[Art (Value.int κ (A.conv κ (A.shr θ x0 32)))]]] [] [.l,.E] λxs=>
 some ((V xs,[]))):=by kernel_rfl
theorem Apm(x0 x1:Rw):By A D Ag TC .n 205 XM [V x0,V x1] [] =
 Ae D (Φ 204) [V x0] [] [.l,.E] λxs=>
 Ae D (Φ 204) [V x1] [] [.l,.E] λxs1=>
 br (A.lt ↑(AZ xs) ↑(AZ xs1))
 (some ((iv (-1),[])))
 (br (A.lt ↑(AZ xs1) ↑(AZ xs))
 (some ((iv 1,[])))
 (Ae D (Arh 205 0) [V xs,V xs1,iv (A.sub Δ (↑(AZ xs)) 1)] [] [.t,.C,.x,.X,.Y] λc l o2=>
 br (Bb 0 c)
 (dk [.I,.N,.E] [.l l,.o o2] λn=>
 some ((iv n,[])))
 (br (Bb 2 c)
 (Dg l<|
 C8 o2<|
 some ((iv 0,[])))
 (none)))):=by kernel_rfl
theorem Abn(t0 t1:Rw)(t5:Int):EH A D Ag TC .n 205 0 (AW XM 0).fst (AW XM 0).snd [V t0,V t1,iv t5] [] =
 br (A.le 0 t5)
 (unI t5 λi=>
 B7 t0 i λcs=>
 dk [.J .u32,.N] [.l cs] λn=>
 unI t5 λi1=>
 B7 t1 i1 λcs1=>
 dk [.J .u32,.N] [.l cs1] λn1=>
 br (A.lt n n1)
 (some ((φ [bv true,iv (-1)],[])))
 (unI t5 λi2=>
 B7 t0 i2 λcs2=>
 dk [.J .u32,.N] [.l cs2] λn2=>
 unI t5 λi3=>
 B7 t1 i3 λcs3=>
 dk [.J .u32,.N] [.l cs3] λn3=>
 br (A.lt n3 n2)
 (some ((φ [bv true,iv 1],[])))
 (AD D (Arh 205 0) [V t0,V t1,iv (A.sub Δ t5 1)] [] λr o=>
 AE 0 [] (AH.mk [] 0 none) [] r o)))
 (some ((φ [iv 1],[]))):=by kernel_rfl
theorem AoY(x0 x1:Rw):By A D Ag Tw .n 149 XG [V x0,V x1] [] =
 Ae D (Φ 204) [V x0] [] [.l,.E] λxs=>
 Ae D (Φ 204) [V x1] [] [.l,.E] λxs1=>
 br (A.lt ↑(AZ xs) ↑(AZ xs1))
 (unI (A.add Δ (↑(AZ xs1)) 1) λi=>
 br (Bc i 4) (AD D (Arh 149 0) [V xs,π 0 0 0 1,Art (Value.int θ 0),V xs1,iv ↑(AZ xs1),iv 0] [U [] true true] λr2 o2=>
 dk [.t,.C,.x,.X] [.v r2] λc l=>
 br (Bb 1 c)
 (dk [.C,.q 1 1,.J .u64,.N,.D,.R,.X,.E] [.l l,.o o2] λn n1 cs1=>
 br (Bc (n+1) 4) (br ((0+n*1).ble cs1.length) (br ((0+(n+1)*1).ble (ο 0 (ι (0+n*1) cs1)++[Art (Value.int κ (A.conv κ n1))]).length) (AD D (Φ 200) [V (BC (n+1) 1 (ι ((n+1)*1) (ο 0 (ο 0 (ι (0+n*1) cs1)++[Art (Value.int κ (A.conv κ n1))]))))] [] λr3 o3=>
 dk [.l,.E] [.v r3,.o o3] λxs2=>
 some ((V xs2,[]))) none) none) none)
 (none)) none)
 (unI (A.add Δ (↑(AZ xs)) 1) λi=>
 br (Bc i 4) (AD D (Arh 149 0) [V xs1,π 0 0 0 1,Art (Value.int θ 0),V xs,iv ↑(AZ xs),iv 0] [U [] true true] λr2 o2=>
 dk [.t,.C,.x,.X] [.v r2] λc l=>
 br (Bb 1 c)
 (dk [.C,.q 1 1,.J .u64,.N,.D,.R,.X,.E] [.l l,.o o2] λn n1 cs1=>
 br (Bc (n+1) 4) (br ((0+n*1).ble cs1.length) (br ((0+(n+1)*1).ble (ο 0 (ι (0+n*1) cs1)++[Art (Value.int κ (A.conv κ n1))]).length) (AD D (Φ 200) [V (BC (n+1) 1 (ι ((n+1)*1) (ο 0 (ο 0 (ι (0+n*1) cs1)++[Art (Value.int κ (A.conv κ n1))]))))] [] λr3 o3=>
 dk [.l,.E] [.v r3,.o o3] λxs2=>
 some ((V xs2,[]))) none) none) none)
 (none)) none):=by kernel_rfl
theorem Abi(t1:Rw)(n5:Nat)(c5:List AV)(t6:Int)(t25:Rw)(t26 t27:Int):EH A D Ag Tw .n 149 0 (AW XG 0).fst (AW XG 0).snd [V t1,π 0 0 n5 1,Art (Value.int θ t6),V t25,iv t26,iv t27] [{ cells:=c5,st:=true,ex:=true }] =
 br (A.lt t27 t26)
 (unI t27 λi=>
 B7 t25 i λcs=>
 dk [.J .u32,.N] [.l cs] λn=>
 br (A.lt t27 ↑(AZ t1))
 (unI t27 λi1=>
 B7 t1 i1 λcs1=>
 dk [.J .u32,.N] [.l cs1] λn1=>
 br (Bc (n5+1) 4) (br ((0+n5*1).ble c5.length) (br (A.lt 32 0)
 (none)
 (AD D (Arh 149 0) [V t1,π 0 0 (n5+1) 1,Art (Value.int θ (A.shr θ (A.add θ (A.add θ (A.conv θ n) t6) (A.conv θ n1)) 32)),V t25,iv t26,iv (A.add Δ t27 1)] [U (ο 0 (ι (0+n5*1) c5)++[Art (Value.int κ (A.conv κ (A.add θ (A.add θ (A.conv θ n) t6) (A.conv θ n1))))]) true true] λr o=>
 AE 1 [2] (AH.mk [(2,U (ο 0 (ι (0+n5*1) c5)++[Art (Value.int κ (A.conv κ (A.add θ (A.add θ (A.conv θ n) t6) (A.conv θ n1))))]) true true),(1,U [Art (Value.int κ (A.conv κ (A.add θ (A.add θ (A.conv θ n) t6) (A.conv θ n1))))] true true)] 3 none) [0] r o)) none) none)
 (br (Bc (n5+1) 4) (br ((0+n5*1).ble c5.length) (br (A.lt 32 0)
 (none)
 (AD D (Arh 149 0) [V t1,π 0 0 (n5+1) 1,Art (Value.int θ (A.shr θ (A.add θ (A.conv θ n) t6) 32)),V t25,iv t26,iv (A.add Δ t27 1)] [U (ο 0 (ι (0+n5*1) c5)++[Art (Value.int κ (A.conv κ (A.add θ (A.conv θ n) t6)))]) true true] λr o=>
 AE 1 [2] (AH.mk [(2,U (ο 0 (ι (0+n5*1) c5)++[Art (Value.int κ (A.conv κ (A.add θ (A.conv θ n) t6)))]) true true),(1,U [Art (Value.int κ (A.conv κ (A.add θ (A.conv θ n) t6)))] true true)] 3 none) [0] r o)) none) none))
 (some ((φ [iv 0,π 1 0 n5 1,Art (Value.int θ t6)],[BO.del,ζ (U c5 true true)]))):=by kernel_rfl
theorem AoZ(x0 x1:Rw):By A D Ag Tx .n 150 XH [V x0,V x1] [] =
 Ae D (Φ 204) [V x0] [] [.l,.E] λxs=>
 Ae D (Φ 204) [V x1] [] [.l,.E] λxs1=>
 Ae D (Φ 205) [V xs,V xs1] [] [.i,.E] λn=>
 br (A.lt n 0)
 (some ((φ [V [],bv false],[])))
 (br (Bc (AZ xs) 4) (AD D (Arh 150 0) [V xs1,π 0 0 0 1,Art (Value.int θ 0),V xs,iv ↑(AZ xs),iv 0] [U [] true true] λr3 o3=>
 dk [.t,.C,.x,.X] [.v r3] λc l=>
 br (Bb 1 c)
 (dk [.C,.q 1 1,.N,.D,.R,.X,.E] [.l l,.o o3] λn1 cs1=>
 br ((0+n1*1).ble cs1.length) (AD D (Φ 200) [V (BC n1 1 (ι (n1*1) cs1))] [] λr4 o4=>
 SL r4 λxs2=>
 C8 o4<|
 some ((φ [V xs2,bv true],[]))) none)
 (none)) none):=by kernel_rfl
theorem Abj(t1:Rw)(n6:Nat)(c6:List AV)(t7:Int)(t23:Rw)(t24 t25:Int):EH A D Ag Tx .n 150 0 (AW XH 0).fst (AW XH 0).snd [V t1,π 0 0 n6 1,Art (Value.int θ t7),V t23,iv t24,iv t25] [{ cells:=c6,st:=true,ex:=true }] =
 br (A.lt t25 t24)
 (unI t25 λi=>
 B7 t23 i λcs=>
 dk [.J .u32,.N] [.l cs] λn=>
 br (A.lt t25 ↑(AZ t1))
 (unI t25 λi1=>
 B7 t1 i1 λcs1=>
 dk [.J .u32,.N] [.l cs1] λn1=>
 br (A.lt (A.conv θ n) (A.add θ t7 (A.conv θ n1)))
 (br (Bc (n6+1) 4) (br ((0+n6*1).ble c6.length) (AD D (Arh 150 0) [V t1,π 0 0 (n6+1) 1,Art (Value.int θ 1),V t23,iv t24,iv (A.add Δ t25 1)] [U (ο 0 (ι (0+n6*1) c6)++[Art (Value.int κ (A.conv κ (A.sub θ (A.add θ (A.conv θ n) 4294967296) (A.add θ t7 (A.conv θ n1)))))]) true true] λr o=>
 AE 1 [2] (AH.mk [(2,U (ο 0 (ι (0+n6*1) c6)++[Art (Value.int κ (A.conv κ (A.sub θ (A.add θ (A.conv θ n) 4294967296) (A.add θ t7 (A.conv θ n1)))))]) true true),(1,U [Art (Value.int κ (A.conv κ (A.sub θ (A.add θ (A.conv θ n) 4294967296) (A.add θ t7 (A.conv θ n1)))))] true true)] 3 none) [0] r o) none) none)
 (br (Bc (n6+1) 4) (br ((0+n6*1).ble c6.length) (AD D (Arh 150 0) [V t1,π 0 0 (n6+1) 1,Art (Value.int θ 0),V t23,iv t24,iv (A.add Δ t25 1)] [U (ο 0 (ι (0+n6*1) c6)++[Art (Value.int κ (A.conv κ (A.sub θ (A.conv θ n) (A.add θ t7 (A.conv θ n1)))))]) true true] λr o=>
 AE 1 [2] (AH.mk [(2,U (ο 0 (ι (0+n6*1) c6)++[Art (Value.int κ (A.conv κ (A.sub θ (A.conv θ n) (A.add θ t7 (A.conv θ n1)))))]) true true),(1,U [Art (Value.int κ (A.conv κ (A.sub θ (A.conv θ n) (A.add θ t7 (A.conv θ n1)))))] true true)] 3 none) [0] r o) none) none))
 (br (A.lt (A.conv θ n) t7)
 (br (Bc (n6+1) 4) (br ((0+n6*1).ble c6.length) (AD D (Arh 150 0) [V t1,π 0 0 (n6+1) 1,Art (Value.int θ 1),V t23,iv t24,iv (A.add Δ t25 1)] [U (ο 0 (ι (0+n6*1) c6)++[Art (Value.int κ (A.conv κ (A.sub θ (A.add θ (A.conv θ n) 4294967296) t7)))]) true true] λr o=>
 AE 1 [2] (AH.mk [(2,U (ο 0 (ι (0+n6*1) c6)++[Art (Value.int κ (A.conv κ (A.sub θ (A.add θ (A.conv θ n) 4294967296) t7)))]) true true),(1,U [Art (Value.int κ (A.conv κ (A.sub θ (A.add θ (A.conv θ n) 4294967296) t7)))] true true)] 3 none) [0] r o) none) none)
 (br (Bc (n6+1) 4) (br ((0+n6*1).ble c6.length) (AD D (Arh 150 0) [V t1,π 0 0 (n6+1) 1,Art (Value.int θ 0),V t23,iv t24,iv (A.add Δ t25 1)] [U (ο 0 (ι (0+n6*1) c6)++[Art (Value.int κ (A.conv κ (A.sub θ (A.conv θ n) t7)))]) true true] λr o=>
 AE 1 [2] (AH.mk [(2,U (ο 0 (ι (0+n6*1) c6)++[Art (Value.int κ (A.conv κ (A.sub θ (A.conv θ n) t7)))]) true true),(1,U [Art (Value.int κ (A.conv κ (A.sub θ (A.conv θ n) t7)))] true true)] 3 none) [0] r o) none) none)))
 (some ((φ [iv 0,π 1 0 n6 1],[BO.del,ζ (U c6 true true)]))):=by kernel_rfl
theorem ApT(x0 x1:Rw):By A D Ag Ni .n 282 QY [V x0,V x1] [] =
 unI (A.add Δ ↑(AZ x0) ↑(AZ x1)) λi=>
 unI (A.add Δ ↑(AZ x0) ↑(AZ x1)) λi1=>
 br (i.ble i1) (br (Bc i1 4) (AD D (Arh 282 0) [V x1,π 0 0 i 1,V x0,iv ↑(AZ x0),iv 0] [U (CE [Art (Value.int κ 0)] (i*1)) true true] λr o=>
 dk [.t,.C,.x,.X] [.v r] λc l=>
 br (Bb 1 c)
 (dk [.C,.q 1 1,.N,.D,.R,.X,.E] [.l l,.o o] λn cs1=>
 br ((0+n*1).ble cs1.length) (AD D (Φ 200) [V (BC n 1 (ι (n*1) cs1))] [] λr1 o1=>
 SL r1 λxs=>
 C8 o1<|
 some ((V xs,[]))) none)
 (none)) none) none:=by kernel_rfl
theorem Abz(t1:Rw)(n5:Nat)(c5:List AV)(t18:Rw)(t19 t20:Int):EH A D Ag Ni .n 282 0 (AW QY 0).fst (AW QY 0).snd [V t1,π 0 0 n5 1,V t18,iv t19,iv t20] [{ cells:=c5,st:=true,ex:=true }] =
 br (A.lt t20 t19)
 (unI t20 λi=>
 B7 t18 i λcs=>
 dk [.J .u32,.N] [.l cs] λn=>
 Ae D (Arh 282 1) [V t1,π 0 0 n5 1,iv t20,Art (Value.int κ n),Art (Value.int θ 0),V t18,iv t19,iv t20,V t1,iv ↑(AZ t1),iv 0] [U c5 true true] [.t,.C,.x,.X,.Y] λc l1 o=>
 br (Bb 3 c)
 (dk [.L,.C,.q 1 1,.I,.J .u64,.L,.I,.I,.N,.D,.R,.X,.E] [.l l1,.o o] λxs n1 n2 n3 xs1 n4 n6 cs2=>
 unI (A.add Δ n2 ↑(AZ xs)) λi1=>
 br (i1.blt n1) (br ((0+i1*1+1).ble cs2.length) (AD D (Arh 282 0) [V xs,π 0 0 n1 1,V xs1,iv n4,iv (A.add Δ n6 1)] [U (AR cs2 (0+i1*1) [Art (Value.int κ (A.conv κ n3))]) true true] λr1 o1=>
 AE 1 [1] (AH.mk [(1,U (AR cs2 (0+i1*1) [Art (Value.int κ (A.conv κ n3))]) true true)] 2 none) [0] r1 o1) none) none)
 (none))
 (some ((φ [iv 0,π 1 0 n5 1],[BO.del,ζ (U c5 true true)]))):=by kernel_rfl
theorem AbA(t1:Rw)(n5:Nat)(c5:List AV)(t6 t7 t8:Int)(t18:Rw)(t19 t20:Int)(t25:Rw)(t26 t27:Int):EH A D Ag Ni .n 282 1 (AW QY 1).fst (AW QY 1).snd [V t1,π 0 0 n5 1,iv t6,Art (Value.int κ t7),Art (Value.int θ t8),V t18,iv t19,iv t20,V t25,iv t26,iv t27] [{ cells:=c5,st:=true,ex:=true }] =
 br (A.lt t27 t26)
 (unI t27 λi=>
 B7 t25 i λcs=>
 dk [.J .u32,.N] [.l cs] λn=>
 unI (A.add Δ t6 t27) λi1=>
 br (i1.blt n5) (Iw c5 (0+i1*1) 1 λcs1=>
 dk [.J .u32,.N] [.l cs1] λn1=>
 unI (A.add Δ t6 t27) λi2=>
 br (i2.blt n5) (br ((0+i2*1+1).ble c5.length) (br (A.lt 32 0)
 (none)
 (AD D (Arh 282 1) [V t1,π 0 0 n5 1,iv t6,Art (Value.int κ t7),Art (Value.int θ (A.shr θ (A.add θ (A.add θ (A.mul θ (A.conv θ t7) (A.conv θ n)) (A.conv θ n1)) t8) 32)),V t18,iv t19,iv t20,V t25,iv t26,iv (A.add Δ t27 1)] [U (AR c5 (0+i2*1) [Art (Value.int κ (A.conv κ (A.add θ (A.add θ (A.mul θ (A.conv θ t7) (A.conv θ n)) (A.conv θ n1)) t8)))]) true true] λr o=>
 AE 1 [0] (AH.mk [(0,U (AR c5 (0+i2*1) [Art (Value.int κ (A.conv κ (A.add θ (A.add θ (A.mul θ (A.conv θ t7) (A.conv θ n)) (A.conv θ n1)) t8)))]) true true)] 1 none) [0] r o)) none) none) none)
 (some ((φ [iv 2,V t1,π 1 0 n5 1,iv t6,Art (Value.int θ t8),V t18,iv t19,iv t20],[BO.del,ζ (U c5 true true)]))):=by kernel_rfl
theorem ApO(x0 x1:Rw):By A D Ag AiE .n 275 AjV [V x0,V x1] [] =
 Ae D (Φ 204) [V x0] [] [.l,.E] λxs=>
 Ae D (Φ 204) [V x1] [] [.l,.E] λxs1=>
 br (A.lt (↑(AZ xs)) 24)
 (Ae D (Φ 282) [V xs,V xs1] [] [.l,.E] λxs2=>
 some ((V xs2,[])))
 (br (A.lt (↑(AZ xs1)) 24)
 (Ae D (Φ 282) [V xs,V xs1] [] [.l,.E] λxs2=>
 some ((V xs2,[])))
 (Ae D (Φ 283) [V xs,V xs1] [] [.l,.E] λxs2=>
 some ((V xs2,[])))):=by kernel_rfl
theorem Ami(x0:Int):By A D Ag Aca .n 202 AjC [Art (Value.int Atq x0)] [] =
 br (A.le 48 x0)
 (br (A.le x0 57)
 (some ((φ [Art (Value.int κ (A.conv κ (A.sub Atq x0 48))),bv true],[])))
 (some ((φ [Art (Value.int κ (A.conv κ (A.sub Atq x0 48))),bv false],[]))))
 (some ((φ [Art (Value.int κ (A.conv κ (A.sub Atq x0 48))),bv false],[]))):=by kernel_rfl
theorem Amj(x0:Rw)(x1 x2:Int):By A D Ag QA .n 203 XK [V x0,Art (Value.int κ x1),Art (Value.int κ x2)] [] =
 unI (A.add Δ (↑(AZ x0)) 1) λi=>
 br (Bc i 4) (AD D (Arh 203 0) [Art (Value.int κ x1),π 0 0 0 1,Art (Value.int θ (A.conv θ x2)),V x0,iv ↑(AZ x0),iv 0] [U [] true true] λr o=>
 dk [.t,.C,.x,.X] [.v r] λc l=>
 br (Bb 1 c)
 (dk [.C,.q 1 1,.J .u64,.N,.D,.R,.X,.E] [.l l,.o o] λn n1 cs1=>
 br (A.lt 0 n1)
 (br (Bc (n+1) 4) (br ((0+n*1).ble cs1.length) (br ((0+(n+1)*1).ble (ο 0 (ι (0+n*1) cs1)++[Art (Value.int κ (A.conv κ n1))]).length) (some ((V (BC (n+1) 1 (ι ((n+1)*1) (ο 0 (ο 0 (ι (0+n*1) cs1)++[Art (Value.int κ (A.conv κ n1))])))),[]))) none) none) none)
 (br ((0+n*1).ble cs1.length) (some ((V (BC n 1 (ι (n*1) cs1)),[]))) none))
 (none)) none:=by kernel_rfl
theorem Abl(t1:Int)(n7:Nat)(c7:List AV)(t8:Int)(t18:Rw)(t19 t20:Int):EH A D Ag QA .n 203 0 (AW XK 0).fst (AW XK 0).snd [Art (Value.int κ t1),π 0 0 n7 1,Art (Value.int θ t8),V t18,iv t19,iv t20] [{ cells:=c7,st:=true,ex:=true }] =
 br (A.lt t20 t19)
 (unI t20 λi=>
 B7 t18 i λcs=>
 dk [.J .u32,.N] [.l cs] λn=>
 br (Bc (n7+1) 4) (br ((0+n7*1).ble c7.length) (br (A.lt 32 0)
 (none)
 (AD D (Arh 203 0) [Art (Value.int κ t1),π 0 0 (n7+1) 1,Art (Value.int θ (A.shr θ (A.add θ (A.mul θ (A.conv θ n) (A.conv θ t1)) t8) 32)),V t18,iv t19,iv (A.add Δ t20 1)] [U (ο 0 (ι (0+n7*1) c7)++[Art (Value.int κ (A.conv κ (A.add θ (A.mul θ (A.conv θ n) (A.conv θ t1)) t8)))]) true true] λr o=>
 AE 1 [2] (AH.mk [(2,U (ο 0 (ι (0+n7*1) c7)++[Art (Value.int κ (A.conv κ (A.add θ (A.mul θ (A.conv θ n) (A.conv θ t1)) t8)))]) true true),(1,U [Art (Value.int κ (A.conv κ (A.add θ (A.mul θ (A.conv θ n) (A.conv θ t1)) t8)))] true true)] 3 none) [0] r o)) none) none)
 (some ((φ [iv 0,π 1 0 n7 1,Art (Value.int θ t8)],[BO.del,ζ (U c7 true true)]))):=by kernel_rfl
theorem AoX(x0:ByteArray):By A D Ag Fg .n 148 QU [sv x0] [] =
 br (A.lt 4000 ↑(A.slen x0))
 (some ((φ [V [],iv 2],[])))
 (br (A.seq x0 (Af []))
 (some ((φ [V [],iv 20],[])))
 (Ae D (Arh 148 0) [sv x0,Art (Value.slice none 0 0),Art (Value.int κ 0),Art (Value.int κ 1),iv ↑(A.slen x0),iv 0] [] [.t,.C,.x,.X,.Y] λc l o=>
 br (Bb 0 c)
 (dk [.L,.I,.N,.E] [.l l,.o o] λxs n=>
 some ((φ [V xs,iv n],[])))
 (br (Bb 2 c)
 (dk [.L,.J .u32,.J .u32,.N,.E] [.l l,.o o] λxs n n1=>
 Ae D (Φ 203) [V xs,Art (Value.int κ n1),Art (Value.int κ n)] [] [.l,.E] λxs1=>
 Ae D (Φ 200) [V xs1] [] [.l,.E] λxs2=>
 some ((φ [V xs2,iv 0],[])))
 (none)))):=by kernel_rfl
theorem MB(t0:ByteArray)(t4:Rw)(t5 t6 t18 t19:Int):EH A D Ag Fg .n 148 0 (AW QU 0).fst (AW QU 0).snd [sv t0,V t4,Art (Value.int κ t5),Art (Value.int κ t6),iv t18,iv t19] [] =
 br (A.lt t19 t18)
 (unI t19 λi=>
 br (i.blt (A.slen t0)) (AD D (Φ 202) [Art (Value.int Atq (A.sat t0 i))] [] λr o=>
 dk [.t,.J .u32,.B,.N,.E] [.v r,.o o] λn b=>
 br (A.not b)
 (some ((φ [bv true,V [],iv 20],[])))
 (br (A.eq (A.mul κ t6 10) 1000000000)
 (Ae D (Φ 203) [V t4,Art (Value.int κ (A.mul κ t6 10)),Art (Value.int κ (A.add κ (A.mul κ t5 10) n))] [] [.l,.E] λxs=>
 AD D (Arh 148 0) [sv t0,V xs,Art (Value.int κ 0),Art (Value.int κ 1),iv t18,iv (A.add Δ t19 1)] [] λr2 o2=>
 AE 0 [] (AH.mk [] 0 none) [] r2 o2)
 (AD D (Arh 148 0) [sv t0,V t4,Art (Value.int κ (A.add κ (A.mul κ t5 10) n)),Art (Value.int κ (A.mul κ t6 10)),iv t18,iv (A.add Δ t19 1)] [] λr1 o1=>
 AE 0 [] (AH.mk [] 0 none) [] r1 o1))) none)
 (some ((φ [iv 1,V t4,Art (Value.int κ t5),Art (Value.int κ t6)],[]))):=by kernel_rfl
theorem Jt(t0:ByteArray)(t5 t6 t18 t19:Int):EH A D Ag Fg .n 148 0 (AW QU 0).fst (AW QU 0).snd [sv t0,Art (Value.slice none 0 0),Art (Value.int κ t5),Art (Value.int κ t6),iv t18,iv t19] [] =
 br (A.lt t19 t18)
 (unI t19 λi=>
 br (i.blt (A.slen t0)) (AD D (Φ 202) [Art (Value.int Atq (A.sat t0 i))] [] λr o=>
 dk [.t,.J .u32,.B,.N,.E] [.v r,.o o] λn b=>
 br (A.not b)
 (some ((φ [bv true,V [],iv 20],[])))
 (br (A.eq (A.mul κ t6 10) 1000000000)
 (Ae D (Φ 203) [V [],Art (Value.int κ (A.mul κ t6 10)),Art (Value.int κ (A.add κ (A.mul κ t5 10) n))] [] [.l,.E] λxs=>
 AD D (Arh 148 0) [sv t0,V xs,Art (Value.int κ 0),Art (Value.int κ 1),iv t18,iv (A.add Δ t19 1)] [] λr2 o2=>
 AE 0 [] (AH.mk [] 0 none) [] r2 o2)
 (AD D (Arh 148 0) [sv t0,Art (Value.slice none 0 0),Art (Value.int κ (A.add κ (A.mul κ t5 10) n)),Art (Value.int κ (A.mul κ t6 10)),iv t18,iv (A.add Δ t19 1)] [] λr1 o1=>
 AE 0 [] (AH.mk [] 0 none) [] r1 o1))) none)
 (some ((φ [iv 1,V [],Art (Value.int κ t5),Art (Value.int κ t6)],[]))):=by kernel_rfl
end
section
open Go.RowKit
def Ajf:MFn:=Ce [] 145
def Ah0:Hnt:=⟨[(200,(.ls,[]))],[],[]⟩
def AjE:MFn:=Ce [] 209
def Aio:Hnt:=⟨[(145,(.agg [.bool,.ls],[]))],[],[(4,[.bool]),(6,[.ls])]⟩
def AnX:MFn:=Ce [] 84
def AmJ:Hnt:=⟨[(145,(.agg [.bool,.ls],[])),(146,(.ls,[]))],[],[]⟩
def AnZ:MFn:=Ce [] 86
def AmL:Hnt:=⟨[(145,(.agg [.bool,.ls],[]))],[],[(4,[.bool]),(7,[.ls])]⟩
def Ajn:MFn:=Ce [] 158
def Ah8:Hnt:=⟨[(209,(.agg [.bool,.ls],[]))],[],[(3,[.bool,.ls]),(7,[.bool]),(10,[.ls])]⟩
def Aj0:MFn:=Ce [] 285
def AiJ:Hnt:=⟨[(158,(.int .i64,[])),(205,(.int .i64,[]))],[],[(7,[.bool,.ls]),(9,[.bool,.ls]),(23,[.ls]),(25,[.ls]),(28,[.ls]),(30,[.ls])]⟩
def An0:MFn:=Ce [] 87
def AmM:Hnt:=⟨[(145,(.agg [.bool,.ls],[])),(149,(.ls,[])),(150,(.tup [.ls,.bool],[]))],[],[(10,[.bool]),(12,[.bool]),(15,[.bool]),(17,[.ls]),(19,[.ls]),(24,[.ls]),(26,[.ls]),(32,[.bool]),(37,[.ls]),(39,[.ls]),(44,[.bool])]⟩
def AjQ:MFn:=Ce [] 264
def Aiz:Hnt:=⟨[(145,(.agg [.bool,.ls],[])),(275,(.ls,[]))],[],[(6,[.bool]),(8,[.bool]),(11,[.ls]),(13,[.ls])]⟩
def AnY:MFn:=Ce [] 85
def AmK:Hnt:=⟨[(145,(.agg [.bool,.ls],[])),(147,(.tup [.str,.bool],[])),(148,(.tup [.ls,.int .i64],[]))],[],[]⟩
def Ajh:MFn:=Ce [] 147
def Ah2:Hnt:=⟨[(201,(.tup [.str,.bool],[]))],[],[]⟩
def AjB:MFn:=Ce [] 201
def Aim:Hnt:=⟨[(241,(.bool,[]))],[],[]⟩
def AjL:MFn:=Ce [] 241
def Aiv:Hnt:=⟨[],[],[]⟩
def Rp:List (Nat × MFn):=[(145,Ajf),(209,AjE),(84,AnX),(86,AnZ),(158,Ajn),(285,Aj0),(87,An0),(264,AjQ),(85,AnY),(147,Ajh),(201,AjB),(241,AjL)]
variable (A:Ar) (D:Orc)
theorem AoU(x0:Bool)(x1:Rw):By A D Ag Ah0 (.b (.t (.t (.b (.t .n) (.t .n)))) (.f (.f (.f .n)))) 145 Ajf [bv x0,V x1] [] =
 Ae D (Φ 200) [V x1] [] [.l,.E] λxs=>
 br x0
 (br x0 (br x0 (br (A.lt 0 ↑(AZ xs))
 (br x0 (some ((Ξ [bv true,V xs],[]))) none)
 (br x0 (some ((Ξ [bv false,V xs],[]))) none)) none) none)
 (br x0 none (br x0 none (br x0 none (some ((Ξ [bv false,V xs],[])))))):=by kernel_rfl
theorem Apr(x0_0:Bool)(x0_1:Rw):By A D Ag Aio .n 209 AjE [Ξ [bv x0_0,V x0_1]] [] =
 Ae D (Φ 145) [bv x0_0,V x0_1] [] [.a,.B,.L,.N,.E] λb xs=>
 some ((Ξ [bv b,V xs],[])):=by kernel_rfl
theorem e84(x0:Int):By A D Ag AmJ .n 84 AnX [iv x0] [] =
 br (A.lt x0 0)
 (Ae D (Φ 146) [Art (Value.int θ (A.add θ (A.conv θ (A.sub Δ 0 (A.add Δ x0 1))) 1))] [] [.l,.E] λxs=>
 Ae D (Φ 145) [bv true,V xs] [] [.a,.B,.L,.N,.E] λb xs1=>
 some ((Ξ [bv b,V xs1],[])))
 (Ae D (Φ 146) [Art (Value.int θ (A.conv θ x0))] [] [.l,.E] λxs=>
 Ae D (Φ 145) [bv false,V xs] [] [.a,.B,.L,.N,.E] λb xs1=>
 some ((Ξ [bv b,V xs1],[]))):=by kernel_rfl
theorem e86(x0_0:Bool)(x0_1:Rw):By A D Ag AmL .n 86 AnZ [Ξ [bv x0_0,V x0_1]] [] =
 br (A.not x0_0)
 (Ae D (Φ 145) [bv true,V x0_1] [] [.a,.B,.L,.N,.E] λb xs=>
 some ((Ξ [bv b,V xs],[])))
 (Ae D (Φ 145) [bv false,V x0_1] [] [.a,.B,.L,.N,.E] λb xs=>
 some ((Ξ [bv b,V xs],[]))):=by kernel_rfl
theorem Ao5(x0_0:Bool)(x0_1:Rw):By A D Ag Ah8 .n 158 Ajn [Ξ [bv x0_0,V x0_1]] [] =
 Ae D (Φ 209) [Ξ [bv x0_0,V x0_1]] [] [.a,.B,.L,.N,.E] λb xs=>
 br b
 (some ((iv (-1),[])))
 (br (A.lt 0 ↑(AZ xs))
 (some ((iv 1,[])))
 (some ((iv 0,[])))):=by kernel_rfl
theorem ApV(x0_0:Bool)(x0_1:Rw)(x1_0:Bool)(x1_1:Rw):By A D Ag AiJ .n 285 Aj0 [Ξ [bv x0_0,V x0_1],Ξ [bv x1_0,V x1_1]] [] =
 Ae D (Φ 158) [Ξ [bv x0_0,V x0_1]] [] [.i,.E] λn=>
 Ae D (Φ 158) [Ξ [bv x1_0,V x1_1]] [] [.i,.E] λn1=>
 br (A.lt n n1)
 (some ((iv (-1),[])))
 (br (A.lt n1 n)
 (some ((iv 1,[])))
 (br (A.lt n 0)
 (Ae D (Φ 205) [V x1_1,V x0_1] [] [.i,.E] λn2=>
 some ((iv n2,[])))
 (Ae D (Φ 205) [V x0_1,V x1_1] [] [.i,.E] λn2=>
 some ((iv n2,[]))))):=by kernel_rfl
theorem e87(x0_0:Bool)(x0_1:Rw)(x1_0:Bool)(x1_1:Rw):By A D Ag AmM .n 87 An0 [Ξ [bv x0_0,V x0_1],Ξ [bv x1_0,V x1_1]] [] =
 br (A.beq x0_0 x1_0)
 (Ae D (Φ 149) [V x0_1,V x1_1] [] [.l,.E] λxs=>
 Ae D (Φ 145) [bv x0_0,V xs] [] [.a,.B,.L,.N,.E] λb xs1=>
 some ((Ξ [bv b,V xs1],[])))
 (Ae D (Φ 150) [V x0_1,V x1_1] [] [.t,.L,.B,.N,.E] λxs b=>
 br b
 (Ae D (Φ 145) [bv x0_0,V xs] [] [.a,.B,.L,.N,.E] λb1 xs1=>
 some ((Ξ [bv b1,V xs1],[])))
 (Ae D (Φ 150) [V x1_1,V x0_1] [] [.t,.L,.B,.N,.E] λxs1 _=>
 Ae D (Φ 145) [bv x1_0,V xs1] [] [.a,.B,.L,.N,.E] λb2 xs2=>
 some ((Ξ [bv b2,V xs2],[])))):=by kernel_rfl
theorem ApI(x0_0:Bool)(x0_1:Rw)(x1_0:Bool)(x1_1:Rw):By A D Ag Aiz .n 264 AjQ [Ξ [bv x0_0,V x0_1],Ξ [bv x1_0,V x1_1]] [] =
 br (A.not (A.beq x0_0 x1_0))
 (Ae D (Φ 275) [V x0_1,V x1_1] [] [.l,.E] λxs=>
 Ae D (Φ 145) [bv true,V xs] [] [.a,.B,.L,.N,.E] λb xs1=>
 some ((Ξ [bv b,V xs1],[])))
 (Ae D (Φ 275) [V x0_1,V x1_1] [] [.l,.E] λxs=>
 Ae D (Φ 145) [bv false,V xs] [] [.a,.B,.L,.N,.E] λb xs1=>
 some ((Ξ [bv b,V xs1],[]))):=by kernel_rfl
theorem e85(x0:ByteArray):By A D Ag AmK .n 85 AnY [sv x0] [] =
 Ae D (Φ 147) [sv x0,sv (Af [45])] [] [.t,.S,.B,.N,.E] λs b=>
 Ae D (Φ 148) [sv s] [] [.t,.L,.I,.N,.E] λxs n=>
 br (A.eq n 0)
 (Ae D (Φ 145) [bv b,V xs] [] [.a,.B,.L,.N,.E] λb1 xs1=>
 some ((φ [Ξ [bv b1,V xs1],iv 0],[])))
 (some ((φ [Ξ [bv false,V []],iv n],[]))):=by kernel_rfl
theorem AoW(x0 x1:ByteArray):By A D Ag Ah2 .n 147 Ajh [sv x0,sv x1] [] =
 Ae D (Φ 201) [sv x0,sv x1] [] [.t,.S,.B,.N,.E] λs b=>
 some ((φ [sv s,bv b],[])):=by kernel_rfl
theorem Apk(x0 x1:ByteArray):By A D Ag Aim .n 201 AjB [sv x0,sv x1] [] =
 Ae D (Φ 241) [sv x0,sv x1] [] [.b,.E] λb=>
 br b
 (br (OS (A.slen x1) (A.slen x0) (A.slen x0)) (some ((φ [sv (A.ssub x0 (A.slen x1) (A.slen x0)),bv true],[]))) none)
 (some ((φ [sv x0,bv false],[]))):=by kernel_rfl
theorem Apz(x0 x1:ByteArray):By A D Ag Aiv .n 241 AjL [sv x0,sv x1] [] =
 br (A.le ↑(A.slen x1) ↑(A.slen x0))
 (br (OS 0 (A.slen x1) (A.slen x0)) (br (A.seq (A.ssub x0 0 (A.slen x1)) x1)
 (some ((bv true,[])))
 (some ((bv false,[])))) none)
 (some ((bv false,[]))):=by kernel_rfl
end
end
end Go.Proofs.YtlmhajfbpplpoaaGreat
