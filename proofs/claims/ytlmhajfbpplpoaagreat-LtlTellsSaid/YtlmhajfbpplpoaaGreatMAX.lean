/- LtlTells answers true. L -/
import Derived.Test.YtlmhajfbpplpoaaGreatMAW
import Derived.ScopeJumps
import Derived.WalkMore
set_option linter.all false
open Bool renaming false->Θ,true->U
open List renaming getD_eq_getElem?_getD->Av1,getElem?_eq_getElem->Ω,mem_cons->AvK,not_mem_nil->Axp
open Nat renaming add_assoc->AvQ,lt_succ_self->AvS
open Option renaming some->V
namespace Go.Proofs.YtlmhajfbpplpoaaGreat
open Lib renaming hid->θ
open Tryz renaming prog->π
open Go.RowKit
section
variable {D:Orc} (Kk:Knows Ak YD D)
include Kk
theorem Wu(qs:List Pp)(hl:qs.length<=1000000)(g:∀ p∈qs,D.ask (.fn 41) [.agg (EE p),.agg (EE p)] []=V (bv U,[])):∀(m i:Nat),qs.length-i=m->D.ask (.lp 9 0) [.ls (qs.map EE),.ls (qs.map EE),iv (qs.length:Int),iv (i:Int)] []=V (.tup [iv 0],[]):=by
 intro m
 induction m with
 |zero=>
  intro i hi;refine Ax Kk hn9 (Aqn ..) ?_;exact Am rfl
 |succ m ih=>
  intro i hi;have hlt:i<qs.length:=by omega
  have ih:=ih (i+1) (by omega);have gx:=g qs[i] (List.getElem_mem hlt);have hn1:∀ kk,A4 (qs.map EE) i kk=kk (EE qs[i]):=λkk=>Az (Ω hlt) kk
  refine Ax Kk hn9 (Aqn ..) ?_;refine Ao ?_;revert gx hn1;generalize qs[i]=x;obtain⟨a,b,c,⟨k,t,e,ks⟩⟩:=x;intro gx hn1;simp only[Cm,eN]at gx hn1;simp only[AA,hn1,Ae];refine Aa gx ?_;simp only[Ae];rw[Bn (by omega)];refine Aa ih ?_;rfl
theorem Abv(Kl:Knows Ak NX D)(Kt:Knows Ak Fi D)(N:LexN D)(Kx:Knows Ak Wr D)(Ke:Knows Ak Qq D)(S:SumF D)(Km:Knows Ak Wq D)(Ks:Knows Ak Wp D)(Kv:Knows Ak La D)(K4:Knows Ak TX D)
  (ha:D.ask (.fn 30) [] []=V (bv U,[])) (y:Sy)
  (gR:∀ t:Tr,WzT t->WzP t->E2 t<=1000000->SyB y->D.ask (.fn 34) [.agg (BH t),.agg (Gj y)] []=V (Oe (II y t),[]))
  (gQ:∀ t:Tr,WzT t->WzP t->E2 t<=1000000->SyB y->D.ask (.fn 35) [.agg (BH t),.agg (Gj y)] []=V (Oe (II y t),[]))
  (gP:∀ p:Pp,PpOk p->D.ask (.fn 41) [.agg (EE p),.agg (EE p)] []=V (bv U,[]))
  (gr':∀ t:Tr,WzT t->WzP t->D.ask (.fn 37) [.agg (BH t),iv 0] []=V (bv (AO t 0),[]))
  (gt':∀ t:Tr,WzT t->WzP t->(AO t 0=U->(BP t).length<=1000000000000)->D.ask (.fn 39) [.agg (BH t)] []=V (sv (Ag (if AO t 0 then BP t else [])),[]))
  (t:Tr) (hz:WzT t) (hp:WzP t):D.ask (.fn 9) [.agg (BH t),.agg (Gj y)] []=V (bv U,[]):=by
 obtain⟨n,gn,gn1,gn2⟩:=AjS Ks _ t (AvS _) hz 100 (by omega);have gf:=An4 Kv y;have gr:=G8 Kl Kt N t hz hp;have gr':=gr' t hz hp;have gR:=λh b=>gR t hz hp h b
 have gQ:=λh b=>gQ t hz hp h b
 have hnc:=ZY t;have gno:=AcX Km Kl Kt N t hz hp;have gtx:=Uh Km Kl Kx Kt N Ke S t hz hp;have gt':=gt' t hz hp;have hsm:=X2 _ t 0 (AvS _);have hQ:∀ f qs,II y t=V (f,qs)->E2 t<=1000000->RkOk f/\qs.length<=1000000/\∀ p∈qs,PpOk p:=λf qs h hn=>by
  have hg:=He y t [] (by simp);unfold II at h;split at h
  .rename_i hr
   obtain⟨f',h1,h2⟩:=Option.map_eq_some_iff.1 h;have hk:=Aae y _ t 0 (AvS _) hr [] f' h1
   cases h2
   exact⟨hk,by have:=hg.1;simp at this;omega,hg.2⟩
  .cases h
 obtain⟨k,l,r,o,p,q,ks⟩:=t;rw[BH]at gn gr gr' gR gQ gno gtx gt';refine Aq Kk hn9 (e9 ..) ?_;refine Aa ha ?_;simp only[Ae];refine Aa gn ?_;simp only[Ae]
 by_cases h2:100<n
 .exact Ao rfl
 refine Am ?_;have hc:=gn2 (by omega);refine Aa gf ?_;simp only[Ae]
 cases hfb:Aet y with
 |false=>exact Bm rfl
 |true=>
  have hf:=UD.1 hfb;have hB:SyB y:=⟨by have:=hf.v;omega,by have:=hf.p;omega,λp hp=>by have:=hf.q p hp;omega⟩;have gR:=gR (by omega) hB;have gQ:=gQ (by omega) hB;have hQ:=λf qs h=>hQ f qs h (by omega)
  have gt':=gt' λh=>by have:=hsm h;omega
  have gT:D.ask (.fn 38) [.agg [iv k,.ls (l.map C4),.ls (r.map C4),iv o,sv p,sv q,.ls (KD ks)]] []=V (sv (Ag (if AO (.mk k l r o p q ks) 0 then BP (.mk k l r o p q ks) else [])),[]):=by
   cases hr:AO (.mk k l r o p q ks) 0 with
   |false=>exact gno hr
   |true=>exact gtx hr (by have:=hsm hr;omega)
  rw[show Gj y=[.ls (y.vars.map eS),.ls y.s2,iv y.s3,.ls y.s4,bv y.s5,.ls y.s6,bv y.s7,.ls y.s8,.ls (y.ps.map O3),.ls y.s10] from rfl]at gR gQ;clear gno gtx gn gf ha hsm gn1 gn2;revert gR gQ gr gr' gt' gT hQ;generalize II y (.mk k l r o p q ks)=Q;generalize AO (.mk k l r o p q ks) 0=z;generalize (if z then BP (.mk k l r o p q ks) else [])=tx;intro gr gr' gR gQ hQ gt' gT;refine Af ?_;have fin:∀(x:Bool),Ai.not (Ai.beq x x)=Θ:=λx=>by cases x<;>rfl
  cases Q with
  |none=>
   have gs:D.ask (.fn 40) [.agg [iv 0,iv 0,.ls []],.agg [iv 0,iv 0,.ls []]] []=V (bv U,[]):=R3 K4 _ (.mk 0 0 []) (AvS _) (.mk (by simp) (by simp) (by simp));have gl:=Wu Kk [] (by simp) (by simp) _ 0 rfl;simp only[Oe]at gR gQ;refine Aa gR ?_;simp only[Ae];refine Aa gQ ?_;simp only[Ae];refine Aa gr ?_;simp only[Ae]
   cases z with
   |true=>
    refine Af ?_;refine Aa gr' ?_;simp only[fin,Ll,QO,Ae];refine Aa gT ?_;simp only[Ae];refine Aa gt' ?_;simp only[Ae];refine CI rfl ?_;refine Aa gs ?_;simp only[Ae];refine Aw ?_ rfl;refine Aa gl ?_;rfl
   |false=>
    refine Bm ?_;refine Aa gr' ?_;simp only[fin,Ll,QO,Ae];refine Aa gT ?_;simp only[Ae];refine Aa gt' ?_;simp only[Ae];refine CI rfl ?_;refine Aa gs ?_;simp only[Ae];refine Aw ?_ rfl;refine Aa gl ?_;rfl
  |some w=>
   obtain⟨f,qs⟩:=w;obtain⟨h1,h2,h3⟩:=hQ f qs rfl;have gs:=R3 K4 _ f (AvS _) h1;have gl:=Wu Kk qs h2 (λp hp=>gP p (h3 p hp)) _ 0 rfl;obtain⟨fk,fn,fks⟩:=f;simp only[Oe,eG]at gR gQ gs;refine Aa gR ?_;simp only[Ae];refine Aa gQ ?_;simp only[Ae];refine Aa gr ?_;simp only[Ae]
   cases z with
   |true=>
    refine Af ?_;refine Aa gr' ?_;simp only[fin,Ll,QO,Ae];refine Aa gT ?_;simp only[Ae];refine Aa gt' ?_;simp only[Ae];refine CI rfl ?_;refine Aa gs ?_;simp only[Ae];refine Aw ?_ rfl;rw[Aj];refine Aa gl ?_;rfl
   |false=>
    refine Bm ?_;refine Aa gr' ?_;simp only[fin,Ll,QO,Ae];refine Aa gT ?_;simp only[Ae];refine Aa gt' ?_;simp only[Ae];refine CI rfl ?_;refine Aa gs ?_;simp only[Ae];refine Aw ?_ rfl;rw[Aj];refine Aa gl ?_;rfl
end
def Adq(n:Nat):Nat:=if 97<=n/\n<=122 then 1 else if 48<=n/\n<=57 then 2 else if n=95 then 3 else if [88,71,70,85,82].contains n then 4 else if [32,9,10,35].contains n then 5 else if [40,41,44,59,58,46,43,42,38,124,33,64,61,60,62,47,45].contains n then 6 else 0
def ED(c:UInt8):Nat:=Adq c.toNat
set_option maxRecDepth 100000 in
set_option maxHeartbeats 8000000 in
theorem Dl(c:UInt8)(b:Int)(w:World)(hb:b=(c.toNat:Int)):Calls π 97 #[.int .u8 b] w λe w'=>e=.returned (.int .i64 (ED c))/\w=w':=by
 subst hb;have hc:=c.toNat_lt;obtain⟨m,hm⟩:∃ m,ED c=m:=⟨_,rfl⟩;rw[hm];have hm:Adq c.toNat=m:=hm;generalize c.toNat=n at *
 by_cases h1:97<=n/\n<=122
 .obtain rfl:1=m:=by rw[←hm];unfold Adq;rw[Ac h1]
  have z1:(97:Int)<=(n:Int):=by omega
  have z2:(n:Int)<=122:=by omega
  clear hm h1
  go_enter Tryz.func97,Tryz.ntmps97
  go_wp2
  go_ret
  exact⟨rfl,rfl⟩
 by_cases h2:48<=n/\n<=57
 .obtain rfl:2=m:=by rw[←hm];unfold Adq;rw[Ad h1,Ac h2]
  have z1:¬ (97:Int)<=(n:Int):=by omega
  have z2:(48:Int)<=(n:Int):=by omega
  have z3:(n:Int)<=57:=by omega
  clear hm h1 h2
  go_enter Tryz.func97,Tryz.ntmps97
  go_wp2
  go_ret
  exact⟨rfl,rfl⟩
 by_cases h3:n∈[95,88,71,70,85,82,32,9,10,35,40,41,44,59,58,46,43,42,38,124,33,64,61,60,62,47,45]
 .simp only[AvK,Axp,or_false]at h3
  clear h1 h2 hc;rcases h3 with rfl|rfl|rfl|rfl|rfl|rfl|rfl|rfl|rfl|rfl|rfl|rfl|rfl|rfl|rfl|rfl|rfl|rfl|rfl|rfl|rfl|rfl|rfl|rfl|rfl|rfl|rfl
  all_goals
   subst hm
   go_enter Tryz.func97,Tryz.ntmps97
   go_wp2
   go_ret
   exact⟨rfl,rfl⟩
 .simp only[AvK,Axp,or_false,not_or]at h3
  obtain⟨n95,n88,n71,n70,n85,n82,n32,n9,n10,n35,n40,n41,n44,n59,n58,n46,n43,n42,n38,n124,n33,n64,n61,n60,n62,n47,n45⟩:=h3;obtain rfl:0=m:=by
   rw[←hm];unfold Adq;rw[Ad h1,Ad h2];simp[n95,n88,n71,n70,n85,n82,n32,n9,n10,n35,n40,n41,n44,n59,n58,n46,n43,n42,n38,n124,n33,n64,n61,n60,n62,n47,n45]
  have q95:((n:Int) == 95)=Θ:=by rw[beq_eq_false_iff_ne];omega
  have q88:((n:Int) == 88)=Θ:=by rw[beq_eq_false_iff_ne];omega
  have q71:((n:Int) == 71)=Θ:=by rw[beq_eq_false_iff_ne];omega
  have q70:((n:Int) == 70)=Θ:=by rw[beq_eq_false_iff_ne];omega
  have q85:((n:Int) == 85)=Θ:=by rw[beq_eq_false_iff_ne];omega
  have q82:((n:Int) == 82)=Θ:=by rw[beq_eq_false_iff_ne];omega
  have q32:((n:Int) == 32)=Θ:=by rw[beq_eq_false_iff_ne];omega
  have q9:((n:Int) == 9)=Θ:=by rw[beq_eq_false_iff_ne];omega
  have q10:((n:Int) == 10)=Θ:=by rw[beq_eq_false_iff_ne];omega
  have q35:((n:Int) == 35)=Θ:=by rw[beq_eq_false_iff_ne];omega
  have q40:((n:Int) == 40)=Θ:=by rw[beq_eq_false_iff_ne];omega
  have q41:((n:Int) == 41)=Θ:=by rw[beq_eq_false_iff_ne];omega
  have q44:((n:Int) == 44)=Θ:=by rw[beq_eq_false_iff_ne];omega
  have q59:((n:Int) == 59)=Θ:=by rw[beq_eq_false_iff_ne];omega
  have q58:((n:Int) == 58)=Θ:=by rw[beq_eq_false_iff_ne];omega
  have q46:((n:Int) == 46)=Θ:=by rw[beq_eq_false_iff_ne];omega
  have q43:((n:Int) == 43)=Θ:=by rw[beq_eq_false_iff_ne];omega
  have q42:((n:Int) == 42)=Θ:=by rw[beq_eq_false_iff_ne];omega
  have q38:((n:Int) == 38)=Θ:=by rw[beq_eq_false_iff_ne];omega
  have q124:((n:Int) == 124)=Θ:=by rw[beq_eq_false_iff_ne];omega
  have q33:((n:Int) == 33)=Θ:=by rw[beq_eq_false_iff_ne];omega
  have q64:((n:Int) == 64)=Θ:=by rw[beq_eq_false_iff_ne];omega
  have q61:((n:Int) == 61)=Θ:=by rw[beq_eq_false_iff_ne];omega
  have q60:((n:Int) == 60)=Θ:=by rw[beq_eq_false_iff_ne];omega
  have q62:((n:Int) == 62)=Θ:=by rw[beq_eq_false_iff_ne];omega
  have q47:((n:Int) == 47)=Θ:=by rw[beq_eq_false_iff_ne];omega
  have q45:((n:Int) == 45)=Θ:=by rw[beq_eq_false_iff_ne];omega
  clear hm n95 n88 n71 n70 n85 n82 n32 n9 n10 n35 n40 n41 n44 n59 n58 n46 n43 n42 n38 n124 n33 n64 n61 n60 n62 n47 n45;have hr:n<48\/(57<n/\n<97)\/122<n:=by omega
  clear h1 h2 hc;rcases hr with r|⟨r1,r2⟩|r
  .have z1:¬ (97:Int)<=(n:Int):=by omega
   have z2:¬ (48:Int)<=(n:Int):=by omega
   clear r
   go_enter Tryz.func97,Tryz.ntmps97
   go_wp2
   go_ret
   exact⟨rfl,rfl⟩
  .have z1:¬ (97:Int)<=(n:Int):=by omega
   have z2:(48:Int)<=(n:Int):=by omega
   have z3:¬ (n:Int)<=57:=by omega
   clear r1 r2
   go_enter Tryz.func97,Tryz.ntmps97
   go_wp2
   go_ret
   exact⟨rfl,rfl⟩
  .have z1:(97:Int)<=(n:Int):=by omega
   have z2:¬ (n:Int)<=122:=by omega
   have z3:(48:Int)<=(n:Int):=by omega
   have z4:¬ (n:Int)<=57:=by omega
   clear r
   go_enter Tryz.func97,Tryz.ntmps97
   go_wp2
   go_ret
   exact⟨rfl,rfl⟩
theorem MG(c:UInt8):(ED c == 2)=B9 c/\(ED c == 1)=Gl c/\(decide (1<=ED c)&&decide (ED c<=3))=Eh c:=by
 have:∀ n:Fin 256,(ED (UInt8.ofNat n) == 2)=B9 (UInt8.ofNat n)/\(ED (UInt8.ofNat n) == 1)=Gl (UInt8.ofNat n)/\(decide (1<=ED (UInt8.ofNat n))&&decide (ED (UInt8.ofNat n)<=3))=Eh (UInt8.ofNat n):=by decide +kernel
 have:=this ⟨c.toNat,c.toNat_lt⟩;simpa using this
def Near(p:Nat × Nat)(i:Nat):Prop:=1<=p.1/\1<=p.2/\p.1<=i+1/\p.2<=i+1
theorem Near.small{p:Nat × Nat}{i:Nat}(h:Near p i)(hi:i<=20000):Small p:=by
 obtain⟨h1,h2,h3,h4⟩:=h;exact⟨h1,h2,by omega,by omega⟩
theorem Near.step{p:Nat × Nat}{i:Nat}(h:Near p i)(c:UInt8):Near (OL p c) (i+1):=by
 obtain⟨h1,h2,h3,h4⟩:=h;unfold OL;split
 .exact⟨by omega,by omega,by omega,by omega⟩
 .exact⟨by omega,by omega,by omega,by omega⟩
theorem Near.adv:∀(l:List UInt8) {p:Nat × Nat} {i:Nat},Near p i->Near (adv p l) (i+l.length)
 |[],_,_,h=>h
 |c::l,p,i,h=>by
  have:=Near.adv l (h.step c);rw[List.length_cons,show i+(l.length+1)=i+1+l.length by omega];exact this
theorem WT(p:Nat × Nat)(l m:List UInt8):adv p (l++m)=adv (adv p l) m:=List.foldl_append
theorem Ac3(p:Nat × Nat)(l:List UInt8)(c:UInt8):adv p (l++[c])=OL (adv p l) c:=by rw[WT];rfl
theorem SV(s:ByteArray)(j:Nat)(h:j<s.size):s.data.toList.drop j=BV s j::s.data.toList.drop (j+1):=by
 have h':j<s.data.toList.length:=by simpa using h
 rw[List.drop_eq_getElem_cons h'];unfold BV;rw[Av1,Ω h'];rfl
theorem Aj7(s:ByteArray)(i n:Nat)(h:i+n<s.size):(s.data.toList.drop i).take (n+1)=(s.data.toList.drop i).take n++[BV s (i+n)]:=by
 have h':n<(s.data.toList.drop i).length:=by simpa using Nat.lt_sub_of_add_lt (by omega)
 rw[List.take_succ_eq_append_getElem h',List.getElem_drop];unfold BV;rw[Av1,Ω (by simpa using h)];rfl
def Cb(r:Bool)(s:ByteArray)(j:Nat):Nat:=Rs r (s.data.toList.drop j)
def CR(s:ByteArray)(i:Nat)(p:Nat × Nat)(n:Nat):Nat × Nat:=adv p ((s.data.toList.drop i).take n)
theorem D1(s:ByteArray)(i n:Nat)(p:Nat × Nat)(h:i+n<s.size):OL (CR s i p n) (BV s (i+n))=CR s i p (n+1):=by
 unfold CR;rw[Aj7 s i n h,Ac3]
theorem FY(s:ByteArray)(i n:Nat)(p:Nat × Nat)(hp:Near p i)(h:i+n<=s.size):Near (CR s i p n) (i+n):=by
 have:=Near.adv ((s.data.toList.drop i).take n) hp
 rwa [List.length_take,List.length_drop,Array.length_toList,Nat.min_eq_left (by show n<=s.size-i;omega)]at this
theorem Aa5(r:Bool)(s:ByteArray):Cb r s s.size=0:=by
 unfold Cb;rw[List.drop_of_length_le (by simp)]
 cases r<;>rfl
theorem G0(r:Bool)(s:ByteArray)(j:Nat)(h:j<s.size):Cb r s j=if(BV s j).toNat=10 then Cb Θ s (j+1)+1 else if r then Cb U s (j+1)+1 else if(BV s j).toNat=35 then Cb U s (j+1)+1 else if(BV s j).toNat=32\/(BV s j).toNat=9 then Cb Θ s (j+1)+1 else 0:=by
 unfold Cb;rw[SV s j h];rfl
theorem Oh{P:Program}{a:Act}{w:World}{Q:Exit->Act->World->Prop}{R X:Code}(l:Nat)(J:Act->World->Prop)(μ:Act->World->Nat)(hl:findLabel (R.seq ((Code.label l).seq X)) l=V (Code.skip.seq X))
  (first:R.wp P (Exit.then J λ_ _ _=>False) a w) (pass:∀ a w,J a w->X.wp P (Exit.jump l (λa' w'=>J a' w'/\μ a' w'<μ a w) Q) a w):(Code.scope (R.seq ((Code.label l).seq X))).wp P Q a w:=
 wp_scope_jumps l J μ hl (wp_seq (wp_mono first (by
  intro e a w h
  cases e<;>first
   |exact wp_seq (wp_label (wp_mono (pass a w h) (by intro e a w h;cases e<;>first|exact h|exact⟨h.1,h.2.1⟩)))
   |exact h.elim))) (λa w hJ=>wp_seq (wp_skip (pass a w hJ)))
def ApM(s:ByteArray)(g i:Nat)(p:Nat × Nat)(w:World)(a:Act)(W:World):Prop:=
 ∃(n:Nat) (r:Bool) (u3 u4 u5 u6 u7 u8 u9 u10 u11 u12 u13 u14 u15 u16 u17 u18 u19 u20 u21 u22 u23 u24 u25 u26 u27 u28 u29 u30 u31 u32:Value),a={ tmps:=#[.pointer (V ⟨g,0,none⟩),undef,.bool r,u3,u4,u5,u6,u7,u8,u9,u10,u11,u12,u13,u14,u15,u16,u17,u18,u19,u20,u21,u22,u23,u24,u25,u26,u27,u28,u29,u30,u31,u32],defers:=[] }/\i+n<=s.size/\n+Cb r s (i+n)=Cb Θ s i/\Rd W g s (i+n) (CR s i p n)/\w.grownBy W (V g)
def P5(g:Nat)(W:World):Nat:=match W.cell? ⟨g,1,none⟩ with|some (.int _ n)=>n.toNat|_=>0
theorem Dp{W:World}{g:Nat}{s:ByteArray}{j:Nat}{q:Nat × Nat}(h:Rd W g s j q):P5 g W=j:=by
 unfold P5;rw[h.cells.2.1];simp
set_option maxRecDepth 100000 in
set_option maxHeartbeats 4000000 in
theorem AgW(s:ByteArray)(g i:Nat)(p:Nat × Nat)(w:World)(hs:s.size<=20000)(hi:i<=s.size)(hp:Near p i)(hr:Rd w g s i p) :
  Calls π 160 #[.pointer (V ⟨g,0,none⟩)] w λe w'=>e=.returned (.tuple #[])/\Rd w' g s (i+Cb Θ s i) (CR s i p (Cb Θ s i))/\w.grownBy w' (V g):=by
 have HR:=θ hr;have HP:=θ hp;clear hr hp
 go_enter Tryz.func160,Tryz.ntmps160
 go_wp2_with fail
 refine Oh 0 (ApM s g i p w) (λ_ W=>s.size-P5 g W) rfl ?first ?pass
 case first=>
  go_wp2
  exact⟨0,Θ,undef,undef,undef,undef,undef,undef,undef,undef,undef,undef,undef,undef,undef,undef,undef,undef,undef,undef,undef,undef,undef,undef,undef,undef,undef,undef,undef,undef,undef,undef,rfl,hi,by simp,by simpa[CR,adv]using HR.out,A2 (Below.refl _ _)⟩
 case pass=>
  rintro a W ⟨n,r,u3,u4,u5,u6,u7,u8,u9,u10,u11,u12,u13,u14,u15,u16,u17,u18,u19,u20,u21,u22,u23,u24,u25,u26,u27,u28,u29,u30,u31,u32,rfl,hn,hgap,hrd,hgr⟩;have HRT:=θ (Dp hrd);obtain⟨c0,c1,_⟩:=hrd.cells;have HRD:=θ hrd;have HGR:=θ hgr;have HGAP:=θ hgap;have HPN:=θ (FY s i n p HP.out hn);clear hrd hgr hgap;have l0:g<W.heap.size:=BQ c0
  by_cases he:i+n=s.size
  .have hq:(((i+n:Nat):Int) == (s.size:Int))=U:=by rw[he];simp
   have HG0:=θ (Aa5 r s);have HE:=θ he;clear he;generalize hj:i+n=j at *;have HJ:=θ hj;clear hj
   go_wp2_with fail
   refine AZ (by kernel_rfl) (by kernel_rfl) ?_
   repeat (go_big_quiet_step (fail))
   refine wpQuiet_nil ?_;rintro _ ⟨y,rfl⟩;have hb:=Bi W y;generalize later W y=W1 at *
   go_wp2
   dsimp only[Exit.jump];have hz:n=Cb Θ s i:=by have:=HGAP.out;rw[HE.out,HG0.out]at this;omega
   refine bodyPost_ret (results_none rfl _ _ _) rfl ⟨rfl,?_,Bl HGR.out (A2 hb)⟩;rw[←hz,HJ.out];exact Blk.call HRD.out hb
  .have hlt:i+n<s.size:=by omega
   have hq:(((i+n:Nat):Int) == (s.size:Int))=Θ:=by rw[beq_eq_false_iff_ne];omega
   have q0:((i+n:Nat):Int)<(s.size:Int):=by omega
   clear he;have h35:True:=trivial;have hr32:True:=trivial;have hr9:True:=trivial
   by_cases h10:(BV s (i+n)).toNat=10
   .have q10:(((BV s (i+n)).toNat:Int) == 10)=U:=by rw[h10];rfl
    have HG:=θ (show Cb r s (i+n)=Cb Θ s (i+n+1)+1 by rw[G0 r s (i+n) hlt];rw[Ac h10]);clear h10 h35 hr32 hr9
    go_wp2_with fail
    refine AZ (by kernel_rfl) (by kernel_rfl) ?_
    repeat (go_big_quiet_step (fail))
    refine wpQuiet_nil ?_;rintro _ ⟨y,rfl⟩;have hb:=Bi W y;generalize later W y=W1 at *;have HB:=θ hb;clear hb
    go_wp2_with fail
    refine(FN s g _ _ W1 (Blk.call HRD.out HB.out)).mono ?_;rintro e w' ⟨rfl,hb2⟩;have HB2:=θ (Bb HB.out hb2);clear hb2
    go_wp2_with fail
    refine(Fb s g _ _ w' (by omega) hlt (HPN.out.small (by omega)) (Blk.call HRD.out HB2.out)).mono ?_;rintro e w2 ⟨rfl,hrd2,hg2⟩;have HRD2:=θ hrd2;have HG2:=θ hg2;clear hrd2 hg2
    go_wp2
    go_step3
    refine⟨rfl,⟨n+1,Θ,_,_,_,_,_,_,_,_,_,_,_,_,_,_,_,_,_,_,_,_,_,_,_,_,_,_,_,_,_,_,rfl,by omega,?_,?_,Bl (Bl HGR.out (A2 HB2.out)) HG2.out⟩,?_⟩
    .have h1:=HGAP.out
     rw[HG.out]at h1;rw[←AvQ i n 1];omega
    .have h1:=HRD2.out
     rw[D1 s i n p hlt,AvQ]at h1;exact h1
    .rw[HRT.out,Dp HRD2.out]
     omega
   .cases r with
    |true=>
     have q10:(((BV s (i+n)).toNat:Int) == 10)=Θ:=by rw[beq_eq_false_iff_ne];omega
     have HG:=θ (show Cb U s (i+n)=Cb U s (i+n+1)+1 by rw[G0 U s (i+n) hlt];rw[Ad h10,Ac rfl]);clear h10 h35 hr32 hr9
     go_wp2_with fail
     refine AZ (by kernel_rfl) (by kernel_rfl) ?_
     repeat (go_big_quiet_step (fail))
     refine wpQuiet_nil ?_;rintro _ ⟨y,rfl⟩;have hb:=Bi W y;generalize later W y=W1 at *;have HB:=θ hb;clear hb
     go_wp2_with fail
     refine(FN s g _ _ W1 (Blk.call HRD.out HB.out)).mono ?_;rintro e w' ⟨rfl,hb2⟩;have HB2:=θ (Bb HB.out hb2);clear hb2
     go_wp2_with fail
     refine(Fb s g _ _ w' (by omega) hlt (HPN.out.small (by omega)) (Blk.call HRD.out HB2.out)).mono ?_;rintro e w2 ⟨rfl,hrd2,hg2⟩;have HRD2:=θ hrd2;have HG2:=θ hg2;clear hrd2 hg2
     go_wp2
     go_step3
     refine⟨rfl,⟨n+1,U,_,_,_,_,_,_,_,_,_,_,_,_,_,_,_,_,_,_,_,_,_,_,_,_,_,_,_,_,_,_,rfl,by omega,?_,?_,Bl (Bl HGR.out (A2 HB2.out)) HG2.out⟩,?_⟩
     .have h1:=HGAP.out
      rw[HG.out]at h1;rw[←AvQ i n 1];omega
     .have h1:=HRD2.out
      rw[D1 s i n p hlt,AvQ]at h1;exact h1
     .rw[HRT.out,Dp HRD2.out]
      omega
    |false=>
     clear h35 hr32 hr9
     by_cases h35:(BV s (i+n)).toNat=35
     .have hr32:True:=trivial
      have hr9:True:=trivial;have q10:(((BV s (i+n)).toNat:Int) == 10)=Θ:=by rw[beq_eq_false_iff_ne];omega
      have q35:(((BV s (i+n)).toNat:Int) == 35)=U:=by rw[h35];rfl
      have HG:=θ (show Cb Θ s (i+n)=Cb U s (i+n+1)+1 by rw[G0 Θ s (i+n) hlt];rw[Ad h10,Ad (by decide),Ac h35]);clear h10 h35 hr32 hr9
      go_wp2_with fail
      refine AZ (by kernel_rfl) (by kernel_rfl) ?_
      repeat (go_big_quiet_step (fail))
      refine wpQuiet_nil ?_;rintro _ ⟨y,rfl⟩;have hb:=Bi W y;generalize later W y=W1 at *;have HB:=θ hb;clear hb
      go_wp2_with fail
      refine(FN s g _ _ W1 (Blk.call HRD.out HB.out)).mono ?_;rintro e w' ⟨rfl,hb2⟩;have HB2:=θ (Bb HB.out hb2);clear hb2
      go_wp2_with fail
      refine(Fb s g _ _ w' (by omega) hlt (HPN.out.small (by omega)) (Blk.call HRD.out HB2.out)).mono ?_;rintro e w2 ⟨rfl,hrd2,hg2⟩;have HRD2:=θ hrd2;have HG2:=θ hg2;clear hrd2 hg2
      go_wp2
      go_step3
      refine⟨rfl,⟨n+1,U,_,_,_,_,_,_,_,_,_,_,_,_,_,_,_,_,_,_,_,_,_,_,_,_,_,_,_,_,_,_,rfl,by omega,?_,?_,Bl (Bl HGR.out (A2 HB2.out)) HG2.out⟩,?_⟩
      .have h1:=HGAP.out
       rw[HG.out]at h1;rw[←AvQ i n 1];omega
      .have h1:=HRD2.out
       rw[D1 s i n p hlt,AvQ]at h1;exact h1
      .rw[HRT.out,Dp HRD2.out]
       omega
     .by_cases hr32:(BV s (i+n)).toNat=32
      .have hr9:True:=trivial
       have q10:(((BV s (i+n)).toNat:Int) == 10)=Θ:=by rw[beq_eq_false_iff_ne];omega
       have q35:(((BV s (i+n)).toNat:Int) == 35)=Θ:=by rw[beq_eq_false_iff_ne];omega
       have q32:(((BV s (i+n)).toNat:Int) != 32)=Θ:=by rw[hr32];rfl
       have HG:=θ (show Cb Θ s (i+n)=Cb Θ s (i+n+1)+1 by rw[G0 Θ s (i+n) hlt];rw[Ad h10,Ad (by decide),Ad h35,Ac (.inl hr32)]);clear h10 h35 hr32 hr9
       go_wp2_with fail
       refine AZ (by kernel_rfl) (by kernel_rfl) ?_
       repeat (go_big_quiet_step (fail))
       refine wpQuiet_nil ?_;rintro _ ⟨y,rfl⟩;have hb:=Bi W y;generalize later W y=W1 at *;have HB:=θ hb;clear hb
       go_wp2_with fail
       refine(FN s g _ _ W1 (Blk.call HRD.out HB.out)).mono ?_;rintro e w' ⟨rfl,hb2⟩;have HB2:=θ (Bb HB.out hb2);clear hb2
       go_wp2_with fail
       refine(Fb s g _ _ w' (by omega) hlt (HPN.out.small (by omega)) (Blk.call HRD.out HB2.out)).mono ?_;rintro e w2 ⟨rfl,hrd2,hg2⟩;have HRD2:=θ hrd2;have HG2:=θ hg2;clear hrd2 hg2
       go_wp2
       go_step3
       refine⟨rfl,⟨n+1,Θ,_,_,_,_,_,_,_,_,_,_,_,_,_,_,_,_,_,_,_,_,_,_,_,_,_,_,_,_,_,_,rfl,by omega,?_,?_,Bl (Bl HGR.out (A2 HB2.out)) HG2.out⟩,?_⟩
       .have h1:=HGAP.out
        rw[HG.out]at h1;rw[←AvQ i n 1];omega
       .have h1:=HRD2.out
        rw[D1 s i n p hlt,AvQ]at h1;exact h1
       .rw[HRT.out,Dp HRD2.out]
        omega
      .by_cases hr9:(BV s (i+n)).toNat=9
       .have q10:(((BV s (i+n)).toNat:Int) == 10)=Θ:=by rw[beq_eq_false_iff_ne];omega
        have q35:(((BV s (i+n)).toNat:Int) == 35)=Θ:=by rw[beq_eq_false_iff_ne];omega
        have q32:(((BV s (i+n)).toNat:Int) != 32)=U:=by rw[bne_iff_ne];omega
        have q9:(((BV s (i+n)).toNat:Int) != 9)=Θ:=by rw[hr9];rfl
        have HG:=θ (show Cb Θ s (i+n)=Cb Θ s (i+n+1)+1 by rw[G0 Θ s (i+n) hlt];rw[Ad h10,Ad (by decide),Ad h35,Ac (.inr hr9)]);clear h10 h35 hr32 hr9
        go_wp2_with fail
        refine AZ (by kernel_rfl) (by kernel_rfl) ?_
        repeat (go_big_quiet_step (fail))
        refine wpQuiet_nil ?_;rintro _ ⟨y,rfl⟩;have hb:=Bi W y;generalize later W y=W1 at *;have HB:=θ hb;clear hb
        go_wp2_with fail
        refine(FN s g _ _ W1 (Blk.call HRD.out HB.out)).mono ?_;rintro e w' ⟨rfl,hb2⟩;have HB2:=θ (Bb HB.out hb2);clear hb2
        go_wp2_with fail
        refine(Fb s g _ _ w' (by omega) hlt (HPN.out.small (by omega)) (Blk.call HRD.out HB2.out)).mono ?_;rintro e w2 ⟨rfl,hrd2,hg2⟩;have HRD2:=θ hrd2;have HG2:=θ hg2;clear hrd2 hg2
        go_wp2
        go_step3
        refine⟨rfl,⟨n+1,Θ,_,_,_,_,_,_,_,_,_,_,_,_,_,_,_,_,_,_,_,_,_,_,_,_,_,_,_,_,_,_,rfl,by omega,?_,?_,Bl (Bl HGR.out (A2 HB2.out)) HG2.out⟩,?_⟩
        .have h1:=HGAP.out
         rw[HG.out]at h1;rw[←AvQ i n 1];omega
        .have h1:=HRD2.out
         rw[D1 s i n p hlt,AvQ]at h1;exact h1
        .rw[HRT.out,Dp HRD2.out]
         omega
       .have q10:(((BV s (i+n)).toNat:Int) == 10)=Θ:=by rw[beq_eq_false_iff_ne];omega
        have q35:(((BV s (i+n)).toNat:Int) == 35)=Θ:=by rw[beq_eq_false_iff_ne];omega
        have q32:(((BV s (i+n)).toNat:Int) != 32)=U:=by rw[bne_iff_ne];omega
        have q9:(((BV s (i+n)).toNat:Int) != 9)=U:=by rw[bne_iff_ne];omega
        have HG:=θ (show Cb Θ s (i+n)=0 by rw[G0 Θ s (i+n) hlt];rw[Ad h10,Ad (by decide),Ad h35,Ad (by omega)]);clear h10 h35 hr32 hr9
        go_wp2_with fail
        refine AZ (by kernel_rfl) (by kernel_rfl) ?_
        repeat (go_big_quiet_step (fail))
        refine wpQuiet_nil ?_;rintro _ ⟨y,rfl⟩;have hb:=Bi W y;generalize later W y=W1 at *;have HB:=θ hb;clear hb
        go_wp2_with fail
        refine(FN s g _ _ W1 (Blk.call HRD.out HB.out)).mono ?_;rintro e w' ⟨rfl,hb2⟩;have HB2:=θ (Bb HB.out hb2);clear hb2
        go_wp2
        dsimp only[Exit.jump];have hz:n=Cb Θ s i:=by have:=HGAP.out;rw[HG.out]at this;omega
        refine bodyPost_ret (results_none rfl _ _ _) rfl ⟨rfl,?_,Bl HGR.out (A2 HB2.out)⟩;rw[←hz];exact Blk.call HRD.out HB2.out
