/- How long what is handed -/
import Derived.Test.YtmbfbclboenajaaGreatFBU
import Derived.Test.YtmbfbclboenajaaGreatFBW
import Derived.Test.YtmbfbclboenajaaGreatFBS
import Derived.Test.YtmbfbclboenajaaGreatFBT
import Derived.ProofKit
set_option linter.all false
open List renaming map_cons->Aq8,mem_cons->AqU,mem_cons_of_mem->ο,mem_cons_self->AqS
namespace Go.Proofs.YtmbfbclboenajaaGreat
open Go.Proofs.Tryz renaming prog->Aq1
open Go.ChangeShapes Go.WideShapes Go.ChangeAt Go.RowKit
theorem Adm{n b:Nat}(hb:2<=b)(h:n*b<=reachBytes):n<4611686018427387904:=by
 have h1:n*2<=n*b:=Nat.mul_le_mul_left n hb;have h2:reachBytes<9223372036854775808:=by decide +kernel
 omega
theorem AcC{y:D}(h:D.Typed Aq1 y 31):∃ l:List Nat,y.av=[eN l]/\Limbs l:=by
 obtain⟨xs,rfl,hx⟩:=h.slice_ Tryz.underlying31;have:∀ xs:List D,(∀ y∈xs,D.Typed Aq1 y 92)->∃ l:List Nat,xs.map D.av=l.map eL/\Limbs l:=λxs=>by
  induction xs with
  |nil=>intro _;exact⟨[],rfl,BH⟩
  |cons x r ih=>
   intro hh;obtain⟨l,e1,e2⟩:=ih λy hy=>hh y (ο _ hy)
   obtain⟨n,rfl,hw⟩:=(hh x (AqS ..)).int_ Tryz.underlying92;have hw:0<=n/\n<4294967296:=by
    simp only[Lit.wf,Bool.and_eq_true,decide_eq_true_eq]at hw;have h1:IntKind.u32.min=0:=by decide
    have h2:IntKind.u32.max=4294967295:=by decide
    omega
   obtain⟨m,rfl⟩:=Int.eq_ofNat_of_zero_le hw.1;exact⟨m::l,by rw[Aq8,Aq8,e1];rfl,Bf (by omega) e2⟩
 obtain⟨l,e1,e2⟩:=this xs hx;exact⟨l,by rw[D.av,GH,e1];rfl,e2⟩
theorem Aiz{y:D}(h:D.Typed Aq1 y 33):∃ z:Zi,y.av=eZ z/\Limbs z.abs:=by
 obtain⟨xs,rfl,g0⟩:=h.struct_ Tryz.underlying33;obtain⟨x0,r0,rfl,h0,g1⟩:=D.TypedFields.cons_ g0;obtain⟨x1,r1,rfl,h1,g2⟩:=D.TypedFields.cons_ g1;obtain rfl:=D.TypedFields.nil_ g2;obtain⟨b,rfl⟩:=h0.bool_ Tryz.underlying4;obtain⟨l,e1,e2⟩:=AcC h1;refine⟨⟨b,l⟩,?_,e2⟩
 show D.av (.agg [.bool b,x1])=_
 simp only[D.av,Hy,e1];rfl
theorem AnF{y:D}(h:D.Typed Aq1 y 42):∃ p:Pt,y.av=eP p/\Limbs p.z.abs:=by
 obtain⟨xs,rfl,g0⟩:=h.struct_ Tryz.underlying42;obtain⟨x0,r0,rfl,h0,g1⟩:=D.TypedFields.cons_ g0;obtain⟨x1,r1,rfl,h1,g2⟩:=D.TypedFields.cons_ g1;obtain rfl:=D.TypedFields.nil_ g2;obtain⟨n,rfl,_⟩:=h0.int_ Tryz.underlying3;obtain⟨z,e1,e2⟩:=Aiz h1;refine⟨⟨n,z⟩,?_,e2⟩
 show D.av (.agg [.int .i64 n,x1])=_
 simp only[D.av,Hy,e1];rfl
theorem Aj0{y:D}(h:D.Typed Aq1 y 29):∃ ps:List Pt,y.av=[.ls (ps.map eP)]/\∀ p∈ps,Limbs p.z.abs:=by
 obtain⟨xs,rfl,hx⟩:=h.slice_ Tryz.underlying29;have:∀ xs:List D,(∀ y∈xs,D.Typed Aq1 y 42)->∃ ps:List Pt,xs.map D.av=ps.map eP/\∀ p∈ps,Limbs p.z.abs:=λxs=>by
  induction xs with
  |nil=>intro _;exact⟨[],rfl,by simp⟩
  |cons x r ih=>
   intro hh;obtain⟨ps,e1,e2⟩:=ih λy hy=>hh y (ο _ hy)
   obtain⟨p,k1,k2⟩:=AnF (hh x (AqS ..));refine⟨p::ps,by rw[Aq8,Aq8,e1,k1],λu hu=>?_⟩;rcases AqU.1 hu with rfl|hu
   .exact k2
   .exact e2 u hu
 obtain⟨ps,e1,e2⟩:=this xs hx;exact⟨ps,by rw[D.av,GH,e1],e2⟩
theorem An4{y:D}(h:D.Typed Aq1 y 35):∃ t:Tm,y.av=eT t/\LmT t:=by
 obtain⟨xs,rfl,g0⟩:=h.struct_ Tryz.underlying35;obtain⟨x0,r0,rfl,h0,g1⟩:=D.TypedFields.cons_ g0;obtain⟨x1,r1,rfl,h1,g2⟩:=D.TypedFields.cons_ g1;obtain rfl:=D.TypedFields.nil_ g2;obtain⟨ps,e1,e2⟩:=Aj0 h0;obtain⟨z,e3,e4⟩:=Aiz h1;refine⟨⟨ps,z⟩,?_,⟨e2,e4⟩⟩
 show D.av (.agg [x0,x1])=_
 simp only[D.av,Hy,e1,e3];rfl
theorem AnR{y:D}(h:D.Typed Aq1 y 37):∃(t:Tm) (e:Bool),y.av=CY (t,e)/\LmT t:=by
 obtain⟨xs,rfl,g0⟩:=h.struct_ Tryz.underlying37;obtain⟨x0,r0,rfl,h0,g1⟩:=D.TypedFields.cons_ g0;obtain⟨x1,r1,rfl,h1,g2⟩:=D.TypedFields.cons_ g1;obtain rfl:=D.TypedFields.nil_ g2;obtain⟨t,e1,e2⟩:=An4 h0;obtain⟨b,rfl⟩:=h1.bool_ Tryz.underlying4;refine⟨t,b,?_,e2⟩
 show D.av (.agg [x0,.bool b])=_
 simp only[D.av,Hy,e1];rfl
theorem Aj8{y:D}(h:D.Typed Aq1 y 22)(hf:D.Fits Aq1 y 22):∃ zs:List (Tm × Bool),y.av=[.ls (zs.map CY)]/\zs.length<4611686018427387904/\∀ r∈zs,LmT r.1:=by
 obtain⟨xs,rfl,hx⟩:=h.slice_ Tryz.underlying22;obtain⟨h1,h2⟩:=hf.slice_ Tryz.underlying22;have hl:=Adm (Nat.le_of_ble_eq_true (by kernel_rfl)) h1;have:∀ xs:List D,(∀ y∈xs,D.Typed Aq1 y 37)->∃ zs:List (Tm × Bool),xs.map D.av=zs.map CY/\zs.length=xs.length/\∀ z∈zs,LmT z.1:=λxs=>by
  induction xs with
  |nil=>intro _;exact⟨[],rfl,rfl,by simp⟩
  |cons x r ih=>
   intro hh;obtain⟨zs,e1,e2,e3⟩:=ih λy hy=>hh y (ο _ hy)
   obtain⟨t,e,k1,k2⟩:=AnR (hh x (AqS ..));refine⟨(t,e)::zs,by rw[Aq8,Aq8,e1,k1],by simp[e2],λu hu=>?_⟩;rcases AqU.1 hu with rfl|hu
   .exact k2
   .exact e3 u hu
 obtain⟨zs,e1,e2,e3⟩:=this xs hx;exact⟨zs,by rw[D.av,GH,e1],by omega,e3⟩
theorem Apa:RF Tc:=AnO AhV AhW
theorem Ao7:RdF Tc:=AnN AhV AhW Amq Amo
theorem UT:SeatOk Aq1 BP WT:=Z2 ⟨AbL,AhE,trivial⟩
theorem Nd(v1:Value)(z1:List (Tm × Bool))(p1:z1.length<4611686018427387904)(q1:∀ r∈z1,LmT r.1)(w:World)(r1:Rep (λ_=>none) (λg _=>g<w.heap.size) w (.ls (z1.map CY)) v1) :
  Calls Aq1 3 #[v1] w λe w'=>e=.returned (.bool true)/\Below w.heap.size w w':=by
 have g:=Y2 UT (PY Ajp Amh Amv Amt Amr Amp Ams Amu Amw Apa Ao7 (Xa W6) (λhn hk1 hk=>λhrs hb hq=>by
  obtain⟨o,ho,g⟩:=Yy hn hk1 hk hrs hb hq;exact⟨o,ho,Ag3 g⟩) z1 p1 q1) w [v1] (by
  simp only[RepList];exact⟨_,_,rfl,r1,rfl⟩)
 refine Calls.mono g ?_;rintro e w' ⟨u,rfl,hb,μ',F',hr⟩;unfold bv Rep at hr;rw[hr.1];exact⟨rfl,hb⟩
set_option maxRecDepth 100000 in
theorem L8(os:Go.Os)(started:os.Started)(H:Type)(enc:TypeId × Value->H) :
  ReturnsInHanded {} Tryz.checked os 3 .any (Rows.relTidiesSpec.pre6 enc Aq1 Tryz.f3 [] false) (Rows.relTidiesSpec.post enc Aq1 Tryz.f3 false true false false):=by
 refine Afc (C:=Tryz.checked) 1 [4,3,92,31,33,42,29,35,37,22] 4 Ac3 started (by kernel_rfl) Tryz.func3
  (ChangeSpec.witness6 (enc:=enc) (C:=Tryz.checked) false ⟨#[],#[.slice none 0 0],[]⟩ 8 (by kernel_rfl) (by kernel_rfl) (by kernel_rfl) (by kernel_rfl))
  (by kernel_rfl) rfl (by kernel_rfl) Acp rfl Tryz.underlying4 rfl (λds h=>?_) (λW args xs h=>?_)
 .match ds,h with
  |[d1],_=>rfl
 .have h':Jq W Aq1 [22] args.toList xs:=h
  obtain⟨args⟩:=args;obtain⟨v1,a1,x1,y1,qq,rfl,⟨cs1,E1,H1,T1,F1⟩,h'⟩:=Tg h';obtain rfl:=Vs h';have qq:args=[v1]:=qq;subst qq;obtain⟨z1,k1,p1,q1⟩:=Aj8 T1 F1;have i1:=Wm (μ:=λ_=>none) (F:=λg _=>g<W.heap.size) (λg hg _=>hg) x1 cs1 H1;rw[k1]at i1;obtain⟨ys1,rfl,_⟩:=T1.slice_ Tryz.underlying22;rw[RepList]at i1;obtain⟨u1,tl1,rfl,i1,j1⟩:=i1;rw[RepList]at j1;subst j1;have E1:v1=u1:=E1;subst E1;exact Nd v1 z1 p1 q1 W i1
set_option maxRecDepth 1000000 in
set_option maxHeartbeats 4000000 in
theorem L7:joinedFacts Tryz.pinned.checked.prog 3 Tryz.f3 Rows.relTidiesSpec Rows.relTidiesRow=true:=by
 unfold joinedFacts
 repeat' (with_reducible refine Bool.and_eq_true_iff.2 ⟨?_,?_⟩)
 all_goals (as_aux_lemma=>kernel_rfl)
theorem relTidies_holds:Rows.RelTidiesSaid:=
 OpenClaim.holds_of_wide 3 Tryz.f3 rfl rfl rfl rfl rfl rfl rfl ⟨rfl,rfl,rfl,rfl,rfl⟩ rfl rfl rfl rfl rfl (by kernel_rfl) Tryz.func3 L7
  (of_decide_eq_true (by kernel_rfl)) (by unfold Func.isWrapper;first | (rw[if_pos (by decide +kernel)];kernel_rfl) | (rw[if_neg (by decide +kernel)];exact⟨rfl,rfl⟩))
  (λos started H enc _=>L8 os started H enc)
