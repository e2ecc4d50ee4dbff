/- Sums and trees that are -/
import Derived.Test.YtlmhajfbpplpoaaGreatPBZ
import Derived.Test.YtlmhajfbpplpoaaGreatPBG
import Derived.Test.YtlmhajfbpplpoaaGreatPBY
import Derived.ProofKit
set_option linter.all false
open List renaming map_cons->Arz,mem_cons->Arl,mem_cons_of_mem->Arw,mem_cons_self->Arv
open Nat renaming le_of_ble_eq_true->At9
namespace Go.Proofs.YtlmhajfbpplpoaaGreat
open Go.Proofs.Tryz renaming prog->ψ
open Go.ChangeShapes Go.WideShapes Go.ChangeAt Go.RowKit
theorem LS{n:Nat}(h:n<=reachBytes):n<=9223372036854775807:=Nat.le_trans h (by decide +kernel)
theorem UG{n b:Nat}(hb:2<=b)(h:n*b<=reachBytes):n<4611686018427387904:=by
 have h1:n*2<=n*b:=Nat.mul_le_mul_left n hb;have h2:reachBytes<9223372036854775808:=by decide +kernel
 omega
def Aki(m:Mo):Prop:=m.num.size<=9223372036854775807/\m.var.size<=9223372036854775807
theorem An8{y:D}(h:D.Typed ψ y 115)(hf:D.Fits ψ y 115):∃ m:Mo,y.av=E9 m/\Aki m:=by
 obtain⟨xs,rfl,g0⟩:=h.struct_ Tryz.underlying115;have f0:=hf.struct_ Tryz.underlying115;obtain⟨x0,r0,rfl,h0,g1⟩:=D.TypedFields.cons_ g0;obtain⟨x1,r1,rfl,h1,g2⟩:=D.TypedFields.cons_ g1;obtain⟨x2,r2,rfl,h2,g3⟩:=D.TypedFields.cons_ g2;obtain rfl:=D.TypedFields.nil_ g3;obtain⟨b,rfl⟩:=h0.bool_ Tryz.underlying4;obtain⟨s,rfl⟩:=h1.str_ Tryz.underlying9;obtain⟨v,rfl⟩:=h2.str_ Tryz.underlying9;have f1:=(D.FitsFields.cons_ f0).2;have f2:=(D.FitsFields.cons_ f1).2;have k1:=(D.FitsFields.cons_ f1).1;have k2:=(D.FitsFields.cons_ f2).1;simp only[D.Fits]at k1 k2;exact⟨⟨b,s,v⟩,rfl,LS k1,LS k2⟩
theorem Ac5{y:D}(h:D.Typed ψ y 23)(hf:D.Fits ψ y 23):∃ ms:List Mo,y.av=[.ls (ms.map E9)]/\ms.length<4611686018427387904/\∀ m∈ms,Aki m:=by
 obtain⟨xs,rfl,hx⟩:=h.slice_ Tryz.underlying23;obtain⟨h1,h2⟩:=hf.slice_ Tryz.underlying23;have hl:=UG (At9 (by kernel_rfl)) h1;have:∀ xs:List D,(∀ y∈xs,D.Typed ψ y 115/\D.Fits ψ y 115)->∃ ms:List Mo,xs.map D.av=ms.map E9/\ms.length=xs.length/\∀ m∈ms,Aki m:=λxs=>by
  induction xs with
  |nil=>intro _;exact⟨[],rfl,rfl,by simp⟩
  |cons x r ih=>
   intro hh;obtain⟨ms,e1,e2,e3⟩:=ih λy hy=>hh y (Arw _ hy)
   obtain⟨m,k1,k2⟩:=An8 (hh x (Arv ..)).1 (hh x (Arv ..)).2;refine⟨m::ms,by rw[Arz,Arz,e1,k1],by simp[e2],λz hz=>?_⟩;rcases Arl.1 hz with rfl|hz
   .exact k2
   .exact e3 z hz
 obtain⟨ms,e1,e2,e3⟩:=this xs λy hy=>⟨hx y hy,h2 y hy⟩
 refine⟨ms,by rw[D.av,FL,e1],by omega,e3⟩
theorem Hc{t e:TypeId}(he:Tryz.prog.underlying t=some (.slice e)){y:D}(h:D.Typed ψ y t):∃ xs:List (List AV),y.av=[.ls xs]:=by
 obtain⟨xs,rfl,_⟩:=h.slice_ he;exact⟨_,rfl⟩
theorem Yl{y:D}(h:D.Typed ψ y 47):∃ ss:List ByteArray,y.av=[.ls (ss.map eS)]:=by
 obtain⟨xs,rfl,hx⟩:=h.slice_ Tryz.underlying47;have:∀ xs:List D,(∀ y∈xs,D.Typed ψ y 9)->∃ ss:List ByteArray,xs.map D.av=ss.map eS:=λxs=>by
  induction xs with
  |nil=>intro _;exact⟨[],rfl⟩
  |cons x r ih=>
   intro hh;obtain⟨ms,e1⟩:=ih λy hy=>hh y (Arw _ hy)
   obtain⟨s,rfl⟩:=(hh x (Arv ..)).str_ Tryz.underlying9;exact⟨s::ms,by rw[Arz,Arz,e1];rfl⟩
 obtain⟨ss,e1⟩:=this xs hx;exact⟨ss,by rw[D.av,FL,e1]⟩
theorem Aof{y:D}(h:D.Typed ψ y 90):∃ p:Pr,y.av=R1 p:=by
 obtain⟨xs,rfl,g0⟩:=h.struct_ Tryz.underlying90;obtain⟨x0,r0,rfl,h0,g1⟩:=D.TypedFields.cons_ g0;obtain⟨x1,r1,rfl,h1,g2⟩:=D.TypedFields.cons_ g1;obtain⟨x2,r2,rfl,h2,g3⟩:=D.TypedFields.cons_ g2;obtain rfl:=D.TypedFields.nil_ g3;obtain⟨s,rfl⟩:=h0.str_ Tryz.underlying9;obtain⟨l,e1⟩:=Yl h1;obtain⟨c,e2⟩:=Hc Tryz.underlying88 h2;exact⟨⟨s,l,c⟩,by simp only[D.av,JQ,e1,e2];rfl⟩
theorem Aln{y:D}(h:D.Typed ψ y 68):∃ ps:List Pr,y.av=[.ls (ps.map R1)]:=by
 obtain⟨xs,rfl,hx⟩:=h.slice_ Tryz.underlying68;have:∀ xs:List D,(∀ y∈xs,D.Typed ψ y 90)->∃ ss:List Pr,xs.map D.av=ss.map R1:=λxs=>by
  induction xs with
  |nil=>intro _;exact⟨[],rfl⟩
  |cons x r ih=>
   intro hh;obtain⟨ms,e1⟩:=ih λy hy=>hh y (Arw _ hy)
   obtain⟨s,e2⟩:=Aof (hh x (Arv ..));exact⟨s::ms,by rw[Arz,Arz,e1,e2]⟩
 obtain⟨ss,e1⟩:=this xs hx;exact⟨ss,by rw[D.av,FL,e1]⟩
theorem Aop{y:D}(h:D.Typed ψ y 71):∃ s:Sy,y.av=JV s:=by
 obtain⟨xs,rfl,g0⟩:=h.struct_ Tryz.underlying71;obtain⟨x0,r0,rfl,h0,g1⟩:=D.TypedFields.cons_ g0;obtain⟨x1,r1,rfl,h1,g2⟩:=D.TypedFields.cons_ g1;obtain⟨x2,r2,rfl,h2,g3⟩:=D.TypedFields.cons_ g2;obtain⟨x3,r3,rfl,h3,g4⟩:=D.TypedFields.cons_ g3;obtain⟨x4,r4,rfl,h4,g5⟩:=D.TypedFields.cons_ g4;obtain rfl:=D.TypedFields.nil_ g5;obtain⟨vs,e0⟩:=Yl h0;obtain⟨bs,e1⟩:=Hc Tryz.underlying67 h1;obtain⟨ps,e3⟩:=Aln h3;obtain⟨ac,e4⟩:=Hc Tryz.underlying69 h4;obtain⟨ys,rfl,i0⟩:=h2.struct_ Tryz.underlying61;obtain⟨y0,q0,rfl,j0,i1⟩:=D.TypedFields.cons_ i0;obtain⟨y1,q1,rfl,j1,i2⟩:=D.TypedFields.cons_ i1;obtain⟨y2,q2,rfl,j2,i3⟩:=D.TypedFields.cons_ i2;obtain rfl:=D.TypedFields.nil_ i3;obtain⟨k,rfl,_⟩:=j0.int_ Tryz.underlying3;obtain⟨ks,f2⟩:=Hc Tryz.underlying59 j2;obtain⟨zs,rfl,l0⟩:=j1.struct_ Tryz.underlying58;obtain⟨z0,s0,rfl,m0,l1⟩:=D.TypedFields.cons_ l0;obtain⟨z1,s1,rfl,m1,l2⟩:=D.TypedFields.cons_ l1;obtain rfl:=D.TypedFields.nil_ l2;obtain⟨eq,rfl⟩:=m1.bool_ Tryz.underlying4;obtain⟨us,rfl,n0⟩:=m0.struct_ Tryz.underlying56;obtain⟨u0,v0,rfl,o0,n1⟩:=D.TypedFields.cons_ n0;obtain⟨u1,v1,rfl,o1,n2⟩:=D.TypedFields.cons_ n1;obtain rfl:=D.TypedFields.nil_ n2;obtain⟨pt,f3⟩:=Hc Tryz.underlying50 o0;obtain⟨ws,rfl,p0⟩:=o1.struct_ Tryz.underlying54;obtain⟨w0,w1',rfl,a0,p1⟩:=D.TypedFields.cons_ p0;obtain⟨w1,w2',rfl,a1,p2⟩:=D.TypedFields.cons_ p1;obtain rfl:=D.TypedFields.nil_ p2;obtain⟨ng,rfl⟩:=a0.bool_ Tryz.underlying4;obtain⟨ab,f4⟩:=Hc Tryz.underlying52 a1;exact⟨⟨vs,bs,k,pt,ng,ab,eq,ks,ps,ac⟩,by simp only[D.av,JQ,e0,e1,e3,e4,f2,f3,f4];rfl⟩
theorem AlL:∀(n:Nat) (y:D),SizeOf.sizeOf y<=n->D.Typed ψ y 33->D.Fits ψ y 33->∃ t:Tr,y.av=Bq t/\WzT t/\WzP t:=by
 intro n
 induction n with
 |zero=>intro x hx;cases x<;>simp at hx
 |succ n ih=>
  intro y hn h hf;obtain⟨xs,rfl,g0⟩:=h.struct_ Tryz.underlying33;have f0:=hf.struct_ Tryz.underlying33;obtain⟨x0,r0,rfl,h0,g1⟩:=D.TypedFields.cons_ g0;obtain⟨x1,r1,rfl,h1,g2⟩:=D.TypedFields.cons_ g1;obtain⟨x2,r2,rfl,h2,g3⟩:=D.TypedFields.cons_ g2;obtain⟨x3,r3,rfl,h3,g4⟩:=D.TypedFields.cons_ g3;obtain⟨x4,r4,rfl,h4,g5⟩:=D.TypedFields.cons_ g4;obtain⟨x5,r5,rfl,h5,g6⟩:=D.TypedFields.cons_ g5;obtain⟨x6,r6,rfl,h6,g7⟩:=D.TypedFields.cons_ g6;obtain rfl:=D.TypedFields.nil_ g7;have f1:=(D.FitsFields.cons_ f0).2;have f2:=(D.FitsFields.cons_ f1).2;have f3:=(D.FitsFields.cons_ f2).2;have f4:=(D.FitsFields.cons_ f3).2;have f5:=(D.FitsFields.cons_ f4).2;have f6:=(D.FitsFields.cons_ f5).2;obtain⟨k,rfl,_⟩:=h0.int_ Tryz.underlying3;obtain⟨l,el,l1,l2⟩:=Ac5 h1 (D.FitsFields.cons_ f1).1;obtain⟨r,er,m1,m2⟩:=Ac5 h2 (D.FitsFields.cons_ f2).1;obtain⟨op,rfl,_⟩:=h3.int_ Tryz.underlying3;obtain⟨p,rfl⟩:=h4.str_ Tryz.underlying9;obtain⟨q,rfl⟩:=h5.str_ Tryz.underlying9;obtain⟨ys,rfl,hy⟩:=h6.slice_ Tryz.underlying31;obtain⟨z1,z2⟩:=(D.FitsFields.cons_ f6).1.slice_ Tryz.underlying31;have hl:=UG (At9 (by kernel_rfl)) z1;have:∀ zs:List D,(∀ y∈zs,y∈ys)->∃ ts:List Tr,zs.map D.av=ts.map Bq/\ts.length=zs.length/\∀ m∈ts,WzT m/\WzP m:=λzs=>by
   induction zs with
   |nil=>intro _;exact⟨[],rfl,rfl,by simp⟩
   |cons x r ih2=>
    intro hh;obtain⟨ms,e1,e2,e3⟩:=ih2 λy hy=>hh y (Arw _ hy)
    have hm:=hh x (Arv ..);obtain⟨m,k1,k2⟩:=ih x (by
     have h3:=List.sizeOf_lt_of_mem hm;simp at hn;omega) (hy x hm) (z2 x hm)
    refine⟨m::ms,by rw[Arz,Arz,e1,k1],by simp[e2],λz hz=>?_⟩;rcases Arl.1 hz with rfl|hz
    .exact k2
    .exact e3 z hz
  obtain⟨ts,e1,e2,e3⟩:=this ys λ_ h=>h
  have s4:=(D.FitsFields.cons_ f4).1;have s5:=(D.FitsFields.cons_ f5).1;simp only[D.Fits]at s4 s5;refine⟨.mk k l r op p q ts,?_,.mk l1 m1 (by omega) l2 m2 λm hm=>(e3 m hm).1,.mk (LS s4) (LS s5) λm hm=>(e3 m hm).2⟩;rw[Bq,BW,←e1,←FL];simp only[D.av,JQ,el,er,List.cons_append,List.nil_append];rfl
theorem Aar:∀(n:Nat) (t:Tr),SizeOf.sizeOf t<n->WzT t->WfT t:=by
 intro n
 induction n with
 |zero=>intro t h;omega
 |succ n ih=>
  intro t hn hz;obtain⟨hl,hr,hk,_,_,hx⟩:=hz;exact .mk hl hr hk λx hm=>ih x (by
   have h1:=Lo hm;simp only[Tr.mk.sizeOf_spec]at hn;omega) (hx x hm)
theorem XY:NameF NG where
 name s hs:=Yy (by
  unfold B9 Ch;have h1:(Af s).size<=9223372036854775807:=by show s.toArray.size<=_;simp;omega
  have h2:(Af s).data.toList=s:=by simp[Af]
  simp only[sv,h1,if_true,h2];rfl)
theorem Wf:LexN NG where
 name s hs:=Yy (by unfold B9 Ch;simp only[sv,hs,if_true];rfl)
 num s hs:=Aav (by unfold B9 BH;simp only[sv,hs,if_true];rfl)
theorem AcH:LexA NG where
 ok s ts hs h:=Aex (by unfold B9 Ie;simp only[sv,hs,if_true,h];rfl)
 err s c ln co hs h:=Aex (by unfold B9 Ie;simp only[sv,hs,if_true,h];rfl)
theorem AlF:SumG NG where
 sum ms h1 h2:=WX (by unfold B9;rw[Qa ms (Q7.2 ⟨h1,h2⟩)];rfl)
theorem Ad7:SumF NG:=AlF.f
theorem UL:SeatOk ψ AL WH:=Z0 Ap4 AbY R6 AbZ (Ap6 _)
theorem bkR(y:Sy)(t:Tr)(hz:WzT t)(hp:WzP t)(hn:ID t<=1000000)(B:SyB y):NG.ask (.fn 34) [.agg (Bq t),.agg (JV y)] []=some (Px (NR y t),[]):=WW (AdD B t hz hp hn)
theorem Ady:BQ q4=s41:=by kernel_rfl
theorem Al0:Al4F NG where
 res:=by
  rw[bkR Ik q4 AdA Adz (by decide) Aee];exact YQ Akt
 no:=by
  rw[bkR Ik UE AdC AdB (by decide) Aee];exact Aa1 Al3
 text:=by
  have g:=SU AiW Acu AiZ Acs Wf Acr Ad7 q4 AdA Adz UD (by rw[Ady];decide)
  rwa [Ady]at g
theorem AeS:NG.ask (.fn 30) [] []=some (bv true,[]):=YC Acr AiQ AiX AiY Ai0 XY AcH Acu Acs Wf Acq Al0
theorem TY(v1 v2:Value)(t:Tr)(hz:WzT t)(hp:WzP t)(y:Sy)(w:World)(r1:Rep (λ_=>none) (λg _=>g<w.heap.size) w (.agg (Bq t)) v1)(r2:Rep (λ_=>none) (λg _=>g<w.heap.size) w (.agg (JV y)) v2):Calls ψ 10 #[v1,v2] w λe w'=>e=.returned (.bool true)/\Below w.heap.size w w':=by
 have g:=MA UL (Acy Acr AiQ AiX AiY Ai0 XY AcH Acu Acs Wf AiZ Ad7 AiW Ano Acq Ak8 AeS y (λt a b c B=>bkR y t a b c B) t hz hp (Aar _ t (Nat.lt_succ_self _) hz)) w [v1,v2] (by
  simp only[RepList];exact⟨_,_,rfl,r1,_,_,rfl,r2,rfl⟩)
 refine Calls.mono g ?_;rintro e w' ⟨u,rfl,hb,μ',F',hr⟩;unfold bv Rep at hr;rw[hr.1];exact⟨rfl,hb⟩
set_option maxRecDepth 100000 in
theorem O1(os:Go.Os)(started:os.Started)(H:Type)(enc:TypeId × Value->H) :
  ReturnsInHanded {} Tryz.checked os 10 .any (Rows.ltlBackSpec.pre6 enc ψ Tryz.f10 [] false) (Rows.ltlBackSpec.post enc ψ Tryz.f10 false true false false):=by
 refine Af4 (C:=Tryz.checked) 2 [4,9,3,115,23,33,31,47,230,52,54,302,67,154,50,56,58,61,59,115,23,33,31,312,306,308,88,90,68,310,303,305,69,71] 4 Adt started (by kernel_rfl) Tryz.func10
  (ChangeSpec.witness6 (enc:=enc) (C:=Tryz.checked) false ⟨#[],#[.agg #[.int .i64 0,.slice none 0 0,.slice none 0 0,.int .i64 0,.string ⟨#[]⟩,.string ⟨#[]⟩,.slice none 0 0],.agg #[.slice none 0 0,.slice none 0 0,.int .i64 0,.slice none 0 0,.bool false,.slice none 0 0,.bool false,.slice none 0 0,.slice none 0 0,.slice none 0 0]],[]⟩ 8 (by kernel_rfl) (by kernel_rfl) (by kernel_rfl) (by kernel_rfl))
  (by kernel_rfl) rfl (by kernel_rfl) Acv rfl Tryz.underlying4 rfl (λds h=>?_) (λW args xs h=>?_)
 .match ds,h with
  |[d1,d2],_=>rfl
 .have h':J8 W ψ [33,71] args.toList xs:=h
  obtain⟨args⟩:=args;obtain⟨v1,a1,x1,y1,r1,rfl,⟨cs1,e1,h1,t1,z1⟩,h'⟩:=M6 h';obtain⟨v2,a2,x2,y2,rfl,rfl,⟨cs2,e2,h2,t2,z2⟩,h'⟩:=M6 h';obtain rfl:=Vh h';have r1:args=[v1,v2]:=r1;subst r1;obtain⟨t,k1,k2,k3⟩:=AlL _ x1 (Nat.le_refl _) t1 z1;obtain⟨y,m1⟩:=Aop t2;have i1:=Sa (μ:=λ_=>none) (F:=λg _=>g<W.heap.size) (λg hg _=>hg) x1 cs1 h1;have i2:=Sa (μ:=λ_=>none) (F:=λg _=>g<W.heap.size) (λg hg _=>hg) x2 cs2 h2;rw[k1]at i1;rw[m1]at i2;obtain⟨zs,rfl,_⟩:=t1.struct_ Tryz.underlying33;obtain⟨ys,rfl,_⟩:=t2.struct_ Tryz.underlying71;have e1:v1=.agg cs1.toArray:=e1;have e2:v2=.agg cs2.toArray:=e2;subst e1 e2;exact TY _ _ t k2 k3 y W (by rw[Rep];exact⟨cs1.toArray,rfl,i1⟩) (by rw[Rep];exact⟨cs2.toArray,rfl,i2⟩)
set_option maxRecDepth 1000000 in
set_option maxHeartbeats 4000000 in
theorem O0:joinedFacts Tryz.pinned.checked.prog 10 Tryz.f10 Rows.ltlBackSpec Rows.ltlBackRow=true:=by
 unfold joinedFacts
 repeat' (with_reducible refine Bool.and_eq_true_iff.2 ⟨?_,?_⟩)
 all_goals (as_aux_lemma=>kernel_rfl)
theorem ltlBack_holds:Rows.LtlBackSaid:=
 OpenClaim.holds_of_wide 10 Tryz.f10 rfl rfl rfl rfl rfl rfl rfl ⟨rfl,rfl,rfl,rfl,rfl⟩ rfl rfl rfl rfl rfl (by kernel_rfl) Tryz.func10 O0
  (of_decide_eq_true (by kernel_rfl)) (by unfold Func.isWrapper;first | (rw[if_pos (by decide +kernel)];kernel_rfl) | (rw[if_neg (by decide +kernel)];exact⟨rfl,rfl⟩))
  (λos started H enc _=>O1 os started H enc)
end Go.Proofs.YtlmhajfbpplpoaaGreat
