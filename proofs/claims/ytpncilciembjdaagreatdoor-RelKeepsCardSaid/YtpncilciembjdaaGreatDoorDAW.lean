/- What the sort functions -/
import Derived.Test.YtpncilciembjdaaGreatDoorDAV
set_option linter.all false
open Bool renaming false->Φ,true->Δ,true_and->Arz
open Int renaming add_comm->AtW,add_zero->AtX,natAbs_natCast->ArS
open List renaming all_cons->Asg,append_assoc->Ap7,append_nil->Aq9,drop->Aqe,drop_append->Asu,drop_eq_getElem_cons->ApV,drop_eq_nil_of_le->Aqd,drop_left'->ArL,drop_of_length_le->As7,drop_zero->Ap4,filter_cons->Ar4,findIdx_cons->ArW,flatten_cons->Aq4,foldl_cons->Arx,foldl_nil->AtP,getElem?_eq_getElem->φ,getElem_mem->Aqg,length_append->χ,length_cons->ο,length_map->Ap1,length_set->Aqc,length_singleton->AqB,length_take->Aqh,map_cons->Ap5,map_map->Art,map_nil->Ara,mem_cons_of_mem->π,mem_cons_self->ι,mem_map->Aqm,nil_append->Aql,reverse_cons->Asp,take->Ap2,take_append->AsX,take_left'->ArU,take_of_length_le->Aq6
open Nat renaming ble->Ap3,ble_eq_true_of_le->Asd,le_refl->κ,zero_add->Ap6,zero_le->AqC
open Option renaming none->Ξ,some->Θ
namespace Go.Proofs.YtpncilciembjdaaGreatDoor
noncomputable section
open ABlk renaming mk->θ
open AV renaming agg->ω,fn->Ap9,ls->Ψ,ptr->Aqk,sl->γ,tup->ε
open BO renaming set->ApX
open IntKind renaming i64->δ
open Key renaming fn->ψ,lp->ApW
open Go.RowKit
def tl2(D:Orc)(n:Nat)(mid e b:Int)(cs:List AV):KR:=
 br (Ad.lt mid e)
  (br (Ad.lt e b)
   (AK D (.fn 235) [.sl 0 0 n 3,iv mid,iv e,iv b,Fo] [θ cs Δ Δ] λr o=>
   KK r λcs4=>
   Gu cs4<|
   EJ o λc l=>
   Gv Δ Δ c λcs5=>
   Fl l<|
   Θ ((ε [],[ApX (θ cs5 Δ Δ)])))
   (Θ ((ε [],[ApX (θ cs Δ Δ)]))))
  (Θ ((ε [],[ApX (θ cs Δ Δ)])))
def tl1(D:Orc)(n:Nat)(a s mid e b:Int)(cs:List AV):KR:=
 br (Ad.lt a s)
  (br (Ad.lt s mid)
   (AK D (.fn 235) [.sl 0 0 n 3,iv a,iv s,iv mid,Fo] [θ cs Δ Δ] λr o=>
   KK r λcs4=>
   Gu cs4<|
   EJ o λc l=>
   Gv Δ Δ c λcs5=>
   Fl l<|
   tl2 D n mid e b cs5)
   (tl2 D n mid e b cs))
  (tl2 D n mid e b cs)
section
variable {D:Orc}
def MH(D:Orc)(N:Nat):Prop:=∀(l:List Pt) (a m b:Nat),b-a<N->a<m->m<b->b<=l.length->l.length<=1000000000->Srt Pt.v l a m->Srt Pt.v l m b->
 ∃ r:List Pt,D.ask (.fn 235) [.sl 0 0 l.length 3,iv (a:Int),iv (m:Int),iv (b:Int),Fo] [Fp l]=Θ (.tup [],[.set (Fp r)])
  ∧ r.length=l.length/\r.Perm l/\Srt Pt.v r a b/\Same0 l r a b
theorem Ak5{N:Nat}(ih:MH D N){l:List Pt}{mid e b:Nat}(hN:b-mid<N)(h1:mid<=e)(h2:e<=b)(hb:b<=l.length)(hl:l.length<=1000000000)(s1:Srt Pt.v l mid e)(s2:Srt Pt.v l e b) :
  ∃ r:List Pt,tl2 D l.length (mid:Int) (e:Int) (b:Int) (Ag eP l)=Θ (.tup [],[.set (Fp r)])/\r.length=l.length/\r.Perm l/\Srt Pt.v r mid b/\Same0 l r mid b:=by
 by_cases q1:mid<e
 .by_cases q2:e<b
  .obtain⟨r,g,hr,hp,ho,hs⟩:=ih l mid e b hN q1 q2 hb hl s1 s2
   refine⟨r,?_,hr,hp,ho,hs⟩;unfold tl2;refine Al ?_;refine Al ?_;refine Ab g ?_;rfl
  .refine⟨l,?_,rfl,List.Perm.refl _,KB Pt.v (.inr (by omega)) s1 s2,C9 _ _ _⟩
   unfold tl2;refine Al ?_;exact Ak rfl
 .refine⟨l,?_,rfl,List.Perm.refl _,KB Pt.v (.inl (by omega)) s1 s2,C9 _ _ _⟩
  unfold tl2;exact Ak rfl
theorem LM{N:Nat}(ih:MH D N){l:List Pt}{a s mid e b:Nat}(hN:mid-a<N)(hN2:b-mid<N)(h1:a<=s)(h2:s<=mid)(h3:mid<=e)(h4:e<=b)(hb:b<=l.length)(hl:l.length<=1000000000)(s1:Srt Pt.v l a s)(s2:Srt Pt.v l s mid)(s3:Srt Pt.v l mid e)(s4:Srt Pt.v l e b)(lo:Low Pt.v l a mid b) :
  ∃ r:List Pt,tl1 D l.length (a:Int) (s:Int) (mid:Int) (e:Int) (b:Int) (Ag eP l)=Θ (.tup [],[.set (Fp r)])/\r.length=l.length/\r.Perm l/\Srt Pt.v r a b/\Same0 l r a b:=by
 have fin:∀{l1:List Pt},l1.length=l.length->l1.Perm l->Srt Pt.v l1 a mid->Same0 l l1 a mid->∃ r:List Pt,tl2 D l.length (mid:Int) (e:Int) (b:Int) (Ag eP l1)=Θ (.tup [],[.set (Fp r)])/\r.length=l.length/\r.Perm l/\Srt Pt.v r a b/\Same0 l r a b:=by
  intro l1 k1 k2 k3 k4;have lo1:=AbV Pt.v lo k2 k4 (by omega);obtain⟨r,g,hr,hp,ho,hs⟩:=Ak5 ih (l:=l1) (mid:=mid) (e:=e) (b:=b) hN2 h3 h4 (by omega) (by omega) (s3.same' Pt.v k4 (.inr (κ _))) (s4.same' Pt.v k4 (.inr h3));rw[k1]at g hr;exact⟨r,g,hr,hp.trans k2,Ag0 Pt.v (k3.same' Pt.v hs (.inl (κ _))) ho (YQ Pt.v lo1 hp hs (by omega)),(k4.wide (κ _) (by omega)).trans (hs.wide (by omega) (κ _))⟩
 by_cases q1:a<s
 .by_cases q2:s<mid
  .obtain⟨r,g,hr,hp,ho,hs⟩:=ih l a s mid hN q1 q2 (by omega) hl s1 s2
   obtain⟨r2,g2,h⟩:=fin hr hp ho hs;refine⟨r2,?_,h⟩;unfold tl1;refine Al ?_;refine Al ?_;refine Ab g ?_;exact g2
  .obtain⟨r2,g2,h⟩:=fin (l1:=l) rfl (List.Perm.refl _) (KB Pt.v (.inr (by omega)) s1 s2) (C9 _ _ _)
   refine⟨r2,?_,h⟩;unfold tl1;refine Al ?_;exact(C3 (by omega)).trans g2
 .obtain⟨r2,g2,h⟩:=fin (l1:=l) rfl (List.Perm.refl _) (KB Pt.v (.inl (by omega)) s1 s2) (C9 _ _ _)
  refine⟨r2,?_,h⟩;unfold tl1;exact(C3 (by omega)).trans g2
variable (K:Knows Av DY D)
include K
theorem Ag4:∀ N,MH D N:=by
 intro N
 induction N with
 |zero=>intro l a m b h;omega
 |succ N ih0=>
  intro l a m b hN ha hm hb hl hs1 hs2
  by_cases hA:m-a=1
  .obtain rfl:m=a+1:=by omega
   obtain⟨x,g1,x1,x2,x3,x4⟩:=Ag5 K a (a+1) b l hl (by omega) hb hs2 _ (a+1) b rfl (κ _) (by omega) (κ _) (λp p1 p2=>by omega) (λp p1 p2=>by omega);obtain⟨r,g2,r1,r2,r3⟩:=Ag6 K a x l _ a l rfl (κ _) (by omega) (by omega) hl rfl (Gl (.inr rfl) (by omega) (by omega));refine⟨r,?_,r1,r2,TP Pt.v x1 x2 hs2 x3 x4 r3,λp hp=>r3.out p (by omega)⟩;refine AI K CC (S6 ..) ?_;rw[Cs (a:=a+1) (b:=a) (by omega) (by omega)];refine BF ?_;refine Ab g1 ?_;simp only[Fo,ND,DK,Aa];refine Ab g2 ?_;rfl
  by_cases hB:b-m=1
  .obtain rfl:b=m+1:=by omega
   obtain⟨x,g1,x1,x2,x3,x4⟩:=Ag7 K a m l hl (by omega) hs1 _ a m rfl (κ _) (by omega) (κ _) (λp p1 p2=>by omega) (λp p1 p2=>by omega);obtain⟨r,g2,r1,r2,r3⟩:=Ag8 K m x l _ m l rfl x2 (κ _) (by omega) hl rfl (Gl (.inl rfl) (by omega) (by omega));refine⟨r,?_,r1,r2,VT Pt.v x1 x2 hs1 x3 x4 r3,λp hp=>r3.out p (by omega)⟩;refine AI K CC (S6 ..) ?_;rw[Cs (a:=m) (b:=a) (by omega) (by omega)];refine Bm ?_;rw[Cs (a:=m+1) (b:=m) (by omega) (by omega)];refine BF ?_;refine Ab g1 ?_;simp only[Fo,ND,DK,Aa];refine Ac ?_;refine Ab g2 ?_;rfl
  have ih:MH D N:=ih0
  by_cases hC:(a+b) / 2<m
  .obtain⟨z,g4,B⟩:=XQ K a m b ((a+b) / 2) ((a+b) / 2+m-b) ((a+b) / 2) l hl hb hs1 hs2 (by omega) (by omega) (by omega) (by omega) (by omega) (by omega) _ ((a+b) / 2+m-b) ((a+b) / 2) rfl ⟨κ _,by omega,κ _,λc c1 c2=>by omega,λc c1 c2=>by omega⟩
   have C:=B.cut Pt.v hs1 hs2 (by omega) (by omega) (by omega) (by omega) (.inr (by omega)) (.inr rfl);have:=C.asl;have:=C.sm;have:=C.me;have:=C.eb;have:=C.mid;have:=B.ry;have:=B.xs;have e0:Ad.sub .i64 (((a+b) / 2+m:Nat):Int) (z:Int)=(((a+b) / 2+m-z:Nat):Int):=Cs (by omega) (by omega)
   by_cases w1:z<m
   .by_cases w2:m<(a+b) / 2+m-z
    .obtain⟨l1,g5,k1,k2,k3⟩:=AcK K w1 w2 (by omega) hl
     obtain⟨f1,f2,f3,f4,f5⟩:=EY Pt.v C hs1 hs2 k3;obtain⟨r,g6,r1,r2,r3,r4⟩:=LM ih (l:=l1) (a:=a) (s:=z) (mid:=(a+b) / 2) (e:=(a+b) / 2+m-z) (b:=b) (by omega) (by omega) (by omega) (by omega) (by omega) (by omega) (by omega) (by omega) f1 f2 f3 f4 f5;have sm:Same0 l l1 a b:=λp hp=>k3.out p (by omega)
     rw[k1]at g6 r1;refine⟨r,?_,r1,r2.trans k2,r3,sm.trans r4⟩;refine AI K CC (S6 ..) ?_;rw[Cs (a:=m) (b:=a) (by omega) (by omega)];refine Bm ?_;rw[Cs (a:=b) (b:=m) (by omega) (by omega)];refine Bm ?_;refine Ak ?_ (by decide);rw[Dw (a:=a) (b:=b) (by omega)];rw[JH (a:=(a+b) / 2) (b:=m) (by omega),H9 (a:=(a+b) / 2+m) (by omega) (by omega)];rw[Cs (a:=(a+b) / 2+m) (b:=b) (by omega) (by omega)];refine Al ?_;refine Ab g4 ?_;simp only[Fo,ND,DK,Aa];refine Ac ?_;rw[e0];refine Al ?_;refine Al ?_;refine Ab g5 ?_;exact g6
    .obtain⟨f1,f2,f3,f4,f5⟩:=EY Pt.v C hs1 hs2 (Gl (l:=l) (.inr (by omega)) (by omega) (by omega))
     obtain⟨r,g6,r1,r2,r3,r4⟩:=LM ih (l:=l) (a:=a) (s:=z) (mid:=(a+b) / 2) (e:=(a+b) / 2+m-z) (b:=b) (by omega) (by omega) (by omega) (by omega) (by omega) (by omega) (by omega) (by omega) f1 f2 f3 f4 f5;refine⟨r,?_,r1,r2,r3,r4⟩;refine AI K CC (S6 ..) ?_;rw[Cs (a:=m) (b:=a) (by omega) (by omega)];refine Bm ?_;rw[Cs (a:=b) (b:=m) (by omega) (by omega)];refine Bm ?_;refine Ak ?_ (by decide);rw[Dw (a:=a) (b:=b) (by omega)];rw[JH (a:=(a+b) / 2) (b:=m) (by omega),H9 (a:=(a+b) / 2+m) (by omega) (by omega)];rw[Cs (a:=(a+b) / 2+m) (b:=b) (by omega) (by omega)];refine Al ?_;refine Ab g4 ?_;simp only[Fo,ND,DK,Aa];refine Ac ?_;rw[e0];refine Al ?_;refine Ak ?_;exact g6
   .obtain⟨f1,f2,f3,f4,f5⟩:=EY Pt.v C hs1 hs2 (Gl (l:=l) (.inl (by omega)) (by omega) (by omega))
    obtain⟨r,g6,r1,r2,r3,r4⟩:=LM ih (l:=l) (a:=a) (s:=z) (mid:=(a+b) / 2) (e:=(a+b) / 2+m-z) (b:=b) (by omega) (by omega) (by omega) (by omega) (by omega) (by omega) (by omega) (by omega) f1 f2 f3 f4 f5;refine⟨r,?_,r1,r2,r3,r4⟩;refine AI K CC (S6 ..) ?_;rw[Cs (a:=m) (b:=a) (by omega) (by omega)];refine Bm ?_;rw[Cs (a:=b) (b:=m) (by omega) (by omega)];refine Bm ?_;refine Ak ?_ (by decide);rw[Dw (a:=a) (b:=b) (by omega)];rw[JH (a:=(a+b) / 2) (b:=m) (by omega),H9 (a:=(a+b) / 2+m) (by omega) (by omega)];rw[Cs (a:=(a+b) / 2+m) (b:=b) (by omega) (by omega)];refine Al ?_;refine Ab g4 ?_;simp only[Fo,ND,DK,Aa];refine Ac ?_;rw[e0];refine Ak ?_;exact g6
  .obtain⟨z,g4,B⟩:=XQ K a m b ((a+b) / 2) a m l hl hb hs1 hs2 (by omega) (by omega) (by omega) (by omega) (by omega) (by omega) _ a m rfl ⟨κ _,by omega,κ _,λc c1 c2=>by omega,λc c1 c2=>by omega⟩
   have C:=B.cut Pt.v hs1 hs2 (by omega) (by omega) (by omega) (by omega) (.inl rfl) (.inl rfl);have:=C.asl;have:=C.sm;have:=C.me;have:=C.eb;have:=C.mid;have:=B.ry;have:=B.xs;have e0:Ad.sub .i64 (((a+b) / 2+m:Nat):Int) (z:Int)=(((a+b) / 2+m-z:Nat):Int):=Cs (by omega) (by omega)
   by_cases w1:z<m
   .by_cases w2:m<(a+b) / 2+m-z
    .obtain⟨l1,g5,k1,k2,k3⟩:=AcK K w1 w2 (by omega) hl
     obtain⟨f1,f2,f3,f4,f5⟩:=EY Pt.v C hs1 hs2 k3;obtain⟨r,g6,r1,r2,r3,r4⟩:=LM ih (l:=l1) (a:=a) (s:=z) (mid:=(a+b) / 2) (e:=(a+b) / 2+m-z) (b:=b) (by omega) (by omega) (by omega) (by omega) (by omega) (by omega) (by omega) (by omega) f1 f2 f3 f4 f5;have sm:Same0 l l1 a b:=λp hp=>k3.out p (by omega)
     rw[k1]at g6 r1;refine⟨r,?_,r1,r2.trans k2,r3,sm.trans r4⟩;refine AI K CC (S6 ..) ?_;rw[Cs (a:=m) (b:=a) (by omega) (by omega)];refine Bm ?_;rw[Cs (a:=b) (b:=m) (by omega) (by omega)];refine Bm ?_;refine Ak ?_ (by decide);rw[Dw (a:=a) (b:=b) (by omega)];rw[JH (a:=(a+b) / 2) (b:=m) (by omega),H9 (a:=(a+b) / 2+m) (by omega) (by omega)];refine Ak ?_;refine Ab g4 ?_;simp only[Fo,ND,DK,Aa];refine Ac ?_;rw[e0];refine Al ?_;refine Al ?_;refine Ab g5 ?_;exact g6
    .obtain⟨f1,f2,f3,f4,f5⟩:=EY Pt.v C hs1 hs2 (Gl (l:=l) (.inr (by omega)) (by omega) (by omega))
     obtain⟨r,g6,r1,r2,r3,r4⟩:=LM ih (l:=l) (a:=a) (s:=z) (mid:=(a+b) / 2) (e:=(a+b) / 2+m-z) (b:=b) (by omega) (by omega) (by omega) (by omega) (by omega) (by omega) (by omega) (by omega) f1 f2 f3 f4 f5;refine⟨r,?_,r1,r2,r3,r4⟩;refine AI K CC (S6 ..) ?_;rw[Cs (a:=m) (b:=a) (by omega) (by omega)];refine Bm ?_;rw[Cs (a:=b) (b:=m) (by omega) (by omega)];refine Bm ?_;refine Ak ?_ (by decide);rw[Dw (a:=a) (b:=b) (by omega)];rw[JH (a:=(a+b) / 2) (b:=m) (by omega),H9 (a:=(a+b) / 2+m) (by omega) (by omega)];refine Ak ?_;refine Ab g4 ?_;simp only[Fo,ND,DK,Aa];refine Ac ?_;rw[e0];refine Al ?_;refine Ak ?_;exact g6
   .obtain⟨f1,f2,f3,f4,f5⟩:=EY Pt.v C hs1 hs2 (Gl (l:=l) (.inl (by omega)) (by omega) (by omega))
    obtain⟨r,g6,r1,r2,r3,r4⟩:=LM ih (l:=l) (a:=a) (s:=z) (mid:=(a+b) / 2) (e:=(a+b) / 2+m-z) (b:=b) (by omega) (by omega) (by omega) (by omega) (by omega) (by omega) (by omega) (by omega) f1 f2 f3 f4 f5;refine⟨r,?_,r1,r2,r3,r4⟩;refine AI K CC (S6 ..) ?_;rw[Cs (a:=m) (b:=a) (by omega) (by omega)];refine Bm ?_;rw[Cs (a:=b) (b:=m) (by omega) (by omega)];refine Bm ?_;refine Ak ?_ (by decide);rw[Dw (a:=a) (b:=b) (by omega)];rw[JH (a:=(a+b) / 2) (b:=m) (by omega),H9 (a:=(a+b) / 2+m) (by omega) (by omega)];refine Ak ?_;refine Ab g4 ?_;simp only[Fo,ND,DK,Aa];refine Ac ?_;rw[e0];refine Ak ?_;exact g6
theorem YT:M7 D:=λl a m b h1 h2 h3 h4 h5 h6=>Ag4 K (b-a+1) l a m b (by omega) h1 h2 h3 h4 h5 h6
theorem Uu{l:List Pt}(hl:l.length<=1000000000) :
  ∃ r:List Pt,D.ask (.fn 136) [.sl 0 0 l.length 3,Fo] [Fp l]=Θ (.tup [],[.set (Fp r)])
   ∧ r.length=l.length/\r.Perm l/\Srt Pt.v r 0 r.length:=AgZ K (YT K) hl
end
def fnZ:AV:=.fn (.func 141) [] []
section
variable {D:Orc} (K:Knows Av DY D)
include K
theorem AjR(P:Pt->Bool)(l:List Pt)(hl:l.length<=1000000000)(hP:∀ p∈l,D.ask (.fn 141) [.agg (eP p)] []=Θ (bv (P p),[])):∀(m i:Nat),l.length-i=m->i<=l.length->
  D.ask (.lp 199 0) [.sl 0 0 l.length 3,fnZ,iv (l.length:Int),iv (i:Int)] [θ (Ag eP l) Δ Δ]
   = if i+(l.drop i).findIdx P<l.length then Θ (.tup [bv Δ,.sl 0 0 l.length 3,iv ((i+(l.drop i).findIdx P:Nat):Int)],[.set (θ (Ag eP l) Δ Δ)]) else Θ (.tup [iv 0,.sl 0 0 l.length 3],[.set (θ (Ag eP l) Δ Δ)]):=by
 intro m
 induction m with
 |zero=>
  intro i hm hi;rw[if_neg (by omega)];refine Ax K NT (Q9 ..) ?_;exact Ak rfl
 |succ m ih=>
  intro i hm hi;have h1:i<l.length:=by omega
  have g:=hP l[i] (Aqg h1);have ih':=ih (i+1) (by omega) (by omega);rw[ApV h1,ArW]
  cases hp:P l[i]with
  |true=>
   rw[hp]at g;rw[if_pos (by simpa using h1)];refine Ax K NT (Q9 ..) ?_;refine Al ?_;rw[At,AL h1];refine Ac ?_;refine(Bf Au l i h1 _).trans ?_;simp only[eP,eN,ND,DK,Aa];refine Ab g ?_;simp only[ND,DK,Aa];rfl
  |false=>
   rw[hp]at g;rw[show (bif Φ then 0 else(l.drop (i+1)).findIdx P+1)=(l.drop (i+1)).findIdx P+1 from rfl,show i+((l.drop (i+1)).findIdx P+1)=i+1+(l.drop (i+1)).findIdx P by omega]
   by_cases h:i+1+(l.drop (i+1)).findIdx P<l.length
   .rw[if_pos h]at ih' ⊢
    refine Ax K NT (Q9 ..) ?_;refine Al ?_;rw[At,AL h1];refine Ac ?_;refine(Bf Au l i h1 _).trans ?_;simp only[eP,eN,ND,DK,Aa];refine Ab g ?_;simp only[ND,DK,Aa];rw[BZ (by omega)];refine Ab ih' ?_;rfl
   .rw[if_neg h]at ih' ⊢
    refine Ax K NT (Q9 ..) ?_;refine Al ?_;rw[At,AL h1];refine Ac ?_;refine(Bf Au l i h1 _).trans ?_;simp only[eP,eN,ND,DK,Aa];refine Ab g ?_;simp only[ND,DK,Aa];rw[BZ (by omega)];refine Ab ih' ?_;rfl
theorem AjS(P:Pt->Bool)(l:List Pt)(hl:l.length<=1000000000)(hP:∀ p∈l,D.ask (.fn 141) [.agg (eP p)] []=Θ (bv (P p),[])) :
  D.ask (.fn 199) [.sl 0 0 l.length 3,fnZ] [θ (Ag eP l) Δ Δ]
   = Θ (iv (if l.findIdx P<l.length then(l.findIdx P:Int) else -1),[.set (θ (Ag eP l) Δ Δ)]):=by
 have g:=AjR K P l hl hP _ 0 rfl (by omega);rw[Ap4,Ap6]at g;refine AI K NT (Aom ..) ?_
 by_cases h:l.findIdx P<l.length
 .rw[if_pos h]at g ⊢
  refine Ab g ?_;rfl
 .rw[if_neg h]at g ⊢
  refine Ab g ?_;rfl
theorem Ajy(P:Pt->Bool)(Q:Pt->Prop)(hP:∀ p,Q p->D.ask (.fn 141) [.agg (eP p)] []=Θ (bv (P p),[])):∀(m j i:Nat) (l:List Pt),l.length-j=m->i<=j->j<=l.length->l.length<=1000000000->(∀ p∈l.drop j,Q p)->
  ∃(r:List Pt) (c:Nat),D.ask (.lp 140 0) [.sl 0 0 l.length 3,fnZ,iv (i:Int),iv (j:Int)] [θ (Ag eP l) Δ Δ]
   = Θ (.tup [iv 0,.sl 0 0 l.length 3,iv (c:Int)],[.set (θ (Ag eP r) Δ Δ)])
   ∧ r.length=l.length/\c<=l.length/\r.take c=l.take i++(l.drop j).filter (λp=>!P p):=by
 intro m
 induction m with
 |zero=>
  intro j i l hm hi hj hl hq;refine⟨l,i,?_,rfl,by omega,?_⟩
  .refine Ax K NS (Vf ..) ?_
   exact Ak rfl
  .rw[Aqd (by omega),List.filter_nil,Aq9]
 |succ m ih=>
  intro j i l hm hi hj hl hq;have h1:j<l.length:=by omega
  have h0:i<l.length:=by omega
  have ed:=ApV h1;have g:=hP l[j] (hq _ (by rw[ed];exact ι ..));rw[ed,Ar4]
  cases hp:P l[j]with
  |true=>
   rw[hp]at g;obtain⟨r,c,g2,hr,hc,he⟩:=ih (j+1) i l (by omega) (by omega) (by omega) hl (λp h=>hq p (by rw[ed];exact π _ h));refine⟨r,c,?_,hr,hc,he⟩;refine Ax K NS (Vf ..) ?_;refine Al ?_;rw[At,AL h1];refine Ac ?_;refine(Bf Au l j h1 _).trans ?_;simp only[eP,eN,ND,DK,Aa];refine Ab g ?_;simp only[ND,DK,Aa];rw[BZ (by omega)];refine Ab g2 ?_;rfl
  |false=>
   rw[hp]at g;have hd:(l.set i l[j]).drop (j+1)=l.drop (j+1):=List.drop_set_of_lt (by omega);obtain⟨r,c,g2,hr,hc,he⟩:=ih (j+1) (i+1) (l.set i l[j]) (by rw[Aqc];omega) (by omega) (by rw[Aqc];omega) (by rw[Aqc];exact hl) (λp h=>hq p (by rw[ed];rw[hd]at h;exact π _ h));rw[Aqc]at g2 hr hc;have s1:=Co Au l i h0 l[j];simp only[eP,eN]at s1;refine⟨r,c,?_,hr,hc,?_⟩
   .skip
    refine Ax K NS (Vf ..) ?_;refine Al ?_;rw[At,AL h1];refine Ac ?_;refine(Bf Au l j h1 _).trans ?_;simp only[eP,eN,ND,DK,Aa];refine Ab g ?_;simp only[ND,DK,Aa];rw[At,AL h0];refine Ac ?_;rw[show Ap3 (0+i*3+3) (Ag eP l).length=Δ by rw[AP Au];simp;omega];refine Ac ?_;rw[s1,BZ (by omega),BZ (by omega)];refine Ab g2 ?_;rfl
   .rw[he,hd,List.take_succ_eq_append_getElem (by rw[Aqc];exact h0),List.getElem_set_self,List.take_set_of_le (κ _),Ap7]
    rfl
omit K in
theorem NH(P:Pt->Bool):∀ l:List Pt,l.findIdx P<l.length->l.take (l.findIdx P)++(l.drop (l.findIdx P+1)).filter (λp=>!P p)=l.filter (λp=>!P p)
 |[],h=>by simp at h
 |x::r,h=>by
  rw[ArW]at h ⊢
  cases hp:P x with
  |true=>simp[hp]
  |false=>
   rw[hp]at h;have:=NH P r (by simpa using h);simp only[cond_false,List.take_succ_cons,List.drop_succ_cons,Ar4,hp,Bool.not_false,if_true,List.cons_append];rw[this]
omit K in
theorem Tb(P:Pt->Bool)(l:List Pt)(h:¬ l.findIdx P<l.length):l.filter (λp=>!P p)=l:=by
 rw[List.filter_eq_self];intro p hp
 cases e:P p with
 |false=>rfl
 |true=>exact absurd (List.findIdx_lt_length_of_exists ⟨p,hp,e⟩) h
omit K in
theorem ON:∀(l:List Pt) (i:Nat),i<=l.length->(Ag eP l).take (i*3)=Ag eP (l.take i)
 |[],i,_=>by simp[Ag]
 |y::r,0,_=>by simp[Ag]
 |y::r,i+1,h=>by
  rw[show (i+1)*3=3+i*3 by omega]
  show (eP y++Ag eP r).take (3+i*3)=eP y++Ag eP (r.take i)
  rw[AsX,Aq6 (by rw[Au];omega),Au,show 3+i*3-3=i*3 by omega,ON r i (by simpa using h)]
theorem AaA(P:Pt->Bool)(l:List Pt)(hl:l.length<=1000000000)(hP:∀ p∈l,D.ask (.fn 141) [.agg (eP p)] []=Θ (bv (P p),[])) :
  ∃ cells:List AV,D.ask (.fn 140) [.sl 0 0 l.length 3,fnZ] [θ (Ag eP l) Δ Δ]
   = Θ (.sl 0 0 (l.filter λp=>!P p).length 3,[.set (θ cells Δ Δ)])
   ∧ cells.take ((l.filter λp=>!P p).length*3)=Ag eP (l.filter λp=>!P p)/\(l.filter λp=>!P p).length*3<=cells.length:=by
 have g:=AjS K P l hl hP
 by_cases h:l.findIdx P<l.length
 .rw[if_pos h]at g
  obtain⟨r,c,g2,hr,hc,he⟩:=Ajy K P (λp=>p∈l) hP _ (l.findIdx P+1) (l.findIdx P) l rfl (by omega) (by omega) hl (λp hp=>List.mem_of_mem_drop hp);rw[NH P l h]at he;have hk:(l.filter λp=>!P p).length=c:=by
   rw[←he,Aqh];omega
  rw[hk,←he];refine⟨Ay (Ag eP r) (0+c*3) (BJ [iv 0,bv Φ,.v (.slice Ξ 0 0)] ((l.length-c)*3)),?_,?_,?_⟩
  .refine AI K NS (AlH ..) ?_
   refine Ab g ?_;simp only[ND,DK,Aa];refine Bm ?_;rw[BZ (by omega)];refine Ab g2 ?_;simp only[ND,DK,Aa];rw[At,show L9 c l.length l.length=Δ by unfold L9;rw[Asd hc,Asd (κ _)]];refine Ac ?_;rw[show Ap3 (0+c*3+(l.length-c)*3) (Ag eP r).length=Δ by rw[AP Au];simp;omega];refine Ac ?_;rw[At,show L9 0 c l.length=Δ by unfold L9;rw[Asd (AqC _),Asd hc]];rfl
  .unfold Ay
   have hlen:((Ag eP r).take (0+c*3)).length=c*3:=by
    rw[Aqh,AP Au];omega
   rw[Ap7,ArU hlen,Ap6,ON r c (by omega)]
  .unfold Ay
   rw[χ,χ,Aqh,AP Au];omega
 .rw[if_neg h]at g
  rw[Tb P l h];refine⟨Ag eP l,?_,BH Au l rfl,by rw[AP Au];exact κ _⟩;refine AI K NS (AlH ..) ?_;refine Ab g ?_;simp only[ND,DK,Aa];exact BF rfl rfl
end
structure PartF (D:Orc):Prop where
 clone:∀ l:List Pt,l.length<=1000000000->D.ask (.fn 135) [.ls (l.map eP)] []=Θ (.sl 0 0 l.length 3,[.set (Fp l)])
 grow:∀ n:Nat,n<=1000000000->D.ask (.fn 262) [.v (.slice Ξ 0 0),iv (n:Int)] []=Θ (.sl 0 0 0 3,[.set (Fp [])])
section
variable (o:List Pt) (x:Pt)
theorem AgI(k:List AV->KR):EZ (Ag eP (o++[x])) (0+o.length*3+0) 1 k=k [iv x.v]:=by
 have hl:=AP Au o;rw[←BD];unfold EZ;rw[show Ap3 (0+o.length*3+0+1) (Ag eP o++eP x).length=Δ by rw[χ,hl,Au];simp<;>omega]
 show k (((Ag eP o++eP x).drop (0+o.length*3+0)).take 1)=_
 rw[ArL (by omega)];rfl
theorem Ani(k:List AV->KR):EZ (Ag eP (o++[x])) (0+o.length*3+1) 2 k=k [bv x.z.neg,eN x.z.abs]:=by
 have hl:=AP Au o;rw[←BD];unfold EZ;rw[show Ap3 (0+o.length*3+1+2) (Ag eP o++eP x).length=Δ by rw[χ,hl,Au];simp]
 show k (((Ag eP o++eP x).drop (0+o.length*3+1)).take 2)=_
 rw[Asu,As7 (by omega),show 0+o.length*3+1-(Ag eP o).length=1 by omega];rfl
theorem Ano(z:Zi):Ay (Ag eP (o++[x])) (0+o.length*3+1) [bv z.neg,eN z.abs]=Ag eP (o++[⟨x.v,z⟩]):=by
 have hl:=AP Au o;rw[←BD,←BD];unfold Ay;rw[AsX,Aq6 (by omega),show 0+o.length*3+1-(Ag eP o).length=1 by omega,As7 (by rw[χ,Au,hl];simp),Aq9,Ap7];rfl
end
section
variable {D:Orc} (Kt:Knows Av Fj D) (Ks:Knows Av DY D) (Z:ZF D) (C:PartF D)
include Z
include Kt in
theorem Ea{z:Zi}(hz:Lz 1000000000 z):D.ask (.fn 138) [.agg (eZ z)] []=Θ (.agg (eZ (Ap (zv z))),[]):=by
 refine AI Kt AhY (An0 ..) ?_;refine Ab (Z.frm z hz) ?_;rfl
include Ks in
theorem Qa{p:Pt}(hz:Lz 1000000000 p.z):D.ask (.fn 141) [.agg (eP p)] []=Θ (bv (decide (zv p.z=0)),[]):=by
 have g:=Z.sign p.z hz;refine AI Ks Ah0 (An2 ..) ?_;refine Ab g ?_;simp only[ND,DK,Aa]
 by_cases h:zv p.z=0
 .rw[decide_eq_true h,h]
  exact D9 rfl
 .rw[decide_eq_false h]
  refine Cj ?_;unfold Fs;split
  .omega
  .split
   .omega
   .omega
include Kt in
theorem Aco{k:Nat}(ps:List Pt)(hl:ps.length<=1000000)(hk:k+ps.length<=900000000)(hz:∀ p∈ps,Lz k p.z)(r0:List (List AV))(r1:Bool)(r2:List (List AV))(k1:Bool)(k2:List (List AV)):∀(m i:Nat) (s:List (Int × Int)),ps.length-i=m->i<=ps.length->s.length<=i->(∀ q∈s,InB (k+i) q.2)->
  D.ask (.lp 62 0) [.ptr 0 0,.ptr 1 0,.ls (ps.map eP),iv (ps.length:Int),iv (i:Int)] [⟨[.ls r0,bv r1,.ls r2],Δ,Φ⟩,⟨[.sl 2 0 (s.map AJ).reverse.length 3,bv k1,.ls k2],Δ,Φ⟩,Fp (s.map AJ).reverse]
   = Θ (.tup [iv 0,.ptr 0 0,.ptr 1 0],[.set ⟨[.ls r0,bv r1,.ls r2],Δ,Φ⟩,.set ⟨[.sl 3 0 ((((ps.drop i).map pv).foldl CV s).map AJ).reverse.length 3,bv k1,.ls k2],Δ,Φ⟩,.del,.set (Fp ((((ps.drop i).map pv).foldl CV s).map AJ).reverse)]):=by
 intro m
 induction m with
 |zero=>
  intro i s hm hi hs hb;rw[Aqd (by omega),Ara,AtP];refine Ax Kt Abn (AhK ..) ?_;exact Ak rfl
 |succ m ih0=>
  intro i s hm hi hs hb;have h1:i<ps.length:=by omega
  have hzk:=hz ps[i] (Aqg h1);have hzi:=hzk.mono (show k<=1000000000 by omega);rw[ApV h1,Ap5,Arx];have ih:=ih0 (i+1) (CV s (pv ps[i])) (by omega) (by omega) (by have:=Hk s (pv ps[i]);omega) (Hj hb (hzk.inb.mono (show k<=k+i by omega)));refine Ax Kt Abn (AhK ..) ?_;refine Al ?_;rw[At,AB (φ h1)];simp only[eP,eN,ND,DK,Aa];generalize hS:((ps.drop (i+1)).map pv).foldl CV (CV s (pv ps[i]))=S at ih ⊢
  by_cases hneg:ps[i].v<0
  .have e:CV s (pv ps[i])=s:=by
    have hn:(pv ps[i]).1<0:=hneg
    cases s with
    |nil=>rw[Es,if_pos hn]
    |cons q r=>rw[DG,if_pos hn]
   rw[e]at ih;refine Al ?_ hneg;rw[BZ (by omega)];refine Ab ih ?_;rfl
  have hn:¬(pv ps[i]).1<0:=hneg;refine Ak ?_ hneg
  cases s with
  |nil=>
   rw[Es,if_neg hn]at ih;refine DA ?_ (by decide);obtain⟨o,ho0⟩:∃ o:List Pt,o=[]:=⟨_,rfl⟩;have eo:(([pv ps[i]].map AJ).reverse)=o++[AJ (pv ps[i])]:=by rw[ho0];rfl
   rw[eo]at ih;have ho:o.length<=i:=by rw[ho0];exact AqC _
   rw[show ((([]:List (Int × Int)).map AJ).reverse)=o from ho0.symm];have hf:BB (o.length+1) 40=Δ:=Ba (by omega) (by omega);have hb1:Ap3 (0+o.length*3) (Ag eP o).length=Δ:=Bb Au o (by omega);have e3:Aqe 0 (Ap2 (0+o.length*3) (Ag eP o))++[iv ps[i].v,bv (Ap (zv ps[i].z)).neg,eN (Ap (zv ps[i].z)).abs]=Ag eP (o++[AJ (pv ps[i])]):=by
    rw[Ap4,BH Au o (by omega)];exact BD eP o (AJ (pv ps[i]))
   refine Ab (Ea Kt Z hzi) ?_;simp only[eZ,eN,ND,DK,Aa]at e3 ⊢;rw[hf];refine Ac ?_;rw[hb1];refine Ac ?_;rw[e3,BZ (by omega)];rw[χ,AqB]at ih;refine Ab ih ?_;rfl
  |cons q r=>
   have eo:(((q::r).map AJ).reverse)=(r.map AJ).reverse++[AJ q]:=by simp
   have hq:=hb q (ι ..);rw[eo];rw[DG,if_neg hn]at ih;have hro:(r.map AJ).reverse.length<=i:=by simp at hs ⊢;omega
   by_cases heq:q.1=(pv ps[i]).1
   .rw[if_pos heq,Ap5,Asp]at ih
    generalize (r.map AJ).reverse=o at hro ih ⊢;have e1:Ad.sub .i64 (((o++[AJ q]).length:Nat):Int) 1=((o.length:Nat):Int):=by
     rw[χ,AqB];exact GX (by omega)
    have hlt:o.length<(o++[AJ q]).length:=by simp
    have ga:=Z.add (Ap q.2) ps[i].z (hq.lz.mono (by omega)) (hzk.mono (by omega));rw[AU]at ga;have sp:=Ano o (AJ q) (Ap (q.2+zv ps[i].z));rw[e1];refine CI ?_;rw[At,AL hlt];refine Ac ?_;refine(AgI o (AJ q) _).trans ?_;simp only[ND,DK,Aa];refine BF ?_ (show (AJ q).v=ps[i].v from heq);rw[At,AL hlt];refine Ac ?_;refine(Ani o (AJ q) _).trans ?_;simp only[eN,ND,DK,Aa];refine Ab ga ?_;simp only[eZ,eN,ND,DK,Aa]at sp ⊢;rw[At,AL hlt];refine Ac ?_;rw[show Ap3 (0+o.length*3+1+2) (Ag eP (o++[AJ q])).length=Δ by rw[AP Au];simp;omega];refine Ac ?_;rw[sp,BZ (by omega)];have el:(o++[AJ q]).length=(o++[AJ (q.1,q.2+(pv ps[i]).2)]).length:=by simp
    rw[el];refine Ab ih ?_;rfl
   .rw[if_neg heq,Ap5,Asp,eo]at ih
    have hlen:((r.map AJ).reverse++[AJ q]).length<=i:=by simp at hs ⊢;omega
    have e1:Ad.sub .i64 ((((r.map AJ).reverse++[AJ q]).length:Nat):Int) 1=(((r.map AJ).reverse.length:Nat):Int):=by
     rw[χ,AqB];exact GX (by omega)
    have hlt:(r.map AJ).reverse.length<((r.map AJ).reverse++[AJ q]).length:=by simp
    rw[e1];refine CI ?_;rw[At,AL hlt];refine Ac ?_;refine(AgI _ (AJ q) _).trans ?_;simp only[ND,DK,Aa];refine Bm ?_ (show ¬(AJ q).v=ps[i].v from heq);generalize (r.map AJ).reverse++[AJ q]=o at hlen ih ⊢;have ho:=hlen;have hf:BB (o.length+1) 40=Δ:=Ba (by omega) (by omega);have hb1:Ap3 (0+o.length*3) (Ag eP o).length=Δ:=Bb Au o (by omega);have e3:Aqe 0 (Ap2 (0+o.length*3) (Ag eP o))++[iv ps[i].v,bv (Ap (zv ps[i].z)).neg,eN (Ap (zv ps[i].z)).abs]=Ag eP (o++[AJ (pv ps[i])]):=by
     rw[Ap4,BH Au o (by omega)];exact BD eP o (AJ (pv ps[i]))
    refine Ab (Ea Kt Z hzi) ?_;simp only[eZ,eN,ND,DK,Aa]at e3 ⊢;rw[hf];refine Ac ?_;rw[hb1];refine Ac ?_;rw[e3,BZ (by omega)];rw[χ,AqB]at ih;refine Ab ih ?_;rfl
include Kt Ks C in
theorem EB{n k:Nat}{t:Tm}(h:TmB n k t)(hn:n<=1000000)(hk:k+n<=900000000):D.ask (.fn 62) [.agg (eT t)] []=Θ (.agg (eT t.lf.pln.tm),[]):=by
 obtain⟨ps,kz⟩:=t;have hlen:ps.length<=n:=h.len;obtain⟨r,gs,gr,gp,go⟩:=Uu Ks (l:=ps) (by omega);have gc:=C.clone ps (by omega);have gk:=Ea Kt Z (h.k.mono (show k<=1000000000 by omega));have hzr:∀ p∈r,Lz k p.z:=λp hp=>h.ps p (gp.mem_iff.1 hp)
 have gl:=Aco Kt Z r (k:=k) (by omega) (by omega) hzr [] Φ [] (Ap (zv kz)).neg ((Ap (zv kz)).abs.map eL) _ 0 [] rfl (by omega) (by simp) (by simp);rw[Ap4]at gl;have hsrt:(r.map pv).Pairwise λa b=>a.1<=b.1:=by
  rw[List.pairwise_map];exact ES Pt.v go
 have hpl:=Rj hsrt (gp.map pv);generalize hS:(r.map pv).foldl CV []=S at gl hpl;have hsb:∀ p∈((S.map AJ).reverse),Lz 1000000000 p.z:=by
  have key:∀(t s:List (Int × Int)) (j:Nat),(∀ q∈s,InB (k+j) q.2)->(∀ q∈t,InB k q.2)->∀ q∈t.foldl CV s,InB (k+j+t.length) q.2:=by
   intro t
   induction t with
   |nil=>intro s j hs _ q hq;exact hs q hq
   |cons p t ih=>
    intro s j hs ht q hq;have:=ih (CV s p) (j+1) (Hj hs ((ht p (ι ..)).mono (show k<=k+j by omega))) (λq hq=>ht q (π _ hq)) q hq;rw[ο];exact this.mono (by omega)
  intro p hp;rw[List.mem_reverse,Aqm]at hp;obtain⟨q,hq,rfl⟩:=hp;have:=key (r.map pv) [] 0 (by simp) (λq hq=>by
   rw[Aqm]at hq;obtain⟨p,hp,rfl⟩:=hq;exact(hzr p hp).inb) q (by rw[hS];exact hq)
  rw[Ap1]at this;exact(this.lz).mono (by omega)
 have hSl:S.length<=1000000:=by
  have key:∀(t s:List (Int × Int)),(t.foldl CV s).length<=s.length+t.length:=by
   intro t
   induction t with
   |nil=>intro s;simp
   |cons p t ih=>
    intro s;have:=ih (CV s p);have h2:=Hk s p;rw[Arx,ο];omega
  have:=key (r.map pv) [];rw[hS,Ap1]at this;simp at this;omega
 obtain⟨cells,gd,gt,gle⟩:=AaA Ks (λp=>decide (zv p.z=0)) (S.map AJ).reverse (by simp;omega) λp hp=>Qa Ks Z (hsb p hp)
 have hfin:((S.map AJ).reverse).filter (λp=>!decide (zv p.z=0))=(AC (ps.map pv)).map AJ:=by
  rw[←hpl,←List.map_reverse,List.filter_map]
  congr 1
  refine List.filter_congr λq _=>?_
  show (!decide (zv (Ap q.2)=0))=_
  rw[AU]
 rw[hfin]at gd gt gle;refine AI Kt Abn (e62 ..) ?_;refine Ab gc ?_;simp only[ND,DK,Aa];refine Ab gs ?_;simp only[ND,DK,Aa];refine Ab gk ?_;simp only[eZ,eN,ND,DK,Aa];rw[show Ap3 (0+ps.length*3) (Ag eP r).length=Δ from Bb Au r (by omega)];refine Ac ?_;rw[Bw Au r (by omega),←gr];refine Ab gl ?_;simp only[ND,DK,Aa];refine Ab gd ?_;simp only[ND,DK,Aa];rw[show Ap3 (0+((AC (ps.map pv)).map AJ).length*3) cells.length=Δ by simp;simp at gle;omega];refine Ac ?_;rw[gt,DE Au];rfl
end
section
open Go.RowKit
def Qf:MFn:=AY [⟨36,(mB 3593),[],[],[(1,((mB 9),([],[])))]⟩,⟨36,(mB 234881088),[(6,3)],[],[(3,((mB 64),([],[])))]⟩] 230
def L7:Hnt:=⟨[(262,(.sl 0 3,[.row Δ]))],[(0,[(1,([.ls,.int .i64],[]))]),(1,[(3,([.sl 1 3],[.del,.row Δ]))])],[(13,[.ls]),(14,[.ls]),(29,[.ls]),(30,[.ls])]⟩
def Aiu:MFn:=AY [] 125
def AhT:Hnt:=⟨[(138,(.agg AR,[]))],[],[(3,AR)]⟩
def AiP:MFn:=AY [] 185
def Aie:Hnt:=⟨[(62,(.agg B6,[])),(139,(.agg AR,[])),(230,(.ls,[]))],[],[(6,[.ls]),(8,[.ls]),(12,AR),(14,AR)]⟩
def AmW:MFn:=AY [] 68
def Aml:Hnt:=⟨[(126,(.agg AR,[])),(148,(.agg B6,[]))],[],[(3,B6)]⟩
def Xi:MFn:=AY [⟨35,(mB 114744),[(1000005,3)],[3,4],[(1,((mB 48),([],[3])))]⟩] 148
def Tr:Hnt:=⟨[(62,(.agg B6,[])),(158,(.agg AR,[]))],[(0,[(1,([.ptr 1 0,.ptr 2 0],[.del,.box B6,.box [.sl 4 3,.bool,.ls],.del,.row Δ]))])],[(9,AR),(10,AR),(14,[.ls]),(18,Bj),(19,Bj),(21,[.ls]),(23,[.int .i64]),(25,AR),(26,AR),(33,B6)]⟩
def Aiw:MFn:=AY [] 127
def AhV:Hnt:=⟨[(68,(.agg B6,[])),(185,(.agg B6,[]))],[],[(5,B6),(6,B6)]⟩
def AmP:MFn:=AY [] 27
def Ame:Hnt:=⟨[(62,(.agg B6,[]))],[],[(3,B6)]⟩
def AmQ:MFn:=AY [] 28
def Amf:Hnt:=⟨[(62,(.agg B6,[]))],[],[(3,B6)]⟩
def KF:List (Nat × MFn):=[(230,Qf),(125,Aiu),(185,AiP),(68,AmW),(148,Xi),(127,Aiw),(27,AmP),(28,AmQ)]
variable (A:Ar) (D:Orc)
theorem Aot(x0:Rw):Cm A D Av L7 .n 230 Qf [Ψ x0] [] =
 Af D (ApW 230 0) [Ψ x0,iv 0,Ψ x0,iv ↑(AS x0),iv 0] [] [.t,.C,.x,.X,.Y] λc l o=>
 br (Bp 1 c)
 (dk [.L,.I,.N,.E] [.l l,.o o] λxs n=>
 Af D (ψ 262) [AV.v (Value.slice Ξ 0 0),iv n] [] [.q 0 3,.R,.X,.E] λn1 cs1=>
 Af D (ApW 230 1) [γ 0 0 n1 3,Ψ xs,iv ↑(AS xs),iv 0] [θ cs1 Δ Δ] [.t,.C,.x,.X,.Y] λc2 l4 o2=>
 br (Bp 3 c2)
 (dk [.C,.q 1 3,.N,.D,.R,.X,.E] [.l l4,.o o2] λn2 cs3=>
 br ((0+n2*3).ble cs3.length) (Θ ((Ψ (Bi n2 3 (Ap2 (n2*3) cs3)),[]))) Ξ)
 (Ξ))
 (Ξ):=by kernel_rfl
theorem AaL(t0:Rw)(t3:Int)(t9:Rw)(t10 t11:Int):D2 A D Av L7 .n 230 0 (AW Qf 0).fst (AW Qf 0).snd [Ψ t0,iv t3,Ψ t9,iv t10,iv t11] [] =
 br (A.lt t11 t10)
 (unI t11 λi=>
 BG t9 i λcs=>
 dk [.L,.N] [.l cs] λxs=>
 br (A.lt (A.add δ t3 ↑(AS xs)) 0)
 (Ξ)
 (AK D (ApW 230 0) [Ψ t0,iv (A.add δ t3 ↑(AS xs)),Ψ t9,iv t10,iv (A.add δ t11 1)] [] λr o=>
 AF 0 [] (AH.mk [] 0 Ξ) [] r o))
 (Θ ((ε [iv 0,Ψ t0,iv t3],[]))):=by kernel_rfl
theorem AaM(n6:Nat)(c6:List AV)(t25:Rw)(t26 t27:Int):D2 A D Av L7 .n 230 1 (AW Qf 1).fst (AW Qf 1).snd [γ 0 0 n6 3,Ψ t25,iv t26,iv t27] [{ cells:=c6,st:=Δ,ex:=Δ }] =
 br (A.lt t27 t26)
 (unI t27 λi=>
 BG t25 i λcs=>
 dk [.L,.N] [.l cs] λxs=>
 br (Gw 3 xs) (br ((AS xs).beq 0)
 (AK D (ApW 230 1) [γ 0 0 n6 3,Ψ t25,iv t26,iv (A.add δ t27 1)] [θ c6 Δ Δ] λr o=>
 AF 1 [0] (AH.mk [(0,θ c6 Δ Δ)] 1 Ξ) [] r o)
 (br (HI (IH xs)) (br (BB (n6+AS xs) 40) (br ((0+n6*3).ble c6.length) (AK D (ApW 230 1) [γ 0 0 (n6+AS xs) 3,Ψ t25,iv t26,iv (A.add δ t27 1)] [θ (Aqe 0 (Ap2 (0+n6*3) c6)++IH xs) Δ Δ] λr o=>
 AF 1 [1] (AH.mk [(1,θ (Aqe 0 (Ap2 (0+n6*3) c6)++IH xs) Δ Δ)] 2 Ξ) [0] r o) Ξ) Ξ) Ξ)) Ξ)
 (Θ ((ε [iv 2,γ 1 0 n6 3],[BO.del,ApX (θ c6 Δ Δ)]))):=by kernel_rfl
theorem AnV(x0_0:Bool)(x0_1:Rw):Cm A D Av AhT .n 125 Aiu [ω [bv x0_0,Ψ x0_1]] [] =
 Af D (ψ 138) [ω [bv x0_0,Ψ x0_1]] [] [.a,.B,.L,.N,.E] λb xs=>
 Θ ((ω [Ψ [],bv b,Ψ xs],[])):=by kernel_rfl
theorem Aoi(x0_0:Rw)(x0_1:Bool)(x0_2 x1_0:Rw)(x1_1:Bool)(x1_2:Rw):Cm A D Av Aie .n 185 AiP [ω [Ψ x0_0,bv x0_1,Ψ x0_2],ω [Ψ x1_0,bv x1_1,Ψ x1_2]] [] =
 Af D (ψ 230) [Ψ [[Ψ x0_0],[Ψ x1_0]]] [] [.l,.E] λxs=>
 Af D (ψ 139) [ω [bv x0_1,Ψ x0_2],ω [bv x1_1,Ψ x1_2]] [] [.a,.B,.L,.N,.E] λb xs1=>
 Af D (ψ 62) [ω [Ψ xs,bv b,Ψ xs1]] [] [.a,.L,.B,.L,.N,.E] λxs2 b1 xs3=>
 Θ ((ω [Ψ xs2,bv b1,Ψ xs3],[])):=by kernel_rfl
theorem e68(x0_0:Rw)(x0_1:Bool)(x0_2:Rw):Cm A D Av Aml .n 68 AmW [ω [Ψ x0_0,bv x0_1,Ψ x0_2]] [] =
 Af D (ψ 126) [iv (-1)] [] [.a,.B,.L,.N,.E] λb xs=>
 Af D (ψ 148) [ω [Ψ x0_0,bv x0_1,Ψ x0_2],ω [bv b,Ψ xs]] [] [.a,.L,.B,.L,.N,.E] λxs1 b1 xs2=>
 Θ ((ω [Ψ xs1,bv b1,Ψ xs2],[])):=by kernel_rfl
theorem An8(x0_0:Rw)(x0_1:Bool)(x0_2:Rw)(x1_0:Bool)(x1_1:Rw):Cm A D Av Tr .n 148 Xi [ω [Ψ x0_0,bv x0_1,Ψ x0_2],ω [bv x1_0,Ψ x1_1]] [] =
 Af D (ψ 158) [ω [bv x0_1,Ψ x0_2],ω [bv x1_0,Ψ x1_1]] [] [.a,.B,.L,.N,.E] λb xs=>
 Af D (ApW 148 0) [Aqk 0 0,Aqk 1 0,Aqk 2 0,Ψ x0_0,iv ↑(AS x0_0),iv 0] [bk [bv x1_0,Ψ x1_1],bk [Ψ [],bv Φ,Ψ []],bk [γ 3 0 0 3,bv b,Ψ xs],θ [] Δ Δ] [.t,.C,.x,.X,.Y] λc l2 o1=>
 br (Bp 1 c)
 (dk [.P 1 0,.P 2 0,.N,.D,.T,.L,.B,.L,.N,.T,.C,.q 4 3,.B,.L,.N,.D,.R,.X,.E] [.l l2,.o o1] λ_ _ _ n b2 xs3 cs4=>
 br ((0+n*3).ble cs4.length) (AK D (ψ 62) [ω [Ψ (Bi n 3 (Ap2 (n*3) cs4)),bv b2,Ψ xs3]] [] λr2 o2=>
 dk [.a,.L,.B,.L,.N,.E] [.v r2,.o o2] λxs4 b3 xs5=>
 Θ ((ω [Ψ xs4,bv b3,Ψ xs5],[]))) Ξ)
 (Ξ):=by kernel_rfl
theorem AaB(i0:Bool)(i1 r0:Rw)(r1:Bool)(r2:Rw)(n5:Nat)(k1:Bool)(k2:Rw)(c5:List AV)(t14:Rw)(t15 t16:Int):D2 A D Av Tr .n 148 0 (AW Xi 0).fst (AW Xi 0).snd [Aqk 0 0,Aqk 1 0,Aqk 2 0,Ψ t14,iv t15,iv t16] [bk [bv i0,Ψ i1],bk [Ψ r0,bv r1,Ψ r2],bk [γ 3 0 n5 3,bv k1,Ψ k2],{ cells:=c5,st:=Δ,ex:=Δ }] =
 br (A.lt t16 t15)
 (unI t16 λi=>
 BG t14 i λcs=>
 dk [.I,.B,.L,.N] [.l cs] λn b xs=>
 Af D (ψ 158) [ω [bv b,Ψ xs],ω [bv i0,Ψ i1]] [] [.a,.B,.L,.N,.E] λb1 xs1=>
 br (BB (n5+1) 40) (br ((0+n5*3).ble c5.length) (AK D (ApW 148 0) [Aqk 0 0,Aqk 1 0,Aqk 2 0,Ψ t14,iv t15,iv (A.add δ t16 1)] [bk [bv i0,Ψ i1],bk [Ψ r0,bv r1,Ψ r2],bk [γ 3 0 (n5+1) 3,bv k1,Ψ k2],θ (Aqe 0 (Ap2 (0+n5*3) c5)++[iv n,bv b1,Ψ xs1]) Δ Δ] λr3 o1=>
 AF 4 [0,1,2,6] (AH.mk [(1,bk [Ψ r0,bv r1,Ψ r2]),(0,bk [bv i0,Ψ i1]),(2,bk [γ 6 0 (n5+1) 3,bv k1,Ψ k2]),(6,θ (Aqe 0 (Ap2 (0+n5*3) c5)++[iv n,bv b1,Ψ xs1]) Δ Δ),(5,θ [iv n,bv b1,Ψ xs1] Δ Δ),(4,bk [iv n,bv b,Ψ xs])] 7 Ξ) [3,2,0,1] r3 o1) Ξ) Ξ)
 (Θ ((ε [iv 0,Aqk 1 0,Aqk 2 0],[BO.del,ApX (bk [Ψ r0,bv r1,Ψ r2]),ApX (bk [γ 4 0 n5 3,bv k1,Ψ k2]),BO.del,ApX (θ c5 Δ Δ)]))):=by kernel_rfl
theorem AnX(x0_0:Rw)(x0_1:Bool)(x0_2 x1_0:Rw)(x1_1:Bool)(x1_2:Rw):Cm A D Av AhV .n 127 Aiw [ω [Ψ x0_0,bv x0_1,Ψ x0_2],ω [Ψ x1_0,bv x1_1,Ψ x1_2]] [] =
 Af D (ψ 68) [ω [Ψ x1_0,bv x1_1,Ψ x1_2]] [] [.a,.L,.B,.L,.N,.E] λxs b xs1=>
 Af D (ψ 185) [ω [Ψ x0_0,bv x0_1,Ψ x0_2],ω [Ψ xs,bv b,Ψ xs1]] [] [.a,.L,.B,.L,.N,.E] λxs2 b1 xs3=>
 Θ ((ω [Ψ xs2,bv b1,Ψ xs3],[])):=by kernel_rfl
theorem e27(x0_0:Rw)(x0_1:Bool)(x0_2:Rw):Cm A D Av Ame .n 27 AmP [ω [Ψ x0_0,bv x0_1,Ψ x0_2]] [] =
 Af D (ψ 62) [ω [Ψ x0_0,bv x0_1,Ψ x0_2]] [] [.a,.L,.B,.L,.N,.E] λxs b xs1=>
 Θ ((ω [Ψ xs,bv b,Ψ xs1,bv Δ],[])):=by kernel_rfl
theorem e28(x0_0:Rw)(x0_1:Bool)(x0_2:Rw):Cm A D Av Amf .n 28 AmQ [ω [Ψ x0_0,bv x0_1,Ψ x0_2]] [] =
 Af D (ψ 62) [ω [Ψ x0_0,bv x0_1,Ψ x0_2]] [] [.a,.L,.B,.L,.N,.E] λxs b xs1=>
 Θ ((ω [Ψ xs,bv b,Ψ xs1,bv Φ],[])):=by kernel_rfl
end
def eR(r:List Pt):List AV:=[.ls (r.map eP)]
theorem V3(p:Pt):HI (eP p)=Δ:=rfl
def scP(x:Zi)(p:Pt):Pt:=⟨p.v,Ap (zv p.z*zv x)⟩
theorem Ajj{a b:Nat}(h:a+b<4611686018427387904):Ad.add .i64 (a:Int) (b:Int)=((a+b:Nat):Int):=by
 rw[EG (by omega) (by omega)];omega
section
variable {D:Orc} (Kt:Knows Av Fj D) (Kf:Knows Av KF D) (Ks:Knows Av DY D) (Z:ZF D) (C:PartF D)
include Kf
theorem Ajs(rs:List (List Pt))(X:List (List AV))(hr:rs.length<=1000000):∀(m i s:Nat),rs.length-i=m->i<=rs.length->s+(rs.drop i).flatten.length<=1000000000->
  D.ask (.lp 230 0) [.ls X,iv (s:Int),.ls (rs.map eR),iv (rs.length:Int),iv (i:Int)] []=Θ (.tup [iv 0,.ls X,iv ((s+(rs.drop i).flatten.length:Nat):Int)],[]):=by
 intro m
 induction m with
 |zero=>
  intro i s hm hi hs;rw[Aqd (by omega)];refine Ax Kf L7 (AaL ..) ?_;exact Ak rfl
 |succ m ih=>
  intro i s hm hi hs;have h1:i<rs.length:=by omega
  rw[ApV h1,Aq4,χ]at hs ⊢;have ih:=ih (i+1) (s+rs[i].length) (by omega) (by omega) (by omega);rw[show s+rs[i].length+(rs.drop (i+1)).flatten.length=s+(rs[i].length+(rs.drop (i+1)).flatten.length) by omega]at ih;refine Ax Kf L7 (AaL ..) ?_;refine Al ?_;rw[At,AB (φ h1)];simp only[eR,ND,DK,Aa];rw[Aw,Ajj (by omega),BZ (by omega)];refine Ak ?_;refine Ab ih ?_;rfl
theorem Ajt(rs:List (List Pt))(hr:rs.length<=1000000):∀(m i:Nat) (out:List Pt),rs.length-i=m->i<=rs.length->out.length+(rs.drop i).flatten.length<=1000000000->
  D.ask (.lp 230 1) [.sl 0 0 out.length 3,.ls (rs.map eR),iv (rs.length:Int),iv (i:Int)] [Fp out]=Θ (.tup [iv 2,.sl 1 0 (out++(rs.drop i).flatten).length 3],[.del,.set (Fp (out++(rs.drop i).flatten))]):=by
 intro m
 induction m with
 |zero=>
  intro i out hm hi hs;rw[Aqd (by omega),List.flatten_nil,Aq9];refine Ax Kf L7 (AaM ..) ?_;exact Ak rfl
 |succ m ih=>
  intro i out hm hi hs;have h1:i<rs.length:=by omega
  rw[ApV h1,Aq4]at hs ⊢;rw[χ]at hs;have ih:=ih (i+1) (out++rs[i]) (by omega) (by omega) (by rw[χ];omega);rw[Ap7]at ih;refine Ax Kf L7 (AaM ..) ?_;refine Al ?_;rw[At,AB (φ h1)];revert hs ih;generalize rs[i]=r;intro hs ih;simp only[eR,ND,DK,Aa];rw[LQ Au,Aw,BZ (by omega)];refine Ac ?_
  by_cases h0:r=[]
  .subst h0
   rw[Aq9]at ih;rw[Aql]at ih ⊢;refine Ac ?_;refine Ab ih ?_;rfl
  .have hz:Nat.beq r.length 0=Φ:=by
    cases r with
    |nil=>exact absurd rfl h0
    |cons x r=>rfl
   rw[hz];refine B1 ?_;rw[E7,HK V3];refine Ac ?_;rw[Ba (n:=out.length+r.length) (b:=40) (by omega) (by omega)];refine Ac ?_;rw[show Ap3 (0+out.length*3) (Ag eP out).length=Δ from Bb Au out (by omega)];refine Ac ?_;have e3:Aqe 0 (Ap2 (0+out.length*3) (Ag eP out))++Ag eP r=Ag eP (out++r):=by
    rw[Ap4,BH Au out (by omega)];simp[Ag]
   rw[e3];rw[show (out++r).length=out.length+r.length from χ]at ih;refine Ab ih ?_;rfl
include C in
theorem Yr(a b:List Pt)(h:a.length+b.length<=1000000):D.ask (.fn 230) [.ls [[.ls (a.map eP)],[.ls (b.map eP)]]] []=Θ (.ls ((a++b).map eP),[]):=by
 have hf:([a,b]).flatten=a++b:=by simp
 have g0:=Ajs Kf [a,b] (([a,b]).map eR) (by simp) _ 0 0 rfl (by simp) (by rw[Ap4,hf,χ];omega);rw[Ap4,hf,Ap6]at g0;have gg:=C.grow (a++b).length (by rw[χ];omega);have g1:=Ajt Kf [a,b] (by simp) _ 0 [] rfl (by simp) (by rw[Ap4,hf,χ];simp;omega);rw[Ap4,hf,Aql]at g1;refine AI Kf L7 (Aot ..) ?_;refine Ab g0 ?_;simp only[ND,DK,Aa];refine Ab gg ?_;simp only[ND,DK,Aa];refine Ab g1 ?_;simp only[ND,DK,Aa];rw[show Ap3 (0+(a++b).length*3) (Ag eP (a++b)).length=Δ from Bb Au (a++b) (by omega)];refine Ac ?_;rw[Bw Au (a++b) rfl];rfl
include Kt Ks Z C
theorem Ajk{n m k:Nat}{a b:Tm}(ha:TmB n k a)(hb:TmB m k b)(hn:n+m<=1000000)(hk:k+1+(n+m)<=900000000):D.ask (.fn 185) [.agg (eT a),.agg (eT b)] []=Θ (.agg (eT (a.lf.add b.lf).tm),[]):=by
 obtain⟨ap,ak⟩:=a;obtain⟨bp,bk⟩:=b;have l1:ap.length<=n:=ha.len;have l2:bp.length<=m:=hb.len;have gc:=Yr Kf C ap bp (by omega);have ga:=Z.add ak bk (ha.k.mono (by omega)) (hb.k.mono (by omega));have hT:TmB (n+m) (k+1) ⟨ap++bp,Ap (zv ak+zv bk)⟩:=by
  refine⟨by simp;omega,λp hp=>?_,?_⟩
  .rcases List.mem_append.1 hp with h|h
   .exact(ha.ps p h).mono (by omega)
   .exact(hb.ps p h).mono (by omega)
  .exact(InB.add ha.k.inb hb.k.inb).lz
 have gp:=EB Kt Ks Z C hT hn (by omega);have el:(⟨ap++bp,Ap (zv ak+zv bk)⟩:Tm).lf.pln=Lf.add (Tm.lf ⟨ap,ak⟩) (Tm.lf ⟨bp,bk⟩):=by
  unfold Lf.add Tm.lf;simp only[List.map_append,AU]
 rw[el]at gp;refine AI Kf Aie (Aoi ..) ?_;refine Ab gc ?_;simp only[ND,DK,Aa];refine Ab ga ?_;simp only[eZ,eN,ND,DK,Aa];refine Ab gp ?_;rfl
omit Kt Ks C in
theorem AcP{k j:Nat}{x:Zi}(hx:Lz j x)(hx24:x.abs.length<24)(ps:List Pt)(hl:ps.length<=1000000)(hz:∀ p∈ps,Lz k p.z)(hk:k<=400000000)(hj:j<=400000000)(r0:List (List AV))(r1:Bool)(r2:List (List AV))(k1:Bool)(k2:List (List AV)):∀(m i:Nat) (out:List Pt),ps.length-i=m->i<=ps.length->out.length<=i->
  D.ask (.lp 148 0) [.ptr 0 0,.ptr 1 0,.ptr 2 0,.ls (ps.map eP),iv (ps.length:Int),iv (i:Int)] [⟨eZ x,Δ,Φ⟩,⟨[.ls r0,bv r1,.ls r2],Δ,Φ⟩,⟨[.sl 3 0 out.length 3,bv k1,.ls k2],Δ,Φ⟩,Fp out]
   = Θ (.tup [iv 0,.ptr 1 0,.ptr 2 0],[.del,.set ⟨[.ls r0,bv r1,.ls r2],Δ,Φ⟩,.set ⟨[.sl 4 0 (out++(ps.drop i).map (scP x)).length 3,bv k1,.ls k2],Δ,Φ⟩,.del,.set (Fp (out++(ps.drop i).map (scP x)))]):=by
 intro m
 induction m with
 |zero=>
  intro i out hm hi ho;rw[Aqd (by omega),Ara,Aq9];refine Ax Kf Tr (AaB ..) ?_;exact Ak rfl
 |succ m ih=>
  intro i out hm hi ho;have h1:i<ps.length:=by omega
  have hzk:=hz ps[i] (Aqg h1);have gm:=Z.mul ps[i].z x (hzk.mono (by omega)) (hx.mono (by omega)) (.inr hx24);rw[ApV h1,Ap5];have ih:=ih (i+1) (out++[scP x ps[i]]) (by omega) (by omega) (by simp;omega);rw[Ap7,List.singleton_append,show (out++[scP x ps[i]]).length=out.length+1 by simp]at ih;have hf:BB (out.length+1) 40=Δ:=Ba (by omega) (by omega);have hb1:Ap3 (0+out.length*3) (Ag eP out).length=Δ:=Bb Au out (by omega);have e3:Aqe 0 (Ap2 (0+out.length*3) (Ag eP out))++[iv ps[i].v,bv (Ap (zv ps[i].z*zv x)).neg,eN (Ap (zv ps[i].z*zv x)).abs]=Ag eP (out++[scP x ps[i]]):=by
   rw[Ap4,BH Au out (by omega)];exact BD eP out (scP x ps[i])
  obtain⟨xn,xa⟩:=x;refine Ax Kf Tr (AaB ..) ?_;refine Al ?_;rw[At,AB (φ h1)];simp only[eP,eN,ND,DK,Aa];refine Ab gm ?_;simp only[eZ,eN,ND,DK,Aa]at e3 ⊢;rw[hf];refine Ac ?_;rw[hb1];refine Ac ?_;rw[e3,BZ (by omega)];refine Ab ih ?_;rfl
theorem AcQ{n k j:Nat}{a:Tm}{x:Zi}(ha:TmB n k a)(hx:Lz j x)(hx24:x.abs.length<24)(hn:n<=1000000)(hj:j<=23)(hk:k+j+n<=400000000):D.ask (.fn 148) [.agg (eT a),.agg (eZ x)] []=Θ (.agg (eT (a.lf.scale (zv x)).tm),[]):=by
 obtain⟨ap,ak⟩:=a;have l1:ap.length<=n:=ha.len;have gm:=Z.mul ak x (ha.k.mono (by omega)) (hx.mono (by omega)) (.inr hx24);have gl:=AcP Kf Z hx hx24 ap (by omega) ha.ps (by omega) (by omega) [] Φ [] (Ap (zv ak*zv x)).neg ((Ap (zv ak*zv x)).abs.map eL) _ 0 [] rfl (by omega) (by simp);rw[Ap4,Aql]at gl;have hT:TmB n (k+j) ⟨ap.map (scP x),Ap (zv ak*zv x)⟩:=by
  refine⟨by simpa using l1,λp hp=>?_,(InB.mul ha.k.inb hx.inb).lz⟩;rw[Aqm]at hp;obtain⟨q,hq,rfl⟩:=hp;exact(InB.mul (ha.ps q hq).inb hx.inb).lz
 have gp:=EB Kt Ks Z C hT hn (by omega);have el:(⟨ap.map (scP x),Ap (zv ak*zv x)⟩:Tm).lf.pln=Lf.scale (Tm.lf ⟨ap,ak⟩) (zv x):=by
  unfold Lf.scale Tm.lf;simp only[Art,AU]
  congr 2
  refine List.map_congr_left λp _=>?_
  show ((p.v,zv (Ap (zv p.z*zv x))):Int × Int)=_
  rw[AU];rfl
 rw[el]at gp;obtain⟨xn,xa⟩:=x;refine AI Kf Tr (An8 ..) ?_;refine Ab gm ?_;simp only[eZ,eN,ND,DK,Aa,Aw];refine Ab gl ?_;simp only[ND,DK,Aa];rw[show Ap3 (0+(ap.map (scP ⟨xn,xa⟩)).length*3) (Ag eP (ap.map (scP ⟨xn,xa⟩))).length=Δ from Bb Au _ (by omega)];refine Ac ?_;rw[Bw Au _ rfl];refine Ab gp ?_;rfl
theorem VW{n k:Nat}{a:Tm}(ha:TmB n k a)(hn:n<=1000000)(hk:k+1+n<=400000000):D.ask (.fn 68) [.agg (eT a)] []=Θ (.agg (eT (a.lf.scale (-1)).tm),[]):=by
 have g1:=Z.of_ (-1) (by omega) (by omega);have hx:Lz 1 (Ap (-1)):=InB.lz (by unfold InB;decide);have g2:=AcQ Kt Kf Ks Z C ha hx (by have:=hx.len;omega) hn (by omega) hk;rw[AU]at g2;refine AI Kf Aml (e68 ..) ?_;refine Ab g1 ?_;simp only[eZ,eN,ND,DK,Aa];refine Ab g2 ?_;rfl
theorem Wn{n m k:Nat}{a b:Tm}(ha:TmB n k a)(hb:TmB m k b)(hn:n+m<=1000000)(hk:k+2+2*(n+m)<=400000000):D.ask (.fn 127) [.agg (eT a),.agg (eT b)] []=Θ (.agg (eT (a.lf.sub b.lf).tm),[]):=by
 have g1:=VW Kt Kf Ks Z C hb (by omega) (by omega);have hn1:LB m (k+1+m) (b.lf.scale (-1)):=hb.lb.scale (by unfold InB;decide);have g2:=Ajk Kt Kf Ks Z C (ha.mono (κ _) (show k<=k+1+m by omega)) hn1.tb hn (by omega);rw[BS]at g2;refine AI Kf AhV (AnX ..) ?_;refine Ab g1 ?_;simp only[eT,eN,ND,DK,Aa];refine Ab g2 ?_;rfl
omit Ks C in
theorem Qm{z:Zi}(hz:Lz 1000000000 z):D.ask (.fn 125) [.agg (eZ z)] []=Θ (.agg (eT (Lf.num (zv z)).tm),[]):=by
 have g:=Ea Kt Z hz;refine AI Kf AhT (AnV ..) ?_;refine Ab g ?_;rfl
theorem AhD{n k:Nat}{t:Tm}(h:TmB n k t)(hn:n<=1000000)(hk:k+n<=900000000):D.ask (.fn 27) [.agg (eT t)] []=Θ (.agg (eT t.lf.pln.tm++[bv Δ]),[]):=by
 have g:=EB Kt Ks Z C h hn hk;refine AI Kf Ame (e27 ..) ?_;refine Ab g ?_;rfl
theorem AbO{n k:Nat}{t:Tm}(h:TmB n k t)(hn:n<=1000000)(hk:k+n<=900000000):D.ask (.fn 28) [.agg (eT t)] []=Θ (.agg (eT t.lf.pln.tm++[bv Φ]),[]):=by
 have g:=EB Kt Ks Z C h hn hk;refine AI Kf Amf (e28 ..) ?_;refine Ab g ?_;rfl
end
section
open Go.RowKit
variable (A:Ar) (D:Orc)
end
inductive FB (n k:Nat):Fm->Prop
 |mk {kind:Int} {t:Tm} {e:Bool} {ks:List Fm} (ht:TmB n k t) (hl:ks.length<=1000000) (h:∀ x∈ks,FB n k x):FB n k (.mk kind t e ks)
theorem AbC{k:Int}{t:Tm}{e:Bool}{ks:List Fm}{x:Fm}(h:x∈ks):SizeOf.sizeOf x<SizeOf.sizeOf (Fm.mk k t e ks):=by
 have:=List.sizeOf_lt_of_mem h;simp only[Fm.mk.sizeOf_spec];omega
section
open Go.RowKit
def AoJ:MFn:=AY [⟨36,(mB 118),[],[2,4,5],[(1,((mB 48),([],[2])))]⟩] 77
def AoK:MFn:=AY [⟨27,(mB 118),[],[2,4,5],[(1,((mB 48),([],[2])))]⟩] 87
def AoG:MFn:=AY [] 31
def AeD:MFn:=AY [⟨26,(mB 133),[],[],[(0,((mB 64),([],[]))),(1,([],([],[])))]⟩] 29
def Abm:Hnt:=⟨[],[(0,[(0,([.bool],[])),(1,([],[]))])],[(20,AR),(22,[.ls])]⟩
def AoH:MFn:=AY [⟨65,(mB 38),[],[2],[(0,((mB 16),([],[2]))),(2,([],([],[2])))]⟩,⟨65,(mB 70),[],[2],[(0,((mB 16),([],[2]))),(4,([],([],[2])))]⟩] 37
def Uy:List (Nat × MFn):=[(77,AoJ),(87,AoK),(31,AoG),(29,AeD),(37,AoH)]
variable (A:Ar) (D:Orc)
theorem e29(x0:Rw)(x1 x2:Int):Cm A D Av Abm .n 29 AeD [Ψ x0,iv x1,iv x2] [] =
 br (A.lt x1 ↑(AS x0))
 (Θ ((bv Φ,[])))
 (Af D (ApW 29 0) [Ψ x0,iv x2,iv 0] [] [.t,.C,.x,.X,.Y] λc l o=>
 br (Bp 0 c)
 (dk [.B,.N,.E] [.l l,.o o] λb=>
 Θ ((bv b,[])))
 (br (Bp 1 c)
 (Gu l<|
 Fl o<|
 Θ ((bv Δ,[])))
 (Ξ))):=by kernel_rfl
theorem AhJ(t0:Rw)(t2 t7:Int):D2 A D Av Abm .n 29 0 (AW AeD 0).fst (AW AeD 0).snd [Ψ t0,iv t2,iv t7] [] =
 br (A.lt t7 ↑(AS t0))
 (unI t7 λi=>
 BG t0 i λcs=>
 dk [.B,.L,.N] [.l cs] λ_ xs=>
 br (A.lt t2 ↑(AS xs))
 (Θ ((ε [bv Δ,bv Φ],[])))
 (AK D (ApW 29 0) [Ψ t0,iv t2,iv (A.add δ t7 1)] [] λr o=>
 AF 0 [] (AH.mk [] 0 Ξ) [] r o))
 (Θ ((ε [iv 0],[]))):=by kernel_rfl
end
theorem AcS(n:Int):Fs n=0 ↔ n=0:=by
 unfold Fs
 repeat' split
 all_goals omega
theorem XJ(n:Int):0<Fs n ↔ 0<n:=by
 unfold Fs
 repeat' split
 all_goals omega
section
variable {D:Orc} (Kh:Knows Av Uy D) (F:RF D)
include Kh F
omit Kh F in
theorem YM{n k j:Nat}{l:Lf}(hl:LB n k l){vals:List Int}(hv:∀ x∈vals,InB j x):InB (k+n+j+vals.length+1) (l.val (Ek vals)):=by
 rw[Adq,AtW];exact InB.add (Uv hl hv _) (hl.k.mono (by omega))
end
section
variable {D:Orc} (Kh:Knows Av Uy D)
include Kh
theorem Aef(vals:List Zi)(m:Int)(hl:vals.length<=1000000):∀(k i:Nat),vals.length-i=k->i<=vals.length->
  D.ask (.lp 29 0) [.ls (vals.map eZ),iv m,iv (i:Int)] []=Θ (if ∀ z∈vals.drop i,(z.abs.length:Int)<=m then .tup [iv 0] else .tup [bv Δ,bv Φ],[]):=by
 intro k
 induction k with
 |zero=>
  intro i hm hi;rw[Aqd (by omega),if_pos (by simp)];refine Ax Kh Abm (AhJ ..) ?_;rw[Aw];exact Ak rfl
 |succ k ih=>
  intro i hm hi;have h1:i<vals.length:=by omega
  have ih:=ih (i+1) (by omega) (by omega);rw[ApV h1];refine Ax Kh Abm (AhJ ..) ?_;rw[Aw];refine Al ?_;rw[At,AB (φ h1)];simp only[eZ,eN,ND,DK,Aa];rw[Aw]
  by_cases hz:m<(vals[i].abs.length:Int)
  .refine Al ?_ hz
   rw[if_neg (λh=>by have:=h vals[i] (ι ..);omega)]
  .refine Ak ?_ hz
   rw[BZ (by omega)];refine Ab ih ?_
   by_cases hr:∀ z∈vals.drop (i+1),(z.abs.length:Int)<=m
   .rw[if_pos hr,if_pos (λz hz2=>by
     rcases List.mem_cons.1 hz2 with rfl|hz2
     .omega
     .exact hr z hz2)]
    rfl
   .rw[if_neg hr,if_neg (λh=>hr λz hz=>h z (π _ hz))]
    rfl
theorem Aeg(vals:List Zi)(n m:Nat)(hn:n<=1000000)(hl:vals.length<4611686018427387904):D.ask (.fn 29) [.ls (vals.map eZ),iv (n:Int),iv (m:Int)] []=Θ (bv (decide (vals.length<=n/\∀ z∈vals,z.abs.length<=m)),[]):=by
 refine AI Kh Abm (e29 ..) ?_;rw[Aw]
 by_cases h:n<vals.length
 .rw[decide_eq_false (λe=>by omega)]
  exact QW (by omega)
 .have g:=Aef Kh vals m (by omega) _ 0 rfl (by omega)
  rw[Ap4]at g;refine Ak ?_;refine Ab g ?_
  by_cases hr:∀ z∈vals,(z.abs.length:Int)<=(m:Int)
  .rw[if_pos hr,decide_eq_true ⟨by omega,λz hz=>by have:=hr z hz;omega⟩]
   rfl
  .rw[if_neg hr,decide_eq_false (λe=>hr λz hz=>by have:=e.2 z hz;omega)]
   rfl
end
section
open Go.RowKit
variable (A:Ar) (D:Orc)
end

section
open Go.RowKit
variable (A:Ar) (D:Orc)
end
structure RdF (D:Orc):Prop where
 div:∀ a b:Zi,Lz 300000000 a->Lz 300000000 b->D.ask (.fn 71) [.agg (eZ a),.agg (eZ b)] []
  = Θ (if zv b=0 then .tup [.agg [bv Φ,.ls []],.agg [bv Φ,.ls []],iv 10] else .tup [.agg (eZ (Ap (qZ (zv a) (zv b)))),.agg (eZ (Ap (rZ (zv a) (zv b)))),iv 0],[])
 gcd:∀ a b:Zi,Lz 900000000 a->Lz 900000000 b->D.ask (.fn 150) [.agg (eZ a),.agg (eZ b)] []=Θ (.agg (eZ (Ap (Nat.gcd (zv a).natAbs (zv b).natAbs:Nat))),[])
def vc(ps:List (Int × Int))(v:Int):Int × Int:=(v,JR ps v)
theorem Wy{n k:Nat}{t:Tm}(ht:TmB n k t)(v:Int):InB (k+n) (JR t.lf.ps v):=by
 have h:=In v t.lf.ps ht.lb.ps;have hl:=ht.lb.len;unfold JR;split
 .exact h.mono (by omega)
 .exact InB.zero _
def Ck(t:Tm):Nat:=D1 0 (AC t.lf.ps)
def Ur(g:Int)(p:Int × Int):Pt:=AJ (p.1,qZ p.2 g)
def D3(t:Tm):Tm:=if Ck t=0 then t.lf.pln.tm else ⟨(AC t.lf.ps).map (Ur (Ck t)),Ap (qZ (zv t.k) (Ck t))⟩
section
open Go.RowKit
def AeH:MFn:=AY [⟨40,(mB 28722),[],[4,5],[(1,((mB 48),([],[])))]⟩] 86
def Abq:Hnt:=⟨[(138,(.agg AR,[])),(139,(.agg AR,[])),(158,(.agg AR,[]))],[(0,[(1,([.ptr 0 0,.ptr 1 0],[.box AR,.box AR]))])],[(9,AR),(12,[.ls]),(16,Bj),(17,Bj),(19,[.int .i64]),(23,[.int .i64]),(28,AR),(30,AR),(33,[.int .i64]),(34,AR),(35,AR),(39,AR)]⟩
def AmR:MFn:=AY [] 30
def Amg:Hnt:=⟨[(64,(.int .i64,[])),(86,(.agg AR,[]))],[],[(7,B6),(15,[.bool])]⟩
def Ac4:List (Nat × MFn):=[(86,AeH),(30,AmR)]
variable (A:Ar) (D:Orc)
theorem e86(x0_0:Rw)(x0_1:Bool)(x0_2 x1:Rw):Cm A D Av Abq .n 86 AeH [ω [Ψ x0_0,bv x0_1,Ψ x0_2],Ψ x1] [] =
 Af D (ψ 138) [ω [bv x0_1,Ψ x0_2]] [] [.a,.B,.L,.N,.E] λb xs=>
 Af D (ApW 86 0) [Ψ x1,Aqk 0 0,Aqk 1 0,Ψ x0_0,iv ↑(AS x0_0),iv 0] [bk [bv Φ,Ψ []],bk [bv b,Ψ xs]] [.t,.C,.x,.X,.Y] λc l2 o1=>
 br (Bp 1 c)
 (dk [.P 0 0,.P 1 0,.N,.T,.B,.L,.N,.T,.B,.L,.N,.E] [.l l2,.o o1] λ_ _ b2 xs2=>
 Θ ((ω [bv b2,Ψ xs2],[])))
 (Ξ):=by kernel_rfl
theorem AhM(t1:Rw)(b4_0:Bool)(b4_1:Rw)(b5_0:Bool)(b5_1 t12:Rw)(t13 t14:Int):D2 A D Av Abq .n 86 0 (AW AeH 0).fst (AW AeH 0).snd [Ψ t1,Aqk 0 0,Aqk 1 0,Ψ t12,iv t13,iv t14] [bk [bv b4_0,Ψ b4_1],bk [bv b5_0,Ψ b5_1]] =
 br (A.lt t14 t13)
 (unI t14 λi=>
 BG t12 i λcs=>
 dk [.I,.B,.L,.N] [.l cs] λn b xs=>
 br (A.le 0 n)
 (br (A.lt n ↑(AS t1))
 (unI n λi1=>
 BG t1 i1 λcs1=>
 dk [.B,.L,.N] [.l cs1] λb1 xs1=>
 Af D (ψ 158) [ω [bv b,Ψ xs],ω [bv b1,Ψ xs1]] [] [.a,.B,.L,.N,.E] λb2 xs2=>
 Af D (ψ 139) [ω [bv b5_0,Ψ b5_1],ω [bv b2,Ψ xs2]] [] [.a,.B,.L,.N,.E] λb3 xs3=>
 AK D (ApW 86 0) [Ψ t1,Aqk 0 0,Aqk 1 0,Ψ t12,iv t13,iv (A.add δ t14 1)] [bk [bv b4_0,Ψ b4_1],bk [bv b3,Ψ xs3]] λr2 o2=>
 AF 2 [0,1] (AH.mk [(1,bk [bv b3,Ψ xs3]),(0,bk [bv b4_0,Ψ b4_1]),(2,bk [iv n,bv b,Ψ xs])] 3 Ξ) [0,1] r2 o2)
 (AK D (ApW 86 0) [Ψ t1,Aqk 0 0,Aqk 1 0,Ψ t12,iv t13,iv (A.add δ t14 1)] [bk [bv b4_0,Ψ b4_1],bk [bv b5_0,Ψ b5_1]] λr o=>
 AF 2 [0,1] (AH.mk [(1,bk [bv b5_0,Ψ b5_1]),(0,bk [bv b4_0,Ψ b4_1]),(2,bk [iv n,bv b,Ψ xs])] 3 Ξ) [0,1] r o))
 (AK D (ApW 86 0) [Ψ t1,Aqk 0 0,Aqk 1 0,Ψ t12,iv t13,iv (A.add δ t14 1)] [bk [bv b4_0,Ψ b4_1],bk [bv b5_0,Ψ b5_1]] λr o=>
 AF 2 [0,1] (AH.mk [(1,bk [bv b5_0,Ψ b5_1]),(0,bk [bv b4_0,Ψ b4_1]),(2,bk [iv n,bv b,Ψ xs])] 3 Ξ) [0,1] r o))
 (Θ ((ε [iv 0,Aqk 0 0,Aqk 1 0],[ApX (bk [bv b4_0,Ψ b4_1]),ApX (bk [bv b5_0,Ψ b5_1])]))):=by kernel_rfl
theorem e30(x0_0:Rw)(x0_1:Bool)(x0_2:Rw)(x0_3:Bool)(x1:Rw):Cm A D Av Amg .n 30 AmR [ω [Ψ x0_0,bv x0_1,Ψ x0_2,bv x0_3],Ψ x1] [] =
 Af D (ψ 86) [ω [Ψ x0_0,bv x0_1,Ψ x0_2],Ψ x1] [] [.a,.B,.L,.N,.E] λb xs=>
 Af D (ψ 64) [ω [bv b,Ψ xs]] [] [.i,.E] λn=>
 br (A.eq n 0)
 (Θ ((bv Δ,[])))
 (br (A.not x0_3)
 (br (A.lt 0 n)
 (Θ ((bv Δ,[])))
 (Θ ((bv Φ,[]))))
 (Θ ((bv Φ,[])))):=by kernel_rfl
end
section
open Go.RowKit
variable (A:Ar) (D:Orc)
end
section
open Go.RowKit
def YU:MFn:=AY [⟨64,(mB 133),[],[],[(0,((mB 64),([],[]))),(1,([],([],[])))]⟩,⟨64,(mB 389),[],[],[(0,((mB 64),([],[]))),(3,((mB 133),([],[])))]⟩] 16
def Tt:Hnt:=⟨[],[(0,[(0,([.bool],[])),(1,([],[]))]),(1,[(0,([.bool],[])),(3,([.ls,.int .i64,.int .i64],[]))])],[(21,Bx),(24,[.ls]),(30,Bx),(34,[.ls]),(42,Bx),(45,[.ls]),(52,Bx),(55,[.ls]),(57,Bj),(60,[.ls])]⟩
def XR:List (Nat × MFn):=[(16,YU)]
variable (A:Ar) (D:Orc)
theorem e16(x0:Rw)(x1 x2:Int):Cm A D Av Tt .n 16 YU [Ψ x0,iv x1,iv x2] [] =
 br (A.lt x1 ↑(AS x0))
 (Θ ((bv Φ,[])))
 (Af D (ApW 16 0) [Ψ x0,iv x2,iv 0] [] [.t,.C,.x,.X,.Y] λc l o=>
 br (Bp 0 c)
 (dk [.B,.N,.E] [.l l,.o o] λb=>
 Θ ((bv b,[])))
 (br (Bp 1 c)
 (Gu l<|
 Fl o<|
 Θ ((bv Δ,[])))
 (Ξ))):=by kernel_rfl
theorem AhG(t0:Rw)(t2 t7:Int):D2 A D Av Tt .n 16 0 (AW YU 0).fst (AW YU 0).snd [Ψ t0,iv t2,iv t7] [] =
 br (A.lt t7 ↑(AS t0))
 (unI t7 λi=>
 BG t0 i λcs=>
 dk [.L,.B,.L,.B,.N] [.l cs] λxs _ _ _=>
 br (A.lt 20 ↑(AS xs))
 (Θ ((ε [bv Δ,bv Φ],[])))
 (unI t7 λi1=>
 BG t0 i1 λcs1=>
 dk [.L,.B,.L,.B,.N] [.l cs1] λ_ _ xs3 _=>
 br (A.lt t2 ↑(AS xs3))
 (Θ ((ε [bv Δ,bv Φ],[])))
 (Af D (ApW 16 1) [Ψ t0,iv t2,iv t7,iv 0] [] [.t,.C,.x,.X,.Y] λc l8 o=>
 br (Bp 0 c)
 (dk [.B,.N,.E] [.l l8,.o o] λb4=>
 Θ ((ε [bv Δ,bv b4],[])))
 (br (Bp 3 c)
 (dk [.L,.I,.I,.N,.E] [.l l8,.o o] λxs4 n n1=>
 AK D (ApW 16 0) [Ψ xs4,iv n,iv (A.add δ n1 1)] [] λr1 o1=>
 AF 0 [] (AH.mk [] 0 Ξ) [] r1 o1)
 (Ξ)))))
 (Θ ((ε [iv 0],[]))):=by kernel_rfl
theorem AhH(t0:Rw)(t2 t7 t8:Int):D2 A D Av Tt .n 16 1 (AW YU 1).fst (AW YU 1).snd [Ψ t0,iv t2,iv t7,iv t8] [] =
 unI t7 λi=>
 BG t0 i λcs=>
 dk [.L,.B,.L,.B,.N] [.l cs] λxs _ _ _=>
 br (A.lt t8 ↑(AS xs))
 (unI t7 λi1=>
 BG t0 i1 λcs1=>
 dk [.L,.B,.L,.B,.N] [.l cs1] λxs2 _ _ _=>
 unI t8 λi2=>
 BG xs2 i2 λcs2=>
 dk [.I,.B,.L,.N] [.l cs2] λ_ _ xs4=>
 br (A.lt t2 ↑(AS xs4))
 (Θ ((ε [bv Δ,bv Φ],[])))
 (AK D (ApW 16 1) [Ψ t0,iv t2,iv t7,iv (A.add δ t8 1)] [] λr o=>
 AF 0 [] (AH.mk [] 0 Ξ) [] r o))
 (Θ ((ε [iv 2,Ψ t0,iv t2,iv t7],[]))):=by kernel_rfl
end
section
open Go.RowKit
variable (A:Ar) (D:Orc)
end
section
open Go.RowKit
variable (A:Ar) (D:Orc)
end
def C5(r:Tm × Bool):List AV:=eT r.1++[bv r.2]
theorem Re(ps:List Pt)(kz:Zi)(e:Bool):C5 (⟨ps,kz⟩,e)=[.ls (ps.map eP),bv kz.neg,eN kz.abs,bv e]:=rfl
section
variable {D:Orc} (Kv:Knows Av Ac4 D) (Kt:Knows Av Fj D) (Z:ZF D)
include Kv Z
theorem ZH{n k j:Nat}(ps:List Pt)(hl:ps.length<=n)(hn:n<=1000000)(hz:∀ p∈ps,Lz k p.z)(vals:List Zi)(hv:∀ z∈vals,Lz j z)(hv24:∀ z∈vals,z.abs.length<24)(hvl:vals.length<=1000000)(hk:k+j+1+n<=400000000)(y0:Bool)(y1:List (List AV)):∀(m i:Nat) (acc:Int),ps.length-i=m->i<=ps.length->InB (k+j+1+i) acc->
  D.ask (.lp 86 0) [.ls (vals.map eZ),.ptr 0 0,.ptr 1 0,.ls (ps.map eP),iv (ps.length:Int),iv (i:Int)] [⟨[bv y0,.ls y1],Δ,Φ⟩,⟨eZ (Ap acc),Δ,Φ⟩]
   = Θ (.tup [iv 0,.ptr 0 0,.ptr 1 0],[.set ⟨[bv y0,.ls y1],Δ,Φ⟩,.set ⟨eZ (Ap (acc+Ch (Ek (vals.map zv)) ((ps.drop i).map pv))),Δ,Φ⟩]):=by
 intro m
 induction m with
 |zero=>
  intro i acc hm hi ha;rw[Aqd (by omega),Ara,Ch,AtX];refine Ax Kv Abq (AhM ..) ?_;exact Ak rfl
 |succ m ih=>
  intro i acc hm hi ha;have h1:i<ps.length:=by omega
  have hn1:∀ kk,BG (ps.map eP) i kk=kk (eP ps[i]):=λkk=>AB (φ h1) kk
  have hzp:=hz ps[i] (Aqg h1);rw[ApV h1,Ap5,Ch];revert hn1 hzp;generalize ps[i]=p;intro hn1 hzp;have hp:∀ v:Int,(pv p).2*Ek (vals.map zv) (pv p).1=v->acc+(v+Ch (Ek (vals.map zv)) ((ps.drop (i+1)).map pv))=acc+v+Ch (Ek (vals.map zv)) ((ps.drop (i+1)).map pv):=λv _=>by omega
  rw[hp _ rfl];have skip:Ek (vals.map zv) (pv p).1=0->D.ask (.lp 86 0) [.ls (vals.map eZ),.ptr 0 0,.ptr 1 0,.ls (ps.map eP),iv (ps.length:Int),iv ((i+1:Nat):Int)] [⟨[bv y0,.ls y1],Δ,Φ⟩,⟨eZ (Ap acc),Δ,Φ⟩]
   = Θ (.tup [iv 0,.ptr 0 0,.ptr 1 0],[.set ⟨[bv y0,.ls y1],Δ,Φ⟩,.set ⟨eZ (Ap (acc+(pv p).2*Ek (vals.map zv) (pv p).1+Ch (Ek (vals.map zv)) ((ps.drop (i+1)).map pv))),Δ,Φ⟩]):=λh0=>by
   have g:=ih (i+1) acc (by omega) (by omega) (ha.mono (by omega));rw[h0,Int.mul_zero,AtX];exact g
  refine Ax Kv Abq (AhM ..) ?_;refine Al ?_;rw[At,hn1];simp only[eP,eN,ND,DK,Aa];rw[Aw,BZ (by omega)]
  by_cases h0:0<=p.v
  .refine CI ?_ h0
   by_cases h2:p.v<(vals.length:Int)
   .refine Al ?_ h2
    obtain⟨v,hvv⟩:=Int.eq_ofNat_of_zero_le h0;have h3:v<vals.length:=by omega
    have hn2:∀ kk,BG (vals.map eZ) v kk=kk (eZ vals[v]):=λkk=>AB (φ h3) kk
    have hx:=hv vals[v] (Aqg h3);have hx24:=hv24 vals[v] (Aqg h3);have ev:Ek (vals.map zv) (pv p).1=zv vals[v]:=by
     show Ek _ p.v=_
     rw[hvv,UK,List.getD_eq_getElem?_getD,List.getElem?_map,φ h3];rfl
    rw[ev];rw[hvv,At,hn2];revert hn2 hx hx24;generalize vals[v]=x;intro _ hx hx24;have gm:=Z.mul p.z x (hzp.mono (by omega)) (hx.mono (by omega)) (.inr hx24);have hpr:InB (k+j) (zv p.z*zv x):=InB.mul hzp.inb hx.inb;have ga:=Z.add (Ap acc) (Ap (zv p.z*zv x)) (ha.lz.mono (by omega)) (hpr.lz.mono (by omega));rw[AU,AU]at ga;have g:=ih (i+1) (acc+zv p.z*zv x) (by omega) (by omega) (by
     show InB (k+j+1+i+1) _
     exact InB.add ha (hpr.mono (by omega)))
    obtain⟨xn,xa⟩:=x;simp only[eZ,eN,ND,DK,Aa]at gm ga g ⊢;refine Ab gm ?_;simp only[ND,DK,Aa];refine Ab ga ?_;simp only[ND,DK,Aa];refine Ab g ?_;rfl
   .refine Ak ?_ h2
    have g:=skip (UJ _ (by rw[Ap1];show _<=p.v;omega));simp only[eZ,eN]at g ⊢;refine Ab g ?_;rfl
  .refine DA ?_ h0
   have g:=skip (Pa _ _ (by show p.v<0;omega));simp only[eZ,eN]at g ⊢;refine Ab g ?_;rfl
include Kt in
theorem ZI{n k j:Nat}{t:Tm}(ht:TmB n k t)(hn:n<=1000000)(vals:List Zi)(hv:∀ z∈vals,Lz j z)(hv24:∀ z∈vals,z.abs.length<24)(hvl:vals.length<=1000000)(hk:k+j+1+n<=400000000):D.ask (.fn 86) [.agg (eT t),.ls (vals.map eZ)] []=Θ (.agg (eZ (Ap (t.lf.val (Ek (vals.map zv))))),[]):=by
 obtain⟨ps,kz⟩:=t;have gc:=Ea Kt Z (ht.k.mono (show k<=1000000000 by omega));have hl:ps.length<=n:=ht.len;have g:=ZH Kv Z ps hl hn ht.ps vals hv hv24 hvl hk Φ [] _ 0 (zv kz) rfl (by omega) (ht.k.inb.mono (by omega));rw[Ap4]at g;have el:zv kz+Ch (Ek (vals.map zv)) (ps.map pv)=(Tm.mk ps kz).lf.val (Ek (vals.map zv)):=by
  unfold Lf.val Tm.lf;exact AtW _ _
 rw[el]at g;refine AI Kv Abq (e86 ..) ?_;refine Ab gc ?_;simp only[eZ,eN,ND,DK,Aa,Aw]at g ⊢;refine Ab g ?_;rfl
include Kt in
theorem Ud{n k j:Nat}{t:Tm}(ht:TmB n k t)(hn:n<=1000000)(e:Bool)(vals:List Zi)(hv:∀ z∈vals,Lz j z)(hv24:∀ z∈vals,z.abs.length<24)(hvl:vals.length<=1000000)(hk:k+n+j+1+vals.length<=400000000):D.ask (.fn 30) [.agg (C5 (t,e)),.ls (vals.map eZ)] []=Θ (bv (Ff (t.lf.val (Ek (vals.map zv))) e),[]):=by
 have g:=ZI Kv Kt Z ht hn vals hv hv24 hvl (by omega);have hb:=YM ht.lb (vals:=vals.map zv) (λx hx=>by
  rw[Aqm]at hx;obtain⟨z,hz,rfl⟩:=hx;exact(hv z hz).inb)
 rw[Ap1]at hb;generalize t.lf.val (Ek (vals.map zv))=x at g hb;have gs:=Z.sign (Ap x) (hb.lz.mono (by omega));rw[AU]at gs;obtain⟨ps,kz⟩:=t;refine AI Kv Amg (e30 ..) ?_;refine Ab g ?_;simp only[eZ,eN,ND,DK,Aa]at gs ⊢;refine Ab gs ?_;simp only[ND,DK,Aa];unfold Ff
 by_cases h0:x=0
 .refine BF ?_ ((AcS x).2 h0)
  rw[decide_eq_true h0];rfl
 .refine(Cj λh=>h0 ((AcS x).1 h)).trans ?_
  rw[decide_eq_false h0]
  cases e with
  |true=>rfl
  |false=>
   refine Ac ?_
   by_cases h1:0<x
   .refine Al ?_ ((XJ x).2 h1)
    rw[decide_eq_true h1];rfl
   .refine(C3 λh=>h1 ((XJ x).1 h)).trans ?_
    rw[decide_eq_false h1];rfl
end
section
variable {D:Orc} (Kw:Knows Av XR D)
include Kw
def Y1(L:Int)(ps:List Pt):Bool:=ps.all λp=>decide ((p.z.abs.length:Int)<=L)
def RR(L:Int)(r:Tm × Bool):Bool:=decide (r.1.ps.length<=20)&&(decide ((r.1.k.abs.length:Int)<=L)&&Y1 L r.1.ps)
theorem Aee(rs:List (Tm × Bool))(L:Int)(i:Nat)(h1:i<rs.length)(hl:rs[i].1.ps.length<=20):∀(m k:Nat),rs[i].1.ps.length-k=m->k<=rs[i].1.ps.length->
  D.ask (.lp 16 1) [.ls (rs.map C5),iv L,iv (i:Int),iv (k:Int)] []=Θ (if Y1 L (rs[i].1.ps.drop k)=Δ then .tup [iv 2,.ls (rs.map C5),iv L,iv (i:Int)] else .tup [bv Δ,bv Φ],[]):=by
 have hn1:∀ kk,BG (rs.map C5) i kk=kk (C5 rs[i]):=λkk=>AB (φ h1) kk
 revert hn1 hl;generalize rs[i]=r;intro hl hn1;obtain⟨⟨ps,kz⟩,e⟩:=r;simp only at hl ⊢;intro m
 induction m with
 |zero=>
  intro k hm hk;rw[Aqd (by omega)];refine Ax Kw Tt (AhH ..) ?_;simp only[At,hn1,Re,eN,ND,DK,Aa,Aw];exact Ak rfl
 |succ m ih=>
  intro k hm hk;have h2:k<ps.length:=by omega
  have ih:=ih (k+1) (by omega) (by omega);have hn2:∀ kk,BG (ps.map eP) k kk=kk (eP ps[k]):=λkk=>AB (φ h2) kk
  rw[ApV h2];revert hn2;generalize ps[k]=p;intro hn2;unfold Y1 at ih ⊢;rw[Asg];refine Ax Kw Tt (AhH ..) ?_;simp only[At,hn1,hn2,Re,eP,eN,ND,DK,Aa,Aw];refine Al ?_
  by_cases hz:L<(p.z.abs.length:Int)
  .refine Al ?_ hz
   rw[decide_eq_false (by omega:¬ (p.z.abs.length:Int)<=L)];rfl
  .refine Ak ?_ hz
   rw[decide_eq_true (by omega:(p.z.abs.length:Int)<=L),Arz,BZ (by omega)];refine Ab ih ?_
   cases (ps.drop (k+1)).all λp=>decide ((p.z.abs.length:Int)<=L)<;>rfl
theorem Aed(rs:List (Tm × Bool))(L:Int)(hrl:rs.length<=1000000):∀(m i:Nat),rs.length-i=m->i<=rs.length->
  D.ask (.lp 16 0) [.ls (rs.map C5),iv L,iv (i:Int)] []=Θ (if(rs.drop i).all (RR L)=Δ then .tup [iv 0] else .tup [bv Δ,bv Φ],[]):=by
 intro m
 induction m with
 |zero=>
  intro i hm hi;rw[Aqd (by omega)];refine Ax Kw Tt (AhG ..) ?_;rw[Aw];exact Ak rfl
 |succ m ih=>
  intro i hm hi;have h1:i<rs.length:=by omega
  have ih:=ih (i+1) (by omega) (by omega);have hn1:∀ kk,BG (rs.map C5) i kk=kk (C5 rs[i]):=λkk=>AB (φ h1) kk
  have g1:=Aee Kw rs L i h1;rw[ApV h1,Asg];revert hn1 g1;generalize rs[i]=r;obtain⟨⟨ps,kz⟩,e⟩:=r;intro hn1 g1;simp only at g1;unfold RR;simp only;refine Ax Kw Tt (AhG ..) ?_;rw[Aw];refine Al ?_;simp only[At,hn1,Re,eN,ND,DK,Aa,Aw]
  by_cases hp:ps.length<=20
  .refine Ak ?_
   rw[decide_eq_true hp,Arz]
   by_cases hk:(kz.abs.length:Int)<=L
   .refine Ak ?_
    rw[decide_eq_true hk,Arz];have g1:=g1 hp _ 0 rfl (AqC _);rw[Ap4]at g1;refine Ab g1 ?_
    cases hr:Y1 L ps with
    |true=>
     rw[if_pos rfl,Arz];simp only[ND,DK,Aa,AnR];rw[BZ (by omega)];refine Ab ih ?_;unfold RR
     cases (rs.drop (i+1)).all λr=>decide (r.1.ps.length<=20)&&(decide ((r.1.k.abs.length:Int)<=L)&&Y1 L r.1.ps)<;>rfl
    |false=>rfl
   .refine Al ?_
    rw[decide_eq_false hk];rfl
  .refine Al ?_
   rw[decide_eq_false hp];rfl
theorem AjF(rs:List (Tm × Bool))(n:Nat)(L:Int)(hn:n<=1000000):D.ask (.fn 16) [.ls (rs.map C5),iv (n:Int),iv L] []=Θ (bv (decide (rs.length<=n)&&rs.all (RR L)),[]):=by
 refine AI Kw Tt (e16 ..) ?_;rw[Aw]
 by_cases h:n<rs.length
 .rw[decide_eq_false (by omega:¬ rs.length<=n)]
  exact QW (by omega)
 .have g:=Aed Kw rs L (by omega) _ 0 rfl (by omega)
  rw[Ap4]at g;rw[decide_eq_true (by omega:rs.length<=n),Arz];refine Ak ?_;refine Ab g ?_
  cases rs.all (RR L)<;>rfl
end
structure LmT (t:Tm):Prop where
 ps:∀ p∈t.ps,Limbs p.z.abs
 k:Limbs t.k.abs
theorem LmT.tmb{t:Tm}{e:Bool}{L:Nat}(h:LmT t)(ho:RR (L:Int) (t,e)=Δ):TmB 20 L t:=by
 unfold RR Y1 at ho;simp only[Bool.and_eq_true,decide_eq_true_eq,List.all_eq_true]at ho;exact⟨ho.1,λp hp=>⟨h.ps p hp,by have:=ho.2.2 p hp;omega⟩,⟨h.k,by have:=ho.2.1;omega⟩⟩
section
open Go.RowKit
variable (A:Ar) (D:Orc)
end
theorem Acr{k:Nat}{x:Int}(hx:InB k x)(hk:1<=k)(y:Int):InB (k+1) (qZ x y):=by
 unfold qZ;split
 .rw[Int.sub_eq_add_neg]
  exact(Abu hx y _).add ((InB.one hk).neg)
 .exact(Abu hx y _).mono (by omega)
def hdS(t:Tm):Int:=match t.ps with
 |[]=>0
 |q::_=>zv q.z
def zrR:Tm × Bool:=(⟨[],⟨Φ,[]⟩⟩,Φ)
def CF(p:Tm)(eq:Bool):(Tm × Bool) × Int:=
 if p.ps=[] then(zrR,if zv p.k=0\/(eq=Φ/\0<zv p.k) then 1 else -1)
 else if eq=Δ then
  (if rZ (zv p.k) (Ck p)=0 then((if hdS (D3 p)<0 then((D3 p).lf.scale (-1)).tm else D3 p,Δ),0) else(zrR,-1))
 else((D3 p,Φ),0)
theorem Q8{l:Lf}(h:l.pln.tm.ps≠[]):Ck l.pln.tm≠0:=by
 intro h0;have hp:=Cw l.ps;unfold Ck at h0;rw[BS,show l.pln.ps=AC l.ps from rfl,BV hp]at h0;have hd:=(JY (AC l.ps) 0).2;rw[h0]at hd
 cases hl:AC l.ps with
 |nil=>
  apply h
  show (AC l.ps).map AJ=[]
  rw[hl];rfl
 |cons q r=>
  have hq:q∈AC l.ps:=by rw[hl];exact ι ..
  have h1:=Nat.eq_zero_of_zero_dvd (hd q hq);exact hp.nz q hq (by omega)
theorem XK(x:Int):Fs x=0 ↔ x=0:=by unfold Fs;split<;>(try split)<;>omega
theorem XL(x:Int):0<Fs x ↔ 0<x:=by unfold Fs;split<;>(try split)<;>omega
theorem Ai3(x:Int):Fs x<0 ↔ x<0:=by unfold Fs;split<;>(try split)<;>omega
theorem WM{n k:Nat}{t:Tm}(ht:TmB n k t):InB (k+n) (Ck t:Int):=Tl _ _ (InB.zero _) (λp hp=>by
 rw[←Jt]at hp;obtain⟨v,_,rfl⟩:=Aqm.1 hp;exact Wy ht v)
theorem AcT{n k:Nat}{t:Tm}(ht:TmB n k t)(hk:1<=k):TmB n (k+n+1) (D3 t):=by
 unfold D3;have hl:=Gi t.lf.ps;have hl2:=ht.lb.len;split
 .exact(ht.lb.pln.tb).mono (κ _) (by omega)
 .refine⟨by simp;omega,λp hp=>?_,((Acr ht.k.inb hk _).mono (by omega)).lz⟩
  obtain⟨q,hq,rfl⟩:=Aqm.1 hp;rw[←Jt]at hq;obtain⟨v,_,rfl⟩:=Aqm.1 hq;exact(Acr (Wy ht v) (by omega) _).lz
section
open Go.RowKit
def AmT:MFn:=AY [] 63
def Ami:Hnt:=⟨[],[],[]⟩
def AmN:MFn:=AY [] 17
def Amc:Hnt:=⟨[(62,(.agg B6,[])),(63,(.tup [.agg Bx,.int .i64],[])),(64,(.int .i64,[])),(65,(.tup [.agg B6,.agg AR],[])),(66,(.tup [.agg AR,.agg AR,.int .i64],[])),(67,(.agg AR,[])),(68,(.agg B6,[]))],[],[(9,B6),(12,[.ls]),(16,AR),(21,[.bool]),(25,AR),(34,[.bool]),(37,B6),(41,B6),(45,AR),(46,B6),(52,AR),(59,B6),(64,[.ls]),(65,Bj),(67,AR),(70,B6),(72,B6)]⟩
def Ac6:List (Nat × MFn):=[(63,AmT),(17,AmN)]
variable (A:Ar) (D:Orc)
theorem e63(x0:Bool):Cm A D Av Ami .n 63 AmT [bv x0] [] =
 br x0
 (Θ ((ε [ω [Ψ [],bv Φ,Ψ [],bv Φ],iv 1],[])))
 (Θ ((ε [ω [Ψ [],bv Φ,Ψ [],bv Φ],iv (-1)],[]))):=by kernel_rfl
theorem e17(x0_0:Rw)(x0_1:Bool)(x0_2:Rw)(x0_3:Bool):Cm A D Av Amc .n 17 AmN [ω [Ψ x0_0,bv x0_1,Ψ x0_2,bv x0_3]] [] =
 Af D (ψ 62) [ω [Ψ x0_0,bv x0_1,Ψ x0_2]] [] [.a,.L,.B,.L,.N,.E] λxs b xs1=>
 br (A.eq (↑(AS xs)) 0)
 (Af D (ψ 64) [ω [bv b,Ψ xs1]] [] [.i,.E] λn=>
 br (A.eq n 0)
 (Af D (ψ 63) [bv Δ] [] [.t,.A,.L,.B,.L,.B,.N,.I,.N,.E] λxs2 b1 xs3 b2 n1=>
 Θ ((ε [ω [Ψ xs2,bv b1,Ψ xs3,bv b2],iv n1],[])))
 (br (A.not x0_3)
 (Af D (ψ 64) [ω [bv b,Ψ xs1]] [] [.i,.E] λn1=>
 br (A.lt 0 n1)
 (Af D (ψ 63) [bv Δ] [] [.t,.A,.L,.B,.L,.B,.N,.I,.N,.E] λxs2 b1 xs3 b2 n2=>
 Θ ((ε [ω [Ψ xs2,bv b1,Ψ xs3,bv b2],iv n2],[])))
 (Af D (ψ 63) [bv Φ] [] [.t,.A,.L,.B,.L,.B,.N,.I,.N,.E] λxs2 b1 xs3 b2 n2=>
 Θ ((ε [ω [Ψ xs2,bv b1,Ψ xs3,bv b2],iv n2],[]))))
 (Af D (ψ 63) [bv Φ] [] [.t,.A,.L,.B,.L,.B,.N,.I,.N,.E] λxs2 b1 xs3 b2 n1=>
 Θ ((ε [ω [Ψ xs2,bv b1,Ψ xs3,bv b2],iv n1],[])))))
 (br (A.not x0_3)
 (Af D (ψ 65) [ω [Ψ xs,bv b,Ψ xs1]] [] [.t,.A,.L,.B,.L,.N,.A,.B,.L,.N,.N,.E] λxs2 b1 xs3 _ _=>
 Θ ((ε [ω [Ψ xs2,bv b1,Ψ xs3,bv Φ],iv 0],[])))
 (Af D (ψ 67) [ω [Ψ xs,bv b,Ψ xs1]] [] [.a,.B,.L,.N,.E] λb1 xs2=>
 Af D (ψ 66) [ω [bv b,Ψ xs1],ω [bv b1,Ψ xs2]] [] [.t,.A,.B,.L,.N,.A,.B,.L,.N,.I,.N,.E] λ_ _ b3 xs4 _=>
 Af D (ψ 64) [ω [bv b3,Ψ xs4]] [] [.i,.E] λn1=>
 br (A.eq n1 0)
 (Af D (ψ 65) [ω [Ψ xs,bv b,Ψ xs1]] [] [.t,.A,.L,.B,.L,.N,.A,.B,.L,.N,.N,.E] λxs5 b4 xs6 _ _=>
 BG xs5 0 λcs8=>
 dk [.I,.B,.L,.N] [.l cs8] λ_ b6 xs8=>
 Af D (ψ 64) [ω [bv b6,Ψ xs8]] [] [.i,.E] λn3=>
 br (A.lt n3 0)
 (Af D (ψ 68) [ω [Ψ xs5,bv b4,Ψ xs6]] [] [.a,.L,.B,.L,.N,.E] λxs9 b7 xs10=>
 Θ ((ε [ω [Ψ xs9,bv b7,Ψ xs10,bv Δ],iv 0],[])))
 (Θ ((ε [ω [Ψ xs5,bv b4,Ψ xs6,bv Δ],iv 0],[]))))
 (Af D (ψ 63) [bv Φ] [] [.t,.A,.L,.B,.L,.B,.N,.I,.N,.E] λxs5 b4 xs6 b5 n2=>
 Θ ((ε [ω [Ψ xs5,bv b4,Ψ xs6,bv b5],iv n2],[]))))):=by kernel_rfl
end
structure TiF (D:Orc):Prop where
 plain:∀{n k:Nat} {t:Tm},TmB n k t->n<=1000000->k+n<=300000000->D.ask (.fn 62) [.agg (eT t)] []=Θ (.agg (eT t.lf.pln.tm),[])
 content:∀{n k:Nat} {t:Tm},TmB n k t->n<=1000000->k+n<=300000000->D.ask (.fn 67) [.agg (eT t)] []=Θ (.agg (eZ (Ap (Ck t:Int))),[])
 shrink:∀{n k:Nat} {t:Tm},TmB n k t->n<=1000000->k+n<=300000000->D.ask (.fn 65) [.agg (eT t)] []=Θ (.tup [.agg (eT (D3 t)),.agg (eZ (Ap (Ck t:Int)))],[])
 neg:∀{n k:Nat} {t:Tm},TmB n k t->n<=1000000->k+n<=300000000->D.ask (.fn 68) [.agg (eT t)] []=Θ (.agg (eT (t.lf.scale (-1)).tm),[])
section
variable {D:Orc} (Kt:Knows Av Ac6 D) (Z:ZF D) (W:ZdF D) (T:TiF D)
include Kt
theorem TH(b:Bool):D.ask (.fn 63) [bv b] []=Θ (.tup [.agg (C5 zrR),iv (if b=Δ then 1 else -1)],[]):=by
 refine AI Kt Ami (e63 ..) ?_
 cases b<;>rfl
include Z W T
theorem Adg{n k:Nat}{t:Tm}(ht:TmB n k t)(hn:n<=1000000)(hk1:1<=k)(hk:k+3*n<=100000000)(eq:Bool):D.ask (.fn 17) [.agg (C5 (t,eq))] []
  = Θ (.tup [.agg (C5 (CF t.lf.pln.tm eq).1),iv (CF t.lf.pln.tm eq).2],[]):=by
 have gp:=T.plain ht hn (by omega);have hp:=ht.lb.pln.tb;have hc:t.lf.pln.tm.ps≠[]->Ck t.lf.pln.tm≠0:=Q8;have k1:=TH Kt Δ;have k0:=TH Kt Φ;refine AI Kt Amc (e17 ..) ?_;refine Ab gp ?_;generalize t.lf.pln.tm=p at *;have gs:=Z.sign p.k (hp.k.mono (by omega));simp only[eT,eN,ND,DK,Aa];simp only[Aw];unfold CF
 by_cases h0:p.ps=[]
 .rw[if_pos h0,h0]
  refine BF ?_ (by decide);refine Ab gs ?_;simp only[Gt,Bt,DK]
  by_cases hz:zv p.k=0
  .rw[if_pos (.inl hz)]
   refine BF ?_ ((XK _).2 hz);refine Ab k1 ?_;rfl
  .refine Bm ?_ (λh=>hz ((XK _).1 h))
   cases eq with
   |true=>
    refine B1 ?_;rw[if_neg (λh=>h.elim hz λh=>by cases h.1)];refine Ab k0 ?_;rfl
   |false=>
    refine Ac ?_;refine Ab gs ?_;simp only[Gt,Bt,DK]
    by_cases hpz:0<zv p.k
    .rw[if_pos (.inr ⟨by trivial,hpz⟩)]
     refine Al ?_ ((XL _).2 hpz);refine Ab k1 ?_;rfl
    .rw[if_neg (λh=>h.elim hz λh=>hpz h.2)]
     refine Ak ?_ (λh=>hpz ((XL _).1 h));refine Ab k0 ?_;rfl
 .have hc:=hc h0
  have hpl:p.ps.length≠0:=λh=>h0 (List.eq_nil_of_length_eq_zero h)
  rw[if_neg h0];refine Bm ?_;have hci:=WM hp;have gc:=T.content hp hn (by omega);have gd:=W.div p.k (Ap (Ck p:Int)) (hp.k.mono (by omega)) (hci.lz.mono (by omega));rw[AU,if_neg (by omega)]at gd;have gh:=T.shrink hp hn (by omega);simp only[eT,eN]at gc gh
  cases eq with
  |false=>
   rw[if_neg (by decide)];refine Ac ?_;refine Ab gh ?_;rfl
  |true=>
   rw[if_pos rfl];refine B1 ?_;refine Ab gc ?_;simp only[eZ,eN,DJ,BX,CH,Ce,Dj,EL,BN,Bt,DK];refine Ab gd ?_;simp only[eZ,eN,DJ,BX,CH,Ce,Dj,EL,BN,Bt,DK];have hri:InB 300000001 (rZ (zv p.k) (Ck p:Int)):=by
    unfold rZ;split
    .exact((TB hci (by omega) _ _).mono (by omega)).add (hci.mono (by omega))
    .exact(TB hci (by omega) _ _).mono (by omega)
   have gr:=Z.sign (Ap (rZ (zv p.k) (Ck p:Int))) (hri.lz.mono (by omega));rw[AU]at gr;refine Ab gr ?_;simp only[Gt,Bt,DK]
   by_cases hr:rZ (zv p.k) (Ck p:Int)=0
   .rw[if_pos hr]
    refine BF ?_ ((XK _).2 hr);refine Ab gh ?_;have hst:=AcT hp (show 1<=k+n by omega);have hne:(D3 p).ps≠[]:=by
     unfold D3;rw[if_neg hc];intro h1;have h2:AC p.lf.ps=[]:=List.map_eq_nil_iff.1 h1;apply hc;unfold Ck;rw[h2];rfl
    have gsc:=T.neg hst hn (by omega);revert gsc hne;have hq1:∀ q∈(D3 p).ps,Lz 1000000000 q.z:=λq hq=>(hst.ps q hq).mono (by omega)
    revert hq1;generalize D3 p=S;obtain⟨sp,sk⟩:=S
    cases sp with
    |nil=>intro _ h;exact absurd rfl h
    |cons q sp=>
     intro hq1 _ gsc;have gq:=Z.sign q.z (hq1 q (ι ..));simp only[eZ,eN,DJ,BX,CH,Ce,Dj,EL,BN,Bt,DK];rw[AB (show (q::sp)[0]? = Θ q from rfl)];simp only[eP,eN,DJ,BX,CH,Ce,Dj,EL,BN,Bt,DK];refine Ab gq ?_;simp only[Gt,Bt,DK]
     show _=Θ (ε [.agg (C5 (if zv q.z<0 then _ else _,Δ)),iv 0],[])
     by_cases hs:zv q.z<0
     .rw[if_pos hs]
      refine Al ?_ ((Ai3 _).2 hs);refine Ab gsc ?_;rfl
     .rw[if_neg hs]
      exact C3 (λh=>hs ((Ai3 _).1 h))
   .rw[if_neg hr]
    refine Bm ?_ (λh=>hr ((XK _).1 h));refine Ab k0 ?_;rfl
end
section
variable {D:Orc} (Kt:Knows Av Fj D) (Kf:Knows Av KF D) (Ks:Knows Av DY D) (Z:ZF D) (C:PartF D) (Kc:Knows Av XT D) (W:ZdF D)
include Kt Kf Ks Z C Kc W
theorem Ak4(hs:∀{n k:Nat} {t:Tm},TmB n k t->n<=1000000->k+n<=300000000->D.ask (.fn 65) [.agg (eT t)] []=Θ (.tup [.agg (eT (D3 t)),.agg (eZ (Ap (Ck t:Int)))],[])):TiF D where
 plain h hn hk:=EB Kt Ks Z C h hn (by omega)
 content {n k t} h hn hk:=by
  have hp:=EB Kt Ks Z C h hn (by omega);have hl:=Gi t.lf.ps;have hl2:=h.lb.len;have hb:=h.lb.pln.ps;refine Vc Kc W (l:=AC t.lf.ps) (k:=t.lf.pln.tm.k) ?_ (by omega) (λp hp=>(hb p hp).mono (by omega));rw[hp]
  show Θ (ω [.ls (((AC t.lf.ps).map AJ).map eP),_,_],[])=_
  rw[Art];rfl
 shrink h hn hk:=hs h hn hk
 neg h hn hk:=VW Kt Kf Ks Z C h hn (by omega)
end
section
open Go.RowKit
def MA:List (Nat × Nat):=[(67,0),(62,0),(135,0),(136,0),(196,0),(234,0),(235,0),(265,0),(275,0),(140,0),(199,0)]
def TQ:MFn:=MU Tryz.prog Bn [⟨74,(mB 917524),[(1000004,3)],[2,17],[(1,((mB 20),([],[1000000])))]⟩] Δ Φ 62
def N1:Hnt:=⟨[(135,(.sl 0 3,[.row Δ])),(136,(.tup [],[.row Δ])),(138,(.agg AR,[])),(139,(.agg AR,[])),(140,(.sl 0 3,[.row Δ]))],[(0,[(1,([.ptr 0 0,.ptr 1 0],[.box B6,.box [.sl 3 3,.bool,.ls],.del,.row Δ]))])],[(9,[.ls]),(14,AR),(21,Bj),(22,Bj),(24,[.int .i64]),(27,[.ls]),(34,[.ls]),(36,Bj),(38,[.int .i64]),(40,[.int .i64]),(44,[.ls]),(47,[.ls]),(49,Bj),(51,AR),(53,AR),(55,Bj),(58,[.ls]),(60,[.int .i64]),(62,AR),(70,[.ls]),(73,B6)]⟩
def Abo:Hnt:=⟨[(135,(.sl 1 3,[.keep,.row Δ])),(136,(.tup [],[.row Δ])),(138,(.agg AR,[])),(139,(.agg AR,[])),(140,(.sl 0 3,[.row Δ]))],[(0,[(1,([.ptr 0 0,.ptr 1 0],[.box B6,.box [.sl 3 3,.bool,.ls],.del,.row Δ]))])],[(9,[.ls]),(14,AR),(21,Bj),(22,Bj),(24,[.int .i64]),(27,[.ls]),(34,[.ls]),(36,Bj),(38,[.int .i64]),(40,[.int .i64]),(44,[.ls]),(47,[.ls]),(49,Bj),(51,AR),(53,AR),(55,Bj),(58,[.ls]),(60,[.int .i64]),(62,AR),(70,[.ls]),(73,B6)]⟩
def Xu:MFn:=AY [⟨21,(mB 3596),[],[2,3,9],[(1,((mB 12),([],[1000000])))]⟩] 67
def N2:Hnt:=⟨[(62,(.agg [.sl 1 3,.bool,.ls],[.keep,.row Δ])),(147,(.agg AR,[]))],[(0,[(1,([.ptr 0 0,.ptr 1 0],[.box AR,.box AR]))])],[(7,B6),(13,Bj),(14,Bj),(15,AR),(17,AR),(20,AR)]⟩
def Xs:MFn:=AY [⟨49,(mB 1835068),[],[2,3,5],[(1,((mB 60),([],[])))]⟩] 65
def Tz:Hnt:=⟨[(62,(.agg [.sl 0 3,.bool,.ls],[.row Δ])),(64,(.int .i64,[])),(66,(.tup [.agg AR,.agg AR,.int .i64],[])),(67,(.agg AR,[.keep])),(143,(.tup [.agg AR,.int .i64],[]))],[(0,[(1,([.ptr 0 0,.ptr 1 0,.ptr 2 0,.ptr 3 0],[.box B6,.box AR,.box [.sl 5 3,.bool,.ls],.box AR,.del,.row Δ]))])],[(8,B6),(10,B6),(12,AR),(15,B6),(16,AR),(18,[.ls]),(23,Bj),(24,Bj),(27,[.ls]),(30,AR),(31,AR),(35,Bj),(40,AR),(41,AR),(47,B6),(48,AR)]⟩
def Uz:List (Nat × MFn):=[(62,TQ),(67,Xu),(65,Xs)]
variable (A:Ar) (D:Orc)
theorem AlZ(x0:Rw)(x1:Bool)(x2:Rw):Cm A D MA N1 .n 62 TQ [ω [Ψ x0,bv x1,Ψ x2]] [] =
 Af D (ψ 135) [Ψ x0] [] [.q 0 3,.R,.X,.E] λn cs=>
 Af D (ψ 136) [γ 0 0 n 3,Ap9 (Fn.func 137) [] []] [θ cs Δ Δ] [.t,.N,.R,.X,.E] λcs2=>
 Af D (ψ 138) [ω [bv x1,Ψ x2]] [] [.a,.B,.L,.N,.E] λb xs=>
 br ((0+n*3).ble cs2.length) (AK D (ApW 62 0) [Aqk 0 0,Aqk 1 0,Ψ (Bi n 3 (Ap2 (n*3) cs2)),iv ↑n,iv 0] [bk [Ψ [],bv Φ,Ψ []],bk [γ 2 0 0 3,bv b,Ψ xs],θ [] Δ Δ] λr3 o3=>
 dk [.t,.C,.x,.X] [.v r3] λc2 l4=>
 br (Bp 1 c2)
 (dk [.P 0 0,.P 1 0,.N,.T,.L,.B,.L,.N,.T,.C,.q 3 3,.B,.L,.N,.D,.R,.X,.E] [.l l4,.o o3] λ_ _ _ n1 b2 xs3 cs7=>
 Af D (ψ 140) [γ 0 0 n1 3,Ap9 (Fn.func 141) [] []] [θ cs7 Δ Δ] [.q 0 3,.R,.X,.E] λn2 cs8=>
 Θ ((ω [γ 0 0 n2 3,bv b2,Ψ xs3],[ApX (θ cs8 Δ Δ)])))
 (Ξ)) Ξ:=by kernel_rfl
theorem WU(r0:Rw)(r1:Bool)(r2:Rw)(n4:Nat)(k1:Bool)(k2:Rw)(c4:List AV)(t17:Rw)(t18 t19:Int):D2 A D MA N1 .n 62 0 (AW TQ 0).fst (AW TQ 0).snd [Aqk 0 0,Aqk 1 0,Ψ t17,iv t18,iv t19] [bk [Ψ r0,bv r1,Ψ r2],bk [γ 2 0 n4 3,bv k1,Ψ k2],{ cells:=c4,st:=Δ,ex:=Δ }] =
 br (A.lt t19 t18)
 (unI t19 λi=>
 BG t17 i λcs=>
 dk [.I,.B,.L,.N] [.l cs] λn b xs=>
 br (A.lt n 0)
 (AK D (ApW 62 0) [Aqk 0 0,Aqk 1 0,Ψ t17,iv t18,iv (A.add δ t19 1)] [bk [Ψ r0,bv r1,Ψ r2],bk [γ 2 0 n4 3,bv k1,Ψ k2],θ c4 Δ Δ] λr o=>
 AF 3 [0,1,2] (AH.mk [(0,bk [Ψ r0,bv r1,Ψ r2]),(3,bk [iv n,bv b,Ψ xs]),(1,bk [γ 2 0 n4 3,bv k1,Ψ k2]),(2,θ c4 Δ Δ)] 4 Ξ) [0] r o)
 (br (A.le 0 (A.sub δ (↑n4) 1))
 (unI (A.sub δ (↑n4) 1) λi1=>
 br (i1.blt n4) (EZ c4 (0+i1*3+0) 1 λcs1=>
 dk [.I,.N] [.l cs1] λn1=>
 br (A.eq n1 n)
 (unI (A.sub δ (↑n4) 1) λi2=>
 br (i2.blt n4) (EZ c4 (0+i2*3+1) 2 λcs2=>
 dk [.B,.L,.N] [.l cs2] λb1 xs1=>
 Af D (ψ 139) [ω [bv b1,Ψ xs1],ω [bv b,Ψ xs]] [] [.a,.B,.L,.N,.E] λb2 xs2=>
 unI (A.sub δ (↑n4) 1) λi3=>
 br (i3.blt n4) (br ((0+i3*3+1+2).ble c4.length) (AK D (ApW 62 0) [Aqk 0 0,Aqk 1 0,Ψ t17,iv t18,iv (A.add δ t19 1)] [bk [Ψ r0,bv r1,Ψ r2],bk [γ 2 0 n4 3,bv k1,Ψ k2],θ (Ay c4 (0+i3*3+1) [bv b2,Ψ xs2]) Δ Δ] λr3 o1=>
 AF 3 [0,1,2] (AH.mk [(0,bk [Ψ r0,bv r1,Ψ r2]),(2,θ (Ay c4 (0+i3*3+1) [bv b2,Ψ xs2]) Δ Δ),(3,bk [iv n,bv b,Ψ xs]),(1,bk [γ 2 0 n4 3,bv k1,Ψ k2])] 4 Ξ) [2,0] r3 o1) Ξ) Ξ) Ξ)
 (Af D (ψ 138) [ω [bv b,Ψ xs]] [] [.a,.B,.L,.N,.E] λb1 xs1=>
 br (BB (n4+1) 40) (br ((0+n4*3).ble c4.length) (AK D (ApW 62 0) [Aqk 0 0,Aqk 1 0,Ψ t17,iv t18,iv (A.add δ t19 1)] [bk [Ψ r0,bv r1,Ψ r2],bk [γ 2 0 (n4+1) 3,bv k1,Ψ k2],θ (Aqe 0 (Ap2 (0+n4*3) c4)++[iv n,bv b1,Ψ xs1]) Δ Δ] λr3 o1=>
 AF 3 [0,1,5] (AH.mk [(0,bk [Ψ r0,bv r1,Ψ r2]),(1,bk [γ 5 0 (n4+1) 3,bv k1,Ψ k2]),(5,θ (Aqe 0 (Ap2 (0+n4*3) c4)++[iv n,bv b1,Ψ xs1]) Δ Δ),(4,θ [iv n,bv b1,Ψ xs1] Δ Δ),(3,bk [iv n,bv b,Ψ xs])] 6 Ξ) [2,1,0] r3 o1) Ξ) Ξ)) Ξ)
 (Af D (ψ 138) [ω [bv b,Ψ xs]] [] [.a,.B,.L,.N,.E] λb1 xs1=>
 br (BB (n4+1) 40) (br ((0+n4*3).ble c4.length) (AK D (ApW 62 0) [Aqk 0 0,Aqk 1 0,Ψ t17,iv t18,iv (A.add δ t19 1)] [bk [Ψ r0,bv r1,Ψ r2],bk [γ 2 0 (n4+1) 3,bv k1,Ψ k2],θ (Aqe 0 (Ap2 (0+n4*3) c4)++[iv n,bv b1,Ψ xs1]) Δ Δ] λr3 o1=>
 AF 3 [0,1,5] (AH.mk [(0,bk [Ψ r0,bv r1,Ψ r2]),(1,bk [γ 5 0 (n4+1) 3,bv k1,Ψ k2]),(5,θ (Aqe 0 (Ap2 (0+n4*3) c4)++[iv n,bv b1,Ψ xs1]) Δ Δ),(4,θ [iv n,bv b1,Ψ xs1] Δ Δ),(3,bk [iv n,bv b,Ψ xs])] 6 Ξ) [2,1,0] r3 o1) Ξ) Ξ)))
 (Θ ((ε [iv 0,Aqk 0 0,Aqk 1 0],[ApX (bk [Ψ r0,bv r1,Ψ r2]),ApX (bk [γ 3 0 n4 3,bv k1,Ψ k2]),BO.del,ApX (θ c4 Δ Δ)]))):=by kernel_rfl
theorem Al0(n0:Nat)(c0:List AV)(x1:Bool)(x2:Rw):Cm A D MA Abo .n 62 TQ [ω [γ 0 0 n0 3,bv x1,Ψ x2]] [{ cells:=c0,st:=Δ,ex:=Δ }] =
 Af D (ψ 135) [γ 0 0 n0 3] [θ c0 Δ Δ] [.q 1 3,.K,.R,.X,.E] λn cs=>
 Af D (ψ 136) [γ 0 0 n 3,Ap9 (Fn.func 137) [] []] [θ cs Δ Δ] [.t,.N,.R,.X,.E] λcs2=>
 Af D (ψ 138) [ω [bv x1,Ψ x2]] [] [.a,.B,.L,.N,.E] λb xs=>
 br ((0+n*3).ble cs2.length) (AK D (ApW 62 0) [Aqk 0 0,Aqk 1 0,Ψ (Bi n 3 (Ap2 (n*3) cs2)),iv ↑n,iv 0] [bk [Ψ [],bv Φ,Ψ []],bk [γ 2 0 0 3,bv b,Ψ xs],θ [] Δ Δ] λr3 o3=>
 dk [.t,.C,.x,.X] [.v r3] λc3 l5=>
 br (Bp 1 c3)
 (dk [.P 0 0,.P 1 0,.N,.T,.L,.B,.L,.N,.T,.C,.q 3 3,.B,.L,.N,.D,.R,.X,.E] [.l l5,.o o3] λ_ _ _ n1 b2 xs3 cs7=>
 Af D (ψ 140) [γ 0 0 n1 3,Ap9 (Fn.func 141) [] []] [θ cs7 Δ Δ] [.q 0 3,.R,.X,.E] λn2 cs8=>
 Θ ((ω [γ 1 0 n2 3,bv b2,Ψ xs3],[BO.keep,ApX (θ cs8 Δ Δ)])))
 (Ξ)) Ξ:=by kernel_rfl
theorem Al1(n0:Nat)(c0:List AV)(x1:Bool)(x2:Rw):Cm A D MA N2 .n 67 Xu [ω [γ 0 0 n0 3,bv x1,Ψ x2]] [{ cells:=c0,st:=Δ,ex:=Δ }] =
 Af D (ψ 62) [ω [γ 0 0 n0 3,bv x1,Ψ x2]] [θ c0 Δ Δ] [.a,.C,.q 1 3,.B,.L,.N,.K,.R,.X,.E] λn _ _ cs1=>
 br ((0+n*3).ble cs1.length) (AK D (ApW 67 0) [Aqk 0 0,Aqk 1 0,Ψ (Bi n 3 (Ap2 (n*3) cs1)),iv ↑n,iv 0] [bk [bv Φ,Ψ []],bk [bv Φ,Ψ []]] λr1 o1=>
 dk [.t,.C,.x,.X] [.v r1] λc3 l5=>
 br (Bp 1 c3)
 (dk [.P 0 0,.P 1 0,.N,.T,.B,.L,.N,.T,.B,.L,.N,.E] [.l l5,.o o1] λ_ _ b2 xs2=>
 Θ ((ω [bv b2,Ψ xs2],[BO.keep])))
 (Ξ)) Ξ:=by kernel_rfl
theorem WV(b2_0:Bool)(b2_1:Rw)(b3_0:Bool)(b3_1 t9:Rw)(t10 t11:Int):D2 A D MA N2 .n 67 0 (AW Xu 0).fst (AW Xu 0).snd [Aqk 0 0,Aqk 1 0,Ψ t9,iv t10,iv t11] [bk [bv b2_0,Ψ b2_1],bk [bv b3_0,Ψ b3_1]] =
 br (A.lt t11 t10)
 (unI t11 λi=>
 BG t9 i λcs=>
 dk [.I,.B,.L,.N] [.l cs] λn b xs=>
 Af D (ψ 147) [ω [bv b3_0,Ψ b3_1],ω [bv b,Ψ xs]] [] [.a,.B,.L,.N,.E] λb1 xs1=>
 AK D (ApW 67 0) [Aqk 0 0,Aqk 1 0,Ψ t9,iv t10,iv (A.add δ t11 1)] [bk [bv b2_0,Ψ b2_1],bk [bv b1,Ψ xs1]] λr1 o1=>
 AF 2 [0,1] (AH.mk [(1,bk [bv b1,Ψ xs1]),(0,bk [bv b2_0,Ψ b2_1]),(2,bk [iv n,bv b,Ψ xs])] 3 Ξ) [0,1] r1 o1)
 (Θ ((ε [iv 0,Aqk 0 0,Aqk 1 0],[ApX (bk [bv b2_0,Ψ b2_1]),ApX (bk [bv b3_0,Ψ b3_1])]))):=by kernel_rfl
theorem Aox(x0_0:Rw)(x0_1:Bool)(x0_2:Rw):Cm A D MA Tz .n 65 Xs [ω [Ψ x0_0,bv x0_1,Ψ x0_2]] [] =
 Af D (ψ 62) [ω [Ψ x0_0,bv x0_1,Ψ x0_2]] [] [.a,.C,.q 0 3,.B,.L,.N,.R,.X,.E] λn b xs cs1=>
 Af D (ψ 67) [ω [γ 0 0 n 3,bv b,Ψ xs]] [θ cs1 Δ Δ] [.a,.B,.L,.N,.K,.E] λb1 xs1=>
 Af D (ψ 64) [ω [bv b1,Ψ xs1]] [] [.i,.E] λn1=>
 br (A.eq n1 0)
 (br ((0+n*3).ble cs1.length) (Θ ((ε [ω [Ψ (Bi n 3 (Ap2 (n*3) cs1)),bv b,Ψ xs],ω [bv b1,Ψ xs1]],[]))) Ξ)
 (Af D (ApW 65 0) [Aqk 0 0,Aqk 1 0,Aqk 2 0,Aqk 3 0,γ 4 0 n 3,iv ↑n,iv 0] [bk [Ψ [],bv Φ,Ψ []],bk [bv Φ,Ψ []],bk [γ 4 0 n 3,bv b,Ψ xs],bk [bv b1,Ψ xs1],θ cs1 Δ Δ] [.t,.C,.x,.X,.Y] λc3 l7 o3=>
 br (Bp 1 c3)
 (dk [.P 0 0,.P 1 0,.P 2 0,.P 3 0,.N,.T,.L,.B,.L,.N,.T,.B,.L,.N,.T,.C,.q 5 3,.B,.L,.N,.T,.B,.L,.N,.D,.R,.X,.E] [.l l7,.o o3] λ_ _ _ _ _ n2 b4 xs5 b5 xs6 cs8=>
 Af D (ψ 66) [ω [bv b4,Ψ xs5],ω [bv b5,Ψ xs6]] [] [.t,.A,.B,.L,.N,.A,.B,.L,.N,.I,.N,.E] λb6 xs7 _ _ _=>
 br ((0+n2*3).ble cs8.length) (Θ ((ε [ω [Ψ (Bi n2 3 (Ap2 (n2*3) cs8)),bv b6,Ψ xs7],ω [bv b5,Ψ xs6]],[]))) Ξ)
 (Ξ)):=by kernel_rfl
theorem AaS(r0:Rw)(r1:Bool)(r2:Rw)(i0:Bool)(i1:Rw)(j0:Bool)(j1:Rw)(n0:Nat)(k1:Bool)(k2:Rw)(c0:List AV)(t19 t20:Int):D2 A D MA Tz .n 65 0 (AW Xs 0).fst (AW Xs 0).snd [Aqk 0 0,Aqk 1 0,Aqk 2 0,Aqk 3 0,γ 4 0 n0 3,iv t19,iv t20] [bk [Ψ r0,bv r1,Ψ r2],bk [bv i0,Ψ i1],bk [γ 4 0 n0 3,bv k1,Ψ k2],bk [bv j0,Ψ j1],{ cells:=c0,st:=Δ,ex:=Δ }] =
 br (A.lt t20 t19)
 (unI t20 λi=>
 br (i.blt n0) (EZ c0 (0+i*3) 3 λcs=>
 dk [.I,.B,.L,.N] [.l cs] λn b xs=>
 Af D (ψ 143) [ω [bv b,Ψ xs],ω [bv j0,Ψ j1]] [] [.t,.A,.B,.L,.N,.I,.N,.E] λb1 xs1 _=>
 unI t20 λi2=>
 br (i2.blt n0) (br ((0+i2*3+1+2).ble c0.length) (AK D (ApW 65 0) [Aqk 0 0,Aqk 1 0,Aqk 2 0,Aqk 3 0,γ 4 0 n0 3,iv t19,iv (A.add δ t20 1)] [bk [Ψ r0,bv r1,Ψ r2],bk [bv i0,Ψ i1],bk [γ 4 0 n0 3,bv k1,Ψ k2],bk [bv j0,Ψ j1],θ (Ay c0 (0+i2*3+1) [bv b1,Ψ xs1]) Δ Δ] λr3 o1=>
 AF 5 [0,1,2,3,4] (AH.mk [(3,bk [bv j0,Ψ j1]),(1,bk [bv i0,Ψ i1]),(0,bk [Ψ r0,bv r1,Ψ r2]),(4,θ (Ay c0 (0+i2*3+1) [bv b1,Ψ xs1]) Δ Δ),(5,bk [iv n,bv b,Ψ xs]),(2,bk [γ 4 0 n0 3,bv k1,Ψ k2])] 6 Ξ) [4,0,1,3] r3 o1) Ξ) Ξ) Ξ)
 (Θ ((ε [iv 0,Aqk 0 0,Aqk 1 0,Aqk 2 0,Aqk 3 0],[ApX (bk [Ψ r0,bv r1,Ψ r2]),ApX (bk [bv i0,Ψ i1]),ApX (bk [γ 5 0 n0 3,bv k1,Ψ k2]),ApX (bk [bv j0,Ψ j1]),BO.del,ApX (θ c0 Δ Δ)]))):=by kernel_rfl
end
theorem rdW(A:List Pt)(x:Pt)(tl:List AV)(k:List AV->KR):EZ (Ag eP A++(eP x++tl)) (0+A.length*3) 3 k=k (eP x):=by
 have hl:=AP Au A;unfold EZ;rw[show Ap3 (0+A.length*3+3) (Ag eP A++(eP x++tl)).length=Δ by simp[hl,Au],Ap6,←hl,ArL rfl];rfl
theorem spW(A:List Pt)(x y:Pt)(tl:List AV):Ay (Ag eP A++(eP x++tl)) (0+A.length*3+1) [bv y.z.neg,eN y.z.abs]=Ag eP A++(eP ⟨x.v,y.z⟩++tl):=by
 have hl:=AP Au A;unfold Ay;rw[Ap6,←hl,AsX,Asu];simp[eP,Aq6,Aqd,Nat.add_sub_cancel_left,Nat.add_assoc]
section
variable {D:Orc} (Ks:Knows MA Uz D) (W:ZdF D)
include Ks W
theorem AkX(g:Int)(hg:InB 300000000 g)(hg0:g≠0)(r0:List (List AV))(r1:Bool)(r2:List (List AV))(i0:Bool)(i1:List (List AV))(k1:Bool)(k2:List (List AV))(n:Nat)(hn:n<=4000000)(tl:List AV):∀(r:List (Int × Int)) (A:List Pt),A.length+r.length=n->(∀ p∈r,InB 300000000 p.2/\g ∣ p.2)->
  D.ask (.lp 65 0) [.ptr 0 0,.ptr 1 0,.ptr 2 0,.ptr 3 0,.sl 4 0 n 3,iv (n:Int),iv (A.length:Int)] [bk [.ls r0,bv r1,.ls r2],bk [bv i0,.ls i1],bk [.sl 4 0 n 3,bv k1,.ls k2],bk (eZ (Ap g)),θ (Ag eP A++(Ag eP (r.map AJ)++tl)) Δ Δ]
   = Θ (.tup [iv 0,.ptr 0 0,.ptr 1 0,.ptr 2 0,.ptr 3 0],[.set (bk [.ls r0,bv r1,.ls r2]),.set (bk [bv i0,.ls i1]),.set (bk [.sl 5 0 n 3,bv k1,.ls k2]),.set (bk (eZ (Ap g))),.del,.set (θ (Ag eP A++(Ag eP (r.map (Ur g))++tl)) Δ Δ)]):=by
 intro r
 induction r with
 |nil=>
  intro A hA _;refine Ax Ks Tz (AaS ..) ?_;rw[List.length_nil]at hA;exact Ak rfl
 |cons p r ih=>
  intro A hA hr;rw[ο]at hA;obtain⟨hp,hd⟩:=hr p (ι ..);obtain⟨d1,d2⟩:=Oz hd hg0;have ge:=W.exact (Ap p.2) (Ap g) (hp.lz.mono (by omega)) (hg.lz.mono (by omega));rw[AU,AU,if_neg hg0,if_pos d1]at ge;have ih:=ih (A++[Ur g p]) (by simp;omega) (λq hq=>hr q (π _ hq));have e1:∀(x:Pt) (t:List AV),Ag eP (A++[x])++t=Ag eP A++(eP x++t):=λx t=>by
   rw[←BD eP A x,Ap7]
  rw[e1,e1,χ,AqB]at ih;have e2:∀(f:Int × Int->Pt) (t:List AV),Ag eP ((p::r).map f)++t=eP (f p)++(Ag eP (r.map f)++t):=λf t=>by
   unfold Ag;rw[Ap5,List.flatMap_cons,Ap7]
  rw[e2,e2];have hrd:=rdW A (AJ p) (Ag eP (r.map AJ)++tl);have hsp:=spW A (AJ p) (Ur g p) (Ag eP (r.map AJ)++tl);have hlen:Ap3 (0+A.length*3+1+2) (Ag eP A++(eP (AJ p)++(Ag eP (r.map AJ)++tl))).length=Δ:=by
   rw[χ,χ,AP Au,Au];simp;omega
  have hx:(⟨(AJ p).v,(Ur g p).z⟩:Pt)=Ur g p:=rfl;have hz:([bv (Ur g p).z.neg,eN (Ur g p).z.abs]:List AV)=[bv (Ap (qZ p.2 g)).neg,eN (Ap (qZ p.2 g)).abs]:=rfl;rw[hx,hz]at hsp;generalize Ag eP A++(eP (AJ p)++(Ag eP (r.map AJ)++tl))=cs at *;refine Ax Ks Tz (AaS ..) ?_;refine Al ?_;rw[At,show Nat.blt A.length n=Δ from Bv (by omega)];refine Ac ?_;refine(hrd _).trans ?_;simp only[eP,AJ,eN,EL,Ce,Dj,BN,DK];refine Ab ge ?_;simp only[eZ,eN,DJ,BX,CH,Ce,Dj,EL,BN,Bt,DK];rw[At,show Nat.blt A.length n=Δ from Bv (by omega),hlen];refine Ac ?_;refine Ac ?_;simp only[eN]at hsp;rw[hsp,BZ (by omega)];refine Ab ih ?_;rfl
theorem Ad5(l:List (Int × Int))(hlen:l.length<=4000000)(hl:∀ p∈l,InB 800000000 p.2):∀(m i g:Nat),l.length-i=m->i<=l.length->InB 800000000 (g:Int)->
  D.ask (.lp 67 0) [.ptr 0 0,.ptr 1 0,.ls (l.map λp=>eP (AJ p)),iv (l.length:Int),iv (i:Int)] [bk [bv Φ,.ls []],bk (eZ (Ap (g:Int)))]
   = Θ (.tup [iv 0,.ptr 0 0,.ptr 1 0],[.set (bk [bv Φ,.ls []]),.set (bk (eZ (Ap (D1 g (l.drop i):Int))))]):=by
 intro m
 induction m with
 |zero=>
  intro i g hm hi hg;rw[Aqd (by omega)];refine Ax Ks N2 (WV ..) ?_;exact Ak rfl
 |succ m ih=>
  intro i g hm hi hg;have h1:i<l.length:=by omega
  have hx:=hl _ (Aqg h1);rw[ApV h1];have ga:=W.gcd (Ap (g:Int)) (Ap l[i].2) (hg.lz.mono (by omega)) (hx.lz.mono (by omega));rw[AU,AU,ArS]at ga;have ih1:=ih (i+1) (Nat.gcd g l[i].2.natAbs) (by omega) (by omega) (Ri hg hx);refine Ax Ks N2 (WV ..) ?_;refine Al ?_;rw[At,AB (f:=λp=>eP (AJ p)) (φ h1)];simp only[eP,AJ,eN,ND,DK,Aa];refine Ab ga ?_;simp only[eZ,eN,ND,DK,Aa];rw[BZ (by omega)];refine Ab ih1 ?_;rfl
theorem S2{l:List (Int × Int)}{cs:List AV}{b:Bool}{xs:List (List AV)}{tl:List AV}{b2:Bool}{xs2:List (List AV)}(hp:D.ask (.fn 62) [.agg [.sl 0 0 l.length 3,bv b,.ls xs]] [θ cs Δ Δ]=Θ (.agg [.sl 1 0 l.length 3,bv b2,.ls xs2],[.keep,.set (θ (Ag eP (l.map AJ)++tl) Δ Δ)]))(hlen:l.length<=4000000)(hl:∀ p∈l,InB 800000000 p.2) :
  D.ask (.fn 67) [.agg [.sl 0 0 l.length 3,bv b,.ls xs]] [θ cs Δ Δ]=Θ (.agg (eZ (Ap (D1 0 l:Int))),[.keep]):=by
 have g:=Ad5 Ks W l hlen hl _ 0 0 rfl (by omega) (InB.zero _);rw[Ap4,show Ap ((0:Nat):Int)=⟨Φ,[]⟩ from WA,show eZ ⟨Φ,[]⟩=[bv Φ,.ls []] from rfl]at g;have hll:(Ag eP (l.map AJ)).length=l.length*3:=by rw[AP Au,Ap1]
 refine AI Ks N2 (Al1 ..) ?_;refine Ab hp ?_;simp only[eZ,eN,ND,DK,Aa];rw[show Ap3 (0+l.length*3) (Ag eP (l.map AJ)++tl).length=Δ by rw[χ,hll];simp];refine Ac ?_;rw[←hll,ArU rfl,show Bi l.length 3 (Ag eP (l.map AJ))=l.map λp=>eP (AJ p) by
  have:=DE Au (l.map AJ);rw[Ap1,Art]at this;exact this]
 refine Ab g ?_;rfl
theorem Zt{n k:Nat}{t:Tm}(ht:TmB n k t)(hn:n<=1000000)(hk:k+n<=300000000)(hs:∀ z:Zi,Lz 1000000000 z->D.ask (.fn 64) [.agg (eZ z)] []=Θ (iv (Fs (zv z)),[])){tl tl':List AV}{b2:Bool}{xs2:List (List AV)}
  (hPn:D.ask (.fn 62) [.agg (eT t)] []=Θ (.agg [.sl 0 0 (AC t.lf.ps).length 3,bv (Ap (zv t.k)).neg,eN (Ap (zv t.k)).abs],[.set (θ (Ag eP ((AC t.lf.ps).map AJ)++tl) Δ Δ)]))
  (hPo:D.ask (.fn 62) [.agg [.sl 0 0 (AC t.lf.ps).length 3,bv (Ap (zv t.k)).neg,.ls ((Ap (zv t.k)).abs.map eL)]] [θ (Ag eP ((AC t.lf.ps).map AJ)++tl) Δ Δ]=Θ (.agg [.sl 1 0 (AC t.lf.ps).length 3,bv b2,.ls xs2],[.keep,.set (θ (Ag eP ((AC t.lf.ps).map AJ)++tl') Δ Δ)])) :
  D.ask (.fn 65) [.agg (eT t)] []=Θ (.tup [.agg (eT (D3 t)),.agg (eZ (Ap (Ck t:Int)))],[]):=by
 have hll:=Gi t.lf.ps;have hl2:=ht.lb.len;have hci:=WM ht;have hlI:∀ p∈AC t.lf.ps,InB 300000000 p.2:=λp hp=>by
  rw[←Jt]at hp;obtain⟨v,_,rfl⟩:=Aqm.1 hp;exact(Wy ht v).mono hk
 have gc:=S2 Ks W (l:=AC t.lf.ps) hPo (by omega) (λp hp=>(hlI p hp).mono (by omega));have hki:InB 300000000 (zv t.k):=ht.k.inb.mono (by omega);have gs:=hs (Ap (Ck t:Int)) (hci.lz.mono (by omega));rw[AU]at gs;have hch:∀(f:Int × Int->Pt) (tl:List AV),Bi (AC t.lf.ps).length 3 (Ap2 ((AC t.lf.ps).length*3) (Ag eP ((AC t.lf.ps).map f)++tl))=((AC t.lf.ps).map f).map eP:=λf tl=>by
  have h:(Ag eP ((AC t.lf.ps).map f)).length=(AC t.lf.ps).length*3:=by rw[AP Au,Ap1]
  have:=DE Au ((AC t.lf.ps).map f);rw[Ap1]at this;rw[←h,ArU rfl,this]
 have hbl:∀(f:Int × Int->Pt) (tl:List AV),Ap3 (0+(AC t.lf.ps).length*3) (Ag eP ((AC t.lf.ps).map f)++tl).length=Δ:=λf tl=>by
  rw[χ,AP Au,Ap1];simp
 refine AI Ks Tz (Aox ..) ?_;refine Ab hPn ?_;simp only[eN,ND,DK,Aa];refine Ab gc ?_;rw[show D1 0 (AC t.lf.ps)=Ck t from rfl];simp only[eZ,eN,DJ,BX,CH,Ce,Dj,EL,BN,Bt,O9,Mp,DK];refine Ab gs ?_;simp only[Gt,Bt,DK];rw[hbl,hch];unfold D3
 by_cases h0:Ck t=0
 .rw[if_pos h0,h0]
  refine BF ?_ (by decide);refine Ac ?_;rfl
 .rw[if_neg h0]
  refine Bm ?_ (by unfold Fs;rw[if_neg (by omega),if_pos (by omega)];decide);have hdv:∀ p∈AC t.lf.ps,InB 300000000 p.2/\(Ck t:Int) ∣ p.2:=λp hp=>⟨hlI p hp,Int.natAbs_dvd_natAbs.1 (by rw[ArS];exact(JY (AC t.lf.ps) 0).2 p hp)⟩
  have g:=AkX Ks W (Ck t:Int) (hci.mono (by omega)) (by omega) [] Φ [] Φ [] (Ap (zv t.k)).neg ((Ap (zv t.k)).abs.map eL) (AC t.lf.ps).length (by omega) tl (AC t.lf.ps) [] (by simp) hdv;rw[show Ag eP ([]:List Pt)=[] from rfl,Aql,Aql]at g;have gk:=W.div (Ap (zv t.k)) (Ap (Ck t:Int)) (hki.lz.mono (by omega)) (hci.lz.mono (by omega));rw[AU,AU,if_neg (by omega)]at gk;refine Ab g ?_;simp only[eZ,eN,ND,DK,Aa];refine Ab gk ?_;simp only[eZ,eN,DJ,BX,CH,Ce,Dj,EL,BN,Bt,DK];rw[hbl,hch];refine Ac ?_;rfl
end
section
variable {D:Orc} (Kt:Knows MA Uz D) (Z:ZF D) (hcp:∀{z:Zi},Lz 1000000000 z->D.ask (.fn 138) [.agg (eZ z)] []=Θ (.agg (eZ (Ap (zv z))),[]))
include Z
include Kt hcp in
theorem Qp{k:Nat}(ps:List Pt)(hl:ps.length<=1000000)(hk:k+ps.length<=900000000)(hz:∀ p∈ps,Lz k p.z)(r0:List (List AV))(r1:Bool)(r2:List (List AV))(k1:Bool)(k2:List (List AV)):∀(m i:Nat) (s:List (Int × Int)),ps.length-i=m->i<=ps.length->s.length<=i->(∀ q∈s,InB (k+i) q.2)->
  D.ask (.lp 62 0) [.ptr 0 0,.ptr 1 0,.ls (ps.map eP),iv (ps.length:Int),iv (i:Int)] [⟨[.ls r0,bv r1,.ls r2],Δ,Φ⟩,⟨[.sl 2 0 (s.map AJ).reverse.length 3,bv k1,.ls k2],Δ,Φ⟩,Fp (s.map AJ).reverse]
   = Θ (.tup [iv 0,.ptr 0 0,.ptr 1 0],[.set ⟨[.ls r0,bv r1,.ls r2],Δ,Φ⟩,.set ⟨[.sl 3 0 ((((ps.drop i).map pv).foldl CV s).map AJ).reverse.length 3,bv k1,.ls k2],Δ,Φ⟩,.del,.set (Fp ((((ps.drop i).map pv).foldl CV s).map AJ).reverse)]):=by
 intro m
 induction m with
 |zero=>
  intro i s hm hi hs hb;rw[Aqd (by omega),Ara,AtP];refine Ax Kt N1 (WU ..) ?_;exact Ak rfl
 |succ m ih0=>
  intro i s hm hi hs hb;have h1:i<ps.length:=by omega
  have hzk:=hz ps[i] (Aqg h1);have hzi:=hzk.mono (show k<=1000000000 by omega);rw[ApV h1,Ap5,Arx];have ih:=ih0 (i+1) (CV s (pv ps[i])) (by omega) (by omega) (by have:=Hk s (pv ps[i]);omega) (Hj hb (hzk.inb.mono (show k<=k+i by omega)));refine Ax Kt N1 (WU ..) ?_;refine Al ?_;rw[At,AB (φ h1)];simp only[eP,eN,ND,DK,Aa];generalize hS:((ps.drop (i+1)).map pv).foldl CV (CV s (pv ps[i]))=S at ih ⊢
  by_cases hneg:ps[i].v<0
  .have e:CV s (pv ps[i])=s:=by
    have hn:(pv ps[i]).1<0:=hneg
    cases s with
    |nil=>rw[Es,if_pos hn]
    |cons q r=>rw[DG,if_pos hn]
   rw[e]at ih;refine Al ?_ hneg;rw[BZ (by omega)];refine Ab ih ?_;rfl
  have hn:¬(pv ps[i]).1<0:=hneg;refine Ak ?_ hneg
  cases s with
  |nil=>
   rw[Es,if_neg hn]at ih;refine DA ?_ (by decide);obtain⟨o,ho0⟩:∃ o:List Pt,o=[]:=⟨_,rfl⟩;have eo:(([pv ps[i]].map AJ).reverse)=o++[AJ (pv ps[i])]:=by rw[ho0];rfl
   rw[eo]at ih;have ho:o.length<=i:=by rw[ho0];exact AqC _
   rw[show ((([]:List (Int × Int)).map AJ).reverse)=o from ho0.symm];have hf:BB (o.length+1) 40=Δ:=Ba (by omega) (by omega);have hb1:Ap3 (0+o.length*3) (Ag eP o).length=Δ:=Bb Au o (by omega);have e3:Aqe 0 (Ap2 (0+o.length*3) (Ag eP o))++[iv ps[i].v,bv (Ap (zv ps[i].z)).neg,eN (Ap (zv ps[i].z)).abs]=Ag eP (o++[AJ (pv ps[i])]):=by
    rw[Ap4,BH Au o (by omega)];exact BD eP o (AJ (pv ps[i]))
   refine Ab (hcp hzi) ?_;simp only[eZ,eN,ND,DK,Aa]at e3 ⊢;rw[hf];refine Ac ?_;rw[hb1];refine Ac ?_;rw[e3,BZ (by omega)];rw[χ,AqB]at ih;refine Ab ih ?_;rfl
  |cons q r=>
   have eo:(((q::r).map AJ).reverse)=(r.map AJ).reverse++[AJ q]:=by simp
   have hq:=hb q (ι ..);rw[eo];rw[DG,if_neg hn]at ih;have hro:(r.map AJ).reverse.length<=i:=by simp at hs ⊢;omega
   by_cases heq:q.1=(pv ps[i]).1
   .rw[if_pos heq,Ap5,Asp]at ih
    generalize (r.map AJ).reverse=o at hro ih ⊢;have e1:Ad.sub .i64 (((o++[AJ q]).length:Nat):Int) 1=((o.length:Nat):Int):=by
     rw[χ,AqB];exact GX (by omega)
    have hlt:o.length<(o++[AJ q]).length:=by simp
    have ga:=Z.add (Ap q.2) ps[i].z (hq.lz.mono (by omega)) (hzk.mono (by omega));rw[AU]at ga;have sp:=Ano o (AJ q) (Ap (q.2+zv ps[i].z));rw[e1];refine CI ?_;rw[At,AL hlt];refine Ac ?_;refine(AgI o (AJ q) _).trans ?_;simp only[ND,DK,Aa];refine BF ?_ (show (AJ q).v=ps[i].v from heq);rw[At,AL hlt];refine Ac ?_;refine(Ani o (AJ q) _).trans ?_;simp only[eN,ND,DK,Aa];refine Ab ga ?_;simp only[eZ,eN,ND,DK,Aa]at sp ⊢;rw[At,AL hlt];refine Ac ?_;rw[show Ap3 (0+o.length*3+1+2) (Ag eP (o++[AJ q])).length=Δ by rw[AP Au];simp;omega];refine Ac ?_;rw[sp,BZ (by omega)];have el:(o++[AJ q]).length=(o++[AJ (q.1,q.2+(pv ps[i]).2)]).length:=by simp
    rw[el];refine Ab ih ?_;rfl
   .rw[if_neg heq,Ap5,Asp,eo]at ih
    have hlen:((r.map AJ).reverse++[AJ q]).length<=i:=by simp at hs ⊢;omega
    have e1:Ad.sub .i64 ((((r.map AJ).reverse++[AJ q]).length:Nat):Int) 1=(((r.map AJ).reverse.length:Nat):Int):=by
     rw[χ,AqB];exact GX (by omega)
    have hlt:(r.map AJ).reverse.length<((r.map AJ).reverse++[AJ q]).length:=by simp
    rw[e1];refine CI ?_;rw[At,AL hlt];refine Ac ?_;refine(AgI _ (AJ q) _).trans ?_;simp only[ND,DK,Aa];refine Bm ?_ (show ¬(AJ q).v=ps[i].v from heq);generalize (r.map AJ).reverse++[AJ q]=o at hlen ih ⊢;have ho:=hlen;have hf:BB (o.length+1) 40=Δ:=Ba (by omega) (by omega);have hb1:Ap3 (0+o.length*3) (Ag eP o).length=Δ:=Bb Au o (by omega);have e3:Aqe 0 (Ap2 (0+o.length*3) (Ag eP o))++[iv ps[i].v,bv (Ap (zv ps[i].z)).neg,eN (Ap (zv ps[i].z)).abs]=Ag eP (o++[AJ (pv ps[i])]):=by
     rw[Ap4,BH Au o (by omega)];exact BD eP o (AJ (pv ps[i]))
    refine Ab (hcp hzi) ?_;simp only[eZ,eN,ND,DK,Aa]at e3 ⊢;rw[hf];refine Ac ?_;rw[hb1];refine Ac ?_;rw[e3,BZ (by omega)];rw[χ,AqB]at ih;refine Ab ih ?_;rfl
end
