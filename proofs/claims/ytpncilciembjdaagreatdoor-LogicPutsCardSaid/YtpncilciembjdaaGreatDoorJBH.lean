/- rel.Tidy's walk. -/
import Derived.Test.YtpncilciembjdaaGreatDoorJBF
import Derived.Test.YtpncilciembjdaaGreatDoorJBG
import Derived.Test.YtpncilciembjdaaGreatDoorJAQ
set_option linter.all false
open Bool renaming false->Ξ,true->U
open List renaming all_append->Av7,drop_eq_getElem_cons->χ,flatMap_cons->Au3,getElem?_eq_getElem->δ,getElem?_map->AtG,getElem_mem->Ats,length_append->γ,length_cons->Ate,mem_cons->Atd,mem_filter->Auk
open Nat renaming le_refl->η,lt_irrefl->AuE,zero_le->AtI
open Option renaming none->Θ,some->Δ
namespace Go.Proofs.YtpncilciembjdaaGreatDoor
open Lib renaming hid->κ
open Tryz renaming prog->ζ
open Go.RowKit
structure RlA where
 ps:Rw
 kn:Bool
 ka:Rw
 eq:Bool
def RlA.c(r:RlA):Aa:=[.ls r.ps,bv r.kn,.ls r.ka,bv r.eq]
inductive Run1 (dq:Nat->DF):List RlA->Rw->Option Rw->Prop where
 |nil (ls:Rw):Run1 dq [] ls (Δ ls)
 |never (r r':RlA) (rs:List RlA) (ls:Rw) (h:dq 17 [.agg r.c] []=Δ (.tup [.agg r'.c,iv (-1)],[])):Run1 dq (r::rs) ls Θ
 |skip (r r':RlA) (rs:List RlA) (ls:Rw) (k:Int) (o:Option Rw) (h:dq 17 [.agg r.c] []=Δ (.tup [.agg r'.c,iv k],[])) (h1:k≠-1) (h0:k≠0) (hr:Run1 dq rs ls o):Run1 dq (r::rs) ls o
 |note (r r':RlA) (rs:List RlA) (ls ls':Rw) (o:Option Rw) (h:dq 17 [.agg r.c] []=Δ (.tup [.agg r'.c,iv 0],[])) (hn:Nonempty (NoteH dq ls r'.ps r'.kn r'.ka r'.eq ls')) (hr:Run1 dq rs ls' o):Run1 dq (r::rs) ls o
inductive Run2 (dq:Nat->DF):Rw->List RlA->Option (List RlA)->Prop where
 |nil (out:List RlA):Run2 dq [] out (Δ out)
 |never (x x':Aa) (xs:Rw) (out:List RlA) (more:Rw) (h:dq 89 [.ptr 0 0] [⟨x,U,Ξ⟩]=Δ (.tup [.ls more,bv Ξ],[.set ⟨x',U,Ξ⟩])) (h1:x'.all GV=U) (h9:x'.length=9):Run2 dq (x::xs) out Θ
 |go (x x':Aa) (xs:Rw) (out:List RlA) (m0:RlA) (more:List RlA) (o:Option (List RlA)) (h:dq 89 [.ptr 0 0] [⟨x,U,Ξ⟩]=Δ (.tup [.ls ((m0::more).map RlA.c),bv U],[.set ⟨x',U,Ξ⟩])) (h1:x'.all GV=U) (h9:x'.length=9) (hm:more.length<=1) (hr:Run2 dq xs (out++m0::more) o):Run2 dq (x::xs) out o
section
variable [S:Side]
theorem Yb{own:Ae}{w:World}{rs:List RlA}{A:Option Addr}{n c:Nat}(h:Ro own w (.ls (rs.map RlA.c)) (.slice A n c))(h0:0<rs.length) :
  ∃ b o,A=Δ ⟨b,o,Θ⟩/\b<w.heap.size/\∀ i (hi:i<rs.length),∃ A0 z0 A2 z2,w.cell? ⟨b,o+i*4,Θ⟩=Δ (.slice A0 rs[i].ps.length z0)/\w.cell? ⟨b,o+i*4+1,Θ⟩=Δ (.bool rs[i].kn)/\w.cell? ⟨b,o+i*4+2,Θ⟩=Δ (.slice A2 rs[i].ka.length z2)/\w.cell? ⟨b,o+i*4+3,Θ⟩=Δ (.bool rs[i].eq)/\RoL own w rs[i].c [.slice A0 rs[i].ps.length z0,.bool rs[i].kn,.slice A2 rs[i].ka.length z2,.bool rs[i].eq]:=by
 unfold Ro at h;simp only[Rep]at h;obtain⟨_,A2,c',h1,h2,h3,h4⟩:=h;injection h1 with e1 e2 e3
 subst e1;obtain⟨g,o,e,hA,hr⟩:=h4 (by
  intro hh;rw[List.map_eq_nil_iff]at hh;rw[hh]at h0;exact AuE _ h0)
 have he:e=4:=by
  have:=(hr.get (i:=0) (x:=rs[0].c) (by rw[AtG,δ h0];rfl)).1;unfold RlA.c at this;simpa using this.symm
 subst he;have ha0:=(hr.get (i:=0) (x:=rs[0].c) (by rw[AtG,δ h0];rfl)).2;unfold RlA.c at ha0;obtain⟨hF,_⟩:=ha0.get (i:=0) (x:=.ls rs[0].ps) rfl;refine⟨g,o,hA,hF.1,λi hi=>?_⟩;have ha:=(hr.get (i:=i) (x:=rs[i].c) (by rw[AtG,δ hi];rfl)).2;unfold RlA.c at ha;obtain⟨_,u0,q0,r0⟩:=ha.get (i:=0) (x:=.ls rs[i].ps) rfl;obtain⟨_,u1,q1,r1⟩:=ha.get (i:=1) (x:=bv rs[i].kn) rfl;obtain⟨_,u2,q2,r2⟩:=ha.get (i:=2) (x:=.ls rs[i].ka) rfl;obtain⟨_,u3,q3,r3⟩:=ha.get (i:=3) (x:=bv rs[i].eq) rfl;have r0':Ro own w (.ls rs[i].ps) u0:=r0;have r1':Ro own w (bv rs[i].kn) u1:=r1;have r2':Ro own w (.ls rs[i].ka) u2:=r2;have r3':Ro own w (bv rs[i].eq) u3:=r3;obtain⟨B0,z0,rfl⟩:=Rp.ls_inv r0'.rp;obtain rfl:=Rp.bool_inv r1'.rp;obtain⟨B2,z2,rfl⟩:=Rp.ls_inv r2'.rp;obtain rfl:=Rp.bool_inv r3'.rp;exact⟨B0,z0,B2,z2,q0,q1,q2,q3,RoL.cons r0' (RoL.cons r1' (RoL.cons r2' (RoL.cons r3' (RoL.nil _ _))))⟩
theorem Lp{own:Ae}{w:World}{r:RlA}{k:Int}{u:Value}(h:Ro own w (.tup [.agg r.c,iv k]) u):∃ A0 z0 A2 z2,u=.tuple #[.agg #[.slice A0 r.ps.length z0,.bool r.kn,.slice A2 r.ka.length z2,.bool r.eq],.int .i64 k]/\RoL own w [.ls r.ps,bv r.kn,.ls r.ka] [.slice A0 r.ps.length z0,.bool r.kn,.slice A2 r.ka.length z2]:=by
 obtain⟨us,rfl,hus⟩:=Ro.tup_inv h;obtain⟨ua,_,rfl,ha,hus⟩:=RoL.cons_inv hus;obtain⟨ub,_,rfl,hb,hus⟩:=RoL.cons_inv hus;obtain rfl:=RoL.nil_inv hus;obtain rfl:=Rp.int_inv hb.rp;obtain⟨vs,rfl,hv⟩:=Ro.agg_inv ha;unfold RlA.c at hv;obtain⟨_,_,rfl,q0,hv⟩:=RoL.cons_inv hv;obtain⟨_,_,rfl,q1,hv⟩:=RoL.cons_inv hv;obtain⟨_,_,rfl,q2,hv⟩:=RoL.cons_inv hv;obtain⟨_,_,rfl,q3,hv⟩:=RoL.cons_inv hv;obtain rfl:=RoL.nil_inv hv;obtain⟨A0,z0,rfl⟩:=Rp.ls_inv q0.rp;obtain rfl:=Rp.bool_inv q1.rp;obtain⟨A2,z2,rfl⟩:=Rp.ls_inv q2.rp;obtain rfl:=Rp.bool_inv q3.rp;exact⟨A0,z0,A2,z2,rfl,RoL.cons q0 (RoL.cons q1 (RoL.cons q2 (RoL.nil _ _)))⟩
omit S in
theorem G7(p:AV->Bool)(hp:∀ r:RlA,r.c.all p=U):∀ ms:List RlA,(ms.flatMap RlA.c).all p=U
 |[]=>rfl
 |m::r=>by
  rw[Au3,Av7,hp m,G7 p hp r];rfl
omit S in
theorem J0:∀ ms:List RlA,(ms.flatMap RlA.c).length=ms.length*4
 |[]=>rfl
 |m::r=>by
  rw[Au3,γ,J0 r,Ate]
  show 4+_=_
  omega
theorem Ad9{own:Ae}{w:World}{ms:List RlA}{A:Option Addr}{n c:Nat}(h:Ro own w (.ls (ms.map RlA.c)) (.slice A n c))(h0:ms≠[]) :
  ∃ ad us,A=Δ ad/\n=ms.length/\us.length=ms.length*4/\(∀(j:Nat) (u:Value),us[j]? = Δ u->w.cell? (ad.add j)=Δ u)/\RoL own w (ms.flatMap RlA.c) us/\us.all B4=U/\∀ u∈us,u.oneCell'=U:=by
 have h':=h;unfold Ro at h;simp only[Rep]at h;obtain⟨_,A2,c',h1,h2,h3,h4⟩:=h;injection h1 with e1 e2 e3
 subst e1;obtain⟨g,o,e,hA,hr⟩:=h4 (by simpa using h0);obtain⟨us,k1,k2⟩:=Ld _ o hr;have ef:(ms.map RlA.c).flatten=ms.flatMap RlA.c:=rfl;rw[ef]at k1;have hl:RoL own w (ms.flatMap RlA.c) us:=k1;refine⟨⟨g,o,Θ⟩,us,hA,by simpa using e2,?_,λj u hj=>by rw[G6];exact k2 j u hj,hl,J6 (G7 GV (λ_=>rfl) ms) hl,λu hu=>?_⟩
 .rw[k1.length]
  exact J0 ms
 .obtain⟨j,hj,rfl⟩:=List.getElem_of_mem hu
  have hj2:j<(ms.flatMap RlA.c).length:=by rw[←k1.length];exact hj
  obtain⟨u,a1,a2⟩:=k1.get (δ hj2);rw[δ hj]at a1
  cases a1
  exact a2.one (List.all_eq_true.1 (G7 AV.one (λ_=>rfl) ms) _ (Ats hj2))
theorem Book.app{own:Ae}{w w7:World}{bk:Nat}{gs:Ae}{ls:Rw}{v r r':Value}{T:TypeId}{n:Nat}{us:AA}(h:Book own w bk gs ls v)(hown:w7.ownsRow 0 T 4 r' n us)(hpos:0<n)(hgrow:w.grownBy w7 r.ownBlock)
  (hrm:∀ g,r.ownBlock=Δ g->g∈own/\g≠bk/\g∉gs/\v.ownBlock≠Δ g) (hloc:r'.ownBlock=r.ownBlock\/r'.ownBlock=Δ w.heap.size) :
  ∃ own',Book own' w7 bk gs ls v/\Xt own own' w w7/\∀ g,r'.ownBlock=Δ g->g∈own'/\g≠bk/\g∉gs/\v.ownBlock≠Δ g:=by
 have old:∀ g,g<w.heap.size->r.ownBlock≠Δ g->w7.heap[g]? = w.heap[g]?:=λg hg hr=>hgrow.block g hg λe=>hr e.symm
 obtain⟨rg,rcur,hro,hrc⟩:∃ g cur,r'.ownBlock=Δ g/\w7.heap[g]? = Δ (.cells cur T (0,0)):=by
  rcases hown.2 with⟨_,h0⟩|⟨g,cap,cur,h1,h2,h3,h4,_⟩
  .omega
  .exact⟨g,cur,by rw[h1];rfl,h3⟩
 have nbk:r.ownBlock≠Δ bk:=λe=>(hrm _ e).2.1 rfl
 have ngs:∀ g∈gs,r.ownBlock≠Δ g:=λg hg e=>(hrm _ e).2.2.1 hg
 have nrow:∀ g,v.ownBlock=Δ g->r.ownBlock≠Δ g:=λg hg e=>(hrm _ e).2.2.2 hg
 have sd7:∀ own',(∀ g∈own',g∈own\/w.heap.size<=g)->Sd own' w7:=λown' hm=>h.mine.sd.exact hgrow.size (λg hg hn=>old g hg λe=>hn (hrm _ e).1) hm
 have fin:∀ own',Mine own' w7->(∀ g∈own',g∈own\/w.heap.size<=g)->(∀ g∈own,r.ownBlock≠Δ g->g∈own')->Book own' w7 bk gs ls v/\Xt own own' w w7:=λown' hm h1 h2=>by
  have hx:Xt own own' w w7:=.exact hgrow.os hgrow.tape hgrow.output hgrow.size (λg hg hn=>old g hg λe=>hn (hrm _ e).1) h1;exact⟨⟨hm,h2 _ h.bkm nbk,(old bk (h.mine.lt h.bkm) nbk).trans h.box,J7 h.row λg hg=>old g (h.mine.lt (h.rowm g hg).1) (nrow g hg),λg hg=>⟨h2 _ (h.rowm g hg).1 (nrow g hg),(h.rowm g hg).2⟩,h.len,λg hg=>⟨h2 _ (h.gm g hg).1 (ngs g hg),(h.gm g hg).2⟩,h.nd,λi h3 h4=>(h.line i h3 h4).ext hx (old _ (h.mine.lt (h.gm _ (Ats h3)).1) (ngs _ (Ats h3)))⟩,hx⟩
 rcases hloc with h1|h1
 .have hrg:r.ownBlock=Δ rg:=h1.symm.trans hro
  obtain⟨b1,b2⟩:=fin own ⟨h.mine.nd,(λg hg=>by
   by_cases e:g=rg
   .subst e;exact⟨_,_,hrc⟩
   .obtain⟨T',cs,hb⟩:=h.mine.all g hg
    exact⟨T',cs,(old g (h.mine.lt hg) λe'=>e (by rw[hrg]at e';injection e' with e';exact e'.symm)).trans hb⟩),sd7 _ λ_ h=>.inl h⟩ (λ_ h=>.inl h) (λ_ h _=>h)
  exact⟨own,b1,b2,λg hg=>hrm g (h1▸hg)⟩
 .have hrg:rg=w.heap.size:=by rw[hro]at h1;injection h1
  subst hrg;have hlt:∀ g∈own.filter (λg=>decide (r.ownBlock≠Δ g)),g<w.heap.size/\g∈own/\r.ownBlock≠Δ g:=λg hg=>by
   have:=Auk.1 hg;exact⟨h.mine.lt this.1,this.1,by simpa using this.2⟩
  have hone:∀ g∈w.heap.size::own.filter (λg=>decide (r.ownBlock≠Δ g)),g∈own\/w.heap.size<=g:=λg hg=>by
   rcases Atd.1 hg with rfl|hg
   .exact .inr (η _)
   .exact .inl (hlt g hg).2.1
  obtain⟨b1,b2⟩:=fin (w.heap.size::own.filter (λg=>decide (r.ownBlock≠Δ g))) ⟨List.nodup_cons.2 ⟨λhm=>AuE _ (hlt _ hm).1,h.mine.nd.filter _⟩,(λg hg=>by
   rcases Atd.1 hg with rfl|hg
   .exact⟨_,_,hrc⟩
   .obtain⟨q1,q2,q3⟩:=hlt g hg
    obtain⟨T',cs,hb⟩:=h.mine.all g q2;exact⟨T',cs,(old g q1 q3).trans hb⟩),sd7 _ hone⟩ hone (λg hg hr=>by simp[Auk,hg,hr])
  refine⟨_,b1,b2,λg hg=>?_⟩;rw[hro]at hg;injection hg with hg
  subst hg;refine⟨List.mem_cons_self ..,λe=>?_,λhm=>?_,λe=>?_⟩
  .have:=h.mine.lt h.bkm;omega
  .have:=h.mine.lt (h.gm _ hm).1;omega
  .have:=h.mine.lt (h.rowm _ e).1;omega
theorem Akz{own:Ae}{w:World}{f:Fn}:Ro own w (.fn f [] []) (.func f #[] #[]):=by
 unfold Ro;simp only[Rep,RepList];exact⟨#[],#[],rfl,rfl,rfl⟩
theorem Book.al0{own:Ae}{w:World}{bk:Nat}{gs:Ae}{ls:Rw}{v:Value}(h:Book own w bk gs ls v)(o:Obj):Book own (w.alloc o) bk gs ls v:=
 h.ext (h.mine.alloc0 o) (λ_ h=>h) (Xt.call own (Be w o)) λg hg=>Below.heap_alloc _ _ _ (h.mine.lt hg)
set_option maxHeartbeats 8000000 in
set_option maxRecDepth 100000 in
theorem OC(dq:Nat->DF)(G:∀ f,A1 (Bi ζ f) (dq f))(rs:List RlA)(hlen:rs.length<=10000)(o:Option Rw)(hrun:Run1 dq rs [] o)(w:World)(A:Option Addr)(c:Nat)(hsd:Sd [] w)(hr:Ro [] w (.ls (rs.map RlA.c)) (.slice A rs.length c))(o2:Option (List RlA))(Q:Value->World->Prop)
  (hnone:(o=Θ\/o2=Θ)->∀ w' own',Xt [] own' w w'->Q (.tuple #[.slice Θ 0 0,.bool Ξ]) w') (hrun2:∀ ls,o=Δ ls->Run2 dq ls [] o2)
  (hend:∀ out,o2=Δ out->∃ sorted:List RlA,sorted.length=out.length/\(∃ ob,dq 90 [.sl 0 0 out.length 4,.fn (.func 25) [] []] [⟨out.flatMap RlA.c,U,U⟩]=Δ (.tup [],[ob])/\((ob=.keep/\sorted.flatMap RlA.c=out.flatMap RlA.c)\/ob=.set ⟨sorted.flatMap RlA.c,U,U⟩)) ∧
   (out=[]->dq 90 [.v (.slice Θ 0 0),.fn (.func 25) [] []] []=Δ (.tup [],[])/\∀ w' own',Xt [] own' w w'->Q (.tuple #[.slice Θ 0 0,.bool U]) w') ∧
   ∀(w':World) (own':Ae) (g cap:Nat) (cs':Array Value),Xt [] own' w w'->w.heap.size<=g->Blk w' g 30 cs'->cs'.size=cap*4->out.length<=cap->cap<=maxLen->RoL own' w' (sorted.flatMap RlA.c) (cs'.toList.take (out.length*4))->Q (.tuple #[.slice (Δ ⟨g,0,Θ⟩) out.length cap,.bool U]) w') :
  Calls ζ 33 #[.slice A rs.length c] w λe w'=>∃ u,e=.returned u/\Q u w':=by
 have HR:=κ (hr.xt (Xt.alloc [] w (.cells #[.slice Θ 0 0] 107)));have HRUN:=κ hrun;have HNONE:=κ hnone;have hb0:Book [w.heap.size] (w.alloc (.cells #[.slice Θ 0 0] 107)) w.heap.size [] [] (.slice Θ 0 0):=
  ⟨⟨by simp,(λg hg=>by rw[List.mem_singleton.1 hg];exact⟨_,_,Blk.new _ _ _⟩),(Xt.alloc [] w _).side hsd⟩,by simp,Blk.new _ _ _,World.ownsRow_nil _ _ _ _,λg hg=>by simp[Value.ownBlock]at hg,rfl,λg hg=>by simp at hg,by simp,λi h=>absurd h (Nat.not_lt_zero _)⟩
 have HB0:=κ hb0;have HRUN2:=κ hrun2;have HEND:=κ hend;clear hr hrun hnone hb0 hrun2 hend hsd
 go_enter Tryz.func33,Tryz.ntmps33
 go_wp2_with fail
 go_loopw [16] (λq wr=>∃(k:Nat) (own:Ae) (gs:Ae) (ls:Rw) (v:Value),k<=rs.length/\q=.int .i64 k/\Book own wr w.heap.size gs ls v/\Xt [] own w wr/\Ro own wr (.ls (rs.map RlA.c)) (.slice A rs.length c)/\gs.length<=k/\Run1 dq (rs.drop k) ls o) (λq _=>rs.length-(intOf q).toNat)
 case atStart=>exact⟨0,[w.heap.size],[],[],_,AtI _,rfl,HB0.out,Xt.alloc [] w _,HR.out,η _,HRUN.out⟩
 case round=>
  obtain⟨k,own,gs,ls,v,hk,rfl,hb,hx,hrr,hgl,hrun⟩:=hrel;have HB:=κ hb;have HX:=κ hx;have HRR:=κ hrr;have HRUN:=κ hrun;clear hb hx hrr hrun
  by_cases hlt:k<rs.length
  .obtain⟨b,oo,rfl,hbl,hc⟩:=Yb HRR.out (Nat.lt_of_le_of_lt (AtI _) hlt)
   obtain⟨A0,z0,A2,z2,x0,x1,x2,x3,hrk⟩:=hc k hlt;have hrun:=HRUN.out;rw[χ hlt]at hrun;have i0:(0:Int)<=(k:Int):=by omega
   have i1:(k:Int)<(rs.length:Int):=by omega
   clear hc;revert hrun x0 x1 x2 x3 hrk;generalize rs[k]=r;obtain⟨rps,rkn,rka,req⟩:=r;intro x0 x1 x2 x3 hrk hrun;have HRK:=κ hrk;simp only at x0 x1 x2 x3;clear hrk
   cases hrun with
   |never _ r' _ _ h=>
    go_wp2_with (go_at_call 17;refine(Bw (G _) h rfl (HB.out.al0 _).mine (us:=[.agg #[.slice A0 rps.length z0,.bool rkn,.slice A2 rka.length z2,.bool req]]) (RoL.cons (Ro.agg (HRK.out.xt (Xt.call _ (Be _ _)))) (RoL.nil _ _))).mono ?_)
    first|rintro e w3 u3' rfl hk3 hu3|rintro e w3 ⟨u3',rfl,hk3,hu3⟩
    obtain⟨B0,y0,B2,y2,rfl,hv3⟩:=Lp hu3;have HB3:=κ ((HB.out.al0 _).kp hk3);have HX3:=κ ((HX.out.trans (Xt.call _ (Be _ _))).trans hk3.xt);have HRR3:=κ ((HRR.out.xt (Xt.call _ (Be _ _))).xt hk3.xt);have HV3:=κ hv3;clear hk3 hu3 hv3 x0 x1 x2 x3
    go_wp2
    refine bodyPost_ret (v:=.tuple #[.slice Θ 0 0,.bool Ξ]) (by simp[results,Tryz.results33,go_sem]) rfl ?_;exact⟨_,rfl,HNONE.out (by first|exact .inl rfl|simp) _ _ (HX3.out.trans (Xt.call _ (Be _ _)))⟩
   |skip _ r' _ _ kk _ h h1 h0 hr=>
    have e1:(kk == -1)=Ξ:=by simpa using h1
    have e0:(kk == 0)=Ξ:=by simpa using h0
    go_wp2_with (go_at_call 17;refine(Bw (G _) h rfl (HB.out.al0 _).mine (us:=[.agg #[.slice A0 rps.length z0,.bool rkn,.slice A2 rka.length z2,.bool req]]) (RoL.cons (Ro.agg (HRK.out.xt (Xt.call _ (Be _ _)))) (RoL.nil _ _))).mono ?_)
    first|rintro e w3 u3' rfl hk3 hu3|rintro e w3 ⟨u3',rfl,hk3,hu3⟩
    obtain⟨B0,y0,B2,y2,rfl,hv3⟩:=Lp hu3;have HB3:=κ ((HB.out.al0 _).kp hk3);have HX3:=κ ((HX.out.trans (Xt.call _ (Be _ _))).trans hk3.xt);have HRR3:=κ ((HRR.out.xt (Xt.call _ (Be _ _))).xt hk3.xt);have HV3:=κ hv3;clear hk3 hu3 hv3 x0 x1 x2 x3
    go_wp2_with fail
    go_roundw
    case rel=>exact⟨k+1,own,gs,ls,v,hlt,by go_num,HB3.out.al0 _,HX3.out.trans (Xt.call _ (Be _ _)),HRR3.out.xt (Xt.call _ (Be _ _)),by omega,hr⟩
    case measure=>simp[intOf];omega
   |note _ r' _ _ ls' _ h hn hr=>
    obtain⟨N⟩:=hn
    go_wp2_with (go_at_call 17;refine(Bw (G _) h rfl (HB.out.al0 _).mine (us:=[.agg #[.slice A0 rps.length z0,.bool rkn,.slice A2 rka.length z2,.bool req]]) (RoL.cons (Ro.agg (HRK.out.xt (Xt.call _ (Be _ _)))) (RoL.nil _ _))).mono ?_)
    first|rintro e w3 u3' rfl hk3 hu3|rintro e w3 ⟨u3',rfl,hk3,hu3⟩
    obtain⟨B0,y0,B2,y2,rfl,hv3⟩:=Lp hu3;have HB3:=κ ((HB.out.al0 _).kp hk3);have HX3:=κ ((HX.out.trans (Xt.call _ (Be _ _))).trans hk3.xt);have HRR3:=κ ((HRR.out.xt (Xt.call _ (Be _ _))).xt hk3.xt);have HV3:=κ hv3;clear hk3 hu3 hv3 x0 x1 x2 x3
    go_wp2_with (go_at_call 88;refine(AbC dq G (HB3.out.al0 _) (by omega) N (HV3.out.xt (Xt.call _ (Be _ _)))).mono ?_)
    first|rintro e w4 own' gs' v' rfl hb4 hx4 hl4|rintro e w4 ⟨own',gs',v',rfl,hb4,hx4,hl4⟩
    have HB4:=κ hb4;have HX4:=κ ((HX3.out.trans (Xt.call _ (Be _ _))).trans hx4);have HRR4:=κ ((HRR3.out.xt (Xt.call _ (Be _ _))).xt hx4);clear hb4 hx4
    go_wp2_with fail
    go_roundw
    case rel=>exact⟨k+1,own',gs',ls',v',hlt,by go_num,HB4.out,HX4.out,HRR4.out,by omega,hr⟩
    case measure=>simp[intOf];omega
  .obtain rfl:k=rs.length:=by omega
   have hrun:=HRUN.out;rw[List.drop_length]at hrun
   cases hrun
   have z1:¬ (rs.length:Int)<(rs.length:Int):=by omega
   have x0:=HB.out.box.cell 0;have x1:=HB.out.box.lt;simp only[List.getElem?_toArray,List.getElem?_cons_zero]at x0;have HR2:=κ (HRUN2.out ls rfl);obtain⟨A9,c9,rfl⟩:=FQ HB.out.row
   go_wp2_with fail
   go_loopw [9,36] (λr q w2=>∃(j:Nat) (own2:Ae) (ls2:Rw) (out:List RlA) (us:AA),j<=gs.length/\q=.int .i64 j/\Book own2 w2 w.heap.size gs ls2 (.slice A9 gs.length c9)/\Xt [] own2 w w2/\w2.ownsRow 0 30 4 r out.length us/\out.length<=2*j/\RoL own2 w2 (out.flatMap RlA.c) us/\us.all B4=U/\(∀ g,r.ownBlock=Δ g->g∈own2/\g≠w.heap.size/\g∉gs/\(Value.slice A9 gs.length c9).ownBlock≠Δ g)/\Run2 dq (ls2.drop j) out o2) (λ_ q _=>gs.length-(intOf q).toNat)
   case atStart=>exact⟨0,own,ls,[],[],AtI _,rfl,HB.out,HX.out,World.ownsRow_nil _ _ _ _,η _,RoL.nil _ _,rfl,λg hg=>by simp[Value.ownBlock]at hg,HR2.out⟩
   case round=>
    obtain⟨j,own2,ls2,out,us,hj,rfl,hb,hx,hro,hol,hrv,hfl,hrm,hrun⟩:=hrel;have HB2:=κ hb;have HX2:=κ hx;have HRO:=κ hro;have HRV:=κ hrv;have HFL:=κ hfl;have HRM:=κ hrm;obtain⟨A4,c4,rfl⟩:=FQ hro;clear hb hx hro hrv hfl hrm x0 x1
    by_cases hlt:j<gs.length
    .have hlt':j<ls2.length:=by rw[HB2.out.len];exact hlt
     obtain⟨g,cap',hv,hgl,hc⟩:=HB2.out.cell hlt;injection hv with hA _ hcap
     subst hA hcap;rw[χ hlt']at hrun;have hgj:gs[j]? = Δ gs[j]:=δ hlt;have hxj:ls2[j]? = Δ ls2[j]:=δ hlt';have i0:(0:Int)<=(j:Int):=by omega
     have i1:(j:Int)<(gs.length:Int):=by omega
     unfold FR at hc
     cases hrun with
     |never _ x' _ _ more h h1 hx9=>
      go_wp2_with (go_at_call 89;refine(FN (G _) HB2.out hgj hxj h rfl h1 hx9 (us:=[]) (RoL.nil _ _)).mono ?_)
      first|rintro e w5 u5 rfl hb5 hq5 hu5|rintro e w5 ⟨u5,rfl,hb5,hq5,hu5⟩
      obtain⟨us5,rfl,hv5⟩:=Ro.tup_inv hu5;obtain⟨_,_,rfl,r0,hv5⟩:=RoL.cons_inv hv5;obtain⟨_,_,rfl,r1,hv5⟩:=RoL.cons_inv hv5;obtain rfl:=RoL.nil_inv hv5;obtain rfl:=Rp.bool_inv r1.rp;obtain⟨A5,c5,rfl⟩:=Rp.ls_inv r0.rp
      go_wp2
      refine bodyPost_ret (v:=.tuple #[.slice Θ 0 0,.bool Ξ]) (by simp[results,Tryz.results33,go_sem]) rfl ?_;exact⟨_,rfl,HNONE.out (by first|exact .inr rfl|simp) _ _ (HX2.out.trans hq5.xt)⟩
     |go _ x' _ _ m0 more _ h h1 hx9 hm hr=>
      go_wp2_with (go_at_call 89;refine(FN (G _) HB2.out hgj hxj h rfl h1 hx9 (us:=[]) (RoL.nil _ _)).mono ?_)
      first|rintro e w5 u5 rfl hb5 hq5 hu5|rintro e w5 ⟨u5,rfl,hb5,hq5,hu5⟩
      obtain⟨us5,rfl,hv5⟩:=Ro.tup_inv hu5;obtain⟨_,_,rfl,r0,hv5⟩:=RoL.cons_inv hv5;obtain⟨_,_,rfl,r1,hv5⟩:=RoL.cons_inv hv5;obtain rfl:=RoL.nil_inv hv5;obtain rfl:=Rp.bool_inv r1.rp;obtain⟨A5,c5,rfl⟩:=Rp.ls_inv r0.rp;obtain⟨ad,us6,rfl,hn6,hl6,hc6,hv6,hf6,ho6⟩:=Ad9 (ms:=m0::more) r0 (by simp);have HB5:=κ hb5;have hro5:=Ab7 hq5 HRO.out (λq hq=>⟨(HRM.out q hq).1,λe=>(HRM.out q hq).2.2.1 (e▸Ats hlt)⟩) HFL.out;have HRO5:=κ hro5;have HX5:=κ (HX2.out.trans hq5.xt);have HRV5:=κ (HRV.out.xt hq5.xt);have HC6:=κ hc6;have HO6:=κ ho6;have HV6:=κ hv6;have HL6:=κ hl6;clear hb5 hq5 hu5 hv5 r0 r1 hro5 hc6 ho6 hv6 hl6;obtain⟨i0',hi0,hz0,hz1,hz2⟩:=info_parts (show (Tryz.prog.info? 30).map (λi=>(i.zero,i.size,i.bytes))=Δ (Δ (.agg #[.slice Θ 0 0,.bool Ξ,.slice Θ 0 0,.bool Ξ]),4,64) by kernel_rfl)
      go_wp2_with (at_builtin;refine wpList_append_own_at _ rfl _ _ 33 rfl 0 30 i0' (.agg #[.slice Θ 0 0,.bool Ξ,.slice Θ 0 0,.bool Ξ]) 4 64 Tryz.underlying33 hi0 hz0 hz1 hz2 rfl (by decide) _ out.length us rfl HRO5.out ad (more.length+1) c5 us6 rfl ?k1 ?k2 ?k3 ?k4 ?k5 ?k6 ?_)
      case k1=>rw[HL6.out];rfl
      case k2=>exact HC6.out
      case k3=>exact HO6.out
      case k4=>unfold maxLen;omega
      case k5=>omega
      case k6=>exact AtI _
      intro v' w7 hown hgrow _ hloc;obtain⟨A7,c7,rfl⟩:=FQ hown;obtain⟨own3,hb7,hx7,hrm7⟩:=HB5.out.app hown (by omega) hgrow HRM.out hloc;have HB7:=κ hb7;have HX7:=κ (HX5.out.trans hx7);have HV7:=κ ((Q0 HRV5.out HV6.out).xt hx7);have HRM7:=κ hrm7;have HO7:=κ hown;clear hb7 hx7 hrm7 hown hgrow hloc
      go_wp2_with fail
      go_roundw
      case rel=>
       refine⟨j+1,own3,ls2.set j x',out++m0::more,us++us6,hlt,by go_num,HB7.out,HX7.out,?_,by rw[γ,Ate];omega,?_,by rw[Av7,HFL.out,hf6];rfl,HRM7.out,by rw[List.drop_set_of_lt (Nat.lt_succ_self j)];exact hr⟩
       .rw[γ,Ate];exact HO7.out
       .rw[List.flatMap_append];exact HV7.out
      case measure=>simp[intOf];omega
    .obtain rfl:j=gs.length:=by omega
     have z2:¬ (gs.length:Int)<(gs.length:Int):=by omega
     have e9:ls2.drop gs.length=[]:=List.drop_eq_nil_of_le (by have:=HB2.out.len;omega);rw[e9]at hrun
     cases hrun
     obtain⟨sorted,hsl,⟨ob,hsort,hob⟩,hnil,hfin⟩:=HEND.out out rfl;have HNIL:=κ hnil;have HFIN:=κ hfin;clear hnil hfin;obtain⟨_,ho⟩:=HRO.out;rcases ho with⟨hv,h0⟩|⟨g,cap,cur,hv,_,hcur,hn,hm2,hsz,htk⟩
     .injection hv with hA _ hc
      subst hA hc;have h00:out=[]:=List.eq_nil_of_length_eq_zero h0;subst h00;have hs0:=(HNIL.out rfl).1
      go_wp2_with (go_at_call 90;refine(Bw (G _) hs0 rfl HB2.out.mine (us:=[.slice Θ 0 0,.func (.func 25) #[] #[]]) (RoL.cons (Ro.v rfl) (RoL.cons Akz (RoL.nil _ _)))).mono ?_)
      first|rintro e w5 u5 rfl hk5 hu5|rintro e w5 ⟨u5,rfl,hk5,hu5⟩
      obtain⟨us5,rfl,hv5⟩:=Ro.tup_inv hu5;obtain rfl:=RoL.nil_inv hv5
      go_wp2
      refine bodyPost_ret (v:=.tuple #[.slice Θ 0 0,.bool U]) (by simp[results,Tryz.results33,go_sem]) rfl ?_;exact⟨_,rfl,(HNIL.out (by simp)).2 _ _ (HX2.out.trans hk5.xt)⟩
     .injection hv with hA _ hc
      subst hA hc;have hrow:RoL own2 wr (out.flatMap RlA.c) (cur.toList.take (out.length*4)):=by rw[htk];exact HRV.out
      have hgm:=(HRM.out g rfl).1;have hgB:w.heap.size<=g:=by
       rcases HX2.out.mine g hgm with h|h
       .simp at h
       .exact h
      go_wp2_with (go_at_call 90;refine(Nu (G _) hsort hob (JM (G7 GV (λ_=>rfl) out)) rfl (JM (G7 GV (λ_=>rfl) sorted)) (by rw[J0,J0,hsl]) HB2.out.mine hgm hcur hn hm2 hsz hrow (us:=[.func (.func 25) #[] #[]]) (RoL.cons Akz (RoL.nil _ _))).mono ?_)
      first|rintro e w5 u5 rfl hk5 hu5 cs5 hb5 hs5 hr5|rintro e w5 ⟨u5,rfl,hk5,hu5,cs5,hb5,hs5,hr5⟩
      obtain⟨us5,rfl,hv5⟩:=Ro.tup_inv hu5;obtain rfl:=RoL.nil_inv hv5;have HFF:=κ (HFIN.out w5 own2 g c4 cs5 (HX2.out.trans hk5.xt) hgB hb5 (by first|exact hs5|exact hs5.trans hsz|omega) hn hm2 hr5);clear hk5 hu5 hb5 hs5 hr5
      go_wp2
      refine bodyPost_ret (v:=.tuple #[.slice (Δ ⟨g,0,Θ⟩) out.length c4,.bool U]) (by simp[results,Tryz.results33,go_sem]) rfl ?_;exact⟨_,rfl,HFF.out⟩
