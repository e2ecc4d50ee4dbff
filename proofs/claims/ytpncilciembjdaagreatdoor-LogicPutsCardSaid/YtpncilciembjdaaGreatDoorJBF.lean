/- rel's book: a line turne -/
import Derived.Test.YtpncilciembjdaaGreatDoorJBD
import Derived.Test.YtpncilciembjdaaGreatDoorJBE
import Derived.Deep.DeepCutAuto
set_option linter.all false
open Array renaming getElem?_eq_getElem->Atf,getElem?_toList->AtB
open Bool renaming false->Ξ,true->U,and_eq_true->Atk
open List renaming all_cons->AuD,getElem?_cons_succ->Atv,getElem?_cons_zero->Aty,getElem?_eq_some_iff->Atn,getElem?_take->AtC,getElem?_toArray->AtF,getElem_mem->Ats,mem_cons_of_mem->Atj,mem_cons_self->Atq,mem_of_getElem?->Atx
open Nat renaming lt_irrefl->AuE
open Option renaming none->Θ,some->Δ
namespace Go.Proofs.YtpncilciembjdaaGreatDoor
open Lib renaming hid->κ
open Tryz renaming prog->ζ
open Go.RowKit
section
variable [S:Side]
def GV:AV->Bool
 |.v _=>U
 |.ls _=>U
 |_=>Ξ
theorem Aie{own:Ae}{w:World}{x:AV}{u:Value}(hx:GV x=U)(h:Ro own w x u):B4 u=U:=by
 unfold Ro at h
 cases x with
 |v z=>simp only[Rep]at h;rw[h.1];exact h.2
 |ls xs=>simp only[Rep]at h;obtain⟨_,A,c,rfl,_⟩:=h;rfl
 |_=>simp[GV]at hx
theorem J6{own:Ae}{w:World}:∀{xs:Aa} {us:AA},xs.all GV=U->RoL own w xs us->us.all B4=U
 |[],us,_,h=>by obtain rfl:=RoL.nil_inv h;rfl
 |x::xs,us,hx,h=>by
  obtain⟨u,t,rfl,h1,h2⟩:=RoL.cons_inv h;simp only[AuD,Atk]at hx ⊢;exact⟨Aie hx.1 h1,J6 hx.2 h2⟩
omit S in
theorem JM:∀{xs:Aa},xs.all GV=U->AU xs=U
 |[],_=>rfl
 |x::r,h=>by
  simp only[AuD,Atk]at h;simp only[AU,Atk];refine⟨?_,JM h.2⟩
  cases x<;>simp_all [GV,AV.noid]
theorem Ab7{own:Ae}{g:Nat}{w w':World}{base size:Nat}{e:TypeId}{v:Value}{n:Nat}{xs:AA}(h:Kq own g w w')(ho:w.ownsRow base e size v n xs)(hm:∀ k,v.ownBlock=Δ k->k∈own/\k≠g)(hf:xs.all B4=U):w'.ownsRow base e size v n xs:=by
 obtain⟨hl,ho⟩:=ho;refine⟨hl,?_⟩;rcases ho with h0|⟨k,cap,cur,rfl,hg,hcur,hn,hm2,hsz,htk⟩
 .exact .inl h0
 .obtain⟨c',h1,h2,h3⟩:=h.mine k (hm k rfl).1 (hm k rfl).2 e cur hcur
  refine .inr ⟨k,cap,c',rfl,hg,h1,hn,hm2,h2.trans hsz,?_⟩;rw[←htk]at hf ⊢;apply List.ext_getElem?;intro i;rw[AtC,AtC]
  by_cases hi:i<n*size
  .rw[Ac hi,Ac hi,AtB,AtB]
   have hc:i<cur.size:=by rw[hsz];exact Nat.lt_of_lt_of_le hi (Nat.mul_le_mul_right _ hn)
   rw[Atf hc];refine h3 i _ (Atf hc) (List.all_eq_true.1 hf _ (Atx (i:=i) ?_));rw[AtC,Ac hi,AtB,Atf hc]
  .rw[Ad hi,Ad hi]
section
variable {own:Ae} {w w':World} {bk:Nat} {gs:Ae} {ls:Rw} {v:Value}
theorem Book.turn(h:Book own w bk gs ls v){i g:Nat}(hi:gs[i]? = Δ g)(k:Kq own g w w'){ys:Aa}(hl:LineAt own w' g ys):Book own w' bk gs (ls.set i ys) v:=by
 have hg:g∈gs:=Atx hi;have hgi:i<gs.length:=(Atn.1 hi).1;have hge:gs[i]=g:=(Atn.1 hi).2;refine⟨⟨h.mine.nd,λq hq=>?_,k.side h.mine.sd⟩,h.bkm,k.blk h.bkm (λe=>(h.gm g hg).2 e.symm) h.box (by simp[R7 h.row]),Ab7 k h.row (λq hq=>⟨(h.rowm q hq).1,λe=>(h.rowm q hq).2.2 (e▸hg)⟩) (Pm gs),h.rowm,by rw[List.length_set];exact h.len,h.gm,h.nd,λj h1 h2=>?_⟩
 .by_cases e:q=g
  .subst e
   obtain⟨_,_,_,_,_,_,_,_,_,hb,_⟩:=hl;exact⟨_,_,hb⟩
  .obtain⟨T,cs,hb⟩:=h.mine.all q hq
   obtain⟨c',h3,_⟩:=k.mine q hq e T cs hb;exact⟨T,c',h3⟩
 .by_cases e:j=i
  .subst e
   rw[List.getElem_set_self,hge];exact hl
  .rw[List.getElem_set_ne (λe'=>e e'.symm)]
   obtain⟨c0,c1,c2,c3,c4,c5,c6,c7,c8,b1,b2,b3⟩:=h.line j h1 (by simpa using h2);have hne:gs[j]≠g:=λe'=>e ((List.getElem_inj h.nd (h₀:=h1) (h₁:=hgi)).1 (e'.trans hge.symm))
   exact⟨c0,c1,c2,c3,c4,c5,c6,c7,c8,k.blk (h.gm _ (Ats h1)).1 hne b1 b2,b2,b3.xt k.xt⟩
theorem FN{P:Program}{f:Nat}{d:DF}(hd:A1 (Bi P f) d)(h:Book own w bk gs ls v){i g:Nat}(hi:gs[i]? = Δ g){x ys args:Aa}{r:AV}(hx:ls[i]? = Δ x)(hc:d (.ptr 0 0::args) [⟨x,U,Ξ⟩]=Δ (r,[.set ⟨ys,U,Ξ⟩]))(hn:r.noid=U)(hy:ys.all GV=U)(hyl:ys.length=9){us:AA}(hus:RoL own w args us) :
  Calls P f (FR g::us).toArray w λe w'=>∃ u,e=.returned u/\Book own w' bk gs (ls.set i ys) v/\Kq own g w w'/\Ro own w' r u:=by
 have hg:g∈gs:=Atx hi;obtain⟨hgi,hge⟩:=Atn.1 hi;obtain⟨hxi,hxe⟩:=Atn.1 hx;obtain⟨c0,c1,c2,c3,c4,c5,c6,c7,c8,b1,b2,b3⟩:=h.line i hgi hxi;rw[hge]at b1;rw[hxe]at b3;have hxl:x.length=9:=b3.length.symm;refine(Nt hd hc (.inr rfl) hn (JM hy) (by rw[hyl,hxl]) h.mine (h.gm g hg).1 b1 b3 hus).mono ?_;rintro e w' ⟨u,rfl,hk,hr,cs',hb,hs,hy2⟩;refine⟨u,rfl,h.turn hi hk ?_,hk,hr⟩;obtain⟨l⟩:=cs'
 match l,hs,hb,hy2 with
 |[a0,a1,a2,a3,a4,a5,a6,a7,a8],_,hb,hy2=>exact⟨a0,a1,a2,a3,a4,a5,a6,a7,a8,hb,J6 hy hy2,hy2⟩
end
theorem Hv{own:Ae}{w:World}{x:AV}{u:Value}{xs:Aa}{us:AA}(h:RoL own w (x::xs) (u::us)):RoL own w xs us:=by
 obtain⟨_,_,e,_,h⟩:=RoL.cons_inv h;injection e with _ e
 subst e;exact h
end
structure NoteH (dq:Nat->DF) (ls:Rw) (ps:Rw) (kn:Bool) (ka:Rw) (eq:Bool) (ls':Rw) where
 k0:Rw
 k1:Bool
 k2:Rw
 c0:AV
 c1:Bool
 c2:Rw
 row:Rw
 d1:Bool
 d2:Rw
 s:Int
 num:dq 125 [.agg [bv kn,.ls ka]] []=Δ (.agg [.ls k0,bv k1,.ls k2],[])
 sub:dq 127 [.agg [.ls ps,bv kn,.ls ka],.agg [.ls k0,bv k1,.ls k2]] []=Δ (.agg [.ls ([c0,bv c1,.ls c2]::row),bv d1,.ls d2],[])
 sign:dq 64 [.agg [bv c1,.ls c2]] []=Δ (iv s,[])
 go:(0<s/\∃(sm:Aa->Bool) (n0:Bool) (n1:Rw) (x y:Aa),(∀ z∈ls,dq 213 [.agg (z.take 3),.agg [.ls ([c0,bv c1,.ls c2]::row),bv d1,.ls d2]] []=Δ (bv (sm z),[]))/\dq 161 [.agg [bv kn,.ls ka]] []=Δ (.agg [bv n0,.ls n1],[]) ∧
   (EQ sm ls ([.ls ([c0,bv c1,.ls c2]::row),bv d1,.ls d2]++EW))[ls.findIdx sm]? = Δ x/\dq 160 [.ptr 0 0,.agg [bv n0,.ls n1]] [⟨x,U,Ξ⟩]=Δ (.tup [],[.set ⟨y,U,Ξ⟩])/\y.all GV=U/\y.length=9 ∧
   ((eq=Ξ/\ls'=(EQ sm ls ([.ls ([c0,bv c1,.ls c2]::row),bv d1,.ls d2]++EW)).set (ls.findIdx sm) y) ∨
    (eq=U/\∃ z:Aa,dq 162 [.ptr 0 0,.agg [bv n0,.ls n1]] [⟨y,U,Ξ⟩]=Δ (.tup [],[.set ⟨z,U,Ξ⟩])/\z.all GV=U/\z.length=9/\ls'=((EQ sm ls ([.ls ([c0,bv c1,.ls c2]::row),bv d1,.ls d2]++EW)).set (ls.findIdx sm) y).set (ls.findIdx sm) z))) ∨
  (¬ 0<s/\∃(sm:Aa->Bool) (q0:Rw) (q1:Bool) (q2:Rw) (x y:Aa),dq 68 [.agg [.ls ([c0,bv c1,.ls c2]::row),bv d1,.ls d2]] []=Δ (.agg [.ls q0,bv q1,.ls q2],[])/\(∀ z∈ls,dq 213 [.agg (z.take 3),.agg [.ls q0,bv q1,.ls q2]] []=Δ (bv (sm z),[])) ∧
   (EQ sm ls ([.ls q0,bv q1,.ls q2]++EW))[ls.findIdx sm]? = Δ x/\dq 162 [.ptr 0 0,.agg [bv kn,.ls ka]] [⟨x,U,Ξ⟩]=Δ (.tup [],[.set ⟨y,U,Ξ⟩])/\y.all GV=U/\y.length=9/\ls'=(EQ sm ls ([.ls q0,bv q1,.ls q2]++EW)).set (ls.findIdx sm) y)
section
variable [S:Side]
section
variable {own:Ae} {w:World} {bk:Nat} {gs:Ae} {ls:Rw} {v:Value}
theorem Book.set(h:Book own w bk gs ls v){g:Nat}(hg:g∈own)(h1:g≠bk)(h2:g∉gs)(h3:v.ownBlock≠Δ g)(i:Nat)(u:Value):Book own (w.setCell ⟨g,i,Θ⟩ u) bk gs ls v:=
 ⟨h.mine.set hg _ _,h.bkm,h.box.far (p:=⟨g,i,Θ⟩) (λe=>h1 e.symm) u,J7 h.row λk hk=>Below.heap_setCell _ _ _ _ (λe=>h3 (hk.trans (by rw[e]))),h.rowm,h.len,h.gm,h.nd,λj h4 h5=>(h.line j h4 h5).ext (Xt.set (p:=⟨g,i,Θ⟩) hg u) (Below.heap_setCell _ _ _ _ (λe=>h2 (by have e:gs[j]=g:=e;rw[←e];exact Ats h4)))⟩
def Zj(own:Ae)(W2:World)(bk:Nat)(gs:Ae)(ls:Rw)(v:Value)(P:Aa)(b3 b4:Nat)(cs3 cs4:Array Value)(q:Value)(wx:World):Prop:=∃(g:Nat) (a0 a1 a2:Value),q=.pointer (Δ ⟨g,0,Θ⟩)/\Book (g::own) wx bk gs ls v/\Blk wx g 28 #[a0,a1,a2]/\RoL (g::own) wx P [a0,a1,a2]/\Xt own (g::own) W2 wx/\Blk wx b3 30 cs3/\Blk wx b4 26 cs4
theorem Apl{b3 b4:Nat}{cs3 cs4:Array Value}{P:Aa}{a0 a1 a2:Value}(hB:Book own w bk gs ls v)(m3:b3∈own)(m4:b4∈own)(H3:Blk w b3 30 cs3)(H4:Blk w b4 26 cs4)(f3:cs3.toList.all B4=U)(f4:cs4.toList.all B4=U){w6:World}(hk:Kp own w w6)(hv:RoL own w6 P [a0,a1,a2]) :
  Zj own w bk gs ls v P b3 b4 cs3 cs4 (.pointer (Δ ⟨w6.heap.size,0,Θ⟩)) (w6.alloc (.cells #[a0,a1,a2] 28)):=
 ⟨_,a0,a1,a2,rfl,(hB.kp hk).alloc _ _,Blk.new _ _ _,hv.xt (Xt.alloc _ _ _),hk.xt.trans (Xt.alloc _ _ _),(hk.blk m3 H3 f3).alloc _,(hk.blk m4 H4 f4).alloc _⟩
theorem Akw{b3 b4:Nat}{cs3 cs4:Array Value}{P:Aa}{a0 a1 a2:Value}(hB:Book own w bk gs ls v)(m3:b3∈own)(m4:b4∈own)(H3:Blk w b3 30 cs3)(H4:Blk w b4 26 cs4)(f3:cs3.toList.all B4=U)(f4:cs4.toList.all B4=U){Wx w6:World}(hk:Kp own w Wx)
  (hk6:Kp (Wx.heap.size::own) (Wx.alloc (.cells #[.slice Θ 0 0,.bool Ξ,.slice Θ 0 0] 28)) w6) (hv:RoL (Wx.heap.size::own) w6 P [a0,a1,a2]) :
  Zj own w bk gs ls v P b3 b4 cs3 cs4 (.pointer (Δ ⟨Wx.heap.size,0,Θ⟩)) (((w6.setCell ⟨Wx.heap.size,0,Θ⟩ a0).setCell ⟨Wx.heap.size,1,Θ⟩ a1).setCell ⟨Wx.heap.size,2,Θ⟩ a2):=by
 have hbx:=hB.kp hk;have hlt:∀ k∈own,k<Wx.heap.size:=λk hk'=>hbx.mine.lt hk'
 have g1:Wx.heap.size≠bk:=by have:=hlt bk hB.bkm;omega
 have g2:Wx.heap.size∉gs:=λhm=>by have:=hlt _ (hB.gm _ hm).1;omega
 have g3:v.ownBlock≠Δ Wx.heap.size:=λhm=>by have:=hlt _ (hB.rowm _ hm).1;omega
 have gm:Wx.heap.size∈Wx.heap.size::own:=Atq ..;have b0:=(hbx.alloc 28 #[.slice Θ 0 0,.bool Ξ,.slice Θ 0 0]).kp hk6;have x3:=((Xt.set (own:=Wx.heap.size::own) (w:=w6) (p:=⟨Wx.heap.size,0,Θ⟩) gm a0).trans (Xt.set (p:=⟨Wx.heap.size,1,Θ⟩) gm a1)).trans (Xt.set (p:=⟨Wx.heap.size,2,Θ⟩) gm a2);have hg:=hk6.blk gm (Blk.new _ _ _) rfl;have far:∀(b:Nat) (T:TypeId) (cs:Array Value),b∈own->Blk w b T cs->cs.toList.all B4=U->Blk (((w6.setCell ⟨Wx.heap.size,0,Θ⟩ a0).setCell ⟨Wx.heap.size,1,Θ⟩ a1).setCell ⟨Wx.heap.size,2,Θ⟩ a2) b T cs:=λb T cs hm hb hf=>by
  have hne:b≠Wx.heap.size:=by have:=hlt b hm;omega
  exact((((hk6.blk (Atj _ hm) ((hk.blk hm hb hf).alloc _) hf).far (p:=⟨Wx.heap.size,0,Θ⟩) hne a0).far (p:=⟨Wx.heap.size,1,Θ⟩) hne a1).far (p:=⟨Wx.heap.size,2,Θ⟩) hne a2)
 refine⟨_,a0,a1,a2,rfl,((b0.set gm g1 g2 g3 0 a0).set gm g1 g2 g3 1 a1).set gm g1 g2 g3 2 a2,?_,hv.xt x3,((hk.xt.trans (Xt.alloc _ _ _)).trans hk6.xt).trans x3,far _ _ _ m3 H3 f3,far _ _ _ m4 H4 f4⟩;have:=((hg.set_ 0 a0).set_ 1 a1).set_ 2 a2;simpa using this
end
theorem R6{own:Ae}{w:World}{c0:AV}{c1:Bool}{c2 row:Rw}{A:Option Addr}{n c:Nat}(h:Ro own w (.ls ([c0,bv c1,.ls c2]::row)) (.slice A n c)) :
  ∃ b o,A=Δ ⟨b,o,Θ⟩/\b<w.heap.size/\w.cell? ⟨b,o+1,Θ⟩=Δ (.bool c1)/\∃ A2 z2,w.cell? ⟨b,o+2,Θ⟩=Δ (.slice A2 c2.length z2)/\Ro own w (.ls c2) (.slice A2 c2.length z2):=by
 unfold Ro at h;simp only[Rep]at h;obtain⟨_,A2,c',h1,h2,h3,h4⟩:=h;injection h1 with e1 e2 e3
 subst e1;obtain⟨g,o,e,hA,hr⟩:=h4 (by simp);have ha:=(hr.get (i:=0) (x:=[c0,bv c1,.ls c2]) rfl).2;rw[Nat.zero_mul,Nat.add_zero]at ha;obtain⟨hF,u1,q1,r1⟩:=ha.get (i:=1) (x:=bv c1) rfl;obtain⟨_,u2,q2,r2⟩:=ha.get (i:=2) (x:=.ls c2) rfl;have r1':Ro own w (bv c1) u1:=r1;have r2':Ro own w (.ls c2) u2:=r2;obtain rfl:=Rp.bool_inv r1'.rp;obtain⟨A3,z3,rfl⟩:=Rp.ls_inv r2'.rp;exact⟨g,o,hA,hF.1,q1,A3,z3,q2,r2'⟩
theorem Vh{own:Ae}{w:World}{p:Rw}{b:Bool}{q:Rw}{us:AA}(h:RoL own w [.ls p,bv b,.ls q] us):∃ A0 z0 A2 z2,us=[.slice A0 p.length z0,.bool b,.slice A2 q.length z2]:=by
 obtain⟨_,_,rfl,r0,h⟩:=RoL.cons_inv h;obtain⟨_,_,rfl,r1,h⟩:=RoL.cons_inv h;obtain⟨_,_,rfl,r2,h⟩:=RoL.cons_inv h;obtain rfl:=RoL.nil_inv h;obtain⟨A0,z0,rfl⟩:=Rp.ls_inv r0.rp;obtain rfl:=Rp.bool_inv r1.rp;obtain⟨A2,z2,rfl⟩:=Rp.ls_inv r2.rp;exact⟨A0,z0,A2,z2,rfl⟩
set_option maxHeartbeats 8000000 in
set_option maxRecDepth 100000 in
theorem AbC(dq:Nat->DF)(G:∀ f,A1 (Bi ζ f) (dq f)){own:Ae}{w:World}{bk:Nat}{gs:Ae}{ls:Rw}{v:Value}(hB:Book own w bk gs ls v)(hlen:gs.length<=100000){ps:Rw}{kn:Bool}{ka:Rw}{eq:Bool}{ls':Rw}(N:NoteH dq ls ps kn ka eq ls')
  {u0 u2:Value} (hr:RoL own w [.ls ps,bv kn,.ls ka] [u0,.bool kn,u2]) :
  Calls ζ 88 #[FR bk,.agg #[u0,.bool kn,u2,.bool eq]] w λe w'=>∃ own' gs' v',e=.returned (.tuple #[])/\Book own' w' bk gs' ls' v'/\Xt own own' w w'/\gs'.length<=gs.length+1:=by
 obtain⟨k0,k1,k2,c0,c1,c2,row,d1,d2,s,gnum,gsub,gsign,hgo⟩:=N;obtain⟨A0,z0,A2,z2,rfl,rfl⟩:∃ A0 z0 A2 z2,u0=.slice A0 ps.length z0/\u2=.slice A2 ka.length z2:=by
  obtain⟨_,_,e,r0,h⟩:=RoL.cons_inv hr;obtain⟨_,_,e2,_,h⟩:=RoL.cons_inv h;obtain⟨_,_,e3,r2,_⟩:=RoL.cons_inv h;subst e2 e3;obtain⟨A0,z0,g0⟩:=Rp.ls_inv r0.rp;obtain⟨A2,z2,g2⟩:=Rp.ls_inv r2.rp;injection e with e e'
  injection e' with e' e''
  injection e'' with e'' _
  exact⟨A0,z0,A2,z2,e.trans g0,e''.trans g2⟩
 have hrf:[.slice A0 ps.length z0,.bool kn,.slice A2 ka.length z2].all B4=U:=J6 rfl hr;have hb2:=(hB.alloc 30 #[.slice A0 ps.length z0,.bool kn,.slice A2 ka.length z2,.bool eq]).alloc 26 #[.bool kn,(.slice A2 ka.length z2)];have hx2:=(Xt.alloc own w (.cells #[(.slice A0 ps.length z0),.bool kn,(.slice A2 ka.length z2),.bool eq] 30)).trans (Xt.alloc _ _ (.cells #[.bool kn,(.slice A2 ka.length z2)] 26));have h3:=(Blk.new w 30 #[(.slice A0 ps.length z0),.bool kn,(.slice A2 ka.length z2),.bool eq]).alloc (.cells #[.bool kn,(.slice A2 ka.length z2)] 26);have h4:=Blk.new (w.alloc (.cells #[(.slice A0 ps.length z0),.bool kn,(.slice A2 ka.length z2),.bool eq] 30)) 26 #[.bool kn,(.slice A2 ka.length z2)];simp only[World.size_alloc]at hb2 hx2 h4;have hr2:=hr.xt hx2;have m3:w.heap.size∈(w.heap.size+1)::w.heap.size::own:=by simp
 have m4:w.heap.size+1∈(w.heap.size+1)::w.heap.size::own:=by simp
 have hwn:own=own:=rfl;have hlb:bk<w.heap.size:=hB.mine.lt hB.bkm;have hlg:∀ k∈gs,k<w.heap.size:=λk hk=>hB.mine.lt (hB.gm k hk).1
 have hlr:∀ k,v.ownBlock=Δ k->k<w.heap.size:=λk hk=>hB.mine.lt (hB.rowm k hk).1
 have HLB:=κ hlb;have HLG:=κ hlg;have HLR:=κ hlr;clear hlb hlg hlr;generalize hO2:(w.heap.size+1)::w.heap.size::own=O2 at *;have HB2:=κ hb2;have HX2:=κ hx2;have HR2:=κ hr2;have H3:=κ h3;have H4:=κ h4;have HRF:=κ hrf;have HGO:=κ hgo;clear hb2 hx2 h3 h4 hrf hr hr2 hB hgo hwn hO2;unfold FR
 go_enter Tryz.func88,Tryz.ntmps88
 go_upto_region 2 with (fail)
 generalize ((w.alloc (.cells #[.slice A0 ps.length z0,.bool kn,.slice A2 ka.length z2,.bool eq] 30)).alloc (.cells #[.bool kn,.slice A2 ka.length z2] 26))=W2 at *
 go_cut [5] from 10 to 14 (λq wx=>Zj O2 W2 bk gs ls v [.ls ([c0,bv c1,.ls c2]::row),bv d1,.ls d2] w.heap.size (w.heap.size+1) #[.slice A0 ps.length z0,.bool kn,.slice A2 ka.length z2,.bool eq] #[.bool kn,.slice A2 ka.length z2] q wx)
 case first=>
  obtain⟨x0,x1,x2⟩:W2.cell? ⟨w.heap.size,0,Θ⟩=Δ (.slice A0 ps.length z0)/\W2.cell? ⟨w.heap.size,1,Θ⟩=Δ (.bool kn)/\W2.cell? ⟨w.heap.size,2,Θ⟩=Δ (.slice A2 ka.length z2):=⟨H3.out.cell 0,H3.out.cell 1,H3.out.cell 2⟩;obtain⟨y0,y1⟩:W2.cell? ⟨w.heap.size+1,0,Θ⟩=Δ (.bool kn)/\W2.cell? ⟨w.heap.size+1,1,Θ⟩=Δ (.slice A2 ka.length z2):=⟨H4.out.cell 0,H4.out.cell 1⟩;have l3:=H3.out.lt;have l4:=H4.out.lt
  go_region_with (first
   |(go_at_call 125;first
     |(refine(Bw (G _) gnum rfl (HB2.out.mine.kp (Kp.drew _ _)) (us:=[.agg #[.bool kn,.slice A2 ka.length z2]]) (RoL.cons (Ro.agg ((Hv HR2.out).xt (Kp.drew _ _).xt)) (RoL.nil _ _))).mono ?_;rintro e w5 ⟨u5,rfl,hk5,hu5⟩;have hk05:=(Kp.drew _ _).trans hk5;have hb35:=hk05.blk m3 H3.out rfl;have hb45:=hk05.blk m4 H4.out rfl)
     |(refine(Bw (G _) gnum rfl ((HB2.out.mine.kp (Kp.drew _ _)).alloc 28 _) (us:=[.agg #[.bool kn,.slice A2 ka.length z2]]) (RoL.cons (Ro.agg (((Hv HR2.out).xt (Kp.drew _ _).xt).xt (Xt.alloc _ _ _))) (RoL.nil _ _))).mono ?_;rintro e w5 ⟨u5,rfl,hk5,hu5⟩;have hb35:=hk5.blk (Atj _ m3) (H3.out.drew.alloc _) rfl;have hb45:=hk5.blk (Atj _ m4) (H4.out.drew.alloc _) rfl;have hbg:=hk5.blk (Atq ..) (Blk.new _ _ _) rfl)
     obtain⟨x0,x1,x2⟩:w5.cell? ⟨w.heap.size,0,Θ⟩=Δ (.slice A0 ps.length z0)/\w5.cell? ⟨w.heap.size,1,Θ⟩=Δ (.bool kn)/\w5.cell? ⟨w.heap.size,2,Θ⟩=Δ (.slice A2 ka.length z2):=⟨hb35.cell 0,hb35.cell 1,hb35.cell 2⟩;have l3:=hb35.lt)
   |(go_at_call 127;first
     |(refine(Bw (G _) gsub rfl (HB2.out.mine.kp hk05) (us:=[.agg #[.slice A0 ps.length z0,.bool kn,.slice A2 ka.length z2],u5]) (RoL.cons (Ro.agg (HR2.out.xt hk05.xt)) (RoL.cons hu5 (RoL.nil _ _)))).mono ?_;rintro e w6 ⟨u6,rfl,hk6,hu6⟩;have hk06:=hk05.trans hk6)
     |(refine(Bw (G _) gsub rfl ((HB2.out.mine.kp hk05).alloc 28 _) (us:=[.agg #[.slice A0 ps.length z0,.bool kn,.slice A2 ka.length z2],u5]) (RoL.cons (Ro.agg ((HR2.out.xt hk05.xt).xt (Xt.alloc _ _ _))) (RoL.cons (hu5.xt (Xt.alloc _ _ _)) (RoL.nil _ _)))).mono ?_;rintro e w6 ⟨u6,rfl,hk6,hu6⟩;have hbg:Blk w6 w5.heap.size 28 #[.slice Θ 0 0,.bool Ξ,.slice Θ 0 0]:=hk6.blk (Atq ..) (Blk.new _ _ _) rfl)
     |(refine(Bw (G _) gsub rfl (((HB2.out.mine.kp (Kp.drew _ _)).alloc 28 _).kp hk5) (us:=[.agg #[.slice A0 ps.length z0,.bool kn,.slice A2 ka.length z2],u5]) (RoL.cons (Ro.agg (((HR2.out.xt (Kp.drew _ _).xt).xt (Xt.alloc _ _ _)).xt hk5.xt)) (RoL.cons hu5 (RoL.nil _ _)))).mono ?_;rintro e w6 ⟨u6,rfl,hk6,hu6⟩;have hbg:Blk w6 W2.heap.size 28 #[.slice Θ 0 0,.bool Ξ,.slice Θ 0 0]:=hk6.blk (Atq ..) hbg rfl)
     obtain⟨us6,rfl,hv6⟩:=Ro.agg_inv hu6;obtain⟨A6,z6,A7,z7,rfl⟩:=Vh hv6
     first
     |(have g0:=hbg.frozen 0;have g1:=hbg.frozen 1;have g2:=hbg.frozen 2;obtain⟨j0,j1,j2⟩:=M6 hbg;have j3:=hbg.lt)
     |skip))
  all_goals
   go_wp2_with fail
   go_meet
   first
    |exact Apl HB2.out m3 m4 H3.out H4.out rfl rfl hk06 hv6
    |exact Akw HB2.out m3 m4 H3.out H4.out rfl rfl hk05 hk6 hv6
    |exact Akw (Wx:=W2.drew) HB2.out m3 m4 H3.out H4.out rfl rfl (Kp.drew _ _) (hk5.trans hk6) hv6
 case rest=>
  obtain⟨g,a0,a1,a2,rfl,hb,hg,hv,hx,h3,h4⟩:=hcut;obtain⟨A6,z6,A7,z7,e⟩:=Vh hv;injection e with e0 e
  injection e with e1 e
  injection e with e2 e
  subst e0 e1 e2;obtain⟨vv,tt,ee,hv0,_⟩:=RoL.cons_inv hv;injection ee with ee et
  subst ee et;obtain⟨b,o,rfl,hbl,x1,A8,z8,x2,hr8⟩:=R6 hv0;obtain⟨y0,y1,y2⟩:=M6 hg;have y3:=hg.lt;have HBC:=κ hb;have HG:=κ hg;have HV:=κ hv;have HX:=κ hx;have H3c:=κ h3;have H4c:=κ h4;have HR8:=κ hr8;clear hb hg hv hx h3 h4 hr8 hv0
  go_wp2_with (go_at_call 64;refine(Bw (G _) gsign rfl HBC.out.mine (us:=[.agg #[.bool c1,.slice A8 c2.length z8]]) (RoL.cons (Ro.agg (RoL.cons (Ro.v rfl) (RoL.cons HR8.out (RoL.nil _ _)))) (RoL.nil _ _))).mono ?_)
  first|rintro e w8 u8 rfl hk8 hu8|rintro e w8 ⟨u8,rfl,hk8,hu8⟩
  obtain rfl:=Rp.int_inv hu8.rp;have HB8:=κ (HBC.out.kp hk8);have HG8:=κ (hk8.blk (Atq ..) HG.out rfl);have HV8:=κ (HV.out.xt hk8.xt);have HX8:=κ (HX.out.trans hk8.xt);have H38:=κ (hk8.blk (Atj _ m3) H3c.out rfl);have H48:=κ (hk8.blk (Atj _ m4) H4c.out rfl);clear hk8 hu8 x1 x2 y0 y1 y2 y3;obtain⟨y0,y1,y2⟩:=M6 HG8.out;rcases HGO.out with⟨hs,sm,n0,n1,x,y,gsame,gneg,hxi,gleast,hyl,hyn,hend⟩|⟨hs,sm,q0,q1,q2,x,y,gneg,gsame,hxi,gmost,hyl,hyn,hend⟩
  .go_wp2_with (go_at_call 159;refine(R5 dq G HB8.out (by omega) [.ls ([c0,bv c1,.ls c2]::row),bv d1,.ls d2] (.slice (Δ ⟨b,o,Θ⟩) (row.length+1) z6) (.bool d1) (.slice A7 d2.length z7) HV8.out rfl sm gsame).mono ?_)
   first|rintro e w9 own' gs' v' gl rfl hgl hb9 hx9 hold hlen9 hkeep|rintro e w9 ⟨own',gs',v',gl,rfl,hgl,hb9,hx9,hold,hlen9,hkeep⟩
   have hq3:=hkeep w.heap.size (Atj _ m3) (by have:=HLB.out;omega) (λe=>AuE _ (HLR.out _ e));have hq4:=hkeep (w.heap.size+1) (Atj _ m4) (by have:=HLB.out;omega) (λe=>by have:=HLR.out _ e;omega);have hgm:gl∈gs':=Atx hgl;have hne3:w.heap.size≠gl:=λe=>by
    subst e;exact AuE _ (HLG.out _ (hold _ hgm H38.out.lt))
   have hne4:w.heap.size+1≠gl:=λe=>by
    subst e;have:=HLG.out _ (hold _ hgm H48.out.lt);omega
   have m39:=hq3.1;have m49:=hq4.1;have H39:=κ (hq3.2 _ _ H38.out rfl);have H49:=κ (hq4.2 _ _ H48.out rfl);have HB9:=κ hb9;have HX9:=κ (HX8.out.trans hx9);clear hb9 hx9 hold hkeep hq3 hq4 y0 y1 y2;have y0:=H49.out.cell 0;have y1:=H49.out.cell 1;simp only[AtF,Aty,Atv]at y0 y1
   go_wp2_with (go_at_call 161;refine(Bw (G _) gneg rfl HB9.out.mine (us:=[.agg #[.bool kn,.slice A2 ka.length z2]]) (RoL.cons (Ro.agg ((Hv HR2.out).xt HX9.out)) (RoL.nil _ _))).mono ?_)
   first|rintro e w10 u10 rfl hk10 hu10|rintro e w10 ⟨u10,rfl,hk10,hu10⟩
   obtain⟨us10,rfl,hv10⟩:=Ro.agg_inv hu10;obtain⟨_,_,rfl,r10,hv10'⟩:=RoL.cons_inv hv10;obtain⟨_,_,rfl,s10,hv10''⟩:=RoL.cons_inv hv10';obtain rfl:=RoL.nil_inv hv10'';obtain rfl:=Rp.bool_inv r10.rp;obtain⟨A10,z10,rfl⟩:=Rp.ls_inv s10.rp;have HB10:=κ (HB9.out.kp hk10);have HV10:=κ hv10;have H310:=κ (hk10.blk m39 H39.out rfl);have H410:=κ (hk10.blk m49 H49.out rfl);have HX10:=κ (HX9.out.trans hk10.xt);clear hk10 hu10 hv10 hv10' hv10'' r10 s10 y0 y1
   go_wp2_with (go_at_call 160;refine(FN (G _) HB10.out hgl hxi gleast rfl hyl hyn (us:=[.agg #[.bool n0,.slice A10 n1.length z10]]) (RoL.cons (Ro.agg HV10.out) (RoL.nil _ _))).mono ?_)
   first|rintro e w11 u11 rfl hb11 hq11 hu11|rintro e w11 ⟨u11,rfl,hb11,hq11,hu11⟩
   obtain⟨us11,rfl,hv11⟩:=Ro.tup_inv hu11;obtain rfl:=RoL.nil_inv hv11;have HB11:=κ hb11;have H311:=κ (hq11.blk m39 hne3 H310.out rfl);have H411:=κ (hq11.blk m49 hne4 H410.out rfl);have HX11:=κ (HX10.out.trans hq11.xt);clear hb11 hq11 hu11 hv11;have y0:=H311.out.cell 3;simp only[AtF,Aty,Atv]at y0;rcases hend with⟨rfl,rfl⟩|⟨rfl,z,gmost,hzl,hzn,rfl⟩
   .go_wp2
    refine bodyPost_ret (results_none rfl _ _ _) rfl ?_;exact⟨own',gs',v',rfl,HB11.out,HX2.out.trans HX11.out,hlen9⟩
   .have hyi:((EQ sm ls ([.ls ([c0,bv c1,.ls c2]::row),bv d1,.ls d2]++EW)).set (ls.findIdx sm) y)[ls.findIdx sm]? = Δ y:=by
     rw[List.getElem?_set_self (Atn.1 hxi).1]
    have y1:=H411.out.cell 0;have y2:=H411.out.cell 1;simp only[AtF,Aty,Atv]at y1 y2
    go_wp2_with (go_at_call 161;refine(Bw (G _) gneg rfl HB11.out.mine (us:=[.agg #[.bool kn,.slice A2 ka.length z2]]) (RoL.cons (Ro.agg ((Hv HR2.out).xt HX11.out)) (RoL.nil _ _))).mono ?_)
    first|rintro e w12 u12 rfl hk12 hu12|rintro e w12 ⟨u12,rfl,hk12,hu12⟩
    obtain⟨us12,rfl,hv12⟩:=Ro.agg_inv hu12;obtain⟨_,_,rfl,r12,hv12'⟩:=RoL.cons_inv hv12;obtain⟨_,_,rfl,s12,hv12''⟩:=RoL.cons_inv hv12';obtain rfl:=RoL.nil_inv hv12'';obtain rfl:=Rp.bool_inv r12.rp;obtain⟨A12,z12,rfl⟩:=Rp.ls_inv s12.rp;have HB12:=κ (HB11.out.kp hk12);have HV12:=κ hv12;have HX12:=κ (HX11.out.trans hk12.xt);clear hk12 hu12 hv12 hv12' hv12'' r12 s12 y0 y1 y2
    go_wp2_with (go_at_call 162;refine(FN (G _) HB12.out hgl hyi gmost rfl hzl hzn (us:=[.agg #[.bool n0,.slice A12 n1.length z12]]) (RoL.cons (Ro.agg HV12.out) (RoL.nil _ _))).mono ?_)
    first|rintro e w13 u13' rfl hb13 hq13 hu13|rintro e w13 ⟨u13',rfl,hb13,hq13,hu13⟩
    obtain⟨us13,rfl,hv13⟩:=Ro.tup_inv hu13;obtain rfl:=RoL.nil_inv hv13;have HB13:=κ hb13;have HX13:=κ (HX12.out.trans hq13.xt);clear hb13 hq13 hu13 hv13
    go_wp2
    refine bodyPost_ret (results_none rfl _ _ _) rfl ?_;exact⟨own',gs',v',rfl,HB13.out,HX2.out.trans HX13.out,hlen9⟩
  .go_wp2_with fail
   have x0:=H48.out.cell 0;have x1:=H48.out.cell 1;simp only[AtF,Aty,Atv]at x0 x1;have x2:=H48.out.lt;have y3:=HG8.out.lt
   go_region_with (first
    | (go_at_call 68
       refine(Bw (G _) gneg rfl (HB8.out.mine.kp (Kp.drew _ _)) (us:=[.agg #[.slice (Δ ⟨b,o,Θ⟩) (row.length+1) z6,.bool d1,.slice A7 d2.length z7]]) (RoL.cons (Ro.agg (HV8.out.xt (Kp.drew _ _).xt)) (RoL.nil _ _))).mono ?_;rintro e w9 ⟨u9,rfl,hk9,hu9⟩
       replace hk9:=(Kp.drew _ _).trans hk9
       obtain⟨us9,rfl,hv9⟩:=Ro.agg_inv hu9;obtain⟨A9,z9,B9,y9,rfl⟩:=Vh hv9;have h49:=hk9.blk (Atj _ m4) H48.out rfl;have x0:=h49.cell 0;have x1:=h49.cell 1;simp only[AtF,Aty,Atv]at x0 x1;have x2:=h49.lt)
    | (go_at_call 159
       refine(R5 dq G (HB8.out.kp hk9) (by omega) [.ls q0,bv q1,.ls q2] (.slice A9 q0.length z9) (.bool q1) (.slice B9 q2.length y9) hv9 rfl sm gsame).mono ?_;rintro e w10 ⟨own',gs',v',gl,rfl,hgl,hb10,hx10,hold,hlen10,hkeep⟩;have hq4:=hkeep (w.heap.size+1) (Atj _ m4) (by have:=HLB.out;omega) (λe=>by have:=HLR.out _ e;omega);have h410:=hq4.2 _ _ h49 rfl;have x0:=h410.cell 0;have x1:=h410.cell 1;simp only[AtF,Aty,Atv]at x0 x1;have x2:=h410.lt;unfold FR)
    | (go_at_call 162
       refine(FN (G _) hb10 hgl hxi gmost rfl hyl hyn (us:=[.agg #[.bool kn,.slice A2 ka.length z2]]) (RoL.cons (Ro.agg ((Hv HR2.out).xt (HX8.out.trans (hk9.xt.trans hx10)))) (RoL.nil _ _))).mono ?_;rintro e w11 ⟨u11,rfl,hb11,hq11,hu11⟩;obtain⟨us11,rfl,hv11⟩:=Ro.tup_inv hu11;obtain rfl:=RoL.nil_inv hv11))
   all_goals
    have HB11:=κ hb11;have HX11:=κ (HX8.out.trans ((hk9.xt.trans hx10).trans hq11.xt));clear hb11 hq11 hu11 hv11 hk9 hx10 hb10;subst hend
    go_wp2
    go_end0
    exact⟨own',gs',v',rfl,HB11.out,HX2.out.trans HX11.out,hlen10⟩
