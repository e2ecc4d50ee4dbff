/- rel's book: a line turne -/
import Derived.Test.YtpncilciembjdaaGreatDoorHBA
import Derived.Test.YtpncilciembjdaaGreatDoorHBB
import Derived.Deep.DeepCutAuto
set_option linter.all false
open Array renaming getElem?_eq_getElem->Awg,getElem?_toList->AwE
open Bool renaming false->Φ,true->Δ,and_eq_true->Awh
open List renaming all_cons->Ax6,getElem?_cons_succ->Awu,getElem?_cons_zero->Awx,getElem?_eq_some_iff->Awl,getElem?_take->AwP,getElem?_toArray->AwH,getElem_mem->Aws,mem_cons_of_mem->Awk,mem_cons_self->Awi,mem_of_getElem?->AwB
open Nat renaming lt_irrefl->AxS
open Option renaming none->Ξ,some->Θ
namespace Go.Proofs.YtpncilciembjdaaGreatDoor
open Lib renaming hid->ι
open Tryz renaming prog->Av9
open Go.RowKit
section
variable [S:Side]
def H7:AV->Bool
 |.v _=>Δ
 |.ls _=>Δ
 |_=>Φ
theorem Akn{own:Af}{w:World}{x:AV}{u:Value}(hx:H7 x=Δ)(h:Ro own w x u):Cr u=Δ:=by
 unfold Ro at h
 cases x with
 |v z=>simp only[Rep]at h;rw[h.1];exact h.2
 |ls xs=>simp only[Rep]at h;obtain⟨_,A,c,rfl,_⟩:=h;rfl
 |_=>simp[H7]at hx
theorem Ll{own:Af}{w:World}:∀{xs:Ab} {us:AO},xs.all H7=Δ->RoL own w xs us->us.all Cr=Δ
 |[],us,_,h=>by obtain rfl:=RoL.nil_inv h;rfl
 |x::xs,us,hx,h=>by
  obtain⟨u,t,rfl,h1,h2⟩:=RoL.cons_inv h;simp only[Ax6,Awh]at hx ⊢;exact⟨Akn hx.1 h1,Ll hx.2 h2⟩
omit S in
theorem K0:∀{xs:Ab},xs.all H7=Δ->Bj xs=Δ
 |[],_=>rfl
 |x::r,h=>by
  simp only[Ax6,Awh]at h;simp only[Bj,Awh];refine⟨?_,K0 h.2⟩
  cases x<;>simp_all [H7,AV.noid]
theorem Ad6{own:Af}{g:Nat}{w w':World}{base size:Nat}{e:TypeId}{v:Value}{n:Nat}{xs:AO}(h:Kq own g w w')(ho:w.ownsRow base e size v n xs)(hm:∀ k,v.ownBlock=Θ k->k∈own/\k≠g)(hf:xs.all Cr=Δ):w'.ownsRow base e size v n xs:=by
 obtain⟨hl,ho⟩:=ho;refine⟨hl,?_⟩;rcases ho with h0|⟨k,cap,cur,rfl,hg,hcur,hn,hm2,hsz,htk⟩
 .exact .inl h0
 .obtain⟨c',h1,h2,h3⟩:=h.mine k (hm k rfl).1 (hm k rfl).2 e cur hcur
  refine .inr ⟨k,cap,c',rfl,hg,h1,hn,hm2,h2.trans hsz,?_⟩;rw[←htk]at hf ⊢;apply List.ext_getElem?;intro i;rw[AwP,AwP]
  by_cases hi:i<n*size
  .rw[Ac hi,Ac hi,AwE,AwE]
   have hc:i<cur.size:=by rw[hsz];exact Nat.lt_of_lt_of_le hi (Nat.mul_le_mul_right _ hn)
   rw[Awg hc];refine h3 i _ (Awg hc) (List.all_eq_true.1 hf _ (AwB (i:=i) ?_));rw[AwP,Ac hi,AwE,Awg hc]
  .rw[Ad hi,Ad hi]
section
variable {own:Af} {w w':World} {bk:Nat} {gs:Af} {ls:Rw} {v:Value}
theorem Book.turn(h:Book own w bk gs ls v){i g:Nat}(hi:gs[i]? = Θ g)(k:Kq own g w w'){ys:Ab}(hl:LineAt own w' g ys):Book own w' bk gs (ls.set i ys) v:=by
 have hg:g∈gs:=AwB hi;have hgi:i<gs.length:=(Awl.1 hi).1;have hge:gs[i]=g:=(Awl.1 hi).2;refine⟨⟨h.mine.nd,λq hq=>?_,k.side h.mine.sd⟩,h.bkm,k.blk h.bkm (λe=>(h.gm g hg).2 e.symm) h.box (by simp[TS h.row]),Ad6 k h.row (λq hq=>⟨(h.rowm q hq).1,λe=>(h.rowm q hq).2.2 (e▸hg)⟩) (QE gs),h.rowm,by rw[List.length_set];exact h.len,h.gm,h.nd,λj h1 h2=>?_⟩
 .by_cases e:q=g
  .subst e
   obtain⟨_,_,_,_,_,_,_,_,_,hb,_⟩:=hl;exact⟨_,_,hb⟩
  .obtain⟨T,cs,hb⟩:=h.mine.all q hq
   obtain⟨c',h3,_⟩:=k.mine q hq e T cs hb;exact⟨T,c',h3⟩
 .by_cases e:j=i
  .subst e
   rw[List.getElem_set_self,hge];exact hl
  .rw[List.getElem_set_ne (λe'=>e e'.symm)]
   obtain⟨c0,c1,c2,c3,c4,c5,c6,c7,c8,b1,b2,b3⟩:=h.line j h1 (by simpa using h2);have hne:gs[j]≠g:=λe'=>e ((List.getElem_inj h.nd (h₀:=h1) (h₁:=hgi)).1 (e'.trans hge.symm))
   exact⟨c0,c1,c2,c3,c4,c5,c6,c7,c8,k.blk (h.gm _ (Aws h1)).1 hne b1 b2,b2,b3.xt k.xt⟩
theorem GN{P:Program}{f:Nat}{d:DF}(hd:BD (BL P f) d)(h:Book own w bk gs ls v){i g:Nat}(hi:gs[i]? = Θ g){x ys args:Ab}{r:AV}(hx:ls[i]? = Θ x)(hc:d (.ptr 0 0::args) [⟨x,Δ,Φ⟩]=Θ (r,[.set ⟨ys,Δ,Φ⟩]))(hn:r.noid=Δ)(hy:ys.all H7=Δ)(hyl:ys.length=9){us:AO}(hus:RoL own w args us) :
  Calls P f (GS g::us).toArray w λe w'=>∃ u,e=.returned u/\Book own w' bk gs (ls.set i ys) v/\Kq own g w w'/\Ro own w' r u:=by
 have hg:g∈gs:=AwB hi;obtain⟨hgi,hge⟩:=Awl.1 hi;obtain⟨hxi,hxe⟩:=Awl.1 hx;obtain⟨c0,c1,c2,c3,c4,c5,c6,c7,c8,b1,b2,b3⟩:=h.line i hgi hxi;rw[hge]at b1;rw[hxe]at b3;have hxl:x.length=9:=b3.length.symm;refine(OA hd hc (.inr rfl) hn (K0 hy) (by rw[hyl,hxl]) h.mine (h.gm g hg).1 b1 b3 hus).mono ?_;rintro e w' ⟨u,rfl,hk,hr,cs',hb,hs,hy2⟩;refine⟨u,rfl,h.turn hi hk ?_,hk,hr⟩;obtain⟨l⟩:=cs'
 match l,hs,hb,hy2 with
 |[a0,a1,a2,a3,a4,a5,a6,a7,a8],_,hb,hy2=>exact⟨a0,a1,a2,a3,a4,a5,a6,a7,a8,hb,Ll hy hy2,hy2⟩
end
theorem IK{own:Af}{w:World}{x:AV}{u:Value}{xs:Ab}{us:AO}(h:RoL own w (x::xs) (u::us)):RoL own w xs us:=by
 obtain⟨_,_,e,_,h⟩:=RoL.cons_inv h;injection e with _ e
 subst e;exact h
end
structure NoteH (dq:Nat->DF) (ls:Rw) (ps:Rw) (kn:Bool) (ka:Rw) (eq:Bool) (ls':Rw) where
 k0:Rw
 k1:Bool
 k2:Rw
 c0:AV
 c1:Bool
 c2:Rw
 row:Rw
 d1:Bool
 d2:Rw
 s:Int
 num:dq 125 [.agg [bv kn,.ls ka]] []=Θ (.agg [.ls k0,bv k1,.ls k2],[])
 sub:dq 127 [.agg [.ls ps,bv kn,.ls ka],.agg [.ls k0,bv k1,.ls k2]] []=Θ (.agg [.ls ([c0,bv c1,.ls c2]::row),bv d1,.ls d2],[])
 sign:dq 64 [.agg [bv c1,.ls c2]] []=Θ (iv s,[])
 go:(0<s/\∃(sm:Ab->Bool) (n0:Bool) (n1:Rw) (x y:Ab),(∀ z∈ls,dq 213 [.agg (z.take 3),.agg [.ls ([c0,bv c1,.ls c2]::row),bv d1,.ls d2]] []=Θ (bv (sm z),[]))/\dq 161 [.agg [bv kn,.ls ka]] []=Θ (.agg [bv n0,.ls n1],[]) ∧
   (Fz sm ls ([.ls ([c0,bv c1,.ls c2]::row),bv d1,.ls d2]++FF))[ls.findIdx sm]? = Θ x/\dq 160 [.ptr 0 0,.agg [bv n0,.ls n1]] [⟨x,Δ,Φ⟩]=Θ (.tup [],[.set ⟨y,Δ,Φ⟩])/\y.all H7=Δ/\y.length=9 ∧
   ((eq=Φ/\ls'=(Fz sm ls ([.ls ([c0,bv c1,.ls c2]::row),bv d1,.ls d2]++FF)).set (ls.findIdx sm) y) ∨
    (eq=Δ/\∃ z:Ab,dq 162 [.ptr 0 0,.agg [bv n0,.ls n1]] [⟨y,Δ,Φ⟩]=Θ (.tup [],[.set ⟨z,Δ,Φ⟩])/\z.all H7=Δ/\z.length=9/\ls'=((Fz sm ls ([.ls ([c0,bv c1,.ls c2]::row),bv d1,.ls d2]++FF)).set (ls.findIdx sm) y).set (ls.findIdx sm) z))) ∨
  (¬ 0<s/\∃(sm:Ab->Bool) (q0:Rw) (q1:Bool) (q2:Rw) (x y:Ab),dq 68 [.agg [.ls ([c0,bv c1,.ls c2]::row),bv d1,.ls d2]] []=Θ (.agg [.ls q0,bv q1,.ls q2],[])/\(∀ z∈ls,dq 213 [.agg (z.take 3),.agg [.ls q0,bv q1,.ls q2]] []=Θ (bv (sm z),[])) ∧
   (Fz sm ls ([.ls q0,bv q1,.ls q2]++FF))[ls.findIdx sm]? = Θ x/\dq 162 [.ptr 0 0,.agg [bv kn,.ls ka]] [⟨x,Δ,Φ⟩]=Θ (.tup [],[.set ⟨y,Δ,Φ⟩])/\y.all H7=Δ/\y.length=9/\ls'=(Fz sm ls ([.ls q0,bv q1,.ls q2]++FF)).set (ls.findIdx sm) y)
section
variable [S:Side]
section
variable {own:Af} {w:World} {bk:Nat} {gs:Af} {ls:Rw} {v:Value}
theorem Book.set(h:Book own w bk gs ls v){g:Nat}(hg:g∈own)(h1:g≠bk)(h2:g∉gs)(h3:v.ownBlock≠Θ g)(i:Nat)(u:Value):Book own (w.setCell ⟨g,i,Ξ⟩ u) bk gs ls v:=
 ⟨h.mine.set hg _ _,h.bkm,h.box.far (p:=⟨g,i,Ξ⟩) (λe=>h1 e.symm) u,Lm h.row λk hk=>Below.heap_setCell _ _ _ _ (λe=>h3 (hk.trans (by rw[e]))),h.rowm,h.len,h.gm,h.nd,λj h4 h5=>(h.line j h4 h5).ext (Xt.set (p:=⟨g,i,Ξ⟩) hg u) (Below.heap_setCell _ _ _ _ (λe=>h2 (by have e:gs[j]=g:=e;rw[←e];exact Aws h4)))⟩
def Aa5(own:Af)(W2:World)(bk:Nat)(gs:Af)(ls:Rw)(v:Value)(P:Ab)(b3 b4:Nat)(cs3 cs4:Array Value)(q:Value)(wx:World):Prop:=∃(g:Nat) (a0 a1 a2:Value),q=.pointer (Θ ⟨g,0,Ξ⟩)/\Book (g::own) wx bk gs ls v/\Blk wx g 28 #[a0,a1,a2]/\RoL (g::own) wx P [a0,a1,a2]/\Xt own (g::own) W2 wx/\Blk wx b3 30 cs3/\Blk wx b4 26 cs4
theorem ArT{b3 b4:Nat}{cs3 cs4:Array Value}{P:Ab}{a0 a1 a2:Value}(hB:Book own w bk gs ls v)(m3:b3∈own)(m4:b4∈own)(H3:Blk w b3 30 cs3)(H4:Blk w b4 26 cs4)(f3:cs3.toList.all Cr=Δ)(f4:cs4.toList.all Cr=Δ){w6:World}(hk:Kp own w w6)(hv:RoL own w6 P [a0,a1,a2]) :
  Aa5 own w bk gs ls v P b3 b4 cs3 cs4 (.pointer (Θ ⟨w6.heap.size,0,Ξ⟩)) (w6.alloc (.cells #[a0,a1,a2] 28)):=
 ⟨_,a0,a1,a2,rfl,(hB.kp hk).alloc _ _,Blk.new _ _ _,hv.xt (Xt.alloc _ _ _),hk.xt.trans (Xt.alloc _ _ _),(hk.blk m3 H3 f3).alloc _,(hk.blk m4 H4 f4).alloc _⟩
theorem AmM{b3 b4:Nat}{cs3 cs4:Array Value}{P:Ab}{a0 a1 a2:Value}(hB:Book own w bk gs ls v)(m3:b3∈own)(m4:b4∈own)(H3:Blk w b3 30 cs3)(H4:Blk w b4 26 cs4)(f3:cs3.toList.all Cr=Δ)(f4:cs4.toList.all Cr=Δ){Wx w6:World}(hk:Kp own w Wx)
  (hk6:Kp (Wx.heap.size::own) (Wx.alloc (.cells #[.slice Ξ 0 0,.bool Φ,.slice Ξ 0 0] 28)) w6) (hv:RoL (Wx.heap.size::own) w6 P [a0,a1,a2]) :
  Aa5 own w bk gs ls v P b3 b4 cs3 cs4 (.pointer (Θ ⟨Wx.heap.size,0,Ξ⟩)) (((w6.setCell ⟨Wx.heap.size,0,Ξ⟩ a0).setCell ⟨Wx.heap.size,1,Ξ⟩ a1).setCell ⟨Wx.heap.size,2,Ξ⟩ a2):=by
 have hbx:=hB.kp hk;have hlt:∀ k∈own,k<Wx.heap.size:=λk hk'=>hbx.mine.lt hk'
 have g1:Wx.heap.size≠bk:=by have:=hlt bk hB.bkm;omega
 have g2:Wx.heap.size∉gs:=λhm=>by have:=hlt _ (hB.gm _ hm).1;omega
 have g3:v.ownBlock≠Θ Wx.heap.size:=λhm=>by have:=hlt _ (hB.rowm _ hm).1;omega
 have gm:Wx.heap.size∈Wx.heap.size::own:=Awi ..;have b0:=(hbx.alloc 28 #[.slice Ξ 0 0,.bool Φ,.slice Ξ 0 0]).kp hk6;have x3:=((Xt.set (own:=Wx.heap.size::own) (w:=w6) (p:=⟨Wx.heap.size,0,Ξ⟩) gm a0).trans (Xt.set (p:=⟨Wx.heap.size,1,Ξ⟩) gm a1)).trans (Xt.set (p:=⟨Wx.heap.size,2,Ξ⟩) gm a2);have hg:=hk6.blk gm (Blk.new _ _ _) rfl;have far:∀(b:Nat) (T:TypeId) (cs:Array Value),b∈own->Blk w b T cs->cs.toList.all Cr=Δ->Blk (((w6.setCell ⟨Wx.heap.size,0,Ξ⟩ a0).setCell ⟨Wx.heap.size,1,Ξ⟩ a1).setCell ⟨Wx.heap.size,2,Ξ⟩ a2) b T cs:=λb T cs hm hb hf=>by
  have hne:b≠Wx.heap.size:=by have:=hlt b hm;omega
  exact((((hk6.blk (Awk _ hm) ((hk.blk hm hb hf).alloc _) hf).far (p:=⟨Wx.heap.size,0,Ξ⟩) hne a0).far (p:=⟨Wx.heap.size,1,Ξ⟩) hne a1).far (p:=⟨Wx.heap.size,2,Ξ⟩) hne a2)
 refine⟨_,a0,a1,a2,rfl,((b0.set gm g1 g2 g3 0 a0).set gm g1 g2 g3 1 a1).set gm g1 g2 g3 2 a2,?_,hv.xt x3,((hk.xt.trans (Xt.alloc _ _ _)).trans hk6.xt).trans x3,far _ _ _ m3 H3 f3,far _ _ _ m4 H4 f4⟩;have:=((hg.set_ 0 a0).set_ 1 a1).set_ 2 a2;simpa using this
end
theorem TR{own:Af}{w:World}{c0:AV}{c1:Bool}{c2 row:Rw}{A:Option Addr}{n c:Nat}(h:Ro own w (.ls ([c0,bv c1,.ls c2]::row)) (.slice A n c)) :
  ∃ b o,A=Θ ⟨b,o,Ξ⟩/\b<w.heap.size/\w.cell? ⟨b,o+1,Ξ⟩=Θ (.bool c1)/\∃ A2 z2,w.cell? ⟨b,o+2,Ξ⟩=Θ (.slice A2 c2.length z2)/\Ro own w (.ls c2) (.slice A2 c2.length z2):=by
 unfold Ro at h;simp only[Rep]at h;obtain⟨_,A2,c',h1,h2,h3,h4⟩:=h;injection h1 with e1 e2 e3
 subst e1;obtain⟨g,o,e,hA,hr⟩:=h4 (by simp);have ha:=(hr.get (i:=0) (x:=[c0,bv c1,.ls c2]) rfl).2;rw[Nat.zero_mul,Nat.add_zero]at ha;obtain⟨hF,u1,q1,r1⟩:=ha.get (i:=1) (x:=bv c1) rfl;obtain⟨_,u2,q2,r2⟩:=ha.get (i:=2) (x:=.ls c2) rfl;have r1':Ro own w (bv c1) u1:=r1;have r2':Ro own w (.ls c2) u2:=r2;obtain rfl:=Rp.bool_inv r1'.rp;obtain⟨A3,z3,rfl⟩:=Rp.ls_inv r2'.rp;exact⟨g,o,hA,hF.1,q1,A3,z3,q2,r2'⟩
theorem WW{own:Af}{w:World}{p:Rw}{b:Bool}{q:Rw}{us:AO}(h:RoL own w [.ls p,bv b,.ls q] us):∃ A0 z0 A2 z2,us=[.slice A0 p.length z0,.bool b,.slice A2 q.length z2]:=by
 obtain⟨_,_,rfl,r0,h⟩:=RoL.cons_inv h;obtain⟨_,_,rfl,r1,h⟩:=RoL.cons_inv h;obtain⟨_,_,rfl,r2,h⟩:=RoL.cons_inv h;obtain rfl:=RoL.nil_inv h;obtain⟨A0,z0,rfl⟩:=Rp.ls_inv r0.rp;obtain rfl:=Rp.bool_inv r1.rp;obtain⟨A2,z2,rfl⟩:=Rp.ls_inv r2.rp;exact⟨A0,z0,A2,z2,rfl⟩
set_option maxHeartbeats 8000000 in
set_option maxRecDepth 100000 in
theorem Adw(dq:Nat->DF)(G:∀ f,BD (BL Av9 f) (dq f)){own:Af}{w:World}{bk:Nat}{gs:Af}{ls:Rw}{v:Value}(hB:Book own w bk gs ls v)(hlen:gs.length<=100000){ps:Rw}{kn:Bool}{ka:Rw}{eq:Bool}{ls':Rw}(N:NoteH dq ls ps kn ka eq ls')
  {u0 u2:Value} (hr:RoL own w [.ls ps,bv kn,.ls ka] [u0,.bool kn,u2]) :
  Calls Av9 88 #[GS bk,.agg #[u0,.bool kn,u2,.bool eq]] w λe w'=>∃ own' gs' v',e=.returned (.tuple #[])/\Book own' w' bk gs' ls' v'/\Xt own own' w w'/\gs'.length<=gs.length+1:=by
 obtain⟨k0,k1,k2,c0,c1,c2,row,d1,d2,s,gnum,gsub,gsign,hgo⟩:=N;obtain⟨A0,z0,A2,z2,rfl,rfl⟩:∃ A0 z0 A2 z2,u0=.slice A0 ps.length z0/\u2=.slice A2 ka.length z2:=by
  obtain⟨_,_,e,r0,h⟩:=RoL.cons_inv hr;obtain⟨_,_,e2,_,h⟩:=RoL.cons_inv h;obtain⟨_,_,e3,r2,_⟩:=RoL.cons_inv h;subst e2 e3;obtain⟨A0,z0,g0⟩:=Rp.ls_inv r0.rp;obtain⟨A2,z2,g2⟩:=Rp.ls_inv r2.rp;injection e with e e'
  injection e' with e' e''
  injection e'' with e'' _
  exact⟨A0,z0,A2,z2,e.trans g0,e''.trans g2⟩
 have hrf:[.slice A0 ps.length z0,.bool kn,.slice A2 ka.length z2].all Cr=Δ:=Ll rfl hr;have hb2:=(hB.alloc 30 #[.slice A0 ps.length z0,.bool kn,.slice A2 ka.length z2,.bool eq]).alloc 26 #[.bool kn,(.slice A2 ka.length z2)];have hx2:=(Xt.alloc own w (.cells #[(.slice A0 ps.length z0),.bool kn,(.slice A2 ka.length z2),.bool eq] 30)).trans (Xt.alloc _ _ (.cells #[.bool kn,(.slice A2 ka.length z2)] 26));have h3:=(Blk.new w 30 #[(.slice A0 ps.length z0),.bool kn,(.slice A2 ka.length z2),.bool eq]).alloc (.cells #[.bool kn,(.slice A2 ka.length z2)] 26);have h4:=Blk.new (w.alloc (.cells #[(.slice A0 ps.length z0),.bool kn,(.slice A2 ka.length z2),.bool eq] 30)) 26 #[.bool kn,(.slice A2 ka.length z2)];simp only[World.size_alloc]at hb2 hx2 h4;have hr2:=hr.xt hx2;have m3:w.heap.size∈(w.heap.size+1)::w.heap.size::own:=by simp
 have m4:w.heap.size+1∈(w.heap.size+1)::w.heap.size::own:=by simp
 have hwn:own=own:=rfl;have hlb:bk<w.heap.size:=hB.mine.lt hB.bkm;have hlg:∀ k∈gs,k<w.heap.size:=λk hk=>hB.mine.lt (hB.gm k hk).1
 have hlr:∀ k,v.ownBlock=Θ k->k<w.heap.size:=λk hk=>hB.mine.lt (hB.rowm k hk).1
 have HLB:=ι hlb;have HLG:=ι hlg;have HLR:=ι hlr;clear hlb hlg hlr;generalize hO2:(w.heap.size+1)::w.heap.size::own=O2 at *;have HB2:=ι hb2;have HX2:=ι hx2;have HR2:=ι hr2;have H3:=ι h3;have H4:=ι h4;have HRF:=ι hrf;have HGO:=ι hgo;clear hb2 hx2 h3 h4 hrf hr hr2 hB hgo hwn hO2;unfold GS
 go_enter Tryz.func88,Tryz.ntmps88
 go_upto_region 2 with (fail)
 generalize ((w.alloc (.cells #[.slice A0 ps.length z0,.bool kn,.slice A2 ka.length z2,.bool eq] 30)).alloc (.cells #[.bool kn,.slice A2 ka.length z2] 26))=W2 at *
 go_cut [5] from 10 to 14 (λq wx=>Aa5 O2 W2 bk gs ls v [.ls ([c0,bv c1,.ls c2]::row),bv d1,.ls d2] w.heap.size (w.heap.size+1) #[.slice A0 ps.length z0,.bool kn,.slice A2 ka.length z2,.bool eq] #[.bool kn,.slice A2 ka.length z2] q wx)
 case first=>
  obtain⟨x0,x1,x2⟩:W2.cell? ⟨w.heap.size,0,Ξ⟩=Θ (.slice A0 ps.length z0)/\W2.cell? ⟨w.heap.size,1,Ξ⟩=Θ (.bool kn)/\W2.cell? ⟨w.heap.size,2,Ξ⟩=Θ (.slice A2 ka.length z2):=⟨H3.out.cell 0,H3.out.cell 1,H3.out.cell 2⟩;obtain⟨y0,y1⟩:W2.cell? ⟨w.heap.size+1,0,Ξ⟩=Θ (.bool kn)/\W2.cell? ⟨w.heap.size+1,1,Ξ⟩=Θ (.slice A2 ka.length z2):=⟨H4.out.cell 0,H4.out.cell 1⟩;have l3:=H3.out.lt;have l4:=H4.out.lt
  go_region_with (first
   |(go_at_call 125;first
     |(refine(BN (G _) gnum rfl (HB2.out.mine.kp (Kp.drew _ _)) (us:=[.agg #[.bool kn,.slice A2 ka.length z2]]) (RoL.cons (Ro.agg ((IK HR2.out).xt (Kp.drew _ _).xt)) (RoL.nil _ _))).mono ?_;rintro e w5 ⟨u5,rfl,hk5,hu5⟩;have hk05:=(Kp.drew _ _).trans hk5;have hb35:=hk05.blk m3 H3.out rfl;have hb45:=hk05.blk m4 H4.out rfl)
     |(refine(BN (G _) gnum rfl ((HB2.out.mine.kp (Kp.drew _ _)).alloc 28 _) (us:=[.agg #[.bool kn,.slice A2 ka.length z2]]) (RoL.cons (Ro.agg (((IK HR2.out).xt (Kp.drew _ _).xt).xt (Xt.alloc _ _ _))) (RoL.nil _ _))).mono ?_;rintro e w5 ⟨u5,rfl,hk5,hu5⟩;have hb35:=hk5.blk (Awk _ m3) (H3.out.drew.alloc _) rfl;have hb45:=hk5.blk (Awk _ m4) (H4.out.drew.alloc _) rfl;have hbg:=hk5.blk (Awi ..) (Blk.new _ _ _) rfl)
     obtain⟨x0,x1,x2⟩:w5.cell? ⟨w.heap.size,0,Ξ⟩=Θ (.slice A0 ps.length z0)/\w5.cell? ⟨w.heap.size,1,Ξ⟩=Θ (.bool kn)/\w5.cell? ⟨w.heap.size,2,Ξ⟩=Θ (.slice A2 ka.length z2):=⟨hb35.cell 0,hb35.cell 1,hb35.cell 2⟩;have l3:=hb35.lt)
   |(go_at_call 127;first
     |(refine(BN (G _) gsub rfl (HB2.out.mine.kp hk05) (us:=[.agg #[.slice A0 ps.length z0,.bool kn,.slice A2 ka.length z2],u5]) (RoL.cons (Ro.agg (HR2.out.xt hk05.xt)) (RoL.cons hu5 (RoL.nil _ _)))).mono ?_;rintro e w6 ⟨u6,rfl,hk6,hu6⟩;have hk06:=hk05.trans hk6)
     |(refine(BN (G _) gsub rfl ((HB2.out.mine.kp hk05).alloc 28 _) (us:=[.agg #[.slice A0 ps.length z0,.bool kn,.slice A2 ka.length z2],u5]) (RoL.cons (Ro.agg ((HR2.out.xt hk05.xt).xt (Xt.alloc _ _ _))) (RoL.cons (hu5.xt (Xt.alloc _ _ _)) (RoL.nil _ _)))).mono ?_;rintro e w6 ⟨u6,rfl,hk6,hu6⟩;have hbg:Blk w6 w5.heap.size 28 #[.slice Ξ 0 0,.bool Φ,.slice Ξ 0 0]:=hk6.blk (Awi ..) (Blk.new _ _ _) rfl)
     |(refine(BN (G _) gsub rfl (((HB2.out.mine.kp (Kp.drew _ _)).alloc 28 _).kp hk5) (us:=[.agg #[.slice A0 ps.length z0,.bool kn,.slice A2 ka.length z2],u5]) (RoL.cons (Ro.agg (((HR2.out.xt (Kp.drew _ _).xt).xt (Xt.alloc _ _ _)).xt hk5.xt)) (RoL.cons hu5 (RoL.nil _ _)))).mono ?_;rintro e w6 ⟨u6,rfl,hk6,hu6⟩;have hbg:Blk w6 W2.heap.size 28 #[.slice Ξ 0 0,.bool Φ,.slice Ξ 0 0]:=hk6.blk (Awi ..) hbg rfl)
     obtain⟨us6,rfl,hv6⟩:=Ro.agg_inv hu6;obtain⟨A6,z6,A7,z7,rfl⟩:=WW hv6
     first
     |(have g0:=hbg.frozen 0;have g1:=hbg.frozen 1;have g2:=hbg.frozen 2;obtain⟨j0,j1,j2⟩:=Ob hbg;have j3:=hbg.lt)
     |skip))
  all_goals
   go_wp2_with fail
   go_meet
   first
    |exact ArT HB2.out m3 m4 H3.out H4.out rfl rfl hk06 hv6
    |exact AmM HB2.out m3 m4 H3.out H4.out rfl rfl hk05 hk6 hv6
    |exact AmM (Wx:=W2.drew) HB2.out m3 m4 H3.out H4.out rfl rfl (Kp.drew _ _) (hk5.trans hk6) hv6
 case rest=>
  obtain⟨g,a0,a1,a2,rfl,hb,hg,hv,hx,h3,h4⟩:=hcut;obtain⟨A6,z6,A7,z7,e⟩:=WW hv;injection e with e0 e
  injection e with e1 e
  injection e with e2 e
  subst e0 e1 e2;obtain⟨vv,tt,ee,hv0,_⟩:=RoL.cons_inv hv;injection ee with ee et
  subst ee et;obtain⟨b,o,rfl,hbl,x1,A8,z8,x2,hr8⟩:=TR hv0;obtain⟨y0,y1,y2⟩:=Ob hg;have y3:=hg.lt;have HBC:=ι hb;have HG:=ι hg;have HV:=ι hv;have HX:=ι hx;have H3c:=ι h3;have H4c:=ι h4;have HR8:=ι hr8;clear hb hg hv hx h3 h4 hr8 hv0
  go_wp2_with (go_at_call 64;refine(BN (G _) gsign rfl HBC.out.mine (us:=[.agg #[.bool c1,.slice A8 c2.length z8]]) (RoL.cons (Ro.agg (RoL.cons (Ro.v rfl) (RoL.cons HR8.out (RoL.nil _ _)))) (RoL.nil _ _))).mono ?_)
  first|rintro e w8 u8 rfl hk8 hu8|rintro e w8 ⟨u8,rfl,hk8,hu8⟩
  obtain rfl:=Rp.int_inv hu8.rp;have HB8:=ι (HBC.out.kp hk8);have HG8:=ι (hk8.blk (Awi ..) HG.out rfl);have HV8:=ι (HV.out.xt hk8.xt);have HX8:=ι (HX.out.trans hk8.xt);have H38:=ι (hk8.blk (Awk _ m3) H3c.out rfl);have H48:=ι (hk8.blk (Awk _ m4) H4c.out rfl);clear hk8 hu8 x1 x2 y0 y1 y2 y3;obtain⟨y0,y1,y2⟩:=Ob HG8.out;rcases HGO.out with⟨hs,sm,n0,n1,x,y,gsame,gneg,hxi,gleast,hyl,hyn,hend⟩|⟨hs,sm,q0,q1,q2,x,y,gneg,gsame,hxi,gmost,hyl,hyn,hend⟩
  .go_wp2_with (go_at_call 159;refine(TQ dq G HB8.out (by omega) [.ls ([c0,bv c1,.ls c2]::row),bv d1,.ls d2] (.slice (Θ ⟨b,o,Ξ⟩) (row.length+1) z6) (.bool d1) (.slice A7 d2.length z7) HV8.out rfl sm gsame).mono ?_)
   first|rintro e w9 own' gs' v' gl rfl hgl hb9 hx9 hold hlen9 hkeep|rintro e w9 ⟨own',gs',v',gl,rfl,hgl,hb9,hx9,hold,hlen9,hkeep⟩
   have hq3:=hkeep w.heap.size (Awk _ m3) (by have:=HLB.out;omega) (λe=>AxS _ (HLR.out _ e));have hq4:=hkeep (w.heap.size+1) (Awk _ m4) (by have:=HLB.out;omega) (λe=>by have:=HLR.out _ e;omega);have hgm:gl∈gs':=AwB hgl;have hne3:w.heap.size≠gl:=λe=>by
    subst e;exact AxS _ (HLG.out _ (hold _ hgm H38.out.lt))
   have hne4:w.heap.size+1≠gl:=λe=>by
    subst e;have:=HLG.out _ (hold _ hgm H48.out.lt);omega
   have m39:=hq3.1;have m49:=hq4.1;have H39:=ι (hq3.2 _ _ H38.out rfl);have H49:=ι (hq4.2 _ _ H48.out rfl);have HB9:=ι hb9;have HX9:=ι (HX8.out.trans hx9);clear hb9 hx9 hold hkeep hq3 hq4 y0 y1 y2;have y0:=H49.out.cell 0;have y1:=H49.out.cell 1;simp only[AwH,Awx,Awu]at y0 y1
   go_wp2_with (go_at_call 161;refine(BN (G _) gneg rfl HB9.out.mine (us:=[.agg #[.bool kn,.slice A2 ka.length z2]]) (RoL.cons (Ro.agg ((IK HR2.out).xt HX9.out)) (RoL.nil _ _))).mono ?_)
   first|rintro e w10 u10 rfl hk10 hu10|rintro e w10 ⟨u10,rfl,hk10,hu10⟩
   obtain⟨us10,rfl,hv10⟩:=Ro.agg_inv hu10;obtain⟨_,_,rfl,r10,hv10'⟩:=RoL.cons_inv hv10;obtain⟨_,_,rfl,s10,hv10''⟩:=RoL.cons_inv hv10';obtain rfl:=RoL.nil_inv hv10'';obtain rfl:=Rp.bool_inv r10.rp;obtain⟨A10,z10,rfl⟩:=Rp.ls_inv s10.rp;have HB10:=ι (HB9.out.kp hk10);have HV10:=ι hv10;have H310:=ι (hk10.blk m39 H39.out rfl);have H410:=ι (hk10.blk m49 H49.out rfl);have HX10:=ι (HX9.out.trans hk10.xt);clear hk10 hu10 hv10 hv10' hv10'' r10 s10 y0 y1
   go_wp2_with (go_at_call 160;refine(GN (G _) HB10.out hgl hxi gleast rfl hyl hyn (us:=[.agg #[.bool n0,.slice A10 n1.length z10]]) (RoL.cons (Ro.agg HV10.out) (RoL.nil _ _))).mono ?_)
   first|rintro e w11 u11 rfl hb11 hq11 hu11|rintro e w11 ⟨u11,rfl,hb11,hq11,hu11⟩
   obtain⟨us11,rfl,hv11⟩:=Ro.tup_inv hu11;obtain rfl:=RoL.nil_inv hv11;have HB11:=ι hb11;have H311:=ι (hq11.blk m39 hne3 H310.out rfl);have H411:=ι (hq11.blk m49 hne4 H410.out rfl);have HX11:=ι (HX10.out.trans hq11.xt);clear hb11 hq11 hu11 hv11;have y0:=H311.out.cell 3;simp only[AwH,Awx,Awu]at y0;rcases hend with⟨rfl,rfl⟩|⟨rfl,z,gmost,hzl,hzn,rfl⟩
   .go_wp2
    refine bodyPost_ret (results_none rfl _ _ _) rfl ?_;exact⟨own',gs',v',rfl,HB11.out,HX2.out.trans HX11.out,hlen9⟩
   .have hyi:((Fz sm ls ([.ls ([c0,bv c1,.ls c2]::row),bv d1,.ls d2]++FF)).set (ls.findIdx sm) y)[ls.findIdx sm]? = Θ y:=by
     rw[List.getElem?_set_self (Awl.1 hxi).1]
    have y1:=H411.out.cell 0;have y2:=H411.out.cell 1;simp only[AwH,Awx,Awu]at y1 y2
    go_wp2_with (go_at_call 161;refine(BN (G _) gneg rfl HB11.out.mine (us:=[.agg #[.bool kn,.slice A2 ka.length z2]]) (RoL.cons (Ro.agg ((IK HR2.out).xt HX11.out)) (RoL.nil _ _))).mono ?_)
    first|rintro e w12 u12 rfl hk12 hu12|rintro e w12 ⟨u12,rfl,hk12,hu12⟩
    obtain⟨us12,rfl,hv12⟩:=Ro.agg_inv hu12;obtain⟨_,_,rfl,r12,hv12'⟩:=RoL.cons_inv hv12;obtain⟨_,_,rfl,s12,hv12''⟩:=RoL.cons_inv hv12';obtain rfl:=RoL.nil_inv hv12'';obtain rfl:=Rp.bool_inv r12.rp;obtain⟨A12,z12,rfl⟩:=Rp.ls_inv s12.rp;have HB12:=ι (HB11.out.kp hk12);have HV12:=ι hv12;have HX12:=ι (HX11.out.trans hk12.xt);clear hk12 hu12 hv12 hv12' hv12'' r12 s12 y0 y1 y2
    go_wp2_with (go_at_call 162;refine(GN (G _) HB12.out hgl hyi gmost rfl hzl hzn (us:=[.agg #[.bool n0,.slice A12 n1.length z12]]) (RoL.cons (Ro.agg HV12.out) (RoL.nil _ _))).mono ?_)
    first|rintro e w13 u13' rfl hb13 hq13 hu13|rintro e w13 ⟨u13',rfl,hb13,hq13,hu13⟩
    obtain⟨us13,rfl,hv13⟩:=Ro.tup_inv hu13;obtain rfl:=RoL.nil_inv hv13;have HB13:=ι hb13;have HX13:=ι (HX12.out.trans hq13.xt);clear hb13 hq13 hu13 hv13
    go_wp2
    refine bodyPost_ret (results_none rfl _ _ _) rfl ?_;exact⟨own',gs',v',rfl,HB13.out,HX2.out.trans HX13.out,hlen9⟩
  .go_wp2_with fail
   have x0:=H48.out.cell 0;have x1:=H48.out.cell 1;simp only[AwH,Awx,Awu]at x0 x1;have x2:=H48.out.lt;have y3:=HG8.out.lt
   go_region_with (first
    | (go_at_call 68
       refine(BN (G _) gneg rfl (HB8.out.mine.kp (Kp.drew _ _)) (us:=[.agg #[.slice (Θ ⟨b,o,Ξ⟩) (row.length+1) z6,.bool d1,.slice A7 d2.length z7]]) (RoL.cons (Ro.agg (HV8.out.xt (Kp.drew _ _).xt)) (RoL.nil _ _))).mono ?_;rintro e w9 ⟨u9,rfl,hk9,hu9⟩
       replace hk9:=(Kp.drew _ _).trans hk9
       obtain⟨us9,rfl,hv9⟩:=Ro.agg_inv hu9;obtain⟨A9,z9,B9,y9,rfl⟩:=WW hv9;have h49:=hk9.blk (Awk _ m4) H48.out rfl;have x0:=h49.cell 0;have x1:=h49.cell 1;simp only[AwH,Awx,Awu]at x0 x1;have x2:=h49.lt)
    | (go_at_call 159
       refine(TQ dq G (HB8.out.kp hk9) (by omega) [.ls q0,bv q1,.ls q2] (.slice A9 q0.length z9) (.bool q1) (.slice B9 q2.length y9) hv9 rfl sm gsame).mono ?_;rintro e w10 ⟨own',gs',v',gl,rfl,hgl,hb10,hx10,hold,hlen10,hkeep⟩;have hq4:=hkeep (w.heap.size+1) (Awk _ m4) (by have:=HLB.out;omega) (λe=>by have:=HLR.out _ e;omega);have h410:=hq4.2 _ _ h49 rfl;have x0:=h410.cell 0;have x1:=h410.cell 1;simp only[AwH,Awx,Awu]at x0 x1;have x2:=h410.lt;unfold GS)
    | (go_at_call 162
       refine(GN (G _) hb10 hgl hxi gmost rfl hyl hyn (us:=[.agg #[.bool kn,.slice A2 ka.length z2]]) (RoL.cons (Ro.agg ((IK HR2.out).xt (HX8.out.trans (hk9.xt.trans hx10)))) (RoL.nil _ _))).mono ?_;rintro e w11 ⟨u11,rfl,hb11,hq11,hu11⟩;obtain⟨us11,rfl,hv11⟩:=Ro.tup_inv hu11;obtain rfl:=RoL.nil_inv hv11))
   all_goals
    have HB11:=ι hb11;have HX11:=ι (HX8.out.trans ((hk9.xt.trans hx10).trans hq11.xt));clear hb11 hq11 hu11 hv11 hk9 hx10 hb10;subst hend
    go_wp2
    go_end0
    exact⟨own',gs',v',rfl,HB11.out,HX2.out.trans HX11.out,hlen10⟩
