/- A region that draws its -/
import Derived.Test.YtpncilciembjdaaGreatDoorJAN
import Derived.OrdersHeld
import Derived.StillTail
import Derived.Test.YtpncilciembjdaaGreatDoorJBC
import Derived.ProofKit
import Derived.Maps.AppendAt
import Derived.Deep.RegionWith
set_option linter.all false
open Array renaming getElem?_eq_getElem->Atf,getElem?_toList->AtB
open Bool renaming false->Ξ
open List renaming all_eq_true->Atr,getElem?_cons_zero->Aty,getElem?_eq_getElem->δ,getElem?_take->AtC,getElem?_toArray->AtF,getElem_append_left->AvA,getElem_mem->Ats,length_append->γ,mem_append->AtW,mem_cons->Atd,mem_cons_of_mem->Atj,mem_cons_self->Atq,mem_filter->Auk,mem_singleton->AtX,nodup_cons->AvH,take_zero->Au6
open Nat renaming le_refl->η,lt_irrefl->AuE,lt_of_lt_of_le->At4,zero_le->AtI
open Option renaming none->Θ,some->Δ
namespace Go.Proofs.YtpncilciembjdaaGreatDoor
open Lib renaming hid->κ
open Tryz renaming prog->ζ
open Go.RowKit
def Iv(w w':World)(k:Nat):Prop:=w.heap.size<=k/\k<w'.heap.size
structure Jmp (F:Nat->Prop) (w w':World):Prop where
 os:w'.os=w.os
 tape:w'.tape=w.tape
 output:w'.output=w.output
 size:w.heap.size<=w'.heap.size
 keep:∀ k,F k->w'.heap[k]? = w.heap[k]?
section
variable {F G:Nat->Prop} {w w1 w2:World}
theorem Jmp.refl(F:Nat->Prop)(w:World):Jmp F w w:=⟨rfl,rfl,rfl,η _,λ_ _=>rfl⟩
theorem Jmp.trans(h:Jmp F w w1)(k:Jmp F w1 w2):Jmp F w w2:=⟨k.os.trans h.os,k.tape.trans h.tape,k.output.trans h.output,Nat.le_trans h.size k.size,λi hi=>(k.keep i hi).trans (h.keep i hi)⟩
theorem Jmp.less(h:Jmp F w w1)(hs:∀ k,G k->F k):Jmp G w w1:=⟨h.os,h.tape,h.output,h.size,λi hi=>h.keep i (hs i hi)⟩
theorem Jmp.below(h:Jmp (Lt w.heap.size) w w1):Below w.heap.size w w1:=⟨h.os,h.tape,h.output,h.size,λi hi=>h.keep i hi⟩
theorem Jmp.of_below{B:Nat}(h:Below B w w1)(hF:∀ k,F k->k<B):Jmp F w w1:=⟨h.os,h.tape,h.output,h.size,λi hi=>h.block i (hF i hi)⟩
end
section
variable {P:Program} {md:Region.Mode} {ops:Array Oper} {QX:Exit->Act->World->Prop} {Q:Array Bool->(Nat->Prop)->Act->World->Prop}
def wpJ(P:Program)(md:Region.Mode)(ops:Array Oper)(QX:Exit->Act->World->Prop)(Q:Array Bool->(Nat->Prop)->Act->World->Prop):Nat->Array Bool->(Nat->Prop)->Act->World->Prop
 |0,listed,F,a,w=>Region.ready md ops listed=[]/\∀ w',Jmp F w w'->Q listed F a w'
 |n+1,listed,F,a,w=>(Region.ready md ops listed=[]->∀ w',Jmp F w w'->Q listed F a w') ∧
  ∀ i∈Region.ready md ops listed,∀ w',Jmp F w w'->wpOp P ops QX i (λa2 w2=>Below w'.heap.size w' w2/\wpJ P md ops QX Q n (listed.setIfInBounds i true) (λk=>F k\/Iv w' w2 k) a2 w2) a w'
theorem wpJ.jump{n:Nat}{listed:Array Bool}{F:Nat->Prop}{a:Act}{w w':World}(h:wpJ P md ops QX Q n listed F a w)(hj:Jmp F w w'):wpJ P md ops QX Q n listed F a w':=by
 cases n with
 |zero=>exact⟨h.1,λw2 h2=>h.2 w2 (hj.trans h2)⟩
 |succ n=>exact⟨λh0 w2 h2=>h.1 h0 w2 (hj.trans h2),λi hi w2 h2=>h.2 i hi w2 (hj.trans h2)⟩
theorem Jmp.grow{F:Nat->Prop}{w w':World}(hF:∀ k,F k->k<w.heap.size)(h:Jmp F w w'):∀ k,F k->k<w'.heap.size:=λk hk=>At4 (hF k hk) h.size
theorem Jmp.cell{F:Nat->Prop}{w w':World}(h:Jmp F w w'){b:Nat}(o:Nat)(hb:F b):w'.cell? ⟨b,o,Θ⟩=w.cell? ⟨b,o,Θ⟩:=World.cell?_of_block (a:=⟨b,o,Θ⟩) (h.keep b hb)
theorem Jmp.from{F:Nat->Prop}{w w1 w2:World}(h:Jmp F w w1)(hb:Below w1.heap.size w1 w2)(hF:∀ k,F k->k<w1.heap.size):Jmp F w w2:=h.trans (Jmp.of_below hb hF)
theorem Jmp.laid{F:Nat->Prop}{v w1 w2:World}(k:Jmp (λk=>F k\/Iv v w1 k) w1 w2){b:Nat}(h1:v.heap.size<=b)(h2:b<w1.heap.size):w2.heap[b]? = w1.heap[b]?:=k.keep b (.inr ⟨h1,h2⟩)
end
section
open Go.RowKit
variable [S:Side]
def FR(g:Nat):Value:=.pointer (Δ ⟨g,0,Θ⟩)
theorem Kp.row{own:Ae}{w w':World}{base size:Nat}{e:TypeId}{v:Value}{n:Nat}{xs:AA}(h:Kp own w w')(ho:w.ownsRow base e size v n xs)(hm:∀ g,v.ownBlock=Δ g->g∈own)(hf:xs.all B4=true):w'.ownsRow base e size v n xs:=by
 obtain⟨hl,ho⟩:=ho;refine⟨hl,?_⟩;rcases ho with h0|⟨g,cap,cur,rfl,hg,hcur,hn,hm2,hsz,htk⟩
 .exact .inl h0
 .obtain⟨c',h1,h2,h3⟩:=h.mine g (hm g rfl) e cur hcur
  refine .inr ⟨g,cap,c',rfl,hg,h1,hn,hm2,h2.trans hsz,?_⟩;rw[←htk]at hf ⊢;apply List.ext_getElem?;intro i;rw[AtC,AtC]
  by_cases hi:i<n*size
  .rw[Ac hi,Ac hi,AtB,AtB]
   have hc:i<cur.size:=by rw[hsz];exact At4 hi (Nat.mul_le_mul_right _ hn)
   rw[Atf hc];refine h3 i _ (Atf hc) (Atr.1 hf _ (List.mem_of_getElem? (i:=i) ?_));rw[AtC,Ac hi,AtB,Atf hc]
  .rw[Ad hi,Ad hi]
theorem Kp.drew(own:Ae)(w:World):Kp own w w.drew:=⟨rfl,rfl,rfl,η _,Lo λ_ _ _=>rfl,λ_ _ _ cs h=>⟨cs,h,rfl,λ_ _ h _=>h⟩,λh=>h.exact (η _) (λ_ _ _=>rfl) λ_ h=>.inl h⟩
def LineAt(own:Ae)(w:World)(g:Nat)(x:Aa):Prop:=∃ c0 c1 c2 c3 c4 c5 c6 c7 c8:Value,Blk w g 157 #[c0,c1,c2,c3,c4,c5,c6,c7,c8]/\[c0,c1,c2,c3,c4,c5,c6,c7,c8].all B4=true/\RoL own w x [c0,c1,c2,c3,c4,c5,c6,c7,c8]
structure Book (own:Ae) (w:World) (bk:Nat) (gs:Ae) (ls:Rw) (v:Value):Prop where
 mine:Mine own w
 bkm:bk∈own
 box:Blk w bk 107 #[v]
 row:w.ownsRow 0 109 1 v gs.length (gs.map FR)
 rowm:∀ g,v.ownBlock=Δ g->g∈own/\g≠bk/\g∉gs
 len:ls.length=gs.length
 gm:∀ g∈gs,g∈own/\g≠bk
 nd:gs.Nodup
 line:∀(i:Nat) (h:i<gs.length) (h':i<ls.length),LineAt own w gs[i] ls[i]
theorem Pm(gs:Ae):(gs.map FR).all B4=true:=by
 rw[Atr];intro x hx;obtain⟨g,_,rfl⟩:=List.mem_map.1 hx;rfl
theorem R7{w:World}{base size:Nat}{e:TypeId}{v:Value}{n:Nat}{xs:AA}(ho:w.ownsRow base e size v n xs):B4 v=true:=by
 rcases ho.2 with⟨rfl,_⟩|⟨g,cap,cur,rfl,_⟩<;>rfl
section
variable {own own':Ae} {w w':World} {bk:Nat} {gs:Ae} {ls:Rw} {v:Value}
theorem LineAt.kp{g:Nat}{x:Aa}(h:LineAt own w g x)(k:Kp own w w')(hg:g∈own):LineAt own w' g x:=by
 obtain⟨c0,c1,c2,c3,c4,c5,c6,c7,c8,h1,h2,h3⟩:=h;exact⟨c0,c1,c2,c3,c4,c5,c6,c7,c8,k.blk hg h1 h2,h2,h3.xt k.xt⟩
theorem LineAt.ext{g:Nat}{x:Aa}(h:LineAt own w g x)(k:Xt own own' w w')(hg:w'.heap[g]? = w.heap[g]?):LineAt own' w' g x:=by
 obtain⟨c0,c1,c2,c3,c4,c5,c6,c7,c8,h1,h2,h3⟩:=h;exact⟨c0,c1,c2,c3,c4,c5,c6,c7,c8,hg.trans h1,h2,h3.xt k⟩
theorem Book.kp(h:Book own w bk gs ls v)(k:Kp own w w'):Book own w' bk gs ls v:=
 ⟨h.mine.kp k,h.bkm,k.blk h.bkm h.box (by simp[R7 h.row]),k.row h.row (λg hg=>(h.rowm g hg).1) (Pm gs),h.rowm,h.len,h.gm,h.nd,λi h1 h2=>(h.line i h1 h2).kp k (h.gm _ (Ats h1)).1⟩
theorem J7{base size:Nat}{e:TypeId}{n:Nat}{xs:AA}(ho:w.ownsRow base e size v n xs)(hk:∀ g,v.ownBlock=Δ g->w'.heap[g]? = w.heap[g]?):w'.ownsRow base e size v n xs:=by
 obtain⟨hl,ho⟩:=ho;refine⟨hl,?_⟩;rcases ho with h0|⟨g,cap,cur,rfl,hg,hcur,hn,hm2,hsz,htk⟩
 .exact .inl h0
 .exact .inr ⟨g,cap,cur,rfl,hg,(hk g rfl).trans hcur,hn,hm2,hsz,htk⟩
theorem Book.ext(h:Book own w bk gs ls v)(hm:Mine own' w')(hs:∀ g∈own,g∈own')(hx:Xt own own' w w')(hk:∀ g∈own,w'.heap[g]? = w.heap[g]?):Book own' w' bk gs ls v:=
 ⟨hm,hs _ h.bkm,(hk _ h.bkm).trans h.box,J7 h.row λg hg=>hk g (h.rowm g hg).1,λg hg=>⟨hs _ (h.rowm g hg).1,(h.rowm g hg).2⟩,h.len,λg hg=>⟨hs _ (h.gm g hg).1,(h.gm g hg).2⟩,h.nd,λi h1 h2=>(h.line i h1 h2).ext hx (hk _ (h.gm _ (Ats h1)).1)⟩
theorem Book.alloc(h:Book own w bk gs ls v)(T:TypeId)(cs:Array Value):Book (w.heap.size::own) (w.alloc (.cells cs T)) bk gs ls v:=
 h.ext (h.mine.alloc T cs) (λg hg=>Atj _ hg) (Xt.alloc own w _) λg hg=>Below.heap_alloc _ _ _ (h.mine.lt hg)
theorem Book.cell(h:Book own w bk gs ls v){k:Nat}(hk:k<gs.length):∃ g cap,v=.slice (Δ ⟨g,0,Θ⟩) gs.length cap/\g<w.heap.size/\w.cell? ⟨g,k,Θ⟩=Δ (FR gs[k]):=by
 obtain⟨hl,ho⟩:=h.row;rcases ho with⟨_,h0⟩|⟨g,cap,cur,rfl,hg,hcur,hn,hm2,hsz,htk⟩
 .omega
 .refine⟨g,cap,rfl,C7 (o:=k) (u:=FR gs[k]) ?_,?_⟩ <;>
  .rw[cell_of_row w g k cur _ (0,0) hcur]
   have h1:(gs.map FR)[k]? = Δ (FR gs[k]):=by rw[List.getElem?_map,δ hk];rfl
   rw[←htk,AtC,Ac (by omega),AtB]at h1;exact h1
end
theorem Book.push{own:Ae}{wr w7:World}{bk:Nat}{gs:Ae}{ls:Rw}{v v':Value}(h:Book own wr bk gs ls v){c0 c1 c2 c3 c4 c5 c6 c7 c8:Value}(hf:[c0,c1,c2,c3,c4,c5,c6,c7,c8].all B4=true){x:Aa}(hx:RoL own wr x [c0,c1,c2,c3,c4,c5,c6,c7,c8]){T2:TypeId}{n2:Array Value}
  (hown:w7.ownsRow 0 109 1 v' (gs.length+1) (gs.map FR++[FR wr.heap.size]))
  (hgrow:((wr.alloc (.cells #[c0,c1,c2,c3,c4,c5,c6,c7,c8] 157)).alloc (.cells n2 T2)).grownBy w7 v.ownBlock)
  (hloc:v'.ownBlock=v.ownBlock\/v'.ownBlock=Δ (wr.heap.size+2)) :
  ∃ own',Book own' (w7.setCell ⟨bk,0,Θ⟩ v') bk (gs++[wr.heap.size]) (ls++[x]) v'/\Xt own own' wr (w7.setCell ⟨bk,0,Θ⟩ v')/\∀ k∈own,k≠bk->v.ownBlock≠Δ k->k∈own'/\(w7.setCell ⟨bk,0,Θ⟩ v').heap[k]? = wr.heap[k]?:=by
 have hsz:((wr.alloc (.cells #[c0,c1,c2,c3,c4,c5,c6,c7,c8] 157)).alloc (.cells n2 T2)).heap.size=wr.heap.size+2:=by simp
 have old:∀ g,g<wr.heap.size->v.ownBlock≠Δ g->w7.heap[g]? = wr.heap[g]?:=λg hg hr=>by
  refine(hgrow.block g (by omega) λe=>hr e.symm).trans ?_;refine(Below.heap_alloc _ _ _ (by simp;omega)).trans (Below.heap_alloc _ _ _ hg)
 have new:w7.heap[wr.heap.size]? = Δ (.cells #[c0,c1,c2,c3,c4,c5,c6,c7,c8] 157 (0,0)):=by
  refine(hgrow.block _ (by omega) λe=>?_).trans ((Below.heap_alloc _ _ _ (by simp)).trans (heap_alloc_new _ _));exact AuE _ (h.mine.lt (h.rowm _ e.symm).1)
 obtain⟨rg,rcap,rcur,hv',_,hrc,_⟩:∃ g cap cur,v'=.slice (Δ ⟨g,0,Θ⟩) (gs.length+1) cap/\0<=g/\w7.heap[g]? = Δ (.cells cur 109 (0,0))/\gs.length+1<=cap:=by
  rcases hown.2 with⟨_,h0⟩|⟨g,cap,cur,h1,h2,h3,h4,_⟩
  .omega
  .exact⟨g,cap,cur,h1,h2,h3,h4⟩
 have hro:v'.ownBlock=Δ rg:=by rw[hv'];rfl
 have hbk:bk<wr.heap.size:=h.mine.lt h.bkm;have hbr:v.ownBlock≠Δ bk:=λe=>(h.rowm _ e).2.1 rfl
 have hwsz:wr.heap.size+2<=w7.heap.size:=by have:=hgrow.size;omega
 have sets:∀ g,g≠bk->(w7.setCell ⟨bk,0,Θ⟩ v').heap[g]? = w7.heap[g]?:=λg hg=>Below.heap_setCell _ _ _ _ hg
 have hgs:∀ g∈gs,(w7.setCell ⟨bk,0,Θ⟩ v').heap[g]? = wr.heap[g]?:=λg hg=>(sets g (h.gm g hg).2).trans (old g (h.mine.lt (h.gm g hg).1) λe=>(h.rowm _ e).2.2 hg)
 have hbox:Blk (w7.setCell ⟨bk,0,Θ⟩ v') bk 107 #[v']:=by
  have:Blk w7 bk 107 #[v]:=(old bk hbk hbr).trans h.box;exact this.set_ 0 v'
 have hrow:(w7.setCell ⟨bk,0,Θ⟩ v').ownsRow 0 109 1 v' (gs++[wr.heap.size]).length ((gs++[wr.heap.size]).map FR):=by
  rw[γ,List.map_append];refine J7 hown λg hg=>sets g λe=>?_
  subst e;rcases hloc with h1|h1
  .exact hbr (h1.symm.trans hg)
  .have:=h1.symm.trans hg
   injection this with this
   omega
 have xt:∀ own',(∀ g∈own',g∈own\/wr.heap.size<=g)->Xt own own' wr (w7.setCell ⟨bk,0,Θ⟩ v'):=λown' hm=>
  .exact hgrow.os hgrow.tape hgrow.output (by simp[World.setCell];omega) (λg hg hn=>(sets g λe=>hn (e▸h.bkm)).trans (old g hg λe=>hn (h.rowm _ e).1)) hm
 have sd7:∀ own',(∀ g∈own',g∈own\/wr.heap.size<=g)->Sd own' w7:=λown' hm=>h.mine.sd.exact (by omega) (λg hg hn=>old g hg λe=>hn (h.rowm _ e).1) hm
 have fin:∀ own',Mine own' w7->(∀ g∈own',g∈own\/wr.heap.size<=g)->(∀ g∈own,v.ownBlock≠Δ g->g∈own')->wr.heap.size∈own'->rg∈own'->rg≠bk->rg∉gs->rg≠wr.heap.size->
   Book own' (w7.setCell ⟨bk,0,Θ⟩ v') bk (gs++[wr.heap.size]) (ls++[x]) v':=λown' hm h1 h2 h3 h4 h5 h6 h7=>by
  refine⟨hm.set (h2 _ h.bkm hbr) _ _,h2 _ h.bkm hbr,hbox,hrow,λg hg=>?_,by rw[γ,γ,h.len];rfl,λg hg=>?_,?_,λi hi hi'=>?_⟩
  .rw[hro]at hg
   injection hg with hg
   subst hg;refine⟨h4,h5,λhmem=>?_⟩;rcases AtW.1 hmem with h8|h8
   .exact h6 h8
   .exact h7 (AtX.1 h8)
  .rcases AtW.1 hg with h8|h8
   .exact⟨h2 _ (h.gm g h8).1 λe=>(h.rowm _ e).2.2 h8,(h.gm g h8).2⟩
   .obtain rfl:=AtX.1 h8
    exact⟨h3,by omega⟩
  .refine List.nodup_append.2 ⟨h.nd,by simp,λa ha b hb=>?_⟩
   obtain rfl:=AtX.1 hb;have:=h.mine.lt (h.gm a ha).1;omega
  .have hl:=h.len
   by_cases hi2:i<gs.length
   .rw[AvA hi2,AvA (by omega)]
    exact(h.line i hi2 (by omega)).ext (xt own' h1) (hgs _ (Ats hi2))
   .have e1:i=gs.length:=by simp at hi;omega
    subst e1;have e2:(gs++[wr.heap.size])[gs.length]=wr.heap.size:=by simp
    have e3:(ls++[x])[gs.length]=x:=by simp[←hl]
    rw[e2,e3];exact⟨c0,c1,c2,c3,c4,c5,c6,c7,c8,(sets _ (by omega)).trans new,hf,hx.xt (xt own' h1)⟩
 rcases hloc with h1|h1
 .have hrg:v.ownBlock=Δ rg:=h1.symm.trans hro
  have hr:=h.rowm _ hrg;have hone:∀ g∈wr.heap.size::own,g∈own\/wr.heap.size<=g:=λg hg=>by
   rcases Atd.1 hg with rfl|hg
   .exact .inr (η _)
   .exact .inl hg
  refine⟨wr.heap.size::own,fin _ ⟨AvH.2 ⟨λhm=>AuE _ (h.mine.lt hm),h.mine.nd⟩,λg hg=>?_,sd7 _ hone⟩ (λg hg=>?_) (λg hg _=>Atj _ hg) (Atq ..) (Atj _ hr.1) hr.2.1 hr.2.2 (Nat.ne_of_lt (h.mine.lt hr.1)),xt _ λg hg=>?_,λk hk hkb hkr=>⟨Atj _ hk,(sets k hkb).trans (old k (h.mine.lt hk) hkr)⟩⟩
  .rcases Atd.1 hg with rfl|hg
   .exact⟨_,_,new⟩
   .by_cases e:g=rg
    .subst e
     exact⟨_,_,hrc⟩
    .obtain⟨T,cs,hb⟩:=h.mine.all g hg
     exact⟨T,cs,(old g (h.mine.lt hg) λe'=>e (by rw[hrg]at e';injection e' with e';exact e'.symm)).trans hb⟩
  .rcases Atd.1 hg with rfl|hg
   .exact .inr (η _)
   .exact .inl hg
  .rcases Atd.1 hg with rfl|hg
   .exact .inr (η _)
   .exact .inl hg
 .have hrg:rg=wr.heap.size+2:=by rw[hro]at h1;injection h1
  subst hrg;have hsub:∀ g,g∈(wr.heap.size+2)::wr.heap.size::own.filter (λg=>decide (v.ownBlock≠Δ g))->g=wr.heap.size+2\/g=wr.heap.size\/(g∈own/\v.ownBlock≠Δ g):=λg hg=>by
   simpa[Auk]using hg
  have hone:∀ g,g∈(wr.heap.size+2)::wr.heap.size::own.filter (λg=>decide (v.ownBlock≠Δ g))->g∈own\/wr.heap.size<=g:=λg hg=>by
   rcases hsub g hg with rfl|rfl|h2
   .exact .inr (by omega)
   .exact .inr (η _)
   .exact .inl h2.1
  have hlt:∀ g∈own.filter (λg=>decide (v.ownBlock≠Δ g)),g<wr.heap.size:=λg hg=>h.mine.lt (Auk.1 hg).1
  refine⟨_,fin ((wr.heap.size+2)::wr.heap.size::own.filter (λg=>decide (v.ownBlock≠Δ g))) ⟨?_,λg hg=>?_,sd7 _ hone⟩ hone (λg hg hr=>?_) (by simp) (by simp) (by omega) (λhm=>?_) (by omega),xt _ hone,λk hk hkb hkr=>⟨by simp[Auk,hk,hkr],(sets k hkb).trans (old k (h.mine.lt hk) hkr)⟩⟩
  .refine AvH.2 ⟨λhm=>?_,AvH.2 ⟨λhm=>?_,h.mine.nd.filter _⟩⟩
   .rcases Atd.1 hm with h2|h2
    .omega
    .have:=hlt _ h2;omega
   .have:=hlt _ hm;omega
  .rcases hsub g hg with rfl|rfl|h2
   .exact⟨_,_,hrc⟩
   .exact⟨_,_,new⟩
   .obtain⟨T,cs,hb⟩:=h.mine.all g h2.1
    exact⟨T,cs,(old g (h.mine.lt h2.1) h2.2).trans hb⟩
  .simp[Auk,hg,hr]
  .have:=h.mine.lt (h.gm _ hm).1
   omega
def EW:Aa:=[bv Ξ,.ls [],bv Ξ,.ls [],bv Ξ,bv Ξ]
def EQ(sm:Aa->Bool)(ls:Rw)(new:Aa):Rw:=if ls.findIdx sm<ls.length then ls else ls++[new]
theorem M6{w:World}{g:Nat}{T:TypeId}{a b c:Value}(h:Blk w g T #[a,b,c]):w.cell? ⟨g,0,Θ⟩=Δ a/\w.cell? ⟨g,1,Θ⟩=Δ b/\w.cell? ⟨g,2,Θ⟩=Δ c:=⟨h.cell 0,h.cell 1,h.cell 2⟩
theorem Xh{w:World}{g:Nat}{T:TypeId}{a b c d e f x y z:Value}(h:Blk w g T #[a,b,c,d,e,f,x,y,z]):w.cell? ⟨g,0,Θ⟩=Δ a/\w.cell? ⟨g,1,Θ⟩=Δ b/\w.cell? ⟨g,2,Θ⟩=Δ c:=⟨h.cell 0,h.cell 1,h.cell 2⟩
theorem Th{own:Ae}{w:World}:∀{xs:Aa} {us:AA} (n:Nat),RoL own w xs us->RoL own w (xs.take n) (us.take n)
 |_,_,0,_=>by rw[Au6,Au6];exact RoL.nil _ _
 |[],us,n+1,h=>by
  obtain rfl:=RoL.nil_inv h;exact RoL.nil _ _
 |x::xs,us,n+1,h=>by
  obtain⟨u,t,rfl,h1,h2⟩:=RoL.cons_inv h;exact RoL.cons h1 (Th n h2)
theorem Q0{own:Ae}{w:World}:∀{xs:Aa} {us:AA} {ys:Aa} {vs:AA},RoL own w xs us->RoL own w ys vs->RoL own w (xs++ys) (us++vs)
 |[],us,ys,vs,h,h2=>by
  obtain rfl:=RoL.nil_inv h;exact h2
 |x::xs,us,ys,vs,h,h2=>by
  obtain⟨u,t,rfl,h1,h3⟩:=RoL.cons_inv h;exact RoL.cons h1 (Q0 h3 h2)
theorem Ab2{own:Ae}{w:World}:Ro own w (.ls []) (.slice Θ 0 0):=by
 unfold Ro;simp only[Rep];exact⟨rfl,Θ,0,rfl,η _,AtI _,λh=>absurd rfl h⟩
theorem Aif{own:Ae}{w:World}{p:Aa}{u0 u1 u2:Value}(h:RoL own w p [u0,u1,u2]):RoL own w (p++EW) [u0,u1,u2,.bool Ξ,.slice Θ 0 0,.bool Ξ,.slice Θ 0 0,.bool Ξ,.bool Ξ]:=
 Q0 h (RoL.cons (Ro.v rfl) (RoL.cons Ab2 (RoL.cons (Ro.v rfl) (RoL.cons Ab2 (RoL.cons (Ro.v rfl) (RoL.cons (Ro.v rfl) (RoL.nil _ _)))))))
set_option maxHeartbeats 4000000 in
set_option maxRecDepth 100000 in
theorem R5(dq:Nat->DF)(G:∀ f,A1 (Bi ζ f) (dq f)){own:Ae}{w:World}{bk:Nat}{gs:Ae}{ls:Rw}{v:Value}(hB:Book own w bk gs ls v)(hlen:gs.length<=1000000)(p:Aa)(u0 u1 u2:Value)(hp:RoL own w p [u0,u1,u2])(hf:[u0,u1,u2].all B4=true)
  (sm:Aa->Bool) (hS:∀ x∈ls,dq 213 [.agg (x.take 3),.agg p] []=Δ (bv (sm x),[])) :
  Calls ζ 159 #[FR bk,.agg #[u0,u1,u2]] w λe w'=>∃ own' gs' v' g,e=.returned (FR g)/\gs'[ls.findIdx sm]? = Δ g/\Book own' w' bk gs' (EQ sm ls (p++EW)) v'/\Xt own own' w w'/\(∀ k∈gs',k<w.heap.size->k∈gs)/\gs'.length<=gs.length+1/\∀ k∈own,k≠bk->v.ownBlock≠Δ k->k∈own'/\∀ T cs,Blk w k T cs->cs.toList.all B4=true->Blk w' k T cs:=by
 obtain⟨A,cap,rfl⟩:=FQ hB.row;have HB:=κ hB;have HP:=κ hp;have HF:=κ hf;have HS:=κ hS;have l0:bk<w.heap.size:=hB.box.lt;have e0:=hB.box.cell 0;simp only[AtF,Aty]at e0;clear hB hp hf hS;unfold FR
 go_enter Tryz.func159,Tryz.ntmps159
 go_wp2_with fail
 go_loopw [13] (λq wr=>∃ k:Nat,k<=gs.length/\q=.int .i64 k/\Book (w.heap.size::own) wr bk gs ls (.slice A gs.length cap)/\Blk wr w.heap.size 28 #[u0,u1,u2]/\RoL (w.heap.size::own) wr p [u0,u1,u2]/\Xt own (w.heap.size::own) w wr/\(∀ k∈own,∀ T cs,Blk w k T cs->cs.toList.all B4=true->Blk wr k T cs)/\∀ j (h:j<ls.length),j<k->sm ls[j]=Ξ) (λq _=>gs.length-(intOf q).toNat)
 case atStart=>exact⟨0,AtI _,rfl,HB.out.alloc _ _,Blk.new _ _ _,HP.out.xt (Xt.alloc own w _),Xt.alloc own w _,λk _ T cs h _=>h.alloc _,λj _ h=>absurd h (Nat.not_lt_zero _)⟩
 case round=>
  obtain⟨k,hk,rfl,hb,hbx,hpr,hxt,hkp,hno⟩:=hrel;have HKP:=κ hkp;clear hkp;have HBK:=κ hb;have HBX:=κ hbx;have HPR:=κ hpr;have HXT:=κ hxt;have HNO:=κ hno;clear hb hbx hpr hxt hno
  by_cases hlt:k<gs.length
  .have hlt':k<ls.length:=by rw[HBK.out.len];exact hlt
   obtain⟨g,cap',hv,hgl,hc⟩:=HBK.out.cell hlt;injection hv with hA _ hcap
   subst hA hcap;obtain⟨c0,c1,c2,c3,c4,c5,c6,c7,c8,hlb,hlf,hlr⟩:=HBK.out.line k hlt hlt';have z0:(0:Int)<=(k:Int):=by omega
   have z1:(k:Int)<(gs.length:Int):=by omega
   have hgk:gs[k]<wr.heap.size:=hlb.lt;obtain⟨x0,x1,x2⟩:=Xh hlb;obtain⟨y0,y1,y2⟩:=M6 HBX.out;have y3:=HBX.out.lt;have HLR:=κ hlr;have hsame:=HS.out ls[k] (Ats hlt');clear hlb hlf hlr;unfold FR at hc
   go_wp2_with fail
   go_region_with (go_at_call 213;refine(Bw (G _) hsame rfl (HBK.out.mine.kp (Kp.drew _ _)) (us:=[.agg #[c0,c1,c2],.agg #[u0,u1,u2]]) (RoL.cons (Ro.agg ((Th 3 HLR.out).xt (Kp.drew _ _).xt)) (RoL.cons (Ro.agg (HPR.out.xt (Kp.drew _ _).xt)) (RoL.nil _ _)))).mono ?_;rintro e w4 ⟨u,rfl,hk4,hu⟩;obtain rfl:=Rp.bool_inv hu.rp)
   all_goals
    have HK4:=κ ((Kp.drew _ _).trans hk4);clear hk4 hu x0 x1 x2 y0 y1 y2 y3 hsame hc
    cases hs:sm ls[k]with
    |true=>
     have hfi:ls.findIdx sm=k:=(List.findIdx_eq hlt').2 ⟨hs,λj hj=>HNO.out j (by omega) hj⟩
     go_wp2
     go_ret
     refine⟨w.heap.size::own,gs,.slice (Δ ⟨g,0,Θ⟩) gs.length cap,gs[k],rfl,by rw[hfi];exact δ hlt,?_,HXT.out.trans HK4.out.xt,λ_ h _=>h,Nat.le_succ _,λk' hk' _ _=>⟨Atj _ hk',λT cs hb hf=>HK4.out.blk (Atj _ hk') (HKP.out k' hk' T cs hb hf) hf⟩⟩;unfold EQ;rw[hfi,Ac hlt'];exact HBK.out.kp HK4.out
    |false=>
     go_wp2_with fail
     go_roundw
     case rel=>
      refine⟨k+1,hlt,by go_num,HBK.out.kp HK4.out,HK4.out.blk (Atq ..) HBX.out HF.out,HPR.out.xt HK4.out.xt,HXT.out.trans HK4.out.xt,λk' hk' T cs hb hf=>HK4.out.blk (Atj _ hk') (HKP.out k' hk' T cs hb hf) hf,λj h hj=>?_⟩;rcases Nat.lt_or_ge j k with h1|h1
      .exact HNO.out j h h1
      .obtain rfl:j=k:=by omega
       exact hs
     case measure=>simp[intOf];omega
  .obtain rfl:k=gs.length:=by omega
   have z1:¬ (gs.length:Int)<(gs.length:Int):=by omega
   obtain⟨y0,y1,y2⟩:=M6 HBX.out;have y3:=HBX.out.lt;have x0:=HBK.out.box.cell 0;have x1:=HBK.out.box.lt;simp only[AtF,Aty]at x0;have hfi:ls.findIdx sm=ls.length:=List.findIdx_eq_length.2 λx hx=>by
    obtain⟨j,hj,rfl⟩:=List.getElem_of_mem hx;exact HNO.out j hj (by rw[←HBK.out.len];exact hj)
   have HFI:=κ hfi;clear hfi;obtain⟨i0,hi0,hz0,hz1,hz2⟩:=info_parts (show (Tryz.prog.info? 109).map (λi=>(i.zero,i.size,i.bytes))=Δ (Δ (.pointer Θ),1,8) by kernel_rfl)
   go_wp2_with (at_builtin;refine wpList_append_own_at _ rfl _ _ 105 rfl 0 109 i0 (.pointer Θ) 1 8 Tryz.underlying105 hi0 hz0 hz1 hz2 rfl (by decide) _ gs.length (gs.map FR) rfl ?c0 ⟨wr.heap.size+1,0,Θ⟩ 1 1 [FR wr.heap.size] rfl rfl ?c1 ?c2 ?c3 ?c4 ?c5 ?_)
   case c0=>exact J7 HBK.out.row λg hg=>(Below.heap_alloc _ _ _ (by have:=HBK.out.mine.lt (HBK.out.rowm g hg).1;simp;omega)).trans (Below.heap_alloc _ _ _ (HBK.out.mine.lt (HBK.out.rowm g hg).1))
   case c1=>exact λ_ _ h=>h
   case c2=>rfl
   case c3=>unfold maxLen;omega
   case c4=>omega
   intro v' w7 hown hgrow _ hloc;obtain⟨A',cap',rfl⟩:=FQ hown;have hu3:[u0,u1,u2].all B4=true:=HF.out;obtain⟨own',hbk',hxt',hkk'⟩:=HBK.out.push (c0:=u0) (c1:=u1) (c2:=u2) (c3:=.bool Ξ) (c4:=.slice Θ 0 0) (c5:=.bool Ξ) (c6:=.slice Θ 0 0) (c7:=.bool Ξ) (c8:=.bool Ξ) (x:=p++EW) (by
    simp only[List.all_cons,List.all_nil,Bool.and_true,Bool.and_eq_true]at hu3 ⊢;exact⟨hu3.1,hu3.2.1,hu3.2.2,rfl,rfl,rfl,rfl,rfl,rfl⟩) (Aif HPR.out) hown hgrow (by simpa using hloc)
   have hbf:Book own' (w7.setCell ⟨bk,0,Θ⟩ (.slice A' (gs.length+1) cap')) bk (gs++[wr.heap.size]) (EQ sm ls (p++EW)) (.slice A' (gs.length+1) cap'):=by
    unfold EQ;rw[HFI.out,Ad (AuE _)];exact hbk'
   have HBKF:=hbf;have HXT':=κ hxt';have HKK:=κ hkk';clear hkk';have k0:w7.cell? ⟨bk,0,Θ⟩=Δ (.slice A gs.length cap):=by
    have h1:Blk w7 bk 107 #[.slice A gs.length cap]:=by
     refine(hgrow.block bk (by simp;omega) λe=>(HBK.out.rowm _ e.symm).2.1 rfl).trans ?_;exact(Below.heap_alloc _ _ _ (by simp;omega)).trans ((Below.heap_alloc _ _ _ x1).trans HBK.out.box)
    exact h1.cell 0
   have k1:w7.frozen? ⟨bk,0,Θ⟩=Ξ:=by
    have h1:Blk w7 bk 107 #[.slice A gs.length cap]:=by
     refine(hgrow.block bk (by simp;omega) λe=>(HBK.out.rowm _ e.symm).2.1 rfl).trans ?_;exact(Below.heap_alloc _ _ _ (by simp;omega)).trans ((Below.heap_alloc _ _ _ x1).trans HBK.out.box)
    exact h1.frozen 0
   clear hown hgrow hloc hbk' hbf hxt' hu3 x0 x1 y0 y1 y2 y3
   go_wp2
   go_ret
   refine⟨own',gs++[wr.heap.size],_,wr.heap.size,rfl,?_,HBKF,HXT.out.trans HXT'.out,λk' hk' hl'=>by
    rcases AtW.1 hk' with h8|h8
    .exact h8
    .have:=HXT.out.size
     have:=AtX.1 h8;omega,by simp,λk' hk' h1 h2=>⟨(HKK.out k' (Atj _ hk') h1 h2).1,λT cs hb hf=>(HKK.out k' (Atj _ hk') h1 h2).2.trans (HKP.out k' hk' T cs hb hf)⟩⟩
   rw[HFI.out,HBK.out.len];simp
