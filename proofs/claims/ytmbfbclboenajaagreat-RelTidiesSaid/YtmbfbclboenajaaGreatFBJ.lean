/- A region that draws its -/
import Derived.Test.YtmbfbclboenajaaGreatFAN
import Derived.OrdersHeld
import Derived.StillTail
import Derived.Test.YtmbfbclboenajaaGreatFBI
import Derived.ProofKit
import Derived.Maps.AppendAt
import Derived.Deep.RegionWith
set_option linter.all false
open Array renaming getElem?_eq_getElem->AqW,getElem?_toList->Arp
open Bool renaming false->Φ
open List renaming all_eq_true->Aq3,getElem?_cons_zero->ArO,getElem?_eq_getElem->ξ,getElem?_take->Aro,getElem?_toArray->Ar2,getElem_append_left->AtV,getElem_mem->Arc,length_append->υ,mem_append->Arr,mem_cons->AqU,mem_cons_of_mem->ο,mem_cons_self->AqS,mem_filter->Aso,mem_singleton->Arh,nodup_cons->Asy,take_zero->AtD
open Nat renaming le_refl->π,lt_irrefl->As2,lt_of_lt_of_le->ArL,zero_le->ArC
open Option renaming none->Ξ,some->Θ
namespace Go.Proofs.YtmbfbclboenajaaGreat
open Lib renaming hid->Aq2
open Tryz renaming prog->Aq1
open Go.RowKit
def Iv(w w':World)(k:Nat):Prop:=w.heap.size<=k/\k<w'.heap.size
structure Jmp (F:Nat->Prop) (w w':World):Prop where
 os:w'.os=w.os
 tape:w'.tape=w.tape
 output:w'.output=w.output
 size:w.heap.size<=w'.heap.size
 keep:∀ k,F k->w'.heap[k]? = w.heap[k]?
section
variable {F G:Nat->Prop} {w w1 w2:World}
theorem Jmp.refl(F:Nat->Prop)(w:World):Jmp F w w:=⟨rfl,rfl,rfl,π _,λ_ _=>rfl⟩
theorem Jmp.trans(h:Jmp F w w1)(k:Jmp F w1 w2):Jmp F w w2:=⟨k.os.trans h.os,k.tape.trans h.tape,k.output.trans h.output,Nat.le_trans h.size k.size,λi hi=>(k.keep i hi).trans (h.keep i hi)⟩
theorem Jmp.less(h:Jmp F w w1)(hs:∀ k,G k->F k):Jmp G w w1:=⟨h.os,h.tape,h.output,h.size,λi hi=>h.keep i (hs i hi)⟩
theorem Jmp.below(h:Jmp (Lt w.heap.size) w w1):Below w.heap.size w w1:=⟨h.os,h.tape,h.output,h.size,λi hi=>h.keep i hi⟩
theorem Jmp.of_below{B:Nat}(h:Below B w w1)(hF:∀ k,F k->k<B):Jmp F w w1:=⟨h.os,h.tape,h.output,h.size,λi hi=>h.block i (hF i hi)⟩
end
section
variable {P:Program} {md:Region.Mode} {ops:Array Oper} {QX:Exit->Act->World->Prop} {Q:Array Bool->(Nat->Prop)->Act->World->Prop}
def wpJ(P:Program)(md:Region.Mode)(ops:Array Oper)(QX:Exit->Act->World->Prop)(Q:Array Bool->(Nat->Prop)->Act->World->Prop):Nat->Array Bool->(Nat->Prop)->Act->World->Prop
 |0,listed,F,a,w=>Region.ready md ops listed=[]/\∀ w',Jmp F w w'->Q listed F a w'
 |n+1,listed,F,a,w=>(Region.ready md ops listed=[]->∀ w',Jmp F w w'->Q listed F a w') ∧
  ∀ i∈Region.ready md ops listed,∀ w',Jmp F w w'->wpOp P ops QX i (λa2 w2=>Below w'.heap.size w' w2/\wpJ P md ops QX Q n (listed.setIfInBounds i true) (λk=>F k\/Iv w' w2 k) a2 w2) a w'
theorem wpJ.jump{n:Nat}{listed:Array Bool}{F:Nat->Prop}{a:Act}{w w':World}(h:wpJ P md ops QX Q n listed F a w)(hj:Jmp F w w'):wpJ P md ops QX Q n listed F a w':=by
 cases n with
 |zero=>exact⟨h.1,λw2 h2=>h.2 w2 (hj.trans h2)⟩
 |succ n=>exact⟨λh0 w2 h2=>h.1 h0 w2 (hj.trans h2),λi hi w2 h2=>h.2 i hi w2 (hj.trans h2)⟩
theorem Jmp.grow{F:Nat->Prop}{w w':World}(hF:∀ k,F k->k<w.heap.size)(h:Jmp F w w'):∀ k,F k->k<w'.heap.size:=λk hk=>ArL (hF k hk) h.size
theorem Jmp.cell{F:Nat->Prop}{w w':World}(h:Jmp F w w'){b:Nat}(o:Nat)(hb:F b):w'.cell? ⟨b,o,Ξ⟩=w.cell? ⟨b,o,Ξ⟩:=World.cell?_of_block (a:=⟨b,o,Ξ⟩) (h.keep b hb)
theorem Jmp.from{F:Nat->Prop}{w w1 w2:World}(h:Jmp F w w1)(hb:Below w1.heap.size w1 w2)(hF:∀ k,F k->k<w1.heap.size):Jmp F w w2:=h.trans (Jmp.of_below hb hF)
theorem Jmp.laid{F:Nat->Prop}{v w1 w2:World}(k:Jmp (λk=>F k\/Iv v w1 k) w1 w2){b:Nat}(h1:v.heap.size<=b)(h2:b<w1.heap.size):w2.heap[b]? = w1.heap[b]?:=k.keep b (.inr ⟨h1,h2⟩)
end
section
open Go.RowKit
variable [S:Side]
def Gt(g:Nat):Value:=.pointer (Θ ⟨g,0,Ξ⟩)
theorem Kp.row{own:List Nat}{w w':World}{base size:Nat}{e:TypeId}{v:Value}{n:Nat}{xs:List Value}(h:Kp own w w')(ho:w.ownsRow base e size v n xs)(hm:∀ g,v.ownBlock=Θ g->g∈own)(hf:xs.all Ce=true):w'.ownsRow base e size v n xs:=by
 obtain⟨hl,ho⟩:=ho;refine⟨hl,?_⟩;rcases ho with h0|⟨g,cap,cur,rfl,hg,hcur,hn,hm2,hsz,htk⟩
 .exact .inl h0
 .obtain⟨c',h1,h2,h3⟩:=h.mine g (hm g rfl) e cur hcur
  refine .inr ⟨g,cap,c',rfl,hg,h1,hn,hm2,h2.trans hsz,?_⟩;rw[←htk]at hf ⊢;apply List.ext_getElem?;intro i;rw[Aro,Aro]
  by_cases hi:i<n*size
  .rw[if_pos hi,if_pos hi,Arp,Arp]
   have hc:i<cur.size:=by rw[hsz];exact ArL hi (Nat.mul_le_mul_right _ hn)
   rw[AqW hc];refine h3 i _ (AqW hc) (Aq3.1 hf _ (List.mem_of_getElem? (i:=i) ?_));rw[Aro,if_pos hi,Arp,AqW hc]
  .rw[if_neg hi,if_neg hi]
theorem Kp.drew(own:List Nat)(w:World):Kp own w w.drew:=⟨rfl,rfl,rfl,π _,Ml λ_ _ _=>rfl,λ_ _ _ cs h=>⟨cs,h,rfl,λ_ _ h _=>h⟩,λh=>h.exact (π _) (λ_ _ _=>rfl) λ_ h=>.inl h⟩
def LineAt(own:List Nat)(w:World)(g:Nat)(x:List AV):Prop:=∃ c0 c1 c2 c3 c4 c5 c6 c7 c8:Value,Blk w g 75 #[c0,c1,c2,c3,c4,c5,c6,c7,c8]/\[c0,c1,c2,c3,c4,c5,c6,c7,c8].all Ce=true/\RoL own w x [c0,c1,c2,c3,c4,c5,c6,c7,c8]
structure Book (own:List Nat) (w:World) (bk:Nat) (gs:List Nat) (ls:List (List AV)) (v:Value):Prop where
 mine:Mine own w
 bkm:bk∈own
 box:Blk w bk 45 #[v]
 row:w.ownsRow 0 49 1 v gs.length (gs.map Gt)
 rowm:∀ g,v.ownBlock=Θ g->g∈own/\g≠bk/\g∉gs
 len:ls.length=gs.length
 gm:∀ g∈gs,g∈own/\g≠bk
 nd:gs.Nodup
 line:∀(i:Nat) (h:i<gs.length) (h':i<ls.length),LineAt own w gs[i] ls[i]
theorem Qn(gs:List Nat):(gs.map Gt).all Ce=true:=by
 rw[Aq3];intro x hx;obtain⟨g,_,rfl⟩:=List.mem_map.1 hx;rfl
theorem TI{w:World}{base size:Nat}{e:TypeId}{v:Value}{n:Nat}{xs:List Value}(ho:w.ownsRow base e size v n xs):Ce v=true:=by
 rcases ho.2 with⟨rfl,_⟩|⟨g,cap,cur,rfl,_⟩<;>rfl
section
variable {own own':List Nat} {w w':World} {bk:Nat} {gs:List Nat} {ls:List (List AV)} {v:Value}
theorem LineAt.kp{g:Nat}{x:List AV}(h:LineAt own w g x)(k:Kp own w w')(hg:g∈own):LineAt own w' g x:=by
 obtain⟨c0,c1,c2,c3,c4,c5,c6,c7,c8,h1,h2,h3⟩:=h;exact⟨c0,c1,c2,c3,c4,c5,c6,c7,c8,k.blk hg h1 h2,h2,h3.xt k.xt⟩
theorem LineAt.ext{g:Nat}{x:List AV}(h:LineAt own w g x)(k:Xt own own' w w')(hg:w'.heap[g]? = w.heap[g]?):LineAt own' w' g x:=by
 obtain⟨c0,c1,c2,c3,c4,c5,c6,c7,c8,h1,h2,h3⟩:=h;exact⟨c0,c1,c2,c3,c4,c5,c6,c7,c8,hg.trans h1,h2,h3.xt k⟩
theorem Book.kp(h:Book own w bk gs ls v)(k:Kp own w w'):Book own w' bk gs ls v:=
 ⟨h.mine.kp k,h.bkm,k.blk h.bkm h.box (by simp[TI h.row]),k.row h.row (λg hg=>(h.rowm g hg).1) (Qn gs),h.rowm,h.len,h.gm,h.nd,λi h1 h2=>(h.line i h1 h2).kp k (h.gm _ (Arc h1)).1⟩
theorem K5{base size:Nat}{e:TypeId}{n:Nat}{xs:List Value}(ho:w.ownsRow base e size v n xs)(hk:∀ g,v.ownBlock=Θ g->w'.heap[g]? = w.heap[g]?):w'.ownsRow base e size v n xs:=by
 obtain⟨hl,ho⟩:=ho;refine⟨hl,?_⟩;rcases ho with h0|⟨g,cap,cur,rfl,hg,hcur,hn,hm2,hsz,htk⟩
 .exact .inl h0
 .exact .inr ⟨g,cap,cur,rfl,hg,(hk g rfl).trans hcur,hn,hm2,hsz,htk⟩
theorem Book.ext(h:Book own w bk gs ls v)(hm:Mine own' w')(hs:∀ g∈own,g∈own')(hx:Xt own own' w w')(hk:∀ g∈own,w'.heap[g]? = w.heap[g]?):Book own' w' bk gs ls v:=
 ⟨hm,hs _ h.bkm,(hk _ h.bkm).trans h.box,K5 h.row λg hg=>hk g (h.rowm g hg).1,λg hg=>⟨hs _ (h.rowm g hg).1,(h.rowm g hg).2⟩,h.len,λg hg=>⟨hs _ (h.gm g hg).1,(h.gm g hg).2⟩,h.nd,λi h1 h2=>(h.line i h1 h2).ext hx (hk _ (h.gm _ (Arc h1)).1)⟩
theorem Book.alloc(h:Book own w bk gs ls v)(T:TypeId)(cs:Array Value):Book (w.heap.size::own) (w.alloc (.cells cs T)) bk gs ls v:=
 h.ext (h.mine.alloc T cs) (λg hg=>ο _ hg) (Xt.alloc own w _) λg hg=>Below.heap_alloc _ _ _ (h.mine.lt hg)
theorem Book.cell(h:Book own w bk gs ls v){k:Nat}(hk:k<gs.length):∃ g cap,v=.slice (Θ ⟨g,0,Ξ⟩) gs.length cap/\g<w.heap.size/\w.cell? ⟨g,k,Ξ⟩=Θ (Gt gs[k]):=by
 obtain⟨hl,ho⟩:=h.row;rcases ho with⟨_,h0⟩|⟨g,cap,cur,rfl,hg,hcur,hn,hm2,hsz,htk⟩
 .omega
 .refine⟨g,cap,rfl,ES (o:=k) (u:=Gt gs[k]) ?_,?_⟩ <;>
  .rw[cell_of_row w g k cur _ (0,0) hcur]
   have h1:(gs.map Gt)[k]? = Θ (Gt gs[k]):=by rw[List.getElem?_map,ξ hk];rfl
   rw[←htk,Aro,if_pos (by omega),Arp]at h1;exact h1
end
theorem Book.push{own:List Nat}{wr w7:World}{bk:Nat}{gs:List Nat}{ls:List (List AV)}{v v':Value}(h:Book own wr bk gs ls v){c0 c1 c2 c3 c4 c5 c6 c7 c8:Value}(hf:[c0,c1,c2,c3,c4,c5,c6,c7,c8].all Ce=true){x:List AV}(hx:RoL own wr x [c0,c1,c2,c3,c4,c5,c6,c7,c8]){T2:TypeId}{n2:Array Value}
  (hown:w7.ownsRow 0 49 1 v' (gs.length+1) (gs.map Gt++[Gt wr.heap.size]))
  (hgrow:((wr.alloc (.cells #[c0,c1,c2,c3,c4,c5,c6,c7,c8] 75)).alloc (.cells n2 T2)).grownBy w7 v.ownBlock)
  (hloc:v'.ownBlock=v.ownBlock\/v'.ownBlock=Θ (wr.heap.size+2)) :
  ∃ own',Book own' (w7.setCell ⟨bk,0,Ξ⟩ v') bk (gs++[wr.heap.size]) (ls++[x]) v'/\Xt own own' wr (w7.setCell ⟨bk,0,Ξ⟩ v')/\∀ k∈own,k≠bk->v.ownBlock≠Θ k->k∈own'/\(w7.setCell ⟨bk,0,Ξ⟩ v').heap[k]? = wr.heap[k]?:=by
 have hsz:((wr.alloc (.cells #[c0,c1,c2,c3,c4,c5,c6,c7,c8] 75)).alloc (.cells n2 T2)).heap.size=wr.heap.size+2:=by simp
 have old:∀ g,g<wr.heap.size->v.ownBlock≠Θ g->w7.heap[g]? = wr.heap[g]?:=λg hg hr=>by
  refine(hgrow.block g (by omega) λe=>hr e.symm).trans ?_;refine(Below.heap_alloc _ _ _ (by simp;omega)).trans (Below.heap_alloc _ _ _ hg)
 have new:w7.heap[wr.heap.size]? = Θ (.cells #[c0,c1,c2,c3,c4,c5,c6,c7,c8] 75 (0,0)):=by
  refine(hgrow.block _ (by omega) λe=>?_).trans ((Below.heap_alloc _ _ _ (by simp)).trans (heap_alloc_new _ _));exact As2 _ (h.mine.lt (h.rowm _ e.symm).1)
 obtain⟨rg,rcap,rcur,hv',_,hrc,_⟩:∃ g cap cur,v'=.slice (Θ ⟨g,0,Ξ⟩) (gs.length+1) cap/\0<=g/\w7.heap[g]? = Θ (.cells cur 49 (0,0))/\gs.length+1<=cap:=by
  rcases hown.2 with⟨_,h0⟩|⟨g,cap,cur,h1,h2,h3,h4,_⟩
  .omega
  .exact⟨g,cap,cur,h1,h2,h3,h4⟩
 have hro:v'.ownBlock=Θ rg:=by rw[hv'];rfl
 have hbk:bk<wr.heap.size:=h.mine.lt h.bkm;have hbr:v.ownBlock≠Θ bk:=λe=>(h.rowm _ e).2.1 rfl
 have hwsz:wr.heap.size+2<=w7.heap.size:=by have:=hgrow.size;omega
 have sets:∀ g,g≠bk->(w7.setCell ⟨bk,0,Ξ⟩ v').heap[g]? = w7.heap[g]?:=λg hg=>Below.heap_setCell _ _ _ _ hg
 have hgs:∀ g∈gs,(w7.setCell ⟨bk,0,Ξ⟩ v').heap[g]? = wr.heap[g]?:=λg hg=>(sets g (h.gm g hg).2).trans (old g (h.mine.lt (h.gm g hg).1) λe=>(h.rowm _ e).2.2 hg)
 have hbox:Blk (w7.setCell ⟨bk,0,Ξ⟩ v') bk 45 #[v']:=by
  have:Blk w7 bk 45 #[v]:=(old bk hbk hbr).trans h.box;exact this.set_ 0 v'
 have hrow:(w7.setCell ⟨bk,0,Ξ⟩ v').ownsRow 0 49 1 v' (gs++[wr.heap.size]).length ((gs++[wr.heap.size]).map Gt):=by
  rw[υ,List.map_append];refine K5 hown λg hg=>sets g λe=>?_
  subst e;rcases hloc with h1|h1
  .exact hbr (h1.symm.trans hg)
  .have:=h1.symm.trans hg
   injection this with this
   omega
 have xt:∀ own',(∀ g∈own',g∈own\/wr.heap.size<=g)->Xt own own' wr (w7.setCell ⟨bk,0,Ξ⟩ v'):=λown' hm=>
  .exact hgrow.os hgrow.tape hgrow.output (by simp[World.setCell];omega) (λg hg hn=>(sets g λe=>hn (e▸h.bkm)).trans (old g hg λe=>hn (h.rowm _ e).1)) hm
 have sd7:∀ own',(∀ g∈own',g∈own\/wr.heap.size<=g)->Sd own' w7:=λown' hm=>h.mine.sd.exact (by omega) (λg hg hn=>old g hg λe=>hn (h.rowm _ e).1) hm
 have fin:∀ own',Mine own' w7->(∀ g∈own',g∈own\/wr.heap.size<=g)->(∀ g∈own,v.ownBlock≠Θ g->g∈own')->wr.heap.size∈own'->rg∈own'->rg≠bk->rg∉gs->rg≠wr.heap.size->
   Book own' (w7.setCell ⟨bk,0,Ξ⟩ v') bk (gs++[wr.heap.size]) (ls++[x]) v':=λown' hm h1 h2 h3 h4 h5 h6 h7=>by
  refine⟨hm.set (h2 _ h.bkm hbr) _ _,h2 _ h.bkm hbr,hbox,hrow,λg hg=>?_,by rw[υ,υ,h.len];rfl,λg hg=>?_,?_,λi hi hi'=>?_⟩
  .rw[hro]at hg
   injection hg with hg
   subst hg;refine⟨h4,h5,λhmem=>?_⟩;rcases Arr.1 hmem with h8|h8
   .exact h6 h8
   .exact h7 (Arh.1 h8)
  .rcases Arr.1 hg with h8|h8
   .exact⟨h2 _ (h.gm g h8).1 λe=>(h.rowm _ e).2.2 h8,(h.gm g h8).2⟩
   .obtain rfl:=Arh.1 h8
    exact⟨h3,by omega⟩
  .refine List.nodup_append.2 ⟨h.nd,by simp,λa ha b hb=>?_⟩
   obtain rfl:=Arh.1 hb;have:=h.mine.lt (h.gm a ha).1;omega
  .have hl:=h.len
   by_cases hi2:i<gs.length
   .rw[AtV hi2,AtV (by omega)]
    exact(h.line i hi2 (by omega)).ext (xt own' h1) (hgs _ (Arc hi2))
   .have e1:i=gs.length:=by simp at hi;omega
    subst e1;have e2:(gs++[wr.heap.size])[gs.length]=wr.heap.size:=by simp
    have e3:(ls++[x])[gs.length]=x:=by simp[←hl]
    rw[e2,e3];exact⟨c0,c1,c2,c3,c4,c5,c6,c7,c8,(sets _ (by omega)).trans new,hf,hx.xt (xt own' h1)⟩
 rcases hloc with h1|h1
 .have hrg:v.ownBlock=Θ rg:=h1.symm.trans hro
  have hr:=h.rowm _ hrg;have hone:∀ g∈wr.heap.size::own,g∈own\/wr.heap.size<=g:=λg hg=>by
   rcases AqU.1 hg with rfl|hg
   .exact .inr (π _)
   .exact .inl hg
  refine⟨wr.heap.size::own,fin _ ⟨Asy.2 ⟨λhm=>As2 _ (h.mine.lt hm),h.mine.nd⟩,λg hg=>?_,sd7 _ hone⟩ (λg hg=>?_) (λg hg _=>ο _ hg) (AqS ..) (ο _ hr.1) hr.2.1 hr.2.2 (Nat.ne_of_lt (h.mine.lt hr.1)),xt _ λg hg=>?_,λk hk hkb hkr=>⟨ο _ hk,(sets k hkb).trans (old k (h.mine.lt hk) hkr)⟩⟩
  .rcases AqU.1 hg with rfl|hg
   .exact⟨_,_,new⟩
   .by_cases e:g=rg
    .subst e
     exact⟨_,_,hrc⟩
    .obtain⟨T,cs,hb⟩:=h.mine.all g hg
     exact⟨T,cs,(old g (h.mine.lt hg) λe'=>e (by rw[hrg]at e';injection e' with e';exact e'.symm)).trans hb⟩
  .rcases AqU.1 hg with rfl|hg
   .exact .inr (π _)
   .exact .inl hg
  .rcases AqU.1 hg with rfl|hg
   .exact .inr (π _)
   .exact .inl hg
 .have hrg:rg=wr.heap.size+2:=by rw[hro]at h1;injection h1
  subst hrg;have hsub:∀ g,g∈(wr.heap.size+2)::wr.heap.size::own.filter (λg=>decide (v.ownBlock≠Θ g))->g=wr.heap.size+2\/g=wr.heap.size\/(g∈own/\v.ownBlock≠Θ g):=λg hg=>by
   simpa[Aso]using hg
  have hone:∀ g,g∈(wr.heap.size+2)::wr.heap.size::own.filter (λg=>decide (v.ownBlock≠Θ g))->g∈own\/wr.heap.size<=g:=λg hg=>by
   rcases hsub g hg with rfl|rfl|h2
   .exact .inr (by omega)
   .exact .inr (π _)
   .exact .inl h2.1
  have hlt:∀ g∈own.filter (λg=>decide (v.ownBlock≠Θ g)),g<wr.heap.size:=λg hg=>h.mine.lt (Aso.1 hg).1
  refine⟨_,fin ((wr.heap.size+2)::wr.heap.size::own.filter (λg=>decide (v.ownBlock≠Θ g))) ⟨?_,λg hg=>?_,sd7 _ hone⟩ hone (λg hg hr=>?_) (by simp) (by simp) (by omega) (λhm=>?_) (by omega),xt _ hone,λk hk hkb hkr=>⟨by simp[Aso,hk,hkr],(sets k hkb).trans (old k (h.mine.lt hk) hkr)⟩⟩
  .refine Asy.2 ⟨λhm=>?_,Asy.2 ⟨λhm=>?_,h.mine.nd.filter _⟩⟩
   .rcases AqU.1 hm with h2|h2
    .omega
    .have:=hlt _ h2;omega
   .have:=hlt _ hm;omega
  .rcases hsub g hg with rfl|rfl|h2
   .exact⟨_,_,hrc⟩
   .exact⟨_,_,new⟩
   .obtain⟨T,cs,hb⟩:=h.mine.all g h2.1
    exact⟨T,cs,(old g (h.mine.lt h2.1) h2.2).trans hb⟩
  .simp[Aso,hg,hr]
  .have:=h.mine.lt (h.gm _ hm).1
   omega
def Ej:List AV:=[bv Φ,.ls [],bv Φ,.ls [],bv Φ,bv Φ]
def Ei(sm:List AV->Bool)(ls:List (List AV))(new:List AV):List (List AV):=if ls.findIdx sm<ls.length then ls else ls++[new]
theorem NZ{w:World}{g:Nat}{T:TypeId}{a b c:Value}(h:Blk w g T #[a,b,c]):w.cell? ⟨g,0,Ξ⟩=Θ a/\w.cell? ⟨g,1,Ξ⟩=Θ b/\w.cell? ⟨g,2,Ξ⟩=Θ c:=⟨h.cell 0,h.cell 1,h.cell 2⟩
theorem YX{w:World}{g:Nat}{T:TypeId}{a b c d e f x y z:Value}(h:Blk w g T #[a,b,c,d,e,f,x,y,z]):w.cell? ⟨g,0,Ξ⟩=Θ a/\w.cell? ⟨g,1,Ξ⟩=Θ b/\w.cell? ⟨g,2,Ξ⟩=Θ c:=⟨h.cell 0,h.cell 1,h.cell 2⟩
theorem UK{own:List Nat}{w:World}:∀{xs:List AV} {us:List Value} (n:Nat),RoL own w xs us->RoL own w (xs.take n) (us.take n)
 |_,_,0,_=>by rw[AtD,AtD];exact RoL.nil _ _
 |[],us,n+1,h=>by
  obtain rfl:=RoL.nil_inv h;exact RoL.nil _ _
 |x::xs,us,n+1,h=>by
  obtain⟨u,t,rfl,h1,h2⟩:=RoL.cons_inv h;exact RoL.cons h1 (UK n h2)
theorem SF{own:List Nat}{w:World}:∀{xs:List AV} {us:List Value} {ys:List AV} {vs:List Value},RoL own w xs us->RoL own w ys vs->RoL own w (xs++ys) (us++vs)
 |[],us,ys,vs,h,h2=>by
  obtain rfl:=RoL.nil_inv h;exact h2
 |x::xs,us,ys,vs,h,h2=>by
  obtain⟨u,t,rfl,h1,h3⟩:=RoL.cons_inv h;exact RoL.cons h1 (SF h3 h2)
theorem Adt{own:List Nat}{w:World}:Ro own w (.ls []) (.slice Ξ 0 0):=by
 unfold Ro;simp only[Rep];exact⟨rfl,Ξ,0,rfl,π _,ArC _,λh=>absurd rfl h⟩
theorem Agr{own:List Nat}{w:World}{p:List AV}{u0 u1 u2:Value}(h:RoL own w p [u0,u1,u2]):RoL own w (p++Ej) [u0,u1,u2,.bool Φ,.slice Ξ 0 0,.bool Φ,.slice Ξ 0 0,.bool Φ,.bool Φ]:=
 SF h (RoL.cons (Ro.v rfl) (RoL.cons Adt (RoL.cons (Ro.v rfl) (RoL.cons Adt (RoL.cons (Ro.v rfl) (RoL.cons (Ro.v rfl) (RoL.nil _ _)))))))
set_option maxHeartbeats 4000000 in
set_option maxRecDepth 100000 in
theorem TG(dq:Nat->DF)(G:∀ f,BS (B5 Aq1 f) (dq f)){own:List Nat}{w:World}{bk:Nat}{gs:List Nat}{ls:List (List AV)}{v:Value}(hB:Book own w bk gs ls v)(hlen:gs.length<=1000000)(p:List AV)(u0 u1 u2:Value)(hp:RoL own w p [u0,u1,u2])(hf:[u0,u1,u2].all Ce=true)
  (sm:List AV->Bool) (hS:∀ x∈ls,dq 77 [.agg (x.take 3),.agg p] []=Θ (bv (sm x),[])) :
  Calls Aq1 37 #[Gt bk,.agg #[u0,u1,u2]] w λe w'=>∃ own' gs' v' g,e=.returned (Gt g)/\gs'[ls.findIdx sm]? = Θ g/\Book own' w' bk gs' (Ei sm ls (p++Ej)) v'/\Xt own own' w w'/\(∀ k∈gs',k<w.heap.size->k∈gs)/\gs'.length<=gs.length+1/\∀ k∈own,k≠bk->v.ownBlock≠Θ k->k∈own'/\∀ T cs,Blk w k T cs->cs.toList.all Ce=true->Blk w' k T cs:=by
 obtain⟨A,cap,rfl⟩:=Gq hB.row;have HB:=Aq2 hB;have HP:=Aq2 hp;have HF:=Aq2 hf;have HS:=Aq2 hS;have l0:bk<w.heap.size:=hB.box.lt;have e0:=hB.box.cell 0;simp only[Ar2,ArO]at e0;clear hB hp hf hS;unfold Gt
 go_enter Tryz.func37,Tryz.ntmps37
 go_wp2_with fail
 go_loopw [13] (λq wr=>∃ k:Nat,k<=gs.length/\q=.int .i64 k/\Book (w.heap.size::own) wr bk gs ls (.slice A gs.length cap)/\Blk wr w.heap.size 35 #[u0,u1,u2]/\RoL (w.heap.size::own) wr p [u0,u1,u2]/\Xt own (w.heap.size::own) w wr/\(∀ k∈own,∀ T cs,Blk w k T cs->cs.toList.all Ce=true->Blk wr k T cs)/\∀ j (h:j<ls.length),j<k->sm ls[j]=Φ) (λq _=>gs.length-(intOf q).toNat)
 case atStart=>exact⟨0,ArC _,rfl,HB.out.alloc _ _,Blk.new _ _ _,HP.out.xt (Xt.alloc own w _),Xt.alloc own w _,λk _ T cs h _=>h.alloc _,λj _ h=>absurd h (Nat.not_lt_zero _)⟩
 case round=>
  obtain⟨k,hk,rfl,hb,hbx,hpr,hxt,hkp,hno⟩:=hrel;have HKP:=Aq2 hkp;clear hkp;have HBK:=Aq2 hb;have HBX:=Aq2 hbx;have HPR:=Aq2 hpr;have HXT:=Aq2 hxt;have HNO:=Aq2 hno;clear hb hbx hpr hxt hno
  by_cases hlt:k<gs.length
  .have hlt':k<ls.length:=by rw[HBK.out.len];exact hlt
   obtain⟨g,cap',hv,hgl,hc⟩:=HBK.out.cell hlt;injection hv with hA _ hcap
   subst hA hcap;obtain⟨c0,c1,c2,c3,c4,c5,c6,c7,c8,hlb,hlf,hlr⟩:=HBK.out.line k hlt hlt';have z0:(0:Int)<=(k:Int):=by omega
   have z1:(k:Int)<(gs.length:Int):=by omega
   have hgk:gs[k]<wr.heap.size:=hlb.lt;obtain⟨x0,x1,x2⟩:=YX hlb;obtain⟨y0,y1,y2⟩:=NZ HBX.out;have y3:=HBX.out.lt;have HLR:=Aq2 hlr;have hsame:=HS.out ls[k] (Arc hlt');clear hlb hlf hlr;unfold Gt at hc
   go_wp2_with fail
   go_region_with (go_at_call 77;refine(Bw (G _) hsame rfl (HBK.out.mine.kp (Kp.drew _ _)) (us:=[.agg #[c0,c1,c2],.agg #[u0,u1,u2]]) (RoL.cons (Ro.agg ((UK 3 HLR.out).xt (Kp.drew _ _).xt)) (RoL.cons (Ro.agg (HPR.out.xt (Kp.drew _ _).xt)) (RoL.nil _ _)))).mono ?_;rintro e w4 ⟨u,rfl,hk4,hu⟩;obtain rfl:=Rp.bool_inv hu.rp)
   all_goals
    have HK4:=Aq2 ((Kp.drew _ _).trans hk4);clear hk4 hu x0 x1 x2 y0 y1 y2 y3 hsame hc
    cases hs:sm ls[k]with
    |true=>
     have hfi:ls.findIdx sm=k:=(List.findIdx_eq hlt').2 ⟨hs,λj hj=>HNO.out j (by omega) hj⟩
     go_wp2
     go_ret
     refine⟨w.heap.size::own,gs,.slice (Θ ⟨g,0,Ξ⟩) gs.length cap,gs[k],rfl,by rw[hfi];exact ξ hlt,?_,HXT.out.trans HK4.out.xt,λ_ h _=>h,Nat.le_succ _,λk' hk' _ _=>⟨ο _ hk',λT cs hb hf=>HK4.out.blk (ο _ hk') (HKP.out k' hk' T cs hb hf) hf⟩⟩;unfold Ei;rw[hfi,if_pos hlt'];exact HBK.out.kp HK4.out
    |false=>
     go_wp2_with fail
     go_roundw
     case rel=>
      refine⟨k+1,hlt,by go_num,HBK.out.kp HK4.out,HK4.out.blk (AqS ..) HBX.out HF.out,HPR.out.xt HK4.out.xt,HXT.out.trans HK4.out.xt,λk' hk' T cs hb hf=>HK4.out.blk (ο _ hk') (HKP.out k' hk' T cs hb hf) hf,λj h hj=>?_⟩;rcases Nat.lt_or_ge j k with h1|h1
      .exact HNO.out j h h1
      .obtain rfl:j=k:=by omega
       exact hs
     case measure=>simp[intOf];omega
  .obtain rfl:k=gs.length:=by omega
   have z1:¬ (gs.length:Int)<(gs.length:Int):=by omega
   obtain⟨y0,y1,y2⟩:=NZ HBX.out;have y3:=HBX.out.lt;have x0:=HBK.out.box.cell 0;have x1:=HBK.out.box.lt;simp only[Ar2,ArO]at x0;have hfi:ls.findIdx sm=ls.length:=List.findIdx_eq_length.2 λx hx=>by
    obtain⟨j,hj,rfl⟩:=List.getElem_of_mem hx;exact HNO.out j hj (by rw[←HBK.out.len];exact hj)
   have HFI:=Aq2 hfi;clear hfi;obtain⟨i0,hi0,hz0,hz1,hz2⟩:=info_parts (show (Tryz.prog.info? 49).map (λi=>(i.zero,i.size,i.bytes))=Θ (Θ (.pointer Ξ),1,8) by kernel_rfl)
   go_wp2_with (at_builtin;refine wpList_append_own_at _ rfl _ _ 43 rfl 0 49 i0 (.pointer Ξ) 1 8 Tryz.underlying43 hi0 hz0 hz1 hz2 rfl (by decide) _ gs.length (gs.map Gt) rfl ?c0 ⟨wr.heap.size+1,0,Ξ⟩ 1 1 [Gt wr.heap.size] rfl rfl ?c1 ?c2 ?c3 ?c4 ?c5 ?_)
   case c0=>exact K5 HBK.out.row λg hg=>(Below.heap_alloc _ _ _ (by have:=HBK.out.mine.lt (HBK.out.rowm g hg).1;simp;omega)).trans (Below.heap_alloc _ _ _ (HBK.out.mine.lt (HBK.out.rowm g hg).1))
   case c1=>exact λ_ _ h=>h
   case c2=>rfl
   case c3=>unfold maxLen;omega
   case c4=>omega
   intro v' w7 hown hgrow _ hloc;obtain⟨A',cap',rfl⟩:=Gq hown;have hu3:[u0,u1,u2].all Ce=true:=HF.out;obtain⟨own',hbk',hxt',hkk'⟩:=HBK.out.push (c0:=u0) (c1:=u1) (c2:=u2) (c3:=.bool Φ) (c4:=.slice Ξ 0 0) (c5:=.bool Φ) (c6:=.slice Ξ 0 0) (c7:=.bool Φ) (c8:=.bool Φ) (x:=p++Ej) (by
    simp only[List.all_cons,List.all_nil,Bool.and_true,Bool.and_eq_true]at hu3 ⊢;exact⟨hu3.1,hu3.2.1,hu3.2.2,rfl,rfl,rfl,rfl,rfl,rfl⟩) (Agr HPR.out) hown hgrow (by simpa using hloc)
   have hbf:Book own' (w7.setCell ⟨bk,0,Ξ⟩ (.slice A' (gs.length+1) cap')) bk (gs++[wr.heap.size]) (Ei sm ls (p++Ej)) (.slice A' (gs.length+1) cap'):=by
    unfold Ei;rw[HFI.out,if_neg (As2 _)];exact hbk'
   have HBKF:=hbf;have HXT':=Aq2 hxt';have HKK:=Aq2 hkk';clear hkk';have k0:w7.cell? ⟨bk,0,Ξ⟩=Θ (.slice A gs.length cap):=by
    have h1:Blk w7 bk 45 #[.slice A gs.length cap]:=by
     refine(hgrow.block bk (by simp;omega) λe=>(HBK.out.rowm _ e.symm).2.1 rfl).trans ?_;exact(Below.heap_alloc _ _ _ (by simp;omega)).trans ((Below.heap_alloc _ _ _ x1).trans HBK.out.box)
    exact h1.cell 0
   have k1:w7.frozen? ⟨bk,0,Ξ⟩=Φ:=by
    have h1:Blk w7 bk 45 #[.slice A gs.length cap]:=by
     refine(hgrow.block bk (by simp;omega) λe=>(HBK.out.rowm _ e.symm).2.1 rfl).trans ?_;exact(Below.heap_alloc _ _ _ (by simp;omega)).trans ((Below.heap_alloc _ _ _ x1).trans HBK.out.box)
    exact h1.frozen 0
   clear hown hgrow hloc hbk' hbf hxt' hu3 x0 x1 y0 y1 y2 y3
   go_wp2
   go_ret
   refine⟨own',gs++[wr.heap.size],_,wr.heap.size,rfl,?_,HBKF,HXT.out.trans HXT'.out,λk' hk' hl'=>by
    rcases Arr.1 hk' with h8|h8
    .exact h8
    .have:=HXT.out.size
     have:=Arh.1 h8;omega,by simp,λk' hk' h1 h2=>⟨(HKK.out k' (ο _ hk') h1 h2).1,λT cs hb hf=>(HKK.out k' (ο _ hk') h1 h2).2.trans (HKP.out k' hk' T cs hb hf)⟩⟩
   rw[HFI.out,HBK.out.len];simp
