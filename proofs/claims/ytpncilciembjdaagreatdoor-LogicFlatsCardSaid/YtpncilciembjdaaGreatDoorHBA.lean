/- A region that draws its -/
import Derived.Test.YtpncilciembjdaaGreatDoorHAN
import Derived.OrdersHeld
import Derived.StillTail
import Derived.Test.YtpncilciembjdaaGreatDoorHAZ
import Derived.ProofKit
import Derived.Maps.AppendAt
import Derived.Deep.RegionWith
set_option linter.all false
open Array renaming getElem?_eq_getElem->Awg,getElem?_toList->AwE
open Bool renaming false->Φ
open List renaming all_eq_true->Awr,getElem?_cons_zero->Awx,getElem?_eq_getElem->ξ,getElem?_take->AwP,getElem?_toArray->AwH,getElem_append_left->Ay1,getElem_mem->Aws,length_append->ε,mem_append->AwN,mem_cons->Awj,mem_cons_of_mem->Awk,mem_cons_self->Awi,mem_filter->AxJ,mem_singleton->AwX,nodup_cons->Ay7,take_zero->Aye
open Nat renaming le_refl->π,lt_irrefl->AxS,lt_of_lt_of_le->AwZ,zero_le->Awz
open Option renaming none->Ξ,some->Θ
namespace Go.Proofs.YtpncilciembjdaaGreatDoor
open Lib renaming hid->ι
open Tryz renaming prog->Av9
open Go.RowKit
def Iv(w w':World)(k:Nat):Prop:=w.heap.size<=k/\k<w'.heap.size
structure Jmp (F:Nat->Prop) (w w':World):Prop where
 os:w'.os=w.os
 tape:w'.tape=w.tape
 output:w'.output=w.output
 size:w.heap.size<=w'.heap.size
 keep:∀ k,F k->w'.heap[k]? = w.heap[k]?
section
variable {F G:Nat->Prop} {w w1 w2:World}
theorem Jmp.refl(F:Nat->Prop)(w:World):Jmp F w w:=⟨rfl,rfl,rfl,π _,λ_ _=>rfl⟩
theorem Jmp.trans(h:Jmp F w w1)(k:Jmp F w1 w2):Jmp F w w2:=⟨k.os.trans h.os,k.tape.trans h.tape,k.output.trans h.output,Nat.le_trans h.size k.size,λi hi=>(k.keep i hi).trans (h.keep i hi)⟩
theorem Jmp.less(h:Jmp F w w1)(hs:∀ k,G k->F k):Jmp G w w1:=⟨h.os,h.tape,h.output,h.size,λi hi=>h.keep i (hs i hi)⟩
theorem Jmp.below(h:Jmp (Lt w.heap.size) w w1):Below w.heap.size w w1:=⟨h.os,h.tape,h.output,h.size,λi hi=>h.keep i hi⟩
theorem Jmp.of_below{B:Nat}(h:Below B w w1)(hF:∀ k,F k->k<B):Jmp F w w1:=⟨h.os,h.tape,h.output,h.size,λi hi=>h.block i (hF i hi)⟩
end
section
variable {P:Program} {md:Region.Mode} {ops:Array Oper} {QX:Exit->Act->World->Prop} {Q:Array Bool->(Nat->Prop)->Act->World->Prop}
def wpJ(P:Program)(md:Region.Mode)(ops:Array Oper)(QX:Exit->Act->World->Prop)(Q:Array Bool->(Nat->Prop)->Act->World->Prop):Nat->Array Bool->(Nat->Prop)->Act->World->Prop
 |0,listed,F,a,w=>Region.ready md ops listed=[]/\∀ w',Jmp F w w'->Q listed F a w'
 |n+1,listed,F,a,w=>(Region.ready md ops listed=[]->∀ w',Jmp F w w'->Q listed F a w') ∧
  ∀ i∈Region.ready md ops listed,∀ w',Jmp F w w'->wpOp P ops QX i (λa2 w2=>Below w'.heap.size w' w2/\wpJ P md ops QX Q n (listed.setIfInBounds i true) (λk=>F k\/Iv w' w2 k) a2 w2) a w'
theorem wpJ.jump{n:Nat}{listed:Array Bool}{F:Nat->Prop}{a:Act}{w w':World}(h:wpJ P md ops QX Q n listed F a w)(hj:Jmp F w w'):wpJ P md ops QX Q n listed F a w':=by
 cases n with
 |zero=>exact⟨h.1,λw2 h2=>h.2 w2 (hj.trans h2)⟩
 |succ n=>exact⟨λh0 w2 h2=>h.1 h0 w2 (hj.trans h2),λi hi w2 h2=>h.2 i hi w2 (hj.trans h2)⟩
theorem Jmp.grow{F:Nat->Prop}{w w':World}(hF:∀ k,F k->k<w.heap.size)(h:Jmp F w w'):∀ k,F k->k<w'.heap.size:=λk hk=>AwZ (hF k hk) h.size
theorem Jmp.cell{F:Nat->Prop}{w w':World}(h:Jmp F w w'){b:Nat}(o:Nat)(hb:F b):w'.cell? ⟨b,o,Ξ⟩=w.cell? ⟨b,o,Ξ⟩:=World.cell?_of_block (a:=⟨b,o,Ξ⟩) (h.keep b hb)
theorem Jmp.from{F:Nat->Prop}{w w1 w2:World}(h:Jmp F w w1)(hb:Below w1.heap.size w1 w2)(hF:∀ k,F k->k<w1.heap.size):Jmp F w w2:=h.trans (Jmp.of_below hb hF)
theorem Jmp.laid{F:Nat->Prop}{v w1 w2:World}(k:Jmp (λk=>F k\/Iv v w1 k) w1 w2){b:Nat}(h1:v.heap.size<=b)(h2:b<w1.heap.size):w2.heap[b]? = w1.heap[b]?:=k.keep b (.inr ⟨h1,h2⟩)
end
section
open Go.RowKit
variable [S:Side]
def GS(g:Nat):Value:=.pointer (Θ ⟨g,0,Ξ⟩)
theorem Kp.row{own:Af}{w w':World}{base size:Nat}{e:TypeId}{v:Value}{n:Nat}{xs:AO}(h:Kp own w w')(ho:w.ownsRow base e size v n xs)(hm:∀ g,v.ownBlock=Θ g->g∈own)(hf:xs.all Cr=true):w'.ownsRow base e size v n xs:=by
 obtain⟨hl,ho⟩:=ho;refine⟨hl,?_⟩;rcases ho with h0|⟨g,cap,cur,rfl,hg,hcur,hn,hm2,hsz,htk⟩
 .exact .inl h0
 .obtain⟨c',h1,h2,h3⟩:=h.mine g (hm g rfl) e cur hcur
  refine .inr ⟨g,cap,c',rfl,hg,h1,hn,hm2,h2.trans hsz,?_⟩;rw[←htk]at hf ⊢;apply List.ext_getElem?;intro i;rw[AwP,AwP]
  by_cases hi:i<n*size
  .rw[Ac hi,Ac hi,AwE,AwE]
   have hc:i<cur.size:=by rw[hsz];exact AwZ hi (Nat.mul_le_mul_right _ hn)
   rw[Awg hc];refine h3 i _ (Awg hc) (Awr.1 hf _ (List.mem_of_getElem? (i:=i) ?_));rw[AwP,Ac hi,AwE,Awg hc]
  .rw[Ad hi,Ad hi]
theorem Kp.drew(own:Af)(w:World):Kp own w w.drew:=⟨rfl,rfl,rfl,π _,Ml λ_ _ _=>rfl,λ_ _ _ cs h=>⟨cs,h,rfl,λ_ _ h _=>h⟩,λh=>h.exact (π _) (λ_ _ _=>rfl) λ_ h=>.inl h⟩
def LineAt(own:Af)(w:World)(g:Nat)(x:Ab):Prop:=∃ c0 c1 c2 c3 c4 c5 c6 c7 c8:Value,Blk w g 157 #[c0,c1,c2,c3,c4,c5,c6,c7,c8]/\[c0,c1,c2,c3,c4,c5,c6,c7,c8].all Cr=true/\RoL own w x [c0,c1,c2,c3,c4,c5,c6,c7,c8]
structure Book (own:Af) (w:World) (bk:Nat) (gs:Af) (ls:Rw) (v:Value):Prop where
 mine:Mine own w
 bkm:bk∈own
 box:Blk w bk 107 #[v]
 row:w.ownsRow 0 109 1 v gs.length (gs.map GS)
 rowm:∀ g,v.ownBlock=Θ g->g∈own/\g≠bk/\g∉gs
 len:ls.length=gs.length
 gm:∀ g∈gs,g∈own/\g≠bk
 nd:gs.Nodup
 line:∀(i:Nat) (h:i<gs.length) (h':i<ls.length),LineAt own w gs[i] ls[i]
theorem QE(gs:Af):(gs.map GS).all Cr=true:=by
 rw[Awr];intro x hx;obtain⟨g,_,rfl⟩:=List.mem_map.1 hx;rfl
theorem TS{w:World}{base size:Nat}{e:TypeId}{v:Value}{n:Nat}{xs:AO}(ho:w.ownsRow base e size v n xs):Cr v=true:=by
 rcases ho.2 with⟨rfl,_⟩|⟨g,cap,cur,rfl,_⟩<;>rfl
section
variable {own own':Af} {w w':World} {bk:Nat} {gs:Af} {ls:Rw} {v:Value}
theorem LineAt.kp{g:Nat}{x:Ab}(h:LineAt own w g x)(k:Kp own w w')(hg:g∈own):LineAt own w' g x:=by
 obtain⟨c0,c1,c2,c3,c4,c5,c6,c7,c8,h1,h2,h3⟩:=h;exact⟨c0,c1,c2,c3,c4,c5,c6,c7,c8,k.blk hg h1 h2,h2,h3.xt k.xt⟩
theorem LineAt.ext{g:Nat}{x:Ab}(h:LineAt own w g x)(k:Xt own own' w w')(hg:w'.heap[g]? = w.heap[g]?):LineAt own' w' g x:=by
 obtain⟨c0,c1,c2,c3,c4,c5,c6,c7,c8,h1,h2,h3⟩:=h;exact⟨c0,c1,c2,c3,c4,c5,c6,c7,c8,hg.trans h1,h2,h3.xt k⟩
theorem Book.kp(h:Book own w bk gs ls v)(k:Kp own w w'):Book own w' bk gs ls v:=
 ⟨h.mine.kp k,h.bkm,k.blk h.bkm h.box (by simp[TS h.row]),k.row h.row (λg hg=>(h.rowm g hg).1) (QE gs),h.rowm,h.len,h.gm,h.nd,λi h1 h2=>(h.line i h1 h2).kp k (h.gm _ (Aws h1)).1⟩
theorem Lm{base size:Nat}{e:TypeId}{n:Nat}{xs:AO}(ho:w.ownsRow base e size v n xs)(hk:∀ g,v.ownBlock=Θ g->w'.heap[g]? = w.heap[g]?):w'.ownsRow base e size v n xs:=by
 obtain⟨hl,ho⟩:=ho;refine⟨hl,?_⟩;rcases ho with h0|⟨g,cap,cur,rfl,hg,hcur,hn,hm2,hsz,htk⟩
 .exact .inl h0
 .exact .inr ⟨g,cap,cur,rfl,hg,(hk g rfl).trans hcur,hn,hm2,hsz,htk⟩
theorem Book.ext(h:Book own w bk gs ls v)(hm:Mine own' w')(hs:∀ g∈own,g∈own')(hx:Xt own own' w w')(hk:∀ g∈own,w'.heap[g]? = w.heap[g]?):Book own' w' bk gs ls v:=
 ⟨hm,hs _ h.bkm,(hk _ h.bkm).trans h.box,Lm h.row λg hg=>hk g (h.rowm g hg).1,λg hg=>⟨hs _ (h.rowm g hg).1,(h.rowm g hg).2⟩,h.len,λg hg=>⟨hs _ (h.gm g hg).1,(h.gm g hg).2⟩,h.nd,λi h1 h2=>(h.line i h1 h2).ext hx (hk _ (h.gm _ (Aws h1)).1)⟩
theorem Book.alloc(h:Book own w bk gs ls v)(T:TypeId)(cs:Array Value):Book (w.heap.size::own) (w.alloc (.cells cs T)) bk gs ls v:=
 h.ext (h.mine.alloc T cs) (λg hg=>Awk _ hg) (Xt.alloc own w _) λg hg=>Below.heap_alloc _ _ _ (h.mine.lt hg)
theorem Book.cell(h:Book own w bk gs ls v){k:Nat}(hk:k<gs.length):∃ g cap,v=.slice (Θ ⟨g,0,Ξ⟩) gs.length cap/\g<w.heap.size/\w.cell? ⟨g,k,Ξ⟩=Θ (GS gs[k]):=by
 obtain⟨hl,ho⟩:=h.row;rcases ho with⟨_,h0⟩|⟨g,cap,cur,rfl,hg,hcur,hn,hm2,hsz,htk⟩
 .omega
 .refine⟨g,cap,rfl,Dt (o:=k) (u:=GS gs[k]) ?_,?_⟩ <;>
  .rw[cell_of_row w g k cur _ (0,0) hcur]
   have h1:(gs.map GS)[k]? = Θ (GS gs[k]):=by rw[List.getElem?_map,ξ hk];rfl
   rw[←htk,AwP,Ac (by omega),AwE]at h1;exact h1
end
theorem Book.push{own:Af}{wr w7:World}{bk:Nat}{gs:Af}{ls:Rw}{v v':Value}(h:Book own wr bk gs ls v){c0 c1 c2 c3 c4 c5 c6 c7 c8:Value}(hf:[c0,c1,c2,c3,c4,c5,c6,c7,c8].all Cr=true){x:Ab}(hx:RoL own wr x [c0,c1,c2,c3,c4,c5,c6,c7,c8]){T2:TypeId}{n2:Array Value}
  (hown:w7.ownsRow 0 109 1 v' (gs.length+1) (gs.map GS++[GS wr.heap.size]))
  (hgrow:((wr.alloc (.cells #[c0,c1,c2,c3,c4,c5,c6,c7,c8] 157)).alloc (.cells n2 T2)).grownBy w7 v.ownBlock)
  (hloc:v'.ownBlock=v.ownBlock\/v'.ownBlock=Θ (wr.heap.size+2)) :
  ∃ own',Book own' (w7.setCell ⟨bk,0,Ξ⟩ v') bk (gs++[wr.heap.size]) (ls++[x]) v'/\Xt own own' wr (w7.setCell ⟨bk,0,Ξ⟩ v')/\∀ k∈own,k≠bk->v.ownBlock≠Θ k->k∈own'/\(w7.setCell ⟨bk,0,Ξ⟩ v').heap[k]? = wr.heap[k]?:=by
 have hsz:((wr.alloc (.cells #[c0,c1,c2,c3,c4,c5,c6,c7,c8] 157)).alloc (.cells n2 T2)).heap.size=wr.heap.size+2:=by simp
 have old:∀ g,g<wr.heap.size->v.ownBlock≠Θ g->w7.heap[g]? = wr.heap[g]?:=λg hg hr=>by
  refine(hgrow.block g (by omega) λe=>hr e.symm).trans ?_;refine(Below.heap_alloc _ _ _ (by simp;omega)).trans (Below.heap_alloc _ _ _ hg)
 have new:w7.heap[wr.heap.size]? = Θ (.cells #[c0,c1,c2,c3,c4,c5,c6,c7,c8] 157 (0,0)):=by
  refine(hgrow.block _ (by omega) λe=>?_).trans ((Below.heap_alloc _ _ _ (by simp)).trans (heap_alloc_new _ _));exact AxS _ (h.mine.lt (h.rowm _ e.symm).1)
 obtain⟨rg,rcap,rcur,hv',_,hrc,_⟩:∃ g cap cur,v'=.slice (Θ ⟨g,0,Ξ⟩) (gs.length+1) cap/\0<=g/\w7.heap[g]? = Θ (.cells cur 109 (0,0))/\gs.length+1<=cap:=by
  rcases hown.2 with⟨_,h0⟩|⟨g,cap,cur,h1,h2,h3,h4,_⟩
  .omega
  .exact⟨g,cap,cur,h1,h2,h3,h4⟩
 have hro:v'.ownBlock=Θ rg:=by rw[hv'];rfl
 have hbk:bk<wr.heap.size:=h.mine.lt h.bkm;have hbr:v.ownBlock≠Θ bk:=λe=>(h.rowm _ e).2.1 rfl
 have hwsz:wr.heap.size+2<=w7.heap.size:=by have:=hgrow.size;omega
 have sets:∀ g,g≠bk->(w7.setCell ⟨bk,0,Ξ⟩ v').heap[g]? = w7.heap[g]?:=λg hg=>Below.heap_setCell _ _ _ _ hg
 have hgs:∀ g∈gs,(w7.setCell ⟨bk,0,Ξ⟩ v').heap[g]? = wr.heap[g]?:=λg hg=>(sets g (h.gm g hg).2).trans (old g (h.mine.lt (h.gm g hg).1) λe=>(h.rowm _ e).2.2 hg)
 have hbox:Blk (w7.setCell ⟨bk,0,Ξ⟩ v') bk 107 #[v']:=by
  have:Blk w7 bk 107 #[v]:=(old bk hbk hbr).trans h.box;exact this.set_ 0 v'
 have hrow:(w7.setCell ⟨bk,0,Ξ⟩ v').ownsRow 0 109 1 v' (gs++[wr.heap.size]).length ((gs++[wr.heap.size]).map GS):=by
  rw[ε,List.map_append];refine Lm hown λg hg=>sets g λe=>?_
  subst e;rcases hloc with h1|h1
  .exact hbr (h1.symm.trans hg)
  .have:=h1.symm.trans hg
   injection this with this
   omega
 have xt:∀ own',(∀ g∈own',g∈own\/wr.heap.size<=g)->Xt own own' wr (w7.setCell ⟨bk,0,Ξ⟩ v'):=λown' hm=>
  .exact hgrow.os hgrow.tape hgrow.output (by simp[World.setCell];omega) (λg hg hn=>(sets g λe=>hn (e▸h.bkm)).trans (old g hg λe=>hn (h.rowm _ e).1)) hm
 have sd7:∀ own',(∀ g∈own',g∈own\/wr.heap.size<=g)->Sd own' w7:=λown' hm=>h.mine.sd.exact (by omega) (λg hg hn=>old g hg λe=>hn (h.rowm _ e).1) hm
 have fin:∀ own',Mine own' w7->(∀ g∈own',g∈own\/wr.heap.size<=g)->(∀ g∈own,v.ownBlock≠Θ g->g∈own')->wr.heap.size∈own'->rg∈own'->rg≠bk->rg∉gs->rg≠wr.heap.size->
   Book own' (w7.setCell ⟨bk,0,Ξ⟩ v') bk (gs++[wr.heap.size]) (ls++[x]) v':=λown' hm h1 h2 h3 h4 h5 h6 h7=>by
  refine⟨hm.set (h2 _ h.bkm hbr) _ _,h2 _ h.bkm hbr,hbox,hrow,λg hg=>?_,by rw[ε,ε,h.len];rfl,λg hg=>?_,?_,λi hi hi'=>?_⟩
  .rw[hro]at hg
   injection hg with hg
   subst hg;refine⟨h4,h5,λhmem=>?_⟩;rcases AwN.1 hmem with h8|h8
   .exact h6 h8
   .exact h7 (AwX.1 h8)
  .rcases AwN.1 hg with h8|h8
   .exact⟨h2 _ (h.gm g h8).1 λe=>(h.rowm _ e).2.2 h8,(h.gm g h8).2⟩
   .obtain rfl:=AwX.1 h8
    exact⟨h3,by omega⟩
  .refine List.nodup_append.2 ⟨h.nd,by simp,λa ha b hb=>?_⟩
   obtain rfl:=AwX.1 hb;have:=h.mine.lt (h.gm a ha).1;omega
  .have hl:=h.len
   by_cases hi2:i<gs.length
   .rw[Ay1 hi2,Ay1 (by omega)]
    exact(h.line i hi2 (by omega)).ext (xt own' h1) (hgs _ (Aws hi2))
   .have e1:i=gs.length:=by simp at hi;omega
    subst e1;have e2:(gs++[wr.heap.size])[gs.length]=wr.heap.size:=by simp
    have e3:(ls++[x])[gs.length]=x:=by simp[←hl]
    rw[e2,e3];exact⟨c0,c1,c2,c3,c4,c5,c6,c7,c8,(sets _ (by omega)).trans new,hf,hx.xt (xt own' h1)⟩
 rcases hloc with h1|h1
 .have hrg:v.ownBlock=Θ rg:=h1.symm.trans hro
  have hr:=h.rowm _ hrg;have hone:∀ g∈wr.heap.size::own,g∈own\/wr.heap.size<=g:=λg hg=>by
   rcases Awj.1 hg with rfl|hg
   .exact .inr (π _)
   .exact .inl hg
  refine⟨wr.heap.size::own,fin _ ⟨Ay7.2 ⟨λhm=>AxS _ (h.mine.lt hm),h.mine.nd⟩,λg hg=>?_,sd7 _ hone⟩ (λg hg=>?_) (λg hg _=>Awk _ hg) (Awi ..) (Awk _ hr.1) hr.2.1 hr.2.2 (Nat.ne_of_lt (h.mine.lt hr.1)),xt _ λg hg=>?_,λk hk hkb hkr=>⟨Awk _ hk,(sets k hkb).trans (old k (h.mine.lt hk) hkr)⟩⟩
  .rcases Awj.1 hg with rfl|hg
   .exact⟨_,_,new⟩
   .by_cases e:g=rg
    .subst e
     exact⟨_,_,hrc⟩
    .obtain⟨T,cs,hb⟩:=h.mine.all g hg
     exact⟨T,cs,(old g (h.mine.lt hg) λe'=>e (by rw[hrg]at e';injection e' with e';exact e'.symm)).trans hb⟩
  .rcases Awj.1 hg with rfl|hg
   .exact .inr (π _)
   .exact .inl hg
  .rcases Awj.1 hg with rfl|hg
   .exact .inr (π _)
   .exact .inl hg
 .have hrg:rg=wr.heap.size+2:=by rw[hro]at h1;injection h1
  subst hrg;have hsub:∀ g,g∈(wr.heap.size+2)::wr.heap.size::own.filter (λg=>decide (v.ownBlock≠Θ g))->g=wr.heap.size+2\/g=wr.heap.size\/(g∈own/\v.ownBlock≠Θ g):=λg hg=>by
   simpa[AxJ]using hg
  have hone:∀ g,g∈(wr.heap.size+2)::wr.heap.size::own.filter (λg=>decide (v.ownBlock≠Θ g))->g∈own\/wr.heap.size<=g:=λg hg=>by
   rcases hsub g hg with rfl|rfl|h2
   .exact .inr (by omega)
   .exact .inr (π _)
   .exact .inl h2.1
  have hlt:∀ g∈own.filter (λg=>decide (v.ownBlock≠Θ g)),g<wr.heap.size:=λg hg=>h.mine.lt (AxJ.1 hg).1
  refine⟨_,fin ((wr.heap.size+2)::wr.heap.size::own.filter (λg=>decide (v.ownBlock≠Θ g))) ⟨?_,λg hg=>?_,sd7 _ hone⟩ hone (λg hg hr=>?_) (by simp) (by simp) (by omega) (λhm=>?_) (by omega),xt _ hone,λk hk hkb hkr=>⟨by simp[AxJ,hk,hkr],(sets k hkb).trans (old k (h.mine.lt hk) hkr)⟩⟩
  .refine Ay7.2 ⟨λhm=>?_,Ay7.2 ⟨λhm=>?_,h.mine.nd.filter _⟩⟩
   .rcases Awj.1 hm with h2|h2
    .omega
    .have:=hlt _ h2;omega
   .have:=hlt _ hm;omega
  .rcases hsub g hg with rfl|rfl|h2
   .exact⟨_,_,hrc⟩
   .exact⟨_,_,new⟩
   .obtain⟨T,cs,hb⟩:=h.mine.all g h2.1
    exact⟨T,cs,(old g (h.mine.lt h2.1) h2.2).trans hb⟩
  .simp[AxJ,hg,hr]
  .have:=h.mine.lt (h.gm _ hm).1
   omega
def FF:Ab:=[bv Φ,.ls [],bv Φ,.ls [],bv Φ,bv Φ]
def Fz(sm:Ab->Bool)(ls:Rw)(new:Ab):Rw:=if ls.findIdx sm<ls.length then ls else ls++[new]
theorem Ob{w:World}{g:Nat}{T:TypeId}{a b c:Value}(h:Blk w g T #[a,b,c]):w.cell? ⟨g,0,Ξ⟩=Θ a/\w.cell? ⟨g,1,Ξ⟩=Θ b/\w.cell? ⟨g,2,Ξ⟩=Θ c:=⟨h.cell 0,h.cell 1,h.cell 2⟩
theorem Zp{w:World}{g:Nat}{T:TypeId}{a b c d e f x y z:Value}(h:Blk w g T #[a,b,c,d,e,f,x,y,z]):w.cell? ⟨g,0,Ξ⟩=Θ a/\w.cell? ⟨g,1,Ξ⟩=Θ b/\w.cell? ⟨g,2,Ξ⟩=Θ c:=⟨h.cell 0,h.cell 1,h.cell 2⟩
theorem UY{own:Af}{w:World}:∀{xs:Ab} {us:AO} (n:Nat),RoL own w xs us->RoL own w (xs.take n) (us.take n)
 |_,_,0,_=>by rw[Aye,Aye];exact RoL.nil _ _
 |[],us,n+1,h=>by
  obtain rfl:=RoL.nil_inv h;exact RoL.nil _ _
 |x::xs,us,n+1,h=>by
  obtain⟨u,t,rfl,h1,h2⟩:=RoL.cons_inv h;exact RoL.cons h1 (UY n h2)
theorem SY{own:Af}{w:World}:∀{xs:Ab} {us:AO} {ys:Ab} {vs:AO},RoL own w xs us->RoL own w ys vs->RoL own w (xs++ys) (us++vs)
 |[],us,ys,vs,h,h2=>by
  obtain rfl:=RoL.nil_inv h;exact h2
 |x::xs,us,ys,vs,h,h2=>by
  obtain⟨u,t,rfl,h1,h3⟩:=RoL.cons_inv h;exact RoL.cons h1 (SY h3 h2)
theorem Ad5{own:Af}{w:World}:Ro own w (.ls []) (.slice Ξ 0 0):=by
 unfold Ro;simp only[Rep];exact⟨rfl,Ξ,0,rfl,π _,Awz _,λh=>absurd rfl h⟩
theorem Ako{own:Af}{w:World}{p:Ab}{u0 u1 u2:Value}(h:RoL own w p [u0,u1,u2]):RoL own w (p++FF) [u0,u1,u2,.bool Φ,.slice Ξ 0 0,.bool Φ,.slice Ξ 0 0,.bool Φ,.bool Φ]:=
 SY h (RoL.cons (Ro.v rfl) (RoL.cons Ad5 (RoL.cons (Ro.v rfl) (RoL.cons Ad5 (RoL.cons (Ro.v rfl) (RoL.cons (Ro.v rfl) (RoL.nil _ _)))))))
set_option maxHeartbeats 4000000 in
set_option maxRecDepth 100000 in
theorem TQ(dq:Nat->DF)(G:∀ f,BD (BL Av9 f) (dq f)){own:Af}{w:World}{bk:Nat}{gs:Af}{ls:Rw}{v:Value}(hB:Book own w bk gs ls v)(hlen:gs.length<=1000000)(p:Ab)(u0 u1 u2:Value)(hp:RoL own w p [u0,u1,u2])(hf:[u0,u1,u2].all Cr=true)
  (sm:Ab->Bool) (hS:∀ x∈ls,dq 213 [.agg (x.take 3),.agg p] []=Θ (bv (sm x),[])) :
  Calls Av9 159 #[GS bk,.agg #[u0,u1,u2]] w λe w'=>∃ own' gs' v' g,e=.returned (GS g)/\gs'[ls.findIdx sm]? = Θ g/\Book own' w' bk gs' (Fz sm ls (p++FF)) v'/\Xt own own' w w'/\(∀ k∈gs',k<w.heap.size->k∈gs)/\gs'.length<=gs.length+1/\∀ k∈own,k≠bk->v.ownBlock≠Θ k->k∈own'/\∀ T cs,Blk w k T cs->cs.toList.all Cr=true->Blk w' k T cs:=by
 obtain⟨A,cap,rfl⟩:=GQ hB.row;have HB:=ι hB;have HP:=ι hp;have HF:=ι hf;have HS:=ι hS;have l0:bk<w.heap.size:=hB.box.lt;have e0:=hB.box.cell 0;simp only[AwH,Awx]at e0;clear hB hp hf hS;unfold GS
 go_enter Tryz.func159,Tryz.ntmps159
 go_wp2_with fail
 go_loopw [13] (λq wr=>∃ k:Nat,k<=gs.length/\q=.int .i64 k/\Book (w.heap.size::own) wr bk gs ls (.slice A gs.length cap)/\Blk wr w.heap.size 28 #[u0,u1,u2]/\RoL (w.heap.size::own) wr p [u0,u1,u2]/\Xt own (w.heap.size::own) w wr/\(∀ k∈own,∀ T cs,Blk w k T cs->cs.toList.all Cr=true->Blk wr k T cs)/\∀ j (h:j<ls.length),j<k->sm ls[j]=Φ) (λq _=>gs.length-(intOf q).toNat)
 case atStart=>exact⟨0,Awz _,rfl,HB.out.alloc _ _,Blk.new _ _ _,HP.out.xt (Xt.alloc own w _),Xt.alloc own w _,λk _ T cs h _=>h.alloc _,λj _ h=>absurd h (Nat.not_lt_zero _)⟩
 case round=>
  obtain⟨k,hk,rfl,hb,hbx,hpr,hxt,hkp,hno⟩:=hrel;have HKP:=ι hkp;clear hkp;have HBK:=ι hb;have HBX:=ι hbx;have HPR:=ι hpr;have HXT:=ι hxt;have HNO:=ι hno;clear hb hbx hpr hxt hno
  by_cases hlt:k<gs.length
  .have hlt':k<ls.length:=by rw[HBK.out.len];exact hlt
   obtain⟨g,cap',hv,hgl,hc⟩:=HBK.out.cell hlt;injection hv with hA _ hcap
   subst hA hcap;obtain⟨c0,c1,c2,c3,c4,c5,c6,c7,c8,hlb,hlf,hlr⟩:=HBK.out.line k hlt hlt';have z0:(0:Int)<=(k:Int):=by omega
   have z1:(k:Int)<(gs.length:Int):=by omega
   have hgk:gs[k]<wr.heap.size:=hlb.lt;obtain⟨x0,x1,x2⟩:=Zp hlb;obtain⟨y0,y1,y2⟩:=Ob HBX.out;have y3:=HBX.out.lt;have HLR:=ι hlr;have hsame:=HS.out ls[k] (Aws hlt');clear hlb hlf hlr;unfold GS at hc
   go_wp2_with fail
   go_region_with (go_at_call 213;refine(BN (G _) hsame rfl (HBK.out.mine.kp (Kp.drew _ _)) (us:=[.agg #[c0,c1,c2],.agg #[u0,u1,u2]]) (RoL.cons (Ro.agg ((UY 3 HLR.out).xt (Kp.drew _ _).xt)) (RoL.cons (Ro.agg (HPR.out.xt (Kp.drew _ _).xt)) (RoL.nil _ _)))).mono ?_;rintro e w4 ⟨u,rfl,hk4,hu⟩;obtain rfl:=Rp.bool_inv hu.rp)
   all_goals
    have HK4:=ι ((Kp.drew _ _).trans hk4);clear hk4 hu x0 x1 x2 y0 y1 y2 y3 hsame hc
    cases hs:sm ls[k]with
    |true=>
     have hfi:ls.findIdx sm=k:=(List.findIdx_eq hlt').2 ⟨hs,λj hj=>HNO.out j (by omega) hj⟩
     go_wp2
     go_ret
     refine⟨w.heap.size::own,gs,.slice (Θ ⟨g,0,Ξ⟩) gs.length cap,gs[k],rfl,by rw[hfi];exact ξ hlt,?_,HXT.out.trans HK4.out.xt,λ_ h _=>h,Nat.le_succ _,λk' hk' _ _=>⟨Awk _ hk',λT cs hb hf=>HK4.out.blk (Awk _ hk') (HKP.out k' hk' T cs hb hf) hf⟩⟩;unfold Fz;rw[hfi,Ac hlt'];exact HBK.out.kp HK4.out
    |false=>
     go_wp2_with fail
     go_roundw
     case rel=>
      refine⟨k+1,hlt,by go_num,HBK.out.kp HK4.out,HK4.out.blk (Awi ..) HBX.out HF.out,HPR.out.xt HK4.out.xt,HXT.out.trans HK4.out.xt,λk' hk' T cs hb hf=>HK4.out.blk (Awk _ hk') (HKP.out k' hk' T cs hb hf) hf,λj h hj=>?_⟩;rcases Nat.lt_or_ge j k with h1|h1
      .exact HNO.out j h h1
      .obtain rfl:j=k:=by omega
       exact hs
     case measure=>simp[intOf];omega
  .obtain rfl:k=gs.length:=by omega
   have z1:¬ (gs.length:Int)<(gs.length:Int):=by omega
   obtain⟨y0,y1,y2⟩:=Ob HBX.out;have y3:=HBX.out.lt;have x0:=HBK.out.box.cell 0;have x1:=HBK.out.box.lt;simp only[AwH,Awx]at x0;have hfi:ls.findIdx sm=ls.length:=List.findIdx_eq_length.2 λx hx=>by
    obtain⟨j,hj,rfl⟩:=List.getElem_of_mem hx;exact HNO.out j hj (by rw[←HBK.out.len];exact hj)
   have HFI:=ι hfi;clear hfi;obtain⟨i0,hi0,hz0,hz1,hz2⟩:=info_parts (show (Tryz.prog.info? 109).map (λi=>(i.zero,i.size,i.bytes))=Θ (Θ (.pointer Ξ),1,8) by kernel_rfl)
   go_wp2_with (at_builtin;refine wpList_append_own_at _ rfl _ _ 105 rfl 0 109 i0 (.pointer Ξ) 1 8 Tryz.underlying105 hi0 hz0 hz1 hz2 rfl (by decide) _ gs.length (gs.map GS) rfl ?c0 ⟨wr.heap.size+1,0,Ξ⟩ 1 1 [GS wr.heap.size] rfl rfl ?c1 ?c2 ?c3 ?c4 ?c5 ?_)
   case c0=>exact Lm HBK.out.row λg hg=>(Below.heap_alloc _ _ _ (by have:=HBK.out.mine.lt (HBK.out.rowm g hg).1;simp;omega)).trans (Below.heap_alloc _ _ _ (HBK.out.mine.lt (HBK.out.rowm g hg).1))
   case c1=>exact λ_ _ h=>h
   case c2=>rfl
   case c3=>unfold maxLen;omega
   case c4=>omega
   intro v' w7 hown hgrow _ hloc;obtain⟨A',cap',rfl⟩:=GQ hown;have hu3:[u0,u1,u2].all Cr=true:=HF.out;obtain⟨own',hbk',hxt',hkk'⟩:=HBK.out.push (c0:=u0) (c1:=u1) (c2:=u2) (c3:=.bool Φ) (c4:=.slice Ξ 0 0) (c5:=.bool Φ) (c6:=.slice Ξ 0 0) (c7:=.bool Φ) (c8:=.bool Φ) (x:=p++FF) (by
    simp only[List.all_cons,List.all_nil,Bool.and_true,Bool.and_eq_true]at hu3 ⊢;exact⟨hu3.1,hu3.2.1,hu3.2.2,rfl,rfl,rfl,rfl,rfl,rfl⟩) (Ako HPR.out) hown hgrow (by simpa using hloc)
   have hbf:Book own' (w7.setCell ⟨bk,0,Ξ⟩ (.slice A' (gs.length+1) cap')) bk (gs++[wr.heap.size]) (Fz sm ls (p++FF)) (.slice A' (gs.length+1) cap'):=by
    unfold Fz;rw[HFI.out,Ad (AxS _)];exact hbk'
   have HBKF:=hbf;have HXT':=ι hxt';have HKK:=ι hkk';clear hkk';have k0:w7.cell? ⟨bk,0,Ξ⟩=Θ (.slice A gs.length cap):=by
    have h1:Blk w7 bk 107 #[.slice A gs.length cap]:=by
     refine(hgrow.block bk (by simp;omega) λe=>(HBK.out.rowm _ e.symm).2.1 rfl).trans ?_;exact(Below.heap_alloc _ _ _ (by simp;omega)).trans ((Below.heap_alloc _ _ _ x1).trans HBK.out.box)
    exact h1.cell 0
   have k1:w7.frozen? ⟨bk,0,Ξ⟩=Φ:=by
    have h1:Blk w7 bk 107 #[.slice A gs.length cap]:=by
     refine(hgrow.block bk (by simp;omega) λe=>(HBK.out.rowm _ e.symm).2.1 rfl).trans ?_;exact(Below.heap_alloc _ _ _ (by simp;omega)).trans ((Below.heap_alloc _ _ _ x1).trans HBK.out.box)
    exact h1.frozen 0
   clear hown hgrow hloc hbk' hbf hxt' hu3 x0 x1 y0 y1 y2 y3
   go_wp2
   go_ret
   refine⟨own',gs++[wr.heap.size],_,wr.heap.size,rfl,?_,HBKF,HXT.out.trans HXT'.out,λk' hk' hl'=>by
    rcases AwN.1 hk' with h8|h8
    .exact h8
    .have:=HXT.out.size
     have:=AwX.1 h8;omega,by simp,λk' hk' h1 h2=>⟨(HKK.out k' (Awk _ hk') h1 h2).1,λT cs hb hf=>(HKK.out k' (Awk _ hk') h1 h2).2.trans (HKP.out k' hk' T cs hb hf)⟩⟩
   rw[HFI.out,HBK.out.len];simp
