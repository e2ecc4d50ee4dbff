/-
  Seats of D: contracts from elsewhere, tables of functions. No program in sight.
  A block of the call's own, known whole; boxes that a region of open order lays and fills. No program in sight.
-/
import Derived.Test.YtpncilciembjdaaGreatDoorAAN
import Derived.WalkKit
import Derived.WalkSpells
import Derived.WalkLawsBesides
import Derived.Deep.Draws
import Derived.Lib.Hide
set_option linter.unusedSectionVars false
set_option linter.unusedSimpArgs false
set_option linter.unusedVariables false
namespace Go.Proofs.YtpncilciembjdaaGreatDoor
open Go.RowKit

def resName:List AV->Option AV
 |[.v (.string s)]=>if s.size<=9223372036854775807 then some (bv (nameB s.data.toList)) else none
 |_=>none
def extD(res:List AV->Option AV):DF:=fun args bs=>match bs with
 |[]=>(res args).map fun r=>(r,[])
 |_=>none
def AllFn(P:Program)(ents:Nat):List (Nat × MFn)->Prop
 |[]=>True
 |p::r=>(∃ hs a b,p.2=mfD P ents hs a b p.1)/\okFnD P p.1=true/\AllFn P ents r
theorem allFn_mem{P:Program}{ents:Nat}:∀{L:List (Nat × MFn)},AllFn P ents L->∀ f mf,(f,mf)∈L->FnOk P ents f mf
 |p::r,⟨⟨hs,a,b,h1⟩,h2,h3⟩,f,mf,hm=>by
  rcases List.mem_cons.1 hm with rfl|hm
  .have h1:mf=_:=h1
   rw[h1]
   exact fnOk_of h2
  .exact allFn_mem h3 f mf hm
theorem allFn_app{P:Program}{ents:Nat}:∀{L L':List (Nat × MFn)},AllFn P ents L->AllFn P ents L'->AllFn P ents (L++L')
 |[],_,_,h=>h
 |_::_,_,⟨h1,h2,h3⟩,h=>⟨h1,h2,allFn_app h3 h⟩
def entOkB(P:Program)(ents n:Nat):Bool:=Nat.blt ents (2 ^ n)&&(List.range n).all fun g=>!ents.testBit g||enterable P g
theorem entOk_of{P:Program}{ents n:Nat}(h:entOkB P ents n=true):EntOk P ents:=by
 unfold entOkB at h
 rw[Bool.and_eq_true]at h
 intro g hg
 have hn:ents<2 ^ n:=Nat.blt_eq.mp h.1
 by_cases hgn:g<n
 .have:=List.all_eq_true.1 h.2 g (List.mem_range.2 hgn)
  rw[hg]at this
  simpa using this
 .have:ents<2 ^ g:=Nat.lt_of_lt_of_le hn (Nat.pow_le_pow_right (by decide) (by omega))
  rw[Nat.testBit_lt_two_pow this]at hg
  cases hg
theorem find_app{α:Type}{f:Nat}:∀{A B:List (Nat × α)},findN f (A++B)=match findN f A with
  |some a=>some a
  |none=>findN f B
 |[],_=>rfl
 |(m,b)::r,B=>by
  have ih:=find_app (f:=f) (A:=r) (B:=B)
  show (match Nat.beq f m with
   |true=>some b
   |false=>findN f (r++B))=match (match Nat.beq f m with
   |true=>some b
   |false=>findN f r) with
   |some a=>some a
   |none=>findN f B
  cases Nat.beq f m with
  |true=>rfl
  |false=>exact ih
def apartN(A B:List (Nat × MFn)):Bool:=B.all fun p=>(findN p.1 A).isNone
theorem find_right{A B:List (Nat × MFn)}(h:apartN A B=true){f:Nat}{mf:MFn}(hf:findN f B=some mf):findN f (A++B)=some mf:=by
 have:=List.all_eq_true.1 h _ (findN_mem hf)
 have h0:findN f A=none:=Option.isNone_iff_eq_none.1 this
 rw[find_app,h0]
 exact hf
theorem find_left{A B:List (Nat × MFn)}{f:Nat}{mf:MFn}(hf:findN f A=some mf):findN f (A++B)=some mf:=by
 rw[find_app,hf]
end Go.Proofs.YtpncilciembjdaaGreatDoor
namespace Go.Proofs.YtpncilciembjdaaGreatDoor
open Go.RowKit

theorem below_drew{B:Nat}{W w:World}(h:Below B W w):Below B W w.drew:=h.drew
theorem below_undrew{w w':World}(h:Below w.drew.heap.size w.drew w'):Below w.heap.size w w':=⟨h.os,h.tape,h.output,h.size,h.block⟩
theorem below_call{W w w':World}(h:Below W.heap.size W w)(hb:Below w.heap.size w w'):Below W.heap.size W w':=h.trans (hb.mono h.size)
theorem below_one(w:World)(o:Obj):Below w.heap.size w (w.alloc o):=(Below.refl _ _).alloc (Nat.le_refl _) o

def Blk(w:World)(g:Nat)(t:TypeId)(cs:Array Value):Prop:=w.heap[g]? = some (.cells cs t (0,0))

section
variable {w w':World} {g:Nat} {t:TypeId} {cs:Array Value}
theorem Blk.lt(h:Blk w g t cs):g<w.heap.size:=by
 rcases Nat.lt_or_ge g w.heap.size with hlt|hge
 .exact hlt
 .unfold Blk at h;rw[Array.getElem?_eq_none hge]at h;cases h
theorem Blk.cell(h:Blk w g t cs)(i:Nat):w.cell? ⟨g,i,none⟩=cs[i]?:=cell_of_row w g i cs t (0,0) h
theorem Blk.frozen(h:Blk w g t cs)(i:Nat):w.frozen? ⟨g,i,none⟩=false:=by
 unfold Blk at h
 simp[World.frozen?,h]
theorem Blk.new(w:World)(t:TypeId)(cs:Array Value):Blk (w.alloc (.cells cs t)) w.heap.size t cs:=heap_alloc_new w _
theorem Blk.drew(h:Blk w g t cs):Blk w.drew g t cs:=h
theorem Blk.alloc(h:Blk w g t cs)(o:Obj):Blk (w.alloc o) g t cs:=(Below.heap_alloc w o g h.lt).trans h
theorem Blk.set_(h:Blk w g t cs)(i:Nat)(u:Value):Blk (w.setCell ⟨g,i,none⟩ u) g t (cs.setIfInBounds i u):=by
 unfold Blk at h ⊢
 simp[World.setCell,Array.getElem?_modify,h]
theorem Blk.far(h:Blk w g t cs){p:Addr}(hp:g≠p.block)(u:Value):Blk (w.setCell p u) g t cs:=(Below.heap_setCell w p u g hp).trans h
theorem Blk.below{B:Nat}(h:Blk w g t cs)(hb:Below B w w')(hg:g<B):Blk w' g t cs:=(hb.block g hg).trans h
theorem Blk.call(h:Blk w g t cs)(hb:Below w.heap.size w w'):Blk w' g t cs:=h.below hb h.lt
end

def Own(w:World)(B g:Nat)(t:TypeId)(v:Value)(cs:Array Value):Prop:=B<=g/\v=.pointer (some ⟨g,0,none⟩)/\Blk w g t cs
section
variable {w w':World} {B g:Nat} {t:TypeId} {v:Value} {cs:Array Value}
theorem Own.call(h:Own w B g t v cs)(hb:Below w.heap.size w w'):Own w' B g t v cs:=⟨h.1,h.2.1,h.2.2.call hb⟩
end
def pick{α:Type}(d:Bool)(x y:α):α:=match d with|true=>x|false=>y

section
variable {w w':World} {base base' e size n:Nat} {v:Value} {xs:List Value}
theorem grown_of_below{row:Option Nat}(hb:Below w.heap.size w w'):w.grownBy w' row:=⟨hb.os,hb.tape,hb.output,hb.size,fun k hk _=>hb.block k hk⟩
theorem own_call(h:w.ownsRow base e size v n xs)(hb:Below w.heap.size w w'):w'.ownsRow base e size v n xs:=h.kept (row:=none) (grown_of_below hb) (by cases hv:v.ownBlock<;>simp)
theorem own_shape(h:w.ownsRow base e size v n xs):∃ A c,v=.slice A n c:=by
 rcases h.2 with⟨h1,h0⟩|⟨g,cap,cur,h1,_⟩
 .exact⟨none,0,by rw[h1,h0]⟩
 .exact⟨_,_,h1⟩
end
end Go.Proofs.YtpncilciembjdaaGreatDoor
