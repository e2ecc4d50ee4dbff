/- A block of the call's ow -/
import Derived.WalkKit
import Derived.WalkSpells
import Derived.WalkLawsBesides
import Derived.Deep.Draws
import Derived.Lib.Hide
import Derived.Test.YtlmhajfbpplpoaaGreatMAN
import Derived.Shelf.Strings.Builder1
import Derived.Laws.ComplexArith
import Derived.Test.YtlmhajfbpplpoaaGreatMAA
import Derived.OrdersHeld
import Derived.StillTail
import Derived.Deep.QuietTactic
import Derived.BigQuiet
import Derived.Test.YtlmhajfbpplpoaaGreatMAM
import Derived.Deep.RegionHeld3
set_option linter.all false
open Array renaming ext->AyY,getElem?_append_left->Ax3,getElem?_eq_none->AwF,getElem?_eq_some_iff->Awl,replicate->AxS
open Bool renaming false->Θ,true->U,and_eq_true->AvF,eq_iff_iff->Axj,false_eq_true->Awi
open Int renaming natAbs_natCast->Ayr
open List renaming all_eq_true->AvJ,getD_eq_getElem?_getD->Av1,getElem?_cons_succ->Awa,getElem?_cons_zero->Awm,getElem?_eq_getElem->Ω,getElem?_map->AwC,getElem?_toArray->Awt,getElem_mem->AvN,length_append->ζ,length_take->Av6,map_cons->AvT
open Nat renaming add_zero->Awr,le_refl->η,le_trans->Awe,log2_eq_iff->AxF,lt_of_lt_of_le->Awp,lt_or_ge->Av3,min_eq_left->AwM,mul_assoc->Axd,mul_le_mul_right->Awq,mul_lt_mul_of_pos_right->Axh,mul_ne_zero->AxX,ne_of_gt->Axq,pow_add->Axn,shiftLeft_eq->Aye,shiftLeft_zero->Axv,two_pow_pos->Aw1,zero_le->Awh,zero_mul->AwK
open Option renaming none->Δ,some->V,map_eq_some_iff->Aw2
namespace Go.Proofs.YtlmhajfbpplpoaaGreat
noncomputable section
open BO renaming set->AvH
open Lib renaming BuilderAt->AyQ,IsBuilder->Axb,byteCells->AwW,byteCells_append->AwX,byteCells_length->AwY,cell_of_heap->AxP,hid->θ,indexByte->Ayn,strCells->AyU
open Tryz renaming prog->π
open Go.RowKit
theorem Kr{B:Nat}{W w:World}(h:Below B W w):Below B W w.drew:=h.drew
theorem SH{w w':World}(h:Below w.drew.heap.size w.drew w'):Below w.heap.size w w':=⟨h.os,h.tape,h.output,h.size,h.block⟩
theorem CN{W w:World}{o:Obj}(h:Below W.heap.size W w):Below W.heap.size W (w.alloc o):=h.alloc h.size o
theorem Dj{W w:World}{p:Addr}{u:Value}(h:Below W.heap.size W w)(hp:W.heap.size<=p.block):Below W.heap.size W (w.setCell p u):=h.setCell hp u
theorem Bb{W w w':World}(h:Below W.heap.size W w)(hb:Below w.heap.size w w'):Below W.heap.size W w':=h.trans (hb.mono h.size)
theorem Bw(w:World)(o:Obj):Below w.heap.size w (w.alloc o):=(Below.refl _ _).alloc (η _) o
theorem Bq{a b:Bool}(h:a=b):Ending.returned (.bool a)=.returned (.bool b):=by rw[h]
def Blk(w:World)(g:Nat)(t:TypeId)(cs:Array Value):Prop:=w.heap[g]? = V (.cells cs t (0,0))
section
variable {w w':World} {g:Nat} {t:TypeId} {cs:Array Value}
theorem Blk.lt(h:Blk w g t cs):g<w.heap.size:=by
 rcases Av3 g w.heap.size with hlt|hge
 .exact hlt
 .unfold Blk at h;rw[AwF hge]at h;cases h
theorem Blk.cell(h:Blk w g t cs)(i:Nat):w.cell? ⟨g,i,Δ⟩=cs[i]?:=cell_of_row w g i cs t (0,0) h
theorem Blk.frozen(h:Blk w g t cs)(i:Nat):w.frozen? ⟨g,i,Δ⟩=Θ:=by
 unfold Blk at h;simp[World.frozen?,h]
theorem Blk.new(w:World)(t:TypeId)(cs:Array Value):Blk (w.alloc (.cells cs t)) w.heap.size t cs:=heap_alloc_new w _
theorem Blk.drew(h:Blk w g t cs):Blk w.drew g t cs:=h
theorem Blk.alloc(h:Blk w g t cs)(o:Obj):Blk (w.alloc o) g t cs:=(Below.heap_alloc w o g h.lt).trans h
theorem Blk.set_(h:Blk w g t cs)(i:Nat)(u:Value):Blk (w.setCell ⟨g,i,Δ⟩ u) g t (cs.setIfInBounds i u):=by
 unfold Blk at h ⊢;simp[World.setCell,Array.getElem?_modify,h]
theorem Blk.far(h:Blk w g t cs){p:Addr}(hp:g≠p.block)(u:Value):Blk (w.setCell p u) g t cs:=(Below.heap_setCell w p u g hp).trans h
theorem Blk.below{B:Nat}(h:Blk w g t cs)(hb:Below B w w')(hg:g<B):Blk w' g t cs:=(hb.block g hg).trans h
theorem Blk.call(h:Blk w g t cs)(hb:Below w.heap.size w w'):Blk w' g t cs:=h.below hb h.lt
end
def Own(w:World)(B g:Nat)(t:TypeId)(v:Value)(cs:Array Value):Prop:=B<=g/\v=.pointer (V ⟨g,0,Δ⟩)/\Blk w g t cs
section
variable {w w':World} {B g:Nat} {t:TypeId} {v:Value} {cs:Array Value}
theorem Own.call(h:Own w B g t v cs)(hb:Below w.heap.size w w'):Own w' B g t v cs:=⟨h.1,h.2.1,h.2.2.call hb⟩
end
def pick{α:Type}(d:Bool)(x y:α):α:=match d with|true=>x|false=>y
section
variable {w w':World} {base base' e size n:Nat} {v:Value} {xs:AN}
theorem IV{row:Option Nat}(hb:Below w.heap.size w w'):w.grownBy w' row:=⟨hb.os,hb.tape,hb.output,hb.size,λk hk _=>hb.block k hk⟩
theorem PR(h:w.ownsRow base e size v n xs)(hb:Below w.heap.size w w'):w'.ownsRow base e size v n xs:=h.kept (row:=Δ) (IV hb) (by cases hv:v.ownBlock<;>simp)
theorem Af4(h:w.ownsRow base e size v n xs)(hb:base'<=base):w.ownsRow base' e size v n xs:=
 ⟨h.1,h.2.imp id λ⟨g,cap,cur,h1,h2,h3⟩=>⟨g,cap,cur,h1,Awe hb h2,h3⟩⟩
theorem Nu{W:World}{row:Option Nat}(h:Below W.heap.size W w)(hg:w.grownBy w' row)(hr:∀ k,row=V k->W.heap.size<=k):Below W.heap.size W w':=h.grown hg h.size hr
theorem Tv{B:Nat}(h:w.ownsRow base e size v n xs)(hB:B<=base):∀ k,v.ownBlock=V k->B<=k:=λk hk=>Awe hB (h.lt k hk).1
end
def WQ(P:Program)(g:FuncId):Prop:=∀(args:Array Value) (w:World),(callFunc g args).run P w=.ok (.enter g args) w
theorem AaK:(Tryz.prog.info? 5).map (λi=>(i.zero,i.size,i.bytes))=V (V (.int .u8 0),1,1):=by kernel_rfl
theorem Um:(Tryz.prog.info? 119).map (·.size)=V 2:=by kernel_rfl
theorem Ade:liesAt π Tryz.prog.depth 119 (2 / Tryz.prog.cellsOf 119) 0 119 1=U:=by kernel_rfl
set_option maxHeartbeats 1000000 in
set_option maxRecDepth 100000 in
theorem O1(b:Nat)(w:World)(h0:w.cell? ⟨b,0,Δ⟩=V (.pointer (V ⟨b,0,Δ⟩))) :
  Calls π 106 #[.pointer (V ⟨b,0,Δ⟩)] w λe w'=>e=.returned (.tuple #[])/\w'=w:=by
 obtain⟨j,hj,_⟩:=Aw2.1 Um
 go_enter Tryz.func106,Tryz.ntmps106
 go_wp2
 rw[Lib.run_neq_ptr_same w _ Tryz.underlying116 hj]
 go_wp2
 go_end0
 exact⟨rfl,rfl⟩
set_option maxHeartbeats 1000000 in
set_option maxRecDepth 100000 in
theorem N6(b:Nat)(w:World)(h0:w.cell? ⟨b,0,Δ⟩=V (.pointer Δ))(hsh:w.shape? b=V (119,2))(hfz:w.frozen? ⟨b,0,Δ⟩=Θ) :
  Calls π 106 #[.pointer (V ⟨b,0,Δ⟩)] w λe w'=>e=.returned (.tuple #[])/\w'=w.setCell ⟨b,0,Δ⟩ (.pointer (V ⟨b,0,Δ⟩)):=by
 obtain⟨j,hj,hjs⟩:=Aw2.1 Um
 go_enter Tryz.func106,Tryz.ntmps106
 go_wp2
 rw[Lib.run_to_unsafe w ⟨b,0,Δ⟩ Tryz.underlying116 Tryz.underlying222 hj (by rw[hjs];decide) hsh (Nat.zero_lt_succ 1)];simp only[Result.andThen];rw[Oper.upon_value]
 go_wp2
 rw[run_callFunc_extern Tryz.func167 (by kernel_rfl) (by kernel_rfl) (by kernel_rfl) (e:=Extern.AbiNoEscape.same) (by kernel_rfl)];rw[Lib.run_noEscape];simp only[Result.andThen];rw[Oper.upon_value]
 go_wp2
 rw[Lib.run_from_unsafe w ⟨b,0,Δ⟩ Tryz.underlying222 Tryz.underlying116 hj hsh Ade];simp only[Result.andThen];rw[Oper.upon_value]
 go_wp2
 go_end0
 exact⟨rfl,rfl⟩
theorem QS(B b:Nat)(bs:AN)(w:World)(h:Axb 119 5 B b bs w) :
  Calls π 106 #[.pointer (V ⟨b,0,Δ⟩)] w λe w'=>e=.returned (.tuple #[])/\(AyQ 119 5 B b (.pointer (V ⟨b,0,Δ⟩)) bs w'/\Below B w w'/\∀ k,k≠b->w'.heap[k]? = w.heap[k]?):=by
 rcases h with h|h
 .refine(N6 b w h.cell0 h.shape h.frozen0).mono ?_
  rintro e w' ⟨rfl,rfl⟩;exact⟨rfl,h.used _,(Below.refl B w).setCell (p:=⟨b,0,Δ⟩) h.1 _,λk hk=>Below.heap_setCell _ _ _ _ hk⟩
 .refine(O1 b w h.cell0).mono ?_
  rintro e w' ⟨rfl,rfl⟩;exact⟨rfl,h,Below.refl B _,λ_ _=>rfl⟩
set_option maxHeartbeats 2000000 in
set_option maxRecDepth 100000 in
theorem Cw(B b:Nat)(bs:AN)(s:ByteArray)(w:World)(h:Axb 119 5 B b bs w)(hlen:bs.length+s.size<=140737488355328)(hBw:B<=w.heap.size) :
  Calls π 56 #[.pointer (V ⟨b,0,Δ⟩),.string s] w λe w'=>e=.returned (.tuple #[.int .i64 s.size,.nilIface])/\(AyQ 119 5 B b (.pointer (V ⟨b,0,Δ⟩)) (bs++AyU s) w'/\Below B w w'/\∀ k cs T fr,w.heap[k]? = V (.cells cs T fr)->k≠b->T≠5->w'.heap[k]? = V (.cells cs T fr)):=by
 obtain⟨i0,hi,hz0,hz1,hz2⟩:=info_parts AaK
 go_enter Tryz.func56,Tryz.ntmps56
 go_wp2_with (go_at_call 106;refine(QS B b bs _ h).mono ?_)
 rintro e w1 ⟨rfl,h1,hb1,hk1⟩;obtain⟨hB,v,hbk,hown,hne⟩:=h1;have c0:w1.cell? ⟨b,0,Δ⟩=V (.pointer (V ⟨b,0,Δ⟩)):=by rw[AxP hbk];rfl
 have c1:w1.cell? ⟨b,1,Δ⟩=V v:=by rw[AxP hbk];rfl
 go_wp2_with (at_builtin;refine Lib.wpList_append_own_string _ rfl _ _ 117 9 rfl B 5 i0 Tryz.underlying117 Tryz.underlying9 hi hz0 hz1 hz2 _ _ _ rfl hown s rfl ?c3 ?c4 ?c5 ?_)
 case c3=>unfold maxLen;omega
 case c4=>omega
 case c5=>have:=hb1.size;omega
 intro v' w2 hown' hgrow _;have hlt:b<w1.heap.size:=by
  rcases Av3 b w1.heap.size with h' | h'
  .exact h'
  .simp[AwF h']at hbk
 have hb2:w2.heap[b]? = V (.cells #[.pointer (V ⟨b,0,Δ⟩),v] 119 (0,0)):=by
  rw[hgrow.block b hlt (λe=>hne e.symm)];exact hbk
 have d0:w2.cell? ⟨b,0,Δ⟩=V (.pointer (V ⟨b,0,Δ⟩)):=by rw[AxP hb2];rfl
 have d1:w2.cell? ⟨b,1,Δ⟩=V v:=by rw[AxP hb2];rfl
 have f1:w2.frozen? ⟨b,1,Δ⟩=Θ:=Lib.frozen_of_heap hb2 1;obtain⟨ao,n',cap,rfl⟩:∃ ao n' cap,v'=.slice ao n' cap:=by
  rcases hown'.2 with⟨hv,_⟩|⟨g,cap,cur,hv,_⟩
  .exact⟨_,_,_,hv⟩
  .exact⟨_,_,_,hv⟩
 go_wp2
 go_ret2
 refine⟨rfl,?_,?_,?_⟩
 .exact Lib.BuilderAt.put (T:=119) (e:=5) hB hb2 (bs':=bs++AyU s) (by simpa[Lib.strCells_length]using hown') (by decide)
 .exact(hb1.grown hgrow (by have:=hb1.size;omega) (λk hk=>(hown.lt k hk).1)).setCell (p:=⟨b,1,Δ⟩) hB _
 .intro k cs T fr hk hkb hT
  have h1:=(hk1 k hkb).trans hk;have hlk:k<w1.heap.size:=by
   rcases Av3 k w1.heap.size with h' | h'
   .exact h'
   .simp[AwF h']at h1
  have h2:=(hgrow.block k hlk λe=>Lib.ownBlock_ne hown h1 hT e.symm).trans h1;exact(Below.heap_setCell _ _ _ _ hkb).trans h2
open Ieee
def enc(n:Nat):Nat:=Ieee.double.nearest Θ n 0
theorem Pz(n k:Nat)(h:n≠0):(n*2 ^ k).log2=n.log2+k:=by
 have h1:=(AxF h).1 rfl;rw[AxF (by have:=Aw1 k;exact AxX h (by omega))];refine⟨?_,?_⟩
 .rw[Axn];exact Awq _ h1.1
 .rw[show n.log2+k+1=n.log2+1+k by omega,Axn]
  exact Axh h1.2 (Aw1 k)
theorem EK{n:Nat}(h:n≠0)(hn:n<2 ^ 50):n.log2<50:=(Nat.log2_lt h).2 hn
theorem Afq:Ieee.double.leastPlace=-1074:=by decide
theorem bin:Ieee.double.binade=2 ^ 52:=rfl
theorem Aoi:Ieee.double.infRung=2047*2 ^ 52:=by decide +kernel
theorem AuQ:Ieee.double.signWeight=2 ^ 63:=rfl
theorem MK(way:Toward)(n k d:Nat)(hk:d<=k)(h:n≠0):way.cut Θ (n*2 ^ k) d=n*2 ^ (k-d):=by
 unfold Toward.cut;rw[Pz n k h,AwM (by omega),Nat.one_shiftLeft];have e:n*2 ^ k=n*2 ^ (k-d)*2 ^ d:=by rw[Axd,←Axn,Nat.sub_add_cancel hk]
 rw[e];dsimp only;rw[Nat.mul_div_cancel _ (Aw1 d),Nat.mul_mod_left];have hp:=Aw1 d
 cases way
 .have h1:decide (2 ^ d<2*0)=Θ:=by simp
  have h2:(2 ^ d == 2*0)=Θ:=by simp
  simp only[h1,h2,Bool.false_and,Bool.or_self,Bool.toNat_false,Awr]
 all_goals simp
theorem Aav{L m:Nat}(hL:L<50)(h3:m<2 ^ 53):(L+1022)*2 ^ 52+m<=2047*2 ^ 52:=by
 have h1:(L+1022)*2 ^ 52<=1072*2 ^ 52:=Awq _ (by omega);have h2:m<2 ^ 52*2:=h3;generalize (2 ^ 52:Nat)=B at *;generalize (L+1022)*B=C at *;omega
theorem Af6(L:Nat):(-1074:Int)+((L+1023-1:Nat):Int)=(L:Int)-52:=by omega
theorem QV(n k:Nat)(h:n≠0)(hn:n<2 ^ 50)(hk:52<=k)(hk2:k<=1074):Ieee.double.nearest Θ (n*2 ^ k) (-k)=(n.log2+1022)*2 ^ 52+n*2 ^ (52-n.log2):=by
 have hL:=EK h hn;have h1:=(AxF h).1 rfl;have h0:n*2 ^ k≠0:=AxX h (by have:=Aw1 k;omega);unfold Format.nearest;rw[Ad h0,Pz n k h,Afq,bin,Aoi];have e1:max (-(k:Int)+((n.log2+k:Nat):Int)-((Ieee.double.fractionBits:Nat):Int)) (-1074)=(n.log2:Int)-52:=by
  show max (-(k:Int)+((n.log2+k:Nat):Int)-((52:Nat):Int)) (-1074)=_
  omega
 simp only[e1];rw[show (-(k:Int)-((n.log2:Int)-52)).toNat=0 by omega,Axv];rw[show ((n.log2:Int)-52 - -(k:Int)).toNat=n.log2+k-52 by omega];rw[MK .even n k _ (by omega) h,show k-(n.log2+k-52)=52-n.log2 by omega];rw[show ((n.log2:Int)-52 - -1074).toNat=n.log2+1022 by omega];have h3:n*2 ^ (52-n.log2)<2 ^ 53:=by
  have:=Axh h1.2 (Aw1 (52-n.log2))
  rwa [←Axn,show n.log2+1+(52-n.log2)=53 by omega]at this
 rw[AwM]
 .unfold Format.word;simp
 .exact Aav hL h3
theorem Aem(n:Nat)(h:n≠0)(hn:n<2 ^ 50):enc n=(n.log2+1022)*2 ^ 52+n*2 ^ (52-n.log2):=by
 have hL:=EK h hn;have h1:=(AxF h).1 rfl;unfold enc Format.nearest;rw[Ad h,Afq,bin,Aoi];have e1:max ((0:Int)+(n.log2:Int)-((Ieee.double.fractionBits:Nat):Int)) (-1074)=(n.log2:Int)-52:=by
  show max ((0:Int)+(n.log2:Int)-((52:Nat):Int)) (-1074)=_
  omega
 simp only[e1];rw[show ((0:Int)-((n.log2:Int)-52)).toNat=52-n.log2 by omega,show ((n.log2:Int)-52-0).toNat=0 by omega,Aye];rw[MK .even n (52-n.log2) 0 (by omega) h,Nat.sub_zero];rw[show ((n.log2:Int)-52 - -1074).toNat=n.log2+1022 by omega];have h3:n*2 ^ (52-n.log2)<2 ^ 53:=by
  have:=Axh h1.2 (Aw1 (52-n.log2))
  rwa [←Axn,show n.log2+1+(52-n.log2)=53 by omega]at this
 rw[AwM]
 .unfold Format.word;simp
 .exact Aav hL h3
theorem Rl(n k:Nat)(h:n≠0)(hn:n<2 ^ 50)(hk:52<=k)(hk2:k<=1074):Ieee.double.nearest Θ (n*2 ^ k) (-k)=enc n:=(QV n k h hn hk hk2).trans (Aem n h hn).symm
theorem L7(n:Nat)(h:n≠0)(hn:n<2 ^ 50):Ieee.double.read (enc n)=.number Θ (n*2 ^ (52-n.log2)) ((n.log2:Int)-52):=by
 have hL:=EK h hn;have h1:=(AxF h).1 rfl;rw[Aem n h hn];have h2:2 ^ 52<=n*2 ^ (52-n.log2):=by
  have:=Awq (2 ^ (52-n.log2)) h1.1
  rwa [←Axn,show n.log2+(52-n.log2)=52 by omega]at this
 have h3:n*2 ^ (52-n.log2)<2 ^ 53:=by
  have:=Axh h1.2 (Aw1 (52-n.log2))
  rwa [←Axn,show n.log2+1+(52-n.log2)=53 by omega]at this
 generalize n*2 ^ (52-n.log2)=m at *;generalize n.log2=L at *;unfold Format.read;rw[AuQ,bin,Aoi,Afq];have hw:(L+1022)*2 ^ 52+m<2 ^ 63:=by
  have:(L+1022)*2 ^ 52<=1072*2 ^ 52:=Awq _ (by omega);omega
 have hm:((L+1022)*2 ^ 52+m) % 2 ^ 63=(L+1022)*2 ^ 52+m:=Nat.mod_eq_of_lt hw;have hd:((L+1022)*2 ^ 52+m) / 2 ^ 63=0:=Nat.div_eq_of_lt hw;have hlt:(L+1022)*2 ^ 52<=1072*2 ^ 52:=Awq _ (by omega);simp only[hm,hd];have hq:((L+1022)*2 ^ 52+m) / 2 ^ 52=L+1023:=by omega
 have hr:((L+1022)*2 ^ 52+m) % 2 ^ 52=m-2 ^ 52:=by omega
 rw[hq,hr,Ad (by omega),Ac (by omega)];have z:((0:Nat) % 2 == 1)=Θ:=rfl;rw[z,show 2 ^ 52+(m-2 ^ 52)=m by omega];rw[Af6]
theorem Lq:enc 1=4607182418800017408:=by decide +kernel
theorem AbU:Ieee.double.read 0=.number Θ 0 (-1074):=by decide +kernel
theorem YN(n:Nat)(h:n≠0)(hn:n<2 ^ 49):floatBits .add .f64 (enc n) 4607182418800017408=V (enc (n+1)):=by
 have hL:=EK h (by omega);rw[←Lq]
 show Ieee.double.add (enc n) (enc 1)=_
 unfold Format.add;rw[L7 n h (by omega),L7 1 (by decide) (by decide)];have l1:Nat.log2 1=0:=by decide
 rw[l1];unfold Datum.sum;simp only;have hb:min ((n.log2:Int)-52) (((0:Nat):Int)-52)=-52:=by omega
 rw[hb,show ((n.log2:Int)-52 - -52).toNat=n.log2 by omega,show (((0:Nat):Int)-52 - -52).toNat=0 by omega];unfold signed;simp only[Awi,if_false];rw[Aye,Axv,Axd,←Axn,show 52-n.log2+n.log2=52 by omega];have e:((n*2 ^ 52:Nat):Int)+((1*2 ^ (52-0):Nat):Int)=(((n+1)*2 ^ 52:Nat):Int):=by
  rw[Nat.add_mul];omega
 rw[e,Ad (by omega),Ayr];have hd:decide ((((n+1)*2 ^ 52:Nat):Int)<0)=Θ:=by rw[decide_eq_false_iff_not];omega
 rw[hd]
 show V (Ieee.double.nearest Θ ((n+1)*2 ^ 52) (-((52:Nat):Int)))=_
 rw[Rl (n+1) 52 (by omega) (by omega) (by decide) (by decide)]
theorem AaB(n:Nat)(h:n≠0)(hn:n<2 ^ 49):floatBits .add .f64 (enc n) 0=V (enc n):=by
 have hL:=EK h (by omega)
 show Ieee.double.add (enc n) 0=_
 unfold Format.add;rw[L7 n h (by omega),AbU];unfold Datum.sum;simp only;obtain⟨K,hK⟩:∃ K:Nat,K=1074:=⟨_,rfl⟩;have hb:min ((n.log2:Int)-52) (-1074)=-(K:Int):=by omega
 rw[hb,show ((n.log2:Int)-52 - -(K:Int)).toNat=n.log2+K-52 by omega,show ((-1074:Int) - -(K:Int)).toNat=0 by omega];unfold signed;simp only[Awi,if_false];rw[Aye,Axv,Axd,←Axn,show 52-n.log2+(n.log2+K-52)=K by omega];have hp:0<n*2 ^ K:=Nat.mul_pos (by omega) (Aw1 _);rw[show ((n*2 ^ K:Nat):Int)+((0:Nat):Int)=((n*2 ^ K:Nat):Int) by omega,Ad (by omega),Ayr];have hd:decide (((n*2 ^ K:Nat):Int)<0)=Θ:=by rw[decide_eq_false_iff_not];omega
 rw[hd]
 show V (Ieee.double.nearest Θ (n*2 ^ K) (-(K:Int)))=_
 rw[Rl n K h (by omega) (by omega) (by omega)]
theorem Y8(n:Nat)(h:n≠0)(hn:n<2 ^ 49):floatToIntVal .f64 (enc n) .i64=V (n:Int):=by
 have hL:=EK h (by omega);unfold floatToIntVal
 show (match (Ieee.double.read (enc n)).toInt .zero with|some m=>if IntKind.i64.min<=m/\m<=IntKind.i64.max then V m else Δ|none=>Δ)=_
 rw[L7 n h (by omega)];unfold Datum.toInt Datum.integral;simp only;rw[show ((n.log2:Int)-52).toNat=0 by omega,Axv,show (-((n.log2:Int)-52)).toNat=52-n.log2 by omega];rw[MK .zero n (52-n.log2) (52-n.log2) (η _) h,Nat.sub_self,Nat.pow_zero,Nat.mul_one];unfold signed;simp only[Awi,if_false,Axv];have h1:IntKind.i64.min<=(n:Int):=by show (-9223372036854775808:Int)<=_;omega
 have h2:(n:Int)<=IntKind.i64.max:=by show _<=(9223372036854775807:Int);omega
 rw[Ac ⟨h1,h2⟩]
def Iv(w w':World)(k:Nat):Prop:=w.heap.size<=k/\k<w'.heap.size
structure Jmp (F:Nat->Prop) (w w':World):Prop where
 os:w'.os=w.os
 tape:w'.tape=w.tape
 output:w'.output=w.output
 size:w.heap.size<=w'.heap.size
 keep:∀ k,F k->w'.heap[k]? = w.heap[k]?
section
variable {F G:Nat->Prop} {w w1 w2:World}
theorem Jmp.refl(F:Nat->Prop)(w:World):Jmp F w w:=⟨rfl,rfl,rfl,η _,λ_ _=>rfl⟩
theorem Jmp.trans(h:Jmp F w w1)(k:Jmp F w1 w2):Jmp F w w2:=⟨k.os.trans h.os,k.tape.trans h.tape,k.output.trans h.output,Awe h.size k.size,λi hi=>(k.keep i hi).trans (h.keep i hi)⟩
theorem Jmp.less(h:Jmp F w w1)(hs:∀ k,G k->F k):Jmp G w w1:=⟨h.os,h.tape,h.output,h.size,λi hi=>h.keep i (hs i hi)⟩
theorem Jmp.below(h:Jmp (Lt w.heap.size) w w1):Below w.heap.size w w1:=⟨h.os,h.tape,h.output,h.size,λi hi=>h.keep i hi⟩
theorem Jmp.of_below{B:Nat}(h:Below B w w1)(hF:∀ k,F k->k<B):Jmp F w w1:=⟨h.os,h.tape,h.output,h.size,λi hi=>h.block i (hF i hi)⟩
end
section
variable {P:Program} {md:Region.Mode} {ops:Array Oper} {QX:Exit->Act->World->Prop} {Q:Array Bool->(Nat->Prop)->Act->World->Prop}
def wpJ(P:Program)(md:Region.Mode)(ops:Array Oper)(QX:Exit->Act->World->Prop)(Q:Array Bool->(Nat->Prop)->Act->World->Prop):Nat->Array Bool->(Nat->Prop)->Act->World->Prop
 |0,listed,F,a,w=>Region.ready md ops listed=[]/\∀ w',Jmp F w w'->Q listed F a w'
 |n+1,listed,F,a,w=>(Region.ready md ops listed=[]->∀ w',Jmp F w w'->Q listed F a w') ∧
  ∀ i∈Region.ready md ops listed,∀ w',Jmp F w w'->wpOp P ops QX i (λa2 w2=>Below w'.heap.size w' w2/\wpJ P md ops QX Q n (listed.setIfInBounds i U) (λk=>F k\/Iv w' w2 k) a2 w2) a w'
theorem wpJ.jump{n:Nat}{listed:Array Bool}{F:Nat->Prop}{a:Act}{w w':World}(h:wpJ P md ops QX Q n listed F a w)(hj:Jmp F w w'):wpJ P md ops QX Q n listed F a w':=by
 cases n with
 |zero=>exact⟨h.1,λw2 h2=>h.2 w2 (hj.trans h2)⟩
 |succ n=>exact⟨λh0 w2 h2=>h.1 h0 w2 (hj.trans h2),λi hi w2 h2=>h.2 i hi w2 (hj.trans h2)⟩
theorem YM(w:World)(F:Nat->Prop):(λk=>F k\/Iv w w k)=F:=by
 funext k
 unfold Iv;exact propext ⟨λh=>h.elim id λh=>absurd h.2 (by omega),.inl⟩
theorem QZ{S S':World->Prop}{o:Oper}{v:Value}{a:Act}(h:YieldsIf P ops S o v a)(hs:∀ w,S' w->S w):YieldsIf P ops S' o v a:=
 h.imp (λ⟨h1,h2⟩=>⟨h1,λw hw=>h2 w (hs w hw)⟩) id
theorem XI{F:Nat->Prop}{w w2:World}(hF:∀ k,F k->k<w.heap.size)(h:w.heap.size<=w2.heap.size):∀ k,F k\/Iv w w2 k->k<w2.heap.size:=
 λk hk=>hk.elim (λh1=>Awp (hF k h1) h) λh1=>h1.2
theorem Jmp.grow{F:Nat->Prop}{w w':World}(hF:∀ k,F k->k<w.heap.size)(h:Jmp F w w'):∀ k,F k->k<w'.heap.size:=λk hk=>Awp (hF k hk) h.size
theorem AcG{i:Nat}{oi:Oper}{v:Value}(hi:ops[i]? = V oi)(hsel:∀(j:Nat) (o:Oper) cs b,ops[j]? = V o->o.op≠.select cs b)
  (hQ:∀ c a w,QX (.panic c) (a.put oi.dst v) w->QX (.panic c) a w) :
  ∀(fuel:Nat) (listed:Array Bool) (F:Nat->Prop) (a:Act) (w:World),(∀ k,F k->k<w.heap.size)->
   (∀ j oj,ops[j]? = V oj->j≠i->listed.getD j U=Θ->(∀ e∈oj.after,Region.binds md e=U->e.on≠i)->oi.apart ops oj=U)->
   i∈Region.ready md ops listed->YieldsIf P ops (Jmp F w) oi v a->
   wpJ P md ops QX Q fuel (listed.setIfInBounds i U) F (a.put oi.dst v) w->wpJ P md ops QX Q (fuel+1) listed F a w:=by
 intro fuel
 induction fuel with
 |zero=>
  intro listed F a w hF _ hr hy H;refine⟨λh=>(by rw[h]at hr;cases hr),λj hj w' hw'=>?_⟩
  by_cases hji:j=i
  .subst hji;exact hy.wpOp hi hw' ⟨Below.refl _ _,by rw[YM];exact H.jump hw'⟩
  .have:=ready_mono hj hji
   rw[H.1]at this
   cases this
 |succ fuel ih=>
  intro listed F a w hF hfree hr hy H;refine⟨λh=>(by rw[h]at hr;cases hr),λj hj w' hw'=>?_⟩
  by_cases hji:j=i
  .subst hji;exact hy.wpOp hi hw' ⟨Below.refl _ _,by rw[YM];exact H.jump hw'⟩
  .have h1:=H.2 j (ready_mono hj hji) w' hw'
   obtain⟨hjun,oj,hoj,hall⟩:=mem_ready.1 hj;have hnot:∀ e∈oj.after,Region.binds md e=U->e.on≠i:=λe he hb heq=>by
    have h1:=hall e he hb;have h0:=(mem_ready.1 hr).1;rw[heq]at h1;rcases Av3 i listed.size with h' | h'
    .simp[h']at h0 h1;rw[h0]at h1;cases h1
    .simp[AwF h']at h1
   have h2:=wpOp_putIf hoj (hfree j oj hoj hji hjun hnot) (λcs b=>hsel i oi cs b hi) (λcs b=>hsel j oj cs b hoj) hQ hy h1;have hfree':∀ k ok,ops[k]? = V ok->k≠i->(listed.setIfInBounds j U).getD k U=Θ->
     (∀ e∈ok.after,Region.binds md e=U->e.on≠i)->oi.apart ops ok=U:=λk ok hk hki hun hno=>by
    refine hfree k ok hk hki ?_ hno
    by_cases hjk:j=k
    .subst hjk;exact hjun
    .rw[getD_set_ne U hjk]at hun;exact hun
   have hF':=hw'.grow hF;refine wpOp_mono (λa' w2 h3=>⟨h3.2.1,ih (listed.setIfInBounds j U) _ a' w2 (XI hF' h3.2.1.size) hfree' (ready_mono hr (Ne.symm hji)) (QZ h3.1 λw3 h4=>?_) ?_⟩) h2
   .exact hw'.trans ((Jmp.of_below h3.2.1 hF').trans (h4.less λk hk=>.inl hk))
   .rw[Array.setIfInBounds_comm _ _ hji]
    exact h3.2.2
theorem Ahn{i:Nat}{oi:Oper}{v:Value}{fuel:Nat}{listed:Array Bool}{F:Nat->Prop}{a:Act}{w:World}(hi:ops[i]? = V oi)
  (hs:Region.noSelect ops=U) (hf:Region.free md ops listed i=U) (hr:(Region.ready md ops listed).contains i=U)
  (hQ:∀ c a w,QX (.panic c) (a.put oi.dst v) w->QX (.panic c) a w) (hF:∀ k,F k->k<w.heap.size) (hy:YieldsIf P ops (Jmp F w) oi v a)
  (h:wpJ P md ops QX Q fuel (listed.setIfInBounds i U) F (a.put oi.dst v) w):wpJ P md ops QX Q (fuel+1) listed F a w:=
 AcG hi (Region.noSelect_spec hs) hQ fuel listed F a w hF (Region.free_spec hi hf) (by simpa using hr) hy h
theorem Akg{i:Nat}{fuel:Nat}{listed:Array Bool}{F:Nat->Prop}{a:Act}{w:World}(hr:Region.ready md ops listed=[i])
  (h:∀ w',Jmp F w w'->wpOp P ops QX i (λa2 w2=>Below w'.heap.size w' w2/\wpJ P md ops QX Q fuel (listed.setIfInBounds i U) (λk=>F k\/Iv w' w2 k) a2 w2) a w'):wpJ P md ops QX Q (fuel+1) listed F a w:=
 ⟨λh0=>(by rw[hr]at h0;cases h0),λj hj=>by rw[hr]at hj;obtain rfl:=List.mem_singleton.1 hj;exact h⟩
theorem Uc{listed:Array Bool}{F:Nat->Prop}{a:Act}{w:World}(hr:Region.ready md ops listed=[])(h:∀ w',Jmp F w w'->Q listed F a w'):∀ fuel,wpJ P md ops QX Q fuel listed F a w
 |0=>⟨hr,h⟩
 |_+1=>⟨λ_=>h,by rw[hr];simp⟩
def Cc(n:Nat)(listed:Array Bool):Array Bool:=listed.mapIdx λi b=>b&&decide (i<n)
theorem WA(n:Nat)(listed:Array Bool):(Cc n listed).size=listed.size:=by simp[Cc]
theorem GF{n:Nat}{listed:Array Bool}{j:Nat}(d:Bool)(hj:j<listed.size):(Cc n listed).getD j d=(listed.getD j d&&decide (j<n)):=by
 simp[Cc,hj]
theorem Qy{n:Nat}{listed:Array Bool}{i:Nat}(hi:i<n):Cc n (listed.setIfInBounds i U)=(Cc n listed).setIfInBounds i U:=by
 apply AyY
 .simp[Cc]
 .intro k h1 h2
  by_cases h:i=k
  .subst h;simp[Cc,hi]
  .simp[Cc,hi]
theorem Qz{Q':Exit->Act->World->Prop}:∀(n:Nat) (listed:Array Bool) (a:Act) (w:World),wpAny P md ops Q' n listed a w->wpAny P md ops Q' (n+1) listed a w
 |0,_,_,_,h=>⟨λ_=>h.2,by rw[h.1];simp⟩
 |n+1,_,_,_,h=>⟨h.1,λi hi=>wpOp_mono (λa' w' h'=>Qz n _ a' w' h') (h.2 i hi)⟩
theorem QA{Q':Exit->Act->World->Prop}{n:Nat}{listed:Array Bool}{a:Act}{w:World}(h:wpAny P md ops Q' n listed a w):∀ k,wpAny P md ops Q' (n+k) listed a w
 |0=>h
 |k+1=>Qz _ _ _ _ (QA h k)
def AkP(md:Region.Mode)(ops:Array Oper)(n:Nat):Bool:=(List.range n).all λi=>match ops[i]? with|some o=>o.after.all (λe=>!Region.binds md e||decide (e.on<n)) | none=>U
theorem Ub{n g:Nat}(hh:AkP md ops n=U)(hn:n<ops.size)(hs:Region.sinkB md ops n=U)(hc:Region.chainB md ops n=U)(hQ:∀ listed F a w,Q listed F a w->Region.seqB md ops g n (Cc n listed)=U/\wpAny P md ops QX g (Cc n listed) a w) :
  ∀(k:Nat) (listed:Array Bool) (F:Nat->Prop) (a:Act) (w:World),listed.size=ops.size->(∀ t,n<=t->t<ops.size->listed.getD t U=U)->HeadInv md ops n (Cc n listed)->wpJ P md ops QX Q k listed F a w->
   wpAny P md ops QX (g+k) (Cc n listed) a w:=by
 intro k
 induction k with
 |zero=>
  intro listed F a w _ _ _ h;exact(hQ _ _ _ _ (h.2 w (Jmp.refl _ _))).2
 |succ k ih=>
  intro listed F a w hsz ht inv h
  by_cases h0:Region.ready md ops listed=[]
  .exact QA (hQ _ _ _ _ (h.1 h0 w (Jmp.refl _ _))).2 (k+1)
  .obtain⟨i0,hi0⟩:=List.exists_mem_of_ne_nil _ h0
   obtain⟨hun0,o0,ho0,_⟩:=mem_ready.1 hi0;have hlt0:i0<ops.size:=(Awl.1 ho0).1;have hi0n:i0<n:=by
    rcases Av3 i0 n with h' | h'
    .exact h'
    .rw[ht i0 h' hlt0]at hun0;cases hun0
   have hun0':(Cc n listed).getD i0 U=Θ:=by rw[GF U (by omega),hun0];rfl
   have hnt:=tail_waits hs hc hn inv (n-i0) i0 rfl hi0n hun0';have step:∀ i∈Region.ready md ops (Cc n listed),wpOp P ops QX i (wpAny P md ops QX (g+k) ((Cc n listed).setIfInBounds i U)) a w:=by
    intro i hi;have hin:i<n:=by
     rcases Av3 i n with h' | h'
     .exact h'
     .exact absurd hi (hnt i h')
    obtain⟨hun,oi,hoi,hall⟩:=mem_ready.1 hi;have hil:i<listed.size:=by have:=(Awl.1 hoi).1;omega
    have hir:i∈Region.ready md ops listed:=by
     refine mem_ready.2 ⟨?_,oi,hoi,λe he hb=>?_⟩
     .rw[GF U hil]at hun;simpa[hin]using hun
     .have:=hall e he hb
      have hel:e.on<listed.size:=by
       rcases Av3 e.on listed.size with h' | h'
       .exact h'
       .simp[Array.getD_eq_getD_getElem?,AwF (show (Cc n listed).size<=e.on by rw[WA];exact h')]at this
      rw[GF Θ hel]at this;simp only[AvF]at this;exact this.1
    refine wpOp_mono (λa' w' h'=>?_) (h.2 i hir w (Jmp.refl _ _));rw[←Qy hin];refine ih _ _ a' w' (by simpa using hsz) (λt h1 h2=>?_) ?_ h'.2
    .rw[getD_set_ne U (by omega)];exact ht t h1 h2
    .rw[Qy hin];exact inv.set hi hin
   refine⟨λhr=>?_,step⟩
   exfalso
   obtain⟨_,o1,ho1,hall1⟩:=mem_ready.1 hi0;have hin:i0∈Region.ready md ops (Cc n listed):=by
    refine mem_ready.2 ⟨hun0',o1,ho1,λe he hb=>?_⟩;have h1:=AvJ.1 hh i0 (List.mem_range.2 hi0n);rw[ho1]at h1;have h2:=Array.all_eq_true_iff_forall_mem.1 h1 e he;rw[hb]at h2;simp only[Bool.not_true,Bool.false_or,decide_eq_true_eq]at h2;rw[GF Θ (by omega),hall1 e he hb];simpa using h2
   rw[hr]at hin
   cases hin
theorem Gd{id:Nat}{Q:Exit->Act->World->Prop}{a:Act}{w:World}{l:List Oper}{L:Array Bool}(n:Nat)(hm:P.follows .mixedOrders=U)(hL:((Cc n (AxS l.length U)).map λb=>!b)=L)
  (hB:(Region.noSelect l.toArray&&decide (n<l.length)&&Region.sinkB .any l.toArray n&&Region.chainB .any l.toArray n&&AkP .any l.toArray n)=U)
  (h:wpJ P .any l.toArray Q (λlisted _ a w=>Region.seqB .any l.toArray (l.length-n) n (Cc n listed)=U/\wpList P l.toArray Q (l.drop n) a w) n L (Lt w.drew.heap.size) a w.drew):(Code.region id l.toArray U).wp P Q a w:=by
 simp only[AvF,decide_eq_true_eq]at hB;subst hL;obtain⟨⟨⟨⟨hsel,hn⟩,hs⟩,hc⟩,hh⟩:=hB;refine wp_region_any hm ?_;have e:Cc n (Cc n (AxS l.length U) |>.map λb=>!b)=AxS l.toArray.size Θ:=by
  apply AyY
  .simp[Cc]
  .intro i h1 h2
   simp[Cc]
 have inv:HeadInv .any l.toArray n (Cc n (Cc n (AxS l.length U) |>.map λb=>!b)):=by
  rw[e];exact⟨by simp,λj oj _ hl=>(by rw[getD_replicate_false]at hl;cases hl),λt _ ht=>getD_in (by simpa using ht) (getD_replicate_false _ _)⟩
 have:=Ub (QX:=Q) (g:=l.length-n) hh (by simpa using hn) hs hc (λlisted F a w ⟨h1,h2⟩=>⟨h1,?_⟩) n _ _ a w.drew (by simp[Cc]) (λt h1 h2=>?_) inv h
 .have h3:=wpAny_of_seq (md:=.any) (Q':=Q) (l.drop n) n (Cc n listed) a w (λj=>by simp[List.getElem?_drop]) (by simpa using h1) h2
  simpa using h3
 .have ht:t<l.length:=by simpa using h2
  simp[Cc,ht];omega
 .rw[e,show l.length-n+n=l.toArray.size by simp;omega]at this
  exact this
theorem Ud{i:Nat}{o:Oper}(ho:ops[i]? = V o){K:Act->World->Prop}{a:Act}{w:World}(h:wpList P ops (Exit.then K QX) [o] a w):wpOp P ops QX i K a w:=by
 unfold wpOp;simp only[ho];exact h
theorem Ahm{i:Nat}{o:Oper}{fuel:Nat}{listed:Array Bool}{F:Nat->Prop}{a:Act}{w:World}(hr:Region.ready md ops listed=[i])(ho:ops[i]? = V o)
  (h:∀ w',Jmp F w w'->∀ K:Act->World->Prop,Hid (∀ a2 w2,Below w'.heap.size w' w2->wpJ P md ops QX Q fuel (listed.setIfInBounds i U) (λk=>F k\/Iv w' w2 k) a2 w2->K a2 w2)->wpList P ops (Exit.then K QX) [o] a w'):wpJ P md ops QX Q (fuel+1) listed F a w:=
 Akg hr λw' hj=>Ud ho (h w' hj _ (θ λ_ _ h1 h2=>⟨h1,h2⟩))
theorem Jmp.cell{F:Nat->Prop}{w w':World}(h:Jmp F w w'){b:Nat}(o:Nat)(hb:F b):w'.cell? ⟨b,o,Δ⟩=w.cell? ⟨b,o,Δ⟩:=World.cell?_of_block (a:=⟨b,o,Δ⟩) (h.keep b hb)
theorem Jmp.fst{F G:Nat->Prop}{w w1:World}(h:Jmp (λk=>F k\/G k) w w1):Jmp F w w1:=h.less λ_=>.inl
theorem Jmp.from{F:Nat->Prop}{w w1 w2:World}(h:Jmp F w w1)(hb:Below w1.heap.size w1 w2)(hF:∀ k,F k->k<w1.heap.size):Jmp F w w2:=h.trans (Jmp.of_below hb hF)
theorem Jmp.back{F:Nat->Prop}{w v w1 w2:World}(h:Jmp F w v)(hF:∀ k,F k->k<w.heap.size)(hb:Below v.heap.size v w1)(k:Jmp (λk=>F k\/Iv v w1 k) w1 w2):Jmp F w w2:=
 h.trans ((Jmp.of_below hb (h.grow hF)).trans k.fst)
theorem Jmp.laid{F:Nat->Prop}{v w1 w2:World}(k:Jmp (λk=>F k\/Iv v w1 k) w1 w2){b:Nat}(h1:v.heap.size<=b)(h2:b<w1.heap.size):w2.heap[b]? = w1.heap[b]?:=k.keep b (.inr ⟨h1,h2⟩)
theorem Jmp.low{w w1:World}(h:Jmp (Lt w.drew.heap.size) w.drew w1):Below w.heap.size w w1:=SH h.below
def Yb{α:Type}:List α->Nat->Option α
 |[],_=>Δ
 |x::_,0=>V x
 |_::r,i+1=>Yb r i
theorem ZZ{α:Type}:∀(l:List α) (i:Nat),Yb l i=l[i]?
 |[],_=>rfl
 |_::_,0=>rfl
 |_::r,i+1=>by simpa[Yb]using ZZ r i
theorem VM{α:Type}{l:List α}{i:Nat}{o:α}(h:Yb l i=V o):l.toArray[i]? = V o:=by rw[Awt,←ZZ];exact h
theorem AcH{l:List Oper}{i:Nat}{oi:Oper}{v:Value}{fuel:Nat}{listed:Array Bool}{F:Nat->Prop}{a:Act}{w:World}(hi:Yb l i=V oi)
  (hs:Region.noSelect l.toArray=U) (hf:Region.free md l.toArray listed i=U) (hr:(Region.ready md l.toArray listed).contains i=U)
  (hQ:∀ c a w,QX (.panic c) (a.put oi.dst v) w->QX (.panic c) a w) (hF:∀ k,F k->k<w.heap.size) (hy:YieldsIf P l.toArray (Jmp F w) oi v a)
  (h:wpJ P md l.toArray QX Q fuel (listed.setIfInBounds i U) F (a.put oi.dst v) w):wpJ P md l.toArray QX Q (fuel+1) listed F a w:=
 Ahn (VM hi) hs hf hr hQ hF hy h
theorem Sw{l:List Oper}{i:Nat}{o:Oper}{fuel:Nat}{listed:Array Bool}{F:Nat->Prop}{a:Act}{w:World}(hr:Region.ready md l.toArray listed=[i])(ho:Yb l i=V o)
  (h:∀ w',Jmp F w w'->∀ K:Act->World->Prop,Hid (∀ a2 w2,Below w'.heap.size w' w2->wpJ P md l.toArray QX Q fuel (listed.setIfInBounds i U) (λk=>F k\/Iv w' w2 k) a2 w2->K a2 w2)->wpList P l.toArray (Exit.then K QX) [o] a w'):wpJ P md l.toArray QX Q (fuel+1) listed F a w:=
 Ahm hr (VM ho) h
end
def later(W x:World):World:={ heap:=W.heap++x.heap.extract W.heap.size x.heap.size,tape:=W.tape,drawn:=x.drawn,os:=W.os,output:=W.output }
theorem Bi(W x:World):Below W.heap.size W (later W x):=by
 refine⟨rfl,rfl,rfl,by simp[later],λk hk=>?_⟩
 show (W.heap++_)[k]? = _
 rw[Ax3 hk]
theorem Afk{W w:World}(hb:Below W.heap.size W w):w=later W w:=by
 have hh:w.heap=W.heap++w.heap.extract W.heap.size w.heap.size:=by
  apply Array.ext_getElem?;intro i;rcases Av3 i W.heap.size with h|h
  .rw[Ax3 h,hb.block i h]
  .rw[Array.getElem?_append_right h,Array.getElem?_extract]
   by_cases hi:i<w.heap.size
   .rw[Ac (by have:=hb.size;omega)]
    congr 1
    omega
   .rw[Ad (by omega),AwF (by omega)]
 obtain⟨h1,h2,h3,_,_⟩:=hb
 cases w
 simp only at h1 h2 h3 hh;subst h1 h2 h3;simp only[later,World.mk.injEq,and_true];exact hh
@[go_sem] theorem Akv(W x:World)(b o:Nat)(h:b<W.heap.size):(later W x).cell? ⟨b,o,Δ⟩=W.cell? ⟨b,o,Δ⟩:=(Bi W x).cell (p:=⟨b,o,Δ⟩) h
@[go_sem] theorem Ahz(W x:World)(b o:Nat)(h:b<W.heap.size):(later W x).frozen? ⟨b,o,Δ⟩=W.frozen? ⟨b,o,Δ⟩:=(Bi W x).frozen (p:=⟨b,o,Δ⟩) h
theorem AZ{P:Program}{id:Nat}{Q:Exit->Act->World->Prop}{a:Act}{w:World}{l:List Oper}(hm:P.follows .mixedOrders=U)(hB:Region.lexB .any l.toArray=U)
  (h:wpQuiet P l.toArray (λw'=>∃ x,w'=later w x) (λa'=>∀ w',(∃ x,w'=later w x)->Q .normal a' w') l a):(Code.region id l.toArray U).wp P Q a w:=
 wp_region_quiet (C:=λw'=>∃ x,w'=later w x) hm hB ⟨w.drew,Afk (Below.refl _ _).drew⟩ (by simpa using h)
theorem XV{P:Program}{f:FuncId}{args:Array Value}{W x:World}{v:Value}(h:Calls P f args (later W x) λe w'=>e=.returned v/\later W x=w') :
  Calls P f args (later W x) λe w'=>e=.returned v/\∃ y,w'=later W y:=
 h.mono λ_ _ ⟨he,hw⟩=>⟨he,x,hw.symm⟩
set_option maxHeartbeats 1000000 in
theorem DZ(c:UInt8)(b:Int)(w:World)(hb:b=(c.toNat:Int)):Calls π 212 #[.int .u8 b] w λe w'=>e=.returned (.bool (Gl c))/\w=w':=by
 subst hb;have hc:=c.toNat_lt;have hq:Gl c=(decide (97<=c.toNat)&&decide (c.toNat<=122)):=rfl;have HQ:=θ hq;clear hq;generalize c.toNat=n at *
 go_enter Tryz.func212,Tryz.ntmps212
 go_wp2
 all_goals
  go_ret
  exact⟨Bq (by rw[HQ.out];first | (rw[Axj];simp only[AvF,decide_eq_true_eq];omega) | (rw[Axj];simp;omega)),rfl⟩
set_option maxHeartbeats 1000000 in
theorem GX(c:UInt8)(b:Int)(w:World)(hb:b=(c.toNat:Int)):Calls π 215 #[.int .u8 b] w λe w'=>e=.returned (.bool (B9 c))/\w=w':=by
 subst hb;have hc:=c.toNat_lt;have hq:B9 c=(decide (48<=c.toNat)&&decide (c.toNat<=57)):=rfl;have HQ:=θ hq;clear hq;generalize c.toNat=n at *
 go_enter Tryz.func215,Tryz.ntmps215
 go_wp2
 all_goals
  go_ret
  exact⟨Bq (by rw[HQ.out];first | (rw[Axj];simp only[AvF,decide_eq_true_eq];omega) | (rw[Axj];simp;omega)),rfl⟩
set_option maxHeartbeats 2000000 in
theorem MU(c:UInt8)(b:Int)(w:World)(hb:b=(c.toNat:Int)):Calls π 214 #[.int .u8 b] w λe w'=>e=.returned (.bool (Eh c))/\w=w':=by
 have hq:Eh c=(Gl c||B9 c||(c.toNat == 95)):=rfl;have HQ:=θ hq;have HC:=θ hb;clear hq hb;have hq2:(b == 95)=(c.toNat == 95):=by rw[HC.out,Axj];simp;omega
 have HQ2:=θ hq2;clear hq2;rcases h1:Gl c with _|_
 .rcases h2:B9 c with _|_
  .have H1:=θ h1
   have H2:=θ h2;clear h1 h2
   go_enter Tryz.func214,Tryz.ntmps214
   go_wp2_with fail
   refine(DZ c b w HC.out).mono ?_;rw[H1.out];rintro e w' ⟨rfl,rfl⟩
   go_wp2_with fail
   refine(GX c b w HC.out).mono ?_;rw[H2.out];rintro e w' ⟨rfl,rfl⟩
   go_wp2
   go_ret
   exact⟨Bq (by rw[HQ.out,H1.out,H2.out,←HQ2.out];rfl),rfl⟩
  .have H1:=θ h1
   have H2:=θ h2;clear h1 h2
   go_enter Tryz.func214,Tryz.ntmps214
   go_wp2_with fail
   refine(DZ c b w HC.out).mono ?_;rw[H1.out];rintro e w' ⟨rfl,rfl⟩
   go_wp2_with fail
   refine(GX c b w HC.out).mono ?_;rw[H2.out];rintro e w' ⟨rfl,rfl⟩
   go_wp2
   go_ret
   exact⟨Bq (by rw[HQ.out,H1.out,H2.out];rfl),rfl⟩
 .have H1:=θ h1
  clear h1
  go_enter Tryz.func214,Tryz.ntmps214
  go_wp2_with fail
  refine(DZ c b w HC.out).mono ?_;rw[H1.out];rintro e w' ⟨rfl,rfl⟩
  go_wp2
  go_ret
  exact⟨Bq (by rw[HQ.out,H1.out];rfl),rfl⟩
theorem Aip(c:UInt8):decide (0<=Ayn [88,71,70,85,82] c)=QM c:=by
 have:∀ n:Fin 256,decide (0<=Ayn [88,71,70,85,82] (UInt8.ofNat n))=QM (UInt8.ofNat n):=by decide +kernel
 have:=this ⟨c.toNat,c.toNat_lt⟩;simpa using this
set_option maxHeartbeats 1000000 in
theorem YU(c:UInt8)(b:Int)(w:World)(hb:b=(c.toNat:Int)):Calls π 217 #[.int .u8 b] w λe w'=>e=.returned (.bool (QM c))/\w=w':=by
 have hq:=Aip c;have hcc:b.toNat.toUInt8=c:=by rw[hb];simp
 have HQ:=θ hq;have HC:=θ hcc;have HB:=θ hb;clear hq hcc
 by_cases h0:c.toNat=0
 .have hz:(b != 0)=Θ:=by rw[hb,h0];rfl
  have HZ:=θ (show QM c=Θ by unfold QM;rw[h0];rfl);clear h0 hb
  go_enter Tryz.func217,Tryz.ntmps217
  go_wp2
  go_ret
  exact⟨Bq HZ.out.symm,rfl⟩
 .have hz:(b != 0)=U:=by rw[hb,bne_iff_ne];omega
  clear h0 hb
  go_enter Tryz.func217,Tryz.ntmps217
  go_wp2_with fail
  refine(Tryz.strings_IndexByte ⟨#[88,71,70,85,82]⟩ b w).mono ?_;rw[HC.out];rintro e w' ⟨rfl,rfl⟩;generalize hm:Ayn _ c=m;have HM:=θ hm;clear hm
  go_wp2
  go_ret
  exact⟨Bq (by rw[←HQ.out,←HM.out]),rfl⟩
def plc(p:Nat × Nat):Value:=.complex .f64 (enc p.1) (enc p.2)
def Small(p:Nat × Nat):Prop:=1<=p.1/\1<=p.2/\p.1<=100000/\p.2<=100000
theorem AdC(p:Nat × Nat)(w:World)(hp:Small p):Calls π 244 #[plc p] w λe w'=>e=.returned (plc (p.1+1,1))/\w=w':=by
 obtain⟨a,b⟩:=p;obtain⟨h1,h2,h3,h4⟩:=hp;simp only at h1 h2 h3 h4;have ha:=λW:World=>run_float_arith (P:=π) W .add 246 .f64 (enc a) 4607182418800017408 _ (YN a (by omega) (by omega))
 have h1':=Lq;unfold plc;rw[show enc ((a,b).1+1,1).2=4607182418800017408 from Lq]
 show Calls _ _ #[.complex .f64 (enc a) (enc b)] w λe w'=>e=.returned (.complex .f64 (enc (a+1)) 4607182418800017408)/\w=w'
 clear h1';generalize enc a=x at *;generalize enc (a+1)=y at *
 go_enter Tryz.func244,Tryz.ntmps244
 go_wp2
 go_ret
 exact⟨rfl,rfl⟩
set_option maxRecDepth 10000 in
theorem Ty(p:Nat × Nat)(w:World)(hp:Small p):Calls π 159 #[plc p] w λe w'=>e=.returned (.agg #[.int .i64 p.1,.int .i64 p.2])/\Below w.heap.size w w':=by
 obtain⟨a,b⟩:=p;obtain⟨h1,h2,h3,h4⟩:=hp;simp only at h1 h2 h3 h4;have ha:=λW:World=>run_convert_float_int (P:=π) W 246 3 .f64 .i64 (enc a) a rfl Tryz.underlying3 (Y8 a (by omega) (by omega))
 have hb:=λW:World=>run_convert_float_int (P:=π) W 246 3 .f64 .i64 (enc b) b rfl Tryz.underlying3 (Y8 b (by omega) (by omega))
 unfold plc
 show Calls _ _ #[.complex .f64 (enc a) (enc b)] w λe w'=>e=.returned (.agg #[.int .i64 a,.int .i64 b])/\Below w.heap.size w w'
 generalize enc a=x at *;generalize enc b=y at *
 go_enter Tryz.func159,Tryz.ntmps159
 go_wp2
 exact bodyPost_ret (v:=.agg #[.int .i64 a,.int .i64 b]) (by simp[results,Tryz.results159,go_sem]) rfl ⟨rfl,Bw w _⟩
def Rd(w:World)(g:Nat)(s:ByteArray)(i:Nat)(p:Nat × Nat):Prop:=Blk w g 216 #[.string s,.int .i64 i,plc p]
theorem Rd.cells{w:World}{g:Nat}{s:ByteArray}{i:Nat}{p:Nat × Nat}(h:Rd w g s i p):w.cell? ⟨g,0,Δ⟩=V (.string s)/\w.cell? ⟨g,1,Δ⟩=V (.int .i64 i)/\w.cell? ⟨g,2,Δ⟩=V (plc p):=by
 unfold Rd at h;rw[h.cell,h.cell,h.cell];exact⟨rfl,rfl,rfl⟩
def BV(s:ByteArray)(i:Nat):UInt8:=s.data.toList.getD i 0
theorem Ht(s:ByteArray)(i:Nat)(h:i<s.size):s[i]=BV s i:=by
 unfold BV;rw[Av1,Ω (by simpa using h)];rfl
theorem AnH(s:ByteArray)(i:Nat)(h:¬ i<s.size):BV s i=0:=by
 unfold BV;rw[Av1,List.getElem?_eq_none (by simpa using h)];rfl
set_option maxHeartbeats 1000000 in
theorem FN(s:ByteArray)(g i:Nat)(p:Nat × Nat)(w:World)(hr:Rd w g s i p) :
  Calls π 210 #[.pointer (V ⟨g,0,Δ⟩)] w λe w'=>e=.returned (.int .u8 ((BV s i).toNat:Int))/\Below w.heap.size w w':=by
 obtain⟨c0,c1,_⟩:=hr.cells;have l0:g<w.heap.size:=BQ c0;clear hr
 by_cases hlt:i<s.size
 .have HV:=θ (Ht s i hlt)
  have q0:(0:Int)<=(i:Int):=by omega
  have q1:(i:Int)<(s.size:Int):=by omega
  go_enter Tryz.func210,Tryz.ntmps210
  go_wp2_with fail
  refine AZ (by kernel_rfl) (by kernel_rfl) ?_
  repeat (go_big_quiet_step (fail))
  refine wpQuiet_nil ?_;rintro _ ⟨y,rfl⟩;have hb:=Bi w y;have c2:=(hb.cell (p:=⟨g,0,Δ⟩) l0).trans c0;have c3:=(hb.cell (p:=⟨g,1,Δ⟩) l0).trans c1;generalize later w y=w1 at *;have HB:=θ hb;have l1:g<w1.heap.size:=BQ c2;clear hb c0 c1 l0
  go_wp2_with fail
  refine AZ (by kernel_rfl) (by kernel_rfl) ?_
  repeat (go_big_quiet_step (fail))
  refine wpQuiet_nil ?_;rintro _ ⟨y,rfl⟩
  go_wp2
  go_ret
  exact⟨by rw[←HV.out];rfl,Bb HB.out (Bi _ _)⟩
 .have HV:=θ (AnH s i hlt)
  have q1:¬ (i:Int)<(s.size:Int):=by omega
  go_enter Tryz.func210,Tryz.ntmps210
  go_wp2_with fail
  refine AZ (by kernel_rfl) (by kernel_rfl) ?_
  repeat (go_big_quiet_step (fail))
  refine wpQuiet_nil ?_;rintro _ ⟨y,rfl⟩
  go_wp2
  go_ret
  exact⟨by rw[HV.out];rfl,Bi _ _⟩
theorem A2{w w':World}{row:Option Nat}(hb:Below w.heap.size w w'):w.grownBy w' row:=IV hb
theorem Bl{w w1 w2:World}{g:Nat}(h:w.grownBy w1 (V g))(k:w1.grownBy w2 (V g)):w.grownBy w2 (V g):=
 ⟨k.os.trans h.os,k.tape.trans h.tape,k.output.trans h.output,Awe h.size k.size,λb hb hn=>(k.block b (Awp hb h.size) hn).trans (h.block b hb hn)⟩
theorem Fy{w w1:World}{g:Nat}(h:w.grownBy w1 (V g))(i:Nat)(u:Value):w.grownBy (w1.setCell ⟨g,i,Δ⟩ u) (V g):=
 ⟨h.os,h.tape,h.output,by simpa using h.size,λb hb hn=>(Below.heap_setCell w1 ⟨g,i,Δ⟩ u b (λe=>hn (by rw[e]))).trans (h.block b hb hn)⟩
theorem Q9{w:World}{g:Nat}{t:TypeId}{x y z:Value}(h:Blk w g t #[x,y,z])(v u:Value):Blk ((w.setCell ⟨g,2,Δ⟩ v).setCell ⟨g,1,Δ⟩ u) g t #[x,u,v]:=by
 simpa using (h.set_ 2 v).set_ 1 u
@[go_sem] theorem Aai{P:Program}{w:World}{a:Addr}{m:Mode}(k:FloatKind)(x y:Nat):(store a (.complex k x y) m).run P w=stored P w a (.complex k x y) m:=run_store P w a _ m rfl
theorem AsA(p:Nat × Nat)(hp:Small p):∀ W:World,(binOp .add 212 (.complex .f64 (enc p.1) (enc p.2)) (.complex .f64 0 4607182418800017408)).run π W=.ok (.complex .f64 (enc p.1) (enc (p.2+1))) W:=λW=>by
 obtain⟨h1,h2,h3,h4⟩:=hp;refine run_complex_sum W .add (.inl rfl) _ .f64 _ _ _ _ _ _ ?_;unfold cSumBits;rw[AaB p.1 (by omega) (by omega),YN p.2 (by omega) (by omega)];rfl
set_option maxHeartbeats 2000000 in
theorem Fb(s:ByteArray)(g i:Nat)(p:Nat × Nat)(w:World)(hs:s.size<=1000000)(hi:i<s.size)(hp:Small p)(hr:Rd w g s i p) :
  Calls π 211 #[.pointer (V ⟨g,0,Δ⟩)] w λe w'=>e=.returned (.tuple #[])/\Rd w' g s (i+1) (OL p (BV s i))/\w.grownBy w' (V g):=by
 have HP:=θ hp;have HR:=θ hr;obtain⟨c0,c1,_⟩:=hr.cells;have l0:g<w.heap.size:=BQ c0;have HV:=θ (Ht s i hi);clear hr hp;have q0:(0:Int)<=(i:Int):=by omega
 have q1:(i:Int)<(s.size:Int):=by omega
 have hbyte:=s[i].toNat_lt;rw[show s[i].toNat=(BV s i).toNat by rw[HV.out]]at hbyte
 by_cases hnl:(BV s i).toNat=10
 .have HN:=θ (show OL p (BV s i)=(p.1+1,1) by unfold OL;rw[Ac hnl])
  have hq:((s[i].toNat:Int) == 10)=U:=by rw[HV.out,hnl];rfl
  clear hnl
  go_enter Tryz.func211,Tryz.ntmps211
  go_wp2_with fail
  refine AZ (by kernel_rfl) (by kernel_rfl) ?_
  repeat (go_big_quiet_step (fail))
  refine wpQuiet_nil ?_;rintro _ ⟨y,rfl⟩;have hb:=Bi w y;have hk:=Blk.call HR.out hb;generalize later w y=w1 at *;have HB:=θ hb;have HK:=θ hk;have c0:=hk.cell 0;have c1:=hk.cell 1;have c2:=hk.cell 2;have f1:=hk.frozen 1;have f2:=hk.frozen 2;simp only[Awt,Awm,Awa]at c0 c1 c2;have l1:g<w1.heap.size:=BQ c0;clear hb hk
  go_wp2_with fail
  refine(AdC p w1 HP.out).mono ?_;rintro e w' ⟨rfl,rfl⟩;unfold plc at c2 ⊢;generalize hx:enc (p.1+1,1).1=x at *;generalize hx2:enc (p.1+1,1).2=x2 at *;have HX:=θ hx;have HX2:=θ hx2;clear hx hx2
  go_wp2
  go_end0
  refine⟨rfl,?_,?_⟩
  .rw[HN.out]
   unfold Rd plc;rw[HX.out,HX2.out];exact Q9 HK.out (.complex .f64 x x2) (.int .i64 ((i+1:Nat):Int))
  .exact Fy (Fy (A2 HB.out) 2 _) 1 _
 .have HN:=θ (show OL p (BV s i)=(p.1,p.2+1) by unfold OL;rw[Ad hnl])
  have hq:((s[i].toNat:Int) == 10)=Θ:=by rw[HV.out,beq_eq_false_iff_ne];omega
  have hsum:=AsA p HP.out;clear hnl
  go_enter Tryz.func211,Tryz.ntmps211
  go_wp2_with fail
  refine AZ (by kernel_rfl) (by kernel_rfl) ?_
  repeat (go_big_quiet_step (fail))
  refine wpQuiet_nil ?_;rintro _ ⟨y,rfl⟩;have hb:=Bi w y;have hk:=Blk.call HR.out hb;generalize later w y=w1 at *;have HB:=θ hb;have HK:=θ hk;have c0:=hk.cell 0;have c1:=hk.cell 1;have c2:=hk.cell 2;have f1:=hk.frozen 1;have f2:=hk.frozen 2;simp only[Awt,Awm,Awa]at c0 c1 c2;unfold plc at c2;have l1:g<w1.heap.size:=BQ c0;clear hb hk;generalize hx:enc p.1=x at *;generalize hx2:enc p.2=x2 at *;generalize hx3:enc (p.2+1)=x3 at *;have HX:=θ hx;have HX2:=θ hx2;have HX3:=θ hx3;clear hx hx2 hx3
  go_wp2
  go_end0
  refine⟨rfl,?_,?_⟩
  .rw[HN.out]
   unfold Rd plc;rw[HX.out,HX3.out];exact Q9 HK.out (.complex .f64 x x3) (.int .i64 ((i+1:Nat):Int))
  .exact Fy (Fy (A2 HB.out) 2 _) 1 _
def MosIn(w:World)(v:Value)(ms:List Mo):Prop:=∃ A c,v=.slice A ms.length c/\(0<ms.length->∃ b o,A=V ⟨b,o,Δ⟩/\b<w.heap.size/\∀ i (h:i<ms.length),w.cell? ⟨b,o+i*3,Δ⟩=V (.bool ms[i].neg)/\w.cell? ⟨b,o+i*3+1,Δ⟩=V (.string ms[i].num)/\w.cell? ⟨b,o+i*3+2,Δ⟩=V (.string ms[i].var))
theorem MosIn.call{w w':World}{v:Value}{ms:List Mo}(h:MosIn w v ms)(hb:Below w.heap.size w w'):MosIn w' v ms:=by
 obtain⟨A,c,rfl,hx⟩:=h;refine⟨A,c,rfl,λh0=>?_⟩;obtain⟨b,o,rfl,hl,hc⟩:=hx h0;refine⟨b,o,rfl,Awp hl hb.size,λi hi=>?_⟩;obtain⟨c1,c2,c3⟩:=hc i hi;exact⟨(hb.cell (p:=⟨b,o+i*3,Δ⟩) hl).trans c1,(hb.cell (p:=⟨b,o+i*3+1,Δ⟩) hl).trans c2,(hb.cell (p:=⟨b,o+i*3+2,Δ⟩) hl).trans c3⟩
theorem EU{w w':World}{T e:TypeId}{B b:Nat}{bs:AN}(h:Axb T e B b bs w)(hb:Below w.heap.size w w'):Axb T e B b bs w':=by
 rcases h with h|h
 .obtain⟨hB,v,h1,h2,h3⟩:=h
  have hl:=Lib.BuilderAt.lt ⟨hB,v,h1,h2,h3⟩;exact .inl ⟨hB,v,(hb.block b hl).trans h1,PR h2 hb,h3⟩
 .obtain⟨hB,v,h1,h2,h3⟩:=h
  have hl:=Lib.BuilderAt.lt ⟨hB,v,h1,h2,h3⟩;exact .inr ⟨hB,v,(hb.block b hl).trans h1,PR h2 hb,h3⟩
set_option maxRecDepth 100000 in
set_option maxHeartbeats 4000000 in
theorem Wn(ms:List Mo)(v:Value)(w:World)(hv:MosIn w v ms)
  (hR:∀ w',Below w.heap.size w w'->Calls π 23 #[v] w' λe w''=>e=.returned (.bool (Ji ms))/\Below w'.heap.size w' w'')
  (hM:∀ m∈ms,Bh m=U->∀ w',Calls π 57 #[.agg #[.bool m.neg,.string m.num,.string m.var]] w' λe w''=>e=.returned (.string ⟨(C9 m).toArray⟩)/\Below w'.heap.size w' w'') :
  Calls π 22 #[v] w λe w'=>e=.returned (.string ⟨(CY ms).toArray⟩)/\Below w.heap.size w w':=by
 obtain⟨A,c,rfl,hx⟩:=hv;have HX:=θ hx;have HR:=θ hR;have HM:=θ hM;clear hx hR hM
 go_enter Tryz.func22,Tryz.ntmps22
 unfold CY
 cases hrs:Ji ms with
 |false=>
  rw[hrs]at HR
  go_wp2_with (go_at_call 23;refine(HR.out _ (Below.refl _ _)).mono ?_)
  rintro e w1 ⟨rfl,hb1⟩
  go_wp2
  go_ret
  exact⟨rfl,hb1⟩
 |true=>
  rw[hrs]at HR;have hrs2:=hrs;unfold Ji at hrs2;simp only[AvF,decide_eq_true_eq]at hrs2;obtain⟨⟨h0,h64⟩,hall⟩:=hrs2;have HALL:=θ hall;clear hall hrs
  go_wp2_with (go_at_call 23;refine(HR.out _ (Below.refl _ _)).mono ?_)
  rintro e w1 ⟨rfl,hb1⟩;have HB1:=θ hb1;clear hb1
  go_wp2_with fail
  go_loopw [11] (λq wr=>∃ k:Nat,k<=ms.length/\q=.int .i64 k/\Axb 119 5 w.heap.size w1.heap.size (AwW (CF 0 (ms.take k))) wr/\Below w.heap.size w wr) (λq _=>ms.length-(intOf q).toNat)
  case atStart=>
   refine⟨0,Awh _,rfl,?_,?_⟩
   .exact .inl ⟨HB1.out.size,.slice Δ 0 0,heap_alloc_new _ _,World.ownsRow_nil _ _ _ _,by simp[Value.ownBlock]⟩
   .exact HB1.out.alloc HB1.out.size _
  case round=>
   obtain⟨k,hk,rfl,hbld,hb⟩:=hrel;have HBLD:=θ hbld;have HB:=θ hb;clear hbld hb
   by_cases hlt:k<ms.length
   .obtain⟨b,o,rfl,hbl,hc⟩:=HX.out h0
    obtain⟨d1,d2,d3⟩:=hc k hlt;have c1:=(HB.out.cell (p:=⟨b,o+k*3,Δ⟩) hbl).trans d1;have c2:=(HB.out.cell (p:=⟨b,o+k*3+1,Δ⟩) hbl).trans d2;have c3:=(HB.out.cell (p:=⟨b,o+k*3+2,Δ⟩) hbl).trans d3;have l0:b<wr.heap.size:=BQ c1;have z0:(0:Int)<=(k:Int):=by omega
    have z1:(k:Int)<(ms.length:Int):=by omega
    clear hc d1 d2 d3;have HT:=θ (Qo ms k hlt);have hr:Bh ms[k]=U:=AvJ.1 HALL.out _ (AvN hlt);have HMK:=θ (HM.out ms[k] (AvN hlt) hr);have HLM:=θ (PD hr);have HLS:=θ (D6 (ms.take k) 0 (AvJ.2 λx hx=>AvJ.1 HALL.out x (List.mem_of_mem_take hx)));generalize ms[k]=m at *;obtain⟨ng,nu,va⟩:=m;clear hr;simp only at c1 c2 c3
    cases ng with
    |true=>
     by_cases hk0:k=0
     .subst hk0
      rw[AwK,Awr]at c1 c2 c3;have q1:(AwW (CF 0 (ms.take 0))).length+(ByteArray.mk #[45]).size<=140737488355328:=by
       rw[AwY];have h5:=HLS.out;have h8:(ms.take 0).length<=64:=by rw[Av6];omega
       show _+1<=_
       omega
      have Q1:=θ q1;clear q1
      go_wp2_with (go_at_call 56;refine(Cw w.heap.size _ (AwW (CF 0 (ms.take 0))) _ _ (EU HBLD.out (Bw _ _)) Q1.out (CN HB.out).size).mono ?_)
      first|rintro e w3 rfl hd3 hb3 hk3|rintro e w3 ⟨rfl,hd3,hb3,hk3⟩
      have HK3:=θ (show Blk w3 wr.heap.size 115 #[.bool U,.string nu,.string va] from by first|exact hk3 _ _ _ _ (Blk.new wr _ _) (Axq (HBLD.out.elim Lib.BuilderAt.lt Lib.BuilderAt.lt)) (by decide) | exact hk3 _ _ _ _ _ (Blk.new wr _ _) (Axq (HBLD.out.elim Lib.BuilderAt.lt Lib.BuilderAt.lt)) (by decide));have HB3:=θ ((CN HB.out).trans hb3);have HLP:=θ (show ([45]:List UInt8).length<=3 by decide);have HD3:=θ (show Axb 119 5 w.heap.size w1.heap.size (AwW (CF 0 (ms.take 0)++[45])) w3 from .inr (by rw[AwX];exact hd3));clear hd3 hb3 hk3;have x0:=HK3.out.cell 0;have x1:=HK3.out.cell 1;have x2:=HK3.out.cell 2;have l3:=HK3.out.lt
      go_wp2_with (go_at_call 57;refine(HMK.out _).mono ?_)
      first|rintro e w4 rfl hb4|rintro e w4 ⟨rfl,hb4⟩
      replace hb4:Below (w3).heap.size (w3) w4:=by first|exact hb4 | (rw[World.size_alloc];exact hb4)
      have HB4:=θ (Bb HB3.out hb4);have HD4:=θ (EU HD3.out hb4);clear hb4 x0 x1 x2 l3
      go_wp2_with (go_at_call 56;refine(Cw w.heap.size _ _ _ _ HD4.out ?h1 HB4.out.size).mono ?_)
      case h1=>
       rw[AwY,ζ];have h5:=HLS.out;have h6:=HLM.out;have h7:=HLP.out;have h8:(ms.take 0).length<=64:=by rw[Av6];omega
       have h9:(ByteArray.mk (C9 ⟨U,nu,va⟩).toArray).size=(C9 ⟨U,nu,va⟩).length:=by simp[ByteArray.size]
       omega
      first|rintro e w5 rfl hd5 hb5 _|rintro e w5 ⟨rfl,hd5,hb5,_⟩
      have HD5:=θ hd5;have HB5:=θ (HB4.out.trans hb5);clear hd5 hb5
      go_wp2_with fail
      go_roundw
      case rel=>exact⟨0+1,hlt,by go_num,.inr (by rw[HT.out,AwX];exact HD5.out),HB5.out⟩
      case measure=>simp[intOf];omega
     .have y0:¬ (k:Int)=0:=by omega
      have hs:Nc k ⟨U,nu,va⟩=[32,45,32]:=by simp[Nc,hk0]
      rw[hs]at HT;have q1:(AwW (CF 0 (ms.take k))).length+(ByteArray.mk #[32,45,32]).size<=140737488355328:=by
       rw[AwY];have h5:=HLS.out;have h8:(ms.take k).length<=64:=by rw[Av6];omega
       show _+3<=_
       omega
      have Q1:=θ q1;clear q1
      go_wp2_with (go_at_call 56;refine(Cw w.heap.size _ (AwW (CF 0 (ms.take k))) _ _ (EU HBLD.out (Bw _ _)) Q1.out (CN HB.out).size).mono ?_)
      first|rintro e w3 rfl hd3 hb3 hk3|rintro e w3 ⟨rfl,hd3,hb3,hk3⟩
      have HK3:=θ (show Blk w3 wr.heap.size 115 #[.bool U,.string nu,.string va] from by first|exact hk3 _ _ _ _ (Blk.new wr _ _) (Axq (HBLD.out.elim Lib.BuilderAt.lt Lib.BuilderAt.lt)) (by decide) | exact hk3 _ _ _ _ _ (Blk.new wr _ _) (Axq (HBLD.out.elim Lib.BuilderAt.lt Lib.BuilderAt.lt)) (by decide));have HB3:=θ ((CN HB.out).trans hb3);have HLP:=θ (show ([32,45,32]:List UInt8).length<=3 by decide);have HD3:=θ (show Axb 119 5 w.heap.size w1.heap.size (AwW (CF 0 (ms.take k)++[32,45,32])) w3 from .inr (by rw[AwX];exact hd3));clear hd3 hb3 hk3;have x0:=HK3.out.cell 0;have x1:=HK3.out.cell 1;have x2:=HK3.out.cell 2;have l3:=HK3.out.lt
      go_wp2_with (go_at_call 57;refine(HMK.out _).mono ?_)
      first|rintro e w4 rfl hb4|rintro e w4 ⟨rfl,hb4⟩
      replace hb4:Below (w3).heap.size (w3) w4:=by first|exact hb4 | (rw[World.size_alloc];exact hb4)
      have HB4:=θ (Bb HB3.out hb4);have HD4:=θ (EU HD3.out hb4);clear hb4 x0 x1 x2 l3
      go_wp2_with (go_at_call 56;refine(Cw w.heap.size _ _ _ _ HD4.out ?h1 HB4.out.size).mono ?_)
      case h1=>
       rw[AwY,ζ];have h5:=HLS.out;have h6:=HLM.out;have h7:=HLP.out;have h8:(ms.take k).length<=64:=by rw[Av6];omega
       have h9:(ByteArray.mk (C9 ⟨U,nu,va⟩).toArray).size=(C9 ⟨U,nu,va⟩).length:=by simp[ByteArray.size]
       omega
      first|rintro e w5 rfl hd5 hb5 _|rintro e w5 ⟨rfl,hd5,hb5,_⟩
      have HD5:=θ hd5;have HB5:=θ (HB4.out.trans hb5);clear hd5 hb5
      go_wp2_with fail
      go_roundw
      case rel=>exact⟨k+1,hlt,by go_num,.inr (by rw[HT.out,AwX];exact HD5.out),HB5.out⟩
      case measure=>simp[intOf];omega
    |false=>
     by_cases hk0:k=0
     .subst hk0
      rw[AwK,Awr]at c1 c2 c3;have hs:Nc 0 ⟨Θ,nu,va⟩=[]:=rfl;rw[hs]at HT;have HK3:=θ (Blk.new wr 115 #[.bool Θ,.string nu,.string va]);have HB3:=θ (CN (o:=.cells #[.bool Θ,.string nu,.string va] 115) HB.out);have HLP:=θ (show ([]:List UInt8).length<=3 by decide);have HD3:=θ (show Axb 119 5 w.heap.size w1.heap.size (AwW (CF 0 (ms.take 0)++[])) (wr.alloc (.cells #[.bool Θ,.string nu,.string va] 115)) from by rw[List.append_nil];exact EU HBLD.out (Bw _ _));have x0:=HK3.out.cell 0;have x1:=HK3.out.cell 1;have x2:=HK3.out.cell 2;have l3:=HK3.out.lt
      go_wp2_with (go_at_call 57;refine(HMK.out _).mono ?_)
      first|rintro e w4 rfl hb4|rintro e w4 ⟨rfl,hb4⟩
      replace hb4:Below (wr.alloc (.cells #[.bool Θ,.string nu,.string va] 115)).heap.size (wr.alloc (.cells #[.bool Θ,.string nu,.string va] 115)) w4:=by first|exact hb4 | (rw[World.size_alloc];exact hb4)
      have HB4:=θ (Bb HB3.out hb4);have HD4:=θ (EU HD3.out hb4);clear hb4 x0 x1 x2 l3
      go_wp2_with (go_at_call 56;refine(Cw w.heap.size _ _ _ _ HD4.out ?h1 HB4.out.size).mono ?_)
      case h1=>
       rw[AwY,ζ];have h5:=HLS.out;have h6:=HLM.out;have h7:=HLP.out;have h8:(ms.take 0).length<=64:=by rw[Av6];omega
       have h9:(ByteArray.mk (C9 ⟨Θ,nu,va⟩).toArray).size=(C9 ⟨Θ,nu,va⟩).length:=by simp[ByteArray.size]
       omega
      first|rintro e w5 rfl hd5 hb5 _|rintro e w5 ⟨rfl,hd5,hb5,_⟩
      have HD5:=θ hd5;have HB5:=θ (HB4.out.trans hb5);clear hd5 hb5
      go_wp2_with fail
      go_roundw
      case rel=>exact⟨0+1,hlt,by go_num,.inr (by rw[HT.out,AwX];exact HD5.out),HB5.out⟩
      case measure=>simp[intOf];omega
     .have y0:¬ (k:Int)=0:=by omega
      have y1:(0:Int)<(k:Int):=by omega
      have hs:Nc k ⟨Θ,nu,va⟩=[32,43,32]:=by simp[Nc,hk0]
      rw[hs]at HT;have q1:(AwW (CF 0 (ms.take k))).length+(ByteArray.mk #[32,43,32]).size<=140737488355328:=by
       rw[AwY];have h5:=HLS.out;have h8:(ms.take k).length<=64:=by rw[Av6];omega
       show _+3<=_
       omega
      have Q1:=θ q1;clear q1
      go_wp2_with (go_at_call 56;refine(Cw w.heap.size _ (AwW (CF 0 (ms.take k))) _ _ (EU HBLD.out (Bw _ _)) Q1.out (CN HB.out).size).mono ?_)
      first|rintro e w3 rfl hd3 hb3 hk3|rintro e w3 ⟨rfl,hd3,hb3,hk3⟩
      have HK3:=θ (show Blk w3 wr.heap.size 115 #[.bool Θ,.string nu,.string va] from by first|exact hk3 _ _ _ _ (Blk.new wr _ _) (Axq (HBLD.out.elim Lib.BuilderAt.lt Lib.BuilderAt.lt)) (by decide) | exact hk3 _ _ _ _ _ (Blk.new wr _ _) (Axq (HBLD.out.elim Lib.BuilderAt.lt Lib.BuilderAt.lt)) (by decide));have HB3:=θ ((CN HB.out).trans hb3);have HLP:=θ (show ([32,43,32]:List UInt8).length<=3 by decide);have HD3:=θ (show Axb 119 5 w.heap.size w1.heap.size (AwW (CF 0 (ms.take k)++[32,43,32])) w3 from .inr (by rw[AwX];exact hd3));clear hd3 hb3 hk3;have x0:=HK3.out.cell 0;have x1:=HK3.out.cell 1;have x2:=HK3.out.cell 2;have l3:=HK3.out.lt
      go_wp2_with (go_at_call 57;refine(HMK.out _).mono ?_)
      first|rintro e w4 rfl hb4|rintro e w4 ⟨rfl,hb4⟩
      replace hb4:Below (w3).heap.size (w3) w4:=by first|exact hb4 | (rw[World.size_alloc];exact hb4)
      have HB4:=θ (Bb HB3.out hb4);have HD4:=θ (EU HD3.out hb4);clear hb4 x0 x1 x2 l3
      go_wp2_with (go_at_call 56;refine(Cw w.heap.size _ _ _ _ HD4.out ?h1 HB4.out.size).mono ?_)
      case h1=>
       rw[AwY,ζ];have h5:=HLS.out;have h6:=HLM.out;have h7:=HLP.out;have h8:(ms.take k).length<=64:=by rw[Av6];omega
       have h9:(ByteArray.mk (C9 ⟨Θ,nu,va⟩).toArray).size=(C9 ⟨Θ,nu,va⟩).length:=by simp[ByteArray.size]
       omega
      first|rintro e w5 rfl hd5 hb5 _|rintro e w5 ⟨rfl,hd5,hb5,_⟩
      have HD5:=θ hd5;have HB5:=θ (HB4.out.trans hb5);clear hd5 hb5
      go_wp2_with fail
      go_roundw
      case rel=>exact⟨k+1,hlt,by go_num,.inr (by rw[HT.out,AwX];exact HD5.out),HB5.out⟩
      case measure=>simp[intOf];omega
   .obtain rfl:k=ms.length:=by omega
    have z1:¬ (ms.length:Int)<(ms.length:Int):=by omega
    have HBL:=HBLD.out;rw[List.take_length]at HBL
    go_wp2_with (go_at_call 58;refine(Tryz.Builder_String_any w.heap.size _ _ _ HBL HB.out.size).mono ?_)
    rintro e w2 rfl hb2;have HB2:=θ (HB.out.trans hb2);clear hb2
    go_wp2
    go_ret
    exact⟨rfl,HB2.out⟩
def AoZ:Ab->Option Mo
 |[.v (.bool n),.v (.string a),.v (.string b)]=>V ⟨n,a,b⟩
 |_=>Δ
def RQ:Rw->Option (List Mo)
 |[]=>V []
 |x::r=>match AoZ x,RQ r with
  |some m,V l=>V (m::l)
  |_,_=>Δ
theorem RR:∀ ms:List Mo,RQ (ms.map C4)=V ms
 |[]=>rfl
 |m::r=>by
  rw[AvT,RQ,RR r];obtain⟨n,a,b⟩:=m;rfl
theorem Abx{x:Ab}{m:Mo}(h:AoZ x=V m):x=C4 m:=by
 unfold AoZ at h;split at h
 .injection h with h
  subst h;rfl
 .cases h
theorem PE:∀{xs:Rw} {ms:List Mo},RQ xs=V ms->xs=ms.map C4
 |[],ms,h=>by injection h with h;subst h;rfl
 |x::r,ms,h=>by
  unfold RQ at h;split at h
  .rename_i m l h1 h2
   injection h with h
   subst h;rw[AvT,←PE h2,←Abx h1]
  .cases h
def Z1(ms:List Mo):Bool:=Nat.blt ms.length 4611686018427387904&&ms.all λm=>Nat.ble m.num.size 9223372036854775807&&Nat.ble m.var.size 9223372036854775807
theorem RY{ms:List Mo}:Z1 ms=U ↔ ms.length<4611686018427387904/\∀ m∈ms,WzM m:=by
 unfold Z1 WzM;simp only[AvF,AvJ,Nat.ble_eq,Nat.blt_eq]
def DG:Ab->Option AV
 |[.ls xs]=>(match RQ xs with
  |some ms=>if Z1 ms then V (sv (Ag (CY ms))) else Δ
  |none=>Δ)
 |_=>Δ
theorem QY(ms:List Mo)(h:Z1 ms=U):DG [.ls (ms.map C4)]=V (sv (Ag (CY ms))):=by
 simp only[DG,RR,h,if_true]
theorem X5{μ:Mu}{F:AQ}{w:World}{v:Value}{ms:List Mo}(h:Rep μ F w (.ls (ms.map C4)) v):MosIn w v ms:=by
 unfold Rep at h;obtain⟨_,A,c,h1,h2,h3,h4⟩:=h;rw[List.length_map]at h1 h2;refine⟨A,c,h1,λh0=>?_⟩;obtain⟨g,o,e,hA,hr⟩:=h4 (by simpa using List.ne_nil_of_length_pos h0);have he:e=3:=by
  have:=hr.get (i:=0) (x:=C4 ms[0]) (by rw[AwC,Ω h0];rfl);have:=this.1;unfold C4 at this;simpa using this.symm
 subst he;have cell:∀ i (h:i<ms.length),w.cell? ⟨g,o+i*3,Δ⟩=V (.bool ms[i].neg)/\w.cell? ⟨g,o+i*3+1,Δ⟩=V (.string ms[i].num)/\w.cell? ⟨g,o+i*3+2,Δ⟩=V (.string ms[i].var):=λi hi=>by
  have ha:=(hr.get (i:=i) (x:=C4 ms[i]) (by rw[AwC,Ω hi];rfl)).2;unfold C4 at ha;obtain⟨_,u0,c0,r0⟩:=ha.get (i:=0) (x:=bv ms[i].neg) rfl;obtain⟨_,u1,c1,r1⟩:=ha.get (i:=1) (x:=sv ms[i].num) rfl;obtain⟨_,u2,c2,r2⟩:=ha.get (i:=2) (x:=sv ms[i].var) rfl;unfold bv Rep at r0;unfold sv Rep at r1 r2;rw[r0.1]at c0;rw[r1.1]at c1;rw[r2.1]at c2;exact⟨c0,c1,c2⟩
 exact⟨g,o,hA,DW (cell 0 h0).1,cell⟩
theorem Are:LexN DT where
 name s hs:=Apz (by unfold CO CH;simp only[sv,hs,if_true];rfl)
 num s hs:=Ahr (by unfold CO BZ;simp only[sv,hs,if_true];rfl)
theorem UC(hN:Ca (CW π 109) (CO CH))(hU:Ca (CW π 108) (CO BZ)):Ca (CW π 22) (CO DG):=by
 refine JD (CV _ _) _ λargs r hr μ F w us hus=>?_
 unfold DG at hr;split at hr
 .rename_i xs
  split at hr
  .rename_i ms hms
   split at hr
   .rename_i hok
    injection hr with hr
    subst hr;obtain rfl:=PE hms;obtain⟨hl,hz⟩:=RY.1 hok;obtain⟨v,t,rfl,hv,ht⟩:=hus;have ht:t=[]:=ht;subst ht;have hp:Rep (λ_=>Δ) (λg _=>g<w.heap.size) w (.ls (ms.map C4)) v:=Rep.plain _ _ rfl hv;refine Calls.mono (Wn ms v w (X5 hv) (λw' hb=>?_) (λm hm hr w'=>?_)) ?_
    .have g:=ML (Wh ⟨hN,hU,trivial⟩) (GC Aq2 Are ms hz hl) w' [v] (by simp only[RepList];exact⟨v,[],rfl,AbX hp hb,rfl⟩)
     refine Calls.mono g ?_;rintro e w'' ⟨u,rfl,hb2,μ',F',hu⟩;unfold bv Rep at hu;rw[hu.1];exact⟨rfl,hb2⟩
    .have g:=ML (Wh ⟨hN,hU,trivial⟩) (VE Aq2 m hr) w' [.agg #[.bool m.neg,.string m.num,.string m.var]] (by
      simp only[RepList];refine⟨_,[],rfl,?_,rfl⟩;unfold Rep;refine⟨_,rfl,?_⟩;simp only[C4,RepList];exact⟨_,_,rfl,Yn _,_,_,rfl,TF _,_,_,rfl,TF _,rfl⟩)
     refine Calls.mono g ?_;rintro e w'' ⟨u,rfl,hb2,μ',F',hu⟩;unfold sv Rep at hu;rw[hu.1];exact⟨rfl,hb2⟩
    .rintro e w' ⟨rfl,hb⟩
     exact⟨_,rfl,hb,TF _⟩
   .cases hr
  .cases hr
 .cases hr
def ArT:List (Nat × Nat):=[(152,0),(206,0),(242,0),(243,0),(260,0),(273,0),(156,0),(208,0),(263,0)]
def AoD:MFn:=Bj [] 32
def AoO:MFn:=I5 π BI [] Θ U 69
def AoP:MFn:=Bj [] 70
def AiY:MFn:=Bj [] 125
def Ai8:MFn:=Bj [] 186
def Ajb:MFn:=Bj [] 230
def Ajf:MFn:=Bj [] 252
def AoU:MFn:=I5 π BI [] Θ U 92
def Ajh:MFn:=Bj [] 265
def AiZ:MFn:=Bj [] 126
def AoV:MFn:=I5 π BI [] Θ U 93
def AoY:MFn:=I5 π BI [] Θ U 96
def Ajd:MFn:=I5 π BI [] Θ U 248
def Aji:MFn:=Bj [] 266
def Ajc:MFn:=Bj [⟨20,(mB 904),[],[],[(1,((mB 8),([],[])))]⟩] 232
def Ajk:MFn:=Bj [] 276
def AoS:MFn:=Bj [⟨19,(mB 387),[],[],[(0,((mB 16),([],[]))),(1,([],([],[])))]⟩] 88
def Ajj:MFn:=Bj [] 267
def Aje:MFn:=I5 π BI [] Θ U 249
def AoJ:MFn:=I5 π BI [⟨41,(mB 49),[],[],[(0,((mB 13),([],[])))]⟩] Θ U 49
def AoW:MFn:=I5 π BI [] Θ U 94
def Ai5:MFn:=I5 π BI [] Θ U 162
def AoX:MFn:=I5 π BI [] Θ U 95
def Ai6:MFn:=I5 π BI [] Θ U 163
def Aja:MFn:=Bj [] 219
def AoT:MFn:=Bj [] 90
def Ajg:MFn:=Bj [⟨19,(mB 387),[],[],[(0,((mB 16),([],[]))),(1,([],([],[])))]⟩] 262
def Ai7:MFn:=Bj [⟨44,(mB 13374),[],[],[(1,((mB 13312),([],[])))]⟩] 185
def AoK:MFn:=Bj [] 53
def AoF:MFn:=Bj [] 38
def AoE:MFn:=Bj [] 36
def AoQ:MFn:=Bj [⟨57,(mB 60129542150),[],[],[(0,((mB 16),([],[]))),(1,([],([],[])))]⟩] 74
def Ai0:MFn:=Bj [] 132
def Ai1:MFn:=Bj [] 133
def AoH:MFn:=Bj [] 46
def AoC:MFn:=Bj [] 23
def AoL:MFn:=Bj [] 59
def AiX:MFn:=Bj [⟨19,(mB 387),[],[],[(0,((mB 16),([],[]))),(1,([],([],[])))]⟩] 107
def AoM:MFn:=Bj [] 60
def AoN:MFn:=Bj [] 61
def AoG:MFn:=Bj [] 45
def Ai2:MFn:=Bj [] 134
def Ai9:MFn:=Bj [] 194
def AoR:MFn:=Bj [⟨56,(mB 1802),[],[],[(1,((mB 10),([],[])))]⟩] 80
def Ai3:MFn:=Bj [] 137
def AoI:MFn:=Bj [] 47
def Ai4:MFn:=Bj [] 138
def Ar8:List (Nat × MFn):=[(32,AoD),(69,AoO),(70,AoP),(125,AiY),(186,Ai8),(230,Ajb),(252,Ajf),(92,AoU),(265,Ajh),(126,AiZ),(93,AoV),(96,AoY),(248,Ajd),(266,Aji),(232,Ajc),(276,Ajk),(88,AoS),(267,Ajj),(249,Aje),(49,AoJ),(94,AoW),(162,Ai5),(95,AoX),(163,Ai6),(219,Aja),(90,AoT),(262,Ajg),(185,Ai7),(53,AoK),(38,AoF),(36,AoE),(74,AoQ),(132,Ai0),(133,Ai1),(46,AoH),(23,AoC),(59,AoL),(107,AiX),(60,AoM),(61,AoN),(45,AoG),(134,Ai2),(194,Ai9),(80,AoR),(137,Ai3),(47,AoI),(138,Ai4)]
def Ag6:List (List (Nat × MFn)):=[Ar8]
def Aer:List (Nat × DF):=[(91,CO TG),(109,CO CH),(108,CO BZ),(22,CO DG)]
def KZ:Seat:=ID ArT Ag6.flatten Aer
set_option maxRecDepth 100000 in
theorem ApQ:JU π BI Ag6:=by
 repeat' first|exact trivial|refine⟨⟨_,_,_,rfl⟩,by kernel_rfl,?_⟩|refine⟨?_,?_⟩
theorem Acf(h:JW π Aer):SeatOk π BI KZ:=Ik X4 HW ApQ h
section
variable {μ:Mu} {F:AQ} {w w':World}
theorem Afj{H:Nat->Option ABlk}(hH:HRep μ F w H)(h:Below w.heap.size w w'):Later μ μ F F w w':=
 ⟨λ_ _ h=>h,λg o hg=>⟨hg,(EC F h).cell hg (hH.prot g o hg)⟩⟩
theorem RB{H:Nat->Option ABlk}(hH:HRep μ F w H)(h:Below w.heap.size w w'){b0:Nat}(h0:H b0=Δ)(hμ:μ b0=Δ)(p:Pl)(k:ABlk)(hst:k.st=U)
  (hg:w.heap.size<=p.g\/p.room=0) (hroom:k.cells.length<=p.room)
  (hcell:∀ i x,k.cells[i]? = V x->∃ u,w'.cell? ⟨p.g,p.o+i,Δ⟩=V u/\Rep μ F w x u)
  (hthere:∀ i,i<p.room->(∃ u,w'.cell? ⟨p.g,p.o+i,Δ⟩=V u)/\w'.frozen? ⟨p.g,p.o+i,Δ⟩=Θ) (hpure:A6 k.cells=U) :
  ∃ μ',μ' b0=V p/\(∀ b,b≠b0->μ' b=μ b)/\HRep μ' F w' (λb=>if b=b0 then V k else H b)/\Later μ μ' F F w w':=by
 have hl0:=Afj hH h;have hl:Later μ (λb=>if b=b0 then V p else μ b) F F w w':=⟨λb q hb=>by
  by_cases e:b=b0
  .subst e;rw[hμ]at hb;cases hb
  .simp only[e,if_false];exact hb,hl0.prot⟩
 have st:=EC (λ_ _=>False) h;have same:∀ g o,g<w.heap.size->w'.cell? ⟨g,o,Δ⟩=w.cell? ⟨g,o,Δ⟩:=λg o hg=>h.cell (p:=⟨g,o,Δ⟩) hg
 refine⟨λb=>if b=b0 then V p else μ b,Ac rfl,λb hb=>Ad hb,⟨λb kb hb=>?_,λb b' kb kb' q q' hne hb hb' hq hq' i i' hi hi'=>?_,λg o hgo=>Awp (hH.prot g o hgo) h.size⟩,hl⟩
 .by_cases e:b=b0
  .subst e
   simp only[if_true]at hb ⊢;injection hb with hb
   subst hb;refine⟨p,rfl,λi x hx=>?_,hroom,hthere,λhf=>?_,λi hi hF=>?_,λ_=>hpure⟩
   .obtain⟨u,h1,h2⟩:=hcell i x hx
    exact⟨u,h1,h2.later hl⟩
   .rw[hst]at hf;cases hf
   .have hlt:=hH.prot _ _ hF
    rcases hg with hg|hg
    .omega
    .rcases hi with⟨h1,_⟩|⟨_,h1,_⟩
     .omega
     .omega
  .simp only[e,if_false]at hb ⊢
   obtain⟨q,hq,B⟩:=hH.blk b kb hb;refine⟨q,hq,?_,B.room,?_,B.kept,B.free,B.pure⟩
   .intro i x hx
    obtain⟨u,h1,h2⟩:=B.cell i x hx;exact⟨u,(same _ _ (DW h1)).trans h1,h2.later hl⟩
   .intro i hi
    obtain⟨⟨u,h1⟩,h2⟩:=B.there i hi;exact⟨⟨u,(same _ _ (DW h1)).trans h1⟩,(st.frozen (DW h1)).trans h2⟩
 .have old:∀(c:Nat) (kc:ABlk) (q:Pl),H c=V kc->μ c=V q->∀ j,kc.owns q.room j->q.g<w.heap.size:=λc kc q hc hq j hj=>by
   obtain⟨q',hq',B⟩:=hH.blk c kc hc;rw[hq]at hq'
   cases hq'
   have hr:j<q.room:=by
    rcases hj with⟨h1,_⟩|⟨_,h1,_⟩
    .exact Awp h1 B.room
    .exact h1
   obtain⟨⟨u,h1⟩,_⟩:=B.there j hr;exact DW h1
  have newr:∀ j,k.owns p.room j->w.heap.size<=p.g:=λj hj=>by
   rcases hg with hg|hg
   .exact hg
   .rcases hj with⟨h1,_⟩|⟨_,h1,_⟩<;>omega
  by_cases e:b=b0
  .subst e
   have e':¬ b'=b:=λe=>hne e.symm
   simp only[if_true,e',if_false]at hb hb' hq hq';injection hb with hb
   injection hq with hq
   subst hb hq;have:=old b' kb' q' hb' hq' i' hi';have:=newr i hi;intro e2;injection e2 with e3 _
   omega
  .by_cases e':b'=b0
   .subst e'
    simp only[if_true,e,if_false]at hb hb' hq hq';injection hb' with hb'
    injection hq' with hq'
    subst hb' hq';have:=old b kb q hb hq i hi;have:=newr i' hi';intro e2;injection e2 with e3 _
    omega
   .simp only[e,e',if_false]at hb hb' hq hq'
    exact hH.apart b b' kb kb' q q' hne hb hb' hq hq' i i' hi hi'
end
def JQ(e:Nat)(res:Ab->Option (Nat × Ab)):DF:=λargs bs=>match bs with
 |[]=>(res args).map λp=>(.sl 0 0 p.1 e,[.set ⟨p.2,U,U⟩])
 |_=>Δ
theorem Ru{S:Mw}(hm:Nr S)(e:Nat)(res:Ab->Option (Nat × Ab))
  (h:∀ args n cells,res args=V (n,cells)->A6 cells=U/\cells.length=n*e/\∀(μ:Mu) (F:AQ) (w:World) (us:AN),(∀ g o,F g o->g<w.heap.size)->RepList μ F w args us->
   S us w λu w'=>∃ ety vs,w'.ownsRow w.heap.size ety e u n vs/\Below w.heap.size w w'/\RepList μ F w cells vs) :
  Ca S (JQ e res):=by
 intro args bs r out hd
 cases bs with
 |cons=>cases hd
 |nil=>
  obtain⟨⟨n,cells⟩,hr,he⟩:=Aw2.1 hd;obtain⟨rfl,rfl⟩:AV.sl 0 0 n e=r/\[AvH ⟨cells,U,U⟩]=out:=by simpa using he
  obtain⟨hpure,hlen,hs⟩:=h args n cells hr;refine⟨Awh _,1,η _,λt ht μ F w KL us hKL hus hH hμ=>?_⟩;refine hm _ _ _ _ (hs μ F w us hH.prot hus) λu w' ⟨ety,vs,ho,hb,hc⟩=>?_
  have h0:(λb=>if b<t then([]:List ABlk)[b]? else look b KL) 0=Δ:=by
   grind
  have hμ0:μ 0=Δ:=hμ 0 (Awh _) (by omega);have fin:∀(μ':Mu) (p:Pl),(∀ b,b≠0->μ' b=μ b)->HRep μ' F w' (λb=>if b=0 then V ⟨cells,U,U⟩ else(λb=>if b<t then([]:List ABlk)[b]? else look b KL) b)->Later μ μ' F F w w'->Rep μ' F w' (.sl 0 0 n e) u->
    ∃ μ' F',Rep μ' F' w' (.sl 0 0 n e) u/\HRep μ' F' w' (λb=>if b<t then E4 [] [AvH ⟨cells,U,U⟩] b else look b KL)/\Later μ μ' F F' w w'/\WStep F w w'/\∀ b,(b<([]:List ABlk).length\/[AvH ⟨cells,U,U⟩].length<=b)->μ' b=μ b:=λμ' p h1 h2 h3 h4=>by
   refine⟨μ',F,h4,?_,h3,EC F hb,λb hb=>h1 b ?_⟩
   .have e2:(λb=>if b=0 then V (⟨cells,U,U⟩:ABlk) else(λb=>if b<t then([]:List ABlk)[b]? else look b KL) b)=λb=>if b<t then E4 [] [AvH ⟨cells,U,U⟩] b else look b KL:=by
     funext b
     cases b with
     |zero=>
      rw[Ac rfl,Ac (by omega)];rfl
     |succ b=>
      rw[Ad (by omega)]
      show (if b+1<t then Δ else look (b+1) KL)=_
      by_cases hbt:b+1<t
      .grind [E4]
      .grind
    rw[←e2];exact h2
   .grind
  obtain⟨hl,ho2⟩:=ho;rcases ho2 with⟨rfl,rfl⟩|⟨g,cap,cur,rfl,hg,hcur,hn,hm2,hsz,htk⟩
  .have hc0:cells=[]:=List.eq_nil_of_length_eq_zero (by rw[hlen];simp)
   subst hc0;obtain⟨μ',a1,a2,a3,a4⟩:=RB hH hb h0 hμ0 ⟨0,0,0⟩ ⟨[],U,U⟩ rfl (.inr rfl) (η _) (λi x hx=>by simp at hx) (λi hi=>absurd hi (Nat.not_lt_zero _)) rfl;refine fin μ' ⟨0,0,0⟩ a2 a3 a4 ?_;unfold Rep;exact⟨_,a1,.inl ⟨rfl,rfl⟩⟩
  .have cellw:∀ i,i<cap*e->w'.cell? ⟨g,i,Δ⟩=cur[i]?:=λi _=>cell_of_row w' g i cur ety (0,0) hcur
   have vsl:vs.length=cells.length:=hc.length;obtain⟨μ',a1,a2,a3,a4⟩:=RB hH hb h0 hμ0 ⟨g,0,cap*e⟩ ⟨cells,U,U⟩ rfl (.inl hg) (by show cells.length<=cap*e;rw[hlen];exact Awq _ hn)
    (λi x hx=>by
     obtain⟨u,h1,h2⟩:=hc.get hx;refine⟨u,?_,h2⟩;have hi:i<cells.length:=by
      grind
     have hi2:i<cap*e:=by rw[hlen]at hi;exact Awp hi (Awq _ hn)
     show w'.cell? ⟨g,0+i,Δ⟩=V u
     rw[Nat.zero_add,cellw i hi2,←h1,←htk,List.getElem?_take,Ac (by rw[hlen]at hi;exact hi),Array.getElem?_toList])
    (λi hi=>by
     have hi:i<cap*e:=hi;refine⟨⟨cur[i]'(by omega),?_⟩,?_⟩
     .grind
     .show w'.frozen? ⟨g,0+i,Δ⟩=Θ
      simp[World.frozen?,hcur]) hpure
   refine fin μ' ⟨g,0,cap*e⟩ a2 a3 a4 ?_;unfold Rep;exact⟨_,a1,.inr ⟨0,cap,rfl,λ_=>rfl,hn,hm2,by show 0+cap*e<=cap*e;omega⟩⟩
