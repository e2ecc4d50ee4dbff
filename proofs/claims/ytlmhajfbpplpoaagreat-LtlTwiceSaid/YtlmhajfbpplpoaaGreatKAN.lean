/- A block of the call's ow -/
import Derived.WalkKit
import Derived.WalkSpells
import Derived.WalkLawsBesides
import Derived.Deep.Draws
import Derived.Lib.Hide
import Derived.Test.YtlmhajfbpplpoaaGreatKAM
import Derived.Shelf.Strings.Builder1
import Derived.Laws.ComplexArith
import Derived.OrdersHeld
import Derived.StillTail
import Derived.Deep.QuietTactic
import Derived.BigQuiet
import Derived.Test.YtlmhajfbpplpoaaGreatKAL
import Derived.Deep.RegionHeld3
import Derived.Maps.AppendAt
import Derived.Test.YtlmhajfbpplpoaaGreatKAB
import Derived.Lib.AppendZeros
set_option linter.all false
open Array renaming ext->AzZ,getElem?_append_left->AyV,getElem?_eq_none->Axr,getElem?_eq_some_iff->Aw9,replicate->AyF
open Bool renaming false->Θ,true->U,and_eq_true->η,eq_iff_iff->Aym,false_eq_true->Awx
open Int renaming natAbs_natCast->Azn
open List renaming all_eq_true->Awu,drop->Awv,eq_nil_of_length_eq_zero->AwN,flatten_cons->Axi,getD_eq_getElem?_getD->AwK,getElem?_cons_succ->AwW,getElem?_cons_zero->Axa,getElem?_eq_getElem->Ψ,getElem?_map->Axo,getElem?_toArray->Axk,getElem_mem->Awy,length_append->ζ,length_take->AwL,map_cons->AwP,nil_append->AwC,take->Aws
open Nat renaming add_mul->Axf,add_zero->Axg,ble->Aww,ble_eq->Az4,eq_zero_or_pos->Azq,le_refl->ω,le_trans->Aw6,log2_eq_iff->Ayq,lt_of_lt_of_le->Axs,lt_or_ge->AwM,min_eq_left->AxA,mul_assoc->AxX,mul_le_mul_right->Axd,mul_lt_mul_of_pos_right->Ax2,mul_ne_zero->AyK,ne_of_gt->Ax9,pow_add->Ax7,shiftLeft_eq->Ay8,shiftLeft_zero->Ayf,two_pow_pos->AxN,zero_add->AwJ,zero_le->Axb,zero_mul->Axz
open Option renaming none->Δ,some->V,map_eq_some_iff->Aze
namespace Go.Proofs.YtlmhajfbpplpoaaGreat
noncomputable section
open ABlk renaming mk->θ
open AV renaming agg->Φ,fn->AwG,ls->Ξ,ptr->ψ,sl->ο,tup->γ,v->AwB
open BO renaming set->Awp
open IntKind renaming i64->φ,u32->ν,u64->ι,u8->Ayu
open Key renaming fn->Ω,lp->Awq
open Lib renaming BuilderAt->AzN,IsBuilder->AxW,byteCells->AxH,byteCells_append->AxI,byteCells_length->AxJ,cell_of_heap->AyC,hid->ξ,indexByte->Azj,run_eql_slice_nil->Azg,strCells->AzS
open Option.some renaming injEq->δ
open Tryz renaming prog->ε
open Go.RowKit
theorem LN{B:Nat}{W w:World}(h:Below B W w):Below B W w.drew:=h.drew
theorem T4{w w':World}(h:Below w.drew.heap.size w.drew w'):Below w.heap.size w w':=⟨h.os,h.tape,h.output,h.size,h.block⟩
theorem C4{W w:World}{o:Obj}(h:Below W.heap.size W w):Below W.heap.size W (w.alloc o):=h.alloc h.size o
theorem DE{W w:World}{p:Addr}{u:Value}(h:Below W.heap.size W w)(hp:W.heap.size<=p.block):Below W.heap.size W (w.setCell p u):=h.setCell hp u
theorem A6{W w w':World}(h:Below W.heap.size W w)(hb:Below w.heap.size w w'):Below W.heap.size W w':=h.trans (hb.mono h.size)
theorem Bu(w:World)(o:Obj):Below w.heap.size w (w.alloc o):=(Below.refl _ _).alloc (ω _) o
theorem Cl{a b:Bool}(h:a=b):Ending.returned (.bool a)=.returned (.bool b):=by rw[h]
def Blk(w:World)(g:Nat)(t:TypeId)(cs:Array Value):Prop:=w.heap[g]? = V (.cells cs t (0,0))
section
variable {w w':World} {g:Nat} {t:TypeId} {cs:Array Value}
theorem Blk.lt(h:Blk w g t cs):g<w.heap.size:=by
 rcases AwM g w.heap.size with hlt|hge
 .exact hlt
 .unfold Blk at h;rw[Axr hge]at h;cases h
theorem Blk.cell(h:Blk w g t cs)(i:Nat):w.cell? ⟨g,i,Δ⟩=cs[i]?:=cell_of_row w g i cs t (0,0) h
theorem Blk.frozen(h:Blk w g t cs)(i:Nat):w.frozen? ⟨g,i,Δ⟩=Θ:=by
 unfold Blk at h;simp[World.frozen?,h]
theorem Blk.new(w:World)(t:TypeId)(cs:Array Value):Blk (w.alloc (.cells cs t)) w.heap.size t cs:=heap_alloc_new w _
theorem Blk.drew(h:Blk w g t cs):Blk w.drew g t cs:=h
theorem Blk.alloc(h:Blk w g t cs)(o:Obj):Blk (w.alloc o) g t cs:=(Below.heap_alloc w o g h.lt).trans h
theorem Blk.set_(h:Blk w g t cs)(i:Nat)(u:Value):Blk (w.setCell ⟨g,i,Δ⟩ u) g t (cs.setIfInBounds i u):=by
 unfold Blk at h ⊢;simp[World.setCell,Array.getElem?_modify,h]
theorem Blk.far(h:Blk w g t cs){p:Addr}(hp:g≠p.block)(u:Value):Blk (w.setCell p u) g t cs:=(Below.heap_setCell w p u g hp).trans h
theorem Blk.below{B:Nat}(h:Blk w g t cs)(hb:Below B w w')(hg:g<B):Blk w' g t cs:=(hb.block g hg).trans h
theorem Blk.call(h:Blk w g t cs)(hb:Below w.heap.size w w'):Blk w' g t cs:=h.below hb h.lt
end
def Own(w:World)(B g:Nat)(t:TypeId)(v:Value)(cs:Array Value):Prop:=B<=g/\v=.pointer (V ⟨g,0,Δ⟩)/\Blk w g t cs
section
variable {w w':World} {B g:Nat} {t:TypeId} {v:Value} {cs:Array Value}
theorem Own.call(h:Own w B g t v cs)(hb:Below w.heap.size w w'):Own w' B g t v cs:=⟨h.1,h.2.1,h.2.2.call hb⟩
end
def pick{α:Type}(d:Bool)(x y:α):α:=match d with|true=>x|false=>y
section
variable {w w':World} {base base' e size n:Nat} {v:Value} {xs:AI}
theorem JM{row:Option Nat}(hb:Below w.heap.size w w'):w.grownBy w' row:=⟨hb.os,hb.tape,hb.output,hb.size,λk hk _=>hb.block k hk⟩
theorem Q6(h:w.ownsRow base e size v n xs)(hb:Below w.heap.size w w'):w'.ownsRow base e size v n xs:=h.kept (row:=Δ) (JM hb) (by cases hv:v.ownBlock<;>simp)
theorem Aht(h:w.ownsRow base e size v n xs)(hb:base'<=base):w.ownsRow base' e size v n xs:=
 ⟨h.1,h.2.imp id λ⟨g,cap,cur,h1,h2,h3⟩=>⟨g,cap,cur,h1,Aw6 hb h2,h3⟩⟩
theorem Oy{W:World}{row:Option Nat}(h:Below W.heap.size W w)(hg:w.grownBy w' row)(hr:∀ k,row=V k->W.heap.size<=k):Below W.heap.size W w':=h.grown hg h.size hr
theorem UY{B:Nat}(h:w.ownsRow base e size v n xs)(hB:B<=base):∀ k,v.ownBlock=V k->B<=k:=λk hk=>Aw6 hB (h.lt k hk).1
end
def Yd(P:Program)(g:FuncId):Prop:=∀(args:Array Value) (w:World),(callFunc g args).run P w=.ok (.enter g args) w
theorem Ace:(Tryz.prog.info? 5).map (λi=>(i.zero,i.size,i.bytes))=V (V (.int .u8 0),1,1):=by kernel_rfl
theorem VE:(Tryz.prog.info? 119).map (·.size)=V 2:=by kernel_rfl
theorem AeE:liesAt ε Tryz.prog.depth 119 (2 / Tryz.prog.cellsOf 119) 0 119 1=U:=by kernel_rfl
set_option maxHeartbeats 1000000 in
set_option maxRecDepth 100000 in
theorem Qi(b:Nat)(w:World)(h0:w.cell? ⟨b,0,Δ⟩=V (.pointer (V ⟨b,0,Δ⟩))) :
  Calls ε 106 #[.pointer (V ⟨b,0,Δ⟩)] w λe w'=>e=.returned (.tuple #[])/\w'=w:=by
 obtain⟨j,hj,_⟩:=Aze.1 VE
 go_enter Tryz.func106,Tryz.ntmps106
 go_wp2
 rw[Lib.run_neq_ptr_same w _ Tryz.underlying116 hj]
 go_wp2
 go_end0
 exact⟨rfl,rfl⟩
set_option maxHeartbeats 1000000 in
set_option maxRecDepth 100000 in
theorem Pe(b:Nat)(w:World)(h0:w.cell? ⟨b,0,Δ⟩=V (.pointer Δ))(hsh:w.shape? b=V (119,2))(hfz:w.frozen? ⟨b,0,Δ⟩=Θ) :
  Calls ε 106 #[.pointer (V ⟨b,0,Δ⟩)] w λe w'=>e=.returned (.tuple #[])/\w'=w.setCell ⟨b,0,Δ⟩ (.pointer (V ⟨b,0,Δ⟩)):=by
 obtain⟨j,hj,hjs⟩:=Aze.1 VE
 go_enter Tryz.func106,Tryz.ntmps106
 go_wp2
 rw[Lib.run_to_unsafe w ⟨b,0,Δ⟩ Tryz.underlying116 Tryz.underlying222 hj (by rw[hjs];decide) hsh (Nat.zero_lt_succ 1)];simp only[Result.andThen];rw[Oper.upon_value]
 go_wp2
 rw[run_callFunc_extern Tryz.func167 (by kernel_rfl) (by kernel_rfl) (by kernel_rfl) (e:=Extern.AbiNoEscape.same) (by kernel_rfl)];rw[Lib.run_noEscape];simp only[Result.andThen];rw[Oper.upon_value]
 go_wp2
 rw[Lib.run_from_unsafe w ⟨b,0,Δ⟩ Tryz.underlying222 Tryz.underlying116 hj hsh AeE];simp only[Result.andThen];rw[Oper.upon_value]
 go_wp2
 go_end0
 exact⟨rfl,rfl⟩
theorem R1(B b:Nat)(bs:AI)(w:World)(h:AxW 119 5 B b bs w) :
  Calls ε 106 #[.pointer (V ⟨b,0,Δ⟩)] w λe w'=>e=.returned (.tuple #[])/\(AzN 119 5 B b (.pointer (V ⟨b,0,Δ⟩)) bs w'/\Below B w w'/\∀ k,k≠b->w'.heap[k]? = w.heap[k]?):=by
 rcases h with h|h
 .refine(Pe b w h.cell0 h.shape h.frozen0).mono ?_
  rintro e w' ⟨rfl,rfl⟩;exact⟨rfl,h.used _,(Below.refl B w).setCell (p:=⟨b,0,Δ⟩) h.1 _,λk hk=>Below.heap_setCell _ _ _ _ hk⟩
 .refine(Qi b w h.cell0).mono ?_
  rintro e w' ⟨rfl,rfl⟩;exact⟨rfl,h,Below.refl B _,λ_ _=>rfl⟩
set_option maxHeartbeats 2000000 in
set_option maxRecDepth 100000 in
theorem CD(B b:Nat)(bs:AI)(s:ByteArray)(w:World)(h:AxW 119 5 B b bs w)(hlen:bs.length+s.size<=140737488355328)(hBw:B<=w.heap.size) :
  Calls ε 56 #[.pointer (V ⟨b,0,Δ⟩),.string s] w λe w'=>e=.returned (.tuple #[.int .i64 s.size,.nilIface])/\(AzN 119 5 B b (.pointer (V ⟨b,0,Δ⟩)) (bs++AzS s) w'/\Below B w w'/\∀ k cs T fr,w.heap[k]? = V (.cells cs T fr)->k≠b->T≠5->w'.heap[k]? = V (.cells cs T fr)):=by
 obtain⟨i0,hi,hz0,hz1,hz2⟩:=info_parts Ace
 go_enter Tryz.func56,Tryz.ntmps56
 go_wp2_with (go_at_call 106;refine(R1 B b bs _ h).mono ?_)
 rintro e w1 ⟨rfl,h1,hb1,hk1⟩;obtain⟨hB,v,hbk,hown,hne⟩:=h1;have c0:w1.cell? ⟨b,0,Δ⟩=V (.pointer (V ⟨b,0,Δ⟩)):=by rw[AyC hbk];rfl
 have c1:w1.cell? ⟨b,1,Δ⟩=V v:=by rw[AyC hbk];rfl
 go_wp2_with (at_builtin;refine Lib.wpList_append_own_string _ rfl _ _ 117 9 rfl B 5 i0 Tryz.underlying117 Tryz.underlying9 hi hz0 hz1 hz2 _ _ _ rfl hown s rfl ?c3 ?c4 ?c5 ?_)
 case c3=>unfold maxLen;omega
 case c4=>omega
 case c5=>have:=hb1.size;omega
 intro v' w2 hown' hgrow _;have hlt:b<w1.heap.size:=by
  rcases AwM b w1.heap.size with h' | h'
  .exact h'
  .simp[Axr h']at hbk
 have hb2:w2.heap[b]? = V (.cells #[.pointer (V ⟨b,0,Δ⟩),v] 119 (0,0)):=by
  rw[hgrow.block b hlt (λe=>hne e.symm)];exact hbk
 have d0:w2.cell? ⟨b,0,Δ⟩=V (.pointer (V ⟨b,0,Δ⟩)):=by rw[AyC hb2];rfl
 have d1:w2.cell? ⟨b,1,Δ⟩=V v:=by rw[AyC hb2];rfl
 have f1:w2.frozen? ⟨b,1,Δ⟩=Θ:=Lib.frozen_of_heap hb2 1;obtain⟨ao,n',cap,rfl⟩:∃ ao n' cap,v'=.slice ao n' cap:=by
  rcases hown'.2 with⟨hv,_⟩|⟨g,cap,cur,hv,_⟩
  .exact⟨_,_,_,hv⟩
  .exact⟨_,_,_,hv⟩
 go_wp2
 go_ret2
 refine⟨rfl,?_,?_,?_⟩
 .exact Lib.BuilderAt.put (T:=119) (e:=5) hB hb2 (bs':=bs++AzS s) (by simpa[Lib.strCells_length]using hown') (by decide)
 .exact(hb1.grown hgrow (by have:=hb1.size;omega) (λk hk=>(hown.lt k hk).1)).setCell (p:=⟨b,1,Δ⟩) hB _
 .intro k cs T fr hk hkb hT
  have h1:=(hk1 k hkb).trans hk;have hlk:k<w1.heap.size:=by
   rcases AwM k w1.heap.size with h' | h'
   .exact h'
   .simp[Axr h']at h1
  have h2:=(hgrow.block k hlk λe=>Lib.ownBlock_ne hown h1 hT e.symm).trans h1;exact(Below.heap_setCell _ _ _ _ hkb).trans h2
open Ieee
def enc(n:Nat):Nat:=Ieee.double.nearest Θ n 0
theorem QM(n k:Nat)(h:n≠0):(n*2 ^ k).log2=n.log2+k:=by
 have h1:=(Ayq h).1 rfl;rw[Ayq (by have:=AxN k;exact AyK h (by omega))];refine⟨?_,?_⟩
 .rw[Ax7];exact Axd _ h1.1
 .rw[show n.log2+k+1=n.log2+1+k by omega,Ax7]
  exact Ax2 h1.2 (AxN k)
theorem Fg{n:Nat}(h:n≠0)(hn:n<2 ^ 50):n.log2<50:=(Nat.log2_lt h).2 hn
theorem AgD:Ieee.double.leastPlace=-1074:=by decide
theorem bin:Ieee.double.binade=2 ^ 52:=rfl
theorem ApC:Ieee.double.infRung=2047*2 ^ 52:=by decide +kernel
theorem AvA:Ieee.double.signWeight=2 ^ 63:=rfl
theorem NQ(way:Toward)(n k d:Nat)(hk:d<=k)(h:n≠0):way.cut Θ (n*2 ^ k) d=n*2 ^ (k-d):=by
 unfold Toward.cut;rw[QM n k h,AxA (by omega),Nat.one_shiftLeft];have e:n*2 ^ k=n*2 ^ (k-d)*2 ^ d:=by rw[AxX,←Ax7,Nat.sub_add_cancel hk]
 rw[e];dsimp only;rw[Nat.mul_div_cancel _ (AxN d),Nat.mul_mod_left];have hp:=AxN d
 cases way
 .have h1:decide (2 ^ d<2*0)=Θ:=by simp
  have h2:(2 ^ d == 2*0)=Θ:=by simp
  simp only[h1,h2,Bool.false_and,Bool.or_self,Bool.toNat_false,Axg]
 all_goals simp
theorem AbX{L m:Nat}(hL:L<50)(h3:m<2 ^ 53):(L+1022)*2 ^ 52+m<=2047*2 ^ 52:=by
 have h1:(L+1022)*2 ^ 52<=1072*2 ^ 52:=Axd _ (by omega);have h2:m<2 ^ 52*2:=h3;generalize (2 ^ 52:Nat)=B at *;generalize (L+1022)*B=C at *;omega
theorem Ahx(L:Nat):(-1074:Int)+((L+1023-1:Nat):Int)=(L:Int)-52:=by omega
theorem R5(n k:Nat)(h:n≠0)(hn:n<2 ^ 50)(hk:52<=k)(hk2:k<=1074):Ieee.double.nearest Θ (n*2 ^ k) (-k)=(n.log2+1022)*2 ^ 52+n*2 ^ (52-n.log2):=by
 have hL:=Fg h hn;have h1:=(Ayq h).1 rfl;have h0:n*2 ^ k≠0:=AyK h (by have:=AxN k;omega);unfold Format.nearest;rw[Ab h0,QM n k h,AgD,bin,ApC];have e1:max (-(k:Int)+((n.log2+k:Nat):Int)-((Ieee.double.fractionBits:Nat):Int)) (-1074)=(n.log2:Int)-52:=by
  show max (-(k:Int)+((n.log2+k:Nat):Int)-((52:Nat):Int)) (-1074)=_
  omega
 simp only[e1];rw[show (-(k:Int)-((n.log2:Int)-52)).toNat=0 by omega,Ayf];rw[show ((n.log2:Int)-52 - -(k:Int)).toNat=n.log2+k-52 by omega];rw[NQ .even n k _ (by omega) h,show k-(n.log2+k-52)=52-n.log2 by omega];rw[show ((n.log2:Int)-52 - -1074).toNat=n.log2+1022 by omega];have h3:n*2 ^ (52-n.log2)<2 ^ 53:=by
  have:=Ax2 h1.2 (AxN (52-n.log2))
  rwa [←Ax7,show n.log2+1+(52-n.log2)=53 by omega]at this
 rw[AxA]
 .unfold Format.word;simp
 .exact AbX hL h3
theorem Afy(n:Nat)(h:n≠0)(hn:n<2 ^ 50):enc n=(n.log2+1022)*2 ^ 52+n*2 ^ (52-n.log2):=by
 have hL:=Fg h hn;have h1:=(Ayq h).1 rfl;unfold enc Format.nearest;rw[Ab h,AgD,bin,ApC];have e1:max ((0:Int)+(n.log2:Int)-((Ieee.double.fractionBits:Nat):Int)) (-1074)=(n.log2:Int)-52:=by
  show max ((0:Int)+(n.log2:Int)-((52:Nat):Int)) (-1074)=_
  omega
 simp only[e1];rw[show ((0:Int)-((n.log2:Int)-52)).toNat=52-n.log2 by omega,show ((n.log2:Int)-52-0).toNat=0 by omega,Ay8];rw[NQ .even n (52-n.log2) 0 (by omega) h,Nat.sub_zero];rw[show ((n.log2:Int)-52 - -1074).toNat=n.log2+1022 by omega];have h3:n*2 ^ (52-n.log2)<2 ^ 53:=by
  have:=Ax2 h1.2 (AxN (52-n.log2))
  rwa [←Ax7,show n.log2+1+(52-n.log2)=53 by omega]at this
 rw[AxA]
 .unfold Format.word;simp
 .exact AbX hL h3
theorem Sv(n k:Nat)(h:n≠0)(hn:n<2 ^ 50)(hk:52<=k)(hk2:k<=1074):Ieee.double.nearest Θ (n*2 ^ k) (-k)=enc n:=(R5 n k h hn hk hk2).trans (Afy n h hn).symm
theorem Nh(n:Nat)(h:n≠0)(hn:n<2 ^ 50):Ieee.double.read (enc n)=.number Θ (n*2 ^ (52-n.log2)) ((n.log2:Int)-52):=by
 have hL:=Fg h hn;have h1:=(Ayq h).1 rfl;rw[Afy n h hn];have h2:2 ^ 52<=n*2 ^ (52-n.log2):=by
  have:=Axd (2 ^ (52-n.log2)) h1.1
  rwa [←Ax7,show n.log2+(52-n.log2)=52 by omega]at this
 have h3:n*2 ^ (52-n.log2)<2 ^ 53:=by
  have:=Ax2 h1.2 (AxN (52-n.log2))
  rwa [←Ax7,show n.log2+1+(52-n.log2)=53 by omega]at this
 generalize n*2 ^ (52-n.log2)=m at *;generalize n.log2=L at *;unfold Format.read;rw[AvA,bin,ApC,AgD];have hw:(L+1022)*2 ^ 52+m<2 ^ 63:=by
  have:(L+1022)*2 ^ 52<=1072*2 ^ 52:=Axd _ (by omega);omega
 have hm:((L+1022)*2 ^ 52+m) % 2 ^ 63=(L+1022)*2 ^ 52+m:=Nat.mod_eq_of_lt hw;have hd:((L+1022)*2 ^ 52+m) / 2 ^ 63=0:=Nat.div_eq_of_lt hw;have hlt:(L+1022)*2 ^ 52<=1072*2 ^ 52:=Axd _ (by omega);simp only[hm,hd];have hq:((L+1022)*2 ^ 52+m) / 2 ^ 52=L+1023:=by omega
 have hr:((L+1022)*2 ^ 52+m) % 2 ^ 52=m-2 ^ 52:=by omega
 rw[hq,hr,Ab (by omega),Ac (by omega)];have z:((0:Nat) % 2 == 1)=Θ:=rfl;rw[z,show 2 ^ 52+(m-2 ^ 52)=m by omega];rw[Ahx]
theorem MN:enc 1=4607182418800017408:=by decide +kernel
theorem Ads:Ieee.double.read 0=.number Θ 0 (-1074):=by decide +kernel
theorem Aae(n:Nat)(h:n≠0)(hn:n<2 ^ 49):floatBits .add .f64 (enc n) 4607182418800017408=V (enc (n+1)):=by
 have hL:=Fg h (by omega);rw[←MN]
 show Ieee.double.add (enc n) (enc 1)=_
 unfold Format.add;rw[Nh n h (by omega),Nh 1 (by decide) (by decide)];have l1:Nat.log2 1=0:=by decide
 rw[l1];unfold Datum.sum;simp only;have hb:min ((n.log2:Int)-52) (((0:Nat):Int)-52)=-52:=by omega
 rw[hb,show ((n.log2:Int)-52 - -52).toNat=n.log2 by omega,show (((0:Nat):Int)-52 - -52).toNat=0 by omega];unfold signed;simp only[Awx,if_false];rw[Ay8,Ayf,AxX,←Ax7,show 52-n.log2+n.log2=52 by omega];have e:((n*2 ^ 52:Nat):Int)+((1*2 ^ (52-0):Nat):Int)=(((n+1)*2 ^ 52:Nat):Int):=by
  rw[Axf];omega
 rw[e,Ab (by omega),Azn];have hd:decide ((((n+1)*2 ^ 52:Nat):Int)<0)=Θ:=by rw[decide_eq_false_iff_not];omega
 rw[hd]
 show V (Ieee.double.nearest Θ ((n+1)*2 ^ 52) (-((52:Nat):Int)))=_
 rw[Sv (n+1) 52 (by omega) (by omega) (by decide) (by decide)]
theorem Ab3(n:Nat)(h:n≠0)(hn:n<2 ^ 49):floatBits .add .f64 (enc n) 0=V (enc n):=by
 have hL:=Fg h (by omega)
 show Ieee.double.add (enc n) 0=_
 unfold Format.add;rw[Nh n h (by omega),Ads];unfold Datum.sum;simp only;obtain⟨K,hK⟩:∃ K:Nat,K=1074:=⟨_,rfl⟩;have hb:min ((n.log2:Int)-52) (-1074)=-(K:Int):=by omega
 rw[hb,show ((n.log2:Int)-52 - -(K:Int)).toNat=n.log2+K-52 by omega,show ((-1074:Int) - -(K:Int)).toNat=0 by omega];unfold signed;simp only[Awx,if_false];rw[Ay8,Ayf,AxX,←Ax7,show 52-n.log2+(n.log2+K-52)=K by omega];have hp:0<n*2 ^ K:=Nat.mul_pos (by omega) (AxN _);rw[show ((n*2 ^ K:Nat):Int)+((0:Nat):Int)=((n*2 ^ K:Nat):Int) by omega,Ab (by omega),Azn];have hd:decide (((n*2 ^ K:Nat):Int)<0)=Θ:=by rw[decide_eq_false_iff_not];omega
 rw[hd]
 show V (Ieee.double.nearest Θ (n*2 ^ K) (-(K:Int)))=_
 rw[Sv n K h (by omega) (by omega) (by omega)]
theorem AaA(n:Nat)(h:n≠0)(hn:n<2 ^ 49):floatToIntVal .f64 (enc n) .i64=V (n:Int):=by
 have hL:=Fg h (by omega);unfold floatToIntVal
 show (match (Ieee.double.read (enc n)).toInt .zero with|some m=>if IntKind.i64.min<=m/\m<=IntKind.i64.max then V m else Δ|none=>Δ)=_
 rw[Nh n h (by omega)];unfold Datum.toInt Datum.integral;simp only;rw[show ((n.log2:Int)-52).toNat=0 by omega,Ayf,show (-((n.log2:Int)-52)).toNat=52-n.log2 by omega];rw[NQ .zero n (52-n.log2) (52-n.log2) (ω _) h,Nat.sub_self,Nat.pow_zero,Nat.mul_one];unfold signed;simp only[Awx,if_false,Ayf];have h1:IntKind.i64.min<=(n:Int):=by show (-9223372036854775808:Int)<=_;omega
 have h2:(n:Int)<=IntKind.i64.max:=by show _<=(9223372036854775807:Int);omega
 rw[Ac ⟨h1,h2⟩]
def Iv(w w':World)(k:Nat):Prop:=w.heap.size<=k/\k<w'.heap.size
structure Jmp (F:Nat->Prop) (w w':World):Prop where
 os:w'.os=w.os
 tape:w'.tape=w.tape
 output:w'.output=w.output
 size:w.heap.size<=w'.heap.size
 keep:∀ k,F k->w'.heap[k]? = w.heap[k]?
section
variable {F G:Nat->Prop} {w w1 w2:World}
theorem Jmp.refl(F:Nat->Prop)(w:World):Jmp F w w:=⟨rfl,rfl,rfl,ω _,λ_ _=>rfl⟩
theorem Jmp.trans(h:Jmp F w w1)(k:Jmp F w1 w2):Jmp F w w2:=⟨k.os.trans h.os,k.tape.trans h.tape,k.output.trans h.output,Aw6 h.size k.size,λi hi=>(k.keep i hi).trans (h.keep i hi)⟩
theorem Jmp.less(h:Jmp F w w1)(hs:∀ k,G k->F k):Jmp G w w1:=⟨h.os,h.tape,h.output,h.size,λi hi=>h.keep i (hs i hi)⟩
theorem Jmp.below(h:Jmp (Lt w.heap.size) w w1):Below w.heap.size w w1:=⟨h.os,h.tape,h.output,h.size,λi hi=>h.keep i hi⟩
theorem Jmp.of_below{B:Nat}(h:Below B w w1)(hF:∀ k,F k->k<B):Jmp F w w1:=⟨h.os,h.tape,h.output,h.size,λi hi=>h.block i (hF i hi)⟩
end
section
variable {P:Program} {md:Region.Mode} {ops:Array Oper} {QX:Exit->Act->World->Prop} {Q:Array Bool->(Nat->Prop)->Act->World->Prop}
def wpJ(P:Program)(md:Region.Mode)(ops:Array Oper)(QX:Exit->Act->World->Prop)(Q:Array Bool->(Nat->Prop)->Act->World->Prop):Nat->Array Bool->(Nat->Prop)->Act->World->Prop
 |0,listed,F,a,w=>Region.ready md ops listed=[]/\∀ w',Jmp F w w'->Q listed F a w'
 |n+1,listed,F,a,w=>(Region.ready md ops listed=[]->∀ w',Jmp F w w'->Q listed F a w') ∧
  ∀ i∈Region.ready md ops listed,∀ w',Jmp F w w'->wpOp P ops QX i (λa2 w2=>Below w'.heap.size w' w2/\wpJ P md ops QX Q n (listed.setIfInBounds i U) (λk=>F k\/Iv w' w2 k) a2 w2) a w'
theorem wpJ.jump{n:Nat}{listed:Array Bool}{F:Nat->Prop}{a:Act}{w w':World}(h:wpJ P md ops QX Q n listed F a w)(hj:Jmp F w w'):wpJ P md ops QX Q n listed F a w':=by
 cases n with
 |zero=>exact⟨h.1,λw2 h2=>h.2 w2 (hj.trans h2)⟩
 |succ n=>exact⟨λh0 w2 h2=>h.1 h0 w2 (hj.trans h2),λi hi w2 h2=>h.2 i hi w2 (hj.trans h2)⟩
theorem Aac(w:World)(F:Nat->Prop):(λk=>F k\/Iv w w k)=F:=by
 funext k
 unfold Iv;exact propext ⟨λh=>h.elim id λh=>absurd h.2 (by omega),.inl⟩
theorem R9{S S':World->Prop}{o:Oper}{v:Value}{a:Act}(h:YieldsIf P ops S o v a)(hs:∀ w,S' w->S w):YieldsIf P ops S' o v a:=
 h.imp (λ⟨h1,h2⟩=>⟨h1,λw hw=>h2 w (hs w hw)⟩) id
theorem Y3{F:Nat->Prop}{w w2:World}(hF:∀ k,F k->k<w.heap.size)(h:w.heap.size<=w2.heap.size):∀ k,F k\/Iv w w2 k->k<w2.heap.size:=
 λk hk=>hk.elim (λh1=>Axs (hF k h1) h) λh1=>h1.2
theorem Jmp.grow{F:Nat->Prop}{w w':World}(hF:∀ k,F k->k<w.heap.size)(h:Jmp F w w'):∀ k,F k->k<w'.heap.size:=λk hk=>Axs (hF k hk) h.size
theorem Aea{i:Nat}{oi:Oper}{v:Value}(hi:ops[i]? = V oi)(hsel:∀(j:Nat) (o:Oper) cs b,ops[j]? = V o->o.op≠.select cs b)
  (hQ:∀ c a w,QX (.panic c) (a.put oi.dst v) w->QX (.panic c) a w) :
  ∀(fuel:Nat) (listed:Array Bool) (F:Nat->Prop) (a:Act) (w:World),(∀ k,F k->k<w.heap.size)->
   (∀ j oj,ops[j]? = V oj->j≠i->listed.getD j U=Θ->(∀ e∈oj.after,Region.binds md e=U->e.on≠i)->oi.apart ops oj=U)->
   i∈Region.ready md ops listed->YieldsIf P ops (Jmp F w) oi v a->
   wpJ P md ops QX Q fuel (listed.setIfInBounds i U) F (a.put oi.dst v) w->wpJ P md ops QX Q (fuel+1) listed F a w:=by
 intro fuel
 induction fuel with
 |zero=>
  intro listed F a w hF _ hr hy H;refine⟨λh=>(by rw[h]at hr;cases hr),λj hj w' hw'=>?_⟩
  by_cases hji:j=i
  .subst hji;exact hy.wpOp hi hw' ⟨Below.refl _ _,by rw[Aac];exact H.jump hw'⟩
  .have:=ready_mono hj hji
   rw[H.1]at this
   cases this
 |succ fuel ih=>
  intro listed F a w hF hfree hr hy H;refine⟨λh=>(by rw[h]at hr;cases hr),λj hj w' hw'=>?_⟩
  by_cases hji:j=i
  .subst hji;exact hy.wpOp hi hw' ⟨Below.refl _ _,by rw[Aac];exact H.jump hw'⟩
  .have h1:=H.2 j (ready_mono hj hji) w' hw'
   obtain⟨hjun,oj,hoj,hall⟩:=mem_ready.1 hj;have hnot:∀ e∈oj.after,Region.binds md e=U->e.on≠i:=λe he hb heq=>by
    have h1:=hall e he hb;have h0:=(mem_ready.1 hr).1;rw[heq]at h1;rcases AwM i listed.size with h' | h'
    .simp[h']at h0 h1;rw[h0]at h1;cases h1
    .simp[Axr h']at h1
   have h2:=wpOp_putIf hoj (hfree j oj hoj hji hjun hnot) (λcs b=>hsel i oi cs b hi) (λcs b=>hsel j oj cs b hoj) hQ hy h1;have hfree':∀ k ok,ops[k]? = V ok->k≠i->(listed.setIfInBounds j U).getD k U=Θ->
     (∀ e∈ok.after,Region.binds md e=U->e.on≠i)->oi.apart ops ok=U:=λk ok hk hki hun hno=>by
    refine hfree k ok hk hki ?_ hno
    by_cases hjk:j=k
    .subst hjk;exact hjun
    .rw[getD_set_ne U hjk]at hun;exact hun
   have hF':=hw'.grow hF;refine wpOp_mono (λa' w2 h3=>⟨h3.2.1,ih (listed.setIfInBounds j U) _ a' w2 (Y3 hF' h3.2.1.size) hfree' (ready_mono hr (Ne.symm hji)) (R9 h3.1 λw3 h4=>?_) ?_⟩) h2
   .exact hw'.trans ((Jmp.of_below h3.2.1 hF').trans (h4.less λk hk=>.inl hk))
   .rw[Array.setIfInBounds_comm _ _ hji]
    exact h3.2.2
theorem AiQ{i:Nat}{oi:Oper}{v:Value}{fuel:Nat}{listed:Array Bool}{F:Nat->Prop}{a:Act}{w:World}(hi:ops[i]? = V oi)
  (hs:Region.noSelect ops=U) (hf:Region.free md ops listed i=U) (hr:(Region.ready md ops listed).contains i=U)
  (hQ:∀ c a w,QX (.panic c) (a.put oi.dst v) w->QX (.panic c) a w) (hF:∀ k,F k->k<w.heap.size) (hy:YieldsIf P ops (Jmp F w) oi v a)
  (h:wpJ P md ops QX Q fuel (listed.setIfInBounds i U) F (a.put oi.dst v) w):wpJ P md ops QX Q (fuel+1) listed F a w:=
 Aea hi (Region.noSelect_spec hs) hQ fuel listed F a w hF (Region.free_spec hi hf) (by simpa using hr) hy h
theorem Alq{i:Nat}{fuel:Nat}{listed:Array Bool}{F:Nat->Prop}{a:Act}{w:World}(hr:Region.ready md ops listed=[i])
  (h:∀ w',Jmp F w w'->wpOp P ops QX i (λa2 w2=>Below w'.heap.size w' w2/\wpJ P md ops QX Q fuel (listed.setIfInBounds i U) (λk=>F k\/Iv w' w2 k) a2 w2) a w'):wpJ P md ops QX Q (fuel+1) listed F a w:=
 ⟨λh0=>(by rw[hr]at h0;cases h0),λj hj=>by rw[hr]at hj;obtain rfl:=List.mem_singleton.1 hj;exact h⟩
theorem Vs{listed:Array Bool}{F:Nat->Prop}{a:Act}{w:World}(hr:Region.ready md ops listed=[])(h:∀ w',Jmp F w w'->Q listed F a w'):∀ fuel,wpJ P md ops QX Q fuel listed F a w
 |0=>⟨hr,h⟩
 |_+1=>⟨λ_=>h,by rw[hr];simp⟩
def Cf(n:Nat)(listed:Array Bool):Array Bool:=listed.mapIdx λi b=>b&&decide (i<n)
theorem XX(n:Nat)(listed:Array Bool):(Cf n listed).size=listed.size:=by simp[Cf]
theorem Hi{n:Nat}{listed:Array Bool}{j:Nat}(d:Bool)(hj:j<listed.size):(Cf n listed).getD j d=(listed.getD j d&&decide (j<n)):=by
 simp[Cf,hj]
theorem RK{n:Nat}{listed:Array Bool}{i:Nat}(hi:i<n):Cf n (listed.setIfInBounds i U)=(Cf n listed).setIfInBounds i U:=by
 apply AzZ
 .simp[Cf]
 .intro k h1 h2
  by_cases h:i=k
  .subst h;simp[Cf,hi]
  .simp[Cf,hi]
theorem RL{Q':Exit->Act->World->Prop}:∀(n:Nat) (listed:Array Bool) (a:Act) (w:World),wpAny P md ops Q' n listed a w->wpAny P md ops Q' (n+1) listed a w
 |0,_,_,_,h=>⟨λ_=>h.2,by rw[h.1];simp⟩
 |n+1,_,_,_,h=>⟨h.1,λi hi=>wpOp_mono (λa' w' h'=>RL n _ a' w' h') (h.2 i hi)⟩
theorem RM{Q':Exit->Act->World->Prop}{n:Nat}{listed:Array Bool}{a:Act}{w:World}(h:wpAny P md ops Q' n listed a w):∀ k,wpAny P md ops Q' (n+k) listed a w
 |0=>h
 |k+1=>RL _ _ _ _ (RM h k)
def Al1(md:Region.Mode)(ops:Array Oper)(n:Nat):Bool:=(List.range n).all λi=>match ops[i]? with|some o=>o.after.all (λe=>!Region.binds md e||decide (e.on<n)) | none=>U
theorem Vr{n g:Nat}(hh:Al1 md ops n=U)(hn:n<ops.size)(hs:Region.sinkB md ops n=U)(hc:Region.chainB md ops n=U)(hQ:∀ listed F a w,Q listed F a w->Region.seqB md ops g n (Cf n listed)=U/\wpAny P md ops QX g (Cf n listed) a w) :
  ∀(k:Nat) (listed:Array Bool) (F:Nat->Prop) (a:Act) (w:World),listed.size=ops.size->(∀ t,n<=t->t<ops.size->listed.getD t U=U)->HeadInv md ops n (Cf n listed)->wpJ P md ops QX Q k listed F a w->
   wpAny P md ops QX (g+k) (Cf n listed) a w:=by
 intro k
 induction k with
 |zero=>
  intro listed F a w _ _ _ h;exact(hQ _ _ _ _ (h.2 w (Jmp.refl _ _))).2
 |succ k ih=>
  intro listed F a w hsz ht inv h
  by_cases h0:Region.ready md ops listed=[]
  .exact RM (hQ _ _ _ _ (h.1 h0 w (Jmp.refl _ _))).2 (k+1)
  .obtain⟨i0,hi0⟩:=List.exists_mem_of_ne_nil _ h0
   obtain⟨hun0,o0,ho0,_⟩:=mem_ready.1 hi0;have hlt0:i0<ops.size:=(Aw9.1 ho0).1;have hi0n:i0<n:=by
    rcases AwM i0 n with h' | h'
    .exact h'
    .rw[ht i0 h' hlt0]at hun0;cases hun0
   have hun0':(Cf n listed).getD i0 U=Θ:=by rw[Hi U (by omega),hun0];rfl
   have hnt:=tail_waits hs hc hn inv (n-i0) i0 rfl hi0n hun0';have step:∀ i∈Region.ready md ops (Cf n listed),wpOp P ops QX i (wpAny P md ops QX (g+k) ((Cf n listed).setIfInBounds i U)) a w:=by
    intro i hi;have hin:i<n:=by
     rcases AwM i n with h' | h'
     .exact h'
     .exact absurd hi (hnt i h')
    obtain⟨hun,oi,hoi,hall⟩:=mem_ready.1 hi;have hil:i<listed.size:=by have:=(Aw9.1 hoi).1;omega
    have hir:i∈Region.ready md ops listed:=by
     refine mem_ready.2 ⟨?_,oi,hoi,λe he hb=>?_⟩
     .rw[Hi U hil]at hun;simpa[hin]using hun
     .have:=hall e he hb
      have hel:e.on<listed.size:=by
       rcases AwM e.on listed.size with h' | h'
       .exact h'
       .simp[Array.getD_eq_getD_getElem?,Axr (show (Cf n listed).size<=e.on by rw[XX];exact h')]at this
      rw[Hi Θ hel]at this;simp only[η]at this;exact this.1
    refine wpOp_mono (λa' w' h'=>?_) (h.2 i hir w (Jmp.refl _ _));rw[←RK hin];refine ih _ _ a' w' (by simpa using hsz) (λt h1 h2=>?_) ?_ h'.2
    .rw[getD_set_ne U (by omega)];exact ht t h1 h2
    .rw[RK hin];exact inv.set hi hin
   refine⟨λhr=>?_,step⟩
   exfalso
   obtain⟨_,o1,ho1,hall1⟩:=mem_ready.1 hi0;have hin:i0∈Region.ready md ops (Cf n listed):=by
    refine mem_ready.2 ⟨hun0',o1,ho1,λe he hb=>?_⟩;have h1:=Awu.1 hh i0 (List.mem_range.2 hi0n);rw[ho1]at h1;have h2:=Array.all_eq_true_iff_forall_mem.1 h1 e he;rw[hb]at h2;simp only[Bool.not_true,Bool.false_or,decide_eq_true_eq]at h2;rw[Hi Θ (by omega),hall1 e he hb];simpa using h2
   rw[hr]at hin
   cases hin
theorem GS{id:Nat}{Q:Exit->Act->World->Prop}{a:Act}{w:World}{l:List Oper}{L:Array Bool}(n:Nat)(hm:P.follows .mixedOrders=U)(hL:((Cf n (AyF l.length U)).map λb=>!b)=L)
  (hB:(Region.noSelect l.toArray&&decide (n<l.length)&&Region.sinkB .any l.toArray n&&Region.chainB .any l.toArray n&&Al1 .any l.toArray n)=U)
  (h:wpJ P .any l.toArray Q (λlisted _ a w=>Region.seqB .any l.toArray (l.length-n) n (Cf n listed)=U/\wpList P l.toArray Q (l.drop n) a w) n L (Lt w.drew.heap.size) a w.drew):(Code.region id l.toArray U).wp P Q a w:=by
 simp only[η,decide_eq_true_eq]at hB;subst hL;obtain⟨⟨⟨⟨hsel,hn⟩,hs⟩,hc⟩,hh⟩:=hB;refine wp_region_any hm ?_;have e:Cf n (Cf n (AyF l.length U) |>.map λb=>!b)=AyF l.toArray.size Θ:=by
  apply AzZ
  .simp[Cf]
  .intro i h1 h2
   simp[Cf]
 have inv:HeadInv .any l.toArray n (Cf n (Cf n (AyF l.length U) |>.map λb=>!b)):=by
  rw[e];exact⟨by simp,λj oj _ hl=>(by rw[getD_replicate_false]at hl;cases hl),λt _ ht=>getD_in (by simpa using ht) (getD_replicate_false _ _)⟩
 have:=Vr (QX:=Q) (g:=l.length-n) hh (by simpa using hn) hs hc (λlisted F a w ⟨h1,h2⟩=>⟨h1,?_⟩) n _ _ a w.drew (by simp[Cf]) (λt h1 h2=>?_) inv h
 .have h3:=wpAny_of_seq (md:=.any) (Q':=Q) (l.drop n) n (Cf n listed) a w (λj=>by simp[List.getElem?_drop]) (by simpa using h1) h2
  simpa using h3
 .have ht:t<l.length:=by simpa using h2
  simp[Cf,ht];omega
 .rw[e,show l.length-n+n=l.toArray.size by simp;omega]at this
  exact this
theorem Vt{i:Nat}{o:Oper}(ho:ops[i]? = V o){K:Act->World->Prop}{a:Act}{w:World}(h:wpList P ops (Exit.then K QX) [o] a w):wpOp P ops QX i K a w:=by
 unfold wpOp;simp only[ho];exact h
theorem AiP{i:Nat}{o:Oper}{fuel:Nat}{listed:Array Bool}{F:Nat->Prop}{a:Act}{w:World}(hr:Region.ready md ops listed=[i])(ho:ops[i]? = V o)
  (h:∀ w',Jmp F w w'->∀ K:Act->World->Prop,Hid (∀ a2 w2,Below w'.heap.size w' w2->wpJ P md ops QX Q fuel (listed.setIfInBounds i U) (λk=>F k\/Iv w' w2 k) a2 w2->K a2 w2)->wpList P ops (Exit.then K QX) [o] a w'):wpJ P md ops QX Q (fuel+1) listed F a w:=
 Alq hr λw' hj=>Vt ho (h w' hj _ (ξ λ_ _ h1 h2=>⟨h1,h2⟩))
theorem Jmp.cell{F:Nat->Prop}{w w':World}(h:Jmp F w w'){b:Nat}(o:Nat)(hb:F b):w'.cell? ⟨b,o,Δ⟩=w.cell? ⟨b,o,Δ⟩:=World.cell?_of_block (a:=⟨b,o,Δ⟩) (h.keep b hb)
theorem Jmp.fst{F G:Nat->Prop}{w w1:World}(h:Jmp (λk=>F k\/G k) w w1):Jmp F w w1:=h.less λ_=>.inl
theorem Jmp.from{F:Nat->Prop}{w w1 w2:World}(h:Jmp F w w1)(hb:Below w1.heap.size w1 w2)(hF:∀ k,F k->k<w1.heap.size):Jmp F w w2:=h.trans (Jmp.of_below hb hF)
theorem Jmp.back{F:Nat->Prop}{w v w1 w2:World}(h:Jmp F w v)(hF:∀ k,F k->k<w.heap.size)(hb:Below v.heap.size v w1)(k:Jmp (λk=>F k\/Iv v w1 k) w1 w2):Jmp F w w2:=
 h.trans ((Jmp.of_below hb (h.grow hF)).trans k.fst)
theorem Jmp.laid{F:Nat->Prop}{v w1 w2:World}(k:Jmp (λk=>F k\/Iv v w1 k) w1 w2){b:Nat}(h1:v.heap.size<=b)(h2:b<w1.heap.size):w2.heap[b]? = w1.heap[b]?:=k.keep b (.inr ⟨h1,h2⟩)
theorem Jmp.low{w w1:World}(h:Jmp (Lt w.drew.heap.size) w.drew w1):Below w.heap.size w w1:=T4 h.below
def ZE{α:Type}:List α->Nat->Option α
 |[],_=>Δ
 |x::_,0=>V x
 |_::r,i+1=>ZE r i
theorem Abj{α:Type}:∀(l:List α) (i:Nat),ZE l i=l[i]?
 |[],_=>rfl
 |_::_,0=>rfl
 |_::r,i+1=>by simpa[ZE]using Abj r i
theorem Xh{α:Type}{l:List α}{i:Nat}{o:α}(h:ZE l i=V o):l.toArray[i]? = V o:=by rw[Axk,←Abj];exact h
theorem Aeb{l:List Oper}{i:Nat}{oi:Oper}{v:Value}{fuel:Nat}{listed:Array Bool}{F:Nat->Prop}{a:Act}{w:World}(hi:ZE l i=V oi)
  (hs:Region.noSelect l.toArray=U) (hf:Region.free md l.toArray listed i=U) (hr:(Region.ready md l.toArray listed).contains i=U)
  (hQ:∀ c a w,QX (.panic c) (a.put oi.dst v) w->QX (.panic c) a w) (hF:∀ k,F k->k<w.heap.size) (hy:YieldsIf P l.toArray (Jmp F w) oi v a)
  (h:wpJ P md l.toArray QX Q fuel (listed.setIfInBounds i U) F (a.put oi.dst v) w):wpJ P md l.toArray QX Q (fuel+1) listed F a w:=
 AiQ (Xh hi) hs hf hr hQ hF hy h
theorem TR{l:List Oper}{i:Nat}{o:Oper}{fuel:Nat}{listed:Array Bool}{F:Nat->Prop}{a:Act}{w:World}(hr:Region.ready md l.toArray listed=[i])(ho:ZE l i=V o)
  (h:∀ w',Jmp F w w'->∀ K:Act->World->Prop,Hid (∀ a2 w2,Below w'.heap.size w' w2->wpJ P md l.toArray QX Q fuel (listed.setIfInBounds i U) (λk=>F k\/Iv w' w2 k) a2 w2->K a2 w2)->wpList P l.toArray (Exit.then K QX) [o] a w'):wpJ P md l.toArray QX Q (fuel+1) listed F a w:=
 AiP hr (Xh ho) h
end
def later(W x:World):World:={ heap:=W.heap++x.heap.extract W.heap.size x.heap.size,tape:=W.tape,drawn:=x.drawn,os:=W.os,output:=W.output }
theorem Bg(W x:World):Below W.heap.size W (later W x):=by
 refine⟨rfl,rfl,rfl,by simp[later],λk hk=>?_⟩
 show (W.heap++_)[k]? = _
 rw[AyV hk]
theorem Agv{W w:World}(hb:Below W.heap.size W w):w=later W w:=by
 have hh:w.heap=W.heap++w.heap.extract W.heap.size w.heap.size:=by
  apply Array.ext_getElem?;intro i;rcases AwM i W.heap.size with h|h
  .rw[AyV h,hb.block i h]
  .rw[Array.getElem?_append_right h,Array.getElem?_extract]
   by_cases hi:i<w.heap.size
   .rw[Ac (by have:=hb.size;omega)]
    congr 1
    omega
   .rw[Ab (by omega),Axr (by omega)]
 obtain⟨h1,h2,h3,_,_⟩:=hb
 cases w
 simp only at h1 h2 h3 hh;subst h1 h2 h3;simp only[later,World.mk.injEq,and_true];exact hh
@[go_sem] theorem AlE(W x:World)(b o:Nat)(h:b<W.heap.size):(later W x).cell? ⟨b,o,Δ⟩=W.cell? ⟨b,o,Δ⟩:=(Bg W x).cell (p:=⟨b,o,Δ⟩) h
@[go_sem] theorem Ai0(W x:World)(b o:Nat)(h:b<W.heap.size):(later W x).frozen? ⟨b,o,Δ⟩=W.frozen? ⟨b,o,Δ⟩:=(Bg W x).frozen (p:=⟨b,o,Δ⟩) h
theorem AZ{P:Program}{id:Nat}{Q:Exit->Act->World->Prop}{a:Act}{w:World}{l:List Oper}(hm:P.follows .mixedOrders=U)(hB:Region.lexB .any l.toArray=U)
  (h:wpQuiet P l.toArray (λw'=>∃ x,w'=later w x) (λa'=>∀ w',(∃ x,w'=later w x)->Q .normal a' w') l a):(Code.region id l.toArray U).wp P Q a w:=
 wp_region_quiet (C:=λw'=>∃ x,w'=later w x) hm hB ⟨w.drew,Agv (Below.refl _ _).drew⟩ (by simpa using h)
theorem Zj{P:Program}{f:FuncId}{args:Array Value}{W x:World}{v:Value}(h:Calls P f args (later W x) λe w'=>e=.returned v/\later W x=w') :
  Calls P f args (later W x) λe w'=>e=.returned v/\∃ y,w'=later W y:=
 h.mono λ_ _ ⟨he,hw⟩=>⟨he,x,hw.symm⟩
set_option maxHeartbeats 1000000 in
theorem Et(c:UInt8)(b:Int)(w:World)(hb:b=(c.toNat:Int)):Calls ε 212 #[.int .u8 b] w λe w'=>e=.returned (.bool (D6 c))/\w=w':=by
 subst hb;have hc:=c.toNat_lt;have hq:D6 c=(decide (97<=c.toNat)&&decide (c.toNat<=122)):=rfl;have HQ:=ξ hq;clear hq;generalize c.toNat=n at *
 go_enter Tryz.func212,Tryz.ntmps212
 go_wp2
 all_goals
  go_ret
  exact⟨Cl (by rw[HQ.out];first | (rw[Aym];simp only[η,decide_eq_true_eq];omega) | (rw[Aym];simp;omega)),rfl⟩
set_option maxHeartbeats 1000000 in
theorem H8(c:UInt8)(b:Int)(w:World)(hb:b=(c.toNat:Int)):Calls ε 215 #[.int .u8 b] w λe w'=>e=.returned (.bool (BE c))/\w=w':=by
 subst hb;have hc:=c.toNat_lt;have hq:BE c=(decide (48<=c.toNat)&&decide (c.toNat<=57)):=rfl;have HQ:=ξ hq;clear hq;generalize c.toNat=n at *
 go_enter Tryz.func215,Tryz.ntmps215
 go_wp2
 all_goals
  go_ret
  exact⟨Cl (by rw[HQ.out];first | (rw[Aym];simp only[η,decide_eq_true_eq];omega) | (rw[Aym];simp;omega)),rfl⟩
set_option maxHeartbeats 2000000 in
theorem N0(c:UInt8)(b:Int)(w:World)(hb:b=(c.toNat:Int)):Calls ε 214 #[.int .u8 b] w λe w'=>e=.returned (.bool (EL c))/\w=w':=by
 have hq:EL c=(D6 c||BE c||(c.toNat == 95)):=rfl;have HQ:=ξ hq;have HC:=ξ hb;clear hq hb;have hq2:(b == 95)=(c.toNat == 95):=by rw[HC.out,Aym];simp;omega
 have HQ2:=ξ hq2;clear hq2;rcases h1:D6 c with _|_
 .rcases h2:BE c with _|_
  .have H1:=ξ h1
   have H2:=ξ h2;clear h1 h2
   go_enter Tryz.func214,Tryz.ntmps214
   go_wp2_with fail
   refine(Et c b w HC.out).mono ?_;rw[H1.out];rintro e w' ⟨rfl,rfl⟩
   go_wp2_with fail
   refine(H8 c b w HC.out).mono ?_;rw[H2.out];rintro e w' ⟨rfl,rfl⟩
   go_wp2
   go_ret
   exact⟨Cl (by rw[HQ.out,H1.out,H2.out,←HQ2.out];rfl),rfl⟩
  .have H1:=ξ h1
   have H2:=ξ h2;clear h1 h2
   go_enter Tryz.func214,Tryz.ntmps214
   go_wp2_with fail
   refine(Et c b w HC.out).mono ?_;rw[H1.out];rintro e w' ⟨rfl,rfl⟩
   go_wp2_with fail
   refine(H8 c b w HC.out).mono ?_;rw[H2.out];rintro e w' ⟨rfl,rfl⟩
   go_wp2
   go_ret
   exact⟨Cl (by rw[HQ.out,H1.out,H2.out];rfl),rfl⟩
 .have H1:=ξ h1
  clear h1
  go_enter Tryz.func214,Tryz.ntmps214
  go_wp2_with fail
  refine(Et c b w HC.out).mono ?_;rw[H1.out];rintro e w' ⟨rfl,rfl⟩
  go_wp2
  go_ret
  exact⟨Cl (by rw[HQ.out,H1.out];rfl),rfl⟩
theorem AjS(c:UInt8):decide (0<=Azj [88,71,70,85,82] c)=Ho c:=by
 have:∀ n:Fin 256,decide (0<=Azj [88,71,70,85,82] (UInt8.ofNat n))=Ho (UInt8.ofNat n):=by decide +kernel
 have:=this ⟨c.toNat,c.toNat_lt⟩;simpa using this
set_option maxHeartbeats 1000000 in
theorem Aak(c:UInt8)(b:Int)(w:World)(hb:b=(c.toNat:Int)):Calls ε 217 #[.int .u8 b] w λe w'=>e=.returned (.bool (Ho c))/\w=w':=by
 have hq:=AjS c;have hcc:b.toNat.toUInt8=c:=by rw[hb];simp
 have HQ:=ξ hq;have HC:=ξ hcc;have HB:=ξ hb;clear hq hcc
 by_cases h0:c.toNat=0
 .have hz:(b != 0)=Θ:=by rw[hb,h0];rfl
  have HZ:=ξ (show Ho c=Θ by unfold Ho;rw[h0];rfl);clear h0 hb
  go_enter Tryz.func217,Tryz.ntmps217
  go_wp2
  go_ret
  exact⟨Cl HZ.out.symm,rfl⟩
 .have hz:(b != 0)=U:=by rw[hb,bne_iff_ne];omega
  clear h0 hb
  go_enter Tryz.func217,Tryz.ntmps217
  go_wp2_with fail
  refine(Tryz.strings_IndexByte ⟨#[88,71,70,85,82]⟩ b w).mono ?_;rw[HC.out];rintro e w' ⟨rfl,rfl⟩;generalize hm:Azj _ c=m;have HM:=ξ hm;clear hm
  go_wp2
  go_ret
  exact⟨Cl (by rw[←HQ.out,←HM.out]),rfl⟩
def plc(p:Nat × Nat):Value:=.complex .f64 (enc p.1) (enc p.2)
def Small(p:Nat × Nat):Prop:=1<=p.1/\1<=p.2/\p.1<=100000/\p.2<=100000
theorem AeZ(p:Nat × Nat)(w:World)(hp:Small p):Calls ε 244 #[plc p] w λe w'=>e=.returned (plc (p.1+1,1))/\w=w':=by
 obtain⟨a,b⟩:=p;obtain⟨h1,h2,h3,h4⟩:=hp;simp only at h1 h2 h3 h4;have ha:=λW:World=>run_float_arith (P:=ε) W .add 246 .f64 (enc a) 4607182418800017408 _ (Aae a (by omega) (by omega))
 have h1':=MN;unfold plc;rw[show enc ((a,b).1+1,1).2=4607182418800017408 from MN]
 show Calls _ _ #[.complex .f64 (enc a) (enc b)] w λe w'=>e=.returned (.complex .f64 (enc (a+1)) 4607182418800017408)/\w=w'
 clear h1';generalize enc a=x at *;generalize enc (a+1)=y at *
 go_enter Tryz.func244,Tryz.ntmps244
 go_wp2
 go_ret
 exact⟨rfl,rfl⟩
set_option maxRecDepth 10000 in
theorem U0(p:Nat × Nat)(w:World)(hp:Small p):Calls ε 159 #[plc p] w λe w'=>e=.returned (.agg #[.int .i64 p.1,.int .i64 p.2])/\Below w.heap.size w w':=by
 obtain⟨a,b⟩:=p;obtain⟨h1,h2,h3,h4⟩:=hp;simp only at h1 h2 h3 h4;have ha:=λW:World=>run_convert_float_int (P:=ε) W 246 3 .f64 .i64 (enc a) a rfl Tryz.underlying3 (AaA a (by omega) (by omega))
 have hb:=λW:World=>run_convert_float_int (P:=ε) W 246 3 .f64 .i64 (enc b) b rfl Tryz.underlying3 (AaA b (by omega) (by omega))
 unfold plc
 show Calls _ _ #[.complex .f64 (enc a) (enc b)] w λe w'=>e=.returned (.agg #[.int .i64 a,.int .i64 b])/\Below w.heap.size w w'
 generalize enc a=x at *;generalize enc b=y at *
 go_enter Tryz.func159,Tryz.ntmps159
 go_wp2
 exact bodyPost_ret (v:=.agg #[.int .i64 a,.int .i64 b]) (by simp[results,Tryz.results159,go_sem]) rfl ⟨rfl,Bu w _⟩
def Rd(w:World)(g:Nat)(s:ByteArray)(i:Nat)(p:Nat × Nat):Prop:=Blk w g 216 #[.string s,.int .i64 i,plc p]
theorem Rd.cells{w:World}{g:Nat}{s:ByteArray}{i:Nat}{p:Nat × Nat}(h:Rd w g s i p):w.cell? ⟨g,0,Δ⟩=V (.string s)/\w.cell? ⟨g,1,Δ⟩=V (.int .i64 i)/\w.cell? ⟨g,2,Δ⟩=V (plc p):=by
 unfold Rd at h;rw[h.cell,h.cell,h.cell];exact⟨rfl,rfl,rfl⟩
def CO(s:ByteArray)(i:Nat):UInt8:=s.data.toList.getD i 0
theorem NI(s:ByteArray)(i:Nat)(h:i<s.size):s[i]=CO s i:=by
 unfold CO;rw[AwK,Ψ (by simpa using h)];rfl
theorem Ao0(s:ByteArray)(i:Nat)(h:¬ i<s.size):CO s i=0:=by
 unfold CO;rw[AwK,List.getElem?_eq_none (by simpa using h)];rfl
set_option maxHeartbeats 1000000 in
theorem Gt(s:ByteArray)(g i:Nat)(p:Nat × Nat)(w:World)(hr:Rd w g s i p) :
  Calls ε 210 #[.pointer (V ⟨g,0,Δ⟩)] w λe w'=>e=.returned (.int .u8 ((CO s i).toNat:Int))/\Below w.heap.size w w':=by
 obtain⟨c0,c1,_⟩:=hr.cells;have l0:g<w.heap.size:=BP c0;clear hr
 by_cases hlt:i<s.size
 .have HV:=ξ (NI s i hlt)
  have q0:(0:Int)<=(i:Int):=by omega
  have q1:(i:Int)<(s.size:Int):=by omega
  go_enter Tryz.func210,Tryz.ntmps210
  go_wp2_with fail
  refine AZ (by kernel_rfl) (by kernel_rfl) ?_
  repeat (go_big_quiet_step (fail))
  refine wpQuiet_nil ?_;rintro _ ⟨y,rfl⟩;have hb:=Bg w y;have c2:=(hb.cell (p:=⟨g,0,Δ⟩) l0).trans c0;have c3:=(hb.cell (p:=⟨g,1,Δ⟩) l0).trans c1;generalize later w y=w1 at *;have HB:=ξ hb;have l1:g<w1.heap.size:=BP c2;clear hb c0 c1 l0
  go_wp2_with fail
  refine AZ (by kernel_rfl) (by kernel_rfl) ?_
  repeat (go_big_quiet_step (fail))
  refine wpQuiet_nil ?_;rintro _ ⟨y,rfl⟩
  go_wp2
  go_ret
  exact⟨by rw[←HV.out];rfl,A6 HB.out (Bg _ _)⟩
 .have HV:=ξ (Ao0 s i hlt)
  have q1:¬ (i:Int)<(s.size:Int):=by omega
  go_enter Tryz.func210,Tryz.ntmps210
  go_wp2_with fail
  refine AZ (by kernel_rfl) (by kernel_rfl) ?_
  repeat (go_big_quiet_step (fail))
  refine wpQuiet_nil ?_;rintro _ ⟨y,rfl⟩
  go_wp2
  go_ret
  exact⟨by rw[HV.out];rfl,Bg _ _⟩
theorem A1{w w':World}{row:Option Nat}(hb:Below w.heap.size w w'):w.grownBy w' row:=JM hb
theorem Bj{w w1 w2:World}{g:Nat}(h:w.grownBy w1 (V g))(k:w1.grownBy w2 (V g)):w.grownBy w2 (V g):=
 ⟨k.os.trans h.os,k.tape.trans h.tape,k.output.trans h.output,Aw6 h.size k.size,λb hb hn=>(k.block b (Axs hb h.size) hn).trans (h.block b hb hn)⟩
theorem Gi{w w1:World}{g:Nat}(h:w.grownBy w1 (V g))(i:Nat)(u:Value):w.grownBy (w1.setCell ⟨g,i,Δ⟩ u) (V g):=
 ⟨h.os,h.tape,h.output,by simpa using h.size,λb hb hn=>(Below.heap_setCell w1 ⟨g,i,Δ⟩ u b (λe=>hn (by rw[e]))).trans (h.block b hb hn)⟩
theorem Sl{w:World}{g:Nat}{t:TypeId}{x y z:Value}(h:Blk w g t #[x,y,z])(v u:Value):Blk ((w.setCell ⟨g,2,Δ⟩ v).setCell ⟨g,1,Δ⟩ u) g t #[x,u,v]:=by
 simpa using (h.set_ 2 v).set_ 1 u
@[go_sem] theorem AbE{P:Program}{w:World}{a:Addr}{m:Mode}(k:FloatKind)(x y:Nat):(store a (.complex k x y) m).run P w=stored P w a (.complex k x y) m:=run_store P w a _ m rfl
theorem Atw(p:Nat × Nat)(hp:Small p):∀ W:World,(binOp .add 212 (.complex .f64 (enc p.1) (enc p.2)) (.complex .f64 0 4607182418800017408)).run ε W=.ok (.complex .f64 (enc p.1) (enc (p.2+1))) W:=λW=>by
 obtain⟨h1,h2,h3,h4⟩:=hp;refine run_complex_sum W .add (.inl rfl) _ .f64 _ _ _ _ _ _ ?_;unfold cSumBits;rw[Ab3 p.1 (by omega) (by omega),Aae p.2 (by omega) (by omega)];rfl
set_option maxHeartbeats 2000000 in
theorem FQ(s:ByteArray)(g i:Nat)(p:Nat × Nat)(w:World)(hs:s.size<=1000000)(hi:i<s.size)(hp:Small p)(hr:Rd w g s i p) :
  Calls ε 211 #[.pointer (V ⟨g,0,Δ⟩)] w λe w'=>e=.returned (.tuple #[])/\Rd w' g s (i+1) (NH p (CO s i))/\w.grownBy w' (V g):=by
 have HP:=ξ hp;have HR:=ξ hr;obtain⟨c0,c1,_⟩:=hr.cells;have l0:g<w.heap.size:=BP c0;have HV:=ξ (NI s i hi);clear hr hp;have q0:(0:Int)<=(i:Int):=by omega
 have q1:(i:Int)<(s.size:Int):=by omega
 have hbyte:=s[i].toNat_lt;rw[show s[i].toNat=(CO s i).toNat by rw[HV.out]]at hbyte
 by_cases hnl:(CO s i).toNat=10
 .have HN:=ξ (show NH p (CO s i)=(p.1+1,1) by unfold NH;rw[Ac hnl])
  have hq:((s[i].toNat:Int) == 10)=U:=by rw[HV.out,hnl];rfl
  clear hnl
  go_enter Tryz.func211,Tryz.ntmps211
  go_wp2_with fail
  refine AZ (by kernel_rfl) (by kernel_rfl) ?_
  repeat (go_big_quiet_step (fail))
  refine wpQuiet_nil ?_;rintro _ ⟨y,rfl⟩;have hb:=Bg w y;have hk:=Blk.call HR.out hb;generalize later w y=w1 at *;have HB:=ξ hb;have HK:=ξ hk;have c0:=hk.cell 0;have c1:=hk.cell 1;have c2:=hk.cell 2;have f1:=hk.frozen 1;have f2:=hk.frozen 2;simp only[Axk,Axa,AwW]at c0 c1 c2;have l1:g<w1.heap.size:=BP c0;clear hb hk
  go_wp2_with fail
  refine(AeZ p w1 HP.out).mono ?_;rintro e w' ⟨rfl,rfl⟩;unfold plc at c2 ⊢;generalize hx:enc (p.1+1,1).1=x at *;generalize hx2:enc (p.1+1,1).2=x2 at *;have HX:=ξ hx;have HX2:=ξ hx2;clear hx hx2
  go_wp2
  go_end0
  refine⟨rfl,?_,?_⟩
  .rw[HN.out]
   unfold Rd plc;rw[HX.out,HX2.out];exact Sl HK.out (.complex .f64 x x2) (.int .i64 ((i+1:Nat):Int))
  .exact Gi (Gi (A1 HB.out) 2 _) 1 _
 .have HN:=ξ (show NH p (CO s i)=(p.1,p.2+1) by unfold NH;rw[Ab hnl])
  have hq:((s[i].toNat:Int) == 10)=Θ:=by rw[HV.out,beq_eq_false_iff_ne];omega
  have hsum:=Atw p HP.out;clear hnl
  go_enter Tryz.func211,Tryz.ntmps211
  go_wp2_with fail
  refine AZ (by kernel_rfl) (by kernel_rfl) ?_
  repeat (go_big_quiet_step (fail))
  refine wpQuiet_nil ?_;rintro _ ⟨y,rfl⟩;have hb:=Bg w y;have hk:=Blk.call HR.out hb;generalize later w y=w1 at *;have HB:=ξ hb;have HK:=ξ hk;have c0:=hk.cell 0;have c1:=hk.cell 1;have c2:=hk.cell 2;have f1:=hk.frozen 1;have f2:=hk.frozen 2;simp only[Axk,Axa,AwW]at c0 c1 c2;unfold plc at c2;have l1:g<w1.heap.size:=BP c0;clear hb hk;generalize hx:enc p.1=x at *;generalize hx2:enc p.2=x2 at *;generalize hx3:enc (p.2+1)=x3 at *;have HX:=ξ hx;have HX2:=ξ hx2;have HX3:=ξ hx3;clear hx hx2 hx3
  go_wp2
  go_end0
  refine⟨rfl,?_,?_⟩
  .rw[HN.out]
   unfold Rd plc;rw[HX.out,HX3.out];exact Sl HK.out (.complex .f64 x x3) (.int .i64 ((i+1:Nat):Int))
  .exact Gi (Gi (A1 HB.out) 2 _) 1 _
def MosIn(w:World)(v:Value)(ms:List Mo):Prop:=∃ A c,v=.slice A ms.length c/\(0<ms.length->∃ b o,A=V ⟨b,o,Δ⟩/\b<w.heap.size/\∀ i (h:i<ms.length),w.cell? ⟨b,o+i*3,Δ⟩=V (.bool ms[i].neg)/\w.cell? ⟨b,o+i*3+1,Δ⟩=V (.string ms[i].num)/\w.cell? ⟨b,o+i*3+2,Δ⟩=V (.string ms[i].var))
theorem MosIn.call{w w':World}{v:Value}{ms:List Mo}(h:MosIn w v ms)(hb:Below w.heap.size w w'):MosIn w' v ms:=by
 obtain⟨A,c,rfl,hx⟩:=h;refine⟨A,c,rfl,λh0=>?_⟩;obtain⟨b,o,rfl,hl,hc⟩:=hx h0;refine⟨b,o,rfl,Axs hl hb.size,λi hi=>?_⟩;obtain⟨c1,c2,c3⟩:=hc i hi;exact⟨(hb.cell (p:=⟨b,o+i*3,Δ⟩) hl).trans c1,(hb.cell (p:=⟨b,o+i*3+1,Δ⟩) hl).trans c2,(hb.cell (p:=⟨b,o+i*3+2,Δ⟩) hl).trans c3⟩
theorem Fy{w w':World}{T e:TypeId}{B b:Nat}{bs:AI}(h:AxW T e B b bs w)(hb:Below w.heap.size w w'):AxW T e B b bs w':=by
 rcases h with h|h
 .obtain⟨hB,v,h1,h2,h3⟩:=h
  have hl:=Lib.BuilderAt.lt ⟨hB,v,h1,h2,h3⟩;exact .inl ⟨hB,v,(hb.block b hl).trans h1,Q6 h2 hb,h3⟩
 .obtain⟨hB,v,h1,h2,h3⟩:=h
  have hl:=Lib.BuilderAt.lt ⟨hB,v,h1,h2,h3⟩;exact .inr ⟨hB,v,(hb.block b hl).trans h1,Q6 h2 hb,h3⟩
set_option maxRecDepth 100000 in
set_option maxHeartbeats 4000000 in
theorem XL(ms:List Mo)(v:Value)(w:World)(hv:MosIn w v ms)
  (hR:∀ w',Below w.heap.size w w'->Calls ε 23 #[v] w' λe w''=>e=.returned (.bool (IG ms))/\Below w'.heap.size w' w'')
  (hM:∀ m∈ms,AS m=U->∀ w',Calls ε 57 #[.agg #[.bool m.neg,.string m.num,.string m.var]] w' λe w''=>e=.returned (.string ⟨(CC m).toArray⟩)/\Below w'.heap.size w' w'') :
  Calls ε 22 #[v] w λe w'=>e=.returned (.string ⟨(C0 ms).toArray⟩)/\Below w.heap.size w w':=by
 obtain⟨A,c,rfl,hx⟩:=hv;have HX:=ξ hx;have HR:=ξ hR;have HM:=ξ hM;clear hx hR hM
 go_enter Tryz.func22,Tryz.ntmps22
 unfold C0
 cases hrs:IG ms with
 |false=>
  rw[hrs]at HR
  go_wp2_with (go_at_call 23;refine(HR.out _ (Below.refl _ _)).mono ?_)
  rintro e w1 ⟨rfl,hb1⟩
  go_wp2
  go_ret
  exact⟨rfl,hb1⟩
 |true=>
  rw[hrs]at HR;have hrs2:=hrs;unfold IG at hrs2;simp only[η,decide_eq_true_eq]at hrs2;obtain⟨⟨h0,h64⟩,hall⟩:=hrs2;have HALL:=ξ hall;clear hall hrs
  go_wp2_with (go_at_call 23;refine(HR.out _ (Below.refl _ _)).mono ?_)
  rintro e w1 ⟨rfl,hb1⟩;have HB1:=ξ hb1;clear hb1
  go_wp2_with fail
  go_loopw [11] (λq wr=>∃ k:Nat,k<=ms.length/\q=.int .i64 k/\AxW 119 5 w.heap.size w1.heap.size (AxH (CA 0 (ms.take k))) wr/\Below w.heap.size w wr) (λq _=>ms.length-(intOf q).toNat)
  case atStart=>
   refine⟨0,Axb _,rfl,?_,?_⟩
   .exact .inl ⟨HB1.out.size,.slice Δ 0 0,heap_alloc_new _ _,World.ownsRow_nil _ _ _ _,by simp[Value.ownBlock]⟩
   .exact HB1.out.alloc HB1.out.size _
  case round=>
   obtain⟨k,hk,rfl,hbld,hb⟩:=hrel;have HBLD:=ξ hbld;have HB:=ξ hb;clear hbld hb
   by_cases hlt:k<ms.length
   .obtain⟨b,o,rfl,hbl,hc⟩:=HX.out h0
    obtain⟨d1,d2,d3⟩:=hc k hlt;have c1:=(HB.out.cell (p:=⟨b,o+k*3,Δ⟩) hbl).trans d1;have c2:=(HB.out.cell (p:=⟨b,o+k*3+1,Δ⟩) hbl).trans d2;have c3:=(HB.out.cell (p:=⟨b,o+k*3+2,Δ⟩) hbl).trans d3;have l0:b<wr.heap.size:=BP c1;have z0:(0:Int)<=(k:Int):=by omega
    have z1:(k:Int)<(ms.length:Int):=by omega
    clear hc d1 d2 d3;have HT:=ξ (Z5 ms k hlt);have hr:AS ms[k]=U:=Awu.1 HALL.out _ (Awy hlt);have HMK:=ξ (HM.out ms[k] (Awy hlt) hr);have HLM:=ξ (QS hr);have HLS:=ξ (IA (ms.take k) 0 (Awu.2 λx hx=>Awu.1 HALL.out x (List.mem_of_mem_take hx)));generalize ms[k]=m at *;obtain⟨ng,nu,va⟩:=m;clear hr;simp only at c1 c2 c3
    cases ng with
    |true=>
     by_cases hk0:k=0
     .subst hk0
      rw[Axz,Axg]at c1 c2 c3;have q1:(AxH (CA 0 (ms.take 0))).length+(ByteArray.mk #[45]).size<=140737488355328:=by
       rw[AxJ];have h5:=HLS.out;have h8:(ms.take 0).length<=64:=by rw[AwL];omega
       show _+1<=_
       omega
      have Q1:=ξ q1;clear q1
      go_wp2_with (go_at_call 56;refine(CD w.heap.size _ (AxH (CA 0 (ms.take 0))) _ _ (Fy HBLD.out (Bu _ _)) Q1.out (C4 HB.out).size).mono ?_)
      first|rintro e w3 rfl hd3 hb3 hk3|rintro e w3 ⟨rfl,hd3,hb3,hk3⟩
      have HK3:=ξ (show Blk w3 wr.heap.size 115 #[.bool U,.string nu,.string va] from by first|exact hk3 _ _ _ _ (Blk.new wr _ _) (Ax9 (HBLD.out.elim Lib.BuilderAt.lt Lib.BuilderAt.lt)) (by decide) | exact hk3 _ _ _ _ _ (Blk.new wr _ _) (Ax9 (HBLD.out.elim Lib.BuilderAt.lt Lib.BuilderAt.lt)) (by decide));have HB3:=ξ ((C4 HB.out).trans hb3);have HLP:=ξ (show ([45]:List UInt8).length<=3 by decide);have HD3:=ξ (show AxW 119 5 w.heap.size w1.heap.size (AxH (CA 0 (ms.take 0)++[45])) w3 from .inr (by rw[AxI];exact hd3));clear hd3 hb3 hk3;have x0:=HK3.out.cell 0;have x1:=HK3.out.cell 1;have x2:=HK3.out.cell 2;have l3:=HK3.out.lt
      go_wp2_with (go_at_call 57;refine(HMK.out _).mono ?_)
      first|rintro e w4 rfl hb4|rintro e w4 ⟨rfl,hb4⟩
      replace hb4:Below (w3).heap.size (w3) w4:=by first|exact hb4 | (rw[World.size_alloc];exact hb4)
      have HB4:=ξ (A6 HB3.out hb4);have HD4:=ξ (Fy HD3.out hb4);clear hb4 x0 x1 x2 l3
      go_wp2_with (go_at_call 56;refine(CD w.heap.size _ _ _ _ HD4.out ?h1 HB4.out.size).mono ?_)
      case h1=>
       rw[AxJ,ζ];have h5:=HLS.out;have h6:=HLM.out;have h7:=HLP.out;have h8:(ms.take 0).length<=64:=by rw[AwL];omega
       have h9:(ByteArray.mk (CC ⟨U,nu,va⟩).toArray).size=(CC ⟨U,nu,va⟩).length:=by simp[ByteArray.size]
       omega
      first|rintro e w5 rfl hd5 hb5 _|rintro e w5 ⟨rfl,hd5,hb5,_⟩
      have HD5:=ξ hd5;have HB5:=ξ (HB4.out.trans hb5);clear hd5 hb5
      go_wp2_with fail
      go_roundw
      case rel=>exact⟨0+1,hlt,by go_num,.inr (by rw[HT.out,AxI];exact HD5.out),HB5.out⟩
      case measure=>simp[intOf];omega
     .have y0:¬ (k:Int)=0:=by omega
      have hs:Nn k ⟨U,nu,va⟩=[32,45,32]:=by simp[Nn,hk0]
      rw[hs]at HT;have q1:(AxH (CA 0 (ms.take k))).length+(ByteArray.mk #[32,45,32]).size<=140737488355328:=by
       rw[AxJ];have h5:=HLS.out;have h8:(ms.take k).length<=64:=by rw[AwL];omega
       show _+3<=_
       omega
      have Q1:=ξ q1;clear q1
      go_wp2_with (go_at_call 56;refine(CD w.heap.size _ (AxH (CA 0 (ms.take k))) _ _ (Fy HBLD.out (Bu _ _)) Q1.out (C4 HB.out).size).mono ?_)
      first|rintro e w3 rfl hd3 hb3 hk3|rintro e w3 ⟨rfl,hd3,hb3,hk3⟩
      have HK3:=ξ (show Blk w3 wr.heap.size 115 #[.bool U,.string nu,.string va] from by first|exact hk3 _ _ _ _ (Blk.new wr _ _) (Ax9 (HBLD.out.elim Lib.BuilderAt.lt Lib.BuilderAt.lt)) (by decide) | exact hk3 _ _ _ _ _ (Blk.new wr _ _) (Ax9 (HBLD.out.elim Lib.BuilderAt.lt Lib.BuilderAt.lt)) (by decide));have HB3:=ξ ((C4 HB.out).trans hb3);have HLP:=ξ (show ([32,45,32]:List UInt8).length<=3 by decide);have HD3:=ξ (show AxW 119 5 w.heap.size w1.heap.size (AxH (CA 0 (ms.take k)++[32,45,32])) w3 from .inr (by rw[AxI];exact hd3));clear hd3 hb3 hk3;have x0:=HK3.out.cell 0;have x1:=HK3.out.cell 1;have x2:=HK3.out.cell 2;have l3:=HK3.out.lt
      go_wp2_with (go_at_call 57;refine(HMK.out _).mono ?_)
      first|rintro e w4 rfl hb4|rintro e w4 ⟨rfl,hb4⟩
      replace hb4:Below (w3).heap.size (w3) w4:=by first|exact hb4 | (rw[World.size_alloc];exact hb4)
      have HB4:=ξ (A6 HB3.out hb4);have HD4:=ξ (Fy HD3.out hb4);clear hb4 x0 x1 x2 l3
      go_wp2_with (go_at_call 56;refine(CD w.heap.size _ _ _ _ HD4.out ?h1 HB4.out.size).mono ?_)
      case h1=>
       rw[AxJ,ζ];have h5:=HLS.out;have h6:=HLM.out;have h7:=HLP.out;have h8:(ms.take k).length<=64:=by rw[AwL];omega
       have h9:(ByteArray.mk (CC ⟨U,nu,va⟩).toArray).size=(CC ⟨U,nu,va⟩).length:=by simp[ByteArray.size]
       omega
      first|rintro e w5 rfl hd5 hb5 _|rintro e w5 ⟨rfl,hd5,hb5,_⟩
      have HD5:=ξ hd5;have HB5:=ξ (HB4.out.trans hb5);clear hd5 hb5
      go_wp2_with fail
      go_roundw
      case rel=>exact⟨k+1,hlt,by go_num,.inr (by rw[HT.out,AxI];exact HD5.out),HB5.out⟩
      case measure=>simp[intOf];omega
    |false=>
     by_cases hk0:k=0
     .subst hk0
      rw[Axz,Axg]at c1 c2 c3;have hs:Nn 0 ⟨Θ,nu,va⟩=[]:=rfl;rw[hs]at HT;have HK3:=ξ (Blk.new wr 115 #[.bool Θ,.string nu,.string va]);have HB3:=ξ (C4 (o:=.cells #[.bool Θ,.string nu,.string va] 115) HB.out);have HLP:=ξ (show ([]:List UInt8).length<=3 by decide);have HD3:=ξ (show AxW 119 5 w.heap.size w1.heap.size (AxH (CA 0 (ms.take 0)++[])) (wr.alloc (.cells #[.bool Θ,.string nu,.string va] 115)) from by rw[List.append_nil];exact Fy HBLD.out (Bu _ _));have x0:=HK3.out.cell 0;have x1:=HK3.out.cell 1;have x2:=HK3.out.cell 2;have l3:=HK3.out.lt
      go_wp2_with (go_at_call 57;refine(HMK.out _).mono ?_)
      first|rintro e w4 rfl hb4|rintro e w4 ⟨rfl,hb4⟩
      replace hb4:Below (wr.alloc (.cells #[.bool Θ,.string nu,.string va] 115)).heap.size (wr.alloc (.cells #[.bool Θ,.string nu,.string va] 115)) w4:=by first|exact hb4 | (rw[World.size_alloc];exact hb4)
      have HB4:=ξ (A6 HB3.out hb4);have HD4:=ξ (Fy HD3.out hb4);clear hb4 x0 x1 x2 l3
      go_wp2_with (go_at_call 56;refine(CD w.heap.size _ _ _ _ HD4.out ?h1 HB4.out.size).mono ?_)
      case h1=>
       rw[AxJ,ζ];have h5:=HLS.out;have h6:=HLM.out;have h7:=HLP.out;have h8:(ms.take 0).length<=64:=by rw[AwL];omega
       have h9:(ByteArray.mk (CC ⟨Θ,nu,va⟩).toArray).size=(CC ⟨Θ,nu,va⟩).length:=by simp[ByteArray.size]
       omega
      first|rintro e w5 rfl hd5 hb5 _|rintro e w5 ⟨rfl,hd5,hb5,_⟩
      have HD5:=ξ hd5;have HB5:=ξ (HB4.out.trans hb5);clear hd5 hb5
      go_wp2_with fail
      go_roundw
      case rel=>exact⟨0+1,hlt,by go_num,.inr (by rw[HT.out,AxI];exact HD5.out),HB5.out⟩
      case measure=>simp[intOf];omega
     .have y0:¬ (k:Int)=0:=by omega
      have y1:(0:Int)<(k:Int):=by omega
      have hs:Nn k ⟨Θ,nu,va⟩=[32,43,32]:=by simp[Nn,hk0]
      rw[hs]at HT;have q1:(AxH (CA 0 (ms.take k))).length+(ByteArray.mk #[32,43,32]).size<=140737488355328:=by
       rw[AxJ];have h5:=HLS.out;have h8:(ms.take k).length<=64:=by rw[AwL];omega
       show _+3<=_
       omega
      have Q1:=ξ q1;clear q1
      go_wp2_with (go_at_call 56;refine(CD w.heap.size _ (AxH (CA 0 (ms.take k))) _ _ (Fy HBLD.out (Bu _ _)) Q1.out (C4 HB.out).size).mono ?_)
      first|rintro e w3 rfl hd3 hb3 hk3|rintro e w3 ⟨rfl,hd3,hb3,hk3⟩
      have HK3:=ξ (show Blk w3 wr.heap.size 115 #[.bool Θ,.string nu,.string va] from by first|exact hk3 _ _ _ _ (Blk.new wr _ _) (Ax9 (HBLD.out.elim Lib.BuilderAt.lt Lib.BuilderAt.lt)) (by decide) | exact hk3 _ _ _ _ _ (Blk.new wr _ _) (Ax9 (HBLD.out.elim Lib.BuilderAt.lt Lib.BuilderAt.lt)) (by decide));have HB3:=ξ ((C4 HB.out).trans hb3);have HLP:=ξ (show ([32,43,32]:List UInt8).length<=3 by decide);have HD3:=ξ (show AxW 119 5 w.heap.size w1.heap.size (AxH (CA 0 (ms.take k)++[32,43,32])) w3 from .inr (by rw[AxI];exact hd3));clear hd3 hb3 hk3;have x0:=HK3.out.cell 0;have x1:=HK3.out.cell 1;have x2:=HK3.out.cell 2;have l3:=HK3.out.lt
      go_wp2_with (go_at_call 57;refine(HMK.out _).mono ?_)
      first|rintro e w4 rfl hb4|rintro e w4 ⟨rfl,hb4⟩
      replace hb4:Below (w3).heap.size (w3) w4:=by first|exact hb4 | (rw[World.size_alloc];exact hb4)
      have HB4:=ξ (A6 HB3.out hb4);have HD4:=ξ (Fy HD3.out hb4);clear hb4 x0 x1 x2 l3
      go_wp2_with (go_at_call 56;refine(CD w.heap.size _ _ _ _ HD4.out ?h1 HB4.out.size).mono ?_)
      case h1=>
       rw[AxJ,ζ];have h5:=HLS.out;have h6:=HLM.out;have h7:=HLP.out;have h8:(ms.take k).length<=64:=by rw[AwL];omega
       have h9:(ByteArray.mk (CC ⟨Θ,nu,va⟩).toArray).size=(CC ⟨Θ,nu,va⟩).length:=by simp[ByteArray.size]
       omega
      first|rintro e w5 rfl hd5 hb5 _|rintro e w5 ⟨rfl,hd5,hb5,_⟩
      have HD5:=ξ hd5;have HB5:=ξ (HB4.out.trans hb5);clear hd5 hb5
      go_wp2_with fail
      go_roundw
      case rel=>exact⟨k+1,hlt,by go_num,.inr (by rw[HT.out,AxI];exact HD5.out),HB5.out⟩
      case measure=>simp[intOf];omega
   .obtain rfl:k=ms.length:=by omega
    have z1:¬ (ms.length:Int)<(ms.length:Int):=by omega
    have HBL:=HBLD.out;rw[List.take_length]at HBL
    go_wp2_with (go_at_call 58;refine(Tryz.Builder_String_any w.heap.size _ _ _ HBL HB.out.size).mono ?_)
    rintro e w2 rfl hb2;have HB2:=ξ (HB.out.trans hb2);clear hb2
    go_wp2
    go_ret
    exact⟨rfl,HB2.out⟩
def ApZ:Ad->Option Mo
 |[.v (.bool n),.v (.string a),.v (.string b)]=>V ⟨n,a,b⟩
 |_=>Δ
def Ta:Rw->Option (List Mo)
 |[]=>V []
 |x::r=>match ApZ x,Ta r with
  |some m,V l=>V (m::l)
  |_,_=>Δ
theorem Tb:∀ ms:List Mo,Ta (ms.map FZ)=V ms
 |[]=>rfl
 |m::r=>by
  rw[AwP,Ta,Tb r];obtain⟨n,a,b⟩:=m;rfl
theorem Adb{x:Ad}{m:Mo}(h:ApZ x=V m):x=FZ m:=by
 unfold ApZ at h;split at h
 .injection h with h
  subst h;rfl
 .cases h
theorem QT:∀{xs:Rw} {ms:List Mo},Ta xs=V ms->xs=ms.map FZ
 |[],ms,h=>by injection h with h;subst h;rfl
 |x::r,ms,h=>by
  unfold Ta at h;split at h
  .rename_i m l h1 h2
   injection h with h
   subst h;rw[AwP,←QT h2,←Adb h1]
  .cases h
def Abm(ms:List Mo):Bool:=Nat.blt ms.length 4611686018427387904&&ms.all λm=>Aww m.num.size 9223372036854775807&&Aww m.var.size 9223372036854775807
theorem Tj{ms:List Mo}:Abm ms=U ↔ ms.length<4611686018427387904/\∀ m∈ms,WzM m:=by
 unfold Abm WzM;simp only[η,Awu,Az4,Nat.blt_eq]
def Ex:Ad->Option AV
 |[.ls xs]=>(match Ta xs with
  |some ms=>if Abm ms then V (sv (Ai (C0 ms))) else Δ
  |none=>Δ)
 |_=>Δ
theorem R7(ms:List Mo)(h:Abm ms=U):Ex [.ls (ms.map FZ)]=V (sv (Ai (C0 ms))):=by
 simp only[Ex,Tb,h,if_true]
theorem Zz{μ:Mu}{F:AP}{w:World}{v:Value}{ms:List Mo}(h:Rep μ F w (.ls (ms.map FZ)) v):MosIn w v ms:=by
 unfold Rep at h;obtain⟨_,A,c,h1,h2,h3,h4⟩:=h;rw[List.length_map]at h1 h2;refine⟨A,c,h1,λh0=>?_⟩;obtain⟨g,o,e,hA,hr⟩:=h4 (by simpa using List.ne_nil_of_length_pos h0);have he:e=3:=by
  have:=hr.get (i:=0) (x:=FZ ms[0]) (by rw[Axo,Ψ h0];rfl);have:=this.1;unfold FZ at this;simpa using this.symm
 subst he;have cell:∀ i (h:i<ms.length),w.cell? ⟨g,o+i*3,Δ⟩=V (.bool ms[i].neg)/\w.cell? ⟨g,o+i*3+1,Δ⟩=V (.string ms[i].num)/\w.cell? ⟨g,o+i*3+2,Δ⟩=V (.string ms[i].var):=λi hi=>by
  have ha:=(hr.get (i:=i) (x:=FZ ms[i]) (by rw[Axo,Ψ hi];rfl)).2;unfold FZ at ha;obtain⟨_,u0,c0,r0⟩:=ha.get (i:=0) (x:=bv ms[i].neg) rfl;obtain⟨_,u1,c1,r1⟩:=ha.get (i:=1) (x:=sv ms[i].num) rfl;obtain⟨_,u2,c2,r2⟩:=ha.get (i:=2) (x:=sv ms[i].var) rfl;unfold bv Rep at r0;unfold sv Rep at r1 r2;rw[r0.1]at c0;rw[r1.1]at c1;rw[r2.1]at c2;exact⟨c0,c1,c2⟩
 exact⟨g,o,hA,En (cell 0 h0).1,cell⟩
theorem Ar1:LexN DT where
 name s hs:=Aqx (by unfold DP DY;simp only[sv,hs,if_true];rfl)
 num s hs:=AiT (by unfold DP CM;simp only[sv,hs,if_true];rfl)
theorem VY(hN:CE (D0 ε 109) (DP DY))(hU:CE (D0 ε 108) (DP CM)):CE (D0 ε 22) (DP Ex):=by
 refine KS (Dw _ _) _ λargs r hr μ F w us hus=>?_
 unfold Ex at hr;split at hr
 .rename_i xs
  split at hr
  .rename_i ms hms
   split at hr
   .rename_i hok
    injection hr with hr
    subst hr;obtain rfl:=QT hms;obtain⟨hl,hz⟩:=Tj.1 hok;obtain⟨v,t,rfl,hv,ht⟩:=hus;have ht:t=[]:=ht;subst ht;have hp:Rep (λ_=>Δ) (λg _=>g<w.heap.size) w (.ls (ms.map FZ)) v:=Rep.plain _ _ rfl hv;refine Calls.mono (XL ms v w (Zz hv) (λw' hb=>?_) (λm hm hr w'=>?_)) ?_
    .have g:=NR (XD ⟨hN,hU,trivial⟩) (Hh ArS Ar1 ms hz hl) w' [v] (by simp only[RepList];exact⟨v,[],rfl,Adv hp hb,rfl⟩)
     refine Calls.mono g ?_;rintro e w'' ⟨u,rfl,hb2,μ',F',hu⟩;unfold bv Rep at hu;rw[hu.1];exact⟨rfl,hb2⟩
    .have g:=NR (XD ⟨hN,hU,trivial⟩) (W7 ArS m hr) w' [.agg #[.bool m.neg,.string m.num,.string m.var]] (by
      simp only[RepList];refine⟨_,[],rfl,?_,rfl⟩;unfold Rep;refine⟨_,rfl,?_⟩;simp only[FZ,RepList];exact⟨_,_,rfl,ZS _,_,_,rfl,Rg _,_,_,rfl,Rg _,rfl⟩)
     refine Calls.mono g ?_;rintro e w'' ⟨u,rfl,hb2,μ',F',hu⟩;unfold sv Rep at hu;rw[hu.1];exact⟨rfl,hb2⟩
    .rintro e w' ⟨rfl,hb⟩
     exact⟨_,rfl,hb,Rg _⟩
   .cases hr
  .cases hr
 .cases hr
section
variable {μ:Mu} {F:AP} {w w':World}
theorem Agu{H:Nat->Option ABlk}(hH:HRep μ F w H)(h:Below w.heap.size w w'):Later μ μ F F w w':=
 ⟨λ_ _ h=>h,λg o hg=>⟨hg,(E9 F h).cell hg (hH.prot g o hg)⟩⟩
theorem SN{H:Nat->Option ABlk}(hH:HRep μ F w H)(h:Below w.heap.size w w'){b0:Nat}(h0:H b0=Δ)(hμ:μ b0=Δ)(p:Pl)(k:ABlk)(hst:k.st=U)
  (hg:w.heap.size<=p.g\/p.room=0) (hroom:k.cells.length<=p.room)
  (hcell:∀ i x,k.cells[i]? = V x->∃ u,w'.cell? ⟨p.g,p.o+i,Δ⟩=V u/\Rep μ F w x u)
  (hthere:∀ i,i<p.room->(∃ u,w'.cell? ⟨p.g,p.o+i,Δ⟩=V u)/\w'.frozen? ⟨p.g,p.o+i,Δ⟩=Θ) (hpure:A4 k.cells=U) :
  ∃ μ',μ' b0=V p/\(∀ b,b≠b0->μ' b=μ b)/\HRep μ' F w' (λb=>if b=b0 then V k else H b)/\Later μ μ' F F w w':=by
 have hl0:=Agu hH h;have hl:Later μ (λb=>if b=b0 then V p else μ b) F F w w':=⟨λb q hb=>by
  by_cases e:b=b0
  .subst e;rw[hμ]at hb;cases hb
  .simp only[e,if_false];exact hb,hl0.prot⟩
 have st:=E9 (λ_ _=>False) h;have same:∀ g o,g<w.heap.size->w'.cell? ⟨g,o,Δ⟩=w.cell? ⟨g,o,Δ⟩:=λg o hg=>h.cell (p:=⟨g,o,Δ⟩) hg
 refine⟨λb=>if b=b0 then V p else μ b,Ac rfl,λb hb=>Ab hb,⟨λb kb hb=>?_,λb b' kb kb' q q' hne hb hb' hq hq' i i' hi hi'=>?_,λg o hgo=>Axs (hH.prot g o hgo) h.size⟩,hl⟩
 .by_cases e:b=b0
  .subst e
   simp only[if_true]at hb ⊢;injection hb with hb
   subst hb;refine⟨p,rfl,λi x hx=>?_,hroom,hthere,λhf=>?_,λi hi hF=>?_,λ_=>hpure⟩
   .obtain⟨u,h1,h2⟩:=hcell i x hx
    exact⟨u,h1,h2.later hl⟩
   .rw[hst]at hf;cases hf
   .have hlt:=hH.prot _ _ hF
    rcases hg with hg|hg
    .omega
    .rcases hi with⟨h1,_⟩|⟨_,h1,_⟩
     .omega
     .omega
  .simp only[e,if_false]at hb ⊢
   obtain⟨q,hq,B⟩:=hH.blk b kb hb;refine⟨q,hq,?_,B.room,?_,B.kept,B.free,B.pure⟩
   .intro i x hx
    obtain⟨u,h1,h2⟩:=B.cell i x hx;exact⟨u,(same _ _ (En h1)).trans h1,h2.later hl⟩
   .intro i hi
    obtain⟨⟨u,h1⟩,h2⟩:=B.there i hi;exact⟨⟨u,(same _ _ (En h1)).trans h1⟩,(st.frozen (En h1)).trans h2⟩
 .have old:∀(c:Nat) (kc:ABlk) (q:Pl),H c=V kc->μ c=V q->∀ j,kc.owns q.room j->q.g<w.heap.size:=λc kc q hc hq j hj=>by
   obtain⟨q',hq',B⟩:=hH.blk c kc hc;rw[hq]at hq'
   cases hq'
   have hr:j<q.room:=by
    rcases hj with⟨h1,_⟩|⟨_,h1,_⟩
    .exact Axs h1 B.room
    .exact h1
   obtain⟨⟨u,h1⟩,_⟩:=B.there j hr;exact En h1
  have newr:∀ j,k.owns p.room j->w.heap.size<=p.g:=λj hj=>by
   rcases hg with hg|hg
   .exact hg
   .rcases hj with⟨h1,_⟩|⟨_,h1,_⟩<;>omega
  by_cases e:b=b0
  .subst e
   have e':¬ b'=b:=λe=>hne e.symm
   simp only[if_true,e',if_false]at hb hb' hq hq';injection hb with hb
   injection hq with hq
   subst hb hq;have:=old b' kb' q' hb' hq' i' hi';have:=newr i hi;intro e2;injection e2 with e3 _
   omega
  .by_cases e':b'=b0
   .subst e'
    simp only[if_true,e,if_false]at hb hb' hq hq';injection hb' with hb'
    injection hq' with hq'
    subst hb' hq';have:=old b kb q hb hq i hi;have:=newr i' hi';intro e2;injection e2 with e3 _
    omega
   .simp only[e,e',if_false]at hb hb' hq hq'
    exact hH.apart b b' kb kb' q q' hne hb hb' hq hq' i i' hi hi'
end
def Lg(e:Nat)(res:Ad->Option (Nat × Ad)):DF:=λargs bs=>match bs with
 |[]=>(res args).map λp=>(.sl 0 0 p.1 e,[.set ⟨p.2,U,U⟩])
 |_=>Δ
theorem SG{S:O8}(hm:PZ S)(e:Nat)(res:Ad->Option (Nat × Ad))
  (h:∀ args n cells,res args=V (n,cells)->A4 cells=U/\cells.length=n*e/\∀(μ:Mu) (F:AP) (w:World) (us:AI),(∀ g o,F g o->g<w.heap.size)->RepList μ F w args us->
   S us w λu w'=>∃ ety vs,w'.ownsRow w.heap.size ety e u n vs/\Below w.heap.size w w'/\RepList μ F w cells vs) :
  CE S (Lg e res):=by
 intro args bs r out hd
 cases bs with
 |cons=>cases hd
 |nil=>
  obtain⟨⟨n,cells⟩,hr,he⟩:=Aze.1 hd;obtain⟨rfl,rfl⟩:ο 0 0 n e=r/\[Awp ⟨cells,U,U⟩]=out:=by simpa using he
  obtain⟨hpure,hlen,hs⟩:=h args n cells hr;refine⟨Axb _,1,ω _,λt ht μ F w KL us hKL hus hH hμ=>?_⟩;refine hm _ _ _ _ (hs μ F w us hH.prot hus) λu w' ⟨ety,vs,ho,hb,hc⟩=>?_
  have h0:(λb=>if b<t then([]:List ABlk)[b]? else look b KL) 0=Δ:=by
   grind
  have hμ0:μ 0=Δ:=hμ 0 (Axb _) (by omega);have fin:∀(μ':Mu) (p:Pl),(∀ b,b≠0->μ' b=μ b)->HRep μ' F w' (λb=>if b=0 then V ⟨cells,U,U⟩ else(λb=>if b<t then([]:List ABlk)[b]? else look b KL) b)->Later μ μ' F F w w'->Rep μ' F w' (.sl 0 0 n e) u->
    ∃ μ' F',Rep μ' F' w' (.sl 0 0 n e) u/\HRep μ' F' w' (λb=>if b<t then FJ [] [Awp ⟨cells,U,U⟩] b else look b KL)/\Later μ μ' F F' w w'/\WStep F w w'/\∀ b,(b<([]:List ABlk).length\/[Awp ⟨cells,U,U⟩].length<=b)->μ' b=μ b:=λμ' p h1 h2 h3 h4=>by
   refine⟨μ',F,h4,?_,h3,E9 F hb,λb hb=>h1 b ?_⟩
   .have e2:(λb=>if b=0 then V (⟨cells,U,U⟩:ABlk) else(λb=>if b<t then([]:List ABlk)[b]? else look b KL) b)=λb=>if b<t then FJ [] [Awp ⟨cells,U,U⟩] b else look b KL:=by
     funext b
     cases b with
     |zero=>
      rw[Ac rfl,Ac (by omega)];rfl
     |succ b=>
      rw[Ab (by omega)]
      show (if b+1<t then Δ else look (b+1) KL)=_
      by_cases hbt:b+1<t
      .grind [FJ]
      .grind
    rw[←e2];exact h2
   .grind
  obtain⟨hl,ho2⟩:=ho;rcases ho2 with⟨rfl,rfl⟩|⟨g,cap,cur,rfl,hg,hcur,hn,hm2,hsz,htk⟩
  .have hc0:cells=[]:=AwN (by rw[hlen];simp)
   subst hc0;obtain⟨μ',a1,a2,a3,a4⟩:=SN hH hb h0 hμ0 ⟨0,0,0⟩ ⟨[],U,U⟩ rfl (.inr rfl) (ω _) (λi x hx=>by simp at hx) (λi hi=>absurd hi (Nat.not_lt_zero _)) rfl;refine fin μ' ⟨0,0,0⟩ a2 a3 a4 ?_;unfold Rep;exact⟨_,a1,.inl ⟨rfl,rfl⟩⟩
  .have cellw:∀ i,i<cap*e->w'.cell? ⟨g,i,Δ⟩=cur[i]?:=λi _=>cell_of_row w' g i cur ety (0,0) hcur
   have vsl:vs.length=cells.length:=hc.length;obtain⟨μ',a1,a2,a3,a4⟩:=SN hH hb h0 hμ0 ⟨g,0,cap*e⟩ ⟨cells,U,U⟩ rfl (.inl hg) (by show cells.length<=cap*e;rw[hlen];exact Axd _ hn)
    (λi x hx=>by
     obtain⟨u,h1,h2⟩:=hc.get hx;refine⟨u,?_,h2⟩;have hi:i<cells.length:=by
      grind
     have hi2:i<cap*e:=by rw[hlen]at hi;exact Axs hi (Axd _ hn)
     show w'.cell? ⟨g,0+i,Δ⟩=V u
     rw[AwJ,cellw i hi2,←h1,←htk,List.getElem?_take,Ac (by rw[hlen]at hi;exact hi),Array.getElem?_toList])
    (λi hi=>by
     have hi:i<cap*e:=hi;refine⟨⟨cur[i]'(by omega),?_⟩,?_⟩
     .grind
     .show w'.frozen? ⟨g,0+i,Δ⟩=Θ
      simp[World.frozen?,hcur]) hpure
   refine fin μ' ⟨g,0,cap*e⟩ a2 a3 a4 ?_;unfold Rep;exact⟨_,a1,.inr ⟨0,cap,rfl,λ_=>rfl,hn,hm2,by show 0+cap*e<=cap*e;omega⟩⟩
theorem Sb(a:Addr)(j:Nat):(a.add j).block=a.block:=by unfold Addr.add;split<;>rfl
set_option maxRecDepth 100000 in
set_option maxHeartbeats 4000000 in
theorem Yv(w:World)(A:Option Addr)(n c:Nat)(us:AI)(hn:us.length=n*3)(hc:n<=c)(hA:n≠0->∃ g o,A=V ⟨g,o,Δ⟩/\∀ j u,us[j]? = V u->w.cell? ⟨g,o+j,Δ⟩=V u)
  (h1:∀ u∈us,u.oneCell'=U) (hby:n*40<=140737488355328) :
  Calls ε 151 #[.slice A n c] w λe w'=>∃ v',e=.returned v'/\w'.ownsRow w.heap.size 154 3 v' n us/\Below w.heap.size w w':=by
 obtain⟨i0,hi0,hz0,hz1,hz2⟩:=info_parts (show (Tryz.prog.info? 154).map (λi=>(i.zero,i.size,i.bytes))=V (V (.agg #[.int .i64 0,.bool Θ,.slice Δ 0 0]),3,40) by kernel_rfl);have HU:=ξ hn;have HA:=ξ hA;have H1:=ξ h1;clear hn hA h1;have hq:∀(w:World) (a:Option Addr) (n c:Nat),(binOp .eql 50 (.slice a n c) (.slice Δ 0 0)).run ε w=.ok (.bool a.isNone) w:=λw a n c=>Azg w _ _ a n c 0 0 Tryz.underlying50
 go_enter Tryz.func151,Tryz.ntmps151
 cases A with
 |none=>
  have h0:n=0:=by
   rcases Azq n with h|h
   .exact h
   .exfalso
    obtain⟨g,o,h2,_⟩:=HA.out (Ax9 h)
    cases h2
  subst h0
  go_wp2
  go_ret
  have hu:us=[]:=AwN (by rw[HU.out,Axz]);rw[hu];exact⟨_,rfl,World.ownsRow_nil _ _ _ _,Below.refl _ _⟩
 |some ad=>
  obtain⟨ag,ao,asp⟩:=ad;have hcells:∀ j u,us[j]? = V u->ag<w.heap.size/\w.cell? ((⟨ag,ao,asp⟩:Addr).add j)=V u:=λj u hj=>by
   have hn0:n≠0:=by
    rintro rfl;have hu:us=[]:=AwN (by rw[HU.out,Axz]);rw[hu]at hj
    cases hj
   obtain⟨g,o,h2,h3⟩:=HA.out hn0
   cases h2
   have h5:=h3 j u hj;exact⟨En h5,by rw[Gp];exact h5⟩
  have HC:=ξ hcells;clear hcells
  go_wp2_with (at_builtin;refine wpList_append_own_at _ rfl _ _ 50 rfl w.heap.size 154 i0 (.agg #[.int .i64 0,.bool Θ,.slice Δ 0 0]) 3 40 Tryz.underlying50 hi0 hz0 hz1 hz2 rfl (by decide) _ 0 [] rfl ?c0 ⟨ag,ao,asp⟩ n c us rfl HU.out ?c1 H1.out ?c3 ?c4 ?c5 ?_)
  case c0=>exact⟨by simp,.inr ⟨w.heap.size,0,#[],rfl,ω _,heap_alloc_new _ _,ω _,Axb _,by simp,by simp⟩⟩
  case c1=>
   intro j u hj;have:=HC.out j u hj;exact((Bu w (.cells #[] 154)).cell (p:=(⟨ag,ao,asp⟩:Addr).add j) (by rw[Sb];exact this.1)).trans this.2
  case c3=>unfold maxLen;omega
  case c4=>omega
  case c5=>exact(Bu w _).size
  intro v' w3 hown hgrow _ _
  try simp only[AwJ,AwC]at hown
  have HO:=ξ hown;have HB:=ξ ((Bu w (.cells #[] 154)).grown hgrow (Bu w _).size (λk hk=>by have hk:V w.heap.size=V k:=hk;cases hk;exact ω _));clear hown hgrow
  go_wp2_with fail
  go_ret
  exact⟨_,rfl,HO.out,HB.out⟩
set_option maxRecDepth 100000 in
set_option maxHeartbeats 4000000 in
theorem Yt(w:World)(A:Option Addr)(n c:Nat)(us:AI)(hn:us.length=n*1)(hc:n<=c)(hA:n≠0->∃ g o,A=V ⟨g,o,Δ⟩/\∀ j u,us[j]? = V u->w.cell? ⟨g,o+j,Δ⟩=V u)
  (h1:∀ u∈us,u.oneCell'=U) (hby:n*4<=140737488355328) :
  Calls ε 240 #[.slice A n c] w λe w'=>∃ v',e=.returned v'/\w'.ownsRow w.heap.size 230 1 v' n us/\Below w.heap.size w w':=by
 obtain⟨i0,hi0,hz0,hz1,hz2⟩:=info_parts (show (Tryz.prog.info? 230).map (λi=>(i.zero,i.size,i.bytes))=V (V (.int .u32 0),1,4) by kernel_rfl);have HU:=ξ hn;have HA:=ξ hA;have H1:=ξ h1;clear hn hA h1;have hq:∀(w:World) (a:Option Addr) (n c:Nat),(binOp .eql 52 (.slice a n c) (.slice Δ 0 0)).run ε w=.ok (.bool a.isNone) w:=λw a n c=>Azg w _ _ a n c 0 0 Tryz.underlying52
 go_enter Tryz.func240,Tryz.ntmps240
 cases A with
 |none=>
  have h0:n=0:=by
   rcases Azq n with h|h
   .exact h
   .exfalso
    obtain⟨g,o,h2,_⟩:=HA.out (Ax9 h)
    cases h2
  subst h0
  go_wp2
  go_ret
  have hu:us=[]:=AwN (by rw[HU.out,Axz]);rw[hu];exact⟨_,rfl,World.ownsRow_nil _ _ _ _,Below.refl _ _⟩
 |some ad=>
  obtain⟨ag,ao,asp⟩:=ad;have hcells:∀ j u,us[j]? = V u->ag<w.heap.size/\w.cell? ((⟨ag,ao,asp⟩:Addr).add j)=V u:=λj u hj=>by
   have hn0:n≠0:=by
    rintro rfl;have hu:us=[]:=AwN (by rw[HU.out,Axz]);rw[hu]at hj
    cases hj
   obtain⟨g,o,h2,h3⟩:=HA.out hn0
   cases h2
   have h5:=h3 j u hj;exact⟨En h5,by rw[Gp];exact h5⟩
  have HC:=ξ hcells;clear hcells
  go_wp2_with (at_builtin;refine wpList_append_own_at _ rfl _ _ 52 rfl w.heap.size 230 i0 (.int .u32 0) 1 4 Tryz.underlying52 hi0 hz0 hz1 hz2 rfl (by decide) _ 0 [] rfl ?c0 ⟨ag,ao,asp⟩ n c us rfl HU.out ?c1 H1.out ?c3 ?c4 ?c5 ?_)
  case c0=>exact⟨by simp,.inr ⟨w.heap.size,0,#[],rfl,ω _,heap_alloc_new _ _,ω _,Axb _,by simp,by simp⟩⟩
  case c1=>
   intro j u hj;have:=HC.out j u hj;exact((Bu w (.cells #[] 230)).cell (p:=(⟨ag,ao,asp⟩:Addr).add j) (by rw[Sb];exact this.1)).trans this.2
  case c3=>unfold maxLen;omega
  case c4=>omega
  case c5=>exact(Bu w _).size
  intro v' w3 hown hgrow _ _
  try simp only[AwJ,AwC]at hown
  have HO:=ξ hown;have HB:=ξ ((Bu w (.cells #[] 230)).grown hgrow (Bu w _).size (λk hk=>by have hk:V w.heap.size=V k:=hk;cases hk;exact ω _));clear hown hgrow
  go_wp2_with fail
  go_ret
  exact⟨_,rfl,HO.out,HB.out⟩
section
variable {μ:Mu} {F:AP} {w:World} {g:Nat}
theorem Aai:∀(xs:Ad) (o:Nat),RepAt μ F w g xs o->∃ us,RepList μ F w xs us/\∀ j u,us[j]? = V u->w.cell? ⟨g,o+j,Δ⟩=V u
 |[],o,_=>⟨[],rfl,λj u h=>by simp at h⟩
 |x::r,o,h=>by
  simp only[RepAt]at h;obtain⟨⟨_,u,h2,h3⟩,h4⟩:=h;obtain⟨us,h5,h6⟩:=Aai r (o+1) h4;refine⟨u::us,⟨u,us,rfl,h3,h5⟩,λj v hj=>?_⟩
  cases j with
  |zero=>simp at hj;subst hj;exact h2
  |succ j=>
   have:=h6 j v (by simpa using hj)
   rwa [show o+1+j=o+(j+1) by omega]at this
theorem Tq{e:Nat}:∀(xs:Rw) (o:Nat),RepRows μ F w g e xs o->∃ us,RepList μ F w xs.flatten us/\∀ j u,us[j]? = V u->w.cell? ⟨g,o+j,Δ⟩=V u
 |[],o,_=>⟨[],rfl,λj u h=>by simp at h⟩
 |x::r,o,h=>by
  simp only[RepRows]at h;obtain⟨h1,h2,h3⟩:=h;obtain⟨us,a1,a2⟩:=Aai x o h2;obtain⟨vs,b1,b2⟩:=Tq r (o+e) h3;refine⟨us++vs,by rw[Axi];exact RepList.append a1 b1,λj v hj=>?_⟩;have hl:us.length=e:=by rw[a1.length,h1]
  by_cases hj2:j<us.length
  .exact a2 j v (by rwa [List.getElem?_append_left hj2]at hj)
  .rw[List.getElem?_append_right (by omega),hl]at hj
   have:=b2 (j-e) v hj
   rwa [show o+e+(j-e)=o+j by omega]at this
end
def DC(e B:Nat):Ad->Option (Nat × Ad)
 |[.ls xs]=>if(Hk e xs&&M9 (LS xs)&&A4 (LS xs)&&Aww (AU xs*B) 140737488355328)=U then V (AU xs,LS xs) else Δ
 |_=>Δ
theorem Qe{P:Program}{f:Nat}{ety:TypeId}(e B:Nat) (h:∀(w:World) (A:Option Addr) (n c:Nat) (us:AI),us.length=n*e->n<=c->(n≠0->∃ g o,A=V ⟨g,o,Δ⟩/\∀ j u,us[j]? = V u->w.cell? ⟨g,o+j,Δ⟩=V u)->
  (∀ u∈us,u.oneCell'=U)->n*B<=140737488355328->Calls P f #[.slice A n c] w λe' w'=>∃ v',e'=.returned v'/\w'.ownsRow w.heap.size ety e v' n us/\Below w.heap.size w w'):CE (D0 P f) (Lg e (DC e B)):=by
 refine SG (Dw P f) e _ λargs n cells hr=>?_
 unfold DC at hr;split at hr
 .rename_i xs
  split at hr
  .rename_i hc
   simp only[η,Az4]at hc;obtain⟨⟨⟨c1,c2⟩,c3⟩,c4⟩:=hc;rw[KG]at c1;rw[MJ]at c2 c3;rw[IX]at c4;simp only[δ,Prod.mk.injEq]at hr;obtain⟨rfl,rfl⟩:=hr;rw[IX,MJ];have hlen:xs.flatten.length=xs.length*e:=by
    clear c2 c3 c4
    induction xs with
    |nil=>simp
    |cons x r ih=>
     rw[List.all_cons,η]at c1;rw[Axi,ζ,ih c1.2,List.length_cons,Axf,Nat.one_mul];have:x.length=e:=by simpa using c1.1
     omega
   refine⟨c3,hlen,λμ F w us hF hus=>?_⟩;obtain⟨v,t,rfl,hv,ht⟩:=hus;have ht:t=[]:=ht;subst ht;unfold Rep at hv;obtain⟨_,A,c,rfl,h2,_,h4⟩:=hv;have key:∃ vs,RepList μ F w xs.flatten vs/\(xs.length≠0->∃ g o,A=V ⟨g,o,Δ⟩/\∀ j u,vs[j]? = V u->w.cell? ⟨g,o+j,Δ⟩=V u):=by
    by_cases hx:xs=[]
    .subst hx
     exact⟨[],rfl,λh=>absurd rfl h⟩
    .obtain⟨g,o,e',hA,hr⟩:=h4 hx
     obtain⟨vs,k1,k2⟩:=Tq xs o hr;exact⟨vs,k1,λ_=>⟨g,o,hA,k2⟩⟩
   obtain⟨vs,k1,k2⟩:=key;have hone:∀ u∈vs,u.oneCell'=U:=λu hu=>by
    obtain⟨j,hj,rfl⟩:=List.getElem_of_mem hu;have hj2:j<xs.flatten.length:=by rw[←k1.length];exact hj
    obtain⟨u,a1,a2⟩:=k1.get (Ψ hj2);rw[Ψ hj]at a1
    cases a1
    rw[I2]at c2;exact a2.one (Awu.1 c2 _ (Awy hj2))
   refine Calls.mono (h w A xs.length c vs (by rw[k1.length,hlen]) h2 k2 hone c4) ?_;rintro e' w' ⟨v',rfl,ho,hb⟩;exact⟨v',rfl,ety,vs,ho,hb,k1⟩
  .cases hr
 .cases hr
theorem Ack:CE (D0 ε 240) (Lg 1 (DC 1 4)):=Qe 1 4 λw A n c us h1 h2 h3 h4 h5=>Yt w A n c us h1 h2 h3 h4 h5
theorem Yw:CE (D0 ε 151) (Lg 3 (DC 3 40)):=Qe 3 40 λw A n c us h1 h2 h3 h4 h5=>Yv w A n c us h1 h2 h3 h4 h5
set_option maxRecDepth 100000 in
set_option maxHeartbeats 4000000 in
theorem AcB(w:World)(n:Nat)(hby:n*40<=140737488355328) :
  Calls ε 263 #[.slice Δ 0 0,.int .i64 n] w λe w'=>∃ v',e=.returned v'/\w'.ownsRow w.heap.size 154 3 v' 0 []/\Below w.heap.size w w':=by
 have y0:¬ (n:Int)<0:=by omega
 go_enter Tryz.func263,Tryz.ntmps263
 by_cases h0:n=0
 .subst h0
  go_wp2
  go_ret
  exact⟨_,rfl,World.ownsRow_nil _ _ _ _,Below.refl _ _⟩
 .have y1:(0:Int)<(n:Int):=by omega
  obtain⟨i0,hi0,hz0,hz1,hz2⟩:=info_parts (show (Tryz.prog.info? 154).map (λi=>(i.zero,i.size,i.bytes))=V (V (.agg #[.int .i64 0,.bool Θ,.slice Δ 0 0]),3,40) by kernel_rfl);have hr:=λty=>Lib.run_append_nil_zeros (P:=ε) w 50 3 ty 154 i0 _ .i64 .i64 Tryz.underlying50 Tryz.underlying3 hi0 hz0 n (by omega) (by rw[hz1];decide) (by omega) (by rw[hz2];omega)
  have c1:=grownCap_ge w n 0 154;have c2:=grownCap_le_maxLen w n 0 154 (by unfold maxLen;omega);have HR:=ξ hr;clear hr;generalize grownCap w n 0 154=cap at *
  go_wp2_with (at_builtin;refine Lib.wpList_append_run _ rfl _ _ _ _ rfl _ _ rfl rfl _ _ (HR.out _) ?_)
  go_wp2_with fail
  go_ret
  refine⟨_,rfl,⟨by simp,.inr ⟨w.heap.size,cap,_,rfl,ω _,heap_alloc_new _ _,Axb _,c2,?_,by simp⟩⟩,?_⟩
  .rw[Array.size_append,size_zeroCells,size_zeroCells]
   show n*3+(cap-n)*3=cap*3
   omega
  .exact(LN (Below.refl _ _)).alloc (ω _) _
def Nl(B:Nat):Ad->Option (Nat × Ad)
 |[.v (.slice Δ 0 0),.v (.int .i64 (.ofNat n))]=>if Aww (n*B) 140737488355328=U then V (0,[]) else Δ
 |_=>Δ
theorem AcC:CE (D0 ε 263) (Lg 3 (Nl 40)):=by
 refine SG (Dw _ _) 3 _ λargs n cells hr=>?_
 unfold Nl at hr;split at hr
 .rename_i k
  split at hr
  .rename_i hk
   simp only[δ,Prod.mk.injEq]at hr;obtain⟨rfl,rfl⟩:=hr;refine⟨rfl,rfl,λμ F w us hF hus=>?_⟩;obtain⟨u,t,rfl,hu,u2,t2,rfl,hu2,ht⟩:=hus;have ht:t2=[]:=ht;subst ht;unfold Rep at hu hu2;rw[hu.1,hu2.1];refine Calls.mono (AcB w k (Nat.le_of_ble_eq_true hk)) ?_;rintro e' w' ⟨v',rfl,ho,hb⟩;exact⟨v',rfl,_,[],ho,hb,rfl⟩
  .cases hr
 .cases hr

def TC:List (Nat × MFn):=[(88,Ag2),(219,Ag0)]
section
variable {D:Orc}
theorem AcK(K:Knows Ah TC D)(xs:List ByteArray)(hx:xs.length<4611686018427387904)(s:ByteArray):∀(k i:Nat),xs.length-i=k->D.ask (.lp 88 0) [.ls (xs.map eS),sv s,iv (xs.length:Int),iv (i:Int)] []=V (GF i ((xs.drop i).findIdx? (s = ·)),[]):=by
 intro k
 induction k with
 |zero=>
  intro i hi;refine Ax K WA (Aax ..) ?_;have:xs.drop i=[]:=List.drop_eq_nil_of_le (by omega);simp only[Lh,this,FX];rw[Ab (by simp;omega)];rfl
 |succ k ih=>
  intro i hi;have hlt:i<xs.length:=by omega
  refine Ax K WA (Aax ..) ?_;have e1:xs.drop i=xs[i]::xs.drop (i+1):=List.drop_eq_getElem_cons hlt;have ih':=ih (i+1) (by omega);have e2:Ak.add .i64 (i:Int) 1=((i+1:Nat):Int):=Bv (by omega);simp only[Lh,AD,Im,Ψ hlt,eS,Ae,GJ,e2,FX];rw[Ac (by simpa using hlt),e1,List.findIdx?_cons]
  by_cases h:s=xs[i]
  .simp[←h,GF]
  .rw[Ab (by simpa using h),Ab (by simpa using h)]
   refine Aa ih' ?_
   cases (xs.drop (i+1)).findIdx? (s = ·) with
   |none=>rfl
   |some j=>
    simp only[GF,Option.map_some,show i+(j+1)=i+1+j by omega];rfl
theorem SO(K:Knows Ah TC D)(xs:List ByteArray)(hx:xs.length<4611686018427387904)(s:ByteArray):D.ask (.fn 88) [.ls (xs.map eS),sv s] []=V (iv (Dj (xs.findIdx? (s = ·))),[]):=by
 refine Ao K WA (e88 ..) ?_;rw[Al];refine Aa (AcK K xs hx s _ 0 rfl) ?_;rw[List.drop_zero]
 cases xs.findIdx? (s = ·) with
 |none=>rfl
 |some j=>simp only[GF,Ae,AwJ];rfl
end
section
open Go.RowKit
def Aoq:MFn:=BL [] 265
def Am1:Hnt:=⟨[],[],[(5,[.int .i64]),(9,[.str]),(14,[.int .i64]),(18,[.str]),(23,[.int .i64]),(27,[.str]),(32,[.int .i64]),(36,[.str])]⟩
def AnE:MFn:=BL [] 126
def Ame:Hnt:=⟨[],[],[]⟩
def W5:MFn:=BL [⟨20,(mB 904),[(3,1)],[],[(1,((mB 8),([],[])))]⟩] 232
def OK:Hnt:=⟨[],[(0,[(1,([.sl 1 1],[.del,.row U]))])],[(7,[.ls]),(11,OY),(12,OY),(15,[.str])]⟩
def Aov:MFn:=IZ ε BM [] Θ U 276
def Am6:Hnt:=⟨[(88,(.int .i64,[])),(92,(.agg Kj,[.box CJ])),(109,(.bool,[]))],[],[(9,[.any]),(12,[.int .i64]),(16,[.str]),(22,[.str]),(27,[.any]),(30,[.int .i64])]⟩
def Aor:MFn:=IZ ε BM [] Θ U 266
def Am2:Hnt:=⟨[(232,(.ls,[])),(248,(.int .i64,[.box CJ])),(276,(.tup Rs,[.box CJ]))],[],[(9,Nq),(11,Kn),(19,[.any]),(27,[.ls]),(29,OY),(30,OY),(32,Nq),(34,[.ls]),(43,[.str]),(45,[.ls]),(47,[.str]),(48,[.str])]⟩
def Aos:MFn:=IZ ε BM [] Θ U 267
def Am3:Hnt:=⟨[(93,(.bool,[.box CJ])),(126,(.agg Bb,[])),(249,(.tup [.agg Bb,.int .i64],[.box CJ]))],[],[(6,[.any]),(11,[.any]),(15,[.any])]⟩
def QP:MFn:=IZ ε BM [⟨44,(mB 13375),[],[5,10,12],[(1,((mB 13313),([],[5])))]⟩] Θ U 185
def F5:Hnt:=⟨[(93,(.bool,[.box CJ])),(126,(.agg Bb,[])),(186,(.tup [.agg Bb,.int .i64],[.box CJ])),(230,(.tup [.agg Bb,.int .i64],[.box CJ]))],[(0,[(1,([.agg [.ptr 0 0,.ls,.ls,.int .i64,.ls,.bool,.ls,.bool,.ls,.ls,.ls],.ptr 2 0,.ptr 3 0,.int .i64],[.box CJ,.del,.box Bb,.box Bb]))])],[(25,[.any]),(38,Bb),(39,Bb),(42,Bb)]⟩
def An3:MFn:=IZ ε BM [] Θ U 186
def AmF:Hnt:=⟨[(185,(.tup [.agg Bb,.int .i64],[.box CJ]))],[],[(6,Nq),(8,Nq)]⟩
def AnD:MFn:=IZ ε BM [] Θ U 125
def Amd:Hnt:=⟨[(185,(.tup [.agg Bb,.int .i64],[.box CJ]))],[],[(6,Nq),(8,Nq)]⟩
def Aoh:MFn:=IZ ε BM [] Θ U 230
def Wq:Hnt:=⟨[(93,(.bool,[.box CJ])),(126,(.agg Bb,[])),(230,(.tup [.agg Bb,.int .i64],[.box CJ])),(252,(.tup [.agg Bb,.int .i64],[.box CJ]))],[],[(11,Nq),(18,Bb),(20,Bb),(23,[.any]),(27,[.any]),(30,Nq),(36,Bb),(37,Bb)]⟩
def Aon:MFn:=IZ ε BM [] Θ U 252
def AaG:Hnt:=⟨[(70,(.tup [.agg Bb,.int .i64],[.box CJ])),(92,(.agg Kj,[.box CJ])),(93,(.bool,[.box CJ])),(126,(.agg Bb,[])),(248,(.int .i64,[.box CJ])),(252,(.tup [.agg Bb,.int .i64],[.box CJ])),(265,(.int .i64,[])),(266,(.tup [.agg Bb,.int .i64],[.box CJ])),(267,(.tup [.agg Bb,.int .i64],[.box CJ]))],[],[(14,[.any]),(16,Kj),(19,[.int .i64]),(23,[.str]),(41,[.any]),(44,[.int .i64]),(49,Nq),(56,Bb),(62,[.any]),(65,Nq),(74,[.any]),(76,Bb),(80,[.any]),(82,Nq),(86,Nq)]⟩
def AsA:MFn:=IZ ε BM [] Θ U 70
def AjR:Hnt:=⟨[(70,(.tup [.agg Bb,.int .i64],[.box CJ])),(93,(.bool,[.box CJ])),(125,(.tup [.agg Bb,.int .i64],[.box CJ])),(126,(.agg Bb,[]))],[],[(10,Nq),(19,[.any]),(23,Bb),(26,Nq),(31,Bb),(32,Bb)]⟩
def GM:List (Nat × MFn):=[(265,Aoq),(126,AnE),(232,W5),(276,Aov),(266,Aor),(267,Aos),(185,QP),(186,An3),(125,AnD),(230,Aoh),(252,Aon),(70,AsA)]
variable (A:Ar) (D:Orc)
theorem AuY(x0_0:Int)(x0_1:ByteArray)(x0_2 x0_3:Int):Bp A D Ah Am1 (.b (.b (.b (.b (.b .n (.b (.b .n (.b .n (.f (.b .n (.b .n (.b .n (.b .n (.b .n (.b .n (.f (.b .n (.b .n (.b .n (.b .n (.b .n (.b .n (.f .n))))))))))))))))) .n)) .n) .n) .n) (.b .n (.b .n (.b .n (.b .n (.b .n (.b .n (.b (.b (.b (.b (.b .n (.b (.b .n (.b .n (.t (.b (.b (.b (.b .n (.b (.b .n (.b .n (.t .n))) .n)) .n) .n) .n)))) .n)) .n) .n) .n) (.b .n (.b .n (.b .n (.b .n (.b .n (.b .n (.f (.b .n (.b .n (.b .n (.b .n (.b .n (.b .n (.f .n)))))))))))))))))))))) 265 Aoq [Φ [iv x0_0,sv x0_1,iv x0_2,iv x0_3]] [] =
 let y1:=br (A.eq x0_0 4) Δ (br (A.eq x0_0 4) Δ (V (iv (- 1),[])));br (A.eq x0_0 2) (br (A.seq x0_1 (Ai [33])) (V (iv 3,[])) (br (A.eq x0_0 4) Δ y1)) (br (A.eq x0_0 4) (br (A.seq x0_1 (Ai [88])) (V (iv
 8,[])) (br (A.eq x0_0 4) (br (A.seq x0_1 (Ai [71])) (V (iv 9,[])) (br (A.eq x0_0 4) (br (A.seq x0_1 (Ai [70])) (V (iv 10,[])) (V (iv (- 1),[]))) Δ)) Δ)) y1):=by kernel_rfl
theorem AtM(x0:Int)(x1:Rw):Bp A D Ah Ame .n 126 AnE [iv x0,Ξ x1] [] =
 V ((Φ [iv x0,Ξ [],Ξ [],iv 0,sv (Ai []),sv (Ai []),Ξ x1],[])):=by kernel_rfl
theorem Arc(x0_0 x0_1:Rw)(x0_2:Int)(x0_3:Rw)(x0_4:Bool)(x0_5:Rw)(x0_6:Bool)(x0_7 x0_8 x0_9:Rw):Bp A D Ah OK .n 232 W5 [Φ [Ξ x0_0,Ξ x0_1,iv x0_2,Ξ x0_3,bv x0_4,Ξ x0_5,bv x0_6,Ξ x0_7,Ξ x0_8,Ξ x0_9]] [] =
 Ag D (Awq 232 0) [ο 0 0 0 1,Ξ x0_8,iv ↑(AU x0_8),iv 0] [θ [] U U] [.t,.C,.x,.X,.Y] λc l o=>
 br (Bf 1 c)
 (dk [.C,.q 1 1,.N,.D,.R,.X,.E] [.l l,.o o] λn cs1=>
 br ((0+n*1).ble cs1.length) (V ((Ξ (By n 1 (Aws (n*1) cs1)),[]))) Δ)
 (Δ):=by kernel_rfl
theorem Un(n3:Nat)(c3:Ad)(t7:Rw)(t8 t9:Int):DI A D Ah OK .n 232 0 (AK W5 0).fst (AK W5 0).snd [ο 0 0 n3 1,Ξ t7,iv t8,iv t9] [{ cells:=c3,st:=U,ex:=U }] =
 br (A.lt t9 t8) (unI t9 λi=>Bt t7 i λcs=>dk [.S,.L,.L,.N] [.l cs] λs xs xs1=>br (Bh (n3+1) 16) (br ((0+n3*1).ble c3.length)
 (let y1:=θ (Awv 0 (Aws (0+n3*1) c3)++[sv s]) U U;AN D (Awq 232 0) [ο 0 0 (n3+1) 1,Ξ t7,iv t8,iv (A.add φ t9 1)] [y1] λr o=>AO 1 [3] (AH.mk [(3,y1),(2,
 θ [sv s] U U),(1,bk [sv s,Ξ xs,Ξ xs1])] 4 Δ) [0] r o) Δ) Δ) (V (γ [iv 0,ο 1 0 n3 1],[BO.del,Awp (θ c3 U U)])):=by kernel_rfl
theorem Au4(s1 s2:Rw)(s3:Int)(s4:Rw)(s5:Bool)(s6:Rw)(s7:Bool)(s8 s9 s10 x1 p_0:Rw)(p_1:Int)(p_2:Rw)(p_3:Bool):Bp A D Ah Am6 .n 276 Aov [Φ [ψ 0 0,Ξ s1,Ξ s2,iv s3,Ξ s4,bv s5,Ξ s6,bv s7,Ξ s8,Ξ s9,Ξ s10],Ξ x1] [bk [Ξ p_0,iv p_1,Ξ p_2,bv p_3]] =
 Ag D (Ω 92) [ψ 0 0] [bk [Ξ p_0,iv p_1,Ξ p_2,bv p_3]] [.a,.I,.S,.I,.I,.N,.T,.L,.I,.L,.B,.N,.E] λn s _ _ xs n3 xs1 b=>let y1:=[Awp (bk [Ξ xs,iv n3,Ξ xs1,bv b])];br (A.eq n 1)
 (Ag D (Ω 109) [sv s] [] [.b,.E] λb1=>br b1 (Ag D (Ω 88) [Ξ x1,sv s] [] [.i,.E] λn4=>br (A.lt n4 0) (V (γ [iv 0,iv 110],y1)) (V (γ [iv n4,iv 0],[Awp (bk [Ξ xs,iv (A.add
 φ n3 1),Ξ xs1,bv b])]))) (V (γ [iv 0,iv 101],y1))) (V (γ [iv 0,iv 101],y1)):=by kernel_rfl
theorem AuZ(s1 s2:Rw)(s3:Int)(s4:Rw)(s5:Bool)(s6:Rw)(s7:Bool)(s8 s9 s10 p_0:Rw)(p_1:Int)(p_2:Rw)(p_3:Bool):Bp A D Ah Am2 (.b .n (.b .n (.f .n))) 266 Aor [Φ [ψ 0 0,Ξ s1,Ξ s2,iv s3,Ξ s4,bv s5,Ξ s6,bv s7,Ξ s8,Ξ s9,Ξ s10]] [bk [Ξ p_0,iv p_1,Ξ p_2,bv p_3]] =
 Ag D (Ω 232) [Φ [Ξ s1,Ξ s2,iv s3,Ξ s4,bv s5,Ξ s6,bv s7,Ξ s8,Ξ s9,Ξ s10]] [] [.l,.E] λxs=>
 let y2:=Φ [ψ 0 0,Ξ s1,Ξ s2,iv s3,Ξ s4,bv s5,Ξ s6,bv s7,Ξ s8,Ξ s9,Ξ s10];Ag D (Ω 276) [y2,Ξ xs] [bk [Ξ p_0,iv p_1,Ξ p_2,bv p_3]] [.t,.I,.I,.N,.T,.L,
 .I,.L,.B,.N,.E] λn n1 xs1 n2 xs2 b=>let y1:=λz1 z2 z3 z4 z5=>V (γ [Φ [iv 0,Ξ [],Ξ [],iv 0,sv (Ai []),sv (Ai []),Ξ []],iv z1],[Awp (bk [Ξ z2,iv z3,Ξ z4,bv z5])]);
 br (A.eq n1 0) (Ag D (Ω 248) [ψ 0 0,sv (Ai [46])] [bk [Ξ xs1,iv n2,Ξ xs2,bv b]] [.i,.T,.L,.I,.L,.B,.N,.E] λn3 xs3 n4 xs4 b1=>br (A.eq n3 0) (unI n λi=>Bt s9 i λcs3=>dk [.S,.L,
 .L,.N] [.l cs3] λs xs5 _=>Ag D (Ω 276) [y2,Ξ xs5] [bk [Ξ xs3,iv n4,Ξ xs4,bv b1]] [.t,.I,.I,.N,.T,.L,.I,.L,.B,.N,.E] λn5 n6 xs7 n7 xs8 b2=>br (A.eq n6 0) (unI n5 λi1=>Bt xs5 i1
 λcs6=>dk [.S,.N] [.l cs6] λs11=>V (γ [Φ [iv 6,Ξ [],Ξ [],iv 0,sv s,sv s11,Ξ []],iv 0],[Awp (bk [Ξ xs7,iv n7,Ξ xs8,bv b2])])) (y1 n6 xs7 n7 xs8 b2)) (y1 n3 xs3 n4 xs4 b1))
 (br (A.eq n1 0) Δ (y1 n1 xs1 n2 xs2 b)):=by kernel_rfl
theorem Au0(s1 s2:Rw)(s3:Int)(s4:Rw)(s5:Bool)(s6:Rw)(s7:Bool)(s8 s9 s10 p_0:Rw)(p_1:Int)(p_2:Rw)(p_3:Bool):Bp A D Ah Am3 .n 267 Aos [Φ [ψ 0 0,Ξ s1,Ξ s2,iv s3,Ξ s4,bv s5,Ξ s6,bv s7,Ξ s8,Ξ s9,Ξ s10]] [bk [Ξ p_0,iv p_1,Ξ p_2,bv p_3]] =
 Ag D (Ω 93) [ψ 0 0,sv (Ai [116,114,117,101])] [bk [Ξ p_0,iv p_1,Ξ p_2,bv p_3]] [.b,.T,.L,.I,.L,.B,.N,.E] λb xs n xs1 b1=>let y1:=λz1 z2 z3 z4=>bk [Ξ z1,iv z2,Ξ z3,bv z4];
 br b (Ag D (Ω 126) [iv 0,Ξ []] [] [.a,.I,.L,.L,.I,.S,.S,.L,.N,.E] λn1 xs2 xs3 n2 s s11 xs4=>V (γ [Φ [iv n1,Ξ xs2,Ξ xs3,iv n2,sv s,sv s11,Ξ xs4],iv 0],[Awp (y1 xs n
 xs1 b1)])) (Ag D (Ω 93) [ψ 0 0,sv (Ai [102,97,108,115,101])] [y1 xs n xs1 b1] [.b,.T,.L,.I,.L,.B,.N,.E] λb2 xs2 n1 xs3 b3=>br b2 (Ag D (Ω 126) [iv 1,Ξ []] [] [.a,.I,.L,.L,.I,.S,
 .S,.L,.N,.E] λn2 xs4 xs5 n3 s s11 xs6=>V (γ [Φ [iv n2,Ξ xs4,Ξ xs5,iv n3,sv s,sv s11,Ξ xs6],iv 0],[Awp (y1 xs2 n1 xs3 b3)])) (Ag D (Ω 249) [ψ 0 0] [y1 xs2 n1 xs3 b3] [.t,
 .A,.I,.L,.L,.I,.S,.S,.L,.N,.I,.N,.T,.L,.I,.L,.B,.N,.E] λn2 xs4 xs5 n3 s s11 xs6 n4 xs7 n5 xs8 b4=>V (γ [Φ [iv n2,Ξ xs4,Ξ xs5,iv n3,sv s,sv s11,Ξ xs6],iv n4],[Awp (y1 xs7
 n5 xs8 b4)]))):=by kernel_rfl
theorem AlH(s1 s2:Rw)(s3:Int)(s4:Rw)(s5:Bool)(s6:Rw)(s7:Bool)(s8 s9 s10:Rw)(x1:ByteArray)(x2 x3:Int)(p_0:Rw)(p_1:Int)(p_2:Rw)(p_3:Bool):Bp A D Ah F5 .n 185 QP [Φ [ψ 0 0,Ξ s1,Ξ s2,iv s3,Ξ s4,bv s5,Ξ s6,bv s7,Ξ s8,Ξ s9,Ξ s10],sv x1,iv x2,iv x3,AwG (Fn.func 186) [Φ [ψ 0 0,Ξ s1,Ξ s2,iv s3,Ξ s4,bv s5,Ξ s6,bv s7,Ξ s8,Ξ s9,Ξ s10]] []] [bk [Ξ p_0,iv p_1,Ξ p_2,bv p_3]] =
 let y1:=[ψ 0 0,Ξ s1,Ξ s2,iv s3,Ξ s4,bv s5,Ξ s6,bv s7,Ξ s8,Ξ s9,Ξ s10];Ag D (Ω 186) [Φ y1,iv x3] [bk [Ξ p_0,iv p_1,Ξ p_2,bv p_3]] [.t,.A,.I,.L,.L,.I,.S,
 .S,.L,.N,.I,.N,.T,.L,.I,.L,.B,.N,.E] λn xs xs1 n1 s s11 xs2 n2 xs3 n3 xs4 b=>Ag D (Awq 185 0) [Φ y1,sv x1,iv x2,iv x3,AwG (Fn.func 186) [Φ y1] [],ψ 1 0,ψ 2 0,ψ 3 0,iv n2]
 [bk [Ξ xs3,iv n3,Ξ xs4,bv b],bk y1,bk [iv 0,Ξ [],Ξ [],iv 0,sv (Ai []),sv (Ai []),Ξ []],bk [iv n,Ξ xs,Ξ xs1,iv n1,sv s,sv s11,Ξ xs2]] [.t,.C,.x,.X,.Y] λc2 l14 o1=>br
 (Bf 1 c2) (dk [.A,.P 0 0,.L,.L,.I,.L,.B,.L,.B,.L,.L,.L,.N,.P 2 0,.P 3 0,.I,.N,.T,.L,.I,.L,.B,.N,.D,.T,.I,.L,.L,.I,.X,.Y] [.l l14,.o o1] λ_ _ _ _ _ _ _ _ _ _ n5 xs12 n6 xs13 b3 _ _ _ _ l40 l36
 =>dk [.S,.S,.L,.N,.T,.I,.L,.L,.I,.S,.S,.L,.N,.E] [.l l40,.o l36] λ_ _ _ n9 xs17 xs18 n10 s14 s15 xs19=>V (γ [Φ [iv n9,Ξ xs17,Ξ xs18,iv n10,sv s14,sv s15,Ξ xs19],iv n5],[Awp
 (bk [Ξ xs12,iv n6,Ξ xs13,bv b3])])) Δ:=by kernel_rfl
theorem PD(t1:ByteArray)(t2 t3:Int)(s1 s2:Rw)(s3:Int)(s4:Rw)(s5:Bool)(s6:Rw)(s7:Bool)(s8 s9 s10 p_0:Rw)(p_1:Int)(p_2:Rw)(p_3:Bool)(a0:Int)(a1 a2:Rw)(a3:Int)(a4 a5:ByteArray)(a6:Rw)(b0:Int)(b1 b2:Rw)(b3:Int)(b4 b5:ByteArray)(b6:Rw)(t13:Int):DI A D Ah F5 .n 185 0 (AK QP 0).fst (AK QP 0).snd [Φ [ψ 0 0,Ξ s1,Ξ s2,iv s3,Ξ s4,bv s5,Ξ s6,bv s7,Ξ s8,Ξ s9,Ξ s10],sv t1,iv t2,iv t3,AwG (Fn.func 186) [Φ [ψ 0 0,Ξ s1,Ξ s2,iv s3,Ξ s4,bv s5,Ξ s6,bv s7,Ξ s8,Ξ s9,Ξ s10]] [],ψ 1 0,ψ 2 0,ψ 3 0,iv t13] [bk [Ξ p_0,iv p_1,Ξ p_2,bv p_3],bk [ψ 0 0,Ξ s1,Ξ s2,iv s3,Ξ s4,bv s5,Ξ s6,bv s7,Ξ s8,Ξ s9,Ξ s10],bk [iv a0,Ξ a1,Ξ a2,iv a3,sv a4,sv a5,Ξ a6],bk [iv b0,Ξ b1,Ξ b2,iv b3,sv b4,sv b5,Ξ b6]] =
 let y1:=[ψ 0 0,Ξ s1,Ξ s2,iv s3,Ξ s4,bv s5,Ξ s6,bv s7,Ξ s8,Ξ s9,Ξ s10];let y2:=bk [iv a0,Ξ a1,Ξ a2,iv a3,sv a4,sv a5,Ξ a6];
 let y3:=[iv b0,Ξ b1,Ξ b2,iv b3,sv b4,sv b5,Ξ b6];let y7:=γ [iv 0,Φ y1,ψ 2 0,ψ 3 0,iv t13];br (A.eq t13 0) (Ag D (Ω 93) [ψ 0 0,sv t1] [bk [Ξ p_0,iv p_1,Ξ p_2,
 bv p_3]] [.b,.T,.L,.I,.L,.B,.N,.E] λb xs n xs1 b7=>let y5:=λz1 z2 z3 z4=>bk [Ξ z1,iv z2,Ξ z3,bv z4];br b (Ag D (Ω 186) [Φ y1,iv t3] [y5 xs n xs1 b7] [.t,.A,.I,.L,.L,.I,.S,.S,
 .L,.N,.I,.N,.T,.L,.I,.L,.B,.N,.E] λn1 xs2 xs3 n2 s s11 xs4 n3 xs5 n4 xs6 b8=>let y4:=[Φ y1,sv t1,iv t2,iv t3,AwG (Fn.func 186) [Φ y1] [],ψ 1 0,ψ 2 0,ψ 3 0,iv n3];
 let y6:=λz1 z2 z3 z4 z5 z6 z7=>[iv z1,Ξ z2,Ξ z3,iv z4,sv z5,sv z6,Ξ z7];br (A.eq n3 0) (Ag D (Ω 126) [iv t2,Ξ [y3,y6 n1 xs2 xs3 n2 s s11 xs4]] [] [.a,.I,.L,.L,.I,.S,.S,.L,.N,.E]
 λn5 xs7 xs8 n6 s12 s13 xs9=>AN D (Awq 185 0) y4 [y5 xs5 n4 xs6 b8,bk y1,y2,bk (y6 n5 xs7 xs8 n6 s12 s13 xs9)] λr3 o3=>AO 4 [0,1,2,3] (AH.mk [(3,bk (y6 n5 xs7 xs8 n6 s12 s13 xs9)),(2,y2),(1,bk y1),
 (5,θ [iv b0,Ξ b1,Ξ b2,iv b3,sv b4,sv b5,Ξ b6,iv n1,Ξ xs2,Ξ xs3,iv n2,sv s,sv s11,Ξ xs4] Θ U),(4,bk (y6 n1 xs2 xs3 n2 s s11 xs4)),(0,y5 xs5 n4 xs6 b8)] 6 Δ) [0,1,2,3]
 r3 o3) (AN D (Awq 185 0) y4 [y5 xs5 n4 xs6 b8,bk y1,y2,bk y3] λr2 o2=>AO 4 [0,1,2,3] (AH.mk [(3,bk y3),(2,y2),(1,bk y1),(4,bk (y6 n1 xs2 xs3 n2 s s11 xs4)),(0,y5 xs5 n4 xs6 b8)] 5 Δ) [0,1,2,3]
 r2 o2)) (V (y7,[Awp (y5 xs n xs1 b7),BO.del,Awp y2,Awp (bk y3)]))) (V (y7,[Awp (bk [Ξ p_0,iv p_1,Ξ p_2,bv p_3]),BO.del,Awp y2,Awp (bk y3)])):=by kernel_rfl
theorem AlI(s1 s2:Rw)(s3:Int)(s4:Rw)(s5:Bool)(s6:Rw)(s7:Bool)(s8 s9 s10:Rw)(x1:ByteArray)(x2 x3:Int)(p_0:Rw)(p_1:Int)(p_2:Rw)(p_3:Bool):Bp A D Ah F5 .n 185 QP [Φ [ψ 0 0,Ξ s1,Ξ s2,iv s3,Ξ s4,bv s5,Ξ s6,bv s7,Ξ s8,Ξ s9,Ξ s10],sv x1,iv x2,iv x3,AwG (Fn.func 230) [Φ [ψ 0 0,Ξ s1,Ξ s2,iv s3,Ξ s4,bv s5,Ξ s6,bv s7,Ξ s8,Ξ s9,Ξ s10]] []] [bk [Ξ p_0,iv p_1,Ξ p_2,bv p_3]] =
 let y1:=[ψ 0 0,Ξ s1,Ξ s2,iv s3,Ξ s4,bv s5,Ξ s6,bv s7,Ξ s8,Ξ s9,Ξ s10];Ag D (Ω 230) [Φ y1,iv x3] [bk [Ξ p_0,iv p_1,Ξ p_2,bv p_3]] [.t,.A,.I,.L,.L,.I,.S,
 .S,.L,.N,.I,.N,.T,.L,.I,.L,.B,.N,.E] λn xs xs1 n1 s s11 xs2 n2 xs3 n3 xs4 b=>Ag D (Awq 185 0) [Φ y1,sv x1,iv x2,iv x3,AwG (Fn.func 230) [Φ y1] [],ψ 1 0,ψ 2 0,ψ 3 0,iv n2]
 [bk [Ξ xs3,iv n3,Ξ xs4,bv b],bk y1,bk [iv 0,Ξ [],Ξ [],iv 0,sv (Ai []),sv (Ai []),Ξ []],bk [iv n,Ξ xs,Ξ xs1,iv n1,sv s,sv s11,Ξ xs2]] [.t,.C,.x,.X,.Y] λc2 l14 o1=>br
 (Bf 1 c2) (dk [.A,.P 0 0,.L,.L,.I,.L,.B,.L,.B,.L,.L,.L,.N,.P 2 0,.P 3 0,.I,.N,.T,.L,.I,.L,.B,.N,.D,.T,.I,.L,.L,.I,.X,.Y] [.l l14,.o o1] λ_ _ _ _ _ _ _ _ _ _ n5 xs12 n6 xs13 b3 _ _ _ _ l40 l36
 =>dk [.S,.S,.L,.N,.T,.I,.L,.L,.I,.S,.S,.L,.N,.E] [.l l40,.o l36] λ_ _ _ n9 xs17 xs18 n10 s14 s15 xs19=>V (γ [Φ [iv n9,Ξ xs17,Ξ xs18,iv n10,sv s14,sv s15,Ξ xs19],iv n5],[Awp
 (bk [Ξ xs12,iv n6,Ξ xs13,bv b3])])) Δ:=by kernel_rfl
theorem PE(t1:ByteArray)(t2 t3:Int)(s1 s2:Rw)(s3:Int)(s4:Rw)(s5:Bool)(s6:Rw)(s7:Bool)(s8 s9 s10 p_0:Rw)(p_1:Int)(p_2:Rw)(p_3:Bool)(a0:Int)(a1 a2:Rw)(a3:Int)(a4 a5:ByteArray)(a6:Rw)(b0:Int)(b1 b2:Rw)(b3:Int)(b4 b5:ByteArray)(b6:Rw)(t13:Int):DI A D Ah F5 .n 185 0 (AK QP 0).fst (AK QP 0).snd [Φ [ψ 0 0,Ξ s1,Ξ s2,iv s3,Ξ s4,bv s5,Ξ s6,bv s7,Ξ s8,Ξ s9,Ξ s10],sv t1,iv t2,iv t3,AwG (Fn.func 230) [Φ [ψ 0 0,Ξ s1,Ξ s2,iv s3,Ξ s4,bv s5,Ξ s6,bv s7,Ξ s8,Ξ s9,Ξ s10]] [],ψ 1 0,ψ 2 0,ψ 3 0,iv t13] [bk [Ξ p_0,iv p_1,Ξ p_2,bv p_3],bk [ψ 0 0,Ξ s1,Ξ s2,iv s3,Ξ s4,bv s5,Ξ s6,bv s7,Ξ s8,Ξ s9,Ξ s10],bk [iv a0,Ξ a1,Ξ a2,iv a3,sv a4,sv a5,Ξ a6],bk [iv b0,Ξ b1,Ξ b2,iv b3,sv b4,sv b5,Ξ b6]] =
 let y1:=[ψ 0 0,Ξ s1,Ξ s2,iv s3,Ξ s4,bv s5,Ξ s6,bv s7,Ξ s8,Ξ s9,Ξ s10];let y2:=bk [iv a0,Ξ a1,Ξ a2,iv a3,sv a4,sv a5,Ξ a6];
 let y3:=[iv b0,Ξ b1,Ξ b2,iv b3,sv b4,sv b5,Ξ b6];let y7:=γ [iv 0,Φ y1,ψ 2 0,ψ 3 0,iv t13];br (A.eq t13 0) (Ag D (Ω 93) [ψ 0 0,sv t1] [bk [Ξ p_0,iv p_1,Ξ p_2,
 bv p_3]] [.b,.T,.L,.I,.L,.B,.N,.E] λb xs n xs1 b7=>let y5:=λz1 z2 z3 z4=>bk [Ξ z1,iv z2,Ξ z3,bv z4];br b (Ag D (Ω 230) [Φ y1,iv t3] [y5 xs n xs1 b7] [.t,.A,.I,.L,.L,.I,.S,.S,
 .L,.N,.I,.N,.T,.L,.I,.L,.B,.N,.E] λn1 xs2 xs3 n2 s s11 xs4 n3 xs5 n4 xs6 b8=>let y4:=[Φ y1,sv t1,iv t2,iv t3,AwG (Fn.func 230) [Φ y1] [],ψ 1 0,ψ 2 0,ψ 3 0,iv n3];
 let y6:=λz1 z2 z3 z4 z5 z6 z7=>[iv z1,Ξ z2,Ξ z3,iv z4,sv z5,sv z6,Ξ z7];br (A.eq n3 0) (Ag D (Ω 126) [iv t2,Ξ [y3,y6 n1 xs2 xs3 n2 s s11 xs4]] [] [.a,.I,.L,.L,.I,.S,.S,.L,.N,.E]
 λn5 xs7 xs8 n6 s12 s13 xs9=>AN D (Awq 185 0) y4 [y5 xs5 n4 xs6 b8,bk y1,y2,bk (y6 n5 xs7 xs8 n6 s12 s13 xs9)] λr3 o3=>AO 4 [0,1,2,3] (AH.mk [(3,bk (y6 n5 xs7 xs8 n6 s12 s13 xs9)),(2,y2),(1,bk y1),
 (5,θ [iv b0,Ξ b1,Ξ b2,iv b3,sv b4,sv b5,Ξ b6,iv n1,Ξ xs2,Ξ xs3,iv n2,sv s,sv s11,Ξ xs4] Θ U),(4,bk (y6 n1 xs2 xs3 n2 s s11 xs4)),(0,y5 xs5 n4 xs6 b8)] 6 Δ) [0,1,2,3]
 r3 o3) (AN D (Awq 185 0) y4 [y5 xs5 n4 xs6 b8,bk y1,y2,bk y3] λr2 o2=>AO 4 [0,1,2,3] (AH.mk [(3,bk y3),(2,y2),(1,bk y1),(4,bk (y6 n1 xs2 xs3 n2 s s11 xs4)),(0,y5 xs5 n4 xs6 b8)] 5 Δ) [0,1,2,3]
 r2 o2)) (V (y7,[Awp (y5 xs n xs1 b7),BO.del,Awp y2,Awp (bk y3)]))) (V (y7,[Awp (bk [Ξ p_0,iv p_1,Ξ p_2,bv p_3]),BO.del,Awp y2,Awp (bk y3)])):=by kernel_rfl
theorem Aun(s1 s2:Rw)(s3:Int)(s4:Rw)(s5:Bool)(s6:Rw)(s7:Bool)(s8 s9 s10:Rw)(x1:Int)(p_0:Rw)(p_1:Int)(p_2:Rw)(p_3:Bool):Bp A D Ah AmF .n 186 An3 [Φ [ψ 0 0,Ξ s1,Ξ s2,iv s3,Ξ s4,bv s5,Ξ s6,bv s7,Ξ s8,Ξ s9,Ξ s10],iv x1] [bk [Ξ p_0,iv p_1,Ξ p_2,bv p_3]] =
 let y1:=Φ [ψ 0 0,Ξ s1,Ξ s2,iv s3,Ξ s4,bv s5,Ξ s6,bv s7,Ξ s8,Ξ s9,Ξ s10];Ag D (Ω 185) [y1,sv (Ai [38]),iv 4,iv x1,AwG (Fn.func 230) [y1] []] [bk [Ξ p_0,iv p_1,
 Ξ p_2,bv p_3]] [.t,.A,.I,.L,.L,.I,.S,.S,.L,.N,.I,.N,.T,.L,.I,.L,.B,.N,.E] λn xs xs1 n1 s s11 xs2 n2 xs3 n3 xs4 b=>V (γ [Φ [iv n,Ξ xs,Ξ xs1,iv n1,sv s,sv s11,Ξ xs2],iv
 n2],[Awp (bk [Ξ xs3,iv n3,Ξ xs4,bv b])]):=by kernel_rfl
theorem AtL(s1 s2:Rw)(s3:Int)(s4:Rw)(s5:Bool)(s6:Rw)(s7:Bool)(s8 s9 s10:Rw)(x1:Int)(p_0:Rw)(p_1:Int)(p_2:Rw)(p_3:Bool):Bp A D Ah Amd .n 125 AnD [Φ [ψ 0 0,Ξ s1,Ξ s2,iv s3,Ξ s4,bv s5,Ξ s6,bv s7,Ξ s8,Ξ s9,Ξ s10],iv x1] [bk [Ξ p_0,iv p_1,Ξ p_2,bv p_3]] =
 let y1:=Φ [ψ 0 0,Ξ s1,Ξ s2,iv s3,Ξ s4,bv s5,Ξ s6,bv s7,Ξ s8,Ξ s9,Ξ s10];Ag D (Ω 185) [y1,sv (Ai [124]),iv 5,iv x1,AwG (Fn.func 186) [y1] []] [bk [Ξ p_0,iv
 p_1,Ξ p_2,bv p_3]] [.t,.A,.I,.L,.L,.I,.S,.S,.L,.N,.I,.N,.T,.L,.I,.L,.B,.N,.E] λn xs xs1 n1 s s11 xs2 n2 xs3 n3 xs4 b=>V (γ [Φ [iv n,Ξ xs,Ξ xs1,iv n1,sv s,sv s11,Ξ xs2],
 iv n2],[Awp (bk [Ξ xs3,iv n3,Ξ xs4,bv b])]):=by kernel_rfl
theorem Ajz(s1 s2:Rw)(s3:Int)(s4:Rw)(s5:Bool)(s6:Rw)(s7:Bool)(s8 s9 s10:Rw)(x1:Int)(p_0:Rw)(p_1:Int)(p_2:Rw)(p_3:Bool):Bp A D Ah Wq .n 230 Aoh [Φ [ψ 0 0,Ξ s1,Ξ s2,iv s3,Ξ s4,bv s5,Ξ s6,bv s7,Ξ s8,Ξ s9,Ξ s10],iv x1] [bk [Ξ p_0,iv p_1,Ξ p_2,bv p_3]] =
 let y1:=[Φ [ψ 0 0,Ξ s1,Ξ s2,iv s3,Ξ s4,bv s5,Ξ s6,bv s7,Ξ s8,Ξ s9,Ξ s10],iv x1];Ag D (Ω 252) y1 [bk [Ξ p_0,iv p_1,Ξ p_2,bv p_3]] [.t,.A,.I,.L,.L,.I,.S,
 .S,.L,.N,.I,.N,.T,.L,.I,.L,.B,.N,.E] λn xs xs1 n1 s s11 xs2 n2 xs3 n3 xs4 b=>let y2:=λz1 z2 z3 z4 z5 z6 z7=>[iv z1,Ξ z2,Ξ z3,iv z4,sv z5,sv z6,Ξ z7];
 let y3:=λz1 z2 z3 z4=>bk [Ξ z1,iv z2,Ξ z3,bv z4];br (A.eq n2 0) (Ag D (Ω 93) [ψ 0 0,sv (Ai [85])] [y3 xs3 n3 xs4 b] [.b,.T,.L,.I,.L,.B,.N,.E] λb1 xs5 n4 xs6 b2=>br b1 (Ag D (Ω
 230) y1 [y3 xs5 n4 xs6 b2] [.t,.A,.I,.L,.L,.I,.S,.S,.L,.N,.I,.N,.T,.L,.I,.L,.B,.N,.E] λn5 xs7 xs8 n6 s12 s13 xs9 n7 xs10 n8 xs11 b3=>Ag D (Ω 126) [iv 11,Ξ [y2 n xs xs1 n1 s s11 xs2,y2 n5 xs7
 xs8 n6 s12 s13 xs9]] [] [.a,.I,.L,.L,.I,.S,.S,.L,.N,.E] λn9 xs12 xs13 n10 s14 s15 xs14=>V (γ [Φ (y2 n9 xs12 xs13 n10 s14 s15 xs14),iv n7],[Awp (y3 xs10 n8 xs11 b3)])) (Ag D (Ω 93) [ψ 0
 0,sv (Ai [82])] [y3 xs5 n4 xs6 b2] [.b,.T,.L,.I,.L,.B,.N,.E] λb3 xs7 n5 xs8 b4=>br b3 (Ag D (Ω 230) y1 [y3 xs7 n5 xs8 b4] [.t,.A,.I,.L,.L,.I,.S,.S,.L,.N,.I,.N,.T,.L,.I,.L,.B,.N,.E] λn6
 xs9 xs10 n7 s12 s13 xs11 n8 xs12 n9 xs13 b5=>Ag D (Ω 126) [iv 12,Ξ [y2 n xs xs1 n1 s s11 xs2,y2 n6 xs9 xs10 n7 s12 s13 xs11]] [] [.a,.I,.L,.L,.I,.S,.S,.L,.N,.E] λn10 xs14 xs15 n11 s14 s15 xs16=>V
 (γ [Φ (y2 n10 xs14 xs15 n11 s14 s15 xs16),iv n8],[Awp (y3 xs12 n9 xs13 b5)])) (V (γ [Φ (y2 n xs xs1 n1 s s11 xs2),iv 0],[Awp (y3 xs7 n5 xs8 b4)])))) (V (γ [Φ (y2 n xs xs1 n1 s s11
 xs2),iv n2],[Awp (y3 xs3 n3 xs4 b)])):=by kernel_rfl
theorem Apj(s1 s2:Rw)(s3:Int)(s4:Rw)(s5:Bool)(s6:Rw)(s7:Bool)(s8 s9 s10:Rw)(x1:Int)(p_0:Rw)(p_1:Int)(p_2:Rw)(p_3:Bool):Bp A D Ah AaG (.b (.b (.b (.b (.b (.b (.b (.b (.b .n (.b (.b (.b (.b (.b .n (.b (.b .n (.b .n (.t .n))) .n)) .n) .n) .n) .n)) (.b (.b .n (.b (.b (.b (.b .n (.b (.b .n (.b .n (.f .n))) .n)) .n) .n) .n)) .n)) .n) .n) (.b (.b .n (.b (.b .n (.b (.b (.b (.b (.b .n (.b (.b .n (.b .n (.t .n))) .n)) .n) .n) .n) .n)) (.b (.b .n (.b .n (.b .n (.b .n (.b .n (.b .n (.b .n (.f .n)))))))) .n))) .n)) .n) .n) .n) (.b .n (.b .n (.b .n (.b .n (.b .n (.b (.b .n (.b (.b (.b (.b (.b .n (.b (.b .n (.b .n (.t .n))) .n)) .n) .n) .n) .n)) (.b (.b .n (.b .n (.b .n (.b .n (.b .n (.b .n (.b .n (.f .n)))))))) .n)))))))) 252 Aon [Φ [ψ 0 0,Ξ s1,Ξ s2,iv s3,Ξ s4,bv s5,Ξ s6,bv s7,Ξ s8,Ξ s9,Ξ s10],iv x1] [bk [Ξ p_0,iv p_1,Ξ p_2,bv p_3]] =
 Ag D (Ω 92) [ψ 0 0] [bk [Ξ p_0,iv p_1,Ξ p_2,bv p_3]] [.a,.I,.S,.I,.I,.N,.T,.L,.I,.L,.B,.N,.E] λn s n1 n2 xs n3 xs1 b=>Ag D (Ω 265) [Φ [iv n,sv s,iv n1,iv n2]] [] [.i,.E] fun
 n4=>let y6:=λz1 z2 z3 z4=>bk [Ξ z1,iv z2,Ξ z3,bv z4];
 let y3:=λz1 z2 z3 z4 z5 z6 z7 z8 z9 z10 z11 z12=>V (γ [Φ [iv z1,Ξ z2,Ξ z3,iv z4,sv z5,sv z6,Ξ z7],iv z8],[Awp (y6 z9 z10 z11 z12)]);
 let y4:=Φ [ψ 0 0,Ξ s1,Ξ s2,iv s3,Ξ s4,bv s5,Ξ s6,bv s7,Ξ s8,Ξ s9,Ξ s10];
 let y1:=br (A.le 0 n4) Δ (AN D (Ω 93) [ψ 0 0,sv (Ai [40])] [y6 xs n3 xs1 b] λr2 o2=>dk [.b,.T,.L,.I,.L,.B,.N,.E] [.v r2,.o o2] λb1 xs2 n5 xs3 b2=>br b1 (Ag D (Ω 70) [y4,iv (A.add φ x1 1)] [y6 xs2 n5 xs3 b2] [.t,.A,.I,.L,.L,.I,.S,.S,.L,.N,.I,.N,.T,.L,.I,.L,.B,.N,.E] λn6 xs4 xs5 n7 s11 s12 xs6 n8 xs7 n9 xs8 b3=>br (A.eq n8 0) (Ag D (Ω 248) [ψ 0 0,sv (Ai [41])] [y6 xs7 n9 xs8 b3] [.i,.T,.L,.I,.L,.B,.N,.E] λn10 xs9 n11 xs10 b4=>y3 n6 xs4 xs5 n7 s11 s12 xs6 n10 xs9 n11 xs10 b4) (y3 n6 xs4 xs5 n7 s11 s12 xs6 n8 xs7 n9 xs8 b3)) (Ag D (Ω 93) [ψ 0 0,sv (Ai [64])] [y6 xs2 n5 xs3 b2] [.b,.T,.L,.I,.L,.B,.N,.E] λb3 xs4 n6 xs5 b4=>br b3 (Ag D (Ω 266) [y4] [y6 xs4 n6 xs5 b4] [.t,.A,.I,.L,.L,.I,.S,.S,.L,.N,.I,.N,.T,.L,.I,.L,.B,.N,.E] y3) (Ag D (Ω 267) [y4] [y6 xs4 n6 xs5 b4] [.t,.A,.I,.L,.L,.I,.S,.S,.L,.N,.I,.N,.T,.L,.I,.L,.B,.N,.E] y3)));
 let y5:=V (γ [Φ [iv 0,Ξ [],Ξ [],iv 0,sv (Ai []),sv (Ai []),Ξ []],iv 102],[Awp (y6 xs n3 xs1 b)]);
 let y2:=br (A.eq x1 60) y5 (br (A.le 0 n4) (AN D (Ω 252) [y4,iv (A.add φ x1 1)] [bk [Ξ xs,iv (A.add φ n3 1),Ξ xs1,bv b]] λr2 o2=>dk [.t,.A,.I,.L,.L,.I,.S,.S,.L,.N,.I,.N,.T,.L,.I,.L,.B,.N,.E] [.v r2,.o o2] λn5 xs2 xs3 n6 s11 s12 xs4 n7 xs5 n8 xs6 b1=>Ag D (Ω 126) [iv n4,Ξ [[iv n5,Ξ xs2,Ξ xs3,iv n6,sv s11,sv s12,Ξ xs4]]] [] [.a,.I,.L,.L,.I,.S,.S,.L,.N,.E] λn9 xs7 xs8 n10 s13 s14 xs9=>y3 n9 xs7 xs8 n10 s13 s14 xs9 n7 xs5 n8 xs6 b1) Δ);
 br (A.eq n 2) (br (A.seq s (Ai [40])) (br (A.le 0 n4) y2 (br (A.eq x1 60) y5 y1)) (br (A.le 0 n4) y2 y1)) (br (A.le 0 n4) y2 y1):=by kernel_rfl
theorem e70(s1 s2:Rw)(s3:Int)(s4:Rw)(s5:Bool)(s6:Rw)(s7:Bool)(s8 s9 s10:Rw)(x1:Int)(p_0:Rw)(p_1:Int)(p_2:Rw)(p_3:Bool):Bp A D Ah AjR .n 70 AsA [Φ [ψ 0 0,Ξ s1,Ξ s2,iv s3,Ξ s4,bv s5,Ξ s6,bv s7,Ξ s8,Ξ s9,Ξ s10],iv x1] [bk [Ξ p_0,iv p_1,Ξ p_2,bv p_3]] =
 let y2:=[Φ [ψ 0 0,Ξ s1,Ξ s2,iv s3,Ξ s4,bv s5,Ξ s6,bv s7,Ξ s8,Ξ s9,Ξ s10],iv x1];Ag D (Ω 125) y2 [bk [Ξ p_0,iv p_1,Ξ p_2,bv p_3]] [.t,.A,.I,.L,.L,.I,.S,
 .S,.L,.N,.I,.N,.T,.L,.I,.L,.B,.N,.E] λn xs xs1 n1 s s11 xs2 n2 xs3 n3 xs4 b=>
 let y1:=λz1 z2 z3 z4 z5 z6 z7 z8 z9 z10 z11 z12=>V (γ [Φ [iv z1,Ξ z2,Ξ z3,iv z4,sv z5,sv z6,Ξ z7],iv z8],[Awp (bk [Ξ z9,iv z10,Ξ z11,bv z12])]);br (A.eq n2 0) (Ag D
 (Ω 93) [ψ 0 0,sv (Ai [45,62])] [bk [Ξ xs3,iv n3,Ξ xs4,bv b]] [.b,.T,.L,.I,.L,.B,.N,.E] λb1 xs5 n4 xs6 b2=>br b1 (Ag D (Ω 70) y2 [bk [Ξ xs5,iv n4,Ξ xs6,bv b2]] [.t,.A,.I,
 .L,.L,.I,.S,.S,.L,.N,.I,.N,.T,.L,.I,.L,.B,.N,.E] λn5 xs7 xs8 n6 s12 s13 xs9 n7 xs10 n8 xs11 b3=>Ag D (Ω 126) [iv 7,Ξ [[iv n,Ξ xs,Ξ xs1,iv n1,sv s,sv s11,Ξ xs2],[iv n5,Ξ
 xs7,Ξ xs8,iv n6,sv s12,sv s13,Ξ xs9]]] [] [.a,.I,.L,.L,.I,.S,.S,.L,.N,.E] λn9 xs12 xs13 n10 s14 s15 xs14=>y1 n9 xs12 xs13 n10 s14 s15 xs14 n7 xs10 n8 xs11 b3) (y1 n xs xs1 n1 s s11 xs2 n2 xs5 n4 xs6
 b2)) (y1 n xs xs1 n1 s s11 xs2 n2 xs3 n3 xs4 b):=by kernel_rfl
end
def AbN:List (Nat × MFn):=[(232,W5)]
section
open Go.RowKit
def AnF:MFn:=BL [] 132
def Amf:Hnt:=⟨[],[],[]⟩
def An6:MFn:=BL [] 194
def AmI:Hnt:=⟨[],[],[]⟩
def AnH:MFn:=BL [] 134
def Amh:Hnt:=⟨[(132,(.int .i64,[])),(194,(.int .i64,[]))],[],[(13,[.int .i64])]⟩
def AnG:MFn:=BL [] 133
def Amg:Hnt:=⟨[(45,(.bool,[])),(46,(.bool,[])),(109,(.bool,[]))],[],[(4,[.int .i64]),(7,Bb),(12,[.ls]),(17,[.ls]),(23,[.int .i64]),(28,[.str]),(33,[.str]),(36,Bb)]⟩
def Akj:MFn:=BL [⟨57,(mB 60129542150),[],[2],[(0,((mB 16),([],[2]))),(1,([],([],[2])))]⟩] 74
def Agb:Hnt:=⟨[(45,(.bool,[])),(74,(.bool,[])),(132,(.int .i64,[])),(133,(.bool,[])),(134,(.bool,[]))],[(0,[(0,([.bool],[.del])),(1,([],[.del]))])],[(10,[.int .i64]),(13,[.ls]),(19,Bb),(28,Bb),(33,[.ls]),(38,Bb),(39,Bb),(42,[.int .i64]),(44,Bb),(51,Bb)]⟩
def Asl:MFn:=BL [] 36
def Arp:Hnt:=⟨[(74,(.bool,[]))],[],[(3,Bb)]⟩
def Nv:List (Nat × MFn):=[(132,AnF),(194,An6),(134,AnH),(133,AnG),(74,Akj),(36,Asl)]
variable (A:Ar) (D:Orc)
theorem AtN(x0:Int):Bp A D Ah Amf .n 132 AnF [iv x0] [] =
 let y2:=V (iv 0,[]);br (A.eq x0 0) y2 (br (A.eq x0 1) y2 (br (A.eq x0 2) y2 (br (A.eq x0 6) y2 (let y3:=V (iv 1,[]);br (A.eq x0 3) y3 (br (A.eq x0 8) y3 (br (A.eq x0 9) y3 (br (A.eq x0 10) y3
 (let y1:=V (iv 2,[]);br (A.eq x0 4) y1 (br (A.eq x0 5) y1 (br (A.eq x0 7) y1 (br (A.eq x0 11) y1 (br (A.eq x0 12) y1 (V (iv (- 1),[])))))))))))))):=by kernel_rfl
theorem Auq(x0:Int):Bp A D Ah AmI .n 194 An6 [iv x0] [] =
 br (A.eq x0 7)
 (V ((iv 1,[])))
 (br (A.eq x0 5)
 (V ((iv 2,[])))
 (br (A.eq x0 4)
 (V ((iv 3,[])))
 (br (A.eq x0 11)
 (V ((iv 4,[])))
 (br (A.eq x0 12)
 (V ((iv 4,[])))
 (V ((iv 5,[]))))))):=by kernel_rfl
theorem AtP(x0 x1 x2_0:Int)(x2_1 x2_2:Rw)(x2_3:Int)(x2_4 x2_5:ByteArray)(x2_6:Rw):Bp A D Ah Amh .n 134 AnH [iv x0,iv x1,Φ [iv x2_0,Ξ x2_1,Ξ x2_2,iv x2_3,sv x2_4,sv x2_5,Ξ x2_6]] [] =
 Ag D (Ω 194) [iv x0] [] [.i,.E] λn=>Ag D (Ω 194) [iv x2_0] [] [.i,.E] λn1=>Ag D (Ω 132) [iv x0] [] [.i,.E] λn2=>let y2:=V (bv U,[]);let y3:=V (bv Θ,[]);br (A.eq n2 1)
 (br (A.lt n1 5) y2 y3) (br (A.eq n n1) (let y1:=br (A.eq x1 0) (br (A.beq U U) y2 y3) (br (A.beq U Θ) y2 y3);br (A.eq n 1) y1 (br (A.eq n 4) y1 (br (A.eq x1 0) (br (A.beq Θ U) y2 y3) (br (A.beq Θ
 Θ) y2 y3)))) (br (A.lt n1 n) y2 y3)):=by kernel_rfl
theorem AtO(x0_0:Int)(x0_1 x0_2:Rw)(x0_3:Int)(x0_4 x0_5:ByteArray)(x0_6:Rw):Bp A D Ah Amg .n 133 AnG [Φ [iv x0_0,Ξ x0_1,Ξ x0_2,iv x0_3,sv x0_4,sv x0_5,Ξ x0_6]] [] =
 let y1:=V (bv Θ,[]);let y2:=[Φ [iv x0_0,Ξ x0_1,Ξ x0_2,iv x0_3,sv x0_4,sv x0_5,Ξ x0_6]];let y3:=λz1=>br z1 (V (bv U,[])) y1;br (A.eq x0_0 2) (Ag D (Ω 46) y2 [] [.b,.E]
 y3) (br (A.eq x0_0 6) (br (A.eq (↑(AU x0_1)) 0) (br (A.eq (↑(AU x0_2)) 0) (br (A.eq x0_3 0) (Ag D (Ω 109) [sv x0_4] [] [.b,.E] λb=>br b (Ag D (Ω 109) [sv x0_5] [] [.b,.E] y3) y1) y1) y1) y1) (Ag D
 (Ω 45) y2 [] [.b,.E] y3)):=by kernel_rfl
theorem e74(x0_0:Int)(x0_1 x0_2:Rw)(x0_3:Int)(x0_4 x0_5:ByteArray)(x0_6:Rw)(x1:Int):Bp A D Ah Agb .n 74 Akj [Φ [iv x0_0,Ξ x0_1,Ξ x0_2,iv x0_3,sv x0_4,sv x0_5,Ξ x0_6],iv x1] [] =
 Ag D (Ω 132) [iv x0_0] [] [.i,.E] λn=>let y3:=V (bv Θ,[]);br (A.eq (↑(AU x0_6)) n) (let y1:=[iv x0_0,Ξ x0_1,Ξ x0_2,iv x0_3,sv x0_4,sv x0_5,Ξ x0_6];br (A.eq n 0) (Ag D (Ω 133)
 [Φ y1] [] [.b,.E] λb=>br b (V (bv U,[])) y3)
 (let y2:=λz1 z2 z3=>br (Bf 0 z1) (dk [.B,.N,.D,.E] [.l z2,.o z3] λb1=>V (bv b1,[])) (br (Bf 1 z1) (dk [.N,.D,.E,.w] [.l z2,.o z3] λ_=>V (bv U,[])) Δ);br (A.eq n 1) (br (A.lt 60 (A.add
 φ x1 1)) y3 (Ag D (Ω 45) [Φ y1] [] [.b,.E] λb=>br b (Ag D (Awq 74 0) [iv (A.add φ x1 1),ψ 0 0,Ξ x0_6,iv ↑(AU x0_6),iv 0] [bk y1] [.t,.C,.x,.X,.Y] y2) y3)) (br (A.lt
 60 x1) y3 (Ag D (Ω 45) [Φ y1] [] [.b,.E] λb=>br b (Ag D (Awq 74 0) [iv x1,ψ 0 0,Ξ x0_6,iv ↑(AU x0_6),iv 0] [bk y1] [.t,.C,.x,.X,.Y] y2) y3)))) y3:=by kernel_rfl
theorem AlQ(t1 b2_0:Int)(b2_1 b2_2:Rw)(b2_3:Int)(b2_4 b2_5:ByteArray)(b2_6 t33:Rw)(t34 t35:Int):DI A D Ah Agb .n 74 0 (AK Akj 0).fst (AK Akj 0).snd [iv t1,ψ 0 0,Ξ t33,iv t34,iv t35] [bk [iv b2_0,Ξ b2_1,Ξ b2_2,iv b2_3,sv b2_4,sv b2_5,Ξ b2_6]] =
 br (A.lt t35 t34) (unI t35 λi=>Bt t33 i λcs=>dk [.I,.L,.L,.I,.S,.S,.L,.N] [.l cs] λn xs xs1 n1 s s1 xs2=>let y2:=[iv n,Ξ xs,Ξ xs1,iv n1,sv s,sv s1,Ξ xs2];Ag D (Ω 134) [iv b2_0,
 iv t35,Φ y2] [] [.b,.E] λb=>let y3:=V (γ [bv U,bv Θ],[BO.del]);
 let y1:=λz1=>br z1 (let y4:=bk [iv b2_0,Ξ b2_1,Ξ b2_2,iv b2_3,sv b2_4,sv b2_5,Ξ b2_6];AN D (Awq 74 0) [iv t1,ψ 0 0,Ξ t33,iv t34,iv (A.add φ t35 1)] [y4] λr2 o2=>AO 1 [0] (AH.mk [(0,y4),(1,bk y2)] 2 Δ) [0] r2 o2) y3;
 br b (br (A.lt 60 (A.add φ t1 1)) y3 (Ag D (Ω 74) [Φ y2,iv (A.add φ t1 1)] [] [.b,.E] y1)) (br (A.lt 60 t1) y3 (Ag D (Ω 74) [Φ y2,iv t1] [] [.b,.E] y1))) (V (γ [iv 0],
 [BO.del])):=by kernel_rfl
theorem e36(x0_0:Int)(x0_1 x0_2:Rw)(x0_3:Int)(x0_4 x0_5:ByteArray)(x0_6:Rw):Bp A D Ah Arp .n 36 Asl [Φ [iv x0_0,Ξ x0_1,Ξ x0_2,iv x0_3,sv x0_4,sv x0_5,Ξ x0_6]] [] =
 Ag D (Ω 74) [Φ [iv x0_0,Ξ x0_1,Ξ x0_2,iv x0_3,sv x0_4,sv x0_5,Ξ x0_6],iv 0] [] [.b,.E] λb=>
 br b
 (V ((bv U,[])))
 (V ((bv Θ,[]))):=by kernel_rfl
end
section
open Go.RowKit
def Aa1:MFn:=BL [⟨21,(mB 9),[],[],[(1,((mB 9),([],[])))]⟩] 204
def Wm:Hnt:=⟨[],[(0,[(1,(Rr,[]))])],[(12,[.int .u32]),(13,[.int .u32])]⟩
def An7:MFn:=BL [] 200
def AmJ:Hnt:=⟨[(204,(.ls,[])),(240,(.sl 0 1,[.row U]))],[],[]⟩
def AnP:MFn:=BL [] 146
def Amn:Hnt:=⟨[(200,(.ls,[]))],[],[]⟩
def Aa2:MFn:=BL [⟨49,(mB 35),[],[],[(0,((mB 16),([],[]))),(2,([],([],[])))]⟩] 205
def Wn:Hnt:=⟨[(204,(.ls,[]))],[(0,[(0,([.int .i64],[])),(2,([],[]))])],[(32,[.int .u32]),(33,[.int .u32]),(36,[.int .u32]),(37,[.int .u32]),(42,[.int .u32]),(43,[.int .u32]),(46,[.int .u32]),(47,[.int .u32])]⟩
def AaR:MFn:=BL [⟨61,(mB 234881122),[(5,1)],[],[(1,((mB 96),([],[])))]⟩] 149
def We:Hnt:=⟨[(200,(.ls,[])),(204,(.ls,[]))],[(0,[(1,([.sl 1 1,.int .u64],[.del,.row U]))])],[(30,[.int .u32]),(31,[.int .u32]),(43,[.int .u32]),(44,[.int .u32])]⟩
def AaS:MFn:=BL [⟨59,(mB 58720450),[(6,1)],[],[(1,((mB 64),([],[])))]⟩] 150
def Wf:Hnt:=⟨[(200,(.ls,[])),(204,(.ls,[])),(205,(.int .i64,[]))],[(0,[(1,([.sl 1 1],[.del,.row U]))])],[(28,[.int .u32]),(29,[.int .u32]),(38,[.int .u32]),(39,[.int .u32])]⟩
def S9:MFn:=BL [⟨68,(mB 1835042),[],[],[(1,((mB 32),([],[])))]⟩,⟨68,(mB 236716514),[],[],[(3,((mB 1835362),([],[])))]⟩] 282
def OM:Hnt:=⟨[(200,(.ls,[]))],[(0,[(1,([.sl 1 1],[.del,.row U]))]),(1,[(3,([.ls,.sl 1 1,.int .i64,.int .u64,.ls,.int .i64,.int .i64],[.del,.row U]))])],[(23,[.int .u32]),(24,[.int .u32]),(30,[.int .u32]),(31,[.int .u32]),(41,[.int .u32]),(42,[.int .u32]),(53,[.int .u32]),(64,[.int .u32])]⟩
def Aou:MFn:=BL [] 275
def Am5:Hnt:=⟨[(204,(.ls,[])),(282,(.ls,[])),(283,(.ls,[]))],[],[]⟩
def An9:MFn:=BL [] 202
def Af6:Hnt:=⟨[],[],[]⟩
def Aa0:MFn:=BL [⟨47,(mB 1835394),[(7,1)],[],[(1,((mB 384),([],[])))]⟩] 203
def SI:Hnt:=⟨[],[(0,[(1,([.sl 1 1,.int .u64],[.del,.row U]))])],[(22,[.int .u32]),(23,[.int .u32])]⟩
def S5:MFn:=BL [⟨49,(mB 786545),[],[],[(0,((mB 12),([2],[]))),(2,((mB 112),([4],[])))]⟩] 148
def Jl:Hnt:=⟨[(200,(.ls,[])),(202,(.tup [.int .u32,.bool],[])),(203,(.ls,[]))],[(0,[(0,(Rr,[])),(2,([.ls,.int .u32,.int .u32],[]))])],[]⟩
def O1:List (Nat × MFn):=[(204,Aa1),(200,An7),(146,AnP),(205,Aa2),(149,AaR),(150,AaS),(282,S9),(275,Aou),(202,An9),(203,Aa0),(148,S5)]
variable (A:Ar) (D:Orc)
theorem Auu(x0:Rw):Bp A D Ah Wm .n 204 Aa1 [Ξ x0] [] =
 Ag D (Awq 204 0) [Ξ x0,iv ↑(AU x0)] [] [.t,.C,.x,.X,.Y] λc l o=>
 br (Bf 1 c)
 (dk [.L,.I,.N,.E] [.l l,.o o] λxs n=>
 unI n λi=>
 br (Lr 0 i (AU xs)) (br (Hk 1 xs) (V ((Ξ (JJ (Kz xs i) 0),[]))) Δ) Δ)
 (Δ):=by kernel_rfl
theorem Afd(t0:Rw)(t3:Int):DI A D Ah Wm .n 204 0 (AK Aa1 0).fst (AK Aa1 0).snd [Ξ t0,iv t3] [] =
 br (A.lt 0 t3)
 (unI (A.sub φ t3 1) λi=>
 Bt t0 i λcs=>
 dk [.J .u32,.N] [.l cs] λn=>
 br (A.eq n 0)
 (AN D (Awq 204 0) [Ξ t0,iv (A.sub φ t3 1)] [] λr o=>
 AO 0 [] (AH.mk [] 0 Δ) [] r o)
 (V ((γ [iv 0,Ξ t0,iv t3],[]))))
 (V ((γ [iv 0,Ξ t0,iv t3],[]))):=by kernel_rfl
theorem Aus(x0:Rw):Bp A D Ah AmJ .n 200 An7 [Ξ x0] [] =
 Ag D (Ω 204) [Ξ x0] [] [.l,.E] λxs=>
 Ag D (Ω 240) [Ξ xs] [] [.q 0 1,.R,.X,.E] λn cs=>
 br ((0+n*1).ble cs.length) (V ((Ξ (By n 1 (Aws (n*1) cs)),[]))) Δ:=by kernel_rfl
theorem AtV(x0:Int):Bp A D Ah Amn .n 146 AnP [AwB (Value.int ι x0)] [] =
 br (A.lt 32 0)
 (Δ)
 (Ag D (Ω 200) [Ξ [[AwB (Value.int ν (A.conv ν x0))],[AwB (Value.int ν (A.conv ν (A.shr ι x0 32)))]]] [] [.l,.E] λxs=>
 V ((Ξ xs,[]))):=by kernel_rfl
theorem Auv(x0 x1:Rw):Bp A D Ah Wn .n 205 Aa2 [Ξ x0,Ξ x1] [] =
 Ag D (Ω 204) [Ξ x0] [] [.l,.E] λxs=>
 Ag D (Ω 204) [Ξ x1] [] [.l,.E] λxs1=>
 br (A.lt ↑(AU xs) ↑(AU xs1))
 (V ((iv (-1),[])))
 (br (A.lt ↑(AU xs1) ↑(AU xs))
 (V ((iv 1,[])))
 (Ag D (Awq 205 0) [Ξ xs,Ξ xs1,iv (A.sub φ (↑(AU xs)) 1)] [] [.t,.C,.x,.X,.Y] λc l o2=>
 br (Bf 0 c)
 (dk [.I,.N,.E] [.l l,.o o2] λn=>
 V ((iv n,[])))
 (br (Bf 2 c)
 (Dp l<|
 CG o2<|
 V ((iv 0,[])))
 (Δ)))):=by kernel_rfl
theorem Afe(t0 t1:Rw)(t5:Int):DI A D Ah Wn .n 205 0 (AK Aa2 0).fst (AK Aa2 0).snd [Ξ t0,Ξ t1,iv t5] [] =
 br (A.le 0 t5)
 (unI t5 λi=>
 Bt t0 i λcs=>
 dk [.J .u32,.N] [.l cs] λn=>
 unI t5 λi1=>
 Bt t1 i1 λcs1=>
 dk [.J .u32,.N] [.l cs1] λn1=>
 br (A.lt n n1)
 (V ((γ [bv U,iv (-1)],[])))
 (unI t5 λi2=>
 Bt t0 i2 λcs2=>
 dk [.J .u32,.N] [.l cs2] λn2=>
 unI t5 λi3=>
 Bt t1 i3 λcs3=>
 dk [.J .u32,.N] [.l cs3] λn3=>
 br (A.lt n3 n2)
 (V ((γ [bv U,iv 1],[])))
 (AN D (Awq 205 0) [Ξ t0,Ξ t1,iv (A.sub φ t5 1)] [] λr o=>
 AO 0 [] (AH.mk [] 0 Δ) [] r o)))
 (V ((γ [iv 1],[]))):=by kernel_rfl
theorem AtY(x0 x1:Rw):Bp A D Ah We .n 149 AaR [Ξ x0,Ξ x1] [] =
 Ag D (Ω 204) [Ξ x0] [] [.l,.E] λxs=>Ag D (Ω 204) [Ξ x1] [] [.l,.E] λxs1=>
 let y1:=λz1 z2=>unI (A.add φ (↑(AU z1)) 1) λi=>br (Bh i 4) (AN D (Awq 149 0) [Ξ z2,ο 0 0 0 1,AwB (Value.int ι 0),Ξ z1,iv ↑(AU z1),iv 0] [θ [] U U] λr2 o2=>dk [.t,.C,.x,.X] [.v r2] λc l=>br (Bf 1 c) (dk [.C,.q 1 1,.J .u64,.N,.D,.R,.X,.E] [.l l,.o o2] λn n1 cs1=>br (Bh (n+1) 4) (br ((0+n*1).ble cs1.length) (br ((0+(n+1)*1).ble (Awv 0 (Aws (0+n*1) cs1)++[AwB (Value.int ν (A.conv ν n1))]).length) (AN D (Ω 200) [Ξ (By (n+1) 1 (Aws ((n+1)*1) (Awv 0 (Awv 0 (Aws (0+n*1) cs1)++[AwB (Value.int ν (A.conv ν n1))]))))] [] λr3 o3=>dk [.l,.E] [.v r3,.o o3] λxs2=>V (Ξ xs2,[])) Δ) Δ) Δ) Δ) Δ;
 br (A.lt ↑(AU xs) ↑(AU xs1)) (y1 xs1 xs) (y1 xs xs1):=by kernel_rfl
theorem Ae1(t1:Rw)(n5:Nat)(c5:Ad)(t6:Int)(t25:Rw)(t26 t27:Int):DI A D Ah We .n 149 0 (AK AaR 0).fst (AK AaR 0).snd [Ξ t1,ο 0 0 n5 1,AwB (Value.int ι t6),Ξ t25,iv t26,iv t27] [{ cells:=c5,st:=U,ex:=U }] =
 br (A.lt t27 t26) (unI t27 λi=>Bt t25 i λcs=>dk [.J .u32,.N] [.l cs] λn=>let y1:=A.add ι (A.conv ι n) t6;
 let y5:=λz1 z2=>AN D (Awq 149 0) [Ξ t1,ο 0 0 (n5+1) 1,AwB (Value.int ι (A.shr ι z1 32)),Ξ t25,iv t26,iv (A.add φ t27 1)] [z2] λr o=>AO 1 [2] (AH.mk [(2,z2),(1,θ [AwB (Value.int ν (A.conv ν z1))] U U)] 3 Δ) [0] r o;
 let y6:=λz1=>θ (Awv 0 (Aws (0+n5*1) c5)++[AwB (Value.int ν (A.conv ν z1))]) U U;br (A.lt t27 ↑(AU t1)) (unI t27 λi1=>Bt t1 i1 λcs1=>dk [.J .u32,.N] [.l
 cs1] λn1=>br (Bh (n5+1) 4) (br ((0+n5*1).ble c5.length) (br (A.lt 32 0) Δ (let y4:=A.add ι y1 (A.conv ι n1);let y2:=y6 y4;y5 y4 y2)) Δ) Δ) (br (Bh (n5+1) 4) (br ((0+n5 *
 1).ble c5.length) (br (A.lt 32 0) Δ (let y3:=y6 y1;y5 y1 y3)) Δ) Δ)) (V (γ [iv 0,ο 1 0 n5 1,AwB (Value.int ι t6)],[BO.del,Awp (θ c5 U U)])):=by kernel_rfl
theorem AtZ(x0 x1:Rw):Bp A D Ah Wf .n 150 AaS [Ξ x0,Ξ x1] [] =
 Ag D (Ω 204) [Ξ x0] [] [.l,.E] λxs=>
 Ag D (Ω 204) [Ξ x1] [] [.l,.E] λxs1=>
 Ag D (Ω 205) [Ξ xs,Ξ xs1] [] [.i,.E] λn=>
 br (A.lt n 0)
 (V ((γ [Ξ [],bv Θ],[])))
 (br (Bh (AU xs) 4) (AN D (Awq 150 0) [Ξ xs1,ο 0 0 0 1,AwB (Value.int ι 0),Ξ xs,iv ↑(AU xs),iv 0] [θ [] U U] λr3 o3=>
 dk [.t,.C,.x,.X] [.v r3] λc l=>
 br (Bf 1 c)
 (dk [.C,.q 1 1,.N,.D,.R,.X,.E] [.l l,.o o3] λn1 cs1=>
 br ((0+n1*1).ble cs1.length) (AN D (Ω 200) [Ξ (By n1 1 (Aws (n1*1) cs1))] [] λr4 o4=>
 NA r4 λxs2=>
 CG o4<|
 V ((γ [Ξ xs2,bv U],[]))) Δ)
 (Δ)) Δ):=by kernel_rfl
theorem Ae2(t1:Rw)(n6:Nat)(c6:Ad)(t7:Int)(t23:Rw)(t24 t25:Int):DI A D Ah Wf .n 150 0 (AK AaS 0).fst (AK AaS 0).snd [Ξ t1,ο 0 0 n6 1,AwB (Value.int ι t7),Ξ t23,iv t24,iv t25] [{ cells:=c6,st:=U,ex:=U }] =
 br (A.lt t25 t24) (unI t25 λi=>Bt t23 i λcs=>dk [.J .u32,.N] [.l cs] λn=>let y5:=[Ξ t1,ο 0 0 (n6+1) 1,AwB (Value.int ι 1),Ξ t23,iv t24,iv (A.add φ t25 1)];
 let y6:=[Ξ t1,ο 0 0 (n6+1) 1,AwB (Value.int ι 0),Ξ t23,iv t24,iv (A.add φ t25 1)];let y9:=A.add ι (A.conv ι n) 4294967296;br (A.lt t25 ↑(AU t1)) (unI t25 λi1
 =>Bt t1 i1 λcs1=>dk [.J .u32,.N] [.l cs1] λn1=>let y8:=A.add ι t7 (A.conv ι n1);br (A.lt (A.conv ι n) y8) (br (Bh (n6+1) 4) (br ((0+n6*1).ble c6.length)
 (let y1:=A.conv ν (A.sub ι y9 y8);let y7:=θ (Awv 0 (Aws (0+n6*1) c6)++[AwB (Value.int ν y1)]) U U;AN D (Awq 150 0) y5 [y7] λr o=>AO 1 [2] (AH.mk
 [(2,y7),(1,θ [AwB (Value.int ν y1)] U U)] 3 Δ) [0] r o) Δ) Δ) (br (Bh (n6+1) 4) (br ((0+n6*1).ble c6.length)
 (let y2:=θ (Awv 0 (Aws (0+n6*1) c6)++[AwB (Value.int ν (A.conv ν (A.sub ι (A.conv ι n) y8)))]) U U;AN D (Awq 150 0) y6 [y2] λr o=>AO 1 [2]
 (AH.mk [(2,y2),(1,θ [AwB (Value.int ν (A.conv ν (A.sub ι (A.conv ι n) y8)))] U U)] 3 Δ) [0] r o) Δ) Δ)) (br (A.lt (A.conv ι n) t7) (br (Bh (n6+1) 4)
 (br ((0+n6*1).ble c6.length) (let y3:=θ (Awv 0 (Aws (0+n6*1) c6)++[AwB (Value.int ν (A.conv ν (A.sub ι y9 t7)))]) U U;AN D (Awq 150 0) y5 [y3] λr o=>
 AO 1 [2] (AH.mk [(2,y3),(1,θ [AwB (Value.int ν (A.conv ν (A.sub ι y9 t7)))] U U)] 3 Δ) [0] r o) Δ) Δ) (br (Bh (n6+1) 4) (br ((0+n6*1).ble c6.length)
 (let y4:=θ (Awv 0 (Aws (0+n6*1) c6)++[AwB (Value.int ν (A.conv ν (A.sub ι (A.conv ι n) t7)))]) U U;AN D (Awq 150 0) y6 [y4] λr o=>AO 1 [2]
 (AH.mk [(2,y4),(1,θ [AwB (Value.int ν (A.conv ν (A.sub ι (A.conv ι n) t7)))] U U)] 3 Δ) [0] r o) Δ) Δ))) (V (γ [iv 0,ο 1 0 n6 1],[BO.del,Awp
 (θ c6 U U)])):=by kernel_rfl
theorem Au8(x0 x1:Rw):Bp A D Ah OM .n 282 S9 [Ξ x0,Ξ x1] [] =
 unI (A.add φ ↑(AU x0) ↑(AU x1)) λi=>
 unI (A.add φ ↑(AU x0) ↑(AU x1)) λi1=>
 br (i.ble i1) (br (Bh i1 4) (AN D (Awq 282 0) [Ξ x1,ο 0 0 i 1,Ξ x0,iv ↑(AU x0),iv 0] [θ (Cx [AwB (Value.int ν 0)] (i*1)) U U] λr o=>
 dk [.t,.C,.x,.X] [.v r] λc l=>
 br (Bf 1 c)
 (dk [.C,.q 1 1,.N,.D,.R,.X,.E] [.l l,.o o] λn cs1=>
 br ((0+n*1).ble cs1.length) (AN D (Ω 200) [Ξ (By n 1 (Aws (n*1) cs1))] [] λr1 o1=>
 NA r1 λxs=>
 CG o1<|
 V ((Ξ xs,[]))) Δ)
 (Δ)) Δ) Δ:=by kernel_rfl
theorem Aft(t1:Rw)(n5:Nat)(c5:Ad)(t18:Rw)(t19 t20:Int):DI A D Ah OM .n 282 0 (AK S9 0).fst (AK S9 0).snd [Ξ t1,ο 0 0 n5 1,Ξ t18,iv t19,iv t20] [{ cells:=c5,st:=U,ex:=U }] =
 br (A.lt t20 t19) (unI t20 λi=>Bt t18 i λcs=>dk [.J .u32,.N] [.l cs] λn=>Ag D (Awq 282 1) [Ξ t1,ο 0 0 n5 1,iv t20,AwB (Value.int ν n),AwB (Value.int ι 0),Ξ t18,iv
 t19,iv t20,Ξ t1,iv ↑(AU t1),iv 0] [θ c5 U U] [.t,.C,.x,.X,.Y] λc l1 o=>br (Bf 3 c) (dk [.L,.C,.q 1 1,.I,.J .u64,.L,.I,.I,.N,.D,.R,.X,.E] [.l l1,.o o] λxs n1 n2 n3 xs1 n4 n6 cs2=>
 unI (A.add φ n2 ↑(AU xs)) λi1=>br (i1.blt n1) (br ((0+i1*1+1).ble cs2.length) (let y1:=θ (Bq cs2 (0+i1*1) [AwB (Value.int ν (A.conv ν n3))]) U U;AN D (Awq
 282 0) [Ξ xs,ο 0 0 n1 1,Ξ xs1,iv n4,iv (A.add φ n6 1)] [y1] λr1 o1=>AO 1 [1] (AH.mk [(1,y1)] 2 Δ) [0] r1 o1) Δ) Δ) Δ) (V (γ [iv 0,ο 1 0 n5 1],[BO.del,Awp (θ
 c5 U U)])):=by kernel_rfl
theorem Afu(t1:Rw)(n5:Nat)(c5:Ad)(t6 t7 t8:Int)(t18:Rw)(t19 t20:Int)(t25:Rw)(t26 t27:Int):DI A D Ah OM .n 282 1 (AK S9 1).fst (AK S9 1).snd [Ξ t1,ο 0 0 n5 1,iv t6,AwB (Value.int ν t7),AwB (Value.int ι t8),Ξ t18,iv t19,iv t20,Ξ t25,iv t26,iv t27] [{ cells:=c5,st:=U,ex:=U }] =
 br (A.lt t27 t26) (unI t27 λi=>Bt t25 i λcs=>dk [.J .u32,.N] [.l cs] λn=>unI (A.add φ t6 t27) λi1=>br (i1.blt n5) (I5 c5 (0+i1*1) 1 λcs1=>dk [.J .u32,.N] [.l cs1] λn1=>unI (A.add
 φ t6 t27) λi2=>br (i2.blt n5) (br ((0+i2*1+1).ble c5.length) (br (A.lt 32 0) Δ
 (let y1:=A.add ι (A.add ι (A.mul ι (A.conv ι t7) (A.conv ι n)) (A.conv ι n1)) t8;
 let y2:=θ (Bq c5 (0+i2*1) [AwB (Value.int ν (A.conv ν y1))]) U U;AN D (Awq 282 1) [Ξ t1,ο 0 0 n5 1,iv t6,AwB (Value.int ν t7),AwB (Value.int ι
 (A.shr ι y1 32)),Ξ t18,iv t19,iv t20,Ξ t25,iv t26,iv (A.add φ t27 1)] [y2] λr o=>AO 1 [0] (AH.mk [(0,y2)] 1 Δ) [0] r o)) Δ) Δ) Δ) (V (γ [iv 2,Ξ t1,ο 1 0 n5
 1,iv t6,AwB (Value.int ι t8),Ξ t18,iv t19,iv t20],[BO.del,Awp (θ c5 U U)])):=by kernel_rfl
theorem Au3(x0 x1:Rw):Bp A D Ah Am5 .n 275 Aou [Ξ x0,Ξ x1] [] =
 Ag D (Ω 204) [Ξ x0] [] [.l,.E] λxs=>Ag D (Ω 204) [Ξ x1] [] [.l,.E] λxs1=>let y1:=Ag D (Ω 282) [Ξ xs,Ξ xs1] [] [.l,.E] λxs2=>V (Ξ xs2,[]);br (A.lt (↑(AU xs)) 24)
 y1 (br (A.lt (↑(AU xs1)) 24) y1 (Ag D (Ω 283) [Ξ xs,Ξ xs1] [] [.l,.E] λxs2=>V (Ξ xs2,[]))):=by kernel_rfl
theorem Ara(x0:Int):Bp A D Ah Af6 .n 202 An9 [AwB (Value.int Ayu x0)] [] =
 let y1:=V (γ [AwB (Value.int ν (A.conv ν (A.sub Ayu x0 48))),bv Θ],[]);br (A.le 48 x0) (br (A.le x0 57) (V (γ [AwB (Value.int ν (A.conv ν (A.sub Ayu
 x0 48))),bv U],[])) y1) y1:=by kernel_rfl
theorem Arb(x0:Rw)(x1 x2:Int):Bp A D Ah SI .n 203 Aa0 [Ξ x0,AwB (Value.int ν x1),AwB (Value.int ν x2)] [] =
 unI (A.add φ (↑(AU x0)) 1) λi=>
 br (Bh i 4) (AN D (Awq 203 0) [AwB (Value.int ν x1),ο 0 0 0 1,AwB (Value.int ι (A.conv ι x2)),Ξ x0,iv ↑(AU x0),iv 0] [θ [] U U] λr o=>
 dk [.t,.C,.x,.X] [.v r] λc l=>
 br (Bf 1 c)
 (dk [.C,.q 1 1,.J .u64,.N,.D,.R,.X,.E] [.l l,.o o] λn n1 cs1=>
 br (A.lt 0 n1)
 (br (Bh (n+1) 4) (br ((0+n*1).ble cs1.length) (br ((0+(n+1)*1).ble (Awv 0 (Aws (0+n*1) cs1)++[AwB (Value.int ν (A.conv ν n1))]).length) (V ((Ξ (By (n+1) 1 (Aws ((n+1)*1) (Awv 0 (Awv 0 (Aws (0+n*1) cs1)++[AwB (Value.int ν (A.conv ν n1))])))),[]))) Δ) Δ) Δ)
 (br ((0+n*1).ble cs1.length) (V ((Ξ (By n 1 (Aws (n*1) cs1)),[]))) Δ))
 (Δ)) Δ:=by kernel_rfl
theorem Afc(t1:Int)(n7:Nat)(c7:Ad)(t8:Int)(t18:Rw)(t19 t20:Int):DI A D Ah SI .n 203 0 (AK Aa0 0).fst (AK Aa0 0).snd [AwB (Value.int ν t1),ο 0 0 n7 1,AwB (Value.int ι t8),Ξ t18,iv t19,iv t20] [{ cells:=c7,st:=U,ex:=U }] =
 br (A.lt t20 t19) (unI t20 λi=>Bt t18 i λcs=>dk [.J .u32,.N] [.l cs] λn=>br (Bh (n7+1) 4) (br ((0+n7*1).ble c7.length) (br (A.lt 32 0) Δ
 (let y1:=A.add ι (A.mul ι (A.conv ι n) (A.conv ι t1)) t8;let y2:=θ (Awv 0 (Aws (0+n7*1) c7)++[AwB (Value.int ν (A.conv ν y1))]) U U;
 AN D (Awq 203 0) [AwB (Value.int ν t1),ο 0 0 (n7+1) 1,AwB (Value.int ι (A.shr ι y1 32)),Ξ t18,iv t19,iv (A.add φ t20 1)] [y2] λr o=>AO 1 [2] (AH.mk [(2,y2),
 (1,θ [AwB (Value.int ν (A.conv ν y1))] U U)] 3 Δ) [0] r o)) Δ) Δ) (V (γ [iv 0,ο 1 0 n7 1,AwB (Value.int ι t8)],[BO.del,Awp (θ c7 U U)])):=by kernel_rfl
theorem AtX(x0:ByteArray):Bp A D Ah Jl .n 148 S5 [sv x0] [] =
 br (A.lt 4000 ↑(A.slen x0))
 (V ((γ [Ξ [],iv 2],[])))
 (br (A.seq x0 (Ai []))
 (V ((γ [Ξ [],iv 20],[])))
 (Ag D (Awq 148 0) [sv x0,AwB (Value.slice Δ 0 0),AwB (Value.int ν 0),AwB (Value.int ν 1),iv ↑(A.slen x0),iv 0] [] [.t,.C,.x,.X,.Y] λc l o=>
 br (Bf 0 c)
 (dk [.L,.I,.N,.E] [.l l,.o o] λxs n=>
 V ((γ [Ξ xs,iv n],[])))
 (br (Bf 2 c)
 (dk [.L,.J .u32,.J .u32,.N,.E] [.l l,.o o] λxs n n1=>
 Ag D (Ω 203) [Ξ xs,AwB (Value.int ν n1),AwB (Value.int ν n)] [] [.l,.E] λxs1=>
 Ag D (Ω 200) [Ξ xs1] [] [.l,.E] λxs2=>
 V ((γ [Ξ xs2,iv 0],[])))
 (Δ)))):=by kernel_rfl
theorem Uj(t0:ByteArray)(t4:Rw)(t5 t6 t18 t19:Int):DI A D Ah Jl .n 148 0 (AK S5 0).fst (AK S5 0).snd [sv t0,Ξ t4,AwB (Value.int ν t5),AwB (Value.int ν t6),iv t18,iv t19] [] =
 br (A.lt t19 t18)
 (unI t19 λi=>
 br (i.blt (A.slen t0)) (AN D (Ω 202) [AwB (Value.int Ayu (A.sat t0 i))] [] λr o=>
 dk [.t,.J .u32,.B,.N,.E] [.v r,.o o] λn b=>
 br (A.not b)
 (V ((γ [bv U,Ξ [],iv 20],[])))
 (br (A.eq (A.mul ν t6 10) 1000000000)
 (Ag D (Ω 203) [Ξ t4,AwB (Value.int ν (A.mul ν t6 10)),AwB (Value.int ν (A.add ν (A.mul ν t5 10) n))] [] [.l,.E] λxs=>
 AN D (Awq 148 0) [sv t0,Ξ xs,AwB (Value.int ν 0),AwB (Value.int ν 1),iv t18,iv (A.add φ t19 1)] [] λr2 o2=>
 AO 0 [] (AH.mk [] 0 Δ) [] r2 o2)
 (AN D (Awq 148 0) [sv t0,Ξ t4,AwB (Value.int ν (A.add ν (A.mul ν t5 10) n)),AwB (Value.int ν (A.mul ν t6 10)),iv t18,iv (A.add φ t19 1)] [] λr1 o1=>
 AO 0 [] (AH.mk [] 0 Δ) [] r1 o1))) Δ)
 (V ((γ [iv 1,Ξ t4,AwB (Value.int ν t5),AwB (Value.int ν t6)],[]))):=by kernel_rfl
theorem PC(t0:ByteArray)(t5 t6 t18 t19:Int):DI A D Ah Jl .n 148 0 (AK S5 0).fst (AK S5 0).snd [sv t0,AwB (Value.slice Δ 0 0),AwB (Value.int ν t5),AwB (Value.int ν t6),iv t18,iv t19] [] =
 br (A.lt t19 t18)
 (unI t19 λi=>
 br (i.blt (A.slen t0)) (AN D (Ω 202) [AwB (Value.int Ayu (A.sat t0 i))] [] λr o=>
 dk [.t,.J .u32,.B,.N,.E] [.v r,.o o] λn b=>
 br (A.not b)
 (V ((γ [bv U,Ξ [],iv 20],[])))
 (br (A.eq (A.mul ν t6 10) 1000000000)
 (Ag D (Ω 203) [Ξ [],AwB (Value.int ν (A.mul ν t6 10)),AwB (Value.int ν (A.add ν (A.mul ν t5 10) n))] [] [.l,.E] λxs=>
 AN D (Awq 148 0) [sv t0,Ξ xs,AwB (Value.int ν 0),AwB (Value.int ν 1),iv t18,iv (A.add φ t19 1)] [] λr2 o2=>
 AO 0 [] (AH.mk [] 0 Δ) [] r2 o2)
 (AN D (Awq 148 0) [sv t0,AwB (Value.slice Δ 0 0),AwB (Value.int ν (A.add ν (A.mul ν t5 10) n)),AwB (Value.int ν (A.mul ν t6 10)),iv t18,iv (A.add φ t19 1)] [] λr1 o1=>
 AO 0 [] (AH.mk [] 0 Δ) [] r1 o1))) Δ)
 (V ((γ [iv 1,Ξ [],AwB (Value.int ν t5),AwB (Value.int ν t6)],[]))):=by kernel_rfl
end
section
open Go.RowKit
def AnO:MFn:=BL [] 145
def Amm:Hnt:=⟨[(200,(.ls,[]))],[],[]⟩
def Aoa:MFn:=BL [] 209
def AmM:Hnt:=⟨[(145,(.agg BD,[]))],[],[(4,[.bool]),(6,[.ls])]⟩
def AsB:MFn:=BL [] 84
def ArD:Hnt:=⟨[(145,(.agg BD,[])),(146,(.ls,[]))],[],[]⟩
def AsD:MFn:=BL [] 86
def ArF:Hnt:=⟨[(145,(.agg BD,[]))],[],[(4,[.bool]),(7,[.ls])]⟩
def AnS:MFn:=BL [] 158
def Amu:Hnt:=⟨[(209,(.agg BD,[]))],[],[(3,BD),(7,[.bool]),(10,[.ls])]⟩
def Aoz:MFn:=BL [] 285
def Ana:Hnt:=⟨[(158,(.int .i64,[])),(205,(.int .i64,[]))],[],[(7,BD),(9,BD),(23,[.ls]),(25,[.ls]),(28,[.ls]),(30,[.ls])]⟩
def AsE:MFn:=BL [] 87
def ArG:Hnt:=⟨[(145,(.agg BD,[])),(149,(.ls,[])),(150,(.tup [.ls,.bool],[]))],[],[(10,[.bool]),(12,[.bool]),(15,[.bool]),(17,[.ls]),(19,[.ls]),(24,[.ls]),(26,[.ls]),(32,[.bool]),(37,[.ls]),(39,[.ls]),(44,[.bool])]⟩
def Aop:MFn:=BL [] 264
def Am0:Hnt:=⟨[(145,(.agg BD,[])),(275,(.ls,[]))],[],[(6,[.bool]),(8,[.bool]),(11,[.ls]),(13,[.ls])]⟩
def AsC:MFn:=BL [] 85
def ArE:Hnt:=⟨[(145,(.agg BD,[])),(147,(.tup [.str,.bool],[])),(148,(.tup Rr,[]))],[],[]⟩
def AnQ:MFn:=BL [] 147
def Amo:Hnt:=⟨[(201,(.tup [.str,.bool],[]))],[],[]⟩
def An8:MFn:=BL [] 201
def AmK:Hnt:=⟨[(241,(.bool,[]))],[],[]⟩
def Aok:MFn:=BL [] 241
def AmW:Hnt:=⟨[],[],[]⟩
def XQ:List (Nat × MFn):=[(145,AnO),(209,Aoa),(84,AsB),(86,AsD),(158,AnS),(285,Aoz),(87,AsE),(264,Aop),(85,AsC),(147,AnQ),(201,An8),(241,Aok)]
variable (A:Ar) (D:Orc)
theorem AtU(x0:Bool)(x1:Rw):Bp A D Ah Amm (.b (.t (.t (.b (.t .n) (.t .n)))) (.f (.f (.f .n)))) 145 AnO [bv x0,Ξ x1] [] =
 Ag D (Ω 200) [Ξ x1] [] [.l,.E] λxs=>
 br x0
 (br x0 (br x0 (br (A.lt 0 ↑(AU xs))
 (br x0 (V ((Φ [bv U,Ξ xs],[]))) Δ)
 (br x0 (V ((Φ [bv Θ,Ξ xs],[]))) Δ)) Δ) Δ)
 (br x0 Δ (br x0 Δ (br x0 Δ (V ((Φ [bv Θ,Ξ xs],[])))))):=by kernel_rfl
theorem Auz(x0_0:Bool)(x0_1:Rw):Bp A D Ah AmM .n 209 Aoa [Φ [bv x0_0,Ξ x0_1]] [] =
 Ag D (Ω 145) [bv x0_0,Ξ x0_1] [] [.a,.B,.L,.N,.E] λb xs=>
 V ((Φ [bv b,Ξ xs],[])):=by kernel_rfl
theorem e84(x0:Int):Bp A D Ah ArD .n 84 AsB [iv x0] [] =
 br (A.lt x0 0)
 (Ag D (Ω 146) [AwB (Value.int ι (A.add ι (A.conv ι (A.sub φ 0 (A.add φ x0 1))) 1))] [] [.l,.E] λxs=>
 Ag D (Ω 145) [bv U,Ξ xs] [] [.a,.B,.L,.N,.E] λb xs1=>
 V ((Φ [bv b,Ξ xs1],[])))
 (Ag D (Ω 146) [AwB (Value.int ι (A.conv ι x0))] [] [.l,.E] λxs=>
 Ag D (Ω 145) [bv Θ,Ξ xs] [] [.a,.B,.L,.N,.E] λb xs1=>
 V ((Φ [bv b,Ξ xs1],[]))):=by kernel_rfl
theorem e86(x0_0:Bool)(x0_1:Rw):Bp A D Ah ArF .n 86 AsD [Φ [bv x0_0,Ξ x0_1]] [] =
 br (A.not x0_0)
 (Ag D (Ω 145) [bv U,Ξ x0_1] [] [.a,.B,.L,.N,.E] λb xs=>
 V ((Φ [bv b,Ξ xs],[])))
 (Ag D (Ω 145) [bv Θ,Ξ x0_1] [] [.a,.B,.L,.N,.E] λb xs=>
 V ((Φ [bv b,Ξ xs],[]))):=by kernel_rfl
theorem At5(x0_0:Bool)(x0_1:Rw):Bp A D Ah Amu .n 158 AnS [Φ [bv x0_0,Ξ x0_1]] [] =
 Ag D (Ω 209) [Φ [bv x0_0,Ξ x0_1]] [] [.a,.B,.L,.N,.E] λb xs=>
 br b
 (V ((iv (-1),[])))
 (br (A.lt 0 ↑(AU xs))
 (V ((iv 1,[])))
 (V ((iv 0,[])))):=by kernel_rfl
theorem Ava(x0_0:Bool)(x0_1:Rw)(x1_0:Bool)(x1_1:Rw):Bp A D Ah Ana .n 285 Aoz [Φ [bv x0_0,Ξ x0_1],Φ [bv x1_0,Ξ x1_1]] [] =
 Ag D (Ω 158) [Φ [bv x0_0,Ξ x0_1]] [] [.i,.E] λn=>
 Ag D (Ω 158) [Φ [bv x1_0,Ξ x1_1]] [] [.i,.E] λn1=>
 br (A.lt n n1)
 (V ((iv (-1),[])))
 (br (A.lt n1 n)
 (V ((iv 1,[])))
 (br (A.lt n 0)
 (Ag D (Ω 205) [Ξ x1_1,Ξ x0_1] [] [.i,.E] λn2=>
 V ((iv n2,[])))
 (Ag D (Ω 205) [Ξ x0_1,Ξ x1_1] [] [.i,.E] λn2=>
 V ((iv n2,[]))))):=by kernel_rfl
theorem e87(x0_0:Bool)(x0_1:Rw)(x1_0:Bool)(x1_1:Rw):Bp A D Ah ArG .n 87 AsE [Φ [bv x0_0,Ξ x0_1],Φ [bv x1_0,Ξ x1_1]] [] =
 let y1:=λz1=>Ag D (Ω 145) [bv x0_0,Ξ z1] [] [.a,.B,.L,.N,.E] λb xs1=>V (Φ [bv b,Ξ xs1],[]);br (A.beq x0_0 x1_0) (Ag D (Ω 149) [Ξ x0_1,Ξ x1_1] [] [.l,.E] y1) (Ag D
 (Ω 150) [Ξ x0_1,Ξ x1_1] [] [.t,.L,.B,.N,.E] λxs b=>br b (y1 xs) (Ag D (Ω 150) [Ξ x1_1,Ξ x0_1] [] [.t,.L,.B,.N,.E] λxs1 _=>Ag D (Ω 145) [bv x1_0,Ξ xs1] [] [.a,.B,.L,
 .N,.E] λb2 xs2=>V (Φ [bv b2,Ξ xs2],[]))):=by kernel_rfl
theorem AuX(x0_0:Bool)(x0_1:Rw)(x1_0:Bool)(x1_1:Rw):Bp A D Ah Am0 .n 264 Aop [Φ [bv x0_0,Ξ x0_1],Φ [bv x1_0,Ξ x1_1]] [] =
 br (A.not (A.beq x0_0 x1_0))
 (Ag D (Ω 275) [Ξ x0_1,Ξ x1_1] [] [.l,.E] λxs=>
 Ag D (Ω 145) [bv U,Ξ xs] [] [.a,.B,.L,.N,.E] λb xs1=>
 V ((Φ [bv b,Ξ xs1],[])))
 (Ag D (Ω 275) [Ξ x0_1,Ξ x1_1] [] [.l,.E] λxs=>
 Ag D (Ω 145) [bv Θ,Ξ xs] [] [.a,.B,.L,.N,.E] λb xs1=>
 V ((Φ [bv b,Ξ xs1],[]))):=by kernel_rfl
theorem e85(x0:ByteArray):Bp A D Ah ArE .n 85 AsC [sv x0] [] =
 Ag D (Ω 147) [sv x0,sv (Ai [45])] [] [.t,.S,.B,.N,.E] λs b=>
 Ag D (Ω 148) [sv s] [] [.t,.L,.I,.N,.E] λxs n=>
 br (A.eq n 0)
 (Ag D (Ω 145) [bv b,Ξ xs] [] [.a,.B,.L,.N,.E] λb1 xs1=>
 V ((γ [Φ [bv b1,Ξ xs1],iv 0],[])))
 (V ((γ [Φ [bv Θ,Ξ []],iv n],[]))):=by kernel_rfl
theorem AtW(x0 x1:ByteArray):Bp A D Ah Amo .n 147 AnQ [sv x0,sv x1] [] =
 Ag D (Ω 201) [sv x0,sv x1] [] [.t,.S,.B,.N,.E] λs b=>
 V ((γ [sv s,bv b],[])):=by kernel_rfl
theorem Aut(x0 x1:ByteArray):Bp A D Ah AmK .n 201 An8 [sv x0,sv x1] [] =
 Ag D (Ω 241) [sv x0,sv x1] [] [.b,.E] λb=>
 br b
 (br (Lr (A.slen x1) (A.slen x0) (A.slen x0)) (V ((γ [sv (A.ssub x0 (A.slen x1) (A.slen x0)),bv U],[]))) Δ)
 (V ((γ [sv x0,bv Θ],[]))):=by kernel_rfl
theorem AuM(x0 x1:ByteArray):Bp A D Ah AmW .n 241 Aok [sv x0,sv x1] [] =
 br (A.le ↑(A.slen x1) ↑(A.slen x0))
 (br (Lr 0 (A.slen x1) (A.slen x0)) (br (A.seq (A.ssub x0 0 (A.slen x1)) x1)
 (V ((bv U,[])))
 (V ((bv Θ,[])))) Δ)
 (V ((bv Θ,[]))):=by kernel_rfl
end
section
open Go.RowKit
def AgZ:MFn:=BL [] 207
def AmL:Hnt:=⟨[],[],[]⟩
def AgW:MFn:=BL [] 154
def Amr:Hnt:=⟨[(207,(.bool,[]))],[],[]⟩
def AgV:MFn:=BL [] 153
def Amq:Hnt:=⟨[(154,(.int .i64,[]))],[],[(6,[.int .i64]),(8,[.int .i64])]⟩
def AgX:MFn:=BL [] 157
def Amt:Hnt:=⟨[(158,(.int .i64,[]))],[],[(4,BD)]⟩
def AgU:MFn:=IZ ε BM [] Θ U 152
def Amp:Hnt:=⟨[(153,(.int .i64,[])),(206,(.tup [],[.row U]))],[],[]⟩
def M6:MFn:=IZ ε BM [⟨63,(mB 455),[],[],[(1,((mB 199),([],[1000000])))]⟩,⟨63,(mB 71),[],[],[(3,([U],([],[1000000])))]⟩,⟨63,(mB 455),[],[],[(5,((mB 199),([],[1000000])))]⟩] Θ U 206
def Jm:Hnt:=⟨[(153,(.int .i64,[])),(242,(.tup [],[.row U])),(243,(.tup [],[.row U]))],[(0,[(1,([.sl 0 3,.int .i64,.fnc 153,.int .i64,.int .i64],[.row U]))]),(1,[(3,([.sl 0 3],[.row U]))]),(2,[(5,([.sl 0 3,.int .i64,.fnc 153,.int .i64,.int .i64],[.row U]))])],[]⟩
def QR:MFn:=IZ ε BM [⟨53,(mB 271),[],[],[(1,([U],([],[1000000])))]⟩,⟨53,(mB 783),[],[],[(3,((mB 271),([],[1000000])))]⟩] Θ U 242
def JN:Hnt:=⟨[(153,(.int .i64,[]))],[(0,[(1,([.sl 0 3],[.row U]))]),(1,[(3,([.sl 0 3,.int .i64,.int .i64,.fnc 153,.int .i64],[.row U]))])],[(25,BX),(26,BX),(30,BX),(31,BX),(45,BX),(46,BX),(49,BX),(50,BX),(51,BX),(52,BX)]⟩
def Jo:MFn:=IZ ε BM [⟨220,(mB 3091),[],[],[(1,((mB 1027),([],[1000000])))]⟩,⟨220,(mB 9217),[],[],[(3,([U],([],[1000000])))]⟩,⟨220,(mB 49173),[],[],[(5,((mB 16389),([],[1000000])))]⟩,⟨220,(mB 147457),[],[],[(7,([U],([],[1000000])))]⟩,⟨220,(mB 8126495),[],[],[(9,((mB 1835039),([],[1000000])))]⟩] Θ U 243
def Dh:Hnt:=⟨[(153,(.int .i64,[])),(243,(.tup [],[.row U])),(260,(.tup [],[.row U]))],[(0,[(1,([.sl 0 3,.int .i64,.int .i64],[.row U]))]),(1,[(3,([.sl 0 3],[.row U]))]),(2,[(5,([.sl 0 3,.int .i64,.int .i64],[.row U]))]),(3,[(7,([.sl 0 3],[.row U]))]),(4,[(9,([.sl 0 3,.int .i64,.int .i64,.int .i64,.fnc 153,.int .i64,.int .i64,.int .i64],[.row U]))])],[(43,BX),(44,BX),(47,BX),(48,BX),(69,BX),(70,BX),(73,BX),(74,BX),(75,BX),(76,BX),(95,BX),(96,BX),(99,BX),(100,BX),(121,BX),(122,BX),(125,BX),(126,BX),(127,BX),(128,BX),(163,BX),(164,BX),(167,BX),(168,BX)]⟩
def Aba:MFn:=IZ ε BM [⟨58,(mB 3093),[],[],[(1,((mB 1045),([],[1000000])))]⟩] Θ U 260
def SJ:Hnt:=⟨[(153,(.int .i64,[])),(273,(.tup [],[.row U]))],[(0,[(1,([.sl 0 3,.int .i64,.fnc 153,.int .i64],[.row U]))])],[]⟩
def Abc:MFn:=IZ ε BM [⟨38,(mB 1039),[],[],[(1,([U],([],[1000000])))]⟩] Θ U 273
def Ww:Hnt:=⟨[(153,(.int .i64,[]))],[(0,[(1,([.sl 0 3],[.row U]))])],[(28,BX),(29,BX),(34,BX),(35,BX),(36,BX),(37,BX)]⟩
def W3:MFn:=IZ ε BM [⟨42,(mB 99),[],[],[(1,((mB 33),([],[1000000])))]⟩] U U 156
def Qv:Hnt:=⟨[(157,(.bool,[])),(208,(.int .i64,[.row U]))],[(0,[(1,([.sl 0 3,.int .i64],[.row U]))])],[(24,BX),(25,BX),(27,BX),(32,BX),(33,BX)]⟩
def W4:MFn:=IZ ε BM [⟨19,(mB 387),[],[],[(0,((mB 17),([],[1000000]))),(1,([U],([],[1000000])))]⟩] Θ U 208
def Qx:Hnt:=⟨[(157,(.bool,[]))],[(0,[(0,([.sl 0 3,.int .i64],[.row U])),(1,([.sl 0 3],[.row U]))])],[(14,BX),(15,BX)]⟩
def FR:List (Nat × MFn):=[(207,AgZ),(154,AgW),(153,AgV),(157,AgX),(152,AgU),(206,M6),(242,QR),(243,Jo),(260,Aba),(273,Abc),(156,W3),(208,W4)]
variable (A:Ar) (D:Orc)
theorem Aux(x0:Int):Bp A D Ah AmL .n 207 AgZ [iv x0] [] =
 br (A.eq x0 x0)
 (V ((bv Θ,[])))
 (V ((bv U,[]))):=by kernel_rfl
theorem At2(x0 x1:Int):Bp A D Ah Amr .n 154 AgW [iv x0,iv x1] [] =
 Ag D (Ω 207) [iv x0] [] [.b,.E] λb=>
 br b
 (Ag D (Ω 207) [iv x1] [] [.b,.E] λb1=>
 br b1
 (V ((iv 0,[])))
 (V ((iv (-1),[]))))
 (Ag D (Ω 207) [iv x1] [] [.b,.E] λb1=>
 br b1
 (V ((iv 1,[])))
 (br (A.lt x0 x1)
 (V ((iv (-1),[])))
 (br (A.lt x1 x0)
 (V ((iv 1,[])))
 (V ((iv 0,[])))))):=by kernel_rfl
theorem At1(x0_0:Int)(x0_1:Bool)(x0_2:Rw)(x1_0:Int)(x1_1:Bool)(x1_2:Rw):Bp A D Ah Amq .n 153 AgV [Φ [iv x0_0,bv x0_1,Ξ x0_2],Φ [iv x1_0,bv x1_1,Ξ x1_2]] [] =
 Ag D (Ω 154) [iv x0_0,iv x1_0] [] [.i,.E] λn=>
 V ((iv n,[])):=by kernel_rfl
theorem At4(x0_0:Int)(x0_1:Bool)(x0_2:Rw):Bp A D Ah Amt .n 157 AgX [Φ [iv x0_0,bv x0_1,Ξ x0_2]] [] =
 Ag D (Ω 158) [Φ [bv x0_1,Ξ x0_2]] [] [.i,.E] λn=>
 br (A.eq n 0)
 (V ((bv U,[])))
 (V ((bv Θ,[]))):=by kernel_rfl
theorem At0(n0:Nat)(c0:Ad):Bp A D Ah Amp .n 152 AgU [ο 0 0 n0 3,AwG (Fn.func 153) [] []] [{ cells:=c0,st:=U,ex:=U }] =
 Ag D (Ω 206) [ο 0 0 n0 3,iv ↑n0,AwG (Fn.func 153) [] []] [θ c0 U U] [.t,.N,.R,.X,.E] λcs1=>
 V ((γ [],[Awp (θ cs1 U U)])):=by kernel_rfl
theorem Auw(n0:Nat)(c0:Ad)(x1:Int):Bp A D Ah Jm .n 206 M6 [ο 0 0 n0 3,iv x1,AwG (Fn.func 153) [] []] [{ cells:=c0,st:=U,ex:=U }] =
 Ag D (Awq 206 0) [ο 0 0 n0 3,iv x1,AwG (Fn.func 153) [] [],iv 20,iv 0,iv 20] [θ c0 U U] [.t,.C,.x,.X,.Y] λc l o=>
 br (Bf 1 c)
 (dk [.C,.q 0 3,.I,.C,.f 153,.I,.I,.N,.R,.X,.E] [.l l,.o o] λn n1 n2 n3 cs1=>
 Ag D (Ω 242) [ο 0 0 n 3,iv n3,iv n1,AwG (Fn.func 153) [] []] [θ cs1 U U] [.t,.N,.R,.X,.E] λcs3=>
 Ag D (Awq 206 1) [ο 0 0 n 3,iv n1,AwG (Fn.func 153) [] [],iv n2] [θ cs3 U U] [.t,.C,.x,.X,.Y] λc5 l8 o2=>
 br (Bf 3 c5)
 (dk [.C,.q 0 3,.N,.R,.X,.E] [.l l8,.o o2] λ_ cs5=>
 V ((γ [],[Awp (θ cs5 U U)])))
 (Δ))
 (Δ):=by kernel_rfl
theorem Aff(n0:Nat)(c0:Ad)(t1 t6 t7 t8:Int):DI A D Ah Jm .n 206 0 (AK M6 0).fst (AK M6 0).snd [ο 0 0 n0 3,iv t1,AwG (Fn.func 153) [] [],iv t6,iv t7,iv t8] [{ cells:=c0,st:=U,ex:=U }] =
 br (A.le t8 t1)
 (Ag D (Ω 242) [ο 0 0 n0 3,iv t7,iv t8,AwG (Fn.func 153) [] []] [θ c0 U U] [.t,.N,.R,.X,.E] λcs1=>
 AN D (Awq 206 0) [ο 0 0 n0 3,iv t1,AwG (Fn.func 153) [] [],iv t6,iv t8,iv (A.add φ t8 t6)] [θ cs1 U U] λr1 o1=>
 AO 1 [0] (AH.mk [(0,θ cs1 U U)] 1 Δ) [0] r1 o1)
 (V ((γ [iv 0,ο 0 0 n0 3,iv t1,AwG (Fn.func 153) [] [],iv t6,iv t7],[Awp (θ c0 U U)]))):=by kernel_rfl
theorem YG(n0:Nat)(c0:Ad)(t1 t6:Int):DI A D Ah Jm .n 206 1 (AK M6 1).fst (AK M6 1).snd [ο 0 0 n0 3,iv t1,AwG (Fn.func 153) [] [],iv t6] [{ cells:=c0,st:=U,ex:=U }] =
 br (A.lt t6 t1) (Ag D (Awq 206 2) [ο 0 0 n0 3,iv t1,AwG (Fn.func 153) [] [],iv t6,iv 0,iv (A.mul φ 2 t6)] [θ c0 U U] [.t,.C,.x,.X,.Y] λc l o=>br (Bf 5 c) (dk [.C,.q 0 3,.I,.C,
 .f 153,.I,.I,.N,.R,.X,.E] [.l l,.o o] λn n1 n2 n3 cs1=>
 let y1:=λz1=>AN D (Awq 206 1) [ο 0 0 n 3,iv n1,AwG (Fn.func 153) [] [],iv (A.mul φ n2 2)] [θ z1 U U] λr2 o2=>AO 1 [0] (AH.mk [(0,θ z1 U U)] 1 Δ) [0] r2 o2;br
 (A.lt (A.add φ n3 n2) n1) (Ag D (Ω 243) [ο 0 0 n 3,iv n3,iv (A.add φ n3 n2),iv n1,AwG (Fn.func 153) [] []] [θ cs1 U U] [.t,.N,.R,.X,.E] y1) (y1 cs1)) Δ) (V (γ [iv
 2,ο 0 0 n0 3],[Awp (θ c0 U U)])):=by kernel_rfl
theorem Afg(n0:Nat)(c0:Ad)(t1 t6 t7 t8:Int):DI A D Ah Jm .n 206 2 (AK M6 2).fst (AK M6 2).snd [ο 0 0 n0 3,iv t1,AwG (Fn.func 153) [] [],iv t6,iv t7,iv t8] [{ cells:=c0,st:=U,ex:=U }] =
 br (A.le t8 t1)
 (Ag D (Ω 243) [ο 0 0 n0 3,iv t7,iv (A.add φ t7 t6),iv t8,AwG (Fn.func 153) [] []] [θ c0 U U] [.t,.N,.R,.X,.E] λcs1=>
 AN D (Awq 206 2) [ο 0 0 n0 3,iv t1,AwG (Fn.func 153) [] [],iv t6,iv t8,iv (A.add φ t8 (A.mul φ 2 t6))] [θ cs1 U U] λr1 o1=>
 AO 1 [0] (AH.mk [(0,θ cs1 U U)] 1 Δ) [0] r1 o1)
 (V ((γ [iv 4,ο 0 0 n0 3,iv t1,AwG (Fn.func 153) [] [],iv t6,iv t7],[Awp (θ c0 U U)]))):=by kernel_rfl
theorem Ard(n0:Nat)(c0:Ad)(x1 x2:Int):Bp A D Ah JN .n 242 QR [ο 0 0 n0 3,iv x1,iv x2,AwG (Fn.func 153) [] []] [{ cells:=c0,st:=U,ex:=U }] =
 Ag D (Awq 242 0) [ο 0 0 n0 3,iv x1,iv x2,AwG (Fn.func 153) [] [],iv (A.add φ x1 1)] [θ c0 U U] [.t,.C,.x,.X,.Y] λc l o=>
 br (Bf 1 c)
 (dk [.C,.q 0 3,.N,.R,.X,.E] [.l l,.o o] λ_ cs1=>
 V ((γ [],[Awp (θ cs1 U U)])))
 (Δ):=by kernel_rfl
theorem YH(n0:Nat)(c0:Ad)(t1 t2 t8:Int):DI A D Ah JN .n 242 0 (AK QR 0).fst (AK QR 0).snd [ο 0 0 n0 3,iv t1,iv t2,AwG (Fn.func 153) [] [],iv t8] [{ cells:=c0,st:=U,ex:=U }] =
 br (A.lt t8 t2)
 (Ag D (Awq 242 1) [ο 0 0 n0 3,iv t1,iv t2,AwG (Fn.func 153) [] [],iv t8,iv t8] [θ c0 U U] [.t,.C,.x,.X,.Y] λc l o=>
 br (Bf 3 c)
 (dk [.C,.q 0 3,.I,.I,.C,.f 153,.I,.N,.R,.X,.E] [.l l,.o o] λn n1 n2 n3 cs1=>
 AN D (Awq 242 0) [ο 0 0 n 3,iv n1,iv n2,AwG (Fn.func 153) [] [],iv (A.add φ n3 1)] [θ cs1 U U] λr1 o1=>
 AO 1 [0] (AH.mk [(0,θ cs1 U U)] 1 Δ) [0] r1 o1)
 (Δ))
 (V ((γ [iv 0,ο 0 0 n0 3],[Awp (θ c0 U U)]))):=by kernel_rfl
theorem YI(n0:Nat)(c0:Ad)(t1 t2 t8 t9:Int):DI A D Ah JN .n 242 1 (AK QR 1).fst (AK QR 1).snd [ο 0 0 n0 3,iv t1,iv t2,AwG (Fn.func 153) [] [],iv t8,iv t9] [{ cells:=c0,st:=U,ex:=U }] =
 let y2:=V (γ [iv 2,ο 0 0 n0 3,iv t1,iv t2,AwG (Fn.func 153) [] [],iv t8],[Awp (θ c0 U U)]);br (A.lt t1 t9) (unI t9 λi=>br (i.blt n0) (I5 c0 (0+i*3) 3 λcs=>dk [.I,.B,.L,.N]
 [.l cs] λn b xs=>unI (A.sub φ t9 1) λi1=>br (i1.blt n0) (I5 c0 (0+i1*3) 3 λcs1=>dk [.I,.B,.L,.N] [.l cs1] λn1 b1 xs1=>Ag D (Ω 153) [Φ [iv n,bv b,Ξ xs],Φ [iv n1,bv
 b1,Ξ xs1]] [] [.i,.E] λn2=>br (A.lt n2 0) (unI (A.sub φ t9 1) λi2=>br (i2.blt n0) (I5 c0 (0+i2*3) 3 λcs2=>dk [.I,.B,.L,.N] [.l cs2] λn3 b2 xs2=>unI t9 λi3=>br (i3.blt n0) (I5 c0
 (0+i3*3) 3 λcs3=>dk [.I,.B,.L,.N] [.l cs3] λn4 b3 xs3=>unI t9 λi4=>br (i4.blt n0) (br ((0+i4*3+3).ble c0.length) (unI (A.sub φ t9 1) λi5=>br (i5.blt n0) (br ((0+i5*3+3).ble
 (Bq c0 (0+i4*3) [iv n3,bv b2,Ξ xs2]).length) (let y1:=θ (Bq (Bq c0 (0+i4*3) [iv n3,bv b2,Ξ xs2]) (0+i5*3) [iv n4,bv b3,Ξ xs3]) U U;AN D (Awq 242 1) [ο 0 0 n0 3,
 iv t1,iv t2,AwG (Fn.func 153) [] [],iv t8,iv (A.sub φ t9 1)] [y1] λr1 o1=>AO 1 [0] (AH.mk [(0,y1)] 1 Δ) [0] r1 o1) Δ) Δ) Δ) Δ) Δ) Δ) y2) Δ) Δ) y2:=by kernel_rfl
theorem VU(n0:Nat)(c0:Ad)(x1 x2 x3:Int):Bp A D Ah Dh .n 243 Jo [ο 0 0 n0 3,iv x1,iv x2,iv x3,AwG (Fn.func 153) [] []] [{ cells:=c0,st:=U,ex:=U }] =
 let y5:=λz1=>V (γ [],[Awp (θ z1 U U)]);let y6:=AwG (Fn.func 153) [] [];let y8:=[θ c0 U U];br (A.eq (A.sub φ x2 x1) 1) (Ag D (Awq 243 0) [ο 0 0 n0 3,iv x1,
 y6,iv x2,iv x3] y8 [.t,.C,.x,.X,.Y] λc l o=>br (Bf 1 c) (dk [.C,.q 0 3,.I,.I,.N,.R,.X,.E] [.l l,.o o] λn n1 n2 cs1=>Ag D (Awq 243 1) [ο 0 0 n 3,iv n2,iv n1] [θ cs1 U U] [.t,.C,
 .x,.X,.Y] λc3 l5 o1=>br (Bf 3 c3) (dk [.C,.q 0 3,.N,.R,.X,.E] [.l l5,.o o1] λ_ cs3=>y5 cs3) Δ) Δ) (br (A.eq (A.sub φ x3 x2) 1) (Ag D (Awq 243 2) [ο 0 0 n0 3,iv x2,y6,iv x1,iv x2]
 y8 [.t,.C,.x,.X,.Y] λc l o=>br (Bf 5 c) (dk [.C,.q 0 3,.I,.I,.N,.R,.X,.E] [.l l,.o o] λn n1 n2 cs1=>Ag D (Awq 243 3) [ο 0 0 n 3,iv n2,iv n1] [θ cs1 U U] [.t,.C,.x,.X,.Y] λc3
 l5 o1=>br (Bf 7 c3) (dk [.C,.q 0 3,.N,.R,.X,.E] [.l l5,.o o1] λ_ cs3=>y5 cs3) Δ) Δ) (br (A.lt 1 0) Δ
 (let y1:=λz1 z2 z3 z4 z5 z6 z7=>let y2:=λz1=>br (A.lt z3 (A.sub φ z6 z2)) (br (A.lt (A.sub φ z6 z2) z7) (Ag D (Ω 243) [ο 0 0 z4 3,iv z3,iv (A.sub φ z6 z2),iv z7,y6] [θ z1 U U] [.t,.N,.R,.X,.E] y5) (y5 z1)) (y5 z1);br (A.lt z1 z2) (br (A.lt z2 z3) (Ag D (Ω 243) [ο 0 0 z4 3,iv z1,iv z2,iv z3,y6] [θ z5 U U] [.t,.N,.R,.X,.E] y2) (y2 z5)) (y2 z5);
 let y3:=A.conv φ (A.shr ι (A.conv ι (A.add φ x1 x3)) 1);
 let y4:=λz1 z2 z3=>br (Bf 9 z1) (dk [.C,.q 0 3,.I,.I,.I,.C,.f 153,.I,.I,.I,.N,.R,.X,.E] [.l z2,.o z3] λn n1 n2 n3 n4 n5 n6 cs1=>br (A.lt n6 n2) (br (A.lt n2 (A.sub φ n5 n6)) (Ag D (Ω 260) [ο 0 0 n 3,iv n6,iv n2,iv (A.sub φ n5 n6),y6] [θ cs1 U U] [.t,.N,.R,.X,.E] λcs3=>y1 n1 n6 n4 n cs3 n5 n3) (y1 n1 n6 n4 n cs1 n5 n3)) (y1 n1 n6 n4 n cs1 n5 n3)) Δ;
 let y7:=A.add φ y3 x2;br (A.lt y3 x2) (Ag D (Awq 243 4) [ο 0 0 n0 3,iv x1,iv x2,iv x3,y6,iv y3,iv y7,iv (A.sub φ y7 x3),iv y3,iv (A.sub φ y7 1)] y8 [.t,.C,.x,.X,.Y] y4)
 (Ag D (Awq 243 4) [ο 0 0 n0 3,iv x1,iv x2,iv x3,y6,iv y3,iv y7,iv x1,iv x2,iv (A.sub φ y7 1)] y8 [.t,.C,.x,.X,.Y] y4)))):=by kernel_rfl
theorem YJ(n0:Nat)(c0:Ad)(t1 t10 t11:Int):DI A D Ah Dh .n 243 0 (AK Jo 0).fst (AK Jo 0).snd [ο 0 0 n0 3,iv t1,AwG (Fn.func 153) [] [],iv t10,iv t11] [{ cells:=c0,st:=U,ex:=U }] =
 let y2:=θ c0 U U;br (A.lt t10 t11) (br (A.lt 1 0) Δ (let y1:=A.conv φ (A.shr ι (A.conv ι (A.add φ t10 t11)) 1);unI y1 λi=>br (i.blt n0) (I5 c0 (0+i*3) 3 fun
 cs=>dk [.I,.B,.L,.N] [.l cs] λn b xs=>unI t1 λi1=>br (i1.blt n0) (I5 c0 (0+i1*3) 3 λcs1=>dk [.I,.B,.L,.N] [.l cs1] λn1 b1 xs1=>Ag D (Ω 153) [Φ [iv n,bv b,Ξ xs],Φ [iv n1,
 bv b1,Ξ xs1]] [] [.i,.E] λn2=>br (A.lt n2 0) (AN D (Awq 243 0) [ο 0 0 n0 3,iv t1,AwG (Fn.func 153) [] [],iv (A.add φ y1 1),iv t11] [y2] λr1 o1=>AO 1 [0] (AH.mk [(0,y2)] 1 Δ) [] r1
 o1) (AN D (Awq 243 0) [ο 0 0 n0 3,iv t1,AwG (Fn.func 153) [] [],iv t10,iv y1] [y2] λr1 o1=>AO 1 [0] (AH.mk [(0,y2)] 1 Δ) [] r1 o1)) Δ) Δ)) (V (γ [iv 0,ο 0 0 n0 3,iv t1,iv t10],
 [Awp y2])):=by kernel_rfl
theorem Afk(n0:Nat)(c0:Ad)(t10 t13:Int):DI A D Ah Dh .n 243 1 (AK Jo 1).fst (AK Jo 1).snd [ο 0 0 n0 3,iv t10,iv t13] [{ cells:=c0,st:=U,ex:=U }] =
 br (A.lt t13 (A.sub φ t10 1)) (unI (A.add φ t13 1) λi=>br (i.blt n0) (I5 c0 (0+i*3) 3 λcs=>dk [.I,.B,.L,.N] [.l cs] λn b xs=>unI t13 λi1=>br (i1.blt n0) (I5 c0 (0+i1*3) 3 fun
 cs1=>dk [.I,.B,.L,.N] [.l cs1] λn1 b1 xs1=>unI t13 λi2=>br (i2.blt n0) (br ((0+i2*3+3).ble c0.length) (unI (A.add φ t13 1) λi3=>br (i3.blt n0) (br ((0+i3*3+3).ble (Bq c0 (0+i2*3)
 [iv n,bv b,Ξ xs]).length) (let y1:=θ (Bq (Bq c0 (0+i2*3) [iv n,bv b,Ξ xs]) (0+i3*3) [iv n1,bv b1,Ξ xs1]) U U;AN D (Awq 243 1) [ο 0 0 n0 3,iv t10,iv (A.add φ
 t13 1)] [y1] λr o=>AO 1 [0] (AH.mk [(0,y1)] 1 Δ) [0] r o) Δ) Δ) Δ) Δ) Δ) Δ) (V (γ [iv 2,ο 0 0 n0 3],[Awp (θ c0 U U)])):=by kernel_rfl
theorem YK(n0:Nat)(c0:Ad)(t2 t14 t15:Int):DI A D Ah Dh .n 243 2 (AK Jo 2).fst (AK Jo 2).snd [ο 0 0 n0 3,iv t2,AwG (Fn.func 153) [] [],iv t14,iv t15] [{ cells:=c0,st:=U,ex:=U }] =
 let y2:=θ c0 U U;br (A.lt t14 t15) (br (A.lt 1 0) Δ (unI t2 λi=>br (i.blt n0) (I5 c0 (0+i*3) 3 λcs=>dk [.I,.B,.L,.N] [.l cs] λn b xs=>
 let y1:=A.conv φ (A.shr ι (A.conv ι (A.add φ t14 t15)) 1);unI y1 λi1=>br (i1.blt n0) (I5 c0 (0+i1*3) 3 λcs1=>dk [.I,.B,.L,.N] [.l cs1] λn1 b1 xs1=>Ag D (Ω
 153) [Φ [iv n,bv b,Ξ xs],Φ [iv n1,bv b1,Ξ xs1]] [] [.i,.E] λn2=>br (A.lt n2 0) (AN D (Awq 243 2) [ο 0 0 n0 3,iv t2,AwG (Fn.func 153) [] [],iv t14,iv y1] [y2] λr1 o1=>AO 1 [0]
 (AH.mk [(0,y2)] 1 Δ) [] r1 o1) (AN D (Awq 243 2) [ο 0 0 n0 3,iv t2,AwG (Fn.func 153) [] [],iv (A.add φ y1 1),iv t15] [y2] λr1 o1=>AO 1 [0] (AH.mk [(0,y2)] 1 Δ) [] r1 o1)) Δ) Δ))
 (V (γ [iv 4,ο 0 0 n0 3,iv t2,iv t14],[Awp y2])):=by kernel_rfl
theorem Afl(n0:Nat)(c0:Ad)(t14 t17:Int):DI A D Ah Dh .n 243 3 (AK Jo 3).fst (AK Jo 3).snd [ο 0 0 n0 3,iv t14,iv t17] [{ cells:=c0,st:=U,ex:=U }] =
 br (A.lt t14 t17) (unI (A.sub φ t17 1) λi=>br (i.blt n0) (I5 c0 (0+i*3) 3 λcs=>dk [.I,.B,.L,.N] [.l cs] λn b xs=>unI t17 λi1=>br (i1.blt n0) (I5 c0 (0+i1*3) 3 λcs1=>dk [.I,.B,.L,
 .N] [.l cs1] λn1 b1 xs1=>unI t17 λi2=>br (i2.blt n0) (br ((0+i2*3+3).ble c0.length) (unI (A.sub φ t17 1) λi3=>br (i3.blt n0) (br ((0+i3*3+3).ble (Bq c0 (0+i2*3) [iv n,bv b,Ξ
 xs]).length) (let y1:=θ (Bq (Bq c0 (0+i2*3) [iv n,bv b,Ξ xs]) (0+i3*3) [iv n1,bv b1,Ξ xs1]) U U;AN D (Awq 243 3) [ο 0 0 n0 3,iv t14,iv (A.sub φ t17 1)] [y1] λr o
 =>AO 1 [0] (AH.mk [(0,y1)] 1 Δ) [0] r o) Δ) Δ) Δ) Δ) Δ) Δ) (V (γ [iv 6,ο 0 0 n0 3],[Awp (θ c0 U U)])):=by kernel_rfl
theorem YL(n0:Nat)(c0:Ad)(t1 t2 t3 t18 t19 t20 t21 t22:Int):DI A D Ah Dh .n 243 4 (AK Jo 4).fst (AK Jo 4).snd [ο 0 0 n0 3,iv t1,iv t2,iv t3,AwG (Fn.func 153) [] [],iv t18,iv t19,iv t20,iv t21,iv t22] [{ cells:=c0,st:=U,ex:=U }] =
 let y2:=θ c0 U U;br (A.lt t20 t21) (br (A.lt 1 0) Δ (let y1:=A.conv φ (A.shr ι (A.conv ι (A.add φ t20 t21)) 1);unI (A.sub φ t22 y1) λi=>br (i.blt n0)
 (I5 c0 (0+i*3) 3 λcs=>dk [.I,.B,.L,.N] [.l cs] λn b xs=>unI y1 λi1=>br (i1.blt n0) (I5 c0 (0+i1*3) 3 λcs1=>dk [.I,.B,.L,.N] [.l cs1] λn1 b1 xs1=>Ag D (Ω 153) [Φ [iv n,bv b,
 Ξ xs],Φ [iv n1,bv b1,Ξ xs1]] [] [.i,.E] λn2=>br (A.lt n2 0) (AN D (Awq 243 4) [ο 0 0 n0 3,iv t1,iv t2,iv t3,AwG (Fn.func 153) [] [],iv t18,iv t19,iv t20,iv y1,iv t22] [y2] λr1 o1=>
 AO 1 [0] (AH.mk [(0,y2)] 1 Δ) [] r1 o1) (AN D (Awq 243 4) [ο 0 0 n0 3,iv t1,iv t2,iv t3,AwG (Fn.func 153) [] [],iv t18,iv t19,iv (A.add φ y1 1),iv t21,iv t22] [y2] λr1 o1=>AO 1 [0]
 (AH.mk [(0,y2)] 1 Δ) [] r1 o1)) Δ) Δ)) (V (γ [iv 8,ο 0 0 n0 3,iv t1,iv t2,iv t3,AwG (Fn.func 153) [] [],iv t18,iv t19,iv t20],[Awp y2])):=by kernel_rfl
theorem AuV(n0:Nat)(c0:Ad)(x1 x2 x3:Int):Bp A D Ah SJ .n 260 Aba [ο 0 0 n0 3,iv x1,iv x2,iv x3,AwG (Fn.func 153) [] []] [{ cells:=c0,st:=U,ex:=U }] =
 Ag D (Awq 260 0) [ο 0 0 n0 3,iv x2,AwG (Fn.func 153) [] [],iv (A.sub φ x2 x1),iv (A.sub φ x3 x2)] [θ c0 U U] [.t,.C,.x,.X,.Y] λc l o=>
 br (Bf 1 c)
 (dk [.C,.q 0 3,.I,.C,.f 153,.I,.N,.R,.X,.E] [.l l,.o o] λn n1 n2 cs1=>
 Ag D (Ω 273) [ο 0 0 n 3,iv (A.sub φ n1 n2),iv n1,iv n2,AwG (Fn.func 153) [] []] [θ cs1 U U] [.t,.N,.R,.X,.E] λcs3=>
 V ((γ [],[Awp (θ cs3 U U)])))
 (Δ):=by kernel_rfl
theorem YM(n0:Nat)(c0:Ad)(t2 t10 t11:Int):DI A D Ah SJ .n 260 0 (AK Aba 0).fst (AK Aba 0).snd [ο 0 0 n0 3,iv t2,AwG (Fn.func 153) [] [],iv t10,iv t11] [{ cells:=c0,st:=U,ex:=U }] =
 let y1:=AwG (Fn.func 153) [] [];let y2:=ο 0 0 n0 3;br (A.eq t10 t11) (V (γ [iv 0,y2,iv t2,y1,iv t10],[Awp (θ c0 U U)])) (br (A.lt t11 t10) (Ag D (Ω 273) [y2,iv (A.sub φ t2
 t10),iv t2,iv t11,y1] [θ c0 U U] [.t,.N,.R,.X,.E] λcs1=>AN D (Awq 260 0) [y2,iv t2,y1,iv (A.sub φ t10 t11),iv t11] [θ cs1 U U] λr1 o1=>AO 1 [0] (AH.mk [(0,θ
 cs1 U U)] 1 Δ) [0] r1 o1) (Ag D (Ω 273) [y2,iv (A.sub φ t2 t10),iv (A.sub φ (A.add φ t2 t11) t10),iv t10,y1] [θ c0 U U] [.t,.N,.R,.X,.E] λcs1=>AN D (Awq
 260 0) [y2,iv t2,y1,iv t10,iv (A.sub φ t11 t10)] [θ cs1 U U] λr1 o1=>AO 1 [0] (AH.mk [(0,θ cs1 U U)] 1 Δ) [0] r1 o1)):=by kernel_rfl
theorem Au2(n0:Nat)(c0:Ad)(x1 x2 x3:Int):Bp A D Ah Ww .n 273 Abc [ο 0 0 n0 3,iv x1,iv x2,iv x3,AwG (Fn.func 153) [] []] [{ cells:=c0,st:=U,ex:=U }] =
 Ag D (Awq 273 0) [ο 0 0 n0 3,iv x1,iv x2,iv x3,iv 0] [θ c0 U U] [.t,.C,.x,.X,.Y] λc l o=>
 br (Bf 1 c)
 (dk [.C,.q 0 3,.N,.R,.X,.E] [.l l,.o o] λ_ cs1=>
 V ((γ [],[Awp (θ cs1 U U)])))
 (Δ):=by kernel_rfl
theorem Afs(n0:Nat)(c0:Ad)(t1 t2 t3 t10:Int):DI A D Ah Ww .n 273 0 (AK Abc 0).fst (AK Abc 0).snd [ο 0 0 n0 3,iv t1,iv t2,iv t3,iv t10] [{ cells:=c0,st:=U,ex:=U }] =
 br (A.lt t10 t3) (unI (A.add φ t2 t10) λi=>br (i.blt n0) (I5 c0 (0+i*3) 3 λcs=>dk [.I,.B,.L,.N] [.l cs] λn b xs=>unI (A.add φ t1 t10) λi1=>br (i1.blt n0) (I5 c0 (0+i1*3) 3 fun
 cs1=>dk [.I,.B,.L,.N] [.l cs1] λn1 b1 xs1=>unI (A.add φ t1 t10) λi2=>br (i2.blt n0) (br ((0+i2*3+3).ble c0.length) (unI (A.add φ t2 t10) λi3=>br (i3.blt n0) (br ((0+i3*3+3).ble
 (Bq c0 (0+i2*3) [iv n,bv b,Ξ xs]).length) (let y1:=θ (Bq (Bq c0 (0+i2*3) [iv n,bv b,Ξ xs]) (0+i3*3) [iv n1,bv b1,Ξ xs1]) U U;AN D (Awq 273 0) [ο 0 0 n0 3,iv t1,
 iv t2,iv t3,iv (A.add φ t10 1)] [y1] λr o=>AO 1 [0] (AH.mk [(0,y1)] 1 Δ) [0] r o) Δ) Δ) Δ) Δ) Δ) Δ) (V (γ [iv 0,ο 0 0 n0 3],[Awp (θ c0 U U)])):=by kernel_rfl
theorem Aq5(n0:Nat)(c0:Ad):Bp A D Ah Qv .n 156 W3 [ο 0 0 n0 3,AwG (Fn.func 157) [] []] [{ cells:=c0,st:=U,ex:=U }] =
 Ag D (Ω 208) [ο 0 0 n0 3,AwG (Fn.func 157) [] []] [θ c0 U U] [.i,.R,.X,.E] λn cs=>
 br (A.eq n (-1))
 (V ((ο 0 0 n0 3,[Awp (θ cs U U)])))
 (Ag D (Awq 156 0) [ο 0 0 n0 3,AwG (Fn.func 157) [] [],iv n,iv (A.add φ n 1)] [θ cs U U] [.t,.C,.x,.X,.Y] λc1 l1 o1=>
 br (Bf 1 c1)
 (dk [.C,.q 0 3,.I,.N,.R,.X,.E] [.l l1,.o o1] λn1 n2 cs2=>
 unI n2 λi=>
 br (Lr i n1 n1) (br ((0+i*3+(n1-i)*3).ble cs2.length) (unI n2 λi1=>
 br (Lr 0 i1 n1) (V ((ο 0 0 i1 3,[Awp (θ (Bq cs2 (0+i*3) (Cx [iv 0,bv Θ,AwB (Value.slice Δ 0 0)] ((n1-i)*3))) U U)]))) Δ) Δ) Δ)
 (Δ)):=by kernel_rfl
theorem YF(n0:Nat)(c0:Ad)(t5 t6:Int):DI A D Ah Qv .n 156 0 (AK W3 0).fst (AK W3 0).snd [ο 0 0 n0 3,AwG (Fn.func 157) [] [],iv t5,iv t6] [{ cells:=c0,st:=U,ex:=U }] =
 br (A.lt t6 ↑n0) (unI t6 λi=>br (i.blt n0) (I5 c0 (0+i*3) 3 λcs=>dk [.I,.B,.L,.N] [.l cs] λn b xs=>let y1:=[iv n,bv b,Ξ xs];Ag D (Ω 157) [Φ y1] [] [.b,.E] λb1=>br b1 (AN D
 (Awq 156 0) [ο 0 0 n0 3,AwG (Fn.func 157) [] [],iv t5,iv (A.add φ t6 1)] [θ c0 U U] λr1 o1=>AO 1 [0] (AH.mk [(1,bk y1),(0,θ c0 U U)] 2 Δ) [] r1 o1) (unI t5 λi1=>br
 (i1.blt n0) (br ((0+i1*3+3).ble c0.length) (AN D (Awq 156 0) [ο 0 0 n0 3,AwG (Fn.func 157) [] [],iv (A.add φ t5 1),iv (A.add φ t6 1)] [θ (Bq c0 (0+i1*3) y1) U U] λr1
 o1=>AO 1 [0] (AH.mk [(0,θ (Bq c0 (0+i1*3) y1) U U),(1,bk y1)] 2 Δ) [0] r1 o1) Δ) Δ)) Δ) (V (γ [iv 0,ο 0 0 n0 3,iv t5],[Awp (θ c0 U U)])):=by kernel_rfl
theorem Auy(n0:Nat)(c0:Ad):Bp A D Ah Qx .n 208 W4 [ο 0 0 n0 3,AwG (Fn.func 157) [] []] [{ cells:=c0,st:=U,ex:=U }] =
 Ag D (Awq 208 0) [ο 0 0 n0 3,AwG (Fn.func 157) [] [],iv ↑n0,iv 0] [θ c0 U U] [.t,.C,.x,.X,.Y] λc l o=>
 br (Bf 0 c)
 (dk [.C,.q 0 3,.I,.N,.R,.X,.E] [.l l,.o o] λ_ n1 cs1=>
 V ((iv n1,[Awp (θ cs1 U U)])))
 (br (Bf 1 c)
 (dk [.C,.q 0 3,.N,.R,.X,.E] [.l l,.o o] λ_ cs1=>
 V ((iv (-1),[Awp (θ cs1 U U)])))
 (Δ)):=by kernel_rfl
theorem Um(n0:Nat)(c0:Ad)(t7 t8:Int):DI A D Ah Qx .n 208 0 (AK W4 0).fst (AK W4 0).snd [ο 0 0 n0 3,AwG (Fn.func 157) [] [],iv t7,iv t8] [{ cells:=c0,st:=U,ex:=U }] =
 br (A.lt t8 t7)
 (unI t8 λi=>
 br (i.blt n0) (I5 c0 (0+i*3) 3 λcs=>
 dk [.I,.B,.L,.N] [.l cs] λn b xs=>
 Ag D (Ω 157) [Φ [iv n,bv b,Ξ xs]] [] [.b,.E] λb1=>
 br b1
 (V ((γ [bv U,ο 0 0 n0 3,iv t8],[Awp (θ c0 U U)])))
 (AN D (Awq 208 0) [ο 0 0 n0 3,AwG (Fn.func 157) [] [],iv t7,iv (A.add φ t8 1)] [θ c0 U U] λr1 o1=>
 AO 1 [0] (AH.mk [(0,θ c0 U U)] 1 Δ) [] r1 o1)) Δ)
 (V ((γ [iv 0,ο 0 0 n0 3],[Awp (θ c0 U U)]))):=by kernel_rfl
end
section
open Go.RowKit
def AnR:MFn:=BL [] 155
def Ams:Hnt:=⟨[(145,(.agg BD,[]))],[],[(4,[.bool]),(6,[.ls])]⟩
def Akn:MFn:=BL [⟨74,(mB 917524),[(1000004,3)],[2,17],[(1,((mB 20),([],[])))]⟩] 89
def Agd:Hnt:=⟨[(87,(.agg BD,[])),(151,(.sl 0 3,[.row U])),(152,(.tup [],[.row U])),(155,(.agg BD,[])),(156,(.sl 0 3,[.row U]))],[(0,[(1,([.ptr 0 0,.ptr 1 0],[.box Cq,.box [.sl 3 3,.bool,.ls],.del,.row U]))])],[(9,[.ls]),(14,BD),(21,BX),(22,BX),(24,[.int .i64]),(27,[.ls]),(34,[.ls]),(36,BX),(38,[.int .i64]),(40,[.int .i64]),(44,[.ls]),(47,[.ls]),(49,BX),(51,BD),(53,BD),(55,BX),(58,[.ls]),(60,[.int .i64]),(62,BD),(70,[.ls]),(73,Cq)]⟩
def LD:List (Nat × MFn):=[(155,AnR),(89,Akn)]
variable (A:Ar) (D:Orc)
theorem At3(x0_0:Bool)(x0_1:Rw):Bp A D Ah Ams .n 155 AnR [Φ [bv x0_0,Ξ x0_1]] [] =
 Ag D (Ω 145) [bv x0_0,Ξ x0_1] [] [.a,.B,.L,.N,.E] λb xs=>
 V ((Φ [bv b,Ξ xs],[])):=by kernel_rfl
theorem e89(x0_0:Rw)(x0_1:Bool)(x0_2:Rw):Bp A D Ah Agd .n 89 Akn [Φ [Ξ x0_0,bv x0_1,Ξ x0_2]] [] =
 Ag D (Ω 151) [Ξ x0_0] [] [.q 0 3,.R,.X,.E] λn cs=>
 Ag D (Ω 152) [ο 0 0 n 3,AwG (Fn.func 153) [] []] [θ cs U U] [.t,.N,.R,.X,.E] λcs2=>
 Ag D (Ω 155) [Φ [bv x0_1,Ξ x0_2]] [] [.a,.B,.L,.N,.E] λb xs=>
 br ((0+n*3).ble cs2.length) (AN D (Awq 89 0) [ψ 0 0,ψ 1 0,Ξ (By n 3 (Aws (n*3) cs2)),iv ↑n,iv 0] [bk [Ξ [],bv Θ,Ξ []],bk [ο 2 0 0 3,bv b,Ξ xs],θ [] U U] λr3 o3=>
 dk [.t,.C,.x,.X] [.v r3] λc2 l4=>
 br (Bf 1 c2)
 (dk [.P 0 0,.P 1 0,.N,.T,.L,.B,.L,.N,.T,.C,.q 3 3,.B,.L,.N,.D,.R,.X,.E] [.l l4,.o o3] λ_ _ _ n1 b2 xs3 cs7=>
 Ag D (Ω 156) [ο 0 0 n1 3,AwG (Fn.func 157) [] []] [θ cs7 U U] [.q 0 3,.R,.X,.E] λn2 cs8=>
 br ((0+n2*3).ble cs8.length) (V ((Φ [Ξ (By n2 3 (Aws (n2*3) cs8)),bv b2,Ξ xs3],[]))) Δ)
 (Δ)) Δ:=by kernel_rfl
theorem AlU(r0:Rw)(r1:Bool)(r2:Rw)(n4:Nat)(k1:Bool)(k2:Rw)(c4:Ad)(t17:Rw)(t18 t19:Int):DI A D Ah Agd .n 89 0 (AK Akn 0).fst (AK Akn 0).snd [ψ 0 0,ψ 1 0,Ξ t17,iv t18,iv t19] [bk [Ξ r0,bv r1,Ξ r2],bk [ο 2 0 n4 3,bv k1,Ξ k2],{ cells:=c4,st:=U,ex:=U }] =
 let y2:=bk [Ξ r0,bv r1,Ξ r2];br (A.lt t19 t18) (unI t19 λi=>Bt t17 i λcs=>dk [.I,.B,.L,.N] [.l cs] λn b xs=>let y3:=[ψ 0 0,ψ 1 0,Ξ t17,iv t18,iv (A.add φ t19 1)];
 let y4:=bk [ο 2 0 n4 3,bv k1,Ξ k2];let y7:=bk [iv n,bv b,Ξ xs];br (A.lt n 0) (AN D (Awq 89 0) y3 [y2,y4,θ c4 U U] λr o=>AO 3 [0,1,2] (AH.mk [(0,y2),(3,y7),(1,y4),(2,
 θ c4 U U)] 4 Δ) [0] r o)
 (let y1:=Ag D (Ω 155) [Φ [bv b,Ξ xs]] [] [.a,.B,.L,.N,.E] λb1 xs1=>br (Bh (n4+1) 40) (br ((0+n4*3).ble c4.length) (let y5:=θ (Awv 0 (Aws (0+n4*3) c4)++[iv n,bv b1,Ξ xs1]) U U;AN D (Awq 89 0) y3 [y2,bk [ο 2 0 (n4+1) 3,bv k1,Ξ k2],y5] λr3 o1=>AO 3 [0,1,5] (AH.mk [(0,y2),(1,bk [ο 5 0 (n4+1) 3,bv k1,Ξ k2]),(5,y5),(4,θ [iv n,bv b1,Ξ xs1] U U),(3,y7)] 6 Δ) [2,1,0] r3 o1) Δ) Δ;
 let y8:=A.sub φ (↑n4) 1;br (A.le 0 y8) (unI y8 λi1=>br (i1.blt n4) (I5 c4 (0+i1*3+0) 1 λcs1=>dk [.I,.N] [.l cs1] λn1=>br (A.eq n1 n) (unI y8 λi2=>br (i2.blt n4) (I5 c4 (0+i2*3+1) 2
 λcs2=>dk [.B,.L,.N] [.l cs2] λb1 xs1=>Ag D (Ω 87) [Φ [bv b1,Ξ xs1],Φ [bv b,Ξ xs]] [] [.a,.B,.L,.N,.E] λb2 xs2=>unI y8 λi3=>br (i3.blt n4) (br ((0+i3*3+1+2).ble
 c4.length) (let y6:=θ (Bq c4 (0+i3*3+1) [bv b2,Ξ xs2]) U U;AN D (Awq 89 0) y3 [y2,y4,y6] λr3 o1=>AO 3 [0,1,2] (AH.mk [(0,y2),(2,y6),(3,y7),(1,y4)] 4 Δ) [2,0] r3 o1) Δ)
 Δ) Δ) y1) Δ) y1)) (V (γ [iv 0,ψ 0 0,ψ 1 0],[Awp y2,Awp (bk [ο 3 0 n4 3,bv k1,Ξ k2]),BO.del,Awp (θ c4 U U)])):=by kernel_rfl
end
section
open Go.RowKit
def S8:MFn:=BL [⟨36,(mB 3593),[],[],[(1,((mB 9),([],[])))]⟩,⟨36,(mB 234881088),[(6,3)],[],[(3,((mB 64),([],[])))]⟩] 250
def OL:Hnt:=⟨[(263,(.sl 0 3,[.row U]))],[(0,[(1,(Rr,[]))]),(1,[(3,([.sl 1 3],[.del,.row U]))])],[(13,[.ls]),(14,[.ls]),(29,[.ls]),(30,[.ls])]⟩
def AnV:MFn:=BL [] 170
def Amx:Hnt:=⟨[(155,(.agg BD,[]))],[],[(3,BD)]⟩
def Aoc:MFn:=BL [] 223
def AmP:Hnt:=⟨[(87,(.agg BD,[])),(89,(.agg Cq,[])),(250,(.ls,[]))],[],[(6,[.ls]),(8,[.ls]),(12,BD),(14,BD)]⟩
def Aod:MFn:=BL [] 224
def AmQ:Hnt:=⟨[(84,(.agg BD,[])),(251,(.agg Cq,[]))],[],[(3,Cq)]⟩
def Aa6:MFn:=BL [⟨35,(mB 114744),[(1000005,3)],[3,4],[(1,((mB 48),([],[3])))]⟩] 251
def Ws:Hnt:=⟨[(89,(.agg Cq,[])),(264,(.agg BD,[]))],[(0,[(1,([.ptr 1 0,.ptr 2 0],[.del,.box Cq,.box [.sl 4 3,.bool,.ls],.del,.row U]))])],[(9,BD),(10,BD),(14,[.ls]),(18,BX),(19,BX),(21,[.ls]),(23,[.int .i64]),(25,BD),(26,BD),(33,Cq)]⟩
def AnY:MFn:=BL [] 173
def AmA:Hnt:=⟨[(223,(.agg Cq,[])),(224,(.agg Cq,[]))],[],[(5,Cq),(6,Cq)]⟩
def AnX:MFn:=BL [] 172
def Amz:Hnt:=⟨[(89,(.agg Cq,[]))],[],[(3,Cq)]⟩
def AnZ:MFn:=BL [] 174
def AmB:Hnt:=⟨[(89,(.agg Cq,[]))],[],[(3,Cq)]⟩
def RC:List (Nat × MFn):=[(250,S8),(170,AnV),(223,Aoc),(224,Aod),(251,Aa6),(173,AnY),(172,AnX),(174,AnZ)]
variable (A:Ar) (D:Orc)
theorem AuP(x0:Rw):Bp A D Ah OL .n 250 S8 [Ξ x0] [] =
 Ag D (Awq 250 0) [Ξ x0,iv 0,Ξ x0,iv ↑(AU x0),iv 0] [] [.t,.C,.x,.X,.Y] λc l o=>
 br (Bf 1 c)
 (dk [.L,.I,.N,.E] [.l l,.o o] λxs n=>
 Ag D (Ω 263) [AwB (Value.slice Δ 0 0),iv n] [] [.q 0 3,.R,.X,.E] λn1 cs1=>
 Ag D (Awq 250 1) [ο 0 0 n1 3,Ξ xs,iv ↑(AU xs),iv 0] [θ cs1 U U] [.t,.C,.x,.X,.Y] λc2 l4 o2=>
 br (Bf 3 c2)
 (dk [.C,.q 1 3,.N,.D,.R,.X,.E] [.l l4,.o o2] λn2 cs3=>
 br ((0+n2*3).ble cs3.length) (V ((Ξ (By n2 3 (Aws (n2*3) cs3)),[]))) Δ)
 (Δ))
 (Δ):=by kernel_rfl
theorem Afm(t0:Rw)(t3:Int)(t9:Rw)(t10 t11:Int):DI A D Ah OL .n 250 0 (AK S8 0).fst (AK S8 0).snd [Ξ t0,iv t3,Ξ t9,iv t10,iv t11] [] =
 br (A.lt t11 t10)
 (unI t11 λi=>
 Bt t9 i λcs=>
 dk [.L,.N] [.l cs] λxs=>
 br (A.lt (A.add φ t3 ↑(AU xs)) 0)
 (Δ)
 (AN D (Awq 250 0) [Ξ t0,iv (A.add φ t3 ↑(AU xs)),Ξ t9,iv t10,iv (A.add φ t11 1)] [] λr o=>
 AO 0 [] (AH.mk [] 0 Δ) [] r o))
 (V ((γ [iv 0,Ξ t0,iv t3],[]))):=by kernel_rfl
theorem Afn(n6:Nat)(c6:Ad)(t25:Rw)(t26 t27:Int):DI A D Ah OL .n 250 1 (AK S8 1).fst (AK S8 1).snd [ο 0 0 n6 3,Ξ t25,iv t26,iv t27] [{ cells:=c6,st:=U,ex:=U }] =
 br (A.lt t27 t26) (unI t27 λi=>Bt t25 i λcs=>dk [.L,.N] [.l cs] λxs=>br (Hk 3 xs) (br ((AU xs).beq 0) (AN D (Awq 250 1) [ο 0 0 n6 3,Ξ t25,iv t26,iv (A.add φ t27 1)] [θ c6
 U U] λr o=>AO 1 [0] (AH.mk [(0,θ c6 U U)] 1 Δ) [] r o) (br (M9 (LS xs)) (br (Bh (n6+AU xs) 40) (br ((0+n6*3).ble c6.length)
 (let y1:=θ (Awv 0 (Aws (0+n6*3) c6)++LS xs) U U;AN D (Awq 250 1) [ο 0 0 (n6+AU xs) 3,Ξ t25,iv t26,iv (A.add φ t27 1)] [y1] λr o=>AO 1 [1] (AH.mk [(1,y1)]
 2 Δ) [0] r o) Δ) Δ) Δ)) Δ) (V (γ [iv 2,ο 1 0 n6 3],[BO.del,Awp (θ c6 U U)])):=by kernel_rfl
theorem At8(x0_0:Bool)(x0_1:Rw):Bp A D Ah Amx .n 170 AnV [Φ [bv x0_0,Ξ x0_1]] [] =
 Ag D (Ω 155) [Φ [bv x0_0,Ξ x0_1]] [] [.a,.B,.L,.N,.E] λb xs=>
 V ((Φ [Ξ [],bv b,Ξ xs],[])):=by kernel_rfl
theorem AuC(x0_0:Rw)(x0_1:Bool)(x0_2 x1_0:Rw)(x1_1:Bool)(x1_2:Rw):Bp A D Ah AmP .n 223 Aoc [Φ [Ξ x0_0,bv x0_1,Ξ x0_2],Φ [Ξ x1_0,bv x1_1,Ξ x1_2]] [] =
 Ag D (Ω 250) [Ξ [[Ξ x0_0],[Ξ x1_0]]] [] [.l,.E] λxs=>
 Ag D (Ω 87) [Φ [bv x0_1,Ξ x0_2],Φ [bv x1_1,Ξ x1_2]] [] [.a,.B,.L,.N,.E] λb xs1=>
 Ag D (Ω 89) [Φ [Ξ xs,bv b,Ξ xs1]] [] [.a,.L,.B,.L,.N,.E] λxs2 b1 xs3=>
 V ((Φ [Ξ xs2,bv b1,Ξ xs3],[])):=by kernel_rfl
theorem AuD(x0_0:Rw)(x0_1:Bool)(x0_2:Rw):Bp A D Ah AmQ .n 224 Aod [Φ [Ξ x0_0,bv x0_1,Ξ x0_2]] [] =
 Ag D (Ω 84) [iv (-1)] [] [.a,.B,.L,.N,.E] λb xs=>
 Ag D (Ω 251) [Φ [Ξ x0_0,bv x0_1,Ξ x0_2],Φ [bv b,Ξ xs]] [] [.a,.L,.B,.L,.N,.E] λxs1 b1 xs2=>
 V ((Φ [Ξ xs1,bv b1,Ξ xs2],[])):=by kernel_rfl
theorem AuQ(x0_0:Rw)(x0_1:Bool)(x0_2:Rw)(x1_0:Bool)(x1_1:Rw):Bp A D Ah Ws .n 251 Aa6 [Φ [Ξ x0_0,bv x0_1,Ξ x0_2],Φ [bv x1_0,Ξ x1_1]] [] =
 Ag D (Ω 264) [Φ [bv x0_1,Ξ x0_2],Φ [bv x1_0,Ξ x1_1]] [] [.a,.B,.L,.N,.E] λb xs=>
 Ag D (Awq 251 0) [ψ 0 0,ψ 1 0,ψ 2 0,Ξ x0_0,iv ↑(AU x0_0),iv 0] [bk [bv x1_0,Ξ x1_1],bk [Ξ [],bv Θ,Ξ []],bk [ο 3 0 0 3,bv b,Ξ xs],θ [] U U] [.t,.C,.x,.X,.Y] λc l2 o1=>
 br (Bf 1 c)
 (dk [.P 1 0,.P 2 0,.N,.D,.T,.L,.B,.L,.N,.T,.C,.q 4 3,.B,.L,.N,.D,.R,.X,.E] [.l l2,.o o1] λ_ _ _ n b2 xs3 cs4=>
 br ((0+n*3).ble cs4.length) (AN D (Ω 89) [Φ [Ξ (By n 3 (Aws (n*3) cs4)),bv b2,Ξ xs3]] [] λr2 o2=>
 dk [.a,.L,.B,.L,.N,.E] [.v r2,.o o2] λxs4 b3 xs5=>
 V ((Φ [Ξ xs4,bv b3,Ξ xs5],[]))) Δ)
 (Δ):=by kernel_rfl
theorem Afo(i0:Bool)(i1 r0:Rw)(r1:Bool)(r2:Rw)(n5:Nat)(k1:Bool)(k2:Rw)(c5:Ad)(t14:Rw)(t15 t16:Int):DI A D Ah Ws .n 251 0 (AK Aa6 0).fst (AK Aa6 0).snd [ψ 0 0,ψ 1 0,ψ 2 0,Ξ t14,iv t15,iv t16] [bk [bv i0,Ξ i1],bk [Ξ r0,bv r1,Ξ r2],bk [ο 3 0 n5 3,bv k1,Ξ k2],{ cells:=c5,st:=U,ex:=U }] =
 let y2:=bk [Ξ r0,bv r1,Ξ r2];br (A.lt t16 t15) (unI t16 λi=>Bt t14 i λcs=>dk [.I,.B,.L,.N] [.l cs] λn b xs=>Ag D (Ω 264) [Φ [bv b,Ξ xs],Φ [bv i0,Ξ i1]] [] [.a,.B,.L,
 .N,.E] λb1 xs1=>br (Bh (n5+1) 40) (br ((0+n5*3).ble c5.length) (let y1:=θ (Awv 0 (Aws (0+n5*3) c5)++[iv n,bv b1,Ξ xs1]) U U;AN D (Awq 251 0) [ψ 0 0,ψ 1 0,
 ψ 2 0,Ξ t14,iv t15,iv (A.add φ t16 1)] [bk [bv i0,Ξ i1],y2,bk [ο 3 0 (n5+1) 3,bv k1,Ξ k2],y1] λr3 o1=>AO 4 [0,1,2,6] (AH.mk [(1,y2),(0,bk [bv i0,Ξ i1]),(2,bk [ο
 6 0 (n5+1) 3,bv k1,Ξ k2]),(6,y1),(5,θ [iv n,bv b1,Ξ xs1] U U),(4,bk [iv n,bv b,Ξ xs])] 7 Δ) [3,2,0,1] r3 o1) Δ) Δ) (V (γ [iv 0,ψ 1 0,ψ 2 0],[BO.del,Awp
 y2,Awp (bk [ο 4 0 n5 3,bv k1,Ξ k2]),BO.del,Awp (θ c5 U U)])):=by kernel_rfl
theorem Aub(x0_0:Rw)(x0_1:Bool)(x0_2 x1_0:Rw)(x1_1:Bool)(x1_2:Rw):Bp A D Ah AmA .n 173 AnY [Φ [Ξ x0_0,bv x0_1,Ξ x0_2],Φ [Ξ x1_0,bv x1_1,Ξ x1_2]] [] =
 Ag D (Ω 224) [Φ [Ξ x1_0,bv x1_1,Ξ x1_2]] [] [.a,.L,.B,.L,.N,.E] λxs b xs1=>
 Ag D (Ω 223) [Φ [Ξ x0_0,bv x0_1,Ξ x0_2],Φ [Ξ xs,bv b,Ξ xs1]] [] [.a,.L,.B,.L,.N,.E] λxs2 b1 xs3=>
 V ((Φ [Ξ xs2,bv b1,Ξ xs3],[])):=by kernel_rfl
theorem Aua(x0_0:Rw)(x0_1:Bool)(x0_2:Rw):Bp A D Ah Amz .n 172 AnX [Φ [Ξ x0_0,bv x0_1,Ξ x0_2]] [] =
 Ag D (Ω 89) [Φ [Ξ x0_0,bv x0_1,Ξ x0_2]] [] [.a,.L,.B,.L,.N,.E] λxs b xs1=>
 V ((Φ [Ξ xs,bv b,Ξ xs1,bv U],[])):=by kernel_rfl
theorem Auc(x0_0:Rw)(x0_1:Bool)(x0_2:Rw):Bp A D Ah AmB .n 174 AnZ [Φ [Ξ x0_0,bv x0_1,Ξ x0_2]] [] =
 Ag D (Ω 89) [Φ [Ξ x0_0,bv x0_1,Ξ x0_2]] [] [.a,.L,.B,.L,.N,.E] λxs b xs1=>
 V ((Φ [Ξ xs,bv b,Ξ xs1,bv Θ],[])):=by kernel_rfl
end
section
open Go.RowKit
def Aob:MFn:=BL [] 222
def AmO:Hnt:=⟨[(89,(.agg Cq,[]))],[],[(4,Cq),(7,[.bool])]⟩
def AnW:MFn:=BL [] 171
def Amy:Hnt:=⟨[(222,(.agg Nr,[]))],[],[(3,Nr)]⟩
def Asx:MFn:=BL [] 64
def ArA:Hnt:=⟨[],[],[]⟩
def Aoe:MFn:=BL [] 225
def AmR:Hnt:=⟨[],[],[(4,[.int .i64]),(9,[.ls]),(13,[.ls]),(15,[.ls])]⟩
def An0:MFn:=BL [] 175
def AmC:Hnt:=⟨[(64,(.agg Ch,[])),(171,(.agg Ch,[])),(176,(.ls,[])),(225,(.ls,[]))],[],[(4,[.int .i64]),(11,Nr),(18,[.int .i64]),(19,Ch)]⟩
def AaT:MFn:=BL [⟨19,(mB 456),[(3,6)],[],[(1,((mB 8),([],[])))]⟩] 176
def Wg:Hnt:=⟨[(175,(.agg Ch,[]))],[(0,[(1,([.sl 1 6],[.del,.row U]))])],[(10,Ch),(11,Ch),(13,Ch)]⟩
def Ans:MFn:=BL [] 113
def Al4:Hnt:=⟨[(175,(.agg Ch,[]))],[],[(3,Ch)]⟩
def Ant:MFn:=BL [] 114
def Al5:Hnt:=⟨[(176,(.ls,[]))],[],[]⟩
def Anu:MFn:=BL [] 115
def Al6:Hnt:=⟨[(176,(.ls,[]))],[],[]⟩
def Anr:MFn:=BL [] 112
def OH:Hnt:=⟨[(64,(.agg Ch,[])),(84,(.agg BD,[])),(112,(.agg Ch,[])),(113,(.agg Ch,[])),(170,(.agg Cq,[])),(171,(.agg Ch,[])),(172,(.agg Nr,[])),(173,(.agg Cq,[])),(174,(.agg Nr,[]))],[],[(13,Cq),(14,Cq),(20,Cq),(21,Cq),(26,Cq),(27,Cq),(29,Cq),(35,Cq),(36,Cq),(42,Cq),(43,Cq),(47,Cq),(48,Cq)]⟩
def TD:List (Nat × MFn):=[(222,Aob),(171,AnW),(64,Asx),(225,Aoe),(175,An0),(176,AaT),(113,Ans),(114,Ant),(115,Anu),(112,Anr)]
variable (A:Ar) (D:Orc)
theorem AuB(x0_0:Rw)(x0_1:Bool)(x0_2:Rw)(x0_3:Bool):Bp A D Ah AmO .n 222 Aob [Φ [Ξ x0_0,bv x0_1,Ξ x0_2,bv x0_3]] [] =
 Ag D (Ω 89) [Φ [Ξ x0_0,bv x0_1,Ξ x0_2]] [] [.a,.L,.B,.L,.N,.E] λxs b xs1=>
 V ((Φ [Ξ xs,bv b,Ξ xs1,bv x0_3],[])):=by kernel_rfl
theorem At9(x0_0:Rw)(x0_1:Bool)(x0_2:Rw)(x0_3:Bool):Bp A D Ah Amy .n 171 AnW [Φ [Ξ x0_0,bv x0_1,Ξ x0_2,bv x0_3]] [] =
 Ag D (Ω 222) [Φ [Ξ x0_0,bv x0_1,Ξ x0_2,bv x0_3]] [] [.a,.L,.B,.L,.B,.N,.E] λxs b xs1 b1=>
 V ((Φ [iv 2,Ξ xs,bv b,Ξ xs1,bv b1,Ξ []],[])):=by kernel_rfl
theorem e64(x0:Bool):Bp A D Ah ArA .n 64 Asx [bv x0] [] =
 br x0
 (V ((Φ [iv 0,Ξ [],bv Θ,Ξ [],bv Θ,Ξ []],[])))
 (V ((Φ [iv 1,Ξ [],bv Θ,Ξ [],bv Θ,Ξ []],[]))):=by kernel_rfl
theorem AuE(x0_0:Int)(x0_1:Rw)(x0_2:Bool)(x0_3:Rw)(x0_4:Bool)(x0_5:Rw):Bp A D Ah AmR .n 225 Aoe [Φ [iv x0_0,Ξ x0_1,bv x0_2,Ξ x0_3,bv x0_4,Ξ x0_5]] [] =
 br (A.eq x0_0 4)
 (V ((Ξ x0_5,[])))
 (br (A.eq x0_0 5)
 (V ((Ξ x0_5,[])))
 (br (A.eq x0_0 3)
 (unI (A.min (↑(AU x0_5)) 1) λi=>
 br (Lr 0 i (AU x0_5)) (br (Hk 6 x0_5) (V ((Ξ (JJ (Kz x0_5 i) 0),[]))) Δ) Δ)
 (V ((Ξ [],[]))))):=by kernel_rfl
theorem Aud(x0_0:Int)(x0_1:Rw)(x0_2:Bool)(x0_3:Rw)(x0_4:Bool)(x0_5:Rw):Bp A D Ah AmC .n 175 An0 [Φ [iv x0_0,Ξ x0_1,bv x0_2,Ξ x0_3,bv x0_4,Ξ x0_5]] [] =
 let y2:=λz1 z2 z3 z4 z5 z6=>V (Φ [iv z1,Ξ z2,bv z3,Ξ z4,bv z5,Ξ z6],[]);br (A.eq x0_0 0) (Ag D (Ω 64) [bv U] [] [.a,.I,.L,.B,.L,.B,.L,.N,.E] y2) (br (A.eq x0_0 2) (Ag D
 (Ω 171) [Φ [Ξ x0_1,bv x0_2,Ξ x0_3,bv x0_4]] [] [.a,.I,.L,.B,.L,.B,.L,.N,.E] y2)
 (let y1:=Ag D (Ω 225) [Φ [iv x0_0,Ξ x0_1,bv x0_2,Ξ x0_3,bv x0_4,Ξ x0_5]] [] [.l,.E] λxs=>Ag D (Ω 176) [Ξ xs] [] [.l,.E] λxs1=>V (Φ [iv x0_0,Ξ [],bv Θ,Ξ [],bv Θ,Ξ xs1],[]);
 br (A.eq x0_0 3) y1 (br (A.eq x0_0 4) y1 (br (A.eq x0_0 5) y1 (Ag D (Ω 64) [bv Θ] [] [.a,.I,.L,.B,.L,.B,.L,.N,.E] y2))))):=by kernel_rfl
theorem Aue(x0:Rw):Bp A D Ah Wg .n 176 AaT [Ξ x0] [] =
 Ag D (Awq 176 0) [ο 0 0 0 6,Ξ x0,iv ↑(AU x0),iv 0] [θ [] U U] [.t,.C,.x,.X,.Y] λc l o=>
 br (Bf 1 c)
 (dk [.C,.q 1 6,.N,.D,.R,.X,.E] [.l l,.o o] λn cs1=>
 br ((0+n*6).ble cs1.length) (V ((Ξ (By n 6 (Aws (n*6) cs1)),[]))) Δ)
 (Δ):=by kernel_rfl
theorem Ae3(n3:Nat)(c3:Ad)(t6:Rw)(t7 t8:Int):DI A D Ah Wg .n 176 0 (AK AaT 0).fst (AK AaT 0).snd [ο 0 0 n3 6,Ξ t6,iv t7,iv t8] [{ cells:=c3,st:=U,ex:=U }] =
 br (A.lt t8 t7) (unI t8 λi=>Bt t6 i λcs=>dk [.I,.L,.B,.L,.B,.L,.N] [.l cs] λn xs b xs1 b1 xs2=>Ag D (Ω 175) [Φ [iv n,Ξ xs,bv b,Ξ xs1,bv b1,Ξ xs2]] [] [.a,.I,.L,.B,.L,.B,
 .L,.N,.E] λn1 xs3 b2 xs4 b3 xs5=>br (Bh (n3+1) 96) (br ((0+n3*6).ble c3.length) (let y1:=θ (Awv 0 (Aws (0+n3*6) c3)++[iv n1,Ξ xs3,bv b2,Ξ xs4,bv b3,Ξ xs5]) U U;
 AN D (Awq 176 0) [ο 0 0 (n3+1) 6,Ξ t6,iv t7,iv (A.add φ t8 1)] [y1] λr1 o1=>AO 1 [3] (AH.mk [(3,y1),(2,θ [iv n1,Ξ xs3,bv b2,Ξ xs4,bv b3,Ξ xs5] U U),(1,bk [iv
 n,Ξ xs,bv b,Ξ xs1,bv b1,Ξ xs2])] 4 Δ) [0] r1 o1) Δ) Δ) (V (γ [iv 0,ο 1 0 n3 6],[BO.del,Awp (θ c3 U U)])):=by kernel_rfl
theorem AtA(x0_0:Int)(x0_1:Rw)(x0_2:Bool)(x0_3:Rw)(x0_4:Bool)(x0_5:Rw):Bp A D Ah Al4 .n 113 Ans [Φ [iv x0_0,Ξ x0_1,bv x0_2,Ξ x0_3,bv x0_4,Ξ x0_5]] [] =
 Ag D (Ω 175) [Φ [iv x0_0,Ξ x0_1,bv x0_2,Ξ x0_3,bv x0_4,Ξ x0_5]] [] [.a,.I,.L,.B,.L,.B,.L,.N,.E] λn xs b xs1 b1 xs2=>
 V ((Φ [iv 3,Ξ [],bv Θ,Ξ [],bv Θ,Ξ [[iv n,Ξ xs,bv b,Ξ xs1,bv b1,Ξ xs2]]],[])):=by kernel_rfl
theorem AtB(x0:Rw):Bp A D Ah Al5 .n 114 Ant [Ξ x0] [] =
 Ag D (Ω 176) [Ξ x0] [] [.l,.E] λxs=>
 V ((Φ [iv 4,Ξ [],bv Θ,Ξ [],bv Θ,Ξ xs],[])):=by kernel_rfl
theorem AtC(x0:Rw):Bp A D Ah Al6 .n 115 Anu [Ξ x0] [] =
 Ag D (Ω 176) [Ξ x0] [] [.l,.E] λxs=>
 V ((Φ [iv 5,Ξ [],bv Θ,Ξ [],bv Θ,Ξ xs],[])):=by kernel_rfl
theorem YE(x0:Int)(x1_0:Rw)(x1_1:Bool)(x1_2 x2_0:Rw)(x2_1:Bool)(x2_2:Rw):Bp A D Ah OH .n 112 Anr [iv x0,Φ [Ξ x1_0,bv x1_1,Ξ x1_2],Φ [Ξ x2_0,bv x2_1,Ξ x2_2]] [] =
 Ag D (Ω 84) [iv 1] [] [.a,.B,.L,.N,.E] λb xs=>Ag D (Ω 170) [Φ [bv b,Ξ xs]] [] [.a,.L,.B,.L,.N,.E] λxs1 b1 xs2=>
 let y4:=λz1 z2 z3 z4 z5 z6=>V (Φ [iv z1,Ξ z2,bv z3,Ξ z4,bv z5,Ξ z6],[]);
 let y1:=λz1 z2 z3 z4=>Ag D (Ω 171) [Φ [Ξ z1,bv z2,Ξ z3,bv z4]] [] [.a,.I,.L,.B,.L,.B,.L,.N,.E] y4;let y2:=Φ [Ξ x1_0,bv x1_1,Ξ x1_2];
 let y3:=Φ [Ξ x2_0,bv x2_1,Ξ x2_2];br (A.eq x0 0) (Ag D (Ω 173) [y2,y3] [] [.a,.L,.B,.L,.N,.E] λxs3 b2 xs4=>Ag D (Ω 172) [Φ [Ξ xs3,bv b2,Ξ xs4]] [] [.a,.L,.B,.L,.B,
 .N,.E] y1) (br (A.eq x0 1) (Ag D (Ω 112) [iv 0,y2,y3] [] [.a,.I,.L,.B,.L,.B,.L,.N,.E] λn xs3 b2 xs4 b3 xs5=>Ag D (Ω 113) [Φ [iv n,Ξ xs3,bv b2,Ξ xs4,bv b3,Ξ xs5]] [] [.a,.I,
 .L,.B,.L,.B,.L,.N,.E] y4) (let y5:=λz1 z2 z3=>Ag D (Ω 174) [Φ [Ξ z1,bv z2,Ξ z3]] [] [.a,.L,.B,.L,.B,.N,.E] y1;br (A.eq x0 2) (Ag D (Ω 173) [y3,y2] [] [.a,.L,.B,.L,.N,.E] fun
 xs3 b2 xs4=>Ag D (Ω 173) [Φ [Ξ xs3,bv b2,Ξ xs4],Φ [Ξ xs1,bv b1,Ξ xs2]] [] [.a,.L,.B,.L,.N,.E] y5) (br (A.eq x0 3) (Ag D (Ω 173) [y3,y2] [] [.a,.L,.B,.L,.N,.E] y5) (br
 (A.eq x0 4) (Ag D (Ω 112) [iv 2,y3,y2] [] [.a,.I,.L,.B,.L,.B,.L,.N,.E] y4) (br (A.eq x0 5) (Ag D (Ω 112) [iv 3,y3,y2] [] [.a,.I,.L,.B,.L,.B,.L,.N,.E] y4) (Ag D (Ω 64) [bv Θ] [] [.a,
 .I,.L,.B,.L,.B,.L,.N,.E] y4)))))):=by kernel_rfl
end
