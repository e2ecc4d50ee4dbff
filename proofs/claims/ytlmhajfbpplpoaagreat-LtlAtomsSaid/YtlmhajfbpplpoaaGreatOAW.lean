/- A block of the call's ow -/
import Derived.WalkKit
import Derived.WalkSpells
import Derived.WalkLawsBesides
import Derived.Deep.Draws
import Derived.Lib.Hide
import Derived.Test.YtlmhajfbpplpoaaGreatOAV
import Derived.Shelf.Strings.Builder1
import Derived.Laws.ComplexArith
import Derived.Test.YtlmhajfbpplpoaaGreatOAA
import Derived.OrdersHeld
import Derived.StillTail
import Derived.Deep.QuietTactic
import Derived.BigQuiet
set_option linter.all false
open Array renaming ext->As1,getElem?_append_left->ArM,getElem?_eq_none->Aqj,getElem?_eq_some_iff->Ap5,replicate->ArC
open Bool renaming and_eq_true->ε,false_eq_true->AqM
open Int renaming natAbs_natCast->Asp
open Nat renaming le_refl->ω,le_trans->Aqm,log2_eq_iff->Arp,lt_of_lt_of_le->Aqw,lt_or_ge->ApL,min_eq_left->AqE,mul_assoc->AqP,mul_le_mul_right->Aqd,mul_lt_mul_of_pos_right->Aq4,mul_ne_zero->AsI,pow_add->Aq8,shiftLeft_eq->Ar4,shiftLeft_zero->Arg,two_pow_pos->AqU
open Option renaming map_eq_some_iff->Aq2
namespace Go.Proofs.YtlmhajfbpplpoaaGreat
open Lib renaming BuilderAt->AsT,IsBuilder->AqZ,cell_of_heap->Arz,strCells->AsU
open Tryz renaming prog->φ
open Go.RowKit
theorem Jf{B:Nat}{W w:World}(h:Below B W w):Below B W w.drew:=h.drew
theorem QC{w w':World}(h:Below w.drew.heap.size w.drew w'):Below w.heap.size w w':=⟨h.os,h.tape,h.output,h.size,h.block⟩
theorem Cp{W w:World}{o:Obj}(h:Below W.heap.size W w):Below W.heap.size W (w.alloc o):=h.alloc h.size o
theorem CP{W w:World}{p:Addr}{u:Value}(h:Below W.heap.size W w)(hp:W.heap.size<=p.block):Below W.heap.size W (w.setCell p u):=h.setCell hp u
theorem AY{W w w':World}(h:Below W.heap.size W w)(hb:Below w.heap.size w w'):Below W.heap.size W w':=h.trans (hb.mono h.size)
theorem Bi(w:World)(o:Obj):Below w.heap.size w (w.alloc o):=(Below.refl _ _).alloc (ω _) o
theorem BS{a b:Bool}(h:a=b):Ending.returned (.bool a)=.returned (.bool b):=by rw[h]
def Blk(w:World)(g:Nat)(t:TypeId)(cs:Array Value):Prop:=w.heap[g]? = some (.cells cs t (0,0))
section
variable {w w':World} {g:Nat} {t:TypeId} {cs:Array Value}
theorem Blk.lt(h:Blk w g t cs):g<w.heap.size:=by
 rcases ApL g w.heap.size with hlt|hge
 .exact hlt
 .unfold Blk at h;rw[Aqj hge]at h;cases h
theorem Blk.cell(h:Blk w g t cs)(i:Nat):w.cell? ⟨g,i,none⟩=cs[i]?:=cell_of_row w g i cs t (0,0) h
theorem Blk.frozen(h:Blk w g t cs)(i:Nat):w.frozen? ⟨g,i,none⟩=false:=by
 unfold Blk at h;simp[World.frozen?,h]
theorem Blk.new(w:World)(t:TypeId)(cs:Array Value):Blk (w.alloc (.cells cs t)) w.heap.size t cs:=heap_alloc_new w _
theorem Blk.drew(h:Blk w g t cs):Blk w.drew g t cs:=h
theorem Blk.alloc(h:Blk w g t cs)(o:Obj):Blk (w.alloc o) g t cs:=(Below.heap_alloc w o g h.lt).trans h
theorem Blk.set_(h:Blk w g t cs)(i:Nat)(u:Value):Blk (w.setCell ⟨g,i,none⟩ u) g t (cs.setIfInBounds i u):=by
 unfold Blk at h ⊢;simp[World.setCell,Array.getElem?_modify,h]
theorem Blk.far(h:Blk w g t cs){p:Addr}(hp:g≠p.block)(u:Value):Blk (w.setCell p u) g t cs:=(Below.heap_setCell w p u g hp).trans h
theorem Blk.below{B:Nat}(h:Blk w g t cs)(hb:Below B w w')(hg:g<B):Blk w' g t cs:=(hb.block g hg).trans h
theorem Blk.call(h:Blk w g t cs)(hb:Below w.heap.size w w'):Blk w' g t cs:=h.below hb h.lt
end
def Own(w:World)(B g:Nat)(t:TypeId)(v:Value)(cs:Array Value):Prop:=B<=g/\v=.pointer (some ⟨g,0,none⟩)/\Blk w g t cs
section
variable {w w':World} {B g:Nat} {t:TypeId} {v:Value} {cs:Array Value}
theorem Own.call(h:Own w B g t v cs)(hb:Below w.heap.size w w'):Own w' B g t v cs:=⟨h.1,h.2.1,h.2.2.call hb⟩
end
def pick{α:Type}(d:Bool)(x y:α):α:=match d with|true=>x|false=>y
section
variable {w w':World} {base base' e size n:Nat} {v:Value} {xs:List Value}
theorem Ho{row:Option Nat}(hb:Below w.heap.size w w'):w.grownBy w' row:=⟨hb.os,hb.tape,hb.output,hb.size,λk hk _=>hb.block k hk⟩
theorem Ob(h:w.ownsRow base e size v n xs)(hb:Below w.heap.size w w'):w'.ownsRow base e size v n xs:=h.kept (row:=none) (Ho hb) (by cases hv:v.ownBlock<;>simp)
theorem AbM(h:w.ownsRow base e size v n xs)(hb:base'<=base):w.ownsRow base' e size v n xs:=
 ⟨h.1,h.2.imp id λ⟨g,cap,cur,h1,h2,h3⟩=>⟨g,cap,cur,h1,Aqm hb h2,h3⟩⟩
theorem LP{W:World}{row:Option Nat}(h:Below W.heap.size W w)(hg:w.grownBy w' row)(hr:∀ k,row=some k->W.heap.size<=k):Below W.heap.size W w':=h.grown hg h.size hr
theorem Rh{B:Nat}(h:w.ownsRow base e size v n xs)(hB:B<=base):∀ k,v.ownBlock=some k->B<=k:=λk hk=>Aqm hB (h.lt k hk).1
end
def T6(P:Program)(g:FuncId):Prop:=∀(args:Array Value) (w:World),(callFunc g args).run P w=.ok (.enter g args) w
theorem Xn:(Tryz.prog.info? 5).map (λi=>(i.zero,i.size,i.bytes))=some (some (.int .u8 0),1,1):=by kernel_rfl
theorem RR:(Tryz.prog.info? 119).map (·.size)=some 2:=by kernel_rfl
theorem Zv:liesAt φ Tryz.prog.depth 119 (2 / Tryz.prog.cellsOf 119) 0 119 1=true:=by kernel_rfl
set_option maxHeartbeats 1000000 in
set_option maxRecDepth 100000 in
theorem Nq(b:Nat)(w:World)(h0:w.cell? ⟨b,0,none⟩=some (.pointer (some ⟨b,0,none⟩))) :
  Calls φ 106 #[.pointer (some ⟨b,0,none⟩)] w λe w'=>e=.returned (.tuple #[])/\w'=w:=by
 obtain⟨j,hj,_⟩:=Aq2.1 RR
 go_enter Tryz.func106,Tryz.ntmps106
 go_wp2
 rw[Lib.run_neq_ptr_same w _ Tryz.underlying116 hj]
 go_wp2
 go_end0
 exact⟨rfl,rfl⟩
set_option maxHeartbeats 1000000 in
set_option maxRecDepth 100000 in
theorem Mz(b:Nat)(w:World)(h0:w.cell? ⟨b,0,none⟩=some (.pointer none))(hsh:w.shape? b=some (119,2))(hfz:w.frozen? ⟨b,0,none⟩=false) :
  Calls φ 106 #[.pointer (some ⟨b,0,none⟩)] w λe w'=>e=.returned (.tuple #[])/\w'=w.setCell ⟨b,0,none⟩ (.pointer (some ⟨b,0,none⟩)):=by
 obtain⟨j,hj,hjs⟩:=Aq2.1 RR
 go_enter Tryz.func106,Tryz.ntmps106
 go_wp2
 rw[Lib.run_to_unsafe w ⟨b,0,none⟩ Tryz.underlying116 Tryz.underlying222 hj (by rw[hjs];decide) hsh (Nat.zero_lt_succ 1)];simp only[Result.andThen];rw[Oper.upon_value]
 go_wp2
 rw[run_callFunc_extern Tryz.func167 (by kernel_rfl) (by kernel_rfl) (by kernel_rfl) (e:=Extern.AbiNoEscape.same) (by kernel_rfl)];rw[Lib.run_noEscape];simp only[Result.andThen];rw[Oper.upon_value]
 go_wp2
 rw[Lib.run_from_unsafe w ⟨b,0,none⟩ Tryz.underlying222 Tryz.underlying116 hj hsh Zv];simp only[Result.andThen];rw[Oper.upon_value]
 go_wp2
 go_end0
 exact⟨rfl,rfl⟩
theorem O1(B b:Nat)(bs:List Value)(w:World)(h:AqZ 119 5 B b bs w) :
  Calls φ 106 #[.pointer (some ⟨b,0,none⟩)] w λe w'=>e=.returned (.tuple #[])/\(AsT 119 5 B b (.pointer (some ⟨b,0,none⟩)) bs w'/\Below B w w'/\∀ k,k≠b->w'.heap[k]? = w.heap[k]?):=by
 rcases h with h|h
 .refine(Mz b w h.cell0 h.shape h.frozen0).mono ?_
  rintro e w' ⟨rfl,rfl⟩;exact⟨rfl,h.used _,(Below.refl B w).setCell (p:=⟨b,0,none⟩) h.1 _,λk hk=>Below.heap_setCell _ _ _ _ hk⟩
 .refine(Nq b w h.cell0).mono ?_
  rintro e w' ⟨rfl,rfl⟩;exact⟨rfl,h,Below.refl B _,λ_ _=>rfl⟩
set_option maxHeartbeats 2000000 in
set_option maxRecDepth 100000 in
theorem B5(B b:Nat)(bs:List Value)(s:ByteArray)(w:World)(h:AqZ 119 5 B b bs w)(hlen:bs.length+s.size<=140737488355328)(hBw:B<=w.heap.size) :
  Calls φ 56 #[.pointer (some ⟨b,0,none⟩),.string s] w λe w'=>e=.returned (.tuple #[.int .i64 s.size,.nilIface])/\(AsT 119 5 B b (.pointer (some ⟨b,0,none⟩)) (bs++AsU s) w'/\Below B w w'/\∀ k cs T fr,w.heap[k]? = some (.cells cs T fr)->k≠b->T≠5->w'.heap[k]? = some (.cells cs T fr)):=by
 obtain⟨i0,hi,hz0,hz1,hz2⟩:=info_parts Xn
 go_enter Tryz.func56,Tryz.ntmps56
 go_wp2_with (go_at_call 106;refine(O1 B b bs _ h).mono ?_)
 rintro e w1 ⟨rfl,h1,hb1,hk1⟩;obtain⟨hB,v,hbk,hown,hne⟩:=h1;have c0:w1.cell? ⟨b,0,none⟩=some (.pointer (some ⟨b,0,none⟩)):=by rw[Arz hbk];rfl
 have c1:w1.cell? ⟨b,1,none⟩=some v:=by rw[Arz hbk];rfl
 go_wp2_with (at_builtin;refine Lib.wpList_append_own_string _ rfl _ _ 117 9 rfl B 5 i0 Tryz.underlying117 Tryz.underlying9 hi hz0 hz1 hz2 _ _ _ rfl hown s rfl ?c3 ?c4 ?c5 ?_)
 case c3=>unfold maxLen;omega
 case c4=>omega
 case c5=>have:=hb1.size;omega
 intro v' w2 hown' hgrow _;have hlt:b<w1.heap.size:=by
  rcases ApL b w1.heap.size with h' | h'
  .exact h'
  .simp[Aqj h']at hbk
 have hb2:w2.heap[b]? = some (.cells #[.pointer (some ⟨b,0,none⟩),v] 119 (0,0)):=by
  rw[hgrow.block b hlt (λe=>hne e.symm)];exact hbk
 have d0:w2.cell? ⟨b,0,none⟩=some (.pointer (some ⟨b,0,none⟩)):=by rw[Arz hb2];rfl
 have d1:w2.cell? ⟨b,1,none⟩=some v:=by rw[Arz hb2];rfl
 have f1:w2.frozen? ⟨b,1,none⟩=false:=Lib.frozen_of_heap hb2 1;obtain⟨ao,n',cap,rfl⟩:∃ ao n' cap,v'=.slice ao n' cap:=by
  rcases hown'.2 with⟨hv,_⟩|⟨g,cap,cur,hv,_⟩
  .exact⟨_,_,_,hv⟩
  .exact⟨_,_,_,hv⟩
 go_wp2
 go_ret2
 refine⟨rfl,?_,?_,?_⟩
 .exact Lib.BuilderAt.put (T:=119) (e:=5) hB hb2 (bs':=bs++AsU s) (by simpa[Lib.strCells_length]using hown') (by decide)
 .exact(hb1.grown hgrow (by have:=hb1.size;omega) (λk hk=>(hown.lt k hk).1)).setCell (p:=⟨b,1,none⟩) hB _
 .intro k cs T fr hk hkb hT
  have h1:=(hk1 k hkb).trans hk;have hlk:k<w1.heap.size:=by
   rcases ApL k w1.heap.size with h' | h'
   .exact h'
   .simp[Aqj h']at h1
  have h2:=(hgrow.block k hlk λe=>Lib.ownBlock_ne hown h1 hT e.symm).trans h1;exact(Below.heap_setCell _ _ _ _ hkb).trans h2
open Ieee
def enc(n:Nat):Nat:=Ieee.double.nearest false n 0
theorem NV(n k:Nat)(h:n≠0):(n*2 ^ k).log2=n.log2+k:=by
 have h1:=(Arp h).1 rfl;rw[Arp (by have:=AqU k;exact AsI h (by omega))];refine⟨?_,?_⟩
 .rw[Aq8];exact Aqd _ h1.1
 .rw[show n.log2+k+1=n.log2+1+k by omega,Aq8]
  exact Aq4 h1.2 (AqU k)
theorem D3{n:Nat}(h:n≠0)(hn:n<2 ^ 50):n.log2<50:=(Nat.log2_lt h).2 hn
theorem Abf:Ieee.double.leastPlace=-1074:=by decide
theorem bin:Ieee.double.binade=2 ^ 52:=rfl
theorem Ajn:Ieee.double.infRung=2047*2 ^ 52:=by decide +kernel
theorem AoW:Ieee.double.signWeight=2 ^ 63:=rfl
theorem KZ(way:Toward)(n k d:Nat)(hk:d<=k)(h:n≠0):way.cut false (n*2 ^ k) d=n*2 ^ (k-d):=by
 unfold Toward.cut;rw[NV n k h,AqE (by omega),Nat.one_shiftLeft];have e:n*2 ^ k=n*2 ^ (k-d)*2 ^ d:=by rw[AqP,←Aq8,Nat.sub_add_cancel hk]
 rw[e];dsimp only;rw[Nat.mul_div_cancel _ (AqU d),Nat.mul_mod_left];have hp:=AqU d
 cases way
 .have h1:decide (2 ^ d<2*0)=false:=by simp
  have h2:(2 ^ d == 2*0)=false:=by simp
  simp only[h1,h2,Bool.false_and,Bool.or_self,Bool.toNat_false,Nat.add_zero]
 all_goals simp
theorem W5{L m:Nat}(hL:L<50)(h3:m<2 ^ 53):(L+1022)*2 ^ 52+m<=2047*2 ^ 52:=by
 have h1:(L+1022)*2 ^ 52<=1072*2 ^ 52:=Aqd _ (by omega);have h2:m<2 ^ 52*2:=h3;generalize (2 ^ 52:Nat)=B at *;generalize (L+1022)*B=C at *;omega
theorem AbO(L:Nat):(-1074:Int)+((L+1023-1:Nat):Int)=(L:Int)-52:=by omega
theorem O3(n k:Nat)(h:n≠0)(hn:n<2 ^ 50)(hk:52<=k)(hk2:k<=1074):Ieee.double.nearest false (n*2 ^ k) (-k)=(n.log2+1022)*2 ^ 52+n*2 ^ (52-n.log2):=by
 have hL:=D3 h hn;have h1:=(Arp h).1 rfl;have h0:n*2 ^ k≠0:=AsI h (by have:=AqU k;omega);unfold Format.nearest;rw[if_neg h0,NV n k h,Abf,bin,Ajn];have e1:max (-(k:Int)+((n.log2+k:Nat):Int)-((Ieee.double.fractionBits:Nat):Int)) (-1074)=(n.log2:Int)-52:=by
  show max (-(k:Int)+((n.log2+k:Nat):Int)-((52:Nat):Int)) (-1074)=_
  omega
 simp only[e1];rw[show (-(k:Int)-((n.log2:Int)-52)).toNat=0 by omega,Arg];rw[show ((n.log2:Int)-52 - -(k:Int)).toNat=n.log2+k-52 by omega];rw[KZ .even n k _ (by omega) h,show k-(n.log2+k-52)=52-n.log2 by omega];rw[show ((n.log2:Int)-52 - -1074).toNat=n.log2+1022 by omega];have h3:n*2 ^ (52-n.log2)<2 ^ 53:=by
  have:=Aq4 h1.2 (AqU (52-n.log2))
  rwa [←Aq8,show n.log2+1+(52-n.log2)=53 by omega]at this
 rw[AqE]
 .unfold Format.word;simp
 .exact W5 hL h3
theorem Aap(n:Nat)(h:n≠0)(hn:n<2 ^ 50):enc n=(n.log2+1022)*2 ^ 52+n*2 ^ (52-n.log2):=by
 have hL:=D3 h hn;have h1:=(Arp h).1 rfl;unfold enc Format.nearest;rw[if_neg h,Abf,bin,Ajn];have e1:max ((0:Int)+(n.log2:Int)-((Ieee.double.fractionBits:Nat):Int)) (-1074)=(n.log2:Int)-52:=by
  show max ((0:Int)+(n.log2:Int)-((52:Nat):Int)) (-1074)=_
  omega
 simp only[e1];rw[show ((0:Int)-((n.log2:Int)-52)).toNat=52-n.log2 by omega,show ((n.log2:Int)-52-0).toNat=0 by omega,Ar4];rw[KZ .even n (52-n.log2) 0 (by omega) h,Nat.sub_zero];rw[show ((n.log2:Int)-52 - -1074).toNat=n.log2+1022 by omega];have h3:n*2 ^ (52-n.log2)<2 ^ 53:=by
  have:=Aq4 h1.2 (AqU (52-n.log2))
  rwa [←Aq8,show n.log2+1+(52-n.log2)=53 by omega]at this
 rw[AqE]
 .unfold Format.word;simp
 .exact W5 hL h3
theorem Pv(n k:Nat)(h:n≠0)(hn:n<2 ^ 50)(hk:52<=k)(hk2:k<=1074):Ieee.double.nearest false (n*2 ^ k) (-k)=enc n:=(O3 n k h hn hk hk2).trans (Aap n h hn).symm
theorem Kn(n:Nat)(h:n≠0)(hn:n<2 ^ 50):Ieee.double.read (enc n)=.number false (n*2 ^ (52-n.log2)) ((n.log2:Int)-52):=by
 have hL:=D3 h hn;have h1:=(Arp h).1 rfl;rw[Aap n h hn];have h2:2 ^ 52<=n*2 ^ (52-n.log2):=by
  have:=Aqd (2 ^ (52-n.log2)) h1.1
  rwa [←Aq8,show n.log2+(52-n.log2)=52 by omega]at this
 have h3:n*2 ^ (52-n.log2)<2 ^ 53:=by
  have:=Aq4 h1.2 (AqU (52-n.log2))
  rwa [←Aq8,show n.log2+1+(52-n.log2)=53 by omega]at this
 generalize n*2 ^ (52-n.log2)=m at *;generalize n.log2=L at *;unfold Format.read;rw[AoW,bin,Ajn,Abf];have hw:(L+1022)*2 ^ 52+m<2 ^ 63:=by
  have:(L+1022)*2 ^ 52<=1072*2 ^ 52:=Aqd _ (by omega);omega
 have hm:((L+1022)*2 ^ 52+m) % 2 ^ 63=(L+1022)*2 ^ 52+m:=Nat.mod_eq_of_lt hw;have hd:((L+1022)*2 ^ 52+m) / 2 ^ 63=0:=Nat.div_eq_of_lt hw;have hlt:(L+1022)*2 ^ 52<=1072*2 ^ 52:=Aqd _ (by omega);simp only[hm,hd];have hq:((L+1022)*2 ^ 52+m) / 2 ^ 52=L+1023:=by omega
 have hr:((L+1022)*2 ^ 52+m) % 2 ^ 52=m-2 ^ 52:=by omega
 rw[hq,hr,if_neg (by omega),if_pos (by omega)];have z:((0:Nat) % 2 == 1)=false:=rfl;rw[z,show 2 ^ 52+(m-2 ^ 52)=m by omega];rw[AbO]
theorem JV:enc 1=4607182418800017408:=by decide +kernel
theorem Yn:Ieee.double.read 0=.number false 0 (-1074):=by decide +kernel
theorem VG(n:Nat)(h:n≠0)(hn:n<2 ^ 49):floatBits .add .f64 (enc n) 4607182418800017408=some (enc (n+1)):=by
 have hL:=D3 h (by omega);rw[←JV]
 show Ieee.double.add (enc n) (enc 1)=_
 unfold Format.add;rw[Kn n h (by omega),Kn 1 (by decide) (by decide)];have l1:Nat.log2 1=0:=by decide
 rw[l1];unfold Datum.sum;simp only;have hb:min ((n.log2:Int)-52) (((0:Nat):Int)-52)=-52:=by omega
 rw[hb,show ((n.log2:Int)-52 - -52).toNat=n.log2 by omega,show (((0:Nat):Int)-52 - -52).toNat=0 by omega];unfold signed;simp only[AqM,if_false];rw[Ar4,Arg,AqP,←Aq8,show 52-n.log2+n.log2=52 by omega];have e:((n*2 ^ 52:Nat):Int)+((1*2 ^ (52-0):Nat):Int)=(((n+1)*2 ^ 52:Nat):Int):=by
  rw[Nat.add_mul];omega
 rw[e,if_neg (by omega),Asp];have hd:decide ((((n+1)*2 ^ 52:Nat):Int)<0)=false:=by rw[decide_eq_false_iff_not];omega
 rw[hd]
 show some (Ieee.double.nearest false ((n+1)*2 ^ 52) (-((52:Nat):Int)))=_
 rw[Pv (n+1) 52 (by omega) (by omega) (by decide) (by decide)]
theorem Xa(n:Nat)(h:n≠0)(hn:n<2 ^ 49):floatBits .add .f64 (enc n) 0=some (enc n):=by
 have hL:=D3 h (by omega)
 show Ieee.double.add (enc n) 0=_
 unfold Format.add;rw[Kn n h (by omega),Yn];unfold Datum.sum;simp only;obtain⟨K,hK⟩:∃ K:Nat,K=1074:=⟨_,rfl⟩;have hb:min ((n.log2:Int)-52) (-1074)=-(K:Int):=by omega
 rw[hb,show ((n.log2:Int)-52 - -(K:Int)).toNat=n.log2+K-52 by omega,show ((-1074:Int) - -(K:Int)).toNat=0 by omega];unfold signed;simp only[AqM,if_false];rw[Ar4,Arg,AqP,←Aq8,show 52-n.log2+(n.log2+K-52)=K by omega];have hp:0<n*2 ^ K:=Nat.mul_pos (by omega) (AqU _);rw[show ((n*2 ^ K:Nat):Int)+((0:Nat):Int)=((n*2 ^ K:Nat):Int) by omega,if_neg (by omega),Asp];have hd:decide (((n*2 ^ K:Nat):Int)<0)=false:=by rw[decide_eq_false_iff_not];omega
 rw[hd]
 show some (Ieee.double.nearest false (n*2 ^ K) (-(K:Int)))=_
 rw[Pv n K h (by omega) (by omega) (by omega)]
theorem VU(n:Nat)(h:n≠0)(hn:n<2 ^ 49):floatToIntVal .f64 (enc n) .i64=some (n:Int):=by
 have hL:=D3 h (by omega);unfold floatToIntVal
 show (match (Ieee.double.read (enc n)).toInt .zero with|some m=>if IntKind.i64.min<=m/\m<=IntKind.i64.max then some m else none|none=>none)=_
 rw[Kn n h (by omega)];unfold Datum.toInt Datum.integral;simp only;rw[show ((n.log2:Int)-52).toNat=0 by omega,Arg,show (-((n.log2:Int)-52)).toNat=52-n.log2 by omega];rw[KZ .zero n (52-n.log2) (52-n.log2) (ω _) h,Nat.sub_self,Nat.pow_zero,Nat.mul_one];unfold signed;simp only[AqM,if_false,Arg];have h1:IntKind.i64.min<=(n:Int):=by show (-9223372036854775808:Int)<=_;omega
 have h2:(n:Int)<=IntKind.i64.max:=by show _<=(9223372036854775807:Int);omega
 rw[if_pos ⟨h1,h2⟩]
def Iv(w w':World)(k:Nat):Prop:=w.heap.size<=k/\k<w'.heap.size
structure Jmp (F:Nat->Prop) (w w':World):Prop where
 os:w'.os=w.os
 tape:w'.tape=w.tape
 output:w'.output=w.output
 size:w.heap.size<=w'.heap.size
 keep:∀ k,F k->w'.heap[k]? = w.heap[k]?
section
variable {F G:Nat->Prop} {w w1 w2:World}
theorem Jmp.refl(F:Nat->Prop)(w:World):Jmp F w w:=⟨rfl,rfl,rfl,ω _,λ_ _=>rfl⟩
theorem Jmp.trans(h:Jmp F w w1)(k:Jmp F w1 w2):Jmp F w w2:=⟨k.os.trans h.os,k.tape.trans h.tape,k.output.trans h.output,Aqm h.size k.size,λi hi=>(k.keep i hi).trans (h.keep i hi)⟩
theorem Jmp.less(h:Jmp F w w1)(hs:∀ k,G k->F k):Jmp G w w1:=⟨h.os,h.tape,h.output,h.size,λi hi=>h.keep i (hs i hi)⟩
theorem Jmp.below(h:Jmp (Lt w.heap.size) w w1):Below w.heap.size w w1:=⟨h.os,h.tape,h.output,h.size,λi hi=>h.keep i hi⟩
theorem Jmp.of_below{B:Nat}(h:Below B w w1)(hF:∀ k,F k->k<B):Jmp F w w1:=⟨h.os,h.tape,h.output,h.size,λi hi=>h.block i (hF i hi)⟩
end
section
variable {P:Program} {md:Region.Mode} {ops:Array Oper} {QX:Exit->Act->World->Prop} {Q:Array Bool->(Nat->Prop)->Act->World->Prop}
def wpJ(P:Program)(md:Region.Mode)(ops:Array Oper)(QX:Exit->Act->World->Prop)(Q:Array Bool->(Nat->Prop)->Act->World->Prop):Nat->Array Bool->(Nat->Prop)->Act->World->Prop
 |0,listed,F,a,w=>Region.ready md ops listed=[]/\∀ w',Jmp F w w'->Q listed F a w'
 |n+1,listed,F,a,w=>(Region.ready md ops listed=[]->∀ w',Jmp F w w'->Q listed F a w') ∧
  ∀ i∈Region.ready md ops listed,∀ w',Jmp F w w'->wpOp P ops QX i (λa2 w2=>Below w'.heap.size w' w2/\wpJ P md ops QX Q n (listed.setIfInBounds i true) (λk=>F k\/Iv w' w2 k) a2 w2) a w'
theorem wpJ.jump{n:Nat}{listed:Array Bool}{F:Nat->Prop}{a:Act}{w w':World}(h:wpJ P md ops QX Q n listed F a w)(hj:Jmp F w w'):wpJ P md ops QX Q n listed F a w':=by
 cases n with
 |zero=>exact⟨h.1,λw2 h2=>h.2 w2 (hj.trans h2)⟩
 |succ n=>exact⟨λh0 w2 h2=>h.1 h0 w2 (hj.trans h2),λi hi w2 h2=>h.2 i hi w2 (hj.trans h2)⟩
theorem VF(w:World)(F:Nat->Prop):(λk=>F k\/Iv w w k)=F:=by
 funext k
 unfold Iv;exact propext ⟨λh=>h.elim id λh=>absurd h.2 (by omega),.inl⟩
theorem O8{S S':World->Prop}{o:Oper}{v:Value}{a:Act}(h:YieldsIf P ops S o v a)(hs:∀ w,S' w->S w):YieldsIf P ops S' o v a:=
 h.imp (λ⟨h1,h2⟩=>⟨h1,λw hw=>h2 w (hs w hw)⟩) id
theorem UP{F:Nat->Prop}{w w2:World}(hF:∀ k,F k->k<w.heap.size)(h:w.heap.size<=w2.heap.size):∀ k,F k\/Iv w w2 k->k<w2.heap.size:=
 λk hk=>hk.elim (λh1=>Aqw (hF k h1) h) λh1=>h1.2
theorem Jmp.grow{F:Nat->Prop}{w w':World}(hF:∀ k,F k->k<w.heap.size)(h:Jmp F w w'):∀ k,F k->k<w'.heap.size:=λk hk=>Aqw (hF k hk) h.size
theorem Y1{i:Nat}{oi:Oper}{v:Value}(hi:ops[i]? = some oi)(hsel:∀(j:Nat) (o:Oper) cs b,ops[j]? = some o->o.op≠.select cs b)
  (hQ:∀ c a w,QX (.panic c) (a.put oi.dst v) w->QX (.panic c) a w) :
  ∀(fuel:Nat) (listed:Array Bool) (F:Nat->Prop) (a:Act) (w:World),(∀ k,F k->k<w.heap.size)->
   (∀ j oj,ops[j]? = some oj->j≠i->listed.getD j true=false->(∀ e∈oj.after,Region.binds md e=true->e.on≠i)->oi.apart ops oj=true)->
   i∈Region.ready md ops listed->YieldsIf P ops (Jmp F w) oi v a->
   wpJ P md ops QX Q fuel (listed.setIfInBounds i true) F (a.put oi.dst v) w->wpJ P md ops QX Q (fuel+1) listed F a w:=by
 intro fuel
 induction fuel with
 |zero=>
  intro listed F a w hF _ hr hy H;refine⟨λh=>(by rw[h]at hr;cases hr),λj hj w' hw'=>?_⟩
  by_cases hji:j=i
  .subst hji;exact hy.wpOp hi hw' ⟨Below.refl _ _,by rw[VF];exact H.jump hw'⟩
  .have:=ready_mono hj hji
   rw[H.1]at this
   cases this
 |succ fuel ih=>
  intro listed F a w hF hfree hr hy H;refine⟨λh=>(by rw[h]at hr;cases hr),λj hj w' hw'=>?_⟩
  by_cases hji:j=i
  .subst hji;exact hy.wpOp hi hw' ⟨Below.refl _ _,by rw[VF];exact H.jump hw'⟩
  .have h1:=H.2 j (ready_mono hj hji) w' hw'
   obtain⟨hjun,oj,hoj,hall⟩:=mem_ready.1 hj;have hnot:∀ e∈oj.after,Region.binds md e=true->e.on≠i:=λe he hb heq=>by
    have h1:=hall e he hb;have h0:=(mem_ready.1 hr).1;rw[heq]at h1;rcases ApL i listed.size with h' | h'
    .simp[h']at h0 h1;rw[h0]at h1;cases h1
    .simp[Aqj h']at h1
   have h2:=wpOp_putIf hoj (hfree j oj hoj hji hjun hnot) (λcs b=>hsel i oi cs b hi) (λcs b=>hsel j oj cs b hoj) hQ hy h1;have hfree':∀ k ok,ops[k]? = some ok->k≠i->(listed.setIfInBounds j true).getD k true=false->
     (∀ e∈ok.after,Region.binds md e=true->e.on≠i)->oi.apart ops ok=true:=λk ok hk hki hun hno=>by
    refine hfree k ok hk hki ?_ hno
    by_cases hjk:j=k
    .subst hjk;exact hjun
    .rw[getD_set_ne true hjk]at hun;exact hun
   have hF':=hw'.grow hF;refine wpOp_mono (λa' w2 h3=>⟨h3.2.1,ih (listed.setIfInBounds j true) _ a' w2 (UP hF' h3.2.1.size) hfree' (ready_mono hr (Ne.symm hji)) (O8 h3.1 λw3 h4=>?_) ?_⟩) h2
   .exact hw'.trans ((Jmp.of_below h3.2.1 hF').trans (h4.less λk hk=>.inl hk))
   .rw[Array.setIfInBounds_comm _ _ hji]
    exact h3.2.2
theorem AcT{i:Nat}{oi:Oper}{v:Value}{fuel:Nat}{listed:Array Bool}{F:Nat->Prop}{a:Act}{w:World}(hi:ops[i]? = some oi)
  (hs:Region.noSelect ops=true) (hf:Region.free md ops listed i=true) (hr:(Region.ready md ops listed).contains i=true)
  (hQ:∀ c a w,QX (.panic c) (a.put oi.dst v) w->QX (.panic c) a w) (hF:∀ k,F k->k<w.heap.size) (hy:YieldsIf P ops (Jmp F w) oi v a)
  (h:wpJ P md ops QX Q fuel (listed.setIfInBounds i true) F (a.put oi.dst v) w):wpJ P md ops QX Q (fuel+1) listed F a w:=
 Y1 hi (Region.noSelect_spec hs) hQ fuel listed F a w hF (Region.free_spec hi hf) (by simpa using hr) hy h
theorem AfT{i:Nat}{fuel:Nat}{listed:Array Bool}{F:Nat->Prop}{a:Act}{w:World}(hr:Region.ready md ops listed=[i])
  (h:∀ w',Jmp F w w'->wpOp P ops QX i (λa2 w2=>Below w'.heap.size w' w2/\wpJ P md ops QX Q fuel (listed.setIfInBounds i true) (λk=>F k\/Iv w' w2 k) a2 w2) a w'):wpJ P md ops QX Q (fuel+1) listed F a w:=
 ⟨λh0=>(by rw[hr]at h0;cases h0),λj hj=>by rw[hr]at hj;obtain rfl:=List.mem_singleton.1 hj;exact h⟩
theorem RL{listed:Array Bool}{F:Nat->Prop}{a:Act}{w:World}(hr:Region.ready md ops listed=[])(h:∀ w',Jmp F w w'->Q listed F a w'):∀ fuel,wpJ P md ops QX Q fuel listed F a w
 |0=>⟨hr,h⟩
 |_+1=>⟨λ_=>h,by rw[hr];simp⟩
def BL(n:Nat)(listed:Array Bool):Array Bool:=listed.mapIdx λi b=>b&&decide (i<n)
theorem TP(n:Nat)(listed:Array Bool):(BL n listed).size=listed.size:=by simp[BL]
theorem FG{n:Nat}{listed:Array Bool}{j:Nat}(d:Bool)(hj:j<listed.size):(BL n listed).getD j d=(listed.getD j d&&decide (j<n)):=by
 simp[BL,hj]
theorem OI{n:Nat}{listed:Array Bool}{i:Nat}(hi:i<n):BL n (listed.setIfInBounds i true)=(BL n listed).setIfInBounds i true:=by
 apply As1
 .simp[BL]
 .intro k h1 h2
  by_cases h:i=k
  .subst h;simp[BL,hi]
  .simp[BL,hi]
theorem OK{Q':Exit->Act->World->Prop}:∀(n:Nat) (listed:Array Bool) (a:Act) (w:World),wpAny P md ops Q' n listed a w->wpAny P md ops Q' (n+1) listed a w
 |0,_,_,_,h=>⟨λ_=>h.2,by rw[h.1];simp⟩
 |n+1,_,_,_,h=>⟨h.1,λi hi=>wpOp_mono (λa' w' h'=>OK n _ a' w' h') (h.2 i hi)⟩
theorem OL{Q':Exit->Act->World->Prop}{n:Nat}{listed:Array Bool}{a:Act}{w:World}(h:wpAny P md ops Q' n listed a w):∀ k,wpAny P md ops Q' (n+k) listed a w
 |0=>h
 |k+1=>OK _ _ _ _ (OL h k)
def Agq(md:Region.Mode)(ops:Array Oper)(n:Nat):Bool:=(List.range n).all λi=>match ops[i]? with|some o=>o.after.all (λe=>!Region.binds md e||decide (e.on<n)) | none=>true
theorem RK{n g:Nat}(hh:Agq md ops n=true)(hn:n<ops.size)(hs:Region.sinkB md ops n=true)(hc:Region.chainB md ops n=true)(hQ:∀ listed F a w,Q listed F a w->Region.seqB md ops g n (BL n listed)=true/\wpAny P md ops QX g (BL n listed) a w) :
  ∀(k:Nat) (listed:Array Bool) (F:Nat->Prop) (a:Act) (w:World),listed.size=ops.size->(∀ t,n<=t->t<ops.size->listed.getD t true=true)->HeadInv md ops n (BL n listed)->wpJ P md ops QX Q k listed F a w->
   wpAny P md ops QX (g+k) (BL n listed) a w:=by
 intro k
 induction k with
 |zero=>
  intro listed F a w _ _ _ h;exact(hQ _ _ _ _ (h.2 w (Jmp.refl _ _))).2
 |succ k ih=>
  intro listed F a w hsz ht inv h
  by_cases h0:Region.ready md ops listed=[]
  .exact OL (hQ _ _ _ _ (h.1 h0 w (Jmp.refl _ _))).2 (k+1)
  .obtain⟨i0,hi0⟩:=List.exists_mem_of_ne_nil _ h0
   obtain⟨hun0,o0,ho0,_⟩:=mem_ready.1 hi0;have hlt0:i0<ops.size:=(Ap5.1 ho0).1;have hi0n:i0<n:=by
    rcases ApL i0 n with h' | h'
    .exact h'
    .rw[ht i0 h' hlt0]at hun0;cases hun0
   have hun0':(BL n listed).getD i0 true=false:=by rw[FG true (by omega),hun0];rfl
   have hnt:=tail_waits hs hc hn inv (n-i0) i0 rfl hi0n hun0';have step:∀ i∈Region.ready md ops (BL n listed),wpOp P ops QX i (wpAny P md ops QX (g+k) ((BL n listed).setIfInBounds i true)) a w:=by
    intro i hi;have hin:i<n:=by
     rcases ApL i n with h' | h'
     .exact h'
     .exact absurd hi (hnt i h')
    obtain⟨hun,oi,hoi,hall⟩:=mem_ready.1 hi;have hil:i<listed.size:=by have:=(Ap5.1 hoi).1;omega
    have hir:i∈Region.ready md ops listed:=by
     refine mem_ready.2 ⟨?_,oi,hoi,λe he hb=>?_⟩
     .rw[FG true hil]at hun;simpa[hin]using hun
     .have:=hall e he hb
      have hel:e.on<listed.size:=by
       rcases ApL e.on listed.size with h' | h'
       .exact h'
       .simp[Array.getD_eq_getD_getElem?,Aqj (show (BL n listed).size<=e.on by rw[TP];exact h')]at this
      rw[FG false hel]at this;simp only[ε]at this;exact this.1
    refine wpOp_mono (λa' w' h'=>?_) (h.2 i hir w (Jmp.refl _ _));rw[←OI hin];refine ih _ _ a' w' (by simpa using hsz) (λt h1 h2=>?_) ?_ h'.2
    .rw[getD_set_ne true (by omega)];exact ht t h1 h2
    .rw[OI hin];exact inv.set hi hin
   refine⟨λhr=>?_,step⟩
   exfalso
   obtain⟨_,o1,ho1,hall1⟩:=mem_ready.1 hi0;have hin:i0∈Region.ready md ops (BL n listed):=by
    refine mem_ready.2 ⟨hun0',o1,ho1,λe he hb=>?_⟩;have h1:=List.all_eq_true.1 hh i0 (List.mem_range.2 hi0n);rw[ho1]at h1;have h2:=Array.all_eq_true_iff_forall_mem.1 h1 e he;rw[hb]at h2;simp only[Bool.not_true,Bool.false_or,decide_eq_true_eq]at h2;rw[FG false (by omega),hall1 e he hb];simpa using h2
   rw[hr]at hin
   cases hin
theorem Fg{id:Nat}{Q:Exit->Act->World->Prop}{a:Act}{w:World}{l:List Oper}{L:Array Bool}(n:Nat)(hm:P.follows .mixedOrders=true)(hL:((BL n (ArC l.length true)).map λb=>!b)=L)
  (hB:(Region.noSelect l.toArray&&decide (n<l.length)&&Region.sinkB .any l.toArray n&&Region.chainB .any l.toArray n&&Agq .any l.toArray n)=true)
  (h:wpJ P .any l.toArray Q (λlisted _ a w=>Region.seqB .any l.toArray (l.length-n) n (BL n listed)=true/\wpList P l.toArray Q (l.drop n) a w) n L (Lt w.drew.heap.size) a w.drew):(Code.region id l.toArray true).wp P Q a w:=by
 simp only[ε,decide_eq_true_eq]at hB;subst hL;obtain⟨⟨⟨⟨hsel,hn⟩,hs⟩,hc⟩,hh⟩:=hB;refine wp_region_any hm ?_;have e:BL n (BL n (ArC l.length true) |>.map λb=>!b)=ArC l.toArray.size false:=by
  apply As1
  .simp[BL]
  .intro i h1 h2
   simp[BL]
 have inv:HeadInv .any l.toArray n (BL n (BL n (ArC l.length true) |>.map λb=>!b)):=by
  rw[e];exact⟨by simp,λj oj _ hl=>(by rw[getD_replicate_false]at hl;cases hl),λt _ ht=>getD_in (by simpa using ht) (getD_replicate_false _ _)⟩
 have:=RK (QX:=Q) (g:=l.length-n) hh (by simpa using hn) hs hc (λlisted F a w ⟨h1,h2⟩=>⟨h1,?_⟩) n _ _ a w.drew (by simp[BL]) (λt h1 h2=>?_) inv h
 .have h3:=wpAny_of_seq (md:=.any) (Q':=Q) (l.drop n) n (BL n listed) a w (λj=>by simp[List.getElem?_drop]) (by simpa using h1) h2
  simpa using h3
 .have ht:t<l.length:=by simpa using h2
  simp[BL,ht];omega
 .rw[e,show l.length-n+n=l.toArray.size by simp;omega]at this
  exact this
theorem RM{i:Nat}{o:Oper}(ho:ops[i]? = some o){K:Act->World->Prop}{a:Act}{w:World}(h:wpList P ops (Exit.then K QX) [o] a w):wpOp P ops QX i K a w:=by
 unfold wpOp;simp only[ho];exact h
theorem AcS{i:Nat}{o:Oper}{fuel:Nat}{listed:Array Bool}{F:Nat->Prop}{a:Act}{w:World}(hr:Region.ready md ops listed=[i])(ho:ops[i]? = some o)
  (h:∀ w',Jmp F w w'->∀ K:Act->World->Prop,Hid (∀ a2 w2,Below w'.heap.size w' w2->wpJ P md ops QX Q fuel (listed.setIfInBounds i true) (λk=>F k\/Iv w' w2 k) a2 w2->K a2 w2)->wpList P ops (Exit.then K QX) [o] a w'):wpJ P md ops QX Q (fuel+1) listed F a w:=
 AfT hr λw' hj=>RM ho (h w' hj _ (Lib.hid λ_ _ h1 h2=>⟨h1,h2⟩))
theorem Jmp.cell{F:Nat->Prop}{w w':World}(h:Jmp F w w'){b:Nat}(o:Nat)(hb:F b):w'.cell? ⟨b,o,none⟩=w.cell? ⟨b,o,none⟩:=World.cell?_of_block (a:=⟨b,o,none⟩) (h.keep b hb)
theorem Jmp.fst{F G:Nat->Prop}{w w1:World}(h:Jmp (λk=>F k\/G k) w w1):Jmp F w w1:=h.less λ_=>.inl
theorem Jmp.from{F:Nat->Prop}{w w1 w2:World}(h:Jmp F w w1)(hb:Below w1.heap.size w1 w2)(hF:∀ k,F k->k<w1.heap.size):Jmp F w w2:=h.trans (Jmp.of_below hb hF)
theorem Jmp.back{F:Nat->Prop}{w v w1 w2:World}(h:Jmp F w v)(hF:∀ k,F k->k<w.heap.size)(hb:Below v.heap.size v w1)(k:Jmp (λk=>F k\/Iv v w1 k) w1 w2):Jmp F w w2:=
 h.trans ((Jmp.of_below hb (h.grow hF)).trans k.fst)
theorem Jmp.laid{F:Nat->Prop}{v w1 w2:World}(k:Jmp (λk=>F k\/Iv v w1 k) w1 w2){b:Nat}(h1:v.heap.size<=b)(h2:b<w1.heap.size):w2.heap[b]? = w1.heap[b]?:=k.keep b (.inr ⟨h1,h2⟩)
theorem Jmp.low{w w1:World}(h:Jmp (Lt w.drew.heap.size) w.drew w1):Below w.heap.size w w1:=QC h.below
def Yg{α:Type}:List α->Nat->Option α
 |[],_=>none
 |x::_,0=>some x
 |_::r,i+1=>Yg r i
theorem WA{α:Type}:∀(l:List α) (i:Nat),Yg l i=l[i]?
 |[],_=>rfl
 |_::_,0=>rfl
 |_::r,i+1=>by simpa[Yg]using WA r i
theorem S5{α:Type}{l:List α}{i:Nat}{o:α}(h:Yg l i=some o):l.toArray[i]? = some o:=by rw[List.getElem?_toArray,←WA];exact h
theorem As{l:List Oper}{i:Nat}{oi:Oper}{v:Value}{fuel:Nat}{listed:Array Bool}{F:Nat->Prop}{a:Act}{w:World}(hi:Yg l i=some oi)
  (hs:Region.noSelect l.toArray=true) (hf:Region.free md l.toArray listed i=true) (hr:(Region.ready md l.toArray listed).contains i=true)
  (hQ:∀ c a w,QX (.panic c) (a.put oi.dst v) w->QX (.panic c) a w) (hF:∀ k,F k->k<w.heap.size) (hy:YieldsIf P l.toArray (Jmp F w) oi v a)
  (h:wpJ P md l.toArray QX Q fuel (listed.setIfInBounds i true) F (a.put oi.dst v) w):wpJ P md l.toArray QX Q (fuel+1) listed F a w:=
 AcT (S5 hi) hs hf hr hQ hF hy h
theorem Qt{l:List Oper}{i:Nat}{o:Oper}{fuel:Nat}{listed:Array Bool}{F:Nat->Prop}{a:Act}{w:World}(hr:Region.ready md l.toArray listed=[i])(ho:Yg l i=some o)
  (h:∀ w',Jmp F w w'->∀ K:Act->World->Prop,Hid (∀ a2 w2,Below w'.heap.size w' w2->wpJ P md l.toArray QX Q fuel (listed.setIfInBounds i true) (λk=>F k\/Iv w' w2 k) a2 w2->K a2 w2)->wpList P l.toArray (Exit.then K QX) [o] a w'):wpJ P md l.toArray QX Q (fuel+1) listed F a w:=
 AcS hr (S5 ho) h
end
def later(W x:World):World:={ heap:=W.heap++x.heap.extract W.heap.size x.heap.size,tape:=W.tape,drawn:=x.drawn,os:=W.os,output:=W.output }
theorem A2(W x:World):Below W.heap.size W (later W x):=by
 refine⟨rfl,rfl,rfl,by simp[later],λk hk=>?_⟩
 show (W.heap++_)[k]? = _
 rw[ArM hk]
theorem Aa9{W w:World}(hb:Below W.heap.size W w):w=later W w:=by
 have hh:w.heap=W.heap++w.heap.extract W.heap.size w.heap.size:=by
  apply Array.ext_getElem?;intro i;rcases ApL i W.heap.size with h|h
  .rw[ArM h,hb.block i h]
  .rw[Array.getElem?_append_right h,Array.getElem?_extract]
   by_cases hi:i<w.heap.size
   .rw[if_pos (by have:=hb.size;omega)]
    congr 1
    omega
   .rw[if_neg (by omega),Aqj (by omega)]
 obtain⟨h1,h2,h3,_,_⟩:=hb
 cases w
 simp only at h1 h2 h3 hh;subst h1 h2 h3;simp only[later,World.mk.injEq,and_true];exact hh
@[go_sem] theorem Af7(W x:World)(b o:Nat)(h:b<W.heap.size):(later W x).cell? ⟨b,o,none⟩=W.cell? ⟨b,o,none⟩:=(A2 W x).cell (p:=⟨b,o,none⟩) h
@[go_sem] theorem Ac2(W x:World)(b o:Nat)(h:b<W.heap.size):(later W x).frozen? ⟨b,o,none⟩=W.frozen? ⟨b,o,none⟩:=(A2 W x).frozen (p:=⟨b,o,none⟩) h
theorem AO{P:Program}{id:Nat}{Q:Exit->Act->World->Prop}{a:Act}{w:World}{l:List Oper}(hm:P.follows .mixedOrders=true)(hB:Region.lexB .any l.toArray=true)
  (h:wpQuiet P l.toArray (λw'=>∃ x,w'=later w x) (λa'=>∀ w',(∃ x,w'=later w x)->Q .normal a' w') l a):(Code.region id l.toArray true).wp P Q a w:=
 wp_region_quiet (C:=λw'=>∃ x,w'=later w x) hm hB ⟨w.drew,Aa9 (Below.refl _ _).drew⟩ (by simpa using h)
theorem UX{P:Program}{f:FuncId}{args:Array Value}{W x:World}{v:Value}(h:Calls P f args (later W x) λe w'=>e=.returned v/\later W x=w') :
  Calls P f args (later W x) λe w'=>e=.returned v/\∃ y,w'=later W y:=
 h.mono λ_ _ ⟨he,hw⟩=>⟨he,x,hw.symm⟩
end Go.Proofs.YtlmhajfbpplpoaaGreat
