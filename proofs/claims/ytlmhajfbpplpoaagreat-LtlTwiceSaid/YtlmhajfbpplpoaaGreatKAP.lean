/- The text of a right tree -/
import Derived.Test.YtlmhajfbpplpoaaGreatKAO
set_option linter.all false
open Bool renaming false->Θ,true->U,and_eq_false_iff->AxP,and_eq_true->η,false_and->Aw3,false_eq_true->Awx,not_eq_true'->AxV,or_false->AyW,true_and->AwD,true_eq_false->AyS
open List renaming all_cons->Axn,all_eq_true->Awu,append_assoc->Awr,append_nil->AwV,cons_append->AwI,contains_cons->Ays,contains_nil->Ayy,drop->Awv,drop_eq_getElem_cons->χ,drop_eq_nil_of_le->υ,drop_succ_cons->Aya,drop_zero->κ,find?_cons->Ayo,findIdx?_eq_some_iff_getElem->AwZ,getElem?_eq_getElem->Ψ,length_append->ζ,length_cons->π,length_drop->AwR,length_eq_zero_iff->AwX,length_nil->Aw4,length_singleton->Aw5,mem_cons->Awt,mem_of_getElem?->Axc,mem_singleton->AwY,nil_append->AwC,not_mem_nil->AzB,singleton_append->Axh,take->Aws
open Nat renaming le_refl->ω,le_succ->AyP,le_trans->Aw6,lt_succ_self->Awz,succ_ne_zero->AzE,zero_le->Axb
open Option renaming some->V
namespace Go.Proofs.YtlmhajfbpplpoaaGreat
open ABlk renaming mk->θ
open AV renaming agg->Φ,ls->Ξ,tup->γ
open BO renaming set->Awp
open IntKind renaming i64->φ
open Key renaming fn->Ω
open Go.RowKit
def ktR:LexR->Option (List KT)
 |.ok ts=>V (ts.map kt)
 |.err ..=>none
theorem QJ(t:Tk)(r:LexR):ktR (r.more t)=(ktR r).map (kt t::·):=by cases r<;>rfl
theorem Aj0:∀(n:Nat) (l:List UInt8) (p q:Nat × Nat),l.length<=n->ktR (GX l p)=ktR (GX l q):=by
 intro n
 induction n with
 |zero=>
  intro l p q h;obtain rfl:l=[]:=AwX.1 (by omega);rw[CU,CU];rfl
 |succ n ih=>
  intro l p q h;rw[CU,CU]
  cases ht:Dr (l.drop (Ei Θ l)) with
  |fin=>rfl
  |err e=>rfl
  |tok k m=>
   have h1:=EX ht;rw[AwR]at h1;simp only[QJ];rw[ih _ _ (adv (adv q (l.take (Ei Θ l))) ((l.drop (Ei Θ l)).take m)) (by rw[AwR];omega)];rfl
def CF(l:List UInt8):Option (List KT):=ktR (GX l (1,1))
theorem SP(l:List UInt8)(p:Nat × Nat):ktR (GX l p)=CF l:=Aj0 _ l p (1,1) (ω _)
theorem AcR:CF []=V [(5,[])]:=by
 unfold CF;rw[CU];rfl
theorem Gl{l:List UInt8}{k n:Nat}(hg:Ei Θ l=0)(h:Dr l=.tok k n):CF l=(CF (l.drop n)).map ((k,l.take n)::·):=by
 unfold CF;rw[CU,hg];simp only[κ,h,QJ,Nat.zero_add];rw[SP];rfl
theorem Apu(l:List UInt8):Ei Θ (32::l)=Ei Θ l+1:=by
 show (if _ then _ else _)=_
 rw[Ab (by decide),Ab (by decide),Ab (by decide),Ac (by decide)]
theorem Di(l:List UInt8):CF (32::l)=CF l:=by
 show ktR (GX _ _)=ktR (GX _ _)
 rw[CU (32::l),CU l,Apu,Aya]
 cases ht:Dr (l.drop (Ei Θ l)) with
 |fin=>rfl
 |err e=>rfl
 |tok k m=>
  simp only[QJ,SP];rw[show Ei Θ l+1+m=(Ei Θ l+m)+1 by omega,Aya];rfl
def StopB(rest:List UInt8):Prop:=rest=[]\/∃ c r,rest=c::r/\(c=32\/c=41)
def Aad(rest:List UInt8):Prop:=rest=[]\/∃ c r,rest=c::r/\(c=32\/c=41\/c=42)
theorem StopB.n{rest:List UInt8}(h:StopB rest):Aad rest:=by
 rcases h with h|⟨c,r,h,h2⟩
 .exact .inl h
 .exact .inr ⟨c,r,h,by rcases h2 with h2|h2<;>simp[h2]⟩
theorem Py(q:UInt8->Bool)(rest:List UInt8)(hr:rest=[]\/∃ c r,rest=c::r/\q c=Θ):∀ l:List UInt8,l.all q=U->DD q (l++rest)=l.length
 |[],_=>by
  rcases hr with rfl|⟨c,r,rfl,h⟩
  .rfl
  .show DD q (c::r)=0
   unfold DD;rw[h];rfl
 |c::l,h=>by
  rw[Axn,η]at h;rw[AwI];unfold DD;rw[Ac h.1,Py q rest hr l h.2];rfl
theorem Aio{rest:List UInt8}(h:Aad rest)(q:UInt8->Bool)(h1:q 32=Θ)(h2:q 41=Θ)(h3:q 42=Θ):rest=[]\/∃ c r,rest=c::r/\q c=Θ:=by
 rcases h with h|⟨c,r,h,h5⟩
 .exact .inl h
 .grind
theorem T6(l rest:List UInt8):(l++rest).take l.length=l:=by simp
theorem T5(l rest:List UInt8):(l++rest).drop l.length=rest:=by simp
theorem SS{l rest:List UInt8}(h:DZ l=U)(hr:Aad rest):CF (l++rest)=(CF rest).map ((3,l)::·):=by
 unfold DZ at h;simp only[η,AxV,decide_eq_true_eq]at h;obtain⟨⟨⟨h1,h2⟩,h3⟩,h4⟩:=h
 cases l with
 |nil=>simp at h1
 |cons c l=>
  have hd:BE c=U:=by
   grind
  have hs:=Py BE rest (Aio hr BE (by decide) (by decide) (by decide)) (c::l) h4;have ht:Dr ((c::l)++rest)=.tok 3 (c::l).length:=by
   rw[AwI,BG,Ab,Ac hd]
   .grind
   .grind [BE,D6]
  have hg:Ei Θ ((c::l)++rest)=0:=Ie _ (Aau hd);rw[Gl hg ht,T6,T5]
theorem Gz{l rest:List UInt8}(h:GR l=U)(hr:Aad rest):CF (l++rest)=(CF rest).map ((1,l)::·):=by
 unfold GR at h;simp only[η,AxV,decide_eq_true_eq]at h;obtain⟨⟨⟨h1,h2⟩,h3⟩,h4⟩:=h
 cases l with
 |nil=>simp at h1
 |cons c l=>
  have hd:D6 c=U:=h3;have hs:=Py EL rest (Aio hr EL (by decide) (by decide) (by decide)) (c::l) h4;have ht:Dr ((c::l)++rest)=.tok 1 (c::l).length:=by
   simp_all [AwI,Ab,Ac,BG]
  have hg:Ei Θ ((c::l)++rest)=0:=Ie _ (UL hd);rw[Gl hg ht,T6,T5]
theorem Xo{c:UInt8}(h:J3 c=U):D6 c=Θ/\BE c=Θ/\Ho c=Θ:=by
 unfold J3 at h;unfold D6 BE Ho;simp only[Ays,Ayy,Bool.or_eq_true,beq_iff_eq,AyW]at h;simp only[AxP,decide_eq_false_iff_not,Ays,Ayy,Bool.or_eq_false_iff,beq_eq_false_iff_ne,AyW];omega
theorem CL{c:UInt8}{rest:List UInt8}(h1:J3 c=U)(h2:rest=[]\/∃ d r,rest=d::r/\Jh c d=Θ):CF (c::rest)=(CF rest).map ((2,[c])::·):=by
 obtain⟨k1,k2,k3⟩:=Xo h1;have hs:Cc (c::rest)=1:=by
  rcases h2 with rfl|⟨d,r,rfl,h2⟩
  .rw[I8,Ac h1]
  .simp_all [Ab,Ac,K5]
 have ht:Dr (c::rest)=.tok 2 1:=by
  rw[BG,k1,k2,k3,hs];rfl
 rw[Gl (Ie _ (UX h1)) ht];rfl
theorem IY{c d:UInt8}{rest:List UInt8}(h2:Jh c d=U):CF (c::d::rest)=(CF rest).map ((2,[c,d])::·):=by
 have h1:=AbR h2;obtain⟨k1,k2,k3⟩:=Xo h1;have hs:Cc (c::d::rest)=2:=by rw[K5,Ac h2]
 have ht:Dr (c::d::rest)=.tok 2 2:=by
  rw[BG,k1,k2,k3,hs];rfl
 rw[Gl (Ie _ (UX h1)) ht];rfl
theorem Ali{c:UInt8}(h1:c≠45)(h2:c≠58)(h3:c≠33)(h4:c≠60)(h5:c≠62)(h6:c≠46)(d:UInt8):Jh c d=Θ:=by
 unfold Jh R8;have e:∀ n:UInt8,c≠n->c.toNat≠n.toNat:=λn h h'=>h (UInt8.toNat_inj.1 h')
 have e1:=e _ h1;have e2:=e _ h2;have e3:=e _ h3;have e4:=e _ h4;have e5:=e _ h5;have e6:=e _ h6;simp only[show (45:UInt8).toNat=45 from rfl,show (58:UInt8).toNat=58 from rfl,show (33:UInt8).toNat=33 from rfl,show (60:UInt8).toNat=60 from rfl,show (62:UInt8).toNat=62 from rfl,show (46:UInt8).toNat=46 from rfl]at e1 e2 e3 e4 e5 e6;rw[Ab (λh=>e1 h.1),Ab (λh=>e2 h.1),Ab (λh=>e3 h.1),Ab (λh=>e4 h.1),Ab (λh=>e5 h.1),Ab (λh=>e6 h.1)];split<;>rfl
def HdB(s:List UInt8):Prop:=∃ d r,s=d::r/\(D6 d=U\/BE d=U\/d=45\/d=40\/d=33)
theorem Aqw{c d:UInt8}(hd:D6 d=U\/BE d=U\/d=45\/d=40\/d=33):Jh c d=Θ:=by
 have:d.toNat≠62/\d.toNat≠61/\d.toNat≠46:=by
  unfold D6 BE at hd;simp only[η,decide_eq_true_eq]at hd;rcases hd with h|h|rfl|rfl|rfl
  .omega
  .omega
  .decide
  .decide
  .decide
 unfold Jh R8;rw[Ab (λh=>this.1 h.2),Ab (λh=>this.2.1 h.2),Ab (λh=>this.2.1 h.2),Ab (λh=>this.2.1 h.2),Ab (λh=>this.2.1 h.2),Ab (λh=>this.2.2 h.2)];split<;>rfl
def Lx(s:List UInt8)(ks:List KT):Prop:=∀ rest,StopB rest->CF (s++rest)=(CF rest).map (ks++·)
theorem DW(a b:List KT)(o:Option (List KT)):(o.map (b++·)).map (a++·)=o.map ((a++b)++·):=by cases o<;>simp
theorem EO(a:KT)(o:Option (List KT)):o.map (a::·)=o.map ([a]++·):=rfl
theorem KJ(b:ByteArray):Ai b.data.toList=b:=rfl
theorem UP{b:ByteArray}(h:b=Ai []):b.data.toList=[]:=by rw[h];rfl
theorem EC{l:List UInt8}(h:Ce l=U):GR l=U:=by
 grind [Ce]
theorem PT{l:List UInt8}(h:GR l=U)(r:List UInt8):HdB (l++r):=by
 unfold GR at h;simp only[η,AxV,decide_eq_true_eq]at h
 cases l with
 |nil=>simp at h
 |cons c l=>exact⟨c,l++r,rfl,.inl h.1.2⟩
theorem Ahj{l:List UInt8}(h:DZ l=U)(r:List UInt8):HdB (l++r):=by
 unfold DZ at h;simp only[η,AxV,decide_eq_true_eq,Awu]at h
 cases l with
 |nil=>simp at h
 |cons c l=>exact⟨c,l++r,rfl,.inr (.inl (h.2 c (List.mem_cons_self ..)))⟩
theorem HdB.app{s:List UInt8}(h:HdB s)(r:List UInt8):HdB (s++r):=by
 obtain⟨d,r',rfl,h⟩:=h;exact⟨d,r'++r,rfl,h⟩
theorem HdB.two{s:List UInt8}(h:HdB s)(c:UInt8):s=[]\/∃ d r,s=d::r/\Jh c d=Θ:=by
 obtain⟨d,r,rfl,h⟩:=h;exact .inr ⟨d,r,rfl,Aqw h⟩
theorem Il{m:Mo}(h:AS m=U):(m.num≠Ai []->DZ m.num.data.toList=U)/\(m.var≠Ai []->Ce m.var.data.toList=U)/\(m.num=Ai []->m.var≠Ai []):=by
 grind [AS]
theorem AoA{m:Mo}(h:AS m=U):HdB (CC m):=by
 obtain⟨h1,h2,h3⟩:=Il h;unfold CC;split
 .first|grind [Ahj] | grind [Awr,Ahj]
 .rename_i e
  by_cases hn:m.num=Ai []
  .rw[UP hn,AwC]
   have:=PT (EC (h2 (h3 hn))) []
   rwa [AwV]at this
  .exact Ahj (h1 hn) _
theorem AsL{m:Mo}(h:AS m=U):Lx (CC m) (NC m):=by
 intro rest hr;obtain⟨h1,h2,h3⟩:=Il h;unfold CC NC
 by_cases hn:m.num=Ai []
 .rw[Ab (λe=>e.1 hn),Ab (λe=>e hn),UP hn,AwC,Gz (EC (h2 (h3 hn))) hr.n]
  rfl
 .rw[Ac hn]
  by_cases hv:m.var=Ai []
  .rw[Ab (λe=>e.2 hv),Ab (λe=>e hv),UP hv,AwV,SS (h1 hn) hr.n]
   rfl
  .rw[Ac ⟨hn,hv⟩,Ac hv]
   rw[Awr,Awr,Axh,SS (h1 hn) (.inr ⟨42,_,rfl,.inr (.inr rfl)⟩),CL (by decide) ((PT (EC (h2 hv)) rest).two 42),Gz (EC (h2 hv)) hr.n];simp only[EO,DW];rfl
theorem AdS(m:Mo)(i:Nat)(r rest:List UInt8):StopB ((Nn (i+1) m++r)++rest):=by
 unfold Nn;rw[Ab (AzE i),Ab (AzE i)]
 by_cases hn:m.neg=U
 .rw[Ac hn]
  exact .inr ⟨32,_,rfl,.inl rfl⟩
 .rw[Ab hn]
  exact .inr ⟨32,_,rfl,.inl rfl⟩
theorem Ait:∀(ms:List Mo) (i:Nat),ms.all AS=U->Lx (CA i ms) (Df i ms)
 |[],i,_=>λrest _=>by
  show CF rest=(CF rest).map ([]++·)
  cases CF rest<;>rfl
 |m::r,i,h=>λrest hr=>by
  rw[Axn,η]at h;have ih:=Ait r (i+1) h.2 rest hr;have hs:StopB (CA (i+1) r++rest):=by
   cases r with
   |nil=>exact hr
   |cons m' r'=>
    have:=AdS m' i (CC m'++CA (i+1+1) r') rest;simp only[CA,Awr]at this ⊢;exact this
  have hm:=AsL h.1 _ hs;rw[ih,DW]at hm;have hh:HdB (CC m++(CA (i+1) r++rest)):=(AoA h.1).app _;unfold CA Df Nn AdJ;rw[Awr,Awr]
  by_cases hn:m.neg=U
  .rw[Ac hn,Ac hn]
   by_cases h0:i=0
   .rw[Ac h0,Axh,CL (by decide) (hh.two 45),hm,EO,DW,Awr]
   .rw[Ab h0]
    show CF (32::45::32::(CC m++(CA (i+1) r++rest)))=_
    rw[Di,CL (by decide) (.inr ⟨32,_,rfl,by decide⟩),Di,hm,EO,DW,Awr]
  .rw[Ab hn,Ab hn]
   by_cases h0:i=0
   .grind
   .rw[Ab h0,Ab h0]
    show CF (32::43::32::(CC m++(CA (i+1) r++rest)))=_
    rw[Di,CL (by decide) (.inr ⟨32,_,rfl,by decide⟩),Di,hm,EO,DW,Awr]
theorem D9{ms:List Mo}(h:IG ms=U):0<ms.length/\ms.length<=64/\ms.all AS=U:=by
 grind [IG]
theorem TA{ms:List Mo}(h:IG ms=U):Lx (C0 ms) (Df 0 ms):=by
 simp_all [C0,Ac,D9,Ait]
theorem AdP{ms:List Mo}(h:IG ms=U):HdB (C0 ms):=by
 unfold C0;rw[Ac h];obtain⟨h1,_,h3⟩:=D9 h
 cases ms with
 |nil=>simp at h1
 |cons m r=>
  rw[Axn,η]at h3;unfold CA Nn
  by_cases hn:m.neg=U
  .rw[Ac hn,Ac rfl]
   exact⟨45,_,rfl,.inr (.inr (.inl rfl))⟩
  .rw[Ab hn,Ac rfl]
   exact((AoA h3.1).app _:HdB (CC m++_))
theorem AsQ{op:Int}(h1:0<=op)(h2:op<=5)(rest:List UInt8):CF (E2.getD op.toNat []++32::rest)=(CF (32::rest)).map ([(2,E2.getD op.toNat [])]++·):=by
 have:op.toNat<6:=by omega
 generalize op.toNat=n at this
 match n,this with
 |0,_=>exact CL (by decide) (.inr ⟨32,_,rfl,by decide⟩)
 |1,_=>exact IY (by decide)
 |2,_=>exact CL (by decide) (.inr ⟨32,_,rfl,by decide⟩)
 |3,_=>exact IY (by decide)
 |4,_=>exact CL (by decide) (.inr ⟨32,_,rfl,by decide⟩)
 |5,_=>exact IY (by decide)
theorem AeR{l r:List Mo}{op:Int}(hl:IG l=U)(hr:IG r=U)(h1:0<=op)(h2:op<=5):Lx (JI l r op) (Df 0 l++[(2,E2.getD op.toNat [])]++Df 0 r)/\HdB (JI l r op):=by
 constructor
 .intro rest hrest
  unfold JI;have e:C0 l++[32]++E2.getD op.toNat []++[32]++C0 r++rest=C0 l++(32::(E2.getD op.toNat []++(32::(C0 r++rest)))):=by simp
  rw[e,TA hl _ (.inr ⟨32,_,rfl,.inl rfl⟩)];rw[Di,AsQ h1 h2,Di,TA hr _ hrest,DW,DW]
 .unfold JI
  simp only[Awr];exact(AdP hl).app _
theorem Alh:Lx [116,114,117,101] [(1,[116,114,117,101])]:=λrest hr=>Gz (by decide) hr.n
theorem AfF:Lx [102,97,108,115,101] [(1,[102,97,108,115,101])]:=λrest hr=>Gz (by decide) hr.n
theorem Ao6{c:UInt8}(hc:c=38\/c=124){s t:List UInt8}{ks js:List KT}(h:Lx s ks)(g:Lx t js):Lx (s++[32,c,32]++t) (ks++[(2,[c])]++js):=λrest hr=>by
 have e:s++[32,c,32]++t++rest=s++(32::c::32::(t++rest)):=by simp
 rw[e,h _ (.inr ⟨32,_,rfl,.inl rfl⟩),Di,CL (by rcases hc with rfl|rfl<;>decide) (.inr ⟨32,_,rfl,by rcases hc with rfl|rfl<;>decide⟩),Di,g _ hr];simp only[EO,DW];simp only[Awr]
def Vw(b:Bool)(s:List UInt8):List UInt8:=if b then [40]++s++[41] else s
def Fa(b:Bool)(s:List KT):List KT:=if b then [(2,[40])]++s++[(2,[41])] else s
theorem Mb{k:Int}{d i:Nat}{x:Tr}{r:List Tr}(h:E4 k d i (x::r)=U):E0 (brk k i x.kind) d<=60/\BI x (E0 (brk k i x.kind) d)=U/\E4 k d (i+1) r=U:=by
 grind [E4]
inductive ShapeT:Tr->Nat->Prop where
 |tt (d:Nat):ShapeT (.mk 0 [] [] 0 (Ai []) (Ai []) []) d
 |ff (d:Nat):ShapeT (.mk 1 [] [] 0 (Ai []) (Ai []) []) d
 |cmp (d:Nat) {l r:List Mo} {op:Int} (hl:IG l=U) (hr:IG r=U) (h1:0<=op) (h2:op<=5):ShapeT (.mk 2 l r op (Ai []) (Ai []) []) d
 |no (d:Nat) {x:Tr} (hd:E0 (brk 3 0 x.kind) (d+1)<=60) (h:BI x (E0 (brk 3 0 x.kind) (d+1))=U):ShapeT (.mk 3 [] [] 0 (Ai []) (Ai []) [x]) d
 |bin (d:Nat) {k:Int} {x y:Tr} (hk:k=4\/k=5) (hd:E0 (brk k 0 x.kind) d<=60) (h:BI x (E0 (brk k 0 x.kind) d)=U) (gd:E0 (brk k 1 y.kind) d<=60) (g:BI y (E0 (brk k 1 y.kind) d)=U):ShapeT (.mk k [] [] 0 (Ai []) (Ai []) [x,y]) d
theorem Rt{t:Tr}{d:Nat}(h:BI t d=U):ShapeT t d:=by
 obtain⟨k,l,r,op,p,q,ks⟩:=t;rw[BI]at h
 by_cases h2:k=2
 .rw[Ac h2]at h
  subst h2;unfold Hp at h;simp only[η,decide_eq_true_eq]at h;obtain⟨⟨⟨⟨⟨⟨⟨_,hl⟩,hr⟩,h3⟩,h4⟩,rfl⟩,rfl⟩,h5⟩:=h;obtain rfl:ks=[]:=AwX.1 h5;exact .cmp d hl hr h3 h4
 .rw[Ab h2]at h
  unfold Eh at h;simp only[η,decide_eq_true_eq]at h;obtain⟨⟨⟨⟨⟨⟨⟨hl,hr⟩,rfl⟩,rfl⟩,rfl⟩,ha⟩,hd⟩,hk⟩:=h;obtain rfl:l=[]:=AwX.1 hl;obtain rfl:r=[]:=AwX.1 hr;have hks:∀ n:Nat,(ks.length:Int)=(n:Int)->ks.length=n:=λn h=>by omega
  unfold arI at ha
  by_cases h0:k=0
  .subst h0
   rw[Ac rfl]at ha;obtain rfl:ks=[]:=AwX.1 (by omega);exact .tt d
  rw[Ab h0]at ha
  by_cases h1:k=1
  .subst h1
   rw[Ac rfl]at ha;obtain rfl:ks=[]:=AwX.1 (by omega);exact .ff d
  rw[Ab h1]at ha
  by_cases h3:k=3
  .subst h3
   rw[Ac rfl]at ha
   match ks,ha,hk with
   |[x],_,hk=>
    obtain⟨k1,k2,_⟩:=Mb hk;exact .no d k1 k2
  rw[Ab h3]at ha;rw[Be h3]at hk;have hb:(k=4\/k=5)/\ks.length=2:=by
   omega
  match ks,hb.2,hk with
  |[x,y],_,hk=>
   obtain⟨k1,k2,hk⟩:=Mb hk;obtain⟨k3,k4,_⟩:=Mb hk;exact .bin d hb.1 k1 k2 k3 k4
theorem AcQ{s:List UInt8}{ks:List KT}(h:Lx s ks)(hs:s.length<=16384):∃ ts,BV s=.ok ts/\ts.map kt=ks++[(5,[])]:=by
 have g:=h [] (.inl rfl);rw[AwV,AcR]at g;unfold BV;rw[Ab (by omega)];unfold CF at g
 cases e:GX s (1,1) with
 |ok ts=>
  rw[e]at g;exact⟨ts,rfl,Option.some.inj g⟩
 |err c ln co=>
  rw[e]at g
  cases g
def E8(ts:List Tk)(i:Nat)(ks:List KT):Prop:=(ts.map kt).drop i=ks
section
variable {ts:List Tk}
theorem Bi{i:Nat}{a:KT}{r:List KT}(h:E8 ts i (a::r)):((nx ts i).kind=a.1/\(nx ts i).text=a.2)/\E8 ts (i+1) r:=by
 unfold E8 at h ⊢;have h1:(ts.map kt)[i]? = V a:=by
  have:=congrArg (λl=>l[0]?) h;simpa using this
 rw[List.getElem?_map]at h1;refine⟨?_,?_⟩
 .unfold nx
  cases e:ts[i]? with
  |none=>rw[e]at h1;cases h1
  |some t=>
   rw[e]at h1;have:kt t=a:=Option.some.inj h1;rw[←this];exact⟨rfl,rfl⟩
 .have:=congrArg (Awv 1) h
  rw[List.drop_drop]at this;simpa[Nat.add_comm]using this
theorem Ds:∀{a r:List KT} {i:Nat},E8 ts i (a++r)->E8 ts (i+a.length) r
 |[],r,i,h=>h
 |x::a,r,i,h=>by
  have:=Ds (a:=a) (r:=r) (Bi h).2;rw[π,show i+(a.length+1)=i+1+a.length by omega];exact this
theorem N5{i:Nat}{a:KT}{r:List KT}(h:E8 ts i (a::r))(s:List UInt8):isT ts i s=(decide (a.2=s)&&(decide (a.1=1)||decide (a.1=2)||decide (a.1=4))):=by
 unfold isT;rw[(Bi h).1.1,(Bi h).1.2]
theorem Bc{i:Nat}{a:KT}{r:List KT}(h:E8 ts i (a::r)){s:List UInt8}(hs:a.2≠s):isT ts i s=Θ:=by
 rw[N5 h,Be hs,Aw3]
theorem Du{i:Nat}{s:List UInt8}{r:List KT}(h:E8 ts i ((2,s)::r)):isT ts i s=U:=by
 rw[N5 h];simp
theorem Zy(m:Mo){a b:ByteArray}(h1:a=m.num)(h2:b=m.var):(⟨m.neg,a,b⟩:Mo)=m:=by rw[h1,h2]
def AlB(a:KT):Prop:=a=(5,[])\/a=(2,[41])\/a=(2,[38])\/a=(2,[124])
theorem ApY{m:Mo}(h:AS m=U):∃ a r,NC m=a::r/\a.2≠[45]/\a.2≠[33]/\a.2≠[40]/\a.2≠[116,114,117,101]/\a.2≠[102,97,108,115,101]:=by
 obtain⟨h1,h2,h3⟩:=Il h;have fn:∀ l,DZ l=U->l≠[45]/\l≠[33]/\l≠[40]/\l≠[116,114,117,101]/\l≠[102,97,108,115,101]:=λl h=>by
  refine⟨?_,?_,?_,?_,?_⟩<;>(rintro rfl;revert h;decide)
 have fv:∀ l,Ce l=U->l≠[45]/\l≠[33]/\l≠[40]/\l≠[116,114,117,101]/\l≠[102,97,108,115,101]:=λl h=>by
  refine⟨?_,?_,?_,?_,?_⟩<;>(rintro rfl;revert h;decide)
 unfold NC
 by_cases hn:m.num=Ai []
 .simp_all
 .rw[Ac hn]
  by_cases hv:m.var=Ai []
  .simp_all
  .simp_all
theorem Ap4{i n:Nat}(hn:n<6){q:List KT}(h:E8 ts i ((2,E2.getD n [])::q)):opP ts i=V n:=by
 unfold opP;have e:isT ts i=λs=>decide (E2.getD n []=s):=by
  funext s
  rw[N5 h];simp
 rw[e]
 match n,hn with
 |0,_=>decide
 |1,_=>decide
 |2,_=>decide
 |3,_=>decide
 |4,_=>decide
 |5,_=>decide
theorem AsR{n:Nat}(hn:n<6):(E2.getD n [])≠[42]/\(E2.getD n [])≠[43]/\(E2.getD n [])≠[45]:=by
 match n,hn with
 |0,_=>decide
 |1,_=>decide
 |2,_=>decide
 |3,_=>decide
 |4,_=>decide
 |5,_=>decide
end
section
variable {ts:List Tk}
theorem AiA(j:Nat)(x:Tr)(k:Nat->Tr->Nat × Nat × Tr):Br (j,0,x) k=k j x:=by
 unfold Br;rw[Ac rfl]
theorem YB{n j d:Nat}{x:Tr}{a:KT}{q:List KT}(h:E8 ts j (a::q))(ha:a.2≠[124]):Ya ts [] Θ (n+1) (.condL x) j d=(j,0,x):=by
 show (if isT ts j [124] then _ else _)=_
 rw[Bc h ha];rfl
theorem Ahp{n i d:Nat}{q:List KT}(h:E8 ts i ((2,[40])::q))(hd:d≠60):Ya ts [] Θ (n+1) .one i d=Br (Ya ts [] Θ n .cond (i+1) (d+1)) λj x=>if isT ts j [41] then(j+1,0,x) else(j,101,T0):=by
 show (if _ then _ else _)=_
 rw[Ab (λe=>hd e.2),Bc h (by decide),Bc h (by decide),Bc h (by decide),Du h];rfl
def P1(ts:List Tk)(b:Bool)(t:Tr):Prop:=∀(f i d:Nat) (a:KT) (q:List KT),E8 ts i (Fa b (Nz t)++a::q)->AlB a->E0 b d<=60->BI t (E0 b d)=U->4*(Fa b (Nz t)).length<=f->Ya ts [] Θ f .one i d=(i+(Fa b (Nz t)).length,0,t)
def P3(ts:List Tk)(t:Tr):Prop:=∀(f i d:Nat) (a:KT) (q:List KT),E8 ts i (Nz t++a::q)->AlB a->a.2≠[38]->d<=60->BI t d=U->4*(Nz t).length+2<=f->
 ∃ g,f<=g+4*(Nz t).length/\1<=g/\Ya ts [] Θ f .cond i d=Ya ts [] Θ g (.condL t) (i+(Nz t).length) d
theorem Aji(s:List KT):(Fa U s).length=s.length+2:=by
 unfold Fa;rw[Ac rfl];simp
theorem P1.br{t:Tr}(h:P3 ts t):P1 ts U t:=by
 intro f i d a q hat ha hd hr hf;rw[Aji]at hf ⊢;obtain⟨n,rfl⟩:∃ n,f=n+1:=⟨f-1,by omega⟩;have hat:E8 ts i ((2,[40])::(Nz t++(2,[41])::a::q)):=by
  grind [Fa,Nz]
 have hd:d+1<=60:=hd;have h2:=(Bi hat).2;obtain⟨g,g1,g2,g3⟩:=h n (i+1) (d+1) (2,[41]) (a::q) h2 (.inr (.inl rfl)) (by decide) hd hr (by omega);obtain⟨g,rfl⟩:∃ n,g=n+1:=⟨g-1,by omega⟩;have h3:=Ds h2;rw[Ahp hat (by omega),g3,YB h3 (by decide),AiA,Du h3,Ac rfl];rw[show i+1+(Nz t).length+1=i+((Nz t).length+2) by omega]
end
theorem AhS{t:Tr}{d:Nat}(hd:d<=60)(h:ShapeT t d):BI t d=U:=by
 cases h with
 |tt=>rw[BI];simp[Eh,arI,E0,hd,E4]
 |ff=>rw[BI];simp[Eh,arI,E0,hd,E4]
 |cmp _ hl hr h1 h2=>rw[BI];simp[Hp,hl,hr,h1,h2]
 |@no _ x hx h=>
  have:d+1<=60:=by
   grind [brk,E0]
  have e:E0 (decide ((3:Int)=3)) d=d+1:=rfl;rw[BI,Ab (by decide),e];simp only[E4,hx,h];simp[Eh,arI,this]
 |@bin _ k x y hk hx h gd g=>
  have e:E0 (decide ((k:Int)=3)) d=d:=by rw[Be (by omega)];rfl
  have a:arI k=2:=by rcases hk with rfl|rfl<;>rfl
  rw[BI,Ab (by omega),e,a];simp only[E4,hx,h,gd,g];simp[Eh,hd]
structure TkN (ts:List Tk):Prop where
 fin:(ts.getLastD ⟨5,[],0,0⟩).kind=5
 num:∀ i,(nx ts i).kind=3->DZ (nx ts i).text=U
section
variable {ts:List Tk} (H:TkN ts)
include H
omit H in
theorem Za{i:Nat}(h:isN ts i=U):(nx ts i).kind=1/\Ce (nx ts i).text=U:=by
 unfold isN at h;simpa using h
omit H in
theorem Ua{s:List UInt8}(h:s≠[]):Ai s≠Ai []:=λe=>h (HW.1 e)
omit H in
theorem Ag7{s:List UInt8}(h:Ce s=U):s≠[]:=by rintro rfl;revert h;decide
omit H in
theorem Abl{s:List UInt8}(h:DZ s=U):s≠[]:=by rintro rfl;revert h;decide
omit H in
theorem MH(s:List UInt8):(Ai s).data.toList=s:=by simp[Ai]
omit H in
theorem AsP{i n:Nat}(h:opP ts i=V n):n<6/\isT ts i (E2.getD n [])=U:=by
 unfold opP at h;obtain⟨h1,h2,_⟩:=AwZ.1 h;refine⟨h1,?_⟩;rw[List.getD_eq_getElem?_getD,Ψ h1];exact h2
def ArZ(x:Tr):Nat:=(txt x).length+if x.kind=4\/x.kind=5 then 2 else 0
def ApR(x:Tr):Nat:=(txt x).length+if x.kind=5 then 2 else 0
structure ROk (d s:Nat) (x:Tr):Prop where
 r:BI x d=U
 b:x.kind=4\/x.kind=5->d+1<=60/\BI x (d+1)=U
 l:ArZ x<=s
structure RWk (d s:Nat) (x:Tr):Prop where
 r:BI x d=U
 b:x.kind=5->d+1<=60/\BI x (d+1)=U
 l:ApR x<=s
structure RCk (d s:Nat) (x:Tr):Prop where
 r:BI x d=U
 l:(txt x).length<=s
omit H in
theorem ROk.w{d s:Nat}{x:Tr}(h:ROk d s x):RWk d s x:=⟨h.r,λe=>h.b (.inr e),by
 have:=h.l;unfold ArZ at this;unfold ApR;split
 .grind
 .omega⟩
omit H in
theorem RWk.c{d s:Nat}{x:Tr}(h:RWk d s x):RCk d s x:=⟨h.r,by
 have:=h.l;unfold ApR at this;omega⟩
end
theorem EW{q:Nat × Nat × Tr}{k:Nat->Tr->Nat × Nat × Tr}(h:(Br q k).2.1=0):q.2.1=0/\Br q k=k q.1 q.2.2:=by
 unfold Br at h ⊢
 by_cases h0:q.2.1=0
 .exact⟨h0,Ac h0⟩
 .rw[Ab h0]at h
  exact absurd h h0
theorem ROk.le{d s s':Nat}{x:Tr}(h:ROk d s x)(hs:s<=s'):ROk d s' x:=⟨h.r,h.b,Aw6 h.l hs⟩
theorem RWk.le{d s s':Nat}{x:Tr}(h:RWk d s x)(hs:s<=s'):RWk d s' x:=⟨h.r,h.b,Aw6 h.l hs⟩
theorem RCk.le{d s s':Nat}{x:Tr}(h:RCk d s x)(hs:s<=s'):RCk d s' x:=⟨h.r,Aw6 h.l hs⟩
theorem AfW{s:List UInt8}(h:Aeo 3 s):DZ s=U:=by
 obtain⟨⟨c,r,rfl,_⟩,h⟩:=h;have h:=h [] (.inl rfl);rw[AwV,BG]at h
 by_cases h1:D6 c=U
 .grind
 rw[Ab h1]at h
 by_cases h2:BE c=U
 .rw[Ac h2]at h
  split at h
  .cases h
  split at h
  .cases h
  rename_i h3 h4;injection h with _ h5
  have ha:∀ l:List UInt8,DD BE l=l.length->l.all BE=U:=λl=>by
   induction l with
   |nil=>intro _;rfl
   |cons c l ih=>
    intro h;unfold DD at h
    by_cases hc:BE c=U
    .grind
    .grind
  have ha:=ha _ h5;rw[h5]at h3 h4;unfold DZ;rw[ha];simp only[List.isEmpty_cons,Bool.not_false,AwD,Bool.and_true,η,decide_eq_true_eq,AxV,AxP,decide_eq_false_iff_not,beq_eq_false_iff_ne];refine⟨by omega,?_⟩
  by_cases h6:1<(c::r).length
  .grind
  .exact .inl h6
 .grind
theorem MU:∀{ts:List Tk},GoodToks ts->∀ t∈ts,t.kind=5\/Aeo t.kind t.text
 |[],h,_,_=>h.elim
 |[u],h,t,ht=>by
  obtain rfl:t=u:=by simpa using ht
  exact .inl h.1
 |u::v::r,h,t,ht=>by
  rcases Awt.1 ht with rfl|ht
  .exact .inr h.1
  .exact MU h.2 t ht
theorem Aqt{s:List UInt8}{ts:List Tk}(h:BV s=.ok ts):TkN ts/\K8 ts<=s.length:=by
 have hf:=(Dv s).1 ts h;have hg:GoodToks ts/\K8 ts<=s.length/\ts.length<=s.length+1:=by
  unfold BV at h;split at h
  .cases h
  .exact SU _ _ _ _ (ω _) h
 refine⟨⟨hf.last _,λi hi=>?_⟩,hg.2.1⟩;have:=MU hg.1 _ (UW hf.ne i);rcases this with h5|hgd
 .omega
 .rw[hi]at hgd
  exact AfW hgd
theorem Yh:∀(l:List UInt8) (p:Nat × Nat),1<=p.1->1<=(adv p l).1
 |[],p,h=>h
 |c::l,p,h=>by
  have:adv p (c::l)=adv (NH p c) l:=rfl;rw[this];refine Yh l _ ?_;unfold NH;split
  .simp
  .exact h
theorem Aj8:∀(n:Nat) (l:List UInt8) (p:Nat × Nat),l.length<=n->1<=p.1->(∀ ts,GX l p=.ok ts->∀ t∈ts,1<=t.ln)/\∀ c ln co,GX l p=.err c ln co->1<=ln:=by
 intro n
 induction n with
 |zero=>
  intro l p hl hp;obtain rfl:l=[]:=AwX.1 (by omega);rw[CU];refine⟨λts h t ht=>?_,λc ln co h=>by cases h⟩;injection h with h
  rw[←h]at ht;obtain rfl:t=_:=by simpa using ht
  exact hp
 |succ n ih=>
  intro l p hl hp;have hq:=Yh (l.take (Ei Θ l)) p hp;rw[CU]
  cases ht:Dr (l.drop (Ei Θ l)) with
  |fin=>
   refine⟨λts h t ht=>?_,λc ln co h=>by cases h⟩;injection h with h
   rw[←h]at ht;obtain rfl:t=_:=by simpa using ht
   exact hq
  |err e=>
   refine⟨λts h=>(by cases h),λc ln co h=>?_⟩;injection h with _ h _
   rw[←h];exact hq
  |tok k m=>
   have h1:=EX ht;rw[AwR]at h1;obtain⟨i1,i2⟩:=ih (l.drop (Ei Θ l+m)) (adv (adv p (l.take (Ei Θ l))) ((l.drop (Ei Θ l)).take m)) (by rw[AwR];omega) (Yh _ _ hq);refine⟨λts h t htm=>?_,λc ln co h=>i2 c ln co (W8 h)⟩;obtain⟨us,e1,rfl⟩:=UO h;rcases Awt.1 htm with rfl|htm
   .exact hq
   .exact i1 us e1 t htm
theorem Aaz(s:List UInt8):(eOp s).length=1:=rfl
structure SumF (D:Orc):Prop where
 sum:∀ ms:List Mo,IG ms=U->D.ask (.fn 22) [.ls (ms.map FZ)] []=V (sv (Ai (C0 ms)),[])
theorem Ag4{m:Mo}(h:AS m=U):m.num.size<=60/\m.var.size<=20:=by
 obtain⟨h1,h2,_⟩:=Il h;rw[K6,K6];constructor
 .by_cases e:m.num=Ai []
  .rw[e];simp[Ai]
  .exact Q3 (h1 e)
 .by_cases e:m.var=Ai []
  .rw[e];simp[Ai]
  .exact EB (h2 e)
theorem J9{ms:List Mo}(h:IG ms=U):ms.length<4611686018427387904/\∀ m∈ms,m.num.size<=9223372036854775807/\m.var.size<=9223372036854775807:=by
 obtain⟨_,h2,h3⟩:=D9 h;refine⟨by omega,λm hm=>?_⟩;have:=Ag4 (Awu.1 h3 m hm);omega
theorem AhU:∀(n:Nat) (t:Tr) (d:Nat),SizeOf.sizeOf t<n->BI t d=U->WzT t:=by
 intro n
 induction n with
 |zero=>intro t d h;omega
 |succ n ih=>
  intro t d hn h
  cases Rt h with
  |tt=>exact .mk (by simp) (by simp) (by simp) (by simp) (by simp) (by simp)
  |ff=>exact .mk (by simp) (by simp) (by simp) (by simp) (by simp) (by simp)
  |@cmp _ l r op hl hr h1 h2=>exact .mk (J9 hl).1 (J9 hr).1 (by simp) (J9 hl).2 (J9 hr).2 (by simp)
  |@no _ x hd hx=>
   refine .mk (by simp) (by simp) (by simp) (by simp) (by simp) λy hy=>?_
   obtain rfl:y=x:=by simpa using hy
   exact ih y _ (by simp only[Tr.mk.sizeOf_spec,List.cons.sizeOf_spec]at hn;omega) hx
  |@bin _ k x y hk hd hx gd hy=>
   refine .mk (by simp) (by simp) (by simp) (by simp) (by simp) λz hz=>?_
   simp only[Awt,AzB,or_false]at hz;rcases hz with rfl|rfl
   .exact ih z _ (by simp only[Tr.mk.sizeOf_spec,List.cons.sizeOf_spec]at hn;omega) hx
   .exact ih z _ (by simp only[Tr.mk.sizeOf_spec,List.cons.sizeOf_spec]at hn;omega) hy
section
variable {D:Orc}
variable (K:Knows Ah XP D) (Kt:Knows Ah FS D) (L:LexN D) (Ke:Knows Ah De D) (S:SumF D)
include K Kt L Ke S
theorem Yy{l r:List Mo}{op:Int}(hl:IG l=U)(hr:IG r=U)(h1:0<=op)(h2:op<=5):D.ask (.fn 47) [.agg (BR (.mk 2 l r op (Ai []) (Ai []) []))] []=V (sv (Ai (JI l r op)),[]):=by
 have hr0:BI (.mk 2 l r op (Ai []) (Ai []) []) 0=U:=AhS (by omega) (.cmp 0 hl hr h1 h2);have gc:=Mv Kt L (.mk 2 l r op (Ai []) (Ai []) []) (AhU _ _ 0 (Awz _) hr0);have hc:Hp (.mk 2 l r op (Ai []) (Ai []) [])=U:=by
  unfold Hp;simp[hl,hr,h1,h2]
 rw[hc]at gc;have g1:=S.sum l hl;have g2:=S.sum r hr;have l1:=IA l 0 (D9 hl).2.2;have l2:=IA r 0 (D9 hr).2.2;have l3:=(D9 hl).2.1;have l4:=(D9 hr).2.1;have e1:C0 l=CA 0 l:=by unfold C0;rw[Ac hl]
 have e2:C0 r=CA 0 r:=by unfold C0;rw[Ac hr]
 rw[←e1]at l1;rw[←e2]at l2;obtain⟨n,rfl⟩:∃ n:Nat,op=n:=⟨op.toNat,by omega⟩;have hn:n<6:=by omega
 have hop:E2[n]? = V (E2.getD n []):=by
  match n,hn with
  |0,_=>rfl
  |1,_=>rfl
  |2,_=>rfl
  |3,_=>rfl
  |4,_=>rfl
  |5,_=>rfl
 have hol:(E2.getD n []).length<=2:=by
  match n,hn with
  |0,_=>decide
  |1,_=>decide
  |2,_=>decide
  |3,_=>decide
  |4,_=>decide
  |5,_=>decide
 refine Ao K Arv (e47 ..) ?_;refine Aa gc ?_;simp only[Ae];refine Aa g1 ?_;simp only[Ae,BW,Hf,JF];have s1:(Ai [32]).size=1:=rfl;refine(Ee (by simp only[Cy,ζ,π,Aw4];omega) _ _).trans ?_;refine Aa (OB Ke) ?_;simp only[Ae];rw[AD,AA hop];simp only[eOp,Ae,BW,Hf,JF];refine(Ee (by simp only[Cy,ζ,π,Aw4];omega) _ _).trans ?_;refine(Ee (by simp only[Cy,ζ,π,Aw4];omega) _ _).trans ?_;refine Aa g2 ?_;simp only[Ae,BW,Hf,JF];refine(Ee (by simp only[Cy,ζ,π,Aw4];omega) _ _).trans ?_;rfl
end
theorem ApH(c:Prop)[Decidable c](a b:List UInt8):(if c then V (sv (Ai a),([]:List BO)) else V (sv (Ai b),[]))=V (sv (Ai (if c then a else b)),[]):=by
 by_cases h:c
 .rw[Ac h,Ac h]
 .rw[Ab h,Ab h]
theorem D3(k:Int)(i:Nat)(x:Tr)(r:List Tr):CY k i (x::r)=Vw (Bx k i x.kind) (Cb x)::CY k (i+1) r:=by rw[CY];rfl
theorem CR(k:Int)(i:Nat):CY k i []=[]:=by rw[CY]
section
variable {D:Orc}
variable (K:Knows Ah XN D)
include K
theorem WX(k:Int):D.ask (.fn 138) [iv k] []=V (sv (Ai (Eu k)),[]):=by
 refine Ao K Ami (AtQ ..) ?_;unfold Eu;simp only[F9,FX,decide_eq_true_eq,ApH]
variable (Kl:Knows Ah Nv D)
include Kl
theorem QN(t:Tr)(ks:List Tr)(hk:ks.length<=2)(g:∀ x∈ks,D.ask (.fn 80) [.agg (BR x)] []=V (sv (Ai (Cb x)),[])/\(Cb x).length<=1000000000000):∀(n i:Nat) (out:List (List UInt8)),ks.length-i=n->out.length+n<=2->
  D.ask (.lp 80 0) [.ptr 0 0,.sl 1 0 out.length 1,.ls (ks.map BR),iv (ks.length:Int),iv (i:Int)] [Lb t,θ (Av eOp out) U U] =
   V (.tup [iv 0,.ptr 0 0,.sl 2 0 (out++CY t.kind i (ks.drop i)).length 1],[.set (Lb t),.del,.set (θ (Av eOp (out++CY t.kind i (ks.drop i))) U U)]):=by
 intro n;obtain⟨k,l,r,op,p,q,kz⟩:=t
 induction n with
 |zero=>
  intro i out hi ho;refine Ax K Y4 (AlR ..) ?_;rw[show ks.drop i=[] from υ (by omega),CR,AwV];refine Ap ?_;rfl
 |succ n ih=>
  intro i out hi ho;have hlt:i<ks.length:=by omega
  rw[show ks.drop i=ks[i]::ks.drop (i+1) from χ hlt];obtain⟨gx,gl⟩:=g ks[i] (List.getElem_mem hlt);have hb:=Lu Kl k i ks[i];refine Ax K Y4 (AlR ..) ?_;refine Au ?_;rw[AD,AA (Ψ hlt)];rw[D3];have ih:=ih (i+1) (out++[Vw (Bx k i ks[i].kind) (Cb ks[i])]) (by omega) (by simp;omega);rw[Awr,ζ,Aw5]at ih;revert gx hb gl ih;generalize ks[i]=x;obtain⟨xk,xl,xr,xo,xp,xq,xs⟩:=x;intro gx gl hb ih;unfold Tr.kind;unfold Tr.kind at hb ih;simp only[BR,Ae]at gx hb ⊢;refine Aa gx ?_;simp only[Ae];refine Aa hb ?_;simp only[Ae];rw[Bv (by omega)];have hf:Bh (out.length+1) 16=U:=AL (by omega) (by omega);have hb1:Nat.ble (0+out.length*1) (Av eOp out).length=U:=AJ Aaz out (by omega);have e3:∀ s,Awv 0 (Aws (0+out.length*1) (Av eOp out))++[sv (Ai s)]=Av eOp (out++[s]):=λs=>by
   rw[κ,A9 Aaz out (by omega)];exact A8 eOp out s
  cases hbk:Bx k i xk with
  |true=>
   rw[hbk]at ih;refine Af ?_;simp only[BW,Hf,JF];refine(Ee (by simp only[Cy,π,Aw4];omega) _ _).trans ?_;refine(Ee (by simp only[Cy,ζ,π,Aw4];omega) _ _).trans ?_;rw[hf,hb1,e3];refine Af ?_;refine Af ?_;refine Aa ih ?_;rfl
  |false=>
   rw[hbk]at ih;refine BF ?_;rw[hf,hb1,e3];refine Af ?_;refine Af ?_;refine Aa ih ?_;rfl
end
theorem JV{k:Int}{d i:Nat}{x:Tr}{r:List Tr}(h:EM k d i (x::r)=U):E0 (Bx k i x.kind) d<=60/\AR x (E0 (Bx k i x.kind) d)=U/\EM k d (i+1) r=U:=by
 grind [EM]
inductive ShapeL:Tr->Nat->Prop where
 |tt (d:Nat):ShapeL (.mk 0 [] [] 0 (Ai []) (Ai []) []) d
 |ff (d:Nat):ShapeL (.mk 1 [] [] 0 (Ai []) (Ai []) []) d
 |cmp (d:Nat) {l r:List Mo} {op:Int} (hl:IG l=U) (hr:IG r=U) (h1:0<=op) (h2:op<=5):ShapeL (.mk 2 l r op (Ai []) (Ai []) []) d
 |at(d:Nat) {p q:ByteArray} (hp:Ce p.data.toList=U) (hq:Ce q.data.toList=U):ShapeL (.mk 6 [] [] 0 p q []) d
 |one (d:Nat) {k:Int} {x:Tr} (hk:DQ k=1) (hd:E0 (Bx k 0 x.kind) (d+1)<=60) (h:AR x (E0 (Bx k 0 x.kind) (d+1))=U):ShapeL (.mk k [] [] 0 (Ai []) (Ai []) [x]) d
 |two (d:Nat) {k:Int} {x y:Tr} (hk:DQ k=2) (hd:E0 (Bx k 0 x.kind) d<=60) (h:AR x (E0 (Bx k 0 x.kind) d)=U) (gd:E0 (Bx k 1 y.kind) d<=60) (g:AR y (E0 (Bx k 1 y.kind) d)=U):ShapeL (.mk k [] [] 0 (Ai []) (Ai []) [x,y]) d
theorem BB(k:Int):(DQ k=0/\(k=0\/k=1\/k=2\/k=6))\/(DQ k=1/\(k=3\/k=8\/k=9\/k=10))\/(DQ k=2/\(k=4\/k=5\/k=7\/k=11\/k=12))\/DQ k=-1:=by
 unfold DQ
 by_cases h0:k=0;· simp[h0]
 by_cases h1:k=1;· simp[h1]
 by_cases h2:k=2;· simp[h2]
 by_cases h6:k=6;· simp[h6]
 by_cases h3:k=3;· simp[h3]
 by_cases h8:k=8;· simp[h8]
 by_cases h9:k=9;· simp[h9]
 by_cases h10:k=10;· simp[h10]
 by_cases h4:k=4;· simp[h4]
 by_cases h5:k=5;· simp[h5]
 by_cases h7:k=7;· simp[h7]
 by_cases h11:k=11;· simp[h11]
 by_cases h12:k=12;· simp[h12]
 simp[h0,h1,h2,h6,h3,h8,h9,h10,h4,h5,h7,h11,h12]
theorem IJ{k:Int}{l r:List Mo}{op:Int}{p q:ByteArray}{ks:List Tr}(h:Eh (.mk k l r op p q ks)=U):l=[]/\r=[]/\op=0/\p=Ai []/\q=Ai []:=by
 grind [Eh]
theorem C3{t:Tr}{d:Nat}(h:AR t d=U):ShapeL t d:=by
 obtain⟨k,l,r,op,p,q,ks⟩:=t;rw[AR]at h
 by_cases ha:(ks.length:Int)=DQ k
 .rw[Ac ha]at h
  rcases BB k with⟨e,hk⟩|⟨e,hk⟩|⟨e,hk⟩|e
  .rw[Ac e,MZ]at h
   obtain rfl:ks=[]:=AwX.1 (by omega);rcases hk with rfl|rfl|rfl|rfl
   .rw[Ab (by decide),Ab (by decide)]at h
    obtain⟨rfl,rfl,rfl,rfl,rfl⟩:=IJ h;exact .tt d
   .rw[Ab (by decide),Ab (by decide)]at h
    obtain⟨rfl,rfl,rfl,rfl,rfl⟩:=IJ h;exact .ff d
   .rw[Ac rfl]at h
    unfold Hp at h;simp only[η,decide_eq_true_eq]at h;obtain⟨⟨⟨⟨⟨⟨⟨_,hl⟩,hr⟩,h3⟩,h4⟩,rfl⟩,rfl⟩,_⟩:=h;exact .cmp d hl hr h3 h4
   .rw[Ab (by decide),Ac rfl]at h
    simp only[η,decide_eq_true_eq]at h;obtain⟨⟨⟨⟨h1,h2⟩,rfl⟩,h4⟩,h5⟩:=h;obtain rfl:l=[]:=AwX.1 h1;obtain rfl:r=[]:=AwX.1 h2;exact .at d h4 h5
  .rw[Ab (by omega),AW e]at h
   simp only[η,decide_eq_true_eq]at h;obtain⟨⟨hd,hb⟩,hk⟩:=h;obtain⟨rfl,rfl,rfl,rfl,rfl⟩:=IJ hb;have hl:ks.length=1:=by omega
   match ks,hl,hk with
   |[x],_,hk=>
    obtain⟨k1,k2,_⟩:=JV hk;exact .one d e k1 k2
  .rw[Ab (by omega),Be (show ¬DQ k=1 by omega)]at h
   simp only[η,decide_eq_true_eq]at h;obtain⟨⟨hd,hb⟩,hk⟩:=h;obtain⟨rfl,rfl,rfl,rfl,rfl⟩:=IJ hb;have hl:ks.length=2:=by omega
   match ks,hl,hk with
   |[x,y],_,hk=>
    obtain⟨k1,k2,hk⟩:=JV hk;obtain⟨k3,k4,_⟩:=JV hk;exact .two d e k1 k2 k3 k4
  .omega
 .rw[Ab ha]at h
  cases h
theorem Sn(s:ByteArray):Ai s.data.toList=s:=by
 unfold Ai;simp
theorem S3(k:Int)(x:Tr):Cb (.mk k [] [] 0 (Ai []) (Ai []) [x])=Eu k++Vw (Bx k 0 x.kind) (Cb x):=by
 rw[Cb,D3,CR];rfl
theorem S4(k:Int)(x y:Tr):Cb (.mk k [] [] 0 (Ai []) (Ai []) [x,y])=Vw (Bx k 0 x.kind) (Cb x)++Eu k++Vw (Bx k 1 y.kind) (Cb y):=by
 rw[Cb,D3,D3,CR];rfl
theorem Yo(b:Bool)(s:List UInt8):s.length<=(Vw b s).length:=by
 cases b
 .exact ω _
 .show s.length<=([40]++s++[41]).length
  simp;omega
section
variable {D:Orc} (K:Knows Ah XN D) (Kl:Knows Ah Nv D) (Kx:Knows Ah XP D) (Kt:Knows Ah FS D) (L:LexN D) (Ke:Knows Ah De D) (S:SumF D)
include K Kl Kx Kt L Ke S
theorem AgO:∀(n:Nat) (t:Tr) (d:Nat),SizeOf.sizeOf t<n->AR t d=U->(Cb t).length<=1000000000000->D.ask (.fn 80) [.agg (BR t)] []=V (sv (Ai (Cb t)),[]):=by
 have leaf:∀ t:Tr,(∃ k l r op p q,t=.mk k l r op p q [])->D.ask (.fn 137) [.agg (BR t)] []=V (sv (Ai (GA t)),[])->D.ask (.fn 80) [.agg (BR t)] []=V (sv (Ai (Cb t)),[]):=by
  rintro t ⟨k,l,r,op,p,q,rfl⟩ g;have glp:=QN K Kl (.mk k l r op p q []) [] (by simp) (by simp) 0 0 [] rfl (by simp);have e:Cb (.mk k l r op p q [])=GA (.mk k l r op p q []):=by
   rw[Cb,CR];rfl
  rw[e];have ek:CY (Tr.mk k l r op p q []).kind 0 (([]:List Tr).drop 0)=[]:=by
   show CY k 0 []=_
   rw[CR]
  rw[ek]at glp;refine Ao K Y4 (e80 ..) ?_;refine Aa glp ?_;simp only[Lb,BR,Ur,Ae]at g ⊢;refine Aw ?_ rfl;refine Aa g ?_;rfl
 intro n
 induction n with
 |zero=>intro t d h;omega
 |succ n ih=>
  intro t d hn h hlen
  cases C3 h with
  |tt=>
   refine leaf _ ⟨_,_,_,_,_,_,rfl⟩ ?_;refine Ao K Wd (Ajx ..) ?_;exact Aw rfl rfl
  |ff=>
   refine leaf _ ⟨_,_,_,_,_,_,rfl⟩ ?_;refine Ao K Wd (Ajx ..) ?_;refine As ?_ (by decide);exact Aw rfl rfl
  |@cmp _ l r op hl hr h1 h2=>
   refine leaf _ ⟨_,_,_,_,_,_,rfl⟩ ?_;have gc:=Yy Kx Kt L Ke S hl hr h1 h2;have hc:Hp (.mk 2 l r op (Ai []) (Ai []) [])=U:=by
    unfold Hp;simp[hl,hr,h1,h2]
   have e:GA (.mk 2 l r op (Ai []) (Ai []) [])=JI l r op:=by rw[GA,Ab (by decide),Ab (by decide),Ab (by decide),Ac hc]
   rw[e];refine Ao K Wd (Ajx ..) ?_;refine As ?_ (by decide);refine As ?_ (by decide);refine As ?_ (by decide);simp only[BR,Ur]at gc;refine Aa gc ?_;rfl
  |@«at» _ p q hp hq=>
   have lp:=EB hp;have lq:=EB hq;have e:GA (.mk 6 [] [] 0 p q [])=[64]++p.data.toList++[46]++q.data.toList:=by rw[GA,Ab (by decide),Ab (by decide),Ac rfl]
   refine leaf _ ⟨_,_,_,_,_,_,rfl⟩ ?_;rw[e];obtain⟨a,rfl⟩:∃ a,p=Ai a:=⟨_,(Sn p).symm⟩;obtain⟨b,rfl⟩:∃ b,q=Ai b:=⟨_,(Sn q).symm⟩;rw[Dg]at lp lq;rw[Dg,Dg];refine Ao K Wd (Ajx ..) ?_;refine As ?_ (by decide);refine As ?_ (by decide);refine Aw ?_ rfl;simp only[BW,Hf,JF];refine(Ee (by simp only[Cy,π,Aw4];omega) _ _).trans ?_;refine(Ee (by simp only[Cy,ζ,π,Aw4];omega) _ _).trans ?_;refine(Ee (by simp only[Cy,ζ,π,Aw4];omega) _ _).trans ?_;rfl
  |@one _ k x hk hd2 hx=>
   rw[S3]at hlen ⊢;rw[ζ]at hlen;have hg:=Yo (Bx k 0 x.kind) (Cb x);have gx:=ih x _ (by simp only[Tr.mk.sizeOf_spec,List.cons.sizeOf_spec]at hn;omega) hx (by omega);have glp:=QN K Kl (.mk k [] [] 0 (Ai []) (Ai []) [x]) [x] (by simp) (by
    intro y hy;obtain rfl:y=x:=by simpa using hy
    exact⟨gx,by omega⟩) 1 0 [] rfl (by simp)
   have ek:CY (Tr.mk k [] [] 0 (Ai []) (Ai []) [x]).kind 0 ([x].drop 0)=[Vw (Bx k 0 x.kind) (Cb x)]:=by
    show CY k 0 [x]=_
    rw[D3,CR]
   rw[ek]at glp;have gs:=WX K k;refine Ao K Y4 (e80 ..) ?_;refine Aa glp ?_;generalize Vw (Bx k 0 x.kind) (Cb x)=sx at *;generalize Eu k=sg at *;simp only[Lb,BR,Ae];refine As ?_ (by show ¬ (1:Int)=0;decide);refine Aw ?_ rfl;refine Aa gs ?_;simp only[Ae]
   show br ((Ak.slen (Ai sg)+Ak.slen (Ai sx)).ble 9223372036854775807) (V (sv (Ak.cat (Ai sg) (Ai sx)),[])) none=_
   rw[BW,BW,Hf,JF];refine(Ee (by simp only[Cy];omega) _ _).trans ?_;rfl
  |@two _ k x y hk hd hx gd hy=>
   rw[S4]at hlen ⊢;rw[ζ,ζ]at hlen;have hg:=Yo (Bx k 0 x.kind) (Cb x);have hg2:=Yo (Bx k 1 y.kind) (Cb y);have gx:=ih x _ (by simp only[Tr.mk.sizeOf_spec,List.cons.sizeOf_spec]at hn;omega) hx (by omega);have gy:=ih y _ (by simp only[Tr.mk.sizeOf_spec,List.cons.sizeOf_spec]at hn;omega) hy (by omega);have glp:=QN K Kl (.mk k [] [] 0 (Ai []) (Ai []) [x,y]) [x,y] (by simp) (by
    intro z hz;simp only[Awt,AzB,or_false]at hz;rcases hz with rfl|rfl
    .exact⟨gx,by omega⟩
    .exact⟨gy,by omega⟩) 2 0 [] rfl (by simp)
   have ek:CY (Tr.mk k [] [] 0 (Ai []) (Ai []) [x,y]).kind 0 ([x,y].drop 0)=[Vw (Bx k 0 x.kind) (Cb x),Vw (Bx k 1 y.kind) (Cb y)]:=by
    show CY k 0 [x,y]=_
    rw[D3,D3,CR]
   rw[ek]at glp;have gs:=WX K k;refine Ao K Y4 (e80 ..) ?_;refine Aa glp ?_;generalize Vw (Bx k 0 x.kind) (Cb x)=sx at *;generalize Vw (Bx k 1 y.kind) (Cb y)=sy at *;generalize Eu k=sg at *;simp only[Lb,BR,Ae];refine As ?_ (by show ¬ (2:Int)=0;decide);refine As ?_ (by show ¬ (2:Int)=1;decide);refine Af ?_;have r0:∀ kk:Ad->KR,I5 (Av eOp ([]++[sx,sy])) 0 1 kk=kk [sv (Ai sx)]:=λkk=>rfl
   have r1:∀ kk:Ad->KR,I5 (Av eOp ([]++[sx,sy])) 1 1 kk=kk [sv (Ai sy)]:=λkk=>rfl
   refine(r0 _).trans ?_;simp only[Ae];refine Aa gs ?_;simp only[Ae,BW,Hf,JF];refine(Ee (by simp only[Cy];omega) _ _).trans ?_;refine Af ?_;refine(r1 _).trans ?_;simp only[Ae,BW,Hf,JF];refine(Ee (by simp only[Cy,ζ];omega) _ _).trans ?_;rfl
theorem Vy(t:Tr)(hz:WzT t)(hp:WzP t)(h:AR t 0=U)(hlen:(Cb t).length<=1000000000000):D.ask (.fn 38) [.agg (BR t)] []=V (sv (Ai (Cb t)),[]):=by
 have g1:=KV Kl Kt L t hz hp;have g2:=AgO K Kl Kx Kt L Ke S _ t 0 (Awz _) h hlen;rw[h]at g1;obtain⟨k,l,r,op,p,q,ks⟩:=t;simp only[BR]at g1 g2 ⊢;refine Ao K Arq (e38 ..) ?_;refine Aa g1 ?_;simp only[Ae];refine Aa g2 ?_;rfl
end
section
open Go.RowKit
variable (A:Ar) (D:Orc)
end

section
open Go.RowKit
variable (A:Ar) (D:Orc)
end

section
open Go.RowKit
mutual
def E1:Tr->Nat
 |.mk _ _ _ _ _ _ ks=>1+Fz ks
def Fz:List Tr->Nat
 |[]=>0
 |x::r=>E1 x+Fz r
end
theorem VO(k:Int)(l r:List Mo)(op:Int)(p q:ByteArray)(x:Tr):E1 (.mk k l r op p q [x])=1+E1 x:=by
 rw[E1,Fz,Fz,Nat.add_zero]
theorem VP(k:Int)(l r:List Mo)(op:Int)(p q:ByteArray)(x y:Tr):E1 (.mk k l r op p q [x,y])=1+(E1 x+E1 y):=by
 rw[E1,Fz,Fz,Fz];omega
theorem Rz{ms:List Mo}(h:IG ms=U):(C0 ms).length<=5376:=by
 have h1:=IA ms 0 (D9 h).2.2;have h2:=(D9 h).2.1;unfold C0;rw[Ac h];omega
section
variable {D:Orc}
structure SumG (D:Orc):Prop where
 sum:∀ ms:List Mo,ms.length<4611686018427387904->(∀ m∈ms,WzM m)->D.ask (.fn 22) [.ls (ms.map FZ)] []=V (sv (Ai (C0 ms)),[])
theorem SumG.f(S:SumG D):SumF D:=⟨λms h=>S.sum ms (J9 h).1 (J9 h).2⟩
end
end
theorem Yp(b:Bool)(s:List UInt8):(Vw b s).length<=s.length+2:=by
 cases b
 .exact Nat.le_add_right _ _
 .show ([40]++s++[41]).length<=s.length+2
  simp
theorem S1(k:Int):(Eu k).length<=4:=by
 unfold Eu
 repeat' split
 all_goals decide
theorem QO:∀(n:Nat) (t:Tr) (d:Nat),SizeOf.sizeOf t<n->AR t d=U->(Cb t).length+10<=11000*E1 t:=by
 intro n
 induction n with
 |zero=>intro t d h;omega
 |succ n ih=>
  intro t d hn h
  cases C3 h with
  |tt=>
   rw[Cb,CR,E1,Fz]
   show [116,114,117,101].length+10<=_
   simp
  |ff=>
   rw[Cb,CR,E1,Fz]
   show [102,97,108,115,101].length+10<=_
   simp
  |@cmp _ l r op hl hr h1 h2=>
   have hc:Hp (.mk 2 l r op (Ai []) (Ai []) [])=U:=by
    unfold Hp;simp[hl,hr,h1,h2]
   have e:Cb (.mk 2 l r op (Ai []) (Ai []) [])=JI l r op:=by
    rw[Cb,CR,AgH];rw[GA,Ab (by decide),Ab (by decide),Ab (by decide),Ac hc]
   rw[e,E1,Fz];unfold JI;have s1:=Rz hl;have s2:=Rz hr;have hol:(E2.getD op.toNat []).length<=2:=by
    have:op.toNat<6:=by omega
    generalize op.toNat=n at this
    match n,this with
    |0,_=>decide
    |1,_=>decide
    |2,_=>decide
    |3,_=>decide
    |4,_=>decide
    |5,_=>decide
   simp only[ζ,π,Aw4];omega
  |@«at» _ p q hp hq=>
   have lp:=EB hp;have lq:=EB hq;have e:Cb (.mk 6 [] [] 0 p q [])=[64]++p.data.toList++[46]++q.data.toList:=by
    rw[Cb,CR,AgH];rw[GA,Ab (by decide),Ab (by decide),Ac rfl]
   rw[e,E1,Fz];simp only[ζ,π,Aw4];omega
  |@one _ k x hk hd2 hx=>
   have gx:=ih x _ (by simp only[Tr.mk.sizeOf_spec,List.cons.sizeOf_spec]at hn;omega) hx;have o1:=Yp (Bx k 0 x.kind) (Cb x);have o2:=S1 k;rw[S3,VO,ζ];omega
  |@two _ k x y hk hd hx gd hy=>
   have gx:=ih x _ (by simp only[Tr.mk.sizeOf_spec,List.cons.sizeOf_spec]at hn;omega) hx;have gy:=ih y _ (by simp only[Tr.mk.sizeOf_spec,List.cons.sizeOf_spec]at hn;omega) hy;have o1:=Yp (Bx k 0 x.kind) (Cb x);have o2:=S1 k;have o3:=Yp (Bx k 1 y.kind) (Cb y);rw[S4,VP,ζ,ζ];omega
structure Pr where
 name:ByteArray
 locs:List ByteArray
 cmds:Rw
def Uq(p:Pr):Ad:=[sv p.name,.ls (p.locs.map eS),.ls p.cmds]
def Ef(k:Int)(ks:List Tr):Tr:=.mk k [] [] 0 (Ai []) (Ai []) ks
section
variable (ts:List Tk) (vars:List ByteArray) (kn:Bool) (ps:List Pr)
def Ju(i:Nat):ByteArray:=Ai (nx ts i).text
def JU(s:ByteArray):Option Pr:=ps.find? λp=>decide (p.name=s)
def C8(i:Nat):Nat × Nat × Tr:=
 if isN ts i=Θ then(i,101,T0) else match JU ps (Ju ts i) with
  |none=>(i,110,T0)
  |some p=>if isT ts (i+1) [46]=Θ then(i+1,101,T0) else if isN ts (i+2)=Θ then(i+2,101,T0)
   else if Ju ts (i+2)∉p.locs then(i+2,110,T0) else(i+3,0,.mk 6 [] [] 0 (Ju ts i) (Ju ts (i+2)) [])
def C9(i:Nat):Option Int:=if isT ts i [33] then V 3 else if isT ts i [88] then V 8 else if isT ts i [71] then V 9 else if isT ts i [70] then V 10 else none
inductive LJ where
 |prop
 |or
 |orL (x:Tr)
 |and
 |andL (x:Tr)
 |bin
 |un
def Ca:Nat->LJ->Nat->Nat->Nat × Nat × Tr
 |0,_,i,_=>(i,999,T0)
 |n+1,.un,i,d=>
  if((C9 ts i).isSome||isT ts i [40])=U/\d=60 then(i,102,T0)
  else match C9 ts i with
   |some k=>Br (Ca n .un (i+1) (d+1)) λj x=>(j,0,Ef k [x])
   |none=>if isT ts i [40] then Br (Ca n .prop (i+1) (d+1)) λj x=>if isT ts j [41] then(j+1,0,x) else(j,101,T0)
    else if isT ts i [64] then C8 ts ps (i+1)
    else if isT ts i [116,114,117,101] then(i+1,0,Ef 0 [])
    else if isT ts i [102,97,108,115,101] then(i+1,0,Ef 1 [])
    else JH ts vars kn i
 |n+1,.bin,i,d=>Br (Ca n .un i d) λj x=>if isT ts j [85] then Br (Ca n .bin (j+1) d) λj2 y=>(j2,0,Ef 11 [x,y])
   else if isT ts j [82] then Br (Ca n .bin (j+1) d) λj2 y=>(j2,0,Ef 12 [x,y]) else(j,0,x)
 |n+1,.and,i,d=>Br (Ca n .bin i d) λj x=>Ca n (.andL x) j d
 |n+1,.andL x,i,d=>if isT ts i [38] then Br (Ca n .bin (i+1) d) λj y=>Ca n (.andL (Ef 4 [x,y])) j d else(i,0,x)
 |n+1,.or,i,d=>Br (Ca n .and i d) λj x=>Ca n (.orL x) j d
 |n+1,.orL x,i,d=>if isT ts i [124] then Br (Ca n .and (i+1) d) λj y=>Ca n (.orL (Ef 5 [x,y])) j d else(i,0,x)
 |n+1,.prop,i,d=>Br (Ca n .or i d) λj x=>if isT ts j [45,62] then Br (Ca n .prop (j+1) d) λj2 y=>(j2,0,Ef 7 [x,y]) else(j,0,x)
end
section
variable {ts:List Tk} (H:Toks ts) (vars:List ByteArray) (kn:Bool) (ps:List Pr)
include H
theorem N8{i:Nat}{k:Int}(h:C9 ts i=V k):i<ts.length:=by
 unfold C9 at h;split at h
 .rename_i g;exact H.isT g
 .split at h
  .rename_i g;exact H.isT g
  .split at h
   .rename_i g;exact H.isT g
   .split at h
    .rename_i g;exact H.isT g
    .cases h
theorem OP{i:Nat}(hi:i<=ts.length):Far ts i (C8 ts ps i).1 (C8 ts ps i).2.1:=by
 have stay:∀ e:Nat,e≠0->Far ts i i e:=λe he=>⟨ω _,hi,λh=>absurd h he⟩
 unfold C8
 cases h1:isN ts i with
 |false=>exact stay _ (by simp)
 |true=>
  have l1:=H.isN h1;rw[Ab (by simp)]
  cases JU ps (Ju ts i) with
  |none=>exact stay _ (by simp)
  |some p=>
   simp only
   cases h2:isT ts (i+1) [46]with
   |false=>exact⟨by simp,by simp;omega,λh=>by simp at h⟩
   |true=>
    have l2:=H.isT h2;rw[Ab (by simp)]
    cases h3:isN ts (i+2) with
    |false=>exact⟨by simp,by simp;omega,λh=>by simp at h⟩
    |true=>
     have l3:=H.isN h3;rw[Ab (by simp)];split
     .exact⟨by simp,by simp;omega,λh=>by simp at h⟩
     .exact⟨by simp,by simp;omega,λh=>by simp⟩
def OO(ts:List Tk):LJ->Nat->Nat->Nat->Prop
 |.orL _,i,j,_=>i<=j/\j<=ts.length
 |.andL _,i,j,_=>i<=j/\j<=ts.length
 |_,i,j,e=>Far ts i j e
omit H in
theorem Dm{i:Nat}{q:Nat × Nat × Tr}{k:Nat->Tr->Nat × Nat × Tr}(hq:Far ts i q.1 q.2.1)(hk:∀ j x,i<j->j<=ts.length->j<=(k j x).1/\(k j x).1<=ts.length):Far ts i (Br q k).1 (Br q k).2.1:=by
 unfold Br;split
 .rename_i h
  have h1:=hq.gt h;have h2:=hk q.1 q.2.2 h1 hq.le;exact⟨by omega,h2.2,λ_=>by omega⟩
 .exact hq
theorem Hb:∀(n:Nat) (j:LJ) (i d:Nat),i<=ts.length->OO ts j i (Ca ts vars kn ps n j i d).1 (Ca ts vars kn ps n j i d).2.1:=by
 intro n
 induction n with
 |zero=>intro j i d hi;cases j<;>first|exact⟨ω _,hi,λh=>absurd h (by simp[Ca])⟩|exact⟨ω _,hi⟩
 |succ n ih=>
  intro j i d hi;have stay:∀ e:Nat,e≠0->Far ts i i e:=λe he=>⟨ω _,hi,λh=>absurd h he⟩
  have up:∀{a b e:Nat},a<b->Far ts b e 0->Far ts a e 0:=λh f=>⟨by have:=f.ge;omega,f.le,λ_=>by have:=f.ge;omega⟩
  cases j with
  |un=>
   unfold Ca OO;dsimp only;split
   .exact stay _ (by simp)
   .split
    .rename_i k hk
     have hl:=N8 H hk;have m:Far ts (i+1) _ _:=ih .un (i+1) (d+1) hl;have m2:=Dm m (k:=λj x=>(j,0,Ef k [x])) (λj x h1 h2=>⟨ω _,h2⟩);exact⟨by have:=m2.ge;omega,m2.le,λh=>by have:=m2.ge;omega⟩
    .split
     .rename_i h
      have m:Far ts (i+1) _ _:=ih .prop (i+1) (d+1) (H.isT h);have m2:=Dm m (k:=λj x=>if isT ts j [41] then(j+1,0,x) else(j,101,T0)) (λj x h1 h2=>by
       split
       .rename_i h
        exact⟨AyP _,H.isT h⟩
       .exact⟨ω _,h2⟩)
      exact⟨by have:=m2.ge;omega,m2.le,λh=>by have:=m2.ge;omega⟩
     .split
      .rename_i h
       have m2:=OP H ps (show i+1<=ts.length from H.isT h);exact⟨by have:=m2.ge;omega,m2.le,λh=>by have:=m2.ge;omega⟩
      .split
       .rename_i h;exact⟨AyP _,H.isT h,λ_=>Awz _⟩
       .split
        .rename_i h;exact⟨AyP _,H.isT h,λ_=>Awz _⟩
        .exact VL H vars kn hi
  |bin=>
   unfold Ca OO;dsimp only;refine Dm (ih .un i d hi) λj x h1 h2=>?_
   split
   .rename_i h
    have m:Far ts (j+1) _ _:=ih .bin (j+1) d (H.isT h);have m2:=Dm m (k:=λj2 y=>(j2,0,Ef 11 [x,y])) (λj x h1 h2=>⟨ω _,h2⟩);exact⟨by have:=m2.ge;omega,m2.le⟩
   .split
    .rename_i h
     have m:Far ts (j+1) _ _:=ih .bin (j+1) d (H.isT h);have m2:=Dm m (k:=λj2 y=>(j2,0,Ef 12 [x,y])) (λj x h1 h2=>⟨ω _,h2⟩);exact⟨by have:=m2.ge;omega,m2.le⟩
    .exact⟨ω _,h2⟩
  |and=>
   unfold Ca OO;dsimp only;exact Dm (ih .bin i d hi) λj x h1 h2=>ih (.andL x) j d h2
  |or=>
   unfold Ca OO;dsimp only;exact Dm (ih .and i d hi) λj x h1 h2=>ih (.orL x) j d h2
  |prop=>
   unfold Ca OO;dsimp only;refine Dm (ih .or i d hi) λj x h1 h2=>?_
   split
   .rename_i h
    have m:Far ts (j+1) _ _:=ih .prop (j+1) d (H.isT h);have m2:=Dm m (k:=λj2 y=>(j2,0,Ef 7 [x,y])) (λj x h1 h2=>⟨ω _,h2⟩);exact⟨by have:=m2.ge;omega,m2.le⟩
   .exact⟨ω _,h2⟩
  |andL x=>
   unfold Ca OO;dsimp only;split
   .rename_i h
    have m:Far ts (i+1) _ _:=ih .bin (i+1) d (H.isT h);have m2:=Dm m (k:=λj y=>Ca ts vars kn ps n (.andL (Ef 4 [x,y])) j d) (λj y h1 h2=>ih (.andL _) j d h2);exact⟨by have:=m2.ge;omega,m2.le⟩
   .exact⟨ω _,hi⟩
  |orL x=>
   unfold Ca OO;dsimp only;split
   .rename_i h
    have m:Far ts (i+1) _ _:=ih .and (i+1) d (H.isT h);have m2:=Dm m (k:=λj y=>Ca ts vars kn ps n (.orL (Ef 5 [x,y])) j d) (λj y h1 h2=>ih (.orL _) j d h2);exact⟨by have:=m2.ge;omega,m2.le⟩
   .exact⟨ω _,hi⟩
def B2(ts:List Tk):LJ->Nat->Nat
 |.un,i=>8*(ts.length-i)+1
 |.bin,i=>8*(ts.length-i)+2
 |.and,i=>8*(ts.length-i)+3
 |.andL _,i=>8*(ts.length-i)+3
 |.or,i=>8*(ts.length-i)+4
 |.orL _,i=>8*(ts.length-i)+4
 |.prop,i=>8*(ts.length-i)+5
end
def Dc(ts:List Tk)(vars:List ByteArray)(kn:Bool)(ps:List Pr):Nat × Nat × Tr:=Ca ts vars kn ps (8*ts.length+5) .prop 0 0
structure Sy where
 vars:List ByteArray
 s2:Rw
 s3:Int
 s4:Rw
 s5:Bool
 s6:Rw
 s7:Bool
 s8:Rw
 ps:List Pr
 s10:Rw
def IF(y:Sy):Ad:=[.ls (y.vars.map eS),.ls y.s2,iv y.s3,.ls y.s4,bv y.s5,.ls y.s6,bv y.s7,.ls y.s8,.ls (y.ps.map Uq),.ls y.s10]
def Lc(y:Sy):AV:=.agg (.ptr 0 0::IF y)
structure PreT (ts:List Tk):Prop where
 sg:∀ i,(nx ts i).text=[33]\/(nx ts i).text=[40]->(nx ts i).kind=2
 bg:∀ i,(nx ts i).text=[88]\/(nx ts i).text=[71]\/(nx ts i).text=[70]->(nx ts i).kind=4
theorem N6(s:ByteArray):∀ ps:List Pr,match (ps.map (·.name)).findIdx? (s = ·) with
  |none=>JU ps s=none
  |some k=>∃ p,ps[k]? = V p/\p.name=s/\JU ps s=V p
 |[]=>rfl
 |p::r=>by
  have ih:=N6 s r;rw[List.map_cons,List.findIdx?_cons];unfold JU at ih ⊢
  by_cases h:s=p.name
  .rw[Ac (by simpa using h)]
   exact⟨p,rfl,h.symm,by rw[Ayo,AW h.symm]⟩
  .rw[Ab (by simpa using h)]
   have h':¬ p.name=s:=λe=>h e.symm
   rw[Ayo,Be h']
   cases e:(r.map (·.name)).findIdx? (s = ·) with
   |none=>rw[e]at ih;exact ih
   |some k=>
    rw[e]at ih;obtain⟨q,h1,h2,h3⟩:=ih;exact⟨q,by simpa using h1,h2,h3⟩
theorem Tf{s:ByteArray}{xs:List ByteArray}{k:Nat}(h:xs.findIdx? (s = ·)=V k):xs[k]? = V s:=by
 obtain⟨h1,h2,_⟩:=AwZ.1 h;have h2:s=xs[k]:=by simpa using h2
 rw[Ψ h1,←h2]
theorem Adg{s:ByteArray}{xs:List ByteArray}(h:xs.findIdx? (s = ·)=none):s∉xs:=λhm=>by
 have:=List.findIdx?_eq_none_iff.1 h s hm;simp at this
theorem Ag9{s:ByteArray}{xs:List ByteArray}{k:Nat}(h:xs.findIdx? (s = ·)=V k):s∈xs:=Axc (Tf h)
theorem G4(s:ByteArray):(eS s).length=1:=rfl
def Q9:Option Int->Int
 |some k=>k
 |none=>-1
theorem AkE{ts:List Tk}(i:Nat):(0<=Q9 (C9 ts i)) ↔ (C9 ts i).isSome:=by
 unfold C9
 repeat' split
 all_goals simp[Q9]
theorem Zt{ts:List Tk}{i:Nat}{k:Int}(h:C9 ts i=V k):(nx ts i).text≠[40]/\isT ts i [40]=Θ:=by
 have e:(nx ts i).text≠[40]:=by
  intro e;unfold C9 isT at h;rw[e]at h;simp at h
 refine⟨e,?_⟩;unfold isT;rw[Be e];rfl
theorem ApF{ts:List Tk}(P:PreT ts)(i:Nat):isT ts i [40]=(decide ((nx ts i).kind=2)&&decide ((nx ts i).text=[40])):=by
 unfold isT
 by_cases h:(nx ts i).text=[40]
 .simp[h,P.sg i (.inr h)]
 .simp[h]
section
variable {D:Orc}
theorem EN(Kq:Knows Ah GM D)(k:Int)(ks:List Tr):D.ask (.fn 126) [iv k,.ls (ks.map BR)] []=V (.agg (BR (Ef k ks)),[]):=by
 refine Ao Kq Ame (AtM ..) ?_;unfold Ef BR;rw[CP];rfl
theorem GB(Kq:Knows Ah GM D){ts:List Tk}(P:PreT ts)(i:Nat):D.ask (.fn 265) [.agg (NT (nx ts i))] []=V (iv (Q9 (C9 ts i)),[]):=by
 have h1:=P.sg i;have h2:=P.bg i;refine Ao Kq Am1 (AuY ..) ?_;unfold C9 isT;simp only[ci0,ci1,ci2,ci3,ci4,ci5,ci6,Lh,Po,F9,GJ,BW,Hf,In,FX,HW];generalize (nx ts i).kind=k at *;generalize (nx ts i).text=s at *
 by_cases h33:s=[33]
 .have:=h1 (.inl h33);subst this;subst h33;rfl
 by_cases h88:s=[88]
 .have:=h2 (.inl h88);subst this;subst h88;rfl
 by_cases h71:s=[71]
 .have:=h2 (.inr (.inl h71));subst this;subst h71;rfl
 by_cases h70:s=[70]
 .have:=h2 (.inr (.inr h70));subst this;subst h70;rfl
 simp only[h33,h88,h71,h70,decide_false,Aw3,Awx,if_false]
 by_cases hk2:k=2
 .simp[hk2,Q9]
 .by_cases hk4:k=4
  .simp[hk4,Q9]
  .simp[hk2,hk4,Q9]
theorem Ac0(Kq:Knows Ah GM D)(ps:List Pr)(hp:ps.length<=1000000):∀(n i:Nat) (out:List ByteArray),ps.length-i=n->out.length+n<=1000000->D.ask (.lp 232 0) [.sl 0 0 out.length 1,.ls (ps.map Uq),iv (ps.length:Int),iv (i:Int)] [θ (Av eS out) U U]
  = V (.tup [iv 0,.sl 1 0 (out++(ps.drop i).map (·.name)).length 1],[.del,.set (θ (Av eS (out++(ps.drop i).map (·.name))) U U)]):=by
 intro n
 induction n with
 |zero=>
  intro i out hi ho;refine Ax Kq OK (Un ..) ?_;rw[show ps.drop i=[] from υ (by omega),List.map_nil,AwV];refine Ap ?_;rfl
 |succ n ih=>
  intro i out hi ho;have hlt:i<ps.length:=by omega
  have ih:=ih (i+1) (out++[ps[i].name]) (by omega) (by simp;omega);rw[show ps.drop i=ps[i]::ps.drop (i+1) from χ hlt];rw[Awr,ζ,Aw5]at ih;refine Ax Kq OK (Un ..) ?_;refine Au ?_;rw[AD,AA (Ψ hlt)];have hf:Bh (out.length+1) 16=U:=AL (by omega) (by omega);have hb1:Nat.ble (0+out.length*1) (Av eS out).length=U:=AJ G4 out (by omega);have e3:∀ s,Awv 0 (Aws (0+out.length*1) (Av eS out))++[sv s]=Av eS (out++[s]):=λs=>by
   rw[κ,A9 G4 out (by omega)];exact A8 eS out s
  simp only[Uq,Ae];rw[Bv (by omega),hf,hb1,e3];refine Af ?_;refine Af ?_;refine Aa ih ?_;rfl
theorem Ac1(Kq:Knows Ah GM D)(y:Sy)(hp:y.ps.length<=1000000):D.ask (.fn 232) [.agg (IF y)] []=V (.ls ((y.ps.map (·.name)).map eS),[]):=by
 refine Ao Kq OK (Arc ..) ?_;rw[Al];have g:=Ac0 Kq y.ps hp _ 0 [] rfl (by simpa using hp);refine Aa g ?_;simp only[Ae,κ,AwC];rw[AJ G4 _ (by omega)];refine Af ?_;rw[BQ G4 _ rfl]
variable (K:Knows Ah De D) (Kq:Knows Ah GM D) (L:NameF D) {ts:List Tk} (H:Toks ts) (y:Sy)
include K Kq L H
def KW(ts:List Tk)(xs:List ByteArray)(i:Nat):Nat × Nat × Int:=if isN ts i=Θ then(i,101,0) else match xs.findIdx? (Ju ts i = ·) with
 |none=>(i,110,0)
 |some k=>(i+1,0,(k:Int))
theorem SX(kn:Bool)(xs:List ByteArray)(hx:xs.length<4611686018427387904)(i:Nat)(hi:i<=ts.length):D.ask (.fn 276) [Lc y,.ls (xs.map eS)] [BH ts y.vars kn i]
  = V (.tup [iv (KW ts xs i).2.2,iv ((KW ts xs i).2.1:Int)],[.set (BH ts y.vars kn (KW ts xs i).1)]):=by
 have hl:=H.len;refine Ao Kq Am6 (Au4 ..) ?_;refine Aa (Ln K ts y.vars kn i (by omega) (by omega)) ?_;unfold KW isN;simp only[NT,BH,Ae]
 by_cases h:(nx ts i).kind=1
 .refine Aw ?_
  refine Aa (L.name _ (H.short i)) ?_;simp only[Ae,h,decide_true,AwD]
  cases Ce (nx ts i).text with
  |false=>rfl
  |true=>
   refine Af ?_;rw[Ab (by simp)];refine Aa (WD K xs hx _) ?_;simp only[Ae];unfold Ju
   cases xs.findIdx? (Ai (nx ts i).text = ·) with
   |none=>rfl
   |some k=>
    refine Ap ?_ (show ¬ (k:Int)<0 by omega);rw[Bv (by omega)];rfl
 .refine As ?_
  simp only[h,decide_false,Aw3,if_true];rfl
theorem AcZ(kn:Bool)(hp:y.ps.length<=1000000)(hq:∀ p∈y.ps,p.locs.length<4611686018427387904)(i:Nat)(hi:i<=ts.length):D.ask (.fn 266) [Lc y] [BH ts y.vars kn i]
  = V (.tup [.agg (BR (C8 ts y.ps i).2.2),iv ((C8 ts y.ps i).2.1:Int)],[.set (BH ts y.vars kn (C8 ts y.ps i).1)]):=by
 have hl:=H.len;refine Ao Kq Am2 (AuZ ..) ?_;refine Aa (Ac1 Kq y hp) ?_;simp only[Ae];have g:=SX K Kq L H y kn (y.ps.map (·.name)) (by rw[List.length_map];omega) i hi;refine Aa g ?_;simp only[BH,Ae];unfold C8 KW;have hf:=N6 (Ju ts i) y.ps
 cases h1:isN ts i with
 |false=>rfl
 |true=>
  have l1:=H.isN h1;simp only[AyS,if_false]
  cases h2:(y.ps.map (·.name)).findIdx? (Ju ts i = ·) with
  |none=>
   rw[h2]at hf;rw[hf];rfl
  |some k=>
   rw[h2]at hf;obtain⟨p,f1,f2,f3⟩:=hf;rw[f3];refine Aw ?_ rfl;refine Aa (AbV K ts y.vars kn (i+1) (by omega) (by omega) [46]) ?_;simp only[BH,Ae]
   cases h3:isT ts (i+1) [46]with
   |false=>rfl
   |true=>
    have l2:=H.isT h3;simp only[if_true,AyS,if_false];refine Aw ?_ rfl;rw[AD,AA f1];simp only[Uq,Ae];have g:=SX K Kq L H y kn p.locs (hq p (Axc f1)) (i+1+1) (by omega);refine Aa g ?_;simp only[BH,Ae];unfold KW
    cases h4:isN ts (i+2) with
    |false=>rfl
    |true=>
     simp only[AyS,if_false]
     cases h5:p.locs.findIdx? (Ju ts (i+2) = ·) with
     |none=>
      rw[Ac (Adg h5)];rfl
     |some m=>
      rw[Ab (λe=>e (Ag9 h5))];refine Aw ?_ rfl;rw[AD,AA (Tf h5)];simp only[eS,Ae,f2];rfl
theorem WM(Kb:Knows Ah Jq D)(kn:Bool)(hv:y.vars.length<4611686018427387904)(i:Nat)(hi:i<=ts.length):∃ q:Nat × Nat × Tr,D.ask (.fn 267) [Lc y] [BH ts y.vars kn i]=V (.tup [.agg (BR q.2.2),iv (q.2.1:Int)],[.set (BH ts y.vars kn q.1)])
  ∧ q=(if isT ts i [116,114,117,101] then(i+1,0,Ef 0 []) else if isT ts i [102,97,108,115,101] then(i+1,0,Ef 1 []) else JH ts y.vars kn i):=by
 have hl:=H.len;refine⟨_,?_,rfl⟩;refine Ao Kq Am3 (Au0 ..) ?_;refine Aa (BZ K ts y.vars kn i (by omega) (by omega) _) ?_;simp only[BH,Ae]
 cases h1:isT ts i [116,114,117,101]with
 |true=>
  refine Af ?_;refine Aa (EN Kq 0 []) ?_;rfl
 |false=>
  refine BF ?_;simp only[Awx,if_false];refine Aa (BZ K ts y.vars kn i (by omega) (by omega) _) ?_;simp only[BH,Ae]
  cases h2:isT ts i [102,97,108,115,101]with
  |true=>
   refine Af ?_;refine Aa (EN Kq 1 []) ?_;rfl
  |false=>
   refine BF ?_;simp only[Awx,if_false];refine Aa (YA K Kb L H y.vars kn hv i hi) ?_;rcases JH ts y.vars kn i with⟨j,e,⟨k,l,r,o,p,q,ks⟩⟩
   rfl
end
set_option linter.unusedSectionVars false
section
variable {D:Orc}
def lpB(y:Sy):ABlk:=θ (.ptr 0 0::IF y) U Θ
def J2(D:Orc)(ts:List Tk)(y:Sy)(kn:Bool):LJ->Nat->Nat->Nat × Nat × Tr->Prop
 |.un,i,d,q=>∃ z,(q.2.1=0->z=q.2.2)/\D.ask (.fn 252) [Lc y,iv (d:Int)] [BH ts y.vars kn i]=V (.tup [.agg (BR z),iv (q.2.1:Int)],[.set (BH ts y.vars kn q.1)])
 |.bin,i,d,q=>∃ z,(q.2.1=0->z=q.2.2)/\D.ask (.fn 230) [Lc y,iv (d:Int)] [BH ts y.vars kn i]=V (.tup [.agg (BR z),iv (q.2.1:Int)],[.set (BH ts y.vars kn q.1)])
 |.and,i,d,q=>∃ z,(q.2.1=0->z=q.2.2)/\D.ask (.fn 186) [Lc y,iv (d:Int)] [BH ts y.vars kn i]=V (.tup [.agg (BR z),iv (q.2.1:Int)],[.set (BH ts y.vars kn q.1)])
 |.or,i,d,q=>∃ z,(q.2.1=0->z=q.2.2)/\D.ask (.fn 125) [Lc y,iv (d:Int)] [BH ts y.vars kn i]=V (.tup [.agg (BR z),iv (q.2.1:Int)],[.set (BH ts y.vars kn q.1)])
 |.prop,i,d,q=>∃ z,(q.2.1=0->z=q.2.2)/\D.ask (.fn 70) [Lc y,iv (d:Int)] [BH ts y.vars kn i]=V (.tup [.agg (BR z),iv (q.2.1:Int)],[.set (BH ts y.vars kn q.1)])
 |.andL x,i,d,q=>∃ z,(q.2.1=0->z=q.2.2)/\D.ask (.lp 185 0) [Lc y,sv (Ai [38]),iv 4,iv (d:Int),.fn (.func 230) [Lc y] [],.ptr 1 0,.ptr 2 0,.ptr 3 0,iv 0] [BH ts y.vars kn i,lpB y,Vx T0,Vx x]
   = V (.tup [iv 0,Lc y,.ptr 2 0,.ptr 3 0,iv (q.2.1:Int)],[.set (BH ts y.vars kn q.1),.del,.set (Vx T0),.set (Vx z)])
 |.orL x,i,d,q=>∃ z,(q.2.1=0->z=q.2.2)/\D.ask (.lp 185 0) [Lc y,sv (Ai [124]),iv 5,iv (d:Int),.fn (.func 186) [Lc y] [],.ptr 1 0,.ptr 2 0,.ptr 3 0,iv 0] [BH ts y.vars kn i,lpB y,Vx T0,Vx x]
   = V (.tup [iv 0,Lc y,.ptr 2 0,.ptr 3 0,iv (q.2.1:Int)],[.set (BH ts y.vars kn q.1),.del,.set (Vx T0),.set (Vx z)])
theorem S0(Kq:Knows Ah GM D)(ts:List Tk)(y:Sy)(kn:Bool)(i d e:Nat)(x:Tr)(he:e≠0):D.ask (.lp 185 0) [Lc y,sv (Ai [38]),iv 4,iv (d:Int),.fn (.func 230) [Lc y] [],.ptr 1 0,.ptr 2 0,.ptr 3 0,iv (e:Int)] [BH ts y.vars kn i,lpB y,Vx T0,Vx x]
  = V (.tup [iv 0,Lc y,.ptr 2 0,.ptr 3 0,iv (e:Int)],[.set (BH ts y.vars kn i),.del,.set (Vx T0),.set (Vx x)]):=by
 obtain⟨k,l,r,o,p,q,ks⟩:=x;refine Ax Kq F5 (PE ..) ?_;refine As ?_;rfl
theorem AgN(Kq:Knows Ah GM D)(ts:List Tk)(y:Sy)(kn:Bool)(i d j e:Nat)(x:Tr)(q:Nat × Nat × Tr)
  (h1:D.ask (.fn 230) [Lc y,iv (d:Int)] [BH ts y.vars kn i]=V (.tup [.agg (BR x),iv (e:Int)],[.set (BH ts y.vars kn j)]))
  (h2:e≠0->q=(j,e,T0)) (h3:e=0->J2 D ts y kn (.andL x) j d q) :
  ∃ z,(q.2.1=0->z=q.2.2)/\D.ask (.fn 185) [Lc y,sv (Ai [38]),iv 4,iv (d:Int),.fn (.func 230) [Lc y] []] [BH ts y.vars kn i]=V (.tup [.agg (BR z),iv (q.2.1:Int)],[.set (BH ts y.vars kn q.1)]):=by
 by_cases he:e=0
 .subst he
  obtain⟨z,hz,h4⟩:=h3 rfl;refine⟨z,hz,?_⟩;refine Ao Kq F5 (AlI ..) ?_;refine Aa h1 ?_;obtain⟨k,l,r,o,p,v,ks⟩:=x;simp only[BR,BH,Ae];refine Aa h4 ?_;obtain⟨k,l,r,o,p,v,ks⟩:=z;rfl
 .refine⟨x,λh=>?_,?_⟩
  .rw[h2 he]at h
   exact absurd h he
  refine Ao Kq F5 (AlI ..) ?_;refine Aa h1 ?_;obtain⟨k,l,r,o,p,v,ks⟩:=x;simp only[BR,BH,Ae];rw[h2 he];refine Aa (S0 Kq ts y kn j d e (.mk k l r o p v ks) he) ?_;rfl
theorem SZ(Kq:Knows Ah GM D)(ts:List Tk)(y:Sy)(kn:Bool)(i d e:Nat)(x:Tr)(he:e≠0):D.ask (.lp 185 0) [Lc y,sv (Ai [124]),iv 5,iv (d:Int),.fn (.func 186) [Lc y] [],.ptr 1 0,.ptr 2 0,.ptr 3 0,iv (e:Int)] [BH ts y.vars kn i,lpB y,Vx T0,Vx x]
  = V (.tup [iv 0,Lc y,.ptr 2 0,.ptr 3 0,iv (e:Int)],[.set (BH ts y.vars kn i),.del,.set (Vx T0),.set (Vx x)]):=by
 obtain⟨k,l,r,o,p,q,ks⟩:=x;refine Ax Kq F5 (PD ..) ?_;refine As ?_;rfl
theorem AgM(Kq:Knows Ah GM D)(ts:List Tk)(y:Sy)(kn:Bool)(i d j e:Nat)(x:Tr)(q:Nat × Nat × Tr)
  (h1:D.ask (.fn 186) [Lc y,iv (d:Int)] [BH ts y.vars kn i]=V (.tup [.agg (BR x),iv (e:Int)],[.set (BH ts y.vars kn j)]))
  (h2:e≠0->q=(j,e,T0)) (h3:e=0->J2 D ts y kn (.orL x) j d q) :
  ∃ z,(q.2.1=0->z=q.2.2)/\D.ask (.fn 185) [Lc y,sv (Ai [124]),iv 5,iv (d:Int),.fn (.func 186) [Lc y] []] [BH ts y.vars kn i]=V (.tup [.agg (BR z),iv (q.2.1:Int)],[.set (BH ts y.vars kn q.1)]):=by
 by_cases he:e=0
 .subst he
  obtain⟨z,hz,h4⟩:=h3 rfl;refine⟨z,hz,?_⟩;refine Ao Kq F5 (AlH ..) ?_;refine Aa h1 ?_;obtain⟨k,l,r,o,p,v,ks⟩:=x;simp only[BR,BH,Ae];refine Aa h4 ?_;obtain⟨k,l,r,o,p,v,ks⟩:=z;rfl
 .refine⟨x,λh=>?_,?_⟩
  .rw[h2 he]at h
   exact absurd h he
  refine Ao Kq F5 (AlH ..) ?_;refine Aa h1 ?_;obtain⟨k,l,r,o,p,v,ks⟩:=x;simp only[BR,BH,Ae];rw[h2 he];refine Aa (SZ Kq ts y kn j d e (.mk k l r o p v ks) he) ?_;rfl
variable (K:Knows Ah De D) (Kb:Knows Ah Jq D) (Kq:Knows Ah GM D) (L:NameF D) {ts:List Tk} (H:Toks ts) (P:PreT ts) (y:Sy) (kn:Bool) (hv:y.vars.length<4611686018427387904) (hp:y.ps.length<=1000000) (hq:∀ p∈y.ps,p.locs.length<4611686018427387904)
include K Kb Kq L H P hv hp hq
theorem Alm(n:Nat)(ih:∀(j:LJ) (i d:Nat),i<=ts.length->d<=60->B2 ts j i<=n->J2 D ts y kn j i d (Ca ts y.vars kn y.ps n j i d))(i d:Nat)(hi:i<=ts.length)(hd:d<=60)(hn:B2 ts .un i<=n+1):J2 D ts y kn .un i d (Ca ts y.vars kn y.ps (n+1) .un i d):=by
 have hl:=H.len;have hle:=AkE (ts:=ts) i;have hsg:=ApF P i;have eqn:=λz e j=>(λ(h:_=V (.tup [.agg (BR z),iv e],[.set (BH ts y.vars kn j)]))=>Kq.fn' AaG (args:=[Lc y,iv (d:Int)]) (bs:=[BH ts y.vars kn i]) _ rfl ((Apj ..).trans ((MB (Ln K ts y.vars kn i (by omega) (by omega)) _).trans h)))
 unfold J2 Ca;dsimp only
 cases hpre:C9 ts i with
 |some k=>
  obtain⟨ho,h40⟩:=Zt hpre;have hlt:=N8 H hpre;rw[hpre]at hle;have hk:0<=k:=hle.2 rfl
  by_cases h60:d=60
  .subst h60
   rw[Ac ⟨by simp,rfl⟩];refine⟨T0,λ_=>rfl,eqn _ _ _ ?_⟩;simp only[NT,BH,Ae];refine Aa (GB Kq P i) ?_;rw[hpre];simp only[Q9,Ae]
   by_cases h2:(nx ts i).kind=2
   .refine Aw ?_
    refine(IK (λe=>ho (HW.1 e))).trans ?_;refine Cg ?_ hk;refine Aw ?_ rfl;rfl
   .refine As ?_
    refine Cg ?_ hk;refine Aw ?_ rfl;rfl
  .rw[Ab (λe=>h60 e.2)]
   have g:=ih .un (i+1) (d+1) (by omega) (by omega) (by simp only[B2]at hn ⊢;omega);revert g;rcases Ca ts y.vars kn y.ps n .un (i+1) (d+1) with⟨j,e,t⟩
   intro g;unfold J2 at g;obtain⟨z,hz,g⟩:=g;dsimp only at g hz;have hq2:(Br (j,e,t) λj x=>(j,0,Ef k [x]):Nat × Nat × Tr).2.1=e/\(Br (j,e,t) λj x=>(j,0,Ef k [x]):Nat × Nat × Tr).1=j:=by
    unfold Br
    by_cases h0:e=0
    .rw[Ac h0];exact⟨h0.symm,rfl⟩
    .rw[Ab h0];exact⟨rfl,rfl⟩
   simp only;rw[hq2.1,hq2.2];refine⟨Ef k [z],λh=>?_,eqn _ _ _ ?_⟩
   .unfold Br
    rw[hz h,Ac h]
   .have run:∀ X,(AN D (.fn 252) [Lc y,iv ((d+1:Nat):Int)] [BH ts y.vars kn (i+1)] X=X (.tup [.agg (BR z),iv (e:Int)]) [.set (BH ts y.vars kn j)]):=λX=>MB g X
    simp only[NT,BH,Ae];refine Aa (GB Kq P i) ?_;rw[hpre,Bv (show i<4611686018427387904 by omega),Bv (show d<4611686018427387904 by omega)];simp only[Q9,Ae]
    by_cases h2:(nx ts i).kind=2
    .refine Aw ?_
     refine(IK (λe=>ho (HW.1 e))).trans ?_;refine Cg ?_ hk;refine As ?_;refine Cg ?_ hk;refine(run _).trans ?_;obtain⟨k1,l1,r1,o1,p1,v1,ks1⟩:=z;simp only[BR,BH,Ae];refine Aa (EN Kq k [.mk k1 l1 r1 o1 p1 v1 ks1]) ?_;simp only[Ef,BR,Ae]
     all_goals rfl
    .refine As ?_
     refine Cg ?_ hk;refine As ?_;refine Cg ?_ hk;refine(run _).trans ?_;obtain⟨k1,l1,r1,o1,p1,v1,ks1⟩:=z;simp only[BR,BH,Ae];refine Aa (EN Kq k [.mk k1 l1 r1 o1 p1 v1 ks1]) ?_;simp only[Ef,BR,Ae]
     all_goals rfl
 |none=>
  cases h40:isT ts i [40]with
  |true=>
   rw[h40]at hsg;have hsg:=hsg.symm;simp only[η,decide_eq_true_eq]at hsg;have hlt:=H.isT h40
   by_cases h60:d=60
   .subst h60
    rw[Ac ⟨by simp,rfl⟩];refine⟨T0,λ_=>rfl,eqn _ _ _ ?_⟩;simp only[NT,BH,Ae];refine Aa (GB Kq P i) ?_;rw[hpre];simp only[Q9,Ae];refine Aw ?_;refine Fv (by rw[hsg.2]) ?_;refine Cm ?_;refine Aw ?_ rfl;rfl
   .rw[Ab (λe=>h60 e.2)]
    have g:=ih .prop (i+1) (d+1) (by omega) (by omega) (by simp only[B2]at hn ⊢;omega);have f:Far ts (i+1) _ _:=Hb H y.vars kn y.ps n .prop (i+1) (d+1) (by omega);revert g f;rcases Ca ts y.vars kn y.ps n .prop (i+1) (d+1) with⟨j,e,t⟩
    intro g f;have hj:j<=ts.length:=f.le;unfold J2 at g;obtain⟨z,hz,g⟩:=g;dsimp only at g hz;simp only[if_true];have start:∀(R:AV × List BO),((AN D (.fn 70) [Lc y,iv ((d+1:Nat):Int)] [BH ts y.vars kn (i+1)] λr3 o3=>Jr r3 λcs3=>Ey cs3 λc2 l14=>KC c2 λcs4=>FU φ cs4 λn6 l15=>Pc l15 λxs4 l16=>Pc l16 λxs5 l17=>FU φ l17 λn7 l18=>Pd l18 λs11 l19=>Pd l19 λs12 l20=>Pc l20 λxs6 l21=>Dp l21<|FU φ l14 λn8 l22=>Dp l22<|El o3 λc3 l23=>E7 U Θ c3 λcs5=>Pc cs5 λxs7 l24=>FU φ l24 λn9 l25=>Pc l25 λxs8 l26=>JE l26 λb3 l27=>Dp l27<|CG l23<|
      br (Ak.eq n8 0) (AN D (Ω 248) [AV.ptr 0 0,sv (Ai [41])] [θ [Ξ xs7,iv n9,Ξ xs8,bv b3] U Θ] λr4 o4=>KD φ r4 λn10=>El o4 λc4 l28=>E7 U Θ c4 λcs6=>Pc cs6 λxs9 l29=>FU φ l29 λn11 l30=>Pc l30 λxs10 l31=>JE l31 λb4 l32=>Dp l32<|CG l28<|
       V ((γ [Φ [iv n6,Ξ xs4,Ξ xs5,iv n7,sv s11,sv s12,Ξ xs6],iv n10],[Awp (θ [Ξ xs9,iv n11,Ξ xs10,bv b4] U Θ)])))
       (V ((γ [Φ [iv n6,Ξ xs4,Ξ xs5,iv n7,sv s11,sv s12,Ξ xs6],iv n8],[Awp (θ [Ξ xs7,iv n9,Ξ xs8,bv b3] U Θ)]))))=V R)
      → D.ask (.fn 252) [Lc y,iv (d:Int)] [BH ts y.vars kn i]=V R:=λR hR=>by
     refine Kq.fn' AaG _ rfl ((Apj ..).trans ((MB (Ln K ts y.vars kn i (by omega) (by omega)) _).trans ?_));simp only[NT,BH,Ae];refine Aa (GB Kq P i) ?_;rw[hpre,Bv (show d<4611686018427387904 by omega)];simp only[Q9,Ae];refine Aw ?_;refine Fv (by rw[hsg.2]) ?_;refine Cm ?_;refine As ?_;refine Cm ?_;refine Aa (BZ K ts y.vars kn i (by omega) (by omega) _) ?_;simp only[BH,Ae,h40,if_true];exact hR
    unfold Br
    by_cases he:e=0
    .subst he
     obtain rfl:=hz rfl;rw[Ac rfl];dsimp only;refine⟨z,λh=>?_,start _ ?_⟩
     .by_cases h41:isT ts j [41]=U
      .rw[Ac h41]
      .rw[Ab h41]at h
       cases h
     .refine Aa g ?_
      obtain⟨k1,l1,r1,o1,p1,v1,ks1⟩:=z;simp only[BR,BH,Ae];refine Aw ?_ rfl;refine Aa (AbV K ts y.vars kn j (by omega) (by omega) [41]) ?_
      cases isT ts j [41]<;>rfl
    .rw[Ab he]
     refine⟨z,λh=>absurd h he,start _ ?_⟩;refine Aa g ?_;obtain⟨k1,l1,r1,o1,p1,v1,ks1⟩:=z;simp only[BR,BH,Ae];refine As ?_;rfl
  |false=>
   rw[Ab (λe=>by simp at e)];simp only[Awx,if_false];have start:∀(R:AV × List BO),((AN D (Ω 93) [AV.ptr 0 0,sv (Ai [64])] [BH ts y.vars kn i] λr3 o3=>Hz r3 λb3=>El o3 λc2 l14=>E7 U Θ c2 λcs3=>Pc cs3 λxs4 l15=>FU φ l15 λn6 l16=>Pc l16 λxs5 l17=>JE l17 λb4 l18=>Dp l18<|CG l14<|
     br b3 (AN D (Ω 266) [Lc y] [θ [Ξ xs4,iv n6,Ξ xs5,bv b4] U Θ] λr4 o4=>Jr r4 λcs4=>Ey cs4 λc3 l19=>KC c3 λcs5=>FU φ cs5 λn7 l20=>Pc l20 λxs6 l21=>Pc l21 λxs7 l22=>FU φ l22 λn8 l23=>Pd l23 λs11 l24=>Pd l24 λs12 l25=>Pc l25 λxs8 l26=>Dp l26<|FU φ l19 λn9 l27=>Dp l27<|El o4 λc4 l28=>E7 U Θ c4 λcs6=>Pc cs6 λxs9 l29=>FU φ l29 λn10 l30=>Pc l30 λxs10 l31=>JE l31 λb5 l32=>Dp l32<|CG l28<|
       V ((γ [Φ [iv n7,Ξ xs6,Ξ xs7,iv n8,sv s11,sv s12,Ξ xs8],iv n9],[Awp (θ [Ξ xs9,iv n10,Ξ xs10,bv b5] U Θ)])))
      (AN D (Ω 267) [Lc y] [θ [Ξ xs4,iv n6,Ξ xs5,bv b4] U Θ] λr4 o4=>Jr r4 λcs4=>Ey cs4 λc3 l19=>KC c3 λcs5=>FU φ cs5 λn7 l20=>Pc l20 λxs6 l21=>Pc l21 λxs7 l22=>FU φ l22 λn8 l23=>Pd l23 λs11 l24=>Pd l24 λs12 l25=>Pc l25 λxs8 l26=>Dp l26<|FU φ l19 λn9 l27=>Dp l27<|El o4 λc4 l28=>E7 U Θ c4 λcs6=>Pc cs6 λxs9 l29=>FU φ l29 λn10 l30=>Pc l30 λxs10 l31=>JE l31 λb5 l32=>Dp l32<|CG l28<|
       V ((γ [Φ [iv n7,Ξ xs6,Ξ xs7,iv n8,sv s11,sv s12,Ξ xs8],iv n9],[Awp (θ [Ξ xs9,iv n10,Ξ xs10,bv b5] U Θ)]))))=V R)
     → D.ask (.fn 252) [Lc y,iv (d:Int)] [BH ts y.vars kn i]=V R:=λR hR=>by
    refine Kq.fn' AaG _ rfl ((Apj ..).trans ((MB (Ln K ts y.vars kn i (by omega) (by omega)) _).trans ?_));simp only[NT,BH,Ae];refine Aa (GB Kq P i) ?_;rw[hpre];simp only[Q9,Ae]
    by_cases h2:(nx ts i).kind=2
    .refine Aw ?_
     have ho:(nx ts i).text≠[40]:=λe=>by
      rw[h40,AW h2,AW e]at hsg
      cases hsg
     refine(IK (λe=>ho (HW.1 e))).trans ?_;refine Cm ?_;refine Cm ?_;refine Aa (BZ K ts y.vars kn i (by omega) (by omega) _) ?_;simp only[BH,Ae,h40,Awx,if_false];exact hR
    .refine As ?_
     refine Cm ?_;refine Cm ?_;refine Aa (BZ K ts y.vars kn i (by omega) (by omega) _) ?_;simp only[BH,Ae,h40,Awx,if_false];exact hR
   cases h64:isT ts i [64]with
   |true=>
    simp only[if_true];refine⟨(C8 ts y.ps (i+1)).2.2,λ_=>rfl,start _ ?_⟩;refine Aa (BZ K ts y.vars kn i (by omega) (by omega) _) ?_;simp only[BH,Ae,h64,if_true];have g:=AcZ K Kq L H y kn hp hq (i+1) (H.isT h64);refine Aa g ?_;rcases C8 ts y.ps (i+1) with⟨j,e,⟨k,l,r,o,p,q,ks⟩⟩
    rfl
   |false=>
    simp only[Awx,if_false];obtain⟨q,g,hq3⟩:=WM K Kq L H y Kb kn hv i hi;rw[←hq3];refine⟨q.2.2,λ_=>rfl,start _ ?_⟩;refine Aa (BZ K ts y.vars kn i (by omega) (by omega) _) ?_;simp only[BH,Ae,h64,Awx,if_false];refine Aa g ?_;obtain⟨j,e,⟨k,l,r,o,p,q,ks⟩⟩:=q;rfl
theorem AeD(n:Nat)(ih:∀(j:LJ) (i d:Nat),i<=ts.length->d<=60->B2 ts j i<=n->J2 D ts y kn j i d (Ca ts y.vars kn y.ps n j i d))(i d:Nat)(hi:i<=ts.length)(hd:d<=60)(hn:B2 ts .bin i<=n+1):J2 D ts y kn .bin i d (Ca ts y.vars kn y.ps (n+1) .bin i d):=by
 have hl:=H.len;have g:=ih .un i d hi hd (by simp only[B2]at hn ⊢;omega);have f:Far ts i _ _:=Hb H y.vars kn y.ps n .un i d hi;unfold J2 Ca;dsimp only;revert f g;rcases Ca ts y.vars kn y.ps n .un i d with⟨j,e,t⟩
 intro g f;have hj:j<=ts.length:=f.le;unfold J2 at g;obtain⟨z,hz,g⟩:=g;dsimp only at g hz
 by_cases he:e=0
 .subst he
  have hg:=f.gt rfl;obtain rfl:=hz rfl;have e0:∀ k,Br (j,0,z) k=k j z:=λk=>rfl
  rw[e0]
  cases h85:isT ts j [85]with
  |true=>
   simp only[if_true];have hlt:=H.isT h85;have g2:=ih .bin (j+1) d (by omega) hd (by simp only[B2]at hn ⊢;omega);revert g2;rcases Ca ts y.vars kn y.ps n .bin (j+1) d with⟨j2,e2,t2⟩
   intro g2;unfold J2 at g2;obtain⟨z2,hz2,g2⟩:=g2;dsimp only at g2 hz2;unfold Br;refine⟨Ef 11 [z,z2],λh=>?_,?_⟩
   .by_cases h0:e2=0
    .rw[hz2 h0,Ac h0]
    .rw[Ab h0]at h
     exact absurd h h0
   have hq2:(if e2=0 then(j2,0,Ef 11 [z,t2]) else JL (j2,e2,t2):Nat × Nat × Tr).2.1=e2/\(if e2=0 then(j2,0,Ef 11 [z,t2]) else JL (j2,e2,t2):Nat × Nat × Tr).1=j2:=by
    by_cases h0:e2=0
    .rw[Ac h0];exact⟨h0.symm,rfl⟩
    .rw[Ab h0];exact⟨rfl,rfl⟩
   rw[hq2.1,hq2.2];refine Ao Kq Wq (Ajz ..) ?_;refine Aa g ?_;obtain⟨k,l,r,o,p,q,ks⟩:=z;simp only[BR,BH,Ae];refine Aw ?_ rfl;refine Aa (BZ K ts y.vars kn j (by omega) (by omega) _) ?_;simp only[BH,Ae,h85,if_true];refine Aa g2 ?_;obtain⟨k2,l2,r2,o2,p2,q2,ks2⟩:=z2;simp only[BR,BH,Ae];refine Aa (EN Kq 11 [.mk k l r o p q ks,.mk k2 l2 r2 o2 p2 q2 ks2]) ?_;simp only[Ef,BR,Ae]
   all_goals rfl
  |false=>
   simp only[Awx,if_false]
   cases h82:isT ts j [82]with
   |true=>
    simp only[if_true];have hlt:=H.isT h82;have g2:=ih .bin (j+1) d (by omega) hd (by simp only[B2]at hn ⊢;omega);revert g2;rcases Ca ts y.vars kn y.ps n .bin (j+1) d with⟨j2,e2,t2⟩
    intro g2;unfold J2 at g2;obtain⟨z2,hz2,g2⟩:=g2;dsimp only at g2 hz2;unfold Br;refine⟨Ef 12 [z,z2],λh=>?_,?_⟩
    .by_cases h0:e2=0
     .rw[hz2 h0,Ac h0]
     .rw[Ab h0]at h
      exact absurd h h0
    have hq2:(if e2=0 then(j2,0,Ef 12 [z,t2]) else JL (j2,e2,t2):Nat × Nat × Tr).2.1=e2/\(if e2=0 then(j2,0,Ef 12 [z,t2]) else JL (j2,e2,t2):Nat × Nat × Tr).1=j2:=by
     by_cases h0:e2=0
     .rw[Ac h0];exact⟨h0.symm,rfl⟩
     .rw[Ab h0];exact⟨rfl,rfl⟩
    rw[hq2.1,hq2.2];refine Ao Kq Wq (Ajz ..) ?_;refine Aa g ?_;obtain⟨k,l,r,o,p,q,ks⟩:=z;simp only[BR,BH,Ae];refine Aw ?_ rfl;refine Aa (BZ K ts y.vars kn j (by omega) (by omega) _) ?_;simp only[BH,Ae,h85,Awx,if_false];refine Aa (BZ K ts y.vars kn j (by omega) (by omega) _) ?_;simp only[BH,Ae,h82,if_true];refine Aa g2 ?_;obtain⟨k2,l2,r2,o2,p2,q2,ks2⟩:=z2;simp only[BR,BH,Ae];refine Aa (EN Kq 12 [.mk k l r o p q ks,.mk k2 l2 r2 o2 p2 q2 ks2]) ?_;simp only[Ef,BR,Ae]
    all_goals rfl
   |false=>
    simp only[Awx,if_false];refine⟨z,λ_=>rfl,?_⟩;refine Ao Kq Wq (Ajz ..) ?_;refine Aa g ?_;obtain⟨k,l,r,o,p,q,ks⟩:=z;simp only[BR,BH,Ae];refine Aw ?_ rfl;refine Aa (BZ K ts y.vars kn j (by omega) (by omega) _) ?_;simp only[BH,Ae,h85,Awx,if_false];refine Aa (BZ K ts y.vars kn j (by omega) (by omega) _) ?_;simp only[BH,Ae,h82,Awx,if_false]
    all_goals rfl
 .have e0:∀ k,Br (j,e,t) k=(j,e,T0):=λk=>Ab he
  rw[e0];refine⟨z,λh=>absurd h he,?_⟩;refine Ao Kq Wq (Ajz ..) ?_;refine Aa g ?_;obtain⟨k,l,r,o,p,q,ks⟩:=z;simp only[BR,BH,Ae];refine As ?_;rfl
theorem Adq(n:Nat)(ih:∀(j:LJ) (i d:Nat),i<=ts.length->d<=60->B2 ts j i<=n->J2 D ts y kn j i d (Ca ts y.vars kn y.ps n j i d))(i d:Nat)(hi:i<=ts.length)(hd:d<=60)(hn:B2 ts .prop i<=n+1):J2 D ts y kn .prop i d (Ca ts y.vars kn y.ps (n+1) .prop i d):=by
 have hl:=H.len;have g:=ih .or i d hi hd (by simp only[B2]at hn ⊢;omega);have f:Far ts i _ _:=Hb H y.vars kn y.ps n .or i d hi;unfold J2 Ca;dsimp only;revert f g;rcases Ca ts y.vars kn y.ps n .or i d with⟨j,e,t⟩
 intro g f;have hj:j<=ts.length:=f.le;unfold J2 at g;obtain⟨z,hz,g⟩:=g;dsimp only at g hz
 by_cases he:e=0
 .subst he
  have hg:=f.gt rfl;obtain rfl:=hz rfl;have e0:∀ k,Br (j,0,z) k=k j z:=λk=>rfl
  rw[e0]
  cases h45:isT ts j [45,62]with
  |true=>
   simp only[if_true];have hlt:=H.isT h45;have g2:=ih .prop (j+1) d (by omega) hd (by simp only[B2]at hn ⊢;omega);revert g2;rcases Ca ts y.vars kn y.ps n .prop (j+1) d with⟨j2,e2,t2⟩
   intro g2;unfold J2 at g2;obtain⟨z2,hz2,g2⟩:=g2;dsimp only at g2 hz2;unfold Br;refine⟨Ef 7 [z,z2],λh=>?_,?_⟩
   .by_cases h0:e2=0
    .rw[hz2 h0,Ac h0]
    .rw[Ab h0]at h
     exact absurd h h0
   have hq2:(if e2=0 then(j2,0,Ef 7 [z,t2]) else JL (j2,e2,t2):Nat × Nat × Tr).2.1=e2/\(if e2=0 then(j2,0,Ef 7 [z,t2]) else JL (j2,e2,t2):Nat × Nat × Tr).1=j2:=by
    by_cases h0:e2=0
    .rw[Ac h0];exact⟨h0.symm,rfl⟩
    .rw[Ab h0];exact⟨rfl,rfl⟩
   rw[hq2.1,hq2.2];refine Ao Kq AjR (e70 ..) ?_;refine Aa g ?_;obtain⟨k,l,r,o,p,q,ks⟩:=z;simp only[BR,BH,Ae];refine Aw ?_ rfl;refine Aa (BZ K ts y.vars kn j (by omega) (by omega) _) ?_;simp only[BH,Ae,h45,if_true];refine Aa g2 ?_;obtain⟨k2,l2,r2,o2,p2,q2,ks2⟩:=z2;simp only[BR,BH,Ae];refine Aa (EN Kq 7 [.mk k l r o p q ks,.mk k2 l2 r2 o2 p2 q2 ks2]) ?_;simp only[Ef,BR,Ae]
   all_goals rfl
  |false=>
   simp only[Awx,if_false];refine⟨z,λ_=>rfl,?_⟩;refine Ao Kq AjR (e70 ..) ?_;refine Aa g ?_;obtain⟨k,l,r,o,p,q,ks⟩:=z;simp only[BR,BH,Ae];refine Aw ?_ rfl;refine Aa (BZ K ts y.vars kn j (by omega) (by omega) _) ?_;simp only[BH,Ae,h45,Awx,if_false]
   all_goals rfl
 .have e0:∀ k,Br (j,e,t) k=(j,e,T0):=λk=>Ab he
  rw[e0];refine⟨z,λh=>absurd h he,?_⟩;refine Ao Kq AjR (e70 ..) ?_;refine Aa g ?_;obtain⟨k,l,r,o,p,q,ks⟩:=z;simp only[BR,BH,Ae];refine As ?_;rfl
theorem WR(n:Nat)(ih:∀(j:LJ) (i d:Nat),i<=ts.length->d<=60->B2 ts j i<=n->J2 D ts y kn j i d (Ca ts y.vars kn y.ps n j i d))(x:Tr)(i d:Nat)(hi:i<=ts.length)(hd:d<=60)(hn:B2 ts (.andL x) i<=n+1):J2 D ts y kn (.andL x) i d (Ca ts y.vars kn y.ps (n+1) (.andL x) i d):=by
 have hl:=H.len;unfold J2 Ca;dsimp only;obtain⟨k1,l1,r1,o1,p1,v1,ks1⟩:=x
 cases hT:isT ts i [38]with
 |false=>
  refine⟨_,λ_=>rfl,?_⟩;refine Ax Kq F5 (PE ..) ?_;refine Aw ?_ rfl;refine Aa (BZ K ts y.vars kn i (by omega) (by omega) _) ?_;simp only[BH,Ae,hT]
  all_goals rfl
 |true=>
  rw[Ac rfl];have hlt:=H.isT hT;have g:=ih .bin (i+1) d (by omega) hd (by simp only[B2]at hn ⊢;omega);have f:Far ts (i+1) _ _:=Hb H y.vars kn y.ps n .bin (i+1) d (by omega);revert f g;rcases Ca ts y.vars kn y.ps n .bin (i+1) d with⟨j,e,t⟩
  intro g f;have hj:j<=ts.length:=f.le;have hg:i+1<=j:=f.ge;unfold Br;dsimp only;unfold J2 at g;obtain⟨z,hz,g⟩:=g;dsimp only at g hz
  by_cases he:e=0
  .subst he
   rw[Ac rfl];obtain rfl:=hz rfl;obtain⟨w,hw,h4⟩:=ih (.andL (Ef 4 [.mk k1 l1 r1 o1 p1 v1 ks1,z])) j d hj hd (by simp only[B2]at hn ⊢;omega);refine⟨w,hw,?_⟩;refine Ax Kq F5 (PE ..) ?_;refine Aw ?_ rfl;refine Aa (BZ K ts y.vars kn i (by omega) (by omega) _) ?_;simp only[BH,Ae,hT,if_true];refine Aa g ?_;obtain⟨k,l,r,o,p,v,ks⟩:=z;simp only[BR,BH,Ae];refine Aw ?_ rfl;refine Aa (EN Kq 4 [.mk k1 l1 r1 o1 p1 v1 ks1,.mk k l r o p v ks]) ?_;simp only[Ef,BR,Ae];refine Aa h4 ?_;obtain⟨k,l,r,o,p,v,ks⟩:=w;rfl
  .rw[Ab he]
   refine⟨.mk k1 l1 r1 o1 p1 v1 ks1,λh=>absurd h he,?_⟩;refine Ax Kq F5 (PE ..) ?_;refine Aw ?_ rfl;refine Aa (BZ K ts y.vars kn i (by omega) (by omega) _) ?_;simp only[BH,Ae,hT,if_true];refine Aa g ?_;obtain⟨k,l,r,o,p,v,ks⟩:=z;simp only[BR,BH,Ae];refine As ?_;refine Aa (S0 Kq ts y kn j d e (.mk k1 l1 r1 o1 p1 v1 ks1) he) ?_;rfl
theorem Zh(n:Nat)(ih:∀(j:LJ) (i d:Nat),i<=ts.length->d<=60->B2 ts j i<=n->J2 D ts y kn j i d (Ca ts y.vars kn y.ps n j i d))(i d:Nat)(hi:i<=ts.length)(hd:d<=60)(hn:B2 ts .and i<=n+1):J2 D ts y kn .and i d (Ca ts y.vars kn y.ps (n+1) .and i d):=by
 have g:=ih .bin i d hi hd (by simp only[B2]at hn ⊢;omega);have f:Far ts i _ _:=Hb H y.vars kn y.ps n .bin i d hi;have hr:Ca ts y.vars kn y.ps (n+1) .and i d=Br (Ca ts y.vars kn y.ps n .bin i d) λj x=>Ca ts y.vars kn y.ps n (.andL x) j d:=rfl
 rw[hr];revert f g;rcases Ca ts y.vars kn y.ps n .bin i d with⟨j,e,t⟩
 intro g f;have hj:j<=ts.length:=f.le;unfold J2 at g;obtain⟨z,hz,g⟩:=g;unfold J2 Br;dsimp only at g hz f ⊢;obtain⟨w,hw,hrow⟩:=AgN Kq ts y kn i d j e z (if e=0 then Ca ts y.vars kn y.ps n (.andL t) j d else JL (j,e,t)) g (λhe=>by rw[Ab he];rfl) (λhe=>by
  have hg:=f.gt he;rw[hz he,Ac he];exact ih (.andL t) j d hj hd (by simp only[B2]at hn ⊢;omega))
 refine⟨w,hw,?_⟩;refine Ao Kq AmF (Aun ..) ?_;refine Aa hrow ?_;rcases (if e=0 then Ca ts y.vars kn y.ps n (.andL t) j d else JL (j,e,t)) with⟨j2,e2,_⟩
 obtain⟨k,l,r,o,p,v,ks⟩:=w;rfl
theorem WQ(n:Nat)(ih:∀(j:LJ) (i d:Nat),i<=ts.length->d<=60->B2 ts j i<=n->J2 D ts y kn j i d (Ca ts y.vars kn y.ps n j i d))(x:Tr)(i d:Nat)(hi:i<=ts.length)(hd:d<=60)(hn:B2 ts (.orL x) i<=n+1):J2 D ts y kn (.orL x) i d (Ca ts y.vars kn y.ps (n+1) (.orL x) i d):=by
 have hl:=H.len;unfold J2 Ca;dsimp only;obtain⟨k1,l1,r1,o1,p1,v1,ks1⟩:=x
 cases hT:isT ts i [124]with
 |false=>
  refine⟨_,λ_=>rfl,?_⟩;refine Ax Kq F5 (PD ..) ?_;refine Aw ?_ rfl;refine Aa (BZ K ts y.vars kn i (by omega) (by omega) _) ?_;simp only[BH,Ae,hT]
  all_goals rfl
 |true=>
  rw[Ac rfl];have hlt:=H.isT hT;have g:=ih .and (i+1) d (by omega) hd (by simp only[B2]at hn ⊢;omega);have f:Far ts (i+1) _ _:=Hb H y.vars kn y.ps n .and (i+1) d (by omega);revert f g;rcases Ca ts y.vars kn y.ps n .and (i+1) d with⟨j,e,t⟩
  intro g f;have hj:j<=ts.length:=f.le;have hg:i+1<=j:=f.ge;unfold Br;dsimp only;unfold J2 at g;obtain⟨z,hz,g⟩:=g;dsimp only at g hz
  by_cases he:e=0
  .subst he
   rw[Ac rfl];obtain rfl:=hz rfl;obtain⟨w,hw,h4⟩:=ih (.orL (Ef 5 [.mk k1 l1 r1 o1 p1 v1 ks1,z])) j d hj hd (by simp only[B2]at hn ⊢;omega);refine⟨w,hw,?_⟩;refine Ax Kq F5 (PD ..) ?_;refine Aw ?_ rfl;refine Aa (BZ K ts y.vars kn i (by omega) (by omega) _) ?_;simp only[BH,Ae,hT,if_true];refine Aa g ?_;obtain⟨k,l,r,o,p,v,ks⟩:=z;simp only[BR,BH,Ae];refine Aw ?_ rfl;refine Aa (EN Kq 5 [.mk k1 l1 r1 o1 p1 v1 ks1,.mk k l r o p v ks]) ?_;simp only[Ef,BR,Ae];refine Aa h4 ?_;obtain⟨k,l,r,o,p,v,ks⟩:=w;rfl
  .rw[Ab he]
   refine⟨.mk k1 l1 r1 o1 p1 v1 ks1,λh=>absurd h he,?_⟩;refine Ax Kq F5 (PD ..) ?_;refine Aw ?_ rfl;refine Aa (BZ K ts y.vars kn i (by omega) (by omega) _) ?_;simp only[BH,Ae,hT,if_true];refine Aa g ?_;obtain⟨k,l,r,o,p,v,ks⟩:=z;simp only[BR,BH,Ae];refine As ?_;refine Aa (SZ Kq ts y kn j d e (.mk k1 l1 r1 o1 p1 v1 ks1) he) ?_;rfl
theorem Zg(n:Nat)(ih:∀(j:LJ) (i d:Nat),i<=ts.length->d<=60->B2 ts j i<=n->J2 D ts y kn j i d (Ca ts y.vars kn y.ps n j i d))(i d:Nat)(hi:i<=ts.length)(hd:d<=60)(hn:B2 ts .or i<=n+1):J2 D ts y kn .or i d (Ca ts y.vars kn y.ps (n+1) .or i d):=by
 have g:=ih .and i d hi hd (by simp only[B2]at hn ⊢;omega);have f:Far ts i _ _:=Hb H y.vars kn y.ps n .and i d hi;have hr:Ca ts y.vars kn y.ps (n+1) .or i d=Br (Ca ts y.vars kn y.ps n .and i d) λj x=>Ca ts y.vars kn y.ps n (.orL x) j d:=rfl
 rw[hr];revert f g;rcases Ca ts y.vars kn y.ps n .and i d with⟨j,e,t⟩
 intro g f;have hj:j<=ts.length:=f.le;unfold J2 at g;obtain⟨z,hz,g⟩:=g;unfold J2 Br;dsimp only at g hz f ⊢;obtain⟨w,hw,hrow⟩:=AgM Kq ts y kn i d j e z (if e=0 then Ca ts y.vars kn y.ps n (.orL t) j d else JL (j,e,t)) g (λhe=>by rw[Ab he];rfl) (λhe=>by
  have hg:=f.gt he;rw[hz he,Ac he];exact ih (.orL t) j d hj hd (by simp only[B2]at hn ⊢;omega))
 refine⟨w,hw,?_⟩;refine Ao Kq Amd (AtL ..) ?_;refine Aa hrow ?_;rcases (if e=0 then Ca ts y.vars kn y.ps n (.orL t) j d else JL (j,e,t)) with⟨j2,e2,_⟩
 obtain⟨k,l,r,o,p,v,ks⟩:=w;rfl
theorem Ar3:∀(n:Nat) (j:LJ) (i d:Nat),i<=ts.length->d<=60->B2 ts j i<=n->J2 D ts y kn j i d (Ca ts y.vars kn y.ps n j i d):=by
 intro n
 induction n with
 |zero=>intro j i d _ _ hn;cases j<;>simp[B2]at hn
 |succ n ih=>
  intro j i d hi hd hn
  cases j with
  |un=>exact Alm K Kb Kq L H P y kn hv hp hq n ih i d hi hd hn
  |bin=>exact AeD K Kb Kq L H P y kn hv hp hq n ih i d hi hd hn
  |and=>exact Zh K Kb Kq L H P y kn hv hp hq n ih i d hi hd hn
  |or=>exact Zg K Kb Kq L H P y kn hv hp hq n ih i d hi hd hn
  |prop=>exact Adq K Kb Kq L H P y kn hv hp hq n ih i d hi hd hn
  |andL x=>exact WR K Kb Kq L H P y kn hv hp hq n ih x i d hi hd hn
  |orL x=>exact WQ K Kb Kq L H P y kn hv hp hq n ih x i d hi hd hn
end
section
open Go.RowKit
variable (A:Ar) (D:Orc)
end
section
variable {D:Orc}
def Aqr(y:Sy):ABlk:=θ (IF y) U Θ
variable   (L:RNameF D) {ts:List Tk} (H:Toks ts) (y:Sy) (kn:Bool) (hv:y.vars.length<4611686018427387904) (hp:y.ps.length<=1000000) (hq:∀ p∈y.ps,p.locs.length<4611686018427387904)
include L H hp hq
omit L H hp hq
variable (hnum:∀ i,(nx ts i).kind=3->(nx ts i).text≠[])
include L H hnum hv hp hq
end
def AaJ(c:UInt8):Nat:=if D6 c then 1 else if BE c then 3 else if Ho c then 4 else 2
theorem Ale{c:UInt8}{l:List UInt8}{k n:Nat}(h:Dr (c::l)=.tok k n):k=AaJ c:=by
 rw[BG]at h;unfold AaJ
 by_cases h1:D6 c=U
 .rw[Ac h1]at h ⊢
  split at h
  .cases h
  .injection h with h1 h2;exact h1.symm
 rw[Ab h1]at h ⊢
 by_cases h2:BE c=U
 .rw[Ac h2]at h ⊢
  split at h
  .cases h
  .split at h
   .cases h
   .injection h with h1 h2;exact h1.symm
 rw[Ab h2]at h ⊢
 by_cases h3:Ho c=U
 .rw[Ac h3]at h ⊢
  injection h with h1 h2;exact h1.symm
 rw[Ab h3]at h ⊢;split at h
 .cases h
 .injection h with h1 h2;exact h1.symm
def KdF(t:Tk):Prop:=(t.kind=5/\t.text=[])\/∃ c r,t.text=c::r/\t.kind=AaJ c
theorem Zp:∀(n:Nat) (l:List UInt8) (p:Nat × Nat),l.length<=n->∀ ts,GX l p=.ok ts->∀ t∈ts,KdF t:=by
 intro n
 induction n with
 |zero=>
  intro l p hl ts h t ht;obtain rfl:l=[]:=AwX.1 (by omega);rw[CU]at h;have h:LexR.ok [⟨5,[],(adv p []).1,(adv p []).2⟩]=.ok ts:=h;injection h with h
  subst h;obtain rfl:=AwY.1 ht;exact .inl ⟨rfl,rfl⟩
 |succ n ih=>
  intro l p hl ts h t ht;rw[CU]at h
  cases hk:Dr (l.drop (Ei Θ l)) with
  |fin=>
   rw[hk]at h;injection h with h
   subst h;obtain rfl:=AwY.1 ht;exact .inl ⟨rfl,rfl⟩
  |err e=>rw[hk]at h;cases h
  |tok k m=>
   rw[hk]at h;have hm:=EX hk;rw[AwR]at hm;obtain⟨us,hu,rfl⟩:=UO h;rcases Awt.1 ht with rfl|ht
   .right
    cases e:l.drop (Ei Θ l) with
    |nil=>
     have:=congrArg List.length e;rw[AwR]at this;simp at this;omega
    |cons c r=>
     rw[e]at hk;obtain⟨m,rfl⟩:∃ q,m=q+1:=⟨m-1,by omega⟩;exact⟨c,r.take m,rfl,Ale hk⟩
   .exact ih _ _ (by rw[AwR];omega) us hu t ht
theorem UG{l:List UInt8}{ts:List Tk}(h:BV l=.ok ts):∀ t∈ts,KdF t:=by
 unfold BV at h;split at h
 .cases h
 .exact Zp _ _ _ (ω _) ts h
theorem Zn{l:List UInt8}{ts:List Tk}(h:BV l=.ok ts):PreT ts:=by
 have hk:=UG h;have hn:=((Dv l).1 ts h).ne;have one:∀(i:Nat) (c:UInt8),(nx ts i).text=[c]->(nx ts i).kind=AaJ c:=λi c hc=>by
  rcases hk _ (UW hn i) with⟨_,h2⟩|⟨d,r,h1,h2⟩
  .rw[hc]at h2;cases h2
  .rw[hc]at h1
   injection h1 with h1 _
   rw[h1];exact h2
 refine⟨λi h=>?_,λi h=>?_⟩
 .rcases h with h|h
  .rw[one i _ h];rfl
  .rw[one i _ h];rfl
 .rcases h with h|h|h
  .rw[one i _ h];rfl
  .rw[one i _ h];rfl
  .rw[one i _ h];rfl
def Ci(s:List UInt8)(vars:List ByteArray)(ps:List Pr):Tr × (Nat × Nat × Nat):=match BV s with
 |.err c ln co=>(T0,(ln,co,c))
 |.ok ts=>((Dc ts vars U ps).2.2,YO ts (Dc ts vars U ps).1 (Dc ts vars U ps).2.1)
theorem Ac2{ts:List Tk}(H:Toks ts)(vars:List ByteArray)(kn:Bool)(ps:List Pr):(Dc ts vars kn ps).1<=ts.length:=by
 have f:Far ts 0 _ _:=Hb H vars kn ps (8*ts.length+5) .prop 0 0 (Axb _);exact f.le
section
variable {D:Orc}
theorem Zw(Kw:Knows Ah RD D)(s:ByteArray)(y:Sy)(x:Rw)(ln co e:Nat)(he:e≠0)(hall:D.ask (.fn 91) [sv s] []=V (.tup [.ls x,.agg [iv (ln:Int),iv (co:Int)],iv (e:Int)],[])):D.ask (.fn 53) [sv s,.ls (y.vars.map eS),bv U,.fn (.func 69) [] [.ptr 0 0]] [Aqr y]=V (HH T0 (ln,co,e),[.keep]):=by
 refine Ao Kw Apx (Are ..) ?_;refine Aa hall ?_;simp only[Ae];refine As ?_;unfold HH R2;rw[Ab he];rfl
set_option linter.unusedSectionVars false
variable (K:Knows Ah De D) (Kb:Knows Ah Jq D) (Kq:Knows Ah GM D) (Kr:Knows Ah XO D) (Kw:Knows Ah RD D) (L:NameF D) (y:Sy) (hv:y.vars.length<4611686018427387904) (hp:y.ps.length<=1000000) (hq:∀ p∈y.ps,p.locs.length<4611686018427387904)
include K Kb Kq Kr Kw L hv hp hq
theorem Adn{ts:List Tk}(H:Toks ts)(P:PreT ts):∃ z,((Dc ts y.vars U y.ps).2.1=0->z=(Dc ts y.vars U y.ps).2.2)/\D.ask (.fn 69) [.ptr 0 0,.ptr 1 0] [BH ts y.vars U 0,Aqr y]
  = V (.tup [.agg (BR z),iv ((Dc ts y.vars U y.ps).2.1:Int)],[.set (BH ts y.vars U (Dc ts y.vars U y.ps).1),.keep]):=by
 obtain⟨z,hz,g⟩:=Ar3 K Kb Kq L H P y U hv hp hq (8*ts.length+5) .prop 0 0 (Axb _) (by omega) (by simp only[B2];omega);refine⟨z,hz,?_⟩;refine Ao Kr ArC (e69 ..) ?_;refine Aa g ?_;unfold Dc;rcases Ca ts y.vars U y.ps (8*ts.length+5) .prop 0 0 with⟨j,e,_⟩
 obtain⟨k,l,r,o,p,q,ks⟩:=z;rfl
theorem Ac8(s:ByteArray){ts:List Tk}(H:Toks ts)(P:PreT ts)(hall:D.ask (.fn 91) [sv s] []=V (.tup [.ls (ts.map NT),.agg [iv 0,iv 0],iv 0],[])):D.ask (.fn 53) [sv s,.ls (y.vars.map eS),bv U,.fn (.func 69) [] [.ptr 0 0]] [Aqr y]
  = V (HH (Dc ts y.vars U y.ps).2.2 (YO ts (Dc ts y.vars U y.ps).1 (Dc ts y.vars U y.ps).2.1),[.keep]):=by
 have hl:=H.len;have hf:=Ac2 H y.vars U y.ps;obtain⟨z,hz,g⟩:=Adn K Kb Kq Kr Kw L y hv hp hq H P;refine Ao Kw Apx (Are ..) ?_;refine Aa hall ?_;simp only[Ae];refine Aw ?_ rfl;refine Aa g ?_;revert hf hz;rcases Dc ts y.vars U y.ps with⟨j,e,t⟩
 intro hf hz;have hj:j<=ts.length:=hf;have ha:=Ln K ts y.vars U j (by omega) (by omega);dsimp only at hz ⊢;unfold HH YO R2
 by_cases h0:e=0
 .obtain rfl:=hz h0
  obtain⟨k,l,r,o,p,q,ks⟩:=z;simp only[BR,BH,Ae];refine Aw ?_;refine Aa ha ?_;simp only[NT,BH,Ae]
  by_cases h5:(nx ts j).kind=5
  .refine Aw ?_
   refine Aw ?_;simp only[h0,h5,if_true]
   all_goals rfl
  .refine As ?_
   refine As ?_;refine Aa ha ?_;simp only[NT,BH,Ae,h0,h5,if_true,if_false]
   all_goals rfl
 .obtain⟨k,l,r,o,p,q,ks⟩:=z
  simp only[BR,BH,Ae];refine As ?_
  first|refine As ?_|skip
  refine Aa ha ?_;simp only[NT,BH,Ae,h0,if_false]
  all_goals rfl
theorem SY(A:LexA D)(s:ByteArray)(hs:s.size<=9223372036854775807):D.ask (.fn 32) [sv s,.agg (IF y)] []=V (HH (Ci s.data.toList y.vars y.ps).1 (Ci s.data.toList y.vars y.ps).2,[]):=by
 refine Ao Kr Arn (e32 ..) ?_;unfold Ci
 cases h:BV s.data.toList with
 |err c ln co=>
  have hc:=(Dv s.data.toList).2 c ln co h;have g:=Zw Kw s y _ ln co c hc (A.err s c ln co hs h);refine Aa g ?_;unfold HH R2;simp only[hc,if_false,T0,BR,Ae]
  all_goals rfl
 |ok ts=>
  have f:=(Dv s.data.toList).1 ts h;have hn:=QK h;have g:=Ac8 K Kb Kq Kr Kw L y hv hp hq s (f.toks (by omega)) (Zn h) (A.ok s ts hs h);refine Aa g ?_;unfold HH;simp only;rcases R2 (YO ts (Dc ts y.vars U y.ps).1 (Dc ts y.vars U y.ps).2.1).2.2 (Dc ts y.vars U y.ps).2.2 with⟨k,l,r,o,p,q,ks⟩
  rfl
end


def Aj7:Nat->List UInt8->Nat × Nat->LexR
 |0,_,_=>.err 0 0 0
 |f+1,l,p=>match Dr (l.drop (Ei Θ l)) with
  |.fin=>.ok [⟨5,[],(adv p (l.take (Ei Θ l))).1,(adv p (l.take (Ei Θ l))).2⟩]
  |.err e=>.err e (adv p (l.take (Ei Θ l))).1 (adv p (l.take (Ei Θ l))).2
  |.tok kind n=>(Aj7 f (l.drop (Ei Θ l+n)) (adv (adv p (l.take (Ei Θ l))) ((l.drop (Ei Θ l)).take n))).more ⟨kind,(l.drop (Ei Θ l)).take n,(adv p (l.take (Ei Θ l))).1,(adv p (l.take (Ei Θ l))).2⟩
theorem AaP:∀(f:Nat) (l:List UInt8) (p:Nat × Nat),l.length<f->Aj7 f l p=GX l p
 |0,_,_,h=>by omega
 |f+1,l,p,h=>by
  rw[CU,Aj7]
  cases hk:Dr (l.drop (Ei Θ l)) with
  |fin=>rfl
  |err e=>rfl
  |tok k n=>
   simp only;have h1:=EX hk;rw[AwR]at h1;rw[AaP f _ _ (by rw[AwR];omega)]
def AaN(l:List UInt8):LexR:=match Nat.blt 16384 l.length with
 |true=>.err 2 1 1
 |false=>Aj7 (l.length+1) l (1,1)
theorem Mc(l:List UInt8):BV l=AaN l:=by
 unfold BV AaN
 by_cases h:16384<l.length
 .rw[Ac h,Nat.blt_eq.mpr h]
 .rw[Ab h,show Nat.blt 16384 l.length=Θ from by rw[Bool.eq_false_iff];exact λe=>h (Nat.blt_eq.mp e)]
  exact(AaP _ _ _ (Awz _)).symm
