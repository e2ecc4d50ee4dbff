/- The text of a right tree -/
import Derived.Test.YtlmhajfbpplpoaaGreatPBM
import Derived.Test.YtlmhajfbpplpoaaGreatPBL
set_option linter.all false
open Bool renaming and_eq_true->χ,and_true->Auc,false_and->Ar2,false_eq_true->Arr,false_or->As1,not_eq_true'->AsL,or_eq_decide->Auk,or_eq_true->Ass,or_false->AtC,true_and->Arq,true_eq_false->Aty
open List renaming all_cons->Aso,all_eq_true->Arg,append_assoc->Ari,append_nil->Asa,cons_append->ArR,contains_cons->Ata,contains_nil->Atf,drop->ο,drop_eq_getElem_cons->Arf,drop_eq_nil_of_le->Ark,drop_succ_cons->AsX,drop_zero->υ,find?_cons->As4,getElem?_eq_getElem->Ψ,length_append->η,length_cons->ν,length_drop->ArU,length_eq_zero_iff->ArO,length_nil->ArI,length_singleton->Ase,mem_cons->Arl,mem_of_getElem?->ArS,nil_append->Arx,not_mem_nil->Auu,singleton_append->Asq,take->ι
open Nat renaming le_refl->ω,le_succ->Atw,lt_succ_self->ArB,succ_ne_zero->Auw
namespace Go.Proofs.YtlmhajfbpplpoaaGreat
open ABlk renaming mk->U
open Go.RowKit
def ktR:LexR->Option (List KT)
 |.ok ts=>some (ts.map kt)
 |.err ..=>none
theorem OX(t:Tk)(r:LexR):ktR (r.more t)=(ktR r).map (kt t::·):=by cases r<;>rfl
theorem Af3:∀(n:Nat) (l:List UInt8) (p q:Nat × Nat),l.length<=n->ktR (IC l p)=ktR (IC l q):=by
 intro n
 induction n with
 |zero=>
  intro l p q h;obtain rfl:l=[]:=ArO.1 (by omega);rw[Du,Du];rfl
 |succ n ih=>
  intro l p q h;rw[Du,Du]
  cases ht:DM (l.drop (ER false l)) with
  |fin=>rfl
  |err e=>rfl
  |tok k m=>
   have h1:=Hi ht;rw[ArU]at h1;simp only[OX];rw[ih _ _ (adv (adv q (l.take (ER false l))) ((l.drop (ER false l)).take m)) (by rw[ArU];omega)];rfl
def Cp(l:List UInt8):Option (List KT):=ktR (IC l (1,1))
theorem QF(l:List UInt8)(p:Nat × Nat):ktR (IC l p)=Cp l:=Af3 _ l p (1,1) (ω _)
theorem Zm:Cp []=some [(5,[])]:=by
 unfold Cp;rw[Du];rfl
theorem FF{l:List UInt8}{k n:Nat}(hg:ER false l=0)(h:DM l=.tok k n):Cp l=(Cp (l.drop n)).map ((k,l.take n)::·):=by
 unfold Cp;rw[Du,hg];simp only[υ,h,OX,Nat.zero_add];rw[QF];rfl
theorem AkU(l:List UInt8):ER false (32::l)=ER false l+1:=by
 show (if _ then _ else _)=_
 rw[if_neg (by decide),if_neg (by decide),if_neg (by decide),if_pos (by decide)]
theorem CZ(l:List UInt8):Cp (32::l)=Cp l:=by
 show ktR (IC _ _)=ktR (IC _ _)
 rw[Du (32::l),Du l,AkU,AsX]
 cases ht:DM (l.drop (ER false l)) with
 |fin=>rfl
 |err e=>rfl
 |tok k m=>
  simp only[OX,QF];rw[show ER false l+1+m=(ER false l+m)+1 by omega,AsX];rfl
def StopB(rest:List UInt8):Prop:=rest=[]\/∃ c r,rest=c::r/\(c=32\/c=41)
def W3(rest:List UInt8):Prop:=rest=[]\/∃ c r,rest=c::r/\(c=32\/c=41\/c=42)
theorem StopB.n{rest:List UInt8}(h:StopB rest):W3 rest:=by
 rcases h with h|⟨c,r,h,h2⟩
 .exact .inl h
 .exact .inr ⟨c,r,h,by rcases h2 with h2|h2<;>simp[h2]⟩
theorem NV(q:UInt8->Bool)(rest:List UInt8)(hr:rest=[]\/∃ c r,rest=c::r/\q c=false):∀ l:List UInt8,l.all q=true->Fs q (l++rest)=l.length
 |[],_=>by
  rcases hr with rfl|⟨c,r,rfl,h⟩
  .rfl
  .show Fs q (c::r)=0
   unfold Fs;rw[h];rfl
 |c::l,h=>by
  rw[Aso,χ]at h;rw[ArR];unfold Fs;rw[if_pos h.1,NV q rest hr l h.2];rfl
theorem Ad5{rest:List UInt8}(h:W3 rest)(q:UInt8->Bool)(h1:q 32=false)(h2:q 41=false)(h3:q 42=false):rest=[]\/∃ c r,rest=c::r/\q c=false:=by
 rcases h with h|⟨c,r,h,h5⟩
 .exact .inl h
 .exact .inr ⟨c,r,h,by rcases h5 with rfl|rfl|rfl<;>assumption⟩
theorem RJ(l rest:List UInt8):(l++rest).take l.length=l:=by simp
theorem RI(l rest:List UInt8):(l++rest).drop l.length=rest:=by simp
theorem QI{l rest:List UInt8}(h:DS l=true)(hr:W3 rest):Cp (l++rest)=(Cp rest).map ((3,l)::·):=by
 unfold DS at h;simp only[χ,AsL,decide_eq_true_eq]at h;obtain⟨⟨⟨h1,h2⟩,h3⟩,h4⟩:=h
 cases l with
 |nil=>simp at h1
 |cons c l=>
  have hd:BF c=true:=by
   rw[Aso,χ]at h4;exact h4.1
  have hs:=NV BF rest (Ad5 hr BF (by decide) (by decide) (by decide)) (c::l) h4;have ht:DM ((c::l)++rest)=.tok 3 (c::l).length:=by
   rw[ArR,B4,if_neg,if_pos hd]
   .rw[ArR]at hs
    rw[hs,if_neg (by omega),if_neg];rintro⟨h5,h6⟩;simp[h5,h6]at h3;simp at h5;exact absurd h5 (by simpa using h3)
   .unfold BF at hd
    unfold D2;simp only[χ,decide_eq_true_eq]at hd ⊢;omega
  have hg:ER false ((c::l)++rest)=0:=GY _ (AfD hd);rw[FF hg ht,RJ,RI]
theorem FU{l rest:List UInt8}(h:Gd l=true)(hr:W3 rest):Cp (l++rest)=(Cp rest).map ((1,l)::·):=by
 unfold Gd at h;simp only[χ,AsL,decide_eq_true_eq]at h;obtain⟨⟨⟨h1,h2⟩,h3⟩,h4⟩:=h
 cases l with
 |nil=>simp at h1
 |cons c l=>
  have hd:D2 c=true:=h3;have hs:=NV Ep rest (Ad5 hr Ep (by decide) (by decide) (by decide)) (c::l) h4;have ht:DM ((c::l)++rest)=.tok 1 (c::l).length:=by
   rw[ArR,B4,if_pos hd];rw[ArR]at hs;rw[hs,if_neg (by omega)]
  have hg:ER false ((c::l)++rest)=0:=GY _ (XE hd);rw[FF hg ht,RJ,RI]
theorem Ux{c:UInt8}(h:Pe c=true):D2 c=false/\BF c=false/\Hs c=false:=by
 unfold Pe at h;unfold D2 BF Hs;simp only[Ata,Atf,Ass,beq_iff_eq,AtC]at h;simp only[Bool.and_eq_false_iff,decide_eq_false_iff_not,Ata,Atf,Bool.or_eq_false_iff,beq_eq_false_iff_ne,AtC];omega
theorem Cw{c:UInt8}{rest:List UInt8}(h1:Pe c=true)(h2:rest=[]\/∃ d r,rest=d::r/\KX c d=false):Cp (c::rest)=(Cp rest).map ((2,[c])::·):=by
 obtain⟨k1,k2,k3⟩:=Ux h1;have hs:B3 (c::rest)=1:=by
  rcases h2 with rfl|⟨d,r,rfl,h2⟩
  .rw[WJ,if_pos h1]
  .rw[Yk,h2,if_neg (by simp),if_pos h1]
 have ht:DM (c::rest)=.tok 2 1:=by
  rw[B4,k1,k2,k3,hs];rfl
 rw[FF (GY _ (X5 h1)) ht];rfl
theorem H9{c d:UInt8}{rest:List UInt8}(h2:KX c d=true):Cp (c::d::rest)=(Cp rest).map ((2,[c,d])::·):=by
 have h1:=Ahb h2;obtain⟨k1,k2,k3⟩:=Ux h1;have hs:B3 (c::d::rest)=2:=by rw[Yk,if_pos h2]
 have ht:DM (c::d::rest)=.tok 2 2:=by
  rw[B4,k1,k2,k3,hs];rfl
 rw[FF (GY _ (X5 h1)) ht];rfl
theorem Aha{c:UInt8}(h1:c≠45)(h2:c≠58)(h3:c≠33)(h4:c≠60)(h5:c≠62)(h6:c≠46)(d:UInt8):KX c d=false:=by
 unfold KX Sx;have e:∀ n:UInt8,c≠n->c.toNat≠n.toNat:=λn h h'=>h (UInt8.toNat_inj.1 h')
 have e1:=e _ h1;have e2:=e _ h2;have e3:=e _ h3;have e4:=e _ h4;have e5:=e _ h5;have e6:=e _ h6;simp only[show (45:UInt8).toNat=45 from rfl,show (58:UInt8).toNat=58 from rfl,show (33:UInt8).toNat=33 from rfl,show (60:UInt8).toNat=60 from rfl,show (62:UInt8).toNat=62 from rfl,show (46:UInt8).toNat=46 from rfl]at e1 e2 e3 e4 e5 e6;rw[if_neg (λh=>e1 h.1),if_neg (λh=>e2 h.1),if_neg (λh=>e3 h.1),if_neg (λh=>e4 h.1),if_neg (λh=>e5 h.1),if_neg (λh=>e6 h.1)];split<;>rfl
def HdB(s:List UInt8):Prop:=∃ d r,s=d::r/\(D2 d=true\/BF d=true\/d=45\/d=40\/d=33)
theorem AlM{c d:UInt8}(hd:D2 d=true\/BF d=true\/d=45\/d=40\/d=33):KX c d=false:=by
 have:d.toNat≠62/\d.toNat≠61/\d.toNat≠46:=by
  unfold D2 BF at hd;simp only[χ,decide_eq_true_eq]at hd;rcases hd with h|h|rfl|rfl|rfl
  .omega
  .omega
  .decide
  .decide
  .decide
 unfold KX Sx;rw[if_neg (λh=>this.1 h.2),if_neg (λh=>this.2.1 h.2),if_neg (λh=>this.2.1 h.2),if_neg (λh=>this.2.1 h.2),if_neg (λh=>this.2.1 h.2),if_neg (λh=>this.2.2 h.2)];split<;>rfl
def Lx(s:List UInt8)(ks:List KT):Prop:=∀ rest,StopB rest->Cp (s++rest)=(Cp rest).map (ks++·)
theorem Dv(a b:List KT)(o:Option (List KT)):(o.map (b++·)).map (a++·)=o.map ((a++b)++·):=by cases o<;>simp
theorem Ej(a:KT)(o:Option (List KT)):o.map (a::·)=o.map ([a]++·):=rfl
theorem Jq(b:ByteArray):Af b.data.toList=b:=rfl
theorem Si{b:ByteArray}(h:b=Af []):b.data.toList=[]:=by rw[h];rfl
theorem D6{l:List UInt8}(h:Cq l=true):Gd l=true:=by
 unfold Cq at h;rw[χ]at h;exact h.1
theorem Ob{l:List UInt8}(h:Gd l=true)(r:List UInt8):HdB (l++r):=by
 unfold Gd at h;simp only[χ,AsL,decide_eq_true_eq]at h
 cases l with
 |nil=>simp at h
 |cons c l=>exact⟨c,l++r,rfl,.inl h.1.2⟩
theorem Adi{l:List UInt8}(h:DS l=true)(r:List UInt8):HdB (l++r):=by
 unfold DS at h;simp only[χ,AsL,decide_eq_true_eq,Arg]at h
 cases l with
 |nil=>simp at h
 |cons c l=>exact⟨c,l++r,rfl,.inr (.inl (h.2 c (List.mem_cons_self ..)))⟩
theorem HdB.app{s:List UInt8}(h:HdB s)(r:List UInt8):HdB (s++r):=by
 obtain⟨d,r',rfl,h⟩:=h;exact⟨d,r'++r,rfl,h⟩
theorem HdB.two{s:List UInt8}(h:HdB s)(c:UInt8):s=[]\/∃ d r,s=d::r/\KX c d=false:=by
 obtain⟨d,r,rfl,h⟩:=h;exact .inr ⟨d,r,rfl,AlM h⟩
theorem G8{m:Mo}(h:AO m=true):(m.num≠Af []->DS m.num.data.toList=true)/\(m.var≠Af []->Cq m.var.data.toList=true)/\(m.num=Af []->m.var≠Af []):=by
 unfold AO at h;simp only[χ,Ass,decide_eq_true_eq]at h;obtain⟨⟨h1,h2⟩,h3⟩:=h;refine⟨λe=>h2.resolve_left e,λe=>h3.resolve_left e,λe=>h1.resolve_left λh=>h e⟩
theorem Aj1{m:Mo}(h:AO m=true):HdB (Cn m):=by
 obtain⟨h1,h2,h3⟩:=G8 h;unfold Cn;split
 .rename_i e
  rw[Ari];exact Adi (h1 e.1) _
 .rename_i e
  by_cases hn:m.num=Af []
  .rw[Si hn,Arx]
   have:=Ob (D6 (h2 (h3 hn))) []
   rwa [Asa]at this
  .exact Adi (h1 hn) _
theorem An7{m:Mo}(h:AO m=true):Lx (Cn m) (Mm m):=by
 intro rest hr;obtain⟨h1,h2,h3⟩:=G8 h;unfold Cn Mm
 by_cases hn:m.num=Af []
 .rw[if_neg (λe=>e.1 hn),if_neg (λe=>e hn),Si hn,Arx,FU (D6 (h2 (h3 hn))) hr.n]
  rfl
 .rw[if_pos hn]
  by_cases hv:m.var=Af []
  .rw[if_neg (λe=>e.2 hv),if_neg (λe=>e hv),Si hv,Asa,QI (h1 hn) hr.n]
   rfl
  .rw[if_pos ⟨hn,hv⟩,if_pos hv]
   rw[Ari,Ari,Asq,QI (h1 hn) (.inr ⟨42,_,rfl,.inr (.inr rfl)⟩),Cw (by decide) ((Ob (D6 (h2 hv)) rest).two 42),FU (D6 (h2 hv)) hr.n];simp only[Ej,Dv];rfl
theorem Aac(m:Mo)(i:Nat)(r rest:List UInt8):StopB ((L6 (i+1) m++r)++rest):=by
 unfold L6;rw[if_neg (Auw i),if_neg (Auw i)]
 by_cases hn:m.neg=true
 .rw[if_pos hn]
  exact .inr ⟨32,_,rfl,.inl rfl⟩
 .rw[if_neg hn]
  exact .inr ⟨32,_,rfl,.inl rfl⟩
theorem Aea:∀(ms:List Mo) (i:Nat),ms.all AO=true->Lx (Ci i ms) (C6 i ms)
 |[],i,_=>λrest _=>by
  show Cp rest=(Cp rest).map ([]++·)
  cases Cp rest<;>rfl
 |m::r,i,h=>λrest hr=>by
  rw[Aso,χ]at h;have ih:=Aea r (i+1) h.2 rest hr;have hs:StopB (Ci (i+1) r++rest):=by
   cases r with
   |nil=>exact hr
   |cons m' r'=>
    have:=Aac m' i (Cn m'++Ci (i+1+1) r') rest;simp only[Ci,Ari]at this ⊢;exact this
  have hm:=An7 h.1 _ hs;rw[ih,Dv]at hm;have hh:HdB (Cn m++(Ci (i+1) r++rest)):=(Aj1 h.1).app _;unfold Ci C6 L6 Z3;rw[Ari,Ari]
  by_cases hn:m.neg=true
  .rw[if_pos hn,if_pos hn]
   by_cases h0:i=0
   .rw[if_pos h0,Asq,Cw (by decide) (hh.two 45),hm,Ej,Dv,Ari]
   .rw[if_neg h0]
    show Cp (32::45::32::(Cn m++(Ci (i+1) r++rest)))=_
    rw[CZ,Cw (by decide) (.inr ⟨32,_,rfl,by decide⟩),CZ,hm,Ej,Dv,Ari]
  .rw[if_neg hn,if_neg hn]
   by_cases h0:i=0
   .rw[if_pos h0,if_pos h0,Arx,hm]
    rfl
   .rw[if_neg h0,if_neg h0]
    show Cp (32::43::32::(Cn m++(Ci (i+1) r++rest)))=_
    rw[CZ,Cw (by decide) (.inr ⟨32,_,rfl,by decide⟩),CZ,hm,Ej,Dv,Ari]
theorem DH{ms:List Mo}(h:JE ms=true):0<ms.length/\ms.length<=64/\ms.all AO=true:=by
 unfold JE at h;simp only[χ,decide_eq_true_eq]at h;exact⟨h.1.1,h.1.2,h.2⟩
theorem Rl{ms:List Mo}(h:JE ms=true):Lx (CJ ms) (C6 0 ms):=by
 unfold CJ;rw[if_pos h];exact Aea ms 0 (DH h).2.2
theorem Z9{ms:List Mo}(h:JE ms=true):HdB (CJ ms):=by
 unfold CJ;rw[if_pos h];obtain⟨h1,_,h3⟩:=DH h
 cases ms with
 |nil=>simp at h1
 |cons m r=>
  rw[Aso,χ]at h3;unfold Ci L6
  by_cases hn:m.neg=true
  .rw[if_pos hn,if_pos rfl]
   exact⟨45,_,rfl,.inr (.inr (.inl rfl))⟩
  .rw[if_neg hn,if_pos rfl]
   exact((Aj1 h3.1).app _:HdB (Cn m++_))
theorem Aod{op:Int}(h1:0<=op)(h2:op<=5)(rest:List UInt8):Cp (EJ.getD op.toNat []++32::rest)=(Cp (32::rest)).map ([(2,EJ.getD op.toNat [])]++·):=by
 have:op.toNat<6:=by omega
 generalize op.toNat=n at this
 match n,this with
 |0,_=>exact Cw (by decide) (.inr ⟨32,_,rfl,by decide⟩)
 |1,_=>exact H9 (by decide)
 |2,_=>exact Cw (by decide) (.inr ⟨32,_,rfl,by decide⟩)
 |3,_=>exact H9 (by decide)
 |4,_=>exact Cw (by decide) (.inr ⟨32,_,rfl,by decide⟩)
 |5,_=>exact H9 (by decide)
theorem Aa8{l r:List Mo}{op:Int}(hl:JE l=true)(hr:JE r=true)(h1:0<=op)(h2:op<=5):Lx (IS l r op) (C6 0 l++[(2,EJ.getD op.toNat [])]++C6 0 r)/\HdB (IS l r op):=by
 constructor
 .intro rest hrest
  unfold IS;have e:CJ l++[32]++EJ.getD op.toNat []++[32]++CJ r++rest=CJ l++(32::(EJ.getD op.toNat []++(32::(CJ r++rest)))):=by simp
  rw[e,Rl hl _ (.inr ⟨32,_,rfl,.inl rfl⟩)];rw[CZ,Aod h1 h2,CZ,Rl hr _ hrest,Dv,Dv]
 .unfold IS
  simp only[Ari];exact(Z9 hl).app _
theorem Ag9:Lx [116,114,117,101] [(1,[116,114,117,101])]:=λrest hr=>FU (by decide) hr.n
theorem AbQ:Lx [102,97,108,115,101] [(1,[102,97,108,115,101])]:=λrest hr=>FU (by decide) hr.n
theorem Aky{c:UInt8}(hc:c=38\/c=124){s t:List UInt8}{ks js:List KT}(h:Lx s ks)(g:Lx t js):Lx (s++[32,c,32]++t) (ks++[(2,[c])]++js):=λrest hr=>by
 have e:s++[32,c,32]++t++rest=s++(32::c::32::(t++rest)):=by simp
 rw[e,h _ (.inr ⟨32,_,rfl,.inl rfl⟩),CZ,Cw (by rcases hc with rfl|rfl<;>decide) (.inr ⟨32,_,rfl,by rcases hc with rfl|rfl<;>decide⟩),CZ,g _ hr];simp only[Ej,Dv];simp only[Ari]
def SR(b:Bool)(s:List UInt8):List UInt8:=if b then [40]++s++[41] else s
def FA(b:Bool)(s:List KT):List KT:=if b then [(2,[40])]++s++[(2,[41])] else s
theorem AaA(k:Int)(i:Nat)(x:Tr)(r:List Tr):AaD k i (x::r)=SR (brk k i x.kind) (txt x)::AaD k (i+1) r:=by rw[AaD];rfl
theorem KA{k:Int}{d i:Nat}{x:Tr}{r:List Tr}(h:Eu k d i (x::r)=true):Fx (brk k i x.kind) d<=60/\BS x (Fx (brk k i x.kind) d)=true/\Eu k d (i+1) r=true:=by
 rw[Eu]at h;simp only[χ,decide_eq_true_eq]at h;exact⟨h.1.1,h.1.2,h.2⟩
inductive ShapeT:Tr->Nat->Prop where
 |tt (d:Nat):ShapeT (.mk 0 [] [] 0 (Af []) (Af []) []) d
 |ff (d:Nat):ShapeT (.mk 1 [] [] 0 (Af []) (Af []) []) d
 |cmp (d:Nat) {l r:List Mo} {op:Int} (hl:JE l=true) (hr:JE r=true) (h1:0<=op) (h2:op<=5):ShapeT (.mk 2 l r op (Af []) (Af []) []) d
 |no (d:Nat) {x:Tr} (hd:Fx (brk 3 0 x.kind) (d+1)<=60) (h:BS x (Fx (brk 3 0 x.kind) (d+1))=true):ShapeT (.mk 3 [] [] 0 (Af []) (Af []) [x]) d
 |bin (d:Nat) {k:Int} {x y:Tr} (hk:k=4\/k=5) (hd:Fx (brk k 0 x.kind) d<=60) (h:BS x (Fx (brk k 0 x.kind) d)=true) (gd:Fx (brk k 1 y.kind) d<=60) (g:BS y (Fx (brk k 1 y.kind) d)=true):ShapeT (.mk k [] [] 0 (Af []) (Af []) [x,y]) d
theorem Ma{t:Tr}{d:Nat}(h:BS t d=true):ShapeT t d:=by
 obtain⟨k,l,r,op,p,q,ks⟩:=t;rw[BS]at h
 by_cases h2:k=2
 .rw[if_pos h2]at h
  subst h2;unfold GG at h;simp only[χ,decide_eq_true_eq]at h;obtain⟨⟨⟨⟨⟨⟨⟨_,hl⟩,hr⟩,h3⟩,h4⟩,rfl⟩,rfl⟩,h5⟩:=h;obtain rfl:ks=[]:=ArO.1 h5;exact .cmp d hl hr h3 h4
 .rw[if_neg h2]at h
  unfold EV at h;simp only[χ,decide_eq_true_eq]at h;obtain⟨⟨⟨⟨⟨⟨⟨hl,hr⟩,rfl⟩,rfl⟩,rfl⟩,ha⟩,hd⟩,hk⟩:=h;obtain rfl:l=[]:=ArO.1 hl;obtain rfl:r=[]:=ArO.1 hr;have hks:∀ n:Nat,(ks.length:Int)=(n:Int)->ks.length=n:=λn h=>by omega
  unfold arI at ha
  by_cases h0:k=0
  .subst h0
   rw[if_pos rfl]at ha;obtain rfl:ks=[]:=ArO.1 (by omega);exact .tt d
  rw[if_neg h0]at ha
  by_cases h1:k=1
  .subst h1
   rw[if_pos rfl]at ha;obtain rfl:ks=[]:=ArO.1 (by omega);exact .ff d
  rw[if_neg h1]at ha
  by_cases h3:k=3
  .subst h3
   rw[if_pos rfl]at ha
   match ks,ha,hk with
   |[x],_,hk=>
    obtain⟨k1,k2,_⟩:=KA hk;exact .no d k1 k2
  rw[if_neg h3]at ha;rw[decide_eq_false h3]at hk;have hb:(k=4\/k=5)/\ks.length=2:=by
   by_cases h4:k=4
   .rw[if_pos h4]at ha;exact⟨.inl h4,by omega⟩
   .rw[if_neg h4]at ha
    by_cases h5:k=5
    .rw[if_pos h5]at ha;exact⟨.inr h5,by omega⟩
    .rw[if_neg h5]at ha;omega
  match ks,hb.2,hk with
  |[x,y],_,hk=>
   obtain⟨k1,k2,hk⟩:=KA hk;obtain⟨k3,k4,_⟩:=KA hk;exact .bin d hb.1 k1 k2 k3 k4
theorem Zl{s:List UInt8}{ks:List KT}(h:Lx s ks)(hs:s.length<=16384):∃ ts,Cl s=.ok ts/\ts.map kt=ks++[(5,[])]:=by
 have g:=h [] (.inl rfl);rw[Asa,Zm]at g;unfold Cl;rw[if_neg (by omega)];unfold Cp at g
 cases e:IC s (1,1) with
 |ok ts=>
  rw[e]at g;exact⟨ts,rfl,Option.some.inj g⟩
 |err c ln co=>
  rw[e]at g
  cases g
def Fc(ts:List Tk)(i:Nat)(ks:List KT):Prop:=(ts.map kt).drop i=ks
section
variable {ts:List Tk}
theorem A2{i:Nat}{a:KT}{r:List KT}(h:Fc ts i (a::r)):((nx ts i).kind=a.1/\(nx ts i).text=a.2)/\Fc ts (i+1) r:=by
 unfold Fc at h ⊢;have h1:(ts.map kt)[i]? = some a:=by
  have:=congrArg (λl=>l[0]?) h;simpa using this
 rw[List.getElem?_map]at h1;refine⟨?_,?_⟩
 .unfold nx
  cases e:ts[i]? with
  |none=>rw[e]at h1;cases h1
  |some t=>
   rw[e]at h1;have:kt t=a:=Option.some.inj h1;rw[←this];exact⟨rfl,rfl⟩
 .have:=congrArg (ο 1) h
  rw[List.drop_drop]at this;simpa[Nat.add_comm]using this
theorem Dr:∀{a r:List KT} {i:Nat},Fc ts i (a++r)->Fc ts (i+a.length) r
 |[],r,i,h=>h
 |x::a,r,i,h=>by
  have:=Dr (a:=a) (r:=r) (A2 h).2;rw[ν,show i+(a.length+1)=i+1+a.length by omega];exact this
theorem MQ{i:Nat}{a:KT}{r:List KT}(h:Fc ts i (a::r))(s:List UInt8):isT ts i s=(decide (a.2=s)&&(decide (a.1=1)||decide (a.1=2)||decide (a.1=4))):=by
 unfold isT;rw[(A2 h).1.1,(A2 h).1.2]
theorem A0{i:Nat}{a:KT}{r:List KT}(h:Fc ts i (a::r)){s:List UInt8}(hs:a.2≠s):isT ts i s=false:=by
 rw[MQ h,decide_eq_false hs,Ar2]
theorem DB{i:Nat}{s:List UInt8}{r:List KT}(h:Fc ts i ((2,s)::r)):isT ts i s=true:=by
 rw[MQ h];simp
theorem Wp(m:Mo){a b:ByteArray}(h1:a=m.num)(h2:b=m.var):(⟨m.neg,a,b⟩:Mo)=m:=by rw[h1,h2]
theorem Alg{m:Mo}(h:AO m=true):∃ a r,Mm m=a::r/\a.2≠[45]/\a.2≠[33]/\a.2≠[40]/\a.2≠[116,114,117,101]/\a.2≠[102,97,108,115,101]:=by
 obtain⟨h1,h2,h3⟩:=G8 h;have fn:∀ l,DS l=true->l≠[45]/\l≠[33]/\l≠[40]/\l≠[116,114,117,101]/\l≠[102,97,108,115,101]:=λl h=>by
  refine⟨?_,?_,?_,?_,?_⟩<;>(rintro rfl;revert h;decide)
 have fv:∀ l,Cq l=true->l≠[45]/\l≠[33]/\l≠[40]/\l≠[116,114,117,101]/\l≠[102,97,108,115,101]:=λl h=>by
  refine⟨?_,?_,?_,?_,?_⟩<;>(rintro rfl;revert h;decide)
 unfold Mm
 by_cases hn:m.num=Af []
 .rw[if_neg (λe=>e hn)]
  exact⟨_,_,rfl,fv _ (h2 (h3 hn))⟩
 .rw[if_pos hn]
  by_cases hv:m.var=Af []
  .rw[if_neg (λe=>e hv)]
   exact⟨_,_,rfl,fn _ (h1 hn)⟩
  .rw[if_pos hv]
   exact⟨_,_,rfl,fn _ (h1 hn)⟩
theorem Alm{i n:Nat}(hn:n<6){q:List KT}(h:Fc ts i ((2,EJ.getD n [])::q)):opP ts i=some n:=by
 unfold opP;have e:isT ts i=λs=>decide (EJ.getD n []=s):=by
  funext s
  rw[MQ h];simp
 rw[e]
 match n,hn with
 |0,_=>decide
 |1,_=>decide
 |2,_=>decide
 |3,_=>decide
 |4,_=>decide
 |5,_=>decide
theorem Aoe{n:Nat}(hn:n<6):(EJ.getD n [])≠[42]/\(EJ.getD n [])≠[43]/\(EJ.getD n [])≠[45]:=by
 match n,hn with
 |0,_=>decide
 |1,_=>decide
 |2,_=>decide
 |3,_=>decide
 |4,_=>decide
 |5,_=>decide
end
section
variable {ts:List Tk}
theorem AoB(i:Nat)(x:Tr):brk 4 i x.kind=(decide (x.kind=5)||(decide (i=1)&&decide (x.kind=4))):=rfl
theorem AqG(i:Nat)(x:Tr):brk 5 i x.kind=(decide (i=1)&&decide (x.kind=5)):=rfl
theorem AqF(i:Nat)(x:Tr):brk 3 i x.kind=(decide (x.kind=4)||decide (x.kind=5)):=rfl
end
theorem AdK{t:Tr}{d:Nat}(hd:d<=60)(h:ShapeT t d):BS t d=true:=by
 cases h with
 |tt=>rw[BS];simp[EV,arI,Fx,hd,Eu]
 |ff=>rw[BS];simp[EV,arI,Fx,hd,Eu]
 |cmp _ hl hr h1 h2=>rw[BS];simp[GG,hl,hr,h1,h2]
 |@no _ x hx h=>
  have:d+1<=60:=by
   have:d+1<=Fx (brk 3 0 x.kind) (d+1):=by cases brk 3 0 x.kind<;>simp[Fx]
   omega
  have e:Fx (decide ((3:Int)=3)) d=d+1:=rfl;rw[BS,if_neg (by decide),e];simp only[Eu,hx,h];simp[EV,arI,this]
 |@bin _ k x y hk hx h gd g=>
  have e:Fx (decide ((k:Int)=3)) d=d:=by rw[decide_eq_false (by omega)];rfl
  have a:arI k=2:=by rcases hk with rfl|rfl<;>rfl
  rw[BS,if_neg (by omega),e,a];simp only[Eu,hx,h,gd,g];simp[EV,hd]
section
variable {ts:List Tk}
def AaQ(x:Tr):Nat:=(txt x).length+if x.kind=4\/x.kind=5 then 2 else 0
def AaT(x:Tr):Nat:=(txt x).length+if x.kind=5 then 2 else 0
end
theorem AaC(b:Bool)(s:List UInt8):(SR b s).length=s.length+if b then 2 else 0:=by
 cases b with
 |false=>rfl
 |true=>
  unfold SR;rw[if_pos rfl,if_pos rfl];simp
theorem AeM(x:Tr):(SR (brk 3 0 x.kind) (txt x)).length=AaQ x:=by
 rw[AaC,AqF];unfold AaQ
 by_cases h1:x.kind=4<;>by_cases h2:x.kind=5<;>simp[h1,h2]
theorem AbD(x:Tr):(SR (brk 4 0 x.kind) (txt x)).length=AaT x:=by
 rw[AaC,AoB];unfold AaT
 by_cases h2:x.kind=5<;>simp[h2]
theorem AbL(x:Tr):(SR (brk 4 1 x.kind) (txt x)).length=AaQ x:=by
 rw[AaC,AoB];unfold AaQ
 by_cases h1:x.kind=4<;>by_cases h2:x.kind=5<;>simp[h1,h2]
theorem AbN(x:Tr):(SR (brk 5 1 x.kind) (txt x)).length=AaT x:=by
 rw[AaC,AqG];unfold AaT
 by_cases h2:x.kind=5<;>simp[h2]
theorem Aon(x:Tr):(txt (.mk 3 [] [] 0 (Af []) (Af []) [x])).length=1+AaQ x:=by
 rw[txt,if_neg (by decide),if_neg (by decide),AaA]
 show ([33]++SR (brk 3 0 x.kind) (txt x)).length=_
 rw[η,AeM];rfl
theorem AlJ(x y:Tr):(txt (.mk 4 [] [] 0 (Af []) (Af []) [x,y])).length=AaT x+3+AaQ y:=by
 rw[txt,if_neg (by decide),if_neg (by decide),AaA,AaA]
 show (SR (brk 4 0 x.kind) (txt x)++[32,38,32]++SR (brk 4 1 y.kind) (txt y)).length=_
 rw[η,η,AbD,AbL];rfl
theorem Aou(x y:Tr):(txt (.mk 5 [] [] 0 (Af []) (Af []) [x,y])).length=(txt x).length+3+AaT y:=by
 rw[txt,if_neg (by decide),if_neg (by decide),AaA,AaA]
 show (SR (brk 5 0 x.kind) (txt x)++[32,124,32]++SR (brk 5 1 y.kind) (txt y)).length=_
 rw[η,η,AbN];rfl
theorem Xl(s:List UInt8):(Xk s).length=1:=rfl
structure SumF (D:Orc):Prop where
 sum:∀ ms:List Mo,JE ms=true->D.ask (.fn 22) [.ls (ms.map E9)] []=some (sv (Af (CJ ms)),[])
theorem Ac2{m:Mo}(h:AO m=true):m.num.size<=60/\m.var.size<=20:=by
 obtain⟨h1,h2,_⟩:=G8 h;rw[JH,JH];constructor
 .by_cases e:m.num=Af []
  .rw[e];simp[Af]
  .exact Pc (h1 e)
 .by_cases e:m.var=Af []
  .rw[e];simp[Af]
  .exact EI (h2 e)
theorem J1{ms:List Mo}(h:JE ms=true):ms.length<4611686018427387904/\∀ m∈ms,m.num.size<=9223372036854775807/\m.var.size<=9223372036854775807:=by
 obtain⟨_,h2,h3⟩:=DH h;refine⟨by omega,λm hm=>?_⟩;have:=Ac2 (Arg.1 h3 m hm);omega
theorem AdM:∀(n:Nat) (t:Tr) (d:Nat),SizeOf.sizeOf t<n->BS t d=true->WzT t:=by
 intro n
 induction n with
 |zero=>intro t d h;omega
 |succ n ih=>
  intro t d hn h
  cases Ma h with
  |tt=>exact .mk (by simp) (by simp) (by simp) (by simp) (by simp) (by simp)
  |ff=>exact .mk (by simp) (by simp) (by simp) (by simp) (by simp) (by simp)
  |@cmp _ l r op hl hr h1 h2=>exact .mk (J1 hl).1 (J1 hr).1 (by simp) (J1 hl).2 (J1 hr).2 (by simp)
  |@no _ x hd hx=>
   refine .mk (by simp) (by simp) (by simp) (by simp) (by simp) λy hy=>?_
   obtain rfl:y=x:=by simpa using hy
   exact ih y _ (by simp only[Tr.mk.sizeOf_spec,List.cons.sizeOf_spec]at hn;omega) hx
  |@bin _ k x y hk hd hx gd hy=>
   refine .mk (by simp) (by simp) (by simp) (by simp) (by simp) λz hz=>?_
   simp only[Arl,Auu,or_false]at hz;rcases hz with rfl|rfl
   .exact ih z _ (by simp only[Tr.mk.sizeOf_spec,List.cons.sizeOf_spec]at hn;omega) hx
   .exact ih z _ (by simp only[Tr.mk.sizeOf_spec,List.cons.sizeOf_spec]at hn;omega) hy
section
variable {D:Orc}
variable (K:Knows Ag Ro D) (Kt:Knows Ag D9 D) (L:LexN D) (Ke:Knows Ag CR D) (S:SumF D)
include K Kt L Ke S
theorem Vw{l r:List Mo}{op:Int}(hl:JE l=true)(hr:JE r=true)(h1:0<=op)(h2:op<=5):D.ask (.fn 47) [.agg (Bq (.mk 2 l r op (Af []) (Af []) []))] []=some (sv (Af (IS l r op)),[]):=by
 have hr0:BS (.mk 2 l r op (Af []) (Af []) []) 0=true:=AdK (by omega) (.cmp 0 hl hr h1 h2);have gc:=KW Kt L (.mk 2 l r op (Af []) (Af []) []) (AdM _ _ 0 (ArB _) hr0);have hc:GG (.mk 2 l r op (Af []) (Af []) [])=true:=by
  unfold GG;simp[hl,hr,h1,h2]
 rw[hc]at gc;have g1:=S.sum l hl;have g2:=S.sum r hr;have l1:=Hg l 0 (DH hl).2.2;have l2:=Hg r 0 (DH hr).2.2;have l3:=(DH hl).2.1;have l4:=(DH hr).2.1;have e1:CJ l=Ci 0 l:=by unfold CJ;rw[if_pos hl]
 have e2:CJ r=Ci 0 r:=by unfold CJ;rw[if_pos hr]
 rw[←e1]at l1;rw[←e2]at l2;obtain⟨n,rfl⟩:∃ n:Nat,op=n:=⟨op.toNat,by omega⟩;have hn:n<6:=by omega
 have hop:EJ[n]? = some (EJ.getD n []):=by
  match n,hn with
  |0,_=>rfl
  |1,_=>rfl
  |2,_=>rfl
  |3,_=>rfl
  |4,_=>rfl
  |5,_=>rfl
 have hol:(EJ.getD n []).length<=2:=by
  match n,hn with
  |0,_=>decide
  |1,_=>decide
  |2,_=>decide
  |3,_=>decide
  |4,_=>decide
  |5,_=>decide
 refine K.fn' AmC _ rfl ((e47 ..).trans ?_);refine Ab gc ?_;simp only[ND,DK,Aa];refine Ab g1 ?_;simp only[ND,DK,Aa,BG,Gz,IN];have s1:(Af [32]).size=1:=rfl;refine(DN (by simp only[Cf,η,ν,ArI];omega) _ _).trans ?_;refine Ab (Na Ke) ?_;simp only[ND,DK,Aa];rw[Ax,AF hop];simp only[Xk,ND,DK,Aa,BG,Gz,IN];refine(DN (by simp only[Cf,η,ν,ArI];omega) _ _).trans ?_;refine(DN (by simp only[Cf,η,ν,ArI];omega) _ _).trans ?_;refine Ab g2 ?_;simp only[ND,DK,Aa,BG,Gz,IN];refine(DN (by simp only[Cf,η,ν,ArI];omega) _ _).trans ?_;rfl
end
theorem Ak7(c:Prop)[Decidable c](a b:List UInt8):(if c then some (sv (Af a),([]:List BO)) else some (sv (Af b),[]))=some (sv (Af (if c then a else b)),[]):=by
 by_cases h:c
 .rw[if_pos h,if_pos h]
 .rw[if_neg h,if_neg h]
theorem Dx(k:Int)(i:Nat)(x:Tr)(r:List Tr):CI k i (x::r)=SR (Bp k i x.kind) (BQ x)::CI k (i+1) r:=by rw[CI];rfl
theorem CA(k:Int)(i:Nat):CI k i []=[]:=by rw[CI]
section
variable {D:Orc}
variable (K:Knows Ag Rm D)
include K
theorem Uf(k:Int):D.ask (.fn 138) [iv k] []=some (sv (Af (D3 k)),[]):=by
 refine K.fn' AhZ _ rfl ((AoT ..).trans ?_);unfold D3;simp only[Fp,Ff,decide_eq_true_eq,Ak7]
variable (Kl:Knows Ag Jj D)
include Kl
theorem OZ(t:Tr)(ks:List Tr)(hk:ks.length<=2)(g:∀ x∈ks,D.ask (.fn 80) [.agg (Bq x)] []=some (sv (Af (BQ x)),[])/\(BQ x).length<=1000000000000):∀(n i:Nat) (out:List (List UInt8)),ks.length-i=n->out.length+n<=2->
  D.ask (.lp 80 0) [.ptr 0 0,.sl 1 0 out.length 1,.ls (ks.map Bq),iv (ks.length:Int),iv (i:Int)] [IB t,U (Ao Xk out) true true] =
   some (.tup [iv 0,.ptr 0 0,.sl 2 0 (out++CI t.kind i (ks.drop i)).length 1],[.set (IB t),.del,.set (U (Ao Xk (out++CI t.kind i (ks.drop i))) true true)]):=by
 intro n;obtain⟨k,l,r,op,p,q,kz⟩:=t
 induction n with
 |zero=>
  intro i out hi ho;refine K.lp' VZ _ rfl (by kernel_rfl) ((AhG ..).trans ?_);rw[show ks.drop i=[] from Ark (by omega),CA,Asa];refine Ak (by omega) ?_;rfl
 |succ n ih=>
  intro i out hi ho;have hlt:i<ks.length:=by omega
  rw[show ks.drop i=ks[i]::ks.drop (i+1) from Arf hlt];obtain⟨gx,gl⟩:=g ks[i] (List.getElem_mem hlt);have hb:=JY Kl k i ks[i];refine K.lp' VZ _ rfl (by kernel_rfl) ((AhG ..).trans ?_);refine Al (by omega) ?_;rw[Ax,AF (Ψ hlt)];rw[Dx];have ih:=ih (i+1) (out++[SR (Bp k i ks[i].kind) (BQ ks[i])]) (by omega) (by simp;omega);rw[Ari,η,Ase]at ih;revert gx hb gl ih;generalize ks[i]=x;obtain⟨xk,xl,xr,xo,xp,xq,xs⟩:=x;intro gx gl hb ih;unfold Tr.kind;unfold Tr.kind at hb ih;simp only[Bq,ND,DK,Aa]at gx hb ⊢;refine Ab gx ?_;simp only[ND,DK,Aa];refine Ab hb ?_;simp only[ND,DK,Aa];rw[Bo (by omega)];have hf:Bc (out.length+1) 16=true:=AN (by omega) (by omega);have hb1:Nat.ble (0+out.length*1) (Ao Xk out).length=true:=AT Xl out (by omega);have e3:∀ s,ο 0 (ι (0+out.length*1) (Ao Xk out))++[sv (Af s)]=Ao Xk (out++[s]):=λs=>by
   rw[υ,Bf Xl out (by omega)];exact A9 Xk out s
  cases hbk:Bp k i xk with
  |true=>
   rw[hbk]at ih;refine Ad ?_;simp only[BG,Gz,IN];refine(DN (by simp only[Cf,ν,ArI];omega) _ _).trans ?_;refine(DN (by simp only[Cf,η,ν,ArI];omega) _ _).trans ?_;rw[hf,hb1,e3];refine Ad ?_;refine Ad ?_;refine Ab ih ?_;rfl
  |false=>
   rw[hbk]at ih;refine Bi ?_;rw[hf,hb1,e3];refine Ad ?_;refine Ad ?_;refine Ab ih ?_;rfl
end
theorem I1{k:Int}{d i:Nat}{x:Tr}{r:List Tr}(h:Fa k d i (x::r)=true):Fx (Bp k i x.kind) d<=60/\AU x (Fx (Bp k i x.kind) d)=true/\Fa k d (i+1) r=true:=by
 rw[Fa]at h;simp only[χ,decide_eq_true_eq]at h;exact⟨h.1.1,h.1.2,h.2⟩
inductive ShapeL:Tr->Nat->Prop where
 |tt (d:Nat):ShapeL (.mk 0 [] [] 0 (Af []) (Af []) []) d
 |ff (d:Nat):ShapeL (.mk 1 [] [] 0 (Af []) (Af []) []) d
 |cmp (d:Nat) {l r:List Mo} {op:Int} (hl:JE l=true) (hr:JE r=true) (h1:0<=op) (h2:op<=5):ShapeL (.mk 2 l r op (Af []) (Af []) []) d
 |at(d:Nat) {p q:ByteArray} (hp:Cq p.data.toList=true) (hq:Cq q.data.toList=true):ShapeL (.mk 6 [] [] 0 p q []) d
 |one (d:Nat) {k:Int} {x:Tr} (hk:Er k=1) (hd:Fx (Bp k 0 x.kind) (d+1)<=60) (h:AU x (Fx (Bp k 0 x.kind) (d+1))=true):ShapeL (.mk k [] [] 0 (Af []) (Af []) [x]) d
 |two (d:Nat) {k:Int} {x y:Tr} (hk:Er k=2) (hd:Fx (Bp k 0 x.kind) d<=60) (h:AU x (Fx (Bp k 0 x.kind) d)=true) (gd:Fx (Bp k 1 y.kind) d<=60) (g:AU y (Fx (Bp k 1 y.kind) d)=true):ShapeL (.mk k [] [] 0 (Af []) (Af []) [x,y]) d
theorem Bu(k:Int):(Er k=0/\(k=0\/k=1\/k=2\/k=6))\/(Er k=1/\(k=3\/k=8\/k=9\/k=10))\/(Er k=2/\(k=4\/k=5\/k=7\/k=11\/k=12))\/Er k=-1:=by
 unfold Er
 by_cases h0:k=0;· simp[h0]
 by_cases h1:k=1;· simp[h1]
 by_cases h2:k=2;· simp[h2]
 by_cases h6:k=6;· simp[h6]
 by_cases h3:k=3;· simp[h3]
 by_cases h8:k=8;· simp[h8]
 by_cases h9:k=9;· simp[h9]
 by_cases h10:k=10;· simp[h10]
 by_cases h4:k=4;· simp[h4]
 by_cases h5:k=5;· simp[h5]
 by_cases h7:k=7;· simp[h7]
 by_cases h11:k=11;· simp[h11]
 by_cases h12:k=12;· simp[h12]
 simp[h0,h1,h2,h6,h3,h8,h9,h10,h4,h5,h7,h11,h12]
theorem Hr{k:Int}{l r:List Mo}{op:Int}{p q:ByteArray}{ks:List Tr}(h:EV (.mk k l r op p q ks)=true):l=[]/\r=[]/\op=0/\p=Af []/\q=Af []:=by
 unfold EV at h;simp only[χ,decide_eq_true_eq]at h;obtain⟨⟨⟨⟨h1,h2⟩,h3⟩,h4⟩,h5⟩:=h;exact⟨ArO.1 h1,ArO.1 h2,h3,h4,h5⟩
theorem Dj{t:Tr}{d:Nat}(h:AU t d=true):ShapeL t d:=by
 obtain⟨k,l,r,op,p,q,ks⟩:=t;rw[AU]at h
 by_cases ha:(ks.length:Int)=Er k
 .rw[if_pos ha]at h
  rcases Bu k with⟨e,hk⟩|⟨e,hk⟩|⟨e,hk⟩|e
  .rw[if_pos e,T5]at h
   obtain rfl:ks=[]:=ArO.1 (by omega);rcases hk with rfl|rfl|rfl|rfl
   .rw[if_neg (by decide),if_neg (by decide)]at h
    obtain⟨rfl,rfl,rfl,rfl,rfl⟩:=Hr h;exact .tt d
   .rw[if_neg (by decide),if_neg (by decide)]at h
    obtain⟨rfl,rfl,rfl,rfl,rfl⟩:=Hr h;exact .ff d
   .rw[if_pos rfl]at h
    unfold GG at h;simp only[χ,decide_eq_true_eq]at h;obtain⟨⟨⟨⟨⟨⟨⟨_,hl⟩,hr⟩,h3⟩,h4⟩,rfl⟩,rfl⟩,_⟩:=h;exact .cmp d hl hr h3 h4
   .rw[if_neg (by decide),if_pos rfl]at h
    simp only[χ,decide_eq_true_eq]at h;obtain⟨⟨⟨⟨h1,h2⟩,rfl⟩,h4⟩,h5⟩:=h;obtain rfl:l=[]:=ArO.1 h1;obtain rfl:r=[]:=ArO.1 h2;exact .at d h4 h5
  .rw[if_neg (by omega),decide_eq_true e]at h
   simp only[χ,decide_eq_true_eq]at h;obtain⟨⟨hd,hb⟩,hk⟩:=h;obtain⟨rfl,rfl,rfl,rfl,rfl⟩:=Hr hb;have hl:ks.length=1:=by omega
   match ks,hl,hk with
   |[x],_,hk=>
    obtain⟨k1,k2,_⟩:=I1 hk;exact .one d e k1 k2
  .rw[if_neg (by omega),decide_eq_false (show ¬Er k=1 by omega)]at h
   simp only[χ,decide_eq_true_eq]at h;obtain⟨⟨hd,hb⟩,hk⟩:=h;obtain⟨rfl,rfl,rfl,rfl,rfl⟩:=Hr hb;have hl:ks.length=2:=by omega
   match ks,hl,hk with
   |[x,y],_,hk=>
    obtain⟨k1,k2,hk⟩:=I1 hk;obtain⟨k3,k4,_⟩:=I1 hk;exact .two d e k1 k2 k3 k4
  .omega
 .rw[if_neg ha]at h
  cases h
theorem Ql(s:ByteArray):Af s.data.toList=s:=by
 unfold Af;simp
theorem QS(k:Int)(x:Tr):BQ (.mk k [] [] 0 (Af []) (Af []) [x])=D3 k++SR (Bp k 0 x.kind) (BQ x):=by
 rw[BQ,Dx,CA];rfl
theorem QT(k:Int)(x y:Tr):BQ (.mk k [] [] 0 (Af []) (Af []) [x,y])=SR (Bp k 0 x.kind) (BQ x)++D3 k++SR (Bp k 1 y.kind) (BQ y):=by
 rw[BQ,Dx,Dx,CA];rfl
theorem Vn(b:Bool)(s:List UInt8):s.length<=(SR b s).length:=by
 cases b
 .exact ω _
 .show s.length<=([40]++s++[41]).length
  simp;omega
section
variable {D:Orc} (K:Knows Ag Rm D) (Kl:Knows Ag Jj D) (Kx:Knows Ag Ro D) (Kt:Knows Ag D9 D) (L:LexN D) (Ke:Knows Ag CR D) (S:SumF D)
include K Kl Kx Kt L Ke S
theorem AcS:∀(n:Nat) (t:Tr) (d:Nat),SizeOf.sizeOf t<n->AU t d=true->(BQ t).length<=1000000000000->D.ask (.fn 80) [.agg (Bq t)] []=some (sv (Af (BQ t)),[]):=by
 have leaf:∀ t:Tr,(∃ k l r op p q,t=.mk k l r op p q [])->D.ask (.fn 137) [.agg (Bq t)] []=some (sv (Af (FV t)),[])->D.ask (.fn 80) [.agg (Bq t)] []=some (sv (Af (BQ t)),[]):=by
  rintro t ⟨k,l,r,op,p,q,rfl⟩ g;have glp:=OZ K Kl (.mk k l r op p q []) [] (by simp) (by simp) 0 0 [] rfl (by simp);have e:BQ (.mk k l r op p q [])=FV (.mk k l r op p q []):=by
   rw[BQ,CA];rfl
  rw[e];have ek:CI (Tr.mk k l r op p q []).kind 0 (([]:List Tr).drop 0)=[]:=by
   show CI k 0 []=_
   rw[CA]
  rw[ek]at glp;refine K.fn' VZ _ rfl ((e80 ..).trans ?_);refine Ab glp ?_;simp only[IB,Bq,R2,ND,DK,Aa]at g ⊢;refine As rfl ?_;refine Ab g ?_;rfl
 intro n
 induction n with
 |zero=>intro t d h;omega
 |succ n ih=>
  intro t d hn h hlen
  cases Dj h with
  |tt=>
   refine leaf _ ⟨_,_,_,_,_,_,rfl⟩ ?_;refine K.fn' Tv _ rfl ((AfE ..).trans ?_);exact As rfl rfl
  |ff=>
   refine leaf _ ⟨_,_,_,_,_,_,rfl⟩ ?_;refine K.fn' Tv _ rfl ((AfE ..).trans ?_);refine Ap (by decide) ?_;exact As rfl rfl
  |@cmp _ l r op hl hr h1 h2=>
   refine leaf _ ⟨_,_,_,_,_,_,rfl⟩ ?_;have gc:=Vw Kx Kt L Ke S hl hr h1 h2;have hc:GG (.mk 2 l r op (Af []) (Af []) [])=true:=by
    unfold GG;simp[hl,hr,h1,h2]
   have e:FV (.mk 2 l r op (Af []) (Af []) [])=IS l r op:=by rw[FV,if_neg (by decide),if_neg (by decide),if_neg (by decide),if_pos hc]
   rw[e];refine K.fn' Tv _ rfl ((AfE ..).trans ?_);refine Ap (by decide) ?_;refine Ap (by decide) ?_;refine Ap (by decide) ?_;simp only[Bq,R2]at gc;refine Ab gc ?_;rfl
  |@«at» _ p q hp hq=>
   have lp:=EI hp;have lq:=EI hq;have e:FV (.mk 6 [] [] 0 p q [])=[64]++p.data.toList++[46]++q.data.toList:=by rw[FV,if_neg (by decide),if_neg (by decide),if_pos rfl]
   refine leaf _ ⟨_,_,_,_,_,_,rfl⟩ ?_;rw[e];obtain⟨a,rfl⟩:∃ a,p=Af a:=⟨_,(Ql p).symm⟩;obtain⟨b,rfl⟩:∃ b,q=Af b:=⟨_,(Ql q).symm⟩;rw[CV]at lp lq;rw[CV,CV];refine K.fn' Tv _ rfl ((AfE ..).trans ?_);refine Ap (by decide) ?_;refine Ap (by decide) ?_;refine As rfl ?_;simp only[BG,Gz,IN];refine(DN (by simp only[Cf,ν,ArI];omega) _ _).trans ?_;refine(DN (by simp only[Cf,η,ν,ArI];omega) _ _).trans ?_;refine(DN (by simp only[Cf,η,ν,ArI];omega) _ _).trans ?_;rfl
  |@one _ k x hk hd2 hx=>
   rw[QS]at hlen ⊢;rw[η]at hlen;have hg:=Vn (Bp k 0 x.kind) (BQ x);have gx:=ih x _ (by simp only[Tr.mk.sizeOf_spec,List.cons.sizeOf_spec]at hn;omega) hx (by omega);have glp:=OZ K Kl (.mk k [] [] 0 (Af []) (Af []) [x]) [x] (by simp) (by
    intro y hy;obtain rfl:y=x:=by simpa using hy
    exact⟨gx,by omega⟩) 1 0 [] rfl (by simp)
   have ek:CI (Tr.mk k [] [] 0 (Af []) (Af []) [x]).kind 0 ([x].drop 0)=[SR (Bp k 0 x.kind) (BQ x)]:=by
    show CI k 0 [x]=_
    rw[Dx,CA]
   rw[ek]at glp;have gs:=Uf K k;refine K.fn' VZ _ rfl ((e80 ..).trans ?_);refine Ab glp ?_;generalize SR (Bp k 0 x.kind) (BQ x)=sx at *;generalize D3 k=sg at *;simp only[IB,Bq,ND,DK,Aa];refine Ap (by show ¬ (1:Int)=0;decide) ?_;refine As rfl ?_;refine Ab gs ?_;simp only[ND,DK,Aa]
   show br ((Ah.slen (Af sg)+Ah.slen (Af sx)).ble 9223372036854775807) (some (sv (Ah.cat (Af sg) (Af sx)),[])) none=_
   rw[BG,BG,Gz,IN];refine(DN (by simp only[Cf];omega) _ _).trans ?_;rfl
  |@two _ k x y hk hd hx gd hy=>
   rw[QT]at hlen ⊢;rw[η,η]at hlen;have hg:=Vn (Bp k 0 x.kind) (BQ x);have hg2:=Vn (Bp k 1 y.kind) (BQ y);have gx:=ih x _ (by simp only[Tr.mk.sizeOf_spec,List.cons.sizeOf_spec]at hn;omega) hx (by omega);have gy:=ih y _ (by simp only[Tr.mk.sizeOf_spec,List.cons.sizeOf_spec]at hn;omega) hy (by omega);have glp:=OZ K Kl (.mk k [] [] 0 (Af []) (Af []) [x,y]) [x,y] (by simp) (by
    intro z hz;simp only[Arl,Auu,or_false]at hz;rcases hz with rfl|rfl
    .exact⟨gx,by omega⟩
    .exact⟨gy,by omega⟩) 2 0 [] rfl (by simp)
   have ek:CI (Tr.mk k [] [] 0 (Af []) (Af []) [x,y]).kind 0 ([x,y].drop 0)=[SR (Bp k 0 x.kind) (BQ x),SR (Bp k 1 y.kind) (BQ y)]:=by
    show CI k 0 [x,y]=_
    rw[Dx,Dx,CA]
   rw[ek]at glp;have gs:=Uf K k;refine K.fn' VZ _ rfl ((e80 ..).trans ?_);refine Ab glp ?_;generalize SR (Bp k 0 x.kind) (BQ x)=sx at *;generalize SR (Bp k 1 y.kind) (BQ y)=sy at *;generalize D3 k=sg at *;simp only[IB,Bq,ND,DK,Aa];refine Ap (by show ¬ (2:Int)=0;decide) ?_;refine Ap (by show ¬ (2:Int)=1;decide) ?_;refine Ad ?_;have r0:∀ kk:List AV->KR,Iw (Ao Xk ([]++[sx,sy])) 0 1 kk=kk [sv (Af sx)]:=λkk=>rfl
   have r1:∀ kk:List AV->KR,Iw (Ao Xk ([]++[sx,sy])) 1 1 kk=kk [sv (Af sy)]:=λkk=>rfl
   refine(r0 _).trans ?_;simp only[ND,DK,Aa];refine Ab gs ?_;simp only[ND,DK,Aa,BG,Gz,IN];refine(DN (by simp only[Cf];omega) _ _).trans ?_;refine Ad ?_;refine(r1 _).trans ?_;simp only[ND,DK,Aa,BG,Gz,IN];refine(DN (by simp only[Cf,η];omega) _ _).trans ?_;rfl
theorem SU(t:Tr)(hz:WzT t)(hp:WzP t)(h:AU t 0=true)(hlen:(BQ t).length<=1000000000000):D.ask (.fn 38) [.agg (Bq t)] []=some (sv (Af (BQ t)),[]):=by
 have g1:=G7 Kl Kt L t hz hp;have g2:=AcS K Kl Kx Kt L Ke S _ t 0 (ArB _) h hlen;rw[h]at g1;obtain⟨k,l,r,op,p,q,ks⟩:=t;simp only[Bq]at g1 g2 ⊢;refine K.fn' AkX _ rfl ((e38 ..).trans ?_);refine Ab g1 ?_;simp only[ND,DK,Aa];refine Ab g2 ?_;rfl
omit Kx Ke S in
theorem AaG(t:Tr)(hz:WzT t)(hp:WzP t)(h:AU t 0=false):D.ask (.fn 38) [.agg (Bq t)] []=some (sv (Af []),[]):=by
 have g1:=G7 Kl Kt L t hz hp;rw[h]at g1;obtain⟨k,l,r,op,p,q,ks⟩:=t;simp only[Bq]at g1 ⊢;refine K.fn' AkX _ rfl ((e38 ..).trans ?_);refine Ab g1 ?_;rfl
end
def Lu(k:Int):KT:=if k=3 then(2,[33]) else if k=8 then(4,[88]) else if k=9 then(4,[71]) else if k=10 then(4,[70]) else if k=4 then(2,[38]) else if k=5 then(2,[124]) else if k=7 then(2,[45,62]) else if k=11 then(4,[85]) else(4,[82])
def Alc:Tr->List KT
 |.mk k l r op p q _=>if k=0 then [(1,[116,114,117,101])] else if k=1 then [(1,[102,97,108,115,101])] else if k=6 then [(2,[64]),(1,p.data.toList),(2,[46]),(1,q.data.toList)] else C6 0 l++[(2,EJ.getD op.toNat [])]++C6 0 r
def Alb(t:Tr):List (List KT)->List KT
 |[]=>Alc t
 |[a]=>Lu t.kind::a
 |a::b::_=>a++Lu t.kind::b
mutual
def Ay:Tr->List KT
 |.mk k l r op p q ks=>Alb (.mk k l r op p q []) (EZ k 0 ks)
def EZ(k:Int):Nat->List Tr->List (List KT)
 |_,[]=>[]
 |i,x::r=>FA (Bp k i x.kind) (Ay x)::EZ k (i+1) r
end
theorem AcT(k:Int)(x:Tr):BQ (.mk k [] [] 0 (Af []) (Af []) [x])=D3 k++SR (Bp k 0 x.kind) (BQ x):=by
 rw[BQ,CI,CI];rfl
theorem AcU(k:Int)(x y:Tr):BQ (.mk k [] [] 0 (Af []) (Af []) [x,y])=SR (Bp k 0 x.kind) (BQ x)++D3 k++SR (Bp k 1 y.kind) (BQ y):=by
 rw[BQ,CI,CI,CI];rfl
theorem MV(k:Int)(x:Tr):Ay (.mk k [] [] 0 (Af []) (Af []) [x])=Lu k::FA (Bp k 0 x.kind) (Ay x):=by
 rw[Ay,EZ,EZ];rfl
theorem Dk(k:Int)(x y:Tr):Ay (.mk k [] [] 0 (Af []) (Af []) [x,y])=FA (Bp k 0 x.kind) (Ay x)++Lu k::FA (Bp k 1 y.kind) (Ay y):=by
 rw[Ay,EZ,EZ,EZ];rfl
def HdL(s:List UInt8):Prop:=∃ d r,s=d::r/\d≠61
theorem HdB.l{s:List UInt8}(h:HdB s):HdL s:=by
 obtain⟨d,r,rfl,h⟩:=h;refine⟨d,r,rfl,?_⟩;rintro rfl;revert h
 decide
theorem HdL.app{s:List UInt8}(h:HdL s)(r:List UInt8):HdL (s++r):=by
 obtain⟨d,r',rfl,h⟩:=h;exact⟨d,r'++r,rfl,h⟩
theorem Aoq{d:UInt8}(h:d≠61):KX 33 d=false:=by
 have h:d.toNat≠61:=λe=>h (UInt8.toNat_inj.1 e)
 unfold KX Sx;simp only[show (33:UInt8).toNat=33 from rfl];rw[if_neg (λh=>absurd h.1 (by decide)),if_neg (λh=>absurd h.1 (by decide)),if_neg (λe=>h e.2),if_neg (λh=>absurd h.1 (by decide)),if_neg (λh=>absurd h.1 (by decide)),if_neg (λh=>absurd h.1 (by decide))];split<;>rfl
theorem QH{c:UInt8}{rest:List UInt8}(h1:Hs c=true)(h2:D2 c=false)(h3:BF c=false):Cp (c::rest)=(Cp rest).map ((4,[c])::·):=by
 have ht:DM (c::rest)=.tok 4 1:=by
  rw[B4,h1,h2,h3];rfl
 rw[FF (GY _ (Afm h1)) ht];rfl
theorem T7{l rest:List UInt8}(h:Gd l=true)(hr:rest=[]\/∃ c r,rest=c::r/\Ep c=false):Cp (l++rest)=(Cp rest).map ((1,l)::·):=by
 unfold Gd at h;simp only[χ,AsL,decide_eq_true_eq]at h;obtain⟨⟨⟨h1,h2⟩,h3⟩,h4⟩:=h
 cases l with
 |nil=>simp at h1
 |cons c l=>
  have hd:D2 c=true:=h3;have hs:=NV Ep rest hr (c::l) h4;have ht:DM ((c::l)++rest)=.tok 1 (c::l).length:=by
   rw[ArR,B4,if_pos hd];rw[ArR]at hs;rw[hs,if_neg (by omega)]
  have hg:ER false ((c::l)++rest)=0:=GY _ (XE hd);rw[FF hg ht,RJ,RI]
theorem Af5{s:List UInt8}{ks:List KT}(h:Lx s ks):Lx ([40]++s++[41]) ([(2,[40])]++ks++[(2,[41])]):=λrest hr=>by
 have nt:∀ c:UInt8,c=40\/c=41->∀ l:List UInt8,l=[]\/∃ d r,l=d::r/\KX c d=false:=λc hc l=>by
  cases l with
  |nil=>exact .inl rfl
  |cons d r=>exact .inr ⟨d,r,rfl,by rcases hc with rfl|rfl<;>exact Aha (by decide) (by decide) (by decide) (by decide) (by decide) (by decide) d⟩
 have e:[40]++s++[41]++rest=40::(s++(41::rest)):=by simp
 rw[e,Cw (by decide) (nt 40 (.inl rfl) _),h _ (.inr ⟨41,_,rfl,.inr rfl⟩),Cw (by decide) (nt 41 (.inr rfl) _)];simp only[Ej,Dv];simp only[Ari]
theorem V8(b:Bool){s:List UInt8}{ks:List KT}(h:Lx s ks/\HdL s):Lx (SR b s) (FA b ks)/\HdL (SR b s):=by
 cases b with
 |false=>exact h
 |true=>exact⟨Af5 h.1,40,_,rfl,by decide⟩
theorem Aga{k:Int}(hk:Er k=1){s:List UInt8}{ks:List KT}(h:Lx s ks)(hh:HdL s):Lx (D3 k++s) (Lu k::ks)/\HdL (D3 k++s):=by
 have big:∀ c:UInt8,Hs c=true->D2 c=false->BF c=false->Lx ([c,32]++s) ((4,[c])::ks):=λc h1 h2 h3 rest hr=>by
  show Cp (c::32::(s++rest))=_
  rw[QH h1 h2 h3,CZ,h _ hr];simp only[Ej,Dv];rfl
 rcases Bu k with⟨e,_⟩|⟨_,rfl|rfl|rfl|rfl⟩|⟨e,_⟩|e
 .omega
 .refine⟨λrest hr=>?_,33,_,rfl,by decide⟩
  obtain⟨d,r,rfl,hd⟩:=hh
  show Cp (33::((d::r)++rest))=_
  have e:(d::r)++rest=[]\/∃ x y,(d::r)++rest=x::y/\KX 33 x=false:=.inr ⟨d,r++rest,rfl,Aoq hd⟩;rw[Cw (by decide) e,h _ hr];simp only[Ej,Dv];rfl
 .exact⟨big 88 (by decide) (by decide) (by decide),88,_,rfl,by decide⟩
 .exact⟨big 71 (by decide) (by decide) (by decide),71,_,rfl,by decide⟩
 .exact⟨big 70 (by decide) (by decide) (by decide),70,_,rfl,by decide⟩
 .omega
 .omega
theorem Agc{k:Int}(hk:Er k=2){s t:List UInt8}{ks js:List KT}(h:Lx s ks)(g:Lx t js):Lx (s++D3 k++t) (ks++Lu k::js):=by
 have one:∀ c:UInt8,c=38\/c=124->Lx (s++[32,c,32]++t) (ks++(2,[c])::js):=λc hc=>by
  have:=Aky hc h g
  rwa [show ks++[(2,[c])]++js=ks++(2,[c])::js by simp]at this
 have big:∀ c:UInt8,Hs c=true->D2 c=false->BF c=false->Lx (s++[32,c,32]++t) (ks++(4,[c])::js):=λc h1 h2 h3 rest hr=>by
  have e:s++[32,c,32]++t++rest=s++(32::c::32::(t++rest)):=by simp
  rw[e,h _ (.inr ⟨32,_,rfl,.inl rfl⟩),CZ,QH h1 h2 h3,CZ,g _ hr];simp only[Ej,Dv];simp only[Ari];rfl
 rcases Bu k with⟨e,_⟩|⟨e,_⟩|⟨_,rfl|rfl|rfl|rfl|rfl⟩|e
 .omega
 .omega
 .exact one 38 (.inl rfl)
 .exact one 124 (.inr rfl)
 .intro rest hr
  show Cp (s++[32,45,62,32]++t++rest)=_
  have e:s++[32,45,62,32]++t++rest=s++(32::45::62::32::(t++rest)):=by simp
  rw[e,h _ (.inr ⟨32,_,rfl,.inl rfl⟩),CZ,H9 (by decide),CZ,g _ hr];simp only[Ej,Dv];simp only[Ari];rfl
 .exact big 85 (by decide) (by decide) (by decide)
 .exact big 82 (by decide) (by decide) (by decide)
 .omega
theorem Al2{p q:List UInt8}(hp:Cq p=true)(hq:Cq q=true):Lx ([64]++p++[46]++q) [(2,[64]),(1,p),(2,[46]),(1,q)]:=λrest hr=>by
 have e:[64]++p++[46]++q++rest=64::(p++(46::(q++rest))):=by simp
 rw[e,Cw (by decide) ((Ob (D6 hp) _).two 64),T7 (D6 hp) (.inr ⟨46,_,rfl,by decide⟩),Cw (by decide) ((Ob (D6 hq) _).two 46),FU (D6 hq) hr.n];simp only[Ej,Dv];rfl
theorem Ale:∀(n:Nat) (t:Tr) (d:Nat),SizeOf.sizeOf t<n->AU t d=true->Lx (BQ t) (Ay t)/\HdL (BQ t):=by
 intro n
 induction n with
 |zero=>intro t d h;omega
 |succ n ih=>
  intro t d hn h
  cases Dj h with
  |tt=>exact⟨Ag9,116,_,rfl,by decide⟩
  |ff=>exact⟨AbQ,102,_,rfl,by decide⟩
  |@cmp _ l r op hl hr h1 h2=>
   have hc:GG (.mk 2 l r op (Af []) (Af []) [])=true:=by
    unfold GG;simp[hl,hr,h1,h2]
   have e:BQ (.mk 2 l r op (Af []) (Af []) [])=IS l r op:=by
    rw[BQ,CI]
    show FV (.mk 2 l r op (Af []) (Af []) [])=_
    simp[FV,hc]
   have e2:Ay (.mk 2 l r op (Af []) (Af []) [])=C6 0 l++[(2,EJ.getD op.toNat [])]++C6 0 r:=by
    rw[Ay,EZ];rfl
   rw[e,e2];exact⟨(Aa8 hl hr h1 h2).1,(Aa8 hl hr h1 h2).2.l⟩
  |@«at» _ p q hp hq=>
   have e:BQ (.mk 6 [] [] 0 p q [])=[64]++p.data.toList++[46]++q.data.toList:=by
    rw[BQ,CI];rfl
   have e2:Ay (.mk 6 [] [] 0 p q [])=[(2,[64]),(1,p.data.toList),(2,[46]),(1,q.data.toList)]:=by
    rw[Ay,EZ];rfl
   rw[e,e2];exact⟨Al2 hp hq,64,_,rfl,by decide⟩
  |@one _ k x hk hd hx=>
   have gx:=V8 (Bp k 0 x.kind) (ih x _ (by simp only[Tr.mk.sizeOf_spec,List.cons.sizeOf_spec]at hn;omega) hx);rw[AcT,MV];exact Aga hk gx.1 gx.2
  |@two _ k x y hk hd hx gd hy=>
   have gx:=V8 (Bp k 0 x.kind) (ih x _ (by simp only[Tr.mk.sizeOf_spec,List.cons.sizeOf_spec]at hn;omega) hx);have gy:=V8 (Bp k 1 y.kind) (ih y _ (by simp only[Tr.mk.sizeOf_spec,List.cons.sizeOf_spec]at hn;omega) hy);rw[AcU,Dk];refine⟨Agc hk gx.1 gy.1,?_⟩;rw[Ari];exact gx.2.app _
structure Pr where
 name:ByteArray
 locs:List ByteArray
 cmds:List (List AV)
def R1(p:Pr):List AV:=[sv p.name,.ls (p.locs.map eS),.ls p.cmds]
def Es(k:Int)(ks:List Tr):Tr:=.mk k [] [] 0 (Af []) (Af []) ks
section
variable (ts:List Tk) (vars:List ByteArray) (kn:Bool) (ps:List Pr)
def Lw(i:Nat):ByteArray:=Af (nx ts i).text
def KC(s:ByteArray):Option Pr:=ps.find? λp=>decide (p.name=s)
def DC(i:Nat):Nat × Nat × Tr:=
 if isN ts i=false then(i,101,T0) else match KC ps (Lw ts i) with
  |none=>(i,110,T0)
  |some p=>if isT ts (i+1) [46]=false then(i+1,101,T0) else if isN ts (i+2)=false then(i+2,101,T0)
   else if Lw ts (i+2)∉p.locs then(i+2,110,T0) else(i+3,0,.mk 6 [] [] 0 (Lw ts i) (Lw ts (i+2)) [])
def C7(i:Nat):Option Int:=if isT ts i [33] then some 3 else if isT ts i [88] then some 8 else if isT ts i [71] then some 9 else if isT ts i [70] then some 10 else none
inductive LJ where
 |prop
 |or
 |orL (x:Tr)
 |and
 |andL (x:Tr)
 |bin
 |un
def B6:Nat->LJ->Nat->Nat->Nat × Nat × Tr
 |0,_,i,_=>(i,999,T0)
 |n+1,.un,i,d=>
  if((C7 ts i).isSome||isT ts i [40])=true/\d=60 then(i,102,T0)
  else match C7 ts i with
   |some k=>BE (B6 n .un (i+1) (d+1)) λj x=>(j,0,Es k [x])
   |none=>if isT ts i [40] then BE (B6 n .prop (i+1) (d+1)) λj x=>if isT ts j [41] then(j+1,0,x) else(j,101,T0)
    else if isT ts i [64] then DC ts ps (i+1)
    else if isT ts i [116,114,117,101] then(i+1,0,Es 0 [])
    else if isT ts i [102,97,108,115,101] then(i+1,0,Es 1 [])
    else Mx ts vars kn i
 |n+1,.bin,i,d=>BE (B6 n .un i d) λj x=>if isT ts j [85] then BE (B6 n .bin (j+1) d) λj2 y=>(j2,0,Es 11 [x,y])
   else if isT ts j [82] then BE (B6 n .bin (j+1) d) λj2 y=>(j2,0,Es 12 [x,y]) else(j,0,x)
 |n+1,.and,i,d=>BE (B6 n .bin i d) λj x=>B6 n (.andL x) j d
 |n+1,.andL x,i,d=>if isT ts i [38] then BE (B6 n .bin (i+1) d) λj y=>B6 n (.andL (Es 4 [x,y])) j d else(i,0,x)
 |n+1,.or,i,d=>BE (B6 n .and i d) λj x=>B6 n (.orL x) j d
 |n+1,.orL x,i,d=>if isT ts i [124] then BE (B6 n .and (i+1) d) λj y=>B6 n (.orL (Es 5 [x,y])) j d else(i,0,x)
 |n+1,.prop,i,d=>BE (B6 n .or i d) λj x=>if isT ts j [45,62] then BE (B6 n .prop (j+1) d) λj2 y=>(j2,0,Es 7 [x,y]) else(j,0,x)
end
section
variable {ts:List Tk} (H:Toks ts) (vars:List ByteArray) (kn:Bool) (ps:List Pr)
include H
theorem QN{i:Nat}{k:Int}(h:C7 ts i=some k):i<ts.length:=by
 unfold C7 at h;split at h
 .rename_i g;exact H.isT g
 .split at h
  .rename_i g;exact H.isT g
  .split at h
   .rename_i g;exact H.isT g
   .split at h
    .rename_i g;exact H.isT g
    .cases h
theorem Ue{i:Nat}(hi:i<=ts.length):Far ts i (DC ts ps i).1 (DC ts ps i).2.1:=by
 have stay:∀ e:Nat,e≠0->Far ts i i e:=λe he=>⟨ω _,hi,λh=>absurd h he⟩
 unfold DC
 cases h1:isN ts i with
 |false=>exact stay _ (by simp)
 |true=>
  have l1:=H.isN h1;rw[if_neg (by simp)]
  cases KC ps (Lw ts i) with
  |none=>exact stay _ (by simp)
  |some p=>
   simp only
   cases h2:isT ts (i+1) [46]with
   |false=>exact⟨by simp,by simp;omega,λh=>by simp at h⟩
   |true=>
    have l2:=H.isT h2;rw[if_neg (by simp)]
    cases h3:isN ts (i+2) with
    |false=>exact⟨by simp,by simp;omega,λh=>by simp at h⟩
    |true=>
     have l3:=H.isN h3;rw[if_neg (by simp)];split
     .exact⟨by simp,by simp;omega,λh=>by simp at h⟩
     .exact⟨by simp,by simp;omega,λh=>by simp⟩
def Nk(ts:List Tk):LJ->Nat->Nat->Nat->Prop
 |.orL _,i,j,_=>i<=j/\j<=ts.length
 |.andL _,i,j,_=>i<=j/\j<=ts.length
 |_,i,j,e=>Far ts i j e
omit H in
theorem C3{i:Nat}{q:Nat × Nat × Tr}{k:Nat->Tr->Nat × Nat × Tr}(hq:Far ts i q.1 q.2.1)(hk:∀ j x,i<j->j<=ts.length->j<=(k j x).1/\(k j x).1<=ts.length):Far ts i (BE q k).1 (BE q k).2.1:=by
 unfold BE;split
 .rename_i h
  have h1:=hq.gt h;have h2:=hk q.1 q.2.2 h1 hq.le;exact⟨by omega,h2.2,λ_=>by omega⟩
 .exact hq
theorem Gu:∀(n:Nat) (j:LJ) (i d:Nat),i<=ts.length->Nk ts j i (B6 ts vars kn ps n j i d).1 (B6 ts vars kn ps n j i d).2.1:=by
 intro n
 induction n with
 |zero=>intro j i d hi;cases j<;>first|exact⟨ω _,hi,λh=>absurd h (by simp[B6])⟩|exact⟨ω _,hi⟩
 |succ n ih=>
  intro j i d hi;have stay:∀ e:Nat,e≠0->Far ts i i e:=λe he=>⟨ω _,hi,λh=>absurd h he⟩
  have up:∀{a b e:Nat},a<b->Far ts b e 0->Far ts a e 0:=λh f=>⟨by have:=f.ge;omega,f.le,λ_=>by have:=f.ge;omega⟩
  cases j with
  |un=>
   unfold B6 Nk;dsimp only;split
   .exact stay _ (by simp)
   .split
    .rename_i k hk
     have hl:=QN H hk;have m:Far ts (i+1) _ _:=ih .un (i+1) (d+1) hl;have m2:=C3 m (k:=λj x=>(j,0,Es k [x])) (λj x h1 h2=>⟨ω _,h2⟩);exact⟨by have:=m2.ge;omega,m2.le,λh=>by have:=m2.ge;omega⟩
    .split
     .rename_i h
      have m:Far ts (i+1) _ _:=ih .prop (i+1) (d+1) (H.isT h);have m2:=C3 m (k:=λj x=>if isT ts j [41] then(j+1,0,x) else(j,101,T0)) (λj x h1 h2=>by
       split
       .rename_i h
        exact⟨Atw _,H.isT h⟩
       .exact⟨ω _,h2⟩)
      exact⟨by have:=m2.ge;omega,m2.le,λh=>by have:=m2.ge;omega⟩
     .split
      .rename_i h
       have m2:=Ue H ps (show i+1<=ts.length from H.isT h);exact⟨by have:=m2.ge;omega,m2.le,λh=>by have:=m2.ge;omega⟩
      .split
       .rename_i h;exact⟨Atw _,H.isT h,λ_=>ArB _⟩
       .split
        .rename_i h;exact⟨Atw _,H.isT h,λ_=>ArB _⟩
        .exact Aa5 H vars kn hi
  |bin=>
   unfold B6 Nk;dsimp only;refine C3 (ih .un i d hi) λj x h1 h2=>?_
   split
   .rename_i h
    have m:Far ts (j+1) _ _:=ih .bin (j+1) d (H.isT h);have m2:=C3 m (k:=λj2 y=>(j2,0,Es 11 [x,y])) (λj x h1 h2=>⟨ω _,h2⟩);exact⟨by have:=m2.ge;omega,m2.le⟩
   .split
    .rename_i h
     have m:Far ts (j+1) _ _:=ih .bin (j+1) d (H.isT h);have m2:=C3 m (k:=λj2 y=>(j2,0,Es 12 [x,y])) (λj x h1 h2=>⟨ω _,h2⟩);exact⟨by have:=m2.ge;omega,m2.le⟩
    .exact⟨ω _,h2⟩
  |and=>
   unfold B6 Nk;dsimp only;exact C3 (ih .bin i d hi) λj x h1 h2=>ih (.andL x) j d h2
  |or=>
   unfold B6 Nk;dsimp only;exact C3 (ih .and i d hi) λj x h1 h2=>ih (.orL x) j d h2
  |prop=>
   unfold B6 Nk;dsimp only;refine C3 (ih .or i d hi) λj x h1 h2=>?_
   split
   .rename_i h
    have m:Far ts (j+1) _ _:=ih .prop (j+1) d (H.isT h);have m2:=C3 m (k:=λj2 y=>(j2,0,Es 7 [x,y])) (λj x h1 h2=>⟨ω _,h2⟩);exact⟨by have:=m2.ge;omega,m2.le⟩
   .exact⟨ω _,h2⟩
  |andL x=>
   unfold B6 Nk;dsimp only;split
   .rename_i h
    have m:Far ts (i+1) _ _:=ih .bin (i+1) d (H.isT h);have m2:=C3 m (k:=λj y=>B6 ts vars kn ps n (.andL (Es 4 [x,y])) j d) (λj y h1 h2=>ih (.andL _) j d h2);exact⟨by have:=m2.ge;omega,m2.le⟩
   .exact⟨ω _,hi⟩
  |orL x=>
   unfold B6 Nk;dsimp only;split
   .rename_i h
    have m:Far ts (i+1) _ _:=ih .and (i+1) d (H.isT h);have m2:=C3 m (k:=λj y=>B6 ts vars kn ps n (.orL (Es 5 [x,y])) j d) (λj y h1 h2=>ih (.orL _) j d h2);exact⟨by have:=m2.ge;omega,m2.le⟩
   .exact⟨ω _,hi⟩
def BP(ts:List Tk):LJ->Nat->Nat
 |.un,i=>8*(ts.length-i)+1
 |.bin,i=>8*(ts.length-i)+2
 |.and,i=>8*(ts.length-i)+3
 |.andL _,i=>8*(ts.length-i)+3
 |.or,i=>8*(ts.length-i)+4
 |.orL _,i=>8*(ts.length-i)+4
 |.prop,i=>8*(ts.length-i)+5
end
def Dy(ts:List Tk)(vars:List ByteArray)(kn:Bool)(ps:List Pr):Nat × Nat × Tr:=B6 ts vars kn ps (8*ts.length+5) .prop 0 0
structure ResK (b:Bool) (r:Nat × Nat × Tr) (j:Nat) (t:Tr):Prop where
 y:b=true->r=(j,0,t)
 n:b=false->r.2.1=110
section
variable {ts:List Tk} (vars:List ByteArray)
def TV(m:Mo):Bool:=decide (m.var=Af [])||decide (m.var∈vars)
def EE(ms:List Mo):Bool:=ms.all (TV vars)
theorem Yt{i:Nat}{s:List UInt8}{r:List KT}(h:Fc ts i ((1,s)::r))(hs:Cq s=true):(Af s∈vars->Hl ts vars true i=(i+1,0,Af s))/\(Af s∉vars->(Hl ts vars true i).2.1=110):=by
 have hn:isN ts i=true:=by
  unfold isN;rw[(A2 h).1.1,(A2 h).1.2,hs];rfl
 unfold Hl;rw[hn,if_neg (by simp),(A2 h).1.2];exact⟨λh=>(by rw[if_neg (λe=>e.2 h)]),λh=>by rw[if_pos ⟨rfl,h⟩]⟩
theorem Uj{m:Mo}(hm:AO m=true){i:Nat}{a:KT}{r:List KT}(h:Fc ts i (Mm m++a::r))(ha:a.2≠[42]) :
  Ol ts i=true/\(TV vars m=true->A3 ts vars true i m.neg=(i+(Mm m).length,0,m))/\(TV vars m=false->(A3 ts vars true i m.neg).2.1=110):=by
 obtain⟨h1,h2,h3⟩:=G8 hm;unfold Mm at h ⊢;unfold TV
 by_cases hn:m.num=Af []
 .rw[if_neg (λe=>e hn)]at h ⊢
  have hv:=h2 (h3 hn);have hk:=(A2 h).1;obtain⟨g1,g2⟩:=Yt vars h hv;rw[Jq]at g1 g2;rw[decide_eq_false (h3 hn),As1,decide_eq_true_eq,decide_eq_false_iff_not];refine⟨?_,λe=>?_,λe=>?_⟩
  .unfold Ol isN
   rw[hk.1,hk.2,hv];rfl
  .unfold A3
   rw[hk.1,if_neg (show ¬(1:Nat)=3 by decide),g1 e,Wp m hn.symm rfl];rfl
  .unfold A3
   rw[hk.1,if_neg (show ¬(1:Nat)=3 by decide)];exact g2 e
 .rw[if_pos hn]at h ⊢
  by_cases hv:m.var=Af []
  .rw[if_neg (λe=>e hv)]at h ⊢
   have hk:=(A2 h).1;have ha:=A0 (A2 h).2 ha;rw[decide_eq_true hv,Bool.true_or];refine⟨?_,λ_=>?_,λe=>by cases e⟩
   .unfold Ol
    rw[hk.1];rfl
   .unfold A3
    rw[hk.1,if_pos rfl,ha,if_neg (by simp),hk.2,Wp m (Jq m.num) hv.symm];rfl
  .rw[if_pos hv]at h ⊢
   have hk:=(A2 h).1;have h5:=(A2 h).2;have h6:=(A2 h5).2;obtain⟨g1,g2⟩:=Yt vars h6 (h2 hv);rw[Jq]at g1 g2;rw[decide_eq_false hv,As1,decide_eq_true_eq,decide_eq_false_iff_not];refine⟨?_,λe=>?_,λe=>?_⟩
   .unfold Ol
    rw[hk.1];rfl
   .unfold A3
    rw[hk.1,if_pos rfl,DB h5,if_pos rfl,hk.2,g1 e,Wp m (Jq m.num) rfl];rfl
   .unfold A3
    rw[hk.1,if_pos rfl,DB h5,if_pos rfl];exact g2 e
theorem SG:∀(r:List Mo) (m:Mo) (j k:Nat) (out:List Mo) (i:Nat) (a:KT) (q:List KT),AO m=true->r.all AO=true->r.length<k->Fc ts i (Mm m++(C6 (j+1) r++a::q))->a.2≠[42]/\a.2≠[43]/\a.2≠[45]->
  (EE vars (m::r)=true->Ft ts vars true k out m.neg i=(i+(Mm m).length+(C6 (j+1) r).length,0,out++m::r))/\(EE vars (m::r)=false->(Ft ts vars true k out m.neg i).2.1=110)
 |[],m,j,k,out,i,a,q,hm,hr,hk,h,ha=>by
  obtain⟨k,rfl⟩:∃ n,k=n+1:=⟨k-1,by simp at hk;omega⟩;obtain⟨hb,g1,g2⟩:=Uj vars hm h ha.1;have h2:Fc ts (i+(Mm m).length) (a::q):=Dr h;unfold EE;rw[Aso,List.all_nil,Auc];unfold Ft;rw[hb,if_neg (by simp)];refine⟨λe=>?_,λe=>?_⟩
  .rw[g1 e]
   simp only[A0 h2 ha.2.1,A0 h2 ha.2.2];rfl
  .have g:=g2 e
   simp only;rw[if_pos (by rw[g];decide)];exact g
 |m'::r,m,j,k,out,i,a,q,hm,hr,hk,h,ha=>by
  obtain⟨k,rfl⟩:∃ n,k=n+1:=⟨k-1,by simp at hk;omega⟩;rw[Aso,χ]at hr;rw[ν]at hk;have hc:∃ c:UInt8,(c=45/\m'.neg=true\/c=43/\m'.neg=false)/\C6 (j+1) (m'::r)=(2,[c])::(Mm m'++C6 (j+1+1) r):=by
   cases hn:m'.neg with
   |true=>exact⟨45,.inl ⟨rfl,rfl⟩,by simp[C6,Z3,hn]⟩
   |false=>exact⟨43,.inr ⟨rfl,rfl⟩,by simp[C6,Z3,hn]⟩
  obtain⟨c,hc,e⟩:=hc;rw[e]at h ⊢;obtain⟨hb,g1,g2⟩:=Uj vars hm (a:=(2,[c])) h (by rcases hc with⟨rfl,_⟩|⟨rfl,_⟩<;>decide);have h2:Fc ts (i+(Mm m).length) ((2,[c])::_):=Dr h;have h3:Fc ts (i+(Mm m).length+1) ((Mm m'++C6 (j+1+1) r)++a::q):=(A2 h2).2;have ih:=SG r m' (j+1) k (out++[m]) (i+(Mm m).length+1) a q hr.1 hr.2 (by omega) (by
   rw[Ari]at h3;exact h3) ha
  have eall:EE vars (m::m'::r)=(TV vars m&&EE vars (m'::r)):=by
   unfold EE;rw[Aso]
  rw[eall];unfold Ft;rw[hb,if_neg (by simp)]
  cases hk1:TV vars m with
  |false=>
   rw[Ar2];refine⟨λe=>(by cases e),λ_=>?_⟩;have g:=g2 hk1;simp only;rw[if_pos (by rw[g];decide)];exact g
  |true=>
   rw[Arq,g1 hk1];simp only[ne_eq,not_true,if_false];rcases hc with⟨rfl,hn⟩|⟨rfl,hn⟩
   .rw[DB h2,if_pos rfl]
    rw[hn]at ih;refine⟨λe=>?_,λe=>ih.2 e⟩;rw[ih.1 e];simp only[ν,η,Ari,Asq];rw[show i+(Mm m).length+1+(Mm m').length+(C6 (j+1+1) r).length=i+(Mm m).length+((Mm m').length+(C6 (j+1+1) r).length+1) by omega]
   .rw[A0 h2 (by decide),if_neg (by simp),DB h2,if_pos rfl]
    rw[hn]at ih;refine⟨λe=>?_,λe=>ih.2 e⟩;rw[ih.1 e];simp only[ν,η,Ari,Asq];rw[show i+(Mm m).length+1+(Mm m').length+(C6 (j+1+1) r).length=i+(Mm m).length+((Mm m').length+(C6 (j+1+1) r).length+1) by omega]
theorem Yn{ms:List Mo}(hm:JE ms=true){i:Nat}{a:KT}{q:List KT}(h:Fc ts i (C6 0 ms++a::q))(ha:a.2≠[42]/\a.2≠[43]/\a.2≠[45]) :
  (EE vars ms=true->DQ ts vars true i=(i+(C6 0 ms).length,0,ms))/\(EE vars ms=false->(DQ ts vars true i).2.1=110):=by
 obtain⟨h1,h2,h3⟩:=DH hm
 cases ms with
 |nil=>simp at h1
 |cons m r=>
  rw[Aso,χ]at h3;rw[ν]at h2;unfold C6 Z3 at h ⊢;unfold DQ
  by_cases hn:m.neg=true
  .rw[if_pos hn,Asq,ArR,ArR]at h
   rw[DB h,if_pos rfl];have g:=SG vars r m 0 64 [] (i+1) a q h3.1 h3.2 (by omega) (by
    have:=(A2 h).2;rw[Ari]at this;exact this) ha
   rw[hn]at g;refine⟨λe=>?_,g.2⟩;rw[g.1 e,if_pos hn];simp only[ν,η,ArI,Arx];rw[show i+1+(Mm m).length+(C6 (0+1) r).length=i+(0+1+(Mm m).length+(C6 (0+1) r).length) by omega]
  .rw[if_neg hn,if_pos rfl,Arx,Ari]at h
   have g:=SG vars r m 0 64 [] i a q h3.1 h3.2 (by omega) h ha;obtain⟨b,p,e,k1,_⟩:=Alg h3.1;rw[e]at h;rw[A0 h k1,if_neg (by simp)];rw[Bool.not_eq_true _ |>.mp hn]at g;refine⟨λe=>?_,g.2⟩;rw[g.1 e,if_neg hn,if_pos rfl];simp only[η,Arx];rw[Nat.add_assoc]
theorem AfA{l r:List Mo}{op:Int}(hl:JE l=true)(hr:JE r=true)(h1:0<=op)(h2:op<=5){i:Nat}{a:KT}{q:List KT}(h:Fc ts i ((C6 0 l++[(2,EJ.getD op.toNat [])]++C6 0 r)++a::q))(ha:a.2≠[42]/\a.2≠[43]/\a.2≠[45]) :
  ResK (EE vars l&&EE vars r) (Mx ts vars true i) (i+(C6 0 l++[(2,EJ.getD op.toNat [])]++C6 0 r).length) (.mk 2 l r op (Af []) (Af []) []):=by
 obtain⟨n,rfl⟩:∃ n:Nat,op=n:=⟨op.toNat,by omega⟩;have hn:n<6:=by omega
 rw[Int.toNat_natCast]at h ⊢;rw[Ari,Ari]at h;have g1:=Yn vars hl h (Aoe hn);have h2:=Dr h;have g2:=Alm hn h2;have h3:=(A2 h2).2;have g3:=Yn vars hr h3 ha;unfold Mx
 cases k1:EE vars l with
 |false=>
  have g:=g1.2 k1;refine⟨λe=>(by simp at e),λ_=>?_⟩;rw[if_pos (by rw[g];decide)];exact g
 |true=>
  rw[g1.1 k1];simp only[ne_eq,not_true,if_false,g2]
  cases k2:EE vars r with
  |false=>
   have g:=g3.2 k2;refine⟨λe=>(by simp at e),λ_=>?_⟩;rw[if_pos (by rw[g];decide)];exact g
  |true=>
   refine⟨λ_=>?_,λe=>by simp at e⟩;rw[g3.1 k2];simp only[not_true,if_false];simp only[η,ν,ArI];rw[show i+(C6 0 l).length+1+(C6 0 r).length=i+((C6 0 l).length+(0+1)+(C6 0 r).length) by omega]
end
section
variable {ts:List Tk} (vars:List ByteArray) (ps:List Pr)
def TU(p q:ByteArray):Bool:=match KC ps p with
 |none=>false
 |some x=>decide (q∈x.locs)
mutual
def Ho:Tr->Bool
 |.mk k l r _ p q ks=>if k=2 then EE vars l&&EE vars r else if k=6 then TU ps p q else OW ks
def OW:List Tr->Bool
 |[]=>true
 |x::r=>Ho x&&OW r
end
theorem Xw{k:Int}(hk:Er k=1)(x:Tr):Ho vars ps (.mk k [] [] 0 (Af []) (Af []) [x])=Ho vars ps x:=by
 have h:=Bu k;rw[Ho,if_neg (by omega),if_neg (by omega),OW,OW,Auc]
theorem Lp{k:Int}(hk:Er k=2)(x y:Tr):Ho vars ps (.mk k [] [] 0 (Af []) (Af []) [x,y])=(Ho vars ps x&&Ho vars ps y):=by
 have h:=Bu k;rw[Ho,if_neg (by omega),if_neg (by omega),OW,OW,OW,Auc]
def StopP(a:KT):Prop:=a∈[((5,[]):KT),(2,[41]),(2,[38]),(2,[124]),(2,[45,62]),(4,[85]),(4,[82])]
theorem StopP.ne{a:KT}(h:StopP a):a.2≠[42]/\a.2≠[43]/\a.2≠[45]:=by
 have:∀ a∈[((5,[]):KT),(2,[41]),(2,[38]),(2,[124]),(2,[45,62]),(4,[85]),(4,[82])],a.2≠[42]/\a.2≠[43]/\a.2≠[45]:=by decide
 exact this a h
theorem Lv{k:Int}(hk:Er k=2):StopP (Lu k):=by
 rcases Bu k with⟨e,_⟩|⟨e,_⟩|⟨_,rfl|rfl|rfl|rfl|rfl⟩|e
 .omega
 .omega
 .unfold StopP Lu;decide
 .unfold StopP Lu;decide
 .unfold StopP Lu;decide
 .unfold StopP Lu;decide
 .unfold StopP Lu;decide
 .omega
def Vk:List (List UInt8):=[[33],[88],[71],[70],[40],[64],[116,114,117,101],[102,97,108,115,101]]
theorem Ago{m:Mo}(h:AO m=true):∃ a r,Mm m=a::r/\∀ s∈Vk,a.2≠s:=by
 obtain⟨h1,h2,h3⟩:=G8 h;have bn:∀ s∈Vk,DS s=false:=by decide
 have bm:∀ s∈Vk,Cq s=false:=by decide
 have fn:∀ l,DS l=true->∀ s∈Vk,l≠s:=λl h s hs e=>by rw[e,bn s hs]at h;cases h
 have fv:∀ l,Cq l=true->∀ s∈Vk,l≠s:=λl h s hs e=>by rw[e,bm s hs]at h;cases h
 unfold Mm
 by_cases hn:m.num=Af []
 .rw[if_neg (λe=>e hn)]
  exact⟨_,_,rfl,fv _ (h2 (h3 hn))⟩
 .rw[if_pos hn]
  by_cases hv:m.var=Af []
  .rw[if_neg (λe=>e hv)]
   exact⟨_,_,rfl,fn _ (h1 hn)⟩
  .rw[if_pos hv]
   exact⟨_,_,rfl,fn _ (h1 hn)⟩
theorem Ad8{ms:List Mo}(h:JE ms=true):∃ a r,C6 0 ms=a::r/\∀ s∈Vk,a.2≠s:=by
 obtain⟨h1,_,h3⟩:=DH h
 cases ms with
 |nil=>simp at h1
 |cons m r=>
  rw[Aso,χ]at h3;unfold C6 Z3
  by_cases hn:m.neg=true
  .rw[if_pos hn]
   exact⟨_,_,rfl,by decide⟩
  .rw[if_neg hn,if_pos rfl]
   obtain⟨a,q,e,k⟩:=Ago h3.1;rw[e];exact⟨_,_,rfl,k⟩
theorem Lm{i:Nat}{c:UInt8}{r:List KT}(h:Fc ts i ((4,[c])::r)):isT ts i [c]=true:=by
 rw[MQ h];simp
theorem QJ(n i d:Nat):B6 ts vars true ps (n+1) .un i d=(if((C7 ts i).isSome||isT ts i [40])=true/\d=60 then(i,102,T0)
  else match C7 ts i with
   |some k=>BE (B6 ts vars true ps n .un (i+1) (d+1)) λj x=>(j,0,Es k [x])
   |none=>if isT ts i [40] then BE (B6 ts vars true ps n .prop (i+1) (d+1)) λj x=>if isT ts j [41] then(j+1,0,x) else(j,101,T0)
    else if isT ts i [64] then DC ts ps (i+1)
    else if isT ts i [116,114,117,101] then(i+1,0,Es 0 [])
    else if isT ts i [102,97,108,115,101] then(i+1,0,Es 1 [])
    else Mx ts vars true i):=rfl
theorem AcK(n i d:Nat):B6 ts vars true ps (n+1) .bin i d=BE (B6 ts vars true ps n .un i d) λj x=>if isT ts j [85] then BE (B6 ts vars true ps n .bin (j+1) d) λj2 y=>(j2,0,Es 11 [x,y])
   else if isT ts j [82] then BE (B6 ts vars true ps n .bin (j+1) d) λj2 y=>(j2,0,Es 12 [x,y]) else(j,0,x):=rfl
theorem Ala(n i d:Nat):B6 ts vars true ps (n+1) .and i d=BE (B6 ts vars true ps n .bin i d) λj x=>B6 ts vars true ps n (.andL x) j d:=rfl
theorem Se(n i d:Nat)(x:Tr):B6 ts vars true ps (n+1) (.andL x) i d=if isT ts i [38] then BE (B6 ts vars true ps n .bin (i+1) d) λj y=>B6 ts vars true ps n (.andL (Es 4 [x,y])) j d else(i,0,x):=rfl
theorem Anx(n i d:Nat):B6 ts vars true ps (n+1) .or i d=BE (B6 ts vars true ps n .and i d) λj x=>B6 ts vars true ps n (.orL x) j d:=rfl
theorem Wh(n i d:Nat)(x:Tr):B6 ts vars true ps (n+1) (.orL x) i d=if isT ts i [124] then BE (B6 ts vars true ps n .and (i+1) d) λj y=>B6 ts vars true ps n (.orL (Es 5 [x,y])) j d else(i,0,x):=rfl
theorem XD(n i d:Nat):B6 ts vars true ps (n+1) .prop i d=BE (B6 ts vars true ps n .or i d) λj x=>if isT ts j [45,62] then BE (B6 ts vars true ps n .prop (j+1) d) λj2 y=>(j2,0,Es 7 [x,y]) else(j,0,x):=rfl
theorem C4(j:Nat)(x:Tr)(k:Nat->Tr->Nat × Nat × Tr):BE (j,0,x) k=k j x:=by
 unfold BE;rw[if_pos rfl]
theorem Cx{r:Nat × Nat × Tr}(h:r.2.1=110)(k:Nat->Tr->Nat × Nat × Tr):(BE r k).2.1=110:=by
 unfold BE;rw[if_neg (by omega)];exact h
def LU(ts:List Tk)(t:Tr)(b:Bool):Prop:=∀(f i d:Nat) (a:KT) (q:List KT),Fc ts i (FA b (Ay t)++a::q)->StopP a->Fx b d<=60->AU t (Fx b d)=true->8*(FA b (Ay t)).length<=f->
 ResK (Ho vars ps t) (B6 ts vars true ps f .un i d) (i+(FA b (Ay t)).length) t
def LBj(ts:List Tk)(t:Tr)(b:Bool):Prop:=∀(f i d:Nat) (a:KT) (q:List KT),Fc ts i (FA b (Ay t)++a::q)->StopP a->a.2≠[85]->a.2≠[82]->Fx b d<=60->AU t (Fx b d)=true->8*(FA b (Ay t)).length+1<=f->
 ResK (Ho vars ps t) (B6 ts vars true ps f .bin i d) (i+(FA b (Ay t)).length) t
def LA(ts:List Tk)(t:Tr)(b:Bool):Prop:=∀(f i d:Nat) (a:KT) (q:List KT),Fc ts i (FA b (Ay t)++a::q)->StopP a->a.2≠[85]->a.2≠[82]->Fx b d<=60->AU t (Fx b d)=true->8*(FA b (Ay t)).length+2<=f->
 ∃ g,f<=g+8*(FA b (Ay t)).length/\1<=g/\(Ho vars ps t=true->B6 ts vars true ps f .and i d=B6 ts vars true ps g (.andL t) (i+(FA b (Ay t)).length) d)/\(Ho vars ps t=false->(B6 ts vars true ps f .and i d).2.1=110)
def LO(ts:List Tk)(t:Tr)(b:Bool):Prop:=∀(f i d:Nat) (a:KT) (q:List KT),Fc ts i (FA b (Ay t)++a::q)->StopP a->a.2≠[85]->a.2≠[82]->a.2≠[38]->Fx b d<=60->AU t (Fx b d)=true->8*(FA b (Ay t)).length+3<=f->
 ∃ g,f<=g+8*(FA b (Ay t)).length/\1<=g/\(Ho vars ps t=true->B6 ts vars true ps f .or i d=B6 ts vars true ps g (.orL t) (i+(FA b (Ay t)).length) d)/\(Ho vars ps t=false->(B6 ts vars true ps f .or i d).2.1=110)
def LP(ts:List Tk)(t:Tr):Prop:=∀(f i d:Nat) (a:KT) (q:List KT),Fc ts i (Ay t++a::q)->a=(5,[])\/a=(2,[41])->d<=60->AU t d=true->8*(Ay t).length+4<=f->
 ResK (Ho vars ps t) (B6 ts vars true ps f .prop i d) (i+(Ay t).length) t
theorem ZA:∀(n:Nat) (t:Tr) (d:Nat),SizeOf.sizeOf t<n->AU t d=true->1<=(Ay t).length:=by
 intro n
 induction n with
 |zero=>intro t d h;omega
 |succ n ih=>
  intro t d hn h
  cases Dj h with
  |tt=>rw[Ay,EZ];exact ω 1
  |ff=>rw[Ay,EZ];exact ω 1
  |@cmp _ l r op hl hr h1 h2=>
   rw[Ay,EZ]
   show 1<=(C6 0 l++[(2,EJ.getD op.toNat [])]++C6 0 r).length
   simp only[η,ν];omega
  |@«at» _ p q hp hq=>rw[Ay,EZ];show 1<=4;omega
  |@one _ k x hk hd hx=>rw[MV,ν];omega
  |@two _ k x y hk hd hx gd hy=>rw[Dk,η,ν];omega
theorem LU.b{t:Tr}{b:Bool}(h:LU vars ps ts t b):LBj vars ps ts t b:=by
 intro f i d a q hat ha h1 h2 hd hr hf;obtain⟨n,rfl⟩:∃ n,f=n+1:=⟨f-1,by omega⟩;have g:=h n i d a q hat ha hd hr (by omega);have hat2:Fc ts (i+(FA b (Ay t)).length) (a::q):=Dr hat;rw[AcK];refine⟨λe=>?_,λe=>Cx (g.n e) _⟩;rw[g.y e,C4,A0 hat2 h1,A0 hat2 h2];rfl
theorem LBj.a{t:Tr}{b:Bool}(h:LBj vars ps ts t b)(hl:1<=(FA b (Ay t)).length):LA vars ps ts t b:=by
 intro f i d a q hat ha h1 h2 hd hr hf;obtain⟨n,rfl⟩:∃ n,f=n+1:=⟨f-1,by omega⟩;have g:=h n i d a q hat ha h1 h2 hd hr (by omega);rw[Ala];refine⟨n,by omega,by omega,λe=>?_,λe=>Cx (g.n e) _⟩;rw[g.y e,C4]
theorem LA.o{t:Tr}{b:Bool}(h:LA vars ps ts t b)(hl:1<=(FA b (Ay t)).length):LO vars ps ts t b:=by
 intro f i d a q hat ha h1 h2 h3 hd hr hf;obtain⟨n,rfl⟩:∃ n,f=n+1:=⟨f-1,by omega⟩;obtain⟨g,g1,g2,g3,g4⟩:=h n i d a q hat ha h1 h2 hd hr (by omega);have hat2:Fc ts (i+(FA b (Ay t)).length) (a::q):=Dr hat;obtain⟨g,rfl⟩:∃ n,g=n+1:=⟨g-1,by omega⟩;rw[Anx];refine⟨n,by omega,by omega,λe=>?_,λe=>Cx (g4 e) _⟩;rw[g3 e,Se,A0 hat2 h3];exact C4 _ _ _
theorem LO.p{t:Tr}(h:LO vars ps ts t false):LP vars ps ts t:=by
 intro f i d a q hat ha hd hr hf;have hs:StopP a:=by rcases ha with rfl|rfl<;>(unfold StopP;decide)
 have n1:a.2≠[85]/\a.2≠[82]/\a.2≠[38]/\a.2≠[124]/\a.2≠[45,62]:=by rcases ha with rfl|rfl<;>decide
 obtain⟨n,rfl⟩:∃ n,f=n+1:=⟨f-1,by omega⟩;have hf:8*(Ay t).length+4<=n+1:=hf;obtain⟨g,g1,g2,g3,g4⟩:=h n i d a q hat hs n1.1 n1.2.1 n1.2.2.1 hd hr (by
  show 8*(Ay t).length+3<=n
  omega)
 have hat2:Fc ts (i+(Ay t).length) (a::q):=Dr hat;obtain⟨g,rfl⟩:∃ n,g=n+1:=⟨g-1,by omega⟩;rw[XD];refine⟨λe=>?_,λe=>Cx (g4 e) _⟩;have g3:=g3 e;rw[show (FA false (Ay t))=Ay t from rfl,Wh,A0 hat2 n1.2.2.2.1]at g3;rw[g3];simp only[Arr,if_false];rw[C4,A0 hat2 n1.2.2.2.2];rfl
theorem K5(s:List KT):(FA true s).length=s.length+2:=by
 unfold FA;rw[if_pos rfl];simp
theorem Agb{i:Nat}{a:KT}{q:List KT}(h:Fc ts i (a::q))(hn:∀ s∈Vk,a.2≠s):C7 ts i=none/\isT ts i [40]=false/\isT ts i [64]=false/\isT ts i [116,114,117,101]=false/\isT ts i [102,97,108,115,101]=false:=by
 refine⟨?_,A0 h (hn _ (by decide)),A0 h (hn _ (by decide)),A0 h (hn _ (by decide)),A0 h (hn _ (by decide))⟩;unfold C7;rw[A0 h (hn _ (by decide)),A0 h (hn _ (by decide)),A0 h (hn _ (by decide)),A0 h (hn _ (by decide))];rfl
theorem LP.br{t:Tr}(h:LP vars ps ts t):LU vars ps ts t true:=by
 intro f i d a q hat ha hd hr hf;rw[K5]at hf ⊢;obtain⟨n,rfl⟩:∃ n,f=n+1:=⟨f-1,by omega⟩;have hat:Fc ts i ((2,[40])::(Ay t++(2,[41])::a::q)):=by
  have e:FA true (Ay t)++a::q=(2,[40])::(Ay t++(2,[41])::a::q):=by simp[FA]
  rwa [e]at hat
 have hd:d+1<=60:=hd;have h2:=(A2 hat).2;have g:=h n (i+1) (d+1) (2,[41]) (a::q) h2 (.inr rfl) hd hr (by omega);have h3:=Dr h2;have hp:C7 ts i=none:=by
  unfold C7;rw[A0 hat (by decide),A0 hat (by decide),A0 hat (by decide),A0 hat (by decide)];rfl
 rw[QJ,hp,if_neg (λe=>by have:=e.2;omega)];simp only;rw[DB hat,if_pos rfl];refine⟨λe=>?_,λe=>Cx (g.n e) _⟩;rw[g.y e,C4,DB h3,if_pos rfl];rw[show i+1+(Ay t).length+1=i+((Ay t).length+2) by omega]
theorem Zt{i:Nat}{p q:ByteArray}{a:KT}{r:List KT}(hp:Cq p.data.toList=true)(hq:Cq q.data.toList=true)(h:Fc ts i ((1,p.data.toList)::(2,[46])::(1,q.data.toList)::a::r)) :
  ResK (TU ps p q) (DC ts ps i) (i+3) (.mk 6 [] [] 0 p q []):=by
 have h2:=(A2 h).2;have h3:=(A2 h2).2;have n1:isN ts i=true:=by
  unfold isN;rw[(A2 h).1.1,(A2 h).1.2,hp];rfl
 have n3:isN ts (i+2)=true:=by
  unfold isN;rw[(A2 h3).1.1,(A2 h3).1.2,hq];rfl
 have b1:Lw ts i=p:=by
  unfold Lw;rw[(A2 h).1.2];exact Jq p
 have b3:Lw ts (i+2)=q:=by
  unfold Lw;rw[(A2 h3).1.2];exact Jq q
 unfold DC TU;rw[n1,b1,b3,if_neg (by simp)]
 cases KC ps p with
 |none=>exact⟨λe=>(by simp at e),λ_=>rfl⟩
 |some x=>
  simp only;rw[DB h2,n3,if_neg (by simp),if_neg (by simp)]
  by_cases hm:q∈x.locs
  .rw[if_neg (λe=>e hm),decide_eq_true hm]
   exact⟨λ_=>rfl,λe=>by cases e⟩
  .rw[if_pos hm,decide_eq_false hm]
   exact⟨λe=>(by cases e),λ_=>rfl⟩
theorem AcP{k:Int}(hk:Er k=1){i:Nat}{q:List KT}(h:Fc ts i (Lu k::q)):C7 ts i=some k:=by
 unfold C7;rcases Bu k with⟨e,_⟩|⟨_,rfl|rfl|rfl|rfl⟩|⟨e,_⟩|e
 .omega
 .have h:Fc ts i ((2,[33])::q):=h
  rw[DB h,if_pos rfl]
 .have h:Fc ts i ((4,[88])::q):=h
  rw[A0 h (by decide),Lm h];rfl
 .have h:Fc ts i ((4,[71])::q):=h
  rw[A0 h (by decide),A0 h (by decide),Lm h];rfl
 .have h:Fc ts i ((4,[70])::q):=h
  rw[A0 h (by decide),A0 h (by decide),A0 h (by decide),Lm h];rfl
 .omega
 .omega
structure Lev (ts:List Tk) (t:Tr):Prop where
 u:BL t.kind=5->LU vars ps ts t false
 b:4<=BL t.kind->LBj vars ps ts t false
 a:3<=BL t.kind->LA vars ps ts t false
 o:2<=BL t.kind->LO vars ps ts t false
 p:LP vars ps ts t
theorem Gb(k:Int):BL k=1\/BL k=2\/BL k=3\/BL k=4\/BL k=5:=by
 unfold BL
 repeat' split
 all_goals simp
theorem Lev.ub{t:Tr}(h:Lev vars ps ts t){b:Bool}(hb:b=true\/BL t.kind=5):LU vars ps ts t b:=by
 cases b with
 |true=>exact h.p.br
 |false=>exact h.u (hb.resolve_left (by simp))
theorem Lev.bb{t:Tr}(h:Lev vars ps ts t){b:Bool}(hb:b=true\/4<=BL t.kind):LBj vars ps ts t b:=by
 cases b with
 |true=>exact h.p.br.b
 |false=>exact h.b (hb.resolve_left (by simp))
theorem Lev.ab{t:Tr}(h:Lev vars ps ts t){b:Bool}(hb:b=true\/3<=BL t.kind):LA vars ps ts t b:=by
 cases b with
 |true=>exact h.p.br.b.a _ _ (by rw[K5];omega)
 |false=>exact h.a (hb.resolve_left (by simp))
theorem Lev.ob{t:Tr}(h:Lev vars ps ts t){b:Bool}(hb:b=true\/2<=BL t.kind):LO vars ps ts t b:=by
 cases b with
 |true=>exact(h.p.br.b.a _ _ (by rw[K5];omega)).o _ _ (by rw[K5];omega)
 |false=>exact h.o (hb.resolve_left (by simp))
theorem AcA{p:Int}(hp:Er p=1)(k:Int):Bp p 0 k=true\/BL k=5:=by
 have:=Gb k;unfold Bp;rw[if_pos hp,decide_eq_true_eq];omega
theorem HY{p:Int}(hp:Er p=2)(i:Nat)(k:Int):Bp p i k=true\/(BL p<BL k\/BL p=BL k/\¬((BL p=1\/BL p=4) ↔ i=0)):=by
 unfold Bp;rw[if_neg (by omega)]
 by_cases h:BL p=BL k
 .rw[if_pos h]
  by_cases h1:BL p=1\/BL p=4
  .by_cases h2:i=0
   .left
    simp only[beq_iff_eq,Auk,decide_eq_true_eq,decide_eq_decide];exact⟨λ_=>h2,λ_=>h1⟩
   .right;right
    exact⟨h,λe=>h2 (e.1 h1)⟩
  .by_cases h2:i=0
   .right;right
    exact⟨h,λe=>h1 (e.2 h2)⟩
   .left
    simp only[beq_iff_eq,Auk,decide_eq_true_eq,decide_eq_decide];exact⟨λe=>absurd e h1,λe=>absurd e h2⟩
 .rw[if_neg h,decide_eq_true_eq]
  omega
theorem Acz:∀(n:Nat) (t:Tr) (d0:Nat),SizeOf.sizeOf t<n->AU t d0=true->Lev vars ps ts t:=by
 intro n
 induction n with
 |zero=>intro t d0 h;omega
 |succ n ih=>
  intro t d0 hn hr0;have hp:=ZA _ t d0 (ArB _) hr0;have l5:BL t.kind=5->LU vars ps ts t false:=by
   intro h5 f i d a q hat ha hd hr hf;have hr:AU t d=true:=hr;have hd:d<=60:=hd;have hat:Fc ts i (Ay t++a::q):=hat;have hf:8*(Ay t).length<=f:=hf
   show ResK (Ho vars ps t) (B6 ts vars true ps f .un i d) (i+(Ay t).length) t
   obtain⟨m,rfl⟩:∃ m,f=m+1:=⟨f-1,by omega⟩
   cases Dj hr with
   |tt=>
    have e:Ay (.mk 0 [] [] 0 (Af []) (Af []) [])=[(1,[116,114,117,101])]:=by rw[Ay,EZ];rfl
    rw[e]at hat ⊢;have hat:Fc ts i ((1,[116,114,117,101])::a::q):=hat;have e2:isT ts i [116,114,117,101]=true:=by rw[MQ hat];rfl
    have hp:C7 ts i=none:=by
     unfold C7;rw[A0 hat (by decide),A0 hat (by decide),A0 hat (by decide),A0 hat (by decide)];rfl
    rw[QJ,hp,A0 hat (s:=[40]) (by decide),if_neg (by simp)];simp only;rw[if_neg (by simp),A0 hat (s:=[64]) (by decide),if_neg (by simp),e2,if_pos rfl,Ho,if_neg (by decide),if_neg (by decide),OW];exact⟨λ_=>rfl,λe=>by cases e⟩
   |ff=>
    have e:Ay (.mk 1 [] [] 0 (Af []) (Af []) [])=[(1,[102,97,108,115,101])]:=by rw[Ay,EZ];rfl
    rw[e]at hat ⊢;have hat:Fc ts i ((1,[102,97,108,115,101])::a::q):=hat;have e2:isT ts i [102,97,108,115,101]=true:=by rw[MQ hat];rfl
    have hp:C7 ts i=none:=by
     unfold C7;rw[A0 hat (by decide),A0 hat (by decide),A0 hat (by decide),A0 hat (by decide)];rfl
    rw[QJ,hp,A0 hat (s:=[40]) (by decide),if_neg (by simp)];simp only;rw[if_neg (by simp),A0 hat (s:=[64]) (by decide),if_neg (by simp),A0 hat (s:=[116,114,117,101]) (by decide),if_neg (by simp),e2,if_pos rfl,Ho,if_neg (by decide),if_neg (by decide),OW];exact⟨λ_=>rfl,λe=>by cases e⟩
   |@cmp _ l r op hl hs h1 h2=>
    have e:Ay (.mk 2 l r op (Af []) (Af []) [])=C6 0 l++[(2,EJ.getD op.toNat [])]++C6 0 r:=by rw[Ay,EZ];rfl
    rw[e]at hat ⊢;obtain⟨b,p,e2,k⟩:=Ad8 hl;have hat':=hat;rw[e2]at hat';obtain⟨k1,k2,k3,k4,k5⟩:=Agb hat' k;rw[QJ,k1,k2,if_neg (by simp)];simp only;rw[if_neg (by simp),k3,if_neg (by simp),k4,if_neg (by simp),k5,if_neg (by simp),Ho,if_pos rfl];exact AfA vars hl hs h1 h2 hat ha.ne
   |@«at» _ p r hnp hnq=>
    have e:Ay (.mk 6 [] [] 0 p r [])=[(2,[64]),(1,p.data.toList),(2,[46]),(1,r.data.toList)]:=by rw[Ay,EZ];rfl
    rw[e]at hat ⊢;have hat:Fc ts i ((2,[64])::(1,p.data.toList)::(2,[46])::(1,r.data.toList)::a::q):=hat;have hp2:C7 ts i=none:=by
     unfold C7;rw[A0 hat (by decide),A0 hat (by decide),A0 hat (by decide),A0 hat (by decide)];rfl
    rw[QJ,hp2,A0 hat (s:=[40]) (by decide),if_neg (by simp)];simp only;rw[if_neg (by simp),DB hat,if_pos rfl,Ho,if_neg (by decide),if_pos rfl];have g:=Zt ps hnp hnq (A2 hat).2;rw[show i+1+3=i+[((2,[64]):KT),(1,p.data.toList),(2,[46]),(1,r.data.toList)].length from by show _=i+4;omega]at g;exact g
   |@one _ k x hk hd2 hx=>
    rw[MV]at hat hf ⊢;rw[ν]at hf ⊢;have L:=ih x _ (by simp only[Tr.mk.sizeOf_spec,List.cons.sizeOf_spec]at hn;omega) hx;have p1:=L.ub vars ps (AcA hk x.kind);have hat2:Fc ts (i+1) (FA (Bp k 0 x.kind) (Ay x)++a::q):=(A2 hat).2;have hd60:d≠60:=by
     have:d+1<=Fx (Bp k 0 x.kind) (d+1):=by cases Bp k 0 x.kind<;>simp[Fx]
     omega
    have g:=p1 m (i+1) (d+1) a q hat2 ha hd2 hx (by omega);rw[QJ,AcP hk hat,if_neg (λe=>hd60 e.2),Xw vars ps hk];simp only;refine⟨λe=>?_,λe=>Cx (g.n e) _⟩;rw[g.y e,C4];rw[show i+1+(FA (Bp k 0 x.kind) (Ay x)).length=i+((FA (Bp k 0 x.kind) (Ay x)).length+1) by omega];rfl
   |@two _ k x y hk hd2 hx gd hy=>
    exfalso
    have h5:BL k=5:=h5;rcases Bu k with⟨e,_⟩|⟨e,_⟩|⟨_,rfl|rfl|rfl|rfl|rfl⟩|e
    .omega
    .omega
    .exact absurd h5 (by decide)
    .exact absurd h5 (by decide)
    .exact absurd h5 (by decide)
    .exact absurd h5 (by decide)
    .exact absurd h5 (by decide)
    .omega
  have l4:4<=BL t.kind->LBj vars ps ts t false:=by
   intro h4
   by_cases h5:BL t.kind=5
   .exact(l5 h5).b
   have h4:BL t.kind=4:=by have:=Gb t.kind;omega
   intro f i d a q hat ha n1 n2 hd hr hf;have hr:AU t d=true:=hr;have hd:d<=60:=hd;have hat:Fc ts i (Ay t++a::q):=hat;have hf:8*(Ay t).length+1<=f:=hf
   show ResK (Ho vars ps t) (B6 ts vars true ps f .bin i d) (i+(Ay t).length) t
   obtain⟨m,rfl⟩:∃ m,f=m+1:=⟨f-1,by omega⟩
   cases Dj hr with
   |tt=>exact absurd h4 (by decide)
   |ff=>exact absurd h4 (by decide)
   |cmp=>exact absurd (show BL 2=4 from h4) (by decide)
   |«at»=>exact absurd (show BL 6=4 from h4) (by decide)
   |@one _ k x hk hd2 hx=>
    exfalso
    have h4:BL k=4:=h4;rcases Bu k with⟨e,_⟩|⟨_,rfl|rfl|rfl|rfl⟩|⟨e,_⟩|e
    .omega
    .exact absurd h4 (by decide)
    .exact absurd h4 (by decide)
    .exact absurd h4 (by decide)
    .exact absurd h4 (by decide)
    .omega
    .omega
   |@two _ k x y hk hd2 hx gd hy=>
    have h4:BL k=4:=h4;have hk2:k=11\/k=12:=by
     rcases Bu k with⟨e,_⟩|⟨e,_⟩|⟨_,rfl|rfl|rfl|rfl|rfl⟩|e
     .omega
     .omega
     .exact absurd h4 (by decide)
     .exact absurd h4 (by decide)
     .exact absurd h4 (by decide)
     .exact .inl rfl
     .exact .inr rfl
     .omega
    have Lx:=ih x _ (by simp only[Tr.mk.sizeOf_spec,List.cons.sizeOf_spec]at hn;omega) hx;have Ly:=ih y _ (by simp only[Tr.mk.sizeOf_spec,List.cons.sizeOf_spec]at hn;omega) hy;have px:=Lx.ub vars ps (b:=Bp k 0 x.kind) (by
     have:=Gb x.kind;rcases HY hk 0 x.kind with h|h|⟨_,h⟩
     .exact .inl h
     .exact .inr (by omega)
     .exact absurd (by simp[h4]) h)
    have py:=Ly.bb vars ps (b:=Bp k 1 y.kind) (by
     rcases HY hk 1 y.kind with h|h|⟨h,_⟩
     .exact .inl h
     .exact .inr (by omega)
     .exact .inr (by omega))
    rw[Dk,Ari,ArR]at hat;rw[Dk,η,ν]at hf ⊢;have gx:=px m i d (Lu k) _ hat (Lv hk) hd2 hx (by omega);have hat2:=Dr hat;have hat3:=(A2 hat2).2;have gy:=py m _ d a q hat3 ha n1 n2 gd hy (by omega);rw[AcK,Lp vars ps hk]
    cases e1:Ho vars ps x with
    |false=>exact⟨λe=>(by cases e),λ_=>Cx (gx.n e1) _⟩
    |true=>
     rw[Arq,gx.y e1,C4];rw[show i+(FA (Bp k 0 x.kind) (Ay x)).length+1+(FA (Bp k 1 y.kind) (Ay y)).length=i+((FA (Bp k 0 x.kind) (Ay x)).length+((FA (Bp k 1 y.kind) (Ay y)).length+1)) by omega]at gy;rcases hk2 with rfl|rfl
     .have hat2:Fc ts _ ((4,[85])::_):=hat2
      rw[Lm hat2,if_pos rfl];exact⟨λe=>(by rw[gy.y e,C4];rfl),λe=>Cx (gy.n e) _⟩
     .have hat2:Fc ts _ ((4,[82])::_):=hat2
      rw[A0 hat2 (by decide),Lm hat2,if_neg (by simp),if_pos rfl];exact⟨λe=>(by rw[gy.y e,C4];rfl),λe=>Cx (gy.n e) _⟩
  have l3:3<=BL t.kind->LA vars ps ts t false:=by
   intro h3
   by_cases h4:4<=BL t.kind
   .exact(l4 h4).a _ _ hp
   have h3:BL t.kind=3:=by omega
   intro f i d a q hat ha n1 n2 hd hr hf;have hr:AU t d=true:=hr;have hat:Fc ts i (Ay t++a::q):=hat;have hf:8*(Ay t).length+2<=f:=hf
   show ∃ g,f<=g+8*(Ay t).length/\1<=g/\(Ho vars ps t=true->B6 ts vars true ps f .and i d=B6 ts vars true ps g (.andL t) (i+(Ay t).length) d)/\(Ho vars ps t=false->(B6 ts vars true ps f .and i d).2.1=110)
   cases Dj hr with
   |tt=>exact absurd h3 (by decide)
   |ff=>exact absurd h3 (by decide)
   |cmp=>exact absurd (show BL 2=3 from h3) (by decide)
   |«at»=>exact absurd (show BL 6=3 from h3) (by decide)
   |@one _ k x hk hd2 hx=>
    exfalso
    have h3:BL k=3:=h3;rcases Bu k with⟨e,_⟩|⟨_,rfl|rfl|rfl|rfl⟩|⟨e,_⟩|e
    .omega
    .exact absurd h3 (by decide)
    .exact absurd h3 (by decide)
    .exact absurd h3 (by decide)
    .exact absurd h3 (by decide)
    .omega
    .omega
   |@two _ k x y hk hd2 hx gd hy=>
    have h3:BL k=3:=h3;obtain rfl:k=4:=by
     rcases Bu k with⟨e,_⟩|⟨e,_⟩|⟨_,rfl|rfl|rfl|rfl|rfl⟩|e
     .omega
     .omega
     .rfl
     .exact absurd h3 (by decide)
     .exact absurd h3 (by decide)
     .exact absurd h3 (by decide)
     .exact absurd h3 (by decide)
     .omega
    have Lx:=ih x _ (by simp only[Tr.mk.sizeOf_spec,List.cons.sizeOf_spec]at hn;omega) hx;have Ly:=ih y _ (by simp only[Tr.mk.sizeOf_spec,List.cons.sizeOf_spec]at hn;omega) hy;have px:=Lx.ab vars ps (b:=Bp 4 0 x.kind) (by
     rcases HY hk 0 x.kind with h|h|⟨h,_⟩
     .exact .inl h
     .exact .inr (by omega)
     .exact .inr (by omega))
    have py:=Ly.bb vars ps (b:=Bp 4 1 y.kind) (by
     rcases HY hk 1 y.kind with h|h|⟨_,h⟩
     .exact .inl h
     .exact .inr (by omega)
     .exact absurd (by simp[h3]) h)
    rw[Dk,Ari,ArR]at hat;rw[Dk,η,ν]at hf ⊢;obtain⟨g,g1,g2,g3,g4⟩:=px f i d (2,[38]) _ hat (Lv hk) (by decide) (by decide) hd2 hx (by omega);have hat2:Fc ts _ ((2,[38])::_):=Dr hat;have hat3:=(A2 hat2).2;obtain⟨g,rfl⟩:∃ n,g=n+1:=⟨g-1,by omega⟩;have gy:=py g _ d a q hat3 ha n1 n2 gd hy (by omega);rw[Lp vars ps hk];refine⟨g,by omega,by omega,?_⟩
    cases e1:Ho vars ps x with
    |false=>exact⟨λe=>(by cases e),λ_=>g4 e1⟩
    |true=>
     rw[Arq,g3 e1,Se,DB hat2,if_pos rfl];rw[show i+(FA (Bp 4 0 x.kind) (Ay x)).length+1+(FA (Bp 4 1 y.kind) (Ay y)).length=i+((FA (Bp 4 0 x.kind) (Ay x)).length+((FA (Bp 4 1 y.kind) (Ay y)).length+1)) by omega]at gy;exact⟨λe=>(by rw[gy.y e,C4];rfl),λe=>Cx (gy.n e) _⟩
  have l2:2<=BL t.kind->LO vars ps ts t false:=by
   intro h2
   by_cases h3:3<=BL t.kind
   .exact(l3 h3).o _ _ hp
   have h2:BL t.kind=2:=by omega
   intro f i d a q hat ha n1 n2 n3 hd hr hf;have hr:AU t d=true:=hr;have hat:Fc ts i (Ay t++a::q):=hat;have hf:8*(Ay t).length+3<=f:=hf
   show ∃ g,f<=g+8*(Ay t).length/\1<=g/\(Ho vars ps t=true->B6 ts vars true ps f .or i d=B6 ts vars true ps g (.orL t) (i+(Ay t).length) d)/\(Ho vars ps t=false->(B6 ts vars true ps f .or i d).2.1=110)
   cases Dj hr with
   |tt=>exact absurd h2 (by decide)
   |ff=>exact absurd h2 (by decide)
   |cmp=>exact absurd (show BL 2=2 from h2) (by decide)
   |«at»=>exact absurd (show BL 6=2 from h2) (by decide)
   |@one _ k x hk hd2 hx=>
    exfalso
    have h2:BL k=2:=h2;rcases Bu k with⟨e,_⟩|⟨_,rfl|rfl|rfl|rfl⟩|⟨e,_⟩|e
    .omega
    .exact absurd h2 (by decide)
    .exact absurd h2 (by decide)
    .exact absurd h2 (by decide)
    .exact absurd h2 (by decide)
    .omega
    .omega
   |@two _ k x y hk hd2 hx gd hy=>
    have h2:BL k=2:=h2;obtain rfl:k=5:=by
     rcases Bu k with⟨e,_⟩|⟨e,_⟩|⟨_,rfl|rfl|rfl|rfl|rfl⟩|e
     .omega
     .omega
     .exact absurd h2 (by decide)
     .rfl
     .exact absurd h2 (by decide)
     .exact absurd h2 (by decide)
     .exact absurd h2 (by decide)
     .omega
    have Lx:=ih x _ (by simp only[Tr.mk.sizeOf_spec,List.cons.sizeOf_spec]at hn;omega) hx;have Ly:=ih y _ (by simp only[Tr.mk.sizeOf_spec,List.cons.sizeOf_spec]at hn;omega) hy;have px:=Lx.ob vars ps (b:=Bp 5 0 x.kind) (by
     rcases HY hk 0 x.kind with h|h|⟨h,_⟩
     .exact .inl h
     .exact .inr (by omega)
     .exact .inr (by omega))
    have py:=Ly.ab vars ps (b:=Bp 5 1 y.kind) (by
     rcases HY hk 1 y.kind with h|h|⟨_,h⟩
     .exact .inl h
     .exact .inr (by omega)
     .exact absurd (by simp[h2]) h)
    rw[Dk,Ari,ArR]at hat;rw[Dk,η,ν]at hf ⊢;obtain⟨g,g1,g2,g3,g4⟩:=px f i d (2,[124]) _ hat (Lv hk) (by decide) (by decide) (by decide) hd2 hx (by omega);have hat2:Fc ts _ ((2,[124])::_):=Dr hat;have hat3:=(A2 hat2).2;obtain⟨g,rfl⟩:∃ n,g=n+1:=⟨g-1,by omega⟩;obtain⟨g',k1,k2,k3,k4⟩:=py g _ d a q hat3 ha n1 n2 gd hy (by omega);obtain⟨g',rfl⟩:∃ n,g'=n+1:=⟨g'-1,by omega⟩;have hat4:=Dr hat3;rw[Lp vars ps hk];refine⟨g,by omega,by omega,?_⟩
    cases e1:Ho vars ps x with
    |false=>exact⟨λe=>(by cases e),λ_=>g4 e1⟩
    |true=>
     rw[Arq,g3 e1,Wh,DB hat2,if_pos rfl];refine⟨λe=>?_,λe=>Cx (k4 e) _⟩;rw[k3 e,Se,A0 hat4 n3,if_neg (by simp),C4];rw[show i+(FA (Bp 5 0 x.kind) (Ay x)).length+1+(FA (Bp 5 1 y.kind) (Ay y)).length=i+((FA (Bp 5 0 x.kind) (Ay x)).length+((FA (Bp 5 1 y.kind) (Ay y)).length+1)) by omega];rfl
  refine⟨l5,l4,l3,l2,?_⟩
  by_cases h2:2<=BL t.kind
  .exact(l2 h2).p
  have h1:BL t.kind=1:=by have:=Gb t.kind;omega
  intro f i d a q hat ha hd hr hf;obtain⟨m,rfl⟩:∃ m,f=m+1:=⟨f-1,by omega⟩
  cases Dj hr with
  |tt=>exact absurd h1 (by decide)
  |ff=>exact absurd h1 (by decide)
  |cmp=>exact absurd (show BL 2=1 from h1) (by decide)
  |«at»=>exact absurd (show BL 6=1 from h1) (by decide)
  |@one _ k x hk hd2 hx=>
   exfalso
   have h1:BL k=1:=h1;rcases Bu k with⟨e,_⟩|⟨_,rfl|rfl|rfl|rfl⟩|⟨e,_⟩|e
   .omega
   .exact absurd h1 (by decide)
   .exact absurd h1 (by decide)
   .exact absurd h1 (by decide)
   .exact absurd h1 (by decide)
   .omega
   .omega
  |@two _ k x y hk hd2 hx gd hy=>
   have h1:BL k=1:=h1;obtain rfl:k=7:=by
    rcases Bu k with⟨e,_⟩|⟨e,_⟩|⟨_,rfl|rfl|rfl|rfl|rfl⟩|e
    .omega
    .omega
    .exact absurd h1 (by decide)
    .exact absurd h1 (by decide)
    .rfl
    .exact absurd h1 (by decide)
    .exact absurd h1 (by decide)
    .omega
   have Lx:=ih x _ (by simp only[Tr.mk.sizeOf_spec,List.cons.sizeOf_spec]at hn;omega) hx;have Ly:=ih y _ (by simp only[Tr.mk.sizeOf_spec,List.cons.sizeOf_spec]at hn;omega) hy;have px:=Lx.ob vars ps (b:=Bp 7 0 x.kind) (by
    rcases HY hk 0 x.kind with h|h|⟨_,h⟩
    .exact .inl h
    .exact .inr (by omega)
    .exact absurd (by simp[h1]) h)
   have hb1:Bp 7 1 y.kind=false:=by
    unfold Bp;rw[if_neg (by decide),show BL 7=1 from rfl];have:=Gb y.kind;split
    .rfl
    .rw[decide_eq_false_iff_not];omega
   rw[Dk,Ari,ArR]at hat;rw[Dk,η,ν]at hf ⊢;rw[hb1]at hat hf gd hy ⊢;have hat:Fc ts i (FA (Bp 7 0 x.kind) (Ay x)++(2,[45,62])::(Ay y++a::q)):=hat;have hf:8*((FA (Bp 7 0 x.kind) (Ay x)).length+((Ay y).length+1))+4<=m+1:=hf
   show ResK _ _ (i+((FA (Bp 7 0 x.kind) (Ay x)).length+((Ay y).length+1))) _
   obtain⟨g,g1,g2,g3,g4⟩:=px m i d (2,[45,62]) _ hat (Lv hk) (by decide) (by decide) (by decide) hd2 hx (by omega);have hat2:Fc ts _ ((2,[45,62])::_):=Dr hat;have hat3:=(A2 hat2).2;obtain⟨g,rfl⟩:∃ n,g=n+1:=⟨g-1,by omega⟩;have gy:=Ly.p m _ d a q hat3 ha gd hy (by omega);rw[XD,Lp vars ps hk]
   cases e1:Ho vars ps x with
   |false=>exact⟨λe=>(by cases e),λ_=>Cx (g4 e1) _⟩
   |true=>
    rw[Arq,g3 e1,Wh,A0 hat2 (by decide),if_neg (by simp),C4,DB hat2,if_pos rfl];rw[show i+(FA (Bp 7 0 x.kind) (Ay x)).length+1+(Ay y).length=i+((FA (Bp 7 0 x.kind) (Ay x)).length+((Ay y).length+1)) by omega]at gy;exact⟨λe=>(by rw[gy.y e,C4];rfl),λe=>Cx (gy.n e) _⟩
end
structure Sy where
 vars:List ByteArray
 s2:List (List AV)
 s3:Int
 s4:List (List AV)
 s5:Bool
 s6:List (List AV)
 s7:Bool
 s8:List (List AV)
 ps:List Pr
 s10:List (List AV)
def JV(y:Sy):List AV:=[.ls (y.vars.map eS),.ls y.s2,iv y.s3,.ls y.s4,bv y.s5,.ls y.s6,bv y.s7,.ls y.s8,.ls (y.ps.map R1),.ls y.s10]
def JL(y:Sy):AV:=.agg (.ptr 0 0::JV y)
structure PreT (ts:List Tk):Prop where
 sg:∀ i,(nx ts i).text=[33]\/(nx ts i).text=[40]->(nx ts i).kind=2
 bg:∀ i,(nx ts i).text=[88]\/(nx ts i).text=[71]\/(nx ts i).text=[70]->(nx ts i).kind=4
theorem MT(s:ByteArray):∀ ps:List Pr,match (ps.map (·.name)).findIdx? (s = ·) with
  |none=>KC ps s=none
  |some k=>∃ p,ps[k]? = some p/\p.name=s/\KC ps s=some p
 |[]=>rfl
 |p::r=>by
  have ih:=MT s r;rw[List.map_cons,List.findIdx?_cons];unfold KC at ih ⊢
  by_cases h:s=p.name
  .rw[if_pos (by simpa using h)]
   exact⟨p,rfl,h.symm,by rw[As4,decide_eq_true h.symm]⟩
  .rw[if_neg (by simpa using h)]
   have h':¬ p.name=s:=λe=>h e.symm
   rw[As4,decide_eq_false h']
   cases e:(r.map (·.name)).findIdx? (s = ·) with
   |none=>rw[e]at ih;exact ih
   |some k=>
    rw[e]at ih;obtain⟨q,h1,h2,h3⟩:=ih;exact⟨q,by simpa using h1,h2,h3⟩
theorem Q4{s:ByteArray}{xs:List ByteArray}{k:Nat}(h:xs.findIdx? (s = ·)=some k):xs[k]? = some s:=by
 obtain⟨h1,h2,_⟩:=List.findIdx?_eq_some_iff_getElem.1 h;have h2:s=xs[k]:=by simpa using h2
 rw[Ψ h1,←h2]
theorem ZI{s:ByteArray}{xs:List ByteArray}(h:xs.findIdx? (s = ·)=none):s∉xs:=λhm=>by
 have:=List.findIdx?_eq_none_iff.1 h s hm;simp at this
theorem Ac7{s:ByteArray}{xs:List ByteArray}{k:Nat}(h:xs.findIdx? (s = ·)=some k):s∈xs:=ArS (Q4 h)
theorem Gm(s:ByteArray):(eS s).length=1:=rfl
def Pj:Option Int->Int
 |some k=>k
 |none=>-1
theorem AgB{ts:List Tk}(i:Nat):(0<=Pj (C7 ts i)) ↔ (C7 ts i).isSome:=by
 unfold C7
 repeat' split
 all_goals simp[Pj]
theorem Wj{ts:List Tk}{i:Nat}{k:Int}(h:C7 ts i=some k):(nx ts i).text≠[40]/\isT ts i [40]=false:=by
 have e:(nx ts i).text≠[40]:=by
  intro e;unfold C7 isT at h;rw[e]at h;simp at h
 refine⟨e,?_⟩;unfold isT;rw[decide_eq_false e];rfl
theorem Ak5{ts:List Tk}(P:PreT ts)(i:Nat):isT ts i [40]=(decide ((nx ts i).kind=2)&&decide ((nx ts i).text=[40])):=by
 unfold isT
 by_cases h:(nx ts i).text=[40]
 .simp[h,P.sg i (.inr h)]
 .simp[h]
section
variable {D:Orc}
theorem Ei(Kq:Knows Ag Fj D)(k:Int)(ks:List Tr):D.ask (.fn 126) [iv k,.ls (ks.map Bq)] []=some (.agg (Bq (Es k ks)),[]):=by
 refine Kq.fn' AhV _ rfl ((AoP ..).trans ?_);unfold Es Bq;rw[BW];rfl
theorem FW(Kq:Knows Ag Fj D){ts:List Tk}(P:PreT ts)(i:Nat):D.ask (.fn 265) [.agg (MF (nx ts i))] []=some (iv (Pj (C7 ts i)),[]):=by
 have h1:=P.sg i;have h2:=P.bg i;refine Kq.fn' AiA _ rfl ((ApJ ..).trans ?_);unfold C7 isT;simp only[ci0,ci1,ci2,ci3,ci4,ci5,ci6,JM,LN,Fp,F6,BG,Gz,LM,Ff,IK];generalize (nx ts i).kind=k at *;generalize (nx ts i).text=s at *
 by_cases h33:s=[33]
 .have:=h1 (.inl h33);subst this;subst h33;rfl
 by_cases h88:s=[88]
 .have:=h2 (.inl h88);subst this;subst h88;rfl
 by_cases h71:s=[71]
 .have:=h2 (.inr (.inl h71));subst this;subst h71;rfl
 by_cases h70:s=[70]
 .have:=h2 (.inr (.inr h70));subst this;subst h70;rfl
 simp only[h33,h88,h71,h70,decide_false,Ar2,Arr,if_false]
 by_cases hk2:k=2
 .simp[hk2,Pj]
 .by_cases hk4:k=4
  .simp[hk4,Pj]
  .simp[hk2,hk4,Pj]
theorem Zv(Kq:Knows Ag Fj D)(ps:List Pr)(hp:ps.length<=1000000):∀(n i:Nat) (out:List ByteArray),ps.length-i=n->out.length+n<=1000000->D.ask (.lp 232 0) [.sl 0 0 out.length 1,.ls (ps.map R1),iv (ps.length:Int),iv (i:Int)] [U (Ao eS out) true true]
  = some (.tup [iv 0,.sl 1 0 (out++(ps.drop i).map (·.name)).length 1],[.del,.set (U (Ao eS (out++(ps.drop i).map (·.name))) true true)]):=by
 intro n
 induction n with
 |zero=>
  intro i out hi ho;refine Kq.lp' Ng _ rfl (by kernel_rfl) ((RZ ..).trans ?_);rw[show ps.drop i=[] from Ark (by omega),List.map_nil,Asa];refine Ak (by omega) ?_;rfl
 |succ n ih=>
  intro i out hi ho;have hlt:i<ps.length:=by omega
  have ih:=ih (i+1) (out++[ps[i].name]) (by omega) (by simp;omega);rw[show ps.drop i=ps[i]::ps.drop (i+1) from Arf hlt];rw[Ari,η,Ase]at ih;refine Kq.lp' Ng _ rfl (by kernel_rfl) ((RZ ..).trans ?_);refine Al (by omega) ?_;rw[Ax,AF (Ψ hlt)];have hf:Bc (out.length+1) 16=true:=AN (by omega) (by omega);have hb1:Nat.ble (0+out.length*1) (Ao eS out).length=true:=AT Gm out (by omega);have e3:∀ s,ο 0 (ι (0+out.length*1) (Ao eS out))++[sv s]=Ao eS (out++[s]):=λs=>by
   rw[υ,Bf Gm out (by omega)];exact A9 eS out s
  simp only[R1,ND,DK,Aa];rw[Bo (by omega),hf,hb1,e3];refine Ad ?_;refine Ad ?_;refine Ab ih ?_;rfl
theorem Zw(Kq:Knows Ag Fj D)(y:Sy)(hp:y.ps.length<=1000000):D.ask (.fn 232) [.agg (JV y)] []=some (.ls ((y.ps.map (·.name)).map eS),[]):=by
 refine Kq.fn' Ng _ rfl ((Amk ..).trans ?_);rw[Aw];have g:=Zv Kq y.ps hp _ 0 [] rfl (by simpa using hp);refine Ab g ?_;simp only[ND,DK,Aa,υ,Arx];rw[AT Gm _ (by omega)];refine Ad ?_;rw[Cz Gm _ rfl]
variable (K:Knows Ag CR D) (Kq:Knows Ag Fj D) (L:NameF D) {ts:List Tk} (H:Toks ts) (y:Sy)
include K Kq L H
def Jy(ts:List Tk)(xs:List ByteArray)(i:Nat):Nat × Nat × Int:=if isN ts i=false then(i,101,0) else match xs.findIdx? (Lw ts i = ·) with
 |none=>(i,110,0)
 |some k=>(i+1,0,(k:Int))
theorem QK(kn:Bool)(xs:List ByteArray)(hx:xs.length<4611686018427387904)(i:Nat)(hi:i<=ts.length):D.ask (.fn 276) [JL y,.ls (xs.map eS)] [Bt ts y.vars kn i]
  = some (.tup [iv (Jy ts xs i).2.2,iv ((Jy ts xs i).2.1:Int)],[.set (Bt ts y.vars kn (Jy ts xs i).1)]):=by
 have hl:=H.len;refine Kq.fn' AiF _ rfl ((ApP ..).trans ?_);refine Ab (JP K ts y.vars kn i (by omega) (by omega)) ?_;unfold Jy isN;simp only[MF,Bt,ND,DK,Aa]
 by_cases h:(nx ts i).kind=1
 .refine As (by omega) ?_
  refine Ab (L.name _ (H.short i)) ?_;simp only[ND,DK,Aa,h,decide_true,Arq]
  cases Cq (nx ts i).text with
  |false=>rfl
  |true=>
   refine Ad ?_;rw[if_neg (by simp)];refine Ab (TP K xs hx _) ?_;simp only[ND,DK,Aa];unfold Lw
   cases xs.findIdx? (Af (nx ts i).text = ·) with
   |none=>rfl
   |some k=>
    refine Ak (show ¬ (k:Int)<0 by omega) ?_;rw[Bo (by omega)];rfl
 .refine Ap (by omega) ?_
  simp only[h,decide_false,Ar2,if_true];rfl
theorem Zu(kn:Bool)(hp:y.ps.length<=1000000)(hq:∀ p∈y.ps,p.locs.length<4611686018427387904)(i:Nat)(hi:i<=ts.length):D.ask (.fn 266) [JL y] [Bt ts y.vars kn i]
  = some (.tup [.agg (Bq (DC ts y.ps i).2.2),iv ((DC ts y.ps i).2.1:Int)],[.set (Bt ts y.vars kn (DC ts y.ps i).1)]):=by
 have hl:=H.len;refine Kq.fn' AiB _ rfl ((ApK ..).trans ?_);refine Ab (Zw Kq y hp) ?_;simp only[ND,DK,Aa];have g:=QK K Kq L H y kn (y.ps.map (·.name)) (by rw[List.length_map];omega) i hi;refine Ab g ?_;simp only[Bt,ND,DK,Aa];unfold DC Jy;have hf:=MT (Lw ts i) y.ps
 cases h1:isN ts i with
 |false=>rfl
 |true=>
  have l1:=H.isN h1;simp only[Aty,if_false]
  cases h2:(y.ps.map (·.name)).findIdx? (Lw ts i = ·) with
  |none=>
   rw[h2]at hf;rw[hf];rfl
  |some k=>
   rw[h2]at hf;obtain⟨p,f1,f2,f3⟩:=hf;rw[f3];refine As rfl ?_;refine Ab (Yv K ts y.vars kn (i+1) (by omega) (by omega) [46]) ?_;simp only[Bt,ND,DK,Aa]
   cases h3:isT ts (i+1) [46]with
   |false=>rfl
   |true=>
    have l2:=H.isT h3;simp only[if_true,Aty,if_false];refine As rfl ?_;rw[Ax,AF f1];simp only[R1,ND,DK,Aa];have g:=QK K Kq L H y kn p.locs (hq p (ArS f1)) (i+1+1) (by omega);refine Ab g ?_;simp only[Bt,ND,DK,Aa];unfold Jy
    cases h4:isN ts (i+2) with
    |false=>rfl
    |true=>
     simp only[Aty,if_false]
     cases h5:p.locs.findIdx? (Lw ts (i+2) = ·) with
     |none=>
      rw[if_pos (ZI h5)];rfl
     |some m=>
      rw[if_neg (λe=>e (Ac7 h5))];refine As rfl ?_;rw[Ax,AF (Q4 h5)];simp only[eS,ND,DK,Aa,f2];rfl
theorem TZ(Kb:Knows Ag Hh D)(kn:Bool)(hv:y.vars.length<4611686018427387904)(i:Nat)(hi:i<=ts.length):∃ q:Nat × Nat × Tr,D.ask (.fn 267) [JL y] [Bt ts y.vars kn i]=some (.tup [.agg (Bq q.2.2),iv (q.2.1:Int)],[.set (Bt ts y.vars kn q.1)])
  ∧ q=(if isT ts i [116,114,117,101] then(i+1,0,Es 0 []) else if isT ts i [102,97,108,115,101] then(i+1,0,Es 1 []) else Mx ts y.vars kn i):=by
 have hl:=H.len;refine⟨_,?_,rfl⟩;refine Kq.fn' AiC _ rfl ((ApL ..).trans ?_);refine Ab (BK K ts y.vars kn i (by omega) (by omega) _) ?_;simp only[Bt,ND,DK,Aa]
 cases h1:isT ts i [116,114,117,101]with
 |true=>
  refine Ad ?_;refine Ab (Ei Kq 0 []) ?_;rfl
 |false=>
  refine Bi ?_;simp only[Arr,if_false];refine Ab (BK K ts y.vars kn i (by omega) (by omega) _) ?_;simp only[Bt,ND,DK,Aa]
  cases h2:isT ts i [102,97,108,115,101]with
  |true=>
   refine Ad ?_;refine Ab (Ei Kq 1 []) ?_;rfl
  |false=>
   refine Bi ?_;simp only[Arr,if_false];refine Ab (Vy K Kb L H y.vars kn hv i hi) ?_;rcases Mx ts y.vars kn i with⟨j,e,⟨k,l,r,o,p,q,ks⟩⟩
   rfl
end
end Go.Proofs.YtlmhajfbpplpoaaGreat
