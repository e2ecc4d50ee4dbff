/- The text of a right tree, as tokens. No program in -/
import Derived.Test.YtlmhajfbpplpoaaGreatSBP
import Derived.Test.YtlmhajfbpplpoaaGreatSBQ
import Derived.Test.YtlmhajfbpplpoaaGreatSBG
import Derived.Test.YtlmhajfbpplpoaaGreatSAS
import Derived.Test.YtlmhajfbpplpoaaGreatSBI
import Derived.Test.YtlmhajfbpplpoaaGreatSBM
import Derived.Test.YtlmhajfbpplpoaaGreatSBN
import Derived.Test.YtlmhajfbpplpoaaGreatSBA
import Derived.Test.YtlmhajfbpplpoaaGreatSBB
set_option linter.unusedSectionVars false
set_option linter.unusedSimpArgs false
set_option linter.unusedVariables false
namespace Go.Proofs.YtlmhajfbpplpoaaGreat
open Go.RowKit
def StopB(rest:List UInt8):Prop:=rest=[]\/∃ c r,rest=c::r/\(c=32\/c=41)
def AhO(rest:List UInt8):Prop:=rest=[]\/∃ c r,rest=c::r/\(c=32\/c=41\/c=42)
theorem StopB.n{rest:List UInt8}(h:StopB rest):AhO rest:=by
 rcases h with h|⟨c,r,h,h2⟩
 .exact .inl h
 .exact .inr ⟨c,r,h,by rcases h2 with h2|h2<;>simp[h2]⟩
def HdB(s:List UInt8):Prop:=∃ d r,s=d::r/\(G2 d=true\/B4 d=true\/d=45\/d=40\/d=33)
theorem Ahz{c d:UInt8}(hd:G2 d=true\/B4 d=true\/d=45\/d=40\/d=33):Ahy c d=false:=by
 have:d.toNat≠62/\d.toNat≠61/\d.toNat≠46:=by
  unfold G2 B4 at hd
  simp only[Bool.and_eq_true,decide_eq_true_eq]at hd
  rcases hd with h|h|rfl|rfl|rfl
  .omega
  .omega
  .decide
  .decide
  .decide
 unfold Ahy AkT
 rw[if_neg (fun h=>this.1 h.2),if_neg (fun h=>this.2.1 h.2),if_neg (fun h=>this.2.1 h.2),if_neg (fun h=>this.2.1 h.2),if_neg (fun h=>this.2.1 h.2),if_neg (fun h=>this.2.2 h.2)]
 split<;>rfl
theorem HdB.app{s:List UInt8}(h:HdB s)(r:List UInt8):HdB (s++r):=by
 obtain⟨d,r',rfl,h⟩:=h
 exact⟨d,r'++r,rfl,h⟩
theorem HdB.two{s:List UInt8}(h:HdB s)(c:UInt8):s=[]\/∃ d r,s=d::r/\Ahy c d=false:=by
 obtain⟨d,r,rfl,h⟩:=h
 exact .inr ⟨d,r,rfl,Ahz h⟩
theorem Zx{m:Mo}(h:Bo m=true):(m.num≠AE []->Et m.num.data.toList=true)/\(m.var≠AE []->E3 m.var.data.toList=true)/\(m.num=AE []->m.var≠AE []):=by
 unfold Bo at h
 simp only[Bool.and_eq_true,Bool.or_eq_true,decide_eq_true_eq]at h
 obtain⟨⟨h1,h2⟩,h3⟩:=h
 refine⟨fun e=>h2.resolve_left e,fun e=>h3.resolve_left e,fun e=>h1.resolve_left fun h=>h e⟩
theorem EH{ms:List Mo}(h:Pm ms=true):0<ms.length/\ms.length<=64/\ms.all Bo=true:=by
 unfold Pm at h
 simp only[Bool.and_eq_true,decide_eq_true_eq]at h
 exact⟨h.1.1,h.1.2,h.2⟩
def XI(b:Bool)(s:List UInt8):List UInt8:=if b then [40]++s++[41] else s
def brK(b:Bool)(s:List KT):List KT:=if b then [(2,[40])]++s++[(2,[41])] else s
theorem E2(k:Int)(i:Nat)(x:Tr)(r:List Tr):R1 k i (x::r)=XI (brk k i x.kind) (LR x)::R1 k (i+1) r:=by rw[R1];rfl
theorem I5{k:Int}{d i:Nat}{x:Tr}{r:List Tr}(h:Ft k d i (x::r)=true):SU (brk k i x.kind) d<=60/\BN x (SU (brk k i x.kind) d)=true/\Ft k d (i+1) r=true:=by
 rw[Ft]at h
 simp only[Bool.and_eq_true,decide_eq_true_eq]at h
 exact⟨h.1.1,h.1.2,h.2⟩
inductive ShapeT:Tr->Nat->Prop where
 |tt (d:Nat):ShapeT (.mk 0 [] [] 0 (AE []) (AE []) []) d
 |ff (d:Nat):ShapeT (.mk 1 [] [] 0 (AE []) (AE []) []) d
 |cmp (d:Nat) {l r:List Mo} {op:Int} (hl:Pm l=true) (hr:Pm r=true) (h1:0<=op) (h2:op<=5):ShapeT (.mk 2 l r op (AE []) (AE []) []) d
 |no (d:Nat) {x:Tr} (hd:SU (brk 3 0 x.kind) (d+1)<=60) (h:BN x (SU (brk 3 0 x.kind) (d+1))=true):ShapeT (.mk 3 [] [] 0 (AE []) (AE []) [x]) d
 |bin (d:Nat) {k:Int} {x y:Tr} (hk:k=4\/k=5) (hd:SU (brk k 0 x.kind) d<=60) (h:BN x (SU (brk k 0 x.kind) d)=true) (gd:SU (brk k 1 y.kind) d<=60) (g:BN y (SU (brk k 1 y.kind) d)=true):ShapeT (.mk k [] [] 0 (AE []) (AE []) [x,y]) d
theorem J2{t:Tr}{d:Nat}(h:BN t d=true):ShapeT t d:=by
 obtain⟨k,l,r,op,p,q,ks⟩:=t
 rw[BN]at h
 by_cases h2:k=2
 .rw[if_pos h2]at h
  subst h2
  unfold Rg at h
  simp only[Bool.and_eq_true,decide_eq_true_eq]at h
  obtain⟨⟨⟨⟨⟨⟨⟨_,hl⟩,hr⟩,h3⟩,h4⟩,rfl⟩,rfl⟩,h5⟩:=h
  obtain rfl:ks=[]:=List.length_eq_zero_iff.1 h5
  exact .cmp d hl hr h3 h4
 .rw[if_neg h2]at h
  unfold OC at h
  simp only[Bool.and_eq_true,decide_eq_true_eq]at h
  obtain⟨⟨⟨⟨⟨⟨⟨hl,hr⟩,rfl⟩,rfl⟩,rfl⟩,ha⟩,hd⟩,hk⟩:=h
  obtain rfl:l=[]:=List.length_eq_zero_iff.1 hl
  obtain rfl:r=[]:=List.length_eq_zero_iff.1 hr
  have hks:∀ n:Nat,(ks.length:Int)=(n:Int)->ks.length=n:=fun n h=>by omega
  unfold arI at ha
  by_cases h0:k=0
  .subst h0
   rw[if_pos rfl]at ha
   obtain rfl:ks=[]:=List.length_eq_zero_iff.1 (by omega)
   exact .tt d
  rw[if_neg h0]at ha
  by_cases h1:k=1
  .subst h1
   rw[if_pos rfl]at ha
   obtain rfl:ks=[]:=List.length_eq_zero_iff.1 (by omega)
   exact .ff d
  rw[if_neg h1]at ha
  by_cases h3:k=3
  .subst h3
   rw[if_pos rfl]at ha
   match ks,ha,hk with
   |[x],_,hk=>
    obtain⟨k1,k2,_⟩:=I5 hk
    exact .no d k1 k2
  rw[if_neg h3]at ha
  rw[decide_eq_false h3]at hk
  have hb:(k=4\/k=5)/\ks.length=2:=by
   by_cases h4:k=4
   .rw[if_pos h4]at ha;exact⟨.inl h4,by omega⟩
   .rw[if_neg h4]at ha
    by_cases h5:k=5
    .rw[if_pos h5]at ha;exact⟨.inr h5,by omega⟩
    .rw[if_neg h5]at ha;omega
  match ks,hb.2,hk with
  |[x,y],_,hk=>
   obtain⟨k1,k2,hk⟩:=I5 hk
   obtain⟨k3,k4,_⟩:=I5 hk
   exact .bin d hb.1 k1 k2 k3 k4
def VR(ts:List Tk)(i:Nat)(ks:List KT):Prop:=(ts.map kt).drop i=ks
section
variable {ts:List Tk}
theorem Jp{i:Nat}{a:KT}{r:List KT}(h:VR ts i (a::r)):((nx ts i).kind=a.1/\(nx ts i).text=a.2)/\VR ts (i+1) r:=by
 unfold VR at h ⊢
 have h1:(ts.map kt)[i]? = some a:=by
  have:=congrArg (fun l=>l[0]?) h
  simpa using this
 rw[List.getElem?_map]at h1
 refine⟨?_,?_⟩
 .unfold nx
  cases e:ts[i]? with
  |none=>rw[e]at h1;cases h1
  |some t=>
   rw[e]at h1
   have:kt t=a:=Option.some.inj h1
   rw[←this]
   exact⟨rfl,rfl⟩
 .have:=congrArg (List.drop 1) h
  rw[List.drop_drop]at this
  simpa[Nat.add_comm]using this
theorem UF:∀{a r:List KT} {i:Nat},VR ts i (a++r)->VR ts (i+a.length) r
 |[],r,i,h=>h
 |x::a,r,i,h=>by
  have:=UF (a:=a) (r:=r) (Jp h).2
  rw[List.length_cons,show i+(a.length+1)=i+1+a.length by omega]
  exact this
theorem Zc{i:Nat}{a:KT}{r:List KT}(h:VR ts i (a::r))(s:List UInt8):isT ts i s=(decide (a.2=s)&&(decide (a.1=1)||decide (a.1=2)||decide (a.1=4))):=by
 unfold isT
 rw[(Jp h).1.1,(Jp h).1.2]
theorem Qo{i:Nat}{a:KT}{r:List KT}(h:VR ts i (a::r)){s:List UInt8}(hs:a.2≠s):isT ts i s=false:=by
 rw[Zc h,decide_eq_false hs,Bool.false_and]
theorem UU{i:Nat}{s:List UInt8}{r:List KT}(h:VR ts i ((2,s)::r)):isT ts i s=true:=by
 rw[Zc h]
 simp
def StopK(a:KT):Prop:=a=(5,[])\/a=(2,[41])\/a=(2,[38])\/a=(2,[124])
theorem StopK.ne{a:KT}(h:StopK a):a.2≠[42]/\a.2≠[43]/\a.2≠[45]:=by
 rcases h with rfl|rfl|rfl|rfl<;>decide
end
section
variable {ts:List Tk}
theorem Aaz(j:Nat)(x:Tr)(k:Nat->Tr->Nat × Nat × Tr):Kd (j,0,x) k=k j x:=by
 unfold Kd
 rw[if_pos rfl]
theorem Tq{n j d:Nat}{x:Tr}{a:KT}{q:List KT}(h:VR ts j (a::q))(ha:a.2≠[124]):S5 ts [] false (n+1) (.condL x) j d=(j,0,x):=by
 show (if isT ts j [124] then _ else _)=_
 rw[Qo h ha]
 rfl
theorem ZM{n i d:Nat}{q:List KT}(h:VR ts i ((2,[40])::q))(hd:d≠60):S5 ts [] false (n+1) .one i d=Kd (S5 ts [] false n .cond (i+1) (d+1)) fun j x=>if isT ts j [41] then(j+1,0,x) else(j,101,T0):=by
 show (if _ then _ else _)=_
 rw[if_neg (fun e=>hd e.2),Qo h (by decide),Qo h (by decide),Qo h (by decide),UU h]
 rfl
def P1(ts:List Tk)(b:Bool)(t:Tr):Prop:=∀(f i d:Nat) (a:KT) (q:List KT),VR ts i (brK b (Ki t)++a::q)->StopK a->SU b d<=60->BN t (SU b d)=true->4*(brK b (Ki t)).length<=f->S5 ts [] false f .one i d=(i+(brK b (Ki t)).length,0,t)
def P3(ts:List Tk)(t:Tr):Prop:=∀(f i d:Nat) (a:KT) (q:List KT),VR ts i (Ki t++a::q)->StopK a->a.2≠[38]->d<=60->BN t d=true->4*(Ki t).length+2<=f->
 ∃ g,f<=g+4*(Ki t).length/\1<=g/\S5 ts [] false f .cond i d=S5 ts [] false g (.condL t) (i+(Ki t).length) d
theorem Abq(s:List KT):(brK true s).length=s.length+2:=by
 unfold brK
 rw[if_pos rfl]
 simp
theorem P1.br{t:Tr}(h:P3 ts t):P1 ts true t:=by
 intro f i d a q hat ha hd hr hf
 rw[Abq]at hf ⊢
 obtain⟨n,rfl⟩:∃ n,f=n+1:=⟨f-1,by omega⟩
 have hat:VR ts i ((2,[40])::(Ki t++(2,[41])::a::q)):=by
  have e:brK true (Ki t)++a::q=(2,[40])::(Ki t++(2,[41])::a::q):=by simp[brK]
  rwa [e]at hat
 have hd:d+1<=60:=hd
 have h2:=(Jp hat).2
 obtain⟨g,g1,g2,g3⟩:=h n (i+1) (d+1) (2,[41]) (a::q) h2 (.inr (.inl rfl)) (by decide) hd hr (by omega)
 obtain⟨g,rfl⟩:∃ n,g=n+1:=⟨g-1,by omega⟩
 have h3:=UF h2
 rw[ZM hat (by omega),g3,Tq h3 (by decide),Aaz,UU h3,if_pos rfl]
 rw[show i+1+(Ki t).length+1=i+((Ki t).length+2) by omega]
theorem AhT(i:Nat)(x:Tr):brk 4 i x.kind=(decide (x.kind=5)||(decide (i=1)&&decide (x.kind=4))):=rfl
theorem Alk(i:Nat)(x:Tr):brk 5 i x.kind=(decide (i=1)&&decide (x.kind=5)):=rfl
theorem Alj(i:Nat)(x:Tr):brk 3 i x.kind=(decide (x.kind=4)||decide (x.kind=5)):=rfl
end
structure TkN (ts:List Tk):Prop where
 fin:(ts.getLastD ⟨5,[],0,0⟩).kind=5
 num:∀ i,(nx ts i).kind=3->Et (nx ts i).text=true
section
variable {ts:List Tk} (H:TkN ts)
include H
def On(x:Tr):Nat:=(LR x).length+if x.kind=4\/x.kind=5 then 2 else 0
def Nm(x:Tr):Nat:=(LR x).length+if x.kind=5 then 2 else 0
structure ROk (d s:Nat) (x:Tr):Prop where
 r:BN x d=true
 b:x.kind=4\/x.kind=5->d+1<=60/\BN x (d+1)=true
 l:On x<=s
structure RWk (d s:Nat) (x:Tr):Prop where
 r:BN x d=true
 b:x.kind=5->d+1<=60/\BN x (d+1)=true
 l:Nm x<=s
structure RCk (d s:Nat) (x:Tr):Prop where
 r:BN x d=true
 l:(LR x).length<=s
omit H in
theorem ROk.w{d s:Nat}{x:Tr}(h:ROk d s x):RWk d s x:=⟨h.r,fun e=>h.b (.inr e),by
 have:=h.l
 unfold On at this
 unfold Nm
 split
 .rename_i e;rw[if_pos (.inr e)]at this;exact this
 .omega⟩
omit H in
theorem RWk.c{d s:Nat}{x:Tr}(h:RWk d s x):RCk d s x:=⟨h.r,by
 have:=h.l
 unfold Nm at this
 omega⟩
end
theorem Mc(b:Bool)(s:List UInt8):(XI b s).length=s.length+if b then 2 else 0:=by
 cases b with
 |false=>rfl
 |true=>
  unfold XI
  rw[if_pos rfl,if_pos rfl]
  simp
theorem X0(x:Tr):(XI (brk 3 0 x.kind) (LR x)).length=On x:=by
 rw[Mc,Alj]
 unfold On
 by_cases h1:x.kind=4<;>by_cases h2:x.kind=5<;>simp[h1,h2]
theorem V1(x:Tr):(XI (brk 4 0 x.kind) (LR x)).length=Nm x:=by
 rw[Mc,AhT]
 unfold Nm
 by_cases h2:x.kind=5<;>simp[h2]
theorem V2(x:Tr):(XI (brk 4 1 x.kind) (LR x)).length=On x:=by
 rw[Mc,AhT]
 unfold On
 by_cases h1:x.kind=4<;>by_cases h2:x.kind=5<;>simp[h1,h2]
theorem V3(x:Tr):(XI (brk 5 1 x.kind) (LR x)).length=Nm x:=by
 rw[Mc,Alk]
 unfold Nm
 by_cases h2:x.kind=5<;>simp[h2]
theorem AhA(x:Tr):(LR (.mk 3 [] [] 0 (AE []) (AE []) [x])).length=1+On x:=by
 rw[LR,if_neg (by decide),if_neg (by decide),E2]
 show ([33]++XI (brk 3 0 x.kind) (LR x)).length=_
 rw[List.length_append,X0]
 rfl
theorem Adf(x y:Tr):(LR (.mk 4 [] [] 0 (AE []) (AE []) [x,y])).length=Nm x+3+On y:=by
 rw[LR,if_neg (by decide),if_neg (by decide),E2,E2]
 show (XI (brk 4 0 x.kind) (LR x)++[32,38,32]++XI (brk 4 1 y.kind) (LR y)).length=_
 rw[List.length_append,List.length_append,V1,V2]
 rfl
theorem AhB(x y:Tr):(LR (.mk 5 [] [] 0 (AE []) (AE []) [x,y])).length=(LR x).length+3+Nm y:=by
 rw[LR,if_neg (by decide),if_neg (by decide),E2,E2]
 show (XI (brk 5 0 x.kind) (LR x)++[32,124,32]++XI (brk 5 1 y.kind) (LR y)).length=_
 rw[List.length_append,List.length_append,V3]
 rfl
theorem ROk.le{d s s':Nat}{x:Tr}(h:ROk d s x)(hs:s<=s'):ROk d s' x:=⟨h.r,h.b,Nat.le_trans h.l hs⟩
theorem RWk.le{d s s':Nat}{x:Tr}(h:RWk d s x)(hs:s<=s'):RWk d s' x:=⟨h.r,h.b,Nat.le_trans h.l hs⟩
theorem RCk.le{d s s':Nat}{x:Tr}(h:RCk d s x)(hs:s<=s'):RCk d s' x:=⟨h.r,Nat.le_trans h.l hs⟩
section
variable {ts:List Tk} (H:TkN ts)
include H
end
def AmQ:Am:=[]
noncomputable def Ant:MFn:=Bj Tryz.prog Ah AmQ false false 47
def Am3:Am:=[⟨64,[false,true,false,true,false,false,false,false,true,true,true],[(3,1)],[1],[(1,([false,true,false,true],([],[])))]⟩]
noncomputable def AnC:MFn:=Bj Tryz.prog Ah Am3 false false 63
def AmI:Am:=[]
noncomputable def Ans:MFn:=Bj Tryz.prog Ah AmI false false 25
noncomputable def AkW:List (Nat × MFn):=[(47,Ant),(63,AnC),(25,Ans)]
structure SumF (D:Orc):Prop where
 sum:∀ ms:List Mo,Pm ms=true->D.ask (.fn 22) [.ls (ms.map Gt)] []=some (sv (AE (FN ms)),[])
theorem Zy{m:Mo}(h:Bo m=true):m.num.size<=60/\m.var.size<=20:=by
 obtain⟨h1,h2,_⟩:=Zx h
 rw[It,It]
 constructor
 .by_cases e:m.num=AE []
  .rw[e];simp[AE]
  .exact Nz (h1 e)
 .by_cases e:m.var=AE []
  .rw[e];simp[AE]
  .exact K3 (h2 e)
theorem Pn{ms:List Mo}(h:Pm ms=true):ms.length<4611686018427387904/\∀ m∈ms,m.num.size<=9223372036854775807/\m.var.size<=9223372036854775807:=by
 obtain⟨_,h2,h3⟩:=EH h
 refine⟨by omega,fun m hm=>?_⟩
 have:=Zy (List.all_eq_true.1 h3 m hm)
 omega
section
variable {D:Orc}
variable (K:Knows As AkW D) (Kt:Knows As GY D) (L:LexN D) (Ke:Knows As Aav D) (S:SumF D)
include K Kt L Ke S
end
theorem So(s:ByteArray):(Fi s).1=AS (zv (Fi s).1):=by
 unfold Fi
 split
 .simp only[AJ]
 .show (⟨false,[]⟩:Zi)=AS (zv ⟨false,[]⟩)
  rw[show zv (⟨false,[]⟩:Zi)=0 from rfl,Ll]
theorem NA(m:Mo):InB 4000 (I8 m):=by
 unfold I8
 split
 .exact InB.one (by omega)
 .exact(Vs _).inb
theorem Hy(m:Mo):InB 4000 (Gc m):=by
 unfold Gc
 split
 .exact(NA m).neg
 .exact NA m
structure OutB (i:Nat) (out:Lf):Prop where
 len:out.ps.length<=i
 ps:∀ p∈out.ps,InB 4000 p.2
 k:InB (4000+i) out.k
theorem ZO:OutB 0 Mr:=⟨by simp[Mr],by simp[Mr],InB.zero _⟩
theorem OutB.addK{i:Nat}{out:Lf}(h:OutB i out)(m:Mo):OutB (i+1) ⟨out.ps,out.k+Gc m⟩:=⟨by have:=h.len;simp only;omega,h.ps,by
 show InB (4000+i+1) _
 exact InB.add h.k ((Hy m).mono (by omega))⟩
theorem OutB.addP{i:Nat}{out:Lf}(h:OutB i out)(m:Mo)(v:Int):OutB (i+1) ⟨out.ps++[(v,Gc m)],out.k⟩:=⟨by have:=h.len;simp;omega,fun p hp=>by
 rcases List.mem_append.1 hp with hp|hp
 .exact h.ps p hp
 .rw[List.mem_singleton.1 hp];exact Hy m,h.k.mono (by omega)⟩
theorem GO(vars:List ByteArray):∀(ms:List Mo) (i:Nat) (out l:Lf),OutB i out->DX vars ms out=some l->OutB (i+ms.length) l
 |[],i,out,l,h,e=>by
  rw[DX]at e
  cases e
  exact h
 |m::r,i,out,l,h,e=>by
  rw[DX]at e
  rw[List.length_cons,show i+(r.length+1)=i+1+r.length by omega]
  split at e
  .exact GO vars r (i+1) _ l (h.addK m) e
  .split at e
   .cases e
   .exact GO vars r (i+1) _ l (h.addP m _) e
theorem Kc(vars:List ByteArray)(ms:List Mo):LB 64 5000 (DW vars ms).1:=by
 have h0:LB 64 5000 Mr:=⟨by simp[Mr],by simp[Mr],InB.zero _⟩
 unfold DW
 split
 .rename_i h
  split
  .rename_i l e
   have hl:=(EH h).2.1
   have g:=GO vars ms 0 Mr l ZO e
   have g2:LB 64 4064 l:=⟨by have:=g.len;omega,fun p hp=>(g.ps p hp).mono (by omega),g.k.mono (by omega)⟩
   exact g2.pln.mono (by omega) (by omega)
  .exact h0
 .exact h0
def AhS(r0:List (List AV))(r1:Bool)(r2:List (List AV)):Option Lf->AV × List BO
 |none=>(.tup [bv true,.ptr 0 0,bv false],[.set ⟨[.ls [],bv false,.ls []],true,false⟩,.del,.del])
 |some l=>(.tup [iv 0,.ptr 0 0,.ptr 1 0],[.set ⟨[.ls r0,bv r1,.ls r2],true,false⟩,.set ⟨[.sl 3 0 (l.ps.map Bk).length 3,bv (AS l.k).neg,eN (AS l.k).abs],true,false⟩,.del,.set (GZ (l.ps.map Bk))])
section
variable {D:Orc} (Kt:Knows As J7 D) (Kf:Knows As LO D) (Ks:Knows As Fz D) (Z:ZF D) (C:PartF D) (Ko:Knows As NX D) (Kfe:Knows As Pz D) (Ka:Knows As LN D) (Kta:Knows As GY D) (N:LexN D)
include Kfe Z Ka
theorem Add(vars:List ByteArray)(hvl:vars.length<4611686018427387904)(ms:List Mo)(hl:ms.length<=64)(r0:List (List AV))(r1:Bool)(r2:List (List AV)):∀(k i:Nat) (out:Lf),ms.length-i=k->i<=ms.length->OutB i out->
  D.ask (.lp 44 0) [.ls (vars.map eS),.ptr 0 0,.ptr 1 0,.ls (ms.map Gt),iv (ms.length:Int),iv (i:Int)] [⟨[.ls r0,bv r1,.ls r2],true,false⟩,⟨[.sl 2 0 (out.ps.map Bk).length 3,bv (AS out.k).neg,eN (AS out.k).abs],true,false⟩,GZ (out.ps.map Bk)]=some (AhS r0 r1 r2 (DX vars (ms.drop i) out)):=by
 intro k
 induction k with
 |zero=>
  intro i out hm hi ho
  rw[List.drop_eq_nil_of_le (by omega),DX]
  refine Kfe.lp' Y2 _ rfl (by kernel_rfl) ((AdB ..).trans ?_)
  exact(Ap (by omega)).trans rfl
 |succ k ih=>
  intro i out hm hi ho
  have h1:i<ms.length:=by omega
  have hol:(out.ps.map Bk).length<=i:=by have:=ho.len;simpa using this
  obtain⟨T,hT⟩:∃ T,T=DX vars (ms.drop i) out:=⟨_,rfl⟩
  rw[←hT]
  have hsg:=Hy ms[i]
  have hoK:=ho.addK ms[i]
  have hoP:=fun v=>ho.addP ms[i] v
  rw[List.drop_eq_getElem_cons h1,DX]at hT
  refine Kfe.lp' Y2 _ rfl (by kernel_rfl) ((AdB ..).trans ?_)
  refine(Aq (by omega)).trans ?_
  rw[AN,AO (List.getElem?_eq_getElem h1)]
  revert hT hsg hoK hoP
  generalize ms[i]=m
  obtain⟨mn,mu,mv⟩:=m
  intro hT hsg hoK hoP
  simp only[Gt,ND,Ab]
  simp only at hT
  refine(Aa (Z.of_ 1 (by omega) (by omega)) _).trans ?_
  simp only[eZ,eN,ND,Ab]
  by_cases hn:mu=AE []
  .refine(Dd hn).trans ?_
   have en:I8 ⟨mn,mu,mv⟩=1:=by unfold I8;rw[if_pos hn]
   cases mn with
   |true=>
    have es:Gc ⟨true,mu,mv⟩=-1:=by unfold Gc;rw[en];rfl
    rw[es]at hT hsg hoK hoP
    have gn:=Z.neg (AS 1) ((InB.lz (k:=1) (by unfold InB;decide)).mono (by omega))
    rw[AJ]at gn
    refine(Az _ _).trans ?_
    refine(Aa gn _).trans ?_
    simp only[eZ,eN,ND,Ab]
    by_cases hv:mv=AE []
    .rw[if_pos hv]at hT
     have ga:=Z.add (AS out.k) (AS (-1)) (ho.k.lz.mono (by omega)) (hsg.lz.mono (by omega))
     rw[AJ,AJ]at ga
     refine(Dd hv).trans ?_
     refine(Aa ga _).trans ?_
     simp only[eZ,eN,ND,Ab]
     rw[Bn (by omega)]
     refine(Aa (ih (i+1) _ (by omega) (by omega) hoK) _).trans ?_
     rw[←hT]
     clear hT
     cases T<;>rfl
    .rw[if_neg hv]at hT
     refine(El hv).trans ?_
     refine(Aa (Ij Ka vars hvl mv) _).trans ?_
     simp only[ND,Ab]
     cases ev:vars.findIdx? (mv = ·) with
     |none=>
      rw[ev]at hT
      have hT:T=none:=hT
      rw[hT]
      refine(Aq (show (-1:Int)<0 by omega)).trans ?_
      rfl
     |some v=>
      rw[ev]at hT
      have hT:T=DX vars (ms.drop (i+1)) ⟨out.ps++[((v:Int),(-1))],out.k⟩:=hT
      have hlt:=(List.findIdx?_eq_some_iff_getElem.1 ev).1
      refine(Ap (show ¬ ((v:Nat):Int)<0 by omega)).trans ?_
      have hf:Bu ((out.ps.map Bk).length+1) 40=true:=A4 (by omega) (by omega)
      have hb1:Nat.ble (0+(out.ps.map Bk).length*3) (Av eP (out.ps.map Bk)).length=true:=Bg AK _ (by omega)
      have e3:List.drop 0 (List.take (0+(out.ps.map Bk).length*3) (Av eP (out.ps.map Bk)))++[iv (v:Int),bv (AS (-1)).neg,eN (AS (-1)).abs]=Av eP ((out.ps++[((v:Int),((-1):Int))]).map Bk):=by
       rw[List.drop_zero,Bl AK _ (by omega),List.map_append]
       exact Bm eP (out.ps.map Bk) (Bk ((v:Int),(-1)))
      simp only[eN]at e3
      rw[hf]
      refine(Az _ _).trans ?_
      rw[hb1]
      refine(Az _ _).trans ?_
      simp only[EC]
      rw[e3,Bn (by omega)]
      have ih2:=ih (i+1) _ (by omega) (by omega) (hoP (v:Int))
      rw[show ((out.ps++[((v:Int),((-1):Int))]).map Bk).length=(out.ps.map Bk).length+1 by simp]at ih2
      refine(Aa ih2 _).trans ?_
      rw[←hT]
      clear hT
      cases T<;>rfl
   |false=>
    have es:Gc ⟨false,mu,mv⟩=1:=by unfold Gc;rw[en];rfl
    rw[es]at hT hsg hoK hoP
    refine(CM _ _).trans ?_
    by_cases hv:mv=AE []
    .rw[if_pos hv]at hT
     have ga:=Z.add (AS out.k) (AS 1) (ho.k.lz.mono (by omega)) (hsg.lz.mono (by omega))
     rw[AJ,AJ]at ga
     refine(Dd hv).trans ?_
     refine(Aa ga _).trans ?_
     simp only[eZ,eN,ND,Ab]
     rw[Bn (by omega)]
     refine(Aa (ih (i+1) _ (by omega) (by omega) hoK) _).trans ?_
     rw[←hT]
     clear hT
     cases T<;>rfl
    .rw[if_neg hv]at hT
     refine(El hv).trans ?_
     refine(Aa (Ij Ka vars hvl mv) _).trans ?_
     simp only[ND,Ab]
     cases ev:vars.findIdx? (mv = ·) with
     |none=>
      rw[ev]at hT
      have hT:T=none:=hT
      rw[hT]
      refine(Aq (show (-1:Int)<0 by omega)).trans ?_
      rfl
     |some v=>
      rw[ev]at hT
      have hT:T=DX vars (ms.drop (i+1)) ⟨out.ps++[((v:Int),1)],out.k⟩:=hT
      have hlt:=(List.findIdx?_eq_some_iff_getElem.1 ev).1
      refine(Ap (show ¬ ((v:Nat):Int)<0 by omega)).trans ?_
      have hf:Bu ((out.ps.map Bk).length+1) 40=true:=A4 (by omega) (by omega)
      have hb1:Nat.ble (0+(out.ps.map Bk).length*3) (Av eP (out.ps.map Bk)).length=true:=Bg AK _ (by omega)
      have e3:List.drop 0 (List.take (0+(out.ps.map Bk).length*3) (Av eP (out.ps.map Bk)))++[iv (v:Int),bv (AS 1).neg,eN (AS 1).abs]=Av eP ((out.ps++[((v:Int),(1:Int))]).map Bk):=by
       rw[List.drop_zero,Bl AK _ (by omega),List.map_append]
       exact Bm eP (out.ps.map Bk) (Bk ((v:Int),1))
      simp only[eN]at e3
      rw[hf]
      refine(Az _ _).trans ?_
      rw[hb1]
      refine(Az _ _).trans ?_
      simp only[EC]
      rw[e3,Bn (by omega)]
      have ih2:=ih (i+1) _ (by omega) (by omega) (hoP (v:Int))
      rw[show ((out.ps++[((v:Int),(1:Int))]).map Bk).length=(out.ps.map Bk).length+1 by simp]at ih2
      refine(Aa ih2 _).trans ?_
      rw[←hT]
      clear hT
      cases T<;>rfl
  .refine(El hn).trans ?_
   have en:I8 ⟨mn,mu,mv⟩=zv (Fi mu).1:=by unfold I8;rw[if_neg hn]
   have gp:=Z.parse mu
   have hz:=Vs mu
   rw[So mu]at gp hz
   generalize zv (Fi mu).1=u at en gp hz
   refine(Aa gp _).trans ?_
   simp only[eZ,eN,ND,Ab]
   cases mn with
   |true=>
    have es:Gc ⟨true,mu,mv⟩=-u:=by unfold Gc;rw[en];rfl
    rw[es]at hT hsg hoK hoP
    have gn:=Z.neg (AS u) (hz.mono (by omega))
    rw[AJ]at gn
    refine(Az _ _).trans ?_
    refine(Aa gn _).trans ?_
    simp only[eZ,eN,ND,Ab]
    by_cases hv:mv=AE []
    .rw[if_pos hv]at hT
     have ga:=Z.add (AS out.k) (AS (-u)) (ho.k.lz.mono (by omega)) (hsg.lz.mono (by omega))
     rw[AJ,AJ]at ga
     refine(Dd hv).trans ?_
     refine(Aa ga _).trans ?_
     simp only[eZ,eN,ND,Ab]
     rw[Bn (by omega)]
     refine(Aa (ih (i+1) _ (by omega) (by omega) hoK) _).trans ?_
     rw[←hT]
     clear hT
     cases T<;>rfl
    .rw[if_neg hv]at hT
     refine(El hv).trans ?_
     refine(Aa (Ij Ka vars hvl mv) _).trans ?_
     simp only[ND,Ab]
     cases ev:vars.findIdx? (mv = ·) with
     |none=>
      rw[ev]at hT
      have hT:T=none:=hT
      rw[hT]
      refine(Aq (show (-1:Int)<0 by omega)).trans ?_
      rfl
     |some v=>
      rw[ev]at hT
      have hT:T=DX vars (ms.drop (i+1)) ⟨out.ps++[((v:Int),(-u))],out.k⟩:=hT
      have hlt:=(List.findIdx?_eq_some_iff_getElem.1 ev).1
      refine(Ap (show ¬ ((v:Nat):Int)<0 by omega)).trans ?_
      have hf:Bu ((out.ps.map Bk).length+1) 40=true:=A4 (by omega) (by omega)
      have hb1:Nat.ble (0+(out.ps.map Bk).length*3) (Av eP (out.ps.map Bk)).length=true:=Bg AK _ (by omega)
      have e3:List.drop 0 (List.take (0+(out.ps.map Bk).length*3) (Av eP (out.ps.map Bk)))++[iv (v:Int),bv (AS (-u)).neg,eN (AS (-u)).abs]=Av eP ((out.ps++[((v:Int),((-u):Int))]).map Bk):=by
       rw[List.drop_zero,Bl AK _ (by omega),List.map_append]
       exact Bm eP (out.ps.map Bk) (Bk ((v:Int),(-u)))
      simp only[eN]at e3
      rw[hf]
      refine(Az _ _).trans ?_
      rw[hb1]
      refine(Az _ _).trans ?_
      simp only[EC]
      rw[e3,Bn (by omega)]
      have ih2:=ih (i+1) _ (by omega) (by omega) (hoP (v:Int))
      rw[show ((out.ps++[((v:Int),((-u):Int))]).map Bk).length=(out.ps.map Bk).length+1 by simp]at ih2
      refine(Aa ih2 _).trans ?_
      rw[←hT]
      clear hT
      cases T<;>rfl
   |false=>
    have es:Gc ⟨false,mu,mv⟩=u:=by unfold Gc;rw[en];rfl
    rw[es]at hT hsg hoK hoP
    refine(CM _ _).trans ?_
    by_cases hv:mv=AE []
    .rw[if_pos hv]at hT
     have ga:=Z.add (AS out.k) (AS u) (ho.k.lz.mono (by omega)) (hsg.lz.mono (by omega))
     rw[AJ,AJ]at ga
     refine(Dd hv).trans ?_
     refine(Aa ga _).trans ?_
     simp only[eZ,eN,ND,Ab]
     rw[Bn (by omega)]
     refine(Aa (ih (i+1) _ (by omega) (by omega) hoK) _).trans ?_
     rw[←hT]
     clear hT
     cases T<;>rfl
    .rw[if_neg hv]at hT
     refine(El hv).trans ?_
     refine(Aa (Ij Ka vars hvl mv) _).trans ?_
     simp only[ND,Ab]
     cases ev:vars.findIdx? (mv = ·) with
     |none=>
      rw[ev]at hT
      have hT:T=none:=hT
      rw[hT]
      refine(Aq (show (-1:Int)<0 by omega)).trans ?_
      rfl
     |some v=>
      rw[ev]at hT
      have hT:T=DX vars (ms.drop (i+1)) ⟨out.ps++[((v:Int),u)],out.k⟩:=hT
      have hlt:=(List.findIdx?_eq_some_iff_getElem.1 ev).1
      refine(Ap (show ¬ ((v:Nat):Int)<0 by omega)).trans ?_
      have hf:Bu ((out.ps.map Bk).length+1) 40=true:=A4 (by omega) (by omega)
      have hb1:Nat.ble (0+(out.ps.map Bk).length*3) (Av eP (out.ps.map Bk)).length=true:=Bg AK _ (by omega)
      have e3:List.drop 0 (List.take (0+(out.ps.map Bk).length*3) (Av eP (out.ps.map Bk)))++[iv (v:Int),bv (AS u).neg,eN (AS u).abs]=Av eP ((out.ps++[((v:Int),(u:Int))]).map Bk):=by
       rw[List.drop_zero,Bl AK _ (by omega),List.map_append]
       exact Bm eP (out.ps.map Bk) (Bk ((v:Int),u))
      simp only[eN]at e3
      rw[hf]
      refine(Az _ _).trans ?_
      rw[hb1]
      refine(Az _ _).trans ?_
      simp only[EC]
      rw[e3,Bn (by omega)]
      have ih2:=ih (i+1) _ (by omega) (by omega) (hoP (v:Int))
      rw[show ((out.ps++[((v:Int),(u:Int))]).map Bk).length=(out.ps.map Bk).length+1 by simp]at ih2
      refine(Aa ih2 _).trans ?_
      rw[←hT]
      clear hT
      cases T<;>rfl
include Kt Ks C Kta N in
theorem QT(vars:List ByteArray)(hvl:vars.length<4611686018427387904)(ms:List Mo)(hm:∀ m∈ms,WzM m)(hl:ms.length<4611686018427387904) :
  D.ask (.fn 44) [.ls (ms.map Gt),.ls (vars.map eS)] []=some (.tup [.agg (eT (DW vars ms).1.tm),bv (DW vars ms).2],[]):=by
 have gr:=Ez Kta N ms hm hl
 have e0:eT Mr.tm=[.ls [],bv false,.ls []]:=by rw[TZ];rfl
 refine Kfe.fn' Y2 _ rfl ((e44 ..).trans ?_)
 refine(Aa gr _).trans ?_
 simp only[ND,Ab]
 unfold DW
 cases hr:Pm ms with
 |false=>
  refine(CM _ _).trans ?_
  rw[if_neg (by simp),e0]
 |true=>
  have hlen:=(EH hr).2.1
  have gl:=Add Z Kfe Ka vars hvl ms hlen [] false [] _ 0 Mr rfl (by omega) ZO
  rw[List.drop_zero,show AS Mr.k=⟨false,[]⟩ from Ll]at gl
  refine(Az _ _).trans ?_
  rw[if_pos rfl,Ax]
  refine(Aa gl _).trans ?_
  cases e:DX vars ms Mr with
  |none=>
   simp only
   rw[e0]
   rfl
  |some l=>
   have ob:=GO vars ms 0 Mr l ZO e
   have hT:TmB 64 4064 l.tm:=LB.tb ⟨by have:=ob.len;omega,fun p hp=>(ob.ps p hp).mono (by omega),ob.k.mono (by omega)⟩
   have gp:=F5 Kt Ks Z C hT (by omega) (by omega)
   rw[Ge]at gp
   simp only[AhS,ND,Ab]
   change br _ _ _=_
   rw[show Nat.ble (0+(l.ps.map Bk).length*3) (Av eP (l.ps.map Bk)).length=true from Bg AK _ (by omega)]
   refine(Az _ _).trans ?_
   rw[C5 AK _ rfl]
   refine(Aa gp _).trans ?_
   rfl
end
theorem N1:TmB 128 30000 Tm0:=by
 rw[←TZ]
 exact LB.tb ⟨by simp[Mr],by simp[Mr],InB.zero _⟩
theorem OO(vars:List ByteArray):∀(n:Nat) (t:Tr) (d:Nat),SizeOf.sizeOf t<n->BN t d=true->CanF (Cg vars t).1/\FB 128 30000 (Cg vars t).1:=by
 intro n
 induction n with
 |zero=>intro t d h;omega
 |succ n ih=>
  intro t d hn h
  have z0:CanF (kF 0 [])/\FB 128 30000 (kF 0 []):=⟨.tru true,.mk N1 (by simp) (by simp)⟩
  have z1:CanF (N4 false)/\FB 128 30000 (N4 false):=⟨.tru false,.mk N1 (by simp) (by simp)⟩
  cases J2 h with
  |tt=>rw[Cg,if_neg (by decide),B8];exact z0
  |ff=>rw[Cg,if_neg (by decide),B8];exact z1
  |@cmp _ l r op hl hr h1 h2=>
   rw[Cg,if_pos rfl]
   exact⟨X4 _ _ _,Abt (Kc vars l) (Kc vars r) op⟩
  |@no _ x hd hx=>
   have g:=ih x _ (by simp only[Tr.mk.sizeOf_spec,List.cons.sizeOf_spec]at hn;omega) hx
   rw[Cg,if_neg (by decide),B8,B8]
   split
   .exact z0
   .rename_i fs e
    split at e
    .cases e
     rw[if_neg (by decide),if_pos (.inl rfl)]
     exact⟨.no _ g.1,.mk N1 (by simp) fun y hy=>by rw[List.mem_singleton.1 hy];exact g.2⟩
    .cases e
  |@bin _ k x y hk hd hx gd hy=>
   have g:=ih x _ (by simp only[Tr.mk.sizeOf_spec,List.cons.sizeOf_spec]at hn;omega) hx
   have g2:=ih y _ (by simp only[Tr.mk.sizeOf_spec,List.cons.sizeOf_spec]at hn;omega) hy
   rw[Cg,if_neg (by omega),B8,B8,B8]
   split
   .exact z0
   .rename_i fs e
    split at e
    .split at e
     .cases e
     .rename_i gs e2
      split at e2
      .cases e2
       cases e
       rw[if_neg (by omega),if_pos (by omega)]
       have fb:∀ z∈[(Cg vars x).1,(Cg vars y).1],FB 128 30000 z:=fun z hz=>by
        rcases List.mem_cons.1 hz with rfl|hz
        .exact g.2
        .rw[List.mem_singleton.1 hz];exact g2.2
       rcases hk with rfl|rfl
       .exact⟨.and _ (.cons g.1 (.cons g2.1 .nil)),.mk N1 (by simp) fb⟩
       .exact⟨.or _ (.cons g.1 (.cons g2.1 .nil)),.mk N1 (by simp) fb⟩
      .cases e2
    .cases e
def OA(t:Tr)(y0:Int)(y1:List (List AV))(y2:Bool)(y3:List (List AV))(y4:Bool)(y5:List (List AV))(out:List Fm):Option (List Fm)->AV × List BO
 |none=>(.tup [bv true,.ptr 1 0,bv false],[.del,.set ⟨eF (kF 0 []),true,false⟩,.del])
 |some fs=>(.tup [iv 0,.ptr 0 0,.ptr 1 0,.sl 3 0 (out++fs).length 6],[.set (MG t),.set ⟨[iv y0,.ls y1,bv y2,.ls y3,bv y4,.ls y5],true,false⟩,.del,.set (ABlk.mk (Av eF (out++fs)) true true)])
section
variable {D:Orc} (Kt:Knows As J7 D) (Kf:Knows As LO D) (Ks:Knows As Fz D) (Z:ZF D) (C:PartF D) (Ko:Knows As NX D) (Kfe:Knows As Pz D) (Ka:Knows As LN D) (Kta:Knows As GY D) (N:LexN D)
include Kfe
theorem AbK(vars:List ByteArray)(t:Tr)(ks:List Tr)(hl:ks.length<=2)(g:∀ x∈ks,D.ask (.fn 65) [.agg (DI x),.ls (vars.map eS)] []=some (.tup [.agg (eF (Cg vars x).1),bv (Cg vars x).2],[]))(y0:Int)(y1:List (List AV))(y2:Bool)(y3:List (List AV))(y4:Bool)(y5:List (List AV)):∀(k i:Nat) (out:List Fm),ks.length-i=k->i<=ks.length->out.length<=i->
  D.ask (.lp 65 0) [.ls (vars.map eS),.ptr 0 0,.ptr 1 0,.sl 2 0 out.length 6,.ls (ks.map DI),iv (ks.length:Int),iv (i:Int)] [MG t,⟨[iv y0,.ls y1,bv y2,.ls y3,bv y4,.ls y5],true,false⟩,ABlk.mk (Av eF out) true true]=some (OA t y0 y1 y2 y3 y4 y5 out (B8 vars (ks.drop i))):=by
 intro k
 induction k with
 |zero=>
  intro i out hm hi ho
  rw[List.drop_eq_nil_of_le (by omega),B8]
  obtain⟨a1,a2,a3,a4,a5,a6,a7⟩:=t
  refine Kfe.lp' Wu _ rfl (by kernel_rfl) ((AdD ..).trans ?_)
  refine(Ap (by omega)).trans ?_
  simp only[OA,List.append_nil]
  rfl
 |succ k ih=>
  intro i out hm hi ho
  have h1:i<ks.length:=by omega
  have gx:=g ks[i] (List.getElem_mem h1)
  have ih:=fun y=>ih (i+1) (out++[y]) (by omega) (by omega) (by simp;omega)
  have e3:∀ y,List.drop 0 (List.take (0+out.length*6) (Av eF out))++eF y=Av eF (out++[y]):=fun y=>by
   rw[List.drop_zero,Bl FH out (by omega)]
   exact Bm eF out _
  obtain⟨T,hT⟩:∃ T,T=B8 vars (ks.drop i):=⟨_,rfl⟩
  rw[←hT]
  rw[List.drop_eq_getElem_cons h1,B8]at hT
  obtain⟨a1,a2,a3,a4,a5,a6,a7⟩:=t
  refine Kfe.lp' Wu _ rfl (by kernel_rfl) ((AdD ..).trans ?_)
  refine(Aq (by omega)).trans ?_
  rw[AN,AO (List.getElem?_eq_getElem h1)]
  revert gx hT
  generalize ks[i]=x
  intro gx hT
  generalize Cg vars x=q at gx hT
  obtain⟨y,b⟩:=q
  have ih:=ih y
  have e3:=e3 y
  obtain⟨xk,xl,xr,xo,xp,xq,xs⟩:=x
  obtain⟨yk,yt,ye,ys⟩:=y
  simp only[DI,eF,eN,ND,Ab]at gx e3 ⊢
  refine(Aa gx _).trans ?_
  simp only[ND,Ab]
  cases b with
  |false=>
   have hT:T=none:=hT
   rw[hT]
   refine(Az _ _).trans ?_
   simp only[OA,kF,eF]
   rfl
  |true=>
   have hT:T=(match B8 vars (ks.drop (i+1)) with
    |none=>none
    |some fs=>some (Fm.mk yk yt ye ys::fs)):=hT
   refine(CM _ _).trans ?_
   rw[show Bu (out.length+1) 96=true from A4 (by omega) (by omega)]
   refine(Az _ _).trans ?_
   rw[show Nat.ble (0+out.length*6) (Av eF out).length=true from Bg FH out (by omega)]
   refine(Az _ _).trans ?_
   rw[e3,Bn (by omega)]
   rw[show (out++[Fm.mk yk yt ye ys]).length=out.length+1 by simp]at ih
   unfold MG at ih
   rw[DI]at ih
   refine(Aa ih _).trans ?_
   cases e:B8 vars (ks.drop (i+1)) with
   |none=>
    rw[e]at hT
    rw[hT]
    rfl
   |some fs=>
    rw[e]at hT
    rw[hT]
    simp only[OA,List.append_assoc,List.singleton_append,MG,DI]
    rfl
include Kt Kf Ks Z C Ko Ka Kta N in
theorem AbL(vars:List ByteArray)(hvl:vars.length<4611686018427387904):∀(n:Nat) (t:Tr) (d:Nat),SizeOf.sizeOf t<n->BN t d=true->D.ask (.fn 65) [.agg (DI t),.ls (vars.map eS)] []=some (.tup [.agg (eF (Cg vars t).1),bv (Cg vars t).2],[]):=by
 intro n
 induction n with
 |zero=>intro t d h;omega
 |succ n ih=>
  intro t d hn h
  have fin:∀(k:Int) (ks:List Tr),ks.length<=2->t=.mk k [] [] 0 (AE []) (AE []) ks->(∀ x∈ks,∃ d,SizeOf.sizeOf x<n/\BN x d=true)->(k=0/\ks=[]\/k=1/\ks=[]\/(k=3/\ks.length=1)\/k=4\/k=5)->D.ask (.fn 65) [.agg (DI t),.ls (vars.map eS)] []=some (.tup [.agg (eF (Cg vars t).1),bv (Cg vars t).2],[]):=by
   intro k ks hl ht hx hk
   have gl:=AbK Kfe vars t ks hl (fun x hm=>by
    obtain⟨d,h1,h2⟩:=hx x hm
    exact ih x d h1 h2) 0 [] false [] false [] _ 0 [] rfl (by omega) (by simp)
   rw[List.drop_zero]at gl
   have hgood:∀ fs,B8 vars ks=some fs->fs.map BI=fs/\∀ y∈fs,FB 128 30000 y:=by
    clear gl ht hk hl
    intro fs
    induction ks generalizing fs with
    |nil=>intro e;rw[B8]at e;cases e;exact⟨rfl,by simp⟩
    |cons x r ihr=>
     intro e
     rw[B8]at e
     split at e
     .split at e
      .cases e
      .rename_i gs e2
       cases e
       obtain⟨d,h1,h2⟩:=hx x (List.mem_cons_self ..)
       have g:=OO vars _ x d (Nat.lt_succ_self _) h2
       obtain⟨g1,g2⟩:=ihr (fun y hy=>hx y (List.mem_cons_of_mem _ hy)) gs e2
       refine⟨by rw[List.map_cons,g.1.clone,g1],fun y hy=>?_⟩
       rcases List.mem_cons.1 hy with rfl|hy
       .exact g.2
       .exact g2 y hy
     .cases e
   have hfl:∀ fs,B8 vars ks=some fs->fs.length=ks.length:=by
    clear gl ht hk hl hgood
    intro fs
    induction ks generalizing fs with
    |nil=>intro e;rw[B8]at e;cases e;rfl
    |cons x r ihr=>
     intro e
     rw[B8]at e
     split at e
     .split at e
      .cases e
      .rename_i gs e2
       cases e
       rw[List.length_cons,List.length_cons,ihr (fun y hy=>hx y (List.mem_cons_of_mem _ hy)) gs e2]
     .cases e
   subst ht
   have hk2:k≠2:=by omega
   unfold MG at gl
   rw[DI,Cw]at gl
   refine Kfe.fn' Wu _ rfl ((e65 ..).trans ?_)
   refine(AA hk2).trans ?_
   rw[Cw,Ax]
   rw[Cg,if_neg hk2]
   refine(Aa gl _).trans ?_
   cases e:B8 vars ks with
   |none=>
    simp only[OA,kF,eF]
    rfl
   |some fs=>
    obtain⟨g1,g2⟩:=hgood fs e
    have g3:=hfl fs e
    have hch:BF ([]++fs).length 6 (List.take (([]++fs).length*6) (Av eF ([]++fs)))=fs.map eF:=by
     rw[List.nil_append]
     exact C5 FH fs rfl
    have hble:Nat.ble (0+([]++fs).length*6) (Av eF ([]++fs)).length=true:=by
     rw[List.nil_append]
     exact Bg FH fs (by omega)
    have hb:MG (.mk k [] [] 0 (AE []) (AE []) ks)=ABlk.mk [iv k,.ls ([]:List (List AV)),.ls ([]:List (List AV)),iv 0,sv (AE []),sv (AE []),.ls (ks.map DI)] true false:=by
     unfold MG
     rw[DI,Cw]
     rfl
    simp only[OA]
    rw[hb]
    simp only[ND,Ab]
    by_cases h0:k=0
    .rw[if_pos h0]
     refine(AQ h0).trans ?_
     refine(Aa (Gf Ko true) _).trans ?_
     rfl
    rw[if_neg h0]
    refine(AA h0).trans ?_
    by_cases h3:k=3
    .rw[if_pos (.inl h3)]
     refine(AQ h3).trans ?_
     have hl1:fs.length=1:=by
      rw[g3]
      rcases hk with h|h|h|h|h
      .omega
      .omega
      .exact h.2
      .omega
      .omega
     match fs,hl1,g1,g2 with
     |[y],_,g1,g2=>
      have gd:=UP Kt Ks Z C Ko (n:=128) (k:=30000) (by omega) (by omega) (g2 y (List.mem_singleton_self _))
      have g1:BI y=y:=by simpa using g1
      rw[g1]at gd
      refine(Az _ _).trans ?_
      refine(Bx FH [y] 0 (by simp) _).trans ?_
      rw[h3]
      show _=some (AV.tup [AV.agg (eF (kF 3 [y])),bv true],[])
      have e0:([y]:List Fm)[0]=y:=rfl
      rw[e0]
      obtain⟨yk,yt,ye,ys⟩:=y
      simp only[eF,eN,ND,Ab]at gd ⊢
      refine(Aa gd _).trans ?_
      unfold kF
      rw[eF,eFs,eFs,eF]
      rfl
    refine(AA h3).trans ?_
    by_cases h4:k=4
    .rw[if_pos (.inr (.inl h4)),h4]
     have ga:=Aa4 Kt Ks Z C Ko (n:=128) (k:=30000) (by omega) (by omega) (l:=fs) (by omega) g2
     rw[g1]at ga
     refine(AQ rfl).trans ?_
     rw[hble]
     refine(Az _ _).trans ?_
     rw[hch]
     refine(Aa ga _).trans ?_
     unfold kF
     rw[eF]
     rfl
    refine(AA h4).trans ?_
    by_cases h5:k=5
    .rw[if_pos (.inr (.inr h5)),h5]
     have ga:=Abm Kt Ks Z C Ko (n:=128) (k:=30000) (by omega) (by omega) (l:=fs) (by omega) g2
     rw[g1]at ga
     refine(AQ rfl).trans ?_
     rw[hble]
     refine(Az _ _).trans ?_
     rw[hch]
     refine(Aa ga _).trans ?_
     unfold kF
     rw[eF]
     rfl
    rw[if_neg (by omega)]
    refine(AA h5).trans ?_
    refine(Aa (Gf Ko false) _).trans ?_
    rfl
  cases J2 h with
  |tt=>exact fin 0 [] (by simp) rfl (by simp) (.inl ⟨rfl,rfl⟩)
  |ff=>exact fin 1 [] (by simp) rfl (by simp) (.inr (.inl ⟨rfl,rfl⟩))
  |@no _ x hd hx=>
   exact fin 3 [x] (by simp) rfl (fun y hy=>by
    rw[List.mem_singleton.1 hy]
    exact⟨_,by simp only[Tr.mk.sizeOf_spec,List.cons.sizeOf_spec]at hn;omega,hx⟩) (.inr (.inr (.inl ⟨rfl,rfl⟩)))
  |@bin _ k x y hk hd hx gd hy=>
   exact fin k [x,y] (by simp) rfl (fun z hz=>by
    simp only[Tr.mk.sizeOf_spec,List.cons.sizeOf_spec]at hn
    rcases List.mem_cons.1 hz with rfl|hz
    .exact⟨_,by omega,hx⟩
    .rw[List.mem_singleton.1 hz]
     exact⟨_,by omega,hy⟩) (by omega)
  |@cmp _ l r op hl hr h1 h2=>
   have gl:=QT Kt Ks Z C Kfe Ka Kta N vars hvl l (Pn hl).2 (Pn hl).1
   have gr:=QT Kt Ks Z C Kfe Ka Kta N vars hvl r (Pn hr).2 (Pn hr).1
   have gc:=Abu Kt Kf Ks Z C Ko (Kc vars l).tb (Kc vars r).tb op
   rw[Ge,Ge]at gc
   rw[Cg,if_pos rfl]
   refine Kfe.fn' Wu _ rfl ((e65 ..).trans ?_)
   refine(AQ rfl).trans ?_
   refine(Aa gl _).trans ?_
   simp only[eT,eN,ND,Ab]
   refine(Aa gr _).trans ?_
   simp only[eT,eN,ND,Ab]
   refine(Aa gc _).trans ?_
   generalize Ok op (DW vars l).1 (DW vars r).1=y
   obtain⟨yk,yt,ye,ys⟩:=y
   rw[eF]
   cases (DW vars l).2<;>cases (DW vars r).2<;>rfl
def Rq(vars:List ByteArray)(t:Tr):Fm × Bool:=if BN t 0&&(Cg vars t).2 then((Cg vars t).1,true) else(N4 false,false)
include Kt Kf Ks Z C Ko Ka Kta N in
theorem UA(vars:List ByteArray)(hvl:vars.length<4611686018427387904)(t:Tr)(hz:WzT t):D.ask (.fn 27) [.agg (DI t),.ls (vars.map eS)] []=some (.tup [.agg (eF (Rq vars t).1),bv (Rq vars t).2],[]):=by
 have gr:=Q6 Kta N t hz
 have gf:=fun h=>AbL Kt Kf Ks Z C Ko Kfe Ka Kta N vars hvl _ t 0 (Nat.lt_succ_self _) h
 have gt:=Gf Ko false
 unfold Rq
 obtain⟨q,hq⟩:∃ q,q=Cg vars t:=⟨_,rfl⟩
 rw[←hq]at gf ⊢
 obtain⟨f,b⟩:=q
 obtain⟨fk,ft,fe,fs⟩:=f
 obtain⟨tk,tl,tr,to,tp,tq,ts⟩:=t
 refine Kfe.fn' Aib _ rfl ((e27 ..).trans ?_)
 cases hr:BN (.mk tk tl tr to tp tq ts) 0 with
 |false=>
  rw[hr]at gr
  simp only[DI,eN,ND,Ab]at gr ⊢
  refine(Aa gr _).trans ?_
  simp only[ND,Ab]
  refine(Aa gt _).trans ?_
  rfl
 |true=>
  rw[hr]at gr
  have gf:=gf hr
  simp only[DI,eF,eN,ND,Ab]at gr gf ⊢
  refine(Aa gr _).trans ?_
  simp only[ND,Ab]
  refine(Aa gf _).trans ?_
  simp only[ND,Ab]
  cases b with
  |true=>
   refine(CM _ _).trans ?_
   simp only[Bool.and_self,if_true]
   rw[eF]
   rfl
  |false=>
   refine(Az _ _).trans ?_
   refine(Aa gt _).trans ?_
   rfl
end
theorem QC(x:Nat)(h:x<18446744073709551616):Ao.quo .u64 (x:Int) 4294967296=((x / 4294967296:Nat):Int):=by
 show IntKind.u64.wrap ((x:Int).tdiv 4294967296)=_
 have:(x:Int).tdiv 4294967296=((x / 4294967296:Nat):Int):=rfl
 rw[this,IntKind.wrap_u64]
 omega
theorem QD(x:Nat):Ao.rem .u64 (x:Int) 4294967296=((x % 4294967296:Nat):Int):=by
 show (x:Int).tmod 4294967296=_
 rfl
theorem Xl(l:List Nat)(n:Nat):(Av eL l).take n=Av eL (l.take n):=by rw[GJ,GJ,List.map_take]
theorem Tg(l:List Nat)(n:Nat)(h:n<=l.length):BF n 1 ((Av eL l).take (n*1))=(l.take n).map eL:=by
 rw[Nat.mul_one,Xl]
 have:=CW A3 (l.take n)
 rwa [List.length_take,Nat.min_eq_left h]at this
theorem KO(l:List Nat)(i:Nat):(l.drop i).headD 0=l.getD i 0:=by
 rw[List.getD_eq_getElem?_getD]
 by_cases h:i<l.length
 .rw[List.drop_eq_getElem_cons h,List.getElem?_eq_getElem h];rfl
 .rw[List.drop_eq_nil_of_le (by omega),List.getElem?_eq_none (by omega)];rfl
theorem Mf{l:List Nat}(h:Limbs l)(i:Nat):l.getD i 0<4294967296:=by
 rw[←KO]
 exact E0 (h.drop i)
def D0(n:Nat)(l:List Nat):List Nat:=l++List.replicate (n-l.length) 0
theorem Adl(n:Nat):Ai (List.replicate n 0)=0:=by
 induction n with
 |zero=>rfl
 |succ n ih=>rw[List.replicate_succ,Ai,ih]
theorem Gg(n:Nat)(l:List Nat):Ai (D0 n l)=Ai l:=by
 unfold D0
 rw[Fc,Adl]
 omega
theorem DN{n:Nat}{l:List Nat}(h:l.length<=n):(D0 n l).length=n:=by
 unfold D0
 rw[List.length_append,List.length_replicate]
 omega
theorem Ef{n:Nat}{l:List Nat}(h:Limbs l):Limbs (D0 n l):=OZ h fun x hx=>by
 rw[(List.mem_replicate.1 hx).2]
 omega
theorem JR{n i:Nat}{l:List Nat}(h:l.length<=n)(hi:i<n):(D0 n l)[i]'(by rw[DN h];exact hi)=l.getD i 0:=by
 rw[List.getD_eq_getElem?_getD]
 unfold D0
 by_cases h2:i<l.length
 .rw[List.getElem_append_left h2,List.getElem?_eq_getElem h2];rfl
 .rw[List.getElem_append_right (by omega),List.getElem_replicate,List.getElem?_eq_none (by omega)];rfl
section
variable {D:Orc} (K:Knows As NZ D)
include K
theorem Z9(l:List Nat)(hl:CB l):∀(k i:Nat) (out:List Nat),l.length-i=k->out.length+k<=2000000000->D.ask (.lp 177 0) [eN l,.sl 0 0 out.length 1,iv (i:Int)] [ABlk.mk (Av eL out) true true]
  = some (.tup [iv 0,.sl 1 0 (out++l.drop i).length 1],[.del,.set (ABlk.mk (Av eL (out++l.drop i)) true true)]):=by
 intro k
 unfold CB at hl
 induction k with
 |zero=>
  intro i out hi ho
  refine K.lp' Lu _ rfl (by kernel_rfl) ((Yl ..).trans ?_)
  rw[Ax,show l.drop i=[] from List.drop_eq_nil_of_le (by omega),List.append_nil]
  refine(Ap (by omega)).trans ?_
  rfl
 |succ k ih=>
  intro i out hi ho
  have hlt:i<l.length:=by omega
  have ih':=ih (i+1) (out++[l[i]]) (by omega) (by simp;omega)
  rw[List.append_assoc,List.length_append,List.length_singleton]at ih'
  refine K.lp' Lu _ rfl (by kernel_rfl) ((Yl ..).trans ?_)
  rw[Ax,List.drop_eq_getElem_cons hlt]
  refine(Aq (by omega)).trans ?_
  rw[AN,AO (List.getElem?_eq_getElem hlt)]
  have hf:Bu (out.length+1) 4=true:=A4 (by omega) (by omega)
  have hb1:Nat.ble (0+out.length*1) (Av eL out).length=true:=Bg A3 out (by omega)
  have e3:∀ s:Nat,List.drop 0 (List.take (0+out.length*1) (Av eL out))++[.v (.int .u32 (s:Int))]=Av eL (out++[s]):=fun s=>by
   rw[List.drop_zero,Bl A3 out (by omega)]
   exact Bm eL out s
  simp only[eL,Fe,ND,Ab]
  rw[Bn (by omega),hf,hb1,e3]
  refine(Az _ _).trans ?_
  refine(Az _ _).trans ?_
  refine(Aa ih' _).trans ?_
  rfl
theorem Aaa(l:List Nat)(hl:CB l):∀(n:Nat),n<=l.length->C1 l<=n->D.ask (.lp 177 1) [.sl 0 0 n 1] [ABlk.mk (Av eL l) true true]=some (.tup [iv 2,.sl 1 0 (C1 l) 1],[.del,.set (ABlk.mk (Av eL l) true true)]):=by
 intro n
 unfold CB at hl
 induction n with
 |zero=>
  intro _ ht
  refine K.lp' Lu _ rfl (by kernel_rfl) ((Ym ..).trans ?_)
  refine(Ap (by omega)).trans ?_
  rw[show C1 l=0 by omega]
 |succ n ih=>
  intro hn ht
  refine K.lp' Lu _ rfl (by kernel_rfl) ((Ym ..).trans ?_)
  refine(Aq (by omega)).trans ?_
  rw[show Ao.sub .i64 ((n+1:Nat):Int) 1=(n:Int) from (AkU (i:=n+1) (j:=1) (by omega) (by omega)).trans (by simp)]
  rw[AN,BD (Nat.lt_succ_self n)]
  refine(Az _ _).trans ?_
  refine(ZY l n (by omega) _).trans ?_
  simp only[Fe,ND,Ab]
  by_cases h0:l[n]=0
  .refine(AQ (by rw[h0];rfl)).trans ?_
   rw[AN,show JG 0 n (n+1)=true by unfold JG;rw[show Nat.ble 0 n=true by simp];simp]
   refine(Az _ _).trans ?_
   refine(Aa (ih (by omega) (PE ht (by rw[List.getElem?_eq_getElem (show n<l.length by omega),h0]))) _).trans ?_
   rfl
  .refine(AA (by omega)).trans ?_
   have:=QU (List.getElem?_eq_getElem (show n<l.length by omega)) h0
   rw[show C1 l=n+1 by omega]
theorem E7{l:List Nat}(hl:CB l)(h:Limbs l):D.ask (.fn 177) [eN l] []=some (eN (AZ (Ai l)),[]):=by
 have hs:=hl
 unfold CB at hs
 refine K.fn' Lu _ rfl ((AlV ..).trans ?_)
 have g:=Z9 K l hl l.length 0 [] rfl (by simp;omega)
 rw[List.nil_append,List.drop_zero]at g
 refine(Aa g _).trans ?_
 simp only[ND,Ab]
 refine(Aa (Aaa K l hl l.length (Nat.le_refl _) (DY l)) _).trans ?_
 simp only[ND,Ab]
 have ht:=DY l
 rw[show Nat.ble (0+C1 l*1) (Av eL l).length=true by rw[By A3];simp;omega]
 refine(Az _ _).trans ?_
 rw[Tg l _ ht,J9 h]
 rfl
theorem FZ(a b:List Nat):D.ask (.fn 226) [eN a,eN b] []=some (iv ((max a.length b.length:Nat):Int),[]):=by
 refine K.fn' Aeo _ rfl ((Amg ..).trans ?_)
 rw[Ax,Ax]
 by_cases h:b.length<a.length
 .refine(Aq (by omega)).trans ?_
  rw[show max a.length b.length=a.length by omega]
 .refine(Ap (by omega)).trans ?_
  rw[show max a.length b.length=b.length by omega]
theorem GF{a:List Nat}(ha:Limbs a)(i:Nat):D.ask (.fn 227) [eN a,iv (i:Int)] []=some (.v (.int .u64 (a.getD i 0:Int)),[]):=by
 refine K.fn' Aep _ rfl ((Amh ..).trans ?_)
 rw[Ax,List.getD_eq_getElem?_getD]
 refine(Ap (by omega)).trans ?_
 by_cases h:i<a.length
 .refine(C4 (by omega)).trans ?_
  have hx:=ha.get h
  rw[AN,AO (List.getElem?_eq_getElem h),List.getElem?_eq_getElem h]
  simp only[eL,Fe,ND,Ab]
  rw[B1 (by omega)]
  rfl
 .refine(CN (by omega)).trans ?_
  rw[List.getElem?_eq_none (by omega)]
  rfl
theorem AcH{a b:List Nat}(ha:Limbs a)(hb:Limbs b)(m:Nat)(hma:a.length<=m)(hmb:b.length<=m)(hm:m<=1000000000):∀(n:Nat),n<=m->D.ask (.lp 229 0) [eN a,eN b,iv ((n:Int)-1)] []
  = some (if Dv (Ai ((D0 m a).take n)) (Ai ((D0 m b).take n))=0 then .tup [iv 0] else .tup [bv true,iv (Dv (Ai ((D0 m a).take n)) (Ai ((D0 m b).take n)))],[]):=by
 intro n
 induction n with
 |zero=>
  intro _
  refine K.lp' RQ _ rfl (by kernel_rfl) ((Yz ..).trans ?_)
  refine(C4 (by omega)).trans ?_
  rfl
 |succ n ih=>
  intro hn
  refine K.lp' RQ _ rfl (by kernel_rfl) ((Yz ..).trans ?_)
  rw[show (((n+1:Nat):Int)-1)=(n:Int) by omega]
  refine(CN (by omega)).trans ?_
  have h1:n<(D0 m a).length:=by rw[DN hma];omega
  have h2:n<(D0 m b).length:=by rw[DN hmb];omega
  have e1:(D0 m a).take (n+1)=(D0 m a).take n++[a.getD n 0]:=by rw[List.take_succ_eq_append_getElem h1,JR hma (by omega)]
  have e2:(D0 m b).take (n+1)=(D0 m b).take n++[b.getD n 0]:=by rw[List.take_succ_eq_append_getElem h2,JR hmb (by omega)]
  rw[e1,e2,Rh ((Ef ha).take n) ((Ef hb).take n) (by simp;omega)]
  refine(Aa (GF K ha n) _).trans ?_
  simp only[QY,ND,Ab]
  refine(Aa (GF K hb n) _).trans ?_
  simp only[QY,ND,Ab]
  by_cases h3:a.getD n 0<b.getD n 0
  .refine(Aq (by omega)).trans ?_
   rw[if_pos h3]
   rfl
  .refine(Ap (by omega)).trans ?_
   rw[if_neg h3]
   refine(Aa (GF K ha n) _).trans ?_
   simp only[QY,ND,Ab]
   refine(Aa (GF K hb n) _).trans ?_
   simp only[QY,ND,Ab]
   by_cases h4:b.getD n 0<a.getD n 0
   .refine(Aq (by omega)).trans ?_
    rw[if_pos h4]
    rfl
   .refine(Ap (by omega)).trans ?_
    rw[if_neg h4]
    rw[show Ao.sub .i64 (n:Int) 1=(n:Int)-1 from F6 (by omega) (by omega)]
    refine(Aa (ih (by omega)) _).trans ?_
    by_cases h5:Dv (Ai ((D0 m a).take n)) (Ai ((D0 m b).take n))=0
    .rw[if_pos h5];rfl
    .rw[if_neg h5];rfl
theorem AcI{a b:List Nat}(hsa:CB a)(ha:Limbs a)(hsb:CB b)(hb:Limbs b):D.ask (.fn 229) [eN a,eN b] []=some (iv (Dv (Ai a) (Ai b)),[]):=by
 unfold CB at hsa hsb
 refine K.fn' RQ _ rfl ((Amj ..).trans ?_)
 refine(Aa (FZ K a b) _).trans ?_
 simp only[ND,Ab]
 rw[show Ao.sub .i64 ((max a.length b.length:Nat):Int) 1=((max a.length b.length:Nat):Int)-1 from F6 (by omega) (by omega)]
 have g:=AcH K ha hb (max a.length b.length) (by omega) (by omega) (by omega) (max a.length b.length) (Nat.le_refl _)
 rw[List.take_of_length_le (by rw[DN (by omega)];omega),List.take_of_length_le (by rw[DN (by omega)];omega),Gg,Gg]at g
 refine(Aa g _).trans ?_
 by_cases h5:Dv (Ai a) (Ai b)=0
 .rw[if_pos h5,h5];rfl
 .rw[if_neg h5];rfl
theorem AcG{a b:List Nat}(ha:Limbs a)(hb:Limbs b)(hm:max a.length b.length<=1000000000):∀(k i:Nat) (out:List Nat) (c:Nat),max a.length b.length+1-i=k->c<=1->out.length+k<=2000000000->
  D.ask (.lp 181 0) [eN a,eN b,.sl 0 0 out.length 1,.v (.int .u64 (c:Int)),iv (i:Int)] [ABlk.mk (Av eL out) true true]
   = some (.tup [iv 0,.sl 1 0 (out++LX k c (a.drop i) (b.drop i)).length 1],[.del,.set (ABlk.mk (Av eL (out++LX k c (a.drop i) (b.drop i))) true true)]):=by
 intro k
 induction k with
 |zero=>
  intro i out c hi hc ho
  refine K.lp' RL _ rfl (by kernel_rfl) ((Yo ..).trans ?_)
  refine(Aa (FZ K a b) _).trans ?_
  simp only[ND,Ab]
  refine(C4 (by omega)).trans ?_
  rw[LX,List.append_nil]
 |succ k ih=>
  intro i out c hi hc ho
  have h1:=Mf ha i
  have h2:=Mf hb i
  have ih':=ih (i+1) (out++[(a.getD i 0+b.getD i 0+c) % 4294967296]) ((a.getD i 0+b.getD i 0+c) / 4294967296) (by omega) (by omega) (by simp;omega)
  rw[List.append_assoc,List.length_append,List.length_singleton]at ih'
  refine K.lp' RL _ rfl (by kernel_rfl) ((Yo ..).trans ?_)
  refine(Aa (FZ K a b) _).trans ?_
  simp only[ND,Ab]
  refine(CN (by omega)).trans ?_
  refine(Aa (GF K ha i) _).trans ?_
  simp only[QY,ND,Ab]
  refine(Aa (GF K hb i) _).trans ?_
  simp only[QY,ND,Ab]
  refine(AA (by decide)).trans ?_
  have hf:Bu (out.length+1) 4=true:=A4 (by omega) (by omega)
  have hb1:Nat.ble (0+out.length*1) (Av eL out).length=true:=Bg A3 out (by omega)
  have e3:∀ s:Nat,List.drop 0 (List.take (0+out.length*1) (Av eL out))++[.v (.int .u32 (s:Int))]=Av eL (out++[s]):=fun s=>by
   rw[List.drop_zero,Bl A3 out (by omega)]
   exact Bm eL out s
  rw[C3 (by omega),C3 (by omega),QD,QC _ (by omega),BH (Nat.mod_lt _ (by omega)),Bn (by omega),hf,hb1,e3]
  refine(Az _ _).trans ?_
  refine(Az _ _).trans ?_
  refine(AA (by decide)).trans ?_
  refine(Aa ih' _).trans ?_
  rw[LX,KO,KO,List.tail_drop,List.tail_drop]
  rfl
theorem Io{a b:List Nat}(hsa:a.length<=999999999)(ha:Limbs a)(hsb:b.length<=999999999)(hb:Limbs b):D.ask (.fn 181) [eN a,eN b] []=some (eN (AZ (Ai a+Ai b)),[]):=by
 refine K.fn' RL _ rfl ((AlZ ..).trans ?_)
 have g:=AcG K ha hb (by omega) (max a.length b.length+1) 0 [] 0 rfl (by omega) (by simp;omega)
 rw[List.nil_append,List.drop_zero,List.drop_zero]at g
 refine(Aa g _).trans ?_
 simp only[ND,Ab]
 rw[Bg A3 _ (by omega)]
 refine(Az _ _).trans ?_
 rw[C5 A3 _ rfl]
 have hlen:∀(k c:Nat) (a b:List Nat),(LX k c a b).length=k:=fun k=>by
  induction k with
  |zero=>intro c a b;rfl
  |succ k ih=>intro c a b;rw[LX,List.length_cons,ih]
 have gt:=E7 K (l:=LX (max a.length b.length+1) 0 a b) (by unfold CB;rw[hlen];omega) (Mv _ _ _ _)
 rw[PG]at gt
 have h1:=CQ ha
 have h2:=CQ hb
 have p1:4294967296 ^ a.length<=4294967296 ^ (max a.length b.length):=Nat.pow_le_pow_right (by omega) (by omega)
 have p2:4294967296 ^ b.length<=4294967296 ^ (max a.length b.length):=Nat.pow_le_pow_right (by omega) (by omega)
 rw[Nat.mod_eq_of_lt (by rw[Nat.pow_succ];omega),Nat.zero_add]at gt
 refine(Aa gt _).trans ?_
 rfl
theorem AcK{a b:List Nat}(ha:Limbs a)(hb:Limbs b)(m:Nat)(hma:max a.length b.length=m)(hm:m<=1000000000):∀(k i:Nat) (out:List Nat) (c:Nat),m-i=k->c<=1->out.length+k<=2000000000->
  D.ask (.lp 184 0) [eN a,eN b,.sl 0 0 out.length 1,.v (.int .u64 (c:Int)),iv (i:Int)] [ABlk.mk (Av eL out) true true]
   = some (.tup [iv 0,.sl 1 0 (out++GL c ((D0 m a).drop i) ((D0 m b).drop i)).length 1],[.del,.set (ABlk.mk (Av eL (out++GL c ((D0 m a).drop i) ((D0 m b).drop i))) true true)]):=by
 intro k
 have la:=DN (n:=m) (l:=a) (by omega)
 have lb:=DN (n:=m) (l:=b) (by omega)
 induction k with
 |zero=>
  intro i out c hi hc ho
  refine K.lp' RM _ rfl (by kernel_rfl) ((Yr ..).trans ?_)
  refine(Aa (FZ K a b) _).trans ?_
  simp only[ND,Ab]
  refine(Ap (by omega)).trans ?_
  rw[show (D0 m a).drop i=[] from List.drop_eq_nil_of_le (by omega),GL,List.append_nil]
 |succ k ih=>
  intro i out c hi hc ho
  have h1:=Mf ha i
  have h2:=Mf hb i
  have ia:i<(D0 m a).length:=by omega
  have ib:i<(D0 m b).length:=by omega
  rw[List.drop_eq_getElem_cons ia,JR (by omega) (by omega),List.drop_eq_getElem_cons ib,JR (by omega) (by omega),GL,List.headD_cons,List.tail_cons]
  refine K.lp' RM _ rfl (by kernel_rfl) ((Yr ..).trans ?_)
  refine(Aa (FZ K a b) _).trans ?_
  simp only[ND,Ab]
  refine(Aq (by omega)).trans ?_
  refine(Aa (GF K ha i) _).trans ?_
  simp only[QY,ND,Ab]
  refine(Aa (GF K hb i) _).trans ?_
  simp only[QY,ND,Ab]
  refine(AA (by decide)).trans ?_
  have hf:Bu (out.length+1) 4=true:=A4 (by omega) (by omega)
  have hb1:Nat.ble (0+out.length*1) (Av eL out).length=true:=Bg A3 out (by omega)
  have e3:∀ s:Nat,List.drop 0 (List.take (0+out.length*1) (Av eL out))++[.v (.int .u32 (s:Int))]=Av eL (out++[s]):=fun s=>by
   rw[List.drop_zero,Bl A3 out (by omega)]
   exact Bm eL out s
  rw[show (4294967296:Int)=((4294967296:Nat):Int) from rfl,C3 (by omega),GG (by omega) (by omega),GG (by omega) (by omega)]
  rw[show ((4294967296:Nat):Int)=(4294967296:Int) from rfl,QD,QC _ (by omega),BH (Nat.mod_lt _ (by omega)),Bn (by omega),show (1:Int)=((1:Nat):Int) from rfl,GG (by omega) (by omega),hf,hb1,e3]
  refine(Az _ _).trans ?_
  refine(Az _ _).trans ?_
  refine(AA (by decide)).trans ?_
  by_cases hlt:a.getD i 0<b.getD i 0+c
  .rw[if_pos hlt,if_pos hlt]
   have ih':=ih (i+1) (out++[a.getD i 0+4294967296-(b.getD i 0+c)]) 1 (by omega) (by omega) (by simp;omega)
   rw[List.append_assoc,List.length_append,List.length_singleton]at ih'
   rw[show (a.getD i 0+4294967296-b.getD i 0-c) % 4294967296=a.getD i 0+4294967296-(b.getD i 0+c) by omega,show 1-(a.getD i 0+4294967296-b.getD i 0-c) / 4294967296=1 by omega]
   refine(Aa ih' _).trans ?_
   rfl
  .rw[if_neg hlt,if_neg hlt]
   have ih':=ih (i+1) (out++[a.getD i 0-(b.getD i 0+c)]) 0 (by omega) (by omega) (by simp;omega)
   rw[List.append_assoc,List.length_append,List.length_singleton]at ih'
   rw[show (a.getD i 0+4294967296-b.getD i 0-c) % 4294967296=a.getD i 0-(b.getD i 0+c) by omega,show 1-(a.getD i 0+4294967296-b.getD i 0-c) / 4294967296=0 by omega]
   refine(Aa ih' _).trans ?_
   rfl
theorem Vx{a b:List Nat}(hsa:CB a)(ha:Limbs a)(hsb:CB b)(hb:Limbs b):D.ask (.fn 184) [eN a,eN b] []=some (MR (Ai a) (Ai b),[]):=by
 have s1:=hsa
 have s2:=hsb
 unfold CB at s1 s2
 refine K.fn' RM _ rfl ((Al2 ..).trans ?_)
 refine(Aa (AcI K hsa ha hsb hb) _).trans ?_
 simp only[ND,Ab]
 unfold MR
 by_cases h1:Ai a<Ai b
 .rw[show Dv (Ai a) (Ai b)=-1 by unfold Dv;rw[if_pos h1]]
  refine(Aq (by decide)).trans ?_
  rw[if_neg (by omega)]
  rfl
 .refine(Ap (by unfold Dv;rw[if_neg h1];split<;>omega)).trans ?_
  rw[if_pos (by omega)]
  have la:=DN (n:=max a.length b.length) (l:=a) (by omega)
  have lb:=DN (n:=max a.length b.length) (l:=b) (by omega)
  have g:=AcK K ha hb (max a.length b.length) rfl (by omega) (max a.length b.length) 0 [] 0 (by omega) (by omega) (by simp;omega)
  rw[List.nil_append,List.drop_zero,List.drop_zero]at g
  refine(Aa g _).trans ?_
  simp only[ND,Ab]
  rw[Bg A3 _ (by omega)]
  refine(Az _ _).trans ?_
  rw[C5 A3 _ rfl]
  have gt:=E7 K (l:=GL 0 (D0 (max a.length b.length) a) (D0 (max a.length b.length) b)) (by unfold CB;rw[J5];omega) (GM _ _ _ (Ef ha) (Ef hb) (by omega))
  rw[SW (Ef ha) (Ef hb) (by omega) (by rw[Gg,Gg];omega),Gg,Gg]at gt
  refine(Aa gt _).trans ?_
  rfl
theorem W5{a:List Nat}(ha:Limbs a)(hs:CB a)(m:Nat)(hm:m<4294967296):∀(k i:Nat) (out:List Nat) (c:Nat),a.length-i=k->i<=a.length->c<4294967296->out.length+k<=2000000000->
  ∃(o:List Nat) (c':Nat),D.ask (.lp 228 0) [eN a,.v (.int .u64 (m:Int)),.sl 0 0 out.length 1,.v (.int .u64 (c:Int)),iv (i:Int)] [ABlk.mk (Av eL out) true true]
   = some (.tup [iv 0,.sl 1 0 o.length 1,.v (.int .u64 (c':Int))],[.del,.set (ABlk.mk (Av eL o) true true)])/\c'<4294967296/\o++[c']=out++DS m c (a.drop i):=by
 intro k
 unfold CB at hs
 induction k with
 |zero=>
  intro i out c hi hle hc ho
  refine⟨out,c,?_,hc,?_⟩
  .refine K.lp' RP _ rfl (by kernel_rfl) ((Yy ..).trans ?_)
   rw[Ax]
   refine(Ap (by omega)).trans ?_
   rfl
  .rw[show a.drop i=[] from List.drop_eq_nil_of_le (by omega)]
   rfl
 |succ k ih=>
  intro i out c hi hle hc ho
  have hlt:i<a.length:=by omega
  have hx:=ha.get hlt
  have hp:=Nu hx hm
  have hg:a.getD i 0=a[i]:=by rw[List.getD_eq_getElem?_getD,List.getElem?_eq_getElem hlt];rfl
  obtain⟨o,c',h1,h2,h3⟩:=ih (i+1) (out++[(a[i]*m+c) % 4294967296]) ((a[i]*m+c) / 4294967296) (by omega) (by omega) (by omega) (by simp;omega)
  refine⟨o,c',?_,h2,?_⟩
  .refine K.lp' RP _ rfl (by kernel_rfl) ((Yy ..).trans ?_)
   rw[Ax]
   refine(Aq (by omega)).trans ?_
   refine(Aa (GF K ha i) _).trans ?_
   simp only[QY,ND,Ab,hg]
   refine(AA (by decide)).trans ?_
   have hf:Bu (out.length+1) 4=true:=A4 (by omega) (by omega)
   have hb1:Nat.ble (0+out.length*1) (Av eL out).length=true:=Bg A3 out (by omega)
   have e3:∀ s:Nat,List.drop 0 (List.take (0+out.length*1) (Av eL out))++[.v (.int .u32 (s:Int))]=Av eL (out++[s]):=fun s=>by
    rw[List.drop_zero,Bl A3 out (by omega)]
    exact Bm eL out s
   rw[List.length_append,List.length_singleton]at h1
   rw[QB (by omega),C3 (by omega),QD,QC _ (by omega),BH (Nat.mod_lt _ (by omega)),Bn (by omega),hf,hb1,e3]
   refine(Az _ _).trans ?_
   refine(Az _ _).trans ?_
   refine(AA (by decide)).trans ?_
   refine(Aa h1 _).trans ?_
   rfl
  .rw[h3,List.drop_eq_getElem_cons hlt,DS,List.append_assoc]
   rfl
omit K in
theorem Jj:∀(m c:Nat) (a:List Nat),(DS m c a).length=a.length+1
 |_,_,[]=>rfl
 |m,c,x::a=>by rw[DS,List.length_cons,Jj,List.length_cons]
theorem K8{a:List Nat}(ha:Limbs a)(hs:a.length<=999999999)(m:Nat)(hm:m<4294967296):D.ask (.fn 228) [eN a,.v (.int .u64 (m:Int))] []=some (eN (AZ (Ai a*m)),[]):=by
 obtain⟨o,c',g,hc,ho⟩:=W5 K ha (by unfold CB;omega) m hm a.length 0 [] 0 (by omega) (by omega) (by omega) (by simp;omega)
 rw[List.nil_append,List.drop_zero]at ho
 have hol:o.length=a.length:=by
  have:=congrArg List.length ho
  rw[List.length_append,Jj]at this
  simpa using this
 refine K.fn' RP _ rfl ((Ami ..).trans ?_)
 refine(Aa g _).trans ?_
 simp only[Fe,ND,Ab]
 rw[BH hc]
 have e3:List.drop 0 (List.take (0+o.length*1) (Av eL o))++[.v (.int .u32 (c':Int))]=Av eL (o++[c']):=by
  rw[List.drop_zero,Bl A3 o (by omega)]
  exact Bm eL o c'
 rw[A4 (n:=o.length+1) (b:=4) (by omega) (by omega),Bg A3 o (by omega),e3,Bg A3 (o++[c']) (by simp)]
 refine(Az _ _).trans ?_
 refine(Az _ _).trans ?_
 refine(Az _ _).trans ?_
 rw[List.drop_zero,Bl A3 (o++[c']) (by simp),show BF (o.length+1) 1 (Av eL (o++[c']))=(o++[c']).map eL from by have:=CW A3 (o++[c']);rwa [List.length_append]at this]
 rw[ho]
 have gt:=E7 K (l:=DS m 0 a) (by unfold CB;rw[Jj];omega) (GK _ _ _ hm ha (by omega))
 rw[HY,Nat.add_zero]at gt
 refine(Aa gt _).trans ?_
 rfl
end
theorem EF{a b:List Nat}(ha:Limbs a)(hb:Limbs b):(AZ (Ai a*Ai b)).length<=a.length+b.length:=by
 refine BE ?_
 rw[Nat.pow_add]
 exact Nat.mul_lt_mul'' (CQ ha) (CQ hb)
theorem ZA(va x vd:Nat):0+4294967296*(va*vd)+va*x=va*(x+4294967296*vd):=by
 rw[Nat.mul_add,Nat.mul_left_comm va]
 omega
theorem TO{v i d:Nat}(h:v<4294967296 ^ i)(hd:d<=9):v*10+d<4294967296 ^ (i+1):=by
 rw[Nat.pow_succ]
 omega
theorem NR{d:Nat}(h:d<4294967296):Limbs [d]:=BK h Cc
section
variable {D:Orc} (K:Knows As NZ D)
include K
theorem AcR(A B:AV)(t:Int){xs ys:List (List AV)}(hA:A=.ls xs)(hB:B=.ls ys){out:List Nat}(hs:out.length<=999999999):∀(k i:Nat) (up:List Nat),out.length-i=k->i<=out.length->up=0::out.take i->
  D.ask (.lp 183 1) [A,B,eN out,iv t,.sl 0 0 (i+1) 1,iv (i:Int)] [ABlk.mk (Av eL up) true true]=some (.tup [iv 2,A,B,iv t,.sl 1 0 (out.length+1) 1],[.del,.set (ABlk.mk (Av eL (0::out)) true true)]):=by
 subst hA hB
 intro k
 induction k with
 |zero=>
  intro i up hk hi hu
  obtain rfl:i=out.length:=by omega
  rw[List.take_length]at hu
  subst hu
  refine K.lp' Lv _ rfl (by kernel_rfl) ((Yq ..).trans ?_)
  rw[Ax]
  exact(Ap (by omega)).trans rfl
 |succ k ih=>
  intro i up hk hi hu
  have hlt:i<out.length:=by omega
  have hl:up.length=i+1:=by rw[hu,List.length_cons,List.length_take,Nat.min_eq_left hi]
  have ih':=ih (i+1) (up++[out[i]]) (by omega) (by omega) (by rw[hu,List.take_succ_eq_append_getElem hlt];rfl)
  have e3:List.drop 0 (List.take (0+(i+1)*1) (Av eL up))++[.v (.int .u32 (out[i]:Int))]=Av eL (up++[out[i]]):=by
   rw[List.drop_zero,Bl A3 up (by omega)]
   exact Bm eL up out[i]
  refine K.lp' Lv _ rfl (by kernel_rfl) ((Yq ..).trans ?_)
  rw[Ax]
  refine(Aq (by omega)).trans ?_
  rw[AN,AO (List.getElem?_eq_getElem hlt)]
  simp only[eL,Fe,ND,Ab]
  rw[Bn (by omega),A4 (n:=i+1+1) (b:=4) (by omega) (by omega),Bg A3 up (by omega),e3]
  refine(Az _ _).trans ?_
  refine(Az _ _).trans ?_
  refine(Aa ih' _).trans ?_
  rfl
theorem AcS{a b:List Nat}(ha:Limbs a)(hb:Limbs b)(hs:a.length+b.length<=900000000):∀ i:Nat,i<=b.length->D.ask (.lp 183 0) [eN a,eN b,eN (AZ (Ai a*Ai (b.drop i))),iv ((i:Int)-1)] []=some (.tup [iv 0,eN (AZ (Ai a*Ai b))],[]):=by
 intro i
 induction i with
 |zero=>
  intro _
  refine K.lp' Lv _ rfl (by kernel_rfl) ((Yp ..).trans ?_)
  refine(C4 (by omega)).trans ?_
  rw[List.drop_zero]
  rfl
 |succ i ih=>
  intro hi
  have hlt:i<b.length:=by omega
  have hx:=hb.get hlt
  have ln:∀ j:Nat,(AZ (Ai a*Ai (b.drop j))).length<=a.length+b.length:=fun j=>by
   have:=EF ha (hb.drop j)
   rw[List.length_drop]at this
   omega
  have l1:=ln (i+1)
  rw[show (((i+1:Nat):Int)-1)=(i:Int) by omega]
  refine K.lp' Lv _ rfl (by kernel_rfl) ((Yp ..).trans ?_)
  refine(CN (by omega)).trans ?_
  have g:=AcR K (eN a) (eN b) (i:Int) rfl rfl (out:=AZ (Ai a*Ai (b.drop (i+1)))) (by omega) _ 0 [0] rfl (by omega) rfl
  refine(Aa g _).trans ?_
  simp only[eN,Fe,ND,Ab]
  rw[AN,AO (List.getElem?_eq_getElem hlt)]
  simp only[eL,Fe,ND,Ab]
  rw[B1 (show b[i]<_ by omega)]
  refine(Az _ _).trans ?_
  refine(Aa (K8 K ha (by omega) b[i] hx) _).trans ?_
  simp only[eN,Fe,ND,Ab]
  rw[Bg A3 (0::AZ (Ai a*Ai (b.drop (i+1)))) (by simp)]
  refine(Az _ _).trans ?_
  rw[Bl A3 (0::AZ (Ai a*Ai (b.drop (i+1)))) (by simp),show BF ((AZ (Ai a*Ai (b.drop (i+1)))).length+1) 1 (Av eL (0::AZ (Ai a*Ai (b.drop (i+1)))))=(0::AZ (Ai a*Ai (b.drop (i+1)))).map eL from CW A3 (0::AZ (Ai a*Ai (b.drop (i+1))))]
  have l3:(AZ (Ai a*b[i])).length<=a.length+1:=by
   have:=EF ha (NR hx)
   rwa [show Ai [b[i]]=b[i] by simp[Ai]]at this
  have g2:=Io K (a:=0::AZ (Ai a*Ai (b.drop (i+1)))) (b:=AZ (Ai a*b[i])) (by rw[List.length_cons];omega) (BK (by omega) (AL _)) (by omega) (AL _)
  rw[Ai,AY,AY,ZA,show b[i]+4294967296*Ai (b.drop (i+1))=Ai (b.drop i) by rw[List.drop_eq_getElem_cons hlt,Ai]]at g2
  refine(Aa g2 _).trans ?_
  simp only[eN,Fe,ND,Ab]
  rw[F6 (by omega) (by omega)]
  refine(Aa (ih (by omega)) _).trans ?_
  rfl
theorem AcJ{a b:List Nat}(ha:Limbs a)(hb:Limbs b)(hs:a.length+b.length<=900000000):D.ask (.fn 183) [eN a,eN b] []=some (eN (AZ (Ai a*Ai b)),[]):=by
 have g:=AcS K ha hb hs b.length (Nat.le_refl _)
 rw[List.drop_length,Ai,Nat.mul_zero,EB]at g
 refine K.fn' Lv _ rfl ((Al1 ..).trans ?_)
 rw[Ax,F6 (by omega) (by omega)]
 refine(Aa g _).trans ?_
 simp only[eN,ND,Ab]
 have l1:=EF ha hb
 have g2:=E7 K (l:=AZ (Ai a*Ai b)) (by unfold CB;omega) (AL _)
 rw[AY]at g2
 refine(Aa g2 _).trans ?_
 rfl
theorem W4{s:ByteArray}(hs:s.size<=4000):∀(m i v:Nat),s.size-i=m->i<=s.size->v<4294967296 ^ i->
  D.ask (.lp 182 0) [sv s,eN (AZ v),iv (i:Int)] []=if(s.data.toList.drop i).all GA=true then some (.tup [iv 0,sv s,eN (AZ (Y7 v (s.data.toList.drop i)))],[]) else some (.tup [bv true,.ls [],iv 20],[]):=by
 intro m
 have hsl:s.data.toList.length=s.size:=by simp
 induction m with
 |zero=>
  intro i v hm hi hv
  have e:s.data.toList.drop i=[]:=List.drop_eq_nil_of_le (by omega)
  rw[e,if_pos (show ([]:List UInt8).all GA=true from rfl)]
  refine K.lp' M9 _ rfl (by kernel_rfl) ((Qd ..).trans ?_)
  rw[Cn]
  exact(Ap (by omega)).trans rfl
 |succ m ih=>
  intro i v hm hi hv
  have hlt:i<s.size:=by omega
  have hlt':i<s.data.toList.length:=by omega
  have e:s.data.toList.drop i=s.data.toList[i]::s.data.toList.drop (i+1):=List.drop_eq_getElem_cons hlt'
  rw[e,List.all_cons]
  cases hd:GA s.data.toList[i]with
  |false=>
   rw[if_neg (by simp)]
   refine K.lp' M9 _ rfl (by kernel_rfl) ((Qd ..).trans ?_)
   rw[Cn]
   refine(Aq (by omega)).trans ?_
   rw[AN,BD hlt]
   refine(Az _ _).trans ?_
   rw[DO hlt]
   rcases AhW hd with h|⟨h,h2⟩
   .exact(Aq (by omega)).trans rfl
   .refine(Ap (by omega)).trans ?_
    rw[AN,BD hlt]
    refine(Az _ _).trans ?_
    rw[DO hlt]
    exact(Aq (by omega)).trans rfl
  |true=>
   have hd1:=Yc hd
   have hd2:=AhV hd
   rw[Bool.true_and,Nc]
   have ih':=ih (i+1) (v*10+(s.data.toList[i].toNat-48)) (by omega) (by omega) (TO hv hd1)
   have lv:=BE hv
   by_cases h:(s.data.toList.drop (i+1)).all GA=true
   .rw[if_pos h]at ih' ⊢
    refine K.lp' M9 _ rfl (by kernel_rfl) ((Qd ..).trans ?_)
    rw[Cn]
    refine(Aq (by omega)).trans ?_
    rw[AN,BD hlt]
    refine(Az _ _).trans ?_
    rw[DO hlt]
    refine(Ap (by omega)).trans ?_
    rw[AN,BD hlt]
    refine(Az _ _).trans ?_
    rw[DO hlt]
    refine(Ap (by omega)).trans ?_
    have g:=K8 K (a:=AZ v) (AL _) (by omega) 10 (by omega)
    rw[AY]at g
    refine(Aa g _).trans ?_
    simp only[eN,Fe,ND,Ab]
    rw[AN,BD hlt]
    refine(Az _ _).trans ?_
    rw[DO hlt]
    rw[Afo hd2,BH (by omega)]
    have l3:(AZ (v*10)).length<=i+1:=BE (by have:=TO hv (d:=0) (by omega);simpa using this)
    have g2:=Io K (a:=AZ (v*10)) (b:=[s.data.toList[i].toNat-48]) (by omega) (AL _) (by simp) (NR (by omega))
    rw[AY,show Ai [s.data.toList[i].toNat-48]=s.data.toList[i].toNat-48 by simp[Ai]]at g2
    refine(Aa g2 _).trans ?_
    simp only[eN,Fe,ND,Ab]
    rw[Bn (by omega)]
    refine(Aa ih' _).trans ?_
    rfl
   .rw[if_neg h]at ih' ⊢
    refine K.lp' M9 _ rfl (by kernel_rfl) ((Qd ..).trans ?_)
    rw[Cn]
    refine(Aq (by omega)).trans ?_
    rw[AN,BD hlt]
    refine(Az _ _).trans ?_
    rw[DO hlt]
    refine(Ap (by omega)).trans ?_
    rw[AN,BD hlt]
    refine(Az _ _).trans ?_
    rw[DO hlt]
    refine(Ap (by omega)).trans ?_
    have g:=K8 K (a:=AZ v) (AL _) (by omega) 10 (by omega)
    rw[AY]at g
    refine(Aa g _).trans ?_
    simp only[eN,Fe,ND,Ab]
    rw[AN,BD hlt]
    refine(Az _ _).trans ?_
    rw[DO hlt]
    rw[Afo hd2,BH (by omega)]
    have l3:(AZ (v*10)).length<=i+1:=BE (by have:=TO hv (d:=0) (by omega);simpa using this)
    have g2:=Io K (a:=AZ (v*10)) (b:=[s.data.toList[i].toNat-48]) (by omega) (AL _) (by simp) (NR (by omega))
    rw[AY,show Ai [s.data.toList[i].toNat-48]=s.data.toList[i].toNat-48 by simp[Ai]]at g2
    refine(Aa g2 _).trans ?_
    simp only[eN,Fe,ND,Ab]
    rw[Bn (by omega)]
    refine(Aa ih' _).trans ?_
    rfl
theorem K7(s:ByteArray):D.ask (.fn 182) [sv s] []=some (.tup [eN (GE s).1,iv (GE s).2],[]):=by
 refine K.fn' M9 _ rfl ((Al0 ..).trans ?_)
 unfold GE
 rw[Cn]
 by_cases h1:4000<s.size
 .rw[if_pos h1]
  exact(Aq (by omega)).trans rfl
 rw[if_neg h1]
 refine(Ap (by omega)).trans ?_
 have g:=W4 K (s:=s) (by omega) s.size 0 0 (by omega) (by omega) (by simp)
 rw[List.drop_zero,EB]at g
 by_cases h2:s.size=0
 .rw[if_pos h2]
  have h3:s=ByteArray.empty:=by simpa using h2
  subst h3
  rw[if_pos (show ByteArray.empty.data.toList.all GA=true from rfl)]at g
  refine(Aa g _).trans ?_
  simp only[eN,Fe,ND,Ab]
  rfl
 rw[if_neg h2]
 by_cases h3:s.data.toList.all GA=true
 .rw[if_pos h3]at g ⊢
  refine(Aa g _).trans ?_
  simp only[eN,Fe,ND,Ab]
  rw[Cn]
  refine(AA (by omega)).trans ?_
  have l1:(AZ (Y7 0 s.data.toList)).length<=s.size:=BE (by
   have:=TP s.data.toList h3 (v:=0) (i:=0) (by simp)
   rwa [Nat.zero_add,show s.data.toList.length=s.size by simp]at this)
  have g2:=E7 K (l:=AZ (Y7 0 s.data.toList)) (by unfold CB;omega) (AL _)
  rw[AY]at g2
  refine(Aa g2 _).trans ?_
  rfl
 .rw[if_neg h3]at g ⊢
  refine(Aa g _).trans ?_
  rfl
theorem Z8{a b:List Nat}(hl:a.length=b.length)(hs:CB a):∀(k i:Nat),a.length-i=k->i<=a.length->D.ask (.lp 258 0) [eN a,eN b,iv (i:Int)] []=if a.drop i=b.drop i then some (.tup [iv 0],[]) else some (.tup [bv true,bv false],[]):=by
 intro k
 unfold CB at hs
 induction k with
 |zero=>
  intro i hk hi
  rw[List.drop_eq_nil_of_le (show a.length<=i by omega),List.drop_eq_nil_of_le (show b.length<=i by omega),if_pos rfl]
  refine K.lp' Nb _ rfl (by kernel_rfl) ((Qf ..).trans ?_)
  rw[Ax]
  exact(Ap (by omega)).trans rfl
 |succ k ih=>
  intro i hk hi
  have h1:i<a.length:=by omega
  have h2:i<b.length:=by omega
  have ih':=ih (i+1) (by omega) (by omega)
  rw[List.drop_eq_getElem_cons h1,List.drop_eq_getElem_cons h2]
  by_cases h:a[i]=b[i]
  .by_cases h3:a.drop (i+1)=b.drop (i+1)
   .rw[if_pos h3]at ih'
    rw[if_pos (by rw[h,h3])]
    refine K.lp' Nb _ rfl (by kernel_rfl) ((Qf ..).trans ?_)
    rw[Ax]
    refine(Aq (by omega)).trans ?_
    rw[AN,AO (List.getElem?_eq_getElem h1)]
    simp only[eL,Fe,ND,Ab]
    rw[AN,AO (List.getElem?_eq_getElem h2)]
    simp only[eL,Fe,ND,Ab]
    rw[Bn (by omega)]
    refine(AQ (by omega)).trans ?_
    refine(Aa ih' _).trans ?_
    rfl
   .rw[if_neg h3]at ih'
    rw[if_neg (fun e=>h3 (List.cons.inj e).2)]
    refine K.lp' Nb _ rfl (by kernel_rfl) ((Qf ..).trans ?_)
    rw[Ax]
    refine(Aq (by omega)).trans ?_
    rw[AN,AO (List.getElem?_eq_getElem h1)]
    simp only[eL,Fe,ND,Ab]
    rw[AN,AO (List.getElem?_eq_getElem h2)]
    simp only[eL,Fe,ND,Ab]
    rw[Bn (by omega)]
    refine(AQ (by omega)).trans ?_
    refine(Aa ih' _).trans ?_
    rfl
  .rw[if_neg (fun e=>h (List.cons.inj e).1)]
   refine K.lp' Nb _ rfl (by kernel_rfl) ((Qf ..).trans ?_)
   rw[Ax]
   refine(Aq (by omega)).trans ?_
   rw[AN,AO (List.getElem?_eq_getElem h1)]
   simp only[eL,Fe,ND,Ab]
   rw[AN,AO (List.getElem?_eq_getElem h2)]
   simp only[eL,Fe,ND,Ab]
   rw[Bn (by omega)]
   exact(AA (by omega)).trans rfl
theorem ZU{a b:List Nat}(hs:CB a):D.ask (.fn 258) [eN a,eN b] []=some (bv (decide (a=b)),[]):=by
 refine K.fn' Nb _ rfl ((Amo ..).trans ?_)
 rw[Ax,Ax]
 by_cases hl:a.length=b.length
 .refine(AQ (by omega)).trans ?_
  have g:=Z8 K hl hs a.length 0 (by omega) (by omega)
  rw[List.drop_zero,List.drop_zero]at g
  by_cases h:a=b
  .rw[if_pos h]at g
   rw[decide_eq_true h]
   refine(Aa g _).trans ?_
   rfl
  .rw[if_neg h]at g
   rw[decide_eq_false h]
   refine(Aa g _).trans ?_
   rfl
 .refine(AA (by omega)).trans ?_
  rw[decide_eq_false (fun e=>hl (by rw[e]))]
end
theorem Rz{s:ByteArray}(h:0<s.size):L6 s ↔ Ao.sat s 0=45:=by
 rw[DO h]
 unfold L6
 have hl:0<s.data.toList.length:=by simpa using h
 have e:(s.extract 0 1).data.toList=[s.data.toList[0]'hl]:=by
  rw[ByteArray.data_extract,Array.toList_extract]
  obtain⟨x,r,e⟩:∃ x r,s.data.toList=x::r:=by
   cases e:s.data.toList with
   |nil=>rw[e]at hl;cases hl
   |cons x r=>exact⟨x,r,rfl⟩
  simp[List.extract,e]
 constructor
 .rintro⟨_,h2⟩
  rw[h2]at e
  have:(45:UInt8)=s.data.toList[0]'hl:=(List.cons.inj e).1
  rw[←this]
  rfl
 .intro h2
  refine⟨h,ByteArray.ext (Array.ext' ?_)⟩
  rw[e]
  have:s.data.toList[0]'hl=(45:UInt8):=UInt8.toNat_inj.1 (by rw[show (45:UInt8).toNat=45 from rfl];omega)
  rw[this]
  rfl
theorem GR{z:Zi}(h:zv z<0):zv z=-(Ai z.abs:Int):=by
 unfold zv D3 at *
 cases e:z.neg<;>rw[e]at h<;>simp at h ⊢
 omega
theorem EM{z:Zi}(h:¬ zv z<0):zv z=(Ai z.abs:Int):=by
 unfold zv D3 at *
 cases e:z.neg<;>rw[e]at h<;>simp at h ⊢
 omega
theorem La{n:Int}:CD n<0 ↔ n<0:=by
 unfold CD
 split
 .omega
 .split<;>omega
theorem Ab5{k:Nat}{x y:Int}(hx:InB k x)(hy:InB k y):InB (k+1) (x+y):=by
 unfold InB at *
 rw[Nat.pow_succ]
 have:=Int.natAbs_add_le x y
 omega
theorem Pa{k:Nat}(hk:k<=900000000){a b:Zi}(ha:Lz k a)(hb:Lz k b):CB (AZ (Ai a.abs+Ai b.abs)):=by
 unfold CB
 have h1:=ha.inb
 have h2:=hb.inb
 have f:∀ z:Zi,(zv z).natAbs=Ai z.abs:=fun z=>by
  unfold zv D3
  split
  .rw[Int.natAbs_neg];rfl
  .rfl
 unfold InB at h1 h2
 rw[f]at h1 h2
 have:=BE (n:=Ai a.abs+Ai b.abs) (k:=k+1) (by rw[Nat.pow_succ];omega)
 omega
theorem Di(n:Int):CD n=-1/\n<0\/CD n=1/\0<n\/CD n=0/\n=0:=by
 unfold CD
 split
 .omega
 .split<;>omega
theorem QL(x y:Int):Ao.mul .i64 (CD x) (CD y)=CD x*CD y:=by
 show IntKind.i64.wrap (CD x*CD y)=_
 rw[IntKind.wrap_i64]
 rcases Di x with h|h|h<;>rcases Di y with h2|h2|h2<;>rw[h.1,h2.1]<;>rfl
theorem T7{a b:Zi}(h:CD (zv a)*CD (zv b)<0):D3 true (Ai a.abs*Ai b.abs)=zv a*zv b:=by
 unfold D3
 rw[if_pos rfl,Int.natCast_mul]
 by_cases ha:zv a<0
 .rw[GR ha]
  by_cases hb:zv b<0
  .exfalso
   rcases Di (zv a) with h1|h1|h1<;>rcases Di (zv b) with h2|h2|h2<;>rw[h1.1,h2.1]at h<;>omega
  .rw[EM hb,Int.neg_mul]
 .rw[EM ha]
  by_cases hb:zv b<0
  .rw[GR hb,Int.mul_neg]
  .exfalso
   rcases Di (zv a) with h1|h1|h1<;>rcases Di (zv b) with h2|h2|h2<;>rw[h1.1,h2.1]at h<;>omega
theorem T8{a b:Zi}(h:¬ CD (zv a)*CD (zv b)<0):D3 false (Ai a.abs*Ai b.abs)=zv a*zv b:=by
 unfold D3
 rw[if_neg (by simp),Int.natCast_mul]
 rcases Di (zv a) with h1|h1|h1
 .rcases Di (zv b) with h2|h2|h2
  .rw[GR h1.2,GR h2.2,Int.neg_mul_neg]
  .exfalso
   rw[h1.1,h2.1]at h
   omega
  .have:=EM (z:=b) (by omega)
   rw[h2.2,Int.mul_zero,←this,h2.2,Int.mul_zero]
 .rcases Di (zv b) with h2|h2|h2
  .exfalso
   rw[h1.1,h2.1]at h
   omega
  .rw[←EM (z:=a) (by omega),←EM (z:=b) (by omega)]
  .have:=EM (z:=b) (by omega)
   rw[h2.2,Int.mul_zero,←this,h2.2,Int.mul_zero]
 .have:=EM (z:=a) (by omega)
  rw[h1.2,Int.zero_mul,←this,h1.2,Int.zero_mul]
section
variable {D:Orc} (K:Knows As NZ D) (R:Knows As SN D)
include K R
theorem CT(neg:Bool){a:List Nat}(ha:Limbs a)(hs:CB a):D.ask (.fn 180) [bv neg,eN a] []=some (.agg (eZ (AS (D3 neg (Ai a)))),[]):=by
 refine R.fn' Aef _ rfl ((AlY ..).trans ?_)
 refine(Aa (E7 K hs ha) _).trans ?_
 simp only[eN,ND,Ab,Ax]
 rw[VP]
 unfold eZ eN
 have hp:=@EG (Ai a)
 by_cases h:0<Ai a
 .refine(AA (by have:=hp.2 h;omega)).trans ?_
  rw[decide_eq_true h,Bool.and_true]
 .have h0:Ai a=0:=by omega
  rw[decide_eq_false h,Bool.and_false,h0,EB]
  exact(AQ rfl).trans rfl
theorem WU{z:Zi}(hz:Lz 1000000000 z):D.ask (.fn 179) [.agg (eZ z)] []=some (.agg (eZ (AS (zv z))),[]):=by
 refine R.fn' Aee _ rfl ((AlX ..).trans ?_)
 refine(Aa (CT K R z.neg hz.lim hz.len) _).trans ?_
 rfl
theorem Ex{z:Zi}(hz:Lz 1000000000 z):D.ask (.fn 116) [.agg (eZ z)] []=some (iv (CD (zv z)),[]):=by
 refine R.fn' AdT _ rfl ((Alt ..).trans ?_)
 refine(Aa (E7 K hz.len hz.lim) _).trans ?_
 simp only[eN,ND,Ab,Ax]
 have hp:=@EG (Ai z.abs)
 unfold zv D3
 by_cases h:0<Ai z.abs
 .refine(AA (by have:=hp.2 h;omega)).trans ?_
  cases z.neg with
  |false=>
   refine(CM _ _).trans ?_
   rw[if_neg (by simp)]
   unfold CD
   rw[if_neg (by omega)]
   first|rw[if_pos (by omega)] | rw[if_neg (by omega)]
  |true=>
   refine(Az _ _).trans ?_
   rw[if_pos rfl]
   unfold CD
   first|rw[if_pos (by omega)] | rw[if_neg (by omega),if_neg (by omega)]
 .have h0:Ai z.abs=0:=by omega
  rw[h0,EB]
  refine(AQ rfl).trans ?_
  cases z.neg<;>rfl
theorem Vw{z:Zi}(hz:Lz 1000000000 z):D.ask (.fn 123) [.agg (eZ z)] []=some (.agg (eZ (AS (-zv z))),[]):=by
 have e:-zv z=D3 (!z.neg) (Ai z.abs):=by
  unfold zv D3
  cases z.neg<;>simp
 rw[e]
 refine R.fn' AdY _ rfl ((AlA ..).trans ?_)
 rw[ZV]
 have g:=fun b=>CT K R b hz.lim hz.len
 cases z.neg with
 |false=>
  refine(Az _ _).trans ?_
  refine(Aa (g true) _).trans ?_
  rfl
 |true=>
  refine(CM _ _).trans ?_
  refine(Aa (g false) _).trans ?_
  rfl
theorem Ul(s:ByteArray):D.ask (.fn 120) [sv s] []=some (.tup [.agg (eZ (Fi s).1),iv (Fi s).2],[]):=by
 refine R.fn' AdW _ rfl ((Alx ..).trans ?_)
 unfold Fi FF
 rw[Cn]
 by_cases h0:0<s.size
 .refine(Aq (by omega)).trans ?_
  rw[show Nat.blt 0 s.size=true from BD h0]
  refine(Az _ _).trans ?_
  by_cases h1:L6 s
  .rw[if_pos h1]
   refine(AQ ((Rz h0).1 h1)).trans ?_
   rw[show JG 1 s.size s.size=true by unfold JG;rw[Nat.ble_eq_true_of_le h1.1,Nat.ble_eq_true_of_le (Nat.le_refl _)]]
   refine(Az _ _).trans ?_
   generalize hx:Ao.ssub s 1 s.size=x
   rw[show s.extract 1 s.size=x from hx]
   refine(Aa (K7 K x) _).trans ?_
   simp only[eN,Fe,ND,Ab]
   by_cases h:(GE x).2=0
   .rw[if_pos h]
    refine(AQ h).trans ?_
    refine(Aa (CT K R true (E4 _) (by unfold CB;have:=Hs x;omega)) _).trans ?_
    rfl
   .rw[if_neg h]
    exact(AA h).trans rfl
  .rw[if_neg h1]
   refine(AA (fun h=>h1 ((Rz h0).2 h))).trans ?_
   refine(Aa (K7 K s) _).trans ?_
   simp only[eN,Fe,ND,Ab]
   by_cases h:(GE s).2=0
   .rw[if_pos h]
    refine(AQ h).trans ?_
    refine(Aa (CT K R false (E4 _) (by unfold CB;have:=Hs s;omega)) _).trans ?_
    rfl
   .rw[if_neg h]
    exact(AA h).trans rfl
 .rw[if_neg (fun h1:L6 s=>h0 h1.1)]
  refine(Ap (by omega)).trans ?_
  refine(Aa (K7 K s) _).trans ?_
  simp only[eN,Fe,ND,Ab]
  by_cases h:(GE s).2=0
  .rw[if_pos h]
   refine(AQ h).trans ?_
   refine(Aa (CT K R false (E4 _) (by unfold CB;have:=Hs s;omega)) _).trans ?_
   rfl
  .rw[if_neg h]
   exact(AA h).trans rfl
theorem Pp{k:Nat}(hk:k<=900000000){a b:Zi}(ha:Lz k a)(hb:Lz k b)(hp:¬ zv a<0):D.ask (.fn 124) [.agg (eZ a),.agg (eZ b)] []=some (.agg (eZ (AS (zv a+zv b))),[]):=by
 have la:=ha.len
 have lb:=hb.len
 have sa:=Ex K R (ha.mono (show k<=1000000000 by omega))
 have sb:=Ex K R (hb.mono (show k<=1000000000 by omega))
 have ea:=EM hp
 have hsa:¬ CD (zv a)<0:=fun h=>hp (La.1 h)
 refine R.fn' YZ _ rfl ((AhX ..).trans ?_)
 refine(Aa sa _).trans ?_
 simp only[QY,Db,ND,Ab]
 refine(Ap hsa).trans ?_
 refine(Aa sa _).trans ?_
 simp only[QY,Db,ND,Ab]
 refine(CN (by omega)).trans ?_
 refine(Aa sb _).trans ?_
 simp only[QY,Db,ND,Ab]
 by_cases hb0:zv b<0
 .have hsb:=La.2 hb0
  have eb:=GR hb0
  refine(C4 (by omega)).trans ?_
  refine(Aa sa _).trans ?_
  simp only[QY,Db,ND,Ab]
  refine(Ap hsa).trans ?_
  have g1:=Vx K (a:=a.abs) (b:=b.abs) (by unfold CB;omega) ha.lim (by unfold CB;omega) hb.lim
  unfold MR at g1
  refine(Aa g1 _).trans ?_
  by_cases hle:Ai b.abs<=Ai a.abs
  .rw[if_pos hle]
   simp only[eN,ND,Ab]
   have g2:=CT K R false (a:=AZ (Ai a.abs-Ai b.abs)) (AL _) (by
    unfold CB
    have:=BE (n:=Ai a.abs-Ai b.abs) (k:=a.abs.length) (by have:=CQ ha.lim;omega)
    omega)
   rw[AY,show D3 false (Ai a.abs-Ai b.abs)=zv a+zv b by unfold D3;rw[if_neg (by simp)];omega]at g2
   refine(Aa g2 _).trans ?_
   rfl
  .rw[if_neg hle]
   simp only[eN,ND,Ab]
   have g3:=Vx K (a:=b.abs) (b:=a.abs) (by unfold CB;omega) hb.lim (by unfold CB;omega) ha.lim
   unfold MR at g3
   rw[if_pos (show Ai a.abs<=Ai b.abs by omega)]at g3
   refine(Aa g3 _).trans ?_
   simp only[eN,ND,Ab]
   have g2:=CT K R true (a:=AZ (Ai b.abs-Ai a.abs)) (AL _) (by
    unfold CB
    have:=BE (n:=Ai b.abs-Ai a.abs) (k:=b.abs.length) (by have:=CQ hb.lim;omega)
    omega)
   rw[AY,show D3 true (Ai b.abs-Ai a.abs)=zv a+zv b by unfold D3;rw[if_pos rfl];omega]at g2
   refine(Aa g2 _).trans ?_
   rfl
 .have hsb:¬ CD (zv b)<0:=fun h=>hb0 (La.1 h)
  have eb:=EM hb0
  refine(CN (by omega)).trans ?_
  refine(Aa (Io K (by omega) ha.lim (by omega) hb.lim) _).trans ?_
  simp only[eN,ND,Ab]
  have g2:=CT K R false (a:=AZ (Ai a.abs+Ai b.abs)) (AL _) (Pa hk ha hb)
  rw[AY,show D3 false (Ai a.abs+Ai b.abs)=zv a+zv b by unfold D3;rw[if_neg (by simp)];omega]at g2
  refine(Aa g2 _).trans ?_
  rfl
theorem Sz{k:Nat}(hk:k<=900000000){a b:Zi}(ha:Lz k a)(hb:Lz k b):D.ask (.fn 124) [.agg (eZ a),.agg (eZ b)] []=some (.agg (eZ (AS (zv a+zv b))),[]):=by
 by_cases hp:zv a<0
 .have la:=ha.len
  have lb:=hb.len
  have sa:=Ex K R (ha.mono (show k<=1000000000 by omega))
  have sb:=Ex K R (hb.mono (show k<=1000000000 by omega))
  have ea:=GR hp
  have hsa:=La.2 hp
  refine R.fn' YZ _ rfl ((AhX ..).trans ?_)
  refine(Aa sa _).trans ?_
  simp only[QY,Db,ND,Ab]
  refine(Aq hsa).trans ?_
  refine(Aa sb _).trans ?_
  simp only[QY,Db,ND,Ab]
  by_cases hb0:zv b<0
  .have eb:=GR hb0
   refine(Aq (La.2 hb0)).trans ?_
   refine(Aa (Io K (by omega) ha.lim (by omega) hb.lim) _).trans ?_
   simp only[eN,ND,Ab]
   have g2:=CT K R true (a:=AZ (Ai a.abs+Ai b.abs)) (AL _) (Pa hk ha hb)
   rw[AY,show D3 true (Ai a.abs+Ai b.abs)=zv a+zv b by unfold D3;rw[if_pos rfl];omega]at g2
   refine(Aa g2 _).trans ?_
   rfl
  .refine(Ap (fun h=>hb0 (La.1 h))).trans ?_
   refine(Aa sa _).trans ?_
   simp only[QY,Db,ND,Ab]
   refine(C4 (by omega)).trans ?_
   refine(Aa sa _).trans ?_
   simp only[QY,Db,ND,Ab]
   refine(Aq hsa).trans ?_
   have g:=Pp K R hk hb ha hb0
   rw[Int.add_comm]at g
   refine(Aa g _).trans ?_
   rfl
 .exact Pp K R hk ha hb hp
theorem Aag{k:Nat}(hk:k<=900000000){a b:Zi}(ha:Lz k a)(hb:Lz k b):D.ask (.fn 118) [.agg (eZ a),.agg (eZ b)] []=some (.agg (eZ (AS (zv a-zv b))),[]):=by
 refine R.fn' AdU _ rfl ((Alv ..).trans ?_)
 refine(Aa (Vw K R (hb.mono (show k<=1000000000 by omega))) _).trans ?_
 have hn:Lz k (AS (-zv b)):=InB.lz (by have:=hb.inb;unfold InB at *;rwa [Int.natAbs_neg])
 have g:=Sz K R hk ha hn
 rw[AJ,←Int.sub_eq_add_neg]at g
 simp only[eZ,eN,ND,Ab]
 refine(Aa g _).trans ?_
 rfl
theorem Aae{k:Nat}(hk:k<=900000000){a b:Zi}(ha:Lz k a)(hb:Lz k b):D.ask (.fn 67) [.agg (eZ a),.agg (eZ b)] []=some (iv (CD (zv a-zv b)),[]):=by
 refine R.fn' Ail _ rfl ((e67 ..).trans ?_)
 refine(Aa (Aag K R hk ha hb) _).trans ?_
 have hs:Lz (k+1) (AS (zv a-zv b)):=InB.lz (by rw[Int.sub_eq_add_neg];exact Ab5 ha.inb (by have:=hb.inb;unfold InB at *;rwa [Int.natAbs_neg]))
 have g:=Ex K R (hs.mono (show k+1<=1000000000 by omega))
 rw[AJ]at g
 simp only[eZ,eN,ND,Ab]
 refine(Aa g _).trans ?_
 rfl
theorem Aaf{k m:Nat}(hk:k<=400000000)(hm:m<=400000000){a b:Zi}(ha:Lz k a)(hb:Lz m b):D.ask (.fn 122) [.agg (eZ a),.agg (eZ b)] []=some (.agg (eZ (AS (zv a*zv b))),[]):=by
 have la:=ha.len
 have lb:=hb.len
 have sa:=Ex K R (ha.mono (show k<=1000000000 by omega))
 have sb:=Ex K R (hb.mono (show m<=1000000000 by omega))
 refine R.fn' AdX _ rfl ((Alz ..).trans ?_)
 refine(Aa sa _).trans ?_
 simp only[QY,Db,ND,Ab]
 refine(Aa sb _).trans ?_
 simp only[QY,Db,ND,Ab]
 have g:=AcJ K ha.lim hb.lim (by omega)
 have l1:=EF ha.lim hb.lim
 have gf:∀ ng,D.ask (.fn 180) [bv ng,eN (AZ (Ai a.abs*Ai b.abs))] []=some (.agg (eZ (AS (D3 ng (Ai a.abs*Ai b.abs)))),[]):=fun ng=>by
  have:=CT K R ng (a:=AZ (Ai a.abs*Ai b.abs)) (AL _) (by unfold CB;omega)
  rwa [AY]at this
 have hmul:Ao.mul .i64 (CD (zv a)) (CD (zv b))=CD (zv a)*CD (zv b):=QL _ _
 rw[hmul]
 by_cases h:CD (zv a)*CD (zv b)<0
 .refine(Aq h).trans ?_
  refine(Aa g _).trans ?_
  simp only[eN,ND,Ab]
  have g2:=gf true
  rw[T7 h]at g2
  refine(Aa g2 _).trans ?_
  rfl
 .refine(Ap h).trans ?_
  refine(Aa g _).trans ?_
  simp only[eN,ND,Ab]
  have g2:=gf false
  rw[T8 h]at g2
  refine(Aa g2 _).trans ?_
  rfl
theorem W7{a b:Zi}(ha:Lz 1000000000 a):D.ask (.fn 238) [.agg (eZ a),.agg (eZ b)] []=some (bv (decide (a.neg=b.neg/\a.abs=b.abs)),[]):=by
 refine R.fn' Aeq _ rfl ((Amk ..).trans ?_)
 rw[Vy]
 by_cases h:a.neg=b.neg
 .rw[show (a.neg == b.neg)=true by simp[h]]
  refine(Az _ _).trans ?_
  refine(Aa (ZU K (a:=a.abs) (b:=b.abs) ha.len) _).trans ?_
  by_cases h2:a.abs=b.abs
  .rw[decide_eq_true h2,decide_eq_true ⟨h,h2⟩]
   rfl
  .rw[decide_eq_false h2,decide_eq_false (fun e=>h2 e.2)]
   rfl
 .rw[show (a.neg == b.neg)=false by simp[h],decide_eq_false (fun e=>h e.1)]
  exact(CM _ _).trans rfl
end
theorem ZX(m:Nat)(h:m<9223372036854775808):Ao.rem .i64 (m:Int) 4294967296=((m % 4294967296:Nat):Int):=by
 show Int.tmod (m:Int) 4294967296=_
 rw[show (4294967296:Int)=((4294967296:Nat):Int) from rfl,←Int.ofNat_tmod]
theorem ZW(m:Nat)(h:m<9223372036854775808):Ao.quo .i64 (m:Int) 4294967296=((m / 4294967296:Nat):Int):=by
 show IntKind.i64.wrap (Int.tdiv (m:Int) 4294967296)=_
 rw[IntKind.wrap_i64,show (4294967296:Int)=((4294967296:Nat):Int) from rfl,←Int.ofNat_tdiv]
 omega
theorem SX(m:Nat):Ai [m % 4294967296,m / 4294967296]=m:=by
 unfold Ai Ai Ai
 omega
theorem O0(m:Nat)(h:m<9223372036854775808):Limbs [m % 4294967296,m / 4294967296]:=BK (by omega) (BK (by omega) Cc)
structure RF (D:Orc):Prop where
 clean:∀ z:Zi,Lz 1000000000 z->D.ask (.fn 179) [.agg (eZ z)] []=some (.agg (eZ (AS (zv z))),[])
 neg:∀ z:Zi,Lz 1000000000 z->D.ask (.fn 123) [.agg (eZ z)] []=some (.agg (eZ (AS (-zv z))),[])
 sign:∀ z:Zi,Lz 1000000000 z->D.ask (.fn 116) [.agg (eZ z)] []=some (iv (CD (zv z)),[])
 of_:∀ n:Int,-9223372036854775808<n->n<9223372036854775808->D.ask (.fn 119) [iv n] []=some (.agg (eZ (AS n)),[])
 cmp:∀ a b:Zi,Lz 900000000 a->Lz 900000000 b->D.ask (.fn 67) [.agg (eZ a),.agg (eZ b)] []=some (iv (CD (zv a-zv b)),[])
 add:∀ a b:Zi,Lz 900000000 a->Lz 900000000 b->D.ask (.fn 124) [.agg (eZ a),.agg (eZ b)] []=some (.agg (eZ (AS (zv a+zv b))),[])
 mul:∀ a b:Zi,Lz 400000000 a->Lz 400000000 b->D.ask (.fn 122) [.agg (eZ a),.agg (eZ b)] []=some (.agg (eZ (AS (zv a*zv b))),[])
 parse:∀ s:ByteArray,D.ask (.fn 120) [sv s] []=some (.tup [.agg (eZ (Fi s).1),iv (Fi s).2],[])
 same:∀ a b:Zi,Lz 1000000000 a->D.ask (.fn 238) [.agg (eZ a),.agg (eZ b)] []=some (bv (decide (a.neg=b.neg/\a.abs=b.abs)),[])
section
variable {D:Orc} (K:Knows As NZ D) (R:Knows As SN D)
include K R
theorem Ahe(n:Int)(h1:-9223372036854775808<n)(h2:n<9223372036854775808):D.ask (.fn 119) [iv n] []=some (.agg (eZ (AS n)),[]):=by
 refine R.fn' AdV _ rfl ((Alw ..).trans ?_)
 by_cases h:0<=n
 .obtain⟨m,rfl⟩:=Int.eq_ofNat_of_zero_le h
  have g:=CT K R false (O0 m (by omega)) (by unfold CB;simp)
  rw[SX,show D3 false m=(m:Int) from rfl]at g
  refine(CN h).trans ?_
  refine(AA (by decide)).trans ?_
  refine(AA (by decide)).trans ?_
  rw[ZX m (by omega),ZW m (by omega),BH (by omega),BH (by omega)]
  refine(Aa g _).trans ?_
  rfl
 .obtain⟨m,hm⟩:∃ m:Nat,n=-((m+1:Nat):Int):=⟨n.natAbs-1,by omega⟩
  have e1:Ao.sub .i64 0 (Ao.add .i64 n 1)=(m:Int):=by
   rw[GW (by omega) (by omega),F6 (by omega) (by omega)]
   omega
  have ga:=Io K (a:=[m % 4294967296,m / 4294967296]) (b:=[1]) (by simp) (O0 m (by omega)) (by simp) (BK (by omega) Cc)
  rw[SX,show Ai [1]=1 from rfl]at ga
  have hl:(AZ (m+1)).length<=2:=BE (by omega)
  have g:=CT K R true (AL (m+1)) (by unfold CB;omega)
  rw[AY,show D3 true (m+1)=n by rw[hm];rfl]at g
  refine(C4 h).trans ?_
  refine(AA (by decide)).trans ?_
  refine(AA (by decide)).trans ?_
  rw[e1,ZX m (by omega),ZW m (by omega),BH (by omega),BH (by omega)]
  refine(Aa ga _).trans ?_
  simp only[eN,ND,Ab]
  refine(Aa g _).trans ?_
  rfl
theorem AkS:RF D where
 clean z h:=WU K R h
 neg z h:=Vw K R h
 sign z h:=Ex K R h
 of_ n h1 h2:=Ahe K R n h1 h2
 cmp a b ha hb:=Aae K R (Nat.le_refl _) ha hb
 add a b ha hb:=Sz K R (Nat.le_refl _) ha hb
 mul a b ha hb:=Aaf K R (Nat.le_refl _) (Nat.le_refl _) ha hb
 parse s:=Ul K R s
 same a b ha:=W7 K R ha
end
theorem Aal(n:Int):CD n=0 ↔ n=0:=by
 unfold CD
 repeat' split
 all_goals omega
theorem VG(n:Int):CD n<0 ↔ n<0:=by
 unfold CD
 repeat' split
 all_goals omega
theorem AcV(n:Int):0<CD n ↔ 0<n:=by
 unfold CD
 repeat' split
 all_goals omega
theorem IU(p:Prop)[Decidable p]:br (decide p) (some (bv true,([]:List BO))) (some (bv false,[]))=some (bv (decide p),[]):=by
 by_cases h:p
 .rw[decide_eq_true h];rfl
 .rw[decide_eq_false h];rfl
theorem P0(b:Bool):br b (some (bv true,([]:List BO))) (some (bv false,[]))=some (bv b,[]):=by cases b<;>rfl
theorem PZ(b:Bool):br b (some (bv false,([]:List BO))) (some (bv true,[]))=some (bv (!b),[]):=by cases b<;>rfl
section
variable {D:Orc} (Kh:Knows As PA D) (F:RF D)
include Kh F
theorem Abx{n k:Nat}{ps:List Pt}{kz:Zi}(ht:TmB n k ⟨ps,kz⟩)(hn:n<=1000000)(hk:k+n<=400000000)(v:Int)(y0:Bool)(y1:List (List AV)):∀(m i:Nat) (acc:Int),ps.length-i=m->i<=ps.length->InB (k+i) acc->
  D.ask (.lp 178 0) [iv v,.ptr 0 0,.ptr 1 0,.ptr 2 0,iv (i:Int)] [⟨[.ls (ps.map eP),bv kz.neg,eN kz.abs],true,false⟩,⟨[bv y0,.ls y1],true,false⟩,⟨eZ (AS acc),true,false⟩]
   = some (.tup [iv 0,.ptr 1 0,.ptr 2 0],[.del,.set ⟨[bv y0,.ls y1],true,false⟩,.set ⟨eZ (AS (acc+if 0<=v then A6 v ((ps.drop i).map pv) else 0)),true,false⟩]):=by
 have hlen:ps.length<=n:=ht.len
 intro m
 induction m with
 |zero=>
  intro i acc hm hi ha
  rw[List.drop_eq_nil_of_le (by omega)]
  have e0:acc+(if 0<=v then A6 v (([]:List Pt).map pv) else 0)=acc:=by
   rw[List.map_nil,A6]
   split<;>omega
  rw[e0]
  refine Kh.lp' RK _ rfl (by kernel_rfl) ((Yn ..).trans ?_)
  rw[Ax]
  exact(Ap (by omega)).trans rfl
 |succ m ih=>
  intro i acc hm hi ha
  have h1:i<ps.length:=by omega
  have hz:=ht.ps ps[i] (List.getElem_mem h1)
  rw[List.drop_eq_getElem_cons h1,List.map_cons,A6]
  have hn1:∀ kk,BG (ps.map eP) i kk=kk (eP ps[i]):=fun kk=>AO (List.getElem?_eq_getElem h1) kk
  have ga:=F.add (AS acc) ps[i].z (ha.lz.mono (by omega)) (hz.mono (by omega))
  rw[AJ]at ga
  have ih1:=ih (i+1) acc (by omega) (by omega) (ha.mono (by omega))
  have ih2:=ih (i+1) (acc+zv ps[i].z) (by omega) (by omega) (by
   show InB (k+i+1) _
   exact InB.add ha (hz.inb.mono (by omega)))
  refine Kh.lp' RK _ rfl (by kernel_rfl) ((Yn ..).trans ?_)
  rw[Ax]
  refine(Aq (by omega)).trans ?_
  rw[AN,hn1]
  simp only[eP,eN,ND,Ab]
  by_cases hv:ps[i].v=v
  .refine(AQ hv).trans ?_
   by_cases h0:0<=v
   .refine(CN h0).trans ?_
    rw[AN,hn1]
    simp only[eP,eN,ND,Ab]
    refine(Aa ga _).trans ?_
    simp only[eZ,eN,ND,Ab]
    rw[Bn (by omega)]
    refine(Aa ih2 _).trans ?_
    rw[if_pos h0,if_pos h0,if_pos (show (pv ps[i]).1=v from hv),Int.add_assoc]
    rfl
   .refine(C4 h0).trans ?_
    rw[Bn (by omega)]
    refine(Aa ih1 _).trans ?_
    rw[if_neg h0,if_neg h0]
    rfl
  .refine(AA hv).trans ?_
   rw[Bn (by omega)]
   refine(Aa ih1 _).trans ?_
   rw[if_neg (show ¬(pv ps[i]).1=v from hv),Int.zero_add]
   rfl
theorem Aby{n k:Nat}{t:Tm}(ht:TmB n k t)(hn:n<=1000000)(hk:k+n<=400000000)(v:Int):D.ask (.fn 178) [.agg (eT t),iv v] []=some (.agg (eZ (AS (if 0<=v then A6 v t.lf.ps else 0))),[]):=by
 obtain⟨ps,kz⟩:=t
 have g:=Abx Kh F ht hn hk v false [] _ 0 0 rfl (by omega) (InB.zero _)
 rw[List.drop_zero,Int.zero_add]at g
 have e0:eZ (AS 0)=[bv false,.ls []]:=by rw[Ll];rfl
 rw[e0]at g
 refine Kh.fn' RK _ rfl ((AlW ..).trans ?_)
 refine(Aa g _).trans ?_
 rfl
theorem AaK{n k j:Nat}{t:Tm}(ht:TmB n k t)(hn:n<=1000000)(vals:List Zi)(hv:∀ z∈vals,Lz j z)(hl:vals.length<=1000000)(hk:k+n+j+1+vals.length<=400000000)(y0:Bool)(y1:List (List AV)):∀(m i:Nat) (out:Zi),vals.length-i=m->i<=vals.length->Lz (k+n+j+1+i) out->zv out=zv t.k+HS t.lf.ps (vals.map zv) i->
  ∃ z:Zi,D.ask (.lp 117 0) [.ls (vals.map eZ),.ptr 0 0,.ptr 1 0,.ptr 2 0,iv (i:Int)] [⟨eT t,true,false⟩,⟨[bv y0,.ls y1],true,false⟩,⟨eZ out,true,false⟩]
   = some (.tup [iv 0,.ptr 1 0,.ptr 2 0],[.del,.set ⟨[bv y0,.ls y1],true,false⟩,.set ⟨eZ z,true,false⟩])/\zv z=zv t.k+HS t.lf.ps (vals.map zv) vals.length/\Lz (k+n+j+1+vals.length) z:=by
 intro m
 induction m with
 |zero=>
  intro i out hm hi ho hz
  obtain rfl:i=vals.length:=by omega
  refine⟨out,?_,hz,ho⟩
  obtain⟨ps,kz⟩:=t
  obtain⟨o1,o2⟩:=out
  refine Kh.lp' RE _ rfl (by kernel_rfl) ((Yg ..).trans ?_)
  rw[Ax]
  exact(Ap (by omega)).trans rfl
 |succ m ih=>
  intro i out hm hi ho hz
  have h1:i<vals.length:=by omega
  have gc:=Aby Kh F ht hn (by omega) (i:Int)
  rw[if_pos (by omega)]at gc
  have hzv:=hv vals[i] (List.getElem_mem h1)
  have hc:InB (k+n) (A6 (i:Int) t.lf.ps):=(Ie _ _ ht.lb.ps).mono (by have:=ht.lb.len;omega)
  have gm:=F.mul (AS (A6 (i:Int) t.lf.ps)) vals[i] (hc.lz.mono (by omega)) (hzv.mono (by omega))
  rw[AJ]at gm
  have hp:InB (k+n+j) (A6 (i:Int) t.lf.ps*zv vals[i]):=InB.mul hc hzv.inb
  have ga:=F.add out (AS (A6 (i:Int) t.lf.ps*zv vals[i])) (ho.mono (by omega)) (hp.lz.mono (by omega))
  rw[AJ]at ga
  obtain⟨z,g,h⟩:=ih (i+1) (AS (zv out+A6 (i:Int) t.lf.ps*zv vals[i])) (by omega) (by omega) (by
   have:=InB.add ho.inb (hp.mono (show k+n+j<=k+n+j+1+i by omega))
   exact this.lz) (by
   rw[AJ,hz,HS,List.getD_eq_getElem?_getD,List.getElem?_eq_getElem (by simpa using h1),Option.getD_some,List.getElem_map]
   omega)
  refine⟨z,?_,h⟩
  obtain⟨ps,kz⟩:=t
  obtain⟨o1,o2⟩:=out
  refine Kh.lp' RE _ rfl (by kernel_rfl) ((Yg ..).trans ?_)
  rw[Ax]
  refine(Aq (by omega)).trans ?_
  refine(Aa gc _).trans ?_
  simp only[eZ,eN,ND,Ab]
  rw[AN,AO (List.getElem?_eq_getElem h1)]
  simp only[eZ,eN,ND,Ab]
  refine(Aa gm _).trans ?_
  simp only[eZ,eN,ND,Ab]
  refine(Aa ga _).trans ?_
  simp only[eZ,eN,ND,Ab]
  rw[Bn (by omega)]
  refine(Aa g _).trans ?_
  rfl
theorem W6{n k j:Nat}{t:Tm}(ht:TmB n k t)(hn:n<=1000000)(vals:List Zi)(hv:∀ z∈vals,Lz j z)(hl:vals.length<=1000000)(hk:k+n+j+1+vals.length<=400000000) :
  D.ask (.fn 117) [.agg (eT t),.ls (vals.map eZ)] []=some (.agg (eZ (AS (t.lf.val (CK (vals.map zv))))),[]):=by
 obtain⟨z,g,hz,hlz⟩:=AaK Kh F ht hn vals hv hl hk false [] _ 0 t.k rfl (by omega) (ht.k.mono (by omega)) (by rw[HS];omega)
 have gc:=F.clean z (hlz.mono (by omega))
 have ev:zv z=t.lf.val (CK (vals.map zv)):=by
  rw[hz,SY,List.length_map]
  rfl
 rw[ev]at gc
 obtain⟨ps,kz⟩:=t
 refine Kh.fn' RE _ rfl ((Alu ..).trans ?_)
 refine(Aa g _).trans ?_
 simp only[eZ,eN,ND,Ab]
 refine(Aa gc _).trans ?_
 rfl
omit Kh F in
theorem WD{n k j:Nat}{l:Lf}(hl:LB n k l){vals:List Int}(hv:∀ x∈vals,InB j x):InB (k+n+j+vals.length+1) (l.val (CK vals)):=by
 rw[SY,Int.add_comm]
 exact InB.add (SH hl hv _) (hl.k.mono (by omega))
theorem WZ{n k j:Nat}{t:Tm}(ht:TmB n k t)(hn:n<=1000000)(e:Bool)(vals:List Zi)(hv:∀ z∈vals,Lz j z)(hl:vals.length<=1000000)(hk:k+n+j+1+vals.length<=400000000) :
  D.ask (.fn 66) [.agg [.ls (t.ps.map eP),bv t.k.neg,eN t.k.abs,bv e],.ls (vals.map eZ)] []=some (bv (Ui (t.lf.val (CK (vals.map zv))) e),[]):=by
 have g:=W6 Kh F ht hn vals hv hl hk
 have hb:=WD ht.lb (vals:=vals.map zv) (fun x hx=>by
  rw[List.mem_map]at hx
  obtain⟨z,hz,rfl⟩:=hx
  exact(hv z hz).inb)
 rw[List.length_map]at hb
 generalize t.lf.val (CK (vals.map zv))=x at g hb
 have gs:=F.sign (AS x) (hb.lz.mono (by omega))
 rw[AJ]at gs
 obtain⟨ps,kz⟩:=t
 refine Kh.fn' Aik _ rfl ((e66 ..).trans ?_)
 refine(Aa g _).trans ?_
 simp only[eZ,eN,ND,Ab]
 refine(Aa gs _).trans ?_
 simp only[ND,Ab]
 have h0:=Aal x
 have h1:=VG x
 cases e with
 |true=>
  refine(Az _ _).trans ?_
  rw[Qz,IU]
  congr 3
  unfold Ui
  simp only[Bool.not_true,Bool.false_and,Bool.or_false]
  rw[decide_eq_decide]
  exact h0
 |false=>
  refine(CM _ _).trans ?_
  rw[NF,IU]
  congr 3
  unfold Ui
  simp only[Bool.not_false,Bool.true_and]
  rw[←Bool.decide_or,decide_eq_decide]
  omega
def XZ(x:Fm):ABlk:=ABlk.mk (eF x) true false
omit F in
theorem Af8(f:Int->Int)(vals:List (List AV))(xk:Int)(xt:Tm)(xe:Bool)(ks:List Fm)(hl:ks.length<=1000000)(g:∀ y∈ks,D.ask (.fn 28) [.agg (eF y),.ls vals] []=some (bv (Ct f y),[])):∀(m i:Nat),ks.length-i=m->i<=ks.length->
  D.ask (.lp 28 0) [.ls vals,.ptr 0 0,iv (i:Int)] [XZ (.mk xk xt xe ks)]=some (if Ea f (ks.drop i) then .tup [iv 1] else .tup [bv true,bv false],[.del]):=by
 intro m
 induction m with
 |zero=>
  intro i hm hi
  rw[List.drop_eq_nil_of_le (by omega),Ea,if_pos rfl]
  refine Kh.lp' RU _ rfl (by kernel_rfl) ((Adz ..).trans ?_)
  rw[De,Ax]
  exact(Ap (by omega)).trans rfl
 |succ m ih=>
  intro i hm hi
  have h1:i<ks.length:=by omega
  have gy:=g ks[i] (List.getElem_mem h1)
  have ih:=ih (i+1) (by omega) (by omega)
  rw[List.drop_eq_getElem_cons h1,Ea]
  unfold XZ at ih ⊢
  rw[eF,De]at ih ⊢
  refine Kh.lp' RU _ rfl (by kernel_rfl) ((Adz ..).trans ?_)
  rw[Ax]
  refine(Aq (by omega)).trans ?_
  rw[AN,AO (List.getElem?_eq_getElem h1)]
  revert gy
  generalize ks[i]=y
  obtain⟨yk,yt,ye,ys⟩:=y
  intro gy
  simp only[eF,eN,ND,Ab]at gy ⊢
  refine(Aa gy _).trans ?_
  simp only[ND,Ab]
  cases Ct f (.mk yk yt ye ys) with
  |false=>rfl
  |true=>
   refine(Az _ _).trans ?_
   rw[Bn (by omega),Bool.true_and]
   refine(Aa ih _).trans ?_
   cases Ea f (ks.drop (i+1))<;>rfl
omit F in
theorem Af9(f:Int->Int)(vals:List (List AV))(xk:Int)(xt:Tm)(xe:Bool)(ks:List Fm)(hl:ks.length<=1000000)(g:∀ y∈ks,D.ask (.fn 28) [.agg (eF y),.ls vals] []=some (bv (Ct f y),[])):∀(m i:Nat),ks.length-i=m->i<=ks.length->
  D.ask (.lp 28 1) [.ls vals,.ptr 0 0,iv (i:Int)] [XZ (.mk xk xt xe ks)]=some (if Eb f (ks.drop i) then .tup [bv true,bv true] else .tup [iv 3],[.del]):=by
 intro m
 induction m with
 |zero=>
  intro i hm hi
  rw[List.drop_eq_nil_of_le (by omega),Eb,if_neg (by simp)]
  refine Kh.lp' RU _ rfl (by kernel_rfl) ((AdA ..).trans ?_)
  rw[De,Ax]
  exact(Ap (by omega)).trans rfl
 |succ m ih=>
  intro i hm hi
  have h1:i<ks.length:=by omega
  have gy:=g ks[i] (List.getElem_mem h1)
  have ih:=ih (i+1) (by omega) (by omega)
  rw[List.drop_eq_getElem_cons h1,Eb]
  unfold XZ at ih ⊢
  rw[eF,De]at ih ⊢
  refine Kh.lp' RU _ rfl (by kernel_rfl) ((AdA ..).trans ?_)
  rw[Ax]
  refine(Aq (by omega)).trans ?_
  rw[AN,AO (List.getElem?_eq_getElem h1)]
  revert gy
  generalize ks[i]=y
  obtain⟨yk,yt,ye,ys⟩:=y
  intro gy
  simp only[eF,eN,ND,Ab]at gy ⊢
  refine(Aa gy _).trans ?_
  simp only[ND,Ab]
  cases Ct f (.mk yk yt ye ys) with
  |true=>rfl
  |false=>
   refine(CM _ _).trans ?_
   rw[Bn (by omega),Bool.false_or]
   refine(Aa ih _).trans ?_
   cases Eb f (ks.drop (i+1))<;>rfl
theorem Wi{n k j:Nat}(hn:n<=1000000)(vals:List Zi)(hv:∀ z∈vals,Lz j z)(hl:vals.length<=1000000)(hk:k+n+j+1+vals.length<=400000000):∀(N:Nat) (x:Fm),SizeOf.sizeOf x<N->FB n k x->
  D.ask (.fn 28) [.agg (eF x),.ls (vals.map eZ)] []=some (bv (Ct (CK (vals.map zv)) x),[]):=by
 intro N
 induction N with
 |zero=>intro x h;omega
 |succ N ih=>
  intro x hN hx
  obtain⟨ht,hkl,h⟩:=hx
  rename_i kd t e ks
  have gks:∀ y∈ks,D.ask (.fn 28) [.agg (eF y),.ls (vals.map eZ)] []=some (bv (Ct (CK (vals.map zv)) y),[]):=fun y hy=>ih y (by have:=JH (k:=kd) (t:=t) (e:=e) hy;omega) (h y hy)
  have gA:=Af8 Kh (CK (vals.map zv)) (vals.map eZ) kd t e ks hkl gks _ 0 rfl (by omega)
  have gO:=Af9 Kh (CK (vals.map zv)) (vals.map eZ) kd t e ks hkl gks _ 0 rfl (by omega)
  have gr:=WZ Kh F ht hn e vals hv hl hk
  rw[List.drop_zero]at gA gO
  unfold XZ at gA gO
  rw[eF,De]at gA gO
  refine Kh.fn' RU _ rfl ((e28 ..).trans ?_)
  rw[Ct,De]
  by_cases h0:kd=0
  .rw[if_pos h0]
   exact AQ h0
  rw[if_neg h0]
  refine(AA h0).trans ?_
  by_cases h2:kd=2
  .rw[if_pos h2]
   refine(AQ h2).trans ?_
   refine(Aa gr _).trans ?_
   simp only[ND,Ab]
   exact P0 _
  rw[if_neg h2]
  refine(AA h2).trans ?_
  by_cases h3:kd=3
  .rw[if_pos h3]
   refine(AQ h3).trans ?_
   rw[Ax]
   cases ks with
   |nil=>rfl
   |cons y r=>
    have gy:=gks y (List.mem_cons_self ..)
    refine(Aq (by rw[List.length_cons];omega)).trans ?_
    rw[AO (x:=y) (show (y::r)[0]? = some y from rfl),Gx]
    obtain⟨yk,yt,ye,ys⟩:=y
    simp only[eF,eN,ND,Ab]at gy ⊢
    refine(Aa gy _).trans ?_
    simp only[ND,Ab]
    exact PZ _
  rw[if_neg h3]
  refine(AA h3).trans ?_
  by_cases h4:kd=4
  .rw[if_pos h4]
   refine(AQ h4).trans ?_
   refine(Aa gA _).trans ?_
   cases Ea (CK (vals.map zv)) ks<;>rfl
  rw[if_neg h4]
  refine(AA h4).trans ?_
  by_cases h5:kd=5
  .rw[if_pos h5]
   refine(AQ h5).trans ?_
   refine(Aa gO _).trans ?_
   cases Eb (CK (vals.map zv)) ks<;>rfl
  rw[if_neg h5]
  exact AA h5
end
end Go.Proofs.YtlmhajfbpplpoaaGreat
