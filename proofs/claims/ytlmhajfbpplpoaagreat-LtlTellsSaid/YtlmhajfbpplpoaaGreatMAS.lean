/- The text of a right tree -/
import Derived.Test.YtlmhajfbpplpoaaGreatMAR
set_option linter.all false
open Bool renaming false->Θ,true->U,and_eq_true->AvF
open List renaming drop->AvI,drop_eq_getElem_cons->ω,drop_eq_nil_of_le->ο,getElem?_eq_getElem->Ω,getElem_mem->AvN,length_append->ζ,length_cons->ε,length_eq_zero_iff->Awn,length_nil->Av0,mem_cons->AvK,not_mem_nil->Axp
open Nat renaming le_refl->η,le_trans->Awe,lt_succ_self->AvS
open Option renaming some->V
namespace Go.Proofs.YtlmhajfbpplpoaaGreat
open ABlk renaming mk->Ψ
open Go.RowKit
def StopB(rest:List UInt8):Prop:=rest=[]\/∃ c r,rest=c::r/\(c=32\/c=41)
def ApN(rest:List UInt8):Prop:=rest=[]\/∃ c r,rest=c::r/\(c=32\/c=41\/c=42)
theorem StopB.n{rest:List UInt8}(h:StopB rest):ApN rest:=by
 rcases h with h|⟨c,r,h,h2⟩
 .exact .inl h
 .exact .inr ⟨c,r,h,by rcases h2 with h2|h2<;>simp[h2]⟩
def HdB(s:List UInt8):Prop:=∃ d r,s=d::r/\(Gl d=U\/B9 d=U\/d=45\/d=40\/d=33)
theorem Apy{c d:UInt8}(hd:Gl d=U\/B9 d=U\/d=45\/d=40\/d=33):Apx c d=Θ:=by
 have:d.toNat≠62/\d.toNat≠61/\d.toNat≠46:=by
  unfold Gl B9 at hd;simp only[AvF,decide_eq_true_eq]at hd;rcases hd with h|h|rfl|rfl|rfl
  .omega
  .omega
  .decide
  .decide
  .decide
 unfold Apx Ar2;rw[Ad (λh=>this.1 h.2),Ad (λh=>this.2.1 h.2),Ad (λh=>this.2.1 h.2),Ad (λh=>this.2.1 h.2),Ad (λh=>this.2.1 h.2),Ad (λh=>this.2.2 h.2)];split<;>rfl
theorem HdB.two{s:List UInt8}(h:HdB s)(c:UInt8):s=[]\/∃ d r,s=d::r/\Apx c d=Θ:=by
 obtain⟨d,r,rfl,h⟩:=h;exact .inr ⟨d,r,rfl,Apy h⟩
theorem AfL{m:Mo}(h:Bh m=U):(m.num≠Ag []->Dy m.num.data.toList=U)/\(m.var≠Ag []->CA m.var.data.toList=U)/\(m.num=Ag []->m.var≠Ag []):=by
 grind [Bh]
theorem Da{ms:List Mo}(h:Ji ms=U):0<ms.length/\ms.length<=64/\ms.all Bh=U:=by
 grind [Ji]
def Nv(b:Bool)(s:List UInt8):List UInt8:=if b then [40]++s++[41] else s
def Lj(b:Bool)(s:List KT):List KT:=if b then [(2,[40])]++s++[(2,[41])] else s
theorem KN{k:Int}{d i:Nat}{x:Tr}{r:List Tr}(h:Ey k d i (x::r)=U):Et (brk k i x.kind) d<=60/\BJ x (Et (brk k i x.kind) d)=U/\Ey k d (i+1) r=U:=by
 grind [Ey]
inductive ShapeT:Tr->Nat->Prop where
 |tt (d:Nat):ShapeT (.mk 0 [] [] 0 (Ag []) (Ag []) []) d
 |ff (d:Nat):ShapeT (.mk 1 [] [] 0 (Ag []) (Ag []) []) d
 |cmp (d:Nat) {l r:List Mo} {op:Int} (hl:Ji l=U) (hr:Ji r=U) (h1:0<=op) (h2:op<=5):ShapeT (.mk 2 l r op (Ag []) (Ag []) []) d
 |no (d:Nat) {x:Tr} (hd:Et (brk 3 0 x.kind) (d+1)<=60) (h:BJ x (Et (brk 3 0 x.kind) (d+1))=U):ShapeT (.mk 3 [] [] 0 (Ag []) (Ag []) [x]) d
 |bin (d:Nat) {k:Int} {x y:Tr} (hk:k=4\/k=5) (hd:Et (brk k 0 x.kind) d<=60) (h:BJ x (Et (brk k 0 x.kind) d)=U) (gd:Et (brk k 1 y.kind) d<=60) (g:BJ y (Et (brk k 1 y.kind) d)=U):ShapeT (.mk k [] [] 0 (Ag []) (Ag []) [x,y]) d
theorem Qk{t:Tr}{d:Nat}(h:BJ t d=U):ShapeT t d:=by
 obtain⟨k,l,r,op,p,q,ks⟩:=t;rw[BJ]at h
 by_cases h2:k=2
 .rw[Ac h2]at h
  subst h2;unfold Ec at h;simp only[AvF,decide_eq_true_eq]at h;obtain⟨⟨⟨⟨⟨⟨⟨_,hl⟩,hr⟩,h3⟩,h4⟩,rfl⟩,rfl⟩,h5⟩:=h;obtain rfl:ks=[]:=Awn.1 h5;exact .cmp d hl hr h3 h4
 .rw[Ad h2]at h
  unfold C3 at h;simp only[AvF,decide_eq_true_eq]at h;obtain⟨⟨⟨⟨⟨⟨⟨hl,hr⟩,rfl⟩,rfl⟩,rfl⟩,ha⟩,hd⟩,hk⟩:=h;obtain rfl:l=[]:=Awn.1 hl;obtain rfl:r=[]:=Awn.1 hr;have hks:∀ n:Nat,(ks.length:Int)=(n:Int)->ks.length=n:=λn h=>by omega
  unfold arI at ha
  by_cases h0:k=0
  .subst h0
   rw[Ac rfl]at ha;obtain rfl:ks=[]:=Awn.1 (by omega);exact .tt d
  rw[Ad h0]at ha
  by_cases h1:k=1
  .subst h1
   rw[Ac rfl]at ha;obtain rfl:ks=[]:=Awn.1 (by omega);exact .ff d
  rw[Ad h1]at ha
  by_cases h3:k=3
  .subst h3
   rw[Ac rfl]at ha
   match ks,ha,hk with
   |[x],_,hk=>
    obtain⟨k1,k2,_⟩:=KN hk;exact .no d k1 k2
  rw[Ad h3]at ha;rw[Bu h3]at hk;have hb:(k=4\/k=5)/\ks.length=2:=by
   omega
  match ks,hb.2,hk with
  |[x,y],_,hk=>
   obtain⟨k1,k2,hk⟩:=KN hk;obtain⟨k3,k4,_⟩:=KN hk;exact .bin d hb.1 k1 k2 k3 k4
def QF(ts:List Tk)(i:Nat)(ks:List KT):Prop:=(ts.map kt).drop i=ks
section
variable {ts:List Tk}
theorem IQ{i:Nat}{a:KT}{r:List KT}(h:QF ts i (a::r)):((nx ts i).kind=a.1/\(nx ts i).text=a.2)/\QF ts (i+1) r:=by
 unfold QF at h ⊢;have h1:(ts.map kt)[i]? = V a:=by
  have:=congrArg (λl=>l[0]?) h;simpa using this
 rw[List.getElem?_map]at h1;refine⟨?_,?_⟩
 .unfold nx
  cases e:ts[i]? with
  |none=>rw[e]at h1;cases h1
  |some t=>
   rw[e]at h1;have:kt t=a:=Option.some.inj h1;rw[←this];exact⟨rfl,rfl⟩
 .have:=congrArg (AvI 1) h
  rw[List.drop_drop]at this;simpa[Nat.add_comm]using this
theorem Jw:∀{a r:List KT} {i:Nat},QF ts i (a++r)->QF ts (i+a.length) r
 |[],r,i,h=>h
 |x::a,r,i,h=>by
  have:=Jw (a:=a) (r:=r) (IQ h).2;rw[ε,show i+(a.length+1)=i+1+a.length by omega];exact this
theorem Ae8{i:Nat}{a:KT}{r:List KT}(h:QF ts i (a::r))(s:List UInt8):isT ts i s=(decide (a.2=s)&&(decide (a.1=1)||decide (a.1=2)||decide (a.1=4))):=by
 unfold isT;rw[(IQ h).1.1,(IQ h).1.2]
theorem EI{i:Nat}{a:KT}{r:List KT}(h:QF ts i (a::r)){s:List UInt8}(hs:a.2≠s):isT ts i s=Θ:=by
 rw[Ae8 h,Bu hs,Bool.false_and]
theorem Ow{i:Nat}{s:List UInt8}{r:List KT}(h:QF ts i ((2,s)::r)):isT ts i s=U:=by
 rw[Ae8 h];simp
def StopK(a:KT):Prop:=a=(5,[])\/a=(2,[41])\/a=(2,[38])\/a=(2,[124])
theorem StopK.ne{a:KT}(h:StopK a):a.2≠[42]/\a.2≠[43]/\a.2≠[45]:=by
 rcases h with rfl|rfl|rfl|rfl<;>decide
end
section
variable {ts:List Tk}
theorem Ag8(j:Nat)(x:Tr)(k:Nat->Tr->Nat × Nat × Tr):Cq (j,0,x) k=k j x:=by
 unfold Cq;rw[Ac rfl]
theorem Xf{n j d:Nat}{x:Tr}{a:KT}{q:List KT}(h:QF ts j (a::q))(ha:a.2≠[124]):WN ts [] Θ (n+1) (.condL x) j d=(j,0,x):=by
 show (if isT ts j [124] then _ else _)=_
 rw[EI h ha];rfl
theorem Af1{n i d:Nat}{q:List KT}(h:QF ts i ((2,[40])::q))(hd:d≠60):WN ts [] Θ (n+1) .one i d=Cq (WN ts [] Θ n .cond (i+1) (d+1)) λj x=>if isT ts j [41] then(j+1,0,x) else(j,101,T0):=by
 show (if _ then _ else _)=_
 rw[Ad (λe=>hd e.2),EI h (by decide),EI h (by decide),EI h (by decide),Ow h];rfl
def P1(ts:List Tk)(b:Bool)(t:Tr):Prop:=∀(f i d:Nat) (a:KT) (q:List KT),QF ts i (Lj b (Nj t)++a::q)->StopK a->Et b d<=60->BJ t (Et b d)=U->4*(Lj b (Nj t)).length<=f->WN ts [] Θ f .one i d=(i+(Lj b (Nj t)).length,0,t)
def P3(ts:List Tk)(t:Tr):Prop:=∀(f i d:Nat) (a:KT) (q:List KT),QF ts i (Nj t++a::q)->StopK a->a.2≠[38]->d<=60->BJ t d=U->4*(Nj t).length+2<=f->
 ∃ g,f<=g+4*(Nj t).length/\1<=g/\WN ts [] Θ f .cond i d=WN ts [] Θ g (.condL t) (i+(Nj t).length) d
theorem AhR(s:List KT):(Lj U s).length=s.length+2:=by
 unfold Lj;rw[Ac rfl];simp
theorem P1.br{t:Tr}(h:P3 ts t):P1 ts U t:=by
 intro f i d a q hat ha hd hr hf;rw[AhR]at hf ⊢;obtain⟨n,rfl⟩:∃ n,f=n+1:=⟨f-1,by omega⟩;have hat:QF ts i ((2,[40])::(Nj t++(2,[41])::a::q)):=by
  grind [Lj,Nj]
 have hd:d+1<=60:=hd;have h2:=(IQ hat).2;obtain⟨g,g1,g2,g3⟩:=h n (i+1) (d+1) (2,[41]) (a::q) h2 (.inr (.inl rfl)) (by decide) hd hr (by omega);obtain⟨g,rfl⟩:∃ n,g=n+1:=⟨g-1,by omega⟩;have h3:=Jw h2;rw[Af1 hat (by omega),g3,Xf h3 (by decide),Ag8,Ow h3,Ac rfl];rw[show i+1+(Nj t).length+1=i+((Nj t).length+2) by omega]
end
theorem Ags{t:Tr}{d:Nat}(hd:d<=60)(h:ShapeT t d):BJ t d=U:=by
 cases h with
 |tt=>rw[BJ];simp[C3,arI,Et,hd,Ey]
 |ff=>rw[BJ];simp[C3,arI,Et,hd,Ey]
 |cmp _ hl hr h1 h2=>rw[BJ];simp[Ec,hl,hr,h1,h2]
 |@no _ x hx h=>
  have:d+1<=60:=by
   grind [brk,Et]
  have e:Et (decide ((3:Int)=3)) d=d+1:=rfl;rw[BJ,Ad (by decide),e];simp only[Ey,hx,h];simp[C3,arI,this]
 |@bin _ k x y hk hx h gd g=>
  have e:Et (decide ((k:Int)=3)) d=d:=by rw[Bu (by omega)];rfl
  have a:arI k=2:=by rcases hk with rfl|rfl<;>rfl
  rw[BJ,Ad (by omega),e,a];simp only[Ey,hx,h,gd,g];simp[C3,hd]
section
variable {ts:List Tk}
def Ard(x:Tr):Nat:=(txt x).length+if x.kind=4\/x.kind=5 then 2 else 0
def Aot(x:Tr):Nat:=(txt x).length+if x.kind=5 then 2 else 0
structure ROk (d s:Nat) (x:Tr):Prop where
 r:BJ x d=U
 b:x.kind=4\/x.kind=5->d+1<=60/\BJ x (d+1)=U
 l:Ard x<=s
structure RWk (d s:Nat) (x:Tr):Prop where
 r:BJ x d=U
 b:x.kind=5->d+1<=60/\BJ x (d+1)=U
 l:Aot x<=s
structure RCk (d s:Nat) (x:Tr):Prop where
 r:BJ x d=U
 l:(txt x).length<=s
theorem ROk.w{d s:Nat}{x:Tr}(h:ROk d s x):RWk d s x:=⟨h.r,λe=>h.b (.inr e),by
 have:=h.l;unfold Ard at this;unfold Aot;split
 .grind
 .omega⟩
theorem RWk.c{d s:Nat}{x:Tr}(h:RWk d s x):RCk d s x:=⟨h.r,by
 have:=h.l;unfold Aot at this;omega⟩
end
theorem ROk.le{d s s':Nat}{x:Tr}(h:ROk d s x)(hs:s<=s'):ROk d s' x:=⟨h.r,h.b,Awe h.l hs⟩
theorem RWk.le{d s s':Nat}{x:Tr}(h:RWk d s x)(hs:s<=s'):RWk d s' x:=⟨h.r,h.b,Awe h.l hs⟩
theorem RCk.le{d s s':Nat}{x:Tr}(h:RCk d s x)(hs:s<=s'):RCk d s' x:=⟨h.r,Awe h.l hs⟩
theorem Y7(s:List UInt8):(eOp s).length=1:=rfl
structure SumF (D:Orc):Prop where
 sum:∀ ms:List Mo,Ji ms=U->D.ask (.fn 22) [.ls (ms.map C4)] []=V (sv (Ag (CY ms)),[])
theorem AfM{m:Mo}(h:Bh m=U):m.num.size<=60/\m.var.size<=20:=by
 obtain⟨h1,h2,_⟩:=AfL h;rw[JL,JL];constructor
 .by_cases e:m.num=Ag []
  .rw[e];simp[Ag]
  .exact LM (h1 e)
 .by_cases e:m.var=Ag []
  .rw[e];simp[Ag]
  .exact Do (h2 e)
theorem Fh{ms:List Mo}(h:Ji ms=U):ms.length<4611686018427387904/\∀ m∈ms,m.num.size<=9223372036854775807/\m.var.size<=9223372036854775807:=by
 obtain⟨_,h2,h3⟩:=Da h;refine⟨by omega,λm hm=>?_⟩;have:=AfM (List.all_eq_true.1 h3 m hm);omega
theorem Agu:∀(n:Nat) (t:Tr) (d:Nat),SizeOf.sizeOf t<n->BJ t d=U->WzT t:=by
 intro n
 induction n with
 |zero=>intro t d h;omega
 |succ n ih=>
  intro t d hn h
  cases Qk h with
  |tt=>exact .mk (by simp) (by simp) (by simp) (by simp) (by simp) (by simp)
  |ff=>exact .mk (by simp) (by simp) (by simp) (by simp) (by simp) (by simp)
  |@cmp _ l r op hl hr h1 h2=>exact .mk (Fh hl).1 (Fh hr).1 (by simp) (Fh hl).2 (Fh hr).2 (by simp)
  |@no _ x hd hx=>
   refine .mk (by simp) (by simp) (by simp) (by simp) (by simp) λy hy=>?_
   obtain rfl:y=x:=by simpa using hy
   exact ih y _ (by simp only[Tr.mk.sizeOf_spec,List.cons.sizeOf_spec]at hn;omega) hx
  |@bin _ k x y hk hd hx gd hy=>
   refine .mk (by simp) (by simp) (by simp) (by simp) (by simp) λz hz=>?_
   simp only[AvK,Axp,or_false]at hz;rcases hz with rfl|rfl
   .exact ih z _ (by simp only[Tr.mk.sizeOf_spec,List.cons.sizeOf_spec]at hn;omega) hx
   .exact ih z _ (by simp only[Tr.mk.sizeOf_spec,List.cons.sizeOf_spec]at hn;omega) hy
section
variable {D:Orc}
variable (K:Knows Ak Wr D) (Kt:Knows Ak Fi D) (L:LexN D) (Ke:Knows Ak Qq D) (S:SumF D)
include K Kt L Ke S
theorem Xc{l r:List Mo}{op:Int}(hl:Ji l=U)(hr:Ji r=U)(h1:0<=op)(h2:op<=5):D.ask (.fn 47) [.agg (BH (.mk 2 l r op (Ag []) (Ag []) []))] []=V (sv (Ag (Lp l r op)),[]):=by
 have hr0:BJ (.mk 2 l r op (Ag []) (Ag []) []) 0=U:=Ags (by omega) (.cmp 0 hl hr h1 h2);have gc:=Lb Kt L (.mk 2 l r op (Ag []) (Ag []) []) (Agu _ _ 0 (AvS _) hr0);have hc:Ec (.mk 2 l r op (Ag []) (Ag []) [])=U:=by
  unfold Ec;simp[hl,hr,h1,h2]
 rw[hc]at gc;have g1:=S.sum l hl;have g2:=S.sum r hr;have l1:=D6 l 0 (Da hl).2.2;have l2:=D6 r 0 (Da hr).2.2;have l3:=(Da hl).2.1;have l4:=(Da hr).2.1;have e1:CY l=CF 0 l:=by unfold CY;rw[Ac hl]
 have e2:CY r=CF 0 r:=by unfold CY;rw[Ac hr]
 rw[←e1]at l1;rw[←e2]at l2;obtain⟨n,rfl⟩:∃ n:Nat,op=n:=⟨op.toNat,by omega⟩;have hn:n<6:=by omega
 have hop:M4[n]? = V (M4.getD n []):=by
  match n,hn with
  |0,_=>rfl
  |1,_=>rfl
  |2,_=>rfl
  |3,_=>rfl
  |4,_=>rfl
  |5,_=>rfl
 have hol:(M4.getD n []).length<=2:=by
  match n,hn with
  |0,_=>decide
  |1,_=>decide
  |2,_=>decide
  |3,_=>decide
  |4,_=>decide
  |5,_=>decide
 refine Aq K AqG (e47 ..) ?_;refine Aa gc ?_;simp only[Ae];refine Aa g1 ?_;simp only[Ae,BE,F5,D9];have s1:(Ag [32]).size=1:=rfl;refine(BL (by simp only[Bc,ζ,ε,Av0];omega) _ _).trans ?_;refine Aa (Uv Ke) ?_;simp only[Ae];rw[AA,Az hop];simp only[eOp,Ae,BE,F5,D9];refine(BL (by simp only[Bc,ζ,ε,Av0];omega) _ _).trans ?_;refine(BL (by simp only[Bc,ζ,ε,Av0];omega) _ _).trans ?_;refine Aa g2 ?_;simp only[Ae,BE,F5,D9];refine(BL (by simp only[Bc,ζ,ε,Av0];omega) _ _).trans ?_;rfl
end
theorem Ae9(c:Prop)[Decidable c](a b:List UInt8):(if c then V (sv (Ag a),([]:List BO)) else V (sv (Ag b),[]))=V (sv (Ag (if c then a else b)),[]):=by
 by_cases h:c
 .rw[Ac h,Ac h]
 .rw[Ad h,Ad h]
theorem DE(k:Int)(i:Nat)(x:Tr)(r:List Tr):D0 k i (x::r)=Nv (Cd k i x.kind) (BP x)::D0 k (i+1) r:=by rw[D0];rfl
theorem B5(k:Int)(i:Nat):D0 k i []=[]:=by rw[D0]
section
variable {D:Orc}
variable (K:Knows Ak Wq D)
include K
theorem Vy(k:Int):D.ask (.fn 138) [iv k] []=V (sv (Ag (CU k)),[]):=by
 refine Aq K Ak4 (AsS ..) ?_;unfold CU;simp only[Jh,EV,decide_eq_true_eq,Ae9]
variable (Kl:Knows Ak NX D)
include Kl
theorem PA(t:Tr)(ks:List Tr)(hk:ks.length<=2)(g:∀ x∈ks,D.ask (.fn 80) [.agg (BH x)] []=V (sv (Ag (BP x)),[])/\(BP x).length<=1000000000000):∀(n i:Nat) (out:List (List UInt8)),ks.length-i=n->out.length+n<=2->
  D.ask (.lp 80 0) [.ptr 0 0,.sl 1 0 out.length 1,.ls (ks.map BH),iv (ks.length:Int),iv (i:Int)] [IE t,Ψ (Av eOp out) U U] =
   V (.tup [iv 0,.ptr 0 0,.sl 2 0 (out++D0 t.kind i (ks.drop i)).length 1],[.set (IE t),.del,.set (Ψ (Av eOp (out++D0 t.kind i (ks.drop i))) U U)]):=by
 intro n;obtain⟨k,l,r,op,p,q,kz⟩:=t
 induction n with
 |zero=>
  intro i out hi ho;refine Ax K XL (AkD ..) ?_;rw[show ks.drop i=[] from ο (by omega),B5,List.append_nil];refine Am ?_;rfl
 |succ n ih=>
  intro i out hi ho;have hlt:i<ks.length:=by omega
  rw[show ks.drop i=ks[i]::ks.drop (i+1) from ω hlt];obtain⟨gx,gl⟩:=g ks[i] (AvN hlt);have hb:=J3 Kl k i ks[i];refine Ax K XL (AkD ..) ?_;refine Ao ?_;rw[AA,Az (Ω hlt)];rw[DE];have ih:=ih (i+1) (out++[Nv (Cd k i ks[i].kind) (BP ks[i])]) (by omega) (by simp;omega);rw[List.append_assoc,ζ,List.length_singleton]at ih;revert gx hb gl ih;generalize ks[i]=x;obtain⟨xk,xl,xr,xo,xp,xq,xs⟩:=x;intro gx gl hb ih;unfold Tr.kind;unfold Tr.kind at hb ih;simp only[BH,Ae]at gx hb ⊢;refine Aa gx ?_;simp only[Ae];refine Aa hb ?_;simp only[Ae];rw[Bn (by omega)];have hf:AU (out.length+1) 16=U:=AL (by omega) (by omega);have hb1:Nat.ble (0+out.length*1) (Av eOp out).length=U:=AK Y7 out (by omega);have e3:∀ s,AvI 0 (List.take (0+out.length*1) (Av eOp out))++[sv (Ag s)]=Av eOp (out++[s]):=λs=>by
   rw[List.drop_zero,A0 Y7 out (by omega)];exact AW eOp out s
  cases hbk:Cd k i xk with
  |true=>
   rw[hbk]at ih;refine Af ?_;simp only[BE,F5,D9];refine(BL (by simp only[Bc,ε,Av0];omega) _ _).trans ?_;refine(BL (by simp only[Bc,ζ,ε,Av0];omega) _ _).trans ?_;rw[hf,hb1,e3];refine Af ?_;refine Af ?_;refine Aa ih ?_;rfl
  |false=>
   rw[hbk]at ih;refine Bm ?_;rw[hf,hb1,e3];refine Af ?_;refine Af ?_;refine Aa ih ?_;rfl
end
theorem I3{k:Int}{d i:Nat}{x:Tr}{r:List Tr}(h:C8 k d i (x::r)=U):Et (Cd k i x.kind) d<=60/\AO x (Et (Cd k i x.kind) d)=U/\C8 k d (i+1) r=U:=by
 grind [C8]
inductive ShapeL:Tr->Nat->Prop where
 |tt (d:Nat):ShapeL (.mk 0 [] [] 0 (Ag []) (Ag []) []) d
 |ff (d:Nat):ShapeL (.mk 1 [] [] 0 (Ag []) (Ag []) []) d
 |cmp (d:Nat) {l r:List Mo} {op:Int} (hl:Ji l=U) (hr:Ji r=U) (h1:0<=op) (h2:op<=5):ShapeL (.mk 2 l r op (Ag []) (Ag []) []) d
 |at(d:Nat) {p q:ByteArray} (hp:CA p.data.toList=U) (hq:CA q.data.toList=U):ShapeL (.mk 6 [] [] 0 p q []) d
 |one (d:Nat) {k:Int} {x:Tr} (hk:C1 k=1) (hd:Et (Cd k 0 x.kind) (d+1)<=60) (h:AO x (Et (Cd k 0 x.kind) (d+1))=U):ShapeL (.mk k [] [] 0 (Ag []) (Ag []) [x]) d
 |two (d:Nat) {k:Int} {x y:Tr} (hk:C1 k=2) (hd:Et (Cd k 0 x.kind) d<=60) (h:AO x (Et (Cd k 0 x.kind) d)=U) (gd:Et (Cd k 1 y.kind) d<=60) (g:AO y (Et (Cd k 1 y.kind) d)=U):ShapeL (.mk k [] [] 0 (Ag []) (Ag []) [x,y]) d
theorem DC(k:Int):(C1 k=0/\(k=0\/k=1\/k=2\/k=6))\/(C1 k=1/\(k=3\/k=8\/k=9\/k=10))\/(C1 k=2/\(k=4\/k=5\/k=7\/k=11\/k=12))\/C1 k=-1:=by
 unfold C1
 by_cases h0:k=0;· simp[h0]
 by_cases h1:k=1;· simp[h1]
 by_cases h2:k=2;· simp[h2]
 by_cases h6:k=6;· simp[h6]
 by_cases h3:k=3;· simp[h3]
 by_cases h8:k=8;· simp[h8]
 by_cases h9:k=9;· simp[h9]
 by_cases h10:k=10;· simp[h10]
 by_cases h4:k=4;· simp[h4]
 by_cases h5:k=5;· simp[h5]
 by_cases h7:k=7;· simp[h7]
 by_cases h11:k=11;· simp[h11]
 by_cases h12:k=12;· simp[h12]
 simp[h0,h1,h2,h6,h3,h8,h9,h10,h4,h5,h7,h11,h12]
theorem Hu{k:Int}{l r:List Mo}{op:Int}{p q:ByteArray}{ks:List Tr}(h:C3 (.mk k l r op p q ks)=U):l=[]/\r=[]/\op=0/\p=Ag []/\q=Ag []:=by
 grind [C3]
theorem FE{t:Tr}{d:Nat}(h:AO t d=U):ShapeL t d:=by
 obtain⟨k,l,r,op,p,q,ks⟩:=t;rw[AO]at h
 by_cases ha:(ks.length:Int)=C1 k
 .rw[Ac ha]at h
  rcases DC k with⟨e,hk⟩|⟨e,hk⟩|⟨e,hk⟩|e
  .rw[Ac e,IB]at h
   obtain rfl:ks=[]:=Awn.1 (by omega);rcases hk with rfl|rfl|rfl|rfl
   .rw[Ad (by decide),Ad (by decide)]at h
    obtain⟨rfl,rfl,rfl,rfl,rfl⟩:=Hu h;exact .tt d
   .rw[Ad (by decide),Ad (by decide)]at h
    obtain⟨rfl,rfl,rfl,rfl,rfl⟩:=Hu h;exact .ff d
   .rw[Ac rfl]at h
    unfold Ec at h;simp only[AvF,decide_eq_true_eq]at h;obtain⟨⟨⟨⟨⟨⟨⟨_,hl⟩,hr⟩,h3⟩,h4⟩,rfl⟩,rfl⟩,_⟩:=h;exact .cmp d hl hr h3 h4
   .rw[Ad (by decide),Ac rfl]at h
    simp only[AvF,decide_eq_true_eq]at h;obtain⟨⟨⟨⟨h1,h2⟩,rfl⟩,h4⟩,h5⟩:=h;obtain rfl:l=[]:=Awn.1 h1;obtain rfl:r=[]:=Awn.1 h2;exact .at d h4 h5
  .rw[Ad (by omega),Ba e]at h
   simp only[AvF,decide_eq_true_eq]at h;obtain⟨⟨hd,hb⟩,hk⟩:=h;obtain⟨rfl,rfl,rfl,rfl,rfl⟩:=Hu hb;have hl:ks.length=1:=by omega
   match ks,hl,hk with
   |[x],_,hk=>
    obtain⟨k1,k2,_⟩:=I3 hk;exact .one d e k1 k2
  .rw[Ad (by omega),Bu (show ¬C1 k=1 by omega)]at h
   simp only[AvF,decide_eq_true_eq]at h;obtain⟨⟨hd,hb⟩,hk⟩:=h;obtain⟨rfl,rfl,rfl,rfl,rfl⟩:=Hu hb;have hl:ks.length=2:=by omega
   match ks,hl,hk with
   |[x,y],_,hk=>
    obtain⟨k1,k2,hk⟩:=I3 hk;obtain⟨k3,k4,_⟩:=I3 hk;exact .two d e k1 k2 k3 k4
  .omega
 .rw[Ad ha]at h
  cases h
theorem Jx(s:ByteArray):Ag s.data.toList=s:=by
 unfold Ag;simp
theorem M0(k:Int)(x:Tr):BP (.mk k [] [] 0 (Ag []) (Ag []) [x])=CU k++Nv (Cd k 0 x.kind) (BP x):=by
 rw[BP,DE,B5];rfl
theorem M1(k:Int)(x y:Tr):BP (.mk k [] [] 0 (Ag []) (Ag []) [x,y])=Nv (Cd k 0 x.kind) (BP x)++CU k++Nv (Cd k 1 y.kind) (BP y):=by
 rw[BP,DE,DE,B5];rfl
theorem Ku(b:Bool)(s:List UInt8):s.length<=(Nv b s).length:=by
 cases b
 .exact η _
 .show s.length<=([40]++s++[41]).length
  simp;omega
section
variable {D:Orc} (K:Knows Ak Wq D) (Kl:Knows Ak NX D) (Kx:Knows Ak Wr D) (Kt:Knows Ak Fi D) (L:LexN D) (Ke:Knows Ak Qq D) (S:SumF D)
include K Kl Kx Kt L Ke S
theorem Afx:∀(n:Nat) (t:Tr) (d:Nat),SizeOf.sizeOf t<n->AO t d=U->(BP t).length<=1000000000000->D.ask (.fn 80) [.agg (BH t)] []=V (sv (Ag (BP t)),[]):=by
 have leaf:∀ t:Tr,(∃ k l r op p q,t=.mk k l r op p q [])->D.ask (.fn 137) [.agg (BH t)] []=V (sv (Ag (FT t)),[])->D.ask (.fn 80) [.agg (BH t)] []=V (sv (Ag (BP t)),[]):=by
  rintro t ⟨k,l,r,op,p,q,rfl⟩ g;have glp:=PA K Kl (.mk k l r op p q []) [] (by simp) (by simp) 0 0 [] rfl (by simp);have e:BP (.mk k l r op p q [])=FT (.mk k l r op p q []):=by
   rw[BP,B5];rfl
  rw[e];have ek:D0 (Tr.mk k l r op p q []).kind 0 (([]:List Tr).drop 0)=[]:=by
   show D0 k 0 []=_
   rw[B5]
  rw[ek]at glp;refine Aq K XL (e80 ..) ?_;refine Aa glp ?_;simp only[IE,BH,KD,Ae]at g ⊢;refine Aw ?_ rfl;refine Aa g ?_;rfl
 intro n
 induction n with
 |zero=>intro t d h;omega
 |succ n ih=>
  intro t d hn h hlen
  cases FE h with
  |tt=>
   refine leaf _ ⟨_,_,_,_,_,_,rfl⟩ ?_;refine Aq K UU (Ah5 ..) ?_;exact Aw rfl rfl
  |ff=>
   refine leaf _ ⟨_,_,_,_,_,_,rfl⟩ ?_;refine Aq K UU (Ah5 ..) ?_;refine Ap ?_ (by decide);exact Aw rfl rfl
  |@cmp _ l r op hl hr h1 h2=>
   refine leaf _ ⟨_,_,_,_,_,_,rfl⟩ ?_;have gc:=Xc Kx Kt L Ke S hl hr h1 h2;have hc:Ec (.mk 2 l r op (Ag []) (Ag []) [])=U:=by
    unfold Ec;simp[hl,hr,h1,h2]
   have e:FT (.mk 2 l r op (Ag []) (Ag []) [])=Lp l r op:=by rw[FT,Ad (by decide),Ad (by decide),Ad (by decide),Ac hc]
   rw[e];refine Aq K UU (Ah5 ..) ?_;refine Ap ?_ (by decide);refine Ap ?_ (by decide);refine Ap ?_ (by decide);simp only[BH,KD]at gc;refine Aa gc ?_;rfl
  |@«at» _ p q hp hq=>
   have lp:=Do hp;have lq:=Do hq;have e:FT (.mk 6 [] [] 0 p q [])=[64]++p.data.toList++[46]++q.data.toList:=by rw[FT,Ad (by decide),Ad (by decide),Ac rfl]
   refine leaf _ ⟨_,_,_,_,_,_,rfl⟩ ?_;rw[e];obtain⟨a,rfl⟩:∃ a,p=Ag a:=⟨_,(Jx p).symm⟩;obtain⟨b,rfl⟩:∃ b,q=Ag b:=⟨_,(Jx q).symm⟩;rw[BG]at lp lq;rw[BG,BG];refine Aq K UU (Ah5 ..) ?_;refine Ap ?_ (by decide);refine Ap ?_ (by decide);refine Aw ?_ rfl;simp only[BE,F5,D9];refine(BL (by simp only[Bc,ε,Av0];omega) _ _).trans ?_;refine(BL (by simp only[Bc,ζ,ε,Av0];omega) _ _).trans ?_;refine(BL (by simp only[Bc,ζ,ε,Av0];omega) _ _).trans ?_;rfl
  |@one _ k x hk hd2 hx=>
   rw[M0]at hlen ⊢;rw[ζ]at hlen;have hg:=Ku (Cd k 0 x.kind) (BP x);have gx:=ih x _ (by simp only[Tr.mk.sizeOf_spec,List.cons.sizeOf_spec]at hn;omega) hx (by omega);have glp:=PA K Kl (.mk k [] [] 0 (Ag []) (Ag []) [x]) [x] (by simp) (by
    intro y hy;obtain rfl:y=x:=by simpa using hy
    exact⟨gx,by omega⟩) 1 0 [] rfl (by simp)
   have ek:D0 (Tr.mk k [] [] 0 (Ag []) (Ag []) [x]).kind 0 ([x].drop 0)=[Nv (Cd k 0 x.kind) (BP x)]:=by
    show D0 k 0 [x]=_
    rw[DE,B5]
   rw[ek]at glp;have gs:=Vy K k;refine Aq K XL (e80 ..) ?_;refine Aa glp ?_;generalize Nv (Cd k 0 x.kind) (BP x)=sx at *;generalize CU k=sg at *;simp only[IE,BH,Ae];refine Ap ?_ (by show ¬ (1:Int)=0;decide);refine Aw ?_ rfl;refine Aa gs ?_;simp only[Ae]
   show br ((Ai.slen (Ag sg)+Ai.slen (Ag sx)).ble 9223372036854775807) (V (sv (Ai.cat (Ag sg) (Ag sx)),[])) none=_
   rw[BE,BE,F5,D9];refine(BL (by simp only[Bc];omega) _ _).trans ?_;rfl
  |@two _ k x y hk hd hx gd hy=>
   rw[M1]at hlen ⊢;rw[ζ,ζ]at hlen;have hg:=Ku (Cd k 0 x.kind) (BP x);have hg2:=Ku (Cd k 1 y.kind) (BP y);have gx:=ih x _ (by simp only[Tr.mk.sizeOf_spec,List.cons.sizeOf_spec]at hn;omega) hx (by omega);have gy:=ih y _ (by simp only[Tr.mk.sizeOf_spec,List.cons.sizeOf_spec]at hn;omega) hy (by omega);have glp:=PA K Kl (.mk k [] [] 0 (Ag []) (Ag []) [x,y]) [x,y] (by simp) (by
    intro z hz;simp only[AvK,Axp,or_false]at hz;rcases hz with rfl|rfl
    .exact⟨gx,by omega⟩
    .exact⟨gy,by omega⟩) 2 0 [] rfl (by simp)
   have ek:D0 (Tr.mk k [] [] 0 (Ag []) (Ag []) [x,y]).kind 0 ([x,y].drop 0)=[Nv (Cd k 0 x.kind) (BP x),Nv (Cd k 1 y.kind) (BP y)]:=by
    show D0 k 0 [x,y]=_
    rw[DE,DE,B5]
   rw[ek]at glp;have gs:=Vy K k;refine Aq K XL (e80 ..) ?_;refine Aa glp ?_;generalize Nv (Cd k 0 x.kind) (BP x)=sx at *;generalize Nv (Cd k 1 y.kind) (BP y)=sy at *;generalize CU k=sg at *;simp only[IE,BH,Ae];refine Ap ?_ (by show ¬ (2:Int)=0;decide);refine Ap ?_ (by show ¬ (2:Int)=1;decide);refine Af ?_;have r0:∀ kk:Ab->KR,Gf (Av eOp ([]++[sx,sy])) 0 1 kk=kk [sv (Ag sx)]:=λkk=>rfl
   have r1:∀ kk:Ab->KR,Gf (Av eOp ([]++[sx,sy])) 1 1 kk=kk [sv (Ag sy)]:=λkk=>rfl
   refine(r0 _).trans ?_;simp only[Ae];refine Aa gs ?_;simp only[Ae,BE,F5,D9];refine(BL (by simp only[Bc];omega) _ _).trans ?_;refine Af ?_;refine(r1 _).trans ?_;simp only[Ae,BE,F5,D9];refine(BL (by simp only[Bc,ζ];omega) _ _).trans ?_;rfl
theorem Uh(t:Tr)(hz:WzT t)(hp:WzP t)(h:AO t 0=U)(hlen:(BP t).length<=1000000000000):D.ask (.fn 38) [.agg (BH t)] []=V (sv (Ag (BP t)),[]):=by
 have g1:=G8 Kl Kt L t hz hp;have g2:=Afx K Kl Kx Kt L Ke S _ t 0 (AvS _) h hlen;rw[h]at g1;obtain⟨k,l,r,op,p,q,ks⟩:=t;simp only[BH]at g1 g2 ⊢;refine Aq K Aod (e38 ..) ?_;refine Aa g1 ?_;simp only[Ae];refine Aa g2 ?_;rfl
omit Kx Ke S in
theorem AcX(t:Tr)(hz:WzT t)(hp:WzP t)(h:AO t 0=Θ):D.ask (.fn 38) [.agg (BH t)] []=V (sv (Ag []),[]):=by
 have g1:=G8 Kl Kt L t hz hp;rw[h]at g1;obtain⟨k,l,r,op,p,q,ks⟩:=t;simp only[BH]at g1 ⊢;refine Aq K Aod (e38 ..) ?_;refine Aa g1 ?_;rfl
end
section
open Go.RowKit
variable (A:Ar) (D:Orc)
end

section
open Go.RowKit
variable (A:Ar) (D:Orc)
end

section
open Go.RowKit
mutual
def Hz:Tr->Nat
 |.mk _ _ _ _ _ _ ks=>1+EW ks
def EW:List Tr->Nat
 |[]=>0
 |x::r=>Hz x+EW r
end
theorem Adt(k:Int)(l r:List Mo)(op:Int)(p q:ByteArray)(x:Tr):Hz (.mk k l r op p q [x])=1+Hz x:=by
 rw[Hz,EW,EW,Nat.add_zero]
theorem Adu(k:Int)(l r:List Mo)(op:Int)(p q:ByteArray)(x y:Tr):Hz (.mk k l r op p q [x,y])=1+(Hz x+Hz y):=by
 rw[Hz,EW,EW,EW];omega
theorem Qp{ms:List Mo}(h:Ji ms=U):(CY ms).length<=5376:=by
 have h1:=D6 ms 0 (Da h).2.2;have h2:=(Da h).2.1;unfold CY;rw[Ac h];omega
section
variable {D:Orc}
theorem AjR(Ks:Knows Ak Wp D)(t:Tr)(L:Nat)(hL:L<=1000)(hk:t.kids.length<4611686018427387904)
  (g:∀ x∈t.kids,∀ L:Nat,L<=1000->∃ n:Nat,D.ask (.fn 21) [.agg (BH x),iv (L:Int)] []=V (iv (n:Int),[])/\n<=L+1/\(n<=L->n=Hz x)):∀(k i n:Nat),t.kids.length-i=k->n<=L+1->
  ∃ m:Nat,D.ask (.lp 21 0) [iv (L:Int),.ptr 0 0,iv (n:Int),iv (i:Int)] [IE t]=V (.tup [iv 0,iv (m:Int)],[.del])/\m<=L+1/\n<=m/\(m<=L->m=n+EW (t.kids.drop i)):=by
 intro k;obtain⟨kd,l,r,op,p,q,ks⟩:=t;simp only[Tr.kids]at g hk ⊢;have hlen:AP (KD ks)=ks.length:=by rw[B1,Aj]
 induction k with
 |zero=>
  intro i n hi hn;refine⟨n,?_,hn,η _,λ_=>?_⟩
  .refine Ax Ks Abd (AdW ..) ?_
   rw[hlen];refine Am ?_;rfl
  .rw[show ks.drop i=[] from ο (by omega),EW]
   omega
 |succ k ih=>
  intro i n hi hn;have hlt:i<ks.length:=by omega
  by_cases hnl:n<=L
  .obtain⟨a,g1,g2,g3⟩:=g ks[i] (AvN hlt) (L-n) (by omega)
   obtain⟨m,k1,k2,k3,k4⟩:=ih (i+1) (n+a) (by omega) (by omega);refine⟨m,?_,k2,by omega,λhm=>?_⟩
   .refine Ax Ks Abd (AdW ..) ?_
    rw[hlen];refine Ao ?_;rw[Tz,Ba (show (n:Int)<=(L:Int) by omega)];refine Af ?_;rw[B1,AA,Az (Ω hlt)];rw[Hc (a:=(L:Int)) (b:=(n:Int)) (by omega) (by omega),show (L:Int)-(n:Int)=((L-n:Nat):Int) by omega];revert g1;generalize ks[i]=x;obtain⟨xk,xl,xr,xo,xp,xq,xs⟩:=x;intro g1;simp only[BH,Ae]at g1 ⊢;refine Aa g1 ?_;simp only[Ae];rw[Bn (by omega),Ha (a:=(n:Int)) (b:=(a:Int)) (by omega) (by omega),show (n:Int)+(a:Int)=((n+a:Nat):Int) by omega];unfold IE at k1;rw[BH,B1]at k1;refine Aa k1 ?_;rfl
   .rw[show ks.drop i=ks[i]::ks.drop (i+1) from ω hlt,EW]
    have:=k4 hm;have:=g3 (by omega);omega
  .refine⟨n,?_,hn,η _,λh=>absurd h hnl⟩
   refine Ax Ks Abd (AdW ..) ?_;rw[hlen];refine Ao ?_;rw[Tz,Bu (show ¬(n:Int)<=(L:Int) by omega)];rfl
theorem AjS(Ks:Knows Ak Wp D):∀(N:Nat) (t:Tr),SizeOf.sizeOf t<N->WzT t->∀ L:Nat,L<=1000->∃ n:Nat,D.ask (.fn 21) [.agg (BH t),iv (L:Int)] []=V (iv (n:Int),[])/\n<=L+1/\(n<=L->n=Hz t):=by
 intro N
 induction N with
 |zero=>intro t h;omega
 |succ N ih=>
  intro t hn hz L hL;obtain⟨hl,hr,hk,zl,zr,hx⟩:=hz;rename_i k l r op p q ks;have g:=AjR Ks (.mk k l r op p q ks) L hL hk (λx hm L hL=>ih x (by
   have h1:=LC hm;simp only[Tr.mk.sizeOf_spec,Tr.kids]at hn h1;omega) (hx x hm) L hL) _ 0 1 rfl (by omega)
  obtain⟨m,g1,g2,g3,g4⟩:=g;refine⟨m,?_,g2,λh=>?_⟩
  .refine Aq Ks Abd (e21 ..) ?_
   refine Aa g1 ?_;rfl
  .rw[g4 h,Hz]
   rfl
structure SumG (D:Orc):Prop where
 sum:∀ ms:List Mo,ms.length<4611686018427387904->(∀ m∈ms,WzM m)->D.ask (.fn 22) [.ls (ms.map C4)] []=V (sv (Ag (CY ms)),[])
theorem SumG.f(S:SumG D):SumF D:=⟨λms h=>S.sum ms (Fh h).1 (Fh h).2⟩
end
end
theorem WZ(b:Bool)(s:List UInt8):(Nv b s).length<=s.length+2:=by
 cases b
 .exact Nat.le_add_right _ _
 .show ([40]++s++[41]).length<=s.length+2
  simp
theorem RI(k:Int):(CU k).length<=4:=by
 unfold CU
 repeat' split
 all_goals decide
theorem X2:∀(n:Nat) (t:Tr) (d:Nat),SizeOf.sizeOf t<n->AO t d=U->(BP t).length+10<=11000*Hz t:=by
 intro n
 induction n with
 |zero=>intro t d h;omega
 |succ n ih=>
  intro t d hn h
  cases FE h with
  |tt=>
   rw[BP,B5,Hz,EW]
   show [116,114,117,101].length+10<=_
   simp
  |ff=>
   rw[BP,B5,Hz,EW]
   show [102,97,108,115,101].length+10<=_
   simp
  |@cmp _ l r op hl hr h1 h2=>
   have hc:Ec (.mk 2 l r op (Ag []) (Ag []) [])=U:=by
    unfold Ec;simp[hl,hr,h1,h2]
   have e:BP (.mk 2 l r op (Ag []) (Ag []) [])=Lp l r op:=by
    rw[BP,B5,Vu];rw[FT,Ad (by decide),Ad (by decide),Ad (by decide),Ac hc]
   rw[e,Hz,EW];unfold Lp;have s1:=Qp hl;have s2:=Qp hr;have hol:(M4.getD op.toNat []).length<=2:=by
    have:op.toNat<6:=by omega
    generalize op.toNat=n at this
    match n,this with
    |0,_=>decide
    |1,_=>decide
    |2,_=>decide
    |3,_=>decide
    |4,_=>decide
    |5,_=>decide
   simp only[ζ,ε,Av0];omega
  |@«at» _ p q hp hq=>
   have lp:=Do hp;have lq:=Do hq;have e:BP (.mk 6 [] [] 0 p q [])=[64]++p.data.toList++[46]++q.data.toList:=by
    rw[BP,B5,Vu];rw[FT,Ad (by decide),Ad (by decide),Ac rfl]
   rw[e,Hz,EW];simp only[ζ,ε,Av0];omega
  |@one _ k x hk hd2 hx=>
   have gx:=ih x _ (by simp only[Tr.mk.sizeOf_spec,List.cons.sizeOf_spec]at hn;omega) hx;have o1:=WZ (Cd k 0 x.kind) (BP x);have o2:=RI k;rw[M0,Adt,ζ];omega
  |@two _ k x y hk hd hx gd hy=>
   have gx:=ih x _ (by simp only[Tr.mk.sizeOf_spec,List.cons.sizeOf_spec]at hn;omega) hx;have gy:=ih y _ (by simp only[Tr.mk.sizeOf_spec,List.cons.sizeOf_spec]at hn;omega) hy;have o1:=WZ (Cd k 0 x.kind) (BP x);have o2:=RI k;have o3:=WZ (Cd k 1 y.kind) (BP y);rw[M1,Adu,ζ,ζ];omega
structure Pr where
 name:ByteArray
 locs:List ByteArray
 cmds:Rw
def O3(p:Pr):Ab:=[sv p.name,.ls (p.locs.map eS),.ls p.cmds]
def NK(k:Int)(ks:List Tr):Tr:=.mk k [] [] 0 (Ag []) (Ag []) ks
section
variable (ts:List Tk) (vars:List ByteArray) (kn:Bool) (ps:List Pr)
def AiJ(i:Nat):ByteArray:=Ag (nx ts i).text
def Aft(s:ByteArray):Option Pr:=ps.find? λp=>decide (p.name=s)
def Zo(i:Nat):Nat × Nat × Tr:=
 if isN ts i=Θ then(i,101,T0) else match Aft ps (AiJ ts i) with
  |none=>(i,110,T0)
  |some p=>if isT ts (i+1) [46]=Θ then(i+1,101,T0) else if isN ts (i+2)=Θ then(i+2,101,T0)
   else if AiJ ts (i+2)∉p.locs then(i+2,110,T0) else(i+3,0,.mk 6 [] [] 0 (AiJ ts i) (AiJ ts (i+2)) [])
def RH(i:Nat):Option Int:=if isT ts i [33] then V 3 else if isT ts i [88] then V 8 else if isT ts i [71] then V 9 else if isT ts i [70] then V 10 else none
inductive LJ where
 |prop
 |or
 |orL (x:Tr)
 |and
 |andL (x:Tr)
 |bin
 |un
def Ge:Nat->LJ->Nat->Nat->Nat × Nat × Tr
 |0,_,i,_=>(i,999,T0)
 |n+1,.un,i,d=>
  if((RH ts i).isSome||isT ts i [40])=U/\d=60 then(i,102,T0)
  else match RH ts i with
   |some k=>Cq (Ge n .un (i+1) (d+1)) λj x=>(j,0,NK k [x])
   |none=>if isT ts i [40] then Cq (Ge n .prop (i+1) (d+1)) λj x=>if isT ts j [41] then(j+1,0,x) else(j,101,T0)
    else if isT ts i [64] then Zo ts ps (i+1)
    else if isT ts i [116,114,117,101] then(i+1,0,NK 0 [])
    else if isT ts i [102,97,108,115,101] then(i+1,0,NK 1 [])
    else AnT ts vars kn i
 |n+1,.bin,i,d=>Cq (Ge n .un i d) λj x=>if isT ts j [85] then Cq (Ge n .bin (j+1) d) λj2 y=>(j2,0,NK 11 [x,y])
   else if isT ts j [82] then Cq (Ge n .bin (j+1) d) λj2 y=>(j2,0,NK 12 [x,y]) else(j,0,x)
 |n+1,.and,i,d=>Cq (Ge n .bin i d) λj x=>Ge n (.andL x) j d
 |n+1,.andL x,i,d=>if isT ts i [38] then Cq (Ge n .bin (i+1) d) λj y=>Ge n (.andL (NK 4 [x,y])) j d else(i,0,x)
 |n+1,.or,i,d=>Cq (Ge n .and i d) λj x=>Ge n (.orL x) j d
 |n+1,.orL x,i,d=>if isT ts i [124] then Cq (Ge n .and (i+1) d) λj y=>Ge n (.orL (NK 5 [x,y])) j d else(i,0,x)
 |n+1,.prop,i,d=>Cq (Ge n .or i d) λj x=>if isT ts j [45,62] then Cq (Ge n .prop (j+1) d) λj2 y=>(j2,0,NK 7 [x,y]) else(j,0,x)
end
structure Sy where
 vars:List ByteArray
 s2:Rw
 s3:Int
 s4:Rw
 s5:Bool
 s6:Rw
 s7:Bool
 s8:Rw
 ps:List Pr
 s10:Rw
def Gj(y:Sy):Ab:=[.ls (y.vars.map eS),.ls y.s2,iv y.s3,.ls y.s4,bv y.s5,.ls y.s6,bv y.s7,.ls y.s8,.ls (y.ps.map O3),.ls y.s10]
structure PreT (ts:List Tk):Prop where
 sg:∀ i,(nx ts i).text=[33]\/(nx ts i).text=[40]->(nx ts i).kind=2
 bg:∀ i,(nx ts i).text=[88]\/(nx ts i).text=[71]\/(nx ts i).text=[70]->(nx ts i).kind=4
theorem Ot(s:ByteArray):(eS s).length=1:=rfl
set_option linter.unusedSectionVars false
section
open Go.RowKit
variable (A:Ar) (D:Orc)
end

section
open Go.RowKit
variable (A:Ar) (D:Orc)
end




