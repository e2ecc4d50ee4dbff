/- A tight relation holds w -/
import Derived.Test.YtpncilciembjdaaGreatDoorHBR
set_option linter.all false
open Bool renaming false->Φ,true->Δ,and_eq_true->Awh,and_true->AzM,false_eq_true->Axj,true_and->Axv
open List renaming all_cons->Ax6,all_nil->Azj,append_assoc->Awd,append_nil->AwF,drop->Av8,drop_eq_getElem_cons->η,drop_eq_nil_of_le->Awb,drop_zero->ο,getElem?_eq_getElem->ξ,getElem_mem->Aws,length_append->ε,length_cons->γ,length_map->Awm,length_nil->Axa,length_singleton->Awp,length_take->Awo,map_congr_left->AxQ,map_cons->Awq,map_map->AxE,map_nil->Axb,mem_append->AwN,mem_cons->Awj,mem_cons_of_mem->Awk,mem_cons_self->Awi,mem_map->AwV,mem_singleton->AwX,nil_append->Awv,singleton_append->AwO,take->κ,take_succ_cons->Axo,take_zero->Aye
open Nat renaming ble->Awf,le_refl->π,le_trans->Awy,lt_succ_self->AwC,zero_le->Awz
open Option renaming none->Ξ,some->Θ
namespace Go.Proofs.YtpncilciembjdaaGreatDoor
open ABlk renaming mk->θ
open AV renaming agg->δ
open Go.RowKit
def Cm(t:Tm)(e:Bool):Fm:=if(Jm t.lf.pln.tm e).2=0 then .mk 2 (Jm t.lf.pln.tm e).1.1 (Jm t.lf.pln.tm e).1.2 [] else Hz (decide (0<(Jm t.lf.pln.tm e).2))
def DW(k:Int):List Fm->List Fm->Fm
 |out,[]=>(match out with
  |[]=>Hz (decide (k=4))
  |[x]=>x
  |x::y::r=>kF k (x::y::r))
 |out,f::r=>if(k=4/\f.kind=1)\/(k=5/\f.kind=0) then f else if f.kind=0\/f.kind=1 then DW k out r else if f.kind=k then DW k (out++f.kids) r else DW k (out++[f]) r
mutual
def CG:Fm->Bool->Fm
 |.mk k t e ks,d=>if k=0 then Hz (!d) else if k=2 then(if d=Δ then DW 5 [] ((EX t.lf e).map λr=>Cm r.1 r.2) else Cm t e) else if k=3 then MI ks d else if k=4\/k=5 then DW (if d=Δ then 9-k else k) [] (FA ks d) else Hz d
def MI:List Fm->Bool->Fm
 |[],d=>Hz d
 |x::_,d=>CG x (!d)
def FA:List Fm->Bool->List Fm
 |[],_=>[]
 |x::r,d=>CG x d::FA r d
end
theorem GJ(d:Bool):∀ l,FA l d=l.map λx=>CG x d
 |[]=>rfl
 |x::r=>by rw[FA,GJ d r,Awq]
mutual
def Eu:Fm->Bool->Fm
 |.mk k t e ks,d=>if k=0 then Hz (!d) else if k=2 then(if d=Δ then kF 5 ((EX t.lf e).map λr=>Ea r.1.lf.pln r.2) else Ea t.lf.pln e) else if k=3 then Wq ks d else if k=4\/k=5 then kF (if d=Δ then 9-k else k) (Wp ks d) else Hz d
def Wq:List Fm->Bool->Fm
 |[],d=>Hz d
 |x::_,d=>Eu x (!d)
def Wp:List Fm->Bool->List Fm
 |[],_=>[]
 |x::r,d=>Eu x d::Wp r d
end
mutual
def Ew:Fm->Fm
 |.mk k t e ks=>if k=2 then Cm t e else if k=4\/k=5 then DW k [] (UI ks) else .mk k t e ks
def UI:List Fm->List Fm
 |[]=>[]
 |x::r=>Ew x::UI r
end
theorem IA(d:Bool):∀ l,Wp l d=l.map λx=>Eu x d
 |[]=>rfl
 |x::r=>by rw[Wp,IA d r,Awq]
theorem O4:∀ l,UI l=l.map Ew
 |[]=>rfl
 |x::r=>by rw[UI,O4 r,Awq]
theorem Xm(t:Tm)(e:Bool):Cm t.lf.pln.tm e=Cm t e:=by
 unfold Cm;rw[Ek,SN]
theorem SF(b:Bool):Ew (Hz b)=Hz b:=by cases b<;>rfl
theorem UJ(t:Tm)(e:Bool):Ew (Ea t.lf.pln e)=Cm t e:=by
 unfold Ea;rw[Ew,Ac rfl,Xm]
theorem AmK{k:Int}(h:k=4\/k=5)(ks:List Fm):Ew (kF k ks)=DW k [] (ks.map Ew):=by
 unfold kF;rw[Ew,Ad (by omega),Ac h,O4]
mutual
theorem SE:∀(x:Fm) (d:Bool),Ew (Eu x d)=CG x d
 |.mk k t e ks,d=>by
  rw[Eu,CG]
  by_cases h0:k=0
  .rw[Ac h0,Ac h0,SF]
  rw[Ad h0,Ad h0]
  by_cases h2:k=2
  .rw[Ac h2,Ac h2]
   cases d with
   |false=>rw[Ad (by decide),Ad (by decide),UJ]
   |true=>
    rw[Ac rfl,Ac rfl,AmK (.inr rfl),AxE]
    congr 1
    exact AxQ λr _=>UJ _ _
  rw[Ad h2,Ad h2]
  by_cases h3:k=3
  .rw[Ac h3,Ac h3]
   exact Adq ks d
  rw[Ad h3,Ad h3]
  by_cases h4:k=4\/k=5
  .rw[Ac h4,Ac h4,AmK (by split<;>omega)]
   congr 1
   rw[IA,GJ,AxE];exact AxQ λx hx=>UK ks d x hx
  .rw[Ad h4,Ad h4,SF]
theorem Adq:∀(l:List Fm) (d:Bool),Ew (Wq l d)=MI l d
 |[],d=>by rw[Wq,MI,SF]
 |x::r,d=>by rw[Wq,MI,SE x]
theorem UK:∀(l:List Fm) (d:Bool),∀ x∈l,Ew (Eu x d)=CG x d
 |[],_,_,h=>by cases h
 |y::r,d,x,h=>by
  by_cases hx:x=y
  .rw[hx]
   exact SE y d
  .exact UK r d x (by
    rcases Awj.1 h with h|h
    .exact absurd h hx
    .exact h)
end
mutual
def FM:Fm->Int->Int
 |.mk k _ _ ks,lim=>if k=4\/k=5 then Ej ks lim 1 else if k=3 then IN ks lim else 1
def IN:List Fm->Int->Int
 |[],_=>1
 |x::_,lim=>if 1<=lim then 1+FM x (lim-1) else 1
def Ej:List Fm->Int->Int->Int
 |[],_,n=>n
 |x::r,lim,n=>if n<=lim then Ej r lim (n+FM x (lim-n)) else n
end
theorem Rj(x:Fm)(lim:Int):FM x lim=Ej (CB x) lim 1:=by
 obtain⟨k,t,e,ks⟩:=x;rw[FM,CB]
 by_cases h:k=4\/k=5
 .rw[Ac h,Ac h]
 rw[Ad h,Ad h]
 by_cases h3:k=3
 .rw[Ac h3,Ac h3]
  cases ks with
  |nil=>rfl
  |cons y r=>
   rw[IN,Axo,Aye,Ej]
   by_cases h1:1<=lim
   .rw[Ac h1,Ac h1,Ej]
   .rw[Ad h1,Ad h1]
 .rw[Ad h3,Ad h3]
  rfl
mutual
theorem NL:∀(x:Fm) (lim:Int),1<=FM x lim/\(FM x lim<=1\/FM x lim<=lim+1)
 |.mk k _ _ ks,lim=>by
  rw[FM]
  by_cases h:k=4\/k=5
  .rw[Ac h]
   have:=PA ks lim 1;omega
  rw[Ad h]
  by_cases h3:k=3
  .rw[Ac h3]
   exact Aen ks lim
  .rw[Ad h3]
   omega
theorem Aen:∀(l:List Fm) (lim:Int),1<=IN l lim/\(IN l lim<=1\/IN l lim<=lim+1)
 |[],lim=>by rw[IN];omega
 |x::_,lim=>by
  rw[IN]
  by_cases h:1<=lim
  .rw[Ac h]
   have:=NL x (lim-1);omega
  .rw[Ad h]
   omega
theorem PA:∀(l:List Fm) (lim n:Int),n<=Ej l lim n/\(Ej l lim n<=n\/Ej l lim n<=lim+1)
 |[],lim,n=>by rw[Ej];omega
 |x::r,lim,n=>by
  rw[Ej]
  by_cases h:n<=lim
  .rw[Ac h]
   have h1:=NL x (lim-n);have h2:=PA r lim (n+FM x (lim-n));omega
  .rw[Ad h]
   omega
end
theorem Vb:∀(l:List Fm) (lim n:Int),Ej l lim n<=lim->n+l.length<=lim/\∀ x∈l,∃ m,m<=lim-n/\FM x m<=m
 |[],lim,n,h=>by rw[Ej]at h;simpa using h
 |x::r,lim,n,h=>by
  rw[Ej]at h
  by_cases h1:n<=lim
  .rw[Ac h1]at h
   have h2:=NL x (lim-n);obtain⟨h3,h4⟩:=Vb r lim _ h;rw[γ];refine⟨by omega,λy hy=>?_⟩;rcases Awj.1 hy with rfl|hy
   .exact⟨lim-n,Int.le_refl _,by omega⟩
   .obtain⟨m,h5,h6⟩:=h4 y hy
    exact⟨m,by omega,h6⟩
  .rw[Ad h1]at h
   omega
theorem Ef{k:Int}{t:Tm}{e:Bool}{ks:List Fm}{x:Fm}(h:x∈CB (.mk k t e ks)):x∈ks:=by
 rw[CB]at h
 by_cases h4:k=4\/k=5
 .rw[Ac h4]at h;exact h
 rw[Ad h4]at h
 by_cases h3:k=3
 .rw[Ac h3]at h;exact List.mem_of_mem_take h
 .rw[Ad h3]at h;cases h
mutual
def Hg(L:Int):Fm->Bool
 |.mk k t e ks=>(if k=2 then P8 L (t,e) else Δ)&&(if k=4\/k=5 then XT L ks else if k=3 then Ald L ks else Δ)
def Ald(L:Int):List Fm->Bool
 |[]=>Δ
 |x::_=>Hg L x
def XT(L:Int):List Fm->Bool
 |[]=>Δ
 |x::r=>Hg L x&&XT L r
end
theorem QB(L:Int):∀ l,XT L l=l.all (Hg L)
 |[]=>rfl
 |x::r=>by rw[XT,QB L r,Ax6]
theorem QA(L:Int)(k:Int)(t:Tm)(e:Bool)(ks:List Fm):Hg L (.mk k t e ks)=((if k=2 then P8 L (t,e) else Δ)&&(CB (.mk k t e ks)).all (Hg L)):=by
 rw[Hg,CB]
 by_cases h:k=4\/k=5
 .rw[Ac h,Ac h,QB]
 rw[Ad h,Ad h]
 by_cases h3:k=3
 .rw[Ac h3,Ac h3]
  cases ks with
  |nil=>rfl
  |cons y r=>rw[Ald,Axo,Aye,Ax6,Azj,AzM]
 .rw[Ad h3,Ad h3]
  rfl
inductive WzF:Fm->Prop
 |mk {k:Int} {t:Tm} {e:Bool} {ks:List Fm} (ht:LmT t) (hl:ks.length<4611686018427387904) (h:∀ x∈ks,WzF x):WzF (.mk k t e ks)
theorem Alc(L:Nat):∀(N:Nat) (x:Fm) (lim:Int),SizeOf.sizeOf x<N->lim<=1000000->FM x lim<=lim->Hg (L:Int) x=Δ->WzF x->FC 20 L x:=by
 intro N
 induction N with
 |zero=>intro x lim h;omega
 |succ N ih=>
  intro x lim hN hlim hs hf hw;rw[Rj]at hs;obtain⟨h1,h2⟩:=Vb _ lim 1 hs;obtain⟨ht,hl0,hk⟩:=hw;rename_i k t e ks;rw[QA,Awh,List.all_eq_true]at hf;refine .mk (λh=>?_) (by omega) λy hy=>?_
  .have:=hf.1
   rw[Ac h]at this;exact ht.tmb this
  .obtain⟨m,h3,h4⟩:=h2 y hy
   have hm:=Ef hy;exact ih y m (by have:=Ce (k:=k) (t:=t) (e:=e) hm;omega) (by omega) h4 (hf.2 y hy) (hk y hm)
mutual
def GF:Fm->Nat
 |.mk k _ _ ks=>1+(if k=4\/k=5 then Im ks else if k=3 then MD ks else 0)
def MD:List Fm->Nat
 |[]=>0
 |x::_=>GF x
def Im:List Fm->Nat
 |[]=>0
 |x::r=>GF x+Im r
end
mutual
theorem R1:∀(x:Fm) (lim:Int),FM x lim<=lim->(GF x:Int)<=FM x lim
 |.mk k t e ks,lim,h=>by
  rw[FM]at h ⊢;rw[GF]
  by_cases h4:k=4\/k=5
  .rw[Ac h4]at h ⊢
   rw[Ac h4];have:=TF ks lim 1 h;omega
  rw[Ad h4]at h ⊢;rw[Ad h4]
  by_cases h3:k=3
  .rw[Ac h3]at h ⊢
   rw[Ac h3];exact Abt ks lim h
  .rw[Ad h3]
   rw[Ad h3];omega
theorem Abt:∀(l:List Fm) (lim:Int),IN l lim<=lim->((1+MD l:Nat):Int)<=IN l lim
 |[],lim,h=>by rw[IN,MD];omega
 |x::r,lim,h=>by
  rw[IN]at h ⊢;rw[MD]
  by_cases h1:1<=lim
  .rw[Ac h1]at h ⊢
   have:=R1 x (lim-1) (by omega);omega
  .rw[Ad h1]at h
   omega
theorem TF:∀(l:List Fm) (lim n:Int),Ej l lim n<=lim->n+(Im l:Int)<=Ej l lim n
 |[],lim,n,h=>by rw[Ej,Im];omega
 |x::r,lim,n,h=>by
  rw[Ej]at h ⊢;rw[Im]
  by_cases h1:n<=lim
  .rw[Ac h1]at h ⊢
   have h2:=PA r lim (n+FM x (lim-n));have h3:=R1 x (lim-n) (by omega);have h4:=TF r lim _ h;omega
  .rw[Ad h1]at h
   omega
end
theorem Qv{x:Fm}:∀{l:List Fm},x∈l->GF x<=Im l
 |y::r,h=>by
  rw[Im];rcases Awj.1 h with rfl|h
  .omega
  .have:=Qv h
   omega
theorem XH{k:Int}{t:Tm}{e:Bool}{ks:List Fm}{x:Fm}(h:x∈CB (.mk k t e ks)):GF x<GF (.mk k t e ks):=by
 rw[Dg]at h;rw[GF]
 by_cases h4:k=4\/k=5
 .rw[Ac h4]at h ⊢
  have:=Qv h;omega
 rw[Ad h4]at h ⊢
 by_cases h3:k=3
 .rw[Ac h3]at h ⊢
  cases ks with
  |nil=>cases h
  |cons y r=>
   rw[Axo,Aye,AwX]at h;rw[h,MD];omega
 .grind
mutual
def DR:Fm->Nat
 |.mk _ _ _ ks=>1+Cf ks
def Cf:List Fm->Nat
 |[]=>0
 |x::r=>DR x+Cf r
end
theorem C5:∀ a b:List Fm,Cf (a++b)=Cf a+Cf b
 |[],b=>by rw[Awv,Cf,Nat.zero_add]
 |x::r,b=>by rw[List.cons_append,Cf,Cf,C5 r b,Nat.add_assoc]
theorem Jj(x:Fm):DR x=1+Cf x.kids:=by
 obtain⟨k,t,e,ks⟩:=x;rw[DR];rfl
theorem CW:∀ l:List Fm,l.length<=Cf l
 |[]=>Awz _
 |x::r=>by
  have:=CW r;rw[γ,Cf,Jj];omega
theorem Gi(b:Bool):DR (Hz b)=1:=by cases b<;>rfl
theorem FP(x:Fm):Cf [x]=DR x:=by rw[Cf,Cf,Nat.add_zero]
theorem OY(k:Int):∀(fs out:List Fm),DR (DW k out fs)<=1+Cf out+Cf fs:=by
 intro fs
 induction fs with
 |nil=>
  intro out;unfold DW
  match out with
  |[]=>rw[Gi];omega
  |[x]=>rw[FP];show DR x<=_;omega
  |x::y::r=>unfold kF;rw[DR];omega
 |cons g r ih=>
  intro out;unfold DW;rw[Cf]
  by_cases c1:(k=4/\g.kind=1)\/(k=5/\g.kind=0)
  .rw[Ac c1]
   omega
  rw[Ad c1]
  by_cases c2:g.kind=0\/g.kind=1
  .grind
  rw[Ad c2]
  by_cases c3:g.kind=k
  .rw[Ac c3]
   have:=ih (out++g.kids);rw[C5]at this;rw[Jj g];omega
  .rw[Ad c3]
   have:=ih (out++[g]);rw[C5,FP]at this;omega
theorem Mo(t:Tm)(e:Bool):DR (Cm t e)=1:=by
 unfold Cm;split
 .rfl
 .exact Gi _
theorem Fx(l:Lf)(e:Bool):(EX l e).length<=2:=by
 unfold EX;split<;>simp
theorem Gg:∀ l:List (Tm × Bool),Cf (l.map λr=>Cm r.1 r.2)=l.length
 |[]=>rfl
 |x::r=>by rw[Awq,Cf,Mo,Gg r,γ,Nat.add_comm]
mutual
theorem TT:∀(x:Fm) (d:Bool),DR (CG x d)<=3*GF x
 |.mk k t e ks,d=>by
  rw[CG,GF]
  by_cases h0:k=0
  .rw[Ac h0,Gi]
   omega
  rw[Ad h0]
  by_cases h2:k=2
  .rw[Ac h2]
   cases d with
   |false=>
    rw[Ad (by decide),Mo];omega
   |true=>
    rw[Ac rfl];have h3:=OY 5 ((EX t.lf e).map λr=>Cm r.1 r.2) [];have h4:=Fx t.lf e;rw[Gg,Cf]at h3;omega
  rw[Ad h2]
  by_cases h3:k=3
  .rw[Ac h3,Ad (by omega),Ac h3]
   have:=ZA ks d;omega
  rw[Ad h3]
  by_cases h4:k=4\/k=5
  .rw[Ac h4,Ac h4]
   have h5:=OY (if d=Δ then 9-k else k) (FA ks d) [];have h6:=I2 ks d;rw[show Cf []=0 from rfl]at h5;omega
  .rw[Ad h4,Gi]
   omega
theorem ZA:∀(l:List Fm) (d:Bool),DR (MI l d)<=1+3*MD l
 |[],d=>by rw[MI,Gi];omega
 |x::r,d=>by
  have:=TT x (!d);rw[MI,MD];omega
theorem I2:∀(l:List Fm) (d:Bool),Cf (FA l d)<=3*Im l
 |[],d=>by rw[FA,Cf];omega
 |x::r,d=>by
  have h1:=TT x d;have h2:=I2 r d;rw[FA,Cf,Im];omega
end
theorem FB.kid{n k:Nat}{x:Fm}(h:FB n k x):∀ y∈x.kids,FB n k y:=by
 obtain⟨_,_,h⟩:=h;exact h
theorem FB.mono{n k m j:Nat}(hn:n<=m)(hk:k<=j):∀(N:Nat) (x:Fm),SizeOf.sizeOf x<N->FB n k x->FB m j x:=by
 intro N
 induction N with
 |zero=>intro x h;omega
 |succ N ih=>
  intro x hN hx;obtain⟨ht,hl,h⟩:=hx;rename_i kd t e ks;exact .mk (ht.mono hn hk) hl λy hy=>ih y (by have:=Ce (k:=kd) (t:=t) (e:=e) hy;omega) (h y hy)
theorem Gf(n k:Nat):TmB n k Tm0:=⟨Awz _,λp hp=>(by cases hp),⟨λx hx=>(by cases hx),Awz _⟩⟩
theorem Gx(n k:Nat)(b:Bool):FB n k (Hz b):=.mk (Gf n k) (Awz _) λy hy=>by cases hy
theorem X0{n c:Nat}(k:Int):∀(fs out:List Fm),(∀ x∈out,FB n c x)->(∀ x∈fs,FB n c x)->Cf out+Cf fs<=1000000->FB n c (DW k out fs):=by
 intro fs
 induction fs with
 |nil=>
  intro out h1 _ h3;unfold DW
  match out,h1,h3 with
  |[],_,_=>exact Gx _ _ _
  |[x],h1,_=>exact h1 x (Awi ..)
  |x::y::r,h1,h3=>exact .mk (Gf _ _) (by have:=CW (x::y::r);omega) h1
 |cons g r ih=>
  intro out h1 h2 h3;rw[Cf]at h3;unfold DW;have hg:=h2 g (Awi ..);have hr:∀ x∈r,FB n c x:=λx hx=>h2 x (Awk _ hx)
  by_cases c1:(k=4/\g.kind=1)\/(k=5/\g.kind=0)
  .rw[Ac c1]
   exact hg
  rw[Ad c1]
  by_cases c2:g.kind=0\/g.kind=1
  .grind
  rw[Ad c2]
  by_cases c3:g.kind=k
  .rw[Ac c3]
   refine ih _ (λx hx=>?_) hr (by rw[C5];rw[Jj]at h3;omega);rcases AwN.1 hx with h|h
   .exact h1 x h
   .exact hg.kid x h
  .rw[Ad c3]
   refine ih _ (λx hx=>?_) hr (by rw[C5,FP];omega);rcases AwN.1 hx with h|h
   .exact h1 x h
   .grind
theorem ApA{n k:Nat}{t:Tm}(ht:TmB n k t)(hk:1<=k)(e:Bool):TmB n (k+4*n+4) (Jm t.lf.pln.tm e).1.1:=by
 have hp:=ht.lb.pln.tb;have hs:=W7 hp (show 1<=k+n by omega);unfold Jm;split
 .exact Gf _ _
 split
 .split
  .show TmB _ _ (if hdS (FL t.lf.pln.tm)<0 then _ else _)
   split
   .exact((hs.lb.scale (x:=-1) (j:=1) (by unfold InB;decide)).tb).mono (π _) (by omega)
   .exact hs.mono (π _) (by omega)
  .exact Gf _ _
 .exact hs.mono (π _) (by omega)
theorem Vs{n k:Nat}{t:Tm}(ht:TmB n k t)(hk:1<=k)(e:Bool):FB n (k+4*n+4) (Cm t e):=by
 unfold Cm;split
 .exact .mk (ApA ht hk e) (Awz _) λy hy=>by cases hy
 .exact Gx _ _ _
theorem Nv{n k:Nat}{l:Lf}(h:LB n k l)(e:Bool):∀ r∈EX l e,TmB n (2*k+6*n+6) r.1:=by
 have hs:LB n (k+1+n) (l.scale (-1)):=h.scale (by unfold InB;decide);intro r hr;unfold EX at hr
 cases e with
 |false=>
  rw[Ad (by decide),AwX]at hr;rw[hr];exact((IY h).tb).mono (π _) (by omega)
 |true=>
  rw[Ac rfl]at hr;rcases Awj.1 hr with hr|hr
  .rw[hr]
   exact((IY hs).tb).mono (π _) (by omega)
  .rw[AwX]at hr
   rw[hr];exact((IY h).tb).mono (π _) (by omega)
theorem AfV{n k:Nat}(hk:1<=k):∀(N:Nat) (x:Fm),SizeOf.sizeOf x<N->FC n k x->3*GF x<=1000000->∀ d,FB n (2*k+10*n+10) (CG x d):=by
 intro N
 induction N with
 |zero=>intro x h;omega
 |succ N ih=>
  intro x hN hx hc d;obtain⟨ht,hkl,h⟩:=hx;rename_i kd t e ks;have hh:∀ y∈CB (.mk kd t e ks),∀ d,FB n (2*k+10*n+10) (CG y d):=λy hy d=>ih y (by have:=Ce (k:=kd) (t:=t) (e:=e) (Ef hy);omega) (h y hy) (by have:=XH hy;omega) d
  rw[Dg]at hh;rw[CG]
  by_cases h0:kd=0
  .simp_all [Ac,Gx]
  rw[Ad h0]
  by_cases h2:kd=2
  .rw[Ac h2]
   have ht:=ht h2
   cases d with
   |false=>
    rw[Ad (by decide)];exact FB.mono (π _) (by omega) _ _ (AwC _) (Vs ht hk e)
   |true=>
    rw[Ac rfl];refine X0 5 _ [] (by simp) (λy hy=>?_) (by rw[Gg,Cf];have:=Fx t.lf e;omega);obtain⟨r,hr,rfl⟩:=AwV.1 hy;exact FB.mono (π _) (by omega) _ _ (AwC _) (Vs (Nv ht.lb e r hr) (by omega) r.2)
  rw[Ad h2]
  by_cases h3:kd=3
  .rw[Ac h3]
   rw[Ad (by omega),Ac h3]at hh
   cases ks with
   |nil=>exact Gx _ _ _
   |cons y r=>exact hh y (Awi ..) (!d)
  rw[Ad h3]
  by_cases h4:kd=4\/kd=5
  .rw[Ac h4]
   rw[Ac h4]at hh;refine X0 _ _ [] (by simp) (λy hy=>?_) ?_
   .grind [GJ]
   .have h5:=I2 ks d
    rw[GF,Ac h4]at hc;rw[show Cf []=0 from rfl];omega
  .simp_all [Ad,Gx]
def De(k:Int):List Fm->List Fm->Option Fm × List Fm
 |out,[]=>(Ξ,out)
 |out,f::r=>if(k=4/\f.kind=1)\/(k=5/\f.kind=0) then(Θ f,[]) else if f.kind=0\/f.kind=1 then De k out r else if f.kind=k then De k (out++f.kids) r else De k (out++[f]) r
def LN(k:Int):List Fm->Fm
 |[]=>Hz (decide (k=4))
 |[x]=>x
 |x::y::r=>kF k (x::y::r)
theorem QN(k:Int):∀(fs out:List Fm),DW k out fs=match De k out fs with | (Θ f,_)=>f | (Ξ,o)=>LN k o:=by
 intro fs
 induction fs with
 |nil=>
  intro out
  match out with
  |[]=>rfl
  |[x]=>rfl
  |x::y::r=>rfl
 |cons g r ih=>
  intro out;unfold DW De
  by_cases c1:(k=4/\g.kind=1)\/(k=5/\g.kind=0)
  .rw[Ac c1,Ac c1]
  rw[Ad c1,Ad c1]
  by_cases c2:g.kind=0\/g.kind=1
  .rw[Ac c2,Ac c2]
   exact ih out
  rw[Ad c2,Ad c2]
  by_cases c3:g.kind=k
  .rw[Ac c3,Ac c3]
   exact ih _
  .rw[Ad c3,Ad c3]
   exact ih _
theorem TX(k:Int):∀(fs out:List Fm),Cf (De k out fs).2<=Cf out+Cf fs:=by
 intro fs
 induction fs with
 |nil=>intro out;exact Nat.le_add_right _ _
 |cons g r ih=>
  intro out;unfold De;rw[Cf]
  by_cases c1:(k=4/\g.kind=1)\/(k=5/\g.kind=0)
  .rw[Ac c1]
   exact Awz _
  rw[Ad c1]
  by_cases c2:g.kind=0\/g.kind=1
  .rw[Ac c2]
   have:=ih out;omega
  rw[Ad c2]
  by_cases c3:g.kind=k
  .rw[Ac c3]
   have:=ih (out++g.kids);rw[C5]at this;rw[Jj g];omega
  .rw[Ad c3]
   have:=ih (out++[g]);rw[C5,FP]at this;omega
theorem G0(x:Fm)(r:List Fm):Cf (x::r)=DR x+Cf r:=by rw[Cf]
theorem AdB(x:Fm):Gv (eF x)=Δ:=by
 obtain⟨k,t,e,ks⟩:=x;rfl
theorem eF0:eF (kF 0 [])=[iv 0,.ls [],bv Φ,.ls [],bv Φ,.ls []]:=rfl
theorem UZ(a b:List Fm):Ao eF a++Ao eF b=Ao eF (a++b):=by simp[Ao]
section
variable {D:Orc} (Kl:Knows Au YY D) (Ko:Knows Au Rm D)
include Kl
include Ko in
theorem QQ{t:Tm}{e:Bool}(g:D.ask (.fn 17) [.agg (JQ (t,e))] []=Θ (.tup [.agg (JQ (Jm t.lf.pln.tm e).1),iv (Jm t.lf.pln.tm e).2],[])):D.ask (.fn 172) [.agg (JQ (t,e))] []=Θ (.agg (eF (Cm t e)),[]):=by
 unfold Cm;revert g;generalize Jm t.lf.pln.tm e=T;intro g;obtain⟨⟨⟨rp,rz⟩,re⟩,n⟩:=T;obtain⟨ps,kz⟩:=t;simp only[E9,eN]at g ⊢;refine AC Kl AlM (Atv ..) ?_;refine Aa g ?_;simp only[Aj]
 by_cases h:n=0
 .rw[Ac h]
  exact DP h
 .rw[Ad h]
  refine Ay ?_ h
  by_cases h2:0<n
  .rw[BT h2]
   refine AB ?_ h2;refine Aa (D1 Ko Δ) ?_;rfl
  .rw[BX h2]
   refine AA ?_ h2;refine Aa (D1 Ko Φ) ?_;rfl
def AqZ(k:Int):Option Fm × List Fm->AV × List BO
 |(Θ f,_)=>(.tup [bv Δ,.ptr 0 0],[.set (bk (eF f)),.del])
 |(Ξ,o)=>(.tup [iv 0,iv k,.ptr 0 0,.sl 2 0 o.length 6],[.set (bk (eF (kF 0 []))),.del,.set (θ (Ao eF o) Δ Δ)])
theorem Af8{k:Int}(hk:k=4\/k=5)(fs:List Fm)(hl:fs.length<=1000000):∀(m i:Nat) (out:List Fm),fs.length-i=m->i<=fs.length->Cf out+Cf (fs.drop i)<=1000000->
  D.ask (.lp 173 0) [iv k,.ptr 0 0,.sl 1 0 out.length 6,.ls (fs.map eF),iv (fs.length:Int),iv (i:Int)] [bk (eF (kF 0 [])),θ (Ao eF out) Δ Δ]=Θ (AqZ k (De k out (fs.drop i))):=by
 intro m
 induction m with
 |zero=>
  intro i out hm hi _;rw[Awb (by omega)];refine AE Kl Ui (AbQ ..) ?_;exact AA rfl
 |succ m ih=>
  intro i out hm hi ht;have h1:i<fs.length:=by omega
  have hn1:∀ kk,Bw (fs.map eF) i kk=kk (eF fs[i]):=λkk=>Az (ξ h1) kk
  rw[η h1]at ht ⊢;revert hn1 ht;generalize fs[i]=x;intro ht hn1;obtain⟨gk,gt,ge,gs⟩:=x;rw[G0,DR]at ht;refine AE Kl Ui (AbQ ..) ?_;refine AB ?_;rw[AI,hn1,De];unfold Fm.kind;simp only[eF,AY,eN,Aj];rw[BU (by omega)];rcases hk with rfl|rfl
  .refine AG ?_ rfl
   by_cases h0:gk=1
   .rw[Ac (.inl ⟨rfl,h0⟩)]
    refine AG ?_ h0
    show _=Θ ((.tup [bv Δ,.ptr 0 0],[.set (bk (eF _)),.del]):AV × List BO)
    rw[eF,AY];rfl
   .rw[Ad (by omega)]
    refine Ay ?_ h0;refine Ay ?_ (by decide)
    by_cases h2:gk=0
    .rw[Ac (.inl h2)]
     refine AG ?_ h2;have g:=ih (i+1) out (by omega) (by omega) (by omega);refine Aa g ?_
     cases De 4 out (fs.drop (i+1)) with
     |mk a o=>
      cases a with
      |none=>rfl
      |some y=>
       obtain⟨yk,yt,ye,ys⟩:=y;rfl
    .rw[Ad (by omega)]
     refine Ay ?_ h2;refine Ay ?_ h0
     by_cases h3:gk=4
     .skip
      refine AG ?_ h3;rw[Ac h3];rw[El BF,Al,Eo];refine Ah ?_
      cases hgs:gs with
      |nil=>
       have g:=ih (i+1) out (by omega) (by omega) (by omega);refine Ah ?_;refine Aa g ?_;unfold Fm.kids;rw[AwF]
       cases De 4 out (fs.drop (i+1)) with
       |mk a o=>
        cases a with
        |none=>rfl
        |some y=>
         obtain⟨yk,yt,ye,ys⟩:=y;rfl
      |cons y ys=>
       rw[hgs]at ht;have htl:=CW (y::ys);have hol:=CW out;have g:=ih (i+1) (out++(y::ys)) (by omega) (by omega) (by rw[C5];omega);rw[ε]at g;refine BR ?_;rw[FG AdB];refine Ah ?_;rw[show Ba (out.length+(y::ys).length) 96=Δ from AP (by omega) (by omega)];refine Ah ?_;rw[show Awf (0+out.length*6) (Ao eF out).length=Δ from AK BF out (by omega)];refine Ah ?_;rw[ο,Bb BF out (by omega),UZ];refine Aa g ?_;unfold Fm.kids
       cases De 4 (out++(y::ys)) (fs.drop (i+1)) with
       |mk a o=>
        cases a with
        |none=>rfl
        |some y=>
         obtain⟨yk,yt,ye,ys⟩:=y;rfl
     .skip
      refine Ay ?_ h3;rw[Ad h3];have hol:=CW out;have g:=ih (i+1) (out++[.mk gk gt ge gs]) (by omega) (by omega) (by rw[C5,FP,DR];omega);rw[ε,Awp]at g;rw[show Ba (out.length+1) 96=Δ from AP (by omega) (by omega)];refine Ah ?_;rw[show Awf (0+out.length*6) (Ao eF out).length=Δ from AK BF out (by omega)];refine Ah ?_;have e3:Av8 0 (κ (0+out.length*6) (Ao eF out))++eF (.mk gk gt ge gs)=Ao eF (out++[.mk gk gt ge gs]):=by
       rw[ο,Bb BF out (by omega)];exact Bc eF out _
      rw[eF,AY]at e3;simp only[eN]at e3;rw[e3];refine Aa g ?_
      cases De 4 (out++[.mk gk gt ge gs]) (fs.drop (i+1)) with
      |mk a o=>
       cases a with
       |none=>rfl
       |some y=>
        obtain⟨yk,yt,ye,ys⟩:=y;rfl
  .refine Ay ?_ (by decide)
   refine AG ?_ rfl
   by_cases h0:gk=0
   .rw[Ac (.inr ⟨rfl,h0⟩)]
    refine AG ?_ h0
    show _=Θ ((.tup [bv Δ,.ptr 0 0],[.set (bk (eF _)),.del]):AV × List BO)
    rw[eF,AY];rfl
   .rw[Ad (by omega)]
    refine Ay ?_ h0;refine Ay ?_ h0
    by_cases h2:gk=1
    .rw[Ac (.inr h2)]
     refine AG ?_ h2;have g:=ih (i+1) out (by omega) (by omega) (by omega);refine Aa g ?_
     cases De 5 out (fs.drop (i+1)) with
     |mk a o=>
      cases a with
      |none=>rfl
      |some y=>
       obtain⟨yk,yt,ye,ys⟩:=y;rfl
    .rw[Ad (by omega)]
     refine Ay ?_ h2
     by_cases h3:gk=5
     .skip
      refine AG ?_ h3;rw[Ac h3];rw[El BF,Al,Eo];refine Ah ?_
      cases hgs:gs with
      |nil=>
       have g:=ih (i+1) out (by omega) (by omega) (by omega);refine Ah ?_;refine Aa g ?_;unfold Fm.kids;rw[AwF]
       cases De 5 out (fs.drop (i+1)) with
       |mk a o=>
        cases a with
        |none=>rfl
        |some y=>
         obtain⟨yk,yt,ye,ys⟩:=y;rfl
      |cons y ys=>
       rw[hgs]at ht;have htl:=CW (y::ys);have hol:=CW out;have g:=ih (i+1) (out++(y::ys)) (by omega) (by omega) (by rw[C5];omega);rw[ε]at g;refine BR ?_;rw[FG AdB];refine Ah ?_;rw[show Ba (out.length+(y::ys).length) 96=Δ from AP (by omega) (by omega)];refine Ah ?_;rw[show Awf (0+out.length*6) (Ao eF out).length=Δ from AK BF out (by omega)];refine Ah ?_;rw[ο,Bb BF out (by omega),UZ];refine Aa g ?_;unfold Fm.kids
       cases De 5 (out++(y::ys)) (fs.drop (i+1)) with
       |mk a o=>
        cases a with
        |none=>rfl
        |some y=>
         obtain⟨yk,yt,ye,ys⟩:=y;rfl
     .skip
      refine Ay ?_ h3;rw[Ad h3];have hol:=CW out;have g:=ih (i+1) (out++[.mk gk gt ge gs]) (by omega) (by omega) (by rw[C5,FP,DR];omega);rw[ε,Awp]at g;rw[show Ba (out.length+1) 96=Δ from AP (by omega) (by omega)];refine Ah ?_;rw[show Awf (0+out.length*6) (Ao eF out).length=Δ from AK BF out (by omega)];refine Ah ?_;have e3:Av8 0 (κ (0+out.length*6) (Ao eF out))++eF (.mk gk gt ge gs)=Ao eF (out++[.mk gk gt ge gs]):=by
       rw[ο,Bb BF out (by omega)];exact Bc eF out _
      rw[eF,AY]at e3;simp only[eN]at e3;rw[e3];refine Aa g ?_
      cases De 5 (out++[.mk gk gt ge gs]) (fs.drop (i+1)) with
      |mk a o=>
       cases a with
       |none=>rfl
       |some y=>
        obtain⟨yk,yt,ye,ys⟩:=y;rfl
include Ko
theorem X1{k:Int}(hk:k=4\/k=5)(fs:List Fm)(ht:Cf fs<=1000000):D.ask (.fn 173) [iv k,.ls (fs.map eF)] []=Θ (.agg (eF (DW k [] fs)),[]):=by
 have hl:=CW fs;have g:=Af8 Kl hk fs (by omega) _ 0 [] rfl (by omega) (by rw[ο,Cf];omega);have hlen:=TX k fs [];rw[ο,show Ao eF ([]:List Fm)=[] from rfl,Axa,eF0]at g;rw[QN];revert g hlen;generalize De k [] fs=G;intro g hlen;obtain⟨a,o⟩:=G;refine AC Kl Ui (Atw ..) ?_;rw[Al];refine Aa g ?_
 cases a with
 |some y=>
  obtain⟨yk,yt,ye,ys⟩:=y
  show _=Θ (δ (eF (Fm.mk yk yt ye ys)),[])
  rw[eF];rfl
 |none=>
  have hol:=CW o;simp only[Cf]at hlen
  show _=Θ (δ (eF (LN k o)),[])
  simp only[eF0,Aj]
  match o,hol with
  |[],_=>
   refine AG ?_ rfl;unfold LN
   by_cases h:k=4
   .rw[BT h]
    refine AG ?_ h;refine Aa (D1 Ko Δ) ?_;rfl
   .rw[BX h]
    refine Ay ?_ h;refine Aa (D1 Ko Φ) ?_;rfl
  |[x],_=>
   obtain⟨xk,xt,xe,xs⟩:=x;have er:Ao eF [Fm.mk xk xt xe xs]=eF (.mk xk xt xe xs):=by simp[Ao]
   rw[eF,AY]at er;rw[er,Awp];refine Ay ?_;refine AG ?_ rfl;unfold LN;rw[eF,AY];rfl
  |x::y::r,hol=>
   rw[γ,γ]at hol;refine Ay ?_ (by rw[γ,γ];omega);refine Ay ?_ (by rw[γ,γ];omega);rw[show Awf (0+(x::y::r).length*6) (Ao eF (x::y::r)).length=Δ from AK BF _ (by omega)];refine Ah ?_;rw[Bi BF _ rfl];unfold LN kF;rw[eF,AY];rfl
omit Ko in
theorem Acl(d:Bool)(ks:List Fm)(hl:ks.length<=1000000)(g:∀ x∈ks,D.ask (.fn 104) [.agg (eF x),bv d] []=Θ (.agg (eF (CG x d)),[])):∀(m i:Nat) (out:List Fm),ks.length-i=m->i<=ks.length->out.length<=i->
  D.ask (.lp 174 0) [bv d,.sl 0 0 out.length 6,.ls (ks.map eF),iv (ks.length:Int),iv (i:Int)] [θ (Ao eF out) Δ Δ]=Θ (.tup [iv 0,.sl 1 0 (out++(ks.drop i).map λx=>CG x d).length 6],[.del,.set (θ (Ao eF (out++(ks.drop i).map λx=>CG x d)) Δ Δ)]):=by
 intro m
 induction m with
 |zero=>
  intro i out hm hi ho;rw[Awb (by omega),Axb,AwF];refine AE Kl Uj (AbR ..) ?_;exact AA rfl
 |succ m ih=>
  intro i out hm hi ho;have h1:i<ks.length:=by omega
  have gx:=g ks[i] (Aws h1);rw[η h1,Awq];have ih:=ih (i+1) (out++[CG ks[i] d]) (by omega) (by omega) (by simp;omega);rw[Awd,AwO,show (out++[CG ks[i] d]).length=out.length+1 by simp]at ih;have hf:Ba (out.length+1) 96=Δ:=AP (by omega) (by omega);have hb1:Awf (0+out.length*6) (Ao eF out).length=Δ:=AK BF out (by omega);have e3:Av8 0 (κ (0+out.length*6) (Ao eF out))++eF (CG ks[i] d)=Ao eF (out++[CG ks[i] d]):=by
   rw[ο,Bb BF out (by omega)];exact Bc eF out _
  refine AE Kl Uj (AbR ..) ?_;refine AB ?_;rw[AI,Az (ξ h1)];revert gx ih e3;generalize CG ks[i] d=y;generalize ks[i]=x;obtain⟨xk,xt,xe,xs⟩:=x;obtain⟨yk,yt,ye,ys⟩:=y;intro gx ih e3;simp only[eF,eN,Aj]at gx e3 ⊢;refine Aa gx ?_;simp only[Aj];rw[hf];refine Ah ?_;rw[hb1];refine Ah ?_;rw[e3,BU (by omega)];refine Aa ih ?_;rfl
omit Ko in
theorem Acm{d:Bool}{ks:List Fm}(hl:ks.length<=1000000)(g:∀ x∈ks,D.ask (.fn 104) [.agg (eF x),bv d] []=Θ (.agg (eF (CG x d)),[])):D.ask (.fn 174) [.ls (ks.map eF),bv d] []=Θ (.ls ((FA ks d).map eF),[]):=by
 have gl:=Acl Kl d ks hl g _ 0 [] rfl (by omega) (by simp);rw[ο,Awv,←GJ]at gl;refine AC Kl Uj (Atx ..) ?_;rw[Al];refine Aa gl ?_;simp only[Aj];rw[show Awf (0+(FA ks d).length*6) (Ao eF (FA ks d)).length=Δ from AK BF _ (by omega)];refine Ah ?_;rw[Bi BF _ rfl]
omit Ko in
theorem AaH(rs:List (Tm × Bool))(hl:rs.length<=1000000)(g:∀ r∈rs,D.ask (.fn 172) [.agg (JQ r)] []=Θ (.agg (eF (Cm r.1 r.2)),[])):∀(m i:Nat) (out:List Fm),rs.length-i=m->i<=rs.length->out.length<=i->
  D.ask (.lp 104 0) [.ptr 0 0,.sl 1 0 out.length 6,.ls (rs.map JQ),iv (rs.length:Int),iv (i:Int)] [bk (eF (kF 0 [])),θ (Ao eF out) Δ Δ]=Θ (.tup [iv 1,.ptr 0 0,.sl 2 0 (out++(rs.drop i).map λr=>Cm r.1 r.2).length 6],[.set (bk (eF (kF 0 []))),.del,.set (θ (Ao eF (out++(rs.drop i).map λr=>Cm r.1 r.2)) Δ Δ)]):=by
 intro m
 induction m with
 |zero=>
  intro i out hm hi ho;rw[Awb (by omega),Axb,AwF];refine AE Kl Ir (AbC ..) ?_;exact AA rfl
 |succ m ih=>
  intro i out hm hi ho;have h1:i<rs.length:=by omega
  have gx:=g rs[i] (Aws h1);rw[η h1,Awq];have ih:=ih (i+1) (out++[Cm rs[i].1 rs[i].2]) (by omega) (by omega) (by simp;omega);rw[Awd,AwO,show (out++[Cm rs[i].1 rs[i].2]).length=out.length+1 by simp]at ih;have hf:Ba (out.length+1) 96=Δ:=AP (by omega) (by omega);have hb1:Awf (0+out.length*6) (Ao eF out).length=Δ:=AK BF out (by omega);have e3:Av8 0 (κ (0+out.length*6) (Ao eF out))++eF (Cm rs[i].1 rs[i].2)=Ao eF (out++[Cm rs[i].1 rs[i].2]):=by
   rw[ο,Bb BF out (by omega)];exact Bc eF out _
  refine AE Kl Ir (AbC ..) ?_;refine AB ?_;rw[AI,Az (ξ h1)];revert gx ih e3;generalize Cm rs[i].1 rs[i].2=y;generalize rs[i]=x;obtain⟨⟨xp,xz⟩,xe⟩:=x;obtain⟨yk,yt,ye,ys⟩:=y;intro gx ih e3;simp only[E9,eF,eN,Aj]at gx e3 ⊢;refine Aa gx ?_;simp only[Aj];rw[hf];refine Ah ?_;rw[hb1];refine Ah ?_;rw[e3,BU (by omega)];refine Aa ih ?_;rfl
variable {M:Nat} (Z:ZF D) (W:ZdF D) (T:TiF D M) (Ktt:Knows Au Vm D) (Kt:Knows Au Ge D) (Kf:Knows Au Ls D) (Ks:SrtF D M) (C:PartF D) (Kd:Knows Au Vg D)
include Z W T Ktt Kt Kf Ks C Kd
theorem Adf{n k:Nat}(hn:n<=250)(hnM:n<=M)(hk1:1<=k)(hk:k<=700):∀(N:Nat) (x:Fm),SizeOf.sizeOf x<N->FC n k x->3*GF x<=1000000->∀ d,D.ask (.fn 104) [.agg (eF x),bv d] []=Θ (.agg (eF (CG x d)),[]):=by
 intro N
 induction N with
 |zero=>intro x h;omega
 |succ N ih=>
  intro x hN hx hc d;obtain⟨ht,hkl,h⟩:=hx;rename_i kd t e ks;have gks:∀ y∈CB (.mk kd t e ks),∀ d,D.ask (.fn 104) [.agg (eF y),bv d] []=Θ (.agg (eF (CG y d)),[]):=λy hy d=>ih y (by have:=Ce (k:=kd) (t:=t) (e:=e) (Ef hy);omega) (h y hy) (by have:=XH hy;omega) d
  rw[Dg]at gks hkl;rw[CG]
  by_cases h0:kd=0
  .rw[Ac h0,eF,AY]
   refine AC Kl Ir (VY ..) ?_;refine AG ?_ h0
   cases d with
   |false=>
    refine Ah ?_;refine Aa (D1 Ko Δ) ?_;rfl
   |true=>
    refine BR ?_;refine Aa (D1 Ko Φ) ?_;rfl
  rw[Ad h0]
  by_cases h2:kd=2
  .rw[Ac h2]
   have ht:=ht h2
   cases d with
   |false=>
    have gt:=QQ Kl Ko (Vt Ktt Z W T ht (by omega) hk1 (by omega) e);rw[Ad (by decide),eF,AY];revert gt;generalize Cm t e=Y;intro gt;obtain⟨Yk,Yt,Ye,Ys⟩:=Y;obtain⟨ps,kz⟩:=t;simp only[E9,eF,eN]at gt ⊢;refine AC Kl Ir (VY ..) ?_;refine Ay ?_ h0;refine AG ?_ h2;refine Ah ?_;refine Aa gt ?_;rfl
   |true=>
    have gd:=Abz Kt Kf Ks Z C Kd ht (by omega) hnM (by omega) e;have gl:=AaH Kl (EX t.lf e) (by have:=Fx t.lf e;omega) (λr hr=>QQ Kl Ko (Vt Ktt Z W T (Nv ht.lb e r hr) (by omega) (by omega) (by omega) r.2)) _ 0 [] rfl (by omega) (by simp);have gj:=X1 Kl Ko (.inr rfl:(5:Int)=4\/(5:Int)=5) ((EX t.lf e).map λr=>Cm r.1 r.2) (by rw[Gg];have:=Fx t.lf e;omega);rw[ο,Awv,show Ao eF ([]:List Fm)=[] from rfl,Axa,eF0]at gl;rw[Ac rfl,eF,AY];revert gl gj;generalize DW 5 [] ((EX t.lf e).map λr=>Cm r.1 r.2)=Y;generalize (EX t.lf e).map (λr=>Cm r.1 r.2)=fs;intro gl gj;obtain⟨Yk,Yt,Ye,Ys⟩:=Y;obtain⟨ps,kz⟩:=t;simp only[E9,eF,eN]at gd gj ⊢;refine AC Kl Ir (VY ..) ?_;refine Ay ?_ h0;refine AG ?_ h2;refine BR ?_;refine Aa gd ?_;simp only[Aj];rw[Al];refine Aa gl ?_;simp only[Aj];rw[show Awf (0+fs.length*6) (Ao eF fs).length=Δ from AK BF _ (by omega)];refine Ah ?_;rw[Bi BF _ rfl];refine Ah ?_;refine Aa gj ?_;rfl
  rw[Ad h2]
  by_cases h3:kd=3
  .rw[Ac h3]
   rw[Ad (by omega),Ac h3]at gks
   cases ks with
   |nil=>
    rw[eF,AY];refine AC Kl Ir (VY ..) ?_;refine Ay ?_ h0;refine Ay ?_ h2;refine AG ?_ h3;refine AA ?_ (by decide);refine Aa (D1 Ko d) ?_
    cases d<;>rfl
   |cons y r=>
    have gf:=gks y (Awi ..) (!d);rw[MI,eF,AY];revert gf;generalize CG y (!d)=Y;intro gf;obtain⟨Yk,Yt,Ye,Ys⟩:=Y;refine AC Kl Ir (VY ..) ?_;refine Ay ?_ h0;refine Ay ?_ h2;refine AG ?_ h3;rw[Al];refine AB ?_ (by rw[γ];omega);rw[Az (x:=y) (show (y::r)[0]? = Θ y from rfl)];obtain⟨yk,yt,ye,ys⟩:=y;simp only[eF,eN,Aj]at gf ⊢
    cases d with
    |false=>
     refine Ah ?_;refine Aa gf ?_;rfl
    |true=>
     refine BR ?_;refine Aa gf ?_;rfl
  rw[Ad h3]
  by_cases h4:kd=4\/kd=5
  .rw[Ac h4]
   rw[Ac h4]at gks hkl;have gfs:=Acm Kl (d:=d) (ks:=ks) hkl (λx hx=>gks x hx d);have htz:Cf (FA ks d)<=1000000:=by
    have:=I2 ks d;rw[GF,Ac h4]at hc;omega
   have gj:=X1 Kl Ko (k:=if d=Δ then 9-kd else kd) (by split<;>omega) (FA ks d) htz;rw[eF,AY];revert gfs gj;generalize DW (if d=Δ then 9-kd else kd) [] (FA ks d)=Y;generalize FA ks d=fs;intro gfs gj;obtain⟨Yk,Yt,Ye,Ys⟩:=Y;simp only[eF,eN]at gj ⊢;refine AC Kl Ir (VY ..) ?_;refine Ay ?_ h0;refine Ay ?_ h2;refine Ay ?_ h3;rcases h4 with rfl|rfl
   .refine AG ?_ rfl
    cases d with
    |false=>
     refine BR ?_;refine Aa gfs ?_;simp only[Aj];refine Aa gj ?_;rfl
    |true=>
     refine Ah ?_;refine Aa gfs ?_;simp only[Aj];refine Aa gj ?_;rfl
   .refine Ay ?_ (by decide)
    refine AG ?_ rfl
    cases d with
    |false=>
     refine BR ?_;refine Aa gfs ?_;simp only[Aj];refine Aa gj ?_;rfl
    |true=>
     refine Ah ?_;refine Aa gfs ?_;simp only[Aj];refine Aa gj ?_;rfl
  .rw[Ad h4,eF,AY]
   refine AC Kl Ir (VY ..) ?_;refine Ay ?_ h0;refine Ay ?_ h2;refine Ay ?_ h3;refine Ay ?_ (λh=>h4 (.inl h));refine Ay ?_ (λh=>h4 (.inr h));refine Aa (D1 Ko d) ?_
   cases d<;>rfl
theorem Ac2{n k:Nat}(hn:n<=250)(hnM:n<=M)(hk1:1<=k)(hk:k<=700){x:Fm}(hx:FC n k x)(hc:3*GF x<=1000000):D.ask (.fn 39) [.agg (eF x)] []=Θ (.agg (eF (CG x Φ)),[]):=by
 have g:=Adf Kl Ko Z W T Ktt Kt Kf Ks C Kd hn hnM hk1 hk _ x (AwC _) hx hc Φ;revert g;generalize CG x Φ=Y;intro g;obtain⟨Yk,Yt,Ye,Ys⟩:=Y;obtain⟨xk,xt,xe,xs⟩:=x;refine AC Kl AqF (e39 ..) ?_;refine Aa g ?_;rfl
end
def or2(a b:Int):Int:=if a=0 then b else a
theorem Pc{a b:Int}:or2 a b=0 ↔ a=0/\b=0:=by
 unfold or2;split<;>simp_all
theorem I0{a b:Int}:FS a b=0 ↔ a=b:=by
 unfold FS;split
 .omega
 .split<;>omega
def Qu(p q:Int × Int):Int:=or2 (FS p.1 q.1) (FS p.2 q.2)
theorem Of{p q:Int × Int}:Qu p q=0 ↔ p=q:=by
 unfold Qu;rw[Pc,I0,I0,Prod.ext_iff]
def KJ:List (Int × Int)->List (Int × Int)->Option Int
 |[],_=>Ξ
 |_::_,[]=>Θ 1
 |p::a,q::b=>if Qu p q=0 then KJ a b else Θ (Qu p q)
def TE(a b:List (Int × Int)):Int:=match KJ a b with
 |some n=>n
 |none=>if a.length<b.length then -1 else 0
theorem XE:∀{a b:List (Int × Int)} {n:Int},KJ a b=Θ n->n≠0
 |[],_,_,h=>by cases h
 |_::_,[],n,h=>by
  rw[KJ]at h;injection h with h
  omega
 |p::a,q::b,n,h=>by
  rw[KJ]at h;split at h
  .exact XE h
  .rename_i h0
   injection h with h
   rw[←h];exact h0
theorem Qs:∀{a b:List (Int × Int)},KJ a b=Ξ->¬ a.length<b.length->a=b
 |[],b,_,h=>by
  cases b with
  |nil=>rfl
  |cons _ _=>simp at h
 |_::_,[],h,_=>by cases h
 |p::a,q::b,h,hl=>by
  rw[KJ]at h;split at h
  .rename_i h0
   rw[Of.1 h0,Qs h (by simpa using hl)]
  .cases h
theorem Qt:∀ a:List (Int × Int),KJ a a=Ξ
 |[]=>rfl
 |p::a=>by rw[KJ,Ac (Of.2 rfl),Qt a]
theorem VT{a b:List (Int × Int)}:TE a b=0 ↔ a=b:=by
 unfold TE;constructor
 .intro h
  cases e:KJ a b with
  |some n=>
   rw[e]at h;exact absurd h (XE e)
  |none=>
   rw[e]at h;refine Qs e λhl=>?_
   simp only[Ac hl]at h;omega
 .rintro rfl
  rw[Qt];simp
def Zs(a b:Lf):Int:=or2 (TE a.ps b.ps) (FS a.k b.k)
theorem Zt{a b:Lf}:Zs a b=0 ↔ a=b:=by
 obtain⟨p,k⟩:=a;obtain⟨q,j⟩:=b;unfold Zs;rw[Pc,VT,I0];simp
def YN(e:Bool):Int:=if e then 1 else 0
def R0(a b:Lf)(e f:Bool):Int:=or2 (Zs a b) (FS (YN e) (YN f))
theorem Qr{a b:Lf}{e f:Bool}:R0 a b e f=0 ↔ a=b/\e=f:=by
 unfold R0;rw[Pc,Zt,I0]
 cases e<;>cases f<;>simp[YN]
mutual
def eqF:Fm->Fm->Bool
 |.mk k t e ks,.mk j u f js=>decide (k=j)&&(!decide (k=2)||decide (R0 t.lf.pln u.lf.pln e f=0))&&decide (ks.length=js.length)&&Jk ks js
def Jk:List Fm->List Fm->Bool
 |[],_=>Δ
 |_::_,[]=>Φ
 |x::a,y::b=>eqF x y&&Jk a b
end
theorem V7(k j:Int)(t u:Tm)(e f:Bool)(ks js:List Fm):eqF (.mk k t e ks) (.mk j u f js)=(decide (k=j)&&(!decide (k=2)||decide (R0 t.lf.pln u.lf.pln e f=0))&&decide (ks.length=js.length)&&Jk ks js):=by
 rw[eqF]
theorem LL(x y:Fm)(a b:List Fm):Jk (x::a) (y::b)=(eqF x y&&Jk a b):=by rw[Jk]
mutual
theorem TL:∀ x:Fm,eqF x x=Δ
 |.mk k t e ks=>by
  rw[V7,Qy ks,Qr.2 ⟨rfl,rfl⟩];simp
theorem Qy:∀ l:List Fm,Jk l l=Δ
 |[]=>by rw[Jk]
 |x::r=>by rw[LL,TL x,Qy r];rfl
end
theorem CanFs.mem:∀{l:List Fm},CanFs l->∀ x∈l,CanF x
 |_::_,.cons h hr,x,hx=>by
  rcases Awj.1 hx with rfl|hx
  .exact h
  .exact hr.mem x hx
theorem CanF.kids{x:Fm}(h:CanF x):∀ y∈x.kids,CanF y:=by
 cases h with
 |tru b=>intro y hy;cases b<;>cases hy
 |atom l e h=>intro y hy;cases hy
 |no x h=>intro y hy;rcases AwX.1 hy with rfl;exact h
 |and l h=>exact h.mem
 |or l h=>exact h.mem
 |no0=>intro y hy;cases hy
theorem CanF.head{x:Fm}(h:CanF x):(x.kind=2/\x.kids=[]/\∃ l:Lf,l.pln=l/\x.tm=l.tm)\/(x.kind≠2/\x.tm=Tm0/\x.eq=Φ):=by
 cases h with
 |tru b=>exact .inr ⟨by cases b<;>decide,rfl,rfl⟩
 |atom l e h=>exact .inl ⟨rfl,rfl,l,h,rfl⟩
 |no x h=>exact .inr ⟨by show (3:Int)≠2;decide,rfl,rfl⟩
 |and l h=>exact .inr ⟨by show (4:Int)≠2;decide,rfl,rfl⟩
 |or l h=>exact .inr ⟨by show (5:Int)≠2;decide,rfl,rfl⟩
 |no0=>exact .inr ⟨by show (3:Int)≠2;decide,rfl,rfl⟩
theorem AfK:∀ n:Nat,(∀ x y:Fm,SizeOf.sizeOf x<n->CanF x->CanF y->eqF x y=Δ->x=y)/\(∀ a b:List Fm,SizeOf.sizeOf a<n->(∀ x∈a,CanF x)->(∀ x∈b,CanF x)->a.length=b.length->Jk a b=Δ->a=b):=by
 intro n
 induction n with
 |zero=>exact⟨λx y h=>by omega,λa b h=>by omega⟩
 |succ n ih=>
  refine⟨λx y hn hx hy h=>?_,λa b hn ha hb hl h=>?_⟩
  .have kx:=hx.kids
   have ky:=hy.kids;have dx:=hx.head;have dy:=hy.head;obtain⟨k,t,e,ks⟩:=x;obtain⟨j,u,f,js⟩:=y;rw[V7]at h;simp only[Awh,decide_eq_true_eq]at h;obtain⟨⟨⟨rfl,h2⟩,hl⟩,hs⟩:=h;have e1:=ih.2 ks js (by simp only[Fm.mk.sizeOf_spec]at hn;omega) kx ky hl hs;simp only[Fm.kind,Fm.kids,Fm.tm,Fm.eq]at dx dy;subst e1;rcases dx with⟨d0,_,l,hp,rfl⟩|⟨d0,rfl,rfl⟩
   .rcases dy with⟨_,_,m,hq,rfl⟩|⟨d1,_⟩
    .subst d0
     rw[Ek,Ek,hp,hq]at h2;have:=Qr.1 (by simpa using h2);rw[this.1,this.2]
    .exact absurd d0 d1
   .rcases dy with⟨d1,_⟩|⟨_,rfl,rfl⟩
    .exact absurd d1 d0
    .rfl
  .cases a with
   |nil=>cases b with
    |nil=>rfl
    |cons _ _=>cases hl
   |cons x a=>cases b with
    |nil=>cases hl
    |cons y b=>
     rw[LL,Awh]at h;have hz:SizeOf.sizeOf (x::a)=1+SizeOf.sizeOf x+SizeOf.sizeOf a:=rfl;rw[ih.1 x y (by omega) (ha x (Awi ..)) (hb y (Awi ..)) h.1,ih.2 a b (by omega) (λz hz=>ha z (Awk _ hz)) (λz hz=>hb z (Awk _ hz)) (by simpa using hl) h.2]
theorem AfL{x y:Fm}(hx:CanF x)(hy:CanF y):eqF x y=Δ ↔ x=y:=⟨(AfK _).1 x y (AwC _) hx hy,by rintro rfl;exact TL x⟩
section
variable {D:Orc} {M:Nat} (Kt:Knows Au Ge D) (Kf:Knows Au Ls D) (Ks:SrtF D M) (Z:ZF D) (C:PartF D) (Kl:Knows Au Vf D)
include Kl
theorem AjY(a b:Int):D.ask (.lp 82 0) [iv 0,.ls [[iv a],[iv b]],iv 2,iv 2] []=Θ (.tup [iv 0,iv 0],[]):=by
 refine AE Kl ZL (Aca ..) ?_;exact AA rfl
theorem AjZ(a b:Int):D.ask (.lp 82 0) [iv 0,.ls [[iv a],[iv b]],iv 2,iv 1] []=Θ (if b=0 then .tup [iv 0,iv 0] else .tup [bv Δ,iv b],[]):=by
 refine AE Kl ZL (Aca ..) ?_;refine AB ?_
 show br (Ap.eq b 0) _ _=_
 by_cases h:b=0
 .refine AG ?_ h
  rw[Ac h];refine Aa (AjY Kl a b) ?_;rfl
 .rw[Ad h]
  exact Ay rfl h
theorem WJ(a b:Int):D.ask (.fn 82) [.ls [[iv a],[iv b]]] []=Θ (iv (or2 a b),[]):=by
 have g:D.ask (.lp 82 0) [iv 0,.ls [[iv a],[iv b]],iv 2,iv 0] []=Θ (if or2 a b=0 then .tup [iv 0,iv 0] else .tup [bv Δ,iv (or2 a b)],[]):=by
  refine AE Kl ZL (Aca ..) ?_;refine AB ?_
  show br (Ap.eq a 0) _ _=_
  unfold or2
  by_cases h:a=0
  .refine AG ?_ h
   rw[Ac h];refine Aa (AjZ Kl a b) ?_
   by_cases h2:b=0
   .rw[Ac h2];rfl
   .rw[Ad h2];rfl
  .rw[Ad h,Ad h]
   exact Ay rfl h
 refine AC Kl ZL (e82 ..) ?_;refine Aa g ?_
 by_cases h:or2 a b=0
 .rw[Ac h,h];rfl
 .rw[Ad h];rfl
include Ks Z
theorem AfA{p q:Pt}(hp:Lz 1000000000 p.z)(hq:Lz 1000000000 q.z):D.ask (.fn 154) [.agg (eP p),.agg (eP q)] []=Θ (iv (Qu (pv p) (pv q)),[]):=by
 have g1:=Ks.cmpI p.v q.v;have g2:=Z.cmp p.z q.z hp hq;obtain⟨a,n,x⟩:=p;obtain⟨b,m,y⟩:=q;refine AC Kl AlF (Atm ..) ?_;refine Aa g1 ?_;simp only[Aj];refine Aa g2 ?_;simp only[Aj];refine Aa (WJ Kl _ _) ?_;rfl
theorem AfD{a b:List Pt}(la:a.length<=1000000)(lb:b.length<=1000000)(ha:∀ p∈a,Lz 1000000000 p.z)(hb:∀ p∈b,Lz 1000000000 p.z):∀(m i:Nat),a.length-i=m->i<=a.length->D.ask (.lp 156 0) [.ls (a.map eP),.ls (b.map eP),.fn (.func 154) [] [],.ls (a.map eP),iv (a.length:Int),iv (i:Int)] []=Θ (match KJ ((a.drop i).map pv) ((b.drop i).map pv) with|some n=>.tup [bv Δ,iv n] | none=>.tup [iv 0,.ls (a.map eP),.ls (b.map eP)],[]):=by
 intro m
 induction m with
 |zero=>
  intro i hm hi;rw[Awb (by omega)];refine AE Kl Uf (AbO ..) ?_;exact AA rfl
 |succ m ih=>
  intro i hm hi;have h1:i<a.length:=by omega
  have ih:=ih (i+1) (by omega) (by omega);rw[η h1,Awq];refine AE Kl Uf (AbO ..) ?_;refine AB ?_;rw[AI,Az (ξ h1)];simp only[eP,eN,Aj];rw[Al]
  by_cases h2:b.length<=i
  .refine Cs ?_
   rw[Awb h2];rfl
  .have h2:i<b.length:=by omega
   refine CN ?_;rw[AI,Az (ξ h2)];simp only[eP,eN,Aj];have gc:=AfA Ks Z Kl (ha _ (Aws h1)) (hb _ (Aws h2));refine Aa gc ?_;simp only[Aj];rw[η h2,Awq,KJ]
   by_cases h3:Qu (pv a[i]) (pv b[i])=0
   .refine AG ?_ h3
    rw[Ac h3,BU (by omega)];refine Aa ih ?_
    cases KJ ((a.drop (i+1)).map pv) ((b.drop (i+1)).map pv)<;>rfl
   .rw[Ad h3]
    exact Ay rfl h3
theorem Abs{a b:List Pt}(la:a.length<=1000000)(lb:b.length<=1000000)(ha:∀ p∈a,Lz 1000000000 p.z)(hb:∀ p∈b,Lz 1000000000 p.z):D.ask (.fn 156) [.ls (a.map eP),.ls (b.map eP),.fn (.func 154) [] []] []=Θ (iv (TE (a.map pv) (b.map pv)),[]):=by
 refine AC Kl Uf (Ato ..) ?_;rw[Al];refine Aa (AfD Ks Z Kl la lb ha hb _ 0 rfl (by omega)) ?_;rw[ο,ο];unfold TE
 cases KJ (a.map pv) (b.map pv) with
 |some n=>rfl
 |none=>
  simp only[Aj]
  show br (Ap.lt _ _) _ _=_
  rw[Al,Al];simp only[Awm]
  by_cases h:a.length<b.length
  .refine AB ?_
   rw[Ac h]
  .refine AA ?_
   rw[Ad h]
include Kt C
theorem AfB{n k:Nat}{t u:Tm}(ht:TmB n k t)(hu:TmB n k u)(hn:n<=M)(hk:k+n<=900000000):D.ask (.fn 83) [.agg (eT t),.agg (eT u)] []=Θ (iv (Zs t.lf.pln u.lf.pln),[]):=by
 have hM:=Ks.le;have g1:=E6 Kt Ks Z C ht hn hk;have g2:=E6 Kt Ks Z C hu hn hk;have b1:=ht.lb.pln.tb;have b2:=hu.lb.pln.tb;have e1:(t.lf.pln.tm.ps).map pv=t.lf.pln.ps:=congrArg Lf.ps (Ek t.lf.pln);have e2:(u.lf.pln.tm.ps).map pv=u.lf.pln.ps:=congrArg Lf.ps (Ek u.lf.pln);have k1:zv t.lf.pln.tm.k=t.lf.pln.k:=congrArg Lf.k (Ek t.lf.pln);have k2:zv u.lf.pln.tm.k=u.lf.pln.k:=congrArg Lf.k (Ek u.lf.pln);have g3:=Abs Ks Z Kl (a:=t.lf.pln.tm.ps) (b:=u.lf.pln.tm.ps) (Awy b1.len (Awy hn hM)) (Awy b2.len (Awy hn hM)) (λp hp=>(b1.ps p hp).mono (by omega)) (λp hp=>(b2.ps p hp).mono (by omega));have g4:=Z.cmp t.lf.pln.tm.k u.lf.pln.tm.k (b1.k.mono (by omega)) (b2.k.mono (by omega));rw[e1,e2]at g3;rw[k1,k2]at g4;unfold Zs;revert g1 g2 g3 g4;generalize t.lf.pln.tm=x;generalize u.lf.pln.tm=y;intro g1 g2 g3 g4;obtain⟨tp,tz⟩:=t;obtain⟨up,uz⟩:=u;obtain⟨xp,xn,xa⟩:=x;obtain⟨yp,yn,ya⟩:=y;refine AC Kl AqU (e83 ..) ?_;refine Aa g1 ?_;simp only[eT,eN,Aj];refine Aa g2 ?_;simp only[eT,eN,Aj];refine Aa g3 ?_;simp only[Aj];refine Aa g4 ?_;simp only[Aj];refine Aa (WJ Kl _ _) ?_;rfl
theorem Aab{n k:Nat}{t u:Tm}(ht:TmB n k t)(hu:TmB n k u)(hn:n<=M)(hk:k+n<=900000000)(e f:Bool):D.ask (.fn 25) [.agg (eT t++[bv e]),.agg (eT u++[bv f])] []=Θ (iv (R0 t.lf.pln u.lf.pln e f),[]):=by
 have g1:=AfB Kt Ks Z C Kl ht hu hn hk;have gr:∀(t:Tm) (e:Bool),D.ask (.fn 85) [.agg (eT t++[bv e])] []=Θ (iv (YN e),[]):=by
  rintro⟨p,z⟩ e;refine AC Kl AqW (e85 ..) ?_
  cases e<;>rfl
 unfold R0;revert g1;generalize Zs t.lf.pln u.lf.pln=c;intro g1;have r1:=gr t e;have r2:=gr u f;obtain⟨tp,tz⟩:=t;obtain⟨up,uz⟩:=u;refine AC Kl AqA (e25 ..) ?_;refine Aa g1 ?_;simp only[Aj];refine Aa r1 ?_;simp only[Aj];refine Aa r2 ?_;simp only[Aj];refine Aa (Ks.cmpI _ _) ?_;simp only[Aj];refine Aa (WJ Kl _ _) ?_;rfl
theorem WQ{n k:Nat}{t u:Tm}(ht:TmB n k t)(hu:TmB n k u)(hn:n<=M)(hk:k+n<=900000000)(e f:Bool):D.ask (.fn 26) [.agg (eT t++[bv e]),.agg (eT u++[bv f])] []=Θ (bv (decide (R0 t.lf.pln u.lf.pln e f=0)),[]):=by
 have g2:=Aab Kt Ks Z C Kl ht hu hn hk e f;revert g2;generalize R0 t.lf.pln u.lf.pln e f=c;intro g2;obtain⟨tp,tz⟩:=t;obtain⟨up,uz⟩:=u;refine AC Kl AqB (e26 ..) ?_;refine Aa g2 ?_;simp only[Aj]
 by_cases h:c=0
 .refine AG ?_ h
  rw[BT h]
 .refine Ay ?_ h
  rw[BX h]
end
theorem FB.kids{n k:Nat}{x:Fm}(h:FB n k x):x.kids.length<=1000000/\(∀ y∈x.kids,FB n k y)/\TmB n k x.tm:=by
 cases h with
 |mk ht hl h=>exact⟨hl,h,ht⟩
section
variable {D:Orc} {M:Nat} (Kt:Knows Au Ge D) (Ks:SrtF D M) (Z:ZF D) (C:PartF D) (Ko:Knows Au Rm D) (Kl:Knows Au Vf D)
include Kl
theorem AfM{ks js:List Fm}(hl:ks.length=js.length)(hs:ks.length<=1000000)(g:∀ x∈ks,∀ y∈js,D.ask (.fn 41) [.agg (eF x),.agg (eF y)] []=Θ (bv (eqF x y),[])):∀(m i:Nat),ks.length-i=m->i<=ks.length->D.ask (.lp 108 0) [.ls (js.map eF),.fn (.func 41) [] [],.ls (ks.map eF),iv (ks.length:Int),iv (i:Int)] []=Θ (if Jk (ks.drop i) (js.drop i) then .tup [iv 0] else .tup [bv Δ,bv Φ],[]):=by
 intro m
 induction m with
 |zero=>
  intro i hm hi;rw[Awb (by omega),Jk];refine AE Kl Ua (AbH ..) ?_;exact AA rfl
 |succ m ih=>
  intro i hm hi;have h1:i<ks.length:=by omega
  have h2:i<js.length:=by omega
  have ih:=ih (i+1) (by omega) (by omega);have gx:=g ks[i] (Aws h1) js[i] (Aws h2);rw[η h1,η h2,LL];refine AE Kl Ua (AbH ..) ?_;refine AB ?_;rw[AI,Az (ξ h1)];revert gx;generalize ks[i]=x;intro gx;obtain⟨xk,xt,xe,xs⟩:=x;simp only[eF,eN,Aj]at gx ⊢;rw[AI,Az (ξ h2)];revert gx;generalize js[i]=y;intro gx;obtain⟨yk,yt,ye,ys⟩:=y;simp only[eF,eN,Aj]at gx ⊢;refine Aa gx ?_;simp only[Aj]
  cases eqF (.mk xk xt xe xs) (.mk yk yt ye ys) with
  |false=>exact BR rfl
  |true=>
   refine Ah ?_;rw[BU (by omega)];refine Aa ih ?_;rw[Axv]
   cases Jk (ks.drop (i+1)) (js.drop (i+1))<;>rfl
theorem AfN{ks js:List Fm}(hs:ks.length<=1000000)(ht:js.length<=1000000)(g:∀ x∈ks,∀ y∈js,D.ask (.fn 41) [.agg (eF x),.agg (eF y)] []=Θ (bv (eqF x y),[])):D.ask (.fn 108) [.ls (ks.map eF),.ls (js.map eF),.fn (.func 41) [] []] []=Θ (bv (decide (ks.length=js.length)&&Jk ks js),[]):=by
 refine AC Kl Ua (AsV ..) ?_;rw[Al,Al]
 by_cases hl:ks.length=js.length
 .refine AG ?_
  have gl:=AfM Kl hl hs g _ 0 rfl (by omega);rw[ο,ο]at gl;refine Aa gl ?_;rw[BT hl,Axv]
  cases Jk ks js<;>rfl
 .refine Ay ?_
  rw[BX hl,Bool.false_and]
include Kt Ks Z C Ko
theorem ZC{n k:Nat}(hn:n<=M)(hk:k+n<=900000000):∀(N:Nat) (X Y:Fm),SizeOf.sizeOf X<N->FB n k X->FB n k Y->CanF X->CanF Y->∀ x y:Fm,D.ask (.fn 107) [.agg (eF x)] []=Θ (.agg (eF X),[])->D.ask (.fn 107) [.agg (eF y)] []=Θ (.agg (eF Y),[])->D.ask (.fn 41) [.agg (eF x),.agg (eF y)] []=Θ (bv (eqF X Y),[]):=by
 intro N
 induction N with
 |zero=>intro x y h;omega
 |succ N ih=>
  intro X Y hN fx fy cx cy x y g1 g2;have bx:=fx.kids;have bY:=fy.kids;have kx:=cx.kids;have ky:=cy.kids;obtain⟨xk,xt,xe,xs⟩:=X;obtain⟨yk,yt,ye,ys⟩:=Y;simp only[Fm.kids,Fm.tm]at bx bY kx ky;have g3:=WQ Kt Ks Z C Kl bx.2.2 bY.2.2 hn hk xe ye;have gcl:∀ a,FB n k a->CanF a->D.ask (.fn 107) [.agg (eF a)] []=Θ (.agg (eF a),[]):=λa fa ca=>by
   have:=Abr Kt Ks Z C Ko hn hk _ a (AwC _) fa
   rwa [ca.clone]at this
  have g4:=AfN Kl bx.1 bY.1 λa ha b hb=>ih a b (by have:=Ce (k:=xk) (t:=xt) (e:=xe) ha;omega) (bx.2.1 a ha) (bY.2.1 b hb) (kx a ha) (ky b hb) a b (gcl a (bx.2.1 a ha) (kx a ha)) (gcl b (bY.2.1 b hb) (ky b hb))
  obtain⟨ik,it,ie,is'⟩:=x;obtain⟨jk,jt,je,js⟩:=y;rw[V7];simp only[eF,eN,AY]at g1 g2 ⊢;refine AC Kl AqH (e41 ..) ?_;refine Aa g1 ?_;simp only[Aj];refine Aa g2 ?_;simp only[Aj]
  by_cases h1:xk=yk
  .refine AG ?_ h1
   rw[BT h1,Axv]
   by_cases h2:xk=2
   .refine AG ?_ h2
    refine Aa g3 ?_;simp only[Aj];rw[BT h2,Bool.not_true,Bool.false_or]
    cases decide (R0 xt.lf.pln yt.lf.pln xe ye=0) with
    |false=>exact BR rfl
    |true=>
     refine Ah ?_;refine Aa g4 ?_;simp only[Aj];rw[Axv]
     cases (decide (xs.length=ys.length)&&Jk xs ys)<;>rfl
   .refine Ay ?_ h2
    refine Aa g4 ?_;simp only[Aj];rw[BX h2,Bool.not_false,Bool.true_or,Axv]
    cases (decide (xs.length=ys.length)&&Jk xs ys)<;>rfl
  .refine Ay ?_ h1
   rw[BX h1];simp
end
structure KnowsL (own:List (Nat × Nat)) (L:List (Nat × MFn)) (D:Orc):Prop where
 lp:∀(Hn:Hnt) (s:Sc) (f i:Nat) (mf:MFn) (q:LpH) (c:MC) (args:Ab) (bs:List ABlk) (r:AV × List BO),Cv f L=Θ mf->mf.loops[i]? = Θ (q,c)->Dc Ap D own Hn s f i q c args bs=Θ r->D.ask (.lp f i) args bs=Θ r
theorem Knows.l{own:List (Nat × Nat)}{L:List (Nat × MFn)}{D:Orc}(K:Knows own L D):KnowsL own L D:=⟨K.lp⟩
theorem KnowsL.lpL'{own:List (Nat × Nat)}{L:List (Nat × MFn)}{D:Orc}(K:KnowsL own L D)(Hn:Hnt)(s:Sc){f i:Nat}{mf:MFn}{args:Ab}{bs:List ABlk}{r:AV × List BO}(h1:Cv f L=Θ mf)(h2:(mf.loops[i]?).isSome=Δ)(h:Dc Ap D own Hn s f i (A1 mf i).1 (A1 mf i).2 args bs=Θ r):D.ask (.lp f i) args bs=Θ r:=by
 obtain⟨⟨q,c⟩,e⟩:=Option.isSome_iff_exists.1 h2;refine K.lp Hn s f i mf q c args bs r h1 e ?_;unfold A1 at h;rw[e]at h;exact h
inductive CnF:Fm->Prop
 |mk {k:Int} {t:Tm} {e:Bool} {ks:List Fm} (h:k≠2->t=Tm0/\e=Φ) (hk:∀ y∈ks,CnF y):CnF (.mk k t e ks)
theorem CanF.cn:∀{x:Fm},CanF x->CnF x:=by
 have key:∀(n:Nat) (x:Fm),SizeOf.sizeOf x<n->CanF x->CnF x:=by
  intro n
  induction n with
  |zero=>intro x h;omega
  |succ n ih=>
   intro x hn hx;have hk:=hx.kids;have hh:=hx.head;obtain⟨k,t,e,ks⟩:=x;refine .mk (λh2=>?_) λy hy=>ih y (by have:=Ce (k:=k) (t:=t) (e:=e) hy;omega) (hk y hy)
   rcases hh with⟨h,_⟩|⟨_,h,h'⟩
   .exact absurd h h2
   .exact⟨h,h'⟩
 exact λ{x}=>key _ x (AwC _)
theorem G3(k:KR):Rv (.slice Ξ 0 0) (.v (.slice Ξ 0 0)) k=k:=rfl
section
variable {D:Orc} (Kt:Knows Au HQ D) (F:RF D)
include Kt F
theorem AeN{n k m:Nat}{ps qs:List Pt}{kz jz:Zi}(hl:ps.length=qs.length)(hp:TmB n k ⟨ps,kz⟩)(hn:n<=1000000)(hk:k<=1000000000):∀(m i:Nat),ps.length-i=m->i<=ps.length->
  ∃ b,D.ask (.lp 78 0) [.ptr 0 0,.ptr 1 0,iv (i:Int)] [⟨[.ls (ps.map eP),bv kz.neg,eN kz.abs],Δ,Φ⟩,⟨[.ls (qs.map eP),bv jz.neg,eN jz.abs],Δ,Φ⟩]=Θ (if b then .tup [iv 0] else .tup [bv Δ,bv Φ],[.del,.del])/\(b=Δ ↔ ps.drop i=qs.drop i):=by
 have hlen:ps.length<=n:=hp.len;intro m
 induction m with
 |zero=>
  intro i hm hi;refine⟨Δ,?_,by rw[Awb (by omega),Awb (by omega)];simp⟩;refine AE Kt Si (XR ..) ?_;rw[Al];exact AA rfl
 |succ m ih=>
  intro i hm hi;have h1:i<ps.length:=by omega
  have h2:i<qs.length:=by omega
  have hn1:∀ kk,Bw (ps.map eP) i kk=kk (eP ps[i]):=λkk=>Az (ξ h1) kk
  have hn2:∀ kk,Bw (qs.map eP) i kk=kk (eP qs[i]):=λkk=>Az (ξ h2) kk
  have hz:=hp.ps ps[i] (Aws h1);rw[η h1,η h2];revert hn1 hn2 hz;generalize ps[i]=p;generalize qs[i]=q;intro hn1 hn2 hz;obtain⟨b,g,hb⟩:=ih (i+1) (by omega) (by omega);have gs:=F.same p.z q.z (hz.mono hk);obtain⟨pv,pn,pa⟩:=p;obtain⟨qv,qn,qa⟩:=q;simp only[eZ,eN]at gs g ⊢
  by_cases hv:pv=qv
  .by_cases hz:pn=qn/\pa=qa
   .rw[BT hz]at gs
    refine⟨b,?_,?_⟩
    .refine AE Kt Si (XR ..) ?_
     rw[Al];refine AB ?_;simp only[AI,hn1,hn2,eP,eN,Aj];refine AG ?_ hv;refine Aa gs ?_;simp only[Aj];rw[BU (by omega)];refine Aa g ?_
     cases b<;>rfl
    .rw[hb,hv,hz.1,hz.2]
     simp
   .rw[BX hz]at gs
    refine⟨Φ,?_,?_⟩
    .refine AE Kt Si (XR ..) ?_
     rw[Al];refine AB ?_;simp only[AI,hn1,hn2,eP,eN,Aj];refine AG ?_ hv;refine Aa gs ?_;rfl
    .simp only[Axj,false_iff,List.cons.injEq,Pt.mk.injEq,Zi.mk.injEq]
     exact λh=>hz h.1.2
  .refine⟨Φ,?_,?_⟩
   .refine AE Kt Si (XR ..) ?_
    rw[Al];refine AB ?_;simp only[AI,hn1,hn2,eP,eN,Aj];exact Ay rfl hv
   .simp only[Axj,false_iff,List.cons.injEq,Pt.mk.injEq,Zi.mk.injEq]
    exact λh=>hv h.1.1
theorem AeO{n k:Nat}{t u:Tm}(ht:TmB n k t)(hn:n<=1000000)(hk:k<=1000000000):∃ b,D.ask (.fn 78) [.agg (eT t),.agg (eT u)] []=Θ (bv b,[])/\(b=Δ ↔ t=u):=by
 obtain⟨ps,kz⟩:=t;obtain⟨qs,jz⟩:=u;have gs:=F.same kz jz (ht.k.mono hk)
 by_cases hl:ps.length=qs.length
 .obtain⟨b,g,hb⟩:=AeN Kt F (m:=0) (kz:=kz) (jz:=jz) hl ht hn hk _ 0 rfl (by omega)
  rw[ο,ο]at hb;obtain⟨kn,ka⟩:=kz;obtain⟨jn,ja⟩:=jz;simp only[eZ,eN]at gs g
  by_cases hz:kn=jn/\ka=ja
  .rw[BT hz]at gs
   refine⟨b,?_,?_⟩
   .refine AC Kt Si (e78 ..) ?_
    rw[Al,Al];refine AG ?_ (congrArg _ hl);refine Aa gs ?_;simp only[Aj];refine Aa g ?_
    cases b<;>rfl
   .rw[hb,hz.1,hz.2]
    simp
  .rw[BX hz]at gs
   refine⟨Φ,?_,?_⟩
   .refine AC Kt Si (e78 ..) ?_
    rw[Al,Al];refine AG ?_ (congrArg _ hl);refine Aa gs ?_;rfl
   .simp only[Axj,false_iff,Tm.mk.injEq,Zi.mk.injEq]
    exact λh=>hz h.2
 .refine⟨Φ,?_,?_⟩
  .refine AC Kt Si (e78 ..) ?_
   rw[Al,Al];exact EI λh=>hl (Int.ofNat.inj h)
  .simp only[Axj,false_iff,Tm.mk.injEq]
   exact λh=>hl (by rw[h.1])
end
section
variable {D:Orc} (Kt:Knows Au HQ D) (Kh:Knows Au IP D) (Kq:Knows Au JA D) (F:RF D)
include Kt Kq F
theorem U0{n k:Nat}{t u:Tm}(ht:TmB n k t)(hn:n<=1000000)(hk:k<=1000000000)(e f:Bool):∃ b,D.ask (.fn 21) [.agg (eT t++[bv e]),.agg (eT u++[bv f])] []=Θ (bv b,[])/\(b=Δ ↔ t=u/\e=f):=by
 obtain⟨b,g,hb⟩:=AeO Kt F (u:=u) ht hn hk;obtain⟨ps,kn,ka⟩:=t;obtain⟨qs,jn,ja⟩:=u
 by_cases he:e=f
 .refine⟨b,?_,by rw[hb];simp[he]⟩
  refine AC Kq AnU (e21 ..) ?_;rw[Ra,he,beq_self_eq_true];refine Ah ?_;refine Aa g ?_
  cases b<;>rfl
 .refine⟨Φ,?_,by simp[he]⟩
  refine AC Kq AnU (e21 ..) ?_;rw[Ra,beq_eq_false_iff_ne.2 he];rfl
omit Kt F in
theorem Acp(ks js:List Fm)(xk yk:Int)(xt yt:Tm)(xe ye:Bool)(hl:ks.length=js.length)(hn:ks.length<=1000000)(g:∀ x∈ks,∀ y∈js,∃ b,D.ask (.fn 38) [.agg (eF x),.agg (eF y)] []=Θ (bv b,[])/\(b=Δ ↔ x=y)):∀(m i:Nat),ks.length-i=m->i<=ks.length->
  ∃ b,D.ask (.lp 38 0) [.ptr 0 0,.ptr 1 0,iv (i:Int)] [Abo (.mk xk xt xe ks),Abo (.mk yk yt ye js)]=Θ (if b then .tup [iv 0] else .tup [bv Δ,bv Φ],[.del,.del])/\(b=Δ ↔ ks.drop i=js.drop i):=by
 intro m
 induction m with
 |zero=>
  intro i hm hi;refine⟨Δ,?_,by rw[Awb (by omega),Awb (by omega)];simp⟩;unfold Abo;rw[eF,AY,eF,AY];refine AE Kq Us (Ak0 ..) ?_;rw[Al];exact AA rfl
 |succ m ih=>
  intro i hm hi;have h1:i<ks.length:=by omega
  have h2:i<js.length:=by omega
  have hn1:∀ kk,Bw (ks.map eF) i kk=kk (eF ks[i]):=λkk=>Az (ξ h1) kk
  have hn2:∀ kk,Bw (js.map eF) i kk=kk (eF js[i]):=λkk=>Az (ξ h2) kk
  obtain⟨c,gc,hc⟩:=g ks[i] (Aws h1) js[i] (Aws h2);rw[η h1,η h2];revert hn1 hn2 gc hc;generalize ks[i]=x;generalize js[i]=y;intro hn1 hn2 gc hc;obtain⟨b,g,hb⟩:=ih (i+1) (by omega) (by omega);unfold Abo at g ⊢;rw[eF,AY,eF,AY]at g ⊢;refine⟨c&&b,?_,by rw[Awh,hc,hb,List.cons.injEq]⟩;obtain⟨k0,⟨p0,z0⟩,e0,l0⟩:=x;obtain⟨k1,⟨p1,z1⟩,e1,l1⟩:=y;refine AE Kq Us (Ak0 ..) ?_;rw[Al];refine AB ?_;simp only[AI,hn1,hn2,eF,eN,Aj]at gc ⊢;refine Aa gc ?_;simp only[Aj]
  cases c with
  |false=>rfl
  |true=>
   refine Ah ?_;rw[BU (by omega)];refine Aa g ?_
   cases b<;>rfl
theorem Rc{n k:Nat}(hn:n<=1000000)(hk:k<=1000000000):∀(N:Nat) (x y:Fm),SizeOf.sizeOf x<N->FB n k x->CnF x->CnF y->∃ b,D.ask (.fn 38) [.agg (eF x),.agg (eF y)] []=Θ (bv b,[])/\(b=Δ ↔ x=y):=by
 intro N
 induction N with
 |zero=>intro x y h;omega
 |succ N ih=>
  intro x y hN hb hx hy;obtain⟨ht,hkl,hks⟩:=hb;rename_i xk xt xe ks;obtain⟨h2,hxs⟩:=hx;obtain @⟨yk,yt,ye,js,h3,hys⟩:=hy
  by_cases h0:xk=yk
  .by_cases hl:ks.length=js.length
   .obtain⟨b,g,hgb⟩:=Acp Kq ks js xk yk xt yt xe ye hl hkl (λx hx y hy=>ih x y (by have:=Ce (k:=xk) (t:=xt) (e:=xe) hx;omega) (hks x hx) (hxs x hx) (hys y hy)) _ 0 rfl (by omega)
    rw[ο,ο]at hgb;unfold Abo at g;rw[eF,AY,eF,AY]at g
    by_cases hk2:xk=2
    .obtain⟨c,gc,hc⟩:=U0 Kt Kq F (u:=yt) ht hn hk xe ye
     refine⟨c&&b,?_,?_⟩
     .refine AC Kq Us (e38 ..) ?_
      rw[AY,AY,Al,Al];refine AG ?_ h0;refine AG ?_;refine AG ?_ hk2;refine Aa gc ?_;simp only[Aj]
      cases c with
      |false=>rfl
      |true=>
       refine Ah ?_;refine Aa g ?_
       cases b<;>rfl
     .rw[Awh,hc,hgb,Fm.mk.injEq]
      constructor
      .rintro⟨⟨rfl,rfl⟩,rfl⟩
       exact⟨h0,rfl,rfl,rfl⟩
      .rintro⟨_,rfl,rfl,rfl⟩
       exact⟨⟨rfl,rfl⟩,rfl⟩
    .refine⟨b,?_,?_⟩
     .refine AC Kq Us (e38 ..) ?_
      rw[AY,AY,Al,Al];refine AG ?_ h0;refine AG ?_;refine Ay ?_ hk2;refine Aa g ?_
      cases b<;>rfl
     .obtain⟨rfl,rfl⟩:=h2 hk2
      obtain⟨rfl,rfl⟩:=h3 (by rw[←h0];exact hk2);rw[hgb,Fm.mk.injEq];exact⟨λh=>⟨h0,rfl,rfl,h⟩,λh=>h.2.2.2⟩
   .refine⟨Φ,?_,by simp only[Axj,false_iff,Fm.mk.injEq];exact λh=>hl (by rw[h.2.2.2])⟩
    refine AC Kq Us (e38 ..) ?_;rw[AY,AY,Al,Al];refine AG ?_ h0;exact EI (by omega)
  .refine⟨Φ,?_,by simp only[Axj,false_iff,Fm.mk.injEq];exact λh=>h0 h.1⟩
   refine AC Kq Us (e38 ..) ?_;exact EI h0
omit Kt F in
theorem CS(b:Bool):D.ask (.fn 109) [bv b] []=Θ (.agg (eF (Hz b)),[]):=by
 refine AC Kq Alk (AsW ..) ?_
 cases b<;>rfl
omit Kt F in
theorem Ad3(x:Fm):D.ask (.fn 111) [.agg (eF x)] []=Θ (.ls ((CB x).map eF),[]):=by
 obtain⟨k,t,e,ks⟩:=x;refine AC Kq AcC (ApY ..) ?_;rw[AY,CB]
 by_cases h4:k=4
 .rw[Ac (.inl h4)]
  exact DP h4
 refine Ay ?_ h4
 by_cases h5:k=5
 .rw[Ac (.inr h5)]
  exact DP h5
 refine Ay ?_ h5;rw[Ad (by omega)]
 by_cases h3:k=3
 .rw[Ac h3]
  refine AG ?_ h3;rw[Al]
  cases ks with
  |nil=>rfl
  |cons y r=>
   refine AB ?_ (by rw[γ];omega);rw[show HY 0 1 (y::r).length=Δ by simp[HY],El (λx=>by obtain⟨k,t,e,ks⟩:=x;rfl),GZ,GG];rfl
 .rw[Ad h3]
  exact EI h3
include Kh in
theorem Pj{n k:Nat}{t:Tm}(ht:TmB n k t)(hn:n<=1000000)(hk:k+n<=400000000)(e:Bool):D.ask (.fn 110) [.agg (eT t++[bv e])] []=Θ (.agg (eF (Ea t.lf.pln e)),[]):=by
 have g:=Fq Kt Kh F ht hn hk;obtain⟨ps,kz⟩:=t;refine AC Kq All (AsX ..) ?_;refine Aa g ?_;rfl
end
section
variable {D:Orc} (KL:KnowsL Au JA D)
include KL
theorem AdV(ks:List Fm)(hl:ks.length<=1000000)(g:∀ x∈ks,D.ask (.fn 42) [.agg (eF x)] []=Θ (.agg (eF (BI x)),[]))(r0:Int)(r1:Rw)(r2:Bool)(r3:Rw)(r4:Bool)(r5:Rw)(k0:Int)(k2 k4:Bool):∀(m i:Nat) (out:List Fm),ks.length-i=m->i<=ks.length->out.length<=i->
  D.ask (.lp 42 0) [.ptr 0 0,.ptr 1 0,.ls (ks.map eF),iv (i:Int)] [⟨[iv r0,.ls r1,bv r2,.ls r3,bv r4,.ls r5],Δ,Φ⟩,⟨[iv k0,.v (.slice Ξ 0 0),bv k2,.v (.slice Ξ 0 0),bv k4,.sl 2 0 out.length 6],Δ,Φ⟩,⟨Ao eF out,Δ,Δ⟩]
   = Θ (.tup [iv 1,.ptr 0 0,.ptr 1 0],[.set ⟨[iv r0,.ls r1,bv r2,.ls r3,bv r4,.ls r5],Δ,Φ⟩,.set ⟨[iv k0,.v (.slice Ξ 0 0),bv k2,.v (.slice Ξ 0 0),bv k4,.sl 3 0 (out++(ks.drop i).map BI).length 6],Δ,Φ⟩,.del,.set ⟨Ao eF (out++(ks.drop i).map BI),Δ,Δ⟩]):=by
 intro m
 induction m with
 |zero=>
  intro i out hm hi ho;rw[Awb (by omega),Axb,AwF];refine KL.lpL' AcJ _ rfl (by kernel_rfl) ((Ak1 ..).trans ?_);rw[Al];exact AA rfl
 |succ m ih=>
  intro i out hm hi ho;have h1:i<ks.length:=by omega
  have hn1:∀ kk,Bw (ks.map eF) i kk=kk (eF ks[i]):=λkk=>Az (ξ h1) kk
  have gx:=g ks[i] (Aws h1);rw[η h1,Awq];revert hn1 gx;generalize ks[i]=x;intro hn1 gx;have ih:=ih (i+1) (out++[BI x]) (by omega) (by omega) (by simp;omega);rw[Awd,AwO,show (out++[BI x]).length=out.length+1 by simp]at ih;have hf:Ba (out.length+1) 96=Δ:=AP (by omega) (by omega);have hb1:Awf (0+out.length*6) (Ao eF out).length=Δ:=AK BF out (by omega);have e3:Av8 0 (κ (0+out.length*6) (Ao eF out))++eF (BI x)=Ao eF (out++[BI x]):=by
   rw[ο,Bb BF out (by omega)];exact Bc eF out (BI x)
  revert gx ih e3;generalize BI x=y;intro gx ih e3;obtain⟨y0,⟨y1,y2⟩,y3,y4⟩:=y;obtain⟨x0,⟨x1,x2⟩,x3,x4⟩:=x;refine KL.lpL' AcJ _ rfl (by kernel_rfl) ((Ak1 ..).trans ?_);rw[Al];refine AB ?_;rw[AI,hn1];simp only[eF,eN,Aj]at gx e3 ⊢;refine Aa gx ?_;simp only[Aj];rw[hf];refine Ah ?_;rw[hb1];refine Ah ?_;rw[e3,BU (by omega)];refine Aa ih ?_;rfl
end
section
variable {D:Orc} (Kt:Knows Au HQ D) (Kh:Knows Au IP D) (Kq:Knows Au JA D) (F:RF D)
include Kt Kh Kq F
theorem Rb{n k:Nat}(hn:n<=1000000)(hk:k+n<=400000000):∀(N:Nat) (x:Fm),SizeOf.sizeOf x<N->FC n k x->D.ask (.fn 42) [.agg (eF x)] []=Θ (.agg (eF (BI x)),[]):=by
 intro N
 induction N with
 |zero=>intro x h;omega
 |succ N ih=>
  intro x hN hb;obtain⟨ht,hkl,hks⟩:=hb;rename_i kd t e ks;have gk:=Ad3 Kq (.mk kd t e ks);have gl:∀(js:List Fm),(∀ y∈js,y∈CB (.mk kd t e ks))->js.length<=1000000->D.ask (.lp 42 0) [.ptr 0 0,.ptr 1 0,.ls (js.map eF),iv ((0:Nat):Int)] [⟨[iv 0,.ls [],bv Φ,.ls [],bv Φ,.ls []],Δ,Φ⟩,⟨[iv kd,.v (.slice Ξ 0 0),bv Φ,.v (.slice Ξ 0 0),bv Φ,.sl 2 0 0 6],Δ,Φ⟩,⟨[],Δ,Δ⟩]
   = Θ (.tup [iv 1,.ptr 0 0,.ptr 1 0],[.set ⟨[iv 0,.ls [],bv Φ,.ls [],bv Φ,.ls []],Δ,Φ⟩,.set ⟨[iv kd,.v (.slice Ξ 0 0),bv Φ,.v (.slice Ξ 0 0),bv Φ,.sl 3 0 (js.map BI).length 6],Δ,Φ⟩,.del,.set ⟨Ao eF (js.map BI),Δ,Δ⟩]):=λjs hj hjl=>by
   have:=AdV Kq.l js hjl (λy hy=>ih y (by have:=Ce (k:=kd) (t:=t) (e:=e) (Fo (hj y hy));omega) (hks y (hj y hy))) 0 [] Φ [] Φ [] kd Φ Φ _ 0 [] rfl (by omega) (by simp);rw[ο,Awv]at this;exact this
  refine AC Kq AcJ (e42 ..) ?_;rw[BI]
  by_cases h0:kd=0
  .rw[Ac h0]
   refine AG ?_ h0;exact Aa (CS Kq Δ) rfl
  refine Ay ?_ h0;rw[Ad h0]
  by_cases h2:kd=2
  .rw[Ac h2]
   refine AG ?_ h2;have ga:=Pj Kt Kh Kq F (ht h2) hn hk e;obtain⟨ps,kz⟩:=t;exact Aa ga rfl
  refine Ay ?_ h2;rw[Ad h2];rw[CB,eF,AY]at gk;rw[CB]at gl hkl;rw[AY]
  by_cases h3:kd=3
  .rw[Ac h3,Il]
   rw[Ad (by omega),Ac h3]at gk gl;have gl:=gl (ks.take 1) (λy hy=>hy) (by rw[Awo];omega);refine AG ?_ h3;refine Aa gk ?_;simp only[Aj];refine Aa gl ?_;simp only[Aj,G3];rw[AK BF _ (by omega)];refine Ah ?_;rw[Bi BF _ rfl,h3,kF,eF,AY];rfl
  rw[Ad h3];refine Ay ?_ h3
  by_cases h45:kd=4\/kd=5
  .rw[Ac h45,EW]
   rw[Ac h45]at gk gl hkl;have gl:=gl ks (λy hy=>hy) hkl;have fin:Θ ((.agg [iv kd,.ls [],bv Φ,.ls [],bv Φ,.ls ((ks.map BI).map eF)],[]):AV × List BO)=Θ (.agg (eF (kF kd (ks.map BI))),[]):=by
    rw[kF,eF,AY];rfl
   rcases h45 with h4|h5
   .refine AG ?_ h4
    refine Aa gk ?_;simp only[Aj];refine Aa gl ?_;simp only[Aj,G3];rw[AK BF _ (by omega)];refine Ah ?_;rw[Bi BF _ rfl];exact fin
   .refine Ay ?_
    refine AG ?_ h5;refine Aa gk ?_;simp only[Aj];refine Aa gl ?_;simp only[Aj,G3];rw[AK BF _ (by omega)];refine Ah ?_;rw[Bi BF _ rfl];exact fin
  .rw[Ad h45]
   refine Ay ?_;refine Ay ?_;exact Aa (CS Kq Φ) rfl
end
theorem LK(v n:Int):∀ l:List (Int × Int),BE v (l.map λp=>(p.1,p.2*n))=BE v l*n
 |[]=>by simp[BE]
 |p::r=>by
  rw[Awq,BE,BE,LK v n r,Int.add_mul];split<;>simp
theorem Aps(l:Lf):(l.scale (-1)).scale (-1)=l.pln:=by
 unfold Lf.scale Lf.pln
 congr 1
 .refine K8 (DI _) λv hv=>?_
  rw[FH,Ac hv,LK,FH,Ac hv,LK];omega
 .show l.k*(-1)*(-1)=l.k
  omega
section
variable {D:Orc} (Kc:Knows Au Vk D) (F:RF D)
include Kc F
variable (Kt:Knows Au HQ D) (Kh:Knows Au IP D)
include Kt Kh
theorem Z9{n k:Nat}{t:Tm}(ht:TmB n k t)(hn:n<=100000)(hk:k<=1000000)(e:Bool):D.ask (.fn 24) [.agg (JQ (t,e))] []=Θ (.ls ((EX t.lf e).map JQ),[]):=by
 have g1:=F.of_ 1 (by decide) (by decide);have g2:=WU Kt F (z:=AQ 1) ((InB.one (k:=1) (by omega)).lz.mono (by omega));rw[Bm]at g2;have g3:=F.of_ (-1) (by decide) (by decide);have g4:=YR Kt Kh F ht (by omega) (by omega);have hs:LB n (k+1+n) (t.lf.scale (-1)):=ht.lb.scale (by unfold InB;decide);have g5:=YU Kt Kh F hs.tb (NC (k+1+n) (by omega)).tb (by omega) (by omega);rw[Ek,Ek]at g5;have g6:=Fq Kt Kh F ht (by omega) (by omega);have g7:=YU Kt Kh F (ht.lb.pln.tb.mono (π _) (show k+n<=k+n+1 by omega)) (NC (k+n+1) (by omega)).tb (by omega) (by omega);rw[Ek,Ek]at g7;have e7:t.lf.pln.sub (Lf.num 1)=DO (t.lf.scale (-1)):=by
  unfold DO;rw[Aps]
 rw[e7]at g7;rw[show (t.lf.scale (-1)).sub (Lf.num 1)=DO t.lf from rfl]at g5;unfold EX;revert g2 g4 g5 g6 g7;generalize (DO (t.lf.scale (-1))).tm=d;generalize (DO t.lf).tm=c;generalize (t.lf.scale (-1)).tm=a;generalize t.lf.pln.tm=p;generalize (Lf.num 1).tm=o;intro g2 g4 g5 g6 g7;obtain⟨tp,tz⟩:=t;obtain⟨ap,az⟩:=a;obtain⟨pp,pz⟩:=p;obtain⟨op,oz⟩:=o;obtain⟨cp,cz⟩:=c;obtain⟨dp,dz⟩:=d;simp only[eT,eZ,eN]at g1 g2 g3 g4 g5 g6 g7;refine AC Kc Aqz (e24 ..) ?_;refine Aa g1 ?_;simp only[Aj];refine Aa g2 ?_;simp only[Aj];refine Aa g3 ?_;simp only[Aj];refine Aa g4 ?_;simp only[Aj];refine Aa g5 ?_;simp only[Aj]
 cases e with
 |false=>
  refine Ah ?_;rfl
 |true=>
  refine BR ?_;refine Aa g6 ?_;simp only[Aj];refine Aa g7 ?_;rfl
end
def XA(k:Int)(b n:Nat):ABlk:=bk [iv k,.v (.slice Ξ 0 0),bv Φ,.v (.slice Ξ 0 0),bv Φ,.sl b 0 n 6]
theorem AcW:∀(N:Nat) (x:Fm),SizeOf.sizeOf x<N->∀ d,DR (Eu x d)<=3*GF x:=by
 intro N
 induction N with
 |zero=>intro x h;omega
 |succ N ih=>
  intro x hN d;obtain⟨k,t,e,ks⟩:=x;have hk:∀ y∈ks,∀ d,DR (Eu y d)<=3*GF y:=λy hy d=>ih y (by have:=Ce (k:=k) (t:=t) (e:=e) hy;omega) d
  rw[Eu,GF]
  by_cases h0:k=0
  .rw[Ac h0,Gi]
   omega
  rw[Ad h0]
  by_cases h2:k=2
  .rw[Ac h2]
   cases d with
   |false=>
    rw[Ad (by decide)]
    show 1+Cf []<=_
    rw[Cf];omega
   |true=>
    rw[Ac rfl];unfold kF;rw[DR];have h3:∀ l:List (Tm × Bool),Cf (l.map λr=>Ea r.1.lf.pln r.2)=l.length:=λl=>by
     induction l with
     |nil=>rfl
     |cons r l ih2=>
      rw[Awq,Cf,ih2,γ]
      show 1+Cf []+_=_
      rw[Cf];omega
    have h4:=Fx t.lf e;rw[h3];omega
  rw[Ad h2]
  by_cases h3:k=3
  .rw[Ac h3,Ad (by omega),Ac h3]
   cases ks with
   |nil=>rw[Wq,Gi];omega
   |cons y r=>
    have:=hk y (Awi ..) (!d);rw[Wq,MD];omega
  rw[Ad h3]
  by_cases h4:k=4\/k=5
  .rw[Ac h4,Ac h4]
   unfold kF;rw[DR];have h5:∀ l:List Fm,(∀ y∈l,∀ d,DR (Eu y d)<=3*GF y)->Cf (Wp l d)<=3*Im l:=λl=>by
    induction l with
    |nil=>intro _;rw[Wp,Cf];omega
    |cons y l ih2=>
     intro hl;have h6:=ih2 λz hz=>hl z (Awk _ hz)
     have h7:=hl y (Awi ..) d;rw[Wp,Cf,Im];omega
   have:=h5 ks hk;omega
  .rw[Ad h4,Gi]
   omega
theorem Af5{n k:Nat}:∀(N:Nat) (x:Fm),SizeOf.sizeOf x<N->FC n k x->∀ d,FB n (2*k+7*n+6) (Eu x d):=by
 intro N
 induction N with
 |zero=>intro x h;omega
 |succ N ih=>
  intro x hN hx d;obtain⟨ht,hkl,h⟩:=hx;rename_i kd t e ks;have hh:∀ y∈CB (.mk kd t e ks),∀ d,FB n (2*k+7*n+6) (Eu y d):=λy hy d=>ih y (by have:=Ce (k:=kd) (t:=t) (e:=e) (Ef hy);omega) (h y hy) d
  rw[Dg]at hh hkl;rw[Eu]
  by_cases h0:kd=0
  .rw[Ac h0]
   exact Gx _ _ _
  rw[Ad h0]
  by_cases h2:kd=2
  .rw[Ac h2]
   have ht:=ht h2
   cases d with
   |false=>
    rw[Ad (by decide)];exact .mk (ht.lb.pln.tb.mono (π _) (by omega)) (Awz _) λy hy=>(by cases hy)
   |true=>
    rw[Ac rfl];refine .mk (Gf _ _) (by rw[Awm];have:=Fx t.lf e;omega) λy hy=>?_
    obtain⟨r,hr,rfl⟩:=AwV.1 hy;exact .mk ((Nv ht.lb e r hr).lb.pln.tb.mono (π _) (by omega)) (Awz _) λy hy=>(by cases hy)
  rw[Ad h2]
  by_cases h3:kd=3
  .rw[Ac h3]
   rw[Ad (by omega),Ac h3]at hh
   cases ks with
   |nil=>exact Gx _ _ _
   |cons y r=>exact hh y (Awi ..) (!d)
  rw[Ad h3]
  by_cases h4:kd=4\/kd=5
  .rw[Ac h4]
   rw[Ac h4]at hh hkl;refine .mk (Gf _ _) (by rw[IA,Awm];exact hkl) λy hy=>?_
   rw[IA]at hy;obtain⟨z,hz,rfl⟩:=AwV.1 hy;exact hh z hz d
  .rw[Ad h4]
   exact Gx _ _ _
theorem AjV:∀(N:Nat) (x:Fm),SizeOf.sizeOf x<N->DR (Ew x)<=DR x:=by
 intro N
 induction N with
 |zero=>intro x h;omega
 |succ N ih=>
  intro x hN;obtain⟨k,t,e,ks⟩:=x;have hk:∀ y∈ks,DR (Ew y)<=DR y:=λy hy=>ih y (by have:=Ce (k:=k) (t:=t) (e:=e) hy;omega)
  rw[Ew,DR]
  by_cases h2:k=2
  .rw[Ac h2,Mo]
   omega
  rw[Ad h2]
  by_cases h4:k=4\/k=5
  .rw[Ac h4]
   have h5:∀ l:List Fm,(∀ y∈l,DR (Ew y)<=DR y)->Cf (UI l)<=Cf l:=λl=>by
    induction l with
    |nil=>intro _;rw[UI];exact π _
    |cons y l ih2=>
     intro hl;have h6:=ih2 λz hz=>hl z (Awk _ hz)
     have h7:=hl y (Awi ..);rw[UI,Cf,Cf];omega
   have h6:=h5 ks hk;have h7:=OY k (UI ks) [];rw[show Cf []=0 from rfl]at h7;omega
  .rw[Ad h4,DR]
   omega
theorem Adp(l:List Fm):Cf (l.map Ew)<=Cf l:=by
 induction l with
 |nil=>exact π _
 |cons y l ih=>
  have:=AjV _ y (AwC _);rw[Awq,G0,G0];omega
section
variable {D:Orc} (Kl:Knows Au YZ D) (Kq:Knows Au JA D)
include Kl
theorem Af6(rs:List (Tm × Bool))(hl:rs.length<=1000000)(g:∀ r∈rs,D.ask (.fn 110) [.agg (JQ r)] []=Θ (.agg (eF (Ea r.1.lf.pln r.2)),[])):∀(m i:Nat) (out:List Fm),rs.length-i=m->i<=rs.length->out.length<=i->
  D.ask (.lp 106 0) [.ptr 0 0,.ptr 1 0,.ls (rs.map JQ),iv (i:Int)] [bk (eF (kF 0 [])),XA 5 2 out.length,θ (Ao eF out) Δ Δ]=Θ (.tup [iv 1,.ptr 0 0,.ptr 1 0],[.set (bk (eF (kF 0 []))),.set (XA 5 3 (out++(rs.drop i).map λr=>Ea r.1.lf.pln r.2).length),.del,.set (θ (Ao eF (out++(rs.drop i).map λr=>Ea r.1.lf.pln r.2)) Δ Δ)]):=by
 intro m
 induction m with
 |zero=>
  intro i out hm hi ho;rw[Awb (by omega),Axb,AwF];refine AE Kl F5 (AbF ..) ?_;rw[Al];exact AA rfl
 |succ m ih=>
  intro i out hm hi ho;have h1:i<rs.length:=by omega
  have gx:=g rs[i] (Aws h1);rw[η h1,Awq];have ih:=ih (i+1) (out++[Ea rs[i].1.lf.pln rs[i].2]) (by omega) (by omega) (by simp;omega);rw[Awd,AwO,show (out++[Ea rs[i].1.lf.pln rs[i].2]).length=out.length+1 by simp]at ih;have hf:Ba (out.length+1) 96=Δ:=AP (by omega) (by omega);have hb1:Awf (0+out.length*6) (Ao eF out).length=Δ:=AK BF out (by omega);have e3:Av8 0 (κ (0+out.length*6) (Ao eF out))++eF (Ea rs[i].1.lf.pln rs[i].2)=Ao eF (out++[Ea rs[i].1.lf.pln rs[i].2]):=by
   rw[ο,Bb BF out (by omega)];exact Bc eF out _
  refine AE Kl F5 (AbF ..) ?_;rw[Al];refine AB ?_;rw[AI,Az (ξ h1)];revert gx ih e3;generalize Ea rs[i].1.lf.pln rs[i].2=y;generalize rs[i]=x;obtain⟨⟨xp,xz⟩,xe⟩:=x;obtain⟨yk,yt,ye,ys⟩:=y;intro gx ih e3;simp only[E9,eF,eN,Aj]at gx e3 ⊢;refine Aa gx ?_;simp only[Aj];rw[hf];refine Ah ?_;rw[hb1];refine Ah ?_;rw[e3,BU (by omega)];refine Aa ih ?_;rfl
theorem Af7(d:Bool)(ks:List Fm)(x0:Int)(x1:Tm)(x2:Bool)(k:Int)(hl:ks.length<=1000000)(g:∀ y∈ks,D.ask (.fn 106) [.agg (eF y),bv d] []=Θ (.agg (eF (Eu y d)),[])):∀(m i:Nat) (out:List Fm),ks.length-i=m->i<=ks.length->out.length<=i->
  D.ask (.lp 106 1) [bv d,.ptr 0 0,.ptr 1 0,.ptr 2 0,iv (i:Int)] [bk [iv x0,.ls (x1.ps.map eP),bv x1.k.neg,.ls (x1.k.abs.map eL),bv x2,.ls (ks.map eF)],bk (eF (kF 0 [])),XA k 3 out.length,θ (Ao eF out) Δ Δ]=Θ (.tup [iv 3,.ptr 1 0,.ptr 2 0],[.del,.set (bk (eF (kF 0 []))),.set (XA k 4 (out++(ks.drop i).map λy=>Eu y d).length),.del,.set (θ (Ao eF (out++(ks.drop i).map λy=>Eu y d)) Δ Δ)]):=by
 intro m
 induction m with
 |zero=>
  intro i out hm hi ho;rw[Awb (by omega),Axb,AwF];refine AE Kl F5 (AbG ..) ?_;rw[Al];exact AA rfl
 |succ m ih=>
  intro i out hm hi ho;have h1:i<ks.length:=by omega
  have gx:=g ks[i] (Aws h1);rw[η h1,Awq];have ih:=ih (i+1) (out++[Eu ks[i] d]) (by omega) (by omega) (by simp;omega);rw[Awd,AwO,show (out++[Eu ks[i] d]).length=out.length+1 by simp]at ih;have hf:Ba (out.length+1) 96=Δ:=AP (by omega) (by omega);have hb1:Awf (0+out.length*6) (Ao eF out).length=Δ:=AK BF out (by omega);have e3:Av8 0 (κ (0+out.length*6) (Ao eF out))++eF (Eu ks[i] d)=Ao eF (out++[Eu ks[i] d]):=by
   rw[ο,Bb BF out (by omega)];exact Bc eF out _
  refine AE Kl F5 (AbG ..) ?_;rw[Al];refine AB ?_;rw[AI,Az (ξ h1)];revert gx ih e3;generalize Eu ks[i] d=y;generalize ks[i]=x;obtain⟨xk,xt,xe,xs⟩:=x;obtain⟨yk,yt,ye,ys⟩:=y;intro gx ih e3;simp only[eF,eN,Aj]at gx e3 ⊢;refine Aa gx ?_;simp only[Aj];rw[hf];refine Ah ?_;rw[hb1];refine Ah ?_;rw[e3,BU (by omega)];refine Aa ih ?_;rfl
variable (Kt:Knows Au HQ D) (Kh:Knows Au IP D) (F:RF D) (Ks:Knows Au Rq D) (W:RdF D) (Ku:Knows Au Vj D) (Kv:Knows Au Vk D)
include Kq
include Kt Kh F Kv in
theorem WT{n k:Nat}(hn:n<=250)(hk:k<=250):∀(N:Nat) (x:Fm),SizeOf.sizeOf x<N->FC n k x->∀ d,D.ask (.fn 106) [.agg (eF x),bv d] []=Θ (.agg (eF (Eu x d)),[]):=by
 intro N
 induction N with
 |zero=>intro x h;omega
 |succ N ih=>
  intro x hN hx d;obtain⟨ht,hkl,h⟩:=hx;rename_i kd t e ks;have gks:∀ y∈CB (.mk kd t e ks),∀ d,D.ask (.fn 106) [.agg (eF y),bv d] []=Θ (.agg (eF (Eu y d)),[]):=λy hy d=>ih y (by have:=Ce (k:=kd) (t:=t) (e:=e) (Ef hy);omega) (h y hy) d
  rw[Dg]at gks hkl;rw[Eu]
  by_cases h0:kd=0
  .rw[Ac h0,eF,AY]
   refine AC Kl F5 (VZ ..) ?_;refine AG ?_ h0
   cases d with
   |false=>
    refine Ah ?_;refine Aa (CS Kq Δ) ?_;rfl
   |true=>
    refine BR ?_;refine Aa (CS Kq Φ) ?_;rfl
  rw[Ad h0]
  by_cases h2:kd=2
  .rw[Ac h2]
   have ht:=ht h2
   cases d with
   |false=>
    have gt:=Pj Kt Kh Kq F ht (by omega) (by omega) e;rw[Ad (by decide),eF,AY];revert gt;generalize Ea t.lf.pln e=Y;intro gt;obtain⟨Yk,Yt,Ye,Ys⟩:=Y;obtain⟨ps,kz⟩:=t;simp only[eF,eN]at gt ⊢;refine AC Kl F5 (VZ ..) ?_;refine Ay ?_ h0;refine AG ?_ h2;refine Ah ?_;refine Aa gt ?_;rfl
   |true=>
    have gd:=Z9 Kv F Kt Kh ht (by omega) (by omega) e;have gl:=Af6 Kl (EX t.lf e) (by have:=Fx t.lf e;omega) (λr hr=>Pj Kt Kh Kq F (Nv ht.lb e r hr) (by omega) (by omega) r.2) _ 0 [] rfl (by omega) (by simp);rw[ο,Awv,show Ao eF ([]:List Fm)=[] from rfl,Axa,eF0]at gl;rw[Ac rfl];unfold kF;rw[eF,AY,eF,AY];revert gl;generalize (EX t.lf e).map (λr=>Ea r.1.lf.pln r.2)=fs;intro gl;obtain⟨ps,kz⟩:=t;simp only[E9,eN]at gd ⊢;refine AC Kl F5 (VZ ..) ?_;refine Ay ?_ h0;refine AG ?_ h2;refine BR ?_;refine Aa gd ?_;simp only[Aj];refine Aa gl ?_;unfold XA;simp only[Aj];rw[show Awf (0+fs.length*6) (Ao eF fs).length=Δ from AK BF _ (by omega)];refine Ah ?_;rw[Bi BF _ rfl];rfl
  rw[Ad h2]
  by_cases h3:kd=3
  .rw[Ac h3]
   rw[Ad (by omega),Ac h3]at gks
   cases ks with
   |nil=>
    rw[eF,AY];refine AC Kl F5 (VZ ..) ?_;refine Ay ?_ h0;refine Ay ?_ h2;refine AG ?_ h3;refine AA ?_ (by decide);refine Aa (CS Kq d) ?_
    cases d<;>rfl
   |cons y r=>
    have gf:=gks y (Awi ..) (!d);rw[Wq,eF,AY];revert gf;generalize Eu y (!d)=Y;intro gf;obtain⟨Yk,Yt,Ye,Ys⟩:=Y;refine AC Kl F5 (VZ ..) ?_;refine Ay ?_ h0;refine Ay ?_ h2;refine AG ?_ h3;rw[Al];refine AB ?_ (by rw[γ];omega);rw[Az (x:=y) (show (y::r)[0]? = Θ y from rfl)];obtain⟨yk,yt,ye,ys⟩:=y;simp only[eF,eN,Aj]at gf ⊢
    cases d with
    |false=>
     refine Ah ?_;refine Aa gf ?_;rfl
    |true=>
     refine BR ?_;refine Aa gf ?_;rfl
  rw[Ad h3]
  by_cases h4:kd=4\/kd=5
  .rw[Ac h4]
   rw[Ac h4]at gks hkl;have gl:=λk=>Af7 Kl d ks kd t e k hkl (λx hx=>gks x hx d) _ 0 [] rfl (by omega) (by simp)
   simp only[ο,Awv,show Ao eF ([]:List Fm)=[] from rfl,Axa,eF0]at gl;unfold kF;rw[eF,AY,eF,AY,IA];have hlen:(ks.map λy=>Eu y d).length<=1000000:=by rw[Awm];exact hkl
   revert gl hlen;generalize ks.map (λy=>Eu y d)=fs;intro gl hlen;refine AC Kl F5 (VZ ..) ?_;refine Ay ?_ h0;refine Ay ?_ h2;refine Ay ?_ h3;unfold XA at gl;have hb:=AK BF fs (n:=0+fs.length*6) (by omega);rcases h4 with rfl|rfl
   .refine AG ?_ rfl
    cases d with
    |false=>
     refine BR ?_;refine Aa (gl 4) ?_;simp only[Aj];rw[hb];refine Ah ?_;rw[Bi BF _ rfl];rfl
    |true=>
     refine Ah ?_;refine Aa (gl 5) ?_;simp only[Aj];rw[hb];refine Ah ?_;rw[Bi BF _ rfl];rfl
   .refine Ay ?_ (by decide)
    refine AG ?_ rfl
    cases d with
    |false=>
     refine BR ?_;refine Aa (gl 5) ?_;simp only[Aj];rw[hb];refine Ah ?_;rw[Bi BF _ rfl];rfl
    |true=>
     refine Ah ?_;refine Aa (gl 4) ?_;simp only[Aj];rw[hb];refine Ah ?_;rw[Bi BF _ rfl];rfl
  .rw[Ad h4,eF,AY]
   refine AC Kl F5 (VZ ..) ?_;refine Ay ?_ h0;refine Ay ?_ h2;refine Ay ?_ h3;refine Ay ?_ (λh=>h4 (.inl h));refine Ay ?_ (λh=>h4 (.inr h));refine Aa (CS Kq d) ?_
   cases d<;>rfl
omit Kq in
theorem AjU(f:Ab)(f0:Int)(f1:Rw)(f2:Bool)(f3:Rw)(f4:Bool)(f5:Rw)(k:Int)(t6:Int)(g0:Int)(gt:Tm)(ge:Bool)(gs:List Fm)(hg:gs.length<=1000000):∀(m i:Nat) (out:List Fm),gs.length-i=m->i<=gs.length->out.length+gs.length<=2000000+i->
  D.ask (.lp 105 1) [.ptr 0 0,.ptr 1 0,.ptr 2 0,iv t6,.ptr 3 0,iv (i:Int)] [bk [iv f0,.ls f1,bv f2,.ls f3,bv f4,.ls f5],bk (eF (kF 0 [])),XA k 4 out.length,bk [iv g0,.ls (gt.ps.map eP),bv gt.k.neg,.ls (gt.k.abs.map eL),bv ge,.ls (gs.map eF)],θ (Ao eF out) Δ Δ]
   = Θ (.tup [iv 2,.ptr 0 0,.ptr 1 0,.ptr 2 0,iv t6],[.set (bk [iv f0,.ls f1,bv f2,.ls f3,bv f4,.ls f5]),.set (bk (eF (kF 0 []))),.set (XA k 5 (out++gs.drop i).length),.del,.del,.set (θ (Ao eF (out++gs.drop i)) Δ Δ)]):=by
 intro m
 induction m with
 |zero=>
  intro i out hm hi ho;rw[Awb (by omega),AwF];refine AE Kl Jt (AbE ..) ?_;rw[Al];exact AA rfl
 |succ m ih=>
  intro i out hm hi ho;have h1:i<gs.length:=by omega
  rw[η h1];have ih:=ih (i+1) (out++[gs[i]]) (by omega) (by omega) (by simp;omega);rw[Awd,AwO,show (out++[gs[i]]).length=out.length+1 by simp]at ih;have hf:Ba (out.length+1) 96=Δ:=AP (by omega) (by omega);have hb1:Awf (0+out.length*6) (Ao eF out).length=Δ:=AK BF out (by omega);have e3:Av8 0 (κ (0+out.length*6) (Ao eF out))++eF (gs[i])=Ao eF (out++[gs[i]]):=by
   rw[ο,Bb BF out (by omega)];exact Bc eF out _
  refine AE Kl Jt (AbE ..) ?_;rw[Al];refine AB ?_;rw[AI,Az (ξ h1)];revert ih e3;generalize gs[i]=x;obtain⟨xk,xt,xe,xs⟩:=x;intro ih e3;simp only[eF,eN,Aj]at e3 ⊢;rw[hf];refine Ah ?_;rw[hb1];refine Ah ?_;rw[e3,BU (by omega)];refine Aa ih ?_;rfl
def Aul(k:Int)(f:Ab):Option Fm × List Fm->AV × List BO
 |(Θ y,_)=>(.tup [bv Δ,.ptr 1 0],[.del,.set (bk (eF y)),.del,.del])
 |(Ξ,o)=>(.tup [iv 0,.ptr 0 0,.ptr 1 0,.ptr 2 0],[.set (bk f),.set (bk (eF (kF 0 []))),.set (XA k 4 o.length),.del,.set (θ (Ao eF o) Δ Δ)])
omit Kq in
theorem AjT{k:Int}(hk:k=4\/k=5)(t:Tm)(e:Bool)(ks:List Fm)(hl:ks.length<=1000000)(gx:∀ y∈ks,D.ask (.fn 105) [.agg (eF y)] []=Θ (.agg (eF (Ew y)),[])):∀(m i:Nat) (out:List Fm),ks.length-i=m->i<=ks.length->Cf out+Cf ((ks.drop i).map Ew)<=1000000->
  D.ask (.lp 105 0) [.ptr 0 0,.ptr 1 0,.ptr 2 0,iv (i:Int)] [bk [iv k,.ls (t.ps.map eP),bv t.k.neg,.ls (t.k.abs.map eL),bv e,.ls (ks.map eF)],bk (eF (kF 0 [])),XA k 3 out.length,θ (Ao eF out) Δ Δ]=Θ (Aul k [iv k,.ls (t.ps.map eP),bv t.k.neg,.ls (t.k.abs.map eL),bv e,.ls (ks.map eF)] (De k out ((ks.drop i).map Ew))):=by
 intro m
 induction m with
 |zero=>
  intro i out hm hi _;rw[Awb (by omega)];refine AE Kl Jt (AbD ..) ?_;rw[Al];exact AA rfl
 |succ m ih=>
  intro i out hm hi ht;have h1:i<ks.length:=by omega
  have hn1:∀ kk,Bw (ks.map eF) i kk=kk (eF ks[i]):=λkk=>Az (ξ h1) kk
  have gy:=gx ks[i] (Aws h1);rw[η h1,Awq]at ht ⊢;revert hn1 ht gy;generalize Ew ks[i]=y;generalize ks[i]=x;intro ht hn1 gy;obtain⟨xk,xt,xe,xs⟩:=x;obtain⟨gk,gt,ge,gs⟩:=y;rw[G0,DR]at ht;refine AE Kl Jt (AbD ..) ?_;rw[Al];refine AB ?_;rw[AI,hn1,De];unfold Fm.kind;simp only[eF,AY,eN,Aj]at gy ⊢;refine Aa gy ?_;simp only[Aj];rw[BU (by omega)];have hol:=CW out;have hgl:=CW gs
  by_cases h0:gk=0
  .refine AG ?_ h0
   rcases hk with rfl|rfl
   .rw[Ad (by omega),Ac (.inl h0)]
    refine AG ?_ rfl;refine Ay ?_;refine BR ?_;generalize hk4:(4:Int)=k at *;have g:=ih (i+1) out (by omega) (by omega) (by omega);refine Aa g ?_
    cases De k out ((ks.drop (i+1)).map Ew) with
    |mk a o=>
     cases a with
     |none=>rfl
     |some y=>
      obtain⟨yk,yt,ye,ys⟩:=y;rfl
   .rw[Ac (.inr ⟨rfl,h0⟩)]
    refine Ay ?_ (by decide);refine Ay ?_;refine Ah ?_
    show _=Θ ((.tup [bv Δ,.ptr 1 0],[.del,.set (bk (eF _)),.del,.del]):AV × List BO)
    rw[eF,AY];rfl
  refine Ay ?_ h0
  by_cases h2:gk=1
  .refine AG ?_ h2
   rcases hk with rfl|rfl
   .rw[Ac (.inl ⟨rfl,h2⟩)]
    refine AG ?_ rfl;refine AG ?_ h2;refine Ah ?_
    show _=Θ ((.tup [bv Δ,.ptr 1 0],[.del,.set (bk (eF _)),.del,.del]):AV × List BO)
    rw[eF,AY];rfl
   .rw[Ad (by omega),Ac (.inr h2)]
    refine Ay ?_ (by decide);refine AG ?_ h2;refine BR ?_;generalize hk4:(5:Int)=k at *;have g:=ih (i+1) out (by omega) (by omega) (by omega);refine Aa g ?_
    cases De k out ((ks.drop (i+1)).map Ew) with
    |mk a o=>
     cases a with
     |none=>rfl
     |some y=>
      obtain⟨yk,yt,ye,ys⟩:=y;rfl
  refine Ay ?_ h2;rw[Ad (by omega),Ad (by omega)]
  by_cases h3:gk=k
  .refine AG ?_ h3
   rw[Ac h3];unfold Fm.kids;have g1:=AjU Kl [] k (t.ps.map eP) t.k.neg (t.k.abs.map eL) e (ks.map eF) k (i:Int) gk gt ge gs (by omega) _ 0 out rfl (by omega) (by omega);rw[ο]at g1;have g:=ih (i+1) (out++gs) (by omega) (by omega) (by rw[C5];omega);unfold XA at g1 g;rw[eF0]at g1 g;refine Aa g1 ?_;simp only[Aj];rw[BU (by omega)];refine Aa g ?_
   cases De k (out++gs) ((ks.drop (i+1)).map Ew) with
   |mk a o=>
    cases a with
    |none=>rfl
    |some y=>
     obtain⟨yk,yt,ye,ys⟩:=y;rfl
  .refine Ay ?_ h3
   rw[Ad h3];have g:=ih (i+1) (out++[.mk gk gt ge gs]) (by omega) (by omega) (by rw[C5,FP,DR];omega);rw[ε,Awp]at g;have hf:Ba (out.length+1) 96=Δ:=AP (by omega) (by omega);have hb1:Awf (0+out.length*6) (Ao eF out).length=Δ:=AK BF out (by omega);have e3:Av8 0 (κ (0+out.length*6) (Ao eF out))++eF (.mk gk gt ge gs)=Ao eF (out++[.mk gk gt ge gs]):=by
    rw[ο,Bb BF out (by omega)];exact Bc eF out _
   rw[eF,AY]at e3;simp only[eN]at e3;rw[hf];refine Ah ?_;rw[hb1];refine Ah ?_;rw[e3];refine Aa g ?_
   cases De k (out++[.mk gk gt ge gs]) ((ks.drop (i+1)).map Ew) with
   |mk a o=>
    cases a with
    |none=>rfl
    |some y=>
     obtain⟨yk,yt,ye,ys⟩:=y;rfl
include Kt Kh F Ks W Ku
theorem Aag{n k:Nat}(hn:n<=1000000)(hk1:1<=k)(hk:k+3*n<=100000000):∀(N:Nat) (x:Fm),SizeOf.sizeOf x<N->FB n k x->DR x<=1000000->D.ask (.fn 105) [.agg (eF x)] []=Θ (.agg (eF (Ew x)),[]):=by
 intro N
 induction N with
 |zero=>intro x h;omega
 |succ N ih=>
  intro x hN hx hc;obtain⟨ht,hl,h⟩:=hx;rename_i kd t e ks;rw[DR]at hc;have hkt:∀ y∈ks,DR y<=Cf ks:=λy hy=>by
   clear hl h hc hN
   induction ks with
   |nil=>cases hy
   |cons z r ih2=>
    rw[G0];rcases Awj.1 hy with rfl|hy
    .omega
    .have:=ih2 hy
     omega
  have gks:∀ y∈ks,D.ask (.fn 105) [.agg (eF y)] []=Θ (.agg (eF (Ew y)),[]):=λy hy=>ih y (by have:=Ce (k:=kd) (t:=t) (e:=e) hy;omega) (h y hy) (by have:=hkt y hy;omega)
  rw[Ew,O4]
  by_cases h2:kd=2
  .rw[Ac h2]
   have g:=Aak Kt Kh F Ks W Ku ht hn hk1 hk e;rw[eF,AY];unfold Cm;revert g;generalize Jm t.lf.pln.tm e=T;intro g;obtain⟨⟨⟨rp,rz⟩,re⟩,n'⟩:=T;obtain⟨ps,kz⟩:=t;simp only[E9,eN]at g ⊢;refine AC Kl Jt (AnA ..) ?_;refine AG ?_ h2;refine Aa g ?_;simp only[Aj]
   by_cases h:n'=0
   .rw[Ac h,eF]
    exact DP h
   .rw[Ad h]
    refine Ay ?_ h
    by_cases h2:0<n'
    .rw[BT h2]
     refine AB ?_ h2;refine Aa (CS Kq Δ) ?_;rfl
    .rw[BX h2]
     refine AA ?_ h2;refine Aa (CS Kq Φ) ?_;rfl
  rw[Ad h2]
  by_cases h4:kd=4\/kd=5
  .rw[Ac h4]
   have hlt:=Adp ks;have g:=AjT Kl h4 t e ks hl gks _ 0 [] rfl (by omega) (by rw[ο,show Cf []=0 from rfl];omega);have hlen:=TX kd (ks.map Ew) [];rw[ο,show Ao eF ([]:List Fm)=[] from rfl,Axa,eF0]at g;unfold XA at g;rw[QN,eF,AY];revert g hlen;generalize De kd [] (ks.map Ew)=G;intro g hlen;obtain⟨a,o⟩:=G;refine AC Kl Jt (AnA ..) ?_;refine Ay ?_ h2;rcases h4 with rfl|rfl
   .refine AG ?_ rfl
    refine Aa g ?_
    cases a with
    |some y=>
     obtain⟨yk,yt,ye,ys⟩:=y
     show _=Θ (δ (eF (Fm.mk yk yt ye ys)),[])
     rw[eF];rfl
    |none=>
     have hol:=CW o;simp only[Cf]at hlen
     show _=Θ (δ (eF (LN 4 o)),[])
     simp only[XA,eF0,G3,Aj]
     match o,hol with
     |[],_=>
      refine AG ?_ rfl;unfold LN
      by_cases h:(4:Int)=4
      .rw[BT h]
       refine AG ?_ h;refine Aa (CS Kq Δ) ?_;rfl
      .rw[BX h]
       refine Ay ?_ h;refine Aa (CS Kq Φ) ?_;rfl
     |[x],_=>
      obtain⟨xk,xt,xe,xs⟩:=x;have er:Ao eF [Fm.mk xk xt xe xs]=eF (.mk xk xt xe xs):=by simp[Ao]
      rw[eF,AY]at er;rw[er,Awp];refine Ay ?_;refine AG ?_ rfl;unfold LN;rw[eF,AY];rfl
     |x::y::r,hol=>
      rw[γ,γ]at hol;refine Ay ?_ (by rw[γ,γ];omega);refine Ay ?_ (by rw[γ,γ];omega);rw[show Awf (0+(x::y::r).length*6) (Ao eF (x::y::r)).length=Δ from AK BF _ (by omega)];refine Ah ?_;rw[Bi BF _ rfl];unfold LN kF;rw[eF,AY];rfl
   .refine Ay ?_ (by decide)
    refine AG ?_ rfl;refine Aa g ?_
    cases a with
    |some y=>
     obtain⟨yk,yt,ye,ys⟩:=y
     show _=Θ (δ (eF (Fm.mk yk yt ye ys)),[])
     rw[eF];rfl
    |none=>
     have hol:=CW o;simp only[Cf]at hlen
     show _=Θ (δ (eF (LN 5 o)),[])
     simp only[XA,eF0,G3,Aj]
     match o,hol with
     |[],_=>
      refine AG ?_ rfl;unfold LN
      by_cases h:(5:Int)=4
      .rw[BT h]
       refine AG ?_ h;refine Aa (CS Kq Δ) ?_;rfl
      .rw[BX h]
       refine Ay ?_ h;refine Aa (CS Kq Φ) ?_;rfl
     |[x],_=>
      obtain⟨xk,xt,xe,xs⟩:=x;have er:Ao eF [Fm.mk xk xt xe xs]=eF (.mk xk xt xe xs):=by simp[Ao]
      rw[eF,AY]at er;rw[er,Awp];refine Ay ?_;refine AG ?_ rfl;unfold LN;rw[eF,AY];rfl
     |x::y::r,hol=>
      rw[γ,γ]at hol;refine Ay ?_ (by rw[γ,γ];omega);refine Ay ?_ (by rw[γ,γ];omega);rw[show Awf (0+(x::y::r).length*6) (Ao eF (x::y::r)).length=Δ from AK BF _ (by omega)];refine Ah ?_;rw[Bi BF _ rfl];unfold LN kF;rw[eF,AY];rfl
  .rw[Ad h4,eF,AY]
   refine AC Kl Jt (AnA ..) ?_;refine Ay ?_ h2;refine Ay ?_ (λh=>h4 (.inl h));exact EI (λh=>h4 (.inr h))
include Kv
theorem AdK{n k:Nat}(hn:n<=250)(hk1:1<=k)(hk:k<=250){x:Fm}(hx:FC n k x)(hc:3*GF x<=1000000):D.ask (.fn 40) [.agg (eF x)] []=Θ (.agg (eF (CG x Φ)),[]):=by
 have g1:=WT Kl Kq Kt Kh F Kv hn hk _ x (AwC _) hx Φ;have g2:=Aag Kl Kq Kt Kh F Ks W Ku (n:=n) (k:=2*k+7*n+6) (by omega) (by omega) (by omega) _ (Eu x Φ) (AwC _) (Af5 _ x (AwC _) hx Φ) (by have:=AcW _ x (AwC _) Φ;omega);rw[SE]at g2;revert g1 g2;generalize CG x Φ=Y;generalize Eu x Φ=X;intro g1 g2;obtain⟨Yk,Yt,Ye,Ys⟩:=Y;obtain⟨Xk,Xt,Xe,Xs⟩:=X;obtain⟨xk,xt,xe,xs⟩:=x;refine AC Kl AqG (e40 ..) ?_;refine Aa g1 ?_;simp only[eF,eN,Aj]at g2 ⊢;refine Aa g2 ?_;rfl
end
noncomputable def Vh:List (Nat × MFn):=[(111,Ya)]
section
variable {D:Orc} (Kk:Knows Au Vh D)
include Kk
theorem Rd(x:Fm):D.ask (.fn 111) [.agg (eF x)] []=Θ (.ls ((CB x).map eF),[]):=by
 obtain⟨k,t,e,ks⟩:=x;refine AC Kk AcC (ApY ..) ?_;rw[AY,CB]
 by_cases h4:k=4
 .rw[Ac (.inl h4)]
  exact DP h4
 refine Ay ?_ h4
 by_cases h5:k=5
 .rw[Ac (.inr h5)]
  exact DP h5
 refine Ay ?_ h5;rw[Ad (by omega)]
 by_cases h3:k=3
 .rw[Ac h3]
  refine AG ?_ h3;rw[Al]
  cases ks with
  |nil=>rfl
  |cons y r=>
   refine AB ?_ (by rw[γ];omega);rw[show HY 0 1 (y::r).length=Δ by simp[HY],El (λx=>by obtain⟨k,t,e,ks⟩:=x;rfl),GZ,GG];rfl
 .rw[Ad h3]
  exact EI h3
variable (Kz:Knows Au Y0 D)
include Kz
omit Kk in
theorem Ad8(ks:List Fm)(lim:Int)(hlim:-1000000<=lim/\lim<=1000000)(hl:ks.length<4611686018427387904)(g:∀ x∈ks,∀ m:Int,-1000000<=m->m<=1000000->D.ask (.fn 99) [.agg (eF x),iv m] []=Θ (iv (FM x m),[])):∀(m i:Nat) (n:Int),ks.length-i=m->i<=ks.length->1<=n->n<=1000001->
  D.ask (.lp 99 0) [iv lim,iv n,.ls (ks.map eF),iv (i:Int)] []=Θ (.tup [iv 0,iv (Ej (ks.drop i) lim n)],[]):=by
 intro m
 induction m with
 |zero=>
  intro i n hm hi h1 h2;rw[Awb (by omega),Ej];refine AE Kz AcS (Ak9 ..) ?_;rw[Al];exact Da (by omega)
 |succ m ih=>
  intro i n hm hi h1 h2;have hlt:i<ks.length:=by omega
  rw[η hlt,Ej];refine AE Kz AcS (Ak9 ..) ?_;rw[Al];refine AB ?_
  by_cases hn:n<=lim
  .rw[Ac hn]
   refine Cs ?_ hn;rw[AI,Az (ξ hlt)];have gy:=g ks[i] (Aws hlt) (lim-n) (by omega) (by omega);have hb:=NL ks[i] (lim-n);revert gy hb;generalize ks[i]=y;obtain⟨yk,yt,ye,ys⟩:=y;intro gy hb;simp only[eF,eN,Aj]at gy ⊢;rw[DZ (by omega) (by omega)];refine Aa gy ?_;simp only[Aj];rw[GU (by omega) (by omega),BU (by omega)];refine Aa (ih (i+1) _ (by omega) (by omega) (by omega) (by omega)) ?_;rfl
  .rw[Ad hn]
   exact N7 hn
theorem Ad9:∀(N:Nat) (x:Fm),SizeOf.sizeOf x<N->WzF x->∀ lim:Int,-1000000<=lim->lim<=1000000->D.ask (.fn 99) [.agg (eF x),iv lim] []=Θ (iv (FM x lim),[]):=by
 intro N
 induction N with
 |zero=>intro x h;omega
 |succ N ih=>
  intro x hN hw lim hlim hlim2;have gk:=Rd Kk x;have hwk:(CB x).length<4611686018427387904/\∀ y∈CB x,SizeOf.sizeOf y<N/\WzF y:=by
   obtain⟨ht,hl,h⟩:=hw;rename_i k t e ks;refine⟨?_,λy hy=>?_⟩
   .rw[CB]
    split
    .exact hl
    .split
     .rw[Awo];omega
     .simp
   .have hm:=Ef hy
    exact⟨by have:=Ce (k:=k) (t:=t) (e:=e) hm;omega,h y hm⟩
  have gl:=Ad8 Kz (CB x) lim ⟨hlim,hlim2⟩ hwk.1 (λy hy m h1 h2=>ih y (hwk.2 y hy).1 (hwk.2 y hy).2 m h1 h2) _ 0 1 rfl (by omega) (by omega) (by omega);rw[ο,←Rj]at gl;obtain⟨k,t,e,ks⟩:=x;simp only[eF,eN]at gk ⊢;refine AC Kz AcS (e99 ..) ?_;refine Aa gk ?_;simp only[Aj];refine Aa gl ?_;rfl
variable (Kw:Knows Au Ve D)
include Kw
omit Kk Kw in
theorem Aki(ks:List Fm)(L:Int)(hl:ks.length<4611686018427387904)(g:∀ x∈ks,D.ask (.fn 100) [.agg (eF x),iv L] []=Θ (bv (Hg L x),[])):∀(m i:Nat),ks.length-i=m->i<=ks.length->
  D.ask (.lp 100 0) [iv L,.ls (ks.map eF),iv (i:Int)] []=Θ (if(ks.drop i).all (Hg L) then .tup [iv 0] else .tup [bv Δ,bv Φ],[]):=by
 intro m
 induction m with
 |zero=>
  intro i hm hi;rw[Awb (by omega),Azj,Ac rfl];refine AE Kz T9 (AbB ..) ?_;rw[Al];exact Da (by omega)
 |succ m ih=>
  intro i hm hi;have hlt:i<ks.length:=by omega
  rw[η hlt,Ax6];refine AE Kz T9 (AbB ..) ?_;rw[Al];refine AB ?_;rw[AI,Az (ξ hlt)];have gy:=g ks[i] (Aws hlt);revert gy;generalize ks[i]=y;obtain⟨yk,yt,ye,ys⟩:=y;intro gy;generalize hb:Hg L (.mk yk yt ye ys)=b at gy;simp only[eF,eN,Aj]at gy ⊢;refine Aa gy ?_;simp only[Aj]
  cases b with
  |false=>rfl
  |true=>
   refine Ah ?_;rw[BU (by omega),Axv];refine Aa (ih (i+1) (by omega) (by omega)) ?_
   cases (ks.drop (i+1)).all (Hg L)<;>rfl
theorem Akj(L:Int):∀(N:Nat) (x:Fm),SizeOf.sizeOf x<N->WzF x->D.ask (.fn 100) [.agg (eF x),iv L] []=Θ (bv (Hg L x),[]):=by
 intro N
 induction N with
 |zero=>intro x h;omega
 |succ N ih=>
  intro x hN hw;have gk:=Rd Kk x;have hwk:(CB x).length<4611686018427387904/\∀ y∈CB x,SizeOf.sizeOf y<N/\WzF y:=by
   obtain⟨ht,hl,h⟩:=hw;rename_i k t e ks;refine⟨?_,λy hy=>?_⟩
   .rw[CB]
    split
    .exact hl
    .split
     .rw[Awo];omega
     .simp
   .have hm:=Ef hy
    exact⟨by have:=Ce (k:=k) (t:=t) (e:=e) hm;omega,h y hm⟩
  have gl:=Aki Kz (CB x) L hwk.1 (λy hy=>ih y (hwk.2 y hy).1 (hwk.2 y hy).2) _ 0 rfl (by omega);rw[ο]at gl;obtain⟨k,t,e,ks⟩:=x;rw[QA];generalize (CB (.mk k t e ks)).all (Hg L)=b at gl;have gf:=AnE Kw [(t,e)] 1 L (by omega);rw[Awq,Axb,Ax6,Azj,AzM,show (decide ([(t,e)].length<=1))=Δ from rfl,Axv]at gf;obtain⟨ps,kz⟩:=t;simp only[E9,eF,eN]at gk gf gl ⊢;refine AC Kz T9 (AsT ..) ?_
  by_cases h2:k=2
  .rw[Ac h2]
   refine AG ?_ h2;refine Aa gf ?_;simp only[Aj]
   cases P8 L (⟨ps,kz⟩,e) with
   |false=>rfl
   |true=>
    refine Ah ?_;refine Aa gk ?_;simp only[Aj];refine Aa gl ?_
    cases b<;>rfl
  .rw[Ad h2]
   refine Ay ?_ h2;refine Aa gk ?_;simp only[Aj];refine Aa gl ?_
   cases b<;>rfl
theorem YJ(x:Fm)(hw:WzF x)(most L:Int)(h1:-1000000<=most)(h2:most<=1000000):D.ask (.fn 35) [.agg (eF x),iv most,iv L] []=Θ (bv (decide (FM x most<=most)&&Hg L x),[]):=by
 have gs:=Ad9 Kk Kz _ x (AwC _) hw most h1 h2;have gf:=Akj Kk Kz Kw L _ x (AwC _) hw;obtain⟨k,t,e,ks⟩:=x;generalize hs:FM (.mk k t e ks) most=s at gs;generalize hb:Hg L (.mk k t e ks)=b at gf;simp only[eF,eN]at gs gf ⊢;refine AC Kz AqE (e35 ..) ?_;refine Aa gs ?_;simp only[Aj]
 by_cases h:s<=most
 .rw[BT h,Axv]
  refine AA ?_;refine Aa gf ?_
  cases b<;>rfl
 .rw[BX h]
  exact N8 (by omega)
end
theorem Ase{D:Orc}(K:Knows Au JA D):Knows Au Vh D:=
 have h:∀ f mf,Cv f Vh=Θ mf->Cv f JA=Θ mf:=λf mf h=>by
  have hm:=Fl h;unfold Vh at hm;rw[AwX]at hm
  cases hm
  show Cv 111 JA=Θ Ya
  kernel_rfl
 ⟨λHn s f mf args bs r h1 h2=>K.fn Hn s f mf args bs r (h f mf h1) h2,λHn s f i mf q c args bs r h1 h2 h3=>K.lp Hn s f i mf q c args bs r (h f mf h1) h2 h3⟩
theorem TD{n k:Nat}:∀(N:Nat) (x:Fm),SizeOf.sizeOf x<N->FC n k x->FB n (k+n) (BI x):=by
 intro N
 induction N with
 |zero=>intro x h;omega
 |succ N ih=>
  intro x hN hx;obtain⟨ht,hkl,h⟩:=hx;rename_i kd t e ks;have hh:∀ y∈CB (.mk kd t e ks),FB n (k+n) (BI y):=λy hy=>ih y (by have:=Ce (k:=kd) (t:=t) (e:=e) (Ef hy);omega) (h y hy)
  rw[Dg]at hh hkl;rw[BI]
  by_cases h0:kd=0
  .rw[Ac h0]
   exact Gx _ _ _
  rw[Ad h0]
  by_cases h2:kd=2
  .rw[Ac h2]
   exact .mk (ht h2).lb.pln.tb (Awz _) λy hy=>(by cases hy)
  rw[Ad h2]
  by_cases h3:kd=3
  .rw[Ac h3,Il]
   rw[Ad (by omega),Ac h3]at hh hkl;refine .mk (Gf _ _) (by rw[Awm];exact hkl) λy hy=>?_
   obtain⟨z,hz,rfl⟩:=AwV.1 hy;exact hh z hz
  rw[Ad h3]
  by_cases h4:kd=4\/kd=5
  .rw[Ac h4,EW]
   rw[Ac h4]at hh hkl;refine .mk (Gf _ _) (by rw[Awm];exact hkl) λy hy=>?_
   obtain⟨z,hz,rfl⟩:=AwV.1 hy;exact hh z hz
  .rw[Ad h4]
   exact Gx _ _ _
theorem PJ(b:Bool):CnF (Hz b):=.mk (λ_=>⟨rfl,rfl⟩) λy hy=>(by cases hy)
theorem CnF.kid{x:Fm}(h:CnF x):∀ y∈x.kids,CnF y:=by
 obtain⟨_,h⟩:=h;exact h
theorem XZ{k:Int}(hk:k≠2):∀(fs out:List Fm),(∀ x∈out,CnF x)->(∀ x∈fs,CnF x)->CnF (DW k out fs):=by
 intro fs
 induction fs with
 |nil=>
  intro out h1 _;unfold DW
  match out,h1 with
  |[],_=>exact PJ _
  |[x],h1=>exact h1 x (Awi ..)
  |x::y::r,h1=>exact .mk (λ_=>⟨rfl,rfl⟩) h1
 |cons g r ih=>
  intro out h1 h2;unfold DW;have hg:=h2 g (Awi ..);have hr:∀ x∈r,CnF x:=λx hx=>h2 x (Awk _ hx)
  by_cases c1:(k=4/\g.kind=1)\/(k=5/\g.kind=0)
  .rw[Ac c1]
   exact hg
  rw[Ad c1]
  by_cases c2:g.kind=0\/g.kind=1
  .rw[Ac c2]
   exact ih out h1 hr
  rw[Ad c2]
  by_cases c3:g.kind=k
  .rw[Ac c3]
   refine ih _ (λx hx=>?_) hr;rcases AwN.1 hx with h|h
   .exact h1 x h
   .exact hg.kid x h
  .rw[Ad c3]
   refine ih _ (λx hx=>?_) hr;rcases AwN.1 hx with h|h
   .exact h1 x h
   .rw[AwX.1 h]
    exact hg
theorem Vr(t:Tm)(e:Bool):CnF (Cm t e):=by
 unfold Cm;split
 .exact .mk (λh=>absurd rfl h) λy hy=>(by cases hy)
 .exact PJ _
theorem XV:∀(N:Nat) (x:Fm),SizeOf.sizeOf x<N->∀ d,CnF (CG x d):=by
 intro N
 induction N with
 |zero=>intro x h;omega
 |succ N ih=>
  intro x hN d;obtain⟨k,t,e,ks⟩:=x;have hk:∀ y∈ks,∀ d,CnF (CG y d):=λy hy d=>ih y (by have:=Ce (k:=k) (t:=t) (e:=e) hy;omega) d
  rw[CG]
  by_cases h0:k=0
  .rw[Ac h0]
   exact PJ _
  rw[Ad h0]
  by_cases h2:k=2
  .rw[Ac h2]
   cases d with
   |false=>
    rw[Ad (by decide)];exact Vr _ _
   |true=>
    rw[Ac rfl];refine XZ (by decide) _ [] (by simp) λy hy=>?_
    obtain⟨r,_,rfl⟩:=AwV.1 hy;exact Vr _ _
  rw[Ad h2]
  by_cases h3:k=3
  .rw[Ac h3]
   cases ks with
   |nil=>exact PJ _
   |cons y r=>exact hk y (Awi ..) (!d)
  rw[Ad h3]
  by_cases h4:k=4\/k=5
  .rw[Ac h4]
   refine XZ (by split<;>omega) _ [] (by simp) λy hy=>?_
   rw[GJ]at hy;obtain⟨z,hz,rfl⟩:=AwV.1 hy;exact hk z hz d
  .rw[Ad h4]
   exact PJ _
section
variable {D:Orc} (Kl:Knows Au YY D) (Ko:Knows Au Rm D) (Z:ZF D) (W:ZdF D) (T:TiF D 20) (Ktt:Knows Au Vm D) (Kt:Knows Au Ge D) (Kf:Knows Au Ls D) (Ks:SrtF D 20) (C:PartF D) (Kd:Knows Au Vg D) (Klo:Knows Au Vf D)
 (Kr:Knows Au YZ D) (Kq:Knows Au JA D) (Krt:Knows Au HQ D) (Kh:Knows Au IP D) (F:RF D) (Krs:Knows Au Rq D) (Wr:RdF D) (Ku:Knows Au Vj D) (Kv:Knows Au Vk D) (Kk:Knows Au Vh D) (Kz:Knows Au Y0 D) (Kw:Knows Au Ve D) (Kl2:Knows Au Xl D)
include Kl Ko Z W T Ktt Kt Kf Ks C Kd Klo Kr Kq Krt Kh F Krs Wr Ku Kv Kk Kz Kw Kl2
theorem WA(S:D.ask (.fn 34) [] []=Θ (bv Δ,[]))(x y:Fm)(hx:WzF x)(hy:WzF y):D.ask (.fn 9) [.agg (eF x),.agg (eF y)] []=Θ (bv Δ,[]):=by
 have gx:=YJ Kk Kz Kw x hx 60 (8:Nat) (by omega) (by omega);have gy:=YJ Kk Kz Kw y hy 60 (8:Nat) (by omega) (by omega);have body:(decide (FM x 60<=60)&&Hg ((8:Nat):Int) x)=Δ->(decide (FM y 60<=60)&&Hg ((8:Nat):Int) y)=Δ->∃(X A B:Fm) (b:Bool),D.ask (.fn 39) [.agg (eF x)] []=Θ (.agg (eF X),[])/\D.ask (.fn 40) [.agg (eF x)] []=Θ (.agg (eF X),[])/\D.ask (.fn 38) [.agg (eF X),.agg (eF X)] []=Θ (bv Δ,[]) ∧
   D.ask (.fn 41) [.agg (eF x),.agg (eF y)] []=Θ (bv b,[])/\D.ask (.fn 42) [.agg (eF x)] []=Θ (.agg (eF A),[])/\D.ask (.fn 42) [.agg (eF y)] []=Θ (.agg (eF B),[])/\D.ask (.fn 38) [.agg (eF A),.agg (eF B)] []=Θ (bv b,[]):=λh1 h2=>by
  rw[Awh,decide_eq_true_eq]at h1 h2;have fx:=Alc 8 _ x 60 (AwC _) (by omega) h1.1 h1.2 hx;have fy:=Alc 8 _ y 60 (AwC _) (by omega) h2.1 h2.2 hy;have cx:=R1 x 60 h1.1;have g1:=Ac2 Kl Ko Z W T Ktt Kt Kf Ks C Kd (n:=20) (k:=8) (by omega) (by omega) (by omega) (by omega) fx (by omega);have g2:=AdK Kr Kq Krt Kh F Krs Wr Ku Kv (by omega) (by omega) (by omega) fx (by omega);obtain⟨b1,g3,hb1⟩:=Rc Krt Kq F (n:=20) (k:=2*8+10*20+10) (by omega) (by omega) _ (CG x Φ) (CG x Φ) (AwC _) (AfV (by omega) _ x (AwC _) fx (by omega) Φ) (XV _ x (AwC _) Φ) (XV _ x (AwC _) Φ);obtain rfl:b1=Δ:=hb1.2 rfl;have g4:=LH Kt Ks Z C Ko (by omega) (by omega) _ x (AwC _) fx;have g5:=LH Kt Ks Z C Ko (by omega) (by omega) _ y (AwC _) fy;have bx:=TD _ x (AwC _) fx;have by':=TD _ y (AwC _) fy;have g6:=ZC Kt Ks Z C Ko Klo (by omega) (by omega) _ (BI x) (BI y) (AwC _) bx by' (Ed x) (Ed y) x y g4 g5;have g7:=Rb Krt Kh Kq F (by omega) (by omega) _ x (AwC _) fx;have g8:=Rb Krt Kh Kq F (by omega) (by omega) _ y (AwC _) fy;obtain⟨b2,g9,hb2⟩:=Rc Krt Kq F (by omega) (by omega) _ (BI x) (BI y) (AwC _) bx (Ed x).cn (Ed y).cn;have hb:eqF (BI x) (BI y)=b2:=by
   rw[Bool.eq_iff_iff,AfL (Ed x) (Ed y),hb2]
  rw[hb]at g6;exact⟨_,_,_,_,g1,g2,g3,g6,g7,g8,g9⟩
 obtain⟨xk,xt,xe,xs⟩:=x;obtain⟨yk,yt,ye,ys⟩:=y;refine AC Kl2 hn9 (e9 ..) ?_;refine Aa S ?_;simp only[Aj];refine Aa gx ?_;simp only[Aj]
 cases h1:(decide (FM (.mk xk xt xe xs) 60<=60)&&Hg ((8:Nat):Int) (.mk xk xt xe xs)) with
 |false=>rfl
 |true=>
  refine Ah ?_;refine Aa gy ?_;simp only[Aj]
  cases h2:(decide (FM (.mk yk yt ye ys) 60<=60)&&Hg ((8:Nat):Int) (.mk yk yt ye ys)) with
  |false=>rfl
  |true=>
   obtain⟨⟨Xk,Xt,Xe,Xs⟩,⟨Ak,At,Ae,As⟩,⟨Bk,Bt,Be,Bs⟩,b,g1,g2,g3,g4,g5,g6,g7⟩:=body h1 h2;simp only[eF,eN]at g1 g2 g3 g4 g5 g6 g7 ⊢;refine Ah ?_;refine Aa g1 ?_;simp only[Aj];refine Aa g2 ?_;simp only[Aj];refine Aa g3 ?_;simp only[Aj];refine Aa g4 ?_;simp only[Aj]
   cases b with
   |true=>
    refine Ah ?_;refine Aa g5 ?_;simp only[Aj];refine Aa g6 ?_;simp only[Aj];refine Aa g7 ?_;rfl
   |false=>
    refine BR ?_;refine Aa g5 ?_;simp only[Aj];refine Aa g6 ?_;simp only[Aj];refine Aa g7 ?_;rfl
