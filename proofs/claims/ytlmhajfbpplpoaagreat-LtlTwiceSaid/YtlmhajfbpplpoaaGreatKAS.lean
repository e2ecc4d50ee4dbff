/- What expr.Term and expr. -/
import Derived.Test.YtlmhajfbpplpoaaGreatKAR
set_option linter.all false
open Bool renaming false->Θ,true->U,and_eq_true->η,and_true->Ayl,false_eq_true->Awx,false_ne_true->Ayr,false_or->Ayd,true_and->AwD,true_or->AzP
open List renaming all_cons->Axn,append_assoc->Awr,append_nil->AwV,cons_append->AwI,drop->Awv,drop_eq_getElem_cons->χ,drop_eq_nil_of_le->υ,drop_zero->κ,findIdx?_eq_some_iff_getElem->AwZ,getD_eq_getElem?_getD->AwK,getElem?_eq_getElem->Ψ,getElem?_eq_none->Axj,getElem_mem->Awy,length_append->ζ,length_cons->π,length_map->Aw0,length_nil->Aw4,length_singleton->Aw5,mem_cons->Awt,mem_cons_of_mem->AwU,mem_singleton->AwY,nil_append->AwC,replicate->Ayx,singleton_append->Axh,tail_drop->Ayh,take->Aws,take_of_length_le->Axy,take_succ_eq_append_getElem->Axt
open Nat renaming ble->Aww,le_refl->ω,lt_succ_self->Awz,mod_lt->Ax1,pow_le_pow_right->AxL,zero_add->AwJ
open Option renaming none->Δ,some->V,getD_some->AyE,isSome->Azl,map_some->AwE
namespace Go.Proofs.YtlmhajfbpplpoaaGreat
open ABlk renaming mk->θ
open Go.RowKit
theorem Ahv(s:ByteArray):(Hx s).1=Bo (zv (Hx s).1):=by
 unfold Hx;split
 .simp only[CV]
 .show (⟨Θ,[]⟩:Zi)=Bo (zv ⟨Θ,[]⟩)
  rw[show zv (⟨Θ,[]⟩:Zi)=0 from rfl,Vv]
theorem Xk(m:Mo):InB 4000 (Xj m):=by
 unfold Xj;split
 .exact InB.one (by omega)
 .exact(Abo _).inb
theorem Rq(m:Mo):InB 4000 (Kg m):=by
 unfold Kg;split
 .exact(Xk m).neg
 .exact Xk m
structure OutB (i:Nat) (out:Lf):Prop where
 len:out.ps.length<=i
 ps:∀ p∈out.ps,InB 4000 p.2
 k:InB (4000+i) out.k
theorem Ahr:OutB 0 PX:=⟨by simp[PX],by simp[PX],InB.zero _⟩
theorem OutB.addK{i:Nat}{out:Lf}(h:OutB i out)(m:Mo):OutB (i+1) ⟨out.ps,out.k+Kg m⟩:=⟨by have:=h.len;simp only;omega,h.ps,by
 show InB (4000+i+1) _
 exact InB.add h.k ((Rq m).mono (by omega))⟩
theorem OutB.addP{i:Nat}{out:Lf}(h:OutB i out)(m:Mo)(v:Int):OutB (i+1) ⟨out.ps++[(v,Kg m)],out.k⟩:=⟨by have:=h.len;simp;omega,λp hp=>by
 rcases List.mem_append.1 hp with hp|hp
 .exact h.ps p hp
 .rw[AwY.1 hp];exact Rq m,h.k.mono (by omega)⟩
theorem Jf(vars:List ByteArray):∀(ms:List Mo) (i:Nat) (out l:Lf),OutB i out->GN vars ms out=V l->OutB (i+ms.length) l
 |[],i,out,l,h,e=>by
  rw[GN]at e
  cases e
  exact h
 |m::r,i,out,l,h,e=>by
  rw[GN]at e;rw[π,show i+(r.length+1)=i+1+r.length by omega];split at e
  .exact Jf vars r (i+1) _ l (h.addK m) e
  .split at e
   .cases e
   .exact Jf vars r (i+1) _ l (h.addP m _) e
theorem Nx(vars:List ByteArray)(ms:List Mo):LB 64 5000 (FT vars ms).1:=by
 have h0:LB 64 5000 PX:=⟨by simp[PX],by simp[PX],InB.zero _⟩;unfold FT;split
 .rename_i h
  split
  .rename_i l e
   have hl:=(D9 h).2.1;have g:=Jf vars ms 0 PX l Ahr e;have g2:LB 64 4064 l:=⟨by have:=g.len;omega,λp hp=>(g.ps p hp).mono (by omega),g.k.mono (by omega)⟩;exact g2.pln.mono (by omega) (by omega)
  .exact h0
 .exact h0
def AqN(r0:Rw)(r1:Bool)(r2:Rw):Option Lf->AV × List BO
 |none=>(.tup [bv U,.ptr 0 0,bv Θ],[.set ⟨[.ls [],bv Θ,.ls []],U,Θ⟩,.del,.del])
 |some l=>(.tup [iv 0,.ptr 0 0,.ptr 1 0],[.set ⟨[.ls r0,bv r1,.ls r2],U,Θ⟩,.set ⟨[.sl 3 0 (l.ps.map B4).length 3,bv (Bo l.k).neg,eN (Bo l.k).abs],U,Θ⟩,.del,.set (HS (l.ps.map B4))])
section
variable {D:Orc} (Kt:Knows Ah LD D) (Kf:Knows Ah RC D) (Ks:SrtF D 1000000) (Z:ZF D) (C:PartF D) (Ko:Knows Ah TD D) (Kfe:Knows Ah AbL D) (Ka:Knows Ah TC D) (Kta:Knows Ah FS D) (N:LexN D)
include Kfe Z Ka
theorem Ald(vars:List ByteArray)(hvl:vars.length<4611686018427387904)(ms:List Mo)(hl:ms.length<=64)(r0:Rw)(r1:Bool)(r2:Rw):∀(k i:Nat) (out:Lf),ms.length-i=k->i<=ms.length->OutB i out->
  D.ask (.lp 44 0) [.ls (vars.map eS),.ptr 0 0,.ptr 1 0,.ls (ms.map FZ),iv (ms.length:Int),iv (i:Int)] [⟨[.ls r0,bv r1,.ls r2],U,Θ⟩,⟨[.sl 2 0 (out.ps.map B4).length 3,bv (Bo out.k).neg,eN (Bo out.k).abs],U,Θ⟩,HS (out.ps.map B4)]=V (AqN r0 r1 r2 (GN vars (ms.drop i) out)):=by
 intro k
 induction k with
 |zero=>
  intro i out hm hi ho;rw[υ (by omega),GN];refine Ax Kfe Af8 (AlM ..) ?_;exact Ap rfl
 |succ k ih=>
  intro i out hm hi ho;have h1:i<ms.length:=by omega
  have hol:(out.ps.map B4).length<=i:=by have:=ho.len;simpa using this
  obtain⟨T,hT⟩:∃ T,T=GN vars (ms.drop i) out:=⟨_,rfl⟩;rw[←hT];have hsg:=Rq ms[i];have hoK:=ho.addK ms[i];have hoP:=λv=>ho.addP ms[i] v
  rw[χ h1,GN]at hT;refine Ax Kfe Af8 (AlM ..) ?_;refine Au ?_;rw[AD,AA (Ψ h1)];revert hT hsg hoK hoP;generalize ms[i]=m;obtain⟨mn,mu,mv⟩:=m;intro hT hsg hoK hoP;simp only[FZ,Ae];simp only at hT;refine Aa (Z.of_ 1 (by omega) (by omega)) ?_;simp only[eZ,eN,Ae]
  by_cases hn:mu=Ai []
  case' pos=>
   refine Fv hn ?_;have en:∀ b,Xj ⟨b,mu,mv⟩=1:=λb=>by unfold Xj;rw[Ac hn]
   rcases mn.eq_false_or_eq_true with rfl|rfl
   case' inl=>
    have es:Kg ⟨U,mu,mv⟩=-1:=by unfold Kg;rw[en];rfl
    have gn:=Z.neg (Bo 1) ((InB.lz (k:=1) (by unfold InB;decide)).mono (by omega));rw[CV,←es]at gn;refine Af ?_;refine Aa gn ?_;simp only[eZ,eN,Ae]
   case' inr=>
    have es:Kg ⟨Θ,mu,mv⟩=1:=by unfold Kg;rw[en];rfl
    refine BF ?_;rw[show Bo 1=Bo (Kg ⟨Θ,mu,mv⟩) by rw[es]]
  case' neg=>
   refine(IK hn).trans ?_;have en:∀ b,Xj ⟨b,mu,mv⟩=zv (Hx mu).1:=λb=>by unfold Xj;rw[Ab hn]
   have gp:=Z.parse mu;have hz:=Abo mu;rw[Ahv mu]at gp hz;refine Aa gp ?_;simp only[eZ,eN,Ae];rcases mn.eq_false_or_eq_true with rfl|rfl
   case' inl=>
    have es:Kg ⟨U,mu,mv⟩=-zv (Hx mu).1:=by unfold Kg;rw[en];rfl
    have gn:=Z.neg (Bo (zv (Hx mu).1)) (hz.mono (by omega));rw[CV,←es]at gn;refine Af ?_;refine Aa gn ?_;simp only[eZ,eN,Ae]
   case' inr=>
    have es:Kg ⟨Θ,mu,mv⟩=zv (Hx mu).1:=by unfold Kg;rw[en];rfl
    refine BF ?_;rw[show Bo (zv (Hx mu).1)=Bo (Kg ⟨Θ,mu,mv⟩) by rw[es]]
  all_goals
   clear hn;generalize Kg ⟨_,mu,mv⟩=w at hT hsg hoK hoP ⊢
   by_cases hv:mv=Ai []
   .rw[Ac hv]at hT
    have ga:=Z.add (Bo out.k) (Bo w) (ho.k.lz.mono (by omega)) (hsg.lz.mono (by omega));rw[CV,CV]at ga;refine Fv hv ?_;refine Aa ga ?_;simp only[eZ,eN,Ae];rw[Bv (by omega)];refine Aa (ih (i+1) _ (by omega) (by omega) hoK) ?_;rw[←hT];clear hT
    cases T<;>rfl
   .rw[Ab hv]at hT
    refine(IK hv).trans ?_;refine Aa (SO Ka vars hvl mv) ?_;simp only[Ae]
    cases ev:vars.findIdx? (mv = ·) with
    |none=>
     rw[ev]at hT;have hT:T=Δ:=hT;rw[hT];refine Au ?_ (show (-1:Int)<0 by omega);rfl
    |some v=>
     rw[ev]at hT;have hT:T=GN vars (ms.drop (i+1)) ⟨out.ps++[((v:Int),w)],out.k⟩:=hT;have hlt:=(AwZ.1 ev).1;refine Ap ?_ (show ¬ ((v:Nat):Int)<0 by omega);have hf:Bh ((out.ps.map B4).length+1) 40=U:=AL (by omega) (by omega);have hb1:Aww (0+(out.ps.map B4).length*3) (Av eP (out.ps.map B4)).length=U:=AJ AF _ (by omega);have e3:Awv 0 (Aws (0+(out.ps.map B4).length*3) (Av eP (out.ps.map B4)))++[iv (v:Int),bv (Bo w).neg,eN (Bo w).abs]=Av eP ((out.ps++[((v:Int),(w:Int))]).map B4):=by
      rw[κ,A9 AF _ (by omega),List.map_append];exact A8 eP (out.ps.map B4) (B4 ((v:Int),w))
     simp only[eN]at e3;rw[hf];refine Af ?_;rw[hb1];refine Af ?_;simp only[Dj];rw[e3,Bv (by omega)];have ih2:=ih (i+1) _ (by omega) (by omega) (hoP (v:Int));rw[show ((out.ps++[((v:Int),(w:Int))]).map B4).length=(out.ps.map B4).length+1 by simp]at ih2;refine Aa ih2 ?_;rw[←hT];clear hT
     cases T<;>rfl
include Kt Ks C Kta N in
theorem AbQ(vars:List ByteArray)(hvl:vars.length<4611686018427387904)(ms:List Mo)(hm:∀ m∈ms,WzM m)(hl:ms.length<4611686018427387904) :
  D.ask (.fn 44) [.ls (ms.map FZ),.ls (vars.map eS)] []=V (.tup [.agg (eT (FT vars ms).1.tm),bv (FT vars ms).2],[]):=by
 have gr:=Hh Kta N ms hm hl;have e0:eT PX.tm=[.ls [],bv Θ,.ls []]:=by rw[Zq];rfl
 refine Ao Kfe Af8 (e44 ..) ?_;refine Aa gr ?_;simp only[Ae];unfold FT
 cases hr:IG ms with
 |false=>
  refine BF ?_;rw[Ab (by simp),e0]
 |true=>
  have hlen:=(D9 hr).2.1;have gl:=Ald Z Kfe Ka vars hvl ms hlen [] Θ [] _ 0 PX rfl (by omega) Ahr;rw[κ,show Bo PX.k=⟨Θ,[]⟩ from Vv]at gl;refine Af ?_;rw[Ac rfl,Al];refine Aa gl ?_
  cases e:GN vars ms PX with
  |none=>
   simp only;rw[e0];rfl
  |some l=>
   have ob:=Jf vars ms 0 PX l Ahr e;have hT:TmB 64 4064 l.tm:=LB.tb ⟨by have:=ob.len;omega,λp hp=>(ob.ps p hp).mono (by omega),ob.k.mono (by omega)⟩;have gp:=FK Kt Ks Z C hT (by omega) (by omega);rw[E6]at gp;simp only[AqN,Ae]
   change br _ _ _=_
   rw[show Aww (0+(l.ps.map B4).length*3) (Av eP (l.ps.map B4)).length=U from AJ AF _ (by omega)];refine Af ?_;rw[BQ AF _ rfl];refine Aa gp ?_;rfl
end
theorem RH:TmB 128 30000 Tm0:=by
 rw[←Zq];exact LB.tb ⟨by simp[PX],by simp[PX],InB.zero _⟩
theorem SB(vars:List ByteArray):∀(n:Nat) (t:Tr) (d:Nat),SizeOf.sizeOf t<n->BI t d=U->CanF (Dz vars t).1/\FB 128 30000 (Dz vars t).1:=by
 intro n
 induction n with
 |zero=>intro t d h;omega
 |succ n ih=>
  intro t d hn h;have z0:CanF (kF 0 [])/\FB 128 30000 (kF 0 []):=⟨.tru U,.mk RH (by simp) (by simp)⟩;have z1:CanF (Ps Θ)/\FB 128 30000 (Ps Θ):=⟨.tru Θ,.mk RH (by simp) (by simp)⟩
  cases Rt h with
  |tt=>rw[Dz,Ab (by decide),CX];exact z0
  |ff=>rw[Dz,Ab (by decide),CX];exact z1
  |@cmp _ l r op hl hr h1 h2=>
   rw[Dz,Ac rfl];exact⟨AeP _ _ _,Ajn (Nx vars l) (Nx vars r) op⟩
  |@no _ x hd hx=>
   have g:=ih x _ (by simp only[Tr.mk.sizeOf_spec,List.cons.sizeOf_spec]at hn;omega) hx;rw[Dz,Ab (by decide),CX,CX];split
   .exact z0
   .rename_i fs e
    split at e
    .cases e
     rw[Ab (by decide),Ac (.inl rfl)];exact⟨.no _ g.1,.mk RH (by simp) λy hy=>by rw[AwY.1 hy];exact g.2⟩
    .cases e
  |@bin _ k x y hk hd hx gd hy=>
   have g:=ih x _ (by simp only[Tr.mk.sizeOf_spec,List.cons.sizeOf_spec]at hn;omega) hx;have g2:=ih y _ (by simp only[Tr.mk.sizeOf_spec,List.cons.sizeOf_spec]at hn;omega) hy;rw[Dz,Ab (by omega),CX,CX,CX];split
   .exact z0
   .rename_i fs e
    split at e
    .split at e
     .cases e
     .rename_i gs e2
      split at e2
      .cases e2
       cases e
       rw[Ab (by omega),Ac (by omega)];have fb:∀ z∈[(Dz vars x).1,(Dz vars y).1],FB 128 30000 z:=λz hz=>by
        rcases Awt.1 hz with rfl|hz
        .exact g.2
        .rw[AwY.1 hz];exact g2.2
       rcases hk with rfl|rfl
       .exact⟨.and _ (.cons g.1 (.cons g2.1 .nil)),.mk RH (by simp) fb⟩
       .exact⟨.or _ (.cons g.1 (.cons g2.1 .nil)),.mk RH (by simp) fb⟩
      .cases e2
    .cases e
def Sg(t:Tr)(y0:Int)(y1:Rw)(y2:Bool)(y3:Rw)(y4:Bool)(y5:Rw)(out:List Fm):Option (List Fm)->AV × List BO
 |none=>(.tup [bv U,.ptr 1 0,bv Θ],[.del,.set ⟨eF (kF 0 []),U,Θ⟩,.del])
 |some fs=>(.tup [iv 0,.ptr 0 0,.ptr 1 0,.sl 3 0 (out++fs).length 6],[.set (Lb t),.set ⟨[iv y0,.ls y1,bv y2,.ls y3,bv y4,.ls y5],U,Θ⟩,.del,.set (θ (Av eF (out++fs)) U U)])
section
variable {D:Orc} (Kt:Knows Ah LD D) (Kf:Knows Ah RC D) (Ks:SrtF D 1000000) (Z:ZF D) (C:PartF D) (Ko:Knows Ah TD D) (Kfe:Knows Ah AbL D) (Ka:Knows Ah TC D) (Kta:Knows Ah FS D) (N:LexN D)
include Kfe
theorem AjK(vars:List ByteArray)(t:Tr)(ks:List Tr)(hl:ks.length<=2)(g:∀ x∈ks,D.ask (.fn 65) [.agg (BR x),.ls (vars.map eS)] []=V (.tup [.agg (eF (Dz vars x).1),bv (Dz vars x).2],[]))(y0:Int)(y1:Rw)(y2:Bool)(y3:Rw)(y4:Bool)(y5:Rw):∀(k i:Nat) (out:List Fm),ks.length-i=k->i<=ks.length->out.length<=i->
  D.ask (.lp 65 0) [.ls (vars.map eS),.ptr 0 0,.ptr 1 0,.sl 2 0 out.length 6,.ls (ks.map BR),iv (ks.length:Int),iv (i:Int)] [Lb t,⟨[iv y0,.ls y1,bv y2,.ls y3,bv y4,.ls y5],U,Θ⟩,θ (Av eF out) U U]=V (Sg t y0 y1 y2 y3 y4 y5 out (CX vars (ks.drop i))):=by
 intro k
 induction k with
 |zero=>
  intro i out hm hi ho;rw[υ (by omega),CX];obtain⟨a1,a2,a3,a4,a5,a6,a7⟩:=t;refine Ax Kfe AcG (AlP ..) ?_;refine Ap ?_;simp only[Sg,AwV];rfl
 |succ k ih=>
  intro i out hm hi ho;have h1:i<ks.length:=by omega
  have gx:=g ks[i] (Awy h1);have ih:=λy=>ih (i+1) (out++[y]) (by omega) (by omega) (by simp;omega)
  have e3:∀ y,Awv 0 (Aws (0+out.length*6) (Av eF out))++eF y=Av eF (out++[y]):=λy=>by
   rw[κ,A9 Dt out (by omega)];exact A8 eF out _
  obtain⟨T,hT⟩:∃ T,T=CX vars (ks.drop i):=⟨_,rfl⟩;rw[←hT];rw[χ h1,CX]at hT;obtain⟨a1,a2,a3,a4,a5,a6,a7⟩:=t;refine Ax Kfe AcG (AlP ..) ?_;refine Au ?_;rw[AD,AA (Ψ h1)];revert gx hT;generalize ks[i]=x;intro gx hT;generalize Dz vars x=q at gx hT;obtain⟨y,b⟩:=q;have ih:=ih y;have e3:=e3 y;obtain⟨xk,xl,xr,xo,xp,xq,xs⟩:=x;obtain⟨yk,yt,ye,ys⟩:=y;simp only[BR,eF,eN,Ae]at gx e3 ⊢;refine Aa gx ?_;simp only[Ae]
  cases b with
  |false=>
   have hT:T=Δ:=hT;rw[hT];refine Af ?_;simp only[Sg,kF,eF];rfl
  |true=>
   have hT:T=(match CX vars (ks.drop (i+1)) with
    |none=>Δ
    |some fs=>V (Fm.mk yk yt ye ys::fs)):=hT
   refine BF ?_;rw[show Bh (out.length+1) 96=U from AL (by omega) (by omega)];refine Af ?_;rw[show Aww (0+out.length*6) (Av eF out).length=U from AJ Dt out (by omega)];refine Af ?_;rw[e3,Bv (by omega)];rw[show (out++[Fm.mk yk yt ye ys]).length=out.length+1 by simp]at ih;unfold Lb at ih;rw[BR]at ih;refine Aa ih ?_
   cases e:CX vars (ks.drop (i+1)) with
   |none=>
    rw[e]at hT;rw[hT];rfl
   |some fs=>
    rw[e]at hT;rw[hT];simp only[Sg,Awr,Axh,Lb,BR];rfl
include Kt Kf Ks Z C Ko Ka Kta N in
theorem AjL(vars:List ByteArray)(hvl:vars.length<4611686018427387904):∀(n:Nat) (t:Tr) (d:Nat),SizeOf.sizeOf t<n->BI t d=U->D.ask (.fn 65) [.agg (BR t),.ls (vars.map eS)] []=V (.tup [.agg (eF (Dz vars t).1),bv (Dz vars t).2],[]):=by
 intro n
 induction n with
 |zero=>intro t d h;omega
 |succ n ih=>
  intro t d hn h
  have fin:∀(k:Int) (ks:List Tr),ks.length<=2->t=.mk k [] [] 0 (Ai []) (Ai []) ks->(∀ x∈ks,∃ d,SizeOf.sizeOf x<n/\BI x d=U)->(k=0/\ks=[]\/k=1/\ks=[]\/(k=3/\ks.length=1)\/k=4\/k=5)->D.ask (.fn 65) [.agg (BR t),.ls (vars.map eS)] []=V (.tup [.agg (eF (Dz vars t).1),bv (Dz vars t).2],[]):=by
   intro k ks hl ht hx hk;have gl:=AjK Kfe vars t ks hl (λx hm=>by
    obtain⟨d,h1,h2⟩:=hx x hm;exact ih x d h1 h2) 0 [] Θ [] Θ [] _ 0 [] rfl (by omega) (by simp)
   rw[κ]at gl;have hgood:∀ fs,CX vars ks=V fs->fs.map Bn=fs/\∀ y∈fs,FB 128 30000 y:=by
    clear gl ht hk hl;intro fs
    induction ks generalizing fs with
    |nil=>intro e;rw[CX]at e;cases e;exact⟨rfl,by simp⟩
    |cons x r ihr=>
     intro e;rw[CX]at e;split at e
     .split at e
      .cases e
      .rename_i gs e2
       cases e
       obtain⟨d,h1,h2⟩:=hx x (List.mem_cons_self ..);have g:=SB vars _ x d (Awz _) h2;obtain⟨g1,g2⟩:=ihr (λy hy=>hx y (AwU _ hy)) gs e2;refine⟨by rw[List.map_cons,g.1.clone,g1],λy hy=>?_⟩;rcases Awt.1 hy with rfl|hy
       .exact g.2
       .exact g2 y hy
     .cases e
   have hfl:∀ fs,CX vars ks=V fs->fs.length=ks.length:=by
    clear gl ht hk hl hgood;intro fs
    induction ks generalizing fs with
    |nil=>intro e;rw[CX]at e;cases e;rfl
    |cons x r ihr=>
     intro e;rw[CX]at e;split at e
     .split at e
      .cases e
      .rename_i gs e2
       cases e
       rw[π,π,ihr (λy hy=>hx y (AwU _ hy)) gs e2]
     .cases e
   subst ht;have hk2:k≠2:=by omega
   unfold Lb at gl;rw[BR,CP]at gl;refine Ao Kfe AcG (e65 ..) ?_;refine As ?_ hk2;rw[CP,Al];rw[Dz,Ab hk2];refine Aa gl ?_
   cases e:CX vars ks with
   |none=>
    simp only[Sg,kF,eF];rfl
   |some fs=>
    obtain⟨g1,g2⟩:=hgood fs e;have g3:=hfl fs e;have hch:By ([]++fs).length 6 (Aws (([]++fs).length*6) (Av eF ([]++fs)))=fs.map eF:=by
     rw[AwC];exact BQ Dt fs rfl
    have hble:Aww (0+([]++fs).length*6) (Av eF ([]++fs)).length=U:=by
     rw[AwC];exact AJ Dt fs (by omega)
    have hb:Lb (.mk k [] [] 0 (Ai []) (Ai []) ks)=θ [iv k,.ls ([]:Rw),.ls ([]:Rw),iv 0,sv (Ai []),sv (Ai []),.ls (ks.map BR)] U Θ:=by
     unfold Lb;rw[BR,CP];rfl
    simp only[Sg];rw[hb];simp only[Ae]
    by_cases h0:k=0
    .rw[Ac h0]
     refine Aw ?_ h0;refine Aa (IB Ko U) ?_;rfl
    rw[Ab h0];refine As ?_ h0
    by_cases h3:k=3
    .rw[Ac (.inl h3)]
     refine Aw ?_ h3;have hl1:fs.length=1:=by
      rw[g3];rcases hk with h|h|h|h|h
      .omega
      .omega
      .exact h.2
      .omega
      .omega
     match fs,hl1,g1,g2 with
     |[y],_,g1,g2=>
      have gd:=Aat Kt Ks Z C Ko (n:=128) (k:=30000) (by omega) (by omega) (g2 y (List.mem_singleton_self _));have g1:Bn y=y:=by simpa using g1
      rw[g1]at gd;refine Af ?_;refine(BC Dt [y] 0 (by simp) _).trans ?_;rw[h3]
      show _=V (AV.tup [AV.agg (eF (kF 3 [y])),bv U],[])
      have e0:([y]:List Fm)[0]=y:=rfl;rw[e0];obtain⟨yk,yt,ye,ys⟩:=y;simp only[eF,eN,Ae]at gd ⊢;refine Aa gd ?_;unfold kF;rw[eF,eFs,eFs,eF];rfl
    refine As ?_ h3
    by_cases h4:k=4
    .rw[Ac (.inr (.inl h4)),h4]
     have ga:=Ajb Kt Ks Z C Ko (n:=128) (k:=30000) (by omega) (by omega) (l:=fs) (by omega) g2;rw[g1]at ga;refine Aw ?_ rfl;rw[hble];refine Af ?_;rw[hch];refine Aa ga ?_;unfold kF;rw[eF];rfl
    refine As ?_ h4
    by_cases h5:k=5
    .rw[Ac (.inr (.inr h5)),h5]
     have ga:=Aje Kt Ks Z C Ko (n:=128) (k:=30000) (by omega) (by omega) (l:=fs) (by omega) g2;rw[g1]at ga;refine Aw ?_ rfl;rw[hble];refine Af ?_;rw[hch];refine Aa ga ?_;unfold kF;rw[eF];rfl
    rw[Ab (by omega)];refine As ?_ h5;refine Aa (IB Ko Θ) ?_;rfl
  cases Rt h with
  |tt=>exact fin 0 [] (by simp) rfl (by simp) (.inl ⟨rfl,rfl⟩)
  |ff=>exact fin 1 [] (by simp) rfl (by simp) (.inr (.inl ⟨rfl,rfl⟩))
  |@no _ x hd hx=>
   exact fin 3 [x] (by simp) rfl (λy hy=>by
    rw[AwY.1 hy];exact⟨_,by simp only[Tr.mk.sizeOf_spec,List.cons.sizeOf_spec]at hn;omega,hx⟩) (.inr (.inr (.inl ⟨rfl,rfl⟩)))
  |@bin _ k x y hk hd hx gd hy=>
   exact fin k [x,y] (by simp) rfl (λz hz=>by
    simp only[Tr.mk.sizeOf_spec,List.cons.sizeOf_spec]at hn;rcases Awt.1 hz with rfl|hz
    .exact⟨_,by omega,hx⟩
    .rw[AwY.1 hz]
     exact⟨_,by omega,hy⟩) (by omega)
  |@cmp _ l r op hl hr h1 h2=>
   have gl:=AbQ Kt Ks Z C Kfe Ka Kta N vars hvl l (J9 hl).2 (J9 hl).1;have gr:=AbQ Kt Ks Z C Kfe Ka Kta N vars hvl r (J9 hr).2 (J9 hr).1;have gc:=Ajo Kt Kf Ks Z C Ko (by omega) (Nx vars l).tb (Nx vars r).tb op;rw[E6,E6]at gc;rw[Dz,Ac rfl];refine Ao Kfe AcG (e65 ..) ?_;refine Aw ?_ rfl;refine Aa gl ?_;simp only[eT,eN,Ae];refine Aa gr ?_;simp only[eT,eN,Ae];refine Aa gc ?_;generalize VK op (FT vars l).1 (FT vars r).1=y;obtain⟨yk,yt,ye,ys⟩:=y;rw[eF]
   cases (FT vars l).2<;>cases (FT vars r).2<;>rfl
def G7(vars:List ByteArray)(t:Tr):Fm × Bool:=if BI t 0&&(Dz vars t).2 then((Dz vars t).1,U) else(Ps Θ,Θ)
include Kt Kf Ks Z C Ko Ka Kta N in
theorem Ai6(vars:List ByteArray)(hvl:vars.length<4611686018427387904)(t:Tr)(hz:WzT t):D.ask (.fn 27) [.agg (BR t),.ls (vars.map eS)] []=V (.tup [.agg (eF (G7 vars t).1),bv (G7 vars t).2],[]):=by
 have gr:=Aeq Kta N t hz;have gf:=λh=>AjL Kt Kf Ks Z C Ko Kfe Ka Kta N vars hvl _ t 0 (Awz _) h
 have gt:=IB Ko Θ;unfold G7;obtain⟨q,hq⟩:∃ q,q=Dz vars t:=⟨_,rfl⟩;rw[←hq]at gf ⊢;obtain⟨f,b⟩:=q;obtain⟨fk,ft,fe,fs⟩:=f;obtain⟨tk,tl,tr,to,tp,tq,ts⟩:=t;refine Ao Kfe Arl (e27 ..) ?_
 cases hr:BI (.mk tk tl tr to tp tq ts) 0 with
 |false=>
  rw[hr]at gr;simp only[BR,eN,Ae]at gr ⊢;refine Aa gr ?_;simp only[Ae];refine Aa gt ?_;rfl
 |true=>
  rw[hr]at gr;have gf:=gf hr;simp only[BR,eF,eN,Ae]at gr gf ⊢;refine Aa gr ?_;simp only[Ae];refine Aa gf ?_;simp only[Ae]
  cases b with
  |true=>
   refine BF ?_;simp only[Bool.and_self,if_true];rw[eF];rfl
  |false=>
   refine Af ?_;refine Aa gt ?_;rfl
end
structure Pp where
 here:Bool
 proc:Int
 loc:Int
 f:Fm
def Hr(p:Pp):Ad:=bv p.here::iv p.proc::iv p.loc::eF p.f
theorem MM(p:Pp):(Hr p).length=9:=by
 (first|grind [Hr,Dt] | grind [Hr,π,Dt])
inductive Rf where
 |mk (kind num:Int) (kids:List Rf)
mutual
def eG:Rf->Ad
 |.mk k n ks=>[iv k,iv n,.ls (eGs ks)]
def eGs:List Rf->Rw
 |[]=>[]
 |x::r=>eG x::eGs r
end
theorem Up:∀ l,eGs l=l.map eG
 |[]=>rfl
 |x::r=>by simp[eGs,Up r]
theorem NS(x:Rf):(eG x).length=3:=by
 obtain⟨k,n,ks⟩:=x;rw[eG];rfl
structure PpOk (p:Pp):Prop where
 can:CanF p.f
 fb:FB 128 30000 p.f
def FO(p q:Pp):Bool:=p.here == q.here&&decide (p.proc=q.proc)&&decide (p.loc=q.loc)&&X9 p.f q.f
def F0:Fm:=Ps U
def P0:Pp:=⟨Θ,0,0,F0⟩
theorem AqG:FB 128 30000 F0:=by
 refine .mk ?_ (by simp) (by simp);refine⟨by simp[Tm0],by simp[Tm0],?_⟩;exact⟨Cn,by simp[Tm0]⟩
theorem Alz{h:Bool}{a b:Int}:PpOk ⟨h,a,b,F0⟩:=⟨CanF.tru U,AqG⟩
def Fj(y:Sy)(p q:ByteArray):Pp × Bool:=match (y.ps.map (·.name)).findIdx? (p = ·) with
 |none=>(P0,Θ)
 |some i=>(⟨U,(i:Int),Dj (((y.ps[i]?.map (·.locs)).getD []).findIdx? (q = ·)),F0⟩,decide (0<=Dj (((y.ps[i]?.map (·.locs)).getD []).findIdx? (q = ·))))
def Dd(y:Sy):Tr->Pp × Bool
 |.mk k l r op p q ks=>if k=6 then Fj y p q else(⟨Θ,0,0,(G7 y.vars (.mk k l r op p q ks)).1⟩,(G7 y.vars (.mk k l r op p q ks)).2)
theorem YX(vars:List ByteArray)(t:Tr):CanF (G7 vars t).1/\FB 128 30000 (G7 vars t).1:=by
 unfold G7;split
 .rename_i h
  exact SB vars _ t 0 (Awz _) (by simp only[η]at h;exact h.1)
 .refine⟨.tru Θ,.mk ?_ (by simp) (by simp)⟩
  exact⟨by simp[Tm0],by simp[Tm0],⟨Cn,by simp[Tm0]⟩⟩
theorem VA(y:Sy)(t:Tr):PpOk (Dd y t).1:=by
 obtain⟨k,l,r,op,p,q,ks⟩:=t;rw[Dd];split
 .unfold Fj
  split
  .exact Alz
  .exact Alz
 .have h:=YX y.vars (.mk k l r op p q ks)
  exact⟨h.1,h.2⟩
def Ahi(ps:List Pp)(p:Pp):Int:=match ps.findIdx? (FO p) with
 |some i=>(i:Int)
 |none=>(ps.length:Int)
def Mz(ps:List Pp)(p:Pp):List Pp:=match ps.findIdx? (FO p) with
 |some _=>ps
 |none=>ps++[p]
mutual
def CZ(y:Sy):Tr->List Pp->Option Rf × List Pp
 |.mk k l r op p q ks,ps=>if k=2\/k=6 then(if(Dd y (.mk k l r op p q ks)).2=U then(V (.mk 2 (Ahi ps (Dd y (.mk k l r op p q ks)).1) []),Mz ps (Dd y (.mk k l r op p q ks)).1) else(Δ,ps)) else((CK y ks ps).1.map (.mk k 0),(CK y ks ps).2)
def CK(y:Sy):List Tr->List Pp->Option (List Rf) × List Pp
 |[],ps=>(V [],ps)
 |x::r,ps=>match (CZ y x ps).1 with
  |none=>(Δ,(CZ y x ps).2)
  |some f=>((CK y r (CZ y x ps).2).1.map (f::·),(CK y r (CZ y x ps).2).2)
end
theorem Fu(y:Sy)(k:Int)(l r:List Mo)(op:Int)(p q:ByteArray)(ks:List Tr)(ps:List Pp):CZ y (.mk k l r op p q ks) ps=if k=2\/k=6 then(if(Dd y (.mk k l r op p q ks)).2=U then(V (.mk 2 (Ahi ps (Dd y (.mk k l r op p q ks)).1) []),Mz ps (Dd y (.mk k l r op p q ks)).1) else(Δ,ps)) else((CK y ks ps).1.map (.mk k 0),(CK y ks ps).2):=by
 rw[CZ]
theorem Fl(y:Sy)(x:Tr)(r:List Tr)(ps:List Pp):CK y (x::r) ps=match (CZ y x ps).1 with
  |none=>(Δ,(CZ y x ps).2)
  |some f=>((CK y r (CZ y x ps).2).1.map (f::·),(CK y r (CZ y x ps).2).2):=by
 rw[CK]
mutual
def I1:Tr->Nat
 |.mk _ _ _ _ _ _ ks=>Jp ks+1
def Jp:List Tr->Nat
 |[]=>0
 |x::r=>I1 x+Jp r
end
theorem Aes(ps:List Pp)(p:Pp):(Mz ps p).length<=ps.length+1:=by
 unfold Mz;split<;>simp
theorem Aja{ps:List Pp}{p:Pp}(h:∀ x∈ps,PpOk x)(hp:PpOk p):∀ x∈Mz ps p,PpOk x:=by
 unfold Mz;split
 .exact h
 .grind
mutual
theorem Oe(y:Sy):∀(t:Tr) (ps:List Pp),(∀ x∈ps,PpOk x)->(CZ y t ps).2.length<=ps.length+I1 t/\∀ x∈(CZ y t ps).2,PpOk x
 |.mk k l r op p q ks,ps,h=>by
  rw[Fu,I1];split
  .split
   .have:=Aes ps (Dd y (.mk k l r op p q ks)).1
    exact⟨by show (Mz _ _).length<=_;omega,Aja h (VA y _)⟩
   .exact⟨by show ps.length<=_;omega,h⟩
  .have g:=Rh y ks ps h
   exact⟨by show (CK y ks ps).2.length<=_;omega,g.2⟩
theorem Rh(y:Sy):∀(ks:List Tr) (ps:List Pp),(∀ x∈ps,PpOk x)->(CK y ks ps).2.length<=ps.length+Jp ks/\∀ x∈(CK y ks ps).2,PpOk x
 |[],ps,h=>⟨by rw[CK];simp[Jp],by rw[CK];exact h⟩
 |x::r,ps,h=>by
  have g1:=Oe y x ps h;have g2:=Rh y r (CZ y x ps).2 g1.2;rw[Fl,Jp];split
  .exact⟨by show (CZ y x ps).2.length<=_;omega,g1.2⟩
  .exact⟨by show (CK y r (CZ y x ps).2).2.length<=_;omega,g2.2⟩
end
structure ResF (D:Orc):Prop where
 form:∀(vars:List ByteArray) (t:Tr),vars.length<4611686018427387904->WzT t->D.ask (.fn 27) [.agg (BR t),.ls (vars.map eS)] []=V (.tup [.agg (eF (G7 vars t).1),bv (G7 vars t).2],[])
 same:∀ x y:Fm,CanF x->CanF y->FB 128 30000 x->FB 128 30000 y->D.ask (.fn 233) [.agg (eF x),.agg (eF y)] []=V (bv (X9 x y),[])
 index:∀(xs:List ByteArray) (s:ByteArray),xs.length<4611686018427387904->D.ask (.fn 88) [.ls (xs.map eS),sv s] []=V (iv (Dj (xs.findIdx? (s = ·))),[])
 procs:∀ y:Sy,y.ps.length<=1000000->D.ask (.fn 232) [.agg (IF y)] []=V (.ls ((y.ps.map (·.name)).map eS),[])
 right:∀ t:Tr,WzT t->WzP t->D.ask (.fn 36) [.agg (BR t)] []=V (bv (AR t 0),[])
def rbO(y:Sy)(b n:Nat):ABlk:=θ (IF y++[.sl b 0 n 9]) U Θ
def rbN(y:Sy):ABlk:=θ (IF y++[.v (.slice Δ 0 0)]) U Θ
def Lw(ps:List Pp):ABlk:=θ (Av Hr ps) U U
def bxP(p:Pp):ABlk:=θ (Hr p) U Θ
theorem DO(h:Bool)(a b k:Int)(t:Tm)(e:Bool)(ks:List Fm):Hr ⟨h,a,b,.mk k t e ks⟩=[bv h,iv a,iv b,iv k,.ls (t.ps.map eP),bv t.k.neg,eN t.k.abs,bv e,.ls (eFs ks)]:=by
 unfold Hr;rw[eF]
section
variable {D:Orc} (K:Knows GC TH D) (R:ResF D)
include K R
theorem Aib{p q:Pp}(hp:PpOk p)(hq:PpOk q):D.ask (.fn 191) [.agg (Hr p),.agg (Hr q)] []=V (bv (FO p q),[]):=by
 have g:=R.same p.f q.f hp.can hq.can hp.fb hq.fb;obtain⟨a,b,c,f⟩:=p;obtain⟨a',b',c',f'⟩:=q;obtain⟨k,t,e,ks⟩:=f;obtain⟨k',t',e',ks'⟩:=f';simp only[DO,eF,eN]at g ⊢;unfold FO;refine Ao K AmH (Aup ..) ?_
 by_cases h1:a=a'
 .subst h1
  rw[show Ak.beq a a=U by cases a<;>rfl];refine Af ?_
  by_cases h2:b=b'
  .refine Aw ?_ h2
   by_cases h3:c=c'
   .refine Aw ?_ h3
    refine Aa g ?_;simp only[Ae];rw[beq_self_eq_true,AW h2,AW h3,AwD,AwD,AwD]
    cases X9 (.mk k t e ks) (.mk k' t' e' ks')<;>rfl
   .refine As ?_ h3
    rw[Be h3];simp
  .refine As ?_ h2
   rw[Be h2];simp
 .rw[show Ak.beq a a'=Θ by cases a<;>cases a'<;>first|rfl|exact absurd rfl h1]
  refine BF ?_;rw[show (a == a')=Θ by cases a<;>cases a'<;>first|rfl|exact absurd rfl h1];rfl
theorem Aku{p q:Pp}(hp:PpOk p)(hq:PpOk q):D.ask (.fn 190) [.agg (Hr q),.ptr 0 0] [bxP p]=V (bv (FO p q),[.keep]):=by
 have g:=Aib K R hp hq;obtain⟨a,b,c,f⟩:=p;obtain⟨a',b',c',f'⟩:=q;obtain⟨k,t,e,ks⟩:=f;obtain⟨k',t',e',ks'⟩:=f';unfold bxP;simp only[DO,eN]at g ⊢;refine Ao K AmG (Auo ..) ?_;refine Aa g ?_;simp only[Ae]
 cases FO ⟨a,b,c,.mk k t e ks⟩ ⟨a',b',c',.mk k' t' e' ks'⟩<;>rfl
def fnQ(b:Nat):AV:=.fn (.func 190) [] [.ptr b 0]
theorem AjT{ps:List Pp}{p:Pp}(hl:ps.length<=1000000)(hps:∀ x∈ps,PpOk x)(hp:PpOk p):∀(m i:Nat),ps.length-i=m->i<=ps.length->D.ask (.lp 189 0) [.sl 0 0 ps.length 9,fnQ 1,iv (ps.length:Int),iv (i:Int)] [Lw ps,bxP p]
   = V (match (ps.drop i).findIdx? (FO p) with|some j=>.tup [bv U,.sl 0 0 ps.length 9,iv ((i+j:Nat):Int)] | none=>.tup [iv 0,.sl 0 0 ps.length 9],[.set (Lw ps),.keep]):=by
 intro m
 induction m with
 |zero=>
  intro i hm hi;rw[υ (by omega)];obtain⟨a,b,c,k,t,e,ks⟩:=p;unfold bxP Lw fnQ;rw[DO];refine Ax K Wk (Aaw ..) ?_;exact Ap rfl
 |succ m ih=>
  intro i hm hi;have h1:i<ps.length:=by omega
  have g:=Aku K R hp (hps _ (Awy h1));have ih:=ih (i+1) (by omega) (by omega);rw[χ h1,List.findIdx?_cons];have r1:=λk:Ad->KR=>BC MM ps i h1 k
  revert g r1;generalize ps[i]=q;intro g r1;obtain⟨a,b,c,f⟩:=p;obtain⟨k,t,e,ks⟩:=f;obtain⟨a',b',c',f'⟩:=q;obtain⟨k',t',e',ks'⟩:=f';unfold bxP Lw fnQ at *;simp only[DO,eN]at g ih r1 ⊢;refine Ax K Wk (Aaw ..) ?_;refine Au ?_;rw[AD,Ba h1];refine Af ?_;refine(r1 _).trans ?_;simp only[Ae];refine Aa g ?_;simp only[Ae]
  cases FO ⟨a,b,c,.mk k t e ks⟩ ⟨a',b',c',.mk k' t' e' ks'⟩ with
  |true=>
   refine Af ?_;rfl
  |false=>
   refine BF ?_;rw[Bv (by omega)];refine Aa ih ?_;simp only[Awx,if_false]
   cases h:(ps.drop (i+1)).findIdx? (FO ⟨a,b,c,.mk k t e ks⟩) with
   |none=>rfl
   |some j=>
    simp only[AwE,show i+(j+1)=i+1+j by omega];rfl
def Avm:Option Nat->Int
 |some j=>(j:Int)
 |none=>-1
theorem AjU{ps:List Pp}{p:Pp}(hl:ps.length<=1000000)(hps:∀ x∈ps,PpOk x)(hp:PpOk p):D.ask (.fn 189) [.sl 0 0 ps.length 9,fnQ 1] [Lw ps,bxP p]=V (iv (Avm (ps.findIdx? (FO p))),[.set (Lw ps),.keep]):=by
 have g:=AjT K R hl hps hp _ 0 rfl (by omega);rw[κ]at g;obtain⟨a,b,c,f⟩:=p;obtain⟨k,t,e,ks⟩:=f;unfold bxP Lw fnQ at *;simp only[DO,eN]at g ⊢;refine Ao K Wk (Aq9 ..) ?_;refine Aa g ?_
 cases ps.findIdx? (FO ⟨a,b,c,.mk k t e ks⟩) with
 |none=>rfl
 |some j=>
  simp only[AwJ];rfl
theorem Agh(p:Pp):D.ask (.fn 189) [.v (.slice Δ 0 0),fnQ 0] [bxP p]=V (iv (-1),[.keep]):=by
 have g:D.ask (.lp 189 0) [.v (.slice Δ 0 0),fnQ 0,iv 0,iv 0] [bxP p]=V (.tup [iv 0,.v (.slice Δ 0 0)],[.keep]):=by
  obtain⟨a,b,c,f⟩:=p;obtain⟨k,t,e,ks⟩:=f;unfold bxP fnQ;simp only[DO,eN];refine Ax K Uy (Ajy ..) ?_;exact Ap rfl
 obtain⟨a,b,c,f⟩:=p;obtain⟨k,t,e,ks⟩:=f;unfold bxP fnQ at *;simp only[DO,eN]at g ⊢;refine Ao K Uy (Aq8 ..) ?_;refine Aa g ?_;rfl
end
theorem Cu(y:Sy)(b n:Nat):rbO y b n=θ [.ls (y.vars.map eS),.ls y.s2,iv y.s3,.ls y.s4,bv y.s5,.ls y.s6,bv y.s7,.ls y.s8,.ls (y.ps.map Uq),.ls y.s10,.sl b 0 n 9] U Θ:=rfl
theorem Ra(y:Sy):rbN y=θ [.ls (y.vars.map eS),.ls y.s2,iv y.s3,.ls y.s4,bv y.s5,.ls y.s6,bv y.s7,.ls y.s8,.ls (y.ps.map Uq),.ls y.s10,.v (.slice Δ 0 0)] U Θ:=rfl
structure SyB (y:Sy):Prop where
 vars:y.vars.length<4611686018427387904
 ps:y.ps.length<=1000000
 locs:∀ p∈y.ps,p.locs.length<4611686018427387904
theorem AlC(h:Bool)(a b:Int):Hr ⟨h,a,b,F0⟩=[bv h,iv a,iv b,iv 0,.ls [],bv Θ,.ls [],bv Θ,.ls []]:=rfl
section
variable {D:Orc} (K:Knows GC TH D) (R:ResF D)
include K R
theorem Ahl(y:Sy){ps:List Pp}{p:Pp}(hl:ps.length<=1000000)(hps:∀ x∈ps,PpOk x)(hp:PpOk p):D.ask (.fn 130) [.ptr 0 0,.agg (Hr p)] [rbO y 1 ps.length,Lw ps]=V (iv (Ahi ps p),[.set (rbO y 2 (Mz ps p).length),.del,.set (Lw (Mz ps p))]):=by
 have g:=AjU K R hl hps hp;have hf:Bh (ps.length+1) 120=U:=AL (by omega) (by omega);have hb1:Aww (0+ps.length*9) (Av Hr ps).length=U:=AJ MM ps (by omega);have e3:Awv 0 (Aws (0+ps.length*9) (Av Hr ps))++Hr p=Av Hr (ps++[p]):=by
  rw[κ,A9 MM ps (by omega)];exact A8 Hr ps _
 unfold Ahi Mz;revert g e3;generalize ps.findIdx? (FO p)=o;intro g e3;obtain⟨a,b,c,f⟩:=p;obtain⟨k,t,e,ks⟩:=f;rw[Cu,Cu];unfold bxP Lw fnQ at *;simp only[DO,eN]at g e3 ⊢;refine Ao K Af2 (Aq3 ..) ?_;refine Aa g ?_;simp only[Ae]
 cases o with
 |none=>
  refine Au ?_ (by show (-1:Int)<0;decide);rw[hf];refine Af ?_;rw[hb1];refine Af ?_;rw[e3,ζ];rfl
 |some j=>
  refine Ap ?_ (by show ¬ (j:Int)<0;omega);rfl
theorem Ahk(y:Sy)(p:Pp):D.ask (.fn 130) [.ptr 0 0,.agg (Hr p)] [rbN y]=V (iv (Ahi [] p),[.set (rbO y 1 (Mz [] p).length),.set (Lw (Mz [] p))]):=by
 have g:=Agh K R p;obtain⟨a,b,c,f⟩:=p;obtain⟨k,t,e,ks⟩:=f;rw[Cu,Ra];unfold bxP Lw fnQ at *;simp only[DO,eN]at g ⊢;refine Ao K Af1 (Aq2 ..) ?_;refine Aa g ?_;simp only[Ae];refine Au ?_ (by decide)
 show _=V (iv 0,[BO.set (θ _ U Θ),BO.set (θ (Av Hr [⟨a,b,c,.mk k t e ks⟩]) U U)])
 rw[show Av Hr [⟨a,b,c,.mk k t e ks⟩]=Hr ⟨a,b,c,.mk k t e ks⟩ by simp[Av],DO];rfl
theorem AkC{y:Sy}(B:SyB y)(k:Int)(l r:List Mo)(op:Int)(p q:ByteArray)(ks:List Tr)(n:Nat)(c:Ad):D.ask (.fn 188) [.ptr 0 0,.agg (BR (.mk k l r op p q ks))] [rbO y 1 n,θ c U U]=V (.tup [.agg (Hr (Fj y p q).1),bv (Fj y p q).2],[.keep,.keep]):=by
 have g1:=R.procs y B.ps;have g2:=R.index (y.ps.map (·.name)) p (by rw[Aw0];have:=B.ps;omega);rw[show IF y=[.ls (y.vars.map eS),.ls y.s2,iv y.s3,.ls y.s4,bv y.s5,.ls y.s6,bv y.s7,.ls y.s8,.ls (y.ps.map Uq),.ls y.s10] from rfl]at g1;rw[Cu];rw[BR];refine Ao K AaF (Aq7 ..) ?_;refine Aa g1 ?_;simp only[Ae];refine Aa g2 ?_;simp only[Ae];unfold Fj
 cases h:(y.ps.map (·.name)).findIdx? (p = ·) with
 |none=>
  refine Au ?_ (by show (-1:Int)<0;decide);rfl
 |some i=>
  obtain⟨hi,_⟩:=AwZ.1 h;rw[Aw0]at hi;refine Ap ?_ (by show ¬ (i:Int)<0;omega)
  show unI (i:Int) _=_
  rw[AD,AA (Ψ hi)];have g3:=R.index y.ps[i].locs q (B.locs _ (Awy hi));simp only[Ψ hi,AwE,AyE];revert g3;generalize y.ps[i]=pr;intro g3;obtain⟨nm,lc,cm⟩:=pr;simp only[Uq,Ae];refine Aa g3 ?_;simp only[Ae,AlC]
  by_cases h0:(0:Int)<=Dj (lc.findIdx? (q = ·))
  .refine Cg ?_ h0
   rw[AW h0];rfl
  .refine Cm ?_ h0
   rw[Be h0];rfl
theorem AkB{y:Sy}(B:SyB y)(k:Int)(l r:List Mo)(op:Int)(p q:ByteArray)(ks:List Tr):D.ask (.fn 188) [.ptr 0 0,.agg (BR (.mk k l r op p q ks))] [rbN y]=V (.tup [.agg (Hr (Fj y p q).1),bv (Fj y p q).2],[.keep]):=by
 have g1:=R.procs y B.ps;have g2:=R.index (y.ps.map (·.name)) p (by rw[Aw0];have:=B.ps;omega);rw[show IF y=[.ls (y.vars.map eS),.ls y.s2,iv y.s3,.ls y.s4,bv y.s5,.ls y.s6,bv y.s7,.ls y.s8,.ls (y.ps.map Uq),.ls y.s10] from rfl]at g1;rw[Ra];rw[BR];refine Ao K AaF (Aq6 ..) ?_;refine Aa g1 ?_;simp only[Ae];refine Aa g2 ?_;simp only[Ae];unfold Fj
 cases h:(y.ps.map (·.name)).findIdx? (p = ·) with
 |none=>
  refine Au ?_ (by show (-1:Int)<0;decide);rfl
 |some i=>
  obtain⟨hi,_⟩:=AwZ.1 h;rw[Aw0]at hi;refine Ap ?_ (by show ¬ (i:Int)<0;omega)
  show unI (i:Int) _=_
  rw[AD,AA (Ψ hi)];have g3:=R.index y.ps[i].locs q (B.locs _ (Awy hi));simp only[Ψ hi,AwE,AyE];revert g3;generalize y.ps[i]=pr;intro g3;obtain⟨nm,lc,cm⟩:=pr;simp only[Uq,Ae];refine Aa g3 ?_;simp only[Ae,AlC]
  by_cases h0:(0:Int)<=Dj (lc.findIdx? (q = ·))
  .refine Cg ?_ h0
   rw[AW h0];rfl
  .refine Cm ?_ h0
   rw[Be h0];rfl
theorem Ao3{y:Sy}(B:SyB y)(t:Tr)(hz:WzT t)(n:Nat)(c:Ad):D.ask (.fn 129) [.ptr 0 0,.agg (BR t)] [rbO y 1 n,θ c U U]=V (.tup [.agg (Hr (Dd y t).1),bv (Dd y t).2],[.keep,.keep]):=by
 have gf:=R.form y.vars t B.vars hz;obtain⟨k,l,r,op,p,q,ks⟩:=t;have gp:=AkC K R B k l r op p q ks n c;rw[Dd];rw[Cu]at gp ⊢;rw[BR]at gp gf ⊢;refine Ao K Af0 (Aq1 ..) ?_
 by_cases h:k=6
 .refine Aw ?_ h
  rw[Ac h];refine Aa gp ?_;generalize Fj y p q=x;obtain⟨⟨a,b,c,k',t',e',ks'⟩,z⟩:=x;simp only[DO,Ae];rfl
 .refine As ?_ h
  rw[Ab h];refine Aa gf ?_;generalize G7 y.vars (.mk k l r op p q ks)=x;obtain⟨⟨k',t',e',ks'⟩,z⟩:=x;simp only[eF,eN,DO,Ae]
theorem Ao2{y:Sy}(B:SyB y)(t:Tr)(hz:WzT t):D.ask (.fn 129) [.ptr 0 0,.agg (BR t)] [rbN y]=V (.tup [.agg (Hr (Dd y t).1),bv (Dd y t).2],[.keep]):=by
 have gf:=R.form y.vars t B.vars hz;obtain⟨k,l,r,op,p,q,ks⟩:=t;have gp:=AkB K R B k l r op p q ks;rw[Dd];rw[Ra]at gp ⊢;rw[BR]at gp gf ⊢;refine Ao K AfZ (Aq0 ..) ?_
 by_cases h:k=6
 .refine Aw ?_ h
  rw[Ac h];refine Aa gp ?_;generalize Fj y p q=x;obtain⟨⟨a,b,c,k',t',e',ks'⟩,z⟩:=x;simp only[DO,Ae];rfl
 .refine As ?_ h
  rw[Ab h];refine Aa gf ?_;generalize G7 y.vars (.mk k l r op p q ks)=x;obtain⟨⟨k',t',e',ks'⟩,z⟩:=x;simp only[eF,eN,DO,Ae]
end
def Pa:Option Rf->AV
 |some f=>.tup [.agg (eG f),bv U]
 |none=>.tup [.agg [iv 0,iv 0,.ls []],bv Θ]
def bx0:ABlk:=θ [iv 0,iv 0,.ls []] U Θ
def kbx(k:Int)(b n:Nat):ABlk:=θ [iv k,iv 0,.sl b 0 n 3] U Θ
def rwG(l:List Rf):ABlk:=θ (Av eG l) U U
def rqA(y:Sy)(k:Int)(out:List Rf)(ps:List Pp):Option (List Rf)->AV × List BO
 |none=>(.tup [bv U,.ptr 0 0,.ptr 1 0,bv Θ],[.set (rbO y 5 ps.length),.set bx0,.del,.del,.del,.set (Lw ps)])
 |some fs=>(.tup [iv 0,.ptr 0 0,.ptr 1 0,.ptr 2 0],[.set (rbO y 5 ps.length),.set bx0,.set (kbx k 6 (out++fs).length),.del,.del,.set (Lw ps),.set (rwG (out++fs))])
theorem Ob:∀ l:List Tr,l.length<=Jp l
 |[]=>Nat.zero_le _
 |x::r=>by
  have:=Ob r;have h:1<=I1 x:=by
   obtain⟨k,a,b,c,d,e,ks⟩:=x;rw[I1];omega
  rw[Jp,π];omega
section
variable {D:Orc} (K:Knows GC TH D) (R:ResF D)
include K
theorem AhQ{y:Sy}(ks:List Tr)(k:Int)(hk:ks.length<=1000000)(g:∀ x∈ks,∀ ps:List Pp,(∀ p∈ps,PpOk p)->ps.length+I1 x<=1000000->D.ask (.fn 72) [.ptr 0 0,.agg (BR x)] [rbO y 1 ps.length,Lw ps]=V (Pa (CZ y x ps).1,[.set (rbO y 2 (CZ y x ps).2.length),.del,.set (Lw (CZ y x ps).2)])):∀(m i:Nat) (ps:List Pp) (out:List Rf),ks.length-i=m->i<=ks.length->out.length<=i->(∀ p∈ps,PpOk p)->ps.length+Jp (ks.drop i)<=1000000->
  D.ask (.lp 72 0) [.ptr 0 0,.ptr 1 0,.ptr 2 0,.ls (ks.map BR),iv (ks.length:Int),iv (i:Int)] [rbO y 3 ps.length,bx0,kbx k 4 out.length,Lw ps,rwG out]=V (rqA y k out (CK y (ks.drop i) ps).2 (CK y (ks.drop i) ps).1):=by
 intro m
 induction m with
 |zero=>
  intro i ps out hm hi ho hp hn;rw[υ (by omega),CK]
  show _=V (rqA y k out ps (V []))
  unfold rqA;simp only[AwV];unfold bx0 kbx Lw rwG;rw[Cu,Cu];refine Ax K Wy (Afw ..) ?_;exact Ap rfl
 |succ m ih=>
  intro i ps out hm hi ho hp hn;have h1:i<ks.length:=by omega
  rw[χ h1,Jp]at hn;rw[χ h1,Fl];have gx:=g ks[i] (Awy h1) ps hp (by omega);have gq:=Oe y ks[i] ps hp;have hf:Bh (out.length+1) 40=U:=AL (by omega) (by omega);have hb1:Aww (0+out.length*3) (Av eG out).length=U:=AJ NS out (by omega);have ih:=λf=>ih (i+1) (CZ y ks[i] ps).2 (out++[f]) (by omega) (by omega) (by simp;omega) gq.2 (by omega)
  unfold bx0 kbx Lw rwG at *;rw[Cu];refine Ax K Wy (Afw ..) ?_;refine Au ?_;rw[AD,AA (Ψ h1)];rw[Cu,Cu]at gx;revert gx ih;generalize CZ y ks[i] ps=q;generalize ks[i]=x;intro gx ih;obtain⟨o,qs⟩:=q;obtain⟨xk,xl,xr,xo,xp,xq,xs⟩:=x;simp only[BR,Ae]at gx ⊢;refine Aa gx ?_
  cases o with
  |none=>
   simp only[Pa,Ae];refine Af ?_;unfold rqA bx0 Lw;rw[Cu]
  |some f=>
   have e3:Awv 0 (Aws (0+out.length*3) (Av eG out))++eG f=Av eG (out++[f]):=by
    rw[κ,A9 NS out (by omega)];exact A8 eG out _
   have ih:=ih f;rw[show (out++[f]).length=out.length+1 by simp]at ih;dsimp only at ih;revert e3 ih;generalize (CK y (ks.drop (i+1)) qs)=z;intro e3 ih;obtain⟨zo,zs⟩:=z;obtain⟨fk,fn,fks⟩:=f;simp only[Pa,eG,Ae]at e3 ⊢;refine BF ?_;rw[hf];refine Af ?_;rw[hb1];refine Af ?_;rw[e3,Bv (by omega)];rw[Cu]at ih;refine Aa ih ?_
   cases zo with
   |none=>
    unfold rqA bx0 Lw;rw[Cu];rfl
   |some fs=>
    unfold rqA bx0 Lw rwG kbx;rw[Cu];simp only[AwE,Axh,Awr];rfl
include R
theorem AsZ{y:Sy}(B:SyB y):∀(N:Nat) (t:Tr),SizeOf.sizeOf t<N->WzT t->∀ ps:List Pp,(∀ p∈ps,PpOk p)->ps.length+I1 t<=1000000->D.ask (.fn 72) [.ptr 0 0,.agg (BR t)] [rbO y 1 ps.length,Lw ps]=V (Pa (CZ y t ps).1,[.set (rbO y 2 (CZ y t ps).2.length),.del,.set (Lw (CZ y t ps).2)]):=by
 intro N
 induction N with
 |zero=>intro t h;omega
 |succ N ih=>
  intro t hN hz ps hp hn;have gatom:=Ao3 K R B t hz ps.length (Av Hr ps);have gnum:=Ahl K R y (by omega) hp (VA y t);obtain⟨k,l,r,op,p,q,ks⟩:=t;have hks:ks.length<=1000000:=by
   have:=Ob ks;rw[I1]at hn;omega
  have wk:∀ x∈ks,WzT x:=by
   cases hz with
   |mk _ _ _ _ _ h=>exact h
  rw[I1]at hn;have gl:=AhQ K ks k hks (λx hx ps' hp' hn'=>ih x (by have:=List.sizeOf_lt_of_mem hx;simp only[Tr.mk.sizeOf_spec]at hN;omega) (wk x hx) ps' hp' hn') _ 0 ps [] rfl (by omega) (by simp) hp (by rw[κ];omega);rw[κ,Aw4]at gl;rw[Fu];rw[BR,CP]at gatom ⊢;unfold Lw rwG kbx bx0 at *;rw[Cu]at gatom gnum gl ⊢;refine Ao K Wy (Avg ..) ?_
  by_cases h2:k=2
  .refine Aw ?_ h2
   rw[Ac (.inl h2)];refine Aa gatom ?_;revert gnum gatom;generalize Dd y (.mk k l r op p q ks)=a at *;intro gatom gnum;obtain⟨⟨a1,a2,a3,k',t',e',ks'⟩,z⟩:=a;simp only[DO,eN]at gnum ⊢;simp only[Ae]
   cases z with
   |false=>
    refine Af ?_;rw[Ab Ayr];rfl
   |true=>
    refine BF ?_;rw[Ac rfl];refine Aa gnum ?_;rw[Cu];simp only[Ae];rw[Pa,eG,eGs]
    skip
  .refine As ?_ h2
   by_cases h6:k=6
   .refine Aw ?_ h6
    rw[Ac (.inr h6)];refine Aa gatom ?_;revert gnum gatom;generalize Dd y (.mk k l r op p q ks)=a at *;intro gatom gnum;obtain⟨⟨a1,a2,a3,k',t',e',ks'⟩,z⟩:=a;simp only[DO,eN]at gnum ⊢;simp only[Ae]
    cases z with
    |false=>
     refine Af ?_;rw[Ab Ayr];rfl
    |true=>
     refine BF ?_;rw[Ac rfl];refine Aa gnum ?_;rw[Cu];simp only[Ae];rw[Pa,eG,eGs]
     skip
   .refine As ?_ h6
    rw[Ab (by omega)];rw[Al];refine Aa gl ?_;generalize CK y ks ps=z;obtain⟨zo,zs⟩:=z
    cases zo with
    |none=>
     simp only[Cu,bx0,Lw,Ae];rfl
    |some fs=>
     have hb1:Aww (0+fs.length*3) (Av eG fs).length=U:=AJ NS fs (by omega);simp only[Cu,bx0,Lw,rwG,kbx,AwC,Ae];rw[hb1];refine Af ?_;rw[BQ NS fs rfl];simp only[AwE,Pa];rw[eG,Up]
theorem AsY{y:Sy}(B:SyB y)(t:Tr)(hz:WzT t)(hn:I1 t<=1000000):D.ask (.fn 72) [.ptr 0 0,.agg (BR t)] [rbN y]=V (Pa (CZ y t []).1,if(t.kind=2\/t.kind=6)/\(CZ y t []).1.isNone=U then [.set (rbN y)] else [.set (rbO y 1 (CZ y t []).2.length),.set (Lw (CZ y t []).2)]):=by
 have gatom:=Ao2 K R B t hz;have gnum:=Ahk K R y (Dd y t).1;have wk:∀ x∈(match t with | .mk _ _ _ _ _ _ ks=>ks),WzT x:=by
  cases hz with
  |mk _ _ _ _ _ h=>exact h
 obtain⟨k,l,r,op,p,q,ks⟩:=t;have hks:ks.length<=1000000:=by
  have:=Ob ks;rw[I1]at hn;omega
 rw[I1]at hn;have gl:=AhQ K (y:=y) ks k hks (λx hx ps' hp' hn'=>AsZ K R B _ x (Awz _) (wk x hx) ps' hp' hn') _ 0 [] [] rfl (by omega) (by simp) (by simp) (by rw[κ];simp;omega);rw[κ,Aw4]at gl;rw[Fu];rw[BR,CP]at gatom ⊢;unfold Lw rwG kbx bx0 at *;rw[Ra]at gatom gnum ⊢;rw[Cu]at gl;refine Ao K Anc (Avf ..) ?_
 by_cases h2:k=2
 .refine Aw ?_ h2
  rw[Ac (.inl h2)];refine Aa gatom ?_;revert gnum gatom;generalize Dd y (.mk k l r op p q ks)=a at *;intro gatom gnum;obtain⟨⟨a1,a2,a3,k',t',e',ks'⟩,z⟩:=a;simp only[DO,eN]at gnum ⊢;simp only[Ae]
  cases z with
  |false=>
   refine Af ?_;rw[Ab Ayr];rw[Ac ⟨.inl h2,rfl⟩];rfl
  |true=>
   refine BF ?_;rw[Ac rfl];refine Aa gnum ?_;rw[Cu];simp only[Ae];rw[Pa,eG,eGs];rw[Ab (by simp)]
 .refine As ?_ h2
  by_cases h6:k=6
  .refine Aw ?_ h6
   rw[Ac (.inr h6)];refine Aa gatom ?_;revert gnum gatom;generalize Dd y (.mk k l r op p q ks)=a at *;intro gatom gnum;obtain⟨⟨a1,a2,a3,k',t',e',ks'⟩,z⟩:=a;simp only[DO,eN]at gnum ⊢;simp only[Ae]
   cases z with
   |false=>
    refine Af ?_;rw[Ab Ayr];rw[Ac ⟨.inr h6,rfl⟩];rfl
   |true=>
    refine BF ?_;rw[Ac rfl];refine Aa gnum ?_;rw[Cu];simp only[Ae];rw[Pa,eG,eGs];rw[Ab (by simp)]
  .refine As ?_ h6
   rw[Ab (by omega),Ab (λh=>h.1.elim h2 h6)];rw[Al];refine Aa gl ?_;generalize CK y ks []=z;obtain⟨zo,zs⟩:=z
   cases zo with
   |none=>
    simp only[Cu,bx0,Lw,Ae];rfl
   |some fs=>
    have hb1:Aww (0+fs.length*3) (Av eG fs).length=U:=AJ NS fs (by omega);simp only[Cu,bx0,Lw,rwG,kbx,AwC,Ae];rw[hb1];refine Af ?_;rw[BQ NS fs rfl];simp only[AwE,Pa];rw[eG,Up]
end
def Rm(y:Sy)(t:Tr):Option (Rf × List Pp):=if AR t 0=U then(CZ y t []).1.map λf=>(f,(CZ y t []).2) else Δ
def Xy:Option (Rf × List Pp)->AV
 |some (f,ps)=>.tup [.agg (eG f),.ls (ps.map Hr),bv U]
 |none=>.tup [.agg [iv 0,iv 0,.ls []],.ls [],bv Θ]
section
variable {D:Orc} (K:Knows GC TH D) (R:ResF D)
include K R
theorem Ye{y:Sy}(B:SyB y)(t:Tr)(hz:WzT t)(hp:WzP t)(hn:I1 t<=1000000):D.ask (.fn 34) [.agg (BR t),.agg (IF y)] []=V (Xy (Rm y t),[]):=by
 have gr:=R.right t hz hp;have gn:=AsY K R B t hz hn;unfold Rm;rw[Ra]at gn;rw[show IF y=[.ls (y.vars.map eS),.ls y.s2,iv y.s3,.ls y.s4,bv y.s5,.ls y.s6,bv y.s7,.ls y.s8,.ls (y.ps.map Uq),.ls y.s10] from rfl];revert gn gr;generalize hk:t.kind=kk;generalize AR t 0=b;generalize CZ y t []=z;obtain⟨k,l,r,op,p,q,ks⟩:=t;obtain⟨zo,zs⟩:=z;intro gr gn;rw[BR]at gn gr ⊢
 by_cases h:(kk=2\/kk=6)/\zo.isNone=U
 .rw[Ac h]at gn
  refine Ao K Anb (Avc ..) ?_;refine Aa gr ?_;simp only[Ae]
  cases b with
  |false=>exact BF rfl
  |true=>
   refine Af ?_;refine Aa gn ?_
   cases zo with
   |some f=>exact absurd h.2 (by simp)
   |none=>rfl
 .rw[Ab h]at gn
  refine Ao K Aro (Avd ..) ?_;refine Aa gr ?_;simp only[Ae]
  cases b with
  |false=>exact BF rfl
  |true=>
   refine Af ?_;refine Aa gn ?_
   cases zo with
   |none=>
    rw[Cu];rfl
   |some f=>
    have hb1:Aww (0+zs.length*9) (Av Hr zs).length=U:=AJ MM zs (by omega);obtain⟨fk,fn,fks⟩:=f;rw[Cu];simp only[Pa,Lw,eG,Ae];refine BF ?_;rw[hb1];refine Af ?_;rw[BQ MM zs rfl];simp only[if_true,AwE];rw[Xy,eG]
end
def M3(k:Int):KT:=if k=3 then(2,[33]) else if k=8 then(4,[88]) else if k=9 then(4,[71]) else if k=10 then(4,[70]) else if k=4 then(2,[38]) else if k=5 then(2,[124]) else if k=7 then(2,[45,62]) else if k=11 then(4,[85]) else(4,[82])
def ApT:Tr->List KT
 |.mk k l r op p q _=>if k=0 then [(1,[116,114,117,101])] else if k=1 then [(1,[102,97,108,115,101])] else if k=6 then [(2,[64]),(1,p.data.toList),(2,[46]),(1,q.data.toList)] else Df 0 l++[(2,E2.getD op.toNat [])]++Df 0 r
def ApS(t:Tr):List (List KT)->List KT
 |[]=>ApT t
 |[a]=>M3 t.kind::a
 |a::b::_=>a++M3 t.kind::b
mutual
def AG:Tr->List KT
 |.mk k l r op p q ks=>ApS (.mk k l r op p q []) (FG k 0 ks)
def FG(k:Int):Nat->List Tr->List (List KT)
 |_,[]=>[]
 |i,x::r=>Fa (Bx k i x.kind) (AG x)::FG k (i+1) r
end
theorem AgP(k:Int)(x:Tr):Cb (.mk k [] [] 0 (Ai []) (Ai []) [x])=Eu k++Vw (Bx k 0 x.kind) (Cb x):=by
 rw[Cb,CY,CY];rfl
theorem AgQ(k:Int)(x y:Tr):Cb (.mk k [] [] 0 (Ai []) (Ai []) [x,y])=Vw (Bx k 0 x.kind) (Cb x)++Eu k++Vw (Bx k 1 y.kind) (Cb y):=by
 rw[Cb,CY,CY,CY];rfl
theorem N9(k:Int)(x:Tr):AG (.mk k [] [] 0 (Ai []) (Ai []) [x])=M3 k::Fa (Bx k 0 x.kind) (AG x):=by
 rw[AG,FG,FG];rfl
theorem DJ(k:Int)(x y:Tr):AG (.mk k [] [] 0 (Ai []) (Ai []) [x,y])=Fa (Bx k 0 x.kind) (AG x)++M3 k::Fa (Bx k 1 y.kind) (AG y):=by
 rw[AG,FG,FG,FG];rfl
def HdL(s:List UInt8):Prop:=∃ d r,s=d::r/\d≠61
theorem HdB.l{s:List UInt8}(h:HdB s):HdL s:=by
 obtain⟨d,r,rfl,h⟩:=h;refine⟨d,r,rfl,?_⟩;rintro rfl;revert h
 decide
theorem HdL.app{s:List UInt8}(h:HdL s)(r:List UInt8):HdL (s++r):=by
 obtain⟨d,r',rfl,h⟩:=h;exact⟨d,r'++r,rfl,h⟩
theorem Ata{d:UInt8}(h:d≠61):Jh 33 d=Θ:=by
 have h:d.toNat≠61:=λe=>h (UInt8.toNat_inj.1 e)
 unfold Jh R8;simp only[show (33:UInt8).toNat=33 from rfl];rw[Ab (λh=>absurd h.1 (by decide)),Ab (λh=>absurd h.1 (by decide)),Ab (λe=>h e.2),Ab (λh=>absurd h.1 (by decide)),Ab (λh=>absurd h.1 (by decide)),Ab (λh=>absurd h.1 (by decide))];split<;>rfl
theorem SR{c:UInt8}{rest:List UInt8}(h1:Ho c=U)(h2:D6 c=Θ)(h3:BE c=Θ):CF (c::rest)=(CF rest).map ((4,[c])::·):=by
 have ht:Dr (c::rest)=.tok 4 1:=by
  rw[BG,h1,h2,h3];rfl
 rw[Gl (Ie _ (Aal h1)) ht];rfl
theorem WP{l rest:List UInt8}(h:GR l=U)(hr:rest=[]\/∃ c r,rest=c::r/\EL c=Θ):CF (l++rest)=(CF rest).map ((1,l)::·):=by
 unfold GR at h;simp only[η,Bool.not_eq_true',decide_eq_true_eq]at h;obtain⟨⟨⟨h1,h2⟩,h3⟩,h4⟩:=h
 cases l with
 |nil=>simp at h1
 |cons c l=>
  have hd:D6 c=U:=h3;have hs:=Py EL rest hr (c::l) h4;have ht:Dr ((c::l)++rest)=.tok 1 (c::l).length:=by
   simp_all [AwI,Ab,Ac,BG]
  have hg:Ei Θ ((c::l)++rest)=0:=Ie _ (UL hd);rw[Gl hg ht,T6,T5]
theorem Aj2{s:List UInt8}{ks:List KT}(h:Lx s ks):Lx ([40]++s++[41]) ([(2,[40])]++ks++[(2,[41])]):=λrest hr=>by
 have nt:∀ c:UInt8,c=40\/c=41->∀ l:List UInt8,l=[]\/∃ d r,l=d::r/\Jh c d=Θ:=λc hc l=>by
  cases l with
  |nil=>exact .inl rfl
  |cons d r=>exact .inr ⟨d,r,rfl,by rcases hc with rfl|rfl<;>exact Ali (by decide) (by decide) (by decide) (by decide) (by decide) (by decide) d⟩
 have e:[40]++s++[41]++rest=40::(s++(41::rest)):=by simp
 rw[e,CL (by decide) (nt 40 (.inl rfl) _),h _ (.inr ⟨41,_,rfl,.inr rfl⟩),CL (by decide) (nt 41 (.inr rfl) _)];simp only[EO,DW];simp only[Awr]
theorem Zk(b:Bool){s:List UInt8}{ks:List KT}(h:Lx s ks/\HdL s):Lx (Vw b s) (Fa b ks)/\HdL (Vw b s):=by
 cases b with
 |false=>exact h
 |true=>exact⟨Aj2 h.1,40,_,rfl,by decide⟩
theorem Aj9{k:Int}(hk:DQ k=1){s:List UInt8}{ks:List KT}(h:Lx s ks)(hh:HdL s):Lx (Eu k++s) (M3 k::ks)/\HdL (Eu k++s):=by
 have big:∀ c:UInt8,Ho c=U->D6 c=Θ->BE c=Θ->Lx ([c,32]++s) ((4,[c])::ks):=λc h1 h2 h3 rest hr=>by
  show CF (c::32::(s++rest))=_
  rw[SR h1 h2 h3,Di,h _ hr];simp only[EO,DW];rfl
 rcases BB k with⟨e,_⟩|⟨_,rfl|rfl|rfl|rfl⟩|⟨e,_⟩|e
 .omega
 .refine⟨λrest hr=>?_,33,_,rfl,by decide⟩
  obtain⟨d,r,rfl,hd⟩:=hh
  show CF (33::((d::r)++rest))=_
  have e:(d::r)++rest=[]\/∃ x y,(d::r)++rest=x::y/\Jh 33 x=Θ:=.inr ⟨d,r++rest,rfl,Ata hd⟩;rw[CL (by decide) e,h _ hr];simp only[EO,DW];rfl
 .exact⟨big 88 (by decide) (by decide) (by decide),88,_,rfl,by decide⟩
 .exact⟨big 71 (by decide) (by decide) (by decide),71,_,rfl,by decide⟩
 .exact⟨big 70 (by decide) (by decide) (by decide),70,_,rfl,by decide⟩
 .omega
 .omega
theorem Akb{k:Int}(hk:DQ k=2){s t:List UInt8}{ks js:List KT}(h:Lx s ks)(g:Lx t js):Lx (s++Eu k++t) (ks++M3 k::js):=by
 have one:∀ c:UInt8,c=38\/c=124->Lx (s++[32,c,32]++t) (ks++(2,[c])::js):=λc hc=>by
  have:=Ao6 hc h g
  rwa [show ks++[(2,[c])]++js=ks++(2,[c])::js by simp]at this
 have big:∀ c:UInt8,Ho c=U->D6 c=Θ->BE c=Θ->Lx (s++[32,c,32]++t) (ks++(4,[c])::js):=λc h1 h2 h3 rest hr=>by
  have e:s++[32,c,32]++t++rest=s++(32::c::32::(t++rest)):=by simp
  rw[e,h _ (.inr ⟨32,_,rfl,.inl rfl⟩),Di,SR h1 h2 h3,Di,g _ hr];simp only[EO,DW];simp only[Awr];rfl
 rcases BB k with⟨e,_⟩|⟨e,_⟩|⟨_,rfl|rfl|rfl|rfl|rfl⟩|e
 .omega
 .omega
 .exact one 38 (.inl rfl)
 .exact one 124 (.inr rfl)
 .intro rest hr
  show CF (s++[32,45,62,32]++t++rest)=_
  have e:s++[32,45,62,32]++t++rest=s++(32::45::62::32::(t++rest)):=by simp
  rw[e,h _ (.inr ⟨32,_,rfl,.inl rfl⟩),Di,IY (by decide),Di,g _ hr];simp only[EO,DW];simp only[Awr];rfl
 .exact big 85 (by decide) (by decide) (by decide)
 .exact big 82 (by decide) (by decide) (by decide)
 .omega
theorem AqQ{p q:List UInt8}(hp:Ce p=U)(hq:Ce q=U):Lx ([64]++p++[46]++q) [(2,[64]),(1,p),(2,[46]),(1,q)]:=λrest hr=>by
 have e:[64]++p++[46]++q++rest=64::(p++(46::(q++rest))):=by simp
 rw[e,CL (by decide) ((PT (EC hp) _).two 64),WP (EC hp) (.inr ⟨46,_,rfl,by decide⟩),CL (by decide) ((PT (EC hq) _).two 46),Gz (EC hq) hr.n];simp only[EO,DW];rfl
theorem ApV:∀(n:Nat) (t:Tr) (d:Nat),SizeOf.sizeOf t<n->AR t d=U->Lx (Cb t) (AG t)/\HdL (Cb t):=by
 intro n
 induction n with
 |zero=>intro t d h;omega
 |succ n ih=>
  intro t d hn h
  cases C3 h with
  |tt=>exact⟨Alh,116,_,rfl,by decide⟩
  |ff=>exact⟨AfF,102,_,rfl,by decide⟩
  |@cmp _ l r op hl hr h1 h2=>
   have hc:Hp (.mk 2 l r op (Ai []) (Ai []) [])=U:=by
    unfold Hp;simp[hl,hr,h1,h2]
   have e:Cb (.mk 2 l r op (Ai []) (Ai []) [])=JI l r op:=by
    rw[Cb,CY]
    show GA (.mk 2 l r op (Ai []) (Ai []) [])=_
    simp[GA,hc]
   have e2:AG (.mk 2 l r op (Ai []) (Ai []) [])=Df 0 l++[(2,E2.getD op.toNat [])]++Df 0 r:=by
    rw[AG,FG];rfl
   rw[e,e2];exact⟨(AeR hl hr h1 h2).1,(AeR hl hr h1 h2).2.l⟩
  |@«at» _ p q hp hq=>
   have e:Cb (.mk 6 [] [] 0 p q [])=[64]++p.data.toList++[46]++q.data.toList:=by
    rw[Cb,CY];rfl
   have e2:AG (.mk 6 [] [] 0 p q [])=[(2,[64]),(1,p.data.toList),(2,[46]),(1,q.data.toList)]:=by
    rw[AG,FG];rfl
   rw[e,e2];exact⟨AqQ hp hq,64,_,rfl,by decide⟩
  |@one _ k x hk hd hx=>
   have gx:=Zk (Bx k 0 x.kind) (ih x _ (by simp only[Tr.mk.sizeOf_spec,List.cons.sizeOf_spec]at hn;omega) hx);rw[AgP,N9];exact Aj9 hk gx.1 gx.2
  |@two _ k x y hk hd hx gd hy=>
   have gx:=Zk (Bx k 0 x.kind) (ih x _ (by simp only[Tr.mk.sizeOf_spec,List.cons.sizeOf_spec]at hn;omega) hx);have gy:=Zk (Bx k 1 y.kind) (ih y _ (by simp only[Tr.mk.sizeOf_spec,List.cons.sizeOf_spec]at hn;omega) hy);rw[AgQ,DJ];refine⟨Akb hk gx.1 gy.1,?_⟩;rw[Awr];exact gx.2.app _
structure ResK (b:Bool) (r:Nat × Nat × Tr) (j:Nat) (t:Tr):Prop where
 y:b=U->r=(j,0,t)
 n:b=Θ->r.2.1=110
section
variable {ts:List Tk} (vars:List ByteArray)
def MY(m:Mo):Bool:=decide (m.var=Ai [])||decide (m.var∈vars)
def Es(ms:List Mo):Bool:=ms.all (MY vars)
theorem AbT{i:Nat}{s:List UInt8}{r:List KT}(h:E8 ts i ((1,s)::r))(hs:Ce s=U):(Ai s∈vars->GQ ts vars U i=(i+1,0,Ai s))/\(Ai s∉vars->(GQ ts vars U i).2.1=110):=by
 have hn:isN ts i=U:=by
  unfold isN;rw[(Bi h).1.1,(Bi h).1.2,hs];rfl
 unfold GQ;rw[hn,Ab (by simp),(Bi h).1.2];exact⟨λh=>(by rw[Ab (λe=>e.2 h)]),λh=>by rw[Ac ⟨rfl,h⟩]⟩
theorem W6{m:Mo}(hm:AS m=U){i:Nat}{a:KT}{r:List KT}(h:E8 ts i (NC m++a::r))(ha:a.2≠[42]) :
  Pb ts i=U/\(MY vars m=U->A3 ts vars U i m.neg=(i+(NC m).length,0,m))/\(MY vars m=Θ->(A3 ts vars U i m.neg).2.1=110):=by
 obtain⟨h1,h2,h3⟩:=Il hm;unfold NC at h ⊢;unfold MY
 by_cases hn:m.num=Ai []
 .rw[Ab (λe=>e hn)]at h ⊢
  have hv:=h2 (h3 hn);have hk:=(Bi h).1;obtain⟨g1,g2⟩:=AbT vars h hv;rw[KJ]at g1 g2;rw[Be (h3 hn),Ayd,decide_eq_true_eq,decide_eq_false_iff_not];refine⟨?_,λe=>?_,λe=>?_⟩
  .unfold Pb isN
   rw[hk.1,hk.2,hv];rfl
  .unfold A3
   rw[hk.1,Ab (show ¬(1:Nat)=3 by decide),g1 e,Zy m hn.symm rfl];rfl
  .grind [decide,A3]
 .rw[Ac hn]at h ⊢
  by_cases hv:m.var=Ai []
  .rw[Ab (λe=>e hv)]at h ⊢
   have hk:=(Bi h).1;have ha:=Bc (Bi h).2 ha;rw[AW hv,AzP];refine⟨?_,λ_=>?_,λe=>by cases e⟩
   .unfold Pb
    rw[hk.1];rfl
   .unfold A3
    rw[hk.1,Ac rfl,ha,Ab (by simp),hk.2,Zy m (KJ m.num) hv.symm];rfl
  .rw[Ac hv]at h ⊢
   have hk:=(Bi h).1;have h5:=(Bi h).2;have h6:=(Bi h5).2;obtain⟨g1,g2⟩:=AbT vars h6 (h2 hv);rw[KJ]at g1 g2;rw[Be hv,Ayd,decide_eq_true_eq,decide_eq_false_iff_not];refine⟨?_,λe=>?_,λe=>?_⟩
   .unfold Pb
    rw[hk.1];rfl
   .unfold A3
    rw[hk.1,Ac rfl,Du h5,Ac rfl,hk.2,g1 e,Zy m (KJ m.num) rfl];rfl
   .unfold A3
    rw[hk.1,Ac rfl,Du h5,Ac rfl];exact g2 e
theorem Vj:∀(r:List Mo) (m:Mo) (j k:Nat) (out:List Mo) (i:Nat) (a:KT) (q:List KT),AS m=U->r.all AS=U->r.length<k->E8 ts i (NC m++(Df (j+1) r++a::q))->a.2≠[42]/\a.2≠[43]/\a.2≠[45]->
  (Es vars (m::r)=U->EU ts vars U k out m.neg i=(i+(NC m).length+(Df (j+1) r).length,0,out++m::r))/\(Es vars (m::r)=Θ->(EU ts vars U k out m.neg i).2.1=110)
 |[],m,j,k,out,i,a,q,hm,hr,hk,h,ha=>by
  obtain⟨k,rfl⟩:∃ n,k=n+1:=⟨k-1,by simp at hk;omega⟩;obtain⟨hb,g1,g2⟩:=W6 vars hm h ha.1;have h2:E8 ts (i+(NC m).length) (a::q):=Ds h;unfold Es;rw[Axn,List.all_nil,Ayl];unfold EU;rw[hb,Ab (by simp)];refine⟨λe=>?_,λe=>?_⟩
  .rw[g1 e]
   simp only[Bc h2 ha.2.1,Bc h2 ha.2.2];rfl
  .grind
 |m'::r,m,j,k,out,i,a,q,hm,hr,hk,h,ha=>by
  obtain⟨k,rfl⟩:∃ n,k=n+1:=⟨k-1,by simp at hk;omega⟩;rw[Axn,η]at hr;rw[π]at hk;have hc:∃ c:UInt8,(c=45/\m'.neg=U\/c=43/\m'.neg=Θ)/\Df (j+1) (m'::r)=(2,[c])::(NC m'++Df (j+1+1) r):=by
   cases hn:m'.neg with
   |true=>exact⟨45,.inl ⟨rfl,rfl⟩,by simp[Df,AdJ,hn]⟩
   |false=>exact⟨43,.inr ⟨rfl,rfl⟩,by simp[Df,AdJ,hn]⟩
  obtain⟨c,hc,e⟩:=hc;rw[e]at h ⊢;obtain⟨hb,g1,g2⟩:=W6 vars hm (a:=(2,[c])) h (by rcases hc with⟨rfl,_⟩|⟨rfl,_⟩<;>decide);have h2:E8 ts (i+(NC m).length) ((2,[c])::_):=Ds h;have h3:E8 ts (i+(NC m).length+1) ((NC m'++Df (j+1+1) r)++a::q):=(Bi h2).2;have ih:=Vj r m' (j+1) k (out++[m]) (i+(NC m).length+1) a q hr.1 hr.2 (by omega) (by
   rw[Awr]at h3;exact h3) ha
  have eall:Es vars (m::m'::r)=(MY vars m&&Es vars (m'::r)):=by
   unfold Es;rw[Axn]
  rw[eall];unfold EU;rw[hb,Ab (by simp)]
  cases hk1:MY vars m with
  |false=>
   rw[Bool.false_and];refine⟨λe=>(by cases e),λ_=>?_⟩;have g:=g2 hk1;simp only;rw[Ac (by rw[g];decide)];exact g
  |true=>
   rw[AwD,g1 hk1];simp only[ne_eq,not_true,if_false];rcases hc with⟨rfl,hn⟩|⟨rfl,hn⟩
   .rw[Du h2,Ac rfl]
    rw[hn]at ih;refine⟨λe=>?_,λe=>ih.2 e⟩;rw[ih.1 e];simp only[π,ζ,Awr,Axh];rw[show i+(NC m).length+1+(NC m').length+(Df (j+1+1) r).length=i+(NC m).length+((NC m').length+(Df (j+1+1) r).length+1) by omega]
   .rw[Bc h2 (by decide),Ab (by simp),Du h2,Ac rfl]
    rw[hn]at ih;refine⟨λe=>?_,λe=>ih.2 e⟩;rw[ih.1 e];simp only[π,ζ,Awr,Axh];rw[show i+(NC m).length+1+(NC m').length+(Df (j+1+1) r).length=i+(NC m).length+((NC m').length+(Df (j+1+1) r).length+1) by omega]
theorem AbJ{ms:List Mo}(hm:IG ms=U){i:Nat}{a:KT}{q:List KT}(h:E8 ts i (Df 0 ms++a::q))(ha:a.2≠[42]/\a.2≠[43]/\a.2≠[45]) :
  (Es vars ms=U->Dk ts vars U i=(i+(Df 0 ms).length,0,ms))/\(Es vars ms=Θ->(Dk ts vars U i).2.1=110):=by
 obtain⟨h1,h2,h3⟩:=D9 hm
 cases ms with
 |nil=>simp at h1
 |cons m r=>
  rw[Axn,η]at h3;rw[π]at h2;unfold Df AdJ at h ⊢;unfold Dk
  by_cases hn:m.neg=U
  .rw[Ac hn,Axh,AwI,AwI]at h
   rw[Du h,Ac rfl];have g:=Vj vars r m 0 64 [] (i+1) a q h3.1 h3.2 (by omega) (by
    have:=(Bi h).2;rw[Awr]at this;exact this) ha
   rw[hn]at g;refine⟨λe=>?_,g.2⟩;rw[g.1 e,Ac hn];simp only[π,ζ,Aw4,AwC];rw[show i+1+(NC m).length+(Df (0+1) r).length=i+(0+1+(NC m).length+(Df (0+1) r).length) by omega]
  .rw[Ab hn,Ac rfl,AwC,Awr]at h
   have g:=Vj vars r m 0 64 [] i a q h3.1 h3.2 (by omega) h ha;obtain⟨b,p,e,k1,_⟩:=ApY h3.1;rw[e]at h;rw[Bc h k1,Ab (by simp)];rw[Bool.not_eq_true _ |>.mp hn]at g;refine⟨λe=>?_,g.2⟩;rw[g.1 e,Ab hn,Ac rfl];simp only[ζ,AwC];rw[Nat.add_assoc]
theorem Ajs{l r:List Mo}{op:Int}(hl:IG l=U)(hr:IG r=U)(h1:0<=op)(h2:op<=5){i:Nat}{a:KT}{q:List KT}(h:E8 ts i ((Df 0 l++[(2,E2.getD op.toNat [])]++Df 0 r)++a::q))(ha:a.2≠[42]/\a.2≠[43]/\a.2≠[45]) :
  ResK (Es vars l&&Es vars r) (JH ts vars U i) (i+(Df 0 l++[(2,E2.getD op.toNat [])]++Df 0 r).length) (.mk 2 l r op (Ai []) (Ai []) []):=by
 obtain⟨n,rfl⟩:∃ n:Nat,op=n:=⟨op.toNat,by omega⟩;have hn:n<6:=by omega
 rw[Int.toNat_natCast]at h ⊢;rw[Awr,Awr]at h;have g1:=AbJ vars hl h (AsR hn);have h2:=Ds h;have g2:=Ap4 hn h2;have h3:=(Bi h2).2;have g3:=AbJ vars hr h3 ha;unfold JH
 cases k1:Es vars l with
 |false=>
  have g:=g1.2 k1;refine⟨λe=>(by simp at e),λ_=>?_⟩;rw[Ac (by rw[g];decide)];exact g
 |true=>
  rw[g1.1 k1];simp only[ne_eq,not_true,if_false,g2]
  cases k2:Es vars r with
  |false=>
   have g:=g3.2 k2;refine⟨λe=>(by simp at e),λ_=>?_⟩;rw[Ac (by rw[g];decide)];exact g
  |true=>
   refine⟨λ_=>?_,λe=>by simp at e⟩;rw[g3.1 k2];simp only[not_true,if_false];simp only[ζ,π,Aw4];rw[show i+(Df 0 l).length+1+(Df 0 r).length=i+((Df 0 l).length+(0+1)+(Df 0 r).length) by omega]
end
section
variable {ts:List Tk} (vars:List ByteArray) (ps:List Pr)
def R4(p q:ByteArray):Bool:=match JU ps p with
 |none=>Θ
 |some x=>decide (q∈x.locs)
mutual
def Ha:Tr->Bool
 |.mk k l r _ p q ks=>if k=2 then Es vars l&&Es vars r else if k=6 then R4 ps p q else Ph ks
def Ph:List Tr->Bool
 |[]=>U
 |x::r=>Ha x&&Ph r
end
theorem UE{k:Int}(hk:DQ k=1)(x:Tr):Ha vars ps (.mk k [] [] 0 (Ai []) (Ai []) [x])=Ha vars ps x:=by
 have h:=BB k;rw[Ha,Ab (by omega),Ab (by omega),Ph,Ph,Ayl]
theorem Fs{k:Int}(hk:DQ k=2)(x y:Tr):Ha vars ps (.mk k [] [] 0 (Ai []) (Ai []) [x,y])=(Ha vars ps x&&Ha vars ps y):=by
 have h:=BB k;rw[Ha,Ab (by omega),Ab (by omega),Ph,Ph,Ph,Ayl]
def StopP(a:KT):Prop:=a∈[((5,[]):KT),(2,[41]),(2,[38]),(2,[124]),(2,[45,62]),(4,[85]),(4,[82])]
theorem StopP.ne{a:KT}(h:StopP a):a.2≠[42]/\a.2≠[43]/\a.2≠[45]:=by
 have:∀ a∈[((5,[]):KT),(2,[41]),(2,[38]),(2,[124]),(2,[45,62]),(4,[85]),(4,[82])],a.2≠[42]/\a.2≠[43]/\a.2≠[45]:=by decide
 exact this a h
theorem M4{k:Int}(hk:DQ k=2):StopP (M3 k):=by
 rcases BB k with⟨e,_⟩|⟨e,_⟩|⟨_,rfl|rfl|rfl|rfl|rfl⟩|e
 .omega
 .omega
 .unfold StopP M3;decide
 .unfold StopP M3;decide
 .unfold StopP M3;decide
 .unfold StopP M3;decide
 .unfold StopP M3;decide
 .omega
def Yl:List (List UInt8):=[[33],[88],[71],[70],[40],[64],[116,114,117,101],[102,97,108,115,101]]
theorem Akp{m:Mo}(h:AS m=U):∃ a r,NC m=a::r/\∀ s∈Yl,a.2≠s:=by
 obtain⟨h1,h2,h3⟩:=Il h;have bn:∀ s∈Yl,DZ s=Θ:=by decide
 have bm:∀ s∈Yl,Ce s=Θ:=by decide
 have fn:∀ l,DZ l=U->∀ s∈Yl,l≠s:=λl h s hs e=>by rw[e,bn s hs]at h;cases h
 have fv:∀ l,Ce l=U->∀ s∈Yl,l≠s:=λl h s hs e=>by rw[e,bm s hs]at h;cases h
 unfold NC
 by_cases hn:m.num=Ai []
 .simp_all
 .rw[Ac hn]
  by_cases hv:m.var=Ai []
  .simp_all
  .simp_all
theorem Aiq{ms:List Mo}(h:IG ms=U):∃ a r,Df 0 ms=a::r/\∀ s∈Yl,a.2≠s:=by
 obtain⟨h1,_,h3⟩:=D9 h
 cases ms with
 |nil=>simp at h1
 |cons m r=>
  rw[Axn,η]at h3;unfold Df AdJ
  by_cases hn:m.neg=U
  .rw[Ac hn]
   exact⟨_,_,rfl,by decide⟩
  .rw[Ab hn,Ac rfl]
   obtain⟨a,q,e,k⟩:=Akp h3.1;rw[e];exact⟨_,_,rfl,k⟩
theorem MX{i:Nat}{c:UInt8}{r:List KT}(h:E8 ts i ((4,[c])::r)):isT ts i [c]=U:=by
 rw[N5 h];simp
theorem QL(n i d:Nat):Ca ts vars U ps (n+1) .un i d=(if((C9 ts i).isSome||isT ts i [40])=U/\d=60 then(i,102,T0)
  else match C9 ts i with
   |some k=>Br (Ca ts vars U ps n .un (i+1) (d+1)) λj x=>(j,0,Ef k [x])
   |none=>if isT ts i [40] then Br (Ca ts vars U ps n .prop (i+1) (d+1)) λj x=>if isT ts j [41] then(j+1,0,x) else(j,101,T0)
    else if isT ts i [64] then C8 ts ps (i+1)
    else if isT ts i [116,114,117,101] then(i+1,0,Ef 0 [])
    else if isT ts i [102,97,108,115,101] then(i+1,0,Ef 1 [])
    else JH ts vars U i):=rfl
theorem Zr(n i d:Nat):Ca ts vars U ps (n+1) .bin i d=Br (Ca ts vars U ps n .un i d) λj x=>if isT ts j [85] then Br (Ca ts vars U ps n .bin (j+1) d) λj2 y=>(j2,0,Ef 11 [x,y])
   else if isT ts j [82] then Br (Ca ts vars U ps n .bin (j+1) d) λj2 y=>(j2,0,Ef 12 [x,y]) else(j,0,x):=rfl
theorem AgG(n i d:Nat):Ca ts vars U ps (n+1) .and i d=Br (Ca ts vars U ps n .bin i d) λj x=>Ca ts vars U ps n (.andL x) j d:=rfl
theorem PK(n i d:Nat)(x:Tr):Ca ts vars U ps (n+1) (.andL x) i d=if isT ts i [38] then Br (Ca ts vars U ps n .bin (i+1) d) λj y=>Ca ts vars U ps n (.andL (Ef 4 [x,y])) j d else(i,0,x):=rfl
theorem Ano(n i d:Nat):Ca ts vars U ps (n+1) .or i d=Br (Ca ts vars U ps n .and i d) λj x=>Ca ts vars U ps n (.orL x) j d:=rfl
theorem UI(n i d:Nat)(x:Tr):Ca ts vars U ps (n+1) (.orL x) i d=if isT ts i [124] then Br (Ca ts vars U ps n .and (i+1) d) λj y=>Ca ts vars U ps n (.orL (Ef 5 [x,y])) j d else(i,0,x):=rfl
theorem UJ(n i d:Nat):Ca ts vars U ps (n+1) .prop i d=Br (Ca ts vars U ps n .or i d) λj x=>if isT ts j [45,62] then Br (Ca ts vars U ps n .prop (j+1) d) λj2 y=>(j2,0,Ef 7 [x,y]) else(j,0,x):=rfl
theorem Do(j:Nat)(x:Tr)(k:Nat->Tr->Nat × Nat × Tr):Br (j,0,x) k=k j x:=by
 unfold Br;rw[Ac rfl]
theorem CN{r:Nat × Nat × Tr}(h:r.2.1=110)(k:Nat->Tr->Nat × Nat × Tr):(Br r k).2.1=110:=by
 unfold Br;rw[Ab (by omega)];exact h
def LU(ts:List Tk)(t:Tr)(b:Bool):Prop:=∀(f i d:Nat) (a:KT) (q:List KT),E8 ts i (Fa b (AG t)++a::q)->StopP a->E0 b d<=60->AR t (E0 b d)=U->8*(Fa b (AG t)).length<=f->
 ResK (Ha vars ps t) (Ca ts vars U ps f .un i d) (i+(Fa b (AG t)).length) t
def LBj(ts:List Tk)(t:Tr)(b:Bool):Prop:=∀(f i d:Nat) (a:KT) (q:List KT),E8 ts i (Fa b (AG t)++a::q)->StopP a->a.2≠[85]->a.2≠[82]->E0 b d<=60->AR t (E0 b d)=U->8*(Fa b (AG t)).length+1<=f->
 ResK (Ha vars ps t) (Ca ts vars U ps f .bin i d) (i+(Fa b (AG t)).length) t
def LA(ts:List Tk)(t:Tr)(b:Bool):Prop:=∀(f i d:Nat) (a:KT) (q:List KT),E8 ts i (Fa b (AG t)++a::q)->StopP a->a.2≠[85]->a.2≠[82]->E0 b d<=60->AR t (E0 b d)=U->8*(Fa b (AG t)).length+2<=f->
 ∃ g,f<=g+8*(Fa b (AG t)).length/\1<=g/\(Ha vars ps t=U->Ca ts vars U ps f .and i d=Ca ts vars U ps g (.andL t) (i+(Fa b (AG t)).length) d)/\(Ha vars ps t=Θ->(Ca ts vars U ps f .and i d).2.1=110)
def LO(ts:List Tk)(t:Tr)(b:Bool):Prop:=∀(f i d:Nat) (a:KT) (q:List KT),E8 ts i (Fa b (AG t)++a::q)->StopP a->a.2≠[85]->a.2≠[82]->a.2≠[38]->E0 b d<=60->AR t (E0 b d)=U->8*(Fa b (AG t)).length+3<=f->
 ∃ g,f<=g+8*(Fa b (AG t)).length/\1<=g/\(Ha vars ps t=U->Ca ts vars U ps f .or i d=Ca ts vars U ps g (.orL t) (i+(Fa b (AG t)).length) d)/\(Ha vars ps t=Θ->(Ca ts vars U ps f .or i d).2.1=110)
def LP(ts:List Tk)(t:Tr):Prop:=∀(f i d:Nat) (a:KT) (q:List KT),E8 ts i (AG t++a::q)->a=(5,[])\/a=(2,[41])->d<=60->AR t d=U->8*(AG t).length+4<=f->
 ResK (Ha vars ps t) (Ca ts vars U ps f .prop i d) (i+(AG t).length) t
theorem Ac7:∀(n:Nat) (t:Tr) (d:Nat),SizeOf.sizeOf t<n->AR t d=U->1<=(AG t).length:=by
 intro n
 induction n with
 |zero=>intro t d h;omega
 |succ n ih=>
  intro t d hn h
  cases C3 h with
  |tt=>rw[AG,FG];exact ω 1
  |ff=>rw[AG,FG];exact ω 1
  |@cmp _ l r op hl hr h1 h2=>
   rw[AG,FG]
   show 1<=(Df 0 l++[(2,E2.getD op.toNat [])]++Df 0 r).length
   simp only[ζ,π];omega
  |@«at» _ p q hp hq=>rw[AG,FG];show 1<=4;omega
  |@one _ k x hk hd hx=>rw[N9,π];omega
  |@two _ k x y hk hd hx gd hy=>rw[DJ,ζ,π];omega
theorem LU.b{t:Tr}{b:Bool}(h:LU vars ps ts t b):LBj vars ps ts t b:=by
 intro f i d a q hat ha h1 h2 hd hr hf;obtain⟨n,rfl⟩:∃ n,f=n+1:=⟨f-1,by omega⟩;have g:=h n i d a q hat ha hd hr (by omega);have hat2:E8 ts (i+(Fa b (AG t)).length) (a::q):=Ds hat;rw[Zr];refine⟨λe=>?_,λe=>CN (g.n e) _⟩;rw[g.y e,Do,Bc hat2 h1,Bc hat2 h2];rfl
theorem LBj.a{t:Tr}{b:Bool}(h:LBj vars ps ts t b)(hl:1<=(Fa b (AG t)).length):LA vars ps ts t b:=by
 intro f i d a q hat ha h1 h2 hd hr hf;obtain⟨n,rfl⟩:∃ n,f=n+1:=⟨f-1,by omega⟩;have g:=h n i d a q hat ha h1 h2 hd hr (by omega);rw[AgG];refine⟨n,by omega,by omega,λe=>?_,λe=>CN (g.n e) _⟩;rw[g.y e,Do]
theorem LA.o{t:Tr}{b:Bool}(h:LA vars ps ts t b)(hl:1<=(Fa b (AG t)).length):LO vars ps ts t b:=by
 intro f i d a q hat ha h1 h2 h3 hd hr hf;obtain⟨n,rfl⟩:∃ n,f=n+1:=⟨f-1,by omega⟩;obtain⟨g,g1,g2,g3,g4⟩:=h n i d a q hat ha h1 h2 hd hr (by omega);have hat2:E8 ts (i+(Fa b (AG t)).length) (a::q):=Ds hat;obtain⟨g,rfl⟩:∃ n,g=n+1:=⟨g-1,by omega⟩;rw[Ano];refine⟨n,by omega,by omega,λe=>?_,λe=>CN (g4 e) _⟩;rw[g3 e,PK,Bc hat2 h3];exact Do _ _ _
theorem LO.p{t:Tr}(h:LO vars ps ts t Θ):LP vars ps ts t:=by
 intro f i d a q hat ha hd hr hf;have hs:StopP a:=by rcases ha with rfl|rfl<;>(unfold StopP;decide)
 have n1:a.2≠[85]/\a.2≠[82]/\a.2≠[38]/\a.2≠[124]/\a.2≠[45,62]:=by rcases ha with rfl|rfl<;>decide
 obtain⟨n,rfl⟩:∃ n,f=n+1:=⟨f-1,by omega⟩;have hf:8*(AG t).length+4<=n+1:=hf;obtain⟨g,g1,g2,g3,g4⟩:=h n i d a q hat hs n1.1 n1.2.1 n1.2.2.1 hd hr (by
  show 8*(AG t).length+3<=n
  omega)
 have hat2:E8 ts (i+(AG t).length) (a::q):=Ds hat;obtain⟨g,rfl⟩:∃ n,g=n+1:=⟨g-1,by omega⟩;rw[UJ];refine⟨λe=>?_,λe=>CN (g4 e) _⟩;have g3:=g3 e;rw[show (Fa Θ (AG t))=AG t from rfl,UI,Bc hat2 n1.2.2.2.1]at g3;rw[g3];simp only[Awx,if_false];rw[Do,Bc hat2 n1.2.2.2.2];rfl
theorem MF(s:List KT):(Fa U s).length=s.length+2:=by
 unfold Fa;rw[Ac rfl];simp
theorem Aka{i:Nat}{a:KT}{q:List KT}(h:E8 ts i (a::q))(hn:∀ s∈Yl,a.2≠s):C9 ts i=Δ/\isT ts i [40]=Θ/\isT ts i [64]=Θ/\isT ts i [116,114,117,101]=Θ/\isT ts i [102,97,108,115,101]=Θ:=by
 refine⟨?_,Bc h (hn _ (by decide)),Bc h (hn _ (by decide)),Bc h (hn _ (by decide)),Bc h (hn _ (by decide))⟩;unfold C9;rw[Bc h (hn _ (by decide)),Bc h (hn _ (by decide)),Bc h (hn _ (by decide)),Bc h (hn _ (by decide))];rfl
theorem LP.br{t:Tr}(h:LP vars ps ts t):LU vars ps ts t U:=by
 intro f i d a q hat ha hd hr hf;rw[MF]at hf ⊢;obtain⟨n,rfl⟩:∃ n,f=n+1:=⟨f-1,by omega⟩;have hat:E8 ts i ((2,[40])::(AG t++(2,[41])::a::q)):=by
  grind [Fa,AG]
 have hd:d+1<=60:=hd;have h2:=(Bi hat).2;have g:=h n (i+1) (d+1) (2,[41]) (a::q) h2 (.inr rfl) hd hr (by omega);have h3:=Ds h2;have hp:C9 ts i=Δ:=by
  unfold C9;rw[Bc hat (by decide),Bc hat (by decide),Bc hat (by decide),Bc hat (by decide)];rfl
 rw[QL,hp,Ab (λe=>by have:=e.2;omega)];simp only;rw[Du hat,Ac rfl];refine⟨λe=>?_,λe=>CN (g.n e) _⟩;rw[g.y e,Do,Du h3,Ac rfl];rw[show i+1+(AG t).length+1=i+((AG t).length+2) by omega]
theorem AcY{i:Nat}{p q:ByteArray}{a:KT}{r:List KT}(hp:Ce p.data.toList=U)(hq:Ce q.data.toList=U)(h:E8 ts i ((1,p.data.toList)::(2,[46])::(1,q.data.toList)::a::r)) :
  ResK (R4 ps p q) (C8 ts ps i) (i+3) (.mk 6 [] [] 0 p q []):=by
 have h2:=(Bi h).2;have h3:=(Bi h2).2;have n1:isN ts i=U:=by
  unfold isN;rw[(Bi h).1.1,(Bi h).1.2,hp];rfl
 have n3:isN ts (i+2)=U:=by
  unfold isN;rw[(Bi h3).1.1,(Bi h3).1.2,hq];rfl
 have b1:Ju ts i=p:=by
  unfold Ju;rw[(Bi h).1.2];exact KJ p
 have b3:Ju ts (i+2)=q:=by
  unfold Ju;rw[(Bi h3).1.2];exact KJ q
 unfold C8 R4;rw[n1,b1,b3,Ab (by simp)]
 cases JU ps p with
 |none=>exact⟨λe=>(by simp at e),λ_=>rfl⟩
 |some x=>
  simp only;rw[Du h2,n3,Ab (by simp),Ab (by simp)]
  by_cases hm:q∈x.locs
  .rw[Ab (λe=>e hm),AW hm]
   exact⟨λ_=>rfl,λe=>by cases e⟩
  .rw[Ac hm,Be hm]
   exact⟨λe=>(by cases e),λ_=>rfl⟩
theorem AgL{k:Int}(hk:DQ k=1){i:Nat}{q:List KT}(h:E8 ts i (M3 k::q)):C9 ts i=V k:=by
 unfold C9;rcases BB k with⟨e,_⟩|⟨_,rfl|rfl|rfl|rfl⟩|⟨e,_⟩|e
 .omega
 .have h:E8 ts i ((2,[33])::q):=h
  rw[Du h,Ac rfl]
 .have h:E8 ts i ((4,[88])::q):=h
  rw[Bc h (by decide),MX h];rfl
 .have h:E8 ts i ((4,[71])::q):=h
  rw[Bc h (by decide),Bc h (by decide),MX h];rfl
 .have h:E8 ts i ((4,[70])::q):=h
  rw[Bc h (by decide),Bc h (by decide),Bc h (by decide),MX h];rfl
 .omega
 .omega
structure Lev (ts:List Tk) (t:Tr):Prop where
 u:Bl t.kind=5->LU vars ps ts t Θ
 b:4<=Bl t.kind->LBj vars ps ts t Θ
 a:3<=Bl t.kind->LA vars ps ts t Θ
 o:2<=Bl t.kind->LO vars ps ts t Θ
 p:LP vars ps ts t
theorem Fq(k:Int):Bl k=1\/Bl k=2\/Bl k=3\/Bl k=4\/Bl k=5:=by
 grind [Bl]
theorem Lev.ub{t:Tr}(h:Lev vars ps ts t){b:Bool}(hb:b=U\/Bl t.kind=5):LU vars ps ts t b:=by
 cases b with
 |true=>exact h.p.br
 |false=>exact h.u (hb.resolve_left (by simp))
theorem Lev.bb{t:Tr}(h:Lev vars ps ts t){b:Bool}(hb:b=U\/4<=Bl t.kind):LBj vars ps ts t b:=by
 cases b with
 |true=>exact h.p.br.b
 |false=>exact h.b (hb.resolve_left (by simp))
theorem Lev.ab{t:Tr}(h:Lev vars ps ts t){b:Bool}(hb:b=U\/3<=Bl t.kind):LA vars ps ts t b:=by
 cases b with
 |true=>exact h.p.br.b.a _ _ (by rw[MF];omega)
 |false=>exact h.a (hb.resolve_left (by simp))
theorem Lev.ob{t:Tr}(h:Lev vars ps ts t){b:Bool}(hb:b=U\/2<=Bl t.kind):LO vars ps ts t b:=by
 cases b with
 |true=>exact(h.p.br.b.a _ _ (by rw[MF];omega)).o _ _ (by rw[MF];omega)
 |false=>exact h.o (hb.resolve_left (by simp))
theorem Agx{p:Int}(hp:DQ p=1)(k:Int):Bx p 0 k=U\/Bl k=5:=by
 have:=Fq k;unfold Bx;rw[Ac hp,decide_eq_true_eq];omega
theorem IW{p:Int}(hp:DQ p=2)(i:Nat)(k:Int):Bx p i k=U\/(Bl p<Bl k\/Bl p=Bl k/\¬((Bl p=1\/Bl p=4) ↔ i=0)):=by
 grind [absurd,Bx,Bl]
theorem Agw:∀(n:Nat) (t:Tr) (d0:Nat),SizeOf.sizeOf t<n->AR t d0=U->Lev vars ps ts t:=by
 intro n
 induction n with
 |zero=>intro t d0 h;omega
 |succ n ih=>
  intro t d0 hn hr0;have hp:=Ac7 _ t d0 (Awz _) hr0;have l5:Bl t.kind=5->LU vars ps ts t Θ:=by
   intro h5 f i d a q hat ha hd hr hf;have hr:AR t d=U:=hr;have hd:d<=60:=hd;have hat:E8 ts i (AG t++a::q):=hat;have hf:8*(AG t).length<=f:=hf
   show ResK (Ha vars ps t) (Ca ts vars U ps f .un i d) (i+(AG t).length) t
   obtain⟨m,rfl⟩:∃ m,f=m+1:=⟨f-1,by omega⟩
   cases C3 hr with
   |tt=>
    have e:AG (.mk 0 [] [] 0 (Ai []) (Ai []) [])=[(1,[116,114,117,101])]:=by rw[AG,FG];rfl
    rw[e]at hat ⊢;have hat:E8 ts i ((1,[116,114,117,101])::a::q):=hat;have e2:isT ts i [116,114,117,101]=U:=by rw[N5 hat];rfl
    have hp:C9 ts i=Δ:=by
     unfold C9;rw[Bc hat (by decide),Bc hat (by decide),Bc hat (by decide),Bc hat (by decide)];rfl
    rw[QL,hp,Bc hat (s:=[40]) (by decide),Ab (by simp)];simp only;rw[Ab (by simp),Bc hat (s:=[64]) (by decide),Ab (by simp),e2,Ac rfl,Ha,Ab (by decide),Ab (by decide),Ph];exact⟨λ_=>rfl,λe=>by cases e⟩
   |ff=>
    have e:AG (.mk 1 [] [] 0 (Ai []) (Ai []) [])=[(1,[102,97,108,115,101])]:=by rw[AG,FG];rfl
    rw[e]at hat ⊢;have hat:E8 ts i ((1,[102,97,108,115,101])::a::q):=hat;have e2:isT ts i [102,97,108,115,101]=U:=by rw[N5 hat];rfl
    have hp:C9 ts i=Δ:=by
     unfold C9;rw[Bc hat (by decide),Bc hat (by decide),Bc hat (by decide),Bc hat (by decide)];rfl
    rw[QL,hp,Bc hat (s:=[40]) (by decide),Ab (by simp)];simp only;rw[Ab (by simp),Bc hat (s:=[64]) (by decide),Ab (by simp),Bc hat (s:=[116,114,117,101]) (by decide),Ab (by simp),e2,Ac rfl,Ha,Ab (by decide),Ab (by decide),Ph];exact⟨λ_=>rfl,λe=>by cases e⟩
   |@cmp _ l r op hl hs h1 h2=>
    have e:AG (.mk 2 l r op (Ai []) (Ai []) [])=Df 0 l++[(2,E2.getD op.toNat [])]++Df 0 r:=by rw[AG,FG];rfl
    rw[e]at hat ⊢;obtain⟨b,p,e2,k⟩:=Aiq hl;have hat':=hat;rw[e2]at hat';obtain⟨k1,k2,k3,k4,k5⟩:=Aka hat' k;rw[QL,k1,k2,Ab (by simp)];simp only;rw[Ab (by simp),k3,Ab (by simp),k4,Ab (by simp),k5,Ab (by simp),Ha,Ac rfl];exact Ajs vars hl hs h1 h2 hat ha.ne
   |@«at» _ p r hnp hnq=>
    have e:AG (.mk 6 [] [] 0 p r [])=[(2,[64]),(1,p.data.toList),(2,[46]),(1,r.data.toList)]:=by rw[AG,FG];rfl
    rw[e]at hat ⊢;have hat:E8 ts i ((2,[64])::(1,p.data.toList)::(2,[46])::(1,r.data.toList)::a::q):=hat;have hp2:C9 ts i=Δ:=by
     unfold C9;rw[Bc hat (by decide),Bc hat (by decide),Bc hat (by decide),Bc hat (by decide)];rfl
    rw[QL,hp2,Bc hat (s:=[40]) (by decide),Ab (by simp)];simp only;rw[Ab (by simp),Du hat,Ac rfl,Ha,Ab (by decide),Ac rfl];have g:=AcY ps hnp hnq (Bi hat).2;rw[show i+1+3=i+[((2,[64]):KT),(1,p.data.toList),(2,[46]),(1,r.data.toList)].length from by show _=i+4;omega]at g;exact g
   |@one _ k x hk hd2 hx=>
    rw[N9]at hat hf ⊢;rw[π]at hf ⊢;have L:=ih x _ (by simp only[Tr.mk.sizeOf_spec,List.cons.sizeOf_spec]at hn;omega) hx;have p1:=L.ub vars ps (Agx hk x.kind);have hat2:E8 ts (i+1) (Fa (Bx k 0 x.kind) (AG x)++a::q):=(Bi hat).2;have hd60:d≠60:=by
     grind [Bx,E0]
    have g:=p1 m (i+1) (d+1) a q hat2 ha hd2 hx (by omega);rw[QL,AgL hk hat,Ab (λe=>hd60 e.2),UE vars ps hk];simp only;refine⟨λe=>?_,λe=>CN (g.n e) _⟩;rw[g.y e,Do];rw[show i+1+(Fa (Bx k 0 x.kind) (AG x)).length=i+((Fa (Bx k 0 x.kind) (AG x)).length+1) by omega];rfl
   |@two _ k x y hk hd2 hx gd hy=>
    exfalso
    have h5:Bl k=5:=h5;rcases BB k with⟨e,_⟩|⟨e,_⟩|⟨_,rfl|rfl|rfl|rfl|rfl⟩|e
    .omega
    .omega
    .exact absurd h5 (by decide)
    .exact absurd h5 (by decide)
    .exact absurd h5 (by decide)
    .exact absurd h5 (by decide)
    .exact absurd h5 (by decide)
    .omega
  have l4:4<=Bl t.kind->LBj vars ps ts t Θ:=by
   intro h4
   by_cases h5:Bl t.kind=5
   .exact(l5 h5).b
   have h4:Bl t.kind=4:=by have:=Fq t.kind;omega
   intro f i d a q hat ha n1 n2 hd hr hf;have hr:AR t d=U:=hr;have hd:d<=60:=hd;have hat:E8 ts i (AG t++a::q):=hat;have hf:8*(AG t).length+1<=f:=hf
   show ResK (Ha vars ps t) (Ca ts vars U ps f .bin i d) (i+(AG t).length) t
   obtain⟨m,rfl⟩:∃ m,f=m+1:=⟨f-1,by omega⟩
   cases C3 hr with
   |tt=>exact absurd h4 (by decide)
   |ff=>exact absurd h4 (by decide)
   |cmp=>exact absurd (show Bl 2=4 from h4) (by decide)
   |«at»=>exact absurd (show Bl 6=4 from h4) (by decide)
   |@one _ k x hk hd2 hx=>
    exfalso
    have h4:Bl k=4:=h4;rcases BB k with⟨e,_⟩|⟨_,rfl|rfl|rfl|rfl⟩|⟨e,_⟩|e
    .omega
    .exact absurd h4 (by decide)
    .exact absurd h4 (by decide)
    .exact absurd h4 (by decide)
    .exact absurd h4 (by decide)
    .omega
    .omega
   |@two _ k x y hk hd2 hx gd hy=>
    have h4:Bl k=4:=h4;have hk2:k=11\/k=12:=by
     rcases BB k with⟨e,_⟩|⟨e,_⟩|⟨_,rfl|rfl|rfl|rfl|rfl⟩|e
     .omega
     .omega
     .exact absurd h4 (by decide)
     .exact absurd h4 (by decide)
     .exact absurd h4 (by decide)
     .exact .inl rfl
     .exact .inr rfl
     .omega
    have Lx:=ih x _ (by simp only[Tr.mk.sizeOf_spec,List.cons.sizeOf_spec]at hn;omega) hx;have Ly:=ih y _ (by simp only[Tr.mk.sizeOf_spec,List.cons.sizeOf_spec]at hn;omega) hy;have px:=Lx.ub vars ps (b:=Bx k 0 x.kind) (by
     have:=Fq x.kind;rcases IW hk 0 x.kind with h|h|⟨_,h⟩
     .exact .inl h
     .exact .inr (by omega)
     .exact absurd (by simp[h4]) h)
    have py:=Ly.bb vars ps (b:=Bx k 1 y.kind) (by
     rcases IW hk 1 y.kind with h|h|⟨h,_⟩
     .exact .inl h
     .exact .inr (by omega)
     .exact .inr (by omega))
    rw[DJ,Awr,AwI]at hat;rw[DJ,ζ,π]at hf ⊢;have gx:=px m i d (M3 k) _ hat (M4 hk) hd2 hx (by omega);have hat2:=Ds hat;have hat3:=(Bi hat2).2;have gy:=py m _ d a q hat3 ha n1 n2 gd hy (by omega);rw[Zr,Fs vars ps hk]
    cases e1:Ha vars ps x with
    |false=>exact⟨λe=>(by cases e),λ_=>CN (gx.n e1) _⟩
    |true=>
     rw[AwD,gx.y e1,Do];rw[show i+(Fa (Bx k 0 x.kind) (AG x)).length+1+(Fa (Bx k 1 y.kind) (AG y)).length=i+((Fa (Bx k 0 x.kind) (AG x)).length+((Fa (Bx k 1 y.kind) (AG y)).length+1)) by omega]at gy;rcases hk2 with rfl|rfl
     .have hat2:E8 ts _ ((4,[85])::_):=hat2
      rw[MX hat2,Ac rfl];exact⟨λe=>(by rw[gy.y e,Do];rfl),λe=>CN (gy.n e) _⟩
     .have hat2:E8 ts _ ((4,[82])::_):=hat2
      rw[Bc hat2 (by decide),MX hat2,Ab (by simp),Ac rfl];exact⟨λe=>(by rw[gy.y e,Do];rfl),λe=>CN (gy.n e) _⟩
  have l3:3<=Bl t.kind->LA vars ps ts t Θ:=by
   intro h3
   by_cases h4:4<=Bl t.kind
   .exact(l4 h4).a _ _ hp
   have h3:Bl t.kind=3:=by omega
   intro f i d a q hat ha n1 n2 hd hr hf;have hr:AR t d=U:=hr;have hat:E8 ts i (AG t++a::q):=hat;have hf:8*(AG t).length+2<=f:=hf
   show ∃ g,f<=g+8*(AG t).length/\1<=g/\(Ha vars ps t=U->Ca ts vars U ps f .and i d=Ca ts vars U ps g (.andL t) (i+(AG t).length) d)/\(Ha vars ps t=Θ->(Ca ts vars U ps f .and i d).2.1=110)
   cases C3 hr with
   |tt=>exact absurd h3 (by decide)
   |ff=>exact absurd h3 (by decide)
   |cmp=>exact absurd (show Bl 2=3 from h3) (by decide)
   |«at»=>exact absurd (show Bl 6=3 from h3) (by decide)
   |@one _ k x hk hd2 hx=>
    exfalso
    have h3:Bl k=3:=h3;rcases BB k with⟨e,_⟩|⟨_,rfl|rfl|rfl|rfl⟩|⟨e,_⟩|e
    .omega
    .exact absurd h3 (by decide)
    .exact absurd h3 (by decide)
    .exact absurd h3 (by decide)
    .exact absurd h3 (by decide)
    .omega
    .omega
   |@two _ k x y hk hd2 hx gd hy=>
    have h3:Bl k=3:=h3;obtain rfl:k=4:=by
     rcases BB k with⟨e,_⟩|⟨e,_⟩|⟨_,rfl|rfl|rfl|rfl|rfl⟩|e
     .omega
     .omega
     .rfl
     .exact absurd h3 (by decide)
     .exact absurd h3 (by decide)
     .exact absurd h3 (by decide)
     .exact absurd h3 (by decide)
     .omega
    have Lx:=ih x _ (by simp only[Tr.mk.sizeOf_spec,List.cons.sizeOf_spec]at hn;omega) hx;have Ly:=ih y _ (by simp only[Tr.mk.sizeOf_spec,List.cons.sizeOf_spec]at hn;omega) hy;have px:=Lx.ab vars ps (b:=Bx 4 0 x.kind) (by
     rcases IW hk 0 x.kind with h|h|⟨h,_⟩
     .exact .inl h
     .exact .inr (by omega)
     .exact .inr (by omega))
    have py:=Ly.bb vars ps (b:=Bx 4 1 y.kind) (by
     rcases IW hk 1 y.kind with h|h|⟨_,h⟩
     .exact .inl h
     .exact .inr (by omega)
     .exact absurd (by simp[h3]) h)
    rw[DJ,Awr,AwI]at hat;rw[DJ,ζ,π]at hf ⊢;obtain⟨g,g1,g2,g3,g4⟩:=px f i d (2,[38]) _ hat (M4 hk) (by decide) (by decide) hd2 hx (by omega);have hat2:E8 ts _ ((2,[38])::_):=Ds hat;have hat3:=(Bi hat2).2;obtain⟨g,rfl⟩:∃ n,g=n+1:=⟨g-1,by omega⟩;have gy:=py g _ d a q hat3 ha n1 n2 gd hy (by omega);rw[Fs vars ps hk];refine⟨g,by omega,by omega,?_⟩
    cases e1:Ha vars ps x with
    |false=>exact⟨λe=>(by cases e),λ_=>g4 e1⟩
    |true=>
     rw[AwD,g3 e1,PK,Du hat2,Ac rfl];rw[show i+(Fa (Bx 4 0 x.kind) (AG x)).length+1+(Fa (Bx 4 1 y.kind) (AG y)).length=i+((Fa (Bx 4 0 x.kind) (AG x)).length+((Fa (Bx 4 1 y.kind) (AG y)).length+1)) by omega]at gy;exact⟨λe=>(by rw[gy.y e,Do];rfl),λe=>CN (gy.n e) _⟩
  have l2:2<=Bl t.kind->LO vars ps ts t Θ:=by
   intro h2
   by_cases h3:3<=Bl t.kind
   .exact(l3 h3).o _ _ hp
   have h2:Bl t.kind=2:=by omega
   intro f i d a q hat ha n1 n2 n3 hd hr hf;have hr:AR t d=U:=hr;have hat:E8 ts i (AG t++a::q):=hat;have hf:8*(AG t).length+3<=f:=hf
   show ∃ g,f<=g+8*(AG t).length/\1<=g/\(Ha vars ps t=U->Ca ts vars U ps f .or i d=Ca ts vars U ps g (.orL t) (i+(AG t).length) d)/\(Ha vars ps t=Θ->(Ca ts vars U ps f .or i d).2.1=110)
   cases C3 hr with
   |tt=>exact absurd h2 (by decide)
   |ff=>exact absurd h2 (by decide)
   |cmp=>exact absurd (show Bl 2=2 from h2) (by decide)
   |«at»=>exact absurd (show Bl 6=2 from h2) (by decide)
   |@one _ k x hk hd2 hx=>
    exfalso
    have h2:Bl k=2:=h2;rcases BB k with⟨e,_⟩|⟨_,rfl|rfl|rfl|rfl⟩|⟨e,_⟩|e
    .omega
    .exact absurd h2 (by decide)
    .exact absurd h2 (by decide)
    .exact absurd h2 (by decide)
    .exact absurd h2 (by decide)
    .omega
    .omega
   |@two _ k x y hk hd2 hx gd hy=>
    have h2:Bl k=2:=h2;obtain rfl:k=5:=by
     rcases BB k with⟨e,_⟩|⟨e,_⟩|⟨_,rfl|rfl|rfl|rfl|rfl⟩|e
     .omega
     .omega
     .exact absurd h2 (by decide)
     .rfl
     .exact absurd h2 (by decide)
     .exact absurd h2 (by decide)
     .exact absurd h2 (by decide)
     .omega
    have Lx:=ih x _ (by simp only[Tr.mk.sizeOf_spec,List.cons.sizeOf_spec]at hn;omega) hx;have Ly:=ih y _ (by simp only[Tr.mk.sizeOf_spec,List.cons.sizeOf_spec]at hn;omega) hy;have px:=Lx.ob vars ps (b:=Bx 5 0 x.kind) (by
     rcases IW hk 0 x.kind with h|h|⟨h,_⟩
     .exact .inl h
     .exact .inr (by omega)
     .exact .inr (by omega))
    have py:=Ly.ab vars ps (b:=Bx 5 1 y.kind) (by
     rcases IW hk 1 y.kind with h|h|⟨_,h⟩
     .exact .inl h
     .exact .inr (by omega)
     .exact absurd (by simp[h2]) h)
    rw[DJ,Awr,AwI]at hat;rw[DJ,ζ,π]at hf ⊢;obtain⟨g,g1,g2,g3,g4⟩:=px f i d (2,[124]) _ hat (M4 hk) (by decide) (by decide) (by decide) hd2 hx (by omega);have hat2:E8 ts _ ((2,[124])::_):=Ds hat;have hat3:=(Bi hat2).2;obtain⟨g,rfl⟩:∃ n,g=n+1:=⟨g-1,by omega⟩;obtain⟨g',k1,k2,k3,k4⟩:=py g _ d a q hat3 ha n1 n2 gd hy (by omega);obtain⟨g',rfl⟩:∃ n,g'=n+1:=⟨g'-1,by omega⟩;have hat4:=Ds hat3;rw[Fs vars ps hk];refine⟨g,by omega,by omega,?_⟩
    cases e1:Ha vars ps x with
    |false=>exact⟨λe=>(by cases e),λ_=>g4 e1⟩
    |true=>
     rw[AwD,g3 e1,UI,Du hat2,Ac rfl];refine⟨λe=>?_,λe=>CN (k4 e) _⟩;rw[k3 e,PK,Bc hat4 n3,Ab (by simp),Do];rw[show i+(Fa (Bx 5 0 x.kind) (AG x)).length+1+(Fa (Bx 5 1 y.kind) (AG y)).length=i+((Fa (Bx 5 0 x.kind) (AG x)).length+((Fa (Bx 5 1 y.kind) (AG y)).length+1)) by omega];rfl
  refine⟨l5,l4,l3,l2,?_⟩
  by_cases h2:2<=Bl t.kind
  .exact(l2 h2).p
  have h1:Bl t.kind=1:=by have:=Fq t.kind;omega
  intro f i d a q hat ha hd hr hf;obtain⟨m,rfl⟩:∃ m,f=m+1:=⟨f-1,by omega⟩
  cases C3 hr with
  |tt=>exact absurd h1 (by decide)
  |ff=>exact absurd h1 (by decide)
  |cmp=>exact absurd (show Bl 2=1 from h1) (by decide)
  |«at»=>exact absurd (show Bl 6=1 from h1) (by decide)
  |@one _ k x hk hd2 hx=>
   exfalso
   have h1:Bl k=1:=h1;rcases BB k with⟨e,_⟩|⟨_,rfl|rfl|rfl|rfl⟩|⟨e,_⟩|e
   .omega
   .exact absurd h1 (by decide)
   .exact absurd h1 (by decide)
   .exact absurd h1 (by decide)
   .exact absurd h1 (by decide)
   .omega
   .omega
  |@two _ k x y hk hd2 hx gd hy=>
   have h1:Bl k=1:=h1;obtain rfl:k=7:=by
    rcases BB k with⟨e,_⟩|⟨e,_⟩|⟨_,rfl|rfl|rfl|rfl|rfl⟩|e
    .omega
    .omega
    .exact absurd h1 (by decide)
    .exact absurd h1 (by decide)
    .rfl
    .exact absurd h1 (by decide)
    .exact absurd h1 (by decide)
    .omega
   have Lx:=ih x _ (by simp only[Tr.mk.sizeOf_spec,List.cons.sizeOf_spec]at hn;omega) hx;have Ly:=ih y _ (by simp only[Tr.mk.sizeOf_spec,List.cons.sizeOf_spec]at hn;omega) hy;have px:=Lx.ob vars ps (b:=Bx 7 0 x.kind) (by
    rcases IW hk 0 x.kind with h|h|⟨_,h⟩
    .exact .inl h
    .exact .inr (by omega)
    .exact absurd (by simp[h1]) h)
   have hb1:Bx 7 1 y.kind=Θ:=by
    unfold Bx;rw[Ab (by decide),show Bl 7=1 from rfl];have:=Fq y.kind;split
    .rfl
    .rw[decide_eq_false_iff_not];omega
   rw[DJ,Awr,AwI]at hat;rw[DJ,ζ,π]at hf ⊢;rw[hb1]at hat hf gd hy ⊢;have hat:E8 ts i (Fa (Bx 7 0 x.kind) (AG x)++(2,[45,62])::(AG y++a::q)):=hat;have hf:8*((Fa (Bx 7 0 x.kind) (AG x)).length+((AG y).length+1))+4<=m+1:=hf
   show ResK _ _ (i+((Fa (Bx 7 0 x.kind) (AG x)).length+((AG y).length+1))) _
   obtain⟨g,g1,g2,g3,g4⟩:=px m i d (2,[45,62]) _ hat (M4 hk) (by decide) (by decide) (by decide) hd2 hx (by omega);have hat2:E8 ts _ ((2,[45,62])::_):=Ds hat;have hat3:=(Bi hat2).2;obtain⟨g,rfl⟩:∃ n,g=n+1:=⟨g-1,by omega⟩;have gy:=Ly.p m _ d a q hat3 ha gd hy (by omega);rw[UJ,Fs vars ps hk]
   cases e1:Ha vars ps x with
   |false=>exact⟨λe=>(by cases e),λ_=>CN (g4 e1) _⟩
   |true=>
    rw[AwD,g3 e1,UI,Bc hat2 (by decide),Ab (by simp),Do,Du hat2,Ac rfl];rw[show i+(Fa (Bx 7 0 x.kind) (AG x)).length+1+(AG y).length=i+((Fa (Bx 7 0 x.kind) (AG x)).length+((AG y).length+1)) by omega]at gy;exact⟨λe=>(by rw[gy.y e,Do];rfl),λe=>CN (gy.n e) _⟩
end
theorem RG(vars:List ByteArray):∀(ms:List Mo) (out:Lf),(GN vars ms out).isSome=Es vars ms
 |[],out=>rfl
 |m::r,out=>by
  rw[GN]
  show _=(MY vars m&&Es vars r)
  unfold MY
  by_cases h:m.var=Ai []
  .rw[Ac h,AW h,AzP,AwD,RG vars r]
  .rw[Ab h,Be h,Ayd]
   have hm:=Mh vars m.var
   cases e:vars.findIdx? (m.var = ·) with
   |none=>
    rw[e]at hm;rw[←hm];rfl
   |some v=>
    rw[e]at hm;rw[←hm,show decide (0<=Dj (V v))=U from AW (by show (0:Int)<=(v:Int);omega),AwD];exact RG vars r _
theorem XS(vars:List ByteArray){ms:List Mo}(h:IG ms=U):(FT vars ms).2=Es vars ms:=by
 unfold FT;rw[Ac h,←RG vars ms PX]
 cases GN vars ms PX<;>rfl
theorem AfI(vars:List ByteArray){l r:List Mo}{op:Int}(hl:IG l=U)(hr:IG r=U)(h1:0<=op)(h2:op<=5):(G7 vars (.mk 2 l r op (Ai []) (Ai []) [])).2=(Es vars l&&Es vars r):=by
 have hb:BI (.mk 2 l r op (Ai []) (Ai []) []) 0=U:=by
  rw[BI,Ac rfl,Hp,hl,hr,AW h1,AW h2];simp
 have hf:(Dz vars (.mk 2 l r op (Ai []) (Ai []) [])).2=(Es vars l&&Es vars r):=by
  rw[Dz,Ac rfl]
  show ((FT vars l).2&&(FT vars r).2)=_
  rw[XS vars hl,XS vars hr]
 unfold G7;rw[hb,hf,AwD]
 cases (Es vars l&&Es vars r)<;>rfl
theorem Ado(y:Sy)(p q:ByteArray):(Fj y p q).2=R4 y.ps p q:=by
 have h:=N6 p y.ps;unfold Fj R4
 cases e:(y.ps.map (·.name)).findIdx? (p = ·) with
 |none=>
  rw[e]at h;simp only at h;rw[h]
 |some i=>
  rw[e]at h;obtain⟨x,h1,_,h3⟩:=h;rw[h3]
  show decide (0<=Dj (((y.ps[i]?.map (·.locs)).getD []).findIdx? (q = ·)))=decide (q∈x.locs)
  rw[h1];exact Mh x.locs q
theorem AkQ(y:Sy):∀(n:Nat) (t:Tr) (d:Nat),SizeOf.sizeOf t<n->AR t d=U->∀ ps:List Pp,(CZ y t ps).1.isSome=Ha y.vars y.ps t:=by
 intro n
 induction n with
 |zero=>intro t d h;omega
 |succ n ih=>
  intro t d hn hr ps
  cases C3 hr with
  |tt=>
   rw[Fu,Ab (by decide),Ha,Ab (by decide),Ab (by decide),CK,Ph];rfl
  |ff=>
   rw[Fu,Ab (by decide),Ha,Ab (by decide),Ab (by decide),CK,Ph];rfl
  |@cmp _ l r op hl hs h1 h2=>
   have hf:=AfI y.vars hl hs h1 h2;have ha:(Dd y (.mk 2 l r op (Ai []) (Ai []) [])).2=(Es y.vars l&&Es y.vars r):=by
    grind [Dd,decide]
   rw[Fu,Ac (.inl rfl),ha,Ha,Ac rfl]
   cases (Es y.vars l&&Es y.vars r)<;>rfl
  |@«at» _ p q hnp hnq=>
   have ha:(Dd y (.mk 6 [] [] 0 p q [])).2=R4 y.ps p q:=by
    rw[Dd,Ac rfl];exact Ado y p q
   have hk:Ha y.vars y.ps (.mk 6 [] [] 0 p q [])=R4 y.ps p q:=by rw[Ha,Ab (by decide),Ac rfl]
   rw[hk,Fu,Ac (.inr rfl),ha]
   cases R4 y.ps p q<;>rfl
  |@one _ k x hk hd2 hx=>
   have hc:=BB k;have g:=ih x _ (by simp only[Tr.mk.sizeOf_spec,List.cons.sizeOf_spec]at hn;omega) hx ps;rw[Fu,Ab (by omega),UE _ _ hk,Fl,←g]
   cases (CZ y x ps).1 with
   |none=>rfl
   |some f=>
    show Azl (((CK y [] (CZ y x ps).2).1.map (f::·)).map (Rf.mk k 0))=_
    rw[CK];rfl
  |@two _ k x z hk hd2 hx gd hz=>
   have hc:=BB k;have g1:=ih x _ (by simp only[Tr.mk.sizeOf_spec,List.cons.sizeOf_spec]at hn;omega) hx ps;have g2:=ih z _ (by simp only[Tr.mk.sizeOf_spec,List.cons.sizeOf_spec]at hn;omega) hz (CZ y x ps).2;rw[Fu,Ab (by omega),Fs _ _ hk,Fl,←g1,←g2]
   cases (CZ y x ps).1 with
   |none=>rfl
   |some f=>
    show Azl (((CK y [z] (CZ y x ps).2).1.map (f::·)).map (Rf.mk k 0))=_
    rw[Fl]
    cases (CZ y z (CZ y x ps).2).1 with
    |none=>rfl
    |some f2=>
     show Azl ((((CK y [] (CZ y z (CZ y x ps).2).2).1.map (f2::·)).map (f::·)).map (Rf.mk k 0))=_
     rw[CK];rfl
theorem AkU(y:Sy){t:Tr}(h:AR t 0=U):(Rm y t).isSome=Ha y.vars y.ps t:=by
 unfold Rm;rw[Ac h,←AkQ y _ t 0 (Awz _) h []]
 cases (CZ y t []).1<;>rfl


theorem U2(x:Nat)(h:x<18446744073709551616):Ak.quo .u64 (x:Int) 4294967296=((x / 4294967296:Nat):Int):=by
 show IntKind.u64.wrap ((x:Int).tdiv 4294967296)=_
 have:(x:Int).tdiv 4294967296=((x / 4294967296:Nat):Int):=rfl;rw[this,IntKind.wrap_u64];omega
theorem U3(x:Nat):Ak.rem .u64 (x:Int) 4294967296=((x % 4294967296:Nat):Int):=by
 show (x:Int).tmod 4294967296=_
 rfl
theorem AdT(l:Aj)(n:Nat):(Av eL l).take n=Av eL (l.take n):=by rw[I7,I7,List.map_take]
theorem Ys(l:Aj)(n:Nat)(h:n<=l.length):By n 1 ((Av eL l).take (n*1))=(l.take n).map eL:=by
 rw[Nat.mul_one,AdT];have:=DG A2 (l.take n)
 rwa [List.length_take,Nat.min_eq_left h]at this
theorem NX(l:Aj)(i:Nat):(l.drop i).headD 0=l.getD i 0:=by
 rw[AwK]
 by_cases h:i<l.length
 .rw[χ h,Ψ h];rfl
 .rw[υ (by omega),Axj (by omega)];rfl
theorem PH{l:Aj}(h:Limbs l)(i:Nat):l.getD i 0<4294967296:=by
 rw[←NX];exact Gy (h.drop i)
def E3(n:Nat)(l:Aj):Aj:=l++Ayx (n-l.length) 0
theorem Alo(n:Nat):Am (Ayx n 0)=0:=by
 induction n with
 |zero=>rfl
 |succ n ih=>rw[List.replicate_succ,Am,ih]
theorem IC(n:Nat)(l:Aj):Am (E3 n l)=Am l:=by
 unfold E3;rw[GP,Alo];omega
theorem EP{n:Nat}{l:Aj}(h:l.length<=n):(E3 n l).length=n:=by
 unfold E3;rw[ζ,List.length_replicate];omega
theorem Fi{n:Nat}{l:Aj}(h:Limbs l):Limbs (E3 n l):=SV h λx hx=>by
 rw[(List.mem_replicate.1 hx).2];omega
theorem Nc{n i:Nat}{l:Aj}(h:l.length<=n)(hi:i<n):(E3 n l)[i]'(by rw[EP h];exact hi)=l.getD i 0:=by
 rw[AwK];unfold E3
 by_cases h2:i<l.length
 .rw[List.getElem_append_left h2,Ψ h2];rfl
 .rw[List.getElem_append_right (by omega),List.getElem_replicate,Axj (by omega)];rfl
section
variable {D:Orc} (K:Knows Ah TE D)
include K
theorem Ah1(l:Aj)(hl:Db l):∀(k i:Nat) (out:Aj),l.length-i=k->out.length+k<=2000000000->D.ask (.lp 177 0) [eN l,.sl 0 0 out.length 1,iv (i:Int)] [θ (Av eL out) U U]
  = V (.tup [iv 0,.sl 1 0 (out++l.drop i).length 1],[.del,.set (θ (Av eL (out++l.drop i)) U U)]):=by
 intro k;unfold Db at hl
 induction k with
 |zero=>
  intro i out hi ho;refine Ax K OI (Ae4 ..) ?_;rw[Al,show l.drop i=[] from υ (by omega),AwV];refine Ap ?_;rfl
 |succ k ih=>
  intro i out hi ho;have hlt:i<l.length:=by omega
  have ih':=ih (i+1) (out++[l[i]]) (by omega) (by simp;omega);rw[Awr,ζ,Aw5]at ih';refine Ax K OI (Ae4 ..) ?_;rw[Al,χ hlt];refine Au ?_;rw[AD,AA (Ψ hlt)];have hf:Bh (out.length+1) 4=U:=AL (by omega) (by omega);have hb1:Aww (0+out.length*1) (Av eL out).length=U:=AJ A2 out (by omega);have e3:∀ s:Nat,Awv 0 (Aws (0+out.length*1) (Av eL out))++[.v (.int .u32 (s:Int))]=Av eL (out++[s]):=λs=>by
   rw[κ,A9 A2 out (by omega)];exact A8 eL out s
  simp only[eL,IM,Ae];rw[Bv (by omega),hf,hb1,e3];refine Af ?_;refine Af ?_;refine Aa ih' ?_;rfl
theorem Ah2(l:Aj)(hl:Db l):∀(n:Nat),n<=l.length->DU l<=n->D.ask (.lp 177 1) [.sl 0 0 n 1] [θ (Av eL l) U U]=V (.tup [iv 2,.sl 1 0 (DU l) 1],[.del,.set (θ (Av eL l) U U)]):=by
 intro n;unfold Db at hl
 induction n with
 |zero=>
  intro _ ht;refine Ax K OI (Ae5 ..) ?_;refine Ap ?_;rw[show DU l=0 by omega]
 |succ n ih=>
  intro hn ht;refine Ax K OI (Ae5 ..) ?_;refine Au ?_;rw[show Ak.sub .i64 ((n+1:Nat):Int) 1=(n:Int) from (As5 (i:=n+1) (j:=1) (by omega) (by omega)).trans (by simp)];rw[AD,Cr (Awz n)];refine Af ?_;refine(AhL l n (by omega) _).trans ?_;simp only[IM,Ae]
  by_cases h0:l[n]=0
  .refine Aw ?_ (by rw[h0];rfl)
   rw[AD,show Lr 0 n (n+1)=U by unfold Lr;rw[show Aww 0 n=U by simp];simp];refine Af ?_;refine Aa (ih (by omega) (TI ht (by rw[Ψ (show n<l.length by omega),h0]))) ?_;rfl
  .refine As ?_
   have:=Vn (Ψ (show n<l.length by omega)) h0;rw[show DU l=n+1 by omega]
theorem GH{l:Aj}(hl:Db l)(h:Limbs l):D.ask (.fn 177) [eN l] []=V (eN (AY (Am l)),[]):=by
 have hs:=hl;unfold Db at hs;refine Ao K OI (Auf ..) ?_;have g:=Ah1 K l hl l.length 0 [] rfl (by simp;omega);rw[AwC,κ]at g;refine Aa g ?_;simp only[Ae];refine Aa (Ah2 K l hl l.length (ω _) (EY l)) ?_;simp only[Ae];have ht:=EY l;rw[show Aww (0+DU l*1) (Av eL l).length=U by rw[BK A2];simp;omega];refine Af ?_;rw[Ys l _ ht,Nw h];rfl
theorem Ik(a b:Aj):D.ask (.fn 226) [eN a,eN b] []=V (iv ((max a.length b.length:Nat):Int),[]):=by
 refine Ao K AmS (AuF ..) ?_;rw[Al,Al]
 by_cases h:b.length<a.length
 .refine Au ?_
  rw[show max a.length b.length=a.length by omega]
 .refine Ap ?_
  rw[show max a.length b.length=b.length by omega]
theorem I3{a:Aj}(ha:Limbs a)(i:Nat):D.ask (.fn 227) [eN a,iv (i:Int)] []=V (.v (.int .u64 (a.getD i 0:Int)),[]):=by
 refine Ao K AmT (AuG ..) ?_;rw[Al,AwK];refine Ap ?_
 by_cases h:i<a.length
 .refine Cm ?_
  have hx:=ha.get h;rw[AD,AA (Ψ h),Ψ h];simp only[eL,IM,Ae];rw[Ck (by omega)];rfl
 .refine Cg ?_
  rw[Axj (by omega)];rfl
theorem AkH{a b:Aj}(ha:Limbs a)(hb:Limbs b)(m:Nat)(hma:a.length<=m)(hmb:b.length<=m)(hm:m<=1000000000):∀(n:Nat),n<=m->D.ask (.lp 229 0) [eN a,eN b,iv ((n:Int)-1)] []
  = V (if Ep (Am ((E3 m a).take n)) (Am ((E3 m b).take n))=0 then .tup [iv 0] else .tup [bv U,iv (Ep (Am ((E3 m a).take n)) (Am ((E3 m b).take n)))],[]):=by
 intro n
 induction n with
 |zero=>
  intro _;refine Ax K Wp (Afi ..) ?_;refine Cm ?_;rfl
 |succ n ih=>
  intro hn;refine Ax K Wp (Afi ..) ?_;rw[show (((n+1:Nat):Int)-1)=(n:Int) by omega];refine Cg ?_;have h1:n<(E3 m a).length:=by rw[EP hma];omega
  have h2:n<(E3 m b).length:=by rw[EP hmb];omega
  have e1:(E3 m a).take (n+1)=(E3 m a).take n++[a.getD n 0]:=by rw[Axt h1,Nc hma (by omega)]
  have e2:(E3 m b).take (n+1)=(E3 m b).take n++[b.getD n 0]:=by rw[Axt h2,Nc hmb (by omega)]
  rw[e1,e2,VN ((Fi ha).take n) ((Fi hb).take n) (by simp;omega)];refine Aa (I3 K ha n) ?_;simp only[Vq,Ae];refine Aa (I3 K hb n) ?_;simp only[Vq,Ae]
  by_cases h3:a.getD n 0<b.getD n 0
  .refine Au ?_
   rw[Ac h3];rfl
  .refine Ap ?_
   rw[Ab h3];refine Aa (I3 K ha n) ?_;simp only[Vq,Ae];refine Aa (I3 K hb n) ?_;simp only[Vq,Ae]
   by_cases h4:b.getD n 0<a.getD n 0
   .refine Au ?_
    rw[Ac h4];rfl
   .refine Ap ?_
    rw[Ab h4];rw[show Ak.sub .i64 (n:Int) 1=(n:Int)-1 from Ip (by omega) (by omega)];refine Aa (ih (by omega)) ?_
    by_cases h5:Ep (Am ((E3 m a).take n)) (Am ((E3 m b).take n))=0
    .rw[Ac h5];rfl
    .rw[Ab h5];rfl
theorem AkI{a b:Aj}(hsa:Db a)(ha:Limbs a)(hsb:Db b)(hb:Limbs b):D.ask (.fn 229) [eN a,eN b] []=V (iv (Ep (Am a) (Am b)),[]):=by
 unfold Db at hsa hsb;refine Ao K Wp (AuI ..) ?_;refine Aa (Ik K a b) ?_;simp only[Ae];rw[show Ak.sub .i64 ((max a.length b.length:Nat):Int) 1=((max a.length b.length:Nat):Int)-1 from Ip (by omega) (by omega)];have g:=AkH K ha hb (max a.length b.length) (by omega) (by omega) (by omega) (max a.length b.length) (ω _);rw[Axy (by rw[EP (by omega)];omega),Axy (by rw[EP (by omega)];omega),IC,IC]at g;refine Aa g ?_
 by_cases h5:Ep (Am a) (Am b)=0
 .rw[Ac h5,h5];rfl
 .rw[Ab h5];rfl
theorem AkG{a b:Aj}(ha:Limbs a)(hb:Limbs b)(hm:max a.length b.length<=1000000000):∀(k i:Nat) (out:Aj) (c:Nat),max a.length b.length+1-i=k->c<=1->out.length+k<=2000000000->
  D.ask (.lp 181 0) [eN a,eN b,.sl 0 0 out.length 1,.v (.int .u64 (c:Int)),iv (i:Int)] [θ (Av eL out) U U]
   = V (.tup [iv 0,.sl 1 0 (out++O9 k c (a.drop i) (b.drop i)).length 1],[.del,.set (θ (Av eL (out++O9 k c (a.drop i) (b.drop i))) U U)]):=by
 intro k
 induction k with
 |zero=>
  intro i out c hi hc ho;refine Ax K Wi (Ae7 ..) ?_;refine Aa (Ik K a b) ?_;simp only[Ae];refine Cm ?_;rw[O9,AwV]
 |succ k ih=>
  intro i out c hi hc ho;have h1:=PH ha i;have h2:=PH hb i;have ih':=ih (i+1) (out++[(a.getD i 0+b.getD i 0+c) % 4294967296]) ((a.getD i 0+b.getD i 0+c) / 4294967296) (by omega) (by omega) (by simp;omega);rw[Awr,ζ,Aw5]at ih';refine Ax K Wi (Ae7 ..) ?_;refine Aa (Ik K a b) ?_;simp only[Ae];refine Cg ?_;refine Aa (I3 K ha i) ?_;simp only[Vq,Ae];refine Aa (I3 K hb i) ?_;simp only[Vq,Ae];refine As ?_ (by decide);have hf:Bh (out.length+1) 4=U:=AL (by omega) (by omega);have hb1:Aww (0+out.length*1) (Av eL out).length=U:=AJ A2 out (by omega);have e3:∀ s:Nat,Awv 0 (Aws (0+out.length*1) (Av eL out))++[.v (.int .u32 (s:Int))]=Av eL (out++[s]):=λs=>by
   rw[κ,A9 A2 out (by omega)];exact A8 eL out s
  rw[DX (by omega),DX (by omega),U3,U2 _ (by omega),BT (Ax1 _ (by omega)),Bv (by omega),hf,hb1,e3];refine Af ?_;refine Af ?_;refine As ?_ (by decide);refine Aa ih' ?_;rw[O9,NX,NX,Ayh,Ayh];rfl
theorem KZ{a b:Aj}(hsa:a.length<=999999999)(ha:Limbs a)(hsb:b.length<=999999999)(hb:Limbs b):D.ask (.fn 181) [eN a,eN b] []=V (eN (AY (Am a+Am b)),[]):=by
 refine Ao K Wi (Auj ..) ?_;have g:=AkG K ha hb (by omega) (max a.length b.length+1) 0 [] 0 rfl (by omega) (by simp;omega);rw[AwC,κ,κ]at g;refine Aa g ?_;simp only[Ae];rw[AJ A2 _ (by omega)];refine Af ?_;rw[BQ A2 _ rfl];have hlen:∀(k c:Nat) (a b:Aj),(O9 k c a b).length=k:=λk=>by
  induction k with
  |zero=>intro c a b;rfl
  |succ k ih=>intro c a b;rw[O9,π,ih]
 have gt:=GH K (l:=O9 (max a.length b.length+1) 0 a b) (by unfold Db;rw[hlen];omega) (P2 _ _ _ _);rw[TL]at gt;have h1:=Dy ha;have h2:=Dy hb;have p1:4294967296 ^ a.length<=4294967296 ^ (max a.length b.length):=AxL (by omega) (by omega);have p2:4294967296 ^ b.length<=4294967296 ^ (max a.length b.length):=AxL (by omega) (by omega);rw[Nat.mod_eq_of_lt (by rw[Nat.pow_succ];omega),AwJ]at gt;refine Aa gt ?_;rfl
theorem AkK{a b:Aj}(ha:Limbs a)(hb:Limbs b)(m:Nat)(hma:max a.length b.length=m)(hm:m<=1000000000):∀(k i:Nat) (out:Aj) (c:Nat),m-i=k->c<=1->out.length+k<=2000000000->
  D.ask (.lp 184 0) [eN a,eN b,.sl 0 0 out.length 1,.v (.int .u64 (c:Int)),iv (i:Int)] [θ (Av eL out) U U]
   = V (.tup [iv 0,.sl 1 0 (out++Ja c ((E3 m a).drop i) ((E3 m b).drop i)).length 1],[.del,.set (θ (Av eL (out++Ja c ((E3 m a).drop i) ((E3 m b).drop i))) U U)]):=by
 intro k;have la:=EP (n:=m) (l:=a) (by omega);have lb:=EP (n:=m) (l:=b) (by omega)
 induction k with
 |zero=>
  intro i out c hi hc ho;refine Ax K Wj (Afa ..) ?_;refine Aa (Ik K a b) ?_;simp only[Ae];refine Ap ?_;rw[show (E3 m a).drop i=[] from υ (by omega),Ja,AwV]
 |succ k ih=>
  intro i out c hi hc ho;have h1:=PH ha i;have h2:=PH hb i;have ia:i<(E3 m a).length:=by omega
  have ib:i<(E3 m b).length:=by omega
  rw[χ ia,Nc (by omega) (by omega),χ ib,Nc (by omega) (by omega),Ja,List.headD_cons,List.tail_cons];refine Ax K Wj (Afa ..) ?_;refine Aa (Ik K a b) ?_;simp only[Ae];refine Au ?_;refine Aa (I3 K ha i) ?_;simp only[Vq,Ae];refine Aa (I3 K hb i) ?_;simp only[Vq,Ae];refine As ?_ (by decide);have hf:Bh (out.length+1) 4=U:=AL (by omega) (by omega);have hb1:Aww (0+out.length*1) (Av eL out).length=U:=AJ A2 out (by omega);have e3:∀ s:Nat,Awv 0 (Aws (0+out.length*1) (Av eL out))++[.v (.int .u32 (s:Int))]=Av eL (out++[s]):=λs=>by
   rw[κ,A9 A2 out (by omega)];exact A8 eL out s
  rw[show (4294967296:Int)=((4294967296:Nat):Int) from rfl,DX (by omega),I4 (by omega) (by omega),I4 (by omega) (by omega)];rw[show ((4294967296:Nat):Int)=(4294967296:Int) from rfl,U3,U2 _ (by omega),BT (Ax1 _ (by omega)),Bv (by omega),show (1:Int)=((1:Nat):Int) from rfl,I4 (by omega) (by omega),hf,hb1,e3];refine Af ?_;refine Af ?_;refine As ?_ (by decide)
  by_cases hlt:a.getD i 0<b.getD i 0+c
  .rw[Ac hlt,Ac hlt]
   have ih':=ih (i+1) (out++[a.getD i 0+4294967296-(b.getD i 0+c)]) 1 (by omega) (by omega) (by simp;omega);rw[Awr,ζ,Aw5]at ih';rw[show (a.getD i 0+4294967296-b.getD i 0-c) % 4294967296=a.getD i 0+4294967296-(b.getD i 0+c) by omega,show 1-(a.getD i 0+4294967296-b.getD i 0-c) / 4294967296=1 by omega];refine Aa ih' ?_;rfl
  .rw[Ab hlt,Ab hlt]
   have ih':=ih (i+1) (out++[a.getD i 0-(b.getD i 0+c)]) 0 (by omega) (by omega) (by simp;omega);rw[Awr,ζ,Aw5]at ih';rw[show (a.getD i 0+4294967296-b.getD i 0-c) % 4294967296=a.getD i 0-(b.getD i 0+c) by omega,show 1-(a.getD i 0+4294967296-b.getD i 0-c) / 4294967296=0 by omega];refine Aa ih' ?_;rfl
theorem Abt{a b:Aj}(hsa:Db a)(ha:Limbs a)(hsb:Db b)(hb:Limbs b):D.ask (.fn 184) [eN a,eN b] []=V (Qk (Am a) (Am b),[]):=by
 have s1:=hsa;have s2:=hsb;unfold Db at s1 s2;refine Ao K Wj (Aum ..) ?_;refine Aa (AkI K hsa ha hsb hb) ?_;simp only[Ae];unfold Qk
 by_cases h1:Am a<Am b
 .rw[show Ep (Am a) (Am b)=-1 by unfold Ep;rw[Ac h1]]
  refine Au ?_ (by decide);rw[Ab (by omega)];rfl
 .refine Ap ?_ (by unfold Ep;rw[Ab h1];split<;>omega)
  rw[Ac (by omega)];have la:=EP (n:=max a.length b.length) (l:=a) (by omega);have lb:=EP (n:=max a.length b.length) (l:=b) (by omega);have g:=AkK K ha hb (max a.length b.length) rfl (by omega) (max a.length b.length) 0 [] 0 (by omega) (by omega) (by simp;omega);rw[AwC,κ,κ]at g;refine Aa g ?_;simp only[Ae];rw[AJ A2 _ (by omega)];refine Af ?_;rw[BQ A2 _ rfl];have gt:=GH K (l:=Ja 0 (E3 (max a.length b.length) a) (E3 (max a.length b.length) b)) (by unfold Db;rw[Nu];omega) (Jc _ _ _ (Fi ha) (Fi hb) (by omega));rw[XY (Fi ha) (Fi hb) (by omega) (by rw[IC,IC];omega),IC,IC]at gt;refine Aa gt ?_;rfl
theorem AdC{a:Aj}(ha:Limbs a)(hs:Db a)(m:Nat)(hm:m<4294967296):∀(k i:Nat) (out:Aj) (c:Nat),a.length-i=k->i<=a.length->c<4294967296->out.length+k<=2000000000->
  ∃(o:Aj) (c':Nat),D.ask (.lp 228 0) [eN a,.v (.int .u64 (m:Int)),.sl 0 0 out.length 1,.v (.int .u64 (c:Int)),iv (i:Int)] [θ (Av eL out) U U]
   = V (.tup [iv 0,.sl 1 0 o.length 1,.v (.int .u64 (c':Int))],[.del,.set (θ (Av eL o) U U)])/\c'<4294967296/\o++[c']=out++ET m c (a.drop i):=by
 intro k;unfold Db at hs
 induction k with
 |zero=>
  intro i out c hi hle hc ho;refine⟨out,c,?_,hc,?_⟩
  .refine Ax K Wo (Afh ..) ?_
   rw[Al];refine Ap ?_;rfl
  .rw[show a.drop i=[] from υ (by omega)]
   rfl
 |succ k ih=>
  intro i out c hi hle hc ho;have hlt:i<a.length:=by omega
  have hx:=ha.get hlt;have hp:=QY hx hm;have hg:a.getD i 0=a[i]:=by rw[AwK,Ψ hlt];rfl
  obtain⟨o,c',h1,h2,h3⟩:=ih (i+1) (out++[(a[i]*m+c) % 4294967296]) ((a[i]*m+c) / 4294967296) (by omega) (by omega) (by omega) (by simp;omega);refine⟨o,c',?_,h2,?_⟩
  .refine Ax K Wo (Afh ..) ?_
   rw[Al];refine Au ?_;refine Aa (I3 K ha i) ?_;simp only[Vq,Ae,hg];refine As ?_ (by decide);have hf:Bh (out.length+1) 4=U:=AL (by omega) (by omega);have hb1:Aww (0+out.length*1) (Av eL out).length=U:=AJ A2 out (by omega);have e3:∀ s:Nat,Awv 0 (Aws (0+out.length*1) (Av eL out))++[.v (.int .u32 (s:Int))]=Av eL (out++[s]):=λs=>by
    rw[κ,A9 A2 out (by omega)];exact A8 eL out s
   rw[ζ,Aw5]at h1;rw[U1 (by omega),DX (by omega),U3,U2 _ (by omega),BT (Ax1 _ (by omega)),Bv (by omega),hf,hb1,e3];refine Af ?_;refine Af ?_;refine As ?_ (by decide);refine Aa h1 ?_;rfl
  .rw[h3,χ hlt,ET,Awr]
   rfl
omit K in
theorem Mr:∀(m c:Nat) (a:Aj),(ET m c a).length=a.length+1
 |_,_,[]=>rfl
 |m,c,x::a=>by rw[ET,π,Mr,π]
theorem Og{a:Aj}(ha:Limbs a)(hs:a.length<=999999999)(m:Nat)(hm:m<4294967296):D.ask (.fn 228) [eN a,.v (.int .u64 (m:Int))] []=V (eN (AY (Am a*m)),[]):=by
 obtain⟨o,c',g,hc,ho⟩:=AdC K ha (by unfold Db;omega) m hm a.length 0 [] 0 (by omega) (by omega) (by omega) (by simp;omega);rw[AwC,κ]at ho;have hol:o.length=a.length:=by
  have:=congrArg List.length ho;rw[ζ,Mr]at this;simpa using this
 refine Ao K Wo (AuH ..) ?_;refine Aa g ?_;simp only[IM,Ae];rw[BT hc];have e3:Awv 0 (Aws (0+o.length*1) (Av eL o))++[.v (.int .u32 (c':Int))]=Av eL (o++[c']):=by
  rw[κ,A9 A2 o (by omega)];exact A8 eL o c'
 rw[AL (n:=o.length+1) (b:=4) (by omega) (by omega),AJ A2 o (by omega),e3,AJ A2 (o++[c']) (by simp)];refine Af ?_;refine Af ?_;refine Af ?_;rw[κ,A9 A2 (o++[c']) (by simp),show By (o.length+1) 1 (Av eL (o++[c']))=(o++[c']).map eL from by have:=DG A2 (o++[c']);rwa [ζ]at this];rw[ho];have gt:=GH K (l:=ET m 0 a) (by unfold Db;rw[Mr];omega) (I9 _ _ _ hm ha (by omega));rw[KE,Nat.add_zero]at gt;refine Aa gt ?_;rfl
