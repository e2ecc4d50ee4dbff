/- What expr.Term and expr. -/
import Derived.Test.YtlmhajfbpplpoaaGreatMAU
set_option linter.all false
open Bool renaming false->Θ,true->U,and_eq_true->AvF,false_eq_true->Awi,false_ne_true->Aw4,true_and->AvR
open Int renaming mul_zero->Aya,natAbs_neg->Axo,natCast_mul->AxV,sub_eq_add_neg->Ays,zero_add->AyS,zero_mul->AyT
open List renaming append_assoc->AvO,append_nil->Awc,drop->AvI,drop_eq_getElem_cons->ω,drop_eq_nil_of_le->ο,drop_zero->κ,findIdx?_eq_some_iff_getElem->AwL,getD_eq_getElem?_getD->Av1,getElem?_eq_getElem->Ω,getElem?_eq_none->Aw5,getElem_mem->AvN,length_append->ζ,length_cons->ε,length_map->Av8,length_nil->Av0,length_singleton->Awo,length_take->Av6,map_cons->AvT,mem_cons->AvK,mem_cons_of_mem->AvZ,mem_singleton->Awk,nil_append->AvV,replicate->AxL,singleton_append->Awu,tail_drop->AxB,take->AvG,take_of_length_le->AwJ,take_succ_eq_append_getElem->AwG
open Nat renaming ble->AvL,ble_eq_true_of_le->Awz,le_refl->η,lt_succ_self->AvS,min_eq_left->AwM,mod_lt->Axg,pow_le_pow_right->Aw0,pow_succ->AwS,zero_add->AvW
open Option renaming none->Δ,some->V,getD_some->AxR,map_some->AvP
namespace Go.Proofs.YtlmhajfbpplpoaaGreat
open ABlk renaming mk->Ψ
open Go.RowKit
theorem VT(s:ByteArray):(E5 s).1=A3 (zv (E5 s).1):=by
 unfold E5;split
 .simp only[BU]
 .show (⟨Θ,[]⟩:Zi)=A3 (zv ⟨Θ,[]⟩)
  rw[show zv (⟨Θ,[]⟩:Zi)=0 from rfl,QE]
theorem VO(m:Mo):InB 4000 (Ob m):=by
 unfold Ob;split
 .exact InB.one (by omega)
 .exact(Tw _).inb
theorem Mh(m:Mo):InB 4000 (Ew m):=by
 unfold Ew;split
 .exact(VO m).neg
 .exact VO m
structure OutB (i:Nat) (out:Lf):Prop where
 len:out.ps.length<=i
 ps:∀ p∈out.ps,InB 4000 p.2
 k:InB (4000+i) out.k
theorem VS:OutB 0 Nq:=⟨by simp[Nq],by simp[Nq],InB.zero _⟩
theorem OutB.addK{i:Nat}{out:Lf}(h:OutB i out)(m:Mo):OutB (i+1) ⟨out.ps,out.k+Ew m⟩:=⟨by have:=h.len;simp only;omega,h.ps,by
 show InB (4000+i+1) _
 exact InB.add h.k ((Mh m).mono (by omega))⟩
theorem OutB.addP{i:Nat}{out:Lf}(h:OutB i out)(m:Mo)(v:Int):OutB (i+1) ⟨out.ps++[(v,Ew m)],out.k⟩:=⟨by have:=h.len;simp;omega,λp hp=>by
 rcases List.mem_append.1 hp with hp|hp
 .exact h.ps p hp
 .rw[Awk.1 hp];exact Mh m,h.k.mono (by omega)⟩
theorem F9(vars:List ByteArray):∀(ms:List Mo) (i:Nat) (out l:Lf),OutB i out->EA vars ms out=V l->OutB (i+ms.length) l
 |[],i,out,l,h,e=>by
  rw[EA]at e
  cases e
  exact h
 |m::r,i,out,l,h,e=>by
  rw[EA]at e;rw[ε,show i+(r.length+1)=i+1+r.length by omega];split at e
  .exact F9 vars r (i+1) _ l (h.addK m) e
  .split at e
   .cases e
   .exact F9 vars r (i+1) _ l (h.addP m _) e
theorem Hj(vars:List ByteArray)(ms:List Mo):LB 64 5000 (CX vars ms).1:=by
 have h0:LB 64 5000 Nq:=⟨by simp[Nq],by simp[Nq],InB.zero _⟩;unfold CX;split
 .rename_i h
  split
  .rename_i l e
   have hl:=(Da h).2.1;have g:=F9 vars ms 0 Nq l VS e;have g2:LB 64 4064 l:=⟨by have:=g.len;omega,λp hp=>(g.ps p hp).mono (by omega),g.k.mono (by omega)⟩;exact g2.pln.mono (by omega) (by omega)
  .exact h0
 .exact h0
def ApU(r0:Rw)(r1:Bool)(r2:Rw):Option Lf->AV × List BO
 |none=>(.tup [bv U,.ptr 0 0,bv Θ],[.set ⟨[.ls [],bv Θ,.ls []],U,Θ⟩,.del,.del])
 |some l=>(.tup [iv 0,.ptr 0 0,.ptr 1 0],[.set ⟨[.ls r0,bv r1,.ls r2],U,Θ⟩,.set ⟨[.sl 3 0 (l.ps.map BD).length 3,bv (A3 l.k).neg,eN (A3 l.k).abs],U,Θ⟩,.del,.set (Fo (l.ps.map BD))])
section
variable {D:Orc} (Kt:Knows Ak J7 D) (Kf:Knows Ak Qu D) (Ks:SrtF D 1000000) (Z:ZF D) (C:PartF D) (Ko:Knows Ak Sk D) (Kfe:Knows Ak Aan D) (Ka:Knows Ak Sj D) (Kta:Knows Ak Fi D) (N:LexN D)
include Kfe Z Ka
theorem Aj8(vars:List ByteArray)(hvl:vars.length<4611686018427387904)(ms:List Mo)(hl:ms.length<=64)(r0:Rw)(r1:Bool)(r2:Rw):∀(k i:Nat) (out:Lf),ms.length-i=k->i<=ms.length->OutB i out->
  D.ask (.lp 44 0) [.ls (vars.map eS),.ptr 0 0,.ptr 1 0,.ls (ms.map C4),iv (ms.length:Int),iv (i:Int)] [⟨[.ls r0,bv r1,.ls r2],U,Θ⟩,⟨[.sl 2 0 (out.ps.map BD).length 3,bv (A3 out.k).neg,eN (A3 out.k).abs],U,Θ⟩,Fo (out.ps.map BD)]=V (ApU r0 r1 r2 (EA vars (ms.drop i) out)):=by
 intro k
 induction k with
 |zero=>
  intro i out hm hi ho;rw[ο (by omega),EA];refine Ax Kfe AeS (Akz ..) ?_;exact Am rfl
 |succ k ih=>
  intro i out hm hi ho;have h1:i<ms.length:=by omega
  have hol:(out.ps.map BD).length<=i:=by have:=ho.len;simpa using this
  obtain⟨T,hT⟩:∃ T,T=EA vars (ms.drop i) out:=⟨_,rfl⟩;rw[←hT];have hsg:=Mh ms[i];have hoK:=ho.addK ms[i];have hoP:=λv=>ho.addP ms[i] v
  rw[ω h1,EA]at hT;refine Ax Kfe AeS (Akz ..) ?_;refine Ao ?_;rw[AA,Az (Ω h1)];revert hT hsg hoK hoP;generalize ms[i]=m;obtain⟨mn,mu,mv⟩:=m;intro hT hsg hoK hoP;simp only[C4,Ae];simp only at hT;refine Aa (Z.of_ 1 (by omega) (by omega)) ?_;simp only[eZ,eN,Ae]
  by_cases hn:mu=Ag []
  case' pos=>
   refine CI hn ?_;have en:∀ b,Ob ⟨b,mu,mv⟩=1:=λb=>by unfold Ob;rw[Ac hn]
   rcases mn.eq_false_or_eq_true with rfl|rfl
   case' inl=>
    have es:Ew ⟨U,mu,mv⟩=-1:=by unfold Ew;rw[en];rfl
    have gn:=Z.neg (A3 1) ((InB.lz (k:=1) (by unfold InB;decide)).mono (by omega));rw[BU,←es]at gn;refine Af ?_;refine Aa gn ?_;simp only[eZ,eN,Ae]
   case' inr=>
    have es:Ew ⟨Θ,mu,mv⟩=1:=by unfold Ew;rw[en];rfl
    refine Bm ?_;rw[show A3 1=A3 (Ew ⟨Θ,mu,mv⟩) by rw[es]]
  case' neg=>
   refine(Dt hn).trans ?_;have en:∀ b,Ob ⟨b,mu,mv⟩=zv (E5 mu).1:=λb=>by unfold Ob;rw[Ad hn]
   have gp:=Z.parse mu;have hz:=Tw mu;rw[VT mu]at gp hz;refine Aa gp ?_;simp only[eZ,eN,Ae];rcases mn.eq_false_or_eq_true with rfl|rfl
   case' inl=>
    have es:Ew ⟨U,mu,mv⟩=-zv (E5 mu).1:=by unfold Ew;rw[en];rfl
    have gn:=Z.neg (A3 (zv (E5 mu).1)) (hz.mono (by omega));rw[BU,←es]at gn;refine Af ?_;refine Aa gn ?_;simp only[eZ,eN,Ae]
   case' inr=>
    have es:Ew ⟨Θ,mu,mv⟩=zv (E5 mu).1:=by unfold Ew;rw[en];rfl
    refine Bm ?_;rw[show A3 (zv (E5 mu).1)=A3 (Ew ⟨Θ,mu,mv⟩) by rw[es]]
  all_goals
   clear hn;generalize Ew ⟨_,mu,mv⟩=w at hT hsg hoK hoP ⊢
   by_cases hv:mv=Ag []
   .rw[Ac hv]at hT
    have ga:=Z.add (A3 out.k) (A3 w) (ho.k.lz.mono (by omega)) (hsg.lz.mono (by omega));rw[BU,BU]at ga;refine CI hv ?_;refine Aa ga ?_;simp only[eZ,eN,Ae];rw[Bn (by omega)];refine Aa (ih (i+1) _ (by omega) (by omega) hoK) ?_;rw[←hT];clear hT
    cases T<;>rfl
   .rw[Ad hv]at hT
    refine(Dt hv).trans ?_;refine Aa (RC Ka vars hvl mv) ?_;simp only[Ae]
    cases ev:vars.findIdx? (mv = ·) with
    |none=>
     rw[ev]at hT;have hT:T=Δ:=hT;rw[hT];refine Ao ?_ (show (-1:Int)<0 by omega);rfl
    |some v=>
     rw[ev]at hT;have hT:T=EA vars (ms.drop (i+1)) ⟨out.ps++[((v:Int),w)],out.k⟩:=hT;have hlt:=(AwL.1 ev).1;refine Am ?_ (show ¬ ((v:Nat):Int)<0 by omega);have hf:AU ((out.ps.map BD).length+1) 40=U:=AL (by omega) (by omega);have hb1:AvL (0+(out.ps.map BD).length*3) (Av eP (out.ps.map BD)).length=U:=AK AE _ (by omega);have e3:AvI 0 (AvG (0+(out.ps.map BD).length*3) (Av eP (out.ps.map BD)))++[iv (v:Int),bv (A3 w).neg,eN (A3 w).abs]=Av eP ((out.ps++[((v:Int),(w:Int))]).map BD):=by
      rw[κ,A0 AE _ (by omega),List.map_append];exact AW eP (out.ps.map BD) (BD ((v:Int),w))
     simp only[eN]at e3;rw[hf];refine Af ?_;rw[hb1];refine Af ?_;simp only[Dr];rw[e3,Bn (by omega)];have ih2:=ih (i+1) _ (by omega) (by omega) (hoP (v:Int));rw[show ((out.ps++[((v:Int),(w:Int))]).map BD).length=(out.ps.map BD).length+1 by simp]at ih2;refine Aa ih2 ?_;rw[←hT];clear hT
     cases T<;>rfl
include Kt Ks C Kta N in
theorem Aas(vars:List ByteArray)(hvl:vars.length<4611686018427387904)(ms:List Mo)(hm:∀ m∈ms,WzM m)(hl:ms.length<4611686018427387904) :
  D.ask (.fn 44) [.ls (ms.map C4),.ls (vars.map eS)] []=V (.tup [.agg (eT (CX vars ms).1.tm),bv (CX vars ms).2],[]):=by
 have gr:=GC Kta N ms hm hl;have e0:eT Nq.tm=[.ls [],bv Θ,.ls []]:=by rw[Ti];rfl
 refine Aq Kfe AeS (e44 ..) ?_;refine Aa gr ?_;simp only[Ae];unfold CX
 cases hr:Ji ms with
 |false=>
  refine Bm ?_;rw[Ad (by simp),e0]
 |true=>
  have hlen:=(Da hr).2.1;have gl:=Aj8 Z Kfe Ka vars hvl ms hlen [] Θ [] _ 0 Nq rfl (by omega) VS;rw[κ,show A3 Nq.k=⟨Θ,[]⟩ from QE]at gl;refine Af ?_;rw[Ac rfl,Aj];refine Aa gl ?_
  cases e:EA vars ms Nq with
  |none=>
   simp only;rw[e0];rfl
  |some l=>
   have ob:=F9 vars ms 0 Nq l VS e;have hT:TmB 64 4064 l.tm:=LB.tb ⟨by have:=ob.len;omega,λp hp=>(ob.ps p hp).mono (by omega),ob.k.mono (by omega)⟩;have gp:=E6 Kt Ks Z C hT (by omega) (by omega);rw[C5]at gp;simp only[ApU,Ae]
   change br _ _ _=_
   rw[show AvL (0+(l.ps.map BD).length*3) (Av eP (l.ps.map BD)).length=U from AK AE _ (by omega)];refine Af ?_;rw[By AE _ rfl];refine Aa gp ?_;rfl
end
theorem Qw:TmB 128 30000 Tm0:=by
 rw[←Ti];exact LB.tb ⟨by simp[Nq],by simp[Nq],InB.zero _⟩
theorem Rp(vars:List ByteArray):∀(n:Nat) (t:Tr) (d:Nat),SizeOf.sizeOf t<n->BJ t d=U->CanF (Dv vars t).1/\FB 128 30000 (Dv vars t).1:=by
 intro n
 induction n with
 |zero=>intro t d h;omega
 |succ n ih=>
  intro t d hn h;have z0:CanF (kF 0 [])/\FB 128 30000 (kF 0 []):=⟨.tru U,.mk Qw (by simp) (by simp)⟩;have z1:CanF (Og Θ)/\FB 128 30000 (Og Θ):=⟨.tru Θ,.mk Qw (by simp) (by simp)⟩
  cases Qk h with
  |tt=>rw[Dv,Ad (by decide),CK];exact z0
  |ff=>rw[Dv,Ad (by decide),CK];exact z1
  |@cmp _ l r op hl hr h1 h2=>
   rw[Dv,Ac rfl];exact⟨Adr _ _ _,AhX (Hj vars l) (Hj vars r) op⟩
  |@no _ x hd hx=>
   have g:=ih x _ (by simp only[Tr.mk.sizeOf_spec,List.cons.sizeOf_spec]at hn;omega) hx;rw[Dv,Ad (by decide),CK,CK];split
   .exact z0
   .rename_i fs e
    split at e
    .cases e
     rw[Ad (by decide),Ac (.inl rfl)];exact⟨.no _ g.1,.mk Qw (by simp) λy hy=>by rw[Awk.1 hy];exact g.2⟩
    .cases e
  |@bin _ k x y hk hd hx gd hy=>
   have g:=ih x _ (by simp only[Tr.mk.sizeOf_spec,List.cons.sizeOf_spec]at hn;omega) hx;have g2:=ih y _ (by simp only[Tr.mk.sizeOf_spec,List.cons.sizeOf_spec]at hn;omega) hy;rw[Dv,Ad (by omega),CK,CK,CK];split
   .exact z0
   .rename_i fs e
    split at e
    .split at e
     .cases e
     .rename_i gs e2
      split at e2
      .cases e2
       cases e
       rw[Ad (by omega),Ac (by omega)];have fb:∀ z∈[(Dv vars x).1,(Dv vars y).1],FB 128 30000 z:=λz hz=>by
        rcases AvK.1 hz with rfl|hz
        .exact g.2
        .rw[Awk.1 hz];exact g2.2
       rcases hk with rfl|rfl
       .exact⟨.and _ (.cons g.1 (.cons g2.1 .nil)),.mk Qw (by simp) fb⟩
       .exact⟨.or _ (.cons g.1 (.cons g2.1 .nil)),.mk Qw (by simp) fb⟩
      .cases e2
    .cases e
def Q6(t:Tr)(y0:Int)(y1:Rw)(y2:Bool)(y3:Rw)(y4:Bool)(y5:Rw)(out:List Fm):Option (List Fm)->AV × List BO
 |none=>(.tup [bv U,.ptr 1 0,bv Θ],[.del,.set ⟨eF (kF 0 []),U,Θ⟩,.del])
 |some fs=>(.tup [iv 0,.ptr 0 0,.ptr 1 0,.sl 3 0 (out++fs).length 6],[.set (IE t),.set ⟨[iv y0,.ls y1,bv y2,.ls y3,bv y4,.ls y5],U,Θ⟩,.del,.set (Ψ (Av eF (out++fs)) U U)])
section
variable {D:Orc} (Kt:Knows Ak J7 D) (Kf:Knows Ak Qu D) (Ks:SrtF D 1000000) (Z:ZF D) (C:PartF D) (Ko:Knows Ak Sk D) (Kfe:Knows Ak Aan D) (Ka:Knows Ak Sj D) (Kta:Knows Ak Fi D) (N:LexN D)
include Kfe
theorem Aii(vars:List ByteArray)(t:Tr)(ks:List Tr)(hl:ks.length<=2)(g:∀ x∈ks,D.ask (.fn 65) [.agg (BH x),.ls (vars.map eS)] []=V (.tup [.agg (eF (Dv vars x).1),bv (Dv vars x).2],[]))(y0:Int)(y1:Rw)(y2:Bool)(y3:Rw)(y4:Bool)(y5:Rw):∀(k i:Nat) (out:List Fm),ks.length-i=k->i<=ks.length->out.length<=i->
  D.ask (.lp 65 0) [.ls (vars.map eS),.ptr 0 0,.ptr 1 0,.sl 2 0 out.length 6,.ls (ks.map BH),iv (ks.length:Int),iv (i:Int)] [IE t,⟨[iv y0,.ls y1,bv y2,.ls y3,bv y4,.ls y5],U,Θ⟩,Ψ (Av eF out) U U]=V (Q6 t y0 y1 y2 y3 y4 y5 out (CK vars (ks.drop i))):=by
 intro k
 induction k with
 |zero=>
  intro i out hm hi ho;rw[ο (by omega),CK];obtain⟨a1,a2,a3,a4,a5,a6,a7⟩:=t;refine Ax Kfe Abf (AkB ..) ?_;refine Am ?_;simp only[Q6,Awc];rfl
 |succ k ih=>
  intro i out hm hi ho;have h1:i<ks.length:=by omega
  have gx:=g ks[i] (AvN h1);have ih:=λy=>ih (i+1) (out++[y]) (by omega) (by omega) (by simp;omega)
  have e3:∀ y,AvI 0 (AvG (0+out.length*6) (Av eF out))++eF y=Av eF (out++[y]):=λy=>by
   rw[κ,A0 C6 out (by omega)];exact AW eF out _
  obtain⟨T,hT⟩:∃ T,T=CK vars (ks.drop i):=⟨_,rfl⟩;rw[←hT];rw[ω h1,CK]at hT;obtain⟨a1,a2,a3,a4,a5,a6,a7⟩:=t;refine Ax Kfe Abf (AkB ..) ?_;refine Ao ?_;rw[AA,Az (Ω h1)];revert gx hT;generalize ks[i]=x;intro gx hT;generalize Dv vars x=q at gx hT;obtain⟨y,b⟩:=q;have ih:=ih y;have e3:=e3 y;obtain⟨xk,xl,xr,xo,xp,xq,xs⟩:=x;obtain⟨yk,yt,ye,ys⟩:=y;simp only[BH,eF,eN,Ae]at gx e3 ⊢;refine Aa gx ?_;simp only[Ae]
  cases b with
  |false=>
   have hT:T=Δ:=hT;rw[hT];refine Af ?_;simp only[Q6,kF,eF];rfl
  |true=>
   have hT:T=(match CK vars (ks.drop (i+1)) with
    |none=>Δ
    |some fs=>V (Fm.mk yk yt ye ys::fs)):=hT
   refine Bm ?_;rw[show AU (out.length+1) 96=U from AL (by omega) (by omega)];refine Af ?_;rw[show AvL (0+out.length*6) (Av eF out).length=U from AK C6 out (by omega)];refine Af ?_;rw[e3,Bn (by omega)];rw[show (out++[Fm.mk yk yt ye ys]).length=out.length+1 by simp]at ih;unfold IE at ih;rw[BH]at ih;refine Aa ih ?_
   cases e:CK vars (ks.drop (i+1)) with
   |none=>
    rw[e]at hT;rw[hT];rfl
   |some fs=>
    rw[e]at hT;rw[hT];simp only[Q6,AvO,Awu,IE,BH];rfl
include Kt Kf Ks Z C Ko Ka Kta N in
theorem Aij(vars:List ByteArray)(hvl:vars.length<4611686018427387904):∀(n:Nat) (t:Tr) (d:Nat),SizeOf.sizeOf t<n->BJ t d=U->D.ask (.fn 65) [.agg (BH t),.ls (vars.map eS)] []=V (.tup [.agg (eF (Dv vars t).1),bv (Dv vars t).2],[]):=by
 intro n
 induction n with
 |zero=>intro t d h;omega
 |succ n ih=>
  intro t d hn h
  have fin:∀(k:Int) (ks:List Tr),ks.length<=2->t=.mk k [] [] 0 (Ag []) (Ag []) ks->(∀ x∈ks,∃ d,SizeOf.sizeOf x<n/\BJ x d=U)->(k=0/\ks=[]\/k=1/\ks=[]\/(k=3/\ks.length=1)\/k=4\/k=5)->D.ask (.fn 65) [.agg (BH t),.ls (vars.map eS)] []=V (.tup [.agg (eF (Dv vars t).1),bv (Dv vars t).2],[]):=by
   intro k ks hl ht hx hk;have gl:=Aii Kfe vars t ks hl (λx hm=>by
    obtain⟨d,h1,h2⟩:=hx x hm;exact ih x d h1 h2) 0 [] Θ [] Θ [] _ 0 [] rfl (by omega) (by simp)
   rw[κ]at gl;have hgood:∀ fs,CK vars ks=V fs->fs.map Br=fs/\∀ y∈fs,FB 128 30000 y:=by
    clear gl ht hk hl;intro fs
    induction ks generalizing fs with
    |nil=>intro e;rw[CK]at e;cases e;exact⟨rfl,by simp⟩
    |cons x r ihr=>
     intro e;rw[CK]at e;split at e
     .split at e
      .cases e
      .rename_i gs e2
       cases e
       obtain⟨d,h1,h2⟩:=hx x (List.mem_cons_self ..);have g:=Rp vars _ x d (AvS _) h2;obtain⟨g1,g2⟩:=ihr (λy hy=>hx y (AvZ _ hy)) gs e2;refine⟨by rw[AvT,g.1.clone,g1],λy hy=>?_⟩;rcases AvK.1 hy with rfl|hy
       .exact g.2
       .exact g2 y hy
     .cases e
   have hfl:∀ fs,CK vars ks=V fs->fs.length=ks.length:=by
    clear gl ht hk hl hgood;intro fs
    induction ks generalizing fs with
    |nil=>intro e;rw[CK]at e;cases e;rfl
    |cons x r ihr=>
     intro e;rw[CK]at e;split at e
     .split at e
      .cases e
      .rename_i gs e2
       cases e
       rw[ε,ε,ihr (λy hy=>hx y (AvZ _ hy)) gs e2]
     .cases e
   subst ht;have hk2:k≠2:=by omega
   unfold IE at gl;rw[BH,B1]at gl;refine Aq Kfe Abf (e65 ..) ?_;refine Ap ?_ hk2;rw[B1,Aj];rw[Dv,Ad hk2];refine Aa gl ?_
   cases e:CK vars ks with
   |none=>
    simp only[Q6,kF,eF];rfl
   |some fs=>
    obtain⟨g1,g2⟩:=hgood fs e;have g3:=hfl fs e;have hch:Bo ([]++fs).length 6 (AvG (([]++fs).length*6) (Av eF ([]++fs)))=fs.map eF:=by
     rw[AvV];exact By C6 fs rfl
    have hble:AvL (0+([]++fs).length*6) (Av eF ([]++fs)).length=U:=by
     rw[AvV];exact AK C6 fs (by omega)
    have hb:IE (.mk k [] [] 0 (Ag []) (Ag []) ks)=Ψ [iv k,.ls ([]:Rw),.ls ([]:Rw),iv 0,sv (Ag []),sv (Ag []),.ls (ks.map BH)] U Θ:=by
     unfold IE;rw[BH,B1];rfl
    simp only[Q6];rw[hb];simp only[Ae]
    by_cases h0:k=0
    .rw[Ac h0]
     refine Aw ?_ h0;refine Aa (Hl Ko U) ?_;rfl
    rw[Ad h0];refine Ap ?_ h0
    by_cases h3:k=3
    .rw[Ac (.inl h3)]
     refine Aw ?_ h3;have hl1:fs.length=1:=by
      rw[g3];rcases hk with h|h|h|h|h
      .omega
      .omega
      .exact h.2
      .omega
      .omega
     match fs,hl1,g1,g2 with
     |[y],_,g1,g2=>
      have gd:=Y2 Kt Ks Z C Ko (n:=128) (k:=30000) (by omega) (by omega) (g2 y (List.mem_singleton_self _));have g1:Br y=y:=by simpa using g1
      rw[g1]at gd;refine Af ?_;refine(BC C6 [y] 0 (by simp) _).trans ?_;rw[h3]
      show _=V (AV.tup [AV.agg (eF (kF 3 [y])),bv U],[])
      have e0:([y]:List Fm)[0]=y:=rfl;rw[e0];obtain⟨yk,yt,ye,ys⟩:=y;simp only[eF,eN,Ae]at gd ⊢;refine Aa gd ?_;unfold kF;rw[eF,eFs,eFs,eF];rfl
    refine Ap ?_ h3
    by_cases h4:k=4
    .rw[Ac (.inr (.inl h4)),h4]
     have ga:=AhJ Kt Ks Z C Ko (n:=128) (k:=30000) (by omega) (by omega) (l:=fs) (by omega) g2;rw[g1]at ga;refine Aw ?_ rfl;rw[hble];refine Af ?_;rw[hch];refine Aa ga ?_;unfold kF;rw[eF];rfl
    refine Ap ?_ h4
    by_cases h5:k=5
    .rw[Ac (.inr (.inr h5)),h5]
     have ga:=AhL Kt Ks Z C Ko (n:=128) (k:=30000) (by omega) (by omega) (l:=fs) (by omega) g2;rw[g1]at ga;refine Aw ?_ rfl;rw[hble];refine Af ?_;rw[hch];refine Aa ga ?_;unfold kF;rw[eF];rfl
    rw[Ad (by omega)];refine Ap ?_ h5;refine Aa (Hl Ko Θ) ?_;rfl
  cases Qk h with
  |tt=>exact fin 0 [] (by simp) rfl (by simp) (.inl ⟨rfl,rfl⟩)
  |ff=>exact fin 1 [] (by simp) rfl (by simp) (.inr (.inl ⟨rfl,rfl⟩))
  |@no _ x hd hx=>
   exact fin 3 [x] (by simp) rfl (λy hy=>by
    rw[Awk.1 hy];exact⟨_,by simp only[Tr.mk.sizeOf_spec,List.cons.sizeOf_spec]at hn;omega,hx⟩) (.inr (.inr (.inl ⟨rfl,rfl⟩)))
  |@bin _ k x y hk hd hx gd hy=>
   exact fin k [x,y] (by simp) rfl (λz hz=>by
    simp only[Tr.mk.sizeOf_spec,List.cons.sizeOf_spec]at hn;rcases AvK.1 hz with rfl|hz
    .exact⟨_,by omega,hx⟩
    .rw[Awk.1 hz]
     exact⟨_,by omega,hy⟩) (by omega)
  |@cmp _ l r op hl hr h1 h2=>
   have gl:=Aas Kt Ks Z C Kfe Ka Kta N vars hvl l (Fh hl).2 (Fh hl).1;have gr:=Aas Kt Ks Z C Kfe Ka Kta N vars hvl r (Fh hr).2 (Fh hr).1;have gc:=AhY Kt Kf Ks Z C Ko (by omega) (Hj vars l).tb (Hj vars r).tb op;rw[C5,C5]at gc;rw[Dv,Ac rfl];refine Aq Kfe Abf (e65 ..) ?_;refine Aw ?_ rfl;refine Aa gl ?_;simp only[eT,eN,Ae];refine Aa gr ?_;simp only[eT,eN,Ae];refine Aa gc ?_;generalize MH op (CX vars l).1 (CX vars r).1=y;obtain⟨yk,yt,ye,ys⟩:=y;rw[eF]
   cases (CX vars l).2<;>cases (CX vars r).2<;>rfl
def Ex(vars:List ByteArray)(t:Tr):Fm × Bool:=if BJ t 0&&(Dv vars t).2 then((Dv vars t).1,U) else(Og Θ,Θ)
include Kt Kf Ks Z C Ko Ka Kta N in
theorem AhF(vars:List ByteArray)(hvl:vars.length<4611686018427387904)(t:Tr)(hz:WzT t):D.ask (.fn 27) [.agg (BH t),.ls (vars.map eS)] []=V (.tup [.agg (eF (Ex vars t).1),bv (Ex vars t).2],[]):=by
 have gr:=AcZ Kta N t hz;have gf:=λh=>Aij Kt Kf Ks Z C Ko Kfe Ka Kta N vars hvl _ t 0 (AvS _) h
 have gt:=Hl Ko Θ;unfold Ex;obtain⟨q,hq⟩:∃ q,q=Dv vars t:=⟨_,rfl⟩;rw[←hq]at gf ⊢;obtain⟨f,b⟩:=q;obtain⟨fk,ft,fe,fs⟩:=f;obtain⟨tk,tl,tr,to,tp,tq,ts⟩:=t;refine Aq Kfe Aqx (e27 ..) ?_
 cases hr:BJ (.mk tk tl tr to tp tq ts) 0 with
 |false=>
  rw[hr]at gr;simp only[BH,eN,Ae]at gr ⊢;refine Aa gr ?_;simp only[Ae];refine Aa gt ?_;rfl
 |true=>
  rw[hr]at gr;have gf:=gf hr;simp only[BH,eF,eN,Ae]at gr gf ⊢;refine Aa gr ?_;simp only[Ae];refine Aa gf ?_;simp only[Ae]
  cases b with
  |true=>
   refine Bm ?_;simp only[Bool.and_self,if_true];rw[eF];rfl
  |false=>
   refine Af ?_;refine Aa gt ?_;rfl
end
structure Pp where
 here:Bool
 proc:Int
 loc:Int
 f:Fm
def EE(p:Pp):Ab:=bv p.here::iv p.proc::iv p.loc::eF p.f
theorem Ed(p:Pp):(EE p).length=9:=by
 (first|grind [EE,C6] | grind [EE,ε,C6])
inductive Rf where
 |mk (kind num:Int) (kids:List Rf)
mutual
def eG:Rf->Ab
 |.mk k n ks=>[iv k,iv n,.ls (eGs ks)]
def eGs:List Rf->Rw
 |[]=>[]
 |x::r=>eG x::eGs r
end
theorem Oq:∀ l,eGs l=l.map eG
 |[]=>rfl
 |x::r=>by simp[eGs,Oq r]
theorem MM(x:Rf):(eG x).length=3:=by
 obtain⟨k,n,ks⟩:=x;rw[eG];rfl
structure PpOk (p:Pp):Prop where
 can:CanF p.f
 fb:FB 128 30000 p.f
def DI(p q:Pp):Bool:=p.here == q.here&&decide (p.proc=q.proc)&&decide (p.loc=q.loc)&&WM p.f q.f
theorem Nb{p q:Pp}(hp:CanF p.f)(hq:CanF q.f):DI p q=U ↔ p=q:=by
 obtain⟨a,b,c,f⟩:=p;obtain⟨a',b',c',f'⟩:=q;unfold DI;simp only[AvF,decide_eq_true_eq,beq_iff_eq,Pp.mk.injEq];rw[Y9 hp hq];constructor
 .grind
 .grind
def F0:Fm:=Og U
def P0:Pp:=⟨Θ,0,0,F0⟩
theorem ApI:FB 128 30000 F0:=by
 refine .mk ?_ (by simp) (by simp);refine⟨by simp[Tm0],by simp[Tm0],?_⟩;exact⟨Ch,by simp[Tm0]⟩
theorem Akq{h:Bool}{a b:Int}:PpOk ⟨h,a,b,F0⟩:=⟨CanF.tru U,ApI⟩
def FX(y:Sy)(p q:ByteArray):Pp × Bool:=match (y.ps.map (·.name)).findIdx? (p = ·) with
 |none=>(P0,Θ)
 |some i=>(⟨U,(i:Int),Dr (((y.ps[i]?.map (·.locs)).getD []).findIdx? (q = ·)),F0⟩,decide (0<=Dr (((y.ps[i]?.map (·.locs)).getD []).findIdx? (q = ·))))
def Dd(y:Sy):Tr->Pp × Bool
 |.mk k l r op p q ks=>if k=6 then FX y p q else(⟨Θ,0,0,(Ex y.vars (.mk k l r op p q ks)).1⟩,(Ex y.vars (.mk k l r op p q ks)).2)
theorem XB(vars:List ByteArray)(t:Tr):CanF (Ex vars t).1/\FB 128 30000 (Ex vars t).1:=by
 unfold Ex;split
 .rename_i h
  exact Rp vars _ t 0 (AvS _) (by simp only[AvF]at h;exact h.1)
 .refine⟨.tru Θ,.mk ?_ (by simp) (by simp)⟩
  exact⟨by simp[Tm0],by simp[Tm0],⟨Ch,by simp[Tm0]⟩⟩
theorem OP(y:Sy)(t:Tr):PpOk (Dd y t).1:=by
 obtain⟨k,l,r,op,p,q,ks⟩:=t;rw[Dd];split
 .unfold FX
  split
  .exact Akq
  .exact Akq
 .have h:=XB y.vars (.mk k l r op p q ks)
  exact⟨h.1,h.2⟩
def AbE(ps:List Pp)(p:Pp):Int:=match ps.findIdx? (DI p) with
 |some i=>(i:Int)
 |none=>(ps.length:Int)
def My(ps:List Pp)(p:Pp):List Pp:=match ps.findIdx? (DI p) with
 |some _=>ps
 |none=>ps++[p]
mutual
def C2(y:Sy):Tr->List Pp->Option Rf × List Pp
 |.mk k l r op p q ks,ps=>if k=2\/k=6 then(if(Dd y (.mk k l r op p q ks)).2=U then(V (.mk 2 (AbE ps (Dd y (.mk k l r op p q ks)).1) []),My ps (Dd y (.mk k l r op p q ks)).1) else(Δ,ps)) else((CJ y ks ps).1.map (.mk k 0),(CJ y ks ps).2)
def CJ(y:Sy):List Tr->List Pp->Option (List Rf) × List Pp
 |[],ps=>(V [],ps)
 |x::r,ps=>match (C2 y x ps).1 with
  |none=>(Δ,(C2 y x ps).2)
  |some f=>((CJ y r (C2 y x ps).2).1.map (f::·),(CJ y r (C2 y x ps).2).2)
end
theorem Mc(y:Sy)(k:Int)(l r:List Mo)(op:Int)(p q:ByteArray)(ks:List Tr)(ps:List Pp):C2 y (.mk k l r op p q ks) ps=if k=2\/k=6 then(if(Dd y (.mk k l r op p q ks)).2=U then(V (.mk 2 (AbE ps (Dd y (.mk k l r op p q ks)).1) []),My ps (Dd y (.mk k l r op p q ks)).1) else(Δ,ps)) else((CJ y ks ps).1.map (.mk k 0),(CJ y ks ps).2):=by
 rw[C2]
theorem Ii(y:Sy)(x:Tr)(r:List Tr)(ps:List Pp):CJ y (x::r) ps=match (C2 y x ps).1 with
  |none=>(Δ,(C2 y x ps).2)
  |some f=>((CJ y r (C2 y x ps).2).1.map (f::·),(CJ y r (C2 y x ps).2).2):=by
 rw[CJ]
mutual
def E2:Tr->Nat
 |.mk _ _ _ _ _ _ ks=>Gz ks+1
def Gz:List Tr->Nat
 |[]=>0
 |x::r=>E2 x+Gz r
end
theorem Ac2(ps:List Pp)(p:Pp):(My ps p).length<=ps.length+1:=by
 unfold My;split<;>simp
theorem AhI{ps:List Pp}{p:Pp}(h:∀ x∈ps,PpOk x)(hp:PpOk p):∀ x∈My ps p,PpOk x:=by
 unfold My;split
 .exact h
 .grind
mutual
theorem He(y:Sy):∀(t:Tr) (ps:List Pp),(∀ x∈ps,PpOk x)->(C2 y t ps).2.length<=ps.length+E2 t/\∀ x∈(C2 y t ps).2,PpOk x
 |.mk k l r op p q ks,ps,h=>by
  rw[Mc,E2];split
  .split
   .have:=Ac2 ps (Dd y (.mk k l r op p q ks)).1
    exact⟨by show (My _ _).length<=_;omega,AhI h (OP y _)⟩
   .exact⟨by show ps.length<=_;omega,h⟩
  .have g:=Qa y ks ps h
   exact⟨by show (CJ y ks ps).2.length<=_;omega,g.2⟩
theorem Qa(y:Sy):∀(ks:List Tr) (ps:List Pp),(∀ x∈ps,PpOk x)->(CJ y ks ps).2.length<=ps.length+Gz ks/\∀ x∈(CJ y ks ps).2,PpOk x
 |[],ps,h=>⟨by rw[CJ];simp[Gz],by rw[CJ];exact h⟩
 |x::r,ps,h=>by
  have g1:=He y x ps h;have g2:=Qa y r (C2 y x ps).2 g1.2;rw[Ii,Gz];split
  .exact⟨by show (C2 y x ps).2.length<=_;omega,g1.2⟩
  .exact⟨by show (CJ y r (C2 y x ps).2).2.length<=_;omega,g2.2⟩
end
structure ResF (D:Orc):Prop where
 form:∀(vars:List ByteArray) (t:Tr),vars.length<4611686018427387904->WzT t->D.ask (.fn 27) [.agg (BH t),.ls (vars.map eS)] []=V (.tup [.agg (eF (Ex vars t).1),bv (Ex vars t).2],[])
 same:∀ x y:Fm,CanF x->CanF y->FB 128 30000 x->FB 128 30000 y->D.ask (.fn 233) [.agg (eF x),.agg (eF y)] []=V (bv (WM x y),[])
 index:∀(xs:List ByteArray) (s:ByteArray),xs.length<4611686018427387904->D.ask (.fn 88) [.ls (xs.map eS),sv s] []=V (iv (Dr (xs.findIdx? (s = ·))),[])
 procs:∀ y:Sy,y.ps.length<=1000000->D.ask (.fn 232) [.agg (Gj y)] []=V (.ls ((y.ps.map (·.name)).map eS),[])
 right:∀ t:Tr,WzT t->WzP t->D.ask (.fn 36) [.agg (BH t)] []=V (bv (AO t 0),[])
def Z9(y:Sy)(b n:Nat):ABlk:=Ψ (Gj y++[.sl b 0 n 9]) U Θ
def rbN(y:Sy):ABlk:=Ψ (Gj y++[.v (.slice Δ 0 0)]) U Θ
def Gg(ps:List Pp):ABlk:=Ψ (Av EE ps) U U
def bxP(p:Pp):ABlk:=Ψ (EE p) U Θ
theorem Cm(h:Bool)(a b k:Int)(t:Tm)(e:Bool)(ks:List Fm):EE ⟨h,a,b,.mk k t e ks⟩=[bv h,iv a,iv b,iv k,.ls (t.ps.map eP),bv t.k.neg,eN t.k.abs,bv e,.ls (eFs ks)]:=by
 unfold EE;rw[eF]
section
variable {D:Orc} (K:Knows FV Sm D) (R:ResF D)
include K R
theorem AgN{p q:Pp}(hp:PpOk p)(hq:PpOk q):D.ask (.fn 191) [.agg (EE p),.agg (EE q)] []=V (bv (DI p q),[]):=by
 have g:=R.same p.f q.f hp.can hq.can hp.fb hq.fb;obtain⟨a,b,c,f⟩:=p;obtain⟨a',b',c',f'⟩:=q;obtain⟨k,t,e,ks⟩:=f;obtain⟨k',t',e',ks'⟩:=f';simp only[Cm,eF,eN]at g ⊢;unfold DI;refine Aq K Als (Atq ..) ?_
 by_cases h1:a=a'
 .subst h1
  rw[show Ai.beq a a=U by cases a<;>rfl];refine Af ?_
  by_cases h2:b=b'
  .refine Aw ?_ h2
   by_cases h3:c=c'
   .refine Aw ?_ h3
    refine Aa g ?_;simp only[Ae];rw[beq_self_eq_true,Ba h2,Ba h3,AvR,AvR,AvR]
    cases WM (.mk k t e ks) (.mk k' t' e' ks')<;>rfl
   .refine Ap ?_ h3
    rw[Bu h3];simp
  .refine Ap ?_ h2
   rw[Bu h2];simp
 .rw[show Ai.beq a a'=Θ by cases a<;>cases a'<;>first|rfl|exact absurd rfl h1]
  refine Bm ?_;rw[show (a == a')=Θ by cases a<;>cases a'<;>first|rfl|exact absurd rfl h1];rfl
theorem Ajp{p q:Pp}(hp:PpOk p)(hq:PpOk q):D.ask (.fn 190) [.agg (EE q),.ptr 0 0] [bxP p]=V (bv (DI p q),[.keep]):=by
 have g:=AgN K R hp hq;obtain⟨a,b,c,f⟩:=p;obtain⟨a',b',c',f'⟩:=q;obtain⟨k,t,e,ks⟩:=f;obtain⟨k',t',e',ks'⟩:=f';unfold bxP;simp only[Cm,eN]at g ⊢;refine Aq K Alr (Atp ..) ?_;refine Aa g ?_;simp only[Ae]
 cases DI ⟨a,b,c,.mk k t e ks⟩ ⟨a',b',c',.mk k' t' e' ks'⟩<;>rfl
def fnQ(b:Nat):AV:=.fn (.func 190) [] [.ptr b 0]
theorem Aiq{ps:List Pp}{p:Pp}(hl:ps.length<=1000000)(hps:∀ x∈ps,PpOk x)(hp:PpOk p):∀(m i:Nat),ps.length-i=m->i<=ps.length->D.ask (.lp 189 0) [.sl 0 0 ps.length 9,fnQ 1,iv (ps.length:Int),iv (i:Int)] [Gg ps,bxP p]
   = V (match (ps.drop i).findIdx? (DI p) with|some j=>.tup [bv U,.sl 0 0 ps.length 9,iv ((i+j:Nat):Int)] | none=>.tup [iv 0,.sl 0 0 ps.length 9],[.set (Gg ps),.keep]):=by
 intro m
 induction m with
 |zero=>
  intro i hm hi;rw[ο (by omega)];obtain⟨a,b,c,k,t,e,ks⟩:=p;unfold bxP Gg fnQ;rw[Cm];refine Ax K U1 (Y3 ..) ?_;exact Am rfl
 |succ m ih=>
  intro i hm hi;have h1:i<ps.length:=by omega
  have g:=Ajp K R hp (hps _ (AvN h1));have ih:=ih (i+1) (by omega) (by omega);rw[ω h1,List.findIdx?_cons];have r1:=λk:Ab->KR=>BC Ed ps i h1 k
  revert g r1;generalize ps[i]=q;intro g r1;obtain⟨a,b,c,f⟩:=p;obtain⟨k,t,e,ks⟩:=f;obtain⟨a',b',c',f'⟩:=q;obtain⟨k',t',e',ks'⟩:=f';unfold bxP Gg fnQ at *;simp only[Cm,eN]at g ih r1 ⊢;refine Ax K U1 (Y3 ..) ?_;refine Ao ?_;rw[AA,Be h1];refine Af ?_;refine(r1 _).trans ?_;simp only[Ae];refine Aa g ?_;simp only[Ae]
  cases DI ⟨a,b,c,.mk k t e ks⟩ ⟨a',b',c',.mk k' t' e' ks'⟩ with
  |true=>
   refine Af ?_;rfl
  |false=>
   refine Bm ?_;rw[Bn (by omega)];refine Aa ih ?_;simp only[Awi,if_false]
   cases h:(ps.drop (i+1)).findIdx? (DI ⟨a,b,c,.mk k t e ks⟩) with
   |none=>rfl
   |some j=>
    simp only[AvP,show i+(j+1)=i+1+j by omega];rfl
def Auy:Option Nat->Int
 |some j=>(j:Int)
 |none=>-1
theorem Air{ps:List Pp}{p:Pp}(hl:ps.length<=1000000)(hps:∀ x∈ps,PpOk x)(hp:PpOk p):D.ask (.fn 189) [.sl 0 0 ps.length 9,fnQ 1] [Gg ps,bxP p]=V (iv (Auy (ps.findIdx? (DI p))),[.set (Gg ps),.keep]):=by
 have g:=Aiq K R hl hps hp _ 0 rfl (by omega);rw[κ]at g;obtain⟨a,b,c,f⟩:=p;obtain⟨k,t,e,ks⟩:=f;unfold bxP Gg fnQ at *;simp only[Cm,eN]at g ⊢;refine Aq K U1 (Aqc ..) ?_;refine Aa g ?_
 cases ps.findIdx? (DI ⟨a,b,c,.mk k t e ks⟩) with
 |none=>rfl
 |some j=>
  simp only[AvW];rfl
theorem Ae5(p:Pp):D.ask (.fn 189) [.v (.slice Δ 0 0),fnQ 0] [bxP p]=V (iv (-1),[.keep]):=by
 have g:D.ask (.lp 189 0) [.v (.slice Δ 0 0),fnQ 0,iv 0,iv 0] [bxP p]=V (.tup [iv 0,.v (.slice Δ 0 0)],[.keep]):=by
  obtain⟨a,b,c,f⟩:=p;obtain⟨k,t,e,ks⟩:=f;unfold bxP fnQ;simp only[Cm,eN];refine Ax K S8 (Ah6 ..) ?_;exact Am rfl
 obtain⟨a,b,c,f⟩:=p;obtain⟨k,t,e,ks⟩:=f;unfold bxP fnQ at *;simp only[Cm,eN]at g ⊢;refine Aq K S8 (Aqb ..) ?_;refine Aa g ?_;rfl
end
theorem Co(y:Sy)(b n:Nat):Z9 y b n=Ψ [.ls (y.vars.map eS),.ls y.s2,iv y.s3,.ls y.s4,bv y.s5,.ls y.s6,bv y.s7,.ls y.s8,.ls (y.ps.map O3),.ls y.s10,.sl b 0 n 9] U Θ:=rfl
theorem P2(y:Sy):rbN y=Ψ [.ls (y.vars.map eS),.ls y.s2,iv y.s3,.ls y.s4,bv y.s5,.ls y.s6,bv y.s7,.ls y.s8,.ls (y.ps.map O3),.ls y.s10,.v (.slice Δ 0 0)] U Θ:=rfl
structure SyB (y:Sy):Prop where
 vars:y.vars.length<4611686018427387904
 ps:y.ps.length<=1000000
 locs:∀ p∈y.ps,p.locs.length<4611686018427387904
theorem Aks(h:Bool)(a b:Int):EE ⟨h,a,b,F0⟩=[bv h,iv a,iv b,iv 0,.ls [],bv Θ,.ls [],bv Θ,.ls []]:=rfl
section
variable {D:Orc} (K:Knows FV Sm D) (R:ResF D)
include K R
theorem AfX(y:Sy){ps:List Pp}{p:Pp}(hl:ps.length<=1000000)(hps:∀ x∈ps,PpOk x)(hp:PpOk p):D.ask (.fn 130) [.ptr 0 0,.agg (EE p)] [Z9 y 1 ps.length,Gg ps]=V (iv (AbE ps p),[.set (Z9 y 2 (My ps p).length),.del,.set (Gg (My ps p))]):=by
 have g:=Air K R hl hps hp;have hf:AU (ps.length+1) 120=U:=AL (by omega) (by omega);have hb1:AvL (0+ps.length*9) (Av EE ps).length=U:=AK Ed ps (by omega);have e3:AvI 0 (AvG (0+ps.length*9) (Av EE ps))++EE p=Av EE (ps++[p]):=by
  rw[κ,A0 Ed ps (by omega)];exact AW EE ps _
 unfold AbE My;revert g e3;generalize ps.findIdx? (DI p)=o;intro g e3;obtain⟨a,b,c,f⟩:=p;obtain⟨k,t,e,ks⟩:=f;rw[Co,Co];unfold bxP Gg fnQ at *;simp only[Cm,eN]at g e3 ⊢;refine Aq K AeJ (Ap6 ..) ?_;refine Aa g ?_;simp only[Ae]
 cases o with
 |none=>
  refine Ao ?_ (by show (-1:Int)<0;decide);rw[hf];refine Af ?_;rw[hb1];refine Af ?_;rw[e3,ζ];rfl
 |some j=>
  refine Am ?_ (by show ¬ (j:Int)<0;omega);rfl
theorem AfW(y:Sy)(p:Pp):D.ask (.fn 130) [.ptr 0 0,.agg (EE p)] [rbN y]=V (iv (AbE [] p),[.set (Z9 y 1 (My [] p).length),.set (Gg (My [] p))]):=by
 have g:=Ae5 K R p;obtain⟨a,b,c,f⟩:=p;obtain⟨k,t,e,ks⟩:=f;rw[Co,P2];unfold bxP Gg fnQ at *;simp only[Cm,eN]at g ⊢;refine Aq K AeI (Ap5 ..) ?_;refine Aa g ?_;simp only[Ae];refine Ao ?_ (by decide)
 show _=V (iv 0,[BO.set (Ψ _ U Θ),BO.set (Ψ (Av EE [⟨a,b,c,.mk k t e ks⟩]) U U)])
 rw[show Av EE [⟨a,b,c,.mk k t e ks⟩]=EE ⟨a,b,c,.mk k t e ks⟩ by simp[Av],Cm];rfl
theorem Aju{y:Sy}(B:SyB y)(k:Int)(l r:List Mo)(op:Int)(p q:ByteArray)(ks:List Tr)(n:Nat)(c:Ab):D.ask (.fn 188) [.ptr 0 0,.agg (BH (.mk k l r op p q ks))] [Z9 y 1 n,Ψ c U U]=V (.tup [.agg (EE (FX y p q).1),bv (FX y p q).2],[.keep,.keep]):=by
 have g1:=R.procs y B.ps;have g2:=R.index (y.ps.map (·.name)) p (by rw[Av8];have:=B.ps;omega);rw[show Gj y=[.ls (y.vars.map eS),.ls y.s2,iv y.s3,.ls y.s4,bv y.s5,.ls y.s6,bv y.s7,.ls y.s8,.ls (y.ps.map O3),.ls y.s10] from rfl]at g1;rw[Co];rw[BH];refine Aq K Zf (Aqa ..) ?_;refine Aa g1 ?_;simp only[Ae];refine Aa g2 ?_;simp only[Ae];unfold FX
 cases h:(y.ps.map (·.name)).findIdx? (p = ·) with
 |none=>
  refine Ao ?_ (by show (-1:Int)<0;decide);rfl
 |some i=>
  obtain⟨hi,_⟩:=AwL.1 h;rw[Av8]at hi;refine Am ?_ (by show ¬ (i:Int)<0;omega)
  show unI (i:Int) _=_
  rw[AA,Az (Ω hi)];have g3:=R.index y.ps[i].locs q (B.locs _ (AvN hi));simp only[Ω hi,AvP,AxR];revert g3;generalize y.ps[i]=pr;intro g3;obtain⟨nm,lc,cm⟩:=pr;simp only[O3,Ae];refine Aa g3 ?_;simp only[Ae,Aks]
  by_cases h0:(0:Int)<=Dr (lc.findIdx? (q = ·))
  .refine CL ?_ h0
   rw[Ba h0];rfl
  .refine C7 ?_ h0
   rw[Bu h0];rfl
theorem Ajt{y:Sy}(B:SyB y)(k:Int)(l r:List Mo)(op:Int)(p q:ByteArray)(ks:List Tr):D.ask (.fn 188) [.ptr 0 0,.agg (BH (.mk k l r op p q ks))] [rbN y]=V (.tup [.agg (EE (FX y p q).1),bv (FX y p q).2],[.keep]):=by
 have g1:=R.procs y B.ps;have g2:=R.index (y.ps.map (·.name)) p (by rw[Av8];have:=B.ps;omega);rw[show Gj y=[.ls (y.vars.map eS),.ls y.s2,iv y.s3,.ls y.s4,bv y.s5,.ls y.s6,bv y.s7,.ls y.s8,.ls (y.ps.map O3),.ls y.s10] from rfl]at g1;rw[P2];rw[BH];refine Aq K Zf (Ap9 ..) ?_;refine Aa g1 ?_;simp only[Ae];refine Aa g2 ?_;simp only[Ae];unfold FX
 cases h:(y.ps.map (·.name)).findIdx? (p = ·) with
 |none=>
  refine Ao ?_ (by show (-1:Int)<0;decide);rfl
 |some i=>
  obtain⟨hi,_⟩:=AwL.1 h;rw[Av8]at hi;refine Am ?_ (by show ¬ (i:Int)<0;omega)
  show unI (i:Int) _=_
  rw[AA,Az (Ω hi)];have g3:=R.index y.ps[i].locs q (B.locs _ (AvN hi));simp only[Ω hi,AvP,AxR];revert g3;generalize y.ps[i]=pr;intro g3;obtain⟨nm,lc,cm⟩:=pr;simp only[O3,Ae];refine Aa g3 ?_;simp only[Ae,Aks]
  by_cases h0:(0:Int)<=Dr (lc.findIdx? (q = ·))
  .refine CL ?_ h0
   rw[Ba h0];rfl
  .refine C7 ?_ h0
   rw[Bu h0];rfl
theorem AnK{y:Sy}(B:SyB y)(t:Tr)(hz:WzT t)(n:Nat)(c:Ab):D.ask (.fn 129) [.ptr 0 0,.agg (BH t)] [Z9 y 1 n,Ψ c U U]=V (.tup [.agg (EE (Dd y t).1),bv (Dd y t).2],[.keep,.keep]):=by
 have gf:=R.form y.vars t B.vars hz;obtain⟨k,l,r,op,p,q,ks⟩:=t;have gp:=Aju K R B k l r op p q ks n c;rw[Dd];rw[Co]at gp ⊢;rw[BH]at gp gf ⊢;refine Aq K AeH (Ap4 ..) ?_
 by_cases h:k=6
 .refine Aw ?_ h
  rw[Ac h];refine Aa gp ?_;generalize FX y p q=x;obtain⟨⟨a,b,c,k',t',e',ks'⟩,z⟩:=x;simp only[Cm,Ae];rfl
 .refine Ap ?_ h
  rw[Ad h];refine Aa gf ?_;generalize Ex y.vars (.mk k l r op p q ks)=x;obtain⟨⟨k',t',e',ks'⟩,z⟩:=x;simp only[eF,eN,Cm,Ae]
theorem AnJ{y:Sy}(B:SyB y)(t:Tr)(hz:WzT t):D.ask (.fn 129) [.ptr 0 0,.agg (BH t)] [rbN y]=V (.tup [.agg (EE (Dd y t).1),bv (Dd y t).2],[.keep]):=by
 have gf:=R.form y.vars t B.vars hz;obtain⟨k,l,r,op,p,q,ks⟩:=t;have gp:=Ajt K R B k l r op p q ks;rw[Dd];rw[P2]at gp ⊢;rw[BH]at gp gf ⊢;refine Aq K AeG (Ap3 ..) ?_
 by_cases h:k=6
 .refine Aw ?_ h
  rw[Ac h];refine Aa gp ?_;generalize FX y p q=x;obtain⟨⟨a,b,c,k',t',e',ks'⟩,z⟩:=x;simp only[Cm,Ae];rfl
 .refine Ap ?_ h
  rw[Ad h];refine Aa gf ?_;generalize Ex y.vars (.mk k l r op p q ks)=x;obtain⟨⟨k',t',e',ks'⟩,z⟩:=x;simp only[eF,eN,Cm,Ae]
end
def N5:Option Rf->AV
 |some f=>.tup [.agg (eG f),bv U]
 |none=>.tup [.agg [iv 0,iv 0,.ls []],bv Θ]
def YW:ABlk:=Ψ [iv 0,iv 0,.ls []] U Θ
def kbx(k:Int)(b n:Nat):ABlk:=Ψ [iv k,iv 0,.sl b 0 n 3] U Θ
def rwG(l:List Rf):ABlk:=Ψ (Av eG l) U U
def rqA(y:Sy)(k:Int)(out:List Rf)(ps:List Pp):Option (List Rf)->AV × List BO
 |none=>(.tup [bv U,.ptr 0 0,.ptr 1 0,bv Θ],[.set (Z9 y 5 ps.length),.set YW,.del,.del,.del,.set (Gg ps)])
 |some fs=>(.tup [iv 0,.ptr 0 0,.ptr 1 0,.ptr 2 0],[.set (Z9 y 5 ps.length),.set YW,.set (kbx k 6 (out++fs).length),.del,.del,.set (Gg ps),.set (rwG (out++fs))])
theorem M3:∀ l:List Tr,l.length<=Gz l
 |[]=>Nat.zero_le _
 |x::r=>by
  have:=M3 r;have h:1<=E2 x:=by
   obtain⟨k,a,b,c,d,e,ks⟩:=x;rw[E2];omega
  rw[Gz,ε];omega
section
variable {D:Orc} (K:Knows FV Sm D) (R:ResF D)
include K
theorem Agq{y:Sy}(ks:List Tr)(k:Int)(hk:ks.length<=1000000)(g:∀ x∈ks,∀ ps:List Pp,(∀ p∈ps,PpOk p)->ps.length+E2 x<=1000000->D.ask (.fn 72) [.ptr 0 0,.agg (BH x)] [Z9 y 1 ps.length,Gg ps]=V (N5 (C2 y x ps).1,[.set (Z9 y 2 (C2 y x ps).2.length),.del,.set (Gg (C2 y x ps).2)])):∀(m i:Nat) (ps:List Pp) (out:List Rf),ks.length-i=m->i<=ks.length->out.length<=i->(∀ p∈ps,PpOk p)->ps.length+Gz (ks.drop i)<=1000000->
  D.ask (.lp 72 0) [.ptr 0 0,.ptr 1 0,.ptr 2 0,.ls (ks.map BH),iv (ks.length:Int),iv (i:Int)] [Z9 y 3 ps.length,YW,kbx k 4 out.length,Gg ps,rwG out]=V (rqA y k out (CJ y (ks.drop i) ps).2 (CJ y (ks.drop i) ps).1):=by
 intro m
 induction m with
 |zero=>
  intro i ps out hm hi ho hp hn;rw[ο (by omega),CJ]
  show _=V (rqA y k out ps (V []))
  unfold rqA;simp only[Awc];unfold YW kbx Gg rwG;rw[Co,Co];refine Ax K Vh (Aei ..) ?_;exact Am rfl
 |succ m ih=>
  intro i ps out hm hi ho hp hn;have h1:i<ks.length:=by omega
  rw[ω h1,Gz]at hn;rw[ω h1,Ii];have gx:=g ks[i] (AvN h1) ps hp (by omega);have gq:=He y ks[i] ps hp;have hf:AU (out.length+1) 40=U:=AL (by omega) (by omega);have hb1:AvL (0+out.length*3) (Av eG out).length=U:=AK MM out (by omega);have ih:=λf=>ih (i+1) (C2 y ks[i] ps).2 (out++[f]) (by omega) (by omega) (by simp;omega) gq.2 (by omega)
  unfold YW kbx Gg rwG at *;rw[Co];refine Ax K Vh (Aei ..) ?_;refine Ao ?_;rw[AA,Az (Ω h1)];rw[Co,Co]at gx;revert gx ih;generalize C2 y ks[i] ps=q;generalize ks[i]=x;intro gx ih;obtain⟨o,qs⟩:=q;obtain⟨xk,xl,xr,xo,xp,xq,xs⟩:=x;simp only[BH,Ae]at gx ⊢;refine Aa gx ?_
  cases o with
  |none=>
   simp only[N5,Ae];refine Af ?_;unfold rqA YW Gg;rw[Co]
  |some f=>
   have e3:AvI 0 (AvG (0+out.length*3) (Av eG out))++eG f=Av eG (out++[f]):=by
    rw[κ,A0 MM out (by omega)];exact AW eG out _
   have ih:=ih f;rw[show (out++[f]).length=out.length+1 by simp]at ih;dsimp only at ih;revert e3 ih;generalize (CJ y (ks.drop (i+1)) qs)=z;intro e3 ih;obtain⟨zo,zs⟩:=z;obtain⟨fk,fn,fks⟩:=f;simp only[N5,eG,Ae]at e3 ⊢;refine Bm ?_;rw[hf];refine Af ?_;rw[hb1];refine Af ?_;rw[e3,Bn (by omega)];rw[Co]at ih;refine Aa ih ?_
   cases zo with
   |none=>
    unfold rqA YW Gg;rw[Co];rfl
   |some fs=>
    unfold rqA YW Gg rwG kbx;rw[Co];simp only[AvP,Awu,AvO];rfl
include R
theorem ArZ{y:Sy}(B:SyB y):∀(N:Nat) (t:Tr),SizeOf.sizeOf t<N->WzT t->∀ ps:List Pp,(∀ p∈ps,PpOk p)->ps.length+E2 t<=1000000->D.ask (.fn 72) [.ptr 0 0,.agg (BH t)] [Z9 y 1 ps.length,Gg ps]=V (N5 (C2 y t ps).1,[.set (Z9 y 2 (C2 y t ps).2.length),.del,.set (Gg (C2 y t ps).2)]):=by
 intro N
 induction N with
 |zero=>intro t h;omega
 |succ N ih=>
  intro t hN hz ps hp hn;have gatom:=AnK K R B t hz ps.length (Av EE ps);have gnum:=AfX K R y (by omega) hp (OP y t);obtain⟨k,l,r,op,p,q,ks⟩:=t;have hks:ks.length<=1000000:=by
   have:=M3 ks;rw[E2]at hn;omega
  have wk:∀ x∈ks,WzT x:=by
   cases hz with
   |mk _ _ _ _ _ h=>exact h
  rw[E2]at hn;have gl:=Agq K ks k hks (λx hx ps' hp' hn'=>ih x (by have:=List.sizeOf_lt_of_mem hx;simp only[Tr.mk.sizeOf_spec]at hN;omega) (wk x hx) ps' hp' hn') _ 0 ps [] rfl (by omega) (by simp) hp (by rw[κ];omega);rw[κ,Av0]at gl;rw[Mc];rw[BH,B1]at gatom ⊢;unfold Gg rwG kbx YW at *;rw[Co]at gatom gnum gl ⊢;refine Aq K Vh (Aup ..) ?_
  by_cases h2:k=2
  .refine Aw ?_ h2
   rw[Ac (.inl h2)];refine Aa gatom ?_;revert gnum gatom;generalize Dd y (.mk k l r op p q ks)=a at *;intro gatom gnum;obtain⟨⟨a1,a2,a3,k',t',e',ks'⟩,z⟩:=a;simp only[Cm,eN]at gnum ⊢;simp only[Ae]
   cases z with
   |false=>
    refine Af ?_;rw[Ad Aw4];rfl
   |true=>
    refine Bm ?_;rw[Ac rfl];refine Aa gnum ?_;rw[Co];simp only[Ae];rw[N5,eG,eGs]
    skip
  .refine Ap ?_ h2
   by_cases h6:k=6
   .refine Aw ?_ h6
    rw[Ac (.inr h6)];refine Aa gatom ?_;revert gnum gatom;generalize Dd y (.mk k l r op p q ks)=a at *;intro gatom gnum;obtain⟨⟨a1,a2,a3,k',t',e',ks'⟩,z⟩:=a;simp only[Cm,eN]at gnum ⊢;simp only[Ae]
    cases z with
    |false=>
     refine Af ?_;rw[Ad Aw4];rfl
    |true=>
     refine Bm ?_;rw[Ac rfl];refine Aa gnum ?_;rw[Co];simp only[Ae];rw[N5,eG,eGs]
     skip
   .refine Ap ?_ h6
    rw[Ad (by omega)];rw[Aj];refine Aa gl ?_;generalize CJ y ks ps=z;obtain⟨zo,zs⟩:=z
    cases zo with
    |none=>
     simp only[Co,YW,Gg,Ae];rfl
    |some fs=>
     have hb1:AvL (0+fs.length*3) (Av eG fs).length=U:=AK MM fs (by omega);simp only[Co,YW,Gg,rwG,kbx,AvV,Ae];rw[hb1];refine Af ?_;rw[By MM fs rfl];simp only[AvP,N5];rw[eG,Oq]
theorem ArY{y:Sy}(B:SyB y)(t:Tr)(hz:WzT t)(hn:E2 t<=1000000):D.ask (.fn 72) [.ptr 0 0,.agg (BH t)] [rbN y]=V (N5 (C2 y t []).1,if(t.kind=2\/t.kind=6)/\(C2 y t []).1.isNone=U then [.set (rbN y)] else [.set (Z9 y 1 (C2 y t []).2.length),.set (Gg (C2 y t []).2)]):=by
 have gatom:=AnJ K R B t hz;have gnum:=AfW K R y (Dd y t).1;have wk:∀ x∈(match t with | .mk _ _ _ _ _ _ ks=>ks),WzT x:=by
  cases hz with
  |mk _ _ _ _ _ h=>exact h
 obtain⟨k,l,r,op,p,q,ks⟩:=t;have hks:ks.length<=1000000:=by
  have:=M3 ks;rw[E2]at hn;omega
 rw[E2]at hn;have gl:=Agq K (y:=y) ks k hks (λx hx ps' hp' hn'=>ArZ K R B _ x (AvS _) (wk x hx) ps' hp' hn') _ 0 [] [] rfl (by omega) (by simp) (by simp) (by rw[κ];simp;omega);rw[κ,Av0]at gl;rw[Mc];rw[BH,B1]at gatom ⊢;unfold Gg rwG kbx YW at *;rw[P2]at gatom gnum ⊢;rw[Co]at gl;refine Aq K AlY (Auo ..) ?_
 by_cases h2:k=2
 .refine Aw ?_ h2
  rw[Ac (.inl h2)];refine Aa gatom ?_;revert gnum gatom;generalize Dd y (.mk k l r op p q ks)=a at *;intro gatom gnum;obtain⟨⟨a1,a2,a3,k',t',e',ks'⟩,z⟩:=a;simp only[Cm,eN]at gnum ⊢;simp only[Ae]
  cases z with
  |false=>
   refine Af ?_;rw[Ad Aw4];rw[Ac ⟨.inl h2,rfl⟩];rfl
  |true=>
   refine Bm ?_;rw[Ac rfl];refine Aa gnum ?_;rw[Co];simp only[Ae];rw[N5,eG,eGs];rw[Ad (by simp)]
 .refine Ap ?_ h2
  by_cases h6:k=6
  .refine Aw ?_ h6
   rw[Ac (.inr h6)];refine Aa gatom ?_;revert gnum gatom;generalize Dd y (.mk k l r op p q ks)=a at *;intro gatom gnum;obtain⟨⟨a1,a2,a3,k',t',e',ks'⟩,z⟩:=a;simp only[Cm,eN]at gnum ⊢;simp only[Ae]
   cases z with
   |false=>
    refine Af ?_;rw[Ad Aw4];rw[Ac ⟨.inr h6,rfl⟩];rfl
   |true=>
    refine Bm ?_;rw[Ac rfl];refine Aa gnum ?_;rw[Co];simp only[Ae];rw[N5,eG,eGs];rw[Ad (by simp)]
  .refine Ap ?_ h6
   rw[Ad (by omega),Ad (λh=>h.1.elim h2 h6)];rw[Aj];refine Aa gl ?_;generalize CJ y ks []=z;obtain⟨zo,zs⟩:=z
   cases zo with
   |none=>
    simp only[Co,YW,Gg,Ae];rfl
   |some fs=>
    have hb1:AvL (0+fs.length*3) (Av eG fs).length=U:=AK MM fs (by omega);simp only[Co,YW,Gg,rwG,kbx,AvV,Ae];rw[hb1];refine Af ?_;rw[By MM fs rfl];simp only[AvP,N5];rw[eG,Oq]
end
def II(y:Sy)(t:Tr):Option (Rf × List Pp):=if AO t 0=U then(C2 y t []).1.map λf=>(f,(C2 y t []).2) else Δ
def Oe:Option (Rf × List Pp)->AV
 |some (f,ps)=>.tup [.agg (eG f),.ls (ps.map EE),bv U]
 |none=>.tup [.agg [iv 0,iv 0,.ls []],.ls [],bv Θ]
section
variable {D:Orc} (K:Knows FV Sm D) (R:ResF D)
include K R
theorem WR{y:Sy}(B:SyB y)(t:Tr)(hz:WzT t)(hp:WzP t)(hn:E2 t<=1000000):D.ask (.fn 34) [.agg (BH t),.agg (Gj y)] []=V (Oe (II y t),[]):=by
 have gr:=R.right t hz hp;have gn:=ArY K R B t hz hn;unfold II;rw[P2]at gn;rw[show Gj y=[.ls (y.vars.map eS),.ls y.s2,iv y.s3,.ls y.s4,bv y.s5,.ls y.s6,bv y.s7,.ls y.s8,.ls (y.ps.map O3),.ls y.s10] from rfl];revert gn gr;generalize hk:t.kind=kk;generalize AO t 0=b;generalize C2 y t []=z;obtain⟨k,l,r,op,p,q,ks⟩:=t;obtain⟨zo,zs⟩:=z;intro gr gn;rw[BH]at gn gr ⊢
 by_cases h:(kk=2\/kk=6)/\zo.isNone=U
 .rw[Ac h]at gn
  refine Aq K AlX (Aum ..) ?_;refine Aa gr ?_;simp only[Ae]
  cases b with
  |false=>exact Bm rfl
  |true=>
   refine Af ?_;refine Aa gn ?_
   cases zo with
   |some f=>exact absurd h.2 (by simp)
   |none=>rfl
 .rw[Ad h]at gn
  refine Aq K Aqz (Aun ..) ?_;refine Aa gr ?_;simp only[Ae]
  cases b with
  |false=>exact Bm rfl
  |true=>
   refine Af ?_;refine Aa gn ?_
   cases zo with
   |none=>
    rw[Co];rfl
   |some f=>
    have hb1:AvL (0+zs.length*9) (Av EE zs).length=U:=AK Ed zs (by omega);obtain⟨fk,fn,fks⟩:=f;rw[Co];simp only[N5,Gg,eG,Ae];refine Bm ?_;rw[hb1];refine Af ?_;rw[By Ed zs rfl];simp only[if_true,AvP];rw[Oe,eG]
end
def Arh(k:Int):KT:=if k=3 then(2,[33]) else if k=8 then(4,[88]) else if k=9 then(4,[71]) else if k=10 then(4,[70]) else if k=4 then(2,[38]) else if k=5 then(2,[124]) else if k=7 then(2,[45,62]) else if k=11 then(4,[85]) else(4,[82])
def Aoy:Tr->List KT
 |.mk k l r op p q _=>if k=0 then [(1,[116,114,117,101])] else if k=1 then [(1,[102,97,108,115,101])] else if k=6 then [(2,[64]),(1,p.data.toList),(2,[46]),(1,q.data.toList)] else Ag0 0 l++[(2,M4.getD op.toNat [])]++Ag0 0 r
def Aox(t:Tr):List (List KT)->List KT
 |[]=>Aoy t
 |[a]=>Arh t.kind::a
 |a::b::_=>a++Arh t.kind::b
mutual
def CD:Tr->List KT
 |.mk k l r op p q ks=>Aox (.mk k l r op p q []) (Al7 k 0 ks)
def Al7(k:Int):Nat->List Tr->List (List KT)
 |_,[]=>[]
 |i,x::r=>Lj (Cd k i x.kind) (CD x)::Al7 k (i+1) r
end
def HdL(s:List UInt8):Prop:=∃ d r,s=d::r/\d≠61
theorem HdB.l{s:List UInt8}(h:HdB s):HdL s:=by
 obtain⟨d,r,rfl,h⟩:=h;refine⟨d,r,rfl,?_⟩;rintro rfl;revert h
 decide
structure ResK (b:Bool) (r:Nat × Nat × Tr) (j:Nat) (t:Tr):Prop where
 y:b=U->r=(j,0,t)
 n:b=Θ->r.2.1=110
section
variable {ts:List Tk} (vars:List ByteArray)
def AuA(m:Mo):Bool:=decide (m.var=Ag [])||decide (m.var∈vars)
def Aq8(ms:List Mo):Bool:=ms.all (AuA vars)
end
section
variable {ts:List Tk} (vars:List ByteArray) (ps:List Pr)
def Auz(p q:ByteArray):Bool:=match Aft ps p with
 |none=>Θ
 |some x=>decide (q∈x.locs)
mutual
def knT:Tr->Bool
 |.mk k l r _ p q ks=>if k=2 then Aq8 vars l&&Aq8 vars r else if k=6 then Auz ps p q else Aq9 ks
def Aq9:List Tr->Bool
 |[]=>U
 |x::r=>knT x&&Aq9 r
end
def StopP(a:KT):Prop:=a∈[((5,[]):KT),(2,[41]),(2,[38]),(2,[124]),(2,[45,62]),(4,[85]),(4,[82])]
theorem StopP.ne{a:KT}(h:StopP a):a.2≠[42]/\a.2≠[43]/\a.2≠[45]:=by
 have:∀ a∈[((5,[]):KT),(2,[41]),(2,[38]),(2,[124]),(2,[45,62]),(4,[85]),(4,[82])],a.2≠[42]/\a.2≠[43]/\a.2≠[45]:=by decide
 exact this a h
theorem Arg(n i d:Nat):Ge ts vars U ps (n+1) .un i d=(if((RH ts i).isSome||isT ts i [40])=U/\d=60 then(i,102,T0)
  else match RH ts i with
   |some k=>Cq (Ge ts vars U ps n .un (i+1) (d+1)) λj x=>(j,0,NK k [x])
   |none=>if isT ts i [40] then Cq (Ge ts vars U ps n .prop (i+1) (d+1)) λj x=>if isT ts j [41] then(j+1,0,x) else(j,101,T0)
    else if isT ts i [64] then Zo ts ps (i+1)
    else if isT ts i [116,114,117,101] then(i+1,0,NK 0 [])
    else if isT ts i [102,97,108,115,101] then(i+1,0,NK 1 [])
    else AnT ts vars U i):=rfl
theorem Aov(n i d:Nat):Ge ts vars U ps (n+1) .bin i d=Cq (Ge ts vars U ps n .un i d) λj x=>if isT ts j [85] then Cq (Ge ts vars U ps n .bin (j+1) d) λj2 y=>(j2,0,NK 11 [x,y])
   else if isT ts j [82] then Cq (Ge ts vars U ps n .bin (j+1) d) λj2 y=>(j2,0,NK 12 [x,y]) else(j,0,x):=rfl
theorem Aou(n i d:Nat):Ge ts vars U ps (n+1) .and i d=Cq (Ge ts vars U ps n .bin i d) λj x=>Ge ts vars U ps n (.andL x) j d:=rfl
theorem AiH(n i d:Nat)(x:Tr):Ge ts vars U ps (n+1) (.andL x) i d=if isT ts i [38] then Cq (Ge ts vars U ps n .bin (i+1) d) λj y=>Ge ts vars U ps n (.andL (NK 4 [x,y])) j d else(i,0,x):=rfl
theorem Arf(n i d:Nat):Ge ts vars U ps (n+1) .or i d=Cq (Ge ts vars U ps n .and i d) λj x=>Ge ts vars U ps n (.orL x) j d:=rfl
theorem Aow(n i d:Nat)(x:Tr):Ge ts vars U ps (n+1) (.orL x) i d=if isT ts i [124] then Cq (Ge ts vars U ps n .and (i+1) d) λj y=>Ge ts vars U ps n (.orL (NK 5 [x,y])) j d else(i,0,x):=rfl
theorem AiI(n i d:Nat):Ge ts vars U ps (n+1) .prop i d=Cq (Ge ts vars U ps n .or i d) λj x=>if isT ts j [45,62] then Cq (Ge ts vars U ps n .prop (j+1) d) λj2 y=>(j2,0,NK 7 [x,y]) else(j,0,x):=rfl
theorem Jq(j:Nat)(x:Tr)(k:Nat->Tr->Nat × Nat × Tr):Cq (j,0,x) k=k j x:=by
 unfold Cq;rw[Ac rfl]
theorem Hk{r:Nat × Nat × Tr}(h:r.2.1=110)(k:Nat->Tr->Nat × Nat × Tr):(Cq r k).2.1=110:=by
 unfold Cq;rw[Ad (by omega)];exact h
def LU(ts:List Tk)(t:Tr)(b:Bool):Prop:=∀(f i d:Nat) (a:KT) (q:List KT),QF ts i (Lj b (CD t)++a::q)->StopP a->Et b d<=60->AO t (Et b d)=U->8*(Lj b (CD t)).length<=f->
 ResK (knT vars ps t) (Ge ts vars U ps f .un i d) (i+(Lj b (CD t)).length) t
def LBj(ts:List Tk)(t:Tr)(b:Bool):Prop:=∀(f i d:Nat) (a:KT) (q:List KT),QF ts i (Lj b (CD t)++a::q)->StopP a->a.2≠[85]->a.2≠[82]->Et b d<=60->AO t (Et b d)=U->8*(Lj b (CD t)).length+1<=f->
 ResK (knT vars ps t) (Ge ts vars U ps f .bin i d) (i+(Lj b (CD t)).length) t
def LA(ts:List Tk)(t:Tr)(b:Bool):Prop:=∀(f i d:Nat) (a:KT) (q:List KT),QF ts i (Lj b (CD t)++a::q)->StopP a->a.2≠[85]->a.2≠[82]->Et b d<=60->AO t (Et b d)=U->8*(Lj b (CD t)).length+2<=f->
 ∃ g,f<=g+8*(Lj b (CD t)).length/\1<=g/\(knT vars ps t=U->Ge ts vars U ps f .and i d=Ge ts vars U ps g (.andL t) (i+(Lj b (CD t)).length) d)/\(knT vars ps t=Θ->(Ge ts vars U ps f .and i d).2.1=110)
def LO(ts:List Tk)(t:Tr)(b:Bool):Prop:=∀(f i d:Nat) (a:KT) (q:List KT),QF ts i (Lj b (CD t)++a::q)->StopP a->a.2≠[85]->a.2≠[82]->a.2≠[38]->Et b d<=60->AO t (Et b d)=U->8*(Lj b (CD t)).length+3<=f->
 ∃ g,f<=g+8*(Lj b (CD t)).length/\1<=g/\(knT vars ps t=U->Ge ts vars U ps f .or i d=Ge ts vars U ps g (.orL t) (i+(Lj b (CD t)).length) d)/\(knT vars ps t=Θ->(Ge ts vars U ps f .or i d).2.1=110)
def LP(ts:List Tk)(t:Tr):Prop:=∀(f i d:Nat) (a:KT) (q:List KT),QF ts i (CD t++a::q)->a=(5,[])\/a=(2,[41])->d<=60->AO t d=U->8*(CD t).length+4<=f->
 ResK (knT vars ps t) (Ge ts vars U ps f .prop i d) (i+(CD t).length) t
theorem LU.b{t:Tr}{b:Bool}(h:LU vars ps ts t b):LBj vars ps ts t b:=by
 intro f i d a q hat ha h1 h2 hd hr hf;obtain⟨n,rfl⟩:∃ n,f=n+1:=⟨f-1,by omega⟩;have g:=h n i d a q hat ha hd hr (by omega);have hat2:QF ts (i+(Lj b (CD t)).length) (a::q):=Jw hat;rw[Aov];refine⟨λe=>?_,λe=>Hk (g.n e) _⟩;rw[g.y e,Jq,EI hat2 h1,EI hat2 h2];rfl
theorem LBj.a{t:Tr}{b:Bool}(h:LBj vars ps ts t b)(hl:1<=(Lj b (CD t)).length):LA vars ps ts t b:=by
 intro f i d a q hat ha h1 h2 hd hr hf;obtain⟨n,rfl⟩:∃ n,f=n+1:=⟨f-1,by omega⟩;have g:=h n i d a q hat ha h1 h2 hd hr (by omega);rw[Aou];refine⟨n,by omega,by omega,λe=>?_,λe=>Hk (g.n e) _⟩;rw[g.y e,Jq]
theorem LA.o{t:Tr}{b:Bool}(h:LA vars ps ts t b)(hl:1<=(Lj b (CD t)).length):LO vars ps ts t b:=by
 intro f i d a q hat ha h1 h2 h3 hd hr hf;obtain⟨n,rfl⟩:∃ n,f=n+1:=⟨f-1,by omega⟩;obtain⟨g,g1,g2,g3,g4⟩:=h n i d a q hat ha h1 h2 hd hr (by omega);have hat2:QF ts (i+(Lj b (CD t)).length) (a::q):=Jw hat;obtain⟨g,rfl⟩:∃ n,g=n+1:=⟨g-1,by omega⟩;rw[Arf];refine⟨n,by omega,by omega,λe=>?_,λe=>Hk (g4 e) _⟩;rw[g3 e,AiH,EI hat2 h3];exact Jq _ _ _
theorem LO.p{t:Tr}(h:LO vars ps ts t Θ):LP vars ps ts t:=by
 intro f i d a q hat ha hd hr hf;have hs:StopP a:=by rcases ha with rfl|rfl<;>(unfold StopP;decide)
 have n1:a.2≠[85]/\a.2≠[82]/\a.2≠[38]/\a.2≠[124]/\a.2≠[45,62]:=by rcases ha with rfl|rfl<;>decide
 obtain⟨n,rfl⟩:∃ n,f=n+1:=⟨f-1,by omega⟩;have hf:8*(CD t).length+4<=n+1:=hf;obtain⟨g,g1,g2,g3,g4⟩:=h n i d a q hat hs n1.1 n1.2.1 n1.2.2.1 hd hr (by
  show 8*(CD t).length+3<=n
  omega)
 have hat2:QF ts (i+(CD t).length) (a::q):=Jw hat;obtain⟨g,rfl⟩:∃ n,g=n+1:=⟨g-1,by omega⟩;rw[AiI];refine⟨λe=>?_,λe=>Hk (g4 e) _⟩;have g3:=g3 e;rw[show (Lj Θ (CD t))=CD t from rfl,Aow,EI hat2 n1.2.2.2.1]at g3;rw[g3];simp only[Awi,if_false];rw[Jq,EI hat2 n1.2.2.2.2];rfl
theorem Adj(s:List KT):(Lj U s).length=s.length+2:=by
 unfold Lj;rw[Ac rfl];simp
theorem LP.br{t:Tr}(h:LP vars ps ts t):LU vars ps ts t U:=by
 intro f i d a q hat ha hd hr hf;rw[Adj]at hf ⊢;obtain⟨n,rfl⟩:∃ n,f=n+1:=⟨f-1,by omega⟩;have hat:QF ts i ((2,[40])::(CD t++(2,[41])::a::q)):=by
  grind [Lj,CD]
 have hd:d+1<=60:=hd;have h2:=(IQ hat).2;have g:=h n (i+1) (d+1) (2,[41]) (a::q) h2 (.inr rfl) hd hr (by omega);have h3:=Jw h2;have hp:RH ts i=Δ:=by
  unfold RH;rw[EI hat (by decide),EI hat (by decide),EI hat (by decide),EI hat (by decide)];rfl
 rw[Arg,hp,Ad (λe=>by have:=e.2;omega)];simp only;rw[Ow hat,Ac rfl];refine⟨λe=>?_,λe=>Hk (g.n e) _⟩;rw[g.y e,Jq,Ow h3,Ac rfl];rw[show i+1+(CD t).length+1=i+((CD t).length+2) by omega]
theorem YF(k:Int):Ga k=1\/Ga k=2\/Ga k=3\/Ga k=4\/Ga k=5:=by
 grind [Ga]
end



theorem TC(x:Nat)(h:x<18446744073709551616):Ai.quo .u64 (x:Int) 4294967296=((x / 4294967296:Nat):Int):=by
 show IntKind.u64.wrap ((x:Int).tdiv 4294967296)=_
 have:(x:Int).tdiv 4294967296=((x / 4294967296:Nat):Int):=rfl;rw[this,IntKind.wrap_u64];omega
theorem TD(x:Nat):Ai.rem .u64 (x:Int) 4294967296=((x % 4294967296:Nat):Int):=by
 show (x:Int).tmod 4294967296=_
 rfl
theorem Acp(l:Al)(n:Nat):(Av eL l).take n=Av eL (l.take n):=by rw[Ij,Ij,List.map_take]
theorem W5(l:Al)(n:Nat)(h:n<=l.length):Bo n 1 ((Av eL l).take (n*1))=(l.take n).map eL:=by
 rw[Nat.mul_one,Acp];have:=Dk A9 (l.take n)
 rwa [Av6,AwM h]at this
theorem MR(l:Al)(i:Nat):(l.drop i).headD 0=l.getD i 0:=by
 rw[Av1]
 by_cases h:i<l.length
 .rw[ω h,Ω h];rfl
 .rw[ο (by omega),Aw5 (by omega)];rfl
theorem Ov{l:Al}(h:Limbs l)(i:Nat):l.getD i 0<4294967296:=by
 rw[←MR];exact FS (h.drop i)
def Eu(n:Nat)(l:Al):Al:=l++AxL (n-l.length) 0
theorem Ake(n:Nat):As (AxL n 0)=0:=by
 induction n with
 |zero=>rfl
 |succ n ih=>rw[List.replicate_succ,As,ih]
theorem Hm(n:Nat)(l:Al):As (Eu n l)=As l:=by
 unfold Eu;rw[Gc,Ake];omega
theorem Ej{n:Nat}{l:Al}(h:l.length<=n):(Eu n l).length=n:=by
 unfold Eu;rw[ζ,List.length_replicate];omega
theorem EM{n:Nat}{l:Al}(h:Limbs l):Limbs (Eu n l):=RE h λx hx=>by
 rw[(List.mem_replicate.1 hx).2];omega
theorem LS{n i:Nat}{l:Al}(h:l.length<=n)(hi:i<n):(Eu n l)[i]'(by rw[Ej h];exact hi)=l.getD i 0:=by
 rw[Av1];unfold Eu
 by_cases h2:i<l.length
 .rw[List.getElem_append_left h2,Ω h2];rfl
 .rw[List.getElem_append_right (by omega),List.getElem_replicate,Aw5 (by omega)];rfl
section
variable {D:Orc} (K:Knows Ak Sl D)
include K
theorem AgE(l:Al)(hl:CS l):∀(k i:Nat) (out:Al),l.length-i=k->out.length+k<=2000000000->D.ask (.lp 177 0) [eN l,.sl 0 0 out.length 1,iv (i:Int)] [Ψ (Av eL out) U U]
  = V (.tup [iv 0,.sl 1 0 (out++l.drop i).length 1],[.del,.set (Ψ (Av eL (out++l.drop i)) U U)]):=by
 intro k;unfold CS at hl
 induction k with
 |zero=>
  intro i out hi ho;refine Ax K NE (AdJ ..) ?_;rw[Aj,show l.drop i=[] from ο (by omega),Awc];refine Am ?_;rfl
 |succ k ih=>
  intro i out hi ho;have hlt:i<l.length:=by omega
  have ih':=ih (i+1) (out++[l[i]]) (by omega) (by simp;omega);rw[AvO,ζ,Awo]at ih';refine Ax K NE (AdJ ..) ?_;rw[Aj,ω hlt];refine Ao ?_;rw[AA,Az (Ω hlt)];have hf:AU (out.length+1) 4=U:=AL (by omega) (by omega);have hb1:AvL (0+out.length*1) (Av eL out).length=U:=AK A9 out (by omega);have e3:∀ s:Nat,AvI 0 (AvG (0+out.length*1) (Av eL out))++[.v (.int .u32 (s:Int))]=Av eL (out++[s]):=λs=>by
   rw[κ,A0 A9 out (by omega)];exact AW eL out s
  simp only[eL,Hw,Ae];rw[Bn (by omega),hf,hb1,e3];refine Af ?_;refine Af ?_;refine Aa ih' ?_;rfl
theorem AgF(l:Al)(hl:CS l):∀(n:Nat),n<=l.length->Dz l<=n->D.ask (.lp 177 1) [.sl 0 0 n 1] [Ψ (Av eL l) U U]=V (.tup [iv 2,.sl 1 0 (Dz l) 1],[.del,.set (Ψ (Av eL l) U U)]):=by
 intro n;unfold CS at hl
 induction n with
 |zero=>
  intro _ ht;refine Ax K NE (AdK ..) ?_;refine Am ?_;rw[show Dz l=0 by omega]
 |succ n ih=>
  intro hn ht;refine Ax K NE (AdK ..) ?_;refine Ao ?_;rw[show Ai.sub .i64 ((n+1:Nat):Int) 1=(n:Int) from (Ar5 (i:=n+1) (j:=1) (by omega) (by omega)).trans (by simp)];rw[AA,Cl (AvS n)];refine Af ?_;refine(Agl l n (by omega) _).trans ?_;simp only[Hw,Ae]
  by_cases h0:l[n]=0
  .refine Aw ?_ (by rw[h0];rfl)
   rw[AA,show J1 0 n (n+1)=U by unfold J1;rw[show AvL 0 n=U by simp];simp];refine Af ?_;refine Aa (ih (by omega) (Sn ht (by rw[Ω (show n<l.length by omega),h0]))) ?_;rfl
  .refine Ap ?_
   have:=T7 (Ω (show n<l.length by omega)) h0;rw[show Dz l=n+1 by omega]
theorem FZ{l:Al}(hl:CS l)(h:Limbs l):D.ask (.fn 177) [eN l] []=V (eN (AY (As l)),[]):=by
 have hs:=hl;unfold CS at hs;refine Aq K NE (Ath ..) ?_;have g:=AgE K l hl l.length 0 [] rfl (by simp;omega);rw[AvV,κ]at g;refine Aa g ?_;simp only[Ae];refine Aa (AgF K l hl l.length (η _) (Er l)) ?_;simp only[Ae];have ht:=Er l;rw[show AvL (0+Dz l*1) (Av eL l).length=U by rw[BK A9];simp;omega];refine Af ?_;rw[W5 l _ ht,Mp h];rfl
theorem G9(a b:Al):D.ask (.fn 226) [eN a,eN b] []=V (iv ((max a.length b.length:Nat):Int),[]):=by
 refine Aq K AlE (AtL ..) ?_;rw[Aj,Aj]
 by_cases h:b.length<a.length
 .refine Ao ?_
  rw[show max a.length b.length=a.length by omega]
 .refine Am ?_
  rw[show max a.length b.length=b.length by omega]
theorem If{a:Al}(ha:Limbs a)(i:Nat):D.ask (.fn 227) [eN a,iv (i:Int)] []=V (.v (.int .u64 (a.getD i 0:Int)),[]):=by
 refine Aq K AlF (AtM ..) ?_;rw[Aj,Av1];refine Am ?_
 by_cases h:i<a.length
 .refine C7 ?_
  have hx:=ha.get h;rw[AA,Az (Ω h),Ω h];simp only[eL,Hw,Ae];rw[Cf (by omega)];rfl
 .refine CL ?_
  rw[Aw5 (by omega)];rfl
theorem Ajz{a b:Al}(ha:Limbs a)(hb:Limbs b)(m:Nat)(hma:a.length<=m)(hmb:b.length<=m)(hm:m<=1000000000):∀(n:Nat),n<=m->D.ask (.lp 229 0) [eN a,eN b,iv ((n:Int)-1)] []
  = V (if DX (As ((Eu m a).take n)) (As ((Eu m b).take n))=0 then .tup [iv 0] else .tup [bv U,iv (DX (As ((Eu m a).take n)) (As ((Eu m b).take n)))],[]):=by
 intro n
 induction n with
 |zero=>
  intro _;refine Ax K U6 (AdY ..) ?_;refine C7 ?_;rfl
 |succ n ih=>
  intro hn;refine Ax K U6 (AdY ..) ?_;rw[show (((n+1:Nat):Int)-1)=(n:Int) by omega];refine CL ?_;have h1:n<(Eu m a).length:=by rw[Ej hma];omega
  have h2:n<(Eu m b).length:=by rw[Ej hmb];omega
  have e1:(Eu m a).take (n+1)=(Eu m a).take n++[a.getD n 0]:=by rw[AwG h1,LS hma (by omega)]
  have e2:(Eu m b).take (n+1)=(Eu m b).take n++[b.getD n 0]:=by rw[AwG h2,LS hmb (by omega)]
  rw[e1,e2,Ut ((EM ha).take n) ((EM hb).take n) (by simp;omega)];refine Aa (If K ha n) ?_;simp only[Ua,Ae];refine Aa (If K hb n) ?_;simp only[Ua,Ae]
  by_cases h3:a.getD n 0<b.getD n 0
  .refine Ao ?_
   rw[Ac h3];rfl
  .refine Am ?_
   rw[Ad h3];refine Aa (If K ha n) ?_;simp only[Ua,Ae];refine Aa (If K hb n) ?_;simp only[Ua,Ae]
   by_cases h4:b.getD n 0<a.getD n 0
   .refine Ao ?_
    rw[Ac h4];rfl
   .refine Am ?_
    rw[Ad h4];rw[show Ai.sub .i64 (n:Int) 1=(n:Int)-1 from Hc (by omega) (by omega)];refine Aa (ih (by omega)) ?_
    by_cases h5:DX (As ((Eu m a).take n)) (As ((Eu m b).take n))=0
    .rw[Ac h5];rfl
    .rw[Ad h5];rfl
theorem AjA{a b:Al}(hsa:CS a)(ha:Limbs a)(hsb:CS b)(hb:Limbs b):D.ask (.fn 229) [eN a,eN b] []=V (iv (DX (As a) (As b)),[]):=by
 unfold CS at hsa hsb;refine Aq K U6 (AtO ..) ?_;refine Aa (G9 K a b) ?_;simp only[Ae];rw[show Ai.sub .i64 ((max a.length b.length:Nat):Int) 1=((max a.length b.length:Nat):Int)-1 from Hc (by omega) (by omega)];have g:=Ajz K ha hb (max a.length b.length) (by omega) (by omega) (by omega) (max a.length b.length) (η _);rw[AwJ (by rw[Ej (by omega)];omega),AwJ (by rw[Ej (by omega)];omega),Hm,Hm]at g;refine Aa g ?_
 by_cases h5:DX (As a) (As b)=0
 .rw[Ac h5,h5];rfl
 .rw[Ad h5];rfl
theorem Ajy{a b:Al}(ha:Limbs a)(hb:Limbs b)(hm:max a.length b.length<=1000000000):∀(k i:Nat) (out:Al) (c:Nat),max a.length b.length+1-i=k->c<=1->out.length+k<=2000000000->
  D.ask (.lp 181 0) [eN a,eN b,.sl 0 0 out.length 1,.v (.int .u64 (c:Int)),iv (i:Int)] [Ψ (Av eL out) U U]
   = V (.tup [iv 0,.sl 1 0 (out++N4 k c (a.drop i) (b.drop i)).length 1],[.del,.set (Ψ (Av eL (out++N4 k c (a.drop i) (b.drop i))) U U)]):=by
 intro k
 induction k with
 |zero=>
  intro i out c hi hc ho;refine Ax K UZ (AdM ..) ?_;refine Aa (G9 K a b) ?_;simp only[Ae];refine C7 ?_;rw[N4,Awc]
 |succ k ih=>
  intro i out c hi hc ho;have h1:=Ov ha i;have h2:=Ov hb i;have ih':=ih (i+1) (out++[(a.getD i 0+b.getD i 0+c) % 4294967296]) ((a.getD i 0+b.getD i 0+c) / 4294967296) (by omega) (by omega) (by simp;omega);rw[AvO,ζ,Awo]at ih';refine Ax K UZ (AdM ..) ?_;refine Aa (G9 K a b) ?_;simp only[Ae];refine CL ?_;refine Aa (If K ha i) ?_;simp only[Ua,Ae];refine Aa (If K hb i) ?_;simp only[Ua,Ae];refine Ap ?_ (by decide);have hf:AU (out.length+1) 4=U:=AL (by omega) (by omega);have hb1:AvL (0+out.length*1) (Av eL out).length=U:=AK A9 out (by omega);have e3:∀ s:Nat,AvI 0 (AvG (0+out.length*1) (Av eL out))++[.v (.int .u32 (s:Int))]=Av eL (out++[s]):=λs=>by
   rw[κ,A0 A9 out (by omega)];exact AW eL out s
  rw[Dw (by omega),Dw (by omega),TD,TC _ (by omega),BT (Axg _ (by omega)),Bn (by omega),hf,hb1,e3];refine Af ?_;refine Af ?_;refine Ap ?_ (by decide);refine Aa ih' ?_;rw[N4,MR,MR,AxB,AxB];rfl
theorem JG{a b:Al}(hsa:a.length<=999999999)(ha:Limbs a)(hsb:b.length<=999999999)(hb:Limbs b):D.ask (.fn 181) [eN a,eN b] []=V (eN (AY (As a+As b)),[]):=by
 refine Aq K UZ (Atl ..) ?_;have g:=Ajy K ha hb (by omega) (max a.length b.length+1) 0 [] 0 rfl (by omega) (by simp;omega);rw[AvV,κ,κ]at g;refine Aa g ?_;simp only[Ae];rw[AK A9 _ (by omega)];refine Af ?_;rw[By A9 _ rfl];have hlen:∀(k c:Nat) (a b:Al),(N4 k c a b).length=k:=λk=>by
  induction k with
  |zero=>intro c a b;rfl
  |succ k ih=>intro c a b;rw[N4,ε,ih]
 have gt:=FZ K (l:=N4 (max a.length b.length+1) 0 a b) (by unfold CS;rw[hlen];omega) (OK _ _ _ _);rw[Sq]at gt;have h1:=Dc ha;have h2:=Dc hb;have p1:4294967296 ^ a.length<=4294967296 ^ (max a.length b.length):=Aw0 (by omega) (by omega);have p2:4294967296 ^ b.length<=4294967296 ^ (max a.length b.length):=Aw0 (by omega) (by omega);rw[Nat.mod_eq_of_lt (by rw[AwS];omega),AvW]at gt;refine Aa gt ?_;rfl
theorem AjC{a b:Al}(ha:Limbs a)(hb:Limbs b)(m:Nat)(hma:max a.length b.length=m)(hm:m<=1000000000):∀(k i:Nat) (out:Al) (c:Nat),m-i=k->c<=1->out.length+k<=2000000000->
  D.ask (.lp 184 0) [eN a,eN b,.sl 0 0 out.length 1,.v (.int .u64 (c:Int)),iv (i:Int)] [Ψ (Av eL out) U U]
   = V (.tup [iv 0,.sl 1 0 (out++Im c ((Eu m a).drop i) ((Eu m b).drop i)).length 1],[.del,.set (Ψ (Av eL (out++Im c ((Eu m a).drop i) ((Eu m b).drop i))) U U)]):=by
 intro k;have la:=Ej (n:=m) (l:=a) (by omega);have lb:=Ej (n:=m) (l:=b) (by omega)
 induction k with
 |zero=>
  intro i out c hi hc ho;refine Ax K U0 (AdP ..) ?_;refine Aa (G9 K a b) ?_;simp only[Ae];refine Am ?_;rw[show (Eu m a).drop i=[] from ο (by omega),Im,Awc]
 |succ k ih=>
  intro i out c hi hc ho;have h1:=Ov ha i;have h2:=Ov hb i;have ia:i<(Eu m a).length:=by omega
  have ib:i<(Eu m b).length:=by omega
  rw[ω ia,LS (by omega) (by omega),ω ib,LS (by omega) (by omega),Im,List.headD_cons,List.tail_cons];refine Ax K U0 (AdP ..) ?_;refine Aa (G9 K a b) ?_;simp only[Ae];refine Ao ?_;refine Aa (If K ha i) ?_;simp only[Ua,Ae];refine Aa (If K hb i) ?_;simp only[Ua,Ae];refine Ap ?_ (by decide);have hf:AU (out.length+1) 4=U:=AL (by omega) (by omega);have hb1:AvL (0+out.length*1) (Av eL out).length=U:=AK A9 out (by omega);have e3:∀ s:Nat,AvI 0 (AvG (0+out.length*1) (Av eL out))++[.v (.int .u32 (s:Int))]=Av eL (out++[s]):=λs=>by
   rw[κ,A0 A9 out (by omega)];exact AW eL out s
  rw[show (4294967296:Int)=((4294967296:Nat):Int) from rfl,Dw (by omega),Ig (by omega) (by omega),Ig (by omega) (by omega)];rw[show ((4294967296:Nat):Int)=(4294967296:Int) from rfl,TD,TC _ (by omega),BT (Axg _ (by omega)),Bn (by omega),show (1:Int)=((1:Nat):Int) from rfl,Ig (by omega) (by omega),hf,hb1,e3];refine Af ?_;refine Af ?_;refine Ap ?_ (by decide)
  by_cases hlt:a.getD i 0<b.getD i 0+c
  .rw[Ac hlt,Ac hlt]
   have ih':=ih (i+1) (out++[a.getD i 0+4294967296-(b.getD i 0+c)]) 1 (by omega) (by omega) (by simp;omega);rw[AvO,ζ,Awo]at ih';rw[show (a.getD i 0+4294967296-b.getD i 0-c) % 4294967296=a.getD i 0+4294967296-(b.getD i 0+c) by omega,show 1-(a.getD i 0+4294967296-b.getD i 0-c) / 4294967296=1 by omega];refine Aa ih' ?_;rfl
  .rw[Ad hlt,Ad hlt]
   have ih':=ih (i+1) (out++[a.getD i 0-(b.getD i 0+c)]) 0 (by omega) (by omega) (by simp;omega);rw[AvO,ζ,Awo]at ih';rw[show (a.getD i 0+4294967296-b.getD i 0-c) % 4294967296=a.getD i 0-(b.getD i 0+c) by omega,show 1-(a.getD i 0+4294967296-b.getD i 0-c) / 4294967296=0 by omega];refine Aa ih' ?_;rfl
theorem Z6{a b:Al}(hsa:CS a)(ha:Limbs a)(hsb:CS b)(hb:Limbs b):D.ask (.fn 184) [eN a,eN b] []=V (O4 (As a) (As b),[]):=by
 have s1:=hsa;have s2:=hsb;unfold CS at s1 s2;refine Aq K U0 (Ato ..) ?_;refine Aa (AjA K hsa ha hsb hb) ?_;simp only[Ae];unfold O4
 by_cases h1:As a<As b
 .rw[show DX (As a) (As b)=-1 by unfold DX;rw[Ac h1]]
  refine Ao ?_ (by decide);rw[Ad (by omega)];rfl
 .refine Am ?_ (by unfold DX;rw[Ad h1];split<;>omega)
  rw[Ac (by omega)];have la:=Ej (n:=max a.length b.length) (l:=a) (by omega);have lb:=Ej (n:=max a.length b.length) (l:=b) (by omega);have g:=AjC K ha hb (max a.length b.length) rfl (by omega) (max a.length b.length) 0 [] 0 (by omega) (by omega) (by simp;omega);rw[AvV,κ,κ]at g;refine Aa g ?_;simp only[Ae];rw[AK A9 _ (by omega)];refine Af ?_;rw[By A9 _ rfl];have gt:=FZ K (l:=Im 0 (Eu (max a.length b.length) a) (Eu (max a.length b.length) b)) (by unfold CS;rw[Mm];omega) (In _ _ _ (EM ha) (EM hb) (by omega));rw[WB (EM ha) (EM hb) (by omega) (by rw[Hm,Hm];omega),Hm,Hm]at gt;refine Aa gt ?_;rfl
theorem Ab7{a:Al}(ha:Limbs a)(hs:CS a)(m:Nat)(hm:m<4294967296):∀(k i:Nat) (out:Al) (c:Nat),a.length-i=k->i<=a.length->c<4294967296->out.length+k<=2000000000->
  ∃(o:Al) (c':Nat),D.ask (.lp 228 0) [eN a,.v (.int .u64 (m:Int)),.sl 0 0 out.length 1,.v (.int .u64 (c:Int)),iv (i:Int)] [Ψ (Av eL out) U U]
   = V (.tup [iv 0,.sl 1 0 o.length 1,.v (.int .u64 (c':Int))],[.del,.set (Ψ (Av eL o) U U)])/\c'<4294967296/\o++[c']=out++Eo m c (a.drop i):=by
 intro k;unfold CS at hs
 induction k with
 |zero=>
  intro i out c hi hle hc ho;refine⟨out,c,?_,hc,?_⟩
  .refine Ax K U5 (AdX ..) ?_
   rw[Aj];refine Am ?_;rfl
  .rw[show a.drop i=[] from ο (by omega)]
   rfl
 |succ k ih=>
  intro i out c hi hle hc ho;have hlt:i<a.length:=by omega
  have hx:=ha.get hlt;have hp:=PI hx hm;have hg:a.getD i 0=a[i]:=by rw[Av1,Ω hlt];rfl
  obtain⟨o,c',h1,h2,h3⟩:=ih (i+1) (out++[(a[i]*m+c) % 4294967296]) ((a[i]*m+c) / 4294967296) (by omega) (by omega) (by omega) (by simp;omega);refine⟨o,c',?_,h2,?_⟩
  .refine Ax K U5 (AdX ..) ?_
   rw[Aj];refine Ao ?_;refine Aa (If K ha i) ?_;simp only[Ua,Ae,hg];refine Ap ?_ (by decide);have hf:AU (out.length+1) 4=U:=AL (by omega) (by omega);have hb1:AvL (0+out.length*1) (Av eL out).length=U:=AK A9 out (by omega);have e3:∀ s:Nat,AvI 0 (AvG (0+out.length*1) (Av eL out))++[.v (.int .u32 (s:Int))]=Av eL (out++[s]):=λs=>by
    rw[κ,A0 A9 out (by omega)];exact AW eL out s
   rw[ζ,Awo]at h1;rw[TA (by omega),Dw (by omega),TD,TC _ (by omega),BT (Axg _ (by omega)),Bn (by omega),hf,hb1,e3];refine Af ?_;refine Af ?_;refine Ap ?_ (by decide);refine Aa h1 ?_;rfl
  .rw[h3,ω hlt,Eo,AvO]
   rfl
omit K in
theorem K7:∀(m c:Nat) (a:Al),(Eo m c a).length=a.length+1
 |_,_,[]=>rfl
 |m,c,x::a=>by rw[Eo,ε,K7,ε]
theorem M8{a:Al}(ha:Limbs a)(hs:a.length<=999999999)(m:Nat)(hm:m<4294967296):D.ask (.fn 228) [eN a,.v (.int .u64 (m:Int))] []=V (eN (AY (As a*m)),[]):=by
 obtain⟨o,c',g,hc,ho⟩:=Ab7 K ha (by unfold CS;omega) m hm a.length 0 [] 0 (by omega) (by omega) (by omega) (by simp;omega);rw[AvV,κ]at ho;have hol:o.length=a.length:=by
  have:=congrArg List.length ho;rw[ζ,K7]at this;simpa using this
 refine Aq K U5 (AtN ..) ?_;refine Aa g ?_;simp only[Hw,Ae];rw[BT hc];have e3:AvI 0 (AvG (0+o.length*1) (Av eL o))++[.v (.int .u32 (c':Int))]=Av eL (o++[c']):=by
  rw[κ,A0 A9 o (by omega)];exact AW eL o c'
 rw[AL (n:=o.length+1) (b:=4) (by omega) (by omega),AK A9 o (by omega),e3,AK A9 (o++[c']) (by simp)];refine Af ?_;refine Af ?_;refine Af ?_;rw[κ,A0 A9 (o++[c']) (by simp),show Bo (o.length+1) 1 (Av eL (o++[c']))=(o++[c']).map eL from by have:=Dk A9 (o++[c']);rwa [ζ]at this];rw[ho];have gt:=FZ K (l:=Eo m 0 a) (by unfold CS;rw[K7];omega) (Il _ _ _ hm ha (by omega));rw[Js,Nat.add_zero]at gt;refine Aa gt ?_;rfl
end
theorem Fp{a b:Al}(ha:Limbs a)(hb:Limbs b):(AY (As a*As b)).length<=a.length+b.length:=by
 refine BR ?_;rw[Nat.pow_add];exact Nat.mul_lt_mul'' (Dc ha) (Dc hb)
theorem AfO(va x vd:Nat):0+4294967296*(va*vd)+va*x=va*(x+4294967296*vd):=by
 rw[Nat.mul_add,Nat.mul_left_comm va];omega
theorem XH{v i d:Nat}(h:v<4294967296 ^ i)(hd:d<=9):v*10+d<4294967296 ^ (i+1):=by
 rw[AwS];omega
theorem Qm{d:Nat}(h:d<4294967296):Limbs [d]:=B4 h Ch
section
variable {D:Orc} (K:Knows Ak Sl D)
include K
theorem AjK(A B:AV)(t:Int){xs ys:Rw}(hA:A=.ls xs)(hB:B=.ls ys){out:Al}(hs:out.length<=999999999):∀(k i:Nat) (up:Al),out.length-i=k->i<=out.length->up=0::out.take i->
  D.ask (.lp 183 1) [A,B,eN out,iv t,.sl 0 0 (i+1) 1,iv (i:Int)] [Ψ (Av eL up) U U]=V (.tup [iv 2,A,B,iv t,.sl 1 0 (out.length+1) 1],[.del,.set (Ψ (Av eL (0::out)) U U)]):=by
 subst hA hB;intro k
 induction k with
 |zero=>
  intro i up hk hi hu;obtain rfl:i=out.length:=by omega
  rw[List.take_length]at hu;subst hu;refine Ax K NF (AdO ..) ?_;rw[Aj];exact Am rfl
 |succ k ih=>
  intro i up hk hi hu;have hlt:i<out.length:=by omega
  have hl:up.length=i+1:=by rw[hu,ε,Av6,AwM hi]
  have ih':=ih (i+1) (up++[out[i]]) (by omega) (by omega) (by rw[hu,AwG hlt];rfl);have e3:AvI 0 (AvG (0+(i+1)*1) (Av eL up))++[.v (.int .u32 (out[i]:Int))]=Av eL (up++[out[i]]):=by
   rw[κ,A0 A9 up (by omega)];exact AW eL up out[i]
  refine Ax K NF (AdO ..) ?_;rw[Aj];refine Ao ?_;rw[AA,Az (Ω hlt)];simp only[eL,Hw,Ae];rw[Bn (by omega),AL (n:=i+1+1) (b:=4) (by omega) (by omega),AK A9 up (by omega),e3];refine Af ?_;refine Af ?_;refine Aa ih' ?_;rfl
theorem AjL{a b:Al}(ha:Limbs a)(hb:Limbs b)(hs:a.length+b.length<=900000000):∀ i:Nat,i<=b.length->D.ask (.lp 183 0) [eN a,eN b,eN (AY (As a*As (b.drop i))),iv ((i:Int)-1)] []=V (.tup [iv 0,eN (AY (As a*As b))],[]):=by
 intro i
 induction i with
 |zero=>
  intro _;refine Ax K NF (AdN ..) ?_;refine C7 ?_;rw[κ];rfl
 |succ i ih=>
  intro hi;have hlt:i<b.length:=by omega
  have hx:=hb.get hlt;have ln:∀ j:Nat,(AY (As a*As (b.drop j))).length<=a.length+b.length:=λj=>by
   have:=Fp ha (hb.drop j);rw[List.length_drop]at this;omega
  have l1:=ln (i+1);rw[show (((i+1:Nat):Int)-1)=(i:Int) by omega];refine Ax K NF (AdN ..) ?_;refine CL ?_;have g:=AjK K (eN a) (eN b) (i:Int) rfl rfl (out:=AY (As a*As (b.drop (i+1)))) (by omega) _ 0 [0] rfl (by omega) rfl;refine Aa g ?_;simp only[eN,Hw,Ae];rw[AA,Az (Ω hlt)];simp only[eL,Hw,Ae];rw[Cf (show b[i]<_ by omega)];refine Af ?_;refine Aa (M8 K ha (by omega) b[i] hx) ?_;simp only[eN,Hw,Ae];rw[AK A9 (0::AY (As a*As (b.drop (i+1)))) (by simp)];refine Af ?_;rw[A0 A9 (0::AY (As a*As (b.drop (i+1)))) (by simp),show Bo ((AY (As a*As (b.drop (i+1)))).length+1) 1 (Av eL (0::AY (As a*As (b.drop (i+1)))))=(0::AY (As a*As (b.drop (i+1)))).map eL from Dk A9 (0::AY (As a*As (b.drop (i+1))))];have l3:(AY (As a*b[i])).length<=a.length+1:=by
   have:=Fp ha (Qm hx)
   rwa [show As [b[i]]=b[i] by simp[As]]at this
  have g2:=JG K (a:=0::AY (As a*As (b.drop (i+1)))) (b:=AY (As a*b[i])) (by rw[ε];omega) (B4 (by omega) (AF _)) (by omega) (AF _);rw[As,A1,A1,AfO,show b[i]+4294967296*As (b.drop (i+1))=As (b.drop i) by rw[ω hlt,As]]at g2;refine Aa g2 ?_;simp only[eN,Hw,Ae];rw[Hc (by omega) (by omega)];refine Aa (ih (by omega)) ?_;rfl
theorem AjB{a b:Al}(ha:Limbs a)(hb:Limbs b)(hs:a.length+b.length<=900000000):D.ask (.fn 183) [eN a,eN b] []=V (eN (AY (As a*As b)),[]):=by
 have g:=AjL K ha hb hs b.length (η _);rw[List.drop_length,As,Nat.mul_zero,FU]at g;refine Aq K NF (Atn ..) ?_;rw[Aj,Hc (by omega) (by omega)];refine Aa g ?_;simp only[eN,Ae];have l1:=Fp ha hb;have g2:=FZ K (l:=AY (As a*As b)) (by unfold CS;omega) (AF _);rw[A1]at g2;refine Aa g2 ?_;rfl
theorem Ab3{s:ByteArray}(hs:s.size<=4000):∀(m i v:Nat),s.size-i=m->i<=s.size->v<4294967296 ^ i->
  D.ask (.lp 182 0) [sv s,eN (AY v),iv (i:Int)] []=if(s.data.toList.drop i).all H9=U then V (.tup [iv 0,sv s,eN (AY (hor v (s.data.toList.drop i)))],[]) else V (.tup [bv U,.ls [],iv 20],[]):=by
 intro m;have hsl:s.data.toList.length=s.size:=by simp
 induction m with
 |zero=>
  intro i v hm hi hv;have e:s.data.toList.drop i=[]:=ο (by omega);rw[e,Ac (show ([]:List UInt8).all H9=U from rfl)];refine Ax K Pg (SX ..) ?_;rw[BE];exact Am rfl
 |succ m ih=>
  intro i v hm hi hv;have hlt:i<s.size:=by omega
  have hlt':i<s.data.toList.length:=by omega
  have e:s.data.toList.drop i=s.data.toList[i]::s.data.toList.drop (i+1):=ω hlt';rw[e,List.all_cons]
  cases hd:H9 s.data.toList[i]with
  |false=>
   rw[Ad (by simp)];refine Ax K Pg (SX ..) ?_;rw[BE];refine Ao ?_;rw[AA,Cl hlt];refine Af ?_;rw[Hb hlt];rcases Ap1 hd with h|⟨h,h2⟩
   .exact Ao rfl
   .refine Am ?_
    rw[AA,Cl hlt];refine Af ?_;rw[Hb hlt];exact Ao rfl
  |true=>
   have hd1:=AdA hd;have hd2:=Ap0 hd;rw[AvR,Pm];have ih':=ih (i+1) (v*10+(s.data.toList[i].toNat-48)) (by omega) (by omega) (XH hv hd1);have lv:=BR hv
   by_cases h:(s.data.toList.drop (i+1)).all H9=U
   .rw[Ac h]at ih' ⊢
    refine Ax K Pg (SX ..) ?_;rw[BE];refine Ao ?_;rw[AA,Cl hlt];refine Af ?_;rw[Hb hlt];refine Am ?_;rw[AA,Cl hlt];refine Af ?_;rw[Hb hlt];refine Am ?_;have g:=M8 K (a:=AY v) (AF _) (by omega) 10 (by omega);rw[A1]at g;refine Aa g ?_;simp only[eN,Hw,Ae];rw[AA,Cl hlt];refine Af ?_;rw[Hb hlt];rw[Anm hd2,BT (by omega)];have l3:(AY (v*10)).length<=i+1:=BR (by have:=XH hv (d:=0) (by omega);simpa using this);have g2:=JG K (a:=AY (v*10)) (b:=[s.data.toList[i].toNat-48]) (by omega) (AF _) (by simp) (Qm (by omega));rw[A1,show As [s.data.toList[i].toNat-48]=s.data.toList[i].toNat-48 by simp[As]]at g2;refine Aa g2 ?_;simp only[eN,Hw,Ae];rw[Bn (by omega)];refine Aa ih' ?_;rfl
   .rw[Ad h]at ih' ⊢
    refine Ax K Pg (SX ..) ?_;rw[BE];refine Ao ?_;rw[AA,Cl hlt];refine Af ?_;rw[Hb hlt];refine Am ?_;rw[AA,Cl hlt];refine Af ?_;rw[Hb hlt];refine Am ?_;have g:=M8 K (a:=AY v) (AF _) (by omega) 10 (by omega);rw[A1]at g;refine Aa g ?_;simp only[eN,Hw,Ae];rw[AA,Cl hlt];refine Af ?_;rw[Hb hlt];rw[Anm hd2,BT (by omega)];have l3:(AY (v*10)).length<=i+1:=BR (by have:=XH hv (d:=0) (by omega);simpa using this);have g2:=JG K (a:=AY (v*10)) (b:=[s.data.toList[i].toNat-48]) (by omega) (AF _) (by simp) (Qm (by omega));rw[A1,show As [s.data.toList[i].toNat-48]=s.data.toList[i].toNat-48 by simp[As]]at g2;refine Aa g2 ?_;simp only[eN,Hw,Ae];rw[Bn (by omega)];refine Aa ih' ?_;rfl
theorem M7(s:ByteArray):D.ask (.fn 182) [sv s] []=V (.tup [eN (IG s).1,iv (IG s).2],[]):=by
 refine Aq K Pg (Atm ..) ?_;unfold IG;rw[BE]
 by_cases h1:4000<s.size
 .rw[Ac h1]
  exact Ao rfl
 rw[Ad h1];refine Am ?_;have g:=Ab3 K (s:=s) (by omega) s.size 0 0 (by omega) (by omega) (by simp);rw[κ,FU]at g
 by_cases h2:s.size=0
 .rw[Ac h2]
  have h3:s=ByteArray.empty:=by simpa using h2
  subst h3;rw[Ac (show ByteArray.empty.data.toList.all H9=U from rfl)]at g;refine Aa g ?_;simp only[eN,Hw,Ae];rfl
 rw[Ad h2]
 by_cases h3:s.data.toList.all H9=U
 .rw[Ac h3]at g ⊢
  refine Aa g ?_;simp only[eN,Hw,Ae];rw[BE];refine Ap ?_;have l1:(AY (hor 0 s.data.toList)).length<=s.size:=BR (by
   have:=XM s.data.toList h3 (v:=0) (i:=0) (by simp)
   rwa [AvW,show s.data.toList.length=s.size by simp]at this)
  have g2:=FZ K (l:=AY (hor 0 s.data.toList)) (by unfold CS;omega) (AF _);rw[A1]at g2;refine Aa g2 ?_;rfl
 .rw[Ad h3]at g ⊢
  refine Aa g ?_;rfl
theorem AgA{a b:Al}(hl:a.length=b.length)(hs:CS a):∀(k i:Nat),a.length-i=k->i<=a.length->D.ask (.lp 258 0) [eN a,eN b,iv (i:Int)] []=if a.drop i=b.drop i then V (.tup [iv 0],[]) else V (.tup [bv U,bv Θ],[]):=by
 intro k;unfold CS at hs
 induction k with
 |zero=>
  intro i hk hi;rw[ο (show a.length<=i by omega),ο (show b.length<=i by omega),Ac rfl];refine Ax K Pk (S0 ..) ?_;rw[Aj];exact Am rfl
 |succ k ih=>
  intro i hk hi;have h1:i<a.length:=by omega
  have h2:i<b.length:=by omega
  have ih':=ih (i+1) (by omega) (by omega);rw[ω h1,ω h2]
  by_cases h:a[i]=b[i]
  .by_cases h3:a.drop (i+1)=b.drop (i+1)
   .rw[Ac h3]at ih'
    rw[Ac (by rw[h,h3])];refine Ax K Pk (S0 ..) ?_;rw[Aj];refine Ao ?_;rw[AA,Az (Ω h1)];simp only[eL,Hw,Ae];rw[AA,Az (Ω h2)];simp only[eL,Hw,Ae];rw[Bn (by omega)];refine Aw ?_;refine Aa ih' ?_;rfl
   .rw[Ad h3]at ih'
    rw[Ad (λe=>h3 (List.cons.inj e).2)];refine Ax K Pk (S0 ..) ?_;rw[Aj];refine Ao ?_;rw[AA,Az (Ω h1)];simp only[eL,Hw,Ae];rw[AA,Az (Ω h2)];simp only[eL,Hw,Ae];rw[Bn (by omega)];refine Aw ?_;refine Aa ih' ?_;rfl
  .rw[Ad (λe=>h (List.cons.inj e).1)]
   refine Ax K Pk (S0 ..) ?_;rw[Aj];refine Ao ?_;rw[AA,Az (Ω h1)];simp only[eL,Hw,Ae];rw[AA,Az (Ω h2)];simp only[eL,Hw,Ae];rw[Bn (by omega)];exact Ap rfl
theorem Agf{a b:Al}(hs:CS a):D.ask (.fn 258) [eN a,eN b] []=V (bv (decide (a=b)),[]):=by
 refine Aq K Pk (At3 ..) ?_;rw[Aj,Aj]
 by_cases hl:a.length=b.length
 .refine Aw ?_
  have g:=AgA K hl hs a.length 0 (by omega) (by omega);rw[κ,κ]at g
  by_cases h:a=b
  .rw[Ac h]at g
   rw[Ba h];refine Aa g ?_;rfl
  .rw[Ad h]at g
   rw[Bu h];refine Aa g ?_;rfl
 .refine Ap ?_
  rw[Bu (λe=>hl (by rw[e]))]
end
theorem UN{s:ByteArray}(h:0<s.size):N8 s ↔ Ai.sat s 0=45:=by
 rw[Hb h];unfold N8;have hl:0<s.data.toList.length:=by simpa using h
 have e:(s.extract 0 1).data.toList=[s.data.toList[0]'hl]:=by
  rw[ByteArray.data_extract,Array.toList_extract];obtain⟨x,r,e⟩:∃ x r,s.data.toList=x::r:=by
   cases e:s.data.toList with
   |nil=>rw[e]at hl;cases hl
   |cons x r=>exact⟨x,r,rfl⟩
  simp[List.extract,e]
 constructor
 .rintro⟨_,h2⟩
  rw[h2]at e;have:(45:UInt8)=s.data.toList[0]'hl:=(List.cons.inj e).1;rw[←this];rfl
 .intro h2
  refine⟨h,ByteArray.ext (Array.ext' ?_)⟩;rw[e];have:s.data.toList[0]'hl=(45:UInt8):=UInt8.toNat_inj.1 (by rw[show (45:UInt8).toNat=45 from rfl];omega);rw[this];rfl
theorem Ir{z:Zi}(h:zv z<0):zv z=-(As z.abs:Int):=by
 unfold zv Ez at *
 cases e:z.neg<;>rw[e]at h<;>simp at h ⊢
 omega
theorem Fw{z:Zi}(h:¬ zv z<0):zv z=(As z.abs:Int):=by
 unfold zv Ez at *
 cases e:z.neg<;>rw[e]at h<;>simp at h ⊢
 omega
theorem Nd{n:Int}:Ds n<0 ↔ n<0:=by
 unfold Ds;split
 .omega
 .split<;>omega
theorem Ais{k:Nat}{x y:Int}(hx:InB k x)(hy:InB k y):InB (k+1) (x+y):=by
 unfold InB at *;rw[AwS];have:=Int.natAbs_add_le x y;omega
theorem RU{k:Nat}(hk:k<=900000000){a b:Zi}(ha:Lz k a)(hb:Lz k b):CS (AY (As a.abs+As b.abs)):=by
 unfold CS;have h1:=ha.inb;have h2:=hb.inb;have f:∀ z:Zi,(zv z).natAbs=As z.abs:=λz=>by
  unfold zv Ez;split
  .rw[Axo];rfl
  .rfl
 unfold InB at h1 h2;rw[f]at h1 h2;have:=BR (n:=As a.abs+As b.abs) (k:=k+1) (by rw[AwS];omega);omega
theorem DO(n:Int):Ds n=-1/\n<0\/Ds n=1/\0<n\/Ds n=0/\n=0:=by
 unfold Ds;split
 .omega
 .split<;>omega
theorem TP(x y:Int):Ai.mul .i64 (Ds x) (Ds y)=Ds x*Ds y:=by
 show IntKind.i64.wrap (Ds x*Ds y)=_
 rw[IntKind.wrap_i64];rcases DO x with h|h|h<;>rcases DO y with h2|h2|h2<;>rw[h.1,h2.1]<;>rfl
theorem X6{a b:Zi}(h:Ds (zv a)*Ds (zv b)<0):Ez U (As a.abs*As b.abs)=zv a*zv b:=by
 unfold Ez;rw[Ac rfl,AxV]
 by_cases ha:zv a<0
 .rw[Ir ha]
  by_cases hb:zv b<0
  .exfalso
   rcases DO (zv a) with h1|h1|h1<;>rcases DO (zv b) with h2|h2|h2<;>rw[h1.1,h2.1]at h<;>omega
  .rw[Fw hb,Int.neg_mul]
 .rw[Fw ha]
  by_cases hb:zv b<0
  .rw[Ir hb,Int.mul_neg]
  .exfalso
   rcases DO (zv a) with h1|h1|h1<;>rcases DO (zv b) with h2|h2|h2<;>rw[h1.1,h2.1]at h<;>omega
theorem X7{a b:Zi}(h:¬ Ds (zv a)*Ds (zv b)<0):Ez Θ (As a.abs*As b.abs)=zv a*zv b:=by
 unfold Ez;rw[Ad (by simp),AxV];rcases DO (zv a) with h1|h1|h1
 .rcases DO (zv b) with h2|h2|h2
  .rw[Ir h1.2,Ir h2.2,Int.neg_mul_neg]
  .exfalso
   rw[h1.1,h2.1]at h;omega
  .have:=Fw (z:=b) (by omega)
   rw[h2.2,Aya,←this,h2.2,Aya]
 .rcases DO (zv b) with h2|h2|h2
  .exfalso
   rw[h1.1,h2.1]at h;omega
  .rw[←Fw (z:=a) (by omega),←Fw (z:=b) (by omega)]
  .have:=Fw (z:=b) (by omega)
   rw[h2.2,Aya,←this,h2.2,Aya]
 .have:=Fw (z:=a) (by omega)
  rw[h1.2,AyT,←this,h1.2,AyT]
section
variable {D:Orc} (K:Knows Ak Sl D) (R:Knows Ak Aaq D)
include K R
theorem Dg(neg:Bool){a:Al}(ha:Limbs a)(hs:CS a):D.ask (.fn 180) [bv neg,eN a] []=V (.agg (eZ (A3 (Ez neg (As a)))),[]):=by
 refine Aq R Alq (Atk ..) ?_;refine Aa (FZ K hs ha) ?_;simp only[eN,Ae,Aj];rw[Aaw];unfold eZ eN;have hp:=@Fq (As a)
 by_cases h:0<As a
 .refine Ap ?_ (by have:=hp.2 h;omega)
  rw[Ba h,Bool.and_true]
 .have h0:As a=0:=by omega
  rw[Bu h,Bool.and_false,h0,FU];exact Aw rfl rfl
theorem AbS{z:Zi}(hz:Lz 1000000000 z):D.ask (.fn 179) [.agg (eZ z)] []=V (.agg (eZ (A3 (zv z))),[]):=by
 refine Aq R Alp (Atj ..) ?_;refine Aa (Dg K R z.neg hz.lim hz.len) ?_;rfl
theorem E8{z:Zi}(hz:Lz 1000000000 z):D.ask (.fn 116) [.agg (eZ z)] []=V (iv (Ds (zv z)),[]):=by
 refine Aq R AkV (AsH ..) ?_;refine Aa (FZ K hz.len hz.lim) ?_;simp only[eN,Ae,Aj];have hp:=@Fq (As z.abs);unfold zv Ez
 by_cases h:0<As z.abs
 .refine Ap ?_ (by have:=hp.2 h;omega)
  cases z.neg with
  |false=>
   refine Bm ?_;rw[Ad (by simp)];unfold Ds;rw[Ad (by omega)]
   first|rw[Ac (by omega)] | rw[Ad (by omega)]
  |true=>
   refine Af ?_;rw[Ac rfl];unfold Ds
   first|rw[Ac (by omega)] | rw[Ad (by omega),Ad (by omega)]
 .have h0:As z.abs=0:=by omega
  rw[h0,FU];refine Aw ?_ rfl
  cases z.neg<;>rfl
theorem Z5{z:Zi}(hz:Lz 1000000000 z):D.ask (.fn 123) [.agg (eZ z)] []=V (.agg (eZ (A3 (-zv z))),[]):=by
 have e:-zv z=Ez (!z.neg) (As z.abs):=by
  unfold zv Ez
  cases z.neg<;>simp
 rw[e];refine Aq R Ak0 (AsN ..) ?_;rw[LX];have g:=λb=>Dg K R b hz.lim hz.len
 cases z.neg with
 |false=>
  refine Af ?_;refine Aa (g U) ?_;rfl
 |true=>
  refine Bm ?_;refine Aa (g Θ) ?_;rfl
theorem Yr(s:ByteArray):D.ask (.fn 120) [sv s] []=V (.tup [.agg (eZ (E5 s).1),iv (E5 s).2],[]):=by
 refine Aq R AkY (AsK ..) ?_;unfold E5 IF;rw[BE]
 by_cases h0:0<s.size
 .refine Ao ?_
  rw[show Nat.blt 0 s.size=U from Cl h0];refine Af ?_
  by_cases h1:N8 s
  .rw[Ac h1]
   refine Aw ?_ ((UN h0).1 h1);rw[show J1 1 s.size s.size=U by unfold J1;rw[Awz h1.1,Awz (η _)]];refine Af ?_;generalize hx:Ai.ssub s 1 s.size=x;rw[show s.extract 1 s.size=x from hx];refine Aa (M7 K x) ?_;simp only[eN,Hw,Ae]
   by_cases h:(IG x).2=0
   .rw[Ac h]
    refine Aw ?_ h;refine Aa (Dg K R U (FW _) (by unfold CS;have:=Jc x;omega)) ?_;rfl
   .rw[Ad h]
    exact Ap rfl h
  .rw[Ad h1]
   refine Ap ?_ (λh=>h1 ((UN h0).2 h));refine Aa (M7 K s) ?_;simp only[eN,Hw,Ae]
   by_cases h:(IG s).2=0
   .rw[Ac h]
    refine Aw ?_ h;refine Aa (Dg K R Θ (FW _) (by unfold CS;have:=Jc s;omega)) ?_;rfl
   .rw[Ad h]
    exact Ap rfl h
 .rw[Ad (λh1:N8 s=>h0 h1.1)]
  refine Am ?_;refine Aa (M7 K s) ?_;simp only[eN,Hw,Ae]
  by_cases h:(IG s).2=0
  .rw[Ac h]
   refine Aw ?_ h;refine Aa (Dg K R Θ (FW _) (by unfold CS;have:=Jc s;omega)) ?_;rfl
  .rw[Ad h]
   exact Ap rfl h
theorem Sa{k:Nat}(hk:k<=900000000){a b:Zi}(ha:Lz k a)(hb:Lz k b)(hp:¬ zv a<0):D.ask (.fn 124) [.agg (eZ a),.agg (eZ b)] []=V (.agg (eZ (A3 (zv a+zv b))),[]):=by
 have la:=ha.len;have lb:=hb.len;have sa:=E8 K R (ha.mono (show k<=1000000000 by omega));have sb:=E8 K R (hb.mono (show k<=1000000000 by omega));have ea:=Fw hp;have hsa:¬ Ds (zv a)<0:=λh=>hp (Nd.1 h)
 refine Aq R AeF (Ap2 ..) ?_;refine Aa sa ?_;simp only[Ua,Ae];refine Am ?_ hsa;refine Aa sa ?_;simp only[Ua,Ae];refine CL ?_;refine Aa sb ?_;simp only[Ua,Ae]
 by_cases hb0:zv b<0
 .have hsb:=Nd.2 hb0
  have eb:=Ir hb0;refine C7 ?_;refine Aa sa ?_;simp only[Ua,Ae];refine Am ?_ hsa;have g1:=Z6 K (a:=a.abs) (b:=b.abs) (by unfold CS;omega) ha.lim (by unfold CS;omega) hb.lim;unfold O4 at g1;refine Aa g1 ?_
  by_cases hle:As b.abs<=As a.abs
  .rw[Ac hle]
   simp only[eN,Ae];have g2:=Dg K R Θ (a:=AY (As a.abs-As b.abs)) (AF _) (by
    unfold CS;have:=BR (n:=As a.abs-As b.abs) (k:=a.abs.length) (by have:=Dc ha.lim;omega);omega)
   rw[A1,show Ez Θ (As a.abs-As b.abs)=zv a+zv b by unfold Ez;rw[Ad (by simp)];omega]at g2;refine Aa g2 ?_;rfl
  .rw[Ad hle]
   simp only[eN,Ae];have g3:=Z6 K (a:=b.abs) (b:=a.abs) (by unfold CS;omega) hb.lim (by unfold CS;omega) ha.lim;unfold O4 at g3;rw[Ac (show As a.abs<=As b.abs by omega)]at g3;refine Aa g3 ?_;simp only[eN,Ae];have g2:=Dg K R U (a:=AY (As b.abs-As a.abs)) (AF _) (by
    unfold CS;have:=BR (n:=As b.abs-As a.abs) (k:=b.abs.length) (by have:=Dc hb.lim;omega);omega)
   rw[A1,show Ez U (As b.abs-As a.abs)=zv a+zv b by unfold Ez;rw[Ac rfl];omega]at g2;refine Aa g2 ?_;rfl
 .have hsb:¬ Ds (zv b)<0:=λh=>hb0 (Nd.1 h)
  have eb:=Fw hb0;refine CL ?_;refine Aa (JG K (by omega) ha.lim (by omega) hb.lim) ?_;simp only[eN,Ae];have g2:=Dg K R Θ (a:=AY (As a.abs+As b.abs)) (AF _) (RU hk ha hb);rw[A1,show Ez Θ (As a.abs+As b.abs)=zv a+zv b by unfold Ez;rw[Ad (by simp)];omega]at g2;refine Aa g2 ?_;rfl
theorem Wd{k:Nat}(hk:k<=900000000){a b:Zi}(ha:Lz k a)(hb:Lz k b):D.ask (.fn 124) [.agg (eZ a),.agg (eZ b)] []=V (.agg (eZ (A3 (zv a+zv b))),[]):=by
 by_cases hp:zv a<0
 .have la:=ha.len
  have lb:=hb.len;have sa:=E8 K R (ha.mono (show k<=1000000000 by omega));have sb:=E8 K R (hb.mono (show k<=1000000000 by omega));have ea:=Ir hp;have hsa:=Nd.2 hp;refine Aq R AeF (Ap2 ..) ?_;refine Aa sa ?_;simp only[Ua,Ae];refine Ao ?_ hsa;refine Aa sb ?_;simp only[Ua,Ae]
  by_cases hb0:zv b<0
  .have eb:=Ir hb0
   refine Ao ?_ (Nd.2 hb0);refine Aa (JG K (by omega) ha.lim (by omega) hb.lim) ?_;simp only[eN,Ae];have g2:=Dg K R U (a:=AY (As a.abs+As b.abs)) (AF _) (RU hk ha hb);rw[A1,show Ez U (As a.abs+As b.abs)=zv a+zv b by unfold Ez;rw[Ac rfl];omega]at g2;refine Aa g2 ?_;rfl
  .refine Am ?_ (λh=>hb0 (Nd.1 h))
   refine Aa sa ?_;simp only[Ua,Ae];refine C7 ?_;refine Aa sa ?_;simp only[Ua,Ae];refine Ao ?_ hsa;have g:=Sa K R hk hb ha hb0;rw[Int.add_comm]at g;refine Aa g ?_;rfl
 .exact Sa K R hk ha hb hp
theorem AgL{k:Nat}(hk:k<=900000000){a b:Zi}(ha:Lz k a)(hb:Lz k b):D.ask (.fn 118) [.agg (eZ a),.agg (eZ b)] []=V (.agg (eZ (A3 (zv a-zv b))),[]):=by
 refine Aq R AkW (AsI ..) ?_;refine Aa (Z5 K R (hb.mono (show k<=1000000000 by omega))) ?_;have hn:Lz k (A3 (-zv b)):=InB.lz (by have:=hb.inb;unfold InB at *;rwa [Axo]);have g:=Wd K R hk ha hn;rw[BU,←Ays]at g;simp only[eZ,eN,Ae];refine Aa g ?_;rfl
theorem AgJ{k:Nat}(hk:k<=900000000){a b:Zi}(ha:Lz k a)(hb:Lz k b):D.ask (.fn 67) [.agg (eZ a),.agg (eZ b)] []=V (iv (Ds (zv a-zv b)),[]):=by
 refine Aq R AqM (e67 ..) ?_;refine Aa (AgL K R hk ha hb) ?_;have hs:Lz (k+1) (A3 (zv a-zv b)):=InB.lz (by rw[Ays];exact Ais ha.inb (by have:=hb.inb;unfold InB at *;rwa [Axo]));have g:=E8 K R (hs.mono (show k+1<=1000000000 by omega));rw[BU]at g;simp only[eZ,eN,Ae];refine Aa g ?_;rfl
theorem AgK{k m:Nat}(hk:k<=400000000)(hm:m<=400000000){a b:Zi}(ha:Lz k a)(hb:Lz m b):D.ask (.fn 122) [.agg (eZ a),.agg (eZ b)] []=V (.agg (eZ (A3 (zv a*zv b))),[]):=by
 have la:=ha.len;have lb:=hb.len;have sa:=E8 K R (ha.mono (show k<=1000000000 by omega));have sb:=E8 K R (hb.mono (show m<=1000000000 by omega));refine Aq R AkZ (AsM ..) ?_;refine Aa sa ?_;simp only[Ua,Ae];refine Aa sb ?_;simp only[Ua,Ae];have g:=AjB K ha.lim hb.lim (by omega);have l1:=Fp ha.lim hb.lim;have gf:∀ ng,D.ask (.fn 180) [bv ng,eN (AY (As a.abs*As b.abs))] []=V (.agg (eZ (A3 (Ez ng (As a.abs*As b.abs)))),[]):=λng=>by
  have:=Dg K R ng (a:=AY (As a.abs*As b.abs)) (AF _) (by unfold CS;omega)
  rwa [A1]at this
 have hmul:Ai.mul .i64 (Ds (zv a)) (Ds (zv b))=Ds (zv a)*Ds (zv b):=TP _ _;rw[hmul]
 by_cases h:Ds (zv a)*Ds (zv b)<0
 .refine Ao ?_ h
  refine Aa g ?_;simp only[eN,Ae];have g2:=gf U;rw[X6 h]at g2;refine Aa g2 ?_;rfl
 .refine Am ?_ h
  refine Aa g ?_;simp only[eN,Ae];have g2:=gf Θ;rw[X7 h]at g2;refine Aa g2 ?_;rfl
theorem Aca{a b:Zi}(ha:Lz 1000000000 a):D.ask (.fn 238) [.agg (eZ a),.agg (eZ b)] []=V (bv (decide (a.neg=b.neg/\a.abs=b.abs)),[]):=by
 refine Aq R AlJ (AtU ..) ?_;rw[PY]
 by_cases h:a.neg=b.neg
 .rw[show (a.neg == b.neg)=U by simp[h]]
  refine Af ?_;refine Aa (Agf K (a:=a.abs) (b:=b.abs) ha.len) ?_
  by_cases h2:a.abs=b.abs
  .rw[Ba h2,Ba ⟨h,h2⟩]
   rfl
  .rw[Bu h2,Bu (λe=>h2 e.2)]
   rfl
 .rw[show (a.neg == b.neg)=Θ by simp[h],Bu (λe=>h e.1)]
  exact Bm rfl
end
theorem Agh(m:Nat)(h:m<9223372036854775808):Ai.rem .i64 (m:Int) 4294967296=((m % 4294967296:Nat):Int):=by
 show Int.tmod (m:Int) 4294967296=_
 rw[show (4294967296:Int)=((4294967296:Nat):Int) from rfl,←Int.ofNat_tmod]
theorem Agg(m:Nat)(h:m<9223372036854775808):Ai.quo .i64 (m:Int) 4294967296=((m / 4294967296:Nat):Int):=by
 show IntKind.i64.wrap (Int.tdiv (m:Int) 4294967296)=_
 rw[IntKind.wrap_i64,show (4294967296:Int)=((4294967296:Nat):Int) from rfl,←Int.ofNat_tdiv];omega
theorem WC(m:Nat):As [m % 4294967296,m / 4294967296]=m:=by
 unfold As As As;omega
theorem RG(m:Nat)(h:m<9223372036854775808):Limbs [m % 4294967296,m / 4294967296]:=B4 (by omega) (B4 (by omega) Ch)
structure RF (D:Orc):Prop where
 clean:∀ z:Zi,Lz 1000000000 z->D.ask (.fn 179) [.agg (eZ z)] []=V (.agg (eZ (A3 (zv z))),[])
 neg:∀ z:Zi,Lz 1000000000 z->D.ask (.fn 123) [.agg (eZ z)] []=V (.agg (eZ (A3 (-zv z))),[])
 sign:∀ z:Zi,Lz 1000000000 z->D.ask (.fn 116) [.agg (eZ z)] []=V (iv (Ds (zv z)),[])
 of_:∀ n:Int,-9223372036854775808<n->n<9223372036854775808->D.ask (.fn 119) [iv n] []=V (.agg (eZ (A3 n)),[])
 cmp:∀ a b:Zi,Lz 900000000 a->Lz 900000000 b->D.ask (.fn 67) [.agg (eZ a),.agg (eZ b)] []=V (iv (Ds (zv a-zv b)),[])
 add:∀ a b:Zi,Lz 900000000 a->Lz 900000000 b->D.ask (.fn 124) [.agg (eZ a),.agg (eZ b)] []=V (.agg (eZ (A3 (zv a+zv b))),[])
 mul:∀ a b:Zi,Lz 400000000 a->Lz 400000000 b->D.ask (.fn 122) [.agg (eZ a),.agg (eZ b)] []=V (.agg (eZ (A3 (zv a*zv b))),[])
 parse:∀ s:ByteArray,D.ask (.fn 120) [sv s] []=V (.tup [.agg (eZ (E5 s).1),iv (E5 s).2],[])
 same:∀ a b:Zi,Lz 1000000000 a->D.ask (.fn 238) [.agg (eZ a),.agg (eZ b)] []=V (bv (decide (a.neg=b.neg/\a.abs=b.abs)),[])
section
variable {D:Orc} (K:Knows Ak Sl D) (R:Knows Ak Aaq D)
include K R
theorem Ao8(n:Int)(h1:-9223372036854775808<n)(h2:n<9223372036854775808):D.ask (.fn 119) [iv n] []=V (.agg (eZ (A3 n)),[]):=by
 refine Aq R AkX (AsJ ..) ?_
 by_cases h:0<=n
 .obtain⟨m,rfl⟩:=Int.eq_ofNat_of_zero_le h
  have g:=Dg K R Θ (RG m (by omega)) (by unfold CS;simp);rw[WC,show Ez Θ m=(m:Int) from rfl]at g;refine CL ?_ h;refine Ap ?_ (by decide);refine Ap ?_ (by decide);rw[Agh m (by omega),Agg m (by omega),BT (by omega),BT (by omega)];refine Aa g ?_;rfl
 .obtain⟨m,hm⟩:∃ m:Nat,n=-((m+1:Nat):Int):=⟨n.natAbs-1,by omega⟩
  have e1:Ai.sub .i64 0 (Ai.add .i64 n 1)=(m:Int):=by
   rw[Ha (by omega) (by omega),Hc (by omega) (by omega)];omega
  have ga:=JG K (a:=[m % 4294967296,m / 4294967296]) (b:=[1]) (by simp) (RG m (by omega)) (by simp) (B4 (by omega) Ch);rw[WC,show As [1]=1 from rfl]at ga;have hl:(AY (m+1)).length<=2:=BR (by omega);have g:=Dg K R U (AF (m+1)) (by unfold CS;omega);rw[A1,show Ez U (m+1)=n by rw[hm];rfl]at g;refine C7 ?_ h;refine Ap ?_ (by decide);refine Ap ?_ (by decide);rw[e1,Agh m (by omega),Agg m (by omega),BT (by omega),BT (by omega)];refine Aa ga ?_;simp only[eN,Ae];refine Aa g ?_;rfl
theorem Ar1:RF D where
 clean z h:=AbS K R h
 neg z h:=Z5 K R h
 sign z h:=E8 K R h
 of_ n h1 h2:=Ao8 K R n h1 h2
 cmp a b ha hb:=AgJ K R (η _) ha hb
 add a b ha hb:=Wd K R (η _) ha hb
 mul a b ha hb:=AgK K R (η _) (η _) ha hb
 parse s:=Yr K R s
 same a b ha:=Aca K R ha
end
theorem AgS(n:Int):Ds n=0 ↔ n=0:=by
 unfold Ds
 repeat' split
 all_goals omega
section
variable {D:Orc} (Kh:Knows Ak NW D) (F:RF D)
include Kh F
theorem Ah2{n k:Nat}{ps:List Pt}{kz:Zi}(ht:TmB n k ⟨ps,kz⟩)(hn:n<=1000000)(hk:k+n<=400000000)(v:Int)(y0:Bool)(y1:Rw):∀(m i:Nat) (acc:Int),ps.length-i=m->i<=ps.length->InB (k+i) acc->
  D.ask (.lp 178 0) [iv v,.ptr 0 0,.ptr 1 0,.ptr 2 0,iv (i:Int)] [⟨[.ls (ps.map eP),bv kz.neg,eN kz.abs],U,Θ⟩,⟨[bv y0,.ls y1],U,Θ⟩,⟨eZ (A3 acc),U,Θ⟩]
   = V (.tup [iv 0,.ptr 1 0,.ptr 2 0],[.del,.set ⟨[bv y0,.ls y1],U,Θ⟩,.set ⟨eZ (A3 (acc+if 0<=v then Bt v ((ps.drop i).map pv) else 0)),U,Θ⟩]):=by
 have hlen:ps.length<=n:=ht.len;intro m
 induction m with
 |zero=>
  intro i acc hm hi ha;rw[ο (by omega)];have e0:acc+(if 0<=v then Bt v (([]:List Pt).map pv) else 0)=acc:=by
   rw[List.map_nil,Bt];split<;>omega
  rw[e0];refine Ax Kh UY (AdL ..) ?_;rw[Aj];exact Am rfl
 |succ m ih=>
  intro i acc hm hi ha;have h1:i<ps.length:=by omega
  have hz:=ht.ps ps[i] (AvN h1);rw[ω h1,AvT,Bt];have hn1:∀ kk,A4 (ps.map eP) i kk=kk (eP ps[i]):=λkk=>Az (Ω h1) kk
  have ga:=F.add (A3 acc) ps[i].z (ha.lz.mono (by omega)) (hz.mono (by omega));rw[BU]at ga;have ih1:=ih (i+1) acc (by omega) (by omega) (ha.mono (by omega));have ih2:=ih (i+1) (acc+zv ps[i].z) (by omega) (by omega) (by
   show InB (k+i+1) _
   exact InB.add ha (hz.inb.mono (by omega)))
  refine Ax Kh UY (AdL ..) ?_;rw[Aj];refine Ao ?_;rw[AA,hn1];simp only[eP,eN,Ae]
  by_cases hv:ps[i].v=v
  .refine Aw ?_ hv
   by_cases h0:0<=v
   .refine CL ?_ h0
    rw[AA,hn1];simp only[eP,eN,Ae];refine Aa ga ?_;simp only[eZ,eN,Ae];rw[Bn (by omega)];refine Aa ih2 ?_;rw[Ac h0,Ac h0,Ac (show (pv ps[i]).1=v from hv),Int.add_assoc];rfl
   .refine C7 ?_ h0
    rw[Bn (by omega)];refine Aa ih1 ?_;rw[Ad h0,Ad h0];rfl
  .refine Ap ?_ hv
   rw[Bn (by omega)];refine Aa ih1 ?_;rw[Ad (show ¬(pv ps[i]).1=v from hv),AyS];rfl
theorem Y0{n k:Nat}{t:Tm}(ht:TmB n k t)(hn:n<=1000000)(hk:k+n<=400000000)(v:Int):D.ask (.fn 178) [.agg (eT t),iv v] []=V (.agg (eZ (A3 (if 0<=v then Bt v t.lf.ps else 0))),[]):=by
 obtain⟨ps,kz⟩:=t;have g:=Ah2 Kh F ht hn hk v Θ [] _ 0 0 rfl (by omega) (InB.zero _);rw[κ,AyS]at g;have e0:eZ (A3 0)=[bv Θ,.ls []]:=by rw[QE];rfl
 rw[e0]at g;refine Aq Kh UY (Ati ..) ?_;refine Aa g ?_;rfl
def Adi(x:Fm):ABlk:=Ψ (eF x) U Θ
end
section
open Go.RowKit
variable (A:Ar) (D:Orc)
end

section
open Go.RowKit
variable (A:Ar) (D:Orc)
end

section
variable {D:Orc}
set_option maxRecDepth 100000 in
theorem AaC(Kv:Knows Ak La D)(g1:D.ask (.fn 32) [sv (Ag s41),.agg (Gj K9)] []=V (.tup [.agg (BH q4),.agg [iv 0,iv 0],iv 0],[]))(g2:D.ask (.fn 32) [sv (Ag s42),.agg (Gj K9)] []=V (.tup [.agg (BH T0),.agg [iv 1,iv 8],iv 101],[]))(g3:D.ask (.fn 32) [sv (Ag s43),.agg (Gj K9)] []=V (.tup [.agg (BH T0),.agg [iv 1,iv 4],iv 110],[]))(gr:D.ask (.fn 36) [.agg (BH q4)] []=V (bv U,[]))(F:Al4F D):D.ask (.fn 30) [] []=V (bv U,[]):=by
 have gs:=Aps Kv;obtain⟨a,b,c,d,e,f,g,i,j,k,r1⟩:=F.res;obtain⟨a',b',c',d',r2⟩:=F.no;have gt:=F.text;obtain⟨k7,hq⟩:∃ k7,BH q4=[iv 9,.ls [],.ls [],iv 0,sv (Ag []),sv (Ag []),.ls [[iv 7,.ls [],.ls [],iv 0,sv (Ag []),sv (Ag []),.ls k7]]]:=⟨_,rfl⟩;rw[hq]at g1 r1 gr gt;refine Aq Kv Aqy (e30 ..) ?_;refine Aa gs ?_;simp only[Gj,Ae];refine Aa g1 ?_;simp only[Ae];refine Aa gs ?_;simp only[Gj,Ae];refine Aa g2 ?_;simp only[T0,BH,Ae];refine Aa gs ?_;simp only[Gj,Ae];refine Aa g3 ?_;simp only[T0,BH,Ae];refine Aw ?_ rfl;refine Aw ?_ rfl;refine Eq.trans (Ao2 _ _ _) ?_;simp only[Ae];refine Aw ?_ rfl;refine Aw ?_ rfl;rw[show Ai.not (Ai.band (Ai.eq 1 1) (Ai.band (Ai.eq 8 8) U))=Θ from AfS 1 8];refine Bm ?_;refine Aw ?_ rfl;refine Aa gs ?_;simp only[Gj,Ae];refine Aa r1 ?_;simp only[Ae];refine Aa gs ?_;simp only[Gj,Ae];refine Aa r2 ?_;simp only[Ae];refine Aa gt ?_;simp only[Ae];refine CI rfl ?_;refine Aa gr ?_;simp only[Ae];refine Aw ?_ rfl;refine Aw ?_ rfl;refine Eq.trans (AfT _ _ _ _) ?_;simp only[Ae];refine Eq.trans (AfT _ _ _ _) ?_;simp only[Ae];refine Aw ?_ rfl;rfl
mutual
theorem ZY:∀ t:Tr,E2 t=Hz t
 |.mk _ _ _ _ _ _ ks=>by
  rw[E2,Hz,VJ ks];omega
theorem VJ:∀ l:List Tr,Gz l=EW l
 |[]=>by rw[Gz,EW]
 |x::r=>by rw[Gz,EW,ZY x,VJ r]
end
