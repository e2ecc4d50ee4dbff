/- Functions of the program -/
import Derived.Test.YtpncilciembjdaaGreatDoorBBC
set_option linter.all false
open Bool renaming true_and->Arz
open Int renaming zero_add->AsV
open List renaming all_cons->ArM,append_assoc->Ao9,append_nil->ApQ,drop->ι,drop_eq_getElem_cons->ω,drop_eq_nil_of_le->υ,drop_zero->χ,eq_nil_of_length_eq_zero->Apr,flatten_cons->AqT,getElem?_eq_getElem->Ψ,getElem_mem->ApP,length_append->η,map_append->AsE,map_congr_left->AqH,map_cons->Aps,map_eq_nil_iff->Ash,map_map->Aq5,map_nil->Aqq,mem_append->ApS,mem_cons_self->Apn,mem_map->ApY,nil_append->Apv,singleton_append->Ap4,take->κ
open Nat renaming ble->Apa,le_refl->φ
namespace Go.Proofs.YtpncilciembjdaaGreatDoor
noncomputable section
open ABlk renaming mk->Ξ
open AV renaming agg->Ω,ls->Δ,ptr->ε,sl->ζ,tup->ν,v->Apc
open BO renaming set->ο
open IntKind renaming i64->Φ
open Key renaming fn->θ,lp->γ
section
open Go.RowKit
def AkH:AB:=[⟨36,[true,false,false,true,false,false,false,false,false,true,true,true],[],[],[(1,([true,false,false,true],([],[])))]⟩,⟨36,[false,false,false,false,false,false,true,false,false,false,false,false,false,false,false,false,false,false,false,false,false,false,false,false,false,true,true,true],[(6,3)],[],[(3,([false,false,false,false,false,false,true],([],[])))]⟩]
def N9:MFn:=AS AkH 230
def Ke:Hnt:=⟨[(262,(.sl 0 3,[.row true]))],[(0,[(1,([.ls,.int .i64],[]))]),(1,[(3,([.sl 1 3],[.del,.row true]))])],[(13,[.ls]),(14,[.ls]),(29,[.ls]),(30,[.ls])]⟩
def Ags:MFn:=AS [] 125
def AfI:Hnt:=⟨[(138,(.agg [.bool,.ls],[]))],[],[(3,[.bool,.ls])]⟩
def AgQ:MFn:=AS [] 185
def Af6:Hnt:=⟨[(62,(.agg [.ls,.bool,.ls],[])),(139,(.agg [.bool,.ls],[])),(230,(.ls,[]))],[],[(6,[.ls]),(8,[.ls]),(12,[.bool,.ls]),(14,[.bool,.ls])]⟩
def Alu:MFn:=AS [] 68
def Aj9:Hnt:=⟨[(126,(.agg [.bool,.ls],[])),(148,(.agg [.ls,.bool,.ls],[]))],[],[(3,[.ls,.bool,.ls])]⟩
def Akn:AB:=[⟨35,[false,false,false,true,true,true,false,false,false,false,false,false,false,false,true,true,true],[(1000005,3)],[3,4],[(1,([false,false,false,false,true,true],([],[3])))]⟩]
def T5:MFn:=AS Akn 148
def QD:Hnt:=⟨[(62,(.agg [.ls,.bool,.ls],[])),(158,(.agg [.bool,.ls],[]))],[(0,[(1,([.ptr 1 0,.ptr 2 0],[.del,.box [.ls,.bool,.ls],.box [.sl 4 3,.bool,.ls],.del,.row true]))])],[(9,[.bool,.ls]),(10,[.bool,.ls]),(14,[.ls]),(18,[.int .i64,.bool,.ls]),(19,[.int .i64,.bool,.ls]),(21,[.ls]),(23,[.int .i64]),(25,[.bool,.ls]),(26,[.bool,.ls]),(33,[.ls,.bool,.ls])]⟩
def Agu:MFn:=AS [] 127
def AfK:Hnt:=⟨[(68,(.agg [.ls,.bool,.ls],[])),(185,(.agg [.ls,.bool,.ls],[]))],[],[(5,[.ls,.bool,.ls]),(6,[.ls,.bool,.ls])]⟩
def Aln:MFn:=AS [] 27
def Aj2:Hnt:=⟨[(62,(.agg [.ls,.bool,.ls],[]))],[],[(3,[.ls,.bool,.ls])]⟩
def Alo:MFn:=AS [] 28
def Aj3:Hnt:=⟨[(62,(.agg [.ls,.bool,.ls],[]))],[],[(3,[.ls,.bool,.ls])]⟩
def KN:List (Nat × MFn):=[(230,N9),(125,Ags),(185,AgQ),(68,Alu),(148,T5),(127,Agu),(27,Aln),(28,Alo)]
variable (A:Ar) (D:Orc)
theorem Ang(x0:Rw):BP A D As Ke .n 230 N9 [Δ x0] [] =
 Af D (γ 230 0) [Δ x0,iv 0,Δ x0,iv ↑(AF x0),iv 0] [] [.t,.C,.x,.X,.Y] λc l o=>
 br (Bo 1 c)
 (dk [.L,.I,.N,.E] [.l l,.o o] λxs n=>
 Af D (θ 262) [Apc (Value.slice none 0 0),iv n] [] [.q 0 3,.R,.X,.E] λn1 cs1=>
 Af D (γ 230 1) [ζ 0 0 n1 3,Δ xs,iv ↑(AF xs),iv 0] [Ξ cs1 true true] [.t,.C,.x,.X,.Y] λc2 l4 o2=>
 br (Bo 3 c2)
 (dk [.C,.q 1 3,.N,.D,.R,.X,.E] [.l l4,.o o2] λn2 cs3=>
 br ((0+n2*3).ble cs3.length) (some ((Δ (Bh n2 3 (κ (n2*3) cs3)),[]))) none)
 (none))
 (none):=by kernel_rfl
theorem Xt(t0:Rw)(t3:Int)(t9:Rw)(t10 t11:Int):CO A D As Ke .n 230 0 (AN N9 0).fst (AN N9 0).snd [Δ t0,iv t3,Δ t9,iv t10,iv t11] [] =
 br (A.lt t11 t10)
 (unI t11 λi=>
 Bl t9 i λcs=>
 dk [.L,.N] [.l cs] λxs=>
 br (A.lt (A.add Φ t3 ↑(AF xs)) 0)
 (none)
 (AI D (γ 230 0) [Δ t0,iv (A.add Φ t3 ↑(AF xs)),Δ t9,iv t10,iv (A.add Φ t11 1)] [] λr o=>
 AE 0 [] (AH.mk [] 0 none) [] r o))
 (some ((ν [iv 0,Δ t0,iv t3],[]))):=by kernel_rfl
theorem Xu(n6:Nat)(c6:List AV)(t25:Rw)(t26 t27:Int):CO A D As Ke .n 230 1 (AN N9 1).fst (AN N9 1).snd [ζ 0 0 n6 3,Δ t25,iv t26,iv t27] [{ cells:=c6,st:=true,ex:=true }] =
 br (A.lt t27 t26)
 (unI t27 λi=>
 Bl t25 i λcs=>
 dk [.L,.N] [.l cs] λxs=>
 br (FF 3 xs) (br ((AF xs).beq 0)
 (AI D (γ 230 1) [ζ 0 0 n6 3,Δ t25,iv t26,iv (A.add Φ t27 1)] [Ξ c6 true true] λr o=>
 AE 1 [0] (AH.mk [(0,Ξ c6 true true)] 1 none) [] r o)
 (br (GI (Hj xs)) (br (Be (n6+AF xs) 40) (br ((0+n6*3).ble c6.length) (AI D (γ 230 1) [ζ 0 0 (n6+AF xs) 3,Δ t25,iv t26,iv (A.add Φ t27 1)] [Ξ (ι 0 (κ (0+n6*3) c6)++Hj xs) true true] λr o=>
 AE 1 [1] (AH.mk [(1,Ξ (ι 0 (κ (0+n6*3) c6)++Hj xs) true true)] 2 none) [0] r o) none) none) none)) none)
 (some ((ν [iv 2,ζ 1 0 n6 3],[BO.del,ο (Ξ c6 true true)]))):=by kernel_rfl
theorem Amr(x0_0:Bool)(x0_1:Rw):BP A D As AfI .n 125 Ags [Ω [bv x0_0,Δ x0_1]] [] =
 Af D (θ 138) [Ω [bv x0_0,Δ x0_1]] [] [.a,.B,.L,.N,.E] λb xs=>
 some ((Ω [Δ [],bv b,Δ xs],[])):=by kernel_rfl
theorem AmW(x0_0:Rw)(x0_1:Bool)(x0_2 x1_0:Rw)(x1_1:Bool)(x1_2:Rw):BP A D As Af6 .n 185 AgQ [Ω [Δ x0_0,bv x0_1,Δ x0_2],Ω [Δ x1_0,bv x1_1,Δ x1_2]] [] =
 Af D (θ 230) [Δ [[Δ x0_0],[Δ x1_0]]] [] [.l,.E] λxs=>
 Af D (θ 139) [Ω [bv x0_1,Δ x0_2],Ω [bv x1_1,Δ x1_2]] [] [.a,.B,.L,.N,.E] λb xs1=>
 Af D (θ 62) [Ω [Δ xs,bv b,Δ xs1]] [] [.a,.L,.B,.L,.N,.E] λxs2 b1 xs3=>
 some ((Ω [Δ xs2,bv b1,Δ xs3],[])):=by kernel_rfl
theorem e68(x0_0:Rw)(x0_1:Bool)(x0_2:Rw):BP A D As Aj9 .n 68 Alu [Ω [Δ x0_0,bv x0_1,Δ x0_2]] [] =
 Af D (θ 126) [iv (-1)] [] [.a,.B,.L,.N,.E] λb xs=>
 Af D (θ 148) [Ω [Δ x0_0,bv x0_1,Δ x0_2],Ω [bv b,Δ xs]] [] [.a,.L,.B,.L,.N,.E] λxs1 b1 xs2=>
 some ((Ω [Δ xs1,bv b1,Δ xs2],[])):=by kernel_rfl
theorem AmG(x0_0:Rw)(x0_1:Bool)(x0_2:Rw)(x1_0:Bool)(x1_1:Rw):BP A D As QD .n 148 T5 [Ω [Δ x0_0,bv x0_1,Δ x0_2],Ω [bv x1_0,Δ x1_1]] [] =
 Af D (θ 158) [Ω [bv x0_1,Δ x0_2],Ω [bv x1_0,Δ x1_1]] [] [.a,.B,.L,.N,.E] λb xs=>
 Af D (γ 148 0) [ε 0 0,ε 1 0,ε 2 0,Δ x0_0,iv ↑(AF x0_0),iv 0] [bk [bv x1_0,Δ x1_1],bk [Δ [],bv false,Δ []],bk [ζ 3 0 0 3,bv b,Δ xs],Ξ [] true true] [.t,.C,.x,.X,.Y] λc l2 o1=>
 br (Bo 1 c)
 (dk [.P 1 0,.P 2 0,.N,.D,.T,.L,.B,.L,.N,.T,.C,.q 4 3,.B,.L,.N,.D,.R,.X,.E] [.l l2,.o o1] λ_ _ _ n b2 xs3 cs4=>
 br ((0+n*3).ble cs4.length) (AI D (θ 62) [Ω [Δ (Bh n 3 (κ (n*3) cs4)),bv b2,Δ xs3]] [] λr2 o2=>
 dk [.a,.L,.B,.L,.N,.E] [.v r2,.o o2] λxs4 b3 xs5=>
 some ((Ω [Δ xs4,bv b3,Δ xs5],[]))) none)
 (none):=by kernel_rfl
theorem Xa(i0:Bool)(i1 r0:Rw)(r1:Bool)(r2:Rw)(n5:Nat)(k1:Bool)(k2:Rw)(c5:List AV)(t14:Rw)(t15 t16:Int):CO A D As QD .n 148 0 (AN T5 0).fst (AN T5 0).snd [ε 0 0,ε 1 0,ε 2 0,Δ t14,iv t15,iv t16] [bk [bv i0,Δ i1],bk [Δ r0,bv r1,Δ r2],bk [ζ 3 0 n5 3,bv k1,Δ k2],{ cells:=c5,st:=true,ex:=true }] =
 br (A.lt t16 t15)
 (unI t16 λi=>
 Bl t14 i λcs=>
 dk [.I,.B,.L,.N] [.l cs] λn b xs=>
 Af D (θ 158) [Ω [bv b,Δ xs],Ω [bv i0,Δ i1]] [] [.a,.B,.L,.N,.E] λb1 xs1=>
 br (Be (n5+1) 40) (br ((0+n5*3).ble c5.length) (AI D (γ 148 0) [ε 0 0,ε 1 0,ε 2 0,Δ t14,iv t15,iv (A.add Φ t16 1)] [bk [bv i0,Δ i1],bk [Δ r0,bv r1,Δ r2],bk [ζ 3 0 (n5+1) 3,bv k1,Δ k2],Ξ (ι 0 (κ (0+n5*3) c5)++[iv n,bv b1,Δ xs1]) true true] λr3 o1=>
 AE 4 [0,1,2,6] (AH.mk [(1,bk [Δ r0,bv r1,Δ r2]),(0,bk [bv i0,Δ i1]),(2,bk [ζ 6 0 (n5+1) 3,bv k1,Δ k2]),(6,Ξ (ι 0 (κ (0+n5*3) c5)++[iv n,bv b1,Δ xs1]) true true),(5,Ξ [iv n,bv b1,Δ xs1] true true),(4,bk [iv n,bv b,Δ xs])] 7 none) [3,2,0,1] r3 o1) none) none)
 (some ((ν [iv 0,ε 1 0,ε 2 0],[BO.del,ο (bk [Δ r0,bv r1,Δ r2]),ο (bk [ζ 4 0 n5 3,bv k1,Δ k2]),BO.del,ο (Ξ c5 true true)]))):=by kernel_rfl
theorem Amt(x0_0:Rw)(x0_1:Bool)(x0_2 x1_0:Rw)(x1_1:Bool)(x1_2:Rw):BP A D As AfK .n 127 Agu [Ω [Δ x0_0,bv x0_1,Δ x0_2],Ω [Δ x1_0,bv x1_1,Δ x1_2]] [] =
 Af D (θ 68) [Ω [Δ x1_0,bv x1_1,Δ x1_2]] [] [.a,.L,.B,.L,.N,.E] λxs b xs1=>
 Af D (θ 185) [Ω [Δ x0_0,bv x0_1,Δ x0_2],Ω [Δ xs,bv b,Δ xs1]] [] [.a,.L,.B,.L,.N,.E] λxs2 b1 xs3=>
 some ((Ω [Δ xs2,bv b1,Δ xs3],[])):=by kernel_rfl
theorem e27(x0_0:Rw)(x0_1:Bool)(x0_2:Rw):BP A D As Aj2 .n 27 Aln [Ω [Δ x0_0,bv x0_1,Δ x0_2]] [] =
 Af D (θ 62) [Ω [Δ x0_0,bv x0_1,Δ x0_2]] [] [.a,.L,.B,.L,.N,.E] λxs b xs1=>
 some ((Ω [Δ xs,bv b,Δ xs1,bv true],[])):=by kernel_rfl
theorem e28(x0_0:Rw)(x0_1:Bool)(x0_2:Rw):BP A D As Aj3 .n 28 Alo [Ω [Δ x0_0,bv x0_1,Δ x0_2]] [] =
 Af D (θ 62) [Ω [Δ x0_0,bv x0_1,Δ x0_2]] [] [.a,.L,.B,.L,.N,.E] λxs b xs1=>
 some ((Ω [Δ xs,bv b,Δ xs1,bv false],[])):=by kernel_rfl
end
open Go.RowKit
def eR(r:List Pt):List AV:=[.ls (r.map eP)]
theorem S5(p:Pt):GI (eP p)=true:=rfl
def Ou(x:Zi)(p:Pt):Pt:=⟨p.v,Az (zv p.z*zv x)⟩
theorem Ahg{a b:Nat}(h:a+b<4611686018427387904):Ag.add .i64 (a:Int) (b:Int)=((a+b:Nat):Int):=by
 rw[Ef (by omega) (by omega)];omega
section
variable {D:Orc} (Kt:Knows As Gc D) (Kf:Knows As KN D) (Ks:Knows As Eh D) (Z:ZF D) (C:PartF D)
include Kf
theorem Aht(rs:List (List Pt))(X:List (List AV))(hr:rs.length<=1000000):∀(m i s:Nat),rs.length-i=m->i<=rs.length->s+(rs.drop i).flatten.length<=1000000000->
  D.ask (.lp 230 0) [.ls X,iv (s:Int),.ls (rs.map eR),iv (rs.length:Int),iv (i:Int)] []=some (.tup [iv 0,.ls X,iv ((s+(rs.drop i).flatten.length:Nat):Int)],[]):=by
 intro m
 induction m with
 |zero=>
  intro i s hm hi hs;rw[υ (by omega)];refine Kf.lp' Ke _ rfl (by kernel_rfl) ((Xt ..).trans ?_);exact Ak (by omega) rfl
 |succ m ih=>
  intro i s hm hi hs;have h1:i<rs.length:=by omega
  rw[ω h1,AqT,η]at hs ⊢;have ih:=ih (i+1) (s+rs[i].length) (by omega) (by omega) (by omega);rw[show s+rs[i].length+(rs.drop (i+1)).flatten.length=s+(rs[i].length+(rs.drop (i+1)).flatten.length) by omega]at ih;refine Kf.lp' Ke _ rfl (by kernel_rfl) ((Xt ..).trans ?_);refine Aq (by omega) ?_;rw[Av,Aw (Ψ h1)];simp only[eR,ND,DK,Ab];rw[Aj,Ahg (by omega),BC (by omega)];refine Ak (by omega) ?_;refine Aa ih ?_;rfl
theorem Ahu(rs:List (List Pt))(hr:rs.length<=1000000):∀(m i:Nat) (out:List Pt),rs.length-i=m->i<=rs.length->out.length+(rs.drop i).flatten.length<=1000000000->
  D.ask (.lp 230 1) [.sl 0 0 out.length 3,.ls (rs.map eR),iv (rs.length:Int),iv (i:Int)] [D8 out]=some (.tup [iv 2,.sl 1 0 (out++(rs.drop i).flatten).length 3],[.del,.set (D8 (out++(rs.drop i).flatten))]):=by
 intro m
 induction m with
 |zero=>
  intro i out hm hi hs;rw[υ (by omega),List.flatten_nil,ApQ];refine Kf.lp' Ke _ rfl (by kernel_rfl) ((Xu ..).trans ?_);exact Ak (by omega) rfl
 |succ m ih=>
  intro i out hm hi hs;have h1:i<rs.length:=by omega
  rw[ω h1,AqT]at hs ⊢;rw[η]at hs;have ih:=ih (i+1) (out++rs[i]) (by omega) (by omega) (by rw[η];omega);rw[Ao9]at ih;refine Kf.lp' Ke _ rfl (by kernel_rfl) ((Xu ..).trans ?_);refine Aq (by omega) ?_;rw[Av,Aw (Ψ h1)];revert hs ih;generalize rs[i]=r;intro hs ih;simp only[eR,ND,DK,Ab];rw[JX Au,Aj,BC (by omega)];refine Ae ?_
  by_cases h0:r=[]
  .subst h0
   rw[ApQ]at ih;rw[Apv]at ih ⊢;refine Ae ?_;refine Aa ih ?_;rfl
  .have hz:Nat.beq r.length 0=false:=by
    cases r with
    |nil=>exact absurd rfl h0
    |cons x r=>rfl
   rw[hz];refine B8 ?_;rw[EA,GJ S5];refine Ae ?_;rw[AL (n:=out.length+r.length) (b:=40) (by omega) (by omega)];refine Ae ?_;rw[show Apa (0+out.length*3) (Ai eP out).length=true from AJ Au out (by omega)];refine Ae ?_;have e3:ι 0 (κ (0+out.length*3) (Ai eP out))++Ai eP r=Ai eP (out++r):=by
    rw[χ,Bf Au out (by omega)];simp[Ai]
   rw[e3];rw[show (out++r).length=out.length+r.length from η]at ih;refine Aa ih ?_;rfl
include C in
theorem Vb(a b:List Pt)(h:a.length+b.length<=1000000):D.ask (.fn 230) [.ls [[.ls (a.map eP)],[.ls (b.map eP)]]] []=some (.ls ((a++b).map eP),[]):=by
 have hf:([a,b]).flatten=a++b:=by simp
 have g0:=Aht Kf [a,b] (([a,b]).map eR) (by simp) _ 0 0 rfl (by simp) (by rw[χ,hf,η];omega);rw[χ,hf,Nat.zero_add]at g0;have gg:=C.grow (a++b).length (by rw[η];omega);have g1:=Ahu Kf [a,b] (by simp) _ 0 [] rfl (by simp) (by rw[χ,hf,η];simp;omega);rw[χ,hf,Apv]at g1;refine Kf.fn' Ke _ rfl ((Ang ..).trans ?_);refine Aa g0 ?_;simp only[ND,DK,Ab];refine Aa gg ?_;simp only[ND,DK,Ab];refine Aa g1 ?_;simp only[ND,DK,Ab];rw[show Apa (0+(a++b).length*3) (Ai eP (a++b)).length=true from AJ Au (a++b) (by omega)];refine Ae ?_;rw[Bp Au (a++b) rfl];rfl
include Kt Ks Z C
theorem Ahh{n m k:Nat}{a b:Tm}(ha:TmB n k a)(hb:TmB m k b)(hn:n+m<=1000000)(hk:k+1+(n+m)<=900000000):D.ask (.fn 185) [.agg (eT a),.agg (eT b)] []=some (.agg (eT (a.lf.add b.lf).tm),[]):=by
 obtain⟨ap,ak⟩:=a;obtain⟨bp,bk⟩:=b;have l1:ap.length<=n:=ha.len;have l2:bp.length<=m:=hb.len;have gc:=Vb Kf C ap bp (by omega);have ga:=Z.add ak bk (ha.k.mono (by omega)) (hb.k.mono (by omega));have hT:TmB (n+m) (k+1) ⟨ap++bp,Az (zv ak+zv bk)⟩:=by
  refine⟨by simp;omega,λp hp=>?_,?_⟩
  .rcases ApS.1 hp with h|h
   .exact(ha.ps p h).mono (by omega)
   .exact(hb.ps p h).mono (by omega)
  .exact(InB.add ha.k.inb hb.k.inb).lz
 have gp:=Ee Kt Ks Z C hT hn (by omega);have el:(⟨ap++bp,Az (zv ak+zv bk)⟩:Tm).lf.pln=Lf.add (Tm.lf ⟨ap,ak⟩) (Tm.lf ⟨bp,bk⟩):=by
  unfold Lf.add Tm.lf;simp only[AsE,AU]
 rw[el]at gp;refine Kf.fn' Af6 _ rfl ((AmW ..).trans ?_);refine Aa gc ?_;simp only[ND,DK,Ab];refine Aa ga ?_;simp only[eZ,eN,ND,DK,Ab];refine Aa gp ?_;rfl
omit Kt Ks C in
theorem Zq{k j:Nat}{x:Zi}(hx:Lz j x)(hx24:x.abs.length<24)(ps:List Pt)(hl:ps.length<=1000000)(hz:∀ p∈ps,Lz k p.z)(hk:k<=400000000)(hj:j<=400000000)(r0:List (List AV))(r1:Bool)(r2:List (List AV))(k1:Bool)(k2:List (List AV)):∀(m i:Nat) (out:List Pt),ps.length-i=m->i<=ps.length->out.length<=i->
  D.ask (.lp 148 0) [.ptr 0 0,.ptr 1 0,.ptr 2 0,.ls (ps.map eP),iv (ps.length:Int),iv (i:Int)] [⟨eZ x,true,false⟩,⟨[.ls r0,bv r1,.ls r2],true,false⟩,⟨[.sl 3 0 out.length 3,bv k1,.ls k2],true,false⟩,D8 out]
   = some (.tup [iv 0,.ptr 1 0,.ptr 2 0],[.del,.set ⟨[.ls r0,bv r1,.ls r2],true,false⟩,.set ⟨[.sl 4 0 (out++(ps.drop i).map (Ou x)).length 3,bv k1,.ls k2],true,false⟩,.del,.set (D8 (out++(ps.drop i).map (Ou x)))]):=by
 intro m
 induction m with
 |zero=>
  intro i out hm hi ho;rw[υ (by omega),Aqq,ApQ];refine Kf.lp' QD _ rfl (by kernel_rfl) ((Xa ..).trans ?_);exact Ak (by omega) rfl
 |succ m ih=>
  intro i out hm hi ho;have h1:i<ps.length:=by omega
  have hzk:=hz ps[i] (ApP h1);have gm:=Z.mul ps[i].z x (hzk.mono (by omega)) (hx.mono (by omega)) (.inr hx24);rw[ω h1,Aps];have ih:=ih (i+1) (out++[Ou x ps[i]]) (by omega) (by omega) (by simp;omega);rw[Ao9,Ap4,show (out++[Ou x ps[i]]).length=out.length+1 by simp]at ih;have hf:Be (out.length+1) 40=true:=AL (by omega) (by omega);have hb1:Apa (0+out.length*3) (Ai eP out).length=true:=AJ Au out (by omega);have e3:ι 0 (κ (0+out.length*3) (Ai eP out))++[iv ps[i].v,bv (Az (zv ps[i].z*zv x)).neg,eN (Az (zv ps[i].z*zv x)).abs]=Ai eP (out++[Ou x ps[i]]):=by
   rw[χ,Bf Au out (by omega)];exact Bc eP out (Ou x ps[i])
  obtain⟨xn,xa⟩:=x;refine Kf.lp' QD _ rfl (by kernel_rfl) ((Xa ..).trans ?_);refine Aq (by omega) ?_;rw[Av,Aw (Ψ h1)];simp only[eP,eN,ND,DK,Ab];refine Aa gm ?_;simp only[eZ,eN,ND,DK,Ab]at e3 ⊢;rw[hf];refine Ae ?_;rw[hb1];refine Ae ?_;rw[e3,BC (by omega)];refine Aa ih ?_;rfl
theorem Zr{n k j:Nat}{a:Tm}{x:Zi}(ha:TmB n k a)(hx:Lz j x)(hx24:x.abs.length<24)(hn:n<=1000000)(hj:j<=23)(hk:k+j+n<=400000000):D.ask (.fn 148) [.agg (eT a),.agg (eZ x)] []=some (.agg (eT (a.lf.scale (zv x)).tm),[]):=by
 obtain⟨ap,ak⟩:=a;have l1:ap.length<=n:=ha.len;have gm:=Z.mul ak x (ha.k.mono (by omega)) (hx.mono (by omega)) (.inr hx24);have gl:=Zq Kf Z hx hx24 ap (by omega) ha.ps (by omega) (by omega) [] false [] (Az (zv ak*zv x)).neg ((Az (zv ak*zv x)).abs.map eL) _ 0 [] rfl (by omega) (by simp);rw[χ,Apv]at gl;have hT:TmB n (k+j) ⟨ap.map (Ou x),Az (zv ak*zv x)⟩:=by
  refine⟨by simpa using l1,λp hp=>?_,(InB.mul ha.k.inb hx.inb).lz⟩;rw[ApY]at hp;obtain⟨q,hq,rfl⟩:=hp;exact(InB.mul (ha.ps q hq).inb hx.inb).lz
 have gp:=Ee Kt Ks Z C hT hn (by omega);have el:(⟨ap.map (Ou x),Az (zv ak*zv x)⟩:Tm).lf.pln=Lf.scale (Tm.lf ⟨ap,ak⟩) (zv x):=by
  unfold Lf.scale Tm.lf;simp only[Aq5,AU]
  congr 2
  refine AqH λp _=>?_
  show ((p.v,zv (Az (zv p.z*zv x))):Int × Int)=_
  rw[AU];rfl
 rw[el]at gp;obtain⟨xn,xa⟩:=x;refine Kf.fn' QD _ rfl ((AmG ..).trans ?_);refine Aa gm ?_;simp only[eZ,eN,ND,DK,Ab,Aj];refine Aa gl ?_;simp only[ND,DK,Ab];rw[show Apa (0+(ap.map (Ou ⟨xn,xa⟩)).length*3) (Ai eP (ap.map (Ou ⟨xn,xa⟩))).length=true from AJ Au _ (by omega)];refine Ae ?_;rw[Bp Au _ rfl];refine Aa gp ?_;rfl
theorem Pz{n k:Nat}{a:Tm}(ha:TmB n k a)(hn:n<=1000000)(hk:k+1+n<=400000000):D.ask (.fn 68) [.agg (eT a)] []=some (.agg (eT (a.lf.scale (-1)).tm),[]):=by
 have g1:=Z.of_ (-1) (by omega) (by omega);have hx:Lz 1 (Az (-1)):=InB.lz (by unfold InB;decide);have g2:=Zr Kt Kf Ks Z C ha hx (by have:=hx.len;omega) hn (by omega) hk;rw[AU]at g2;refine Kf.fn' Aj9 _ rfl ((e68 ..).trans ?_);refine Aa g1 ?_;simp only[eZ,eN,ND,DK,Ab];refine Aa g2 ?_;rfl
theorem Aja{n m k:Nat}{a b:Tm}(ha:TmB n k a)(hb:TmB m k b)(hn:n+m<=1000000)(hk:k+2+2*(n+m)<=400000000):D.ask (.fn 127) [.agg (eT a),.agg (eT b)] []=some (.agg (eT (a.lf.sub b.lf).tm),[]):=by
 have g1:=Pz Kt Kf Ks Z C hb (by omega) (by omega);have hn1:LB m (k+1+m) (b.lf.scale (-1)):=hb.lb.scale (by unfold InB;decide);have g2:=Ahh Kt Kf Ks Z C (ha.mono (φ _) (show k<=k+1+m by omega)) hn1.tb hn (by omega);rw[Dc]at g2;refine Kf.fn' AfK _ rfl ((Amt ..).trans ?_);refine Aa g1 ?_;simp only[eT,eN,ND,DK,Ab];refine Aa g2 ?_;rfl
omit Ks C in
theorem VF{z:Zi}(hz:Lz 1000000000 z):D.ask (.fn 125) [.agg (eZ z)] []=some (.agg (eT (Lf.num (zv z)).tm),[]):=by
 have g:=EC Kt Z hz;refine Kf.fn' AfI _ rfl ((Amr ..).trans ?_);refine Aa g ?_;rfl
theorem Afn{n k:Nat}{t:Tm}(h:TmB n k t)(hn:n<=1000000)(hk:k+n<=900000000):D.ask (.fn 27) [.agg (eT t)] []=some (.agg (eT t.lf.pln.tm++[bv true]),[]):=by
 have g:=Ee Kt Ks Z C h hn hk;refine Kf.fn' Aj2 _ rfl ((e27 ..).trans ?_);refine Aa g ?_;rfl
theorem Q2{n k:Nat}{t:Tm}(h:TmB n k t)(hn:n<=1000000)(hk:k+n<=900000000):D.ask (.fn 28) [.agg (eT t)] []=some (.agg (eT t.lf.pln.tm++[bv false]),[]):=by
 have g:=Ee Kt Ks Z C h hn hk;refine Kf.fn' Aj3 _ rfl ((e28 ..).trans ?_);refine Aa g ?_;rfl
end
section
open Go.RowKit
variable (A:Ar) (D:Orc)
end
inductive FB (n k:Nat):Fm->Prop
 |mk {kind:Int} {t:Tm} {e:Bool} {ks:List Fm} (ht:TmB n k t) (hl:ks.length<=1000000) (h:∀ x∈ks,FB n k x):FB n k (.mk kind t e ks)
theorem LB.sub{n m k:Nat}{a b:Lf}(ha:LB n k a)(hb:LB m k b):LB (n+m) (2*k+2+2*(n+m)) (a.sub b):=by
 have h1:LB m (k+1+m) (b.scale (-1)):=hb.scale (by unfold InB;decide);exact(ha.add h1).mono (φ _) (by omega)
section
open Go.RowKit
def AnE:AB:=[⟨36,[false,true,true,false,true,true,true],[],[2,4,5],[(1,([false,false,false,false,true,true],([],[2])))]⟩]
def Acl:MFn:=AS AnE 77
def Yd:Hnt:=⟨[(122,(.agg [.bool,.ls],[]))],[(0,[(1,([.ptr 1 0,.ptr 2 0],[.del,.box [.bool,.ls],.box [.bool,.ls]]))])],[(10,[.ls]),(16,[.ls]),(18,[.int .i64,.bool,.ls]),(20,[.int .i64]),(27,[.bool,.ls]),(29,[.ls]),(31,[.int .i64,.bool,.ls]),(33,[.bool,.ls]),(35,[.bool,.ls])]⟩
def AnH:AB:=[⟨27,[false,true,true,false,true,true,true],[],[2,4,5],[(1,([false,false,false,false,true,true],([],[2])))]⟩]
def AnR:MFn:=AS AnH 87
def AnM:MFn:=AS [] 31
def Ans:AB:=[⟨26,[true,false,true,false,false,false,false,true],[],[],[(0,([false,false,false,false,false,false,true],([],[]))),(1,([],([],[])))]⟩]
def AnL:MFn:=AS Ans 29
def Ant:AB:=[⟨65,[false,true,true,false,false,true],[],[2],[(0,([false,false,false,false,true],([],[2]))),(2,([],([],[2])))]⟩,⟨65,[false,true,true,false,false,false,true],[],[2],[(0,([false,false,false,false,true],([],[2]))),(4,([],([],[2])))]⟩]
def AnN:MFn:=AS Ant 37
def Hv:List (Nat × MFn):=[(77,Acl),(87,AnR),(31,AnM),(29,AnL),(37,AnN)]
variable (A:Ar) (D:Orc)
theorem e77(x0_0:Rw)(x0_1:Bool)(x0_2:Rw)(x1:Int):BP A D As Yd .n 77 Acl [Ω [Δ x0_0,bv x0_1,Δ x0_2],iv x1] [] =
 Af D (γ 77 0) [iv x1,ε 0 0,ε 1 0,ε 2 0,iv 0] [bk [Δ x0_0,bv x0_1,Δ x0_2],bk [bv false,Δ []],bk [bv false,Δ []]] [.t,.C,.x,.X,.Y] λc l o=>
 br (Bo 1 c)
 (dk [.P 1 0,.P 2 0,.N,.D,.T,.B,.L,.N,.T,.B,.L,.N,.E] [.l l,.o o] λ_ _ b1 xs1=>
 some ((Ω [bv b1,Δ xs1],[])))
 (none):=by kernel_rfl
theorem AfA(t1:Int)(b2_0:Rw)(b2_1:Bool)(b2_2:Rw)(b4_0:Bool)(b4_1:Rw)(b5_0:Bool)(b5_1:Rw)(t6:Int):CO A D As Yd .n 77 0 (AN Acl 0).fst (AN Acl 0).snd [iv t1,ε 0 0,ε 1 0,ε 2 0,iv t6] [bk [Δ b2_0,bv b2_1,Δ b2_2],bk [bv b4_0,Δ b4_1],bk [bv b5_0,Δ b5_1]] =
 br (A.lt t6 ↑(AF b2_0))
 (unI t6 λi=>
 Bl b2_0 i λcs=>
 dk [.I,.B,.L,.N] [.l cs] λn _ _=>
 br (A.eq n t1)
 (br (A.le 0 t1)
 (unI t6 λi1=>
 Bl b2_0 i1 λcs1=>
 dk [.I,.B,.L,.N] [.l cs1] λ_ b1 xs1=>
 Af D (θ 122) [Ω [bv b5_0,Δ b5_1],Ω [bv b1,Δ xs1]] [] [.a,.B,.L,.N,.E] λb2 xs2=>
 AI D (γ 77 0) [iv t1,ε 0 0,ε 1 0,ε 2 0,iv (A.add Φ t6 1)] [bk [Δ b2_0,bv b2_1,Δ b2_2],bk [bv b4_0,Δ b4_1],bk [bv b2,Δ xs2]] λr1 o1=>
 AE 3 [0,1,2] (AH.mk [(2,bk [bv b2,Δ xs2]),(1,bk [bv b4_0,Δ b4_1]),(0,bk [Δ b2_0,bv b2_1,Δ b2_2])] 3 none) [0,1,2] r1 o1)
 (AI D (γ 77 0) [iv t1,ε 0 0,ε 1 0,ε 2 0,iv (A.add Φ t6 1)] [bk [Δ b2_0,bv b2_1,Δ b2_2],bk [bv b4_0,Δ b4_1],bk [bv b5_0,Δ b5_1]] λr o=>
 AE 3 [0,1,2] (AH.mk [(2,bk [bv b5_0,Δ b5_1]),(1,bk [bv b4_0,Δ b4_1]),(0,bk [Δ b2_0,bv b2_1,Δ b2_2])] 3 none) [0,1,2] r o))
 (AI D (γ 77 0) [iv t1,ε 0 0,ε 1 0,ε 2 0,iv (A.add Φ t6 1)] [bk [Δ b2_0,bv b2_1,Δ b2_2],bk [bv b4_0,Δ b4_1],bk [bv b5_0,Δ b5_1]] λr o=>
 AE 3 [0,1,2] (AH.mk [(2,bk [bv b5_0,Δ b5_1]),(1,bk [bv b4_0,Δ b4_1]),(0,bk [Δ b2_0,bv b2_1,Δ b2_2])] 3 none) [0,1,2] r o))
 (some ((ν [iv 0,ε 1 0,ε 2 0],[BO.del,ο (bk [bv b4_0,Δ b4_1]),ο (bk [bv b5_0,Δ b5_1])]))):=by kernel_rfl
end
theorem Zt(n:Int):BF n=0 ↔ n=0:=by
 unfold BF
 repeat' split
 all_goals omega
section
variable {D:Orc} (Kh:Knows As Hv D) (F:RF D)
include Kh F
theorem AaY{n k:Nat}{ps:List Pt}{kz:Zi}(ht:TmB n k ⟨ps,kz⟩)(hn:n<=1000000)(hk:k+n<=400000000)(v:Int)(y0:Bool)(y1:List (List AV)):∀(m i:Nat) (acc:Int),ps.length-i=m->i<=ps.length->InB (k+i) acc->
  D.ask (.lp 77 0) [iv v,.ptr 0 0,.ptr 1 0,.ptr 2 0,iv (i:Int)] [⟨[.ls (ps.map eP),bv kz.neg,eN kz.abs],true,false⟩,⟨[bv y0,.ls y1],true,false⟩,⟨eZ (Az acc),true,false⟩]
   = some (.tup [iv 0,.ptr 1 0,.ptr 2 0],[.del,.set ⟨[bv y0,.ls y1],true,false⟩,.set ⟨eZ (Az (acc+if 0<=v then A6 v ((ps.drop i).map pv) else 0)),true,false⟩]):=by
 have hlen:ps.length<=n:=ht.len;intro m
 induction m with
 |zero=>
  intro i acc hm hi ha;rw[υ (by omega)];have e0:acc+(if 0<=v then A6 v (([]:List Pt).map pv) else 0)=acc:=by
   rw[Aqq,A6];split<;>omega
  rw[e0];refine Kh.lp' Yd _ rfl (by kernel_rfl) ((AfA ..).trans ?_);rw[Aj];exact Ak (by omega) rfl
 |succ m ih=>
  intro i acc hm hi ha;have h1:i<ps.length:=by omega
  have hz:=ht.ps ps[i] (ApP h1);rw[ω h1,Aps,A6];have hn1:∀ kk,Bl (ps.map eP) i kk=kk (eP ps[i]):=λkk=>Aw (Ψ h1) kk
  have ga:=F.add (Az acc) ps[i].z (ha.lz.mono (by omega)) (hz.mono (by omega));rw[AU]at ga;have ih1:=ih (i+1) acc (by omega) (by omega) (ha.mono (by omega));have ih2:=ih (i+1) (acc+zv ps[i].z) (by omega) (by omega) (by
   show InB (k+i+1) _
   exact InB.add ha (hz.inb.mono (by omega)))
  refine Kh.lp' Yd _ rfl (by kernel_rfl) ((AfA ..).trans ?_);rw[Aj];refine Aq (by omega) ?_;rw[Av,hn1];simp only[eP,eN,ND,DK,Ab]
  by_cases hv:ps[i].v=v
  .refine Bi hv ?_
   by_cases h0:0<=v
   .refine BW h0 ?_
    rw[Av,hn1];simp only[eP,eN,ND,DK,Ab];refine Aa ga ?_;simp only[eZ,eN,ND,DK,Ab];rw[BC (by omega)];refine Aa ih2 ?_;rw[if_pos h0,if_pos h0,if_pos (show (pv ps[i]).1=v from hv),Int.add_assoc];rfl
   .refine Ca h0 ?_
    rw[BC (by omega)];refine Aa ih1 ?_;rw[if_neg h0,if_neg h0];rfl
  .refine AK hv ?_
   rw[BC (by omega)];refine Aa ih1 ?_;rw[if_neg (show ¬(pv ps[i]).1=v from hv),AsV];rfl
theorem Lj{n k:Nat}{t:Tm}(ht:TmB n k t)(hn:n<=1000000)(hk:k+n<=400000000)(v:Int):D.ask (.fn 77) [.agg (eT t),iv v] []=some (.agg (eZ (Az (if 0<=v then A6 v t.lf.ps else 0))),[]):=by
 obtain⟨ps,kz⟩:=t;have g:=AaY Kh F ht hn hk v false [] _ 0 0 rfl (by omega) (InB.zero _);rw[χ,AsV]at g;have e0:eZ (Az 0)=[bv false,.ls []]:=by rw[No];rfl
 rw[e0]at g;refine Kh.fn' Yd _ rfl ((e77 ..).trans ?_);refine Aa g ?_;rfl
end
section
open Go.RowKit
def Akk:AB:=[⟨49,[true,true,false,false,false,true,true,true],[(5,1)],[],[(1,([false,true,false,false,false,true,true],([],[])))]⟩]
def TY:MFn:=AS Akk 121
def QB:Hnt:=⟨[],[(0,[(1,([.int .i64,.sl 1 1,.bool],[.del,.row true]))])],[(20,[.int .i64]),(21,[.int .i64]),(31,[.int .i64]),(32,[.int .i64]),(38,[.int .i64]),(39,[.int .i64])]⟩
def AnD:AB:=[⟨29,[false,true,false,true,true],[],[1,3],[(1,([false,false,false,true],([],[1])))]⟩]
def Ack:MFn:=AS AnD 76
def Yc:Hnt:=⟨[(69,(.int .i64,[])),(77,(.agg [.bool,.ls],[])),(121,(.ls,[]))],[(0,[(1,([.ls],[.del]))])],[(9,[.ls]),(15,[.ls]),(17,[.int .i64,.bool,.ls]),(19,[.int .i64]),(20,[.ls,.bool,.ls])]⟩
def Anq:AB:=[⟨35,[false,true,true,true,true,true],[(1000003,3)],[1,2],[(1,([false,false,true,true],([],[1])))]⟩]
def Acb:MFn:=AS Anq 20
def X2:Hnt:=⟨[(75,(.agg [.bool,.ls],[])),(76,(.ls,[])),(77,(.agg [.bool,.ls],[]))],[(0,[(1,([.ptr 1 0,.ptr 2 0],[.del,.box [.ls,.bool,.ls],.box [.sl 4 3,.bool,.ls],.del,.row true]))])],[(7,[.bool,.ls]),(10,[.ls,.bool,.ls]),(19,[.ls]),(22,[.int .i64]),(23,[.int .i64]),(24,[.ls,.bool,.ls]),(27,[.int .i64]),(28,[.int .i64]),(34,[.ls,.bool,.ls])]⟩
def AkE:AB:=[⟨36,[true,true,false,false,false,true,true],[(5,3)],[],[(1,([false,true,false,false,false,true],([],[])))]⟩,⟨36,[false,true,false,false,false,true,false,true],[(5,3)],[],[(3,([false,false,false,false,false,true],([],[])))]⟩]
def N8:MFn:=AS AkE 211
def Kb:Hnt:=⟨[],[(0,[(1,([.ls,.sl 1 3],[.del,.row true]))]),(1,[(3,([.sl 1 3],[.del,.row true]))])],[(18,[.int .i64,.bool,.ls]),(19,[.int .i64,.bool,.ls]),(31,[.int .i64,.bool,.ls]),(32,[.int .i64,.bool,.ls])]⟩
def AgI:MFn:=AS [] 153
def AfY:Hnt:=⟨[(20,(.agg [.ls,.bool,.ls],[])),(122,(.agg [.bool,.ls],[])),(211,(.ls,[]))],[],[(6,[.ls]),(8,[.ls]),(11,[.bool,.ls]),(13,[.bool,.ls])]⟩
def AnB:AB:=[⟨41,[false,false,true,true,true,true,true],[(1000005,3)],[2,3,4],[(1,([false,false,false,false,true,true],([],[2,3])))]⟩]
def Aci:MFn:=AS AnB 73
def Yb:Hnt:=⟨[(20,(.agg [.ls,.bool,.ls],[])),(123,(.agg [.bool,.ls],[]))],[(0,[(1,([.ptr 2 0,.ptr 3 0],[.del,.del,.box [.ls,.bool,.ls],.box [.sl 5 3,.bool,.ls],.del,.row true]))])],[(8,[.bool,.ls]),(9,[.bool,.ls]),(14,[.ls]),(20,[.ls]),(22,[.ls]),(24,[.int .i64,.bool,.ls]),(26,[.int .i64]),(28,[.ls]),(30,[.int .i64,.bool,.ls]),(32,[.bool,.ls]),(33,[.bool,.ls]),(39,[.ls,.bool,.ls])]⟩
def AlA:MFn:=AS [] 81
def Akf:Hnt:=⟨[(56,(.agg [.bool,.ls],[])),(73,(.agg [.ls,.bool,.ls],[])),(153,(.agg [.ls,.bool,.ls],[]))],[],[(5,[.ls,.bool,.ls]),(6,[.ls,.bool,.ls])]⟩
def Alz:MFn:=AS [] 80
def Ake:Hnt:=⟨[(75,(.agg [.bool,.ls],[]))],[],[(3,[.bool,.ls])]⟩
def AnF:AB:=[⟨57,[false,false,true,true,false,true],[],[2,3],[(0,([false,false,false,false,true],([],[2,3]))),(1,([],([],[2,3])))]⟩]
def Acm:MFn:=AS AnF 78
def Pc:Hnt:=⟨[(152,(.bool,[]))],[(0,[(0,([.bool],[.del,.del])),(1,([],[.del,.del]))])],[(7,[.ls]),(10,[.ls]),(15,[.bool,.ls]),(17,[.bool,.ls]),(23,[.ls]),(29,[.ls]),(31,[.int .i64,.bool,.ls]),(33,[.int .i64]),(35,[.ls]),(37,[.int .i64,.bool,.ls]),(39,[.int .i64]),(43,[.ls]),(45,[.int .i64,.bool,.ls]),(47,[.bool,.ls]),(49,[.ls]),(51,[.int .i64,.bool,.ls]),(53,[.bool,.ls])]⟩
def GU:List (Nat × MFn):=[(121,TY),(76,Ack),(20,Acb),(211,N8),(153,AgI),(73,Aci),(81,AlA),(80,Alz),(78,Acm)]
variable (A:Ar) (D:Orc)
theorem Amo(x0:Rw)(x1:Int):BP A D As QB .n 121 TY [Δ x0,iv x1] [] =
 Af D (γ 121 0) [Δ x0,iv x1,ζ 0 0 0 1,bv false,iv 0] [Ξ [] true true] [.t,.C,.x,.X,.Y] λc l o=>
 br (Bo 1 c)
 (dk [.I,.C,.q 1 1,.B,.N,.D,.R,.X,.E] [.l l,.o o] λn n1 b cs1=>
 br (A.not b)
 (br (Be (n1+1) 8) (br ((0+n1*1).ble cs1.length) (br ((0+(n1+1)*1).ble (ι 0 (κ (0+n1*1) cs1)++[iv n]).length) (some ((Δ (Bh (n1+1) 1 (κ ((n1+1)*1) (ι 0 (ι 0 (κ (0+n1*1) cs1)++[iv n])))),[]))) none) none) none)
 (br ((0+n1*1).ble cs1.length) (some ((Δ (Bh n1 1 (κ (n1*1) cs1)),[]))) none))
 (none):=by kernel_rfl
theorem W8(t0:Rw)(t1:Int)(n5:Nat)(c5:List AV)(t6:Bool)(t7:Int):CO A D As QB .n 121 0 (AN TY 0).fst (AN TY 0).snd [Δ t0,iv t1,ζ 0 0 n5 1,bv t6,iv t7] [{ cells:=c5,st:=true,ex:=true }] =
 br (A.lt t7 ↑(AF t0))
 (br (A.not t6)
 (unI t7 λi=>
 Bl t0 i λcs=>
 dk [.I,.N] [.l cs] λn=>
 br (A.le t1 n)
 (br (Be (n5+1) 8) (br ((0+n5*1).ble c5.length) (unI t7 λi1=>
 Bl t0 i1 λcs1=>
 dk [.I,.N] [.l cs1] λn1=>
 br (A.eq n1 t1)
 (AI D (γ 121 0) [Δ t0,iv t1,ζ 0 0 (n5+1) 1,bv true,iv (A.add Φ t7 1)] [Ξ (ι 0 (κ (0+n5*1) c5)++[iv t1]) true true] λr o=>
 AE 1 [2] (AH.mk [(2,Ξ (ι 0 (κ (0+n5*1) c5)++[iv t1]) true true),(1,Ξ [iv t1] true true)] 3 none) [0] r o)
 (unI t7 λi2=>
 Bl t0 i2 λcs2=>
 dk [.I,.N] [.l cs2] λn2=>
 br (Be (n5+1+1) 8) (br ((0+(n5+1)*1).ble (ι 0 (κ (0+n5*1) c5)++[iv t1]).length) (AI D (γ 121 0) [Δ t0,iv t1,ζ 0 0 (n5+1+1) 1,bv true,iv (A.add Φ t7 1)] [Ξ (ι 0 (κ (0+(n5+1)*1) (ι 0 (κ (0+n5*1) c5)++[iv t1]))++[iv n2]) true true] λr o=>
 AE 1 [4] (AH.mk [(4,Ξ (ι 0 (κ (0+(n5+1)*1) (ι 0 (κ (0+n5*1) c5)++[iv t1]))++[iv n2]) true true),(3,Ξ [iv n2] true true),(1,Ξ [iv t1] true true)] 5 none) [0] r o) none) none)) none) none)
 (unI t7 λi1=>
 Bl t0 i1 λcs1=>
 dk [.I,.N] [.l cs1] λn1=>
 br (A.eq n1 t1)
 (AI D (γ 121 0) [Δ t0,iv t1,ζ 0 0 n5 1,bv t6,iv (A.add Φ t7 1)] [Ξ c5 true true] λr o=>
 AE 1 [0] (AH.mk [(0,Ξ c5 true true)] 1 none) [] r o)
 (unI t7 λi2=>
 Bl t0 i2 λcs2=>
 dk [.I,.N] [.l cs2] λn2=>
 br (Be (n5+1) 8) (br ((0+n5*1).ble c5.length) (AI D (γ 121 0) [Δ t0,iv t1,ζ 0 0 (n5+1) 1,bv t6,iv (A.add Φ t7 1)] [Ξ (ι 0 (κ (0+n5*1) c5)++[iv n2]) true true] λr o=>
 AE 1 [2] (AH.mk [(2,Ξ (ι 0 (κ (0+n5*1) c5)++[iv n2]) true true),(1,Ξ [iv n2] true true)] 3 none) [0] r o) none) none)))
 (unI t7 λi=>
 Bl t0 i λcs=>
 dk [.I,.N] [.l cs] λn=>
 br (A.eq n t1)
 (AI D (γ 121 0) [Δ t0,iv t1,ζ 0 0 n5 1,bv t6,iv (A.add Φ t7 1)] [Ξ c5 true true] λr o=>
 AE 1 [0] (AH.mk [(0,Ξ c5 true true)] 1 none) [] r o)
 (unI t7 λi1=>
 Bl t0 i1 λcs1=>
 dk [.I,.N] [.l cs1] λn1=>
 br (Be (n5+1) 8) (br ((0+n5*1).ble c5.length) (AI D (γ 121 0) [Δ t0,iv t1,ζ 0 0 (n5+1) 1,bv t6,iv (A.add Φ t7 1)] [Ξ (ι 0 (κ (0+n5*1) c5)++[iv n1]) true true] λr o=>
 AE 1 [2] (AH.mk [(2,Ξ (ι 0 (κ (0+n5*1) c5)++[iv n1]) true true),(1,Ξ [iv n1] true true)] 3 none) [0] r o) none) none)))
 (some ((ν [iv 0,iv t1,ζ 1 0 n5 1,bv t6],[BO.del,ο (Ξ c5 true true)]))):=by kernel_rfl
theorem e76(x0_0:Rw)(x0_1:Bool)(x0_2:Rw):BP A D As Yc .n 76 Ack [Ω [Δ x0_0,bv x0_1,Δ x0_2]] [] =
 Af D (γ 76 0) [ε 0 0,Δ [],iv 0] [bk [Δ x0_0,bv x0_1,Δ x0_2]] [.t,.C,.x,.X,.Y] λc l o=>
 br (Bo 1 c)
 (dk [.L,.N,.D,.E] [.l l,.o o] λxs=>
 some ((Δ xs,[])))
 (none):=by kernel_rfl
theorem Afz(b1_0:Rw)(b1_1:Bool)(b1_2 t3:Rw)(t4:Int):CO A D As Yc .n 76 0 (AN Ack 0).fst (AN Ack 0).snd [ε 0 0,Δ t3,iv t4] [bk [Δ b1_0,bv b1_1,Δ b1_2]] =
 br (A.lt t4 ↑(AF b1_0))
 (unI t4 λi=>
 Bl b1_0 i λcs=>
 dk [.I,.B,.L,.N] [.l cs] λn _ _=>
 Af D (θ 77) [Ω [Δ b1_0,bv b1_1,Δ b1_2],iv n] [] [.a,.B,.L,.N,.E] λb1 xs1=>
 Af D (θ 69) [Ω [bv b1,Δ xs1]] [] [.i,.E] λn1=>
 br (A.eq n1 0)
 (AI D (γ 76 0) [ε 0 0,Δ t3,iv (A.add Φ t4 1)] [bk [Δ b1_0,bv b1_1,Δ b1_2]] λr2 o2=>
 AE 1 [0] (AH.mk [(0,bk [Δ b1_0,bv b1_1,Δ b1_2])] 1 none) [0] r2 o2)
 (Af D (θ 121) [Δ t3,iv n] [] [.l,.E] λxs2=>
 AI D (γ 76 0) [ε 0 0,Δ xs2,iv (A.add Φ t4 1)] [bk [Δ b1_0,bv b1_1,Δ b1_2]] λr3 o3=>
 AE 1 [0] (AH.mk [(0,bk [Δ b1_0,bv b1_1,Δ b1_2])] 1 none) [0] r3 o3))
 (some ((ν [iv 0,Δ t3],[BO.del]))):=by kernel_rfl
theorem e20(x0_0:Rw)(x0_1:Bool)(x0_2:Rw):BP A D As X2 .n 20 Acb [Ω [Δ x0_0,bv x0_1,Δ x0_2]] [] =
 Af D (θ 75) [Ω [bv x0_1,Δ x0_2]] [] [.a,.B,.L,.N,.E] λb xs=>
 Af D (θ 76) [Ω [Δ x0_0,bv x0_1,Δ x0_2]] [] [.l,.E] λxs1=>
 Af D (γ 20 0) [ε 0 0,ε 1 0,ε 2 0,Δ xs1,iv 0] [bk [Δ x0_0,bv x0_1,Δ x0_2],bk [Δ [],bv false,Δ []],bk [ζ 3 0 0 3,bv b,Δ xs],Ξ [] true true] [.t,.C,.x,.X,.Y] λc l2 o2=>
 br (Bo 1 c)
 (dk [.P 1 0,.P 2 0,.N,.D,.T,.L,.B,.L,.N,.T,.C,.q 4 3,.B,.L,.N,.D,.R,.X,.E] [.l l2,.o o2] λ_ _ _ n b2 xs4 cs4=>
 br ((0+n*3).ble cs4.length) (some ((Ω [Δ (Bh n 3 (κ (n*3) cs4)),bv b2,Δ xs4],[]))) none)
 (none):=by kernel_rfl
theorem Afs(a0:Rw)(a1:Bool)(a2 r0:Rw)(r1:Bool)(r2:Rw)(n3:Nat)(k1:Bool)(k2:Rw)(c3:List AV)(t4:Rw)(t5:Int):CO A D As X2 .n 20 0 (AN Acb 0).fst (AN Acb 0).snd [ε 0 0,ε 1 0,ε 2 0,Δ t4,iv t5] [bk [Δ a0,bv a1,Δ a2],bk [Δ r0,bv r1,Δ r2],bk [ζ 3 0 n3 3,bv k1,Δ k2],{ cells:=c3,st:=true,ex:=true }] =
 br (A.lt t5 ↑(AF t4))
 (unI t5 λi=>
 Bl t4 i λcs=>
 dk [.I,.N] [.l cs] λn=>
 unI t5 λi1=>
 Bl t4 i1 λcs1=>
 dk [.I,.N] [.l cs1] λn1=>
 Af D (θ 77) [Ω [Δ a0,bv a1,Δ a2],iv n1] [] [.a,.B,.L,.N,.E] λb xs=>
 br (Be (n3+1) 40) (br ((0+n3*3).ble c3.length) (AI D (γ 20 0) [ε 0 0,ε 1 0,ε 2 0,Δ t4,iv (A.add Φ t5 1)] [bk [Δ a0,bv a1,Δ a2],bk [Δ r0,bv r1,Δ r2],bk [ζ 3 0 (n3+1) 3,bv k1,Δ k2],Ξ (ι 0 (κ (0+n3*3) c3)++[iv n,bv b,Δ xs]) true true] λr3 o1=>
 AE 4 [0,1,2,5] (AH.mk [(1,bk [Δ r0,bv r1,Δ r2]),(0,bk [Δ a0,bv a1,Δ a2]),(2,bk [ζ 5 0 (n3+1) 3,bv k1,Δ k2]),(5,Ξ (ι 0 (κ (0+n3*3) c3)++[iv n,bv b,Δ xs]) true true),(4,Ξ [iv n,bv b,Δ xs] true true)] 6 none) [3,2,0,1] r3 o1) none) none)
 (some ((ν [iv 0,ε 1 0,ε 2 0],[BO.del,ο (bk [Δ r0,bv r1,Δ r2]),ο (bk [ζ 4 0 n3 3,bv k1,Δ k2]),BO.del,ο (Ξ c3 true true)]))):=by kernel_rfl
theorem Anb(x0 x1:Rw):BP A D As Kb .n 211 N8 [Δ x0,Δ x1] [] =
 Af D (γ 211 0) [Δ x0,Δ x1,ζ 0 0 0 3,iv 0] [Ξ [] true true] [.t,.C,.x,.X,.Y] λc l o=>
 br (Bo 1 c)
 (dk [.L,.C,.q 1 3,.N,.D,.R,.X,.E] [.l l,.o o] λxs n cs1=>
 Af D (γ 211 1) [Δ xs,ζ 0 0 n 3,iv 0] [Ξ cs1 true true] [.t,.C,.x,.X,.Y] λc4 l5 o1=>
 br (Bo 3 c4)
 (dk [.C,.q 1 3,.N,.D,.R,.X,.E] [.l l5,.o o1] λn1 cs3=>
 br ((0+n1*3).ble cs3.length) (some ((Δ (Bh n1 3 (κ (n1*3) cs3)),[]))) none)
 (none))
 (none):=by kernel_rfl
theorem Xp(t0 t1:Rw)(n5:Nat)(c5:List AV)(t6:Int):CO A D As Kb .n 211 0 (AN N8 0).fst (AN N8 0).snd [Δ t0,Δ t1,ζ 0 0 n5 3,iv t6] [{ cells:=c5,st:=true,ex:=true }] =
 br (A.lt t6 ↑(AF t0))
 (unI t6 λi=>
 Bl t0 i λcs=>
 dk [.I,.B,.L,.N] [.l cs] λn b xs=>
 br (Be (n5+1) 40) (br ((0+n5*3).ble c5.length) (AI D (γ 211 0) [Δ t0,Δ t1,ζ 0 0 (n5+1) 3,iv (A.add Φ t6 1)] [Ξ (ι 0 (κ (0+n5*3) c5)++[iv n,bv b,Δ xs]) true true] λr o=>
 AE 1 [2] (AH.mk [(2,Ξ (ι 0 (κ (0+n5*3) c5)++[iv n,bv b,Δ xs]) true true),(1,Ξ [iv n,bv b,Δ xs] true true)] 3 none) [0] r o) none) none)
 (some ((ν [iv 0,Δ t1,ζ 1 0 n5 3],[BO.del,ο (Ξ c5 true true)]))):=by kernel_rfl
theorem Xq(t1:Rw)(n5:Nat)(c5:List AV)(t7:Int):CO A D As Kb .n 211 1 (AN N8 1).fst (AN N8 1).snd [Δ t1,ζ 0 0 n5 3,iv t7] [{ cells:=c5,st:=true,ex:=true }] =
 br (A.lt t7 ↑(AF t1))
 (unI t7 λi=>
 Bl t1 i λcs=>
 dk [.I,.B,.L,.N] [.l cs] λn b xs=>
 br (Be (n5+1) 40) (br ((0+n5*3).ble c5.length) (AI D (γ 211 1) [Δ t1,ζ 0 0 (n5+1) 3,iv (A.add Φ t7 1)] [Ξ (ι 0 (κ (0+n5*3) c5)++[iv n,bv b,Δ xs]) true true] λr o=>
 AE 1 [2] (AH.mk [(2,Ξ (ι 0 (κ (0+n5*3) c5)++[iv n,bv b,Δ xs]) true true),(1,Ξ [iv n,bv b,Δ xs] true true)] 3 none) [0] r o) none) none)
 (some ((ν [iv 2,ζ 1 0 n5 3],[BO.del,ο (Ξ c5 true true)]))):=by kernel_rfl
theorem AmL(x0_0:Rw)(x0_1:Bool)(x0_2 x1_0:Rw)(x1_1:Bool)(x1_2:Rw):BP A D As AfY .n 153 AgI [Ω [Δ x0_0,bv x0_1,Δ x0_2],Ω [Δ x1_0,bv x1_1,Δ x1_2]] [] =
 Af D (θ 211) [Δ x0_0,Δ x1_0] [] [.l,.E] λxs=>
 Af D (θ 122) [Ω [bv x0_1,Δ x0_2],Ω [bv x1_1,Δ x1_2]] [] [.a,.B,.L,.N,.E] λb xs1=>
 Af D (θ 20) [Ω [Δ xs,bv b,Δ xs1]] [] [.a,.L,.B,.L,.N,.E] λxs2 b1 xs3=>
 some ((Ω [Δ xs2,bv b1,Δ xs3],[])):=by kernel_rfl
theorem e73(x0_0:Rw)(x0_1:Bool)(x0_2:Rw)(x1_0:Bool)(x1_1:Rw):BP A D As Yb .n 73 Aci [Ω [Δ x0_0,bv x0_1,Δ x0_2],Ω [bv x1_0,Δ x1_1]] [] =
 Af D (θ 123) [Ω [bv x0_1,Δ x0_2],Ω [bv x1_0,Δ x1_1]] [] [.a,.B,.L,.N,.E] λb xs=>
 Af D (γ 73 0) [ε 0 0,ε 1 0,ε 2 0,ε 3 0,iv 0] [bk [Δ x0_0,bv x0_1,Δ x0_2],bk [bv x1_0,Δ x1_1],bk [Δ [],bv false,Δ []],bk [ζ 4 0 0 3,bv b,Δ xs],Ξ [] true true] [.t,.C,.x,.X,.Y] λc l2 o1=>
 br (Bo 1 c)
 (dk [.P 2 0,.P 3 0,.N,.D,.D,.T,.L,.B,.L,.N,.T,.C,.q 5 3,.B,.L,.N,.D,.R,.X,.E] [.l l2,.o o1] λ_ _ _ n b2 xs3 cs4=>
 br ((0+n*3).ble cs4.length) (AI D (θ 20) [Ω [Δ (Bh n 3 (κ (n*3) cs4)),bv b2,Δ xs3]] [] λr2 o2=>
 dk [.a,.L,.B,.L,.N,.E] [.v r2,.o o2] λxs4 b3 xs5=>
 some ((Ω [Δ xs4,bv b3,Δ xs5],[]))) none)
 (none):=by kernel_rfl
theorem Afy(a0:Rw)(a1:Bool)(a2:Rw)(i0:Bool)(i1 r0:Rw)(r1:Bool)(r2:Rw)(n5:Nat)(k1:Bool)(k2:Rw)(c5:List AV)(t6:Int):CO A D As Yb .n 73 0 (AN Aci 0).fst (AN Aci 0).snd [ε 0 0,ε 1 0,ε 2 0,ε 3 0,iv t6] [bk [Δ a0,bv a1,Δ a2],bk [bv i0,Δ i1],bk [Δ r0,bv r1,Δ r2],bk [ζ 4 0 n5 3,bv k1,Δ k2],{ cells:=c5,st:=true,ex:=true }] =
 br (A.lt t6 ↑(AF a0))
 (unI t6 λi=>
 Bl a0 i λcs=>
 dk [.I,.B,.L,.N] [.l cs] λn _ _=>
 unI t6 λi2=>
 Bl a0 i2 λcs1=>
 dk [.I,.B,.L,.N] [.l cs1] λ_ b1 xs1=>
 Af D (θ 123) [Ω [bv b1,Δ xs1],Ω [bv i0,Δ i1]] [] [.a,.B,.L,.N,.E] λb2 xs2=>
 br (Be (n5+1) 40) (br ((0+n5*3).ble c5.length) (AI D (γ 73 0) [ε 0 0,ε 1 0,ε 2 0,ε 3 0,iv (A.add Φ t6 1)] [bk [Δ a0,bv a1,Δ a2],bk [bv i0,Δ i1],bk [Δ r0,bv r1,Δ r2],bk [ζ 4 0 (n5+1) 3,bv k1,Δ k2],Ξ (ι 0 (κ (0+n5*3) c5)++[iv n,bv b2,Δ xs2]) true true] λr3 o1=>
 AE 5 [0,1,2,3,6] (AH.mk [(2,bk [Δ r0,bv r1,Δ r2]),(1,bk [bv i0,Δ i1]),(0,bk [Δ a0,bv a1,Δ a2]),(3,bk [ζ 6 0 (n5+1) 3,bv k1,Δ k2]),(6,Ξ (ι 0 (κ (0+n5*3) c5)++[iv n,bv b2,Δ xs2]) true true),(5,Ξ [iv n,bv b2,Δ xs2] true true)] 7 none) [4,3,0,1,2] r3 o1) none) none)
 (some ((ν [iv 0,ε 2 0,ε 3 0],[BO.del,BO.del,ο (bk [Δ r0,bv r1,Δ r2]),ο (bk [ζ 5 0 n5 3,bv k1,Δ k2]),BO.del,ο (Ξ c5 true true)]))):=by kernel_rfl
theorem e81(x0_0:Rw)(x0_1:Bool)(x0_2 x1_0:Rw)(x1_1:Bool)(x1_2:Rw):BP A D As Akf .n 81 AlA [Ω [Δ x0_0,bv x0_1,Δ x0_2],Ω [Δ x1_0,bv x1_1,Δ x1_2]] [] =
 Af D (θ 56) [iv (-1)] [] [.a,.B,.L,.N,.E] λb xs=>
 Af D (θ 73) [Ω [Δ x1_0,bv x1_1,Δ x1_2],Ω [bv b,Δ xs]] [] [.a,.L,.B,.L,.N,.E] λxs1 b1 xs2=>
 Af D (θ 153) [Ω [Δ x0_0,bv x0_1,Δ x0_2],Ω [Δ xs1,bv b1,Δ xs2]] [] [.a,.L,.B,.L,.N,.E] λxs3 b2 xs4=>
 some ((Ω [Δ xs3,bv b2,Δ xs4],[])):=by kernel_rfl
theorem e80(x0_0:Bool)(x0_1:Rw):BP A D As Ake .n 80 Alz [Ω [bv x0_0,Δ x0_1]] [] =
 Af D (θ 75) [Ω [bv x0_0,Δ x0_1]] [] [.a,.B,.L,.N,.E] λb xs=>
 some ((Ω [Δ [],bv b,Δ xs],[])):=by kernel_rfl
theorem e78(x0_0:Rw)(x0_1:Bool)(x0_2 x1_0:Rw)(x1_1:Bool)(x1_2:Rw):BP A D As Pc .n 78 Acm [Ω [Δ x0_0,bv x0_1,Δ x0_2],Ω [Δ x1_0,bv x1_1,Δ x1_2]] [] =
 br (A.eq ↑(AF x0_0) ↑(AF x1_0))
 (Af D (θ 152) [Ω [bv x0_1,Δ x0_2],Ω [bv x1_1,Δ x1_2]] [] [.b,.E] λb=>
 br b
 (Af D (γ 78 0) [ε 0 0,ε 1 0,iv 0] [bk [Δ x0_0,bv x0_1,Δ x0_2],bk [Δ x1_0,bv x1_1,Δ x1_2]] [.t,.C,.x,.X,.Y] λc l o1=>
 br (Bo 0 c)
 (dk [.B,.N,.D,.D,.E] [.l l,.o o1] λb1=>
 some ((bv b1,[])))
 (br (Bo 1 c)
 (dk [.N,.D,.D,.E,.w] [.l l,.o o1] λ_=>
 some ((bv true,[])))
 (none)))
 (some ((bv false,[]))))
 (some ((bv false,[]))):=by kernel_rfl
theorem TO(b2_0:Rw)(b2_1:Bool)(b2_2 b3_0:Rw)(b3_1:Bool)(b3_2:Rw)(t5:Int):CO A D As Pc .n 78 0 (AN Acm 0).fst (AN Acm 0).snd [ε 0 0,ε 1 0,iv t5] [bk [Δ b2_0,bv b2_1,Δ b2_2],bk [Δ b3_0,bv b3_1,Δ b3_2]] =
 br (A.lt t5 ↑(AF b2_0))
 (unI t5 λi=>
 Bl b2_0 i λcs=>
 dk [.I,.B,.L,.N] [.l cs] λn _ _=>
 unI t5 λi1=>
 Bl b3_0 i1 λcs1=>
 dk [.I,.B,.L,.N] [.l cs1] λn1 _ _=>
 br (A.eq n n1)
 (unI t5 λi2=>
 Bl b2_0 i2 λcs2=>
 dk [.I,.B,.L,.N] [.l cs2] λ_ b2 xs2=>
 unI t5 λi3=>
 Bl b3_0 i3 λcs3=>
 dk [.I,.B,.L,.N] [.l cs3] λ_ b3 xs3=>
 Af D (θ 152) [Ω [bv b2,Δ xs2],Ω [bv b3,Δ xs3]] [] [.b,.E] λb4=>
 br b4
 (AI D (γ 78 0) [ε 0 0,ε 1 0,iv (A.add Φ t5 1)] [bk [Δ b2_0,bv b2_1,Δ b2_2],bk [Δ b3_0,bv b3_1,Δ b3_2]] λr1 o1=>
 AE 2 [0,1] (AH.mk [(1,bk [Δ b3_0,bv b3_1,Δ b3_2]),(0,bk [Δ b2_0,bv b2_1,Δ b2_2])] 2 none) [0,1] r1 o1)
 (some ((ν [bv true,bv false],[BO.del,BO.del]))))
 (some ((ν [bv true,bv false],[BO.del,BO.del]))))
 (some ((ν [iv 0],[BO.del,BO.del]))):=by kernel_rfl
end
def eI(v:Int):List AV:=[iv v]
theorem H7(v:Int):(eI v).length=1:=rfl
def bkI(l:List Int):ABlk:=Ξ (Ai eI l) true true
theorem apI(o:List Int)(h:o.length<=4000000)(X:KR):br (Be (o.length+1) 8) (br (Apa (0+o.length*1) (Ai eI o).length) X none) none=X:=by
 rw[AL (by omega) (by omega),AJ H7 o (by omega)];rfl
theorem Ai2(o:List Int)(v:Int):ι 0 (κ (0+o.length*1) (Ai eI o))++[iv v]=Ai eI (o++[v]):=by
 rw[χ,Bf H7 o (by omega)];exact Bc eI o v
theorem snI(o:List Int)(v:Int):o.length+1=(o++[v]).length:=by simp
section
variable {D:Orc} (Kt:Knows As GU D)
include Kt
theorem Ah9(v:Int)(l:List Int)(hl:l.length<=1000000):∀(m i:Nat) (d:Bool) (o:List Int),l.length-i=m->i<=l.length->o.length<=2*i->
  D.ask (.lp 121 0) [.ls (l.map eI),iv v,.sl 0 0 o.length 1,bv d,iv (i:Int)] [bkI o]=some (.tup [iv 0,iv v,.sl 1 0 (o++(Gy v d (l.drop i)).1).length 1,bv (Gy v d (l.drop i)).2],[.del,.set (bkI (o++(Gy v d (l.drop i)).1))]):=by
 intro m
 induction m with
 |zero=>
  intro i d o hm hi ho;rw[υ (by omega),Gy,ApQ];refine Kt.lp' QB _ rfl (by kernel_rfl) ((W8 ..).trans ?_);rw[Aj];exact Ak (by omega) rfl
 |succ m ih=>
  intro i d o hm hi ho;have h1:i<l.length:=by omega
  have hn1:∀ kk,Bl (l.map eI) i kk=kk (eI l[i]):=λkk=>Aw (Ψ h1) kk
  have ih1:=λ(d:Bool) (o:List Int) (h:o.length<=2*(i+1))=>ih (i+1) d o (by omega) (by omega) h
  rw[ω h1,Gy];revert hn1;generalize l[i]=x;intro hn1;refine Kt.lp' QB _ rfl (by kernel_rfl) ((W8 ..).trans ?_);rw[Aj];refine Aq (by omega) ?_;unfold bkI at ih1 ⊢;simp only[Av,hn1,eI,ND,DK,Ab,BC (show i<4611686018427387904 by omega),Ai2]
  cases d with
  |true=>
   refine B8 ?_
   by_cases hx:x=v
   .refine Bi hx ?_
    have g:=ih1 true o (by omega);refine Aa g ?_;rw[if_pos hx];rfl
   .refine AK hx ?_
    have g:=ih1 true (o++[x]) (by simp;omega);rw[apI o (by omega),snI o x];refine Aa g ?_;rw[if_neg hx,Ao9];rfl
  |false=>
   refine Ae ?_
   by_cases hv:v<=x
   .refine BW hv ?_
    rw[apI o (by omega),decide_eq_true hv,snI o v]
    by_cases hx:x=v
    .refine Bi hx ?_
     have g:=ih1 true (o++[v]) (by simp;omega);refine Aa g ?_;rw[if_pos hx,Ao9];rfl
    .refine AK hx ?_
     have g:=ih1 true (o++[v]++[x]) (by simp;omega);rw[apI (o++[v]) (by simp;omega),Ai2,snI (o++[v]) x];refine Aa g ?_;rw[if_neg hx,Ao9,Ao9];rfl
   .refine Ca hv ?_
    rw[decide_eq_false hv]
    by_cases hx:x=v
    .omega
    .refine AK hx ?_
     have g:=ih1 false (o++[x]) (by simp;omega);rw[apI o (by omega),snI o x];refine Aa g ?_;rw[if_neg hx,Ao9];rfl
theorem Vs(v:Int)(l:List Int)(hl:l.length<=1000000):D.ask (.fn 121) [.ls (l.map eI),iv v] []=some (.ls ((If v l).map eI),[]):=by
 have g:=Ah9 Kt v l hl _ 0 false [] rfl (by omega) (by simp);have hlen:=QS v false l;rw[χ,Apv]at g;unfold If;generalize Gy v false l=p at g hlen;obtain⟨o,d⟩:=p;simp only at g hlen ⊢;unfold bkI at g;refine Kt.fn' QB _ rfl ((Amo ..).trans ?_);refine Aa g ?_;simp only[ND,DK,Ab]
 cases d with
 |true=>
  refine B8 ?_;rw[AJ H7 o (by omega)];refine Ae ?_;rw[Bp H7 o rfl,if_pos rfl,ApQ]
 |false=>
  refine Ae ?_;rw[if_neg (by decide)];rw[Ai2,snI o v,AJ H7 (o++[v]) (by omega)];rw[show Be (o++[v]).length 8=true from AL (by simp;omega) (by omega),AJ H7 o (by omega),χ,Bp H7 (o++[v]) rfl];rfl
end
section
variable {D:Orc} (Kt:Knows As GU D) (Kh:Knows As Hv D) (F:RF D)
include Kt Kh F
theorem Ae2{n k:Nat}{ps:List Pt}{kz:Zi}(ht:TmB n k ⟨ps,kz⟩)(hn:n<=1000000)(hk:k+n<=400000000):∀(m i:Nat) (out:List Int),ps.length-i=m->i<=ps.length->WA out->out.length<=i->
  D.ask (.lp 76 0) [.ptr 0 0,.ls (out.map eI),iv (i:Int)] [⟨[.ls (ps.map eP),bv kz.neg,eN kz.abs],true,false⟩]=some (.tup [iv 0,.ls ((FE (Cz (ps.map pv)) out ((ps.drop i).map Pt.v)).map eI)],[.del]):=by
 have hlen:ps.length<=n:=ht.len;intro m
 induction m with
 |zero=>
  intro i out hm hi ha ho;rw[υ (by omega),Aqq,FE];refine Kt.lp' Yc _ rfl (by kernel_rfl) ((Afz ..).trans ?_);rw[Aj];exact Ak (by omega) rfl
 |succ m ih=>
  intro i out hm hi ha ho;have h1:i<ps.length:=by omega
  have hn1:∀ kk,Bl (ps.map eP) i kk=kk (eP ps[i]):=λkk=>Aw (Ψ h1) kk
  rw[ω h1,Aps,FE];revert hn1;generalize ps[i]=p;intro hn1;have gc:=Lj Kh F ht hn hk p.v;have hc:InB (k+n) (Cz (ps.map pv) p.v):=by
   unfold Cz;split
   .exact(G6 _ _ ht.lb.ps).mono (by have:=ht.lb.len;omega)
   .exact InB.zero _
  have e1:(if 0<=p.v then A6 p.v (Tm.mk ps kz).lf.ps else 0)=Cz (ps.map pv) p.v:=rfl;rw[e1]at gc;generalize Cz (ps.map pv) p.v=c at gc hc;have gs:=F.sign (Az c) (hc.lz.mono (by omega));rw[AU]at gs;refine Kt.lp' Yc _ rfl (by kernel_rfl) ((Afz ..).trans ?_);rw[Aj];refine Aq (by omega) ?_;rw[Av,hn1];simp only[eP,eN,ND,DK,Ab];refine Aa gc ?_;simp only[eZ,eN,ND,DK,Ab]at gs ⊢;refine Aa gs ?_;simp only[ND,DK,Ab];rw[BC (by omega)]
  by_cases h0:c=0
  .have g:=ih (i+1) out (by omega) (by omega) ha (by omega)
   refine Bi ((Zt c).2 h0) ?_;refine Aa g ?_;rw[if_pos h0];rfl
  .have g:=ih (i+1) (If p.v out) (by omega) (by omega) (Gz _ ha) (by have:=MF p.v ha;omega)
   have gi:=Vs Kt p.v out (by omega);refine AK (λh=>h0 ((Zt c).1 h)) ?_;refine Aa gi ?_;simp only[ND,DK,Ab];refine Aa g ?_;rw[if_neg h0];rfl
theorem M3{n k:Nat}{t:Tm}(ht:TmB n k t)(hn:n<=1000000)(hk:k+n<=400000000):D.ask (.fn 76) [.agg (eT t)] []=some (.ls ((E8 t.lf.ps).map eI),[]):=by
 obtain⟨ps,kz⟩:=t;have g:=Ae2 Kt Kh F ht hn hk _ 0 [] rfl (by omega) Lb (by simp);rw[χ]at g;have e1:(ps.map Pt.v)=(Tm.mk ps kz).lf.ps.map (·.1):=by
  unfold Tm.lf;rw[Aq5];rfl
 rw[e1]at g;refine Kt.fn' Yc _ rfl ((e76 ..).trans ?_);refine Aa g ?_;rfl
omit Kt Kh F in
theorem JV(ps:List (Int × Int)):(E8 ps).length<=ps.length:=by
 have:=JT (Cz ps) (ps.map (·.1)) Lb;simpa[E8]using this
def ptV(l:List (Int × Int))(v:Int):Pt:=⟨v,Az (Cz l v)⟩
theorem VR{n k:Nat}{ps:List Pt}{kz:Zi}(ht:TmB n k ⟨ps,kz⟩)(hn:n<=1000000)(hk:k+n<=400000000)(vs:List Int)(hvs:vs.length<=n)(r0:List (List AV))(r1:Bool)(r2:List (List AV))(k1:Bool)(k2:List (List AV)):∀(m i:Nat) (out:List Pt),vs.length-i=m->i<=vs.length->out.length<=i->
  D.ask (.lp 20 0) [.ptr 0 0,.ptr 1 0,.ptr 2 0,.ls (vs.map eI),iv (i:Int)] [⟨[.ls (ps.map eP),bv kz.neg,eN kz.abs],true,false⟩,⟨[.ls r0,bv r1,.ls r2],true,false⟩,⟨[.sl 3 0 out.length 3,bv k1,.ls k2],true,false⟩,D8 out]
   = some (.tup [iv 0,.ptr 1 0,.ptr 2 0],[.del,.set ⟨[.ls r0,bv r1,.ls r2],true,false⟩,.set ⟨[.sl 4 0 (out++(vs.drop i).map (ptV (ps.map pv))).length 3,bv k1,.ls k2],true,false⟩,.del,.set (D8 (out++(vs.drop i).map (ptV (ps.map pv))))]):=by
 intro m
 induction m with
 |zero=>
  intro i out hm hi ho;rw[υ (by omega),Aqq,ApQ];refine Kt.lp' X2 _ rfl (by kernel_rfl) ((Afs ..).trans ?_);rw[Aj];exact Ak (by omega) rfl
 |succ m ih=>
  intro i out hm hi ho;have h1:i<vs.length:=by omega
  have hn1:∀ kk,Bl (vs.map eI) i kk=kk (eI vs[i]):=λkk=>Aw (Ψ h1) kk
  rw[ω h1,Aps];revert hn1;generalize vs[i]=v;intro hn1;have gc:=Lj Kh F ht hn hk v;have e1:(if 0<=v then A6 v (Tm.mk ps kz).lf.ps else 0)=Cz (ps.map pv) v:=rfl;rw[e1]at gc;have ih:=ih (i+1) (out++[ptV (ps.map pv) v]) (by omega) (by omega) (by simp;omega);rw[Ao9,Ap4,show (out++[ptV (ps.map pv) v]).length=out.length+1 by simp]at ih;have hf:Be (out.length+1) 40=true:=AL (by omega) (by omega);have hb1:Apa (0+out.length*3) (Ai eP out).length=true:=AJ Au out (by omega);have e3:ι 0 (κ (0+out.length*3) (Ai eP out))++[iv v,bv (Az (Cz (ps.map pv) v)).neg,eN (Az (Cz (ps.map pv) v)).abs]=Ai eP (out++[ptV (ps.map pv) v]):=by
   rw[χ,Bf Au out (by omega)];exact Bc eP out (ptV (ps.map pv) v)
  refine Kt.lp' X2 _ rfl (by kernel_rfl) ((Afs ..).trans ?_);rw[Aj];refine Aq (by omega) ?_;simp only[Av,hn1,eI,ND,DK,Ab];refine Aa gc ?_;simp only[eZ,eN,ND,DK,Ab]at e3 ⊢;rw[hf];refine Ae ?_;rw[hb1];refine Ae ?_;rw[e3,BC (by omega)];refine Aa ih ?_;rfl
theorem Ds{n k:Nat}{t:Tm}(ht:TmB n k t)(hn:n<=1000000)(hk:k+n<=400000000):D.ask (.fn 20) [.agg (eT t)] []=some (.agg (eT t.lf.pln.tm),[]):=by
 have gv:=M3 Kt Kh F ht hn hk;have hl:=JV t.lf.ps;have hl2:=ht.lb.len;have gk:=F.clean t.k (ht.k.mono (by omega));obtain⟨ps,kz⟩:=t;have gl:=VR Kt Kh F ht hn hk (E8 (Tm.mk ps kz).lf.ps) (by omega) [] false [] (Az (zv kz)).neg ((Az (zv kz)).abs.map eL) _ 0 [] rfl (by omega) (by simp);rw[χ,Apv]at gl;have e2:(E8 (Tm.mk ps kz).lf.ps).map (ptV (ps.map pv))=(Tm.mk ps kz).lf.pln.tm.ps:=by
  show _=(A8 (ps.map pv)).map AO
  rw[←Di,Aq5];rfl
 rw[e2]at gl;have e3:(Tm.mk ps kz).lf.pln.tm.k=Az (zv kz):=rfl;revert gl;generalize hX:(Tm.mk ps kz).lf.pln.tm=X at e3 ⊢;obtain⟨xp,xk⟩:=X;intro gl;simp only at e3;subst e3;refine Kt.fn' X2 _ rfl ((e20 ..).trans ?_);refine Aa gk ?_;simp only[eZ,eN,ND,DK,Ab];refine Aa gv ?_;simp only[ND,DK,Ab];refine Aa gl ?_;simp only[ND,DK,Ab];rw[AJ Au xp (by omega)];refine Ae ?_;rw[Bp Au _ rfl];rfl
omit Kh F in
theorem WX(a b:List Pt)(hl:a.length<=1000000):∀(m i:Nat) (out:List Pt),a.length-i=m->i<=a.length->out.length<=i->
  D.ask (.lp 211 0) [.ls (a.map eP),.ls (b.map eP),.sl 0 0 out.length 3,iv (i:Int)] [D8 out]=some (.tup [iv 0,.ls (b.map eP),.sl 1 0 (out++a.drop i).length 3],[.del,.set (D8 (out++a.drop i))]):=by
 intro m
 induction m with
 |zero=>
  intro i out hm hi ho;rw[υ (by omega),ApQ];refine Kt.lp' Kb _ rfl (by kernel_rfl) ((Xp ..).trans ?_);rw[Aj];exact Ak (by omega) rfl
 |succ m ih=>
  intro i out hm hi ho;have h1:i<a.length:=by omega
  have hn1:∀ kk,Bl (a.map eP) i kk=kk (eP a[i]):=λkk=>Aw (Ψ h1) kk
  rw[ω h1];revert hn1;generalize a[i]=v;intro hn1;have ih:=ih (i+1) (out++[v]) (by omega) (by omega) (by simp;omega);rw[Ao9,Ap4,show (out++[v]).length=out.length+1 by simp]at ih;have hf:Be (out.length+1) 40=true:=AL (by omega) (by omega);have hb1:Apa (0+out.length*3) (Ai eP out).length=true:=AJ Au out (by omega);have e3:ι 0 (κ (0+out.length*3) (Ai eP out))++[iv v.v,bv v.z.neg,eN v.z.abs]=Ai eP (out++[v]):=by
   rw[χ,Bf Au out (by omega)];exact Bc eP out v
  refine Kt.lp' Kb _ rfl (by kernel_rfl) ((Xp ..).trans ?_);rw[Aj];refine Aq (by omega) ?_;simp only[Av,hn1,eP,eN,ND,DK,Ab]at e3 ⊢;rw[hf];refine Ae ?_;rw[hb1];refine Ae ?_;rw[e3,BC (by omega)];refine Aa ih ?_;rfl
omit Kh F in
theorem WY(a:List Pt)(hl:a.length<=1000000):∀(m i:Nat) (out:List Pt),a.length-i=m->i<=a.length->out.length<=1000000+i->
  D.ask (.lp 211 1) [.ls (a.map eP),.sl 0 0 out.length 3,iv (i:Int)] [D8 out]=some (.tup [iv 2,.sl 1 0 (out++a.drop i).length 3],[.del,.set (D8 (out++a.drop i))]):=by
 intro m
 induction m with
 |zero=>
  intro i out hm hi ho;rw[υ (by omega),ApQ];refine Kt.lp' Kb _ rfl (by kernel_rfl) ((Xq ..).trans ?_);rw[Aj];exact Ak (by omega) rfl
 |succ m ih=>
  intro i out hm hi ho;have h1:i<a.length:=by omega
  have hn1:∀ kk,Bl (a.map eP) i kk=kk (eP a[i]):=λkk=>Aw (Ψ h1) kk
  rw[ω h1];revert hn1;generalize a[i]=v;intro hn1;have ih:=ih (i+1) (out++[v]) (by omega) (by omega) (by simp;omega);rw[Ao9,Ap4,show (out++[v]).length=out.length+1 by simp]at ih;have hf:Be (out.length+1) 40=true:=AL (by omega) (by omega);have hb1:Apa (0+out.length*3) (Ai eP out).length=true:=AJ Au out (by omega);have e3:ι 0 (κ (0+out.length*3) (Ai eP out))++[iv v.v,bv v.z.neg,eN v.z.abs]=Ai eP (out++[v]):=by
   rw[χ,Bf Au out (by omega)];exact Bc eP out v
  refine Kt.lp' Kb _ rfl (by kernel_rfl) ((Xq ..).trans ?_);rw[Aj];refine Aq (by omega) ?_;simp only[Av,hn1,eP,eN,ND,DK,Ab]at e3 ⊢;rw[hf];refine Ae ?_;rw[hb1];refine Ae ?_;rw[e3,BC (by omega)];refine Aa ih ?_;rfl
omit Kh F in
theorem AaO(a b:List Pt)(ha:a.length<=1000000)(hb:b.length<=1000000):D.ask (.fn 211) [.ls (a.map eP),.ls (b.map eP)] []=some (.ls ((a++b).map eP),[]):=by
 have g0:=WX Kt a b ha _ 0 [] rfl (by omega) (by simp);have g1:=WY Kt b hb _ 0 a rfl (by omega) (by omega);rw[χ,Apv]at g0;rw[χ]at g1;refine Kt.fn' Kb _ rfl ((Anb ..).trans ?_);refine Aa g0 ?_;simp only[ND,DK,Ab];refine Aa g1 ?_;simp only[ND,DK,Ab];refine Ae ?_;rw[AJ Au (a++b) (by omega)];refine Ae ?_;rw[Bp Au _ rfl]
theorem Aes{n m k:Nat}{a b:Tm}(ha:TmB n k a)(hb:TmB m k b)(hn:n+m<=1000000)(hk:k+1+(n+m)<=400000000):D.ask (.fn 153) [.agg (eT a),.agg (eT b)] []=some (.agg (eT (a.lf.add b.lf).tm),[]):=by
 obtain⟨ap,ak⟩:=a;obtain⟨bp,bk⟩:=b;have l1:ap.length<=n:=ha.len;have l2:bp.length<=m:=hb.len;have gc:=AaO Kt ap bp (by omega) (by omega);have ga:=F.add ak bk (ha.k.mono (by omega)) (hb.k.mono (by omega));have hT:TmB (n+m) (k+1) ⟨ap++bp,Az (zv ak+zv bk)⟩:=by
  refine⟨by simp;omega,λp hp=>?_,?_⟩
  .rcases ApS.1 hp with h|h
   .exact(ha.ps p h).mono (by omega)
   .exact(hb.ps p h).mono (by omega)
  .exact(InB.add ha.k.inb hb.k.inb).lz
 have gp:=Ds Kt Kh F hT hn (by omega);have el:(⟨ap++bp,Az (zv ak+zv bk)⟩:Tm).lf.pln=Lf.add (Tm.lf ⟨ap,ak⟩) (Tm.lf ⟨bp,bk⟩):=by
  unfold Lf.add Tm.lf;simp only[AsE,AU]
 rw[el]at gp;refine Kt.fn' AfY _ rfl ((AmL ..).trans ?_);refine Aa gc ?_;simp only[ND,DK,Ab];refine Aa ga ?_;simp only[eZ,eN,ND,DK,Ab];refine Aa gp ?_;rfl
omit Kh in
theorem VS{k j:Nat}{x:Zi}(hx:Lz j x)(ps:List Pt)(kz:Zi)(hl:ps.length<=1000000)(hz:∀ p∈ps,Lz k p.z)(hk:k<=400000000)(hj:j<=400000000)(r0:List (List AV))(r1:Bool)(r2:List (List AV))(k1:Bool)(k2:List (List AV)):∀(m i:Nat) (out:List Pt),ps.length-i=m->i<=ps.length->out.length<=i->
  D.ask (.lp 73 0) [.ptr 0 0,.ptr 1 0,.ptr 2 0,.ptr 3 0,iv (i:Int)] [⟨[.ls (ps.map eP),bv kz.neg,eN kz.abs],true,false⟩,⟨eZ x,true,false⟩,⟨[.ls r0,bv r1,.ls r2],true,false⟩,⟨[.sl 4 0 out.length 3,bv k1,.ls k2],true,false⟩,D8 out]
   = some (.tup [iv 0,.ptr 2 0,.ptr 3 0],[.del,.del,.set ⟨[.ls r0,bv r1,.ls r2],true,false⟩,.set ⟨[.sl 5 0 (out++(ps.drop i).map (Ou x)).length 3,bv k1,.ls k2],true,false⟩,.del,.set (D8 (out++(ps.drop i).map (Ou x)))]):=by
 intro m
 induction m with
 |zero=>
  intro i out hm hi ho;rw[υ (by omega),Aqq,ApQ];obtain⟨xn,xa⟩:=x;refine Kt.lp' Yb _ rfl (by kernel_rfl) ((Afy ..).trans ?_);rw[Aj];exact Ak (by omega) rfl
 |succ m ih=>
  intro i out hm hi ho;have h1:i<ps.length:=by omega
  have hzk:=hz ps[i] (ApP h1);have gm:=F.mul ps[i].z x (hzk.mono (by omega)) (hx.mono (by omega));rw[ω h1,Aps];have ih:=ih (i+1) (out++[Ou x ps[i]]) (by omega) (by omega) (by simp;omega);rw[Ao9,Ap4,show (out++[Ou x ps[i]]).length=out.length+1 by simp]at ih;have hf:Be (out.length+1) 40=true:=AL (by omega) (by omega);have hb1:Apa (0+out.length*3) (Ai eP out).length=true:=AJ Au out (by omega);have e3:ι 0 (κ (0+out.length*3) (Ai eP out))++[iv ps[i].v,bv (Az (zv ps[i].z*zv x)).neg,eN (Az (zv ps[i].z*zv x)).abs]=Ai eP (out++[Ou x ps[i]]):=by
   rw[χ,Bf Au out (by omega)];exact Bc eP out (Ou x ps[i])
  have hn1:∀ kk,Bl (ps.map eP) i kk=kk (eP ps[i]):=λkk=>Aw (Ψ h1) kk
  obtain⟨xn,xa⟩:=x;refine Kt.lp' Yb _ rfl (by kernel_rfl) ((Afy ..).trans ?_);rw[Aj];refine Aq (by omega) ?_;simp only[Av,hn1,eP,eN,ND,DK,Ab];refine Aa gm ?_;simp only[eZ,eN,ND,DK,Ab]at e3 ⊢;rw[hf];refine Ae ?_;rw[hb1];refine Ae ?_;rw[e3,BC (by omega)];refine Aa ih ?_;rfl
theorem On{n k j:Nat}{a:Tm}{x:Zi}(ha:TmB n k a)(hx:Lz j x)(hn:n<=1000000)(hj:j<=200000000)(hk:k+j+n<=400000000):D.ask (.fn 73) [.agg (eT a),.agg (eZ x)] []=some (.agg (eT (a.lf.scale (zv x)).tm),[]):=by
 obtain⟨ap,ak⟩:=a;have l1:ap.length<=n:=ha.len;have gm:=F.mul ak x (ha.k.mono (by omega)) (hx.mono (by omega));have gl:=VS Kt F hx ap ak (by omega) ha.ps (by omega) (by omega) [] false [] (Az (zv ak*zv x)).neg ((Az (zv ak*zv x)).abs.map eL) _ 0 [] rfl (by omega) (by simp);rw[χ,Apv]at gl;have hT:TmB n (k+j) ⟨ap.map (Ou x),Az (zv ak*zv x)⟩:=by
  refine⟨by simpa using l1,λp hp=>?_,(InB.mul ha.k.inb hx.inb).lz⟩;rw[ApY]at hp;obtain⟨q,hq,rfl⟩:=hp;exact(InB.mul (ha.ps q hq).inb hx.inb).lz
 have gp:=Ds Kt Kh F hT hn (by omega);have el:(⟨ap.map (Ou x),Az (zv ak*zv x)⟩:Tm).lf.pln=Lf.scale (Tm.lf ⟨ap,ak⟩) (zv x):=by
  unfold Lf.scale Tm.lf;simp only[Aq5,AU]
  congr 2
  refine AqH λp _=>?_
  show ((p.v,zv (Az (zv p.z*zv x))):Int × Int)=_
  rw[AU];rfl
 rw[el]at gp;obtain⟨xn,xa⟩:=x;refine Kt.fn' Yb _ rfl ((e73 ..).trans ?_);refine Aa gm ?_;simp only[eZ,eN,ND,DK,Ab];refine Aa gl ?_;simp only[ND,DK,Ab];rw[show Apa (0+(ap.map (Ou ⟨xn,xa⟩)).length*3) (Ai eP (ap.map (Ou ⟨xn,xa⟩))).length=true from AJ Au _ (by omega)];refine Ae ?_;rw[Bp Au _ rfl];refine Aa gp ?_;rfl
theorem UC{n k:Nat}{a:Tm}(ha:TmB n k a)(hn:n<=1000000)(hk:k+1+n<=400000000):D.ask (.fn 73) [.agg (eT a),.agg (eZ (Az (-1)))] []=some (.agg (eT (a.lf.scale (-1)).tm),[]):=by
 have hx:Lz 1 (Az (-1)):=InB.lz (by unfold InB;decide);have g2:=On Kt Kh F ha hx hn (by omega) hk;rw[AU]at g2;exact g2
theorem UF{n m k:Nat}{a b:Tm}(ha:TmB n k a)(hb:TmB m k b)(hn:n+m<=1000000)(hk:k+2+2*(n+m)<=400000000):D.ask (.fn 81) [.agg (eT a),.agg (eT b)] []=some (.agg (eT (a.lf.sub b.lf).tm),[]):=by
 have g0:=F.of_ (-1) (by omega) (by omega);have g1:=UC Kt Kh F hb (by omega) (by omega);have hn1:LB m (k+1+m) (b.lf.scale (-1)):=hb.lb.scale (by unfold InB;decide);have g2:=Aes Kt Kh F (ha.mono (φ _) (show k<=k+1+m by omega)) hn1.tb hn (by omega);rw[Dc]at g2;refine Kt.fn' Akf _ rfl ((e81 ..).trans ?_);refine Aa g0 ?_;simp only[eZ,eN,ND,DK,Ab]at g1 ⊢;refine Aa g1 ?_;simp only[eT,eN,ND,DK,Ab];refine Aa g2 ?_;rfl
omit Kh in
theorem Te{z:Zi}(hz:Lz 1000000000 z):D.ask (.fn 80) [.agg (eZ z)] []=some (.agg (eT (Lf.num (zv z)).tm),[]):=by
 have g:=F.clean z hz;refine Kt.fn' Ake _ rfl ((e80 ..).trans ?_);refine Aa g ?_;rfl
end
section
open Go.RowKit
def Anz:AB:=[⟨24,[false,true,true,true,true,true],[],[1,2,3],[(1,([false,false,true,true],([],[1])))]⟩]
def Acg:MFn:=AS Anz 70
def X9:Hnt:=⟨[(76,(.ls,[])),(77,(.agg [.bool,.ls],[])),(150,(.agg [.bool,.ls],[]))],[(0,[(1,([.ptr 1 0,.ptr 2 0],[.del,.box [.bool,.ls],.box [.bool,.ls]]))])],[(7,[.ls,.bool,.ls]),(15,[.bool,.ls]),(16,[.ls,.bool,.ls]),(19,[.int .i64]),(20,[.int .i64]),(23,[.bool,.ls])]⟩
def AnA:AB:=[⟨66,[false,true,true,true,true,true,true,true],[(1000005,3)],[1,2,3,4],[(1,([false,true,true,true,true,true],([],[])))]⟩]
def Ach:MFn:=AS AnA 72
def Ya:Hnt:=⟨[(20,(.agg [.ls,.bool,.ls],[])),(69,(.int .i64,[])),(70,(.agg [.bool,.ls],[])),(71,(.tup [.agg [.bool,.ls],.agg [.bool,.ls],.int .i64],[])),(76,(.ls,[])),(77,(.agg [.bool,.ls],[]))],[(0,[(1,([.ptr 0 0,.ptr 1 0,.ptr 2 0,.ptr 3 0,.ptr 4 0],[.box [.ls,.bool,.ls],.box [.ls,.bool,.ls],.box [.bool,.ls],.box [.bool,.ls],.box [.sl 6 3,.bool,.cst (.slice none 0 0)],.del,.row true]))])],[(14,[.ls,.bool,.ls]),(16,[.bool,.ls]),(19,[.ls,.bool,.ls]),(23,[.ls,.bool,.ls]),(32,[.ls,.bool,.ls]),(35,[.int .i64]),(36,[.int .i64]),(38,[.bool,.ls]),(44,[.ls]),(47,[.int .i64]),(48,[.int .i64]),(49,[.bool,.ls]),(56,[.bool,.ls]),(57,[.bool,.ls]),(62,[.bool,.ls]),(64,[.ls,.bool,.ls]),(65,[.bool,.ls])]⟩
def Ox:List (Nat × MFn):=[(70,Acg),(72,Ach)]
variable (A:Ar) (D:Orc)
theorem e70(x0_0:Rw)(x0_1:Bool)(x0_2:Rw):BP A D As X9 .n 70 Acg [Ω [Δ x0_0,bv x0_1,Δ x0_2]] [] =
 Af D (θ 76) [Ω [Δ x0_0,bv x0_1,Δ x0_2]] [] [.l,.E] λxs=>
 Af D (γ 70 0) [ε 0 0,ε 1 0,ε 2 0,Δ xs,iv 0] [bk [Δ x0_0,bv x0_1,Δ x0_2],bk [bv false,Δ []],bk [bv false,Δ []]] [.t,.C,.x,.X,.Y] λc l o1=>
 br (Bo 1 c)
 (dk [.P 1 0,.P 2 0,.N,.D,.T,.B,.L,.N,.T,.B,.L,.N,.E] [.l l,.o o1] λ_ _ b1 xs2=>
 some ((Ω [bv b1,Δ xs2],[])))
 (none):=by kernel_rfl
theorem Afw(b1_0:Rw)(b1_1:Bool)(b1_2:Rw)(b2_0:Bool)(b2_1:Rw)(b3_0:Bool)(b3_1 t4:Rw)(t5:Int):CO A D As X9 .n 70 0 (AN Acg 0).fst (AN Acg 0).snd [ε 0 0,ε 1 0,ε 2 0,Δ t4,iv t5] [bk [Δ b1_0,bv b1_1,Δ b1_2],bk [bv b2_0,Δ b2_1],bk [bv b3_0,Δ b3_1]] =
 br (A.lt t5 ↑(AF t4))
 (unI t5 λi=>
 Bl t4 i λcs=>
 dk [.I,.N] [.l cs] λn=>
 Af D (θ 77) [Ω [Δ b1_0,bv b1_1,Δ b1_2],iv n] [] [.a,.B,.L,.N,.E] λb xs=>
 Af D (θ 150) [Ω [bv b3_0,Δ b3_1],Ω [bv b,Δ xs]] [] [.a,.B,.L,.N,.E] λb1 xs1=>
 AI D (γ 70 0) [ε 0 0,ε 1 0,ε 2 0,Δ t4,iv (A.add Φ t5 1)] [bk [Δ b1_0,bv b1_1,Δ b1_2],bk [bv b2_0,Δ b2_1],bk [bv b1,Δ xs1]] λr2 o2=>
 AE 3 [0,1,2] (AH.mk [(2,bk [bv b1,Δ xs1]),(1,bk [bv b2_0,Δ b2_1]),(0,bk [Δ b1_0,bv b1_1,Δ b1_2])] 3 none) [0,1,2] r2 o2)
 (some ((ν [iv 0,ε 1 0,ε 2 0],[BO.del,ο (bk [bv b2_0,Δ b2_1]),ο (bk [bv b3_0,Δ b3_1])]))):=by kernel_rfl
theorem e72(x0_0:Rw)(x0_1:Bool)(x0_2:Rw):BP A D As Ya .n 72 Ach [Ω [Δ x0_0,bv x0_1,Δ x0_2]] [] =
 Af D (θ 70) [Ω [Δ x0_0,bv x0_1,Δ x0_2]] [] [.a,.B,.L,.N,.E] λb xs=>
 Af D (θ 69) [Ω [bv b,Δ xs]] [] [.i,.E] λn=>
 br (A.eq n 0)
 (Af D (θ 20) [Ω [Δ x0_0,bv x0_1,Δ x0_2]] [] [.a,.L,.B,.L,.N,.E] λxs1 b1 xs2=>
 some ((ν [Ω [Δ xs1,bv b1,Δ xs2],Ω [bv false,Δ []]],[])))
 (Af D (θ 76) [Ω [Δ x0_0,bv x0_1,Δ x0_2]] [] [.l,.E] λxs1=>
 Af D (γ 72 0) [ε 0 0,ε 1 0,ε 2 0,ε 3 0,ε 4 0,Δ xs1,iv 0] [bk [Δ x0_0,bv x0_1,Δ x0_2],bk [Δ [],bv false,Δ []],bk [bv false,Δ []],bk [bv b,Δ xs],bk [ζ 5 0 0 3,bv false,Apc (Value.slice none 0 0)],Ξ [] true true] [.t,.C,.x,.X,.Y] λc l2 o3=>
 br (Bo 1 c)
 (dk [.P 0 0,.P 1 0,.P 2 0,.P 3 0,.P 4 0,.N,.T,.L,.B,.L,.N,.T,.L,.B,.L,.N,.T,.B,.L,.N,.T,.B,.L,.N,.T,.C,.q 6 3,.B,.C,.c (Value.slice none 0 0),.X,.Y] [.l l2,.o o3] λ_ b1 xs3 _ _ _ _ _ b4 xs7 n1 _ l25 l22=>
 dk [.N,.D,.R,.X,.E] [.l l25,.o l22] λcs7=>
 Af D (θ 71) [Ω [bv b1,Δ xs3],Ω [bv b4,Δ xs7]] [] [.t,.A,.B,.L,.N,.A,.B,.L,.N,.I,.N,.E] λb6 xs8 _ _ _=>
 br ((0+n1*3).ble cs7.length) (some ((ν [Ω [Δ (Bh n1 3 (κ (n1*3) cs7)),bv b6,Δ xs8],Ω [bv b4,Δ xs7]],[]))) none)
 (none)):=by kernel_rfl
theorem Afx(a0:Rw)(a1:Bool)(a2 r0:Rw)(r1:Bool)(r2:Rw)(i0:Bool)(i1:Rw)(j0:Bool)(j1:Rw)(n5:Nat)(k1:Bool)(c5:List AV)(t6:Rw)(t7:Int):CO A D As Ya .n 72 0 (AN Ach 0).fst (AN Ach 0).snd [ε 0 0,ε 1 0,ε 2 0,ε 3 0,ε 4 0,Δ t6,iv t7] [bk [Δ a0,bv a1,Δ a2],bk [Δ r0,bv r1,Δ r2],bk [bv i0,Δ i1],bk [bv j0,Δ j1],bk [ζ 5 0 n5 3,bv k1,Apc (Value.slice none 0 0)],{ cells:=c5,st:=true,ex:=true }] =
 br (A.lt t7 ↑(AF t6))
 (unI t7 λi=>
 Bl t6 i λcs=>
 dk [.I,.N] [.l cs] λn=>
 Af D (θ 77) [Ω [Δ a0,bv a1,Δ a2],iv n] [] [.a,.B,.L,.N,.E] λb xs=>
 Af D (θ 71) [Ω [bv b,Δ xs],Ω [bv j0,Δ j1]] [] [.t,.A,.B,.L,.N,.A,.B,.L,.N,.I,.N,.E] λb1 xs1 b2 xs2 _=>
 unI t7 λi2=>
 Bl t6 i2 λcs5=>
 dk [.I,.N] [.l cs5] λn2=>
 br (Be (n5+1) 40) (br ((0+n5*3).ble c5.length) (AI D (γ 72 0) [ε 0 0,ε 1 0,ε 2 0,ε 3 0,ε 4 0,Δ t6,iv (A.add Φ t7 1)] [bk [Δ a0,bv a1,Δ a2],bk [Δ r0,bv r1,Δ r2],bk [bv i0,Δ i1],bk [bv j0,Δ j1],bk [ζ 5 0 (n5+1) 3,bv k1,Apc (Value.slice none 0 0)],Ξ (ι 0 (κ (0+n5*3) c5)++[iv n2,bv b1,Δ xs1]) true true] λr4 o2=>
 AE 6 [0,1,2,3,4,9] (AH.mk [(3,bk [bv j0,Δ j1]),(2,bk [bv i0,Δ i1]),(1,bk [Δ r0,bv r1,Δ r2]),(0,bk [Δ a0,bv a1,Δ a2]),(4,bk [ζ 9 0 (n5+1) 3,bv k1,Apc (Value.slice none 0 0)]),(9,Ξ (ι 0 (κ (0+n5*3) c5)++[iv n2,bv b1,Δ xs1]) true true),(8,Ξ [iv n2,bv b1,Δ xs1] true true),(7,bk [bv b2,Δ xs2]),(6,bk [bv b1,Δ xs1])] 10 none) [5,4,0,1,2,3] r4 o2) none) none)
 (some ((ν [iv 0,ε 0 0,ε 1 0,ε 2 0,ε 3 0,ε 4 0],[ο (bk [Δ a0,bv a1,Δ a2]),ο (bk [Δ r0,bv r1,Δ r2]),ο (bk [bv i0,Δ i1]),ο (bk [bv j0,Δ j1]),ο (bk [ζ 6 0 n5 3,bv k1,Apc (Value.slice none 0 0)]),BO.del,ο (Ξ c5 true true)]))):=by kernel_rfl
end
structure RdF (D:Orc):Prop where
 div:∀ a b:Zi,Lz 300000000 a->Lz 300000000 b->D.ask (.fn 71) [.agg (eZ a),.agg (eZ b)] []
  = some (if zv b=0 then .tup [.agg [bv false,.ls []],.agg [bv false,.ls []],iv 10] else .tup [.agg (eZ (Az (qZ (zv a) (zv b)))),.agg (eZ (Az (rZ (zv a) (zv b)))),iv 0],[])
 gcd:∀ a b:Zi,Lz 900000000 a->Lz 900000000 b->D.ask (.fn 150) [.agg (eZ a),.agg (eZ b)] []=some (.agg (eZ (Az (Nat.gcd (zv a).natAbs (zv b).natAbs:Nat))),[])
theorem AlV{D:Orc}(Kn:Knows As Hw D)(R:Knows As Nc D)(Km:Knows As Ow D)(G:Knows As RE D):RdF D:=⟨λ_ _ ha hb=>Zo Kn R Km G ha hb,λ_ _ ha hb=>Zp Kn R Km G ha hb⟩
def vc(ps:List (Int × Int))(v:Int):Int × Int:=(v,Cz ps v)
theorem JW{n k:Nat}{t:Tm}(ht:TmB n k t)(v:Int):InB (k+n) (Cz t.lf.ps v):=by
 have h:=G6 v t.lf.ps ht.lb.ps;have hl:=ht.lb.len;unfold Cz;split
 .exact h.mono (by omega)
 .exact InB.zero _
def CB(t:Tm):Nat:=Nz 0 (A8 t.lf.ps)
def Hk(g:Int)(p:Int × Int):Pt:=AO (p.1,qZ p.2 g)
def EJ(t:Tm):Tm:=if CB t=0 then t.lf.pln.tm else ⟨(A8 t.lf.ps).map (Hk (CB t)),Az (qZ (zv t.k) (CB t))⟩
section
variable {D:Orc} (Kt:Knows As GU D) (Kh:Knows As Hv D) (F:RF D) (Ks:Knows As Ox D) (W:RdF D)
include Kh F Ks W
theorem Aeu{n k:Nat}{t:Tm}(ht:TmB n k t)(hn:n<=1000000)(hk:k+n<=300000000)(vs:List Int)(hvs:vs.length<=n):∀(m i g:Nat),vs.length-i=m->i<=vs.length->InB 300000000 (g:Int)->
  D.ask (.lp 70 0) [.ptr 0 0,.ptr 1 0,.ptr 2 0,.ls (vs.map eI),iv (i:Int)] [bk (eT t),bk [bv false,.ls []],bk (eZ (Az (g:Int)))]
   = some (.tup [iv 0,.ptr 1 0,.ptr 2 0],[.del,.set (bk [bv false,.ls []]),.set (bk (eZ (Az (Nz g ((vs.drop i).map (vc t.lf.ps)):Int))))]):=by
 intro m
 induction m with
 |zero=>
  intro i g hm hi hg;rw[υ (by omega)];refine Ks.lp' X9 _ rfl (by kernel_rfl) ((Afw ..).trans ?_);rw[Aj];exact Ak (by omega) rfl
 |succ m ih=>
  intro i g hm hi hg;have h1:i<vs.length:=by omega
  have hx:=(JW ht vs[i]).mono hk;rw[ω h1,Aps];have gc:=Lj Kh F ht hn (by omega) vs[i];rw[show (if 0<=vs[i] then A6 vs[i] t.lf.ps else 0)=Cz t.lf.ps vs[i] from rfl]at gc;have ga:=W.gcd (Az (g:Int)) (Az (Cz t.lf.ps vs[i])) (hg.lz.mono (by omega)) (hx.lz.mono (by omega));rw[AU,AU,Int.natAbs_natCast]at ga;have ih1:=ih (i+1) (Nat.gcd g (Cz t.lf.ps vs[i]).natAbs) (by omega) (by omega) (Ll hg hx);refine Ks.lp' X9 _ rfl (by kernel_rfl) ((Afw ..).trans ?_);rw[Aj];refine Aq (by omega) ?_;rw[Av,Aw (Ψ h1)];simp only[eI,ND,DK,Ab];refine Aa gc ?_;simp only[eZ,eN,ND,DK,Ab];refine Aa ga ?_;simp only[eZ,eN,ND,DK,Ab];rw[BC (by omega)];refine Aa ih1 ?_;rfl
include Kt
theorem KD{n k:Nat}{t:Tm}(ht:TmB n k t)(hn:n<=1000000)(hk:k+n<=300000000):D.ask (.fn 70) [.agg (eT t)] []=some (.agg (eZ (Az (CB t:Int))),[]):=by
 have gv:=M3 Kt Kh F ht hn (by omega);have hl:=JV t.lf.ps;have hl2:=ht.lb.len;have g:=Aeu Kh F Ks W ht hn hk (E8 t.lf.ps) (by omega) _ 0 0 rfl (by omega) (InB.zero _);rw[χ,show Az ((0:Nat):Int)=⟨false,[]⟩ from No,show eZ ⟨false,[]⟩=[bv false,.ls []] from rfl,show (E8 t.lf.ps).map (vc t.lf.ps)=A8 t.lf.ps from Di _]at g;refine Ks.fn' X9 _ rfl ((e70 ..).trans ?_);refine Aa gv ?_;simp only[ND,DK,Ab];refine Aa g ?_;rfl
omit Kt in
theorem AeD{n k:Nat}{t:Tm}(ht:TmB n k t)(hn:n<=1000000)(hk:k+n<=300000000)(g:Nat)(hg:InB 300000000 (g:Int))(hg0:g≠0)(vs:List Int)(hvs:vs.length<=n):∀(m i:Nat) (out:List Pt),vs.length-i=m->i<=vs.length->out.length<=i->
  D.ask (.lp 72 0) [.ptr 0 0,.ptr 1 0,.ptr 2 0,.ptr 3 0,.ptr 4 0,.ls (vs.map eI),iv (i:Int)] [bk (eT t),bk [.ls [],bv false,.ls []],bk [bv false,.ls []],bk (eZ (Az (g:Int))),bk [.sl 5 0 out.length 3,bv false,.v (.slice none 0 0)],Ξ (Ai eP out) true true]
   = some (.tup [iv 0,.ptr 0 0,.ptr 1 0,.ptr 2 0,.ptr 3 0,.ptr 4 0],[.set (bk (eT t)),.set (bk [.ls [],bv false,.ls []]),.set (bk [bv false,.ls []]),.set (bk (eZ (Az (g:Int)))),.set (bk [.sl 6 0 (out++(vs.drop i).map λv=>Hk (g:Int) (vc t.lf.ps v)).length 3,bv false,.v (.slice none 0 0)]),.del,.set (Ξ (Ai eP (out++(vs.drop i).map λv=>Hk (g:Int) (vc t.lf.ps v))) true true)]):=by
 intro m
 induction m with
 |zero=>
  intro i out hm hi ho;rw[υ (by omega),Aqq,ApQ];refine Ks.lp' Ya _ rfl (by kernel_rfl) ((Afx ..).trans ?_);rw[Aj];exact Ak (by omega) rfl
 |succ m ih=>
  intro i out hm hi ho;have h1:i<vs.length:=by omega
  have hx:=(JW ht vs[i]).mono hk;have hn1:∀ kk,Bl (vs.map eI) i kk=kk (eI vs[i]):=λkk=>Aw (Ψ h1) kk
  rw[ω h1,Aps];revert hn1 hx;generalize vs[i]=v;intro hx hn1;have gc:=Lj Kh F ht hn (by omega) v;rw[show (if 0<=v then A6 v t.lf.ps else 0)=Cz t.lf.ps v from rfl]at gc;have gd:=W.div (Az (Cz t.lf.ps v)) (Az (g:Int)) hx.lz hg.lz;rw[AU,AU,if_neg (by omega)]at gd;have ih:=ih (i+1) (out++[Hk (g:Int) (vc t.lf.ps v)]) (by omega) (by omega) (by simp;omega);rw[Ao9,Ap4,show (out++[Hk (g:Int) (vc t.lf.ps v)]).length=out.length+1 by simp]at ih;have hf:Be (out.length+1) 40=true:=AL (by omega) (by omega);have hb1:Apa (0+out.length*3) (Ai eP out).length=true:=AJ Au out (by omega);have e3:ι 0 (κ (0+out.length*3) (Ai eP out))++[iv v,bv (Az (qZ (Cz t.lf.ps v) (g:Int))).neg,eN (Az (qZ (Cz t.lf.ps v) (g:Int))).abs]=Ai eP (out++[Hk (g:Int) (vc t.lf.ps v)]):=by
   rw[χ,Bf Au out (by omega)];exact Bc eP out (Hk (g:Int) (vc t.lf.ps v))
  refine Ks.lp' Ya _ rfl (by kernel_rfl) ((Afx ..).trans ?_);rw[Aj];refine Aq (by omega) ?_;simp only[Av,hn1,eI,ND,DK,Ab];refine Aa gc ?_;simp only[eZ,eN,ND,DK,Ab]at e3 ⊢;refine Aa gd ?_;simp only[eZ,eN,ND,DK,Ab];rw[hf];refine Ae ?_;rw[hb1];refine Ae ?_;rw[e3,BC (by omega)];refine Aa ih ?_;rfl
theorem Tf{n k:Nat}{t:Tm}(ht:TmB n k t)(hn:n<=1000000)(hk:k+n<=300000000):D.ask (.fn 72) [.agg (eT t)] []=some (.tup [.agg (eT (EJ t)),.agg (eZ (Az (CB t:Int)))],[]):=by
 have gc:=KD Kt Kh F Ks W ht hn hk;have gv:=M3 Kt Kh F ht hn (by omega);have gp:=Ds Kt Kh F ht hn (by omega);have hl:=JV t.lf.ps;have hl2:=ht.lb.len;have hgI:InB 300000000 (CB t:Int):=Mf _ _ (InB.zero _) (λp hp=>by
  rw[←Di]at hp;obtain⟨v,_,rfl⟩:=ApY.1 hp;exact(JW ht v).mono hk)
 have gs:=F.sign (Az (CB t:Int)) (hgI.lz.mono (by omega));rw[AU]at gs;refine Ks.fn' Ya _ rfl ((e72 ..).trans ?_);refine Aa gc ?_;simp only[eZ,eN,ND,DK,Ab];refine Aa gs ?_;simp only[ND,DK,Ab];unfold EJ
 by_cases h0:CB t=0
 .rw[if_pos h0,h0]
  refine Bi (by decide) ?_;refine Aa gp ?_;rw[show Az ((0:Nat):Int)=⟨false,[]⟩ from No];simp only[eT,eN,ND,DK,Ab];rfl
 .rw[if_neg h0]
  refine AK (by unfold BF;rw[if_neg (by omega),if_pos (by omega)];decide) ?_;refine Aa gv ?_;simp only[ND,DK,Ab];have g:=AeD Kh F Ks W ht hn hk (CB t) hgI h0 (E8 t.lf.ps) (by omega) _ 0 [] rfl (by omega) (by simp);have e2:(E8 t.lf.ps).map (λv=>Hk (CB t:Int) (vc t.lf.ps v))=(A8 t.lf.ps).map (Hk (CB t:Int)):=by
   rw[←Di,Aq5];rfl
  rw[χ,Apv,e2]at g;have gk:=W.div t.k (Az (CB t:Int)) (ht.k.mono (by omega)) hgI.lz;rw[AU,if_neg (by omega)]at gk;refine Aa g ?_;simp only[eT,eZ,eN,ND,DK,Ab];refine(show ∀ X:KR,RR (.slice none 0 0) (.v (.slice none 0 0)) X=X from λ_=>rfl) _ |>.trans ?_
  refine Aa gk ?_;simp only[eZ,eN,ND,DK,Ab];rw[AJ Au _ (by omega)];refine Ae ?_;rw[Bp Au _ rfl]
end
section
open Go.RowKit
variable (A:Ar) (D:Orc)
end
section
open Go.RowKit
def Aly:MFn:=AS [] 79
def Akd:Hnt:=⟨[(28,(.agg [.ls,.bool,.ls,.bool],[])),(68,(.agg [.ls,.bool,.ls],[])),(125,(.agg [.ls,.bool,.ls],[])),(126,(.agg [.bool,.ls],[])),(127,(.agg [.ls,.bool,.ls],[]))],[],[(3,[.ls,.bool,.ls])]⟩
def Alj:MFn:=AS [] 23
def AjY:Hnt:=⟨[(68,(.agg [.ls,.bool,.ls],[])),(79,(.agg [.ls,.bool,.ls,.bool],[]))],[],[(4,[.bool]),(7,[.ls,.bool,.ls]),(11,[.ls,.bool,.ls]),(15,[.ls,.bool,.ls])]⟩
def RD:List (Nat × MFn):=[(79,Aly),(23,Alj)]
variable (A:Ar) (D:Orc)
theorem e79(x0_0:Rw)(x0_1:Bool)(x0_2:Rw):BP A D As Akd .n 79 Aly [Ω [Δ x0_0,bv x0_1,Δ x0_2]] [] =
 Af D (θ 68) [Ω [Δ x0_0,bv x0_1,Δ x0_2]] [] [.a,.L,.B,.L,.N,.E] λxs b xs1=>
 Af D (θ 126) [iv 1] [] [.a,.B,.L,.N,.E] λb1 xs2=>
 Af D (θ 125) [Ω [bv b1,Δ xs2]] [] [.a,.L,.B,.L,.N,.E] λxs3 b2 xs4=>
 Af D (θ 127) [Ω [Δ xs,bv b,Δ xs1],Ω [Δ xs3,bv b2,Δ xs4]] [] [.a,.L,.B,.L,.N,.E] λxs5 b3 xs6=>
 Af D (θ 28) [Ω [Δ xs5,bv b3,Δ xs6]] [] [.a,.L,.B,.L,.B,.N,.E] λxs7 b4 xs8 b5=>
 some ((Ω [Δ xs7,bv b4,Δ xs8,bv b5],[])):=by kernel_rfl
theorem e23(x0_0:Rw)(x0_1:Bool)(x0_2:Rw)(x0_3:Bool):BP A D As AjY .n 23 Alj [Ω [Δ x0_0,bv x0_1,Δ x0_2,bv x0_3]] [] =
 br (A.not x0_3)
 (Af D (θ 79) [Ω [Δ x0_0,bv x0_1,Δ x0_2]] [] [.a,.L,.B,.L,.B,.N,.E] λxs b xs1 b1=>
 some ((Δ [[Δ xs,bv b,Δ xs1,bv b1]],[])))
 (Af D (θ 68) [Ω [Δ x0_0,bv x0_1,Δ x0_2]] [] [.a,.L,.B,.L,.N,.E] λxs b xs1=>
 Af D (θ 79) [Ω [Δ xs,bv b,Δ xs1]] [] [.a,.L,.B,.L,.B,.N,.E] λxs2 b1 xs3 b2=>
 Af D (θ 79) [Ω [Δ x0_0,bv x0_1,Δ x0_2]] [] [.a,.L,.B,.L,.B,.N,.E] λxs4 b3 xs5 b4=>
 some ((Δ [[Δ xs2,bv b1,Δ xs3,bv b2],[Δ xs4,bv b3,Δ xs5,bv b4]],[]))):=by kernel_rfl
end
section
open Go.RowKit
def Anp:AB:=[⟨64,[true,false,true,false,false,false,false,true],[],[],[(0,([false,false,false,false,false,false,true],([],[]))),(1,([],([],[])))]⟩,⟨64,[true,false,true,false,false,false,false,true,true],[],[],[(0,([false,false,false,false,false,false,true],([],[]))),(3,([true,false,true,false,false,false,false,true],([],[])))]⟩]
def VA:MFn:=AS Anp 16
def QG:Hnt:=⟨[],[(0,[(0,([.bool],[])),(1,([],[]))]),(1,[(0,([.bool],[])),(3,([.ls,.int .i64,.int .i64],[]))])],[(21,[.ls,.bool,.ls,.bool]),(24,[.ls]),(30,[.ls,.bool,.ls,.bool]),(34,[.ls]),(42,[.ls,.bool,.ls,.bool]),(45,[.ls]),(52,[.ls,.bool,.ls,.bool]),(55,[.ls]),(57,[.int .i64,.bool,.ls]),(60,[.ls])]⟩
def RB:List (Nat × MFn):=[(16,VA)]
variable (A:Ar) (D:Orc)
theorem e16(x0:Rw)(x1 x2:Int):BP A D As QG .n 16 VA [Δ x0,iv x1,iv x2] [] =
 br (A.lt x1 ↑(AF x0))
 (some ((bv false,[])))
 (Af D (γ 16 0) [Δ x0,iv x2,iv 0] [] [.t,.C,.x,.X,.Y] λc l o=>
 br (Bo 0 c)
 (dk [.B,.N,.E] [.l l,.o o] λb=>
 some ((bv b,[])))
 (br (Bo 1 c)
 (EM l<|
 Dd o<|
 some ((bv true,[])))
 (none))):=by kernel_rfl
theorem Afq(t0:Rw)(t2 t7:Int):CO A D As QG .n 16 0 (AN VA 0).fst (AN VA 0).snd [Δ t0,iv t2,iv t7] [] =
 br (A.lt t7 ↑(AF t0))
 (unI t7 λi=>
 Bl t0 i λcs=>
 dk [.L,.B,.L,.B,.N] [.l cs] λxs _ _ _=>
 br (A.lt 20 ↑(AF xs))
 (some ((ν [bv true,bv false],[])))
 (unI t7 λi1=>
 Bl t0 i1 λcs1=>
 dk [.L,.B,.L,.B,.N] [.l cs1] λ_ _ xs3 _=>
 br (A.lt t2 ↑(AF xs3))
 (some ((ν [bv true,bv false],[])))
 (Af D (γ 16 1) [Δ t0,iv t2,iv t7,iv 0] [] [.t,.C,.x,.X,.Y] λc l8 o=>
 br (Bo 0 c)
 (dk [.B,.N,.E] [.l l8,.o o] λb4=>
 some ((ν [bv true,bv b4],[])))
 (br (Bo 3 c)
 (dk [.L,.I,.I,.N,.E] [.l l8,.o o] λxs4 n n1=>
 AI D (γ 16 0) [Δ xs4,iv n,iv (A.add Φ n1 1)] [] λr1 o1=>
 AE 0 [] (AH.mk [] 0 none) [] r1 o1)
 (none)))))
 (some ((ν [iv 0],[]))):=by kernel_rfl
theorem Afr(t0:Rw)(t2 t7 t8:Int):CO A D As QG .n 16 1 (AN VA 1).fst (AN VA 1).snd [Δ t0,iv t2,iv t7,iv t8] [] =
 unI t7 λi=>
 Bl t0 i λcs=>
 dk [.L,.B,.L,.B,.N] [.l cs] λxs _ _ _=>
 br (A.lt t8 ↑(AF xs))
 (unI t7 λi1=>
 Bl t0 i1 λcs1=>
 dk [.L,.B,.L,.B,.N] [.l cs1] λxs2 _ _ _=>
 unI t8 λi2=>
 Bl xs2 i2 λcs2=>
 dk [.I,.B,.L,.N] [.l cs2] λ_ _ xs4=>
 br (A.lt t2 ↑(AF xs4))
 (some ((ν [bv true,bv false],[])))
 (AI D (γ 16 1) [Δ t0,iv t2,iv t7,iv (A.add Φ t8 1)] [] λr o=>
 AE 0 [] (AH.mk [] 0 none) [] r o))
 (some ((ν [iv 2,Δ t0,iv t2,iv t7],[]))):=by kernel_rfl
end
section
open Go.RowKit
variable (A:Ar) (D:Orc)
end
section
open Go.RowKit
variable (A:Ar) (D:Orc)
end
def Dt(r:Tm × Bool):List AV:=eT r.1++[bv r.2]
theorem Jp(ps:List Pt)(kz:Zi)(e:Bool):Dt (⟨ps,kz⟩,e)=[.ls (ps.map eP),bv kz.neg,eN kz.abs,bv e]:=rfl
section
variable {D:Orc} (Kw:Knows As RB D)
include Kw
def VG(L:Int)(ps:List Pt):Bool:=ps.all λp=>decide ((p.z.abs.length:Int)<=L)
def MP(L:Int)(r:Tm × Bool):Bool:=decide (r.1.ps.length<=20)&&(decide ((r.1.k.abs.length:Int)<=L)&&VG L r.1.ps)
theorem Aa7(rs:List (Tm × Bool))(L:Int)(i:Nat)(h1:i<rs.length)(hl:rs[i].1.ps.length<=20):∀(m k:Nat),rs[i].1.ps.length-k=m->k<=rs[i].1.ps.length->
  D.ask (.lp 16 1) [.ls (rs.map Dt),iv L,iv (i:Int),iv (k:Int)] []=some (if VG L (rs[i].1.ps.drop k)=true then .tup [iv 2,.ls (rs.map Dt),iv L,iv (i:Int)] else .tup [bv true,bv false],[]):=by
 have hn1:∀ kk,Bl (rs.map Dt) i kk=kk (Dt rs[i]):=λkk=>Aw (Ψ h1) kk
 revert hn1 hl;generalize rs[i]=r;intro hl hn1;obtain⟨⟨ps,kz⟩,e⟩:=r;simp only at hl ⊢;intro m
 induction m with
 |zero=>
  intro k hm hk;rw[υ (by omega)];refine Kw.lp' QG _ rfl (by kernel_rfl) ((Afr ..).trans ?_);simp only[Av,hn1,Jp,eN,ND,DK,Ab,Aj];exact Ak (by omega) rfl
 |succ m ih=>
  intro k hm hk;have h2:k<ps.length:=by omega
  have ih:=ih (k+1) (by omega) (by omega);have hn2:∀ kk,Bl (ps.map eP) k kk=kk (eP ps[k]):=λkk=>Aw (Ψ h2) kk
  rw[ω h2];revert hn2;generalize ps[k]=p;intro hn2;unfold VG at ih ⊢;rw[ArM];refine Kw.lp' QG _ rfl (by kernel_rfl) ((Afr ..).trans ?_);simp only[Av,hn1,hn2,Jp,eP,eN,ND,DK,Ab,Aj];refine Aq (by omega) ?_
  by_cases hz:L<(p.z.abs.length:Int)
  .refine Aq hz ?_
   rw[decide_eq_false (by omega:¬ (p.z.abs.length:Int)<=L)];rfl
  .refine Ak hz ?_
   rw[decide_eq_true (by omega:(p.z.abs.length:Int)<=L),Arz,BC (by omega)];refine Aa ih ?_
   cases (ps.drop (k+1)).all λp=>decide ((p.z.abs.length:Int)<=L)<;>rfl
theorem Aa6(rs:List (Tm × Bool))(L:Int)(hrl:rs.length<=1000000):∀(m i:Nat),rs.length-i=m->i<=rs.length->
  D.ask (.lp 16 0) [.ls (rs.map Dt),iv L,iv (i:Int)] []=some (if(rs.drop i).all (MP L)=true then .tup [iv 0] else .tup [bv true,bv false],[]):=by
 intro m
 induction m with
 |zero=>
  intro i hm hi;rw[υ (by omega)];refine Kw.lp' QG _ rfl (by kernel_rfl) ((Afq ..).trans ?_);rw[Aj];exact Ak (by omega) rfl
 |succ m ih=>
  intro i hm hi;have h1:i<rs.length:=by omega
  have ih:=ih (i+1) (by omega) (by omega);have hn1:∀ kk,Bl (rs.map Dt) i kk=kk (Dt rs[i]):=λkk=>Aw (Ψ h1) kk
  have g1:=Aa7 Kw rs L i h1;rw[ω h1,ArM];revert hn1 g1;generalize rs[i]=r;obtain⟨⟨ps,kz⟩,e⟩:=r;intro hn1 g1;simp only at g1;unfold MP;simp only;refine Kw.lp' QG _ rfl (by kernel_rfl) ((Afq ..).trans ?_);rw[Aj];refine Aq (by omega) ?_;simp only[Av,hn1,Jp,eN,ND,DK,Ab,Aj]
  by_cases hp:ps.length<=20
  .refine Ak (by omega) ?_
   rw[decide_eq_true hp,Arz]
   by_cases hk:(kz.abs.length:Int)<=L
   .refine Ak (by omega) ?_
    rw[decide_eq_true hk,Arz];have g1:=g1 hp _ 0 rfl (Nat.zero_le _);rw[χ]at g1;refine Aa g1 ?_
    cases hr:VG L ps with
    |true=>
     rw[if_pos rfl,Arz];simp only[ND,DK,Ab,Amk];rw[BC (by omega)];refine Aa ih ?_;unfold MP
     cases (rs.drop (i+1)).all λr=>decide (r.1.ps.length<=20)&&(decide ((r.1.k.abs.length:Int)<=L)&&VG L r.1.ps)<;>rfl
    |false=>rfl
   .refine Aq (by omega) ?_
    rw[decide_eq_false hk];rfl
  .refine Aq (by omega) ?_
   rw[decide_eq_false hp];rfl
theorem AhC(rs:List (Tm × Bool))(n:Nat)(L:Int)(hn:n<=1000000):D.ask (.fn 16) [.ls (rs.map Dt),iv (n:Int),iv L] []=some (bv (decide (rs.length<=n)&&rs.all (MP L)),[]):=by
 refine Kw.fn' QG _ rfl ((e16 ..).trans ?_);rw[Aj]
 by_cases h:n<rs.length
 .rw[decide_eq_false (by omega:¬ rs.length<=n)]
  exact Jk (by omega)
 .have g:=Aa6 Kw rs L (by omega) _ 0 rfl (by omega)
  rw[χ]at g;rw[decide_eq_true (by omega:rs.length<=n),Arz];refine Ak (by omega) ?_;refine Aa g ?_
  cases rs.all (MP L)<;>rfl
end
structure LmT (t:Tm):Prop where
 ps:∀ p∈t.ps,Limbs p.z.abs
 k:Limbs t.k.abs
theorem LmT.tmb{t:Tm}{e:Bool}{L:Nat}(h:LmT t)(ho:MP (L:Int) (t,e)=true):TmB 20 L t:=by
 unfold MP VG at ho;simp only[Bool.and_eq_true,decide_eq_true_eq,List.all_eq_true]at ho;exact⟨ho.1,λp hp=>⟨h.ps p hp,by have:=ho.2.2 p hp;omega⟩,⟨h.k,by have:=ho.2.1;omega⟩⟩
def C5(l:Lf):Lf:=(l.scale (-1)).sub (Lf.num 1)
theorem Lp(k:Nat)(h:1<=k):LB 0 k (Lf.num 1):=⟨φ _,by simp[Lf.num],InB.one h⟩
theorem G4{n k:Nat}{l:Lf}(h:LB n k l):LB n (2*(k+1+n)+2+2*n) (C5 l):=by
 have h1:LB n (k+1+n) (l.scale (-1)):=h.scale (by unfold InB;decide);exact(LB.sub h1 (Lp (k+1+n) (by omega)):LB (n+0) _ _)
def J4(l:Lf)(e:Bool):List (Tm × Bool):=if e then [((C5 (l.scale (-1))).tm,false),((C5 l).tm,false)] else [((C5 l).tm,false)]
section
variable {D:Orc} (Kt:Knows As Gc D) (Kf:Knows As KN D) (Ks:Knows As Eh D) (Z:ZF D) (C:PartF D) (Kd:Knows As RD D)
include Kt Kf Ks Z C Kd
theorem P9{n k:Nat}{t:Tm}(ht:TmB n k t)(hn:n<=1000)(hk:k<=1000):D.ask (.fn 79) [.agg (eT t)] []=some (.agg (Dt ((C5 t.lf).tm,false)),[]):=by
 have g1:=Pz Kt Kf Ks Z C ht (by omega) (by omega);have hs:LB n (k+1+n) (t.lf.scale (-1)):=ht.lb.scale (by unfold InB;decide);have g2:=Z.of_ 1 (by omega) (by omega);have g3:=VF Kt Kf Z (z:=Az 1) ((InB.one (φ 1)).lz.mono (by omega));rw[AU]at g3;have g4:=Aja Kt Kf Ks Z C hs.tb (Lp (k+1+n) (by omega)).tb (by omega) (by omega);rw[Dc,Dc]at g4;have g5:=Q2 Kt Kf Ks Z C (G4 ht.lb).tb (by omega) (by omega);rw[Dc,show (C5 t.lf).pln=C5 t.lf from AeP _ _]at g5
 change D.ask _ [.agg (eT (t.lf.scale (-1)).tm),.agg (eT (Lf.num 1).tm)] []=some (.agg (eT (C5 t.lf).tm),[]) at g4
 revert g1 g4 g5;unfold Dt;simp only;generalize (t.lf.scale (-1)).tm=a;generalize (C5 t.lf).tm=c;generalize (Lf.num 1).tm=b at g3 ⊢;generalize Az 1=z at g2 g3;intro g1 g5 g4;obtain⟨ps,kz⟩:=t;refine Kd.fn' Akd _ rfl ((e79 ..).trans ?_);simp only[eT,eZ,eN,ND,DK,Ab]at g1 g2 g3 g4 g5 ⊢;refine Aa g1 ?_;simp only[ND,DK,Ab];refine Aa g2 ?_;simp only[ND,DK,Ab];refine Aa g3 ?_;simp only[ND,DK,Ab];refine Aa g4 ?_;simp only[ND,DK,Ab];refine Aa g5 ?_;rfl
theorem W6{n k:Nat}{t:Tm}(ht:TmB n k t)(hn:n<=500)(hk:k+n+1<=1000)(e:Bool):D.ask (.fn 23) [.agg (Dt (t,e))] []=some (.ls ((J4 t.lf e).map Dt),[]):=by
 have gb:=P9 Kt Kf Ks Z C Kd ht (by omega) (by omega);have g1:=Pz Kt Kf Ks Z C ht (by omega) (by omega);have hs:LB n (k+1+n) (t.lf.scale (-1)):=ht.lb.scale (by unfold InB;decide);have gc:=P9 Kt Kf Ks Z C Kd hs.tb (by omega) (by omega);rw[Dc]at gc;revert gb g1 gc;unfold J4;generalize (C5 (t.lf.scale (-1))).tm=d;generalize (t.lf.scale (-1)).tm=a;generalize (C5 t.lf).tm=c;intro gb g1 gc;obtain⟨ps,kz⟩:=t;refine Kd.fn' AjY _ rfl ((e23 ..).trans ?_);simp only[eT,Dt,eN,List.cons_append,Apv]at gb g1 gc ⊢
 cases e with
 |false=>
  refine Ae ?_;refine Aa gb ?_;rfl
 |true=>
  refine B8 ?_;refine Aa g1 ?_;simp only[ND,DK,Ab];refine Aa gc ?_;simp only[ND,DK,Ab];refine Aa gb ?_;rfl
end
section
open Go.RowKit
def Alg:MFn:=AS [] 18
def AjW:Hnt:=⟨[(20,(.agg [.ls,.bool,.ls],[])),(56,(.agg [.bool,.ls],[])),(69,(.int .i64,[])),(70,(.agg [.bool,.ls],[])),(71,(.tup [.agg [.bool,.ls],.agg [.bool,.ls],.int .i64],[])),(72,(.tup [.agg [.ls,.bool,.ls],.agg [.bool,.ls]],[])),(73,(.agg [.ls,.bool,.ls],[]))],[],[(13,[.ls,.bool,.ls]),(16,[.bool,.ls]),(19,[.ls]),(26,[.bool]),(35,[.ls,.bool,.ls]),(39,[.bool,.ls]),(40,[.bool,.ls]),(46,[.bool]),(48,[.bool,.ls]),(54,[.ls,.bool,.ls]),(59,[.bool]),(62,[.ls]),(63,[.int .i64,.bool,.ls]),(65,[.bool,.ls]),(69,[.ls,.bool,.ls]),(72,[.ls,.bool,.ls]),(74,[.bool])]⟩
def RG:List (Nat × MFn):=[(18,Alg)]
variable (A:Ar) (D:Orc)
theorem e18(x0_0:Rw)(x0_1:Bool)(x0_2:Rw)(x0_3:Bool):BP A D As AjW (.b .n (.b .n (.b (.t (.t (.b (.b .n (.t (.b .n (.b .n (.t (.t (.t (.t (.t (.t (.t (.b (.t .n) (.t .n))))))))))))) (.b (.t .n) .n)))) (.f (.f (.f (.b .n (.b .n (.f (.f (.f (.f (.f (.f (.f (.f .n)))))))))))))))) 18 Alg [Ω [Δ x0_0,bv x0_1,Δ x0_2,bv x0_3]] [] =
 Af D (θ 20) [Ω [Δ x0_0,bv x0_1,Δ x0_2]] [] [.a,.L,.B,.L,.N,.E] λxs b xs1=>
 Af D (θ 69) [Ω [bv b,Δ xs1]] [] [.i,.E] λn=>
 br (A.eq (↑(AF xs)) 0)
 (br (A.eq n 0)
 (some ((ν [Ω [Δ [],bv false,Δ [],bv false],iv 1],[])))
 (br (A.not x0_3)
 (br (A.lt 0 n)
 (some ((ν [Ω [Δ [],bv false,Δ [],bv false],iv 1],[])))
 (some ((ν [Ω [Δ [],bv false,Δ [],bv false],iv (-1)],[]))))
 (some ((ν [Ω [Δ [],bv false,Δ [],bv false],iv (-1)],[])))))
 (Af D (θ 70) [Ω [Δ xs,bv b,Δ xs1]] [] [.a,.B,.L,.N,.E] λb1 xs2=>
 Af D (θ 71) [Ω [bv b,Δ xs1],Ω [bv b1,Δ xs2]] [] [.t,.A,.B,.L,.N,.A,.B,.L,.N,.I,.N,.E] λ_ _ b3 xs4 _=>
 br x0_3
 (br x0_3 (AI D (θ 69) [Ω [bv b3,Δ xs4]] [] λr4 o4=>
 dk [.i,.E] [.v r4,.o o4] λn2=>
 br x0_3 (br (A.eq n2 0)
 (br x0_3 (AI D (θ 72) [Ω [Δ xs,bv b,Δ xs1]] [] λr5 o5=>
 dk [.t,.A,.L,.B,.L,.N,.A,.B,.L,.N,.N,.E] [.v r5,.o o5] λxs5 b4 xs6 _ _=>
 br x0_3 (br x0_3 (br x0_3 (Bl xs5 0 λcs8=>
 dk [.I,.B,.L,.N] [.l cs8] λ_ b6 xs8=>
 br x0_3 (br x0_3 (br x0_3 (AI D (θ 69) [Ω [bv b6,Δ xs8]] [] λr6 o6=>
 dk [.i,.E] [.v r6,.o o6] λn4=>
 br x0_3 (br (A.lt n4 0)
 (br x0_3 (AI D (θ 56) [iv (-1)] [] λr7 o7=>
 dk [.a,.B,.L,.N,.E] [.v r7,.o o7] λb7 xs9=>
 Af D (θ 73) [Ω [Δ xs5,bv b4,Δ xs6],Ω [bv b7,Δ xs9]] [] [.a,.L,.B,.L,.N,.E] λxs10 b8 xs11=>
 some ((ν [Ω [Δ xs10,bv b8,Δ xs11,bv x0_3],iv 0],[]))) none)
 (br x0_3 (some ((ν [Ω [Δ xs5,bv b4,Δ xs6,bv x0_3],iv 0],[]))) none)) none) none) none) none) none) none) none) none)
 (br x0_3 (some ((ν [Ω [Δ [],bv false,Δ [],bv false],iv (-1)],[]))) none)) none) none)
 (br x0_3 none (br x0_3 none (br x0_3 none (AI D (θ 72) [Ω [Δ xs,bv b,Δ xs1]] [] λr4 o4=>
 dk [.t,.A,.L,.B,.L,.N,.A,.B,.L,.N,.N,.E] [.v r4,.o o4] λxs5 b4 xs6 _ _=>
 br x0_3 none (br x0_3 none (br x0_3 none (br x0_3 none (br x0_3 none (br x0_3 none (br x0_3 none (br x0_3 none (some ((ν [Ω [Δ xs5,bv b4,Δ xs6,bv x0_3],iv 0],[]))))))))))))))):=by kernel_rfl
end
theorem YT{k:Nat}{x:Int}(hx:InB k x)(hk:1<=k)(y:Int):InB (k+1) (qZ x y):=by
 unfold qZ;split
 .rw[Int.sub_eq_add_neg]
  exact(TS hx y _).add ((InB.one hk).neg)
 .exact(TS hx y _).mono (by omega)
def hdS(t:Tm):Int:=match t.ps with
 |[]=>0
 |q::_=>zv q.z
def zrR:Tm × Bool:=(⟨[],⟨false,[]⟩⟩,false)
def NG(p:Tm)(eq:Bool):(Tm × Bool) × Int:=
 if p.ps=[] then(zrR,if zv p.k=0\/(eq=false/\0<zv p.k) then 1 else -1)
 else if eq=true then
  (if rZ (zv p.k) (CB p)=0 then((if hdS (EJ p)<0 then((EJ p).lf.scale (-1)).tm else EJ p,true),0) else(zrR,-1))
 else((EJ p,false),0)
theorem TE{l:Lf}(h:l.pln.tm.ps≠[]):CB l.pln.tm≠0:=by
 intro h0;have hp:=CZ l.ps;unfold CB at h0;rw[Dc,show l.pln.ps=A8 l.ps from rfl,Ij hp]at h0;have hd:=(Me (A8 l.ps) 0).2;rw[h0]at hd
 cases hl:A8 l.ps with
 |nil=>
  apply h
  show (A8 l.ps).map AO=[]
  rw[hl];rfl
 |cons q r=>
  have hq:q∈A8 l.ps:=by rw[hl];exact Apn ..
  have h1:=Nat.eq_zero_of_zero_dvd (hd q hq);exact hp.nz q hq (by omega)
theorem KI(x:Int):BF x=0 ↔ x=0:=by unfold BF;split<;>(try split)<;>omega
theorem UH(x:Int):0<BF x ↔ 0<x:=by unfold BF;split<;>(try split)<;>omega
theorem UG(x:Int):BF x<0 ↔ x<0:=by unfold BF;split<;>(try split)<;>omega
theorem O1{n k:Nat}{t:Tm}(ht:TmB n k t):InB (k+n) (CB t:Int):=Mf _ _ (InB.zero _) (λp hp=>by
 rw[←Di]at hp;obtain⟨v,_,rfl⟩:=ApY.1 hp;exact JW ht v)
theorem Tj{n k:Nat}{t:Tm}(ht:TmB n k t)(hk:1<=k):TmB n (k+n+1) (EJ t):=by
 unfold EJ;have hl:=Fu t.lf.ps;have hl2:=ht.lb.len;split
 .exact(ht.lb.pln.tb).mono (φ _) (by omega)
 .refine⟨by simp;omega,λp hp=>?_,((YT ht.k.inb hk _).mono (by omega)).lz⟩
  obtain⟨q,hq,rfl⟩:=ApY.1 hp;rw[←Di]at hq;obtain⟨v,_,rfl⟩:=ApY.1 hq;exact(YT (JW ht v) (by omega) _).lz
section
variable {D:Orc} (Kt:Knows As GU D) (Kh:Knows As Hv D) (F:RF D) (Ks:Knows As Ox D) (W:RdF D) (Ku:Knows As RG D)
include Kt Kh F Ks W Ku
theorem VU{n k:Nat}{t:Tm}(ht:TmB n k t)(hn:n<=1000000)(hk1:1<=k)(hk:k+3*n<=100000000)(eq:Bool):D.ask (.fn 18) [.agg (Dt (t,eq))] []
  = some (.tup [.agg (Dt (NG t.lf.pln.tm eq).1),iv (NG t.lf.pln.tm eq).2],[]):=by
 have gp:=Ds Kt Kh F ht hn (by omega);have hp:=ht.lb.pln.tb;have hc:t.lf.pln.tm.ps≠[]->CB t.lf.pln.tm≠0:=TE;refine Ku.fn' AjW _ rfl ((e18 ..).trans ?_);refine Aa gp ?_;generalize t.lf.pln.tm=p at *;have gs:=F.sign p.k (hp.k.mono (by omega));simp only[eT,eN,ND,DK,Ab];refine Aa gs ?_;simp only[Aj,ND,DK,Ab];unfold NG
 by_cases h0:p.ps=[]
 .rw[if_pos h0,h0]
  refine Bi (by decide) ?_
  by_cases hz:zv p.k=0
  .rw[if_pos (.inl hz)]
   exact Gp ((KI _).2 hz)
  .refine AK (λh=>hz ((KI _).1 h)) ?_
   cases eq with
   |true=>
    refine B8 ?_;rw[if_neg (λh=>h.elim hz λh=>by cases h.1)];rfl
   |false=>
    refine Ae ?_
    by_cases hpz:0<zv p.k
    .rw[if_pos (.inr ⟨rfl,hpz⟩)]
     exact Jk ((UH _).2 hpz)
    .rw[if_neg (λh=>h.elim hz λh=>hpz h.2)]
     exact CA (λh=>hpz ((UH _).1 h))
 .have hc:=hc h0
  have hpl:p.ps.length≠0:=λh=>h0 (Apr h)
  rw[if_neg h0];refine AK (by omega) ?_;have gc:=KD Kt Kh F Ks W hp hn (by omega);have hci:=O1 hp;have gd:=W.div p.k (Az (CB p:Int)) (hp.k.mono (by omega)) (hci.lz.mono (by omega));rw[AU,if_neg (by omega)]at gd;have gh:=Tf Kt Kh F Ks W hp hn (by omega);simp only[eT,eN]at gc;refine Aa gc ?_;simp only[eZ,eN,ND,DK,Ab];refine Aa gd ?_;simp only[eZ,eN,B3,A9,BS,Bg,BE,CW,AY,AD,DK];simp only[eT,eN]at gh
  cases eq with
  |false=>
   rw[if_neg (by decide)]
   iterate 4 refine B8 ?_
   refine Aa gh ?_;rfl
  |true=>
   rw[if_pos rfl];have hri:InB 300000001 (rZ (zv p.k) (CB p:Int)):=by
    unfold rZ;split
    .exact((Kj hci (by omega) _ _).mono (by omega)).add (hci.mono (by omega))
    .exact(Kj hci (by omega) _ _).mono (by omega)
   have gr:=F.sign (Az (rZ (zv p.k) (CB p:Int))) (hri.lz.mono (by omega));rw[AU]at gr
   iterate 2 refine Ae ?_
   refine Aa gr ?_;simp only[CG,AD,DK];refine Ae ?_
   by_cases hr:rZ (zv p.k) (CB p:Int)=0
   .rw[if_pos hr]
    refine Bi ((KI _).2 hr) ?_;refine Ae ?_;refine Aa gh ?_;have hst:=Tj hp (show 1<=k+n by omega);have hne:(EJ p).ps≠[]:=by
     unfold EJ;rw[if_neg hc];intro h1;have h2:A8 p.lf.ps=[]:=Ash.1 h1;apply hc;unfold CB;rw[h2];rfl
    have gsc:=On Kt Kh F (a:=EJ p) (x:=Az (-1)) hst (j:=1) ((InB.one (k:=1) (φ _)).neg.lz) hn (by omega) (by omega);rw[AU]at gsc;revert gsc hne;have hq1:∀ q∈(EJ p).ps,Lz 1000000000 q.z:=λq hq=>(hst.ps q hq).mono (by omega)
    revert hq1;generalize EJ p=S;obtain⟨sp,sk⟩:=S
    cases sp with
    |nil=>intro _ h;exact absurd rfl h
    |cons q sp=>
     intro hq1 _ gsc;have gq:=F.sign q.z (hq1 q (Apn ..));simp only[eZ,eN,B3,A9,BS,Bg,BE,CW,AY,AD,DK]
     iterate 3 refine Ae ?_
     rw[Aw (show (q::sp)[0]? = some q from rfl)];simp only[eP,eN,B3,A9,BS,Bg,BE,CW,AY,AD,DK]
     iterate 3 refine Ae ?_
     refine Aa gq ?_;simp only[CG,AD,DK];refine Ae ?_
     show _=some (ν [.agg (Dt (if zv q.z<0 then _ else _,true)),iv 0],[])
     by_cases hs:zv q.z<0
     .rw[if_pos hs]
      refine Aq ((UG _).2 hs) ?_;refine Ae ?_;refine Aa (F.of_ (-1) (by decide) (by decide)) ?_;simp only[eZ,eN,B3,A9,BS,Bg,BE,CW,AY,AD,DK];refine Aa gsc ?_;rfl
     .rw[if_neg hs]
      refine Ak (λh=>hs ((UG _).1 h)) ?_;exact AaQ _ _
   .rw[if_neg hr]
    refine AK (λh=>hr ((KI _).1 h)) ?_;exact AaQ _ _
end
section
open Go.RowKit
def Alr:MFn:=AS [] 63
def Aj6:Hnt:=⟨[],[],[]⟩
def Alf:MFn:=AS [] 17
def AjV:Hnt:=⟨[(62,(.agg [.ls,.bool,.ls],[])),(63,(.tup [.agg [.ls,.bool,.ls,.bool],.int .i64],[])),(64,(.int .i64,[])),(65,(.tup [.agg [.ls,.bool,.ls],.agg [.bool,.ls]],[])),(66,(.tup [.agg [.bool,.ls],.agg [.bool,.ls],.int .i64],[])),(67,(.agg [.bool,.ls],[])),(68,(.agg [.ls,.bool,.ls],[]))],[],[(9,[.ls,.bool,.ls]),(12,[.ls]),(16,[.bool,.ls]),(21,[.bool]),(25,[.bool,.ls]),(34,[.bool]),(37,[.ls,.bool,.ls]),(41,[.ls,.bool,.ls]),(45,[.bool,.ls]),(46,[.ls,.bool,.ls]),(52,[.bool,.ls]),(59,[.ls,.bool,.ls]),(64,[.ls]),(65,[.int .i64,.bool,.ls]),(67,[.bool,.ls]),(70,[.ls,.bool,.ls]),(72,[.ls,.bool,.ls])]⟩
def RJ:List (Nat × MFn):=[(63,Alr),(17,Alf)]
variable (A:Ar) (D:Orc)
theorem e63(x0:Bool):BP A D As Aj6 .n 63 Alr [bv x0] [] =
 br x0
 (some ((ν [Ω [Δ [],bv false,Δ [],bv false],iv 1],[])))
 (some ((ν [Ω [Δ [],bv false,Δ [],bv false],iv (-1)],[]))):=by kernel_rfl
theorem e17(x0_0:Rw)(x0_1:Bool)(x0_2:Rw)(x0_3:Bool):BP A D As AjV .n 17 Alf [Ω [Δ x0_0,bv x0_1,Δ x0_2,bv x0_3]] [] =
 Af D (θ 62) [Ω [Δ x0_0,bv x0_1,Δ x0_2]] [] [.a,.L,.B,.L,.N,.E] λxs b xs1=>
 br (A.eq (↑(AF xs)) 0)
 (Af D (θ 64) [Ω [bv b,Δ xs1]] [] [.i,.E] λn=>
 br (A.eq n 0)
 (Af D (θ 63) [bv true] [] [.t,.A,.L,.B,.L,.B,.N,.I,.N,.E] λxs2 b1 xs3 b2 n1=>
 some ((ν [Ω [Δ xs2,bv b1,Δ xs3,bv b2],iv n1],[])))
 (br (A.not x0_3)
 (Af D (θ 64) [Ω [bv b,Δ xs1]] [] [.i,.E] λn1=>
 br (A.lt 0 n1)
 (Af D (θ 63) [bv true] [] [.t,.A,.L,.B,.L,.B,.N,.I,.N,.E] λxs2 b1 xs3 b2 n2=>
 some ((ν [Ω [Δ xs2,bv b1,Δ xs3,bv b2],iv n2],[])))
 (Af D (θ 63) [bv false] [] [.t,.A,.L,.B,.L,.B,.N,.I,.N,.E] λxs2 b1 xs3 b2 n2=>
 some ((ν [Ω [Δ xs2,bv b1,Δ xs3,bv b2],iv n2],[]))))
 (Af D (θ 63) [bv false] [] [.t,.A,.L,.B,.L,.B,.N,.I,.N,.E] λxs2 b1 xs3 b2 n1=>
 some ((ν [Ω [Δ xs2,bv b1,Δ xs3,bv b2],iv n1],[])))))
 (br (A.not x0_3)
 (Af D (θ 65) [Ω [Δ xs,bv b,Δ xs1]] [] [.t,.A,.L,.B,.L,.N,.A,.B,.L,.N,.N,.E] λxs2 b1 xs3 _ _=>
 some ((ν [Ω [Δ xs2,bv b1,Δ xs3,bv false],iv 0],[])))
 (Af D (θ 67) [Ω [Δ xs,bv b,Δ xs1]] [] [.a,.B,.L,.N,.E] λb1 xs2=>
 Af D (θ 66) [Ω [bv b,Δ xs1],Ω [bv b1,Δ xs2]] [] [.t,.A,.B,.L,.N,.A,.B,.L,.N,.I,.N,.E] λ_ _ b3 xs4 _=>
 Af D (θ 64) [Ω [bv b3,Δ xs4]] [] [.i,.E] λn1=>
 br (A.eq n1 0)
 (Af D (θ 65) [Ω [Δ xs,bv b,Δ xs1]] [] [.t,.A,.L,.B,.L,.N,.A,.B,.L,.N,.N,.E] λxs5 b4 xs6 _ _=>
 Bl xs5 0 λcs8=>
 dk [.I,.B,.L,.N] [.l cs8] λ_ b6 xs8=>
 Af D (θ 64) [Ω [bv b6,Δ xs8]] [] [.i,.E] λn3=>
 br (A.lt n3 0)
 (Af D (θ 68) [Ω [Δ xs5,bv b4,Δ xs6]] [] [.a,.L,.B,.L,.N,.E] λxs9 b7 xs10=>
 some ((ν [Ω [Δ xs9,bv b7,Δ xs10,bv true],iv 0],[])))
 (some ((ν [Ω [Δ xs5,bv b4,Δ xs6,bv true],iv 0],[]))))
 (Af D (θ 63) [bv false] [] [.t,.A,.L,.B,.L,.B,.N,.I,.N,.E] λxs5 b4 xs6 b5 n2=>
 some ((ν [Ω [Δ xs5,bv b4,Δ xs6,bv b5],iv n2],[]))))):=by kernel_rfl
end
structure TiF (D:Orc):Prop where
 plain:∀{n k:Nat} {t:Tm},TmB n k t->n<=1000000->k+n<=300000000->D.ask (.fn 62) [.agg (eT t)] []=some (.agg (eT t.lf.pln.tm),[])
 content:∀{n k:Nat} {t:Tm},TmB n k t->n<=1000000->k+n<=300000000->D.ask (.fn 67) [.agg (eT t)] []=some (.agg (eZ (Az (CB t:Int))),[])
 shrink:∀{n k:Nat} {t:Tm},TmB n k t->n<=1000000->k+n<=300000000->D.ask (.fn 65) [.agg (eT t)] []=some (.tup [.agg (eT (EJ t)),.agg (eZ (Az (CB t:Int)))],[])
 neg:∀{n k:Nat} {t:Tm},TmB n k t->n<=1000000->k+n<=300000000->D.ask (.fn 68) [.agg (eT t)] []=some (.agg (eT (t.lf.scale (-1)).tm),[])
section
variable {D:Orc} (Kt:Knows As RJ D) (Z:ZF D) (W:ZdF D) (T:TiF D)
include Kt
theorem QY(b:Bool):D.ask (.fn 63) [bv b] []=some (.tup [.agg (Dt zrR),iv (if b=true then 1 else -1)],[]):=by
 refine Kt.fn' Aj6 _ rfl ((e63 ..).trans ?_)
 cases b<;>rfl
include Z W T
theorem ZM{n k:Nat}{t:Tm}(ht:TmB n k t)(hn:n<=1000000)(hk1:1<=k)(hk:k+3*n<=100000000)(eq:Bool):D.ask (.fn 17) [.agg (Dt (t,eq))] []
  = some (.tup [.agg (Dt (NG t.lf.pln.tm eq).1),iv (NG t.lf.pln.tm eq).2],[]):=by
 have gp:=T.plain ht hn (by omega);have hp:=ht.lb.pln.tb;have hc:t.lf.pln.tm.ps≠[]->CB t.lf.pln.tm≠0:=TE;have k1:=QY Kt true;have k0:=QY Kt false;refine Kt.fn' AjV _ rfl ((e17 ..).trans ?_);refine Aa gp ?_;generalize t.lf.pln.tm=p at *;have gs:=Z.sign p.k (hp.k.mono (by omega));simp only[eT,eN,ND,DK,Ab];simp only[Aj];unfold NG
 by_cases h0:p.ps=[]
 .rw[if_pos h0,h0]
  refine Bi (by decide) ?_;refine Aa gs ?_;simp only[CG,AD,DK]
  by_cases hz:zv p.k=0
  .rw[if_pos (.inl hz)]
   refine Bi ((KI _).2 hz) ?_;refine Aa k1 ?_;rfl
  .refine AK (λh=>hz ((KI _).1 h)) ?_
   cases eq with
   |true=>
    refine B8 ?_;rw[if_neg (λh=>h.elim hz λh=>by cases h.1)];refine Aa k0 ?_;rfl
   |false=>
    refine Ae ?_;refine Aa gs ?_;simp only[CG,AD,DK]
    by_cases hpz:0<zv p.k
    .rw[if_pos (.inr ⟨by trivial,hpz⟩)]
     refine Aq ((UH _).2 hpz) ?_;refine Aa k1 ?_;rfl
    .rw[if_neg (λh=>h.elim hz λh=>hpz h.2)]
     refine Ak (λh=>hpz ((UH _).1 h)) ?_;refine Aa k0 ?_;rfl
 .have hc:=hc h0
  have hpl:p.ps.length≠0:=λh=>h0 (Apr h)
  rw[if_neg h0];refine AK (by omega) ?_;have hci:=O1 hp;have gc:=T.content hp hn (by omega);have gd:=W.div p.k (Az (CB p:Int)) (hp.k.mono (by omega)) (hci.lz.mono (by omega));rw[AU,if_neg (by omega)]at gd;have gh:=T.shrink hp hn (by omega);simp only[eT,eN]at gc gh
  cases eq with
  |false=>
   rw[if_neg (by decide)];refine Ae ?_;refine Aa gh ?_;rfl
  |true=>
   rw[if_pos rfl];refine B8 ?_;refine Aa gc ?_;simp only[eZ,eN,B3,A9,BS,Bg,BE,CW,AY,AD,DK];refine Aa gd ?_;simp only[eZ,eN,B3,A9,BS,Bg,BE,CW,AY,AD,DK];have hri:InB 300000001 (rZ (zv p.k) (CB p:Int)):=by
    unfold rZ;split
    .exact((Kj hci (by omega) _ _).mono (by omega)).add (hci.mono (by omega))
    .exact(Kj hci (by omega) _ _).mono (by omega)
   have gr:=Z.sign (Az (rZ (zv p.k) (CB p:Int))) (hri.lz.mono (by omega));rw[AU]at gr;refine Aa gr ?_;simp only[CG,AD,DK]
   by_cases hr:rZ (zv p.k) (CB p:Int)=0
   .rw[if_pos hr]
    refine Bi ((KI _).2 hr) ?_;refine Aa gh ?_;have hst:=Tj hp (show 1<=k+n by omega);have hne:(EJ p).ps≠[]:=by
     unfold EJ;rw[if_neg hc];intro h1;have h2:A8 p.lf.ps=[]:=Ash.1 h1;apply hc;unfold CB;rw[h2];rfl
    have gsc:=T.neg hst hn (by omega);revert gsc hne;have hq1:∀ q∈(EJ p).ps,Lz 1000000000 q.z:=λq hq=>(hst.ps q hq).mono (by omega)
    revert hq1;generalize EJ p=S;obtain⟨sp,sk⟩:=S
    cases sp with
    |nil=>intro _ h;exact absurd rfl h
    |cons q sp=>
     intro hq1 _ gsc;have gq:=Z.sign q.z (hq1 q (Apn ..));simp only[eZ,eN,B3,A9,BS,Bg,BE,CW,AY,AD,DK];rw[Aw (show (q::sp)[0]? = some q from rfl)];simp only[eP,eN,B3,A9,BS,Bg,BE,CW,AY,AD,DK];refine Aa gq ?_;simp only[CG,AD,DK]
     show _=some (ν [.agg (Dt (if zv q.z<0 then _ else _,true)),iv 0],[])
     by_cases hs:zv q.z<0
     .rw[if_pos hs]
      refine Aq ((UG _).2 hs) ?_;refine Aa gsc ?_;rfl
     .rw[if_neg hs]
      exact CA (λh=>hs ((UG _).1 h))
   .rw[if_neg hr]
    refine AK (λh=>hr ((KI _).1 h)) ?_;refine Aa k0 ?_;rfl
end
end
end Go.Proofs.YtpncilciembjdaaGreatDoor
