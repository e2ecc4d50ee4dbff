/- Functions of the program -/
import Derived.Test.YtmbfbclboenajaaGreatFAY
set_option linter.all false
open Bool renaming false->Φ,true->Δ,true_and->Atr
open Int renaming zero_add->AuS
open List renaming all_cons->AtJ,append_assoc->AqY,append_nil->ArB,drop->AqT,drop_eq_getElem_cons->κ,drop_eq_nil_of_le->AqX,drop_zero->AqQ,eq_nil_of_length_eq_zero->Arn,flatten_cons->Ar5,getElem?_eq_getElem->ξ,getElem_mem->Arc,length_append->υ,map_append->Atb,map_congr_left->Ar4,map_cons->Aq8,map_eq_nil_iff->Asj,map_map->Asa,map_nil->ArV,mem_append->Arr,mem_cons_self->AqS,mem_map->Arj,nil_append->Aq4,singleton_append->ArI,take->ε
open Nat renaming ble->AqZ,le_refl->π
open Option renaming none->Ξ,some->Θ
namespace Go.Proofs.YtmbfbclboenajaaGreat
noncomputable section
open ABlk renaming mk->θ
open AV renaming agg->φ,fn->Arb,ls->Ψ,ptr->η,sl->χ,tup->γ,v->Aq0
open BO renaming set->AqV
open IntKind renaming i64->δ
open Key renaming fn->ω,lp->ι
section
open Go.RowKit
def QI:MFn:=BI [⟨36,(mB 3593),[],[],[(1,((mB 9),([],[])))]⟩,⟨36,(mB 234881088),[(6,3)],[],[(3,((mB 64),([],[])))]⟩] 115
def MH:Hnt:=⟨[(138,(.sl 0 3,[.row Δ]))],[(0,[(1,([.ls,.int .i64],[]))]),(1,[(3,([.sl 1 3],[.del,.row Δ]))])],[(13,[.ls]),(14,[.ls]),(29,[.ls]),(30,[.ls])]⟩
def AmY:MFn:=BI [] 36
def AlG:Hnt:=⟨[(62,(.agg Ay,[]))],[],[(3,Ay)]⟩
def Anq:MFn:=BI [] 76
def Al7:Hnt:=⟨[(26,(.agg Bl,[])),(63,(.agg Ay,[])),(115,(.ls,[]))],[],[(6,[.ls]),(8,[.ls]),(12,Ay),(14,Ay)]⟩
def AmW:MFn:=BI [] 34
def AlE:Hnt:=⟨[(73,(.agg Ay,[])),(75,(.agg Bl,[]))],[],[(3,Bl)]⟩
def Afy:MFn:=BI [⟨35,(mB 114744),[(1000005,3)],[3,4],[(1,((mB 48),([],[3])))]⟩] 75
def Ab6:Hnt:=⟨[(26,(.agg Bl,[])),(114,(.agg Ay,[]))],[(0,[(1,([.ptr 1 0,.ptr 2 0],[.del,.box Bl,.box [.sl 4 3,.bool,.ls],.del,.row Δ]))])],[(9,Ay),(10,Ay),(14,[.ls]),(18,Br),(19,Br),(21,[.ls]),(23,[.int .i64]),(25,Ay),(26,Ay),(33,Bl)]⟩
def AmX:MFn:=BI [] 35
def AlF:Hnt:=⟨[(34,(.agg Bl,[])),(76,(.agg Bl,[]))],[],[(5,Bl),(6,Bl)]⟩
def Am3:MFn:=BI [] 42
def AlL:Hnt:=⟨[(26,(.agg Bl,[]))],[],[(3,Bl)]⟩
def mf9:MFn:=BI [] 9
def hn9:Hnt:=⟨[(26,(.agg Bl,[]))],[],[(3,Bl)]⟩
def Lh:List (Nat × MFn):=[(115,QI),(36,AmY),(76,Anq),(34,AmW),(75,Afy),(35,AmX),(42,Am3),(9,mf9)]
variable (A:Ar) (D:Orc)
theorem AoG(x0:Rw):BN A D Al MH .n 115 QI [Ψ x0] [] =
 Ae D (ι 115 0) [Ψ x0,iv 0,Ψ x0,iv ↑(AL x0),iv 0] [] [.t,.C,.x,.X,.Y] λc l o=>
 br (Bm 1 c)
 (dk [.L,.I,.N,.E] [.l l,.o o] λxs n=>
 Ae D (ω 138) [Aq0 (Value.slice Ξ 0 0),iv n] [] [.q 0 3,.R,.X,.E] λn1 cs1=>
 Ae D (ι 115 1) [χ 0 0 n1 3,Ψ xs,iv ↑(AL xs),iv 0] [θ cs1 Δ Δ] [.t,.C,.x,.X,.Y] λc2 l4 o2=>
 br (Bm 3 c2)
 (dk [.C,.q 1 3,.N,.D,.R,.X,.E] [.l l4,.o o2] λn2 cs3=>
 br ((0+n2*3).ble cs3.length) (Θ ((Ψ (Bi n2 3 (ε (n2*3) cs3)),[]))) Ξ)
 (Ξ))
 (Ξ):=by kernel_rfl
theorem Abj(t0:Rw)(t3:Int)(t9:Rw)(t10 t11:Int):CS A D Al MH .n 115 0 (AJ QI 0).fst (AJ QI 0).snd [Ψ t0,iv t3,Ψ t9,iv t10,iv t11] [] =
 br (A.lt t11 t10)
 (unI t11 λi=>
 Bj t9 i λcs=>
 dk [.L,.N] [.l cs] λxs=>
 br (A.lt (A.add δ t3 ↑(AL xs)) 0)
 (Ξ)
 (AA D (ι 115 0) [Ψ t0,iv (A.add δ t3 ↑(AL xs)),Ψ t9,iv t10,iv (A.add δ t11 1)] [] λr o=>
 As 0 [] (AH.mk [] 0 Ξ) [] r o))
 (Θ ((γ [iv 0,Ψ t0,iv t3],[]))):=by kernel_rfl
theorem Abk(n6:Nat)(c6:List AV)(t25:Rw)(t26 t27:Int):CS A D Al MH .n 115 1 (AJ QI 1).fst (AJ QI 1).snd [χ 0 0 n6 3,Ψ t25,iv t26,iv t27] [{ cells:=c6,st:=Δ,ex:=Δ }] =
 br (A.lt t27 t26)
 (unI t27 λi=>
 Bj t25 i λcs=>
 dk [.L,.N] [.l cs] λxs=>
 br (GF 3 xs) (br ((AL xs).beq 0)
 (AA D (ι 115 1) [χ 0 0 n6 3,Ψ t25,iv t26,iv (A.add δ t27 1)] [θ c6 Δ Δ] λr o=>
 As 1 [0] (AH.mk [(0,θ c6 Δ Δ)] 1 Ξ) [] r o)
 (br (Ih (I1 xs)) (br (AZ (n6+AL xs) 40) (br ((0+n6*3).ble c6.length) (AA D (ι 115 1) [χ 0 0 (n6+AL xs) 3,Ψ t25,iv t26,iv (A.add δ t27 1)] [θ (AqT 0 (ε (0+n6*3) c6)++I1 xs) Δ Δ] λr o=>
 As 1 [1] (AH.mk [(1,θ (AqT 0 (ε (0+n6*3) c6)++I1 xs) Δ Δ)] 2 Ξ) [0] r o) Ξ) Ξ) Ξ)) Ξ)
 (Θ ((γ [iv 2,χ 1 0 n6 3],[BO.del,AqV (θ c6 Δ Δ)]))):=by kernel_rfl
theorem e36(x0_0:Bool)(x0_1:Rw):BN A D Al AlG .n 36 AmY [φ [bv x0_0,Ψ x0_1]] [] =
 Ae D (ω 62) [φ [bv x0_0,Ψ x0_1]] [] [.a,.B,.L,.N,.E] λb xs=>
 Θ ((φ [Ψ [],bv b,Ψ xs],[])):=by kernel_rfl
theorem e76(x0_0:Rw)(x0_1:Bool)(x0_2 x1_0:Rw)(x1_1:Bool)(x1_2:Rw):BN A D Al Al7 .n 76 Anq [φ [Ψ x0_0,bv x0_1,Ψ x0_2],φ [Ψ x1_0,bv x1_1,Ψ x1_2]] [] =
 Ae D (ω 115) [Ψ [[Ψ x0_0],[Ψ x1_0]]] [] [.l,.E] λxs=>
 Ae D (ω 63) [φ [bv x0_1,Ψ x0_2],φ [bv x1_1,Ψ x1_2]] [] [.a,.B,.L,.N,.E] λb xs1=>
 Ae D (ω 26) [φ [Ψ xs,bv b,Ψ xs1]] [] [.a,.L,.B,.L,.N,.E] λxs2 b1 xs3=>
 Θ ((φ [Ψ xs2,bv b1,Ψ xs3],[])):=by kernel_rfl
theorem e34(x0_0:Rw)(x0_1:Bool)(x0_2:Rw):BN A D Al AlE .n 34 AmW [φ [Ψ x0_0,bv x0_1,Ψ x0_2]] [] =
 Ae D (ω 73) [iv (-1)] [] [.a,.B,.L,.N,.E] λb xs=>
 Ae D (ω 75) [φ [Ψ x0_0,bv x0_1,Ψ x0_2],φ [bv b,Ψ xs]] [] [.a,.L,.B,.L,.N,.E] λxs1 b1 xs2=>
 Θ ((φ [Ψ xs1,bv b1,Ψ xs2],[])):=by kernel_rfl
theorem e75(x0_0:Rw)(x0_1:Bool)(x0_2:Rw)(x1_0:Bool)(x1_1:Rw):BN A D Al Ab6 .n 75 Afy [φ [Ψ x0_0,bv x0_1,Ψ x0_2],φ [bv x1_0,Ψ x1_1]] [] =
 Ae D (ω 114) [φ [bv x0_1,Ψ x0_2],φ [bv x1_0,Ψ x1_1]] [] [.a,.B,.L,.N,.E] λb xs=>
 Ae D (ι 75 0) [η 0 0,η 1 0,η 2 0,Ψ x0_0,iv ↑(AL x0_0),iv 0] [bk [bv x1_0,Ψ x1_1],bk [Ψ [],bv Φ,Ψ []],bk [χ 3 0 0 3,bv b,Ψ xs],θ [] Δ Δ] [.t,.C,.x,.X,.Y] λc l2 o1=>
 br (Bm 1 c)
 (dk [.P 1 0,.P 2 0,.N,.D,.T,.L,.B,.L,.N,.T,.C,.q 4 3,.B,.L,.N,.D,.R,.X,.E] [.l l2,.o o1] λ_ _ _ n b2 xs3 cs4=>
 br ((0+n*3).ble cs4.length) (AA D (ω 26) [φ [Ψ (Bi n 3 (ε (n*3) cs4)),bv b2,Ψ xs3]] [] λr2 o2=>
 dk [.a,.L,.B,.L,.N,.E] [.v r2,.o o2] λxs4 b3 xs5=>
 Θ ((φ [Ψ xs4,bv b3,Ψ xs5],[]))) Ξ)
 (Ξ):=by kernel_rfl
theorem Ahq(i0:Bool)(i1 r0:Rw)(r1:Bool)(r2:Rw)(n5:Nat)(k1:Bool)(k2:Rw)(c5:List AV)(t14:Rw)(t15 t16:Int):CS A D Al Ab6 .n 75 0 (AJ Afy 0).fst (AJ Afy 0).snd [η 0 0,η 1 0,η 2 0,Ψ t14,iv t15,iv t16] [bk [bv i0,Ψ i1],bk [Ψ r0,bv r1,Ψ r2],bk [χ 3 0 n5 3,bv k1,Ψ k2],{ cells:=c5,st:=Δ,ex:=Δ }] =
 br (A.lt t16 t15)
 (unI t16 λi=>
 Bj t14 i λcs=>
 dk [.I,.B,.L,.N] [.l cs] λn b xs=>
 Ae D (ω 114) [φ [bv b,Ψ xs],φ [bv i0,Ψ i1]] [] [.a,.B,.L,.N,.E] λb1 xs1=>
 br (AZ (n5+1) 40) (br ((0+n5*3).ble c5.length) (AA D (ι 75 0) [η 0 0,η 1 0,η 2 0,Ψ t14,iv t15,iv (A.add δ t16 1)] [bk [bv i0,Ψ i1],bk [Ψ r0,bv r1,Ψ r2],bk [χ 3 0 (n5+1) 3,bv k1,Ψ k2],θ (AqT 0 (ε (0+n5*3) c5)++[iv n,bv b1,Ψ xs1]) Δ Δ] λr3 o1=>
 As 4 [0,1,2,6] (AH.mk [(1,bk [Ψ r0,bv r1,Ψ r2]),(0,bk [bv i0,Ψ i1]),(2,bk [χ 6 0 (n5+1) 3,bv k1,Ψ k2]),(6,θ (AqT 0 (ε (0+n5*3) c5)++[iv n,bv b1,Ψ xs1]) Δ Δ),(5,θ [iv n,bv b1,Ψ xs1] Δ Δ),(4,bk [iv n,bv b,Ψ xs])] 7 Ξ) [3,2,0,1] r3 o1) Ξ) Ξ)
 (Θ ((γ [iv 0,η 1 0,η 2 0],[BO.del,AqV (bk [Ψ r0,bv r1,Ψ r2]),AqV (bk [χ 4 0 n5 3,bv k1,Ψ k2]),BO.del,AqV (θ c5 Δ Δ)]))):=by kernel_rfl
theorem e35(x0_0:Rw)(x0_1:Bool)(x0_2 x1_0:Rw)(x1_1:Bool)(x1_2:Rw):BN A D Al AlF .n 35 AmX [φ [Ψ x0_0,bv x0_1,Ψ x0_2],φ [Ψ x1_0,bv x1_1,Ψ x1_2]] [] =
 Ae D (ω 34) [φ [Ψ x1_0,bv x1_1,Ψ x1_2]] [] [.a,.L,.B,.L,.N,.E] λxs b xs1=>
 Ae D (ω 76) [φ [Ψ x0_0,bv x0_1,Ψ x0_2],φ [Ψ xs,bv b,Ψ xs1]] [] [.a,.L,.B,.L,.N,.E] λxs2 b1 xs3=>
 Θ ((φ [Ψ xs2,bv b1,Ψ xs3],[])):=by kernel_rfl
theorem e42(x0_0:Rw)(x0_1:Bool)(x0_2:Rw):BN A D Al AlL .n 42 Am3 [φ [Ψ x0_0,bv x0_1,Ψ x0_2]] [] =
 Ae D (ω 26) [φ [Ψ x0_0,bv x0_1,Ψ x0_2]] [] [.a,.L,.B,.L,.N,.E] λxs b xs1=>
 Θ ((φ [Ψ xs,bv b,Ψ xs1,bv Δ],[])):=by kernel_rfl
theorem e9(x0_0:Rw)(x0_1:Bool)(x0_2:Rw):BN A D Al hn9 .n 9 mf9 [φ [Ψ x0_0,bv x0_1,Ψ x0_2]] [] =
 Ae D (ω 26) [φ [Ψ x0_0,bv x0_1,Ψ x0_2]] [] [.a,.L,.B,.L,.N,.E] λxs b xs1=>
 Θ ((φ [Ψ xs,bv b,Ψ xs1,bv Φ],[])):=by kernel_rfl
end
open Go.RowKit
def eR(r:List Pt):List AV:=[.ls (r.map eP)]
theorem WE(p:Pt):Ih (eP p)=Δ:=rfl
def Q0(x:Zi)(p:Pt):Pt:=⟨p.v,Aq (zv p.z*zv x)⟩
theorem AiI{a b:Nat}(h:a+b<4611686018427387904):Af.add .i64 (a:Int) (b:Int)=((a+b:Nat):Int):=by
 rw[EJ (by omega) (by omega)];omega
section
variable {D:Orc} (Kt:Knows Al FP D) (Kf:Knows Al Lh D) (Ks:Knows Al Ed D) (Z:ZF D) (C:PartF D)
include Kf
theorem AiU(rs:List (List Pt))(X:List (List AV))(hr:rs.length<=1000000):∀(m i s:Nat),rs.length-i=m->i<=rs.length->s+(rs.drop i).flatten.length<=1000000000->
  D.ask (.lp 115 0) [.ls X,iv (s:Int),.ls (rs.map eR),iv (rs.length:Int),iv (i:Int)] []=Θ (.tup [iv 0,.ls X,iv ((s+(rs.drop i).flatten.length:Nat):Int)],[]):=by
 intro m
 induction m with
 |zero=>
  intro i s hm hi hs;rw[AqX (by omega)];refine Au Kf MH (Abj ..) ?_;exact Ag rfl
 |succ m ih=>
  intro i s hm hi hs;have h1:i<rs.length:=by omega
  rw[κ h1,Ar5,υ]at hs ⊢;have ih:=ih (i+1) (s+rs[i].length) (by omega) (by omega) (by omega);rw[show s+rs[i].length+(rs.drop (i+1)).flatten.length=s+(rs[i].length+(rs.drop (i+1)).flatten.length) by omega]at ih;refine Au Kf MH (Abj ..) ?_;refine Aj ?_;rw[Av,At (ξ h1)];simp only[eR,ND,DK,Ab];rw[Ak,AiI (by omega),BA (by omega)];refine Ag ?_;refine Aa ih ?_;rfl
theorem AiV(rs:List (List Pt))(hr:rs.length<=1000000):∀(m i:Nat) (out:List Pt),rs.length-i=m->i<=rs.length->out.length+(rs.drop i).flatten.length<=1000000000->
  D.ask (.lp 115 1) [.sl 0 0 out.length 3,.ls (rs.map eR),iv (rs.length:Int),iv (i:Int)] [EB out]=Θ (.tup [iv 2,.sl 1 0 (out++(rs.drop i).flatten).length 3],[.del,.set (EB (out++(rs.drop i).flatten))]):=by
 intro m
 induction m with
 |zero=>
  intro i out hm hi hs;rw[AqX (by omega),List.flatten_nil,ArB];refine Au Kf MH (Abk ..) ?_;exact Ag rfl
 |succ m ih=>
  intro i out hm hi hs;have h1:i<rs.length:=by omega
  rw[κ h1,Ar5]at hs ⊢;rw[υ]at hs;have ih:=ih (i+1) (out++rs[i]) (by omega) (by omega) (by rw[υ];omega);rw[AqY]at ih;refine Au Kf MH (Abk ..) ?_;refine Aj ?_;rw[Av,At (ξ h1)];revert hs ih;generalize rs[i]=r;intro hs ih;simp only[eR,ND,DK,Ab];rw[My Ax,Ak,BA (by omega)];refine Ac ?_
  by_cases h0:r=[]
  .subst h0
   rw[ArB]at ih;rw[Aq4]at ih ⊢;refine Ac ?_;refine Aa ih ?_;rfl
  .have hz:Nat.beq r.length 0=Φ:=by
    cases r with
    |nil=>exact absurd rfl h0
    |cons x r=>rfl
   rw[hz];refine Ba ?_;rw[Ff,Ii WE];refine Ac ?_;rw[AG (n:=out.length+r.length) (b:=40) (by omega) (by omega)];refine Ac ?_;rw[show AqZ (0+out.length*3) (Ah eP out).length=Δ from AF Ax out (by omega)];refine Ac ?_;have e3:AqT 0 (ε (0+out.length*3) (Ah eP out))++Ah eP r=Ah eP (out++r):=by
    rw[AqQ,Be Ax out (by omega)];simp[Ah]
   rw[e3];rw[show (out++r).length=out.length+r.length from υ]at ih;refine Aa ih ?_;rfl
include C in
theorem Y1(a b:List Pt)(h:a.length+b.length<=1000000):D.ask (.fn 115) [.ls [[.ls (a.map eP)],[.ls (b.map eP)]]] []=Θ (.ls ((a++b).map eP),[]):=by
 have hf:([a,b]).flatten=a++b:=by simp
 have g0:=AiU Kf [a,b] (([a,b]).map eR) (by simp) _ 0 0 rfl (by simp) (by rw[AqQ,hf,υ];omega);rw[AqQ,hf,Nat.zero_add]at g0;have gg:=C.grow (a++b).length (by rw[υ];omega);have g1:=AiV Kf [a,b] (by simp) _ 0 [] rfl (by simp) (by rw[AqQ,hf,υ];simp;omega);rw[AqQ,hf,Aq4]at g1;refine AB Kf MH (AoG ..) ?_;refine Aa g0 ?_;simp only[ND,DK,Ab];refine Aa gg ?_;simp only[ND,DK,Ab];refine Aa g1 ?_;simp only[ND,DK,Ab];rw[show AqZ (0+(a++b).length*3) (Ah eP (a++b)).length=Δ from AF Ax (a++b) (by omega)];refine Ac ?_;rw[Bp Ax (a++b) rfl];rfl
include Kt Ks Z C
theorem AiJ{n m k:Nat}{a b:Tm}(ha:TmB n k a)(hb:TmB m k b)(hn:n+m<=1000000)(hk:k+1+(n+m)<=900000000):D.ask (.fn 76) [.agg (eT a),.agg (eT b)] []=Θ (.agg (eT (a.lf.add b.lf).tm),[]):=by
 obtain⟨ap,ak⟩:=a;obtain⟨bp,bk⟩:=b;have l1:ap.length<=n:=ha.len;have l2:bp.length<=m:=hb.len;have gc:=Y1 Kf C ap bp (by omega);have ga:=Z.add ak bk (ha.k.mono (by omega)) (hb.k.mono (by omega));have hT:TmB (n+m) (k+1) ⟨ap++bp,Aq (zv ak+zv bk)⟩:=by
  refine⟨by simp;omega,λp hp=>?_,?_⟩
  .rcases Arr.1 hp with h|h
   .exact(ha.ps p h).mono (by omega)
   .exact(hb.ps p h).mono (by omega)
  .exact(InB.add ha.k.inb hb.k.inb).lz
 have gp:=EI Kt Ks Z C hT hn (by omega);have el:(⟨ap++bp,Aq (zv ak+zv bk)⟩:Tm).lf.pln=Lf.add (Tm.lf ⟨ap,ak⟩) (Tm.lf ⟨bp,bk⟩):=by
  unfold Lf.add Tm.lf;simp only[Atb,AE]
 rw[el]at gp;refine AB Kf Al7 (e76 ..) ?_;refine Aa gc ?_;simp only[ND,DK,Ab];refine Aa ga ?_;simp only[eZ,eN,ND,DK,Ab];refine Aa gp ?_;rfl
omit Kt Ks C in
theorem AdI{k j:Nat}{x:Zi}(hx:Lz j x)(hx24:x.abs.length<24)(ps:List Pt)(hl:ps.length<=1000000)(hz:∀ p∈ps,Lz k p.z)(hk:k<=400000000)(hj:j<=400000000)(r0:List (List AV))(r1:Bool)(r2:List (List AV))(k1:Bool)(k2:List (List AV)):∀(m i:Nat) (out:List Pt),ps.length-i=m->i<=ps.length->out.length<=i->
  D.ask (.lp 75 0) [.ptr 0 0,.ptr 1 0,.ptr 2 0,.ls (ps.map eP),iv (ps.length:Int),iv (i:Int)] [⟨eZ x,Δ,Φ⟩,⟨[.ls r0,bv r1,.ls r2],Δ,Φ⟩,⟨[.sl 3 0 out.length 3,bv k1,.ls k2],Δ,Φ⟩,EB out]
   = Θ (.tup [iv 0,.ptr 1 0,.ptr 2 0],[.del,.set ⟨[.ls r0,bv r1,.ls r2],Δ,Φ⟩,.set ⟨[.sl 4 0 (out++(ps.drop i).map (Q0 x)).length 3,bv k1,.ls k2],Δ,Φ⟩,.del,.set (EB (out++(ps.drop i).map (Q0 x)))]):=by
 intro m
 induction m with
 |zero=>
  intro i out hm hi ho;rw[AqX (by omega),ArV,ArB];refine Au Kf Ab6 (Ahq ..) ?_;exact Ag rfl
 |succ m ih=>
  intro i out hm hi ho;have h1:i<ps.length:=by omega
  have hzk:=hz ps[i] (Arc h1);have gm:=Z.mul ps[i].z x (hzk.mono (by omega)) (hx.mono (by omega)) (.inr hx24);rw[κ h1,Aq8];have ih:=ih (i+1) (out++[Q0 x ps[i]]) (by omega) (by omega) (by simp;omega);rw[AqY,ArI,show (out++[Q0 x ps[i]]).length=out.length+1 by simp]at ih;have hf:AZ (out.length+1) 40=Δ:=AG (by omega) (by omega);have hb1:AqZ (0+out.length*3) (Ah eP out).length=Δ:=AF Ax out (by omega);have e3:AqT 0 (ε (0+out.length*3) (Ah eP out))++[iv ps[i].v,bv (Aq (zv ps[i].z*zv x)).neg,eN (Aq (zv ps[i].z*zv x)).abs]=Ah eP (out++[Q0 x ps[i]]):=by
   rw[AqQ,Be Ax out (by omega)];exact Bb eP out (Q0 x ps[i])
  obtain⟨xn,xa⟩:=x;refine Au Kf Ab6 (Ahq ..) ?_;refine Aj ?_;rw[Av,At (ξ h1)];simp only[eP,eN,ND,DK,Ab];refine Aa gm ?_;simp only[eZ,eN,ND,DK,Ab]at e3 ⊢;rw[hf];refine Ac ?_;rw[hb1];refine Ac ?_;rw[e3,BA (by omega)];refine Aa ih ?_;rfl
theorem AdJ{n k j:Nat}{a:Tm}{x:Zi}(ha:TmB n k a)(hx:Lz j x)(hx24:x.abs.length<24)(hn:n<=1000000)(hj:j<=23)(hk:k+j+n<=400000000):D.ask (.fn 75) [.agg (eT a),.agg (eZ x)] []=Θ (.agg (eT (a.lf.scale (zv x)).tm),[]):=by
 obtain⟨ap,ak⟩:=a;have l1:ap.length<=n:=ha.len;have gm:=Z.mul ak x (ha.k.mono (by omega)) (hx.mono (by omega)) (.inr hx24);have gl:=AdI Kf Z hx hx24 ap (by omega) ha.ps (by omega) (by omega) [] Φ [] (Aq (zv ak*zv x)).neg ((Aq (zv ak*zv x)).abs.map eL) _ 0 [] rfl (by omega) (by simp);rw[AqQ,Aq4]at gl;have hT:TmB n (k+j) ⟨ap.map (Q0 x),Aq (zv ak*zv x)⟩:=by
  refine⟨by simpa using l1,λp hp=>?_,(InB.mul ha.k.inb hx.inb).lz⟩;rw[Arj]at hp;obtain⟨q,hq,rfl⟩:=hp;exact(InB.mul (ha.ps q hq).inb hx.inb).lz
 have gp:=EI Kt Ks Z C hT hn (by omega);have el:(⟨ap.map (Q0 x),Aq (zv ak*zv x)⟩:Tm).lf.pln=Lf.scale (Tm.lf ⟨ap,ak⟩) (zv x):=by
  unfold Lf.scale Tm.lf;simp only[Asa,AE]
  congr 2
  refine Ar4 λp _=>?_
  show ((p.v,zv (Aq (zv p.z*zv x))):Int × Int)=_
  rw[AE];rfl
 rw[el]at gp;obtain⟨xn,xa⟩:=x;refine AB Kf Ab6 (e75 ..) ?_;refine Aa gm ?_;simp only[eZ,eN,ND,DK,Ab,Ak];refine Aa gl ?_;simp only[ND,DK,Ab];rw[show AqZ (0+(ap.map (Q0 ⟨xn,xa⟩)).length*3) (Ah eP (ap.map (Q0 ⟨xn,xa⟩))).length=Δ from AF Ax _ (by omega)];refine Ac ?_;rw[Bp Ax _ rfl];refine Aa gp ?_;rfl
theorem Wz{n k:Nat}{a:Tm}(ha:TmB n k a)(hn:n<=1000000)(hk:k+1+n<=400000000):D.ask (.fn 34) [.agg (eT a)] []=Θ (.agg (eT (a.lf.scale (-1)).tm),[]):=by
 have g1:=Z.of_ (-1) (by omega) (by omega);have hx:Lz 1 (Aq (-1)):=InB.lz (by unfold InB;decide);have g2:=AdJ Kt Kf Ks Z C ha hx (by have:=hx.len;omega) hn (by omega) hk;rw[AE]at g2;refine AB Kf AlE (e34 ..) ?_;refine Aa g1 ?_;simp only[eZ,eN,ND,DK,Ab];refine Aa g2 ?_;rfl
theorem W1{n m k:Nat}{a b:Tm}(ha:TmB n k a)(hb:TmB m k b)(hn:n+m<=1000000)(hk:k+2+2*(n+m)<=400000000):D.ask (.fn 35) [.agg (eT a),.agg (eT b)] []=Θ (.agg (eT (a.lf.sub b.lf).tm),[]):=by
 have g1:=Wz Kt Kf Ks Z C hb (by omega) (by omega);have hn1:LB m (k+1+m) (b.lf.scale (-1)):=hb.lb.scale (by unfold InB;decide);have g2:=AiJ Kt Kf Ks Z C (ha.mono (π _) (show k<=k+1+m by omega)) hn1.tb hn (by omega);rw[BE]at g2;refine AB Kf AlF (e35 ..) ?_;refine Aa g1 ?_;simp only[eT,eN,ND,DK,Ab];refine Aa g2 ?_;rfl
omit Ks C in
theorem QQ{z:Zi}(hz:Lz 1000000000 z):D.ask (.fn 36) [.agg (eZ z)] []=Θ (.agg (eT (Lf.num (zv z)).tm),[]):=by
 have g:=Fh Kt Z hz;refine AB Kf AlG (e36 ..) ?_;refine Aa g ?_;rfl
theorem Ahe{n k:Nat}{t:Tm}(h:TmB n k t)(hn:n<=1000000)(hk:k+n<=900000000):D.ask (.fn 42) [.agg (eT t)] []=Θ (.agg (eT t.lf.pln.tm++[bv Δ]),[]):=by
 have g:=EI Kt Ks Z C h hn hk;refine AB Kf AlL (e42 ..) ?_;refine Aa g ?_;rfl
theorem Acy{n k:Nat}{t:Tm}(h:TmB n k t)(hn:n<=1000000)(hk:k+n<=900000000):D.ask (.fn 9) [.agg (eT t)] []=Θ (.agg (eT t.lf.pln.tm++[bv Φ]),[]):=by
 have g:=EI Kt Ks Z C h hn hk;refine AB Kf hn9 (e9 ..) ?_;refine Aa g ?_;rfl
end
inductive FB (n k:Nat):Fm->Prop
 |mk {kind:Int} {t:Tm} {e:Bool} {ks:List Fm} (ht:TmB n k t) (hl:ks.length<=1000000) (h:∀ x∈ks,FB n k x):FB n k (.mk kind t e ks)
theorem Acn{k:Int}{t:Tm}{e:Bool}{ks:List Fm}{x:Fm}(h:x∈ks):SizeOf.sizeOf x<SizeOf.sizeOf (Fm.mk k t e ks):=by
 have:=List.sizeOf_lt_of_mem h;simp only[Fm.mk.sizeOf_spec];omega
section
open Go.RowKit
def AfC:MFn:=BI [⟨36,(mB 118),[],[2,4,5],[(1,((mB 48),([],[2])))]⟩] 93
def Aca:Hnt:=⟨[(98,(.agg Ay,[]))],[(0,[(1,([.ptr 1 0,.ptr 2 0],[.del,.box Ay,.box Ay]))])],[(10,[.ls]),(16,[.ls]),(18,Br),(20,[.int .i64]),(27,Ay),(29,[.ls]),(31,Br),(33,Ay),(35,Ay)]⟩
def Hj:List (Nat × MFn):=[(93,AfC)]
variable (A:Ar) (D:Orc)
theorem e93(x0_0:Rw)(x0_1:Bool)(x0_2:Rw)(x1:Int):BN A D Al Aca .n 93 AfC [φ [Ψ x0_0,bv x0_1,Ψ x0_2],iv x1] [] =
 Ae D (ι 93 0) [iv x1,η 0 0,η 1 0,η 2 0,iv 0] [bk [Ψ x0_0,bv x0_1,Ψ x0_2],bk [bv Φ,Ψ []],bk [bv Φ,Ψ []]] [.t,.C,.x,.X,.Y] λc l o=>
 br (Bm 1 c)
 (dk [.P 1 0,.P 2 0,.N,.D,.T,.B,.L,.N,.T,.B,.L,.N,.E] [.l l,.o o] λ_ _ b1 xs1=>
 Θ ((φ [bv b1,Ψ xs1],[])))
 (Ξ):=by kernel_rfl
theorem Ahu(t1:Int)(b2_0:Rw)(b2_1:Bool)(b2_2:Rw)(b4_0:Bool)(b4_1:Rw)(b5_0:Bool)(b5_1:Rw)(t6:Int):CS A D Al Aca .n 93 0 (AJ AfC 0).fst (AJ AfC 0).snd [iv t1,η 0 0,η 1 0,η 2 0,iv t6] [bk [Ψ b2_0,bv b2_1,Ψ b2_2],bk [bv b4_0,Ψ b4_1],bk [bv b5_0,Ψ b5_1]] =
 br (A.lt t6 ↑(AL b2_0))
 (unI t6 λi=>
 Bj b2_0 i λcs=>
 dk [.I,.B,.L,.N] [.l cs] λn _ _=>
 br (A.eq n t1)
 (br (A.le 0 t1)
 (unI t6 λi1=>
 Bj b2_0 i1 λcs1=>
 dk [.I,.B,.L,.N] [.l cs1] λ_ b1 xs1=>
 Ae D (ω 98) [φ [bv b5_0,Ψ b5_1],φ [bv b1,Ψ xs1]] [] [.a,.B,.L,.N,.E] λb2 xs2=>
 AA D (ι 93 0) [iv t1,η 0 0,η 1 0,η 2 0,iv (A.add δ t6 1)] [bk [Ψ b2_0,bv b2_1,Ψ b2_2],bk [bv b4_0,Ψ b4_1],bk [bv b2,Ψ xs2]] λr1 o1=>
 As 3 [0,1,2] (AH.mk [(2,bk [bv b2,Ψ xs2]),(1,bk [bv b4_0,Ψ b4_1]),(0,bk [Ψ b2_0,bv b2_1,Ψ b2_2])] 3 Ξ) [0,1,2] r1 o1)
 (AA D (ι 93 0) [iv t1,η 0 0,η 1 0,η 2 0,iv (A.add δ t6 1)] [bk [Ψ b2_0,bv b2_1,Ψ b2_2],bk [bv b4_0,Ψ b4_1],bk [bv b5_0,Ψ b5_1]] λr o=>
 As 3 [0,1,2] (AH.mk [(2,bk [bv b5_0,Ψ b5_1]),(1,bk [bv b4_0,Ψ b4_1]),(0,bk [Ψ b2_0,bv b2_1,Ψ b2_2])] 3 Ξ) [0,1,2] r o))
 (AA D (ι 93 0) [iv t1,η 0 0,η 1 0,η 2 0,iv (A.add δ t6 1)] [bk [Ψ b2_0,bv b2_1,Ψ b2_2],bk [bv b4_0,Ψ b4_1],bk [bv b5_0,Ψ b5_1]] λr o=>
 As 3 [0,1,2] (AH.mk [(2,bk [bv b5_0,Ψ b5_1]),(1,bk [bv b4_0,Ψ b4_1]),(0,bk [Ψ b2_0,bv b2_1,Ψ b2_2])] 3 Ξ) [0,1,2] r o))
 (Θ ((γ [iv 0,η 1 0,η 2 0],[BO.del,AqV (bk [bv b4_0,Ψ b4_1]),AqV (bk [bv b5_0,Ψ b5_1])]))):=by kernel_rfl
end
theorem AdL(n:Int):BC n=0 ↔ n=0:=by
 unfold BC
 repeat' split
 all_goals omega
section
variable {D:Orc} (Kh:Knows Al Hj D) (F:RF D)
include Kh F
theorem AeP{n k:Nat}{ps:List Pt}{kz:Zi}(ht:TmB n k ⟨ps,kz⟩)(hn:n<=1000000)(hk:k+n<=400000000)(v:Int)(y0:Bool)(y1:List (List AV)):∀(m i:Nat) (acc:Int),ps.length-i=m->i<=ps.length->InB (k+i) acc->
  D.ask (.lp 93 0) [iv v,.ptr 0 0,.ptr 1 0,.ptr 2 0,iv (i:Int)] [⟨[.ls (ps.map eP),bv kz.neg,eN kz.abs],Δ,Φ⟩,⟨[bv y0,.ls y1],Δ,Φ⟩,⟨eZ (Aq acc),Δ,Φ⟩]
   = Θ (.tup [iv 0,.ptr 1 0,.ptr 2 0],[.del,.set ⟨[bv y0,.ls y1],Δ,Φ⟩,.set ⟨eZ (Aq (acc+if 0<=v then Bk v ((ps.drop i).map pv) else 0)),Δ,Φ⟩]):=by
 have hlen:ps.length<=n:=ht.len;intro m
 induction m with
 |zero=>
  intro i acc hm hi ha;rw[AqX (by omega)];have e0:acc+(if 0<=v then Bk v (([]:List Pt).map pv) else 0)=acc:=by
   rw[ArV,Bk];split<;>omega
  rw[e0];refine Au Kh Aca (Ahu ..) ?_;rw[Ak];exact Ag rfl
 |succ m ih=>
  intro i acc hm hi ha;have h1:i<ps.length:=by omega
  have hz:=ht.ps ps[i] (Arc h1);rw[κ h1,Aq8,Bk];have hn1:∀ kk,Bj (ps.map eP) i kk=kk (eP ps[i]):=λkk=>At (ξ h1) kk
  have ga:=F.add (Aq acc) ps[i].z (ha.lz.mono (by omega)) (hz.mono (by omega));rw[AE]at ga;have ih1:=ih (i+1) acc (by omega) (by omega) (ha.mono (by omega));have ih2:=ih (i+1) (acc+zv ps[i].z) (by omega) (by omega) (by
   show InB (k+i+1) _
   exact InB.add ha (hz.inb.mono (by omega)))
  refine Au Kh Aca (Ahu ..) ?_;rw[Ak];refine Aj ?_;rw[Av,hn1];simp only[eP,eN,ND,DK,Ab]
  by_cases hv:ps[i].v=v
  .refine Bu ?_ hv
   by_cases h0:0<=v
   .refine B6 ?_ h0
    rw[Av,hn1];simp only[eP,eN,ND,DK,Ab];refine Aa ga ?_;simp only[eZ,eN,ND,DK,Ab];rw[BA (by omega)];refine Aa ih2 ?_;rw[if_pos h0,if_pos h0,if_pos (show (pv ps[i]).1=v from hv),Int.add_assoc];rfl
   .refine Cr ?_ h0
    rw[BA (by omega)];refine Aa ih1 ?_;rw[if_neg h0,if_neg h0];rfl
  .refine AN ?_ hv
   rw[BA (by omega)];refine Aa ih1 ?_;rw[if_neg (show ¬(pv ps[i]).1=v from hv),AuS];rfl
theorem No{n k:Nat}{t:Tm}(ht:TmB n k t)(hn:n<=1000000)(hk:k+n<=400000000)(v:Int):D.ask (.fn 93) [.agg (eT t),iv v] []=Θ (.agg (eZ (Aq (if 0<=v then Bk v t.lf.ps else 0))),[]):=by
 obtain⟨ps,kz⟩:=t;have g:=AeP Kh F ht hn hk v Φ [] _ 0 0 rfl (by omega) (InB.zero _);rw[AqQ,AuS]at g;have e0:eZ (Aq 0)=[bv Φ,.ls []]:=by rw[IC];rfl
 rw[e0]at g;refine AB Kh Aca (e93 ..) ?_;refine Aa g ?_;rfl
end
section
open Go.RowKit
def XS:MFn:=BI [⟨49,(mB 227),[(5,1)],[],[(1,((mB 98),([],[])))]⟩] 121
def TW:Hnt:=⟨[],[(0,[(1,([.int .i64,.sl 1 1,.bool],[.del,.row Δ]))])],[(20,[.int .i64]),(21,[.int .i64]),(31,[.int .i64]),(32,[.int .i64]),(38,[.int .i64]),(39,[.int .i64])]⟩
def AfB:MFn:=BI [⟨29,(mB 26),[],[1,3],[(1,((mB 8),([],[1])))]⟩] 92
def Ab9:Hnt:=⟨[(50,(.int .i64,[])),(93,(.agg Ay,[])),(121,(.ls,[]))],[(0,[(1,([.ls],[.del]))])],[(9,[.ls]),(15,[.ls]),(17,Br),(19,[.int .i64]),(20,Bl)]⟩
def Afs:MFn:=BI [⟨35,(mB 62),[(1000003,3)],[1,2],[(1,((mB 12),([],[1])))]⟩] 49
def Ab1:Hnt:=⟨[(20,(.agg Ay,[])),(92,(.ls,[])),(93,(.agg Ay,[]))],[(0,[(1,([.ptr 1 0,.ptr 2 0],[.del,.box Bl,.box [.sl 4 3,.bool,.ls],.del,.row Δ]))])],[(7,Ay),(10,Bl),(19,[.ls]),(22,[.int .i64]),(23,[.int .i64]),(24,Bl),(27,[.int .i64]),(28,[.int .i64]),(34,Bl)]⟩
def Zv:MFn:=BI [⟨36,(mB 99),[(5,3)],[],[(1,((mB 34),([],[])))]⟩,⟨36,(mB 162),[(5,3)],[],[(3,((mB 32),([],[])))]⟩] 99
def Ua:Hnt:=⟨[],[(0,[(1,([.ls,.sl 1 3],[.del,.row Δ]))]),(1,[(3,([.sl 1 3],[.del,.row Δ]))])],[(18,Br),(19,Br),(31,Br),(32,Br)]⟩
def Anb:MFn:=BI [] 57
def AlT:Hnt:=⟨[(49,(.agg Bl,[])),(98,(.agg Ay,[])),(99,(.ls,[]))],[],[(6,[.ls]),(8,[.ls]),(11,Ay),(13,Ay)]⟩
def Afv:MFn:=BI [⟨41,(mB 124),[(1000005,3)],[2,3,4],[(1,((mB 48),([],[2,3])))]⟩] 54
def Ab4:Hnt:=⟨[(49,(.agg Bl,[])),(97,(.agg Ay,[]))],[(0,[(1,([.ptr 2 0,.ptr 3 0],[.del,.del,.box Bl,.box [.sl 5 3,.bool,.ls],.del,.row Δ]))])],[(8,Ay),(9,Ay),(14,[.ls]),(20,[.ls]),(22,[.ls]),(24,Br),(26,[.int .i64]),(28,[.ls]),(30,Br),(32,Ay),(33,Ay),(39,Bl)]⟩
def AmQ:MFn:=BI [] 23
def Aly:Hnt:=⟨[(27,(.agg Ay,[])),(54,(.agg Bl,[])),(57,(.agg Bl,[]))],[],[(5,Bl),(6,Bl)]⟩
def AmR:MFn:=BI [] 24
def Alz:Hnt:=⟨[(20,(.agg Ay,[]))],[],[(3,Ay)]⟩
def Afp:MFn:=BI [⟨57,(mB 44),[],[2,3],[(0,((mB 16),([],[2,3]))),(1,([],([],[2,3])))]⟩] 28
def RZ:Hnt:=⟨[(67,(.bool,[]))],[(0,[(0,([.bool],[.del,.del])),(1,([],[.del,.del]))])],[(7,[.ls]),(10,[.ls]),(15,Ay),(17,Ay),(23,[.ls]),(29,[.ls]),(31,Br),(33,[.int .i64]),(35,[.ls]),(37,Br),(39,[.int .i64]),(43,[.ls]),(45,Br),(47,Ay),(49,[.ls]),(51,Br),(53,Ay)]⟩
def GA:List (Nat × MFn):=[(121,XS),(92,AfB),(49,Afs),(99,Zv),(57,Anb),(54,Afv),(23,AmQ),(24,AmR),(28,Afp)]
variable (A:Ar) (D:Orc)
theorem AoH(x0:Rw)(x1:Int):BN A D Al TW .n 121 XS [Ψ x0,iv x1] [] =
 Ae D (ι 121 0) [Ψ x0,iv x1,χ 0 0 0 1,bv Φ,iv 0] [θ [] Δ Δ] [.t,.C,.x,.X,.Y] λc l o=>
 br (Bm 1 c)
 (dk [.I,.C,.q 1 1,.B,.N,.D,.R,.X,.E] [.l l,.o o] λn n1 b cs1=>
 br (A.not b)
 (br (AZ (n1+1) 8) (br ((0+n1*1).ble cs1.length) (br ((0+(n1+1)*1).ble (AqT 0 (ε (0+n1*1) cs1)++[iv n]).length) (Θ ((Ψ (Bi (n1+1) 1 (ε ((n1+1)*1) (AqT 0 (AqT 0 (ε (0+n1*1) cs1)++[iv n])))),[]))) Ξ) Ξ) Ξ)
 (br ((0+n1*1).ble cs1.length) (Θ ((Ψ (Bi n1 1 (ε (n1*1) cs1)),[]))) Ξ))
 (Ξ):=by kernel_rfl
theorem Abl(t0:Rw)(t1:Int)(n5:Nat)(c5:List AV)(t6:Bool)(t7:Int):CS A D Al TW .n 121 0 (AJ XS 0).fst (AJ XS 0).snd [Ψ t0,iv t1,χ 0 0 n5 1,bv t6,iv t7] [{ cells:=c5,st:=Δ,ex:=Δ }] =
 br (A.lt t7 ↑(AL t0))
 (br (A.not t6)
 (unI t7 λi=>
 Bj t0 i λcs=>
 dk [.I,.N] [.l cs] λn=>
 br (A.le t1 n)
 (br (AZ (n5+1) 8) (br ((0+n5*1).ble c5.length) (unI t7 λi1=>
 Bj t0 i1 λcs1=>
 dk [.I,.N] [.l cs1] λn1=>
 br (A.eq n1 t1)
 (AA D (ι 121 0) [Ψ t0,iv t1,χ 0 0 (n5+1) 1,bv Δ,iv (A.add δ t7 1)] [θ (AqT 0 (ε (0+n5*1) c5)++[iv t1]) Δ Δ] λr o=>
 As 1 [2] (AH.mk [(2,θ (AqT 0 (ε (0+n5*1) c5)++[iv t1]) Δ Δ),(1,θ [iv t1] Δ Δ)] 3 Ξ) [0] r o)
 (unI t7 λi2=>
 Bj t0 i2 λcs2=>
 dk [.I,.N] [.l cs2] λn2=>
 br (AZ (n5+1+1) 8) (br ((0+(n5+1)*1).ble (AqT 0 (ε (0+n5*1) c5)++[iv t1]).length) (AA D (ι 121 0) [Ψ t0,iv t1,χ 0 0 (n5+1+1) 1,bv Δ,iv (A.add δ t7 1)] [θ (AqT 0 (ε (0+(n5+1)*1) (AqT 0 (ε (0+n5*1) c5)++[iv t1]))++[iv n2]) Δ Δ] λr o=>
 As 1 [4] (AH.mk [(4,θ (AqT 0 (ε (0+(n5+1)*1) (AqT 0 (ε (0+n5*1) c5)++[iv t1]))++[iv n2]) Δ Δ),(3,θ [iv n2] Δ Δ),(1,θ [iv t1] Δ Δ)] 5 Ξ) [0] r o) Ξ) Ξ)) Ξ) Ξ)
 (unI t7 λi1=>
 Bj t0 i1 λcs1=>
 dk [.I,.N] [.l cs1] λn1=>
 br (A.eq n1 t1)
 (AA D (ι 121 0) [Ψ t0,iv t1,χ 0 0 n5 1,bv t6,iv (A.add δ t7 1)] [θ c5 Δ Δ] λr o=>
 As 1 [0] (AH.mk [(0,θ c5 Δ Δ)] 1 Ξ) [] r o)
 (unI t7 λi2=>
 Bj t0 i2 λcs2=>
 dk [.I,.N] [.l cs2] λn2=>
 br (AZ (n5+1) 8) (br ((0+n5*1).ble c5.length) (AA D (ι 121 0) [Ψ t0,iv t1,χ 0 0 (n5+1) 1,bv t6,iv (A.add δ t7 1)] [θ (AqT 0 (ε (0+n5*1) c5)++[iv n2]) Δ Δ] λr o=>
 As 1 [2] (AH.mk [(2,θ (AqT 0 (ε (0+n5*1) c5)++[iv n2]) Δ Δ),(1,θ [iv n2] Δ Δ)] 3 Ξ) [0] r o) Ξ) Ξ)))
 (unI t7 λi=>
 Bj t0 i λcs=>
 dk [.I,.N] [.l cs] λn=>
 br (A.eq n t1)
 (AA D (ι 121 0) [Ψ t0,iv t1,χ 0 0 n5 1,bv t6,iv (A.add δ t7 1)] [θ c5 Δ Δ] λr o=>
 As 1 [0] (AH.mk [(0,θ c5 Δ Δ)] 1 Ξ) [] r o)
 (unI t7 λi1=>
 Bj t0 i1 λcs1=>
 dk [.I,.N] [.l cs1] λn1=>
 br (AZ (n5+1) 8) (br ((0+n5*1).ble c5.length) (AA D (ι 121 0) [Ψ t0,iv t1,χ 0 0 (n5+1) 1,bv t6,iv (A.add δ t7 1)] [θ (AqT 0 (ε (0+n5*1) c5)++[iv n1]) Δ Δ] λr o=>
 As 1 [2] (AH.mk [(2,θ (AqT 0 (ε (0+n5*1) c5)++[iv n1]) Δ Δ),(1,θ [iv n1] Δ Δ)] 3 Ξ) [0] r o) Ξ) Ξ)))
 (Θ ((γ [iv 0,iv t1,χ 1 0 n5 1,bv t6],[BO.del,AqV (θ c5 Δ Δ)]))):=by kernel_rfl
theorem e92(x0_0:Rw)(x0_1:Bool)(x0_2:Rw):BN A D Al Ab9 .n 92 AfB [φ [Ψ x0_0,bv x0_1,Ψ x0_2]] [] =
 Ae D (ι 92 0) [η 0 0,Ψ [],iv 0] [bk [Ψ x0_0,bv x0_1,Ψ x0_2]] [.t,.C,.x,.X,.Y] λc l o=>
 br (Bm 1 c)
 (dk [.L,.N,.D,.E] [.l l,.o o] λxs=>
 Θ ((Ψ xs,[])))
 (Ξ):=by kernel_rfl
theorem Aht(b1_0:Rw)(b1_1:Bool)(b1_2 t3:Rw)(t4:Int):CS A D Al Ab9 .n 92 0 (AJ AfB 0).fst (AJ AfB 0).snd [η 0 0,Ψ t3,iv t4] [bk [Ψ b1_0,bv b1_1,Ψ b1_2]] =
 br (A.lt t4 ↑(AL b1_0))
 (unI t4 λi=>
 Bj b1_0 i λcs=>
 dk [.I,.B,.L,.N] [.l cs] λn _ _=>
 Ae D (ω 93) [φ [Ψ b1_0,bv b1_1,Ψ b1_2],iv n] [] [.a,.B,.L,.N,.E] λb1 xs1=>
 Ae D (ω 50) [φ [bv b1,Ψ xs1]] [] [.i,.E] λn1=>
 br (A.eq n1 0)
 (AA D (ι 92 0) [η 0 0,Ψ t3,iv (A.add δ t4 1)] [bk [Ψ b1_0,bv b1_1,Ψ b1_2]] λr2 o2=>
 As 1 [0] (AH.mk [(0,bk [Ψ b1_0,bv b1_1,Ψ b1_2])] 1 Ξ) [0] r2 o2)
 (Ae D (ω 121) [Ψ t3,iv n] [] [.l,.E] λxs2=>
 AA D (ι 92 0) [η 0 0,Ψ xs2,iv (A.add δ t4 1)] [bk [Ψ b1_0,bv b1_1,Ψ b1_2]] λr3 o3=>
 As 1 [0] (AH.mk [(0,bk [Ψ b1_0,bv b1_1,Ψ b1_2])] 1 Ξ) [0] r3 o3))
 (Θ ((γ [iv 0,Ψ t3],[BO.del]))):=by kernel_rfl
theorem e49(x0_0:Rw)(x0_1:Bool)(x0_2:Rw):BN A D Al Ab1 .n 49 Afs [φ [Ψ x0_0,bv x0_1,Ψ x0_2]] [] =
 Ae D (ω 20) [φ [bv x0_1,Ψ x0_2]] [] [.a,.B,.L,.N,.E] λb xs=>
 Ae D (ω 92) [φ [Ψ x0_0,bv x0_1,Ψ x0_2]] [] [.l,.E] λxs1=>
 Ae D (ι 49 0) [η 0 0,η 1 0,η 2 0,Ψ xs1,iv 0] [bk [Ψ x0_0,bv x0_1,Ψ x0_2],bk [Ψ [],bv Φ,Ψ []],bk [χ 3 0 0 3,bv b,Ψ xs],θ [] Δ Δ] [.t,.C,.x,.X,.Y] λc l2 o2=>
 br (Bm 1 c)
 (dk [.P 1 0,.P 2 0,.N,.D,.T,.L,.B,.L,.N,.T,.C,.q 4 3,.B,.L,.N,.D,.R,.X,.E] [.l l2,.o o2] λ_ _ _ n b2 xs4 cs4=>
 br ((0+n*3).ble cs4.length) (Θ ((φ [Ψ (Bi n 3 (ε (n*3) cs4)),bv b2,Ψ xs4],[]))) Ξ)
 (Ξ):=by kernel_rfl
theorem Ahl(a0:Rw)(a1:Bool)(a2 r0:Rw)(r1:Bool)(r2:Rw)(n3:Nat)(k1:Bool)(k2:Rw)(c3:List AV)(t4:Rw)(t5:Int):CS A D Al Ab1 .n 49 0 (AJ Afs 0).fst (AJ Afs 0).snd [η 0 0,η 1 0,η 2 0,Ψ t4,iv t5] [bk [Ψ a0,bv a1,Ψ a2],bk [Ψ r0,bv r1,Ψ r2],bk [χ 3 0 n3 3,bv k1,Ψ k2],{ cells:=c3,st:=Δ,ex:=Δ }] =
 br (A.lt t5 ↑(AL t4))
 (unI t5 λi=>
 Bj t4 i λcs=>
 dk [.I,.N] [.l cs] λn=>
 unI t5 λi1=>
 Bj t4 i1 λcs1=>
 dk [.I,.N] [.l cs1] λn1=>
 Ae D (ω 93) [φ [Ψ a0,bv a1,Ψ a2],iv n1] [] [.a,.B,.L,.N,.E] λb xs=>
 br (AZ (n3+1) 40) (br ((0+n3*3).ble c3.length) (AA D (ι 49 0) [η 0 0,η 1 0,η 2 0,Ψ t4,iv (A.add δ t5 1)] [bk [Ψ a0,bv a1,Ψ a2],bk [Ψ r0,bv r1,Ψ r2],bk [χ 3 0 (n3+1) 3,bv k1,Ψ k2],θ (AqT 0 (ε (0+n3*3) c3)++[iv n,bv b,Ψ xs]) Δ Δ] λr3 o1=>
 As 4 [0,1,2,5] (AH.mk [(1,bk [Ψ r0,bv r1,Ψ r2]),(0,bk [Ψ a0,bv a1,Ψ a2]),(2,bk [χ 5 0 (n3+1) 3,bv k1,Ψ k2]),(5,θ (AqT 0 (ε (0+n3*3) c3)++[iv n,bv b,Ψ xs]) Δ Δ),(4,θ [iv n,bv b,Ψ xs] Δ Δ)] 6 Ξ) [3,2,0,1] r3 o1) Ξ) Ξ)
 (Θ ((γ [iv 0,η 1 0,η 2 0],[BO.del,AqV (bk [Ψ r0,bv r1,Ψ r2]),AqV (bk [χ 4 0 n3 3,bv k1,Ψ k2]),BO.del,AqV (θ c3 Δ Δ)]))):=by kernel_rfl
theorem e99(x0 x1:Rw):BN A D Al Ua .n 99 Zv [Ψ x0,Ψ x1] [] =
 Ae D (ι 99 0) [Ψ x0,Ψ x1,χ 0 0 0 3,iv 0] [θ [] Δ Δ] [.t,.C,.x,.X,.Y] λc l o=>
 br (Bm 1 c)
 (dk [.L,.C,.q 1 3,.N,.D,.R,.X,.E] [.l l,.o o] λxs n cs1=>
 Ae D (ι 99 1) [Ψ xs,χ 0 0 n 3,iv 0] [θ cs1 Δ Δ] [.t,.C,.x,.X,.Y] λc4 l5 o1=>
 br (Bm 3 c4)
 (dk [.C,.q 1 3,.N,.D,.R,.X,.E] [.l l5,.o o1] λn1 cs3=>
 br ((0+n1*3).ble cs3.length) (Θ ((Ψ (Bi n1 3 (ε (n1*3) cs3)),[]))) Ξ)
 (Ξ))
 (Ξ):=by kernel_rfl
theorem Ahy(t0 t1:Rw)(n5:Nat)(c5:List AV)(t6:Int):CS A D Al Ua .n 99 0 (AJ Zv 0).fst (AJ Zv 0).snd [Ψ t0,Ψ t1,χ 0 0 n5 3,iv t6] [{ cells:=c5,st:=Δ,ex:=Δ }] =
 br (A.lt t6 ↑(AL t0))
 (unI t6 λi=>
 Bj t0 i λcs=>
 dk [.I,.B,.L,.N] [.l cs] λn b xs=>
 br (AZ (n5+1) 40) (br ((0+n5*3).ble c5.length) (AA D (ι 99 0) [Ψ t0,Ψ t1,χ 0 0 (n5+1) 3,iv (A.add δ t6 1)] [θ (AqT 0 (ε (0+n5*3) c5)++[iv n,bv b,Ψ xs]) Δ Δ] λr o=>
 As 1 [2] (AH.mk [(2,θ (AqT 0 (ε (0+n5*3) c5)++[iv n,bv b,Ψ xs]) Δ Δ),(1,θ [iv n,bv b,Ψ xs] Δ Δ)] 3 Ξ) [0] r o) Ξ) Ξ)
 (Θ ((γ [iv 0,Ψ t1,χ 1 0 n5 3],[BO.del,AqV (θ c5 Δ Δ)]))):=by kernel_rfl
theorem Ahz(t1:Rw)(n5:Nat)(c5:List AV)(t7:Int):CS A D Al Ua .n 99 1 (AJ Zv 1).fst (AJ Zv 1).snd [Ψ t1,χ 0 0 n5 3,iv t7] [{ cells:=c5,st:=Δ,ex:=Δ }] =
 br (A.lt t7 ↑(AL t1))
 (unI t7 λi=>
 Bj t1 i λcs=>
 dk [.I,.B,.L,.N] [.l cs] λn b xs=>
 br (AZ (n5+1) 40) (br ((0+n5*3).ble c5.length) (AA D (ι 99 1) [Ψ t1,χ 0 0 (n5+1) 3,iv (A.add δ t7 1)] [θ (AqT 0 (ε (0+n5*3) c5)++[iv n,bv b,Ψ xs]) Δ Δ] λr o=>
 As 1 [2] (AH.mk [(2,θ (AqT 0 (ε (0+n5*3) c5)++[iv n,bv b,Ψ xs]) Δ Δ),(1,θ [iv n,bv b,Ψ xs] Δ Δ)] 3 Ξ) [0] r o) Ξ) Ξ)
 (Θ ((γ [iv 2,χ 1 0 n5 3],[BO.del,AqV (θ c5 Δ Δ)]))):=by kernel_rfl
theorem e57(x0_0:Rw)(x0_1:Bool)(x0_2 x1_0:Rw)(x1_1:Bool)(x1_2:Rw):BN A D Al AlT .n 57 Anb [φ [Ψ x0_0,bv x0_1,Ψ x0_2],φ [Ψ x1_0,bv x1_1,Ψ x1_2]] [] =
 Ae D (ω 99) [Ψ x0_0,Ψ x1_0] [] [.l,.E] λxs=>
 Ae D (ω 98) [φ [bv x0_1,Ψ x0_2],φ [bv x1_1,Ψ x1_2]] [] [.a,.B,.L,.N,.E] λb xs1=>
 Ae D (ω 49) [φ [Ψ xs,bv b,Ψ xs1]] [] [.a,.L,.B,.L,.N,.E] λxs2 b1 xs3=>
 Θ ((φ [Ψ xs2,bv b1,Ψ xs3],[])):=by kernel_rfl
theorem e54(x0_0:Rw)(x0_1:Bool)(x0_2:Rw)(x1_0:Bool)(x1_1:Rw):BN A D Al Ab4 .n 54 Afv [φ [Ψ x0_0,bv x0_1,Ψ x0_2],φ [bv x1_0,Ψ x1_1]] [] =
 Ae D (ω 97) [φ [bv x0_1,Ψ x0_2],φ [bv x1_0,Ψ x1_1]] [] [.a,.B,.L,.N,.E] λb xs=>
 Ae D (ι 54 0) [η 0 0,η 1 0,η 2 0,η 3 0,iv 0] [bk [Ψ x0_0,bv x0_1,Ψ x0_2],bk [bv x1_0,Ψ x1_1],bk [Ψ [],bv Φ,Ψ []],bk [χ 4 0 0 3,bv b,Ψ xs],θ [] Δ Δ] [.t,.C,.x,.X,.Y] λc l2 o1=>
 br (Bm 1 c)
 (dk [.P 2 0,.P 3 0,.N,.D,.D,.T,.L,.B,.L,.N,.T,.C,.q 5 3,.B,.L,.N,.D,.R,.X,.E] [.l l2,.o o1] λ_ _ _ n b2 xs3 cs4=>
 br ((0+n*3).ble cs4.length) (AA D (ω 49) [φ [Ψ (Bi n 3 (ε (n*3) cs4)),bv b2,Ψ xs3]] [] λr2 o2=>
 dk [.a,.L,.B,.L,.N,.E] [.v r2,.o o2] λxs4 b3 xs5=>
 Θ ((φ [Ψ xs4,bv b3,Ψ xs5],[]))) Ξ)
 (Ξ):=by kernel_rfl
theorem Aho(a0:Rw)(a1:Bool)(a2:Rw)(i0:Bool)(i1 r0:Rw)(r1:Bool)(r2:Rw)(n5:Nat)(k1:Bool)(k2:Rw)(c5:List AV)(t6:Int):CS A D Al Ab4 .n 54 0 (AJ Afv 0).fst (AJ Afv 0).snd [η 0 0,η 1 0,η 2 0,η 3 0,iv t6] [bk [Ψ a0,bv a1,Ψ a2],bk [bv i0,Ψ i1],bk [Ψ r0,bv r1,Ψ r2],bk [χ 4 0 n5 3,bv k1,Ψ k2],{ cells:=c5,st:=Δ,ex:=Δ }] =
 br (A.lt t6 ↑(AL a0))
 (unI t6 λi=>
 Bj a0 i λcs=>
 dk [.I,.B,.L,.N] [.l cs] λn _ _=>
 unI t6 λi2=>
 Bj a0 i2 λcs1=>
 dk [.I,.B,.L,.N] [.l cs1] λ_ b1 xs1=>
 Ae D (ω 97) [φ [bv b1,Ψ xs1],φ [bv i0,Ψ i1]] [] [.a,.B,.L,.N,.E] λb2 xs2=>
 br (AZ (n5+1) 40) (br ((0+n5*3).ble c5.length) (AA D (ι 54 0) [η 0 0,η 1 0,η 2 0,η 3 0,iv (A.add δ t6 1)] [bk [Ψ a0,bv a1,Ψ a2],bk [bv i0,Ψ i1],bk [Ψ r0,bv r1,Ψ r2],bk [χ 4 0 (n5+1) 3,bv k1,Ψ k2],θ (AqT 0 (ε (0+n5*3) c5)++[iv n,bv b2,Ψ xs2]) Δ Δ] λr3 o1=>
 As 5 [0,1,2,3,6] (AH.mk [(2,bk [Ψ r0,bv r1,Ψ r2]),(1,bk [bv i0,Ψ i1]),(0,bk [Ψ a0,bv a1,Ψ a2]),(3,bk [χ 6 0 (n5+1) 3,bv k1,Ψ k2]),(6,θ (AqT 0 (ε (0+n5*3) c5)++[iv n,bv b2,Ψ xs2]) Δ Δ),(5,θ [iv n,bv b2,Ψ xs2] Δ Δ)] 7 Ξ) [4,3,0,1,2] r3 o1) Ξ) Ξ)
 (Θ ((γ [iv 0,η 2 0,η 3 0],[BO.del,BO.del,AqV (bk [Ψ r0,bv r1,Ψ r2]),AqV (bk [χ 5 0 n5 3,bv k1,Ψ k2]),BO.del,AqV (θ c5 Δ Δ)]))):=by kernel_rfl
theorem e23(x0_0:Rw)(x0_1:Bool)(x0_2 x1_0:Rw)(x1_1:Bool)(x1_2:Rw):BN A D Al Aly .n 23 AmQ [φ [Ψ x0_0,bv x0_1,Ψ x0_2],φ [Ψ x1_0,bv x1_1,Ψ x1_2]] [] =
 Ae D (ω 27) [iv (-1)] [] [.a,.B,.L,.N,.E] λb xs=>
 Ae D (ω 54) [φ [Ψ x1_0,bv x1_1,Ψ x1_2],φ [bv b,Ψ xs]] [] [.a,.L,.B,.L,.N,.E] λxs1 b1 xs2=>
 Ae D (ω 57) [φ [Ψ x0_0,bv x0_1,Ψ x0_2],φ [Ψ xs1,bv b1,Ψ xs2]] [] [.a,.L,.B,.L,.N,.E] λxs3 b2 xs4=>
 Θ ((φ [Ψ xs3,bv b2,Ψ xs4],[])):=by kernel_rfl
theorem e24(x0_0:Bool)(x0_1:Rw):BN A D Al Alz .n 24 AmR [φ [bv x0_0,Ψ x0_1]] [] =
 Ae D (ω 20) [φ [bv x0_0,Ψ x0_1]] [] [.a,.B,.L,.N,.E] λb xs=>
 Θ ((φ [Ψ [],bv b,Ψ xs],[])):=by kernel_rfl
theorem e28(x0_0:Rw)(x0_1:Bool)(x0_2 x1_0:Rw)(x1_1:Bool)(x1_2:Rw):BN A D Al RZ .n 28 Afp [φ [Ψ x0_0,bv x0_1,Ψ x0_2],φ [Ψ x1_0,bv x1_1,Ψ x1_2]] [] =
 br (A.eq ↑(AL x0_0) ↑(AL x1_0))
 (Ae D (ω 67) [φ [bv x0_1,Ψ x0_2],φ [bv x1_1,Ψ x1_2]] [] [.b,.E] λb=>
 br b
 (Ae D (ι 28 0) [η 0 0,η 1 0,iv 0] [bk [Ψ x0_0,bv x0_1,Ψ x0_2],bk [Ψ x1_0,bv x1_1,Ψ x1_2]] [.t,.C,.x,.X,.Y] λc l o1=>
 br (Bm 0 c)
 (dk [.B,.N,.D,.D,.E] [.l l,.o o1] λb1=>
 Θ ((bv b1,[])))
 (br (Bm 1 c)
 (dk [.N,.D,.D,.E,.w] [.l l,.o o1] λ_=>
 Θ ((bv Δ,[])))
 (Ξ)))
 (Θ ((bv Φ,[]))))
 (Θ ((bv Φ,[]))):=by kernel_rfl
theorem Xr(b2_0:Rw)(b2_1:Bool)(b2_2 b3_0:Rw)(b3_1:Bool)(b3_2:Rw)(t5:Int):CS A D Al RZ .n 28 0 (AJ Afp 0).fst (AJ Afp 0).snd [η 0 0,η 1 0,iv t5] [bk [Ψ b2_0,bv b2_1,Ψ b2_2],bk [Ψ b3_0,bv b3_1,Ψ b3_2]] =
 br (A.lt t5 ↑(AL b2_0))
 (unI t5 λi=>
 Bj b2_0 i λcs=>
 dk [.I,.B,.L,.N] [.l cs] λn _ _=>
 unI t5 λi1=>
 Bj b3_0 i1 λcs1=>
 dk [.I,.B,.L,.N] [.l cs1] λn1 _ _=>
 br (A.eq n n1)
 (unI t5 λi2=>
 Bj b2_0 i2 λcs2=>
 dk [.I,.B,.L,.N] [.l cs2] λ_ b2 xs2=>
 unI t5 λi3=>
 Bj b3_0 i3 λcs3=>
 dk [.I,.B,.L,.N] [.l cs3] λ_ b3 xs3=>
 Ae D (ω 67) [φ [bv b2,Ψ xs2],φ [bv b3,Ψ xs3]] [] [.b,.E] λb4=>
 br b4
 (AA D (ι 28 0) [η 0 0,η 1 0,iv (A.add δ t5 1)] [bk [Ψ b2_0,bv b2_1,Ψ b2_2],bk [Ψ b3_0,bv b3_1,Ψ b3_2]] λr1 o1=>
 As 2 [0,1] (AH.mk [(1,bk [Ψ b3_0,bv b3_1,Ψ b3_2]),(0,bk [Ψ b2_0,bv b2_1,Ψ b2_2])] 2 Ξ) [0,1] r1 o1)
 (Θ ((γ [bv Δ,bv Φ],[BO.del,BO.del]))))
 (Θ ((γ [bv Δ,bv Φ],[BO.del,BO.del]))))
 (Θ ((γ [iv 0],[BO.del,BO.del]))):=by kernel_rfl
end
def eI(v:Int):List AV:=[iv v]
theorem JB(v:Int):(eI v).length=1:=rfl
def bkI(l:List Int):ABlk:=θ (Ah eI l) Δ Δ
theorem apI(o:List Int)(h:o.length<=4000000)(X:KR):br (AZ (o.length+1) 8) (br (AqZ (0+o.length*1) (Ah eI o).length) X Ξ) Ξ=X:=by
 rw[AG (by omega) (by omega),AF JB o (by omega)];rfl
theorem Akc(o:List Int)(v:Int):AqT 0 (ε (0+o.length*1) (Ah eI o))++[iv v]=Ah eI (o++[v]):=by
 rw[AqQ,Be JB o (by omega)];exact Bb eI o v
theorem snI(o:List Int)(v:Int):o.length+1=(o++[v]).length:=by simp
section
variable {D:Orc} (Kt:Knows Al GA D)
include Kt
theorem Ajn(v:Int)(l:List Int)(hl:l.length<=1000000):∀(m i:Nat) (d:Bool) (o:List Int),l.length-i=m->i<=l.length->o.length<=2*i->
  D.ask (.lp 121 0) [.ls (l.map eI),iv v,.sl 0 0 o.length 1,bv d,iv (i:Int)] [bkI o]=Θ (.tup [iv 0,iv v,.sl 1 0 (o++(HZ v d (l.drop i)).1).length 1,bv (HZ v d (l.drop i)).2],[.del,.set (bkI (o++(HZ v d (l.drop i)).1))]):=by
 intro m
 induction m with
 |zero=>
  intro i d o hm hi ho;rw[AqX (by omega),HZ,ArB];refine Au Kt TW (Abl ..) ?_;rw[Ak];exact Ag rfl
 |succ m ih=>
  intro i d o hm hi ho;have h1:i<l.length:=by omega
  have hn1:∀ kk,Bj (l.map eI) i kk=kk (eI l[i]):=λkk=>At (ξ h1) kk
  have ih1:=λ(d:Bool) (o:List Int) (h:o.length<=2*(i+1))=>ih (i+1) d o (by omega) (by omega) h
  rw[κ h1,HZ];revert hn1;generalize l[i]=x;intro hn1;refine Au Kt TW (Abl ..) ?_;rw[Ak];refine Aj ?_;unfold bkI at ih1 ⊢;simp only[Av,hn1,eI,ND,DK,Ab,BA (show i<4611686018427387904 by omega),Akc]
  cases d with
  |true=>
   refine Ba ?_
   by_cases hx:x=v
   .refine Bu ?_ hx
    have g:=ih1 Δ o (by omega);refine Aa g ?_;rw[if_pos hx];rfl
   .refine AN ?_ hx
    have g:=ih1 Δ (o++[x]) (by simp;omega);rw[apI o (by omega),snI o x];refine Aa g ?_;rw[if_neg hx,AqY];rfl
  |false=>
   refine Ac ?_
   by_cases hv:v<=x
   .refine B6 ?_ hv
    rw[apI o (by omega),decide_eq_true hv,snI o v]
    by_cases hx:x=v
    .refine Bu ?_ hx
     have g:=ih1 Δ (o++[v]) (by simp;omega);refine Aa g ?_;rw[if_pos hx,AqY];rfl
    .refine AN ?_ hx
     have g:=ih1 Δ (o++[v]++[x]) (by simp;omega);rw[apI (o++[v]) (by simp;omega),Akc,snI (o++[v]) x];refine Aa g ?_;rw[if_neg hx,AqY,AqY];rfl
   .refine Cr ?_ hv
    rw[decide_eq_false hv]
    by_cases hx:x=v
    .omega
    .refine AN ?_ hx
     have g:=ih1 Φ (o++[x]) (by simp;omega);rw[apI o (by omega),snI o x];refine Aa g ?_;rw[if_neg hx,AqY];rfl
theorem Zk(v:Int)(l:List Int)(hl:l.length<=1000000):D.ask (.fn 121) [.ls (l.map eI),iv v] []=Θ (.ls ((JI v l).map eI),[]):=by
 have g:=Ajn Kt v l hl _ 0 Φ [] rfl (by omega) (by simp);have hlen:=Uc v Φ l;rw[AqQ,Aq4]at g;unfold JI;generalize HZ v Φ l=p at g hlen;obtain⟨o,d⟩:=p;simp only at g hlen ⊢;unfold bkI at g;refine AB Kt TW (AoH ..) ?_;refine Aa g ?_;simp only[ND,DK,Ab]
 cases d with
 |true=>
  refine Ba ?_;rw[AF JB o (by omega)];refine Ac ?_;rw[Bp JB o rfl,if_pos rfl,ArB]
 |false=>
  refine Ac ?_;rw[if_neg (by decide)];rw[Akc,snI o v,AF JB (o++[v]) (by omega)];rw[show AZ (o++[v]).length 8=Δ from AG (by simp;omega) (by omega),AF JB o (by omega),AqQ,Bp JB (o++[v]) rfl];rfl
end
section
variable {D:Orc} (Kt:Knows Al GA D) (Kh:Knows Al Hj D) (F:RF D)
include Kt Kh F
theorem AgX{n k:Nat}{ps:List Pt}{kz:Zi}(ht:TmB n k ⟨ps,kz⟩)(hn:n<=1000000)(hk:k+n<=400000000):∀(m i:Nat) (out:List Int),ps.length-i=m->i<=ps.length->Asc out->out.length<=i->
  D.ask (.lp 92 0) [.ptr 0 0,.ls (out.map eI),iv (i:Int)] [⟨[.ls (ps.map eP),bv kz.neg,eN kz.abs],Δ,Φ⟩]=Θ (.tup [iv 0,.ls ((GD (CV (ps.map pv)) out ((ps.drop i).map Pt.v)).map eI)],[.del]):=by
 have hlen:ps.length<=n:=ht.len;intro m
 induction m with
 |zero=>
  intro i out hm hi ha ho;rw[AqX (by omega),ArV,GD];refine Au Kt Ab9 (Aht ..) ?_;rw[Ak];exact Ag rfl
 |succ m ih=>
  intro i out hm hi ha ho;have h1:i<ps.length:=by omega
  have hn1:∀ kk,Bj (ps.map eP) i kk=kk (eP ps[i]):=λkk=>At (ξ h1) kk
  rw[κ h1,Aq8,GD];revert hn1;generalize ps[i]=p;intro hn1;have gc:=No Kh F ht hn hk p.v;have hc:InB (k+n) (CV (ps.map pv) p.v):=by
   unfold CV;split
   .exact(II _ _ ht.lb.ps).mono (by have:=ht.lb.len;omega)
   .exact InB.zero _
  have e1:(if 0<=p.v then Bk p.v (Tm.mk ps kz).lf.ps else 0)=CV (ps.map pv) p.v:=rfl;rw[e1]at gc;generalize CV (ps.map pv) p.v=c at gc hc;have gs:=F.sign (Aq c) (hc.lz.mono (by omega));rw[AE]at gs;refine Au Kt Ab9 (Aht ..) ?_;rw[Ak];refine Aj ?_;rw[Av,hn1];simp only[eP,eN,ND,DK,Ab];refine Aa gc ?_;simp only[eZ,eN,ND,DK,Ab]at gs ⊢;refine Aa gs ?_;simp only[ND,DK,Ab];rw[BA (by omega)]
  by_cases h0:c=0
  .have g:=ih (i+1) out (by omega) (by omega) ha (by omega)
   refine Bu ?_ ((AdL c).2 h0);refine Aa g ?_;rw[if_pos h0];rfl
  .have g:=ih (i+1) (JI p.v out) (by omega) (by omega) (H7 _ ha) (by have:=OJ p.v ha;omega)
   have gi:=Zk Kt p.v out (by omega);refine AN ?_ (λh=>h0 ((AdL c).1 h));refine Aa gi ?_;simp only[ND,DK,Ab];refine Aa g ?_;rw[if_neg h0];rfl
theorem Pq{n k:Nat}{t:Tm}(ht:TmB n k t)(hn:n<=1000000)(hk:k+n<=400000000):D.ask (.fn 92) [.agg (eT t)] []=Θ (.ls ((FR t.lf.ps).map eI),[]):=by
 obtain⟨ps,kz⟩:=t;have g:=AgX Kt Kh F ht hn hk _ 0 [] rfl (by omega) Nj (by simp);rw[AqQ]at g;have e1:(ps.map Pt.v)=(Tm.mk ps kz).lf.ps.map (·.1):=by
  unfold Tm.lf;rw[Asa];rfl
 rw[e1]at g;refine AB Kt Ab9 (e92 ..) ?_;refine Aa g ?_;rfl
omit Kt Kh F in
theorem Mw(ps:List (Int × Int)):(FR ps).length<=ps.length:=by
 have:=Mt (CV ps) (ps.map (·.1)) Nj;simpa[FR]using this
def ptV(l:List (Int × Int))(v:Int):Pt:=⟨v,Aq (CV l v)⟩
theorem ZQ{n k:Nat}{ps:List Pt}{kz:Zi}(ht:TmB n k ⟨ps,kz⟩)(hn:n<=1000000)(hk:k+n<=400000000)(vs:List Int)(hvs:vs.length<=n)(r0:List (List AV))(r1:Bool)(r2:List (List AV))(k1:Bool)(k2:List (List AV)):∀(m i:Nat) (out:List Pt),vs.length-i=m->i<=vs.length->out.length<=i->
  D.ask (.lp 49 0) [.ptr 0 0,.ptr 1 0,.ptr 2 0,.ls (vs.map eI),iv (i:Int)] [⟨[.ls (ps.map eP),bv kz.neg,eN kz.abs],Δ,Φ⟩,⟨[.ls r0,bv r1,.ls r2],Δ,Φ⟩,⟨[.sl 3 0 out.length 3,bv k1,.ls k2],Δ,Φ⟩,EB out]
   = Θ (.tup [iv 0,.ptr 1 0,.ptr 2 0],[.del,.set ⟨[.ls r0,bv r1,.ls r2],Δ,Φ⟩,.set ⟨[.sl 4 0 (out++(vs.drop i).map (ptV (ps.map pv))).length 3,bv k1,.ls k2],Δ,Φ⟩,.del,.set (EB (out++(vs.drop i).map (ptV (ps.map pv))))]):=by
 intro m
 induction m with
 |zero=>
  intro i out hm hi ho;rw[AqX (by omega),ArV,ArB];refine Au Kt Ab1 (Ahl ..) ?_;rw[Ak];exact Ag rfl
 |succ m ih=>
  intro i out hm hi ho;have h1:i<vs.length:=by omega
  have hn1:∀ kk,Bj (vs.map eI) i kk=kk (eI vs[i]):=λkk=>At (ξ h1) kk
  rw[κ h1,Aq8];revert hn1;generalize vs[i]=v;intro hn1;have gc:=No Kh F ht hn hk v;have e1:(if 0<=v then Bk v (Tm.mk ps kz).lf.ps else 0)=CV (ps.map pv) v:=rfl;rw[e1]at gc;have ih:=ih (i+1) (out++[ptV (ps.map pv) v]) (by omega) (by omega) (by simp;omega);rw[AqY,ArI,show (out++[ptV (ps.map pv) v]).length=out.length+1 by simp]at ih;have hf:AZ (out.length+1) 40=Δ:=AG (by omega) (by omega);have hb1:AqZ (0+out.length*3) (Ah eP out).length=Δ:=AF Ax out (by omega);have e3:AqT 0 (ε (0+out.length*3) (Ah eP out))++[iv v,bv (Aq (CV (ps.map pv) v)).neg,eN (Aq (CV (ps.map pv) v)).abs]=Ah eP (out++[ptV (ps.map pv) v]):=by
   rw[AqQ,Be Ax out (by omega)];exact Bb eP out (ptV (ps.map pv) v)
  refine Au Kt Ab1 (Ahl ..) ?_;rw[Ak];refine Aj ?_;simp only[Av,hn1,eI,ND,DK,Ab];refine Aa gc ?_;simp only[eZ,eN,ND,DK,Ab]at e3 ⊢;rw[hf];refine Ac ?_;rw[hb1];refine Ac ?_;rw[e3,BA (by omega)];refine Aa ih ?_;rfl
theorem E9{n k:Nat}{t:Tm}(ht:TmB n k t)(hn:n<=1000000)(hk:k+n<=400000000):D.ask (.fn 49) [.agg (eT t)] []=Θ (.agg (eT t.lf.pln.tm),[]):=by
 have gv:=Pq Kt Kh F ht hn hk;have hl:=Mw t.lf.ps;have hl2:=ht.lb.len;have gk:=F.clean t.k (ht.k.mono (by omega));obtain⟨ps,kz⟩:=t;have gl:=ZQ Kt Kh F ht hn hk (FR (Tm.mk ps kz).lf.ps) (by omega) [] Φ [] (Aq (zv kz)).neg ((Aq (zv kz)).abs.map eL) _ 0 [] rfl (by omega) (by simp);rw[AqQ,Aq4]at gl;have e2:(FR (Tm.mk ps kz).lf.ps).map (ptV (ps.map pv))=(Tm.mk ps kz).lf.pln.tm.ps:=by
  show _=(AO (ps.map pv)).map AP
  rw[←DO,Asa];rfl
 rw[e2]at gl;have e3:(Tm.mk ps kz).lf.pln.tm.k=Aq (zv kz):=rfl;revert gl;generalize hX:(Tm.mk ps kz).lf.pln.tm=X at e3 ⊢;obtain⟨xp,xk⟩:=X;intro gl;simp only at e3;subst e3;refine AB Kt Ab1 (e49 ..) ?_;refine Aa gk ?_;simp only[eZ,eN,ND,DK,Ab];refine Aa gv ?_;simp only[ND,DK,Ab];refine Aa gl ?_;simp only[ND,DK,Ab];rw[AF Ax xp (by omega)];refine Ac ?_;rw[Bp Ax _ rfl];rfl
omit Kh F in
theorem Aa1(a b:List Pt)(hl:a.length<=1000000):∀(m i:Nat) (out:List Pt),a.length-i=m->i<=a.length->out.length<=i->
  D.ask (.lp 99 0) [.ls (a.map eP),.ls (b.map eP),.sl 0 0 out.length 3,iv (i:Int)] [EB out]=Θ (.tup [iv 0,.ls (b.map eP),.sl 1 0 (out++a.drop i).length 3],[.del,.set (EB (out++a.drop i))]):=by
 intro m
 induction m with
 |zero=>
  intro i out hm hi ho;rw[AqX (by omega),ArB];refine Au Kt Ua (Ahy ..) ?_;rw[Ak];exact Ag rfl
 |succ m ih=>
  intro i out hm hi ho;have h1:i<a.length:=by omega
  have hn1:∀ kk,Bj (a.map eP) i kk=kk (eP a[i]):=λkk=>At (ξ h1) kk
  rw[κ h1];revert hn1;generalize a[i]=v;intro hn1;have ih:=ih (i+1) (out++[v]) (by omega) (by omega) (by simp;omega);rw[AqY,ArI,show (out++[v]).length=out.length+1 by simp]at ih;have hf:AZ (out.length+1) 40=Δ:=AG (by omega) (by omega);have hb1:AqZ (0+out.length*3) (Ah eP out).length=Δ:=AF Ax out (by omega);have e3:AqT 0 (ε (0+out.length*3) (Ah eP out))++[iv v.v,bv v.z.neg,eN v.z.abs]=Ah eP (out++[v]):=by
   rw[AqQ,Be Ax out (by omega)];exact Bb eP out v
  refine Au Kt Ua (Ahy ..) ?_;rw[Ak];refine Aj ?_;simp only[Av,hn1,eP,eN,ND,DK,Ab]at e3 ⊢;rw[hf];refine Ac ?_;rw[hb1];refine Ac ?_;rw[e3,BA (by omega)];refine Aa ih ?_;rfl
omit Kh F in
theorem Aa2(a:List Pt)(hl:a.length<=1000000):∀(m i:Nat) (out:List Pt),a.length-i=m->i<=a.length->out.length<=1000000+i->
  D.ask (.lp 99 1) [.ls (a.map eP),.sl 0 0 out.length 3,iv (i:Int)] [EB out]=Θ (.tup [iv 2,.sl 1 0 (out++a.drop i).length 3],[.del,.set (EB (out++a.drop i))]):=by
 intro m
 induction m with
 |zero=>
  intro i out hm hi ho;rw[AqX (by omega),ArB];refine Au Kt Ua (Ahz ..) ?_;rw[Ak];exact Ag rfl
 |succ m ih=>
  intro i out hm hi ho;have h1:i<a.length:=by omega
  have hn1:∀ kk,Bj (a.map eP) i kk=kk (eP a[i]):=λkk=>At (ξ h1) kk
  rw[κ h1];revert hn1;generalize a[i]=v;intro hn1;have ih:=ih (i+1) (out++[v]) (by omega) (by omega) (by simp;omega);rw[AqY,ArI,show (out++[v]).length=out.length+1 by simp]at ih;have hf:AZ (out.length+1) 40=Δ:=AG (by omega) (by omega);have hb1:AqZ (0+out.length*3) (Ah eP out).length=Δ:=AF Ax out (by omega);have e3:AqT 0 (ε (0+out.length*3) (Ah eP out))++[iv v.v,bv v.z.neg,eN v.z.abs]=Ah eP (out++[v]):=by
   rw[AqQ,Be Ax out (by omega)];exact Bb eP out v
  refine Au Kt Ua (Ahz ..) ?_;rw[Ak];refine Aj ?_;simp only[Av,hn1,eP,eN,ND,DK,Ab]at e3 ⊢;rw[hf];refine Ac ?_;rw[hb1];refine Ac ?_;rw[e3,BA (by omega)];refine Aa ih ?_;rfl
omit Kh F in
theorem AeI(a b:List Pt)(ha:a.length<=1000000)(hb:b.length<=1000000):D.ask (.fn 99) [.ls (a.map eP),.ls (b.map eP)] []=Θ (.ls ((a++b).map eP),[]):=by
 have g0:=Aa1 Kt a b ha _ 0 [] rfl (by omega) (by simp);have g1:=Aa2 Kt b hb _ 0 a rfl (by omega) (by omega);rw[AqQ,Aq4]at g0;rw[AqQ]at g1;refine AB Kt Ua (e99 ..) ?_;refine Aa g0 ?_;simp only[ND,DK,Ab];refine Aa g1 ?_;simp only[ND,DK,Ab];refine Ac ?_;rw[AF Ax (a++b) (by omega)];refine Ac ?_;rw[Bp Ax _ rfl]
theorem Af9{n m k:Nat}{a b:Tm}(ha:TmB n k a)(hb:TmB m k b)(hn:n+m<=1000000)(hk:k+1+(n+m)<=400000000):D.ask (.fn 57) [.agg (eT a),.agg (eT b)] []=Θ (.agg (eT (a.lf.add b.lf).tm),[]):=by
 obtain⟨ap,ak⟩:=a;obtain⟨bp,bk⟩:=b;have l1:ap.length<=n:=ha.len;have l2:bp.length<=m:=hb.len;have gc:=AeI Kt ap bp (by omega) (by omega);have ga:=F.add ak bk (ha.k.mono (by omega)) (hb.k.mono (by omega));have hT:TmB (n+m) (k+1) ⟨ap++bp,Aq (zv ak+zv bk)⟩:=by
  refine⟨by simp;omega,λp hp=>?_,?_⟩
  .rcases Arr.1 hp with h|h
   .exact(ha.ps p h).mono (by omega)
   .exact(hb.ps p h).mono (by omega)
  .exact(InB.add ha.k.inb hb.k.inb).lz
 have gp:=E9 Kt Kh F hT hn (by omega);have el:(⟨ap++bp,Aq (zv ak+zv bk)⟩:Tm).lf.pln=Lf.add (Tm.lf ⟨ap,ak⟩) (Tm.lf ⟨bp,bk⟩):=by
  unfold Lf.add Tm.lf;simp only[Atb,AE]
 rw[el]at gp;refine AB Kt AlT (e57 ..) ?_;refine Aa gc ?_;simp only[ND,DK,Ab];refine Aa ga ?_;simp only[eZ,eN,ND,DK,Ab];refine Aa gp ?_;rfl
omit Kh in
theorem ZS{k j:Nat}{x:Zi}(hx:Lz j x)(ps:List Pt)(kz:Zi)(hl:ps.length<=1000000)(hz:∀ p∈ps,Lz k p.z)(hk:k<=400000000)(hj:j<=400000000)(r0:List (List AV))(r1:Bool)(r2:List (List AV))(k1:Bool)(k2:List (List AV)):∀(m i:Nat) (out:List Pt),ps.length-i=m->i<=ps.length->out.length<=i->
  D.ask (.lp 54 0) [.ptr 0 0,.ptr 1 0,.ptr 2 0,.ptr 3 0,iv (i:Int)] [⟨[.ls (ps.map eP),bv kz.neg,eN kz.abs],Δ,Φ⟩,⟨eZ x,Δ,Φ⟩,⟨[.ls r0,bv r1,.ls r2],Δ,Φ⟩,⟨[.sl 4 0 out.length 3,bv k1,.ls k2],Δ,Φ⟩,EB out]
   = Θ (.tup [iv 0,.ptr 2 0,.ptr 3 0],[.del,.del,.set ⟨[.ls r0,bv r1,.ls r2],Δ,Φ⟩,.set ⟨[.sl 5 0 (out++(ps.drop i).map (Q0 x)).length 3,bv k1,.ls k2],Δ,Φ⟩,.del,.set (EB (out++(ps.drop i).map (Q0 x)))]):=by
 intro m
 induction m with
 |zero=>
  intro i out hm hi ho;rw[AqX (by omega),ArV,ArB];obtain⟨xn,xa⟩:=x;refine Au Kt Ab4 (Aho ..) ?_;rw[Ak];exact Ag rfl
 |succ m ih=>
  intro i out hm hi ho;have h1:i<ps.length:=by omega
  have hzk:=hz ps[i] (Arc h1);have gm:=F.mul ps[i].z x (hzk.mono (by omega)) (hx.mono (by omega));rw[κ h1,Aq8];have ih:=ih (i+1) (out++[Q0 x ps[i]]) (by omega) (by omega) (by simp;omega);rw[AqY,ArI,show (out++[Q0 x ps[i]]).length=out.length+1 by simp]at ih;have hf:AZ (out.length+1) 40=Δ:=AG (by omega) (by omega);have hb1:AqZ (0+out.length*3) (Ah eP out).length=Δ:=AF Ax out (by omega);have e3:AqT 0 (ε (0+out.length*3) (Ah eP out))++[iv ps[i].v,bv (Aq (zv ps[i].z*zv x)).neg,eN (Aq (zv ps[i].z*zv x)).abs]=Ah eP (out++[Q0 x ps[i]]):=by
   rw[AqQ,Be Ax out (by omega)];exact Bb eP out (Q0 x ps[i])
  have hn1:∀ kk,Bj (ps.map eP) i kk=kk (eP ps[i]):=λkk=>At (ξ h1) kk
  obtain⟨xn,xa⟩:=x;refine Au Kt Ab4 (Aho ..) ?_;rw[Ak];refine Aj ?_;simp only[Av,hn1,eP,eN,ND,DK,Ab];refine Aa gm ?_;simp only[eZ,eN,ND,DK,Ab]at e3 ⊢;rw[hf];refine Ac ?_;rw[hb1];refine Ac ?_;rw[e3,BA (by omega)];refine Aa ih ?_;rfl
theorem QV{n k j:Nat}{a:Tm}{x:Zi}(ha:TmB n k a)(hx:Lz j x)(hn:n<=1000000)(hj:j<=200000000)(hk:k+j+n<=400000000):D.ask (.fn 54) [.agg (eT a),.agg (eZ x)] []=Θ (.agg (eT (a.lf.scale (zv x)).tm),[]):=by
 obtain⟨ap,ak⟩:=a;have l1:ap.length<=n:=ha.len;have gm:=F.mul ak x (ha.k.mono (by omega)) (hx.mono (by omega));have gl:=ZS Kt F hx ap ak (by omega) ha.ps (by omega) (by omega) [] Φ [] (Aq (zv ak*zv x)).neg ((Aq (zv ak*zv x)).abs.map eL) _ 0 [] rfl (by omega) (by simp);rw[AqQ,Aq4]at gl;have hT:TmB n (k+j) ⟨ap.map (Q0 x),Aq (zv ak*zv x)⟩:=by
  refine⟨by simpa using l1,λp hp=>?_,(InB.mul ha.k.inb hx.inb).lz⟩;rw[Arj]at hp;obtain⟨q,hq,rfl⟩:=hp;exact(InB.mul (ha.ps q hq).inb hx.inb).lz
 have gp:=E9 Kt Kh F hT hn (by omega);have el:(⟨ap.map (Q0 x),Aq (zv ak*zv x)⟩:Tm).lf.pln=Lf.scale (Tm.lf ⟨ap,ak⟩) (zv x):=by
  unfold Lf.scale Tm.lf;simp only[Asa,AE]
  congr 2
  refine Ar4 λp _=>?_
  show ((p.v,zv (Aq (zv p.z*zv x))):Int × Int)=_
  rw[AE];rfl
 rw[el]at gp;obtain⟨xn,xa⟩:=x;refine AB Kt Ab4 (e54 ..) ?_;refine Aa gm ?_;simp only[eZ,eN,ND,DK,Ab];refine Aa gl ?_;simp only[ND,DK,Ab];rw[show AqZ (0+(ap.map (Q0 ⟨xn,xa⟩)).length*3) (Ah eP (ap.map (Q0 ⟨xn,xa⟩))).length=Δ from AF Ax _ (by omega)];refine Ac ?_;rw[Bp Ax _ rfl];refine Aa gp ?_;rfl
theorem Yi{n k:Nat}{a:Tm}(ha:TmB n k a)(hn:n<=1000000)(hk:k+1+n<=400000000):D.ask (.fn 54) [.agg (eT a),.agg (eZ (Aq (-1)))] []=Θ (.agg (eT (a.lf.scale (-1)).tm),[]):=by
 have hx:Lz 1 (Aq (-1)):=InB.lz (by unfold InB;decide);have g2:=QV Kt Kh F ha hx hn (by omega) hk;rw[AE]at g2;exact g2
theorem Yl{n m k:Nat}{a b:Tm}(ha:TmB n k a)(hb:TmB m k b)(hn:n+m<=1000000)(hk:k+2+2*(n+m)<=400000000):D.ask (.fn 23) [.agg (eT a),.agg (eT b)] []=Θ (.agg (eT (a.lf.sub b.lf).tm),[]):=by
 have g0:=F.of_ (-1) (by omega) (by omega);have g1:=Yi Kt Kh F hb (by omega) (by omega);have hn1:LB m (k+1+m) (b.lf.scale (-1)):=hb.lb.scale (by unfold InB;decide);have g2:=Af9 Kt Kh F (ha.mono (π _) (show k<=k+1+m by omega)) hn1.tb hn (by omega);rw[BE]at g2;refine AB Kt Aly (e23 ..) ?_;refine Aa g0 ?_;simp only[eZ,eN,ND,DK,Ab]at g1 ⊢;refine Aa g1 ?_;simp only[eT,eN,ND,DK,Ab];refine Aa g2 ?_;rfl
omit Kh in
theorem WO{z:Zi}(hz:Lz 1000000000 z):D.ask (.fn 24) [.agg (eZ z)] []=Θ (.agg (eT (Lf.num (zv z)).tm),[]):=by
 have g:=F.clean z hz;refine AB Kt Alz (e24 ..) ?_;refine Aa g ?_;rfl
end
section
open Go.RowKit
def Aft:MFn:=BI [⟨24,(mB 62),[],[1,2,3],[(1,((mB 12),([],[1])))]⟩] 51
def Ab2:Hnt:=⟨[(92,(.ls,[])),(93,(.agg Ay,[])),(95,(.agg Ay,[]))],[(0,[(1,([.ptr 1 0,.ptr 2 0],[.del,.box Ay,.box Ay]))])],[(7,Bl),(15,Ay),(16,Bl),(19,[.int .i64]),(20,[.int .i64]),(23,Ay)]⟩
def Afu:MFn:=BI [⟨66,(mB 254),[(1000005,3)],[1,2,3,4],[(1,((mB 62),([],[])))]⟩] 53
def Ab3:Hnt:=⟨[(49,(.agg Bl,[])),(50,(.int .i64,[])),(51,(.agg Ay,[])),(52,(.tup [.agg Ay,.agg Ay,.int .i64],[])),(92,(.ls,[])),(93,(.agg Ay,[]))],[(0,[(1,([.ptr 0 0,.ptr 1 0,.ptr 2 0,.ptr 3 0,.ptr 4 0],[.box Bl,.box Bl,.box Ay,.box Ay,.box [.sl 6 3,.bool,.cst (.slice Ξ 0 0)],.del,.row Δ]))])],[(14,Bl),(16,Ay),(19,Bl),(23,Bl),(32,Bl),(35,[.int .i64]),(36,[.int .i64]),(38,Ay),(44,[.ls]),(47,[.int .i64]),(48,[.int .i64]),(49,Ay),(56,Ay),(57,Ay),(62,Ay),(64,Bl),(65,Ay)]⟩
def U7:List (Nat × MFn):=[(51,Aft),(53,Afu)]
variable (A:Ar) (D:Orc)
theorem e51(x0_0:Rw)(x0_1:Bool)(x0_2:Rw):BN A D Al Ab2 .n 51 Aft [φ [Ψ x0_0,bv x0_1,Ψ x0_2]] [] =
 Ae D (ω 92) [φ [Ψ x0_0,bv x0_1,Ψ x0_2]] [] [.l,.E] λxs=>
 Ae D (ι 51 0) [η 0 0,η 1 0,η 2 0,Ψ xs,iv 0] [bk [Ψ x0_0,bv x0_1,Ψ x0_2],bk [bv Φ,Ψ []],bk [bv Φ,Ψ []]] [.t,.C,.x,.X,.Y] λc l o1=>
 br (Bm 1 c)
 (dk [.P 1 0,.P 2 0,.N,.D,.T,.B,.L,.N,.T,.B,.L,.N,.E] [.l l,.o o1] λ_ _ b1 xs2=>
 Θ ((φ [bv b1,Ψ xs2],[])))
 (Ξ):=by kernel_rfl
theorem Ahm(b1_0:Rw)(b1_1:Bool)(b1_2:Rw)(b2_0:Bool)(b2_1:Rw)(b3_0:Bool)(b3_1 t4:Rw)(t5:Int):CS A D Al Ab2 .n 51 0 (AJ Aft 0).fst (AJ Aft 0).snd [η 0 0,η 1 0,η 2 0,Ψ t4,iv t5] [bk [Ψ b1_0,bv b1_1,Ψ b1_2],bk [bv b2_0,Ψ b2_1],bk [bv b3_0,Ψ b3_1]] =
 br (A.lt t5 ↑(AL t4))
 (unI t5 λi=>
 Bj t4 i λcs=>
 dk [.I,.N] [.l cs] λn=>
 Ae D (ω 93) [φ [Ψ b1_0,bv b1_1,Ψ b1_2],iv n] [] [.a,.B,.L,.N,.E] λb xs=>
 Ae D (ω 95) [φ [bv b3_0,Ψ b3_1],φ [bv b,Ψ xs]] [] [.a,.B,.L,.N,.E] λb1 xs1=>
 AA D (ι 51 0) [η 0 0,η 1 0,η 2 0,Ψ t4,iv (A.add δ t5 1)] [bk [Ψ b1_0,bv b1_1,Ψ b1_2],bk [bv b2_0,Ψ b2_1],bk [bv b1,Ψ xs1]] λr2 o2=>
 As 3 [0,1,2] (AH.mk [(2,bk [bv b1,Ψ xs1]),(1,bk [bv b2_0,Ψ b2_1]),(0,bk [Ψ b1_0,bv b1_1,Ψ b1_2])] 3 Ξ) [0,1,2] r2 o2)
 (Θ ((γ [iv 0,η 1 0,η 2 0],[BO.del,AqV (bk [bv b2_0,Ψ b2_1]),AqV (bk [bv b3_0,Ψ b3_1])]))):=by kernel_rfl
theorem e53(x0_0:Rw)(x0_1:Bool)(x0_2:Rw):BN A D Al Ab3 .n 53 Afu [φ [Ψ x0_0,bv x0_1,Ψ x0_2]] [] =
 Ae D (ω 51) [φ [Ψ x0_0,bv x0_1,Ψ x0_2]] [] [.a,.B,.L,.N,.E] λb xs=>
 Ae D (ω 50) [φ [bv b,Ψ xs]] [] [.i,.E] λn=>
 br (A.eq n 0)
 (Ae D (ω 49) [φ [Ψ x0_0,bv x0_1,Ψ x0_2]] [] [.a,.L,.B,.L,.N,.E] λxs1 b1 xs2=>
 Θ ((γ [φ [Ψ xs1,bv b1,Ψ xs2],φ [bv Φ,Ψ []]],[])))
 (Ae D (ω 92) [φ [Ψ x0_0,bv x0_1,Ψ x0_2]] [] [.l,.E] λxs1=>
 Ae D (ι 53 0) [η 0 0,η 1 0,η 2 0,η 3 0,η 4 0,Ψ xs1,iv 0] [bk [Ψ x0_0,bv x0_1,Ψ x0_2],bk [Ψ [],bv Φ,Ψ []],bk [bv Φ,Ψ []],bk [bv b,Ψ xs],bk [χ 5 0 0 3,bv Φ,Aq0 (Value.slice Ξ 0 0)],θ [] Δ Δ] [.t,.C,.x,.X,.Y] λc l2 o3=>
 br (Bm 1 c)
 (dk [.P 0 0,.P 1 0,.P 2 0,.P 3 0,.P 4 0,.N,.T,.L,.B,.L,.N,.T,.L,.B,.L,.N,.T,.B,.L,.N,.T,.B,.L,.N,.T,.C,.q 6 3,.B,.C,.c (Value.slice Ξ 0 0),.X,.Y] [.l l2,.o o3] λ_ b1 xs3 _ _ _ _ _ b4 xs7 n1 _ l25 l22=>
 dk [.N,.D,.R,.X,.E] [.l l25,.o l22] λcs7=>
 Ae D (ω 52) [φ [bv b1,Ψ xs3],φ [bv b4,Ψ xs7]] [] [.t,.A,.B,.L,.N,.A,.B,.L,.N,.I,.N,.E] λb6 xs8 _ _ _=>
 br ((0+n1*3).ble cs7.length) (Θ ((γ [φ [Ψ (Bi n1 3 (ε (n1*3) cs7)),bv b6,Ψ xs8],φ [bv b4,Ψ xs7]],[]))) Ξ)
 (Ξ)):=by kernel_rfl
theorem Ahn(a0:Rw)(a1:Bool)(a2 r0:Rw)(r1:Bool)(r2:Rw)(i0:Bool)(i1:Rw)(j0:Bool)(j1:Rw)(n5:Nat)(k1:Bool)(c5:List AV)(t6:Rw)(t7:Int):CS A D Al Ab3 .n 53 0 (AJ Afu 0).fst (AJ Afu 0).snd [η 0 0,η 1 0,η 2 0,η 3 0,η 4 0,Ψ t6,iv t7] [bk [Ψ a0,bv a1,Ψ a2],bk [Ψ r0,bv r1,Ψ r2],bk [bv i0,Ψ i1],bk [bv j0,Ψ j1],bk [χ 5 0 n5 3,bv k1,Aq0 (Value.slice Ξ 0 0)],{ cells:=c5,st:=Δ,ex:=Δ }] =
 br (A.lt t7 ↑(AL t6))
 (unI t7 λi=>
 Bj t6 i λcs=>
 dk [.I,.N] [.l cs] λn=>
 Ae D (ω 93) [φ [Ψ a0,bv a1,Ψ a2],iv n] [] [.a,.B,.L,.N,.E] λb xs=>
 Ae D (ω 52) [φ [bv b,Ψ xs],φ [bv j0,Ψ j1]] [] [.t,.A,.B,.L,.N,.A,.B,.L,.N,.I,.N,.E] λb1 xs1 b2 xs2 _=>
 unI t7 λi2=>
 Bj t6 i2 λcs5=>
 dk [.I,.N] [.l cs5] λn2=>
 br (AZ (n5+1) 40) (br ((0+n5*3).ble c5.length) (AA D (ι 53 0) [η 0 0,η 1 0,η 2 0,η 3 0,η 4 0,Ψ t6,iv (A.add δ t7 1)] [bk [Ψ a0,bv a1,Ψ a2],bk [Ψ r0,bv r1,Ψ r2],bk [bv i0,Ψ i1],bk [bv j0,Ψ j1],bk [χ 5 0 (n5+1) 3,bv k1,Aq0 (Value.slice Ξ 0 0)],θ (AqT 0 (ε (0+n5*3) c5)++[iv n2,bv b1,Ψ xs1]) Δ Δ] λr4 o2=>
 As 6 [0,1,2,3,4,9] (AH.mk [(3,bk [bv j0,Ψ j1]),(2,bk [bv i0,Ψ i1]),(1,bk [Ψ r0,bv r1,Ψ r2]),(0,bk [Ψ a0,bv a1,Ψ a2]),(4,bk [χ 9 0 (n5+1) 3,bv k1,Aq0 (Value.slice Ξ 0 0)]),(9,θ (AqT 0 (ε (0+n5*3) c5)++[iv n2,bv b1,Ψ xs1]) Δ Δ),(8,θ [iv n2,bv b1,Ψ xs1] Δ Δ),(7,bk [bv b2,Ψ xs2]),(6,bk [bv b1,Ψ xs1])] 10 Ξ) [5,4,0,1,2,3] r4 o2) Ξ) Ξ)
 (Θ ((γ [iv 0,η 0 0,η 1 0,η 2 0,η 3 0,η 4 0],[AqV (bk [Ψ a0,bv a1,Ψ a2]),AqV (bk [Ψ r0,bv r1,Ψ r2]),AqV (bk [bv i0,Ψ i1]),AqV (bk [bv j0,Ψ j1]),AqV (bk [χ 6 0 n5 3,bv k1,Aq0 (Value.slice Ξ 0 0)]),BO.del,AqV (θ c5 Δ Δ)]))):=by kernel_rfl
end
structure RdF (D:Orc):Prop where
 div:∀ a b:Zi,Lz 300000000 a->Lz 300000000 b->D.ask (.fn 52) [.agg (eZ a),.agg (eZ b)] []
  = Θ (if zv b=0 then .tup [.agg [bv Φ,.ls []],.agg [bv Φ,.ls []],iv 10] else .tup [.agg (eZ (Aq (qZ (zv a) (zv b)))),.agg (eZ (Aq (rZ (zv a) (zv b)))),iv 0],[])
 gcd:∀ a b:Zi,Lz 900000000 a->Lz 900000000 b->D.ask (.fn 95) [.agg (eZ a),.agg (eZ b)] []=Θ (.agg (eZ (Aq (Nat.gcd (zv a).natAbs (zv b).natAbs:Nat))),[])
theorem AnN{D:Orc}(Kn:Knows Al Lg D)(R:Knows Al Q8 D)(Km:Knows Al U6 D)(G:Knows Al Yu D):RdF D:=⟨λ_ _ ha hb=>AdG Kn R Km G ha hb,λ_ _ ha hb=>AdH Kn R Km G ha hb⟩
def vc(ps:List (Int × Int))(v:Int):Int × Int:=(v,CV ps v)
theorem Mx{n k:Nat}{t:Tm}(ht:TmB n k t)(v:Int):InB (k+n) (CV t.lf.ps v):=by
 have h:=II v t.lf.ps ht.lb.ps;have hl:=ht.lb.len;unfold CV;split
 .exact h.mono (by omega)
 .exact InB.zero _
def Cu(t:Tm):Nat:=DZ 0 (AO t.lf.ps)
def I4(g:Int)(p:Int × Int):Pt:=AP (p.1,qZ p.2 g)
def DP(t:Tm):Tm:=if Cu t=0 then t.lf.pln.tm else ⟨(AO t.lf.ps).map (I4 (Cu t)),Aq (qZ (zv t.k) (Cu t))⟩
section
variable {D:Orc} (Kt:Knows Al GA D) (Kh:Knows Al Hj D) (F:RF D) (Ks:Knows Al U7 D) (W:RdF D)
include Kh F Ks W
theorem Agc{n k:Nat}{t:Tm}(ht:TmB n k t)(hn:n<=1000000)(hk:k+n<=300000000)(vs:List Int)(hvs:vs.length<=n):∀(m i g:Nat),vs.length-i=m->i<=vs.length->InB 300000000 (g:Int)->
  D.ask (.lp 51 0) [.ptr 0 0,.ptr 1 0,.ptr 2 0,.ls (vs.map eI),iv (i:Int)] [bk (eT t),bk [bv Φ,.ls []],bk (eZ (Aq (g:Int)))]
   = Θ (.tup [iv 0,.ptr 1 0,.ptr 2 0],[.del,.set (bk [bv Φ,.ls []]),.set (bk (eZ (Aq (DZ g ((vs.drop i).map (vc t.lf.ps)):Int))))]):=by
 intro m
 induction m with
 |zero=>
  intro i g hm hi hg;rw[AqX (by omega)];refine Au Ks Ab2 (Ahm ..) ?_;rw[Ak];exact Ag rfl
 |succ m ih=>
  intro i g hm hi hg;have h1:i<vs.length:=by omega
  have hx:=(Mx ht vs[i]).mono hk;rw[κ h1,Aq8];have gc:=No Kh F ht hn (by omega) vs[i];rw[show (if 0<=vs[i] then Bk vs[i] t.lf.ps else 0)=CV t.lf.ps vs[i] from rfl]at gc;have ga:=W.gcd (Aq (g:Int)) (Aq (CV t.lf.ps vs[i])) (hg.lz.mono (by omega)) (hx.lz.mono (by omega));rw[AE,AE,Int.natAbs_natCast]at ga;have ih1:=ih (i+1) (Nat.gcd g (CV t.lf.ps vs[i]).natAbs) (by omega) (by omega) (Np hg hx);refine Au Ks Ab2 (Ahm ..) ?_;rw[Ak];refine Aj ?_;rw[Av,At (ξ h1)];simp only[eI,ND,DK,Ab];refine Aa gc ?_;simp only[eZ,eN,ND,DK,Ab];refine Aa ga ?_;simp only[eZ,eN,ND,DK,Ab];rw[BA (by omega)];refine Aa ih1 ?_;rfl
include Kt
theorem MS{n k:Nat}{t:Tm}(ht:TmB n k t)(hn:n<=1000000)(hk:k+n<=300000000):D.ask (.fn 51) [.agg (eT t)] []=Θ (.agg (eZ (Aq (Cu t:Int))),[]):=by
 have gv:=Pq Kt Kh F ht hn (by omega);have hl:=Mw t.lf.ps;have hl2:=ht.lb.len;have g:=Agc Kh F Ks W ht hn hk (FR t.lf.ps) (by omega) _ 0 0 rfl (by omega) (InB.zero _);rw[AqQ,show Aq ((0:Nat):Int)=⟨Φ,[]⟩ from IC,show eZ ⟨Φ,[]⟩=[bv Φ,.ls []] from rfl,show (FR t.lf.ps).map (vc t.lf.ps)=AO t.lf.ps from DO _]at g;refine AB Ks Ab2 (e51 ..) ?_;refine Aa gv ?_;simp only[ND,DK,Ab];refine Aa g ?_;rfl
omit Kt in
theorem Ags{n k:Nat}{t:Tm}(ht:TmB n k t)(hn:n<=1000000)(hk:k+n<=300000000)(g:Nat)(hg:InB 300000000 (g:Int))(hg0:g≠0)(vs:List Int)(hvs:vs.length<=n):∀(m i:Nat) (out:List Pt),vs.length-i=m->i<=vs.length->out.length<=i->
  D.ask (.lp 53 0) [.ptr 0 0,.ptr 1 0,.ptr 2 0,.ptr 3 0,.ptr 4 0,.ls (vs.map eI),iv (i:Int)] [bk (eT t),bk [.ls [],bv Φ,.ls []],bk [bv Φ,.ls []],bk (eZ (Aq (g:Int))),bk [.sl 5 0 out.length 3,bv Φ,.v (.slice Ξ 0 0)],θ (Ah eP out) Δ Δ]
   = Θ (.tup [iv 0,.ptr 0 0,.ptr 1 0,.ptr 2 0,.ptr 3 0,.ptr 4 0],[.set (bk (eT t)),.set (bk [.ls [],bv Φ,.ls []]),.set (bk [bv Φ,.ls []]),.set (bk (eZ (Aq (g:Int)))),.set (bk [.sl 6 0 (out++(vs.drop i).map λv=>I4 (g:Int) (vc t.lf.ps v)).length 3,bv Φ,.v (.slice Ξ 0 0)]),.del,.set (θ (Ah eP (out++(vs.drop i).map λv=>I4 (g:Int) (vc t.lf.ps v))) Δ Δ)]):=by
 intro m
 induction m with
 |zero=>
  intro i out hm hi ho;rw[AqX (by omega),ArV,ArB];refine Au Ks Ab3 (Ahn ..) ?_;rw[Ak];exact Ag rfl
 |succ m ih=>
  intro i out hm hi ho;have h1:i<vs.length:=by omega
  have hx:=(Mx ht vs[i]).mono hk;have hn1:∀ kk,Bj (vs.map eI) i kk=kk (eI vs[i]):=λkk=>At (ξ h1) kk
  rw[κ h1,Aq8];revert hn1 hx;generalize vs[i]=v;intro hx hn1;have gc:=No Kh F ht hn (by omega) v;rw[show (if 0<=v then Bk v t.lf.ps else 0)=CV t.lf.ps v from rfl]at gc;have gd:=W.div (Aq (CV t.lf.ps v)) (Aq (g:Int)) hx.lz hg.lz;rw[AE,AE,if_neg (by omega)]at gd;have ih:=ih (i+1) (out++[I4 (g:Int) (vc t.lf.ps v)]) (by omega) (by omega) (by simp;omega);rw[AqY,ArI,show (out++[I4 (g:Int) (vc t.lf.ps v)]).length=out.length+1 by simp]at ih;have hf:AZ (out.length+1) 40=Δ:=AG (by omega) (by omega);have hb1:AqZ (0+out.length*3) (Ah eP out).length=Δ:=AF Ax out (by omega);have e3:AqT 0 (ε (0+out.length*3) (Ah eP out))++[iv v,bv (Aq (qZ (CV t.lf.ps v) (g:Int))).neg,eN (Aq (qZ (CV t.lf.ps v) (g:Int))).abs]=Ah eP (out++[I4 (g:Int) (vc t.lf.ps v)]):=by
   rw[AqQ,Be Ax out (by omega)];exact Bb eP out (I4 (g:Int) (vc t.lf.ps v))
  refine Au Ks Ab3 (Ahn ..) ?_;rw[Ak];refine Aj ?_;simp only[Av,hn1,eI,ND,DK,Ab];refine Aa gc ?_;simp only[eZ,eN,ND,DK,Ab]at e3 ⊢;refine Aa gd ?_;simp only[eZ,eN,ND,DK,Ab];rw[hf];refine Ac ?_;rw[hb1];refine Ac ?_;rw[e3,BA (by omega)];refine Aa ih ?_;rfl
theorem WR{n k:Nat}{t:Tm}(ht:TmB n k t)(hn:n<=1000000)(hk:k+n<=300000000):D.ask (.fn 53) [.agg (eT t)] []=Θ (.tup [.agg (eT (DP t)),.agg (eZ (Aq (Cu t:Int)))],[]):=by
 have gc:=MS Kt Kh F Ks W ht hn hk;have gv:=Pq Kt Kh F ht hn (by omega);have gp:=E9 Kt Kh F ht hn (by omega);have hl:=Mw t.lf.ps;have hl2:=ht.lb.len;have hgI:InB 300000000 (Cu t:Int):=Oj _ _ (InB.zero _) (λp hp=>by
  rw[←DO]at hp;obtain⟨v,_,rfl⟩:=Arj.1 hp;exact(Mx ht v).mono hk)
 have gs:=F.sign (Aq (Cu t:Int)) (hgI.lz.mono (by omega));rw[AE]at gs;refine AB Ks Ab3 (e53 ..) ?_;refine Aa gc ?_;simp only[eZ,eN,ND,DK,Ab];refine Aa gs ?_;simp only[ND,DK,Ab];unfold DP
 by_cases h0:Cu t=0
 .rw[if_pos h0,h0]
  refine Bu ?_ (by decide);refine Aa gp ?_;rw[show Aq ((0:Nat):Int)=⟨Φ,[]⟩ from IC];simp only[eT,eN,ND,DK,Ab];rfl
 .rw[if_neg h0]
  refine AN ?_ (by unfold BC;rw[if_neg (by omega),if_pos (by omega)];decide);refine Aa gv ?_;simp only[ND,DK,Ab];have g:=Ags Kh F Ks W ht hn hk (Cu t) hgI h0 (FR t.lf.ps) (by omega) _ 0 [] rfl (by omega) (by simp);have e2:(FR t.lf.ps).map (λv=>I4 (Cu t:Int) (vc t.lf.ps v))=(AO t.lf.ps).map (I4 (Cu t:Int)):=by
   rw[←DO,Asa];rfl
  rw[AqQ,Aq4,e2]at g;have gk:=W.div t.k (Aq (Cu t:Int)) (ht.k.mono (by omega)) hgI.lz;rw[AE,if_neg (by omega)]at gk;refine Aa g ?_;simp only[eT,eZ,eN,ND,DK,Ab];refine(show ∀ X:KR,Ve (.slice Ξ 0 0) (.v (.slice Ξ 0 0)) X=X from λ_=>rfl) _ |>.trans ?_
  refine Aa gk ?_;simp only[eZ,eN,ND,DK,Ab];rw[AF Ax _ (by omega)];refine Ac ?_;rw[Bp Ax _ rfl]
end
section
open Go.RowKit
def hs5:I7:=[⟨64,(mB 133),[],[],[(0,((mB 64),([],[]))),(1,([],([],[])))]⟩,⟨64,(mB 389),[],[],[(0,((mB 64),([],[]))),(3,((mB 133),([],[])))]⟩]
def mf5:MFn:=BI hs5 5
def hn5:Hnt:=⟨[],[(0,[(0,([.bool],[])),(1,([],[]))]),(1,[(0,([.bool],[])),(3,([.ls,.int .i64,.int .i64],[]))])],[(21,B1),(24,[.ls]),(30,B1),(34,[.ls]),(42,B1),(45,[.ls]),(52,B1),(55,[.ls]),(57,Br),(60,[.ls])]⟩
def Yt:List (Nat × MFn):=[(5,mf5)]
variable (A:Ar) (D:Orc)
theorem e5(x0:Rw)(x1 x2:Int):BN A D Al hn5 .n 5 mf5 [Ψ x0,iv x1,iv x2] [] =
 br (A.lt x1 ↑(AL x0))
 (Θ ((bv Φ,[])))
 (Ae D (ι 5 0) [Ψ x0,iv x2,iv 0] [] [.t,.C,.x,.X,.Y] λc l o=>
 br (Bm 0 c)
 (dk [.B,.N,.E] [.l l,.o o] λb=>
 Θ ((bv b,[])))
 (br (Bm 1 c)
 (Ft l<|
 DI o<|
 Θ ((bv Δ,[])))
 (Ξ))):=by kernel_rfl
theorem Alc(t0:Rw)(t2 t7:Int):CS A D Al hn5 .n 5 0 (AJ mf5 0).fst (AJ mf5 0).snd [Ψ t0,iv t2,iv t7] [] =
 br (A.lt t7 ↑(AL t0))
 (unI t7 λi=>
 Bj t0 i λcs=>
 dk [.L,.B,.L,.B,.N] [.l cs] λxs _ _ _=>
 br (A.lt 20 ↑(AL xs))
 (Θ ((γ [bv Δ,bv Φ],[])))
 (unI t7 λi1=>
 Bj t0 i1 λcs1=>
 dk [.L,.B,.L,.B,.N] [.l cs1] λ_ _ xs3 _=>
 br (A.lt t2 ↑(AL xs3))
 (Θ ((γ [bv Δ,bv Φ],[])))
 (Ae D (ι 5 1) [Ψ t0,iv t2,iv t7,iv 0] [] [.t,.C,.x,.X,.Y] λc l8 o=>
 br (Bm 0 c)
 (dk [.B,.N,.E] [.l l8,.o o] λb4=>
 Θ ((γ [bv Δ,bv b4],[])))
 (br (Bm 3 c)
 (dk [.L,.I,.I,.N,.E] [.l l8,.o o] λxs4 n n1=>
 AA D (ι 5 0) [Ψ xs4,iv n,iv (A.add δ n1 1)] [] λr1 o1=>
 As 0 [] (AH.mk [] 0 Ξ) [] r1 o1)
 (Ξ)))))
 (Θ ((γ [iv 0],[]))):=by kernel_rfl
theorem Ald(t0:Rw)(t2 t7 t8:Int):CS A D Al hn5 .n 5 1 (AJ mf5 1).fst (AJ mf5 1).snd [Ψ t0,iv t2,iv t7,iv t8] [] =
 unI t7 λi=>
 Bj t0 i λcs=>
 dk [.L,.B,.L,.B,.N] [.l cs] λxs _ _ _=>
 br (A.lt t8 ↑(AL xs))
 (unI t7 λi1=>
 Bj t0 i1 λcs1=>
 dk [.L,.B,.L,.B,.N] [.l cs1] λxs2 _ _ _=>
 unI t8 λi2=>
 Bj xs2 i2 λcs2=>
 dk [.I,.B,.L,.N] [.l cs2] λ_ _ xs4=>
 br (A.lt t2 ↑(AL xs4))
 (Θ ((γ [bv Δ,bv Φ],[])))
 (AA D (ι 5 1) [Ψ t0,iv t2,iv t7,iv (A.add δ t8 1)] [] λr o=>
 As 0 [] (AH.mk [] 0 Ξ) [] r o))
 (Θ ((γ [iv 2,Ψ t0,iv t2,iv t7],[]))):=by kernel_rfl
end
def CY(r:Tm × Bool):List AV:=eT r.1++[bv r.2]
theorem RQ(ps:List Pt)(kz:Zi)(e:Bool):CY (⟨ps,kz⟩,e)=[.ls (ps.map eP),bv kz.neg,eN kz.abs,bv e]:=rfl
section
variable {D:Orc} (Kw:Knows Al Yt D)
include Kw
def ZC(L:Int)(ps:List Pt):Bool:=ps.all λp=>decide ((p.z.abs.length:Int)<=L)
def Ss(L:Int)(r:Tm × Bool):Bool:=decide (r.1.ps.length<=20)&&(decide ((r.1.k.abs.length:Int)<=L)&&ZC L r.1.ps)
theorem AeZ(rs:List (Tm × Bool))(L:Int)(i:Nat)(h1:i<rs.length)(hl:rs[i].1.ps.length<=20):∀(m k:Nat),rs[i].1.ps.length-k=m->k<=rs[i].1.ps.length->
  D.ask (.lp 5 1) [.ls (rs.map CY),iv L,iv (i:Int),iv (k:Int)] []=Θ (if ZC L (rs[i].1.ps.drop k)=Δ then .tup [iv 2,.ls (rs.map CY),iv L,iv (i:Int)] else .tup [bv Δ,bv Φ],[]):=by
 have hn1:∀ kk,Bj (rs.map CY) i kk=kk (CY rs[i]):=λkk=>At (ξ h1) kk
 revert hn1 hl;generalize rs[i]=r;intro hl hn1;obtain⟨⟨ps,kz⟩,e⟩:=r;simp only at hl ⊢;intro m
 induction m with
 |zero=>
  intro k hm hk;rw[AqX (by omega)];refine Au Kw hn5 (Ald ..) ?_;simp only[Av,hn1,RQ,eN,ND,DK,Ab,Ak];exact Ag rfl
 |succ m ih=>
  intro k hm hk;have h2:k<ps.length:=by omega
  have ih:=ih (k+1) (by omega) (by omega);have hn2:∀ kk,Bj (ps.map eP) k kk=kk (eP ps[k]):=λkk=>At (ξ h2) kk
  rw[κ h2];revert hn2;generalize ps[k]=p;intro hn2;unfold ZC at ih ⊢;rw[AtJ];refine Au Kw hn5 (Ald ..) ?_;simp only[Av,hn1,hn2,RQ,eP,eN,ND,DK,Ab,Ak];refine Aj ?_
  by_cases hz:L<(p.z.abs.length:Int)
  .refine Aj ?_ hz
   rw[decide_eq_false (by omega:¬ (p.z.abs.length:Int)<=L)];rfl
  .refine Ag ?_ hz
   rw[decide_eq_true (by omega:(p.z.abs.length:Int)<=L),Atr,BA (by omega)];refine Aa ih ?_
   cases (ps.drop (k+1)).all λp=>decide ((p.z.abs.length:Int)<=L)<;>rfl
theorem AeY(rs:List (Tm × Bool))(L:Int)(hrl:rs.length<=1000000):∀(m i:Nat),rs.length-i=m->i<=rs.length->
  D.ask (.lp 5 0) [.ls (rs.map CY),iv L,iv (i:Int)] []=Θ (if(rs.drop i).all (Ss L)=Δ then .tup [iv 0] else .tup [bv Δ,bv Φ],[]):=by
 intro m
 induction m with
 |zero=>
  intro i hm hi;rw[AqX (by omega)];refine Au Kw hn5 (Alc ..) ?_;rw[Ak];exact Ag rfl
 |succ m ih=>
  intro i hm hi;have h1:i<rs.length:=by omega
  have ih:=ih (i+1) (by omega) (by omega);have hn1:∀ kk,Bj (rs.map CY) i kk=kk (CY rs[i]):=λkk=>At (ξ h1) kk
  have g1:=AeZ Kw rs L i h1;rw[κ h1,AtJ];revert hn1 g1;generalize rs[i]=r;obtain⟨⟨ps,kz⟩,e⟩:=r;intro hn1 g1;simp only at g1;unfold Ss;simp only;refine Au Kw hn5 (Alc ..) ?_;rw[Ak];refine Aj ?_;simp only[Av,hn1,RQ,eN,ND,DK,Ab,Ak]
  by_cases hp:ps.length<=20
  .refine Ag ?_
   rw[decide_eq_true hp,Atr]
   by_cases hk:(kz.abs.length:Int)<=L
   .refine Ag ?_
    rw[decide_eq_true hk,Atr];have g1:=g1 hp _ 0 rfl (Nat.zero_le _);rw[AqQ]at g1;refine Aa g1 ?_
    cases hr:ZC L ps with
    |true=>
     rw[if_pos rfl,Atr];simp only[ND,DK,Ab,Aop];rw[BA (by omega)];refine Aa ih ?_;unfold Ss
     cases (rs.drop (i+1)).all λr=>decide (r.1.ps.length<=20)&&(decide ((r.1.k.abs.length:Int)<=L)&&ZC L r.1.ps)<;>rfl
    |false=>rfl
   .refine Aj ?_
    rw[decide_eq_false hk];rfl
  .refine Aj ?_
   rw[decide_eq_false hp];rfl
theorem Ai5(rs:List (Tm × Bool))(n:Nat)(L:Int)(hn:n<=1000000):D.ask (.fn 5) [.ls (rs.map CY),iv (n:Int),iv L] []=Θ (bv (decide (rs.length<=n)&&rs.all (Ss L)),[]):=by
 refine AB Kw hn5 (e5 ..) ?_;rw[Ak]
 by_cases h:n<rs.length
 .rw[decide_eq_false (by omega:¬ rs.length<=n)]
  exact Lx (by omega)
 .have g:=AeY Kw rs L (by omega) _ 0 rfl (by omega)
  rw[AqQ]at g;rw[decide_eq_true (by omega:rs.length<=n),Atr];refine Ag ?_;refine Aa g ?_
  cases rs.all (Ss L)<;>rfl
end
structure LmT (t:Tm):Prop where
 ps:∀ p∈t.ps,Limbs p.z.abs
 k:Limbs t.k.abs
theorem LmT.tmb{t:Tm}{e:Bool}{L:Nat}(h:LmT t)(ho:Ss (L:Int) (t,e)=Δ):TmB 20 L t:=by
 unfold Ss ZC at ho;simp only[Bool.and_eq_true,decide_eq_true_eq,List.all_eq_true]at ho;exact⟨ho.1,λp hp=>⟨h.ps p hp,by have:=ho.2.2 p hp;omega⟩,⟨h.k,by have:=ho.2.1;omega⟩⟩
section
open Go.RowKit
def AmK:MFn:=BI [] 17
def Als:Hnt:=⟨[(27,(.agg Ay,[])),(49,(.agg Bl,[])),(50,(.int .i64,[])),(51,(.agg Ay,[])),(52,(.tup [.agg Ay,.agg Ay,.int .i64],[])),(53,(.tup [.agg Bl,.agg Ay],[])),(54,(.agg Bl,[]))],[],[(13,Bl),(16,Ay),(19,[.ls]),(26,[.bool]),(35,Bl),(39,Ay),(40,Ay),(46,[.bool]),(48,Ay),(54,Bl),(59,[.bool]),(62,[.ls]),(63,Br),(65,Ay),(69,Bl),(72,Bl),(74,[.bool])]⟩
def Yv:List (Nat × MFn):=[(17,AmK)]
variable (A:Ar) (D:Orc)
theorem e17(x0_0:Rw)(x0_1:Bool)(x0_2:Rw)(x0_3:Bool):BN A D Al Als (.b .n (.b .n (.b (.t (.t (.b (.b .n (.t (.b .n (.b .n (.t (.t (.t (.t (.t (.t (.t (.b (.t .n) (.t .n))))))))))))) (.b (.t .n) .n)))) (.f (.f (.f (.b .n (.b .n (.f (.f (.f (.f (.f (.f (.f (.f .n)))))))))))))))) 17 AmK [φ [Ψ x0_0,bv x0_1,Ψ x0_2,bv x0_3]] [] =
 Ae D (ω 49) [φ [Ψ x0_0,bv x0_1,Ψ x0_2]] [] [.a,.L,.B,.L,.N,.E] λxs b xs1=>
 Ae D (ω 50) [φ [bv b,Ψ xs1]] [] [.i,.E] λn=>
 br (A.eq (↑(AL xs)) 0)
 (br (A.eq n 0)
 (Θ ((γ [φ [Ψ [],bv Φ,Ψ [],bv Φ],iv 1],[])))
 (br (A.not x0_3)
 (br (A.lt 0 n)
 (Θ ((γ [φ [Ψ [],bv Φ,Ψ [],bv Φ],iv 1],[])))
 (Θ ((γ [φ [Ψ [],bv Φ,Ψ [],bv Φ],iv (-1)],[]))))
 (Θ ((γ [φ [Ψ [],bv Φ,Ψ [],bv Φ],iv (-1)],[])))))
 (Ae D (ω 51) [φ [Ψ xs,bv b,Ψ xs1]] [] [.a,.B,.L,.N,.E] λb1 xs2=>
 Ae D (ω 52) [φ [bv b,Ψ xs1],φ [bv b1,Ψ xs2]] [] [.t,.A,.B,.L,.N,.A,.B,.L,.N,.I,.N,.E] λ_ _ b3 xs4 _=>
 br x0_3
 (br x0_3 (AA D (ω 50) [φ [bv b3,Ψ xs4]] [] λr4 o4=>
 dk [.i,.E] [.v r4,.o o4] λn2=>
 br x0_3 (br (A.eq n2 0)
 (br x0_3 (AA D (ω 53) [φ [Ψ xs,bv b,Ψ xs1]] [] λr5 o5=>
 dk [.t,.A,.L,.B,.L,.N,.A,.B,.L,.N,.N,.E] [.v r5,.o o5] λxs5 b4 xs6 _ _=>
 br x0_3 (br x0_3 (br x0_3 (Bj xs5 0 λcs8=>
 dk [.I,.B,.L,.N] [.l cs8] λ_ b6 xs8=>
 br x0_3 (br x0_3 (br x0_3 (AA D (ω 50) [φ [bv b6,Ψ xs8]] [] λr6 o6=>
 dk [.i,.E] [.v r6,.o o6] λn4=>
 br x0_3 (br (A.lt n4 0)
 (br x0_3 (AA D (ω 27) [iv (-1)] [] λr7 o7=>
 dk [.a,.B,.L,.N,.E] [.v r7,.o o7] λb7 xs9=>
 Ae D (ω 54) [φ [Ψ xs5,bv b4,Ψ xs6],φ [bv b7,Ψ xs9]] [] [.a,.L,.B,.L,.N,.E] λxs10 b8 xs11=>
 Θ ((γ [φ [Ψ xs10,bv b8,Ψ xs11,bv x0_3],iv 0],[]))) Ξ)
 (br x0_3 (Θ ((γ [φ [Ψ xs5,bv b4,Ψ xs6,bv x0_3],iv 0],[]))) Ξ)) Ξ) Ξ) Ξ) Ξ) Ξ) Ξ) Ξ) Ξ)
 (br x0_3 (Θ ((γ [φ [Ψ [],bv Φ,Ψ [],bv Φ],iv (-1)],[]))) Ξ)) Ξ) Ξ)
 (br x0_3 Ξ (br x0_3 Ξ (br x0_3 Ξ (AA D (ω 53) [φ [Ψ xs,bv b,Ψ xs1]] [] λr4 o4=>
 dk [.t,.A,.L,.B,.L,.N,.A,.B,.L,.N,.N,.E] [.v r4,.o o4] λxs5 b4 xs6 _ _=>
 br x0_3 Ξ (br x0_3 Ξ (br x0_3 Ξ (br x0_3 Ξ (br x0_3 Ξ (br x0_3 Ξ (br x0_3 Ξ (br x0_3 Ξ (Θ ((γ [φ [Ψ xs5,bv b4,Ψ xs6,bv x0_3],iv 0],[]))))))))))))))):=by kernel_rfl
end
theorem Ac7{k:Nat}{x:Int}(hx:InB k x)(hk:1<=k)(y:Int):InB (k+1) (qZ x y):=by
 unfold qZ;split
 .rw[Int.sub_eq_add_neg]
  exact(XD hx y _).add ((InB.one hk).neg)
 .exact(XD hx y _).mono (by omega)
def hdS(t:Tm):Int:=match t.ps with
 |[]=>0
 |q::_=>zv q.z
def zrR:Tm × Bool:=(⟨[],⟨Φ,[]⟩⟩,Φ)
def CH(p:Tm)(eq:Bool):(Tm × Bool) × Int:=
 if p.ps=[] then(zrR,if zv p.k=0\/(eq=Φ/\0<zv p.k) then 1 else -1)
 else if eq=Δ then
  (if rZ (zv p.k) (Cu p)=0 then((if hdS (DP p)<0 then((DP p).lf.scale (-1)).tm else DP p,Δ),0) else(zrR,-1))
 else((DP p,Φ),0)
theorem RI{l:Lf}(h:l.pln.tm.ps≠[]):Cu l.pln.tm≠0:=by
 intro h0;have hp:=C5 l.ps;unfold Cu at h0;rw[BE,show l.pln.ps=AO l.ps from rfl,B7 hp]at h0;have hd:=(Ko (AO l.ps) 0).2;rw[h0]at hd
 cases hl:AO l.ps with
 |nil=>
  apply h
  show (AO l.ps).map AP=[]
  rw[hl];rfl
 |cons q r=>
  have hq:q∈AO l.ps:=by rw[hl];exact AqS ..
  have h1:=Nat.eq_zero_of_zero_dvd (hd q hq);exact hp.nz q hq (by omega)
theorem Jj(x:Int):BC x=0 ↔ x=0:=by unfold BC;split<;>(try split)<;>omega
theorem Q2(x:Int):0<BC x ↔ 0<x:=by unfold BC;split<;>(try split)<;>omega
theorem Yo(x:Int):BC x<0 ↔ x<0:=by unfold BC;split<;>(try split)<;>omega
theorem RJ{n k:Nat}{t:Tm}(ht:TmB n k t):InB (k+n) (Cu t:Int):=Oj _ _ (InB.zero _) (λp hp=>by
 rw[←DO]at hp;obtain⟨v,_,rfl⟩:=Arj.1 hp;exact Mx ht v)
theorem WU{n k:Nat}{t:Tm}(ht:TmB n k t)(hk:1<=k):TmB n (k+n+1) (DP t):=by
 unfold DP;have hl:=Gr t.lf.ps;have hl2:=ht.lb.len;split
 .exact(ht.lb.pln.tb).mono (π _) (by omega)
 .refine⟨by simp;omega,λp hp=>?_,((Ac7 ht.k.inb hk _).mono (by omega)).lz⟩
  obtain⟨q,hq,rfl⟩:=Arj.1 hp;rw[←DO]at hq;obtain⟨v,_,rfl⟩:=Arj.1 hq;exact(Ac7 (Mx ht v) (by omega) _).lz
section
variable {D:Orc} (Kt:Knows Al GA D) (Kh:Knows Al Hj D) (F:RF D) (Ks:Knows Al U7 D) (W:RdF D) (Ku:Knows Al Yv D)
include Kt Kh F Ks W Ku
theorem ZU{n k:Nat}{t:Tm}(ht:TmB n k t)(hn:n<=1000000)(hk1:1<=k)(hk:k+3*n<=100000000)(eq:Bool):D.ask (.fn 17) [.agg (CY (t,eq))] []
  = Θ (.tup [.agg (CY (CH t.lf.pln.tm eq).1),iv (CH t.lf.pln.tm eq).2],[]):=by
 have gp:=E9 Kt Kh F ht hn (by omega);have hp:=ht.lb.pln.tb;have hc:t.lf.pln.tm.ps≠[]->Cu t.lf.pln.tm≠0:=RI;refine AB Ku Als (e17 ..) ?_;refine Aa gp ?_;generalize t.lf.pln.tm=p at *;have gs:=F.sign p.k (hp.k.mono (by omega));simp only[eT,eN,ND,DK,Ab];refine Aa gs ?_;simp only[Ak,ND,DK,Ab];unfold CH
 by_cases h0:p.ps=[]
 .rw[if_pos h0,h0]
  refine Bu ?_ (by decide)
  by_cases hz:zv p.k=0
  .rw[if_pos (.inl hz)]
   exact GJ ((Jj _).2 hz)
  .refine AN ?_ (λh=>hz ((Jj _).1 h))
   cases eq with
   |true=>
    refine Ba ?_;rw[if_neg (λh=>h.elim hz λh=>by cases h.1)];rfl
   |false=>
    refine Ac ?_
    by_cases hpz:0<zv p.k
    .rw[if_pos (.inr ⟨rfl,hpz⟩)]
     exact Lx ((Q2 _).2 hpz)
    .rw[if_neg (λh=>h.elim hz λh=>hpz h.2)]
     exact CK (λh=>hpz ((Q2 _).1 h))
 .have hc:=hc h0
  have hpl:p.ps.length≠0:=λh=>h0 (Arn h)
  rw[if_neg h0];refine AN ?_;have gc:=MS Kt Kh F Ks W hp hn (by omega);have hci:=RJ hp;have gd:=W.div p.k (Aq (Cu p:Int)) (hp.k.mono (by omega)) (hci.lz.mono (by omega));rw[AE,if_neg (by omega)]at gd;have gh:=WR Kt Kh F Ks W hp hn (by omega);simp only[eT,eN]at gc;refine Aa gc ?_;simp only[eZ,eN,ND,DK,Ab];refine Aa gd ?_;simp only[eZ,eN,Co,Bh,B8,Bn,BM,Dq,A1,AK,DK];simp only[eT,eN]at gh
  cases eq with
  |false=>
   rw[if_neg (by decide)]
   iterate 4 refine Ba ?_
   refine Aa gh ?_;rfl
  |true=>
   rw[if_pos rfl];have hri:InB 300000001 (rZ (zv p.k) (Cu p:Int)):=by
    unfold rZ;split
    .exact((MK hci (by omega) _ _).mono (by omega)).add (hci.mono (by omega))
    .exact(MK hci (by omega) _ _).mono (by omega)
   have gr:=F.sign (Aq (rZ (zv p.k) (Cu p:Int))) (hri.lz.mono (by omega));rw[AE]at gr
   iterate 2 refine Ac ?_
   refine Aa gr ?_;simp only[C3,AK,DK];refine Ac ?_
   by_cases hr:rZ (zv p.k) (Cu p:Int)=0
   .rw[if_pos hr]
    refine Bu ?_ ((Jj _).2 hr);refine Ac ?_;refine Aa gh ?_;have hst:=WU hp (show 1<=k+n by omega);have hne:(DP p).ps≠[]:=by
     unfold DP;rw[if_neg hc];intro h1;have h2:AO p.lf.ps=[]:=Asj.1 h1;apply hc;unfold Cu;rw[h2];rfl
    have gsc:=QV Kt Kh F (a:=DP p) (x:=Aq (-1)) hst (j:=1) ((InB.one (k:=1) (π _)).neg.lz) hn (by omega) (by omega);rw[AE]at gsc;revert gsc hne;have hq1:∀ q∈(DP p).ps,Lz 1000000000 q.z:=λq hq=>(hst.ps q hq).mono (by omega)
    revert hq1;generalize DP p=S;obtain⟨sp,sk⟩:=S
    cases sp with
    |nil=>intro _ h;exact absurd rfl h
    |cons q sp=>
     intro hq1 _ gsc;have gq:=F.sign q.z (hq1 q (AqS ..));simp only[eZ,eN,Co,Bh,B8,Bn,BM,Dq,A1,AK,DK]
     iterate 3 refine Ac ?_
     rw[At (show (q::sp)[0]? = Θ q from rfl)];simp only[eP,eN,Co,Bh,B8,Bn,BM,Dq,A1,AK,DK]
     iterate 3 refine Ac ?_
     refine Aa gq ?_;simp only[C3,AK,DK];refine Ac ?_
     show _=Θ (γ [.agg (CY (if zv q.z<0 then _ else _,Δ)),iv 0],[])
     by_cases hs:zv q.z<0
     .rw[if_pos hs]
      refine Aj ?_ ((Yo _).2 hs);refine Ac ?_;refine Aa (F.of_ (-1) (by decide) (by decide)) ?_;simp only[eZ,eN,Co,Bh,B8,Bn,BM,Dq,A1,AK,DK];refine Aa gsc ?_;rfl
     .rw[if_neg hs]
      refine Ag ?_ (λh=>hs ((Yo _).1 h));exact HE _ _
   .rw[if_neg hr]
    refine AN ?_ (λh=>hr ((Jj _).1 h));exact HE _ _
end
section
open Go.RowKit
def AmT:MFn:=BI [] 29
def AlB:Hnt:=⟨[],[],[]⟩
def AmH:MFn:=BI [] 12
def Alp:Hnt:=⟨[(26,(.agg Bl,[])),(29,(.tup [.agg B1,.int .i64],[])),(30,(.int .i64,[])),(31,(.tup [.agg Bl,.agg Ay],[])),(32,(.tup [.agg Ay,.agg Ay,.int .i64],[])),(33,(.agg Ay,[])),(34,(.agg Bl,[]))],[],[(9,Bl),(12,[.ls]),(16,Ay),(21,[.bool]),(25,Ay),(34,[.bool]),(37,Bl),(41,Bl),(45,Ay),(46,Bl),(52,Ay),(59,Bl),(64,[.ls]),(65,Br),(67,Ay),(70,Bl),(72,Bl)]⟩
def AdX:List (Nat × MFn):=[(29,AmT),(12,AmH)]
variable (A:Ar) (D:Orc)
theorem e29(x0:Bool):BN A D Al AlB .n 29 AmT [bv x0] [] =
 br x0
 (Θ ((γ [φ [Ψ [],bv Φ,Ψ [],bv Φ],iv 1],[])))
 (Θ ((γ [φ [Ψ [],bv Φ,Ψ [],bv Φ],iv (-1)],[]))):=by kernel_rfl
theorem e12(x0_0:Rw)(x0_1:Bool)(x0_2:Rw)(x0_3:Bool):BN A D Al Alp .n 12 AmH [φ [Ψ x0_0,bv x0_1,Ψ x0_2,bv x0_3]] [] =
 Ae D (ω 26) [φ [Ψ x0_0,bv x0_1,Ψ x0_2]] [] [.a,.L,.B,.L,.N,.E] λxs b xs1=>
 br (A.eq (↑(AL xs)) 0)
 (Ae D (ω 30) [φ [bv b,Ψ xs1]] [] [.i,.E] λn=>
 br (A.eq n 0)
 (Ae D (ω 29) [bv Δ] [] [.t,.A,.L,.B,.L,.B,.N,.I,.N,.E] λxs2 b1 xs3 b2 n1=>
 Θ ((γ [φ [Ψ xs2,bv b1,Ψ xs3,bv b2],iv n1],[])))
 (br (A.not x0_3)
 (Ae D (ω 30) [φ [bv b,Ψ xs1]] [] [.i,.E] λn1=>
 br (A.lt 0 n1)
 (Ae D (ω 29) [bv Δ] [] [.t,.A,.L,.B,.L,.B,.N,.I,.N,.E] λxs2 b1 xs3 b2 n2=>
 Θ ((γ [φ [Ψ xs2,bv b1,Ψ xs3,bv b2],iv n2],[])))
 (Ae D (ω 29) [bv Φ] [] [.t,.A,.L,.B,.L,.B,.N,.I,.N,.E] λxs2 b1 xs3 b2 n2=>
 Θ ((γ [φ [Ψ xs2,bv b1,Ψ xs3,bv b2],iv n2],[]))))
 (Ae D (ω 29) [bv Φ] [] [.t,.A,.L,.B,.L,.B,.N,.I,.N,.E] λxs2 b1 xs3 b2 n1=>
 Θ ((γ [φ [Ψ xs2,bv b1,Ψ xs3,bv b2],iv n1],[])))))
 (br (A.not x0_3)
 (Ae D (ω 31) [φ [Ψ xs,bv b,Ψ xs1]] [] [.t,.A,.L,.B,.L,.N,.A,.B,.L,.N,.N,.E] λxs2 b1 xs3 _ _=>
 Θ ((γ [φ [Ψ xs2,bv b1,Ψ xs3,bv Φ],iv 0],[])))
 (Ae D (ω 33) [φ [Ψ xs,bv b,Ψ xs1]] [] [.a,.B,.L,.N,.E] λb1 xs2=>
 Ae D (ω 32) [φ [bv b,Ψ xs1],φ [bv b1,Ψ xs2]] [] [.t,.A,.B,.L,.N,.A,.B,.L,.N,.I,.N,.E] λ_ _ b3 xs4 _=>
 Ae D (ω 30) [φ [bv b3,Ψ xs4]] [] [.i,.E] λn1=>
 br (A.eq n1 0)
 (Ae D (ω 31) [φ [Ψ xs,bv b,Ψ xs1]] [] [.t,.A,.L,.B,.L,.N,.A,.B,.L,.N,.N,.E] λxs5 b4 xs6 _ _=>
 Bj xs5 0 λcs8=>
 dk [.I,.B,.L,.N] [.l cs8] λ_ b6 xs8=>
 Ae D (ω 30) [φ [bv b6,Ψ xs8]] [] [.i,.E] λn3=>
 br (A.lt n3 0)
 (Ae D (ω 34) [φ [Ψ xs5,bv b4,Ψ xs6]] [] [.a,.L,.B,.L,.N,.E] λxs9 b7 xs10=>
 Θ ((γ [φ [Ψ xs9,bv b7,Ψ xs10,bv Δ],iv 0],[])))
 (Θ ((γ [φ [Ψ xs5,bv b4,Ψ xs6,bv Δ],iv 0],[]))))
 (Ae D (ω 29) [bv Φ] [] [.t,.A,.L,.B,.L,.B,.N,.I,.N,.E] λxs5 b4 xs6 b5 n2=>
 Θ ((γ [φ [Ψ xs5,bv b4,Ψ xs6,bv b5],iv n2],[]))))):=by kernel_rfl
end
structure TiF (D:Orc):Prop where
 plain:∀{n k:Nat} {t:Tm},TmB n k t->n<=1000000->k+n<=300000000->D.ask (.fn 26) [.agg (eT t)] []=Θ (.agg (eT t.lf.pln.tm),[])
 content:∀{n k:Nat} {t:Tm},TmB n k t->n<=1000000->k+n<=300000000->D.ask (.fn 33) [.agg (eT t)] []=Θ (.agg (eZ (Aq (Cu t:Int))),[])
 shrink:∀{n k:Nat} {t:Tm},TmB n k t->n<=1000000->k+n<=300000000->D.ask (.fn 31) [.agg (eT t)] []=Θ (.tup [.agg (eT (DP t)),.agg (eZ (Aq (Cu t:Int)))],[])
 neg:∀{n k:Nat} {t:Tm},TmB n k t->n<=1000000->k+n<=300000000->D.ask (.fn 34) [.agg (eT t)] []=Θ (.agg (eT (t.lf.scale (-1)).tm),[])
section
variable {D:Orc} (Kt:Knows Al AdX D) (Z:ZF D) (W:ZdF D) (T:TiF D)
include Kt
theorem Uj(b:Bool):D.ask (.fn 29) [bv b] []=Θ (.tup [.agg (CY zrR),iv (if b=Δ then 1 else -1)],[]):=by
 refine AB Kt AlB (e29 ..) ?_
 cases b<;>rfl
include Z W T
theorem Ad7{n k:Nat}{t:Tm}(ht:TmB n k t)(hn:n<=1000000)(hk1:1<=k)(hk:k+3*n<=100000000)(eq:Bool):D.ask (.fn 12) [.agg (CY (t,eq))] []
  = Θ (.tup [.agg (CY (CH t.lf.pln.tm eq).1),iv (CH t.lf.pln.tm eq).2],[]):=by
 have gp:=T.plain ht hn (by omega);have hp:=ht.lb.pln.tb;have hc:t.lf.pln.tm.ps≠[]->Cu t.lf.pln.tm≠0:=RI;have k1:=Uj Kt Δ;have k0:=Uj Kt Φ;refine AB Kt Alp (e12 ..) ?_;refine Aa gp ?_;generalize t.lf.pln.tm=p at *;have gs:=Z.sign p.k (hp.k.mono (by omega));simp only[eT,eN,ND,DK,Ab];simp only[Ak];unfold CH
 by_cases h0:p.ps=[]
 .rw[if_pos h0,h0]
  refine Bu ?_ (by decide);refine Aa gs ?_;simp only[C3,AK,DK]
  by_cases hz:zv p.k=0
  .rw[if_pos (.inl hz)]
   refine Bu ?_ ((Jj _).2 hz);refine Aa k1 ?_;rfl
  .refine AN ?_ (λh=>hz ((Jj _).1 h))
   cases eq with
   |true=>
    refine Ba ?_;rw[if_neg (λh=>h.elim hz λh=>by cases h.1)];refine Aa k0 ?_;rfl
   |false=>
    refine Ac ?_;refine Aa gs ?_;simp only[C3,AK,DK]
    by_cases hpz:0<zv p.k
    .rw[if_pos (.inr ⟨by trivial,hpz⟩)]
     refine Aj ?_ ((Q2 _).2 hpz);refine Aa k1 ?_;rfl
    .rw[if_neg (λh=>h.elim hz λh=>hpz h.2)]
     refine Ag ?_ (λh=>hpz ((Q2 _).1 h));refine Aa k0 ?_;rfl
 .have hc:=hc h0
  have hpl:p.ps.length≠0:=λh=>h0 (Arn h)
  rw[if_neg h0];refine AN ?_;have hci:=RJ hp;have gc:=T.content hp hn (by omega);have gd:=W.div p.k (Aq (Cu p:Int)) (hp.k.mono (by omega)) (hci.lz.mono (by omega));rw[AE,if_neg (by omega)]at gd;have gh:=T.shrink hp hn (by omega);simp only[eT,eN]at gc gh
  cases eq with
  |false=>
   rw[if_neg (by decide)];refine Ac ?_;refine Aa gh ?_;rfl
  |true=>
   rw[if_pos rfl];refine Ba ?_;refine Aa gc ?_;simp only[eZ,eN,Co,Bh,B8,Bn,BM,Dq,A1,AK,DK];refine Aa gd ?_;simp only[eZ,eN,Co,Bh,B8,Bn,BM,Dq,A1,AK,DK];have hri:InB 300000001 (rZ (zv p.k) (Cu p:Int)):=by
    unfold rZ;split
    .exact((MK hci (by omega) _ _).mono (by omega)).add (hci.mono (by omega))
    .exact(MK hci (by omega) _ _).mono (by omega)
   have gr:=Z.sign (Aq (rZ (zv p.k) (Cu p:Int))) (hri.lz.mono (by omega));rw[AE]at gr;refine Aa gr ?_;simp only[C3,AK,DK]
   by_cases hr:rZ (zv p.k) (Cu p:Int)=0
   .rw[if_pos hr]
    refine Bu ?_ ((Jj _).2 hr);refine Aa gh ?_;have hst:=WU hp (show 1<=k+n by omega);have hne:(DP p).ps≠[]:=by
     unfold DP;rw[if_neg hc];intro h1;have h2:AO p.lf.ps=[]:=Asj.1 h1;apply hc;unfold Cu;rw[h2];rfl
    have gsc:=T.neg hst hn (by omega);revert gsc hne;have hq1:∀ q∈(DP p).ps,Lz 1000000000 q.z:=λq hq=>(hst.ps q hq).mono (by omega)
    revert hq1;generalize DP p=S;obtain⟨sp,sk⟩:=S
    cases sp with
    |nil=>intro _ h;exact absurd rfl h
    |cons q sp=>
     intro hq1 _ gsc;have gq:=Z.sign q.z (hq1 q (AqS ..));simp only[eZ,eN,Co,Bh,B8,Bn,BM,Dq,A1,AK,DK];rw[At (show (q::sp)[0]? = Θ q from rfl)];simp only[eP,eN,Co,Bh,B8,Bn,BM,Dq,A1,AK,DK];refine Aa gq ?_;simp only[C3,AK,DK]
     show _=Θ (γ [.agg (CY (if zv q.z<0 then _ else _,Δ)),iv 0],[])
     by_cases hs:zv q.z<0
     .rw[if_pos hs]
      refine Aj ?_ ((Yo _).2 hs);refine Aa gsc ?_;rfl
     .rw[if_neg hs]
      exact CK (λh=>hs ((Yo _).1 h))
   .rw[if_neg hr]
    refine AN ?_ (λh=>hr ((Jj _).1 h));refine Aa k0 ?_;rfl
end
section
variable {D:Orc} (Kt:Knows Al FP D) (Kf:Knows Al Lh D) (Ks:Knows Al Ed D) (Z:ZF D) (C:PartF D) (Kc:Knows Al Yx D) (W:ZdF D)
include Kt Kf Ks Z C Kc W
theorem Akl(hs:∀{n k:Nat} {t:Tm},TmB n k t->n<=1000000->k+n<=300000000->D.ask (.fn 31) [.agg (eT t)] []=Θ (.tup [.agg (eT (DP t)),.agg (eZ (Aq (Cu t:Int)))],[])):TiF D where
 plain h hn hk:=EI Kt Ks Z C h hn (by omega)
 content {n k t} h hn hk:=by
  have hp:=EI Kt Ks Z C h hn (by omega);have hl:=Gr t.lf.ps;have hl2:=h.lb.len;have hb:=h.lb.pln.ps;refine VF Kc W (l:=AO t.lf.ps) (k:=t.lf.pln.tm.k) ?_ (by omega) (λp hp=>(hb p hp).mono (by omega));rw[hp]
  show Θ (φ [.ls (((AO t.lf.ps).map AP).map eP),_,_],[])=_
  rw[Asa];rfl
 shrink h hn hk:=hs h hn hk
 neg h hn hk:=Wz Kt Kf Ks Z C h hn (by omega)
end
section
open Go.RowKit
def Nb:List (Nat × Nat):=[(33,0),(26,0),(59,0),(60,0),(101,0),(128,0),(129,0),(142,0),(145,0),(64,0),(104,0)]
def Ut:MFn:=PN Tryz.prog BP [⟨74,(mB 917524),[(1000004,3)],[2,17],[(1,((mB 20),([],[1000000])))]⟩] Δ Φ 26
def OC:Hnt:=⟨[(59,(.sl 0 3,[.row Δ])),(60,(.tup [],[.row Δ])),(62,(.agg Ay,[])),(63,(.agg Ay,[])),(64,(.sl 0 3,[.row Δ]))],[(0,[(1,([.ptr 0 0,.ptr 1 0],[.box Bl,.box [.sl 3 3,.bool,.ls],.del,.row Δ]))])],[(9,[.ls]),(14,Ay),(21,Br),(22,Br),(24,[.int .i64]),(27,[.ls]),(34,[.ls]),(36,Br),(38,[.int .i64]),(40,[.int .i64]),(44,[.ls]),(47,[.ls]),(49,Br),(51,Ay),(53,Ay),(55,Br),(58,[.ls]),(60,[.int .i64]),(62,Ay),(70,[.ls]),(73,Bl)]⟩
def AbZ:Hnt:=⟨[(59,(.sl 1 3,[.keep,.row Δ])),(60,(.tup [],[.row Δ])),(62,(.agg Ay,[])),(63,(.agg Ay,[])),(64,(.sl 0 3,[.row Δ]))],[(0,[(1,([.ptr 0 0,.ptr 1 0],[.box Bl,.box [.sl 3 3,.bool,.ls],.del,.row Δ]))])],[(9,[.ls]),(14,Ay),(21,Br),(22,Br),(24,[.int .i64]),(27,[.ls]),(34,[.ls]),(36,Br),(38,[.int .i64]),(40,[.int .i64]),(44,[.ls]),(47,[.ls]),(49,Br),(51,Ay),(53,Ay),(55,Br),(58,[.ls]),(60,[.int .i64]),(62,Ay),(70,[.ls]),(73,Bl)]⟩
def X2:MFn:=BI [⟨21,(mB 3596),[],[2,3,9],[(1,((mB 12),([],[1000000])))]⟩] 33
def OD:Hnt:=⟨[(26,(.agg [.sl 1 3,.bool,.ls],[.keep,.row Δ])),(74,(.agg Ay,[]))],[(0,[(1,([.ptr 0 0,.ptr 1 0],[.box Ay,.box Ay]))])],[(7,Bl),(13,Br),(14,Br),(15,Ay),(17,Ay),(20,Ay)]⟩
def X1:MFn:=BI [⟨49,(mB 1835068),[],[2,3,5],[(1,((mB 60),([],[])))]⟩] 31
def T6:Hnt:=⟨[(26,(.agg [.sl 0 3,.bool,.ls],[.row Δ])),(30,(.int .i64,[])),(32,(.tup [.agg Ay,.agg Ay,.int .i64],[])),(33,(.agg Ay,[.keep])),(69,(.tup [.agg Ay,.int .i64],[]))],[(0,[(1,([.ptr 0 0,.ptr 1 0,.ptr 2 0,.ptr 3 0],[.box Bl,.box Ay,.box [.sl 5 3,.bool,.ls],.box Ay,.del,.row Δ]))])],[(8,Bl),(10,Bl),(12,Ay),(15,Bl),(16,Ay),(18,[.ls]),(23,Br),(24,Br),(27,[.ls]),(30,Ay),(31,Ay),(35,Br),(40,Ay),(41,Ay),(47,Bl),(48,Ay)]⟩
def U9:List (Nat × MFn):=[(26,Ut),(33,X2),(31,X1)]
variable (A:Ar) (D:Orc)
theorem Ak8(x0:Rw)(x1:Bool)(x2:Rw):BN A D Nb OC .n 26 Ut [φ [Ψ x0,bv x1,Ψ x2]] [] =
 Ae D (ω 59) [Ψ x0] [] [.q 0 3,.R,.X,.E] λn cs=>
 Ae D (ω 60) [χ 0 0 n 3,Arb (Fn.func 61) [] []] [θ cs Δ Δ] [.t,.N,.R,.X,.E] λcs2=>
 Ae D (ω 62) [φ [bv x1,Ψ x2]] [] [.a,.B,.L,.N,.E] λb xs=>
 br ((0+n*3).ble cs2.length) (AA D (ι 26 0) [η 0 0,η 1 0,Ψ (Bi n 3 (ε (n*3) cs2)),iv ↑n,iv 0] [bk [Ψ [],bv Φ,Ψ []],bk [χ 2 0 0 3,bv b,Ψ xs],θ [] Δ Δ] λr3 o3=>
 dk [.t,.C,.x,.X] [.v r3] λc2 l4=>
 br (Bm 1 c2)
 (dk [.P 0 0,.P 1 0,.N,.T,.L,.B,.L,.N,.T,.C,.q 3 3,.B,.L,.N,.D,.R,.X,.E] [.l l4,.o o3] λ_ _ _ n1 b2 xs3 cs7=>
 Ae D (ω 64) [χ 0 0 n1 3,Arb (Fn.func 65) [] []] [θ cs7 Δ Δ] [.q 0 3,.R,.X,.E] λn2 cs8=>
 Θ ((φ [χ 0 0 n2 3,bv b2,Ψ xs3],[AqV (θ cs8 Δ Δ)])))
 (Ξ)) Ξ:=by kernel_rfl
theorem Xq(r0:Rw)(r1:Bool)(r2:Rw)(n4:Nat)(k1:Bool)(k2:Rw)(c4:List AV)(t17:Rw)(t18 t19:Int):CS A D Nb OC .n 26 0 (AJ Ut 0).fst (AJ Ut 0).snd [η 0 0,η 1 0,Ψ t17,iv t18,iv t19] [bk [Ψ r0,bv r1,Ψ r2],bk [χ 2 0 n4 3,bv k1,Ψ k2],{ cells:=c4,st:=Δ,ex:=Δ }] =
 br (A.lt t19 t18)
 (unI t19 λi=>
 Bj t17 i λcs=>
 dk [.I,.B,.L,.N] [.l cs] λn b xs=>
 br (A.lt n 0)
 (AA D (ι 26 0) [η 0 0,η 1 0,Ψ t17,iv t18,iv (A.add δ t19 1)] [bk [Ψ r0,bv r1,Ψ r2],bk [χ 2 0 n4 3,bv k1,Ψ k2],θ c4 Δ Δ] λr o=>
 As 3 [0,1,2] (AH.mk [(0,bk [Ψ r0,bv r1,Ψ r2]),(3,bk [iv n,bv b,Ψ xs]),(1,bk [χ 2 0 n4 3,bv k1,Ψ k2]),(2,θ c4 Δ Δ)] 4 Ξ) [0] r o)
 (br (A.le 0 (A.sub δ (↑n4) 1))
 (unI (A.sub δ (↑n4) 1) λi1=>
 br (i1.blt n4) (EX c4 (0+i1*3+0) 1 λcs1=>
 dk [.I,.N] [.l cs1] λn1=>
 br (A.eq n1 n)
 (unI (A.sub δ (↑n4) 1) λi2=>
 br (i2.blt n4) (EX c4 (0+i2*3+1) 2 λcs2=>
 dk [.B,.L,.N] [.l cs2] λb1 xs1=>
 Ae D (ω 63) [φ [bv b1,Ψ xs1],φ [bv b,Ψ xs]] [] [.a,.B,.L,.N,.E] λb2 xs2=>
 unI (A.sub δ (↑n4) 1) λi3=>
 br (i3.blt n4) (br ((0+i3*3+1+2).ble c4.length) (AA D (ι 26 0) [η 0 0,η 1 0,Ψ t17,iv t18,iv (A.add δ t19 1)] [bk [Ψ r0,bv r1,Ψ r2],bk [χ 2 0 n4 3,bv k1,Ψ k2],θ (AI c4 (0+i3*3+1) [bv b2,Ψ xs2]) Δ Δ] λr3 o1=>
 As 3 [0,1,2] (AH.mk [(0,bk [Ψ r0,bv r1,Ψ r2]),(2,θ (AI c4 (0+i3*3+1) [bv b2,Ψ xs2]) Δ Δ),(3,bk [iv n,bv b,Ψ xs]),(1,bk [χ 2 0 n4 3,bv k1,Ψ k2])] 4 Ξ) [2,0] r3 o1) Ξ) Ξ) Ξ)
 (Ae D (ω 62) [φ [bv b,Ψ xs]] [] [.a,.B,.L,.N,.E] λb1 xs1=>
 br (AZ (n4+1) 40) (br ((0+n4*3).ble c4.length) (AA D (ι 26 0) [η 0 0,η 1 0,Ψ t17,iv t18,iv (A.add δ t19 1)] [bk [Ψ r0,bv r1,Ψ r2],bk [χ 2 0 (n4+1) 3,bv k1,Ψ k2],θ (AqT 0 (ε (0+n4*3) c4)++[iv n,bv b1,Ψ xs1]) Δ Δ] λr3 o1=>
 As 3 [0,1,5] (AH.mk [(0,bk [Ψ r0,bv r1,Ψ r2]),(1,bk [χ 5 0 (n4+1) 3,bv k1,Ψ k2]),(5,θ (AqT 0 (ε (0+n4*3) c4)++[iv n,bv b1,Ψ xs1]) Δ Δ),(4,θ [iv n,bv b1,Ψ xs1] Δ Δ),(3,bk [iv n,bv b,Ψ xs])] 6 Ξ) [2,1,0] r3 o1) Ξ) Ξ)) Ξ)
 (Ae D (ω 62) [φ [bv b,Ψ xs]] [] [.a,.B,.L,.N,.E] λb1 xs1=>
 br (AZ (n4+1) 40) (br ((0+n4*3).ble c4.length) (AA D (ι 26 0) [η 0 0,η 1 0,Ψ t17,iv t18,iv (A.add δ t19 1)] [bk [Ψ r0,bv r1,Ψ r2],bk [χ 2 0 (n4+1) 3,bv k1,Ψ k2],θ (AqT 0 (ε (0+n4*3) c4)++[iv n,bv b1,Ψ xs1]) Δ Δ] λr3 o1=>
 As 3 [0,1,5] (AH.mk [(0,bk [Ψ r0,bv r1,Ψ r2]),(1,bk [χ 5 0 (n4+1) 3,bv k1,Ψ k2]),(5,θ (AqT 0 (ε (0+n4*3) c4)++[iv n,bv b1,Ψ xs1]) Δ Δ),(4,θ [iv n,bv b1,Ψ xs1] Δ Δ),(3,bk [iv n,bv b,Ψ xs])] 6 Ξ) [2,1,0] r3 o1) Ξ) Ξ)))
 (Θ ((γ [iv 0,η 0 0,η 1 0],[AqV (bk [Ψ r0,bv r1,Ψ r2]),AqV (bk [χ 3 0 n4 3,bv k1,Ψ k2]),BO.del,AqV (θ c4 Δ Δ)]))):=by kernel_rfl
theorem Ak9(n0:Nat)(c0:List AV)(x1:Bool)(x2:Rw):BN A D Nb AbZ .n 26 Ut [φ [χ 0 0 n0 3,bv x1,Ψ x2]] [{ cells:=c0,st:=Δ,ex:=Δ }] =
 Ae D (ω 59) [χ 0 0 n0 3] [θ c0 Δ Δ] [.q 1 3,.K,.R,.X,.E] λn cs=>
 Ae D (ω 60) [χ 0 0 n 3,Arb (Fn.func 61) [] []] [θ cs Δ Δ] [.t,.N,.R,.X,.E] λcs2=>
 Ae D (ω 62) [φ [bv x1,Ψ x2]] [] [.a,.B,.L,.N,.E] λb xs=>
 br ((0+n*3).ble cs2.length) (AA D (ι 26 0) [η 0 0,η 1 0,Ψ (Bi n 3 (ε (n*3) cs2)),iv ↑n,iv 0] [bk [Ψ [],bv Φ,Ψ []],bk [χ 2 0 0 3,bv b,Ψ xs],θ [] Δ Δ] λr3 o3=>
 dk [.t,.C,.x,.X] [.v r3] λc3 l5=>
 br (Bm 1 c3)
 (dk [.P 0 0,.P 1 0,.N,.T,.L,.B,.L,.N,.T,.C,.q 3 3,.B,.L,.N,.D,.R,.X,.E] [.l l5,.o o3] λ_ _ _ n1 b2 xs3 cs7=>
 Ae D (ω 64) [χ 0 0 n1 3,Arb (Fn.func 65) [] []] [θ cs7 Δ Δ] [.q 0 3,.R,.X,.E] λn2 cs8=>
 Θ ((φ [χ 1 0 n2 3,bv b2,Ψ xs3],[BO.keep,AqV (θ cs8 Δ Δ)])))
 (Ξ)) Ξ:=by kernel_rfl
theorem Ala(n0:Nat)(c0:List AV)(x1:Bool)(x2:Rw):BN A D Nb OD .n 33 X2 [φ [χ 0 0 n0 3,bv x1,Ψ x2]] [{ cells:=c0,st:=Δ,ex:=Δ }] =
 Ae D (ω 26) [φ [χ 0 0 n0 3,bv x1,Ψ x2]] [θ c0 Δ Δ] [.a,.C,.q 1 3,.B,.L,.N,.K,.R,.X,.E] λn _ _ cs1=>
 br ((0+n*3).ble cs1.length) (AA D (ι 33 0) [η 0 0,η 1 0,Ψ (Bi n 3 (ε (n*3) cs1)),iv ↑n,iv 0] [bk [bv Φ,Ψ []],bk [bv Φ,Ψ []]] λr1 o1=>
 dk [.t,.C,.x,.X] [.v r1] λc3 l5=>
 br (Bm 1 c3)
 (dk [.P 0 0,.P 1 0,.N,.T,.B,.L,.N,.T,.B,.L,.N,.E] [.l l5,.o o1] λ_ _ b2 xs2=>
 Θ ((φ [bv b2,Ψ xs2],[BO.keep])))
 (Ξ)) Ξ:=by kernel_rfl
theorem Xs(b2_0:Bool)(b2_1:Rw)(b3_0:Bool)(b3_1 t9:Rw)(t10 t11:Int):CS A D Nb OD .n 33 0 (AJ X2 0).fst (AJ X2 0).snd [η 0 0,η 1 0,Ψ t9,iv t10,iv t11] [bk [bv b2_0,Ψ b2_1],bk [bv b3_0,Ψ b3_1]] =
 br (A.lt t11 t10)
 (unI t11 λi=>
 Bj t9 i λcs=>
 dk [.I,.B,.L,.N] [.l cs] λn b xs=>
 Ae D (ω 74) [φ [bv b3_0,Ψ b3_1],φ [bv b,Ψ xs]] [] [.a,.B,.L,.N,.E] λb1 xs1=>
 AA D (ι 33 0) [η 0 0,η 1 0,Ψ t9,iv t10,iv (A.add δ t11 1)] [bk [bv b2_0,Ψ b2_1],bk [bv b1,Ψ xs1]] λr1 o1=>
 As 2 [0,1] (AH.mk [(1,bk [bv b1,Ψ xs1]),(0,bk [bv b2_0,Ψ b2_1]),(2,bk [iv n,bv b,Ψ xs])] 3 Ξ) [0,1] r1 o1)
 (Θ ((γ [iv 0,η 0 0,η 1 0],[AqV (bk [bv b2_0,Ψ b2_1]),AqV (bk [bv b3_0,Ψ b3_1])]))):=by kernel_rfl
theorem AoV(x0_0:Rw)(x0_1:Bool)(x0_2:Rw):BN A D Nb T6 .n 31 X1 [φ [Ψ x0_0,bv x0_1,Ψ x0_2]] [] =
 Ae D (ω 26) [φ [Ψ x0_0,bv x0_1,Ψ x0_2]] [] [.a,.C,.q 0 3,.B,.L,.N,.R,.X,.E] λn b xs cs1=>
 Ae D (ω 33) [φ [χ 0 0 n 3,bv b,Ψ xs]] [θ cs1 Δ Δ] [.a,.B,.L,.N,.K,.E] λb1 xs1=>
 Ae D (ω 30) [φ [bv b1,Ψ xs1]] [] [.i,.E] λn1=>
 br (A.eq n1 0)
 (br ((0+n*3).ble cs1.length) (Θ ((γ [φ [Ψ (Bi n 3 (ε (n*3) cs1)),bv b,Ψ xs],φ [bv b1,Ψ xs1]],[]))) Ξ)
 (Ae D (ι 31 0) [η 0 0,η 1 0,η 2 0,η 3 0,χ 4 0 n 3,iv ↑n,iv 0] [bk [Ψ [],bv Φ,Ψ []],bk [bv Φ,Ψ []],bk [χ 4 0 n 3,bv b,Ψ xs],bk [bv b1,Ψ xs1],θ cs1 Δ Δ] [.t,.C,.x,.X,.Y] λc3 l7 o3=>
 br (Bm 1 c3)
 (dk [.P 0 0,.P 1 0,.P 2 0,.P 3 0,.N,.T,.L,.B,.L,.N,.T,.B,.L,.N,.T,.C,.q 5 3,.B,.L,.N,.T,.B,.L,.N,.D,.R,.X,.E] [.l l7,.o o3] λ_ _ _ _ _ n2 b4 xs5 b5 xs6 cs8=>
 Ae D (ω 32) [φ [bv b4,Ψ xs5],φ [bv b5,Ψ xs6]] [] [.t,.A,.B,.L,.N,.A,.B,.L,.N,.I,.N,.E] λb6 xs7 _ _ _=>
 br ((0+n2*3).ble cs8.length) (Θ ((γ [φ [Ψ (Bi n2 3 (ε (n2*3) cs8)),bv b6,Ψ xs7],φ [bv b5,Ψ xs6]],[]))) Ξ)
 (Ξ)):=by kernel_rfl
theorem Abx(r0:Rw)(r1:Bool)(r2:Rw)(i0:Bool)(i1:Rw)(j0:Bool)(j1:Rw)(n0:Nat)(k1:Bool)(k2:Rw)(c0:List AV)(t19 t20:Int):CS A D Nb T6 .n 31 0 (AJ X1 0).fst (AJ X1 0).snd [η 0 0,η 1 0,η 2 0,η 3 0,χ 4 0 n0 3,iv t19,iv t20] [bk [Ψ r0,bv r1,Ψ r2],bk [bv i0,Ψ i1],bk [χ 4 0 n0 3,bv k1,Ψ k2],bk [bv j0,Ψ j1],{ cells:=c0,st:=Δ,ex:=Δ }] =
 br (A.lt t20 t19)
 (unI t20 λi=>
 br (i.blt n0) (EX c0 (0+i*3) 3 λcs=>
 dk [.I,.B,.L,.N] [.l cs] λn b xs=>
 Ae D (ω 69) [φ [bv b,Ψ xs],φ [bv j0,Ψ j1]] [] [.t,.A,.B,.L,.N,.I,.N,.E] λb1 xs1 _=>
 unI t20 λi2=>
 br (i2.blt n0) (br ((0+i2*3+1+2).ble c0.length) (AA D (ι 31 0) [η 0 0,η 1 0,η 2 0,η 3 0,χ 4 0 n0 3,iv t19,iv (A.add δ t20 1)] [bk [Ψ r0,bv r1,Ψ r2],bk [bv i0,Ψ i1],bk [χ 4 0 n0 3,bv k1,Ψ k2],bk [bv j0,Ψ j1],θ (AI c0 (0+i2*3+1) [bv b1,Ψ xs1]) Δ Δ] λr3 o1=>
 As 5 [0,1,2,3,4] (AH.mk [(3,bk [bv j0,Ψ j1]),(1,bk [bv i0,Ψ i1]),(0,bk [Ψ r0,bv r1,Ψ r2]),(4,θ (AI c0 (0+i2*3+1) [bv b1,Ψ xs1]) Δ Δ),(5,bk [iv n,bv b,Ψ xs]),(2,bk [χ 4 0 n0 3,bv k1,Ψ k2])] 6 Ξ) [4,0,1,3] r3 o1) Ξ) Ξ) Ξ)
 (Θ ((γ [iv 0,η 0 0,η 1 0,η 2 0,η 3 0],[AqV (bk [Ψ r0,bv r1,Ψ r2]),AqV (bk [bv i0,Ψ i1]),AqV (bk [χ 5 0 n0 3,bv k1,Ψ k2]),AqV (bk [bv j0,Ψ j1]),BO.del,AqV (θ c0 Δ Δ)]))):=by kernel_rfl
end
