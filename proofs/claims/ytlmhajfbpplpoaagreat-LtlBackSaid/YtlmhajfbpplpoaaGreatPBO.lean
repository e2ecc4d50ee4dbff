/- What ltl's parser comes -/
import Derived.Test.YtlmhajfbpplpoaaGreatPBN
import Derived.Test.YtlmhajfbpplpoaaGreatPBB
set_option linter.all false
open Bool renaming false_eq_true->Arr
open Int renaming natAbs_neg->At3,natCast_mul->Aux
open List renaming append_assoc->Ari,drop->ο,drop_append->AtN,drop_drop->Atc,drop_eq_getElem_cons->Arf,drop_eq_nil_of_le->Ark,drop_zero->υ,filter_cons_of_neg->AtT,filter_cons_of_pos->AtU,getElem?_cons_succ->ArF,getElem?_eq_getElem->Ψ,getElem?_eq_none->Asc,getElem?_set_ne->Asg,getElem?_set_self->Asn,length->At0,length_append->η,length_cons->ν,length_drop->ArU,length_eq_zero_iff->ArO,length_set->ArM,length_singleton->Ase,length_take->ArG,map_take->AtF,mem_append->ArN,mem_cons->Arl,mem_cons_of_mem->Arw,mem_cons_self->Arv,mem_filter->As7,mem_map->AsE,mem_of_mem_drop->Ash,mem_replicate->Auh,mem_singleton->ArL,nil_append->Arx,pairwise_cons->Asb,pairwise_singleton->AtW,replicate->At6,set_eq_take_append_cons_drop->AsR,tail_drop->Atv,take->ι,take_length->Asv,take_succ_eq_append_getElem->AsT
open Nat renaming add_mul->Ar4,add_sub_cancel->AtA,add_zero->Ar5,ble->Arm,le_refl->ω,lt_succ_self->ArB,min_eq_left->AsC,mod_lt->Ate,mul_add->Atj,mul_assoc->AsH,mul_comm->Auj,mul_le_mul_left->Atu,mul_one->Aur,pow_le_pow_right->AsP,pow_pos->AuL,pow_succ->AsV,strongRecOn->Ast,zero_add->Ary,zero_le->ArX
namespace Go.Proofs.YtlmhajfbpplpoaaGreat
open ABlk renaming mk->U
open AV renaming agg->Ξ,ls->V,tup->φ
open BO renaming set->ζ
open IntKind renaming i64->Δ
open Key renaming fn->Φ
open Go.RowKit
set_option linter.unusedSectionVars false
section
variable {D:Orc}
def lpB(y:Sy):ABlk:=U (.ptr 0 0::JV y) true false
def I9(D:Orc)(ts:List Tk)(y:Sy)(kn:Bool):LJ->Nat->Nat->Nat × Nat × Tr->Prop
 |.un,i,d,q=>∃ z,(q.2.1=0->z=q.2.2)/\D.ask (.fn 252) [JL y,iv (d:Int)] [Bt ts y.vars kn i]=some (.tup [.agg (Bq z),iv (q.2.1:Int)],[.set (Bt ts y.vars kn q.1)])
 |.bin,i,d,q=>∃ z,(q.2.1=0->z=q.2.2)/\D.ask (.fn 230) [JL y,iv (d:Int)] [Bt ts y.vars kn i]=some (.tup [.agg (Bq z),iv (q.2.1:Int)],[.set (Bt ts y.vars kn q.1)])
 |.and,i,d,q=>∃ z,(q.2.1=0->z=q.2.2)/\D.ask (.fn 186) [JL y,iv (d:Int)] [Bt ts y.vars kn i]=some (.tup [.agg (Bq z),iv (q.2.1:Int)],[.set (Bt ts y.vars kn q.1)])
 |.or,i,d,q=>∃ z,(q.2.1=0->z=q.2.2)/\D.ask (.fn 125) [JL y,iv (d:Int)] [Bt ts y.vars kn i]=some (.tup [.agg (Bq z),iv (q.2.1:Int)],[.set (Bt ts y.vars kn q.1)])
 |.prop,i,d,q=>∃ z,(q.2.1=0->z=q.2.2)/\D.ask (.fn 70) [JL y,iv (d:Int)] [Bt ts y.vars kn i]=some (.tup [.agg (Bq z),iv (q.2.1:Int)],[.set (Bt ts y.vars kn q.1)])
 |.andL x,i,d,q=>∃ z,(q.2.1=0->z=q.2.2)/\D.ask (.lp 185 0) [JL y,sv (Af [38]),iv 4,iv (d:Int),.fn (.func 230) [JL y] [],.ptr 1 0,.ptr 2 0,.ptr 3 0,iv 0] [Bt ts y.vars kn i,lpB y,SS T0,SS x]
   = some (.tup [iv 0,JL y,.ptr 2 0,.ptr 3 0,iv (q.2.1:Int)],[.set (Bt ts y.vars kn q.1),.del,.set (SS T0),.set (SS z)])
 |.orL x,i,d,q=>∃ z,(q.2.1=0->z=q.2.2)/\D.ask (.lp 185 0) [JL y,sv (Af [124]),iv 5,iv (d:Int),.fn (.func 186) [JL y] [],.ptr 1 0,.ptr 2 0,.ptr 3 0,iv 0] [Bt ts y.vars kn i,lpB y,SS T0,SS x]
   = some (.tup [iv 0,JL y,.ptr 2 0,.ptr 3 0,iv (q.2.1:Int)],[.set (Bt ts y.vars kn q.1),.del,.set (SS T0),.set (SS z)])
theorem QP(Kq:Knows Ag Fj D)(ts:List Tk)(y:Sy)(kn:Bool)(i d e:Nat)(x:Tr)(he:e≠0):D.ask (.lp 185 0) [JL y,sv (Af [38]),iv 4,iv (d:Int),.fn (.func 230) [JL y] [],.ptr 1 0,.ptr 2 0,.ptr 3 0,iv (e:Int)] [Bt ts y.vars kn i,lpB y,SS T0,SS x]
  = some (.tup [iv 0,JL y,.ptr 2 0,.ptr 3 0,iv (e:Int)],[.set (Bt ts y.vars kn i),.del,.set (SS T0),.set (SS x)]):=by
 obtain⟨k,l,r,o,p,q,ks⟩:=x;refine Kq.lp' Fh _ rfl (by kernel_rfl) ((N0 ..).trans ?_);refine Ap (by omega) ?_;rfl
theorem AcR(Kq:Knows Ag Fj D)(ts:List Tk)(y:Sy)(kn:Bool)(i d j e:Nat)(x:Tr)(q:Nat × Nat × Tr)
  (h1:D.ask (.fn 230) [JL y,iv (d:Int)] [Bt ts y.vars kn i]=some (.tup [.agg (Bq x),iv (e:Int)],[.set (Bt ts y.vars kn j)]))
  (h2:e≠0->q=(j,e,T0)) (h3:e=0->I9 D ts y kn (.andL x) j d q) :
  ∃ z,(q.2.1=0->z=q.2.2)/\D.ask (.fn 185) [JL y,sv (Af [38]),iv 4,iv (d:Int),.fn (.func 230) [JL y] []] [Bt ts y.vars kn i]=some (.tup [.agg (Bq z),iv (q.2.1:Int)],[.set (Bt ts y.vars kn q.1)]):=by
 by_cases he:e=0
 .subst he
  obtain⟨z,hz,h4⟩:=h3 rfl;refine⟨z,hz,?_⟩;refine Kq.fn' Fh _ rfl ((Ahx ..).trans ?_);refine Ab h1 ?_;obtain⟨k,l,r,o,p,v,ks⟩:=x;simp only[Bq,Bt,ND,DK,Aa];refine Ab h4 ?_;obtain⟨k,l,r,o,p,v,ks⟩:=z;rfl
 .refine⟨x,λh=>?_,?_⟩
  .rw[h2 he]at h
   exact absurd h he
  refine Kq.fn' Fh _ rfl ((Ahx ..).trans ?_);refine Ab h1 ?_;obtain⟨k,l,r,o,p,v,ks⟩:=x;simp only[Bq,Bt,ND,DK,Aa];rw[h2 he];refine Ab (QP Kq ts y kn j d e (.mk k l r o p v ks) he) ?_;rfl
theorem QO(Kq:Knows Ag Fj D)(ts:List Tk)(y:Sy)(kn:Bool)(i d e:Nat)(x:Tr)(he:e≠0):D.ask (.lp 185 0) [JL y,sv (Af [124]),iv 5,iv (d:Int),.fn (.func 186) [JL y] [],.ptr 1 0,.ptr 2 0,.ptr 3 0,iv (e:Int)] [Bt ts y.vars kn i,lpB y,SS T0,SS x]
  = some (.tup [iv 0,JL y,.ptr 2 0,.ptr 3 0,iv (e:Int)],[.set (Bt ts y.vars kn i),.del,.set (SS T0),.set (SS x)]):=by
 obtain⟨k,l,r,o,p,q,ks⟩:=x;refine Kq.lp' Fh _ rfl (by kernel_rfl) ((NZ ..).trans ?_);refine Ap (by omega) ?_;rfl
theorem AcQ(Kq:Knows Ag Fj D)(ts:List Tk)(y:Sy)(kn:Bool)(i d j e:Nat)(x:Tr)(q:Nat × Nat × Tr)
  (h1:D.ask (.fn 186) [JL y,iv (d:Int)] [Bt ts y.vars kn i]=some (.tup [.agg (Bq x),iv (e:Int)],[.set (Bt ts y.vars kn j)]))
  (h2:e≠0->q=(j,e,T0)) (h3:e=0->I9 D ts y kn (.orL x) j d q) :
  ∃ z,(q.2.1=0->z=q.2.2)/\D.ask (.fn 185) [JL y,sv (Af [124]),iv 5,iv (d:Int),.fn (.func 186) [JL y] []] [Bt ts y.vars kn i]=some (.tup [.agg (Bq z),iv (q.2.1:Int)],[.set (Bt ts y.vars kn q.1)]):=by
 by_cases he:e=0
 .subst he
  obtain⟨z,hz,h4⟩:=h3 rfl;refine⟨z,hz,?_⟩;refine Kq.fn' Fh _ rfl ((Ahw ..).trans ?_);refine Ab h1 ?_;obtain⟨k,l,r,o,p,v,ks⟩:=x;simp only[Bq,Bt,ND,DK,Aa];refine Ab h4 ?_;obtain⟨k,l,r,o,p,v,ks⟩:=z;rfl
 .refine⟨x,λh=>?_,?_⟩
  .rw[h2 he]at h
   exact absurd h he
  refine Kq.fn' Fh _ rfl ((Ahw ..).trans ?_);refine Ab h1 ?_;obtain⟨k,l,r,o,p,v,ks⟩:=x;simp only[Bq,Bt,ND,DK,Aa];rw[h2 he];refine Ab (QO Kq ts y kn j d e (.mk k l r o p v ks) he) ?_;rfl
variable (K:Knows Ag CR D) (Kb:Knows Ag Hh D) (Kq:Knows Ag Fj D) (L:NameF D) {ts:List Tk} (H:Toks ts) (P:PreT ts) (y:Sy) (kn:Bool) (hv:y.vars.length<4611686018427387904) (hp:y.ps.length<=1000000) (hq:∀ p∈y.ps,p.locs.length<4611686018427387904)
include K Kb Kq L H P hv hp hq
theorem Ahe(n:Nat)(ih:∀(j:LJ) (i d:Nat),i<=ts.length->d<=60->BP ts j i<=n->I9 D ts y kn j i d (B6 ts y.vars kn y.ps n j i d))(i d:Nat)(hi:i<=ts.length)(hd:d<=60)(hn:BP ts .un i<=n+1):I9 D ts y kn .un i d (B6 ts y.vars kn y.ps (n+1) .un i d):=by
 have hl:=H.len;have hle:=AgB (ts:=ts) i;have hsg:=Ak5 P i;have eqn:=λz e j=>(λ(h:_=some (.tup [.agg (Bq z),iv e],[.set (Bt ts y.vars kn j)]))=>Kq.fn' Xr (args:=[JL y,iv (d:Int)]) (bs:=[Bt ts y.vars kn i]) _ rfl ((AkJ ..).trans ((K3 (JP K ts y.vars kn i (by omega) (by omega)) _).trans h)))
 unfold I9 B6;dsimp only
 cases hpre:C7 ts i with
 |some k=>
  obtain⟨ho,h40⟩:=Wj hpre;have hlt:=QN H hpre;rw[hpre]at hle;have hk:0<=k:=hle.2 rfl
  by_cases h60:d=60
  .subst h60
   rw[if_pos ⟨by simp,rfl⟩];refine⟨T0,λ_=>rfl,eqn _ _ _ ?_⟩;simp only[MF,Bt,ND,DK,Aa];refine Ab (FW Kq P i) ?_;rw[hpre];simp only[Pj,ND,DK,Aa]
   by_cases h2:(nx ts i).kind=2
   .refine As (by omega) ?_
    refine(EQ (λe=>ho (IK.1 e))).trans ?_;refine Dp hk ?_;refine As rfl ?_;rfl
   .refine Ap (by omega) ?_
    refine Dp hk ?_;refine As rfl ?_;rfl
  .rw[if_neg (λe=>h60 e.2)]
   have g:=ih .un (i+1) (d+1) (by omega) (by omega) (by simp only[BP]at hn ⊢;omega);revert g;rcases B6 ts y.vars kn y.ps n .un (i+1) (d+1) with⟨j,e,t⟩
   intro g;unfold I9 at g;obtain⟨z,hz,g⟩:=g;dsimp only at g hz;have hq2:(BE (j,e,t) λj x=>(j,0,Es k [x]):Nat × Nat × Tr).2.1=e/\(BE (j,e,t) λj x=>(j,0,Es k [x]):Nat × Nat × Tr).1=j:=by
    unfold BE
    by_cases h0:e=0
    .rw[if_pos h0];exact⟨h0.symm,rfl⟩
    .rw[if_neg h0];exact⟨rfl,rfl⟩
   simp only;rw[hq2.1,hq2.2];refine⟨Es k [z],λh=>?_,eqn _ _ _ ?_⟩
   .unfold BE
    rw[hz h,if_pos h]
   .have run:∀ X,(AD D (.fn 252) [JL y,iv ((d+1:Nat):Int)] [Bt ts y.vars kn (i+1)] X=X (.tup [.agg (Bq z),iv (e:Int)]) [.set (Bt ts y.vars kn j)]):=λX=>K3 g X
    simp only[MF,Bt,ND,DK,Aa];refine Ab (FW Kq P i) ?_;rw[hpre,Bo (show i<4611686018427387904 by omega),Bo (show d<4611686018427387904 by omega)];simp only[Pj,ND,DK,Aa]
    by_cases h2:(nx ts i).kind=2
    .refine As (by omega) ?_
     refine(EQ (λe=>ho (IK.1 e))).trans ?_;refine Dp hk ?_;refine Ap (by omega) ?_;refine Dp hk ?_;refine(run _).trans ?_;obtain⟨k1,l1,r1,o1,p1,v1,ks1⟩:=z;simp only[Bq,Bt,ND,DK,Aa];refine Ab (Ei Kq k [.mk k1 l1 r1 o1 p1 v1 ks1]) ?_;simp only[Es,Bq,ND,DK,Aa]
     all_goals rfl
    .refine Ap (by omega) ?_
     refine Dp hk ?_;refine Ap (by omega) ?_;refine Dp hk ?_;refine(run _).trans ?_;obtain⟨k1,l1,r1,o1,p1,v1,ks1⟩:=z;simp only[Bq,Bt,ND,DK,Aa];refine Ab (Ei Kq k [.mk k1 l1 r1 o1 p1 v1 ks1]) ?_;simp only[Es,Bq,ND,DK,Aa]
     all_goals rfl
 |none=>
  cases h40:isT ts i [40]with
  |true=>
   rw[h40]at hsg;have hsg:=hsg.symm;simp only[Bool.and_eq_true,decide_eq_true_eq]at hsg;have hlt:=H.isT h40
   by_cases h60:d=60
   .subst h60
    rw[if_pos ⟨by simp,rfl⟩];refine⟨T0,λ_=>rfl,eqn _ _ _ ?_⟩;simp only[MF,Bt,ND,DK,Aa];refine Ab (FW Kq P i) ?_;rw[hpre];simp only[Pj,ND,DK,Aa];refine As (by omega) ?_;refine DI (by rw[hsg.2]) ?_;refine DP (by omega) ?_;refine As rfl ?_;rfl
   .rw[if_neg (λe=>h60 e.2)]
    have g:=ih .prop (i+1) (d+1) (by omega) (by omega) (by simp only[BP]at hn ⊢;omega);have f:Far ts (i+1) _ _:=Gu H y.vars kn y.ps n .prop (i+1) (d+1) (by omega);revert g f;rcases B6 ts y.vars kn y.ps n .prop (i+1) (d+1) with⟨j,e,t⟩
    intro g f;have hj:j<=ts.length:=f.le;unfold I9 at g;obtain⟨z,hz,g⟩:=g;dsimp only at g hz;simp only[if_true];have start:∀(R:AV × List BO),((AD D (.fn 70) [JL y,iv ((d+1:Nat):Int)] [Bt ts y.vars kn (i+1)] λr3 o3=>Iz r3 λcs3=>D5 cs3 λc2 l14=>Jl c2 λcs4=>E8 Δ cs4 λn6 l15=>NK l15 λxs4 l16=>NK l16 λxs5 l17=>E8 Δ l17 λn7 l18=>NL l18 λs11 l19=>NL l19 λs12 l20=>NK l20 λxs6 l21=>Dg l21<|E8 Δ l14 λn8 l22=>Dg l22<|DW o3 λc3 l23=>Ex true false c3 λcs5=>NK cs5 λxs7 l24=>E8 Δ l24 λn9 l25=>NK l25 λxs8 l26=>IM l26 λb3 l27=>Dg l27<|C8 l23<|
      br (Ah.eq n8 0) (AD D (Φ 248) [AV.ptr 0 0,sv (Af [41])] [U [V xs7,iv n9,V xs8,bv b3] true false] λr4 o4=>Mk Δ r4 λn10=>DW o4 λc4 l28=>Ex true false c4 λcs6=>NK cs6 λxs9 l29=>E8 Δ l29 λn11 l30=>NK l30 λxs10 l31=>IM l31 λb4 l32=>Dg l32<|C8 l28<|
       some ((φ [Ξ [iv n6,V xs4,V xs5,iv n7,sv s11,sv s12,V xs6],iv n10],[ζ (U [V xs9,iv n11,V xs10,bv b4] true false)])))
       (some ((φ [Ξ [iv n6,V xs4,V xs5,iv n7,sv s11,sv s12,V xs6],iv n8],[ζ (U [V xs7,iv n9,V xs8,bv b3] true false)]))))=some R)
      → D.ask (.fn 252) [JL y,iv (d:Int)] [Bt ts y.vars kn i]=some R:=λR hR=>by
     refine Kq.fn' Xr _ rfl ((AkJ ..).trans ((K3 (JP K ts y.vars kn i (by omega) (by omega)) _).trans ?_));simp only[MF,Bt,ND,DK,Aa];refine Ab (FW Kq P i) ?_;rw[hpre,Bo (show d<4611686018427387904 by omega)];simp only[Pj,ND,DK,Aa];refine As (by omega) ?_;refine DI (by rw[hsg.2]) ?_;refine DP (by omega) ?_;refine Ap (by omega) ?_;refine DP (by omega) ?_;refine Ab (BK K ts y.vars kn i (by omega) (by omega) _) ?_;simp only[Bt,ND,DK,Aa,h40,if_true];exact hR
    unfold BE
    by_cases he:e=0
    .subst he
     obtain rfl:=hz rfl;rw[if_pos rfl];dsimp only;refine⟨z,λh=>?_,start _ ?_⟩
     .by_cases h41:isT ts j [41]=true
      .rw[if_pos h41]
      .rw[if_neg h41]at h
       cases h
     .refine Ab g ?_
      obtain⟨k1,l1,r1,o1,p1,v1,ks1⟩:=z;simp only[Bq,Bt,ND,DK,Aa];refine As rfl ?_;refine Ab (Yv K ts y.vars kn j (by omega) (by omega) [41]) ?_
      cases isT ts j [41]<;>rfl
    .rw[if_neg he]
     refine⟨z,λh=>absurd h he,start _ ?_⟩;refine Ab g ?_;obtain⟨k1,l1,r1,o1,p1,v1,ks1⟩:=z;simp only[Bq,Bt,ND,DK,Aa];refine Ap (by omega) ?_;rfl
  |false=>
   rw[if_neg (λe=>by simp at e)];simp only[Arr,if_false];have start:∀(R:AV × List BO),((AD D (Φ 93) [AV.ptr 0 0,sv (Af [64])] [Bt ts y.vars kn i] λr3 o3=>GN r3 λb3=>DW o3 λc2 l14=>Ex true false c2 λcs3=>NK cs3 λxs4 l15=>E8 Δ l15 λn6 l16=>NK l16 λxs5 l17=>IM l17 λb4 l18=>Dg l18<|C8 l14<|
     br b3 (AD D (Φ 266) [JL y] [U [V xs4,iv n6,V xs5,bv b4] true false] λr4 o4=>Iz r4 λcs4=>D5 cs4 λc3 l19=>Jl c3 λcs5=>E8 Δ cs5 λn7 l20=>NK l20 λxs6 l21=>NK l21 λxs7 l22=>E8 Δ l22 λn8 l23=>NL l23 λs11 l24=>NL l24 λs12 l25=>NK l25 λxs8 l26=>Dg l26<|E8 Δ l19 λn9 l27=>Dg l27<|DW o4 λc4 l28=>Ex true false c4 λcs6=>NK cs6 λxs9 l29=>E8 Δ l29 λn10 l30=>NK l30 λxs10 l31=>IM l31 λb5 l32=>Dg l32<|C8 l28<|
       some ((φ [Ξ [iv n7,V xs6,V xs7,iv n8,sv s11,sv s12,V xs8],iv n9],[ζ (U [V xs9,iv n10,V xs10,bv b5] true false)])))
      (AD D (Φ 267) [JL y] [U [V xs4,iv n6,V xs5,bv b4] true false] λr4 o4=>Iz r4 λcs4=>D5 cs4 λc3 l19=>Jl c3 λcs5=>E8 Δ cs5 λn7 l20=>NK l20 λxs6 l21=>NK l21 λxs7 l22=>E8 Δ l22 λn8 l23=>NL l23 λs11 l24=>NL l24 λs12 l25=>NK l25 λxs8 l26=>Dg l26<|E8 Δ l19 λn9 l27=>Dg l27<|DW o4 λc4 l28=>Ex true false c4 λcs6=>NK cs6 λxs9 l29=>E8 Δ l29 λn10 l30=>NK l30 λxs10 l31=>IM l31 λb5 l32=>Dg l32<|C8 l28<|
       some ((φ [Ξ [iv n7,V xs6,V xs7,iv n8,sv s11,sv s12,V xs8],iv n9],[ζ (U [V xs9,iv n10,V xs10,bv b5] true false)]))))=some R)
     → D.ask (.fn 252) [JL y,iv (d:Int)] [Bt ts y.vars kn i]=some R:=λR hR=>by
    refine Kq.fn' Xr _ rfl ((AkJ ..).trans ((K3 (JP K ts y.vars kn i (by omega) (by omega)) _).trans ?_));simp only[MF,Bt,ND,DK,Aa];refine Ab (FW Kq P i) ?_;rw[hpre];simp only[Pj,ND,DK,Aa]
    by_cases h2:(nx ts i).kind=2
    .refine As (by omega) ?_
     have ho:(nx ts i).text≠[40]:=λe=>by
      rw[h40,decide_eq_true h2,decide_eq_true e]at hsg
      cases hsg
     refine(EQ (λe=>ho (IK.1 e))).trans ?_;refine DP (by omega) ?_;refine DP (by omega) ?_;refine Ab (BK K ts y.vars kn i (by omega) (by omega) _) ?_;simp only[Bt,ND,DK,Aa,h40,Arr,if_false];exact hR
    .refine Ap (by omega) ?_
     refine DP (by omega) ?_;refine DP (by omega) ?_;refine Ab (BK K ts y.vars kn i (by omega) (by omega) _) ?_;simp only[Bt,ND,DK,Aa,h40,Arr,if_false];exact hR
   cases h64:isT ts i [64]with
   |true=>
    simp only[if_true];refine⟨(DC ts y.ps (i+1)).2.2,λ_=>rfl,start _ ?_⟩;refine Ab (BK K ts y.vars kn i (by omega) (by omega) _) ?_;simp only[Bt,ND,DK,Aa,h64,if_true];have g:=Zu K Kq L H y kn hp hq (i+1) (H.isT h64);refine Ab g ?_;rcases DC ts y.ps (i+1) with⟨j,e,⟨k,l,r,o,p,q,ks⟩⟩
    rfl
   |false=>
    simp only[Arr,if_false];obtain⟨q,g,hq3⟩:=TZ K Kq L H y Kb kn hv i hi;rw[←hq3];refine⟨q.2.2,λ_=>rfl,start _ ?_⟩;refine Ab (BK K ts y.vars kn i (by omega) (by omega) _) ?_;simp only[Bt,ND,DK,Aa,h64,Arr,if_false];refine Ab g ?_;obtain⟨j,e,⟨k,l,r,o,p,q,ks⟩⟩:=q;rfl
theorem AaU(n:Nat)(ih:∀(j:LJ) (i d:Nat),i<=ts.length->d<=60->BP ts j i<=n->I9 D ts y kn j i d (B6 ts y.vars kn y.ps n j i d))(i d:Nat)(hi:i<=ts.length)(hd:d<=60)(hn:BP ts .bin i<=n+1):I9 D ts y kn .bin i d (B6 ts y.vars kn y.ps (n+1) .bin i d):=by
 have hl:=H.len;have g:=ih .un i d hi hd (by simp only[BP]at hn ⊢;omega);have f:Far ts i _ _:=Gu H y.vars kn y.ps n .un i d hi;unfold I9 B6;dsimp only;revert f g;rcases B6 ts y.vars kn y.ps n .un i d with⟨j,e,t⟩
 intro g f;have hj:j<=ts.length:=f.le;unfold I9 at g;obtain⟨z,hz,g⟩:=g;dsimp only at g hz
 by_cases he:e=0
 .subst he
  have hg:=f.gt rfl;obtain rfl:=hz rfl;have e0:∀ k,BE (j,0,z) k=k j z:=λk=>rfl
  rw[e0]
  cases h85:isT ts j [85]with
  |true=>
   simp only[if_true];have hlt:=H.isT h85;have g2:=ih .bin (j+1) d (by omega) hd (by simp only[BP]at hn ⊢;omega);revert g2;rcases B6 ts y.vars kn y.ps n .bin (j+1) d with⟨j2,e2,t2⟩
   intro g2;unfold I9 at g2;obtain⟨z2,hz2,g2⟩:=g2;dsimp only at g2 hz2;unfold BE;refine⟨Es 11 [z,z2],λh=>?_,?_⟩
   .by_cases h0:e2=0
    .rw[hz2 h0,if_pos h0]
    .rw[if_neg h0]at h
     exact absurd h h0
   have hq2:(if e2=0 then(j2,0,Es 11 [z,t2]) else IU (j2,e2,t2):Nat × Nat × Tr).2.1=e2/\(if e2=0 then(j2,0,Es 11 [z,t2]) else IU (j2,e2,t2):Nat × Nat × Tr).1=j2:=by
    by_cases h0:e2=0
    .rw[if_pos h0];exact⟨h0.symm,rfl⟩
    .rw[if_neg h0];exact⟨rfl,rfl⟩
   rw[hq2.1,hq2.2];refine Kq.fn' TD _ rfl ((AfG ..).trans ?_);refine Ab g ?_;obtain⟨k,l,r,o,p,q,ks⟩:=z;simp only[Bq,Bt,ND,DK,Aa];refine As rfl ?_;refine Ab (BK K ts y.vars kn j (by omega) (by omega) _) ?_;simp only[Bt,ND,DK,Aa,h85,if_true];refine Ab g2 ?_;obtain⟨k2,l2,r2,o2,p2,q2,ks2⟩:=z2;simp only[Bq,Bt,ND,DK,Aa];refine Ab (Ei Kq 11 [.mk k l r o p q ks,.mk k2 l2 r2 o2 p2 q2 ks2]) ?_;simp only[Es,Bq,ND,DK,Aa]
   all_goals rfl
  |false=>
   simp only[Arr,if_false]
   cases h82:isT ts j [82]with
   |true=>
    simp only[if_true];have hlt:=H.isT h82;have g2:=ih .bin (j+1) d (by omega) hd (by simp only[BP]at hn ⊢;omega);revert g2;rcases B6 ts y.vars kn y.ps n .bin (j+1) d with⟨j2,e2,t2⟩
    intro g2;unfold I9 at g2;obtain⟨z2,hz2,g2⟩:=g2;dsimp only at g2 hz2;unfold BE;refine⟨Es 12 [z,z2],λh=>?_,?_⟩
    .by_cases h0:e2=0
     .rw[hz2 h0,if_pos h0]
     .rw[if_neg h0]at h
      exact absurd h h0
    have hq2:(if e2=0 then(j2,0,Es 12 [z,t2]) else IU (j2,e2,t2):Nat × Nat × Tr).2.1=e2/\(if e2=0 then(j2,0,Es 12 [z,t2]) else IU (j2,e2,t2):Nat × Nat × Tr).1=j2:=by
     by_cases h0:e2=0
     .rw[if_pos h0];exact⟨h0.symm,rfl⟩
     .rw[if_neg h0];exact⟨rfl,rfl⟩
    rw[hq2.1,hq2.2];refine Kq.fn' TD _ rfl ((AfG ..).trans ?_);refine Ab g ?_;obtain⟨k,l,r,o,p,q,ks⟩:=z;simp only[Bq,Bt,ND,DK,Aa];refine As rfl ?_;refine Ab (BK K ts y.vars kn j (by omega) (by omega) _) ?_;simp only[Bt,ND,DK,Aa,h85,Arr,if_false];refine Ab (BK K ts y.vars kn j (by omega) (by omega) _) ?_;simp only[Bt,ND,DK,Aa,h82,if_true];refine Ab g2 ?_;obtain⟨k2,l2,r2,o2,p2,q2,ks2⟩:=z2;simp only[Bq,Bt,ND,DK,Aa];refine Ab (Ei Kq 12 [.mk k l r o p q ks,.mk k2 l2 r2 o2 p2 q2 ks2]) ?_;simp only[Es,Bq,ND,DK,Aa]
    all_goals rfl
   |false=>
    simp only[Arr,if_false];refine⟨z,λ_=>rfl,?_⟩;refine Kq.fn' TD _ rfl ((AfG ..).trans ?_);refine Ab g ?_;obtain⟨k,l,r,o,p,q,ks⟩:=z;simp only[Bq,Bt,ND,DK,Aa];refine As rfl ?_;refine Ab (BK K ts y.vars kn j (by omega) (by omega) _) ?_;simp only[Bt,ND,DK,Aa,h85,Arr,if_false];refine Ab (BK K ts y.vars kn j (by omega) (by omega) _) ?_;simp only[Bt,ND,DK,Aa,h82,Arr,if_false]
    all_goals rfl
 .have e0:∀ k,BE (j,e,t) k=(j,e,T0):=λk=>if_neg he
  rw[e0];refine⟨z,λh=>absurd h he,?_⟩;refine Kq.fn' TD _ rfl ((AfG ..).trans ?_);refine Ab g ?_;obtain⟨k,l,r,o,p,q,ks⟩:=z;simp only[Bq,Bt,ND,DK,Aa];refine Ap (by omega) ?_;rfl
theorem ZR(n:Nat)(ih:∀(j:LJ) (i d:Nat),i<=ts.length->d<=60->BP ts j i<=n->I9 D ts y kn j i d (B6 ts y.vars kn y.ps n j i d))(i d:Nat)(hi:i<=ts.length)(hd:d<=60)(hn:BP ts .prop i<=n+1):I9 D ts y kn .prop i d (B6 ts y.vars kn y.ps (n+1) .prop i d):=by
 have hl:=H.len;have g:=ih .or i d hi hd (by simp only[BP]at hn ⊢;omega);have f:Far ts i _ _:=Gu H y.vars kn y.ps n .or i d hi;unfold I9 B6;dsimp only;revert f g;rcases B6 ts y.vars kn y.ps n .or i d with⟨j,e,t⟩
 intro g f;have hj:j<=ts.length:=f.le;unfold I9 at g;obtain⟨z,hz,g⟩:=g;dsimp only at g hz
 by_cases he:e=0
 .subst he
  have hg:=f.gt rfl;obtain rfl:=hz rfl;have e0:∀ k,BE (j,0,z) k=k j z:=λk=>rfl
  rw[e0]
  cases h45:isT ts j [45,62]with
  |true=>
   simp only[if_true];have hlt:=H.isT h45;have g2:=ih .prop (j+1) d (by omega) hd (by simp only[BP]at hn ⊢;omega);revert g2;rcases B6 ts y.vars kn y.ps n .prop (j+1) d with⟨j2,e2,t2⟩
   intro g2;unfold I9 at g2;obtain⟨z2,hz2,g2⟩:=g2;dsimp only at g2 hz2;unfold BE;refine⟨Es 7 [z,z2],λh=>?_,?_⟩
   .by_cases h0:e2=0
    .rw[hz2 h0,if_pos h0]
    .rw[if_neg h0]at h
     exact absurd h h0
   have hq2:(if e2=0 then(j2,0,Es 7 [z,t2]) else IU (j2,e2,t2):Nat × Nat × Tr).2.1=e2/\(if e2=0 then(j2,0,Es 7 [z,t2]) else IU (j2,e2,t2):Nat × Nat × Tr).1=j2:=by
    by_cases h0:e2=0
    .rw[if_pos h0];exact⟨h0.symm,rfl⟩
    .rw[if_neg h0];exact⟨rfl,rfl⟩
   rw[hq2.1,hq2.2];refine Kq.fn' AfW _ rfl ((e70 ..).trans ?_);refine Ab g ?_;obtain⟨k,l,r,o,p,q,ks⟩:=z;simp only[Bq,Bt,ND,DK,Aa];refine As rfl ?_;refine Ab (BK K ts y.vars kn j (by omega) (by omega) _) ?_;simp only[Bt,ND,DK,Aa,h45,if_true];refine Ab g2 ?_;obtain⟨k2,l2,r2,o2,p2,q2,ks2⟩:=z2;simp only[Bq,Bt,ND,DK,Aa];refine Ab (Ei Kq 7 [.mk k l r o p q ks,.mk k2 l2 r2 o2 p2 q2 ks2]) ?_;simp only[Es,Bq,ND,DK,Aa]
   all_goals rfl
  |false=>
   simp only[Arr,if_false];refine⟨z,λ_=>rfl,?_⟩;refine Kq.fn' AfW _ rfl ((e70 ..).trans ?_);refine Ab g ?_;obtain⟨k,l,r,o,p,q,ks⟩:=z;simp only[Bq,Bt,ND,DK,Aa];refine As rfl ?_;refine Ab (BK K ts y.vars kn j (by omega) (by omega) _) ?_;simp only[Bt,ND,DK,Aa,h45,Arr,if_false]
   all_goals rfl
 .have e0:∀ k,BE (j,e,t) k=(j,e,T0):=λk=>if_neg he
  rw[e0];refine⟨z,λh=>absurd h he,?_⟩;refine Kq.fn' AfW _ rfl ((e70 ..).trans ?_);refine Ab g ?_;obtain⟨k,l,r,o,p,q,ks⟩:=z;simp only[Bq,Bt,ND,DK,Aa];refine Ap (by omega) ?_;rfl
theorem T9(n:Nat)(ih:∀(j:LJ) (i d:Nat),i<=ts.length->d<=60->BP ts j i<=n->I9 D ts y kn j i d (B6 ts y.vars kn y.ps n j i d))(x:Tr)(i d:Nat)(hi:i<=ts.length)(hd:d<=60)(hn:BP ts (.andL x) i<=n+1):I9 D ts y kn (.andL x) i d (B6 ts y.vars kn y.ps (n+1) (.andL x) i d):=by
 have hl:=H.len;unfold I9 B6;dsimp only;obtain⟨k1,l1,r1,o1,p1,v1,ks1⟩:=x
 cases hT:isT ts i [38]with
 |false=>
  refine⟨_,λ_=>rfl,?_⟩;refine Kq.lp' Fh _ rfl (by kernel_rfl) ((N0 ..).trans ?_);refine As rfl ?_;refine Ab (BK K ts y.vars kn i (by omega) (by omega) _) ?_;simp only[Bt,ND,DK,Aa,hT]
  all_goals rfl
 |true=>
  rw[if_pos rfl];have hlt:=H.isT hT;have g:=ih .bin (i+1) d (by omega) hd (by simp only[BP]at hn ⊢;omega);have f:Far ts (i+1) _ _:=Gu H y.vars kn y.ps n .bin (i+1) d (by omega);revert f g;rcases B6 ts y.vars kn y.ps n .bin (i+1) d with⟨j,e,t⟩
  intro g f;have hj:j<=ts.length:=f.le;have hg:i+1<=j:=f.ge;unfold BE;dsimp only;unfold I9 at g;obtain⟨z,hz,g⟩:=g;dsimp only at g hz
  by_cases he:e=0
  .subst he
   rw[if_pos rfl];obtain rfl:=hz rfl;obtain⟨w,hw,h4⟩:=ih (.andL (Es 4 [.mk k1 l1 r1 o1 p1 v1 ks1,z])) j d hj hd (by simp only[BP]at hn ⊢;omega);refine⟨w,hw,?_⟩;refine Kq.lp' Fh _ rfl (by kernel_rfl) ((N0 ..).trans ?_);refine As rfl ?_;refine Ab (BK K ts y.vars kn i (by omega) (by omega) _) ?_;simp only[Bt,ND,DK,Aa,hT,if_true];refine Ab g ?_;obtain⟨k,l,r,o,p,v,ks⟩:=z;simp only[Bq,Bt,ND,DK,Aa];refine As rfl ?_;refine Ab (Ei Kq 4 [.mk k1 l1 r1 o1 p1 v1 ks1,.mk k l r o p v ks]) ?_;simp only[Es,Bq,ND,DK,Aa];refine Ab h4 ?_;obtain⟨k,l,r,o,p,v,ks⟩:=w;rfl
  .rw[if_neg he]
   refine⟨.mk k1 l1 r1 o1 p1 v1 ks1,λh=>absurd h he,?_⟩;refine Kq.lp' Fh _ rfl (by kernel_rfl) ((N0 ..).trans ?_);refine As rfl ?_;refine Ab (BK K ts y.vars kn i (by omega) (by omega) _) ?_;simp only[Bt,ND,DK,Aa,hT,if_true];refine Ab g ?_;obtain⟨k,l,r,o,p,v,ks⟩:=z;simp only[Bq,Bt,ND,DK,Aa];refine Ap (by omega) ?_;refine Ab (QP Kq ts y kn j d e (.mk k1 l1 r1 o1 p1 v1 ks1) he) ?_;rfl
theorem V6(n:Nat)(ih:∀(j:LJ) (i d:Nat),i<=ts.length->d<=60->BP ts j i<=n->I9 D ts y kn j i d (B6 ts y.vars kn y.ps n j i d))(i d:Nat)(hi:i<=ts.length)(hd:d<=60)(hn:BP ts .and i<=n+1):I9 D ts y kn .and i d (B6 ts y.vars kn y.ps (n+1) .and i d):=by
 have g:=ih .bin i d hi hd (by simp only[BP]at hn ⊢;omega);have f:Far ts i _ _:=Gu H y.vars kn y.ps n .bin i d hi;have hr:B6 ts y.vars kn y.ps (n+1) .and i d=BE (B6 ts y.vars kn y.ps n .bin i d) λj x=>B6 ts y.vars kn y.ps n (.andL x) j d:=rfl
 rw[hr];revert f g;rcases B6 ts y.vars kn y.ps n .bin i d with⟨j,e,t⟩
 intro g f;have hj:j<=ts.length:=f.le;unfold I9 at g;obtain⟨z,hz,g⟩:=g;unfold I9 BE;dsimp only at g hz f ⊢;obtain⟨w,hw,hrow⟩:=AcR Kq ts y kn i d j e z (if e=0 then B6 ts y.vars kn y.ps n (.andL t) j d else IU (j,e,t)) g (λhe=>by rw[if_neg he];rfl) (λhe=>by
  have hg:=f.gt he;rw[hz he,if_pos he];exact ih (.andL t) j d hj hd (by simp only[BP]at hn ⊢;omega))
 refine⟨w,hw,?_⟩;refine Kq.fn' Aih _ rfl ((Apf ..).trans ?_);refine Ab hrow ?_;rcases (if e=0 then B6 ts y.vars kn y.ps n (.andL t) j d else IU (j,e,t)) with⟨j2,e2,_⟩
 obtain⟨k,l,r,o,p,v,ks⟩:=w;rfl
theorem T8(n:Nat)(ih:∀(j:LJ) (i d:Nat),i<=ts.length->d<=60->BP ts j i<=n->I9 D ts y kn j i d (B6 ts y.vars kn y.ps n j i d))(x:Tr)(i d:Nat)(hi:i<=ts.length)(hd:d<=60)(hn:BP ts (.orL x) i<=n+1):I9 D ts y kn (.orL x) i d (B6 ts y.vars kn y.ps (n+1) (.orL x) i d):=by
 have hl:=H.len;unfold I9 B6;dsimp only;obtain⟨k1,l1,r1,o1,p1,v1,ks1⟩:=x
 cases hT:isT ts i [124]with
 |false=>
  refine⟨_,λ_=>rfl,?_⟩;refine Kq.lp' Fh _ rfl (by kernel_rfl) ((NZ ..).trans ?_);refine As rfl ?_;refine Ab (BK K ts y.vars kn i (by omega) (by omega) _) ?_;simp only[Bt,ND,DK,Aa,hT]
  all_goals rfl
 |true=>
  rw[if_pos rfl];have hlt:=H.isT hT;have g:=ih .and (i+1) d (by omega) hd (by simp only[BP]at hn ⊢;omega);have f:Far ts (i+1) _ _:=Gu H y.vars kn y.ps n .and (i+1) d (by omega);revert f g;rcases B6 ts y.vars kn y.ps n .and (i+1) d with⟨j,e,t⟩
  intro g f;have hj:j<=ts.length:=f.le;have hg:i+1<=j:=f.ge;unfold BE;dsimp only;unfold I9 at g;obtain⟨z,hz,g⟩:=g;dsimp only at g hz
  by_cases he:e=0
  .subst he
   rw[if_pos rfl];obtain rfl:=hz rfl;obtain⟨w,hw,h4⟩:=ih (.orL (Es 5 [.mk k1 l1 r1 o1 p1 v1 ks1,z])) j d hj hd (by simp only[BP]at hn ⊢;omega);refine⟨w,hw,?_⟩;refine Kq.lp' Fh _ rfl (by kernel_rfl) ((NZ ..).trans ?_);refine As rfl ?_;refine Ab (BK K ts y.vars kn i (by omega) (by omega) _) ?_;simp only[Bt,ND,DK,Aa,hT,if_true];refine Ab g ?_;obtain⟨k,l,r,o,p,v,ks⟩:=z;simp only[Bq,Bt,ND,DK,Aa];refine As rfl ?_;refine Ab (Ei Kq 5 [.mk k1 l1 r1 o1 p1 v1 ks1,.mk k l r o p v ks]) ?_;simp only[Es,Bq,ND,DK,Aa];refine Ab h4 ?_;obtain⟨k,l,r,o,p,v,ks⟩:=w;rfl
  .rw[if_neg he]
   refine⟨.mk k1 l1 r1 o1 p1 v1 ks1,λh=>absurd h he,?_⟩;refine Kq.lp' Fh _ rfl (by kernel_rfl) ((NZ ..).trans ?_);refine As rfl ?_;refine Ab (BK K ts y.vars kn i (by omega) (by omega) _) ?_;simp only[Bt,ND,DK,Aa,hT,if_true];refine Ab g ?_;obtain⟨k,l,r,o,p,v,ks⟩:=z;simp only[Bq,Bt,ND,DK,Aa];refine Ap (by omega) ?_;refine Ab (QO Kq ts y kn j d e (.mk k1 l1 r1 o1 p1 v1 ks1) he) ?_;rfl
theorem V5(n:Nat)(ih:∀(j:LJ) (i d:Nat),i<=ts.length->d<=60->BP ts j i<=n->I9 D ts y kn j i d (B6 ts y.vars kn y.ps n j i d))(i d:Nat)(hi:i<=ts.length)(hd:d<=60)(hn:BP ts .or i<=n+1):I9 D ts y kn .or i d (B6 ts y.vars kn y.ps (n+1) .or i d):=by
 have g:=ih .and i d hi hd (by simp only[BP]at hn ⊢;omega);have f:Far ts i _ _:=Gu H y.vars kn y.ps n .and i d hi;have hr:B6 ts y.vars kn y.ps (n+1) .or i d=BE (B6 ts y.vars kn y.ps n .and i d) λj x=>B6 ts y.vars kn y.ps n (.orL x) j d:=rfl
 rw[hr];revert f g;rcases B6 ts y.vars kn y.ps n .and i d with⟨j,e,t⟩
 intro g f;have hj:j<=ts.length:=f.le;unfold I9 at g;obtain⟨z,hz,g⟩:=g;unfold I9 BE;dsimp only at g hz f ⊢;obtain⟨w,hw,hrow⟩:=AcQ Kq ts y kn i d j e z (if e=0 then B6 ts y.vars kn y.ps n (.orL t) j d else IU (j,e,t)) g (λhe=>by rw[if_neg he];rfl) (λhe=>by
  have hg:=f.gt he;rw[hz he,if_pos he];exact ih (.orL t) j d hj hd (by simp only[BP]at hn ⊢;omega))
 refine⟨w,hw,?_⟩;refine Kq.fn' AhU _ rfl ((AoO ..).trans ?_);refine Ab hrow ?_;rcases (if e=0 then B6 ts y.vars kn y.ps n (.orL t) j d else IU (j,e,t)) with⟨j2,e2,_⟩
 obtain⟨k,l,r,o,p,v,ks⟩:=w;rfl
theorem Anw:∀(n:Nat) (j:LJ) (i d:Nat),i<=ts.length->d<=60->BP ts j i<=n->I9 D ts y kn j i d (B6 ts y.vars kn y.ps n j i d):=by
 intro n
 induction n with
 |zero=>intro j i d _ _ hn;cases j<;>simp[BP]at hn
 |succ n ih=>
  intro j i d hi hd hn
  cases j with
  |un=>exact Ahe K Kb Kq L H P y kn hv hp hq n ih i d hi hd hn
  |bin=>exact AaU K Kb Kq L H P y kn hv hp hq n ih i d hi hd hn
  |and=>exact V6 K Kb Kq L H P y kn hv hp hq n ih i d hi hd hn
  |or=>exact V5 K Kb Kq L H P y kn hv hp hq n ih i d hi hd hn
  |prop=>exact ZR K Kb Kq L H P y kn hv hp hq n ih i d hi hd hn
  |andL x=>exact T9 K Kb Kq L H P y kn hv hp hq n ih x i d hi hd hn
  |orL x=>exact T8 K Kb Kq L H P y kn hv hp hq n ih x i d hi hd hn
end
section
open Go.RowKit
variable (A:Ar) (D:Orc)
end
section
variable {D:Orc}
def AlH(y:Sy):ABlk:=U (JV y) true false
variable   (L:RNameF D) {ts:List Tk} (H:Toks ts) (y:Sy) (kn:Bool) (hv:y.vars.length<4611686018427387904) (hp:y.ps.length<=1000000) (hq:∀ p∈y.ps,p.locs.length<4611686018427387904)
include L H hp hq
omit L H hp hq
variable (hnum:∀ i,(nx ts i).kind=3->(nx ts i).text≠[])
include L H hnum hv hp hq
end
def Xt(c:UInt8):Nat:=if D2 c then 1 else if BF c then 3 else if Hs c then 4 else 2
theorem Ag6{c:UInt8}{l:List UInt8}{k n:Nat}(h:DM (c::l)=.tok k n):k=Xt c:=by
 rw[B4]at h;unfold Xt
 by_cases h1:D2 c=true
 .rw[if_pos h1]at h ⊢
  split at h
  .cases h
  .injection h with h1 h2;exact h1.symm
 rw[if_neg h1]at h ⊢
 by_cases h2:BF c=true
 .rw[if_pos h2]at h ⊢
  split at h
  .cases h
  .split at h
   .cases h
   .injection h with h1 h2;exact h1.symm
 rw[if_neg h2]at h ⊢
 by_cases h3:Hs c=true
 .rw[if_pos h3]at h ⊢
  injection h with h1 h2;exact h1.symm
 rw[if_neg h3]at h ⊢;split at h
 .cases h
 .injection h with h1 h2;exact h1.symm
def KdF(t:Tk):Prop:=(t.kind=5/\t.text=[])\/∃ c r,t.text=c::r/\t.kind=Xt c
theorem We:∀(n:Nat) (l:List UInt8) (p:Nat × Nat),l.length<=n->∀ ts,IC l p=.ok ts->∀ t∈ts,KdF t:=by
 intro n
 induction n with
 |zero=>
  intro l p hl ts h t ht;obtain rfl:l=[]:=ArO.1 (by omega);rw[Du]at h;have h:LexR.ok [⟨5,[],(adv p []).1,(adv p []).2⟩]=.ok ts:=h;injection h with h
  subst h;obtain rfl:=ArL.1 ht;exact .inl ⟨rfl,rfl⟩
 |succ n ih=>
  intro l p hl ts h t ht;rw[Du]at h
  cases hk:DM (l.drop (ER false l)) with
  |fin=>
   rw[hk]at h;injection h with h
   subst h;obtain rfl:=ArL.1 ht;exact .inl ⟨rfl,rfl⟩
  |err e=>rw[hk]at h;cases h
  |tok k m=>
   rw[hk]at h;have hm:=Hi hk;rw[ArU]at hm;obtain⟨us,hu,rfl⟩:=XX h;rcases Arl.1 ht with rfl|ht
   .right
    cases e:l.drop (ER false l) with
    |nil=>
     have:=congrArg At0 e;rw[ArU]at this;simp at this;omega
    |cons c r=>
     rw[e]at hk;obtain⟨m,rfl⟩:∃ q,m=q+1:=⟨m-1,by omega⟩;exact⟨c,r.take m,rfl,Ag6 hk⟩
   .exact ih _ _ (by rw[ArU];omega) us hu t ht
theorem Sd{l:List UInt8}{ts:List Tk}(h:Cl l=.ok ts):∀ t∈ts,KdF t:=by
 unfold Cl at h;split at h
 .cases h
 .exact We _ _ _ (ω _) ts h
theorem Wc{l:List UInt8}{ts:List Tk}(h:Cl l=.ok ts):PreT ts:=by
 have hk:=Sd h;have hn:=((H8 l).1 ts h).ne;have one:∀(i:Nat) (c:UInt8),(nx ts i).text=[c]->(nx ts i).kind=Xt c:=λi c hc=>by
  rcases hk _ (Adl hn i) with⟨_,h2⟩|⟨d,r,h1,h2⟩
  .rw[hc]at h2;cases h2
  .rw[hc]at h1
   injection h1 with h1 _
   rw[h1];exact h2
 refine⟨λi h=>?_,λi h=>?_⟩
 .rcases h with h|h
  .rw[one i _ h];rfl
  .rw[one i _ h];rfl
 .rcases h with h|h|h
  .rw[one i _ h];rfl
  .rw[one i _ h];rfl
  .rw[one i _ h];rfl
def CS(s:List UInt8)(vars:List ByteArray)(ps:List Pr):Tr × (Nat × Nat × Nat):=match Cl s with
 |.err c ln co=>(T0,(ln,co,c))
 |.ok ts=>((Dy ts vars true ps).2.2,AbG ts (Dy ts vars true ps).1 (Dy ts vars true ps).2.1)
theorem Zx{ts:List Tk}(H:Toks ts)(vars:List ByteArray)(kn:Bool)(ps:List Pr):(Dy ts vars kn ps).1<=ts.length:=by
 have f:Far ts 0 _ _:=Gu H vars kn ps (8*ts.length+5) .prop 0 0 (ArX _);exact f.le
section
variable {D:Orc}
theorem Wn(Kw:Knows Ag Ny D)(s:ByteArray)(y:Sy)(x:List (List AV))(ln co e:Nat)(he:e≠0)(hall:D.ask (.fn 91) [sv s] []=some (.tup [.ls x,.agg [iv (ln:Int),iv (co:Int)],iv (e:Int)],[])):D.ask (.fn 53) [sv s,.ls (y.vars.map eS),bv true,.fn (.func 69) [] [.ptr 0 0]] [AlH y]=some (GO T0 (ln,co,e),[.keep]):=by
 refine Kw.fn' AkY _ rfl ((Amm ..).trans ?_);refine Ab hall ?_;simp only[ND,DK,Aa];refine Ap (by omega) ?_;unfold GO TO;rw[if_neg he];rfl
set_option linter.unusedSectionVars false
variable (K:Knows Ag CR D) (Kb:Knows Ag Hh D) (Kq:Knows Ag Fj D) (Kr:Knows Ag Rn D) (Kw:Knows Ag Ny D) (L:NameF D) (y:Sy) (hv:y.vars.length<4611686018427387904) (hp:y.ps.length<=1000000) (hq:∀ p∈y.ps,p.locs.length<4611686018427387904)
include K Kb Kq Kr Kw L hv hp hq
theorem ZO{ts:List Tk}(H:Toks ts)(P:PreT ts):∃ z,((Dy ts y.vars true y.ps).2.1=0->z=(Dy ts y.vars true y.ps).2.2)/\D.ask (.fn 69) [.ptr 0 0,.ptr 1 0] [Bt ts y.vars true 0,AlH y]
  = some (.tup [.agg (Bq z),iv ((Dy ts y.vars true y.ps).2.1:Int)],[.set (Bt ts y.vars true (Dy ts y.vars true y.ps).1),.keep]):=by
 obtain⟨z,hz,g⟩:=Anw K Kb Kq L H P y true hv hp hq (8*ts.length+5) .prop 0 0 (ArX _) (by omega) (by simp only[BP];omega);refine⟨z,hz,?_⟩;refine Kr.fn' AmI _ rfl ((e69 ..).trans ?_);refine Ab g ?_;unfold Dy;rcases B6 ts y.vars true y.ps (8*ts.length+5) .prop 0 0 with⟨j,e,_⟩
 obtain⟨k,l,r,o,p,q,ks⟩:=z;rfl
theorem ZB(s:ByteArray){ts:List Tk}(H:Toks ts)(P:PreT ts)(hall:D.ask (.fn 91) [sv s] []=some (.tup [.ls (ts.map MF),.agg [iv 0,iv 0],iv 0],[])):D.ask (.fn 53) [sv s,.ls (y.vars.map eS),bv true,.fn (.func 69) [] [.ptr 0 0]] [AlH y]
  = some (GO (Dy ts y.vars true y.ps).2.2 (AbG ts (Dy ts y.vars true y.ps).1 (Dy ts y.vars true y.ps).2.1),[.keep]):=by
 have hl:=H.len;have hf:=Zx H y.vars true y.ps;obtain⟨z,hz,g⟩:=ZO K Kb Kq Kr Kw L y hv hp hq H P;refine Kw.fn' AkY _ rfl ((Amm ..).trans ?_);refine Ab hall ?_;simp only[ND,DK,Aa];refine As rfl ?_;refine Ab g ?_;revert hf hz;rcases Dy ts y.vars true y.ps with⟨j,e,t⟩
 intro hf hz;have hj:j<=ts.length:=hf;have ha:=JP K ts y.vars true j (by omega) (by omega);dsimp only at hz ⊢;unfold GO AbG TO
 by_cases h0:e=0
 .obtain rfl:=hz h0
  obtain⟨k,l,r,o,p,q,ks⟩:=z;simp only[Bq,Bt,ND,DK,Aa];refine As (by omega) ?_;refine Ab ha ?_;simp only[MF,Bt,ND,DK,Aa]
  by_cases h5:(nx ts j).kind=5
  .refine As (by omega) ?_
   refine As (by omega) ?_;simp only[h0,h5,if_true]
   all_goals rfl
  .refine Ap (by omega) ?_
   refine Ap (by omega) ?_;refine Ab ha ?_;simp only[MF,Bt,ND,DK,Aa,h0,h5,if_true,if_false]
   all_goals rfl
 .obtain⟨k,l,r,o,p,q,ks⟩:=z
  simp only[Bq,Bt,ND,DK,Aa];refine Ap (by omega) ?_
  first|refine Ap (by omega) ?_|skip
  refine Ab ha ?_;simp only[MF,Bt,ND,DK,Aa,h0,if_false]
  all_goals rfl
theorem QM(A:LexA D)(s:ByteArray)(hs:s.size<=9223372036854775807):D.ask (.fn 32) [sv s,.agg (JV y)] []=some (GO (CS s.data.toList y.vars y.ps).1 (CS s.data.toList y.vars y.ps).2,[]):=by
 refine Kr.fn' Amw _ rfl ((e32 ..).trans ?_);unfold CS
 cases h:Cl s.data.toList with
 |err c ln co=>
  have hc:=(H8 s.data.toList).2 c ln co h;have g:=Wn Kw s y _ ln co c hc (A.err s c ln co hs h);refine Ab g ?_;unfold GO TO;simp only[hc,if_false,T0,Bq,ND,DK,Aa]
  all_goals rfl
 |ok ts=>
  have f:=(H8 s.data.toList).1 ts h;have hn:=Wb h;have g:=ZB K Kb Kq Kr Kw L y hv hp hq s (f.toks (by omega)) (Wc h) (A.ok s ts hs h);refine Ab g ?_;unfold GO;simp only;rcases TO (AbG ts (Dy ts y.vars true y.ps).1 (Dy ts y.vars true y.ps).2.1).2.2 (Dy ts y.vars true y.ps).2.2 with⟨k,l,r,o,p,q,ks⟩
  rfl
end
theorem QL{t:Tr}(vars:List ByteArray)(ps:List Pr)(h:AU t 0=true)(hs:(BQ t).length<=16384):∃ ts,Cl (BQ t)=.ok ts/\Fc ts (0+(Ay t).length) ((5,[])::[])/\ResK (Ho vars ps t) (Dy ts vars true ps) (0+(Ay t).length) t:=by
 obtain⟨hl,_⟩:=Ale _ t 0 (ArB _) h;obtain⟨ts,h1,h2⟩:=Zl hl hs;have hlen:ts.length=(Ay t).length+1:=by
  have:=congrArg At0 h2;simpa using this
 have hat:Fc ts 0 (Ay t++(5,[])::[]):=h2;have L:=(Acz vars ps (ts:=ts) _ t 0 (ArB _) h).p (8*ts.length+5) 0 0 (5,[]) [] hat (.inl rfl) (by decide) h (by omega);exact⟨ts,h1,Dr hat,L⟩
theorem Uc{t:Tr}{vars:List ByteArray}{ps:List Pr}(h:AU t 0=true)(hs:(BQ t).length<=16384)(hk:Ho vars ps t=true):CS (BQ t) vars ps=(t,0,0,0):=by
 obtain⟨ts,h1,h2,h3⟩:=QL vars ps h hs;unfold CS;rw[h1];simp only;rw[h3.y hk];unfold AbG;have hk:=(A2 h2).1.1;simp only[if_true,hk]
theorem Zs{t:Tr}{vars:List ByteArray}{ps:List Pr}(h:AU t 0=true)(hs:(BQ t).length<=16384)(hk:Ho vars ps t=false):(CS (BQ t) vars ps).2.2.2=110:=by
 obtain⟨ts,h1,h2,h3⟩:=QL vars ps h hs;have h4:=h3.n hk;unfold CS;rw[h1];simp only;rw[h4];rfl
theorem Ud{s:List UInt8}{vars:List ByteArray}{ps:List Pr}(hs:16384<s.length):CS s vars ps=(T0,1,1,2):=by
 unfold CS Cl;rw[if_pos hs]
def Au:List Nat->Nat
 |[]=>0
 |x::r=>x+4294967296*Au r
def Limbs(l:List Nat):Prop:=∀ x∈l,x<4294967296
def Be(n:Nat):List Nat:=if n=0 then [] else(n % 4294967296)::Be (n / 4294967296)
termination_by n
decreasing_by omega
theorem I3:Be 0=[]:=by rw[Be];rfl
theorem I5{n:Nat}(h:n≠0):Be n=(n % 4294967296)::Be (n / 4294967296):=by rw[Be,if_neg h]
theorem AK:∀(n:Nat),Limbs (Be n):=by
 intro n
 induction n using Ast with
 |ind n ih=>
  by_cases h:n=0
  .subst h;rw[I3];intro x hx;cases hx
  .rw[I5 h]
   intro x hx;rcases Arl.1 hx with rfl|hx
   .exact Ate _ (by omega)
   .exact ih (n / 4294967296) (by omega) x hx
theorem BA:∀(n:Nat),Au (Be n)=n:=by
 intro n
 induction n using Ast with
 |ind n ih=>
  by_cases h:n=0
  .subst h;rw[I3];rfl
  .rw[I5 h,Au,ih (n / 4294967296) (by omega)]
   omega
def DV:List Nat->Nat
 |[]=>0
 |x::r=>if DV r=0/\x=0 then 0 else DV r+1
theorem Fu:∀ l:List Nat,DV l<=l.length
 |[]=>ω _
 |x::r=>by
  have:=Fu r;unfold DV;rw[ν];split<;>omega
theorem Limbs.cons{x:Nat}{r:List Nat}(h:Limbs (x::r)):x<4294967296/\Limbs r:=⟨h x (Arv ..),λy hy=>h y (Arw _ hy)⟩
theorem C0:Limbs []:=λ_ h=>by cases h
theorem C9{x:Nat}{r:List Nat}(h:x<4294967296)(h2:Limbs r):Limbs (x::r):=λy hy=>by
 rcases Arl.1 hy with rfl|hy
 .exact h
 .exact h2 y hy
theorem Zn{a b:List Nat}(h:Limbs a)(h2:Limbs b):Limbs (a++b):=λx hx=>by
 rcases ArN.1 hx with hx|hx
 .exact h x hx
 .exact h2 x hx
theorem Limbs.take{l:List Nat}(h:Limbs l)(n:Nat):Limbs (l.take n):=λx hx=>h x (List.mem_of_mem_take hx)
theorem Limbs.drop{l:List Nat}(h:Limbs l)(n:Nat):Limbs (l.drop n):=λx hx=>h x (Ash hx)
theorem Limbs.get{l:List Nat}(h:Limbs l){i:Nat}(hi:i<l.length):l[i]<4294967296:=h _ (List.getElem_mem hi)
theorem Aep:∀{l:List Nat},DV l=0->Au l=0
 |[],_=>rfl
 |x::r,h=>by
  unfold DV at h;split at h
  .rename_i h2
   rw[Au,Aep h2.1,h2.2]
  .omega
theorem Aet:∀{l:List Nat},Au l=0->DV l=0
 |[],_=>rfl
 |x::r,h=>by
  rw[Au]at h;unfold DV;rw[if_pos ⟨Aet (by omega),by omega⟩]
theorem PK:∀{l:List Nat},Limbs l->l.take (DV l)=Be (Au l)
 |[],_=>by rw[Au,I3];rfl
 |x::r,h=>by
  obtain⟨h1,h2⟩:=h.cons;have ih:=PK h2;unfold DV;split
  .rename_i h3
   rw[List.take_zero,Au,Aep h3.1,h3.2,I3]
  .rename_i h3
   have h0:Au (x::r)≠0:=by
    intro h0;rw[Au]at h0;exact h3 ⟨Aet (by omega),by omega⟩
   rw[List.take_succ_cons,I5 h0,Au];have e1:(x+4294967296*Au r) % 4294967296=x:=by omega
   have e2:(x+4294967296*Au r) / 4294967296=Au r:=by omega
   rw[e1,e2,ih]
theorem Hk:∀(a b:List Nat),Au (a++b)=Au a+4294967296 ^ a.length*Au b
 |[],b=>by simp[Au]
 |x::r,b=>by
  rw[List.cons_append,Au,Hk r b,Au,ν,AsV,Atj,←AsH,Auj 4294967296 (4294967296 ^ r.length)];omega
theorem Fy:∀{l:List Nat},Limbs l->Au l<4294967296 ^ l.length
 |[],_=>by simp[Au]
 |x::r,h=>by
  obtain⟨h1,h2⟩:=h.cons;have:=Fy h2;rw[Au,ν,AsV];omega
theorem I4(l:List Nat)(h:Limbs l):(Be (Au l)).length=DV l:=by
 rw[←PK h,ArG];have:=Fu l;omega
theorem D7{n k:Nat}(h:n<4294967296 ^ k):(Be n).length<=k:=by
 induction k generalizing n with
 |zero=>
  have:n=0:=by simpa using h
  subst this;rw[I3];exact ω _
 |succ k ih=>
  by_cases h0:n=0
  .subst h0;rw[I3];exact ArX _
  .rw[I5 h0,ν]
   have:n / 4294967296<4294967296 ^ k:=by
    rw[Nat.div_lt_iff_lt_mul (by omega)];rw[AsV]at h;exact h
   have:=ih this;omega
theorem T4{n k:Nat}(h:4294967296 ^ k<=n):k<(Be n).length:=by
 by_cases h2:k<(Be n).length
 .exact h2
 .have h3:=Fy (AK n)
  rw[BA]at h3;have h4:4294967296 ^ (Be n).length<=4294967296 ^ k:=AsP (by omega) (by omega);omega
theorem Rq:∀{l:List Nat},0<DV l->∃ x,l[DV l-1]? = some x/\x≠0
 |[],h=>by simp[DV]at h
 |y::r,h=>by
  by_cases h1:DV r=0
  .have h2:y≠0:=by
    intro h2;unfold DV at h;rw[if_pos ⟨h1,h2⟩]at h;omega
   refine⟨y,?_,h2⟩;unfold DV;rw[if_neg (λe=>h2 e.2),h1];rfl
  .obtain⟨x,h3,h4⟩:=Rq (l:=r) (by omega)
   refine⟨x,?_,h4⟩;unfold DV;rw[if_neg (λe=>h1 e.1)];have:DV r+1-1=(DV r-1)+1:=by omega
   rw[this,ArF,h3]
theorem Yq:∀{l:List Nat} {i x:Nat},l[i]? = some x->x≠0->i<DV l
 |[],i,x,h,_=>by simp at h
 |y::r,0,x,h,h2=>by
  have h:y=x:=by simpa using h
  unfold DV;rw[if_neg (λe=>h2 (by rw[←h];exact e.2))];omega
 |y::r,i+1,x,h,h2=>by
  rw[ArF]at h;have:=Yq h h2;unfold DV;rw[if_neg (λe=>by omega)];omega
theorem Aag{l:List Nat}{n:Nat}(h:DV l<=n+1)(h2:l[n]? = some 0):DV l<=n:=by
 by_cases h3:DV l=n+1
 .obtain⟨x,h4,h5⟩:=Rq (l:=l) (by omega)
  rw[h3,AtA,h2]at h4;injection h4 with h4
  exact absurd h4.symm h5
 .omega
def eL(n:Nat):List AV:=[.v (.int .u32 (n:Int))]
def eN(l:List Nat):AV:=.ls (l.map eL)
theorem BI(x:Nat):(eL x).length=1:=rfl
def Mq:Nat->List Nat->List Nat->List Nat
 |c,[],_=>[c]
 |c,x::a,b=>((x+b.headD 0+c) % 4294967296)::Mq ((x+b.headD 0+c) / 4294967296) a b.tail
theorem G2{b:List Nat}(h:Limbs b):b.headD 0<4294967296:=by
 cases b with
 |nil=>simp
 |cons y b=>exact h.cons.1
theorem Limbs.tail{b:List Nat}(h:Limbs b):Limbs b.tail:=by
 cases b with
 |nil=>exact h
 |cons y b=>exact h.cons.2
theorem Oa(b:List Nat):Au b=b.headD 0+4294967296*Au b.tail:=by
 cases b<;>rfl
theorem M5:∀(a b:List Nat) (c:Nat),b.length<=a.length->Au (Mq c a b)=c+Au a+Au b
 |[],b,c,h=>by
  obtain rfl:b=[]:=ArO.1 (by simpa using h);simp[Mq,Au]
 |x::a,b,c,h=>by
  have ih:=M5 a b.tail ((x+b.headD 0+c) / 4294967296) (by simp at h ⊢;omega);rw[Mq,Au,ih,Au,Oa b];omega
theorem J9:∀(a b:List Nat) (c:Nat),Limbs a->Limbs b->c<=1->Limbs (Mq c a b)
 |[],b,c,_,_,hc=>C9 (by omega) C0
 |x::a,b,c,ha,hb,hc=>by
  have h1:=G2 hb;have h2:=ha.cons;exact C9 (Ate _ (by omega)) (J9 a b.tail _ h2.2 hb.tail (by omega))
def Me:Nat->List Nat->List Nat->List Nat
 |_,[],_=>[]
 |c,x::a,b=>(if x<b.headD 0+c then x+4294967296-(b.headD 0+c) else x-(b.headD 0+c))::Me (if x<b.headD 0+c then 1 else 0) a b.tail
def SF:Nat->List Nat->List Nat->Nat
 |c,[],_=>c
 |c,x::a,b=>SF (if x<b.headD 0+c then 1 else 0) a b.tail
theorem Ym:∀(a b:List Nat) (c:Nat),c<=1->SF c a b<=1
 |[],_,_,h=>h
 |x::a,b,c,h=>Ym a b.tail _ (by split<;>omega)
theorem Rt:∀(a b:List Nat) (c:Nat),Limbs a->Limbs b->c<=1->b.length<=a.length->Au (Me c a b)+Au b+c=Au a+4294967296 ^ a.length*SF c a b
 |[],b,c,_,_,_,h=>by
  obtain rfl:b=[]:=ArO.1 (by simpa using h);simp[Me,SF,Au]
 |x::a,b,c,ha,hb,hc,h=>by
  have h1:=G2 hb;have h2:=ha.cons;rw[Me,SF,Au,Au,Oa b,ν,AsV];have ih:=Rt a b.tail (if x<b.headD 0+c then 1 else 0) h2.2 hb.tail (by split<;>omega) (by simp at h ⊢;omega);rw[Auj (4294967296 ^ a.length) 4294967296,AsH];revert ih;generalize 4294967296 ^ a.length*SF (if x<b.headD 0+c then 1 else 0) a b.tail=z;generalize Au (Me (if x<b.headD 0+c then 1 else 0) a b.tail)=s;intro ih;split at ih
  .rename_i h3
   rw[if_pos h3];omega
  .rename_i h3
   rw[if_neg h3];omega
theorem KV:∀(a b:List Nat) (c:Nat),Limbs a->Limbs b->c<=1->Limbs (Me c a b)
 |[],_,_,_,_,_=>C0
 |x::a,b,c,ha,hb,hc=>by
  have h1:=G2 hb;have h2:=ha.cons;refine C9 ?_ (KV a b.tail _ h2.2 hb.tail (by split<;>omega));split<;>omega
theorem PE:∀(a b:List Nat) (c:Nat),(Me c a b).length=a.length
 |[],_,_=>rfl
 |x::a,b,c=>by rw[Me,ν,PE a,ν]
theorem Aeu{a b:List Nat}(ha:Limbs a)(hb:Limbs b)(h:b.length<=a.length)(hv:Au b<=Au a):Au (Me 0 a b)=Au a-Au b:=by
 have h1:=Rt a b 0 ha hb (by omega) h;have h2:=Fy (KV a b 0 ha hb (by omega));rw[PE]at h2;have h3:=Ym a b 0 (by omega);have h4:=Fy ha;rcases Nat.lt_or_ge (SF 0 a b) 1 with h5|h5
 .rw[show SF 0 a b=0 by omega]at h1
  omega
 .rw[show SF 0 a b=1 by omega]at h1
  omega
def O7:Nat->Nat->List Nat->List Nat->List Nat
 |_,c,[],o=>c::o.tail
 |x,c,y::b,o=>((x*y+o.headD 0+c) % 4294967296)::O7 x ((x*y+o.headD 0+c) / 4294967296) b o.tail
theorem Rs:∀(x:Nat) (b o:List Nat) (c:Nat),(o.drop b.length).headD 0=0->Au (O7 x c b o)=x*Au b+Au o+c
 |x,[],o,c,h=>by
  have h:o.headD 0=0:=h;rw[O7,Au,Au,Oa o,h];omega
 |x,y::b,o,c,h=>by
  have h2:(o.tail.drop b.length).headD 0=0:=by
   rw[ν]at h
   cases o with
   |nil=>simp
   |cons z o=>exact h
  have ih:=Rs x b o.tail ((x*y+o.headD 0+c) / 4294967296) h2;have e:x*(y+4294967296*Au b)=x*y+4294967296*(x*Au b):=by
   rw[Atj,←AsH,Auj x 4294967296,AsH]
  rw[O7,Au,ih,Au,Oa o,e];omega
theorem Sg{x y:Nat}(hx:x<4294967296)(hy:y<4294967296):x*y<=18446744065119617025:=by
 have:=Nat.mul_le_mul (show x<=4294967295 by omega) (show y<=4294967295 by omega);omega
theorem O8:∀(x:Nat) (b o:List Nat) (c:Nat),x<4294967296->Limbs b->Limbs o->c<4294967296->Limbs (O7 x c b o)
 |x,[],o,c,_,_,ho,hc=>C9 hc ho.tail
 |x,y::b,o,c,hx,hb,ho,hc=>by
  have h1:=G2 ho;have h2:=hb.cons;have h3:=Sg hx h2.1;exact C9 (Ate _ (by omega)) (O8 x b o.tail _ hx h2.2 ho.tail (by omega))
def Ih:Nat->Nat->List Nat->List Nat
 |_,c,[]=>[c]
 |m,c,x::a=>((x*m+c) % 4294967296)::Ih m ((x*m+c) / 4294967296) a
theorem NB:∀(m:Nat) (a:List Nat) (c:Nat),Au (Ih m c a)=Au a*m+c
 |m,[],c=>by simp[Ih,Au]
 |m,x::a,c=>by
  rw[Ih,Au,NB m a,Au,Ar4,AsH];omega
theorem Mb:∀(m:Nat) (a:List Nat) (c:Nat),m<4294967296->Limbs a->c<4294967296->Limbs (Ih m c a)
 |m,[],c,_,_,hc=>C9 hc C0
 |m,x::a,c,hm,ha,hc=>by
  have h2:=ha.cons;have h3:=Sg h2.1 hm;exact C9 (Ate _ (by omega)) (Mb m a _ hm h2.2 (by omega))
def FP(a b:Nat):Int:=if a<b then -1 else if b<a then 1 else 0
theorem Aa9{a b:List Nat}(ha:Limbs a)(hb:Limbs b)(h:a.length=b.length)(x y:Nat):FP (Au (a++[x])) (Au (b++[y]))=if x<y then -1 else if y<x then 1 else FP (Au a) (Au b):=by
 rw[Hk,Hk,←h];have h1:=Fy ha;have h2:=Fy hb;rw[←h]at h2;simp only[Au,Nat.mul_zero,Ar5];revert h1 h2;generalize 4294967296 ^ a.length=k;generalize Au a=p;generalize Au b=q;intro h1 h2
 by_cases h3:x<y
 .rw[if_pos h3]
  have:k*(x+1)<=k*y:=Atu _ h3;rw[Atj]at this;unfold FP;rw[if_pos (by omega)]
 .rw[if_neg h3]
  by_cases h4:y<x
  .rw[if_pos h4]
   have:k*(y+1)<=k*x:=Atu _ h4;rw[Atj]at this;unfold FP;rw[if_neg (by omega),if_pos (by omega)]
  .rw[if_neg h4]
   obtain rfl:x=y:=by omega
   unfold FP
   by_cases h5:p<q
   .rw[if_pos (by omega),if_pos h5]
   .rw[if_neg (by omega),if_neg h5]
    by_cases h6:q<p
    .rw[if_pos (by omega),if_pos h6]
    .rw[if_neg (by omega),if_neg h6]
structure Zi where
 neg:Bool
 abs:List Nat
def JG(neg:Bool)(n:Nat):Int:=if neg then -(n:Int) else n
def zv(z:Zi):Int:=JG z.neg (Au z.abs)
def Br(n:Int):Zi:=⟨decide (n<0),Be n.natAbs⟩
def eZ(z:Zi):List AV:=[bv z.neg,eN z.abs]
theorem AgO(n:Int):JG (decide (n<0)) n.natAbs=n:=by
 unfold JG
 by_cases h:n<0
 .rw[decide_eq_true h,if_pos rfl];omega
 .rw[decide_eq_false h,if_neg (by simp)];omega
theorem Cj(n:Int):zv (Br n)=n:=by
 unfold zv Br;rw[BA];exact AgO n
theorem Ahp(neg:Bool)(v:Nat):Br (JG neg v)=⟨neg&&decide (0<v),Be v⟩:=by
 unfold Br JG
 cases neg with
 |false=>
  rw[if_neg (by simp),Bool.false_and,decide_eq_false (by omega)];rfl
 |true=>
  rw[if_pos rfl,Bool.true_and,At3,Int.natAbs_natCast]
  congr 1
  by_cases h:0<v
  .rw[decide_eq_true h,decide_eq_true (by omega)]
  .rw[decide_eq_false h,decide_eq_false (by omega)]
theorem WY:Br 0=⟨false,[]⟩:=by
 unfold Br;rw[show (0:Int).natAbs=0 from rfl,I3];rfl
structure Lz (k:Nat) (z:Zi):Prop where
 lim:Limbs z.abs
 len:z.abs.length<=k
theorem Lz.mono{k m:Nat}{z:Zi}(h:Lz k z)(hm:k<=m):Lz m z:=⟨h.lim,by have:=h.len;omega⟩
def InB(k:Nat)(n:Int):Prop:=n.natAbs<4294967296 ^ k
theorem InB.lz{k:Nat}{n:Int}(h:InB k n):Lz k (Br n):=⟨AK _,D7 h⟩
theorem Lz.inb{k:Nat}{z:Zi}(h:Lz k z):InB k (zv z):=by
 unfold InB zv;have h1:=Fy h.lim;have h2:4294967296 ^ z.abs.length<=4294967296 ^ k:=AsP (by omega) h.len;have h3:(JG z.neg (Au z.abs)).natAbs=Au z.abs:=by
  unfold JG;split
  .rw[At3];rfl
  .rfl
 omega
theorem InB.mono{k m:Nat}{n:Int}(h:InB k n)(hm:k<=m):InB m n:=by
 unfold InB at *;have h2:4294967296 ^ k<=4294967296 ^ m:=AsP (by omega) hm;omega
theorem InB.add{k:Nat}{a b:Int}(ha:InB k a)(hb:InB k b):InB (k+1) (a+b):=by
 unfold InB at *;have:=Int.natAbs_add_le a b;rw[AsV];omega
theorem InB.neg{k:Nat}{a:Int}(ha:InB k a):InB k (-a):=by
 unfold InB at *;rw[At3];exact ha
theorem InB.mul{k m:Nat}{a b:Int}(ha:InB k a)(hb:InB m b):InB (k+m) (a*b):=by
 unfold InB at *;rw[Int.natAbs_mul,Nat.pow_add];have h1:a.natAbs*b.natAbs<=a.natAbs*4294967296 ^ m:=Atu _ (Nat.le_of_lt hb);have h2:a.natAbs*4294967296 ^ m<4294967296 ^ k*4294967296 ^ m:=Nat.mul_lt_mul_of_pos_right ha (AuL (by omega));omega
theorem InB.zero(k:Nat):InB k 0:=by
 unfold InB;exact AuL (by omega)
theorem InB.one{k:Nat}(h:1<=k):InB k 1:=by
 have:InB 1 1:=by unfold InB;decide
 exact this.mono h
def Hw(a b:Int):Int:=if a<b then -1 else if b<a then 1 else 0
def WI(n:Int):Int:=if n<0 then -1 else if 0<n then 1 else 0
theorem AeE(z:Zi):zv z<0 ↔ z.neg=true/\0<Au z.abs:=by
 obtain⟨n,l⟩:=z
 cases n with
 |true=>
  show (-(Au l:Int)<0) ↔ (true=true/\0<Au l)
  exact⟨λh=>⟨rfl,by omega⟩,λh=>by have:=h.2;omega⟩
 |false=>
  show ((Au l:Int)<0) ↔ (false=true/\0<Au l)
  exact⟨λh=>by omega,λh=>by cases h.1⟩
theorem Yz(z:Zi):zv z=0 ↔ Au z.abs=0:=by
 unfold zv JG;split<;>omega
theorem LD{n:Nat}:0<(Be n).length ↔ 0<n:=by
 constructor
 .intro h
  by_cases h0:n=0
  .subst h0;rw[I3]at h;simp at h
  .omega
 .intro h
  rw[I5 (by omega)];simp
def A6(v:Int):List (Int × Int)->Int
 |[]=>0
 |p::r=>(if p.1=v then p.2 else 0)+A6 v r
theorem Hx{v:Int}:∀{l:List (Int × Int)},(∀ p∈l,p.1≠v)->A6 v l=0
 |[],_=>rfl
 |p::r,h=>by
  rw[A6,if_neg (h p (Arv ..)),Hx λq hq=>h q (Arw _ hq)];rfl
theorem Ox{v:Int}{a b:List (Int × Int)}(h:a.Perm b):A6 v a=A6 v b:=by
 induction h with
 |nil=>rfl
 |cons x _ ih=>rw[A6,A6,ih]
 |swap x y l=>rw[A6,A6,A6,A6];omega
 |trans _ _ ih1 ih2=>rw[ih1,ih2]
theorem My{v:Int}(hv:0<=v):∀ l:List (Int × Int),A6 v (l.filter λp=>decide (0<=p.1))=A6 v l
 |[]=>rfl
 |p::r=>by
  have ih:=My hv r
  by_cases h:0<=p.1
  .rw[AtU (by simpa using h),A6,A6,ih]
  .rw[AtT (by simpa using h),A6,ih,if_neg (by omega)]
   omega
structure Pln (l:List (Int × Int)):Prop where
 asc:l.Pairwise λa b=>a.1<b.1
 pos:∀ p∈l,0<=p.1
 nz:∀ p∈l,p.2≠0
theorem Ya:Pln []:=⟨.nil,by simp,by simp⟩
theorem Pln.tail{p:Int × Int}{r:List (Int × Int)}(h:Pln (p::r)):Pln r:=⟨(Asb.1 h.asc).2,λq hq=>h.pos q (Arw _ hq),λq hq=>h.nz q (Arw _ hq)⟩
theorem Pln.head{p:Int × Int}{r:List (Int × Int)}(h:Pln (p::r)):A6 p.1 (p::r)=p.2:=by
 rw[A6,if_pos rfl,Hx λq hq=>by have:=(Asb.1 h.asc).1 q hq;omega];omega
theorem Pln.below{p:Int × Int}{r:List (Int × Int)}(h:Pln (p::r)){v:Int}(hv:v<p.1):A6 v (p::r)=0:=by
 refine Hx λq hq=>?_
 rcases Arl.1 hq with rfl|hq
 .omega
 .have:=(Asb.1 h.asc).1 q hq
  omega
theorem Pln.ext:∀{a b:List (Int × Int)},Pln a->Pln b->(∀ v,A6 v a=A6 v b)->a=b
 |[],[],_,_,_=>rfl
 |[],q::s,_,hb,h=>by
  have h1:=hb.head;rw[←h q.1]at h1;exact absurd h1.symm (hb.nz q (Arv ..))
 |p::r,[],ha,_,h=>by
  have h1:=ha.head;rw[h p.1]at h1;exact absurd h1.symm (ha.nz p (Arv ..))
 |p::r,q::s,ha,hb,h=>by
  have h1:=ha.head;have h2:=hb.head;have n1:=ha.nz p (Arv ..);have n2:=hb.nz q (Arv ..);have e:p.1=q.1:=by
   rcases Int.lt_trichotomy p.1 q.1 with h3|h3|h3
   .rw[h p.1,hb.below h3]at h1
    exact absurd h1.symm n1
   .exact h3
   .rw[←h q.1,ha.below h3]at h2
    exact absurd h2.symm n2
  have e2:p.2=q.2:=by rw[←h1,←h2,h p.1,e]
  have ep:p=q:=Prod.ext e e2;rw[ep,Pln.ext ha.tail hb.tail λv=>by
   have:=h v;rw[A6,A6,ep]at this;omega]
def Ll(v c:Int):List (Int × Int)->List (Int × Int)
 |[]=>if c=0 then [] else [(v,c)]
 |p::r=>if v<p.1 then(if c=0 then p::r else(v,c)::p::r) else if p.1<v then p::Ll v c r else if p.2+c=0 then r else(v,p.2+c)::r
theorem MN(v c u:Int):∀ l:List (Int × Int),A6 u (Ll v c l)=(if v=u then c else 0)+A6 u l
 |[]=>by
  unfold Ll;split
  .rename_i h;simp[A6,h]
  .simp[A6]
 |p::r=>by
  have ih:=MN v c u r;unfold Ll;split
  .split
   .rename_i h;rw[h];simp
   .rfl
  .split
   .rw[A6,ih,A6];omega
   .have e:p.1=v:=by omega
    split
    .rename_i h
     rw[A6,e];split<;>omega
    .rw[A6,A6,e]
     split<;>omega
theorem TQ{v c:Int}:∀{l:List (Int × Int)} {q:Int × Int},q∈Ll v c l->q.1=v\/q∈l
 |[],q,h=>by
  unfold Ll at h;split at h
  .exact .inr h
  .rw[ArL.1 h];exact .inl rfl
 |p::r,q,h=>by
  unfold Ll at h;split at h
  .split at h
   .exact .inr h
   .rcases Arl.1 h with h|h
    .rw[h];exact .inl rfl
    .exact .inr h
  .split at h
   .rcases Arl.1 h with h|h
    .rw[h];exact .inr (Arv ..)
    .rcases TQ h with h|h
     .exact .inl h
     .exact .inr (Arw _ h)
   .split at h
    .exact .inr (Arw _ h)
    .rcases Arl.1 h with h|h
     .rw[h];exact .inl rfl
     .exact .inr (Arw _ h)
theorem TR{v c:Int}(hv:0<=v):∀{l:List (Int × Int)},Pln l->Pln (Ll v c l)
 |[],_=>by
  unfold Ll;split
  .exact Ya
  .rename_i h
   exact⟨AtW _ _,by simpa using hv,by simpa using h⟩
 |p::r,h=>by
  have ih:=TR (c:=c) hv h.tail;have hp:=Asb.1 h.asc;unfold Ll;split
  .rename_i h1
   split
   .exact h
   .rename_i h2
    refine⟨Asb.2 ⟨λq hq=>?_,h.asc⟩,λq hq=>?_,λq hq=>?_⟩
    .rcases Arl.1 hq with rfl|hq
     .exact h1
     .have:=hp.1 q hq;simp only;omega
    .rcases Arl.1 hq with rfl|hq
     .exact hv
     .exact h.pos q hq
    .rcases Arl.1 hq with rfl|hq
     .exact h2
     .exact h.nz q hq
  .split
   .rename_i h1 h2
    refine⟨Asb.2 ⟨λq hq=>?_,ih.asc⟩,λq hq=>?_,λq hq=>?_⟩
    .rcases TQ hq with e|hq
     .rw[e];exact h2
     .exact hp.1 q hq
    .rcases Arl.1 hq with rfl|hq
     .exact h.pos _ (Arv ..)
     .exact ih.pos q hq
    .rcases Arl.1 hq with rfl|hq
     .exact h.nz _ (Arv ..)
     .exact ih.nz q hq
   .rename_i h1 h2
    split
    .exact h.tail
    .rename_i h3
     refine⟨Asb.2 ⟨λq hq=>?_,hp.2⟩,λq hq=>?_,λq hq=>?_⟩
     .have:=hp.1 q hq;simp only;omega
     .rcases Arl.1 hq with rfl|hq
      .exact hv
      .exact h.tail.pos q hq
     .rcases Arl.1 hq with rfl|hq
      .exact h3
      .exact h.tail.nz q hq
def Fi:List (Int × Int)->List (Int × Int)
 |[]=>[]
 |p::r=>if 0<=p.1 then Ll p.1 p.2 (Fi r) else Fi r
theorem FG:∀ l:List (Int × Int),Pln (Fi l)
 |[]=>Ya
 |p::r=>by
  unfold Fi;split
  .rename_i h;exact TR h (FG r)
  .exact FG r
theorem KK(v:Int):∀ l:List (Int × Int),A6 v (Fi l)=if 0<=v then A6 v l else 0
 |[]=>by simp[Fi,A6]
 |p::r=>by
  have ih:=KK v r;unfold Fi
  by_cases h:0<=p.1
  .by_cases hv:0<=v
   .rw[if_pos h,MN,ih,A6,if_pos hv,if_pos hv]
   .rw[if_pos h,MN,ih,if_neg hv,if_neg hv,if_neg (by omega)]
    rfl
  .by_cases hv:0<=v
   .rw[if_neg h,ih,A6,if_pos hv,if_pos hv,if_neg (show ¬ p.1=v by omega)]
    omega
   .rw[if_neg h,ih,if_neg hv,if_neg hv]
theorem UC{l r:List (Int × Int)}(h:Pln r)(hc:∀ v,0<=v->A6 v r=A6 v l):r=Fi l:=by
 refine Pln.ext h (FG l) λv=>?_
 rw[KK]
 by_cases hv:0<=v
 .rw[if_pos hv,hc v hv]
 .rw[if_neg hv]
  refine Hx λp hp e=>?_
  have:=h.pos p hp;omega
theorem Wz{l:List (Int × Int)}(h:Pln l):Fi l=l:=(UC h λ_ _=>rfl).symm
theorem Ra:∀ l:List (Int × Int),(Fi l).length<=l.length
 |[]=>ω _
 |p::r=>by
  have ih:=Ra r;have ins:∀ l:List (Int × Int),(Ll p.1 p.2 l).length<=l.length+1:=λl=>by
   induction l with
   |nil=>unfold Ll;split<;>simp
   |cons q s ih=>
    unfold Ll;split
    .split<;>simp
    .split
     .simpa using ih
     .split
      .simp;omega
      .simp
  unfold Fi;split
  .have:=ins (Fi r)
   rw[ν];omega
  .rw[ν]
   omega
section
variable {α:Type} (key:α->Int)
def kf(l:List α)(p:Nat):Int:=match l[p]? with
 |some x=>key x
 |none=>0
theorem GK{l:List α}{p:Nat}(h:p<l.length):kf key l p=key l[p]:=by
 unfold kf;rw[Ψ h]
def DA(l:List α)(i j:Nat):List α:=match l[i]?,l[j]? with
 |some x,some y=>(l.set i y).set j x
 |_,_=>l
theorem En{l:List α}{i j:Nat}(hi:i<l.length)(hj:j<l.length):DA l i j=(l.set i l[j]).set j l[i]:=by
 unfold DA;rw[Ψ hi,Ψ hj]
theorem JI(l:List α)(i j:Nat):(DA l i j).length=l.length:=by
 unfold DA;split<;>simp
theorem Xs{l:List α}{i j:Nat}(hi:i<l.length)(hj:j<l.length)(p:Nat):kf key (DA l i j) p=if p=j then kf key l i else if p=i then kf key l j else kf key l p:=by
 rw[En hi hj];unfold kf
 by_cases h1:p=j
 .subst h1
  rw[if_pos rfl,Asn (by simpa using hj),Ψ hi]
 .rw[if_neg h1,Asg (λe=>h1 e.symm)]
  by_cases h2:p=i
  .subst h2
   rw[if_pos rfl,Asn hi,Ψ hj]
  .rw[if_neg h2,Asg (λe=>h2 e.symm)]
theorem Ij(l:List α)(i j:Nat):(DA l i j).Perm l:=by
 by_cases hi:i<l.length
 .by_cases hj:j<l.length
  .rw[En hi hj]
   have:=Array.swap_perm (xs:=l.toArray) (i:=i) (j:=j) (by simpa using hi) (by simpa using hj);have h2:=this.toList;simpa[Array.swap]using h2
  .unfold DA
   rw[Asc (show l.length<=j by omega)];split
   .rename_i h;cases h
   .exact List.Perm.refl _
 .unfold DA
  rw[Asc (show l.length<=i by omega)]
theorem Aaa{l:List α}{i j p:Nat}(h1:p≠i)(h2:p≠j):(DA l i j)[p]? = l[p]?:=by
 unfold DA;split
 .rw[Asg (λe=>h2 e.symm),Asg (λe=>h1 e.symm)]
 .rfl
def Srt(l:List α)(a b:Nat):Prop:=∀ p q,a<=p->p<q->q<b->kf key l p<=kf key l q
def YA(l:List α)(a i j:Nat):Prop:=∀ p q,a<=p->p<q->q<=i->q≠j->kf key l p<=kf key l q
def Same0(l r:List α)(a b:Nat):Prop:=∀ p,(p<a\/b<=p)->r[p]? = l[p]?
theorem Dz(l:List α)(a b:Nat):Same0 l l a b:=λ_ _=>rfl
theorem Same0.trans{l r s:List α}{a b:Nat}(h1:Same0 l r a b)(h2:Same0 r s a b):Same0 l s a b:=λp hp=>(h2 p hp).trans (h1 p hp)
theorem Same0.wide{l r:List α}{a b c d:Nat}(h1:Same0 l r a b)(hc:c<=a)(hd:b<=d):Same0 l r c d:=λp hp=>h1 p (by omega)
theorem Same0.kf{l r:List α}{a b p:Nat}(h:Same0 l r a b)(hp:p<a\/b<=p):kf key r p=kf key l p:=by
 unfold Go.Proofs.YtlmhajfbpplpoaaGreat.kf;rw[h p hp]
theorem Aab{l:List α}{i j a b:Nat}(h1:a<=i)(h2:i<b)(h3:a<=j)(h4:j<b):Same0 l (DA l i j) a b:=λp hp=>Aaa (by omega) (by omega)
theorem Z7{l:List α}{a i j:Nat}(hi:i<l.length)(ha:a<j)(hj:j<=i)(h:YA key l a i j)(hlt:kf key l j<kf key l (j-1)):YA key (DA l j (j-1)) a i (j-1):=by
 intro p q h1 h2 h3 h4;rw[Xs key (by omega) (by omega),Xs key (by omega) (by omega)]
 by_cases q1:q=j
 .subst q1
  rw[if_neg (show ¬ q=q-1 by omega),if_pos rfl]
  by_cases p1:p=q-1
  .rw[if_pos p1];omega
  .rw[if_neg p1,if_neg (by omega)]
   exact h p (q-1) h1 (by omega) (by omega) (by omega)
 .rw[if_neg h4,if_neg q1]
  by_cases p1:p=j-1
  .rw[if_pos p1]
   exact h j q (by omega) (by omega) h3 q1
  .rw[if_neg p1]
   by_cases p2:p=j
   .rw[if_pos p2]
    exact h (j-1) q (by omega) (by omega) h3 q1
   .rw[if_neg p2]
    exact h p q h1 h2 h3 q1
theorem UR{l:List α}{a i j:Nat}(hj:j<=i)(h:YA key l a i j)(he:j=a\/kf key l (j-1)<=kf key l j):Srt key l a (i+1):=by
 intro p q h1 h2 h3
 by_cases hq:q=j
 .subst hq
  rcases he with he|he
  .omega
  .by_cases hp:p=q-1
   .rw[hp];exact he
   .have:=h p (q-1) h1 (by omega) (by omega) (by omega)
    omega
 .exact h p q h1 h2 (by omega) hq
theorem WO{l:List α}{a i:Nat}(h:Srt key l a i):YA key l a i i:=λp q h1 h2 h3 h4=>h p q h1 h2 (by omega)
theorem SA{l:List α}(h:Srt key l 0 l.length):l.Pairwise λx y=>key x<=key y:=by
 rw[List.pairwise_iff_getElem];intro i j hi hj hij;have:=h i j (by omega) hij hj
 rwa [GK key hi,GK key hj]at this
theorem AgV(l:List α)(a:Nat):Srt key l a (a+1):=λp q h1 h2 h3=>by omega
theorem AgU(l:List α)(a:Nat):Srt key l a a:=λp q h1 h2 h3=>by omega
end
structure Pt where
 v:Int
 z:Zi
def eP(p:Pt):List AV:=[iv p.v,bv p.z.neg,eN p.z.abs]
theorem Av(p:Pt):(eP p).length=3:=rfl
section
variable {α:Type} {e:α->List AV} {w:Nat} (he:∀ x,(e x).length=w)
include he
theorem Yh(l:List α):∀(i:Nat) (h:i<l.length),(Ao e l).drop (i*w)=e l[i]++(Ao e l).drop (i*w+w):=by
 induction l with
 |nil=>intro i h;cases h
 |cons x r ih=>
  intro i h;have hx:=he x
  cases i with
  |zero=>
   rw[Nat.zero_mul,υ,Ary]
   show e x++Ao e r=e x++(e x++Ao e r).drop w
   rw[←hx,List.drop_left]
  |succ i=>
   have:=ih i (by simpa using h);have e1:∀ n,(Ao e (x::r)).drop (w+n)=(Ao e r).drop n:=λn=>by
    show (e x++Ao e r).drop (w+n)=_
    rw[←hx,AtN];simp
   rw[show (i+1)*w=w+i*w by rw[Ar4];omega,e1,this,show w+i*w+w=w+(i*w+w) by omega,e1];rfl
theorem Bn(l:List α)(i:Nat)(h:i<l.length)(k:List AV->KR):Iw (Ao e l) (0+i*w) w k=k (e l[i]):=by
 have hw:i*w+w<=l.length*w:=by
  rw[←Nat.succ_mul];exact Nat.mul_le_mul_right w h
 unfold Iw;have:Arm (0+i*w+w) (Ao e l).length=true:=by rw[BD he];simp;omega
 rw[this]
 show k (((Ao e l).drop (0+i*w)).take w)=_
 rw[Ary,Yh he l i h,List.take_left' (he _)]
theorem Dc(l:List α)(i:Nat)(h:i<l.length)(x:α):AR (Ao e l) (0+i*w) (e x)=Ao e (l.set i x):=by
 unfold AR;rw[he x,Ary];have e1:=Yh he l i h;have e2:∀(l:List α) (i:Nat),i<=l.length->(Ao e l).take (i*w)=Ao e (l.take i):=λl=>by
  induction l with
  |nil=>intro i _;simp[Ao]
  |cons y r ih=>
   intro i hi
   cases i with
   |zero=>simp[Ao]
   |succ i=>
    rw[show (i+1)*w=w+i*w by rw[Ar4];omega]
    show (e y++Ao e r).take (w+i*w)=e y++Ao e (r.take i)
    rw[←he y,List.take_append,List.take_of_length_le (by omega),show (e y).length+i*(e y).length-(e y).length=i*(e y).length by omega,he y,ih i (by simpa using hi)]
 have e3:∀(l:List α) (i:Nat),i<=l.length->(Ao e l).drop (i*w)=Ao e (l.drop i):=λl=>by
  induction l with
  |nil=>intro i _;simp[Ao]
  |cons y r ih=>
   intro i hi
   cases i with
   |zero=>simp[Ao]
   |succ i=>
    rw[show (i+1)*w=w+i*w by rw[Ar4];omega]
    show (e y++Ao e r).drop (w+i*w)=Ao e (r.drop i)
    rw[←he y,AtN,List.drop_of_length_le (by omega),show (e y).length+i*(e y).length-(e y).length=i*(e y).length by omega,he y,ih i (by simpa using hi),Arx]
 rw[e2 l i (by omega),show i*w+w=(i+1)*w by rw[Ar4];omega,e3 l (i+1) (by omega),AsR,if_pos h];simp[Ao]
end
theorem Gk{a b:Int}:Hw a b<0 ↔ a<b:=by
 unfold Hw;split
 .omega
 .split<;>omega
theorem US{j:Nat}(h:j<4611686018427387904):Ah.sub .i64 ((j+1:Nat):Int) 1=(j:Int):=by
 rw[LR (by omega) (by omega)];omega
theorem AS{a b:Nat}(h:a<b):Nat.blt a b=true:=by simpa using h
section
variable {D:Orc} (K:Knows Ag Ga D)
include K
theorem TS(x:Int):D.ask (.fn 207) [iv x] []=some (bv false,[]):=by
 refine K.fn' Ain _ rfl ((Apo ..).trans ?_);exact As rfl rfl
theorem RW(x y:Int):D.ask (.fn 154) [iv x,iv y] []=some (iv (Hw x y),[]):=by
 refine K.fn' Ah5 _ rfl ((Ao2 ..).trans ?_);refine Ab (TS K x) ?_;simp only[ND,DK,Aa];refine Ab (TS K y) ?_;simp only[ND,DK,Aa];unfold Hw
 by_cases h:x<y
 .rw[if_pos h]
  exact Al h rfl
 .rw[if_neg h]
  refine Ak h ?_
  by_cases h2:y<x
  .rw[if_pos h2]
   exact Al h2 rfl
  .rw[if_neg h2]
   exact Ak h2 rfl
theorem IL(p q:Pt):D.ask (.fn 153) [.agg (eP p),.agg (eP q)] []=some (iv (Hw p.v q.v),[]):=by
 refine K.fn' Ah4 _ rfl ((Ao1 ..).trans ?_);refine Ab (RW K p.v q.v) ?_;rfl
def Gq:AV:=.fn (.func 153) [] []
theorem Ak4(a i:Nat)(b:Int):∀(m j:Nat) (l:List Pt),j-a=m->a<=j->j<=i->i<l.length->l.length<=1000000000->YA Pt.v l a i j->
  ∃ r:List Pt,D.ask (.lp 242 1) [.sl 0 0 l.length 3,iv (a:Int),iv b,Gq,iv (i:Int),iv (j:Int)] [U (Ao eP l) true true]
   = some (.tup [iv 2,.sl 0 0 l.length 3,iv (a:Int),iv b,Gq,iv (i:Int)],[.set (U (Ao eP r) true true)])
   ∧ r.length=l.length/\r.Perm l/\Srt Pt.v r a (i+1)/\Same0 l r a (i+1):=by
 intro m
 induction m with
 |zero=>
  intro j l hm ha hj hi hl hs;obtain rfl:j=a:=by omega
  refine⟨l,?_,rfl,List.Perm.refl _,UR Pt.v hj hs (.inl rfl),Dz _ _ _⟩;refine K.lp' IW _ rfl (by kernel_rfl) ((VF ..).trans ?_);exact Ak (by omega) rfl
 |succ m ih=>
  intro j l hm ha hj hi hl hs;obtain⟨k,rfl⟩:∃ k,j=k+1:=⟨j-1,by omega⟩;have h1:k+1<l.length:=by omega
  have h0:k<l.length:=by omega
  have kf1:kf Pt.v l (k+1)=l[k+1].v:=GK Pt.v h1;have kf0:kf Pt.v l k=l[k].v:=GK Pt.v h0
  by_cases hlt:l[k+1].v<l[k].v
  .have hs2:YA Pt.v (DA l (k+1) k) a i k:=Z7 (j:=k+1) Pt.v hi (by omega) hj hs (by rw[AtA,kf1,kf0];exact hlt)
   have hlen:=JI l (k+1) k;obtain⟨r,g,hr,hp,ho,hsm⟩:=ih k (DA l (k+1) k) (by omega) (by omega) (by omega) (by omega) (by omega) hs2;rw[hlen]at g hr;refine⟨r,?_,hr,hp.trans (Ij _ _ _),ho,(Aab (by omega) (by omega) (by omega) (by omega)).trans hsm⟩;refine K.lp' IW _ rfl (by kernel_rfl) ((VF ..).trans ?_);refine Al (by omega) ?_;rw[US (by omega),Ax,AS h1];refine Ad ?_;refine(Bn Av l (k+1) h1 _).trans ?_;simp only[eP,eN,ND,DK,Aa];rw[Ax,AS h0];refine Ad ?_;refine(Bn Av l k h0 _).trans ?_;simp only[eP,eN,ND,DK,Aa];refine Ab (IL K l[k+1] l[k]) ?_;simp only[ND,DK,Aa];refine Al (Gk.2 hlt) ?_;rw[Ax,AS h0];refine Ad ?_;refine(Bn Av l k h0 _).trans ?_;simp only[eP,eN,ND,DK,Aa];rw[Ax,AS h1];refine Ad ?_;refine(Bn Av l (k+1) h1 _).trans ?_;simp only[eP,eN,ND,DK,Aa];rw[Ax,AS h1];refine Ad ?_;have s1:=Dc Av l (k+1) h1 l[k];have s2:=Dc Av (l.set (k+1) l[k]) k (by rw[ArM];exact h0) l[k+1];rw[←En h1 h0]at s2;simp only[eP,eN]at s1 s2;rw[show Arm (0+(k+1)*3+3) (Ao eP l).length=true by rw[BD Av];simp;omega];refine Ad ?_;rw[Ax,AS h0];refine Ad ?_;rw[s1,s2];rw[show Arm (0+k*3+3) (Ao eP (l.set (k+1) l[k])).length=true by rw[BD Av,ArM];simp;omega];refine Ad ?_;refine Ab g ?_;rfl
  .refine⟨l,?_,rfl,List.Perm.refl _,UR Pt.v hj hs (.inr ?_),Dz _ _ _⟩
   .skip
    refine K.lp' IW _ rfl (by kernel_rfl) ((VF ..).trans ?_);refine Al (by omega) ?_;rw[US (by omega),Ax,AS h1];refine Ad ?_;refine(Bn Av l (k+1) h1 _).trans ?_;simp only[eP,eN,ND,DK,Aa];rw[Ax,AS h0];refine Ad ?_;refine(Bn Av l k h0 _).trans ?_;simp only[eP,eN,ND,DK,Aa];refine Ab (IL K l[k+1] l[k]) ?_;simp only[ND,DK,Aa];exact Ak (λh=>hlt (Gk.1 h)) rfl
   .rw[AtA,kf1,kf0]
    omega
theorem Af0(a b:Nat):∀(m i:Nat) (l:List Pt),b-i=m->a<i->i<=b->b<=l.length->l.length<=1000000000->Srt Pt.v l a i->
  ∃ r:List Pt,D.ask (.lp 242 0) [.sl 0 0 l.length 3,iv (a:Int),iv (b:Int),Gq,iv (i:Int)] [U (Ao eP l) true true]
   = some (.tup [iv 0,.sl 0 0 l.length 3],[.set (U (Ao eP r) true true)])
   ∧ r.length=l.length/\r.Perm l/\Srt Pt.v r a b/\Same0 l r a b:=by
 intro m
 induction m with
 |zero=>
  intro i l hm ha hi hb hl hs;obtain rfl:i=b:=by omega
  refine⟨l,?_,rfl,List.Perm.refl _,hs,Dz _ _ _⟩;refine K.lp' IW _ rfl (by kernel_rfl) ((VE ..).trans ?_);exact Ak (by omega) rfl
 |succ m ih=>
  intro i l hm ha hi hb hl hs;obtain⟨r,g,hr,hp,ho,hsm⟩:=Ak4 K a i (b:Int) _ i l rfl (by omega) (ω _) (by omega) hl (WO Pt.v hs);obtain⟨r2,g2,hr2,hp2,ho2,hsm2⟩:=ih (i+1) r (by omega) (by omega) (by omega) (by omega) (by omega) ho;rw[hr]at g2;refine⟨r2,?_,by omega,hp2.trans hp,ho2,(hsm.wide (ω _) (by omega)).trans hsm2⟩;refine K.lp' IW _ rfl (by kernel_rfl) ((VE ..).trans ?_);refine Al (by omega) ?_;refine Ab g ?_;simp only[Gq,ND,DK,Aa];refine Ad ?_;rw[Bo (by omega)];refine Ab g2 ?_;rfl
theorem Acn{a b:Nat}{l:List Pt}(hab:a<=b)(hb:b<=l.length)(hl:l.length<=1000000000) :
  ∃ r:List Pt,D.ask (.fn 242) [.sl 0 0 l.length 3,iv (a:Int),iv (b:Int),Gq] [U (Ao eP l) true true]=some (.tup [],[.set (U (Ao eP r) true true)])
   ∧ r.length=l.length/\r.Perm l/\Srt Pt.v r a b/\Same0 l r a b:=by
 by_cases h:a<b
 .obtain⟨r,g,hr⟩:=Af0 K a b _ (a+1) l rfl (by omega) (by omega) hb hl (AgV Pt.v l a)
  refine⟨r,?_,hr⟩;refine K.fn' IW _ rfl ((Aml ..).trans ?_);rw[Bo (by omega)];refine Ab g ?_;rfl
 .obtain rfl:a=b:=by omega
  have g:D.ask (.lp 242 0) [.sl 0 0 l.length 3,iv (a:Int),iv (a:Int),Gq,iv ((a+1:Nat):Int)] [U (Ao eP l) true true]=some (.tup [iv 0,.sl 0 0 l.length 3],[.set (U (Ao eP l) true true)]):=by
   refine K.lp' IW _ rfl (by kernel_rfl) ((VE ..).trans ?_);exact Ak (by omega) rfl
  refine⟨l,?_,rfl,List.Perm.refl _,AgU Pt.v l a,Dz _ _ _⟩;refine K.fn' IW _ rfl ((Aml ..).trans ?_);rw[Bo (by omega)];refine Ab g ?_;rfl
end
structure Tm where
 ps:List Pt
 k:Zi
def eT(t:Tm):List AV:=[.ls (t.ps.map eP),bv t.k.neg,eN t.k.abs]
structure Lf where
 ps:List (Int × Int)
 k:Int
def pv(p:Pt):Int × Int:=(p.v,zv p.z)
def A4(p:Int × Int):Pt:=⟨p.1,Br p.2⟩
def Tm.lf(t:Tm):Lf:=⟨t.ps.map pv,zv t.k⟩
def Lf.tm(l:Lf):Tm:=⟨l.ps.map A4,Br l.k⟩
def Lf.pln(l:Lf):Lf:=⟨Fi l.ps,l.k⟩
theorem AgC(p:Int × Int):pv (A4 p)=p:=by
 unfold pv A4;rw[Cj]
theorem Fk(l:Lf):l.tm.lf=l:=by
 obtain⟨ps,k⟩:=l;unfold Lf.tm Tm.lf;simp only[List.map_map,Cj];rw[show (pv ∘ A4)=id from funext AgC,List.map_id]
theorem AgA(l:Lf):l.pln.pln=l.pln:=by
 unfold Lf.pln;rw[Wz (FG _)]
structure TmB (n k:Nat) (t:Tm):Prop where
 len:t.ps.length<=n
 ps:∀ p∈t.ps,Lz k p.z
 k:Lz k t.k
structure LB (n k:Nat) (l:Lf):Prop where
 len:l.ps.length<=n
 ps:∀ p∈l.ps,InB k p.2
 k:InB k l.k
theorem TmB.lb{n k:Nat}{t:Tm}(h:TmB n k t):LB n k t.lf:=by
 refine⟨by simpa[Tm.lf]using h.len,λp hp=>?_,h.k.inb⟩;simp only[Tm.lf,AsE]at hp;obtain⟨q,hq,rfl⟩:=hp;exact(h.ps q hq).inb
theorem LB.tb{n k:Nat}{l:Lf}(h:LB n k l):TmB n k l.tm:=by
 refine⟨by simpa[Lf.tm]using h.len,λp hp=>?_,h.k.lz⟩;simp only[Lf.tm,AsE]at hp;obtain⟨q,hq,rfl⟩:=hp;exact(h.ps q hq).lz
theorem LB.mono{n k m j:Nat}{l:Lf}(h:LB n k l)(hn:n<=m)(hk:k<=j):LB m j l:=⟨by have:=h.len;omega,λp hp=>(h.ps p hp).mono hk,h.k.mono hk⟩
theorem TmB.mono{n k m j:Nat}{t:Tm}(h:TmB n k t)(hn:n<=m)(hk:k<=j):TmB m j t:=⟨by have:=h.len;omega,λp hp=>(h.ps p hp).mono hk,h.k.mono hk⟩
theorem Qo{k:Nat}(v:Int):∀ l:List (Int × Int),(∀ p∈l,InB k p.2)->InB (k+l.length) (A6 v l)
 |[],_=>InB.zero _
 |p::r,h=>by
  have h1:=Qo v r λq hq=>h q (Arw _ hq)
  have h2:=h p (Arv ..);rw[A6,ν,←Nat.add_assoc];refine InB.add ?_ h1;split
  .exact h2.mono (by omega)
  .exact InB.zero _
theorem Pln.mem:∀{l:List (Int × Int)},Pln l->∀ p∈l,A6 p.1 l=p.2
 |q::r,h,p,hp=>by
  rcases Arl.1 hp with rfl|hp
  .exact h.head
  .rw[A6,if_neg (by have:=(Asb.1 h.asc).1 p hp;omega),h.tail.mem p hp]
   omega
theorem LB.pln{n k:Nat}{l:Lf}(h:LB n k l):LB n (k+n) l.pln:=by
 have hl:=Ra l.ps;refine⟨by have:=h.len;simp only[Lf.pln];omega,λp hp=>?_,h.k.mono (by omega)⟩;have h1:=(FG l.ps).mem p hp;rw[KK,if_pos ((FG l.ps).pos p hp)]at h1;rw[←h1];exact(Qo p.1 l.ps h.ps).mono (by have:=h.len;omega)
def Lf.add(a b:Lf):Lf:=Lf.pln ⟨a.ps++b.ps,a.k+b.k⟩
def Lf.scale(a:Lf)(n:Int):Lf:=Lf.pln ⟨a.ps.map λp=>(p.1,p.2*n),a.k*n⟩
def Lf.sub(a b:Lf):Lf:=a.add (b.scale (-1))
def Lf.num(k:Int):Lf:=⟨[],k⟩
theorem LB.app{n k m j:Nat}{a b:Lf}(ha:LB n k a)(hb:LB m j b):LB (n+m) (k+j+1) ⟨a.ps++b.ps,a.k+b.k⟩:=by
 refine⟨by have:=ha.len;have:=hb.len;simp only[η];omega,λp hp=>?_,InB.add (ha.k.mono (by omega)) (hb.k.mono (by omega))⟩;rcases ArN.1 hp with h|h
 .exact(ha.ps p h).mono (by omega)
 .exact(hb.ps p h).mono (by omega)
theorem LB.mul{n k j:Nat}{a:Lf}{x:Int}(ha:LB n k a)(hx:InB j x):LB n (k+j) ⟨a.ps.map λp=>(p.1,p.2*x),a.k*x⟩:=by
 refine⟨by simpa using ha.len,λp hp=>?_,InB.mul ha.k hx⟩;simp only[AsE]at hp;obtain⟨q,hq,rfl⟩:=hp;exact InB.mul (ha.ps q hq) hx
theorem LB.add{n k m j:Nat}{a b:Lf}(ha:LB n k a)(hb:LB m j b):LB (n+m) (k+j+1+(n+m)) (a.add b):=(ha.app hb).pln
theorem LB.scale{n k j:Nat}{a:Lf}{x:Int}(ha:LB n k a)(hx:InB j x):LB n (k+j+n) (a.scale x):=(ha.mul hx).pln
def Aoo(f:Int->Int):List (Int × Int)->Int
 |[]=>0
 |p::r=>p.2*f p.1+Aoo f r
def Lf.val(f:Int->Int)(l:Lf):Int:=Aoo f l.ps+l.k
inductive Fm where
 |mk (kind:Int) (t:Tm) (eq:Bool) (kids:List Fm)
mutual
def eF:Fm->List AV
 |.mk k t e ks=>[iv k,.ls (t.ps.map eP),bv t.k.neg,eN t.k.abs,bv e,.ls (eFs ks)]
def eFs:List Fm->List (List AV)
 |[]=>[]
 |x::r=>eF x::eFs r
end
theorem Gl:∀ l,eFs l=l.map eF
 |[]=>rfl
 |x::r=>by simp[eFs,Gl r]
def Fm.kind:Fm->Int
 |.mk k _ _ _=>k
def Fm.tm:Fm->Tm
 |.mk _ t _ _=>t
def Fm.eq:Fm->Bool
 |.mk _ _ e _=>e
def Fm.kids:Fm->List Fm
 |.mk _ _ _ ks=>ks
def Tm0:Tm:=⟨[],⟨false,[]⟩⟩
def Oc:Lf:=⟨[],0⟩
theorem Wg:Oc.tm=Tm0:=by
 unfold Lf.tm Oc Tm0;rw[WY];rfl
def kF(k:Int)(ks:List Fm):Fm:=.mk k Tm0 false ks
def PO(b:Bool):Fm:=kF (if b then 0 else 1) []
def Fe(l:Lf)(e:Bool):Fm:=.mk 2 l.tm e []
def JX:Fm->List Fm
 |.mk k _ _ ks=>if k=4\/k=5 then ks else if k=3 then ks.take 1 else []
mutual
def BV:Fm->Fm
 |.mk k t e ks=>if k=0 then PO true else if k=2 then Fe t.lf.pln e else if k=3 then kF 3 (NY ks) else if k=4\/k=5 then kF k (Js ks) else PO false
def NY:List Fm->List Fm
 |[]=>[]
 |x::_=>[BV x]
def Js:List Fm->List Fm
 |[]=>[]
 |x::r=>BV x::Js r
end
theorem IQ:∀ l,Js l=l.map BV
 |[]=>rfl
 |x::r=>by simp[Js,IQ r]
theorem S3:∀ l,NY l=(l.take 1).map BV
 |[]=>rfl
 |x::r=>by simp[NY]
def S4(op:Int)(l r:Lf):Fm:=
 if op=0 then Fe (l.sub r) true
 else if op=1 then kF 3 [Fe (l.sub r) true]
 else if op=2 then Fe ((r.sub l).sub (.num 1)) false
 else if op=3 then Fe (r.sub l) false
 else if op=4 then Fe ((l.sub r).sub (.num 1)) false
 else if op=5 then Fe (l.sub r) false
 else PO false
mutual
inductive CanF:Fm->Prop
 |tru (b:Bool):CanF (PO b)
 |atom (l:Lf) (e:Bool) (h:l.pln=l):CanF (Fe l e)
 |no (x:Fm) (h:CanF x):CanF (kF 3 [x])
 |and (l:List Fm) (h:CanFs l):CanF (kF 4 l)
 |or (l:List Fm) (h:CanFs l):CanF (kF 5 l)
 |no0:CanF (kF 3 [])
inductive CanFs:List Fm->Prop
 |nil:CanFs []
 |cons {x:Fm} {r:List Fm} (h:CanF x) (hr:CanFs r):CanFs (x::r)
end
mutual
theorem CanF.clone:∀{x:Fm},CanF x->BV x=x
 |_,.tru b=>by cases b<;>rfl
 |_,.atom l e h=>by
  unfold Fe;rw[BV,if_neg (by decide),if_pos rfl,Fk,h];rfl
 |_,.no x h=>by
  unfold kF;rw[BV,if_neg (by decide),if_neg (by decide),if_pos rfl,NY,h.clone];rfl
 |_,.and l h=>by
  unfold kF;rw[BV,if_neg (by decide),if_neg (by decide),if_neg (by decide),if_pos (.inl rfl),h.clone];rfl
 |_,.or l h=>by
  unfold kF;rw[BV,if_neg (by decide),if_neg (by decide),if_neg (by decide),if_pos (.inr rfl),h.clone];rfl
 |_,.no0=>rfl
theorem CanFs.clone:∀{l:List Fm},CanFs l->Js l=l
 |_,.nil=>rfl
 |_,.cons h hr=>by rw[Js,h.clone,hr.clone]
end
theorem DZ(l r:Lf):(l.sub r).pln=l.sub r:=AgA _
theorem Aa4(op:Int)(l r:Lf):CanF (S4 op l r):=by
 unfold S4
 repeat' split
 .exact .atom _ _ (DZ _ _)
 .exact .no _ (.atom _ _ (DZ _ _))
 .exact .atom _ _ (DZ _ _)
 .exact .atom _ _ (DZ _ _)
 .exact .atom _ _ (DZ _ _)
 .exact .atom _ _ (DZ _ _)
 .exact .tru _
def or2(a b:Int):Int:=if a=0 then b else a
def Xe(p q:Int × Int):Int:=or2 (Hw p.1 q.1) (Hw p.2 q.2)
def YU:List (Int × Int)->List (Int × Int)->Option Int
 |[],_=>none
 |_::_,[]=>some 1
 |p::a,q::b=>if Xe p q=0 then YU a b else some (Xe p q)
def Aa6(a b:List (Int × Int)):Int:=match YU a b with
 |some n=>n
 |none=>if a.length<b.length then -1 else 0
def Afw(a b:Lf):Int:=or2 (Aa6 a.ps b.ps) (Hw a.k b.k)
def AdE(e:Bool):Int:=if e then 1 else 0
def Vv(a b:Lf)(e f:Bool):Int:=or2 (Afw a b) (Hw (AdE e) (AdE f))
mutual
def eqF:Fm->Fm->Bool
 |.mk k t e ks,.mk j u f js=>decide (k=j)&&(!decide (k=2)||decide (Vv t.lf.pln u.lf.pln e f=0))&&decide (ks.length=js.length)&&MG ks js
def MG:List Fm->List Fm->Bool
 |[],_=>true
 |_::_,[]=>false
 |x::a,y::b=>eqF x y&&MG a b
end
theorem AkK(k j:Int)(t u:Tm)(e f:Bool)(ks js:List Fm):eqF (.mk k t e ks) (.mk j u f js)=(decide (k=j)&&(!decide (k=2)||decide (Vv t.lf.pln u.lf.pln e f=0))&&decide (ks.length=js.length)&&MG ks js):=by
 rw[eqF]
theorem YZ(x y:Fm)(a b:List Fm):MG (x::a) (y::b)=(eqF x y&&MG a b):=by rw[MG]
theorem CanFs.mem:∀{l:List Fm},CanFs l->∀ x∈l,CanF x
 |_::_,.cons h hr,x,hx=>by
  rcases Arl.1 hx with rfl|hx
  .exact h
  .exact hr.mem x hx
theorem CanF.kids{x:Fm}(h:CanF x):∀ y∈x.kids,CanF y:=by
 cases h with
 |tru b=>intro y hy;cases b<;>cases hy
 |atom l e h=>intro y hy;cases hy
 |no x h=>intro y hy;rcases ArL.1 hy with rfl;exact h
 |and l h=>exact h.mem
 |or l h=>exact h.mem
 |no0=>intro y hy;cases hy
theorem CanF.head{x:Fm}(h:CanF x):(x.kind=2/\x.kids=[]/\∃ l:Lf,l.pln=l/\x.tm=l.tm)\/(x.kind≠2/\x.tm=Tm0/\x.eq=false):=by
 cases h with
 |tru b=>exact .inr ⟨by cases b<;>decide,rfl,rfl⟩
 |atom l e h=>exact .inl ⟨rfl,rfl,l,h,rfl⟩
 |no x h=>exact .inr ⟨by show (3:Int)≠2;decide,rfl,rfl⟩
 |and l h=>exact .inr ⟨by show (4:Int)≠2;decide,rfl,rfl⟩
 |or l h=>exact .inr ⟨by show (5:Int)≠2;decide,rfl,rfl⟩
 |no0=>exact .inr ⟨by show (3:Int)≠2;decide,rfl,rfl⟩
def GJ:List (Int × Int)->Int × Int->List (Int × Int)
 |[],p=>if p.1<0 then [] else [p]
 |q::r,p=>if p.1<0 then q::r else if q.1=p.1 then(q.1,q.2+p.2)::r else p::q::r
theorem GZ(p:Int × Int):GJ [] p=if p.1<0 then [] else [p]:=rfl
theorem FE(q:Int × Int)(r:List (Int × Int))(p:Int × Int):GJ (q::r) p=if p.1<0 then q::r else if q.1=p.1 then(q.1,q.2+p.2)::r else p::q::r:=rfl
structure GrpI (s t:List (Int × Int)):Prop where
 desc:s.Pairwise λa b=>b.1<a.1
 pos:∀ q∈s,0<=q.1
 up:∀ q∈s,∀ p∈t,0<=p.1->q.1<=p.1
theorem Y8(v:Int)(hv:0<=v):∀(s:List (Int × Int)) (p:Int × Int),A6 v (GJ s p)=A6 v s+(if p.1=v then p.2 else 0)
 |[],p=>by
  rw[GZ];split
  .rw[if_neg (by omega)];simp[A6]
  .simp[A6]
 |q::r,p=>by
  rw[FE];split
  .rw[if_neg (by omega)];omega
  .split
   .rename_i h
    rw[A6,A6];simp only[h];split<;>omega
   .rw[A6]
    omega
theorem Ab3{s t:List (Int × Int)}{p:Int × Int}(h:GrpI s (p::t))(ht:∀ x∈t,p.1<=x.1):GrpI (GJ s p) t:=by
 have ut:∀ q∈s,∀ x∈t,0<=x.1->q.1<=x.1:=λq hq x hx=>h.up q hq x (Arw _ hx)
 cases s with
 |nil=>
  rw[GZ];split
  .exact⟨.nil,by simp,by simp⟩
  .exact⟨AtW _ _,by simp;omega,λq hq x hx _=>by rw[ArL.1 hq];exact ht x hx⟩
 |cons q r=>
  have hd:=Asb.1 h.desc;rw[FE];split
  .exact⟨h.desc,h.pos,ut⟩
  .rename_i hp
   split
   .refine⟨Asb.2 ⟨λx hx=>hd.1 x hx,hd.2⟩,λx hx=>?_,λx hx y hy hy0=>?_⟩
    .rcases Arl.1 hx with rfl|hx
     .exact h.pos q (Arv ..)
     .exact h.pos x (Arw _ hx)
    .rcases Arl.1 hx with rfl|hx
     .exact ut q (Arv ..) y hy hy0
     .exact ut x (Arw _ hx) y hy hy0
   .rename_i hne
    have hq:=h.up q (Arv ..) p (Arv ..) (by omega);refine⟨Asb.2 ⟨λx hx=>?_,h.desc⟩,λx hx=>?_,λx hx y hy hy0=>?_⟩
    .rcases Arl.1 hx with rfl|hx
     .omega
     .have:=hd.1 x hx;omega
    .rcases Arl.1 hx with rfl|hx
     .omega
     .exact h.pos x hx
    .rcases Arl.1 hx with rfl|hx
     .exact ht y hy
     .exact ut x hx y hy hy0
theorem Xp:∀(t s:List (Int × Int)),t.Pairwise (λa b=>a.1<=b.1)->GrpI s t->GrpI (t.foldl GJ s) []/\∀ v,0<=v->A6 v (t.foldl GJ s)=A6 v s+A6 v t
 |[],s,_,h=>⟨h,λv _=>by simp[A6]⟩
 |p::t,s,ht,h=>by
  have hp:=Asb.1 ht;obtain⟨g1,g2⟩:=Xp t (GJ s p) hp.2 (Ab3 h hp.1);refine⟨g1,λv hv=>?_⟩;rw[List.foldl_cons,g2 v hv,Y8 v hv,A6];omega
theorem S7(v:Int):∀ l:List (Int × Int),A6 v (l.filter λp=>!decide (p.2=0))=A6 v l
 |[]=>rfl
 |p::r=>by
  have ih:=S7 v r
  by_cases h:p.2=0
  .rw[AtT (by simp[h]),ih,A6,h]
   simp
  .rw[AtU (by simp[h]),A6,A6,ih]
theorem AfU{t l:List (Int × Int)}(ht:t.Pairwise λa b=>a.1<=b.1)(hp:t.Perm l):((t.foldl GJ []).reverse).filter (λp=>!decide (p.2=0))=Fi l:=by
 obtain⟨g1,g2⟩:=Xp t [] ht ⟨.nil,by simp,by simp⟩;refine UC ⟨?_,λp h=>?_,λp h=>?_⟩ λv hv=>?_
 .refine List.Pairwise.filter _ ?_
  rw[List.pairwise_reverse];exact g1.desc
 .have:=(As7.1 h).1
  exact g1.pos p (List.mem_reverse.1 this)
 .simpa using (As7.1 h).2
 .rw[S7,Ox (List.reverse_perm _),g2 v hv,Ox hp]
  simp[A6]
theorem Tn{k:Nat}{s:List (Int × Int)}{p:Int × Int}(hs:∀ q∈s,InB k q.2)(hp:InB k p.2):∀ q∈GJ s p,InB (k+1) q.2:=by
 cases s with
 |nil=>
  rw[GZ];split
  .simp
  .intro q hq
   rw[ArL.1 hq];exact hp.mono (by omega)
 |cons q r=>
  rw[FE];have hq:=hs q (Arv ..);have hr:∀ x∈r,InB (k+1) x.2:=λx hx=>(hs x (Arw _ hx)).mono (by omega)
  split
  .intro x hx
   rcases Arl.1 hx with rfl|hx
   .exact hq.mono (by omega)
   .exact hr x hx
  .split
   .intro x hx
    rcases Arl.1 hx with rfl|hx
    .exact InB.add hq hp
    .exact hr x hx
   .intro x hx
    rcases Arl.1 hx with rfl|hx
    .exact hp.mono (by omega)
    .rcases Arl.1 hx with rfl|hx
     .exact hq.mono (by omega)
     .exact hr x hx
theorem To(s:List (Int × Int))(p:Int × Int):(GJ s p).length<=s.length+1:=by
 cases s with
 |nil=>rw[GZ];split<;>simp
 |cons q r=>
  rw[FE];split
  .simp
  .split<;>simp
theorem F5(x:Nat):Ah.conv .u32 (x:Int)=((x % 4294967296:Nat):Int):=by
 show IntKind.u32.wrap (x:Int)=_
 rw[IntKind.wrap_u32];omega
theorem DE{x:Nat}(h:x<4294967296):Ah.conv .u32 (x:Int)=(x:Int):=by rw[F5,Nat.mod_eq_of_lt h]
theorem Cr{x:Nat}(h:x<18446744073709551616):Ah.conv .u64 (x:Int)=(x:Int):=by
 show IntKind.u64.wrap (x:Int)=_
 rw[IntKind.wrap_u64];omega
theorem ET{x y:Nat}(h:x+y<18446744073709551616):Ah.add .u64 (x:Int) (y:Int)=((x+y:Nat):Int):=by
 show IntKind.u64.wrap ((x:Int)+(y:Int))=_
 rw[IntKind.wrap_u64];omega
theorem N4{x y:Nat}(h:y<=x)(h2:x<18446744073709551616):Ah.sub .u64 (x:Int) (y:Int)=((x-y:Nat):Int):=by
 show IntKind.u64.wrap ((x:Int)-(y:Int))=_
 rw[IntKind.wrap_u64];omega
theorem Yb{x y:Nat}(h:x*y<18446744073709551616):Ah.mul .u64 (x:Int) (y:Int)=((x*y:Nat):Int):=by
 show IntKind.u64.wrap ((x:Int)*(y:Int))=_
 rw[IntKind.wrap_u64,←Aux];omega
theorem LQ(x:Nat):Ah.shr .u64 (x:Int) 32=((x / 4294967296:Nat):Int):=by
 show Int.fdiv (x:Int) (2 ^ 32)=_
 have:(2 ^ 32:Int)=((4294967296:Nat):Int):=by decide
 rw[this,Int.fdiv_eq_ediv_of_nonneg _ (by omega)];rfl
theorem Gy(x y:Nat):Ah.add .u32 (x:Int) (y:Int)=(((x+y) % 4294967296:Nat):Int):=by
 show IntKind.u32.wrap ((x:Int)+(y:Int))=_
 rw[IntKind.wrap_u32];omega
theorem CT(x y:Nat):Ah.mul .u32 (x:Int) (y:Int)=(((x*y) % 4294967296:Nat):Int):=by
 show IntKind.u32.wrap ((x:Int)*(y:Int))=_
 rw[IntKind.wrap_u32,←Aux];omega
theorem Aqw{i j:Nat}(h:j<=i)(h2:i<4611686018427387904):Ah.sub .i64 (i:Int) (j:Int)=((i-j:Nat):Int):=by
 rw[LR (by omega) (by omega)];omega
theorem Akj{i j:Nat}(h2:i+j<4611686018427387904):Ah.add .i64 (i:Int) (j:Int)=((i+j:Nat):Int):=by
 rw[Jd (by omega) (by omega)];omega
theorem P4(kd:IntKind)(n:Int)(r:List AV)(k:Int->List AV->KR):E8 kd (.v (.int kd n)::r) k=k n r:=by simp[E8]
theorem YY(n:Nat)(k:Int->List AV->KR)(r:List AV):E8 .u32 (.v (.int .u32 (n:Int))::r) k=k n r:=rfl
theorem Yw(l:List Nat):Hm 1 (l.map eL)=true:=JJ BI l
theorem Alk(l:List Nat):LH (JK (l.map eL))=true:=by rw[FO];exact LI (λ_=>rfl) l
theorem Agr(l:List Nat):AP (JK (l.map eL))=true:=by
 rw[FO]
 induction l with
 |nil=>rfl
 |cons x r ih=>exact ih
theorem UZ(l:List Nat)(n:Nat):JU (J6 (l.map eL) n) 0=(l.take n).map eL:=by
 rw[Mh,K9,υ,AtF]
theorem IJ:∀(a b:List Nat) (c:Nat),(Mq c a b).length=a.length+1
 |[],_,_=>rfl
 |x::a,b,c=>by rw[Mq,ν,IJ a,ν]
theorem Ow{a b:Nat}(h:(Be a).length<(Be b).length):a<b:=by
 by_cases h2:a<b
 .exact h2
 .have h3:AK b=AK b:=rfl
  have h4:0<(Be b).length:=by omega
  have hb:4294967296 ^ ((Be b).length-1)<=b:=by
   by_cases h5:4294967296 ^ ((Be b).length-1)<=b
   .exact h5
   .have:=D7 (n:=b) (k:=(Be b).length-1) (by omega)
    omega
  have h6:=T4 (n:=a) (k:=(Be b).length-1) (by omega);omega
def Fl(l:List Nat):Prop:=l.length<=1000000000
theorem Ib{l:List Nat}(h:Limbs l)(h2:Fl l):Fl (Be (Au l)):=by
 unfold Fl at *;rw[I4 l h];have:=Fu l;omega
structure CloneF (D:Orc):Prop where
 nat:∀ l:List Nat,Fl l->D.ask (.fn 240) [eN l] []=some (.sl 0 0 l.length 1,[.set (U (Ao eL l) true true)])
theorem YR{l:List Nat}(h:Fl l):Gg 1 (Cs 1 4) [eN l] []=some (.sl 0 0 l.length 1,[.set (U (Ao eL l) true true)]):=by
 unfold Gg Cs eN;have h4:Arm (AZ (l.map eL)*4) 140737488355328=true:=by
  rw[Aw];unfold Fl at h;simp;omega
 simp only[Yw,Alk,Agr,h4,Bool.and_true,if_true,Option.map_some];rw[Aw,FO]
section
variable {D:Orc} (K:Knows Ag Mf D)
include K
theorem Ag8(l:List Nat)(hl:Fl l):∀(n:Nat),n<=l.length->DV l<=n->D.ask (.lp 204 0) [eN l,iv (n:Int)] []=some (.tup [iv 0,eN l,iv (DV l:Int)],[]):=by
 intro n;have hl':=hl;unfold Fl at hl'
 induction n with
 |zero=>
  intro _ ht;refine K.lp' TA _ rfl (by kernel_rfl) ((Abm ..).trans ?_);refine Ak (by omega) ?_;rw[show DV l=0 by omega];rfl
 |succ n ih=>
  intro hn ht;refine K.lp' TA _ rfl (by kernel_rfl) ((Abm ..).trans ?_);refine Al (by omega) ?_;rw[show Ah.sub .i64 ((n+1:Nat):Int) 1=(n:Int) from (Aqw (i:=n+1) (j:=1) (by omega) (by omega)).trans (by simp)];rw[Ax,AF (Ψ (show n<l.length by omega))];simp only[eL,YY,ND,DK,Aa]
  by_cases h0:l[n]=0
  .refine As (by rw[h0];rfl) ?_
   refine Ab (ih (by omega) (Aag ht (by rw[Ψ (show n<l.length by omega),h0]))) ?_;rfl
  .refine Ap (by omega) ?_
   have:=Yq (Ψ (show n<l.length by omega)) h0;rw[show DV l=n+1 by omega];rfl
theorem Fw{l:List Nat}(hl:Fl l)(h:Limbs l):D.ask (.fn 204) [eN l] []=some (eN (Be (Au l)),[]):=by
 refine K.fn' TA _ rfl ((Apl ..).trans ?_);rw[Aw];refine Ab (Ag8 K l hl _ (ω _) (Fu l)) ?_;simp only[eN,ND,DK,Aa];rw[Ax,Aw,Yw,UZ,PK h];rw[show OS 0 (DV l) l.length=true by unfold OS;rw[show Arm 0 (DV l)=true by simp];simpa using Fu l];rfl
variable (C:CloneF D)
include C
theorem Hq{l:List Nat}(hl:Fl l)(h:Limbs l):D.ask (.fn 200) [eN l] []=some (eN (Be (Au l)),[]):=by
 refine K.fn' Ail _ rfl ((Apj ..).trans ?_);refine Ab (Fw K hl h) ?_;simp only[eN,ND,DK,Aa];have g:=C.nat _ (Ib h hl);unfold eN at g;refine Ab g ?_;simp only[ND,DK,Aa];rw[AT BI _ (by omega)];refine Ad ?_;rw[Cz BI _ rfl]
theorem Ahr(n:Nat)(h:n<18446744073709551616):D.ask (.fn 146) [.v (.int .u64 (n:Int))] []=some (eN (Be n),[]):=by
 refine K.fn' Ah1 _ rfl ((AoV ..).trans ?_);refine Ak (by decide) ?_;rw[F5,LQ,F5];have hl:Limbs [n % 4294967296,n / 4294967296 % 4294967296]:=C9 (Ate _ (by omega)) (C9 (Ate _ (by omega)) C0);have g:=Hq K C (l:=[n % 4294967296,n / 4294967296 % 4294967296]) (by unfold Fl;simp) hl;rw[show Au [n % 4294967296,n / 4294967296 % 4294967296]=n by simp only[Au];omega]at g;refine Ab g ?_;rfl
omit C in
theorem Akd(a b:List Nat)(ha:Limbs a)(hb:Limbs b)(hab:a.length=b.length)(hs:Fl a):∀(n:Nat),n<=a.length->D.ask (.lp 205 0) [eN a,eN b,iv ((n:Int)-1)] []
  = some (if FP (Au (a.take n)) (Au (b.take n))=0 then .tup [iv 1] else .tup [bv true,iv (FP (Au (a.take n)) (Au (b.take n)))],[]):=by
 intro n;unfold Fl at hs
 induction n with
 |zero=>
  intro _;refine K.lp' TC _ rfl (by kernel_rfl) ((Abn ..).trans ?_);refine DP (by omega) ?_;rfl
 |succ n ih=>
  intro hn;refine K.lp' TC _ rfl (by kernel_rfl) ((Abn ..).trans ?_);rw[show (((n+1:Nat):Int)-1)=(n:Int) by omega];refine Dp (by omega) ?_;have h1:n<a.length:=by omega
  have h2:n<b.length:=by omega
  have e1:a.take (n+1)=a.take n++[a[n]]:=by rw[AsT h1]
  have e2:b.take (n+1)=b.take n++[b[n]]:=by rw[AsT h2]
  rw[e1,e2,Aa9 (ha.take n) (hb.take n) (by simp;omega)];simp only[Ax,AF (Ψ h1),AF (Ψ h2),eL,YY,ND,DK,Aa]
  by_cases h3:a[n]<b[n]
  .refine Al (by omega) ?_
   rw[if_pos h3];rfl
  .refine Ak (by omega) ?_
   rw[if_neg h3]
   by_cases h4:b[n]<a[n]
   .refine Al (by omega) ?_
    rw[if_pos h4];rfl
   .refine Ak (by omega) ?_
    rw[if_neg h4];rw[show Ah.sub .i64 (n:Int) 1=(n:Int)-1 from LR (by omega) (by omega)];refine Ab (ih (by omega)) ?_
    by_cases h5:FP (Au (a.take n)) (Au (b.take n))=0
    .rw[if_pos h5];rfl
    .rw[if_neg h5];rfl
omit C in
theorem Vc{a b:List Nat}(hsa:Fl a)(ha:Limbs a)(hsb:Fl b)(hb:Limbs b):D.ask (.fn 205) [eN a,eN b] []=some (iv (FP (Au a) (Au b)),[]):=by
 have s1:=Ib ha hsa;have s2:=Ib hb hsb;unfold Fl at s1 s2;refine K.fn' TC _ rfl ((Apm ..).trans ?_);refine Ab (Fw K hsa ha) ?_;simp only[eN,ND,DK,Aa];refine Ab (Fw K hsb hb) ?_;simp only[eN,ND,DK,Aa,Aw];generalize Au a=x at *;generalize Au b=y at *
 by_cases h1:(Be x).length<(Be y).length
 .refine Al (by omega) ?_
  have:=Ow h1;unfold FP;rw[if_pos this]
 .refine Ak (by omega) ?_
  by_cases h2:(Be y).length<(Be x).length
  .refine Al (by omega) ?_
   have:=Ow h2;unfold FP;rw[if_neg (by omega),if_pos this]
  .refine Ak (by omega) ?_
   have hx:(Be x).length=(Be y).length:=by omega
   have g:=Akd K (Be x) (Be y) (AK x) (AK y) hx s1 (Be x).length (ω _);rw[Asv,hx,Asv,BA,BA]at g;rw[show Ah.sub .i64 ((Be x).length:Int) 1=((Be x).length:Int)-1 from LR (by omega) (by omega),hx];refine Ab g ?_
   by_cases h5:FP x y=0
   .rw[if_pos h5,h5];rfl
   .rw[if_neg h5];rfl
omit C in
theorem AaE(b:List Nat)(hb:Limbs b)(a:List Nat)(ha:Limbs a)(hs:Fl a):∀(k i:Nat) (out:List Nat) (c:Nat),a.length-i=k->i<=a.length->b.length<=a.length->c<=1->out.length+k<=2000000000->
  ∃(o:List Nat) (c':Nat),D.ask (.lp 149 0) [eN b,.sl 0 0 out.length 1,.v (.int .u64 (c:Int)),eN a,iv (a.length:Int),iv (i:Int)] [U (Ao eL out) true true]
   = some (.tup [iv 0,.sl 1 0 o.length 1,.v (.int .u64 (c':Int))],[.del,.set (U (Ao eL o) true true)])/\c'<=1/\o++[c']=out++Mq c (a.drop i) (b.drop i):=by
 intro k;unfold Fl at hs
 induction k with
 |zero=>
  intro i out c hi hle hba hc ho;refine⟨out,c,?_,hc,?_⟩
  .refine K.lp' Tw _ rfl (by kernel_rfl) ((Abi ..).trans ?_)
   refine Ak (by omega) ?_;rfl
  .rw[show a.drop i=[] from Ark (by omega)]
   rfl
 |succ k ih=>
  intro i out c hi hle hba hc ho;have hlt:i<a.length:=by omega
  have hx:=ha.get hlt;have hbd:=G2 (hb.drop i);have hdt:(b.drop i).tail=b.drop (i+1):=by rw[Atv]
  rw[show a.drop i=a[i]::a.drop (i+1) from Arf hlt];obtain⟨o,c',h1,h2,h3⟩:=ih (i+1) (out++[(a[i]+(b.drop i).headD 0+c) % 4294967296]) ((a[i]+(b.drop i).headD 0+c) / 4294967296) (by omega) (by omega) hba (by omega) (by simp;omega);refine⟨o,c',?_,h2,?_⟩
  .refine K.lp' Tw _ rfl (by kernel_rfl) ((Abi ..).trans ?_)
   refine Al (by omega) ?_;rw[Ax,AF (Ψ hlt)];have hf:Bc (out.length+1) 4=true:=AN (by omega) (by omega);have hb1:Arm (0+out.length*1) (Ao eL out).length=true:=AT BI out (by omega);have e3:∀ s:Nat,ο 0 (ι (0+out.length*1) (Ao eL out))++[.v (.int .u32 (s:Int))]=Ao eL (out++[s]):=λs=>by
    rw[υ,Bf BI out (by omega)];exact A9 eL out s
   rw[η,Ase]at h1;simp only[eL,YY,ND,DK,Aa,Aw];rw[Bo (by omega)]
   by_cases hib:i<b.length
   .have hd:(b.drop i).headD 0=b[i]:=by rw[Arf hib];rfl
    rw[hd]at h1 hbd;refine Al (by omega) ?_;rw[Ax,AF (Ψ hib)];simp only[eL,YY,ND,DK,Aa];rw[Cr (by omega),Cr (by omega),ET (by omega),ET (by omega),F5,LQ,hf,hb1,e3];rw[show a[i]+c+b[i]=a[i]+b[i]+c by omega];refine Ad ?_;refine Ad ?_;refine Ak (by decide) ?_;refine Ab h1 ?_;rfl
   .have hd:(b.drop i).headD 0=0:=by rw[Ark (by omega)];rfl
    rw[hd]at h1;refine Ak (by omega) ?_;rw[Cr (by omega),ET (by omega),F5,LQ,hf,hb1,e3];rw[show a[i]+c=a[i]+0+c by omega];refine Ad ?_;refine Ad ?_;refine Ak (by decide) ?_;refine Ab h1 ?_;rfl
  .rw[h3,Mq,hdt,Ari]
   rfl
theorem Akc{a b:List Nat}(hsa:a.length<=999999999)(ha:Limbs a)(hsb:b.length<=999999999)(hb:Limbs b):D.ask (.fn 149) [eN a,eN b] []=some (eN (Be (Au a+Au b)),[]):=by
 have s1:=Ib ha (by unfold Fl;omega);have s2:=Ib hb (by unfold Fl;omega);have t1:(Be (Au a)).length<=999999999:=by rw[I4 a ha];have:=Fu a;omega
 have t2:(Be (Au b)).length<=999999999:=by rw[I4 b hb];have:=Fu b;omega
 refine K.fn' Tw _ rfl ((AoY ..).trans ?_);refine Ab (Fw K (by unfold Fl;omega) ha) ?_;simp only[eN,ND,DK,Aa];refine Ab (Fw K (by unfold Fl;omega) hb) ?_;simp only[eN,ND,DK,Aa,Aw];generalize Au a=x at *;generalize Au b=y at *
 by_cases h1:(Be x).length<(Be y).length
 .refine Al (by omega) ?_
  have hl:Limbs (Mq 0 (Be y) (Be x)):=J9 _ _ _ (AK _) (AK _) (by omega);obtain⟨o,c',g,hc,ho⟩:=AaE K (Be x) (AK x) (Be y) (AK y) s2 (Be y).length 0 [] 0 (by omega) (by omega) (by omega) (by omega) (by unfold Fl at s2;simp;omega);rw[Arx,υ,υ]at ho;have hol:o.length=(Be y).length:=by
   have:=congrArg At0 ho;rw[η,IJ]at this;simpa using this
  have hsx:=s2;unfold Fl at hsx;rw[show Ah.add .i64 ((Be y).length:Int) 1=(((Be y).length+1:Nat):Int) from Bo (by omega),Ax];rw[AN (n:=(Be y).length+1) (b:=4) (by omega) (by omega)];refine Ad ?_;refine Ab g ?_;simp only[P4,ND,DK,Aa];rw[DE (by omega)];have e3:ο 0 (ι (0+o.length*1) (Ao eL o))++[.v (.int .u32 (c':Int))]=Ao eL (o++[c']):=by
   rw[υ,Bf BI o (by omega)];exact A9 eL o c'
  rw[AN (n:=o.length+1) (b:=4) (by omega) (by omega),AT BI o (by omega),e3,AT BI (o++[c']) (by simp)];refine Ad ?_;refine Ad ?_;refine Ad ?_;rw[υ,Bf BI (o++[c']) (by simp),show BC (o.length+1) 1 (Ao eL (o++[c']))=(o++[c']).map eL from by have:=Ez BI (o++[c']);rwa [η]at this];rw[ho];have gt:=Hq K C (l:=Mq 0 (Be y) (Be x)) (by unfold Fl;rw[IJ];omega) hl;rw[M5 _ _ _ (by omega),BA,BA]at gt;refine Ab gt ?_;rw[show 0+y+x=x+y by omega];rfl
 .refine Ak (by omega) ?_
  have hl:Limbs (Mq 0 (Be x) (Be y)):=J9 _ _ _ (AK _) (AK _) (by omega);obtain⟨o,c',g,hc,ho⟩:=AaE K (Be y) (AK y) (Be x) (AK x) s1 (Be x).length 0 [] 0 (by omega) (by omega) (by omega) (by omega) (by unfold Fl at s1;simp;omega);rw[Arx,υ,υ]at ho;have hol:o.length=(Be x).length:=by
   have:=congrArg At0 ho;rw[η,IJ]at this;simpa using this
  have hsx:=s1;unfold Fl at hsx;rw[show Ah.add .i64 ((Be x).length:Int) 1=(((Be x).length+1:Nat):Int) from Bo (by omega),Ax];rw[AN (n:=(Be x).length+1) (b:=4) (by omega) (by omega)];refine Ad ?_;refine Ab g ?_;simp only[P4,ND,DK,Aa];rw[DE (by omega)];have e3:ο 0 (ι (0+o.length*1) (Ao eL o))++[.v (.int .u32 (c':Int))]=Ao eL (o++[c']):=by
   rw[υ,Bf BI o (by omega)];exact A9 eL o c'
  rw[AN (n:=o.length+1) (b:=4) (by omega) (by omega),AT BI o (by omega),e3,AT BI (o++[c']) (by simp)];refine Ad ?_;refine Ad ?_;refine Ad ?_;rw[υ,Bf BI (o++[c']) (by simp),show BC (o.length+1) 1 (Ao eL (o++[c']))=(o++[c']).map eL from by have:=Ez BI (o++[c']);rwa [η]at this];rw[ho];have gt:=Hq K C (l:=Mq 0 (Be x) (Be y)) (by unfold Fl;rw[IJ];omega) hl;rw[M5 _ _ _ (by omega),BA,BA]at gt;refine Ab gt ?_;rw[show 0+x+y=x+y by omega];rfl
omit C in
theorem Akh(b:List Nat)(hb:Limbs b)(a:List Nat)(ha:Limbs a)(hs:Fl a):∀(k i:Nat) (out:List Nat) (c:Nat),a.length-i=k->i<=a.length->c<=1->out.length+k<=2000000000->
  D.ask (.lp 150 0) [eN b,.sl 0 0 out.length 1,.v (.int .u64 (c:Int)),eN a,iv (a.length:Int),iv (i:Int)] [U (Ao eL out) true true]
   = some (.tup [iv 0,.sl 1 0 (out++Me c (a.drop i) (b.drop i)).length 1],[.del,.set (U (Ao eL (out++Me c (a.drop i) (b.drop i))) true true)]):=by
 intro k;unfold Fl at hs
 induction k with
 |zero=>
  intro i out c hi hle hc ho;refine K.lp' Tx _ rfl (by kernel_rfl) ((Abj ..).trans ?_);refine Ak (by omega) ?_;rw[show a.drop i=[] from Ark (by omega)];simp only[Me,List.append_nil]
  all_goals rfl
 |succ k ih=>
  intro i out c hi hle hc ho;have hlt:i<a.length:=by omega
  have hx:=ha.get hlt;have hbd:=G2 (hb.drop i);have hdt:(b.drop i).tail=b.drop (i+1):=by rw[Atv]
  rw[show a.drop i=a[i]::a.drop (i+1) from Arf hlt,Me,hdt];have h1:=ih (i+1) (out++[if a[i]<(b.drop i).headD 0+c then a[i]+4294967296-((b.drop i).headD 0+c) else a[i]-((b.drop i).headD 0+c)]) (if a[i]<(b.drop i).headD 0+c then 1 else 0) (by omega) (by omega) (by split<;>omega) (by simp;omega);rw[Ari,η,Ase]at h1;refine K.lp' Tx _ rfl (by kernel_rfl) ((Abj ..).trans ?_);refine Al (by omega) ?_;rw[Ax,AF (Ψ hlt)];have hf:Bc (out.length+1) 4=true:=AN (by omega) (by omega);have hb1:Arm (0+out.length*1) (Ao eL out).length=true:=AT BI out (by omega);have e3:∀ s:Nat,ο 0 (ι (0+out.length*1) (Ao eL out))++[.v (.int .u32 (s:Int))]=Ao eL (out++[s]):=λs=>by
   rw[υ,Bf BI out (by omega)];exact A9 eL out s
  simp only[eL,YY,ND,DK,Aa,Aw];rw[Bo (by omega)]
  by_cases hib:i<b.length
  .have hd:(b.drop i).headD 0=b[i]:=by rw[Arf hib];rfl
   rw[hd]at h1 hbd;rw[hd];refine Al (by omega) ?_;rw[Ax,AF (Ψ hib)];simp only[eL,YY,ND,DK,Aa];rw[Cr (show a[i]<_ by omega),Cr (show b[i]<_ by omega),ET (by omega)]
   by_cases hlt2:a[i]<b[i]+c
   .refine Al (by omega) ?_
    rw[if_pos hlt2,if_pos hlt2]at h1;rw[if_pos hlt2,if_pos hlt2];rw[show (4294967296:Int)=((4294967296:Nat):Int) from rfl,ET (by omega),show c+b[i]=b[i]+c by omega,N4 (by omega) (by omega),DE (by omega),hf,hb1,e3];refine Ad ?_;refine Ad ?_;refine Ab h1 ?_;rfl
   .refine Ak (by omega) ?_
    rw[if_neg hlt2,if_neg hlt2]at h1;rw[if_neg hlt2,if_neg hlt2];rw[show c+b[i]=b[i]+c by omega,N4 (by omega) (by omega),DE (by omega),hf,hb1,e3];refine Ad ?_;refine Ad ?_;refine Ab h1 ?_;rfl
  .have hd:(b.drop i).headD 0=0:=by rw[Ark (by omega)];rfl
   rw[hd]at h1;rw[hd];refine Ak (by omega) ?_;rw[Cr (show a[i]<_ by omega)];rw[Ary]at h1;simp only[show (0:Nat)+c=c by omega]
   by_cases hlt2:a[i]<c
   .refine Al (by omega) ?_
    rw[if_pos hlt2,if_pos hlt2]at h1;rw[if_pos hlt2,if_pos hlt2];rw[show (4294967296:Int)=((4294967296:Nat):Int) from rfl,ET (by omega),N4 (by omega) (by omega),DE (by omega),hf,hb1,e3];refine Ad ?_;refine Ad ?_;refine Ab h1 ?_;rfl
   .refine Ak (by omega) ?_
    rw[if_neg hlt2,if_neg hlt2]at h1;rw[if_neg hlt2,if_neg hlt2];rw[N4 (by omega) (by omega),DE (by omega),hf,hb1,e3];refine Ad ?_;refine Ad ?_;refine Ab h1 ?_;rfl
def AbE(x y:Nat):AV:=if y<=x then .tup [eN (Be (x-y)),bv true] else .tup [eN [],bv false]
theorem AaJ{a b:List Nat}(hsa:Fl a)(ha:Limbs a)(hsb:Fl b)(hb:Limbs b):D.ask (.fn 150) [eN a,eN b] []=some (AbE (Au a) (Au b),[]):=by
 have s1:=Ib ha hsa;have s2:=Ib hb hsb;refine K.fn' Tx _ rfl ((AoZ ..).trans ?_);refine Ab (Fw K hsa ha) ?_;simp only[eN,ND,DK,Aa];refine Ab (Fw K hsb hb) ?_;simp only[eN,ND,DK,Aa,Aw];have gc:=Vc K s1 (AK _) s2 (AK _);rw[BA,BA]at gc;refine Ab gc ?_;simp only[ND,DK,Aa];generalize Au a=x at *;generalize Au b=y at *;unfold AbE;unfold Fl at s1 s2
 by_cases h1:x<y
 .rw[show FP x y=-1 by unfold FP;rw[if_pos h1]]
  refine Al (by decide) ?_;rw[if_neg (by omega)];rfl
 .refine Ak (by unfold FP;rw[if_neg h1];split<;>omega) ?_
  rw[if_pos (by omega)];have hle:(Be y).length<=(Be x).length:=by
   by_cases h:(Be x).length<(Be y).length
   .have:=Ow h;omega
   .omega
  rw[AN (n:=(Be x).length) (b:=4) (by omega) (by omega)];refine Ad ?_;have g:=Akh K (Be y) (AK y) (Be x) (AK x) s1 (Be x).length 0 [] 0 (by omega) (by omega) (by omega) (by simp;omega);refine Ab g ?_;simp only[ND,DK,Aa,υ,Arx];rw[AT BI _ (by omega)];refine Ad ?_;rw[Cz BI _ rfl];have gt:=Hq K C (l:=Me 0 (Be x) (Be y)) (by unfold Fl;rw[PE];exact s1) (KV _ _ _ (AK _) (AK _) (by omega));rw[Aeu (AK _) (AK _) hle (by rw[BA,BA];omega),BA,BA]at gt;refine Ab gt ?_;rfl
end
def eC(n:Nat):AV:=.v (.int .u32 (n:Int))
theorem LZ:∀ l:List Nat,Ao eL l=l.map eC
 |[]=>rfl
 |x::r=>by
  have ih:=LZ r;unfold Ao at ih ⊢;rw[List.flatMap_cons,ih];rfl
theorem Rj(l:List Nat)(i v:Nat)(h:i<l.length):AR (Ao eL l) (0+i*1) [.v (.int .u32 (v:Int))]=Ao eL (l.set i v):=by
 rw[LZ,LZ,AsR,if_pos h];unfold AR;simp only[Ary,Aur,List.map_append,List.map_cons,AtF,List.map_drop,Ase];rw[Ari];rfl
theorem Alp(l:List Nat)(i:Nat)(h:i<l.length)(k:List AV->KR):Iw (Ao eL l) (0+i*1) 1 k=k [.v (.int .u32 (l[i]:Int))]:=by
 have hx:(Ao eL l)[i]? = some (.v (.int .u32 (l[i]:Int))):=by
  rw[LZ,List.getElem?_map,Ψ h];rfl
 obtain⟨hl,hx⟩:=List.getElem?_eq_some_iff.1 hx;unfold Iw;have:Arm (0+i*1+1) (Ao eL l).length=true:=by simp;omega
 rw[this];simp only[Ary,Aur];rw[Arf hl,hx];rfl
theorem AeD(n:Nat):CE [.v (.int .u32 0)] (n*1)=Ao eL (At6 n 0):=by
 rw[LZ,Aur];unfold CE;rw[List.map_replicate];refine List.ext_getElem (by simp) λi h1 h2=>?_
 simp[Nat.mod_one,eC]
theorem Q2:∀(x:Nat) (b o:List Nat) (c:Nat),(O7 x c b o).drop (b.length+1)=o.drop (b.length+1)
 |x,[],o,c=>by
  rw[O7]
  cases o<;>simp
 |x,y::b,o,c=>by
  rw[O7,ν,List.drop_succ_cons,Q2 x b o.tail]
  cases o with
  |nil=>simp
  |cons z o=>rfl
def II(j:Nat)(l:List Nat):Prop:=∀ y∈l.drop j,y=0
theorem Aay{j:Nat}{l:List Nat}(h:II j l):(l.drop j).headD 0=0:=by
 unfold II at h
 cases e:l.drop j with
 |nil=>rfl
 |cons z r=>
  rw[e]at h;exact h z (Arv ..)
theorem CU{a b:Nat}(h:a<b):Nat.blt a b=true:=by simpa using h
section
variable {D:Orc} (K:Knows Ag Mf D)
include K
theorem ZX(a b:List Nat)(hb:Limbs b)(i:Nat)(hi:i<a.length)(hsz:a.length+b.length<=1000000000)(x:Nat)(hx:x<4294967296):∀(m k:Nat) (out:List Nat) (c:Nat),b.length-k=m->k<=b.length->Limbs out->c<4294967296->out.length=a.length+b.length->
  ∃(o:List Nat) (c':Nat),D.ask (.lp 282 1) [eN b,.sl 0 0 out.length 1,iv (i:Int),.v (.int .u32 (x:Int)),.v (.int .u64 (c:Int)),eN a,iv (a.length:Int),iv (i:Int),eN b,iv (b.length:Int),iv (k:Int)] [U (Ao eL out) true true]
   = some (.tup [iv 2,eN b,.sl 1 0 out.length 1,iv (i:Int),.v (.int .u64 (c':Int)),eN a,iv (a.length:Int),iv (i:Int)],[.del,.set (U (Ao eL o) true true)])
   ∧ c'<4294967296/\Limbs o/\o.length=out.length/\o.set (i+b.length) c'=out.take (i+k)++O7 x c (b.drop k) (out.drop (i+k)):=by
 intro m
 induction m with
 |zero=>
  intro k out c hm hk ho hc hlen;obtain rfl:k=b.length:=by omega
  refine⟨out,c,?_,hc,ho,rfl,?_⟩
  .refine K.lp' Ni _ rfl (by kernel_rfl) ((AbA ..).trans ?_)
   refine Ak (by omega) ?_;rfl
  .rw[List.drop_length,O7,AsR,if_pos (by omega),Atv]
 |succ m ih=>
  intro k out c hm hk ho hc hlen;have hlt:k<b.length:=by omega
  have hik:i+k<out.length:=by omega
  have hy:=hb.get hlt;have hz:=ho.get hik;have hp:=Sg hx hy;have hd:(out.drop (i+k)).headD 0=out[i+k]:=by rw[Arf hik];rfl
  obtain⟨o,c',h1,h2,h3,h4,h5⟩:=ih (k+1) (out.set (i+k) ((x*b[k]+out[i+k]+c) % 4294967296)) ((x*b[k]+out[i+k]+c) / 4294967296) (by omega) (by omega)
   (λz hz'=>by
    rcases List.mem_or_eq_of_mem_set hz' with h|h
    .exact ho z h
    .rw[h];exact Ate _ (by omega)) (by omega) (by rw[ArM];exact hlen)
  rw[ArM]at h1 h4;refine⟨o,c',?_,h2,h3,h4,?_⟩
  .refine K.lp' Ni _ rfl (by kernel_rfl) ((AbA ..).trans ?_)
   refine Al (by omega) ?_;rw[Ax,AF (Ψ hlt)];simp only[eL,P4,ND,DK,Aa];rw[Akj (by omega),Ax,CU hik];refine Ad ?_;refine(Alp out _ hik _).trans ?_;simp only[P4,ND,DK,Aa];rw[Ax,CU hik];refine Ad ?_;rw[show Arm (0+(i+k)*1+1) (Ao eL out).length=true by rw[BD BI];simp;omega];refine Ad ?_;refine Ak (by decide) ?_;rw[Cr (show x<_ by omega),Cr (show b[k]<_ by omega),Cr (show out[i+k]<_ by omega),Yb (by omega),ET (by omega),ET (by omega),F5,LQ,Rj _ _ _ hik,Bo (by omega)];refine Ab h1 ?_;rfl
  .rw[h5,Arf hlt,O7,hd]
   have e1:ι (i+(k+1)) (out.set (i+k) ((x*b[k]+out[i+k]+c) % 4294967296))=out.take (i+k)++[(x*b[k]+out[i+k]+c) % 4294967296]:=by
    rw[show i+(k+1)=i+k+1 by omega,AsT (by rw[ArM];exact hik),List.getElem_set_self,List.take_set_of_le (ω _)]
   have e2:ο (i+(k+1)) (out.set (i+k) ((x*b[k]+out[i+k]+c) % 4294967296))=(out.drop (i+k)).tail:=by
    rw[List.drop_set_of_lt (by omega),Atv];rfl
   rw[e1,e2,Ari];rfl
theorem ZY(a b:List Nat)(ha:Limbs a)(hb:Limbs b)(hsz:a.length+b.length<=1000000000):∀(m i:Nat) (out:List Nat),a.length-i=m->i<=a.length->Limbs out->out.length=a.length+b.length->II (i+b.length) out->
  ∃ o:List Nat,D.ask (.lp 282 0) [eN b,.sl 0 0 out.length 1,eN a,iv (a.length:Int),iv (i:Int)] [U (Ao eL out) true true]=some (.tup [iv 0,.sl 1 0 o.length 1],[.del,.set (U (Ao eL o) true true)])
   ∧ Limbs o/\o.length=out.length/\Au o=Au out+4294967296 ^ i*Au (a.drop i)*Au b:=by
 intro m
 induction m with
 |zero=>
  intro i out hm hi ho hlen hz;refine⟨out,?_,ho,rfl,?_⟩
  .refine K.lp' Ni _ rfl (by kernel_rfl) ((Abz ..).trans ?_)
   refine Ak (by omega) ?_;rfl
  .rw[show a.drop i=[] from Ark (by omega)]
   simp[Au]
 |succ m ih=>
  intro i out hm hi ho hlen hz;have hlt:i<a.length:=by omega
  have hx:=ha.get hlt;obtain⟨o,c',g1,g2,g3,g4,g5⟩:=ZX K a b hb i hlt hsz a[i] hx b.length 0 out 0 (by omega) (by omega) ho (by omega) hlen;rw[Ar5,υ]at g5;have hdl:(out.drop i).length=a.length+b.length-i:=by rw[ArU];omega
  have hlm:Limbs (o.set (i+b.length) c'):=by
   rw[g5];exact Zn (ho.take i) (O8 _ _ _ _ hx hb (ho.drop i) (by omega))
  have hhead:((out.drop i).drop b.length).headD 0=0:=by
   rw[Atc];exact Aay hz
  have hv:Au (o.set (i+b.length) c')=Au out+4294967296 ^ i*(a[i]*Au b):=by
   rw[g5,Hk,Rs _ _ _ _ hhead];have e:Au out=Au (out.take i)+4294967296 ^ i*Au (out.drop i):=by
    have:=Hk (out.take i) (out.drop i);rw[List.take_append_drop,ArG,AsC (by omega)]at this;exact this
   rw[e,ArG,AsC (by omega),Ar5,Atj];omega
  have hz2:II (i+1+b.length) (o.set (i+b.length) c'):=by
   unfold II;rw[g5,AtN,Ark (by rw[ArG];omega),Arx,ArG,AsC (by omega),show i+1+b.length-i=b.length+1 by omega,Q2,Atc];intro y hy;exact hz y (by
    have:ο (i+(b.length+1)) out=ο 1 (ο (i+b.length) out):=by rw[Atc];rfl
    rw[this]at hy;exact Ash hy)
  obtain⟨o2,k1,k2,k3,k4⟩:=ih (i+1) (o.set (i+b.length) c') (by omega) (by omega) hlm (by rw[ArM,g4,hlen]) hz2;rw[ArM,g4]at k1 k3;refine⟨o2,?_,k2,k3,?_⟩
  .refine K.lp' Ni _ rfl (by kernel_rfl) ((Abz ..).trans ?_)
   refine Al (by omega) ?_;rw[Ax,AF (Ψ hlt)];simp only[eL,P4,Aw,ND,DK,Aa];refine Ab g1 ?_;simp only[eN,P4,Aw,ND,DK,Aa];rw[Akj (by omega),Ax,CU (by omega)];refine Ad ?_;rw[show Arm (0+(i+b.length)*1+1) (Ao eL o).length=true by rw[BD BI];simp;omega];refine Ad ?_;rw[DE g2,Rj _ _ _ (by omega),Bo (by omega)];refine Ab k1 ?_;rfl
  .rw[k4,hv,Arf hlt,Au,AsV]
   have e1:4294967296 ^ i*(a[i]+4294967296*Au (ο (i+1) a))*Au b=4294967296 ^ i*(a[i]*Au b)+4294967296 ^ i*4294967296*Au (ο (i+1) a)*Au b:=by
    rw[Atj,Ar4,AsH _ a[i],AsH (4294967296 ^ i) 4294967296]
   rw[e1];omega
variable (C:CloneF D)
include C
theorem ZZ{a b:List Nat}(ha:Limbs a)(hb:Limbs b)(hsz:a.length+b.length<=1000000000):D.ask (.fn 282) [eN a,eN b] []=some (eN (Be (Au a*Au b)),[]):=by
 obtain⟨o,k1,k2,k3,k4⟩:=ZY K a b ha hb hsz a.length 0 (At6 (a.length+b.length) 0) (by omega) (by omega) (λx hx=>by rw[(Auh.1 hx).2];omega) (by simp) (λy hy=>(Auh.1 (Ash hy)).2);rw[List.length_replicate]at k1 k3;have hz:∀ n,Au (At6 n 0)=0:=λn=>by
  induction n with
  |zero=>rfl
  |succ n ih=>rw[List.replicate_succ,Au,ih]
 rw[hz,υ,Nat.pow_zero,Nat.one_mul,Ary]at k4;refine K.fn' Ni _ rfl ((ApT ..).trans ?_);rw[Aw,Aw,Akj (by omega)];simp only[Ax];rw[show Arm (a.length+b.length) (a.length+b.length)=true by simp,AN (n:=a.length+b.length) (b:=4) (by omega) (by omega),AeD];refine Ad ?_;refine Ad ?_;refine Ab k1 ?_;simp only[ND,DK,Aa];rw[AT BI _ (by omega)];refine Ad ?_;rw[Cz BI _ rfl];have gt:=Hq K C (l:=o) (by unfold Fl;omega) k2;rw[k4]at gt;refine Ab gt ?_;rfl
theorem Akg{a b:List Nat}(hsa:a.length<=400000000)(ha:Limbs a)(hsb:b.length<=400000000)(hb:Limbs b)(h24:a.length<24\/b.length<24):D.ask (.fn 275) [eN a,eN b] []=some (eN (Be (Au a*Au b)),[]):=by
 have t1:(Be (Au a)).length<=a.length:=by rw[I4 a ha];exact Fu a
 have t2:(Be (Au b)).length<=b.length:=by rw[I4 b hb];exact Fu b
 refine K.fn' AiE _ rfl ((ApO ..).trans ?_);refine Ab (Fw K (by unfold Fl;omega) ha) ?_;simp only[eN,ND,DK,Aa];refine Ab (Fw K (by unfold Fl;omega) hb) ?_;simp only[eN,ND,DK,Aa,Aw];have g:=ZZ K C (AK (Au a)) (AK (Au b)) (by omega);rw[BA,BA]at g
 by_cases h1:(Be (Au a)).length<24
 .refine Al (by omega) ?_
  refine Ab g ?_;rfl
 .refine Ak (by omega) ?_
  refine Al (by omega) ?_;refine Ab g ?_;rfl
end
end Go.Proofs.YtlmhajfbpplpoaaGreat
