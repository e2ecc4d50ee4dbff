/- Layer 14's alive: its parts, computed. Layer 14's -/
import Derived.Test.YtlmhajfbpplpoaaGreatOBQ
import Derived.Test.YtlmhajfbpplpoaaGreatOBR
set_option linter.all false
open List renaming drop_eq_getElem_cons->ApE,drop_eq_nil_of_le->ApL,getElem?_eq_getElem->Apy,length_nil->AqW,mem_cons->ApN
open Nat renaming le_refl->ApA,lt_succ_self->Aqp
namespace Go.Proofs.YtlmhajfbpplpoaaGreat
open Go.RowKit
def Fv:Sy:=⟨[AI [120],AI [121]],[],0,[],false,[],false,[],[⟨AI [112],[AI [97],AI [98]],[]⟩],[]⟩
def Tj:Tr:=.mk 2 [⟨false,AI [],AI [120]⟩] [⟨false,AI [48],AI []⟩] 4 (AI []) (AI []) []
def Vo:Tr:=.mk 6 [] [] 0 (AI [112]) (AI [98]) []
def q4:Tr:=LP 9 [LP 7 [Tj,LP 10 [Vo]]]
def Ti:Tr:=LP 99 []
def s41:List UInt8:=[71,32,40,120,32,62,32,48,32,45,62,32,70,32,64,112,46,98,41]
def s42:List UInt8:=[120,32,61,32,49,32,85]
def s43:List UInt8:=[64,112,46,99]
set_option maxRecDepth 1000000
def Ul:Option (AV × List BO)->Bool
 |some (.tup [.agg [.v (.int .i64 9),.v (.int .i64 _),.ls _],.ls [_,[.v (.bool true),.v (.int .i64 _),.v (.int .i64 1),.v (.int .i64 _),.ls _,.v (.bool _),.ls _,.v (.bool _),.ls _]],.v (.bool true)],[])=>true
 |_=>false
def Zz:Option (AV × List BO)->Bool
 |some (.tup [.agg [.v (.int .i64 _),.v (.int .i64 _),.ls _],.ls _,.v (.bool false)],[])=>true
 |_=>false
end Go.Proofs.YtlmhajfbpplpoaaGreat
namespace Go.Proofs.YtlmhajfbpplpoaaGreat
open Go.RowKit
theorem Xr{o:Option (AV × List BO)}(h:Ul o=true):∃ a b c d e f g i j k,o=some (.tup [.agg [iv 9,iv a,.ls b],.ls [c,[bv true,iv d,iv 1,iv e,.ls f,bv g,.ls i,bv j,.ls k]],bv true],[]):=by
 unfold Ul at h;split at h
 .exact⟨_,_,_,_,_,_,_,_,_,_,rfl⟩
 .cases h
theorem ZA{o:Option (AV × List BO)}(h:Zz o=true):∃ a b c d,o=some (.tup [.agg [iv a,iv b,.ls c],.ls d,bv false],[]):=by
 unfold Zz at h;split at h
 .exact⟨_,_,_,_,rfl⟩
 .cases h
def AkT(y:Sy):Bool:=decide (y.vars.length<=50)&&decide (y.ps.length<=12)&&y.ps.all λp=>decide (p.locs.length<=50)
structure FewY (y:Sy):Prop where
 v:y.vars.length<=50
 p:y.ps.length<=12
 q:∀ p∈y.ps,p.locs.length<=50
theorem Aay{y:Sy}:AkT y=true ↔ FewY y:=by
 unfold AkT;simp only[Bool.and_eq_true,decide_eq_true_eq,List.all_eq_true];exact⟨λ⟨⟨a,b⟩,c⟩=>⟨a,b,c⟩,λ⟨a,b,c⟩=>⟨⟨a,b⟩,c⟩⟩
structure Al4F (D:Orc):Prop where
 res:∃ a b c d e f g i j k,D.ask (.fn 34) [.agg (Ck q4),.agg (Jm Fv)] []=some (.tup [.agg [iv 9,iv a,.ls b],.ls [c,[bv true,iv d,iv 1,iv e,.ls f,bv g,.ls i,bv j,.ls k]],bv true],[])
 no:∃ a b c d,D.ask (.fn 34) [.agg (Ck Ti),.agg (Jm Fv)] []=some (.tup [.agg [iv a,iv b,.ls c],.ls d,bv false],[])
 text:D.ask (.fn 38) [.agg (Ck q4)] []=some (sv (AI s41),[])
section
variable {D:Orc}
theorem Acz(Kv:Knows Al LK D):D.ask (.fn 42) [] []=some (.agg (Jm Fv),[]):=
 Kv.fn' Ak1 _ rfl ((e42 ..).trans rfl)
theorem Acy:FewY Fv:=Aay.1 rfl
theorem Amx:WzT q4:=by
 have z:(AI []).size<=9223372036854775807:=by decide
 have at':WzT Vo:=.mk (by simp) (by simp) (by simp) (by simp) (by simp) (by simp);have cm:WzT Tj:=.mk (by simp) (by simp) (by simp) (by simp;exact⟨by decide,by decide⟩) (by simp;exact⟨by decide,by decide⟩) (by simp);have f:WzT (LP 10 [Vo]):=.mk (by simp) (by simp) (by simp) (by simp) (by simp) (by simpa using at');have im:WzT (LP 7 [Tj,LP 10 [Vo]]):=.mk (by simp) (by simp) (by simp) (by simp) (by simp) (by intro x hx;rcases ApN.1 hx with rfl|hx;exact cm;rcases ApN.1 hx with rfl|hx;exact f;cases hx);exact .mk (by simp) (by simp) (by simp) (by simp) (by simp) (by simpa using im)
theorem Amw:WzP q4:=by
 have at':WzP Vo:=.mk (by decide) (by decide) (by simp);have cm:WzP Tj:=.mk (by decide) (by decide) (by simp);have f:WzP (LP 10 [Vo]):=.mk (by decide) (by decide) (by simpa using at');have im:WzP (LP 7 [Tj,LP 10 [Vo]]):=.mk (by decide) (by decide) (by intro x hx;rcases ApN.1 hx with rfl|hx;exact cm;rcases ApN.1 hx with rfl|hx;exact f;cases hx);exact .mk (by decide) (by decide) (by simpa using im)
theorem AjT(a:List AV)(r:List (List AV))(k:List AV->KR):Br (a::r) 0 k=k a:=rfl
theorem AbA(a b:List AV)(r:List (List AV))(k:List AV->KR):Br (a::b::r) 1 k=k b:=rfl
end
end Go.Proofs.YtlmhajfbpplpoaaGreat
namespace Go.Proofs.YtlmhajfbpplpoaaGreat
open Go.RowKit
end Go.Proofs.YtlmhajfbpplpoaaGreat
namespace Go.Proofs.YtlmhajfbpplpoaaGreat
open Go.RowKit
section
variable {D:Orc}
end
end Go.Proofs.YtlmhajfbpplpoaaGreat
namespace Go.Proofs.YtlmhajfbpplpoaaGreat
open Go.RowKit
end Go.Proofs.YtlmhajfbpplpoaaGreat
namespace Go.Proofs.YtlmhajfbpplpoaaGreat
open Go.RowKit
section
variable {D:Orc}
end
end Go.Proofs.YtlmhajfbpplpoaaGreat
namespace Go.Proofs.YtlmhajfbpplpoaaGreat
open Go.RowKit
mutual
def Jk:Tr->Nat
 |.mk _ _ _ _ _ _ ks=>1+Fy ks
def Fy:List Tr->Nat
 |[]=>0
 |x::r=>Jk x+Fy r
end
theorem ZG(k:Int)(l r:List Mo)(op:Int)(p q:ByteArray)(x:Tr):Jk (.mk k l r op p q [x])=1+Jk x:=by
 rw[Jk,Fy,Fy,Nat.add_zero]
theorem ZH(k:Int)(l r:List Mo)(op:Int)(p q:ByteArray)(x y:Tr):Jk (.mk k l r op p q [x,y])=1+(Jk x+Jk y):=by
 rw[Jk,Fy,Fy,Fy];omega
theorem V7(x:Tr):lenO x<=(txt x).length+2:=by unfold lenO;split<;>omega
theorem V8(x:Tr):lenW x<=(txt x).length+2:=by unfold lenW;split<;>omega
theorem OD{ms:List Mo}(h:Pc ms=true):(JI ms).length<=5376:=by
 have h1:=LI ms 0 (EL h).2.2;have h2:=(EL h).2.1;unfold JI;rw[if_pos h];omega
theorem Aks:∀(n:Nat) (t:Tr) (d:Nat),SizeOf.sizeOf t<n->BW t d=true->(txt t).length+10<=11000*Jk t:=by
 intro n
 induction n with
 |zero=>intro t d h;omega
 |succ n ih=>
  intro t d hn h
  cases KG h with
  |tt=>decide
  |ff=>decide
  |@cmp _ l r op hl hr h1 h2=>
   have hc:Nr (.mk 2 l r op (AI []) (AI []) [])=true:=by
    unfold Nr;simp[hl,hr,h1,h2]
   rw[txt,if_neg (by decide),if_pos rfl,if_pos hc,Jk,Fy];unfold cmpTx;have s1:=OD hl;have s2:=OD hr;have hol:(opsL.getD op.toNat []).length<=2:=by
    have:op.toNat<6:=by omega
    generalize op.toNat=n at this
    match n,this with
    |0,_=>decide
    |1,_=>decide
    |2,_=>decide
    |3,_=>decide
    |4,_=>decide
    |5,_=>decide
   simp only[List.length_append,List.length_cons,AqW];omega
  |@no _ x hd hx=>
   have gx:=ih x _ (by simp only[Tr.mk.sizeOf_spec,List.cons.sizeOf_spec]at hn;omega) hx;have:=V7 x;rw[txt_no,ZG];omega
  |@bin _ k x y hk hd hx gd hy=>
   have gx:=ih x _ (by simp only[Tr.mk.sizeOf_spec,List.cons.sizeOf_spec]at hn;omega) hx;have gy:=ih y _ (by simp only[Tr.mk.sizeOf_spec,List.cons.sizeOf_spec]at hn;omega) hy;have o1:=V7 y;have o2:=V8 x;have o3:=V8 y;rw[ZH];rcases hk with rfl|rfl
   .rw[txt_and];omega
   .rw[txt_or];omega
section
variable {D:Orc}
theorem Aft(Ks:Knows Al Ql D)(t:Tr)(L:Nat)(hL:L<=1000)(hk:t.kids.length<4611686018427387904)
  (g:∀ x∈t.kids,∀ L:Nat,L<=1000->∃ n:Nat,D.ask (.fn 21) [.agg (Ck x),iv (L:Int)] []=some (iv (n:Int),[])/\n<=L+1/\(n<=L->n=Jk x)):∀(k i n:Nat),t.kids.length-i=k->n<=L+1->
  ∃ m:Nat,D.ask (.lp 21 0) [iv (L:Int),.ptr 0 0,iv (n:Int),iv (i:Int)] [K0 t]=some (.tup [iv 0,iv (m:Int)],[.del])/\m<=L+1/\n<=m/\(m<=L->m=n+Fy (t.kids.drop i)):=by
 intro k;obtain⟨kd,l,r,op,p,q,ks⟩:=t;simp only[Tr.kids]at g hk ⊢;have hlen:A1 (XB ks)=ks.length:=by rw[B3,Av]
 induction k with
 |zero=>
  intro i n hi hn;refine⟨n,?_,hn,ApA _,λ_=>?_⟩
  .refine Ks.lp' XO _ rfl (by kernel_rfl) ((Z8 ..).trans ?_)
   rw[hlen];refine ltF_go (by omega)?_;rfl
  .rw[show ks.drop i=[] from ApL (by omega),Fy]
   omega
 |succ k ih=>
  intro i n hi hn;have hlt:i<ks.length:=by omega
  by_cases hnl:n<=L
  .obtain⟨a,g1,g2,g3⟩:=g ks[i] (List.getElem_mem hlt) (L-n) (by omega)
   obtain⟨m,k1,k2,k3,k4⟩:=ih (i+1) (n+a) (by omega) (by omega);refine⟨m,?_,k2,by omega,λhm=>?_⟩
   .refine Ks.lp' XO _ rfl (by kernel_rfl) ((Z8 ..).trans ?_)
    rw[hlen];refine Ao (by omega)?_;rw[Oj,decide_eq_true (show (n:Int)<=(L:Int) by omega)];refine Ag ?_;rw[B3,AG,AD (Apy hlt)];rw[Gk (a:=(L:Int)) (b:=(n:Int)) (by omega) (by omega),show (L:Int)-(n:Int)=((L-n:Nat):Int) by omega];revert g1;generalize ks[i]=x;obtain⟨xk,xl,xr,xo,xp,xq,xs⟩:=x;intro g1;simp only[Ck,ND,Aa]at g1 ⊢;refine Ab g1 ?_;simp only[ND,Aa];rw[Bh (by omega),Hb (a:=(n:Int)) (b:=(a:Int)) (by omega) (by omega),show (n:Int)+(a:Int)=((n+a:Nat):Int) by omega];unfold K0 at k1;rw[Ck,B3]at k1;refine Ab k1 ?_;rfl
   .rw[show ks.drop i=ks[i]::ks.drop (i+1) from ApE hlt,Fy]
    have:=k4 hm;have:=g3 (by omega);omega
  .refine⟨n,?_,hn,ApA _,λh=>absurd h hnl⟩
   refine Ks.lp' XO _ rfl (by kernel_rfl) ((Z8 ..).trans ?_);rw[hlen];refine Ao (by omega)?_;rw[Oj,decide_eq_false (show ¬(n:Int)<=(L:Int) by omega)];rfl
theorem Afu(Ks:Knows Al Ql D):∀(N:Nat) (t:Tr),SizeOf.sizeOf t<N->WzT t->∀ L:Nat,L<=1000->∃ n:Nat,D.ask (.fn 21) [.agg (Ck t),iv (L:Int)] []=some (iv (n:Int),[])/\n<=L+1/\(n<=L->n=Jk t):=by
 intro N
 induction N with
 |zero=>intro t h;omega
 |succ N ih=>
  intro t hn hz L hL;obtain⟨hl,hr,hk,zl,zr,hx⟩:=hz;rename_i k l r op p q ks;have g:=Aft Ks (.mk k l r op p q ks) L hL hk (λx hm L hL=>ih x (by
   have h1:=NZ hm;simp only[Tr.mk.sizeOf_spec,Tr.kids]at hn h1;omega) (hx x hm) L hL) _ 0 1 rfl (by omega)
  obtain⟨m,g1,g2,g3,g4⟩:=g;refine⟨m,?_,g2,λh=>?_⟩
  .refine Ks.fn' XO _ rfl ((e21 ..).trans ?_)
   refine Ab g1 ?_;rfl
  .rw[g4 h,Jk]
   rfl
end
end Go.Proofs.YtlmhajfbpplpoaaGreat
namespace Go.Proofs.YtlmhajfbpplpoaaGreat
open Go.RowKit
section
variable {D:Orc}
set_option maxRecDepth 100000 in
theorem Xd(Kv:Knows Al LK D)(g1:D.ask (.fn 32) [sv (AI s41),.agg (Jm Fv)] []=some (.tup [.agg (Ck q4),.agg [iv 0,iv 0],iv 0],[]))(g2:D.ask (.fn 32) [sv (AI s42),.agg (Jm Fv)] []=some (.tup [.agg (Ck T0),.agg [iv 1,iv 8],iv 101],[]))(g3:D.ask (.fn 32) [sv (AI s43),.agg (Jm Fv)] []=some (.tup [.agg (Ck T0),.agg [iv 1,iv 4],iv 110],[]))(gr:D.ask (.fn 36) [.agg (Ck q4)] []=some (bv true,[]))(F:Al4F D):D.ask (.fn 30) [] []=some (bv true,[]):=by
 have gs:=Acz Kv;obtain⟨a,b,c,d,e,f,g,i,j,k,r1⟩:=F.res;obtain⟨a',b',c',d',r2⟩:=F.no;have gt:=F.text;obtain⟨k7,hq⟩:∃ k7,Ck q4=[iv 9,.ls [],.ls [],iv 0,sv (AI []),sv (AI []),.ls [[iv 7,.ls [],.ls [],iv 0,sv (AI []),sv (AI []),.ls k7]]]:=⟨_,rfl⟩;rw[hq]at g1 r1 gr gt;refine Kv.fn' AkY _ rfl ((e30 ..).trans ?_);refine Ab gs ?_;simp only[Jm,ND,Aa];refine Ab g1 ?_;simp only[ND,Aa];refine Ab gs ?_;simp only[Jm,ND,Aa];refine Ab g2 ?_;simp only[T0,Ck,ND,Aa];refine Ab gs ?_;simp only[Jm,ND,Aa];refine Ab g3 ?_;simp only[T0,Ck,ND,Aa];refine AF rfl ?_;refine AF rfl ?_;refine Eq.trans (AjT _ _ _) ?_;simp only[ND,Aa];refine AF rfl ?_;refine AF rfl ?_;rw[show Aj.not (Aj.band (Aj.eq 1 1) (Aj.band (Aj.eq 8 8) true))=false from Abz 1 8];refine brF_go ?_;refine AF rfl ?_;refine Ab gs ?_;simp only[Jm,ND,Aa];refine Ab r1 ?_;simp only[ND,Aa];refine Ab gs ?_;simp only[Jm,ND,Aa];refine Ab r2 ?_;simp only[ND,Aa];refine Ab gt ?_;simp only[ND,Aa];refine Dm rfl ?_;refine Ab gr ?_;simp only[ND,Aa];refine AF rfl ?_;refine AF rfl ?_;refine Eq.trans (AbA _ _ _ _) ?_;simp only[ND,Aa];refine Eq.trans (AbA _ _ _ _) ?_;simp only[ND,Aa];refine AF rfl ?_;rfl
mutual
theorem WA:∀ t:Tr,GQ t=Jk t
 |.mk _ _ _ _ _ _ ks=>by
  rw[GQ,Jk,S6 ks];omega
theorem S6:∀ l:List Tr,Ha l=Fy l
 |[]=>by rw[Ha,Fy]
 |x::r=>by rw[Ha,Fy,WA x,S6 r]
end
theorem XZ(Kl:Knows Al LL D)(k:Int)(l r:List (List AV))(op:Int)(p q:ByteArray)(ks:List (List AV))(vals:List Zi)(hl:vals.length<=10):∀(m i:Nat),vals.length-i=m->i<=vals.length->
  D.ask (.lp 12 0) [.ls (vals.map eZ),.ptr 0 0,.ls (vals.map eZ),iv (vals.length:Int),iv (i:Int)] [ABlk.mk [iv k,.ls l,.ls r,iv op,sv p,sv q,.ls ks] true false]=some (if ∀ z∈vals.drop i,z.abs.length<=4 then(.tup [iv 0,.ls (vals.map eZ),.ptr 0 0],[.set (ABlk.mk [iv k,.ls l,.ls r,iv op,sv p,sv q,.ls ks] true false)]) else(.tup [bv true,bv true],[.del])):=by
 intro m
 induction m with
 |zero=>
  intro i hm hi;rw[ApL (by omega),if_pos (by simp)];refine Kl.lp' AaK _ rfl (by kernel_rfl) ((Af4 ..).trans ?_);exact ltF_go (by omega)rfl
 |succ m ih=>
  intro i hm hi;have h1:i<vals.length:=by omega
  have ih:=ih (i+1) (by omega) (by omega);rw[ApE h1];refine Kl.lp' AaK _ rfl (by kernel_rfl) ((Af4 ..).trans ?_);refine Ao (by omega)?_;rw[AG,AD (Apy h1)];generalize vals[i]=z;obtain⟨n,x⟩:=z;simp only[eZ,eN,ND,Aa];rw[Av]
  by_cases hx:4<x.length
  .refine Ao (by omega)?_
   rw[if_neg (λh=>by have:=h _ (List.mem_cons_self ..);simp only at this;omega)]
  .refine ltF_go (by omega)?_
   rw[Bh (by omega)]
   by_cases hr:∀ z∈vals.drop (i+1),z.abs.length<=4
   .rw[if_pos hr]at ih
    rw[if_pos (λz hz=>(ApN.1 hz).elim (λe=>by rw[e];exact Nat.le_of_not_lt hx) (hr z))];refine Ab ih ?_;rfl
   .rw[if_neg hr]at ih
    rw[if_neg (λh=>hr λz hz=>h z (List.mem_cons_of_mem _ hz))];refine Ab ih ?_;rfl
theorem X0(Kj:Knows Al Qk D)(F:RF D)(Kra:Knows Al Ms D)(Kh:Knows Al OH D)(Kl:Knows Al LL D)(Ksa:Knows Al Ql D)(Kv:Knows Al LK D)(ha:D.ask (.fn 30) [] []=some (bv true,[]))(gR:∀ t:Tr,WzT t->WzP t->GQ t<=1000000->D.ask (.fn 34) [.agg (Ck t),.agg (Jm Fv)] []=some (Tp (LC Fv t),[]))(t:Tr)(hz:WzT t)(hp:WzP t)(vals:List Zi)(hv:∀ z∈vals,Limbs z.abs)(hl:vals.length<4611686018427387904) :
  D.ask (.fn 12) [.agg (Ck t),.ls (vals.map eZ)] []=some (bv true,[]):=by
 obtain⟨n,gn,gn1,gn2⟩:=Afu Ksa _ t (Aqp _) hz 60 (by omega);have gs:=Acz Kv;have gR:=λh=>gR t hz hp h
 have gS:∀ f qs,LC Fv t=some (f,qs)->qs.length<=1000000->vals.length<=10->(∀ z∈vals,z.abs.length<=4)->D.ask (.fn 43) [.agg (Ck t),.agg (eG f),.ls (qs.map IR),.ls (vals.map eZ)] []=some (bv true,[]):=λf qs h hq h1 h2=>by
  obtain⟨s1,s2,_⟩:=Ab9 h;exact Afq Kj F Kra Kh Kl (y:=Fv) (by decide) gs qs hq vals (λz hz=>⟨hv z hz,h2 z hz⟩) h1 _ t 0 f (Aqp _) s1 s2
 have gQ:∀ f qs,LC Fv t=some (f,qs)->GQ t<=60->qs.length<=1000000:=λf qs h hn=>by
  unfold LC at h;split at h
  .rw[Option.map_eq_some_iff]at h
   obtain⟨g,e,h⟩:=h;obtain⟨rfl,rfl⟩:=Prod.mk.inj h;have:=(Gn Fv t [] (by simp)).1;simp only[AqW]at this;omega
  .cases h
 rw[WA]at gR gQ;obtain⟨k,l,r,o,p,s,ks⟩:=t;rw[Ck]at gn gR gS ⊢;have glp:=λh=>XZ Kl k (l.map Ix) (r.map Ix) o p s (XB ks) vals h _ 0 rfl (by omega)
 rw[List.drop_zero]at glp;refine Kl.fn' AaK _ rfl ((e12 ..).trans ?_);refine Ab ha ?_;simp only[ND,Aa];refine Ab gn ?_;simp only[ND,Aa]
 by_cases h2:60<n
 .exact Ao (by omega)rfl
 refine ltF_go (by omega)?_;rw[Av]
 by_cases h3:10<vals.length
 .exact Ao (by omega)rfl
 refine ltF_go (by omega)?_;have gl:=glp (by omega)
 by_cases h4:∀ z∈vals,z.abs.length<=4
 .rw[if_pos h4]at gl
  refine Ab gl ?_;simp only[ND,Aa];refine Ab gs ?_;have gR:=gR (by have:=gn2 (by omega);omega);simp only[Jm,ND,Aa]at gR ⊢;have gQ:=λf qs h=>gQ f qs h (by have:=gn2 (by omega);omega)
  revert gR gS gQ;generalize LC Fv (.mk k l r o p s ks)=z;intro gS gR gQ;refine Ab gR ?_
  cases z with
  |none=>rfl
  |some w=>
   obtain⟨f,qs⟩:=w;have gS:=gS f qs rfl (gQ f qs rfl) (by omega) h4;obtain⟨fk,fn,fks⟩:=f;rw[eG]at gS;simp only[Tp,eG,ND,Aa];refine brF_go ?_;refine Ab gS ?_;rfl
 .rw[if_neg h4]at gl
  refine Ab gl ?_;rfl
end
end Go.Proofs.YtlmhajfbpplpoaaGreat
