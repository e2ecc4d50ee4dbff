/- Layer 14's alive: its pa -/
import Derived.Test.YtlmhajfbpplpoaaGreatOBS
import Derived.Test.YtlmhajfbpplpoaaGreatOBT
set_option linter.all false
open List renaming drop_eq_getElem_cons->χ,drop_eq_nil_of_le->Apz,getElem?_eq_getElem->Φ,length_nil->AqL,mem_cons->ApC
open Nat renaming le_refl->ω,lt_succ_self->Aqe
namespace Go.Proofs.YtlmhajfbpplpoaaGreat
open ABlk renaming mk->Δ
section
open Go.RowKit
def Fo:Sy:=⟨[Ax [120],Ax [121]],[],0,[],false,[],false,[],[⟨Ax [112],[Ax [97],Ax [98]],[]⟩],[]⟩
def Tg:Tr:=.mk 2 [⟨false,Ax [],Ax [120]⟩] [⟨false,Ax [48],Ax []⟩] 4 (Ax []) (Ax []) []
def Vk:Tr:=.mk 6 [] [] 0 (Ax [112]) (Ax [98]) []
def q4:Tr:=lmk 9 [lmk 7 [Tg,lmk 10 [Vk]]]
def Tf:Tr:=lmk 99 []
def s41:List UInt8:=[71,32,40,120,32,62,32,48,32,45,62,32,70,32,64,112,46,98,41]
def s42:List UInt8:=[120,32,61,32,49,32,85]
def s43:List UInt8:=[64,112,46,99]
set_option maxRecDepth 1000000
def Ug:Option (AV × List BO)->Bool
 |some (.tup [.agg [.v (.int .i64 9),.v (.int .i64 _),.ls _],.ls [_,[.v (.bool true),.v (.int .i64 _),.v (.int .i64 1),.v (.int .i64 _),.ls _,.v (.bool _),.ls _,.v (.bool _),.ls _]],.v (.bool true)],[])=>true
 |_=>false
def ZA:Option (AV × List BO)->Bool
 |some (.tup [.agg [.v (.int .i64 _),.v (.int .i64 _),.ls _],.ls _,.v (.bool false)],[])=>true
 |_=>false
end
open Go.RowKit
theorem Xq{o:Option (AV × List BO)}(h:Ug o=true):∃ a b c d e f g i j k,o=some (.tup [.agg [iv 9,iv a,.ls b],.ls [c,[bv true,iv d,iv 1,iv e,.ls f,bv g,.ls i,bv j,.ls k]],bv true],[]):=by
 unfold Ug at h;split at h
 .exact⟨_,_,_,_,_,_,_,_,_,_,rfl⟩
 .cases h
theorem ZB{o:Option (AV × List BO)}(h:ZA o=true):∃ a b c d,o=some (.tup [.agg [iv a,iv b,.ls c],.ls d,bv false],[]):=by
 unfold ZA at h;split at h
 .exact⟨_,_,_,_,rfl⟩
 .cases h
def AkU(y:Sy):Bool:=decide (y.vars.length<=50)&&decide (y.ps.length<=12)&&y.ps.all λp=>decide (p.locs.length<=50)
structure FewY (y:Sy):Prop where
 v:y.vars.length<=50
 p:y.ps.length<=12
 q:∀ p∈y.ps,p.locs.length<=50
theorem Aaz{y:Sy}:AkU y=true ↔ FewY y:=by
 unfold AkU;simp only[Bool.and_eq_true,decide_eq_true_eq,List.all_eq_true];exact⟨λ⟨⟨a,b⟩,c⟩=>⟨a,b,c⟩,λ⟨a,b,c⟩=>⟨⟨a,b⟩,c⟩⟩
structure Al4F (D:Orc):Prop where
 res:∃ a b c d e f g i j k,D.ask (.fn 34) [.agg (B7 q4),.agg (Jm Fo)] []=some (.tup [.agg [iv 9,iv a,.ls b],.ls [c,[bv true,iv d,iv 1,iv e,.ls f,bv g,.ls i,bv j,.ls k]],bv true],[])
 no:∃ a b c d,D.ask (.fn 34) [.agg (B7 Tf),.agg (Jm Fo)] []=some (.tup [.agg [iv a,iv b,.ls c],.ls d,bv false],[])
 text:D.ask (.fn 38) [.agg (B7 q4)] []=some (sv (Ax s41),[])
section
variable {D:Orc}
theorem AcA(Kv:Knows Al LF D):D.ask (.fn 42) [] []=some (.agg (Jm Fo),[]):=
 Kv.fn' Ak2 _ rfl ((e42 ..).trans rfl)
theorem Acz:FewY Fo:=Aaz.1 rfl
theorem Amz:WzT q4:=by
 have z:(Ax []).size<=9223372036854775807:=by decide
 have at':WzT Vk:=.mk (by simp) (by simp) (by simp) (by simp) (by simp) (by simp);have cm:WzT Tg:=.mk (by simp) (by simp) (by simp) (by simp;exact⟨by decide,by decide⟩) (by simp;exact⟨by decide,by decide⟩) (by simp);have f:WzT (lmk 10 [Vk]):=.mk (by simp) (by simp) (by simp) (by simp) (by simp) (by simpa using at');have im:WzT (lmk 7 [Tg,lmk 10 [Vk]]):=.mk (by simp) (by simp) (by simp) (by simp) (by simp) (by intro x hx;rcases ApC.1 hx with rfl|hx;exact cm;rcases ApC.1 hx with rfl|hx;exact f;cases hx);exact .mk (by simp) (by simp) (by simp) (by simp) (by simp) (by simpa using im)
theorem Amy:WzP q4:=by
 have at':WzP Vk:=.mk (by decide) (by decide) (by simp);have cm:WzP Tg:=.mk (by decide) (by decide) (by simp);have f:WzP (lmk 10 [Vk]):=.mk (by decide) (by decide) (by simpa using at');have im:WzP (lmk 7 [Tg,lmk 10 [Vk]]):=.mk (by decide) (by decide) (by intro x hx;rcases ApC.1 hx with rfl|hx;exact cm;rcases ApC.1 hx with rfl|hx;exact f;cases hx);exact .mk (by decide) (by decide) (by simpa using im)
theorem AjT(a:List AV)(r:List (List AV))(k:List AV->KR):Bh (a::r) 0 k=k a:=rfl
theorem AbA(a b:List AV)(r:List (List AV))(k:List AV->KR):Bh (a::b::r) 1 k=k b:=rfl
end
section
open Go.RowKit
variable (A:Ar) (D:Orc)
end

section
open Go.RowKit
variable (A:Ar) (D:Orc)
end

section
open Go.RowKit
mutual
def Jk:Tr->Nat
 |.mk _ _ _ _ _ _ ks=>1+Fr ks
def Fr:List Tr->Nat
 |[]=>0
 |x::r=>Jk x+Fr r
end
theorem ZH(k:Int)(l r:List Mo)(op:Int)(p q:ByteArray)(x:Tr):Jk (.mk k l r op p q [x])=1+Jk x:=by
 rw[Jk,Fr,Fr,Nat.add_zero]
theorem ZI(k:Int)(l r:List Mo)(op:Int)(p q:ByteArray)(x y:Tr):Jk (.mk k l r op p q [x,y])=1+(Jk x+Jk y):=by
 rw[Jk,Fr,Fr,Fr];omega
theorem V4(x:Tr):Ac3 x<=(txt x).length+2:=by unfold Ac3;split<;>omega
theorem V5(x:Tr):Ac4 x<=(txt x).length+2:=by unfold Ac4;split<;>omega
theorem Ox{ms:List Mo}(h:O6 ms=true):(LD ms).length<=5376:=by
 have h1:=LC ms 0 (EC h).2.2;have h2:=(EC h).2.1;unfold LD;rw[if_pos h];omega
theorem Aks:∀(n:Nat) (t:Tr) (d:Nat),SizeOf.sizeOf t<n->Cc t d=true->(txt t).length+10<=11000*Jk t:=by
 intro n
 induction n with
 |zero=>intro t d h;omega
 |succ n ih=>
  intro t d hn h
  cases Kz h with
  |tt=>decide
  |ff=>decide
  |@cmp _ l r op hl hr h1 h2=>
   have hc:Nm (.mk 2 l r op (Ax []) (Ax []) [])=true:=by
    unfold Nm;simp[hl,hr,h1,h2]
   rw[txt,if_neg (by decide),if_pos rfl,if_pos hc,Jk,Fr];unfold Akp;have s1:=Ox hl;have s2:=Ox hr;have hol:(AoZ.getD op.toNat []).length<=2:=by
    have:op.toNat<6:=by omega
    generalize op.toNat=n at this
    match n,this with
    |0,_=>decide
    |1,_=>decide
    |2,_=>decide
    |3,_=>decide
    |4,_=>decide
    |5,_=>decide
   simp only[List.length_append,List.length_cons,AqL];omega
  |@no _ x hd hx=>
   have gx:=ih x _ (by simp only[Tr.mk.sizeOf_spec,List.cons.sizeOf_spec]at hn;omega) hx;have:=V4 x;rw[AmQ,ZH];omega
  |@bin _ k x y hk hd hx gd hy=>
   have gx:=ih x _ (by simp only[Tr.mk.sizeOf_spec,List.cons.sizeOf_spec]at hn;omega) hx;have gy:=ih y _ (by simp only[Tr.mk.sizeOf_spec,List.cons.sizeOf_spec]at hn;omega) hy;have o1:=V4 y;have o2:=V5 x;have o3:=V5 y;rw[ZI];rcases hk with rfl|rfl
   .rw[Akm];omega
   .rw[AmR];omega
section
variable {D:Orc}
theorem Afw(Ks:Knows Al Qg D)(t:Tr)(L:Nat)(hL:L<=1000)(hk:t.kids.length<4611686018427387904)
  (g:∀ x∈t.kids,∀ L:Nat,L<=1000->∃ n:Nat,D.ask (.fn 21) [.agg (B7 x),iv (L:Int)] []=some (iv (n:Int),[])/\n<=L+1/\(n<=L->n=Jk x)):∀(k i n:Nat),t.kids.length-i=k->n<=L+1->
  ∃ m:Nat,D.ask (.lp 21 0) [iv (L:Int),.ptr 0 0,iv (n:Int),iv (i:Int)] [KV t]=some (.tup [iv 0,iv (m:Int)],[.del])/\m<=L+1/\n<=m/\(m<=L->m=n+Fr (t.kids.drop i)):=by
 intro k;obtain⟨kd,l,r,op,p,q,ks⟩:=t;simp only[Tr.kids]at g hk ⊢;have hlen:AQ (XA ks)=ks.length:=by rw[BQ,Ao]
 induction k with
 |zero=>
  intro i n hi hn;refine⟨n,?_,hn,ω _,λ_=>?_⟩
  .refine Ks.lp' XN _ rfl (by kernel_rfl) ((Z9 ..).trans ?_)
   rw[hlen];refine Ah (by omega) ?_;rfl
  .rw[show ks.drop i=[] from Apz (by omega),Fr]
   omega
 |succ k ih=>
  intro i n hi hn;have hlt:i<ks.length:=by omega
  by_cases hnl:n<=L
  .obtain⟨a,g1,g2,g3⟩:=g ks[i] (List.getElem_mem hlt) (L-n) (by omega)
   obtain⟨m,k1,k2,k3,k4⟩:=ih (i+1) (n+a) (by omega) (by omega);refine⟨m,?_,k2,by omega,λhm=>?_⟩
   .refine Ks.lp' XN _ rfl (by kernel_rfl) ((Z9 ..).trans ?_)
    rw[hlen];refine Ai (by omega) ?_;rw[Od,decide_eq_true (show (n:Int)<=(L:Int) by omega)];refine Ac ?_;rw[BQ,Aw,Au (Φ hlt)];rw[Gb (a:=(L:Int)) (b:=(n:Int)) (by omega) (by omega),show (L:Int)-(n:Int)=((L-n:Nat):Int) by omega];revert g1;generalize ks[i]=x;obtain⟨xk,xl,xr,xo,xp,xq,xs⟩:=x;intro g1;simp only[B7,ND,DK,Aa]at g1 ⊢;refine Ab g1 ?_;simp only[ND,DK,Aa];rw[A8 (by omega),G7 (a:=(n:Int)) (b:=(a:Int)) (by omega) (by omega),show (n:Int)+(a:Int)=((n+a:Nat):Int) by omega];unfold KV at k1;rw[B7,BQ]at k1;refine Ab k1 ?_;rfl
   .rw[show ks.drop i=ks[i]::ks.drop (i+1) from χ hlt,Fr]
    have:=k4 hm;have:=g3 (by omega);omega
  .refine⟨n,?_,hn,ω _,λh=>absurd h hnl⟩
   refine Ks.lp' XN _ rfl (by kernel_rfl) ((Z9 ..).trans ?_);rw[hlen];refine Ai (by omega) ?_;rw[Od,decide_eq_false (show ¬(n:Int)<=(L:Int) by omega)];rfl
theorem Afx(Ks:Knows Al Qg D):∀(N:Nat) (t:Tr),SizeOf.sizeOf t<N->WzT t->∀ L:Nat,L<=1000->∃ n:Nat,D.ask (.fn 21) [.agg (B7 t),iv (L:Int)] []=some (iv (n:Int),[])/\n<=L+1/\(n<=L->n=Jk t):=by
 intro N
 induction N with
 |zero=>intro t h;omega
 |succ N ih=>
  intro t hn hz L hL;obtain⟨hl,hr,hk,zl,zr,hx⟩:=hz;rename_i k l r op p q ks;have g:=Afw Ks (.mk k l r op p q ks) L hL hk (λx hm L hL=>ih x (by
   have h1:=NT hm;simp only[Tr.mk.sizeOf_spec,Tr.kids]at hn h1;omega) (hx x hm) L hL) _ 0 1 rfl (by omega)
  obtain⟨m,g1,g2,g3,g4⟩:=g;refine⟨m,?_,g2,λh=>?_⟩
  .refine Ks.fn' XN _ rfl ((e21 ..).trans ?_)
   refine Ab g1 ?_;rfl
  .rw[g4 h,Jk]
   rfl
end
end
section
variable {D:Orc}
set_option maxRecDepth 100000 in
theorem Xb(Kv:Knows Al LF D)(g1:D.ask (.fn 32) [sv (Ax s41),.agg (Jm Fo)] []=some (.tup [.agg (B7 q4),.agg [iv 0,iv 0],iv 0],[]))(g2:D.ask (.fn 32) [sv (Ax s42),.agg (Jm Fo)] []=some (.tup [.agg (B7 T0),.agg [iv 1,iv 8],iv 101],[]))(g3:D.ask (.fn 32) [sv (Ax s43),.agg (Jm Fo)] []=some (.tup [.agg (B7 T0),.agg [iv 1,iv 4],iv 110],[]))(gr:D.ask (.fn 36) [.agg (B7 q4)] []=some (bv true,[]))(F:Al4F D):D.ask (.fn 30) [] []=some (bv true,[]):=by
 have gs:=AcA Kv;obtain⟨a,b,c,d,e,f,g,i,j,k,r1⟩:=F.res;obtain⟨a',b',c',d',r2⟩:=F.no;have gt:=F.text;obtain⟨k7,hq⟩:∃ k7,B7 q4=[iv 9,.ls [],.ls [],iv 0,sv (Ax []),sv (Ax []),.ls [[iv 7,.ls [],.ls [],iv 0,sv (Ax []),sv (Ax []),.ls k7]]]:=⟨_,rfl⟩;rw[hq]at g1 r1 gr gt;refine Kv.fn' AkZ _ rfl ((e30 ..).trans ?_);refine Ab gs ?_;simp only[Jm,ND,DK,Aa];refine Ab g1 ?_;simp only[ND,DK,Aa];refine Ab gs ?_;simp only[Jm,ND,DK,Aa];refine Ab g2 ?_;simp only[T0,B7,ND,DK,Aa];refine Ab gs ?_;simp only[Jm,ND,DK,Aa];refine Ab g3 ?_;simp only[T0,B7,ND,DK,Aa];refine Av rfl ?_;refine Av rfl ?_;refine Eq.trans (AjT _ _ _) ?_;simp only[ND,DK,Aa];refine Av rfl ?_;refine Av rfl ?_;rw[show Af.not (Af.band (Af.eq 1 1) (Af.band (Af.eq 8 8) true))=false from Abz 1 8];refine A1 ?_;refine Av rfl ?_;refine Ab gs ?_;simp only[Jm,ND,DK,Aa];refine Ab r1 ?_;simp only[ND,DK,Aa];refine Ab gs ?_;simp only[Jm,ND,DK,Aa];refine Ab r2 ?_;simp only[ND,DK,Aa];refine Ab gt ?_;simp only[ND,DK,Aa];refine Da rfl ?_;refine Ab gr ?_;simp only[ND,DK,Aa];refine Av rfl ?_;refine Av rfl ?_;refine Eq.trans (AbA _ _ _ _) ?_;simp only[ND,DK,Aa];refine Eq.trans (AbA _ _ _ _) ?_;simp only[ND,DK,Aa];refine Av rfl ?_;rfl
mutual
theorem Wz:∀ t:Tr,GL t=Jk t
 |.mk _ _ _ _ _ _ ks=>by
  rw[GL,Jk,S3 ks];omega
theorem S3:∀ l:List Tr,G6 l=Fr l
 |[]=>by rw[G6,Fr]
 |x::r=>by rw[G6,Fr,Wz x,S3 r]
end
theorem XY(Kl:Knows Al LG D)(k:Int)(l r:List (List AV))(op:Int)(p q:ByteArray)(ks:List (List AV))(vals:List Zi)(hl:vals.length<=10):∀(m i:Nat),vals.length-i=m->i<=vals.length->
  D.ask (.lp 12 0) [.ls (vals.map eZ),.ptr 0 0,.ls (vals.map eZ),iv (vals.length:Int),iv (i:Int)] [Δ [iv k,.ls l,.ls r,iv op,sv p,sv q,.ls ks] true false]=some (if ∀ z∈vals.drop i,z.abs.length<=4 then(.tup [iv 0,.ls (vals.map eZ),.ptr 0 0],[.set (Δ [iv k,.ls l,.ls r,iv op,sv p,sv q,.ls ks] true false)]) else(.tup [bv true,bv true],[.del])):=by
 intro m
 induction m with
 |zero=>
  intro i hm hi;rw[Apz (by omega),if_pos (by simp)];refine Kl.lp' AaL _ rfl (by kernel_rfl) ((Af8 ..).trans ?_);exact Ah (by omega) rfl
 |succ m ih=>
  intro i hm hi;have h1:i<vals.length:=by omega
  have ih:=ih (i+1) (by omega) (by omega);rw[χ h1];refine Kl.lp' AaL _ rfl (by kernel_rfl) ((Af8 ..).trans ?_);refine Ai (by omega) ?_;rw[Aw,Au (Φ h1)];generalize vals[i]=z;obtain⟨n,x⟩:=z;simp only[eZ,eN,ND,DK,Aa];rw[Ao]
  by_cases hx:4<x.length
  .refine Ai (by omega) ?_
   rw[if_neg (λh=>by have:=h _ (List.mem_cons_self ..);simp only at this;omega)]
  .refine Ah (by omega) ?_
   rw[A8 (by omega)]
   by_cases hr:∀ z∈vals.drop (i+1),z.abs.length<=4
   .rw[if_pos hr]at ih
    rw[if_pos (λz hz=>(ApC.1 hz).elim (λe=>by rw[e];exact Nat.le_of_not_lt hx) (hr z))];refine Ab ih ?_;rfl
   .rw[if_neg hr]at ih
    rw[if_neg (λh=>hr λz hz=>h z (List.mem_cons_of_mem _ hz))];refine Ab ih ?_;rfl
theorem XZ(Kj:Knows Al Qf D)(F:RF D)(Kra:Knows Al Ml D)(Kh:Knows Al Qe D)(Kl:Knows Al LG D)(Ksa:Knows Al Qg D)(Kv:Knows Al LF D)(ha:D.ask (.fn 30) [] []=some (bv true,[]))(gR:∀ t:Tr,WzT t->WzP t->GL t<=1000000->D.ask (.fn 34) [.agg (B7 t),.agg (Jm Fo)] []=some (Tl (Lu Fo t),[]))(t:Tr)(hz:WzT t)(hp:WzP t)(vals:List Zi)(hv:∀ z∈vals,Limbs z.abs)(hl:vals.length<4611686018427387904) :
  D.ask (.fn 12) [.agg (B7 t),.ls (vals.map eZ)] []=some (bv true,[]):=by
 obtain⟨n,gn,gn1,gn2⟩:=Afx Ksa _ t (Aqe _) hz 60 (by omega);have gs:=AcA Kv;have gR:=λh=>gR t hz hp h
 have gS:∀ f qs,Lu Fo t=some (f,qs)->qs.length<=1000000->vals.length<=10->(∀ z∈vals,z.abs.length<=4)->D.ask (.fn 43) [.agg (B7 t),.agg (eG f),.ls (qs.map IR),.ls (vals.map eZ)] []=some (bv true,[]):=λf qs h hq h1 h2=>by
  obtain⟨s1,s2,_⟩:=Ab9 h;exact Aft Kj F Kra Kh Kl (y:=Fo) (by decide) gs qs hq vals (λz hz=>⟨hv z hz,h2 z hz⟩) h1 _ t 0 f (Aqe _) s1 s2
 have gQ:∀ f qs,Lu Fo t=some (f,qs)->GL t<=60->qs.length<=1000000:=λf qs h hn=>by
  unfold Lu at h;split at h
  .rw[Option.map_eq_some_iff]at h
   obtain⟨g,e,h⟩:=h;obtain⟨rfl,rfl⟩:=Prod.mk.inj h;have:=(Ge Fo t [] (by simp)).1;simp only[AqL]at this;omega
  .cases h
 rw[Wz]at gR gQ;obtain⟨k,l,r,o,p,s,ks⟩:=t;rw[B7]at gn gR gS ⊢;have glp:=λh=>XY Kl k (l.map IQ) (r.map IQ) o p s (XA ks) vals h _ 0 rfl (by omega)
 rw[List.drop_zero]at glp;refine Kl.fn' AaL _ rfl ((e12 ..).trans ?_);refine Ab ha ?_;simp only[ND,DK,Aa];refine Ab gn ?_;simp only[ND,DK,Aa]
 by_cases h2:60<n
 .exact Ai (by omega) rfl
 refine Ah (by omega) ?_;rw[Ao]
 by_cases h3:10<vals.length
 .exact Ai (by omega) rfl
 refine Ah (by omega) ?_;have gl:=glp (by omega)
 by_cases h4:∀ z∈vals,z.abs.length<=4
 .rw[if_pos h4]at gl
  refine Ab gl ?_;simp only[ND,DK,Aa];refine Ab gs ?_;have gR:=gR (by have:=gn2 (by omega);omega);simp only[Jm,ND,DK,Aa]at gR ⊢;have gQ:=λf qs h=>gQ f qs h (by have:=gn2 (by omega);omega)
  revert gR gS gQ;generalize Lu Fo (.mk k l r o p s ks)=z;intro gS gR gQ;refine Ab gR ?_
  cases z with
  |none=>rfl
  |some w=>
   obtain⟨f,qs⟩:=w;have gS:=gS f qs rfl (gQ f qs rfl) (by omega) h4;obtain⟨fk,fn,fks⟩:=f;rw[eG]at gS;simp only[Tl,eG,ND,DK,Aa];refine A1 ?_;refine Ab gS ?_;rfl
 .rw[if_neg h4]at gl
  refine Ab gl ?_;rfl
end
end Go.Proofs.YtlmhajfbpplpoaaGreat
