/- Layer 14's alive: its pa -/
import Derived.Test.YtlmhajfbpplpoaaGreatPBR
import Derived.Test.YtlmhajfbpplpoaaGreatPBS
set_option linter.all false
open Bool renaming true_and->Arq
open List renaming drop_eq_getElem_cons->Arf,drop_eq_nil_of_le->Ark,getElem?_eq_getElem->Ψ,length_append->η,length_cons->ν,length_nil->ArI,map_nil->AsK,mem_cons->Arl
open Nat renaming le_refl->ω,lt_succ_self->ArB
namespace Go.Proofs.YtlmhajfbpplpoaaGreat
section
open Go.RowKit
def Ik:Sy:=⟨[Af [120],Af [121]],[],0,[],false,[],false,[],[⟨Af [112],[Af [97],Af [98]],[]⟩],[]⟩
def UF:Tr:=.mk 2 [⟨false,Af [],Af [120]⟩] [⟨false,Af [48],Af []⟩] 4 (Af []) (Af []) []
def WC:Tr:=.mk 6 [] [] 0 (Af [112]) (Af [98]) []
def q4:Tr:=Es 9 [Es 7 [UF,Es 10 [WC]]]
def UE:Tr:=Es 99 []
def s41:List UInt8:=[71,32,40,120,32,62,32,48,32,45,62,32,70,32,64,112,46,98,41]
def s42:List UInt8:=[120,32,61,32,49,32,85]
def s43:List UInt8:=[64,112,46,99]
set_option maxRecDepth 1000000
theorem p41:CS s41 Ik.vars Ik.ps=(q4,0,0,0):=by
 unfold CS;rw[KB]
 kernel_rfl
theorem p42:CS s42 Ik.vars Ik.ps=(T0,1,8,101):=by
 unfold CS;rw[KB]
 kernel_rfl
theorem p43:CS s43 Ik.vars Ik.ps=(T0,1,4,110):=by
 unfold CS;rw[KB]
 kernel_rfl
def Vq:Option (AV × List BO)->Bool
 |some (.tup [.agg [.v (.int .i64 9),.v (.int .i64 _),.ls _],.ls [_,[.v (.bool true),.v (.int .i64 _),.v (.int .i64 1),.v (.int .i64 _),.ls _,.v (.bool _),.ls _,.v (.bool _),.ls _]],.v (.bool true)],[])=>true
 |_=>false
def Aa0:Option (AV × List BO)->Bool
 |some (.tup [.agg [.v (.int .i64 _),.v (.int .i64 _),.ls _],.ls _,.v (.bool false)],[])=>true
 |_=>false
end
open Go.RowKit
theorem YQ{o:Option (AV × List BO)}(h:Vq o=true):∃ a b c d e f g i j k,o=some (.tup [.agg [iv 9,iv a,.ls b],.ls [c,[bv true,iv d,iv 1,iv e,.ls f,bv g,.ls i,bv j,.ls k]],bv true],[]):=by
 unfold Vq at h;split at h
 .exact⟨_,_,_,_,_,_,_,_,_,_,rfl⟩
 .cases h
theorem Aa1{o:Option (AV × List BO)}(h:Aa0 o=true):∃ a b c d,o=some (.tup [.agg [iv a,iv b,.ls c],.ls d,bv false],[]):=by
 unfold Aa0 at h;split at h
 .exact⟨_,_,_,_,rfl⟩
 .cases h
def AbR(y:Sy):Bool:=decide (y.vars.length<=50)&&decide (y.ps.length<=12)&&y.ps.all λp=>decide (p.locs.length<=50)
structure FewY (y:Sy):Prop where
 v:y.vars.length<=50
 p:y.ps.length<=12
 q:∀ p∈y.ps,p.locs.length<=50
theorem Tf{y:Sy}:AbR y=true ↔ FewY y:=by
 unfold AbR;simp only[Bool.and_eq_true,decide_eq_true_eq,List.all_eq_true];exact⟨λ⟨⟨a,b⟩,c⟩=>⟨a,b,c⟩,λ⟨a,b,c⟩=>⟨⟨a,b⟩,c⟩⟩
structure Al4F (D:Orc):Prop where
 res:∃ a b c d e f g i j k,D.ask (.fn 34) [.agg (Bq q4),.agg (JV Ik)] []=some (.tup [.agg [iv 9,iv a,.ls b],.ls [c,[bv true,iv d,iv 1,iv e,.ls f,bv g,.ls i,bv j,.ls k]],bv true],[])
 no:∃ a b c d,D.ask (.fn 34) [.agg (Bq UE),.agg (JV Ik)] []=some (.tup [.agg [iv a,iv b,.ls c],.ls d,bv false],[])
 text:D.ask (.fn 38) [.agg (Bq q4)] []=some (sv (Af s41),[])
section
variable {D:Orc}
theorem AlI(Kv:Knows Ag Ji D):D.ask (.fn 42) [] []=some (.agg (JV Ik),[]):=
 Kv.fn' Amz _ rfl ((e42 ..).trans rfl)
theorem AkM(Kv:Knows Ag Ji D)(ps:List Pr)(hp:ps.length<4611686018427387904):∀(k i:Nat),ps.length-i=k->D.ask (.lp 31 0) [.ls (ps.map R1),iv (ps.length:Int),iv (i:Int)] []
  = some (if(ps.drop i).all (λp=>decide (p.locs.length<=50)) then .tup [iv 0] else .tup [bv true,bv false],[]):=by
 intro k
 induction k with
 |zero=>
  intro i hi;refine Kv.lp' Acb _ rfl (by kernel_rfl) ((AhA ..).trans ?_);rw[show ps.drop i=[] from Ark (by omega)];refine Ak (by omega) ?_;rfl
 |succ k ih=>
  intro i hi;have hlt:i<ps.length:=by omega
  have ih':=ih (i+1) (by omega);rw[show ps.drop i=ps[i]::ps.drop (i+1) from Arf hlt,List.all_cons];refine Kv.lp' Acb _ rfl (by kernel_rfl) ((AhA ..).trans ?_);refine Al (by omega) ?_;rw[Ax,AF (Ψ hlt)];simp only[R1,ND,DK,Aa,Aw]
  by_cases h:ps[i].locs.length<=50
  .refine Ak (by omega) ?_
   rw[decide_eq_true h,Bo (by omega),Arq];refine Ab ih' ?_
   cases (ps.drop (i+1)).all (λp=>decide (p.locs.length<=50))<;>rfl
  .refine Al (by omega) ?_
   rw[decide_eq_false h,Bool.false_and];rfl
theorem AkN(Kv:Knows Ag Ji D)(y:Sy):D.ask (.fn 31) [.agg (JV y)] []=some (bv (AbR y),[]):=by
 refine Kv.fn' Acb _ rfl ((e31 ..).trans ?_);rw[Aw,Aw];unfold AbR
 by_cases h1:y.vars.length<=50
 .refine Ak (by omega) ?_
  rw[decide_eq_true h1,Arq]
  by_cases h2:y.ps.length<=12
  .refine Ak (by omega) ?_
   rw[decide_eq_true h2,Arq];refine Ab (AkM Kv y.ps (by omega) _ 0 rfl) ?_;rw[List.drop_zero]
   cases y.ps.all (λp=>decide (p.locs.length<=50))<;>rfl
  .refine Al (by omega) ?_
   rw[decide_eq_false h2];rfl
 .refine Al (by omega) ?_
  rw[decide_eq_false h1];rfl
theorem UV:FewY Ik:=Tf.1 rfl
theorem AdA:WzT q4:=by
 have z:(Af []).size<=9223372036854775807:=by decide
 have at':WzT WC:=.mk (by simp) (by simp) (by simp) (by simp) (by simp) (by simp);have cm:WzT UF:=.mk (by simp) (by simp) (by simp) (by simp;exact⟨by decide,by decide⟩) (by simp;exact⟨by decide,by decide⟩) (by simp);have f:WzT (Es 10 [WC]):=.mk (by simp) (by simp) (by simp) (by simp) (by simp) (by simpa using at');have im:WzT (Es 7 [UF,Es 10 [WC]]):=.mk (by simp) (by simp) (by simp) (by simp) (by simp) (by intro x hx;rcases Arl.1 hx with rfl|hx;exact cm;rcases Arl.1 hx with rfl|hx;exact f;cases hx);exact .mk (by simp) (by simp) (by simp) (by simp) (by simp) (by simpa using im)
theorem Adz:WzP q4:=by
 have at':WzP WC:=.mk (by decide) (by decide) (by simp);have cm:WzP UF:=.mk (by decide) (by decide) (by simp);have f:WzP (Es 10 [WC]):=.mk (by decide) (by decide) (by simpa using at');have im:WzP (Es 7 [UF,Es 10 [WC]]):=.mk (by decide) (by decide) (by intro x hx;rcases Arl.1 hx with rfl|hx;exact cm;rcases Arl.1 hx with rfl|hx;exact f;cases hx);exact .mk (by decide) (by decide) (by simpa using im)
set_option maxRecDepth 100000 in
theorem UD:AU q4 0=true:=by kernel_rfl
theorem Alj(a:List AV)(r:List (List AV))(k:List AV->KR):B7 (a::r) 0 k=k a:=rfl
theorem Ade(a b:List AV)(r:List (List AV))(k:List AV->KR):B7 (a::b::r) 1 k=k b:=rfl
set_option maxRecDepth 100000 in
theorem YC(K:Knows Ag CR D)(Kb:Knows Ag Hh D)(Kq:Knows Ag Fj D)(Kr:Knows Ag Rn D)(Kw:Knows Ag Ny D)(L:NameF D)(A:LexA D)(Kl:Knows Ag Jj D)(Kt:Knows Ag D9 D)(N:LexN D)(Kv:Knows Ag Ji D)(F:Al4F D):D.ask (.fn 30) [] []=some (bv true,[]):=by
 have hf:=UV;have par:=λ(l:List UInt8) (hl:(Af l).size<=9223372036854775807)=>QM K Kb Kq Kr Kw L Ik (by have:=hf.v;omega) (by have:=hf.p;omega) (λp hp=>by have:=hf.q p hp;omega) A (Af l) hl
 have g1:=par s41 (by decide);have g2:=par s42 (by decide);have g3:=par s43 (by decide);rw[CV,p41]at g1;rw[CV,p42]at g2;rw[CV,p43]at g3;have gs:=AlI Kv;obtain⟨a,b,c,d,e,f,g,i,j,k,r1⟩:=F.res;obtain⟨a',b',c',d',r2⟩:=F.no;have gr:=G7 Kl Kt N q4 AdA Adz;rw[UD]at gr;have gt:=F.text;obtain⟨k7,hq⟩:∃ k7,Bq q4=[iv 9,.ls [],.ls [],iv 0,sv (Af []),sv (Af []),.ls [[iv 7,.ls [],.ls [],iv 0,sv (Af []),sv (Af []),.ls k7]]]:=⟨_,rfl⟩;have g1:D.ask (.fn 32) [sv (Af s41),.agg (JV Ik)] []=some (.tup [.agg (Bq q4),.agg [iv 0,iv 0],iv 0],[]):=g1;have g2:D.ask (.fn 32) [sv (Af s42),.agg (JV Ik)] []=some (.tup [.agg (Bq T0),.agg [iv 1,iv 8],iv 101],[]):=g2;have g3:D.ask (.fn 32) [sv (Af s43),.agg (JV Ik)] []=some (.tup [.agg (Bq T0),.agg [iv 1,iv 4],iv 110],[]):=g3;rw[hq]at g1 r1 gr gt;refine Kv.fn' Amv _ rfl ((e30 ..).trans ?_);refine Ab gs ?_;simp only[JV,ND,DK,Aa];refine Ab g1 ?_;simp only[ND,DK,Aa];refine Ab gs ?_;simp only[JV,ND,DK,Aa];refine Ab g2 ?_;simp only[T0,Bq,ND,DK,Aa];refine Ab gs ?_;simp only[JV,ND,DK,Aa];refine Ab g3 ?_;simp only[T0,Bq,ND,DK,Aa];refine As rfl ?_;refine As rfl ?_;refine Eq.trans (Alj _ _ _) ?_;simp only[ND,DK,Aa];refine As rfl ?_;refine As rfl ?_;rw[show Ah.not (Ah.band (Ah.eq 1 1) (Ah.band (Ah.eq 8 8) true))=false from Adb 1 8];refine Bi ?_;refine As rfl ?_;refine Ab gs ?_;simp only[JV,ND,DK,Aa];refine Ab r1 ?_;simp only[ND,DK,Aa];refine Ab gs ?_;simp only[JV,ND,DK,Aa];refine Ab r2 ?_;simp only[ND,DK,Aa];refine Ab gt ?_;simp only[ND,DK,Aa];refine DI rfl ?_;refine Ab gr ?_;simp only[ND,DK,Aa];refine As rfl ?_;refine As rfl ?_;refine Eq.trans (Ade _ _ _ _) ?_;simp only[ND,DK,Aa];refine Eq.trans (Ade _ _ _ _) ?_;simp only[ND,DK,Aa];refine As rfl ?_;rfl
end
section
open Go.RowKit
variable (A:Ar) (D:Orc)
end

section
open Go.RowKit
variable (A:Ar) (D:Orc)
end

section
open Go.RowKit
mutual
def GR:Tr->Nat
 |.mk _ _ _ _ _ _ ks=>1+Et ks
def Et:List Tr->Nat
 |[]=>0
 |x::r=>GR x+Et r
end
theorem S5(k:Int)(l r:List Mo)(op:Int)(p q:ByteArray)(x:Tr):GR (.mk k l r op p q [x])=1+GR x:=by
 rw[GR,Et,Et,Nat.add_zero]
theorem S6(k:Int)(l r:List Mo)(op:Int)(p q:ByteArray)(x y:Tr):GR (.mk k l r op p q [x,y])=1+(GR x+GR y):=by
 rw[GR,Et,Et,Et];omega
theorem Xy(x:Tr):AaQ x<=(txt x).length+2:=by unfold AaQ;split<;>omega
theorem Xz(x:Tr):AaT x<=(txt x).length+2:=by unfold AaT;split<;>omega
theorem Ii{ms:List Mo}(h:JE ms=true):(CJ ms).length<=5376:=by
 have h1:=Hg ms 0 (DH h).2.2;have h2:=(DH h).2.1;unfold CJ;rw[if_pos h];omega
theorem AlV:∀(n:Nat) (t:Tr) (d:Nat),SizeOf.sizeOf t<n->BS t d=true->(txt t).length+10<=11000*GR t:=by
 intro n
 induction n with
 |zero=>intro t d h;omega
 |succ n ih=>
  intro t d hn h
  cases Ma h with
  |tt=>decide
  |ff=>decide
  |@cmp _ l r op hl hr h1 h2=>
   have hc:GG (.mk 2 l r op (Af []) (Af []) [])=true:=by
    unfold GG;simp[hl,hr,h1,h2]
   rw[txt,if_neg (by decide),if_pos rfl,if_pos hc,GR,Et];unfold IS;have s1:=Ii hl;have s2:=Ii hr;have hol:(EJ.getD op.toNat []).length<=2:=by
    have:op.toNat<6:=by omega
    generalize op.toNat=n at this
    match n,this with
    |0,_=>decide
    |1,_=>decide
    |2,_=>decide
    |3,_=>decide
    |4,_=>decide
    |5,_=>decide
   simp only[η,ν,ArI];omega
  |@no _ x hd hx=>
   have gx:=ih x _ (by simp only[Tr.mk.sizeOf_spec,List.cons.sizeOf_spec]at hn;omega) hx;have:=Xy x;rw[Aon,S5];omega
  |@bin _ k x y hk hd hx gd hy=>
   have gx:=ih x _ (by simp only[Tr.mk.sizeOf_spec,List.cons.sizeOf_spec]at hn;omega) hx;have gy:=ih y _ (by simp only[Tr.mk.sizeOf_spec,List.cons.sizeOf_spec]at hn;omega) hy;have o1:=Xy y;have o2:=Xz x;have o3:=Xz y;rw[S6];rcases hk with rfl|rfl
   .rw[AlJ];omega
   .rw[Aou];omega
section
variable {D:Orc}
theorem AgQ(Ks:Knows Ag Mg D)(t:Tr)(L:Nat)(hL:L<=1000)(hk:t.kids.length<4611686018427387904)
  (g:∀ x∈t.kids,∀ L:Nat,L<=1000->∃ n:Nat,D.ask (.fn 21) [.agg (Bq x),iv (L:Int)] []=some (iv (n:Int),[])/\n<=L+1/\(n<=L->n=GR x)):∀(k i n:Nat),t.kids.length-i=k->n<=L+1->
  ∃ m:Nat,D.ask (.lp 21 0) [iv (L:Int),.ptr 0 0,iv (n:Int),iv (i:Int)] [IB t]=some (.tup [iv 0,iv (m:Int)],[.del])/\m<=L+1/\n<=m/\(m<=L->m=n+Et (t.kids.drop i)):=by
 intro k;obtain⟨kd,l,r,op,p,q,ks⟩:=t;simp only[Tr.kids]at g hk ⊢;have hlen:AZ (R2 ks)=ks.length:=by rw[BW,Aw]
 induction k with
 |zero=>
  intro i n hi hn;refine⟨n,?_,hn,ω _,λ_=>?_⟩
  .refine Ks.lp' Zb _ rfl (by kernel_rfl) ((Abq ..).trans ?_)
   rw[hlen];refine Ak (by omega) ?_;rfl
  .rw[show ks.drop i=[] from Ark (by omega),Et]
   omega
 |succ k ih=>
  intro i n hi hn;have hlt:i<ks.length:=by omega
  by_cases hnl:n<=L
  .obtain⟨a,g1,g2,g3⟩:=g ks[i] (List.getElem_mem hlt) (L-n) (by omega)
   obtain⟨m,k1,k2,k3,k4⟩:=ih (i+1) (n+a) (by omega) (by omega);refine⟨m,?_,k2,by omega,λhm=>?_⟩
   .refine Ks.lp' Zb _ rfl (by kernel_rfl) ((Abq ..).trans ?_)
    rw[hlen];refine Al (by omega) ?_;rw[LN,decide_eq_true (show (n:Int)<=(L:Int) by omega)];refine Ad ?_;rw[BW,Ax,AF (Ψ hlt)];rw[LR (a:=(L:Int)) (b:=(n:Int)) (by omega) (by omega),show (L:Int)-(n:Int)=((L-n:Nat):Int) by omega];revert g1;generalize ks[i]=x;obtain⟨xk,xl,xr,xo,xp,xq,xs⟩:=x;intro g1;simp only[Bq,ND,DK,Aa]at g1 ⊢;refine Ab g1 ?_;simp only[ND,DK,Aa];rw[Bo (by omega),Jd (a:=(n:Int)) (b:=(a:Int)) (by omega) (by omega),show (n:Int)+(a:Int)=((n+a:Nat):Int) by omega];unfold IB at k1;rw[Bq,BW]at k1;refine Ab k1 ?_;rfl
   .rw[show ks.drop i=ks[i]::ks.drop (i+1) from Arf hlt,Et]
    have:=k4 hm;have:=g3 (by omega);omega
  .refine⟨n,?_,hn,ω _,λh=>absurd h hnl⟩
   refine Ks.lp' Zb _ rfl (by kernel_rfl) ((Abq ..).trans ?_);rw[hlen];refine Al (by omega) ?_;rw[LN,decide_eq_false (show ¬(n:Int)<=(L:Int) by omega)];rfl
theorem AgR(Ks:Knows Ag Mg D):∀(N:Nat) (t:Tr),SizeOf.sizeOf t<N->WzT t->∀ L:Nat,L<=1000->∃ n:Nat,D.ask (.fn 21) [.agg (Bq t),iv (L:Int)] []=some (iv (n:Int),[])/\n<=L+1/\(n<=L->n=GR t):=by
 intro N
 induction N with
 |zero=>intro t h;omega
 |succ N ih=>
  intro t hn hz L hL;obtain⟨hl,hr,hk,zl,zr,hx⟩:=hz;rename_i k l r op p q ks;have g:=AgQ Ks (.mk k l r op p q ks) L hL hk (λx hm L hL=>ih x (by
   have h1:=Lo hm;simp only[Tr.mk.sizeOf_spec,Tr.kids]at hn h1;omega) (hx x hm) L hL) _ 0 1 rfl (by omega)
  obtain⟨m,g1,g2,g3,g4⟩:=g;refine⟨m,?_,g2,λh=>?_⟩
  .refine Ks.fn' Zb _ rfl ((e21 ..).trans ?_)
   refine Ab g1 ?_;rfl
  .rw[g4 h,GR]
   rfl
structure SumG (D:Orc):Prop where
 sum:∀ ms:List Mo,ms.length<4611686018427387904->(∀ m∈ms,WzM m)->D.ask (.fn 22) [.ls (ms.map E9)] []=some (sv (Af (CJ ms)),[])
theorem SumG.f(S:SumG D):SumF D:=⟨λms h=>S.sum ms (J1 h).1 (J1 h).2⟩
end
end


section
open Go.RowKit
variable (A:Ar) (D:Orc)
end


section
open Go.RowKit
variable (A:Ar) (D:Orc)
end

structure RF (D:Orc):Prop where
 clean:∀ z:Zi,Lz 1000000000 z->D.ask (.fn 179) [.agg (eZ z)] []=some (.agg (eZ (Br (zv z))),[])
 neg:∀ z:Zi,Lz 1000000000 z->D.ask (.fn 123) [.agg (eZ z)] []=some (.agg (eZ (Br (-zv z))),[])
 sign:∀ z:Zi,Lz 1000000000 z->D.ask (.fn 116) [.agg (eZ z)] []=some (iv (WI (zv z)),[])
 of_:∀ n:Int,-9223372036854775808<n->n<9223372036854775808->D.ask (.fn 119) [iv n] []=some (.agg (eZ (Br n)),[])
 cmp:∀ a b:Zi,Lz 900000000 a->Lz 900000000 b->D.ask (.fn 67) [.agg (eZ a),.agg (eZ b)] []=some (iv (WI (zv a-zv b)),[])
 add:∀ a b:Zi,Lz 900000000 a->Lz 900000000 b->D.ask (.fn 124) [.agg (eZ a),.agg (eZ b)] []=some (.agg (eZ (Br (zv a+zv b))),[])
 mul:∀ a b:Zi,Lz 400000000 a->Lz 400000000 b->D.ask (.fn 122) [.agg (eZ a),.agg (eZ b)] []=some (.agg (eZ (Br (zv a*zv b))),[])
 parse:∀ s:ByteArray,D.ask (.fn 120) [sv s] []=some (.tup [.agg (eZ (KI s).1),iv (KI s).2],[])
 same:∀ a b:Zi,Lz 1000000000 a->D.ask (.fn 238) [.agg (eZ a),.agg (eZ b)] []=some (bv (decide (a.neg=b.neg/\a.abs=b.abs)),[])
section
open Go.RowKit
variable (A:Ar) (D:Orc)
end
section
open Go.RowKit
variable (A:Ar) (D:Orc)
end


section
open Go.RowKit
variable (A:Ar) (D:Orc)
end

section
variable {D:Orc}
mutual
theorem X1:∀ t:Tr,ID t=GR t
 |.mk _ _ _ _ _ _ ks=>by
  rw[ID,GR,Uo ks];omega
theorem Uo:∀ l:List Tr,Iu l=Et l
 |[]=>by rw[Iu,Et]
 |x::r=>by rw[Iu,Et,X1 x,Uo r]
end
end
theorem Vo(b:Bool)(s:List UInt8):(SR b s).length<=s.length+2:=by
 cases b
 .exact Nat.le_add_right _ _
 .show ([40]++s++[41]).length<=s.length+2
  simp
theorem QQ(k:Int):(D3 k).length<=4:=by
 unfold D3
 repeat' split
 all_goals decide
theorem Wm:∀(n:Nat) (t:Tr) (d:Nat),SizeOf.sizeOf t<n->AU t d=true->(BQ t).length+10<=11000*GR t:=by
 intro n
 induction n with
 |zero=>intro t d h;omega
 |succ n ih=>
  intro t d hn h
  cases Dj h with
  |tt=>
   rw[BQ,CA,GR,Et]
   show [116,114,117,101].length+10<=_
   simp
  |ff=>
   rw[BQ,CA,GR,Et]
   show [102,97,108,115,101].length+10<=_
   simp
  |@cmp _ l r op hl hr h1 h2=>
   have hc:GG (.mk 2 l r op (Af []) (Af []) [])=true:=by
    unfold GG;simp[hl,hr,h1,h2]
   have e:BQ (.mk 2 l r op (Af []) (Af []) [])=IS l r op:=by
    rw[BQ,CA,AcL];rw[FV,if_neg (by decide),if_neg (by decide),if_neg (by decide),if_pos hc]
   rw[e,GR,Et];unfold IS;have s1:=Ii hl;have s2:=Ii hr;have hol:(EJ.getD op.toNat []).length<=2:=by
    have:op.toNat<6:=by omega
    generalize op.toNat=n at this
    match n,this with
    |0,_=>decide
    |1,_=>decide
    |2,_=>decide
    |3,_=>decide
    |4,_=>decide
    |5,_=>decide
   simp only[η,ν,ArI];omega
  |@«at» _ p q hp hq=>
   have lp:=EI hp;have lq:=EI hq;have e:BQ (.mk 6 [] [] 0 p q [])=[64]++p.data.toList++[46]++q.data.toList:=by
    rw[BQ,CA,AcL];rw[FV,if_neg (by decide),if_neg (by decide),if_pos rfl]
   rw[e,GR,Et];simp only[η,ν,ArI];omega
  |@one _ k x hk hd2 hx=>
   have gx:=ih x _ (by simp only[Tr.mk.sizeOf_spec,List.cons.sizeOf_spec]at hn;omega) hx;have o1:=Vo (Bp k 0 x.kind) (BQ x);have o2:=QQ k;rw[QS,S5,η];omega
  |@two _ k x y hk hd hx gd hy=>
   have gx:=ih x _ (by simp only[Tr.mk.sizeOf_spec,List.cons.sizeOf_spec]at hn;omega) hx;have gy:=ih y _ (by simp only[Tr.mk.sizeOf_spec,List.cons.sizeOf_spec]at hn;omega) hy;have o1:=Vo (Bp k 0 x.kind) (BQ x);have o2:=QQ k;have o3:=Vo (Bp k 1 y.kind) (BQ y);rw[QT,S6,η,η];omega
section
variable {D:Orc}
theorem Acy(K:Knows Ag CR D)(Kb:Knows Ag Hh D)(Kq:Knows Ag Fj D)(Kr:Knows Ag Rn D)(Kw:Knows Ag Ny D)(L:NameF D)(A:LexA D)(Kl:Knows Ag Jj D)(Kt:Knows Ag D9 D)(N:LexN D)(Kx:Knows Ag Ro D)(S:SumF D)(Km:Knows Ag Rm D)(Ks:Knows Ag Mg D)(Kv:Knows Ag Ji D)(Kk:Knows Ag SH D)
  (ha:D.ask (.fn 30) [] []=some (bv true,[])) (y:Sy) (gR:∀ t:Tr,WzT t->WzP t->ID t<=1000000->SyB y->D.ask (.fn 34) [.agg (Bq t),.agg (JV y)] []=some (Px (NR y t),[])) (t:Tr) (hz:WzT t) (hp:WzP t) (hw:WfT t):D.ask (.fn 10) [.agg (Bq t),.agg (JV y)] []=some (bv true,[]):=by
 obtain⟨n,gn,gn1,gn2⟩:=AgR Ks _ t (ArB _) hz 100 (by omega);have gf:=AkN Kv y;have gr:=G7 Kl Kt N t hz hp;have gsame:=AgN Ks _ t (ArB _) hw;have gR:=λh b=>gR t hz hp h b
 rw[X1]at gR;have gno:=AaG Km Kl Kt N t hz hp;have gtx:=SU Km Kl Kx Kt N K S t hz hp;have hsm:=Wm _ t 0 (ArB _);have hkn:=AgK y (t:=t);have hbk:=λv w=>Uc (t:=t) (vars:=y.vars) (ps:=y.ps) v w
 have hbn:=λv w=>Zs (t:=t) (vars:=y.vars) (ps:=y.ps) v w
 obtain⟨k,l,r,o,p,q,ks⟩:=t;rw[Bq]at gn gr gsame gR gno gtx;refine Kk.fn' Amr _ rfl ((e10 ..).trans ?_);refine Ab ha ?_;simp only[ND,DK,Aa];refine Ab gn ?_;simp only[ND,DK,Aa]
 by_cases h2:100<n
 .exact Al (by omega) rfl
 refine Ak (by omega) ?_;have hc:=gn2 (by omega);refine Ab gf ?_;simp only[ND,DK,Aa]
 cases hfb:AbR y with
 |false=>exact Bi rfl
 |true=>
  have hf:=Tf.1 hfb;refine Ad ?_;refine Ab gr ?_;simp only[ND,DK,Aa]
  cases hr:AU (.mk k l r o p q ks) 0 with
  |false=>
   refine Bi ?_;refine Ab (gno hr) ?_;simp only[ND,DK,Aa];exact DI rfl rfl
  |true=>
   have hsm:=hsm hr;have gtx:=gtx hr (by omega);have gp:=QM K Kb Kq Kr Kw L y (by have:=hf.v;omega) (by have:=hf.p;omega) (λp hp=>by have:=hf.q p hp;omega) A (Af (BQ (.mk k l r o p q ks))) (by rw[Cf];omega);rw[CV]at gp;have gR:=gR (by omega) ⟨by have:=hf.v;omega,by have:=hf.p;omega,λp hp=>by have:=hf.q p hp;omega⟩;have hkn:=hkn hr;have hbk:=hbk hr;have hbn:=hbn hr;have hlen:(Af (BQ (.mk k l r o p q ks))).size=(BQ (.mk k l r o p q ks)).length:=Cf _;refine Ad ?_;refine Ab gtx ?_;simp only[ND,DK,Aa];rw[show JV y=[.ls (y.vars.map eS),.ls y.s2,iv y.s3,.ls y.s4,bv y.s5,.ls y.s6,bv y.s7,.ls y.s8,.ls (y.ps.map R1),.ls y.s10] from rfl]at gp gR
   by_cases hlong:16384<(BQ (.mk k l r o p q ks)).length
   .rw[Ud hlong]at gp
    unfold GO at gp;have e1:TO 2 T0=T0:=rfl;simp only[e1]at gp;simp only[T0,Bq,R2,AsK]at gp;refine Ab gp ?_;simp only[ND,DK,Aa];refine Ab gR ?_
    cases NR y (.mk k l r o p q ks) with
    |none=>
     simp only[Px,ND,DK,Aa,BG];refine Al (by omega) ?_;exact As rfl rfl
    |some w=>
     obtain⟨⟨fk,fn,fks⟩,qs⟩:=w;simp only[Px,eG,ND,DK,Aa,BG];refine Al (by omega) ?_;exact As rfl rfl
   .cases hkt:Ho y.vars y.ps (.mk k l r o p q ks) with
    |true=>
     rw[hbk (by omega) hkt]at gp;unfold GO at gp;have e1:TO 0 (Tr.mk k l r o p q ks)=.mk k l r o p q ks:=rfl;simp only[e1]at gp;rw[Bq]at gp;rw[hkt]at hkn;refine Ab gp ?_;simp only[ND,DK,Aa];refine Ab gR ?_;revert hkn
     cases NR y (.mk k l r o p q ks) with
     |none=>intro h;cases h
     |some w=>
      intro _;obtain⟨⟨fk,fn,fks⟩,qs⟩:=w;simp only[Px,eG,ND,DK,Aa,BG];refine Ak (by omega) ?_;refine Bi ?_;refine As rfl ?_;refine Ab gsame ?_;rfl
    |false=>
     have hb:=hbn (by omega) hkt;rw[hkt]at hkn;revert gp hb;generalize CS (BQ (.mk k l r o p q ks)) y.vars y.ps=z;intro gp hb;obtain⟨z1,z2,z3,z4⟩:=z;have hb:z4=110:=hb;subst hb;unfold GO at gp;have e1:TO 110 z1=T0:=rfl;simp only[e1]at gp;simp only[T0,Bq,R2,AsK]at gp;refine Ab gp ?_;simp only[ND,DK,Aa];refine Ab gR ?_;revert hkn
     cases NR y (.mk k l r o p q ks) with
     |some w=>intro h;cases h
     |none=>
      intro _;simp only[Px,ND,DK,Aa,BG];refine Ak (by omega) ?_;refine Ad ?_;exact As rfl rfl
end

end Go.Proofs.YtlmhajfbpplpoaaGreat
