/- The reference's right su -/
import Derived.Test.YtlmhajfbpplpoaaGreatMAV
set_option linter.all false
open Bool renaming false->Θ,true->U,and_eq_true->AvF,and_true->Axa,false_and->Awb,false_eq_true->Awi,false_ne_true->Aw4,false_or->Axs,not_true->AxE,true_and->AvR,true_or->Ayq
open Int renaming lt_trichotomy->Ax6
open List renaming all_eq_true->AvJ,append_assoc->AvO,append_nil->Awc,drop->AvI,drop_eq_getElem_cons->ω,drop_eq_nil_of_le->ο,drop_zero->κ,findIdx?_cons->AxG,findIdx?_eq_some_iff_getElem->AwL,getElem?_eq_getElem->Ω,getElem_mem->AvN,length_append->ζ,length_cons->ε,length_eq_zero_iff->Awn,length_nil->Av0,length_take->Av6,map_append->AyI,map_cons->AvT,map_map->AxH,map_nil->AwR,mem_cons->AvK,mem_cons_of_mem->AvZ,mem_cons_self->AvX,mem_map->AwV,mem_singleton->Awk,nil_append->AvV,pairwise_cons->Awd,singleton_append->Awu,sizeOf_lt_of_mem->AxA,take->AvG
open Nat renaming ble->AvL,le_refl->η,lt_succ_self->AvS,zero_add->AvW
open Option renaming none->Δ,some->V,map_eq_some_iff->Aw2,map_none->Axw,map_some->AvP
namespace Go.Proofs.YtlmhajfbpplpoaaGreat
open ABlk renaming mk->Ψ
open Go.RowKit
structure RLexN (D:Orc):Prop where
 name:∀ s:ByteArray,s.size<=9223372036854775807->D.ask (.fn 77) [sv s] []=V (bv (CA s.data.toList),[])
 num:∀ s:ByteArray,s.size<=9223372036854775807->D.ask (.fn 195) [sv s] []=V (bv (Dy s.data.toList),[])
theorem ApP{a b:Nat}(h:a<4611686018427387904)(g:b<4611686018427387904):Ai.add .i64 (a:Int) (b:Int)=((a+b:Nat):Int):=by
 rw[Ha (by omega) (by omega)];omega
theorem AgB{D:Orc}(K:Knows Ak Qr D)(j:Nat)(hj:j<6):D.ask (.fn 237) [iv (j:Int)] []=V (sv (Ag (M4[j]!)),[]):=by
 refine Aq K AlI (AtT ..) ?_;simp only[Jh];rcases j with _|_|_|_|_|_|j<;>first|rfl|omega
section
variable {D:Orc} (K:Knows Ak Ni D)
include K
theorem Agi(t:Tr)(hz:WzT t):D.ask (.fn 78) [.agg (BH t)] []=V (bv (C3 t),[]):=by
 obtain⟨k,l,r,op,p,q,ks⟩:=t;obtain⟨hl,hr,_,_,_,_⟩:=hz;refine Aq K AqP (e78 ..) ?_;unfold C3;rw[Aj,Aj,ApP hl hr];simp only[Jh,J5,EV,decide_eq_true_eq,ci0,Nat.add_eq_zero_iff]
 by_cases h1:l.length=0<;>by_cases h2:r.length=0<;>by_cases h3:op=0<;>by_cases h4:p=Ag []<;>by_cases h5:q=Ag []<;>simp[h1,h2,h3,h4,h5]
variable (L:RLexN D)
include L
theorem AgC(ms:List Mo)(hm:∀ m∈ms,WzM m)(hl:ms.length<=64):∀(n i:Nat),ms.length-i=n->D.ask (.lp 135 0) [.ls (ms.map C4),iv (i:Int)] []=V (if(ms.drop i).all Bh then .tup [iv 0] else .tup [bv U,bv Θ],[]):=by
 intro n
 induction n with
 |zero=>
  intro i hi;rw[ο (by omega)];refine Ax K UT (AdF ..) ?_;rw[Aj];exact Am rfl
 |succ n ih=>
  intro i hi;have hlt:i<ms.length:=by omega
  have ih:=ih (i+1) (by omega);rw[ω hlt,List.all_cons];refine Ax K UT (AdF ..) ?_;rw[Aj];refine Ao ?_;have hx:=hm ms[i] (AvN hlt);rw[AA,Az (Ω hlt)];revert hx;generalize ms[i]=x;obtain⟨ng,nu,va⟩:=x;rintro⟨h1,h2⟩;have g1:=L.num nu h1;have g2:=L.name va h2;generalize (ms.drop (i+1)).all Bh=T at ih ⊢;have er:Bh ⟨ng,nu,va⟩=((decide (nu≠Ag [])||decide (va≠Ag []))&&(decide (nu=Ag [])||Dy nu.data.toList)&&(decide (va=Ag [])||CA va.data.toList)):=rfl;rw[er];simp only[C4,Ae]at g1 g2 ⊢;rw[Bn (by omega)];have tl:∀(c:AV),AJ D (.lp 135 0) [.ls (ms.map C4),iv ((i+1:Nat):Int)] [] (λr1 o1=>AG 0 [] (AH.mk [(0,bk [bv ng,c,sv va])] 1 Δ) [] r1 o1)=V (if T then .tup [iv 0] else .tup [bv U,bv Θ],[]):=λ_=>by
   refine Aa ih ?_
   cases T<;>rfl
  by_cases hn:nu=Ag []
  .refine CI hn ?_
   by_cases hv:va=Ag []
   .refine CI hv ?_
    simp[hn,hv]
   .refine(Dt hv).trans ?_
    refine CI hn ?_;refine(Dt hv).trans ?_;refine Aa g2 ?_;simp only[hn,hv,ne_eq,not_true,not_false_eq_true,decide_true,decide_false,Axs,Ayq,AvR,Axa,Ae]
    cases CA va.data.toList with
    |false=>rfl
    |true=>exact(Ll _ _).trans ((tl _).trans (by cases T<;>rfl))
  .refine(Dt hn).trans ?_
   refine(Dt hn).trans ?_;refine Aa g1 ?_;simp only[hn,ne_eq,not_true,not_false_eq_true,decide_true,decide_false,Axs,Ayq,AvR,Axa,Ae]
   cases Dy nu.data.toList with
   |false=>rfl
   |true=>
    refine Af ?_
    by_cases hv:va=Ag []
    .refine CI hv ?_
     exact(tl _).trans (by simp[hv])
    .refine(Dt hv).trans ?_
     refine Aa g2 ?_;simp only[hv,decide_false,Axs,AvR,Ae]
     cases CA va.data.toList with
     |false=>rfl
     |true=>exact(Ll _ _).trans ((tl _).trans (by cases T<;>rfl))
theorem Me(ms:List Mo)(hm:∀ m∈ms,WzM m)(hl:ms.length<4611686018427387904):D.ask (.fn 135) [.ls (ms.map C4)] []=V (bv (Ji ms),[]):=by
 refine Aq K UT (AsR ..) ?_;unfold Ji;rw[Aj]
 by_cases h0:ms.length=0
 .refine Aw ?_
  simp[h0]
 refine Ap ?_
 by_cases h1:64<ms.length
 .refine Ao ?_
  simp only[show ¬ ms.length<=64 by omega,decide_false,Bool.and_false,Awb]
 refine Am ?_;refine Aa (AgC K L ms hm (by omega) _ 0 rfl) ?_;rw[κ];simp only[show 0<ms.length by omega,show ms.length<=64 by omega,decide_true,AvR]
 cases ms.all Bh<;>rfl
theorem LZ(t:Tr)(hz:WzT t):D.ask (.fn 76) [.agg (BH t)] []=V (bv (Ec t),[]):=by
 obtain⟨k,l,r,op,p,q,ks⟩:=t;obtain⟨hl,hr,hk,zl,zr,_⟩:=hz;have g1:=Me K L l zl hl;have g2:=Me K L r zr hr;refine Aq K AqO (e76 ..) ?_;unfold Ec;rw[B1,Aj]
 by_cases h0:k=2
 .refine Aw ?_ h0
  refine Aa g1 ?_;simp only[Ae]
  cases Ji l with
  |false=>simp[h0,Ae]
  |true=>
   simp only[Ae];refine Aa g2 ?_;simp only[Ae]
   cases Ji r with
   |false=>simp[h0,Ae]
   |true=>
    simp only[Ae,Tz,Jh,J5,EV,decide_eq_true_eq,ci0]
    by_cases h3:0<=op<;>by_cases h4:op<=5<;>by_cases h5:p=Ag []<;>by_cases h6:q=Ag []<;>by_cases h7:ks.length=0<;>simp[h0,h3,h4,h5,h6,h7]
 .refine Ap ?_ h0
  simp[h0]
theorem Qg{l r:List Mo}{op:Int}{p q:ByteArray}{ks:List Tr}(hz:WzT (.mk 2 l r op p q ks))(d:Int):D.ask (.fn 196) [.agg (BH (.mk 2 l r op p q ks)),iv d] []=V (bv (Ec (.mk 2 l r op p q ks)),[]):=by
 have g:=LZ K L _ hz;simp only[BH]at g ⊢;refine Aq K Alv (Att ..) ?_;refine Aw ?_ rfl;refine Aa g ?_;simp only[Ae]
 cases Ec (.mk 2 l r op p q ks)<;>rfl
omit K L in
theorem To(ng:Bool)(acc a b:ByteArray)(h:acc.size+a.size+b.size+1<=9223372036854775807)(R:ByteArray->KR):br ((Ai.slen acc+Ai.slen a).ble 9223372036854775807) (br (Ai.seq a (Ag [])) (br ((Ai.slen (Ai.cat acc a)+Ai.slen b).ble 9223372036854775807) (R (Ai.cat (Ai.cat acc a) b)) Δ) (br (Ai.seq b (Ag [])) (br ((Ai.slen (Ai.cat acc a)+Ai.slen b).ble 9223372036854775807) (R (Ai.cat (Ai.cat acc a) b)) Δ) (br ((Ai.slen (Ai.cat acc a)+Ai.slen (Ag [42])).ble 9223372036854775807) (br ((Ai.slen (Ai.cat (Ai.cat acc a) (Ag [42]))+Ai.slen b).ble 9223372036854775807) (R (Ai.cat (Ai.cat (Ai.cat acc a) (Ag [42])) b)) Δ) Δ))) Δ=R (Ag (acc.data.toList++C9 ⟨ng,a,b⟩)):=by
 have e1:Ai.cat acc a=Ag (acc.data.toList++a.data.toList):=DA ..;have e2:Ai.cat (Ag (acc.data.toList++a.data.toList)) b=Ag (acc.data.toList++a.data.toList++b.data.toList):=(DA ..).trans (by rw[BG]);have e3:Ai.cat (Ag (acc.data.toList++a.data.toList)) (Ag [42])=Ag (acc.data.toList++a.data.toList++[42]):=(DA ..).trans (by rw[BG,BG]);have e4:Ai.cat (Ag (acc.data.toList++a.data.toList++[42])) b=Ag (acc.data.toList++a.data.toList++[42]++b.data.toList):=(DA ..).trans (by rw[BG]);have s0:acc.size=acc.data.toList.length:=by simp
 have s1:a.size=a.data.toList.length:=by simp
 have s2:b.size=b.data.toList.length:=by simp
 rw[e1,e2,e3,e4];simp only[BE,Bc,ζ,ε,Av0];refine(BL (by omega) _ _).trans ?_;unfold C9;simp only
 by_cases ha:a=Ag []
 .refine CI ha ?_
  refine(BL (by omega) _ _).trans ?_;rw[Ad (λh=>h.1 ha),AvO]
 .refine(Dt ha).trans ?_
  by_cases hb:b=Ag []
  .refine CI hb ?_
   refine(BL (by omega) _ _).trans ?_;rw[Ad (λh=>h.2 hb),AvO]
  .refine(Dt hb).trans ?_
   refine(BL (by omega) _ _).trans ?_;refine(BL (by omega) _ _).trans ?_;rw[Ac ⟨ha,hb⟩];simp only[AvO]
omit L in
theorem Ab8(ms:List Mo)(hm:ms.all Bh=U)(hl:ms.length<=64):∀(n i:Nat),ms.length-i=n->i<=ms.length->D.ask (.lp 236 0) [.ls (ms.map C4),sv (Ag (CF 0 (ms.take i))),iv (i:Int)] []=V (.tup [iv 0,sv (Ag (CF 0 ms))],[]):=by
 intro n
 induction n with
 |zero=>
  intro i hi hle;refine Ax K U8 (Ad0 ..) ?_;rw[Aj,List.take_of_length_le (by omega)];exact Am rfl
 |succ n ih=>
  intro i hi hle;have hlt:i<ms.length:=by omega
  have ih:=ih (i+1) (by omega) (by omega);have ht:=D6 (ms.take i) 0 (by rw[AvJ]at hm ⊢;exact λx hx=>hm x (List.mem_of_mem_take hx));rw[Av6,Nat.min_eq_left (by omega)]at ht;rw[Qo ms i hlt]at ih;have hx:=AvJ.1 hm ms[i] (AvN hlt);refine Ax K U8 (Ad0 ..) ?_;rw[Aj];refine Ao ?_;rw[AA,Az (Ω hlt)];revert hx ih;generalize CF 0 (ms.take i)=acc at ht ⊢;generalize ms[i]=x;obtain⟨ng,nu,va⟩:=x;intro ih hx;have hsz:nu.size<=60/\va.size<=20:=by
   unfold Bh at hx;simp only[AvF,Bool.or_eq_true,decide_eq_true_eq]at hx;have s1:nu.size=nu.data.toList.length:=by simp
   have s2:va.size=va.data.toList.length:=by simp
   constructor
   .rcases hx.1.2 with h|h
    .rw[h];simp[Ag,ByteArray.size]
    .have:=LM h;omega
   .rcases hx.2 with h|h
    .rw[h];simp[Ag,ByteArray.size]
    .have:=Do h;omega
  clear hx;simp only[C4,Ae];rw[Bn (by omega)];have fin:∀ s:ByteArray,s=Ag (acc++Nc i ⟨ng,nu,va⟩++C9 ⟨ng,nu,va⟩)->AJ D (.lp 236 0) [.ls (ms.map C4),sv s,iv ((i+1:Nat):Int)] [] (λz1 z2=>AG 0 [] (AH.mk [(0,bk [bv ng,sv nu,sv va])] 1 Δ) [] z1 z2)=V (.tup [iv 0,sv (Ag (CF 0 ms))],[]):=λs hs=>by
   subst hs;exact Aa ih rfl
  have sa:(Ag acc).size=acc.length:=Bc _;have s45:(Ag [45]).size=1:=rfl;have sm:(Ag [32,45,32]).size=3:=rfl;have sp:(Ag [32,43,32]).size=3:=rfl;have em:Ai.cat (Ag acc) (Ag [32,45,32])=Ag (acc++[32,45,32]):=(DA ..).trans (by rw[BG,BG]);have ep:Ai.cat (Ag acc) (Ag [32,43,32])=Ag (acc++[32,43,32]):=(DA ..).trans (by rw[BG,BG])
  by_cases h0:i=0
  .refine Aw ?_
   have hacc:acc=[]:=Awn.1 (by omega)
   cases ng with
   |true=>
    refine Af ?_;refine Am ?_;refine Am ?_;refine(To U (Ag [45]) nu va (by omega) (λs=>AJ D (.lp 236 0) [.ls (ms.map C4),sv s,iv ((i+1:Nat):Int)] [] (λz1 z2=>AG 0 [] (AH.mk [(0,bk [bv U,sv nu,sv va])] 1 Δ) [] z1 z2))).trans ?_;exact fin _ (by rw[BG,hacc,h0];rfl)
   |false=>
    refine Bm ?_;refine Am ?_;refine Am ?_;refine(To Θ (Ag acc) nu va (by omega) (λs=>AJ D (.lp 236 0) [.ls (ms.map C4),sv s,iv ((i+1:Nat):Int)] [] (λz1 z2=>AG 0 [] (AH.mk [(0,bk [bv Θ,sv nu,sv va])] 1 Δ) [] z1 z2))).trans ?_;exact fin _ (by rw[BG,hacc,h0];rfl)
  .refine Ap ?_
   refine Ao ?_
   cases ng with
   |true=>
    refine Af ?_;refine(BL (by rw[BE,BE];omega) _ _).trans ?_;refine Ao ?_;refine Bm ?_;rw[em];have sq:(Ag (acc++[32,45,32])).size=acc.length+3:=by rw[Bc];simp
    refine(To U (Ag (acc++[32,45,32])) nu va (by omega) (λs=>AJ D (.lp 236 0) [.ls (ms.map C4),sv s,iv ((i+1:Nat):Int)] [] (λz1 z2=>AG 0 [] (AH.mk [(0,bk [bv U,sv nu,sv va])] 1 Δ) [] z1 z2))).trans ?_;exact fin _ (by rw[BG];unfold Nc;rw[Ac rfl,Ad h0])
   |false=>
    refine Bm ?_;refine Ao ?_;refine Af ?_;refine(BL (by rw[BE,BE];omega) _ _).trans ?_;rw[ep];have sq:(Ag (acc++[32,43,32])).size=acc.length+3:=by rw[Bc];simp
    refine(To Θ (Ag (acc++[32,43,32])) nu va (by omega) (λs=>AJ D (.lp 236 0) [.ls (ms.map C4),sv s,iv ((i+1:Nat):Int)] [] (λz1 z2=>AG 0 [] (AH.mk [(0,bk [bv Θ,sv nu,sv va])] 1 Δ) [] z1 z2))).trans ?_;exact fin _ (by rw[BG];unfold Nc;rw[Ad (by simp),Ad h0])
theorem R7{ms:List Mo}(h:Ji ms=U):D.ask (.fn 236) [.ls (ms.map C4)] []=V (sv (Ag (CY ms)),[]):=by
 have w:=Fh h;have g:=Me K L ms w.2 w.1;have a:=Da h;have glp:=Ab8 K ms a.2.2 a.2.1 _ 0 rfl (by omega);rw[h]at g;refine Aq K U8 (AtS ..) ?_;refine Aa g ?_;simp only[Ae];refine Aa glp ?_;unfold CY;rw[Ac h];rfl
theorem Ab9(Kg:Knows Ak Qr D){l r:List Mo}{op:Int}(hl:Ji l=U)(hr:Ji r=U)(h1:0<=op)(h2:op<=5):D.ask (.fn 139) [.agg (BH (.mk 2 l r op (Ag []) (Ag []) []))] []=V (sv (Ag (Lp l r op)),[]):=by
 have wl:=Fh hl;have wr:=Fh hr;have gr:=Qg K L (l:=l) (r:=r) (op:=op) (p:=Ag []) (q:=Ag []) (ks:=[]) (.mk wl.1 wr.1 (by simp) wl.2 wr.2 (by simp)) 0;have hc:Ec (.mk 2 l r op (Ag []) (Ag []) [])=U:=by
  unfold Ec;simp[hl,hr,h1,h2]
 rw[hc]at gr;have g1:=R7 K L hl;have g2:=R7 K L hr;have l1:=D6 l 0 (Da hl).2.2;have l2:=D6 r 0 (Da hr).2.2;have l3:=(Da hl).2.1;have l4:=(Da hr).2.1;have e1:CY l=CF 0 l:=by unfold CY;rw[Ac hl]
 have e2:CY r=CF 0 r:=by unfold CY;rw[Ac hr]
 rw[←e1]at l1;rw[←e2]at l2;obtain⟨n,rfl⟩:∃ n:Nat,op=n:=⟨op.toNat,by omega⟩;have hn:n<6:=by omega
 have gs:=AgB Kg n hn;have hop:M4[n]! = M4.getD n []/\(M4.getD n []).length<=2:=by
  match n,hn with
  |0,_=>exact⟨rfl,by decide⟩
  |1,_=>exact⟨rfl,by decide⟩
  |2,_=>exact⟨rfl,by decide⟩
  |3,_=>exact⟨rfl,by decide⟩
  |4,_=>exact⟨rfl,by decide⟩
  |5,_=>exact⟨rfl,by decide⟩
 rw[hop.1]at gs;have hol:=hop.2;have gt:D.ask (.fn 197) [.agg (BH (.mk 2 l r (n:Int) (Ag []) (Ag []) []))] []=V (sv (Ag (Lp l r n)),[]):=by
  simp only[BH,KD];refine Aq K Zg (Atu ..) ?_;have glp:D.ask (.lp 197 0) [.ptr 0 0,.sl 1 0 0 1,iv 0] [bk [iv 2,.ls (l.map C4),.ls (r.map C4),iv (n:Int),sv (Ag []),sv (Ag []),.ls []],Ψ [] U U]=V (.tup [iv 0,.ptr 0 0,.sl 2 0 0 1],[.set (bk [iv 2,.ls (l.map C4),.ls (r.map C4),iv (n:Int),sv (Ag []),sv (Ag []),.ls []]),.del,.set (Ψ [] U U)]):=by
   refine Ax K Zg (AnY ..) ?_;exact Am rfl (by decide)
  refine Aa glp ?_;simp only[bk,Ae];refine Ap ?_ (by decide);refine Aw ?_ rfl;refine Aa g1 ?_;simp only[Ae,BE,F5,D9];refine(BL (by simp only[Bc,ζ,ε,Av0];omega) _ _).trans ?_;refine Aa gs ?_;simp only[Ae,BE,F5,D9];refine(BL (by simp only[Bc,ζ,ε,Av0];omega) _ _).trans ?_;refine(BL (by simp only[Bc,ζ,ε,Av0];omega) _ _).trans ?_;refine Aa g2 ?_;simp only[Ae,BE,F5,D9];refine(BL (by simp only[Bc,ζ,ε,Av0];omega) _ _).trans ?_;rfl
 simp only[BH,KD]at gr gt ⊢;refine Aq K Ak5 (AsT ..) ?_;refine Aa gr ?_;simp only[Ae];refine Aa gt ?_;rfl
end
def IY(v:Int):Bool->List Int->List Int × Bool
 |d,[]=>([],d)
 |d,x::r=>((if !d&&decide (v<=x) then [v] else [])++((if x=v then [] else [x])++(IY v (d||decide (v<=x)) r).1),(IY v (d||decide (v<=x)) r).2)
def KK(v:Int)(l:List Int):List Int:=(IY v Θ l).1++(if(IY v Θ l).2 then [] else [v])
theorem MV(v:Int):∀ l:List Int,(∀ x∈l,v<x)->IY v U l=(l,U)
 |[],_=>rfl
 |x::r,h=>by
  have h1:=h x AvX;rw[IY,Ayq,MV v r λy hy=>h y (AvZ _ hy),Ad (show ¬ x=v by omega)];rfl
theorem Vo(v:Int):KK v []=[v]:=rfl
theorem Tc{v x:Int}{r:List Int}(h:v<x)(hr:∀ y∈r,x<y):KK v (x::r)=v::x::r:=by
 unfold KK;rw[IY,Ba (by omega:v<=x),Axs,MV v r λy hy=>by have:=hr y hy;omega,Ad (show ¬ x=v by omega)];simp
theorem Ta{v:Int}{r:List Int}(hr:∀ y∈r,v<y):KK v (v::r)=v::r:=by
 unfold KK;rw[IY,Ba (Int.le_refl v),Axs,MV v r hr,Ac rfl];simp
theorem Tb{v x:Int}{r:List Int}(h:x<v):KK v (x::r)=x::KK v r:=by
 grind [IY,KK]
def Asc(l:List Int):Prop:=l.Pairwise (· < ·)
theorem Pw(v:Int):∀{l:List Int},Asc l->∀ y,y∈KK v l ↔ y=v\/y∈l
 |[],_,y=>by rw[Vo];simp
 |x::r,h,y=>by
  have h1:=Awd.1 h;have ih:=Pw v h1.2 y;rcases Ax6 v x with hv|hv|hv
  .grind [Tc]
  .grind [Ta]
  .simp_all [AvK,Tb,or_left_comm]
theorem IZ(v:Int):∀{l:List Int},Asc l->Asc (KK v l)
 |[],_=>by rw[Vo];exact List.pairwise_singleton _ _
 |x::r,h=>by
  have h1:=Awd.1 h;rcases Ax6 v x with hv|hv|hv
  .rw[Tc hv h1.1]
   refine Awd.2 ⟨λy hy=>?_,h⟩;rcases AvK.1 hy with rfl|hy
   .exact hv
   .have:=h1.1 y hy;omega
  .grind [Ta]
  .rw[Tb hv]
   refine Awd.2 ⟨λy hy=>?_,IZ v h1.2⟩;rcases (Pw v h1.2 y).1 hy with rfl|hy
   .exact hv
   .exact h1.1 y hy
theorem Vl(v:Int):∀(d:Bool) (l:List Int),(IY v d l).1.length<=2*l.length
 |_,[]=>η _
 |d,x::r=>by
  have:=Vl v (d||decide (v<=x)) r;rw[IY,ζ,ζ,ε];have h1:(if(!d&&decide (v<=x))=U then [v] else []).length<=1:=by split<;>simp
  have h2:(if x=v then [] else [x]).length<=1:=by split<;>simp
  omega
theorem Pv(v:Int):∀{l:List Int},Asc l->(KK v l).length<=l.length+1
 |[],_=>η _
 |x::r,h=>by
  have h1:=Awd.1 h;have ih:=Pv v h1.2;rcases Ax6 v x with hv|hv|hv
  .grind [Tc]
  .grind [Ta]
  .first|grind [Tb] | grind [ε,Tb]
def Ho(f:Int->Int):List Int->List Int->List Int
 |out,[]=>out
 |out,v::r=>Ho f (if f v=0 then out else KK v out) r
theorem St(f:Int->Int):∀(l:List Int) {out:List Int},Asc out->Asc (Ho f out l)
 |[],_,h=>h
 |v::r,out,h=>by
  rw[Ho];refine St f r ?_;split
  .exact h
  .exact IZ v h
theorem No(f:Int->Int)(y:Int):∀(l:List Int) {out:List Int},Asc out->(y∈Ho f out l ↔ y∈out\/(y∈l/\f y≠0))
 |[],out,_=>by rw[Ho];simp
 |v::r,out,h=>by
  rw[Ho]
  by_cases hv:f v=0
  .rw[Ac hv,No f y r h,AvK]
   constructor
   .grind
   .grind
  .rw[Ad hv,No f y r (IZ v h),Pw v h,AvK]
   constructor
   .grind
   .grind
theorem Nn(f:Int->Int):∀(l:List Int) {out:List Int},Asc out->(Ho f out l).length<=out.length+l.length
 |[],out,_=>by rw[Ho];simp
 |v::r,out,h=>by
  rw[Ho,ε]
  by_cases hv:f v=0
  .rw[Ac hv]
   have:=Nn f r h;omega
  .rw[Ad hv]
   have:=Nn f r (IZ v h);have:=Pv v h;omega
def Fg(ps:List (Int × Int))(v:Int):Int:=if 0<=v then Bt v ps else 0
def Kc(ps:List (Int × Int)):List Int:=Ho (Fg ps) [] (ps.map (·.1))
theorem Oj:Asc []:=List.Pairwise.nil
theorem Rj(c:Int->Int)(v:Int):∀{l:List Int},Asc l->Bt v (l.map λu=>(u,c u))=if v∈l then c v else 0
 |[],_=>by simp[Bt]
 |x::r,h=>by
  have h1:=Awd.1 h;rw[AvT,Bt,Rj c v h1.2]
  by_cases hx:x=v
  .grind
  .grind
theorem Yj(ps:List (Int × Int)):(Kc ps).map (λv=>(v,Fg ps v))=E7 ps:=by
 have ha:Asc (Kc ps):=St _ _ Oj;have hm:∀ y,y∈Kc ps ↔ y∈ps.map (·.1)/\Fg ps y≠0:=λy=>by
  grind [Fg,Kc,Oj,No]
 refine PT ⟨?_,?_,?_⟩ λv hv=>?_
 .rw[List.pairwise_map]
  exact ha
 .intro p hp
  rw[AwV]at hp;obtain⟨v,hv,rfl⟩:=hp;have:=((hm v).1 hv).2;unfold Fg at this
  by_cases h0:0<=v
  .exact h0
  .omega
 .grind
 .rw[Rj _ _ ha]
  have hc:Fg ps v=Bt v ps:=Ac hv
  by_cases hv2:v∈Kc ps
  .rw[Ac hv2,hc]
  .rw[Ad hv2]
   by_cases hz:Bt v ps=0
   .exact hz.symm
   .first|grind [FP] | grind [List.mem_map_of_mem,FP]
def eI(v:Int):Ab:=[iv v]
theorem KC(v:Int):(eI v).length=1:=rfl
def bkI(l:List Int):ABlk:=Ψ (Av eI l) U U
theorem apI(o:List Int)(h:o.length<=4000000)(X:KR):br (AU (o.length+1) 8) (br (AvL (0+o.length*1) (Av eI o).length) X Δ) Δ=X:=by
 rw[AL (by omega) (by omega),AK KC o (by omega)];rfl
theorem Apj(o:List Int)(v:Int):AvI 0 (AvG (0+o.length*1) (Av eI o))++[iv v]=Av eI (o++[v]):=by
 rw[κ,A0 KC o (by omega)];exact AW eI o v
theorem snI(o:List Int)(v:Int):o.length+1=(o++[v]).length:=by simp
section
variable {D:Orc} (Kt:Knows Ak Mn D)
include Kt
theorem Aok(v:Int)(l:List Int)(hl:l.length<=1000000):∀(m i:Nat) (d:Bool) (o:List Int),l.length-i=m->i<=l.length->o.length<=2*i->
  D.ask (.lp 259 0) [.ls (l.map eI),iv v,.sl 0 0 o.length 1,bv d,iv (i:Int)] [bkI o]=V (.tup [iv 0,iv v,.sl 1 0 (o++(IY v d (l.drop i)).1).length 1,bv (IY v d (l.drop i)).2],[.del,.set (bkI (o++(IY v d (l.drop i)).1))]):=by
 intro m
 induction m with
 |zero=>
  intro i d o hm hi ho;rw[ο (by omega),IY,Awc];refine Ax Kt Vd (Ad9 ..) ?_;rw[Aj];exact Am rfl
 |succ m ih=>
  intro i d o hm hi ho;have h1:i<l.length:=by omega
  have hn1:∀ kk,A4 (l.map eI) i kk=kk (eI l[i]):=λkk=>Az (Ω h1) kk
  have ih1:=λ(d:Bool) (o:List Int) (h:o.length<=2*(i+1))=>ih (i+1) d o (by omega) (by omega) h
  rw[ω h1,IY];revert hn1;generalize l[i]=x;intro hn1;refine Ax Kt Vd (Ad9 ..) ?_;rw[Aj];refine Ao ?_;unfold bkI at ih1 ⊢;simp only[AA,hn1,eI,Ae,Bn (show i<4611686018427387904 by omega),Apj]
  cases d with
  |true=>
   refine Bm ?_
   by_cases hx:x=v
   .refine Aw ?_ hx
    have g:=ih1 U o (by omega);refine Aa g ?_;rw[Ac hx];rfl
   .refine Ap ?_ hx
    have g:=ih1 U (o++[x]) (by simp;omega);rw[apI o (by omega),snI o x];refine Aa g ?_;rw[Ad hx,AvO];rfl
  |false=>
   refine Af ?_
   by_cases hv:v<=x
   .refine CL ?_ hv
    rw[apI o (by omega),Ba hv,snI o v]
    by_cases hx:x=v
    .refine Aw ?_ hx
     have g:=ih1 U (o++[v]) (by simp;omega);refine Aa g ?_;rw[Ac hx,AvO];rfl
    .refine Ap ?_ hx
     have g:=ih1 U (o++[v]++[x]) (by simp;omega);rw[apI (o++[v]) (by simp;omega),Apj,snI (o++[v]) x];refine Aa g ?_;rw[Ad hx,AvO,AvO];rfl
   .refine C7 ?_ hv
    rw[Bu hv]
    by_cases hx:x=v
    .omega
    .refine Ap ?_ hx
     have g:=ih1 Θ (o++[x]) (by simp;omega);rw[apI o (by omega),snI o x];refine Aa g ?_;rw[Ad hx,AvO];rfl
theorem Abk(v:Int)(l:List Int)(hl:l.length<=1000000):D.ask (.fn 259) [.ls (l.map eI),iv v] []=V (.ls ((KK v l).map eI),[]):=by
 have g:=Aok Kt v l hl _ 0 Θ [] rfl (by omega) (by simp);have hlen:=Vl v Θ l;rw[κ,AvV]at g;unfold KK;generalize IY v Θ l=p at g hlen;obtain⟨o,d⟩:=p;simp only at g hlen ⊢;unfold bkI at g;refine Aq Kt Vd (At4 ..) ?_;refine Aa g ?_;simp only[Ae]
 cases d with
 |true=>
  refine Bm ?_;rw[AK KC o (by omega)];refine Af ?_;rw[By KC o rfl,Ac rfl,Awc]
 |false=>
  refine Af ?_;rw[Ad (by decide)];rw[Apj,snI o v,AK KC (o++[v]) (by omega)];rw[show AU (o++[v]).length 8=U from AL (by simp;omega) (by omega),AK KC o (by omega),κ,By KC (o++[v]) rfl];rfl
end
section
variable {D:Orc} (Kt:Knows Ak Mn D) (Kh:Knows Ak NW D) (F:RF D)
include Kt Kh F
theorem Akf{n k:Nat}{ps:List Pt}{kz:Zi}(ht:TmB n k ⟨ps,kz⟩)(hn:n<=1000000)(hk:k+n<=400000000):∀(m i:Nat) (out:List Int),ps.length-i=m->i<=ps.length->Asc out->out.length<=i->
  D.ask (.lp 239 0) [.ptr 0 0,.ls (out.map eI),iv (i:Int)] [⟨[.ls (ps.map eP),bv kz.neg,eN kz.abs],U,Θ⟩]=V (.tup [iv 0,.ls ((Ho (Fg (ps.map pv)) out ((ps.drop i).map Pt.v)).map eI)],[.del]):=by
 have hlen:ps.length<=n:=ht.len;intro m
 induction m with
 |zero=>
  intro i out hm hi ha ho;rw[ο (by omega),AwR,Ho];refine Ax Kt U9 (Ad1 ..) ?_;rw[Aj];exact Am rfl
 |succ m ih=>
  intro i out hm hi ha ho;have h1:i<ps.length:=by omega
  have hn1:∀ kk,A4 (ps.map eP) i kk=kk (eP ps[i]):=λkk=>Az (Ω h1) kk
  rw[ω h1,AvT,Ho];revert hn1;generalize ps[i]=p;intro hn1;have gc:=Y0 Kh F ht hn hk p.v;have hc:InB (k+n) (Fg (ps.map pv) p.v):=by
   unfold Fg;split
   .exact(MJ _ _ ht.lb.ps).mono (by have:=ht.lb.len;omega)
   .exact InB.zero _
  have e1:(if 0<=p.v then Bt p.v (Tm.mk ps kz).lf.ps else 0)=Fg (ps.map pv) p.v:=rfl;rw[e1]at gc;generalize Fg (ps.map pv) p.v=c at gc hc;have gs:=F.sign (A3 c) (hc.lz.mono (by omega));rw[BU]at gs;refine Ax Kt U9 (Ad1 ..) ?_;rw[Aj];refine Ao ?_;rw[AA,hn1];simp only[eP,eN,Ae];refine Aa gc ?_;simp only[eZ,eN,Ae]at gs ⊢;refine Aa gs ?_;simp only[Ae];rw[Bn (by omega)]
  by_cases h0:c=0
  .have g:=ih (i+1) out (by omega) (by omega) ha (by omega)
   refine Aw ?_ ((AgS c).2 h0);refine Aa g ?_;rw[Ac h0];rfl
  .have g:=ih (i+1) (KK p.v out) (by omega) (by omega) (IZ _ ha) (by have:=Pv p.v ha;omega)
   have gi:=Abk Kt p.v out (by omega);refine Ap ?_ (λh=>h0 ((AgS c).1 h));refine Aa gi ?_;simp only[Ae];refine Aa g ?_;rw[Ad h0];rfl
theorem AgI{n k:Nat}{t:Tm}(ht:TmB n k t)(hn:n<=1000000)(hk:k+n<=400000000):D.ask (.fn 239) [.agg (eT t)] []=V (.ls ((Kc t.lf.ps).map eI),[]):=by
 obtain⟨ps,kz⟩:=t;have g:=Akf Kt Kh F ht hn hk _ 0 [] rfl (by omega) Oj (by simp);rw[κ]at g;have e1:(ps.map Pt.v)=(Tm.mk ps kz).lf.ps.map (·.1):=by
  unfold Tm.lf;rw[AxH];rfl
 rw[e1]at g;refine Aq Kt U9 (AtV ..) ?_;refine Aa g ?_;rfl
omit Kt Kh F in
theorem AcF(ps:List (Int × Int)):(Kc ps).length<=ps.length:=by
 grind [Fg,Kc,Oj,Nn]
def ptV(l:List (Int × Int))(v:Int):Pt:=⟨v,A3 (Fg l v)⟩
theorem Ab4{n k:Nat}{ps:List Pt}{kz:Zi}(ht:TmB n k ⟨ps,kz⟩)(hn:n<=1000000)(hk:k+n<=400000000)(vs:List Int)(hvs:vs.length<=n)(r0:Rw)(r1:Bool)(r2:Rw)(k1:Bool)(k2:Rw):∀(m i:Nat) (out:List Pt),vs.length-i=m->i<=vs.length->out.length<=i->
  D.ask (.lp 199 0) [.ptr 0 0,.ptr 1 0,.ptr 2 0,.ls (vs.map eI),iv (i:Int)] [⟨[.ls (ps.map eP),bv kz.neg,eN kz.abs],U,Θ⟩,⟨[.ls r0,bv r1,.ls r2],U,Θ⟩,⟨[.sl 3 0 out.length 3,bv k1,.ls k2],U,Θ⟩,Fo out]
   = V (.tup [iv 0,.ptr 1 0,.ptr 2 0],[.del,.set ⟨[.ls r0,bv r1,.ls r2],U,Θ⟩,.set ⟨[.sl 4 0 (out++(vs.drop i).map (ptV (ps.map pv))).length 3,bv k1,.ls k2],U,Θ⟩,.del,.set (Fo (out++(vs.drop i).map (ptV (ps.map pv))))]):=by
 intro m
 induction m with
 |zero=>
  intro i out hm hi ho;rw[ο (by omega),AwR,Awc];refine Ax Kt U2 (AdQ ..) ?_;rw[Aj];exact Am rfl
 |succ m ih=>
  intro i out hm hi ho;have h1:i<vs.length:=by omega
  have hn1:∀ kk,A4 (vs.map eI) i kk=kk (eI vs[i]):=λkk=>Az (Ω h1) kk
  rw[ω h1,AvT];revert hn1;generalize vs[i]=v;intro hn1;have gc:=Y0 Kh F ht hn hk v;have e1:(if 0<=v then Bt v (Tm.mk ps kz).lf.ps else 0)=Fg (ps.map pv) v:=rfl;rw[e1]at gc;have ih:=ih (i+1) (out++[ptV (ps.map pv) v]) (by omega) (by omega) (by simp;omega);rw[AvO,Awu,show (out++[ptV (ps.map pv) v]).length=out.length+1 by simp]at ih;have hf:AU (out.length+1) 40=U:=AL (by omega) (by omega);have hb1:AvL (0+out.length*3) (Av eP out).length=U:=AK AE out (by omega);have e3:AvI 0 (AvG (0+out.length*3) (Av eP out))++[iv v,bv (A3 (Fg (ps.map pv) v)).neg,eN (A3 (Fg (ps.map pv) v)).abs]=Av eP (out++[ptV (ps.map pv) v]):=by
   rw[κ,A0 AE out (by omega)];exact AW eP out (ptV (ps.map pv) v)
  refine Ax Kt U2 (AdQ ..) ?_;rw[Aj];refine Ao ?_;simp only[AA,hn1,eI,Ae];refine Aa gc ?_;simp only[eZ,eN,Ae]at e3 ⊢;rw[hf];refine Af ?_;rw[hb1];refine Af ?_;rw[e3,Bn (by omega)];refine Aa ih ?_;rfl
theorem JJ{n k:Nat}{t:Tm}(ht:TmB n k t)(hn:n<=1000000)(hk:k+n<=400000000):D.ask (.fn 199) [.agg (eT t)] []=V (.agg (eT t.lf.pln.tm),[]):=by
 have gv:=AgI Kt Kh F ht hn hk;have hl:=AcF t.lf.ps;have hl2:=ht.lb.len;have gk:=F.clean t.k (ht.k.mono (by omega));obtain⟨ps,kz⟩:=t;have gl:=Ab4 Kt Kh F ht hn hk (Kc (Tm.mk ps kz).lf.ps) (by omega) [] Θ [] (A3 (zv kz)).neg ((A3 (zv kz)).abs.map eL) _ 0 [] rfl (by omega) (by simp);rw[κ,AvV]at gl;have e2:(Kc (Tm.mk ps kz).lf.ps).map (ptV (ps.map pv))=(Tm.mk ps kz).lf.pln.tm.ps:=by
  show _=(E7 (ps.map pv)).map BD
  rw[←Yj,AxH];rfl
 rw[e2]at gl;have e3:(Tm.mk ps kz).lf.pln.tm.k=A3 (zv kz):=rfl;revert gl;generalize hX:(Tm.mk ps kz).lf.pln.tm=X at e3 ⊢;obtain⟨xp,xk⟩:=X;intro gl;simp only at e3;subst e3;refine Aq Kt U2 (Atv ..) ?_;refine Aa gk ?_;simp only[eZ,eN,Ae];refine Aa gv ?_;simp only[Ae];refine Aa gl ?_;simp only[Ae];rw[AK AE xp (by omega)];refine Af ?_;rw[By AE _ rfl];rfl
omit Kh F in
theorem Adg(a b:List Pt)(hl:a.length<=1000000):∀(m i:Nat) (out:List Pt),a.length-i=m->i<=a.length->out.length<=i->
  D.ask (.lp 287 0) [.ls (a.map eP),.ls (b.map eP),.sl 0 0 out.length 3,iv (i:Int)] [Fo out]=V (.tup [iv 0,.ls (b.map eP),.sl 1 0 (out++a.drop i).length 3],[.del,.set (Fo (out++a.drop i))]):=by
 intro m
 induction m with
 |zero=>
  intro i out hm hi ho;rw[ο (by omega),Awc];refine Ax Kt NI (Aef ..) ?_;rw[Aj];exact Am rfl
 |succ m ih=>
  intro i out hm hi ho;have h1:i<a.length:=by omega
  have hn1:∀ kk,A4 (a.map eP) i kk=kk (eP a[i]):=λkk=>Az (Ω h1) kk
  rw[ω h1];revert hn1;generalize a[i]=v;intro hn1;have ih:=ih (i+1) (out++[v]) (by omega) (by omega) (by simp;omega);rw[AvO,Awu,show (out++[v]).length=out.length+1 by simp]at ih;have hf:AU (out.length+1) 40=U:=AL (by omega) (by omega);have hb1:AvL (0+out.length*3) (Av eP out).length=U:=AK AE out (by omega);have e3:AvI 0 (AvG (0+out.length*3) (Av eP out))++[iv v.v,bv v.z.neg,eN v.z.abs]=Av eP (out++[v]):=by
   rw[κ,A0 AE out (by omega)];exact AW eP out v
  refine Ax Kt NI (Aef ..) ?_;rw[Aj];refine Ao ?_;simp only[AA,hn1,eP,eN,Ae]at e3 ⊢;rw[hf];refine Af ?_;rw[hb1];refine Af ?_;rw[e3,Bn (by omega)];refine Aa ih ?_;rfl
omit Kh F in
theorem Adh(a:List Pt)(hl:a.length<=1000000):∀(m i:Nat) (out:List Pt),a.length-i=m->i<=a.length->out.length<=1000000+i->
  D.ask (.lp 287 1) [.ls (a.map eP),.sl 0 0 out.length 3,iv (i:Int)] [Fo out]=V (.tup [iv 2,.sl 1 0 (out++a.drop i).length 3],[.del,.set (Fo (out++a.drop i))]):=by
 intro m
 induction m with
 |zero=>
  intro i out hm hi ho;rw[ο (by omega),Awc];refine Ax Kt NI (Aeg ..) ?_;rw[Aj];exact Am rfl
 |succ m ih=>
  intro i out hm hi ho;have h1:i<a.length:=by omega
  have hn1:∀ kk,A4 (a.map eP) i kk=kk (eP a[i]):=λkk=>Az (Ω h1) kk
  rw[ω h1];revert hn1;generalize a[i]=v;intro hn1;have ih:=ih (i+1) (out++[v]) (by omega) (by omega) (by simp;omega);rw[AvO,Awu,show (out++[v]).length=out.length+1 by simp]at ih;have hf:AU (out.length+1) 40=U:=AL (by omega) (by omega);have hb1:AvL (0+out.length*3) (Av eP out).length=U:=AK AE out (by omega);have e3:AvI 0 (AvG (0+out.length*3) (Av eP out))++[iv v.v,bv v.z.neg,eN v.z.abs]=Av eP (out++[v]):=by
   rw[κ,A0 AE out (by omega)];exact AW eP out v
  refine Ax Kt NI (Aeg ..) ?_;rw[Aj];refine Ao ?_;simp only[AA,hn1,eP,eN,Ae]at e3 ⊢;rw[hf];refine Af ?_;rw[hb1];refine Af ?_;rw[e3,Bn (by omega)];refine Aa ih ?_;rfl
omit Kh F in
theorem AhQ(a b:List Pt)(ha:a.length<=1000000)(hb:b.length<=1000000):D.ask (.fn 287) [.ls (a.map eP),.ls (b.map eP)] []=V (.ls ((a++b).map eP),[]):=by
 have g0:=Adg Kt a b ha _ 0 [] rfl (by omega) (by simp);have g1:=Adh Kt b hb _ 0 a rfl (by omega) (by omega);rw[κ,AvV]at g0;rw[κ]at g1;refine Aq Kt NI (Aul ..) ?_;refine Aa g0 ?_;simp only[Ae];refine Aa g1 ?_;simp only[Ae];refine Af ?_;rw[AK AE (a++b) (by omega)];refine Af ?_;rw[By AE _ rfl]
theorem AjD{n m k:Nat}{a b:Tm}(ha:TmB n k a)(hb:TmB m k b)(hn:n+m<=1000000)(hk:k+1+(n+m)<=400000000):D.ask (.fn 280) [.agg (eT a),.agg (eT b)] []=V (.agg (eT (a.lf.add b.lf).tm),[]):=by
 obtain⟨ap,ak⟩:=a;obtain⟨bp,bk⟩:=b;have l1:ap.length<=n:=ha.len;have l2:bp.length<=m:=hb.len;have gc:=AhQ Kt ap bp (by omega) (by omega);have ga:=F.add ak bk (ha.k.mono (by omega)) (hb.k.mono (by omega));have hT:TmB (n+m) (k+1) ⟨ap++bp,A3 (zv ak+zv bk)⟩:=by
  refine⟨by simp;omega,λp hp=>?_,?_⟩
  .rcases List.mem_append.1 hp with h|h
   .exact(ha.ps p h).mono (by omega)
   .exact(hb.ps p h).mono (by omega)
  .exact(InB.add ha.k.inb hb.k.inb).lz
 have gp:=JJ Kt Kh F hT hn (by omega);have el:(⟨ap++bp,A3 (zv ak+zv bk)⟩:Tm).lf.pln=Lf.add (Tm.lf ⟨ap,ak⟩) (Tm.lf ⟨bp,bk⟩):=by
  (first|grind [Lf.add,Tm.lf,BU] | grind [Lf.add,Tm.lf,AyI,BU])
 rw[el]at gp;refine Aq Kt AlU (Auf ..) ?_;refine Aa gc ?_;simp only[Ae];refine Aa ga ?_;simp only[eZ,eN,Ae];refine Aa gp ?_;rfl
omit Kh in
theorem Ab5{k j:Nat}{x:Zi}(hx:Lz j x)(ps:List Pt)(kz:Zi)(hl:ps.length<=1000000)(hz:∀ p∈ps,Lz k p.z)(hk:k<=400000000)(hj:j<=400000000)(r0:Rw)(r1:Bool)(r2:Rw)(k1:Bool)(k2:Rw):∀(m i:Nat) (out:List Pt),ps.length-i=m->i<=ps.length->out.length<=i->
  D.ask (.lp 281 0) [.ptr 0 0,.ptr 1 0,.ptr 2 0,.ptr 3 0,iv (i:Int)] [⟨[.ls (ps.map eP),bv kz.neg,eN kz.abs],U,Θ⟩,⟨eZ x,U,Θ⟩,⟨[.ls r0,bv r1,.ls r2],U,Θ⟩,⟨[.sl 4 0 out.length 3,bv k1,.ls k2],U,Θ⟩,Fo out]
   = V (.tup [iv 0,.ptr 2 0,.ptr 3 0],[.del,.del,.set ⟨[.ls r0,bv r1,.ls r2],U,Θ⟩,.set ⟨[.sl 5 0 (out++(ps.drop i).map (Sb x)).length 3,bv k1,.ls k2],U,Θ⟩,.del,.set (Fo (out++(ps.drop i).map (Sb x)))]):=by
 intro m
 induction m with
 |zero=>
  intro i out hm hi ho;rw[ο (by omega),AwR,Awc];obtain⟨xn,xa⟩:=x;refine Ax Kt Vf (Aeb ..) ?_;rw[Aj];exact Am rfl
 |succ m ih=>
  intro i out hm hi ho;have h1:i<ps.length:=by omega
  have hzk:=hz ps[i] (AvN h1);have gm:=F.mul ps[i].z x (hzk.mono (by omega)) (hx.mono (by omega));rw[ω h1,AvT];have ih:=ih (i+1) (out++[Sb x ps[i]]) (by omega) (by omega) (by simp;omega);rw[AvO,Awu,show (out++[Sb x ps[i]]).length=out.length+1 by simp]at ih;have hf:AU (out.length+1) 40=U:=AL (by omega) (by omega);have hb1:AvL (0+out.length*3) (Av eP out).length=U:=AK AE out (by omega);have e3:AvI 0 (AvG (0+out.length*3) (Av eP out))++[iv ps[i].v,bv (A3 (zv ps[i].z*zv x)).neg,eN (A3 (zv ps[i].z*zv x)).abs]=Av eP (out++[Sb x ps[i]]):=by
   rw[κ,A0 AE out (by omega)];exact AW eP out (Sb x ps[i])
  have hn1:∀ kk,A4 (ps.map eP) i kk=kk (eP ps[i]):=λkk=>Az (Ω h1) kk
  obtain⟨xn,xa⟩:=x;refine Ax Kt Vf (Aeb ..) ?_;rw[Aj];refine Ao ?_;simp only[AA,hn1,eP,eN,Ae];refine Aa gm ?_;simp only[eZ,eN,Ae]at e3 ⊢;rw[hf];refine Af ?_;rw[hb1];refine Af ?_;rw[e3,Bn (by omega)];refine Aa ih ?_;rfl
theorem Ab6{n k j:Nat}{a:Tm}{x:Zi}(ha:TmB n k a)(hx:Lz j x)(hn:n<=1000000)(hj:j<=200000000)(hk:k+j+n<=400000000):D.ask (.fn 281) [.agg (eT a),.agg (eZ x)] []=V (.agg (eT (a.lf.scale (zv x)).tm),[]):=by
 obtain⟨ap,ak⟩:=a;have l1:ap.length<=n:=ha.len;have gm:=F.mul ak x (ha.k.mono (by omega)) (hx.mono (by omega));have gl:=Ab5 Kt F hx ap ak (by omega) ha.ps (by omega) (by omega) [] Θ [] (A3 (zv ak*zv x)).neg ((A3 (zv ak*zv x)).abs.map eL) _ 0 [] rfl (by omega) (by simp);rw[κ,AvV]at gl;have hT:TmB n (k+j) ⟨ap.map (Sb x),A3 (zv ak*zv x)⟩:=by
  refine⟨by simpa using l1,λp hp=>?_,(InB.mul ha.k.inb hx.inb).lz⟩;rw[AwV]at hp;obtain⟨q,hq,rfl⟩:=hp;exact(InB.mul (ha.ps q hq).inb hx.inb).lz
 have gp:=JJ Kt Kh F hT hn (by omega);have el:(⟨ap.map (Sb x),A3 (zv ak*zv x)⟩:Tm).lf.pln=Lf.scale (Tm.lf ⟨ap,ak⟩) (zv x):=by
  unfold Lf.scale Tm.lf;simp only[AxH,BU]
  congr 2
  refine List.map_congr_left λp _=>?_
  show ((p.v,zv (A3 (zv p.z*zv x))):Int × Int)=_
  rw[BU];rfl
 rw[el]at gp;obtain⟨xn,xa⟩:=x;refine Aq Kt Vf (Aug ..) ?_;refine Aa gm ?_;simp only[eZ,eN,Ae];refine Aa gl ?_;simp only[Ae];rw[show AvL (0+(ap.map (Sb ⟨xn,xa⟩)).length*3) (Av eP (ap.map (Sb ⟨xn,xa⟩))).length=U from AK AE _ (by omega)];refine Af ?_;rw[By AE _ rfl];refine Aa gp ?_;rfl
theorem AjM{n k:Nat}{a:Tm}(ha:TmB n k a)(hn:n<=1000000)(hk:k+1+n<=400000000):D.ask (.fn 281) [.agg (eT a),.agg (eZ (A3 (-1)))] []=V (.agg (eT (a.lf.scale (-1)).tm),[]):=by
 have hx:Lz 1 (A3 (-1)):=InB.lz (by unfold InB;decide);have g2:=Ab6 Kt Kh F ha hx hn (by omega) hk;rw[BU]at g2;exact g2
theorem Aah{n m k:Nat}{a b:Tm}(ha:TmB n k a)(hb:TmB m k b)(hn:n+m<=1000000)(hk:k+2+2*(n+m)<=400000000):D.ask (.fn 272) [.agg (eT a),.agg (eT b)] []=V (.agg (eT (a.lf.sub b.lf).tm),[]):=by
 have g0:=F.of_ (-1) (by omega) (by omega);have g1:=AjM Kt Kh F hb (by omega) (by omega);have hn1:LB m (k+1+m) (b.lf.scale (-1)):=hb.lb.scale (by unfold InB;decide);have g2:=AjD Kt Kh F (ha.mono (η _) (show k<=k+1+m by omega)) hn1.tb hn (by omega);rw[C5]at g2;refine Aq Kt AlQ (At9 ..) ?_;refine Aa g0 ?_;simp only[eZ,eN,Ae]at g1 ⊢;refine Aa g1 ?_;simp only[eT,eN,Ae];refine Aa g2 ?_;rfl
omit Kh in
theorem Yq{z:Zi}(hz:Lz 1000000000 z):D.ask (.fn 271) [.agg (eZ z)] []=V (.agg (eT (Lf.num (zv z)).tm),[]):=by
 have g:=F.clean z hz;refine Aq Kt AlP (At8 ..) ?_;refine Aa g ?_;rfl
end
structure KnowsL (own:List (Nat × Nat)) (L:List (Nat × MFn)) (D:Orc):Prop where
 lp:∀(Hn:Hnt) (s:Sc) (f i:Nat) (mf:MFn) (q:LpH) (c:MC) (args:Ab) (bs:List ABlk) (r:AV × List BO),BX f L=V mf->mf.loops[i]? = V (q,c)->CT Ai D own Hn s f i q c args bs=V r->D.ask (.lp f i) args bs=V r
theorem Knows.l{own:List (Nat × Nat)}{L:List (Nat × MFn)}{D:Orc}(K:Knows own L D):KnowsL own L D:=⟨K.lp⟩
theorem KnowsL.lpL'{own:List (Nat × Nat)}{L:List (Nat × MFn)}{D:Orc}(K:KnowsL own L D)(Hn:Hnt)(s:Sc){f i:Nat}{mf:MFn}{args:Ab}{bs:List ABlk}{r:AV × List BO}(h1:BX f L=V mf)(h2:(mf.loops[i]?).isSome=U)(h:CT Ai D own Hn s f i (AI mf i).1 (AI mf i).2 args bs=V r):D.ask (.lp f i) args bs=V r:=by
 obtain⟨⟨q,c⟩,e⟩:=Option.isSome_iff_exists.1 h2;refine K.lp Hn s f i mf q c args bs r h1 e ?_;unfold AI at h;rw[e]at h;exact h
inductive CnF:Fm->Prop
 |mk {k:Int} {t:Tm} {e:Bool} {ks:List Fm} (h:k≠2->t=Tm0/\e=Θ) (hk:∀ y∈ks,CnF y):CnF (.mk k t e ks)
theorem CanF.cn:∀{x:Fm},CanF x->CnF x:=by
 have key:∀(n:Nat) (x:Fm),SizeOf.sizeOf x<n->CanF x->CnF x:=by
  intro n
  induction n with
  |zero=>intro x h;omega
  |succ n ih=>
   intro x hn hx;have hk:=hx.kids;have hh:=hx.head;obtain⟨k,t,e,ks⟩:=x;refine .mk (λh2=>?_) λy hy=>ih y (by have:=E0 (k:=k) (t:=t) (e:=e) hy;omega) (hk y hy)
   rcases hh with⟨h,_⟩|⟨_,h,h'⟩
   .exact absurd h h2
   .exact⟨h,h'⟩
 exact λ{x}=>key _ x (AvS _)
theorem Nk(k:KR):Wy (.slice Δ 0 0) (.v (.slice Δ 0 0)) k=k:=rfl
section
variable {D:Orc} (Kt:Knows Ak Mn D) (F:RF D)
include Kt F
theorem Ahh{n k m:Nat}{ps qs:List Pt}{kz jz:Zi}(hl:ps.length=qs.length)(hp:TmB n k ⟨ps,kz⟩)(hn:n<=1000000)(hk:k<=1000000000):∀(m i:Nat),ps.length-i=m->i<=ps.length->
  ∃ b,D.ask (.lp 198 0) [.ptr 0 0,.ptr 1 0,iv (i:Int)] [⟨[.ls (ps.map eP),bv kz.neg,eN kz.abs],U,Θ⟩,⟨[.ls (qs.map eP),bv jz.neg,eN jz.abs],U,Θ⟩]=V (if b then .tup [iv 0] else .tup [bv U,bv Θ],[.del,.del])/\(b=U ↔ ps.drop i=qs.drop i):=by
 have hlen:ps.length<=n:=hp.len;intro m
 induction m with
 |zero=>
  intro i hm hi;refine⟨U,?_,by rw[ο (by omega),ο (by omega)];simp⟩;refine Ax Kt Lx (SY ..) ?_;rw[Aj];exact Am rfl
 |succ m ih=>
  intro i hm hi;have h1:i<ps.length:=by omega
  have h2:i<qs.length:=by omega
  have hn1:∀ kk,A4 (ps.map eP) i kk=kk (eP ps[i]):=λkk=>Az (Ω h1) kk
  have hn2:∀ kk,A4 (qs.map eP) i kk=kk (eP qs[i]):=λkk=>Az (Ω h2) kk
  have hz:=hp.ps ps[i] (AvN h1);rw[ω h1,ω h2];revert hn1 hn2 hz;generalize ps[i]=p;generalize qs[i]=q;intro hn1 hn2 hz;obtain⟨b,g,hb⟩:=ih (i+1) (by omega) (by omega);have gs:=F.same p.z q.z (hz.mono hk);obtain⟨pv,pn,pa⟩:=p;obtain⟨qv,qn,qa⟩:=q;simp only[eZ,eN]at gs g ⊢
  by_cases hv:pv=qv
  .by_cases hz:pn=qn/\pa=qa
   .rw[Ba hz]at gs
    refine⟨b,?_,?_⟩
    .refine Ax Kt Lx (SY ..) ?_
     rw[Aj];refine Ao ?_;simp only[AA,hn1,hn2,eP,eN,Ae];refine Aw ?_ hv;refine Aa gs ?_;simp only[Ae];rw[Bn (by omega)];refine Aa g ?_
     cases b<;>rfl
    .rw[hb,hv,hz.1,hz.2]
     simp
   .rw[Bu hz]at gs
    refine⟨Θ,?_,?_⟩
    .refine Ax Kt Lx (SY ..) ?_
     rw[Aj];refine Ao ?_;simp only[AA,hn1,hn2,eP,eN,Ae];refine Aw ?_ hv;refine Aa gs ?_;rfl
    .simp only[Awi,false_iff,List.cons.injEq,Pt.mk.injEq,Zi.mk.injEq]
     exact λh=>hz h.1.2
  .refine⟨Θ,?_,?_⟩
   .refine Ax Kt Lx (SY ..) ?_
    rw[Aj];refine Ao ?_;simp only[AA,hn1,hn2,eP,eN,Ae];exact Ap rfl hv
   .simp only[Awi,false_iff,List.cons.injEq,Pt.mk.injEq,Zi.mk.injEq]
    exact λh=>hv h.1.1
theorem Ahi{n k:Nat}{t u:Tm}(ht:TmB n k t)(hn:n<=1000000)(hk:k<=1000000000):∃ b,D.ask (.fn 198) [.agg (eT t),.agg (eT u)] []=V (bv b,[])/\(b=U ↔ t=u):=by
 obtain⟨ps,kz⟩:=t;obtain⟨qs,jz⟩:=u;have gs:=F.same kz jz (ht.k.mono hk)
 by_cases hl:ps.length=qs.length
 .obtain⟨b,g,hb⟩:=Ahh Kt F (m:=0) (kz:=kz) (jz:=jz) hl ht hn hk _ 0 rfl (by omega)
  rw[κ,κ]at hb;obtain⟨kn,ka⟩:=kz;obtain⟨jn,ja⟩:=jz;simp only[eZ,eN]at gs g
  by_cases hz:kn=jn/\ka=ja
  .rw[Ba hz]at gs
   refine⟨b,?_,?_⟩
   .refine Aq Kt Lx (AnZ ..) ?_
    rw[Aj,Aj];refine Aw ?_ (congrArg _ hl);refine Aa gs ?_;simp only[Ae];refine Aa g ?_
    cases b<;>rfl
   .rw[hb,hz.1,hz.2]
    simp
  .rw[Bu hz]at gs
   refine⟨Θ,?_,?_⟩
   .refine Aq Kt Lx (AnZ ..) ?_
    rw[Aj,Aj];refine Aw ?_ (congrArg _ hl);refine Aa gs ?_;rfl
   .simp only[Awi,false_iff,Tm.mk.injEq,Zi.mk.injEq]
    exact λh=>hz h.2
 .refine⟨Θ,?_,?_⟩
  .refine Aq Kt Lx (AnZ ..) ?_
   rw[Aj,Aj];exact MD λh=>hl (Int.ofNat.inj h)
  .simp only[Awi,false_iff,Tm.mk.injEq]
   exact λh=>hl (by rw[h.1])
end
section
variable {D:Orc} (Kt:Knows Ak Mn D) (Kh:Knows Ak NW D) (Kq:Knows Ak Qs D) (F:RF D)
include Kt Kq F
theorem V9{n k:Nat}{t u:Tm}(ht:TmB n k t)(hn:n<=1000000)(hk:k<=1000000000)(e f:Bool):∃ b,D.ask (.fn 141) [.agg (eT t++[bv e]),.agg (eT u++[bv f])] []=V (bv b,[])/\(b=U ↔ t=u/\e=f):=by
 obtain⟨b,g,hb⟩:=Ahi Kt F (u:=u) ht hn hk;obtain⟨ps,kn,ka⟩:=t;obtain⟨qs,jn,ja⟩:=u
 by_cases he:e=f
 .refine⟨b,?_,by rw[hb];simp[he]⟩
  refine Aq Kq AeK (Ap7 ..) ?_;rw[PY,he,beq_self_eq_true];refine Af ?_;refine Aa g ?_
  cases b<;>rfl
 .refine⟨Θ,?_,by simp[he]⟩
  refine Aq Kq AeK (Ap7 ..) ?_;rw[PY,beq_eq_false_iff_ne.2 he];rfl
omit Kt F in
theorem Aew(ks js:List Fm)(xk yk:Int)(xt yt:Tm)(xe ye:Bool)(hl:ks.length=js.length)(hn:ks.length<=1000000)(g:∀ x∈ks,∀ y∈js,∃ b,D.ask (.fn 82) [.agg (eF x),.agg (eF y)] []=V (bv b,[])/\(b=U ↔ x=y)):∀(m i:Nat),ks.length-i=m->i<=ks.length->
  ∃ b,D.ask (.lp 82 0) [.ptr 0 0,.ptr 1 0,iv (i:Int)] [Adi (.mk xk xt xe ks),Adi (.mk yk yt ye js)]=V (if b then .tup [iv 0] else .tup [bv U,bv Θ],[.del,.del])/\(b=U ↔ ks.drop i=js.drop i):=by
 intro m
 induction m with
 |zero=>
  intro i hm hi;refine⟨U,?_,by rw[ο (by omega),ο (by omega)];simp⟩;unfold Adi;rw[eF,B2,eF,B2];refine Ax Kq Vi (AkF ..) ?_;rw[Aj];exact Am rfl
 |succ m ih=>
  intro i hm hi;have h1:i<ks.length:=by omega
  have h2:i<js.length:=by omega
  have hn1:∀ kk,A4 (ks.map eF) i kk=kk (eF ks[i]):=λkk=>Az (Ω h1) kk
  have hn2:∀ kk,A4 (js.map eF) i kk=kk (eF js[i]):=λkk=>Az (Ω h2) kk
  obtain⟨c,gc,hc⟩:=g ks[i] (AvN h1) js[i] (AvN h2);rw[ω h1,ω h2];revert hn1 hn2 gc hc;generalize ks[i]=x;generalize js[i]=y;intro hn1 hn2 gc hc;obtain⟨b,g,hb⟩:=ih (i+1) (by omega) (by omega);unfold Adi at g ⊢;rw[eF,B2,eF,B2]at g ⊢;refine⟨c&&b,?_,by rw[AvF,hc,hb,List.cons.injEq]⟩;obtain⟨k0,⟨p0,z0⟩,e0,l0⟩:=x;obtain⟨k1,⟨p1,z1⟩,e1,l1⟩:=y;refine Ax Kq Vi (AkF ..) ?_;rw[Aj];refine Ao ?_;simp only[AA,hn1,hn2,eF,eN,Ae]at gc ⊢;refine Aa gc ?_;simp only[Ae]
  cases c with
  |false=>rfl
  |true=>
   refine Af ?_;rw[Bn (by omega)];refine Aa g ?_
   cases b<;>rfl
theorem Ab0{n k:Nat}(hn:n<=1000000)(hk:k<=1000000000):∀(N:Nat) (x y:Fm),SizeOf.sizeOf x<N->FB n k x->CnF x->CnF y->∃ b,D.ask (.fn 82) [.agg (eF x),.agg (eF y)] []=V (bv b,[])/\(b=U ↔ x=y):=by
 intro N
 induction N with
 |zero=>intro x y h;omega
 |succ N ih=>
  intro x y hN hb hx hy;obtain⟨ht,hkl,hks⟩:=hb;rename_i xk xt xe ks;obtain⟨h2,hxs⟩:=hx;obtain @⟨yk,yt,ye,js,h3,hys⟩:=hy
  by_cases h0:xk=yk
  .by_cases hl:ks.length=js.length
   .obtain⟨b,g,hgb⟩:=Aew Kq ks js xk yk xt yt xe ye hl hkl (λx hx y hy=>ih x y (by have:=E0 (k:=xk) (t:=xt) (e:=xe) hx;omega) (hks x hx) (hxs x hx) (hys y hy)) _ 0 rfl (by omega)
    rw[κ,κ]at hgb;unfold Adi at g;rw[eF,B2,eF,B2]at g
    by_cases hk2:xk=2
    .obtain⟨c,gc,hc⟩:=V9 Kt Kq F (u:=yt) ht hn hk xe ye
     refine⟨c&&b,?_,?_⟩
     .refine Aq Kq Vi (e82 ..) ?_
      rw[B2,B2,Aj,Aj];refine Aw ?_ h0;refine Aw ?_;refine Aw ?_ hk2;refine Aa gc ?_;simp only[Ae]
      cases c with
      |false=>rfl
      |true=>
       refine Af ?_;refine Aa g ?_
       cases b<;>rfl
     .rw[AvF,hc,hgb,Fm.mk.injEq]
      constructor
      .rintro⟨⟨rfl,rfl⟩,rfl⟩
       exact⟨h0,rfl,rfl,rfl⟩
      .rintro⟨_,rfl,rfl,rfl⟩
       exact⟨⟨rfl,rfl⟩,rfl⟩
    .refine⟨b,?_,?_⟩
     .refine Aq Kq Vi (e82 ..) ?_
      rw[B2,B2,Aj,Aj];refine Aw ?_ h0;refine Aw ?_;refine Ap ?_ hk2;refine Aa g ?_
      cases b<;>rfl
     .obtain⟨rfl,rfl⟩:=h2 hk2
      obtain⟨rfl,rfl⟩:=h3 (by rw[←h0];exact hk2);rw[hgb,Fm.mk.injEq];exact⟨λh=>⟨h0,rfl,rfl,h⟩,λh=>h.2.2.2⟩
   .refine⟨Θ,?_,by simp only[Awi,false_iff,Fm.mk.injEq];exact λh=>hl (by rw[h.2.2.2])⟩
    refine Aq Kq Vi (e82 ..) ?_;rw[B2,B2,Aj,Aj];refine Aw ?_ h0;exact MD (by omega)
  .refine⟨Θ,?_,by simp only[Awi,false_iff,Fm.mk.injEq];exact λh=>h0 h.1⟩
   refine Aq Kq Vi (e82 ..) ?_;exact MD h0
omit Kt F in
theorem R8(b:Bool):D.ask (.fn 142) [bv b] []=V (.agg (eF (Og b)),[]):=by
 refine Aq Kq Ak7 (AsV ..) ?_
 cases b<;>rfl
omit Kt F in
theorem Agv(x:Fm):D.ask (.fn 144) [.agg (eF x)] []=V (.ls ((I2 x).map eF),[]):=by
 obtain⟨k,t,e,ks⟩:=x;refine Aq Kq Ak9 (AsX ..) ?_;rw[B2,I2]
 by_cases h4:k=4
 .rw[Ac (.inl h4)]
  exact ME h4
 refine Ap ?_ h4
 by_cases h5:k=5
 .rw[Ac (.inr h5)]
  exact ME h5
 refine Ap ?_ h5;rw[Ad (by omega)]
 by_cases h3:k=3
 .rw[Ac h3]
  refine Aw ?_ h3;rw[Aj]
  cases ks with
  |nil=>rfl
  |cons y r=>
   refine Ao ?_ (by rw[ε];omega);rw[show J1 0 1 (y::r).length=U by simp[J1],Hp (λx=>by obtain⟨k,t,e,ks⟩:=x;rfl),Jp,IT];rfl
 .rw[Ad h3]
  exact MD h3
include Kh in
theorem PZ{n k:Nat}{t:Tm}(ht:TmB n k t)(hn:n<=1000000)(hk:k+n<=400000000)(e:Bool):D.ask (.fn 143) [.agg (eT t++[bv e])] []=V (.agg (eF (D3 t.lf.pln e)),[]):=by
 have g:=JJ Kt Kh F ht hn hk;obtain⟨ps,kz⟩:=t;refine Aq Kq Ak8 (AsW ..) ?_;refine Aa g ?_;rfl
end
section
variable {D:Orc} (KL:KnowsL Ak Qs D)
include KL
theorem Agk(ks:List Fm)(hl:ks.length<=1000000)(g:∀ x∈ks,D.ask (.fn 83) [.agg (eF x)] []=V (.agg (eF (Br x)),[]))(r0:Int)(r1:Rw)(r2:Bool)(r3:Rw)(r4:Bool)(r5:Rw)(k0:Int)(k2 k4:Bool):∀(m i:Nat) (out:List Fm),ks.length-i=m->i<=ks.length->out.length<=i->
  D.ask (.lp 83 0) [.ptr 0 0,.ptr 1 0,.ls (ks.map eF),iv (i:Int)] [⟨[iv r0,.ls r1,bv r2,.ls r3,bv r4,.ls r5],U,Θ⟩,⟨[iv k0,.v (.slice Δ 0 0),bv k2,.v (.slice Δ 0 0),bv k4,.sl 2 0 out.length 6],U,Θ⟩,⟨Av eF out,U,U⟩]
   = V (.tup [iv 1,.ptr 0 0,.ptr 1 0],[.set ⟨[iv r0,.ls r1,bv r2,.ls r3,bv r4,.ls r5],U,Θ⟩,.set ⟨[iv k0,.v (.slice Δ 0 0),bv k2,.v (.slice Δ 0 0),bv k4,.sl 3 0 (out++(ks.drop i).map Br).length 6],U,Θ⟩,.del,.set ⟨Av eF (out++(ks.drop i).map Br),U,U⟩]):=by
 intro m
 induction m with
 |zero=>
  intro i out hm hi ho;rw[ο (by omega),AwR,Awc];refine KL.lpL' AeZ _ rfl (by kernel_rfl) ((AkG ..).trans ?_);rw[Aj];exact Am rfl
 |succ m ih=>
  intro i out hm hi ho;have h1:i<ks.length:=by omega
  have hn1:∀ kk,A4 (ks.map eF) i kk=kk (eF ks[i]):=λkk=>Az (Ω h1) kk
  have gx:=g ks[i] (AvN h1);rw[ω h1,AvT];revert hn1 gx;generalize ks[i]=x;intro hn1 gx;have ih:=ih (i+1) (out++[Br x]) (by omega) (by omega) (by simp;omega);rw[AvO,Awu,show (out++[Br x]).length=out.length+1 by simp]at ih;have hf:AU (out.length+1) 96=U:=AL (by omega) (by omega);have hb1:AvL (0+out.length*6) (Av eF out).length=U:=AK C6 out (by omega);have e3:AvI 0 (AvG (0+out.length*6) (Av eF out))++eF (Br x)=Av eF (out++[Br x]):=by
   rw[κ,A0 C6 out (by omega)];exact AW eF out (Br x)
  revert gx ih e3;generalize Br x=y;intro gx ih e3;obtain⟨y0,⟨y1,y2⟩,y3,y4⟩:=y;obtain⟨x0,⟨x1,x2⟩,x3,x4⟩:=x;refine KL.lpL' AeZ _ rfl (by kernel_rfl) ((AkG ..).trans ?_);rw[Aj];refine Ao ?_;rw[AA,hn1];simp only[eF,eN,Ae]at gx e3 ⊢;refine Aa gx ?_;simp only[Ae];rw[hf];refine Af ?_;rw[hb1];refine Af ?_;rw[e3,Bn (by omega)];refine Aa ih ?_;rfl
end
section
variable {D:Orc} (Kt:Knows Ak Mn D) (Kh:Knows Ak NW D) (Kq:Knows Ak Qs D) (F:RF D)
include Kt Kh Kq F
theorem R4{n k:Nat}(hn:n<=1000000)(hk:k+n<=400000000):∀(N:Nat) (x:Fm),SizeOf.sizeOf x<N->FC n k x->D.ask (.fn 83) [.agg (eF x)] []=V (.agg (eF (Br x)),[]):=by
 intro N
 induction N with
 |zero=>intro x h;omega
 |succ N ih=>
  intro x hN hb;obtain⟨ht,hkl,hks⟩:=hb;rename_i kd t e ks;have gk:=Agv Kq (.mk kd t e ks);have gl:∀(js:List Fm),(∀ y∈js,y∈I2 (.mk kd t e ks))->js.length<=1000000->D.ask (.lp 83 0) [.ptr 0 0,.ptr 1 0,.ls (js.map eF),iv ((0:Nat):Int)] [⟨[iv 0,.ls [],bv Θ,.ls [],bv Θ,.ls []],U,Θ⟩,⟨[iv kd,.v (.slice Δ 0 0),bv Θ,.v (.slice Δ 0 0),bv Θ,.sl 2 0 0 6],U,Θ⟩,⟨[],U,U⟩]
   = V (.tup [iv 1,.ptr 0 0,.ptr 1 0],[.set ⟨[iv 0,.ls [],bv Θ,.ls [],bv Θ,.ls []],U,Θ⟩,.set ⟨[iv kd,.v (.slice Δ 0 0),bv Θ,.v (.slice Δ 0 0),bv Θ,.sl 3 0 (js.map Br).length 6],U,Θ⟩,.del,.set ⟨Av eF (js.map Br),U,U⟩]):=λjs hj hjl=>by
   have:=Agk Kq.l js hjl (λy hy=>ih y (by have:=E0 (k:=kd) (t:=t) (e:=e) (FA (hj y hy));omega) (hks y (hj y hy))) 0 [] Θ [] Θ [] kd Θ Θ _ 0 [] rfl (by omega) (by simp);rw[κ,AvV]at this;exact this
  refine Aq Kq AeZ (e83 ..) ?_;rw[Br]
  by_cases h0:kd=0
  .rw[Ac h0]
   refine Aw ?_ h0;exact Aa (R8 Kq U) rfl
  refine Ap ?_ h0;rw[Ad h0]
  by_cases h2:kd=2
  .rw[Ac h2]
   refine Aw ?_ h2;have ga:=PZ Kt Kh Kq F (ht h2) hn hk e;obtain⟨ps,kz⟩:=t;exact Aa ga rfl
  refine Ap ?_ h2;rw[Ad h2];rw[I2,eF,B2]at gk;rw[I2]at gl hkl;rw[B2]
  by_cases h3:kd=3
  .rw[Ac h3,Nx]
   rw[Ad (by omega),Ac h3]at gk gl;have gl:=gl (ks.take 1) (λy hy=>hy) (by rw[Av6];omega);refine Aw ?_ h3;refine Aa gk ?_;simp only[Ae];refine Aa gl ?_;simp only[Ae,Nk];rw[AK C6 _ (by omega)];refine Af ?_;rw[By C6 _ rfl,h3,kF,eF,B2];rfl
  rw[Ad h3];refine Ap ?_ h3
  by_cases h45:kd=4\/kd=5
  .rw[Ac h45,Gp]
   rw[Ac h45]at gk gl hkl;have gl:=gl ks (λy hy=>hy) hkl;have fin:V ((.agg [iv kd,.ls [],bv Θ,.ls [],bv Θ,.ls ((ks.map Br).map eF)],[]):AV × List BO)=V (.agg (eF (kF kd (ks.map Br))),[]):=by
    rw[kF,eF,B2];rfl
   rcases h45 with h4|h5
   .refine Aw ?_ h4
    refine Aa gk ?_;simp only[Ae];refine Aa gl ?_;simp only[Ae,Nk];rw[AK C6 _ (by omega)];refine Af ?_;rw[By C6 _ rfl];exact fin
   .refine Ap ?_
    refine Aw ?_ h5;refine Aa gk ?_;simp only[Ae];refine Aa gl ?_;simp only[Ae,Nk];rw[AK C6 _ (by omega)];refine Af ?_;rw[By C6 _ rfl];exact fin
  .rw[Ad h45]
   refine Ap ?_;refine Ap ?_;exact Aa (R8 Kq Θ) rfl
end
def Aku(r0:Rw)(r1:Bool)(r2:Rw):Option Lf->AV × List BO
 |none=>(.tup [bv U,.ptr 0 0,bv Θ],[.set ⟨[.ls [],bv Θ,.ls []],U,Θ⟩,.del,.del])
 |some l=>(.tup [iv 0,.ptr 0 0,.ptr 1 0],[.set ⟨[.ls r0,bv r1,.ls r2],U,Θ⟩,.set ⟨[.sl 3 0 (l.ps.map BD).length 3,bv (A3 l.k).neg,eN (A3 l.k).abs],U,Θ⟩,.del,.set (Fo (l.ps.map BD))])
section
variable {D:Orc} (K:Knows Ak YE D) (F:RF D) (Kra:Knows Ak Wo D)
include K F Kra
theorem AgD(vars:List ByteArray)(hvl:vars.length<4611686018427387904)(ms:List Mo)(hl:ms.length<=64)(r0:Rw)(r1:Bool)(r2:Rw):∀(k i:Nat) (out:Lf),ms.length-i=k->i<=ms.length->OutB i out->
  D.ask (.lp 256 0) [.ls (ms.map C4),.ls (vars.map eS),.ptr 0 0,.ptr 1 0,iv (i:Int)] [⟨[.ls r0,bv r1,.ls r2],U,Θ⟩,⟨[.sl 2 0 (out.ps.map BD).length 3,bv (A3 out.k).neg,eN (A3 out.k).abs],U,Θ⟩,Fo (out.ps.map BD)]=V (Aku r0 r1 r2 (EA vars (ms.drop i) out)):=by
 intro k
 induction k with
 |zero=>
  intro i out hm hi ho;rw[ο (by omega),EA];refine Ax K Vc (Ad8 ..) ?_;rw[Aj];exact Am rfl
 |succ k ih=>
  intro i out hm hi ho;have h1:i<ms.length:=by omega
  have hol:(out.ps.map BD).length<=i:=by have:=ho.len;simpa using this
  have hn1:∀ kk,A4 (ms.map C4) i kk=kk (C4 ms[i]):=λkk=>Az (Ω h1) kk
  obtain⟨T,hT⟩:∃ T,T=EA vars (ms.drop i) out:=⟨_,rfl⟩;rw[←hT];have hsg:=Mh ms[i];have hoK:=ho.addK ms[i];have hoP:=λv=>ho.addP ms[i] v
  rw[ω h1,EA]at hT;refine Ax K Vc (Ad8 ..) ?_;rw[Aj];refine Ao ?_;revert hT hsg hoK hoP hn1;generalize ms[i]=m;obtain⟨mn,mu,mv⟩:=m;intro hn1 hT hsg hoK hoP;simp only[C4]at hn1;simp only at hT;have gp:=F.parse mu;have hz:=Tw mu;rw[VT mu]at gp hz;have go:=F.of_ 1 (by omega) (by omega);simp only[eZ,eN]at gp go;simp only[AA,hn1,Ae];refine Aa gp ?_;simp only[AA,hn1,Ae]
  by_cases hn:mu=Ag []
  case' pos=>
   refine CI hn ?_;have en:∀ b,Ob ⟨b,mu,mv⟩=1:=λb=>by unfold Ob;rw[Ac hn]
   refine Aa go ?_;simp only[AA,hn1,Ae];rcases mn.eq_false_or_eq_true with rfl|rfl
   case' inl=>
    have es:Ew ⟨U,mu,mv⟩=-1:=by unfold Ew;rw[en];rfl
    have gn:=F.neg (A3 1) ((InB.lz (k:=1) (by unfold InB;decide)).mono (by omega));rw[BU,←es]at gn;simp only[eZ,eN]at gn;refine Af ?_;refine Aa gn ?_;simp only[Ae]
   case' inr=>
    have es:Ew ⟨Θ,mu,mv⟩=1:=by unfold Ew;rw[en];rfl
    refine Bm ?_;rw[show A3 1=A3 (Ew ⟨Θ,mu,mv⟩) by rw[es]]
  case' neg=>
   refine(Dt hn).trans ?_;have en:∀ b,Ob ⟨b,mu,mv⟩=zv (E5 mu).1:=λb=>by unfold Ob;rw[Ad hn]
   rcases mn.eq_false_or_eq_true with rfl|rfl
   case' inl=>
    have es:Ew ⟨U,mu,mv⟩=-zv (E5 mu).1:=by unfold Ew;rw[en];rfl
    have gn:=F.neg (A3 (zv (E5 mu).1)) (hz.mono (by omega));rw[BU,←es]at gn;simp only[eZ,eN]at gn;refine Af ?_;refine Aa gn ?_;simp only[Ae]
   case' inr=>
    have es:Ew ⟨Θ,mu,mv⟩=zv (E5 mu).1:=by unfold Ew;rw[en];rfl
    refine Bm ?_;rw[show A3 (zv (E5 mu).1)=A3 (Ew ⟨Θ,mu,mv⟩) by rw[es]]
  all_goals
   clear hn en es;generalize Ew ⟨_,mu,mv⟩=w at hT hsg hoK hoP ⊢
   by_cases hv:mv=Ag []
   .rw[Ac hv]at hT
    have ga:=F.add (A3 out.k) (A3 w) (ho.k.lz.mono (by omega)) (hsg.lz.mono (by omega));rw[BU,BU]at ga;simp only[eZ,eN]at ga;refine CI hv ?_;refine Aa ga ?_;simp only[Ae];rw[Bn (by omega)];refine Aa (ih (i+1) _ (by omega) (by omega) hoK) ?_;rw[←hT];clear hT
    cases T<;>rfl
   .rw[Ad hv]at hT
    refine(Dt hv).trans ?_;refine Aa (R1 Kra vars hvl mv) ?_;simp only[Ae]
    cases ev:vars.findIdx? (mv = ·) with
    |none=>
     rw[ev]at hT;have hT:T=Δ:=hT;rw[hT];refine Ao ?_ (show (-1:Int)<0 by omega);rfl
    |some v=>
     rw[ev]at hT;have hT:T=EA vars (ms.drop (i+1)) ⟨out.ps++[((v:Int),w)],out.k⟩:=hT;have hlt:=(AwL.1 ev).1;refine Am ?_ (show ¬ ((v:Nat):Int)<0 by omega);have hf:AU ((out.ps.map BD).length+1) 40=U:=AL (by omega) (by omega);have hb1:AvL (0+(out.ps.map BD).length*3) (Av eP (out.ps.map BD)).length=U:=AK AE _ (by omega);have e3:AvI 0 (AvG (0+(out.ps.map BD).length*3) (Av eP (out.ps.map BD)))++[iv (v:Int),bv (A3 w).neg,eN (A3 w).abs]=Av eP ((out.ps++[((v:Int),(w:Int))]).map BD):=by
      rw[κ,A0 AE _ (by omega),AyI];exact AW eP (out.ps.map BD) (BD ((v:Int),w))
     simp only[eN]at e3;rw[hf];refine Af ?_;rw[hb1];refine Af ?_;simp only[Dr];rw[e3,Bn (by omega)];have ih2:=ih (i+1) _ (by omega) (by omega) (hoP (v:Int));rw[show ((out.ps++[((v:Int),(w:Int))]).map BD).length=(out.ps.map BD).length+1 by simp]at ih2;refine Aa ih2 ?_;rw[←hT];clear hT
     cases T<;>rfl
variable (Ks:Knows Ak Ni D) (L:RLexN D) (Kt:Knows Ak Mn D) (Kh:Knows Ak NW D) (Kq:Knows Ak Qs D)
include Ks L Kt Kh
theorem Wb(vars:List ByteArray)(hvl:vars.length<4611686018427387904){ms:List Mo}(h:Ji ms=U) :
  D.ask (.fn 256) [.ls (ms.map C4),.ls (vars.map eS)] []=V (.tup [.agg (eT (CX vars ms).1.tm),bv (CX vars ms).2],[]):=by
 have w:=Fh h;have gr:=Me Ks L ms w.2 w.1;have e0:eT Nq.tm=[.ls [],bv Θ,.ls []]:=by rw[Ti];rfl
 have hlen:=(Da h).2.1;have gl:=AgD K F Kra vars hvl ms hlen [] Θ [] _ 0 Nq rfl (by omega) VS;rw[κ,show A3 Nq.k=⟨Θ,[]⟩ from QE]at gl;refine Aq K Vc (At1 ..) ?_;refine Aa gr ?_;simp only[Ae];unfold CX;rw[h,Ac rfl];refine Af ?_;refine Aa gl ?_
 cases e:EA vars ms Nq with
 |none=>
  simp only;rw[e0];rfl
 |some l=>
  have ob:=F9 vars ms 0 Nq l VS e;have hT:TmB 64 4064 l.tm:=LB.tb ⟨by have:=ob.len;omega,λp hp=>(ob.ps p hp).mono (by omega),ob.k.mono (by omega)⟩;have gp:=JJ Kt Kh F hT (by omega) (by omega);rw[C5]at gp;simp only[Aku,Ae]
  change br _ _ _=_
  rw[show AvL (0+(l.ps.map BD).length*3) (Av eP (l.ps.map BD)).length=U from AK AE _ (by omega)];refine Af ?_;rw[By AE _ rfl];simp only[eT,eN,Lf.tm]at gp ⊢;refine Aa gp ?_;rfl
omit K Kra Ks L Kh Kt in
theorem ArV:D.ask (.fn 119) [iv 1] []=V (.agg (eZ (A3 1)),[]):=F.of_ 1 (by omega) (by omega)
include Kq
omit Kra Ks L in
theorem Agj{l r:Tm}(hl:TmB 64 5000 l)(hr:TmB 64 5000 r){op:Int}(h1:0<=op)(h2:op<=5):D.ask (.fn 257) [iv op,.agg (eT l),.agg (eT r)] []=V (.agg (eF (MH op l.lf r.lf)),[]):=by
 have g1:=ArV F;have g2:=Yq Kt F (z:=A3 1) ((InB.lz (k:=1) (by unfold InB;decide)).mono (by omega));rw[BU]at g2;have s1:∀{a b:Tm},TmB 64 5000 a->TmB 64 5000 b->D.ask (.fn 272) [.agg (eT a),.agg (eT b)] []=V (.agg (eT (a.lf.sub b.lf).tm),[]):=λha hb=>Aah Kt Kh F ha hb (by omega) (by omega)
 have b1:∀{a b:Tm},TmB 64 5000 a->TmB 64 5000 b->LB 128 11000 (a.lf.sub b.lf):=λha hb=>(ha.lb.sub hb.lb).mono (by omega) (by omega)
 have z1:∀{a b:Tm},TmB 64 5000 a->TmB 64 5000 b->∀ e:Bool,D.ask (.fn 143) [.agg (eT (a.lf.sub b.lf).tm++[bv e])] []=V (.agg (eF (D3 (a.lf.sub b.lf) e)),[]):=λha hb e=>by
  have:=PZ Kt Kh Kq F (b1 ha hb).tb (by omega) (by omega) e
  rwa [C5,Dx]at this
 have n1:=(LL.mono (η 0) (show 1<=11000 by omega)).tb;have s2:∀{a b:Tm},TmB 64 5000 a->TmB 64 5000 b->D.ask (.fn 272) [.agg (eT (a.lf.sub b.lf).tm),.agg (eT (Lf.num 1).tm)] []=V (.agg (eT ((a.lf.sub b.lf).sub (.num 1)).tm),[]):=λha hb=>by
  have:=Aah Kt Kh F (b1 ha hb).tb n1 (by omega) (by omega)
  rwa [C5,C5]at this
 have z2:∀{a b:Tm},TmB 64 5000 a->TmB 64 5000 b->∀ e:Bool,D.ask (.fn 143) [.agg (eT ((a.lf.sub b.lf).sub (.num 1)).tm++[bv e])] []=V (.agg (eF (D3 ((a.lf.sub b.lf).sub (.num 1)) e)),[]):=λ{a b} ha hb e=>by
  have b2:LB 128 30000 ((a.lf.sub b.lf).sub (.num 1)):=((b1 ha hb).sub (LL.mono (η 0) (show 1<=11000 by omega))).mono (by omega) (by omega);have:=PZ Kt Kh Kq F b2.tb (by omega) (by omega) e
  rwa [C5,Dx]at this
 have up:=s1 hl hr;have dn:=s1 hr hl;have up2:=s2 hl hr;have dn2:=s2 hr hl;have au:=z1 hl hr;have ad:=z1 hr hl;have au2:=z2 hl hr;have ad2:=z2 hr hl;unfold MH;generalize (l.lf.sub r.lf).sub (.num 1)=u2 at *;generalize (r.lf.sub l.lf).sub (.num 1)=d2 at *;generalize l.lf.sub r.lf=u at *;generalize r.lf.sub l.lf=d at *;obtain⟨lp,lk⟩:=l;obtain⟨rp,rk⟩:=r;have e:∀(x:Lf) (b:Bool),eF (D3 x b)=[iv 2,.ls (x.tm.ps.map eP),bv x.tm.k.neg,eN x.tm.k.abs,bv b,.ls []]:=λx b=>rfl
 simp only[eT,eN,eZ,e,List.cons_append,AvV]at g1 g2 up dn up2 dn2 au ad au2 ad2 ⊢;refine Aq K AlM (At2 ..) ?_;refine Aa g1 ?_;simp only[Ae];refine Aa g2 ?_;simp only[Ae];refine Aa up ?_;simp only[Ae];refine Aa dn ?_;simp only[Ae]
 by_cases h:op=0
 .rw[Ac h]
  refine Aw ?_ h;refine Aa (au U) ?_;rfl
 rw[Ad h];refine Ap ?_ h
 by_cases h:op=1
 .rw[Ac h]
  refine Aw ?_ h;refine Aa (au U) ?_;rfl
 rw[Ad h];refine Ap ?_ h
 by_cases h:op=2
 .rw[Ac h]
  refine Aw ?_ h;refine Aa dn2 ?_;simp only[Ae];refine Aa (ad2 Θ) ?_;rfl
 rw[Ad h];refine Ap ?_ h
 by_cases h:op=3
 .rw[Ac h]
  refine Aw ?_ h;refine Aa (ad Θ) ?_;rfl
 rw[Ad h];refine Ap ?_ h
 by_cases h:op=4
 .rw[Ac h]
  refine Aw ?_ h;refine Aa up2 ?_;simp only[Ae];refine Aa (au2 Θ) ?_;rfl
 rw[Ad h];refine Ap ?_ h;have h:op=5:=by omega
 rw[Ac h];refine Aw ?_ h;refine Aa (au Θ) ?_;rfl
include Kra Ks L
theorem AbT(vars:List ByteArray)(hvl:vars.length<4611686018427387904){l r:List Mo}{op:Int}(hl:Ji l=U)(hr:Ji r=U)(h1:0<=op)(h2:op<=5):D.ask (.fn 193) [.agg (BH (.mk 2 l r op (Ag []) (Ag []) [])),.ls (vars.map eS)] []=V (.tup [.agg (eF (Ex vars (.mk 2 l r op (Ag []) (Ag []) [])).1),bv (Ex vars (.mk 2 l r op (Ag []) (Ag []) [])).2],[]):=by
 have wl:=Fh hl;have wr:=Fh hr;have gr:=Qg Ks L (l:=l) (r:=r) (op:=op) (p:=Ag []) (q:=Ag []) (ks:=[]) (.mk wl.1 wr.1 (by simp) wl.2 wr.2 (by simp)) 0;have hc:Ec (.mk 2 l r op (Ag []) (Ag []) [])=U:=by
  unfold Ec;simp[hl,hr,h1,h2]
 have hb:BJ (.mk 2 l r op (Ag []) (Ag []) []) 0=U:=by
  rw[BJ,Ac rfl];exact hc
 rw[hc]at gr;have g1:=Wb K F Kra Ks L Kt Kh vars hvl hl;have g2:=Wb K F Kra Ks L Kt Kh vars hvl hr;have gc:=Agj K F Kt Kh Kq (Hj vars l).tb (Hj vars r).tb h1 h2;rw[C5,C5]at gc;unfold Ex;rw[hb,AvR,Dv,Ac rfl];have gf:D.ask (.fn 234) [.agg (BH (.mk 2 l r op (Ag []) (Ag []) [])),.ls (vars.map eS)] []=V (.tup [.agg (eF (MH op (CX vars l).1 (CX vars r).1)),bv ((CX vars l).2&&(CX vars r).2)],[]):=by
  simp only[BH,KD];generalize MH op (CX vars l).1 (CX vars r).1=f at gc ⊢;obtain⟨fk,ft,fe,fs⟩:=f;simp only[eT,eF,eN]at g1 g2 gc ⊢;refine Aq K AlH (AtR ..) ?_;refine Aw ?_ rfl;refine Aa g1 ?_;simp only[Ae];refine Aa g2 ?_;simp only[Ae];refine Aa gc ?_;simp only[Ae]
  cases (CX vars l).2<;>cases (CX vars r).2<;>rfl
 generalize MH op (CX vars l).1 (CX vars r).1=f at gf ⊢;generalize ((CX vars l).2&&(CX vars r).2)=b at gf ⊢;obtain⟨fk,ft,fe,fs⟩:=f;simp only[BH,KD,eF,eN]at gr gf ⊢;refine Aq K Alt (Atr ..) ?_;refine Aa gr ?_;simp only[Ae];refine Aa gf ?_
 cases b with
 |true=>
  simp only[if_true,eF,eN];rfl
 |false=>rfl
end
section
open Go.RowKit
structure ResR (D:Orc):Prop where
 form:∀(vars:List ByteArray) {l r:List Mo} {op:Int},vars.length<4611686018427387904->Ji l=U->Ji r=U->0<=op->op<=5->D.ask (.fn 193) [.agg (BH (.mk 2 l r op (Ag []) (Ag []) [])),.ls (vars.map eS)] []=V (.tup [.agg (eF (Ex vars (.mk 2 l r op (Ag []) (Ag []) [])).1),bv (Ex vars (.mk 2 l r op (Ag []) (Ag []) [])).2],[])
 same:∀ p q:Pp,PpOk p->PpOk q->D.ask (.fn 41) [.agg (EE p),.agg (EE q)] []=V (bv (DI p q),[])
 place:∀(xs:List ByteArray) (s:ByteArray),xs.length<4611686018427387904->D.ask (.fn 121) [.ls (xs.map eS),sv s] []=V (iv (Dr (xs.findIdx? (s = ·))),[])
 right:∀ t:Tr,WzT t->WzP t->D.ask (.fn 37) [.agg (BH t),iv 0] []=V (bv (AO t 0),[])
def nV:AV:=.v (.slice Δ 0 0)
mutual
def eH:Rf->Ab
 |.mk k n ks=>[iv k,iv n,if k=2 then nV else .ls (eHs ks)]
def eHs:List Rf->Rw
 |[]=>[]
 |x::r=>eH x::eHs r
end
theorem Y6:∀ l,eHs l=l.map eH
 |[]=>rfl
 |x::r=>by simp[eHs,Y6 r]
theorem S1(x:Rf):(eH x).length=3:=by
 obtain⟨k,n,ks⟩:=x;rw[eH];rfl
theorem Ys{p q:Pp}(hp:PpOk p)(hq:PpOk q):DI p q=DI q p:=by
 rw[Bool.eq_iff_iff,Nb hp.can hq.can,Nb hq.can hp.can];exact eq_comm
def UF(n:Nat)(a b:Int)(y:Rw)(row:Ab)(p:Pp)(i:Nat):Option Nat->AV × List BO
 |some j=>(.tup [bv U,.ptr 1 0,.sl 3 0 n 9,bv U],[.del,.set (bk [iv 2,iv ((i+j:Nat):Int),nV]),.del,.set (Ψ row U U)])
 |none=>(.tup [iv 0,.sl 0 0 n 9,.ptr 1 0,.ptr 2 0],[.set (Ψ row U U),.set (bk [iv a,iv b,.ls y]),.set (bk (EE p))])
section
variable {D:Orc} (K:Knows Ei TW D) (R:ResR D)
include K
theorem AbN(y:Sy)(hp:y.ps.length<=1000000)(s:ByteArray):∀(k i:Nat),y.ps.length-i=k->D.ask (.lp 192 0) [sv s,.ptr 0 0,iv (i:Int)] [bk (Gj y)]=V (Ek i (((y.ps.drop i).map (·.name)).findIdx? (s = ·)),[.del]):=by
 intro k
 induction k with
 |zero=>
  intro i hi;refine Ax K Ph (Y4 ..) ?_;rw[show y.ps.drop i=[] from ο (by omega),Aj];refine Am ?_;rfl
 |succ k ih=>
  intro i hi;have hlt:i<y.ps.length:=by omega
  have ih':=ih (i+1) (by omega);rw[show y.ps.drop i=y.ps[i]::y.ps.drop (i+1) from ω hlt,AvT,AxG];refine Ax K Ph (Y4 ..) ?_;rw[Aj];refine Ao ?_;rw[AA,Az (Ω hlt)];simp only[O3,Ae]
  by_cases h:s=y.ps[i].name
  .refine CI h.symm ?_
   rw[Ac (by simpa using h)];rfl
  .refine(Dt (λe=>h e.symm)).trans ?_
   rw[Ad (by simpa using h),Bn (by omega)];refine Aa ih' ?_
   cases ((y.ps.drop (i+1)).map (·.name)).findIdx? (s = ·) with
   |none=>rfl
   |some j=>
    simp only[Ek,AvP,show i+(j+1)=i+1+j by omega];rfl
theorem AbO(y:Sy)(hp:y.ps.length<=1000000)(s:ByteArray):D.ask (.fn 192) [.agg (Gj y),sv s] []=V (iv (Dr ((y.ps.map (·.name)).findIdx? (s = ·))),[]):=by
 refine Aq K Ph (Aqd ..) ?_;refine Aa (AbN K y hp s _ 0 rfl) ?_;rw[κ]
 cases (y.ps.map (·.name)).findIdx? (s = ·) with
 |none=>rfl
 |some j=>simp only[Ek,Ae,AvW];all_goals rfl
include R
theorem AbK{y:Sy}(B:SyB y){t:Tr}{d:Nat}(h:AO t d=U)(hk:t.kind=2\/t.kind=6):D.ask (.fn 131) [.agg (BH t),.agg (Gj y)] []=V (.tup [.agg (EE (Dd y t).1),bv (Dd y t).2],[]):=by
 cases FE h with
 |tt=>exact absurd hk (by simp[Tr.kind])
 |ff=>exact absurd hk (by simp[Tr.kind])
 |@one _ k x hk1 _ _=>
  have:=DC k;have hk:k=2\/k=6:=hk;omega
 |@two _ k x y hk1 _ _ _ _=>
  have:=DC k;have hk:k=2\/k=6:=hk;omega
 |@cmp _ l r op hl hr h1 h2=>
  have gf:=R.form y.vars B.vars hl hr h1 h2;rw[Dd,Ad (by decide)];generalize Ex y.vars (.mk 2 l r op (Ag []) (Ag []) [])=q at gf ⊢;obtain⟨⟨fk,ft,fe,fs⟩,b⟩:=q;rw[Cm];simp only[BH,KD,eF,eN]at gf ⊢;refine Aq K XJ (Akw ..) ?_;refine Ap ?_ (by decide);refine Aa gf ?_;rfl
 |@«at» _ p q hp hq=>
  have gp:=AbO K y B.ps p;have gl:∀(i:Nat) (hi:i<y.ps.length),D.ask (.fn 121) [.ls (y.ps[i].locs.map eS),sv q] []=V (iv (Dr (y.ps[i].locs.findIdx? (q = ·))),[]):=λi hi=>R.place _ q (B.locs _ (AvN hi))
  rw[Dd,Ac rfl];unfold FX;simp only[BH,KD];refine Aq K XJ (Akw ..) ?_;refine Aw ?_ rfl;refine Aa gp ?_;simp only[Ae]
  cases e:(y.ps.map (·.name)).findIdx? (p = ·) with
  |none=>
   refine Ao ?_ (by show (-1:Int)<0;decide);rfl
  |some i=>
   have hlt:=(AwL.1 e).1;rw[List.length_map]at hlt;have gl:=gl i hlt;refine Am ?_ (by show ¬ (i:Int)<0;omega);have eg:y.ps[i]? = V y.ps[i]:=Ω hlt;have e0:Dr (V i)=(i:Int):=rfl;simp only[eg,AvP,Option.getD_some,e0];rw[AA,Az eg];simp only[O3,Ae];refine Aa gl ?_;simp only[Ae]
   by_cases h0:0<=Dr (y.ps[i].locs.findIdx? (q = ·))
   .refine CL ?_ h0
    rw[Ba h0];rfl
   .refine C7 ?_ h0
    rw[Bu h0];rfl
theorem AbL{ps:List Pp}(hl:ps.length<=1000000)(hps:∀ x∈ps,PpOk x){p:Pp}(hp:PpOk p)(a b:Int)(y:Rw):∀(m i:Nat),ps.length-i=m->D.ask (.lp 73 0) [.sl 0 0 ps.length 9,.ptr 1 0,.ptr 2 0,iv (i:Int)] [Gg ps,bk [iv a,iv b,.ls y],bk (EE p)]=V (UF ps.length a b y (Av EE ps) p i ((ps.drop i).findIdx? (DI p))):=by
 intro m
 induction m with
 |zero=>
  intro i hi;rw[ο (by omega)];obtain⟨a1,a2,a3,k,t,e,ks⟩:=p;simp only[List.findIdx?_nil,UF,Cm,eN,Gg];refine Ax K Iz (Aej ..) ?_;exact Am rfl
 |succ m ih=>
  intro i hi;have hlt:i<ps.length:=by omega
  have ih:=ih (i+1) (by omega);have hx:=hps ps[i] (AvN hlt);have gs:=R.same ps[i] p hx hp;rw[Ys hx hp]at gs;rw[ω hlt,AxG];have hr:∀ kk,Gf (Av EE ps) (0+i*9) 9 kk=kk (EE ps[i]):=λkk=>BC Ed ps i hlt kk
  clear hx;revert gs hr;generalize ps[i]=x;intro gs hr;obtain⟨b1,b2,b3,k',t',e',ks'⟩:=x;obtain⟨a1,a2,a3,k,t,e,ks⟩:=p;unfold Gg at *;simp only[Cm,eN]at gs hr ih ⊢;refine Ax K Iz (Aej ..) ?_;refine Ao ?_;rw[AA];rw[show Nat.blt i ps.length=U from Nat.blt_eq.mpr hlt];refine Af ?_;rw[hr];simp only[Ae];refine Aa gs ?_;simp only[Ae];generalize DI ⟨a1,a2,a3,.mk k t e ks⟩ ⟨b1,b2,b3,.mk k' t' e' ks'⟩=z
  cases z with
  |true=>
   refine Af ?_;rw[Ac rfl];rfl
  |false=>
   refine Bm ?_;rw[Ad Aw4,Bn (by omega)];refine Aa ih ?_
   cases (ps.drop (i+1)).findIdx? (DI ⟨a1,a2,a3,.mk k t e ks⟩) with
   |none=>
    simp only[UF,Cm,eN,Axw];rfl
   |some j=>
    simp only[UF,AvP,show i+(j+1)=i+1+j by omega];rfl
omit K R in
def R4a(D:Orc)(y:Sy)(t:Tr)(ps:List Pp):Prop:=match (C2 y t ps).1 with
 |some f=>D.ask (.fn 73) [.agg (BH t),.agg (Gj y),.sl 0 0 ps.length 9] [Gg ps]=V (.tup [.agg (eH f),.sl 1 0 (C2 y t ps).2.length 9,bv U],[.del,.set (Gg (C2 y t ps).2)])/\((t.kind=2\/t.kind=6)->∃ n,f=.mk 2 n [])/\(¬ (t.kind=2\/t.kind=6)->∃ k n fs,f=.mk k n fs/\k≠2)
 |none=>∃ o,(o=BO.keep\/o=BO.del)/\D.ask (.fn 73) [.agg (BH t),.agg (Gj y),.sl 0 0 ps.length 9] [Gg ps]=V (.tup [.agg [iv 0,iv 0,nV],nV,bv Θ],[o])
omit K R in
def R4l(D:Orc)(y:Sy)(T:Ab)(ks:List Tr)(i:Nat)(a b:Int)(w:Rw)(k0 k1:Int)(ps:List Pp)(out:List Rf):Prop:=match (CJ y (ks.drop i) ps).1 with
 |some fs=>∃ o,(o=BO.del\/∃ cs,o=BO.set (Ψ cs Θ U))/\D.ask (.lp 73 1) [.sl 0 0 ps.length 9,.ptr 1 0,.ptr 2 0,.ptr 3 0,.ptr 4 0,iv (i:Int)] [Gg ps,bk T,bk (Gj y),bk [iv a,iv b,.ls w],bk [iv k0,iv k1,.sl 5 0 out.length 3],Ψ (Av eH out) U U]=V (.tup [iv 2,.sl 6 0 (CJ y (ks.drop i) ps).2.length 9,.ptr 3 0,.ptr 4 0],[.del,.del,.del,.set (bk [iv a,iv b,.ls w]),.set (bk [iv k0,iv k1,.ls ((out++fs).map eH)]),o,.set (Gg (CJ y (ks.drop i) ps).2)])
 |none=>∃ o,(o=BO.keep\/o=BO.del)/\D.ask (.lp 73 1) [.sl 0 0 ps.length 9,.ptr 1 0,.ptr 2 0,.ptr 3 0,.ptr 4 0,iv (i:Int)] [Gg ps,bk T,bk (Gj y),bk [iv a,iv b,.ls w],bk [iv k0,iv k1,.sl 5 0 out.length 3],Ψ (Av eH out) U U]=V (.tup [bv U,.ptr 3 0,nV,bv Θ],[o,.del,.del,.set (bk [iv 0,iv 0,nV]),.del,.del])
omit R in
theorem AbM{y:Sy}(k:Int)(l r:List Mo)(op:Int)(p q:ByteArray)(ks:List Tr)(hk:ks.length<=1000000)(a b:Int)(w:Rw)(k0 k1:Int)(g:∀ x∈ks,∀ ps:List Pp,(∀ p∈ps,PpOk p)->ps.length+E2 x<=1000000->R4a D y x ps):∀(m i:Nat) (ps:List Pp) (out:List Rf),ks.length-i=m->i<=ks.length->out.length<=i->(∀ p∈ps,PpOk p)->ps.length+Gz (ks.drop i)<=1000000->
  R4l D y [iv k,.ls (l.map C4),.ls (r.map C4),iv op,sv p,sv q,.ls (ks.map BH)] ks i a b w k0 k1 ps out:=by
 intro m
 induction m with
 |zero=>
  intro i ps out hm hi ho hp hn;have hb1:AvL (0+out.length*3) (Av eH out).length=U:=AK S1 out (by omega);unfold R4l;rw[ο (by omega),CJ];simp only[Awc];unfold Gg;rw[show Gj y=[.ls (y.vars.map eS),.ls y.s2,iv y.s3,.ls y.s4,bv y.s5,.ls y.s6,bv y.s7,.ls y.s8,.ls (y.ps.map O3),.ls y.s10] from rfl];refine⟨_,.inr ⟨Av eH out,rfl⟩,K.lp' Iz _ rfl (by kernel_rfl) ((Xs ..).trans ?_)⟩;rw[Aj];refine Am ?_;rw[hb1];refine Af ?_;rw[By S1 out rfl]
 |succ m ih=>
  intro i ps out hm hi ho hp hn;have h1:i<ks.length:=by omega
  rw[ω h1,Gz]at hn;have gx:=g ks[i] (AvN h1) ps hp (by omega);have gq:=He y ks[i] ps hp;have hf:AU (out.length+1) 40=U:=AL (by omega) (by omega);have hb1:AvL (0+out.length*3) (Av eH out).length=U:=AK S1 out (by omega);have ih:=λf=>ih (i+1) (C2 y ks[i] ps).2 (out++[f]) (by omega) (by omega) (by simp;omega) gq.2 (by omega)
  have hn1:∀ kk,A4 (ks.map BH) i kk=kk (BH ks[i]):=λkk=>Az (Ω h1) kk
  unfold R4l at ih ⊢;rw[ω h1,Ii];unfold R4a at gx;clear gq hn g;revert gx ih hn1;generalize C2 y ks[i] ps=Q;generalize ks[i]=x;intro gx ih hn1;obtain⟨o,qs⟩:=Q;obtain⟨xk,xl,xr,xo,xp,xq,xs⟩:=x;unfold Gg Tr.kind at *;rw[show Gj y=[.ls (y.vars.map eS),.ls y.s2,iv y.s3,.ls y.s4,bv y.s5,.ls y.s6,bv y.s7,.ls y.s8,.ls (y.ps.map O3),.ls y.s10] from rfl]at *;simp only[BH]at gx hn1;dsimp only at gx ih ⊢
  cases o with
  |none=>
   dsimp only at gx ⊢;obtain⟨o,ho,gx⟩:=gx;rcases ho with rfl|rfl
   .refine⟨_,.inl rfl,K.lp' AeU _ rfl (by kernel_rfl) ((Ah8 ..).trans ?_)⟩
    rw[Aj];refine Ao ?_;rw[AA,hn1];simp only[Ae];refine Aa gx ?_;rfl
   .refine⟨_,.inr rfl,K.lp' AeV _ rfl (by kernel_rfl) ((Ah9 ..).trans ?_)⟩
    rw[Aj];refine Ao ?_;rw[AA,hn1];simp only[Ae];refine Aa gx ?_;rfl
  |some f=>
   dsimp only at gx ⊢;have ih:=ih f;have e3:AvI 0 (AvG (0+out.length*3) (Av eH out))++eH f=Av eH (out++[f]):=by
    rw[κ,A0 S1 out (by omega)];exact AW eH out _
   rw[show (out++[f]).length=out.length+1 by simp]at ih;revert ih;generalize CJ y (ks.drop (i+1)) qs=Z;obtain⟨zo,zs⟩:=Z;intro ih;dsimp only at ih ⊢;obtain⟨gx,g2,g3⟩:=gx
   by_cases hk2:xk=2\/xk=6
   .obtain⟨n,rfl⟩:=g2 hk2
    rw[eH,Ac rfl]at gx e3
    cases zo with
    |none=>
     obtain⟨o,ho,ih⟩:=ih;refine⟨.del,.inr rfl,K.lp' Iz _ rfl (by kernel_rfl) ((Xs ..).trans ?_)⟩;rw[Aj];refine Ao ?_;rw[AA,hn1];simp only[Ae];refine Aa gx ?_;simp only[nV,Ae]at e3 ⊢;simp only[LX,AxE,QO,hf,hb1,Ll];rw[Bn (by omega)];rw[e3];refine Aa ih ?_;rcases ho with rfl|rfl<;>rfl
    |some fs=>
     dsimp only[AvP]at ih ⊢;obtain⟨o,ho,ih⟩:=ih;rw[AvO,Awu]at ih;refine⟨_,.inl rfl,K.lp' Iz _ rfl (by kernel_rfl) ((Xs ..).trans ?_)⟩;rw[Aj];refine Ao ?_;rw[AA,hn1];simp only[Ae];refine Aa gx ?_;simp only[nV,Ae]at e3 ⊢;simp only[LX,AxE,QO,hf,hb1,Ll];rw[Bn (by omega)];rw[e3];refine Aa ih ?_;rcases ho with rfl|⟨cs,rfl⟩<;>rfl
   .obtain⟨k',n,fs',rfl,hk'⟩:=g3 hk2
    rw[eH,Ad hk']at gx e3
    cases zo with
    |none=>
     obtain⟨o,ho,ih⟩:=ih;refine⟨.del,.inr rfl,K.lp' XK _ rfl (by kernel_rfl) ((Y5 ..).trans ?_)⟩;rw[Aj];refine Ao ?_;rw[AA,hn1];simp only[Ae];refine Aa gx ?_;simp only[Ae];simp only[LX,AxE,QO,hf,hb1,Ll];rw[Bn (by omega)];rw[e3];refine Aa ih ?_;rcases ho with rfl|rfl<;>rfl
    |some fs=>
     dsimp only[AvP]at ih ⊢;obtain⟨o,ho,ih⟩:=ih;rw[AvO,Awu]at ih;refine⟨_,.inl rfl,K.lp' XK _ rfl (by kernel_rfl) ((Y5 ..).trans ?_)⟩;rw[Aj];refine Ao ?_;rw[AA,hn1];simp only[Ae];refine Aa gx ?_;simp only[Ae];simp only[LX,AxE,QO,hf,hb1,Ll];rw[Bn (by omega)];rw[e3];refine Aa ih ?_;rcases ho with rfl|⟨cs,rfl⟩<;>rfl
omit K R in
theorem Px{t:Tr}{d:Nat}(h:AO t d=U):t.kids.length<=2/\∀ x∈t.kids,∃ d,AO x d=U:=by
 cases FE h with
 |tt=>exact⟨by simp[Tr.kids],by simp[Tr.kids]⟩
 |ff=>exact⟨by simp[Tr.kids],by simp[Tr.kids]⟩
 |cmp=>exact⟨by simp[Tr.kids],by simp[Tr.kids]⟩
 |«at»=>exact⟨by simp[Tr.kids],by simp[Tr.kids]⟩
 |one _ _ _ hx=>exact⟨by simp[Tr.kids],λy hy=>by rw[Awk.1 hy];exact⟨_,hx⟩⟩
 |two _ _ _ hx _ hy=>exact⟨by simp[Tr.kids],λy hm=>by
   rcases AvK.1 hm with rfl|hm
   .exact⟨_,hx⟩
   .rw[Awk.1 hm];exact⟨_,hy⟩⟩
theorem Agd{y:Sy}(B:SyB y):∀(N:Nat) (t:Tr) (d:Nat),SizeOf.sizeOf t<N->AO t d=U->∀ ps:List Pp,(∀ p∈ps,PpOk p)->ps.length+E2 t<=1000000->R4a D y t ps:=by
 intro N
 induction N with
 |zero=>intro t d h;omega
 |succ N ih=>
  intro t d hN hr ps hp hn;have hkr:=Px hr;have gatom:=λh=>AbK K R B hr h
  have gfind:=AbL K R (show ps.length<=1000000 by omega) hp (OP y t) 0 0 [] _ 0 rfl;obtain⟨k,l,r,op,p,q,ks⟩:=t;unfold R4a;rw[Mc];unfold Tr.kind at gatom ⊢
  by_cases h2:k=2\/k=6
  .have gatom:=gatom h2
   rw[Ac h2];have hf:AU (ps.length+1) 120=U:=AL (by rw[E2]at hn;omega) (by omega);have hb1:AvL (0+ps.length*9) (Av EE ps).length=U:=AK Ed ps (by omega);revert gatom gfind;generalize Dd y (.mk k l r op p q ks)=A;obtain⟨P,z⟩:=A;intro gfind gatom;have e3:AvI 0 (AvG (0+ps.length*9) (Av EE ps))++EE P=Av EE (ps++[P]):=by
    rw[κ,A0 Ed ps (by omega)];exact AW EE ps _
   rw[κ]at gfind;dsimp only at gatom gfind ⊢;unfold AbE My;obtain⟨a1,a2,a3,fk,ft,fe,fs⟩:=P;unfold Gg at *;rw[show Gj y=[.ls (y.vars.map eS),.ls y.s2,iv y.s3,.ls y.s4,bv y.s5,.ls y.s6,bv y.s7,.ls y.s8,.ls (y.ps.map O3),.ls y.s10] from rfl]at *;simp only[Cm,eN,BH,B1]at gatom gfind e3 ⊢
   cases z with
   |false=>
    rw[Ad Aw4];refine⟨_,.inl rfl,?_⟩;refine Aq K Iz (Ah7 ..) ?_;rcases h2 with h2|h2
    .refine Aw ?_ h2
     refine Aa gatom ?_;rfl
    .refine Ap ?_
     refine Aw ?_ h2;refine Aa gatom ?_;rfl
   |true=>
    rw[Ac rfl];revert gfind;generalize ps.findIdx? (DI ⟨a1,a2,a3,.mk fk ft fe fs⟩)=o;intro gfind;refine⟨?_,λ_=>⟨_,rfl⟩,λh=>absurd h2 h⟩;rw[eH,Ac rfl];refine Aq K Iz (Ah7 ..) ?_;rcases h2 with h2|h2
    .refine Aw ?_ h2
     refine Aa gatom ?_;simp only[Ae];rw[LX,AxE];refine Bm ?_;refine Aa gfind ?_
     cases o with
     |some j=>
      simp only[UF,nV,Ae];rw[AvW];rfl
     |none=>
      simp only[UF,Cm,eN,nV,Ae];rw[hf];refine Af ?_;rw[hb1];refine Af ?_;rw[e3,ζ];rfl
    .refine Ap ?_
     refine Aw ?_ h2;refine Aa gatom ?_;simp only[Ae];rw[LX,AxE];refine Bm ?_;refine Aa gfind ?_
     cases o with
     |some j=>
      simp only[UF,nV,Ae];rw[AvW];rfl
     |none=>
      simp only[UF,Cm,eN,nV,Ae];rw[hf];refine Af ?_;rw[hb1];refine Af ?_;rw[e3,ζ];rfl
  .rw[Ad h2]
   have hl:=hkr.1;have hl:ks.length<=2:=hl;rw[E2]at hn;have gl:=AbM K (y:=y) k l r op p q ks (by omega) 0 0 [] k 0 (λx hx ps' hp' hn'=>by
    obtain⟨d',hd'⟩:=hkr.2 x hx;exact ih x d' (by have:=AxA hx;simp only[Tr.mk.sizeOf_spec]at hN;omega) hd' ps' hp' hn') _ 0 ps [] rfl (by omega) (by simp) hp (by rw[κ];omega)
   unfold R4l at gl;rw[κ]at gl;clear gatom gfind;revert gl;generalize CJ y ks ps=Z;obtain⟨zo,zs⟩:=Z;intro gl;unfold Gg at *;rw[show Gj y=[.ls (y.vars.map eS),.ls y.s2,iv y.s3,.ls y.s4,bv y.s5,.ls y.s6,bv y.s7,.ls y.s8,.ls (y.ps.map O3),.ls y.s10] from rfl]at *;simp only[BH,B1]
   cases zo with
   |none=>
    obtain⟨o,ho,gl⟩:=gl;rcases ho with rfl|rfl
    .refine⟨_,.inl rfl,?_⟩
     refine Aq K AeW (Aql ..) ?_;refine Ap ?_;refine Ap ?_;refine Aa gl ?_;rfl
    .refine⟨_,.inr rfl,?_⟩
     refine Aq K Iz (Ah7 ..) ?_;refine Ap ?_;refine Ap ?_;refine Aa gl ?_;rfl
   |some fs=>
    dsimp only[AvP]at gl ⊢;refine⟨?_,λh=>absurd h h2,λ_=>⟨k,0,fs,rfl,by omega⟩⟩;rw[eH,Ad (by omega),Y6];obtain⟨o,ho,gl⟩:=gl;rcases ho with rfl|⟨cs,rfl⟩
    .refine Aq K Iz (Ah7 ..) ?_
     refine Ap ?_;refine Ap ?_;refine Aa gl ?_;rfl
    .refine Aq K AeX (Aqm ..) ?_
     refine Ap ?_;refine Ap ?_;refine Aa gl ?_;rfl
end
def eHt:Rf->Ab
 |.mk k n ks=>[iv k,iv n,.ls (eHs ks)]
def Apl:Option (Rf × List Pp)->AV
 |some (f,ps)=>.tup [.agg (eHt f),.ls (ps.map EE),bv U]
 |none=>.tup [.agg [iv 0,iv 0,.ls []],.ls [],bv Θ]
section
variable {D:Orc} (K:Knows Ei TW D) (R:ResR D)
include K R
theorem SA{y:Sy}(B:SyB y)(t:Tr)(hz:WzT t)(hp:WzP t)(hn:E2 t<=1000000):D.ask (.fn 35) [.agg (BH t),.agg (Gj y)] []=V (Apl (II y t),[]):=by
 have gr:=R.right t hz hp;have gn:=λh=>Agd K R B _ t 0 (AvS _) h [] (by simp) (by simpa using hn)
 unfold II;unfold R4a at gn;revert gn;generalize hQ:C2 y t []=Q;have hlen:Q.2.length<=1000000:=by
  have:=(He y t [] (by simp)).1;rw[hQ]at this;simp at this;omega
 clear hQ;obtain⟨qo,qs⟩:=Q;intro gn;obtain⟨k,l,r,op,p,q,ks⟩:=t;unfold Tr.kind Gg at gn;rw[show Gj y=[.ls (y.vars.map eS),.ls y.s2,iv y.s3,.ls y.s4,bv y.s5,.ls y.s6,bv y.s7,.ls y.s8,.ls (y.ps.map O3),.ls y.s10] from rfl]at *;simp only[BH]at gr gn ⊢;have hb1:AvL (0+qs.length*9) (Av EE qs).length=U:=AK Ed qs (by omega)
 cases hr:AO (.mk k l r op p q ks) 0 with
 |false=>
  rw[hr]at gr;rw[Ad Aw4];refine Aq K AeN (Aqh ..) ?_;refine Aa gr ?_;rfl
 |true=>
  rw[hr]at gr;rw[Ac rfl];have gn:=gn hr
  cases qo with
  |none=>
   dsimp only[Axw]at gn ⊢;obtain⟨o,ho,gn⟩:=gn;rcases ho with rfl|rfl
   .refine Aq K AeP (Aqj ..) ?_
    refine Aa gr ?_;simp only[Ae];refine Aa gn ?_;rfl
   .refine Aq K AeQ (Aqk ..) ?_
    refine Aa gr ?_;simp only[Ae];refine Aa gn ?_;rfl
  |some f=>
   dsimp only[AvP]at gn ⊢;obtain⟨g1,g2,g3⟩:=gn
   by_cases h2:k=2\/k=6
   .obtain⟨n,rfl⟩:=g2 h2
    rw[eH,Ac rfl]at g1;refine Aq K AeN (Aqh ..) ?_;refine Aa gr ?_;simp only[Ae];refine Aa g1 ?_;simp only[nV,hb1,Ll,By Ed qs rfl,Ae];rfl
   .obtain⟨k',n,fs,rfl,hk'⟩:=g3 h2
    rw[eH,Ad hk']at g1;refine Aq K AeO (Aqi ..) ?_;refine Aa gr ?_;simp only[Ae];refine Aa g1 ?_;simp only[nV,hb1,Ll,By Ed qs rfl,Ae];rfl
end
end
inductive RkOk:Rf->Prop where
 |mk {k n:Int} {ks:List Rf} (h2:k=2->ks=[]) (hl:ks.length<=2) (h:∀ x∈ks,RkOk x):RkOk (.mk k n ks)
theorem V6(y:Sy):∀(ks:List Tr) (ps:List Pp) (fs:List Rf),(∀ x∈ks,∀ ps f,(C2 y x ps).1=V f->RkOk f)->(CJ y ks ps).1=V fs->fs.length=ks.length/\∀ f∈fs,RkOk f
 |[],ps,fs,_,h=>by
  rw[CJ]at h
  cases h
  exact⟨rfl,by simp⟩
 |x::r,ps,fs,g,h=>by
  rw[Ii]at h;have gx:=g x (AvX ..) ps;revert h gx
  cases (C2 y x ps).1 with
  |none=>intro h;cases h
  |some f=>
   intro h gx;dsimp only at h;obtain⟨gs,h1,rfl⟩:=Aw2.1 h;have ih:=V6 y r _ gs (λz hz=>g z (AvZ _ hz)) h1;exact⟨by rw[ε,ε,ih.1],λz hz=>(AvK.1 hz).elim (λe=>e▸gx f rfl) (ih.2 z)⟩
theorem Aae(y:Sy):∀(N:Nat) (t:Tr) (d:Nat),SizeOf.sizeOf t<N->AO t d=U->∀ ps f,(C2 y t ps).1=V f->RkOk f:=by
 intro N
 induction N with
 |zero=>intro t d h;omega
 |succ N ih=>
  intro t d hN hr ps f h;have hkr:=Px hr;obtain⟨k,l,r,op,p,q,ks⟩:=t;rw[Mc]at h;split at h
  .split at h
   .cases h
    exact .mk (λ_=>rfl) (by simp) (by simp)
   .cases h
  .rename_i h2
   obtain⟨fs,h1,rfl⟩:=Aw2.1 h;have g:=V6 y ks ps fs (λx hx=>by
    obtain⟨d',hd'⟩:=hkr.2 x hx;exact ih x d' (by have:=AxA hx;simp only[Tr.mk.sizeOf_spec]at hN;omega) hd') h1
   have hl:ks.length<=2:=hkr.1;exact .mk (λe=>absurd (Or.inl e) h2) (by rw[g.1];exact hl) g.2
theorem ArQ(n:Int):(iv n).nf=iv n:=rfl
theorem Aqo:∀(N:Nat) (x:Rf),SizeOf.sizeOf x<N->RkOk x->X8 (eH x)=eG x:=by
 intro N
 induction N with
 |zero=>intro x h;omega
 |succ N ih=>
  intro x hN h;obtain⟨k,n,ks⟩:=x;obtain⟨h2,hl2,hk⟩:=h;clear hl2;have hs:nfR (eHs ks)=eGs ks:=by
   have ih2:∀ z∈ks,X8 (eH z)=eG z:=λz hz=>ih z (by have:=AxA hz;simp only[Rf.mk.sizeOf_spec]at hN;omega) (hk z hz)
   clear hk hN h2 ih
   induction ks with
   |nil=>rfl
   |cons z r ihr=>rw[eHs,eGs,nfR,ih2 z (AvX ..),ihr λw hw=>ih2 w (AvZ _ hw)]
  rw[eH,eG];simp only[X8,ArQ]
  by_cases e:k=2
  .rw[Ac e,h2 e]
   rfl
  .rw[Ad e,AV.nf,hs]
theorem An1{x:Rf}(h:RkOk x):X8 (eHt x)=eG x:=by
 have g:=Aqo _ x (AvS _) h;obtain⟨k,n,ks⟩:=x
 by_cases e:k=2
 .obtain⟨h2,_,_⟩:=h
  rw[h2 e,eHt,eG];rfl
 .rw[eH,Ad e]at g
  exact g
theorem AjN(y:Sy)(t:Tr):nfT (Apl (II y t))=Oe (II y t):=by
 unfold II;split
 .rename_i h
  have g:=Aae y _ t 0 (AvS _) h [];revert g
  cases (C2 y t []).1 with
  |none=>intro _;rfl
  |some f=>
   intro g;have g:=An1 (g f rfl)
   show AV.tup ((AV.agg (eHt f)).nf::_)=_
   rw[AV.nf,g];rfl
 .rfl
section
variable {D:Orc} (K:Knows Ak TX D)
include K
theorem AbP(k n:Int)(ks:List Rf)(hl:ks.length<=2)(g:∀ x∈ks,D.ask (.fn 40) [.agg (eG x),.agg (eG x)] []=V (bv U,[])):∀(m i:Nat),ks.length-i=m->
  D.ask (.lp 40 0) [.ptr 0 0,.ptr 1 0,iv (i:Int)] [bk [iv k,iv n,.ls (ks.map eG)],bk [iv k,iv n,.ls (ks.map eG)]]=V (.tup [iv 0],[.del,.del]):=by
 intro m
 induction m with
 |zero=>
  intro i hi;refine Ax K AeR (Aky ..) ?_;rw[Aj];exact Am rfl
 |succ m ih=>
  intro i hi;have hlt:i<ks.length:=by omega
  have ih:=ih (i+1) (by omega);have gx:=g ks[i] (AvN hlt);have hn1:∀ kk,A4 (ks.map eG) i kk=kk (eG ks[i]):=λkk=>Az (Ω hlt) kk
  refine Ax K AeR (Aky ..) ?_;rw[Aj];refine Ao ?_;revert gx hn1;generalize ks[i]=x;obtain⟨xk,xn,xs⟩:=x;intro gx hn1;simp only[eG]at gx hn1;simp only[AA,hn1,Ae];refine Aa gx ?_;simp only[Ae];rw[Bn (by omega)];refine Aa ih ?_;rfl
theorem R3:∀(N:Nat) (x:Rf),SizeOf.sizeOf x<N->RkOk x->D.ask (.fn 40) [.agg (eG x),.agg (eG x)] []=V (bv U,[]):=by
 intro N
 induction N with
 |zero=>intro x h;omega
 |succ N ih=>
  intro x hN h;obtain⟨k,n,ks⟩:=x;obtain⟨_,hl,hk⟩:=h;have gl:=AbP K k n ks hl (λz hz=>ih z (by have:=AxA hz;simp only[Rf.mk.sizeOf_spec]at hN;omega) (hk z hz)) _ 0 rfl;rw[eG,Oq];refine Aq K AeR (e40 ..) ?_;refine Aw ?_ rfl;refine Aw ?_ rfl;refine Aw ?_ rfl;refine Aa gl ?_;rfl
end
theorem Apt{k:Int}(h:C1 k=-1):Ga k=5:=by
 have n (x:Int) (hx:C1 x≠-1):k≠x:=λe=>hx (e▸h)
 unfold Ga;rw[Ad (n 7 (by decide)),Ad (n 5 (by decide)),Ad (n 4 (by decide)),Ad (n 11 (by decide)),Ad (n 12 (by decide))]
section
variable {D:Orc} (K:Knows Ak TY D)
include K
theorem PU(k:Int):D.ask (.fn 75) [iv k] []=V (iv (C1 k),[]):=by
 refine Aq K AqN (e75 ..) ?_;unfold C1;simp only[Jh,EV,decide_eq_true_eq,XS]
theorem V0{p:Int}(hp:C1 p=1\/C1 p=2){i:Nat}(hi:i<=1)(k:Int):D.ask (.fn 79) [iv p,iv (i:Int),iv k] []=V (bv (Cd p i k),[]):=by
 refine Aq K AqQ (e79 ..) ?_;refine Aa (PU K k) ?_;have hp:=DC p;rcases DC k with⟨_,h⟩|⟨_,h⟩|⟨_,h⟩|h
 .rcases hp with⟨_,g⟩|⟨_,g⟩|⟨_,g⟩|g
  .omega
  .rcases h with rfl|rfl|rfl|rfl<;>rcases g with rfl|rfl|rfl|rfl<;>rfl
  .rcases h with rfl|rfl|rfl|rfl<;>rcases g with rfl|rfl|rfl|rfl|rfl<;>rfl
  .omega
 .rcases hp with⟨_,g⟩|⟨_,g⟩|⟨_,g⟩|g
  .omega
  .rcases h with rfl|rfl|rfl|rfl<;>rcases g with rfl|rfl|rfl|rfl<;>rfl
  .rcases h with rfl|rfl|rfl|rfl<;>rcases g with rfl|rfl|rfl|rfl|rfl<;>rfl
  .omega
 .rcases hp with⟨_,g⟩|⟨_,g⟩|⟨_,g⟩|g
  .omega
  .rcases h with rfl|rfl|rfl|rfl|rfl<;>rcases g with rfl|rfl|rfl|rfl<;>rfl
  .obtain rfl|rfl:i=0\/i=1:=by omega
   .rcases h with rfl|rfl|rfl|rfl|rfl<;>rcases g with rfl|rfl|rfl|rfl|rfl<;>rfl
   .rcases h with rfl|rfl|rfl|rfl|rfl<;>rcases g with rfl|rfl|rfl|rfl|rfl<;>rfl
  .omega
 .have ht:=Apt h
  have hb:Cd p i k=Θ:=by
   unfold Cd;rw[ht];rcases hp with⟨_,g⟩|⟨_,g⟩|⟨_,g⟩|g
   .omega
   .rcases g with rfl|rfl|rfl|rfl<;>rfl
   .rcases g with rfl|rfl|rfl|rfl|rfl<;>rfl
   .omega
  rw[h,hb];rfl
theorem AbQ(k:Int):D.ask (.fn 140) [iv k] []=V (sv (Ag (CU k)),[]):=by
 refine Aq K Ak6 (AsU ..) ?_;unfold CU;simp only[Jh,EV,decide_eq_true_eq,Ae9]
 by_cases h3:k=3<;>by_cases h4:k=4<;>by_cases h5:k=5<;>by_cases h7:k=7<;>by_cases h8:k=8<;>by_cases h9:k=9<;>by_cases h10:k=10<;>by_cases h11:k=11<;>simp_all
theorem PV{k:Int}(hk:C1 k=1\/C1 k=2)(l r:List Mo)(op:Int)(p q:ByteArray)(ks:List Tr)(hl:ks.length<=2)(d:Nat)(hd:d<=60)(g:∀ x∈ks,∀ d:Nat,d<=60->D.ask (.fn 37) [.agg (BH x),iv (d:Int)] []=V (bv (AO x d),[])):∀(n i:Nat),ks.length-i=n->
  D.ask (.lp 37 0) [iv (d:Int),.ptr 0 0,iv (ks.length:Int),iv (i:Int)] [bk [iv k,.ls (l.map C4),.ls (r.map C4),iv op,sv p,sv q,.ls (ks.map BH)]]=V (if C8 k d i (ks.drop i) then .tup [iv 0] else .tup [bv U,bv Θ],[.del]):=by
 intro n
 induction n with
 |zero=>
  intro i hi;rw[show ks.drop i=[] from ο (by omega)];refine Ax K Abe (Aeh ..) ?_;refine Am ?_;rfl
 |succ n ih=>
  intro i hi;have hlt:i<ks.length:=by omega
  have ih:=ih (i+1) (by omega);rw[show ks.drop i=ks[i]::ks.drop (i+1) from ω hlt];have gx:=g ks[i] (AvN hlt);have hb:=V0 K hk (i:=i) (by omega) ks[i].kind;have hg:=Ω hlt;refine Ax K Abe (Aeh ..) ?_;refine Ao ?_;rw[AA,Az hg];rw[C8];have hn3:∀ K:Ab->KR,A4 (ks.map BH) i K=K (BH ks[i]):=λK=>Az hg K
  revert gx hb hn3;generalize ks[i]=x;obtain⟨xk,xl,xr,xo,xp,xq,xs⟩:=x;intro gx hb hn3;unfold Tr.kind at hb ⊢;generalize hT:C8 k d (i+1) (ks.drop (i+1))=T at ih ⊢;simp only[BH,Ae]at gx hn3 ⊢;refine Aa hb ?_;simp only[Ae];have tl:∀ b:Bool,br b (AJ D (.lp 37 0) [iv (d:Int),.ptr 0 0,iv (ks.length:Int),iv ((i+1:Nat):Int)] [bk [iv k,.ls (l.map C4),.ls (r.map C4),iv op,sv p,sv q,.ls (ks.map BH)]] λr2 o2=>AG 1 [0] (AH.mk [(0,bk [iv k,.ls (l.map C4),.ls (r.map C4),iv op,sv p,sv q,.ls (ks.map BH)])] 1 Δ) [0] r2 o2) (V (AV.tup [bv U,bv Θ],[BO.del]))=V (if(b&&T) then .tup [iv 0] else .tup [bv U,bv Θ],[.del]):=λb=>by
   cases b with
   |false=>rfl
   |true=>
    refine Af ?_;refine Aa ih ?_
    cases T<;>rfl
  cases hbk:Cd k i xk with
  |true=>
   refine Af ?_;rw[show Et U d=d+1 from rfl];rw[Bn (by omega)]
   by_cases h60:d+1<=60
   .refine Am ?_
    rw[AA,hn3];simp only[Ae];refine Aa (gx (d+1) h60) ?_;simp only[Ae];rw[Bn (by omega),Ba h60,AvR];exact tl _
   .refine Ao ?_
    rw[Bu h60,Awb,Awb];rfl
  |false=>
   refine Bm ?_;rw[show Et Θ d=d from rfl];refine Am ?_;rw[AA,hn3];simp only[Ae];refine Aa (gx d hd) ?_;simp only[Ae];rw[Bn (by omega),Ba hd,AvR];exact tl _
variable (Ks:Knows Ak Ni D) (L:RLexN D)
include Ks L
theorem PW:∀(n:Nat) (t:Tr),SizeOf.sizeOf t<n->WzT t->WzP t->∀ d:Nat,d<=60->D.ask (.fn 37) [.agg (BH t),iv (d:Int)] []=V (bv (AO t d),[]):=by
 intro n
 induction n with
 |zero=>intro t h;omega
 |succ n ih=>
  intro t ht hz hp d hd;have gb:=Agi Ks t hz;have gc:=LZ Ks L t hz;obtain⟨k,l,r,op,p,q,ks⟩:=t;obtain⟨hl,hr,hk,zl,zr,hx⟩:=hz;obtain⟨z1,z2,hy⟩:=hp;have gp:=L.name p z1;have gq:=L.name q z2;have ga:=PU K k;have gk:∀ x∈ks,∀ d:Nat,d<=60->D.ask (.fn 37) [.agg (BH x),iv (d:Int)] []=V (bv (AO x d),[]):=λx hm d hd=>ih x (by
   have h1:=LC hm;simp only[Tr.mk.sizeOf_spec]at ht;omega) (hx x hm) (hy x hm) d hd
  simp only[BH,B1]at gb gc ⊢;refine Aq K Abe (e37 ..) ?_;rw[AO];refine Aa ga ?_;simp only[Ae];rw[Aj];have hcs:=DC k
  by_cases h4:(ks.length:Int)=C1 k
  .refine Aw ?_ h4.symm
   rw[Ac h4]
   by_cases h2:k=2
   .refine Aw ?_ h2
    refine Aa gc ?_;have e0:C1 k=0:=by rw[h2];rfl
    rw[Ac e0,IB,Ac h2];simp only[Ae]
    cases Ec (.mk k l r op p q ks)<;>rfl
   refine Ap ?_ h2
   by_cases h6:k=6
   .refine Aw ?_ h6
    have e0:C1 k=0:=by rw[h6];rfl
    rw[Ac e0,IB,Ad h2,Ac h6];rw[Aj,Aj,ApP hl hr]
    by_cases h3:l.length+r.length=0
    .refine Aw ?_
     rw[Ba (show l.length=0 by omega),Ba (show r.length=0 by omega)]
     by_cases h5:op=0
     .refine Aw ?_ h5
      rw[Ba h5];refine Aa gp ?_;simp only[Ae]
      cases CA p.data.toList with
      |false=>rfl
      |true=>
       refine Af ?_;refine Aa gq ?_
       cases CA q.data.toList<;>rfl
     .refine Ap ?_ h5
      simp[h5]
    .refine Ap ?_
     by_cases h7:l.length=0
     .simp[show r.length≠0 by omega]
     .simp[h7]
   refine Ap ?_ h6
   by_cases h1:C1 k=1
   .refine Aw ?_ h1
    refine Aa gb ?_;rw[Ad (by omega),Ba h1,show Et U d=d+1 from rfl];simp only[Ae]
    cases C3 (.mk k l r op p q ks) with
    |false=>simp[Ae]
    |true=>
     rw[Bn (by omega)];simp only[Ae,Axa]
     by_cases h60:d+1<=60
     .refine Am ?_
      rw[Ba h60,AvR,←h4];refine Aa (PV K (.inl h1) l r op p q ks (by omega) (d+1) h60 gk _ 0 rfl) ?_;rw[κ]
      cases C8 k (d+1) 0 ks<;>rfl
     .refine Ao ?_
      rw[Bu h60,Awb]
   refine Ap ?_ h1;refine Aa gb ?_;simp only[Ae]
   by_cases h0:C1 k=0
   .rw[Ac h0,IB,Ad h2,Ad h6]
    obtain rfl:ks=[]:=Awn.1 (by omega)
    cases C3 (.mk k l r op p q []) with
    |false=>rfl
    |true=>
     simp only[Ae];refine Am ?_;rw[h0];have glp:D.ask (.lp 37 0) [iv (d:Int),.ptr 0 0,iv 0,iv 0] [bk [iv k,.ls (l.map C4),.ls (r.map C4),iv op,sv p,sv q,.ls (([]:List Tr).map BH)]]=V (.tup [iv 0],[.del]):=by
      refine Ax K Abe (Aeh ..) ?_;exact Am rfl (by decide)
     refine Aa glp ?_;rfl
   .rw[Ad h0,Bu h1,show Et Θ d=d from rfl,Ba hd]
    cases C3 (.mk k l r op p q ks) with
    |false=>simp[Ae]
    |true=>
     simp only[Ae,Axa,AvR];refine Am ?_;rw[←h4];refine Aa (PV K (.inr (by omega)) l r op p q ks (by omega) d hd gk _ 0 rfl) ?_;rw[κ]
     cases C8 k d 0 ks<;>rfl
  .refine Ap ?_ (λh=>h4 h.symm)
   rw[Ad h4]
end
theorem AhS(b:Bool)(s:List UInt8):(Nv b s).length=if b then s.length+2 else s.length:=by
 cases b
 .rfl
 .show ([40]++s++[41]).length=s.length+2
  simp
section
variable {D:Orc} (K:Knows Ak TY D)
include K
theorem Jg{k:Int}(hk:C1 k=1\/C1 k=2)(l r:List Mo)(op:Int)(p q:ByteArray)(ks:List Tr)(hl:ks.length<=2){i:Nat}(hi:i<ks.length)(acc sep out:List UInt8)
  (hs:sep=if i=0/\ks.length≠1 then [] else CU k) (hlen:(acc++sep++Nv (Cd k i ks[i].kind) (BP ks[i])).length<=1000000000000)
  (gx:D.ask (.fn 81) [.agg (BH ks[i])] []=V (sv (Ag (BP ks[i])),[]))
  (h:D.ask (.lp 81 0) [.ptr 0 0,sv (Ag (acc++sep++Nv (Cd k i ks[i].kind) (BP ks[i]))),iv ((i+1:Nat):Int)] [bk [iv k,.ls (l.map C4),.ls (r.map C4),iv op,sv p,sv q,.ls (ks.map BH)]]=V (.tup [iv 1,sv (Ag out)],[.del])) :
  D.ask (.lp 81 0) [.ptr 0 0,sv (Ag acc),iv (i:Int)] [bk [iv k,.ls (l.map C4),.ls (r.map C4),iv op,sv p,sv q,.ls (ks.map BH)]]=V (.tup [iv 1,sv (Ag out)],[.del]):=by
 have hb:=V0 K hk (i:=i) (by omega) ks[i].kind;have gs:=AbQ K k;have hg:=Ω hi;have hn3:∀ K:Ab->KR,A4 (ks.map BH) i K=K (BH ks[i]):=λK=>Az hg K
 have hlt:=Ku (Cd k i ks[i].kind) (BP ks[i]);have hbt:=AhS (Cd k i ks[i].kind) (BP ks[i]);refine Ax K QT (AkE ..) ?_;rw[Aj];refine Ao ?_;revert gx hb hn3 h hlen hlt hbt;generalize ks[i]=x;obtain⟨xk,xl,xr,xo,xp,xq,xs⟩:=x;intro hlen gx h hb hn3 hlt hbt;unfold Tr.kind at hb h hlen hlt hbt;simp only[BH]at gx hn3;generalize Cd k i xk=bb at *;generalize BP (.mk xk xl xr xo xp xq xs)=tx at *;rw[ζ,ζ]at hlen;have fin:∀ s:ByteArray,s=Ag (acc++sep++Nv bb tx)->AJ D (.lp 81 0) [.ptr 0 0,sv s,iv ((i+1:Nat):Int)] [bk [iv k,.ls (l.map C4),.ls (r.map C4),iv op,sv p,sv q,.ls (ks.map BH)]] (λz1 z2=>AG 1 [0] (AH.mk [(0,bk [iv k,.ls (l.map C4),.ls (r.map C4),iv op,sv p,sv q,.ls (ks.map BH)])] 1 Δ) [0] z1 z2)=V (.tup [iv 1,sv (Ag out)],[.del]):=λs hs=>by
  subst hs;exact Aa h rfl
 have tail:∀ a:List UInt8,a=acc++sep->br bb (br ((Ai.slen (Ag [40])+Ai.slen (Ag tx)).ble 9223372036854775807) (br ((Ai.slen (Ai.cat (Ag [40]) (Ag tx))+Ai.slen (Ag [41])).ble 9223372036854775807) (br ((Ai.slen (Ag a)+Ai.slen (Ai.cat (Ai.cat (Ag [40]) (Ag tx)) (Ag [41]))).ble 9223372036854775807) (AJ D (.lp 81 0) [.ptr 0 0,sv (Ai.cat (Ag a) (Ai.cat (Ai.cat (Ag [40]) (Ag tx)) (Ag [41]))),iv ((i+1:Nat):Int)] [bk [iv k,.ls (l.map C4),.ls (r.map C4),iv op,sv p,sv q,.ls (ks.map BH)]] (λz1 z2=>AG 1 [0] (AH.mk [(0,bk [iv k,.ls (l.map C4),.ls (r.map C4),iv op,sv p,sv q,.ls (ks.map BH)])] 1 Δ) [0] z1 z2)) Δ) Δ) Δ)
   (br ((Ai.slen (Ag a)+Ai.slen (Ag tx)).ble 9223372036854775807) (AJ D (.lp 81 0) [.ptr 0 0,sv (Ai.cat (Ag a) (Ag tx)),iv ((i+1:Nat):Int)] [bk [iv k,.ls (l.map C4),.ls (r.map C4),iv op,sv p,sv q,.ls (ks.map BH)]] (λz1 z2=>AG 1 [0] (AH.mk [(0,bk [iv k,.ls (l.map C4),.ls (r.map C4),iv op,sv p,sv q,.ls (ks.map BH)])] 1 Δ) [0] z1 z2)) Δ)=V (.tup [iv 1,sv (Ag out)],[.del]):=λa ha=>by
  subst ha;simp only[BE,F5,D9]
  cases bb with
  |true=>
   refine Af ?_;refine(BL (by simp only[Bc,ε,Av0];omega) _ _).trans ?_;refine(BL (by simp only[Bc,ζ,ε,Av0];omega) _ _).trans ?_;refine(BL (by simp only[Bc,ζ,ε,Av0];omega) _ _).trans ?_;exact fin _ rfl
  |false=>
   refine Bm ?_;refine(BL (by simp only[Bc,ζ];omega) _ _).trans ?_;exact fin _ rfl
 by_cases h0:i=0/\ks.length≠1
 .rw[Ac h0]at hs
  refine Am ?_;refine Ap ?_;rw[AA,hn3];simp only[Ae];refine Aa gx ?_;simp only[Ae];rw[AA,hn3];simp only[Ae];refine Aa hb ?_;simp only[Ae];rw[Bn (by omega)];exact tail acc (by rw[hs,Awc])
 .rw[Ad h0]at hs
  have hc:Ai.cat (Ag acc) (Ag (CU k))=Ag (acc++sep):=by rw[F5,D9,hs]
  by_cases hi0:i=0
  .refine Am ?_
   refine Aw ?_;refine Aa gs ?_;simp only[Ae];refine(BL (by rw[BE,BE,Bc,Bc,←hs];omega) _ _).trans ?_;rw[AA,hn3];simp only[Ae];refine Aa gx ?_;simp only[Ae];rw[AA,hn3];simp only[Ae];refine Aa hb ?_;simp only[Ae];rw[Bn (by omega),hc];exact tail _ rfl
  .refine Ao ?_
   refine Aa gs ?_;simp only[Ae];refine(BL (by rw[BE,BE,Bc,Bc,←hs];omega) _ _).trans ?_;rw[AA,hn3];simp only[Ae];refine Aa gx ?_;simp only[Ae];rw[AA,hn3];simp only[Ae];refine Aa hb ?_;simp only[Ae];rw[Bn (by omega),hc];exact tail _ rfl
theorem PX(k:Int)(l r:List Mo)(op:Int)(p q:ByteArray)(ks:List Tr){i:Nat}(hi:i=ks.length)(acc:List UInt8) :
  D.ask (.lp 81 0) [.ptr 0 0,sv (Ag acc),iv (i:Int)] [bk [iv k,.ls (l.map C4),.ls (r.map C4),iv op,sv p,sv q,.ls (ks.map BH)]]=V (.tup [iv 1,sv (Ag acc)],[.del]):=by
 refine Ax K QT (AkE ..) ?_;rw[Aj];exact Am rfl
variable (Ks:Knows Ak Ni D) (L:RLexN D) (Kg:Knows Ak Qr D)
include Ks L Kg
theorem AbR:∀(n:Nat) (t:Tr) (d:Nat),SizeOf.sizeOf t<n->AO t d=U->(BP t).length<=1000000000000->D.ask (.fn 81) [.agg (BH t)] []=V (sv (Ag (BP t)),[]):=by
 intro n
 induction n with
 |zero=>intro t d h;omega
 |succ n ih=>
  intro t d hn h hlen
  cases FE h with
  |tt=>
   refine Aq K QT (e81 ..) ?_;refine Aw ?_ rfl;rw[BP,B5];rfl
  |ff=>
   refine Aq K QT (e81 ..) ?_;refine Ap ?_ (by decide);refine Aw ?_ rfl;rw[BP,B5];rfl
  |@cmp _ l r op hl hr h1 h2=>
   have gc:=Ab9 Ks L Kg hl hr h1 h2;have hc:Ec (.mk 2 l r op (Ag []) (Ag []) [])=U:=by
    unfold Ec;simp[hl,hr,h1,h2]
   have e:BP (.mk 2 l r op (Ag []) (Ag []) [])=Lp l r op:=by
    rw[BP,B5,Vu,FT,Ad (by decide),Ad (by decide),Ad (by decide),Ac hc]
   rw[e];simp only[BH,KD]at gc ⊢;refine Aq K QT (e81 ..) ?_;refine Ap ?_ (by decide);refine Ap ?_ (by decide);refine Aw ?_ rfl;refine Aa gc ?_;rfl
  |@«at» _ p q hp hq=>
   have lp:=Do hp;have lq:=Do hq;have e:BP (.mk 6 [] [] 0 p q [])=[64]++p.data.toList++[46]++q.data.toList:=by
    rw[BP,B5,Vu,FT,Ad (by decide),Ad (by decide),Ac rfl]
   rw[e];obtain⟨a,rfl⟩:∃ a,p=Ag a:=⟨_,(Jx p).symm⟩;obtain⟨b,rfl⟩:∃ b,q=Ag b:=⟨_,(Jx q).symm⟩;rw[BG]at lp lq;rw[BG,BG];refine Aq K QT (e81 ..) ?_;refine Ap ?_ (by decide);refine Ap ?_ (by decide);refine Ap ?_ (by decide);refine Aw ?_ rfl;simp only[BE,F5,D9];refine(BL (by simp only[Bc,ε,Av0];omega) _ _).trans ?_;refine(BL (by simp only[Bc,ζ,ε,Av0];omega) _ _).trans ?_;refine(BL (by simp only[Bc,ζ,ε,Av0];omega) _ _).trans ?_;rfl
  |@one _ k x hk hd2 hx=>
   rw[M0]at hlen ⊢;have hg:=Ku (Cd k 0 x.kind) (BP x);have hlen2:=hlen;rw[ζ]at hlen2;have gx:=ih x _ (by simp only[Tr.mk.sizeOf_spec,List.cons.sizeOf_spec]at hn;omega) hx (by omega);have hck:=DC k;have g:=Jg K (.inl hk) [] [] 0 (Ag []) (Ag []) [x] (by simp) (i:=0) (by simp) [] (CU k) (CU k++Nv (Cd k 0 x.kind) (BP x)) (by simp) (by simpa using hlen) gx (by
    have:=PX K k [] [] 0 (Ag []) (Ag []) [x] (i:=1) rfl (CU k++Nv (Cd k 0 x.kind) (BP x));simpa using this)
   simp only[BH,B1]at g ⊢;refine Aq K QT (e81 ..) ?_;refine Ap ?_;refine Ap ?_;refine Ap ?_;refine Ap ?_;refine Aa g ?_;rfl
  |@two _ k x y hk hd hx gd hy=>
   rw[M1]at hlen ⊢;have hg:=Ku (Cd k 0 x.kind) (BP x);have hg2:=Ku (Cd k 1 y.kind) (BP y);have hlen2:=hlen;rw[ζ,ζ]at hlen2;have gx:=ih x _ (by simp only[Tr.mk.sizeOf_spec,List.cons.sizeOf_spec]at hn;omega) hx (by omega);have gy:=ih y _ (by simp only[Tr.mk.sizeOf_spec,List.cons.sizeOf_spec]at hn;omega) hy (by omega);have hck:=DC k;have g2:=Jg K (.inr hk) [] [] 0 (Ag []) (Ag []) [x,y] (by simp) (i:=1) (by simp) (Nv (Cd k 0 x.kind) (BP x)) (CU k) (Nv (Cd k 0 x.kind) (BP x)++CU k++Nv (Cd k 1 y.kind) (BP y)) (by simp) (by simpa using hlen) gy (by
    have:=PX K k [] [] 0 (Ag []) (Ag []) [x,y] (i:=2) rfl (Nv (Cd k 0 x.kind) (BP x)++CU k++Nv (Cd k 1 y.kind) (BP y));exact this)
   have g:=Jg K (.inr hk) [] [] 0 (Ag []) (Ag []) [x,y] (by simp) (i:=0) (by simp) [] [] (Nv (Cd k 0 x.kind) (BP x)++CU k++Nv (Cd k 1 y.kind) (BP y)) (by simp) (by simp;omega) gx (by exact g2);simp only[BH,B1]at g ⊢;refine Aq K QT (e81 ..) ?_;refine Ap ?_;refine Ap ?_;refine Ap ?_;refine Ap ?_;refine Aa g ?_;rfl
theorem Aay(t:Tr)(hz:WzT t)(hp:WzP t)(hlen:AO t 0=U->(BP t).length<=1000000000000):D.ask (.fn 39) [.agg (BH t)] []=V (sv (Ag (if AO t 0 then BP t else [])),[]):=by
 have g1:=PW K Ks L _ t (AvS _) hz hp 0 (by omega);have g2:=λh=>AbR K Ks L Kg _ t 0 (AvS _) h (hlen h)
 obtain⟨k,l,r,op,p,q,ks⟩:=t;simp only[BH]at g1 g2 ⊢;refine Aq K AqB (e39 ..) ?_;refine Aa g1 ?_;simp only[Ae]
 cases h:AO (.mk k l r op p q ks) 0 with
 |false=>rfl
 |true=>
  refine Af ?_;refine Aa (g2 h) ?_;rfl
