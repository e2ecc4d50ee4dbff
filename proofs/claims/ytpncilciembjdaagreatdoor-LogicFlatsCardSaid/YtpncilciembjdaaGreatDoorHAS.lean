/- A seat of D: tables of f -/
import Derived.Test.YtpncilciembjdaaGreatDoorHAR
set_option linter.all false
open Bool renaming true->Δ
open List renaming getElem?_eq_getElem->ξ
open Nat renaming le_of_ble_eq_true->AxL,le_refl->π,mul_le_mul_right->Aww,zero_add->Awt
open Option renaming none->Ξ,some->Θ
namespace Go.Proofs.YtpncilciembjdaaGreatDoor
noncomputable section
open Option.some renaming injEq->ψ
open Tryz renaming prog->Av9
open Go.RowKit
def Tb:List (List (Nat × MFn)):=[Jz]
def V8:List (Nat × DF):=[(236,DH 1 (B7 1 4))]
def Hs:Seat:=FK DQ Tb.flatten V8
def DDv:Orc:=By Ap Hs
set_option maxRecDepth 100000 in
theorem ApN:Gy Av9 B4 Tb:=by
 repeat' first|exact trivial|refine⟨⟨_,_,_,rfl⟩,by kernel_rfl,?_⟩|refine⟨?_,?_⟩
theorem ApT:(G7 Tb&&O8 Tb.flatten V8)=Δ:=by kernel_rfl
theorem Aq6:Knows DQ Jz DDv:=BH ApT (i:=0) rfl
section
variable {args:Ab} {bs:List ABlk} {r:AV × List BO}
theorem AaP(h:(DH 1 (B7 1 4)) args bs=Θ r):DDv.ask (.fn 236) args bs=Θ r:=Bq rfl h
end
theorem Aas(h:GA Av9 V8):SeatOk Av9 B4 Hs:=EU P7 ES ApN h
theorem Abq:CloneF DDv where
 nat l h:=AaP (LI h)
theorem U7:SeatOk Av9 B4 Hs:=Aas ⟨Fk,trivial⟩
theorem Aqq(f:Nat):BD (BL Av9 f) ((By Ap Hs).ask (.fn f)):=GY U7 f
theorem ArP{a b:Af}(ha:Limbs a)(hal:a.length<=999999990)(hb:Limbs b)(hbl:b.length<=999999990):(By Ap Hs).ask (.fn 144) [eN a,eN b] []
  = Θ (if Ag b=0 then .tup [.ls [],.ls [],iv 10] else .tup [eN (Aq (Ag a / Ag b)),eN (Aq (Ag a % Ag b)),iv 0],[]):=Am0 Aq6 Abq ha hal hb hbl
theorem Aj1{μ:Mu}{F:Bf}{w w':World}{H:Nat->Option ABlk}(hH:HRep μ F w H)(hb:Below w.heap.size w w'){b0:Nat}(h0:H b0=Ξ)(hμ0:μ b0=Ξ){ety:TypeId}{e n:Nat}{cells:Ab}{vs:AO}{u:Value}
  (hpure:Bj cells=Δ) (hlen:cells.length=n*e) (ho:w'.ownsRow w.heap.size ety e u n vs) (hc:RepList μ F w cells vs) :
  ∃ μ',(∀ b,b≠b0->μ' b=μ b)/\Rep μ' F w' (.sl b0 0 n e) u/\HRep μ' F w' (λb=>if b=b0 then Θ ⟨cells,Δ,Δ⟩ else H b)/\Later μ μ' F F w w':=by
 obtain⟨hl,ho2⟩:=ho;rcases ho2 with⟨rfl,rfl⟩|⟨g,cap,cur,rfl,hg,hcur,hn,hm2,hsz,htk⟩
 .have hc0:cells=[]:=List.eq_nil_of_length_eq_zero (by rw[hlen];simp)
  subst hc0;obtain⟨μ',a1,a2,a3,a4⟩:=I7 hH hb h0 hμ0 ⟨0,0,0⟩ ⟨[],Δ,Δ⟩ rfl (.inr rfl) (π _) (λi x hx=>by simp at hx) (λi hi=>absurd hi (Nat.not_lt_zero _)) rfl;refine⟨μ',a2,?_,a3,a4⟩;unfold Rep;exact⟨_,a1,.inl ⟨rfl,rfl⟩⟩
 .have cellw:∀ i,i<cap*e->w'.cell? ⟨g,i,Ξ⟩=cur[i]?:=λi _=>cell_of_row w' g i cur ety (0,0) hcur
  have vsl:vs.length=cells.length:=hc.length;obtain⟨μ',a1,a2,a3,a4⟩:=I7 hH hb h0 hμ0 ⟨g,0,cap*e⟩ ⟨cells,Δ,Δ⟩ rfl (.inl hg) (by show cells.length<=cap*e;rw[hlen];exact Aww _ hn)
   (λi x hx=>by
    obtain⟨u,h1,h2⟩:=hc.get hx;refine⟨u,?_,h2⟩;have hi:i<cells.length:=by
     rcases Nat.lt_or_ge i cells.length with h|h
     .exact h
     .rw[List.getElem?_eq_none h]at hx;cases hx
    have hi2:i<cap*e:=by rw[hlen]at hi;exact Nat.lt_of_lt_of_le hi (Aww _ hn)
    show w'.cell? ⟨g,0+i,Ξ⟩=Θ u
    rw[Awt,cellw i hi2,←h1,←htk,List.getElem?_take,Ac (by rw[hlen]at hi;exact hi),Array.getElem?_toList])
   (λi hi=>by
    have hi:i<cap*e:=hi;refine⟨⟨cur[i]'(by omega),?_⟩,?_⟩
    .show w'.cell? ⟨g,0+i,Ξ⟩=_
     rw[Awt,cellw i hi];exact Array.getElem?_eq_getElem _
    .show w'.frozen? ⟨g,0+i,Ξ⟩=false
     simp[World.frozen?,hcur]) hpure
  refine⟨μ',a2,?_,a3,a4⟩;unfold Rep;exact⟨_,a1,.inr ⟨0,cap,rfl,λ_=>rfl,hn,hm2,by show 0+cap*e<=cap*e;omega⟩⟩
def SV:Ab->Option (Nat × Ab)
 |[.v (.slice Ξ 0 0)]=>Θ (0,[])
 |_=>Ξ
def Fu(e B:Nat):DF:=λargs bs=>match bs with
 |[]=>(match SV args with
  |some _=>DH e SV args []
  |none=>DH e (B7 e B) args [])
 |[k]=>(match args with
  |[.sl 0 o n e']=>(match Nat.beq e' e,Nat.ble (o+n*e) k.cells.length,Gv ((k.cells.drop o).take (n*e)),Bj ((k.cells.drop o).take (n*e)),Nat.ble (n*B) 140737488355328 with
   |true,Δ,Δ,Δ,Δ=>Θ (.sl 1 0 n e,[.keep,.set ⟨(k.cells.drop o).take (n*e),Δ,Δ⟩])
   |_,_,_,_,_=>Ξ)
  |_=>Ξ)
 |_=>Ξ
theorem TB{P:Program}{f:Nat}{ety:TypeId}(e B:Nat) (h:∀(w:World) (A:Option Addr) (n c:Nat) (us:AO),us.length=n*e->n<=c->(n≠0->∃ g o,A=Θ ⟨g,o,Ξ⟩/\∀ j u,us[j]? = Θ u->w.cell? ⟨g,o+j,Ξ⟩=Θ u)->
  (∀ u∈us,u.oneCell'=Δ)->n*B<=140737488355328->Calls P f #[.slice A n c] w λe' w'=>∃ v',e'=.returned v'/\w'.ownsRow w.heap.size ety e v' n us/\Below w.heap.size w w'):BD (BL P f) (Fu e B):=by
 intro args bs r out hd
 cases bs with
 |nil=>
  unfold Fu at hd;simp only at hd;split at hd
  .have hg:BD (BL P f) (DH e SV):=I5 (CQ P f) e _ λargs n cells hr=>by
    unfold SV at hr;split at hr
    .simp only[ψ,Prod.mk.injEq]at hr
     obtain⟨rfl,rfl⟩:=hr;refine⟨rfl,by simp,λμ F w us hF hus=>?_⟩;simp only[RepList,Rep]at hus;obtain⟨v,t,rfl,⟨rfl,_⟩,rfl⟩:=hus;refine Calls.mono (h w Ξ 0 0 [] (by simp) (π _) (λh=>absurd rfl h) (by simp) (by simp)) ?_;rintro e' w' ⟨v',rfl,ho,hb⟩;exact⟨v',rfl,ety,[],ho,hb,by simp[RepList]⟩
    .cases hr
   exact hg args [] r out hd
  .exact JL e B h args [] r out hd
 |cons k bs=>
  cases bs with
  |cons=>cases hd
  |nil=>
   unfold Fu at hd;simp only at hd;split at hd
   .rename_i o n e'
    split at hd
    .rename_i c1 c2 c3 c4 c5
     simp only[ψ,Prod.mk.injEq]at hd;obtain⟨rfl,rfl⟩:=hd;have c1:=Nat.eq_of_beq_eq_true c1;subst c1;have c2:=AxL c2;have c5:=AxL c5;have hlen:((k.cells.drop o).take (n*e')).length=n*e':=by simp;omega
     refine⟨by simp,2,π _,λt ht μ F w KL us hKL hus hH hμ=>?_⟩;have hk0:(λb=>if b<t then [k][b]? else look b KL) 0=Θ k:=by
      show (if 0<t then [k][0]? else look 0 KL)=_
      rw[Ac (by omega)];rfl
     have h1:(λb=>if b<t then [k][b]? else look b KL) 1=Ξ:=by
      show (if 1<t then [k][1]? else look 1 KL)=_
      rw[Ac (by omega)];rfl
     have hμ1:μ 1=Ξ:=hμ 1 (by simp) (by omega);simp only[RepList]at hus;obtain⟨v,tl,rfl,hv,rfl⟩:=hus;simp only[Rep]at hv;obtain⟨p,hp,hv⟩:=hv;obtain⟨p',hp',B⟩:=hH.blk 0 k hk0;rw[hp]at hp';injection hp' with hp'
     subst hp';obtain⟨vs,hvs,hcell⟩:∃ vs,RepList μ F w ((k.cells.drop o).take (n*e')) vs/\∀ j u,vs[j]? = Θ u->w.cell? ⟨p.g,p.o+o+j,Ξ⟩=Θ u:=by
      have:∀(m a:Nat),a+m<=k.cells.length->∃ vs,RepList μ F w ((k.cells.drop a).take m) vs/\∀ j u,vs[j]? = Θ u->w.cell? ⟨p.g,p.o+a+j,Ξ⟩=Θ u:=λm=>by
       induction m with
       |zero=>intro a _;exact⟨[],by simp[RepList],λj u hj=>by simp at hj⟩
       |succ m ih=>
        intro a ha;obtain⟨vs,g1,g2⟩:=ih (a+1) (by omega);obtain⟨u,hu1,hu2⟩:=B.cell a k.cells[a] (ξ (by omega));refine⟨u::vs,?_,λj x hj=>?_⟩
        .rw[List.drop_eq_getElem_cons (by omega),List.take_succ_cons]
         simp only[RepList];exact⟨u,vs,rfl,hu2,g1⟩
        .cases j with
         |zero=>simp at hj;subst hj;exact hu1
         |succ j=>
          have:=g2 j x (by simpa using hj)
          rwa [show p.o+(a+1)+j=p.o+a+(j+1) by omega]at this
      exact this (n*e') o (by omega)
     have hone:∀ u∈vs,u.oneCell'=Δ:=λu hu=>by
      obtain⟨j,hj,rfl⟩:=List.getElem_of_mem hu;have hj2:j<((k.cells.drop o).take (n*e')).length:=by rw[←hvs.length];exact hj
      obtain⟨u,a1,a2⟩:=hvs.get (ξ hj2);rw[ξ hj]at a1
      cases a1
      rw[Ga]at c3;exact a2.one (List.all_eq_true.1 c3 _ (List.getElem_mem hj2))
     have hargs:∃ A c,v=.slice A n c/\n<=c/\(n≠0->∃ g q,A=Θ ⟨g,q,Ξ⟩/\∀ j u,vs[j]? = Θ u->w.cell? ⟨g,q+j,Ξ⟩=Θ u):=by
      rcases hv with⟨rfl,rfl⟩|⟨q,c,rfl,hq,hnc,_,_⟩
      .exact⟨Ξ,0,rfl,π _,λh=>absurd rfl h⟩
      .refine⟨_,c,rfl,hnc,λhn0=>⟨p.g,q,rfl,λj u hj=>?_⟩⟩
       rw[hq (by omega)];exact hcell j u hj
     obtain⟨A,c,rfl,hnc,hA⟩:=hargs;refine Calls.mono (h w A n c vs (by rw[hvs.length,hlen]) hnc hA hone c5) ?_;rintro e2 w' ⟨v',rfl,ho,hb⟩;obtain⟨μ',b1,b2,b3,b4⟩:=Aj1 hH hb h1 hμ1 c4 hlen ho hvs;refine⟨v',rfl,μ',F,b2,?_,b4,D5 F hb,λb hb=>b1 b ?_⟩
     .have e2:(λb=>if b=1 then Θ (⟨(k.cells.drop o).take (n*e'),Δ,Δ⟩:ABlk) else(λb=>if b<t then [k][b]? else look b KL) b)=λb=>if b<t then Du [k] [BO.keep,BO.set ⟨(k.cells.drop o).take (n*e'),Δ,Δ⟩] b else look b KL:=by
       funext b
       match b with
       |0=>
        rw[Ad (by decide),Ac (show 0<t by omega)]
        show (if 0<t then [k][0]? else look 0 KL)=_
        rw[Ac (by omega)];rfl
       |1=>
        rw[Ac rfl,Ac (by omega)];rfl
       |b+2=>
        rw[Ad (by omega)]
        show (if b+2<t then [k][b+2]? else look (b+2) KL)=_
        by_cases hbt:b+2<t
        .rw[Ac hbt,Ac hbt]
         unfold Du;simp
        .rw[Ad hbt,Ad hbt]
      rw[←e2];exact b3
     .rcases hb with hb|hb
      .simp at hb;omega
      .simp at hb;omega
    .cases hd
   .cases hd
theorem Ik:BD (BL Av9 135) (Fu 3 40):=TB 3 40 λw A n c us h1 h2 h3 h4 h5=>Oe w A n c us h1 h2 h3 h4 h5
