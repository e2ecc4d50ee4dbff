/- A seat of D: tables of f -/
import Derived.Test.YtpncilciembjdaaGreatDoorJAS
import Derived.Test.YtpncilciembjdaaGreatDoorJAT
set_option linter.all false
open Bool renaming true->U
open List renaming getElem?_eq_getElem->δ
open Nat renaming le_of_ble_eq_true->At7,le_refl->η,mul_le_mul_right->Aub,zero_add->Ato
open Option renaming none->Θ,some->Δ
namespace Go.Proofs.YtpncilciembjdaaGreatDoor
noncomputable section
open Option.some renaming injEq->θ
open Tryz renaming prog->ζ
open Go.RowKit
def Rh:List (List (Nat × MFn)):=[Ma]
def Uv:List (Nat × DF):=[(107,(AB Ah Jf).ask (.fn 107)),(59,(AB Ah BN).ask (.fn 59))]
def Ol:Seat:=CU Aq Rh.flatten Uv
def DP4:Orc:=AB Ah Ol
set_option maxRecDepth 100000 in
theorem AnD:Dp ζ Bn Rh:=by
 repeat' first|exact trivial|refine⟨⟨_,_,_,rfl⟩,by kernel_rfl,?_⟩|refine⟨?_,?_⟩
theorem AnT:(Da Rh&&Fk Rh.flatten Uv)=U:=by kernel_rfl
theorem AoM:Knows Aq Ma DP4:=BD AnT (i:=0) rfl
section
variable {args:Aa} {bs:List ABlk} {r:AV × List BO}
theorem TO(h:((AB Ah Jf).ask (.fn 107)) args bs=Δ r):DP4.ask (.fn 107) args bs=Δ r:=AF rfl h
theorem Y8(h:((AB Ah BN).ask (.fn 59)) args bs=Δ r):DP4.ask (.fn 59) args bs=Δ r:=AF rfl h
end
theorem Yy(h:Dr ζ Uv):SeatOk ζ Bn Ol:=Cx GW Cv AnD h
theorem AhN{μ:Mu}{F:AP}{w w':World}{H:Nat->Option ABlk}(hH:HRep μ F w H)(hb:Below w.heap.size w w'){b0:Nat}(h0:H b0=Θ)(hμ0:μ b0=Θ){ety:TypeId}{e n:Nat}{cells:Aa}{vs:AA}{u:Value}
  (hpure:AU cells=U) (hlen:cells.length=n*e) (ho:w'.ownsRow w.heap.size ety e u n vs) (hc:RepList μ F w cells vs) :
  ∃ μ',(∀ b,b≠b0->μ' b=μ b)/\Rep μ' F w' (.sl b0 0 n e) u/\HRep μ' F w' (λb=>if b=b0 then Δ ⟨cells,U,U⟩ else H b)/\Later μ μ' F F w w':=by
 obtain⟨hl,ho2⟩:=ho;rcases ho2 with⟨rfl,rfl⟩|⟨g,cap,cur,rfl,hg,hcur,hn,hm2,hsz,htk⟩
 .have hc0:cells=[]:=List.eq_nil_of_length_eq_zero (by rw[hlen];simp)
  subst hc0;obtain⟨μ',a1,a2,a3,a4⟩:=H9 hH hb h0 hμ0 ⟨0,0,0⟩ ⟨[],U,U⟩ rfl (.inr rfl) (η _) (λi x hx=>by simp at hx) (λi hi=>absurd hi (Nat.not_lt_zero _)) rfl;refine⟨μ',a2,?_,a3,a4⟩;unfold Rep;exact⟨_,a1,.inl ⟨rfl,rfl⟩⟩
 .have cellw:∀ i,i<cap*e->w'.cell? ⟨g,i,Θ⟩=cur[i]?:=λi _=>cell_of_row w' g i cur ety (0,0) hcur
  have vsl:vs.length=cells.length:=hc.length;obtain⟨μ',a1,a2,a3,a4⟩:=H9 hH hb h0 hμ0 ⟨g,0,cap*e⟩ ⟨cells,U,U⟩ rfl (.inl hg) (by show cells.length<=cap*e;rw[hlen];exact Aub _ hn)
   (λi x hx=>by
    obtain⟨u,h1,h2⟩:=hc.get hx;refine⟨u,?_,h2⟩;have hi:i<cells.length:=by
     rcases Nat.lt_or_ge i cells.length with h|h
     .exact h
     .rw[List.getElem?_eq_none h]at hx;cases hx
    have hi2:i<cap*e:=by rw[hlen]at hi;exact Nat.lt_of_lt_of_le hi (Aub _ hn)
    show w'.cell? ⟨g,0+i,Θ⟩=Δ u
    rw[Ato,cellw i hi2,←h1,←htk,List.getElem?_take,Ac (by rw[hlen]at hi;exact hi),Array.getElem?_toList])
   (λi hi=>by
    have hi:i<cap*e:=hi;refine⟨⟨cur[i]'(by omega),?_⟩,?_⟩
    .show w'.cell? ⟨g,0+i,Θ⟩=_
     rw[Ato,cellw i hi];exact Array.getElem?_eq_getElem _
    .show w'.frozen? ⟨g,0+i,Θ⟩=false
     simp[World.frozen?,hcur]) hpure
  refine⟨μ',a2,?_,a3,a4⟩;unfold Rep;exact⟨_,a1,.inr ⟨0,cap,rfl,λ_=>rfl,hn,hm2,by show 0+cap*e<=cap*e;omega⟩⟩
def QW:Aa->Option (Nat × Aa)
 |[.v (.slice Θ 0 0)]=>Δ (0,[])
 |_=>Θ
def Gg(e B:Nat):DF:=λargs bs=>match bs with
 |[]=>(match QW args with
  |some _=>DS e QW args []
  |none=>DS e (Ce e B) args [])
 |[k]=>(match args with
  |[.sl 0 o n e']=>(match Nat.beq e' e,Nat.ble (o+n*e) k.cells.length,I9 ((k.cells.drop o).take (n*e)),AU ((k.cells.drop o).take (n*e)),Nat.ble (n*B) 140737488355328 with
   |true,U,U,U,U=>Δ (.sl 1 0 n e,[.keep,.set ⟨(k.cells.drop o).take (n*e),U,U⟩])
   |_,_,_,_,_=>Θ)
  |_=>Θ)
 |_=>Θ
theorem RQ{P:Program}{f:Nat}{ety:TypeId}(e B:Nat) (h:∀(w:World) (A:Option Addr) (n c:Nat) (us:AA),us.length=n*e->n<=c->(n≠0->∃ g o,A=Δ ⟨g,o,Θ⟩/\∀ j u,us[j]? = Δ u->w.cell? ⟨g,o+j,Θ⟩=Δ u)->
  (∀ u∈us,u.oneCell'=U)->n*B<=140737488355328->Calls P f #[.slice A n c] w λe' w'=>∃ v',e'=.returned v'/\w'.ownsRow w.heap.size ety e v' n us/\Below w.heap.size w w'):A1 (Bi P f) (Gg e B):=by
 intro args bs r out hd
 cases bs with
 |nil=>
  unfold Gg at hd;simp only at hd;split at hd
  .have hg:A1 (Bi P f) (DS e QW):=H7 (Ci P f) e _ λargs n cells hr=>by
    unfold QW at hr;split at hr
    .simp only[θ,Prod.mk.injEq]at hr
     obtain⟨rfl,rfl⟩:=hr;refine⟨rfl,by simp,λμ F w us hF hus=>?_⟩;simp only[RepList,Rep]at hus;obtain⟨v,t,rfl,⟨rfl,_⟩,rfl⟩:=hus;refine Calls.mono (h w Θ 0 0 [] (by simp) (η _) (λh=>absurd rfl h) (by simp) (by simp)) ?_;rintro e' w' ⟨v',rfl,ho,hb⟩;exact⟨v',rfl,ety,[],ho,hb,by simp[RepList]⟩
    .cases hr
   exact hg args [] r out hd
  .exact IR e B h args [] r out hd
 |cons k bs=>
  cases bs with
  |cons=>cases hd
  |nil=>
   unfold Gg at hd;simp only at hd;split at hd
   .rename_i o n e'
    split at hd
    .rename_i c1 c2 c3 c4 c5
     simp only[θ,Prod.mk.injEq]at hd;obtain⟨rfl,rfl⟩:=hd;have c1:=Nat.eq_of_beq_eq_true c1;subst c1;have c2:=At7 c2;have c5:=At7 c5;have hlen:((k.cells.drop o).take (n*e')).length=n*e':=by simp;omega
     refine⟨by simp,2,η _,λt ht μ F w KL us hKL hus hH hμ=>?_⟩;have hk0:(λb=>if b<t then [k][b]? else look b KL) 0=Δ k:=by
      show (if 0<t then [k][0]? else look 0 KL)=_
      rw[Ac (by omega)];rfl
     have h1:(λb=>if b<t then [k][b]? else look b KL) 1=Θ:=by
      show (if 1<t then [k][1]? else look 1 KL)=_
      rw[Ac (by omega)];rfl
     have hμ1:μ 1=Θ:=hμ 1 (by simp) (by omega);simp only[RepList]at hus;obtain⟨v,tl,rfl,hv,rfl⟩:=hus;simp only[Rep]at hv;obtain⟨p,hp,hv⟩:=hv;obtain⟨p',hp',B⟩:=hH.blk 0 k hk0;rw[hp]at hp';injection hp' with hp'
     subst hp';obtain⟨vs,hvs,hcell⟩:∃ vs,RepList μ F w ((k.cells.drop o).take (n*e')) vs/\∀ j u,vs[j]? = Δ u->w.cell? ⟨p.g,p.o+o+j,Θ⟩=Δ u:=by
      have:∀(m a:Nat),a+m<=k.cells.length->∃ vs,RepList μ F w ((k.cells.drop a).take m) vs/\∀ j u,vs[j]? = Δ u->w.cell? ⟨p.g,p.o+a+j,Θ⟩=Δ u:=λm=>by
       induction m with
       |zero=>intro a _;exact⟨[],by simp[RepList],λj u hj=>by simp at hj⟩
       |succ m ih=>
        intro a ha;obtain⟨vs,g1,g2⟩:=ih (a+1) (by omega);obtain⟨u,hu1,hu2⟩:=B.cell a k.cells[a] (δ (by omega));refine⟨u::vs,?_,λj x hj=>?_⟩
        .rw[List.drop_eq_getElem_cons (by omega),List.take_succ_cons]
         simp only[RepList];exact⟨u,vs,rfl,hu2,g1⟩
        .cases j with
         |zero=>simp at hj;subst hj;exact hu1
         |succ j=>
          have:=g2 j x (by simpa using hj)
          rwa [show p.o+(a+1)+j=p.o+a+(j+1) by omega]at this
      exact this (n*e') o (by omega)
     have hone:∀ u∈vs,u.oneCell'=U:=λu hu=>by
      obtain⟨j,hj,rfl⟩:=List.getElem_of_mem hu;have hj2:j<((k.cells.drop o).take (n*e')).length:=by rw[←hvs.length];exact hj
      obtain⟨u,a1,a2⟩:=hvs.get (δ hj2);rw[δ hj]at a1
      cases a1
      rw[Fl]at c3;exact a2.one (List.all_eq_true.1 c3 _ (List.getElem_mem hj2))
     have hargs:∃ A c,v=.slice A n c/\n<=c/\(n≠0->∃ g q,A=Δ ⟨g,q,Θ⟩/\∀ j u,vs[j]? = Δ u->w.cell? ⟨g,q+j,Θ⟩=Δ u):=by
      rcases hv with⟨rfl,rfl⟩|⟨q,c,rfl,hq,hnc,_,_⟩
      .exact⟨Θ,0,rfl,η _,λh=>absurd rfl h⟩
      .refine⟨_,c,rfl,hnc,λhn0=>⟨p.g,q,rfl,λj u hj=>?_⟩⟩
       rw[hq (by omega)];exact hcell j u hj
     obtain⟨A,c,rfl,hnc,hA⟩:=hargs;refine Calls.mono (h w A n c vs (by rw[hvs.length,hlen]) hnc hA hone c5) ?_;rintro e2 w' ⟨v',rfl,ho,hb⟩;obtain⟨μ',b1,b2,b3,b4⟩:=AhN hH hb h1 hμ1 c4 hlen ho hvs;refine⟨v',rfl,μ',F,b2,?_,b4,Dz F hb,λb hb=>b1 b ?_⟩
     .have e2:(λb=>if b=1 then Δ (⟨(k.cells.drop o).take (n*e'),U,U⟩:ABlk) else(λb=>if b<t then [k][b]? else look b KL) b)=λb=>if b<t then C8 [k] [BO.keep,BO.set ⟨(k.cells.drop o).take (n*e'),U,U⟩] b else look b KL:=by
       funext b
       match b with
       |0=>
        rw[Ad (by decide),Ac (show 0<t by omega)]
        show (if 0<t then [k][0]? else look 0 KL)=_
        rw[Ac (by omega)];rfl
       |1=>
        rw[Ac rfl,Ac (by omega)];rfl
       |b+2=>
        rw[Ad (by omega)]
        show (if b+2<t then [k][b+2]? else look (b+2) KL)=_
        by_cases hbt:b+2<t
        .rw[Ac hbt,Ac hbt]
         unfold C8;simp
        .rw[Ad hbt,Ad hbt]
      rw[←e2];exact b3
     .rcases hb with hb|hb
      .simp at hb;omega
      .simp at hb;omega
    .cases hd
   .cases hd
theorem G9:A1 (Bi ζ 135) (Gg 3 40):=RQ 3 40 λw A n c us h1 h2 h3 h4 h5=>M8 w A n c us h1 h2 h3 h4 h5
