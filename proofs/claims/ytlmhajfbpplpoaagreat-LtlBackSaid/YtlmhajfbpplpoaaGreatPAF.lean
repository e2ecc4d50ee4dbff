/- append over the small he -/
import Derived.Test.YtlmhajfbpplpoaaGreatPAE
set_option linter.all false
open Array renaming length_toList->Ar6,size_append->AtG,toList_append->AsW
open List renaming all_eq_true->Arg,eq_nil_of_length_eq_zero->ArK,getElem?_cons_succ->ArF,getElem?_cons_zero->ArZ,getElem?_eq_getElem->Ψ,getElem?_toArray->Asd,getElem_mem->Ars,getElem_of_mem->Asx,length_append->η,length_map->ArA,length_take->ArG,map_map->AuI,mem_map->AsE,mem_of_mem_drop->Ash,mem_of_mem_take->AsB,size_toArray->Aup,take_length->Asv
open Nat renaming add_assoc->Aro,add_mul->Ar4,add_zero->Ar5,le_refl->ω,min->Asf,min_le_left->Auz,mul_le_mul_right->Ar3
namespace Go.Proofs.YtlmhajfbpplpoaaGreat
open Option.some renaming injEq->Θ
open Go.RowKit
section
variable {P:Program} {μ:Mu} {F:Az} {w:World} {H:AH}
theorem HRep.weaken{H H':Nat->Option ABlk}(h:HRep μ F w H)(hs:∀ b k',H' b=some k'->∃ k,H b=some k/\k'.cells=k.cells/\k'.st=k.st/\(k'.ex=true->k.ex=true)):HRep μ F w H':=by
 have own:∀{k k':ABlk} {r i:Nat},k'.cells=k.cells->k'.st=k.st->(k'.ex=true->k.ex=true)->k'.owns r i->k.owns r i:=by
  intro k k' r i h1 h2 h3 h4;unfold ABlk.owns at h4 ⊢;rw[h1,h2]at h4;rcases h4 with h4|⟨a,b,c⟩
  .exact .inl h4
  .exact .inr ⟨a,b,h3 c⟩
 refine⟨λb k' hk=>?_,λb b' k1 k2 p p' hne h1 h2 q1 q2 i i' o1 o2=>?_,h.prot⟩
 .obtain⟨k,h1,h2,h3,h4⟩:=hs b k' hk
  obtain⟨p,hp,hB⟩:=h.blk b k h1;refine⟨p,hp,⟨λi x hx=>hB.cell i x (by rw[←h2];exact hx),by rw[h2];exact hB.room,hB.there,λhf i hi=>hB.kept (by rw[←h3];exact hf) i (by rw[←h2];exact hi),λi hi=>hB.free i (own h2 h3 h4 hi),λhx=>by rw[h2];exact hB.pure (h4 hx)⟩⟩
 .obtain⟨j1,a1,a2,a3,a4⟩:=hs b k1 h1
  obtain⟨j2,b1,b2,b3,b4⟩:=hs b' k2 h2;exact h.apart b b' j1 j2 p p' hne a1 b1 q1 q2 i i' (own a2 a3 a4 o1) (own b2 b3 b4 o2)
theorem Tl{olds us:List Value}{z:Array Value}{n m cap size:Nat}(ho:olds.length=n*size)(hu:us.length=m*size)(hz:z.size=size)(hc:n+m<=cap) :
  (olds.toArray++us.toArray++Builtin.zeroCells z (cap-(n+m))).size=cap*size/\(olds.toArray++us.toArray++Builtin.zeroCells z (cap-(n+m))).toList.take ((n+m)*size)=olds++us:=by
 refine⟨?_,?_⟩
 .rw[AtG,AtG,size_zeroCells,hz,Aup,Aup,ho,hu,←Ar4,←Ar4]
  congr 1
  omega
 .rw[AsW,AsW]
  have:(olds++us).length=(n+m)*size:=by rw[η,ho,hu,Ar4]
  rw[←this];exact List.take_left
theorem RepList.append{xs ys:List AV}:∀{us vs:List Value},RepList μ F w xs us->RepList μ F w ys vs->RepList μ F w (xs++ys) (us++vs):=by
 induction xs with
 |nil=>intro us vs h h';simp only[RepList]at h;subst h;exact h'
 |cons x r ih=>
  intro us vs h h';simp only[RepList]at h;obtain⟨u,t,rfl,h1,h2⟩:=h;simp only[List.cons_append,RepList];exact⟨u,t++vs,rfl,h1,ih h2 h'⟩
end
set_option maxHeartbeats 1000000 in
theorem PZ{P:Program}{μ:Mu}{F:Az}{w:World}{H:AH}{t u ty:TypeId}{s x:AV}{v y:Value}(hs:Rep μ F w s v)(hx:Rep μ F w x y)(hH:HRep μ F w H.get)(hf:BR μ H) :
  ValS P (Builtin.append_ #[t,u] ty #[v,y]) (appendA P [t,u] s x) μ F w H:=λr H' ft h=>by
 unfold appendA at h;simp only at h;rcases h1:Cg P t with _|et<;>rw[h1]at h
 .exact(Ai h).elim
 rcases h2:I8 P u with _|_<;>rw[h2]at h
 .exact(Ai h).elim
 simp only at h;rcases h3:P.info? et with _|i<;>rw[h3]at h
 .exact(Ai h).elim
 simp only at h;rcases h4:i.zero with _|z<;>rw[h4]at h
 .exact(Ai h).elim
 simp only at h;rcases Bj h with⟨⟨hzs,hpos⟩,h⟩|⟨_,h⟩
 rotate_left
 .exact(Ai h).elim
 obtain⟨⟨m,news⟩,H1,f1,f2,h5,h⟩:=bind_some h;obtain⟨hHH,hpn,us,hul,hnews⟩:=I6 hx hH h5;have hHH:=hHH.symm;subst hHH;simp only at h;have ht:=Ck h1;have hnl:news.length=m*i.size:=by rw[←hul.length,hnews.size]
 rcases Bj h with⟨hm,h⟩|⟨hm,h⟩
 .-- nothing is appended
  rcases Bj h with⟨hsl,h⟩|⟨_,h⟩
  rotate_left
  .exact(Ai h).elim
  obtain⟨rfl,rfl⟩:=Aj h;subst hm;have hus:us=[]:=ArK (by rw[hnews.size,Nat.zero_mul]);subst hus;have fin:∀ A n c,v=.slice A n c->n<=c->∃ u_1 w',(Builtin.append_ #[t,u] ty #[v,y]).run P w=.ok u_1 w'/\Post μ F w H' r H' u_1 w':=by
   intro A n c hv hnc;subst hv;have:=Ix (P:=P) (ty:=ty) (A:=A) (w':=w) ht h2 h3 hnews (n:=n) (c:=c) (by omega) (λa _=>rfl) (λ_=>rfl);exact⟨_,_,this,D8 hs hH⟩
  unfold TT at hsl;split at hsl
  .simp only[Rep]at hs
   obtain⟨p,hp,⟨_,rfl⟩|⟨q,c,rfl,hq,hnc,hcm,hroom⟩⟩:=id hs
   .exact fin _ _ _ rfl (ω _)
   exact fin _ _ _ rfl hnc
  .simp only[Rep]at hs
   obtain⟨_,A,c,rfl,hnc,hcm,hne⟩:=id hs;exact fin _ _ _ rfl hnc
  .simp only[Rep]at hs
   obtain⟨rfl,_⟩:=id hs;exact fin _ _ _ rfl (ω _)
  .cases hsl
 .rcases Bj h with⟨hone,h⟩|⟨_,h⟩
  rotate_left
  .exact(Ai h).elim
  have hoc:∀ y∈us,y.oneCell'=true:=λy hy=>by
   obtain⟨j,hj,rfl⟩:=Asx hy;have hj2:j<news.length:=by rw[←hul.length];exact hj
   obtain⟨u,a1,a2⟩:=hul.get (Ψ hj2);rw[Ψ hj]at a1
   cases a1
   exact a2.one (Arg.1 hone _ (Ars hj2))
  have grown:∀(G:AH) (st:Bool) (n c:Nat) (olds:List Value) (cs:List AV) (b:Nat) (G1:AH) (ft1:Foot),HRep μ F w G.get->BR μ G->G.next=H.next->AM.newB ⟨cs++news,st,true⟩ G=some (b,G1,ft1)->
    RepList μ F w cs olds->olds.length=n*i.size->n+m<=maxLen->AP cs=true->
    Post μ F w H (.sl b 0 (n+m) i.size) G1 (.slice (some ⟨w.heap.size,0,none⟩) (n+m) (grownCap w (n+m) c et)) (w.drew.alloc (.cells (olds.toArray++us.toArray++Builtin.zeroCells z.cells (grownCap w (n+m) c et-(n+m))) et)):=by
   intro G st n c olds cs b G1 ft1 hG hfG hGn hnew hcs hol h63 hpc;have hcap:=grownCap_ge w (n+m) c et;have hcapm:=grownCap_le_maxLen w (n+m) c et h63;obtain⟨hsize,htake⟩:=Tl (z:=z.cells) (cap:=grownCap w (n+m) c et) hol hnews.size hzs hcap;obtain⟨d1,d2,d3⟩:=hG.drew;generalize (olds.toArray++us.toArray++Builtin.zeroCells z.cells (grownCap w (n+m) c et-(n+m)))=arr at *;have hlen:(cs++news).length=(n+m)*i.size:=by rw[η,←hcs.length,hol,hnl,Ar4]
   have hle:(n+m)*i.size<=arr.size:=by rw[hsize];exact Ar3 _ hcap
   obtain⟨hb,hr⟩:=E0 hnew;simp only[Prod.mk.injEq]at hr;obtain⟨rfl,rfl,rfl⟩:=hr;have hfr:=hfG _ (ω _) hb;obtain⟨q1,q2⟩:=TN d1 hfr (cs++news) arr et (0,0) true (.inr rfl) (by rw[hlen];exact hle) (by
    rw[hlen,htake];exact(RepList.append hcs hul).later' d2) (λ_=>by rw[Bz]at hpc hpn ⊢;simp[hpc,hpn])
   have hws:w.drew.heap.size=w.heap.size:=rfl;rw[hws]at q1 q2;have hWS:WStep F w (w.drew.alloc (.cells arr et)):=WStep.trans (λ_ _ h=>h) d3 (WStep.alloc _ _ _);have hLt:=d2.trans q2
   cases st with
   |true=>
    refine⟨_,F,?_,?_,hLt,hWS,λc hc=>N6 (by have hc':c<H.next\/G.next+1<=c:=hc;omega)⟩
    .simp only[Rep]
     exact⟨_,by unfold Mu.set;rw[if_pos rfl],.inr ⟨0,_,rfl,λ_=>rfl,hcap,hcapm,by simp only;omega⟩⟩
    .rw[HW]
     exact q1
   |false=>
    obtain⟨k1,k2⟩:=QD q1 (b:=G.next) (by rw[if_pos rfl]) (by unfold Mu.set;rw[if_pos rfl]);refine⟨_,_,?_,?_,hLt.trans k2,hWS,λc hc=>N6 (by have hc':c<H.next\/G.next+1<=c:=hc;omega)⟩
    .simp only[Rep]
     exact⟨_,by unfold Mu.set;rw[if_pos rfl],.inr ⟨0,_,rfl,λ_=>rfl,hcap,hcapm,by simp only;omega⟩⟩
    .rw[HW]
     refine k1.less λc k hk=>?_
     by_cases e:c=G.next
     .rw[if_pos e]at hk ⊢
      exact hk
     .rw[if_neg e]at hk ⊢
      rw[if_neg e];exact hk
  cases s with
  |v z'=>
   simp only at h;rcases Bj h with⟨⟨c0,c1,c2⟩,hh⟩|⟨_,hh⟩
   rotate_left
   .exact(Ai hh).elim
   have hz':=Jx c0;subst hz';obtain⟨b,H2,g1,g2,h6,h7⟩:=bind_some hh;obtain⟨rfl,rfl⟩:=Aj h7;simp only[Rep]at hs;obtain⟨rfl,_⟩:=hs;have hrun:=EM (P:=P) (ty:=ty) (A:=none) (n:=0) (c:=0) ht h2 h3 h4 hnews (olds:=[]) (λW _=>by simp[Builtin.firstCells]) (by omega) (by omega) (by simpa using c1);refine⟨_,_,hrun,?_⟩;have:=grown H true 0 0 [] [] b H' g1 hH hf rfl (by simpa using h6) (by simp only[RepList]) (by simp) (by omega) rfl;simpa only[Nat.zero_add]using this
  |sl b o n e=>
   simp only at h;rcases Bj h with⟨⟨he,c1,c2⟩,h⟩|⟨_,h⟩
   rotate_left
   .exact(Ai h).elim
   subst he;obtain⟨k,H2,g1,g2,h6,hh⟩:=bind_some h;clear h;obtain⟨hk,hHH⟩:=BM h6;subst hHH;rcases Bj hh with⟨⟨hex,hol,hfull⟩,hh2⟩|⟨_,hh2⟩
   rotate_left
   .exact(Ai hh2).elim
   obtain⟨_,H3,g3,g4,h7,h8⟩:=bind_some hh2;obtain⟨b',H4,g5,g6,h9,h10⟩:=bind_some h8;obtain⟨rfl,hHH⟩:=Aj h10;subst hHH;have hH3:H3.next=H2.next/\H3.top=H2.top/\∀ c,H3.get c=if c=b then(if k.st=true then none else some { k with ex:=false }) else H2.get c:=by
    rcases Bj h7 with⟨hst,h7⟩|⟨hst,h7⟩
    .have:=Qp h7
     subst this;exact⟨rfl,rfl,λc=>by rw[AH.get_del,if_pos hst]⟩
    .have:=He h7
     subst this;exact⟨rfl,rfl,λc=>by rw[AH.get_put,if_neg hst]⟩
   obtain⟨n1,n2,n3⟩:=hH3;simp only[Rep]at hs;obtain⟨p,hp,hvv⟩:=hs;obtain⟨p',hp',hB⟩:=hH.blk b k hk;rw[hp]at hp'
   cases hp'
   obtain⟨hb9,hr9⟩:=E0 h9;simp only[Prod.mk.injEq]at hr9;obtain⟨hb',hH4,_⟩:=hr9;have hfr:μ b'=none:=hf b' (by rw[hb',n1];exact ω _) (by
    have:H3.below b':=by rw[hb'];exact hb9
    unfold AH.below at this ⊢
    rwa [n2]at this)
   have hbb:b≠b':=by rintro rfl;rw[hp]at hfr;cases hfr
   have hlen0:((k.cells.take (o+n*i.size)).drop o).length=n*i.size:=by
    rw[List.length_drop,ArG];omega
   have hpk:AP ((k.cells.take (o+n*i.size)).drop o)=true:=by
    have:=hB.pure hex;rw[Bz,Arg]at this ⊢;exact λx hx=>this x (AsB (Ash hx))
   have hweak:HRep μ F w H3.get:=hH.weaken λd k' hk'=>by
    rw[n3]at hk'
    by_cases e1:d=b
    .subst e1
     rw[if_pos rfl]at hk';split at hk'
     .cases hk'
     .simp only[Θ]at hk'
      subst hk';exact⟨k,hk,rfl,rfl,λh=>by cases h⟩
    .rw[if_neg e1]at hk'
     exact⟨k',hk',rfl,rfl,id⟩
   have hfr3:BR μ H3:=λd hd hbl=>hf d (by rw[←n1];exact hd) (by
    unfold AH.below at hbl ⊢
    rwa [n2]at hbl)
   rcases hvv with⟨hn0,rfl⟩|⟨q,c,rfl,hq,hnc,hcm,hroom⟩
   .subst hn0
    have hnil:((k.cells.take (o+0*i.size)).drop o)=[]:=ArK (by rw[hlen0];simp);have hrun:=EM (P:=P) (ty:=ty) (A:=none) (n:=0) (c:=0) ht h2 h3 h4 hnews (olds:=[]) (λW _=>by simp[Builtin.firstCells]) (by omega) c2 c1;exact⟨_,_,hrun,grown H3 k.st 0 0 [] ((k.cells.take (o+0*i.size)).drop o) b' H' g5 hweak hfr3 n1 h9 (by rw[hnil];simp only[RepList]) (by simp) c2 hpk⟩
   by_cases hfit:n+m<=c
   .have hcl:n*i.size+m*i.size<=c*i.size:=by rw[←Ar4];exact Ar3 _ hfit
    obtain⟨q1,q2⟩:=Ze hH hk hp hfr hex o (o+n*i.size) (by omega) hol hfull;obtain⟨F',s1,s2,s3⟩:=Zd q1 (b:=b') (k:=⟨(k.cells.take (o+n*i.size)).drop o,k.st,true⟩) (p:=⟨p.g,p.o+o,p.room-o⟩) (by rw[if_pos rfl]) (by unfold Mu.set;rw[if_pos rfl]) rfl news us
     (by simp only[hlen0,hnl];omega) (hul.later' q2) hpn
    simp only[hlen0]at s1 s2 s3;have hqq:q=p.o+o:=hq (by omega);have hul2:us.length=m*i.size:=hnews.size;have hstore:=run_storeCells_cells (P:=P) p.g (p.o+o+n*i.size) us 0 w (λj hj=>by
      obtain⟨⟨y,hy⟩,_⟩:=hB.there (o+n*i.size+j) (by omega);rw[←Aro,←Aro]at hy;rw[Ar5,hy];rfl) (λj hj=>by
      have:=(hB.there (o+n*i.size+j) (by omega)).2;rw[←Aro,←Aro]at this;rw[Ar5];exact this) hoc
    have hrun:=Ix (P:=P) (ty:=ty) (A:=some ⟨p.g,q,none⟩) (w':=w.setCells p.g (p.o+o+n*i.size) us) ht h2 h3 hnews hfit (λa ha=>by
     cases ha
     rw[hqq,Addr.add_mid];rw[Ar5]at hstore;exact hstore) (λh=>by cases h)
    refine⟨_,_,hrun,μ.set b' ⟨p.g,p.o+o,p.room-o⟩,F',?_,?_,q2.trans s2,s3,λd hd=>N6 ?_⟩
    .simp only[Rep]
     exact⟨⟨p.g,p.o+o,p.room-o⟩,by unfold Mu.set;rw[if_pos rfl],.inr ⟨q,c,rfl,λ_=>hqq,hfit,hcm,by simp only;omega⟩⟩
    .refine s1.less λd k' hk'=>?_
     rw[hH4,←hb',Eg,n3]at hk'
     by_cases e1:d=b'
     .rw[if_pos e1]at hk' ⊢
      exact hk'
     .rw[if_neg e1]at hk' ⊢
      rw[if_neg e1];exact hk'
    .rw[hb',n1]
     have hd':d<H2.next\/H3.next+1<=d:=by rw[hH4]at hd;exact hd
     omega
   .-- the row moves
    have holds:∃ olds,RepList μ F w ((k.cells.take (o+n*i.size)).drop o) olds/\olds.length=n*i.size/\∀ W:World,W.heap=w.heap->(Builtin.firstCells i.size n (.slice (some ⟨p.g,q,none⟩) n c)).run P W=.ok olds.toArray W:=by
     by_cases hn0:n=0
     .subst hn0
      refine⟨[],?_,by simp,λW _=>by simp[Builtin.firstCells,loadCells,loadCellsFrom]⟩;have:((k.cells.take (o+0*i.size)).drop o)=[]:=ArK (by rw[hlen0];simp);rw[this];simp only[RepList]
     .obtain⟨us',hl,hcell⟩:=DG (μ:=μ) (F:=F) (w:=w) (g:=p.g) (o:=p.o+o) (cs:=(k.cells.take (o+n*i.size)).drop o) λj x hx=>by
       simp only[List.getElem?_drop,List.getElem?_take]at hx;split at hx
       .obtain⟨u,a1,a2⟩:=hB.cell (o+j) x hx
        exact⟨u,by rwa [Aro],a2⟩
       .cases hx
      have hul':us'.length=n*i.size:=by rw[hl.length,hlen0]
      refine⟨us',hl,hul',λW hW=>?_⟩;rw[hq (by omega)];have:=(LF (P:=P) (w:=w) (g:=p.g) (q:=p.o+o) (e:=i.size) (n:=n) (c:=c) hul' hcell).cells n W (ω _) hW
      rwa [←hul',Asv]at this
    obtain⟨olds,o1,o2,o3⟩:=holds;have hrun:=EM (P:=P) (ty:=ty) (A:=some ⟨p.g,q,none⟩) ht h2 h3 h4 hnews o3 (by omega) c2 c1;refine⟨_,_,hrun,?_⟩;refine grown H3 k.st n c olds ((k.cells.take (o+n*i.size)).drop o) b' H' g5 ?_ ?_ n1 h9 o1 o2 c2 (by
     have:=hB.pure hex;rw[Bz,Arg]at this ⊢;exact λx hx=>this x (AsB (Ash hx)))
    .refine hH.weaken λd k' hk'=>?_
     rw[n3]at hk'
     by_cases e1:d=b
     .subst e1
      rw[if_pos rfl]at hk';split at hk'
      .cases hk'
      .simp only[Θ]at hk'
       subst hk';exact⟨k,hk,rfl,rfl,λh=>by cases h⟩
     .rw[if_neg e1]at hk'
      exact⟨k',hk',rfl,rfl,id⟩
    .intro d hd hbl
     refine hf d (by rw[←n1];exact hd) ?_;unfold AH.below at hbl ⊢
     rwa [n2]at hbl
  |_=>exact(Ai h).elim
def Hp(P:Program)(Γ:FuncId->List AV->AM AV):Prop:=∀(f:FuncId) (args:List AV) (μ:Mu) (F:Az) (w:World) (H:AH) (IF:Array Value),RepList μ F w args IF.toList->HRep μ F w H.get->H.wf->BR μ H->
 ∀ r H' ft,Γ f args H=some (r,H',ft)->Calls P f IF w λe w'=>∃ u,e=.returned u/\Post μ F w H r H' u w'
def OpS(P:Program)(o:Oper)(a:Act)(m:AM AV)(μ:Mu)(F:Az)(w:World)(H:AH):Prop:=∀ r H' ft,m H=some (r,H',ft)->∀(next:Act->World->Prop) (Q:Exit->Act->World->Prop),
 (∀ u w',Post μ F w H r H' u w'->next (a.put o.dst u) w')->o.wp P a w next Q
theorem OpS.of_run{P:Program}{o:Oper}{a:Act}{m:AM AV}{μ:Mu}{F:Az}{w:World}{H:AH}(h:PX P (execOp a.eval o) m μ F w H):OpS P o a m μ F w H:=λr H' ft hm next Q hn=>by
 obtain⟨n,u,w',h1,h2,h3⟩:=h r H' ft hm;unfold Oper.wp;rw[h1];rcases h2 with rfl|⟨rfl,rfl⟩
 .rw[Oper.upon_value];exact hn _ _ h3
 .rw[Oper.upon_skip];exact hn _ _ h3
theorem Ou{μ:Mu}{F:Az}{w:World}:∀{cs:List AV} {l:List UInt8} {us:List Value},bytesOf cs=some l->RepList μ F w cs us->us=l.map λb=>.int .u8 b.toNat
 |[],l,us,h,hr=>by
  simp only[bytesOf,Θ]at h;simp only[RepList]at hr;subst h hr;rfl
 |x::r,l,us,h,hr=>by
  simp only[bytesOf]at h;simp only[RepList]at hr;obtain⟨u,t,rfl,h1,h2⟩:=hr;rcases e1:RQ x with _|c<;>rw[e1]at h
  .cases h
  rcases e2:bytesOf r with _|l'<;>rw[e2]at h
  .cases h
  simp only[Θ]at h;subst h;rw[Ou e2 h2,List.map_cons]
  congr 1
  unfold RQ at e1;split at e1
  .split at e1
   .rename_i n hn
    simp only[Θ]at e1;subst e1;simp only[Rep]at h1;rw[h1.1,hn]
   .cases e1
  .cases e1
theorem JW{P:Program}{t:TypeId}(h:EY P t=true):∃ e,P.underlying t=some (.slice e)/\P.underlying e=some (.int .u8):=by
 unfold EY at h;rcases h1:Cg P t with _|e<;>rw[h1]at h
 .cases h
 .simp only at h
  split at h
  .exact⟨e,Ck h1,‹_›⟩
  .cases h
theorem IY{P:Program}{t:TypeId}(h:B1 P t=true):P.underlying t=some .string:=by
 unfold B1 at h;split at h
 .assumption
 .cases h
theorem V4{μ:Mu}{F:Az}{w:World}{x:AV}{v:Value}(hx:Rep μ F w x v)(h:TT x=true):∃ A n c,v=.slice A n c/\(A=none->n=0\/∃ xs,x=.ls xs):=by
 unfold TT at h;split at h
 .simp only[Rep]at hx
  obtain⟨p,hp,⟨hn,rfl⟩|⟨q,c,rfl,_⟩⟩:=hx
  .exact⟨_,_,_,rfl,λ_=>.inl rfl⟩
  exact⟨_,_,_,rfl,λh=>by cases h⟩
 .simp only[Rep]at hx
  obtain⟨_,A,c,rfl,_⟩:=hx;exact⟨_,_,_,rfl,λ_=>.inr ⟨_,rfl⟩⟩
 .simp only[Rep]at hx
  obtain⟨rfl,_⟩:=hx;exact⟨_,_,_,rfl,λ_=>.inl rfl⟩
 .cases h
theorem P5{P:Program}{μ:Mu}{F:Az}{w:World}{H:AH}{s d:TypeId}{x:AV}{v:Value}(hs:EY P s=true)(hd:B1 P d=true)(hsl:TT x=true)(hx:Rep μ F w x v)(hH:HRep μ F w H.get) :
  ValS P (convert s d v) ((newsA 1 x).bind λr=>AM.opt ((bytesOf r.2).map λl=>.v (.string ⟨l.toArray⟩))) μ F w H:=λr H' ft h=>by
 obtain⟨⟨n,cs⟩,H1,f1,f2,h1,h2⟩:=bind_some h;obtain⟨e1,_,us,hul,hnews⟩:=I6 hx hH h1;obtain⟨h3,e2⟩:=DU h2;rw[e2,e1];rcases hb:bytesOf cs with _|l<;>simp only[hb,Option.map_none,Option.map_some]at h3
 .cases h3
 simp only[Θ]at h3;have hus:=Ou hb hul;obtain⟨e,hue,hu8⟩:=JW hs;obtain⟨A,n',c,rfl,hA⟩:=V4 hx hsl;have hlen:=hnews.len;simp only[Builtin.lenOf,Sem.run_pure,Result.ok.injEq,and_true]at hlen;have hll:l.length=n':=by
  have:=hnews.size;rw[hus,ArA]at this;omega
 refine⟨.string ⟨l.toArray⟩,w,?_,?_⟩
 .rw[←hll,run_convert_bytes_string w s d e A l.length c hue hu8 (IY hd)]
  cases A with
  |some a=>
   have hc:=hnews.cells n w (ω _) rfl;rw[←hnews.size,Asv,hus]at hc;simp only[Builtin.firstCells,Nat.mul_one,←hlen,←hll]at hc;have hm:l.map (λb=>Value.int .u8 (b.toNat:Int))=(l.map (λb=>(b.toNat:Int))).map (Value.int .u8):=by rw[AuI];rfl
   rw[hm]at hc;rw[run_bytesToString w a l.length c _ hc,foldl_push_byteCells];simp
  |none=>
   have hl0:l=[]:=by
    have hc:=hnews.cells n w (ω _) rfl;rw[←hnews.size,Asv,hus]at hc;simp only[Builtin.firstCells,Sem.run_pure,Result.ok.injEq,and_true]at hc;have:=congrArg Array.size hc;simp at this;exact ArK this.symm
   subst hl0;simp[Conv.bytesToString];rfl
 .rw[←h3]
  exact D8 (by simp only[Rep];exact⟨trivial,rfl⟩) hH
theorem SE{P:Program}{μ:Mu}{F:Az}{w:World}{H:AH}{s d:TypeId}{str:ByteArray}(hs:B1 P s=true)(hd:EY P d=true)(hsz:str.size<=maxLen)(hH:HRep μ F w H.get)(hf:BR μ H) :
  ValS P (convert s d (.string str)) ((AM.newB ⟨str.data.toList.map Kh,true,true⟩).bind λb=>AM.ret (.sl b 0 str.size 1)) μ F w H:=λr H' ft h=>by
 obtain⟨b,H1,f1,f2,h1,h2⟩:=bind_some h;obtain⟨e1,e2⟩:=Aj h2;subst e1 e2;obtain⟨e,hue,hu8⟩:=JW hd;have hrun:=run_bytes_of_string (P:=P) w s d e str (IY hs) hue hu8;have hcap:=grownCap_ge w str.size 0 e;have hcapm:=grownCap_le_maxLen w str.size 0 e hsz;obtain⟨d1,d2,d3⟩:=hH.drew;have hsize:(bytesRow str (grownCap w str.size 0 e)).size=grownCap w str.size 0 e:=by
  unfold bytesRow;rw[AtG,Array.size_map,Array.size_replicate];have:str.data.size=str.size:=rfl;omega
 have hpost:=Jb (t:=e) (fr:=((bytesRow str (grownCap w str.size 0 e)).size,(bytesRow str (grownCap w str.size 0 e)).size+1)) (arr:=bytesRow str (grownCap w str.size 0 e))
  (r:=.sl b 0 str.size 1) (u:=.slice (some ⟨w.heap.size,0,none⟩) str.size (grownCap w str.size 0 e)) d1 hf h1 (.inl (ω _)) (by
   rw[hsize,ArA,Ar6];exact hcap) (by
   have e3:str.data.toList.map Kh=(str.data.toList.map (λb=>Value.int .u8 b.toNat)).map .v:=by rw[AuI];rfl
   have e4:(bytesRow str (grownCap w str.size 0 e)).toList.take (str.data.toList.map Kh).length=str.data.toList.map (λb=>Value.int .u8 b.toNat):=by
    unfold bytesRow;rw[AsW,Array.toList_map,ArA];exact List.take_left' (by simp)
   rw[e4,e3];exact EL _ _ _ _ (Arg.2 λx hx=>by obtain⟨y,_,rfl⟩:=AsE.1 hx;rfl)) (λ_=>No _) (by
   simp only[Rep];exact⟨_,by unfold Mu.set;rw[if_pos rfl],.inr ⟨0,_,rfl,λ_=>rfl,hcap,hcapm,by simp only;omega⟩⟩)
 obtain⟨μ',F',p1,p2,p3,p4,p5⟩:=hpost;exact⟨_,_,hrun,μ',F',p1,p2,d2.trans p3,WStep.trans (λ_ _ h=>h) d3 p4,p5⟩
theorem L8(w:World)(g o:Nat):w.setCells g o []=w:=rfl
theorem S9{P:Program}{μ:Mu}{F:Az}{w:World}{H:AH}{t u ty:TypeId}{s x:AV}{v y:Value}(hs:Rep μ F w s v)(hx:Rep μ F w x y)(hH:HRep μ F w H.get) :
  ValS P (Builtin.copy_ #[t,u] ty #[v,y]) (copyA P [t,u] s x) μ F w H:=λr H' ft h=>by
 unfold copyA at h;simp only at h;rcases h1:Cg P t with _|et<;>rw[h1]at h
 .exact(Ai h).elim
 cases s<;>try (exact(Ai h).elim)
 case sl b o n e=>
  simp only at h;rcases Bj h with⟨hse,ha⟩|⟨_,ha⟩
  rotate_left
  .exact(Ai ha).elim
  clear h;obtain⟨⟨m,news⟩,H1,f1,f2,h5,hb⟩:=bind_some ha;clear ha;obtain⟨hHH,hpn,us,hul,hnews⟩:=I6 hx hH h5;rw[hHH]at hb;simp only at hb;rcases Bj hb with⟨hone,hc⟩|⟨_,hc⟩
  rotate_left
  .exact(Ai hc).elim
  clear hb;obtain⟨k,H2,g1,g2,h6,hd⟩:=bind_some hc;obtain⟨hk,hHH2⟩:=BM h6;rw[hHH2]at hd;rcases Bj hd with⟨⟨hst,hlen⟩,hd2⟩|⟨_,hd2⟩
  rotate_left
  .exact(Ai hd2).elim
  obtain⟨_,H3,g3,g4,h7,h8⟩:=bind_some hd2;have hH3:=He h7;obtain⟨hr,hH4⟩:=Aj h8;subst hr hH4 hH3;simp only[Rep]at hs;obtain⟨p,hp,hvv⟩:=hs;obtain⟨inf,hinf,hsz⟩:=C2 hse;obtain⟨p',hp',hB⟩:=hH.blk b k hk;rw[hp]at hp'
  cases hp'
  have hle:Asf m n*e<=m*e:=Ar3 _ (Auz _ _);have hle2:Asf m n*e<=n*e:=Ar3 _ (Nat.min_le_right _ _);have hul2:=hul.sub 0 (Asf m n*e);simp only[List.drop_zero]at hul2;have hlt:(us.take (Asf m n*e)).length=Asf m n*e:=by rw[ArG,hnews.size];omega
  have hlt2:(news.take (Asf m n*e)).length=Asf m n*e:=by rw[←hul2.length,hlt]
  obtain⟨q1,q2,q3⟩:=OQ hH hk hp hst o (news.take (Asf m n*e)) (us.take (Asf m n*e)) (by rw[hlt2];omega) hul2 (λ_=>by
   rw[Bz,Arg]at hpn ⊢;exact λx hx=>hpn x (AsB hx))
  have hoc:∀ y∈us.take (Asf m n*e),y.oneCell'=true:=λy hy=>by
   obtain⟨j,hj,rfl⟩:=Asx hy;have hj2:j<(news.take (Asf m n*e)).length:=by rw[hlt2,←hlt];exact hj
   obtain⟨u,a1,a2⟩:=hul2.get (Ψ hj2);rw[Ψ hj]at a1
   cases a1
   exact a2.one (Arg.1 hone _ (Ars hj2))
  have hcells:=hnews.cells (Asf m n) w (Auz _ _) rfl;rcases hvv with⟨hn0,rfl⟩|⟨q,c,rfl,hq,hnc,hcm,hroom⟩
  .have h0:us.take (Asf m n*e)=[]:=ArK (by rw[hlt,hn0];simp)
   refine⟨.int .i64 (Asf m n),w.setCells p.g (p.o+o) (us.take (Asf m n*e)),?_,μ,F,by simp only[Rep];exact⟨trivial,rfl⟩,?_,q2,q3,λ_ _=>rfl⟩
   .subst hn0
    simp only[Builtin.copy_,Asd,ArZ,ArF];simp[run_underlying (Ck h1),sizeOf,typeInfo,hinf,hsz,goInt];rw[hnews.len];simp only[Result.andThen_ok];rw[show m.min 0=0 from Nat.min_zero m]at hcells;rw[hcells];simp only[Result.andThen_ok,h0];rfl
   .rw[Gt]
    exact q1
  have hstore:(storeCells (⟨p.g,q,none⟩:Addr) (us.take (Asf m n*e))).run P w=.ok () (w.setCells p.g (p.o+o) (us.take (Asf m n*e))):=by
   by_cases hn0:n=0
   .have h0:us.take (Asf m n*e)=[]:=ArK (by rw[hlt,hn0];simp)
    rw[h0];rfl
   .rw[hq (by omega)]
    have:=run_storeCells_cells (P:=P) p.g (p.o+o) (us.take (Asf m n*e)) 0 w (λj hj=>by
      obtain⟨⟨y,hy⟩,_⟩:=hB.there (o+j) (by have:=hB.room;omega);rw[←Aro]at hy;rw[Ar5,hy];rfl) (λj hj=>by
      have:=(hB.there (o+j) (by have:=hB.room;omega)).2;rw[←Aro]at this;rw[Ar5];exact this) hoc
    rw[Ar5]at this;exact this
  refine⟨.int .i64 (Asf m n),w.setCells p.g (p.o+o) (us.take (Asf m n*e)),?_,μ,F,by simp only[Rep];exact⟨trivial,rfl⟩,?_,q2,q3,λ_ _=>rfl⟩
  .simp only[Builtin.copy_,Asd,ArZ,ArF]
   simp[run_underlying (Ck h1),sizeOf,typeInfo,hinf,hsz,goInt];rw[hnews.len];simp only[Result.andThen_ok];rw[hcells];simp only[Result.andThen_ok];rw[hstore];rfl
  .rw[Gt]
   exact q1
theorem Aaz{l:List AV}{n:Nat}(h:l.all AV.one=true)(hl:0<l.length):∀ x∈CE l n,x.one=true:=by
 intro x hx;unfold CE at hx;obtain⟨i,_,rfl⟩:=AsE.1 hx;have hi:i % l.length<l.length:=Nat.mod_lt _ hl;rw[Ψ hi,Option.getD_some];exact Arg.1 h _ (Ars hi)
theorem RV{P:Program}{μ:Mu}{F:Az}{w:World}{H:AH}{t ty:TypeId}{s:AV}{v:Value}(hs:Rep μ F w s v)(hH:HRep μ F w H.get) :
  ValS P (Builtin.clear_ #[t] ty #[v]) (clearA P [t] s) μ F w H:=λr H' ft h=>by
 unfold clearA at h;simp only at h;rcases h1:Cg P t with _|et<;>rw[h1]at h
 .exact(Ai h).elim
 cases s<;>try (exact(Ai h).elim)
 case sl b o n e=>
  simp only at h;rcases h5:C5 P et with _|z<;>rw[h5]at h
  .exact(Ai h).elim
  simp only at h;rcases Bj h with⟨⟨hse,hze,he0,hone⟩,ha⟩|⟨_,ha⟩
  rotate_left
  .exact(Ai ha).elim
  clear h;obtain⟨k,H2,g1,g2,h6,hd⟩:=bind_some ha;obtain⟨hk,hHH2⟩:=BM h6;rw[hHH2]at hd;rcases Bj hd with⟨⟨hst,hlen⟩,hd2⟩|⟨_,hd2⟩
  rotate_left
  .exact(Ai hd2).elim
  obtain⟨_,H3,g3,g4,h7,h8⟩:=bind_some hd2;have hH3:=He h7;obtain⟨hr,hH4⟩:=Aj h8;subst hr hH4 hH3;simp only[Rep]at hs;obtain⟨p,hp,hvv⟩:=hs;obtain⟨i',hi',hz,hfl⟩:=EO h5;obtain⟨p',hp',hB⟩:=hH.blk b k hk;rw[hp]at hp'
  cases hp'
  have hzs:=Jp (μ:=μ) (F:=F) (w:=w) z.cells (n*e) hfl;generalize hus:((Array.range (n*e)).map (λi=>z.cells[i % z.cells.size]!)).toList=us at hzs;have hzl:(CE (z.cells.toList.map AV.v) (n*e)).length=n*e:=by unfold CE;rw[ArA,List.length_range]
  have hlt:us.length=n*e:=by rw[hzs.length,hzl]
  obtain⟨q1,q2,q3⟩:=OQ hH hk hp hst o (CE (z.cells.toList.map AV.v) (n*e)) us (by rw[hzl];omega) hzs (λ_=>Np _ _);have hoc:∀ y∈us,y.oneCell'=true:=λy hy=>by
   obtain⟨j,hj,rfl⟩:=Asx hy;have hj2:j<(CE (z.cells.toList.map AV.v) (n*e)).length:=by rw[hzl,←hlt];exact hj
   obtain⟨u,a1,a2⟩:=hzs.get (Ψ hj2);rw[Ψ hj]at a1
   cases a1
   exact a2.one (Aaz hone (by rw[ArA,Ar6,hze];exact he0) _ (Ars hj2))
  refine⟨.tuple #[],w.setCells p.g (p.o+o) us,?_,μ,F,by simp only[Rep];exact⟨#[],rfl,rfl⟩,?_,q2,q3,λ_ _=>rfl⟩
  .have hzc:(Builtin.zeroCells z.cells n).toList=us:=by
    rw[←hus];unfold Builtin.zeroCells;rw[hze]
   rcases hvv with⟨hn0,rfl⟩|⟨q,c,rfl,hq,hnc,hcm,hroom⟩
   .have h0:us=[]:=ArK (by rw[hlt,hn0];simp)
    rw[h0,L8];simp[Builtin.clear_,run_underlying (Ck h1)]
   .cases n with
    |zero=>
     have h0:us=[]:=ArK (by rw[hlt];simp);rw[h0,L8];simp[Builtin.clear_,run_underlying (Ck h1)]
    |succ n=>
     have hstore:(storeCells (⟨p.g,q,none⟩:Addr) us).run P w=.ok () (w.setCells p.g (p.o+o) us):=by
      rw[hq (by omega)];have:=run_storeCells_cells (P:=P) p.g (p.o+o) us 0 w (λj hj=>by
        obtain⟨⟨y,hy⟩,_⟩:=hB.there (o+j) (by have:=hB.room;omega);rw[←Aro]at hy;rw[Ar5,hy];rfl) (λj hj=>by
        have:=(hB.there (o+j) (by have:=hB.room;omega)).2;rw[←Aro]at this;rw[Ar5];exact this) hoc
      rw[Ar5]at this;exact this
     simp[Builtin.clear_,run_underlying (Ck h1),zeroValue,typeInfo,hi',hz,hzc,hstore]
  .rw[Gt]
   exact q1
section
variable {P:Program} {w:World} {t:TypeId}
theorem AhK(d:Nat){e:TypeId}(hu:P.underlying t=some (.pointer e))(a:Addr):(Op.equalIn (d+1) t (.pointer (some a)) (.pointer none)).run P w=.ok false w:=by
 simp only[Op.equalIn,Sem.run_bind,run_underlying hu,Result.andThen_ok,Sem.run_pure]
theorem AhJ(d:Nat){e:TypeId}(hu:P.underlying t=some (.pointer e))(a:Addr):(Op.equalIn (d+1) t (.pointer none) (.pointer (some a))).run P w=.ok false w:=by
 simp only[Op.equalIn,Sem.run_bind,run_underlying hu,Result.andThen_ok,Sem.run_pure,Option.isNone]
theorem Amo(d:Nat){e:TypeId}(hu:P.underlying t=some (.slice e))(a:Addr)(n c n' c':Nat):(Op.equalIn (d+1) t (.slice (some a) n c) (.slice none n' c')).run P w=.ok false w:=by
 simp only[Op.equalIn,Sem.run_bind,run_underlying hu,Result.andThen_ok,Sem.run_pure]
theorem Amn(d:Nat){ps rs:Array TypeId}{vr:Bool}(hu:P.underlying t=some (.func ps rs vr))(f:Fn)(x y:Array Value):(Op.equalIn (d+1) t (.func f x y) .nilFunc).run P w=.ok false w:=by
 simp only[Op.equalIn,Sem.run_bind,run_underlying hu,Result.andThen_ok,Sem.run_pure]
end
theorem Un{P:Program}{μ:Mu}{F:Az}{w:World}{H:AH}{t yt:TypeId}{x y:Operand}{ρ:Operand->AV}{a:Act}{dst:Option Tmp}{ty:TypeId}{pos:String}{after:Array Edge}{guard:Option (Nat × Bool)}{b:BinOp}
  (hx:Rep μ F w (ρ x) (a.eval x)) (hy:Rep μ F w (ρ y) (a.eval y)) (hH:HRep μ F w H.get) (h:Gx P t (ρ x) (ρ y)=true) :
  PX P (execOp a.eval ⟨dst,.binOp b t x y yt,ty,pos,after,guard⟩) (match b with
   |.eql=>AM.ret (.v (.bool false))
   |.neq=>AM.ret (.v (.bool true))
   |_=>AM.fail) μ F w H:=by
 have key:∀ u v,a.eval x=u->a.eval y=v->(Op.equal t u v).run P w=.ok false w->(eqGuard .eql t x y u v).run P w=.ok () w->(eqGuard .neq t x y u v).run P w=.ok () w->
   (binOp .eql t u v=do pure (.bool (←Op.equal t u v)))->(binOp .neq t u v=do pure (.bool (!(←Op.equal t u v))))->
   PX P (execOp a.eval ⟨dst,.binOp b t x y yt,ty,pos,after,guard⟩) (match b with
   |.eql=>AM.ret (.v (.bool false))
   |.neq=>AM.ret (.v (.bool true))
   |_=>AM.fail) μ F w H:=by
  intro u v hu hv he hg1 hg2 hb1 hb2
  cases b<;>try (exact λr H' ft h=>(Ai h).elim)
  case eql=>exact Dm (u:=.bool false) (by simp[execOp,hu,hv,hg1,hb1,he]) (by simp only[Rep];exact⟨trivial,rfl⟩) hH
  case neq=>exact Dm (u:=.bool true) (by simp[execOp,hu,hv,hg2,hb2,he]) (by simp only[Rep];exact⟨trivial,rfl⟩) hH
 unfold Gx at h;split at h<;>try (cases h;done)
 .rename_i e1 e2 hu
  rw[e1]at hx;rw[e2]at hy;simp only[Rep]at hx hy;obtain⟨p,hp,hxe⟩:=hx;exact key _ _ hxe hy.1 (AhK 9999 hu _) (by simp[eqGuard]) (by simp[eqGuard]) rfl rfl
 .rename_i e1 e2 hu
  rw[e1]at hx;rw[e2]at hy;simp only[Rep]at hx hy;obtain⟨_,g,o,hxe,_⟩:=hx;exact key _ _ hxe hy.1 (AhK 9999 hu _) (by simp[eqGuard]) (by simp[eqGuard]) rfl rfl
 .rename_i e1 e2 hu
  rw[e1]at hx;rw[e2]at hy;simp only[Rep]at hx hy;obtain⟨p,hp,hye⟩:=hy;exact key _ _ hx.1 hye (AhJ 9999 hu _) (by simp[eqGuard]) (by simp[eqGuard]) rfl rfl
 .rename_i e1 e2 hu
  rw[e1]at hx;rw[e2]at hy;simp only[Rep]at hx hy;obtain⟨_,g,o,hye,_⟩:=hy;exact key _ _ hx.1 hye (AhJ 9999 hu _) (by simp[eqGuard]) (by simp[eqGuard]) rfl rfl
 .rename_i e1 e2 hu
  rw[e1]at hx;rw[e2]at hy;simp only[Rep]at hx hy;obtain⟨p,hp,⟨hn0,_⟩|⟨q,c,hxe,_⟩⟩:=hx
  .omega
  exact key _ _ hxe hy.1 (Amo 9999 hu _ _ _ _ _) (by simp[eqGuard]) (by simp[eqGuard]) rfl rfl
 .rename_i e1 e2 hu
  rw[e1]at hx;rw[e2]at hy;simp only[Rep]at hx hy;obtain⟨ua,uc,hxe,_⟩:=hx;exact key _ _ hxe hy.1 (Amn 9999 hu _ _ _) (by simp[eqGuard]) (by simp[eqGuard]) rfl rfl
end Go.Proofs.YtlmhajfbpplpoaaGreat
