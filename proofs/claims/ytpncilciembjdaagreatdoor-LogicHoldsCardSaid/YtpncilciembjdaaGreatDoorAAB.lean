/-
  append over the small heap. No program in sight.
  An operation of the program does what is computed over the small heap: all of them. No program in sight.
  An operation of the program does what is computed over the small heap: all of them. No program in sight.
-/
import Derived.Test.YtpncilciembjdaaGreatDoorAAA
set_option linter.unusedSectionVars false
set_option linter.unusedSimpArgs false
set_option linter.unusedVariables false
namespace Go.Proofs.YtpncilciembjdaaGreatDoor
open Go.RowKit

section
variable {P:Program} {μ:Mu} {F:Prot} {w:World} {H:AH}
theorem HRep.weaken{H H':Nat->Option ABlk}(h:HRep μ F w H)(hs:∀ b k',H' b=some k'->∃ k,H b=some k/\k'.cells=k.cells/\k'.st=k.st/\(k'.ex=true->k.ex=true)):HRep μ F w H':=by
 have own:∀{k k':ABlk} {r i:Nat},k'.cells=k.cells->k'.st=k.st->(k'.ex=true->k.ex=true)->k'.owns r i->k.owns r i:=by
  intro k k' r i h1 h2 h3 h4
  unfold ABlk.owns at h4 ⊢
  rw[h1,h2]at h4
  rcases h4 with h4|⟨a,b,c⟩
  .exact .inl h4
  .exact .inr ⟨a,b,h3 c⟩
 refine⟨fun b k' hk=>?_,fun b b' k1 k2 p p' hne h1 h2 q1 q2 i i' o1 o2=>?_,h.prot⟩
 .obtain⟨k,h1,h2,h3,h4⟩:=hs b k' hk
  obtain⟨p,hp,hB⟩:=h.blk b k h1
  refine⟨p,hp,⟨fun i x hx=>hB.cell i x (by rw[←h2];exact hx),by rw[h2];exact hB.room,hB.there,fun hf i hi=>hB.kept (by rw[←h3];exact hf) i (by rw[←h2];exact hi),fun i hi=>hB.free i (own h2 h3 h4 hi),fun hx=>by rw[h2];exact hB.pure (h4 hx)⟩⟩
 .obtain⟨j1,a1,a2,a3,a4⟩:=hs b k1 h1
  obtain⟨j2,b1,b2,b3,b4⟩:=hs b' k2 h2
  exact h.apart b b' j1 j2 p p' hne a1 b1 q1 q2 i i' (own a2 a3 a4 o1) (own b2 b3 b4 o2)
theorem grown_cells{olds us:List Value}{z:Array Value}{n m cap size:Nat}(ho:olds.length=n*size)(hu:us.length=m*size)(hz:z.size=size)(hc:n+m<=cap) :
  (olds.toArray++us.toArray++Builtin.zeroCells z (cap-(n+m))).size=cap*size/\(olds.toArray++us.toArray++Builtin.zeroCells z (cap-(n+m))).toList.take ((n+m)*size)=olds++us:=by
 refine⟨?_,?_⟩
 .rw[Array.size_append,Array.size_append,size_zeroCells,hz,List.size_toArray,List.size_toArray,ho,hu,←Nat.add_mul,←Nat.add_mul]
  congr 1
  omega
 .rw[Array.toList_append,Array.toList_append]
  have:(olds++us).length=(n+m)*size:=by rw[List.length_append,ho,hu,Nat.add_mul]
  rw[←this]
  exact List.take_left
theorem RepList.append{xs ys:List AV}:∀{us vs:List Value},RepList μ F w xs us->RepList μ F w ys vs->RepList μ F w (xs++ys) (us++vs):=by
 induction xs with
 |nil=>intro us vs h h';simp only[RepList]at h;subst h;exact h'
 |cons x r ih=>
  intro us vs h h'
  simp only[RepList]at h
  obtain⟨u,t,rfl,h1,h2⟩:=h
  simp only[List.cons_append,RepList]
  exact⟨u,t++vs,rfl,h1,ih h2 h'⟩
end
set_option maxHeartbeats 1000000 in
theorem appendA_sound{P:Program}{μ:Mu}{F:Prot}{w:World}{H:AH}{t u ty:TypeId}{s x:AV}{v y:Value}(hs:Rep μ F w s v)(hx:Rep μ F w x y)(hH:HRep μ F w H.get)(hf:Fresh μ H) :
  ValS P (Builtin.append_ #[t,u] ty #[v,y]) (appendA P [t,u] s x) μ F w H:=fun r H' ft h=>by
 unfold appendA at h
 simp only at h
 rcases h1:elemT P t with _|et<;>rw[h1]at h
 .exact(fail_some h).elim
 rcases h2:notInt P u with _|_<;>rw[h2]at h
 .exact(fail_some h).elim
 simp only at h
 rcases h3:P.info? et with _|i<;>rw[h3]at h
 .exact(fail_some h).elim
 simp only at h
 rcases h4:i.zero with _|z<;>rw[h4]at h
 .exact(fail_some h).elim
 simp only at h
 rcases ite_some h with⟨⟨hzs,hpos⟩,h⟩|⟨_,h⟩
 rotate_left
 .exact(fail_some h).elim
 obtain⟨⟨m,news⟩,H1,f1,f2,h5,h⟩:=bind_some h
 obtain⟨hHH,hpn,us,hul,hnews⟩:=newsA_sound hx hH h5
 have hHH:=hHH.symm
 subst hHH
 simp only at h
 have ht:=elemT_some h1
 have hnl:news.length=m*i.size:=by rw[←hul.length,hnews.size]
 rcases ite_some h with⟨hm,h⟩|⟨hm,h⟩
 .-- nothing is appended
  rcases ite_some h with⟨hsl,h⟩|⟨_,h⟩
  rotate_left
  .exact(fail_some h).elim
  obtain⟨rfl,rfl⟩:=ret_some h
  subst hm
  have hus:us=[]:=List.eq_nil_of_length_eq_zero (by rw[hnews.size,Nat.zero_mul])
  subst hus
  have fin:∀ A n c,v=.slice A n c->n<=c->∃ u_1 w',(Builtin.append_ #[t,u] ty #[v,y]).run P w=.ok u_1 w'/\Post μ F w H' r H' u_1 w':=by
   intro A n c hv hnc
   subst hv
   have:=run_append_fits (P:=P) (ty:=ty) (A:=A) (w':=w) ht h2 h3 hnews (n:=n) (c:=c) (by omega) (fun a _=>rfl) (fun _=>rfl)
   exact⟨_,_,this,post_same hs hH⟩
  unfold isSl at hsl
  split at hsl
  .simp only[Rep]at hs
   obtain⟨p,hp,⟨_,rfl⟩|⟨q,c,rfl,hq,hnc,hcm,hroom⟩⟩:=id hs
   .exact fin _ _ _ rfl (Nat.le_refl _)
   exact fin _ _ _ rfl hnc
  .simp only[Rep]at hs
   obtain⟨_,A,c,rfl,hnc,hcm,hne⟩:=id hs
   exact fin _ _ _ rfl hnc
  .simp only[Rep]at hs
   obtain⟨rfl,_⟩:=id hs
   exact fin _ _ _ rfl (Nat.le_refl _)
  .cases hsl
 .rcases ite_some h with⟨hone,h⟩|⟨_,h⟩
  rotate_left
  .exact(fail_some h).elim
  have hoc:∀ y∈us,y.oneCell'=true:=fun y hy=>by
   obtain⟨j,hj,rfl⟩:=List.getElem_of_mem hy
   have hj2:j<news.length:=by rw[←hul.length];exact hj
   obtain⟨u,a1,a2⟩:=hul.get (List.getElem?_eq_getElem hj2)
   rw[List.getElem?_eq_getElem hj]at a1
   cases a1
   exact a2.one (List.all_eq_true.1 hone _ (List.getElem_mem hj2))
  -- a new row of olds and news, behind a draw
  have grown:∀(G:AH) (st:Bool) (n c:Nat) (olds:List Value) (cs:List AV) (b:Nat) (G1:AH) (ft1:Foot),HRep μ F w G.get->Fresh μ G->G.next=H.next->AM.newB ⟨cs++news,st,true⟩ G=some (b,G1,ft1)->
    RepList μ F w cs olds->olds.length=n*i.size->n+m<=maxLen->noidL cs=true->
    Post μ F w H (.sl b 0 (n+m) i.size) G1 (.slice (some ⟨w.heap.size,0,none⟩) (n+m) (grownCap w (n+m) c et)) (w.drew.alloc (.cells (olds.toArray++us.toArray++Builtin.zeroCells z.cells (grownCap w (n+m) c et-(n+m))) et)):=by
   intro G st n c olds cs b G1 ft1 hG hfG hGn hnew hcs hol h63 hpc
   have hcap:=grownCap_ge w (n+m) c et
   have hcapm:=grownCap_le_maxLen w (n+m) c et h63
   obtain⟨hsize,htake⟩:=grown_cells (z:=z.cells) (cap:=grownCap w (n+m) c et) hol hnews.size hzs hcap
   obtain⟨d1,d2,d3⟩:=hG.drew
   generalize (olds.toArray++us.toArray++Builtin.zeroCells z.cells (grownCap w (n+m) c et-(n+m)))=arr at *
   have hlen:(cs++news).length=(n+m)*i.size:=by rw[List.length_append,←hcs.length,hol,hnl,Nat.add_mul]
   have hle:(n+m)*i.size<=arr.size:=by rw[hsize];exact Nat.mul_le_mul_right _ hcap
   obtain⟨hb,hr⟩:=newB_run hnew
   simp only[Prod.mk.injEq]at hr
   obtain⟨rfl,rfl,rfl⟩:=hr
   have hfr:=hfG _ (Nat.le_refl _) hb
   obtain⟨q1,q2⟩:=hrep_new d1 hfr (cs++news) arr et (0,0) true (.inr rfl) (by rw[hlen];exact hle) (by
    rw[hlen,htake]
    exact(RepList.append hcs hul).later' d2) (fun _=>by rw[noidL_all]at hpc hpn ⊢;simp[hpc,hpn])
   have hws:w.drew.heap.size=w.heap.size:=rfl
   rw[hws]at q1 q2
   have hWS:WStep F w (w.drew.alloc (.cells arr et)):=WStep.trans (fun _ _ h=>h) d3 (WStep.alloc _ _ _)
   have hLt:=d2.trans q2
   cases st with
   |true=>
    refine⟨_,F,?_,?_,hLt,hWS,fun c hc=>set_out (by have hc':c<H.next\/G.next+1<=c:=hc;omega)⟩
    .simp only[Rep]
     exact⟨_,by unfold Mu.set;rw[if_pos rfl],.inr ⟨0,_,rfl,fun _=>rfl,hcap,hcapm,by simp only;omega⟩⟩
    .rw[fun_get_cons]
     exact q1
   |false=>
    obtain⟨k1,k2⟩:=hrep_keep q1 (b:=G.next) (by rw[if_pos rfl]) (by unfold Mu.set;rw[if_pos rfl])
    refine⟨_,_,?_,?_,hLt.trans k2,hWS,fun c hc=>set_out (by have hc':c<H.next\/G.next+1<=c:=hc;omega)⟩
    .simp only[Rep]
     exact⟨_,by unfold Mu.set;rw[if_pos rfl],.inr ⟨0,_,rfl,fun _=>rfl,hcap,hcapm,by simp only;omega⟩⟩
    .rw[fun_get_cons]
     refine k1.less fun c k hk=>?_
     by_cases e:c=G.next
     .rw[if_pos e]at hk ⊢
      exact hk
     .rw[if_neg e]at hk ⊢
      rw[if_neg e]
      exact hk
  cases s with
  |v z'=>
   simp only at h
   rcases ite_some h with⟨⟨c0,c1,c2⟩,hh⟩|⟨_,hh⟩
   rotate_left
   .exact(fail_some hh).elim
   have hz':=isNilV_eq c0
   subst hz'
   obtain⟨b,H2,g1,g2,h6,h7⟩:=bind_some hh
   obtain⟨rfl,rfl⟩:=ret_some h7
   simp only[Rep]at hs
   obtain⟨rfl,_⟩:=hs
   have hrun:=run_append_grows (P:=P) (ty:=ty) (A:=none) (n:=0) (c:=0) ht h2 h3 h4 hnews (olds:=[]) (fun W _=>by simp[Builtin.firstCells]) (by omega) (by omega) (by simpa using c1)
   refine⟨_,_,hrun,?_⟩
   have:=grown H true 0 0 [] [] b H' g1 hH hf rfl (by simpa using h6) (by simp only[RepList]) (by simp) (by omega) rfl
   simpa only[Nat.zero_add]using this
  |sl b o n e=>
   simp only at h
   rcases ite_some h with⟨⟨he,c1,c2⟩,h⟩|⟨_,h⟩
   rotate_left
   .exact(fail_some h).elim
   subst he
   obtain⟨k,H2,g1,g2,h6,hh⟩:=bind_some h
   clear h
   obtain⟨hk,hHH⟩:=getB_some h6
   subst hHH
   rcases ite_some hh with⟨⟨hex,hol,hfull⟩,hh2⟩|⟨_,hh2⟩
   rotate_left
   .exact(fail_some hh2).elim
   obtain⟨_,H3,g3,g4,h7,h8⟩:=bind_some hh2
   obtain⟨b',H4,g5,g6,h9,h10⟩:=bind_some h8
   obtain⟨rfl,hHH⟩:=ret_some h10
   subst hHH
   have hH3:H3.next=H2.next/\H3.top=H2.top/\∀ c,H3.get c=if c=b then(if k.st=true then none else some { k with ex:=false }) else H2.get c:=by
    rcases ite_some h7 with⟨hst,h7⟩|⟨hst,h7⟩
    .have:=delB_some h7
     subst this
     exact⟨rfl,rfl,fun c=>by rw[AH.get_del,if_pos hst]⟩
    .have:=setB_some h7
     subst this
     exact⟨rfl,rfl,fun c=>by rw[AH.get_put,if_neg hst]⟩
   obtain⟨n1,n2,n3⟩:=hH3
   simp only[Rep]at hs
   obtain⟨p,hp,hvv⟩:=hs
   obtain⟨p',hp',hB⟩:=hH.blk b k hk
   rw[hp]at hp'
   cases hp'
   obtain⟨hb9,hr9⟩:=newB_run h9
   simp only[Prod.mk.injEq]at hr9
   obtain⟨hb',hH4,_⟩:=hr9
   have hfr:μ b'=none:=hf b' (by rw[hb',n1];exact Nat.le_refl _) (by
    have:H3.below b':=by rw[hb'];exact hb9
    unfold AH.below at this ⊢
    rwa [n2]at this)
   have hbb:b≠b':=by rintro rfl;rw[hp]at hfr;cases hfr
   have hlen0:((k.cells.take (o+n*i.size)).drop o).length=n*i.size:=by
    rw[List.length_drop,List.length_take];omega
   have hpk:noidL ((k.cells.take (o+n*i.size)).drop o)=true:=by
    have:=hB.pure hex
    rw[noidL_all,List.all_eq_true]at this ⊢
    exact fun x hx=>this x (List.mem_of_mem_take (List.mem_of_mem_drop hx))
   have hweak:HRep μ F w H3.get:=hH.weaken fun d k' hk'=>by
    rw[n3]at hk'
    by_cases e1:d=b
    .subst e1
     rw[if_pos rfl]at hk'
     split at hk'
     .cases hk'
     .simp only[Option.some.injEq]at hk'
      subst hk'
      exact⟨k,hk,rfl,rfl,fun h=>by cases h⟩
    .rw[if_neg e1]at hk'
     exact⟨k',hk',rfl,rfl,id⟩
   have hfr3:Fresh μ H3:=fun d hd hbl=>hf d (by rw[←n1];exact hd) (by
    unfold AH.below at hbl ⊢
    rwa [n2]at hbl)
   rcases hvv with⟨hn0,rfl⟩|⟨q,c,rfl,hq,hnc,hcm,hroom⟩
   .subst hn0
    have hnil:((k.cells.take (o+0*i.size)).drop o)=[]:=List.eq_nil_of_length_eq_zero (by rw[hlen0];simp)
    have hrun:=run_append_grows (P:=P) (ty:=ty) (A:=none) (n:=0) (c:=0) ht h2 h3 h4 hnews (olds:=[]) (fun W _=>by simp[Builtin.firstCells]) (by omega) c2 c1
    exact⟨_,_,hrun,grown H3 k.st 0 0 [] ((k.cells.take (o+0*i.size)).drop o) b' H' g5 hweak hfr3 n1 h9 (by rw[hnil];simp only[RepList]) (by simp) c2 hpk⟩
   by_cases hfit:n+m<=c
   .have hcl:n*i.size+m*i.size<=c*i.size:=by rw[←Nat.add_mul];exact Nat.mul_le_mul_right _ hfit
    obtain⟨q1,q2⟩:=hrep_view hH hk hp hfr hex o (o+n*i.size) (by omega) hol hfull
    obtain⟨F',s1,s2,s3⟩:=hrep_push q1 (b:=b') (k:=⟨(k.cells.take (o+n*i.size)).drop o,k.st,true⟩) (p:=⟨p.g,p.o+o,p.room-o⟩) (by rw[if_pos rfl]) (by unfold Mu.set;rw[if_pos rfl]) rfl news us
     (by simp only[hlen0,hnl];omega) (hul.later' q2) hpn
    simp only[hlen0]at s1 s2 s3
    have hqq:q=p.o+o:=hq (by omega)
    have hul2:us.length=m*i.size:=hnews.size
    have hstore:=run_storeCells_cells (P:=P) p.g (p.o+o+n*i.size) us 0 w (fun j hj=>by
      obtain⟨⟨y,hy⟩,_⟩:=hB.there (o+n*i.size+j) (by omega)
      rw[←Nat.add_assoc,←Nat.add_assoc]at hy
      rw[Nat.add_zero,hy];rfl) (fun j hj=>by
      have:=(hB.there (o+n*i.size+j) (by omega)).2
      rw[←Nat.add_assoc,←Nat.add_assoc]at this
      rw[Nat.add_zero];exact this) hoc
    have hrun:=run_append_fits (P:=P) (ty:=ty) (A:=some ⟨p.g,q,none⟩) (w':=w.setCells p.g (p.o+o+n*i.size) us) ht h2 h3 hnews hfit (fun a ha=>by
     cases ha
     rw[hqq,Addr.add_mid]
     rw[Nat.add_zero]at hstore
     exact hstore) (fun h=>by cases h)
    refine⟨_,_,hrun,μ.set b' ⟨p.g,p.o+o,p.room-o⟩,F',?_,?_,q2.trans s2,s3,fun d hd=>set_out ?_⟩
    .simp only[Rep]
     exact⟨⟨p.g,p.o+o,p.room-o⟩,by unfold Mu.set;rw[if_pos rfl],.inr ⟨q,c,rfl,fun _=>hqq,hfit,hcm,by simp only;omega⟩⟩
    .refine s1.less fun d k' hk'=>?_
     rw[hH4,←hb',get_cons,n3]at hk'
     by_cases e1:d=b'
     .rw[if_pos e1]at hk' ⊢
      exact hk'
     .rw[if_neg e1]at hk' ⊢
      rw[if_neg e1]
      exact hk'
    .rw[hb',n1]
     have hd':d<H2.next\/H3.next+1<=d:=by rw[hH4]at hd;exact hd
     omega
   .-- the row moves
    have holds:∃ olds,RepList μ F w ((k.cells.take (o+n*i.size)).drop o) olds/\olds.length=n*i.size/\∀ W:World,W.heap=w.heap->(Builtin.firstCells i.size n (.slice (some ⟨p.g,q,none⟩) n c)).run P W=.ok olds.toArray W:=by
     by_cases hn0:n=0
     .subst hn0
      refine⟨[],?_,by simp,fun W _=>by simp[Builtin.firstCells,loadCells,loadCellsFrom]⟩
      have:((k.cells.take (o+0*i.size)).drop o)=[]:=List.eq_nil_of_length_eq_zero (by rw[hlen0];simp)
      rw[this]
      simp only[RepList]
     .obtain⟨us',hl,hcell⟩:=read_list (μ:=μ) (F:=F) (w:=w) (g:=p.g) (o:=p.o+o) (cs:=(k.cells.take (o+n*i.size)).drop o) fun j x hx=>by
       simp only[List.getElem?_drop,List.getElem?_take]at hx
       split at hx
       .obtain⟨u,a1,a2⟩:=hB.cell (o+j) x hx
        exact⟨u,by rwa [Nat.add_assoc],a2⟩
       .cases hx
      have hul':us'.length=n*i.size:=by rw[hl.length,hlen0]
      refine⟨us',hl,hul',fun W hW=>?_⟩
      rw[hq (by omega)]
      have:=(news_row (P:=P) (w:=w) (g:=p.g) (q:=p.o+o) (e:=i.size) (n:=n) (c:=c) hul' hcell).cells n W (Nat.le_refl _) hW
      rwa [←hul',List.take_length]at this
    obtain⟨olds,o1,o2,o3⟩:=holds
    have hrun:=run_append_grows (P:=P) (ty:=ty) (A:=some ⟨p.g,q,none⟩) ht h2 h3 h4 hnews o3 (by omega) c2 c1
    refine⟨_,_,hrun,?_⟩
    refine grown H3 k.st n c olds ((k.cells.take (o+n*i.size)).drop o) b' H' g5 ?_ ?_ n1 h9 o1 o2 c2 (by
     have:=hB.pure hex
     rw[noidL_all,List.all_eq_true]at this ⊢
     exact fun x hx=>this x (List.mem_of_mem_take (List.mem_of_mem_drop hx)))
    .refine hH.weaken fun d k' hk'=>?_
     rw[n3]at hk'
     by_cases e1:d=b
     .subst e1
      rw[if_pos rfl]at hk'
      split at hk'
      .cases hk'
      .simp only[Option.some.injEq]at hk'
       subst hk'
       exact⟨k,hk,rfl,rfl,fun h=>by cases h⟩
     .rw[if_neg e1]at hk'
      exact⟨k',hk',rfl,rfl,id⟩
    .intro d hd hbl
     refine hf d (by rw[←n1];exact hd) ?_
     unfold AH.below at hbl ⊢
     rwa [n2]at hbl
  |_=>exact(fail_some h).elim
end Go.Proofs.YtpncilciembjdaaGreatDoor
namespace Go.Proofs.YtpncilciembjdaaGreatDoor
open Go.RowKit

def SoundG(P:Program)(Γ:FuncId->List AV->AM AV):Prop:=∀(f:FuncId) (args:List AV) (μ:Mu) (F:Prot) (w:World) (H:AH) (vals:Array Value),RepList μ F w args vals.toList->HRep μ F w H.get->H.wf->Fresh μ H->
 ∀ r H' ft,Γ f args H=some (r,H',ft)->Calls P f vals w fun e w'=>∃ u,e=.returned u/\Post μ F w H r H' u w'
def OpS(P:Program)(o:Oper)(a:Act)(m:AM AV)(μ:Mu)(F:Prot)(w:World)(H:AH):Prop:=∀ r H' ft,m H=some (r,H',ft)->∀(next:Act->World->Prop) (Q:Exit->Act->World->Prop),
 (∀ u w',Post μ F w H r H' u w'->next (a.put o.dst u) w')->o.wp P a w next Q
theorem OpS.of_run{P:Program}{o:Oper}{a:Act}{m:AM AV}{μ:Mu}{F:Prot}{w:World}{H:AH}(h:RunS P (execOp a.eval o) m μ F w H):OpS P o a m μ F w H:=fun r H' ft hm next Q hn=>by
 obtain⟨n,u,w',h1,h2,h3⟩:=h r H' ft hm
 unfold Oper.wp
 rw[h1]
 rcases h2 with rfl|⟨rfl,rfl⟩
 .rw[Oper.upon_value];exact hn _ _ h3
 .rw[Oper.upon_skip];exact hn _ _ h3
theorem bytesOf_eq{μ:Mu}{F:Prot}{w:World}:∀{cs:List AV} {l:List UInt8} {us:List Value},bytesOf cs=some l->RepList μ F w cs us->us=l.map fun b=>.int .u8 b.toNat
 |[],l,us,h,hr=>by
  simp only[bytesOf,Option.some.injEq]at h
  simp only[RepList]at hr
  subst h hr
  rfl
 |x::r,l,us,h,hr=>by
  simp only[bytesOf]at h
  simp only[RepList]at hr
  obtain⟨u,t,rfl,h1,h2⟩:=hr
  rcases e1:byteOfA x with _|c<;>rw[e1]at h
  .cases h
  rcases e2:bytesOf r with _|l'<;>rw[e2]at h
  .cases h
  simp only[Option.some.injEq]at h
  subst h
  rw[bytesOf_eq e2 h2,List.map_cons]
  congr 1
  unfold byteOfA at e1
  split at e1
  .split at e1
   .rename_i n hn
    simp only[Option.some.injEq]at e1
    subst e1
    simp only[Rep]at h1
    rw[h1.1,hn]
   .cases e1
  .cases e1
theorem isBytesT_some{P:Program}{t:TypeId}(h:isBytesT P t=true):∃ e,P.underlying t=some (.slice e)/\P.underlying e=some (.int .u8):=by
 unfold isBytesT at h
 rcases h1:elemT P t with _|e<;>rw[h1]at h
 .cases h
 .simp only at h
  split at h
  .exact⟨e,elemT_some h1,‹_›⟩
  .cases h
theorem isStringT_some{P:Program}{t:TypeId}(h:isStringT P t=true):P.underlying t=some .string:=by
 unfold isStringT at h
 split at h
 .assumption
 .cases h
theorem isSl_shape{μ:Mu}{F:Prot}{w:World}{x:AV}{v:Value}(hx:Rep μ F w x v)(h:isSl x=true):∃ A n c,v=.slice A n c/\(A=none->n=0\/∃ xs,x=.ls xs):=by
 unfold isSl at h
 split at h
 .simp only[Rep]at hx
  obtain⟨p,hp,⟨hn,rfl⟩|⟨q,c,rfl,_⟩⟩:=hx
  .exact⟨_,_,_,rfl,fun _=>.inl rfl⟩
  exact⟨_,_,_,rfl,fun h=>by cases h⟩
 .simp only[Rep]at hx
  obtain⟨_,A,c,rfl,_⟩:=hx
  exact⟨_,_,_,rfl,fun _=>.inr ⟨_,rfl⟩⟩
 .simp only[Rep]at hx
  obtain⟨rfl,_⟩:=hx
  exact⟨_,_,_,rfl,fun _=>.inl rfl⟩
 .cases h
theorem convBytes_run{P:Program}{μ:Mu}{F:Prot}{w:World}{H:AH}{s d:TypeId}{x:AV}{v:Value}(hs:isBytesT P s=true)(hd:isStringT P d=true)(hsl:isSl x=true)(hx:Rep μ F w x v)(hH:HRep μ F w H.get) :
  ValS P (convert s d v) ((newsA 1 x).bind fun r=>AM.opt ((bytesOf r.2).map fun l=>.v (.string ⟨l.toArray⟩))) μ F w H:=fun r H' ft h=>by
 obtain⟨⟨n,cs⟩,H1,f1,f2,h1,h2⟩:=bind_some h
 obtain⟨e1,_,us,hul,hnews⟩:=newsA_sound hx hH h1
 obtain⟨h3,e2⟩:=opt_some h2
 rw[e2,e1]
 rcases hb:bytesOf cs with _|l<;>simp only[hb,Option.map_none,Option.map_some]at h3
 .cases h3
 simp only[Option.some.injEq]at h3
 have hus:=bytesOf_eq hb hul
 obtain⟨e,hue,hu8⟩:=isBytesT_some hs
 obtain⟨A,n',c,rfl,hA⟩:=isSl_shape hx hsl
 have hlen:=hnews.len
 simp only[Builtin.lenOf,Sem.run_pure,Result.ok.injEq,and_true]at hlen
 have hll:l.length=n':=by
  have:=hnews.size
  rw[hus,List.length_map]at this
  omega
 refine⟨.string ⟨l.toArray⟩,w,?_,?_⟩
 .rw[←hll,run_convert_bytes_string w s d e A l.length c hue hu8 (isStringT_some hd)]
  cases A with
  |some a=>
   have hc:=hnews.cells n w (Nat.le_refl _) rfl
   rw[←hnews.size,List.take_length,hus]at hc
   simp only[Builtin.firstCells,Nat.mul_one,←hlen,←hll]at hc
   have hm:l.map (fun b=>Value.int .u8 (b.toNat:Int))=(l.map (fun b=>(b.toNat:Int))).map (Value.int .u8):=by rw[List.map_map];rfl
   rw[hm]at hc
   rw[run_bytesToString w a l.length c _ hc,foldl_push_byteCells]
   simp
  |none=>
   have hl0:l=[]:=by
    have hc:=hnews.cells n w (Nat.le_refl _) rfl
    rw[←hnews.size,List.take_length,hus]at hc
    simp only[Builtin.firstCells,Sem.run_pure,Result.ok.injEq,and_true]at hc
    have:=congrArg Array.size hc
    simp at this
    exact List.eq_nil_of_length_eq_zero this.symm
   subst hl0
   simp[Conv.bytesToString]
   rfl
 .rw[←h3]
  exact post_same (by simp only[Rep];exact⟨trivial,rfl⟩) hH
theorem strBytes_run{P:Program}{μ:Mu}{F:Prot}{w:World}{H:AH}{s d:TypeId}{str:ByteArray}(hs:isStringT P s=true)(hd:isBytesT P d=true)(hsz:str.size<=maxLen)(hH:HRep μ F w H.get)(hf:Fresh μ H) :
  ValS P (convert s d (.string str)) ((AM.newB ⟨str.data.toList.map byteAV,true,true⟩).bind fun b=>AM.ret (.sl b 0 str.size 1)) μ F w H:=fun r H' ft h=>by
 obtain⟨b,H1,f1,f2,h1,h2⟩:=bind_some h
 obtain⟨e1,e2⟩:=ret_some h2
 subst e1 e2
 obtain⟨e,hue,hu8⟩:=isBytesT_some hd
 have hrun:=run_bytes_of_string (P:=P) w s d e str (isStringT_some hs) hue hu8
 have hcap:=grownCap_ge w str.size 0 e
 have hcapm:=grownCap_le_maxLen w str.size 0 e hsz
 obtain⟨d1,d2,d3⟩:=hH.drew
 have hsize:(bytesRow str (grownCap w str.size 0 e)).size=grownCap w str.size 0 e:=by
  unfold bytesRow
  rw[Array.size_append,Array.size_map,Array.size_replicate]
  have:str.data.size=str.size:=rfl
  omega
 have hpost:=post_new (t:=e) (fr:=((bytesRow str (grownCap w str.size 0 e)).size,(bytesRow str (grownCap w str.size 0 e)).size+1)) (arr:=bytesRow str (grownCap w str.size 0 e))
  (r:=.sl b 0 str.size 1) (u:=.slice (some ⟨w.heap.size,0,none⟩) str.size (grownCap w str.size 0 e)) d1 hf h1 (.inl (Nat.le_refl _)) (by
   rw[hsize,List.length_map,Array.length_toList];exact hcap) (by
   have e3:str.data.toList.map byteAV=(str.data.toList.map (fun b=>Value.int .u8 b.toNat)).map .v:=by rw[List.map_map];rfl
   have e4:(bytesRow str (grownCap w str.size 0 e)).toList.take (str.data.toList.map byteAV).length=str.data.toList.map (fun b=>Value.int .u8 b.toNat):=by
    unfold bytesRow
    rw[Array.toList_append,Array.toList_map,List.length_map]
    exact List.take_left' (by simp)
   rw[e4,e3]
   exact repList_v _ _ _ _ (List.all_eq_true.2 fun x hx=>by obtain⟨y,_,rfl⟩:=List.mem_map.1 hx;rfl)) (fun _=>noidL_bytes _) (by
   simp only[Rep]
   exact⟨_,by unfold Mu.set;rw[if_pos rfl],.inr ⟨0,_,rfl,fun _=>rfl,hcap,hcapm,by simp only;omega⟩⟩)
 obtain⟨μ',F',p1,p2,p3,p4,p5⟩:=hpost
 exact⟨_,_,hrun,μ',F',p1,p2,d2.trans p3,WStep.trans (fun _ _ h=>h) d3 p4,p5⟩
end Go.Proofs.YtpncilciembjdaaGreatDoor
namespace Go.Proofs.YtpncilciembjdaaGreatDoor
open Go.RowKit

theorem setCells_nil(w:World)(g o:Nat):w.setCells g o []=w:=rfl
theorem copyA_sound{P:Program}{μ:Mu}{F:Prot}{w:World}{H:AH}{t u ty:TypeId}{s x:AV}{v y:Value}(hs:Rep μ F w s v)(hx:Rep μ F w x y)(hH:HRep μ F w H.get) :
  ValS P (Builtin.copy_ #[t,u] ty #[v,y]) (copyA P [t,u] s x) μ F w H:=fun r H' ft h=>by
 unfold copyA at h
 simp only at h
 rcases h1:elemT P t with _|et<;>rw[h1]at h
 .exact(fail_some h).elim
 cases s<;>try (exact(fail_some h).elim)
 case sl b o n e=>
  simp only at h
  rcases ite_some h with⟨hse,ha⟩|⟨_,ha⟩
  rotate_left
  .exact(fail_some ha).elim
  clear h
  obtain⟨⟨m,news⟩,H1,f1,f2,h5,hb⟩:=bind_some ha
  clear ha
  obtain⟨hHH,hpn,us,hul,hnews⟩:=newsA_sound hx hH h5
  rw[hHH]at hb
  simp only at hb
  rcases ite_some hb with⟨hone,hc⟩|⟨_,hc⟩
  rotate_left
  .exact(fail_some hc).elim
  clear hb
  obtain⟨k,H2,g1,g2,h6,hd⟩:=bind_some hc
  obtain⟨hk,hHH2⟩:=getB_some h6
  rw[hHH2]at hd
  rcases ite_some hd with⟨⟨hst,hlen⟩,hd2⟩|⟨_,hd2⟩
  rotate_left
  .exact(fail_some hd2).elim
  obtain⟨_,H3,g3,g4,h7,h8⟩:=bind_some hd2
  have hH3:=setB_some h7
  obtain⟨hr,hH4⟩:=ret_some h8
  subst hr hH4 hH3
  simp only[Rep]at hs
  obtain⟨p,hp,hvv⟩:=hs
  obtain⟨inf,hinf,hsz⟩:=szT_some hse
  obtain⟨p',hp',hB⟩:=hH.blk b k hk
  rw[hp]at hp'
  cases hp'
  have hle:Nat.min m n*e<=m*e:=Nat.mul_le_mul_right _ (Nat.min_le_left _ _)
  have hle2:Nat.min m n*e<=n*e:=Nat.mul_le_mul_right _ (Nat.min_le_right _ _)
  have hul2:=hul.sub 0 (Nat.min m n*e)
  simp only[List.drop_zero]at hul2
  have hlt:(us.take (Nat.min m n*e)).length=Nat.min m n*e:=by rw[List.length_take,hnews.size];omega
  have hlt2:(news.take (Nat.min m n*e)).length=Nat.min m n*e:=by rw[←hul2.length,hlt]
  obtain⟨q1,q2,q3⟩:=hrep_set hH hk hp hst o (news.take (Nat.min m n*e)) (us.take (Nat.min m n*e)) (by rw[hlt2];omega) hul2 (fun _=>by
   rw[noidL_all,List.all_eq_true]at hpn ⊢
   exact fun x hx=>hpn x (List.mem_of_mem_take hx))
  have hoc:∀ y∈us.take (Nat.min m n*e),y.oneCell'=true:=fun y hy=>by
   obtain⟨j,hj,rfl⟩:=List.getElem_of_mem hy
   have hj2:j<(news.take (Nat.min m n*e)).length:=by rw[hlt2,←hlt];exact hj
   obtain⟨u,a1,a2⟩:=hul2.get (List.getElem?_eq_getElem hj2)
   rw[List.getElem?_eq_getElem hj]at a1
   cases a1
   exact a2.one (List.all_eq_true.1 hone _ (List.getElem_mem hj2))
  have hcells:=hnews.cells (Nat.min m n) w (Nat.min_le_left _ _) rfl
  rcases hvv with⟨hn0,rfl⟩|⟨q,c,rfl,hq,hnc,hcm,hroom⟩
  .have h0:us.take (Nat.min m n*e)=[]:=List.eq_nil_of_length_eq_zero (by rw[hlt,hn0];simp)
   refine⟨.int .i64 (Nat.min m n),w.setCells p.g (p.o+o) (us.take (Nat.min m n*e)),?_,μ,F,by simp only[Rep];exact⟨trivial,rfl⟩,?_,q2,q3,fun _ _=>rfl⟩
   .subst hn0
    simp only[Builtin.copy_,List.getElem?_toArray,List.getElem?_cons_zero,List.getElem?_cons_succ]
    simp[run_underlying (elemT_some h1),sizeOf,typeInfo,hinf,hsz,goInt]
    rw[hnews.len]
    simp only[Result.andThen_ok]
    rw[show m.min 0=0 from Nat.min_zero m]at hcells
    rw[hcells]
    simp only[Result.andThen_ok,h0]
    rfl
   .rw[fun_get_put]
    exact q1
  have hstore:(storeCells (⟨p.g,q,none⟩:Addr) (us.take (Nat.min m n*e))).run P w=.ok () (w.setCells p.g (p.o+o) (us.take (Nat.min m n*e))):=by
   by_cases hn0:n=0
   .have h0:us.take (Nat.min m n*e)=[]:=List.eq_nil_of_length_eq_zero (by rw[hlt,hn0];simp)
    rw[h0]
    rfl
   .rw[hq (by omega)]
    have:=run_storeCells_cells (P:=P) p.g (p.o+o) (us.take (Nat.min m n*e)) 0 w (fun j hj=>by
      obtain⟨⟨y,hy⟩,_⟩:=hB.there (o+j) (by have:=hB.room;omega)
      rw[←Nat.add_assoc]at hy
      rw[Nat.add_zero,hy];rfl) (fun j hj=>by
      have:=(hB.there (o+j) (by have:=hB.room;omega)).2
      rw[←Nat.add_assoc]at this
      rw[Nat.add_zero];exact this) hoc
    rw[Nat.add_zero]at this
    exact this
  refine⟨.int .i64 (Nat.min m n),w.setCells p.g (p.o+o) (us.take (Nat.min m n*e)),?_,μ,F,by simp only[Rep];exact⟨trivial,rfl⟩,?_,q2,q3,fun _ _=>rfl⟩
  .simp only[Builtin.copy_,List.getElem?_toArray,List.getElem?_cons_zero,List.getElem?_cons_succ]
   simp[run_underlying (elemT_some h1),sizeOf,typeInfo,hinf,hsz,goInt]
   rw[hnews.len]
   simp only[Result.andThen_ok]
   rw[hcells]
   simp only[Result.andThen_ok]
   rw[hstore]
   rfl
  .rw[fun_get_put]
   exact q1
theorem zeros_one{l:List AV}{n:Nat}(h:l.all AV.one=true)(hl:0<l.length):∀ x∈zeros l n,x.one=true:=by
 intro x hx
 unfold zeros at hx
 obtain⟨i,_,rfl⟩:=List.mem_map.1 hx
 have hi:i % l.length<l.length:=Nat.mod_lt _ hl
 rw[List.getElem?_eq_getElem hi,Option.getD_some]
 exact List.all_eq_true.1 h _ (List.getElem_mem hi)
theorem clearA_sound{P:Program}{μ:Mu}{F:Prot}{w:World}{H:AH}{t ty:TypeId}{s:AV}{v:Value}(hs:Rep μ F w s v)(hH:HRep μ F w H.get) :
  ValS P (Builtin.clear_ #[t] ty #[v]) (clearA P [t] s) μ F w H:=fun r H' ft h=>by
 unfold clearA at h
 simp only at h
 rcases h1:elemT P t with _|et<;>rw[h1]at h
 .exact(fail_some h).elim
 cases s<;>try (exact(fail_some h).elim)
 case sl b o n e=>
  simp only at h
  rcases h5:zeroT P et with _|z<;>rw[h5]at h
  .exact(fail_some h).elim
  simp only at h
  rcases ite_some h with⟨⟨hse,hze,he0,hone⟩,ha⟩|⟨_,ha⟩
  rotate_left
  .exact(fail_some ha).elim
  clear h
  obtain⟨k,H2,g1,g2,h6,hd⟩:=bind_some ha
  obtain⟨hk,hHH2⟩:=getB_some h6
  rw[hHH2]at hd
  rcases ite_some hd with⟨⟨hst,hlen⟩,hd2⟩|⟨_,hd2⟩
  rotate_left
  .exact(fail_some hd2).elim
  obtain⟨_,H3,g3,g4,h7,h8⟩:=bind_some hd2
  have hH3:=setB_some h7
  obtain⟨hr,hH4⟩:=ret_some h8
  subst hr hH4 hH3
  simp only[Rep]at hs
  obtain⟨p,hp,hvv⟩:=hs
  obtain⟨i',hi',hz,hfl⟩:=zeroT_some h5
  obtain⟨p',hp',hB⟩:=hH.blk b k hk
  rw[hp]at hp'
  cases hp'
  have hzs:=zeros_sound (μ:=μ) (F:=F) (w:=w) z.cells (n*e) hfl
  generalize hus:((Array.range (n*e)).map (fun i=>z.cells[i % z.cells.size]!)).toList=us at hzs
  have hzl:(zeros (z.cells.toList.map AV.v) (n*e)).length=n*e:=by unfold zeros;rw[List.length_map,List.length_range]
  have hlt:us.length=n*e:=by rw[hzs.length,hzl]
  obtain⟨q1,q2,q3⟩:=hrep_set hH hk hp hst o (zeros (z.cells.toList.map AV.v) (n*e)) us (by rw[hzl];omega) hzs (fun _=>noidL_zeros _ _)
  have hoc:∀ y∈us,y.oneCell'=true:=fun y hy=>by
   obtain⟨j,hj,rfl⟩:=List.getElem_of_mem hy
   have hj2:j<(zeros (z.cells.toList.map AV.v) (n*e)).length:=by rw[hzl,←hlt];exact hj
   obtain⟨u,a1,a2⟩:=hzs.get (List.getElem?_eq_getElem hj2)
   rw[List.getElem?_eq_getElem hj]at a1
   cases a1
   exact a2.one (zeros_one hone (by rw[List.length_map,Array.length_toList,hze];exact he0) _ (List.getElem_mem hj2))
  refine⟨.tuple #[],w.setCells p.g (p.o+o) us,?_,μ,F,by simp only[Rep];exact⟨#[],rfl,rfl⟩,?_,q2,q3,fun _ _=>rfl⟩
  .have hzc:(Builtin.zeroCells z.cells n).toList=us:=by
    rw[←hus]
    unfold Builtin.zeroCells
    rw[hze]
   rcases hvv with⟨hn0,rfl⟩|⟨q,c,rfl,hq,hnc,hcm,hroom⟩
   .have h0:us=[]:=List.eq_nil_of_length_eq_zero (by rw[hlt,hn0];simp)
    rw[h0,setCells_nil]
    simp[Builtin.clear_,run_underlying (elemT_some h1)]
   .cases n with
    |zero=>
     have h0:us=[]:=List.eq_nil_of_length_eq_zero (by rw[hlt];simp)
     rw[h0,setCells_nil]
     simp[Builtin.clear_,run_underlying (elemT_some h1)]
    |succ n=>
     have hstore:(storeCells (⟨p.g,q,none⟩:Addr) us).run P w=.ok () (w.setCells p.g (p.o+o) us):=by
      rw[hq (by omega)]
      have:=run_storeCells_cells (P:=P) p.g (p.o+o) us 0 w (fun j hj=>by
        obtain⟨⟨y,hy⟩,_⟩:=hB.there (o+j) (by have:=hB.room;omega)
        rw[←Nat.add_assoc]at hy
        rw[Nat.add_zero,hy];rfl) (fun j hj=>by
        have:=(hB.there (o+j) (by have:=hB.room;omega)).2
        rw[←Nat.add_assoc]at this
        rw[Nat.add_zero];exact this) hoc
      rw[Nat.add_zero]at this
      exact this
     simp[Builtin.clear_,run_underlying (elemT_some h1),zeroValue,typeInfo,hi',hz,hzc,hstore]
  .rw[fun_get_put]
   exact q1
section
variable {P:Program} {w:World} {t:TypeId}
theorem eq_pn(d:Nat){e:TypeId}(hu:P.underlying t=some (.pointer e))(a:Addr):(Op.equalIn (d+1) t (.pointer (some a)) (.pointer none)).run P w=.ok false w:=by
 simp only[Op.equalIn,Sem.run_bind,run_underlying hu,Result.andThen_ok,Sem.run_pure]
theorem eq_np(d:Nat){e:TypeId}(hu:P.underlying t=some (.pointer e))(a:Addr):(Op.equalIn (d+1) t (.pointer none) (.pointer (some a))).run P w=.ok false w:=by
 simp only[Op.equalIn,Sem.run_bind,run_underlying hu,Result.andThen_ok,Sem.run_pure,Option.isNone]
theorem eq_sn(d:Nat){e:TypeId}(hu:P.underlying t=some (.slice e))(a:Addr)(n c n' c':Nat):(Op.equalIn (d+1) t (.slice (some a) n c) (.slice none n' c')).run P w=.ok false w:=by
 simp only[Op.equalIn,Sem.run_bind,run_underlying hu,Result.andThen_ok,Sem.run_pure]
theorem eq_fn(d:Nat){ps rs:Array TypeId}{vr:Bool}(hu:P.underlying t=some (.func ps rs vr))(f:Fn)(x y:Array Value):(Op.equalIn (d+1) t (.func f x y) .nilFunc).run P w=.ok false w:=by
 simp only[Op.equalIn,Sem.run_bind,run_underlying hu,Result.andThen_ok,Sem.run_pure]
end
theorem nilNe_sound{P:Program}{μ:Mu}{F:Prot}{w:World}{H:AH}{t yt:TypeId}{x y:Operand}{ρ:Operand->AV}{a:Act}{dst:Option Tmp}{ty:TypeId}{pos:String}{after:Array Edge}{guard:Option (Nat × Bool)}{b:BinOp}
  (hx:Rep μ F w (ρ x) (a.eval x)) (hy:Rep μ F w (ρ y) (a.eval y)) (hH:HRep μ F w H.get) (h:nilNe P t (ρ x) (ρ y)=true) :
  RunS P (execOp a.eval ⟨dst,.binOp b t x y yt,ty,pos,after,guard⟩) (match b with
   |.eql=>AM.ret (.v (.bool false))
   |.neq=>AM.ret (.v (.bool true))
   |_=>AM.fail) μ F w H:=by
 have key:∀ u v,a.eval x=u->a.eval y=v->(Op.equal t u v).run P w=.ok false w->(eqGuard .eql t x y u v).run P w=.ok () w->(eqGuard .neq t x y u v).run P w=.ok () w->
   (binOp .eql t u v=do pure (.bool (←Op.equal t u v)))->(binOp .neq t u v=do pure (.bool (!(←Op.equal t u v))))->
   RunS P (execOp a.eval ⟨dst,.binOp b t x y yt,ty,pos,after,guard⟩) (match b with
   |.eql=>AM.ret (.v (.bool false))
   |.neq=>AM.ret (.v (.bool true))
   |_=>AM.fail) μ F w H:=by
  intro u v hu hv he hg1 hg2 hb1 hb2
  cases b<;>try (exact fun r H' ft h=>(fail_some h).elim)
  case eql=>exact runS_same (u:=.bool false) (by simp[execOp,hu,hv,hg1,hb1,he]) (by simp only[Rep];exact⟨trivial,rfl⟩) hH
  case neq=>exact runS_same (u:=.bool true) (by simp[execOp,hu,hv,hg2,hb2,he]) (by simp only[Rep];exact⟨trivial,rfl⟩) hH
 unfold nilNe at h
 split at h<;>try (cases h;done)
 .rename_i e1 e2 hu
  rw[e1]at hx
  rw[e2]at hy
  simp only[Rep]at hx hy
  obtain⟨p,hp,hxe⟩:=hx
  exact key _ _ hxe hy.1 (eq_pn 9999 hu _) (by simp[eqGuard]) (by simp[eqGuard]) rfl rfl
 .rename_i e1 e2 hu
  rw[e1]at hx
  rw[e2]at hy
  simp only[Rep]at hx hy
  obtain⟨_,g,o,hxe,_⟩:=hx
  exact key _ _ hxe hy.1 (eq_pn 9999 hu _) (by simp[eqGuard]) (by simp[eqGuard]) rfl rfl
 .rename_i e1 e2 hu
  rw[e1]at hx
  rw[e2]at hy
  simp only[Rep]at hx hy
  obtain⟨p,hp,hye⟩:=hy
  exact key _ _ hx.1 hye (eq_np 9999 hu _) (by simp[eqGuard]) (by simp[eqGuard]) rfl rfl
 .rename_i e1 e2 hu
  rw[e1]at hx
  rw[e2]at hy
  simp only[Rep]at hx hy
  obtain⟨_,g,o,hye,_⟩:=hy
  exact key _ _ hx.1 hye (eq_np 9999 hu _) (by simp[eqGuard]) (by simp[eqGuard]) rfl rfl
 .rename_i e1 e2 hu
  rw[e1]at hx
  rw[e2]at hy
  simp only[Rep]at hx hy
  obtain⟨p,hp,⟨hn0,_⟩|⟨q,c,hxe,_⟩⟩:=hx
  .omega
  exact key _ _ hxe hy.1 (eq_sn 9999 hu _ _ _ _ _) (by simp[eqGuard]) (by simp[eqGuard]) rfl rfl
 .rename_i e1 e2 hu
  rw[e1]at hx
  rw[e2]at hy
  simp only[Rep]at hx hy
  obtain⟨ua,uc,hxe,_⟩:=hx
  exact key _ _ hxe hy.1 (eq_fn 9999 hu _ _ _) (by simp[eqGuard]) (by simp[eqGuard]) rfl rfl
end Go.Proofs.YtpncilciembjdaaGreatDoor
