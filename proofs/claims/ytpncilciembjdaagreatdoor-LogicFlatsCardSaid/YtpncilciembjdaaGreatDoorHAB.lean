/- append, copy, conversion -/
import Derived.Test.YtpncilciembjdaaGreatDoorHAA
set_option linter.all false
open Array renaming ext'->Ax4,length_toList->Axc,range->Ayj,size_append->AyT
open Bool renaming false->Φ,true->Δ
open List renaming all_eq_true->Awr,append_assoc->Awd,cons_append->AxC,eq_nil_of_length_eq_zero->AwD,flatten_cons->Axp,flatten_nil->Azv,getElem?_cons_succ->Awu,getElem?_cons_zero->Awx,getElem?_drop->Axy,getElem?_eq_getElem->ξ,getElem?_take->AwP,getElem?_toArray->AwH,getElem_mem->Aws,getElem_of_mem->Ayg,length_append->ε,length_cons->γ,length_drop->AxD,length_map->Awm,length_nil->Axa,length_take->Awo,map_map->AxE,mem_map->AwV,mem_of_mem_drop->Axt,mem_of_mem_take->AxN,size_toArray->AxH,take_length->Axn,take_zero->Aye
open Nat renaming add_assoc->AwI,add_mul->AwW,add_zero->Aw1,le_refl->π,le_zero_eq->AzL,min->Axd,min_le_left->AzF,mul_le_mul_right->Aww,mul_ne_zero->AzI,mul_one->Aya,zero_mul->Ax2
open Option renaming none->Ξ,some->Θ
namespace Go.Proofs.YtpncilciembjdaaGreatDoor
open Option.some renaming injEq->ψ
open Go.RowKit
section
variable {P:Program} {μ:Mu} {F:Bf} {w:World} {H:AH}
theorem RepAt.append{g:Nat}:∀{xs ys:Ab} {o:Nat},RepAt μ F w g xs o->RepAt μ F w g ys (o+xs.length)->RepAt μ F w g (xs++ys) o
 |[],ys,o,_,h=>by simpa using h
 |x::r,ys,o,h,h'=>by
  simp only[AxC,RepAt]at h ⊢;exact⟨h.1,RepAt.append h.2 (by rwa [γ,show o+(r.length+1)=o+1+r.length by omega]at h')⟩
theorem RepRows.flat{g e:Nat}:∀{xs:List Ab} {o:Nat},RepRows μ F w g e xs o->RepAt μ F w g xs.flatten o/\xs.flatten.length=xs.length*e
 |[],o,_=>⟨by simp only[Azv,RepAt],by simp⟩
 |x::r,o,h=>by
  simp only[RepRows]at h;obtain⟨h1,h2,h3⟩:=h;obtain⟨h4,h5⟩:=RepRows.flat h3;refine⟨?_,?_⟩
  .rw[Axp]
   exact h2.append (by rwa [h1])
  .grind
theorem Xw{e:Nat}:∀{xs:List Ab},(xs.all λcs=>cs.length == e)=Δ->xs.flatten.length=xs.length*e
 |[],_=>by simp
 |x::r,h=>by
  simp only[List.all_cons,Bool.and_eq_true,beq_iff_eq]at h;rw[Axp,ε,h.1,Xw h.2,γ,AwW];omega
structure News (P:Program) (w:World) (e:Nat) (v:Value) (n:Nat) (us:AO):Prop where
 len:(Builtin.lenOf v).run P w=.ok n w
 size:us.length=n*e
 cells:∀ m W,m<=n->W.heap=w.heap->(Builtin.firstCells e m v).run P W=.ok (us.take (m*e)).toArray W
theorem Zo{W:World}(h:W.heap=w.heap)(a:Addr):W.cell? a=w.cell? a:=by unfold World.cell?;rw[h]
theorem K4{g q e n c:Nat}{us:AO}(hl:us.length=n*e)(hc:∀ j v,us[j]? = Θ v->w.cell? ⟨g,q+j,Ξ⟩=Θ v):News P w e (.slice (Θ ⟨g,q,Ξ⟩) n c) n us:=by
 refine⟨by simp[Builtin.lenOf],hl,λm W hm hW=>?_⟩;simp only[Builtin.firstCells];have hle:m*e<=n*e:=Aww _ hm;have hlen:(us.take (m*e)).length=m*e:=by rw[Awo];omega
 have:=run_loadCells_list (P:=P) W ⟨g,q,Ξ⟩ (us.take (m*e)) (λj v hv=>by
  rw[Addr.add_mid,Zo hW];rw[AwP]at hv;split at hv
  .exact hc j v hv
  .cases hv)
 rwa [hlen]at this
theorem MU(l:List UInt8):Bj (l.map JI)=Δ:=by
 rw[BZ,Awr];intro x hx;obtain⟨c,_,rfl⟩:=AwV.1 hx;rfl
theorem IE{e:Nat}{x:AV}{v:Value}{n:Nat}{cs:Ab}{H':AH}{ft:Foot}(hx:Rep μ F w x v)(hH:HRep μ F w H.get)(h:newsA e x H=Θ ((n,cs),H',ft)) :
  H'=H/\Bj cs=Δ/\∃ us,RepList μ F w cs us/\News P w e v n us:=by
 unfold newsA at h;split at h
 .rename_i b o n' e'
  rcases BP h with⟨he,h⟩|⟨_,h⟩
  rotate_left
  .exact(Aw h).elim
  subst he;obtain⟨k,H1,f1,f2,h1,h2⟩:=bind_some h;obtain⟨hk,rfl⟩:=Cc h1;rcases BP h2 with⟨⟨hc,hex⟩,h2⟩|⟨_,h2⟩
  rotate_left
  .exact(Aw h2).elim
  obtain⟨he,rfl⟩:=Ax h2;simp only[Prod.mk.injEq]at he;obtain⟨rfl,rfl⟩:=he;simp only[Rep]at hx;obtain⟨p,hp,hvv⟩:=hx;obtain⟨p',hp',hB⟩:=hH.blk b k hk;rw[hp]at hp'
  cases hp'
  have hpu:Bj ((k.cells.drop o).take (n*e'))=Δ:=by
   rcases hx:k.ex with _|_
   .simpa[hx]using hex
   .have:=hB.pure hx
    rw[BZ,Awr]at this ⊢;exact λx hx=>this x (Axt (AxN hx))
  rcases hvv with⟨rfl,rfl⟩|⟨q,c,rfl,hq,hnc,hcm,hroom⟩
  .exact⟨rfl,hpu,[],by simp only[Ax2,Aye,RepList],⟨by simp[Builtin.lenOf],by simp,λm W hm _=>by simp[Builtin.firstCells]⟩⟩
  by_cases hn0:n=0
  .subst hn0
   refine⟨rfl,hpu,[],by simp only[Ax2,Aye,RepList],K4 (by simp) λj v hv=>by simp at hv⟩
  obtain⟨us,hl,hcell⟩:=DJ (μ:=μ) (F:=F) (w:=w) (g:=p.g) (o:=p.o+o) (cs:=(k.cells.drop o).take (n*e')) λi x hx=>by
   simp only[AwP,Axy]at hx;split at hx
   .obtain⟨u,h1,h2⟩:=hB.cell (o+i) x hx
    exact⟨u,by rwa [AwI],h2⟩
   .cases hx
  refine⟨rfl,hpu,us,hl,?_⟩;rw[hq (by omega)];refine K4 ?_ hcell;rw[hl.length,Awo,AxD];omega
 .rename_i xs
  rcases BP h with⟨hall,h⟩|⟨_,h⟩
  rotate_left
  .exact(Aw h).elim
  obtain⟨he,rfl⟩:=Ax h;simp only[Prod.mk.injEq]at he;obtain⟨rfl,rfl⟩:=he;simp only[Rep]at hx;obtain⟨h0,A,c,rfl,hnc,hcm,hne⟩:=hx;have hpu:Bj xs.flatten=Δ:=by
   rw[BZ,Awr];intro x hx;obtain⟨l,hl,hxl⟩:=List.mem_flatten.1 hx;have:=Awr.1 h0 l hl;rw[BZ,Awr]at this;exact this x hxl
  rcases hxs:xs with _|⟨y,ys⟩
  .refine⟨rfl,rfl,[],by simp only[Azv,RepList],?_⟩
   cases A with
   |none=>
    refine⟨by simp[Builtin.lenOf],by simp,λm W hm _=>?_⟩;simp only[Axa,AzL]at hm;subst hm;simp[Builtin.firstCells]
   |some a=>
    refine⟨by simp[Builtin.lenOf],by simp,λm W hm _=>?_⟩;simp only[Axa,AzL]at hm;subst hm;simp[Builtin.firstCells,loadCells,loadCellsFrom]
  .rw[←hxs]
   obtain⟨g,o,e',rfl,hrows⟩:=hne (by rw[hxs];simp);obtain⟨hat,_⟩:=hrows.flat;obtain⟨us,hl,hcell⟩:=DJ (μ:=μ) (F:=F) (w:=w) (g:=g) (o:=o) (cs:=xs.flatten) λi x hx=>(hat.get hx).2
   exact⟨rfl,hpu,us,hl,K4 (by rw[hl.length,Xw hall]) hcell⟩
 .obtain⟨he,rfl⟩:=Ax h
  simp only[Prod.mk.injEq]at he;obtain⟨rfl,rfl⟩:=he;simp only[Rep]at hx;obtain⟨rfl,_⟩:=hx;refine⟨rfl,rfl,[],by simp only[RepList],⟨by simp[Builtin.lenOf],by simp,λm W hm _=>by simp[Builtin.firstCells]⟩⟩
 .rename_i s
  rcases BP h with⟨he,h⟩|⟨_,h⟩
  rotate_left
  .exact(Aw h).elim
  subst he;obtain⟨he,rfl⟩:=Ax h;simp only[Prod.mk.injEq]at he;obtain⟨rfl,rfl⟩:=he;simp only[Rep]at hx;obtain⟨rfl,_⟩:=hx;refine⟨rfl,MU _,s.data.toList.map (λb=>.int .u8 b.toNat),?_,⟨by simp[Builtin.lenOf],by simp,λm W hm _=>?_⟩⟩
  .have e1:s.data.toList.map JI=(s.data.toList.map (λb=>Value.int .u8 b.toNat)).map .v:=by
    rw[AxE];rfl
   rw[e1];exact EP _ _ _ _ (Awr.2 λx hx=>by obtain⟨y,_,rfl⟩:=AwV.1 hx;rfl)
  .simp only[Builtin.firstCells,Sem.run_pure,Aya]
   congr 1
   apply Ax4;rw[Array.toList_map,ByteArray.data_extract,Array.toList_extract,List.extract_eq_take_drop];simp[List.map_take]
 .exact(Aw h).elim
theorem J3{u:TypeId}(h:Gu P u=Δ):(∃ e,P.underlying u=Θ (.slice e))\/P.underlying u=Θ .string:=by
 grind [Gu]
section
variable {t u ty e:TypeId} {i:TypeInfo} {z:Value} {n m c:Nat} {x:Value} {us:AO} {A:Option Addr}
theorem No(ht:P.underlying t=Θ (.slice e))(hu:Gu P u=Δ)(hi:P.info? e=Θ i)(hx:News P w i.size x m us)(hfit:n+m<=c)
  {w':World} (hst:∀ a,A=Θ a->(storeCells (a.add (n*i.size)) us).run P w=.ok () w') (hno:A=Ξ->w'=w) :
  (Builtin.append_ #[t,u] ty #[.slice A n c,x]).run P w=.ok (.slice A (n+m) c) w':=by
 have hc:=hx.cells m w (π _) rfl;rw[←hx.size,Axn]at hc
 cases A with
 |none=>
  have:=hno rfl;subst this;rcases J3 hu with⟨e',hd⟩|hd<;>simp[Builtin.append_,run_underlying ht,run_underlying hd,sizeOf,typeInfo,hi,hx.len,hfit,hc]
 |some a=>
  have:=hst a rfl;rcases J3 hu with⟨e',hd⟩|hd<;>simp[Builtin.append_,run_underlying ht,run_underlying hd,sizeOf,typeInfo,hi,hx.len,hfit,hc,this]
theorem Mi(ht:P.underlying t=Θ (.slice e))(hu:Gu P u=Δ)(hi:P.info? e=Θ i)(hz:i.zero=Θ z)(hx:News P w i.size x m us){olds:AO}
  (holds:∀ W:World,W.heap=w.heap->(Builtin.firstCells i.size n (.slice A n c)).run P W=.ok olds.toArray W) (hg:c<n+m) (h63:n+m<=maxLen) (hb:(n+m)*i.bytes<=140737488355328) :
  (Builtin.append_ #[t,u] ty #[.slice A n c,x]).run P w=.ok (.slice (Θ ⟨w.heap.size,0,Ξ⟩) (n+m) (grownCap w (n+m) c e))
   (w.drew.alloc (.cells (olds.toArray++us.toArray++Builtin.zeroCells z.cells (grownCap w (n+m) c e-(n+m))) e)):=by
 have hc:=hx.cells m w.drew (π _) rfl;rw[←hx.size,Axn]at hc;have ho:=holds w.drew rfl;have hn:¬ (n+m<=c):=by omega
 have h63':¬ (9223372036854775807<((n:Int)+(m:Int))):=by simp only[maxLen]at h63;omega
 have h48:=growslice_fits (need:=n+m) (old:=c) (bytes:=i.bytes) hg hb;have h48':¬ (281474976710656<Builtin.nextslicecap (n+m) c*i.bytes):=by omega
 have hcat:∀ Z:Array Value,olds.toArray++(us.toArray++Z)=(olds++us).toArray++Z:=λZ=>by apply Ax4;simp[Awd]
 rcases J3 hu with⟨e',hd⟩|hd<;>simp[Builtin.append_,run_underlying ht,run_underlying hd,sizeOf,typeInfo,zeroValue,hi,hz,hx.len,hn,h63',h48',Question.forced,ho,hc,newRow,grownCap,hcat]
end
structure AppX (P:Program) (w:World) (t u ty e:TypeId) (i:TypeInfo) (z:Value) (y:Value) (m:Nat) (us:AO):Prop where
 size:us.length=m*i.size
 fits:∀(A:Option Addr) (n c:Nat) (w':World),n+m<=c->m*i.bytes<=140737488355328->(∀ a,A=Θ a->(storeCells (a.add (n*i.size)) us).run P w=.ok () w')->(A=Ξ->w'=w)->
  (Builtin.append_ #[t,u] ty #[.slice A n c,y]).run P w=.ok (.slice A (n+m) c) w'
 grows:∀(A:Option Addr) (n c:Nat) (olds:AO),(∀ W:World,W.heap=w.heap->(Builtin.firstCells i.size n (.slice A n c)).run P W=.ok olds.toArray W)->c<n+m->n+m<=maxLen->(n+m)*i.bytes<=140737488355328->
  (Builtin.append_ #[t,u] ty #[.slice A n c,y]).run P w=.ok (.slice (Θ ⟨w.heap.size,0,Ξ⟩) (n+m) (grownCap w (n+m) c e)) (w.drew.alloc (.cells (olds.toArray++us.toArray++Builtin.zeroCells z.cells (grownCap w (n+m) c e-(n+m))) e))
theorem PR(z:Array Value)(m:Nat):Builtin.zeroCells z m=(((Ayj (m*z.size)).map (λi=>z[i % z.size]!)).toList).toArray:=by
 grind [Builtin.zeroCells]
theorem UO{t u ty et:TypeId}{i:TypeInfo}{z:Value}{x:AV}{v:Value}{m:Nat}{cs:Ab}{H':AH}{ft:Foot}(ht:P.underlying t=Θ (.slice et))(hi:P.info? et=Θ i)(hz:i.zero=Θ z)(hzs:z.cells.size=i.size)(hpos:0<i.size)(hx:Rep μ F w x v)(hH:HRep μ F w H.get)(h:newsU P u z i.size x H=Θ ((m,cs),H',ft)) :
  H'=H/\Bj cs=Δ/\∃ us,RepList μ F w cs us/\AppX P w t u ty et i z v m us:=by
 unfold newsU at h;rcases hu:Gu P u with _|_<;>rw[hu]at h<;>simp only at h
 rotate_left
 .obtain⟨e1,e2,us,e3,e4⟩:=IE hx hH h
  exact⟨e1,e2,us,e3,e4.size,λA n c w' h1 _ h2 h3=>No ht hu hi e4 h1 h2 h3,λA n c olds h1 h2 h3 h4=>Mi ht hu hi hz e4 h1 h2 h3 h4⟩
 .rcases hu:LZ P u with _|_<;>rw[hu]at h<;>simp only at h
  rotate_left
  .unfold newsZ at h
   rcases hm:x.idx with _|m1<;>rw[hm]at h<;>simp only at h
   rotate_left
   .rcases BP h with⟨⟨hm63,hfl⟩,h⟩|⟨_,h⟩
    rotate_left
    .exact(Aw h).elim
    obtain⟨he,rfl⟩:=Ax h;simp only[Prod.mk.injEq]at he;obtain⟨he1,he2⟩:=he;subst m1 he2;obtain⟨k,rfl⟩:=E3 hx hm;obtain⟨kn,hkn⟩:∃ kn,P.underlying u=Θ (.int kn):=by
     grind [LZ]
    have hlen:(((Ayj (m*i.size)).map (λj=>z.cells[j % z.cells.size]!)).toList).length=m*i.size:=by simp
    have hw:IntKind.i64.wrap (m:Int)=m:=by rw[IntKind.wrap_i64];omega
    have hneg:¬ ((m:Int)<0):=by omega
    have hw0:IntKind.i64.wrap 0=0:=by decide
    have hzc:Builtin.zeroCells z.cells m=(((Ayj (m*i.size)).map (λj=>z.cells[j % z.cells.size]!)).toList).toArray:=by rw[PR,hzs]
    refine⟨rfl,IF _ _,_,Gn (μ:=μ) (F:=F) (w:=w) z.cells (m*i.size) hfl,hlen,λA n c w' h1 hmb h2 h3=>?_,λA n c olds h1 h2 h3 h4=>?_⟩
    .have h48i:¬ (281474976710656<(m:Int)*(i.bytes:Int)):=by
      omega
     revert h2 hzc hlen;generalize ((Ayj (m*i.size)).map (λj=>z.cells[j % z.cells.size]!)).toList=us;intro hlen hzc h2
     by_cases hm0:m=0
     .subst hm0
      have hus:us=[]:=AwD (by rw[hlen,Ax2]);subst hus
      cases A with
      |none=>
       have:=h3 rfl;subst this;simp[Builtin.append_,run_underlying ht,run_underlying hkn,sizeOf,typeInfo,hi,asInt,asIntOf,hw0,show n<=c by omega]
      |some a=>
       have:=h2 a rfl;simp[Builtin.append_,run_underlying ht,run_underlying hkn,sizeOf,typeInfo,hi,asInt,asIntOf,hw0,show n<=c by omega,this]
     .have hns:¬ (m*i.size=0):=AzI hm0 (by omega)
      have hns1:¬ (i.size=0):=by omega
      cases A with
      |none=>
       have:=h3 rfl;subst this;simp[Builtin.append_,run_underlying ht,run_underlying hkn,sizeOf,typeInfo,zeroValue,hi,hz,asInt,asIntOf,hw,hneg,h1,hm0,hns1,hns,h48i,hzc]
      |some a=>
       have:=h2 a rfl;simp[Builtin.append_,run_underlying ht,run_underlying hkn,sizeOf,typeInfo,zeroValue,hi,hz,asInt,asIntOf,hw,hneg,h1,hm0,hns1,hns,h48i,hzc,this]
    .have hm0:m≠0\/m=0:=by omega
     have h48i:¬ (281474976710656<(m:Int)*(i.bytes:Int)):=by
      grind
     have ho:=h1 w.drew rfl;have hn:¬ (n+m<=c):=by omega
     have h63':¬ (9223372036854775807<((n:Int)+(m:Int))):=by simp only[maxLen]at h3;omega
     have h48:=growslice_fits (need:=n+m) (old:=c) (bytes:=i.bytes) h2 h4;have h48':¬ (281474976710656<Builtin.nextslicecap (n+m) c*i.bytes):=by omega
     have hns1:¬ (i.size=0):=by omega
     revert hzc hlen;generalize ((Ayj (m*i.size)).map (λj=>z.cells[j % z.cells.size]!)).toList=us;intro hlen hzc;have hcat:∀ Z:Array Value,olds.toArray++(us.toArray++Z)=(olds++us).toArray++Z:=λZ=>by apply Ax4;simp[Awd]
     by_cases hm0:m=0
     .subst hm0
      have hus:us=[]:=AwD (by rw[hlen,Ax2]);subst hus;have hn':¬ n<=c:=by omega
      simp[Builtin.append_,run_underlying ht,run_underlying hkn,sizeOf,typeInfo,zeroValue,hi,hz,asInt,asIntOf,hw0,hn',show ¬ (9223372036854775807<(n:Int)) by omega,show ¬ (281474976710656<Builtin.nextslicecap n c*i.bytes) from h48',Question.forced,ho,newRow,grownCap]
     .have hns:¬ (m*i.size=0):=AzI hm0 (by omega)
      simp[Builtin.append_,run_underlying ht,run_underlying hkn,sizeOf,typeInfo,zeroValue,hi,hz,asInt,asIntOf,hw,hneg,hn,h63',h48',hm0,hns1,hns,h48i,Question.forced,ho,newRow,grownCap,hzc,hcat]
   .exact(Aw h).elim
  .exact(Aw h).elim
end
section
variable {P:Program} {μ:Mu} {F:Bf} {w:World} {H:AH}
theorem HRep.weaken{H H':Nat->Option ABlk}(h:HRep μ F w H)(hs:∀ b k',H' b=Θ k'->∃ k,H b=Θ k/\k'.cells=k.cells/\k'.st=k.st/\(k'.ex=Δ->k.ex=Δ)):HRep μ F w H':=by
 have own:∀{k k':ABlk} {r i:Nat},k'.cells=k.cells->k'.st=k.st->(k'.ex=Δ->k.ex=Δ)->k'.owns r i->k.owns r i:=by
  grind [ABlk.owns]
 refine⟨λb k' hk=>?_,λb b' k1 k2 p p' hne h1 h2 q1 q2 i i' o1 o2=>?_,h.prot⟩
 .obtain⟨k,h1,h2,h3,h4⟩:=hs b k' hk
  obtain⟨p,hp,hB⟩:=h.blk b k h1;refine⟨p,hp,⟨λi x hx=>hB.cell i x (by rw[←h2];exact hx),by rw[h2];exact hB.room,hB.there,λhf i hi=>hB.kept (by rw[←h3];exact hf) i (by rw[←h2];exact hi),λi hi=>hB.free i (own h2 h3 h4 hi),λhx=>by rw[h2];exact hB.pure (h4 hx)⟩⟩
 .obtain⟨j1,a1,a2,a3,a4⟩:=hs b k1 h1
  obtain⟨j2,b1,b2,b3,b4⟩:=hs b' k2 h2;exact h.apart b b' j1 j2 p p' hne a1 b1 q1 q2 i i' (own a2 a3 a4 o1) (own b2 b3 b4 o2)
theorem T5{olds us:AO}{z:Array Value}{n m cap size:Nat}(ho:olds.length=n*size)(hu:us.length=m*size)(hz:z.size=size)(hc:n+m<=cap) :
  (olds.toArray++us.toArray++Builtin.zeroCells z (cap-(n+m))).size=cap*size/\(olds.toArray++us.toArray++Builtin.zeroCells z (cap-(n+m))).toList.take ((n+m)*size)=olds++us:=by
 refine⟨?_,?_⟩
 .rw[AyT,AyT,size_zeroCells,hz,AxH,AxH,ho,hu,←AwW,←AwW]
  congr 1
  omega
 .grind [Array.toList_append,ε,List.take_left,AwW]
theorem RepList.append{xs ys:Ab}:∀{us vs:AO},RepList μ F w xs us->RepList μ F w ys vs->RepList μ F w (xs++ys) (us++vs):=by
 induction xs with
 |nil=>intro us vs h h';simp only[RepList]at h;subst h;exact h'
 |cons x r ih=>
  intro us vs h h';simp only[RepList]at h;obtain⟨u,t,rfl,h1,h2⟩:=h;simp only[AxC,RepList];exact⟨u,t++vs,rfl,h1,ih h2 h'⟩
end
set_option maxHeartbeats 1000000 in
theorem PW{P:Program}{μ:Mu}{F:Bf}{w:World}{H:AH}{t u ty:TypeId}{s x:AV}{v y:Value}(hs:Rep μ F w s v)(hx:Rep μ F w x y)(hH:HRep μ F w H.get)(hf:Cg μ H) :
  ValS P (Builtin.append_ #[t,u] ty #[v,y]) (appendA P [t,u] s x) μ F w H:=λr H' ft h=>by
 unfold appendA at h;simp only at h;rcases h1:CA P t with _|et<;>rw[h1]at h
 .exact(Aw h).elim
 simp only at h;rcases h3:P.info? et with _|i<;>rw[h3]at h
 .exact(Aw h).elim
 simp only at h;rcases h4:i.zero with _|z<;>rw[h4]at h
 .exact(Aw h).elim
 simp only at h;rcases BP h with⟨⟨hzs,hpos⟩,h⟩|⟨_,h⟩
 rotate_left
 .exact(Aw h).elim
 obtain⟨⟨m,news⟩,H1,f1,f2,h5,h⟩:=bind_some h;have ht:=CM h1;obtain⟨hHH,hpn,us,hul,hnews⟩:=UO (ty:=ty) ht h3 h4 hzs hpos hx hH h5;have hHH:=hHH.symm;subst hHH;simp only at h;have hnl:news.length=m*i.size:=by rw[←hul.length,hnews.size]
 rcases BP h with⟨hm,h⟩|⟨hm,h⟩
 .-- nothing is appended
  rcases BP h with⟨hsl,h⟩|⟨_,h⟩
  rotate_left
  .exact(Aw h).elim
  obtain⟨rfl,rfl⟩:=Ax h;subst hm;have hus:us=[]:=AwD (by rw[hnews.size,Ax2]);subst hus;have fin:∀ A n c,v=.slice A n c->n<=c->∃ u_1 w',(Builtin.append_ #[t,u] ty #[v,y]).run P w=.ok u_1 w'/\Post μ F w H' r H' u_1 w':=by
   intro A n c hv hnc;subst hv;have:=hnews.fits A n c w (by omega) (by omega) (λa _=>rfl) (λ_=>rfl);exact⟨_,_,this,Ei hs hH⟩
  unfold P5 at hsl;split at hsl
  .simp only[Rep]at hs
   obtain⟨p,hp,⟨_,rfl⟩|⟨q,c,rfl,hq,hnc,hcm,hroom⟩⟩:=id hs
   .exact fin _ _ _ rfl (π _)
   exact fin _ _ _ rfl hnc
  .simp only[Rep]at hs
   obtain⟨_,A,c,rfl,hnc,hcm,hne⟩:=id hs;exact fin _ _ _ rfl hnc
  .simp only[Rep]at hs
   obtain⟨rfl,_⟩:=id hs;exact fin _ _ _ rfl (π _)
  .cases hsl
 .rcases BP h with⟨hone,h⟩|⟨_,h⟩
  rotate_left
  .exact(Aw h).elim
  have hoc:∀ y∈us,y.oneCell'=Δ:=λy hy=>by
   obtain⟨j,hj,rfl⟩:=Ayg hy;have hj2:j<news.length:=by rw[←hul.length];exact hj
   obtain⟨u,a1,a2⟩:=hul.get (ξ hj2);rw[ξ hj]at a1
   cases a1
   exact a2.one (Awr.1 hone _ (Aws hj2))
  have grown:∀(G:AH) (st:Bool) (n c:Nat) (olds:AO) (cs:Ab) (b:Nat) (G1:AH) (ft1:Foot),HRep μ F w G.get->Cg μ G->G.next=H.next->AM.newB ⟨cs++news,st,Δ⟩ G=Θ (b,G1,ft1)->
    RepList μ F w cs olds->olds.length=n*i.size->n+m<=maxLen->Bj cs=Δ->
    Post μ F w H (.sl b 0 (n+m) i.size) G1 (.slice (Θ ⟨w.heap.size,0,Ξ⟩) (n+m) (grownCap w (n+m) c et)) (w.drew.alloc (.cells (olds.toArray++us.toArray++Builtin.zeroCells z.cells (grownCap w (n+m) c et-(n+m))) et)):=by
   intro G st n c olds cs b G1 ft1 hG hfG hGn hnew hcs hol h63 hpc;have hcap:=grownCap_ge w (n+m) c et;have hcapm:=grownCap_le_maxLen w (n+m) c et h63;obtain⟨hsize,htake⟩:=T5 (z:=z.cells) (cap:=grownCap w (n+m) c et) hol hnews.size hzs hcap;obtain⟨d1,d2,d3⟩:=hG.drew;generalize (olds.toArray++us.toArray++Builtin.zeroCells z.cells (grownCap w (n+m) c et-(n+m)))=arr at *;have hlen:(cs++news).length=(n+m)*i.size:=by rw[ε,←hcs.length,hol,hnl,AwW]
   have hle:(n+m)*i.size<=arr.size:=by rw[hsize];exact Aww _ hcap
   obtain⟨hb,hr⟩:=E4 hnew;simp only[Prod.mk.injEq]at hr;obtain⟨rfl,rfl,rfl⟩:=hr;have hfr:=hfG _ (π _) hb;obtain⟨q1,q2⟩:=Uu d1 hfr (cs++news) arr et (0,0) Δ (.inr rfl) (by rw[hlen];exact hle) (by
    rw[hlen,htake];exact(RepList.append hcs hul).later' d2) (λ_=>by rw[BZ]at hpc hpn ⊢;simp[hpc,hpn])
   have hws:w.drew.heap.size=w.heap.size:=rfl;rw[hws]at q1 q2;have hWS:WStep F w (w.drew.alloc (.cells arr et)):=WStep.trans (λ_ _ h=>h) d3 (WStep.alloc _ _ _);have hLt:=d2.trans q2
   cases st with
   |true=>
    refine⟨_,F,?_,?_,hLt,hWS,λc hc=>NK (by have hc':c<H.next\/G.next+1<=c:=hc;omega)⟩
    .simp only[Rep]
     exact⟨_,by unfold Mu.set;rw[Ac rfl],.inr ⟨0,_,rfl,λ_=>rfl,hcap,hcapm,by simp only;omega⟩⟩
    .rw[Hj]
     exact q1
   |false=>
    obtain⟨k1,k2⟩:=QL q1 (b:=G.next) (by rw[Ac rfl]) (by unfold Mu.set;rw[Ac rfl]);refine⟨_,_,?_,?_,hLt.trans k2,hWS,λc hc=>NK (by have hc':c<H.next\/G.next+1<=c:=hc;omega)⟩
    .simp only[Rep]
     exact⟨_,by unfold Mu.set;rw[Ac rfl],.inr ⟨0,_,rfl,λ_=>rfl,hcap,hcapm,by simp only;omega⟩⟩
    .rw[Hj]
     refine k1.less λc k hk=>?_
     by_cases e:c=G.next
     .rw[Ac e]at hk ⊢
      exact hk
     .rw[Ad e]at hk ⊢
      rw[Ad e];exact hk
  cases s with
  |v z'=>
   simp only at h;rcases BP h with⟨⟨c0,c1,c2⟩,hh⟩|⟨_,hh⟩
   rotate_left
   .exact(Aw hh).elim
   have hz':=I9 c0;subst hz';obtain⟨b,H2,g1,g2,h6,h7⟩:=bind_some hh;obtain⟨rfl,rfl⟩:=Ax h7;simp only[Rep]at hs;obtain⟨rfl,_⟩:=hs;have hrun:=hnews.grows Ξ 0 0 [] (λW _=>by simp[Builtin.firstCells]) (by omega) (by omega) (by simpa using c1);refine⟨_,_,hrun,?_⟩;have:=grown H Δ 0 0 [] [] b H' g1 hH hf rfl (by simpa using h6) (by simp only[RepList]) (by simp) (by omega) rfl;simpa only[Nat.zero_add]using this
  |sl b o n e=>
   simp only at h;rcases BP h with⟨⟨he,c1,c2⟩,h⟩|⟨_,h⟩
   rotate_left
   .exact(Aw h).elim
   subst he;obtain⟨k,H2,g1,g2,h6,hh⟩:=bind_some h;clear h;obtain⟨hk,hHH⟩:=Cc h6;subst hHH;rcases BP hh with⟨⟨hex,hol,hfull⟩,hh2⟩|⟨_,hh2⟩
   rotate_left
   .exact(Aw hh2).elim
   obtain⟨_,H3,g3,g4,h7,h8⟩:=bind_some hh2;obtain⟨b',H4,g5,g6,h9,h10⟩:=bind_some h8;obtain⟨rfl,hHH⟩:=Ax h10;subst hHH;have hH3:H3.next=H2.next/\H3.top=H2.top/\∀ c,H3.get c=if c=b then(if k.st=Δ then Ξ else Θ { k with ex:=Φ }) else H2.get c:=by
    rcases BP h7 with⟨hst,h7⟩|⟨hst,h7⟩
    .have:=Qx h7
     subst this;exact⟨rfl,rfl,λc=>by rw[AH.get_del,Ac hst]⟩
    .have:=GX h7
     subst this;exact⟨rfl,rfl,λc=>by rw[AH.get_put,Ad hst]⟩
   obtain⟨n1,n2,n3⟩:=hH3;simp only[Rep]at hs;obtain⟨p,hp,hvv⟩:=hs;obtain⟨p',hp',hB⟩:=hH.blk b k hk;rw[hp]at hp'
   cases hp'
   obtain⟨hb9,hr9⟩:=E4 h9;simp only[Prod.mk.injEq]at hr9;obtain⟨hb',hH4,_⟩:=hr9;have hfr:μ b'=Ξ:=hf b' (by rw[hb',n1];exact π _) (by
    have:H3.below b':=by rw[hb'];exact hb9
    unfold AH.below at this ⊢
    rwa [n2]at this)
   have hbb:b≠b':=by rintro rfl;rw[hp]at hfr;cases hfr
   have hlen0:((k.cells.take (o+n*i.size)).drop o).length=n*i.size:=by
    rw[AxD,Awo];omega
   have hpk:Bj ((k.cells.take (o+n*i.size)).drop o)=Δ:=by
    have:=hB.pure hex;rw[BZ,Awr]at this ⊢;exact λx hx=>this x (AxN (Axt hx))
   have hweak:HRep μ F w H3.get:=hH.weaken λd k' hk'=>by
    rw[n3]at hk'
    by_cases e1:d=b
    .subst e1
     rw[Ac rfl]at hk';split at hk'
     .cases hk'
     .simp only[ψ]at hk'
      subst hk';exact⟨k,hk,rfl,rfl,λh=>by cases h⟩
    .rw[Ad e1]at hk'
     exact⟨k',hk',rfl,rfl,id⟩
   have hfr3:Cg μ H3:=λd hd hbl=>hf d (by rw[←n1];exact hd) (by
    unfold AH.below at hbl ⊢
    rwa [n2]at hbl)
   rcases hvv with⟨hn0,rfl⟩|⟨q,c,rfl,hq,hnc,hcm,hroom⟩
   .subst hn0
    have hnil:((k.cells.take (o+0*i.size)).drop o)=[]:=AwD (by rw[hlen0];simp);have hrun:=hnews.grows Ξ 0 0 [] (λW _=>by simp[Builtin.firstCells]) (by omega) c2 c1;exact⟨_,_,hrun,grown H3 k.st 0 0 [] ((k.cells.take (o+0*i.size)).drop o) b' H' g5 hweak hfr3 n1 h9 (by rw[hnil];simp only[RepList]) (by simp) c2 hpk⟩
   by_cases hfit:n+m<=c
   .have hcl:n*i.size+m*i.size<=c*i.size:=by rw[←AwW];exact Aww _ hfit
    obtain⟨q1,q2⟩:=ZN hH hk hp hfr hex o (o+n*i.size) (by omega) hol hfull;obtain⟨F',s1,s2,s3⟩:=ZM q1 (b:=b') (k:=⟨(k.cells.take (o+n*i.size)).drop o,k.st,Δ⟩) (p:=⟨p.g,p.o+o,p.room-o⟩) (by rw[Ac rfl]) (by unfold Mu.set;rw[Ac rfl]) rfl news us
     (by simp only[hlen0,hnl];omega) (hul.later' q2) hpn
    simp only[hlen0]at s1 s2 s3;have hqq:q=p.o+o:=hq (by omega);have hul2:us.length=m*i.size:=hnews.size;have hstore:=run_storeCells_cells (P:=P) p.g (p.o+o+n*i.size) us 0 w (λj hj=>by
      obtain⟨⟨y,hy⟩,_⟩:=hB.there (o+n*i.size+j) (by omega);rw[←AwI,←AwI]at hy;rw[Aw1,hy];rfl) (λj hj=>by
      have:=(hB.there (o+n*i.size+j) (by omega)).2;rw[←AwI,←AwI]at this;rw[Aw1];exact this) hoc
    have hrun:=hnews.fits (Θ ⟨p.g,q,Ξ⟩) n c (w.setCells p.g (p.o+o+n*i.size) us) hfit (by
     have:m*i.bytes<=(n+m)*i.bytes:=Aww _ (by omega);omega) (λa ha=>by
     cases ha
     rw[hqq,Addr.add_mid];rw[Aw1]at hstore;exact hstore) (λh=>by cases h)
    refine⟨_,_,hrun,μ.set b' ⟨p.g,p.o+o,p.room-o⟩,F',?_,?_,q2.trans s2,s3,λd hd=>NK ?_⟩
    .simp only[Rep]
     exact⟨⟨p.g,p.o+o,p.room-o⟩,by unfold Mu.set;rw[Ac rfl],.inr ⟨q,c,rfl,λ_=>hqq,hfit,hcm,by simp only;omega⟩⟩
    .refine s1.less λd k' hk'=>?_
     rw[hH4,←hb',EY,n3]at hk'
     by_cases e1:d=b'
     .rw[Ac e1]at hk' ⊢
      exact hk'
     .rw[Ad e1]at hk' ⊢
      rw[Ad e1];exact hk'
    .rw[hb',n1]
     have hd':d<H2.next\/H3.next+1<=d:=by rw[hH4]at hd;exact hd
     omega
   .-- the row moves
    have holds:∃ olds,RepList μ F w ((k.cells.take (o+n*i.size)).drop o) olds/\olds.length=n*i.size/\∀ W:World,W.heap=w.heap->(Builtin.firstCells i.size n (.slice (Θ ⟨p.g,q,Ξ⟩) n c)).run P W=.ok olds.toArray W:=by
     by_cases hn0:n=0
     .subst hn0
      refine⟨[],?_,by simp,λW _=>by simp[Builtin.firstCells,loadCells,loadCellsFrom]⟩;have:((k.cells.take (o+0*i.size)).drop o)=[]:=AwD (by rw[hlen0];simp);rw[this];simp only[RepList]
     .obtain⟨us',hl,hcell⟩:=DJ (μ:=μ) (F:=F) (w:=w) (g:=p.g) (o:=p.o+o) (cs:=(k.cells.take (o+n*i.size)).drop o) λj x hx=>by
       simp only[Axy,AwP]at hx;split at hx
       .obtain⟨u,a1,a2⟩:=hB.cell (o+j) x hx
        exact⟨u,by rwa [AwI],a2⟩
       .cases hx
      have hul':us'.length=n*i.size:=by rw[hl.length,hlen0]
      refine⟨us',hl,hul',λW hW=>?_⟩;rw[hq (by omega)];have:=(K4 (P:=P) (w:=w) (g:=p.g) (q:=p.o+o) (e:=i.size) (n:=n) (c:=c) hul' hcell).cells n W (π _) hW
      rwa [←hul',Axn]at this
    obtain⟨olds,o1,o2,o3⟩:=holds;have hrun:=hnews.grows (Θ ⟨p.g,q,Ξ⟩) n c olds o3 (by omega) c2 c1;refine⟨_,_,hrun,?_⟩;refine grown H3 k.st n c olds ((k.cells.take (o+n*i.size)).drop o) b' H' g5 ?_ ?_ n1 h9 o1 o2 c2 (by
     have:=hB.pure hex;rw[BZ,Awr]at this ⊢;exact λx hx=>this x (AxN (Axt hx)))
    .refine hH.weaken λd k' hk'=>?_
     rw[n3]at hk'
     by_cases e1:d=b
     .subst e1
      rw[Ac rfl]at hk';split at hk'
      .cases hk'
      .simp only[ψ]at hk'
       subst hk';exact⟨k,hk,rfl,rfl,λh=>by cases h⟩
     .rw[Ad e1]at hk'
      exact⟨k',hk',rfl,rfl,id⟩
    .intro d hd hbl
     refine hf d (by rw[←n1];exact hd) ?_;unfold AH.below at hbl ⊢
     rwa [n2]at hbl
  |_=>exact(Aw h).elim
def G6(P:Program)(Γ:FuncId->Ab->AM AV):Prop:=∀(f:FuncId) (args:Ab) (μ:Mu) (F:Bf) (w:World) (H:AH) (H9:Array Value),RepList μ F w args H9.toList->HRep μ F w H.get->H.wf->Cg μ H->
 ∀ r H' ft,Γ f args H=Θ (r,H',ft)->Calls P f H9 w λe w'=>∃ u,e=.returned u/\Post μ F w H r H' u w'
def OpS(P:Program)(o:Oper)(a:Act)(m:AM AV)(μ:Mu)(F:Bf)(w:World)(H:AH):Prop:=∀ r H' ft,m H=Θ (r,H',ft)->∀(next:Act->World->Prop) (Q:Exit->Act->World->Prop),
 (∀ u w',Post μ F w H r H' u w'->next (a.put o.dst u) w')->o.wp P a w next Q
theorem OpS.of_run{P:Program}{o:Oper}{a:Act}{m:AM AV}{μ:Mu}{F:Bf}{w:World}{H:AH}(h:PU P (execOp a.eval o) m μ F w H):OpS P o a m μ F w H:=λr H' ft hm next Q hn=>by
 obtain⟨n,u,w',h1,h2,h3⟩:=h r H' ft hm;unfold Oper.wp;rw[h1];rcases h2 with rfl|⟨rfl,rfl⟩
 .grind [Oper.upon_value]
 .grind [Oper.upon_skip]
theorem Oa{μ:Mu}{F:Bf}{w:World}:∀{cs:Ab} {l:List UInt8} {us:AO},bytesOf cs=Θ l->RepList μ F w cs us->us=l.map λb=>.int .u8 b.toNat
 |[],l,us,h,hr=>by
  simp only[bytesOf,ψ]at h;simp only[RepList]at hr;subst h hr;rfl
 |x::r,l,us,h,hr=>by
  simp only[bytesOf]at h;simp only[RepList]at hr;obtain⟨u,t,rfl,h1,h2⟩:=hr;rcases e1:RU x with _|c<;>rw[e1]at h
  .cases h
  rcases e2:bytesOf r with _|l'<;>rw[e2]at h
  .cases h
  simp only[ψ]at h;subst h;rw[Oa e2 h2,List.map_cons]
  congr 1
  unfold RU at e1;split at e1
  .grind [Rep]
  .cases e1
theorem Ju{P:Program}{t:TypeId}(h:DV P t=Δ):∃ e,P.underlying t=Θ (.slice e)/\P.underlying e=Θ (.int .u8):=by
 grind [CA,DV]
theorem IB{P:Program}{t:TypeId}(h:Ck P t=Δ):P.underlying t=Θ .string:=by
 grind [Ck]
theorem Ws{μ:Mu}{F:Bf}{w:World}{x:AV}{v:Value}(hx:Rep μ F w x v)(h:P5 x=Δ):∃ A n c,v=.slice A n c/\(A=Ξ->n=0\/∃ xs,x=.ls xs):=by
 unfold P5 at h;split at h
 .simp only[Rep]at hx
  obtain⟨p,hp,⟨hn,rfl⟩|⟨q,c,rfl,_⟩⟩:=hx
  .grind
  exact⟨_,_,_,rfl,λh=>by cases h⟩
 .simp only[Rep]at hx
  obtain⟨_,A,c,rfl,_⟩:=hx;exact⟨_,_,_,rfl,λ_=>.inr ⟨_,rfl⟩⟩
 .simp only[Rep]at hx
  obtain⟨rfl,_⟩:=hx;exact⟨_,_,_,rfl,λ_=>.inl rfl⟩
 .cases h
theorem P2{P:Program}{μ:Mu}{F:Bf}{w:World}{H:AH}{s d:TypeId}{x:AV}{v:Value}(hs:DV P s=Δ)(hd:Ck P d=Δ)(hsl:P5 x=Δ)(hx:Rep μ F w x v)(hH:HRep μ F w H.get) :
  ValS P (convert s d v) ((newsA 1 x).bind λr=>AM.opt ((bytesOf r.2).map λl=>.v (.string ⟨l.toArray⟩))) μ F w H:=λr H' ft h=>by
 obtain⟨⟨n,cs⟩,H1,f1,f2,h1,h2⟩:=bind_some h;obtain⟨e1,_,us,hul,hnews⟩:=IE hx hH h1;obtain⟨h3,e2⟩:=DY h2;rw[e2,e1];rcases hb:bytesOf cs with _|l<;>simp only[hb,Option.map_none,Option.map_some]at h3
 .cases h3
 simp only[ψ]at h3;have hus:=Oa hb hul;obtain⟨e,hue,hu8⟩:=Ju hs;obtain⟨A,n',c,rfl,hA⟩:=Ws hx hsl;have hlen:=hnews.len;simp only[Builtin.lenOf,Sem.run_pure,Result.ok.injEq,and_true]at hlen;have hll:l.length=n':=by
  have:=hnews.size;rw[hus,Awm]at this;omega
 refine⟨.string ⟨l.toArray⟩,w,?_,?_⟩
 .rw[←hll,run_convert_bytes_string w s d e A l.length c hue hu8 (IB hd)]
  cases A with
  |some a=>
   have hc:=hnews.cells n w (π _) rfl;rw[←hnews.size,Axn,hus]at hc;simp only[Builtin.firstCells,Aya,←hlen,←hll]at hc;have hm:l.map (λb=>Value.int .u8 (b.toNat:Int))=(l.map (λb=>(b.toNat:Int))).map (Value.int .u8):=by rw[AxE];rfl
   rw[hm]at hc;rw[run_bytesToString w a l.length c _ hc,foldl_push_byteCells];simp
  |none=>
   have hl0:l=[]:=by
    have hc:=hnews.cells n w (π _) rfl;rw[←hnews.size,Axn,hus]at hc;simp only[Builtin.firstCells,Sem.run_pure,Result.ok.injEq,and_true]at hc;have:=congrArg Array.size hc;simp at this;exact AwD this.symm
   subst hl0;simp[Conv.bytesToString];rfl
 .rw[←h3]
  exact Ei (by simp only[Rep];exact⟨trivial,rfl⟩) hH
theorem S7{P:Program}{μ:Mu}{F:Bf}{w:World}{H:AH}{s d:TypeId}{str:ByteArray}(hs:Ck P s=Δ)(hd:DV P d=Δ)(hsz:str.size<=maxLen)(hH:HRep μ F w H.get)(hf:Cg μ H) :
  ValS P (convert s d (.string str)) ((AM.newB ⟨str.data.toList.map JI,Δ,Δ⟩).bind λb=>AM.ret (.sl b 0 str.size 1)) μ F w H:=λr H' ft h=>by
 obtain⟨b,H1,f1,f2,h1,h2⟩:=bind_some h;obtain⟨e1,e2⟩:=Ax h2;subst e1 e2;obtain⟨e,hue,hu8⟩:=Ju hd;have hrun:=run_bytes_of_string (P:=P) w s d e str (IB hs) hue hu8;have hcap:=grownCap_ge w str.size 0 e;have hcapm:=grownCap_le_maxLen w str.size 0 e hsz;obtain⟨d1,d2,d3⟩:=hH.drew;have hsize:(bytesRow str (grownCap w str.size 0 e)).size=grownCap w str.size 0 e:=by
  unfold bytesRow;rw[AyT,Array.size_map,Array.size_replicate];have:str.data.size=str.size:=rfl;omega
 have hpost:=IH (t:=e) (fr:=((bytesRow str (grownCap w str.size 0 e)).size,(bytesRow str (grownCap w str.size 0 e)).size+1)) (arr:=bytesRow str (grownCap w str.size 0 e))
  (r:=.sl b 0 str.size 1) (u:=.slice (Θ ⟨w.heap.size,0,Ξ⟩) str.size (grownCap w str.size 0 e)) d1 hf h1 (.inl (π _)) (by
   rw[hsize,Awm,Axc];exact hcap) (by
   have e3:str.data.toList.map JI=(str.data.toList.map (λb=>Value.int .u8 b.toNat)).map .v:=by rw[AxE];rfl
   have e4:(bytesRow str (grownCap w str.size 0 e)).toList.take (str.data.toList.map JI).length=str.data.toList.map (λb=>Value.int .u8 b.toNat):=by
    simp_all [bytesRow]
   rw[e4,e3];exact EP _ _ _ _ (Awr.2 λx hx=>by obtain⟨y,_,rfl⟩:=AwV.1 hx;rfl)) (λ_=>MU _) (by
   simp only[Rep];exact⟨_,by unfold Mu.set;rw[Ac rfl],.inr ⟨0,_,rfl,λ_=>rfl,hcap,hcapm,by simp only;omega⟩⟩)
 obtain⟨μ',F',p1,p2,p3,p4,p5⟩:=hpost;exact⟨_,_,hrun,μ',F',p1,p2,d2.trans p3,WStep.trans (λ_ _ h=>h) d3 p4,p5⟩
theorem Lo(w:World)(g o:Nat):w.setCells g o []=w:=rfl
theorem TI{P:Program}{μ:Mu}{F:Bf}{w:World}{H:AH}{t u ty:TypeId}{s x:AV}{v y:Value}(hs:Rep μ F w s v)(hx:Rep μ F w x y)(hH:HRep μ F w H.get) :
  ValS P (Builtin.copy_ #[t,u] ty #[v,y]) (copyA P [t,u] s x) μ F w H:=λr H' ft h=>by
 unfold copyA at h;simp only at h;rcases h1:CA P t with _|et<;>rw[h1]at h
 .exact(Aw h).elim
 cases s<;>try (exact(Aw h).elim)
 case sl b o n e=>
  simp only at h;rcases BP h with⟨hse,ha⟩|⟨_,ha⟩
  rotate_left
  .exact(Aw ha).elim
  clear h;obtain⟨⟨m,news⟩,H1,f1,f2,h5,hb⟩:=bind_some ha;clear ha;obtain⟨hHH,hpn,us,hul,hnews⟩:=IE hx hH h5;rw[hHH]at hb;simp only at hb;rcases BP hb with⟨hone,hc⟩|⟨_,hc⟩
  rotate_left
  .exact(Aw hc).elim
  clear hb;obtain⟨k,H2,g1,g2,h6,hd⟩:=bind_some hc;obtain⟨hk,hHH2⟩:=Cc h6;rw[hHH2]at hd;rcases BP hd with⟨⟨hst,hlen⟩,hd2⟩|⟨_,hd2⟩
  rotate_left
  .grind [Aw]
  obtain⟨_,H3,g3,g4,h7,h8⟩:=bind_some hd2;have hH3:=GX h7;obtain⟨hr,hH4⟩:=Ax h8;subst hr hH4 hH3;simp only[Rep]at hs;obtain⟨p,hp,hvv⟩:=hs;obtain⟨inf,hinf,hsz⟩:=C4 hse;obtain⟨p',hp',hB⟩:=hH.blk b k hk;rw[hp]at hp'
  cases hp'
  have hle:Axd m n*e<=m*e:=Aww _ (AzF _ _);have hle2:Axd m n*e<=n*e:=Aww _ (Nat.min_le_right _ _);have hul2:=hul.sub 0 (Axd m n*e);simp only[List.drop_zero]at hul2;have hlt:(us.take (Axd m n*e)).length=Axd m n*e:=by rw[Awo,hnews.size];omega
  have hlt2:(news.take (Axd m n*e)).length=Axd m n*e:=by rw[←hul2.length,hlt]
  obtain⟨q1,q2,q3⟩:=OR hH hk hp hst o (news.take (Axd m n*e)) (us.take (Axd m n*e)) (by rw[hlt2];omega) hul2 (λ_=>by
   rw[BZ,Awr]at hpn ⊢;exact λx hx=>hpn x (AxN hx))
  have hoc:∀ y∈us.take (Axd m n*e),y.oneCell'=Δ:=λy hy=>by
   obtain⟨j,hj,rfl⟩:=Ayg hy;have hj2:j<(news.take (Axd m n*e)).length:=by rw[hlt2,←hlt];exact hj
   obtain⟨u,a1,a2⟩:=hul2.get (ξ hj2);rw[ξ hj]at a1
   cases a1
   exact a2.one (Awr.1 hone _ (Aws hj2))
  have hcells:=hnews.cells (Axd m n) w (AzF _ _) rfl;rcases hvv with⟨hn0,rfl⟩|⟨q,c,rfl,hq,hnc,hcm,hroom⟩
  .have h0:us.take (Axd m n*e)=[]:=AwD (by rw[hlt,hn0];simp)
   refine⟨.int .i64 (Axd m n),w.setCells p.g (p.o+o) (us.take (Axd m n*e)),?_,μ,F,by simp only[Rep];exact⟨trivial,rfl⟩,?_,q2,q3,λ_ _=>rfl⟩
   .subst hn0
    simp only[Builtin.copy_,AwH,Awx,Awu];simp[run_underlying (CM h1),sizeOf,typeInfo,hinf,hsz,goInt];rw[hnews.len];simp only[Result.andThen_ok];rw[show m.min 0=0 from Nat.min_zero m]at hcells;rw[hcells];simp only[Result.andThen_ok,h0];rfl
   .rw[FZ]
    exact q1
  have hstore:(storeCells (⟨p.g,q,Ξ⟩:Addr) (us.take (Axd m n*e))).run P w=.ok () (w.setCells p.g (p.o+o) (us.take (Axd m n*e))):=by
   by_cases hn0:n=0
   .have h0:us.take (Axd m n*e)=[]:=AwD (by rw[hlt,hn0];simp)
    rw[h0];rfl
   .rw[hq (by omega)]
    have:=run_storeCells_cells (P:=P) p.g (p.o+o) (us.take (Axd m n*e)) 0 w (λj hj=>by
      obtain⟨⟨y,hy⟩,_⟩:=hB.there (o+j) (by have:=hB.room;omega);rw[←AwI]at hy;rw[Aw1,hy];rfl) (λj hj=>by
      have:=(hB.there (o+j) (by have:=hB.room;omega)).2;rw[←AwI]at this;rw[Aw1];exact this) hoc
    rw[Aw1]at this;exact this
  refine⟨.int .i64 (Axd m n),w.setCells p.g (p.o+o) (us.take (Axd m n*e)),?_,μ,F,by simp only[Rep];exact⟨trivial,rfl⟩,?_,q2,q3,λ_ _=>rfl⟩
  .simp only[Builtin.copy_,AwH,Awx,Awu]
   simp[run_underlying (CM h1),sizeOf,typeInfo,hinf,hsz,goInt];rw[hnews.len];simp only[Result.andThen_ok];rw[hcells];simp only[Result.andThen_ok];rw[hstore];rfl
  .rw[FZ]
   exact q1
theorem AaY{l:Ab}{n:Nat}(h:l.all AV.one=Δ)(hl:0<l.length):∀ x∈Ch l n,x.one=Δ:=by
 intro x hx;unfold Ch at hx;obtain⟨i,_,rfl⟩:=AwV.1 hx;have hi:i % l.length<l.length:=Nat.mod_lt _ hl;rw[ξ hi,Option.getD_some];exact Awr.1 h _ (Aws hi)
theorem RZ{P:Program}{μ:Mu}{F:Bf}{w:World}{H:AH}{t ty:TypeId}{s:AV}{v:Value}(hs:Rep μ F w s v)(hH:HRep μ F w H.get) :
  ValS P (Builtin.clear_ #[t] ty #[v]) (clearA P [t] s) μ F w H:=λr H' ft h=>by
 unfold clearA at h;simp only at h;rcases h1:CA P t with _|et<;>rw[h1]at h
 .exact(Aw h).elim
 cases s<;>try (exact(Aw h).elim)
 case sl b o n e=>
  simp only at h;rcases h5:C6 P et with _|z<;>rw[h5]at h
  .exact(Aw h).elim
  simp only at h;rcases BP h with⟨⟨hse,hze,he0,hone⟩,ha⟩|⟨_,ha⟩
  rotate_left
  .exact(Aw ha).elim
  clear h;obtain⟨k,H2,g1,g2,h6,hd⟩:=bind_some ha;obtain⟨hk,hHH2⟩:=Cc h6;rw[hHH2]at hd;rcases BP hd with⟨⟨hst,hlen⟩,hd2⟩|⟨_,hd2⟩
  rotate_left
  .grind [Aw]
  obtain⟨_,H3,g3,g4,h7,h8⟩:=bind_some hd2;have hH3:=GX h7;obtain⟨hr,hH4⟩:=Ax h8;subst hr hH4 hH3;simp only[Rep]at hs;obtain⟨p,hp,hvv⟩:=hs;obtain⟨i',hi',hz,hfl⟩:=D9 h5;obtain⟨p',hp',hB⟩:=hH.blk b k hk;rw[hp]at hp'
  cases hp'
  have hzs:=Gn (μ:=μ) (F:=F) (w:=w) z.cells (n*e) hfl;generalize hus:((Ayj (n*e)).map (λi=>z.cells[i % z.cells.size]!)).toList=us at hzs;have hzl:(Ch (z.cells.toList.map AV.v) (n*e)).length=n*e:=by unfold Ch;rw[Awm,List.length_range]
  have hlt:us.length=n*e:=by rw[hzs.length,hzl]
  obtain⟨q1,q2,q3⟩:=OR hH hk hp hst o (Ch (z.cells.toList.map AV.v) (n*e)) us (by rw[hzl];omega) hzs (λ_=>IF _ _);have hoc:∀ y∈us,y.oneCell'=Δ:=λy hy=>by
   obtain⟨j,hj,rfl⟩:=Ayg hy;have hj2:j<(Ch (z.cells.toList.map AV.v) (n*e)).length:=by rw[hzl,←hlt];exact hj
   obtain⟨u,a1,a2⟩:=hzs.get (ξ hj2);rw[ξ hj]at a1
   cases a1
   exact a2.one (AaY hone (by rw[Awm,Axc,hze];exact he0) _ (Aws hj2))
  refine⟨.tuple #[],w.setCells p.g (p.o+o) us,?_,μ,F,by simp only[Rep];exact⟨#[],rfl,rfl⟩,?_,q2,q3,λ_ _=>rfl⟩
  .have hzc:(Builtin.zeroCells z.cells n).toList=us:=by
    grind [Builtin.zeroCells]
   rcases hvv with⟨hn0,rfl⟩|⟨q,c,rfl,hq,hnc,hcm,hroom⟩
   .simp_all [Builtin.clear_,AwD,CM,run_underlying,Lo]
   .cases n with
    |zero=>
     have h0:us=[]:=AwD (by rw[hlt];simp);rw[h0,Lo];simp[Builtin.clear_,run_underlying (CM h1)]
    |succ n=>
     have hstore:(storeCells (⟨p.g,q,Ξ⟩:Addr) us).run P w=.ok () (w.setCells p.g (p.o+o) us):=by
      rw[hq (by omega)];have:=run_storeCells_cells (P:=P) p.g (p.o+o) us 0 w (λj hj=>by
        obtain⟨⟨y,hy⟩,_⟩:=hB.there (o+j) (by have:=hB.room;omega);rw[←AwI]at hy;rw[Aw1,hy];rfl) (λj hj=>by
        have:=(hB.there (o+j) (by have:=hB.room;omega)).2;rw[←AwI]at this;rw[Aw1];exact this) hoc
      rw[Aw1]at this;exact this
     simp[Builtin.clear_,run_underlying (CM h1),zeroValue,typeInfo,hi',hz,hzc,hstore]
  .rw[FZ]
   exact q1
section
variable {P:Program} {w:World} {t:TypeId}
theorem Alb(d:Nat){e:TypeId}(hu:P.underlying t=Θ (.pointer e))(a:Addr):(Op.equalIn (d+1) t (.pointer (Θ a)) (.pointer Ξ)).run P w=.ok Φ w:=by
 simp only[Op.equalIn,Sem.run_bind,run_underlying hu,Result.andThen_ok,Sem.run_pure]
theorem Ala(d:Nat){e:TypeId}(hu:P.underlying t=Θ (.pointer e))(a:Addr):(Op.equalIn (d+1) t (.pointer Ξ) (.pointer (Θ a))).run P w=.ok Φ w:=by
 simp only[Op.equalIn,Sem.run_bind,run_underlying hu,Result.andThen_ok,Sem.run_pure,Option.isNone]
theorem Aql(d:Nat){e:TypeId}(hu:P.underlying t=Θ (.slice e))(a:Addr)(n c n' c':Nat):(Op.equalIn (d+1) t (.slice (Θ a) n c) (.slice Ξ n' c')).run P w=.ok Φ w:=by
 simp only[Op.equalIn,Sem.run_bind,run_underlying hu,Result.andThen_ok,Sem.run_pure]
theorem Aqk(d:Nat){ps rs:Array TypeId}{vr:Bool}(hu:P.underlying t=Θ (.func ps rs vr))(f:Fn)(x y:Array Value):(Op.equalIn (d+1) t (.func f x y) .nilFunc).run P w=.ok Φ w:=by
 simp only[Op.equalIn,Sem.run_bind,run_underlying hu,Result.andThen_ok,Sem.run_pure]
end
theorem UQ{P:Program}{μ:Mu}{F:Bf}{w:World}{H:AH}{t yt:TypeId}{x y:Operand}{ρ:Operand->AV}{a:Act}{dst:Option Tmp}{ty:TypeId}{pos:String}{after:Array Edge}{guard:Option (Nat × Bool)}{b:BinOp}
  (hx:Rep μ F w (ρ x) (a.eval x)) (hy:Rep μ F w (ρ y) (a.eval y)) (hH:HRep μ F w H.get) (h:F9 P t (ρ x) (ρ y)=Δ) :
  PU P (execOp a.eval ⟨dst,.binOp b t x y yt,ty,pos,after,guard⟩) (match b with
   |.eql=>AM.ret (.v (.bool Φ))
   |.neq=>AM.ret (.v (.bool Δ))
   |_=>AM.fail) μ F w H:=by
 have key:∀ u v,a.eval x=u->a.eval y=v->(Op.equal t u v).run P w=.ok Φ w->(eqGuard .eql t x y u v).run P w=.ok () w->(eqGuard .neq t x y u v).run P w=.ok () w->
   (binOp .eql t u v=do pure (.bool (←Op.equal t u v)))->(binOp .neq t u v=do pure (.bool (!(←Op.equal t u v))))->
   PU P (execOp a.eval ⟨dst,.binOp b t x y yt,ty,pos,after,guard⟩) (match b with
   |.eql=>AM.ret (.v (.bool Φ))
   |.neq=>AM.ret (.v (.bool Δ))
   |_=>AM.fail) μ F w H:=by
  intro u v hu hv he hg1 hg2 hb1 hb2
  cases b<;>try (exact λr H' ft h=>(Aw h).elim)
  case eql=>exact Dl (u:=.bool Φ) (by simp[execOp,hu,hv,hg1,hb1,he]) (by simp only[Rep];exact⟨trivial,rfl⟩) hH
  case neq=>exact Dl (u:=.bool Δ) (by simp[execOp,hu,hv,hg2,hb2,he]) (by simp only[Rep];exact⟨trivial,rfl⟩) hH
 unfold F9 at h;split at h<;>try (cases h;done)
 .rename_i e1 e2 hu
  rw[e1]at hx;rw[e2]at hy;simp only[Rep]at hx hy;obtain⟨p,hp,hxe⟩:=hx;exact key _ _ hxe hy.1 (Alb 9999 hu _) (by simp[eqGuard]) (by simp[eqGuard]) rfl rfl
 .rename_i e1 e2 hu
  rw[e1]at hx;rw[e2]at hy;simp only[Rep]at hx hy;obtain⟨_,g,o,hxe,_⟩:=hx;exact key _ _ hxe hy.1 (Alb 9999 hu _) (by simp[eqGuard]) (by simp[eqGuard]) rfl rfl
 .rename_i e1 e2 hu
  rw[e1]at hx;rw[e2]at hy;simp only[Rep]at hx hy;obtain⟨p,hp,hye⟩:=hy;exact key _ _ hx.1 hye (Ala 9999 hu _) (by simp[eqGuard]) (by simp[eqGuard]) rfl rfl
 .rename_i e1 e2 hu
  rw[e1]at hx;rw[e2]at hy;simp only[Rep]at hx hy;obtain⟨_,g,o,hye,_⟩:=hy;exact key _ _ hx.1 hye (Ala 9999 hu _) (by simp[eqGuard]) (by simp[eqGuard]) rfl rfl
 .rename_i e1 e2 hu
  rw[e1]at hx;rw[e2]at hy;simp only[Rep]at hx hy;obtain⟨p,hp,⟨hn0,_⟩|⟨q,c,hxe,_⟩⟩:=hx
  .omega
  exact key _ _ hxe hy.1 (Aql 9999 hu _ _ _ _ _) (by simp[eqGuard]) (by simp[eqGuard]) rfl rfl
 .rename_i e1 e2 hu
  rw[e1]at hx;rw[e2]at hy;simp only[Rep]at hx hy;obtain⟨ua,uc,hxe,_⟩:=hx;exact key _ _ hxe hy.1 (Aqk 9999 hu _ _ _) (by simp[eqGuard]) (by simp[eqGuard]) rfl rfl
