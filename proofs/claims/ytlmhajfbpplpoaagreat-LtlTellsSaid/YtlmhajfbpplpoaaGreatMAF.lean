/- append, copy, conversion -/
import Derived.Test.YtlmhajfbpplpoaaGreatMAE
set_option linter.all false
open Array renaming ext'->Axf,length_toList->AwB,range->Axx,size_append->Ax5
open Bool renaming false->Θ,true->U
open List renaming all_eq_true->AvJ,append_assoc->AvO,cons_append->AwP,eq_nil_of_length_eq_zero->Av4,flatten_cons->Aww,flatten_nil->AyF,getElem?_cons_succ->Awa,getElem?_cons_zero->Awm,getElem?_drop->AwI,getElem?_eq_getElem->Ω,getElem?_take->Awj,getElem?_toArray->Awt,getElem_mem->AvN,getElem_of_mem->AwT,length_append->ζ,length_cons->ε,length_drop->AwU,length_map->Av8,length_nil->Av0,length_take->Av6,map_map->AxH,mem_map->AwV,mem_of_mem_drop->AwE,mem_of_mem_take->AwZ,size_toArray->AyA,take_length->AwQ,take_zero->AyO
open Nat renaming add_assoc->AvQ,add_mul->Aws,add_zero->Awr,le_refl->η,le_zero_eq->AyP,min->AwA,min_le_left->AyK,mul_le_mul_right->Awq,mul_ne_zero->AxX,mul_one->AxO,zero_mul->AwK
open Option renaming none->Δ,some->V
namespace Go.Proofs.YtlmhajfbpplpoaaGreat
open Option.some renaming injEq->ξ
open Go.RowKit
section
variable {P:Program} {μ:Mu} {F:AQ} {w:World} {H:AH}
theorem RepAt.append{g:Nat}:∀{xs ys:Ab} {o:Nat},RepAt μ F w g xs o->RepAt μ F w g ys (o+xs.length)->RepAt μ F w g (xs++ys) o
 |[],ys,o,_,h=>by simpa using h
 |x::r,ys,o,h,h'=>by
  simp only[AwP,RepAt]at h ⊢;exact⟨h.1,RepAt.append h.2 (by rwa [ε,show o+(r.length+1)=o+1+r.length by omega]at h')⟩
theorem RepRows.flat{g e:Nat}:∀{xs:List Ab} {o:Nat},RepRows μ F w g e xs o->RepAt μ F w g xs.flatten o/\xs.flatten.length=xs.length*e
 |[],o,_=>⟨by simp only[AyF,RepAt],by simp⟩
 |x::r,o,h=>by
  simp only[RepRows]at h;obtain⟨h1,h2,h3⟩:=h;obtain⟨h4,h5⟩:=RepRows.flat h3;refine⟨?_,?_⟩
  .rw[Aww]
   exact h2.append (by rwa [h1])
  .grind
theorem YP{e:Nat}:∀{xs:List Ab},(xs.all λcs=>cs.length == e)=U->xs.flatten.length=xs.length*e
 |[],_=>by simp
 |x::r,h=>by
  simp only[List.all_cons,Bool.and_eq_true,beq_iff_eq]at h;rw[Aww,ζ,h.1,YP h.2,ε,Aws];omega
structure News (P:Program) (w:World) (e:Nat) (v:Value) (n:Nat) (us:AN):Prop where
 len:(Builtin.lenOf v).run P w=.ok n w
 size:us.length=n*e
 cells:∀ m W,m<=n->W.heap=w.heap->(Builtin.firstCells e m v).run P W=.ok (us.take (m*e)).toArray W
theorem AaM{W:World}(h:W.heap=w.heap)(a:Addr):W.cell? a=w.cell? a:=by unfold World.cell?;rw[h]
theorem LK{g q e n c:Nat}{us:AN}(hl:us.length=n*e)(hc:∀ j v,us[j]? = V v->w.cell? ⟨g,q+j,Δ⟩=V v):News P w e (.slice (V ⟨g,q,Δ⟩) n c) n us:=by
 refine⟨by simp[Builtin.lenOf],hl,λm W hm hW=>?_⟩;simp only[Builtin.firstCells];have hle:m*e<=n*e:=Awq _ hm;have hlen:(us.take (m*e)).length=m*e:=by rw[Av6];omega
 have:=run_loadCells_list (P:=P) W ⟨g,q,Δ⟩ (us.take (m*e)) (λj v hv=>by
  rw[Addr.add_mid,AaM hW];rw[Awj]at hv;split at hv
  .exact hc j v hv
  .cases hv)
 rwa [hlen]at this
theorem NO(l:List UInt8):A6 (l.map Ky)=U:=by
 rw[BN,AvJ];intro x hx;obtain⟨c,_,rfl⟩:=AwV.1 hx;rfl
theorem I9{e:Nat}{x:AV}{v:Value}{n:Nat}{cs:Ab}{H':AH}{ft:Foot}(hx:Rep μ F w x v)(hH:HRep μ F w H.get)(h:newsA e x H=V ((n,cs),H',ft)) :
  H'=H/\A6 cs=U/\∃ us,RepList μ F w cs us/\News P w e v n us:=by
 unfold newsA at h;split at h
 .rename_i b o n' e'
  rcases Bz h with⟨he,h⟩|⟨_,h⟩
  rotate_left
  .exact(At h).elim
  subst he;obtain⟨k,H1,f1,f2,h1,h2⟩:=bind_some h;obtain⟨hk,rfl⟩:=BY h1;rcases Bz h2 with⟨⟨hc,hex⟩,h2⟩|⟨_,h2⟩
  rotate_left
  .exact(At h2).elim
  obtain⟨he,rfl⟩:=Au h2;simp only[Prod.mk.injEq]at he;obtain⟨rfl,rfl⟩:=he;simp only[Rep]at hx;obtain⟨p,hp,hvv⟩:=hx;obtain⟨p',hp',hB⟩:=hH.blk b k hk;rw[hp]at hp'
  cases hp'
  have hpu:A6 ((k.cells.drop o).take (n*e'))=U:=by
   rcases hx:k.ex with _|_
   .simpa[hx]using hex
   .have:=hB.pure hx
    rw[BN,AvJ]at this ⊢;exact λx hx=>this x (AwE (AwZ hx))
  rcases hvv with⟨rfl,rfl⟩|⟨q,c,rfl,hq,hnc,hcm,hroom⟩
  .exact⟨rfl,hpu,[],by simp only[AwK,AyO,RepList],⟨by simp[Builtin.lenOf],by simp,λm W hm _=>by simp[Builtin.firstCells]⟩⟩
  by_cases hn0:n=0
  .subst hn0
   refine⟨rfl,hpu,[],by simp only[AwK,AyO,RepList],LK (by simp) λj v hv=>by simp at hv⟩
  obtain⟨us,hl,hcell⟩:=DN (μ:=μ) (F:=F) (w:=w) (g:=p.g) (o:=p.o+o) (cs:=(k.cells.drop o).take (n*e')) λi x hx=>by
   simp only[Awj,AwI]at hx;split at hx
   .obtain⟨u,h1,h2⟩:=hB.cell (o+i) x hx
    exact⟨u,by rwa [AvQ],h2⟩
   .cases hx
  refine⟨rfl,hpu,us,hl,?_⟩;rw[hq (by omega)];refine LK ?_ hcell;rw[hl.length,Av6,AwU];omega
 .rename_i xs
  rcases Bz h with⟨hall,h⟩|⟨_,h⟩
  rotate_left
  .exact(At h).elim
  obtain⟨he,rfl⟩:=Au h;simp only[Prod.mk.injEq]at he;obtain⟨rfl,rfl⟩:=he;simp only[Rep]at hx;obtain⟨h0,A,c,rfl,hnc,hcm,hne⟩:=hx;have hpu:A6 xs.flatten=U:=by
   rw[BN,AvJ];intro x hx;obtain⟨l,hl,hxl⟩:=List.mem_flatten.1 hx;have:=AvJ.1 h0 l hl;rw[BN,AvJ]at this;exact this x hxl
  rcases hxs:xs with _|⟨y,ys⟩
  .refine⟨rfl,rfl,[],by simp only[AyF,RepList],?_⟩
   cases A with
   |none=>
    refine⟨by simp[Builtin.lenOf],by simp,λm W hm _=>?_⟩;simp only[Av0,AyP]at hm;subst hm;simp[Builtin.firstCells]
   |some a=>
    refine⟨by simp[Builtin.lenOf],by simp,λm W hm _=>?_⟩;simp only[Av0,AyP]at hm;subst hm;simp[Builtin.firstCells,loadCells,loadCellsFrom]
  .rw[←hxs]
   obtain⟨g,o,e',rfl,hrows⟩:=hne (by rw[hxs];simp);obtain⟨hat,_⟩:=hrows.flat;obtain⟨us,hl,hcell⟩:=DN (μ:=μ) (F:=F) (w:=w) (g:=g) (o:=o) (cs:=xs.flatten) λi x hx=>(hat.get hx).2
   exact⟨rfl,hpu,us,hl,LK (by rw[hl.length,YP hall]) hcell⟩
 .obtain⟨he,rfl⟩:=Au h
  simp only[Prod.mk.injEq]at he;obtain⟨rfl,rfl⟩:=he;simp only[Rep]at hx;obtain⟨rfl,_⟩:=hx;refine⟨rfl,rfl,[],by simp only[RepList],⟨by simp[Builtin.lenOf],by simp,λm W hm _=>by simp[Builtin.firstCells]⟩⟩
 .rename_i s
  rcases Bz h with⟨he,h⟩|⟨_,h⟩
  rotate_left
  .exact(At h).elim
  subst he;obtain⟨he,rfl⟩:=Au h;simp only[Prod.mk.injEq]at he;obtain⟨rfl,rfl⟩:=he;simp only[Rep]at hx;obtain⟨rfl,_⟩:=hx;refine⟨rfl,NO _,s.data.toList.map (λb=>.int .u8 b.toNat),?_,⟨by simp[Builtin.lenOf],by simp,λm W hm _=>?_⟩⟩
  .have e1:s.data.toList.map Ky=(s.data.toList.map (λb=>Value.int .u8 b.toNat)).map .v:=by
    rw[AxH];rfl
   rw[e1];exact EN _ _ _ _ (AvJ.2 λx hx=>by obtain⟨y,_,rfl⟩:=AwV.1 hx;rfl)
  .simp only[Builtin.firstCells,Sem.run_pure,AxO]
   congr 1
   apply Axf;rw[Array.toList_map,ByteArray.data_extract,Array.toList_extract,List.extract_eq_take_drop];simp[List.map_take]
 .exact(At h).elim
theorem KP{u:TypeId}(h:GR P u=U):(∃ e,P.underlying u=V (.slice e))\/P.underlying u=V .string:=by
 grind [GR]
section
variable {t u ty e:TypeId} {i:TypeInfo} {z:Value} {n m c:Nat} {x:Value} {us:AN} {A:Option Addr}
theorem Of(ht:P.underlying t=V (.slice e))(hu:GR P u=U)(hi:P.info? e=V i)(hx:News P w i.size x m us)(hfit:n+m<=c)
  {w':World} (hst:∀ a,A=V a->(storeCells (a.add (n*i.size)) us).run P w=.ok () w') (hno:A=Δ->w'=w) :
  (Builtin.append_ #[t,u] ty #[.slice A n c,x]).run P w=.ok (.slice A (n+m) c) w':=by
 have hc:=hx.cells m w (η _) rfl;rw[←hx.size,AwQ]at hc
 cases A with
 |none=>
  have:=hno rfl;subst this;rcases KP hu with⟨e',hd⟩|hd<;>simp[Builtin.append_,run_underlying ht,run_underlying hd,sizeOf,typeInfo,hi,hx.len,hfit,hc]
 |some a=>
  have:=hst a rfl;rcases KP hu with⟨e',hd⟩|hd<;>simp[Builtin.append_,run_underlying ht,run_underlying hd,sizeOf,typeInfo,hi,hx.len,hfit,hc,this]
theorem Na(ht:P.underlying t=V (.slice e))(hu:GR P u=U)(hi:P.info? e=V i)(hz:i.zero=V z)(hx:News P w i.size x m us){olds:AN}
  (holds:∀ W:World,W.heap=w.heap->(Builtin.firstCells i.size n (.slice A n c)).run P W=.ok olds.toArray W) (hg:c<n+m) (h63:n+m<=maxLen) (hb:(n+m)*i.bytes<=140737488355328) :
  (Builtin.append_ #[t,u] ty #[.slice A n c,x]).run P w=.ok (.slice (V ⟨w.heap.size,0,Δ⟩) (n+m) (grownCap w (n+m) c e))
   (w.drew.alloc (.cells (olds.toArray++us.toArray++Builtin.zeroCells z.cells (grownCap w (n+m) c e-(n+m))) e)):=by
 have hc:=hx.cells m w.drew (η _) rfl;rw[←hx.size,AwQ]at hc;have ho:=holds w.drew rfl;have hn:¬ (n+m<=c):=by omega
 have h63':¬ (9223372036854775807<((n:Int)+(m:Int))):=by simp only[maxLen]at h63;omega
 have h48:=growslice_fits (need:=n+m) (old:=c) (bytes:=i.bytes) hg hb;have h48':¬ (281474976710656<Builtin.nextslicecap (n+m) c*i.bytes):=by omega
 have hcat:∀ Z:Array Value,olds.toArray++(us.toArray++Z)=(olds++us).toArray++Z:=λZ=>by apply Axf;simp[AvO]
 rcases KP hu with⟨e',hd⟩|hd<;>simp[Builtin.append_,run_underlying ht,run_underlying hd,sizeOf,typeInfo,zeroValue,hi,hz,hx.len,hn,h63',h48',Question.forced,ho,hc,newRow,grownCap,hcat]
end
structure AppX (P:Program) (w:World) (t u ty e:TypeId) (i:TypeInfo) (z:Value) (y:Value) (m:Nat) (us:AN):Prop where
 size:us.length=m*i.size
 fits:∀(A:Option Addr) (n c:Nat) (w':World),n+m<=c->m*i.bytes<=140737488355328->(∀ a,A=V a->(storeCells (a.add (n*i.size)) us).run P w=.ok () w')->(A=Δ->w'=w)->
  (Builtin.append_ #[t,u] ty #[.slice A n c,y]).run P w=.ok (.slice A (n+m) c) w'
 grows:∀(A:Option Addr) (n c:Nat) (olds:AN),(∀ W:World,W.heap=w.heap->(Builtin.firstCells i.size n (.slice A n c)).run P W=.ok olds.toArray W)->c<n+m->n+m<=maxLen->(n+m)*i.bytes<=140737488355328->
  (Builtin.append_ #[t,u] ty #[.slice A n c,y]).run P w=.ok (.slice (V ⟨w.heap.size,0,Δ⟩) (n+m) (grownCap w (n+m) c e)) (w.drew.alloc (.cells (olds.toArray++us.toArray++Builtin.zeroCells z.cells (grownCap w (n+m) c e-(n+m))) e))
theorem QD(z:Array Value)(m:Nat):Builtin.zeroCells z m=(((Axx (m*z.size)).map (λi=>z[i % z.size]!)).toList).toArray:=by
 grind [Builtin.zeroCells]
theorem VG{t u ty et:TypeId}{i:TypeInfo}{z:Value}{x:AV}{v:Value}{m:Nat}{cs:Ab}{H':AH}{ft:Foot}(ht:P.underlying t=V (.slice et))(hi:P.info? et=V i)(hz:i.zero=V z)(hzs:z.cells.size=i.size)(hpos:0<i.size)(hx:Rep μ F w x v)(hH:HRep μ F w H.get)(h:newsU P u z i.size x H=V ((m,cs),H',ft)) :
  H'=H/\A6 cs=U/\∃ us,RepList μ F w cs us/\AppX P w t u ty et i z v m us:=by
 unfold newsU at h;rcases hu:GR P u with _|_<;>rw[hu]at h<;>simp only at h
 rotate_left
 .obtain⟨e1,e2,us,e3,e4⟩:=I9 hx hH h
  exact⟨e1,e2,us,e3,e4.size,λA n c w' h1 _ h2 h3=>Of ht hu hi e4 h1 h2 h3,λA n c olds h1 h2 h3 h4=>Na ht hu hi hz e4 h1 h2 h3 h4⟩
 .rcases hu:MX P u with _|_<;>rw[hu]at h<;>simp only at h
  rotate_left
  .unfold newsZ at h
   rcases hm:x.idx with _|m1<;>rw[hm]at h<;>simp only at h
   rotate_left
   .rcases Bz h with⟨⟨hm63,hfl⟩,h⟩|⟨_,h⟩
    rotate_left
    .exact(At h).elim
    obtain⟨he,rfl⟩:=Au h;simp only[Prod.mk.injEq]at he;obtain⟨he1,he2⟩:=he;subst m1 he2;obtain⟨k,rfl⟩:=EZ hx hm;obtain⟨kn,hkn⟩:∃ kn,P.underlying u=V (.int kn):=by
     grind [MX]
    have hlen:(((Axx (m*i.size)).map (λj=>z.cells[j % z.cells.size]!)).toList).length=m*i.size:=by simp
    have hw:IntKind.i64.wrap (m:Int)=m:=by rw[IntKind.wrap_i64];omega
    have hneg:¬ ((m:Int)<0):=by omega
    have hw0:IntKind.i64.wrap 0=0:=by decide
    have hzc:Builtin.zeroCells z.cells m=(((Axx (m*i.size)).map (λj=>z.cells[j % z.cells.size]!)).toList).toArray:=by rw[QD,hzs]
    refine⟨rfl,Ja _ _,_,GJ (μ:=μ) (F:=F) (w:=w) z.cells (m*i.size) hfl,hlen,λA n c w' h1 hmb h2 h3=>?_,λA n c olds h1 h2 h3 h4=>?_⟩
    .have h48i:¬ (281474976710656<(m:Int)*(i.bytes:Int)):=by
      omega
     revert h2 hzc hlen;generalize ((Axx (m*i.size)).map (λj=>z.cells[j % z.cells.size]!)).toList=us;intro hlen hzc h2
     by_cases hm0:m=0
     .subst hm0
      have hus:us=[]:=Av4 (by rw[hlen,AwK]);subst hus
      cases A with
      |none=>
       have:=h3 rfl;subst this;simp[Builtin.append_,run_underlying ht,run_underlying hkn,sizeOf,typeInfo,hi,asInt,asIntOf,hw0,show n<=c by omega]
      |some a=>
       have:=h2 a rfl;simp[Builtin.append_,run_underlying ht,run_underlying hkn,sizeOf,typeInfo,hi,asInt,asIntOf,hw0,show n<=c by omega,this]
     .have hns:¬ (m*i.size=0):=AxX hm0 (by omega)
      have hns1:¬ (i.size=0):=by omega
      cases A with
      |none=>
       have:=h3 rfl;subst this;simp[Builtin.append_,run_underlying ht,run_underlying hkn,sizeOf,typeInfo,zeroValue,hi,hz,asInt,asIntOf,hw,hneg,h1,hm0,hns1,hns,h48i,hzc]
      |some a=>
       have:=h2 a rfl;simp[Builtin.append_,run_underlying ht,run_underlying hkn,sizeOf,typeInfo,zeroValue,hi,hz,asInt,asIntOf,hw,hneg,h1,hm0,hns1,hns,h48i,hzc,this]
    .have hm0:m≠0\/m=0:=by omega
     have h48i:¬ (281474976710656<(m:Int)*(i.bytes:Int)):=by
      grind
     have ho:=h1 w.drew rfl;have hn:¬ (n+m<=c):=by omega
     have h63':¬ (9223372036854775807<((n:Int)+(m:Int))):=by simp only[maxLen]at h3;omega
     have h48:=growslice_fits (need:=n+m) (old:=c) (bytes:=i.bytes) h2 h4;have h48':¬ (281474976710656<Builtin.nextslicecap (n+m) c*i.bytes):=by omega
     have hns1:¬ (i.size=0):=by omega
     revert hzc hlen;generalize ((Axx (m*i.size)).map (λj=>z.cells[j % z.cells.size]!)).toList=us;intro hlen hzc;have hcat:∀ Z:Array Value,olds.toArray++(us.toArray++Z)=(olds++us).toArray++Z:=λZ=>by apply Axf;simp[AvO]
     by_cases hm0:m=0
     .subst hm0
      have hus:us=[]:=Av4 (by rw[hlen,AwK]);subst hus;have hn':¬ n<=c:=by omega
      simp[Builtin.append_,run_underlying ht,run_underlying hkn,sizeOf,typeInfo,zeroValue,hi,hz,asInt,asIntOf,hw0,hn',show ¬ (9223372036854775807<(n:Int)) by omega,show ¬ (281474976710656<Builtin.nextslicecap n c*i.bytes) from h48',Question.forced,ho,newRow,grownCap]
     .have hns:¬ (m*i.size=0):=AxX hm0 (by omega)
      simp[Builtin.append_,run_underlying ht,run_underlying hkn,sizeOf,typeInfo,zeroValue,hi,hz,asInt,asIntOf,hw,hneg,hn,h63',h48',hm0,hns1,hns,h48i,Question.forced,ho,newRow,grownCap,hzc,hcat]
   .exact(At h).elim
  .exact(At h).elim
end
section
variable {P:Program} {μ:Mu} {F:AQ} {w:World} {H:AH}
theorem HRep.weaken{H H':Nat->Option ABlk}(h:HRep μ F w H)(hs:∀ b k',H' b=V k'->∃ k,H b=V k/\k'.cells=k.cells/\k'.st=k.st/\(k'.ex=U->k.ex=U)):HRep μ F w H':=by
 have own:∀{k k':ABlk} {r i:Nat},k'.cells=k.cells->k'.st=k.st->(k'.ex=U->k.ex=U)->k'.owns r i->k.owns r i:=by
  grind [ABlk.owns]
 refine⟨λb k' hk=>?_,λb b' k1 k2 p p' hne h1 h2 q1 q2 i i' o1 o2=>?_,h.prot⟩
 .obtain⟨k,h1,h2,h3,h4⟩:=hs b k' hk
  obtain⟨p,hp,hB⟩:=h.blk b k h1;refine⟨p,hp,⟨λi x hx=>hB.cell i x (by rw[←h2];exact hx),by rw[h2];exact hB.room,hB.there,λhf i hi=>hB.kept (by rw[←h3];exact hf) i (by rw[←h2];exact hi),λi hi=>hB.free i (own h2 h3 h4 hi),λhx=>by rw[h2];exact hB.pure (h4 hx)⟩⟩
 .obtain⟨j1,a1,a2,a3,a4⟩:=hs b k1 h1
  obtain⟨j2,b1,b2,b3,b4⟩:=hs b' k2 h2;exact h.apart b b' j1 j2 p p' hne a1 b1 q1 q2 i i' (own a2 a3 a4 o1) (own b2 b3 b4 o2)
theorem UK{olds us:AN}{z:Array Value}{n m cap size:Nat}(ho:olds.length=n*size)(hu:us.length=m*size)(hz:z.size=size)(hc:n+m<=cap) :
  (olds.toArray++us.toArray++Builtin.zeroCells z (cap-(n+m))).size=cap*size/\(olds.toArray++us.toArray++Builtin.zeroCells z (cap-(n+m))).toList.take ((n+m)*size)=olds++us:=by
 refine⟨?_,?_⟩
 .rw[Ax5,Ax5,size_zeroCells,hz,AyA,AyA,ho,hu,←Aws,←Aws]
  congr 1
  omega
 .grind [Array.toList_append,ζ,List.take_left,Aws]
theorem RepList.append{xs ys:Ab}:∀{us vs:AN},RepList μ F w xs us->RepList μ F w ys vs->RepList μ F w (xs++ys) (us++vs):=by
 induction xs with
 |nil=>intro us vs h h';simp only[RepList]at h;subst h;exact h'
 |cons x r ih=>
  intro us vs h h';simp only[RepList]at h;obtain⟨u,t,rfl,h1,h2⟩:=h;simp only[AwP,RepList];exact⟨u,t++vs,rfl,h1,ih h2 h'⟩
end
set_option maxHeartbeats 1000000 in
theorem QK{P:Program}{μ:Mu}{F:AQ}{w:World}{H:AH}{t u ty:TypeId}{s x:AV}{v y:Value}(hs:Rep μ F w s v)(hx:Rep μ F w x y)(hH:HRep μ F w H.get)(hf:B3 μ H) :
  ValS P (Builtin.append_ #[t,u] ty #[v,y]) (appendA P [t,u] s x) μ F w H:=λr H' ft h=>by
 unfold appendA at h;simp only at h;rcases h1:Cs P t with _|et<;>rw[h1]at h
 .exact(At h).elim
 simp only at h;rcases h3:P.info? et with _|i<;>rw[h3]at h
 .exact(At h).elim
 simp only at h;rcases h4:i.zero with _|z<;>rw[h4]at h
 .exact(At h).elim
 simp only at h;rcases Bz h with⟨⟨hzs,hpos⟩,h⟩|⟨_,h⟩
 rotate_left
 .exact(At h).elim
 obtain⟨⟨m,news⟩,H1,f1,f2,h5,h⟩:=bind_some h;have ht:=CC h1;obtain⟨hHH,hpn,us,hul,hnews⟩:=VG (ty:=ty) ht h3 h4 hzs hpos hx hH h5;have hHH:=hHH.symm;subst hHH;simp only at h;have hnl:news.length=m*i.size:=by rw[←hul.length,hnews.size]
 rcases Bz h with⟨hm,h⟩|⟨hm,h⟩
 .-- nothing is appended
  rcases Bz h with⟨hsl,h⟩|⟨_,h⟩
  rotate_left
  .exact(At h).elim
  obtain⟨rfl,rfl⟩:=Au h;subst hm;have hus:us=[]:=Av4 (by rw[hnews.size,AwK]);subst hus;have fin:∀ A n c,v=.slice A n c->n<=c->∃ u_1 w',(Builtin.append_ #[t,u] ty #[v,y]).run P w=.ok u_1 w'/\Post μ F w H' r H' u_1 w':=by
   intro A n c hv hnc;subst hv;have:=hnews.fits A n c w (by omega) (by omega) (λa _=>rfl) (λ_=>rfl);exact⟨_,_,this,D5 hs hH⟩
  unfold QU at hsl;split at hsl
  .simp only[Rep]at hs
   obtain⟨p,hp,⟨_,rfl⟩|⟨q,c,rfl,hq,hnc,hcm,hroom⟩⟩:=id hs
   .exact fin _ _ _ rfl (η _)
   exact fin _ _ _ rfl hnc
  .simp only[Rep]at hs
   obtain⟨_,A,c,rfl,hnc,hcm,hne⟩:=id hs;exact fin _ _ _ rfl hnc
  .simp only[Rep]at hs
   obtain⟨rfl,_⟩:=id hs;exact fin _ _ _ rfl (η _)
  .cases hsl
 .rcases Bz h with⟨hone,h⟩|⟨_,h⟩
  rotate_left
  .exact(At h).elim
  have hoc:∀ y∈us,y.oneCell'=U:=λy hy=>by
   obtain⟨j,hj,rfl⟩:=AwT hy;have hj2:j<news.length:=by rw[←hul.length];exact hj
   obtain⟨u,a1,a2⟩:=hul.get (Ω hj2);rw[Ω hj]at a1
   cases a1
   exact a2.one (AvJ.1 hone _ (AvN hj2))
  have grown:∀(G:AH) (st:Bool) (n c:Nat) (olds:AN) (cs:Ab) (b:Nat) (G1:AH) (ft1:Foot),HRep μ F w G.get->B3 μ G->G.next=H.next->AM.newB ⟨cs++news,st,U⟩ G=V (b,G1,ft1)->
    RepList μ F w cs olds->olds.length=n*i.size->n+m<=maxLen->A6 cs=U->
    Post μ F w H (.sl b 0 (n+m) i.size) G1 (.slice (V ⟨w.heap.size,0,Δ⟩) (n+m) (grownCap w (n+m) c et)) (w.drew.alloc (.cells (olds.toArray++us.toArray++Builtin.zeroCells z.cells (grownCap w (n+m) c et-(n+m))) et)):=by
   intro G st n c olds cs b G1 ft1 hG hfG hGn hnew hcs hol h63 hpc;have hcap:=grownCap_ge w (n+m) c et;have hcapm:=grownCap_le_maxLen w (n+m) c et h63;obtain⟨hsize,htake⟩:=UK (z:=z.cells) (cap:=grownCap w (n+m) c et) hol hnews.size hzs hcap;obtain⟨d1,d2,d3⟩:=hG.drew;generalize (olds.toArray++us.toArray++Builtin.zeroCells z.cells (grownCap w (n+m) c et-(n+m)))=arr at *;have hlen:(cs++news).length=(n+m)*i.size:=by rw[ζ,←hcs.length,hol,hnl,Aws]
   have hle:(n+m)*i.size<=arr.size:=by rw[hsize];exact Awq _ hcap
   obtain⟨hb,hr⟩:=E1 hnew;simp only[Prod.mk.injEq]at hr;obtain⟨rfl,rfl,rfl⟩:=hr;have hfr:=hfG _ (η _) hb;obtain⟨q1,q2⟩:=Vk d1 hfr (cs++news) arr et (0,0) U (.inr rfl) (by rw[hlen];exact hle) (by
    rw[hlen,htake];exact(RepList.append hcs hul).later' d2) (λ_=>by rw[BN]at hpc hpn ⊢;simp[hpc,hpn])
   have hws:w.drew.heap.size=w.heap.size:=rfl;rw[hws]at q1 q2;have hWS:WStep F w (w.drew.alloc (.cells arr et)):=WStep.trans (λ_ _ h=>h) d3 (WStep.alloc _ _ _);have hLt:=d2.trans q2
   cases st with
   |true=>
    refine⟨_,F,?_,?_,hLt,hWS,λc hc=>OB (by have hc':c<H.next\/G.next+1<=c:=hc;omega)⟩
    .simp only[Rep]
     exact⟨_,by unfold Mu.set;rw[Ac rfl],.inr ⟨0,_,rfl,λ_=>rfl,hcap,hcapm,by simp only;omega⟩⟩
    .rw[H8]
     exact q1
   |false=>
    obtain⟨k1,k2⟩:=RA q1 (b:=G.next) (by rw[Ac rfl]) (by unfold Mu.set;rw[Ac rfl]);refine⟨_,_,?_,?_,hLt.trans k2,hWS,λc hc=>OB (by have hc':c<H.next\/G.next+1<=c:=hc;omega)⟩
    .simp only[Rep]
     exact⟨_,by unfold Mu.set;rw[Ac rfl],.inr ⟨0,_,rfl,λ_=>rfl,hcap,hcapm,by simp only;omega⟩⟩
    .rw[H8]
     refine k1.less λc k hk=>?_
     by_cases e:c=G.next
     .rw[Ac e]at hk ⊢
      exact hk
     .rw[Ad e]at hk ⊢
      rw[Ad e];exact hk
  cases s with
  |v z'=>
   simp only at h;rcases Bz h with⟨⟨c0,c1,c2⟩,hh⟩|⟨_,hh⟩
   rotate_left
   .exact(At hh).elim
   have hz':=G5 c0;subst hz';obtain⟨b,H2,g1,g2,h6,h7⟩:=bind_some hh;obtain⟨rfl,rfl⟩:=Au h7;simp only[Rep]at hs;obtain⟨rfl,_⟩:=hs;have hrun:=hnews.grows Δ 0 0 [] (λW _=>by simp[Builtin.firstCells]) (by omega) (by omega) (by simpa using c1);refine⟨_,_,hrun,?_⟩;have:=grown H U 0 0 [] [] b H' g1 hH hf rfl (by simpa using h6) (by simp only[RepList]) (by simp) (by omega) rfl;simpa only[Nat.zero_add]using this
  |sl b o n e=>
   simp only at h;rcases Bz h with⟨⟨he,c1,c2⟩,h⟩|⟨_,h⟩
   rotate_left
   .exact(At h).elim
   subst he;obtain⟨k,H2,g1,g2,h6,hh⟩:=bind_some h;clear h;obtain⟨hk,hHH⟩:=BY h6;subst hHH;rcases Bz hh with⟨⟨hex,hol,hfull⟩,hh2⟩|⟨_,hh2⟩
   rotate_left
   .exact(At hh2).elim
   obtain⟨_,H3,g3,g4,h7,h8⟩:=bind_some hh2;obtain⟨b',H4,g5,g6,h9,h10⟩:=bind_some h8;obtain⟨rfl,hHH⟩:=Au h10;subst hHH;have hH3:H3.next=H2.next/\H3.top=H2.top/\∀ c,H3.get c=if c=b then(if k.st=U then Δ else V { k with ex:=Θ }) else H2.get c:=by
    rcases Bz h7 with⟨hst,h7⟩|⟨hst,h7⟩
    .have:=Rk h7
     subst this;exact⟨rfl,rfl,λc=>by rw[AH.get_del,Ac hst]⟩
    .have:=Hh h7
     subst this;exact⟨rfl,rfl,λc=>by rw[AH.get_put,Ad hst]⟩
   obtain⟨n1,n2,n3⟩:=hH3;simp only[Rep]at hs;obtain⟨p,hp,hvv⟩:=hs;obtain⟨p',hp',hB⟩:=hH.blk b k hk;rw[hp]at hp'
   cases hp'
   obtain⟨hb9,hr9⟩:=E1 h9;simp only[Prod.mk.injEq]at hr9;obtain⟨hb',hH4,_⟩:=hr9;have hfr:μ b'=Δ:=hf b' (by rw[hb',n1];exact η _) (by
    have:H3.below b':=by rw[hb'];exact hb9
    unfold AH.below at this ⊢
    rwa [n2]at this)
   have hbb:b≠b':=by rintro rfl;rw[hp]at hfr;cases hfr
   have hlen0:((k.cells.take (o+n*i.size)).drop o).length=n*i.size:=by
    rw[AwU,Av6];omega
   have hpk:A6 ((k.cells.take (o+n*i.size)).drop o)=U:=by
    have:=hB.pure hex;rw[BN,AvJ]at this ⊢;exact λx hx=>this x (AwZ (AwE hx))
   have hweak:HRep μ F w H3.get:=hH.weaken λd k' hk'=>by
    rw[n3]at hk'
    by_cases e1:d=b
    .subst e1
     rw[Ac rfl]at hk';split at hk'
     .cases hk'
     .simp only[ξ]at hk'
      subst hk';exact⟨k,hk,rfl,rfl,λh=>by cases h⟩
    .rw[Ad e1]at hk'
     exact⟨k',hk',rfl,rfl,id⟩
   have hfr3:B3 μ H3:=λd hd hbl=>hf d (by rw[←n1];exact hd) (by
    unfold AH.below at hbl ⊢
    rwa [n2]at hbl)
   rcases hvv with⟨hn0,rfl⟩|⟨q,c,rfl,hq,hnc,hcm,hroom⟩
   .subst hn0
    have hnil:((k.cells.take (o+0*i.size)).drop o)=[]:=Av4 (by rw[hlen0];simp);have hrun:=hnews.grows Δ 0 0 [] (λW _=>by simp[Builtin.firstCells]) (by omega) c2 c1;exact⟨_,_,hrun,grown H3 k.st 0 0 [] ((k.cells.take (o+0*i.size)).drop o) b' H' g5 hweak hfr3 n1 h9 (by rw[hnil];simp only[RepList]) (by simp) c2 hpk⟩
   by_cases hfit:n+m<=c
   .have hcl:n*i.size+m*i.size<=c*i.size:=by rw[←Aws];exact Awq _ hfit
    obtain⟨q1,q2⟩:=Abh hH hk hp hfr hex o (o+n*i.size) (by omega) hol hfull;obtain⟨F',s1,s2,s3⟩:=Abg q1 (b:=b') (k:=⟨(k.cells.take (o+n*i.size)).drop o,k.st,U⟩) (p:=⟨p.g,p.o+o,p.room-o⟩) (by rw[Ac rfl]) (by unfold Mu.set;rw[Ac rfl]) rfl news us
     (by simp only[hlen0,hnl];omega) (hul.later' q2) hpn
    simp only[hlen0]at s1 s2 s3;have hqq:q=p.o+o:=hq (by omega);have hul2:us.length=m*i.size:=hnews.size;have hstore:=run_storeCells_cells (P:=P) p.g (p.o+o+n*i.size) us 0 w (λj hj=>by
      obtain⟨⟨y,hy⟩,_⟩:=hB.there (o+n*i.size+j) (by omega);rw[←AvQ,←AvQ]at hy;rw[Awr,hy];rfl) (λj hj=>by
      have:=(hB.there (o+n*i.size+j) (by omega)).2;rw[←AvQ,←AvQ]at this;rw[Awr];exact this) hoc
    have hrun:=hnews.fits (V ⟨p.g,q,Δ⟩) n c (w.setCells p.g (p.o+o+n*i.size) us) hfit (by
     have:m*i.bytes<=(n+m)*i.bytes:=Awq _ (by omega);omega) (λa ha=>by
     cases ha
     rw[hqq,Addr.add_mid];rw[Awr]at hstore;exact hstore) (λh=>by cases h)
    refine⟨_,_,hrun,μ.set b' ⟨p.g,p.o+o,p.room-o⟩,F',?_,?_,q2.trans s2,s3,λd hd=>OB ?_⟩
    .simp only[Rep]
     exact⟨⟨p.g,p.o+o,p.room-o⟩,by unfold Mu.set;rw[Ac rfl],.inr ⟨q,c,rfl,λ_=>hqq,hfit,hcm,by simp only;omega⟩⟩
    .refine s1.less λd k' hk'=>?_
     rw[hH4,←hb',EX,n3]at hk'
     by_cases e1:d=b'
     .rw[Ac e1]at hk' ⊢
      exact hk'
     .rw[Ad e1]at hk' ⊢
      rw[Ad e1];exact hk'
    .rw[hb',n1]
     have hd':d<H2.next\/H3.next+1<=d:=by rw[hH4]at hd;exact hd
     omega
   .-- the row moves
    have holds:∃ olds,RepList μ F w ((k.cells.take (o+n*i.size)).drop o) olds/\olds.length=n*i.size/\∀ W:World,W.heap=w.heap->(Builtin.firstCells i.size n (.slice (V ⟨p.g,q,Δ⟩) n c)).run P W=.ok olds.toArray W:=by
     by_cases hn0:n=0
     .subst hn0
      refine⟨[],?_,by simp,λW _=>by simp[Builtin.firstCells,loadCells,loadCellsFrom]⟩;have:((k.cells.take (o+0*i.size)).drop o)=[]:=Av4 (by rw[hlen0];simp);rw[this];simp only[RepList]
     .obtain⟨us',hl,hcell⟩:=DN (μ:=μ) (F:=F) (w:=w) (g:=p.g) (o:=p.o+o) (cs:=(k.cells.take (o+n*i.size)).drop o) λj x hx=>by
       simp only[AwI,Awj]at hx;split at hx
       .obtain⟨u,a1,a2⟩:=hB.cell (o+j) x hx
        exact⟨u,by rwa [AvQ],a2⟩
       .cases hx
      have hul':us'.length=n*i.size:=by rw[hl.length,hlen0]
      refine⟨us',hl,hul',λW hW=>?_⟩;rw[hq (by omega)];have:=(LK (P:=P) (w:=w) (g:=p.g) (q:=p.o+o) (e:=i.size) (n:=n) (c:=c) hul' hcell).cells n W (η _) hW
      rwa [←hul',AwQ]at this
    obtain⟨olds,o1,o2,o3⟩:=holds;have hrun:=hnews.grows (V ⟨p.g,q,Δ⟩) n c olds o3 (by omega) c2 c1;refine⟨_,_,hrun,?_⟩;refine grown H3 k.st n c olds ((k.cells.take (o+n*i.size)).drop o) b' H' g5 ?_ ?_ n1 h9 o1 o2 c2 (by
     have:=hB.pure hex;rw[BN,AvJ]at this ⊢;exact λx hx=>this x (AwZ (AwE hx)))
    .refine hH.weaken λd k' hk'=>?_
     rw[n3]at hk'
     by_cases e1:d=b
     .subst e1
      rw[Ac rfl]at hk';split at hk'
      .cases hk'
      .simp only[ξ]at hk'
       subst hk';exact⟨k,hk,rfl,rfl,λh=>by cases h⟩
     .rw[Ad e1]at hk'
      exact⟨k',hk',rfl,rfl,id⟩
    .intro d hd hbl
     refine hf d (by rw[←n1];exact hd) ?_;unfold AH.below at hbl ⊢
     rwa [n2]at hbl
  |_=>exact(At h).elim
def Hq(P:Program)(Γ:FuncId->Ab->AM AV):Prop:=∀(f:FuncId) (args:Ab) (μ:Mu) (F:AQ) (w:World) (H:AH) (IJ:Array Value),RepList μ F w args IJ.toList->HRep μ F w H.get->H.wf->B3 μ H->
 ∀ r H' ft,Γ f args H=V (r,H',ft)->Calls P f IJ w λe w'=>∃ u,e=.returned u/\Post μ F w H r H' u w'
def OpS(P:Program)(o:Oper)(a:Act)(m:AM AV)(μ:Mu)(F:AQ)(w:World)(H:AH):Prop:=∀ r H' ft,m H=V (r,H',ft)->∀(next:Act->World->Prop) (Q:Exit->Act->World->Prop),
 (∀ u w',Post μ F w H r H' u w'->next (a.put o.dst u) w')->o.wp P a w next Q
theorem OpS.of_run{P:Program}{o:Oper}{a:Act}{m:AM AV}{μ:Mu}{F:AQ}{w:World}{H:AH}(h:QI P (execOp a.eval o) m μ F w H):OpS P o a m μ F w H:=λr H' ft hm next Q hn=>by
 obtain⟨n,u,w',h1,h2,h3⟩:=h r H' ft hm;unfold Oper.wp;rw[h1];rcases h2 with rfl|⟨rfl,rfl⟩
 .grind [Oper.upon_value]
 .grind [Oper.upon_skip]
theorem OW{μ:Mu}{F:AQ}{w:World}:∀{cs:Ab} {l:List UInt8} {us:AN},bytesOf cs=V l->RepList μ F w cs us->us=l.map λb=>.int .u8 b.toNat
 |[],l,us,h,hr=>by
  simp only[bytesOf,ξ]at h;simp only[RepList]at hr;subst h hr;rfl
 |x::r,l,us,h,hr=>by
  simp only[bytesOf]at h;simp only[RepList]at hr;obtain⟨u,t,rfl,h1,h2⟩:=hr;rcases e1:SN x with _|c<;>rw[e1]at h
  .cases h
  rcases e2:bytesOf r with _|l'<;>rw[e2]at h
  .cases h
  simp only[ξ]at h;subst h;rw[OW e2 h2,List.map_cons]
  congr 1
  unfold SN at e1;split at e1
  .grind [Rep]
  .cases e1
theorem J2{P:Program}{t:TypeId}(h:DU P t=U):∃ e,P.underlying t=V (.slice e)/\P.underlying e=V (.int .u8):=by
 grind [Cs,DU]
theorem I0{P:Program}{t:TypeId}(h:B7 P t=U):P.underlying t=V .string:=by
 grind [B7]
theorem XR{μ:Mu}{F:AQ}{w:World}{x:AV}{v:Value}(hx:Rep μ F w x v)(h:QU x=U):∃ A n c,v=.slice A n c/\(A=Δ->n=0\/∃ xs,x=.ls xs):=by
 unfold QU at h;split at h
 .simp only[Rep]at hx
  obtain⟨p,hp,⟨hn,rfl⟩|⟨q,c,rfl,_⟩⟩:=hx
  .grind
  exact⟨_,_,_,rfl,λh=>by cases h⟩
 .simp only[Rep]at hx
  obtain⟨_,A,c,rfl,_⟩:=hx;exact⟨_,_,_,rfl,λ_=>.inr ⟨_,rfl⟩⟩
 .simp only[Rep]at hx
  obtain⟨rfl,_⟩:=hx;exact⟨_,_,_,rfl,λ_=>.inl rfl⟩
 .cases h
theorem QR{P:Program}{μ:Mu}{F:AQ}{w:World}{H:AH}{s d:TypeId}{x:AV}{v:Value}(hs:DU P s=U)(hd:B7 P d=U)(hsl:QU x=U)(hx:Rep μ F w x v)(hH:HRep μ F w H.get) :
  ValS P (convert s d v) ((newsA 1 x).bind λr=>AM.opt ((bytesOf r.2).map λl=>.v (.string ⟨l.toArray⟩))) μ F w H:=λr H' ft h=>by
 obtain⟨⟨n,cs⟩,H1,f1,f2,h1,h2⟩:=bind_some h;obtain⟨e1,_,us,hul,hnews⟩:=I9 hx hH h1;obtain⟨h3,e2⟩:=DV h2;rw[e2,e1];rcases hb:bytesOf cs with _|l<;>simp only[hb,Option.map_none,Option.map_some]at h3
 .cases h3
 simp only[ξ]at h3;have hus:=OW hb hul;obtain⟨e,hue,hu8⟩:=J2 hs;obtain⟨A,n',c,rfl,hA⟩:=XR hx hsl;have hlen:=hnews.len;simp only[Builtin.lenOf,Sem.run_pure,Result.ok.injEq,and_true]at hlen;have hll:l.length=n':=by
  have:=hnews.size;rw[hus,Av8]at this;omega
 refine⟨.string ⟨l.toArray⟩,w,?_,?_⟩
 .rw[←hll,run_convert_bytes_string w s d e A l.length c hue hu8 (I0 hd)]
  cases A with
  |some a=>
   have hc:=hnews.cells n w (η _) rfl;rw[←hnews.size,AwQ,hus]at hc;simp only[Builtin.firstCells,AxO,←hlen,←hll]at hc;have hm:l.map (λb=>Value.int .u8 (b.toNat:Int))=(l.map (λb=>(b.toNat:Int))).map (Value.int .u8):=by rw[AxH];rfl
   rw[hm]at hc;rw[run_bytesToString w a l.length c _ hc,foldl_push_byteCells];simp
  |none=>
   have hl0:l=[]:=by
    have hc:=hnews.cells n w (η _) rfl;rw[←hnews.size,AwQ,hus]at hc;simp only[Builtin.firstCells,Sem.run_pure,Result.ok.injEq,and_true]at hc;have:=congrArg Array.size hc;simp at this;exact Av4 this.symm
   subst hl0;simp[Conv.bytesToString];rfl
 .rw[←h3]
  exact D5 (by simp only[Rep];exact⟨trivial,rfl⟩) hH
theorem TV{P:Program}{μ:Mu}{F:AQ}{w:World}{H:AH}{s d:TypeId}{str:ByteArray}(hs:B7 P s=U)(hd:DU P d=U)(hsz:str.size<=maxLen)(hH:HRep μ F w H.get)(hf:B3 μ H) :
  ValS P (convert s d (.string str)) ((AM.newB ⟨str.data.toList.map Ky,U,U⟩).bind λb=>AM.ret (.sl b 0 str.size 1)) μ F w H:=λr H' ft h=>by
 obtain⟨b,H1,f1,f2,h1,h2⟩:=bind_some h;obtain⟨e1,e2⟩:=Au h2;subst e1 e2;obtain⟨e,hue,hu8⟩:=J2 hd;have hrun:=run_bytes_of_string (P:=P) w s d e str (I0 hs) hue hu8;have hcap:=grownCap_ge w str.size 0 e;have hcapm:=grownCap_le_maxLen w str.size 0 e hsz;obtain⟨d1,d2,d3⟩:=hH.drew;have hsize:(bytesRow str (grownCap w str.size 0 e)).size=grownCap w str.size 0 e:=by
  unfold bytesRow;rw[Ax5,Array.size_map,Array.size_replicate];have:str.data.size=str.size:=rfl;omega
 have hpost:=Je (t:=e) (fr:=((bytesRow str (grownCap w str.size 0 e)).size,(bytesRow str (grownCap w str.size 0 e)).size+1)) (arr:=bytesRow str (grownCap w str.size 0 e))
  (r:=.sl b 0 str.size 1) (u:=.slice (V ⟨w.heap.size,0,Δ⟩) str.size (grownCap w str.size 0 e)) d1 hf h1 (.inl (η _)) (by
   rw[hsize,Av8,AwB];exact hcap) (by
   have e3:str.data.toList.map Ky=(str.data.toList.map (λb=>Value.int .u8 b.toNat)).map .v:=by rw[AxH];rfl
   have e4:(bytesRow str (grownCap w str.size 0 e)).toList.take (str.data.toList.map Ky).length=str.data.toList.map (λb=>Value.int .u8 b.toNat):=by
    simp_all [bytesRow]
   rw[e4,e3];exact EN _ _ _ _ (AvJ.2 λx hx=>by obtain⟨y,_,rfl⟩:=AwV.1 hx;rfl)) (λ_=>NO _) (by
   simp only[Rep];exact⟨_,by unfold Mu.set;rw[Ac rfl],.inr ⟨0,_,rfl,λ_=>rfl,hcap,hcapm,by simp only;omega⟩⟩)
 obtain⟨μ',F',p1,p2,p3,p4,p5⟩:=hpost;exact⟨_,_,hrun,μ',F',p1,p2,d2.trans p3,WStep.trans (λ_ _ h=>h) d3 p4,p5⟩
theorem Mg(w:World)(g o:Nat):w.setCells g o []=w:=rfl
theorem Uw{P:Program}{μ:Mu}{F:AQ}{w:World}{H:AH}{t u ty:TypeId}{s x:AV}{v y:Value}(hs:Rep μ F w s v)(hx:Rep μ F w x y)(hH:HRep μ F w H.get) :
  ValS P (Builtin.copy_ #[t,u] ty #[v,y]) (copyA P [t,u] s x) μ F w H:=λr H' ft h=>by
 unfold copyA at h;simp only at h;rcases h1:Cs P t with _|et<;>rw[h1]at h
 .exact(At h).elim
 cases s<;>try (exact(At h).elim)
 case sl b o n e=>
  simp only at h;rcases Bz h with⟨hse,ha⟩|⟨_,ha⟩
  rotate_left
  .exact(At ha).elim
  clear h;obtain⟨⟨m,news⟩,H1,f1,f2,h5,hb⟩:=bind_some ha;clear ha;obtain⟨hHH,hpn,us,hul,hnews⟩:=I9 hx hH h5;rw[hHH]at hb;simp only at hb;rcases Bz hb with⟨hone,hc⟩|⟨_,hc⟩
  rotate_left
  .exact(At hc).elim
  clear hb;obtain⟨k,H2,g1,g2,h6,hd⟩:=bind_some hc;obtain⟨hk,hHH2⟩:=BY h6;rw[hHH2]at hd;rcases Bz hd with⟨⟨hst,hlen⟩,hd2⟩|⟨_,hd2⟩
  rotate_left
  .grind [At]
  obtain⟨_,H3,g3,g4,h7,h8⟩:=bind_some hd2;have hH3:=Hh h7;obtain⟨hr,hH4⟩:=Au h8;subst hr hH4 hH3;simp only[Rep]at hs;obtain⟨p,hp,hvv⟩:=hs;obtain⟨inf,hinf,hsz⟩:=CZ hse;obtain⟨p',hp',hB⟩:=hH.blk b k hk;rw[hp]at hp'
  cases hp'
  have hle:AwA m n*e<=m*e:=Awq _ (AyK _ _);have hle2:AwA m n*e<=n*e:=Awq _ (Nat.min_le_right _ _);have hul2:=hul.sub 0 (AwA m n*e);simp only[List.drop_zero]at hul2;have hlt:(us.take (AwA m n*e)).length=AwA m n*e:=by rw[Av6,hnews.size];omega
  have hlt2:(news.take (AwA m n*e)).length=AwA m n*e:=by rw[←hul2.length,hlt]
  obtain⟨q1,q2,q3⟩:=Po hH hk hp hst o (news.take (AwA m n*e)) (us.take (AwA m n*e)) (by rw[hlt2];omega) hul2 (λ_=>by
   rw[BN,AvJ]at hpn ⊢;exact λx hx=>hpn x (AwZ hx))
  have hoc:∀ y∈us.take (AwA m n*e),y.oneCell'=U:=λy hy=>by
   obtain⟨j,hj,rfl⟩:=AwT hy;have hj2:j<(news.take (AwA m n*e)).length:=by rw[hlt2,←hlt];exact hj
   obtain⟨u,a1,a2⟩:=hul2.get (Ω hj2);rw[Ω hj]at a1
   cases a1
   exact a2.one (AvJ.1 hone _ (AvN hj2))
  have hcells:=hnews.cells (AwA m n) w (AyK _ _) rfl;rcases hvv with⟨hn0,rfl⟩|⟨q,c,rfl,hq,hnc,hcm,hroom⟩
  .have h0:us.take (AwA m n*e)=[]:=Av4 (by rw[hlt,hn0];simp)
   refine⟨.int .i64 (AwA m n),w.setCells p.g (p.o+o) (us.take (AwA m n*e)),?_,μ,F,by simp only[Rep];exact⟨trivial,rfl⟩,?_,q2,q3,λ_ _=>rfl⟩
   .subst hn0
    simp only[Builtin.copy_,Awt,Awm,Awa];simp[run_underlying (CC h1),sizeOf,typeInfo,hinf,hsz,goInt];rw[hnews.len];simp only[Result.andThen_ok];rw[show m.min 0=0 from Nat.min_zero m]at hcells;rw[hcells];simp only[Result.andThen_ok,h0];rfl
   .rw[Gu]
    exact q1
  have hstore:(storeCells (⟨p.g,q,Δ⟩:Addr) (us.take (AwA m n*e))).run P w=.ok () (w.setCells p.g (p.o+o) (us.take (AwA m n*e))):=by
   by_cases hn0:n=0
   .have h0:us.take (AwA m n*e)=[]:=Av4 (by rw[hlt,hn0];simp)
    rw[h0];rfl
   .rw[hq (by omega)]
    have:=run_storeCells_cells (P:=P) p.g (p.o+o) (us.take (AwA m n*e)) 0 w (λj hj=>by
      obtain⟨⟨y,hy⟩,_⟩:=hB.there (o+j) (by have:=hB.room;omega);rw[←AvQ]at hy;rw[Awr,hy];rfl) (λj hj=>by
      have:=(hB.there (o+j) (by have:=hB.room;omega)).2;rw[←AvQ]at this;rw[Awr];exact this) hoc
    rw[Awr]at this;exact this
  refine⟨.int .i64 (AwA m n),w.setCells p.g (p.o+o) (us.take (AwA m n*e)),?_,μ,F,by simp only[Rep];exact⟨trivial,rfl⟩,?_,q2,q3,λ_ _=>rfl⟩
  .simp only[Builtin.copy_,Awt,Awm,Awa]
   simp[run_underlying (CC h1),sizeOf,typeInfo,hinf,hsz,goInt];rw[hnews.len];simp only[Result.andThen_ok];rw[hcells];simp only[Result.andThen_ok];rw[hstore];rfl
  .rw[Gu]
   exact q1
theorem AcQ{l:Ab}{n:Nat}(h:l.all AV.one=U)(hl:0<l.length):∀ x∈Cr l n,x.one=U:=by
 intro x hx;unfold Cr at hx;obtain⟨i,_,rfl⟩:=AwV.1 hx;have hi:i % l.length<l.length:=Nat.mod_lt _ hl;rw[Ω hi,Option.getD_some];exact AvJ.1 h _ (AvN hi)
theorem SR{P:Program}{μ:Mu}{F:AQ}{w:World}{H:AH}{t ty:TypeId}{s:AV}{v:Value}(hs:Rep μ F w s v)(hH:HRep μ F w H.get) :
  ValS P (Builtin.clear_ #[t] ty #[v]) (clearA P [t] s) μ F w H:=λr H' ft h=>by
 unfold clearA at h;simp only at h;rcases h1:Cs P t with _|et<;>rw[h1]at h
 .exact(At h).elim
 cases s<;>try (exact(At h).elim)
 case sl b o n e=>
  simp only at h;rcases h5:C0 P et with _|z<;>rw[h5]at h
  .exact(At h).elim
  simp only at h;rcases Bz h with⟨⟨hse,hze,he0,hone⟩,ha⟩|⟨_,ha⟩
  rotate_left
  .exact(At ha).elim
  clear h;obtain⟨k,H2,g1,g2,h6,hd⟩:=bind_some ha;obtain⟨hk,hHH2⟩:=BY h6;rw[hHH2]at hd;rcases Bz hd with⟨⟨hst,hlen⟩,hd2⟩|⟨_,hd2⟩
  rotate_left
  .grind [At]
  obtain⟨_,H3,g3,g4,h7,h8⟩:=bind_some hd2;have hH3:=Hh h7;obtain⟨hr,hH4⟩:=Au h8;subst hr hH4 hH3;simp only[Rep]at hs;obtain⟨p,hp,hvv⟩:=hs;obtain⟨i',hi',hz,hfl⟩:=D2 h5;obtain⟨p',hp',hB⟩:=hH.blk b k hk;rw[hp]at hp'
  cases hp'
  have hzs:=GJ (μ:=μ) (F:=F) (w:=w) z.cells (n*e) hfl;generalize hus:((Axx (n*e)).map (λi=>z.cells[i % z.cells.size]!)).toList=us at hzs;have hzl:(Cr (z.cells.toList.map AV.v) (n*e)).length=n*e:=by unfold Cr;rw[Av8,List.length_range]
  have hlt:us.length=n*e:=by rw[hzs.length,hzl]
  obtain⟨q1,q2,q3⟩:=Po hH hk hp hst o (Cr (z.cells.toList.map AV.v) (n*e)) us (by rw[hzl];omega) hzs (λ_=>Ja _ _);have hoc:∀ y∈us,y.oneCell'=U:=λy hy=>by
   obtain⟨j,hj,rfl⟩:=AwT hy;have hj2:j<(Cr (z.cells.toList.map AV.v) (n*e)).length:=by rw[hzl,←hlt];exact hj
   obtain⟨u,a1,a2⟩:=hzs.get (Ω hj2);rw[Ω hj]at a1
   cases a1
   exact a2.one (AcQ hone (by rw[Av8,AwB,hze];exact he0) _ (AvN hj2))
  refine⟨.tuple #[],w.setCells p.g (p.o+o) us,?_,μ,F,by simp only[Rep];exact⟨#[],rfl,rfl⟩,?_,q2,q3,λ_ _=>rfl⟩
  .have hzc:(Builtin.zeroCells z.cells n).toList=us:=by
    grind [Builtin.zeroCells]
   rcases hvv with⟨hn0,rfl⟩|⟨q,c,rfl,hq,hnc,hcm,hroom⟩
   .simp_all [Builtin.clear_,Av4,CC,run_underlying,Mg]
   .cases n with
    |zero=>
     have h0:us=[]:=Av4 (by rw[hlt];simp);rw[h0,Mg];simp[Builtin.clear_,run_underlying (CC h1)]
    |succ n=>
     have hstore:(storeCells (⟨p.g,q,Δ⟩:Addr) us).run P w=.ok () (w.setCells p.g (p.o+o) us):=by
      rw[hq (by omega)];have:=run_storeCells_cells (P:=P) p.g (p.o+o) us 0 w (λj hj=>by
        obtain⟨⟨y,hy⟩,_⟩:=hB.there (o+j) (by have:=hB.room;omega);rw[←AvQ]at hy;rw[Awr,hy];rfl) (λj hj=>by
        have:=(hB.there (o+j) (by have:=hB.room;omega)).2;rw[←AvQ]at this;rw[Awr];exact this) hoc
      rw[Awr]at this;exact this
     simp[Builtin.clear_,run_underlying (CC h1),zeroValue,typeInfo,hi',hz,hzc,hstore]
  .rw[Gu]
   exact q1
section
variable {P:Program} {w:World} {t:TypeId}
theorem AkL(d:Nat){e:TypeId}(hu:P.underlying t=V (.pointer e))(a:Addr):(Op.equalIn (d+1) t (.pointer (V a)) (.pointer Δ)).run P w=.ok Θ w:=by
 simp only[Op.equalIn,Sem.run_bind,run_underlying hu,Result.andThen_ok,Sem.run_pure]
theorem AkK(d:Nat){e:TypeId}(hu:P.underlying t=V (.pointer e))(a:Addr):(Op.equalIn (d+1) t (.pointer Δ) (.pointer (V a))).run P w=.ok Θ w:=by
 simp only[Op.equalIn,Sem.run_bind,run_underlying hu,Result.andThen_ok,Sem.run_pure,Option.isNone]
theorem Aqq(d:Nat){e:TypeId}(hu:P.underlying t=V (.slice e))(a:Addr)(n c n' c':Nat):(Op.equalIn (d+1) t (.slice (V a) n c) (.slice Δ n' c')).run P w=.ok Θ w:=by
 simp only[Op.equalIn,Sem.run_bind,run_underlying hu,Result.andThen_ok,Sem.run_pure]
theorem Aqp(d:Nat){ps rs:Array TypeId}{vr:Bool}(hu:P.underlying t=V (.func ps rs vr))(f:Fn)(x y:Array Value):(Op.equalIn (d+1) t (.func f x y) .nilFunc).run P w=.ok Θ w:=by
 simp only[Op.equalIn,Sem.run_bind,run_underlying hu,Result.andThen_ok,Sem.run_pure]
end
theorem VI{P:Program}{μ:Mu}{F:AQ}{w:World}{H:AH}{t yt:TypeId}{x y:Operand}{ρ:Operand->AV}{a:Act}{dst:Option Tmp}{ty:TypeId}{pos:String}{after:Array Edge}{guard:Option (Nat × Bool)}{b:BinOp}
  (hx:Rep μ F w (ρ x) (a.eval x)) (hy:Rep μ F w (ρ y) (a.eval y)) (hH:HRep μ F w H.get) (h:Gy P t (ρ x) (ρ y)=U) :
  QI P (execOp a.eval ⟨dst,.binOp b t x y yt,ty,pos,after,guard⟩) (match b with
   |.eql=>AM.ret (.v (.bool Θ))
   |.neq=>AM.ret (.v (.bool U))
   |_=>AM.fail) μ F w H:=by
 have key:∀ u v,a.eval x=u->a.eval y=v->(Op.equal t u v).run P w=.ok Θ w->(eqGuard .eql t x y u v).run P w=.ok () w->(eqGuard .neq t x y u v).run P w=.ok () w->
   (binOp .eql t u v=do pure (.bool (←Op.equal t u v)))->(binOp .neq t u v=do pure (.bool (!(←Op.equal t u v))))->
   QI P (execOp a.eval ⟨dst,.binOp b t x y yt,ty,pos,after,guard⟩) (match b with
   |.eql=>AM.ret (.v (.bool Θ))
   |.neq=>AM.ret (.v (.bool U))
   |_=>AM.fail) μ F w H:=by
  intro u v hu hv he hg1 hg2 hb1 hb2
  cases b<;>try (exact λr H' ft h=>(At h).elim)
  case eql=>exact Dq (u:=.bool Θ) (by simp[execOp,hu,hv,hg1,hb1,he]) (by simp only[Rep];exact⟨trivial,rfl⟩) hH
  case neq=>exact Dq (u:=.bool U) (by simp[execOp,hu,hv,hg2,hb2,he]) (by simp only[Rep];exact⟨trivial,rfl⟩) hH
 unfold Gy at h;split at h<;>try (cases h;done)
 .rename_i e1 e2 hu
  rw[e1]at hx;rw[e2]at hy;simp only[Rep]at hx hy;obtain⟨p,hp,hxe⟩:=hx;exact key _ _ hxe hy.1 (AkL 9999 hu _) (by simp[eqGuard]) (by simp[eqGuard]) rfl rfl
 .rename_i e1 e2 hu
  rw[e1]at hx;rw[e2]at hy;simp only[Rep]at hx hy;obtain⟨_,g,o,hxe,_⟩:=hx;exact key _ _ hxe hy.1 (AkL 9999 hu _) (by simp[eqGuard]) (by simp[eqGuard]) rfl rfl
 .rename_i e1 e2 hu
  rw[e1]at hx;rw[e2]at hy;simp only[Rep]at hx hy;obtain⟨p,hp,hye⟩:=hy;exact key _ _ hx.1 hye (AkK 9999 hu _) (by simp[eqGuard]) (by simp[eqGuard]) rfl rfl
 .rename_i e1 e2 hu
  rw[e1]at hx;rw[e2]at hy;simp only[Rep]at hx hy;obtain⟨_,g,o,hye,_⟩:=hy;exact key _ _ hx.1 hye (AkK 9999 hu _) (by simp[eqGuard]) (by simp[eqGuard]) rfl rfl
 .rename_i e1 e2 hu
  rw[e1]at hx;rw[e2]at hy;simp only[Rep]at hx hy;obtain⟨p,hp,⟨hn0,_⟩|⟨q,c,hxe,_⟩⟩:=hx
  .omega
  exact key _ _ hxe hy.1 (Aqq 9999 hu _ _ _ _ _) (by simp[eqGuard]) (by simp[eqGuard]) rfl rfl
 .rename_i e1 e2 hu
  rw[e1]at hx;rw[e2]at hy;simp only[Rep]at hx hy;obtain⟨ua,uc,hxe,_⟩:=hx;exact key _ _ hxe hy.1 (Aqp 9999 hu _ _ _) (by simp[eqGuard]) (by simp[eqGuard]) rfl rfl
