/- append, copy, conversion -/
import Derived.Test.YtpncilciembjdaaGreatDoorJAA
set_option linter.all false
open Array renaming ext'->AuO,length_toList->At1,range->Au1,size_append->Avu
open Bool renaming false->Ξ,true->U
open List renaming all_eq_true->Atr,append_assoc->Atp,cons_append->AuM,eq_nil_of_length_eq_zero->AtJ,flatten_cons->Aug,flatten_nil->Av2,getElem?_cons_succ->Atv,getElem?_cons_zero->Aty,getElem?_drop->Aud,getElem?_eq_getElem->δ,getElem?_take->AtC,getElem?_toArray->AtF,getElem_mem->Ats,getElem_of_mem->AuX,length_append->γ,length_cons->Ate,length_drop->Avh,length_map->Atm,length_nil->Auj,length_take->AtN,map_map->AuQ,mem_map->AtH,mem_of_mem_drop->At6,mem_of_mem_take->AuB,size_toArray->Auw,take_length->Aur,take_zero->Au6
open Nat renaming add_assoc->AtM,add_mul->At2,add_zero->At3,le_refl->η,le_zero_eq->Awd,min->At8,min_le_left->Awa,mul_le_mul_right->Aub,mul_ne_zero->Awb,mul_one->Avr,zero_mul->Auz
open Option renaming none->Θ,some->Δ
namespace Go.Proofs.YtpncilciembjdaaGreatDoor
open Option.some renaming injEq->θ
open Go.RowKit
section
variable {P:Program} {μ:Mu} {F:AP} {w:World} {H:AH}
theorem RepAt.append{g:Nat}:∀{xs ys:Aa} {o:Nat},RepAt μ F w g xs o->RepAt μ F w g ys (o+xs.length)->RepAt μ F w g (xs++ys) o
 |[],ys,o,_,h=>by simpa using h
 |x::r,ys,o,h,h'=>by
  simp only[AuM,RepAt]at h ⊢;exact⟨h.1,RepAt.append h.2 (by rwa [Ate,show o+(r.length+1)=o+1+r.length by omega]at h')⟩
theorem RepRows.flat{g e:Nat}:∀{xs:List Aa} {o:Nat},RepRows μ F w g e xs o->RepAt μ F w g xs.flatten o/\xs.flatten.length=xs.length*e
 |[],o,_=>⟨by simp only[Av2,RepAt],by simp⟩
 |x::r,o,h=>by
  simp only[RepRows]at h;obtain⟨h1,h2,h3⟩:=h;obtain⟨h4,h5⟩:=RepRows.flat h3;refine⟨?_,?_⟩
  .rw[Aug]
   exact h2.append (by rwa [h1])
  .grind
theorem VL{e:Nat}:∀{xs:List Aa},(xs.all λcs=>cs.length == e)=U->xs.flatten.length=xs.length*e
 |[],_=>by simp
 |x::r,h=>by
  simp only[List.all_cons,Bool.and_eq_true,beq_iff_eq]at h;rw[Aug,γ,h.1,VL h.2,Ate,At2];omega
structure News (P:Program) (w:World) (e:Nat) (v:Value) (n:Nat) (us:AA):Prop where
 len:(Builtin.lenOf v).run P w=.ok n w
 size:us.length=n*e
 cells:∀ m W,m<=n->W.heap=w.heap->(Builtin.firstCells e m v).run P W=.ok (us.take (m*e)).toArray W
theorem Xg{W:World}(h:W.heap=w.heap)(a:Addr):W.cell? a=w.cell? a:=by unfold World.cell?;rw[h]
theorem JR{g q e n c:Nat}{us:AA}(hl:us.length=n*e)(hc:∀ j v,us[j]? = Δ v->w.cell? ⟨g,q+j,Θ⟩=Δ v):News P w e (.slice (Δ ⟨g,q,Θ⟩) n c) n us:=by
 refine⟨by simp[Builtin.lenOf],hl,λm W hm hW=>?_⟩;simp only[Builtin.firstCells];have hle:m*e<=n*e:=Aub _ hm;have hlen:(us.take (m*e)).length=m*e:=by rw[AtN];omega
 have:=run_loadCells_list (P:=P) W ⟨g,q,Θ⟩ (us.take (m*e)) (λj v hv=>by
  rw[Addr.add_mid,Xg hW];rw[AtC]at hv;split at hv
  .exact hc j v hv
  .cases hv)
 rwa [hlen]at this
theorem LW(l:List UInt8):AU (l.map IN)=U:=by
 rw[BH,Atr];intro x hx;obtain⟨c,_,rfl⟩:=AtH.1 hx;rfl
theorem Hp{e:Nat}{x:AV}{v:Value}{n:Nat}{cs:Aa}{H':AH}{ft:Foot}(hx:Rep μ F w x v)(hH:HRep μ F w H.get)(h:newsA e x H=Δ ((n,cs),H',ft)) :
  H'=H/\AU cs=U/\∃ us,RepList μ F w cs us/\News P w e v n us:=by
 unfold newsA at h;split at h
 .rename_i b o n' e'
  rcases BB h with⟨he,h⟩|⟨_,h⟩
  rotate_left
  .exact(Al h).elim
  subst he;obtain⟨k,H1,f1,f2,h1,h2⟩:=bind_some h;obtain⟨hk,rfl⟩:=BP h1;rcases BB h2 with⟨⟨hc,hex⟩,h2⟩|⟨_,h2⟩
  rotate_left
  .exact(Al h2).elim
  obtain⟨he,rfl⟩:=Ap h2;simp only[Prod.mk.injEq]at he;obtain⟨rfl,rfl⟩:=he;simp only[Rep]at hx;obtain⟨p,hp,hvv⟩:=hx;obtain⟨p',hp',hB⟩:=hH.blk b k hk;rw[hp]at hp'
  cases hp'
  have hpu:AU ((k.cells.drop o).take (n*e'))=U:=by
   rcases hx:k.ex with _|_
   .simpa[hx]using hex
   .have:=hB.pure hx
    rw[BH,Atr]at this ⊢;exact λx hx=>this x (At6 (AuB hx))
  rcases hvv with⟨rfl,rfl⟩|⟨q,c,rfl,hq,hnc,hcm,hroom⟩
  .exact⟨rfl,hpu,[],by simp only[Auz,Au6,RepList],⟨by simp[Builtin.lenOf],by simp,λm W hm _=>by simp[Builtin.firstCells]⟩⟩
  by_cases hn0:n=0
  .subst hn0
   refine⟨rfl,hpu,[],by simp only[Auz,Au6,RepList],JR (by simp) λj v hv=>by simp at hv⟩
  obtain⟨us,hl,hcell⟩:=Dl (μ:=μ) (F:=F) (w:=w) (g:=p.g) (o:=p.o+o) (cs:=(k.cells.drop o).take (n*e')) λi x hx=>by
   simp only[AtC,Aud]at hx;split at hx
   .obtain⟨u,h1,h2⟩:=hB.cell (o+i) x hx
    exact⟨u,by rwa [AtM],h2⟩
   .cases hx
  refine⟨rfl,hpu,us,hl,?_⟩;rw[hq (by omega)];refine JR ?_ hcell;rw[hl.length,AtN,Avh];omega
 .rename_i xs
  rcases BB h with⟨hall,h⟩|⟨_,h⟩
  rotate_left
  .exact(Al h).elim
  obtain⟨he,rfl⟩:=Ap h;simp only[Prod.mk.injEq]at he;obtain⟨rfl,rfl⟩:=he;simp only[Rep]at hx;obtain⟨h0,A,c,rfl,hnc,hcm,hne⟩:=hx;have hpu:AU xs.flatten=U:=by
   rw[BH,Atr];intro x hx;obtain⟨l,hl,hxl⟩:=List.mem_flatten.1 hx;have:=Atr.1 h0 l hl;rw[BH,Atr]at this;exact this x hxl
  rcases hxs:xs with _|⟨y,ys⟩
  .refine⟨rfl,rfl,[],by simp only[Av2,RepList],?_⟩
   cases A with
   |none=>
    refine⟨by simp[Builtin.lenOf],by simp,λm W hm _=>?_⟩;simp only[Auj,Awd]at hm;subst hm;simp[Builtin.firstCells]
   |some a=>
    refine⟨by simp[Builtin.lenOf],by simp,λm W hm _=>?_⟩;simp only[Auj,Awd]at hm;subst hm;simp[Builtin.firstCells,loadCells,loadCellsFrom]
  .rw[←hxs]
   obtain⟨g,o,e',rfl,hrows⟩:=hne (by rw[hxs];simp);obtain⟨hat,_⟩:=hrows.flat;obtain⟨us,hl,hcell⟩:=Dl (μ:=μ) (F:=F) (w:=w) (g:=g) (o:=o) (cs:=xs.flatten) λi x hx=>(hat.get hx).2
   exact⟨rfl,hpu,us,hl,JR (by rw[hl.length,VL hall]) hcell⟩
 .obtain⟨he,rfl⟩:=Ap h
  simp only[Prod.mk.injEq]at he;obtain⟨rfl,rfl⟩:=he;simp only[Rep]at hx;obtain⟨rfl,_⟩:=hx;refine⟨rfl,rfl,[],by simp only[RepList],⟨by simp[Builtin.lenOf],by simp,λm W hm _=>by simp[Builtin.firstCells]⟩⟩
 .rename_i s
  rcases BB h with⟨he,h⟩|⟨_,h⟩
  rotate_left
  .exact(Al h).elim
  subst he;obtain⟨he,rfl⟩:=Ap h;simp only[Prod.mk.injEq]at he;obtain⟨rfl,rfl⟩:=he;simp only[Rep]at hx;obtain⟨rfl,_⟩:=hx;refine⟨rfl,LW _,s.data.toList.map (λb=>.int .u8 b.toNat),?_,⟨by simp[Builtin.lenOf],by simp,λm W hm _=>?_⟩⟩
  .have e1:s.data.toList.map IN=(s.data.toList.map (λb=>Value.int .u8 b.toNat)).map .v:=by
    rw[AuQ];rfl
   rw[e1];exact Ed _ _ _ _ (Atr.2 λx hx=>by obtain⟨y,_,rfl⟩:=AtH.1 hx;rfl)
  .simp only[Builtin.firstCells,Sem.run_pure,Avr]
   congr 1
   apply AuO;rw[Array.toList_map,ByteArray.data_extract,Array.toList_extract,List.extract_eq_take_drop];simp[List.map_take]
 .exact(Al h).elim
theorem I8{u:TypeId}(h:FA P u=U):(∃ e,P.underlying u=Δ (.slice e))\/P.underlying u=Δ .string:=by
 grind [FA]
section
variable {t u ty e:TypeId} {i:TypeInfo} {z:Value} {n m c:Nat} {x:Value} {us:AA} {A:Option Addr}
theorem Mr(ht:P.underlying t=Δ (.slice e))(hu:FA P u=U)(hi:P.info? e=Δ i)(hx:News P w i.size x m us)(hfit:n+m<=c)
  {w':World} (hst:∀ a,A=Δ a->(storeCells (a.add (n*i.size)) us).run P w=.ok () w') (hno:A=Θ->w'=w) :
  (Builtin.append_ #[t,u] ty #[.slice A n c,x]).run P w=.ok (.slice A (n+m) c) w':=by
 have hc:=hx.cells m w (η _) rfl;rw[←hx.size,Aur]at hc
 cases A with
 |none=>
  have:=hno rfl;subst this;rcases I8 hu with⟨e',hd⟩|hd<;>simp[Builtin.append_,run_underlying ht,run_underlying hd,sizeOf,typeInfo,hi,hx.len,hfit,hc]
 |some a=>
  have:=hst a rfl;rcases I8 hu with⟨e',hd⟩|hd<;>simp[Builtin.append_,run_underlying ht,run_underlying hd,sizeOf,typeInfo,hi,hx.len,hfit,hc,this]
theorem Lk(ht:P.underlying t=Δ (.slice e))(hu:FA P u=U)(hi:P.info? e=Δ i)(hz:i.zero=Δ z)(hx:News P w i.size x m us){olds:AA}
  (holds:∀ W:World,W.heap=w.heap->(Builtin.firstCells i.size n (.slice A n c)).run P W=.ok olds.toArray W) (hg:c<n+m) (h63:n+m<=maxLen) (hb:(n+m)*i.bytes<=140737488355328) :
  (Builtin.append_ #[t,u] ty #[.slice A n c,x]).run P w=.ok (.slice (Δ ⟨w.heap.size,0,Θ⟩) (n+m) (grownCap w (n+m) c e))
   (w.drew.alloc (.cells (olds.toArray++us.toArray++Builtin.zeroCells z.cells (grownCap w (n+m) c e-(n+m))) e)):=by
 have hc:=hx.cells m w.drew (η _) rfl;rw[←hx.size,Aur]at hc;have ho:=holds w.drew rfl;have hn:¬ (n+m<=c):=by omega
 have h63':¬ (9223372036854775807<((n:Int)+(m:Int))):=by simp only[maxLen]at h63;omega
 have h48:=growslice_fits (need:=n+m) (old:=c) (bytes:=i.bytes) hg hb;have h48':¬ (281474976710656<Builtin.nextslicecap (n+m) c*i.bytes):=by omega
 have hcat:∀ Z:Array Value,olds.toArray++(us.toArray++Z)=(olds++us).toArray++Z:=λZ=>by apply AuO;simp[Atp]
 rcases I8 hu with⟨e',hd⟩|hd<;>simp[Builtin.append_,run_underlying ht,run_underlying hd,sizeOf,typeInfo,zeroValue,hi,hz,hx.len,hn,h63',h48',Question.forced,ho,hc,newRow,grownCap,hcat]
end
structure AppX (P:Program) (w:World) (t u ty e:TypeId) (i:TypeInfo) (z:Value) (y:Value) (m:Nat) (us:AA):Prop where
 size:us.length=m*i.size
 fits:∀(A:Option Addr) (n c:Nat) (w':World),n+m<=c->m*i.bytes<=140737488355328->(∀ a,A=Δ a->(storeCells (a.add (n*i.size)) us).run P w=.ok () w')->(A=Θ->w'=w)->
  (Builtin.append_ #[t,u] ty #[.slice A n c,y]).run P w=.ok (.slice A (n+m) c) w'
 grows:∀(A:Option Addr) (n c:Nat) (olds:AA),(∀ W:World,W.heap=w.heap->(Builtin.firstCells i.size n (.slice A n c)).run P W=.ok olds.toArray W)->c<n+m->n+m<=maxLen->(n+m)*i.bytes<=140737488355328->
  (Builtin.append_ #[t,u] ty #[.slice A n c,y]).run P w=.ok (.slice (Δ ⟨w.heap.size,0,Θ⟩) (n+m) (grownCap w (n+m) c e)) (w.drew.alloc (.cells (olds.toArray++us.toArray++Builtin.zeroCells z.cells (grownCap w (n+m) c e-(n+m))) e))
theorem OH(z:Array Value)(m:Nat):Builtin.zeroCells z m=(((Au1 (m*z.size)).map (λi=>z[i % z.size]!)).toList).toArray:=by
 grind [Builtin.zeroCells]
theorem SX{t u ty et:TypeId}{i:TypeInfo}{z:Value}{x:AV}{v:Value}{m:Nat}{cs:Aa}{H':AH}{ft:Foot}(ht:P.underlying t=Δ (.slice et))(hi:P.info? et=Δ i)(hz:i.zero=Δ z)(hzs:z.cells.size=i.size)(hpos:0<i.size)(hx:Rep μ F w x v)(hH:HRep μ F w H.get)(h:newsU P u z i.size x H=Δ ((m,cs),H',ft)) :
  H'=H/\AU cs=U/\∃ us,RepList μ F w cs us/\AppX P w t u ty et i z v m us:=by
 unfold newsU at h;rcases hu:FA P u with _|_<;>rw[hu]at h<;>simp only at h
 rotate_left
 .obtain⟨e1,e2,us,e3,e4⟩:=Hp hx hH h
  exact⟨e1,e2,us,e3,e4.size,λA n c w' h1 _ h2 h3=>Mr ht hu hi e4 h1 h2 h3,λA n c olds h1 h2 h3 h4=>Lk ht hu hi hz e4 h1 h2 h3 h4⟩
 .rcases hu:KX P u with _|_<;>rw[hu]at h<;>simp only at h
  rotate_left
  .unfold newsZ at h
   rcases hm:x.idx with _|m1<;>rw[hm]at h<;>simp only at h
   rotate_left
   .rcases BB h with⟨⟨hm63,hfl⟩,h⟩|⟨_,h⟩
    rotate_left
    .exact(Al h).elim
    obtain⟨he,rfl⟩:=Ap h;simp only[Prod.mk.injEq]at he;obtain⟨he1,he2⟩:=he;subst m1 he2;obtain⟨k,rfl⟩:=El hx hm;obtain⟨kn,hkn⟩:∃ kn,P.underlying u=Δ (.int kn):=by
     grind [KX]
    have hlen:(((Au1 (m*i.size)).map (λj=>z.cells[j % z.cells.size]!)).toList).length=m*i.size:=by simp
    have hw:IntKind.i64.wrap (m:Int)=m:=by rw[IntKind.wrap_i64];omega
    have hneg:¬ ((m:Int)<0):=by omega
    have hw0:IntKind.i64.wrap 0=0:=by decide
    have hzc:Builtin.zeroCells z.cells m=(((Au1 (m*i.size)).map (λj=>z.cells[j % z.cells.size]!)).toList).toArray:=by rw[OH,hzs]
    refine⟨rfl,Hq _ _,_,Fu (μ:=μ) (F:=F) (w:=w) z.cells (m*i.size) hfl,hlen,λA n c w' h1 hmb h2 h3=>?_,λA n c olds h1 h2 h3 h4=>?_⟩
    .have h48i:¬ (281474976710656<(m:Int)*(i.bytes:Int)):=by
      omega
     revert h2 hzc hlen;generalize ((Au1 (m*i.size)).map (λj=>z.cells[j % z.cells.size]!)).toList=us;intro hlen hzc h2
     by_cases hm0:m=0
     .subst hm0
      have hus:us=[]:=AtJ (by rw[hlen,Auz]);subst hus
      cases A with
      |none=>
       have:=h3 rfl;subst this;simp[Builtin.append_,run_underlying ht,run_underlying hkn,sizeOf,typeInfo,hi,asInt,asIntOf,hw0,show n<=c by omega]
      |some a=>
       have:=h2 a rfl;simp[Builtin.append_,run_underlying ht,run_underlying hkn,sizeOf,typeInfo,hi,asInt,asIntOf,hw0,show n<=c by omega,this]
     .have hns:¬ (m*i.size=0):=Awb hm0 (by omega)
      have hns1:¬ (i.size=0):=by omega
      cases A with
      |none=>
       have:=h3 rfl;subst this;simp[Builtin.append_,run_underlying ht,run_underlying hkn,sizeOf,typeInfo,zeroValue,hi,hz,asInt,asIntOf,hw,hneg,h1,hm0,hns1,hns,h48i,hzc]
      |some a=>
       have:=h2 a rfl;simp[Builtin.append_,run_underlying ht,run_underlying hkn,sizeOf,typeInfo,zeroValue,hi,hz,asInt,asIntOf,hw,hneg,h1,hm0,hns1,hns,h48i,hzc,this]
    .have hm0:m≠0\/m=0:=by omega
     have h48i:¬ (281474976710656<(m:Int)*(i.bytes:Int)):=by
      grind
     have ho:=h1 w.drew rfl;have hn:¬ (n+m<=c):=by omega
     have h63':¬ (9223372036854775807<((n:Int)+(m:Int))):=by simp only[maxLen]at h3;omega
     have h48:=growslice_fits (need:=n+m) (old:=c) (bytes:=i.bytes) h2 h4;have h48':¬ (281474976710656<Builtin.nextslicecap (n+m) c*i.bytes):=by omega
     have hns1:¬ (i.size=0):=by omega
     revert hzc hlen;generalize ((Au1 (m*i.size)).map (λj=>z.cells[j % z.cells.size]!)).toList=us;intro hlen hzc;have hcat:∀ Z:Array Value,olds.toArray++(us.toArray++Z)=(olds++us).toArray++Z:=λZ=>by apply AuO;simp[Atp]
     by_cases hm0:m=0
     .subst hm0
      have hus:us=[]:=AtJ (by rw[hlen,Auz]);subst hus;have hn':¬ n<=c:=by omega
      simp[Builtin.append_,run_underlying ht,run_underlying hkn,sizeOf,typeInfo,zeroValue,hi,hz,asInt,asIntOf,hw0,hn',show ¬ (9223372036854775807<(n:Int)) by omega,show ¬ (281474976710656<Builtin.nextslicecap n c*i.bytes) from h48',Question.forced,ho,newRow,grownCap]
     .have hns:¬ (m*i.size=0):=Awb hm0 (by omega)
      simp[Builtin.append_,run_underlying ht,run_underlying hkn,sizeOf,typeInfo,zeroValue,hi,hz,asInt,asIntOf,hw,hneg,hn,h63',h48',hm0,hns1,hns,h48i,Question.forced,ho,newRow,grownCap,hzc,hcat]
   .exact(Al h).elim
  .exact(Al h).elim
end
section
variable {P:Program} {μ:Mu} {F:AP} {w:World} {H:AH}
theorem HRep.weaken{H H':Nat->Option ABlk}(h:HRep μ F w H)(hs:∀ b k',H' b=Δ k'->∃ k,H b=Δ k/\k'.cells=k.cells/\k'.st=k.st/\(k'.ex=U->k.ex=U)):HRep μ F w H':=by
 have own:∀{k k':ABlk} {r i:Nat},k'.cells=k.cells->k'.st=k.st->(k'.ex=U->k.ex=U)->k'.owns r i->k.owns r i:=by
  grind [ABlk.owns]
 refine⟨λb k' hk=>?_,λb b' k1 k2 p p' hne h1 h2 q1 q2 i i' o1 o2=>?_,h.prot⟩
 .obtain⟨k,h1,h2,h3,h4⟩:=hs b k' hk
  obtain⟨p,hp,hB⟩:=h.blk b k h1;refine⟨p,hp,⟨λi x hx=>hB.cell i x (by rw[←h2];exact hx),by rw[h2];exact hB.room,hB.there,λhf i hi=>hB.kept (by rw[←h3];exact hf) i (by rw[←h2];exact hi),λi hi=>hB.free i (own h2 h3 h4 hi),λhx=>by rw[h2];exact hB.pure (h4 hx)⟩⟩
 .obtain⟨j1,a1,a2,a3,a4⟩:=hs b k1 h1
  obtain⟨j2,b1,b2,b3,b4⟩:=hs b' k2 h2;exact h.apart b b' j1 j2 p p' hne a1 b1 q1 q2 i i' (own a2 a3 a4 o1) (own b2 b3 b4 o2)
theorem Se{olds us:AA}{z:Array Value}{n m cap size:Nat}(ho:olds.length=n*size)(hu:us.length=m*size)(hz:z.size=size)(hc:n+m<=cap) :
  (olds.toArray++us.toArray++Builtin.zeroCells z (cap-(n+m))).size=cap*size/\(olds.toArray++us.toArray++Builtin.zeroCells z (cap-(n+m))).toList.take ((n+m)*size)=olds++us:=by
 refine⟨?_,?_⟩
 .rw[Avu,Avu,size_zeroCells,hz,Auw,Auw,ho,hu,←At2,←At2]
  congr 1
  omega
 .grind [Array.toList_append,γ,List.take_left,At2]
theorem RepList.append{xs ys:Aa}:∀{us vs:AA},RepList μ F w xs us->RepList μ F w ys vs->RepList μ F w (xs++ys) (us++vs):=by
 induction xs with
 |nil=>intro us vs h h';simp only[RepList]at h;subst h;exact h'
 |cons x r ih=>
  intro us vs h h';simp only[RepList]at h;obtain⟨u,t,rfl,h1,h2⟩:=h;simp only[AuM,RepList];exact⟨u,t++vs,rfl,h1,ih h2 h'⟩
end
set_option maxHeartbeats 1000000 in
theorem OK{P:Program}{μ:Mu}{F:AP}{w:World}{H:AH}{t u ty:TypeId}{s x:AV}{v y:Value}(hs:Rep μ F w s v)(hx:Rep μ F w x y)(hH:HRep μ F w H.get)(hf:BR μ H) :
  ValS P (Builtin.append_ #[t,u] ty #[v,y]) (appendA P [t,u] s x) μ F w H:=λr H' ft h=>by
 unfold appendA at h;simp only at h;rcases h1:Cf P t with _|et<;>rw[h1]at h
 .exact(Al h).elim
 simp only at h;rcases h3:P.info? et with _|i<;>rw[h3]at h
 .exact(Al h).elim
 simp only at h;rcases h4:i.zero with _|z<;>rw[h4]at h
 .exact(Al h).elim
 simp only at h;rcases BB h with⟨⟨hzs,hpos⟩,h⟩|⟨_,h⟩
 rotate_left
 .exact(Al h).elim
 obtain⟨⟨m,news⟩,H1,f1,f2,h5,h⟩:=bind_some h;have ht:=Cr h1;obtain⟨hHH,hpn,us,hul,hnews⟩:=SX (ty:=ty) ht h3 h4 hzs hpos hx hH h5;have hHH:=hHH.symm;subst hHH;simp only at h;have hnl:news.length=m*i.size:=by rw[←hul.length,hnews.size]
 rcases BB h with⟨hm,h⟩|⟨hm,h⟩
 .-- nothing is appended
  rcases BB h with⟨hsl,h⟩|⟨_,h⟩
  rotate_left
  .exact(Al h).elim
  obtain⟨rfl,rfl⟩:=Ap h;subst hm;have hus:us=[]:=AtJ (by rw[hnews.size,Auz]);subst hus;have fin:∀ A n c,v=.slice A n c->n<=c->∃ u_1 w',(Builtin.append_ #[t,u] ty #[v,y]).run P w=.ok u_1 w'/\Post μ F w H' r H' u_1 w':=by
   intro A n c hv hnc;subst hv;have:=hnews.fits A n c w (by omega) (by omega) (λa _=>rfl) (λ_=>rfl);exact⟨_,_,this,DJ hs hH⟩
  unfold OS at hsl;split at hsl
  .simp only[Rep]at hs
   obtain⟨p,hp,⟨_,rfl⟩|⟨q,c,rfl,hq,hnc,hcm,hroom⟩⟩:=id hs
   .exact fin _ _ _ rfl (η _)
   exact fin _ _ _ rfl hnc
  .simp only[Rep]at hs
   obtain⟨_,A,c,rfl,hnc,hcm,hne⟩:=id hs;exact fin _ _ _ rfl hnc
  .simp only[Rep]at hs
   obtain⟨rfl,_⟩:=id hs;exact fin _ _ _ rfl (η _)
  .cases hsl
 .rcases BB h with⟨hone,h⟩|⟨_,h⟩
  rotate_left
  .exact(Al h).elim
  have hoc:∀ y∈us,y.oneCell'=U:=λy hy=>by
   obtain⟨j,hj,rfl⟩:=AuX hy;have hj2:j<news.length:=by rw[←hul.length];exact hj
   obtain⟨u,a1,a2⟩:=hul.get (δ hj2);rw[δ hj]at a1
   cases a1
   exact a2.one (Atr.1 hone _ (Ats hj2))
  have grown:∀(G:AH) (st:Bool) (n c:Nat) (olds:AA) (cs:Aa) (b:Nat) (G1:AH) (ft1:Foot),HRep μ F w G.get->BR μ G->G.next=H.next->AM.newB ⟨cs++news,st,U⟩ G=Δ (b,G1,ft1)->
    RepList μ F w cs olds->olds.length=n*i.size->n+m<=maxLen->AU cs=U->
    Post μ F w H (.sl b 0 (n+m) i.size) G1 (.slice (Δ ⟨w.heap.size,0,Θ⟩) (n+m) (grownCap w (n+m) c et)) (w.drew.alloc (.cells (olds.toArray++us.toArray++Builtin.zeroCells z.cells (grownCap w (n+m) c et-(n+m))) et)):=by
   intro G st n c olds cs b G1 ft1 hG hfG hGn hnew hcs hol h63 hpc;have hcap:=grownCap_ge w (n+m) c et;have hcapm:=grownCap_le_maxLen w (n+m) c et h63;obtain⟨hsize,htake⟩:=Se (z:=z.cells) (cap:=grownCap w (n+m) c et) hol hnews.size hzs hcap;obtain⟨d1,d2,d3⟩:=hG.drew;generalize (olds.toArray++us.toArray++Builtin.zeroCells z.cells (grownCap w (n+m) c et-(n+m)))=arr at *;have hlen:(cs++news).length=(n+m)*i.size:=by rw[γ,←hcs.length,hol,hnl,At2]
   have hle:(n+m)*i.size<=arr.size:=by rw[hsize];exact Aub _ hcap
   obtain⟨hb,hr⟩:=Em hnew;simp only[Prod.mk.injEq]at hr;obtain⟨rfl,rfl,rfl⟩:=hr;have hfr:=hfG _ (η _) hb;obtain⟨q1,q2⟩:=SB d1 hfr (cs++news) arr et (0,0) U (.inr rfl) (by rw[hlen];exact hle) (by
    rw[hlen,htake];exact(RepList.append hcs hul).later' d2) (λ_=>by rw[BH]at hpc hpn ⊢;simp[hpc,hpn])
   have hws:w.drew.heap.size=w.heap.size:=rfl;rw[hws]at q1 q2;have hWS:WStep F w (w.drew.alloc (.cells arr et)):=WStep.trans (λ_ _ h=>h) d3 (WStep.alloc _ _ _);have hLt:=d2.trans q2
   cases st with
   |true=>
    refine⟨_,F,?_,?_,hLt,hWS,λc hc=>MM (by have hc':c<H.next\/G.next+1<=c:=hc;omega)⟩
    .simp only[Rep]
     exact⟨_,by unfold Mu.set;rw[Ac rfl],.inr ⟨0,_,rfl,λ_=>rfl,hcap,hcapm,by simp only;omega⟩⟩
    .rw[Gn]
     exact q1
   |false=>
    obtain⟨k1,k2⟩:=Pu q1 (b:=G.next) (by rw[Ac rfl]) (by unfold Mu.set;rw[Ac rfl]);refine⟨_,_,?_,?_,hLt.trans k2,hWS,λc hc=>MM (by have hc':c<H.next\/G.next+1<=c:=hc;omega)⟩
    .simp only[Rep]
     exact⟨_,by unfold Mu.set;rw[Ac rfl],.inr ⟨0,_,rfl,λ_=>rfl,hcap,hcapm,by simp only;omega⟩⟩
    .rw[Gn]
     refine k1.less λc k hk=>?_
     by_cases e:c=G.next
     .rw[Ac e]at hk ⊢
      exact hk
     .rw[Ad e]at hk ⊢
      rw[Ad e];exact hk
  cases s with
  |v z'=>
   simp only at h;rcases BB h with⟨⟨c0,c1,c2⟩,hh⟩|⟨_,hh⟩
   rotate_left
   .exact(Al hh).elim
   have hz':=Ib c0;subst hz';obtain⟨b,H2,g1,g2,h6,h7⟩:=bind_some hh;obtain⟨rfl,rfl⟩:=Ap h7;simp only[Rep]at hs;obtain⟨rfl,_⟩:=hs;have hrun:=hnews.grows Θ 0 0 [] (λW _=>by simp[Builtin.firstCells]) (by omega) (by omega) (by simpa using c1);refine⟨_,_,hrun,?_⟩;have:=grown H U 0 0 [] [] b H' g1 hH hf rfl (by simpa using h6) (by simp only[RepList]) (by simp) (by omega) rfl;simpa only[Nat.zero_add]using this
  |sl b o n e=>
   simp only at h;rcases BB h with⟨⟨he,c1,c2⟩,h⟩|⟨_,h⟩
   rotate_left
   .exact(Al h).elim
   subst he;obtain⟨k,H2,g1,g2,h6,hh⟩:=bind_some h;clear h;obtain⟨hk,hHH⟩:=BP h6;subst hHH;rcases BB hh with⟨⟨hex,hol,hfull⟩,hh2⟩|⟨_,hh2⟩
   rotate_left
   .exact(Al hh2).elim
   obtain⟨_,H3,g3,g4,h7,h8⟩:=bind_some hh2;obtain⟨b',H4,g5,g6,h9,h10⟩:=bind_some h8;obtain⟨rfl,hHH⟩:=Ap h10;subst hHH;have hH3:H3.next=H2.next/\H3.top=H2.top/\∀ c,H3.get c=if c=b then(if k.st=U then Θ else Δ { k with ex:=Ξ }) else H2.get c:=by
    rcases BB h7 with⟨hst,h7⟩|⟨hst,h7⟩
    .have:=Pd h7
     subst this;exact⟨rfl,rfl,λc=>by rw[AH.get_del,Ac hst]⟩
    .have:=FY h7
     subst this;exact⟨rfl,rfl,λc=>by rw[AH.get_put,Ad hst]⟩
   obtain⟨n1,n2,n3⟩:=hH3;simp only[Rep]at hs;obtain⟨p,hp,hvv⟩:=hs;obtain⟨p',hp',hB⟩:=hH.blk b k hk;rw[hp]at hp'
   cases hp'
   obtain⟨hb9,hr9⟩:=Em h9;simp only[Prod.mk.injEq]at hr9;obtain⟨hb',hH4,_⟩:=hr9;have hfr:μ b'=Θ:=hf b' (by rw[hb',n1];exact η _) (by
    have:H3.below b':=by rw[hb'];exact hb9
    unfold AH.below at this ⊢
    rwa [n2]at this)
   have hbb:b≠b':=by rintro rfl;rw[hp]at hfr;cases hfr
   have hlen0:((k.cells.take (o+n*i.size)).drop o).length=n*i.size:=by
    rw[Avh,AtN];omega
   have hpk:AU ((k.cells.take (o+n*i.size)).drop o)=U:=by
    have:=hB.pure hex;rw[BH,Atr]at this ⊢;exact λx hx=>this x (AuB (At6 hx))
   have hweak:HRep μ F w H3.get:=hH.weaken λd k' hk'=>by
    rw[n3]at hk'
    by_cases e1:d=b
    .subst e1
     rw[Ac rfl]at hk';split at hk'
     .cases hk'
     .simp only[θ]at hk'
      subst hk';exact⟨k,hk,rfl,rfl,λh=>by cases h⟩
    .rw[Ad e1]at hk'
     exact⟨k',hk',rfl,rfl,id⟩
   have hfr3:BR μ H3:=λd hd hbl=>hf d (by rw[←n1];exact hd) (by
    unfold AH.below at hbl ⊢
    rwa [n2]at hbl)
   rcases hvv with⟨hn0,rfl⟩|⟨q,c,rfl,hq,hnc,hcm,hroom⟩
   .subst hn0
    have hnil:((k.cells.take (o+0*i.size)).drop o)=[]:=AtJ (by rw[hlen0];simp);have hrun:=hnews.grows Θ 0 0 [] (λW _=>by simp[Builtin.firstCells]) (by omega) c2 c1;exact⟨_,_,hrun,grown H3 k.st 0 0 [] ((k.cells.take (o+0*i.size)).drop o) b' H' g5 hweak hfr3 n1 h9 (by rw[hnil];simp only[RepList]) (by simp) c2 hpk⟩
   by_cases hfit:n+m<=c
   .have hcl:n*i.size+m*i.size<=c*i.size:=by rw[←At2];exact Aub _ hfit
    obtain⟨q1,q2⟩:=XF hH hk hp hfr hex o (o+n*i.size) (by omega) hol hfull;obtain⟨F',s1,s2,s3⟩:=XE q1 (b:=b') (k:=⟨(k.cells.take (o+n*i.size)).drop o,k.st,U⟩) (p:=⟨p.g,p.o+o,p.room-o⟩) (by rw[Ac rfl]) (by unfold Mu.set;rw[Ac rfl]) rfl news us
     (by simp only[hlen0,hnl];omega) (hul.later' q2) hpn
    simp only[hlen0]at s1 s2 s3;have hqq:q=p.o+o:=hq (by omega);have hul2:us.length=m*i.size:=hnews.size;have hstore:=run_storeCells_cells (P:=P) p.g (p.o+o+n*i.size) us 0 w (λj hj=>by
      obtain⟨⟨y,hy⟩,_⟩:=hB.there (o+n*i.size+j) (by omega);rw[←AtM,←AtM]at hy;rw[At3,hy];rfl) (λj hj=>by
      have:=(hB.there (o+n*i.size+j) (by omega)).2;rw[←AtM,←AtM]at this;rw[At3];exact this) hoc
    have hrun:=hnews.fits (Δ ⟨p.g,q,Θ⟩) n c (w.setCells p.g (p.o+o+n*i.size) us) hfit (by
     have:m*i.bytes<=(n+m)*i.bytes:=Aub _ (by omega);omega) (λa ha=>by
     cases ha
     rw[hqq,Addr.add_mid];rw[At3]at hstore;exact hstore) (λh=>by cases h)
    refine⟨_,_,hrun,μ.set b' ⟨p.g,p.o+o,p.room-o⟩,F',?_,?_,q2.trans s2,s3,λd hd=>MM ?_⟩
    .simp only[Rep]
     exact⟨⟨p.g,p.o+o,p.room-o⟩,by unfold Mu.set;rw[Ac rfl],.inr ⟨q,c,rfl,λ_=>hqq,hfit,hcm,by simp only;omega⟩⟩
    .refine s1.less λd k' hk'=>?_
     rw[hH4,←hb',Ei,n3]at hk'
     by_cases e1:d=b'
     .rw[Ac e1]at hk' ⊢
      exact hk'
     .rw[Ad e1]at hk' ⊢
      rw[Ad e1];exact hk'
    .rw[hb',n1]
     have hd':d<H2.next\/H3.next+1<=d:=by rw[hH4]at hd;exact hd
     omega
   .-- the row moves
    have holds:∃ olds,RepList μ F w ((k.cells.take (o+n*i.size)).drop o) olds/\olds.length=n*i.size/\∀ W:World,W.heap=w.heap->(Builtin.firstCells i.size n (.slice (Δ ⟨p.g,q,Θ⟩) n c)).run P W=.ok olds.toArray W:=by
     by_cases hn0:n=0
     .subst hn0
      refine⟨[],?_,by simp,λW _=>by simp[Builtin.firstCells,loadCells,loadCellsFrom]⟩;have:((k.cells.take (o+0*i.size)).drop o)=[]:=AtJ (by rw[hlen0];simp);rw[this];simp only[RepList]
     .obtain⟨us',hl,hcell⟩:=Dl (μ:=μ) (F:=F) (w:=w) (g:=p.g) (o:=p.o+o) (cs:=(k.cells.take (o+n*i.size)).drop o) λj x hx=>by
       simp only[Aud,AtC]at hx;split at hx
       .obtain⟨u,a1,a2⟩:=hB.cell (o+j) x hx
        exact⟨u,by rwa [AtM],a2⟩
       .cases hx
      have hul':us'.length=n*i.size:=by rw[hl.length,hlen0]
      refine⟨us',hl,hul',λW hW=>?_⟩;rw[hq (by omega)];have:=(JR (P:=P) (w:=w) (g:=p.g) (q:=p.o+o) (e:=i.size) (n:=n) (c:=c) hul' hcell).cells n W (η _) hW
      rwa [←hul',Aur]at this
    obtain⟨olds,o1,o2,o3⟩:=holds;have hrun:=hnews.grows (Δ ⟨p.g,q,Θ⟩) n c olds o3 (by omega) c2 c1;refine⟨_,_,hrun,?_⟩;refine grown H3 k.st n c olds ((k.cells.take (o+n*i.size)).drop o) b' H' g5 ?_ ?_ n1 h9 o1 o2 c2 (by
     have:=hB.pure hex;rw[BH,Atr]at this ⊢;exact λx hx=>this x (AuB (At6 hx)))
    .refine hH.weaken λd k' hk'=>?_
     rw[n3]at hk'
     by_cases e1:d=b
     .subst e1
      rw[Ac rfl]at hk';split at hk'
      .cases hk'
      .simp only[θ]at hk'
       subst hk';exact⟨k,hk,rfl,rfl,λh=>by cases h⟩
     .rw[Ad e1]at hk'
      exact⟨k',hk',rfl,rfl,id⟩
    .intro d hd hbl
     refine hf d (by rw[←n1];exact hd) ?_;unfold AH.below at hbl ⊢
     rwa [n2]at hbl
  |_=>exact(Al h).elim
def Gc(P:Program)(Γ:FuncId->Aa->AM AV):Prop:=∀(f:FuncId) (args:Aa) (μ:Mu) (F:AP) (w:World) (H:AH) (GZ:Array Value),RepList μ F w args GZ.toList->HRep μ F w H.get->H.wf->BR μ H->
 ∀ r H' ft,Γ f args H=Δ (r,H',ft)->Calls P f GZ w λe w'=>∃ u,e=.returned u/\Post μ F w H r H' u w'
def OpS(P:Program)(o:Oper)(a:Act)(m:AM AV)(μ:Mu)(F:AP)(w:World)(H:AH):Prop:=∀ r H' ft,m H=Δ (r,H',ft)->∀(next:Act->World->Prop) (Q:Exit->Act->World->Prop),
 (∀ u w',Post μ F w H r H' u w'->next (a.put o.dst u) w')->o.wp P a w next Q
theorem OpS.of_run{P:Program}{o:Oper}{a:Act}{m:AM AV}{μ:Mu}{F:AP}{w:World}{H:AH}(h:OI P (execOp a.eval o) m μ F w H):OpS P o a m μ F w H:=λr H' ft hm next Q hn=>by
 obtain⟨n,u,w',h1,h2,h3⟩:=h r H' ft hm;unfold Oper.wp;rw[h1];rcases h2 with rfl|⟨rfl,rfl⟩
 .grind [Oper.upon_value]
 .grind [Oper.upon_skip]
theorem M4{μ:Mu}{F:AP}{w:World}:∀{cs:Aa} {l:List UInt8} {us:AA},bytesOf cs=Δ l->RepList μ F w cs us->us=l.map λb=>.int .u8 b.toNat
 |[],l,us,h,hr=>by
  simp only[bytesOf,θ]at h;simp only[RepList]at hr;subst h hr;rfl
 |x::r,l,us,h,hr=>by
  simp only[bytesOf]at h;simp only[RepList]at hr;obtain⟨u,t,rfl,h1,h2⟩:=hr;rcases e1:Qk x with _|c<;>rw[e1]at h
  .cases h
  rcases e2:bytesOf r with _|l'<;>rw[e2]at h
  .cases h
  simp only[θ]at h;subst h;rw[M4 e2 h2,List.map_cons]
  congr 1
  unfold Qk at e1;split at e1
  .grind [Rep]
  .cases e1
theorem IC{P:Program}{t:TypeId}(h:Du P t=U):∃ e,P.underlying t=Δ (.slice e)/\P.underlying e=Δ (.int .u8):=by
 grind [Cf,Du]
theorem Hj{P:Program}{t:TypeId}(h:BU P t=U):P.underlying t=Δ .string:=by
 grind [BU]
theorem UP{μ:Mu}{F:AP}{w:World}{x:AV}{v:Value}(hx:Rep μ F w x v)(h:OS x=U):∃ A n c,v=.slice A n c/\(A=Θ->n=0\/∃ xs,x=.ls xs):=by
 unfold OS at h;split at h
 .simp only[Rep]at hx
  obtain⟨p,hp,⟨hn,rfl⟩|⟨q,c,rfl,_⟩⟩:=hx
  .grind
  exact⟨_,_,_,rfl,λh=>by cases h⟩
 .simp only[Rep]at hx
  obtain⟨_,A,c,rfl,_⟩:=hx;exact⟨_,_,_,rfl,λ_=>.inr ⟨_,rfl⟩⟩
 .simp only[Rep]at hx
  obtain⟨rfl,_⟩:=hx;exact⟨_,_,_,rfl,λ_=>.inl rfl⟩
 .cases h
theorem OQ{P:Program}{μ:Mu}{F:AP}{w:World}{H:AH}{s d:TypeId}{x:AV}{v:Value}(hs:Du P s=U)(hd:BU P d=U)(hsl:OS x=U)(hx:Rep μ F w x v)(hH:HRep μ F w H.get) :
  ValS P (convert s d v) ((newsA 1 x).bind λr=>AM.opt ((bytesOf r.2).map λl=>.v (.string ⟨l.toArray⟩))) μ F w H:=λr H' ft h=>by
 obtain⟨⟨n,cs⟩,H1,f1,f2,h1,h2⟩:=bind_some h;obtain⟨e1,_,us,hul,hnews⟩:=Hp hx hH h1;obtain⟨h3,e2⟩:=Dv h2;rw[e2,e1];rcases hb:bytesOf cs with _|l<;>simp only[hb,Option.map_none,Option.map_some]at h3
 .cases h3
 simp only[θ]at h3;have hus:=M4 hb hul;obtain⟨e,hue,hu8⟩:=IC hs;obtain⟨A,n',c,rfl,hA⟩:=UP hx hsl;have hlen:=hnews.len;simp only[Builtin.lenOf,Sem.run_pure,Result.ok.injEq,and_true]at hlen;have hll:l.length=n':=by
  have:=hnews.size;rw[hus,Atm]at this;omega
 refine⟨.string ⟨l.toArray⟩,w,?_,?_⟩
 .rw[←hll,run_convert_bytes_string w s d e A l.length c hue hu8 (Hj hd)]
  cases A with
  |some a=>
   have hc:=hnews.cells n w (η _) rfl;rw[←hnews.size,Aur,hus]at hc;simp only[Builtin.firstCells,Avr,←hlen,←hll]at hc;have hm:l.map (λb=>Value.int .u8 (b.toNat:Int))=(l.map (λb=>(b.toNat:Int))).map (Value.int .u8):=by rw[AuQ];rfl
   rw[hm]at hc;rw[run_bytesToString w a l.length c _ hc,foldl_push_byteCells];simp
  |none=>
   have hl0:l=[]:=by
    have hc:=hnews.cells n w (η _) rfl;rw[←hnews.size,Aur,hus]at hc;simp only[Builtin.firstCells,Sem.run_pure,Result.ok.injEq,and_true]at hc;have:=congrArg Array.size hc;simp at this;exact AtJ this.symm
   subst hl0;simp[Conv.bytesToString];rfl
 .rw[←h3]
  exact DJ (by simp only[Rep];exact⟨trivial,rfl⟩) hH
theorem Q8{P:Program}{μ:Mu}{F:AP}{w:World}{H:AH}{s d:TypeId}{str:ByteArray}(hs:BU P s=U)(hd:Du P d=U)(hsz:str.size<=maxLen)(hH:HRep μ F w H.get)(hf:BR μ H) :
  ValS P (convert s d (.string str)) ((AM.newB ⟨str.data.toList.map IN,U,U⟩).bind λb=>AM.ret (.sl b 0 str.size 1)) μ F w H:=λr H' ft h=>by
 obtain⟨b,H1,f1,f2,h1,h2⟩:=bind_some h;obtain⟨e1,e2⟩:=Ap h2;subst e1 e2;obtain⟨e,hue,hu8⟩:=IC hd;have hrun:=run_bytes_of_string (P:=P) w s d e str (Hj hs) hue hu8;have hcap:=grownCap_ge w str.size 0 e;have hcapm:=grownCap_le_maxLen w str.size 0 e hsz;obtain⟨d1,d2,d3⟩:=hH.drew;have hsize:(bytesRow str (grownCap w str.size 0 e)).size=grownCap w str.size 0 e:=by
  unfold bytesRow;rw[Avu,Array.size_map,Array.size_replicate];have:str.data.size=str.size:=rfl;omega
 have hpost:=Ht (t:=e) (fr:=((bytesRow str (grownCap w str.size 0 e)).size,(bytesRow str (grownCap w str.size 0 e)).size+1)) (arr:=bytesRow str (grownCap w str.size 0 e))
  (r:=.sl b 0 str.size 1) (u:=.slice (Δ ⟨w.heap.size,0,Θ⟩) str.size (grownCap w str.size 0 e)) d1 hf h1 (.inl (η _)) (by
   rw[hsize,Atm,At1];exact hcap) (by
   have e3:str.data.toList.map IN=(str.data.toList.map (λb=>Value.int .u8 b.toNat)).map .v:=by rw[AuQ];rfl
   have e4:(bytesRow str (grownCap w str.size 0 e)).toList.take (str.data.toList.map IN).length=str.data.toList.map (λb=>Value.int .u8 b.toNat):=by
    simp_all [bytesRow]
   rw[e4,e3];exact Ed _ _ _ _ (Atr.2 λx hx=>by obtain⟨y,_,rfl⟩:=AtH.1 hx;rfl)) (λ_=>LW _) (by
   simp only[Rep];exact⟨_,by unfold Mu.set;rw[Ac rfl],.inr ⟨0,_,rfl,λ_=>rfl,hcap,hcapm,by simp only;omega⟩⟩)
 obtain⟨μ',F',p1,p2,p3,p4,p5⟩:=hpost;exact⟨_,_,hrun,μ',F',p1,p2,d2.trans p3,WStep.trans (λ_ _ h=>h) d3 p4,p5⟩
theorem J9(w:World)(g o:Nat):w.setCells g o []=w:=rfl
theorem RU{P:Program}{μ:Mu}{F:AP}{w:World}{H:AH}{t u ty:TypeId}{s x:AV}{v y:Value}(hs:Rep μ F w s v)(hx:Rep μ F w x y)(hH:HRep μ F w H.get) :
  ValS P (Builtin.copy_ #[t,u] ty #[v,y]) (copyA P [t,u] s x) μ F w H:=λr H' ft h=>by
 unfold copyA at h;simp only at h;rcases h1:Cf P t with _|et<;>rw[h1]at h
 .exact(Al h).elim
 cases s<;>try (exact(Al h).elim)
 case sl b o n e=>
  simp only at h;rcases BB h with⟨hse,ha⟩|⟨_,ha⟩
  rotate_left
  .exact(Al ha).elim
  clear h;obtain⟨⟨m,news⟩,H1,f1,f2,h5,hb⟩:=bind_some ha;clear ha;obtain⟨hHH,hpn,us,hul,hnews⟩:=Hp hx hH h5;rw[hHH]at hb;simp only at hb;rcases BB hb with⟨hone,hc⟩|⟨_,hc⟩
  rotate_left
  .exact(Al hc).elim
  clear hb;obtain⟨k,H2,g1,g2,h6,hd⟩:=bind_some hc;obtain⟨hk,hHH2⟩:=BP h6;rw[hHH2]at hd;rcases BB hd with⟨⟨hst,hlen⟩,hd2⟩|⟨_,hd2⟩
  rotate_left
  .grind [Al]
  obtain⟨_,H3,g3,g4,h7,h8⟩:=bind_some hd2;have hH3:=FY h7;obtain⟨hr,hH4⟩:=Ap h8;subst hr hH4 hH3;simp only[Rep]at hs;obtain⟨p,hp,hvv⟩:=hs;obtain⟨inf,hinf,hsz⟩:=CI hse;obtain⟨p',hp',hB⟩:=hH.blk b k hk;rw[hp]at hp'
  cases hp'
  have hle:At8 m n*e<=m*e:=Aub _ (Awa _ _);have hle2:At8 m n*e<=n*e:=Aub _ (Nat.min_le_right _ _);have hul2:=hul.sub 0 (At8 m n*e);simp only[List.drop_zero]at hul2;have hlt:(us.take (At8 m n*e)).length=At8 m n*e:=by rw[AtN,hnews.size];omega
  have hlt2:(news.take (At8 m n*e)).length=At8 m n*e:=by rw[←hul2.length,hlt]
  obtain⟨q1,q2,q3⟩:=NG hH hk hp hst o (news.take (At8 m n*e)) (us.take (At8 m n*e)) (by rw[hlt2];omega) hul2 (λ_=>by
   rw[BH,Atr]at hpn ⊢;exact λx hx=>hpn x (AuB hx))
  have hoc:∀ y∈us.take (At8 m n*e),y.oneCell'=U:=λy hy=>by
   obtain⟨j,hj,rfl⟩:=AuX hy;have hj2:j<(news.take (At8 m n*e)).length:=by rw[hlt2,←hlt];exact hj
   obtain⟨u,a1,a2⟩:=hul2.get (δ hj2);rw[δ hj]at a1
   cases a1
   exact a2.one (Atr.1 hone _ (Ats hj2))
  have hcells:=hnews.cells (At8 m n) w (Awa _ _) rfl;rcases hvv with⟨hn0,rfl⟩|⟨q,c,rfl,hq,hnc,hcm,hroom⟩
  .have h0:us.take (At8 m n*e)=[]:=AtJ (by rw[hlt,hn0];simp)
   refine⟨.int .i64 (At8 m n),w.setCells p.g (p.o+o) (us.take (At8 m n*e)),?_,μ,F,by simp only[Rep];exact⟨trivial,rfl⟩,?_,q2,q3,λ_ _=>rfl⟩
   .subst hn0
    simp only[Builtin.copy_,AtF,Aty,Atv];simp[run_underlying (Cr h1),sizeOf,typeInfo,hinf,hsz,goInt];rw[hnews.len];simp only[Result.andThen_ok];rw[show m.min 0=0 from Nat.min_zero m]at hcells;rw[hcells];simp only[Result.andThen_ok,h0];rfl
   .rw[Ff]
    exact q1
  have hstore:(storeCells (⟨p.g,q,Θ⟩:Addr) (us.take (At8 m n*e))).run P w=.ok () (w.setCells p.g (p.o+o) (us.take (At8 m n*e))):=by
   by_cases hn0:n=0
   .have h0:us.take (At8 m n*e)=[]:=AtJ (by rw[hlt,hn0];simp)
    rw[h0];rfl
   .rw[hq (by omega)]
    have:=run_storeCells_cells (P:=P) p.g (p.o+o) (us.take (At8 m n*e)) 0 w (λj hj=>by
      obtain⟨⟨y,hy⟩,_⟩:=hB.there (o+j) (by have:=hB.room;omega);rw[←AtM]at hy;rw[At3,hy];rfl) (λj hj=>by
      have:=(hB.there (o+j) (by have:=hB.room;omega)).2;rw[←AtM]at this;rw[At3];exact this) hoc
    rw[At3]at this;exact this
  refine⟨.int .i64 (At8 m n),w.setCells p.g (p.o+o) (us.take (At8 m n*e)),?_,μ,F,by simp only[Rep];exact⟨trivial,rfl⟩,?_,q2,q3,λ_ _=>rfl⟩
  .simp only[Builtin.copy_,AtF,Aty,Atv]
   simp[run_underlying (Cr h1),sizeOf,typeInfo,hinf,hsz,goInt];rw[hnews.len];simp only[Result.andThen_ok];rw[hcells];simp only[Result.andThen_ok];rw[hstore];rfl
  .rw[Ff]
   exact q1
theorem Zb{l:Aa}{n:Nat}(h:l.all AV.one=U)(hl:0<l.length):∀ x∈B5 l n,x.one=U:=by
 intro x hx;unfold B5 at hx;obtain⟨i,_,rfl⟩:=AtH.1 hx;have hi:i % l.length<l.length:=Nat.mod_lt _ hl;rw[δ hi,Option.getD_some];exact Atr.1 h _ (Ats hi)
theorem Qo{P:Program}{μ:Mu}{F:AP}{w:World}{H:AH}{t ty:TypeId}{s:AV}{v:Value}(hs:Rep μ F w s v)(hH:HRep μ F w H.get) :
  ValS P (Builtin.clear_ #[t] ty #[v]) (clearA P [t] s) μ F w H:=λr H' ft h=>by
 unfold clearA at h;simp only at h;rcases h1:Cf P t with _|et<;>rw[h1]at h
 .exact(Al h).elim
 cases s<;>try (exact(Al h).elim)
 case sl b o n e=>
  simp only at h;rcases h5:CJ P et with _|z<;>rw[h5]at h
  .exact(Al h).elim
  simp only at h;rcases BB h with⟨⟨hse,hze,he0,hone⟩,ha⟩|⟨_,ha⟩
  rotate_left
  .exact(Al ha).elim
  clear h;obtain⟨k,H2,g1,g2,h6,hd⟩:=bind_some ha;obtain⟨hk,hHH2⟩:=BP h6;rw[hHH2]at hd;rcases BB hd with⟨⟨hst,hlen⟩,hd2⟩|⟨_,hd2⟩
  rotate_left
  .grind [Al]
  obtain⟨_,H3,g3,g4,h7,h8⟩:=bind_some hd2;have hH3:=FY h7;obtain⟨hr,hH4⟩:=Ap h8;subst hr hH4 hH3;simp only[Rep]at hs;obtain⟨p,hp,hvv⟩:=hs;obtain⟨i',hi',hz,hfl⟩:=DD h5;obtain⟨p',hp',hB⟩:=hH.blk b k hk;rw[hp]at hp'
  cases hp'
  have hzs:=Fu (μ:=μ) (F:=F) (w:=w) z.cells (n*e) hfl;generalize hus:((Au1 (n*e)).map (λi=>z.cells[i % z.cells.size]!)).toList=us at hzs;have hzl:(B5 (z.cells.toList.map AV.v) (n*e)).length=n*e:=by unfold B5;rw[Atm,List.length_range]
  have hlt:us.length=n*e:=by rw[hzs.length,hzl]
  obtain⟨q1,q2,q3⟩:=NG hH hk hp hst o (B5 (z.cells.toList.map AV.v) (n*e)) us (by rw[hzl];omega) hzs (λ_=>Hq _ _);have hoc:∀ y∈us,y.oneCell'=U:=λy hy=>by
   obtain⟨j,hj,rfl⟩:=AuX hy;have hj2:j<(B5 (z.cells.toList.map AV.v) (n*e)).length:=by rw[hzl,←hlt];exact hj
   obtain⟨u,a1,a2⟩:=hzs.get (δ hj2);rw[δ hj]at a1
   cases a1
   exact a2.one (Zb hone (by rw[Atm,At1,hze];exact he0) _ (Ats hj2))
  refine⟨.tuple #[],w.setCells p.g (p.o+o) us,?_,μ,F,by simp only[Rep];exact⟨#[],rfl,rfl⟩,?_,q2,q3,λ_ _=>rfl⟩
  .have hzc:(Builtin.zeroCells z.cells n).toList=us:=by
    grind [Builtin.zeroCells]
   rcases hvv with⟨hn0,rfl⟩|⟨q,c,rfl,hq,hnc,hcm,hroom⟩
   .simp_all [Builtin.clear_,AtJ,Cr,run_underlying,J9]
   .cases n with
    |zero=>
     have h0:us=[]:=AtJ (by rw[hlt];simp);rw[h0,J9];simp[Builtin.clear_,run_underlying (Cr h1)]
    |succ n=>
     have hstore:(storeCells (⟨p.g,q,Θ⟩:Addr) us).run P w=.ok () (w.setCells p.g (p.o+o) us):=by
      rw[hq (by omega)];have:=run_storeCells_cells (P:=P) p.g (p.o+o) us 0 w (λj hj=>by
        obtain⟨⟨y,hy⟩,_⟩:=hB.there (o+j) (by have:=hB.room;omega);rw[←AtM]at hy;rw[At3,hy];rfl) (λj hj=>by
        have:=(hB.there (o+j) (by have:=hB.room;omega)).2;rw[←AtM]at this;rw[At3];exact this) hoc
      rw[At3]at this;exact this
     simp[Builtin.clear_,run_underlying (Cr h1),zeroValue,typeInfo,hi',hz,hzc,hstore]
  .rw[Ff]
   exact q1
section
variable {P:Program} {w:World} {t:TypeId}
theorem Ajg(d:Nat){e:TypeId}(hu:P.underlying t=Δ (.pointer e))(a:Addr):(Op.equalIn (d+1) t (.pointer (Δ a)) (.pointer Θ)).run P w=.ok Ξ w:=by
 simp only[Op.equalIn,Sem.run_bind,run_underlying hu,Result.andThen_ok,Sem.run_pure]
theorem Ajf(d:Nat){e:TypeId}(hu:P.underlying t=Δ (.pointer e))(a:Addr):(Op.equalIn (d+1) t (.pointer Θ) (.pointer (Δ a))).run P w=.ok Ξ w:=by
 simp only[Op.equalIn,Sem.run_bind,run_underlying hu,Result.andThen_ok,Sem.run_pure,Option.isNone]
theorem Aok(d:Nat){e:TypeId}(hu:P.underlying t=Δ (.slice e))(a:Addr)(n c n' c':Nat):(Op.equalIn (d+1) t (.slice (Δ a) n c) (.slice Θ n' c')).run P w=.ok Ξ w:=by
 simp only[Op.equalIn,Sem.run_bind,run_underlying hu,Result.andThen_ok,Sem.run_pure]
theorem Aoj(d:Nat){ps rs:Array TypeId}{vr:Bool}(hu:P.underlying t=Δ (.func ps rs vr))(f:Fn)(x y:Array Value):(Op.equalIn (d+1) t (.func f x y) .nilFunc).run P w=.ok Ξ w:=by
 simp only[Op.equalIn,Sem.run_bind,run_underlying hu,Result.andThen_ok,Sem.run_pure]
end
theorem SZ{P:Program}{μ:Mu}{F:AP}{w:World}{H:AH}{t yt:TypeId}{x y:Operand}{ρ:Operand->AV}{a:Act}{dst:Option Tmp}{ty:TypeId}{pos:String}{after:Array Edge}{guard:Option (Nat × Bool)}{b:BinOp}
  (hx:Rep μ F w (ρ x) (a.eval x)) (hy:Rep μ F w (ρ y) (a.eval y)) (hH:HRep μ F w H.get) (h:Fj P t (ρ x) (ρ y)=U) :
  OI P (execOp a.eval ⟨dst,.binOp b t x y yt,ty,pos,after,guard⟩) (match b with
   |.eql=>AM.ret (.v (.bool Ξ))
   |.neq=>AM.ret (.v (.bool U))
   |_=>AM.fail) μ F w H:=by
 have key:∀ u v,a.eval x=u->a.eval y=v->(Op.equal t u v).run P w=.ok Ξ w->(eqGuard .eql t x y u v).run P w=.ok () w->(eqGuard .neq t x y u v).run P w=.ok () w->
   (binOp .eql t u v=do pure (.bool (←Op.equal t u v)))->(binOp .neq t u v=do pure (.bool (!(←Op.equal t u v))))->
   OI P (execOp a.eval ⟨dst,.binOp b t x y yt,ty,pos,after,guard⟩) (match b with
   |.eql=>AM.ret (.v (.bool Ξ))
   |.neq=>AM.ret (.v (.bool U))
   |_=>AM.fail) μ F w H:=by
  intro u v hu hv he hg1 hg2 hb1 hb2
  cases b<;>try (exact λr H' ft h=>(Al h).elim)
  case eql=>exact C0 (u:=.bool Ξ) (by simp[execOp,hu,hv,hg1,hb1,he]) (by simp only[Rep];exact⟨trivial,rfl⟩) hH
  case neq=>exact C0 (u:=.bool U) (by simp[execOp,hu,hv,hg2,hb2,he]) (by simp only[Rep];exact⟨trivial,rfl⟩) hH
 unfold Fj at h;split at h<;>try (cases h;done)
 .rename_i e1 e2 hu
  rw[e1]at hx;rw[e2]at hy;simp only[Rep]at hx hy;obtain⟨p,hp,hxe⟩:=hx;exact key _ _ hxe hy.1 (Ajg 9999 hu _) (by simp[eqGuard]) (by simp[eqGuard]) rfl rfl
 .rename_i e1 e2 hu
  rw[e1]at hx;rw[e2]at hy;simp only[Rep]at hx hy;obtain⟨_,g,o,hxe,_⟩:=hx;exact key _ _ hxe hy.1 (Ajg 9999 hu _) (by simp[eqGuard]) (by simp[eqGuard]) rfl rfl
 .rename_i e1 e2 hu
  rw[e1]at hx;rw[e2]at hy;simp only[Rep]at hx hy;obtain⟨p,hp,hye⟩:=hy;exact key _ _ hx.1 hye (Ajf 9999 hu _) (by simp[eqGuard]) (by simp[eqGuard]) rfl rfl
 .rename_i e1 e2 hu
  rw[e1]at hx;rw[e2]at hy;simp only[Rep]at hx hy;obtain⟨_,g,o,hye,_⟩:=hy;exact key _ _ hx.1 hye (Ajf 9999 hu _) (by simp[eqGuard]) (by simp[eqGuard]) rfl rfl
 .rename_i e1 e2 hu
  rw[e1]at hx;rw[e2]at hy;simp only[Rep]at hx hy;obtain⟨p,hp,⟨hn0,_⟩|⟨q,c,hxe,_⟩⟩:=hx
  .omega
  exact key _ _ hxe hy.1 (Aok 9999 hu _ _ _ _ _) (by simp[eqGuard]) (by simp[eqGuard]) rfl rfl
 .rename_i e1 e2 hu
  rw[e1]at hx;rw[e2]at hy;simp only[Rep]at hx hy;obtain⟨ua,uc,hxe,_⟩:=hx;exact key _ _ hxe hy.1 (Aoj 9999 hu _ _ _) (by simp[eqGuard]) (by simp[eqGuard]) rfl rfl
