/- What an argument reads a -/
import Derived.Test.YtlmhajfbpplpoaaGreatMAB
set_option linter.all false
open Bool renaming true->U,and_eq_true->AvF
open List renaming all_eq_true->AvJ,contains_iff_mem->Awy,getElem?_eq_getElem->Ω,getElem?_map->AwC,getElem_of_mem->AwT,mem_append->Awg,mem_cons->AvK
open Option renaming some->V
namespace Go.Proofs.YtlmhajfbpplpoaaGreat
open Go.ChangeShapes Go.WideShapes Go.ChangeAt Go.RowKit
mutual
def D.Fits(P:Program):D->TypeId->Prop
 |.int _ _,_=>True
 |.bool _,_=>True
 |.str s,_=>s.size<=reachBytes
 |.slice _ xs,t=>∃ u,P.underlying t=V (.slice u)/\xs.length*P.bytesOf u<=reachBytes/\D.FitsAll P xs u
 |.agg xs,t=>∃ fs,P.underlying t=V (.struct fs)/\D.FitsFields P xs fs.toList
def D.FitsAll(P:Program):List D->TypeId->Prop
 |[],_=>True
 |x::r,u=>D.Fits P x u/\D.FitsAll P r u
def D.FitsFields(P:Program):List D->List Field->Prop
 |[],fs=>fs=[]
 |x::r,fs=>∃ f gs,fs=f::gs/\D.Fits P x f.type/\D.FitsFields P r gs
end
theorem D.fitsAll_of{P:Program}{u:TypeId}:∀(xs:List D),(∀ x∈xs,D.Fits P x u)->D.FitsAll P xs u
 |[],_=>by simp only[D.FitsAll]
 |x::r,h=>by
  simp only[D.FitsAll];exact⟨h x (by simp),D.fitsAll_of r λy hy=>h y (by simp[hy])⟩
theorem D.FitsAll.mem{P:Program}{u:TypeId}:∀{xs:List D},D.FitsAll P xs u->∀ y∈xs,D.Fits P y u
 |[],_,y,hy=>by simp at hy
 |z::r,h,y,hy=>by
  simp only[D.FitsAll]at h;rcases AvK.1 hy with rfl|hy
  .exact h.1
  .exact D.FitsAll.mem h.2 y hy
theorem D.Fits.slice_{P:Program}{t u:TypeId}{e:Nat}{xs:List D}(h:D.Fits P (.slice e xs) t)(ht:P.underlying t=V (.slice u)):xs.length*P.bytesOf u<=reachBytes/\∀ y∈xs,D.Fits P y u:=by
 simp only[D.Fits]at h;obtain⟨v,h1,h2,h3⟩:=h;rw[ht]at h1;simp at h1;subst h1;exact⟨h2,h3.mem⟩
theorem D.Fits.struct_{P:Program}{t:TypeId}{fs:Array Field}{xs:List D}(h:D.Fits P (.agg xs) t)(ht:P.underlying t=V (.struct fs)):D.FitsFields P xs fs.toList:=by
 grind [D.Fits]
theorem D.FitsFields.cons_{P:Program}{x:D}{xs:List D}{f:Field}{fs:List Field}(h:D.FitsFields P (x::xs) (f::fs)):D.Fits P x f.type/\D.FitsFields P xs fs:=by
 simp only[D.FitsFields]at h;obtain⟨g,gs,hg,h1,h2⟩:=h;simp only[List.cons.injEq]at hg;obtain⟨rfl,rfl⟩:=hg;exact⟨h1,h2⟩
section
variable {H:Type} {enc:TypeId × Value->H} {P:Program} {w:World}
theorem N2{e:TypeId}:∀(ds:List (DataW H)) (d:DataW H),d∈ds->∀ k∈d.weights P e,k∈DataW.weightsAll P e ds
 |d0::r,d,hd,k,hk=>by
  simp only[DataW.weightsAll,Awg];rcases AvK.1 hd with rfl|hd
  .exact .inl hk
  .exact .inr (N2 r d hd k hk)
theorem O8{L:List TypeId}{n:Nat}
  (ih:∀ t cs x,t∈L->DataW.trod enc P w 0 (λ_=>U) U n t cs=V x->(∀ k∈x.1.weights P t,k<=reachBytes)->∃ d:D,D.Is w (Lt w.heap.size) d cs/\D.Typed P d t/\D.Fits P d t) :
  ∀(fs:List Field) (o m:Nat) (cs:List Value) (X:Nat->Option (DataW H × List MemPlace)),GZ P fs o m=U->(fs.all λf=>L.contains f.type)=U->cs.length=m->
   (∀ i f,fs[i]? = V f->DataW.trod enc P w 0 (λ_=>U) U n f.type ((cs.drop f.offset).take (P.cellsOf f.type))=X i)->(∀ i,i<fs.length->∃ y,X i=V y)->(∀ i f y,fs[i]? = V f->X i=V y->∀ k∈y.1.weights P f.type,k<=reachBytes)->
   ∃ ds:List D,D.Cat w (Lt w.heap.size) ds (cs.drop o)/\D.TypedFields P ds fs/\D.FitsFields P ds fs
 |[],o,m,cs,X,hf,_,hl,_,_,_=>by
  refine⟨[],?_,by simp only[D.TypedFields],by simp only[D.FitsFields]⟩;simp only[GZ,beq_iff_eq]at hf;simp only[D.Cat];exact List.drop_eq_nil_iff.2 (by omega)
 |f::r,o,m,cs,X,hf,hL,hl,hX,hY,hZ=>by
  simp only[GZ,AvF,beq_iff_eq]at hf;simp only[List.all_cons,AvF,Awy]at hL;obtain⟨ds,h1,h2,h2'⟩:=O8 ih r (o+P.cellsOf f.type) m cs (λi=>X (i+1)) hf.2 hL.2 hl (λi g hg=>hX (i+1) g (by simpa using hg)) (λi hi=>hY (i+1) (by simpa using hi)) (λi g y hg hy=>hZ (i+1) g y (by simpa using hg) hy);obtain⟨y,hy⟩:=hY 0 (by simp);obtain⟨d,h3,h4,h4'⟩:=ih f.type _ y hL.1 ((hX 0 f (by simp)).trans hy) (hZ 0 f y (by simp) hy);refine⟨d::ds,?_,?_,?_⟩
  .grind [D.Cat,List.drop_drop,List.take_append_drop]
  .simp only[D.TypedFields]
   exact⟨f,r,rfl,h4,h2⟩
  .simp only[D.FitsFields]
   exact⟨f,r,rfl,h4',h2'⟩
theorem Ahg{L:List TypeId}(hL:L.all (PP P L)=U):∀(fuel:Nat) (t:TypeId) (cs:List Value) (x:DataW H × List MemPlace),t∈L->DataW.trod enc P w 0 (λ_=>U) U fuel t cs=V x->(∀ k∈x.1.weights P t,k<=reachBytes)->
  ∃ d:D,D.Is w (Lt w.heap.size) d cs/\D.Typed P d t/\D.Fits P d t:=by
 intro fuel
 induction fuel with
 |zero=>intro t cs x _ h;simp[DataW.trod]at h
 |succ n ih=>
  intro t cs x ht h hz;have hk:=AvJ.1 hL t ht;unfold PP at hk;split at hk
  .rename_i hu
   obtain⟨b,rfl,_⟩:=DataW.trod_bool hu h;exact⟨.bool b,by simp only[D.Is],by simpa only[D.Typed]using hu,by simp only[D.Fits]⟩
  .rename_i k hu
   obtain⟨m,rfl,_,hw⟩:=DataW.trod_int hu h;exact⟨.int k m,by simp only[D.Is],by simp only[D.Typed];exact⟨hu,hw⟩,by simp only[D.Fits]⟩
  .rename_i hu
   obtain⟨s,rfl,hxs,hs⟩:=DataW.trod_string hu h;exact⟨.str s,by simp only[D.Is];exact⟨trivial,hs⟩,by simpa only[D.Typed]using hu,by
    simp only[D.Fits];refine hz s.size ?_;rw[hxs];simp[DataW.weights]⟩
  .rename_i e hu
   simp only[AvF,Awy,decide_eq_true_eq]at hk;obtain⟨⟨_,hin⟩,hpos⟩:=hk;rcases DataW.trod_slice hu h with⟨rfl,_⟩|⟨a,len,cap,elems,rest,m,hm,rfl,hxe,hb,hlc,hcm,hel,hx,_,_⟩
   .exact⟨.slice (P.cellsOf e) [],by simp only[D.Is];exact⟨none,0,rfl,Nat.le_refl _,by decide,λh=>absurd rfl h⟩,by simp only[D.Typed];exact⟨e,hu,rfl,by simp only[D.TypedAll]⟩,by simp only[D.Fits];exact⟨e,hu,by simp,by simp only[D.FitsAll]⟩⟩
   .obtain rfl:n=m:=by omega
    have hwt:∀ k∈DataW.weights P t (.slice (elems.map (·.1)) (rest.map (·.1))),k<=reachBytes:=by rw[hxe]at hz;exact hz
    have hw0:len*P.bytesOf e<=reachBytes:=by
     have:=hwt ((elems.length+rest.length)*P.bytesOf e) (by simp[DataW.weights,hu]);rw[hel]at this;exact Nat.le_trans (Nat.mul_le_mul_right _ (Nat.le_add_right _ _)) this
    have hwe:∀ y∈elems,∀ k∈y.1.weights P e,k<=reachBytes:=λy hy k hk=>hwt k (by
     simp only[DataW.weights,hu,AvK,Awg];exact .inr (.inl (N2 _ _ (List.mem_map.2 ⟨y,hy,rfl⟩) k hk)))
    have hel':∀ i,i<len->∃ d:D,∃ cs',cs'.length=P.cellsOf e/\(∀ j,j<P.cellsOf e->w.cell? ((a.add (i*P.cellsOf e)).add j)=cs'[j]?)/\D.Is w (Lt w.heap.size) d cs'/\D.Typed P d e/\D.Fits P d e:=by
     grind [List.getElem_mem,Option.bind_eq_some_iff,AaN]
    obtain⟨ds,hdl,hds⟩:=Ur hel';refine⟨.slice (P.cellsOf e) ds,?_,?_,?_⟩
    .refine D.Is.slice_mk hdl.symm hlc hcm λhn=>?_
     have h0:=hds 0 (by omega);obtain⟨cs',hl',hc',_⟩:=h0;have hc0:=hc' 0 hpos;rw[Ω (by omega)]at hc0;simp only[Nat.zero_mul,show ∀ x:Addr,x.add 0=x from λx=>by simp[Addr.add]]at hc0;obtain⟨hs,hlt⟩:=Ack hc0;obtain⟨ab,ao,sp⟩:=a;obtain rfl:sp=none:=hs;refine⟨ab,ao,rfl,hlt,λi hi=>?_⟩;obtain⟨cs,h1,h2,h3,_⟩:=hds i hi;refine⟨cs,h1,λj u hj=>?_,h3⟩;have hjl:j<cs.length:=(List.getElem?_eq_some_iff.1 hj).1;have:=h2 j (by omega);rw[FH,FH,hj]at this;exact this
    .simp only[D.Typed]
     refine⟨e,hu,rfl,D.typedAll_of ds λy hy=>?_⟩;obtain⟨i,hi,rfl⟩:=AwT hy;obtain⟨_,_,_,_,h4,_⟩:=hds i hi;exact h4
    .simp only[D.Fits]
     refine⟨e,hu,by rw[hdl];exact hw0,D.fitsAll_of ds λy hy=>?_⟩;obtain⟨i,hi,rfl⟩:=AwT hy;obtain⟨_,_,_,_,_,h4⟩:=hds i hi;exact h4
  .rename_i fs hu
   simp only[AvF]at hk;obtain⟨xs,m,hm,hxe,hlen,hxl,hX⟩:=DataW.trod_struct hu h;obtain rfl:n=m:=by omega
   obtain⟨ds,h1,h2,h3⟩:=O8 (L:=L) (λt cs x=>ih t cs x) fs.toList 0 (P.cellsOf t) cs (λi=>xs[i]?) hk.1 hk.2 hlen (λi f hf=>hX i f (by simpa using hf))
    (λi hi=>⟨xs[i]'(by simp at hi;omega),Ω (by simp at hi;omega)⟩) (λi f y hf hy k hk=>hz k (by
     rw[hxe];simp only[DataW.weights,hu];exact DataW.weights_mem_each (j:=i) (t:=f.type) (d:=y.1) (by rw[AwC,hf];rfl) (by rw[AwC,hy];rfl) k hk))
   exact⟨.agg ds,by simp only[D.Is];simpa using h1,by simp only[D.Typed];exact⟨fs,hu,h2⟩,by simp only[D.Fits];exact⟨fs,hu,h3⟩⟩
  .cases hk
theorem Akd{L:List TypeId}(hL:L.all (PP P L)=U){t:TypeId}(ht:t∈L){v:Value}{b:Nat}(hv:Value.okWide P w .any b t v){x:DataW H}{ps:List MemPlace}
  (h:DataW.Trod enc P w 0 (λ_=>U) U t v x ps) (hz:∀ k∈x.weights P t,k<=reachBytes):∃ d cs,v=D.val d cs/\D.Is w (Lt w.heap.size) d cs/\D.Typed P d t/\D.Fits P d t:=by
 obtain⟨fuel,hf⟩:=h;obtain⟨d,h1,h2,h3⟩:=Ahg hL fuel t _ _ ht hf hz;refine⟨d,v.cells.toList,?_,h1,h2,h3⟩
 cases d with
 |int k n=>
  simp only[D.Typed]at h2;obtain⟨m,rfl⟩:=okWide_int h2.1 hv;rfl
 |bool b=>
  simp only[D.Typed]at h2;obtain⟨m,rfl⟩:=okWide_bool h2 hv;rfl
 |str s=>
  simp only[D.Typed]at h2;obtain⟨m,rfl⟩:=okWide_string h2 hv;rfl
 |slice e xs=>
  simp only[D.Typed]at h2;obtain⟨u,hu,_⟩:=h2;obtain⟨a,l,c,rfl⟩:=okWide_slice hu hv;rfl
 |agg xs=>
  simp only[D.Typed]at h2;obtain⟨u,hu,_⟩:=h2;obtain⟨cs,rfl,_⟩:=okWide_struct hu hv;rfl
def Kj(w:World)(P:Program):List TypeId->List Value->List D->Prop
 |[],[],[]=>True
 |t::ts,v::vs,x::xs=>(∃ cs,v=x.val cs/\D.Is w (Lt w.heap.size) x cs/\D.Typed P x t/\D.Fits P x t)/\Kj w P ts vs xs
 |_,_,_=>False
theorem YO{L:List TypeId}(hL:L.all (PP P L)=U){b:Nat}:∀(ts:List TypeId) (vs:List Value) (ds:List (DataW H)) (ps:List MemPlace),(∀ t∈ts,t∈L)->
  (∀(j:Nat) t v,ts[j]? = V t->vs[j]? = V v->Value.okWide P w .any b t v)->DataW.TrodAll enc P w 0 (λ_=>U) U ts vs ds ps->(∀ k∈DataW.weightsEach P ts ds,k<=reachBytes)->∃ xs,Kj w P ts vs xs
 |[],[],[],_,_,_,_,_=>⟨[],trivial⟩
 |t::ts,v::vs,d::ds,ps,hts,hv,h,hz=>by
  obtain⟨p,q,h1,h2,_⟩:=h;obtain⟨xs,hxs⟩:=YO hL ts vs ds q (λt ht=>hts t (by simp[ht])) (λj t v ht hv'=>hv (j+1) t v (by simpa using ht) (by simpa using hv')) h2 (λk hk=>hz k (by simp only[DataW.weightsEach,Awg];exact .inr hk));obtain⟨x,cs,h3⟩:=Akd hL (hts t (by simp)) (hv 0 t v (by simp) (by simp)) h1 (λk hk=>hz k (by simp only[DataW.weightsEach,Awg];exact .inl hk));exact⟨x::xs,⟨cs,h3⟩,hxs⟩
 |[],[],_::_,_,_,_,h,_=>h.elim
 |[],_::_,[],_,_,_,h,_=>h.elim
 |[],_::_,_::_,_,_,_,h,_=>h.elim
 |_::_,[],[],_,_,_,h,_=>h.elim
 |_::_,[],_::_,_,_,_,h,_=>h.elim
 |_::_,_::_,[],_,_,_,h,_=>h.elim
end
theorem AiB{H:Type}{enc:TypeId × Value->H}{C:Checked}{os:Os}{f:FuncId}{fn:Func}{s:ChangeSpec}(n:Nat)(L:List TypeId)(tb:TypeId)
  (own:ownKnob C.prog.godebug=none) (started:os.Started) (noInit:C.prog.inits.idxOf? f=none) (hfn:C.prog.funcs[f]? = V fn)
  (witness:∃(w:World) (tape:Tape) (i:Input),w.os=os/\(w.forCall tape i).Shaped C.prog/\i.vars=[]/\Input.okWide C.prog (w.forCall tape i) .any w.heap.size f i ∧
   s.pre6 enc C.prog fn [] false (w.forCall tape i).memory i.args/\({}:Assume).holds C.prog (lone (Frame.enter C.prog f i.args .normal) [] (w.forCall tape i)))
  (hL:L.all (PP C.prog L)=U) (hn:fn.params.toList.length=n) (hin:(fn.params.toList.all λt=>L.contains t&&C.prog.readableRec t&&decide (t<C.prog.types.size))=U)
  (laid:laidOutB C.prog=U) (hres:fn.resultTypes=#[tb]) (htb:C.prog.underlying tb=V .bool)
  (hvars:s.vars=[]) (hspec:∀ ds:List (DataW H),ds.length=n->s.fn H ds={ results:=[.lit (.bool U)],args:=ds })
  (contract:∀(W:World) (args:Array Value) (xs:List D),Kj W C.prog fn.params.toList args.toList xs->Calls C.prog f args W λe W'=>e=.returned (.bool U)/\Below W.heap.size W W') :
  ReturnsInHanded {} C os f .any (s.pre6 enc C.prog fn [] false) (s.post enc C.prog fn false U false false):=by
 refine returnsInHanded_of_change_sized own started noInit hfn witness ?_;intro W base args ds gs before hval hW _ hsz _;have hW':=hW;have hvars':s.plain.varTypes C.prog=[]:=by unfold DataSpec.varTypes ChangeSpec.plain;simp[hvars]
 obtain⟨p,q,hA,hV,rfl,hfz,hnd⟩:=hW;rw[hvars]at hV;have hg:gs=[]/\q=[]:=by
  cases gs with
  |nil=>exact⟨rfl,hV⟩
  |cons _ _=>exact hV.elim
 obtain⟨rfl,rfl⟩:=hg;have hlt:∀ x∈p++[],x.block<W.heap.size:=λx hx=>hW'.lt x hx
 have hlen:ds.length=n:=(NZ _ _ _ _ hA).trans hn;have hall:∀ t∈fn.params.toList,t∈L/\C.prog.readableRec t=U/\t<C.prog.types.size:=λt ht=>by
  grind
 obtain⟨xs,hxs⟩:=YO hL fn.params.toList args.toList ds p (λt ht=>(hall t ht).1) (λj t v h1 h2=>hval j t v (by simpa using h1) (by simpa using h2)) hA (λk hk=>by
  have:=AvJ.1 hsz k;rw[hvars']at this;simpa using this (by simpa using hk))
 refine(contract W args xs hxs).mono λe W' ⟨he,hb⟩=>⟨_,he,?_⟩
 have hsp:s.fn H (ds++[])={ results:=[.lit (.bool U)],args:=ds }:=by rw[List.append_nil];exact hspec ds hlen
 refine⟨ds,[],p++[],[],p,[],hW',?_,?_,?_,hb.frame _,λh=>by cases h⟩
 .rw[hsp,hres]
  exact trodAll_mk1 (shut_bool htb U)
 .grind [J9]
 .rw[hvars]
  exact(show DataW.TrodVars enc C.prog W' _ [] (s.fn H (ds++[])).vars [] from by rw[hsp];exact rfl)
