/- Seats of D: contracts fr -/
import Derived.Test.YtlmhajfbpplpoaaGreatPAR
import Derived.Test.YtlmhajfbpplpoaaGreatChecked
set_option linter.all false
open List renaming all_eq_true->Arg
open Nat renaming beq->ArD
namespace Go.Proofs.YtlmhajfbpplpoaaGreat
noncomputable section
open AV renaming agg->Ξ,fn->Arj,ls->V,ptr->δ,tup->φ
open IntKind renaming i64->Δ
open Key renaming fn->Φ,lp->Arh
open Go.RowKit
def Ch:List AV->Option AV
 |[.v (.string s)]=>if s.size<=9223372036854775807 then some (bv (Cq s.data.toList)) else none
 |_=>none
def Ie:List AV->Option AV
 |[.v (.string s)]=>if s.size<=9223372036854775807 then(match Cl s.data.toList with
  |.ok ts=>some (.tup [.ls (ts.map MF),.agg [iv 0,iv 0],iv 0])
  |.err c ln co=>some (.tup [.ls [],.agg [iv (ln:Int),iv (co:Int)],iv (c:Int)])) else none
 |_=>none
def B9(res:List AV->Option AV):DF:=λargs bs=>match bs with
 |[]=>(res args).map λr=>(r,[])
 |_=>none
def BH:List AV->Option AV
 |[.v (.string s)]=>if s.size<=9223372036854775807 then some (bv (DS s.data.toList)) else none
 |_=>none
def B8(P:Program)(ents:Nat):List (Nat × MFn)->Prop
 |[]=>True
 |p::r=>(∃ hs a b,p.2=Ia P ents hs a b p.1)/\Adm P p.1=true/\B8 P ents r
theorem GP{P:Program}{ents:Nat}:∀{L:List (Nat × MFn)},B8 P ents L->∀ f mf,(f,mf)∈L->FnOk P ents f mf
 |p::r,⟨⟨hs,a,b,h1⟩,h2,h3⟩,f,mf,hm=>by
  rcases List.mem_cons.1 hm with rfl|hm
  .have h1:mf=_:=h1
   rw[h1];exact AfO h2
  .exact GP h3 f mf hm
theorem Bh{P:Program}{ents:Nat}:∀{L L':List (Nat × MFn)},B8 P ents L->B8 P ents L'->B8 P ents (L++L')
 |[],_,_,h=>h
 |_::_,_,⟨h1,h2,h3⟩,h=>⟨h1,h2,Bh h3 h⟩
def AbI(P:Program)(ents n:Nat):Bool:=Nat.blt ents (2 ^ n)&&(List.range n).all λg=>!ents.testBit g||GU P g
theorem Lc{P:Program}{ents n:Nat}(h:AbI P ents n=true):In P ents:=by
 unfold AbI at h;rw[Bool.and_eq_true]at h;intro g hg;have hn:ents<2 ^ n:=Nat.blt_eq.mp h.1
 by_cases hgn:g<n
 .have:=Arg.1 h.2 g (List.mem_range.2 hgn)
  rw[hg]at this;simpa using this
 .have:ents<2 ^ g:=Nat.lt_of_lt_of_le hn (Nat.pow_le_pow_right (by decide) (by omega))
  rw[Nat.testBit_lt_two_pow this]at hg
  cases hg
theorem OI{α:Type}{f:Nat}:∀{A B:List (Nat × α)},CW f (A++B)=match CW f A with
  |some a=>some a
  |none=>CW f B
 |[],_=>rfl
 |(m,b)::r,B=>by
  have ih:=OI (f:=f) (A:=r) (B:=B)
  show (match ArD f m with
   |true=>some b
   |false=>CW f (r++B))=match (match ArD f m with
   |true=>some b
   |false=>CW f r) with
   |some a=>some a
   |none=>CW f B
  cases ArD f m with
  |true=>rfl
  |false=>exact ih
def Ako(A B:List (Nat × MFn)):Bool:=B.all λp=>(CW p.1 A).isNone
theorem Ac{A B:List (Nat × MFn)}(h:Ako A B=true){f:Nat}{mf:MFn}(hf:CW f B=some mf):CW f (A++B)=some mf:=by
 have:=Arg.1 h _ (CX hf);have h0:CW f A=none:=Option.isNone_iff_eq_none.1 this;rw[OI,h0];exact hf
theorem Bm{A B:List (Nat × MFn)}{f:Nat}{mf:MFn}(hf:CW f A=some mf):CW f (A++B)=some mf:=by
 rw[OI,hf]
theorem Jw{S:NH}(hm:Oe S)(res:List AV->Option AV)
  (h:∀ args r,res args=some r->∀(μ:Mu) (F:Az) (w:World) (us:List Value),RepList μ F w args us->S us w λu w'=>Below w.heap.size w w'/\Rep μ (ZG F w w') w' r u):Bx S (B9 res):=Ab2 hm res h
theorem VL{P:Program}{f:Nat}(h:∀(s:ByteArray) w,s.size<=9223372036854775807->Calls P f #[.string s] w λe w'=>e=.returned (.bool (DS s.data.toList))/\Below w.heap.size w w'):Bx (BY P f) (B9 BH):=by
 refine Jw (Db P f) _ λargs r hr μ F w us hus=>?_
 unfold BH at hr;split at hr
 .rename_i s
  split at hr
  .rename_i hs
   injection hr with hr
   subst hr;obtain rfl:=Sq hus;refine Calls.mono (h s w hs) ?_;rintro e w' ⟨rfl,hb⟩;exact⟨_,rfl,hb,WE _⟩
  .cases hr
 .cases hr
theorem AbO{P:Program}{f:Nat}(h:∀(s:ByteArray) w,s.size<=9223372036854775807->Calls P f #[.string s] w λe w'=>e=.returned (.bool (Cq s.data.toList))/\Below w.heap.size w w'):Bx (BY P f) (B9 Ch):=by
 refine Jw (Db P f) _ λargs r hr μ F w us hus=>?_
 unfold Ch at hr;split at hr
 .rename_i s
  split at hr
  .rename_i hs
   injection hr with hr
   subst hr;obtain rfl:=Sq hus;refine Calls.mono (h s w hs) ?_;rintro e w' ⟨rfl,hb⟩;exact⟨_,rfl,hb,WE _⟩
  .cases hr
 .cases hr
def Ry(s:ByteArray)(ety:TypeId)(w:World)(e:Ending)(w':World):Prop:=match Cl s.data.toList with
 |.ok ts=>∃ v,e=.returned (.tuple #[v,.agg #[.int .i64 0,.int .i64 0],.int .i64 0])/\w'.ownsRow w.heap.size ety 4 v ts.length ((ts.map tkV).flatten)/\Below w.heap.size w w'
 |.err c ln co=>e=.returned (.tuple #[.slice none 0 0,.agg #[.int .i64 ln,.int .i64 co],.int .i64 c])/\Below w.heap.size w w'
theorem Yf{μ:Mu}{F:Az}{w:World}{a:AV}{u:Value}{p q n:Int}(h:Rep μ F w a u):Rep μ F w (.tup [a,.agg [iv p,iv q],iv n]) (.tuple #[u,.agg #[.int .i64 p,.int .i64 q],.int .i64 n]):=by
 simp only[Rep,RepList];exact⟨_,rfl,_,_,rfl,h,_,_,rfl,⟨_,rfl,_,_,rfl,MY _,_,_,rfl,MY _,rfl⟩,_,_,rfl,MY _,rfl⟩
theorem AfN{P:Program}{f:Nat}(ety:TypeId)(h:∀(s:ByteArray) w,s.size<=9223372036854775807->Calls P f #[.string s] w (Ry s ety w)):Bx (BY P f) (B9 Ie):=by
 refine Jw (Db P f) _ λargs r hr μ F w us hus=>?_
 unfold Ie at hr;split at hr
 .rename_i s
  split at hr
  .rename_i hs
   obtain rfl:=Sq hus;have g:=h s w hs;unfold Ry at g
   cases ha:Cl s.data.toList with
   |ok ts=>
    rw[ha]at hr g;injection hr with hr
    subst hr;refine Calls.mono g ?_;rintro e w' ⟨v,rfl,ho,hb⟩;exact⟨_,rfl,hb,Yf (AgG ho)⟩
   |err c ln co=>
    rw[ha]at hr g;injection hr with hr
    subst hr;refine Calls.mono g ?_;rintro e w' ⟨rfl,hb⟩;refine⟨_,rfl,hb,Yf ?_⟩;unfold Rep;exact⟨rfl,none,0,rfl,Nat.le_refl _,Nat.zero_le _,λh=>absurd rfl h⟩
  .cases hr
 .cases hr
def AL:Nat:=1989262591437705541604795875994989242731836106004175106551764689416051591154717805248508
abbrev Ce(h:Bv)(n:Nat):MFn:=Ia Tryz.prog AL h false false n
def Ag:List (Nat × Nat):=[(263,0),(152,0),(206,0),(242,0),(243,0),(260,0),(273,0),(156,0),(208,0)]
section
open Go.RowKit
def AnS:MFn:=Ce [] 60
def AmF:Hnt:=⟨[(61,(.bool,[]))],[],[(3,[.bool,.str,.str])]⟩
def AnT:MFn:=Ce [] 61
def AmG:Hnt:=⟨[(108,(.bool,[])),(109,(.bool,[]))],[],[(4,[.str]),(8,[.str]),(13,[.str]),(17,[.str]),(23,[.str]),(27,[.str])]⟩
def AmT:Bv:=[⟨19,[true,true,false,false,false,false,false,true,true],[],[],[(0,([false,false,false,false,true],([],[]))),(1,([],([],[])))]⟩]
def XF:MFn:=Ce AmT 107
def Tu:Hnt:=⟨[(60,(.bool,[]))],[(0,[(0,([.int .i64],[])),(1,([],[]))])],[(14,[.bool,.str,.str]),(15,[.bool,.str,.str])]⟩
def AnR:MFn:=Ce [] 59
def AmE:Hnt:=⟨[(107,(.int .i64,[]))],[],[]⟩
def AnE:MFn:=Ce [] 23
def Ams:Hnt:=⟨[(59,(.bool,[]))],[],[]⟩
def AnQ:MFn:=Ce [] 57
def AmD:Hnt:=⟨[],[],[(4,[.str]),(8,[.str]),(12,[.str]),(15,[.str]),(18,[.str]),(20,[.str])]⟩
def AnM:MFn:=Ce [] 45
def AmA:Hnt:=⟨[],[],[(4,[.ls]),(9,[.ls]),(15,[.int .i64]),(20,[.str]),(25,[.str])]⟩
def AnN:MFn:=Ce [] 46
def AmB:Hnt:=⟨[(23,(.bool,[]))],[],[(4,[.int .i64]),(8,[.ls]),(13,[.ls]),(18,[.int .i64]),(23,[.int .i64]),(28,[.str]),(33,[.str]),(38,[.ls])]⟩
def Ai2:MFn:=Ce [] 110
def AhP:Hnt:=⟨[],[],[]⟩
def Ai3:MFn:=Ce [] 111
def AhQ:Hnt:=⟨[],[],[(11,[.int .i64]),(15,[.int .i64]),(21,[.int .i64]),(28,[.int .i64]),(38,[.int .i64])]⟩
def Aqd:Bv:=[⟨59,[false,true,true,false,false,false,false,false,false,false,false,false,false,false,false,false,false,false,false,false,false,false,false,false,false,false,false,false,false,false,false,false,false,false,false,true,true,true],[],[2],[(0,([false,false,false,false,true],([],[2]))),(1,([],([],[2])))]⟩]
def Agj:MFn:=Ce Aqd 62
def Acf:Hnt:=⟨[(45,(.bool,[])),(46,(.bool,[])),(62,(.bool,[])),(110,(.int .i64,[])),(111,(.bool,[]))],[(0,[(0,([.bool],[.del])),(1,([],[.del]))])],[(9,[.int .i64]),(11,[.int .i64,.ls,.ls,.int .i64,.str,.str,.ls]),(14,[.int .i64]),(18,[.int .i64,.ls,.ls,.int .i64,.str,.str,.ls]),(23,[.ls]),(26,[.int .i64]),(35,[.ls]),(40,[.int .i64,.ls,.ls,.int .i64,.str,.str,.ls]),(41,[.int .i64,.ls,.ls,.int .i64,.str,.str,.ls]),(44,[.int .i64]),(46,[.int .i64,.ls,.ls,.int .i64,.str,.str,.ls]),(53,[.int .i64,.ls,.ls,.int .i64,.str,.str,.ls])]⟩
def AnF:MFn:=Ce [] 24
def Amt:Hnt:=⟨[(62,(.bool,[]))],[],[(3,[.int .i64,.ls,.ls,.int .i64,.str,.str,.ls])]⟩
def D9:List (Nat × MFn):=[(60,AnS),(61,AnT),(107,XF),(59,AnR),(23,AnE),(57,AnQ),(45,AnM),(46,AnN),(110,Ai2),(111,Ai3),(62,Agj),(24,AnF)]
variable (A:Ar) (D:Orc)
theorem e60(x0_0:Bool)(x0_1 x0_2:ByteArray):By A D Ag AmF .n 60 AnS [Ξ [bv x0_0,sv x0_1,sv x0_2]] [] =
 Ae D (Φ 61) [Ξ [bv x0_0,sv x0_1,sv x0_2]] [] [.b,.E] λb=>
 br b
 (some ((bv false,[])))
 (some ((bv true,[]))):=by kernel_rfl
theorem e61(x0_0:Bool)(x0_1 x0_2:ByteArray):By A D Ag AmG (.b (.b .n (.b (.b (.b (.b .n (.b (.b .n (.b (.b (.b (.b (.t (.b (.b .n (.b .n (.b .n (.b (.b (.b (.b (.b (.b (.b (.b (.f .n) .n) .n) .n) .n) .n) .n) .n) .n)))) .n)) .n) .n) .n) .n)) .n)) .n) .n) .n)) (.b (.b .n (.b .n (.b .n (.b (.b (.b (.b (.b (.f .n) .n) .n) .n) .n) .n)))) .n)) 61 AnT [Ξ [bv x0_0,sv x0_1,sv x0_2]] [] =
 br (A.seq x0_1 (Af []))
 (br (A.seq x0_2 (Af []))
 (some ((bv false,[])))
 (br (A.seq x0_1 (Af [])) (br (A.seq x0_2 (Af [])) none (AD D (Φ 109) [sv x0_2] [] λr o=>
 GN r λb=>
 C8 o<|
 br b
 (some ((bv true,[])))
 (some ((bv false,[]))))) none))
 (br (A.seq x0_1 (Af [])) none (AD D (Φ 108) [sv x0_1] [] λr o=>
 GN r λb=>
 C8 o<|
 br b
 (br (A.seq x0_2 (Af []))
 (some ((bv true,[])))
 (Ae D (Φ 109) [sv x0_2] [] [.b,.E] λb1=>
 br b1
 (some ((bv true,[])))
 (some ((bv false,[])))))
 (some ((bv false,[]))))):=by kernel_rfl
theorem AoI(x0:Rw):By A D Ag Tu .n 107 XF [V x0,Arj (Fn.func 60) [] []] [] =
 Ae D (Arh 107 0) [V x0,Arj (Fn.func 60) [] [],iv ↑(AZ x0),iv 0] [] [.t,.C,.x,.X,.Y] λc l o=>
 br (Bb 0 c)
 (dk [.I,.N,.E] [.l l,.o o] λn=>
 some ((iv n,[])))
 (br (Bb 1 c)
 (Dg l<|
 C8 o<|
 some ((iv (-1),[])))
 (none)):=by kernel_rfl
theorem Abh(x0:Rw)(t7 t8:Int):EH A D Ag Tu .n 107 0 (AW XF 0).fst (AW XF 0).snd [V x0,Arj (Fn.func 60) [] [],iv t7,iv t8] [] =
 br (A.lt t8 t7)
 (unI t8 λi=>
 B7 x0 i λcs=>
 dk [.B,.S,.S,.N] [.l cs] λb s s1=>
 Ae D (Φ 60) [Ξ [bv b,sv s,sv s1]] [] [.b,.E] λb1=>
 br b1
 (some ((φ [bv true,iv t8],[])))
 (AD D (Arh 107 0) [V x0,Arj (Fn.func 60) [] [],iv t7,iv (A.add Δ t8 1)] [] λr1 o1=>
 AE 0 [] (AH.mk [] 0 none) [] r1 o1))
 (some ((φ [iv 0],[]))):=by kernel_rfl
theorem e59(x0:Rw):By A D Ag AmE .n 59 AnR [V x0,Arj (Fn.func 60) [] []] [] =
 Ae D (Φ 107) [V x0,Arj (Fn.func 60) [] []] [] [.i,.E] λn=>
 br (A.le 0 n)
 (some ((bv true,[])))
 (some ((bv false,[]))):=by kernel_rfl
theorem e23(x0:Rw):By A D Ag Ams .n 23 AnE [V x0] [] =
 br (A.lt 0 ↑(AZ x0))
 (br (A.le (↑(AZ x0)) 64)
 (Ae D (Φ 59) [V x0,Arj (Fn.func 60) [] []] [] [.b,.E] λb=>
 br b
 (some ((bv false,[])))
 (some ((bv true,[]))))
 (some ((bv false,[]))))
 (some ((bv false,[]))):=by kernel_rfl
theorem e57(x0_0:Bool)(x0_1 x0_2:ByteArray):By A D Ag AmD .n 57 AnQ [Ξ [bv x0_0,sv x0_1,sv x0_2]] [] =
 br (A.seq x0_1 (Af []))
 (br ((A.slen x0_1+A.slen x0_2).ble 9223372036854775807) (some ((sv (A.cat x0_1 x0_2),[]))) none)
 (br (A.seq x0_2 (Af []))
 (br ((A.slen x0_1+A.slen x0_2).ble 9223372036854775807) (some ((sv (A.cat x0_1 x0_2),[]))) none)
 (br ((A.slen x0_1+A.slen (Af [42])).ble 9223372036854775807) (br ((A.slen (A.cat x0_1 (Af [42]))+A.slen x0_2).ble 9223372036854775807) (some ((sv (A.cat (A.cat x0_1 (Af [42])) x0_2),[]))) none) none)):=by kernel_rfl
theorem e45(x0_0:Int)(x0_1 x0_2:Rw)(x0_3:Int)(x0_4 x0_5:ByteArray)(x0_6:Rw):By A D Ag AmA .n 45 AnM [Ξ [iv x0_0,V x0_1,V x0_2,iv x0_3,sv x0_4,sv x0_5,V x0_6]] [] =
 br (A.eq (↑(AZ x0_1)) 0)
 (br (A.eq (↑(AZ x0_2)) 0)
 (br (A.eq x0_3 0)
 (br (A.seq x0_4 (Af []))
 (br (A.seq x0_5 (Af []))
 (some ((bv true,[])))
 (some ((bv false,[]))))
 (some ((bv false,[]))))
 (some ((bv false,[]))))
 (some ((bv false,[]))))
 (some ((bv false,[]))):=by kernel_rfl
theorem e46(x0_0:Int)(x0_1 x0_2:Rw)(x0_3:Int)(x0_4 x0_5:ByteArray)(x0_6:Rw):By A D Ag AmB .n 46 AnN [Ξ [iv x0_0,V x0_1,V x0_2,iv x0_3,sv x0_4,sv x0_5,V x0_6]] [] =
 br (A.eq x0_0 2)
 (Ae D (Φ 23) [V x0_1] [] [.b,.E] λb=>
 br b
 (Ae D (Φ 23) [V x0_2] [] [.b,.E] λb1=>
 br b1
 (br (A.le 0 x0_3)
 (br (A.le x0_3 5)
 (br (A.seq x0_4 (Af []))
 (br (A.seq x0_5 (Af []))
 (br (A.eq (↑(AZ x0_6)) 0)
 (some ((bv true,[])))
 (some ((bv false,[]))))
 (some ((bv false,[]))))
 (some ((bv false,[]))))
 (some ((bv false,[]))))
 (some ((bv false,[]))))
 (some ((bv false,[]))))
 (some ((bv false,[]))))
 (some ((bv false,[]))):=by kernel_rfl
theorem AoJ(x0:Int):By A D Ag AhP .n 110 Ai2 [iv x0] [] =
 br (A.eq x0 0)
 (some ((iv 0,[])))
 (br (A.eq x0 1)
 (some ((iv 0,[])))
 (br (A.eq x0 3)
 (some ((iv 1,[])))
 (br (A.eq x0 4)
 (some ((iv 2,[])))
 (br (A.eq x0 5)
 (some ((iv 2,[])))
 (some ((iv (-1),[]))))))):=by kernel_rfl
theorem AoK(x0 x1 x2_0:Int)(x2_1 x2_2:Rw)(x2_3:Int)(x2_4 x2_5:ByteArray)(x2_6:Rw):By A D Ag AhQ .n 111 Ai3 [iv x0,iv x1,Ξ [iv x2_0,V x2_1,V x2_2,iv x2_3,sv x2_4,sv x2_5,V x2_6]] [] =
 br (A.eq x0 3)
 (br (A.eq x2_0 4)
 (some ((bv true,[])))
 (br (A.eq x2_0 5)
 (some ((bv true,[])))
 (some ((bv false,[])))))
 (br (A.eq x0 4)
 (br (A.eq x2_0 5)
 (some ((bv true,[])))
 (br (A.eq x1 1)
 (br (A.eq x2_0 4)
 (some ((bv true,[])))
 (some ((bv false,[]))))
 (some ((bv false,[])))))
 (br (A.eq x0 5)
 (br (A.eq x1 1)
 (br (A.eq x2_0 5)
 (some ((bv true,[])))
 (some ((bv false,[]))))
 (some ((bv false,[]))))
 (some ((bv false,[]))))):=by kernel_rfl
theorem e62(x0_0:Int)(x0_1 x0_2:Rw)(x0_3:Int)(x0_4 x0_5:ByteArray)(x0_6:Rw)(x1:Int):By A D Ag Acf .n 62 Agj [Ξ [iv x0_0,V x0_1,V x0_2,iv x0_3,sv x0_4,sv x0_5,V x0_6],iv x1] [] =
 br (A.eq x0_0 2)
 (Ae D (Φ 46) [Ξ [iv x0_0,V x0_1,V x0_2,iv x0_3,sv x0_4,sv x0_5,V x0_6]] [] [.b,.E] λb=>
 br b
 (some ((bv true,[])))
 (some ((bv false,[]))))
 (br (A.eq x0_0 3)
 (Ae D (Φ 45) [Ξ [iv x0_0,V x0_1,V x0_2,iv x0_3,sv x0_4,sv x0_5,V x0_6]] [] [.b,.E] λb=>
 br b
 (Ae D (Φ 110) [iv x0_0] [] [.i,.E] λn=>
 br (A.eq (↑(AZ x0_6)) n)
 (br (A.lt 60 (A.add Δ x1 1))
 (some ((bv false,[])))
 (Ae D (Arh 62 0) [iv (A.add Δ x1 1),δ 0 0,V x0_6,iv ↑(AZ x0_6),iv 0] [bk [iv x0_0,V x0_1,V x0_2,iv x0_3,sv x0_4,sv x0_5,V x0_6]] [.t,.C,.x,.X,.Y] λc l o2=>
 br (Bb 0 c)
 (dk [.B,.N,.D,.E] [.l l,.o o2] λb1=>
 some ((bv b1,[])))
 (br (Bb 1 c)
 (dk [.N,.D,.E,.w] [.l l,.o o2] λ_=>
 some ((bv true,[])))
 (none))))
 (some ((bv false,[]))))
 (some ((bv false,[]))))
 (Ae D (Φ 45) [Ξ [iv x0_0,V x0_1,V x0_2,iv x0_3,sv x0_4,sv x0_5,V x0_6]] [] [.b,.E] λb=>
 br b
 (Ae D (Φ 110) [iv x0_0] [] [.i,.E] λn=>
 br (A.eq (↑(AZ x0_6)) n)
 (br (A.lt 60 x1)
 (some ((bv false,[])))
 (Ae D (Arh 62 0) [iv x1,δ 0 0,V x0_6,iv ↑(AZ x0_6),iv 0] [bk [iv x0_0,V x0_1,V x0_2,iv x0_3,sv x0_4,sv x0_5,V x0_6]] [.t,.C,.x,.X,.Y] λc l o2=>
 br (Bb 0 c)
 (dk [.B,.N,.D,.E] [.l l,.o o2] λb1=>
 some ((bv b1,[])))
 (br (Bb 1 c)
 (dk [.N,.D,.E,.w] [.l l,.o o2] λ_=>
 some ((bv true,[])))
 (none))))
 (some ((bv false,[]))))
 (some ((bv false,[]))))):=by kernel_rfl
theorem AhD(t1 b2_0:Int)(b2_1 b2_2:Rw)(b2_3:Int)(b2_4 b2_5:ByteArray)(b2_6 t35:Rw)(t36 t37:Int):EH A D Ag Acf .n 62 0 (AW Agj 0).fst (AW Agj 0).snd [iv t1,δ 0 0,V t35,iv t36,iv t37] [bk [iv b2_0,V b2_1,V b2_2,iv b2_3,sv b2_4,sv b2_5,V b2_6]] =
 br (A.lt t37 t36)
 (unI t37 λi=>
 B7 t35 i λcs=>
 dk [.I,.L,.L,.I,.S,.S,.L,.N] [.l cs] λn xs xs1 n1 s s1 xs2=>
 Ae D (Φ 111) [iv b2_0,iv t37,Ξ [iv n,V xs,V xs1,iv n1,sv s,sv s1,V xs2]] [] [.b,.E] λb=>
 br b
 (br (A.lt 60 (A.add Δ t1 1))
 (some ((φ [bv true,bv false],[BO.del])))
 (Ae D (Φ 62) [Ξ [iv n,V xs,V xs1,iv n1,sv s,sv s1,V xs2],iv (A.add Δ t1 1)] [] [.b,.E] λb1=>
 br b1
 (AD D (Arh 62 0) [iv t1,δ 0 0,V t35,iv t36,iv (A.add Δ t37 1)] [bk [iv b2_0,V b2_1,V b2_2,iv b2_3,sv b2_4,sv b2_5,V b2_6]] λr2 o2=>
 AE 1 [0] (AH.mk [(0,bk [iv b2_0,V b2_1,V b2_2,iv b2_3,sv b2_4,sv b2_5,V b2_6]),(1,bk [iv n,V xs,V xs1,iv n1,sv s,sv s1,V xs2])] 2 none) [0] r2 o2)
 (some ((φ [bv true,bv false],[BO.del])))))
 (br (A.lt 60 t1)
 (some ((φ [bv true,bv false],[BO.del])))
 (Ae D (Φ 62) [Ξ [iv n,V xs,V xs1,iv n1,sv s,sv s1,V xs2],iv t1] [] [.b,.E] λb1=>
 br b1
 (AD D (Arh 62 0) [iv t1,δ 0 0,V t35,iv t36,iv (A.add Δ t37 1)] [bk [iv b2_0,V b2_1,V b2_2,iv b2_3,sv b2_4,sv b2_5,V b2_6]] λr2 o2=>
 AE 1 [0] (AH.mk [(0,bk [iv b2_0,V b2_1,V b2_2,iv b2_3,sv b2_4,sv b2_5,V b2_6]),(1,bk [iv n,V xs,V xs1,iv n1,sv s,sv s1,V xs2])] 2 none) [0] r2 o2)
 (some ((φ [bv true,bv false],[BO.del]))))))
 (some ((φ [iv 0],[BO.del]))):=by kernel_rfl
theorem e24(x0_0:Int)(x0_1 x0_2:Rw)(x0_3:Int)(x0_4 x0_5:ByteArray)(x0_6:Rw):By A D Ag Amt .n 24 AnF [Ξ [iv x0_0,V x0_1,V x0_2,iv x0_3,sv x0_4,sv x0_5,V x0_6]] [] =
 Ae D (Φ 62) [Ξ [iv x0_0,V x0_1,V x0_2,iv x0_3,sv x0_4,sv x0_5,V x0_6],iv 0] [] [.b,.E] λb=>
 br b
 (some ((bv true,[])))
 (some ((bv false,[]))):=by kernel_rfl
end
end
end Go.Proofs.YtlmhajfbpplpoaaGreat
