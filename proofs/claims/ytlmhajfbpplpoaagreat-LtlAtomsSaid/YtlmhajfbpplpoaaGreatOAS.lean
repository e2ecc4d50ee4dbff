/- Seats of D: contracts fr -/
import Derived.Test.YtlmhajfbpplpoaaGreatOAR
import Derived.Test.YtlmhajfbpplpoaaGreatChecked
set_option linter.all false
open List renaming all_eq_true->Apy
open Nat renaming beq->ApT
namespace Go.Proofs.YtlmhajfbpplpoaaGreat
noncomputable section
open AV renaming agg->Ξ,fn->ApE,ls->V,ptr->η,tup->ψ
open IntKind renaming i64->U
open Key renaming fn->Ω,lp->ι
open Go.RowKit
def Cy:List AV->Option AV
 |[.v (.string s)]=>if s.size<=9223372036854775807 then some (bv (Ds s.data.toList)) else none
 |_=>none
def Oj:List AV->Option AV
 |[.v (.string s)]=>if s.size<=9223372036854775807 then(match GJ s.data.toList with
  |.ok ts=>some (.tup [.ls (ts.map eTk),.agg [iv 0,iv 0],iv 0])
  |.err c ln co=>some (.tup [.ls [],.agg [iv (ln:Int),iv (co:Int)],iv (c:Int)])) else none
 |_=>none
def CG(res:List AV->Option AV):DF:=λargs bs=>match bs with
 |[]=>(res args).map λr=>(r,[])
 |_=>none
def BN:List AV->Option AV
 |[.v (.string s)]=>if s.size<=9223372036854775807 then some (bv (Et s.data.toList)) else none
 |_=>none
def B6(P:Program)(ents:Nat):List (Nat × MFn)->Prop
 |[]=>True
 |p::r=>(∃ hs a b,p.2=MF P ents hs a b p.1)/\AbF P p.1=true/\B6 P ents r
theorem EI{P:Program}{ents:Nat}:∀{L:List (Nat × MFn)},B6 P ents L->∀ f mf,(f,mf)∈L->FnOk P ents f mf
 |p::r,⟨⟨hs,a,b,h1⟩,h2,h3⟩,f,mf,hm=>by
  rcases List.mem_cons.1 hm with rfl|hm
  .have h1:mf=_:=h1
   rw[h1];exact Ad4 h2
  .exact EI h3 f mf hm
theorem Bx{P:Program}{ents:Nat}:∀{L L':List (Nat × MFn)},B6 P ents L->B6 P ents L'->B6 P ents (L++L')
 |[],_,_,h=>h
 |_::_,_,⟨h1,h2,h3⟩,h=>⟨h1,h2,Bx h3 h⟩
def Aas(P:Program)(ents n:Nat):Bool:=Nat.blt ents (2 ^ n)&&(List.range n).all λg=>!ents.testBit g||FU P g
theorem Hm{P:Program}{ents n:Nat}(h:Aas P ents n=true):FQ P ents:=by
 unfold Aas at h;rw[Bool.and_eq_true]at h;intro g hg;have hn:ents<2 ^ n:=Nat.blt_eq.mp h.1
 by_cases hgn:g<n
 .have:=Apy.1 h.2 g (List.mem_range.2 hgn)
  rw[hg]at this;simpa using this
 .have:ents<2 ^ g:=Nat.lt_of_lt_of_le hn (Nat.pow_le_pow_right (by decide) (by omega))
  rw[Nat.testBit_lt_two_pow this]at hg
  cases hg
theorem NB{α:Type}{f:Nat}:∀{A B:List (Nat × α)},CA f (A++B)=match CA f A with
  |some a=>some a
  |none=>CA f B
 |[],_=>rfl
 |(m,b)::r,B=>by
  have ih:=NB (f:=f) (A:=r) (B:=B)
  show (match ApT f m with
   |true=>some b
   |false=>CA f (r++B))=match (match ApT f m with
   |true=>some b
   |false=>CA f r) with
   |some a=>some a
   |none=>CA f B
  cases ApT f m with
  |true=>rfl
  |false=>exact ih
def AiK(A B:List (Nat × MFn)):Bool:=B.all λp=>(CA p.1 A).isNone
theorem Ae{A B:List (Nat × MFn)}(h:AiK A B=true){f:Nat}{mf:MFn}(hf:CA f B=some mf):CA f (A++B)=some mf:=by
 have:=Apy.1 h _ (Cd hf);have h0:CA f A=none:=Option.isNone_iff_eq_none.1 this;rw[NB,h0];exact hf
theorem BD{A B:List (Nat × MFn)}{f:Nat}{mf:MFn}(hf:CA f A=some mf):CA f (A++B)=some mf:=by
 rw[NB,hf]
theorem Iy{S:Mw}(hm:M4 S)(res:List AV->Option AV)
  (h:∀ args r,res args=some r->∀(μ:Mu) (F:AG) (w:World) (us:List Value),RepList μ F w args us->S us w λu w'=>Below w.heap.size w w'/\Rep μ (Yc F w w') w' r u):Bo S (CG res):=AaJ hm res h
theorem UB{P:Program}{f:Nat}(h:∀(s:ByteArray) w,s.size<=9223372036854775807->Calls P f #[.string s] w λe w'=>e=.returned (.bool (Et s.data.toList))/\Below w.heap.size w w'):Bo (BH P f) (CG BN):=by
 refine Iy (CI P f) _ λargs r hr μ F w us hus=>?_
 unfold BN at hr;split at hr
 .rename_i s
  split at hr
  .rename_i hs
   injection hr with hr
   subst hr;obtain rfl:=Rn hus;refine Calls.mono (h s w hs) ?_;rintro e w' ⟨rfl,hb⟩;exact⟨_,rfl,hb,Vn _⟩
  .cases hr
 .cases hr
theorem Aax{P:Program}{f:Nat}(h:∀(s:ByteArray) w,s.size<=9223372036854775807->Calls P f #[.string s] w λe w'=>e=.returned (.bool (Ds s.data.toList))/\Below w.heap.size w w'):Bo (BH P f) (CG Cy):=by
 refine Iy (CI P f) _ λargs r hr μ F w us hus=>?_
 unfold Cy at hr;split at hr
 .rename_i s
  split at hr
  .rename_i hs
   injection hr with hr
   subst hr;obtain rfl:=Rn hus;refine Calls.mono (h s w hs) ?_;rintro e w' ⟨rfl,hb⟩;exact⟨_,rfl,hb,Vn _⟩
  .cases hr
 .cases hr
def Qu(s:ByteArray)(ety:TypeId)(w:World)(e:Ending)(w':World):Prop:=match GJ s.data.toList with
 |.ok ts=>∃ v,e=.returned (.tuple #[v,.agg #[.int .i64 0,.int .i64 0],.int .i64 0])/\w'.ownsRow w.heap.size ety 4 v ts.length ((ts.map tkV).flatten)/\Below w.heap.size w w'
 |.err c ln co=>e=.returned (.tuple #[.slice none 0 0,.agg #[.int .i64 ln,.int .i64 co],.int .i64 c])/\Below w.heap.size w w'
theorem WN{μ:Mu}{F:AG}{w:World}{a:AV}{u:Value}{p q n:Int}(h:Rep μ F w a u):Rep μ F w (.tup [a,.agg [iv p,iv q],iv n]) (.tuple #[u,.agg #[.int .i64 p,.int .i64 q],.int .i64 n]):=by
 simp only[Rep,RepList];exact⟨_,rfl,_,_,rfl,h,_,_,rfl,⟨_,rfl,_,_,rfl,Lq _,_,_,rfl,Lq _,rfl⟩,_,_,rfl,Lq _,rfl⟩
theorem Ad3{P:Program}{f:Nat}(ety:TypeId)(h:∀(s:ByteArray) w,s.size<=9223372036854775807->Calls P f #[.string s] w (Qu s ety w)):Bo (BH P f) (CG Oj):=by
 refine Iy (CI P f) _ λargs r hr μ F w us hus=>?_
 unfold Oj at hr;split at hr
 .rename_i s
  split at hr
  .rename_i hs
   obtain rfl:=Rn hus;have g:=h s w hs;unfold Qu at g
   cases ha:GJ s.data.toList with
   |ok ts=>
    rw[ha]at hr g;injection hr with hr
    subst hr;refine Calls.mono g ?_;rintro e w' ⟨v,rfl,ho,hb⟩;exact⟨_,rfl,hb,WN (Afl ho)⟩
   |err c ln co=>
    rw[ha]at hr g;injection hr with hr
    subst hr;refine Calls.mono g ?_;rintro e w' ⟨rfl,hb⟩;refine⟨_,rfl,hb,WN ?_⟩;unfold Rep;exact⟨rfl,none,0,rfl,Nat.le_refl _,Nat.zero_le _,λh=>absurd rfl h⟩
  .cases hr
 .cases hr
def Bb:Nat:=1989262591437705541604795875994989242731836106004175106551764689416051591154717805248508
abbrev Bm(h:A3)(n:Nat):MFn:=MF Tryz.prog Bb h false false n
def Al:List (Nat × Nat):=[(263,0),(152,0),(206,0),(242,0),(243,0),(260,0),(273,0),(156,0),(208,0)]
section
open Go.RowKit
def Amj:MFn:=Bm [] 60
def Ak7:Hnt:=⟨[(61,(.bool,[]))],[],[(3,[.bool,.str,.str])]⟩
def Amk:MFn:=Bm [] 61
def Ak8:Hnt:=⟨[(108,(.bool,[])),(109,(.bool,[]))],[],[(4,[.str]),(8,[.str]),(13,[.str]),(17,[.str]),(23,[.str]),(27,[.str])]⟩
def Alg:A3:=[⟨19,[true,true,false,false,false,false,false,true,true],[],[],[(0,([false,false,false,false,true],([],[]))),(1,([],([],[])))]⟩]
def V7:MFn:=Bm Alg 107
def Sm:Hnt:=⟨[(60,(.bool,[]))],[(0,[(0,([.int .i64],[])),(1,([],[]))])],[(14,[.bool,.str,.str]),(15,[.bool,.str,.str])]⟩
def Ami:MFn:=Bm [] 59
def Ak6:Hnt:=⟨[(107,(.int .i64,[]))],[],[]⟩
def Al8:MFn:=Bm [] 23
def AkW:Hnt:=⟨[(59,(.bool,[]))],[],[]⟩
def Amh:MFn:=Bm [] 57
def Ak5:Hnt:=⟨[],[],[(4,[.str]),(8,[.str]),(12,[.str]),(15,[.str]),(18,[.str]),(20,[.str])]⟩
def Amf:MFn:=Bm [] 45
def Ak3:Hnt:=⟨[],[],[(4,[.ls]),(9,[.ls]),(15,[.int .i64]),(20,[.str]),(25,[.str])]⟩
def Amg:MFn:=Bm [] 46
def Ak4:Hnt:=⟨[(23,(.bool,[]))],[],[(4,[.int .i64]),(8,[.ls]),(13,[.ls]),(18,[.int .i64]),(23,[.int .i64]),(28,[.str]),(33,[.str]),(38,[.ls])]⟩
def Aht:MFn:=Bm [] 110
def Agr:Hnt:=⟨[],[],[]⟩
def Ahu:MFn:=Bm [] 111
def Ags:Hnt:=⟨[],[],[(11,[.int .i64]),(15,[.int .i64]),(21,[.int .i64]),(28,[.int .i64]),(38,[.int .i64])]⟩
def AoI:A3:=[⟨59,[false,true,true,false,false,false,false,false,false,false,false,false,false,false,false,false,false,false,false,false,false,false,false,false,false,false,false,false,false,false,false,false,false,false,false,true,true,true],[],[2],[(0,([false,false,false,false,true],([],[2]))),(1,([],([],[2])))]⟩]
def Aex:MFn:=Bm AoI 62
def AaT:Hnt:=⟨[(45,(.bool,[])),(46,(.bool,[])),(62,(.bool,[])),(110,(.int .i64,[])),(111,(.bool,[]))],[(0,[(0,([.bool],[.del])),(1,([],[.del]))])],[(9,[.int .i64]),(11,[.int .i64,.ls,.ls,.int .i64,.str,.str,.ls]),(14,[.int .i64]),(18,[.int .i64,.ls,.ls,.int .i64,.str,.str,.ls]),(23,[.ls]),(26,[.int .i64]),(35,[.ls]),(40,[.int .i64,.ls,.ls,.int .i64,.str,.str,.ls]),(41,[.int .i64,.ls,.ls,.int .i64,.str,.str,.ls]),(44,[.int .i64]),(46,[.int .i64,.ls,.ls,.int .i64,.str,.str,.ls]),(53,[.int .i64,.ls,.ls,.int .i64,.str,.str,.ls])]⟩
def Al9:MFn:=Bm [] 24
def AkX:Hnt:=⟨[(62,(.bool,[]))],[],[(3,[.int .i64,.ls,.ls,.int .i64,.str,.str,.ls])]⟩
def Gk:List (Nat × MFn):=[(60,Amj),(61,Amk),(107,V7),(59,Ami),(23,Al8),(57,Amh),(45,Amf),(46,Amg),(110,Aht),(111,Ahu),(62,Aex),(24,Al9)]
variable (A:Ar) (D:Orc)
theorem e60(x0_0:Bool)(x0_1 x0_2:ByteArray):By A D Al Ak7 .n 60 Amj [Ξ [bv x0_0,sv x0_1,sv x0_2]] [] =
 Ad D (Ω 61) [Ξ [bv x0_0,sv x0_1,sv x0_2]] [] [.b,.E] λb=>
 br b
 (some ((bv false,[])))
 (some ((bv true,[]))):=by kernel_rfl
theorem e61(x0_0:Bool)(x0_1 x0_2:ByteArray):By A D Al Ak8 (.b (.b .n (.b (.b (.b (.b .n (.b (.b .n (.b (.b (.b (.b (.t (.b (.b .n (.b .n (.b .n (.b (.b (.b (.b (.b (.b (.b (.b (.f .n) .n) .n) .n) .n) .n) .n) .n) .n)))) .n)) .n) .n) .n) .n)) .n)) .n) .n) .n)) (.b (.b .n (.b .n (.b .n (.b (.b (.b (.b (.b (.f .n) .n) .n) .n) .n) .n)))) .n)) 61 Amk [Ξ [bv x0_0,sv x0_1,sv x0_2]] [] =
 br (A.seq x0_1 (Ax []))
 (br (A.seq x0_2 (Ax []))
 (some ((bv false,[])))
 (br (A.seq x0_1 (Ax [])) (br (A.seq x0_2 (Ax [])) none (AE D (Ω 109) [sv x0_2] [] λr o=>
 Ii r λb=>
 CZ o<|
 br b
 (some ((bv true,[])))
 (some ((bv false,[]))))) none))
 (br (A.seq x0_1 (Ax [])) none (AE D (Ω 108) [sv x0_1] [] λr o=>
 Ii r λb=>
 CZ o<|
 br b
 (br (A.seq x0_2 (Ax []))
 (some ((bv true,[])))
 (Ad D (Ω 109) [sv x0_2] [] [.b,.E] λb1=>
 br b1
 (some ((bv true,[])))
 (some ((bv false,[])))))
 (some ((bv false,[]))))):=by kernel_rfl
theorem Am0(x0:Rw):By A D Al Sm .n 107 V7 [V x0,ApE (Fn.func 60) [] []] [] =
 Ad D (ι 107 0) [V x0,ApE (Fn.func 60) [] [],iv ↑(AQ x0),iv 0] [] [.t,.C,.x,.X,.Y] λc l o=>
 br (A9 0 c)
 (dk [.I,.N,.E] [.l l,.o o] λn=>
 some ((iv n,[])))
 (br (A9 1 c)
 (Fe l<|
 CZ o<|
 some ((iv (-1),[])))
 (none)):=by kernel_rfl
theorem ZR(x0:Rw)(t7 t8:Int):Di A D Al Sm .n 107 0 (AL V7 0).fst (AL V7 0).snd [V x0,ApE (Fn.func 60) [] [],iv t7,iv t8] [] =
 br (A.lt t8 t7)
 (unI t8 λi=>
 Bh x0 i λcs=>
 dk [.B,.S,.S,.N] [.l cs] λb s s1=>
 Ad D (Ω 60) [Ξ [bv b,sv s,sv s1]] [] [.b,.E] λb1=>
 br b1
 (some ((ψ [bv true,iv t8],[])))
 (AE D (ι 107 0) [V x0,ApE (Fn.func 60) [] [],iv t7,iv (A.add U t8 1)] [] λr1 o1=>
 AD 0 [] (AH.mk [] 0 none) [] r1 o1))
 (some ((ψ [iv 0],[]))):=by kernel_rfl
theorem e59(x0:Rw):By A D Al Ak6 .n 59 Ami [V x0,ApE (Fn.func 60) [] []] [] =
 Ad D (Ω 107) [V x0,ApE (Fn.func 60) [] []] [] [.i,.E] λn=>
 br (A.le 0 n)
 (some ((bv true,[])))
 (some ((bv false,[]))):=by kernel_rfl
theorem e23(x0:Rw):By A D Al AkW .n 23 Al8 [V x0] [] =
 br (A.lt 0 ↑(AQ x0))
 (br (A.le (↑(AQ x0)) 64)
 (Ad D (Ω 59) [V x0,ApE (Fn.func 60) [] []] [] [.b,.E] λb=>
 br b
 (some ((bv false,[])))
 (some ((bv true,[]))))
 (some ((bv false,[]))))
 (some ((bv false,[]))):=by kernel_rfl
theorem e57(x0_0:Bool)(x0_1 x0_2:ByteArray):By A D Al Ak5 .n 57 Amh [Ξ [bv x0_0,sv x0_1,sv x0_2]] [] =
 br (A.seq x0_1 (Ax []))
 (br ((A.slen x0_1+A.slen x0_2).ble 9223372036854775807) (some ((sv (A.cat x0_1 x0_2),[]))) none)
 (br (A.seq x0_2 (Ax []))
 (br ((A.slen x0_1+A.slen x0_2).ble 9223372036854775807) (some ((sv (A.cat x0_1 x0_2),[]))) none)
 (br ((A.slen x0_1+A.slen (Ax [42])).ble 9223372036854775807) (br ((A.slen (A.cat x0_1 (Ax [42]))+A.slen x0_2).ble 9223372036854775807) (some ((sv (A.cat (A.cat x0_1 (Ax [42])) x0_2),[]))) none) none)):=by kernel_rfl
theorem e45(x0_0:Int)(x0_1 x0_2:Rw)(x0_3:Int)(x0_4 x0_5:ByteArray)(x0_6:Rw):By A D Al Ak3 .n 45 Amf [Ξ [iv x0_0,V x0_1,V x0_2,iv x0_3,sv x0_4,sv x0_5,V x0_6]] [] =
 br (A.eq (↑(AQ x0_1)) 0)
 (br (A.eq (↑(AQ x0_2)) 0)
 (br (A.eq x0_3 0)
 (br (A.seq x0_4 (Ax []))
 (br (A.seq x0_5 (Ax []))
 (some ((bv true,[])))
 (some ((bv false,[]))))
 (some ((bv false,[]))))
 (some ((bv false,[]))))
 (some ((bv false,[]))))
 (some ((bv false,[]))):=by kernel_rfl
theorem e46(x0_0:Int)(x0_1 x0_2:Rw)(x0_3:Int)(x0_4 x0_5:ByteArray)(x0_6:Rw):By A D Al Ak4 .n 46 Amg [Ξ [iv x0_0,V x0_1,V x0_2,iv x0_3,sv x0_4,sv x0_5,V x0_6]] [] =
 br (A.eq x0_0 2)
 (Ad D (Ω 23) [V x0_1] [] [.b,.E] λb=>
 br b
 (Ad D (Ω 23) [V x0_2] [] [.b,.E] λb1=>
 br b1
 (br (A.le 0 x0_3)
 (br (A.le x0_3 5)
 (br (A.seq x0_4 (Ax []))
 (br (A.seq x0_5 (Ax []))
 (br (A.eq (↑(AQ x0_6)) 0)
 (some ((bv true,[])))
 (some ((bv false,[]))))
 (some ((bv false,[]))))
 (some ((bv false,[]))))
 (some ((bv false,[]))))
 (some ((bv false,[]))))
 (some ((bv false,[]))))
 (some ((bv false,[]))))
 (some ((bv false,[]))):=by kernel_rfl
theorem Am1(x0:Int):By A D Al Agr .n 110 Aht [iv x0] [] =
 br (A.eq x0 0)
 (some ((iv 0,[])))
 (br (A.eq x0 1)
 (some ((iv 0,[])))
 (br (A.eq x0 3)
 (some ((iv 1,[])))
 (br (A.eq x0 4)
 (some ((iv 2,[])))
 (br (A.eq x0 5)
 (some ((iv 2,[])))
 (some ((iv (-1),[]))))))):=by kernel_rfl
theorem Am2(x0 x1 x2_0:Int)(x2_1 x2_2:Rw)(x2_3:Int)(x2_4 x2_5:ByteArray)(x2_6:Rw):By A D Al Ags .n 111 Ahu [iv x0,iv x1,Ξ [iv x2_0,V x2_1,V x2_2,iv x2_3,sv x2_4,sv x2_5,V x2_6]] [] =
 br (A.eq x0 3)
 (br (A.eq x2_0 4)
 (some ((bv true,[])))
 (br (A.eq x2_0 5)
 (some ((bv true,[])))
 (some ((bv false,[])))))
 (br (A.eq x0 4)
 (br (A.eq x2_0 5)
 (some ((bv true,[])))
 (br (A.eq x1 1)
 (br (A.eq x2_0 4)
 (some ((bv true,[])))
 (some ((bv false,[]))))
 (some ((bv false,[])))))
 (br (A.eq x0 5)
 (br (A.eq x1 1)
 (br (A.eq x2_0 5)
 (some ((bv true,[])))
 (some ((bv false,[]))))
 (some ((bv false,[]))))
 (some ((bv false,[]))))):=by kernel_rfl
theorem e62(x0_0:Int)(x0_1 x0_2:Rw)(x0_3:Int)(x0_4 x0_5:ByteArray)(x0_6:Rw)(x1:Int):By A D Al AaT .n 62 Aex [Ξ [iv x0_0,V x0_1,V x0_2,iv x0_3,sv x0_4,sv x0_5,V x0_6],iv x1] [] =
 br (A.eq x0_0 2)
 (Ad D (Ω 46) [Ξ [iv x0_0,V x0_1,V x0_2,iv x0_3,sv x0_4,sv x0_5,V x0_6]] [] [.b,.E] λb=>
 br b
 (some ((bv true,[])))
 (some ((bv false,[]))))
 (br (A.eq x0_0 3)
 (Ad D (Ω 45) [Ξ [iv x0_0,V x0_1,V x0_2,iv x0_3,sv x0_4,sv x0_5,V x0_6]] [] [.b,.E] λb=>
 br b
 (Ad D (Ω 110) [iv x0_0] [] [.i,.E] λn=>
 br (A.eq (↑(AQ x0_6)) n)
 (br (A.lt 60 (A.add U x1 1))
 (some ((bv false,[])))
 (Ad D (ι 62 0) [iv (A.add U x1 1),η 0 0,V x0_6,iv ↑(AQ x0_6),iv 0] [bk [iv x0_0,V x0_1,V x0_2,iv x0_3,sv x0_4,sv x0_5,V x0_6]] [.t,.C,.x,.X,.Y] λc l o2=>
 br (A9 0 c)
 (dk [.B,.N,.D,.E] [.l l,.o o2] λb1=>
 some ((bv b1,[])))
 (br (A9 1 c)
 (dk [.N,.D,.E,.w] [.l l,.o o2] λ_=>
 some ((bv true,[])))
 (none))))
 (some ((bv false,[]))))
 (some ((bv false,[]))))
 (Ad D (Ω 45) [Ξ [iv x0_0,V x0_1,V x0_2,iv x0_3,sv x0_4,sv x0_5,V x0_6]] [] [.b,.E] λb=>
 br b
 (Ad D (Ω 110) [iv x0_0] [] [.i,.E] λn=>
 br (A.eq (↑(AQ x0_6)) n)
 (br (A.lt 60 x1)
 (some ((bv false,[])))
 (Ad D (ι 62 0) [iv x1,η 0 0,V x0_6,iv ↑(AQ x0_6),iv 0] [bk [iv x0_0,V x0_1,V x0_2,iv x0_3,sv x0_4,sv x0_5,V x0_6]] [.t,.C,.x,.X,.Y] λc l o2=>
 br (A9 0 c)
 (dk [.B,.N,.D,.E] [.l l,.o o2] λb1=>
 some ((bv b1,[])))
 (br (A9 1 c)
 (dk [.N,.D,.E,.w] [.l l,.o o2] λ_=>
 some ((bv true,[])))
 (none))))
 (some ((bv false,[]))))
 (some ((bv false,[]))))):=by kernel_rfl
theorem Agd(t1 b2_0:Int)(b2_1 b2_2:Rw)(b2_3:Int)(b2_4 b2_5:ByteArray)(b2_6 t35:Rw)(t36 t37:Int):Di A D Al AaT .n 62 0 (AL Aex 0).fst (AL Aex 0).snd [iv t1,η 0 0,V t35,iv t36,iv t37] [bk [iv b2_0,V b2_1,V b2_2,iv b2_3,sv b2_4,sv b2_5,V b2_6]] =
 br (A.lt t37 t36)
 (unI t37 λi=>
 Bh t35 i λcs=>
 dk [.I,.L,.L,.I,.S,.S,.L,.N] [.l cs] λn xs xs1 n1 s s1 xs2=>
 Ad D (Ω 111) [iv b2_0,iv t37,Ξ [iv n,V xs,V xs1,iv n1,sv s,sv s1,V xs2]] [] [.b,.E] λb=>
 br b
 (br (A.lt 60 (A.add U t1 1))
 (some ((ψ [bv true,bv false],[BO.del])))
 (Ad D (Ω 62) [Ξ [iv n,V xs,V xs1,iv n1,sv s,sv s1,V xs2],iv (A.add U t1 1)] [] [.b,.E] λb1=>
 br b1
 (AE D (ι 62 0) [iv t1,η 0 0,V t35,iv t36,iv (A.add U t37 1)] [bk [iv b2_0,V b2_1,V b2_2,iv b2_3,sv b2_4,sv b2_5,V b2_6]] λr2 o2=>
 AD 1 [0] (AH.mk [(0,bk [iv b2_0,V b2_1,V b2_2,iv b2_3,sv b2_4,sv b2_5,V b2_6]),(1,bk [iv n,V xs,V xs1,iv n1,sv s,sv s1,V xs2])] 2 none) [0] r2 o2)
 (some ((ψ [bv true,bv false],[BO.del])))))
 (br (A.lt 60 t1)
 (some ((ψ [bv true,bv false],[BO.del])))
 (Ad D (Ω 62) [Ξ [iv n,V xs,V xs1,iv n1,sv s,sv s1,V xs2],iv t1] [] [.b,.E] λb1=>
 br b1
 (AE D (ι 62 0) [iv t1,η 0 0,V t35,iv t36,iv (A.add U t37 1)] [bk [iv b2_0,V b2_1,V b2_2,iv b2_3,sv b2_4,sv b2_5,V b2_6]] λr2 o2=>
 AD 1 [0] (AH.mk [(0,bk [iv b2_0,V b2_1,V b2_2,iv b2_3,sv b2_4,sv b2_5,V b2_6]),(1,bk [iv n,V xs,V xs1,iv n1,sv s,sv s1,V xs2])] 2 none) [0] r2 o2)
 (some ((ψ [bv true,bv false],[BO.del]))))))
 (some ((ψ [iv 0],[BO.del]))):=by kernel_rfl
theorem e24(x0_0:Int)(x0_1 x0_2:Rw)(x0_3:Int)(x0_4 x0_5:ByteArray)(x0_6:Rw):By A D Al AkX .n 24 Al9 [Ξ [iv x0_0,V x0_1,V x0_2,iv x0_3,sv x0_4,sv x0_5,V x0_6]] [] =
 Ad D (Ω 62) [Ξ [iv x0_0,V x0_1,V x0_2,iv x0_3,sv x0_4,sv x0_5,V x0_6],iv 0] [] [.b,.E] λb=>
 br b
 (some ((bv true,[])))
 (some ((bv false,[]))):=by kernel_rfl
end
end
end Go.Proofs.YtlmhajfbpplpoaaGreat
