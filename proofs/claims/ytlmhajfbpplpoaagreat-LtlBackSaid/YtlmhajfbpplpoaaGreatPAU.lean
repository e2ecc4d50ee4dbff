/- Branches whose truth is -/
import Derived.Test.YtlmhajfbpplpoaaGreatPAS
set_option linter.all false
open Bool renaming and_eq_true->χ,false_and->Ar2,false_eq_true->Arr,or_eq_true->Ass
open List renaming all_eq_true->Arg,drop->ο,drop_eq_getElem_cons->Arf,drop_eq_nil_of_le->Ark,drop_zero->υ,findIdx?_cons->Atz,findIdx?_eq_none_iff->AtL,findIdx?_eq_some_iff_getElem->ArT,getElem?_eq_getElem->Ψ,getElem?_eq_none->Asc,getElem_mem->Ars,getLast?_eq_some_getLast->Att,length_append->η,length_cons->ν,take->ι
open Nat renaming le_refl->ω,le_succ->Atw,lt_succ_self->ArB,zero_add->Ary
open Option renaming map_some->Arp
namespace Go.Proofs.YtlmhajfbpplpoaaGreat
noncomputable section
open ABlk renaming mk->U
open AV renaming agg->Ξ,fn->Arj,ls->V,ptr->δ,sl->π,tup->φ
open BO renaming set->ζ
open IntKind renaming i64->Δ
open Key renaming fn->Φ,lp->Arh
open Tryz renaming prog->ψ
open Go.RowKit
theorem RN{a b:Int}(h:a=b){x y:KR}:br (Ah.eq a b) x y=x:=by rw[Fp,decide_eq_true h];rfl
theorem As{a b:Int}{x y z:KR}(h: a=b)(g:x=z):br (Ah.eq a b) x y=z:=(RN h).trans g
theorem AaX{a b:Int}(h:¬ a=b){x y:KR}:br (Ah.eq a b) x y=y:=by rw[Fp,decide_eq_false h];rfl
theorem Ap{a b:Int}{x y z:KR}(h:¬ a=b)(g:y=z):br (Ah.eq a b) x y=z:=(AaX h).trans g
theorem Afp{a b:ByteArray}(h:a=b){x y:KR}:br (Ah.seq a b) x y=x:=by rw[F6,decide_eq_true h];rfl
theorem DI{a b:ByteArray}{x y z:KR}(h: a=b)(g:x=z):br (Ah.seq a b) x y=z:=(Afp h).trans g
theorem EQ{a b:ByteArray}(h:¬ a=b){x y:KR}:br (Ah.seq a b) x y=y:=by rw[F6,decide_eq_false h];rfl
theorem AkA{a b:Int}(h:a<b){x y:KR}:br (Ah.lt a b) x y=x:=by rw[JM,decide_eq_true h];rfl
theorem Al{a b:Int}{x y z:KR}(h: a<b)(g:x=z):br (Ah.lt a b) x y=z:=(AkA h).trans g
theorem Vp{a b:Int}(h:¬ a<b){x y:KR}:br (Ah.lt a b) x y=y:=by rw[JM,decide_eq_false h];rfl
theorem Ak{a b:Int}{x y z:KR}(h:¬ a<b)(g:y=z):br (Ah.lt a b) x y=z:=(Vp h).trans g
theorem DN{a b:Nat}(h:a<=b)(x y:KR):br (a.ble b) x y=x:=by
 rw[Nat.ble_eq_true_of_le h];rfl
theorem Akz{a b:Int}(h:a<=b){x y:KR}:br (Ah.le a b) x y=x:=by rw[LN,decide_eq_true h];rfl
theorem Dp{a b:Int}{x y z:KR}(h: a≤b)(g:x=z):br (Ah.le a b) x y=z:=(Akz h).trans g
theorem AaY{a b:Int}(h:¬ a<=b){x y:KR}:br (Ah.le a b) x y=y:=by rw[LN,decide_eq_false h];rfl
theorem DP{a b:Int}{x y z:KR}(h:¬ a≤b)(g:y=z):br (Ah.le a b) x y=z:=(AaY h).trans g
structure Toks (ts:List Tk):Prop where
 len:ts.length+300<4611686018427387904
 short:∀ i,(nx ts i).text.length<4611686018427387904
 fin:(ts.getLastD ⟨5,[],0,0⟩).kind=5
theorem Toks.past{ts:List Tk}(H:Toks ts){i:Nat}(h:ts.length<=i):(nx ts i).kind=5:=by
 unfold nx;rw[Asc h];exact H.fin
theorem Toks.isT{ts:List Tk}(H:Toks ts){i:Nat}{s:List UInt8}(h:isT ts i s=true):i<ts.length:=by
 by_cases hi:i<ts.length
 .exact hi
 .unfold Go.Proofs.YtlmhajfbpplpoaaGreat.isT at h
  rw[H.past (by omega)]at h;simp at h
theorem Toks.isN{ts:List Tk}(H:Toks ts){i:Nat}(h:isN ts i=true):i<ts.length:=by
 by_cases hi:i<ts.length
 .exact hi
 .unfold Go.Proofs.YtlmhajfbpplpoaaGreat.isN at h
  rw[H.past (by omega)]at h;simp at h
theorem Toks.num{ts:List Tk}(H:Toks ts){i:Nat}(h:(nx ts i).kind=3):i<ts.length:=by
 by_cases hi:i<ts.length
 .exact hi
 .rw[H.past (by omega)]at h
  simp at h
structure Far (ts:List Tk) (i j e:Nat):Prop where
 ge:i<=j
 le:j<=ts.length
 gt:e=0->i<j
section
variable {ts:List Tk} (H:Toks ts) (vars:List ByteArray) (kn:Bool)
include H
theorem U5{i:Nat}(hi:i<=ts.length):Far ts i (Hl ts vars kn i).1 (Hl ts vars kn i).2.1:=by
 unfold Hl
 cases h:isN ts i with
 |false=>rw[if_pos rfl];exact⟨ω _,hi,λh=>absurd h (by simp)⟩
 |true=>
  have:=H.isN h;rw[if_neg (by simp)];split
  .exact⟨ω _,hi,λh=>absurd h (by simp)⟩
  .exact⟨Atw _,this,λ_=>ArB _⟩
theorem ZE{i:Nat}(hi:i<=ts.length)(neg:Bool):Far ts i (A3 ts vars kn i neg).1 (A3 ts vars kn i neg).2.1:=by
 unfold A3;split
 .rename_i h3
  have:=H.num h3
  cases h:isT ts (i+1) [42]with
  |true=>
   have h1:=H.isT h;have h2:=U5 H vars kn (show i+2<=ts.length by omega);rw[if_pos rfl];exact⟨by have:=h2.ge;simp only;omega,h2.le,λ_=>by have:=h2.ge;simp only;omega⟩
  |false=>
   rw[if_neg (by simp)];exact⟨Atw _,this,λ_=>ArB _⟩
 .exact U5 H vars kn hi
theorem UT:∀(k:Nat) (out:List Mo) (neg:Bool) (i:Nat),i<=ts.length->Far ts i (Ft ts vars kn k out neg i).1 (Ft ts vars kn k out neg i).2.1:=by
 intro k
 induction k with
 |zero=>
  intro out neg i hi;unfold Ft;split
  .exact⟨ω _,hi,λh=>absurd h (by simp)⟩
  .exact⟨ω _,hi,λh=>absurd h (by simp)⟩
 |succ k ih=>
  intro out neg i hi;unfold Ft;dsimp only;have m:=ZE H vars kn hi neg;split
  .exact⟨ω _,hi,λh=>absurd h (by simp)⟩
  .split
   .exact m
   .split
    .rename_i h
     have h1:=H.isT h;have m2:=ih (out++[(A3 ts vars kn i neg).2.2]) true ((A3 ts vars kn i neg).1+1) (by omega);exact⟨by have:=m.ge;have:=m2.ge;omega,m2.le,λhe=>by have:=m.ge;have:=m2.gt he;omega⟩
    .split
     .rename_i h
      have h1:=H.isT h;have m2:=ih (out++[(A3 ts vars kn i neg).2.2]) false ((A3 ts vars kn i neg).1+1) (by omega);exact⟨by have:=m.ge;have:=m2.ge;omega,m2.le,λhe=>by have:=m.ge;have:=m2.gt he;omega⟩
     .rename_i h _ _
      exact⟨m.ge,m.le,λ_=>m.gt (by simpa using h)⟩
theorem PF{i:Nat}(hi:i<=ts.length):Far ts i (DQ ts vars kn i).1 (DQ ts vars kn i).2.1:=by
 unfold DQ;split
 .rename_i h
  have h1:=H.isT h;have m2:=UT H vars kn 64 [] true (i+1) (by omega);exact⟨by have:=m2.ge;omega,m2.le,λhe=>by have:=m2.gt he;omega⟩
 .exact UT H vars kn 64 [] false i hi
theorem X6{i op:Nat}(h:opP ts i=some op):i<ts.length:=by
 unfold opP at h;obtain⟨h1,h2,_⟩:=ArT.1 h;exact H.isT h2
theorem Aa5{i:Nat}(hi:i<=ts.length):Far ts i (Mx ts vars kn i).1 (Mx ts vars kn i).2.1:=by
 unfold Mx;have m:=PF H vars kn hi;split
 .exact m
 .rename_i h0
  have h0:(DQ ts vars kn i).2.1=0:=by simpa using h0
  rw[h0]at m;split
  .exact⟨m.ge,m.le,λh=>absurd h (by simp)⟩
  .rename_i op h
   have h1:=X6 H h;have m2:=PF H vars kn (show (DQ ts vars kn i).1+1<=ts.length by omega);have h2:=m.gt rfl;have h3:=m2.ge;split
   .exact⟨by simp only;omega,m2.le,λ_=>by simp only;omega⟩
   .exact⟨by simp only;omega,m2.le,λ_=>by simp only;omega⟩
end
section
open Go.RowKit
def An2:MFn:=Ia ψ AL [] false true 92
def AmO:Hnt:=⟨[],[],[(7,[.ls]),(15,[.ls]),(19,[.int .i64]),(24,[.int .i64,.str,.int .i64,.int .i64]),(25,[.int .i64,.str,.int .i64,.int .i64])]⟩
def An6:MFn:=Ia ψ AL [] false true 96
def AmS:Hnt:=⟨[(92,(.agg [.int .i64,.str,.int .i64,.int .i64],[.box [.ls,.int .i64,.ls,.bool]]))],[],[(9,[.str]),(14,[.int .i64]),(18,[.int .i64]),(23,[.int .i64])]⟩
def An3:MFn:=Ia ψ AL [] false true 93
def AmP:Hnt:=⟨[(96,(.bool,[.box [.ls,.int .i64,.ls,.bool]]))],[],[(13,[.int .i64])]⟩
def AjM:MFn:=Ia ψ AL [] false true 248
def Aiw:Hnt:=⟨[(93,(.bool,[.box [.ls,.int .i64,.ls,.bool]]))],[],[]⟩
def Ajo:MFn:=Ia ψ AL [] false true 162
def Ah9:Hnt:=⟨[(92,(.agg [.int .i64,.str,.int .i64,.int .i64],[.box [.ls,.int .i64,.ls,.bool]])),(109,(.bool,[]))],[],[(7,[.int .i64]),(11,[.str])]⟩
def Ajp:MFn:=Ia ψ AL [] false true 163
def Aia:Hnt:=⟨[(92,(.agg [.int .i64,.str,.int .i64,.int .i64],[.box [.ls,.int .i64,.ls,.bool]])),(162,(.bool,[.box [.ls,.int .i64,.ls,.bool]])),(219,(.bool,[]))],[],[(15,[.bool]),(20,[.ls]),(22,[.str]),(29,[.int .i64]),(34,[.str])]⟩
def An5:MFn:=Ia ψ AL [] false true 95
def AmR:Hnt:=⟨[(92,(.agg [.int .i64,.str,.int .i64,.int .i64],[.box [.ls,.int .i64,.ls,.bool]])),(93,(.bool,[.box [.ls,.int .i64,.ls,.bool]])),(163,(.tup [.str,.int .i64],[.box [.ls,.int .i64,.ls,.bool]]))],[],[(14,[.int .i64]),(17,[.str]),(22,[.int .i64]),(29,[.bool,.str,.str]),(36,[.bool,.str,.str])]⟩
def An4:MFn:=Ia ψ AL [] false true 94
def AmQ:Hnt:=⟨[(92,(.agg [.int .i64,.str,.int .i64,.int .i64],[.box [.ls,.int .i64,.ls,.bool]])),(162,(.bool,[.box [.ls,.int .i64,.ls,.bool]]))],[],[]⟩
def Aqc:Bv:=[⟨41,[true,false,false,false,true,true],[(4,3)],[],[(0,([true,false,true,true],([2],[4])))]⟩]
def Agi:MFn:=Ia ψ AL Aqc false true 49
def Ace:Hnt:=⟨[(93,(.bool,[.box [.ls,.int .i64,.ls,.bool]])),(94,(.bool,[.box [.ls,.int .i64,.ls,.bool]])),(95,(.tup [.agg [.bool,.str,.str],.int .i64],[.box [.ls,.int .i64,.ls,.bool]])),(96,(.bool,[.box [.ls,.int .i64,.ls,.bool]]))],[(0,[(0,([.ptr 0 0,.ls,.int .i64],[.box [.ls,.int .i64,.ls,.bool],.del]))])],[(27,[.bool,.str,.str])]⟩
def An1:MFn:=Ce [] 90
def AmN:Hnt:=⟨[],[],[]⟩
def Aqj:Bv:=[⟨19,[true,true,false,false,false,false,false,true,true],[],[],[(0,([false,false,false,false,true],([],[]))),(1,([],([],[])))]⟩]
def Ac0:MFn:=Ce Aqj 88
def TK:Hnt:=⟨[],[(0,[(0,([.int .i64],[])),(1,([],[]))])],[(14,[.str]),(15,[.str])]⟩
def AcY:MFn:=Ce [] 219
def Aip:Hnt:=⟨[(88,(.int .i64,[]))],[],[]⟩
def CR:List (Nat × MFn):=[(92,An2),(96,An6),(93,An3),(248,AjM),(162,Ajo),(163,Ajp),(95,An5),(94,An4),(49,Agi),(90,An1),(88,Ac0),(219,AcY)]
variable (A:Ar) (D:Orc)
theorem e92(p0_0:Rw)(p0_1:Int)(p0_2:Rw)(p0_3:Bool):By A D Ag AmO .n 92 An2 [δ 0 0] [bk [V p0_0,iv p0_1,V p0_2,bv p0_3]] =
 br (A.eq (↑(AZ p0_0)) 0)
 (some ((Ξ [iv 5,sv (Af []),iv 0,iv 0],[ζ (bk [V p0_0,iv p0_1,V p0_2,bv p0_3])])))
 (unI (A.min (A.max p0_1 0) (A.sub Δ (↑(AZ p0_0)) 1)) λi=>
 B7 p0_0 i λcs=>
 dk [.I,.S,.I,.I,.N] [.l cs] λn s n1 n2=>
 some ((Ξ [iv n,sv s,iv n1,iv n2],[ζ (bk [V p0_0,iv p0_1,V p0_2,bv p0_3])]))):=by kernel_rfl
theorem e96(p0_0:Rw)(p0_1:Int)(p0_2:Rw)(p0_3:Bool)(x1:ByteArray):By A D Ag AmS .n 96 An6 [δ 0 0,sv x1] [bk [V p0_0,iv p0_1,V p0_2,bv p0_3]] =
 Ae D (Φ 92) [δ 0 0] [bk [V p0_0,iv p0_1,V p0_2,bv p0_3]] [.a,.I,.S,.I,.I,.N,.T,.L,.I,.L,.B,.N,.E] λn s _ _ xs n3 xs1 b=>
 br (A.seq s x1)
 (br (A.eq n 2)
 (some ((bv true,[ζ (bk [V xs,iv n3,V xs1,bv b])])))
 (br (A.eq n 1)
 (some ((bv true,[ζ (bk [V xs,iv n3,V xs1,bv b])])))
 (br (A.eq n 4)
 (some ((bv true,[ζ (bk [V xs,iv n3,V xs1,bv b])])))
 (some ((bv false,[ζ (bk [V xs,iv n3,V xs1,bv b])]))))))
 (some ((bv false,[ζ (bk [V xs,iv n3,V xs1,bv b])]))):=by kernel_rfl
theorem e93(p0_0:Rw)(p0_1:Int)(p0_2:Rw)(p0_3:Bool)(x1:ByteArray):By A D Ag AmP .n 93 An3 [δ 0 0,sv x1] [bk [V p0_0,iv p0_1,V p0_2,bv p0_3]] =
 Ae D (Φ 96) [δ 0 0,sv x1] [bk [V p0_0,iv p0_1,V p0_2,bv p0_3]] [.b,.T,.L,.I,.L,.B,.N,.E] λb xs n xs1 b1=>
 br b
 (some ((bv true,[ζ (bk [V xs,iv (A.add Δ n 1),V xs1,bv b1])])))
 (some ((bv false,[ζ (bk [V xs,iv n,V xs1,bv b1])]))):=by kernel_rfl
theorem ApA(p0_0:Rw)(p0_1:Int)(p0_2:Rw)(p0_3:Bool)(x1:ByteArray):By A D Ag Aiw .n 248 AjM [δ 0 0,sv x1] [bk [V p0_0,iv p0_1,V p0_2,bv p0_3]] =
 Ae D (Φ 93) [δ 0 0,sv x1] [bk [V p0_0,iv p0_1,V p0_2,bv p0_3]] [.b,.T,.L,.I,.L,.B,.N,.E] λb xs n xs1 b1=>
 br b
 (some ((iv 0,[ζ (bk [V xs,iv n,V xs1,bv b1])])))
 (some ((iv 101,[ζ (bk [V xs,iv n,V xs1,bv b1])]))):=by kernel_rfl
theorem Ao6(p0_0:Rw)(p0_1:Int)(p0_2:Rw)(p0_3:Bool):By A D Ag Ah9 .n 162 Ajo [δ 0 0] [bk [V p0_0,iv p0_1,V p0_2,bv p0_3]] =
 Ae D (Φ 92) [δ 0 0] [bk [V p0_0,iv p0_1,V p0_2,bv p0_3]] [.a,.I,.S,.I,.I,.N,.T,.L,.I,.L,.B,.N,.E] λn s _ _ xs n3 xs1 b=>
 br (A.eq n 1)
 (Ae D (Φ 109) [sv s] [] [.b,.E] λb1=>
 br b1
 (some ((bv true,[ζ (bk [V xs,iv n3,V xs1,bv b])])))
 (some ((bv false,[ζ (bk [V xs,iv n3,V xs1,bv b])]))))
 (some ((bv false,[ζ (bk [V xs,iv n3,V xs1,bv b])]))):=by kernel_rfl
theorem Ao7(p0_0:Rw)(p0_1:Int)(p0_2:Rw)(p0_3:Bool):By A D Ag Aia (.b (.b .n (.b .n (.b (.t (.t (.t (.t (.t (.t (.b (.t (.b .n (.t .n))) (.t (.b (.t .n) .n))))))))) (.f (.f (.f (.f (.f (.f (.f (.f .n))))))))))) .n) 163 Ajp [δ 0 0] [bk [V p0_0,iv p0_1,V p0_2,bv p0_3]] =
 Ae D (Φ 92) [δ 0 0] [bk [V p0_0,iv p0_1,V p0_2,bv p0_3]] [.a,.I,.S,.I,.I,.N,.T,.L,.I,.L,.B,.N,.E] λ_ s _ _ xs n3 xs1 b=>
 Ae D (Φ 162) [δ 0 0] [bk [V xs,iv n3,V xs1,bv b]] [.b,.T,.L,.I,.L,.B,.N,.E] λb1 xs2 n4 xs3 b2=>
 br b1
 (br b2
 (br b2 (br b2 (br b2 (br b2 (br b2 (br b2 (AD D (Φ 219) [V xs3,sv s] [] λr2 o2=>
 GN r2 λb3=>
 C8 o2<|
 br b3
 (br b2 (br b2 (some ((φ [sv s,iv 0],[ζ (bk [V xs2,iv (A.add Δ n4 1),V xs3,bv b2])]))) none) none)
 (br b2 (br b2 (some ((φ [sv (Af []),iv 110],[ζ (bk [V xs2,iv n4,V xs3,bv b2])]))) none) none)) none) none) none) none) none) none)
 (br b2 none (br b2 none (br b2 none (br b2 none (br b2 none (br b2 none (br b2 none (br b2 none (some ((φ [sv s,iv 0],[ζ (bk [V xs2,iv (A.add Δ n4 1),V xs3,bv b2])]))))))))))))
 (some ((φ [sv (Af []),iv 101],[ζ (bk [V xs2,iv n4,V xs3,bv b2])]))):=by kernel_rfl
theorem e95(p0_0:Rw)(p0_1:Int)(p0_2:Rw)(p0_3 x1:Bool):By A D Ag AmR .n 95 An5 [δ 0 0,bv x1] [bk [V p0_0,iv p0_1,V p0_2,bv p0_3]] =
 Ae D (Φ 92) [δ 0 0] [bk [V p0_0,iv p0_1,V p0_2,bv p0_3]] [.a,.I,.S,.I,.I,.N,.T,.L,.I,.L,.B,.N,.E] λn s _ _ xs n3 xs1 b=>
 br (A.eq n 3)
 (Ae D (Φ 93) [δ 0 0,sv (Af [42])] [bk [V xs,iv (A.add Δ n3 1),V xs1,bv b]] [.b,.T,.L,.I,.L,.B,.N,.E] λb1 xs2 n4 xs3 b2=>
 br b1
 (Ae D (Φ 163) [δ 0 0] [bk [V xs2,iv n4,V xs3,bv b2]] [.t,.S,.I,.N,.T,.L,.I,.L,.B,.N,.E] λs1 n5 xs4 n6 xs5 b3=>
 some ((φ [Ξ [bv x1,sv s,sv s1],iv n5],[ζ (bk [V xs4,iv n6,V xs5,bv b3])])))
 (some ((φ [Ξ [bv x1,sv s,sv (Af [])],iv 0],[ζ (bk [V xs2,iv n4,V xs3,bv b2])]))))
 (Ae D (Φ 163) [δ 0 0] [bk [V xs,iv n3,V xs1,bv b]] [.t,.S,.I,.N,.T,.L,.I,.L,.B,.N,.E] λs1 n4 xs2 n5 xs3 b1=>
 some ((φ [Ξ [bv x1,sv (Af []),sv s1],iv n4],[ζ (bk [V xs2,iv n5,V xs3,bv b1])]))):=by kernel_rfl
theorem e94(p0_0:Rw)(p0_1:Int)(p0_2:Rw)(p0_3:Bool):By A D Ag AmQ .n 94 An4 [δ 0 0] [bk [V p0_0,iv p0_1,V p0_2,bv p0_3]] =
 Ae D (Φ 92) [δ 0 0] [bk [V p0_0,iv p0_1,V p0_2,bv p0_3]] [.a,.I,.S,.I,.I,.N,.T,.L,.I,.L,.B,.N,.E] λn _ _ _ xs n3 xs1 b=>
 br (A.eq n 3)
 (some ((bv true,[ζ (bk [V xs,iv n3,V xs1,bv b])])))
 (Ae D (Φ 162) [δ 0 0] [bk [V xs,iv n3,V xs1,bv b]] [.b,.T,.L,.I,.L,.B,.N,.E] λb1 xs2 n4 xs3 b2=>
 br b1
 (some ((bv true,[ζ (bk [V xs2,iv n4,V xs3,bv b2])])))
 (some ((bv false,[ζ (bk [V xs2,iv n4,V xs3,bv b2])])))):=by kernel_rfl
theorem e49(p0_0:Rw)(p0_1:Int)(p0_2:Rw)(p0_3:Bool):By A D Ag Ace .n 49 Agi [δ 0 0] [bk [V p0_0,iv p0_1,V p0_2,bv p0_3]] =
 Ae D (Φ 93) [δ 0 0,sv (Af [45])] [bk [V p0_0,iv p0_1,V p0_2,bv p0_3]] [.b,.T,.L,.I,.L,.B,.N,.E] λb xs n xs1 b1=>
 br b
 (Ae D (Arh 49 0) [δ 0 0,π 1 0 0 3,bv true] [bk [V xs,iv n,V xs1,bv b1],U [] true true] [.t,.C,.x,.X,.Y] λc1 l5 o1=>
 br (Bb 0 c1)
 (dk [.P 0 0,.L,.I,.N,.T,.L,.I,.L,.B,.N,.D,.E] [.l l5,.o o1] λxs2 n1 xs3 n2 xs4 b2=>
 some ((φ [V xs2,iv n1],[ζ (bk [V xs3,iv n2,V xs4,bv b2])])))
 (none))
 (Ae D (Arh 49 0) [δ 0 0,π 1 0 0 3,bv false] [bk [V xs,iv n,V xs1,bv b1],U [] true true] [.t,.C,.x,.X,.Y] λc1 l5 o1=>
 br (Bb 0 c1)
 (dk [.P 0 0,.L,.I,.N,.T,.L,.I,.L,.B,.N,.D,.E] [.l l5,.o o1] λxs2 n1 xs3 n2 xs4 b2=>
 some ((φ [V xs2,iv n1],[ζ (bk [V xs3,iv n2,V xs4,bv b2])])))
 (none)):=by kernel_rfl
theorem AhC(b0_0:Rw)(b0_1:Int)(b0_2:Rw)(b0_3:Bool)(n4:Nat)(c4:List AV)(t5:Bool):EH A D Ag Ace .n 49 0 (AW Agi 0).fst (AW Agi 0).snd [δ 0 0,π 1 0 n4 3,bv t5] [bk [V b0_0,iv b0_1,V b0_2,bv b0_3],{ cells:=c4,st:=true,ex:=true }] =
 br (A.eq (↑n4) 64)
 (Ae D (Φ 94) [δ 0 0] [bk [V b0_0,iv b0_1,V b0_2,bv b0_3]] [.b,.T,.L,.I,.L,.B,.N,.E] λb xs n xs1 b1=>
 br b
 (some ((φ [bv true,δ 0 0,V [],iv 3],[ζ (bk [V xs,iv n,V xs1,bv b1]),BO.del])))
 (Ae D (Φ 95) [δ 0 0,bv t5] [bk [V xs,iv n,V xs1,bv b1]] [.t,.A,.B,.S,.S,.N,.I,.N,.T,.L,.I,.L,.B,.N,.E] λb2 s s1 n1 xs2 n2 xs3 b3=>
 br (A.eq n1 0)
 (br (Bc (n4+1) 40) (br ((0+n4*3).ble c4.length) (AD D (Φ 96) [δ 0 0,sv (Af [45])] [bk [V xs2,iv n2,V xs3,bv b3]] λr2 o2=>
 dk [.b,.T,.L,.I,.L,.B,.N,.E] [.v r2,.o o2] λb4 xs4 n3 xs5 b5=>
 br b4
 (Ae D (Φ 93) [δ 0 0,sv (Af [45])] [bk [V xs4,iv n3,V xs5,bv b5]] [.b,.T,.L,.I,.L,.B,.N,.E] λb6 xs6 n5 xs7 b7=>
 br b6
 (AD D (Arh 49 0) [δ 0 0,π 1 0 (n4+1) 3,bv true] [bk [V xs6,iv n5,V xs7,bv b7],U (ο 0 (ι (0+n4*3) c4)++[bv b2,sv s,sv s1]) true true] λr4 o4=>
 AE 2 [0,4] (AH.mk [(0,bk [V xs6,iv n5,V xs7,bv b7]),(4,U (ο 0 (ι (0+n4*3) c4)++[bv b2,sv s,sv s1]) true true),(3,U [bv b2,sv s,sv s1] true true),(2,bk [bv b2,sv s,sv s1])] 5 none) [1,0] r4 o4)
 (Ae D (Φ 93) [δ 0 0,sv (Af [43])] [bk [V xs6,iv n5,V xs7,bv b7]] [.b,.T,.L,.I,.L,.B,.N,.E] λb8 xs8 n6 xs9 b9=>
 br b8
 (AD D (Arh 49 0) [δ 0 0,π 1 0 (n4+1) 3,bv true] [bk [V xs8,iv n6,V xs9,bv b9],U (ο 0 (ι (0+n4*3) c4)++[bv b2,sv s,sv s1]) true true] λr5 o5=>
 AE 2 [0,4] (AH.mk [(0,bk [V xs8,iv n6,V xs9,bv b9]),(4,U (ο 0 (ι (0+n4*3) c4)++[bv b2,sv s,sv s1]) true true),(3,U [bv b2,sv s,sv s1] true true),(2,bk [bv b2,sv s,sv s1])] 5 none) [1,0] r5 o5)
 (br ((0+(n4+1)*3).ble (ο 0 (ι (0+n4*3) c4)++[bv b2,sv s,sv s1]).length) (some ((φ [bv true,δ 0 0,V (BC (n4+1) 3 (ι ((n4+1)*3) (ο 0 (ο 0 (ι (0+n4*3) c4)++[bv b2,sv s,sv s1])))),iv 0],[ζ (bk [V xs8,iv n6,V xs9,bv b9]),BO.del]))) none)))
 (Ae D (Φ 93) [δ 0 0,sv (Af [45])] [bk [V xs4,iv n3,V xs5,bv b5]] [.b,.T,.L,.I,.L,.B,.N,.E] λb6 xs6 n5 xs7 b7=>
 br b6
 (AD D (Arh 49 0) [δ 0 0,π 1 0 (n4+1) 3,bv false] [bk [V xs6,iv n5,V xs7,bv b7],U (ο 0 (ι (0+n4*3) c4)++[bv b2,sv s,sv s1]) true true] λr4 o4=>
 AE 2 [0,4] (AH.mk [(0,bk [V xs6,iv n5,V xs7,bv b7]),(4,U (ο 0 (ι (0+n4*3) c4)++[bv b2,sv s,sv s1]) true true),(3,U [bv b2,sv s,sv s1] true true),(2,bk [bv b2,sv s,sv s1])] 5 none) [1,0] r4 o4)
 (Ae D (Φ 93) [δ 0 0,sv (Af [43])] [bk [V xs6,iv n5,V xs7,bv b7]] [.b,.T,.L,.I,.L,.B,.N,.E] λb8 xs8 n6 xs9 b9=>
 br b8
 (AD D (Arh 49 0) [δ 0 0,π 1 0 (n4+1) 3,bv false] [bk [V xs8,iv n6,V xs9,bv b9],U (ο 0 (ι (0+n4*3) c4)++[bv b2,sv s,sv s1]) true true] λr5 o5=>
 AE 2 [0,4] (AH.mk [(0,bk [V xs8,iv n6,V xs9,bv b9]),(4,U (ο 0 (ι (0+n4*3) c4)++[bv b2,sv s,sv s1]) true true),(3,U [bv b2,sv s,sv s1] true true),(2,bk [bv b2,sv s,sv s1])] 5 none) [1,0] r5 o5)
 (br ((0+(n4+1)*3).ble (ο 0 (ι (0+n4*3) c4)++[bv b2,sv s,sv s1]).length) (some ((φ [bv true,δ 0 0,V (BC (n4+1) 3 (ι ((n4+1)*3) (ο 0 (ο 0 (ι (0+n4*3) c4)++[bv b2,sv s,sv s1])))),iv 0],[ζ (bk [V xs8,iv n6,V xs9,bv b9]),BO.del]))) none)))) none) none)
 (some ((φ [bv true,δ 0 0,V [],iv n1],[ζ (bk [V xs2,iv n2,V xs3,bv b3]),BO.del])))))
 (Ae D (Φ 95) [δ 0 0,bv t5] [bk [V b0_0,iv b0_1,V b0_2,bv b0_3]] [.t,.A,.B,.S,.S,.N,.I,.N,.T,.L,.I,.L,.B,.N,.E] λb s s1 n xs n1 xs1 b1=>
 br (A.eq n 0)
 (br (Bc (n4+1) 40) (br ((0+n4*3).ble c4.length) (AD D (Φ 96) [δ 0 0,sv (Af [45])] [bk [V xs,iv n1,V xs1,bv b1]] λr1 o1=>
 dk [.b,.T,.L,.I,.L,.B,.N,.E] [.v r1,.o o1] λb2 xs2 n2 xs3 b3=>
 br b2
 (Ae D (Φ 93) [δ 0 0,sv (Af [45])] [bk [V xs2,iv n2,V xs3,bv b3]] [.b,.T,.L,.I,.L,.B,.N,.E] λb4 xs4 n3 xs5 b5=>
 br b4
 (AD D (Arh 49 0) [δ 0 0,π 1 0 (n4+1) 3,bv true] [bk [V xs4,iv n3,V xs5,bv b5],U (ο 0 (ι (0+n4*3) c4)++[bv b,sv s,sv s1]) true true] λr3 o3=>
 AE 2 [0,4] (AH.mk [(0,bk [V xs4,iv n3,V xs5,bv b5]),(4,U (ο 0 (ι (0+n4*3) c4)++[bv b,sv s,sv s1]) true true),(3,U [bv b,sv s,sv s1] true true),(2,bk [bv b,sv s,sv s1])] 5 none) [1,0] r3 o3)
 (Ae D (Φ 93) [δ 0 0,sv (Af [43])] [bk [V xs4,iv n3,V xs5,bv b5]] [.b,.T,.L,.I,.L,.B,.N,.E] λb6 xs6 n5 xs7 b7=>
 br b6
 (AD D (Arh 49 0) [δ 0 0,π 1 0 (n4+1) 3,bv true] [bk [V xs6,iv n5,V xs7,bv b7],U (ο 0 (ι (0+n4*3) c4)++[bv b,sv s,sv s1]) true true] λr4 o4=>
 AE 2 [0,4] (AH.mk [(0,bk [V xs6,iv n5,V xs7,bv b7]),(4,U (ο 0 (ι (0+n4*3) c4)++[bv b,sv s,sv s1]) true true),(3,U [bv b,sv s,sv s1] true true),(2,bk [bv b,sv s,sv s1])] 5 none) [1,0] r4 o4)
 (br ((0+(n4+1)*3).ble (ο 0 (ι (0+n4*3) c4)++[bv b,sv s,sv s1]).length) (some ((φ [bv true,δ 0 0,V (BC (n4+1) 3 (ι ((n4+1)*3) (ο 0 (ο 0 (ι (0+n4*3) c4)++[bv b,sv s,sv s1])))),iv 0],[ζ (bk [V xs6,iv n5,V xs7,bv b7]),BO.del]))) none)))
 (Ae D (Φ 93) [δ 0 0,sv (Af [45])] [bk [V xs2,iv n2,V xs3,bv b3]] [.b,.T,.L,.I,.L,.B,.N,.E] λb4 xs4 n3 xs5 b5=>
 br b4
 (AD D (Arh 49 0) [δ 0 0,π 1 0 (n4+1) 3,bv false] [bk [V xs4,iv n3,V xs5,bv b5],U (ο 0 (ι (0+n4*3) c4)++[bv b,sv s,sv s1]) true true] λr3 o3=>
 AE 2 [0,4] (AH.mk [(0,bk [V xs4,iv n3,V xs5,bv b5]),(4,U (ο 0 (ι (0+n4*3) c4)++[bv b,sv s,sv s1]) true true),(3,U [bv b,sv s,sv s1] true true),(2,bk [bv b,sv s,sv s1])] 5 none) [1,0] r3 o3)
 (Ae D (Φ 93) [δ 0 0,sv (Af [43])] [bk [V xs4,iv n3,V xs5,bv b5]] [.b,.T,.L,.I,.L,.B,.N,.E] λb6 xs6 n5 xs7 b7=>
 br b6
 (AD D (Arh 49 0) [δ 0 0,π 1 0 (n4+1) 3,bv false] [bk [V xs6,iv n5,V xs7,bv b7],U (ο 0 (ι (0+n4*3) c4)++[bv b,sv s,sv s1]) true true] λr4 o4=>
 AE 2 [0,4] (AH.mk [(0,bk [V xs6,iv n5,V xs7,bv b7]),(4,U (ο 0 (ι (0+n4*3) c4)++[bv b,sv s,sv s1]) true true),(3,U [bv b,sv s,sv s1] true true),(2,bk [bv b,sv s,sv s1])] 5 none) [1,0] r4 o4)
 (br ((0+(n4+1)*3).ble (ο 0 (ι (0+n4*3) c4)++[bv b,sv s,sv s1]).length) (some ((φ [bv true,δ 0 0,V (BC (n4+1) 3 (ι ((n4+1)*3) (ο 0 (ο 0 (ι (0+n4*3) c4)++[bv b,sv s,sv s1])))),iv 0],[ζ (bk [V xs6,iv n5,V xs7,bv b7]),BO.del]))) none)))) none) none)
 (some ((φ [bv true,δ 0 0,V [],iv n],[ζ (bk [V xs,iv n1,V xs1,bv b1]),BO.del])))):=by kernel_rfl
theorem e90:By A D Ag AmN .n 90 An1 [] [] =
 some ((V [[sv (Af [61])],[sv (Af [33,61])],[sv (Af [60])],[sv (Af [60,61])],[sv (Af [62])],[sv (Af [62,61])]],[])):=by kernel_rfl
theorem e88(x0:Rw)(x1:ByteArray):By A D Ag TK .n 88 Ac0 [V x0,sv x1] [] =
 Ae D (Arh 88 0) [V x0,sv x1,iv ↑(AZ x0),iv 0] [] [.t,.C,.x,.X,.Y] λc l o=>
 br (Bb 0 c)
 (dk [.I,.N,.E] [.l l,.o o] λn=>
 some ((iv n,[])))
 (br (Bb 1 c)
 (Dg l<|
 C8 o<|
 some ((iv (-1),[])))
 (none)):=by kernel_rfl
theorem Xj(t0:Rw)(t1:ByteArray)(t7 t8:Int):EH A D Ag TK .n 88 0 (AW Ac0 0).fst (AW Ac0 0).snd [V t0,sv t1,iv t7,iv t8] [] =
 br (A.lt t8 t7)
 (unI t8 λi=>
 B7 t0 i λcs=>
 dk [.S,.N] [.l cs] λs=>
 br (A.seq t1 s)
 (some ((φ [bv true,iv t8],[])))
 (AD D (Arh 88 0) [V t0,sv t1,iv t7,iv (A.add Δ t8 1)] [] λr o=>
 AE 0 [] (AH.mk [] 0 none) [] r o))
 (some ((φ [iv 0],[]))):=by kernel_rfl
theorem Apt(x0:Rw)(x1:ByteArray):By A D Ag Aip .n 219 AcY [V x0,sv x1] [] =
 Ae D (Φ 88) [V x0,sv x1] [] [.i,.E] λn=>
 br (A.le 0 n)
 (some ((bv true,[])))
 (some ((bv false,[]))):=by kernel_rfl
end
section
variable {D:Orc}
theorem Adc{α:Type}(l:List α)(h:l≠[])(d:α):l[l.length-1]? = some (l.getLastD d):=by
 rw[←List.getLast?_eq_getElem?,Att h,List.getLastD_eq_getLast?,Att h];rfl
theorem JP(K:Knows Ag CR D)(ts:List Tk)(vars:List ByteArray)(kn:Bool)(i:Nat)(hts:ts.length<4611686018427387904)(hi:i<4611686018427387904):D.ask (.fn 92) [.ptr 0 0] [Bt ts vars kn i]=some (.agg (MF (nx ts i)),[.set (Bt ts vars kn i)]):=by
 refine K.fn' AmO _ rfl ((e92 ..).trans ?_);simp only[Fp,Aw,Ff]
 by_cases h0:ts=[]
 .subst h0
  rw[if_pos (by simp)];rfl
 .have hl:0<ts.length:=List.length_pos_iff.2 h0
  rw[if_neg (by simp[h0])];have e1:Ah.sub .i64 (ts.length:Int) 1=((ts.length-1:Nat):Int):=by rw[LR (by omega) (by omega)];omega
  obtain⟨k,e2,e3⟩:∃ k:Nat,Ah.min (Ah.max (i:Int) 0) (Ah.sub .i64 (ts.length:Int) 1)=(k:Int)/\ts[k]? = some (nx ts i):=by
   rw[e1,Aoj,Aj5];unfold nx
   by_cases h:i<ts.length
   .exact⟨i,by omega,by rw[Ψ h]⟩
   .exact⟨ts.length-1,by omega,by rw[Asc (show ts.length<=i by omega),Adc ts h0 ⟨5,[],0,0⟩]⟩
  rw[e2,Ax];rw[AF e3];simp only[MF,ND,DK,Aa];rfl
theorem AiO(K:Knows Ag CR D)(ts:List Tk)(vars:List ByteArray)(kn:Bool)(i:Nat)(hts:ts.length<4611686018427387904)(hi:i<4611686018427387904)(s:List UInt8):D.ask (.fn 96) [.ptr 0 0,sv (Af s)] [Bt ts vars kn i]=some (bv (isT ts i s),[.set (Bt ts vars kn i)]):=by
 refine K.fn' AmS _ rfl ((e96 ..).trans ?_);refine Ab (JP K ts vars kn i hts hi) ?_;unfold isT;simp only[MF,Bt,ND,DK,Aa,ci0,ci1,ci2,ci3,ci4,ci5,ci6,JM,LN,Fp,F6,BG,Gz,LM,Ff,IK]
 by_cases h1:(nx ts i).text=s<;>by_cases h2:(nx ts i).kind=1<;>by_cases h3:(nx ts i).kind=2<;>by_cases h4:(nx ts i).kind=4<;>simp[h1,h2,h3,h4]
theorem BK(K:Knows Ag CR D)(ts:List Tk)(vars:List ByteArray)(kn:Bool)(i:Nat)(hts:ts.length<4611686018427387904)(hi:i<4611686018427387904)(s:List UInt8):D.ask (.fn 93) [.ptr 0 0,sv (Af s)] [Bt ts vars kn i]=some (bv (isT ts i s),[.set (Bt ts vars kn (if isT ts i s then i+1 else i))]):=by
 refine K.fn' AmP _ rfl ((e93 ..).trans ?_);refine Ab (AiO K ts vars kn i hts hi s) ?_;simp only[Bt,ND,DK,Aa,Bo hi]
 cases isT ts i s<;>rfl
theorem Yv(K:Knows Ag CR D)(ts:List Tk)(vars:List ByteArray)(kn:Bool)(i:Nat)(hts:ts.length<4611686018427387904)(hi:i<4611686018427387904)(s:List UInt8):D.ask (.fn 248) [.ptr 0 0,sv (Af s)] [Bt ts vars kn i]=some (iv (if isT ts i s then 0 else 101),[.set (Bt ts vars kn (if isT ts i s then i+1 else i))]):=by
 refine K.fn' Aiw _ rfl ((ApA ..).trans ?_);refine Ab (BK K ts vars kn i hts hi s) ?_;simp only[Bt,ND,DK,Aa]
 cases isT ts i s<;>rfl
structure NameF (D:Orc):Prop where
 name:∀ s:List UInt8,s.length<4611686018427387904->D.ask (.fn 109) [sv (Af s)] []=some (bv (Cq s),[])
def Mp(ts:List Tk):Prop:=∀ i,(nx ts i).text.length<4611686018427387904
theorem XZ(K:Knows Ag CR D)(L:NameF D)(ts:List Tk)(vars:List ByteArray)(kn:Bool)(i:Nat)(hts:ts.length<4611686018427387904)(hs:Mp ts)(hi:i<4611686018427387904):D.ask (.fn 162) [.ptr 0 0] [Bt ts vars kn i]=some (bv (isN ts i),[.set (Bt ts vars kn i)]):=by
 refine K.fn' Ah9 _ rfl ((Ao6 ..).trans ?_);refine Ab (JP K ts vars kn i hts hi) ?_;unfold isN;simp only[MF,Bt,ND,DK,Aa,ci0,ci1,ci2,ci3,ci4,ci5,ci6,JM,LN,Fp,F6,BG,Gz,LM]
 by_cases h:(nx ts i).kind=1
 .simp only[h,decide_true,ND,DK,Aa]
  refine Ab (L.name _ (hs i)) ?_;simp only[ND,DK,Aa]
  cases Cq (nx ts i).text<;>rfl
 .simp only[h,decide_false,ND,DK,Aa]
  rfl
theorem YI(K:Knows Ag CR D)(L:NameF D)(ts:List Tk)(vars:List ByteArray)(kn:Bool)(i:Nat)(hts:ts.length<4611686018427387904)(hs:Mp ts)(hi:i<4611686018427387904):D.ask (.fn 94) [.ptr 0 0] [Bt ts vars kn i]=some (bv (Ol ts i),[.set (Bt ts vars kn i)]):=by
 refine K.fn' AmQ _ rfl ((e94 ..).trans ?_);refine Ab (JP K ts vars kn i hts hi) ?_;unfold Ol;simp only[MF,Bt,ND,DK,Aa,ci0,ci1,ci2,ci3,ci4,ci5,ci6,JM,LN,Fp,F6,BG,Gz,LM]
 by_cases h:(nx ts i).kind=3
 .simp only[h,decide_true,ND,DK,Aa]
  rfl
 .simp only[h,decide_false,ND,DK,Aa]
  refine Ab (XZ K L ts vars kn i hts hs hi) ?_;simp only[Bt,ND,DK,Aa]
  cases isN ts i<;>rfl
def CC:Option Nat->Int
 |some j=>j
 |none=>-1
def FY(i:Nat):Option Nat->AV
 |some j=>.tup [bv true,iv ((i+j:Nat):Int)]
 |none=>.tup [iv 0]
theorem Acm(K:Knows Ag CR D)(xs:List ByteArray)(hx:xs.length<4611686018427387904)(s:ByteArray):∀(k i:Nat),xs.length-i=k->D.ask (.lp 88 0) [.ls (xs.map eS),sv s,iv (xs.length:Int),iv (i:Int)] []=some (FY i ((xs.drop i).findIdx? (s = ·)),[]):=by
 intro k
 induction k with
 |zero=>
  intro i hi;refine K.lp' TK _ rfl (by kernel_rfl) ((Xj ..).trans ?_);have:xs.drop i=[]:=Ark (by omega);simp only[JM,this,Ff];rw[if_neg (by simp;omega)];rfl
 |succ k ih=>
  intro i hi;have hlt:i<xs.length:=by omega
  refine K.lp' TK _ rfl (by kernel_rfl) ((Xj ..).trans ?_);have e1:xs.drop i=xs[i]::xs.drop (i+1):=Arf hlt;have ih':=ih (i+1) (by omega);have e2:Ah.add .i64 (i:Int) 1=((i+1:Nat):Int):=Bo (by omega);simp only[JM,Ax,G9,Ψ hlt,eS,ND,DK,Aa,F6,e2,Ff];rw[if_pos (by simpa using hlt),e1,Atz]
  by_cases h:s=xs[i]
  .simp[←h,FY]
  .rw[if_neg (by simpa using h),if_neg (by simpa using h)]
   refine Ab ih' ?_
   cases (xs.drop (i+1)).findIdx? (s = ·) with
   |none=>rfl
   |some j=>
    simp only[FY,Arp,show i+(j+1)=i+1+j by omega];rfl
theorem TP(K:Knows Ag CR D)(xs:List ByteArray)(hx:xs.length<4611686018427387904)(s:ByteArray):D.ask (.fn 88) [.ls (xs.map eS),sv s] []=some (iv (CC (xs.findIdx? (s = ·))),[]):=by
 refine K.fn' TK _ rfl ((e88 ..).trans ?_);rw[Aw];refine Ab (Acm K xs hx s _ 0 rfl) ?_;rw[υ]
 cases xs.findIdx? (s = ·) with
 |none=>rfl
 |some j=>simp only[FY,ND,DK,Aa,Ary];rfl
theorem KJ(xs:List ByteArray)(s:ByteArray):decide (0<=CC (xs.findIdx? (s = ·)))=decide (s∈xs):=by
 cases e:xs.findIdx? (s = ·) with
 |none=>
  have:=AtL.1 e;have h:s∉xs:=λh=>by simpa using this s h
  simp[CC,h]
 |some j=>
  obtain⟨h,h2,_⟩:=ArT.1 e;have:s∈xs:=by
   have h2:s=xs[j]:=by simpa using h2
   rw[h2];exact Ars h
  simp[CC,this]
theorem S8(K:Knows Ag CR D)(xs:List ByteArray)(hx:xs.length<4611686018427387904)(s:ByteArray):D.ask (.fn 219) [.ls (xs.map eS),sv s] []=some (bv (decide (s∈xs)),[]):=by
 refine K.fn' Aip _ rfl ((Apt ..).trans ?_);refine Ab (TP K xs hx s) ?_;simp only[ND,DK,Aa,LN,KJ]
 cases decide (s∈xs)<;>rfl
theorem NC(K:Knows Ag CR D)(L:NameF D)(ts:List Tk)(vars:List ByteArray)(kn:Bool)(i:Nat)(hts:ts.length<4611686018427387904)(hv:vars.length<4611686018427387904)(hs:Mp ts)(hi:i<4611686018427387904):D.ask (.fn 163) [.ptr 0 0] [Bt ts vars kn i]=some (.tup [sv (Hl ts vars kn i).2.2,iv ((Hl ts vars kn i).2.1:Int)],[.set (Bt ts vars kn (Hl ts vars kn i).1)]):=by
 refine K.fn' Aia _ rfl ((Ao7 ..).trans ?_);refine Ab (JP K ts vars kn i hts hi) ?_;simp only[MF,Bt,ND,DK,Aa];refine Ab (XZ K L ts vars kn i hts hs hi) ?_;unfold Hl;simp only[Bt,ND,DK,Aa,Bo hi]
 cases isN ts i with
 |false=>rfl
 |true=>
  cases kn with
  |false=>rfl
  |true=>
   simp only[ND,DK,Aa,Bool.true_eq_false,if_false,true_and];refine Ab (S8 K vars hv _) ?_;simp only[ND,DK,Aa]
   by_cases h:Af (nx ts i).text∈vars<;>simp only[h,decide_true,decide_false,ND,DK,Aa,not_true,not_false_eq_true,if_true,if_false]<;>rfl
theorem Yu(ts:List Tk)(vars:List ByteArray)(kn:Bool)(i:Nat):i<=(Hl ts vars kn i).1/\(Hl ts vars kn i).1<=i+1:=by
 unfold Hl;split
 .simp
 .split<;>simp
theorem Ac3(ts:List Tk)(vars:List ByteArray)(kn:Bool)(i:Nat)(neg:Bool):i<=(A3 ts vars kn i neg).1/\(A3 ts vars kn i neg).1<=i+3:=by
 unfold A3;have h1:=Yu ts vars kn i;have h2:=Yu ts vars kn (i+2);split
 .split
  .simp only;omega
  .simp
 .simp only;omega
theorem XW(K:Knows Ag CR D)(L:NameF D)(ts:List Tk)(vars:List ByteArray)(kn:Bool)(i:Nat)(hts:ts.length<4611686018427387904)(hv:vars.length<4611686018427387904)(hs:Mp ts)(hi:i+3<4611686018427387904)(neg:Bool):D.ask (.fn 95) [.ptr 0 0,bv neg] [Bt ts vars kn i]=some (.tup [.agg (E9 (A3 ts vars kn i neg).2.2),iv ((A3 ts vars kn i neg).2.1:Int)],[.set (Bt ts vars kn (A3 ts vars kn i neg).1)]):=by
 refine K.fn' AmR _ rfl ((e95 ..).trans ?_);refine Ab (JP K ts vars kn i hts (by omega)) ?_;unfold A3 E9;simp only[MF,Bt,ND,DK,Aa,ci0,ci1,ci2,ci3,ci4,ci5,ci6,JM,LN,Fp,F6,BG,Gz,LM]
 by_cases h:(nx ts i).kind=3
 .simp only[h,decide_true,ND,DK,Aa,Bo (show i<4611686018427387904 by omega),if_true]
  refine Ab (BK K ts vars kn (i+1) hts (by omega) _) ?_;simp only[Bt,ND,DK,Aa]
  cases isT ts (i+1) [42]with
  |false=>rfl
  |true=>
   simp only[if_true,ND,DK,Aa];refine Ab (NC K L ts vars kn (i+2) hts hv hs (by omega)) ?_;simp only[Bt,ND,DK,Aa]
 .simp only[h,decide_false,ND,DK,Aa,if_false]
  refine Ab (NC K L ts vars kn i hts hv hs (by omega)) ?_;simp only[Bt,ND,DK,Aa]
end
section
open Go.RowKit
variable (A:Ar) (D:Orc)
end
section
variable {D:Orc}
structure RNameF (D:Orc):Prop where
 name:∀ s:List UInt8,s.length<4611686018427387904->D.ask (.fn 77) [sv (Af s)] []=some (bv (Cq s),[])
end
section
variable {D:Orc}
theorem N1(m:Mo):(E9 m).length=3:=rfl
theorem Qi{ts:List Tk}{vars:List ByteArray}{kn:Bool}{i:Nat}{neg:Bool}(h:Ol ts i=false):(A3 ts vars kn i neg).1=i/\(A3 ts vars kn i neg).2.1=101:=by
 unfold Ol at h;simp only[Bool.or_eq_false_iff,decide_eq_false_iff_not]at h;unfold A3 Hl;rw[if_neg h.1,if_pos h.2];exact⟨rfl,rfl⟩
theorem Ad9(K:Knows Ag CR D)(L:NameF D)(ts:List Tk)(vars:List ByteArray)(kn:Bool)(hts:ts.length<4611686018427387904)(hv:vars.length<4611686018427387904)(hs:Mp ts):∀(k:Nat) (out:List Mo) (neg:Bool) (i:Nat),out.length+k=64->i+4*(k+1)<4611686018427387904->
  D.ask (.lp 49 0) [.ptr 0 0,.sl 1 0 out.length 3,bv neg] [Bt ts vars kn i,U (Ao E9 out) true true]=some (.tup [bv true,.ptr 0 0,.ls ((Ft ts vars kn k out neg i).2.2.map E9),iv ((Ft ts vars kn k out neg i).2.1:Int)],[.set (Bt ts vars kn (Ft ts vars kn k out neg i).1),.del]):=by
 intro k
 induction k with
 |zero=>
  intro out neg i hk hi;refine K.lp' Ace _ rfl (by kernel_rfl) ((AhC ..).trans ?_);have h64:decide ((out.length:Int)=64)=true:=by simp;omega
  simp only[Fp,h64,Afq];refine Ab (YI K L ts vars kn i hts hs (by omega)) ?_;simp only[Bt,ND,DK,Aa];unfold Ft
  cases hb:Ol ts i with
  |true=>rfl
  |false=>
   simp only[ND,DK,Aa];refine Ab (XW K L ts vars kn i hts hv hs (by omega) neg) ?_;obtain⟨h1,h2⟩:=Qi (vars:=vars) (kn:=kn) (neg:=neg) hb;simp only[Bt,E9,ND,DK,Aa,h1,h2];rfl
 |succ k ih=>
  intro out neg i hk hi;refine K.lp' Ace _ rfl (by kernel_rfl) ((AhC ..).trans ?_);have h64:decide ((out.length:Int)=64)=false:=by simp;omega
  simp only[Fp,h64,Afo];refine Ab (XW K L ts vars kn i hts hv hs (by omega) neg) ?_;have hle:=Ac3 ts vars kn i neg
  cases hb:Ol ts i with
  |false=>
   obtain⟨h1,h2⟩:=Qi (vars:=vars) (kn:=kn) (neg:=neg) hb;have e:Ft ts vars kn (k+1) out neg i=(i,101,[]):=by unfold Ft;rw[if_pos hb]
   rw[e];simp only[Bt,E9,ND,DK,Aa,h1,h2];rfl
  |true=>
   by_cases he:(A3 ts vars kn i neg).2.1=0
   .have e3:ο 0 (ι (0+out.length*3) (Ao E9 out))++[bv (A3 ts vars kn i neg).2.2.neg,sv (A3 ts vars kn i neg).2.2.num,sv (A3 ts vars kn i neg).2.2.var]=Ao E9 (out++[(A3 ts vars kn i neg).2.2]):=by
     rw[υ,Bf N1 out (by omega)];exact A9 E9 out _
    have hf:Bc (out.length+1) 40=true:=AN (by omega) (by omega);have hb1:Nat.ble (0+out.length*3) (Ao E9 out).length=true:=AT N1 out (by omega);have hd:decide (((A3 ts vars kn i neg).2.1:Int)=0)=true:=by rw[he];rfl
    have hb2:Nat.ble (0+(out.length+1)*3) (Ao E9 (out++[(A3 ts vars kn i neg).2.2])).length=true:=AT N1 _ (by simp);have hc:BC (out.length+1) 3 (ι ((out.length+1)*3) (ο 0 (Ao E9 (out++[(A3 ts vars kn i neg).2.2]))))=(out++[(A3 ts vars kn i neg).2.2]).map E9:=by
     rw[υ];exact Cz N1 _ (by simp)
    simp only[Bt,E9,ND,DK,Aa,Fp,hd,hf,hb1,e3,hb2,hc];refine Ab (AiO K ts vars kn _ hts (by omega) _) ?_;have ih1:=ih (out++[(A3 ts vars kn i neg).2.2]) true ((A3 ts vars kn i neg).1+1) (by simp;omega) (by omega);have ih2:=ih (out++[(A3 ts vars kn i neg).2.2]) false ((A3 ts vars kn i neg).1+1) (by simp;omega) (by omega);rw[η,List.length_singleton]at ih1 ih2;have e:Ft ts vars kn (k+1) out neg i=if isT ts (A3 ts vars kn i neg).1 [45] then Ft ts vars kn k (out++[(A3 ts vars kn i neg).2.2]) true ((A3 ts vars kn i neg).1+1)
      else if isT ts (A3 ts vars kn i neg).1 [43] then Ft ts vars kn k (out++[(A3 ts vars kn i neg).2.2]) false ((A3 ts vars kn i neg).1+1)
      else((A3 ts vars kn i neg).1,0,out++[(A3 ts vars kn i neg).2.2]):=by
     rw[Ft,hb,if_neg (by simp)];rw[if_neg (by simp[he])]
    rw[e];simp only[Bt,ND,DK,Aa];have tk:=BK K ts vars kn (A3 ts vars kn i neg).1 hts (by omega) [45];have tp:=BK K ts vars kn (A3 ts vars kn i neg).1 hts (by omega) [43]
    cases h45:isT ts (A3 ts vars kn i neg).1 [45]with
    |true=>
     rw[h45]at tk;simp only[ND,DK,Aa,if_true];refine Ab tk ?_;simp only[Bt,ND,DK,Aa,if_true];refine Ab ih1 ?_;rfl
    |false=>
     rw[h45]at tk;simp only[ND,DK,Aa];refine Ab tk ?_;simp only[Bt,ND,DK,Aa,Arr,if_false];refine Ab tp ?_;simp only[Bt,ND,DK,Aa]
     cases h43:isT ts (A3 ts vars kn i neg).1 [43]with
     |true=>
      simp only[ND,DK,Aa,if_true];refine Ab ih2 ?_;rfl
     |false=>rfl
   .have e:Ft ts vars kn (k+1) out neg i=((A3 ts vars kn i neg).1,(A3 ts vars kn i neg).2.1,[]):=by
     rw[Ft,hb,if_neg (by simp)];rw[if_pos he]
    rw[e];have hd:decide (((A3 ts vars kn i neg).2.1:Int)=0)=false:=by simp;exact he
    simp only[Bt,E9,ND,DK,Aa,Fp,hd];rfl
theorem Aeb(K:Knows Ag CR D)(L:NameF D)(ts:List Tk)(vars:List ByteArray)(kn:Bool)(hts:ts.length<4611686018427387904)(hv:vars.length<4611686018427387904)(hs:Mp ts)(i:Nat)(hi:i+300<4611686018427387904):D.ask (.fn 49) [.ptr 0 0] [Bt ts vars kn i]=some (.tup [.ls ((DQ ts vars kn i).2.2.map E9),iv ((DQ ts vars kn i).2.1:Int)],[.set (Bt ts vars kn (DQ ts vars kn i).1)]):=by
 refine K.fn' Ace _ rfl ((e49 ..).trans ?_);refine Ab (BK K ts vars kn i hts (by omega) _) ?_;unfold DQ;simp only[Bt,ND,DK,Aa]
 cases isT ts i [45]with
 |true=>
  simp only[ND,DK,Aa,if_true];refine Ab (Ad9 K L ts vars kn hts hv hs 64 [] true (i+1) rfl (by omega)) ?_;rfl
 |false=>
  simp only[ND,DK,Aa,Arr,if_false];refine Ab (Ad9 K L ts vars kn hts hv hs 64 [] false i rfl (by omega)) ?_;rfl
end
section
open Go.RowKit
def Anf:Bv:=[⟨19,[true,true,false,false,false,false,false,true,true],[],[],[(0,([false,false,false,false,true],([],[]))),(1,([],([],[])))]⟩]
def XR:MFn:=Ia ψ AL Anf false true 262
def TG:Hnt:=⟨[(93,(.bool,[.box [.ls,.int .i64,.ls,.bool]]))],[(0,[(0,([.int .i64],[.box [.ls,.int .i64,.ls,.bool]])),(1,([],[.box [.ls,.int .i64,.ls,.bool]]))])],[(14,[.str]),(15,[.str])]⟩
def AmY:Bv:=[⟨46,[true,true,true,true,true,false,false,false,false,false,true,false,true,true],[],[10,12],[(1,([true,false,false,false,false,false,false,false,false,false,true,false,true,true],([],[])))]⟩]
def AnB:MFn:=Ia ψ AL AmY false true 164
def AjN:MFn:=Ia ψ AL [] false true 249
def Aix:Hnt:=⟨[(49,(.tup [.ls,.int .i64],[.box [.ls,.int .i64,.ls,.bool]])),(90,(.ls,[])),(262,(.int .i64,[.box [.ls,.int .i64,.ls,.bool]]))],[],[]⟩
def AnD:MFn:=Ia ψ AL [] false true 220
def AnC:MFn:=Ia ψ AL [] false true 165
def AnA:MFn:=Ia ψ AL [] false true 104
def Aqn:MFn:=Ia ψ AL [] false true 54
def Hh:List (Nat × MFn):=[(262,XR),(164,AnB),(249,AjN),(220,AnD),(165,AnC),(104,AnA),(54,Aqn)]
variable (A:Ar) (D:Orc)
theorem ApH(x0 p_0:Rw)(p_1:Int)(p_2:Rw)(p_3:Bool):By A D Ag TG .n 262 XR [V x0,Arj (Fn.func 93) [δ 0 0] []] [bk [V p_0,iv p_1,V p_2,bv p_3]] =
 Ae D (Arh 262 0) [V x0,Arj (Fn.func 93) [δ 0 0] [],iv ↑(AZ x0),iv 0] [bk [V p_0,iv p_1,V p_2,bv p_3]] [.t,.C,.x,.X,.Y] λc l o=>
 br (Bb 0 c)
 (dk [.I,.N,.T,.L,.I,.L,.B,.N,.E] [.l l,.o o] λn xs n1 xs1 b=>
 some ((iv n,[ζ (bk [V xs,iv n1,V xs1,bv b])])))
 (br (Bb 1 c)
 (dk [.N,.T,.L,.I,.L,.B,.N,.E] [.l l,.o o] λxs n xs1 b=>
 some ((iv (-1),[ζ (bk [V xs,iv n,V xs1,bv b])])))
 (none)):=by kernel_rfl
theorem Abx(x0 p_0:Rw)(p_1:Int)(p_2:Rw)(p_3:Bool)(t7 t8:Int):EH A D Ag TG .n 262 0 (AW XR 0).fst (AW XR 0).snd [V x0,Arj (Fn.func 93) [δ 0 0] [],iv t7,iv t8] [bk [V p_0,iv p_1,V p_2,bv p_3]] =
 br (A.lt t8 t7)
 (unI t8 λi=>
 B7 x0 i λcs=>
 dk [.S,.N] [.l cs] λs=>
 Ae D (Φ 93) [δ 0 0,sv s] [bk [V p_0,iv p_1,V p_2,bv p_3]] [.b,.T,.L,.I,.L,.B,.N,.E] λb xs n xs1 b1=>
 br b
 (some ((φ [bv true,iv t8],[ζ (bk [V xs,iv n,V xs1,bv b1])])))
 (AD D (Arh 262 0) [V x0,Arj (Fn.func 93) [δ 0 0] [],iv t7,iv (A.add Δ t8 1)] [bk [V xs,iv n,V xs1,bv b1]] λr1 o1=>
 AE 1 [0] (AH.mk [(0,bk [V xs,iv n,V xs1,bv b1])] 1 none) [0] r1 o1))
 (some ((φ [iv 0],[BO.keep]))):=by kernel_rfl
theorem ApB(p0_0:Rw)(p0_1:Int)(p0_2:Rw)(p0_3:Bool):By A D Ag Aix .n 249 AjN [δ 0 0] [bk [V p0_0,iv p0_1,V p0_2,bv p0_3]] =
 Ae D (Φ 49) [δ 0 0] [bk [V p0_0,iv p0_1,V p0_2,bv p0_3]] [.t,.L,.I,.N,.T,.L,.I,.L,.B,.N,.E] λxs n xs1 n1 xs2 b=>
 br (A.eq n 0)
 (Ae D (Φ 90) [] [] [.l,.E] λxs3=>
 Ae D (Φ 262) [V xs3,Arj (Fn.func 93) [δ 0 0] []] [bk [V xs1,iv n1,V xs2,bv b]] [.i,.T,.L,.I,.L,.B,.N,.E] λn2 xs4 n3 xs5 b1=>
 br (A.lt n2 0)
 (some ((φ [Ξ [iv 0,V [],V [],iv 0,sv (Af []),sv (Af []),V []],iv 101],[ζ (bk [V xs4,iv n3,V xs5,bv b1])])))
 (Ae D (Φ 49) [δ 0 0] [bk [V xs4,iv n3,V xs5,bv b1]] [.t,.L,.I,.N,.T,.L,.I,.L,.B,.N,.E] λxs6 n4 xs7 n5 xs8 b2=>
 br (A.eq n4 0)
 (some ((φ [Ξ [iv 2,V xs,V xs6,iv n2,sv (Af []),sv (Af []),V []],iv 0],[ζ (bk [V xs7,iv n5,V xs8,bv b2])])))
 (some ((φ [Ξ [iv 0,V [],V [],iv 0,sv (Af []),sv (Af []),V []],iv n4],[ζ (bk [V xs7,iv n5,V xs8,bv b2])])))))
 (some ((φ [Ξ [iv 0,V [],V [],iv 0,sv (Af []),sv (Af []),V []],iv n],[ζ (bk [V xs1,iv n1,V xs2,bv b])]))):=by kernel_rfl
end
section
variable {D:Orc}
def Xk(s:List UInt8):List AV:=[sv (Af s)]
theorem Na(K:Knows Ag CR D):D.ask (.fn 90) [] []=some (.ls (EJ.map Xk),[]):=
 K.fn' AmN _ rfl ((e90 ..).trans rfl)
def Anu(b:Bool)(x:ABlk):List BO:=if b then [.set x] else [.keep]
def Adv(ts:List Tk)(vars:List ByteArray)(kn:Bool)(i j:Nat)(b:Bool):Option Nat->AV × List BO
 |some m=>(.tup [bv true,iv ((j+m:Nat):Int)],[.set (Bt ts vars kn (i+1))])
 |none=>(.tup [iv 0],Anu b (Bt ts vars kn i))
theorem Agw(K:Knows Ag CR D)(Kb:Knows Ag Hh D){ts:List Tk}(H:Toks ts)(vars:List ByteArray)(kn:Bool)(i:Nat)(hi:i<=ts.length)(xs:List (List UInt8))(hx:xs.length<4611686018427387904):∀(k j:Nat),xs.length-j=k->
  D.ask (.lp 262 0) [.ls (xs.map Xk),.fn (.func 93) [.ptr 0 0] [],iv (xs.length:Int),iv (j:Int)] [Bt ts vars kn i]=some (Adv ts vars kn i j (decide (j<xs.length)) ((xs.drop j).findIdx? (isT ts i))):=by
 have hl:=H.len;intro k
 induction k with
 |zero=>
  intro j hj;refine Kb.lp' TG _ rfl (by kernel_rfl) ((Abx ..).trans ?_);have h1:xs.drop j=[]:=Ark (by omega);have h2:decide ((j:Int)<(xs.length:Int))=false:=by simp;omega
  have h3:decide (j<xs.length)=false:=by simp;omega
  simp only[JM,h1,h2,h3,Afo];rfl
 |succ k ih=>
  intro j hj;have hlt:j<xs.length:=by omega
  refine Kb.lp' TG _ rfl (by kernel_rfl) ((Abx ..).trans ?_);have e1:xs.drop j=xs[j]::xs.drop (j+1):=Arf hlt;have ih':=ih (j+1) (by omega);have h2:decide ((j:Int)<(xs.length:Int))=true:=by simp;omega
  have h3:decide (j<xs.length)=true:=by simp;omega
  simp only[JM,h2,h3,Afq,Ax,G9,Ψ hlt,Xk,ND,DK,Aa,e1,Atz];refine Ab (BK K ts vars kn i (by omega) (by omega) _) ?_;simp only[Bt,ND,DK,Aa]
  cases hT:isT ts i xs[j]with
  |true=>
   simp only[ND,DK,Aa,if_true];rfl
  |false=>
   simp only[ND,DK,Aa,Arr,if_false,Bo (show j<4611686018427387904 by omega)];refine Ab ih' ?_
   cases (xs.drop (j+1)).findIdx? (isT ts i) with
   |none=>cases decide (j+1<xs.length)<;>rfl
   |some m=>
    simp only[Adv,Arp,show j+(m+1)=j+1+m by omega];rfl
def All(ts:List Tk)(i:Nat):Nat:=match opP ts i with
 |some _=>i+1
 |none=>i
theorem Agx(K:Knows Ag CR D)(Kb:Knows Ag Hh D){ts:List Tk}(H:Toks ts)(vars:List ByteArray)(kn:Bool)(i:Nat)(hi:i<=ts.length):D.ask (.fn 262) [.ls (EJ.map Xk),.fn (.func 93) [.ptr 0 0] []] [Bt ts vars kn i]=some (iv (CC (opP ts i)),[.set (Bt ts vars kn (All ts i))]):=by
 refine Kb.fn' TG _ rfl ((ApH ..).trans ?_);rw[Aw];refine Ab (Agw K Kb H vars kn i hi EJ (by decide) _ 0 rfl) ?_;rw[υ];unfold All
 show _=some (iv (CC (opP ts i)),_)
 unfold opP
 cases EJ.findIdx? (isT ts i) with
 |none=>rfl
 |some j=>simp only[Adv,Bt,ND,DK,Aa,Ary];rfl
theorem Vy(K:Knows Ag CR D)(Kb:Knows Ag Hh D)(L:NameF D){ts:List Tk}(H:Toks ts)(vars:List ByteArray)(kn:Bool)(hv:vars.length<4611686018427387904)(i:Nat)(hi:i<=ts.length):D.ask (.fn 249) [.ptr 0 0] [Bt ts vars kn i]=some (.tup [.agg (Bq (Mx ts vars kn i).2.2),iv ((Mx ts vars kn i).2.1:Int)],[.set (Bt ts vars kn (Mx ts vars kn i).1)]):=by
 have hl:=H.len;refine Kb.fn' Aix _ rfl ((ApB ..).trans ?_);refine Ab (Aeb K L ts vars kn (by omega) hv H.short i (by omega)) ?_;have m:=PF H vars kn hi;unfold Mx;simp only[Bt,ND,DK,Aa,Fp,ci0]
 by_cases h0:(DQ ts vars kn i).2.1=0
 .simp only[h0,decide_true,ND,DK,Aa,ne_eq,not_true,if_false]
  refine Ab (Na K) ?_;simp only[ND,DK,Aa];refine Ab (Agx K Kb H vars kn _ m.le) ?_;simp only[Bt,ND,DK,Aa,JM];unfold All
  cases ho:opP ts (DQ ts vars kn i).1 with
  |none=>rfl
  |some op=>
   have h1:decide (CC (some op)<0)=false:=decide_eq_false (show ¬ ((op:Int)<0) by omega);have h2:=X6 H ho;simp only[h1,ND,DK,Aa];refine Ab (Aeb K L ts vars kn (by omega) hv H.short ((DQ ts vars kn i).1+1) (by omega)) ?_;simp only[Bt,ND,DK,Aa,Fp,ci0]
   by_cases h3:(DQ ts vars kn ((DQ ts vars kn i).1+1)).2.1=0
   .simp only[h3,decide_true,ND,DK,Aa,ne_eq,not_true,if_false]
    rfl
   .simp only[h3,decide_false,ND,DK,Aa,ne_eq,not_false_eq_true,if_true]
    rfl
 .simp only[h0,decide_false,ND,DK,Aa,ne_eq,not_false_eq_true,if_true]
  rfl
end
set_option linter.unusedSectionVars false
section
variable {D:Orc}
def SS(x:Tr):ABlk:=U (Bq x) true false
variable (K:Knows Ag CR D) (Kb:Knows Ag Hh D) (L:NameF D) {ts:List Tk} (H:Toks ts) (vars:List ByteArray) (kn:Bool) (hv:vars.length<4611686018427387904)
include K Kb L H hv
end
section
variable {D:Orc}
def tz:ABlk:=U [.ls [],iv 0,.ls [],bv false] true false
end



section
open Go.RowKit
def Ap9:Bv:=[⟨31,[false,true,true,false,false,true,true],[],[2],[(1,([false,false,false,false,false,true],([],[2])))]⟩]
def Agf:MFn:=Ce Ap9 21
def Zb:Hnt:=⟨[(21,(.int .i64,[]))],[(0,[(1,([.int .i64],[.del]))])],[(9,[.ls]),(21,[.ls]),(23,[.int .i64,.ls,.ls,.int .i64,.str,.str,.ls]),(24,[.int .i64,.ls,.ls,.int .i64,.str,.str,.ls])]⟩
def Ap7:Bv:=[⟨26,[true,true,false,false,false,true],[],[],[(0,([false,false,false,false,true],([],[]))),(1,([],([],[])))]⟩]
def Agd:MFn:=Ce Ap7 19
def Ab8:Hnt:=⟨[],[(0,[(0,([.bool],[])),(1,([],[]))])],[(19,[.bool,.str,.str]),(20,[.bool,.str,.str]),(23,[.bool,.str,.str]),(24,[.bool,.str,.str])]⟩
def Ap8:Bv:=[⟨76,[false,false,true,true,false,true],[],[2,3],[(0,([false,false,false,false,true],([],[2,3]))),(1,([],([],[2,3])))]⟩]
def Age:MFn:=Ce Ap8 20
def Ab9:Hnt:=⟨[(19,(.bool,[])),(20,(.bool,[]))],[(0,[(0,([.bool],[.del,.del])),(1,([],[.del,.del]))])],[(7,[.int .i64]),(9,[.int .i64]),(13,[.int .i64]),(15,[.int .i64]),(20,[.str]),(22,[.str]),(27,[.str]),(29,[.str]),(34,[.ls]),(36,[.ls]),(42,[.ls]),(44,[.ls]),(50,[.ls]),(53,[.ls]),(59,[.ls]),(65,[.ls]),(67,[.int .i64,.ls,.ls,.int .i64,.str,.str,.ls]),(68,[.int .i64,.ls,.ls,.int .i64,.str,.str,.ls]),(70,[.ls]),(72,[.int .i64,.ls,.ls,.int .i64,.str,.str,.ls]),(73,[.int .i64,.ls,.ls,.int .i64,.str,.str,.ls])]⟩
def Mg:List (Nat × MFn):=[(21,Agf),(19,Agd),(20,Age)]
variable (A:Ar) (D:Orc)
theorem e21(x0_0:Int)(x0_1 x0_2:Rw)(x0_3:Int)(x0_4 x0_5:ByteArray)(x0_6:Rw)(x1:Int):By A D Ag Zb .n 21 Agf [Ξ [iv x0_0,V x0_1,V x0_2,iv x0_3,sv x0_4,sv x0_5,V x0_6],iv x1] [] =
 Ae D (Arh 21 0) [iv x1,δ 0 0,iv 1,iv 0] [bk [iv x0_0,V x0_1,V x0_2,iv x0_3,sv x0_4,sv x0_5,V x0_6]] [.t,.C,.x,.X,.Y] λc l o=>
 br (Bb 1 c)
 (dk [.I,.N,.D,.E] [.l l,.o o] λn=>
 some ((iv n,[])))
 (none):=by kernel_rfl
theorem Abq(t1 b2_0:Int)(b2_1 b2_2:Rw)(b2_3:Int)(b2_4 b2_5:ByteArray)(b2_6:Rw)(t5 t6:Int):EH A D Ag Zb .n 21 0 (AW Agf 0).fst (AW Agf 0).snd [iv t1,δ 0 0,iv t5,iv t6] [bk [iv b2_0,V b2_1,V b2_2,iv b2_3,sv b2_4,sv b2_5,V b2_6]] =
 br (A.lt t6 ↑(AZ b2_6))
 (br (A.le t5 t1)
 (unI t6 λi=>
 B7 b2_6 i λcs=>
 dk [.I,.L,.L,.I,.S,.S,.L,.N] [.l cs] λn xs xs1 n1 s s1 xs2=>
 Ae D (Φ 21) [Ξ [iv n,V xs,V xs1,iv n1,sv s,sv s1,V xs2],iv (A.sub Δ t1 t5)] [] [.i,.E] λn2=>
 AD D (Arh 21 0) [iv t1,δ 0 0,iv (A.add Δ t5 n2),iv (A.add Δ t6 1)] [bk [iv b2_0,V b2_1,V b2_2,iv b2_3,sv b2_4,sv b2_5,V b2_6]] λr1 o1=>
 AE 1 [0] (AH.mk [(0,bk [iv b2_0,V b2_1,V b2_2,iv b2_3,sv b2_4,sv b2_5,V b2_6])] 1 none) [0] r1 o1)
 (some ((φ [iv 0,iv t5],[BO.del]))))
 (some ((φ [iv 0,iv t5],[BO.del]))):=by kernel_rfl
theorem e19(x0 x1:Rw):By A D Ag Ab8 .n 19 Agd [V x0,V x1] [] =
 br (A.eq ↑(AZ x0) ↑(AZ x1))
 (Ae D (Arh 19 0) [V x0,V x1,iv 0] [] [.t,.C,.x,.X,.Y] λc l o=>
 br (Bb 0 c)
 (dk [.B,.N,.E] [.l l,.o o] λb=>
 some ((bv b,[])))
 (br (Bb 1 c)
 (Dg l<|
 C8 o<|
 some ((bv true,[])))
 (none)))
 (some ((bv false,[]))):=by kernel_rfl
theorem Ahy(t0 t1:Rw)(t5:Int):EH A D Ag Ab8 .n 19 0 (AW Agd 0).fst (AW Agd 0).snd [V t0,V t1,iv t5] [] =
 br (A.lt t5 ↑(AZ t0))
 (unI t5 λi=>
 B7 t0 i λcs=>
 dk [.B,.S,.S,.N] [.l cs] λb s s1=>
 unI t5 λi1=>
 B7 t1 i1 λcs1=>
 dk [.B,.S,.S,.N] [.l cs1] λb1 s2 s3=>
 br (A.not (A.band (A.beq b b1) (A.band (A.seq s s2) (A.band (A.seq s1 s3) true))))
 (some ((φ [bv true,bv false],[])))
 (AD D (Arh 19 0) [V t0,V t1,iv (A.add Δ t5 1)] [] λr o=>
 AE 0 [] (AH.mk [] 0 none) [] r o))
 (some ((φ [iv 0],[]))):=by kernel_rfl
theorem e20(x0_0:Int)(x0_1 x0_2:Rw)(x0_3:Int)(x0_4 x0_5:ByteArray)(x0_6:Rw)(x1_0:Int)(x1_1 x1_2:Rw)(x1_3:Int)(x1_4 x1_5:ByteArray)(x1_6:Rw):By A D Ag Ab9 .n 20 Age [Ξ [iv x0_0,V x0_1,V x0_2,iv x0_3,sv x0_4,sv x0_5,V x0_6],Ξ [iv x1_0,V x1_1,V x1_2,iv x1_3,sv x1_4,sv x1_5,V x1_6]] [] =
 br (A.eq x0_0 x1_0)
 (br (A.eq x0_3 x1_3)
 (br (A.seq x0_4 x1_4)
 (br (A.seq x0_5 x1_5)
 (Ae D (Φ 19) [V x0_1,V x1_1] [] [.b,.E] λb=>
 br b
 (Ae D (Φ 19) [V x0_2,V x1_2] [] [.b,.E] λb1=>
 br b1
 (br (A.eq ↑(AZ x0_6) ↑(AZ x1_6))
 (Ae D (Arh 20 0) [δ 0 0,δ 1 0,iv 0] [bk [iv x0_0,V x0_1,V x0_2,iv x0_3,sv x0_4,sv x0_5,V x0_6],bk [iv x1_0,V x1_1,V x1_2,iv x1_3,sv x1_4,sv x1_5,V x1_6]] [.t,.C,.x,.X,.Y] λc l o2=>
 br (Bb 0 c)
 (dk [.B,.N,.D,.D,.E] [.l l,.o o2] λb2=>
 some ((bv b2,[])))
 (br (Bb 1 c)
 (dk [.N,.D,.D,.E,.w] [.l l,.o o2] λ_=>
 some ((bv true,[])))
 (none)))
 (some ((bv false,[]))))
 (some ((bv false,[]))))
 (some ((bv false,[]))))
 (some ((bv false,[]))))
 (some ((bv false,[]))))
 (some ((bv false,[]))))
 (some ((bv false,[]))):=by kernel_rfl
theorem Ahz(b2_0:Int)(b2_1 b2_2:Rw)(b2_3:Int)(b2_4 b2_5:ByteArray)(b2_6:Rw)(b3_0:Int)(b3_1 b3_2:Rw)(b3_3:Int)(b3_4 b3_5:ByteArray)(b3_6:Rw)(t5:Int):EH A D Ag Ab9 .n 20 0 (AW Age 0).fst (AW Age 0).snd [δ 0 0,δ 1 0,iv t5] [bk [iv b2_0,V b2_1,V b2_2,iv b2_3,sv b2_4,sv b2_5,V b2_6],bk [iv b3_0,V b3_1,V b3_2,iv b3_3,sv b3_4,sv b3_5,V b3_6]] =
 br (A.lt t5 ↑(AZ b2_6))
 (unI t5 λi=>
 B7 b2_6 i λcs=>
 dk [.I,.L,.L,.I,.S,.S,.L,.N] [.l cs] λn xs xs1 n1 s s1 xs2=>
 unI t5 λi1=>
 B7 b3_6 i1 λcs1=>
 dk [.I,.L,.L,.I,.S,.S,.L,.N] [.l cs1] λn2 xs3 xs4 n3 s2 s3 xs5=>
 Ae D (Φ 20) [Ξ [iv n,V xs,V xs1,iv n1,sv s,sv s1,V xs2],Ξ [iv n2,V xs3,V xs4,iv n3,sv s2,sv s3,V xs5]] [] [.b,.E] λb=>
 br b
 (AD D (Arh 20 0) [δ 0 0,δ 1 0,iv (A.add Δ t5 1)] [bk [iv b2_0,V b2_1,V b2_2,iv b2_3,sv b2_4,sv b2_5,V b2_6],bk [iv b3_0,V b3_1,V b3_2,iv b3_3,sv b3_4,sv b3_5,V b3_6]] λr1 o1=>
 AE 2 [0,1] (AH.mk [(1,bk [iv b3_0,V b3_1,V b3_2,iv b3_3,sv b3_4,sv b3_5,V b3_6]),(0,bk [iv b2_0,V b2_1,V b2_2,iv b2_3,sv b2_4,sv b2_5,V b2_6])] 2 none) [0,1] r1 o1)
 (some ((φ [bv true,bv false],[BO.del,BO.del]))))
 (some ((φ [iv 0],[BO.del,BO.del]))):=by kernel_rfl
end
section
variable {D:Orc}
theorem Aoi(b:Bool)(s v:ByteArray):Ah.not (Ah.band (Ah.beq b b) (Ah.band (Ah.seq s s) (Ah.band (Ah.seq v v) true)))=false:=by
 rw[LM,F6,F6,decide_eq_true rfl,decide_eq_true rfl]
 cases b<;>rfl
theorem WG(K:Knows Ag Mg D)(l:List Mo)(hl:l.length<4611686018427387904):∀(k i:Nat),l.length-i=k->D.ask (.lp 19 0) [.ls (l.map E9),.ls (l.map E9),iv (i:Int)] []=some (.tup [iv 0],[]):=by
 intro k
 induction k with
 |zero=>
  intro i hi;refine K.lp' Ab8 _ rfl (by kernel_rfl) ((Ahy ..).trans ?_);rw[Aw];refine Ak (by omega) ?_;rfl
 |succ k ih=>
  intro i hi;have hlt:i<l.length:=by omega
  refine K.lp' Ab8 _ rfl (by kernel_rfl) ((Ahy ..).trans ?_);rw[Aw];refine Al (by omega) ?_;simp only[Ax,G9,Ψ hlt,E9,ND,DK,Aa,Aoi,Bo (show i<4611686018427387904 by omega)];refine Ab (ih (i+1) (by omega)) ?_;rfl
theorem Pz(K:Knows Ag Mg D)(l:List Mo)(hl:l.length<4611686018427387904):D.ask (.fn 19) [.ls (l.map E9),.ls (l.map E9)] []=some (bv true,[]):=by
 refine K.fn' Ab8 _ rfl ((e19 ..).trans ?_);refine As rfl ?_;refine Ab (WG K l hl _ 0 rfl) ?_;rfl
inductive WfT:Tr->Prop where
 |mk {k:Int} {l r:List Mo} {op:Int} {p q:ByteArray} {ks:List Tr} (hl:l.length<4611686018427387904) (hr:r.length<4611686018427387904) (hk:ks.length<4611686018427387904) (h:∀ x∈ks,WfT x):WfT (.mk k l r op p q ks)
theorem AgN(K:Knows Ag Mg D):∀(n:Nat) (t:Tr),SizeOf.sizeOf t<n->WfT t->D.ask (.fn 20) [.agg (Bq t),.agg (Bq t)] []=some (bv true,[]):=by
 intro n
 induction n with
 |zero=>intro t h;omega
 |succ n ih=>
  intro t hn hw;obtain⟨hl,hr,hk,hw⟩:=hw;rename_i k l r op p q ks;have lp:∀(m i:Nat),ks.length-i=m->D.ask (.lp 20 0) [.ptr 0 0,.ptr 1 0,iv (i:Int)] [SS (.mk k l r op p q ks),SS (.mk k l r op p q ks)]=some (.tup [iv 0],[.del,.del]):=by
   intro m
   induction m with
   |zero=>
    intro i hi;refine K.lp' Ab9 _ rfl (by kernel_rfl) ((Ahz ..).trans ?_);rw[BW,Aw];refine Ak (by omega) ?_;rfl
   |succ m ihm=>
    intro i hi;have hlt:i<ks.length:=by omega
    have g:D.ask (.fn 20) [.agg (Bq ks[i]),.agg (Bq ks[i])] []=some (bv true,[]):=by
     refine ih _ ?_ (hw _ (Ars hlt));have:=List.sizeOf_lt_of_mem (Ars hlt);simp only[Tr.mk.sizeOf_spec]at hn;omega
    have g2:=ihm (i+1) (by omega);refine K.lp' Ab9 _ rfl (by kernel_rfl) ((Ahz ..).trans ?_);rw[BW,Aw];refine Al (by omega) ?_;simp only[Ax,G9,Ψ hlt];revert g;rcases ks[i]with⟨k',l',r',o',p',q',ks'⟩;intro g;simp only[Bq,ND,DK,Aa,Bo (show i<4611686018427387904 by omega)];refine Ab g ?_;simp only[ND,DK,Aa,←BW];refine Ab g2 ?_;rfl
  refine K.fn' Ab9 _ rfl ((e20 ..).trans ?_);refine As rfl ?_;refine As rfl ?_;refine DI rfl ?_;refine DI rfl ?_;refine Ab (Pz K l hl) ?_;simp only[ND,DK,Aa];refine Ab (Pz K r hr) ?_;simp only[ND,DK,Aa];refine As rfl ?_;refine Ab (lp _ 0 rfl) ?_;rfl
end
def AO(m:Mo):Bool:=(decide (m.num≠Af [])||decide (m.var≠Af []))&&(decide (m.num=Af [])||DS m.num.data.toList)&&(decide (m.var=Af [])||Cq m.var.data.toList)
def JE(ms:List Mo):Bool:=decide (0<ms.length)&&decide (ms.length<=64)&&ms.all AO
def Cn(m:Mo):List UInt8:=if m.num≠Af []/\m.var≠Af [] then m.num.data.toList++[42]++m.var.data.toList else m.num.data.toList++m.var.data.toList
def L6(i:Nat)(m:Mo):List UInt8:=if m.neg then(if i=0 then [45] else [32,45,32]) else if i=0 then [] else [32,43,32]
def Ci:Nat->List Mo->List UInt8
 |_,[]=>[]
 |i,m::r=>L6 i m++Cn m++Ci (i+1) r
theorem PG(m:Mo):∀(l:List Mo) (i:Nat),Ci i (l++[m])=Ci i l++L6 (i+l.length) m++Cn m
 |[],i=>by simp[Ci]
 |x::r,i=>by
  rw[List.cons_append,Ci,Ci,PG m r (i+1)];simp[List.append_assoc,show i+1+r.length=i+(r.length+1) by omega]
theorem WQ(ms:List Mo)(k:Nat)(h:k<ms.length):Ci 0 (ms.take (k+1))=Ci 0 (ms.take k)++L6 k ms[k]++Cn ms[k]:=by
 rw[List.take_succ_eq_append_getElem h,PG,List.length_take,Ary,Nat.min_eq_left (by omega)]
theorem Pc{l:List UInt8}(h:DS l=true):l.length<=60:=by
 unfold DS at h;simp only[χ,decide_eq_true_eq]at h;exact h.1.1.2
theorem EI{l:List UInt8}(h:Cq l=true):l.length<=20:=by
 unfold Cq Gd at h;simp only[χ,decide_eq_true_eq]at h;exact h.1.1.1.2
theorem O4{m:Mo}(h:AO m=true):(Cn m).length<=81:=by
 unfold AO at h;simp only[χ,Ass,decide_eq_true_eq]at h;have h1:m.num.data.toList.length<=60:=by
  rcases h.1.2 with h|h
  .rw[h];simp[Af]
  .exact Pc h
 have h2:m.var.data.toList.length<=20:=by
  rcases h.2 with h|h
  .rw[h];simp[Af]
  .exact EI h
 unfold Cn;split<;>simp only[η,ν,List.length_nil]<;>omega
theorem AdW(i:Nat)(m:Mo):(L6 i m).length<=3:=by
 unfold L6
 repeat' split
 all_goals simp
theorem Hg:∀(l:List Mo) (i:Nat),l.all AO=true->(Ci i l).length<=84*l.length
 |[],_,_=>by simp[Ci]
 |m::r,i,h=>by
  rw[List.all_cons,χ]at h;have h1:=O4 h.1;have h2:=AdW i m;have h3:=Hg r (i+1) h.2;simp only[Ci,η,ν];omega
def CJ(ms:List Mo):List UInt8:=if JE ms then Ci 0 ms else []
theorem YM(s:ByteArray):Af s.data.toList=s:=by
 obtain⟨s⟩:=s;simp[Af]
theorem IP(a b:ByteArray):a++b=Af (a.data.toList++b.data.toList):=by
 rw[←YM (a++b)];simp
theorem CV(l:List UInt8):(Af l).data.toList=l:=by simp[Af]
theorem Cf(l:List UInt8):(Af l).size=l.length:=by simp[Af,ByteArray.size]
theorem JH(s:ByteArray):s.size=s.data.toList.length:=by simp
def WzM(m:Mo):Prop:=m.num.size<=9223372036854775807/\m.var.size<=9223372036854775807
section
variable {D:Orc}
structure LexN (D:Orc):Prop where
 name:∀ s:ByteArray,s.size<=9223372036854775807->D.ask (.fn 109) [sv s] []=some (bv (Cq s.data.toList),[])
 num:∀ s:ByteArray,s.size<=9223372036854775807->D.ask (.fn 108) [sv s] []=some (bv (DS s.data.toList),[])
variable (K:Knows Ag D9 D)
include K
theorem Sv(L:LexN D)(m:Mo)(hm:WzM m):D.ask (.fn 61) [.agg (E9 m)] []=some (bv (AO m),[]):=by
 obtain⟨ng,nu,va⟩:=m;obtain⟨h1,h2⟩:=hm;refine K.fn' AmG _ rfl ((e61 ..).trans ?_);have g1:=L.num nu h1;have g2:=L.name va h2;unfold AO;simp only at h1 h2 ⊢;simp only[F6]
 by_cases hn:nu=Af []<;>by_cases hv:va=Af []<;>simp only[hn,hv,decide_true,decide_false,ND,DK,Aa,not_true,not_false_eq_true,ne_eq,Bool.or_self,Ar2,Bool.true_and,Bool.and_self,Bool.true_or,Bool.or_true,Bool.false_or,Bool.and_true]
 .refine Ab g2 ?_
  simp only[ND,DK,Aa]
  cases Cq va.data.toList<;>rfl
 .refine Ab g1 ?_
  simp only[ND,DK,Aa]
  cases DS nu.data.toList<;>rfl
 .refine Ab g1 ?_
  simp only[ND,DK,Aa]
  cases DS nu.data.toList with
  |false=>rfl
  |true=>
   simp only[ND,DK,Aa];refine Ab g2 ?_;simp only[ND,DK,Aa]
   cases Cq va.data.toList<;>rfl
theorem AlA(L:LexN D)(m:Mo)(hm:WzM m):D.ask (.fn 60) [.agg (E9 m)] []=some (bv (!AO m),[]):=by
 have g:=Sv K L m hm;obtain⟨ng,nu,va⟩:=m;refine K.fn' AmF _ rfl ((e60 ..).trans ?_);refine Ab g ?_;simp only[ND,DK,Aa]
 cases AO ⟨ng,nu,va⟩<;>rfl
theorem AkZ(L:LexN D)(ms:List Mo)(hm:∀ m∈ms,WzM m)(hl:ms.length<4611686018427387904):∀(k i:Nat),ms.length-i=k->D.ask (.lp 107 0) [.ls (ms.map E9),.fn (.func 60) [] [],iv (ms.length:Int),iv (i:Int)] []=some (FY i ((ms.drop i).findIdx? λm=>!AO m),[]):=by
 intro k
 induction k with
 |zero=>
  intro i hi;refine K.lp' Tu _ rfl (by kernel_rfl) ((Abh ..).trans ?_);have:ms.drop i=[]:=Ark (by omega);simp only[JM,this,Ff];rw[if_neg (by simp;omega)];rfl
 |succ k ih=>
  intro i hi;have hlt:i<ms.length:=by omega
  refine K.lp' Tu _ rfl (by kernel_rfl) ((Abh ..).trans ?_);have e1:ms.drop i=ms[i]::ms.drop (i+1):=Arf hlt;have ih':=ih (i+1) (by omega);have g:=AlA K L ms[i] (hm _ (Ars hlt));refine Al (by omega) ?_;rw[Ax,AF (Ψ hlt),e1,Atz];revert g;generalize ms[i]=m;obtain⟨ng,nu,va⟩:=m;intro g;simp only[E9,ND,DK,Aa];refine Ab g ?_;simp only[ND,DK,Aa]
  cases AO ⟨ng,nu,va⟩ with
  |false=>
   simp only[Bool.not_false,if_true];rfl
  |true=>
   simp only[Bool.not_true,Arr,if_false,Bo (show i<4611686018427387904 by omega)];refine Bi ?_;refine Ab ih' ?_
   cases (ms.drop (i+1)).findIdx? λm=>!AO m with
   |none=>rfl
   |some j=>
    simp only[FY,Arp,show i+(j+1)=i+1+j by omega];rfl
theorem Ak0(L:LexN D)(ms:List Mo)(hm:∀ m∈ms,WzM m)(hl:ms.length<4611686018427387904):D.ask (.fn 107) [.ls (ms.map E9),.fn (.func 60) [] []] []=some (iv (CC (ms.findIdx? λm=>!AO m)),[]):=by
 refine K.fn' Tu _ rfl ((AoI ..).trans ?_);rw[Aw];refine Ab (AkZ K L ms hm hl _ 0 rfl) ?_;rw[υ]
 cases ms.findIdx? λm=>!AO m with
 |none=>rfl
 |some j=>simp only[FY,ND,DK,Aa,Ary];rfl
omit K in
theorem Wy(ms:List Mo):decide (0<=CC (ms.findIdx? λm=>!AO m)) = !ms.all AO:=by
 cases e:ms.findIdx? λm=>!AO m with
 |none=>
  have h:=AtL.1 e;have:ms.all AO=true:=Arg.2 λx hx=>by simpa using h x hx
  simp[CC,this]
 |some j=>
  obtain⟨h,h2,_⟩:=ArT.1 e;have:ms.all AO=false:=by
   rw[Bool.eq_false_iff];intro ha;have:=Arg.1 ha _ (Ars h);rw[this]at h2
   cases h2
  simp[CC,this]
theorem GB(L:LexN D)(ms:List Mo)(hm:∀ m∈ms,WzM m)(hl:ms.length<4611686018427387904):D.ask (.fn 23) [.ls (ms.map E9)] []=some (bv (JE ms),[]):=by
 refine K.fn' Ams _ rfl ((e23 ..).trans ?_);rw[Aw];unfold JE
 by_cases h0:0<ms.length
 .refine Al (by omega) ?_
  by_cases h1:ms.length<=64
  .rw[LN,decide_eq_true (show (ms.length:Int)<=64 by omega),decide_eq_true h0,decide_eq_true h1]
   refine Ad ?_;have g:D.ask (.fn 59) [.ls (ms.map E9),.fn (.func 60) [] []] []=some (bv (!ms.all AO),[]):=by
    refine K.fn' AmE _ rfl ((e59 ..).trans ?_);refine Ab (Ak0 K L ms hm hl) ?_;simp only[ND,DK,Aa,LN,Wy]
    cases ms.all AO<;>rfl
   refine Ab g ?_;simp only[ND,DK,Aa]
   cases ms.all AO<;>rfl
  .rw[LN,decide_eq_false (show ¬ (ms.length:Int)<=64 by omega),decide_eq_false h1,Bool.and_false,Ar2]
   rfl
 .refine Ak (by omega) ?_
  rw[decide_eq_false h0,Ar2,Ar2]
theorem Uk(m:Mo)(h:AO m=true):D.ask (.fn 57) [.agg (E9 m)] []=some (sv (Af (Cn m)),[]):=by
 obtain⟨ng,nu,va⟩:=m;refine K.fn' AmD _ rfl ((e57 ..).trans ?_);unfold AO at h;simp only[χ,Ass,decide_eq_true_eq]at h;have h1:nu.size<=60:=by
  rw[JH];rcases h.1.2 with h|h
  .rw[h];simp[Af]
  .exact Pc h
 have h2:va.size<=20:=by
  rw[JH];rcases h.2 with h|h
  .rw[h];simp[Af]
  .exact EI h
 have s1:(Af [42]).size=1:=rfl;unfold Cn;simp only[F6,BG,Gz]
 by_cases hn:nu=Af []
 .simp only[hn,decide_true,ND,DK,Aa,ne_eq,not_true,false_and,if_false]
  refine(DN (by rw[←hn];omega) _ _).trans ?_;rw[IP]
 .simp only[hn,decide_false,ND,DK,Aa,ne_eq,not_false_eq_true,true_and]
  by_cases hv:va=Af []
  .simp only[hv,decide_true,ND,DK,Aa,not_true,if_false]
   refine(DN (by rw[←hv];omega) _ _).trans ?_;rw[IP]
  .simp only[hv,decide_false,ND,DK,Aa,not_false_eq_true,if_true]
   have s2:(nu++Af [42]).size=nu.size+1:=by simp[s1]
   refine(DN (by rw[s1];omega) _ _).trans ?_;refine(DN (by rw[s2];omega) _ _).trans ?_;rw[IP (nu++Af [42]),IP nu,CV,CV]
end
end
end Go.Proofs.YtlmhajfbpplpoaaGreat
