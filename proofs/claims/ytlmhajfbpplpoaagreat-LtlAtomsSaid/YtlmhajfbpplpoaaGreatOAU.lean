/- Branches whose truth is -/
import Derived.Test.YtlmhajfbpplpoaaGreatOAS
set_option linter.all false
open Bool renaming and_eq_true->ε,false_and->Aqp,or_eq_true->Are
open List renaming all_eq_true->Apy,getElem_mem->ApG,length_append->υ,length_cons->Apw
open Nat renaming zero_add->ApN
namespace Go.Proofs.YtlmhajfbpplpoaaGreat
noncomputable section
open AV renaming ls->V,ptr->η,tup->ψ
open IntKind renaming i64->U
open Key renaming lp->ι
open Go.RowKit
theorem KW{a b:Int}(h:a=b){x y:KR}:br (Af.eq a b) x y=x:=by rw[Kg,decide_eq_true h];rfl
theorem Av{a b:Int}{x y z:KR}(h: a=b)(g:x=z):br (Af.eq a b) x y=z:=(KW h).trans g
theorem QH{a b:Int}(h:¬ a=b){x y:KR}:br (Af.eq a b) x y=y:=by rw[Kg,decide_eq_false h];rfl
theorem Am{a b:Int}{x y z:KR}(h:¬ a=b)(g:y=z):br (Af.eq a b) x y=z:=(QH h).trans g
theorem AdH{a b:ByteArray}(h:a=b){x y:KR}:br (Af.seq a b) x y=x:=by rw[Me,decide_eq_true h];rfl
theorem Da{a b:ByteArray}{x y z:KR}(h: a=b)(g:x=z):br (Af.seq a b) x y=z:=(AdH h).trans g
theorem Ec{a b:ByteArray}(h:¬ a=b){x y:KR}:br (Af.seq a b) x y=y:=by rw[Me,decide_eq_false h];rfl
theorem AiV{a b:Int}(h:a<b){x y:KR}:br (Af.lt a b) x y=x:=by rw[O5,decide_eq_true h];rfl
theorem Ai{a b:Int}{x y z:KR}(h: a<b)(g:x=z):br (Af.lt a b) x y=z:=(AiV h).trans g
theorem Uf{a b:Int}(h:¬ a<b){x y:KR}:br (Af.lt a b) x y=y:=by rw[O5,decide_eq_false h];rfl
theorem Ah{a b:Int}{x y z:KR}(h:¬ a<b)(g:y=z):br (Af.lt a b) x y=z:=(Uf h).trans g
theorem QG{a b:Nat}(h:a<=b)(x y:KR):br (a.ble b) x y=x:=by
 rw[Nat.ble_eq_true_of_le h];rfl
theorem AiU{a b:Int}(h:a<=b){x y:KR}:br (Af.le a b) x y=x:=by rw[Od,decide_eq_true h];rfl
theorem Cn{a b:Int}{x y z:KR}(h: a≤b)(g:x=z):br (Af.le a b) x y=z:=(AiU h).trans g
theorem Zy{a b:Int}(h:¬ a<=b){x y:KR}:br (Af.le a b) x y=y:=by rw[Od,decide_eq_false h];rfl
theorem Cv{a b:Int}{x y z:KR}(h:¬ a≤b)(g:y=z):br (Af.le a b) x y=z:=(Zy h).trans g

section
open Go.RowKit
def AoN:A3:=[⟨19,[true,true,false,false,false,false,false,true,true],[],[],[(0,([false,false,false,false,true],([],[]))),(1,([],([],[])))]⟩]
def AeB:MFn:=Bm AoN 88
def AaW:Hnt:=⟨[],[(0,[(0,([.int .i64],[])),(1,([],[]))])],[(14,[.str]),(15,[.str])]⟩
def Al7:MFn:=Bm [] 219
variable (A:Ar) (D:Orc)
theorem e88(x0:Rw)(x1:ByteArray):By A D Al AaW .n 88 AeB [V x0,sv x1] [] =
 Ad D (ι 88 0) [V x0,sv x1,iv ↑(AQ x0),iv 0] [] [.t,.C,.x,.X,.Y] λc l o=>
 br (A9 0 c)
 (dk [.I,.N,.E] [.l l,.o o] λn=>
 some ((iv n,[])))
 (br (A9 1 c)
 (Fe l<|
 CZ o<|
 some ((iv (-1),[])))
 (none)):=by kernel_rfl
theorem Agh(t0:Rw)(t1:ByteArray)(t7 t8:Int):Di A D Al AaW .n 88 0 (AL AeB 0).fst (AL AeB 0).snd [V t0,sv t1,iv t7,iv t8] [] =
 br (A.lt t8 t7)
 (unI t8 λi=>
 Bh t0 i λcs=>
 dk [.S,.N] [.l cs] λs=>
 br (A.seq t1 s)
 (some ((ψ [bv true,iv t8],[])))
 (AE D (ι 88 0) [V t0,sv t1,iv t7,iv (A.add U t8 1)] [] λr o=>
 AD 0 [] (AH.mk [] 0 none) [] r o))
 (some ((ψ [iv 0],[]))):=by kernel_rfl
end
section
variable {D:Orc}
structure NameF (D:Orc):Prop where
 name:∀ s:List UInt8,s.length<4611686018427387904->D.ask (.fn 109) [sv (Ax s)] []=some (bv (Ds s),[])
def C1:Option Nat->Int
 |some j=>j
 |none=>-1
def E3(i:Nat):Option Nat->AV
 |some j=>.tup [bv true,iv ((i+j:Nat):Int)]
 |none=>.tup [iv 0]
end
section
open Go.RowKit
def Ali:A3:=[⟨19,[true,true,false,false,false,true],[],[],[(0,([false,false,false,false,true],([],[]))),(1,([],([],[])))]⟩]
def V9:MFn:=Bm Ali 121
def So:Hnt:=⟨[],[(0,[(0,([.int .i64],[])),(1,([],[]))])],[(14,[.str]),(15,[.str])]⟩
variable (A:Ar) (D:Orc)
theorem Anb(x0:Rw)(x1:ByteArray):By A D Al So .n 121 V9 [V x0,sv x1] [] =
 Ad D (ι 121 0) [V x0,sv x1,iv 0] [] [.t,.C,.x,.X,.Y] λc l o=>
 br (A9 0 c)
 (dk [.I,.N,.E] [.l l,.o o] λn=>
 some ((iv n,[])))
 (br (A9 1 c)
 (Fe l<|
 CZ o<|
 some ((iv (-1),[])))
 (none)):=by kernel_rfl
theorem ZT(t0:Rw)(t1:ByteArray)(t5:Int):Di A D Al So .n 121 0 (AL V9 0).fst (AL V9 0).snd [V t0,sv t1,iv t5] [] =
 br (A.lt t5 ↑(AQ t0))
 (unI t5 λi=>
 Bh t0 i λcs=>
 dk [.S,.N] [.l cs] λs=>
 br (A.seq s t1)
 (some ((ψ [bv true,iv t5],[])))
 (AE D (ι 121 0) [V t0,sv t1,iv (A.add U t5 1)] [] λr o=>
 AD 0 [] (AH.mk [] 0 none) [] r o))
 (some ((ψ [iv 0],[]))):=by kernel_rfl
end
section
variable {D:Orc}
structure RNameF (D:Orc):Prop where
 name:∀ s:List UInt8,s.length<4611686018427387904->D.ask (.fn 77) [sv (Ax s)] []=some (bv (Ds s),[])
end

section
open Go.RowKit
variable (A:Ar) (D:Orc)
end

set_option linter.unusedSectionVars false
section
variable {D:Orc}
def tz:ABlk:=ABlk.mk [.ls [],iv 0,.ls [],bv false] true false
end



section
open Go.RowKit
def AoC:A3:=[⟨31,[false,true,true,false,false,true,true],[],[2],[(1,([false,false,false,false,false,true],([],[2])))]⟩]
def Aeu:MFn:=Bm AoC 21
def XN:Hnt:=⟨[(21,(.int .i64,[]))],[(0,[(1,([.int .i64],[.del]))])],[(9,[.ls]),(21,[.ls]),(23,[.int .i64,.ls,.ls,.int .i64,.str,.str,.ls]),(24,[.int .i64,.ls,.ls,.int .i64,.str,.str,.ls])]⟩
def AoA:A3:=[⟨26,[true,true,false,false,false,true],[],[],[(0,([false,false,false,false,true],([],[]))),(1,([],([],[])))]⟩]
def AoQ:MFn:=Bm AoA 19
def AoB:A3:=[⟨76,[false,false,true,true,false,true],[],[2,3],[(0,([false,false,false,false,true],([],[2,3]))),(1,([],([],[2,3])))]⟩]
def AoR:MFn:=Bm AoB 20
def Qg:List (Nat × MFn):=[(21,Aeu),(19,AoQ),(20,AoR)]
variable (A:Ar) (D:Orc)
theorem e21(x0_0:Int)(x0_1 x0_2:Rw)(x0_3:Int)(x0_4 x0_5:ByteArray)(x0_6:Rw)(x1:Int):By A D Al XN .n 21 Aeu [AV.agg [iv x0_0,V x0_1,V x0_2,iv x0_3,sv x0_4,sv x0_5,V x0_6],iv x1] [] =
 Ad D (ι 21 0) [iv x1,η 0 0,iv 1,iv 0] [bk [iv x0_0,V x0_1,V x0_2,iv x0_3,sv x0_4,sv x0_5,V x0_6]] [.t,.C,.x,.X,.Y] λc l o=>
 br (A9 1 c)
 (dk [.I,.N,.D,.E] [.l l,.o o] λn=>
 some ((iv n,[])))
 (none):=by kernel_rfl
theorem Z9(t1 b2_0:Int)(b2_1 b2_2:Rw)(b2_3:Int)(b2_4 b2_5:ByteArray)(b2_6:Rw)(t5 t6:Int):Di A D Al XN .n 21 0 (AL Aeu 0).fst (AL Aeu 0).snd [iv t1,η 0 0,iv t5,iv t6] [bk [iv b2_0,V b2_1,V b2_2,iv b2_3,sv b2_4,sv b2_5,V b2_6]] =
 br (A.lt t6 ↑(AQ b2_6))
 (br (A.le t5 t1)
 (unI t6 λi=>
 Bh b2_6 i λcs=>
 dk [.I,.L,.L,.I,.S,.S,.L,.N] [.l cs] λn xs xs1 n1 s s1 xs2=>
 Ad D (Key.fn 21) [AV.agg [iv n,V xs,V xs1,iv n1,sv s,sv s1,V xs2],iv (A.sub U t1 t5)] [] [.i,.E] λn2=>
 AE D (ι 21 0) [iv t1,η 0 0,iv (A.add U t5 n2),iv (A.add U t6 1)] [bk [iv b2_0,V b2_1,V b2_2,iv b2_3,sv b2_4,sv b2_5,V b2_6]] λr1 o1=>
 AD 1 [0] (AH.mk [(0,bk [iv b2_0,V b2_1,V b2_2,iv b2_3,sv b2_4,sv b2_5,V b2_6])] 1 none) [0] r1 o1)
 (some ((ψ [iv 0,iv t5],[BO.del]))))
 (some ((ψ [iv 0,iv t5],[BO.del]))):=by kernel_rfl
end

def Bg(m:Mo):Bool:=(decide (m.num≠Ax [])||decide (m.var≠Ax []))&&(decide (m.num=Ax [])||Et m.num.data.toList)&&(decide (m.var=Ax [])||Ds m.var.data.toList)
def O6(ms:List Mo):Bool:=decide (0<ms.length)&&decide (ms.length<=64)&&ms.all Bg
def Dg(m:Mo):List UInt8:=if m.num≠Ax []/\m.var≠Ax [] then m.num.data.toList++[42]++m.var.data.toList else m.num.data.toList++m.var.data.toList
def O7(i:Nat)(m:Mo):List UInt8:=if m.neg then(if i=0 then [45] else [32,45,32]) else if i=0 then [] else [32,43,32]
def C5:Nat->List Mo->List UInt8
 |_,[]=>[]
 |i,m::r=>O7 i m++Dg m++C5 (i+1) r
theorem Ow(m:Mo):∀(l:List Mo) (i:Nat),C5 i (l++[m])=C5 i l++O7 (i+l.length) m++Dg m
 |[],i=>by simp[C5]
 |x::r,i=>by
  rw[List.cons_append,C5,C5,Ow m r (i+1)];simp[List.append_assoc,show i+1+r.length=i+(r.length+1) by omega]
theorem Vy(ms:List Mo)(k:Nat)(h:k<ms.length):C5 0 (ms.take (k+1))=C5 0 (ms.take k)++O7 k ms[k]++Dg ms[k]:=by
 rw[List.take_succ_eq_append_getElem h,Ow,List.length_take,ApN,Nat.min_eq_left (by omega)]
theorem N7{l:List UInt8}(h:Et l=true):l.length<=60:=by
 unfold Et at h;simp only[ε,decide_eq_true_eq]at h;exact h.1.1.2
theorem Lo{l:List UInt8}(h:Ds l=true):l.length<=20:=by
 unfold Ds Mt at h;simp only[ε,decide_eq_true_eq]at h;exact h.1.1.1.2
theorem NX{m:Mo}(h:Bg m=true):(Dg m).length<=81:=by
 unfold Bg at h;simp only[ε,Are,decide_eq_true_eq]at h;have h1:m.num.data.toList.length<=60:=by
  rcases h.1.2 with h|h
  .rw[h];simp[Ax]
  .exact N7 h
 have h2:m.var.data.toList.length<=20:=by
  rcases h.2 with h|h
  .rw[h];simp[Ax]
  .exact Lo h
 unfold Dg;split<;>simp only[υ,Apw,List.length_nil]<;>omega
theorem Acm(i:Nat)(m:Mo):(O7 i m).length<=3:=by
 unfold O7
 repeat' split
 all_goals simp
theorem LC:∀(l:List Mo) (i:Nat),l.all Bg=true->(C5 i l).length<=84*l.length
 |[],_,_=>by simp[C5]
 |m::r,i,h=>by
  rw[List.all_cons,ε]at h;have h1:=NX h.1;have h2:=Acm i m;have h3:=LC r (i+1) h.2;simp only[C5,υ,Apw];omega
def LD(ms:List Mo):List UInt8:=if O6 ms then C5 0 ms else []
theorem Xl(s:ByteArray):Ax s.data.toList=s:=by
 obtain⟨s⟩:=s;simp[Ax]
theorem JR(a b:ByteArray):a++b=Ax (a.data.toList++b.data.toList):=by
 rw[←Xl (a++b)];simp
theorem Ph(l:List UInt8):(Ax l).data.toList=l:=by simp[Ax]
theorem II(s:ByteArray):s.size=s.data.toList.length:=by simp
def WzM(m:Mo):Prop:=m.num.size<=9223372036854775807/\m.var.size<=9223372036854775807
section
variable {D:Orc}
structure LexN (D:Orc):Prop where
 name:∀ s:ByteArray,s.size<=9223372036854775807->D.ask (.fn 109) [sv s] []=some (bv (Ds s.data.toList),[])
 num:∀ s:ByteArray,s.size<=9223372036854775807->D.ask (.fn 108) [sv s] []=some (bv (Et s.data.toList),[])
variable (K:Knows Al Gk D)
include K
theorem Rs(L:LexN D)(m:Mo)(hm:WzM m):D.ask (.fn 61) [.agg (IQ m)] []=some (bv (Bg m),[]):=by
 obtain⟨ng,nu,va⟩:=m;obtain⟨h1,h2⟩:=hm;refine K.fn' Ak8 _ rfl ((e61 ..).trans ?_);have g1:=L.num nu h1;have g2:=L.name va h2;unfold Bg;simp only at h1 h2 ⊢;simp only[Me]
 by_cases hn:nu=Ax []<;>by_cases hv:va=Ax []<;>simp only[hn,hv,decide_true,decide_false,ND,DK,Aa,not_true,not_false_eq_true,ne_eq,Bool.or_self,Aqp,Bool.true_and,Bool.and_self,Bool.true_or,Bool.or_true,Bool.false_or,Bool.and_true]
 .refine Ab g2 ?_
  simp only[ND,DK,Aa]
  cases Ds va.data.toList<;>rfl
 .refine Ab g1 ?_
  simp only[ND,DK,Aa]
  cases Et nu.data.toList<;>rfl
 .refine Ab g1 ?_
  simp only[ND,DK,Aa]
  cases Et nu.data.toList with
  |false=>rfl
  |true=>
   simp only[ND,DK,Aa];refine Ab g2 ?_;simp only[ND,DK,Aa]
   cases Ds va.data.toList<;>rfl
theorem Aj8(L:LexN D)(m:Mo)(hm:WzM m):D.ask (.fn 60) [.agg (IQ m)] []=some (bv (!Bg m),[]):=by
 have g:=Rs K L m hm;obtain⟨ng,nu,va⟩:=m;refine K.fn' Ak7 _ rfl ((e60 ..).trans ?_);refine Ab g ?_;simp only[ND,DK,Aa]
 cases Bg ⟨ng,nu,va⟩<;>rfl
theorem Ajj(L:LexN D)(ms:List Mo)(hm:∀ m∈ms,WzM m)(hl:ms.length<4611686018427387904):∀(k i:Nat),ms.length-i=k->D.ask (.lp 107 0) [.ls (ms.map IQ),.fn (.func 60) [] [],iv (ms.length:Int),iv (i:Int)] []=some (E3 i ((ms.drop i).findIdx? λm=>!Bg m),[]):=by
 intro k
 induction k with
 |zero=>
  intro i hi;refine K.lp' Sm _ rfl (by kernel_rfl) ((ZR ..).trans ?_);have:ms.drop i=[]:=List.drop_eq_nil_of_le (by omega);simp only[O5,this,G2];rw[if_neg (by simp;omega)];rfl
 |succ k ih=>
  intro i hi;have hlt:i<ms.length:=by omega
  refine K.lp' Sm _ rfl (by kernel_rfl) ((ZR ..).trans ?_);have e1:ms.drop i=ms[i]::ms.drop (i+1):=List.drop_eq_getElem_cons hlt;have ih':=ih (i+1) (by omega);have g:=Aj8 K L ms[i] (hm _ (ApG hlt));refine Ai (by omega) ?_;rw[Aw,Au (List.getElem?_eq_getElem hlt),e1,List.findIdx?_cons];revert g;generalize ms[i]=m;obtain⟨ng,nu,va⟩:=m;intro g;simp only[IQ,ND,DK,Aa];refine Ab g ?_;simp only[ND,DK,Aa]
  cases Bg ⟨ng,nu,va⟩ with
  |false=>
   simp only[Bool.not_false,if_true];rfl
  |true=>
   simp only[Bool.not_true,Bool.false_eq_true,if_false,A8 (show i<4611686018427387904 by omega)];refine A1 ?_;refine Ab ih' ?_
   cases (ms.drop (i+1)).findIdx? λm=>!Bg m with
   |none=>rfl
   |some j=>
    simp only[E3,Option.map_some,show i+(j+1)=i+1+j by omega];rfl
theorem Ajk(L:LexN D)(ms:List Mo)(hm:∀ m∈ms,WzM m)(hl:ms.length<4611686018427387904):D.ask (.fn 107) [.ls (ms.map IQ),.fn (.func 60) [] []] []=some (iv (C1 (ms.findIdx? λm=>!Bg m)),[]):=by
 refine K.fn' Sm _ rfl ((Am0 ..).trans ?_);rw[Ao];refine Ab (Ajj K L ms hm hl _ 0 rfl) ?_;rw[List.drop_zero]
 cases ms.findIdx? λm=>!Bg m with
 |none=>rfl
 |some j=>simp only[E3,ND,DK,Aa,ApN];rfl
omit K in
theorem Vh(ms:List Mo):decide (0<=C1 (ms.findIdx? λm=>!Bg m)) = !ms.all Bg:=by
 cases e:ms.findIdx? λm=>!Bg m with
 |none=>
  have h:=List.findIdx?_eq_none_iff.1 e;have:ms.all Bg=true:=Apy.2 λx hx=>by simpa using h x hx
  simp[C1,this]
 |some j=>
  obtain⟨h,h2,_⟩:=List.findIdx?_eq_some_iff_getElem.1 e;have:ms.all Bg=false:=by
   rw[Bool.eq_false_iff];intro ha;have:=Apy.1 ha _ (ApG h);rw[this]at h2
   cases h2
  simp[C1,this]
theorem FF(L:LexN D)(ms:List Mo)(hm:∀ m∈ms,WzM m)(hl:ms.length<4611686018427387904):D.ask (.fn 23) [.ls (ms.map IQ)] []=some (bv (O6 ms),[]):=by
 refine K.fn' AkW _ rfl ((e23 ..).trans ?_);rw[Ao];unfold O6
 by_cases h0:0<ms.length
 .refine Ai (by omega) ?_
  by_cases h1:ms.length<=64
  .rw[Od,decide_eq_true (show (ms.length:Int)<=64 by omega),decide_eq_true h0,decide_eq_true h1]
   refine Ac ?_;have g:D.ask (.fn 59) [.ls (ms.map IQ),.fn (.func 60) [] []] []=some (bv (!ms.all Bg),[]):=by
    refine K.fn' Ak6 _ rfl ((e59 ..).trans ?_);refine Ab (Ajk K L ms hm hl) ?_;simp only[ND,DK,Aa,Od,Vh]
    cases ms.all Bg<;>rfl
   refine Ab g ?_;simp only[ND,DK,Aa]
   cases ms.all Bg<;>rfl
  .rw[Od,decide_eq_false (show ¬ (ms.length:Int)<=64 by omega),decide_eq_false h1,Bool.and_false,Aqp]
   rfl
 .refine Ah (by omega) ?_
  rw[decide_eq_false h0,Aqp,Aqp]
theorem SZ(m:Mo)(h:Bg m=true):D.ask (.fn 57) [.agg (IQ m)] []=some (sv (Ax (Dg m)),[]):=by
 obtain⟨ng,nu,va⟩:=m;refine K.fn' Ak5 _ rfl ((e57 ..).trans ?_);unfold Bg at h;simp only[ε,Are,decide_eq_true_eq]at h;have h1:nu.size<=60:=by
  rw[II];rcases h.1.2 with h|h
  .rw[h];simp[Ax]
  .exact N7 h
 have h2:va.size<=20:=by
  rw[II];rcases h.2 with h|h
  .rw[h];simp[Ax]
  .exact Lo h
 have s1:(Ax [42]).size=1:=rfl;unfold Dg;simp only[Me,Ch,AmA]
 by_cases hn:nu=Ax []
 .simp only[hn,decide_true,ND,DK,Aa,ne_eq,not_true,false_and,if_false]
  refine(QG (by rw[←hn];omega) _ _).trans ?_;rw[JR]
 .simp only[hn,decide_false,ND,DK,Aa,ne_eq,not_false_eq_true,true_and]
  by_cases hv:va=Ax []
  .simp only[hv,decide_true,ND,DK,Aa,not_true,if_false]
   refine(QG (by rw[←hv];omega) _ _).trans ?_;rw[JR]
  .simp only[hv,decide_false,ND,DK,Aa,not_false_eq_true,if_true]
   have s2:(nu++Ax [42]).size=nu.size+1:=by simp[s1]
   refine(QG (by rw[s1];omega) _ _).trans ?_;refine(QG (by rw[s2];omega) _ _).trans ?_;rw[JR (nu++Ax [42]),JR nu,Ph,Ph]
end
end
end Go.Proofs.YtlmhajfbpplpoaaGreat
