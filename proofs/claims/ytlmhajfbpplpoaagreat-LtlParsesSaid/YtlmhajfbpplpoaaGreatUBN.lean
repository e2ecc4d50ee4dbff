/-
  Layer 10: Spell: tokens as a text.
  Plain laws of a text's tokens. No program in sight.
  Tokens laid out again, with whatever may stand between them: they are read as the same tokens. No program in sight.
  Spelled tokens are read as the same tokens. No program in sight.
  Where tokens stand. No program in sight.
  Layer 10: the reference's class of a byte.
  Layer 10: the reference's All, what its walk asks of the pure lexer.
  Layer 10: the reference's two.
-/
import Derived.Test.YtlmhajfbpplpoaaGreatUBL
import Derived.Test.YtlmhajfbpplpoaaGreatUAP
import Derived.Lib.Join
import Derived.Test.YtlmhajfbpplpoaaGreatUAW
import Derived.Laws.IdiomStrings
set_option linter.unusedSectionVars false
set_option linter.unusedSimpArgs false
set_option linter.unusedVariables false
namespace Go.Proofs.YtlmhajfbpplpoaaGreat
open Go.RowKit

def TksIn(w:World)(v:Value)(ts:List Tk):Prop:=∃ A c,v=.slice A ts.length c/\(0<ts.length->∃ b,A=some ⟨b,0,none⟩/\b<w.heap.size/\∀ j u,(tksCells ts)[j]? = some u->w.cell? ⟨b,j,none⟩=some u)
theorem TksIn.call{w w':World}{v:Value}{ts:List Tk}(h:TksIn w v ts)(hb:Below w.heap.size w w'):TksIn w' v ts:=by
 obtain⟨A,c,rfl,h⟩:=h
 refine⟨A,c,rfl,fun h0=>?_⟩
 obtain⟨b,rfl,hl,hc⟩:=h h0
 exact⟨b,rfl,Nat.lt_of_lt_of_le hl hb.size,fun j u hj=>(hb.cell (p:=⟨b,j,none⟩) hl).trans (hc j u hj)⟩
end Go.Proofs.YtlmhajfbpplpoaaGreat
namespace Go.Proofs.YtlmhajfbpplpoaaGreat

def oneB(c:UInt8):Bool:=[40,41,44,59,58,46,43,42,38,124,33,64,61,60,62,47,45].contains c.toNat
theorem sgn_pre:∀ x∈sgns,x.length<=2:=by decide
theorem prefix_two(x:List UInt8)(c d:UInt8)(l:List UInt8)(h:x.length<=2):x.isPrefixOf (c::d::l)=x.isPrefixOf [c,d]:=by
 match x,h with
 |[],_=>rfl
 |[a],_=>rfl
 |[a,b],_=>simp[List.isPrefixOf]
theorem find_congr'{p q:List UInt8->Bool}:∀(l:List (List UInt8)),(∀ x∈l,p x=q x)->l.find? p=l.find? q
 |[],_=>rfl
 |a::l,h=>by rw[List.find?_cons,List.find?_cons,h a (List.mem_cons_self ..),find_congr' l fun x hx=>h x (List.mem_cons_of_mem _ hx)]
theorem sgn_short(c d:UInt8)(l:List UInt8):sgnLen (c::d::l)=sgnLen [c,d]:=by
 unfold sgnLen
 rw[find_congr' sgns fun x hx=>prefix_two x c d l (sgn_pre x hx)]
theorem byte_eq(a:Nat)(ha:a<256)(c:UInt8):(UInt8.ofNat a == c)=(c.toNat == a):=by
 rw[Bool.eq_iff_iff,beq_iff_eq,beq_iff_eq]
 constructor
 .rintro rfl
  simp[Nat.mod_eq_of_lt ha]
 .intro h
  subst h
  simp
def sgnN(n m:Nat):Nat:=if n=45/\m=62 then 2 else if n=58/\m=61 then 2 else if n=33/\m=61 then 2 else if n=60/\m=61 then 2 else if n=62/\m=61 then 2 else if n=46/\m=46 then 2
 else if [40,41,44,59,58,46,43,42,38,124,33,64,61,60,62,47,45].contains n then 1 else 0
def foundLen:Option (List UInt8)->Nat|some y=>y.length|none=>0
theorem sgnLen_eq(l:List UInt8):sgnLen l=foundLen (sgns.find? (·.isPrefixOf l)):=by unfold sgnLen foundLen;rfl
theorem find_step(x:List UInt8)(xs:List (List UInt8))(l:List UInt8):foundLen ((x::xs).find? (·.isPrefixOf l))=if x.isPrefixOf l then x.length else foundLen (xs.find? (·.isPrefixOf l)):=by
 rw[List.find?_cons]
 cases h:x.isPrefixOf l<;>simp[foundLen]
theorem found_nil(q:List UInt8->Bool):foundLen (([]:List (List UInt8)).find? q)=0:=rfl
theorem pre2(a b c d:UInt8):[a,b].isPrefixOf [c,d]=(a == c&&b == d):=by simp[List.isPrefixOf]
theorem pre1(a c d:UInt8):[a].isPrefixOf [c,d]=(a == c):=by simp[List.isPrefixOf]
theorem pre21(a b c:UInt8):[a,b].isPrefixOf [c]=false:=by simp[List.isPrefixOf]
theorem pre11(a c:UInt8):[a].isPrefixOf [c]=(a == c):=by simp[List.isPrefixOf]
theorem bE(c:UInt8):((45:UInt8) == c)=(c.toNat == 45)/\((62:UInt8) == c)=(c.toNat == 62)/\((58:UInt8) == c)=(c.toNat == 58)/\((61:UInt8) == c)=(c.toNat == 61)/\((33:UInt8) == c)=(c.toNat == 33)/\((60:UInt8) == c)=(c.toNat == 60)/\((46:UInt8) == c)=(c.toNat == 46) ∧
  ((40:UInt8) == c)=(c.toNat == 40)/\((41:UInt8) == c)=(c.toNat == 41)/\((44:UInt8) == c)=(c.toNat == 44)/\((59:UInt8) == c)=(c.toNat == 59)/\((43:UInt8) == c)=(c.toNat == 43)/\((42:UInt8) == c)=(c.toNat == 42)/\((38:UInt8) == c)=(c.toNat == 38)/\((124:UInt8) == c)=(c.toNat == 124)/\((64:UInt8) == c)=(c.toNat == 64)/\((47:UInt8) == c)=(c.toNat == 47):=
 ⟨byte_eq 45 (by decide) c,byte_eq 62 (by decide) c,byte_eq 58 (by decide) c,byte_eq 61 (by decide) c,byte_eq 33 (by decide) c,byte_eq 60 (by decide) c,byte_eq 46 (by decide) c,byte_eq 40 (by decide) c,byte_eq 41 (by decide) c,byte_eq 44 (by decide) c,byte_eq 59 (by decide) c,byte_eq 43 (by decide) c,byte_eq 42 (by decide) c,byte_eq 38 (by decide) c,byte_eq 124 (by decide) c,byte_eq 64 (by decide) c,byte_eq 47 (by decide) c⟩
set_option maxHeartbeats 2000000 in
theorem sgn_pair(c d:UInt8):sgnLen [c,d]=sgnN c.toNat d.toNat:=by
 rw[sgnLen_eq]
 unfold sgns
 simp only[find_step,pre2,pre1,found_nil,List.length_cons,List.length_nil]
 obtain⟨h1,h2,h3,h4,h5,h6,h7,h8,h9,h10,h11,h12,h13,h14,h15,h16,h17⟩:=bE c
 obtain⟨k1,k2,k3,k4,k5,k6,k7,_⟩:=bE d
 simp only[h1,h2,h3,h4,h5,h6,h7,h8,h9,h10,h11,h12,h13,h14,h15,h16,h17,k2,k4,k7]
 clear h1 h2 h3 h4 h5 h6 h7 h8 h9 h10 h11 h12 h13 h14 h15 h16 h17 k1 k2 k3 k4 k5 k6 k7
 generalize c.toNat=n
 generalize d.toNat=m
 unfold sgnN
 rcases (by omega:n=40\/n=41\/n=44\/n=59\/n=58\/n=46\/n=43\/n=42\/n=38\/n=124\/n=33\/n=64\/n=61\/n=60\/n=62\/n=47\/n=45\/(n≠40/\n≠41/\n≠44/\n≠59/\n≠58/\n≠46/\n≠43/\n≠42/\n≠38/\n≠124/\n≠33/\n≠64/\n≠61/\n≠60/\n≠62/\n≠47/\n≠45)) with rfl|rfl|rfl|rfl|rfl|rfl|rfl|rfl|rfl|rfl|rfl|rfl|rfl|rfl|rfl|rfl|rfl|h
 all_goals
  rcases (by omega:m=62\/m=61\/m=46\/(m≠62/\m≠61/\m≠46)) with rfl|rfl|rfl|hm
  all_goals first
   |rfl
   |(simp[h,hm];done)
   |(simp[hm.1,hm.2.1,hm.2.2];done)
   |(simp[h];done)
theorem sgn_single(c:UInt8):sgnLen [c]=if oneB c then 1 else 0:=by
 rw[sgnLen_eq]
 unfold sgns
 simp only[find_step,pre21,pre11,found_nil,List.length_cons,List.length_nil]
 obtain⟨h1,h2,h3,h4,h5,h6,h7,h8,h9,h10,h11,h12,h13,h14,h15,h16,h17⟩:=bE c
 simp only[h1,h2,h3,h4,h5,h6,h7,h8,h9,h10,h11,h12,h13,h14,h15,h16,h17]
 clear h1 h2 h3 h4 h5 h6 h7 h8 h9 h10 h11 h12 h13 h14 h15 h16 h17
 unfold oneB
 generalize c.toNat=n
 rcases (by omega:n=40\/n=41\/n=44\/n=59\/n=58\/n=46\/n=43\/n=42\/n=38\/n=124\/n=33\/n=64\/n=61\/n=60\/n=62\/n=47\/n=45\/(n≠40/\n≠41/\n≠44/\n≠59/\n≠58/\n≠46/\n≠43/\n≠42/\n≠38/\n≠124/\n≠33/\n≠64/\n≠61/\n≠60/\n≠62/\n≠47/\n≠45)) with rfl|rfl|rfl|rfl|rfl|rfl|rfl|rfl|rfl|rfl|rfl|rfl|rfl|rfl|rfl|rfl|rfl|h
 all_goals first
  |rfl
  |(simp[h])
def twoB(c d:UInt8):Bool:=decide (sgnN c.toNat d.toNat=2)
theorem sgn_two(c d:UInt8)(l:List UInt8):sgnLen (c::d::l)=if twoB c d then 2 else if oneB c then 1 else 0:=by
 rw[sgn_short,sgn_pair]
 unfold twoB oneB
 by_cases h:sgnN c.toNat d.toNat=2
 .simp[h]
 .simp only[h,decide_false,Bool.false_eq_true,if_false]
  unfold sgnN at h ⊢
  repeat' split at h
  all_goals first
   |exact absurd rfl h
   |(simp only[*,if_false,if_true])
theorem two_one{c d:UInt8}(h:twoB c d=true):oneB c=true:=by
 unfold twoB at h
 rw[decide_eq_true_eq]at h
 unfold oneB
 unfold sgnN at h
 repeat' split at h
 all_goals first
  |(rename_i hh;rw[hh.1];rfl)
  |omega
theorem sgn_zero(c:UInt8)(l:List UInt8):sgnLen (c::l)=0 ↔ oneB c=false:=by
 cases l with
 |nil=>rw[sgn_single];cases oneB c<;>simp
 |cons d l=>
  rw[sgn_two]
  cases h:twoB c d
  .cases oneB c<;>simp
  .rw[two_one h];simp

end Go.Proofs.YtlmhajfbpplpoaaGreat
namespace Go.Proofs.YtlmhajfbpplpoaaGreat

def gapB(c:UInt8):Bool:=c.toNat == 10||c.toNat == 32||c.toNat == 9||c.toNat == 35
def Sep(b:List UInt8):Prop:=∃ c r,b=c::r/\gapB c=true
def Ends(rest:List UInt8):Prop:=rest=[]\/Sep rest
def Good(k:Nat)(text:List UInt8):Prop:=(∃ c r,text=c::r/\gapB c=false)/\∀ rest,Ends rest->tok1 (text++rest)=.tok k text.length

def GoodToks:List Tk->Prop
 |[]=>False
 |[t]=>t.kind=5/\t.text=[]
 |t::u::r=>Good t.kind t.text/\GoodToks (u::r)
theorem GoodToks.ne{ts:List Tk}(h:GoodToks ts):ts≠[]:=by rintro rfl;exact h
theorem GoodToks.cons{t:Tk}{ts:List Tk}(h:Good t.kind t.text)(hs:GoodToks ts):GoodToks (t::ts):=by
 cases ts with
 |nil=>exact hs.elim
 |cons u r=>exact⟨h,hs⟩
def lay:List (List UInt8)->List Tk->List UInt8
 |b::bs,t::ts=>b++t.text++lay bs ts
 |_,_=>[]
end Go.Proofs.YtlmhajfbpplpoaaGreat
namespace Go.Proofs.YtlmhajfbpplpoaaGreat

end Go.Proofs.YtlmhajfbpplpoaaGreat
namespace Go.Proofs.YtlmhajfbpplpoaaGreat

def Bef(p q:Nat × Nat):Prop:=p.1<q.1\/(p.1=q.1/\p.2<q.2)
theorem Bef.trans{p q r:Nat × Nat}(h:Bef p q)(k:Bef q r):Bef p r:=by
 unfold Bef at *
 omega
def posI(l:List UInt8)(i:Nat):Nat × Nat:=adv (1,1) (l.take i)
theorem posI_add(l:List UInt8)(i n:Nat):adv (posI l i) ((l.drop i).take n)=posI l (i+n):=by
 unfold posI
 rw[←adv_append,←List.take_add]
def Placed(l:List UInt8):Nat->List Tk->Prop
 |_,[]=>True
 |i,t::ts=>∃ j,i<=j/\j+t.text.length<=l.length/\(t.ln,t.co)=posI l j/\t.text=(l.drop j).take t.text.length/\(ts=[]\/0<t.text.length)/\Placed l (j+t.text.length) ts
theorem Placed.le{l:List UInt8}{i i':Nat}{ts:List Tk}(h:Placed l i ts)(hi:i'<=i):Placed l i' ts:=by
 cases ts with
 |nil=>trivial
 |cons t ts=>
  obtain⟨j,h1,h2⟩:=h
  exact⟨j,by omega,h2⟩
end Go.Proofs.YtlmhajfbpplpoaaGreat
namespace Go.Proofs.YtlmhajfbpplpoaaGreat
open Go.RowKit

def clsN(n:Nat):Nat:=if 97<=n/\n<=122 then 1 else if 48<=n/\n<=57 then 2 else if n=95 then 3 else if [88,71,70,85,82].contains n then 4 else if [32,9,10,35].contains n then 5 else if [40,41,44,59,58,46,43,42,38,124,33,64,61,60,62,47,45].contains n then 6 else 0
def clsB(c:UInt8):Nat:=clsN c.toNat
set_option maxRecDepth 100000 in
set_option maxHeartbeats 8000000 in
theorem class_any(c:UInt8)(b:Int)(w:World)(hb:b=(c.toNat:Int)):Calls Tryz.prog 97 #[.int .u8 b] w fun e w'=>e=.returned (.int .i64 (clsB c))/\w=w':=by
 subst hb
 have hc:=c.toNat_lt
 obtain⟨m,hm⟩:∃ m,clsB c=m:=⟨_,rfl⟩
 rw[hm]
 have hm:clsN c.toNat=m:=hm
 generalize c.toNat=n at *
 by_cases h1:97<=n/\n<=122
 .obtain rfl:1=m:=by rw[←hm];unfold clsN;rw[if_pos h1]
  have z1:(97:Int)<=(n:Int):=by omega
  have z2:(n:Int)<=122:=by omega
  clear hm h1
  go_enter Tryz.func97,Tryz.ntmps97
  go_wp2
  go_ret
  exact⟨rfl,rfl⟩
 by_cases h2:48<=n/\n<=57
 .obtain rfl:2=m:=by rw[←hm];unfold clsN;rw[if_neg h1,if_pos h2]
  have z1:¬ (97:Int)<=(n:Int):=by omega
  have z2:(48:Int)<=(n:Int):=by omega
  have z3:(n:Int)<=57:=by omega
  clear hm h1 h2
  go_enter Tryz.func97,Tryz.ntmps97
  go_wp2
  go_ret
  exact⟨rfl,rfl⟩
 by_cases h3:n∈[95,88,71,70,85,82,32,9,10,35,40,41,44,59,58,46,43,42,38,124,33,64,61,60,62,47,45]
 .simp only[List.mem_cons,List.not_mem_nil,or_false]at h3
  clear h1 h2 hc
  rcases h3 with rfl|rfl|rfl|rfl|rfl|rfl|rfl|rfl|rfl|rfl|rfl|rfl|rfl|rfl|rfl|rfl|rfl|rfl|rfl|rfl|rfl|rfl|rfl|rfl|rfl|rfl|rfl
  all_goals
   subst hm
   go_enter Tryz.func97,Tryz.ntmps97
   go_wp2
   go_ret
   exact⟨rfl,rfl⟩
 .simp only[List.mem_cons,List.not_mem_nil,or_false,not_or]at h3
  obtain⟨n95,n88,n71,n70,n85,n82,n32,n9,n10,n35,n40,n41,n44,n59,n58,n46,n43,n42,n38,n124,n33,n64,n61,n60,n62,n47,n45⟩:=h3
  obtain rfl:0=m:=by
   rw[←hm]
   unfold clsN
   rw[if_neg h1,if_neg h2]
   simp[n95,n88,n71,n70,n85,n82,n32,n9,n10,n35,n40,n41,n44,n59,n58,n46,n43,n42,n38,n124,n33,n64,n61,n60,n62,n47,n45]
  have q95:((n:Int) == 95)=false:=by rw[beq_eq_false_iff_ne];omega
  have q88:((n:Int) == 88)=false:=by rw[beq_eq_false_iff_ne];omega
  have q71:((n:Int) == 71)=false:=by rw[beq_eq_false_iff_ne];omega
  have q70:((n:Int) == 70)=false:=by rw[beq_eq_false_iff_ne];omega
  have q85:((n:Int) == 85)=false:=by rw[beq_eq_false_iff_ne];omega
  have q82:((n:Int) == 82)=false:=by rw[beq_eq_false_iff_ne];omega
  have q32:((n:Int) == 32)=false:=by rw[beq_eq_false_iff_ne];omega
  have q9:((n:Int) == 9)=false:=by rw[beq_eq_false_iff_ne];omega
  have q10:((n:Int) == 10)=false:=by rw[beq_eq_false_iff_ne];omega
  have q35:((n:Int) == 35)=false:=by rw[beq_eq_false_iff_ne];omega
  have q40:((n:Int) == 40)=false:=by rw[beq_eq_false_iff_ne];omega
  have q41:((n:Int) == 41)=false:=by rw[beq_eq_false_iff_ne];omega
  have q44:((n:Int) == 44)=false:=by rw[beq_eq_false_iff_ne];omega
  have q59:((n:Int) == 59)=false:=by rw[beq_eq_false_iff_ne];omega
  have q58:((n:Int) == 58)=false:=by rw[beq_eq_false_iff_ne];omega
  have q46:((n:Int) == 46)=false:=by rw[beq_eq_false_iff_ne];omega
  have q43:((n:Int) == 43)=false:=by rw[beq_eq_false_iff_ne];omega
  have q42:((n:Int) == 42)=false:=by rw[beq_eq_false_iff_ne];omega
  have q38:((n:Int) == 38)=false:=by rw[beq_eq_false_iff_ne];omega
  have q124:((n:Int) == 124)=false:=by rw[beq_eq_false_iff_ne];omega
  have q33:((n:Int) == 33)=false:=by rw[beq_eq_false_iff_ne];omega
  have q64:((n:Int) == 64)=false:=by rw[beq_eq_false_iff_ne];omega
  have q61:((n:Int) == 61)=false:=by rw[beq_eq_false_iff_ne];omega
  have q60:((n:Int) == 60)=false:=by rw[beq_eq_false_iff_ne];omega
  have q62:((n:Int) == 62)=false:=by rw[beq_eq_false_iff_ne];omega
  have q47:((n:Int) == 47)=false:=by rw[beq_eq_false_iff_ne];omega
  have q45:((n:Int) == 45)=false:=by rw[beq_eq_false_iff_ne];omega
  clear hm n95 n88 n71 n70 n85 n82 n32 n9 n10 n35 n40 n41 n44 n59 n58 n46 n43 n42 n38 n124 n33 n64 n61 n60 n62 n47 n45
  have hr:n<48\/(57<n/\n<97)\/122<n:=by omega
  clear h1 h2 hc
  rcases hr with r|⟨r1,r2⟩|r
  .have z1:¬ (97:Int)<=(n:Int):=by omega
   have z2:¬ (48:Int)<=(n:Int):=by omega
   clear r
   go_enter Tryz.func97,Tryz.ntmps97
   go_wp2
   go_ret
   exact⟨rfl,rfl⟩
  .have z1:¬ (97:Int)<=(n:Int):=by omega
   have z2:(48:Int)<=(n:Int):=by omega
   have z3:¬ (n:Int)<=57:=by omega
   clear r1 r2
   go_enter Tryz.func97,Tryz.ntmps97
   go_wp2
   go_ret
   exact⟨rfl,rfl⟩
  .have z1:(97:Int)<=(n:Int):=by omega
   have z2:¬ (n:Int)<=122:=by omega
   have z3:(48:Int)<=(n:Int):=by omega
   have z4:¬ (n:Int)<=57:=by omega
   clear r
   go_enter Tryz.func97,Tryz.ntmps97
   go_wp2
   go_ret
   exact⟨rfl,rfl⟩
theorem cls_facts(c:UInt8):(clsB c == 2)=digB c/\(clsB c == 1)=lowB c/\(decide (1<=clsB c)&&decide (clsB c<=3))=innB c:=by
 have:∀ n:Fin 256,(clsB (UInt8.ofNat n) == 2)=digB (UInt8.ofNat n)/\(clsB (UInt8.ofNat n) == 1)=lowB (UInt8.ofNat n)/\(decide (1<=clsB (UInt8.ofNat n))&&decide (clsB (UInt8.ofNat n)<=3))=innB (UInt8.ofNat n):=by decide +kernel
 have:=this ⟨c.toNat,c.toNat_lt⟩
 simpa using this
end Go.Proofs.YtlmhajfbpplpoaaGreat
namespace Go.Proofs.YtlmhajfbpplpoaaGreat
open Go.RowKit

theorem posI_next(s:ByteArray)(i:Nat)(h:i<s.size):adv1 (posI s.data.toList i) (atB s i)=posI s.data.toList (i+1):=by
 unfold posI
 have:=take_at s 0 i (by omega)
 rw[List.drop_zero,Nat.zero_add]at this
 rw[this,adv_snoc]
theorem posAt_posI(s:ByteArray)(i n:Nat):posAt s i (posI s.data.toList i) n=posI s.data.toList (i+n):=posI_add _ _ _
def lexI(s:ByteArray)(i:Nat):LexR:=lexAt s i (posI s.data.toList i)
theorem lexI_eq(s:ByteArray)(i:Nat):lexI s i=match tok1 (s.data.toList.drop (i+gapAt false s i)) with
  |.fin=>.ok [⟨5,[],(posI s.data.toList (i+gapAt false s i)).1,(posI s.data.toList (i+gapAt false s i)).2⟩]
  |.err e=>.err e (posI s.data.toList (i+gapAt false s i)).1 (posI s.data.toList (i+gapAt false s i)).2
  |.tok kind n=>(lexI s (i+gapAt false s i+n)).more ⟨kind,cut s (i+gapAt false s i) n,(posI s.data.toList (i+gapAt false s i)).1,(posI s.data.toList (i+gapAt false s i)).2⟩:=by
 unfold lexI
 rw[lexAt_eq]
 simp only[posAt_posI]
 all_goals (generalize tok1 _=T;cases T<;>rfl)
theorem lexI_zero(s:ByteArray)(h:¬ 16384<s.size):lexAll s.data.toList=lexI s 0:=by
 unfold lexAll lexI lexAt
 rw[len_of,if_neg h,List.drop_zero]
 rfl
theorem gapAt_le(s:ByteArray)(i:Nat)(h:i<=s.size):i+gapAt false s i<=s.size:=by
 have:=gap_le false (s.data.toList.drop i)
 rw[List.length_drop,len_of]at this
 unfold gapAt
 omega
theorem cls_gap(c:UInt8):(clsB c == 5)=(c.toNat == 10||c.toNat == 35||c.toNat == 32||c.toNat == 9):=by
 have:∀ n:Fin 256,(clsB (UInt8.ofNat n) == 5)=((UInt8.ofNat n).toNat == 10||(UInt8.ofNat n).toNat == 35||(UInt8.ofNat n).toNat == 32||(UInt8.ofNat n).toNat == 9):=by decide +kernel
 have:=this ⟨c.toNat,c.toNat_lt⟩
 simpa using this
theorem gap_white{s:ByteArray}{j:Nat}(h:j<s.size)(h5:clsB (atB s j)=5)(hs:(atB s j).toNat≠35):gapAt false s j=gapAt false s (j+1)+1:=by
 have:=cls_gap (atB s j)
 rw[h5]at this
 simp at this
 rw[gapAt_at false s j h]
 rcases this with ((h1|h1) | h1) | h1
 .rw[if_pos h1]
 .exact absurd h1 hs
 .rw[if_neg (by omega),if_neg (by simp),if_neg hs,if_pos (.inl h1)]
 .rw[if_neg (by omega),if_neg (by simp),if_neg hs,if_pos (.inr h1)]
theorem gap_none{s:ByteArray}{j:Nat}(h:j<s.size)(h5:clsB (atB s j)≠5):gapAt false s j=0:=by
 have:=cls_gap (atB s j)
 have e:(clsB (atB s j) == 5)=false:=by rw[beq_eq_false_iff_ne];exact h5
 rw[e]at this
 have:=this.symm
 simp at this
 rw[gapAt_at false s j h,if_neg (by omega),if_neg (by simp),if_neg (by omega),if_neg (by omega)]
theorem gap_sharp{s:ByteArray}{j:Nat}(h:j<s.size)(hs:(atB s j).toNat=35):gapAt false s j=gapAt true s j:=by
 rw[gapAt_at false s j h,gapAt_at true s j h,if_neg (by omega),if_neg (by simp),if_pos hs,if_neg (by omega),if_pos rfl]
theorem gap_in{s:ByteArray}{j:Nat}(h:j<s.size)(hs:(atB s j).toNat≠10):gapAt true s j=gapAt true s (j+1)+1:=by
 rw[gapAt_at true s j h,if_neg hs,if_pos rfl]
theorem gap_out{s:ByteArray}{j:Nat}(h:j<s.size)(hs:(atB s j).toNat=10):gapAt true s j=gapAt false s j:=by
 rw[gapAt_at true s j h,gapAt_at false s j h,if_pos hs,if_pos hs]
theorem cls_tok(c:UInt8):(clsB c=1 ↔ lowB c=true)/\(clsB c=2 ↔ digB c=true)/\(clsB c=4 ↔ lowB c=false/\digB c=false/\bigB c=true)/\(clsB c=6 ↔ lowB c=false/\digB c=false/\bigB c=false/\oneB c=true)/\clsB c<=6:=by
 have:∀ n:Fin 256,(clsB (UInt8.ofNat n)=1 ↔ lowB (UInt8.ofNat n)=true)/\(clsB (UInt8.ofNat n)=2 ↔ digB (UInt8.ofNat n)=true)/\(clsB (UInt8.ofNat n)=4 ↔ lowB (UInt8.ofNat n)=false/\digB (UInt8.ofNat n)=false/\bigB (UInt8.ofNat n)=true)/\(clsB (UInt8.ofNat n)=6 ↔ lowB (UInt8.ofNat n)=false/\digB (UInt8.ofNat n)=false/\bigB (UInt8.ofNat n)=false/\oneB (UInt8.ofNat n)=true)/\clsB (UInt8.ofNat n)<=6:=by decide +kernel
 have:=this ⟨c.toNat,c.toNat_lt⟩
 simpa using this
theorem tok_end(s:ByteArray):tok1 (s.data.toList.drop s.size)=.fin:=by
 rw[List.drop_of_length_le (by rw[len_of];exact Nat.le_refl _)]
 rfl
section
variable {s:ByteArray} {j:Nat} (h:j<s.size)
include h
theorem tok_bad(hc:clsB (atB s j)=0\/clsB (atB s j)=3):tok1 (s.data.toList.drop j)=.err 100:=by
 obtain⟨c1,c2,c4,c6,_⟩:=cls_tok (atB s j)
 have hl:lowB (atB s j)=false:=by rw[←Bool.not_eq_true,←c1];omega
 have hd:digB (atB s j)=false:=by rw[←Bool.not_eq_true,←c2];omega
 have hb:bigB (atB s j)=false:=by rw[←Bool.not_eq_true];intro hb;have:=c4.2 ⟨hl,hd,hb⟩;omega
 have ho:oneB (atB s j)=false:=by rw[←Bool.not_eq_true];intro ho;have:=c6.2 ⟨hl,hd,hb,ho⟩;omega
 rw[drop_at s j h,tok1_cons,hl,hd,hb,if_neg (by simp),if_neg (by simp),if_neg (by simp),if_pos ((sgn_zero _ _).2 ho)]
theorem tok_word(hc:clsB (atB s j)=1):tok1 (s.data.toList.drop j)=if 20<spanAt innB s j then .err 2 else .tok 1 (spanAt innB s j):=by
 have hl:=(cls_tok (atB s j)).1.1 hc
 unfold spanAt
 rw[drop_at s j h,tok1_cons,hl,if_pos rfl]
theorem tok_num(hc:clsB (atB s j)=2):tok1 (s.data.toList.drop j)=if 60<spanAt digB s j then .err 2 else if 1<spanAt digB s j/\(atB s j).toNat=48 then .err 20 else .tok 3 (spanAt digB s j):=by
 obtain⟨c1,c2,_⟩:=cls_tok (atB s j)
 have hl:lowB (atB s j)=false:=by rw[←Bool.not_eq_true,←c1];omega
 have hd:=c2.1 hc
 unfold spanAt
 rw[drop_at s j h,tok1_cons,hl,hd,if_neg (by simp),if_pos rfl]
theorem tok_big(hc:clsB (atB s j)=4):tok1 (s.data.toList.drop j)=.tok 4 1:=by
 obtain⟨hl,hd,hb⟩:=(cls_tok (atB s j)).2.2.1.1 hc
 rw[drop_at s j h,tok1_cons,hl,hd,hb,if_neg (by simp),if_neg (by simp),if_pos rfl]
theorem tok_sign1(hc:clsB (atB s j)=6)(he:j+1=s.size):tok1 (s.data.toList.drop j)=.tok 2 1:=by
 obtain⟨hl,hd,hb,ho⟩:=(cls_tok (atB s j)).2.2.2.1.1 hc
 rw[drop_at s j h,tok1_cons,hl,hd,hb,if_neg (by simp),if_neg (by simp),if_neg (by simp)]
 rw[List.drop_of_length_le (by rw[len_of];omega),sgn_single,ho,if_pos rfl,if_neg (by decide)]
theorem tok_sign2(hc:clsB (atB s j)=6)(he:j+1<s.size):tok1 (s.data.toList.drop j)=.tok 2 (if twoB (atB s j) (atB s (j+1)) then 2 else 1):=by
 obtain⟨hl,hd,hb,ho⟩:=(cls_tok (atB s j)).2.2.2.1.1 hc
 rw[drop_at s j h,tok1_cons,hl,hd,hb,if_neg (by simp),if_neg (by simp),if_neg (by simp)]
 rw[drop_at s (j+1) he,sgn_two,ho]
 rcases twoB (atB s j) (atB s (j+1))<;>simp
end
end Go.Proofs.YtlmhajfbpplpoaaGreat
namespace Go.Proofs.YtlmhajfbpplpoaaGreat
open Go.RowKit

set_option maxRecDepth 100000 in
set_option maxHeartbeats 4000000 in
theorem rtwo_any(c d:UInt8)(a b:Int)(w:World)(ha:a=(c.toNat:Int))(hb:b=(d.toNat:Int)):Calls Tryz.prog 98 #[.int .u8 a,.int .u8 b] w fun e w'=>e=.returned (.bool (twoB c d))/\Below w.heap.size w w':=by
 have e1:∀(x:UInt8) (n:Nat),n<256->(x == UInt8.ofNat n)=(x.toNat == n):=fun x n hn=>by
  rw[Bool.eq_iff_iff]
  simp only[beq_iff_eq]
  constructor
  .rintro rfl;simp[Nat.mod_eq_of_lt hn]
  .rintro rfl;simp
 have c45:(c == 45)=(c.toNat == 45):=e1 c 45 (by decide)
 have c58:(c == 58)=(c.toNat == 58):=e1 c 58 (by decide)
 have c33:(c == 33)=(c.toNat == 33):=e1 c 33 (by decide)
 have c60:(c == 60)=(c.toNat == 60):=e1 c 60 (by decide)
 have c62:(c == 62)=(c.toNat == 62):=e1 c 62 (by decide)
 have c46:(c == 46)=(c.toNat == 46):=e1 c 46 (by decide)
 have d62:(d == 62)=(d.toNat == 62):=e1 d 62 (by decide)
 have d61:(d == 61)=(d.toNat == 61):=e1 d 61 (by decide)
 have d46:(d == 46)=(d.toNat == 46):=e1 d 46 (by decide)
 have HT:=Lib.hid (show twoB c d=((c == 45&&d == 62)||(c == 58&&d == 61)||(c == 33&&d == 61)||(c == 60&&d == 61)||(c == 62&&d == 61)||(c == 46&&d == 46)) by
  rw[c45,c58,c33,c60,c62,c46,d62,d61,d46]
  unfold twoB sgnN
  rw[Bool.eq_iff_iff]
  simp only[decide_eq_true_eq,Bool.or_eq_true,Bool.and_eq_true,beq_iff_eq]
  repeat' split
  all_goals omega)
 clear e1 c45 c58 c33 c60 c62 c46 d62 d61 d46
 have hconv:=run_convert_bytes_back (P:=Tryz.prog) (w.alloc (.cells #[.int .u8 (c.toNat:Int),.int .u8 (d.toNat:Int)] 5)) 117 9 5 ⟨w.heap.size,0,none⟩ 2 [c,d] Tryz.underlying117 Tryz.underlying5 Tryz.underlying9 (fun j hj=>by
  have hk:=(Blk.new w 5 #[.int .u8 (c.toNat:Int),.int .u8 (d.toNat:Int)]).cell j
  rw[add_none,Nat.zero_add,hk]
  have hj':j<2:=hj
  rcases j with _|_|j
  .rfl
  .rfl
  .omega)
 simp only[List.length_cons,List.length_nil]at hconv
 have hb1:=below_one w (.cells #[.int .u8 (c.toNat:Int),.int .u8 (d.toNat:Int)] 5)
 have HB:=Lib.hid hb1
 clear hb1
 subst ha hb
 go_enter Tryz.func98,Tryz.ntmps98
 go_wp2
 all_goals
  go_ret
  exact⟨ret_bool (by rw[HT.out];simp_all;try (refine⟨⟨⟨⟨⟨?_,?_⟩,?_⟩,?_⟩,?_⟩,?_⟩<;>intro h1 h2<;>simp_all)),HB.out⟩
end Go.Proofs.YtlmhajfbpplpoaaGreat
