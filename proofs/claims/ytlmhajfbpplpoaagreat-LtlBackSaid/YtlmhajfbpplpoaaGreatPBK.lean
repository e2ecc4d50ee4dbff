/- Plain laws of a text's t -/
import Derived.Test.YtlmhajfbpplpoaaGreatPAP
set_option linter.all false
open List renaming find?_cons->As4,isPrefixOf->As6,length_cons->ν,length_nil->ArI
namespace Go.Proofs.YtlmhajfbpplpoaaGreat
def Pe(c:UInt8):Bool:=[40,41,44,59,58,46,43,42,38,124,33,64,61,60,62,47,45].contains c.toNat
theorem AgP:∀ x∈Hf,x.length<=2:=by decide
theorem WB(x:List UInt8)(c d:UInt8)(l:List UInt8)(h:x.length<=2):x.isPrefixOf (c::d::l)=x.isPrefixOf [c,d]:=by
 match x,h with
 |[],_=>rfl
 |[a],_=>rfl
 |[a,b],_=>simp[As6]
theorem Nd{p q:List UInt8->Bool}:∀(l:List (List UInt8)),(∀ x∈l,p x=q x)->l.find? p=l.find? q
 |[],_=>rfl
 |a::l,h=>by rw[As4,As4,h a (List.mem_cons_self ..),Nd l λx hx=>h x (List.mem_cons_of_mem _ hx)]
theorem Z4(c d:UInt8)(l:List UInt8):B3 (c::d::l)=B3 [c,d]:=by
 unfold B3;rw[Nd Hf λx hx=>WB x c d l (AgP x hx)]
theorem CM(a:Nat)(ha:a<256)(c:UInt8):(UInt8.ofNat a == c)=(c.toNat == a):=by
 rw[Bool.eq_iff_iff,beq_iff_eq,beq_iff_eq];constructor
 .rintro rfl
  simp[Nat.mod_eq_of_lt ha]
 .intro h
  subst h;simp
def Sx(n m:Nat):Nat:=if n=45/\m=62 then 2 else if n=58/\m=61 then 2 else if n=33/\m=61 then 2 else if n=60/\m=61 then 2 else if n=62/\m=61 then 2 else if n=46/\m=46 then 2
 else if [40,41,44,59,58,46,43,42,38,124,33,64,61,60,62,47,45].contains n then 1 else 0
def GW:Option (List UInt8)->Nat|some y=>y.length|none=>0
theorem Rg(l:List UInt8):B3 l=GW (Hf.find? (·.isPrefixOf l)):=by unfold B3 GW;rfl
theorem Qs(x:List UInt8)(xs:List (List UInt8))(l:List UInt8):GW ((x::xs).find? (·.isPrefixOf l))=if x.isPrefixOf l then x.length else GW (xs.find? (·.isPrefixOf l)):=by
 rw[As4]
 cases h:x.isPrefixOf l<;>simp[GW]
theorem Qv(q:List UInt8->Bool):GW (([]:List (List UInt8)).find? q)=0:=rfl
theorem Aqq(a b c d:UInt8):[a,b].isPrefixOf [c,d]=(a == c&&b == d):=by simp[As6]
theorem Aqp(a c d:UInt8):[a].isPrefixOf [c,d]=(a == c):=by simp[As6]
theorem Aoh(a b c:UInt8):[a,b].isPrefixOf [c]=false:=by simp[As6]
theorem Aog(a c:UInt8):[a].isPrefixOf [c]=(a == c):=by simp[As6]
theorem bE(c:UInt8):((45:UInt8) == c)=(c.toNat == 45)/\((62:UInt8) == c)=(c.toNat == 62)/\((58:UInt8) == c)=(c.toNat == 58)/\((61:UInt8) == c)=(c.toNat == 61)/\((33:UInt8) == c)=(c.toNat == 33)/\((60:UInt8) == c)=(c.toNat == 60)/\((46:UInt8) == c)=(c.toNat == 46) ∧
  ((40:UInt8) == c)=(c.toNat == 40)/\((41:UInt8) == c)=(c.toNat == 41)/\((44:UInt8) == c)=(c.toNat == 44)/\((59:UInt8) == c)=(c.toNat == 59)/\((43:UInt8) == c)=(c.toNat == 43)/\((42:UInt8) == c)=(c.toNat == 42)/\((38:UInt8) == c)=(c.toNat == 38)/\((124:UInt8) == c)=(c.toNat == 124)/\((64:UInt8) == c)=(c.toNat == 64)/\((47:UInt8) == c)=(c.toNat == 47):=
 ⟨CM 45 (by decide) c,CM 62 (by decide) c,CM 58 (by decide) c,CM 61 (by decide) c,CM 33 (by decide) c,CM 60 (by decide) c,CM 46 (by decide) c,CM 40 (by decide) c,CM 41 (by decide) c,CM 44 (by decide) c,CM 59 (by decide) c,CM 43 (by decide) c,CM 42 (by decide) c,CM 38 (by decide) c,CM 124 (by decide) c,CM 64 (by decide) c,CM 47 (by decide) c⟩
set_option maxHeartbeats 2000000 in
theorem AdY(c d:UInt8):B3 [c,d]=Sx c.toNat d.toNat:=by
 rw[Rg];unfold Hf;simp only[Qs,Aqq,Aqp,Qv,ν,ArI];obtain⟨h1,h2,h3,h4,h5,h6,h7,h8,h9,h10,h11,h12,h13,h14,h15,h16,h17⟩:=bE c;obtain⟨k1,k2,k3,k4,k5,k6,k7,_⟩:=bE d;simp only[h1,h2,h3,h4,h5,h6,h7,h8,h9,h10,h11,h12,h13,h14,h15,h16,h17,k2,k4,k7];clear h1 h2 h3 h4 h5 h6 h7 h8 h9 h10 h11 h12 h13 h14 h15 h16 h17 k1 k2 k3 k4 k5 k6 k7;generalize c.toNat=n;generalize d.toNat=m;unfold Sx;rcases (by omega:n=40\/n=41\/n=44\/n=59\/n=58\/n=46\/n=43\/n=42\/n=38\/n=124\/n=33\/n=64\/n=61\/n=60\/n=62\/n=47\/n=45\/(n≠40/\n≠41/\n≠44/\n≠59/\n≠58/\n≠46/\n≠43/\n≠42/\n≠38/\n≠124/\n≠33/\n≠64/\n≠61/\n≠60/\n≠62/\n≠47/\n≠45)) with rfl|rfl|rfl|rfl|rfl|rfl|rfl|rfl|rfl|rfl|rfl|rfl|rfl|rfl|rfl|rfl|rfl|h
 all_goals
  rcases (by omega:m=62\/m=61\/m=46\/(m≠62/\m≠61/\m≠46)) with rfl|rfl|rfl|hm
  all_goals first
   |rfl
   |(simp[h,hm];done)
   |(simp[hm.1,hm.2.1,hm.2.2];done)
   |(simp[h];done)
theorem WJ(c:UInt8):B3 [c]=if Pe c then 1 else 0:=by
 rw[Rg];unfold Hf;simp only[Qs,Aoh,Aog,Qv,ν,ArI];obtain⟨h1,h2,h3,h4,h5,h6,h7,h8,h9,h10,h11,h12,h13,h14,h15,h16,h17⟩:=bE c;simp only[h1,h2,h3,h4,h5,h6,h7,h8,h9,h10,h11,h12,h13,h14,h15,h16,h17];clear h1 h2 h3 h4 h5 h6 h7 h8 h9 h10 h11 h12 h13 h14 h15 h16 h17;unfold Pe;generalize c.toNat=n;rcases (by omega:n=40\/n=41\/n=44\/n=59\/n=58\/n=46\/n=43\/n=42\/n=38\/n=124\/n=33\/n=64\/n=61\/n=60\/n=62\/n=47\/n=45\/(n≠40/\n≠41/\n≠44/\n≠59/\n≠58/\n≠46/\n≠43/\n≠42/\n≠38/\n≠124/\n≠33/\n≠64/\n≠61/\n≠60/\n≠62/\n≠47/\n≠45)) with rfl|rfl|rfl|rfl|rfl|rfl|rfl|rfl|rfl|rfl|rfl|rfl|rfl|rfl|rfl|rfl|rfl|h
 all_goals first
  |rfl
  |(simp[h])
def KX(c d:UInt8):Bool:=decide (Sx c.toNat d.toNat=2)
theorem Yk(c d:UInt8)(l:List UInt8):B3 (c::d::l)=if KX c d then 2 else if Pe c then 1 else 0:=by
 rw[Z4,AdY];unfold KX Pe
 by_cases h:Sx c.toNat d.toNat=2
 .simp[h]
 .simp only[h,decide_false,Bool.false_eq_true,if_false]
  unfold Sx at h ⊢
  repeat' split at h
  all_goals first
   |exact absurd rfl h
   |(simp only[*,if_false,if_true])
theorem Ahb{c d:UInt8}(h:KX c d=true):Pe c=true:=by
 unfold KX at h;rw[decide_eq_true_eq]at h;unfold Pe;unfold Sx at h
 repeat' split at h
 all_goals first
  |(rename_i hh;rw[hh.1];rfl)
  |omega
end Go.Proofs.YtlmhajfbpplpoaaGreat
