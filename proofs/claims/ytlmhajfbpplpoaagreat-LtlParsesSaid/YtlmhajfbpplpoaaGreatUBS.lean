/-
  Sums and trees that are handed in.
  Systems that are handed in.
-/
import Derived.Test.YtlmhajfbpplpoaaGreatUBR
import Derived.Test.YtlmhajfbpplpoaaGreatUBE
import Derived.Test.YtlmhajfbpplpoaaGreatUAD
set_option linter.unusedSectionVars false
set_option linter.unusedSimpArgs false
set_option linter.unusedVariables false
namespace Go.Proofs.YtlmhajfbpplpoaaGreat
open Go.ChangeShapes Go.WideShapes Go.ChangeAt Go.RowKit

end Go.Proofs.YtlmhajfbpplpoaaGreat
namespace Go.Proofs.YtlmhajfbpplpoaaGreat
open Go.ChangeShapes Go.WideShapes Go.ChangeAt Go.RowKit

theorem rowsA_of{t e:TypeId}(he:Tryz.prog.underlying t=some (.slice e)){y:D}(h:D.Typed Tryz.prog y t):∃ xs:List (List AV),y.av=[.ls xs]:=by
 obtain⟨xs,rfl,_⟩:=h.slice_ he
 exact⟨_,rfl⟩
theorem strs_of{y:D}(h:D.Typed Tryz.prog y 47):∃ ss:List ByteArray,y.av=[.ls (ss.map eS)]:=by
 obtain⟨xs,rfl,hx⟩:=h.slice_ Tryz.underlying47
 have:∀ xs:List D,(∀ y∈xs,D.Typed Tryz.prog y 9)->∃ ss:List ByteArray,xs.map D.av=ss.map eS:=fun xs=>by
  induction xs with
  |nil=>intro _;exact⟨[],rfl⟩
  |cons x r ih=>
   intro hh
   obtain⟨ms,e1⟩:=ih fun y hy=>hh y (List.mem_cons_of_mem _ hy)
   obtain⟨s,rfl⟩:=(hh x (List.mem_cons_self ..)).str_ Tryz.underlying9
   exact⟨s::ms,by rw[List.map_cons,List.map_cons,e1];rfl⟩
 obtain⟨ss,e1⟩:=this xs hx
 exact⟨ss,by rw[D.av,avRows_map,e1]⟩
theorem pr_of{y:D}(h:D.Typed Tryz.prog y 90):∃ p:Pr,y.av=ePr p:=by
 obtain⟨xs,rfl,g0⟩:=h.struct_ Tryz.underlying90
 obtain⟨x0,r0,rfl,h0,g1⟩:=D.TypedFields.cons_ g0
 obtain⟨x1,r1,rfl,h1,g2⟩:=D.TypedFields.cons_ g1
 obtain⟨x2,r2,rfl,h2,g3⟩:=D.TypedFields.cons_ g2
 obtain rfl:=D.TypedFields.nil_ g3
 obtain⟨s,rfl⟩:=h0.str_ Tryz.underlying9
 obtain⟨l,e1⟩:=strs_of h1
 obtain⟨c,e2⟩:=rowsA_of Tryz.underlying88 h2
 exact⟨⟨s,l,c⟩,by simp only[D.av,avCat,e1,e2];rfl⟩
theorem prs_of{y:D}(h:D.Typed Tryz.prog y 68):∃ ps:List Pr,y.av=[.ls (ps.map ePr)]:=by
 obtain⟨xs,rfl,hx⟩:=h.slice_ Tryz.underlying68
 have:∀ xs:List D,(∀ y∈xs,D.Typed Tryz.prog y 90)->∃ ss:List Pr,xs.map D.av=ss.map ePr:=fun xs=>by
  induction xs with
  |nil=>intro _;exact⟨[],rfl⟩
  |cons x r ih=>
   intro hh
   obtain⟨ms,e1⟩:=ih fun y hy=>hh y (List.mem_cons_of_mem _ hy)
   obtain⟨s,e2⟩:=pr_of (hh x (List.mem_cons_self ..))
   exact⟨s::ms,by rw[List.map_cons,List.map_cons,e1,e2]⟩
 obtain⟨ss,e1⟩:=this xs hx
 exact⟨ss,by rw[D.av,avRows_map,e1]⟩
theorem sy_of{y:D}(h:D.Typed Tryz.prog y 71):∃ s:Sy,y.av=eSy s:=by
 obtain⟨xs,rfl,g0⟩:=h.struct_ Tryz.underlying71
 obtain⟨x0,r0,rfl,h0,g1⟩:=D.TypedFields.cons_ g0
 obtain⟨x1,r1,rfl,h1,g2⟩:=D.TypedFields.cons_ g1
 obtain⟨x2,r2,rfl,h2,g3⟩:=D.TypedFields.cons_ g2
 obtain⟨x3,r3,rfl,h3,g4⟩:=D.TypedFields.cons_ g3
 obtain⟨x4,r4,rfl,h4,g5⟩:=D.TypedFields.cons_ g4
 obtain rfl:=D.TypedFields.nil_ g5
 obtain⟨vs,e0⟩:=strs_of h0
 obtain⟨bs,e1⟩:=rowsA_of Tryz.underlying67 h1
 obtain⟨ps,e3⟩:=prs_of h3
 obtain⟨ac,e4⟩:=rowsA_of Tryz.underlying69 h4
 obtain⟨ys,rfl,i0⟩:=h2.struct_ Tryz.underlying61
 obtain⟨y0,q0,rfl,j0,i1⟩:=D.TypedFields.cons_ i0
 obtain⟨y1,q1,rfl,j1,i2⟩:=D.TypedFields.cons_ i1
 obtain⟨y2,q2,rfl,j2,i3⟩:=D.TypedFields.cons_ i2
 obtain rfl:=D.TypedFields.nil_ i3
 obtain⟨k,rfl,_⟩:=j0.int_ Tryz.underlying3
 obtain⟨ks,f2⟩:=rowsA_of Tryz.underlying59 j2
 obtain⟨zs,rfl,l0⟩:=j1.struct_ Tryz.underlying58
 obtain⟨z0,s0,rfl,m0,l1⟩:=D.TypedFields.cons_ l0
 obtain⟨z1,s1,rfl,m1,l2⟩:=D.TypedFields.cons_ l1
 obtain rfl:=D.TypedFields.nil_ l2
 obtain⟨eq,rfl⟩:=m1.bool_ Tryz.underlying4
 obtain⟨us,rfl,n0⟩:=m0.struct_ Tryz.underlying56
 obtain⟨u0,v0,rfl,o0,n1⟩:=D.TypedFields.cons_ n0
 obtain⟨u1,v1,rfl,o1,n2⟩:=D.TypedFields.cons_ n1
 obtain rfl:=D.TypedFields.nil_ n2
 obtain⟨pt,f3⟩:=rowsA_of Tryz.underlying50 o0
 obtain⟨ws,rfl,p0⟩:=o1.struct_ Tryz.underlying54
 obtain⟨w0,w1',rfl,a0,p1⟩:=D.TypedFields.cons_ p0
 obtain⟨w1,w2',rfl,a1,p2⟩:=D.TypedFields.cons_ p1
 obtain rfl:=D.TypedFields.nil_ p2
 obtain⟨ng,rfl⟩:=a0.bool_ Tryz.underlying4
 obtain⟨ab,f4⟩:=rowsA_of Tryz.underlying52 a1
 exact⟨⟨vs,bs,k,pt,ng,ab,eq,ks,ps,ac⟩,by simp only[D.av,avCat,e0,e1,e3,e4,f2,f3,f4];rfl⟩
end Go.Proofs.YtlmhajfbpplpoaaGreat
