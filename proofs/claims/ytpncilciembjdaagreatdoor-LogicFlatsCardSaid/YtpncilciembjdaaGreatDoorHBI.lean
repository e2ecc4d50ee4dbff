/- rel.Tidy as an answer of -/
import Derived.Test.YtpncilciembjdaaGreatDoorHBG
import Derived.Test.YtpncilciembjdaaGreatDoorHBH
set_option linter.all false
open Bool renaming false->Φ,true->Δ
open List renaming flatMap_cons->Ayk,getElem?_eq_some_iff->Awl,length_map->Awm
open Nat renaming le_of_ble_eq_true->AxL,zero_add->Awt
open Option renaming none->Ξ,some->Θ
namespace Go.Proofs.YtpncilciembjdaaGreatDoor
noncomputable section
open Tryz renaming prog->Av9
open Go.RowKit
def RY:Ab->Option (List RlA)
 |[]=>Θ []
 |a::b::c::d::r=>(match rlO [a,b,c,d],RY r with
  |some p,Θ l=>Θ (p::l)
  |_,_=>Ξ)
 |_=>Ξ
theorem MB:∀{xs:Ab} {l:List RlA},RY xs=Θ l->xs=l.flatMap RlA.c
 |[],l,h=>by injection h with h;subst h;rfl
 |[_],l,h=>by cases h
 |[_,_],l,h=>by cases h
 |[_,_,_],l,h=>by cases h
 |a::b::c::d::r,l,h=>by
  unfold RY at h;split at h
  .rename_i p l' h1 h2
   injection h with h
   subst h;rw[Ayk,←Pq h1,←MB h2];rfl
  .cases h
section
variable (dq:Nat->DF)
def Am9(out:List RlA):Option (AV × List BO)->Option (List RlA)
 |some (.tup [],[.set ⟨y,Δ,Δ⟩])=>RY y
 |some (.tup [],[.keep])=>Θ out
 |_=>Ξ
theorem Qi{out:List RlA}{o:Option (AV × List BO)}{l:List RlA}(h:Am9 out o=Θ l):∃ ob,o=Θ (.tup [],[ob])/\((ob=.keep/\l.flatMap RlA.c=out.flatMap RlA.c)\/ob=.set ⟨l.flatMap RlA.c,Δ,Δ⟩):=by
 unfold Am9 at h;split at h
 .exact⟨_,rfl,.inr (by rw[MB h])⟩
 .injection h with h
  exact⟨_,rfl,.inl ⟨rfl,by rw[h]⟩⟩
 .cases h
def Anc:Option (AV × List BO)->Bool
 |some (.tup [],[])=>Δ
 |_=>Φ
theorem Zb{o:Option (AV × List BO)}(h:Anc o=Δ):o=Θ (.tup [],[]):=by
 unfold Anc at h;split at h
 .rfl
 .cases h
def Aeq(out:List RlA):Option (List RlA):=match Am9 out (dq 90 [.sl 0 0 out.length 4,.fn (.func 25) [] []] [⟨out.flatMap RlA.c,Δ,Δ⟩]),out with
 |some [],[]=>(match Anc (dq 90 [.v (.slice Ξ 0 0),.fn (.func 25) [] []] []) with
  |true=>Θ []
  |false=>Ξ)
 |some s,_::_=>(match Nat.beq s.length out.length with
  |true=>Θ s
  |false=>Ξ)
 |_,_=>Ξ
theorem Xc{out s:List RlA}(h:Aeq dq out=Θ s):s.length=out.length/\(∃ ob,dq 90 [.sl 0 0 out.length 4,.fn (.func 25) [] []] [⟨out.flatMap RlA.c,Δ,Δ⟩]=Θ (.tup [],[ob])/\((ob=.keep/\s.flatMap RlA.c=out.flatMap RlA.c)\/ob=.set ⟨s.flatMap RlA.c,Δ,Δ⟩)) ∧
  (out=[]->dq 90 [.v (.slice Ξ 0 0),.fn (.func 25) [] []] []=Θ (.tup [],[])):=by
 unfold Aeq at h;split at h
 .rename_i h1
  split at h
  .rename_i h2
   injection h with h
   subst h;exact⟨rfl,Qi h1,λ_=>Zb h2⟩
  .cases h
 .rename_i h1
  split at h
  .rename_i h2
   injection h with h
   subst h;exact⟨Nat.eq_of_beq_eq_true h2,Qi h1,λh=>by cases h⟩
  .cases h
 .cases h
def AmT(rs:List RlA):Option (Option (List RlA)):=match Nat.ble rs.length 10000,U2 dq rs []with
 |true,Θ Ξ=>Θ Ξ
 |true,Θ (Θ ls)=>(match U4 dq ls []with
  |some Ξ=>Θ Ξ
  |some (Θ out)=>(match Aeq dq out with
   |some s=>Θ (Θ s)
   |none=>Ξ)
  |none=>Ξ)
 |_,_=>Ξ
def AeH:Option (List RlA)->AV
 |some s=>.tup [.ls (s.map RlA.c),bv Δ]
 |none=>.tup [.ls [],bv Φ]
def Ash:Ab->Option (List RlA)
 |[.ls xs]=>Ad4 xs
 |[.v (.slice Ξ 0 0)]=>Θ []
 |_=>Ξ
def Lj(args:Ab):Option AV:=match Ash args with
 |some rs=>(match AmT dq rs with
  |some o=>Θ (AeH o)
  |none=>Ξ)
 |none=>Ξ
theorem SX[S:Side]{w:World}{a b:AV}{u v:Value}(h:Ro [] w a u)(k:Ro [] w b v):Ro [] w (.tup [a,b]) (.tuple #[u,v]):=by
 unfold Ro at h k ⊢;simp only[Rep,RepList];exact⟨_,rfl,_,_,rfl,h,_,_,rfl,k,rfl⟩
theorem WV[S:Side]{own:Af}{w:World}:Ro own w (.ls []) (.slice Ξ 0 0):=by
 unfold Ro;simp only[Rep];exact⟨rfl,Ξ,0,rfl,Nat.le_refl _,Nat.zero_le _,λh=>absurd rfl h⟩
theorem QC:∀(s:List RlA) (i j:Nat) (r:RlA),s[i]? = Θ r->j<4->(s.flatMap RlA.c)[i*4+j]? = r.c[j]?
 |[],i,j,r,h,_=>by simp at h
 |x::s,0,j,r,h,hj=>by
  simp at h;subst h;rw[Ayk,Nat.zero_mul,Awt,List.getElem?_append_left (show j<x.c.length from hj)]
 |x::s,i+1,j,r,h,hj=>by
  rw[Ayk,List.getElem?_append_right (show x.c.length<=(i+1)*4+j from (by show 4<=_;omega)),←QC s i j r (by simpa using h) hj]
  congr 1
  show (i+1)*4+j-4=_
  omega
theorem Apo[S:Side]{own:Af}{w:World}{s:List RlA}{g cap:Nat}{T:TypeId}{cs:Array Value}(hb:Blk w g T cs)(hB:S.B<=g)(hs:Sd own w)(h1:cs.size=cap*4)(h2:s.length<=cap)(h3:cap<=maxLen)(h:RoL own w (s.flatMap RlA.c) (cs.toList.take (s.length*4))):Ro [] w (.ls (s.map RlA.c)) (.slice (Θ ⟨g,0,Ξ⟩) s.length cap):=by
 have hz:∀ o,¬ Ael g o:=by
  rintro o ⟨b,k,p,hk,hp,i,hi,rfl,rfl⟩;obtain⟨q,hq,B⟩:=hs.rep.blk b k hk;rw[hp]at hq;injection hq with hq
  subst hq;have:=S.low b k p hk hp (by
   rcases hi with h|h
   .have:=B.room;omega
   .omega)
  omega
 have hoff:∀ k o,Dp own w k o->Dp [] w k o:=λk o h=>⟨h.1,by simp,h.2.2⟩
 have h':RepList (λ_=>Ξ) (Dp [] w) w (s.flatMap RlA.c) (cs.toList.take (s.length*4)):=RepList.later ⟨λ_ _ h=>h,λk o hk=>⟨hoff k o hk,rfl⟩⟩ _ _ h;unfold Ro;simp only[Rep];refine⟨?_,Θ ⟨g,0,Ξ⟩,cap,by rw[Awm],by rw[Awm];exact h2,h3,λ_=>⟨g,0,4,rfl,RepRows.mk λi x hx=>?_⟩⟩
 .unfold Jv
  rw[List.all_eq_true];intro x hx;obtain⟨r,_,rfl⟩:=List.mem_map.1 hx;rfl
 .rw[List.getElem?_map]at hx
  obtain⟨r,hr,rfl⟩:=Option.map_eq_some_iff.1 hx;have hi:=(Awl.1 hr).1;refine⟨rfl,RepAt.mk λj y hy=>?_⟩;have hj:j<4:=(Awl.1 hy).1;have e:(s.flatMap RlA.c)[i*4+j]? = Θ y:=by
   rw[←hy];exact QC s i j r hr hj
  obtain⟨u,k1,k2⟩:=h'.get e;have hl:i*4+j<s.length*4:=by omega
  rw[List.getElem?_take,Ac hl,Array.getElem?_toList]at k1;refine⟨⟨hb.lt,by simp,hz _⟩,u,?_,k2⟩;rw[Awt,hb.cell];exact k1
theorem Rs(G:∀ f,BD (BL Av9 f) (dq f)):BD (BL Av9 33) (Dd (Lj dq)):=by
 refine Wi _ λargs r hr=>?_
 unfold Lj at hr;split at hr
 .rename_i rs hrs
  split at hr
  .rename_i o ho
   injection hr with hr
   subst hr
   have key:∀(S:Side) (w:World) (A:Option Addr) (c:Nat),Sd [] w->Ro [] w (.ls (rs.map RlA.c)) (.slice A rs.length c)->BL Av9 33 [.slice A rs.length c] w λu w'=>∃ own',Xt [] own' w w'/\Ro [] w' (AeH o) u:=λS w A c hs hro=>by
    unfold AmT at ho;have none':∀ w' own',Xt [] own' w w'->(λu w'=>∃ own',Xt [] own' w w'/\Ro [] w' (AeH Ξ) u) (.tuple #[.slice Ξ 0 0,.bool Φ]) w':=λw' own' hx=>⟨own',hx,SX WV (Ro.v rfl)⟩
    split at ho
    .rename_i hl h1
     injection ho with ho
     subst ho;exact PH dq G rs (AxL hl) Ξ (FJ dq h1) w A c hs hro Ξ _ (λ_=>none') (λls h=>by cases h) (λout h=>by cases h)
    .rename_i ls hl h1
     split at ho
     .rename_i h2
      injection ho with ho
      subst ho;exact PH dq G rs (AxL hl) (Θ ls) (FJ dq h1) w A c hs hro Ξ _ (λ_=>none') (λls' h=>by injection h with h;subst h;exact Hq dq h2) (λout h=>by cases h)
     .rename_i out h2
      split at ho
      .rename_i s h3
       injection ho with ho
       subst ho;obtain⟨s1,s2,s3⟩:=Xc dq h3;refine PH dq G rs (AxL hl) (Θ ls) (FJ dq h1) w A c hs hro (Θ out) _ (λh=>?_) (λls' h=>by injection h with h;subst h;exact Hq dq h2) (λout' h=>?_)
       .rcases h with h|h<;>cases h
       .injection h with h
        subst h;refine⟨s,s1,s2,λh0=>⟨s3 h0,λw' own' hx=>⟨own',hx,?_⟩⟩,λw' own' g cap cs' hx hg hb h1 h2 h3 h4=>⟨own',hx,?_⟩⟩
        .subst h0
         obtain rfl:s=[]:=List.eq_nil_of_length_eq_zero s1;exact SX WV (Ro.v rfl)
        .rw[←s1]at h2 h4 ⊢
         exact SX (Apo hb (Nat.le_trans hs.base hg) (hx.side hs) h1 h2 h3 h4) (Ro.v rfl)
      .cases ho
     .cases ho
    .cases ho
   unfold Ash at hrs;split at hrs
   .rename_i xs
    refine⟨rfl,λS w us hs hro=>?_⟩;obtain⟨u,t,rfl,hu,ht⟩:=RoL.cons_inv hro;obtain rfl:=RoL.nil_inv ht;obtain⟨A,c,rfl⟩:=Rp.ls_inv hu.rp;obtain rfl:=Mf hrs;have:=key S w A c hs (by rw[Awm]at hu;exact hu);rw[Awm];exact this
   .injection hrs with hrs
    subst hrs;refine⟨rfl,λS w us hs hro=>?_⟩;obtain⟨u,t,rfl,hu,ht⟩:=RoL.cons_inv hro;obtain rfl:=RoL.nil_inv ht;unfold Ro at hu;simp only[Rep]at hu;obtain⟨rfl,_⟩:=hu;exact key S w Ξ 0 hs WV
   .cases hrs
  .cases hr
 .cases hr
end
def ArZ:List (Nat × Nat):=[(136,0),(196,0),(234,0),(235,0),(265,0),(275,0),(140,0),(199,0),(262,0),(264,0),(62,0),(67,0),(135,0),(90,0),(163,0),(214,0)]
def AoV:MFn:=AN [] 17
def AoY:MFn:=NB Av9 B4 [⟨74,(mB 917524),[],[],[(1,((mB 20),([],[1000000])))]⟩] Δ Φ 62
def AiZ:MFn:=AN [] 136
def Ajo:MFn:=AN [⟨63,(mB 455),[],[],[(1,((mB 199),([],[1000000])))]⟩,⟨63,(mB 71),[],[],[(3,([],([],[1000000])))]⟩,⟨63,(mB 455),[],[],[(5,((mB 199),([],[1000000])))]⟩] 196
def AjE:MFn:=AN [⟨53,(mB 271),[],[],[(1,([],([],[1000000])))]⟩,⟨53,(mB 783),[],[],[(3,((mB 271),([],[1000000])))]⟩] 234
def AjF:MFn:=AN [⟨220,(mB 3091),[],[],[(1,((mB 1027),([],[1000000])))]⟩,⟨220,(mB 9217),[],[],[(3,([],([],[1000000])))]⟩,⟨220,(mB 49173),[],[],[(5,((mB 16389),([],[1000000])))]⟩,⟨220,(mB 147457),[],[],[(7,([],([],[1000000])))]⟩,⟨220,(mB 8126495),[],[],[(9,((mB 1835039),([],[1000000])))]⟩] 235
def AjO:MFn:=AN [⟨58,(mB 3093),[],[],[(1,((mB 1045),([],[1000000])))]⟩] 265
def AjR:MFn:=AN [⟨38,(mB 1039),[],[],[(1,([],([],[1000000])))]⟩] 275
def Ai0:MFn:=AN [] 137
def Ao7:MFn:=AN [] 84
def Ajf:MFn:=AN [] 157
def Ai1:MFn:=AN [] 138
def Ai8:MFn:=AN [] 145
def Aju:MFn:=AN [] 202
def Ajs:MFn:=AN [⟨21,(mB 9),[],[],[(1,((mB 9),([],[])))]⟩] 200
def Ai2:MFn:=AN [] 139
def Ajp:MFn:=AN [⟨61,(mB 234881122),[],[],[(1,((mB 96),([],[])))]⟩] 197
def Ajq:MFn:=AN [⟨59,(mB 58720450),[],[],[(1,((mB 64),([],[])))]⟩] 198
def Ajt:MFn:=AN [⟨49,(mB 35),[],[],[(0,((mB 16),([],[]))),(2,([],([],[])))]⟩] 201
def Ai3:MFn:=NB Av9 B4 [⟨42,(mB 99),[],[],[(1,((mB 33),([],[1000000])))]⟩] Δ Φ 140
def Ajr:MFn:=AN [⟨19,(mB 387),[],[],[(0,((mB 16),([],[1000000]))),(1,([],([],[1000000])))]⟩] 199
def Ai4:MFn:=AN [] 141
def Ao0:MFn:=AN [] 64
def Ai5:MFn:=AN [] 142
def AoZ:MFn:=AN [] 63
def Ao1:MFn:=AN [⟨49,(mB 1835068),[],[],[(1,((mB 60),([],[])))]⟩] 65
def Ao3:MFn:=AN [⟨21,(mB 3596),[],[],[(1,((mB 12),([],[1000000])))]⟩] 67
def Aja:MFn:=AN [] 147
def Ajx:MFn:=AN [⟨25,[Δ,Δ],[],[],[(1,([Δ],([],[])))]⟩] 205
def Ai7:MFn:=AN [] 144
def Ajv:MFn:=AN [⟨44,(mB 451),[],[],[(1,((mB 192),([],[])))]⟩] 203
def Ajm:MFn:=AN [] 184
def Ajw:MFn:=AN [⟨96,(mB 14544),[],[],[(1,((mB 6224),([],[])))]⟩] 204
def AjG:MFn:=AN [] 237
def AjB:MFn:=AN [] 222
def AjH:MFn:=AN [⟨58,(mB 30064771968),[],[],[(2,((mB 768),([],[])))]⟩] 238
def AjI:MFn:=AN [⟨67,(mB 931),[],[],[(1,((mB 256),([],[])))]⟩] 239
def AjJ:MFn:=AN [⟨74,(mB 917895),[],[],[(1,((mB 387),([],[])))]⟩] 240
def AjK:MFn:=AN [⟨42,(mB 1811),[],[],[(1,((mB 19),([],[])))]⟩] 241
def AjL:MFn:=AN [⟨61,(mB 449),[],[],[(1,((mB 128),([],[])))]⟩] 242
def Ai6:MFn:=AN [] 143
def Ao2:MFn:=AN [] 66
def AiX:MFn:=AN [] 126
def Ai9:MFn:=AN [] 146
def Aji:MFn:=AN [] 161
def Ao4:MFn:=AN [] 68
def Ajb:MFn:=AN [⟨35,(mB 114744),[],[],[(1,((mB 48),([],[])))]⟩] 148
def Ajg:MFn:=AN [] 158
def Ajy:MFn:=AN [] 212
def AjM:MFn:=AN [⟨68,(mB 1835042),[],[],[(1,((mB 32),([],[])))]⟩,⟨68,(mB 236716514),[],[],[(3,((mB 1835362),([],[])))]⟩] 243
def AjN:MFn:=AN [] 244
def AjP:MFn:=AN [] 266
def AjQ:MFn:=AN [] 267
def AiW:MFn:=AN [] 125
def AiY:MFn:=AN [] 127
def Ajn:MFn:=AN [] 185
def AjD:MFn:=AN [⟨36,(mB 3593),[],[],[(1,((mB 9),([],[])))]⟩,⟨36,(mB 234881088),[],[],[(3,((mB 64),([],[])))]⟩] 230
def Ajz:MFn:=AN [] 213
def Ao6:MFn:=AN [] 83
def Ajc:MFn:=AN [] 154
def Ajd:MFn:=AN [] 155
def Ao5:MFn:=AN [⟨18,(mB 456),[],[],[(0,([Φ,Φ,Δ],([],[]))),(1,((mB 8),([],[])))]⟩] 82
def Aje:MFn:=AN [⟨39,(mB 14343),[],[],[(0,((mB 64),([],[]))),(1,([Δ,Δ],([],[])))]⟩] 156
def Ajh:MFn:=NB Av9 B4 [] Φ Δ 160
def Ajj:MFn:=NB Av9 B4 [] Φ Δ 162
def Ao8:MFn:=NB Av9 B4 [] Φ Δ 89
def AoW:MFn:=AN [] 27
def AoX:MFn:=AN [] 28
def Ao9:MFn:=AN [] 90
def Ajl:MFn:=AN [] 164
def AjC:MFn:=AN [] 223
def Ajk:MFn:=AN [⟨148,(mB 3103),[],[],[(0,([],([],[1000000])))]⟩] 163
def AjA:MFn:=AN [⟨53,(mB 271),[],[],[(1,([],([],[1000000])))]⟩,⟨53,(mB 783),[],[],[(3,((mB 271),([],[1000000])))]⟩] 214
def Ass:List (Nat × MFn):=[(17,AoV),(62,AoY),(136,AiZ),(196,Ajo),(234,AjE),(235,AjF),(265,AjO),(275,AjR),(137,Ai0),(84,Ao7),(157,Ajf),(138,Ai1),(145,Ai8),(202,Aju),(200,Ajs),(139,Ai2),(197,Ajp),(198,Ajq),(201,Ajt),(140,Ai3),(199,Ajr),(141,Ai4),(64,Ao0),(142,Ai5),(63,AoZ),(65,Ao1),(67,Ao3),(147,Aja),(205,Ajx),(144,Ai7),(203,Ajv),(184,Ajm),(204,Ajw),(237,AjG),(222,AjB),(238,AjH),(239,AjI),(240,AjJ),(241,AjK),(242,AjL),(143,Ai6),(66,Ao2),(126,AiX),(146,Ai9),(161,Aji),(68,Ao4),(148,Ajb),(158,Ajg),(212,Ajy),(243,AjM),(244,AjN),(266,AjP),(267,AjQ),(125,AiW),(127,AiY),(185,Ajn),(230,AjD),(213,Ajz),(83,Ao6),(154,Ajc),(155,Ajd),(82,Ao5),(156,Aje),(160,Ajh),(162,Ajj),(89,Ao8),(27,AoW),(28,AoX),(90,Ao9),(164,Ajl),(223,AjC),(163,Ajk),(214,AjA)]
