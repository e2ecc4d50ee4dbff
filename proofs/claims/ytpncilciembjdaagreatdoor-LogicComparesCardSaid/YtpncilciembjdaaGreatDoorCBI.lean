/- rel.Tidy as an answer of -/
import Derived.Test.YtpncilciembjdaaGreatDoorCBG
import Derived.Test.YtpncilciembjdaaGreatDoorCBH
set_option linter.all false
open Bool renaming false->Φ,true->Δ
open List renaming flatMap_cons->AvO,getElem?_eq_some_iff->AtJ,length_map->AtP
open Nat renaming le_of_ble_eq_true->Avg,zero_add->AtQ
open Option renaming none->Ξ,some->Θ
namespace Go.Proofs.YtpncilciembjdaaGreatDoor
noncomputable section
open Tryz renaming prog->ι
open Go.RowKit
def Rm:List AV->Option (List RlA)
 |[]=>Θ []
 |a::b::c::d::r=>(match rlO [a,b,c,d],Rm r with
  |some p,Θ l=>Θ (p::l)
  |_,_=>Ξ)
 |_=>Ξ
theorem Ml:∀{xs:List AV} {l:List RlA},Rm xs=Θ l->xs=l.flatMap RlA.c
 |[],l,h=>by injection h with h;subst h;rfl
 |[_],l,h=>by cases h
 |[_,_],l,h=>by cases h
 |[_,_,_],l,h=>by cases h
 |a::b::c::d::r,l,h=>by
  unfold Rm at h;split at h
  .rename_i p l' h1 h2
   injection h with h
   subst h;rw[AvO,←O7 h1,←Ml h2];rfl
  .cases h
section
variable (dq:Nat->DF)
def Aly(out:List RlA):Option (AV × List BO)->Option (List RlA)
 |some (.tup [],[.set ⟨y,Δ,Δ⟩])=>Rm y
 |some (.tup [],[.keep])=>Θ out
 |_=>Ξ
theorem PX{out:List RlA}{o:Option (AV × List BO)}{l:List RlA}(h:Aly out o=Θ l):∃ ob,o=Θ (.tup [],[ob])/\((ob=.keep/\l.flatMap RlA.c=out.flatMap RlA.c)\/ob=.set ⟨l.flatMap RlA.c,Δ,Δ⟩):=by
 unfold Aly at h;split at h
 .exact⟨_,rfl,.inr (by rw[Ml h])⟩
 .injection h with h
  exact⟨_,rfl,.inl ⟨rfl,by rw[h]⟩⟩
 .cases h
def AlB:Option (AV × List BO)->Bool
 |some (.tup [],[])=>Δ
 |_=>Φ
theorem Yi{o:Option (AV × List BO)}(h:AlB o=Δ):o=Θ (.tup [],[]):=by
 unfold AlB at h;split at h
 .rfl
 .cases h
def Adl(out:List RlA):Option (List RlA):=match Aly out (dq 90 [.sl 0 0 out.length 4,.fn (.func 25) [] []] [⟨out.flatMap RlA.c,Δ,Δ⟩]),out with
 |some [],[]=>(match AlB (dq 90 [.v (.slice Ξ 0 0),.fn (.func 25) [] []] []) with
  |true=>Θ []
  |false=>Ξ)
 |some s,_::_=>(match Nat.beq s.length out.length with
  |true=>Θ s
  |false=>Ξ)
 |_,_=>Ξ
theorem Wn{out s:List RlA}(h:Adl dq out=Θ s):s.length=out.length/\(∃ ob,dq 90 [.sl 0 0 out.length 4,.fn (.func 25) [] []] [⟨out.flatMap RlA.c,Δ,Δ⟩]=Θ (.tup [],[ob])/\((ob=.keep/\s.flatMap RlA.c=out.flatMap RlA.c)\/ob=.set ⟨s.flatMap RlA.c,Δ,Δ⟩)) ∧
  (out=[]->dq 90 [.v (.slice Ξ 0 0),.fn (.func 25) [] []] []=Θ (.tup [],[])):=by
 unfold Adl at h;split at h
 .rename_i h1
  split at h
  .rename_i h2
   injection h with h
   subst h;exact⟨rfl,PX h1,λ_=>Yi h2⟩
  .cases h
 .rename_i h1
  split at h
  .rename_i h2
   injection h with h
   subst h;exact⟨Nat.eq_of_beq_eq_true h2,PX h1,λh=>by cases h⟩
  .cases h
 .cases h
def Ali(rs:List RlA):Option (Option (List RlA)):=match Nat.ble rs.length 10000,Um dq rs []with
 |true,Θ Ξ=>Θ Ξ
 |true,Θ (Θ ls)=>(match Un dq ls []with
  |some Ξ=>Θ Ξ
  |some (Θ out)=>(match Adl dq out with
   |some s=>Θ (Θ s)
   |none=>Ξ)
  |none=>Ξ)
 |_,_=>Ξ
def AdE:Option (List RlA)->AV
 |some s=>.tup [.ls (s.map RlA.c),bv Δ]
 |none=>.tup [.ls [],bv Φ]
def Aqp:List AV->Option (List RlA)
 |[.ls xs]=>AcV xs
 |[.v (.slice Ξ 0 0)]=>Θ []
 |_=>Ξ
def KV(args:List AV):Option AV:=match Aqp args with
 |some rs=>(match Ali dq rs with
  |some o=>Θ (AdE o)
  |none=>Ξ)
 |none=>Ξ
theorem Se[S:Side]{w:World}{a b:AV}{u v:Value}(h:Ro [] w a u)(k:Ro [] w b v):Ro [] w (.tup [a,b]) (.tuple #[u,v]):=by
 unfold Ro at h k ⊢;simp only[Rep,RepList];exact⟨_,rfl,_,_,rfl,h,_,_,rfl,k,rfl⟩
theorem Wc[S:Side]{own:List Nat}{w:World}:Ro own w (.ls []) (.slice Ξ 0 0):=by
 unfold Ro;simp only[Rep];exact⟨rfl,Ξ,0,rfl,Nat.le_refl _,Nat.zero_le _,λh=>absurd rfl h⟩
theorem Qa:∀(s:List RlA) (i j:Nat) (r:RlA),s[i]? = Θ r->j<4->(s.flatMap RlA.c)[i*4+j]? = r.c[j]?
 |[],i,j,r,h,_=>by simp at h
 |x::s,0,j,r,h,hj=>by
  simp at h;subst h;rw[AvO,Nat.zero_mul,AtQ,List.getElem?_append_left (show j<x.c.length from hj)]
 |x::s,i+1,j,r,h,hj=>by
  rw[AvO,List.getElem?_append_right (show x.c.length<=(i+1)*4+j from (by show 4<=_;omega)),←Qa s i j r (by simpa using h) hj]
  congr 1
  show (i+1)*4+j-4=_
  omega
theorem AnL[S:Side]{own:List Nat}{w:World}{s:List RlA}{g cap:Nat}{T:TypeId}{cs:Array Value}(hb:Blk w g T cs)(hB:S.B<=g)(hs:Sd own w)(h1:cs.size=cap*4)(h2:s.length<=cap)(h3:cap<=maxLen)(h:RoL own w (s.flatMap RlA.c) (cs.toList.take (s.length*4))):Ro [] w (.ls (s.map RlA.c)) (.slice (Θ ⟨g,0,Ξ⟩) s.length cap):=by
 have hz:∀ o,¬ Adh g o:=by
  rintro o ⟨b,k,p,hk,hp,i,hi,rfl,rfl⟩;obtain⟨q,hq,B⟩:=hs.rep.blk b k hk;rw[hp]at hq;injection hq with hq
  subst hq;have:=S.low b k p hk hp (by
   rcases hi with h|h
   .have:=B.room;omega
   .omega)
  omega
 have hoff:∀ k o,C2 own w k o->C2 [] w k o:=λk o h=>⟨h.1,by simp,h.2.2⟩
 have h':RepList (λ_=>Ξ) (C2 [] w) w (s.flatMap RlA.c) (cs.toList.take (s.length*4)):=RepList.later ⟨λ_ _ h=>h,λk o hk=>⟨hoff k o hk,rfl⟩⟩ _ _ h;unfold Ro;simp only[Rep];refine⟨?_,Θ ⟨g,0,Ξ⟩,cap,by rw[AtP],by rw[AtP];exact h2,h3,λ_=>⟨g,0,4,rfl,RepRows.mk λi x hx=>?_⟩⟩
 .unfold Jh
  rw[List.all_eq_true];intro x hx;obtain⟨r,_,rfl⟩:=List.mem_map.1 hx;rfl
 .rw[List.getElem?_map]at hx
  obtain⟨r,hr,rfl⟩:=Option.map_eq_some_iff.1 hx;have hi:=(AtJ.1 hr).1;refine⟨rfl,RepAt.mk λj y hy=>?_⟩;have hj:j<4:=(AtJ.1 hy).1;have e:(s.flatMap RlA.c)[i*4+j]? = Θ y:=by
   rw[←hy];exact Qa s i j r hr hj
  obtain⟨u,k1,k2⟩:=h'.get e;have hl:i*4+j<s.length*4:=by omega
  rw[List.getElem?_take,if_pos hl,Array.getElem?_toList]at k1;refine⟨⟨hb.lt,by simp,hz _⟩,u,?_,k2⟩;rw[AtQ,hb.cell];exact k1
theorem QP(G:∀ f,Be (Bk ι f) (dq f)):Be (Bk ι 33) (CU (KV dq)):=by
 refine VF _ λargs r hr=>?_
 unfold KV at hr;split at hr
 .rename_i rs hrs
  split at hr
  .rename_i o ho
   injection hr with hr
   subst hr
   have key:∀(S:Side) (w:World) (A:Option Addr) (c:Nat),Sd [] w->Ro [] w (.ls (rs.map RlA.c)) (.slice A rs.length c)->Bk ι 33 [.slice A rs.length c] w λu w'=>∃ own',Xt [] own' w w'/\Ro [] w' (AdE o) u:=λS w A c hs hro=>by
    unfold Ali at ho;have none':∀ w' own',Xt [] own' w w'->(λu w'=>∃ own',Xt [] own' w w'/\Ro [] w' (AdE Ξ) u) (.tuple #[.slice Ξ 0 0,.bool Φ]) w':=λw' own' hx=>⟨own',hx,Se Wc (Ro.v rfl)⟩
    split at ho
    .rename_i hl h1
     injection ho with ho
     subst ho;exact Pn dq G rs (Avg hl) Ξ (Fq dq h1) w A c hs hro Ξ _ (λ_=>none') (λls h=>by cases h) (λout h=>by cases h)
    .rename_i ls hl h1
     split at ho
     .rename_i h2
      injection ho with ho
      subst ho;exact Pn dq G rs (Avg hl) (Θ ls) (Fq dq h1) w A c hs hro Ξ _ (λ_=>none') (λls' h=>by injection h with h;subst h;exact G4 dq h2) (λout h=>by cases h)
     .rename_i out h2
      split at ho
      .rename_i s h3
       injection ho with ho
       subst ho;obtain⟨s1,s2,s3⟩:=Wn dq h3;refine Pn dq G rs (Avg hl) (Θ ls) (Fq dq h1) w A c hs hro (Θ out) _ (λh=>?_) (λls' h=>by injection h with h;subst h;exact G4 dq h2) (λout' h=>?_)
       .rcases h with h|h<;>cases h
       .injection h with h
        subst h;refine⟨s,s1,s2,λh0=>⟨s3 h0,λw' own' hx=>⟨own',hx,?_⟩⟩,λw' own' g cap cs' hx hg hb h1 h2 h3 h4=>⟨own',hx,?_⟩⟩
        .subst h0
         obtain rfl:s=[]:=List.eq_nil_of_length_eq_zero s1;exact Se Wc (Ro.v rfl)
        .rw[←s1]at h2 h4 ⊢
         exact Se (AnL hb (Nat.le_trans hs.base hg) (hx.side hs) h1 h2 h3 h4) (Ro.v rfl)
      .cases ho
     .cases ho
    .cases ho
   unfold Aqp at hrs;split at hrs
   .rename_i xs
    refine⟨rfl,λS w us hs hro=>?_⟩;obtain⟨u,t,rfl,hu,ht⟩:=RoL.cons_inv hro;obtain rfl:=RoL.nil_inv ht;obtain⟨A,c,rfl⟩:=Rp.ls_inv hu.rp;obtain rfl:=LV hrs;have:=key S w A c hs (by rw[AtP]at hu;exact hu);rw[AtP];exact this
   .injection hrs with hrs
    subst hrs;refine⟨rfl,λS w us hs hro=>?_⟩;obtain⟨u,t,rfl,hu,ht⟩:=RoL.cons_inv hro;obtain rfl:=RoL.nil_inv ht;unfold Ro at hu;simp only[Rep]at hu;obtain⟨rfl,_⟩:=hu;exact key S w Ξ 0 hs Wc
   .cases hrs
  .cases hr
 .cases hr
end
def Aqf:List (Nat × Nat):=[(136,0),(196,0),(234,0),(235,0),(265,0),(275,0),(140,0),(199,0),(262,0),(264,0),(62,0),(67,0),(135,0),(90,0),(163,0),(214,0)]
def Anh:MFn:=AC [] 17
def Ank:MFn:=LO ι Bz [⟨74,(mB 917524),[],[],[(1,((mB 20),([],[1000000])))]⟩] Δ Φ 62
def AhD:MFn:=AC [] 136
def Ah2:MFn:=AC [⟨63,(mB 455),[],[],[(1,((mB 199),([],[1000000])))]⟩,⟨63,(mB 71),[],[],[(3,([],([],[1000000])))]⟩,⟨63,(mB 455),[],[],[(5,((mB 199),([],[1000000])))]⟩] 196
def Aii:MFn:=AC [⟨53,(mB 271),[],[],[(1,([],([],[1000000])))]⟩,⟨53,(mB 783),[],[],[(3,((mB 271),([],[1000000])))]⟩] 234
def Aij:MFn:=AC [⟨220,(mB 3091),[],[],[(1,((mB 1027),([],[1000000])))]⟩,⟨220,(mB 9217),[],[],[(3,([],([],[1000000])))]⟩,⟨220,(mB 49173),[],[],[(5,((mB 16389),([],[1000000])))]⟩,⟨220,(mB 147457),[],[],[(7,([],([],[1000000])))]⟩,⟨220,(mB 8126495),[],[],[(9,((mB 1835039),([],[1000000])))]⟩] 235
def Ais:MFn:=AC [⟨58,(mB 3093),[],[],[(1,((mB 1045),([],[1000000])))]⟩] 265
def Aiv:MFn:=AC [⟨38,(mB 1039),[],[],[(1,([],([],[1000000])))]⟩] 275
def AhE:MFn:=AC [] 137
def Ant:MFn:=AC [] 84
def AhT:MFn:=AC [] 157
def AhF:MFn:=AC [] 138
def AhM:MFn:=AC [] 145
def Ah8:MFn:=AC [] 202
def Ah6:MFn:=AC [⟨21,(mB 9),[],[],[(1,((mB 9),([],[])))]⟩] 200
def AhG:MFn:=AC [] 139
def Ah3:MFn:=AC [⟨61,(mB 234881122),[],[],[(1,((mB 96),([],[])))]⟩] 197
def Ah4:MFn:=AC [⟨59,(mB 58720450),[],[],[(1,((mB 64),([],[])))]⟩] 198
def Ah7:MFn:=AC [⟨49,(mB 35),[],[],[(0,((mB 16),([],[]))),(2,([],([],[])))]⟩] 201
def AhH:MFn:=LO ι Bz [⟨42,(mB 99),[],[],[(1,((mB 33),([],[1000000])))]⟩] Δ Φ 140
def Ah5:MFn:=AC [⟨19,(mB 387),[],[],[(0,((mB 16),([],[1000000]))),(1,([],([],[1000000])))]⟩] 199
def AhI:MFn:=AC [] 141
def Anm:MFn:=AC [] 64
def AhJ:MFn:=AC [] 142
def Anl:MFn:=AC [] 63
def Ann:MFn:=AC [⟨49,(mB 1835068),[],[],[(1,((mB 60),([],[])))]⟩] 65
def Anp:MFn:=AC [⟨21,(mB 3596),[],[],[(1,((mB 12),([],[1000000])))]⟩] 67
def AhO:MFn:=AC [] 147
def Aib:MFn:=AC [⟨25,[Δ,Δ],[],[],[(1,([Δ],([],[])))]⟩] 205
def AhL:MFn:=AC [] 144
def Ah9:MFn:=AC [⟨44,(mB 451),[],[],[(1,((mB 192),([],[])))]⟩] 203
def Ah0:MFn:=AC [] 184
def Aia:MFn:=AC [⟨96,(mB 14544),[],[],[(1,((mB 6224),([],[])))]⟩] 204
def Aik:MFn:=AC [] 237
def Aif:MFn:=AC [] 222
def Ail:MFn:=AC [⟨58,(mB 30064771968),[],[],[(2,((mB 768),([],[])))]⟩] 238
def Aim:MFn:=AC [⟨67,(mB 931),[],[],[(1,((mB 256),([],[])))]⟩] 239
def Ain:MFn:=AC [⟨74,(mB 917895),[],[],[(1,((mB 387),([],[])))]⟩] 240
def Aio:MFn:=AC [⟨42,(mB 1811),[],[],[(1,((mB 19),([],[])))]⟩] 241
def Aip:MFn:=AC [⟨61,(mB 449),[],[],[(1,((mB 128),([],[])))]⟩] 242
def AhK:MFn:=AC [] 143
def Ano:MFn:=AC [] 66
def AhB:MFn:=AC [] 126
def AhN:MFn:=AC [] 146
def AhW:MFn:=AC [] 161
def Anq:MFn:=AC [] 68
def AhP:MFn:=AC [⟨35,(mB 114744),[],[],[(1,((mB 48),([],[])))]⟩] 148
def AhU:MFn:=AC [] 158
def Aic:MFn:=AC [] 212
def Aiq:MFn:=AC [⟨68,(mB 1835042),[],[],[(1,((mB 32),([],[])))]⟩,⟨68,(mB 236716514),[],[],[(3,((mB 1835362),([],[])))]⟩] 243
def Air:MFn:=AC [] 244
def Ait:MFn:=AC [] 266
def Aiu:MFn:=AC [] 267
def AhA:MFn:=AC [] 125
def AhC:MFn:=AC [] 127
def Ah1:MFn:=AC [] 185
def Aih:MFn:=AC [⟨36,(mB 3593),[],[],[(1,((mB 9),([],[])))]⟩,⟨36,(mB 234881088),[],[],[(3,((mB 64),([],[])))]⟩] 230
def Aid:MFn:=AC [] 213
def Ans:MFn:=AC [] 83
def AhQ:MFn:=AC [] 154
def AhR:MFn:=AC [] 155
def Anr:MFn:=AC [⟨18,(mB 456),[],[],[(0,([Φ,Φ,Δ],([],[]))),(1,((mB 8),([],[])))]⟩] 82
def AhS:MFn:=AC [⟨39,(mB 14343),[],[],[(0,((mB 64),([],[]))),(1,([Δ,Δ],([],[])))]⟩] 156
def AhV:MFn:=LO ι Bz [] Φ Δ 160
def AhX:MFn:=LO ι Bz [] Φ Δ 162
def Anu:MFn:=LO ι Bz [] Φ Δ 89
def Ani:MFn:=AC [] 27
def Anj:MFn:=AC [] 28
def Anv:MFn:=AC [] 90
def AhZ:MFn:=AC [] 164
def Aig:MFn:=AC [] 223
def AhY:MFn:=AC [⟨148,(mB 3103),[],[],[(0,([],([],[1000000])))]⟩] 163
def Aie:MFn:=AC [⟨53,(mB 271),[],[],[(1,([],([],[1000000])))]⟩,⟨53,(mB 783),[],[],[(3,((mB 271),([],[1000000])))]⟩] 214
def Aqw:List (Nat × MFn):=[(17,Anh),(62,Ank),(136,AhD),(196,Ah2),(234,Aii),(235,Aij),(265,Ais),(275,Aiv),(137,AhE),(84,Ant),(157,AhT),(138,AhF),(145,AhM),(202,Ah8),(200,Ah6),(139,AhG),(197,Ah3),(198,Ah4),(201,Ah7),(140,AhH),(199,Ah5),(141,AhI),(64,Anm),(142,AhJ),(63,Anl),(65,Ann),(67,Anp),(147,AhO),(205,Aib),(144,AhL),(203,Ah9),(184,Ah0),(204,Aia),(237,Aik),(222,Aif),(238,Ail),(239,Aim),(240,Ain),(241,Aio),(242,Aip),(143,AhK),(66,Ano),(126,AhB),(146,AhN),(161,AhW),(68,Anq),(148,AhP),(158,AhU),(212,Aic),(243,Aiq),(244,Air),(266,Ait),(267,Aiu),(125,AhA),(127,AhC),(185,Ah1),(230,Aih),(213,Aid),(83,Ans),(154,AhQ),(155,AhR),(82,Anr),(156,AhS),(160,AhV),(162,AhX),(89,Anu),(27,Ani),(28,Anj),(90,Anv),(164,AhZ),(223,Aig),(163,AhY),(214,Aie)]
