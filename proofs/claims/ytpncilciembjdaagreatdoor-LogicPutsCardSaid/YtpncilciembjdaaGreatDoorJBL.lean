/- rel.Tidy as an answer of -/
import Derived.Test.YtpncilciembjdaaGreatDoorJBJ
import Derived.Test.YtpncilciembjdaaGreatDoorJBK
set_option linter.all false
open Bool renaming false->Ξ,true->U
open List renaming flatMap_cons->Au3,getElem?_eq_some_iff->Atn,length_map->Atm
open Nat renaming le_of_ble_eq_true->At7,zero_add->Ato
open Option renaming none->Θ,some->Δ
namespace Go.Proofs.YtpncilciembjdaaGreatDoor
noncomputable section
open Tryz renaming prog->ζ
open Go.RowKit
def Qn:Aa->Option (List RlA)
 |[]=>Δ []
 |a::b::c::d::r=>(match rlO [a,b,c,d],Qn r with
  |some p,Δ l=>Δ (p::l)
  |_,_=>Θ)
 |_=>Θ
theorem LH:∀{xs:Aa} {l:List RlA},Qn xs=Δ l->xs=l.flatMap RlA.c
 |[],l,h=>by injection h with h;subst h;rfl
 |[_],l,h=>by cases h
 |[_,_],l,h=>by cases h
 |[_,_,_],l,h=>by cases h
 |a::b::c::d::r,l,h=>by
  unfold Qn at h;split at h
  .rename_i p l' h1 h2
   injection h with h
   subst h;rw[Au3,←Of h1,←LH h2];rfl
  .cases h
section
variable (dq:Nat->DF)
def AkR(out:List RlA):Option (AV × List BO)->Option (List RlA)
 |some (.tup [],[.set ⟨y,U,U⟩])=>Qn y
 |some (.tup [],[.keep])=>Δ out
 |_=>Θ
theorem O1{out:List RlA}{o:Option (AV × List BO)}{l:List RlA}(h:AkR out o=Δ l):∃ ob,o=Δ (.tup [],[ob])/\((ob=.keep/\l.flatMap RlA.c=out.flatMap RlA.c)\/ob=.set ⟨l.flatMap RlA.c,U,U⟩):=by
 unfold AkR at h;split at h
 .exact⟨_,rfl,.inr (by rw[LH h])⟩
 .injection h with h
  exact⟨_,rfl,.inl ⟨rfl,by rw[h]⟩⟩
 .cases h
def AkU:Option (AV × List BO)->Bool
 |some (.tup [],[])=>U
 |_=>Ξ
theorem W7{o:Option (AV × List BO)}(h:AkU o=U):o=Δ (.tup [],[]):=by
 unfold AkU at h;split at h
 .rfl
 .cases h
def Acs(out:List RlA):Option (List RlA):=match AkR out (dq 90 [.sl 0 0 out.length 4,.fn (.func 25) [] []] [⟨out.flatMap RlA.c,U,U⟩]),out with
 |some [],[]=>(match AkU (dq 90 [.v (.slice Θ 0 0),.fn (.func 25) [] []] []) with
  |true=>Δ []
  |false=>Θ)
 |some s,_::_=>(match Nat.beq s.length out.length with
  |true=>Δ s
  |false=>Θ)
 |_,_=>Θ
theorem Vw{out s:List RlA}(h:Acs dq out=Δ s):s.length=out.length/\(∃ ob,dq 90 [.sl 0 0 out.length 4,.fn (.func 25) [] []] [⟨out.flatMap RlA.c,U,U⟩]=Δ (.tup [],[ob])/\((ob=.keep/\s.flatMap RlA.c=out.flatMap RlA.c)\/ob=.set ⟨s.flatMap RlA.c,U,U⟩)) ∧
  (out=[]->dq 90 [.v (.slice Θ 0 0),.fn (.func 25) [] []] []=Δ (.tup [],[])):=by
 unfold Acs at h;split at h
 .rename_i h1
  split at h
  .rename_i h2
   injection h with h
   subst h;exact⟨rfl,O1 h1,λ_=>W7 h2⟩
  .cases h
 .rename_i h1
  split at h
  .rename_i h2
   injection h with h
   subst h;exact⟨Nat.eq_of_beq_eq_true h2,O1 h1,λh=>by cases h⟩
  .cases h
 .cases h
def AkD(rs:List RlA):Option (Option (List RlA)):=match Nat.ble rs.length 10000,Tl dq rs []with
 |true,Δ Θ=>Δ Θ
 |true,Δ (Δ ls)=>(match Tn dq ls []with
  |some Θ=>Δ Θ
  |some (Δ out)=>(match Acs dq out with
   |some s=>Δ (Δ s)
   |none=>Θ)
  |none=>Θ)
 |_,_=>Θ
def AcT:Option (List RlA)->AV
 |some s=>.tup [.ls (s.map RlA.c),bv U]
 |none=>.tup [.ls [],bv Ξ]
def ApF:Aa->Option (List RlA)
 |[.ls xs]=>AbZ xs
 |[.v (.slice Θ 0 0)]=>Δ []
 |_=>Θ
def J5(args:Aa):Option AV:=match ApF args with
 |some rs=>(match AkD dq rs with
  |some o=>Δ (AcT o)
  |none=>Θ)
 |none=>Θ
theorem QZ[S:Side]{w:World}{a b:AV}{u v:Value}(h:Ro [] w a u)(k:Ro [] w b v):Ro [] w (.tup [a,b]) (.tuple #[u,v]):=by
 unfold Ro at h k ⊢;simp only[Rep,RepList];exact⟨_,rfl,_,_,rfl,h,_,_,rfl,k,rfl⟩
theorem Vg[S:Side]{own:Ae}{w:World}:Ro own w (.ls []) (.slice Θ 0 0):=by
 unfold Ro;simp only[Rep];exact⟨rfl,Θ,0,rfl,Nat.le_refl _,Nat.zero_le _,λh=>absurd rfl h⟩
theorem Pj:∀(s:List RlA) (i j:Nat) (r:RlA),s[i]? = Δ r->j<4->(s.flatMap RlA.c)[i*4+j]? = r.c[j]?
 |[],i,j,r,h,_=>by simp at h
 |x::s,0,j,r,h,hj=>by
  simp at h;subst h;rw[Au3,Nat.zero_mul,Ato,List.getElem?_append_left (show j<x.c.length from hj)]
 |x::s,i+1,j,r,h,hj=>by
  rw[Au3,List.getElem?_append_right (show x.c.length<=(i+1)*4+j from (by show 4<=_;omega)),←Pj s i j r (by simpa using h) hj]
  congr 1
  show (i+1)*4+j-4=_
  omega
theorem AmW[S:Side]{own:Ae}{w:World}{s:List RlA}{g cap:Nat}{T:TypeId}{cs:Array Value}(hb:Blk w g T cs)(hB:S.B<=g)(hs:Sd own w)(h1:cs.size=cap*4)(h2:s.length<=cap)(h3:cap<=maxLen)(h:RoL own w (s.flatMap RlA.c) (cs.toList.take (s.length*4))):Ro [] w (.ls (s.map RlA.c)) (.slice (Δ ⟨g,0,Θ⟩) s.length cap):=by
 have hz:∀ o,¬ Acn g o:=by
  rintro o ⟨b,k,p,hk,hp,i,hi,rfl,rfl⟩;obtain⟨q,hq,B⟩:=hs.rep.blk b k hk;rw[hp]at hq;injection hq with hq
  subst hq;have:=S.low b k p hk hp (by
   rcases hi with h|h
   .have:=B.room;omega
   .omega)
  omega
 have hoff:∀ k o,C3 own w k o->C3 [] w k o:=λk o h=>⟨h.1,by simp,h.2.2⟩
 have h':RepList (λ_=>Θ) (C3 [] w) w (s.flatMap RlA.c) (cs.toList.take (s.length*4)):=RepList.later ⟨λ_ _ h=>h,λk o hk=>⟨hoff k o hk,rfl⟩⟩ _ _ h;unfold Ro;simp only[Rep];refine⟨?_,Δ ⟨g,0,Θ⟩,cap,by rw[Atm],by rw[Atm];exact h2,h3,λ_=>⟨g,0,4,rfl,RepRows.mk λi x hx=>?_⟩⟩
 .unfold ID
  rw[List.all_eq_true];intro x hx;obtain⟨r,_,rfl⟩:=List.mem_map.1 hx;rfl
 .rw[List.getElem?_map]at hx
  obtain⟨r,hr,rfl⟩:=Option.map_eq_some_iff.1 hx;have hi:=(Atn.1 hr).1;refine⟨rfl,RepAt.mk λj y hy=>?_⟩;have hj:j<4:=(Atn.1 hy).1;have e:(s.flatMap RlA.c)[i*4+j]? = Δ y:=by
   rw[←hy];exact Pj s i j r hr hj
  obtain⟨u,k1,k2⟩:=h'.get e;have hl:i*4+j<s.length*4:=by omega
  rw[List.getElem?_take,Ac hl,Array.getElem?_toList]at k1;refine⟨⟨hb.lt,by simp,hz _⟩,u,?_,k2⟩;rw[Ato,hb.cell];exact k1
theorem PX(G:∀ f,A1 (Bi ζ f) (dq f)):A1 (Bi ζ 33) (CS (J5 dq)):=by
 refine UJ _ λargs r hr=>?_
 unfold J5 at hr;split at hr
 .rename_i rs hrs
  split at hr
  .rename_i o ho
   injection hr with hr
   subst hr
   have key:∀(S:Side) (w:World) (A:Option Addr) (c:Nat),Sd [] w->Ro [] w (.ls (rs.map RlA.c)) (.slice A rs.length c)->Bi ζ 33 [.slice A rs.length c] w λu w'=>∃ own',Xt [] own' w w'/\Ro [] w' (AcT o) u:=λS w A c hs hro=>by
    unfold AkD at ho;have none':∀ w' own',Xt [] own' w w'->(λu w'=>∃ own',Xt [] own' w w'/\Ro [] w' (AcT Θ) u) (.tuple #[.slice Θ 0 0,.bool Ξ]) w':=λw' own' hx=>⟨own',hx,QZ Vg (Ro.v rfl)⟩
    split at ho
    .rename_i hl h1
     injection ho with ho
     subst ho;exact OC dq G rs (At7 hl) Θ (EY dq h1) w A c hs hro Θ _ (λ_=>none') (λls h=>by cases h) (λout h=>by cases h)
    .rename_i ls hl h1
     split at ho
     .rename_i h2
      injection ho with ho
      subst ho;exact OC dq G rs (At7 hl) (Δ ls) (EY dq h1) w A c hs hro Θ _ (λ_=>none') (λls' h=>by injection h with h;subst h;exact GC dq h2) (λout h=>by cases h)
     .rename_i out h2
      split at ho
      .rename_i s h3
       injection ho with ho
       subst ho;obtain⟨s1,s2,s3⟩:=Vw dq h3;refine OC dq G rs (At7 hl) (Δ ls) (EY dq h1) w A c hs hro (Δ out) _ (λh=>?_) (λls' h=>by injection h with h;subst h;exact GC dq h2) (λout' h=>?_)
       .rcases h with h|h<;>cases h
       .injection h with h
        subst h;refine⟨s,s1,s2,λh0=>⟨s3 h0,λw' own' hx=>⟨own',hx,?_⟩⟩,λw' own' g cap cs' hx hg hb h1 h2 h3 h4=>⟨own',hx,?_⟩⟩
        .subst h0
         obtain rfl:s=[]:=List.eq_nil_of_length_eq_zero s1;exact QZ Vg (Ro.v rfl)
        .rw[←s1]at h2 h4 ⊢
         exact QZ (AmW hb (Nat.le_trans hs.base hg) (hx.side hs) h1 h2 h3 h4) (Ro.v rfl)
      .cases ho
     .cases ho
    .cases ho
   unfold ApF at hrs;split at hrs
   .rename_i xs
    refine⟨rfl,λS w us hs hro=>?_⟩;obtain⟨u,t,rfl,hu,ht⟩:=RoL.cons_inv hro;obtain rfl:=RoL.nil_inv ht;obtain⟨A,c,rfl⟩:=Rp.ls_inv hu.rp;obtain rfl:=Lc hrs;have:=key S w A c hs (by rw[Atm]at hu;exact hu);rw[Atm];exact this
   .injection hrs with hrs
    subst hrs;refine⟨rfl,λS w us hs hro=>?_⟩;obtain⟨u,t,rfl,hu,ht⟩:=RoL.cons_inv hro;obtain rfl:=RoL.nil_inv ht;unfold Ro at hu;simp only[Rep]at hu;obtain⟨rfl,_⟩:=hu;exact key S w Θ 0 hs Vg
   .cases hrs
  .cases hr
 .cases hr
end
def Aps:List (Nat × Nat):=[(136,0),(196,0),(234,0),(235,0),(265,0),(275,0),(140,0),(199,0),(262,0),(264,0),(62,0),(67,0),(135,0),(90,0),(163,0),(214,0)]
def Amt:MFn:=AE [] 17
def Amw:MFn:=JP ζ Bn [⟨74,(mB 917524),[],[],[(1,((mB 20),([],[1000000])))]⟩] U Ξ 62
def AgJ:MFn:=AE [] 136
def Ag8:MFn:=AE [⟨63,(mB 455),[],[],[(1,((mB 199),([],[1000000])))]⟩,⟨63,(mB 71),[],[],[(3,([],([],[1000000])))]⟩,⟨63,(mB 455),[],[],[(5,((mB 199),([],[1000000])))]⟩] 196
def Aho:MFn:=AE [⟨53,(mB 271),[],[],[(1,([],([],[1000000])))]⟩,⟨53,(mB 783),[],[],[(3,((mB 271),([],[1000000])))]⟩] 234
def Ahp:MFn:=AE [⟨220,(mB 3091),[],[],[(1,((mB 1027),([],[1000000])))]⟩,⟨220,(mB 9217),[],[],[(3,([],([],[1000000])))]⟩,⟨220,(mB 49173),[],[],[(5,((mB 16389),([],[1000000])))]⟩,⟨220,(mB 147457),[],[],[(7,([],([],[1000000])))]⟩,⟨220,(mB 8126495),[],[],[(9,((mB 1835039),([],[1000000])))]⟩] 235
def Ahy:MFn:=AE [⟨58,(mB 3093),[],[],[(1,((mB 1045),([],[1000000])))]⟩] 265
def AhB:MFn:=AE [⟨38,(mB 1039),[],[],[(1,([],([],[1000000])))]⟩] 275
def AgK:MFn:=AE [] 137
def AmF:MFn:=AE [] 84
def AgZ:MFn:=AE [] 157
def AgL:MFn:=AE [] 138
def AgS:MFn:=AE [] 145
def Ahe:MFn:=AE [] 202
def Ahc:MFn:=AE [⟨21,(mB 9),[],[],[(1,((mB 9),([],[])))]⟩] 200
def AgM:MFn:=AE [] 139
def Ag9:MFn:=AE [⟨61,(mB 234881122),[],[],[(1,((mB 96),([],[])))]⟩] 197
def Aha:MFn:=AE [⟨59,(mB 58720450),[],[],[(1,((mB 64),([],[])))]⟩] 198
def Ahd:MFn:=AE [⟨49,(mB 35),[],[],[(0,((mB 16),([],[]))),(2,([],([],[])))]⟩] 201
def AgN:MFn:=JP ζ Bn [⟨42,(mB 99),[],[],[(1,((mB 33),([],[1000000])))]⟩] U Ξ 140
def Ahb:MFn:=AE [⟨19,(mB 387),[],[],[(0,((mB 16),([],[1000000]))),(1,([],([],[1000000])))]⟩] 199
def AgO:MFn:=AE [] 141
def Amy:MFn:=AE [] 64
def AgP:MFn:=AE [] 142
def Amx:MFn:=AE [] 63
def Amz:MFn:=AE [⟨49,(mB 1835068),[],[],[(1,((mB 60),([],[])))]⟩] 65
def AmB:MFn:=AE [⟨21,(mB 3596),[],[],[(1,((mB 12),([],[1000000])))]⟩] 67
def AgU:MFn:=AE [] 147
def Ahh:MFn:=AE [⟨25,[U,U],[],[],[(1,([U],([],[])))]⟩] 205
def AgR:MFn:=AE [] 144
def Ahf:MFn:=AE [⟨44,(mB 451),[],[],[(1,((mB 192),([],[])))]⟩] 203
def Ag6:MFn:=AE [] 184
def Ahg:MFn:=AE [⟨96,(mB 14544),[],[],[(1,((mB 6224),([],[])))]⟩] 204
def Ahq:MFn:=AE [] 237
def Ahl:MFn:=AE [] 222
def Ahr:MFn:=AE [⟨58,(mB 30064771968),[],[],[(2,((mB 768),([],[])))]⟩] 238
def Ahs:MFn:=AE [⟨67,(mB 931),[],[],[(1,((mB 256),([],[])))]⟩] 239
def Aht:MFn:=AE [⟨74,(mB 917895),[],[],[(1,((mB 387),([],[])))]⟩] 240
def Ahu:MFn:=AE [⟨42,(mB 1811),[],[],[(1,((mB 19),([],[])))]⟩] 241
def Ahv:MFn:=AE [⟨61,(mB 449),[],[],[(1,((mB 128),([],[])))]⟩] 242
def AgQ:MFn:=AE [] 143
def AmA:MFn:=AE [] 66
def AgH:MFn:=AE [] 126
def AgT:MFn:=AE [] 146
def Ag2:MFn:=AE [] 161
def AmC:MFn:=AE [] 68
def AgV:MFn:=AE [⟨35,(mB 114744),[],[],[(1,((mB 48),([],[])))]⟩] 148
def Ag0:MFn:=AE [] 158
def Ahi:MFn:=AE [] 212
def Ahw:MFn:=AE [⟨68,(mB 1835042),[],[],[(1,((mB 32),([],[])))]⟩,⟨68,(mB 236716514),[],[],[(3,((mB 1835362),([],[])))]⟩] 243
def Ahx:MFn:=AE [] 244
def Ahz:MFn:=AE [] 266
def AhA:MFn:=AE [] 267
def AgG:MFn:=AE [] 125
def AgI:MFn:=AE [] 127
def Ag7:MFn:=AE [] 185
def Ahn:MFn:=AE [⟨36,(mB 3593),[],[],[(1,((mB 9),([],[])))]⟩,⟨36,(mB 234881088),[],[],[(3,((mB 64),([],[])))]⟩] 230
def Ahj:MFn:=AE [] 213
def AmE:MFn:=AE [] 83
def AgW:MFn:=AE [] 154
def AgX:MFn:=AE [] 155
def AmD:MFn:=AE [⟨18,(mB 456),[],[],[(0,([Ξ,Ξ,U],([],[]))),(1,((mB 8),([],[])))]⟩] 82
def AgY:MFn:=AE [⟨39,(mB 14343),[],[],[(0,((mB 64),([],[]))),(1,([U,U],([],[])))]⟩] 156
def Ag1:MFn:=JP ζ Bn [] Ξ U 160
def Ag3:MFn:=JP ζ Bn [] Ξ U 162
def AmG:MFn:=JP ζ Bn [] Ξ U 89
def Amu:MFn:=AE [] 27
def Amv:MFn:=AE [] 28
def AmH:MFn:=AE [] 90
def Ag5:MFn:=AE [] 164
def Ahm:MFn:=AE [] 223
def Ag4:MFn:=AE [⟨148,(mB 3103),[],[],[(0,([],([],[1000000])))]⟩] 163
def Ahk:MFn:=AE [⟨53,(mB 271),[],[],[(1,([],([],[1000000])))]⟩,⟨53,(mB 783),[],[],[(3,((mB 271),([],[1000000])))]⟩] 214
def ApS:List (Nat × MFn):=[(17,Amt),(62,Amw),(136,AgJ),(196,Ag8),(234,Aho),(235,Ahp),(265,Ahy),(275,AhB),(137,AgK),(84,AmF),(157,AgZ),(138,AgL),(145,AgS),(202,Ahe),(200,Ahc),(139,AgM),(197,Ag9),(198,Aha),(201,Ahd),(140,AgN),(199,Ahb),(141,AgO),(64,Amy),(142,AgP),(63,Amx),(65,Amz),(67,AmB),(147,AgU),(205,Ahh),(144,AgR),(203,Ahf),(184,Ag6),(204,Ahg),(237,Ahq),(222,Ahl),(238,Ahr),(239,Ahs),(240,Aht),(241,Ahu),(242,Ahv),(143,AgQ),(66,AmA),(126,AgH),(146,AgT),(161,Ag2),(68,AmC),(148,AgV),(158,Ag0),(212,Ahi),(243,Ahw),(244,Ahx),(266,Ahz),(267,AhA),(125,AgG),(127,AgI),(185,Ag7),(230,Ahn),(213,Ahj),(83,AmE),(154,AgW),(155,AgX),(82,AmD),(156,AgY),(160,Ag1),(162,Ag3),(89,AmG),(27,Amu),(28,Amv),(90,AmH),(164,Ag5),(223,Ahm),(163,Ag4),(214,Ahk)]
