/- term.Text's answers on w -/
import Derived.Test.YtpncilciembjdaaGreatDoorCBL
import Derived.Lib.AppendZeros
set_option linter.all false
open Bool renaming false->Φ,true->Δ
open List renaming getElem?_map->Aua,length_map->AtP
open Nat renaming le_refl->η
namespace Go.Proofs.YtpncilciembjdaaGreatDoor
noncomputable section
open Lib renaming join->Aww
open Option.some renaming injEq->φ
open Tryz renaming prog->ι
open Go.RowKit
theorem gAx(f:Nat):Be (Bk ι f) ((Dn Af Wf 60).ask (.fn f)):=(GR (Zv ⟨E5,Jy,IQ,trivial⟩) 60).1 f
def AlX(f:Nat):DF:=(Dn Af Wf 60).ask (.fn f)
theorem UK:Be (Bk ι 130) (CU (No AlX)):=ZP AlX gAx
set_option maxRecDepth 100000 in
set_option maxHeartbeats 4000000 in
theorem YN(w:World)(n:Nat)(hby:n*64<=140737488355328) :
  Calls ι 261 #[.slice none 0 0,.int .i64 n] w λe w'=>∃ v',e=.returned v'/\w'.ownsRow w.heap.size 30 4 v' 0 []/\Below w.heap.size w w':=by
 have y0:¬ (n:Int)<0:=by omega
 go_enter Tryz.func261,Tryz.ntmps261
 by_cases h0:n=0
 .subst h0
  go_wp2
  go_ret
  exact⟨_,rfl,World.ownsRow_nil _ _ _ _,Below.refl _ _⟩
 .have y1:(0:Int)<(n:Int):=by omega
  obtain⟨i0,hi0,hz0,hz1,hz2⟩:=info_parts (show (Tryz.prog.info? 30).map (λi=>(i.zero,i.size,i.bytes))=some (some (.agg #[.slice none 0 0,.bool Φ,.slice none 0 0,.bool Φ]),4,64) by kernel_rfl);have hr:=λty=>Lib.run_append_nil_zeros (P:=ι) w 33 3 ty 30 i0 _ .i64 .i64 Tryz.underlying33 Tryz.underlying3 hi0 hz0 n (by omega) (by rw[hz1];decide) (by omega) (by rw[hz2];omega)
  have c1:=grownCap_ge w n 0 30;have c2:=grownCap_le_maxLen w n 0 30 (by unfold maxLen;omega);have HR:=Lib.hid hr;clear hr;generalize grownCap w n 0 30=cap at *
  go_wp2_with (at_builtin;refine Lib.wpList_append_run _ rfl _ _ _ _ rfl _ _ rfl rfl _ _ (HR.out _) ?_)
  go_wp2_with fail
  go_ret
  refine⟨_,rfl,⟨by simp,.inr ⟨w.heap.size,cap,_,rfl,η _,heap_alloc_new _ _,Nat.zero_le _,c2,?_,by simp⟩⟩,?_⟩
  .rw[Array.size_append,size_zeroCells,size_zeroCells]
   show n*4+(cap-n)*4=cap*4
   omega
  .exact(NK (Below.refl _ _)).alloc (η _) _
theorem Tq:Be (Bk ι 261) (Dj 4 (DI 64)):=by
 refine IP (Cv _ _) 4 _ λargs n cells hr=>?_
 unfold DI at hr;split at hr
 .rename_i k
  split at hr
  .rename_i hk
   simp only[φ,Prod.mk.injEq]at hr;obtain⟨rfl,rfl⟩:=hr;refine⟨rfl,rfl,λμ F w us hF hus=>?_⟩;obtain⟨u,t,rfl,hu,u2,t2,rfl,hu2,ht⟩:=hus;have ht:t2=[]:=ht;subst ht;unfold Rep at hu hu2;rw[hu.1,hu2.1];refine Calls.mono (YN w k (Nat.le_of_ble_eq_true hk)) ?_;rintro e' w' ⟨v',rfl,ho,hb⟩;exact⟨v',rfl,_,[],ho,hb,rfl⟩
  .cases hr
 .cases hr
def Uy:List (List AV)->Option (List (List UInt8))
 |[]=>some []
 |[.v (.string s)]::r=>(match Uy r with
  |some l=>some (s.data.toList::l)
  |none=>none)
 |_::_=>none
theorem Pf:∀{xs:List (List AV)} {l:List (List UInt8)},Uy xs=some l->xs=l.map λt=>[sv (Cl t)]
 |[],l,h=>by injection h with h;subst h;rfl
 |x::r,l,h=>by
  unfold Uy at h;split at h
  .rename_i e;cases e
  .rename_i s r' e
   cases hr:Uy r' with
   |none=>rw[hr]at h;cases h
   |some l'=>
    rw[hr]at h;injection h with h
    injection e with e1 e2
    subst h e1 e2;rw[Pf hr];rfl
  .cases h
def R8:List AV->Option AV
 |[.ls xs,.v (.string sep)]=>(match Uy xs with
  |some ts=>(match Nat.ble ts.length 140737488355328&&Nat.ble (Aww ts sep.data.toList).length 140737488355328 with
   |true=>some (sv (Cl (Aww ts sep.data.toList)))
   |false=>none)
  |none=>none)
 |_=>none
theorem YW:Be (Bk ι 167) (CU R8):=by
 refine Tp (Cv _ _) _ λargs r hr μ F w us hus=>?_
 unfold R8 at hr;split at hr
 .rename_i xs sep
  split at hr
  .rename_i ts ht
   split at hr
   .rename_i hc
    injection hr with hr
    subst hr;simp only[Bool.and_eq_true,Nat.ble_eq]at hc;simp only[RepList]at hus;obtain⟨u,ul,rfl,hu,u2,ul2,rfl,hu2,rfl⟩:=hus;simp only[Rep]at hu hu2;obtain⟨rfl,_⟩:=hu2;obtain⟨_,A,c,rfl,h2,h3,h4⟩:=hu;have hx:=Pf ht;have fin:∀ w',Below w.heap.size w w'->Rep μ (Acm F w w') w' (sv (Cl (Aww ts sep.data.toList))) (.string ⟨(Aww ts sep.data.toList).toArray⟩):=λw' hb=>by
     unfold sv Cl;simp only[Rep];exact⟨trivial,rfl⟩
    cases ts with
    |nil=>
     subst hx;refine Calls.mono (Tryz.strings_Join_none A c sep w) ?_;rintro e w' ⟨rfl,rfl⟩;exact⟨_,rfl,Below.refl _ _,fin _ (Below.refl _ _)⟩
    |cons t ts=>
     obtain⟨g,o,e,rfl,hr⟩:=h4 (by rw[hx];simp);have he:e=1:=by
      have:=(hr.get (i:=0) (x:=[sv (Cl t)]) (by rw[hx];rfl)).1;simpa using this.symm
     subst he;have hl:xs.length=((t::ts).map Cl).length:=by rw[hx,AtP,AtP]
     have hcell:∀(j:Nat) x,((t::ts).map Cl)[j]? = some x->w.cell? ⟨g,o+j,none⟩=some (.string x):=λj x hj=>by
      rw[Aua]at hj;obtain⟨s,hs,rfl⟩:=Option.map_eq_some_iff.1 hj;have hg:=hr.get (i:=j) (x:=[sv (Cl s)]) (by rw[hx,Aua,hs];rfl);obtain⟨_,v,h5,h6⟩:=hg.2.get (i:=0) (x:=sv (Cl s)) rfl;unfold sv at h6;simp only[Rep]at h6;rw[h6.1]at h5;rw[Nat.mul_one,Nat.add_zero]at h5;exact h5
     have hm:(((t::ts).map Cl).map (·.data.toList))=t::ts:=by
      rw[List.map_map];exact List.map_id' _ |>.symm▸(List.map_congr_left λx _=>by simp[Cl])
     have hj:=Tryz.strings_Join g o c ((t::ts).map Cl) sep w hcell (C6 (hcell 0 (Cl t) rfl)) (by rw[AtP];exact hc.1) (by rw[←hl];exact h2) (by rw[hm];exact hc.2);rw[hm,←hl]at hj;refine Calls.mono hj ?_;rintro e w' ⟨rfl,hb⟩;exact⟨_,rfl,hb,fin _ hb⟩
   .cases hr
  .cases hr
 .cases hr
def Aqb:List (Nat × Nat):=[(136,0),(196,0),(234,0),(235,0),(265,0),(275,0),(140,0),(199,0),(262,0),(264,0),(62,0),(67,0),(135,0),(261,0),(168,0),(226,0),(252,0),(169,0)]
def AmH:MFn:=AC [] 54
def Afo:MFn:=AC [] 126
def Af1:MFn:=AC [] 184
def Age:MFn:=AC [] 202
def Agc:MFn:=AC [⟨21,(mB 9),[],[],[(1,((mB 9),([],[])))]⟩] 200
def AfE:MFn:=AC [] 145
def Afn:MFn:=AC [] 125
def Afx:MFn:=AC [] 138
def Afp:MFn:=AC [] 127
def AmT:MFn:=AC [] 68
def AfH:MFn:=AC [⟨35,(mB 114744),[],[],[(1,((mB 48),([],[])))]⟩] 148
def AfN:MFn:=AC [] 158
def Agi:MFn:=AC [] 212
def Agw:MFn:=AC [⟨68,(mB 1835042),[],[],[(1,((mB 32),([],[])))]⟩,⟨68,(mB 236716514),[],[],[(3,((mB 1835362),([],[])))]⟩] 243
def Agx:MFn:=AC [] 244
def AgB:MFn:=AC [] 266
def Af9:MFn:=AC [⟨61,(mB 234881122),[],[],[(1,((mB 96),([],[])))]⟩] 197
def Aga:MFn:=AC [⟨59,(mB 58720450),[],[],[(1,((mB 64),([],[])))]⟩] 198
def Agd:MFn:=AC [⟨49,(mB 35),[],[],[(0,((mB 16),([],[]))),(2,([],([],[])))]⟩] 201
def AgC:MFn:=AC [] 267
def AmN:MFn:=LO ι Bz [⟨74,(mB 917524),[],[],[(1,((mB 20),([],[1000000])))]⟩] Δ Φ 62
def Afv:MFn:=AC [] 136
def Af8:MFn:=AC [⟨63,(mB 455),[],[],[(1,((mB 199),([],[1000000])))]⟩,⟨63,(mB 71),[],[],[(3,([],([],[1000000])))]⟩,⟨63,(mB 455),[],[],[(5,((mB 199),([],[1000000])))]⟩] 196
def Ago:MFn:=AC [⟨53,(mB 271),[],[],[(1,([],([],[1000000])))]⟩,⟨53,(mB 783),[],[],[(3,((mB 271),([],[1000000])))]⟩] 234
def Agp:MFn:=AC [⟨220,(mB 3091),[],[],[(1,((mB 1027),([],[1000000])))]⟩,⟨220,(mB 9217),[],[],[(3,([],([],[1000000])))]⟩,⟨220,(mB 49173),[],[],[(5,((mB 16389),([],[1000000])))]⟩,⟨220,(mB 147457),[],[],[(7,([],([],[1000000])))]⟩,⟨220,(mB 8126495),[],[],[(9,((mB 1835039),([],[1000000])))]⟩] 235
def AgA:MFn:=AC [⟨58,(mB 3093),[],[],[(1,((mB 1045),([],[1000000])))]⟩] 265
def AgD:MFn:=AC [⟨38,(mB 1039),[],[],[(1,([],([],[1000000])))]⟩] 275
def Afw:MFn:=AC [] 137
def AmX:MFn:=AC [] 84
def AfM:MFn:=AC [] 157
def Afy:MFn:=AC [] 139
def Afz:MFn:=LO ι Bz [⟨42,(mB 99),[],[],[(1,((mB 33),([],[1000000])))]⟩] Δ Φ 140
def Agb:MFn:=AC [⟨19,(mB 387),[],[],[(0,((mB 16),([],[1000000]))),(1,([],([],[1000000])))]⟩] 199
def AfA:MFn:=AC [] 141
def AmP:MFn:=AC [] 64
def AfB:MFn:=AC [] 142
def Af2:MFn:=AC [] 185
def Agn:MFn:=AC [⟨36,(mB 3593),[],[],[(1,((mB 9),([],[])))]⟩,⟨36,(mB 234881088),[],[],[(3,((mB 64),([],[])))]⟩] 230
def Amx:MFn:=AC [] 27
def Am7:MFn:=AC [] 98
def AfU:MFn:=AC [] 170
def AmG:MFn:=AC [] 49
def Afh:MFn:=AC [] 107
def Am4:MFn:=AC [] 95
def AfR:MFn:=AC [] 166
def AfQ:MFn:=AC [⟨19,(mB 456),[],[],[(1,((mB 8),([],[])))]⟩] 165
def Amy:MFn:=AC [] 28
def AmB:MFn:=AC [] 39
def Afg:MFn:=AC [⟨69,(mB 234881072),[],[],[(2,((mB 48),([],[])))]⟩] 104
def AfW:MFn:=AC [] 172
def Amt:MFn:=AC [] 17
def AmO:MFn:=AC [] 63
def AmQ:MFn:=AC [⟨49,(mB 1835068),[],[],[(1,((mB 60),([],[])))]⟩] 65
def AmS:MFn:=AC [⟨21,(mB 3596),[],[],[(1,((mB 12),([],[1000000])))]⟩] 67
def AfG:MFn:=AC [] 147
def Agh:MFn:=AC [⟨25,[Δ,Δ],[],[],[(1,([Δ],([],[])))]⟩] 205
def AfD:MFn:=AC [] 144
def Agf:MFn:=AC [⟨44,(mB 451),[],[],[(1,((mB 192),([],[])))]⟩] 203
def Agg:MFn:=AC [⟨96,(mB 14544),[],[],[(1,((mB 6224),([],[])))]⟩] 204
def Agq:MFn:=AC [] 237
def Agj:MFn:=AC [] 222
def Agr:MFn:=AC [⟨58,(mB 30064771968),[],[],[(2,((mB 768),([],[])))]⟩] 238
def Ags:MFn:=AC [⟨67,(mB 931),[],[],[(1,((mB 256),([],[])))]⟩] 239
def Agt:MFn:=AC [⟨74,(mB 917895),[],[],[(1,((mB 387),([],[])))]⟩] 240
def Agu:MFn:=AC [⟨42,(mB 1811),[],[],[(1,((mB 19),([],[])))]⟩] 241
def Agv:MFn:=AC [⟨61,(mB 449),[],[],[(1,((mB 128),([],[])))]⟩] 242
def AfC:MFn:=AC [] 143
def AmR:MFn:=AC [] 66
def AfF:MFn:=AC [] 146
def AfO:MFn:=AC [] 161
def Amu:MFn:=AC [] 23
def AmU:MFn:=AC [] 79
def AfX:MFn:=AC [⟨68,(mB 1841),[],[],[(0,((mB 16),([],[]))),(1,((mB 49),([],[])))]⟩] 173
def AfY:MFn:=AC [⟨22,(mB 1826),[],[],[(1,((mB 32),([],[])))]⟩] 174
def Am1:MFn:=AC [] 92
def Am3:MFn:=AC [] 94
def Am2:MFn:=AC [⟨50,(mB 3622),[],[],[(1,((mB 38),([],[])))]⟩] 93
def AmJ:MFn:=AC [] 57
def AmF:MFn:=AC [⟨41,(mB 58720512),[],[],[(1,((mB 256),([],[])))]⟩] 47
def Afm:MFn:=AC [] 117
def AfZ:MFn:=AC [⟨39,(mB 14402),[],[],[(0,((mB 48),([],[]))),(1,((mB 64),([],[])))]⟩] 176
def Af0:MFn:=AC [⟨69,(mB 917570),[],[],[(0,((mB 48),([],[]))),(1,((mB 64),([],[])))]⟩,⟨69,(mB 246290605541890),[],[],[(3,((mB 919554),([],[])))]⟩,⟨69,(mB 16008889301346818),[],[],[(5,((mB 246290605541890),([],[])))]⟩] 177
def Agm:MFn:=AC [⟨36,(mB 3593),[],[],[(1,((mB 9),([],[])))]⟩,⟨36,(mB 234881088),[],[],[(3,((mB 64),([],[])))]⟩] 227
def AmA:MFn:=AC [] 36
def Afd:MFn:=AC [] 101
def Amz:MFn:=AC [] 30
def AmZ:MFn:=AC [⟨40,(mB 28722),[],[],[(1,((mB 48),([],[])))]⟩] 86
def Aff:MFn:=AC [] 103
def Afe:MFn:=AC [] 102
def AfV:MFn:=AC [⟨19,(mB 387),[],[],[(0,((mB 16),([],[]))),(1,([],([],[])))]⟩] 171
def Am5:MFn:=AC [⟨19,(mB 904),[],[],[(1,((mB 8),([],[])))]⟩] 96
def Am6:MFn:=AC [⟨28,(mB 57352),[],[],[(1,((mB 8),([],[])))]⟩] 97
def AmL:MFn:=AC [] 60
def Aft:MFn:=AC [⟨21,(mB 1800),[],[],[(1,((mB 8),([],[])))]⟩] 133
def AfS:MFn:=AC [] 168
def AfP:MFn:=AC [] 164
def Agk:MFn:=AC [] 223
def Agl:MFn:=AC [⟨134,(mB 783),[],[],[(0,([],([],[1000000])))]⟩] 226
def Agy:MFn:=AC [⟨49,(mB 71),[],[],[(1,([],([],[1000000])))]⟩,⟨49,(mB 199),[],[],[(3,((mB 71),([],[1000000])))]⟩] 252
def Agz:MFn:=AC [] 258
def AfT:MFn:=LO ι Bz [⟨61,(mB 9),[],[],[(0,([Φ,Φ,Δ],([],[1000000]))),(1,([Δ],([],[1000000])))]⟩,⟨61,(mB 57),[],[],[(3,((mB 9),([],[1000000])))]⟩] Δ Φ 169
def AmC:MFn:=AC [] 41
def Amw:MFn:=AC [] 26
def Amv:MFn:=AC [] 25
def AmW:MFn:=AC [] 83
def AfJ:MFn:=AC [] 154
def AfK:MFn:=AC [] 155
def AmV:MFn:=AC [⟨18,(mB 456),[],[],[(0,([Φ,Φ,Δ],([],[]))),(1,((mB 8),([],[])))]⟩] 82
def AfL:MFn:=AC [⟨39,(mB 14343),[],[],[(0,((mB 64),([],[]))),(1,([Δ,Δ],([],[])))]⟩] 156
def AmY:MFn:=AC [] 85
def Afi:MFn:=AC [⟨32,(mB 229382),[],[],[(0,((mB 64),([],[]))),(1,([],([],[])))]⟩] 108
def AmD:MFn:=AC [] 43
def Afk:MFn:=AC [] 113
def AmK:MFn:=AC [] 59
def Afs:MFn:=AC [⟨53,(mB 458950),[],[],[(1,((mB 192),([],[])))]⟩] 132
def Af5:MFn:=AC [⟨19,(mB 387),[],[],[(0,((mB 16),([],[]))),(1,([],([],[])))]⟩] 193
def Af6:MFn:=AC [] 194
def Afj:MFn:=AC [⟨35,(mB 3670066),[],[],[(1,((mB 48),([],[])))]⟩] 112
def AmE:MFn:=AC [] 45
def Afl:MFn:=AC [] 115
def AmM:MFn:=AC [] 61
def Afu:MFn:=AC [⟨36,(mB 1572920),[],[],[(1,((mB 48),([],[])))]⟩] 134
def Af7:MFn:=AC [] 195
def Am0:MFn:=AC [⟨31,(mB 14384),[],[],[(1,((mB 48),([],[])))]⟩] 91
def AmI:MFn:=AC [] 56
def Afq:MFn:=AC [] 128
def AfI:MFn:=AC [⟨37,(mB 25),[],[],[(1,((mB 8),([],[])))]⟩,⟨37,(mB 8),[],[],[(3,((mB 8),([],[])))]⟩] 149
def Afr:MFn:=AC [⟨36,(mB 227),[],[],[(1,((mB 32),([],[])))]⟩] 129
def Af3:MFn:=AC [] 186
def Af4:MFn:=AC [] 187
def Aqs:List (Nat × MFn):=[(54,AmH),(126,Afo),(184,Af1),(202,Age),(200,Agc),(145,AfE),(125,Afn),(138,Afx),(127,Afp),(68,AmT),(148,AfH),(158,AfN),(212,Agi),(243,Agw),(244,Agx),(266,AgB),(197,Af9),(198,Aga),(201,Agd),(267,AgC),(62,AmN),(136,Afv),(196,Af8),(234,Ago),(235,Agp),(265,AgA),(275,AgD),(137,Afw),(84,AmX),(157,AfM),(139,Afy),(140,Afz),(199,Agb),(141,AfA),(64,AmP),(142,AfB),(185,Af2),(230,Agn),(27,Amx),(98,Am7),(170,AfU),(49,AmG),(107,Afh),(95,Am4),(166,AfR),(165,AfQ),(28,Amy),(39,AmB),(104,Afg),(172,AfW),(17,Amt),(63,AmO),(65,AmQ),(67,AmS),(147,AfG),(205,Agh),(144,AfD),(203,Agf),(204,Agg),(237,Agq),(222,Agj),(238,Agr),(239,Ags),(240,Agt),(241,Agu),(242,Agv),(143,AfC),(66,AmR),(146,AfF),(161,AfO),(23,Amu),(79,AmU),(173,AfX),(174,AfY),(92,Am1),(94,Am3),(93,Am2),(57,AmJ),(47,AmF),(117,Afm),(176,AfZ),(177,Af0),(227,Agm),(36,AmA),(101,Afd),(30,Amz),(86,AmZ),(103,Aff),(102,Afe),(171,AfV),(96,Am5),(97,Am6),(60,AmL),(133,Aft),(168,AfS),(164,AfP),(223,Agk),(226,Agl),(252,Agy),(258,Agz),(169,AfT),(41,AmC),(26,Amw),(25,Amv),(83,AmW),(154,AfJ),(155,AfK),(82,AmV),(156,AfL),(85,AmY),(108,Afi),(43,AmD),(113,Afk),(59,AmK),(132,Afs),(193,Af5),(194,Af6),(112,Afj),(45,AmE),(115,Afl),(61,AmM),(134,Afu),(195,Af7),(91,Am0),(56,AmI),(128,Afq),(149,AfI),(129,Afr),(186,Af3),(187,Af4)]
