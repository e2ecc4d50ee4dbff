/- term.Text's answers on w -/
import Derived.Test.YtpncilciembjdaaGreatDoorHBL
import Derived.Lib.AppendZeros
set_option linter.all false
open Bool renaming false->Φ,true->Δ
open List renaming getElem?_map->AwL,length_map->Awm
open Nat renaming le_refl->π
namespace Go.Proofs.YtpncilciembjdaaGreatDoor
noncomputable section
open Lib renaming join->AyZ
open Option.some renaming injEq->ψ
open Tryz renaming prog->Av9
open Go.RowKit
theorem gAx(f:Nat):BD (BL Av9 f) ((Dn Ap WZ 60).ask (.fn f)):=(He (Aaq ⟨Fk,JM,I6,trivial⟩) 60).1 f
def Anz(f:Nat):DF:=(Dn Ap WZ 60).ask (.fn f)
theorem Vo:BD (BL Av9 130) (Dd (NJ Anz)):=AaG Anz gAx
set_option maxRecDepth 100000 in
set_option maxHeartbeats 4000000 in
theorem ZH(w:World)(n:Nat)(hby:n*64<=140737488355328) :
  Calls Av9 261 #[.slice none 0 0,.int .i64 n] w λe w'=>∃ v',e=.returned v'/\w'.ownsRow w.heap.size 30 4 v' 0 []/\Below w.heap.size w w':=by
 have y0:¬ (n:Int)<0:=by omega
 go_enter Tryz.func261,Tryz.ntmps261
 by_cases h0:n=0
 .subst h0
  go_wp2
  go_ret
  exact⟨_,rfl,World.ownsRow_nil _ _ _ _,Below.refl _ _⟩
 .have y1:(0:Int)<(n:Int):=by omega
  obtain⟨i0,hi0,hz0,hz1,hz2⟩:=info_parts (show (Tryz.prog.info? 30).map (λi=>(i.zero,i.size,i.bytes))=some (some (.agg #[.slice none 0 0,.bool Φ,.slice none 0 0,.bool Φ]),4,64) by kernel_rfl);have hr:=λty=>Lib.run_append_nil_zeros (P:=Av9) w 33 3 ty 30 i0 _ .i64 .i64 Tryz.underlying33 Tryz.underlying3 hi0 hz0 n (by omega) (by rw[hz1];decide) (by omega) (by rw[hz2];omega)
  have c1:=grownCap_ge w n 0 30;have c2:=grownCap_le_maxLen w n 0 30 (by unfold maxLen;omega);have HR:=Lib.hid hr;clear hr;generalize grownCap w n 0 30=cap at *
  go_wp2_with (at_builtin;refine Lib.wpList_append_run _ rfl _ _ _ _ rfl _ _ rfl rfl _ _ (HR.out _) ?_)
  go_wp2_with fail
  go_ret
  refine⟨_,rfl,⟨by simp,.inr ⟨w.heap.size,cap,_,rfl,π _,heap_alloc_new _ _,Nat.zero_le _,c2,?_,by simp⟩⟩,?_⟩
  .rw[Array.size_append,size_zeroCells,size_zeroCells]
   show n*4+(cap-n)*4=cap*4
   omega
  .exact(N6 (Below.refl _ _)).alloc (π _) _
theorem T4:BD (BL Av9 261) (DH 4 (D4 64)):=by
 refine I5 (CQ _ _) 4 _ λargs n cells hr=>?_
 unfold D4 at hr;split at hr
 .rename_i k
  split at hr
  .rename_i hk
   simp only[ψ,Prod.mk.injEq]at hr;obtain⟨rfl,rfl⟩:=hr;refine⟨rfl,rfl,λμ F w us hF hus=>?_⟩;obtain⟨u,t,rfl,hu,u2,t2,rfl,hu2,ht⟩:=hus;have ht:t2=[]:=ht;subst ht;unfold Rep at hu hu2;rw[hu.1,hu2.1];refine Calls.mono (ZH w k (Nat.le_of_ble_eq_true hk)) ?_;rintro e' w' ⟨v',rfl,ho,hb⟩;exact⟨v',rfl,_,[],ho,hb,rfl⟩
  .cases hr
 .cases hr
def Vd:Rw->Option (List (List UInt8))
 |[]=>some []
 |[.v (.string s)]::r=>(match Vd r with
  |some l=>some (s.data.toList::l)
  |none=>none)
 |_::_=>none
theorem PE:∀{xs:Rw} {l:List (List UInt8)},Vd xs=some l->xs=l.map λt=>[sv (CH t)]
 |[],l,h=>by injection h with h;subst h;rfl
 |x::r,l,h=>by
  unfold Vd at h;split at h
  .rename_i e;cases e
  .rename_i s r' e
   cases hr:Vd r' with
   |none=>rw[hr]at h;cases h
   |some l'=>
    rw[hr]at h;injection h with h
    injection e with e1 e2
    subst h e1 e2;rw[PE hr];rfl
  .cases h
def SS:Ab->Option AV
 |[.ls xs,.v (.string sep)]=>(match Vd xs with
  |some ts=>(match Nat.ble ts.length 140737488355328&&Nat.ble (AyZ ts sep.data.toList).length 140737488355328 with
   |true=>some (sv (CH (AyZ ts sep.data.toList)))
   |false=>none)
  |none=>none)
 |_=>none
theorem ZQ:BD (BL Av9 167) (Dd SS):=by
 refine TZ (CQ _ _) _ λargs r hr μ F w us hus=>?_
 unfold SS at hr;split at hr
 .rename_i xs sep
  split at hr
  .rename_i ts ht
   split at hr
   .rename_i hc
    injection hr with hr
    subst hr;simp only[Bool.and_eq_true,Nat.ble_eq]at hc;simp only[RepList]at hus;obtain⟨u,ul,rfl,hu,u2,ul2,rfl,hu2,rfl⟩:=hus;simp only[Rep]at hu hu2;obtain⟨rfl,_⟩:=hu2;obtain⟨_,A,c,rfl,h2,h3,h4⟩:=hu;have hx:=PE ht;have fin:∀ w',Below w.heap.size w w'->Rep μ (Ads F w w') w' (sv (CH (AyZ ts sep.data.toList))) (.string ⟨(AyZ ts sep.data.toList).toArray⟩):=λw' hb=>by
     unfold sv CH;simp only[Rep];exact⟨trivial,rfl⟩
    cases ts with
    |nil=>
     subst hx;refine Calls.mono (Tryz.strings_Join_none A c sep w) ?_;rintro e w' ⟨rfl,rfl⟩;exact⟨_,rfl,Below.refl _ _,fin _ (Below.refl _ _)⟩
    |cons t ts=>
     obtain⟨g,o,e,rfl,hr⟩:=h4 (by rw[hx];simp);have he:e=1:=by
      have:=(hr.get (i:=0) (x:=[sv (CH t)]) (by rw[hx];rfl)).1;simpa using this.symm
     subst he;have hl:xs.length=((t::ts).map CH).length:=by rw[hx,Awm,Awm]
     have hcell:∀(j:Nat) x,((t::ts).map CH)[j]? = some x->w.cell? ⟨g,o+j,none⟩=some (.string x):=λj x hj=>by
      rw[AwL]at hj;obtain⟨s,hs,rfl⟩:=Option.map_eq_some_iff.1 hj;have hg:=hr.get (i:=j) (x:=[sv (CH s)]) (by rw[hx,AwL,hs];rfl);obtain⟨_,v,h5,h6⟩:=hg.2.get (i:=0) (x:=sv (CH s)) rfl;unfold sv at h6;simp only[Rep]at h6;rw[h6.1]at h5;rw[Nat.mul_one,Nat.add_zero]at h5;exact h5
     have hm:(((t::ts).map CH).map (·.data.toList))=t::ts:=by
      rw[List.map_map];exact List.map_id' _ |>.symm▸(List.map_congr_left λx _=>by simp[CH])
     have hj:=Tryz.strings_Join g o c ((t::ts).map CH) sep w hcell (Dt (hcell 0 (CH t) rfl)) (by rw[Awm];exact hc.1) (by rw[←hl];exact h2) (by rw[hm];exact hc.2);rw[hm,←hl]at hj;refine Calls.mono hj ?_;rintro e w' ⟨rfl,hb⟩;exact⟨_,rfl,hb,fin _ hb⟩
   .cases hr
  .cases hr
 .cases hr
def ArV:List (Nat × Nat):=[(136,0),(196,0),(234,0),(235,0),(265,0),(275,0),(140,0),(199,0),(262,0),(264,0),(62,0),(67,0),(135,0),(261,0),(168,0),(226,0),(252,0),(169,0)]
def Aom:MFn:=AN [] 54
def AgK:MFn:=AN [] 126
def Ahn:MFn:=AN [] 184
def AhA:MFn:=AN [] 202
def Ahy:MFn:=AN [⟨21,(mB 9),[],[],[(1,((mB 9),([],[])))]⟩] 200
def Ag0:MFn:=AN [] 145
def AgJ:MFn:=AN [] 125
def AgT:MFn:=AN [] 138
def AgL:MFn:=AN [] 127
def Aoy:MFn:=AN [] 68
def Ag3:MFn:=AN [⟨35,(mB 114744),[],[],[(1,((mB 48),([],[])))]⟩] 148
def Ag9:MFn:=AN [] 158
def AhE:MFn:=AN [] 212
def AhS:MFn:=AN [⟨68,(mB 1835042),[],[],[(1,((mB 32),([],[])))]⟩,⟨68,(mB 236716514),[],[],[(3,((mB 1835362),([],[])))]⟩] 243
def AhT:MFn:=AN [] 244
def AhX:MFn:=AN [] 266
def Ahv:MFn:=AN [⟨61,(mB 234881122),[],[],[(1,((mB 96),([],[])))]⟩] 197
def Ahw:MFn:=AN [⟨59,(mB 58720450),[],[],[(1,((mB 64),([],[])))]⟩] 198
def Ahz:MFn:=AN [⟨49,(mB 35),[],[],[(0,((mB 16),([],[]))),(2,([],([],[])))]⟩] 201
def AhY:MFn:=AN [] 267
def Aos:MFn:=NB Av9 B4 [⟨74,(mB 917524),[],[],[(1,((mB 20),([],[1000000])))]⟩] Δ Φ 62
def AgR:MFn:=AN [] 136
def Ahu:MFn:=AN [⟨63,(mB 455),[],[],[(1,((mB 199),([],[1000000])))]⟩,⟨63,(mB 71),[],[],[(3,([],([],[1000000])))]⟩,⟨63,(mB 455),[],[],[(5,((mB 199),([],[1000000])))]⟩] 196
def AhK:MFn:=AN [⟨53,(mB 271),[],[],[(1,([],([],[1000000])))]⟩,⟨53,(mB 783),[],[],[(3,((mB 271),([],[1000000])))]⟩] 234
def AhL:MFn:=AN [⟨220,(mB 3091),[],[],[(1,((mB 1027),([],[1000000])))]⟩,⟨220,(mB 9217),[],[],[(3,([],([],[1000000])))]⟩,⟨220,(mB 49173),[],[],[(5,((mB 16389),([],[1000000])))]⟩,⟨220,(mB 147457),[],[],[(7,([],([],[1000000])))]⟩,⟨220,(mB 8126495),[],[],[(9,((mB 1835039),([],[1000000])))]⟩] 235
def AhW:MFn:=AN [⟨58,(mB 3093),[],[],[(1,((mB 1045),([],[1000000])))]⟩] 265
def AhZ:MFn:=AN [⟨38,(mB 1039),[],[],[(1,([],([],[1000000])))]⟩] 275
def AgS:MFn:=AN [] 137
def AoC:MFn:=AN [] 84
def Ag8:MFn:=AN [] 157
def AgU:MFn:=AN [] 139
def AgV:MFn:=NB Av9 B4 [⟨42,(mB 99),[],[],[(1,((mB 33),([],[1000000])))]⟩] Δ Φ 140
def Ahx:MFn:=AN [⟨19,(mB 387),[],[],[(0,((mB 16),([],[1000000]))),(1,([],([],[1000000])))]⟩] 199
def AgW:MFn:=AN [] 141
def Aou:MFn:=AN [] 64
def AgX:MFn:=AN [] 142
def Aho:MFn:=AN [] 185
def AhJ:MFn:=AN [⟨36,(mB 3593),[],[],[(1,((mB 9),([],[])))]⟩,⟨36,(mB 234881088),[],[],[(3,((mB 64),([],[])))]⟩] 230
def Aoc:MFn:=AN [] 27
def AoM:MFn:=AN [] 98
def Ahg:MFn:=AN [] 170
def Aol:MFn:=AN [] 49
def AgD:MFn:=AN [] 107
def AoJ:MFn:=AN [] 95
def Ahd:MFn:=AN [] 166
def Ahc:MFn:=AN [⟨19,(mB 456),[],[],[(1,((mB 8),([],[])))]⟩] 165
def Aod:MFn:=AN [] 28
def Aog:MFn:=AN [] 39
def AgC:MFn:=AN [⟨69,(mB 234881072),[],[],[(2,((mB 48),([],[])))]⟩] 104
def Ahi:MFn:=AN [] 172
def An8:MFn:=AN [] 17
def Aot:MFn:=AN [] 63
def Aov:MFn:=AN [⟨49,(mB 1835068),[],[],[(1,((mB 60),([],[])))]⟩] 65
def Aox:MFn:=AN [⟨21,(mB 3596),[],[],[(1,((mB 12),([],[1000000])))]⟩] 67
def Ag2:MFn:=AN [] 147
def AhD:MFn:=AN [⟨25,[Δ,Δ],[],[],[(1,([Δ],([],[])))]⟩] 205
def AgZ:MFn:=AN [] 144
def AhB:MFn:=AN [⟨44,(mB 451),[],[],[(1,((mB 192),([],[])))]⟩] 203
def AhC:MFn:=AN [⟨96,(mB 14544),[],[],[(1,((mB 6224),([],[])))]⟩] 204
def AhM:MFn:=AN [] 237
def AhF:MFn:=AN [] 222
def AhN:MFn:=AN [⟨58,(mB 30064771968),[],[],[(2,((mB 768),([],[])))]⟩] 238
def AhO:MFn:=AN [⟨67,(mB 931),[],[],[(1,((mB 256),([],[])))]⟩] 239
def AhP:MFn:=AN [⟨74,(mB 917895),[],[],[(1,((mB 387),([],[])))]⟩] 240
def AhQ:MFn:=AN [⟨42,(mB 1811),[],[],[(1,((mB 19),([],[])))]⟩] 241
def AhR:MFn:=AN [⟨61,(mB 449),[],[],[(1,((mB 128),([],[])))]⟩] 242
def AgY:MFn:=AN [] 143
def Aow:MFn:=AN [] 66
def Ag1:MFn:=AN [] 146
def Aha:MFn:=AN [] 161
def An9:MFn:=AN [] 23
def Aoz:MFn:=AN [] 79
def Ahj:MFn:=AN [⟨68,(mB 1841),[],[],[(0,((mB 16),([],[]))),(1,((mB 49),([],[])))]⟩] 173
def Ahk:MFn:=AN [⟨22,(mB 1826),[],[],[(1,((mB 32),([],[])))]⟩] 174
def AoG:MFn:=AN [] 92
def AoI:MFn:=AN [] 94
def AoH:MFn:=AN [⟨50,(mB 3622),[],[],[(1,((mB 38),([],[])))]⟩] 93
def Aoo:MFn:=AN [] 57
def Aok:MFn:=AN [⟨41,(mB 58720512),[],[],[(1,((mB 256),([],[])))]⟩] 47
def AgI:MFn:=AN [] 117
def Ahl:MFn:=AN [⟨39,(mB 14402),[],[],[(0,((mB 48),([],[]))),(1,((mB 64),([],[])))]⟩] 176
def Ahm:MFn:=AN [⟨69,(mB 917570),[],[],[(0,((mB 48),([],[]))),(1,((mB 64),([],[])))]⟩,⟨69,(mB 246290605541890),[],[],[(3,((mB 919554),([],[])))]⟩,⟨69,(mB 16008889301346818),[],[],[(5,((mB 246290605541890),([],[])))]⟩] 177
def AhI:MFn:=AN [⟨36,(mB 3593),[],[],[(1,((mB 9),([],[])))]⟩,⟨36,(mB 234881088),[],[],[(3,((mB 64),([],[])))]⟩] 227
def Aof:MFn:=AN [] 36
def Agz:MFn:=AN [] 101
def Aoe:MFn:=AN [] 30
def AoE:MFn:=AN [⟨40,(mB 28722),[],[],[(1,((mB 48),([],[])))]⟩] 86
def AgB:MFn:=AN [] 103
def AgA:MFn:=AN [] 102
def Ahh:MFn:=AN [⟨19,(mB 387),[],[],[(0,((mB 16),([],[]))),(1,([],([],[])))]⟩] 171
def AoK:MFn:=AN [⟨19,(mB 904),[],[],[(1,((mB 8),([],[])))]⟩] 96
def AoL:MFn:=AN [⟨28,(mB 57352),[],[],[(1,((mB 8),([],[])))]⟩] 97
def Aoq:MFn:=AN [] 60
def AgP:MFn:=AN [⟨21,(mB 1800),[],[],[(1,((mB 8),([],[])))]⟩] 133
def Ahe:MFn:=AN [] 168
def Ahb:MFn:=AN [] 164
def AhG:MFn:=AN [] 223
def AhH:MFn:=AN [⟨134,(mB 783),[],[],[(0,([],([],[1000000])))]⟩] 226
def AhU:MFn:=AN [⟨49,(mB 71),[],[],[(1,([],([],[1000000])))]⟩,⟨49,(mB 199),[],[],[(3,((mB 71),([],[1000000])))]⟩] 252
def AhV:MFn:=AN [] 258
def Ahf:MFn:=NB Av9 B4 [⟨61,(mB 9),[],[],[(0,([Φ,Φ,Δ],([],[1000000]))),(1,([Δ],([],[1000000])))]⟩,⟨61,(mB 57),[],[],[(3,((mB 9),([],[1000000])))]⟩] Δ Φ 169
def Aoh:MFn:=AN [] 41
def Aob:MFn:=AN [] 26
def Aoa:MFn:=AN [] 25
def AoB:MFn:=AN [] 83
def Ag5:MFn:=AN [] 154
def Ag6:MFn:=AN [] 155
def AoA:MFn:=AN [⟨18,(mB 456),[],[],[(0,([Φ,Φ,Δ],([],[]))),(1,((mB 8),([],[])))]⟩] 82
def Ag7:MFn:=AN [⟨39,(mB 14343),[],[],[(0,((mB 64),([],[]))),(1,([Δ,Δ],([],[])))]⟩] 156
def AoD:MFn:=AN [] 85
def AgE:MFn:=AN [⟨32,(mB 229382),[],[],[(0,((mB 64),([],[]))),(1,([],([],[])))]⟩] 108
def Aoi:MFn:=AN [] 43
def AgG:MFn:=AN [] 113
def Aop:MFn:=AN [] 59
def AgO:MFn:=AN [⟨53,(mB 458950),[],[],[(1,((mB 192),([],[])))]⟩] 132
def Ahr:MFn:=AN [⟨19,(mB 387),[],[],[(0,((mB 16),([],[]))),(1,([],([],[])))]⟩] 193
def Ahs:MFn:=AN [] 194
def AgF:MFn:=AN [⟨35,(mB 3670066),[],[],[(1,((mB 48),([],[])))]⟩] 112
def Aoj:MFn:=AN [] 45
def AgH:MFn:=AN [] 115
def Aor:MFn:=AN [] 61
def AgQ:MFn:=AN [⟨36,(mB 1572920),[],[],[(1,((mB 48),([],[])))]⟩] 134
def Aht:MFn:=AN [] 195
def AoF:MFn:=AN [⟨31,(mB 14384),[],[],[(1,((mB 48),([],[])))]⟩] 91
def Aon:MFn:=AN [] 56
def AgM:MFn:=AN [] 128
def Ag4:MFn:=AN [⟨37,(mB 25),[],[],[(1,((mB 8),([],[])))]⟩,⟨37,(mB 8),[],[],[(3,((mB 8),([],[])))]⟩] 149
def AgN:MFn:=AN [⟨36,(mB 227),[],[],[(1,((mB 32),([],[])))]⟩] 129
def Ahp:MFn:=AN [] 186
def Ahq:MFn:=AN [] 187
def Aso:List (Nat × MFn):=[(54,Aom),(126,AgK),(184,Ahn),(202,AhA),(200,Ahy),(145,Ag0),(125,AgJ),(138,AgT),(127,AgL),(68,Aoy),(148,Ag3),(158,Ag9),(212,AhE),(243,AhS),(244,AhT),(266,AhX),(197,Ahv),(198,Ahw),(201,Ahz),(267,AhY),(62,Aos),(136,AgR),(196,Ahu),(234,AhK),(235,AhL),(265,AhW),(275,AhZ),(137,AgS),(84,AoC),(157,Ag8),(139,AgU),(140,AgV),(199,Ahx),(141,AgW),(64,Aou),(142,AgX),(185,Aho),(230,AhJ),(27,Aoc),(98,AoM),(170,Ahg),(49,Aol),(107,AgD),(95,AoJ),(166,Ahd),(165,Ahc),(28,Aod),(39,Aog),(104,AgC),(172,Ahi),(17,An8),(63,Aot),(65,Aov),(67,Aox),(147,Ag2),(205,AhD),(144,AgZ),(203,AhB),(204,AhC),(237,AhM),(222,AhF),(238,AhN),(239,AhO),(240,AhP),(241,AhQ),(242,AhR),(143,AgY),(66,Aow),(146,Ag1),(161,Aha),(23,An9),(79,Aoz),(173,Ahj),(174,Ahk),(92,AoG),(94,AoI),(93,AoH),(57,Aoo),(47,Aok),(117,AgI),(176,Ahl),(177,Ahm),(227,AhI),(36,Aof),(101,Agz),(30,Aoe),(86,AoE),(103,AgB),(102,AgA),(171,Ahh),(96,AoK),(97,AoL),(60,Aoq),(133,AgP),(168,Ahe),(164,Ahb),(223,AhG),(226,AhH),(252,AhU),(258,AhV),(169,Ahf),(41,Aoh),(26,Aob),(25,Aoa),(83,AoB),(154,Ag5),(155,Ag6),(82,AoA),(156,Ag7),(85,AoD),(108,AgE),(43,Aoi),(113,AgG),(59,Aop),(132,AgO),(193,Ahr),(194,Ahs),(112,AgF),(45,Aoj),(115,AgH),(61,Aor),(134,AgQ),(195,Aht),(91,AoF),(56,Aon),(128,AgM),(149,Ag4),(129,AgN),(186,Ahp),(187,Ahq)]
