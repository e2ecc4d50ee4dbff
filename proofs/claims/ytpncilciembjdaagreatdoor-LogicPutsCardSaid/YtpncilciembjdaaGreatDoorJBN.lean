/- term.Text's answers on w -/
import Derived.Test.YtpncilciembjdaaGreatDoorJBM
import Derived.Lib.AppendZeros
set_option linter.all false
open Bool renaming false->Ξ,true->U
open List renaming getElem?_map->AtG,length_map->Atm
open Nat renaming le_refl->η
namespace Go.Proofs.YtpncilciembjdaaGreatDoor
noncomputable section
open Lib renaming join->Avz
open Option.some renaming injEq->θ
open Tryz renaming prog->ζ
open Go.RowKit
theorem gAx(f:Nat):A1 (Bi ζ f) ((Dn Ah Vn 60).ask (.fn f)):=(Fa (Yr ⟨HT,M9,H8,trivial⟩) 60).1 f
def Ak8(f:Nat):DF:=(Dn Ah Vn 60).ask (.fn f)
theorem TB:A1 (Bi ζ 130) (CS (ML Ak8)):=YQ Ak8 gAx
set_option maxRecDepth 100000 in
set_option maxHeartbeats 4000000 in
theorem XA(w:World)(n:Nat)(hby:n*64<=140737488355328) :
  Calls ζ 261 #[.slice none 0 0,.int .i64 n] w λe w'=>∃ v',e=.returned v'/\w'.ownsRow w.heap.size 30 4 v' 0 []/\Below w.heap.size w w':=by
 have y0:¬ (n:Int)<0:=by omega
 go_enter Tryz.func261,Tryz.ntmps261
 by_cases h0:n=0
 .subst h0
  go_wp2
  go_ret
  exact⟨_,rfl,World.ownsRow_nil _ _ _ _,Below.refl _ _⟩
 .have y1:(0:Int)<(n:Int):=by omega
  obtain⟨i0,hi0,hz0,hz1,hz2⟩:=info_parts (show (Tryz.prog.info? 30).map (λi=>(i.zero,i.size,i.bytes))=some (some (.agg #[.slice none 0 0,.bool Ξ,.slice none 0 0,.bool Ξ]),4,64) by kernel_rfl);have hr:=λty=>Lib.run_append_nil_zeros (P:=ζ) w 33 3 ty 30 i0 _ .i64 .i64 Tryz.underlying33 Tryz.underlying3 hi0 hz0 n (by omega) (by rw[hz1];decide) (by omega) (by rw[hz2];omega)
  have c1:=grownCap_ge w n 0 30;have c2:=grownCap_le_maxLen w n 0 30 (by unfold maxLen;omega);have HR:=Lib.hid hr;clear hr;generalize grownCap w n 0 30=cap at *
  go_wp2_with (at_builtin;refine Lib.wpList_append_run _ rfl _ _ _ _ rfl _ _ rfl rfl _ _ (HR.out _) ?_)
  go_wp2_with fail
  go_ret
  refine⟨_,rfl,⟨by simp,.inr ⟨w.heap.size,cap,_,rfl,η _,heap_alloc_new _ _,Nat.zero_le _,c2,?_,by simp⟩⟩,?_⟩
  .rw[Array.size_append,size_zeroCells,size_zeroCells]
   show n*4+(cap-n)*4=cap*4
   omega
  .exact(M2 (Below.refl _ _)).alloc (η _) _
theorem Sb:A1 (Bi ζ 261) (DS 4 (Dy 64)):=by
 refine H7 (Ci _ _) 4 _ λargs n cells hr=>?_
 unfold Dy at hr;split at hr
 .rename_i k
  split at hr
  .rename_i hk
   simp only[θ,Prod.mk.injEq]at hr;obtain⟨rfl,rfl⟩:=hr;refine⟨rfl,rfl,λμ F w us hF hus=>?_⟩;obtain⟨u,t,rfl,hu,u2,t2,rfl,hu2,ht⟩:=hus;have ht:t2=[]:=ht;subst ht;unfold Rep at hu hu2;rw[hu.1,hu2.1];refine Calls.mono (XA w k (Nat.le_of_ble_eq_true hk)) ?_;rintro e' w' ⟨v',rfl,ho,hb⟩;exact⟨v',rfl,_,[],ho,hb,rfl⟩
  .cases hr
 .cases hr
def Ty:Rw->Option (List (List UInt8))
 |[]=>some []
 |[.v (.string s)]::r=>(match Ty r with
  |some l=>some (s.data.toList::l)
  |none=>none)
 |_::_=>none
theorem Ov:∀{xs:Rw} {l:List (List UInt8)},Ty xs=some l->xs=l.map λt=>[sv (CP t)]
 |[],l,h=>by injection h with h;subst h;rfl
 |x::r,l,h=>by
  unfold Ty at h;split at h
  .rename_i e;cases e
  .rename_i s r' e
   cases hr:Ty r' with
   |none=>rw[hr]at h;cases h
   |some l'=>
    rw[hr]at h;injection h with h
    injection e with e1 e2
    subst h e1 e2;rw[Ov hr];rfl
  .cases h
def QU:Aa->Option AV
 |[.ls xs,.v (.string sep)]=>(match Ty xs with
  |some ts=>(match Nat.ble ts.length 140737488355328&&Nat.ble (Avz ts sep.data.toList).length 140737488355328 with
   |true=>some (sv (CP (Avz ts sep.data.toList)))
   |false=>none)
  |none=>none)
 |_=>none
theorem XI:A1 (Bi ζ 167) (CS QU):=by
 refine Sa (Ci _ _) _ λargs r hr μ F w us hus=>?_
 unfold QU at hr;split at hr
 .rename_i xs sep
  split at hr
  .rename_i ts ht
   split at hr
   .rename_i hc
    injection hr with hr
    subst hr;simp only[Bool.and_eq_true,Nat.ble_eq]at hc;simp only[RepList]at hus;obtain⟨u,ul,rfl,hu,u2,ul2,rfl,hu2,rfl⟩:=hus;simp only[Rep]at hu hu2;obtain⟨rfl,_⟩:=hu2;obtain⟨_,A,c,rfl,h2,h3,h4⟩:=hu;have hx:=Ov ht;have fin:∀ w',Below w.heap.size w w'->Rep μ (Aby F w w') w' (sv (CP (Avz ts sep.data.toList))) (.string ⟨(Avz ts sep.data.toList).toArray⟩):=λw' hb=>by
     unfold sv CP;simp only[Rep];exact⟨trivial,rfl⟩
    cases ts with
    |nil=>
     subst hx;refine Calls.mono (Tryz.strings_Join_none A c sep w) ?_;rintro e w' ⟨rfl,rfl⟩;exact⟨_,rfl,Below.refl _ _,fin _ (Below.refl _ _)⟩
    |cons t ts=>
     obtain⟨g,o,e,rfl,hr⟩:=h4 (by rw[hx];simp);have he:e=1:=by
      have:=(hr.get (i:=0) (x:=[sv (CP t)]) (by rw[hx];rfl)).1;simpa using this.symm
     subst he;have hl:xs.length=((t::ts).map CP).length:=by rw[hx,Atm,Atm]
     have hcell:∀(j:Nat) x,((t::ts).map CP)[j]? = some x->w.cell? ⟨g,o+j,none⟩=some (.string x):=λj x hj=>by
      rw[AtG]at hj;obtain⟨s,hs,rfl⟩:=Option.map_eq_some_iff.1 hj;have hg:=hr.get (i:=j) (x:=[sv (CP s)]) (by rw[hx,AtG,hs];rfl);obtain⟨_,v,h5,h6⟩:=hg.2.get (i:=0) (x:=sv (CP s)) rfl;unfold sv at h6;simp only[Rep]at h6;rw[h6.1]at h5;rw[Nat.mul_one,Nat.add_zero]at h5;exact h5
     have hm:(((t::ts).map CP).map (·.data.toList))=t::ts:=by
      rw[List.map_map];exact List.map_id' _ |>.symm▸(List.map_congr_left λx _=>by simp[CP])
     have hj:=Tryz.strings_Join g o c ((t::ts).map CP) sep w hcell (C7 (hcell 0 (CP t) rfl)) (by rw[Atm];exact hc.1) (by rw[←hl];exact h2) (by rw[hm];exact hc.2);rw[hm,←hl]at hj;refine Calls.mono hj ?_;rintro e w' ⟨rfl,hb⟩;exact⟨_,rfl,hb,fin _ hb⟩
   .cases hr
  .cases hr
 .cases hr
def Apn:List (Nat × Nat):=[(136,0),(196,0),(234,0),(235,0),(265,0),(275,0),(140,0),(199,0),(262,0),(264,0),(62,0),(67,0),(135,0),(261,0),(168,0),(226,0),(252,0),(169,0)]
def AlU:MFn:=AE [] 54
def Aeu:MFn:=AE [] 126
def Ae7:MFn:=AE [] 184
def Afk:MFn:=AE [] 202
def Afi:MFn:=AE [⟨21,(mB 9),[],[],[(1,((mB 9),([],[])))]⟩] 200
def AeK:MFn:=AE [] 145
def Aet:MFn:=AE [] 125
def AeD:MFn:=AE [] 138
def Aev:MFn:=AE [] 127
def Al6:MFn:=AE [] 68
def AeN:MFn:=AE [⟨35,(mB 114744),[],[],[(1,((mB 48),([],[])))]⟩] 148
def AeT:MFn:=AE [] 158
def Afo:MFn:=AE [] 212
def AfC:MFn:=AE [⟨68,(mB 1835042),[],[],[(1,((mB 32),([],[])))]⟩,⟨68,(mB 236716514),[],[],[(3,((mB 1835362),([],[])))]⟩] 243
def AfD:MFn:=AE [] 244
def AfH:MFn:=AE [] 266
def Aff:MFn:=AE [⟨61,(mB 234881122),[],[],[(1,((mB 96),([],[])))]⟩] 197
def Afg:MFn:=AE [⟨59,(mB 58720450),[],[],[(1,((mB 64),([],[])))]⟩] 198
def Afj:MFn:=AE [⟨49,(mB 35),[],[],[(0,((mB 16),([],[]))),(2,([],([],[])))]⟩] 201
def AfI:MFn:=AE [] 267
def Al0:MFn:=JP ζ Bn [⟨74,(mB 917524),[],[],[(1,((mB 20),([],[1000000])))]⟩] U Ξ 62
def AeB:MFn:=AE [] 136
def Afe:MFn:=AE [⟨63,(mB 455),[],[],[(1,((mB 199),([],[1000000])))]⟩,⟨63,(mB 71),[],[],[(3,([],([],[1000000])))]⟩,⟨63,(mB 455),[],[],[(5,((mB 199),([],[1000000])))]⟩] 196
def Afu:MFn:=AE [⟨53,(mB 271),[],[],[(1,([],([],[1000000])))]⟩,⟨53,(mB 783),[],[],[(3,((mB 271),([],[1000000])))]⟩] 234
def Afv:MFn:=AE [⟨220,(mB 3091),[],[],[(1,((mB 1027),([],[1000000])))]⟩,⟨220,(mB 9217),[],[],[(3,([],([],[1000000])))]⟩,⟨220,(mB 49173),[],[],[(5,((mB 16389),([],[1000000])))]⟩,⟨220,(mB 147457),[],[],[(7,([],([],[1000000])))]⟩,⟨220,(mB 8126495),[],[],[(9,((mB 1835039),([],[1000000])))]⟩] 235
def AfG:MFn:=AE [⟨58,(mB 3093),[],[],[(1,((mB 1045),([],[1000000])))]⟩] 265
def AfJ:MFn:=AE [⟨38,(mB 1039),[],[],[(1,([],([],[1000000])))]⟩] 275
def AeC:MFn:=AE [] 137
def Ama:MFn:=AE [] 84
def AeS:MFn:=AE [] 157
def AeE:MFn:=AE [] 139
def AeF:MFn:=JP ζ Bn [⟨42,(mB 99),[],[],[(1,((mB 33),([],[1000000])))]⟩] U Ξ 140
def Afh:MFn:=AE [⟨19,(mB 387),[],[],[(0,((mB 16),([],[1000000]))),(1,([],([],[1000000])))]⟩] 199
def AeG:MFn:=AE [] 141
def Al2:MFn:=AE [] 64
def AeH:MFn:=AE [] 142
def Ae8:MFn:=AE [] 185
def Aft:MFn:=AE [⟨36,(mB 3593),[],[],[(1,((mB 9),([],[])))]⟩,⟨36,(mB 234881088),[],[],[(3,((mB 64),([],[])))]⟩] 230
def AlK:MFn:=AE [] 27
def Amk:MFn:=AE [] 98
def Ae0:MFn:=AE [] 170
def AlT:MFn:=AE [] 49
def Aen:MFn:=AE [] 107
def Amh:MFn:=AE [] 95
def AeX:MFn:=AE [] 166
def AeW:MFn:=AE [⟨19,(mB 456),[],[],[(1,((mB 8),([],[])))]⟩] 165
def AlL:MFn:=AE [] 28
def AlO:MFn:=AE [] 39
def Aem:MFn:=AE [⟨69,(mB 234881072),[],[],[(2,((mB 48),([],[])))]⟩] 104
def Ae2:MFn:=AE [] 172
def AlG:MFn:=AE [] 17
def Al1:MFn:=AE [] 63
def Al3:MFn:=AE [⟨49,(mB 1835068),[],[],[(1,((mB 60),([],[])))]⟩] 65
def Al5:MFn:=AE [⟨21,(mB 3596),[],[],[(1,((mB 12),([],[1000000])))]⟩] 67
def AeM:MFn:=AE [] 147
def Afn:MFn:=AE [⟨25,[U,U],[],[],[(1,([U],([],[])))]⟩] 205
def AeJ:MFn:=AE [] 144
def Afl:MFn:=AE [⟨44,(mB 451),[],[],[(1,((mB 192),([],[])))]⟩] 203
def Afm:MFn:=AE [⟨96,(mB 14544),[],[],[(1,((mB 6224),([],[])))]⟩] 204
def Afw:MFn:=AE [] 237
def Afp:MFn:=AE [] 222
def Afx:MFn:=AE [⟨58,(mB 30064771968),[],[],[(2,((mB 768),([],[])))]⟩] 238
def Afy:MFn:=AE [⟨67,(mB 931),[],[],[(1,((mB 256),([],[])))]⟩] 239
def Afz:MFn:=AE [⟨74,(mB 917895),[],[],[(1,((mB 387),([],[])))]⟩] 240
def AfA:MFn:=AE [⟨42,(mB 1811),[],[],[(1,((mB 19),([],[])))]⟩] 241
def AfB:MFn:=AE [⟨61,(mB 449),[],[],[(1,((mB 128),([],[])))]⟩] 242
def AeI:MFn:=AE [] 143
def Al4:MFn:=AE [] 66
def AeL:MFn:=AE [] 146
def AeU:MFn:=AE [] 161
def AlH:MFn:=AE [] 23
def Al7:MFn:=AE [] 79
def Ae3:MFn:=AE [⟨68,(mB 1841),[],[],[(0,((mB 16),([],[]))),(1,((mB 49),([],[])))]⟩] 173
def Ae4:MFn:=AE [⟨22,(mB 1826),[],[],[(1,((mB 32),([],[])))]⟩] 174
def Ame:MFn:=AE [] 92
def Amg:MFn:=AE [] 94
def Amf:MFn:=AE [⟨50,(mB 3622),[],[],[(1,((mB 38),([],[])))]⟩] 93
def AlW:MFn:=AE [] 57
def AlS:MFn:=AE [⟨41,(mB 58720512),[],[],[(1,((mB 256),([],[])))]⟩] 47
def Aes:MFn:=AE [] 117
def Ae5:MFn:=AE [⟨39,(mB 14402),[],[],[(0,((mB 48),([],[]))),(1,((mB 64),([],[])))]⟩] 176
def Ae6:MFn:=AE [⟨69,(mB 917570),[],[],[(0,((mB 48),([],[]))),(1,((mB 64),([],[])))]⟩,⟨69,(mB 246290605541890),[],[],[(3,((mB 919554),([],[])))]⟩,⟨69,(mB 16008889301346818),[],[],[(5,((mB 246290605541890),([],[])))]⟩] 177
def Afs:MFn:=AE [⟨36,(mB 3593),[],[],[(1,((mB 9),([],[])))]⟩,⟨36,(mB 234881088),[],[],[(3,((mB 64),([],[])))]⟩] 227
def AlN:MFn:=AE [] 36
def Aej:MFn:=AE [] 101
def AlM:MFn:=AE [] 30
def Amc:MFn:=AE [⟨40,(mB 28722),[],[],[(1,((mB 48),([],[])))]⟩] 86
def Ael:MFn:=AE [] 103
def Aek:MFn:=AE [] 102
def Ae1:MFn:=AE [⟨19,(mB 387),[],[],[(0,((mB 16),([],[]))),(1,([],([],[])))]⟩] 171
def Ami:MFn:=AE [⟨19,(mB 904),[],[],[(1,((mB 8),([],[])))]⟩] 96
def Amj:MFn:=AE [⟨28,(mB 57352),[],[],[(1,((mB 8),([],[])))]⟩] 97
def AlY:MFn:=AE [] 60
def Aez:MFn:=AE [⟨21,(mB 1800),[],[],[(1,((mB 8),([],[])))]⟩] 133
def AeY:MFn:=AE [] 168
def AeV:MFn:=AE [] 164
def Afq:MFn:=AE [] 223
def Afr:MFn:=AE [⟨134,(mB 783),[],[],[(0,([],([],[1000000])))]⟩] 226
def AfE:MFn:=AE [⟨49,(mB 71),[],[],[(1,([],([],[1000000])))]⟩,⟨49,(mB 199),[],[],[(3,((mB 71),([],[1000000])))]⟩] 252
def AfF:MFn:=AE [] 258
def AeZ:MFn:=JP ζ Bn [⟨61,(mB 9),[],[],[(0,([Ξ,Ξ,U],([],[1000000]))),(1,([U],([],[1000000])))]⟩,⟨61,(mB 57),[],[],[(3,((mB 9),([],[1000000])))]⟩] U Ξ 169
def AlP:MFn:=AE [] 41
def AlJ:MFn:=AE [] 26
def AlI:MFn:=AE [] 25
def Al9:MFn:=AE [] 83
def AeP:MFn:=AE [] 154
def AeQ:MFn:=AE [] 155
def Al8:MFn:=AE [⟨18,(mB 456),[],[],[(0,([Ξ,Ξ,U],([],[]))),(1,((mB 8),([],[])))]⟩] 82
def AeR:MFn:=AE [⟨39,(mB 14343),[],[],[(0,((mB 64),([],[]))),(1,([U,U],([],[])))]⟩] 156
def Amb:MFn:=AE [] 85
def Aeo:MFn:=AE [⟨32,(mB 229382),[],[],[(0,((mB 64),([],[]))),(1,([],([],[])))]⟩] 108
def AlQ:MFn:=AE [] 43
def Aeq:MFn:=AE [] 113
def AlX:MFn:=AE [] 59
def Aey:MFn:=AE [⟨53,(mB 458950),[],[],[(1,((mB 192),([],[])))]⟩] 132
def Afb:MFn:=AE [⟨19,(mB 387),[],[],[(0,((mB 16),([],[]))),(1,([],([],[])))]⟩] 193
def Afc:MFn:=AE [] 194
def Aep:MFn:=AE [⟨35,(mB 3670066),[],[],[(1,((mB 48),([],[])))]⟩] 112
def AlR:MFn:=AE [] 45
def Aer:MFn:=AE [] 115
def AlZ:MFn:=AE [] 61
def AeA:MFn:=AE [⟨36,(mB 1572920),[],[],[(1,((mB 48),([],[])))]⟩] 134
def Afd:MFn:=AE [] 195
def Amd:MFn:=AE [⟨31,(mB 14384),[],[],[(1,((mB 48),([],[])))]⟩] 91
def AlV:MFn:=AE [] 56
def Aew:MFn:=AE [] 128
def AeO:MFn:=AE [⟨37,(mB 25),[],[],[(1,((mB 8),([],[])))]⟩,⟨37,(mB 8),[],[],[(3,((mB 8),([],[])))]⟩] 149
def Aex:MFn:=AE [⟨36,(mB 227),[],[],[(1,((mB 32),([],[])))]⟩] 129
def Ae9:MFn:=AE [] 186
def Afa:MFn:=AE [] 187
def ApL:List (Nat × MFn):=[(54,AlU),(126,Aeu),(184,Ae7),(202,Afk),(200,Afi),(145,AeK),(125,Aet),(138,AeD),(127,Aev),(68,Al6),(148,AeN),(158,AeT),(212,Afo),(243,AfC),(244,AfD),(266,AfH),(197,Aff),(198,Afg),(201,Afj),(267,AfI),(62,Al0),(136,AeB),(196,Afe),(234,Afu),(235,Afv),(265,AfG),(275,AfJ),(137,AeC),(84,Ama),(157,AeS),(139,AeE),(140,AeF),(199,Afh),(141,AeG),(64,Al2),(142,AeH),(185,Ae8),(230,Aft),(27,AlK),(98,Amk),(170,Ae0),(49,AlT),(107,Aen),(95,Amh),(166,AeX),(165,AeW),(28,AlL),(39,AlO),(104,Aem),(172,Ae2),(17,AlG),(63,Al1),(65,Al3),(67,Al5),(147,AeM),(205,Afn),(144,AeJ),(203,Afl),(204,Afm),(237,Afw),(222,Afp),(238,Afx),(239,Afy),(240,Afz),(241,AfA),(242,AfB),(143,AeI),(66,Al4),(146,AeL),(161,AeU),(23,AlH),(79,Al7),(173,Ae3),(174,Ae4),(92,Ame),(94,Amg),(93,Amf),(57,AlW),(47,AlS),(117,Aes),(176,Ae5),(177,Ae6),(227,Afs),(36,AlN),(101,Aej),(30,AlM),(86,Amc),(103,Ael),(102,Aek),(171,Ae1),(96,Ami),(97,Amj),(60,AlY),(133,Aez),(168,AeY),(164,AeV),(223,Afq),(226,Afr),(252,AfE),(258,AfF),(169,AeZ),(41,AlP),(26,AlJ),(25,AlI),(83,Al9),(154,AeP),(155,AeQ),(82,Al8),(156,AeR),(85,Amb),(108,Aeo),(43,AlQ),(113,Aeq),(59,AlX),(132,Aey),(193,Afb),(194,Afc),(112,Aep),(45,AlR),(115,Aer),(61,AlZ),(134,AeA),(195,Afd),(91,Amd),(56,AlV),(128,Aew),(149,AeO),(129,Aex),(186,Ae9),(187,Afa)]
