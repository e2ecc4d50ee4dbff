/- term.Text's answers on w -/
import Derived.Test.YtpncilciembjdaaGreatDoorGBI
import Derived.Lib.AppendZeros
set_option linter.all false
open Bool renaming false->Ξ,true->U
open List renaming getElem?_map->AqD,length_map->Aqy
open Nat renaming le_refl->ω
namespace Go.Proofs.YtpncilciembjdaaGreatDoor
noncomputable section
open Lib renaming join->AsN
open Option.some renaming injEq->Ψ
open Tryz renaming prog->η
open Go.RowKit
theorem gAx(f:Nat):AN (AT η f) ((Dn Ah UF 60).ask (.fn f)):=(FZ (Xs ⟨HI,MJ,HT,trivial⟩) 60).1 f
def Ai8(f:Nat):DF:=(Dn Ah UF 60).ask (.fn f)
theorem S3:AN (AT η 130) (CA (Mn Ai8)):=XL Ai8 gAx
set_option maxRecDepth 100000 in
set_option maxHeartbeats 4000000 in
theorem WF(w:World)(n:Nat)(hby:n*64<=140737488355328) :
  Calls η 261 #[.slice none 0 0,.int .i64 n] w λe w'=>∃ v',e=.returned v'/\w'.ownsRow w.heap.size 30 4 v' 0 []/\Below w.heap.size w w':=by
 have y0:¬ (n:Int)<0:=by omega
 go_enter Tryz.func261,Tryz.ntmps261
 by_cases h0:n=0
 .subst h0
  go_wp2
  go_ret
  exact⟨_,rfl,World.ownsRow_nil _ _ _ _,Below.refl _ _⟩
 .have y1:(0:Int)<(n:Int):=by omega
  obtain⟨i0,hi0,hz0,hz1,hz2⟩:=info_parts (show (Tryz.prog.info? 30).map (λi=>(i.zero,i.size,i.bytes))=some (some (.agg #[.slice none 0 0,.bool Ξ,.slice none 0 0,.bool Ξ]),4,64) by kernel_rfl);have hr:=λty=>Lib.run_append_nil_zeros (P:=η) w 33 3 ty 30 i0 _ .i64 .i64 Tryz.underlying33 Tryz.underlying3 hi0 hz0 n (by omega) (by rw[hz1];decide) (by omega) (by rw[hz2];omega)
  have c1:=grownCap_ge w n 0 30;have c2:=grownCap_le_maxLen w n 0 30 (by unfold maxLen;omega);have HR:=Lib.hid hr;clear hr;generalize grownCap w n 0 30=cap at *
  go_wp2_with (at_builtin;refine Lib.wpList_append_run _ rfl _ _ _ _ rfl _ _ rfl rfl _ _ (HR.out _) ?_)
  go_wp2_with fail
  go_ret
  refine⟨_,rfl,⟨by simp,.inr ⟨w.heap.size,cap,_,rfl,ω _,heap_alloc_new _ _,Nat.zero_le _,c2,?_,by simp⟩⟩,?_⟩
  .rw[Array.size_append,size_zeroCells,size_zeroCells]
   show n*4+(cap-n)*4=cap*4
   omega
  .exact(MB (Below.refl _ _)).alloc (ω _) _
theorem RQ:AN (AT η 261) (Dy 4 (C9 64)):=by
 refine HQ (B8 _ _) 4 _ λargs n cells hr=>?_
 unfold C9 at hr;split at hr
 .rename_i k
  split at hr
  .rename_i hk
   simp only[Ψ,Prod.mk.injEq]at hr;obtain⟨rfl,rfl⟩:=hr;refine⟨rfl,rfl,λμ F w us hF hus=>?_⟩;obtain⟨u,t,rfl,hu,u2,t2,rfl,hu2,ht⟩:=hus;have ht:t2=[]:=ht;subst ht;unfold Rep at hu hu2;rw[hu.1,hu2.1];refine Calls.mono (WF w k (Nat.le_of_ble_eq_true hk)) ?_;rintro e' w' ⟨v',rfl,ho,hb⟩;exact⟨v',rfl,_,[],ho,hb,rfl⟩
  .cases hr
 .cases hr
def SW:List (List AV)->Option (List (List UInt8))
 |[]=>some []
 |[.v (.string s)]::r=>(match SW r with
  |some l=>some (s.data.toList::l)
  |none=>none)
 |_::_=>none
theorem NW:∀{xs:List (List AV)} {l:List (List UInt8)},SW xs=some l->xs=l.map λt=>[sv (Cw t)]
 |[],l,h=>by injection h with h;subst h;rfl
 |x::r,l,h=>by
  unfold SW at h;split at h
  .rename_i e;cases e
  .rename_i s r' e
   cases hr:SW r' with
   |none=>rw[hr]at h;cases h
   |some l'=>
    rw[hr]at h;injection h with h
    injection e with e1 e2
    subst h e1 e2;rw[NW hr];rfl
  .cases h
def Qy:List AV->Option AV
 |[.ls xs,.v (.string sep)]=>(match SW xs with
  |some ts=>(match Nat.ble ts.length 140737488355328&&Nat.ble (AsN ts sep.data.toList).length 140737488355328 with
   |true=>some (sv (Cw (AsN ts sep.data.toList)))
   |false=>none)
  |none=>none)
 |_=>none
theorem WQ:AN (AT η 167) (CA Qy):=by
 refine RO (B8 _ _) _ λargs r hr μ F w us hus=>?_
 unfold Qy at hr;split at hr
 .rename_i xs sep
  split at hr
  .rename_i ts ht
   split at hr
   .rename_i hc
    injection hr with hr
    subst hr;simp only[Bool.and_eq_true,Nat.ble_eq]at hc;simp only[RepList]at hus;obtain⟨u,ul,rfl,hu,u2,ul2,rfl,hu2,rfl⟩:=hus;simp only[Rep]at hu hu2;obtain⟨rfl,_⟩:=hu2;obtain⟨_,A,c,rfl,h2,h3,h4⟩:=hu;have hx:=NW ht;have fin:∀ w',Below w.heap.size w w'->Rep μ (Z7 F w w') w' (sv (Cw (AsN ts sep.data.toList))) (.string ⟨(AsN ts sep.data.toList).toArray⟩):=λw' hb=>by
     unfold sv Cw;simp only[Rep];exact⟨trivial,rfl⟩
    cases ts with
    |nil=>
     subst hx;refine Calls.mono (Tryz.strings_Join_none A c sep w) ?_;rintro e w' ⟨rfl,rfl⟩;exact⟨_,rfl,Below.refl _ _,fin _ (Below.refl _ _)⟩
    |cons t ts=>
     obtain⟨g,o,e,rfl,hr⟩:=h4 (by rw[hx];simp);have he:e=1:=by
      have:=(hr.get (i:=0) (x:=[sv (Cw t)]) (by rw[hx];rfl)).1;simpa using this.symm
     subst he;have hl:xs.length=((t::ts).map Cw).length:=by rw[hx,Aqy,Aqy]
     have hcell:∀(j:Nat) x,((t::ts).map Cw)[j]? = some x->w.cell? ⟨g,o+j,none⟩=some (.string x):=λj x hj=>by
      rw[AqD]at hj;obtain⟨s,hs,rfl⟩:=Option.map_eq_some_iff.1 hj;have hg:=hr.get (i:=j) (x:=[sv (Cw s)]) (by rw[hx,AqD,hs];rfl);obtain⟨_,v,h5,h6⟩:=hg.2.get (i:=0) (x:=sv (Cw s)) rfl;unfold sv at h6;simp only[Rep]at h6;rw[h6.1]at h5;rw[Nat.mul_one,Nat.add_zero]at h5;exact h5
     have hm:(((t::ts).map Cw).map (·.data.toList))=t::ts:=by
      rw[List.map_map];exact List.map_id' _ |>.symm▸(List.map_congr_left λx _=>by simp[Cw])
     have hj:=Tryz.strings_Join g o c ((t::ts).map Cw) sep w hcell (CL (hcell 0 (Cw t) rfl)) (by rw[Aqy];exact hc.1) (by rw[←hl];exact h2) (by rw[hm];exact hc.2);rw[hm,←hl]at hj;refine Calls.mono hj ?_;rintro e w' ⟨rfl,hb⟩;exact⟨_,rfl,hb,fin _ hb⟩
   .cases hr
  .cases hr
 .cases hr
def AmM:List (Nat × Nat):=[(136,0),(196,0),(234,0),(235,0),(265,0),(275,0),(140,0),(199,0),(262,0),(264,0),(62,0),(67,0),(135,0),(261,0),(168,0),(226,0),(252,0),(169,0)]
def AjV:MFn:=Au [] 54
def AcW:MFn:=Au [] 126
def AdA:MFn:=Au [] 184
def AdN:MFn:=Au [] 202
def AdL:MFn:=Au [⟨21,(mB 9),[],[],[(1,((mB 9),([],[])))]⟩] 200
def Adc:MFn:=Au [] 145
def AcV:MFn:=Au [] 125
def Ac5:MFn:=Au [] 138
def AcX:MFn:=Au [] 127
def Aj7:MFn:=Au [] 68
def Adg:MFn:=Au [⟨35,(mB 114744),[],[],[(1,((mB 48),([],[])))]⟩] 148
def Adm:MFn:=Au [] 158
def AdR:MFn:=Au [] 212
def Ad5:MFn:=Au [⟨68,(mB 1835042),[],[],[(1,((mB 32),([],[])))]⟩,⟨68,(mB 236716514),[],[],[(3,((mB 1835362),([],[])))]⟩] 243
def Ad6:MFn:=Au [] 244
def Aea:MFn:=Au [] 266
def AdI:MFn:=Au [⟨61,(mB 234881122),[],[],[(1,((mB 96),([],[])))]⟩] 197
def AdJ:MFn:=Au [⟨59,(mB 58720450),[],[],[(1,((mB 64),([],[])))]⟩] 198
def AdM:MFn:=Au [⟨49,(mB 35),[],[],[(0,((mB 16),([],[]))),(2,([],([],[])))]⟩] 201
def Aeb:MFn:=Au [] 267
def Aj1:MFn:=LA η Bt [⟨74,(mB 917524),[],[],[(1,((mB 20),([],[1000000])))]⟩] U Ξ 62
def Ac3:MFn:=Au [] 136
def AdH:MFn:=Au [⟨63,(mB 455),[],[],[(1,((mB 199),([],[1000000])))]⟩,⟨63,(mB 71),[],[],[(3,([],([],[1000000])))]⟩,⟨63,(mB 455),[],[],[(5,((mB 199),([],[1000000])))]⟩] 196
def AdX:MFn:=Au [⟨53,(mB 271),[],[],[(1,([],([],[1000000])))]⟩,⟨53,(mB 783),[],[],[(3,((mB 271),([],[1000000])))]⟩] 234
def AdY:MFn:=Au [⟨220,(mB 3091),[],[],[(1,((mB 1027),([],[1000000])))]⟩,⟨220,(mB 9217),[],[],[(3,([],([],[1000000])))]⟩,⟨220,(mB 49173),[],[],[(5,((mB 16389),([],[1000000])))]⟩,⟨220,(mB 147457),[],[],[(7,([],([],[1000000])))]⟩,⟨220,(mB 8126495),[],[],[(9,((mB 1835039),([],[1000000])))]⟩] 235
def Ad9:MFn:=Au [⟨58,(mB 3093),[],[],[(1,((mB 1045),([],[1000000])))]⟩] 265
def Aec:MFn:=Au [⟨38,(mB 1039),[],[],[(1,([],([],[1000000])))]⟩] 275
def Ac4:MFn:=Au [] 137
def Akb:MFn:=Au [] 84
def Adl:MFn:=Au [] 157
def Ac6:MFn:=Au [] 139
def Ac7:MFn:=LA η Bt [⟨42,(mB 99),[],[],[(1,((mB 33),([],[1000000])))]⟩] U Ξ 140
def AdK:MFn:=Au [⟨19,(mB 387),[],[],[(0,((mB 16),([],[1000000]))),(1,([],([],[1000000])))]⟩] 199
def Ac8:MFn:=Au [] 141
def Aj3:MFn:=Au [] 64
def Ac9:MFn:=Au [] 142
def AdB:MFn:=Au [] 185
def AdW:MFn:=Au [⟨36,(mB 3593),[],[],[(1,((mB 9),([],[])))]⟩,⟨36,(mB 234881088),[],[],[(3,((mB 64),([],[])))]⟩] 230
def AjL:MFn:=Au [] 27
def Akl:MFn:=Au [] 98
def Adt:MFn:=Au [] 170
def AjU:MFn:=Au [] 49
def AcP:MFn:=Au [] 107
def Aki:MFn:=Au [] 95
def Adq:MFn:=Au [] 166
def Adp:MFn:=Au [⟨19,(mB 456),[],[],[(1,((mB 8),([],[])))]⟩] 165
def AjM:MFn:=Au [] 28
def AjP:MFn:=Au [] 39
def AcO:MFn:=Au [⟨69,(mB 234881072),[],[],[(2,((mB 48),([],[])))]⟩] 104
def Adv:MFn:=Au [] 172
def AjH:MFn:=Au [] 17
def Aj2:MFn:=Au [] 63
def Aj4:MFn:=Au [⟨49,(mB 1835068),[],[],[(1,((mB 60),([],[])))]⟩] 65
def Aj6:MFn:=Au [⟨21,(mB 3596),[],[],[(1,((mB 12),([],[1000000])))]⟩] 67
def Adf:MFn:=Au [] 147
def AdQ:MFn:=Au [⟨25,[U,U],[],[],[(1,([U],([],[])))]⟩] 205
def Adb:MFn:=Au [] 144
def AdO:MFn:=Au [⟨44,(mB 451),[],[],[(1,((mB 192),([],[])))]⟩] 203
def AdP:MFn:=Au [⟨96,(mB 14544),[],[],[(1,((mB 6224),([],[])))]⟩] 204
def AdZ:MFn:=Au [] 237
def AdS:MFn:=Au [] 222
def Ad0:MFn:=Au [⟨58,(mB 30064771968),[],[],[(2,((mB 768),([],[])))]⟩] 238
def Ad1:MFn:=Au [⟨67,(mB 931),[],[],[(1,((mB 256),([],[])))]⟩] 239
def Ad2:MFn:=Au [⟨74,(mB 917895),[],[],[(1,((mB 387),([],[])))]⟩] 240
def Ad3:MFn:=Au [⟨42,(mB 1811),[],[],[(1,((mB 19),([],[])))]⟩] 241
def Ad4:MFn:=Au [⟨61,(mB 449),[],[],[(1,((mB 128),([],[])))]⟩] 242
def Ada:MFn:=Au [] 143
def Aj5:MFn:=Au [] 66
def Ade:MFn:=Au [] 146
def Adn:MFn:=Au [] 161
def AjI:MFn:=Au [] 23
def Aj8:MFn:=Au [] 79
def Adw:MFn:=Au [⟨68,(mB 1841),[],[],[(0,((mB 16),([],[]))),(1,((mB 49),([],[])))]⟩] 173
def Adx:MFn:=Au [⟨22,(mB 1826),[],[],[(1,((mB 32),([],[])))]⟩] 174
def Akf:MFn:=Au [] 92
def Akh:MFn:=Au [] 94
def Akg:MFn:=Au [⟨50,(mB 3622),[],[],[(1,((mB 38),([],[])))]⟩] 93
def AjX:MFn:=Au [] 57
def AjT:MFn:=Au [⟨41,(mB 58720512),[],[],[(1,((mB 256),([],[])))]⟩] 47
def AcU:MFn:=Au [] 117
def Ady:MFn:=Au [⟨39,(mB 14402),[],[],[(0,((mB 48),([],[]))),(1,((mB 64),([],[])))]⟩] 176
def Adz:MFn:=Au [⟨69,(mB 917570),[],[],[(0,((mB 48),([],[]))),(1,((mB 64),([],[])))]⟩,⟨69,(mB 246290605541890),[],[],[(3,((mB 919554),([],[])))]⟩,⟨69,(mB 16008889301346818),[],[],[(5,((mB 246290605541890),([],[])))]⟩] 177
def AdV:MFn:=Au [⟨36,(mB 3593),[],[],[(1,((mB 9),([],[])))]⟩,⟨36,(mB 234881088),[],[],[(3,((mB 64),([],[])))]⟩] 227
def AjO:MFn:=Au [] 36
def AcL:MFn:=Au [] 101
def AjN:MFn:=Au [] 30
def Akd:MFn:=Au [⟨40,(mB 28722),[],[],[(1,((mB 48),([],[])))]⟩] 86
def AcN:MFn:=Au [] 103
def AcM:MFn:=Au [] 102
def Adu:MFn:=Au [⟨19,(mB 387),[],[],[(0,((mB 16),([],[]))),(1,([],([],[])))]⟩] 171
def Akj:MFn:=Au [⟨19,(mB 904),[],[],[(1,((mB 8),([],[])))]⟩] 96
def Akk:MFn:=Au [⟨28,(mB 57352),[],[],[(1,((mB 8),([],[])))]⟩] 97
def AjZ:MFn:=Au [] 60
def Ac1:MFn:=Au [⟨21,(mB 1800),[],[],[(1,((mB 8),([],[])))]⟩] 133
def Adr:MFn:=Au [] 168
def Ado:MFn:=Au [] 164
def AdT:MFn:=Au [] 223
def AdU:MFn:=Au [⟨134,(mB 783),[],[],[(0,([],([],[1000000])))]⟩] 226
def Ad7:MFn:=Au [⟨49,(mB 71),[],[],[(1,([],([],[1000000])))]⟩,⟨49,(mB 199),[],[],[(3,((mB 71),([],[1000000])))]⟩] 252
def Ad8:MFn:=Au [] 258
def Ads:MFn:=LA η Bt [⟨61,(mB 9),[],[],[(0,([Ξ,Ξ,U],([],[1000000]))),(1,([U],([],[1000000])))]⟩,⟨61,(mB 57),[],[],[(3,((mB 9),([],[1000000])))]⟩] U Ξ 169
def AjQ:MFn:=Au [] 41
def AjK:MFn:=Au [] 26
def AjJ:MFn:=Au [] 25
def Aka:MFn:=Au [] 83
def Adi:MFn:=Au [] 154
def Adj:MFn:=Au [] 155
def Aj9:MFn:=Au [⟨18,(mB 456),[],[],[(0,([Ξ,Ξ,U],([],[]))),(1,((mB 8),([],[])))]⟩] 82
def Adk:MFn:=Au [⟨39,(mB 14343),[],[],[(0,((mB 64),([],[]))),(1,([U,U],([],[])))]⟩] 156
def Akc:MFn:=Au [] 85
def AcQ:MFn:=Au [⟨32,(mB 229382),[],[],[(0,((mB 64),([],[]))),(1,([],([],[])))]⟩] 108
def AjR:MFn:=Au [] 43
def AcS:MFn:=Au [] 113
def AjY:MFn:=Au [] 59
def Ac0:MFn:=Au [⟨53,(mB 458950),[],[],[(1,((mB 192),([],[])))]⟩] 132
def AdE:MFn:=Au [⟨19,(mB 387),[],[],[(0,((mB 16),([],[]))),(1,([],([],[])))]⟩] 193
def AdF:MFn:=Au [] 194
def AcR:MFn:=Au [⟨35,(mB 3670066),[],[],[(1,((mB 48),([],[])))]⟩] 112
def AjS:MFn:=Au [] 45
def AcT:MFn:=Au [] 115
def Aj0:MFn:=Au [] 61
def Ac2:MFn:=Au [⟨36,(mB 1572920),[],[],[(1,((mB 48),([],[])))]⟩] 134
def AdG:MFn:=Au [] 195
def Ake:MFn:=Au [⟨31,(mB 14384),[],[],[(1,((mB 48),([],[])))]⟩] 91
def AjW:MFn:=Au [] 56
def AcY:MFn:=Au [] 128
def Adh:MFn:=Au [⟨37,(mB 25),[],[],[(1,((mB 8),([],[])))]⟩,⟨37,(mB 8),[],[],[(3,((mB 8),([],[])))]⟩] 149
def AcZ:MFn:=Au [⟨36,(mB 227),[],[],[(1,((mB 32),([],[])))]⟩] 129
def AdC:MFn:=Au [] 186
def AdD:MFn:=Au [] 187
def Am5:List (Nat × MFn):=[(54,AjV),(126,AcW),(184,AdA),(202,AdN),(200,AdL),(145,Adc),(125,AcV),(138,Ac5),(127,AcX),(68,Aj7),(148,Adg),(158,Adm),(212,AdR),(243,Ad5),(244,Ad6),(266,Aea),(197,AdI),(198,AdJ),(201,AdM),(267,Aeb),(62,Aj1),(136,Ac3),(196,AdH),(234,AdX),(235,AdY),(265,Ad9),(275,Aec),(137,Ac4),(84,Akb),(157,Adl),(139,Ac6),(140,Ac7),(199,AdK),(141,Ac8),(64,Aj3),(142,Ac9),(185,AdB),(230,AdW),(27,AjL),(98,Akl),(170,Adt),(49,AjU),(107,AcP),(95,Aki),(166,Adq),(165,Adp),(28,AjM),(39,AjP),(104,AcO),(172,Adv),(17,AjH),(63,Aj2),(65,Aj4),(67,Aj6),(147,Adf),(205,AdQ),(144,Adb),(203,AdO),(204,AdP),(237,AdZ),(222,AdS),(238,Ad0),(239,Ad1),(240,Ad2),(241,Ad3),(242,Ad4),(143,Ada),(66,Aj5),(146,Ade),(161,Adn),(23,AjI),(79,Aj8),(173,Adw),(174,Adx),(92,Akf),(94,Akh),(93,Akg),(57,AjX),(47,AjT),(117,AcU),(176,Ady),(177,Adz),(227,AdV),(36,AjO),(101,AcL),(30,AjN),(86,Akd),(103,AcN),(102,AcM),(171,Adu),(96,Akj),(97,Akk),(60,AjZ),(133,Ac1),(168,Adr),(164,Ado),(223,AdT),(226,AdU),(252,Ad7),(258,Ad8),(169,Ads),(41,AjQ),(26,AjK),(25,AjJ),(83,Aka),(154,Adi),(155,Adj),(82,Aj9),(156,Adk),(85,Akc),(108,AcQ),(43,AjR),(113,AcS),(59,AjY),(132,Ac0),(193,AdE),(194,AdF),(112,AcR),(45,AjS),(115,AcT),(61,Aj0),(134,Ac2),(195,AdG),(91,Ake),(56,AjW),(128,AcY),(149,Adh),(129,AcZ),(186,AdC),(187,AdD)]
