/- Layer 4's tidying answer -/
import Derived.Test.YtpncilciembjdaaGreatDoorEBP
set_option linter.all false
open Bool renaming false->Φ,true->Δ
open List renaming map_cons->Ar7,map_map->Atk,map_nil->Atl,mem_cons->ArR,not_mem_nil->Avz
open Option renaming some->Θ
namespace Go.Proofs.YtpncilciembjdaaGreatDoor
noncomputable section
open AV renaming agg->ω,ls->Ψ
open Key renaming fn->ψ
open Tryz renaming prog->ArP
section
open Go.RowKit
abbrev M0(n:Int):List AV:=[.v (.int .u32 n)]
abbrev Vg:List AV:=[iv 0,bv Φ,.ls [M0 1]]
abbrev ZD:List AV:=[iv 0,bv Δ,.ls [M0 1]]
set_option maxRecDepth 1000000
theorem y1:CZ 55 [iv 0,.ls [[iv 1]]] []=Θ (.agg [.ls [Vg],bv Φ,.ls []],[]):=by kernel_rfl
theorem y2:CZ 28 [.agg [.ls [Vg],bv Φ,.ls []]] []=Θ (.agg [.ls [Vg],bv Φ,.ls [],bv Φ],[]):=by kernel_rfl
theorem y3:CZ 55 [iv 0,.ls [[iv (-1)]]] []=Θ (.agg [.ls [ZD],bv Φ,.ls []],[]):=by kernel_rfl
theorem y4:CZ 28 [.agg [.ls [ZD],bv Φ,.ls []]] []=Θ (.agg [.ls [ZD],bv Φ,.ls [],bv Φ],[]):=by kernel_rfl
theorem y5:CZ 55 [iv 5,.ls []] []=Θ (.agg [.ls [],bv Φ,.ls [M0 5]],[]):=by kernel_rfl
theorem y6:CZ 28 [.agg [.ls [],bv Φ,.ls [M0 5]]] []=Θ (.agg [.ls [],bv Φ,.ls [M0 5],bv Φ],[]):=by kernel_rfl
theorem y7:CZ 55 [iv (-1),.ls [[iv 1]]] []=Θ (.agg [.ls [Vg],bv Δ,.ls [M0 1]],[]):=by kernel_rfl
theorem y8:CZ 28 [.agg [.ls [Vg],bv Δ,.ls [M0 1]]] []=Θ (.agg [.ls [Vg],bv Δ,.ls [M0 1],bv Φ],[]):=by kernel_rfl
theorem y9:CZ 21 [.agg [.ls [Vg],bv Φ,.ls [],bv Δ],.agg [.ls [Vg],bv Φ,.ls [],bv Δ]] []=Θ (bv Δ,[]):=by kernel_rfl
theorem JB{n:Nat}(h0:n≠0)(h:n<4294967296):Ah n=[n]:=by rw[EG h0,Nat.mod_eq_of_lt h,Nat.div_eq_of_lt h,CB]
theorem Amp:Av 0=⟨Φ,[]⟩:=by unfold Av;rw[show (0:Int).natAbs=0 from rfl,CB];rfl
theorem Amq:Av 1=⟨Φ,[1]⟩:=by unfold Av;rw[show (1:Int).natAbs=1 from rfl,JB (by decide) (by decide)];rfl
theorem Akg:Av (-1)=⟨Δ,[1]⟩:=by unfold Av;rw[show (-1:Int).natAbs=1 from rfl,JB (by decide) (by decide)];rfl
theorem AqR:Av 5=⟨Φ,[5]⟩:=by unfold Av;rw[show (5:Int).natAbs=5 from rfl,JB (by decide) (by decide)];rfl
theorem Aj8{r:RL}(h1:r.1.ps.length<=1)(h2:∀ p∈r.1.ps,InB 1 p.2)(h3:InB 1 r.1.k):TmB 1 1 r.1.tm:=(LB.mk h1 h2 h3:LB 1 1 r.1).tb
theorem Ach:InB 1 (-1):=by unfold InB;decide
theorem AnC:InB 1 1:=by unfold InB;decide
theorem Aqi:InB 1 5:=by unfold InB;decide
def tmT(r:RL):Tm × Bool:=(r.1.tm,r.2)
theorem Ye(r:RL):MB (tmT r)=r:=by
 unfold MB tmT;rw[Cd]
def Amb:Option (List RL)->AV
 |some s=>.tup [.ls (s.map Ec),bv Δ]
 |none=>.tup [.ls [],bv Φ]
theorem Ake(l:List RL)(hl:l.length<=12)(hb:∀ r∈l,TmB 1 1 r.1.tm){o:Option (List RL)}(h:C2 l o):Jr (CN (EO Ix)) [.ls (l.map Ec)] []=Θ (Amb o,[]):=by
 have e:(l.map tmT).map MB=l:=by
  rw[Atk]
  conv=>rhs;rw[←List.map_id l]
  exact List.map_congr_left λr _=>Ye r
 obtain⟨o',h',g⟩:=Yv (n:=1) (k:=1) (rs:=l.map tmT) (by omega) (by omega) (by omega) (by rw[List.length_map];omega) (λx hx=>by
  obtain⟨r,hr,rfl⟩:=List.mem_map.1 hx;exact hb r hr) ⟨l,hl,λx=>by rw[e]⟩
 rw[e]at h';rw[Atk]at g;refine Eq.trans g ?_;rw[JO h h']
 cases o'<;>rfl
theorem cX:Ec rX=[.ls [Vg],bv Φ,.ls [],bv Φ]:=by
 show [Ψ [[iv 0,bv (Av 1).neg,eN (Av 1).abs]],bv (Av 0).neg,eN (Av 0).abs,bv Φ]=_
 rw[Amp,Amq];rfl
theorem cXm:Ec ZJ=[.ls [ZD],bv Φ,.ls [],bv Φ]:=by
 show [Ψ [[iv 0,bv (Av (-1)).neg,eN (Av (-1)).abs]],bv (Av 0).neg,eN (Av 0).abs,bv Φ]=_
 rw[Amp,Akg];rfl
theorem cX1:Ec rX1=[.ls [Vg],bv Δ,.ls [M0 1],bv Φ]:=by
 show [Ψ [[iv 0,bv (Av 1).neg,eN (Av 1).abs]],bv (Av (-1)).neg,eN (Av (-1)).abs,bv Φ]=_
 rw[Akg,Amq];rfl
theorem cXe:Ec rXe=[.ls [Vg],bv Φ,.ls [],bv Δ]:=by
 show [Ψ [[iv 0,bv (Av 1).neg,eN (Av 1).abs]],bv (Av 0).neg,eN (Av 0).abs,bv Δ]=_
 rw[Amp,Amq];rfl
theorem c5:Ec rK5=[.ls [],bv Φ,.ls [M0 5],bv Φ]:=by
 show [Ψ [],bv (Av 5).neg,eN (Av 5).abs,bv Φ]=_
 rw[AqR];rfl
theorem tX{c k:Int}{e:Bool}(hc:InB 1 c)(hk:InB 1 k):TmB 1 1 (Lf.mk [(0,c)] k).tm:=Aj8 (r:=(⟨[(0,c)],k⟩,e)) (by simp) (λp hp=>by rw[List.mem_singleton]at hp;rw[hp];exact hc) hk
theorem AqN:Jr (CN (EO Ix)) [.ls [[.ls [Vg],bv Φ,.ls [],bv Φ],[.ls [ZD],bv Φ,.ls [],bv Φ],[.ls [],bv Φ,.ls [M0 5],bv Φ]]] []=Θ (.tup [.ls [[.ls [Vg],bv Φ,.ls [],bv Δ]],bv Δ],[]):=by
 have:=Ake [rX,ZJ,rK5] (by decide) (λr hr=>by
  simp only[ArR,Avz,or_false]at hr;rcases hr with rfl|rfl|rfl
  .exact tX (e:=Φ) AnC (InB.zero 1)
  .exact tX (e:=Φ) Ach (InB.zero 1)
  .exact Aj8 (r:=rK5) (by decide) (λp hp=>by cases hp) Aqi) Ad8
 simp only[Ar7,Atl,Amb,cX,cXm,c5,cXe]at this;exact this
theorem tno:Jr (CN (EO Ix)) [.ls [[.ls [Vg],bv Δ,.ls [M0 1],bv Φ],[.ls [ZD],bv Φ,.ls [],bv Φ]]] []=Θ (.tup [.ls [],bv Φ],[]):=by
 have:=Ake [rX1,ZJ] (by decide) (λr hr=>by
  simp only[ArR,Avz,or_false]at hr;rcases hr with rfl|rfl
  .exact tX (e:=Φ) AnC Ach
  .exact tX (e:=Φ) Ach (InB.zero 1)) Ah1
 simp only[Ar7,Atl,Amb,cXm,cX1]at this;exact this
theorem WU:DTg.ask (.fn 32) [] []=Θ (bv Δ,[]):=by
 refine AC Ak4 Ann (e32 ..) ?_;refine Ab (Rg y1) ?_;simp only[ND,DK,Aa];refine Ab (Ir y2) ?_;simp only[ND,DK,Aa];refine Ab (Rg y3) ?_;simp only[ND,DK,Aa];refine Ab (Ir y4) ?_;simp only[ND,DK,Aa];refine Ab (Rg y5) ?_;simp only[ND,DK,Aa];refine Ab (Ir y6) ?_;simp only[ND,DK,Aa];refine Ab (YD AqN) ?_;simp only[ND,DK,Aa];refine Ab (Rg y7) ?_;simp only[ND,DK,Aa];refine Ab (Ir y8) ?_;simp only[ND,DK,Aa];refine Ab (Rg y3) ?_;simp only[ND,DK,Aa];refine Ab (Ir y4) ?_;simp only[ND,DK,Aa];refine Ab (YD tno) ?_;simp only[ND,DK,Aa];refine Bt ?_ rfl;refine(AB (f:=λx:List AV=>x) (rfl:[[Ψ [Vg],bv Φ,Ψ [],bv Δ]][0]? = Θ [Ψ [Vg],bv Φ,Ψ [],bv Δ]) _).trans ?_;simp only[ND,DK,Aa];refine Ab (Rg y1) ?_;simp only[ND,DK,Aa];refine Ab (Aen y9) ?_;rfl
theorem AbR:Bu (BD ArP 32) ((AL Ae Pm).ask (.fn 32)):=
 Do (Z5 ⟨Hi _,Hi _,Hi _,AiJ,trivial⟩) _
structure T4 (D:Orc):Prop where
 say:D.ask (.fn 15) [] []=Θ (bv Δ,[])
 tidying:D.ask (.fn 32) [] []=Θ (bv Δ,[])
 tight:∀{n k:Nat} {t:Tm},TmB n k t->n<=1000000->1<=k->k+3*n<=100000000->∀ e:Bool,D.ask (.fn 17) [.agg (CP (t,e))] []=Θ (.tup [.agg (CP (C8 t.lf.pln.tm e).1),iv (C8 t.lf.pln.tm e).2],[])
 tidy:∀{n k:Nat},n<=100000->1<=k->k+4*n+4<=1000000->∀{rs:List (Tm × Bool)},rs.length<=10000->(∀ x∈rs,TmB n k x.1)->(∃ qs:List RL,qs.length<=12/\∀ x,x∈rs.map MB ↔ x∈qs)->
  ∃ o:Option (List RL),C2 (rs.map MB) o/\D.ask (.fn 33) [.ls (rs.map CP)] []=Θ (match o with|some s=>.tup [.ls (s.map Ec),bv Δ] | none=>.tup [.ls [],bv Φ],[])
end
section
open Go.RowKit
def An6:MFn:=AU [] 15
def Ani:Hnt:=⟨[(17,(.tup [.agg BL,.int .i64],[])),(21,(.bool,[])),(23,(.ls,[])),(25,(.int .i64,[])),(26,(.bool,[])),(27,(.agg BL,[])),(28,(.agg BL,[])),(30,(.bool,[])),(55,(.agg B7,[])),(56,(.agg AK,[])),(57,(.str,[])),(58,(.agg BL,[])),(59,(.agg BL,[])),(60,(.ls,[])),(61,(.agg BL,[]))],[],[(27,BL),(45,BL),(51,BL),(56,BL),(57,BL),(69,BL),(83,BL),(91,BL),(101,BL)]⟩
def Akc:List (Nat × MFn):=[(15,An6)]
variable (A:Ar) (D:Orc)
theorem e15:BY A D At Ani .n 15 An6 [] [] =
 Af D (ψ 55) [iv (-6),Ψ [[iv 4]]] [] [.a,.L,.B,.L,.N,.E] λxs b xs1=>
 Af D (ψ 28) [ω [Ψ xs,bv b,Ψ xs1]] [] [.a,.L,.B,.L,.B,.N,.E] λxs2 b1 xs3 b2=>
 Af D (ψ 17) [ω [Ψ xs2,bv b1,Ψ xs3,bv b2]] [] [.t,.A,.L,.B,.L,.B,.N,.I,.N,.E] λxs4 b3 xs5 b4 n=>
 Af D (ψ 55) [iv (-6),Ψ [[iv 4]]] [] [.a,.L,.B,.L,.N,.E] λxs6 b5 xs7=>
 Af D (ψ 27) [ω [Ψ xs6,bv b5,Ψ xs7]] [] [.a,.L,.B,.L,.B,.N,.E] λxs8 b6 xs9 b7=>
 Af D (ψ 17) [ω [Ψ xs8,bv b6,Ψ xs9,bv b7]] [] [.t,.A,.L,.B,.L,.B,.N,.I,.N,.E] λ_ _ _ _ n1=>
 Af D (ψ 55) [iv 3,Ψ []] [] [.a,.L,.B,.L,.N,.E] λxs12 b10 xs13=>
 Af D (ψ 28) [ω [Ψ xs12,bv b10,Ψ xs13]] [] [.a,.L,.B,.L,.B,.N,.E] λxs14 b11 xs15 b12=>
 Af D (ψ 17) [ω [Ψ xs14,bv b11,Ψ xs15,bv b12]] [] [.t,.A,.L,.B,.L,.B,.N,.I,.N,.E] λ_ _ _ _ n2=>
 Af D (ψ 55) [iv (-2),Ψ [[iv 1]]] [] [.a,.L,.B,.L,.N,.E] λxs18 b15 xs19=>
 Af D (ψ 21) [ω [Ψ xs4,bv b3,Ψ xs5,bv b4],ω [Ψ xs18,bv b15,Ψ xs19,bv Φ]] [] [.b,.E] λb16=>
 br b16
 (br (A.eq n 0)
 (br (A.eq n1 (-1))
 (br (A.eq n2 1)
 (Af D (ψ 56) [iv 2] [] [.a,.B,.L,.N,.E] λb17 xs20=>
 Af D (ψ 30) [ω [Ψ xs4,bv b3,Ψ xs5,bv b4],Ψ [[bv b17,Ψ xs20]]] [] [.b,.E] λb18=>
 br b18
 (Af D (ψ 30) [ω [Ψ xs4,bv b3,Ψ xs5,bv b4],Ψ []] [] [.b,.E] λb19=>
 br b19
 (Θ ((bv Φ,[])))
 (Af D (ψ 26) [ω [Ψ xs4,bv b3,Ψ xs5,bv b4],ω [Ψ xs4,bv b3,Ψ xs5,bv b4]] [] [.b,.E] λb20=>
 br b20
 (Af D (ψ 55) [iv 1,Ψ []] [] [.a,.L,.B,.L,.N,.E] λxs21 b21 xs22=>
 Af D (ψ 28) [ω [Ψ xs21,bv b21,Ψ xs22]] [] [.a,.L,.B,.L,.B,.N,.E] λxs23 b22 xs24 b23=>
 Af D (ψ 55) [iv 2,Ψ []] [] [.a,.L,.B,.L,.N,.E] λxs25 b24 xs26=>
 Af D (ψ 28) [ω [Ψ xs25,bv b24,Ψ xs26]] [] [.a,.L,.B,.L,.B,.N,.E] λxs27 b25 xs28 b26=>
 Af D (ψ 25) [ω [Ψ xs23,bv b22,Ψ xs24,bv b23],ω [Ψ xs27,bv b25,Ψ xs28,bv b26]] [] [.i,.E] λn3=>
 br (A.eq n3 (-1))
 (Af D (ψ 57) [ω [Ψ xs4,bv b3,Ψ xs5,bv b4],Ψ [[sv (C7 [120])]]] [] [.s,.E] λs=>
 br (A.seq s (C7 [120,32,45,32,50,32,62,61,32,48]))
 (Af D (ψ 55) [iv 0,Ψ [[iv 1]]] [] [.a,.L,.B,.L,.N,.E] λxs29 b27 xs30=>
 Af D (ψ 27) [ω [Ψ xs29,bv b27,Ψ xs30]] [] [.a,.L,.B,.L,.B,.N,.E] λxs31 b28 xs32 b29=>
 Af D (ψ 23) [ω [Ψ xs31,bv b28,Ψ xs32,bv b29]] [] [.l,.E] λxs33=>
 br (A.eq (↑(Al xs33)) 2)
 (Af D (ψ 55) [iv 5,Ψ []] [] [.a,.L,.B,.L,.N,.E] λxs34 b30 xs35=>
 Af D (ψ 58) [ω [Ψ xs4,bv b3,Ψ xs5,bv b4],iv 0,ω [Ψ xs34,bv b30,Ψ xs35]] [] [.a,.L,.B,.L,.B,.N,.E] λxs36 b31 xs37 b32=>
 Af D (ψ 55) [iv 3,Ψ []] [] [.a,.L,.B,.L,.N,.E] λxs38 b33 xs39=>
 Af D (ψ 21) [ω [Ψ xs36,bv b31,Ψ xs37,bv b32],ω [Ψ xs38,bv b33,Ψ xs39,bv Φ]] [] [.b,.E] λb34=>
 br b34
 (Af D (ψ 55) [iv 5,Ψ []] [] [.a,.L,.B,.L,.N,.E] λxs40 b35 xs41=>
 Af D (ψ 59) [ω [Ψ xs4,bv b3,Ψ xs5,bv b4],Ψ [[iv 0]],Ψ [[Ψ xs40,bv b35,Ψ xs41]]] [] [.a,.L,.B,.L,.B,.N,.E] λxs42 b36 xs43 b37=>
 Af D (ψ 55) [iv 3,Ψ []] [] [.a,.L,.B,.L,.N,.E] λxs44 b38 xs45=>
 Af D (ψ 21) [ω [Ψ xs42,bv b36,Ψ xs43,bv b37],ω [Ψ xs44,bv b38,Ψ xs45,bv Φ]] [] [.b,.E] λb39=>
 br b39
 (Af D (ψ 61) [ω [Ψ xs4,bv b3,Ψ xs5,bv b4],iv 2] [] [.a,.L,.B,.L,.B,.N,.E] λxs46 b40 xs47 b41=>
 Af D (ψ 60) [ω [Ψ xs46,bv b40,Ψ xs47,bv b41]] [] [.l,.E] λxs48=>
 br (A.eq (↑(Al xs48)) 1)
 (Θ ((bv Δ,[])))
 (Θ ((bv Φ,[]))))
 (Θ ((bv Φ,[]))))
 (Θ ((bv Φ,[]))))
 (Θ ((bv Φ,[]))))
 (Θ ((bv Φ,[]))))
 (Θ ((bv Φ,[]))))
 (Θ ((bv Φ,[])))))
 (Θ ((bv Φ,[]))))
 (Θ ((bv Φ,[]))))
 (Θ ((bv Φ,[]))))
 (Θ ((bv Φ,[]))))
 (Θ ((bv Φ,[]))):=by kernel_rfl
end
open Go.RowKit
def SP:List (List (Nat × MFn)):=[Akc]
def VS:List (Nat × DF):=[(55,CZ 55),(28,CZ 28),(27,CZ 27),(17,CZ 17),(21,CZ 21),(56,CZ 56),(30,CZ 30),(26,CZ 26),(25,CZ 25),(57,CZ 57),(23,CZ 23),(58,CZ 58),(59,CZ 59),(61,CZ 61),(60,CZ 60)]
def Pk:Seat:=ER At SP.flatten VS
def S8:Orc:=AL Ae Pk
set_option maxRecDepth 100000 in
theorem AmD:Fy ArP Bx SP:=by
 repeat' first|exact trivial|refine⟨⟨_,_,_,rfl⟩,by kernel_rfl,?_⟩|refine⟨?_,?_⟩
theorem AmL:(Ei SP&&Ib SP.flatten VS)=Δ:=by kernel_rfl
theorem AnS:Knows At Akc S8:=Bh AmL (i:=0) rfl
section
variable {args:List AV} {bs:List ABlk} {r:AV × List BO}
theorem Iu(h:(CZ 55) args bs=Θ r):S8.ask (.fn 55) args bs=Θ r:=AE rfl h
theorem K6(h:(CZ 28) args bs=Θ r):S8.ask (.fn 28) args bs=Θ r:=AE rfl h
theorem YE(h:(CZ 27) args bs=Θ r):S8.ask (.fn 27) args bs=Θ r:=AE rfl h
theorem PF(h:(CZ 17) args bs=Θ r):S8.ask (.fn 17) args bs=Θ r:=AE rfl h
theorem PE(h:(CZ 21) args bs=Θ r):S8.ask (.fn 21) args bs=Θ r:=AE rfl h
theorem Amj(h:(CZ 56) args bs=Θ r):S8.ask (.fn 56) args bs=Θ r:=AE rfl h
theorem Vf(h:(CZ 30) args bs=Θ r):S8.ask (.fn 30) args bs=Θ r:=AE rfl h
theorem Aii(h:(CZ 26) args bs=Θ r):S8.ask (.fn 26) args bs=Θ r:=AE rfl h
theorem Amh(h:(CZ 25) args bs=Θ r):S8.ask (.fn 25) args bs=Θ r:=AE rfl h
theorem Aij(h:(CZ 57) args bs=Θ r):S8.ask (.fn 57) args bs=Θ r:=AE rfl h
theorem Aie(h:(CZ 23) args bs=Θ r):S8.ask (.fn 23) args bs=Θ r:=AE rfl h
theorem Ami(h:(CZ 58) args bs=Θ r):S8.ask (.fn 58) args bs=Θ r:=AE rfl h
theorem AaC(h:(CZ 59) args bs=Θ r):S8.ask (.fn 59) args bs=Θ r:=AE rfl h
theorem Aif(h:(CZ 61) args bs=Θ r):S8.ask (.fn 61) args bs=Θ r:=AE rfl h
theorem Ail(h:(CZ 60) args bs=Θ r):S8.ask (.fn 60) args bs=Θ r:=AE rfl h
end
theorem Z4(h:Fz ArP VS):SeatOk ArP Bx Pk:=D8 OO DW AmD h
