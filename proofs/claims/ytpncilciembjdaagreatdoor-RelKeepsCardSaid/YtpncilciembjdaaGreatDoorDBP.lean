/- Layer 4's tidying answer -/
import Derived.Test.YtpncilciembjdaaGreatDoorDBO
set_option linter.all false
open Bool renaming false->Φ,true->Δ
open List renaming map_cons->Ap5,map_map->Art,map_nil->Ara,mem_cons->ApT,not_mem_nil->AtB
open Option renaming some->Θ
namespace Go.Proofs.YtpncilciembjdaaGreatDoor
open AV renaming agg->ω,ls->Ψ
open Key renaming fn->ψ
section
open Go.RowKit
abbrev MG(n:Int):List AV:=[.v (.int .u32 n)]
abbrev UR:List AV:=[iv 0,bv Φ,.ls [MG 1]]
abbrev Y2:List AV:=[iv 0,bv Δ,.ls [MG 1]]
set_option maxRecDepth 1000000
theorem y1:CU 55 [iv 0,.ls [[iv 1]]] []=Θ (.agg [.ls [UR],bv Φ,.ls []],[]):=by kernel_rfl
theorem y2:CU 28 [.agg [.ls [UR],bv Φ,.ls []]] []=Θ (.agg [.ls [UR],bv Φ,.ls [],bv Φ],[]):=by kernel_rfl
theorem y3:CU 55 [iv 0,.ls [[iv (-1)]]] []=Θ (.agg [.ls [Y2],bv Φ,.ls []],[]):=by kernel_rfl
theorem y4:CU 28 [.agg [.ls [Y2],bv Φ,.ls []]] []=Θ (.agg [.ls [Y2],bv Φ,.ls [],bv Φ],[]):=by kernel_rfl
theorem y5:CU 55 [iv 5,.ls []] []=Θ (.agg [.ls [],bv Φ,.ls [MG 5]],[]):=by kernel_rfl
theorem y6:CU 28 [.agg [.ls [],bv Φ,.ls [MG 5]]] []=Θ (.agg [.ls [],bv Φ,.ls [MG 5],bv Φ],[]):=by kernel_rfl
theorem y7:CU 55 [iv (-1),.ls [[iv 1]]] []=Θ (.agg [.ls [UR],bv Δ,.ls [MG 1]],[]):=by kernel_rfl
theorem y8:CU 28 [.agg [.ls [UR],bv Δ,.ls [MG 1]]] []=Θ (.agg [.ls [UR],bv Δ,.ls [MG 1],bv Φ],[]):=by kernel_rfl
theorem y9:CU 21 [.agg [.ls [UR],bv Φ,.ls [],bv Δ],.agg [.ls [UR],bv Φ,.ls [],bv Δ]] []=Θ (bv Δ,[]):=by kernel_rfl
theorem Jq{n:Nat}(h0:n≠0)(h:n<4294967296):Aj n=[n]:=by rw[Ey h0,Nat.mod_eq_of_lt h,Nat.div_eq_of_lt h,CW]
theorem Alg:Ap 0=⟨Φ,[]⟩:=by unfold Ap;rw[show (0:Int).natAbs=0 from rfl,CW];rfl
theorem Alh:Ap 1=⟨Φ,[1]⟩:=by unfold Ap;rw[show (1:Int).natAbs=1 from rfl,Jq (by decide) (by decide)];rfl
theorem Ai9:Ap (-1)=⟨Δ,[1]⟩:=by unfold Ap;rw[show (-1:Int).natAbs=1 from rfl,Jq (by decide) (by decide)];rfl
theorem AoX:Ap 5=⟨Φ,[5]⟩:=by unfold Ap;rw[show (5:Int).natAbs=5 from rfl,Jq (by decide) (by decide)];rfl
theorem Ai1{r:RL}(h1:r.1.ps.length<=1)(h2:∀ p∈r.1.ps,InB 1 p.2)(h3:InB 1 r.1.k):TmB 1 1 r.1.tm:=(LB.mk h1 h2 h3:LB 1 1 r.1).tb
theorem Abv:InB 1 (-1):=by unfold InB;decide
theorem Amq:InB 1 1:=by unfold InB;decide
theorem AoC:InB 1 5:=by unfold InB;decide
def tmT(r:RL):Tm × Bool:=(r.1.tm,r.2)
theorem AgO(r:RL):M2 (tmT r)=r:=by
 unfold M2 tmT;rw[BS]
def Ak3:Option (List RL)->AV
 |some s=>.tup [.ls (s.map Da),bv Δ]
 |none=>.tup [.ls [],bv Φ]
theorem Ai7(l:List RL)(hl:l.length<=12)(hb:∀ r∈l,TmB 1 1 r.1.tm){o:Option (List RL)}(h:DL l o):Ji (CJ (ED G6)) [.ls (l.map Da)] []=Θ (Ak3 o,[]):=by
 have e:(l.map tmT).map M2=l:=by
  rw[Art]
  conv=>rhs;rw[←List.map_id l]
  exact List.map_congr_left λr _=>AgO r
 obtain⟨o',h',g⟩:=XV (n:=1) (k:=1) (rs:=l.map tmT) (by omega) (by omega) (by omega) (by rw[List.length_map];omega) (λx hx=>by
  obtain⟨r,hr,rfl⟩:=List.mem_map.1 hx;exact hb r hr) ⟨l,hl,λx=>by rw[e]⟩
 rw[e]at h';rw[Art]at g;refine Eq.trans g ?_;rw[Wr h h']
 cases o'<;>rfl
theorem cX:Da rX=[.ls [UR],bv Φ,.ls [],bv Φ]:=by
 show [Ψ [[iv 0,bv (Ap 1).neg,eN (Ap 1).abs]],bv (Ap 0).neg,eN (Ap 0).abs,bv Φ]=_
 rw[Alg,Alh];rfl
theorem cXm:Da Y6=[.ls [Y2],bv Φ,.ls [],bv Φ]:=by
 show [Ψ [[iv 0,bv (Ap (-1)).neg,eN (Ap (-1)).abs]],bv (Ap 0).neg,eN (Ap 0).abs,bv Φ]=_
 rw[Alg,Ai9];rfl
theorem cX1:Da rX1=[.ls [UR],bv Δ,.ls [MG 1],bv Φ]:=by
 show [Ψ [[iv 0,bv (Ap 1).neg,eN (Ap 1).abs]],bv (Ap (-1)).neg,eN (Ap (-1)).abs,bv Φ]=_
 rw[Ai9,Alh];rfl
theorem cXe:Da rXe=[.ls [UR],bv Φ,.ls [],bv Δ]:=by
 show [Ψ [[iv 0,bv (Ap 1).neg,eN (Ap 1).abs]],bv (Ap 0).neg,eN (Ap 0).abs,bv Δ]=_
 rw[Alg,Alh];rfl
theorem c5:Da rK5=[.ls [],bv Φ,.ls [MG 5],bv Φ]:=by
 show [Ψ [],bv (Ap 5).neg,eN (Ap 5).abs,bv Φ]=_
 rw[AoX];rfl
theorem tX{c k:Int}{e:Bool}(hc:InB 1 c)(hk:InB 1 k):TmB 1 1 (Lf.mk [(0,c)] k).tm:=Ai1 (r:=(⟨[(0,c)],k⟩,e)) (by simp) (λp hp=>by rw[List.mem_singleton]at hp;rw[hp];exact hc) hk
theorem AoT:Ji (CJ (ED G6)) [.ls [[.ls [UR],bv Φ,.ls [],bv Φ],[.ls [Y2],bv Φ,.ls [],bv Φ],[.ls [],bv Φ,.ls [MG 5],bv Φ]]] []=Θ (.tup [.ls [[.ls [UR],bv Φ,.ls [],bv Δ]],bv Δ],[]):=by
 have:=Ai7 [rX,Y6,rK5] (by decide) (λr hr=>by
  simp only[ApT,AtB,or_false]at hr;rcases hr with rfl|rfl|rfl
  .exact tX (e:=Φ) Amq (InB.zero 1)
  .exact tX (e:=Φ) Abv (InB.zero 1)
  .exact Ai1 (r:=rK5) (by decide) (λp hp=>by cases hp) AoC) Adf
 simp only[Ap5,Ara,Ak3,cX,cXm,c5,cXe]at this;exact this
theorem tno:Ji (CJ (ED G6)) [.ls [[.ls [UR],bv Δ,.ls [MG 1],bv Φ],[.ls [Y2],bv Φ,.ls [],bv Φ]]] []=Θ (.tup [.ls [],bv Φ],[]):=by
 have:=Ai7 [rX1,Y6] (by decide) (λr hr=>by
  simp only[ApT,AtB,or_false]at hr;rcases hr with rfl|rfl
  .exact tX (e:=Φ) Amq Abv
  .exact tX (e:=Φ) Abv (InB.zero 1)) Aha
 simp only[Ap5,Ara,Ak3,cXm,cX1]at this;exact this
theorem Wt:DTg.ask (.fn 32) [] []=Θ (bv Δ,[]):=by
 refine AI AjW Amh (e32 ..) ?_;refine Ab (QN y1) ?_;simp only[ND,DK,Aa];refine Ab (Ie y2) ?_;simp only[ND,DK,Aa];refine Ab (QN y3) ?_;simp only[ND,DK,Aa];refine Ab (Ie y4) ?_;simp only[ND,DK,Aa];refine Ab (QN y5) ?_;simp only[ND,DK,Aa];refine Ab (Ie y6) ?_;simp only[ND,DK,Aa];refine Ab (X3 AoT) ?_;simp only[ND,DK,Aa];refine Ab (QN y7) ?_;simp only[ND,DK,Aa];refine Ab (Ie y8) ?_;simp only[ND,DK,Aa];refine Ab (QN y3) ?_;simp only[ND,DK,Aa];refine Ab (Ie y4) ?_;simp only[ND,DK,Aa];refine Ab (X3 tno) ?_;simp only[ND,DK,Aa];refine BF ?_ rfl;refine(AB (f:=λx:List AV=>x) (rfl:[[Ψ [UR],bv Φ,Ψ [],bv Δ]][0]? = Θ [Ψ [UR],bv Φ,Ψ [],bv Δ]) _).trans ?_;simp only[ND,DK,Aa];refine Ab (QN y1) ?_;simp only[ND,DK,Aa];refine Ab (Adv y9) ?_;rfl
theorem Aa5:Bk (Bu Tryz.prog 32) ((AD Ad OS).ask (.fn 32)):=
 Dg (Zp ⟨G2 _,G2 _,G2 _,AhR,trivial⟩) _
structure T4 (D:Orc):Prop where
 say:D.ask (.fn 15) [] []=Θ (bv Δ,[])
 tidying:D.ask (.fn 32) [] []=Θ (bv Δ,[])
 tight:∀{n k:Nat} {t:Tm},TmB n k t->n<=1000000->1<=k->k+3*n<=100000000->∀ e:Bool,D.ask (.fn 17) [.agg (C5 (t,e))] []=Θ (.tup [.agg (C5 (CF t.lf.pln.tm e).1),iv (CF t.lf.pln.tm e).2],[])
 tidy:∀{n k:Nat},n<=100000->1<=k->k+4*n+4<=1000000->∀{rs:List (Tm × Bool)},rs.length<=10000->(∀ x∈rs,TmB n k x.1)->(∃ qs:List RL,qs.length<=12/\∀ x,x∈rs.map M2 ↔ x∈qs)->
  ∃ o:Option (List RL),DL (rs.map M2) o/\D.ask (.fn 33) [.ls (rs.map C5)] []=Θ (match o with|some s=>.tup [.ls (s.map Da),bv Δ] | none=>.tup [.ls [],bv Φ],[])
end
section
open Go.RowKit
noncomputable def AmM:MFn:=AY [] 15
def Amb:Hnt:=⟨[(17,(.tup [.agg Bx,.int .i64],[])),(21,(.bool,[])),(23,(.ls,[])),(25,(.int .i64,[])),(26,(.bool,[])),(27,(.agg Bx,[])),(28,(.agg Bx,[])),(30,(.bool,[])),(55,(.agg B6,[])),(56,(.agg AR,[])),(57,(.str,[])),(58,(.agg Bx,[])),(59,(.agg Bx,[])),(60,(.ls,[])),(61,(.agg Bx,[]))],[],[(27,Bx),(45,Bx),(51,Bx),(56,Bx),(57,Bx),(69,Bx),(83,Bx),(91,Bx),(101,Bx)]⟩
noncomputable def Ai5:List (Nat × MFn):=[(15,AmM)]
variable (A:Ar) (D:Orc)
theorem e15:Cm A D Av Amb .n 15 AmM [] [] =
 Af D (ψ 55) [iv (-6),Ψ [[iv 4]]] [] [.a,.L,.B,.L,.N,.E] λxs b xs1=>
 Af D (ψ 28) [ω [Ψ xs,bv b,Ψ xs1]] [] [.a,.L,.B,.L,.B,.N,.E] λxs2 b1 xs3 b2=>
 Af D (ψ 17) [ω [Ψ xs2,bv b1,Ψ xs3,bv b2]] [] [.t,.A,.L,.B,.L,.B,.N,.I,.N,.E] λxs4 b3 xs5 b4 n=>
 Af D (ψ 55) [iv (-6),Ψ [[iv 4]]] [] [.a,.L,.B,.L,.N,.E] λxs6 b5 xs7=>
 Af D (ψ 27) [ω [Ψ xs6,bv b5,Ψ xs7]] [] [.a,.L,.B,.L,.B,.N,.E] λxs8 b6 xs9 b7=>
 Af D (ψ 17) [ω [Ψ xs8,bv b6,Ψ xs9,bv b7]] [] [.t,.A,.L,.B,.L,.B,.N,.I,.N,.E] λ_ _ _ _ n1=>
 Af D (ψ 55) [iv 3,Ψ []] [] [.a,.L,.B,.L,.N,.E] λxs12 b10 xs13=>
 Af D (ψ 28) [ω [Ψ xs12,bv b10,Ψ xs13]] [] [.a,.L,.B,.L,.B,.N,.E] λxs14 b11 xs15 b12=>
 Af D (ψ 17) [ω [Ψ xs14,bv b11,Ψ xs15,bv b12]] [] [.t,.A,.L,.B,.L,.B,.N,.I,.N,.E] λ_ _ _ _ n2=>
 Af D (ψ 55) [iv (-2),Ψ [[iv 1]]] [] [.a,.L,.B,.L,.N,.E] λxs18 b15 xs19=>
 Af D (ψ 21) [ω [Ψ xs4,bv b3,Ψ xs5,bv b4],ω [Ψ xs18,bv b15,Ψ xs19,bv Φ]] [] [.b,.E] λb16=>
 br b16
 (br (A.eq n 0)
 (br (A.eq n1 (-1))
 (br (A.eq n2 1)
 (Af D (ψ 56) [iv 2] [] [.a,.B,.L,.N,.E] λb17 xs20=>
 Af D (ψ 30) [ω [Ψ xs4,bv b3,Ψ xs5,bv b4],Ψ [[bv b17,Ψ xs20]]] [] [.b,.E] λb18=>
 br b18
 (Af D (ψ 30) [ω [Ψ xs4,bv b3,Ψ xs5,bv b4],Ψ []] [] [.b,.E] λb19=>
 br b19
 (Θ ((bv Φ,[])))
 (Af D (ψ 26) [ω [Ψ xs4,bv b3,Ψ xs5,bv b4],ω [Ψ xs4,bv b3,Ψ xs5,bv b4]] [] [.b,.E] λb20=>
 br b20
 (Af D (ψ 55) [iv 1,Ψ []] [] [.a,.L,.B,.L,.N,.E] λxs21 b21 xs22=>
 Af D (ψ 28) [ω [Ψ xs21,bv b21,Ψ xs22]] [] [.a,.L,.B,.L,.B,.N,.E] λxs23 b22 xs24 b23=>
 Af D (ψ 55) [iv 2,Ψ []] [] [.a,.L,.B,.L,.N,.E] λxs25 b24 xs26=>
 Af D (ψ 28) [ω [Ψ xs25,bv b24,Ψ xs26]] [] [.a,.L,.B,.L,.B,.N,.E] λxs27 b25 xs28 b26=>
 Af D (ψ 25) [ω [Ψ xs23,bv b22,Ψ xs24,bv b23],ω [Ψ xs27,bv b25,Ψ xs28,bv b26]] [] [.i,.E] λn3=>
 br (A.eq n3 (-1))
 (Af D (ψ 57) [ω [Ψ xs4,bv b3,Ψ xs5,bv b4],Ψ [[sv (C2 [120])]]] [] [.s,.E] λs=>
 br (A.seq s (C2 [120,32,45,32,50,32,62,61,32,48]))
 (Af D (ψ 55) [iv 0,Ψ [[iv 1]]] [] [.a,.L,.B,.L,.N,.E] λxs29 b27 xs30=>
 Af D (ψ 27) [ω [Ψ xs29,bv b27,Ψ xs30]] [] [.a,.L,.B,.L,.B,.N,.E] λxs31 b28 xs32 b29=>
 Af D (ψ 23) [ω [Ψ xs31,bv b28,Ψ xs32,bv b29]] [] [.l,.E] λxs33=>
 br (A.eq (↑(AS xs33)) 2)
 (Af D (ψ 55) [iv 5,Ψ []] [] [.a,.L,.B,.L,.N,.E] λxs34 b30 xs35=>
 Af D (ψ 58) [ω [Ψ xs4,bv b3,Ψ xs5,bv b4],iv 0,ω [Ψ xs34,bv b30,Ψ xs35]] [] [.a,.L,.B,.L,.B,.N,.E] λxs36 b31 xs37 b32=>
 Af D (ψ 55) [iv 3,Ψ []] [] [.a,.L,.B,.L,.N,.E] λxs38 b33 xs39=>
 Af D (ψ 21) [ω [Ψ xs36,bv b31,Ψ xs37,bv b32],ω [Ψ xs38,bv b33,Ψ xs39,bv Φ]] [] [.b,.E] λb34=>
 br b34
 (Af D (ψ 55) [iv 5,Ψ []] [] [.a,.L,.B,.L,.N,.E] λxs40 b35 xs41=>
 Af D (ψ 59) [ω [Ψ xs4,bv b3,Ψ xs5,bv b4],Ψ [[iv 0]],Ψ [[Ψ xs40,bv b35,Ψ xs41]]] [] [.a,.L,.B,.L,.B,.N,.E] λxs42 b36 xs43 b37=>
 Af D (ψ 55) [iv 3,Ψ []] [] [.a,.L,.B,.L,.N,.E] λxs44 b38 xs45=>
 Af D (ψ 21) [ω [Ψ xs42,bv b36,Ψ xs43,bv b37],ω [Ψ xs44,bv b38,Ψ xs45,bv Φ]] [] [.b,.E] λb39=>
 br b39
 (Af D (ψ 61) [ω [Ψ xs4,bv b3,Ψ xs5,bv b4],iv 2] [] [.a,.L,.B,.L,.B,.N,.E] λxs46 b40 xs47 b41=>
 Af D (ψ 60) [ω [Ψ xs46,bv b40,Ψ xs47,bv b41]] [] [.l,.E] λxs48=>
 br (A.eq (↑(AS xs48)) 1)
 (Θ ((bv Δ,[])))
 (Θ ((bv Φ,[]))))
 (Θ ((bv Φ,[]))))
 (Θ ((bv Φ,[]))))
 (Θ ((bv Φ,[]))))
 (Θ ((bv Φ,[]))))
 (Θ ((bv Φ,[]))))
 (Θ ((bv Φ,[])))))
 (Θ ((bv Φ,[]))))
 (Θ ((bv Φ,[]))))
 (Θ ((bv Φ,[]))))
 (Θ ((bv Φ,[]))))
 (Θ ((bv Φ,[]))):=by kernel_rfl
