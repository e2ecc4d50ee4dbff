/- A seat of D: tables of f -/
import Derived.Test.YtmbfbclboenajaaGreatFBD
import Derived.Test.YtmbfbclboenajaaGreatFBE
set_option linter.all false
open Bool renaming true->Δ
open Option renaming none->Ξ,some->Θ
namespace Go.Proofs.YtmbfbclboenajaaGreat
noncomputable section
open AV renaming agg->φ,ls->Ψ,ptr->η,tup->γ
open BO renaming set->AqV
open Key renaming fn->ω
open Tryz renaming prog->Aq1
open Go.RowKit
def SW:List (List (Nat × MFn)):=[Yw]
def V0:List (Nat × DF):=[(16,(AY Af Mg).ask (.fn 16))]
def Mi:Seat:=FO Ij SW.flatten V0
def DSr:Orc:=AY Af Mi
set_option maxRecDepth 100000 in
theorem AkJ:Ha Aq1 BP SW:=by
 repeat' first|exact trivial|refine⟨⟨_,_,_,rfl⟩,by kernel_rfl,?_⟩|refine⟨?_,?_⟩
theorem AkQ:(EM SW&&Je SW.flatten V0)=Δ:=by kernel_rfl
theorem AhY:Knows Ij Yw DSr:=Bg AkQ (i:=0) rfl
section
variable {args:List AV} {bs:List ABlk} {r:AV × List BO}
theorem Ako(h:((AY Af Mg).ask (.fn 16)) args bs=Θ r):DSr.ask (.fn 16) args bs=Θ r:=Bq rfl h
end
theorem Z4(h:Hb Aq1 V0):SeatOk Aq1 BP Mi:=EZ Sn ER AkJ h
section
open Go.RowKit
def AmZ:MFn:=PN Aq1 BP [] false Δ 38
def AlH:Hnt:=⟨[(41,(.int .i64,[]))],[],[(7,[.bool]),(10,Ay),(14,Ay),(20,Ay)]⟩
def Am1:MFn:=PN Aq1 BP [] false Δ 40
def AlJ:Hnt:=⟨[(41,(.int .i64,[]))],[],[(7,[.bool]),(10,Ay),(14,Ay),(20,Ay)]⟩
def AmI:MFn:=PN Aq1 BP [] false Δ 14
def Alq:Hnt:=⟨[(9,(.agg B1,[])),(35,(.agg Bl,[])),(36,(.agg Bl,[])),(41,(.int .i64,[])),(42,(.agg B1,[]))],[],[(8,[.bool]),(13,[.bool]),(18,Ay),(22,Ay),(31,Bl),(35,Ay),(43,[.bool]),(48,Bl),(52,Ay),(61,[.bool]),(66,Ay),(71,Bl)]⟩
def Anr:MFn:=BI [] 77
def Al8:Hnt:=⟨[(46,(.int .i64,[]))],[],[(5,Bl),(6,Bl)]⟩
def Q9:List (Nat × MFn):=[(38,AmZ),(40,Am1),(14,AmI),(77,Anr)]
variable (A:Ar) (D:Orc)
theorem e38(p0_0:Rw)(p0_1:Bool)(p0_2:Rw)(p0_3:Bool)(p0_4:Rw)(p0_5:Bool)(p0_6:Rw)(p0_7 p0_8 x1_0:Bool)(x1_1:Rw):BN A D Al AlH .n 38 AmZ [η 0 0,φ [bv x1_0,Ψ x1_1]] [bk [Ψ p0_0,bv p0_1,Ψ p0_2,bv p0_3,Ψ p0_4,bv p0_5,Ψ p0_6,bv p0_7,bv p0_8]] =
 br (A.not p0_7)
 (Θ ((γ [],[AqV (bk [Ψ p0_0,bv p0_1,Ψ p0_2,bv x1_0,Ψ x1_1,bv p0_5,Ψ p0_6,bv Δ,bv p0_8])])))
 (Ae D (ω 41) [φ [bv x1_0,Ψ x1_1],φ [bv p0_3,Ψ p0_4]] [] [.i,.E] λn=>
 br (A.lt 0 n)
 (Θ ((γ [],[AqV (bk [Ψ p0_0,bv p0_1,Ψ p0_2,bv x1_0,Ψ x1_1,bv p0_5,Ψ p0_6,bv Δ,bv p0_8])])))
 (Θ ((γ [],[AqV (bk [Ψ p0_0,bv p0_1,Ψ p0_2,bv p0_3,Ψ p0_4,bv p0_5,Ψ p0_6,bv p0_7,bv p0_8])])))):=by kernel_rfl
theorem e40(p0_0:Rw)(p0_1:Bool)(p0_2:Rw)(p0_3:Bool)(p0_4:Rw)(p0_5:Bool)(p0_6:Rw)(p0_7 p0_8 x1_0:Bool)(x1_1:Rw):BN A D Al AlJ .n 40 Am1 [η 0 0,φ [bv x1_0,Ψ x1_1]] [bk [Ψ p0_0,bv p0_1,Ψ p0_2,bv p0_3,Ψ p0_4,bv p0_5,Ψ p0_6,bv p0_7,bv p0_8]] =
 br (A.not p0_8)
 (Θ ((γ [],[AqV (bk [Ψ p0_0,bv p0_1,Ψ p0_2,bv p0_3,Ψ p0_4,bv x1_0,Ψ x1_1,bv p0_7,bv Δ])])))
 (Ae D (ω 41) [φ [bv x1_0,Ψ x1_1],φ [bv p0_5,Ψ p0_6]] [] [.i,.E] λn=>
 br (A.lt n 0)
 (Θ ((γ [],[AqV (bk [Ψ p0_0,bv p0_1,Ψ p0_2,bv p0_3,Ψ p0_4,bv x1_0,Ψ x1_1,bv p0_7,bv Δ])])))
 (Θ ((γ [],[AqV (bk [Ψ p0_0,bv p0_1,Ψ p0_2,bv p0_3,Ψ p0_4,bv p0_5,Ψ p0_6,bv p0_7,bv p0_8])])))):=by kernel_rfl
theorem e14(p0_0:Rw)(p0_1:Bool)(p0_2:Rw)(p0_3:Bool)(p0_4:Rw)(p0_5:Bool)(p0_6:Rw)(p0_7 p0_8:Bool):BN A D Al Alq (.b (.t (.t (.t (.t (.b (.b (.b .n (.b .n (.b .n (.b .n (.t (.b .n (.t .n))))))) .n) (.b .n (.t (.b .n (.f .n))))))))) (.f (.f (.f (.f (.b .n (.b .n (.f .n)))))))) 14 AmI [η 0 0] [bk [Ψ p0_0,bv p0_1,Ψ p0_2,bv p0_3,Ψ p0_4,bv p0_5,Ψ p0_6,bv p0_7,bv p0_8]] =
 br p0_7
 (br p0_7 (br p0_7 (br p0_7 (br p0_7 (br p0_8
 (Ae D (ω 41) [φ [bv p0_3,Ψ p0_4],φ [bv p0_5,Ψ p0_6]] [] [.i,.E] λn=>
 br (A.eq n 1)
 (Θ ((γ [Ψ [],bv false],[AqV (bk [Ψ p0_0,bv p0_1,Ψ p0_2,bv p0_3,Ψ p0_4,bv p0_5,Ψ p0_6,bv p0_7,bv p0_8])])))
 (br (A.eq n 0)
 (Ae D (ω 36) [φ [bv p0_3,Ψ p0_4]] [] [.a,.L,.B,.L,.N,.E] λxs b xs1=>
 Ae D (ω 35) [φ [Ψ p0_0,bv p0_1,Ψ p0_2],φ [Ψ xs,bv b,Ψ xs1]] [] [.a,.L,.B,.L,.N,.E] λxs2 b1 xs3=>
 Ae D (ω 42) [φ [Ψ xs2,bv b1,Ψ xs3]] [] [.a,.L,.B,.L,.B,.N,.E] λxs4 b2 xs5 b3=>
 Θ ((γ [Ψ [[Ψ xs4,bv b2,Ψ xs5,bv b3]],bv Δ],[AqV (bk [Ψ p0_0,bv p0_1,Ψ p0_2,bv p0_3,Ψ p0_4,bv p0_5,Ψ p0_6,bv p0_7,bv p0_8])])))
 (br p0_7 (AA D (ω 36) [φ [bv p0_3,Ψ p0_4]] [] λr1 o1=>
 dk [.a,.L,.B,.L,.N,.E] [.v r1,.o o1] λxs b xs1=>
 Ae D (ω 35) [φ [Ψ p0_0,bv p0_1,Ψ p0_2],φ [Ψ xs,bv b,Ψ xs1]] [] [.a,.L,.B,.L,.N,.E] λxs2 b1 xs3=>
 Ae D (ω 9) [φ [Ψ xs2,bv b1,Ψ xs3]] [] [.a,.L,.B,.L,.B,.N,.E] λxs4 b2 xs5 b3=>
 br p0_8 (AA D (ω 36) [φ [bv p0_5,Ψ p0_6]] [] λr4 o4=>
 dk [.a,.L,.B,.L,.N,.E] [.v r4,.o o4] λxs6 b4 xs7=>
 Ae D (ω 35) [φ [Ψ xs6,bv b4,Ψ xs7],φ [Ψ p0_0,bv p0_1,Ψ p0_2]] [] [.a,.L,.B,.L,.N,.E] λxs8 b5 xs9=>
 Ae D (ω 9) [φ [Ψ xs8,bv b5,Ψ xs9]] [] [.a,.L,.B,.L,.B,.N,.E] λxs10 b6 xs11 b7=>
 Θ ((γ [Ψ [[Ψ xs4,bv b2,Ψ xs5,bv b3],[Ψ xs10,bv b6,Ψ xs11,bv b7]],bv Δ],[AqV (bk [Ψ p0_0,bv p0_1,Ψ p0_2,bv p0_3,Ψ p0_4,bv p0_5,Ψ p0_6,bv p0_7,bv p0_8])]))) Ξ) Ξ)))
 (br p0_7 (AA D (ω 36) [φ [bv p0_3,Ψ p0_4]] [] λr o=>
 dk [.a,.L,.B,.L,.N,.E] [.v r,.o o] λxs b xs1=>
 Ae D (ω 35) [φ [Ψ p0_0,bv p0_1,Ψ p0_2],φ [Ψ xs,bv b,Ψ xs1]] [] [.a,.L,.B,.L,.N,.E] λxs2 b1 xs3=>
 Ae D (ω 9) [φ [Ψ xs2,bv b1,Ψ xs3]] [] [.a,.L,.B,.L,.B,.N,.E] λxs4 b2 xs5 b3=>
 br p0_8 Ξ (Θ ((γ [Ψ [[Ψ xs4,bv b2,Ψ xs5,bv b3]],bv Δ],[AqV (bk [Ψ p0_0,bv p0_1,Ψ p0_2,bv p0_3,Ψ p0_4,bv p0_5,Ψ p0_6,bv p0_7,bv p0_8])])))) Ξ)) Ξ) Ξ) Ξ) Ξ)
 (br p0_7 Ξ (br p0_7 Ξ (br p0_7 Ξ (br p0_7 Ξ (br p0_7 Ξ (br p0_8
 (Ae D (ω 36) [φ [bv p0_5,Ψ p0_6]] [] [.a,.L,.B,.L,.N,.E] λxs b xs1=>
 Ae D (ω 35) [φ [Ψ xs,bv b,Ψ xs1],φ [Ψ p0_0,bv p0_1,Ψ p0_2]] [] [.a,.L,.B,.L,.N,.E] λxs2 b1 xs3=>
 Ae D (ω 9) [φ [Ψ xs2,bv b1,Ψ xs3]] [] [.a,.L,.B,.L,.B,.N,.E] λxs4 b2 xs5 b3=>
 Θ ((γ [Ψ [[Ψ xs4,bv b2,Ψ xs5,bv b3]],bv Δ],[AqV (bk [Ψ p0_0,bv p0_1,Ψ p0_2,bv p0_3,Ψ p0_4,bv p0_5,Ψ p0_6,bv p0_7,bv p0_8])])))
 (Θ ((γ [Ψ [],bv Δ],[AqV (bk [Ψ p0_0,bv p0_1,Ψ p0_2,bv p0_3,Ψ p0_4,bv p0_5,Ψ p0_6,bv p0_7,bv p0_8])]))))))))):=by kernel_rfl
theorem e77(x0_0:Rw)(x0_1:Bool)(x0_2 x1_0:Rw)(x1_1:Bool)(x1_2:Rw):BN A D Al Al8 .n 77 Anr [φ [Ψ x0_0,bv x0_1,Ψ x0_2],φ [Ψ x1_0,bv x1_1,Ψ x1_2]] [] =
 Ae D (ω 46) [φ [Ψ x0_0,bv x0_1,Ψ x0_2],φ [Ψ x1_0,bv x1_1,Ψ x1_2]] [] [.i,.E] λn=>
 br (A.eq n 0)
 (Θ ((bv Δ,[])))
 (Θ ((bv false,[]))):=by kernel_rfl
end
section
open Go.RowKit
def AnY:List (Nat × MFn):=[]
variable (A:Ar) (D:Orc)
end
