/- Functions of the program -/
import Derived.Test.YtpncilciembjdaaGreatDoorJAM
set_option linter.all false
open Bool renaming false->Ξ,true->U
open List renaming drop->Atg,take->ε
open Option renaming none->Θ,some->Δ
namespace Go.Proofs.YtpncilciembjdaaGreatDoor
noncomputable section
open ABlk renaming mk->Ψ
open AV renaming agg->ξ,ls->Φ,ptr->ψ,sl->π,tup->Ath,v->Ati
open BO renaming set->Atb
open IntKind renaming i64->Ω,u32->υ,u64->φ
open Key renaming fn->ω,lp->ο
section
open Go.RowKit
def PA:MFn:=AE [⟨37,(mB 25),[(3,1)],[],[(1,((mB 8),([],[])))]⟩,⟨37,(mB 8),[(3,1)],[],[(3,((mB 8),([],[])))]⟩] 149
def LM:Hnt:=⟨[],[(0,[(1,([.sl 1 1],[.del,.row U]))]),(1,[(3,([.sl 1 1],[.del,.row U]))])],[(15,[.int .u32]),(16,[.int .u32]),(27,[.int .u32]),(28,[.int .u32])]⟩
def Akn:MFn:=AE [] 186
def AjL:Hnt:=⟨[],[],[]⟩
def Ako:MFn:=AE [] 187
def AjM:Hnt:=⟨[],[],[(15,[.int .u32]),(16,[.int .u32])]⟩
def Wu:MFn:=AE [⟨28,(mB 35),[],[],[(0,((mB 16),([],[]))),(1,([],([],[])))]⟩] 228
def Sx:Hnt:=⟨[(186,(.int .i64,[])),(187,(.int .u64,[]))],[(0,[(0,([.int .i64],[])),(1,([],[]))])],[]⟩
def Wj:MFn:=AE [⟨36,(mB 227),[(5,1)],[],[(1,((mB 32),([],[])))]⟩] 129
def Sm:Hnt:=⟨[(149,(.ls,[])),(186,(.int .i64,[])),(187,(.int .u64,[]))],[(0,[(1,([.sl 1 1],[.del,.row U]))])],[]⟩
def Wn:MFn:=AE [⟨43,(mB 451),[(6,1)],[],[(1,((mB 64),([],[])))]⟩] 182
def Sr:Hnt:=⟨[(149,(.ls,[])),(186,(.int .i64,[])),(187,(.int .u64,[])),(228,(.int .i64,[]))],[(0,[(1,([.sl 1 1],[.del,.row U]))])],[]⟩
def Wv:MFn:=AE [⟨37,(mB 227),[(5,1)],[],[(1,((mB 96),([],[])))]⟩] 229
def Sy:Hnt:=⟨[(149,(.ls,[])),(187,(.int .u64,[]))],[(0,[(1,([.sl 1 1,.int .u64],[.del,.row U]))])],[]⟩
def PB:MFn:=AE [⟨42,(mB 99),[],[5],[(1,((mB 32),([],[])))]⟩,⟨42,(mB 483),[(7,1)],[],[(3,((mB 195),([],[])))]⟩] 183
def LN:Hnt:=⟨[(129,(.ls,[])),(149,(.ls,[])),(229,(.ls,[]))],[(0,[(1,([.ls],[]))]),(1,[(3,([.ls,.ls,.int .i64,.sl 1 1],[.del,.row U]))])],[(27,[.int .u32]),(28,[.int .u32]),(35,[.int .u32]),(36,[.int .u32])]⟩
def Wt:MFn:=AE [⟨26,(mB 35),[],[],[(0,((mB 16),([],[]))),(1,([],([],[])))]⟩] 210
def NB:Hnt:=⟨[],[(0,[(0,([.bool],[])),(1,([],[]))])],[(19,[.int .u32]),(20,[.int .u32]),(23,[.int .u32]),(24,[.int .u32])]⟩
def PW:List (Nat × MFn):=[(149,PA),(186,Akn),(187,Ako),(228,Wu),(129,Wj),(182,Wn),(229,Wv),(183,PB),(210,Wt)]
variable (A:Ar) (D:Orc)
theorem Aqz(x0:Rw):BZ A D Aq LM .n 149 PA [Φ x0] [] =
 Ag D (ο 149 0) [Φ x0,π 0 0 0 1,iv 0] [Ψ [] U U] [.t,.C,.x,.X,.Y] λc l o=>
 br (Bg 1 c)
 (dk [.C,.q 1 1,.N,.D,.R,.X,.E] [.l l,.o o] λn cs1=>
 Ag D (ο 149 1) [π 0 0 n 1] [Ψ cs1 U U] [.t,.C,.x,.X,.Y] λc4 l4 o1=>
 br (Bg 3 c4)
 (dk [.C,.q 1 1,.N,.D,.R,.X,.E] [.l l4,.o o1] λn1 cs3=>
 br ((0+n1*1).ble cs3.length) (Δ ((Φ (Bk n1 1 (ε (n1*1) cs3)),[]))) Θ)
 (Θ))
 (Θ):=by kernel_rfl
theorem ZV(t0:Rw)(n3:Nat)(c3:Aa)(t4:Int):C2 A D Aq LM .n 149 0 (AN PA 0).fst (AN PA 0).snd [Φ t0,π 0 0 n3 1,iv t4] [{ cells:=c3,st:=U,ex:=U }] =
 br (A.lt t4 ↑(Bb t0))
 (unI t4 λi=>
 Bh t0 i λcs=>
 dk [.J .u32,.N] [.l cs] λn=>
 br (Bo (n3+1) 4) (br ((0+n3*1).ble c3.length) (AT D (ο 149 0) [Φ t0,π 0 0 (n3+1) 1,iv (A.add Ω t4 1)] [Ψ (Atg 0 (ε (0+n3*1) c3)++[Ati (Value.int υ n)]) U U] λr o=>
 AI 1 [2] (AH.mk [(2,Ψ (Atg 0 (ε (0+n3*1) c3)++[Ati (Value.int υ n)]) U U),(1,Ψ [Ati (Value.int υ n)] U U)] 3 Θ) [0] r o) Θ) Θ)
 (Δ ((Ath [iv 0,π 1 0 n3 1],[BO.del,Atb (Ψ c3 U U)]))):=by kernel_rfl
theorem ZW(n3:Nat)(c3:Aa):C2 A D Aq LM .n 149 1 (AN PA 1).fst (AN PA 1).snd [π 0 0 n3 1] [{ cells:=c3,st:=U,ex:=U }] =
 br (A.lt 0 ↑n3)
 (unI (A.sub Ω (↑n3) 1) λi=>
 br (i.blt n3) (EX c3 (0+i*1) 1 λcs=>
 dk [.J .u32,.N] [.l cs] λn=>
 br (A.eq n 0)
 (unI (A.sub Ω (↑n3) 1) λi1=>
 br (I4 0 i1 n3) (AT D (ο 149 1) [π 0 0 i1 1] [Ψ c3 U U] λr o=>
 AI 1 [0] (AH.mk [(0,Ψ c3 U U)] 1 Θ) [] r o) Θ)
 (Δ ((Ath [iv 2,π 1 0 n3 1],[BO.del,Atb (Ψ c3 U U)])))) Θ)
 (Δ ((Ath [iv 2,π 1 0 n3 1],[BO.del,Atb (Ψ c3 U U)]))):=by kernel_rfl
theorem AqO(x0 x1:Rw):BZ A D Aq AjL .n 186 Akn [Φ x0,Φ x1] [] =
 br (A.lt ↑(Bb x1) ↑(Bb x0))
 (Δ ((iv ↑(Bb x0),[])))
 (Δ ((iv ↑(Bb x1),[]))):=by kernel_rfl
theorem AqP(x0:Rw)(x1:Int):BZ A D Aq AjM .n 187 Ako [Φ x0,iv x1] [] =
 br (A.lt x1 0)
 (Δ ((Ati (Value.int φ 0),[])))
 (br (A.le (↑(Bb x0)) x1)
 (Δ ((Ati (Value.int φ 0),[])))
 (unI x1 λi=>
 Bh x0 i λcs=>
 dk [.J .u32,.N] [.l cs] λn=>
 Δ ((Ati (Value.int φ (A.conv φ n)),[])))):=by kernel_rfl
theorem Aq2(x0 x1:Rw):BZ A D Aq Sx .n 228 Wu [Φ x0,Φ x1] [] =
 Ag D (ω 186) [Φ x0,Φ x1] [] [.i,.E] λn=>
 Ag D (ο 228 0) [Φ x0,Φ x1,iv (A.sub Ω n 1)] [] [.t,.C,.x,.X,.Y] λc l o1=>
 br (Bg 0 c)
 (dk [.I,.N,.E] [.l l,.o o1] λn1=>
 Δ ((iv n1,[])))
 (br (Bg 1 c)
 (E0 l<|
 CW o1<|
 Δ ((iv 0,[])))
 (Θ)):=by kernel_rfl
theorem Aaa(t0 t1:Rw)(t5:Int):C2 A D Aq Sx .n 228 0 (AN Wu 0).fst (AN Wu 0).snd [Φ t0,Φ t1,iv t5] [] =
 br (A.le 0 t5)
 (Ag D (ω 187) [Φ t0,iv t5] [] [.j .u64,.E] λn=>
 Ag D (ω 187) [Φ t1,iv t5] [] [.j .u64,.E] λn1=>
 br (A.lt n n1)
 (Δ ((Ath [bv U,iv (-1)],[])))
 (Ag D (ω 187) [Φ t0,iv t5] [] [.j .u64,.E] λn2=>
 Ag D (ω 187) [Φ t1,iv t5] [] [.j .u64,.E] λn3=>
 br (A.lt n3 n2)
 (Δ ((Ath [bv U,iv 1],[])))
 (AT D (ο 228 0) [Φ t0,Φ t1,iv (A.sub Ω t5 1)] [] λr4 o4=>
 AI 0 [] (AH.mk [] 0 Θ) [] r4 o4)))
 (Δ ((Ath [iv 0],[]))):=by kernel_rfl
theorem Aqp(x0 x1:Rw):BZ A D Aq Sm .n 129 Wj [Φ x0,Φ x1] [] =
 Ag D (ο 129 0) [Φ x0,Φ x1,π 0 0 0 1,Ati (Value.int φ 0),iv 0] [Ψ [] U U] [.t,.C,.x,.X,.Y] λc l o=>
 br (Bg 1 c)
 (dk [.C,.q 1 1,.N,.D,.R,.X,.E] [.l l,.o o] λn cs1=>
 br ((0+n*1).ble cs1.length) (AT D (ω 149) [Φ (Bk n 1 (ε (n*1) cs1))] [] λr1 o1=>
 Lv r1 λxs=>
 CW o1<|
 Δ ((Φ xs,[]))) Θ)
 (Θ):=by kernel_rfl
theorem ZS(t0 t1:Rw)(n5:Nat)(c5:Aa)(t6 t7:Int):C2 A D Aq Sm (.b (.b (.b .n (.b .n (.f .n))) .n) .n) 129 0 (AN Wj 0).fst (AN Wj 0).snd [Φ t0,Φ t1,π 0 0 n5 1,Ati (Value.int φ t6),iv t7] [{ cells:=c5,st:=U,ex:=U }] =
 Ag D (ω 186) [Φ t0,Φ t1] [] [.i,.E] λn=>
 br (A.le t7 n)
 (Ag D (ω 187) [Φ t0,iv t7] [] [.j .u64,.E] λn1=>
 Ag D (ω 187) [Φ t1,iv t7] [] [.j .u64,.E] λn2=>
 br (A.eq 4294967296 0)
 (Θ)
 (br (Bo (n5+1) 4) (br ((0+n5*1).ble c5.length) (br (A.eq 4294967296 0) Θ (AT D (ο 129 0) [Φ t0,Φ t1,π 0 0 (n5+1) 1,Ati (Value.int φ (A.quo φ (A.add φ (A.add φ n1 n2) t6) 4294967296)),iv (A.add Ω t7 1)] [Ψ (Atg 0 (ε (0+n5*1) c5)++[Ati (Value.int υ (A.conv υ (A.rem φ (A.add φ (A.add φ n1 n2) t6) 4294967296)))]) U U] λr3 o3=>
 AI 1 [2] (AH.mk [(2,Ψ (Atg 0 (ε (0+n5*1) c5)++[Ati (Value.int υ (A.conv υ (A.rem φ (A.add φ (A.add φ n1 n2) t6) 4294967296)))]) U U),(1,Ψ [Ati (Value.int υ (A.conv υ (A.rem φ (A.add φ (A.add φ n1 n2) t6) 4294967296)))] U U)] 3 Θ) [0] r3 o3)) Θ) Θ))
 (Δ ((Ath [iv 0,π 1 0 n5 1],[BO.del,Atb (Ψ c5 U U)]))):=by kernel_rfl
theorem AqK(x0 x1:Rw):BZ A D Aq Sr .n 182 Wn [Φ x0,Φ x1] [] =
 Ag D (ω 228) [Φ x0,Φ x1] [] [.i,.E] λn=>
 br (A.lt n 0)
 (Δ ((Ath [Φ [],bv Ξ],[])))
 (Ag D (ο 182 0) [Φ x0,Φ x1,π 0 0 0 1,Ati (Value.int φ 0),iv 0] [Ψ [] U U] [.t,.C,.x,.X,.Y] λc l o1=>
 br (Bg 1 c)
 (dk [.C,.q 1 1,.N,.D,.R,.X,.E] [.l l,.o o1] λn1 cs1=>
 br ((0+n1*1).ble cs1.length) (AT D (ω 149) [Φ (Bk n1 1 (ε (n1*1) cs1))] [] λr2 o2=>
 Lv r2 λxs=>
 CW o2<|
 Δ ((Ath [Φ xs,bv U],[]))) Θ)
 (Θ)):=by kernel_rfl
theorem ZY(t0 t1:Rw)(n6:Nat)(c6:Aa)(t7 t8:Int):C2 A D Aq Sr (.b (.b (.b .n (.b .n (.f .n))) .n) .n) 182 0 (AN Wn 0).fst (AN Wn 0).snd [Φ t0,Φ t1,π 0 0 n6 1,Ati (Value.int φ t7),iv t8] [{ cells:=c6,st:=U,ex:=U }] =
 Ag D (ω 186) [Φ t0,Φ t1] [] [.i,.E] λn=>
 br (A.lt t8 n)
 (Ag D (ω 187) [Φ t0,iv t8] [] [.j .u64,.E] λn1=>
 Ag D (ω 187) [Φ t1,iv t8] [] [.j .u64,.E] λn2=>
 br (A.eq 4294967296 0)
 (Θ)
 (br (Bo (n6+1) 4) (br ((0+n6*1).ble c6.length) (br (A.eq 4294967296 0) Θ (AT D (ο 182 0) [Φ t0,Φ t1,π 0 0 (n6+1) 1,Ati (Value.int φ (A.sub φ 1 (A.quo φ (A.sub φ (A.sub φ (A.add φ n1 4294967296) n2) t7) 4294967296))),iv (A.add Ω t8 1)] [Ψ (Atg 0 (ε (0+n6*1) c6)++[Ati (Value.int υ (A.conv υ (A.rem φ (A.sub φ (A.sub φ (A.add φ n1 4294967296) n2) t7) 4294967296)))]) U U] λr3 o3=>
 AI 1 [2] (AH.mk [(2,Ψ (Atg 0 (ε (0+n6*1) c6)++[Ati (Value.int υ (A.conv υ (A.rem φ (A.sub φ (A.sub φ (A.add φ n1 4294967296) n2) t7) 4294967296)))]) U U),(1,Ψ [Ati (Value.int υ (A.conv υ (A.rem φ (A.sub φ (A.sub φ (A.add φ n1 4294967296) n2) t7) 4294967296)))] U U)] 3 Θ) [0] r3 o3)) Θ) Θ))
 (Δ ((Ath [iv 0,π 1 0 n6 1],[BO.del,Atb (Ψ c6 U U)]))):=by kernel_rfl
theorem Aq3(x0:Rw)(x1:Int):BZ A D Aq Sy .n 229 Wv [Φ x0,Ati (Value.int φ x1)] [] =
 Ag D (ο 229 0) [Φ x0,Ati (Value.int φ x1),π 0 0 0 1,Ati (Value.int φ 0),iv 0] [Ψ [] U U] [.t,.C,.x,.X,.Y] λc l o=>
 br (Bg 1 c)
 (dk [.C,.q 1 1,.J .u64,.N,.D,.R,.X,.E] [.l l,.o o] λn n1 cs1=>
 br (Bo (n+1) 4) (br ((0+n*1).ble cs1.length) (br ((0+(n+1)*1).ble (Atg 0 (ε (0+n*1) cs1)++[Ati (Value.int υ (A.conv υ n1))]).length) (AT D (ω 149) [Φ (Bk (n+1) 1 (ε ((n+1)*1) (Atg 0 (Atg 0 (ε (0+n*1) cs1)++[Ati (Value.int υ (A.conv υ n1))]))))] [] λr1 o1=>
 Lv r1 λxs=>
 CW o1<|
 Δ ((Φ xs,[]))) Θ) Θ) Θ)
 (Θ):=by kernel_rfl
theorem Aab(t0:Rw)(t1:Int)(n5:Nat)(c5:Aa)(t6 t7:Int):C2 A D Aq Sy (.b (.b (.b .n (.b .n (.f .n))) .n) .n) 229 0 (AN Wv 0).fst (AN Wv 0).snd [Φ t0,Ati (Value.int φ t1),π 0 0 n5 1,Ati (Value.int φ t6),iv t7] [{ cells:=c5,st:=U,ex:=U }] =
 br (A.lt t7 ↑(Bb t0))
 (Ag D (ω 187) [Φ t0,iv t7] [] [.j .u64,.E] λn=>
 br (A.eq 4294967296 0)
 (Θ)
 (br (Bo (n5+1) 4) (br ((0+n5*1).ble c5.length) (br (A.eq 4294967296 0) Θ (AT D (ο 229 0) [Φ t0,Ati (Value.int φ t1),π 0 0 (n5+1) 1,Ati (Value.int φ (A.quo φ (A.add φ (A.mul φ n t1) t6) 4294967296)),iv (A.add Ω t7 1)] [Ψ (Atg 0 (ε (0+n5*1) c5)++[Ati (Value.int υ (A.conv υ (A.rem φ (A.add φ (A.mul φ n t1) t6) 4294967296)))]) U U] λr1 o1=>
 AI 1 [2] (AH.mk [(2,Ψ (Atg 0 (ε (0+n5*1) c5)++[Ati (Value.int υ (A.conv υ (A.rem φ (A.add φ (A.mul φ n t1) t6) 4294967296)))]) U U),(1,Ψ [Ati (Value.int υ (A.conv υ (A.rem φ (A.add φ (A.mul φ n t1) t6) 4294967296)))] U U)] 3 Θ) [0] r1 o1)) Θ) Θ))
 (Δ ((Ath [iv 0,π 1 0 n5 1,Ati (Value.int φ t6)],[BO.del,Atb (Ψ c5 U U)]))):=by kernel_rfl
theorem AqL(x0 x1:Rw):BZ A D Aq LN .n 183 PB [Φ x0,Φ x1] [] =
 Ag D (ο 183 0) [Φ x0,Φ x1,Φ [],iv (A.sub Ω (↑(Bb x1)) 1)] [] [.t,.C,.x,.X,.Y] λc l o=>
 br (Bg 1 c)
 (dk [.L,.N,.E] [.l l,.o o] λxs=>
 Ag D (ω 149) [Φ xs] [] [.l,.E] λxs1=>
 Δ ((Φ xs1,[])))
 (Θ):=by kernel_rfl
theorem ZZ(t0 t1 t5:Rw)(t6:Int):C2 A D Aq LN .n 183 0 (AN PB 0).fst (AN PB 0).snd [Φ t0,Φ t1,Φ t5,iv t6] [] =
 br (A.le 0 t6)
 (Ag D (ο 183 1) [Φ t0,Φ t1,Φ t5,iv t6,π 0 0 1 1,iv 0] [Ψ [Ati (Value.int υ 0)] U U] [.t,.C,.x,.X,.Y] λc l o=>
 br (Bg 3 c)
 (dk [.L,.L,.I,.C,.q 1 1,.N,.D,.R,.X,.E] [.l l,.o o] λxs xs1 n n1 cs1=>
 unI n λi=>
 Bh xs1 i λcs2=>
 dk [.J .u32,.N] [.l cs2] λn2=>
 Ag D (ω 229) [Φ xs,Ati (Value.int φ (A.conv φ n2))] [] [.l,.E] λxs2=>
 br ((0+n1*1).ble cs1.length) (AT D (ω 129) [Φ (Bk n1 1 (ε (n1*1) cs1)),Φ xs2] [] λr2 o2=>
 Lv r2 λxs3=>
 CW o2<|
 AT D (ο 183 0) [Φ xs,Φ xs1,Φ xs3,iv (A.sub Ω n 1)] [] λr3 o3=>
 AI 0 [] (AH.mk [(1,Ψ cs1 Ξ U)] 2 Θ) [] r3 o3) Θ)
 (Θ))
 (Δ ((Ath [iv 0,Φ t5],[]))):=by kernel_rfl
theorem Z0(t0 t1 t5:Rw)(t6:Int)(n7:Nat)(c7:Aa)(t8:Int):C2 A D Aq LN .n 183 1 (AN PB 1).fst (AN PB 1).snd [Φ t0,Φ t1,Φ t5,iv t6,π 0 0 n7 1,iv t8] [{ cells:=c7,st:=U,ex:=U }] =
 br (A.lt t8 ↑(Bb t5))
 (unI t8 λi=>
 Bh t5 i λcs=>
 dk [.J .u32,.N] [.l cs] λn=>
 br (Bo (n7+1) 4) (br ((0+n7*1).ble c7.length) (AT D (ο 183 1) [Φ t0,Φ t1,Φ t5,iv t6,π 0 0 (n7+1) 1,iv (A.add Ω t8 1)] [Ψ (Atg 0 (ε (0+n7*1) c7)++[Ati (Value.int υ n)]) U U] λr o=>
 AI 1 [2] (AH.mk [(2,Ψ (Atg 0 (ε (0+n7*1) c7)++[Ati (Value.int υ n)]) U U),(1,Ψ [Ati (Value.int υ n)] U U)] 3 Θ) [0] r o) Θ) Θ)
 (Δ ((Ath [iv 2,Φ t0,Φ t1,iv t6,π 1 0 n7 1],[BO.del,Atb (Ψ c7 U U)]))):=by kernel_rfl
theorem AqZ(x0 x1:Rw):BZ A D Aq NB .n 210 Wt [Φ x0,Φ x1] [] =
 br (A.eq ↑(Bb x0) ↑(Bb x1))
 (Ag D (ο 210 0) [Φ x0,Φ x1,iv 0] [] [.t,.C,.x,.X,.Y] λc l o=>
 br (Bg 0 c)
 (dk [.B,.N,.E] [.l l,.o o] λb=>
 Δ ((bv b,[])))
 (br (Bg 1 c)
 (E0 l<|
 CW o<|
 Δ ((bv U,[])))
 (Θ)))
 (Δ ((bv Ξ,[]))):=by kernel_rfl
theorem Qr(t0 t1:Rw)(t5:Int):C2 A D Aq NB .n 210 0 (AN Wt 0).fst (AN Wt 0).snd [Φ t0,Φ t1,iv t5] [] =
 br (A.lt t5 ↑(Bb t0))
 (unI t5 λi=>
 Bh t0 i λcs=>
 dk [.J .u32,.N] [.l cs] λn=>
 unI t5 λi1=>
 Bh t1 i1 λcs1=>
 dk [.J .u32,.N] [.l cs1] λn1=>
 br (A.eq n n1)
 (AT D (ο 210 0) [Φ t0,Φ t1,iv (A.add Ω t5 1)] [] λr o=>
 AI 0 [] (AH.mk [] 0 Θ) [] r o)
 (Δ ((Ath [bv U,bv Ξ],[]))))
 (Δ ((Ath [iv 0],[]))):=by kernel_rfl
end
section
open Go.RowKit
def Aj8:MFn:=AE [] 128
def Ajs:Hnt:=⟨[(149,(.ls,[]))],[],[]⟩
def Apc:MFn:=AE [] 75
def AoE:Hnt:=⟨[(128,(.agg Bv,[]))],[],[(4,[.bool]),(6,[.ls])]⟩
def Ao6:MFn:=AE [] 56
def AoA:Hnt:=⟨[(128,(.agg Bv,[])),(129,(.ls,[]))],[],[]⟩
def Apb:MFn:=AE [] 69
def AoD:Hnt:=⟨[(149,(.ls,[]))],[],[(4,[.ls]),(9,[.bool])]⟩
def Akk:MFn:=AE [] 179
def AjI:Hnt:=⟨[(128,(.agg Bv,[]))],[],[(4,[.bool]),(7,[.ls])]⟩
def Aj3:MFn:=AE [] 122
def AaK:Hnt:=⟨[(69,(.int .i64,[])),(122,(.agg Bv,[])),(128,(.agg Bv,[])),(129,(.ls,[])),(182,(.tup [.ls,.bool],[]))],[],[(7,Bv),(11,Bv),(16,[.ls]),(18,[.ls]),(21,Bv),(25,Bv),(30,[.ls]),(32,[.ls]),(35,Bv),(38,Bv),(39,Bv),(43,[.ls]),(45,[.ls]),(54,[.ls]),(56,[.ls])]⟩
def Aj5:MFn:=AE [] 124
def Ajp:Hnt:=⟨[(122,(.agg Bv,[])),(179,(.agg Bv,[]))],[],[(5,Bv),(6,Bv)]⟩
def Aj4:MFn:=AE [] 123
def Ajo:Hnt:=⟨[(69,(.int .i64,[])),(128,(.agg Bv,[])),(183,(.ls,[]))],[],[(5,Bv),(7,Bv),(12,[.ls]),(14,[.ls])]⟩
def Ao5:MFn:=AE [] 53
def Aoz:Hnt:=⟨[(69,(.int .i64,[])),(124,(.agg Bv,[]))],[],[(5,Bv),(6,Bv)]⟩
def Akd:MFn:=AE [] 152
def AjA:Hnt:=⟨[(210,(.bool,[]))],[],[(6,[.bool]),(8,[.bool]),(12,[.ls]),(14,[.ls])]⟩
def WU:List (Nat × MFn):=[(128,Aj8),(75,Apc),(56,Ao6),(69,Apb),(179,Akk),(122,Aj3),(124,Aj5),(123,Aj4),(53,Ao5),(152,Akd)]
variable (A:Ar) (D:Orc)
theorem Aqo(x0:Bool)(x1:Rw):BZ A D Aq Ajs .n 128 Aj8 [bv x0,Φ x1] [] =
 Ag D (ω 149) [Φ x1] [] [.l,.E] λxs=>
 br (A.eq (↑(Bb xs)) 0)
 (Δ ((ξ [bv Ξ,Φ []],[])))
 (Δ ((ξ [bv x0,Φ xs],[]))):=by kernel_rfl
theorem e75(x0_0:Bool)(x0_1:Rw):BZ A D Aq AoE .n 75 Apc [ξ [bv x0_0,Φ x0_1]] [] =
 Ag D (ω 128) [bv x0_0,Φ x0_1] [] [.a,.B,.L,.N,.E] λb xs=>
 Δ ((ξ [bv b,Φ xs],[])):=by kernel_rfl
theorem e56(x0:Int):BZ A D Aq AoA (.b (.b (.b .n (.f .n)) .n) (.b .n (.b .n (.f .n)))) 56 Ao6 [iv x0] [] =
 br (A.le 0 x0)
 (br (A.eq 4294967296 0)
 (Θ)
 (br (A.eq 4294967296 0) Θ (AT D (ω 128) [bv Ξ,Φ [[Ati (Value.int υ (A.conv υ (A.rem Ω x0 4294967296)))],[Ati (Value.int υ (A.conv υ (A.quo Ω x0 4294967296)))]]] [] λr o=>
 dk [.a,.B,.L,.N,.E] [.v r,.o o] λb xs=>
 Δ ((ξ [bv b,Φ xs],[])))))
 (br (A.eq 4294967296 0)
 (Θ)
 (br (A.eq 4294967296 0) Θ (AT D (ω 129) [Φ [[Ati (Value.int υ (A.conv υ (A.rem Ω (A.sub Ω 0 (A.add Ω x0 1)) 4294967296)))],[Ati (Value.int υ (A.conv υ (A.quo Ω (A.sub Ω 0 (A.add Ω x0 1)) 4294967296)))]],Φ [[Ati (Value.int υ 1)]]] [] λr o=>
 Lv r λxs=>
 CW o<|
 Ag D (ω 128) [bv U,Φ xs] [] [.a,.B,.L,.N,.E] λb xs1=>
 Δ ((ξ [bv b,Φ xs1],[]))))):=by kernel_rfl
theorem e69(x0_0:Bool)(x0_1:Rw):BZ A D Aq AoD .n 69 Apb [ξ [bv x0_0,Φ x0_1]] [] =
 Ag D (ω 149) [Φ x0_1] [] [.l,.E] λxs=>
 br (A.eq (↑(Bb xs)) 0)
 (Δ ((iv 0,[])))
 (br x0_0
 (Δ ((iv (-1),[])))
 (Δ ((iv 1,[])))):=by kernel_rfl
theorem AqJ(x0_0:Bool)(x0_1:Rw):BZ A D Aq AjI .n 179 Akk [ξ [bv x0_0,Φ x0_1]] [] =
 br (A.not x0_0)
 (Ag D (ω 128) [bv U,Φ x0_1] [] [.a,.B,.L,.N,.E] λb xs=>
 Δ ((ξ [bv b,Φ xs],[])))
 (Ag D (ω 128) [bv Ξ,Φ x0_1] [] [.a,.B,.L,.N,.E] λb xs=>
 Δ ((ξ [bv b,Φ xs],[]))):=by kernel_rfl
theorem An7(x0_0:Bool)(x0_1:Rw)(x1_0:Bool)(x1_1:Rw):BZ A D Aq AaK .n 122 Aj3 [ξ [bv x0_0,Φ x0_1],ξ [bv x1_0,Φ x1_1]] [] =
 Ag D (ω 69) [ξ [bv x0_0,Φ x0_1]] [] [.i,.E] λn=>
 br (A.lt n 0)
 (Ag D (ω 69) [ξ [bv x1_0,Φ x1_1]] [] [.i,.E] λn1=>
 br (A.lt n1 0)
 (Ag D (ω 129) [Φ x0_1,Φ x1_1] [] [.l,.E] λxs=>
 Ag D (ω 128) [bv U,Φ xs] [] [.a,.B,.L,.N,.E] λb xs1=>
 Δ ((ξ [bv b,Φ xs1],[])))
 (Ag D (ω 69) [ξ [bv x0_0,Φ x0_1]] [] [.i,.E] λn2=>
 br (A.le 0 n2)
 (Ag D (ω 69) [ξ [bv x1_0,Φ x1_1]] [] [.i,.E] λn3=>
 br (A.le 0 n3)
 (Ag D (ω 129) [Φ x0_1,Φ x1_1] [] [.l,.E] λxs=>
 Ag D (ω 128) [bv Ξ,Φ xs] [] [.a,.B,.L,.N,.E] λb xs1=>
 Δ ((ξ [bv b,Φ xs1],[])))
 (Ag D (ω 69) [ξ [bv x0_0,Φ x0_1]] [] [.i,.E] λn4=>
 br (A.lt n4 0)
 (Ag D (ω 122) [ξ [bv x1_0,Φ x1_1],ξ [bv x0_0,Φ x0_1]] [] [.a,.B,.L,.N,.E] λb xs=>
 Δ ((ξ [bv b,Φ xs],[])))
 (Ag D (ω 182) [Φ x0_1,Φ x1_1] [] [.t,.L,.B,.N,.E] λxs b=>
 br b
 (Ag D (ω 128) [bv Ξ,Φ xs] [] [.a,.B,.L,.N,.E] λb1 xs1=>
 Δ ((ξ [bv b1,Φ xs1],[])))
 (Ag D (ω 182) [Φ x1_1,Φ x0_1] [] [.t,.L,.B,.N,.E] λxs1 _=>
 Ag D (ω 128) [bv U,Φ xs1] [] [.a,.B,.L,.N,.E] λb2 xs2=>
 Δ ((ξ [bv b2,Φ xs2],[]))))))
 (Ag D (ω 69) [ξ [bv x0_0,Φ x0_1]] [] [.i,.E] λn3=>
 br (A.lt n3 0)
 (Ag D (ω 122) [ξ [bv x1_0,Φ x1_1],ξ [bv x0_0,Φ x0_1]] [] [.a,.B,.L,.N,.E] λb xs=>
 Δ ((ξ [bv b,Φ xs],[])))
 (Ag D (ω 182) [Φ x0_1,Φ x1_1] [] [.t,.L,.B,.N,.E] λxs b=>
 br b
 (Ag D (ω 128) [bv Ξ,Φ xs] [] [.a,.B,.L,.N,.E] λb1 xs1=>
 Δ ((ξ [bv b1,Φ xs1],[])))
 (Ag D (ω 182) [Φ x1_1,Φ x0_1] [] [.t,.L,.B,.N,.E] λxs1 _=>
 Ag D (ω 128) [bv U,Φ xs1] [] [.a,.B,.L,.N,.E] λb2 xs2=>
 Δ ((ξ [bv b2,Φ xs2],[])))))))
 (Ag D (ω 69) [ξ [bv x0_0,Φ x0_1]] [] [.i,.E] λn1=>
 br (A.le 0 n1)
 (Ag D (ω 69) [ξ [bv x1_0,Φ x1_1]] [] [.i,.E] λn2=>
 br (A.le 0 n2)
 (Ag D (ω 129) [Φ x0_1,Φ x1_1] [] [.l,.E] λxs=>
 Ag D (ω 128) [bv Ξ,Φ xs] [] [.a,.B,.L,.N,.E] λb xs1=>
 Δ ((ξ [bv b,Φ xs1],[])))
 (Ag D (ω 69) [ξ [bv x0_0,Φ x0_1]] [] [.i,.E] λn3=>
 br (A.lt n3 0)
 (Ag D (ω 122) [ξ [bv x1_0,Φ x1_1],ξ [bv x0_0,Φ x0_1]] [] [.a,.B,.L,.N,.E] λb xs=>
 Δ ((ξ [bv b,Φ xs],[])))
 (Ag D (ω 182) [Φ x0_1,Φ x1_1] [] [.t,.L,.B,.N,.E] λxs b=>
 br b
 (Ag D (ω 128) [bv Ξ,Φ xs] [] [.a,.B,.L,.N,.E] λb1 xs1=>
 Δ ((ξ [bv b1,Φ xs1],[])))
 (Ag D (ω 182) [Φ x1_1,Φ x0_1] [] [.t,.L,.B,.N,.E] λxs1 _=>
 Ag D (ω 128) [bv U,Φ xs1] [] [.a,.B,.L,.N,.E] λb2 xs2=>
 Δ ((ξ [bv b2,Φ xs2],[]))))))
 (Ag D (ω 69) [ξ [bv x0_0,Φ x0_1]] [] [.i,.E] λn2=>
 br (A.lt n2 0)
 (Ag D (ω 122) [ξ [bv x1_0,Φ x1_1],ξ [bv x0_0,Φ x0_1]] [] [.a,.B,.L,.N,.E] λb xs=>
 Δ ((ξ [bv b,Φ xs],[])))
 (Ag D (ω 182) [Φ x0_1,Φ x1_1] [] [.t,.L,.B,.N,.E] λxs b=>
 br b
 (Ag D (ω 128) [bv Ξ,Φ xs] [] [.a,.B,.L,.N,.E] λb1 xs1=>
 Δ ((ξ [bv b1,Φ xs1],[])))
 (Ag D (ω 182) [Φ x1_1,Φ x0_1] [] [.t,.L,.B,.N,.E] λxs1 _=>
 Ag D (ω 128) [bv U,Φ xs1] [] [.a,.B,.L,.N,.E] λb2 xs2=>
 Δ ((ξ [bv b2,Φ xs2],[])))))):=by kernel_rfl
theorem Aql(x0_0:Bool)(x0_1:Rw)(x1_0:Bool)(x1_1:Rw):BZ A D Aq Ajp .n 124 Aj5 [ξ [bv x0_0,Φ x0_1],ξ [bv x1_0,Φ x1_1]] [] =
 Ag D (ω 179) [ξ [bv x1_0,Φ x1_1]] [] [.a,.B,.L,.N,.E] λb xs=>
 Ag D (ω 122) [ξ [bv x0_0,Φ x0_1],ξ [bv b,Φ xs]] [] [.a,.B,.L,.N,.E] λb1 xs1=>
 Δ ((ξ [bv b1,Φ xs1],[])):=by kernel_rfl
theorem Aqk(x0_0:Bool)(x0_1:Rw)(x1_0:Bool)(x1_1:Rw):BZ A D Aq Ajo .n 123 Aj4 [ξ [bv x0_0,Φ x0_1],ξ [bv x1_0,Φ x1_1]] [] =
 Ag D (ω 69) [ξ [bv x0_0,Φ x0_1]] [] [.i,.E] λn=>
 Ag D (ω 69) [ξ [bv x1_0,Φ x1_1]] [] [.i,.E] λn1=>
 br (A.lt (A.mul Ω n n1) 0)
 (Ag D (ω 183) [Φ x0_1,Φ x1_1] [] [.l,.E] λxs=>
 Ag D (ω 128) [bv U,Φ xs] [] [.a,.B,.L,.N,.E] λb xs1=>
 Δ ((ξ [bv b,Φ xs1],[])))
 (Ag D (ω 183) [Φ x0_1,Φ x1_1] [] [.l,.E] λxs=>
 Ag D (ω 128) [bv Ξ,Φ xs] [] [.a,.B,.L,.N,.E] λb xs1=>
 Δ ((ξ [bv b,Φ xs1],[]))):=by kernel_rfl
theorem e53(x0_0:Bool)(x0_1:Rw)(x1_0:Bool)(x1_1:Rw):BZ A D Aq Aoz .n 53 Ao5 [ξ [bv x0_0,Φ x0_1],ξ [bv x1_0,Φ x1_1]] [] =
 Ag D (ω 124) [ξ [bv x0_0,Φ x0_1],ξ [bv x1_0,Φ x1_1]] [] [.a,.B,.L,.N,.E] λb xs=>
 Ag D (ω 69) [ξ [bv b,Φ xs]] [] [.i,.E] λn=>
 Δ ((iv n,[])):=by kernel_rfl
theorem AqA(x0_0:Bool)(x0_1:Rw)(x1_0:Bool)(x1_1:Rw):BZ A D Aq AjA .n 152 Akd [ξ [bv x0_0,Φ x0_1],ξ [bv x1_0,Φ x1_1]] [] =
 br (A.beq x0_0 x1_0)
 (Ag D (ω 210) [Φ x0_1,Φ x1_1] [] [.b,.E] λb=>
 br b
 (Δ ((bv U,[])))
 (Δ ((bv Ξ,[]))))
 (Δ ((bv Ξ,[]))):=by kernel_rfl
end
section
open Go.RowKit
def Aeg:MFn:=AE [⟨36,(mB 118),[],[2,4,5],[(1,((mB 48),([],[2])))]⟩] 77
def AaT:Hnt:=⟨[(122,(.agg Bv,[]))],[(0,[(1,([.ptr 1 0,.ptr 2 0],[.del,.box Bv,.box Bv]))])],[(10,[.ls]),(16,[.ls]),(18,Bz),(20,[.int .i64]),(27,Bv),(29,[.ls]),(31,Bz),(33,Bv),(35,Bv)]⟩
def Ary:MFn:=AE [⟨27,(mB 118),[],[2,4,5],[(1,((mB 48),([],[2])))]⟩] 87
def Arq:MFn:=AE [] 31
def Aro:MFn:=AE [⟨26,(mB 133),[],[],[(0,((mB 64),([],[]))),(1,([],([],[])))]⟩] 29
def Ars:MFn:=AE [⟨65,(mB 38),[],[2],[(0,((mB 16),([],[2]))),(2,([],([],[2])))]⟩,⟨65,(mB 70),[],[2],[(0,((mB 16),([],[2]))),(4,([],([],[2])))]⟩] 37
def Ox:List (Nat × MFn):=[(77,Aeg),(87,Ary),(31,Arq),(29,Aro),(37,Ars)]
variable (A:Ar) (D:Orc)
theorem e77(x0_0:Rw)(x0_1:Bool)(x0_2:Rw)(x1:Int):BZ A D Aq AaT .n 77 Aeg [ξ [Φ x0_0,bv x0_1,Φ x0_2],iv x1] [] =
 Ag D (ο 77 0) [iv x1,ψ 0 0,ψ 1 0,ψ 2 0,iv 0] [bk [Φ x0_0,bv x0_1,Φ x0_2],bk [bv Ξ,Φ []],bk [bv Ξ,Φ []]] [.t,.C,.x,.X,.Y] λc l o=>
 br (Bg 1 c)
 (dk [.P 1 0,.P 2 0,.N,.D,.T,.B,.L,.N,.T,.B,.L,.N,.E] [.l l,.o o] λ_ _ b1 xs1=>
 Δ ((ξ [bv b1,Φ xs1],[])))
 (Θ):=by kernel_rfl
theorem Ajd(t1:Int)(b2_0:Rw)(b2_1:Bool)(b2_2:Rw)(b4_0:Bool)(b4_1:Rw)(b5_0:Bool)(b5_1:Rw)(t6:Int):C2 A D Aq AaT .n 77 0 (AN Aeg 0).fst (AN Aeg 0).snd [iv t1,ψ 0 0,ψ 1 0,ψ 2 0,iv t6] [bk [Φ b2_0,bv b2_1,Φ b2_2],bk [bv b4_0,Φ b4_1],bk [bv b5_0,Φ b5_1]] =
 br (A.lt t6 ↑(Bb b2_0))
 (unI t6 λi=>
 Bh b2_0 i λcs=>
 dk [.I,.B,.L,.N] [.l cs] λn _ _=>
 br (A.eq n t1)
 (br (A.le 0 t1)
 (unI t6 λi1=>
 Bh b2_0 i1 λcs1=>
 dk [.I,.B,.L,.N] [.l cs1] λ_ b1 xs1=>
 Ag D (ω 122) [ξ [bv b5_0,Φ b5_1],ξ [bv b1,Φ xs1]] [] [.a,.B,.L,.N,.E] λb2 xs2=>
 AT D (ο 77 0) [iv t1,ψ 0 0,ψ 1 0,ψ 2 0,iv (A.add Ω t6 1)] [bk [Φ b2_0,bv b2_1,Φ b2_2],bk [bv b4_0,Φ b4_1],bk [bv b2,Φ xs2]] λr1 o1=>
 AI 3 [0,1,2] (AH.mk [(2,bk [bv b2,Φ xs2]),(1,bk [bv b4_0,Φ b4_1]),(0,bk [Φ b2_0,bv b2_1,Φ b2_2])] 3 Θ) [0,1,2] r1 o1)
 (AT D (ο 77 0) [iv t1,ψ 0 0,ψ 1 0,ψ 2 0,iv (A.add Ω t6 1)] [bk [Φ b2_0,bv b2_1,Φ b2_2],bk [bv b4_0,Φ b4_1],bk [bv b5_0,Φ b5_1]] λr o=>
 AI 3 [0,1,2] (AH.mk [(2,bk [bv b5_0,Φ b5_1]),(1,bk [bv b4_0,Φ b4_1]),(0,bk [Φ b2_0,bv b2_1,Φ b2_2])] 3 Θ) [0,1,2] r o))
 (AT D (ο 77 0) [iv t1,ψ 0 0,ψ 1 0,ψ 2 0,iv (A.add Ω t6 1)] [bk [Φ b2_0,bv b2_1,Φ b2_2],bk [bv b4_0,Φ b4_1],bk [bv b5_0,Φ b5_1]] λr o=>
 AI 3 [0,1,2] (AH.mk [(2,bk [bv b5_0,Φ b5_1]),(1,bk [bv b4_0,Φ b4_1]),(0,bk [Φ b2_0,bv b2_1,Φ b2_2])] 3 Θ) [0,1,2] r o))
 (Δ ((Ath [iv 0,ψ 1 0,ψ 2 0],[BO.del,Atb (bk [bv b4_0,Φ b4_1]),Atb (bk [bv b5_0,Φ b5_1])]))):=by kernel_rfl
end
section
open Go.RowKit
def Wi:MFn:=AE [⟨49,(mB 227),[(5,1)],[],[(1,((mB 98),([],[])))]⟩] 121
def Sl:Hnt:=⟨[],[(0,[(1,([.int .i64,.sl 1 1,.bool],[.del,.row U]))])],[(20,[.int .i64]),(21,[.int .i64]),(31,[.int .i64]),(32,[.int .i64]),(38,[.int .i64]),(39,[.int .i64])]⟩
def Aef:MFn:=AE [⟨29,(mB 26),[],[1,3],[(1,((mB 8),([],[1])))]⟩] 76
def AaS:Hnt:=⟨[(69,(.int .i64,[])),(77,(.agg Bv,[])),(121,(.ls,[]))],[(0,[(1,([.ls],[.del]))])],[(9,[.ls]),(15,[.ls]),(17,Bz),(19,[.int .i64]),(20,Bx)]⟩
def Aeb:MFn:=AE [⟨35,(mB 62),[(1000003,3)],[1,2],[(1,((mB 12),([],[1])))]⟩] 20
def AaN:Hnt:=⟨[(75,(.agg Bv,[])),(76,(.ls,[])),(77,(.agg Bv,[]))],[(0,[(1,([.ptr 1 0,.ptr 2 0],[.del,.box Bx,.box [.sl 4 3,.bool,.ls],.del,.row U]))])],[(7,Bv),(10,Bx),(19,[.ls]),(22,[.int .i64]),(23,[.int .i64]),(24,Bx),(27,[.int .i64]),(28,[.int .i64]),(34,Bx)]⟩
def PC:MFn:=AE [⟨36,(mB 99),[(5,3)],[],[(1,((mB 34),([],[])))]⟩,⟨36,(mB 162),[(5,3)],[],[(3,((mB 32),([],[])))]⟩] 211
def LO:Hnt:=⟨[],[(0,[(1,([.ls,.sl 1 3],[.del,.row U]))]),(1,[(3,([.sl 1 3],[.del,.row U]))])],[(18,Bz),(19,Bz),(31,Bz),(32,Bz)]⟩
def Ake:MFn:=AE [] 153
def AjB:Hnt:=⟨[(20,(.agg Bx,[])),(122,(.agg Bv,[])),(211,(.ls,[]))],[],[(6,[.ls]),(8,[.ls]),(11,Bv),(13,Bv)]⟩
def Aee:MFn:=AE [⟨41,(mB 124),[(1000005,3)],[2,3,4],[(1,((mB 48),([],[2,3])))]⟩] 73
def AaR:Hnt:=⟨[(20,(.agg Bx,[])),(123,(.agg Bv,[]))],[(0,[(1,([.ptr 2 0,.ptr 3 0],[.del,.del,.box Bx,.box [.sl 5 3,.bool,.ls],.del,.row U]))])],[(8,Bv),(9,Bv),(14,[.ls]),(20,[.ls]),(22,[.ls]),(24,Bz),(26,[.int .i64]),(28,[.ls]),(30,Bz),(32,Bv),(33,Bv),(39,Bx)]⟩
def Arw:MFn:=AE [] 81
def Apd:MFn:=AE [] 80
def AoF:Hnt:=⟨[(75,(.agg Bv,[]))],[],[(3,Bv)]⟩
def Aeh:MFn:=AE [⟨57,(mB 44),[],[2,3],[(0,((mB 16),([],[2,3]))),(1,([],([],[2,3])))]⟩] 78
def Qx:Hnt:=⟨[(152,(.bool,[]))],[(0,[(0,([.bool],[.del,.del])),(1,([],[.del,.del]))])],[(7,[.ls]),(10,[.ls]),(15,Bv),(17,Bv),(23,[.ls]),(29,[.ls]),(31,Bz),(33,[.int .i64]),(35,[.ls]),(37,Bz),(39,[.int .i64]),(43,[.ls]),(45,Bz),(47,Bv),(49,[.ls]),(51,Bz),(53,Bv)]⟩
def Mb:List (Nat × MFn):=[(121,Wi),(76,Aef),(20,Aeb),(211,PC),(153,Ake),(73,Aee),(81,Arw),(80,Apd),(78,Aeh)]
variable (A:Ar) (D:Orc)
theorem Aqj(x0:Rw)(x1:Int):BZ A D Aq Sl .n 121 Wi [Φ x0,iv x1] [] =
 Ag D (ο 121 0) [Φ x0,iv x1,π 0 0 0 1,bv Ξ,iv 0] [Ψ [] U U] [.t,.C,.x,.X,.Y] λc l o=>
 br (Bg 1 c)
 (dk [.I,.C,.q 1 1,.B,.N,.D,.R,.X,.E] [.l l,.o o] λn n1 b cs1=>
 br (A.not b)
 (br (Bo (n1+1) 8) (br ((0+n1*1).ble cs1.length) (br ((0+(n1+1)*1).ble (Atg 0 (ε (0+n1*1) cs1)++[iv n]).length) (Δ ((Φ (Bk (n1+1) 1 (ε ((n1+1)*1) (Atg 0 (Atg 0 (ε (0+n1*1) cs1)++[iv n])))),[]))) Θ) Θ) Θ)
 (br ((0+n1*1).ble cs1.length) (Δ ((Φ (Bk n1 1 (ε (n1*1) cs1)),[]))) Θ))
 (Θ):=by kernel_rfl
theorem ZR(t0:Rw)(t1:Int)(n5:Nat)(c5:Aa)(t6:Bool)(t7:Int):C2 A D Aq Sl .n 121 0 (AN Wi 0).fst (AN Wi 0).snd [Φ t0,iv t1,π 0 0 n5 1,bv t6,iv t7] [{ cells:=c5,st:=U,ex:=U }] =
 br (A.lt t7 ↑(Bb t0))
 (br (A.not t6)
 (unI t7 λi=>
 Bh t0 i λcs=>
 dk [.I,.N] [.l cs] λn=>
 br (A.le t1 n)
 (br (Bo (n5+1) 8) (br ((0+n5*1).ble c5.length) (unI t7 λi1=>
 Bh t0 i1 λcs1=>
 dk [.I,.N] [.l cs1] λn1=>
 br (A.eq n1 t1)
 (AT D (ο 121 0) [Φ t0,iv t1,π 0 0 (n5+1) 1,bv U,iv (A.add Ω t7 1)] [Ψ (Atg 0 (ε (0+n5*1) c5)++[iv t1]) U U] λr o=>
 AI 1 [2] (AH.mk [(2,Ψ (Atg 0 (ε (0+n5*1) c5)++[iv t1]) U U),(1,Ψ [iv t1] U U)] 3 Θ) [0] r o)
 (unI t7 λi2=>
 Bh t0 i2 λcs2=>
 dk [.I,.N] [.l cs2] λn2=>
 br (Bo (n5+1+1) 8) (br ((0+(n5+1)*1).ble (Atg 0 (ε (0+n5*1) c5)++[iv t1]).length) (AT D (ο 121 0) [Φ t0,iv t1,π 0 0 (n5+1+1) 1,bv U,iv (A.add Ω t7 1)] [Ψ (Atg 0 (ε (0+(n5+1)*1) (Atg 0 (ε (0+n5*1) c5)++[iv t1]))++[iv n2]) U U] λr o=>
 AI 1 [4] (AH.mk [(4,Ψ (Atg 0 (ε (0+(n5+1)*1) (Atg 0 (ε (0+n5*1) c5)++[iv t1]))++[iv n2]) U U),(3,Ψ [iv n2] U U),(1,Ψ [iv t1] U U)] 5 Θ) [0] r o) Θ) Θ)) Θ) Θ)
 (unI t7 λi1=>
 Bh t0 i1 λcs1=>
 dk [.I,.N] [.l cs1] λn1=>
 br (A.eq n1 t1)
 (AT D (ο 121 0) [Φ t0,iv t1,π 0 0 n5 1,bv t6,iv (A.add Ω t7 1)] [Ψ c5 U U] λr o=>
 AI 1 [0] (AH.mk [(0,Ψ c5 U U)] 1 Θ) [] r o)
 (unI t7 λi2=>
 Bh t0 i2 λcs2=>
 dk [.I,.N] [.l cs2] λn2=>
 br (Bo (n5+1) 8) (br ((0+n5*1).ble c5.length) (AT D (ο 121 0) [Φ t0,iv t1,π 0 0 (n5+1) 1,bv t6,iv (A.add Ω t7 1)] [Ψ (Atg 0 (ε (0+n5*1) c5)++[iv n2]) U U] λr o=>
 AI 1 [2] (AH.mk [(2,Ψ (Atg 0 (ε (0+n5*1) c5)++[iv n2]) U U),(1,Ψ [iv n2] U U)] 3 Θ) [0] r o) Θ) Θ)))
 (unI t7 λi=>
 Bh t0 i λcs=>
 dk [.I,.N] [.l cs] λn=>
 br (A.eq n t1)
 (AT D (ο 121 0) [Φ t0,iv t1,π 0 0 n5 1,bv t6,iv (A.add Ω t7 1)] [Ψ c5 U U] λr o=>
 AI 1 [0] (AH.mk [(0,Ψ c5 U U)] 1 Θ) [] r o)
 (unI t7 λi1=>
 Bh t0 i1 λcs1=>
 dk [.I,.N] [.l cs1] λn1=>
 br (Bo (n5+1) 8) (br ((0+n5*1).ble c5.length) (AT D (ο 121 0) [Φ t0,iv t1,π 0 0 (n5+1) 1,bv t6,iv (A.add Ω t7 1)] [Ψ (Atg 0 (ε (0+n5*1) c5)++[iv n1]) U U] λr o=>
 AI 1 [2] (AH.mk [(2,Ψ (Atg 0 (ε (0+n5*1) c5)++[iv n1]) U U),(1,Ψ [iv n1] U U)] 3 Θ) [0] r o) Θ) Θ)))
 (Δ ((Ath [iv 0,iv t1,π 1 0 n5 1,bv t6],[BO.del,Atb (Ψ c5 U U)]))):=by kernel_rfl
theorem e76(x0_0:Rw)(x0_1:Bool)(x0_2:Rw):BZ A D Aq AaS .n 76 Aef [ξ [Φ x0_0,bv x0_1,Φ x0_2]] [] =
 Ag D (ο 76 0) [ψ 0 0,Φ [],iv 0] [bk [Φ x0_0,bv x0_1,Φ x0_2]] [.t,.C,.x,.X,.Y] λc l o=>
 br (Bg 1 c)
 (dk [.L,.N,.D,.E] [.l l,.o o] λxs=>
 Δ ((Φ xs,[])))
 (Θ):=by kernel_rfl
theorem Ajc(b1_0:Rw)(b1_1:Bool)(b1_2 t3:Rw)(t4:Int):C2 A D Aq AaS .n 76 0 (AN Aef 0).fst (AN Aef 0).snd [ψ 0 0,Φ t3,iv t4] [bk [Φ b1_0,bv b1_1,Φ b1_2]] =
 br (A.lt t4 ↑(Bb b1_0))
 (unI t4 λi=>
 Bh b1_0 i λcs=>
 dk [.I,.B,.L,.N] [.l cs] λn _ _=>
 Ag D (ω 77) [ξ [Φ b1_0,bv b1_1,Φ b1_2],iv n] [] [.a,.B,.L,.N,.E] λb1 xs1=>
 Ag D (ω 69) [ξ [bv b1,Φ xs1]] [] [.i,.E] λn1=>
 br (A.eq n1 0)
 (AT D (ο 76 0) [ψ 0 0,Φ t3,iv (A.add Ω t4 1)] [bk [Φ b1_0,bv b1_1,Φ b1_2]] λr2 o2=>
 AI 1 [0] (AH.mk [(0,bk [Φ b1_0,bv b1_1,Φ b1_2])] 1 Θ) [0] r2 o2)
 (Ag D (ω 121) [Φ t3,iv n] [] [.l,.E] λxs2=>
 AT D (ο 76 0) [ψ 0 0,Φ xs2,iv (A.add Ω t4 1)] [bk [Φ b1_0,bv b1_1,Φ b1_2]] λr3 o3=>
 AI 1 [0] (AH.mk [(0,bk [Φ b1_0,bv b1_1,Φ b1_2])] 1 Θ) [0] r3 o3))
 (Δ ((Ath [iv 0,Φ t3],[BO.del]))):=by kernel_rfl
theorem e20(x0_0:Rw)(x0_1:Bool)(x0_2:Rw):BZ A D Aq AaN .n 20 Aeb [ξ [Φ x0_0,bv x0_1,Φ x0_2]] [] =
 Ag D (ω 75) [ξ [bv x0_1,Φ x0_2]] [] [.a,.B,.L,.N,.E] λb xs=>
 Ag D (ω 76) [ξ [Φ x0_0,bv x0_1,Φ x0_2]] [] [.l,.E] λxs1=>
 Ag D (ο 20 0) [ψ 0 0,ψ 1 0,ψ 2 0,Φ xs1,iv 0] [bk [Φ x0_0,bv x0_1,Φ x0_2],bk [Φ [],bv Ξ,Φ []],bk [π 3 0 0 3,bv b,Φ xs],Ψ [] U U] [.t,.C,.x,.X,.Y] λc l2 o2=>
 br (Bg 1 c)
 (dk [.P 1 0,.P 2 0,.N,.D,.T,.L,.B,.L,.N,.T,.C,.q 4 3,.B,.L,.N,.D,.R,.X,.E] [.l l2,.o o2] λ_ _ _ n b2 xs4 cs4=>
 br ((0+n*3).ble cs4.length) (Δ ((ξ [Φ (Bk n 3 (ε (n*3) cs4)),bv b2,Φ xs4],[]))) Θ)
 (Θ):=by kernel_rfl
theorem Ai7(a0:Rw)(a1:Bool)(a2 r0:Rw)(r1:Bool)(r2:Rw)(n3:Nat)(k1:Bool)(k2:Rw)(c3:Aa)(t4:Rw)(t5:Int):C2 A D Aq AaN .n 20 0 (AN Aeb 0).fst (AN Aeb 0).snd [ψ 0 0,ψ 1 0,ψ 2 0,Φ t4,iv t5] [bk [Φ a0,bv a1,Φ a2],bk [Φ r0,bv r1,Φ r2],bk [π 3 0 n3 3,bv k1,Φ k2],{ cells:=c3,st:=U,ex:=U }] =
 br (A.lt t5 ↑(Bb t4))
 (unI t5 λi=>
 Bh t4 i λcs=>
 dk [.I,.N] [.l cs] λn=>
 unI t5 λi1=>
 Bh t4 i1 λcs1=>
 dk [.I,.N] [.l cs1] λn1=>
 Ag D (ω 77) [ξ [Φ a0,bv a1,Φ a2],iv n1] [] [.a,.B,.L,.N,.E] λb xs=>
 br (Bo (n3+1) 40) (br ((0+n3*3).ble c3.length) (AT D (ο 20 0) [ψ 0 0,ψ 1 0,ψ 2 0,Φ t4,iv (A.add Ω t5 1)] [bk [Φ a0,bv a1,Φ a2],bk [Φ r0,bv r1,Φ r2],bk [π 3 0 (n3+1) 3,bv k1,Φ k2],Ψ (Atg 0 (ε (0+n3*3) c3)++[iv n,bv b,Φ xs]) U U] λr3 o1=>
 AI 4 [0,1,2,5] (AH.mk [(1,bk [Φ r0,bv r1,Φ r2]),(0,bk [Φ a0,bv a1,Φ a2]),(2,bk [π 5 0 (n3+1) 3,bv k1,Φ k2]),(5,Ψ (Atg 0 (ε (0+n3*3) c3)++[iv n,bv b,Φ xs]) U U),(4,Ψ [iv n,bv b,Φ xs] U U)] 6 Θ) [3,2,0,1] r3 o1) Θ) Θ)
 (Δ ((Ath [iv 0,ψ 1 0,ψ 2 0],[BO.del,Atb (bk [Φ r0,bv r1,Φ r2]),Atb (bk [π 4 0 n3 3,bv k1,Φ k2]),BO.del,Atb (Ψ c3 U U)]))):=by kernel_rfl
theorem Aq0(x0 x1:Rw):BZ A D Aq LO .n 211 PC [Φ x0,Φ x1] [] =
 Ag D (ο 211 0) [Φ x0,Φ x1,π 0 0 0 3,iv 0] [Ψ [] U U] [.t,.C,.x,.X,.Y] λc l o=>
 br (Bg 1 c)
 (dk [.L,.C,.q 1 3,.N,.D,.R,.X,.E] [.l l,.o o] λxs n cs1=>
 Ag D (ο 211 1) [Φ xs,π 0 0 n 3,iv 0] [Ψ cs1 U U] [.t,.C,.x,.X,.Y] λc4 l5 o1=>
 br (Bg 3 c4)
 (dk [.C,.q 1 3,.N,.D,.R,.X,.E] [.l l5,.o o1] λn1 cs3=>
 br ((0+n1*3).ble cs3.length) (Δ ((Φ (Bk n1 3 (ε (n1*3) cs3)),[]))) Θ)
 (Θ))
 (Θ):=by kernel_rfl
theorem Z8(t0 t1:Rw)(n5:Nat)(c5:Aa)(t6:Int):C2 A D Aq LO .n 211 0 (AN PC 0).fst (AN PC 0).snd [Φ t0,Φ t1,π 0 0 n5 3,iv t6] [{ cells:=c5,st:=U,ex:=U }] =
 br (A.lt t6 ↑(Bb t0))
 (unI t6 λi=>
 Bh t0 i λcs=>
 dk [.I,.B,.L,.N] [.l cs] λn b xs=>
 br (Bo (n5+1) 40) (br ((0+n5*3).ble c5.length) (AT D (ο 211 0) [Φ t0,Φ t1,π 0 0 (n5+1) 3,iv (A.add Ω t6 1)] [Ψ (Atg 0 (ε (0+n5*3) c5)++[iv n,bv b,Φ xs]) U U] λr o=>
 AI 1 [2] (AH.mk [(2,Ψ (Atg 0 (ε (0+n5*3) c5)++[iv n,bv b,Φ xs]) U U),(1,Ψ [iv n,bv b,Φ xs] U U)] 3 Θ) [0] r o) Θ) Θ)
 (Δ ((Ath [iv 0,Φ t1,π 1 0 n5 3],[BO.del,Atb (Ψ c5 U U)]))):=by kernel_rfl
theorem Z9(t1:Rw)(n5:Nat)(c5:Aa)(t7:Int):C2 A D Aq LO .n 211 1 (AN PC 1).fst (AN PC 1).snd [Φ t1,π 0 0 n5 3,iv t7] [{ cells:=c5,st:=U,ex:=U }] =
 br (A.lt t7 ↑(Bb t1))
 (unI t7 λi=>
 Bh t1 i λcs=>
 dk [.I,.B,.L,.N] [.l cs] λn b xs=>
 br (Bo (n5+1) 40) (br ((0+n5*3).ble c5.length) (AT D (ο 211 1) [Φ t1,π 0 0 (n5+1) 3,iv (A.add Ω t7 1)] [Ψ (Atg 0 (ε (0+n5*3) c5)++[iv n,bv b,Φ xs]) U U] λr o=>
 AI 1 [2] (AH.mk [(2,Ψ (Atg 0 (ε (0+n5*3) c5)++[iv n,bv b,Φ xs]) U U),(1,Ψ [iv n,bv b,Φ xs] U U)] 3 Θ) [0] r o) Θ) Θ)
 (Δ ((Ath [iv 2,π 1 0 n5 3],[BO.del,Atb (Ψ c5 U U)]))):=by kernel_rfl
theorem AqB(x0_0:Rw)(x0_1:Bool)(x0_2 x1_0:Rw)(x1_1:Bool)(x1_2:Rw):BZ A D Aq AjB .n 153 Ake [ξ [Φ x0_0,bv x0_1,Φ x0_2],ξ [Φ x1_0,bv x1_1,Φ x1_2]] [] =
 Ag D (ω 211) [Φ x0_0,Φ x1_0] [] [.l,.E] λxs=>
 Ag D (ω 122) [ξ [bv x0_1,Φ x0_2],ξ [bv x1_1,Φ x1_2]] [] [.a,.B,.L,.N,.E] λb xs1=>
 Ag D (ω 20) [ξ [Φ xs,bv b,Φ xs1]] [] [.a,.L,.B,.L,.N,.E] λxs2 b1 xs3=>
 Δ ((ξ [Φ xs2,bv b1,Φ xs3],[])):=by kernel_rfl
theorem e73(x0_0:Rw)(x0_1:Bool)(x0_2:Rw)(x1_0:Bool)(x1_1:Rw):BZ A D Aq AaR .n 73 Aee [ξ [Φ x0_0,bv x0_1,Φ x0_2],ξ [bv x1_0,Φ x1_1]] [] =
 Ag D (ω 123) [ξ [bv x0_1,Φ x0_2],ξ [bv x1_0,Φ x1_1]] [] [.a,.B,.L,.N,.E] λb xs=>
 Ag D (ο 73 0) [ψ 0 0,ψ 1 0,ψ 2 0,ψ 3 0,iv 0] [bk [Φ x0_0,bv x0_1,Φ x0_2],bk [bv x1_0,Φ x1_1],bk [Φ [],bv Ξ,Φ []],bk [π 4 0 0 3,bv b,Φ xs],Ψ [] U U] [.t,.C,.x,.X,.Y] λc l2 o1=>
 br (Bg 1 c)
 (dk [.P 2 0,.P 3 0,.N,.D,.D,.T,.L,.B,.L,.N,.T,.C,.q 5 3,.B,.L,.N,.D,.R,.X,.E] [.l l2,.o o1] λ_ _ _ n b2 xs3 cs4=>
 br ((0+n*3).ble cs4.length) (AT D (ω 20) [ξ [Φ (Bk n 3 (ε (n*3) cs4)),bv b2,Φ xs3]] [] λr2 o2=>
 dk [.a,.L,.B,.L,.N,.E] [.v r2,.o o2] λxs4 b3 xs5=>
 Δ ((ξ [Φ xs4,bv b3,Φ xs5],[]))) Θ)
 (Θ):=by kernel_rfl
theorem Ajb(a0:Rw)(a1:Bool)(a2:Rw)(i0:Bool)(i1 r0:Rw)(r1:Bool)(r2:Rw)(n5:Nat)(k1:Bool)(k2:Rw)(c5:Aa)(t6:Int):C2 A D Aq AaR .n 73 0 (AN Aee 0).fst (AN Aee 0).snd [ψ 0 0,ψ 1 0,ψ 2 0,ψ 3 0,iv t6] [bk [Φ a0,bv a1,Φ a2],bk [bv i0,Φ i1],bk [Φ r0,bv r1,Φ r2],bk [π 4 0 n5 3,bv k1,Φ k2],{ cells:=c5,st:=U,ex:=U }] =
 br (A.lt t6 ↑(Bb a0))
 (unI t6 λi=>
 Bh a0 i λcs=>
 dk [.I,.B,.L,.N] [.l cs] λn _ _=>
 unI t6 λi2=>
 Bh a0 i2 λcs1=>
 dk [.I,.B,.L,.N] [.l cs1] λ_ b1 xs1=>
 Ag D (ω 123) [ξ [bv b1,Φ xs1],ξ [bv i0,Φ i1]] [] [.a,.B,.L,.N,.E] λb2 xs2=>
 br (Bo (n5+1) 40) (br ((0+n5*3).ble c5.length) (AT D (ο 73 0) [ψ 0 0,ψ 1 0,ψ 2 0,ψ 3 0,iv (A.add Ω t6 1)] [bk [Φ a0,bv a1,Φ a2],bk [bv i0,Φ i1],bk [Φ r0,bv r1,Φ r2],bk [π 4 0 (n5+1) 3,bv k1,Φ k2],Ψ (Atg 0 (ε (0+n5*3) c5)++[iv n,bv b2,Φ xs2]) U U] λr3 o1=>
 AI 5 [0,1,2,3,6] (AH.mk [(2,bk [Φ r0,bv r1,Φ r2]),(1,bk [bv i0,Φ i1]),(0,bk [Φ a0,bv a1,Φ a2]),(3,bk [π 6 0 (n5+1) 3,bv k1,Φ k2]),(6,Ψ (Atg 0 (ε (0+n5*3) c5)++[iv n,bv b2,Φ xs2]) U U),(5,Ψ [iv n,bv b2,Φ xs2] U U)] 7 Θ) [4,3,0,1,2] r3 o1) Θ) Θ)
 (Δ ((Ath [iv 0,ψ 2 0,ψ 3 0],[BO.del,BO.del,Atb (bk [Φ r0,bv r1,Φ r2]),Atb (bk [π 5 0 n5 3,bv k1,Φ k2]),BO.del,Atb (Ψ c5 U U)]))):=by kernel_rfl
theorem e80(x0_0:Bool)(x0_1:Rw):BZ A D Aq AoF .n 80 Apd [ξ [bv x0_0,Φ x0_1]] [] =
 Ag D (ω 75) [ξ [bv x0_0,Φ x0_1]] [] [.a,.B,.L,.N,.E] λb xs=>
 Δ ((ξ [Φ [],bv b,Φ xs],[])):=by kernel_rfl
theorem e78(x0_0:Rw)(x0_1:Bool)(x0_2 x1_0:Rw)(x1_1:Bool)(x1_2:Rw):BZ A D Aq Qx .n 78 Aeh [ξ [Φ x0_0,bv x0_1,Φ x0_2],ξ [Φ x1_0,bv x1_1,Φ x1_2]] [] =
 br (A.eq ↑(Bb x0_0) ↑(Bb x1_0))
 (Ag D (ω 152) [ξ [bv x0_1,Φ x0_2],ξ [bv x1_1,Φ x1_2]] [] [.b,.E] λb=>
 br b
 (Ag D (ο 78 0) [ψ 0 0,ψ 1 0,iv 0] [bk [Φ x0_0,bv x0_1,Φ x0_2],bk [Φ x1_0,bv x1_1,Φ x1_2]] [.t,.C,.x,.X,.Y] λc l o1=>
 br (Bg 0 c)
 (dk [.B,.N,.D,.D,.E] [.l l,.o o1] λb1=>
 Δ ((bv b1,[])))
 (br (Bg 1 c)
 (dk [.N,.D,.D,.E,.w] [.l l,.o o1] λ_=>
 Δ ((bv U,[])))
 (Θ)))
 (Δ ((bv Ξ,[]))))
 (Δ ((bv Ξ,[]))):=by kernel_rfl
theorem V3(b2_0:Rw)(b2_1:Bool)(b2_2 b3_0:Rw)(b3_1:Bool)(b3_2:Rw)(t5:Int):C2 A D Aq Qx .n 78 0 (AN Aeh 0).fst (AN Aeh 0).snd [ψ 0 0,ψ 1 0,iv t5] [bk [Φ b2_0,bv b2_1,Φ b2_2],bk [Φ b3_0,bv b3_1,Φ b3_2]] =
 br (A.lt t5 ↑(Bb b2_0))
 (unI t5 λi=>
 Bh b2_0 i λcs=>
 dk [.I,.B,.L,.N] [.l cs] λn _ _=>
 unI t5 λi1=>
 Bh b3_0 i1 λcs1=>
 dk [.I,.B,.L,.N] [.l cs1] λn1 _ _=>
 br (A.eq n n1)
 (unI t5 λi2=>
 Bh b2_0 i2 λcs2=>
 dk [.I,.B,.L,.N] [.l cs2] λ_ b2 xs2=>
 unI t5 λi3=>
 Bh b3_0 i3 λcs3=>
 dk [.I,.B,.L,.N] [.l cs3] λ_ b3 xs3=>
 Ag D (ω 152) [ξ [bv b2,Φ xs2],ξ [bv b3,Φ xs3]] [] [.b,.E] λb4=>
 br b4
 (AT D (ο 78 0) [ψ 0 0,ψ 1 0,iv (A.add Ω t5 1)] [bk [Φ b2_0,bv b2_1,Φ b2_2],bk [Φ b3_0,bv b3_1,Φ b3_2]] λr1 o1=>
 AI 2 [0,1] (AH.mk [(1,bk [Φ b3_0,bv b3_1,Φ b3_2]),(0,bk [Φ b2_0,bv b2_1,Φ b2_2])] 2 Θ) [0,1] r1 o1)
 (Δ ((Ath [bv U,bv Ξ],[BO.del,BO.del]))))
 (Δ ((Ath [bv U,bv Ξ],[BO.del,BO.del]))))
 (Δ ((Ath [iv 0],[BO.del,BO.del]))):=by kernel_rfl
end
section
open Go.RowKit
def Ao2:MFn:=AE [] 21
def Alv:Hnt:=⟨[(78,(.bool,[]))],[],[(6,[.bool]),(8,[.bool]),(12,Bx),(14,Bx)]⟩
def Aj1:MFn:=AE [] 109
def Ajm:Hnt:=⟨[],[],[]⟩
def Wh:MFn:=AE [] 111
def AaH:Hnt:=⟨[],[],[(4,[.int .i64]),(8,[.int .i64]),(12,[.ls]),(14,[.int .i64]),(18,[.ls]),(23,[.ls])]⟩
def Aj2:MFn:=AE [] 110
def Ajn:Hnt:=⟨[(20,(.agg Bx,[]))],[],[(4,Bx),(7,[.bool])]⟩
def XU:MFn:=AE [⟨43,(mB 60),[(6000003,6)],[2],[(2,((mB 12),([],[])))]⟩] 42
def AaO:Hnt:=⟨[(42,(.agg AL,[])),(109,(.agg AL,[])),(110,(.agg AL,[])),(111,(.ls,[]))],[(0,[(2,([.ptr 0 0,.ptr 1 0],[.box AL,.box [.int .i64,.cst (.slice Θ 0 0),.bool,.cst (.slice Θ 0 0),.bool,.sl 3 6],.del,.row U]))])],[(7,[.int .i64]),(14,Er),(21,[.int .i64]),(23,AL),(32,[.ls]),(35,AL),(36,AL),(41,AL)]⟩
def Aec:MFn:=AE [⟨52,(mB 44),[],[2,3],[(0,((mB 16),([],[2,3]))),(1,([],([],[2,3])))]⟩] 38
def SA:Hnt:=⟨[(21,(.bool,[])),(38,(.bool,[]))],[(0,[(0,([.bool],[.del,.del])),(1,([],[.del,.del]))])],[(7,[.int .i64]),(9,[.int .i64]),(13,[.ls]),(16,[.ls]),(22,[.int .i64]),(26,Er),(28,Er),(35,[.ls]),(41,[.ls]),(43,AL),(44,AL),(46,[.ls]),(48,AL),(49,AL)]⟩
def Hz:List (Nat × MFn):=[(21,Ao2),(109,Aj1),(111,Wh),(110,Aj2),(42,XU),(38,Aec)]
variable (A:Ar) (D:Orc)
theorem e21(x0_0:Rw)(x0_1:Bool)(x0_2:Rw)(x0_3:Bool)(x1_0:Rw)(x1_1:Bool)(x1_2:Rw)(x1_3:Bool):BZ A D Aq Alv .n 21 Ao2 [ξ [Φ x0_0,bv x0_1,Φ x0_2,bv x0_3],ξ [Φ x1_0,bv x1_1,Φ x1_2,bv x1_3]] [] =
 br (A.beq x0_3 x1_3)
 (Ag D (ω 78) [ξ [Φ x0_0,bv x0_1,Φ x0_2],ξ [Φ x1_0,bv x1_1,Φ x1_2]] [] [.b,.E] λb=>
 br b
 (Δ ((bv U,[])))
 (Δ ((bv Ξ,[]))))
 (Δ ((bv Ξ,[]))):=by kernel_rfl
theorem Aqg(x0:Bool):BZ A D Aq Ajm .n 109 Aj1 [bv x0] [] =
 br x0
 (Δ ((ξ [iv 0,Φ [],bv Ξ,Φ [],bv Ξ,Φ []],[])))
 (Δ ((ξ [iv 1,Φ [],bv Ξ,Φ [],bv Ξ,Φ []],[]))):=by kernel_rfl
theorem An2(x0_0:Int)(x0_1:Rw)(x0_2:Bool)(x0_3:Rw)(x0_4:Bool)(x0_5:Rw):BZ A D Aq AaH .n 111 Wh [ξ [iv x0_0,Φ x0_1,bv x0_2,Φ x0_3,bv x0_4,Φ x0_5]] [] =
 br (A.eq x0_0 4)
 (Δ ((Φ x0_5,[])))
 (br (A.eq x0_0 5)
 (Δ ((Φ x0_5,[])))
 (br (A.eq x0_0 3)
 (br (A.lt 0 ↑(Bb x0_5))
 (br (I4 0 1 (Bb x0_5)) (br (Fs 6 x0_5) (Δ ((Φ (Ha (HD x0_5 1) 0),[]))) Θ) Θ)
 (Δ ((Φ [],[]))))
 (Δ ((Φ [],[]))))):=by kernel_rfl
theorem Aqi(x0_0:Rw)(x0_1:Bool)(x0_2:Rw)(x0_3:Bool):BZ A D Aq Ajn .n 110 Aj2 [ξ [Φ x0_0,bv x0_1,Φ x0_2,bv x0_3]] [] =
 Ag D (ω 20) [ξ [Φ x0_0,bv x0_1,Φ x0_2]] [] [.a,.L,.B,.L,.N,.E] λxs b xs1=>
 Δ ((ξ [iv 2,Φ xs,bv b,Φ xs1,bv x0_3,Φ []],[])):=by kernel_rfl
theorem e42(x0_0:Int)(x0_1:Rw)(x0_2:Bool)(x0_3:Rw)(x0_4:Bool)(x0_5:Rw):BZ A D Aq AaO .n 42 XU [ξ [iv x0_0,Φ x0_1,bv x0_2,Φ x0_3,bv x0_4,Φ x0_5]] [] =
 br (A.eq x0_0 0)
 (Ag D (ω 109) [bv U] [] [.a,.I,.L,.B,.L,.B,.L,.N,.E] λn xs b xs1 b1 xs2=>
 Δ ((ξ [iv n,Φ xs,bv b,Φ xs1,bv b1,Φ xs2],[])))
 (br (A.eq x0_0 2)
 (Ag D (ω 110) [ξ [Φ x0_1,bv x0_2,Φ x0_3,bv x0_4]] [] [.a,.I,.L,.B,.L,.B,.L,.N,.E] λn xs b xs1 b1 xs2=>
 Δ ((ξ [iv n,Φ xs,bv b,Φ xs1,bv b1,Φ xs2],[])))
 (br (A.eq x0_0 3)
 (Ag D (ω 111) [ξ [iv x0_0,Φ x0_1,bv x0_2,Φ x0_3,bv x0_4,Φ x0_5]] [] [.l,.E] λxs=>
 Ag D (ο 42 0) [ψ 0 0,ψ 1 0,Φ xs,iv 0] [bk [iv 0,Φ [],bv Ξ,Φ [],bv Ξ,Φ []],bk [iv x0_0,Ati (Value.slice Θ 0 0),bv Ξ,Ati (Value.slice Θ 0 0),bv Ξ,π 2 0 0 6],Ψ [] U U] [.t,.C,.x,.X,.Y] λc l o1=>
 br (Bg 2 c)
 (dk [.P 0 0,.P 1 0,.N,.T,.I,.L,.B,.L,.B,.L,.N,.T,.I,.C,.c (Value.slice Θ 0 0),.B,.C,.c (Value.slice Θ 0 0),.B,.C,.q 3 6,.N,.D,.R,.X,.E] [.l l,.o o1] λ_ _ _ _ _ _ n1 b2 b3 n2 cs3=>
 br ((0+n2*6).ble cs3.length) (Δ ((ξ [iv n1,Φ [],bv b2,Φ [],bv b3,Φ (Bk n2 6 (ε (n2*6) cs3))],[]))) Θ)
 (Θ))
 (br (A.eq x0_0 4)
 (Ag D (ω 111) [ξ [iv x0_0,Φ x0_1,bv x0_2,Φ x0_3,bv x0_4,Φ x0_5]] [] [.l,.E] λxs=>
 Ag D (ο 42 0) [ψ 0 0,ψ 1 0,Φ xs,iv 0] [bk [iv 0,Φ [],bv Ξ,Φ [],bv Ξ,Φ []],bk [iv x0_0,Ati (Value.slice Θ 0 0),bv Ξ,Ati (Value.slice Θ 0 0),bv Ξ,π 2 0 0 6],Ψ [] U U] [.t,.C,.x,.X,.Y] λc l o1=>
 br (Bg 2 c)
 (dk [.P 0 0,.P 1 0,.N,.T,.I,.L,.B,.L,.B,.L,.N,.T,.I,.C,.c (Value.slice Θ 0 0),.B,.C,.c (Value.slice Θ 0 0),.B,.C,.q 3 6,.N,.D,.R,.X,.E] [.l l,.o o1] λ_ _ _ _ _ _ n1 b2 b3 n2 cs3=>
 br ((0+n2*6).ble cs3.length) (Δ ((ξ [iv n1,Φ [],bv b2,Φ [],bv b3,Φ (Bk n2 6 (ε (n2*6) cs3))],[]))) Θ)
 (Θ))
 (br (A.eq x0_0 5)
 (Ag D (ω 111) [ξ [iv x0_0,Φ x0_1,bv x0_2,Φ x0_3,bv x0_4,Φ x0_5]] [] [.l,.E] λxs=>
 Ag D (ο 42 0) [ψ 0 0,ψ 1 0,Φ xs,iv 0] [bk [iv 0,Φ [],bv Ξ,Φ [],bv Ξ,Φ []],bk [iv x0_0,Ati (Value.slice Θ 0 0),bv Ξ,Ati (Value.slice Θ 0 0),bv Ξ,π 2 0 0 6],Ψ [] U U] [.t,.C,.x,.X,.Y] λc l o1=>
 br (Bg 2 c)
 (dk [.P 0 0,.P 1 0,.N,.T,.I,.L,.B,.L,.B,.L,.N,.T,.I,.C,.c (Value.slice Θ 0 0),.B,.C,.c (Value.slice Θ 0 0),.B,.C,.q 3 6,.N,.D,.R,.X,.E] [.l l,.o o1] λ_ _ _ _ _ _ n1 b2 b3 n2 cs3=>
 br ((0+n2*6).ble cs3.length) (Δ ((ξ [iv n1,Φ [],bv b2,Φ [],bv b3,Φ (Bk n2 6 (ε (n2*6) cs3))],[]))) Θ)
 (Θ))
 (Ag D (ω 109) [bv Ξ] [] [.a,.I,.L,.B,.L,.B,.L,.N,.E] λn xs b xs1 b1 xs2=>
 Δ ((ξ [iv n,Φ xs,bv b,Φ xs1,bv b1,Φ xs2],[]))))))):=by kernel_rfl
theorem Ai9(r0:Int)(r1:Rw)(r2:Bool)(r3:Rw)(r4:Bool)(r5:Rw)(k0:Int)(k2 k4:Bool)(n3:Nat)(c3:Aa)(t4:Rw)(t5:Int):C2 A D Aq AaO .n 42 0 (AN XU 0).fst (AN XU 0).snd [ψ 0 0,ψ 1 0,Φ t4,iv t5] [bk [iv r0,Φ r1,bv r2,Φ r3,bv r4,Φ r5],bk [iv k0,Ati (Value.slice Θ 0 0),bv k2,Ati (Value.slice Θ 0 0),bv k4,π 2 0 n3 6],{ cells:=c3,st:=U,ex:=U }] =
 br (A.lt t5 ↑(Bb t4))
 (unI t5 λi=>
 Bh t4 i λcs=>
 dk [.I,.L,.B,.L,.B,.L,.N] [.l cs] λn xs b xs1 b1 xs2=>
 Ag D (ω 42) [ξ [iv n,Φ xs,bv b,Φ xs1,bv b1,Φ xs2]] [] [.a,.I,.L,.B,.L,.B,.L,.N,.E] λn1 xs3 b2 xs4 b3 xs5=>
 br (Bo (n3+1) 96) (br ((0+n3*6).ble c3.length) (AT D (ο 42 0) [ψ 0 0,ψ 1 0,Φ t4,iv (A.add Ω t5 1)] [bk [iv r0,Φ r1,bv r2,Φ r3,bv r4,Φ r5],bk [iv k0,Ati (Value.slice Θ 0 0),bv k2,Ati (Value.slice Θ 0 0),bv k4,π 2 0 (n3+1) 6],Ψ (Atg 0 (ε (0+n3*6) c3)++[iv n1,Φ xs3,bv b2,Φ xs4,bv b3,Φ xs5]) U U] λr6 o1=>
 AI 3 [0,1,4] (AH.mk [(0,bk [iv r0,Φ r1,bv r2,Φ r3,bv r4,Φ r5]),(1,bk [iv k0,Ati (Value.slice Θ 0 0),bv k2,Ati (Value.slice Θ 0 0),bv k4,π 4 0 (n3+1) 6]),(4,Ψ (Atg 0 (ε (0+n3*6) c3)++[iv n1,Φ xs3,bv b2,Φ xs4,bv b3,Φ xs5]) U U),(3,Ψ [iv n1,Φ xs3,bv b2,Φ xs4,bv b3,Φ xs5] U U)] 5 Θ) [2,1,0] r6 o1) Θ) Θ)
 (Δ ((Ath [iv 1,ψ 0 0,ψ 1 0],[Atb (bk [iv r0,Φ r1,bv r2,Φ r3,bv r4,Φ r5]),Atb (bk [iv k0,Ati (Value.slice Θ 0 0),bv k2,Ati (Value.slice Θ 0 0),bv k4,π 3 0 n3 6]),BO.del,Atb (Ψ c3 U U)]))):=by kernel_rfl
theorem e38(x0_0:Int)(x0_1:Rw)(x0_2:Bool)(x0_3:Rw)(x0_4:Bool)(x0_5:Rw)(x1_0:Int)(x1_1:Rw)(x1_2:Bool)(x1_3:Rw)(x1_4:Bool)(x1_5:Rw):BZ A D Aq SA .n 38 Aec [ξ [iv x0_0,Φ x0_1,bv x0_2,Φ x0_3,bv x0_4,Φ x0_5],ξ [iv x1_0,Φ x1_1,bv x1_2,Φ x1_3,bv x1_4,Φ x1_5]] [] =
 br (A.eq x0_0 x1_0)
 (br (A.eq ↑(Bb x0_5) ↑(Bb x1_5))
 (br (A.eq x0_0 2)
 (Ag D (ω 21) [ξ [Φ x0_1,bv x0_2,Φ x0_3,bv x0_4],ξ [Φ x1_1,bv x1_2,Φ x1_3,bv x1_4]] [] [.b,.E] λb=>
 br b
 (Ag D (ο 38 0) [ψ 0 0,ψ 1 0,iv 0] [bk [iv x0_0,Φ x0_1,bv x0_2,Φ x0_3,bv x0_4,Φ x0_5],bk [iv x1_0,Φ x1_1,bv x1_2,Φ x1_3,bv x1_4,Φ x1_5]] [.t,.C,.x,.X,.Y] λc l o1=>
 br (Bg 0 c)
 (dk [.B,.N,.D,.D,.E] [.l l,.o o1] λb1=>
 Δ ((bv b1,[])))
 (br (Bg 1 c)
 (dk [.N,.D,.D,.E,.w] [.l l,.o o1] λ_=>
 Δ ((bv U,[])))
 (Θ)))
 (Δ ((bv Ξ,[]))))
 (Ag D (ο 38 0) [ψ 0 0,ψ 1 0,iv 0] [bk [iv x0_0,Φ x0_1,bv x0_2,Φ x0_3,bv x0_4,Φ x0_5],bk [iv x1_0,Φ x1_1,bv x1_2,Φ x1_3,bv x1_4,Φ x1_5]] [.t,.C,.x,.X,.Y] λc l o=>
 br (Bg 0 c)
 (dk [.B,.N,.D,.D,.E] [.l l,.o o] λb=>
 Δ ((bv b,[])))
 (br (Bg 1 c)
 (dk [.N,.D,.D,.E,.w] [.l l,.o o] λ_=>
 Δ ((bv U,[])))
 (Θ))))
 (Δ ((bv Ξ,[]))))
 (Δ ((bv Ξ,[]))):=by kernel_rfl
theorem Ai8(b2_0:Int)(b2_1:Rw)(b2_2:Bool)(b2_3:Rw)(b2_4:Bool)(b2_5:Rw)(b3_0:Int)(b3_1:Rw)(b3_2:Bool)(b3_3:Rw)(b3_4:Bool)(b3_5:Rw)(t5:Int):C2 A D Aq SA .n 38 0 (AN Aec 0).fst (AN Aec 0).snd [ψ 0 0,ψ 1 0,iv t5] [bk [iv b2_0,Φ b2_1,bv b2_2,Φ b2_3,bv b2_4,Φ b2_5],bk [iv b3_0,Φ b3_1,bv b3_2,Φ b3_3,bv b3_4,Φ b3_5]] =
 br (A.lt t5 ↑(Bb b2_5))
 (unI t5 λi=>
 Bh b2_5 i λcs=>
 dk [.I,.L,.B,.L,.B,.L,.N] [.l cs] λn xs b xs1 b1 xs2=>
 unI t5 λi1=>
 Bh b3_5 i1 λcs1=>
 dk [.I,.L,.B,.L,.B,.L,.N] [.l cs1] λn1 xs3 b2 xs4 b3 xs5=>
 Ag D (ω 38) [ξ [iv n,Φ xs,bv b,Φ xs1,bv b1,Φ xs2],ξ [iv n1,Φ xs3,bv b2,Φ xs4,bv b3,Φ xs5]] [] [.b,.E] λb4=>
 br b4
 (AT D (ο 38 0) [ψ 0 0,ψ 1 0,iv (A.add Ω t5 1)] [bk [iv b2_0,Φ b2_1,bv b2_2,Φ b2_3,bv b2_4,Φ b2_5],bk [iv b3_0,Φ b3_1,bv b3_2,Φ b3_3,bv b3_4,Φ b3_5]] λr1 o1=>
 AI 2 [0,1] (AH.mk [(1,bk [iv b3_0,Φ b3_1,bv b3_2,Φ b3_3,bv b3_4,Φ b3_5]),(0,bk [iv b2_0,Φ b2_1,bv b2_2,Φ b2_3,bv b2_4,Φ b2_5])] 2 Θ) [0,1] r1 o1)
 (Δ ((Ath [bv U,bv Ξ],[BO.del,BO.del]))))
 (Δ ((Ath [iv 0],[BO.del,BO.del]))):=by kernel_rfl
end
section
open Go.RowKit
def Abr:MFn:=AE [] 175
def AaL:Hnt:=⟨[(20,(.agg Bx,[])),(56,(.agg Bv,[]))],[],[]⟩
def K6:MFn:=AE [⟨85,(mB 974),[],[3,6,7],[(1,((mB 192),([],[3])))]⟩,⟨85,(mB 4046),[],[3,6,7,10],[(3,((mB 1998),([],[])))]⟩] 114
def Hc:Hnt:=⟨[(73,(.agg Bx,[])),(76,(.ls,[])),(77,(.agg Bv,[])),(80,(.agg Bx,[])),(153,(.agg Bx,[])),(175,(.agg Bx,[]))],[(0,[(1,([.ptr 1 0,.ptr 2 0],[.del,.box Bx,.box Bx]))]),(1,[(3,([.ls,.ls,.ptr 0 0,.ptr 1 0,.ptr 2 0,.ls,.int .i64,.ptr 3 0],[.box Bx,.box Bx,.box Bx,.box Bx]))])],[(13,Bv),(15,Bx),(25,[.int .i64]),(26,[.int .i64]),(37,[.int .i64]),(38,[.int .i64]),(41,[.int .i64]),(42,[.int .i64]),(52,Bx),(53,Bx),(56,[.int .i64]),(57,[.int .i64]),(60,[.int .i64]),(61,[.int .i64]),(71,[.int .i64]),(72,[.int .i64]),(74,Bx),(75,Bx),(76,Bx),(79,[.int .i64]),(80,[.int .i64]),(84,Bx)]⟩
def QG:MFn:=AE [⟨59,(mB 246),[(1000005,3)],[2,4],[(1,((mB 48),([],[2])))]⟩] 116
def Nw:Hnt:=⟨[(20,(.agg Bx,[])),(76,(.ls,[])),(77,(.agg Bv,[]))],[(0,[(1,([.ptr 1 0,.ptr 2 0],[.del,.box Bx,.box [.sl 4 3,.bool,.ls],.del,.row U]))])],[(13,Bv),(15,Bx),(25,[.int .i64]),(26,[.int .i64]),(33,[.int .i64]),(34,[.int .i64]),(40,[.ls]),(43,[.int .i64]),(44,[.int .i64]),(47,Bx),(50,[.int .i64]),(51,[.int .i64]),(57,Bx)]⟩
def AcM:List (Nat × MFn):=[(175,Abr),(114,K6),(116,QG)]
variable (A:Ar) (D:Orc)
theorem Aob(x0:Int):BZ A D Aq AaL .n 175 Abr [iv x0] [] =
 Ag D (ω 56) [iv 1] [] [.a,.B,.L,.N,.E] λb xs=>
 Ag D (ω 20) [ξ [Φ [[iv x0,bv b,Φ xs]],bv Ξ,Φ []]] [] [.a,.L,.B,.L,.N,.E] λxs1 b1 xs2=>
 Δ ((ξ [Φ xs1,bv b1,Φ xs2],[])):=by kernel_rfl
theorem An4(x0_0:Rw)(x0_1:Bool)(x0_2 x1 x2:Rw):BZ A D Aq Hc .n 114 K6 [ξ [Φ x0_0,bv x0_1,Φ x0_2],Φ x1,Φ x2] [] =
 Ag D (ω 80) [ξ [bv x0_1,Φ x0_2]] [] [.a,.L,.B,.L,.N,.E] λxs b xs1=>
 Ag D (ω 76) [ξ [Φ x0_0,bv x0_1,Φ x0_2]] [] [.l,.E] λxs2=>
 Ag D (ο 114 0) [Φ x1,Φ x2,ψ 0 0,ψ 1 0,ψ 2 0,Φ xs2,iv 0] [bk [Φ x0_0,bv x0_1,Φ x0_2],bk [Φ [],bv Ξ,Φ []],bk [Φ xs,bv b,Φ xs1]] [.t,.C,.x,.X,.Y] λc l3 o2=>
 br (Bg 1 c)
 (dk [.P 1 0,.P 2 0,.N,.D,.T,.L,.B,.L,.N,.T,.L,.B,.L,.N,.E] [.l l3,.o o2] λ_ _ _ xs5 b2 xs6=>
 Δ ((ξ [Φ xs5,bv b2,Φ xs6],[])))
 (Θ):=by kernel_rfl
theorem VT(t1 t2 b3_0:Rw)(b3_1:Bool)(b3_2 b6_0:Rw)(b6_1:Bool)(b6_2 b7_0:Rw)(b7_1:Bool)(b7_2 t8:Rw)(t9:Int):C2 A D Aq Hc .n 114 0 (AN K6 0).fst (AN K6 0).snd [Φ t1,Φ t2,ψ 0 0,ψ 1 0,ψ 2 0,Φ t8,iv t9] [bk [Φ b3_0,bv b3_1,Φ b3_2],bk [Φ b6_0,bv b6_1,Φ b6_2],bk [Φ b7_0,bv b7_1,Φ b7_2]] =
 br (A.lt t9 ↑(Bb t8))
 (unI t9 λi=>
 Bh t8 i λcs=>
 dk [.I,.N] [.l cs] λn=>
 Ag D (ω 175) [iv n] [] [.a,.L,.B,.L,.N,.E] λxs b xs1=>
 Ag D (ο 114 1) [Φ t1,Φ t2,ψ 0 0,ψ 1 0,ψ 2 0,Φ t8,iv t9,ψ 3 0,iv (A.sub Ω (↑(Bb t1)) 1)] [bk [Φ b3_0,bv b3_1,Φ b3_2],bk [Φ b6_0,bv b6_1,Φ b6_2],bk [Φ b7_0,bv b7_1,Φ b7_2],bk [Φ xs,bv b,Φ xs1]] [.t,.C,.x,.X,.Y] λc l4 o1=>
 br (Bg 3 c)
 (dk [.L,.L,.P 0 0,.P 1 0,.P 2 0,.L,.I,.P 3 0,.N,.T,.L,.B,.L,.N,.T,.L,.B,.L,.N,.T,.L,.B,.L,.N,.T,.L,.B,.L,.N,.Y] [.l l4,.o o1] λxs2 xs3 xs4 n1 xs5 b1 xs6 xs7 b2 xs8 xs9 b3 xs10 xs11 b4 xs12 l25=>
 CW l25<|
 unI n1 λi1=>
 Bh xs4 i1 λcs7=>
 dk [.I,.N] [.l cs7] λn2=>
 Ag D (ω 77) [ξ [Φ xs5,bv b1,Φ xs6],iv n2] [] [.a,.B,.L,.N,.E] λb5 xs13=>
 Ag D (ω 73) [ξ [Φ xs11,bv b4,Φ xs12],ξ [bv b5,Φ xs13]] [] [.a,.L,.B,.L,.N,.E] λxs14 b6 xs15=>
 Ag D (ω 153) [ξ [Φ xs9,bv b3,Φ xs10],ξ [Φ xs14,bv b6,Φ xs15]] [] [.a,.L,.B,.L,.N,.E] λxs16 b7 xs17=>
 AT D (ο 114 0) [Φ xs2,Φ xs3,ψ 0 0,ψ 1 0,ψ 2 0,Φ xs4,iv (A.add Ω n1 1)] [bk [Φ xs5,bv b1,Φ xs6],bk [Φ xs7,bv b2,Φ xs8],bk [Φ xs16,bv b7,Φ xs17]] λr5 o5=>
 AI 3 [0,1,2] (AH.mk [(2,bk [Φ xs16,bv b7,Φ xs17]),(1,bk [Φ xs7,bv b2,Φ xs8]),(0,bk [Φ xs5,bv b1,Φ xs6]),(3,bk [Φ xs11,bv b4,Φ xs12])] 4 Θ) [0,1,2] r5 o5)
 (Θ))
 (Δ ((Ath [iv 0,ψ 1 0,ψ 2 0],[BO.del,Atb (bk [Φ b6_0,bv b6_1,Φ b6_2]),Atb (bk [Φ b7_0,bv b7_1,Φ b7_2])]))):=by kernel_rfl
theorem VU(t1 t2 b3_0:Rw)(b3_1:Bool)(b3_2 b6_0:Rw)(b6_1:Bool)(b6_2 b7_0:Rw)(b7_1:Bool)(b7_2 t8:Rw)(t9:Int)(b10_0:Rw)(b10_1:Bool)(b10_2:Rw)(t11:Int):C2 A D Aq Hc .n 114 1 (AN K6 1).fst (AN K6 1).snd [Φ t1,Φ t2,ψ 0 0,ψ 1 0,ψ 2 0,Φ t8,iv t9,ψ 3 0,iv t11] [bk [Φ b3_0,bv b3_1,Φ b3_2],bk [Φ b6_0,bv b6_1,Φ b6_2],bk [Φ b7_0,bv b7_1,Φ b7_2],bk [Φ b10_0,bv b10_1,Φ b10_2]] =
 br (A.le 0 t11)
 (unI t11 λi=>
 Bh t1 i λcs=>
 dk [.I,.N] [.l cs] λn=>
 unI t9 λi1=>
 Bh t8 i1 λcs1=>
 dk [.I,.N] [.l cs1] λn1=>
 br (A.eq n n1)
 (br (A.lt t11 ↑(Bb t2))
 (unI t11 λi2=>
 Bh t2 i2 λcs2=>
 dk [.L,.B,.L,.N] [.l cs2] λxs b xs1=>
 unI t11 λi3=>
 Bh t1 i3 λcs3=>
 dk [.I,.N] [.l cs3] λn2=>
 unI t9 λi4=>
 Bh t8 i4 λcs4=>
 dk [.I,.N] [.l cs4] λn3=>
 br (A.eq n2 n3)
 (br (A.le (↑(Bb t2)) t11)
 (unI t9 λi5=>
 Bh t8 i5 λcs5=>
 dk [.I,.N] [.l cs5] λn4=>
 Ag D (ω 175) [iv n4] [] [.a,.L,.B,.L,.N,.E] λxs2 b1 xs3=>
 AT D (ο 114 1) [Φ t1,Φ t2,ψ 0 0,ψ 1 0,ψ 2 0,Φ t8,iv t9,ψ 3 0,iv (A.sub Ω t11 1)] [bk [Φ b3_0,bv b3_1,Φ b3_2],bk [Φ b6_0,bv b6_1,Φ b6_2],bk [Φ b7_0,bv b7_1,Φ b7_2],bk [Φ xs2,bv b1,Φ xs3]] λr1 o1=>
 AI 4 [0,1,2,3] (AH.mk [(3,bk [Φ xs2,bv b1,Φ xs3]),(2,bk [Φ b7_0,bv b7_1,Φ b7_2]),(1,bk [Φ b6_0,bv b6_1,Φ b6_2]),(0,bk [Φ b3_0,bv b3_1,Φ b3_2])] 4 Θ) [0,1,2,3] r1 o1)
 (AT D (ο 114 1) [Φ t1,Φ t2,ψ 0 0,ψ 1 0,ψ 2 0,Φ t8,iv t9,ψ 3 0,iv (A.sub Ω t11 1)] [bk [Φ b3_0,bv b3_1,Φ b3_2],bk [Φ b6_0,bv b6_1,Φ b6_2],bk [Φ b7_0,bv b7_1,Φ b7_2],bk [Φ xs,bv b,Φ xs1]] λr o=>
 AI 4 [0,1,2,3] (AH.mk [(3,bk [Φ xs,bv b,Φ xs1]),(2,bk [Φ b7_0,bv b7_1,Φ b7_2]),(1,bk [Φ b6_0,bv b6_1,Φ b6_2]),(0,bk [Φ b3_0,bv b3_1,Φ b3_2])] 4 Θ) [0,1,2,3] r o))
 (AT D (ο 114 1) [Φ t1,Φ t2,ψ 0 0,ψ 1 0,ψ 2 0,Φ t8,iv t9,ψ 3 0,iv (A.sub Ω t11 1)] [bk [Φ b3_0,bv b3_1,Φ b3_2],bk [Φ b6_0,bv b6_1,Φ b6_2],bk [Φ b7_0,bv b7_1,Φ b7_2],bk [Φ xs,bv b,Φ xs1]] λr o=>
 AI 4 [0,1,2,3] (AH.mk [(3,bk [Φ xs,bv b,Φ xs1]),(2,bk [Φ b7_0,bv b7_1,Φ b7_2]),(1,bk [Φ b6_0,bv b6_1,Φ b6_2]),(0,bk [Φ b3_0,bv b3_1,Φ b3_2])] 4 Θ) [0,1,2,3] r o))
 (unI t11 λi2=>
 Bh t1 i2 λcs2=>
 dk [.I,.N] [.l cs2] λn2=>
 unI t9 λi3=>
 Bh t8 i3 λcs3=>
 dk [.I,.N] [.l cs3] λn3=>
 br (A.eq n2 n3)
 (br (A.le (↑(Bb t2)) t11)
 (unI t9 λi4=>
 Bh t8 i4 λcs4=>
 dk [.I,.N] [.l cs4] λn4=>
 Ag D (ω 175) [iv n4] [] [.a,.L,.B,.L,.N,.E] λxs b xs1=>
 AT D (ο 114 1) [Φ t1,Φ t2,ψ 0 0,ψ 1 0,ψ 2 0,Φ t8,iv t9,ψ 3 0,iv (A.sub Ω t11 1)] [bk [Φ b3_0,bv b3_1,Φ b3_2],bk [Φ b6_0,bv b6_1,Φ b6_2],bk [Φ b7_0,bv b7_1,Φ b7_2],bk [Φ xs,bv b,Φ xs1]] λr1 o1=>
 AI 4 [0,1,2,3] (AH.mk [(3,bk [Φ xs,bv b,Φ xs1]),(2,bk [Φ b7_0,bv b7_1,Φ b7_2]),(1,bk [Φ b6_0,bv b6_1,Φ b6_2]),(0,bk [Φ b3_0,bv b3_1,Φ b3_2])] 4 Θ) [0,1,2,3] r1 o1)
 (AT D (ο 114 1) [Φ t1,Φ t2,ψ 0 0,ψ 1 0,ψ 2 0,Φ t8,iv t9,ψ 3 0,iv (A.sub Ω t11 1)] [bk [Φ b3_0,bv b3_1,Φ b3_2],bk [Φ b6_0,bv b6_1,Φ b6_2],bk [Φ b7_0,bv b7_1,Φ b7_2],bk [Φ b10_0,bv b10_1,Φ b10_2]] λr o=>
 AI 4 [0,1,2,3] (AH.mk [(3,bk [Φ b10_0,bv b10_1,Φ b10_2]),(2,bk [Φ b7_0,bv b7_1,Φ b7_2]),(1,bk [Φ b6_0,bv b6_1,Φ b6_2]),(0,bk [Φ b3_0,bv b3_1,Φ b3_2])] 4 Θ) [0,1,2,3] r o))
 (AT D (ο 114 1) [Φ t1,Φ t2,ψ 0 0,ψ 1 0,ψ 2 0,Φ t8,iv t9,ψ 3 0,iv (A.sub Ω t11 1)] [bk [Φ b3_0,bv b3_1,Φ b3_2],bk [Φ b6_0,bv b6_1,Φ b6_2],bk [Φ b7_0,bv b7_1,Φ b7_2],bk [Φ b10_0,bv b10_1,Φ b10_2]] λr o=>
 AI 4 [0,1,2,3] (AH.mk [(3,bk [Φ b10_0,bv b10_1,Φ b10_2]),(2,bk [Φ b7_0,bv b7_1,Φ b7_2]),(1,bk [Φ b6_0,bv b6_1,Φ b6_2]),(0,bk [Φ b3_0,bv b3_1,Φ b3_2])] 4 Θ) [0,1,2,3] r o)))
 (unI t11 λi2=>
 Bh t1 i2 λcs2=>
 dk [.I,.N] [.l cs2] λn2=>
 unI t9 λi3=>
 Bh t8 i3 λcs3=>
 dk [.I,.N] [.l cs3] λn3=>
 br (A.eq n2 n3)
 (br (A.le (↑(Bb t2)) t11)
 (unI t9 λi4=>
 Bh t8 i4 λcs4=>
 dk [.I,.N] [.l cs4] λn4=>
 Ag D (ω 175) [iv n4] [] [.a,.L,.B,.L,.N,.E] λxs b xs1=>
 AT D (ο 114 1) [Φ t1,Φ t2,ψ 0 0,ψ 1 0,ψ 2 0,Φ t8,iv t9,ψ 3 0,iv (A.sub Ω t11 1)] [bk [Φ b3_0,bv b3_1,Φ b3_2],bk [Φ b6_0,bv b6_1,Φ b6_2],bk [Φ b7_0,bv b7_1,Φ b7_2],bk [Φ xs,bv b,Φ xs1]] λr1 o1=>
 AI 4 [0,1,2,3] (AH.mk [(3,bk [Φ xs,bv b,Φ xs1]),(2,bk [Φ b7_0,bv b7_1,Φ b7_2]),(1,bk [Φ b6_0,bv b6_1,Φ b6_2]),(0,bk [Φ b3_0,bv b3_1,Φ b3_2])] 4 Θ) [0,1,2,3] r1 o1)
 (AT D (ο 114 1) [Φ t1,Φ t2,ψ 0 0,ψ 1 0,ψ 2 0,Φ t8,iv t9,ψ 3 0,iv (A.sub Ω t11 1)] [bk [Φ b3_0,bv b3_1,Φ b3_2],bk [Φ b6_0,bv b6_1,Φ b6_2],bk [Φ b7_0,bv b7_1,Φ b7_2],bk [Φ b10_0,bv b10_1,Φ b10_2]] λr o=>
 AI 4 [0,1,2,3] (AH.mk [(3,bk [Φ b10_0,bv b10_1,Φ b10_2]),(2,bk [Φ b7_0,bv b7_1,Φ b7_2]),(1,bk [Φ b6_0,bv b6_1,Φ b6_2]),(0,bk [Φ b3_0,bv b3_1,Φ b3_2])] 4 Θ) [0,1,2,3] r o))
 (AT D (ο 114 1) [Φ t1,Φ t2,ψ 0 0,ψ 1 0,ψ 2 0,Φ t8,iv t9,ψ 3 0,iv (A.sub Ω t11 1)] [bk [Φ b3_0,bv b3_1,Φ b3_2],bk [Φ b6_0,bv b6_1,Φ b6_2],bk [Φ b7_0,bv b7_1,Φ b7_2],bk [Φ b10_0,bv b10_1,Φ b10_2]] λr o=>
 AI 4 [0,1,2,3] (AH.mk [(3,bk [Φ b10_0,bv b10_1,Φ b10_2]),(2,bk [Φ b7_0,bv b7_1,Φ b7_2]),(1,bk [Φ b6_0,bv b6_1,Φ b6_2]),(0,bk [Φ b3_0,bv b3_1,Φ b3_2])] 4 Θ) [0,1,2,3] r o)))
 (Δ ((Ath [iv 2,Φ t1,Φ t2,ψ 0 0,ψ 1 0,ψ 2 0,Φ t8,iv t9,ψ 3 0],[Atb (bk [Φ b3_0,bv b3_1,Φ b3_2]),Atb (bk [Φ b6_0,bv b6_1,Φ b6_2]),Atb (bk [Φ b7_0,bv b7_1,Φ b7_2]),Atb (bk [Φ b10_0,bv b10_1,Φ b10_2])]))):=by kernel_rfl
theorem An6(x0_0:Rw)(x0_1:Bool)(x0_2:Rw)(x1:Int):BZ A D Aq Nw .n 116 QG [ξ [Φ x0_0,bv x0_1,Φ x0_2],iv x1] [] =
 br (A.lt x1 (-2147483648))
 (br (A.lt 2147483647 (-2147483648))
 (Ag D (ω 76) [ξ [Φ x0_0,bv x0_1,Φ x0_2]] [] [.l,.E] λxs=>
 Ag D (ο 116 0) [iv 2147483647,ψ 0 0,ψ 1 0,ψ 2 0,Φ xs,iv 0] [bk [Φ x0_0,bv x0_1,Φ x0_2],bk [Φ [],bv Ξ,Φ []],bk [π 3 0 0 3,bv x0_1,Φ x0_2],Ψ [] U U] [.t,.C,.x,.X,.Y] λc l o1=>
 br (Bg 1 c)
 (dk [.P 1 0,.P 2 0,.N,.D,.T,.L,.B,.L,.N,.T,.C,.q 4 3,.B,.L,.N,.D,.R,.X,.E] [.l l,.o o1] λ_ _ _ n b1 xs3 cs3=>
 br ((0+n*3).ble cs3.length) (AT D (ω 20) [ξ [Φ (Bk n 3 (ε (n*3) cs3)),bv b1,Φ xs3]] [] λr2 o2=>
 dk [.a,.L,.B,.L,.N,.E] [.v r2,.o o2] λxs4 b2 xs5=>
 Δ ((ξ [Φ xs4,bv b2,Φ xs5],[]))) Θ)
 (Θ))
 (Ag D (ω 76) [ξ [Φ x0_0,bv x0_1,Φ x0_2]] [] [.l,.E] λxs=>
 Ag D (ο 116 0) [iv (-2147483648),ψ 0 0,ψ 1 0,ψ 2 0,Φ xs,iv 0] [bk [Φ x0_0,bv x0_1,Φ x0_2],bk [Φ [],bv Ξ,Φ []],bk [π 3 0 0 3,bv x0_1,Φ x0_2],Ψ [] U U] [.t,.C,.x,.X,.Y] λc l o1=>
 br (Bg 1 c)
 (dk [.P 1 0,.P 2 0,.N,.D,.T,.L,.B,.L,.N,.T,.C,.q 4 3,.B,.L,.N,.D,.R,.X,.E] [.l l,.o o1] λ_ _ _ n b1 xs3 cs3=>
 br ((0+n*3).ble cs3.length) (AT D (ω 20) [ξ [Φ (Bk n 3 (ε (n*3) cs3)),bv b1,Φ xs3]] [] λr2 o2=>
 dk [.a,.L,.B,.L,.N,.E] [.v r2,.o o2] λxs4 b2 xs5=>
 Δ ((ξ [Φ xs4,bv b2,Φ xs5],[]))) Θ)
 (Θ)))
 (br (A.lt 2147483647 x1)
 (Ag D (ω 76) [ξ [Φ x0_0,bv x0_1,Φ x0_2]] [] [.l,.E] λxs=>
 Ag D (ο 116 0) [iv 2147483647,ψ 0 0,ψ 1 0,ψ 2 0,Φ xs,iv 0] [bk [Φ x0_0,bv x0_1,Φ x0_2],bk [Φ [],bv Ξ,Φ []],bk [π 3 0 0 3,bv x0_1,Φ x0_2],Ψ [] U U] [.t,.C,.x,.X,.Y] λc l o1=>
 br (Bg 1 c)
 (dk [.P 1 0,.P 2 0,.N,.D,.T,.L,.B,.L,.N,.T,.C,.q 4 3,.B,.L,.N,.D,.R,.X,.E] [.l l,.o o1] λ_ _ _ n b1 xs3 cs3=>
 br ((0+n*3).ble cs3.length) (AT D (ω 20) [ξ [Φ (Bk n 3 (ε (n*3) cs3)),bv b1,Φ xs3]] [] λr2 o2=>
 dk [.a,.L,.B,.L,.N,.E] [.v r2,.o o2] λxs4 b2 xs5=>
 Δ ((ξ [Φ xs4,bv b2,Φ xs5],[]))) Θ)
 (Θ))
 (Ag D (ω 76) [ξ [Φ x0_0,bv x0_1,Φ x0_2]] [] [.l,.E] λxs=>
 Ag D (ο 116 0) [iv x1,ψ 0 0,ψ 1 0,ψ 2 0,Φ xs,iv 0] [bk [Φ x0_0,bv x0_1,Φ x0_2],bk [Φ [],bv Ξ,Φ []],bk [π 3 0 0 3,bv x0_1,Φ x0_2],Ψ [] U U] [.t,.C,.x,.X,.Y] λc l o1=>
 br (Bg 1 c)
 (dk [.P 1 0,.P 2 0,.N,.D,.T,.L,.B,.L,.N,.T,.C,.q 4 3,.B,.L,.N,.D,.R,.X,.E] [.l l,.o o1] λ_ _ _ n b1 xs3 cs3=>
 br ((0+n*3).ble cs3.length) (AT D (ω 20) [ξ [Φ (Bk n 3 (ε (n*3) cs3)),bv b1,Φ xs3]] [] λr2 o2=>
 dk [.a,.L,.B,.L,.N,.E] [.v r2,.o o2] λxs4 b2 xs5=>
 Δ ((ξ [Φ xs4,bv b2,Φ xs5],[]))) Θ)
 (Θ))):=by kernel_rfl
theorem VV(t1:Int)(a0:Rw)(a1:Bool)(a2 r0:Rw)(r1:Bool)(r2:Rw)(n3:Nat)(k1:Bool)(k2:Rw)(c3:Aa)(t6:Rw)(t7:Int):C2 A D Aq Nw .n 116 0 (AN QG 0).fst (AN QG 0).snd [iv t1,ψ 0 0,ψ 1 0,ψ 2 0,Φ t6,iv t7] [bk [Φ a0,bv a1,Φ a2],bk [Φ r0,bv r1,Φ r2],bk [π 3 0 n3 3,bv k1,Φ k2],{ cells:=c3,st:=U,ex:=U }] =
 br (A.lt t7 ↑(Bb t6))
 (unI t7 λi=>
 Bh t6 i λcs=>
 dk [.I,.N] [.l cs] λn=>
 br (A.le n (A.sub Ω 2147483647 t1))
 (unI t7 λi1=>
 Bh t6 i1 λcs1=>
 dk [.I,.N] [.l cs1] λn1=>
 br (A.le (A.sub Ω 0 t1) n1)
 (unI t7 λi2=>
 Bh t6 i2 λcs2=>
 dk [.I,.N] [.l cs2] λn2=>
 unI t7 λi3=>
 Bh t6 i3 λcs3=>
 dk [.I,.N] [.l cs3] λn4=>
 Ag D (ω 77) [ξ [Φ a0,bv a1,Φ a2],iv n4] [] [.a,.B,.L,.N,.E] λb xs=>
 br (Bo (n3+1) 40) (br ((0+n3*3).ble c3.length) (AT D (ο 116 0) [iv t1,ψ 0 0,ψ 1 0,ψ 2 0,Φ t6,iv (A.add Ω t7 1)] [bk [Φ a0,bv a1,Φ a2],bk [Φ r0,bv r1,Φ r2],bk [π 3 0 (n3+1) 3,bv k1,Φ k2],Ψ (Atg 0 (ε (0+n3*3) c3)++[iv (A.add Ω n2 t1),bv b,Φ xs]) U U] λr3 o1=>
 AI 4 [0,1,2,5] (AH.mk [(1,bk [Φ r0,bv r1,Φ r2]),(0,bk [Φ a0,bv a1,Φ a2]),(2,bk [π 5 0 (n3+1) 3,bv k1,Φ k2]),(5,Ψ (Atg 0 (ε (0+n3*3) c3)++[iv (A.add Ω n2 t1),bv b,Φ xs]) U U),(4,Ψ [iv (A.add Ω n2 t1),bv b,Φ xs] U U)] 6 Θ) [3,2,0,1] r3 o1) Θ) Θ)
 (AT D (ο 116 0) [iv t1,ψ 0 0,ψ 1 0,ψ 2 0,Φ t6,iv (A.add Ω t7 1)] [bk [Φ a0,bv a1,Φ a2],bk [Φ r0,bv r1,Φ r2],bk [π 3 0 n3 3,bv k1,Φ k2],Ψ c3 U U] λr o=>
 AI 4 [0,1,2,3] (AH.mk [(1,bk [Φ r0,bv r1,Φ r2]),(0,bk [Φ a0,bv a1,Φ a2]),(2,bk [π 3 0 n3 3,bv k1,Φ k2]),(3,Ψ c3 U U)] 4 Θ) [0,1] r o))
 (AT D (ο 116 0) [iv t1,ψ 0 0,ψ 1 0,ψ 2 0,Φ t6,iv (A.add Ω t7 1)] [bk [Φ a0,bv a1,Φ a2],bk [Φ r0,bv r1,Φ r2],bk [π 3 0 n3 3,bv k1,Φ k2],Ψ c3 U U] λr o=>
 AI 4 [0,1,2,3] (AH.mk [(1,bk [Φ r0,bv r1,Φ r2]),(0,bk [Φ a0,bv a1,Φ a2]),(2,bk [π 3 0 n3 3,bv k1,Φ k2]),(3,Ψ c3 U U)] 4 Θ) [0,1] r o))
 (Δ ((Ath [iv 0,ψ 1 0,ψ 2 0],[BO.del,Atb (bk [Φ r0,bv r1,Φ r2]),Atb (bk [π 4 0 n3 3,bv k1,Φ k2]),BO.del,Atb (Ψ c3 U U)]))):=by kernel_rfl
end
section
open Go.RowKit
def XT:MFn:=AE [⟨64,(mB 133),[],[],[(0,((mB 64),([],[]))),(1,([],([],[])))]⟩,⟨64,(mB 389),[],[],[(0,((mB 64),([],[]))),(3,((mB 133),([],[])))]⟩] 16
def Sp:Hnt:=⟨[],[(0,[(0,([.bool],[])),(1,([],[]))]),(1,[(0,([.bool],[])),(3,([.ls,.int .i64,.int .i64],[]))])],[(21,Er),(24,[.ls]),(30,Er),(34,[.ls]),(42,Er),(45,[.ls]),(52,Er),(55,[.ls]),(57,Bz),(60,[.ls])]⟩
def WR:List (Nat × MFn):=[(16,XT)]
variable (A:Ar) (D:Orc)
theorem e16(x0:Rw)(x1 x2:Int):BZ A D Aq Sp .n 16 XT [Φ x0,iv x1,iv x2] [] =
 br (A.lt x1 ↑(Bb x0))
 (Δ ((bv Ξ,[])))
 (Ag D (ο 16 0) [Φ x0,iv x2,iv 0] [] [.t,.C,.x,.X,.Y] λc l o=>
 br (Bg 0 c)
 (dk [.B,.N,.E] [.l l,.o o] λb=>
 Δ ((bv b,[])))
 (br (Bg 1 c)
 (E0 l<|
 CW o<|
 Δ ((bv U,[])))
 (Θ))):=by kernel_rfl
theorem Ai5(t0:Rw)(t2 t7:Int):C2 A D Aq Sp .n 16 0 (AN XT 0).fst (AN XT 0).snd [Φ t0,iv t2,iv t7] [] =
 br (A.lt t7 ↑(Bb t0))
 (unI t7 λi=>
 Bh t0 i λcs=>
 dk [.L,.B,.L,.B,.N] [.l cs] λxs _ _ _=>
 br (A.lt 20 ↑(Bb xs))
 (Δ ((Ath [bv U,bv Ξ],[])))
 (unI t7 λi1=>
 Bh t0 i1 λcs1=>
 dk [.L,.B,.L,.B,.N] [.l cs1] λ_ _ xs3 _=>
 br (A.lt t2 ↑(Bb xs3))
 (Δ ((Ath [bv U,bv Ξ],[])))
 (Ag D (ο 16 1) [Φ t0,iv t2,iv t7,iv 0] [] [.t,.C,.x,.X,.Y] λc l8 o=>
 br (Bg 0 c)
 (dk [.B,.N,.E] [.l l8,.o o] λb4=>
 Δ ((Ath [bv U,bv b4],[])))
 (br (Bg 3 c)
 (dk [.L,.I,.I,.N,.E] [.l l8,.o o] λxs4 n n1=>
 AT D (ο 16 0) [Φ xs4,iv n,iv (A.add Ω n1 1)] [] λr1 o1=>
 AI 0 [] (AH.mk [] 0 Θ) [] r1 o1)
 (Θ)))))
 (Δ ((Ath [iv 0],[]))):=by kernel_rfl
theorem Ai6(t0:Rw)(t2 t7 t8:Int):C2 A D Aq Sp .n 16 1 (AN XT 1).fst (AN XT 1).snd [Φ t0,iv t2,iv t7,iv t8] [] =
 unI t7 λi=>
 Bh t0 i λcs=>
 dk [.L,.B,.L,.B,.N] [.l cs] λxs _ _ _=>
 br (A.lt t8 ↑(Bb xs))
 (unI t7 λi1=>
 Bh t0 i1 λcs1=>
 dk [.L,.B,.L,.B,.N] [.l cs1] λxs2 _ _ _=>
 unI t8 λi2=>
 Bh xs2 i2 λcs2=>
 dk [.I,.B,.L,.N] [.l cs2] λ_ _ xs4=>
 br (A.lt t2 ↑(Bb xs4))
 (Δ ((Ath [bv U,bv Ξ],[])))
 (AT D (ο 16 1) [Φ t0,iv t2,iv t7,iv (A.add Ω t8 1)] [] λr o=>
 AI 0 [] (AH.mk [] 0 Θ) [] r o))
 (Δ ((Ath [iv 2,Φ t0,iv t2,iv t7],[]))):=by kernel_rfl
end
section
open Go.RowKit
def Aei:MFn:=AE [⟨32,(mB 226),[],[],[(1,((mB 32),([],[])))]⟩] 99
def AaU:Hnt:=⟨[(99,(.int .i64,[])),(111,(.ls,[]))],[(0,[(1,([.int .i64],[]))])],[(8,AL),(24,AL),(25,AL)]⟩
def Wf:MFn:=AE [⟨33,(mB 98),[],[],[(0,((mB 16),([],[]))),(1,([],([],[])))]⟩] 100
def Sj:Hnt:=⟨[(16,(.bool,[])),(100,(.bool,[])),(111,(.ls,[]))],[(0,[(0,([.bool],[])),(1,([],[]))])],[(8,[.int .i64]),(12,Er),(18,AL),(28,AL),(29,AL)]⟩
def Ao4:MFn:=AE [] 35
def Aoy:Hnt:=⟨[(99,(.int .i64,[])),(100,(.bool,[]))],[],[(7,AL),(12,AL)]⟩
def AcG:List (Nat × MFn):=[(99,Aei),(100,Wf),(35,Ao4)]
variable (A:Ar) (D:Orc)
theorem e99(x0_0:Int)(x0_1:Rw)(x0_2:Bool)(x0_3:Rw)(x0_4:Bool)(x0_5:Rw)(x1:Int):BZ A D Aq AaU .n 99 Aei [ξ [iv x0_0,Φ x0_1,bv x0_2,Φ x0_3,bv x0_4,Φ x0_5],iv x1] [] =
 Ag D (ω 111) [ξ [iv x0_0,Φ x0_1,bv x0_2,Φ x0_3,bv x0_4,Φ x0_5]] [] [.l,.E] λxs=>
 Ag D (ο 99 0) [iv x1,iv 1,Φ xs,iv 0] [] [.t,.C,.x,.X,.Y] λc l o1=>
 br (Bg 1 c)
 (dk [.I,.N,.E] [.l l,.o o1] λn=>
 Δ ((iv n,[])))
 (Θ):=by kernel_rfl
theorem Aje(t1 t5:Int)(t6:Rw)(t7:Int):C2 A D Aq AaU .n 99 0 (AN Aei 0).fst (AN Aei 0).snd [iv t1,iv t5,Φ t6,iv t7] [] =
 br (A.lt t7 ↑(Bb t6))
 (br (A.le t5 t1)
 (unI t7 λi=>
 Bh t6 i λcs=>
 dk [.I,.L,.B,.L,.B,.L,.N] [.l cs] λn xs b xs1 b1 xs2=>
 Ag D (ω 99) [ξ [iv n,Φ xs,bv b,Φ xs1,bv b1,Φ xs2],iv (A.sub Ω t1 t5)] [] [.i,.E] λn1=>
 AT D (ο 99 0) [iv t1,iv (A.add Ω t5 n1),Φ t6,iv (A.add Ω t7 1)] [] λr1 o1=>
 AI 0 [] (AH.mk [] 0 Θ) [] r1 o1)
 (Δ ((Ath [iv 0,iv t5],[]))))
 (Δ ((Ath [iv 0,iv t5],[]))):=by kernel_rfl
theorem Aqe(x0_0:Int)(x0_1:Rw)(x0_2:Bool)(x0_3:Rw)(x0_4:Bool)(x0_5:Rw)(x1:Int):BZ A D Aq Sj .n 100 Wf [ξ [iv x0_0,Φ x0_1,bv x0_2,Φ x0_3,bv x0_4,Φ x0_5],iv x1] [] =
 br (A.eq x0_0 2)
 (Ag D (ω 16) [Φ [[Φ x0_1,bv x0_2,Φ x0_3,bv x0_4]],iv 1,iv x1] [] [.b,.E] λb=>
 br b
 (Ag D (ω 111) [ξ [iv x0_0,Φ x0_1,bv x0_2,Φ x0_3,bv x0_4,Φ x0_5]] [] [.l,.E] λxs=>
 Ag D (ο 100 0) [iv x1,Φ xs,iv 0] [] [.t,.C,.x,.X,.Y] λc l o2=>
 br (Bg 0 c)
 (dk [.B,.N,.E] [.l l,.o o2] λb1=>
 Δ ((bv b1,[])))
 (br (Bg 1 c)
 (E0 l<|
 CW o2<|
 Δ ((bv U,[])))
 (Θ)))
 (Δ ((bv Ξ,[]))))
 (Ag D (ω 111) [ξ [iv x0_0,Φ x0_1,bv x0_2,Φ x0_3,bv x0_4,Φ x0_5]] [] [.l,.E] λxs=>
 Ag D (ο 100 0) [iv x1,Φ xs,iv 0] [] [.t,.C,.x,.X,.Y] λc l o1=>
 br (Bg 0 c)
 (dk [.B,.N,.E] [.l l,.o o1] λb=>
 Δ ((bv b,[])))
 (br (Bg 1 c)
 (E0 l<|
 CW o1<|
 Δ ((bv U,[])))
 (Θ))):=by kernel_rfl
theorem ZP(t1:Int)(t5:Rw)(t6:Int):C2 A D Aq Sj .n 100 0 (AN Wf 0).fst (AN Wf 0).snd [iv t1,Φ t5,iv t6] [] =
 br (A.lt t6 ↑(Bb t5))
 (unI t6 λi=>
 Bh t5 i λcs=>
 dk [.I,.L,.B,.L,.B,.L,.N] [.l cs] λn xs b xs1 b1 xs2=>
 Ag D (ω 100) [ξ [iv n,Φ xs,bv b,Φ xs1,bv b1,Φ xs2],iv t1] [] [.b,.E] λb2=>
 br b2
 (AT D (ο 100 0) [iv t1,Φ t5,iv (A.add Ω t6 1)] [] λr1 o1=>
 AI 0 [] (AH.mk [] 0 Θ) [] r1 o1)
 (Δ ((Ath [bv U,bv Ξ],[]))))
 (Δ ((Ath [iv 0],[]))):=by kernel_rfl
theorem e35(x0_0:Int)(x0_1:Rw)(x0_2:Bool)(x0_3:Rw)(x0_4:Bool)(x0_5:Rw)(x1 x2:Int):BZ A D Aq Aoy .n 35 Ao4 [ξ [iv x0_0,Φ x0_1,bv x0_2,Φ x0_3,bv x0_4,Φ x0_5],iv x1,iv x2] [] =
 Ag D (ω 99) [ξ [iv x0_0,Φ x0_1,bv x0_2,Φ x0_3,bv x0_4,Φ x0_5],iv x1] [] [.i,.E] λn=>
 br (A.lt x1 n)
 (Δ ((bv Ξ,[])))
 (Ag D (ω 100) [ξ [iv x0_0,Φ x0_1,bv x0_2,Φ x0_3,bv x0_4,Φ x0_5],iv x2] [] [.b,.E] λb=>
 br b
 (Δ ((bv U,[])))
 (Δ ((bv Ξ,[])))):=by kernel_rfl
end
