/- What layer 4's saying ca -/
import Derived.Test.YtpncilciembjdaaGreatDoorHBN
set_option linter.all false
open Bool renaming false->Φ,true->Δ,and_eq_true->Awh
open List renaming mem_cons->Awj,not_mem_nil->Axm
open Option renaming some->Θ
namespace Go.Proofs.YtpncilciembjdaaGreatDoor
noncomputable section
open Tryz renaming prog->Av9
open Go.RowKit
theorem gAu(f:Nat):BD (BL Av9 f) ((Dn Ap WY 60).ask (.fn f)):=(He (Aap ⟨Vo,Vq,ZQ,Fk,Ik,I6,T4,trivial⟩) 60).1 f
def DU(f:Nat):DF:=(Dn Ap WY 60).ask (.fn f)
theorem HW(f:Nat):BD (BL Av9 f) (DU f):=gAu f
def vB:Value->Value->Bool
 |.int k n,.int k' n'=>decide (k=k')&&decide (n=n')
 |.bool b,.bool b'=>decide (b=b')
 |.string s,.string s'=>decide (s.data.toList=s'.data.toList)
 |_,_=>Φ
theorem Asw{a b:Value}(h:vB a b=Δ):a=b:=by
 unfold vB at h;split at h
 .simp only[Awh,decide_eq_true_eq]at h
  rw[h.1,h.2]
 .rename_i b b'
  have e:b=b':=of_decide_eq_true h;rw[e]
 .rename_i s s'
  have:=of_decide_eq_true h;obtain⟨⟨l⟩⟩:=s;obtain⟨⟨l'⟩⟩:=s';have e:l=l':=this;rw[e]
 .cases h
mutual
def VK:AV->AV->Bool
 |.v x,.v y=>vB x y
 |.ls xs,.ls ys=>avR xs ys
 |.agg xs,.agg ys=>avL xs ys
 |.tup xs,.tup ys=>avL xs ys
 |_,_=>Φ
def avL:Ab->Ab->Bool
 |[],[]=>Δ
 |x::xs,y::ys=>VK x y&&avL xs ys
 |_,_=>Φ
def avR:Rw->Rw->Bool
 |[],[]=>Δ
 |x::xs,y::ys=>avL x y&&avR xs ys
 |_,_=>Φ
end
mutual
theorem Anh:∀(a b:AV),VK a b=Δ->a=b
 |.v x,.v y,h=>by
  have e:x=y:=Asw (by simpa only[VK]using h);rw[e]
 |.ls xs,.ls ys,h=>by
  have e:=Abc xs ys (by simpa only[VK]using h);rw[e]
 |.agg xs,.agg ys,h=>by
  have e:=NX xs ys (by simpa only[VK]using h);rw[e]
 |.tup xs,.tup ys,h=>by
  have e:=NX xs ys (by simpa only[VK]using h);rw[e]
 |.v _,.ptr _ _,h | .v _,.sl _ _ _ _,h | .v _,.ls _,h | .v _,.lp _,h | .v _,.agg _,h | .v _,.tup _,h | .v _,.fn _ _ _,h | .v _,.any,h=>by simp[VK]at h
 |.ls _,.v _,h | .ls _,.ptr _ _,h | .ls _,.sl _ _ _ _,h | .ls _,.lp _,h | .ls _,.agg _,h | .ls _,.tup _,h | .ls _,.fn _ _ _,h | .ls _,.any,h=>by simp[VK]at h
 |.agg _,.v _,h | .agg _,.ptr _ _,h | .agg _,.sl _ _ _ _,h | .agg _,.ls _,h | .agg _,.lp _,h | .agg _,.tup _,h | .agg _,.fn _ _ _,h | .agg _,.any,h=>by simp[VK]at h
 |.tup _,.v _,h | .tup _,.ptr _ _,h | .tup _,.sl _ _ _ _,h | .tup _,.ls _,h | .tup _,.lp _,h | .tup _,.agg _,h | .tup _,.fn _ _ _,h | .tup _,.any,h=>by simp[VK]at h
 |.ptr _ _,b,h=>by cases b<;>simp[VK]at h
 |.sl _ _ _ _,b,h=>by cases b<;>simp[VK]at h
 |.lp _,b,h=>by cases b<;>simp[VK]at h
 |.fn _ _ _,b,h=>by cases b<;>simp[VK]at h
 |.any,b,h=>by cases b<;>simp[VK]at h
theorem NX:∀(a b:Ab),avL a b=Δ->a=b
 |[],[],_=>rfl
 |x::xs,y::ys,h=>by
  simp only[avL,Awh]at h;rw[Anh x y h.1,NX xs ys h.2]
 |[],_::_,h=>by simp[avL]at h
 |_::_,[],h=>by simp[avL]at h
theorem Abc:∀(a b:Rw),avR a b=Δ->a=b
 |[],[],_=>rfl
 |x::xs,y::ys,h=>by
  simp only[avR,Awh]at h;rw[NX x y h.1,Abc xs ys h.2]
 |[],_::_,h=>by simp[avR]at h
 |_::_,[],h=>by simp[avR]at h
end
def CO:List (Ab × AV)->Ab->Option AV
 |[],_=>none
 |(a,r)::t,args=>match avL a args with
  |true=>Θ r
  |false=>CO t args
theorem QP:∀{T:List (Ab × AV)} {args:Ab} {r:AV},CO T args=Θ r->(args,r)∈T
 |[],_,_,h=>by cases h
 |(a,x)::t,args,r,h=>by
  unfold CO at h;split at h
  .rename_i e
   injection h with h
   rw[NX a args e,h];exact List.mem_cons_self ..
  .exact List.mem_cons_of_mem _ (QP h)
theorem C0{S:Nd}{d:DF}(hd:BD S d)(T:List (Ab × AV))(h:∀ p∈T,d p.1 []=Θ (p.2,[])):BD S (Dd (CO T)):=by
 intro args bs r out he
 cases bs with
 |cons=>cases he
 |nil=>
  obtain⟨r',hr,e⟩:=Option.map_eq_some_iff.1 he;obtain⟨rfl,rfl⟩:r'=r/\[]=out:=by simpa using e
  exact hd args [] r' [] (h _ (QP hr))
section
open Go.RowKit
abbrev Qb(n:Int):Ab:=[.v (.int .u32 n)]
abbrev i0:Ab:=[bv Φ,.ls []]
abbrev i1:Ab:=[bv Φ,.ls [Qb 1]]
abbrev i1m:Ab:=[bv Δ,.ls [Qb 1]]
abbrev i2:Ab:=[bv Φ,.ls [Qb 2]]
abbrev pX:Ab:=[iv 0,bv Φ,.ls [Qb 1]]
abbrev Z4:Ab:=[iv 0,bv Δ,.ls [Qb 1]]
abbrev pY:Ab:=[iv 1,bv Φ,.ls [Qb 1]]
abbrev WL:Ab:=[iv 1,bv Δ,.ls [Qb 1]]
abbrev tm(ps:Rw)(k:Ab):Ab:=.ls ps::k
abbrev rL:Ab:=[.ls [Z4],bv Φ,.ls [Qb 2],bv Φ]
abbrev rG:Ab:=[.ls [pX,WL],bv Φ,.ls [],bv Φ]
abbrev WO:Ab:=[.ls [pY],bv Φ,.ls [],bv Δ]
abbrev r3:Ab:=[.ls [pX],bv Δ,.ls [Qb 3],bv Φ]
abbrev rY:Ab:=[.ls [pY],bv Δ,.ls [Qb 1],bv Φ]
abbrev rYm:Ab:=[.ls [WL],bv Δ,.ls [Qb 1],bv Φ]
set_option maxRecDepth 1000000
def S9:List (Ab × AV):=[([.agg rL],.tup [.agg rL,iv 0]),([.agg rG],.tup [.agg rG,iv 0]),([.agg WO],.tup [.agg WO,iv 0]),([.agg r3],.tup [.agg r3,iv 0]),([.agg rY],.tup [.agg rY,iv 0]),([.agg rYm],.tup [.agg rYm,iv 0])]
theorem kT1:DU 17 [.agg rL] []=Θ (.tup [.agg rL,iv 0],[]):=by kernel_rfl
theorem kT2:DU 17 [.agg rG] []=Θ (.tup [.agg rG,iv 0],[]):=by kernel_rfl
theorem kT3:DU 17 [.agg WO] []=Θ (.tup [.agg WO,iv 0],[]):=by kernel_rfl
theorem kT4:DU 17 [.agg r3] []=Θ (.tup [.agg r3,iv 0],[]):=by kernel_rfl
theorem kT5:DU 17 [.agg rY] []=Θ (.tup [.agg rY,iv 0],[]):=by kernel_rfl
theorem kT6:DU 17 [.agg rYm] []=Θ (.tup [.agg rYm,iv 0],[]):=by kernel_rfl
theorem Acu:BD (BL Av9 17) (Dd (CO S9)):=C0 (HW _) _ (by
 unfold S9;simp only[Awj,Axm,or_false];rintro p (rfl|rfl|rfl|rfl|rfl|rfl)
 .exact kT1
 .exact kT2
 .exact kT3
 .exact kT4
 .exact kT5
 .exact kT6)
def Aeu:List (Ab × AV):=[([.agg rL],.ls [r3]),([.agg WO],.ls [rY,rYm])]
theorem kD1:DU 23 [.agg rL] []=Θ (.ls [r3],[]):=by kernel_rfl
theorem kD2:DU 23 [.agg WO] []=Θ (.ls [rY,rYm],[]):=by kernel_rfl
theorem Aqp:BD (BL Av9 23) (Dd (CO Aeu)):=C0 (HW _) _ (by
 unfold Aeu;simp only[Awj,Axm,or_false];rintro p (rfl|rfl)
 .exact kD1
 .exact kD2)
def S8:List (Ab × AV):=[([.agg i2],.agg (tm [] i2)),([.agg i0],.agg (tm [] i0))]
theorem kN1:Hf 125 [.agg i2] []=Θ (.agg (tm [] i2),[]):=by kernel_rfl
theorem kN2:Hf 125 [.agg i0] []=Θ (.agg (tm [] i0),[]):=by kernel_rfl
theorem Acs:BD (BL Av9 125) (Dd (CO S8)):=C0 (gTz _) _ (by
 unfold S8;simp only[Awj,Axm,or_false];rintro p (rfl|rfl)
 .exact kN1
 .exact kN2)
def Apz:List (Ab × AV):=[([.agg (tm [Z4] i2),.agg (tm [] i2)],.agg (tm [Z4] i0)),([.agg (tm [pX,WL] i0),.agg (tm [] i0)],.agg (tm [pX,WL] i0)),([.agg (tm [] i2),.agg (tm [pX] i0)],.agg (tm [Z4] i2)),([.agg (tm [pY] i0),.agg (tm [] i0)],.agg (tm [pY] i0))]
theorem kS1:Hf 127 [.agg (tm [Z4] i2),.agg (tm [] i2)] []=Θ (.agg (tm [Z4] i0),[]):=by kernel_rfl
theorem kS2:Hf 127 [.agg (tm [pX,WL] i0),.agg (tm [] i0)] []=Θ (.agg (tm [pX,WL] i0),[]):=by kernel_rfl
theorem kS3:Hf 127 [.agg (tm [] i2),.agg (tm [pX] i0)] []=Θ (.agg (tm [Z4] i2),[]):=by kernel_rfl
theorem kS4:Hf 127 [.agg (tm [pY] i0),.agg (tm [] i0)] []=Θ (.agg (tm [pY] i0),[]):=by kernel_rfl
theorem Aqu:BD (BL Av9 127) (Dd (CO Apz)):=C0 (gTz _) _ (by
 unfold Apz;simp only[Awj,Axm,or_false];rintro p (rfl|rfl|rfl|rfl)
 .exact kS1
 .exact kS2
 .exact kS3
 .exact kS4)
def Aew:List (Ab × AV):=[([.agg i1m],iv (-1)),([.agg i1],iv 1)]
theorem kG1:Hf 64 [.agg i1m] []=Θ (iv (-1),[]):=by kernel_rfl
theorem kG2:Hf 64 [.agg i1] []=Θ (iv 1,[]):=by kernel_rfl
theorem AnL:BD (BL Av9 64) (Dd (CO Aew)):=C0 (gTz _) _ (by
 unfold Aew;simp only[Awj,Axm,or_false];rintro p (rfl|rfl)
 .exact kG1
 .exact kG2)
def Aev:List (Ab × AV):=[([.agg (tm [pX] i0),.agg (tm [pX,WL] i0)],bv Φ),([.agg (tm [pY] i0),.agg (tm [pX,WL] i0)],bv Φ)]
theorem kE1:Hf 213 [.agg (tm [pX] i0),.agg (tm [pX,WL] i0)] []=Θ (bv Φ,[]):=by kernel_rfl
theorem kE2:Hf 213 [.agg (tm [pY] i0),.agg (tm [pX,WL] i0)] []=Θ (bv Φ,[]):=by kernel_rfl
theorem AnK:BD (BL Av9 213) (Dd (CO Aev)):=C0 (gTz _) _ (by
 unfold Aev;simp only[Awj,Axm,or_false];rintro p (rfl|rfl)
 .exact kE1
 .exact kE2)
def Apy:List (Ab × AV):=[([.agg i0],.agg i0)]
theorem kNe:Hf 161 [.agg i0] []=Θ (.agg i0,[]):=by kernel_rfl
theorem Aqt:BD (BL Av9 161) (Dd (CO Apy)):=C0 (gTz _) _ (by
 unfold Apy;simp only[Awj,Axm,or_false];rintro p rfl;exact kNe)
def Aex:List (Ab × AV):=[([.agg (tm [Z4] i0)],.agg (tm [pX] i0))]
theorem kTN:Hf 68 [.agg (tm [Z4] i0)] []=Θ (.agg (tm [pX] i0),[]):=by kernel_rfl
theorem AnM:BD (BL Av9 68) (Dd (CO Aex)):=C0 (gTz _) _ (by
 unfold Aex;simp only[Awj,Axm,or_false];rintro p rfl;exact kTN)
def Xj:List (Ab × AV):=[([.agg (tm [Z4] i2)],.agg rL),([.agg (tm [pX,WL] i0)],.agg rG)]
theorem kL1:Hf 28 [.agg (tm [Z4] i2)] []=Θ (.agg rL,[]):=by kernel_rfl
theorem kL2:Hf 28 [.agg (tm [pX,WL] i0)] []=Θ (.agg rG,[]):=by kernel_rfl
theorem AfY:BD (BL Av9 28) (Dd (CO Xj)):=C0 (gTz _) _ (by
 unfold Xj;simp only[Awj,Axm,or_false];rintro p (rfl|rfl)
 .exact kL1
 .exact kL2)
def AeA:List (Ab × AV):=[([.agg (tm [pY] i0)],.agg WO)]
theorem kZe:Hf 27 [.agg (tm [pY] i0)] []=Θ (.agg WO,[]):=by kernel_rfl
theorem AnQ:BD (BL Av9 27) (Dd (CO AeA)):=C0 (gTz _) _ (by
 unfold AeA;simp only[Awj,Axm,or_false];rintro p rfl;exact kZe)
def Aez:List (Ab × AV):=[([.agg i0,.agg i0],iv 0)]
theorem kZC:Hf 155 [.agg i0,.agg i0] []=Θ (iv 0,[]):=by kernel_rfl
theorem AnP:BD (BL Av9 155) (Dd (CO Aez)):=C0 (gTz _) _ (by
 unfold Aez;simp only[Awj,Axm,or_false];rintro p rfl;exact kZC)
def Apx:List (Ab × AV):=[([.agg rG,.agg rL],iv 1),([.agg rG,.agg WO],iv (-1))]
theorem kC1:DU 25 [.agg rG,.agg rL] []=Θ (iv 1,[]):=by kernel_rfl
theorem kC2:DU 25 [.agg rG,.agg WO] []=Θ (iv (-1),[]):=by kernel_rfl
theorem Aqo:BD (BL Av9 25) (Dd (CO Apx)):=C0 (HW _) _ (by
 unfold Apx;simp only[Awj,Axm,or_false];rintro p (rfl|rfl)
 .exact kC1
 .exact kC2)
end
def ArY:List (Nat × Nat):=[(136,0),(196,0),(234,0),(235,0),(265,0),(275,0),(140,0),(199,0),(262,0),(264,0),(90,0),(163,0),(214,0)]
def AiP:MFn:=NB Av9 B4 [] Φ Δ 160
def AiQ:MFn:=NB Av9 B4 [] Φ Δ 162
def AoT:MFn:=NB Av9 B4 [] Φ Δ 89
def AoU:MFn:=AN [] 90
def AiS:MFn:=AN [] 164
def AiU:MFn:=AN [] 222
def AiV:MFn:=AN [] 223
def AiR:MFn:=AN [⟨148,(mB 3103),[],[],[(0,([],([],[1000000])))]⟩] 163
def AiT:MFn:=AN [⟨53,(mB 271),[],[],[(1,([],([],[1000000])))]⟩,⟨53,(mB 783),[],[],[(3,((mB 271),([],[1000000])))]⟩] 214
def Asr:List (Nat × MFn):=[(160,AiP),(162,AiQ),(89,AoT),(90,AoU),(164,AiS),(222,AiU),(223,AiV),(163,AiR),(214,AiT)]
