/- What layer 4's saying ca -/
import Derived.Test.YtpncilciembjdaaGreatDoorGBK
set_option linter.all false
open Bool renaming false->Ξ,true->U,and_eq_true->Aqr
open List renaming mem_cons->ι,not_mem_nil->Arp
open Option renaming some->Δ
namespace Go.Proofs.YtpncilciembjdaaGreatDoor
noncomputable section
open Tryz renaming prog->η
open Go.RowKit
theorem gAu(f:Nat):AN (AT η f) ((Dn Ah UE 60).ask (.fn f)):=(FZ (Xr ⟨S3,S5,WQ,HI,Ll,HT,RQ,trivial⟩) 60).1 f
def C4(f:Nat):DF:=(Dn Ah UE 60).ask (.fn f)
theorem GA(f:Nat):AN (AT η f) (C4 f):=gAu f
def vB:Value->Value->Bool
 |.int k n,.int k' n'=>decide (k=k')&&decide (n=n')
 |.bool b,.bool b'=>decide (b=b')
 |.string s,.string s'=>decide (s.data.toList=s'.data.toList)
 |_,_=>Ξ
theorem Anb{a b:Value}(h:vB a b=U):a=b:=by
 unfold vB at h;split at h
 .simp only[Aqr,decide_eq_true_eq]at h
  rw[h.1,h.2]
 .rename_i b b'
  have e:b=b':=of_decide_eq_true h;rw[e]
 .rename_i s s'
  have:=of_decide_eq_true h;obtain⟨⟨l⟩⟩:=s;obtain⟨⟨l'⟩⟩:=s';have e:l=l':=this;rw[e]
 .cases h
mutual
def Tr:AV->AV->Bool
 |.v x,.v y=>vB x y
 |.ls xs,.ls ys=>avR xs ys
 |.agg xs,.agg ys=>avL xs ys
 |.tup xs,.tup ys=>avL xs ys
 |_,_=>Ξ
def avL:List AV->List AV->Bool
 |[],[]=>U
 |x::xs,y::ys=>Tr x y&&avL xs ys
 |_,_=>Ξ
def avR:List (List AV)->List (List AV)->Bool
 |[],[]=>U
 |x::xs,y::ys=>avL x y&&avR xs ys
 |_,_=>Ξ
end
mutual
theorem AiT:∀(a b:AV),Tr a b=U->a=b
 |.v x,.v y,h=>by
  have e:x=y:=Anb (by simpa only[Tr]using h);rw[e]
 |.ls xs,.ls ys,h=>by
  have e:=Yp xs ys (by simpa only[Tr]using h);rw[e]
 |.agg xs,.agg ys,h=>by
  have e:=Mz xs ys (by simpa only[Tr]using h);rw[e]
 |.tup xs,.tup ys,h=>by
  have e:=Mz xs ys (by simpa only[Tr]using h);rw[e]
 |.v _,.ptr _ _,h | .v _,.sl _ _ _ _,h | .v _,.ls _,h | .v _,.lp _,h | .v _,.agg _,h | .v _,.tup _,h | .v _,.fn _ _ _,h | .v _,.any,h=>by simp[Tr]at h
 |.ls _,.v _,h | .ls _,.ptr _ _,h | .ls _,.sl _ _ _ _,h | .ls _,.lp _,h | .ls _,.agg _,h | .ls _,.tup _,h | .ls _,.fn _ _ _,h | .ls _,.any,h=>by simp[Tr]at h
 |.agg _,.v _,h | .agg _,.ptr _ _,h | .agg _,.sl _ _ _ _,h | .agg _,.ls _,h | .agg _,.lp _,h | .agg _,.tup _,h | .agg _,.fn _ _ _,h | .agg _,.any,h=>by simp[Tr]at h
 |.tup _,.v _,h | .tup _,.ptr _ _,h | .tup _,.sl _ _ _ _,h | .tup _,.ls _,h | .tup _,.lp _,h | .tup _,.agg _,h | .tup _,.fn _ _ _,h | .tup _,.any,h=>by simp[Tr]at h
 |.ptr _ _,b,h=>by cases b<;>simp[Tr]at h
 |.sl _ _ _ _,b,h=>by cases b<;>simp[Tr]at h
 |.lp _,b,h=>by cases b<;>simp[Tr]at h
 |.fn _ _ _,b,h=>by cases b<;>simp[Tr]at h
 |.any,b,h=>by cases b<;>simp[Tr]at h
theorem Mz:∀(a b:List AV),avL a b=U->a=b
 |[],[],_=>rfl
 |x::xs,y::ys,h=>by
  simp only[avL,Aqr]at h;rw[AiT x y h.1,Mz xs ys h.2]
 |[],_::_,h=>by simp[avL]at h
 |_::_,[],h=>by simp[avL]at h
theorem Yp:∀(a b:List (List AV)),avR a b=U->a=b
 |[],[],_=>rfl
 |x::xs,y::ys,h=>by
  simp only[avR,Aqr]at h;rw[Mz x y h.1,Yp xs ys h.2]
 |[],_::_,h=>by simp[avR]at h
 |_::_,[],h=>by simp[avR]at h
end
def B6:List (List AV × AV)->List AV->Option AV
 |[],_=>none
 |(a,r)::t,args=>match avL a args with
  |true=>Δ r
  |false=>B6 t args
theorem O5:∀{T:List (List AV × AV)} {args:List AV} {r:AV},B6 T args=Δ r->(args,r)∈T
 |[],_,_,h=>by cases h
 |(a,x)::t,args,r,h=>by
  unfold B6 at h;split at h
  .rename_i e
   injection h with h
   rw[Mz a args e,h];exact List.mem_cons_self ..
  .exact List.mem_cons_of_mem _ (O5 h)
theorem Co{S:J7}{d:DF}(hd:AN S d)(T:List (List AV × AV))(h:∀ p∈T,d p.1 []=Δ (p.2,[])):AN S (CA (B6 T)):=by
 intro args bs r out he
 cases bs with
 |cons=>cases he
 |nil=>
  obtain⟨r',hr,e⟩:=Option.map_eq_some_iff.1 he;obtain⟨rfl,rfl⟩:r'=r/\[]=out:=by simpa using e
  exact hd args [] r' [] (h _ (O5 hr))
section
open Go.RowKit
abbrev Ou(n:Int):List AV:=[.v (.int .u32 n)]
abbrev i0:List AV:=[bv Ξ,.ls []]
abbrev i1:List AV:=[bv Ξ,.ls [Ou 1]]
abbrev i1m:List AV:=[bv U,.ls [Ou 1]]
abbrev i2:List AV:=[bv Ξ,.ls [Ou 2]]
abbrev pX:List AV:=[iv 0,bv Ξ,.ls [Ou 1]]
abbrev Xa:List AV:=[iv 0,bv U,.ls [Ou 1]]
abbrev pY:List AV:=[iv 1,bv Ξ,.ls [Ou 1]]
abbrev Uv:List AV:=[iv 1,bv U,.ls [Ou 1]]
abbrev tm(ps:List (List AV))(k:List AV):List AV:=.ls ps::k
abbrev rL:List AV:=[.ls [Xa],bv Ξ,.ls [Ou 2],bv Ξ]
abbrev rG:List AV:=[.ls [pX,Uv],bv Ξ,.ls [],bv Ξ]
abbrev UA:List AV:=[.ls [pY],bv Ξ,.ls [],bv U]
abbrev r3:List AV:=[.ls [pX],bv U,.ls [Ou 3],bv Ξ]
abbrev rY:List AV:=[.ls [pY],bv U,.ls [Ou 1],bv Ξ]
abbrev rYm:List AV:=[.ls [Uv],bv U,.ls [Ou 1],bv Ξ]
set_option maxRecDepth 1000000
def QP:List (List AV × AV):=[([.agg rL],.tup [.agg rL,iv 0]),([.agg rG],.tup [.agg rG,iv 0]),([.agg UA],.tup [.agg UA,iv 0]),([.agg r3],.tup [.agg r3,iv 0]),([.agg rY],.tup [.agg rY,iv 0]),([.agg rYm],.tup [.agg rYm,iv 0])]
theorem kT1:C4 17 [.agg rL] []=Δ (.tup [.agg rL,iv 0],[]):=by kernel_rfl
theorem kT2:C4 17 [.agg rG] []=Δ (.tup [.agg rG,iv 0],[]):=by kernel_rfl
theorem kT3:C4 17 [.agg UA] []=Δ (.tup [.agg UA,iv 0],[]):=by kernel_rfl
theorem kT4:C4 17 [.agg r3] []=Δ (.tup [.agg r3,iv 0],[]):=by kernel_rfl
theorem kT5:C4 17 [.agg rY] []=Δ (.tup [.agg rY,iv 0],[]):=by kernel_rfl
theorem kT6:C4 17 [.agg rYm] []=Δ (.tup [.agg rYm,iv 0],[]):=by kernel_rfl
theorem Zq:AN (AT η 17) (CA (B6 QP)):=Co (GA _) _ (by
 unfold QP;simp only[ι,Arp,or_false];rintro p (rfl|rfl|rfl|rfl|rfl|rfl)
 .exact kT1
 .exact kT2
 .exact kT3
 .exact kT4
 .exact kT5
 .exact kT6)
def Aa5:List (List AV × AV):=[([.agg rL],.ls [r3]),([.agg UA],.ls [rY,rYm])]
theorem kD1:C4 23 [.agg rL] []=Δ (.ls [r3],[]):=by kernel_rfl
theorem kD2:C4 23 [.agg UA] []=Δ (.ls [rY,rYm],[]):=by kernel_rfl
theorem AlT:AN (AT η 23) (CA (B6 Aa5)):=Co (GA _) _ (by
 unfold Aa5;simp only[ι,Arp,or_false];rintro p (rfl|rfl)
 .exact kD1
 .exact kD2)
def QO:List (List AV × AV):=[([.agg i2],.agg (tm [] i2)),([.agg i0],.agg (tm [] i0))]
theorem kN1:F5 125 [.agg i2] []=Δ (.agg (tm [] i2),[]):=by kernel_rfl
theorem kN2:F5 125 [.agg i0] []=Δ (.agg (tm [] i0),[]):=by kernel_rfl
theorem Zp:AN (AT η 125) (CA (B6 QO)):=Co (gTz _) _ (by
 unfold QO;simp only[ι,Arp,or_false];rintro p (rfl|rfl)
 .exact kN1
 .exact kN2)
def Ak4:List (List AV × AV):=[([.agg (tm [Xa] i2),.agg (tm [] i2)],.agg (tm [Xa] i0)),([.agg (tm [pX,Uv] i0),.agg (tm [] i0)],.agg (tm [pX,Uv] i0)),([.agg (tm [] i2),.agg (tm [pX] i0)],.agg (tm [Xa] i2)),([.agg (tm [pY] i0),.agg (tm [] i0)],.agg (tm [pY] i0))]
theorem kS1:F5 127 [.agg (tm [Xa] i2),.agg (tm [] i2)] []=Δ (.agg (tm [Xa] i0),[]):=by kernel_rfl
theorem kS2:F5 127 [.agg (tm [pX,Uv] i0),.agg (tm [] i0)] []=Δ (.agg (tm [pX,Uv] i0),[]):=by kernel_rfl
theorem kS3:F5 127 [.agg (tm [] i2),.agg (tm [pX] i0)] []=Δ (.agg (tm [Xa] i2),[]):=by kernel_rfl
theorem kS4:F5 127 [.agg (tm [pY] i0),.agg (tm [] i0)] []=Δ (.agg (tm [pY] i0),[]):=by kernel_rfl
theorem AlX:AN (AT η 127) (CA (B6 Ak4)):=Co (gTz _) _ (by
 unfold Ak4;simp only[ι,Arp,or_false];rintro p (rfl|rfl|rfl|rfl)
 .exact kS1
 .exact kS2
 .exact kS3
 .exact kS4)
def Aa7:List (List AV × AV):=[([.agg i1m],iv (-1)),([.agg i1],iv 1)]
theorem kG1:F5 64 [.agg i1m] []=Δ (iv (-1),[]):=by kernel_rfl
theorem kG2:F5 64 [.agg i1] []=Δ (iv 1,[]):=by kernel_rfl
theorem Ajm:AN (AT η 64) (CA (B6 Aa7)):=Co (gTz _) _ (by
 unfold Aa7;simp only[ι,Arp,or_false];rintro p (rfl|rfl)
 .exact kG1
 .exact kG2)
def Aa6:List (List AV × AV):=[([.agg (tm [pX] i0),.agg (tm [pX,Uv] i0)],bv Ξ),([.agg (tm [pY] i0),.agg (tm [pX,Uv] i0)],bv Ξ)]
theorem kE1:F5 213 [.agg (tm [pX] i0),.agg (tm [pX,Uv] i0)] []=Δ (bv Ξ,[]):=by kernel_rfl
theorem kE2:F5 213 [.agg (tm [pY] i0),.agg (tm [pX,Uv] i0)] []=Δ (bv Ξ,[]):=by kernel_rfl
theorem Ajl:AN (AT η 213) (CA (B6 Aa6)):=Co (gTz _) _ (by
 unfold Aa6;simp only[ι,Arp,or_false];rintro p (rfl|rfl)
 .exact kE1
 .exact kE2)
def Ak3:List (List AV × AV):=[([.agg i0],.agg i0)]
theorem kNe:F5 161 [.agg i0] []=Δ (.agg i0,[]):=by kernel_rfl
theorem AlW:AN (AT η 161) (CA (B6 Ak3)):=Co (gTz _) _ (by
 unfold Ak3;simp only[ι,Arp,or_false];rintro p rfl;exact kNe)
def Aa8:List (List AV × AV):=[([.agg (tm [Xa] i0)],.agg (tm [pX] i0))]
theorem kTN:F5 68 [.agg (tm [Xa] i0)] []=Δ (.agg (tm [pX] i0),[]):=by kernel_rfl
theorem Ajn:AN (AT η 68) (CA (B6 Aa8)):=Co (gTz _) _ (by
 unfold Aa8;simp only[ι,Arp,or_false];rintro p rfl;exact kTN)
def US:List (List AV × AV):=[([.agg (tm [Xa] i2)],.agg rL),([.agg (tm [pX,Uv] i0)],.agg rG)]
theorem kL1:F5 28 [.agg (tm [Xa] i2)] []=Δ (.agg rL,[]):=by kernel_rfl
theorem kL2:F5 28 [.agg (tm [pX,Uv] i0)] []=Δ (.agg rG,[]):=by kernel_rfl
theorem Aco:AN (AT η 28) (CA (B6 US)):=Co (gTz _) _ (by
 unfold US;simp only[ι,Arp,or_false];rintro p (rfl|rfl)
 .exact kL1
 .exact kL2)
def Abb:List (List AV × AV):=[([.agg (tm [pY] i0)],.agg UA)]
theorem kZe:F5 27 [.agg (tm [pY] i0)] []=Δ (.agg UA,[]):=by kernel_rfl
theorem Ajr:AN (AT η 27) (CA (B6 Abb)):=Co (gTz _) _ (by
 unfold Abb;simp only[ι,Arp,or_false];rintro p rfl;exact kZe)
def Aba:List (List AV × AV):=[([.agg i0,.agg i0],iv 0)]
theorem kZC:F5 155 [.agg i0,.agg i0] []=Δ (iv 0,[]):=by kernel_rfl
theorem Ajq:AN (AT η 155) (CA (B6 Aba)):=Co (gTz _) _ (by
 unfold Aba;simp only[ι,Arp,or_false];rintro p rfl;exact kZC)
def Ak2:List (List AV × AV):=[([.agg rG,.agg rL],iv 1),([.agg rG,.agg UA],iv (-1))]
theorem kC1:C4 25 [.agg rG,.agg rL] []=Δ (iv 1,[]):=by kernel_rfl
theorem kC2:C4 25 [.agg rG,.agg UA] []=Δ (iv (-1),[]):=by kernel_rfl
theorem AlS:AN (AT η 25) (CA (B6 Ak2)):=Co (GA _) _ (by
 unfold Ak2;simp only[ι,Arp,or_false];rintro p (rfl|rfl)
 .exact kC1
 .exact kC2)
end
def AmP:List (Nat × Nat):=[(136,0),(196,0),(234,0),(235,0),(265,0),(275,0),(140,0),(199,0),(262,0),(264,0),(90,0),(163,0),(214,0)]
def Ae2:MFn:=LA η Bt [] Ξ U 160
def Ae3:MFn:=LA η Bt [] Ξ U 162
def Aks:MFn:=LA η Bt [] Ξ U 89
def Akt:MFn:=Au [] 90
def Ae5:MFn:=Au [] 164
def Ae7:MFn:=Au [] 222
def Ae8:MFn:=Au [] 223
def Ae4:MFn:=Au [⟨148,(mB 3103),[],[],[(0,([],([],[1000000])))]⟩] 163
def Ae6:MFn:=Au [⟨53,(mB 271),[],[],[(1,([],([],[1000000])))]⟩,⟨53,(mB 783),[],[],[(3,((mB 271),([],[1000000])))]⟩] 214
def Am8:List (Nat × MFn):=[(160,Ae2),(162,Ae3),(89,Aks),(90,Akt),(164,Ae5),(222,Ae7),(223,Ae8),(163,Ae4),(214,Ae6)]
