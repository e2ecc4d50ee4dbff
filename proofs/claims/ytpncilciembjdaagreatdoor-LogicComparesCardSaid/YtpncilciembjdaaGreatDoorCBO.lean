/- What layer 4's saying ca -/
import Derived.Test.YtpncilciembjdaaGreatDoorCBN
set_option linter.all false
open Bool renaming false->Φ,true->Δ,and_eq_true->AtI
open List renaming mem_cons->AtC,not_mem_nil->AuR
open Option renaming some->Θ
namespace Go.Proofs.YtpncilciembjdaaGreatDoor
noncomputable section
open Tryz renaming prog->ι
open Go.RowKit
theorem gAu(f:Nat):Be (Bk ι f) ((Dn Af We 60).ask (.fn f)):=(GR (Zu ⟨UK,UM,YW,E5,HI,IQ,Tq,trivial⟩) 60).1 f
def Dw(f:Nat):DF:=(Dn Af We 60).ask (.fn f)
theorem Hk(f:Nat):Be (Bk ι f) (Dw f):=gAu f
def vB:Value->Value->Bool
 |.int k n,.int k' n'=>decide (k=k')&&decide (n=n')
 |.bool b,.bool b'=>decide (b=b')
 |.string s,.string s'=>decide (s.data.toList=s'.data.toList)
 |_,_=>Φ
theorem Aqz{a b:Value}(h:vB a b=Δ):a=b:=by
 unfold vB at h;split at h
 .simp only[AtI,decide_eq_true_eq]at h
  rw[h.1,h.2]
 .rename_i b b'
  have e:b=b':=of_decide_eq_true h;rw[e]
 .rename_i s s'
  have:=of_decide_eq_true h;obtain⟨⟨l⟩⟩:=s;obtain⟨⟨l'⟩⟩:=s';have e:l=l':=this;rw[e]
 .cases h
mutual
def U6:AV->AV->Bool
 |.v x,.v y=>vB x y
 |.ls xs,.ls ys=>avR xs ys
 |.agg xs,.agg ys=>avL xs ys
 |.tup xs,.tup ys=>avL xs ys
 |_,_=>Φ
def avL:List AV->List AV->Bool
 |[],[]=>Δ
 |x::xs,y::ys=>U6 x y&&avL xs ys
 |_,_=>Φ
def avR:List (List AV)->List (List AV)->Bool
 |[],[]=>Δ
 |x::xs,y::ys=>avL x y&&avR xs ys
 |_,_=>Φ
end
mutual
theorem AlF:∀(a b:AV),U6 a b=Δ->a=b
 |.v x,.v y,h=>by
  have e:x=y:=Aqz (by simpa only[U6]using h);rw[e]
 |.ls xs,.ls ys,h=>by
  have e:=Aap xs ys (by simpa only[U6]using h);rw[e]
 |.agg xs,.agg ys,h=>by
  have e:=NA xs ys (by simpa only[U6]using h);rw[e]
 |.tup xs,.tup ys,h=>by
  have e:=NA xs ys (by simpa only[U6]using h);rw[e]
 |.v _,.ptr _ _,h | .v _,.sl _ _ _ _,h | .v _,.ls _,h | .v _,.lp _,h | .v _,.agg _,h | .v _,.tup _,h | .v _,.fn _ _ _,h | .v _,.any,h=>by simp[U6]at h
 |.ls _,.v _,h | .ls _,.ptr _ _,h | .ls _,.sl _ _ _ _,h | .ls _,.lp _,h | .ls _,.agg _,h | .ls _,.tup _,h | .ls _,.fn _ _ _,h | .ls _,.any,h=>by simp[U6]at h
 |.agg _,.v _,h | .agg _,.ptr _ _,h | .agg _,.sl _ _ _ _,h | .agg _,.ls _,h | .agg _,.lp _,h | .agg _,.tup _,h | .agg _,.fn _ _ _,h | .agg _,.any,h=>by simp[U6]at h
 |.tup _,.v _,h | .tup _,.ptr _ _,h | .tup _,.sl _ _ _ _,h | .tup _,.ls _,h | .tup _,.lp _,h | .tup _,.agg _,h | .tup _,.fn _ _ _,h | .tup _,.any,h=>by simp[U6]at h
 |.ptr _ _,b,h=>by cases b<;>simp[U6]at h
 |.sl _ _ _ _,b,h=>by cases b<;>simp[U6]at h
 |.lp _,b,h=>by cases b<;>simp[U6]at h
 |.fn _ _ _,b,h=>by cases b<;>simp[U6]at h
 |.any,b,h=>by cases b<;>simp[U6]at h
theorem NA:∀(a b:List AV),avL a b=Δ->a=b
 |[],[],_=>rfl
 |x::xs,y::ys,h=>by
  simp only[avL,AtI]at h;rw[AlF x y h.1,NA xs ys h.2]
 |[],_::_,h=>by simp[avL]at h
 |_::_,[],h=>by simp[avL]at h
theorem Aap:∀(a b:List (List AV)),avR a b=Δ->a=b
 |[],[],_=>rfl
 |x::xs,y::ys,h=>by
  simp only[avR,AtI]at h;rw[NA x y h.1,Aap xs ys h.2]
 |[],_::_,h=>by simp[avR]at h
 |_::_,[],h=>by simp[avR]at h
end
def Cs:List (List AV × AV)->List AV->Option AV
 |[],_=>none
 |(a,r)::t,args=>match avL a args with
  |true=>Θ r
  |false=>Cs t args
theorem Qq:∀{T:List (List AV × AV)} {args:List AV} {r:AV},Cs T args=Θ r->(args,r)∈T
 |[],_,_,h=>by cases h
 |(a,x)::t,args,r,h=>by
  unfold Cs at h;split at h
  .rename_i e
   injection h with h
   rw[NA a args e,h];exact List.mem_cons_self ..
  .exact List.mem_cons_of_mem _ (Qq h)
theorem CH{S:MU}{d:DF}(hd:Be S d)(T:List (List AV × AV))(h:∀ p∈T,d p.1 []=Θ (p.2,[])):Be S (CU (Cs T)):=by
 intro args bs r out he
 cases bs with
 |cons=>cases he
 |nil=>
  obtain⟨r',hr,e⟩:=Option.map_eq_some_iff.1 he;obtain⟨rfl,rfl⟩:r'=r/\[]=out:=by simpa using e
  exact hd args [] r' [] (h _ (Qq hr))
section
open Go.RowKit
abbrev PQ(n:Int):List AV:=[.v (.int .u32 n)]
abbrev i0:List AV:=[bv Φ,.ls []]
abbrev i1:List AV:=[bv Φ,.ls [PQ 1]]
abbrev i1m:List AV:=[bv Δ,.ls [PQ 1]]
abbrev i2:List AV:=[bv Φ,.ls [PQ 2]]
abbrev pX:List AV:=[iv 0,bv Φ,.ls [PQ 1]]
abbrev Zc:List AV:=[iv 0,bv Δ,.ls [PQ 1]]
abbrev pY:List AV:=[iv 1,bv Φ,.ls [PQ 1]]
abbrev V6:List AV:=[iv 1,bv Δ,.ls [PQ 1]]
abbrev tm(ps:List (List AV))(k:List AV):List AV:=.ls ps::k
abbrev rL:List AV:=[.ls [Zc],bv Φ,.ls [PQ 2],bv Φ]
abbrev rG:List AV:=[.ls [pX,V6],bv Φ,.ls [],bv Φ]
abbrev V9:List AV:=[.ls [pY],bv Φ,.ls [],bv Δ]
abbrev r3:List AV:=[.ls [pX],bv Δ,.ls [PQ 3],bv Φ]
abbrev rY:List AV:=[.ls [pY],bv Δ,.ls [PQ 1],bv Φ]
abbrev rYm:List AV:=[.ls [V6],bv Δ,.ls [PQ 1],bv Φ]
set_option maxRecDepth 1000000
def Sq:List (List AV × AV):=[([.agg rL],.tup [.agg rL,iv 0]),([.agg rG],.tup [.agg rG,iv 0]),([.agg V9],.tup [.agg V9,iv 0]),([.agg r3],.tup [.agg r3,iv 0]),([.agg rY],.tup [.agg rY,iv 0]),([.agg rYm],.tup [.agg rYm,iv 0])]
theorem kT1:Dw 17 [.agg rL] []=Θ (.tup [.agg rL,iv 0],[]):=by kernel_rfl
theorem kT2:Dw 17 [.agg rG] []=Θ (.tup [.agg rG,iv 0],[]):=by kernel_rfl
theorem kT3:Dw 17 [.agg V9] []=Θ (.tup [.agg V9,iv 0],[]):=by kernel_rfl
theorem kT4:Dw 17 [.agg r3] []=Θ (.tup [.agg r3,iv 0],[]):=by kernel_rfl
theorem kT5:Dw 17 [.agg rY] []=Θ (.tup [.agg rY,iv 0],[]):=by kernel_rfl
theorem kT6:Dw 17 [.agg rYm] []=Θ (.tup [.agg rYm,iv 0],[]):=by kernel_rfl
theorem Abq:Be (Bk ι 17) (CU (Cs Sq)):=CH (Hk _) _ (by
 unfold Sq;simp only[AtC,AuR,or_false];rintro p (rfl|rfl|rfl|rfl|rfl|rfl)
 .exact kT1
 .exact kT2
 .exact kT3
 .exact kT4
 .exact kT5
 .exact kT6)
def Adr:List (List AV × AV):=[([.agg rL],.ls [r3]),([.agg V9],.ls [rY,rYm])]
theorem kD1:Dw 23 [.agg rL] []=Θ (.ls [r3],[]):=by kernel_rfl
theorem kD2:Dw 23 [.agg V9] []=Θ (.ls [rY,rYm],[]):=by kernel_rfl
theorem AoZ:Be (Bk ι 23) (CU (Cs Adr)):=CH (Hk _) _ (by
 unfold Adr;simp only[AtC,AuR,or_false];rintro p (rfl|rfl)
 .exact kD1
 .exact kD2)
def Sp:List (List AV × AV):=[([.agg i2],.agg (tm [] i2)),([.agg i0],.agg (tm [] i0))]
theorem kN1:GS 125 [.agg i2] []=Θ (.agg (tm [] i2),[]):=by kernel_rfl
theorem kN2:GS 125 [.agg i0] []=Θ (.agg (tm [] i0),[]):=by kernel_rfl
theorem Abp:Be (Bk ι 125) (CU (Cs Sp)):=CH (gTz _) _ (by
 unfold Sp;simp only[AtC,AuR,or_false];rintro p (rfl|rfl)
 .exact kN1
 .exact kN2)
def AnX:List (List AV × AV):=[([.agg (tm [Zc] i2),.agg (tm [] i2)],.agg (tm [Zc] i0)),([.agg (tm [pX,V6] i0),.agg (tm [] i0)],.agg (tm [pX,V6] i0)),([.agg (tm [] i2),.agg (tm [pX] i0)],.agg (tm [Zc] i2)),([.agg (tm [pY] i0),.agg (tm [] i0)],.agg (tm [pY] i0))]
theorem kS1:GS 127 [.agg (tm [Zc] i2),.agg (tm [] i2)] []=Θ (.agg (tm [Zc] i0),[]):=by kernel_rfl
theorem kS2:GS 127 [.agg (tm [pX,V6] i0),.agg (tm [] i0)] []=Θ (.agg (tm [pX,V6] i0),[]):=by kernel_rfl
theorem kS3:GS 127 [.agg (tm [] i2),.agg (tm [pX] i0)] []=Θ (.agg (tm [Zc] i2),[]):=by kernel_rfl
theorem kS4:GS 127 [.agg (tm [pY] i0),.agg (tm [] i0)] []=Θ (.agg (tm [pY] i0),[]):=by kernel_rfl
theorem Ao4:Be (Bk ι 127) (CU (Cs AnX)):=CH (gTz _) _ (by
 unfold AnX;simp only[AtC,AuR,or_false];rintro p (rfl|rfl|rfl|rfl)
 .exact kS1
 .exact kS2
 .exact kS3
 .exact kS4)
def Adt:List (List AV × AV):=[([.agg i1m],iv (-1)),([.agg i1],iv 1)]
theorem kG1:GS 64 [.agg i1m] []=Θ (iv (-1),[]):=by kernel_rfl
theorem kG2:GS 64 [.agg i1] []=Θ (iv 1,[]):=by kernel_rfl
theorem Al9:Be (Bk ι 64) (CU (Cs Adt)):=CH (gTz _) _ (by
 unfold Adt;simp only[AtC,AuR,or_false];rintro p (rfl|rfl)
 .exact kG1
 .exact kG2)
def Ads:List (List AV × AV):=[([.agg (tm [pX] i0),.agg (tm [pX,V6] i0)],bv Φ),([.agg (tm [pY] i0),.agg (tm [pX,V6] i0)],bv Φ)]
theorem kE1:GS 213 [.agg (tm [pX] i0),.agg (tm [pX,V6] i0)] []=Θ (bv Φ,[]):=by kernel_rfl
theorem kE2:GS 213 [.agg (tm [pY] i0),.agg (tm [pX,V6] i0)] []=Θ (bv Φ,[]):=by kernel_rfl
theorem Al8:Be (Bk ι 213) (CU (Cs Ads)):=CH (gTz _) _ (by
 unfold Ads;simp only[AtC,AuR,or_false];rintro p (rfl|rfl)
 .exact kE1
 .exact kE2)
def AnW:List (List AV × AV):=[([.agg i0],.agg i0)]
theorem kNe:GS 161 [.agg i0] []=Θ (.agg i0,[]):=by kernel_rfl
theorem Ao3:Be (Bk ι 161) (CU (Cs AnW)):=CH (gTz _) _ (by
 unfold AnW;simp only[AtC,AuR,or_false];rintro p rfl;exact kNe)
def Adu:List (List AV × AV):=[([.agg (tm [Zc] i0)],.agg (tm [pX] i0))]
theorem kTN:GS 68 [.agg (tm [Zc] i0)] []=Θ (.agg (tm [pX] i0),[]):=by kernel_rfl
theorem Ama:Be (Bk ι 68) (CU (Cs Adu)):=CH (gTz _) _ (by
 unfold Adu;simp only[AtC,AuR,or_false];rintro p rfl;exact kTN)
def Wt:List (List AV × AV):=[([.agg (tm [Zc] i2)],.agg rL),([.agg (tm [pX,V6] i0)],.agg rG)]
theorem kL1:GS 28 [.agg (tm [Zc] i2)] []=Θ (.agg rL,[]):=by kernel_rfl
theorem kL2:GS 28 [.agg (tm [pX,V6] i0)] []=Θ (.agg rG,[]):=by kernel_rfl
theorem AeK:Be (Bk ι 28) (CU (Cs Wt)):=CH (gTz _) _ (by
 unfold Wt;simp only[AtC,AuR,or_false];rintro p (rfl|rfl)
 .exact kL1
 .exact kL2)
def Adx:List (List AV × AV):=[([.agg (tm [pY] i0)],.agg V9)]
theorem kZe:GS 27 [.agg (tm [pY] i0)] []=Θ (.agg V9,[]):=by kernel_rfl
theorem Ame:Be (Bk ι 27) (CU (Cs Adx)):=CH (gTz _) _ (by
 unfold Adx;simp only[AtC,AuR,or_false];rintro p rfl;exact kZe)
def Adw:List (List AV × AV):=[([.agg i0,.agg i0],iv 0)]
theorem kZC:GS 155 [.agg i0,.agg i0] []=Θ (iv 0,[]):=by kernel_rfl
theorem Amd:Be (Bk ι 155) (CU (Cs Adw)):=CH (gTz _) _ (by
 unfold Adw;simp only[AtC,AuR,or_false];rintro p rfl;exact kZC)
def AnV:List (List AV × AV):=[([.agg rG,.agg rL],iv 1),([.agg rG,.agg V9],iv (-1))]
theorem kC1:Dw 25 [.agg rG,.agg rL] []=Θ (iv 1,[]):=by kernel_rfl
theorem kC2:Dw 25 [.agg rG,.agg V9] []=Θ (iv (-1),[]):=by kernel_rfl
theorem AoY:Be (Bk ι 25) (CU (Cs AnV)):=CH (Hk _) _ (by
 unfold AnV;simp only[AtC,AuR,or_false];rintro p (rfl|rfl)
 .exact kC1
 .exact kC2)
end
def Aqe:List (Nat × Nat):=[(136,0),(196,0),(234,0),(235,0),(265,0),(275,0),(140,0),(199,0),(262,0),(264,0),(90,0),(163,0),(214,0)]
def Aht:MFn:=LO ι Bz [] Φ Δ 160
def Ahu:MFn:=LO ι Bz [] Φ Δ 162
def Anf:MFn:=LO ι Bz [] Φ Δ 89
def Ang:MFn:=AC [] 90
def Ahw:MFn:=AC [] 164
def Ahy:MFn:=AC [] 222
def Ahz:MFn:=AC [] 223
def Ahv:MFn:=AC [⟨148,(mB 3103),[],[],[(0,([],([],[1000000])))]⟩] 163
def Ahx:MFn:=AC [⟨53,(mB 271),[],[],[(1,([],([],[1000000])))]⟩,⟨53,(mB 783),[],[],[(3,((mB 271),([],[1000000])))]⟩] 214
def Aqv:List (Nat × MFn):=[(160,Aht),(162,Ahu),(89,Anf),(90,Ang),(164,Ahw),(222,Ahy),(223,Ahz),(163,Ahv),(214,Ahx)]
