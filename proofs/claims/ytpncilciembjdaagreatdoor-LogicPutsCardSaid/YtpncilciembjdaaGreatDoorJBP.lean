/- What layer 4's saying ca -/
import Derived.Test.YtpncilciembjdaaGreatDoorJBO
set_option linter.all false
open Bool renaming false->Ξ,true->U,and_eq_true->Atk
open List renaming mem_cons->Atd,not_mem_nil->Aue
open Option renaming some->Δ
namespace Go.Proofs.YtpncilciembjdaaGreatDoor
noncomputable section
open Tryz renaming prog->ζ
open Go.RowKit
theorem gAu(f:Nat):A1 (Bi ζ f) ((Dn Ah Vm 60).ask (.fn f)):=(Fa (Yq ⟨TB,TD,XI,HT,G9,H8,Sb,trivial⟩) 60).1 f
def Ds(f:Nat):DF:=(Dn Ah Vm 60).ask (.fn f)
theorem GU(f:Nat):A1 (Bi ζ f) (Ds f):=gAu f
def vB:Value->Value->Bool
 |.int k n,.int k' n'=>decide (k=k')&&decide (n=n')
 |.bool b,.bool b'=>decide (b=b')
 |.string s,.string s'=>decide (s.data.toList=s'.data.toList)
 |_,_=>Ξ
theorem ApU{a b:Value}(h:vB a b=U):a=b:=by
 unfold vB at h;split at h
 .simp only[Atk,decide_eq_true_eq]at h
  rw[h.1,h.2]
 .rename_i b b'
  have e:b=b':=of_decide_eq_true h;rw[e]
 .rename_i s s'
  have:=of_decide_eq_true h;obtain⟨⟨l⟩⟩:=s;obtain⟨⟨l'⟩⟩:=s';have e:l=l':=this;rw[e]
 .cases h
mutual
def TZ:AV->AV->Bool
 |.v x,.v y=>vB x y
 |.ls xs,.ls ys=>avR xs ys
 |.agg xs,.agg ys=>avL xs ys
 |.tup xs,.tup ys=>avL xs ys
 |_,_=>Ξ
def avL:Aa->Aa->Bool
 |[],[]=>U
 |x::xs,y::ys=>TZ x y&&avL xs ys
 |_,_=>Ξ
def avR:Rw->Rw->Bool
 |[],[]=>U
 |x::xs,y::ys=>avL x y&&avR xs ys
 |_,_=>Ξ
end
mutual
theorem AkW:∀(a b:AV),TZ a b=U->a=b
 |.v x,.v y,h=>by
  have e:x=y:=ApU (by simpa only[TZ]using h);rw[e]
 |.ls xs,.ls ys,h=>by
  have e:=Zq xs ys (by simpa only[TZ]using h);rw[e]
 |.agg xs,.agg ys,h=>by
  have e:=M0 xs ys (by simpa only[TZ]using h);rw[e]
 |.tup xs,.tup ys,h=>by
  have e:=M0 xs ys (by simpa only[TZ]using h);rw[e]
 |.v _,.ptr _ _,h | .v _,.sl _ _ _ _,h | .v _,.ls _,h | .v _,.lp _,h | .v _,.agg _,h | .v _,.tup _,h | .v _,.fn _ _ _,h | .v _,.any,h=>by simp[TZ]at h
 |.ls _,.v _,h | .ls _,.ptr _ _,h | .ls _,.sl _ _ _ _,h | .ls _,.lp _,h | .ls _,.agg _,h | .ls _,.tup _,h | .ls _,.fn _ _ _,h | .ls _,.any,h=>by simp[TZ]at h
 |.agg _,.v _,h | .agg _,.ptr _ _,h | .agg _,.sl _ _ _ _,h | .agg _,.ls _,h | .agg _,.lp _,h | .agg _,.tup _,h | .agg _,.fn _ _ _,h | .agg _,.any,h=>by simp[TZ]at h
 |.tup _,.v _,h | .tup _,.ptr _ _,h | .tup _,.sl _ _ _ _,h | .tup _,.ls _,h | .tup _,.lp _,h | .tup _,.agg _,h | .tup _,.fn _ _ _,h | .tup _,.any,h=>by simp[TZ]at h
 |.ptr _ _,b,h=>by cases b<;>simp[TZ]at h
 |.sl _ _ _ _,b,h=>by cases b<;>simp[TZ]at h
 |.lp _,b,h=>by cases b<;>simp[TZ]at h
 |.fn _ _ _,b,h=>by cases b<;>simp[TZ]at h
 |.any,b,h=>by cases b<;>simp[TZ]at h
theorem M0:∀(a b:Aa),avL a b=U->a=b
 |[],[],_=>rfl
 |x::xs,y::ys,h=>by
  simp only[avL,Atk]at h;rw[AkW x y h.1,M0 xs ys h.2]
 |[],_::_,h=>by simp[avL]at h
 |_::_,[],h=>by simp[avL]at h
theorem Zq:∀(a b:Rw),avR a b=U->a=b
 |[],[],_=>rfl
 |x::xs,y::ys,h=>by
  simp only[avR,Atk]at h;rw[M0 x y h.1,Zq xs ys h.2]
 |[],_::_,h=>by simp[avR]at h
 |_::_,[],h=>by simp[avR]at h
end
def Cs:List (Aa × AV)->Aa->Option AV
 |[],_=>none
 |(a,r)::t,args=>match avL a args with
  |true=>Δ r
  |false=>Cs t args
theorem Pz:∀{T:List (Aa × AV)} {args:Aa} {r:AV},Cs T args=Δ r->(args,r)∈T
 |[],_,_,h=>by cases h
 |(a,x)::t,args,r,h=>by
  unfold Cs at h;split at h
  .rename_i e
   injection h with h
   rw[M0 a args e,h];exact List.mem_cons_self ..
  .exact List.mem_cons_of_mem _ (Pz h)
theorem CF{S:Mi}{d:DF}(hd:A1 S d)(T:List (Aa × AV))(h:∀ p∈T,d p.1 []=Δ (p.2,[])):A1 S (CS (Cs T)):=by
 intro args bs r out he
 cases bs with
 |cons=>cases he
 |nil=>
  obtain⟨r',hr,e⟩:=Option.map_eq_some_iff.1 he;obtain⟨rfl,rfl⟩:r'=r/\[]=out:=by simpa using e
  exact hd args [] r' [] (h _ (Pz hr))
section
open Go.RowKit
abbrev OV(n:Int):Aa:=[.v (.int .u32 n)]
abbrev i0:Aa:=[bv Ξ,.ls []]
abbrev i1:Aa:=[bv Ξ,.ls [OV 1]]
abbrev i1m:Aa:=[bv U,.ls [OV 1]]
abbrev i2:Aa:=[bv Ξ,.ls [OV 2]]
abbrev pX:Aa:=[iv 0,bv Ξ,.ls [OV 1]]
abbrev X0:Aa:=[iv 0,bv U,.ls [OV 1]]
abbrev pY:Aa:=[iv 1,bv Ξ,.ls [OV 1]]
abbrev U4:Aa:=[iv 1,bv U,.ls [OV 1]]
abbrev tm(ps:Rw)(k:Aa):Aa:=.ls ps::k
abbrev rL:Aa:=[.ls [X0],bv Ξ,.ls [OV 2],bv Ξ]
abbrev rG:Aa:=[.ls [pX,U4],bv Ξ,.ls [],bv Ξ]
abbrev U8:Aa:=[.ls [pY],bv Ξ,.ls [],bv U]
abbrev r3:Aa:=[.ls [pX],bv U,.ls [OV 3],bv Ξ]
abbrev rY:Aa:=[.ls [pY],bv U,.ls [OV 1],bv Ξ]
abbrev rYm:Aa:=[.ls [U4],bv U,.ls [OV 1],bv Ξ]
set_option maxRecDepth 1000000
def Ra:List (Aa × AV):=[([.agg rL],.tup [.agg rL,iv 0]),([.agg rG],.tup [.agg rG,iv 0]),([.agg U8],.tup [.agg U8,iv 0]),([.agg r3],.tup [.agg r3,iv 0]),([.agg rY],.tup [.agg rY,iv 0]),([.agg rYm],.tup [.agg rYm,iv 0])]
theorem kT1:Ds 17 [.agg rL] []=Δ (.tup [.agg rL,iv 0],[]):=by kernel_rfl
theorem kT2:Ds 17 [.agg rG] []=Δ (.tup [.agg rG,iv 0],[]):=by kernel_rfl
theorem kT3:Ds 17 [.agg U8] []=Δ (.tup [.agg U8,iv 0],[]):=by kernel_rfl
theorem kT4:Ds 17 [.agg r3] []=Δ (.tup [.agg r3,iv 0],[]):=by kernel_rfl
theorem kT5:Ds 17 [.agg rY] []=Δ (.tup [.agg rY,iv 0],[]):=by kernel_rfl
theorem kT6:Ds 17 [.agg rYm] []=Δ (.tup [.agg rYm,iv 0],[]):=by kernel_rfl
theorem AaD:A1 (Bi ζ 17) (CS (Cs Ra)):=CF (GU _) _ (by
 unfold Ra;simp only[Atd,Aue,or_false];rintro p (rfl|rfl|rfl|rfl|rfl|rfl)
 .exact kT1
 .exact kT2
 .exact kT3
 .exact kT4
 .exact kT5
 .exact kT6)
def Acy:List (Aa × AV):=[([.agg rL],.ls [r3]),([.agg U8],.ls [rY,rYm])]
theorem kD1:Ds 23 [.agg rL] []=Δ (.ls [r3],[]):=by kernel_rfl
theorem kD2:Ds 23 [.agg U8] []=Δ (.ls [rY,rYm],[]):=by kernel_rfl
theorem Aor:A1 (Bi ζ 23) (CS (Cs Acy)):=CF (GU _) _ (by
 unfold Acy;simp only[Atd,Aue,or_false];rintro p (rfl|rfl)
 .exact kD1
 .exact kD2)
def Q9:List (Aa × AV):=[([.agg i2],.agg (tm [] i2)),([.agg i0],.agg (tm [] i0))]
theorem kN1:Gk 125 [.agg i2] []=Δ (.agg (tm [] i2),[]):=by kernel_rfl
theorem kN2:Gk 125 [.agg i0] []=Δ (.agg (tm [] i0),[]):=by kernel_rfl
theorem AaC:A1 (Bi ζ 125) (CS (Cs Q9)):=CF (gTz _) _ (by
 unfold Q9;simp only[Atd,Aue,or_false];rintro p (rfl|rfl)
 .exact kN1
 .exact kN2)
def Am9:List (Aa × AV):=[([.agg (tm [X0] i2),.agg (tm [] i2)],.agg (tm [X0] i0)),([.agg (tm [pX,U4] i0),.agg (tm [] i0)],.agg (tm [pX,U4] i0)),([.agg (tm [] i2),.agg (tm [pX] i0)],.agg (tm [X0] i2)),([.agg (tm [pY] i0),.agg (tm [] i0)],.agg (tm [pY] i0))]
theorem kS1:Gk 127 [.agg (tm [X0] i2),.agg (tm [] i2)] []=Δ (.agg (tm [X0] i0),[]):=by kernel_rfl
theorem kS2:Gk 127 [.agg (tm [pX,U4] i0),.agg (tm [] i0)] []=Δ (.agg (tm [pX,U4] i0),[]):=by kernel_rfl
theorem kS3:Gk 127 [.agg (tm [] i2),.agg (tm [pX] i0)] []=Δ (.agg (tm [X0] i2),[]):=by kernel_rfl
theorem kS4:Gk 127 [.agg (tm [pY] i0),.agg (tm [] i0)] []=Δ (.agg (tm [pY] i0),[]):=by kernel_rfl
theorem Aov:A1 (Bi ζ 127) (CS (Cs Am9)):=CF (gTz _) _ (by
 unfold Am9;simp only[Atd,Aue,or_false];rintro p (rfl|rfl|rfl|rfl)
 .exact kS1
 .exact kS2
 .exact kS3
 .exact kS4)
def AcA:List (Aa × AV):=[([.agg i1m],iv (-1)),([.agg i1],iv 1)]
theorem kG1:Gk 64 [.agg i1m] []=Δ (iv (-1),[]):=by kernel_rfl
theorem kG2:Gk 64 [.agg i1] []=Δ (iv 1,[]):=by kernel_rfl
theorem Alm:A1 (Bi ζ 64) (CS (Cs AcA)):=CF (gTz _) _ (by
 unfold AcA;simp only[Atd,Aue,or_false];rintro p (rfl|rfl)
 .exact kG1
 .exact kG2)
def Acz:List (Aa × AV):=[([.agg (tm [pX] i0),.agg (tm [pX,U4] i0)],bv Ξ),([.agg (tm [pY] i0),.agg (tm [pX,U4] i0)],bv Ξ)]
theorem kE1:Gk 213 [.agg (tm [pX] i0),.agg (tm [pX,U4] i0)] []=Δ (bv Ξ,[]):=by kernel_rfl
theorem kE2:Gk 213 [.agg (tm [pY] i0),.agg (tm [pX,U4] i0)] []=Δ (bv Ξ,[]):=by kernel_rfl
theorem All:A1 (Bi ζ 213) (CS (Cs Acz)):=CF (gTz _) _ (by
 unfold Acz;simp only[Atd,Aue,or_false];rintro p (rfl|rfl)
 .exact kE1
 .exact kE2)
def Am8:List (Aa × AV):=[([.agg i0],.agg i0)]
theorem kNe:Gk 161 [.agg i0] []=Δ (.agg i0,[]):=by kernel_rfl
theorem Aou:A1 (Bi ζ 161) (CS (Cs Am8)):=CF (gTz _) _ (by
 unfold Am8;simp only[Atd,Aue,or_false];rintro p rfl;exact kNe)
def AcB:List (Aa × AV):=[([.agg (tm [X0] i0)],.agg (tm [pX] i0))]
theorem kTN:Gk 68 [.agg (tm [X0] i0)] []=Δ (.agg (tm [pX] i0),[]):=by kernel_rfl
theorem Aln:A1 (Bi ζ 68) (CS (Cs AcB)):=CF (gTz _) _ (by
 unfold AcB;simp only[Atd,Aue,or_false];rintro p rfl;exact kTN)
def VD:List (Aa × AV):=[([.agg (tm [X0] i2)],.agg rL),([.agg (tm [pX,U4] i0)],.agg rG)]
theorem kL1:Gk 28 [.agg (tm [X0] i2)] []=Δ (.agg rL,[]):=by kernel_rfl
theorem kL2:Gk 28 [.agg (tm [pX,U4] i0)] []=Δ (.agg rG,[]):=by kernel_rfl
theorem AdV:A1 (Bi ζ 28) (CS (Cs VD)):=CF (gTz _) _ (by
 unfold VD;simp only[Atd,Aue,or_false];rintro p (rfl|rfl)
 .exact kL1
 .exact kL2)
def AcE:List (Aa × AV):=[([.agg (tm [pY] i0)],.agg U8)]
theorem kZe:Gk 27 [.agg (tm [pY] i0)] []=Δ (.agg U8,[]):=by kernel_rfl
theorem Alr:A1 (Bi ζ 27) (CS (Cs AcE)):=CF (gTz _) _ (by
 unfold AcE;simp only[Atd,Aue,or_false];rintro p rfl;exact kZe)
def AcD:List (Aa × AV):=[([.agg i0,.agg i0],iv 0)]
theorem kZC:Gk 155 [.agg i0,.agg i0] []=Δ (iv 0,[]):=by kernel_rfl
theorem Alq:A1 (Bi ζ 155) (CS (Cs AcD)):=CF (gTz _) _ (by
 unfold AcD;simp only[Atd,Aue,or_false];rintro p rfl;exact kZC)
def Am7:List (Aa × AV):=[([.agg rG,.agg rL],iv 1),([.agg rG,.agg U8],iv (-1))]
theorem kC1:Ds 25 [.agg rG,.agg rL] []=Δ (iv 1,[]):=by kernel_rfl
theorem kC2:Ds 25 [.agg rG,.agg U8] []=Δ (iv (-1),[]):=by kernel_rfl
theorem Aop:A1 (Bi ζ 25) (CS (Cs Am7)):=CF (GU _) _ (by
 unfold Am7;simp only[Atd,Aue,or_false];rintro p (rfl|rfl)
 .exact kC1
 .exact kC2)
end
def Apr:List (Nat × Nat):=[(136,0),(196,0),(234,0),(235,0),(265,0),(275,0),(140,0),(199,0),(262,0),(264,0),(90,0),(163,0),(214,0)]
def Agz:MFn:=JP ζ Bn [] Ξ U 160
def AgA:MFn:=JP ζ Bn [] Ξ U 162
def Amr:MFn:=JP ζ Bn [] Ξ U 89
def Ams:MFn:=AE [] 90
def AgC:MFn:=AE [] 164
def AgE:MFn:=AE [] 222
def AgF:MFn:=AE [] 223
def AgB:MFn:=AE [⟨148,(mB 3103),[],[],[(0,([],([],[1000000])))]⟩] 163
def AgD:MFn:=AE [⟨53,(mB 271),[],[],[(1,([],([],[1000000])))]⟩,⟨53,(mB 783),[],[],[(3,((mB 271),([],[1000000])))]⟩] 214
def ApR:List (Nat × MFn):=[(160,Agz),(162,AgA),(89,Amr),(90,Ams),(164,AgC),(222,AgE),(223,AgF),(163,AgB),(214,AgD)]
