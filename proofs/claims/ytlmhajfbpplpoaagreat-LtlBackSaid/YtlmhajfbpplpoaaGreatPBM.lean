/- Tokens laid out again, w -/
import Derived.Test.YtlmhajfbpplpoaaGreatPBK
import Derived.Lib.Join
set_option linter.all false
open Bool renaming and_eq_true->χ,or_eq_false_iff->Asu,or_eq_true->Ass,or_false->AtC
open List renaming contains_cons->Ata,contains_nil->Atf
namespace Go.Proofs.YtlmhajfbpplpoaaGreat
def MI(c:UInt8):Bool:=c.toNat == 10||c.toNat == 32||c.toNat == 9||c.toNat == 35
theorem VV{c:UInt8}(h:MI c=true):c.toNat=10\/c.toNat=32\/c.toNat=9\/c.toNat=35:=by
 unfold MI at h;simp only[Ass,beq_iff_eq]at h;omega
theorem Amq{c:UInt8}(h:MI c=true):Ep c=false:=by
 have:=VV h;unfold Ep D2 BF;simp only[Asu,Bool.and_eq_false_iff,decide_eq_false_iff_not,beq_eq_false_iff_ne];omega
theorem XE{c:UInt8}(h:D2 c=true):MI c=false:=by
 unfold D2 at h;unfold MI;simp only[χ,decide_eq_true_eq]at h;simp only[Asu,beq_eq_false_iff_ne];omega
theorem AfD{c:UInt8}(h:BF c=true):MI c=false:=by
 unfold BF at h;unfold MI;simp only[χ,decide_eq_true_eq]at h;simp only[Asu,beq_eq_false_iff_ne];omega
theorem Afm{c:UInt8}(h:Hs c=true):MI c=false:=by
 unfold Hs at h;unfold MI;simp only[Ata,Atf,Ass,beq_iff_eq,AtC]at h;simp only[Asu,beq_eq_false_iff_ne];omega
theorem X5{c:UInt8}(h:Pe c=true):MI c=false:=by
 unfold Pe at h;unfold MI;simp only[Ata,Atf,Ass,beq_iff_eq,AtC]at h;simp only[Asu,beq_eq_false_iff_ne];omega
theorem GY{c:UInt8}(l:List UInt8)(h:MI c=false):ER false (c::l)=0:=by
 unfold MI at h;simp only[Asu,beq_eq_false_iff_ne]at h;unfold ER;rw[if_neg h.1.1.1,if_neg (by decide),if_neg h.2,if_neg (by rintro (h1|h1);exact h.1.1.2 h1;exact h.1.2 h1)]
end Go.Proofs.YtlmhajfbpplpoaaGreat
