/- The contracts of the lib -/
import Derived.Shelf.Strings.Builder1
import Derived.Shelf.Strings.Builder2
import Derived.Shelf.Strings.OnBuilder
import Derived.Shelf.Slices.Turned
import Derived.Test.YtpncilciembjdaaGreatDoorProg
set_option linter.all false
open Option renaming some->Δ
namespace Go.Proofs
open Lib renaming IsBuilder->Auh,join->Avz
open Tryz renaming prog->ζ
open Go.Shelf
def Tryz.lays170_ren:Go.Shelf.Ren:=⟨λ|170=>233|n=>n,λ|70=>177|3=>3|0=>0|72=>180|37=>178|5=>5|n=>n,λ|n=>n⟩
theorem Tryz.lays170:Go.Proofs.Lays.n170 ζ Tryz.lays170_ren:={
 mixed:=by kernel_rfl
 f170:=Tryz.func233.trans (congrArg Δ (by kernel_rfl))
 t0:=Tryz.underlying0
 a0:=Tryz.isAgg0
 z0:=Tryz.sizeOf0
 v0:=Tryz.zeroValue0
 t3:=Tryz.underlying3
 a3:=Tryz.isAgg3
 z3:=Tryz.sizeOf3
 v3:=Tryz.zeroValue3
 t37:=Tryz.underlying178
 a37:=Tryz.isAgg178
 z37:=Tryz.sizeOf178
 v37:=Tryz.zeroValue178
 t70:=Tryz.underlying177
 a70:=Tryz.isAgg177
 z70:=Tryz.sizeOf177
 v70:=Tryz.zeroValue177
 t72:=Tryz.underlying180
 a72:=Tryz.isAgg180
 z72:=Tryz.sizeOf180
 v72:=Tryz.zeroValue180 }
open Go.RowKit in
theorem Tryz.Builder_Len(B b:Nat)(bs:List Value)(w:World)(h:Auh 180 5 B b bs w) :
  Calls ζ 233 #[.pointer (Δ ⟨b,0,none⟩)] w λe w'=>e=.returned (.int .i64 bs.length)/\w'=w:=Any.Builder_Len Tryz.lays170 B b bs w h
def Tryz.lays169_ren:Go.Shelf.Ren:=⟨λ|169=>192|n=>n,λ|70=>177|9=>9|0=>0|72=>180|37=>178|127=>219|3=>3|5=>5|n=>n,λ|n=>n⟩
theorem Tryz.lays169:Go.Proofs.Lays.n169 ζ Tryz.lays169_ren:={
 mixed:=by kernel_rfl
 f169:=Tryz.func192.trans (congrArg Δ (by kernel_rfl))
 t0:=Tryz.underlying0
 a0:=Tryz.isAgg0
 z0:=Tryz.sizeOf0
 v0:=Tryz.zeroValue0
 t3:=Tryz.underlying3
 a3:=Tryz.isAgg3
 z3:=Tryz.sizeOf3
 v3:=Tryz.zeroValue3
 t9:=Tryz.underlying9
 a9:=Tryz.isAgg9
 z9:=Tryz.sizeOf9
 v9:=Tryz.zeroValue9
 t37:=Tryz.underlying178
 a37:=Tryz.isAgg178
 z37:=Tryz.sizeOf178
 v37:=Tryz.zeroValue178
 t70:=Tryz.underlying177
 a70:=Tryz.isAgg177
 z70:=Tryz.sizeOf177
 v70:=Tryz.zeroValue177
 t72:=Tryz.underlying180
 a72:=Tryz.isAgg180
 z72:=Tryz.sizeOf180
 v72:=Tryz.zeroValue180
 t127:=Tryz.underlying219
 a127:=Tryz.isAgg219
 z127:=Tryz.sizeOf219
 v127:=Tryz.zeroValue219 }
theorem Tryz.Builder_Extra_169:Builder.Extra ζ Tryz.lays169_ren:={
 sizeBuilder:=by kernel_rfl
 liesBuilder:=by kernel_rfl
 t5:=Tryz.underlying5
 a5:=Tryz.isAgg5
 z5:=Tryz.sizeOf5
 v5:=Tryz.zeroValue5
 infoByte:=by kernel_rfl
 cellsByte:=by kernel_rfl
 sizeByte:=by kernel_rfl
 neB5:=by decide }
open Go.RowKit in
theorem Tryz.Builder_String_any(B b:Nat)(l:List UInt8)(w:World)(h:Auh 180 5 B b (Lib.byteCells l) w)(hBw:B<=w.heap.size) :
  Calls ζ 192 #[.pointer (Δ ⟨b,0,none⟩)] w λe w'=>e=.returned (.string ⟨l.toArray⟩)/\Below B w w':=Any.Builder_String_any Tryz.lays169 Tryz.Builder_Extra_169 B b l w h hBw
def Tryz.lays156_ren:Go.Shelf.Ren:=⟨λ|156=>167|165=>224|166=>225|169=>192|240=>250|241=>251|276=>269|277=>270|n=>n,λ|31=>78|9=>9|3=>3|4=>4|0=>0|20=>20|72=>180|76=>210|70=>177|37=>178|75=>209|127=>219|164=>248|5=>5|80=>184|n=>n,λ|n=>n⟩
theorem Tryz.lays156:Go.Proofs.Lays.n156 ζ Tryz.lays156_ren:={
 mixed:=by kernel_rfl
 f156:=Tryz.func167.trans (congrArg Δ (by kernel_rfl))
 f165:=Tryz.func224.trans (congrArg Δ (by kernel_rfl))
 f166:=Tryz.func225.trans (congrArg Δ (by kernel_rfl))
 f169:=Tryz.func192.trans (congrArg Δ (by kernel_rfl))
 f240:=Tryz.func250.trans (congrArg Δ (by kernel_rfl))
 f241:=Tryz.func251.trans (congrArg Δ (by kernel_rfl))
 f276:=Tryz.func269.trans (congrArg Δ (by kernel_rfl))
 f277:=Tryz.func270.trans (congrArg Δ (by kernel_rfl))
 t0:=Tryz.underlying0
 a0:=Tryz.isAgg0
 z0:=Tryz.sizeOf0
 v0:=Tryz.zeroValue0
 t3:=Tryz.underlying3
 a3:=Tryz.isAgg3
 z3:=Tryz.sizeOf3
 v3:=Tryz.zeroValue3
 t4:=Tryz.underlying4
 a4:=Tryz.isAgg4
 z4:=Tryz.sizeOf4
 v4:=Tryz.zeroValue4
 t9:=Tryz.underlying9
 a9:=Tryz.isAgg9
 z9:=Tryz.sizeOf9
 v9:=Tryz.zeroValue9
 t20:=Tryz.underlying20
 a20:=Tryz.isAgg20
 z20:=Tryz.sizeOf20
 v20:=Tryz.zeroValue20
 t31:=Tryz.underlying78
 a31:=Tryz.isAgg78
 z31:=Tryz.sizeOf78
 v31:=Tryz.zeroValue78
 t37:=Tryz.underlying178
 a37:=Tryz.isAgg178
 z37:=Tryz.sizeOf178
 v37:=Tryz.zeroValue178
 t70:=Tryz.underlying177
 a70:=Tryz.isAgg177
 z70:=Tryz.sizeOf177
 v70:=Tryz.zeroValue177
 t72:=Tryz.underlying180
 a72:=Tryz.isAgg180
 z72:=Tryz.sizeOf180
 v72:=Tryz.zeroValue180
 t75:=Tryz.underlying209
 a75:=Tryz.isAgg209
 z75:=Tryz.sizeOf209
 v75:=Tryz.zeroValue209
 t76:=Tryz.underlying210
 a76:=Tryz.isAgg210
 z76:=Tryz.sizeOf210
 v76:=Tryz.zeroValue210
 t127:=Tryz.underlying219
 a127:=Tryz.isAgg219
 z127:=Tryz.sizeOf219
 v127:=Tryz.zeroValue219
 t164:=Tryz.underlying248
 a164:=Tryz.isAgg248
 z164:=Tryz.sizeOf248
 v164:=Tryz.zeroValue248 }
theorem Tryz.Builder_Extra_156:Builder.Extra ζ Tryz.lays156_ren:={
 sizeBuilder:=by kernel_rfl
 liesBuilder:=by kernel_rfl
 t5:=Tryz.underlying5
 a5:=Tryz.isAgg5
 z5:=Tryz.sizeOf5
 v5:=Tryz.zeroValue5
 infoByte:=by kernel_rfl
 cellsByte:=by kernel_rfl
 sizeByte:=by kernel_rfl
 neB5:=by decide }
open Go.RowKit in
theorem Tryz.strings_Join_none(a:Option Addr)(c:Nat)(sep:ByteArray)(w:World) :
  Calls ζ 167 #[.slice a 0 c,.string sep] w λe w'=>e=.returned (.string ⟨#[]⟩)/\w'=w:=Any.strings_Join_none Tryz.lays156 Tryz.Builder_Extra_156 a c sep w
open Go.RowKit in
theorem Tryz.strings_Join(bk o c:Nat)(xs:List ByteArray)(sep:ByteArray)(w:World)(hcells:∀(j:Nat) x,xs[j]? = Δ x->w.cell? ⟨bk,o+j,none⟩=Δ (.string x))(hbk:bk<w.heap.size)(hN:xs.length<=140737488355328)(hcap:xs.length<=c)(hlen:(Avz (xs.map (·.data.toList)) sep.data.toList).length<=140737488355328) :
  Calls ζ 167 #[.slice (Δ ⟨bk,o,none⟩) xs.length c,.string sep] w λe w'=>e=.returned (.string ⟨(Avz (xs.map (·.data.toList)) sep.data.toList).toArray⟩)/\Below w.heap.size w w':=Any.strings_Join Tryz.lays156 Tryz.Builder_Extra_156 bk o c xs sep w hcells hbk hN hcap hlen
end Go.Proofs
