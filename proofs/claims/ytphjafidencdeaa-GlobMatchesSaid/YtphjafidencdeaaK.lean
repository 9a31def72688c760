/- The strings.Builder of this program: the shelf's contracts of WriteByte and String. -/
import Derived.Test.YtphjafidencdeaaKit
import Derived.Shelf.Strings.BuilderK
namespace Go.Proofs.Ytphjafidencdeaa
open Go.Shelf Go.RowKit
set_option maxRecDepth 100000

def bren : Ren := ⟨fun | 167 => 24 | 240 => 33 | 276 => 36 | 169 => 25 | n => n, fun | 0 => 0 | 3 => 3 | 4 => 4 | 5 => 5 | 9 => 9 | 20 => 20 | 37 => 25 | 70 => 47 | 72 => 49 | 75 => 52 | 80 => 54 | 164 => 67 | 127 => 65 | n => n, fun n => n⟩
theorem lays167 : Lays.n167 Try.prog bren := {
  mixed := by kernel_rfl,
  f167 := Try.func24.trans (congrArg some (by kernel_rfl)),
  f240 := Try.func33.trans (congrArg some (by kernel_rfl)),
  f276 := Try.func36.trans (congrArg some (by kernel_rfl)),
  t0 := Try.underlying0,
  a0 := Try.isAgg0,
  z0 := Try.sizeOf0,
  v0 := Try.zeroValue0,
  t4 := Try.underlying4,
  a4 := Try.isAgg4,
  z4 := Try.sizeOf4,
  v4 := Try.zeroValue4,
  t5 := Try.underlying5,
  a5 := Try.isAgg5,
  z5 := Try.sizeOf5,
  v5 := Try.zeroValue5,
  t9 := Try.underlying9,
  a9 := Try.isAgg9,
  z9 := Try.sizeOf9,
  v9 := Try.zeroValue9,
  t20 := Try.underlying20,
  a20 := Try.isAgg20,
  z20 := Try.sizeOf20,
  v20 := Try.zeroValue20,
  t37 := Try.underlying25,
  a37 := Try.isAgg25,
  z37 := Try.sizeOf25,
  v37 := Try.zeroValue25,
  t70 := Try.underlying47,
  a70 := Try.isAgg47,
  z70 := Try.sizeOf47,
  v70 := Try.zeroValue47,
  t72 := Try.underlying49,
  a72 := Try.isAgg49,
  z72 := Try.sizeOf49,
  v72 := Try.zeroValue49,
  t75 := Try.underlying52,
  a75 := Try.isAgg52,
  z75 := Try.sizeOf52,
  v75 := Try.zeroValue52,
  t164 := Try.underlying67,
  a164 := Try.isAgg67,
  z164 := Try.sizeOf67,
  v164 := Try.zeroValue67 }
theorem lays169 : Lays.n169 Try.prog bren := {
  mixed := by kernel_rfl,
  f169 := Try.func25.trans (congrArg some (by kernel_rfl)),
  t0 := Try.underlying0,
  a0 := Try.isAgg0,
  z0 := Try.sizeOf0,
  v0 := Try.zeroValue0,
  t3 := Try.underlying3,
  a3 := Try.isAgg3,
  z3 := Try.sizeOf3,
  v3 := Try.zeroValue3,
  t9 := Try.underlying9,
  a9 := Try.isAgg9,
  z9 := Try.sizeOf9,
  v9 := Try.zeroValue9,
  t37 := Try.underlying25,
  a37 := Try.isAgg25,
  z37 := Try.sizeOf25,
  v37 := Try.zeroValue25,
  t70 := Try.underlying47,
  a70 := Try.isAgg47,
  z70 := Try.sizeOf47,
  v70 := Try.zeroValue47,
  t72 := Try.underlying49,
  a72 := Try.isAgg49,
  z72 := Try.sizeOf49,
  v72 := Try.zeroValue49,
  t127 := Try.underlying65,
  a127 := Try.isAgg65,
  z127 := Try.sizeOf65,
  v127 := Try.zeroValue65 }
theorem bextra : Builder.Extra Try.prog bren := {
  sizeBuilder := by kernel_rfl,
  liesBuilder := by kernel_rfl,
  t5 := Try.underlying5,
  a5 := Try.isAgg5,
  z5 := Try.sizeOf5,
  v5 := Try.zeroValue5,
  infoByte := by kernel_rfl,
  cellsByte := by kernel_rfl,
  sizeByte := by kernel_rfl,
  neB5 := by decide }
theorem b_write (B b : Nat) (bs : List Value) (c : Int) (w : World) (h : Lib.IsBuilderF 49 5 B b bs w) (hlen : bs.length + 1 ≤ 140737488355328) (hBw : B ≤ w.heap.size) :
    Calls Try.prog 24 #[.pointer (some ⟨b, 0, none⟩), .int .u8 c] w fun e w' => e = .returned .nilIface ∧ (Lib.BuilderAtF 49 5 B b (.pointer (some ⟨b, 0, none⟩)) (bs ++ [.int .u8 c]) w' ∧ Below B w w' ∧ Lib.OthersKept 5 (some b) w w') :=
  Any.Builder_WriteByte_k lays167 bextra B b bs c w h hlen hBw
theorem b_string (B b : Nat) (l : List UInt8) (w : World) (h : Lib.IsBuilderF 49 5 B b (Lib.byteCells l) w) (hBw : B ≤ w.heap.size) :
    Calls Try.prog 25 #[.pointer (some ⟨b, 0, none⟩)] w fun e w' => e = .returned (.string ⟨l.toArray⟩) ∧ (Lib.IsBuilderF 49 5 B b (Lib.byteCells l) w' ∧ Below B w w' ∧ Lib.OthersKept 5 (some b) w w') :=
  Any.Builder_String_any_k lays169 bextra B b l w h hBw

end Go.Proofs.Ytphjafidencdeaa
