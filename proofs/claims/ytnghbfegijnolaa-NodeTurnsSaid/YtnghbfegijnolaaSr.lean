/-
  The shelf's contracts of (*strings.Builder).WriteByte, WriteString and String at this seat's program, laid by hand.
-/
import Derived.Shelf.Strings.BuilderK
import Derived.Test.YtnghbfegijnolaaProg
namespace Go.Proofs
open Go.Shelf
def Try.lays167_ren : Go.Shelf.Ren := ⟨fun | 167 => 42 | 166 => 41 | 169 => 44 | 240 => 57 | 276 => 67 | n => n, fun | 0 => 0 | 3 => 3 | 4 => 4 | 5 => 5 | 9 => 9 | 20 => 20 | 37 => 77 | 70 => 76 | 72 => 79 | 75 => 82 | 80 => 88 | 164 => 117 | n => n, fun | n => n⟩
theorem Try.lays167 : Go.Proofs.Lays.n167 Try.prog Try.lays167_ren := {
  mixed := by kernel_rfl
  f167 := Try.func42.trans (congrArg some (by kernel_rfl))
  f240 := Try.func57.trans (congrArg some (by kernel_rfl))
  f276 := Try.func67.trans (congrArg some (by kernel_rfl))
  t0 := Try.underlying0
  a0 := Try.isAgg0
  z0 := Try.sizeOf0
  v0 := Try.zeroValue0
  t4 := Try.underlying4
  a4 := Try.isAgg4
  z4 := Try.sizeOf4
  v4 := Try.zeroValue4
  t5 := Try.underlying5
  a5 := Try.isAgg5
  z5 := Try.sizeOf5
  v5 := Try.zeroValue5
  t9 := Try.underlying9
  a9 := Try.isAgg9
  z9 := Try.sizeOf9
  v9 := Try.zeroValue9
  t20 := Try.underlying20
  a20 := Try.isAgg20
  z20 := Try.sizeOf20
  v20 := Try.zeroValue20
  t37 := Try.underlying77
  a37 := Try.isAgg77
  z37 := Try.sizeOf77
  v37 := Try.zeroValue77
  t70 := Try.underlying76
  a70 := Try.isAgg76
  z70 := Try.sizeOf76
  v70 := Try.zeroValue76
  t72 := Try.underlying79
  a72 := Try.isAgg79
  z72 := Try.sizeOf79
  v72 := Try.zeroValue79
  t75 := Try.underlying82
  a75 := Try.isAgg82
  z75 := Try.sizeOf82
  v75 := Try.zeroValue82
  t164 := Try.underlying117
  a164 := Try.isAgg117
  z164 := Try.sizeOf117
  v164 := Try.zeroValue117 }
theorem Try.Builder_Extra_167 : Builder.Extra Try.prog Try.lays167_ren := {
  sizeBuilder := by kernel_rfl
  liesBuilder := by kernel_rfl
  t5 := Try.underlying5
  a5 := Try.isAgg5
  z5 := Try.sizeOf5
  v5 := Try.zeroValue5
  infoByte := by kernel_rfl
  cellsByte := by kernel_rfl
  sizeByte := by kernel_rfl
  neB5 := by decide }
open Go.RowKit in
theorem Try.Builder_WriteByte_k (B b : Nat) (bs : List Value) (c : Int) (w : World) (h : Lib.IsBuilderF 79 5 B b bs w) (hlen : bs.length + 1 ≤ 140737488355328) (hBw : B ≤ w.heap.size) :
    Calls Try.prog 42 #[.pointer (some ⟨b, 0, none⟩), .int .u8 c] w fun e w' => e = .returned .nilIface ∧ (Lib.BuilderAtF 79 5 B b (.pointer (some ⟨b, 0, none⟩)) (bs ++ [.int .u8 c]) w' ∧ Below B w w' ∧ Lib.OthersKept 5 (some b) w w') :=
  Any.Builder_WriteByte_k Try.lays167 Try.Builder_Extra_167 B b bs c w h hlen hBw
def Try.lays166_ren : Go.Shelf.Ren := ⟨fun | 167 => 42 | 166 => 41 | 169 => 44 | 240 => 57 | 276 => 67 | n => n, fun | 0 => 0 | 3 => 3 | 4 => 4 | 5 => 5 | 9 => 9 | 20 => 20 | 37 => 77 | 70 => 76 | 72 => 79 | 75 => 82 | 80 => 88 | 164 => 117 | n => n, fun | n => n⟩
theorem Try.lays166 : Go.Proofs.Lays.n166 Try.prog Try.lays166_ren := {
  mixed := by kernel_rfl
  f166 := Try.func41.trans (congrArg some (by kernel_rfl))
  f240 := Try.func57.trans (congrArg some (by kernel_rfl))
  f276 := Try.func67.trans (congrArg some (by kernel_rfl))
  t0 := Try.underlying0
  a0 := Try.isAgg0
  z0 := Try.sizeOf0
  v0 := Try.zeroValue0
  t3 := Try.underlying3
  a3 := Try.isAgg3
  z3 := Try.sizeOf3
  v3 := Try.zeroValue3
  t4 := Try.underlying4
  a4 := Try.isAgg4
  z4 := Try.sizeOf4
  v4 := Try.zeroValue4
  t9 := Try.underlying9
  a9 := Try.isAgg9
  z9 := Try.sizeOf9
  v9 := Try.zeroValue9
  t20 := Try.underlying20
  a20 := Try.isAgg20
  z20 := Try.sizeOf20
  v20 := Try.zeroValue20
  t37 := Try.underlying77
  a37 := Try.isAgg77
  z37 := Try.sizeOf77
  v37 := Try.zeroValue77
  t70 := Try.underlying76
  a70 := Try.isAgg76
  z70 := Try.sizeOf76
  v70 := Try.zeroValue76
  t72 := Try.underlying79
  a72 := Try.isAgg79
  z72 := Try.sizeOf79
  v72 := Try.zeroValue79
  t75 := Try.underlying82
  a75 := Try.isAgg82
  z75 := Try.sizeOf82
  v75 := Try.zeroValue82
  t164 := Try.underlying117
  a164 := Try.isAgg117
  z164 := Try.sizeOf117
  v164 := Try.zeroValue117 }
theorem Try.Builder_Extra_166 : Builder.Extra Try.prog Try.lays166_ren := {
  sizeBuilder := by kernel_rfl
  liesBuilder := by kernel_rfl
  t5 := Try.underlying5
  a5 := Try.isAgg5
  z5 := Try.sizeOf5
  v5 := Try.zeroValue5
  infoByte := by kernel_rfl
  cellsByte := by kernel_rfl
  sizeByte := by kernel_rfl
  neB5 := by decide }
open Go.RowKit in
theorem Try.Builder_WriteString_k (B b : Nat) (bs : List Value) (s : ByteArray) (w : World) (h : Lib.IsBuilderF 79 5 B b bs w) (hlen : bs.length + s.size ≤ 140737488355328) (hBw : B ≤ w.heap.size) :
    Calls Try.prog 41 #[.pointer (some ⟨b, 0, none⟩), .string s] w fun e w' => e = .returned (.tuple #[.int .i64 s.size, .nilIface]) ∧ (Lib.BuilderAtF 79 5 B b (.pointer (some ⟨b, 0, none⟩)) (bs ++ Lib.strCells s) w' ∧ Below B w w' ∧ Lib.OthersKept 5 (some b) w w') :=
  Any.Builder_WriteString_k Try.lays166 Try.Builder_Extra_166 B b bs s w h hlen hBw
end Go.Proofs
