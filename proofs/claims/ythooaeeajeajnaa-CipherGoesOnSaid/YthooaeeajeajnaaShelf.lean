/- The contracts of the library's functions that octets call, at this program's numbers. -/
import Derived.Shelf.Strings.Builder1
import Derived.Shelf.Small.Strs
import Derived.Shelf.Strings.Search1
import Derived.Test.YthooaeeajeajnaaRows
import Derived.Test.YthooaeeajeajnaaBytes
namespace Go.Proofs.Ythooaeeajeajnaa
open Go.Shelf Go.RowKit Go.Sec
def lays167_ren : Go.Shelf.Ren := ⟨fun | 167 => 90 | 240 => 101 | 276 => 104 | n => n, fun | 0 => 0 | 4 => 4 | 5 => 5 | 9 => 9 | 20 => 20 | 37 => 22 | 70 => 101 | 72 => 103 | 75 => 105 | 164 => 116 | 80 => 107 | n => n, fun n => n⟩
theorem lays167 : Go.Proofs.Lays.n167 Try.prog lays167_ren := {
  mixed := by kernel_rfl
  f167 := Try.func90.trans (congrArg some (by kernel_rfl))
  f240 := Try.func101.trans (congrArg some (by kernel_rfl))
  f276 := Try.func104.trans (congrArg some (by kernel_rfl))
  t0 := Try.underlying0
  a0 := Try.isAgg0
  z0 := Try.sizeOf0
  v0 := Try.zeroValue0
  t4 := Try.underlying4
  a4 := Try.isAgg4
  z4 := Try.sizeOf4
  v4 := Try.zeroValue4
  t5 := Try.underlying5
  a5 := Try.isAgg5
  z5 := Try.sizeOf5
  v5 := Try.zeroValue5
  t9 := Try.underlying9
  a9 := Try.isAgg9
  z9 := Try.sizeOf9
  v9 := Try.zeroValue9
  t20 := Try.underlying20
  a20 := Try.isAgg20
  z20 := Try.sizeOf20
  v20 := Try.zeroValue20
  t37 := Try.underlying22
  a37 := Try.isAgg22
  z37 := Try.sizeOf22
  v37 := Try.zeroValue22
  t70 := Try.underlying101
  a70 := Try.isAgg101
  z70 := Try.sizeOf101
  v70 := Try.zeroValue101
  t72 := Try.underlying103
  a72 := Try.isAgg103
  z72 := Try.sizeOf103
  v72 := Try.zeroValue103
  t75 := Try.underlying105
  a75 := Try.isAgg105
  z75 := Try.sizeOf105
  v75 := Try.zeroValue105
  t164 := Try.underlying116
  a164 := Try.isAgg116
  z164 := Try.sizeOf116
  v164 := Try.zeroValue116 }
theorem extra167 : Builder.Extra Try.prog lays167_ren := {
  sizeBuilder := by kernel_rfl
  liesBuilder := by kernel_rfl
  t5 := Try.underlying5
  a5 := Try.isAgg5
  z5 := Try.sizeOf5
  v5 := Try.zeroValue5
  infoByte := by kernel_rfl
  cellsByte := by kernel_rfl
  sizeByte := by kernel_rfl
  neB5 := by decide }
def lays169_ren : Go.Shelf.Ren := ⟨fun | 169 => 91 | n => n, fun | 0 => 0 | 3 => 3 | 9 => 9 | 37 => 22 | 70 => 101 | 72 => 103 | 127 => 114 | 5 => 5 | n => n, fun n => n⟩
theorem lays169 : Go.Proofs.Lays.n169 Try.prog lays169_ren := {
  mixed := by kernel_rfl
  f169 := Try.func91.trans (congrArg some (by kernel_rfl))
  t0 := Try.underlying0
  a0 := Try.isAgg0
  z0 := Try.sizeOf0
  v0 := Try.zeroValue0
  t3 := Try.underlying3
  a3 := Try.isAgg3
  z3 := Try.sizeOf3
  v3 := Try.zeroValue3
  t9 := Try.underlying9
  a9 := Try.isAgg9
  z9 := Try.sizeOf9
  v9 := Try.zeroValue9
  t37 := Try.underlying22
  a37 := Try.isAgg22
  z37 := Try.sizeOf22
  v37 := Try.zeroValue22
  t70 := Try.underlying101
  a70 := Try.isAgg101
  z70 := Try.sizeOf101
  v70 := Try.zeroValue101
  t72 := Try.underlying103
  a72 := Try.isAgg103
  z72 := Try.sizeOf103
  v72 := Try.zeroValue103
  t127 := Try.underlying114
  a127 := Try.isAgg114
  z127 := Try.sizeOf114
  v127 := Try.zeroValue114 }
theorem extra169 : Builder.Extra Try.prog lays169_ren := {
  sizeBuilder := by kernel_rfl
  liesBuilder := by kernel_rfl
  t5 := Try.underlying5
  a5 := Try.isAgg5
  z5 := Try.sizeOf5
  v5 := Try.zeroValue5
  infoByte := by kernel_rfl
  cellsByte := by kernel_rfl
  sizeByte := by kernel_rfl
  neB5 := by decide }
def lays137_ren : Go.Shelf.Ren := ⟨fun | 137 => 89 | 217 => 100 | 266 => 103 | n => n, fun | 3 => 3 | 5 => 5 | 9 => 9 | n => n, fun n => n⟩
theorem lays137 : Go.Proofs.Lays.n137 Try.prog lays137_ren := {
  mixed := by kernel_rfl
  f137 := Try.func89.trans (congrArg some (by kernel_rfl))
  f217 := Try.func100.trans (congrArg some (by kernel_rfl))
  f266 := Try.func103.trans (congrArg some (by kernel_rfl))
  t3 := Try.underlying3
  a3 := Try.isAgg3
  z3 := Try.sizeOf3
  v3 := Try.zeroValue3
  t5 := Try.underlying5
  a5 := Try.isAgg5
  z5 := Try.sizeOf5
  v5 := Try.zeroValue5
  t9 := Try.underlying9
  a9 := Try.isAgg9
  z9 := Try.sizeOf9
  v9 := Try.zeroValue9 }

theorem writeByte_any (B b : Nat) (l : List UInt8) (x : UInt8) (w : World) (h : Lib.IsBuilder 103 5 B b (l.map u8v) w) (hlen : l.length + 1 ≤ 140737488355328) (hBw : B ≤ w.heap.size) :
    Calls Try.prog 90 #[.pointer (some ⟨b, 0, none⟩), .int .u8 (n8 x)] w fun e w' => e = .returned .nilIface ∧ Lib.IsBuilder 103 5 B b ((l ++ [x]).map u8v) w' ∧ Below B w w' :=
  (Any.Builder_WriteByte lays167 extra167 B b (l.map u8v) (n8 x) w h (by simpa using hlen) hBw).mono fun e w' ⟨h1, h2, h3⟩ => ⟨h1, .inr (by rw [List.map_append]; exact h2), h3⟩
theorem string_any (B b : Nat) (l : List UInt8) (w : World) (h : Lib.IsBuilder 103 5 B b (l.map u8v) w) (hBw : B ≤ w.heap.size) :
    Calls Try.prog 91 #[.pointer (some ⟨b, 0, none⟩)] w fun e w' => e = .returned (.string ⟨l.toArray⟩) ∧ Below B w w' := Any.Builder_String_any lays169 extra169 B b l w h hBw
theorem indexByte_any (s : ByteArray) (x : UInt8) (w : World) :
    Calls Try.prog 89 #[.string s, .int .u8 (n8 x)] w fun e w' => e = .returned (.int .i64 (Lib.indexByte s.data.toList x)) ∧ w' = w := by
  have := Any.strings_IndexByte lays137 s (n8 x) w
  rw [n8_toNat, show x.toNat.toUInt8 = x by simp] at this
  exact this
end Go.Proofs.Ythooaeeajeajnaa
