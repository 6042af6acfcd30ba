/- The walks of the statements' own kit: numbers within bounds. -/
import Derived.Test.YthooaeeajeajnaaGrow
import Derived.Test.YthooaeeajeajnaaOct3
namespace Go.Proofs.Ythooaeeajeajnaa
open Go.RowKit Go.Sec Go.Oct BigFrame

theorem ret_i {k : IntKind} {a b : Int} (h : a = b) : Ending.returned (.int k a) = .returned (.int k b) := by rw [h]
theorem tmod_facts (v m : Int) (hm : 1 ≤ m) : -m < v.tmod m ∧ v.tmod m < m ∧ (0 ≤ v.tmod m → v % m = v.tmod m) ∧ (v.tmod m < 0 → v % m = v.tmod m + m) := by
  have h1 := Int.emod_nonneg v (show m ≠ 0 by omega)
  have h2 := Int.emod_lt_of_pos v (show 0 < m by omega)
  rw [Int.tmod_eq_emod]
  split
  · omega
  · have : (m.natAbs : Int) = m := by omega
    rename_i h
    have h3 : v % m ≠ 0 := fun h0 => h (.inr (Int.dvd_of_emod_eq_zero h0))
    omega
set_option maxRecDepth 100000 in
set_option maxHeartbeats 2000000 in
theorem within_any (v m : Int) (w : World) (hm : 1 ≤ m) (hm2 : m ≤ 4611686018427387904) :
    Calls Try.prog 17 #[.int .i64 v, .int .i64 m] w fun e w' => e = .returned (.int .i64 (v % m)) ∧ Ext w w' := by
  have H := Lib.hid (tmod_facts v m hm)
  have hm1 : ¬ m < 1 := by omega
  have hm0 : ¬ m = 0 := by omega
  have hw : IntKind.i64.wrap (v.tmod m) = v.tmod m := by rw [IntKind.wrap_i64]; have := H.out; omega
  go_enter Try.func17, Try.ntmps17
  go_wp2
  all_goals go_returns
  · obtain ⟨h1, h2, h3, h4⟩ := H.out
    exact ⟨ret_i (by rw [h4 ‹_›, Go.IntWalk.wrap64_in _ (by omega)]), Ext.refl _⟩
  · obtain ⟨h1, h2, h3, h4⟩ := H.out
    exact ⟨ret_i (by rw [h3 ‹_›]), Ext.refl _⟩
end Go.Proofs.Ythooaeeajeajnaa
