/- Lemmas of this claim, several texts joined. -/
import Derived.Test.YtkjdlbjbppbmdaaZ12
set_option linter.unusedVariables false
set_option linter.unusedSimpArgs false
/- sectimeworld.Few. -/
namespace Go.Proofs.Ytkjdlbjbppbmdaa
open Go.RowKit Go.Sec Go.Oct Go.Sha BigFrame

theorem nmod (v : Int) (m : Nat) (hm : 0 < m) : ∃ s : Nat, s < m ∧ v % (m : Int) = (s : Int) :=
  ⟨(v % (m : Int)).toNat, by have := Int.emod_nonneg v (show (m : Int) ≠ 0 by omega); have := Int.emod_lt_of_pos v (show 0 < (m : Int) by omega); omega, by have := Int.emod_nonneg v (show (m : Int) ≠ 0 by omega); omega⟩
set_option maxRecDepth 100000 in
set_option maxHeartbeats 4000000 in
theorem few_any (a : Option Addr) (n c : Nat) (l : List UInt8) (m : Nat) {mI : Int} (hm : mI = (m : Int)) (w : World) (H : Sl w a n l) (hnc : n ≤ c) (hm2 : m ≤ 1000000) :
    Calls Try.prog 48 #[.slice a n c, .int .i64 mI] w (Fresh (min n m) (l.take m) w) := by
  subst hm
  have hl := H.len
  obtain ⟨k, hk⟩ : ∃ k : Nat, k = min n m := ⟨_, rfl⟩
  have hkn : k ≤ n := by omega
  have hT := H.take k hkn
  have e1 : l.take k = l.take m := by
    by_cases h : n ≤ m
    · rw [List.take_of_length_le (by omega), List.take_of_length_le (by omega)]
    · rw [show k = m by omega]
  rw [e1] at hT
  have hmx : max (m : Int) 0 = (m : Int) := by omega
  have hmn : min (n : Int) (m : Int) = (k : Int) := by omega
  rw [← hk]
  have hk6 : k ≤ 1000000 := by omega
  clear e1 hl hk
  go_enter Try.func48, Try.ntmps48
  go_wp2_with fail
  refine (join_any _ _ _ _ _ (bss1 hT _) (by omega) k (by simp [joinL1, hT.len]) (by omega)).mono ?_
  rintro e w1 ⟨a1, c1, rfl, hO1, hx1⟩
  rw [joinL1] at hO1
  go_wp2
  go_ret
  exact ⟨_, _, rfl, hO1.mono (by simp), (Ext.of_alloc _ _).trans hx1⟩
end Go.Proofs.Ytkjdlbjbppbmdaa
