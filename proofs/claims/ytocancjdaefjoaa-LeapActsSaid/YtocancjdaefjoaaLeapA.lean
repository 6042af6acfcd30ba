/- The walks of the program's functions on leap seconds: each returns what the plain function says, and only makes memory. -/
import Derived.Test.YtocancjdaefjoaaRows
import Derived.Test.YtocancjdaefjoaaLib
import Derived.Test.YtocancjdaefjoaaLeapPure
namespace Go.Proofs.Ytocancjdaefjoaa
open Go.RowKit Go.Sec Go.Leap BigFrame

def Row (w : World) (b off : Nat) (L : List (Int × Int)) : Prop :=
  ∀ k, (h : k < L.length) → w.cell? ⟨b, off + k * 2, none⟩ = some (.int .i64 (L[k]).1) ∧ w.cell? ⟨b, off + k * 2 + 1, none⟩ = some (.int .i64 (L[k]).2)
/-- A slice of elements of a table. -/
structure Tb (w : World) (a : Option Addr) (L : List (Int × Int)) : Prop where
  bd : ∀ x ∈ L, -9223372036854775808 ≤ x.1 ∧ x.1 ≤ 9223372036854775807 ∧ -9223372036854775808 ≤ x.2 ∧ x.2 ≤ 9223372036854775807
  max : L.length ≤ 1000000000000000
  row : L.length = 0 ∨ ∃ b off, a = some ⟨b, off, none⟩ ∧ b < w.heap.size ∧ Row w b off L
theorem Tb.ext {w w' : World} {a : Option Addr} {L : List (Int × Int)} (h : Tb w a L) (hx : Ext w w') : Tb w' a L := by
  refine ⟨h.bd, h.max, h.row.imp id ?_⟩
  rintro ⟨b, off, ha, hb, hr⟩
  exact ⟨b, off, ha, Nat.lt_of_lt_of_le hb hx.size, fun k hk => ⟨(hx.cell (p := ⟨b, _, none⟩) hb).trans (hr k hk).1, (hx.cell (p := ⟨b, _, none⟩) hb).trans (hr k hk).2⟩⟩
theorem Tb.at {w : World} {a : Option Addr} {L : List (Int × Int)} (h : Tb w a L) (k : Nat) (hk : k < L.length) :
    ∃ b off, a = some ⟨b, off, none⟩ ∧ b < w.heap.size ∧ w.cell? ⟨b, off + k * 2, none⟩ = some (.int .i64 (L[k]).1) ∧ w.cell? ⟨b, off + k * 2 + 1, none⟩ = some (.int .i64 (L[k]).2) := by
  rcases h.row with h | ⟨b, off, ha, hb, hr⟩
  · omega
  · exact ⟨b, off, ha, hb, (hr k hk).1, (hr k hk).2⟩

theorem ret1 {k : IntKind} {a b : Int} (h : a = b) : Ending.returned (.int k a) = .returned (.int k b) := by rw [h]

theorem i64_and20 (n : Int) : bits .and .i64 n 1048575 = n % 1048576 := by
  have h127 : (BitVec.ofInt 64 1048575).toNat = 2 ^ 20 - 1 := by decide
  have key : (BitVec.ofInt 64 n &&& BitVec.ofInt 64 1048575).toNat = (n % ((2 ^ 64 : Nat) : Int)).toNat % 2 ^ 20 := by
    rw [BitVec.toNat_and, BitVec.toNat_ofInt, h127, Nat.and_two_pow_sub_one_eq_mod]
  show IntKind.i64.wrap ((BitVec.ofInt 64 n &&& BitVec.ofInt 64 1048575).toNat : Nat) = n % 1048576
  rw [key, IntKind.wrap_i64]
  omega
theorem wrap64_eq (n : Int) : wrap64 n = (n + 9223372036854775808) % 18446744073709551616 - 9223372036854775808 := by
  unfold wrap64; rfl

set_option maxHeartbeats 400000 in
theorem second_any (t : Int) (w : World) :
    Calls Try.prog 25 #[.int .i64 t] w fun e w' => e = .returned (.int .i64 (t / 1048576)) ∧ Ext w w' := by
  go_enter Try.func25, Try.ntmps25
  go_wp2
  go_returns
  exact ⟨rfl, Ext.refl _⟩

set_option maxHeartbeats 400000 in
theorem part_any (t : Int) (w : World) :
    Calls Try.prog 29 #[.int .i64 t] w fun e w' => e = .returned (.int .i64 (t % 1048576)) ∧ Ext w w' := by
  have hb := i64_and20 t
  go_enter Try.func29, Try.ntmps29
  go_wp2
  go_returns
  exact ⟨rfl, Ext.refl _⟩

set_option maxHeartbeats 400000 in
theorem in_any (s : Int) (w : World) :
    Calls Try.prog 26 #[.int .i64 s] w fun e w' => e = .returned (.bool (inB s)) ∧ Ext w w' := by
  unfold inB
  by_cases h1 : 0 ≤ s <;> by_cases h2 : s ≤ 274877906944
  all_goals
    go_enter Try.func26, Try.ntmps26
    go_wp2
    go_returns
    exact ⟨by simp [h1, h2], Ext.refl _⟩

set_option maxHeartbeats 1000000 in
theorem offset_any (first : Int) (a : Option Addr) (cap : Nat) (L : List (Int × Int)) (s : Int) (w : World) (hT : Tb w a L) :
    Calls Try.prog 28 #[.agg #[.int .i64 first, .slice a L.length cap], .int .i64 s] w fun e w' => e = .returned (.int .i64 (offs first L s)) ∧ Ext w w' := by
  have hmax := hT.max
  go_enter Try.func28, Try.ntmps28
  go_wp2
  go_loopw [5, 13] (fun v5 v13 wr => ∃ k : Nat, k ≤ L.length ∧ v13 = .int .i64 k ∧ v5 = .int .i64 (offs first (L.take k) s) ∧ Ext w wr) (fun _ v13 _ => L.length - (intOf v13).toNat)
  case atStart => exact ⟨0, Nat.zero_le _, rfl, rfl, (Ext.refl _).alloc _⟩
  case round =>
    obtain ⟨k, hk, rfl, rfl, hB⟩ := hrel
    by_cases hlt : k < L.length
    · obtain ⟨b, off, rfl, hb, hc, hd⟩ := (hT.ext hB).at k hlt
      have HS := Lib.hid (offs_take first L s k hlt)
      by_cases hs : (L[k]).1 ≤ s
      all_goals
        go_wp2
        go_roundw
        case rel => exact ⟨k + 1, by omega, by go_num, by rw [HS.out]; simp [hs], hB.alloc _⟩
        case measure => simp [intOf]; omega
    · have hkk : k = L.length := by omega
      subst hkk
      go_wp2
      go_ret
      exact ⟨by simp, hB⟩

set_option maxHeartbeats 1000000 in
theorem step_any (first : Int) (a : Option Addr) (cap : Nat) (L : List (Int × Int)) (s : Int) (w : World) (hs0 : -1000000000000 ≤ s) (hs1 : s ≤ 1000000000000) (hT : Tb w a L) (hv : vldB first L = true) :
    Calls Try.prog 27 #[.agg #[.int .i64 first, .slice a L.length cap], .int .i64 s] w fun e w' => e = .returned (.int .i64 (stp first L s)) ∧ Ext w w' := by
  have h1 := offs_at hv s
  have h2 := offs_at hv (s + 1)
  clear hv
  unfold stp
  go_enter Try.func27, Try.ntmps27
  go_wp2_with fail
  have hT1 : Tb (w.alloc (.cells #[.int .i64 first, .slice a L.length cap] 25)) a L := hT.ext ((Ext.refl _).alloc _)
  refine wp_region_ext (by kernel_rfl) (by kernel_rfl) ?_
  repeat (go_big_quiet_step ((exact Calls.inExt (offset_any _ _ _ _ _ _ (hT1.ext (Ext.of_ext _ _))))))
  refine wpQuiet_nil ?_
  rintro _ ⟨n, rfl⟩
  go_wp2
  go_returns
  exact ⟨rfl, ((Ext.refl _).alloc _).ext _⟩

end Go.Proofs.Ytocancjdaefjoaa
