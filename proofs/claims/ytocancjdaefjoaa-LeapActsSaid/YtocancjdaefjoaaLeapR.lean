/- The walks of the reference's functions on leap seconds. -/
import Derived.Test.YtocancjdaefjoaaLeapB
import Derived.Test.YtocancjdaefjoaaLeapPure3
namespace Go.Proofs.Ytocancjdaefjoaa
open Go.RowKit Go.Sec Go.Leap BigFrame

set_option maxHeartbeats 400000 in
theorem rin_any (s : Int) (w : World) :
    Calls Try.prog 31 #[.int .i64 s] w fun e w' => e = .returned (.bool (inB s)) ∧ Ext w w' := by
  unfold inB
  by_cases h1 : 0 ≤ s <;> by_cases h2 : s ≤ 274877906944
  all_goals
    go_enter Try.func31, Try.ntmps31
    go_wp2
    go_returns
    exact ⟨by simp [h1, h2], Ext.refl _⟩

set_option maxHeartbeats 4000000 in
theorem roffset_any (first : Int) (a : Option Addr) (cap : Nat) (L : List (Int × Int)) (s : Int) (w : World) (hT : Tb w a L) (hv : vldB first L = true) :
    Calls Try.prog 32 #[.agg #[.int .i64 first, .slice a L.length cap], .int .i64 s] w fun e w' => e = .returned (.int .i64 (offs first L s)) ∧ Ext w w' := by
  have hmax := hT.max
  go_enter Try.func32, Try.ntmps32
  go_wp2
  go_loopw [5, 6] (fun v5 v6 wr => ∃ k : Nat, k ≤ L.length ∧ v6 = .int .i64 k ∧ v5 = .int .i64 (offs first (L.take k) s) ∧ ∃ x, wr = (w.alloc (.cells #[.int .i64 first, .slice a L.length cap] 25)).ext x) (fun _ v6 _ => L.length - (intOf v6).toNat)
  case atStart => exact ⟨0, Nat.zero_le _, rfl, rfl, Ext.out (Ext.refl _)⟩
  case round =>
    obtain ⟨k, hk, rfl, rfl, x, rfl⟩ := hrel
    by_cases hlt : k < L.length
    · obtain ⟨b, off, rfl, hb, hc, hd⟩ := hT.at k hlt
      haveI : BlkLt b w := ⟨hb⟩
      have HS := Lib.hid (offs_take first L s k hlt)
      by_cases hs : (L[k]).1 ≤ s
      · go_wp2
        go_roundw
        case rel => exact ⟨k + 1, by omega, by go_num, by rw [HS.out]; simp [hs], x, rfl⟩
        case measure => simp [intOf]; omega
      · have HX := Lib.hid (offs_stop first s L (-86400, first) (okv hv) k hlt (by omega))
        go_wp2
        go_returns
        exact ⟨by rw [HX.out]; rfl, (by repeat (first | (with_reducible first | exact Ext.refl _ | assumption | apply Ext.alloc | apply Ext.ext | apply Ext.drew | refine Ext.setCell ?_ ?_ _) | (focus (simp [go_sem]; done))))⟩
    · have hkk : k = L.length := by omega
      subst hkk
      go_wp2
      go_returns
      exact ⟨by rw [List.take_length]; rfl, (by repeat (first | (with_reducible first | exact Ext.refl _ | assumption | apply Ext.alloc | apply Ext.ext | apply Ext.drew | refine Ext.setCell ?_ ?_ _) | (focus (simp [go_sem]; done))))⟩

set_option maxHeartbeats 1000000 in
theorem rstep_any (first : Int) (a : Option Addr) (cap : Nat) (L : List (Int × Int)) (s : Int) (w : World) (hs0 : -1000000000000 ≤ s) (hs1 : s ≤ 1000000000000) (hT : Tb w a L) (hv : vldB first L = true) :
    Calls Try.prog 33 #[.agg #[.int .i64 first, .slice a L.length cap], .int .i64 s] w fun e w' => e = .returned (.int .i64 (stp first L s)) ∧ Ext w w' := by
  have h1 := offs_at hv s
  have h2 := offs_at hv (s + 1)
  unfold stp
  go_enter Try.func33, Try.ntmps33
  go_wp2_with fail
  (refine wp_region_ext (by kernel_rfl) (by kernel_rfl) ?_; (repeat (go_big_quiet_step (((go_at_call 32; exact Calls.inExt (roffset_any _ _ _ _ _ _ (hT.ext (by repeat (first | (with_reducible first | exact Ext.refl _ | assumption | apply Ext.alloc | apply Ext.ext | apply Ext.drew | refine Ext.setCell ?_ ?_ _) | (focus (simp [go_sem]; done))))) hv)))))); refine wpQuiet_nil ?_; rintro _ ⟨xq, rfl⟩)
  go_wp2
  go_returns
  exact ⟨rfl, (by repeat (first | (with_reducible first | exact Ext.refl _ | assumption | apply Ext.alloc | apply Ext.ext | apply Ext.drew | refine Ext.setCell ?_ ?_ _) | (focus (simp [go_sem]; done))))⟩

set_option maxHeartbeats 400000 in
theorem below_any (a : Int) (w : World) (ha0 : -1152921504606846976 ≤ a) (ha1 : a ≤ 1152921504606846976) :
    Calls Try.prog 37 #[.int .i64 a, .int .i64 1048576] w fun e w' => e = .returned (.int .i64 (a / 1048576)) ∧ Ext w w' := by
  have hq : a.tdiv 1048576 = if 0 ≤ a ∨ a % 1048576 = 0 then a / 1048576 else a / 1048576 + 1 := by
    rw [Int.tdiv_eq_ediv]
    by_cases h : 0 ≤ a
    · simp [h]
    · by_cases h' : a % 1048576 = 0
      · rw [if_pos (.inr (Int.dvd_of_emod_eq_zero h')), if_pos (.inr h')]; omega
      · rw [if_neg (fun hh => hh.elim h (fun hd => h' (Int.emod_eq_zero_of_dvd hd))), if_neg (fun hh => hh.elim h h')]; rfl
  have hr : a.tmod 1048576 = a - 1048576 * a.tdiv 1048576 := Int.tmod_def a 1048576
  by_cases h : a.tmod 1048576 < 0
  · have hqq : a.tdiv 1048576 - 1 = a / 1048576 := by rw [hq] at hr ⊢; split at hr <;> split <;> omega
    have hb : -2000000000000 ≤ a.tdiv 1048576 ∧ a.tdiv 1048576 ≤ 2000000000000 := by omega
    have HQ := Lib.hid hqq
    clear hqq hq hr
    go_enter Try.func37, Try.ntmps37
    go_wp2
    go_returns
    exact ⟨by rw [← HQ.out]; rfl, Ext.refl _⟩
  · have hqq : a.tdiv 1048576 = a / 1048576 := by rw [hq] at hr ⊢; split at hr <;> split <;> omega
    have HQ := Lib.hid hqq
    clear hqq hq hr
    go_enter Try.func37, Try.ntmps37
    go_wp2
    go_returns
    exact ⟨by rw [← HQ.out]; rfl, Ext.refl _⟩

set_option maxHeartbeats 400000 in
theorem rsecond_any (a : Int) (w : World) (ha0 : -1152921504606846976 ≤ a) (ha1 : a ≤ 1152921504606846976) :
    Calls Try.prog 35 #[.int .i64 a] w fun e w' => e = .returned (.int .i64 (a / 1048576)) ∧ Ext w w' := by
  go_enter Try.func35, Try.ntmps35
  go_wp2_with (first | (go_at_call 37; refine (below_any _ _ ha0 ha1).mono ?_; rintro e w1 ⟨rfl, hxq⟩; obtain ⟨xq, rfl⟩ := hxq.out; clear hxq))
  go_returns
  exact ⟨rfl, (by repeat (first | (with_reducible first | exact Ext.refl _ | assumption | apply Ext.alloc | apply Ext.ext | apply Ext.drew | refine Ext.setCell ?_ ?_ _) | (focus (simp [go_sem]; done))))⟩

set_option maxHeartbeats 400000 in
theorem rpart_any (a : Int) (w : World) (ha0 : -1152921504606846976 ≤ a) (ha1 : a ≤ 1152921504606846976) :
    Calls Try.prog 36 #[.int .i64 a] w fun e w' => e = .returned (.int .i64 (a % 1048576)) ∧ Ext w w' := by
  have hq : a - a / 1048576 * 1048576 = a % 1048576 := by omega
  have h1 : -2000000000000 ≤ a / 1048576 := by omega
  have h2 : a / 1048576 ≤ 2000000000000 := by omega
  have h3 : 0 ≤ a - a / 1048576 * 1048576 := by omega
  have h4 : a - a / 1048576 * 1048576 < 1048576 := by omega
  have HQ := Lib.hid hq
  clear hq
  go_enter Try.func36, Try.ntmps36
  go_wp2_with (first | (go_at_call 35; refine (rsecond_any _ _ ha0 ha1).mono ?_; rintro e w1 ⟨rfl, hxq⟩; obtain ⟨xq, rfl⟩ := hxq.out; clear hxq))
  go_returns
  exact ⟨by rw [← HQ.out]; rfl, (by repeat (first | (with_reducible first | exact Ext.refl _ | assumption | apply Ext.alloc | apply Ext.ext | apply Ext.drew | refine Ext.setCell ?_ ?_ _) | (focus (simp [go_sem]; done))))⟩

set_option maxHeartbeats 400000 in
theorem rvalid10_any (a : Int) (w : World) :
    Calls Try.prog 34 #[.int .i64 a] w fun e w' => e = .returned (.bool (decide (-1152921504606846976 ≤ a ∧ a ≤ 1152921504606846976))) ∧ Ext w w' := by
  by_cases h1 : -1152921504606846976 ≤ a <;> by_cases h2 : a ≤ 1152921504606846976
  all_goals
    go_enter Try.func34, Try.ntmps34
    go_wp2
    go_returns
    exact ⟨by simp [h1, h2], Ext.refl _⟩
end Go.Proofs.Ytocancjdaefjoaa
