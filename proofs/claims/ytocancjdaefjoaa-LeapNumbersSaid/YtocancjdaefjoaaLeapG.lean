/- The laws on readings, numbers and offsets. -/
import Derived.Test.YtocancjdaefjoaaLeapF
import Derived.Test.YtocancjdaefjoaaLeapPure2
namespace Go.Proofs.Ytocancjdaefjoaa
open Go.RowKit Go.Sec Go.Leap BigFrame

set_option maxHeartbeats 4000000 in
theorem numbers_walk (a0 : Option Addr) (len0 cap0 : Nat) (z0 : List Int) (a1 : Int) (w : World) (w0 : IsRow .i64 w a0 len0 cap0 z0) :
    Calls Try.prog 6 #[.slice a0 len0 cap0, .int .i64 a1] w fun e w' => e = .returned (.bool true) ∧ Below w.heap.size w w' := by
  have hI := Ints.of_row w0
  go_enter Try.func6, Try.ntmps6
  go_wp2_with fail
  refine (leaps_any _ _ _ _ hI).mono ?_
  rintro e w1 ⟨T, a', o, sa, sc, hM, hl4, rfl, hT, hxq⟩
  obtain ⟨xq, rfl⟩ := hxq.out
  clear hxq
  go_wp2_with (first | (go_at_call 10; refine (near_any _ _ _ _ _ _ _ hM (hT.ext (by repeat (first | (with_reducible first | exact Ext.refl _ | assumption | apply Ext.alloc | apply Ext.ext | apply Ext.drew | refine Ext.setCell ?_ ?_ _) | (focus (simp [go_sem]; done)))))).mono ?_; rintro e w1 ⟨rfl, hxq⟩; obtain ⟨xq, rfl⟩ := hxq.out; clear hxq))
  obtain ⟨ht0, ht1⟩ := near_bd hM a1
  generalize nearP T a1 = t at *
  have hv := hM.vldB
  obtain ⟨s, lp, hu, hR, hi, -⟩ := utc_fine 10 T hv t ht0 (by omega)
  have hn := num_of_read hv hR hi
  have hs := stpP_ok hv hi
  have hns : stp 10 T s ≠ -1 := by unfold Leap.Read at hR; omega
  have hlp : lp = true → stp 10 T s = 1 := by unfold Leap.Read at hR; rcases hR with h | h <;> simp [h]
  have hss : stp 10 T s = 0 ∨ stp 10 T s = 1 := by
    have := stp_small 10 T (okv hv) s
    omega
  have HU := Lib.hid hu
  have HN := Lib.hid hn
  have HS := Lib.hid hs
  clear hu hn hs hR hns
  generalize t % 1048576 = tk at *
  generalize stp 10 T s = d at *
  rcases hss with rfl | rfl <;> cases lp
  case inl.true => exact absurd (hlp rfl) (by decide)
  all_goals
    simp only [if_true, if_false, Bool.false_eq_true, Int.reduceEq, Int.sub_zero, Int.add_zero, Int.sub_add_cancel] at HN
    refine (UTC_any _ _ _ _ _ _ (hT.ext (by repeat (first | (with_reducible first | exact Ext.refl _ | assumption | apply Ext.alloc | apply Ext.ext | apply Ext.drew | refine Ext.setCell ?_ ?_ _) | (focus (simp [go_sem]; done))))) (by omega) (by omega)).mono ?_
    rw [HU.out]
    rintro e w1 ⟨rfl, hxq⟩
    obtain ⟨xq, rfl⟩ := hxq.out
    clear hxq
    go_wp2_with fail
    refine (Number_any _ _ _ _ _ _ _ (hT.ext (by repeat (first | (with_reducible first | exact Ext.refl _ | assumption | apply Ext.alloc | apply Ext.ext | apply Ext.drew | refine Ext.setCell ?_ ?_ _) | (focus (simp [go_sem]; done)))))).mono ?_
    rw [HN.out]
    rintro e w1 ⟨rfl, hxq⟩
    obtain ⟨xq, rfl⟩ := hxq.out
    clear hxq
    go_wp2_with fail
    refine (Step_any _ _ _ _ _ _ (hT.ext (by repeat (first | (with_reducible first | exact Ext.refl _ | assumption | apply Ext.alloc | apply Ext.ext | apply Ext.drew | refine Ext.setCell ?_ ?_ _) | (focus (simp [go_sem]; done)))))).mono ?_
    rw [HS.out]
    rintro e w1 ⟨rfl, hxq⟩
    obtain ⟨xq, rfl⟩ := hxq.out
    clear hxq
    go_wp2_with (first | (go_at_call 13; refine (known_any _).mono ?_; rintro e w1 ⟨rfl, hxq⟩; obtain ⟨xq, rfl⟩ := hxq.out; clear hxq))
    go_returns
    exact ⟨by first | rfl | (simp; done) | (simp; omega), (by repeat (first | (with_reducible first | exact Ext.refl _ | assumption | apply Ext.alloc | apply Ext.ext | apply Ext.drew | refine Ext.setCell ?_ ?_ _) | (focus (simp [go_sem]; done))))⟩

set_option maxHeartbeats 8000000 in
theorem offsets_walk (a0 : Option Addr) (len0 cap0 : Nat) (z0 : List Int) (a1 a2 : Int) (w : World) (w0 : IsRow .i64 w a0 len0 cap0 z0) :
    Calls Try.prog 8 #[.slice a0 len0 cap0, .int .i64 a1, .int .i64 a2] w fun e w' => e = .returned (.bool true) ∧ Below w.heap.size w w' := by
  have hI := Ints.of_row w0
  go_enter Try.func8, Try.ntmps8
  go_wp2_with fail
  refine (leaps_any _ _ _ _ hI).mono ?_
  rintro e w1 ⟨T, a', o, sa, sc, hM, hl4, rfl, hT, hxq⟩
  obtain ⟨xq, rfl⟩ := hxq.out
  clear hxq
  go_wp2_with fail
  (refine wp_region_ext (by kernel_rfl) (by kernel_rfl) ?_; (repeat (go_big_quiet_step (((go_at_call 10; exact Calls.inExt (near_any _ _ _ _ _ _ _ hM (hT.ext (by repeat (first | (with_reducible first | exact Ext.refl _ | assumption | apply Ext.alloc | apply Ext.ext | apply Ext.drew | refine Ext.setCell ?_ ?_ _) | (focus (simp [go_sem]; done))))))))))); refine wpQuiet_nil ?_; rintro _ ⟨xq, rfl⟩)
  obtain ⟨ht0, ht1⟩ := near_bd hM a1
  obtain ⟨ht2, ht3⟩ := near_bd hM a2
  generalize nearP T a1 = t at *
  generalize nearP T a2 = t' at *
  have hv := hM.vldB
  obtain ⟨s, lp, hu, hR, hi, -⟩ := utc_fine 10 T hv t ht0 (by omega)
  obtain ⟨s', lp', hu', hR', hi', -⟩ := utc_fine 10 T hv t' ht2 (by omega)
  have hib := in_of hi
  have hib' := in_of hi'
  have hob := offs_at hv s
  have hob' := offs_at hv s'
  have hob2 := offs_at hv (s + 1)
  have hi2 : inB (s + 1) = true := inB_iff.2 (by unfold Leap.Read at hR; omega)
  have HU := Lib.hid hu
  have HU' := Lib.hid hu'
  have H1 := Lib.hid (offP_ok hv hi)
  have H2 := Lib.hid (offP_ok hv hi')
  have H3 := Lib.hid (offP_ok hv hi2)
  have H4 := Lib.hid (stpP_ok hv hi)
  have HST := Lib.hid (show stp 10 T s = offs 10 T (s + 1) - offs 10 T s from rfl)
  have hfin : lp = false → lp' = false → t - t' = (s - s' + offs 10 T s - offs 10 T s') * 1048576 + t % 1048576 - t' % 1048576 := by
    intro h h'
    unfold Leap.Read at hR hR'
    subst h h'
    simp at hR hR'
    omega
  have HF := Lib.hid hfin
  clear hu hu' hR hR' hfin
  go_wp2_with fail
  refine (UTC_any _ _ _ _ _ _ (hT.ext (by repeat (first | (with_reducible first | exact Ext.refl _ | assumption | apply Ext.alloc | apply Ext.ext | apply Ext.drew | refine Ext.setCell ?_ ?_ _) | (focus (simp [go_sem]; done))))) (by omega) (by omega)).mono ?_
  rw [HU.out]
  rintro e w1 ⟨rfl, hxq⟩
  obtain ⟨xq, rfl⟩ := hxq.out
  clear hxq
  go_wp2_with fail
  refine (UTC_any _ _ _ _ _ _ (hT.ext (by repeat (first | (with_reducible first | exact Ext.refl _ | assumption | apply Ext.alloc | apply Ext.ext | apply Ext.drew | refine Ext.setCell ?_ ?_ _) | (focus (simp [go_sem]; done))))) (by omega) (by omega)).mono ?_
  rw [HU'.out]
  rintro e w1 ⟨rfl, hxq⟩
  obtain ⟨xq, rfl⟩ := hxq.out
  clear hxq
  go_wp2_with fail
  refine (Offset_any _ _ _ _ _ _ (hT.ext (by repeat (first | (with_reducible first | exact Ext.refl _ | assumption | apply Ext.alloc | apply Ext.ext | apply Ext.drew | refine Ext.setCell ?_ ?_ _) | (focus (simp [go_sem]; done)))))).mono ?_
  rw [H1.out]
  rintro e w1 ⟨rfl, hxq⟩
  obtain ⟨xq, rfl⟩ := hxq.out
  clear hxq
  go_wp2_with fail
  refine (Offset_any _ _ _ _ _ _ (hT.ext (by repeat (first | (with_reducible first | exact Ext.refl _ | assumption | apply Ext.alloc | apply Ext.ext | apply Ext.drew | refine Ext.setCell ?_ ?_ _) | (focus (simp [go_sem]; done)))))).mono ?_
  rw [H2.out]
  rintro e w1 ⟨rfl, hxq⟩
  obtain ⟨xq, rfl⟩ := hxq.out
  clear hxq
  go_wp2_with fail
  refine (Offset_any _ _ _ _ _ _ (hT.ext (by repeat (first | (with_reducible first | exact Ext.refl _ | assumption | apply Ext.alloc | apply Ext.ext | apply Ext.drew | refine Ext.setCell ?_ ?_ _) | (focus (simp [go_sem]; done)))))).mono ?_
  rw [H3.out]
  rintro e w1 ⟨rfl, hxq⟩
  obtain ⟨xq, rfl⟩ := hxq.out
  clear hxq
  go_wp2_with fail
  refine (Step_any _ _ _ _ _ _ (hT.ext (by repeat (first | (with_reducible first | exact Ext.refl _ | assumption | apply Ext.alloc | apply Ext.ext | apply Ext.drew | refine Ext.setCell ?_ ?_ _) | (focus (simp [go_sem]; done)))))).mono ?_
  rw [H4.out, HST.out]
  rintro e w1 ⟨rfl, hxq⟩
  obtain ⟨xq, rfl⟩ := hxq.out
  clear hxq
  generalize offs 10 T s = p at *
  generalize offs 10 T s' = q at *
  generalize offs 10 T (s + 1) = n at *
  have hk0 : 0 ≤ t % 1048576 := by omega
  have hk1 : t % 1048576 < 1048576 := by omega
  have hk2 : 0 ≤ t' % 1048576 := by omega
  have hk3 : t' % 1048576 < 1048576 := by omega
  generalize t % 1048576 = k at *
  generalize t' % 1048576 = k' at *
  cases lp <;> cases lp'
  case false.false =>
    have hq : (t - t' == (s - s' + p - q) * 1048576 + k - k') = true := by rw [beq_iff_eq]; exact HF.out rfl rfl
    go_wp2_with (first | (go_at_call 13; refine (known_any _).mono ?_; rintro e w1 ⟨rfl, hxq⟩; obtain ⟨xq, rfl⟩ := hxq.out; clear hxq))
    go_returns
    exact ⟨by first | rfl | (simp; done) | (simp; omega), (by repeat (first | (with_reducible first | exact Ext.refl _ | assumption | apply Ext.alloc | apply Ext.ext | apply Ext.drew | refine Ext.setCell ?_ ?_ _) | (focus (simp [go_sem]; done))))⟩
  all_goals
    go_wp2_with (first | (go_at_call 13; refine (known_any _).mono ?_; rintro e w1 ⟨rfl, hxq⟩; obtain ⟨xq, rfl⟩ := hxq.out; clear hxq))
    go_returns
    exact ⟨by first | rfl | (simp; done) | (simp; omega), (by repeat (first | (with_reducible first | exact Ext.refl _ | assumption | apply Ext.alloc | apply Ext.ext | apply Ext.drew | refine Ext.setCell ?_ ?_ _) | (focus (simp [go_sem]; done))))⟩

end Go.Proofs.Ytocancjdaefjoaa
