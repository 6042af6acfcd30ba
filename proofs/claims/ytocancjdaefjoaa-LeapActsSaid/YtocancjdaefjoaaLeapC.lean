/- The walks of the program's functions on leap seconds, part three. -/
import Derived.Test.YtocancjdaefjoaaLeapB
namespace Go.Proofs.Ytocancjdaefjoaa
open Go.RowKit Go.Sec Go.Leap BigFrame

set_option maxHeartbeats 1000000 in
theorem check_any (first : Int) (a : Option Addr) (cap : Nat) (L : List (Int × Int)) (s : Int) (w : World) (hT : Tb w a L) :
    Calls Try.prog 30 #[.agg #[.int .i64 first, .slice a L.length cap], .int .i64 s] w fun e w' => e = .returned (.int .i64 (chk first L s)) ∧ Ext w w' := by
  rcases chk_cases first L s with ⟨hv, hc⟩ | ⟨hv, hi, hc⟩ | ⟨hv, hi, hc⟩
  all_goals
    have HC := Lib.hid hc
    clear hc
    go_enter Try.func30, Try.ntmps30
    go_wp2_with (first
      | (go_at_call 14; refine (valid_any _ _ _ _ _ (hT.ext (by repeat (first | (with_reducible first | exact Ext.refl _ | assumption | apply Ext.alloc | apply Ext.ext | apply Ext.drew | refine Ext.setCell ?_ ?_ _) | (focus (simp [go_sem]; done)))))).mono ?_; rintro e w1 ⟨rfl, hxq⟩; obtain ⟨xq, rfl⟩ := hxq.out; clear hxq)
      | (go_at_call 26; refine (in_any _ _).mono ?_; rintro e w1 ⟨rfl, hxq⟩; obtain ⟨xq, rfl⟩ := hxq.out; clear hxq))
    go_returns
    exact ⟨by rw [HC.out]; rfl, (by repeat (first | (with_reducible first | exact Ext.refl _ | assumption | apply Ext.alloc | apply Ext.ext | apply Ext.drew | refine Ext.setCell ?_ ?_ _) | (focus (simp [go_sem]; done))))⟩

set_option maxHeartbeats 1000000 in
theorem Offset_any (first : Int) (a : Option Addr) (cap : Nat) (L : List (Int × Int)) (s : Int) (w : World) (hT : Tb w a L) :
    Calls Try.prog 18 #[.agg #[.int .i64 first, .slice a L.length cap], .int .i64 s] w fun e w' => e = .returned (.tuple #[.int .i64 (offP first L s).1, .int .i64 (offP first L s).2]) ∧ Ext w w' := by
  rcases chk_cases first L s with ⟨hv, hc⟩ | ⟨hv, hi, hc⟩ | ⟨hv, hi, hc⟩
  all_goals
    have HC := Lib.hid hc
    have hc' : (chk first L s != 0) = _ := bne_val (chk first L s) hc
    clear hc
    simp only [Int.reduceBNe] at hc'
    go_enter Try.func18, Try.ntmps18
    go_wp2_with (first
      | (go_at_call 30; refine (check_any _ _ _ _ _ _ (hT.ext (by repeat (first | (with_reducible first | exact Ext.refl _ | assumption | apply Ext.alloc | apply Ext.ext | apply Ext.drew | refine Ext.setCell ?_ ?_ _) | (focus (simp [go_sem]; done)))))).mono ?_; rintro e w1 ⟨rfl, hxq⟩; obtain ⟨xq, rfl⟩ := hxq.out; clear hxq)
      | (go_at_call 28; refine (offset_any _ _ _ _ _ _ (hT.ext (by repeat (first | (with_reducible first | exact Ext.refl _ | assumption | apply Ext.alloc | apply Ext.ext | apply Ext.drew | refine Ext.setCell ?_ ?_ _) | (focus (simp [go_sem]; done)))))).mono ?_; rintro e w1 ⟨rfl, hxq⟩; obtain ⟨xq, rfl⟩ := hxq.out; clear hxq))
    go_returns
    exact ⟨by simp [offP, HC.out], (by repeat (first | (with_reducible first | exact Ext.refl _ | assumption | apply Ext.alloc | apply Ext.ext | apply Ext.drew | refine Ext.setCell ?_ ?_ _) | (focus (simp [go_sem]; done))))⟩

set_option maxHeartbeats 1000000 in
theorem Step_any (first : Int) (a : Option Addr) (cap : Nat) (L : List (Int × Int)) (s : Int) (w : World) (hT : Tb w a L) :
    Calls Try.prog 16 #[.agg #[.int .i64 first, .slice a L.length cap], .int .i64 s] w fun e w' => e = .returned (.tuple #[.int .i64 (stpP first L s).1, .int .i64 (stpP first L s).2]) ∧ Ext w w' := by
  rcases chk_cases first L s with ⟨hv, hc⟩ | ⟨hv, hi, hc⟩ | ⟨hv, hi, hc⟩
  all_goals
    have HC := Lib.hid hc
    have hc' : (chk first L s != 0) = _ := bne_val (chk first L s) hc
    clear hc
    simp only [Int.reduceBNe] at hc'
    try have hi' := inB_iff.1 hi
    go_enter Try.func16, Try.ntmps16
    go_wp2_with (first
      | (go_at_call 30; refine (check_any _ _ _ _ _ _ (hT.ext (by repeat (first | (with_reducible first | exact Ext.refl _ | assumption | apply Ext.alloc | apply Ext.ext | apply Ext.drew | refine Ext.setCell ?_ ?_ _) | (focus (simp [go_sem]; done)))))).mono ?_; rintro e w1 ⟨rfl, hxq⟩; obtain ⟨xq, rfl⟩ := hxq.out; clear hxq)
      | (go_at_call 27; refine (step_any _ _ _ _ _ _ (by omega) (by omega) (hT.ext (by repeat (first | (with_reducible first | exact Ext.refl _ | assumption | apply Ext.alloc | apply Ext.ext | apply Ext.drew | refine Ext.setCell ?_ ?_ _) | (focus (simp [go_sem]; done))))) hv).mono ?_; rintro e w1 ⟨rfl, hxq⟩; obtain ⟨xq, rfl⟩ := hxq.out; clear hxq))
    go_returns
    exact ⟨by simp [stpP, HC.out], (by repeat (first | (with_reducible first | exact Ext.refl _ | assumption | apply Ext.alloc | apply Ext.ext | apply Ext.drew | refine Ext.setCell ?_ ?_ _) | (focus (simp [go_sem]; done))))⟩

theorem in_of {s : Int} (h : inB s = true) : 0 ≤ s ∧ s ≤ 274877906944 := inB_iff.1 h

set_option maxHeartbeats 2000000 in
theorem TAI_any (first : Int) (a : Option Addr) (cap : Nat) (L : List (Int × Int)) (s : Int) (lp : Bool) (tk : Int) (w : World) (hT : Tb w a L) :
    Calls Try.prog 12 #[.agg #[.int .i64 first, .slice a L.length cap], .agg #[.int .i64 s, .bool lp, .int .i64 tk]] w fun e w' => e = .returned (.tuple #[.int .i64 (taiP first L s lp tk).1, .int .i64 (taiP first L s lp tk).2]) ∧ Ext w w' := by
  rcases chk_cases first L s with ⟨hv, hc⟩ | ⟨hv, hi, hc⟩ | ⟨hv, hi, hc⟩
  case inr.inr =>
    have hi' := in_of hi
    have ho := offs_at hv s
    have hc' : (chk first L s != 0) = _ := bne_val (chk first L s) hc
    simp only [Int.reduceBNe] at hc'
    by_cases ht : tk < 0
    · have HR := Lib.hid (show taiP first L s lp tk = (0, 4) by simp [taiP, hc, ht])
      clear hc
      go_enter Try.func12, Try.ntmps12
      go_wp2_with (first
        | (go_at_call 30; refine (check_any _ _ _ _ _ _ (hT.ext (by repeat (first | (with_reducible first | exact Ext.refl _ | assumption | apply Ext.alloc | apply Ext.ext | apply Ext.drew | refine Ext.setCell ?_ ?_ _) | (focus (simp [go_sem]; done)))))).mono ?_; rintro e w1 ⟨rfl, hxq⟩; obtain ⟨xq, rfl⟩ := hxq.out; clear hxq))
      go_returns
      exact ⟨by rw [HR.out]; rfl, (by repeat (first | (with_reducible first | exact Ext.refl _ | assumption | apply Ext.alloc | apply Ext.ext | apply Ext.drew | refine Ext.setCell ?_ ?_ _) | (focus (simp [go_sem]; done))))⟩
    by_cases ht2 : tk < 1048576
    case neg =>
      have HR := Lib.hid (show taiP first L s lp tk = (0, 4) by simp [taiP, hc, Int.not_lt.1 ht2])
      clear hc
      go_enter Try.func12, Try.ntmps12
      go_wp2_with (first
        | (go_at_call 30; refine (check_any _ _ _ _ _ _ (hT.ext (by repeat (first | (with_reducible first | exact Ext.refl _ | assumption | apply Ext.alloc | apply Ext.ext | apply Ext.drew | refine Ext.setCell ?_ ?_ _) | (focus (simp [go_sem]; done)))))).mono ?_; rintro e w1 ⟨rfl, hxq⟩; obtain ⟨xq, rfl⟩ := hxq.out; clear hxq))
      go_returns
      exact ⟨by rw [HR.out]; rfl, (by repeat (first | (with_reducible first | exact Ext.refl _ | assumption | apply Ext.alloc | apply Ext.ext | apply Ext.drew | refine Ext.setCell ?_ ?_ _) | (focus (simp [go_sem]; done))))⟩
    case pos =>
      have hd := stp_small first L (vldB_iff.1 hv).2.2.2 s
      have ht1 := Int.not_lt.1 ht
      rcases hd with hd | hd | hd <;> cases lp
      · have HR := Lib.hid (show taiP first L s false tk = (0, 10) by simp [taiP, hc, hd, ht, Int.not_le.2 ht2])
        have hd1 : (stp first L s == -1) = _ := beq_val (stp first L s) hd
        have hd2 : (stp first L s != 1) = _ := bne_val (stp first L s) hd
        simp only [Int.reduceBNe, Int.reduceBEq] at hd1 hd2
        clear hc hd
        go_enter Try.func12, Try.ntmps12
        go_wp2_with (first
          | (go_at_call 30; refine (check_any _ _ _ _ _ _ (hT.ext (by repeat (first | (with_reducible first | exact Ext.refl _ | assumption | apply Ext.alloc | apply Ext.ext | apply Ext.drew | refine Ext.setCell ?_ ?_ _) | (focus (simp [go_sem]; done)))))).mono ?_; rintro e w1 ⟨rfl, hxq⟩; obtain ⟨xq, rfl⟩ := hxq.out; clear hxq))
        (refine wp_region_ext (by kernel_rfl) (by kernel_rfl) ?_; (repeat (go_big_quiet_step (((go_at_call 28; exact Calls.inExt (offset_any _ _ _ _ _ _ (hT.ext (by repeat (first | (with_reducible first | exact Ext.refl _ | assumption | apply Ext.alloc | apply Ext.ext | apply Ext.drew | refine Ext.setCell ?_ ?_ _) | (focus (simp [go_sem]; done))))))))))); refine wpQuiet_nil ?_; rintro _ ⟨xq, rfl⟩)
        go_wp2_with (first
          | (go_at_call 27; refine (step_any _ _ _ _ _ _ (by omega) (by omega) (hT.ext (by repeat (first | (with_reducible first | exact Ext.refl _ | assumption | apply Ext.alloc | apply Ext.ext | apply Ext.drew | refine Ext.setCell ?_ ?_ _) | (focus (simp [go_sem]; done))))) hv).mono ?_; rintro e w1 ⟨rfl, hxq⟩; obtain ⟨xq, rfl⟩ := hxq.out; clear hxq))
        go_returns
        exact ⟨by rw [HR.out]; rfl, (by repeat (first | (with_reducible first | exact Ext.refl _ | assumption | apply Ext.alloc | apply Ext.ext | apply Ext.drew | refine Ext.setCell ?_ ?_ _) | (focus (simp [go_sem]; done))))⟩
      · have HR := Lib.hid (show taiP first L s true tk = (0, 10) by simp [taiP, hc, hd, ht, Int.not_le.2 ht2])
        have hd1 : (stp first L s == -1) = _ := beq_val (stp first L s) hd
        have hd2 : (stp first L s != 1) = _ := bne_val (stp first L s) hd
        simp only [Int.reduceBNe, Int.reduceBEq] at hd1 hd2
        clear hc hd
        go_enter Try.func12, Try.ntmps12
        go_wp2_with (first
          | (go_at_call 30; refine (check_any _ _ _ _ _ _ (hT.ext (by repeat (first | (with_reducible first | exact Ext.refl _ | assumption | apply Ext.alloc | apply Ext.ext | apply Ext.drew | refine Ext.setCell ?_ ?_ _) | (focus (simp [go_sem]; done)))))).mono ?_; rintro e w1 ⟨rfl, hxq⟩; obtain ⟨xq, rfl⟩ := hxq.out; clear hxq))
        (refine wp_region_ext (by kernel_rfl) (by kernel_rfl) ?_; (repeat (go_big_quiet_step (((go_at_call 28; exact Calls.inExt (offset_any _ _ _ _ _ _ (hT.ext (by repeat (first | (with_reducible first | exact Ext.refl _ | assumption | apply Ext.alloc | apply Ext.ext | apply Ext.drew | refine Ext.setCell ?_ ?_ _) | (focus (simp [go_sem]; done))))))))))); refine wpQuiet_nil ?_; rintro _ ⟨xq, rfl⟩)
        go_wp2_with (first
          | (go_at_call 27; refine (step_any _ _ _ _ _ _ (by omega) (by omega) (hT.ext (by repeat (first | (with_reducible first | exact Ext.refl _ | assumption | apply Ext.alloc | apply Ext.ext | apply Ext.drew | refine Ext.setCell ?_ ?_ _) | (focus (simp [go_sem]; done))))) hv).mono ?_; rintro e w1 ⟨rfl, hxq⟩; obtain ⟨xq, rfl⟩ := hxq.out; clear hxq))
        go_returns
        exact ⟨by rw [HR.out]; rfl, (by repeat (first | (with_reducible first | exact Ext.refl _ | assumption | apply Ext.alloc | apply Ext.ext | apply Ext.drew | refine Ext.setCell ?_ ?_ _) | (focus (simp [go_sem]; done))))⟩
      · have HR := Lib.hid (show taiP first L s false tk = ((s + offs first L s) * 1048576 + tk, 0) by simp [taiP, hc, hd, ht, Int.not_le.2 ht2])
        have hd1 : (stp first L s == -1) = _ := beq_val (stp first L s) hd
        have hd2 : (stp first L s != 1) = _ := bne_val (stp first L s) hd
        simp only [Int.reduceBNe, Int.reduceBEq] at hd1 hd2
        clear hc hd
        go_enter Try.func12, Try.ntmps12
        go_wp2_with (first
          | (go_at_call 30; refine (check_any _ _ _ _ _ _ (hT.ext (by repeat (first | (with_reducible first | exact Ext.refl _ | assumption | apply Ext.alloc | apply Ext.ext | apply Ext.drew | refine Ext.setCell ?_ ?_ _) | (focus (simp [go_sem]; done)))))).mono ?_; rintro e w1 ⟨rfl, hxq⟩; obtain ⟨xq, rfl⟩ := hxq.out; clear hxq))
        (refine wp_region_ext (by kernel_rfl) (by kernel_rfl) ?_; (repeat (go_big_quiet_step (((go_at_call 28; exact Calls.inExt (offset_any _ _ _ _ _ _ (hT.ext (by repeat (first | (with_reducible first | exact Ext.refl _ | assumption | apply Ext.alloc | apply Ext.ext | apply Ext.drew | refine Ext.setCell ?_ ?_ _) | (focus (simp [go_sem]; done))))))))))); refine wpQuiet_nil ?_; rintro _ ⟨xq, rfl⟩)
        go_wp2_with (first
          | (go_at_call 27; refine (step_any _ _ _ _ _ _ (by omega) (by omega) (hT.ext (by repeat (first | (with_reducible first | exact Ext.refl _ | assumption | apply Ext.alloc | apply Ext.ext | apply Ext.drew | refine Ext.setCell ?_ ?_ _) | (focus (simp [go_sem]; done))))) hv).mono ?_; rintro e w1 ⟨rfl, hxq⟩; obtain ⟨xq, rfl⟩ := hxq.out; clear hxq))
        go_returns
        exact ⟨by rw [HR.out]; rfl, (by repeat (first | (with_reducible first | exact Ext.refl _ | assumption | apply Ext.alloc | apply Ext.ext | apply Ext.drew | refine Ext.setCell ?_ ?_ _) | (focus (simp [go_sem]; done))))⟩
      · have HR := Lib.hid (show taiP first L s true tk = (0, 10) by simp [taiP, hc, hd, ht, Int.not_le.2 ht2])
        have hd1 : (stp first L s == -1) = _ := beq_val (stp first L s) hd
        have hd2 : (stp first L s != 1) = _ := bne_val (stp first L s) hd
        simp only [Int.reduceBNe, Int.reduceBEq] at hd1 hd2
        clear hc hd
        go_enter Try.func12, Try.ntmps12
        go_wp2_with (first
          | (go_at_call 30; refine (check_any _ _ _ _ _ _ (hT.ext (by repeat (first | (with_reducible first | exact Ext.refl _ | assumption | apply Ext.alloc | apply Ext.ext | apply Ext.drew | refine Ext.setCell ?_ ?_ _) | (focus (simp [go_sem]; done)))))).mono ?_; rintro e w1 ⟨rfl, hxq⟩; obtain ⟨xq, rfl⟩ := hxq.out; clear hxq))
        (refine wp_region_ext (by kernel_rfl) (by kernel_rfl) ?_; (repeat (go_big_quiet_step (((go_at_call 28; exact Calls.inExt (offset_any _ _ _ _ _ _ (hT.ext (by repeat (first | (with_reducible first | exact Ext.refl _ | assumption | apply Ext.alloc | apply Ext.ext | apply Ext.drew | refine Ext.setCell ?_ ?_ _) | (focus (simp [go_sem]; done))))))))))); refine wpQuiet_nil ?_; rintro _ ⟨xq, rfl⟩)
        go_wp2_with (first
          | (go_at_call 27; refine (step_any _ _ _ _ _ _ (by omega) (by omega) (hT.ext (by repeat (first | (with_reducible first | exact Ext.refl _ | assumption | apply Ext.alloc | apply Ext.ext | apply Ext.drew | refine Ext.setCell ?_ ?_ _) | (focus (simp [go_sem]; done))))) hv).mono ?_; rintro e w1 ⟨rfl, hxq⟩; obtain ⟨xq, rfl⟩ := hxq.out; clear hxq))
        go_returns
        exact ⟨by rw [HR.out]; rfl, (by repeat (first | (with_reducible first | exact Ext.refl _ | assumption | apply Ext.alloc | apply Ext.ext | apply Ext.drew | refine Ext.setCell ?_ ?_ _) | (focus (simp [go_sem]; done))))⟩
      · have HR := Lib.hid (show taiP first L s false tk = ((s + offs first L s) * 1048576 + tk, 0) by simp [taiP, hc, hd, ht, Int.not_le.2 ht2])
        have hd1 : (stp first L s == -1) = _ := beq_val (stp first L s) hd
        have hd2 : (stp first L s != 1) = _ := bne_val (stp first L s) hd
        simp only [Int.reduceBNe, Int.reduceBEq] at hd1 hd2
        clear hc hd
        go_enter Try.func12, Try.ntmps12
        go_wp2_with (first
          | (go_at_call 30; refine (check_any _ _ _ _ _ _ (hT.ext (by repeat (first | (with_reducible first | exact Ext.refl _ | assumption | apply Ext.alloc | apply Ext.ext | apply Ext.drew | refine Ext.setCell ?_ ?_ _) | (focus (simp [go_sem]; done)))))).mono ?_; rintro e w1 ⟨rfl, hxq⟩; obtain ⟨xq, rfl⟩ := hxq.out; clear hxq))
        (refine wp_region_ext (by kernel_rfl) (by kernel_rfl) ?_; (repeat (go_big_quiet_step (((go_at_call 28; exact Calls.inExt (offset_any _ _ _ _ _ _ (hT.ext (by repeat (first | (with_reducible first | exact Ext.refl _ | assumption | apply Ext.alloc | apply Ext.ext | apply Ext.drew | refine Ext.setCell ?_ ?_ _) | (focus (simp [go_sem]; done))))))))))); refine wpQuiet_nil ?_; rintro _ ⟨xq, rfl⟩)
        go_wp2_with (first
          | (go_at_call 27; refine (step_any _ _ _ _ _ _ (by omega) (by omega) (hT.ext (by repeat (first | (with_reducible first | exact Ext.refl _ | assumption | apply Ext.alloc | apply Ext.ext | apply Ext.drew | refine Ext.setCell ?_ ?_ _) | (focus (simp [go_sem]; done))))) hv).mono ?_; rintro e w1 ⟨rfl, hxq⟩; obtain ⟨xq, rfl⟩ := hxq.out; clear hxq))
        go_returns
        exact ⟨by rw [HR.out]; rfl, (by repeat (first | (with_reducible first | exact Ext.refl _ | assumption | apply Ext.alloc | apply Ext.ext | apply Ext.drew | refine Ext.setCell ?_ ?_ _) | (focus (simp [go_sem]; done))))⟩
      · have HR := Lib.hid (show taiP first L s true tk = ((s + offs first L s + 1) * 1048576 + tk, 0) by simp [taiP, hc, hd, ht, Int.not_le.2 ht2])
        have hd1 : (stp first L s == -1) = _ := beq_val (stp first L s) hd
        have hd2 : (stp first L s != 1) = _ := bne_val (stp first L s) hd
        simp only [Int.reduceBNe, Int.reduceBEq] at hd1 hd2
        clear hc hd
        go_enter Try.func12, Try.ntmps12
        go_wp2_with (first
          | (go_at_call 30; refine (check_any _ _ _ _ _ _ (hT.ext (by repeat (first | (with_reducible first | exact Ext.refl _ | assumption | apply Ext.alloc | apply Ext.ext | apply Ext.drew | refine Ext.setCell ?_ ?_ _) | (focus (simp [go_sem]; done)))))).mono ?_; rintro e w1 ⟨rfl, hxq⟩; obtain ⟨xq, rfl⟩ := hxq.out; clear hxq))
        (refine wp_region_ext (by kernel_rfl) (by kernel_rfl) ?_; (repeat (go_big_quiet_step (((go_at_call 28; exact Calls.inExt (offset_any _ _ _ _ _ _ (hT.ext (by repeat (first | (with_reducible first | exact Ext.refl _ | assumption | apply Ext.alloc | apply Ext.ext | apply Ext.drew | refine Ext.setCell ?_ ?_ _) | (focus (simp [go_sem]; done))))))))))); refine wpQuiet_nil ?_; rintro _ ⟨xq, rfl⟩)
        go_wp2_with (first
          | (go_at_call 27; refine (step_any _ _ _ _ _ _ (by omega) (by omega) (hT.ext (by repeat (first | (with_reducible first | exact Ext.refl _ | assumption | apply Ext.alloc | apply Ext.ext | apply Ext.drew | refine Ext.setCell ?_ ?_ _) | (focus (simp [go_sem]; done))))) hv).mono ?_; rintro e w1 ⟨rfl, hxq⟩; obtain ⟨xq, rfl⟩ := hxq.out; clear hxq))
        go_returns
        exact ⟨by rw [HR.out]; rfl, (by repeat (first | (with_reducible first | exact Ext.refl _ | assumption | apply Ext.alloc | apply Ext.ext | apply Ext.drew | refine Ext.setCell ?_ ?_ _) | (focus (simp [go_sem]; done))))⟩
  all_goals
    have hc' : (chk first L s != 0) = _ := bne_val (chk first L s) hc
    simp only [Int.reduceBNe] at hc'
    have HR := Lib.hid (show taiP first L s lp tk = (0, chk first L s) by simp [taiP, hc])
    clear hc
    go_enter Try.func12, Try.ntmps12
    go_wp2_with (first
      | (go_at_call 30; refine (check_any _ _ _ _ _ _ (hT.ext (by repeat (first | (with_reducible first | exact Ext.refl _ | assumption | apply Ext.alloc | apply Ext.ext | apply Ext.drew | refine Ext.setCell ?_ ?_ _) | (focus (simp [go_sem]; done)))))).mono ?_; rintro e w1 ⟨rfl, hxq⟩; obtain ⟨xq, rfl⟩ := hxq.out; clear hxq))
    go_returns
    exact ⟨by rw [HR.out]; rfl, (by repeat (first | (with_reducible first | exact Ext.refl _ | assumption | apply Ext.alloc | apply Ext.ext | apply Ext.drew | refine Ext.setCell ?_ ?_ _) | (focus (simp [go_sem]; done))))⟩

end Go.Proofs.Ytocancjdaefjoaa
