/- The walks of the reference's functions on leap seconds, part three. -/
import Derived.Test.YtocancjdaefjoaaLeapS
import Derived.Test.YtocancjdaefjoaaLeapD
namespace Go.Proofs.Ytocancjdaefjoaa
open Go.RowKit Go.Sec Go.Leap BigFrame

set_option maxHeartbeats 1000000 in
theorem rOffset_any (first : Int) (a : Option Addr) (cap : Nat) (L : List (Int × Int)) (s : Int) (w : World) (hT : Tb w a L) :
    Calls Try.prog 19 #[.agg #[.int .i64 first, .slice a L.length cap], .int .i64 s] w fun e w' => e = .returned (.tuple #[.int .i64 (offP first L s).1, .int .i64 (offP first L s).2]) ∧ Ext w w' := by
  rcases chk_cases first L s with ⟨hv, hc⟩ | ⟨hv, hi, hc⟩ | ⟨hv, hi, hc⟩
  all_goals
    have HR := Lib.hid (show offP first L s = _ by simp only [offP, hc]; rfl)
    clear hc
    go_enter Try.func19, Try.ntmps19
    go_wp2_with (first
      | (go_at_call 24; refine (rvalid_any _ _ _ _ _ (hT.ext (by repeat (first | (with_reducible first | exact Ext.refl _ | assumption | apply Ext.alloc | apply Ext.ext | apply Ext.drew | refine Ext.setCell ?_ ?_ _) | (focus (simp [go_sem]; done)))))).mono ?_; rintro e w1 ⟨rfl, hxq⟩; obtain ⟨xq, rfl⟩ := hxq.out; clear hxq)
      | (go_at_call 31; refine (rin_any _ _).mono ?_; rintro e w1 ⟨rfl, hxq⟩; obtain ⟨xq, rfl⟩ := hxq.out; clear hxq)
      | (go_at_call 32; refine (roffset_any _ _ _ _ _ _ (hT.ext (by repeat (first | (with_reducible first | exact Ext.refl _ | assumption | apply Ext.alloc | apply Ext.ext | apply Ext.drew | refine Ext.setCell ?_ ?_ _) | (focus (simp [go_sem]; done))))) hv).mono ?_; rintro e w1 ⟨rfl, hxq⟩; obtain ⟨xq, rfl⟩ := hxq.out; clear hxq))
    go_returns
    exact ⟨by rw [HR.out]; rfl, (by repeat (first | (with_reducible first | exact Ext.refl _ | assumption | apply Ext.alloc | apply Ext.ext | apply Ext.drew | refine Ext.setCell ?_ ?_ _) | (focus (simp [go_sem]; done))))⟩

set_option maxHeartbeats 1000000 in
theorem rStep_any (first : Int) (a : Option Addr) (cap : Nat) (L : List (Int × Int)) (s : Int) (w : World) (hT : Tb w a L) :
    Calls Try.prog 23 #[.agg #[.int .i64 first, .slice a L.length cap], .int .i64 s] w fun e w' => e = .returned (.tuple #[.int .i64 (stpP first L s).1, .int .i64 (stpP first L s).2]) ∧ Ext w w' := by
  rcases chk_cases first L s with ⟨hv, hc⟩ | ⟨hv, hi, hc⟩ | ⟨hv, hi, hc⟩
  all_goals
    have HR := Lib.hid (show stpP first L s = _ by simp only [stpP, hc]; rfl)
    clear hc
    try have hi' := inB_iff.1 hi
    go_enter Try.func23, Try.ntmps23
    go_wp2_with (first
      | (go_at_call 24; refine (rvalid_any _ _ _ _ _ (hT.ext (by repeat (first | (with_reducible first | exact Ext.refl _ | assumption | apply Ext.alloc | apply Ext.ext | apply Ext.drew | refine Ext.setCell ?_ ?_ _) | (focus (simp [go_sem]; done)))))).mono ?_; rintro e w1 ⟨rfl, hxq⟩; obtain ⟨xq, rfl⟩ := hxq.out; clear hxq)
      | (go_at_call 31; refine (rin_any _ _).mono ?_; rintro e w1 ⟨rfl, hxq⟩; obtain ⟨xq, rfl⟩ := hxq.out; clear hxq)
      | (go_at_call 33; refine (rstep_any _ _ _ _ _ _ (by omega) (by omega) (hT.ext (by repeat (first | (with_reducible first | exact Ext.refl _ | assumption | apply Ext.alloc | apply Ext.ext | apply Ext.drew | refine Ext.setCell ?_ ?_ _) | (focus (simp [go_sem]; done))))) hv).mono ?_; rintro e w1 ⟨rfl, hxq⟩; obtain ⟨xq, rfl⟩ := hxq.out; clear hxq))
    go_returns
    exact ⟨by rw [HR.out]; rfl, (by repeat (first | (with_reducible first | exact Ext.refl _ | assumption | apply Ext.alloc | apply Ext.ext | apply Ext.drew | refine Ext.setCell ?_ ?_ _) | (focus (simp [go_sem]; done))))⟩
theorem taiP_out {f : Int} {L : List (Int × Int)} {s tk : Int} {lp : Bool} (hv : vldB f L = true) (hi : inB s = false) : taiP f L s lp tk = (0, 4) := by simp [taiP, chk_out hv hi]
theorem taiP_bad {f : Int} {L : List (Int × Int)} {s tk : Int} {lp : Bool} (hv : vldB f L = false) : taiP f L s lp tk = (0, 3) := by simp [taiP, chk_bad hv]
theorem taiP_tk {f : Int} {L : List (Int × Int)} {s tk : Int} {lp : Bool} (hv : vldB f L = true) (hi : inB s = true) (h : tk < 0 ∨ 1048576 ≤ tk) : taiP f L s lp tk = (0, 4) := by
  unfold taiP; rw [chk_ok hv hi]; simp only [ne_eq, not_true_eq_false, if_false]; rw [if_pos h]
theorem taiP_fine {f : Int} {L : List (Int × Int)} {s tk : Int} {lp : Bool} (hv : vldB f L = true) (hi : inB s = true) (h0 : 0 ≤ tk) (h1 : tk < 1048576) (h : ¬ (stp f L s = -1 ∨ (lp = true ∧ stp f L s ≠ 1))) :
    taiP f L s lp tk = (((s + offs f L s) + (if lp then 1 else 0)) * 1048576 + tk, 0) := by
  unfold taiP; rw [chk_ok hv hi]; simp only [ne_eq, not_true_eq_false, if_false]; rw [if_neg (by omega), if_neg h]

set_option maxHeartbeats 4000000 in
theorem rTAI_any (first : Int) (a : Option Addr) (cap : Nat) (L : List (Int × Int)) (s : Int) (lp : Bool) (tk : Int) (w : World) (hT : Tb w a L) :
    Calls Try.prog 20 #[.agg #[.int .i64 first, .slice a L.length cap], .agg #[.int .i64 s, .bool lp, .int .i64 tk]] w fun e w' => e = .returned (.tuple #[.int .i64 (taiP first L s lp tk).1, .int .i64 (taiP first L s lp tk).2]) ∧ Ext w w' := by
  cases hv : vldB first L
  case false =>
    have HR := Lib.hid (taiP_bad (s := s) (tk := tk) (lp := lp) hv)
    go_enter Try.func20, Try.ntmps20
    go_wp2_with (first
      | (go_at_call 24; refine (rvalid_any _ _ _ _ _ (hT.ext (by repeat (first | (with_reducible first | exact Ext.refl _ | assumption | apply Ext.alloc | apply Ext.ext | apply Ext.drew | refine Ext.setCell ?_ ?_ _) | (focus (simp [go_sem]; done)))))).mono ?_; rintro e w1 ⟨rfl, hxq⟩; obtain ⟨xq, rfl⟩ := hxq.out; clear hxq))
    go_returns
    exact ⟨by rw [HR.out]; rfl, (by repeat (first | (with_reducible first | exact Ext.refl _ | assumption | apply Ext.alloc | apply Ext.ext | apply Ext.drew | refine Ext.setCell ?_ ?_ _) | (focus (simp [go_sem]; done))))⟩
  cases hi : inB s
  case false =>
    have HR := Lib.hid (taiP_out (tk := tk) (lp := lp) hv hi)
    go_enter Try.func20, Try.ntmps20
    go_wp2_with (first
      | (go_at_call 24; refine (rvalid_any _ _ _ _ _ (hT.ext (by repeat (first | (with_reducible first | exact Ext.refl _ | assumption | apply Ext.alloc | apply Ext.ext | apply Ext.drew | refine Ext.setCell ?_ ?_ _) | (focus (simp [go_sem]; done)))))).mono ?_; rintro e w1 ⟨rfl, hxq⟩; obtain ⟨xq, rfl⟩ := hxq.out; clear hxq)
      | (go_at_call 31; refine (rin_any _ _).mono ?_; rintro e w1 ⟨rfl, hxq⟩; obtain ⟨xq, rfl⟩ := hxq.out; clear hxq))
    go_returns
    exact ⟨by rw [HR.out]; rfl, (by repeat (first | (with_reducible first | exact Ext.refl _ | assumption | apply Ext.alloc | apply Ext.ext | apply Ext.drew | refine Ext.setCell ?_ ?_ _) | (focus (simp [go_sem]; done))))⟩
  have hi' := in_of hi
  have ho := offs_at hv s
  by_cases ht : tk < 0
  · have HR := Lib.hid (taiP_tk (tk := tk) (lp := lp) hv hi (.inl ht))
    go_enter Try.func20, Try.ntmps20
    go_wp2_with (first
      | (go_at_call 24; refine (rvalid_any _ _ _ _ _ (hT.ext (by repeat (first | (with_reducible first | exact Ext.refl _ | assumption | apply Ext.alloc | apply Ext.ext | apply Ext.drew | refine Ext.setCell ?_ ?_ _) | (focus (simp [go_sem]; done)))))).mono ?_; rintro e w1 ⟨rfl, hxq⟩; obtain ⟨xq, rfl⟩ := hxq.out; clear hxq)
      | (go_at_call 31; refine (rin_any _ _).mono ?_; rintro e w1 ⟨rfl, hxq⟩; obtain ⟨xq, rfl⟩ := hxq.out; clear hxq))
    go_returns
    exact ⟨by rw [HR.out]; rfl, (by repeat (first | (with_reducible first | exact Ext.refl _ | assumption | apply Ext.alloc | apply Ext.ext | apply Ext.drew | refine Ext.setCell ?_ ?_ _) | (focus (simp [go_sem]; done))))⟩
  by_cases ht2 : tk < 1048576
  case neg =>
    have HR := Lib.hid (taiP_tk (tk := tk) (lp := lp) hv hi (.inr (by omega)))
    go_enter Try.func20, Try.ntmps20
    go_wp2_with (first
      | (go_at_call 24; refine (rvalid_any _ _ _ _ _ (hT.ext (by repeat (first | (with_reducible first | exact Ext.refl _ | assumption | apply Ext.alloc | apply Ext.ext | apply Ext.drew | refine Ext.setCell ?_ ?_ _) | (focus (simp [go_sem]; done)))))).mono ?_; rintro e w1 ⟨rfl, hxq⟩; obtain ⟨xq, rfl⟩ := hxq.out; clear hxq)
      | (go_at_call 31; refine (rin_any _ _).mono ?_; rintro e w1 ⟨rfl, hxq⟩; obtain ⟨xq, rfl⟩ := hxq.out; clear hxq))
    go_returns
    exact ⟨by rw [HR.out]; rfl, (by repeat (first | (with_reducible first | exact Ext.refl _ | assumption | apply Ext.alloc | apply Ext.ext | apply Ext.drew | refine Ext.setCell ?_ ?_ _) | (focus (simp [go_sem]; done))))⟩
  case pos =>
    rcases stp_small first L (vldB_iff.1 hv).2.2.2 s with hd | hd | hd <;> cases lp
    · have HR := Lib.hid (show taiP first L s false tk = (0, 10) by exact tai_none hv hi (by omega) ht2 (by rw [hd]; decide))
      have hd1 : (stp first L s == -1) = true := by rw [hd]; decide
      have hd2 : (stp first L s != 1) = true := by rw [hd]; decide
      clear hd
      go_enter Try.func20, Try.ntmps20
      go_wp2_with (first
        | (go_at_call 24; refine (rvalid_any _ _ _ _ _ (hT.ext (by repeat (first | (with_reducible first | exact Ext.refl _ | assumption | apply Ext.alloc | apply Ext.ext | apply Ext.drew | refine Ext.setCell ?_ ?_ _) | (focus (simp [go_sem]; done)))))).mono ?_; rintro e w1 ⟨rfl, hxq⟩; obtain ⟨xq, rfl⟩ := hxq.out; clear hxq)
        | (go_at_call 31; refine (rin_any _ _).mono ?_; rintro e w1 ⟨rfl, hxq⟩; obtain ⟨xq, rfl⟩ := hxq.out; clear hxq)
        | (go_at_call 33; refine (rstep_any _ _ _ _ _ _ (by omega) (by omega) (hT.ext (by repeat (first | (with_reducible first | exact Ext.refl _ | assumption | apply Ext.alloc | apply Ext.ext | apply Ext.drew | refine Ext.setCell ?_ ?_ _) | (focus (simp [go_sem]; done))))) hv).mono ?_; rintro e w1 ⟨rfl, hxq⟩; obtain ⟨xq, rfl⟩ := hxq.out; clear hxq))
      go_returns
      exact ⟨by rw [HR.out]; rfl, (by repeat (first | (with_reducible first | exact Ext.refl _ | assumption | apply Ext.alloc | apply Ext.ext | apply Ext.drew | refine Ext.setCell ?_ ?_ _) | (focus (simp [go_sem]; done))))⟩
    · have HR := Lib.hid (show taiP first L s true tk = (0, 10) by exact tai_none hv hi (by omega) ht2 (by rw [hd]; decide))
      have hd1 : (stp first L s == -1) = true := by rw [hd]; decide
      have hd2 : (stp first L s != 1) = true := by rw [hd]; decide
      clear hd
      go_enter Try.func20, Try.ntmps20
      go_wp2_with (first
        | (go_at_call 24; refine (rvalid_any _ _ _ _ _ (hT.ext (by repeat (first | (with_reducible first | exact Ext.refl _ | assumption | apply Ext.alloc | apply Ext.ext | apply Ext.drew | refine Ext.setCell ?_ ?_ _) | (focus (simp [go_sem]; done)))))).mono ?_; rintro e w1 ⟨rfl, hxq⟩; obtain ⟨xq, rfl⟩ := hxq.out; clear hxq)
        | (go_at_call 31; refine (rin_any _ _).mono ?_; rintro e w1 ⟨rfl, hxq⟩; obtain ⟨xq, rfl⟩ := hxq.out; clear hxq)
        | (go_at_call 33; refine (rstep_any _ _ _ _ _ _ (by omega) (by omega) (hT.ext (by repeat (first | (with_reducible first | exact Ext.refl _ | assumption | apply Ext.alloc | apply Ext.ext | apply Ext.drew | refine Ext.setCell ?_ ?_ _) | (focus (simp [go_sem]; done))))) hv).mono ?_; rintro e w1 ⟨rfl, hxq⟩; obtain ⟨xq, rfl⟩ := hxq.out; clear hxq))
      go_returns
      exact ⟨by rw [HR.out]; rfl, (by repeat (first | (with_reducible first | exact Ext.refl _ | assumption | apply Ext.alloc | apply Ext.ext | apply Ext.drew | refine Ext.setCell ?_ ?_ _) | (focus (simp [go_sem]; done))))⟩
    · have HR := Lib.hid (show taiP first L s false tk = ((s + offs first L s) * 1048576 + tk, 0) by rw [taiP_fine hv hi (by omega) ht2 (by rw [hd]; decide)]; simp)
      have hd1 : (stp first L s == -1) = false := by rw [hd]; decide
      have hd2 : (stp first L s != 1) = true := by rw [hd]; decide
      clear hd
      go_enter Try.func20, Try.ntmps20
      go_wp2_with (first
        | (go_at_call 24; refine (rvalid_any _ _ _ _ _ (hT.ext (by repeat (first | (with_reducible first | exact Ext.refl _ | assumption | apply Ext.alloc | apply Ext.ext | apply Ext.drew | refine Ext.setCell ?_ ?_ _) | (focus (simp [go_sem]; done)))))).mono ?_; rintro e w1 ⟨rfl, hxq⟩; obtain ⟨xq, rfl⟩ := hxq.out; clear hxq)
        | (go_at_call 31; refine (rin_any _ _).mono ?_; rintro e w1 ⟨rfl, hxq⟩; obtain ⟨xq, rfl⟩ := hxq.out; clear hxq)
        | (go_at_call 33; refine (rstep_any _ _ _ _ _ _ (by omega) (by omega) (hT.ext (by repeat (first | (with_reducible first | exact Ext.refl _ | assumption | apply Ext.alloc | apply Ext.ext | apply Ext.drew | refine Ext.setCell ?_ ?_ _) | (focus (simp [go_sem]; done))))) hv).mono ?_; rintro e w1 ⟨rfl, hxq⟩; obtain ⟨xq, rfl⟩ := hxq.out; clear hxq))
      (refine wp_region_ext (by kernel_rfl) (by kernel_rfl) ?_; (repeat (go_big_quiet_step (((go_at_call 32; exact Calls.inExt (roffset_any _ _ _ _ _ _ (hT.ext (by repeat (first | (with_reducible first | exact Ext.refl _ | assumption | apply Ext.alloc | apply Ext.ext | apply Ext.drew | refine Ext.setCell ?_ ?_ _) | (focus (simp [go_sem]; done))))) hv)))))); refine wpQuiet_nil ?_; rintro _ ⟨xq, rfl⟩)
      go_wp2_with fail
      go_returns
      exact ⟨by rw [HR.out]; rfl, (by repeat (first | (with_reducible first | exact Ext.refl _ | assumption | apply Ext.alloc | apply Ext.ext | apply Ext.drew | refine Ext.setCell ?_ ?_ _) | (focus (simp [go_sem]; done))))⟩
    · have HR := Lib.hid (show taiP first L s true tk = (0, 10) by exact tai_none hv hi (by omega) ht2 (by rw [hd]; decide))
      have hd1 : (stp first L s == -1) = false := by rw [hd]; decide
      have hd2 : (stp first L s != 1) = true := by rw [hd]; decide
      clear hd
      go_enter Try.func20, Try.ntmps20
      go_wp2_with (first
        | (go_at_call 24; refine (rvalid_any _ _ _ _ _ (hT.ext (by repeat (first | (with_reducible first | exact Ext.refl _ | assumption | apply Ext.alloc | apply Ext.ext | apply Ext.drew | refine Ext.setCell ?_ ?_ _) | (focus (simp [go_sem]; done)))))).mono ?_; rintro e w1 ⟨rfl, hxq⟩; obtain ⟨xq, rfl⟩ := hxq.out; clear hxq)
        | (go_at_call 31; refine (rin_any _ _).mono ?_; rintro e w1 ⟨rfl, hxq⟩; obtain ⟨xq, rfl⟩ := hxq.out; clear hxq)
        | (go_at_call 33; refine (rstep_any _ _ _ _ _ _ (by omega) (by omega) (hT.ext (by repeat (first | (with_reducible first | exact Ext.refl _ | assumption | apply Ext.alloc | apply Ext.ext | apply Ext.drew | refine Ext.setCell ?_ ?_ _) | (focus (simp [go_sem]; done))))) hv).mono ?_; rintro e w1 ⟨rfl, hxq⟩; obtain ⟨xq, rfl⟩ := hxq.out; clear hxq))
      go_returns
      exact ⟨by rw [HR.out]; rfl, (by repeat (first | (with_reducible first | exact Ext.refl _ | assumption | apply Ext.alloc | apply Ext.ext | apply Ext.drew | refine Ext.setCell ?_ ?_ _) | (focus (simp [go_sem]; done))))⟩
    · have HR := Lib.hid (show taiP first L s false tk = ((s + offs first L s) * 1048576 + tk, 0) by rw [taiP_fine hv hi (by omega) ht2 (by rw [hd]; decide)]; simp)
      have hd1 : (stp first L s == -1) = false := by rw [hd]; decide
      have hd2 : (stp first L s != 1) = false := by rw [hd]; decide
      clear hd
      go_enter Try.func20, Try.ntmps20
      go_wp2_with (first
        | (go_at_call 24; refine (rvalid_any _ _ _ _ _ (hT.ext (by repeat (first | (with_reducible first | exact Ext.refl _ | assumption | apply Ext.alloc | apply Ext.ext | apply Ext.drew | refine Ext.setCell ?_ ?_ _) | (focus (simp [go_sem]; done)))))).mono ?_; rintro e w1 ⟨rfl, hxq⟩; obtain ⟨xq, rfl⟩ := hxq.out; clear hxq)
        | (go_at_call 31; refine (rin_any _ _).mono ?_; rintro e w1 ⟨rfl, hxq⟩; obtain ⟨xq, rfl⟩ := hxq.out; clear hxq)
        | (go_at_call 33; refine (rstep_any _ _ _ _ _ _ (by omega) (by omega) (hT.ext (by repeat (first | (with_reducible first | exact Ext.refl _ | assumption | apply Ext.alloc | apply Ext.ext | apply Ext.drew | refine Ext.setCell ?_ ?_ _) | (focus (simp [go_sem]; done))))) hv).mono ?_; rintro e w1 ⟨rfl, hxq⟩; obtain ⟨xq, rfl⟩ := hxq.out; clear hxq))
      (refine wp_region_ext (by kernel_rfl) (by kernel_rfl) ?_; (repeat (go_big_quiet_step (((go_at_call 32; exact Calls.inExt (roffset_any _ _ _ _ _ _ (hT.ext (by repeat (first | (with_reducible first | exact Ext.refl _ | assumption | apply Ext.alloc | apply Ext.ext | apply Ext.drew | refine Ext.setCell ?_ ?_ _) | (focus (simp [go_sem]; done))))) hv)))))); refine wpQuiet_nil ?_; rintro _ ⟨xq, rfl⟩)
      go_wp2_with fail
      go_returns
      exact ⟨by rw [HR.out]; rfl, (by repeat (first | (with_reducible first | exact Ext.refl _ | assumption | apply Ext.alloc | apply Ext.ext | apply Ext.drew | refine Ext.setCell ?_ ?_ _) | (focus (simp [go_sem]; done))))⟩
    · have HR := Lib.hid (show taiP first L s true tk = ((s + offs first L s + 1) * 1048576 + tk, 0) by rw [taiP_fine hv hi (by omega) ht2 (by rw [hd]; decide)]; simp)
      have hd1 : (stp first L s == -1) = false := by rw [hd]; decide
      have hd2 : (stp first L s != 1) = false := by rw [hd]; decide
      clear hd
      go_enter Try.func20, Try.ntmps20
      go_wp2_with (first
        | (go_at_call 24; refine (rvalid_any _ _ _ _ _ (hT.ext (by repeat (first | (with_reducible first | exact Ext.refl _ | assumption | apply Ext.alloc | apply Ext.ext | apply Ext.drew | refine Ext.setCell ?_ ?_ _) | (focus (simp [go_sem]; done)))))).mono ?_; rintro e w1 ⟨rfl, hxq⟩; obtain ⟨xq, rfl⟩ := hxq.out; clear hxq)
        | (go_at_call 31; refine (rin_any _ _).mono ?_; rintro e w1 ⟨rfl, hxq⟩; obtain ⟨xq, rfl⟩ := hxq.out; clear hxq)
        | (go_at_call 33; refine (rstep_any _ _ _ _ _ _ (by omega) (by omega) (hT.ext (by repeat (first | (with_reducible first | exact Ext.refl _ | assumption | apply Ext.alloc | apply Ext.ext | apply Ext.drew | refine Ext.setCell ?_ ?_ _) | (focus (simp [go_sem]; done))))) hv).mono ?_; rintro e w1 ⟨rfl, hxq⟩; obtain ⟨xq, rfl⟩ := hxq.out; clear hxq))
      (refine wp_region_ext (by kernel_rfl) (by kernel_rfl) ?_; (repeat (go_big_quiet_step (((go_at_call 32; exact Calls.inExt (roffset_any _ _ _ _ _ _ (hT.ext (by repeat (first | (with_reducible first | exact Ext.refl _ | assumption | apply Ext.alloc | apply Ext.ext | apply Ext.drew | refine Ext.setCell ?_ ?_ _) | (focus (simp [go_sem]; done))))) hv)))))); refine wpQuiet_nil ?_; rintro _ ⟨xq, rfl⟩)
      go_wp2_with fail
      go_returns
      exact ⟨by rw [HR.out]; rfl, (by repeat (first | (with_reducible first | exact Ext.refl _ | assumption | apply Ext.alloc | apply Ext.ext | apply Ext.drew | refine Ext.setCell ?_ ?_ _) | (focus (simp [go_sem]; done))))⟩

set_option maxHeartbeats 4000000 in
theorem rNumber_any (first : Int) (a : Option Addr) (cap : Nat) (L : List (Int × Int)) (s tk : Int) (w : World) (hT : Tb w a L) :
    Calls Try.prog 22 #[.agg #[.int .i64 first, .slice a L.length cap], .int .i64 s, .int .i64 tk] w fun e w' => e = .returned (.tuple #[.agg #[.int .i64 (numP first L s tk).1.1, .int .i64 (numP first L s tk).1.2], .int .i64 (numP first L s tk).2]) ∧ Ext w w' := by
  by_cases hc : (taiP first L s false tk).2 = 0
  case neg =>
    have HR := Lib.hid (num_bad hc)
    have hc' : ((taiP first L s false tk).2 != 0) = true := by simpa using hc
    clear hc
    go_enter Try.func22, Try.ntmps22
    go_wp2_with (first
      | (go_at_call 20; refine (rTAI_any _ _ _ _ _ _ _ _ (hT.ext (by repeat (first | (with_reducible first | exact Ext.refl _ | assumption | apply Ext.alloc | apply Ext.ext | apply Ext.drew | refine Ext.setCell ?_ ?_ _) | (focus (simp [go_sem]; done)))))).mono ?_; rintro e w1 ⟨rfl, hxq⟩; obtain ⟨xq, rfl⟩ := hxq.out; clear hxq))
    go_returns
    exact ⟨by rw [HR.out], (by repeat (first | (with_reducible first | exact Ext.refl _ | assumption | apply Ext.alloc | apply Ext.ext | apply Ext.drew | refine Ext.setCell ?_ ?_ _) | (focus (simp [go_sem]; done))))⟩
  case pos =>
    obtain ⟨hv, hi, ht0, ht1, hn, -, hval⟩ := tai_fine hc
    have hi' := in_of hi
    have ho := offs_at hv s
    have hb : -100000000000000000 ≤ (taiP first L s false tk).1 ∧ (taiP first L s false tk).1 ≤ 1000000000000000000 := by
      rw [hval]; simp; omega
    have hc' : ((taiP first L s false tk).2 != 0) = false := by simpa using hc
    by_cases hs : stp first L s = 1
    · have HR := Lib.hid (num_ins hc hs)
      have hs' : (stp first L s == 1) = true := by simpa using hs
      clear hc hs hval
      go_enter Try.func22, Try.ntmps22
      go_wp2_with (first
        | (go_at_call 20; refine (rTAI_any _ _ _ _ _ _ _ _ (hT.ext (by repeat (first | (with_reducible first | exact Ext.refl _ | assumption | apply Ext.alloc | apply Ext.ext | apply Ext.drew | refine Ext.setCell ?_ ?_ _) | (focus (simp [go_sem]; done)))))).mono ?_; rintro e w1 ⟨rfl, hxq⟩; obtain ⟨xq, rfl⟩ := hxq.out; clear hxq)
        | (go_at_call 33; refine (rstep_any _ _ _ _ _ _ (by omega) (by omega) (hT.ext (by repeat (first | (with_reducible first | exact Ext.refl _ | assumption | apply Ext.alloc | apply Ext.ext | apply Ext.drew | refine Ext.setCell ?_ ?_ _) | (focus (simp [go_sem]; done))))) hv).mono ?_; rintro e w1 ⟨rfl, hxq⟩; obtain ⟨xq, rfl⟩ := hxq.out; clear hxq))
      go_returns
      exact ⟨by rw [HR.out], (by repeat (first | (with_reducible first | exact Ext.refl _ | assumption | apply Ext.alloc | apply Ext.ext | apply Ext.drew | refine Ext.setCell ?_ ?_ _) | (focus (simp [go_sem]; done))))⟩
    · have HR := Lib.hid (num_one hc hs)
      have hs' : (stp first L s == 1) = false := by simpa using hs
      clear hc hs hval
      go_enter Try.func22, Try.ntmps22
      go_wp2_with (first
        | (go_at_call 20; refine (rTAI_any _ _ _ _ _ _ _ _ (hT.ext (by repeat (first | (with_reducible first | exact Ext.refl _ | assumption | apply Ext.alloc | apply Ext.ext | apply Ext.drew | refine Ext.setCell ?_ ?_ _) | (focus (simp [go_sem]; done)))))).mono ?_; rintro e w1 ⟨rfl, hxq⟩; obtain ⟨xq, rfl⟩ := hxq.out; clear hxq)
        | (go_at_call 33; refine (rstep_any _ _ _ _ _ _ (by omega) (by omega) (hT.ext (by repeat (first | (with_reducible first | exact Ext.refl _ | assumption | apply Ext.alloc | apply Ext.ext | apply Ext.drew | refine Ext.setCell ?_ ?_ _) | (focus (simp [go_sem]; done))))) hv).mono ?_; rintro e w1 ⟨rfl, hxq⟩; obtain ⟨xq, rfl⟩ := hxq.out; clear hxq))
      go_returns
      exact ⟨by rw [HR.out], (by repeat (first | (with_reducible first | exact Ext.refl _ | assumption | apply Ext.alloc | apply Ext.ext | apply Ext.drew | refine Ext.setCell ?_ ?_ _) | (focus (simp [go_sem]; done))))⟩

end Go.Proofs.Ytocancjdaefjoaa
