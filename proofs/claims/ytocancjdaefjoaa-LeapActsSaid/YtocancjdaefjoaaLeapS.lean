/- The walks of the reference's functions on leap seconds, part two. -/
import Derived.Test.YtocancjdaefjoaaLeapR
namespace Go.Proofs.Ytocancjdaefjoaa
open Go.RowKit Go.Sec Go.Leap BigFrame

theorem dec_t {p : Prop} [Decidable p] (h : p) : decide p = true := by simp [h]
theorem dec_f {p : Prop} [Decidable p] (h : ¬ p) : decide p = false := by simp [h]

set_option maxHeartbeats 8000000 in
theorem rvalid_any (first : Int) (a : Option Addr) (cap : Nat) (L : List (Int × Int)) (w : World) (hT : Tb w a L) :
    Calls Try.prog 24 #[.agg #[.int .i64 first, .slice a L.length cap]] w fun e w' => e = .returned (.bool (vldB first L)) ∧ Ext w w' := by
  by_cases hg : 0 ≤ first ∧ first ≤ 100 ∧ L.length ≤ 64
  case neg =>
    have hf : vldB first L = false := by cases h : vldB first L with | false => rfl | true => exact absurd (vldB_iff.1 h) (by intro h; exact hg ⟨h.1, h.2.1, h.2.2.1⟩)
    have HF := Lib.hid hf
    clear hf
    by_cases h1 : 0 ≤ first
    · by_cases h2 : first ≤ 100
      · have h3 : 64 < L.length := by omega
        go_enter Try.func24, Try.ntmps24
        go_wp2
        go_returns
        exact ⟨by rw [HF.out]; rfl, (by repeat (first | (with_reducible first | exact Ext.refl _ | assumption | apply Ext.alloc | apply Ext.ext | apply Ext.drew | refine Ext.setCell ?_ ?_ _) | (focus (simp [go_sem]; done))))⟩
      · go_enter Try.func24, Try.ntmps24
        go_wp2
        go_returns
        exact ⟨by rw [HF.out]; rfl, (by repeat (first | (with_reducible first | exact Ext.refl _ | assumption | apply Ext.alloc | apply Ext.ext | apply Ext.drew | refine Ext.setCell ?_ ?_ _) | (focus (simp [go_sem]; done))))⟩
    · go_enter Try.func24, Try.ntmps24
      go_wp2
      go_returns
      exact ⟨by rw [HF.out]; rfl, (by repeat (first | (with_reducible first | exact Ext.refl _ | assumption | apply Ext.alloc | apply Ext.ext | apply Ext.drew | refine Ext.setCell ?_ ?_ _) | (focus (simp [go_sem]; done))))⟩
  case pos =>
    obtain ⟨hf0, hf1, hl⟩ := hg
    have hv : vldB first L = vldL (-86400, first) L := by simp [vldB, hf0, hf1, hl]
    have HV := Lib.hid hv
    clear hv
    go_enter Try.func24, Try.ntmps24
    go_wp2
    go_loopw [3, 4] (fun v3 v4 wr => ∃ k : Nat, k ≤ L.length ∧ v4 = .int .i64 k ∧ vldL (-86400, first) (L.take k) = true ∧ v3 = .int .i64 (lastOf (-86400, first) (L.take k)).2 ∧ ∃ x, wr = (w.alloc (.cells #[.int .i64 first, .slice a L.length cap] 25)).ext x) (fun _ v4 _ => L.length - (intOf v4).toNat)
    case atStart => exact ⟨0, Nat.zero_le _, rfl, rfl, rfl, Ext.out (Ext.refl _)⟩
    case round =>
      obtain ⟨k, hk, rfl, hvk, rfl, x, rfl⟩ := hrel
      by_cases hlt : k < L.length
      · obtain ⟨b, off, rfl, hb, hc, hd⟩ := hT.at k hlt
        haveI : BlkLt b w := ⟨hb⟩
        have hlb := lastOf_bd first ⟨hf0, hf1⟩ (L.take k) hvk (by rw [List.length_take]; omega)
        have HL := Lib.hid (lastOf_take (-86400, first) L k hlt)
        have HT := Lib.hid (vldL_take (-86400, first) L k hlt)
        have HX := Lib.hid (vldL_false (-86400, first) L k hlt)
        have HK := Lib.hid hvk
        have hprev : 0 < k → ∃ y, w.cell? ⟨b, off + (k - 1) * 2, none⟩ = some (.int .i64 y) ∧ y = (lastOf (-86400, first) (L.take k)).1 := by
          intro h0
          obtain ⟨b2, off2, e2, _, hc2, _⟩ := hT.at (k - 1) (by omega)
          obtain ⟨rfl, rfl⟩ : b = b2 ∧ off = off2 := by simpa using e2
          refine ⟨_, hc2, ?_⟩
          have := lastOf_take (-86400, first) L (k - 1) (by omega)
          rw [show k - 1 + 1 = k by omega] at this
          rw [this]
        have hzero : k = 0 → (lastOf (-86400, first) (L.take k)).1 = -86400 := by intro h0; subst h0; rfl
        clear hvk
        generalize lastOf (-86400, first) (L.take k) = P at *
        generalize L[k] = X at *
        have hcases : okNext P X = true ∨ okNext P X = false := by cases okNext P X <;> simp
        cases k with
        | zero =>
          have hz := hzero rfl
          clear hprev hzero
          simp only [Nat.zero_mul, Nat.add_zero] at hc hd
          rcases hcases with hok | hok
          · obtain ⟨o1, o2, o3, o4⟩ := okNext_iff.1 hok
            have e1 : decide (X.1 < 86400) = false := dec_f (by omega)
            have e2 : decide (137438953472 < X.1) = false := dec_f (by omega)
            have e3 : (X.1.tmod 86400 != 0) = false := by rw [bne_eq_false_iff_eq, ← beq_iff_eq]; exact (rem_day X.1).2 o1
            have e3' : (X.1 % 86400 != 0) = false := by rw [bne_eq_false_iff_eq]; exact o1
            clear o1 o2 o3
            rcases o4 with o4 | o4
            ·
              have e5 : (X.2 != P.2 + 1) = false := by rw [bne_eq_false_iff_eq]; omega
              clear o4
              go_wp2_with fail
              (refine wp_region_ext (by kernel_rfl) (by kernel_rfl) ?_; (repeat (go_big_quiet_step ((fail)))); refine wpQuiet_nil ?_; rintro _ ⟨xq, rfl⟩)
              go_wp2_with fail
              go_roundw
              case rel => exact ⟨0 + 1, hlt, by go_num, by rw [HT.out, HK.out, hok]; rfl, by rw [HL.out], Ext.out (by repeat (first | (with_reducible first | exact Ext.refl _ | assumption | apply Ext.alloc | apply Ext.ext | apply Ext.drew | refine Ext.setCell ?_ ?_ _) | (focus (simp [go_sem]; done))))⟩
              case measure => simp [intOf]; omega
            ·
              have e5 : (X.2 != P.2 + 1) = true := by rw [bne_iff_ne]; omega
              have e6 : (X.2 != P.2 - 1) = false := by rw [bne_eq_false_iff_eq]; omega
              clear o4
              go_wp2_with fail
              (refine wp_region_ext (by kernel_rfl) (by kernel_rfl) ?_; (repeat (go_big_quiet_step ((fail)))); refine wpQuiet_nil ?_; rintro _ ⟨xq, rfl⟩)
              go_wp2_with fail
              go_roundw
              case rel => exact ⟨0 + 1, hlt, by go_num, by rw [HT.out, HK.out, hok]; rfl, by rw [HL.out], Ext.out (by repeat (first | (with_reducible first | exact Ext.refl _ | assumption | apply Ext.alloc | apply Ext.ext | apply Ext.drew | refine Ext.setCell ?_ ?_ _) | (focus (simp [go_sem]; done))))⟩
              case measure => simp [intOf]; omega
          · have hno : ¬ (X.1 % 86400 = 0 ∧ P.1 + 172800 ≤ X.1 ∧ X.1 ≤ 137438953472 ∧ (X.2 - P.2 = 1 ∨ X.2 - P.2 = -1)) := fun h => by rw [okNext_iff.2 h] at hok; cases hok
            by_cases c1 : X.1 < 86400
            ·
              have e1 := dec_t c1
              clear hno
              go_wp2_with fail
              (refine wp_region_ext (by kernel_rfl) (by kernel_rfl) ?_; (repeat (go_big_quiet_step ((fail)))); refine wpQuiet_nil ?_; rintro _ ⟨xq, rfl⟩)
              go_wp2_with fail
              go_returns
              exact ⟨by rw [HV.out, HX.out hok]; rfl, (by repeat (first | (with_reducible first | exact Ext.refl _ | assumption | apply Ext.alloc | apply Ext.ext | apply Ext.drew | refine Ext.setCell ?_ ?_ _) | (focus (simp [go_sem]; done))))⟩
            have e1 : decide (X.1 < 86400) = false := dec_f c1
            by_cases c2 : 137438953472 < X.1
            ·
              have e2 := dec_t c2
              clear hno
              go_wp2_with fail
              (refine wp_region_ext (by kernel_rfl) (by kernel_rfl) ?_; (repeat (go_big_quiet_step ((fail)))); refine wpQuiet_nil ?_; rintro _ ⟨xq, rfl⟩)
              go_wp2_with fail
              go_returns
              exact ⟨by rw [HV.out, HX.out hok]; rfl, (by repeat (first | (with_reducible first | exact Ext.refl _ | assumption | apply Ext.alloc | apply Ext.ext | apply Ext.drew | refine Ext.setCell ?_ ?_ _) | (focus (simp [go_sem]; done))))⟩
            have e2 : decide (137438953472 < X.1) = false := dec_f c2
            by_cases c3 : X.1 % 86400 = 0
            case neg =>
              have e3 : (X.1.tmod 86400 != 0) = true := by rw [bne_iff_ne]; intro h; exact c3 ((rem_day X.1).1 (by rw [beq_iff_eq]; exact h))
              have e3' : (X.1 % 86400 != 0) = true := by rw [bne_iff_ne]; exact c3
              clear hno c3
              go_wp2_with fail
              (refine wp_region_ext (by kernel_rfl) (by kernel_rfl) ?_; (repeat (go_big_quiet_step ((fail)))); refine wpQuiet_nil ?_; rintro _ ⟨xq, rfl⟩)
              go_wp2_with fail
              go_returns
              exact ⟨by rw [HV.out, HX.out hok]; rfl, (by repeat (first | (with_reducible first | exact Ext.refl _ | assumption | apply Ext.alloc | apply Ext.ext | apply Ext.drew | refine Ext.setCell ?_ ?_ _) | (focus (simp [go_sem]; done))))⟩
            have e3 : (X.1.tmod 86400 != 0) = false := by rw [bne_eq_false_iff_eq, ← beq_iff_eq]; exact (rem_day X.1).2 c3
            have e3' : (X.1 % 86400 != 0) = false := by rw [bne_eq_false_iff_eq]; exact c3
            have e5 : (X.2 != P.2 + 1) = true := by rw [bne_iff_ne]; omega
            have e6 : (X.2 != P.2 - 1) = true := by rw [bne_iff_ne]; omega
            clear hno c3
            go_wp2_with fail
            (refine wp_region_ext (by kernel_rfl) (by kernel_rfl) ?_; (repeat (go_big_quiet_step ((fail)))); refine wpQuiet_nil ?_; rintro _ ⟨xq, rfl⟩)
            go_wp2_with fail
            go_returns
            exact ⟨by rw [HV.out, HX.out hok]; rfl, (by repeat (first | (with_reducible first | exact Ext.refl _ | assumption | apply Ext.alloc | apply Ext.ext | apply Ext.drew | refine Ext.setCell ?_ ?_ _) | (focus (simp [go_sem]; done))))⟩
        | succ k =>
          obtain ⟨y, hcy, hy⟩ := hprev (by omega)
          have hyb0 : -86400 ≤ y := by rw [hy]; exact hlb.1
          have hyb1 : y ≤ 137438953472 := by rw [hy]; exact hlb.2.1
          rw [Nat.add_sub_cancel] at hcy
          clear hprev hzero
          have i0 : (0 : Int) ≤ (k : Int) := by omega
          have i1 : (k : Int) < (L.length : Int) := by omega
          have HY := Lib.hid hy
          clear hy
          rcases hcases with hok | hok
          · obtain ⟨o1, o2, o3, o4⟩ := okNext_iff.1 hok
            have hyb : y + 172800 ≤ X.1 := by rw [HY.out]; exact o2
            have e1 : decide (X.1 < 86400) = false := dec_f (by omega)
            have e2 : decide (137438953472 < X.1) = false := dec_f (by omega)
            have e3 : (X.1.tmod 86400 != 0) = false := by rw [bne_eq_false_iff_eq, ← beq_iff_eq]; exact (rem_day X.1).2 o1
            have e3' : (X.1 % 86400 != 0) = false := by rw [bne_eq_false_iff_eq]; exact o1
            have e4 : decide (X.1 < y + 172800) = false := dec_f (by omega)
            clear o1 o2 o3
            rcases o4 with o4 | o4
            ·
              have e5 : (X.2 != P.2 + 1) = false := by rw [bne_eq_false_iff_eq]; omega
              clear o4
              go_wp2_with fail
              (refine wp_region_ext (by kernel_rfl) (by kernel_rfl) ?_; (repeat (go_big_quiet_step ((fail)))); refine wpQuiet_nil ?_; rintro _ ⟨xq, rfl⟩)
              go_wp2_with fail
              go_roundw
              case rel => exact ⟨k + 1 + 1, hlt, by go_num, by rw [HT.out, HK.out, hok]; rfl, by rw [HL.out], Ext.out (by repeat (first | (with_reducible first | exact Ext.refl _ | assumption | apply Ext.alloc | apply Ext.ext | apply Ext.drew | refine Ext.setCell ?_ ?_ _) | (focus (simp [go_sem]; done))))⟩
              case measure => simp [intOf]; omega
            ·
              have e5 : (X.2 != P.2 + 1) = true := by rw [bne_iff_ne]; omega
              have e6 : (X.2 != P.2 - 1) = false := by rw [bne_eq_false_iff_eq]; omega
              clear o4
              go_wp2_with fail
              (refine wp_region_ext (by kernel_rfl) (by kernel_rfl) ?_; (repeat (go_big_quiet_step ((fail)))); refine wpQuiet_nil ?_; rintro _ ⟨xq, rfl⟩)
              go_wp2_with fail
              go_roundw
              case rel => exact ⟨k + 1 + 1, hlt, by go_num, by rw [HT.out, HK.out, hok]; rfl, by rw [HL.out], Ext.out (by repeat (first | (with_reducible first | exact Ext.refl _ | assumption | apply Ext.alloc | apply Ext.ext | apply Ext.drew | refine Ext.setCell ?_ ?_ _) | (focus (simp [go_sem]; done))))⟩
              case measure => simp [intOf]; omega
          · have hno : ¬ (X.1 % 86400 = 0 ∧ P.1 + 172800 ≤ X.1 ∧ X.1 ≤ 137438953472 ∧ (X.2 - P.2 = 1 ∨ X.2 - P.2 = -1)) := fun h => by rw [okNext_iff.2 h] at hok; cases hok
            by_cases c1 : X.1 < 86400
            ·
              have e1 := dec_t c1
              clear hno
              go_wp2_with fail
              (refine wp_region_ext (by kernel_rfl) (by kernel_rfl) ?_; (repeat (go_big_quiet_step ((fail)))); refine wpQuiet_nil ?_; rintro _ ⟨xq, rfl⟩)
              go_wp2_with fail
              go_returns
              exact ⟨by rw [HV.out, HX.out hok]; rfl, (by repeat (first | (with_reducible first | exact Ext.refl _ | assumption | apply Ext.alloc | apply Ext.ext | apply Ext.drew | refine Ext.setCell ?_ ?_ _) | (focus (simp [go_sem]; done))))⟩
            have e1 : decide (X.1 < 86400) = false := dec_f c1
            by_cases c2 : 137438953472 < X.1
            ·
              have e2 := dec_t c2
              clear hno
              go_wp2_with fail
              (refine wp_region_ext (by kernel_rfl) (by kernel_rfl) ?_; (repeat (go_big_quiet_step ((fail)))); refine wpQuiet_nil ?_; rintro _ ⟨xq, rfl⟩)
              go_wp2_with fail
              go_returns
              exact ⟨by rw [HV.out, HX.out hok]; rfl, (by repeat (first | (with_reducible first | exact Ext.refl _ | assumption | apply Ext.alloc | apply Ext.ext | apply Ext.drew | refine Ext.setCell ?_ ?_ _) | (focus (simp [go_sem]; done))))⟩
            have e2 : decide (137438953472 < X.1) = false := dec_f c2
            by_cases c3 : X.1 % 86400 = 0
            case neg =>
              have e3 : (X.1.tmod 86400 != 0) = true := by rw [bne_iff_ne]; intro h; exact c3 ((rem_day X.1).1 (by rw [beq_iff_eq]; exact h))
              have e3' : (X.1 % 86400 != 0) = true := by rw [bne_iff_ne]; exact c3
              clear hno c3
              go_wp2_with fail
              (refine wp_region_ext (by kernel_rfl) (by kernel_rfl) ?_; (repeat (go_big_quiet_step ((fail)))); refine wpQuiet_nil ?_; rintro _ ⟨xq, rfl⟩)
              go_wp2_with fail
              go_returns
              exact ⟨by rw [HV.out, HX.out hok]; rfl, (by repeat (first | (with_reducible first | exact Ext.refl _ | assumption | apply Ext.alloc | apply Ext.ext | apply Ext.drew | refine Ext.setCell ?_ ?_ _) | (focus (simp [go_sem]; done))))⟩
            have e3 : (X.1.tmod 86400 != 0) = false := by rw [bne_eq_false_iff_eq, ← beq_iff_eq]; exact (rem_day X.1).2 c3
            have e3' : (X.1 % 86400 != 0) = false := by rw [bne_eq_false_iff_eq]; exact c3
            by_cases c4 : X.1 < y + 172800
            ·
              have e4 := dec_t c4
              clear hno c3
              go_wp2_with fail
              (refine wp_region_ext (by kernel_rfl) (by kernel_rfl) ?_; (repeat (go_big_quiet_step ((fail)))); refine wpQuiet_nil ?_; rintro _ ⟨xq, rfl⟩)
              go_wp2_with fail
              go_returns
              exact ⟨by rw [HV.out, HX.out hok]; rfl, (by repeat (first | (with_reducible first | exact Ext.refl _ | assumption | apply Ext.alloc | apply Ext.ext | apply Ext.drew | refine Ext.setCell ?_ ?_ _) | (focus (simp [go_sem]; done))))⟩
            have e4 : decide (X.1 < y + 172800) = false := dec_f c4
            rw [HY.out] at c4
            have e5 : (X.2 != P.2 + 1) = true := by rw [bne_iff_ne]; omega
            have e6 : (X.2 != P.2 - 1) = true := by rw [bne_iff_ne]; omega
            clear hno c3 c4
            go_wp2_with fail
            (refine wp_region_ext (by kernel_rfl) (by kernel_rfl) ?_; (repeat (go_big_quiet_step ((fail)))); refine wpQuiet_nil ?_; rintro _ ⟨xq, rfl⟩)
            go_wp2_with fail
            go_returns
            exact ⟨by rw [HV.out, HX.out hok]; rfl, (by repeat (first | (with_reducible first | exact Ext.refl _ | assumption | apply Ext.alloc | apply Ext.ext | apply Ext.drew | refine Ext.setCell ?_ ?_ _) | (focus (simp [go_sem]; done))))⟩
      · have hkk : k = L.length := by omega
        subst hkk
        go_wp2
        go_returns
        rw [List.take_length] at hvk
        exact ⟨by rw [HV.out, hvk]; rfl, (by repeat (first | (with_reducible first | exact Ext.refl _ | assumption | apply Ext.alloc | apply Ext.ext | apply Ext.drew | refine Ext.setCell ?_ ?_ _) | (focus (simp [go_sem]; done))))⟩

end Go.Proofs.Ytocancjdaefjoaa
