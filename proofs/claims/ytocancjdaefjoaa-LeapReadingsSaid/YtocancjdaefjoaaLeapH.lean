/- The law on readings. -/
import Derived.Test.YtocancjdaefjoaaLeapF
import Derived.Test.YtocancjdaefjoaaLeapPure2
namespace Go.Proofs.Ytocancjdaefjoaa
open Go.RowKit Go.Sec Go.Leap BigFrame

set_option maxHeartbeats 8000000 in
theorem readings_walk (a0 : Option Addr) (len0 cap0 : Nat) (z0 : List Int) (a1 a2 : Int) (a3 : Bool) (w : World) (w0 : IsRow .i64 w a0 len0 cap0 z0) :
    Calls Try.prog 5 #[.slice a0 len0 cap0, .int .i64 a1, .int .i64 a2, .bool a3] w fun e w' => e = .returned (.bool true) ∧ Below w.heap.size w w' := by
  have hI := Ints.of_row w0
  have wb1 := wthn_bd a1 1073741824 (by decide)
  go_enter Try.func5, Try.ntmps5
  go_wp2_with fail
  refine (leaps_any _ _ _ _ hI).mono ?_
  rintro e w1 ⟨T, a', o, sa, sc, hM, hl4, rfl, hT, hxq⟩
  obtain ⟨xq, rfl⟩ := hxq.out
  clear hxq
  have hv := hM.vldB
  by_cases hg : 0 < T.length ∧ 0 < wthn a1 3
  case neg =>
    have hs0 : 86400 ≤ 86400 + wthn a1 1073741824 := by omega
    have hs1 : 86400 + wthn a1 1073741824 ≤ 2000000000 := by omega
    by_cases g1 : 0 < T.length
    · have g2 : ¬ 0 < wthn a1 3 := fun h => hg ⟨g1, h⟩
      clear hg
      go_wp2_with (first | (go_at_call 15; refine (within_any _ _ _ (by decide)).mono ?_; rintro e w1 ⟨rfl, hxq⟩; obtain ⟨xq, rfl⟩ := hxq.out; clear hxq))
      generalize 86400 + wthn a1 1073741824 = s at *
      have hi : inB s = true := inB_iff.2 (by omega)
      have wbt := wthn_bd a2 1048576 (by decide)
      have HS := Lib.hid (stpP_ok hv hi)
      go_wp2_with (first | (go_at_call 15; refine (within_any _ _ _ (by decide)).mono ?_; rintro e w1 ⟨rfl, hxq⟩; obtain ⟨xq, rfl⟩ := hxq.out; clear hxq))
      generalize wthn a2 1048576 = tk at *
      rcases stp_small 10 T (okv hv) s with hd | hd | hd <;> cases a3
      ·
        have HT := Lib.hid (tai_none (tk := tk) (lp := false) hv hi wbt.1 wbt.2 (by rw [hd]; decide))
        rw [hd] at HS
        clear hd
        refine (Step_any _ _ _ _ _ _ (hT.ext (by repeat (first | (with_reducible first | exact Ext.refl _ | assumption | apply Ext.alloc | apply Ext.ext | apply Ext.drew | refine Ext.setCell ?_ ?_ _) | (focus (simp [go_sem]; done)))))).mono ?_
        rw [HS.out]
        rintro e w1 ⟨rfl, hxq⟩
        obtain ⟨xq, rfl⟩ := hxq.out
        clear hxq
        go_wp2_with fail
        refine (TAI_any _ _ _ _ _ _ _ _ (hT.ext (by repeat (first | (with_reducible first | exact Ext.refl _ | assumption | apply Ext.alloc | apply Ext.ext | apply Ext.drew | refine Ext.setCell ?_ ?_ _) | (focus (simp [go_sem]; done)))))).mono ?_
        rw [HT.out]
        rintro e w1 ⟨rfl, hxq⟩
        obtain ⟨xq, rfl⟩ := hxq.out
        clear hxq
        go_wp2_with (first | (go_at_call 13; refine (known_any _).mono ?_; rintro e w1 ⟨rfl, hxq⟩; obtain ⟨xq, rfl⟩ := hxq.out; clear hxq))
        go_returns
        exact ⟨by first | rfl | (simp; done) | (simp; omega), (by repeat (first | (with_reducible first | exact Ext.refl _ | assumption | apply Ext.alloc | apply Ext.ext | apply Ext.drew | refine Ext.setCell ?_ ?_ _) | (focus (simp [go_sem]; done))))⟩
      ·
        have HT := Lib.hid (tai_none (tk := tk) (lp := true) hv hi wbt.1 wbt.2 (by rw [hd]; decide))
        rw [hd] at HS
        clear hd
        refine (Step_any _ _ _ _ _ _ (hT.ext (by repeat (first | (with_reducible first | exact Ext.refl _ | assumption | apply Ext.alloc | apply Ext.ext | apply Ext.drew | refine Ext.setCell ?_ ?_ _) | (focus (simp [go_sem]; done)))))).mono ?_
        rw [HS.out]
        rintro e w1 ⟨rfl, hxq⟩
        obtain ⟨xq, rfl⟩ := hxq.out
        clear hxq
        go_wp2_with fail
        refine (TAI_any _ _ _ _ _ _ _ _ (hT.ext (by repeat (first | (with_reducible first | exact Ext.refl _ | assumption | apply Ext.alloc | apply Ext.ext | apply Ext.drew | refine Ext.setCell ?_ ?_ _) | (focus (simp [go_sem]; done)))))).mono ?_
        rw [HT.out]
        rintro e w1 ⟨rfl, hxq⟩
        obtain ⟨xq, rfl⟩ := hxq.out
        clear hxq
        go_wp2_with (first | (go_at_call 13; refine (known_any _).mono ?_; rintro e w1 ⟨rfl, hxq⟩; obtain ⟨xq, rfl⟩ := hxq.out; clear hxq))
        go_returns
        exact ⟨by first | rfl | (simp; done) | (simp; omega), (by repeat (first | (with_reducible first | exact Ext.refl _ | assumption | apply Ext.alloc | apply Ext.ext | apply Ext.drew | refine Ext.setCell ?_ ?_ _) | (focus (simp [go_sem]; done))))⟩
      ·
        obtain ⟨t, ht, b0, b1, hR, hm⟩ := tai_some (tk := tk) (lp := false) hv hi wbt.1 wbt.2 (by rw [hd]; decide) (by rw [hd]; decide) (by omega) (by omega)
        obtain ⟨s2, lp2, hu, hR2, -⟩ := utc_fine2 10 T hv t b0 b1
        obtain ⟨rfl, rfl⟩ := hR.unique (okv hv) hR2
        rw [hm] at hu
        have HT := Lib.hid ht
        have HU := Lib.hid hu
        rw [hd] at HS
        clear hd ht hu hR hR2 hm
        refine (Step_any _ _ _ _ _ _ (hT.ext (by repeat (first | (with_reducible first | exact Ext.refl _ | assumption | apply Ext.alloc | apply Ext.ext | apply Ext.drew | refine Ext.setCell ?_ ?_ _) | (focus (simp [go_sem]; done)))))).mono ?_
        rw [HS.out]
        rintro e w1 ⟨rfl, hxq⟩
        obtain ⟨xq, rfl⟩ := hxq.out
        clear hxq
        go_wp2_with fail
        refine (TAI_any _ _ _ _ _ _ _ _ (hT.ext (by repeat (first | (with_reducible first | exact Ext.refl _ | assumption | apply Ext.alloc | apply Ext.ext | apply Ext.drew | refine Ext.setCell ?_ ?_ _) | (focus (simp [go_sem]; done)))))).mono ?_
        rw [HT.out]
        rintro e w1 ⟨rfl, hxq⟩
        obtain ⟨xq, rfl⟩ := hxq.out
        clear hxq
        go_wp2_with fail
        refine (UTC_any _ _ _ _ _ _ (hT.ext (by repeat (first | (with_reducible first | exact Ext.refl _ | assumption | apply Ext.alloc | apply Ext.ext | apply Ext.drew | refine Ext.setCell ?_ ?_ _) | (focus (simp [go_sem]; done))))) (by omega) (by omega)).mono ?_
        rw [HU.out]
        rintro e w1 ⟨rfl, hxq⟩
        obtain ⟨xq, rfl⟩ := hxq.out
        clear hxq
        go_wp2_with (first | (go_at_call 13; refine (known_any _).mono ?_; rintro e w1 ⟨rfl, hxq⟩; obtain ⟨xq, rfl⟩ := hxq.out; clear hxq))
        go_returns
        exact ⟨by first | rfl | (simp; done) | (simp; omega), (by repeat (first | (with_reducible first | exact Ext.refl _ | assumption | apply Ext.alloc | apply Ext.ext | apply Ext.drew | refine Ext.setCell ?_ ?_ _) | (focus (simp [go_sem]; done))))⟩
      ·
        have HT := Lib.hid (tai_none (tk := tk) (lp := true) hv hi wbt.1 wbt.2 (by rw [hd]; decide))
        rw [hd] at HS
        clear hd
        refine (Step_any _ _ _ _ _ _ (hT.ext (by repeat (first | (with_reducible first | exact Ext.refl _ | assumption | apply Ext.alloc | apply Ext.ext | apply Ext.drew | refine Ext.setCell ?_ ?_ _) | (focus (simp [go_sem]; done)))))).mono ?_
        rw [HS.out]
        rintro e w1 ⟨rfl, hxq⟩
        obtain ⟨xq, rfl⟩ := hxq.out
        clear hxq
        go_wp2_with fail
        refine (TAI_any _ _ _ _ _ _ _ _ (hT.ext (by repeat (first | (with_reducible first | exact Ext.refl _ | assumption | apply Ext.alloc | apply Ext.ext | apply Ext.drew | refine Ext.setCell ?_ ?_ _) | (focus (simp [go_sem]; done)))))).mono ?_
        rw [HT.out]
        rintro e w1 ⟨rfl, hxq⟩
        obtain ⟨xq, rfl⟩ := hxq.out
        clear hxq
        go_wp2_with (first | (go_at_call 13; refine (known_any _).mono ?_; rintro e w1 ⟨rfl, hxq⟩; obtain ⟨xq, rfl⟩ := hxq.out; clear hxq))
        go_returns
        exact ⟨by first | rfl | (simp; done) | (simp; omega), (by repeat (first | (with_reducible first | exact Ext.refl _ | assumption | apply Ext.alloc | apply Ext.ext | apply Ext.drew | refine Ext.setCell ?_ ?_ _) | (focus (simp [go_sem]; done))))⟩
      ·
        obtain ⟨t, ht, b0, b1, hR, hm⟩ := tai_some (tk := tk) (lp := false) hv hi wbt.1 wbt.2 (by rw [hd]; decide) (by rw [hd]; decide) (by omega) (by omega)
        obtain ⟨s2, lp2, hu, hR2, -⟩ := utc_fine2 10 T hv t b0 b1
        obtain ⟨rfl, rfl⟩ := hR.unique (okv hv) hR2
        rw [hm] at hu
        have HT := Lib.hid ht
        have HU := Lib.hid hu
        rw [hd] at HS
        clear hd ht hu hR hR2 hm
        refine (Step_any _ _ _ _ _ _ (hT.ext (by repeat (first | (with_reducible first | exact Ext.refl _ | assumption | apply Ext.alloc | apply Ext.ext | apply Ext.drew | refine Ext.setCell ?_ ?_ _) | (focus (simp [go_sem]; done)))))).mono ?_
        rw [HS.out]
        rintro e w1 ⟨rfl, hxq⟩
        obtain ⟨xq, rfl⟩ := hxq.out
        clear hxq
        go_wp2_with fail
        refine (TAI_any _ _ _ _ _ _ _ _ (hT.ext (by repeat (first | (with_reducible first | exact Ext.refl _ | assumption | apply Ext.alloc | apply Ext.ext | apply Ext.drew | refine Ext.setCell ?_ ?_ _) | (focus (simp [go_sem]; done)))))).mono ?_
        rw [HT.out]
        rintro e w1 ⟨rfl, hxq⟩
        obtain ⟨xq, rfl⟩ := hxq.out
        clear hxq
        go_wp2_with fail
        refine (UTC_any _ _ _ _ _ _ (hT.ext (by repeat (first | (with_reducible first | exact Ext.refl _ | assumption | apply Ext.alloc | apply Ext.ext | apply Ext.drew | refine Ext.setCell ?_ ?_ _) | (focus (simp [go_sem]; done))))) (by omega) (by omega)).mono ?_
        rw [HU.out]
        rintro e w1 ⟨rfl, hxq⟩
        obtain ⟨xq, rfl⟩ := hxq.out
        clear hxq
        go_wp2_with (first | (go_at_call 13; refine (known_any _).mono ?_; rintro e w1 ⟨rfl, hxq⟩; obtain ⟨xq, rfl⟩ := hxq.out; clear hxq))
        go_returns
        exact ⟨by first | rfl | (simp; done) | (simp; omega), (by repeat (first | (with_reducible first | exact Ext.refl _ | assumption | apply Ext.alloc | apply Ext.ext | apply Ext.drew | refine Ext.setCell ?_ ?_ _) | (focus (simp [go_sem]; done))))⟩
      ·
        obtain ⟨t, ht, b0, b1, hR, hm⟩ := tai_some (tk := tk) (lp := true) hv hi wbt.1 wbt.2 (by rw [hd]; decide) (by rw [hd]; decide) (by omega) (by omega)
        obtain ⟨s2, lp2, hu, hR2, -⟩ := utc_fine2 10 T hv t b0 b1
        obtain ⟨rfl, rfl⟩ := hR.unique (okv hv) hR2
        rw [hm] at hu
        have HT := Lib.hid ht
        have HU := Lib.hid hu
        rw [hd] at HS
        clear hd ht hu hR hR2 hm
        refine (Step_any _ _ _ _ _ _ (hT.ext (by repeat (first | (with_reducible first | exact Ext.refl _ | assumption | apply Ext.alloc | apply Ext.ext | apply Ext.drew | refine Ext.setCell ?_ ?_ _) | (focus (simp [go_sem]; done)))))).mono ?_
        rw [HS.out]
        rintro e w1 ⟨rfl, hxq⟩
        obtain ⟨xq, rfl⟩ := hxq.out
        clear hxq
        go_wp2_with fail
        refine (TAI_any _ _ _ _ _ _ _ _ (hT.ext (by repeat (first | (with_reducible first | exact Ext.refl _ | assumption | apply Ext.alloc | apply Ext.ext | apply Ext.drew | refine Ext.setCell ?_ ?_ _) | (focus (simp [go_sem]; done)))))).mono ?_
        rw [HT.out]
        rintro e w1 ⟨rfl, hxq⟩
        obtain ⟨xq, rfl⟩ := hxq.out
        clear hxq
        go_wp2_with fail
        refine (UTC_any _ _ _ _ _ _ (hT.ext (by repeat (first | (with_reducible first | exact Ext.refl _ | assumption | apply Ext.alloc | apply Ext.ext | apply Ext.drew | refine Ext.setCell ?_ ?_ _) | (focus (simp [go_sem]; done))))) (by omega) (by omega)).mono ?_
        rw [HU.out]
        rintro e w1 ⟨rfl, hxq⟩
        obtain ⟨xq, rfl⟩ := hxq.out
        clear hxq
        go_wp2_with (first | (go_at_call 13; refine (known_any _).mono ?_; rintro e w1 ⟨rfl, hxq⟩; obtain ⟨xq, rfl⟩ := hxq.out; clear hxq))
        go_returns
        exact ⟨by first | rfl | (simp; done) | (simp; omega), (by repeat (first | (with_reducible first | exact Ext.refl _ | assumption | apply Ext.alloc | apply Ext.ext | apply Ext.drew | refine Ext.setCell ?_ ?_ _) | (focus (simp [go_sem]; done))))⟩
    · clear hg
      go_wp2_with (first | (go_at_call 15; refine (within_any _ _ _ (by decide)).mono ?_; rintro e w1 ⟨rfl, hxq⟩; obtain ⟨xq, rfl⟩ := hxq.out; clear hxq))
      generalize 86400 + wthn a1 1073741824 = s at *
      have hi : inB s = true := inB_iff.2 (by omega)
      have wbt := wthn_bd a2 1048576 (by decide)
      have HS := Lib.hid (stpP_ok hv hi)
      go_wp2_with (first | (go_at_call 15; refine (within_any _ _ _ (by decide)).mono ?_; rintro e w1 ⟨rfl, hxq⟩; obtain ⟨xq, rfl⟩ := hxq.out; clear hxq))
      generalize wthn a2 1048576 = tk at *
      rcases stp_small 10 T (okv hv) s with hd | hd | hd <;> cases a3
      ·
        have HT := Lib.hid (tai_none (tk := tk) (lp := false) hv hi wbt.1 wbt.2 (by rw [hd]; decide))
        rw [hd] at HS
        clear hd
        refine (Step_any _ _ _ _ _ _ (hT.ext (by repeat (first | (with_reducible first | exact Ext.refl _ | assumption | apply Ext.alloc | apply Ext.ext | apply Ext.drew | refine Ext.setCell ?_ ?_ _) | (focus (simp [go_sem]; done)))))).mono ?_
        rw [HS.out]
        rintro e w1 ⟨rfl, hxq⟩
        obtain ⟨xq, rfl⟩ := hxq.out
        clear hxq
        go_wp2_with fail
        refine (TAI_any _ _ _ _ _ _ _ _ (hT.ext (by repeat (first | (with_reducible first | exact Ext.refl _ | assumption | apply Ext.alloc | apply Ext.ext | apply Ext.drew | refine Ext.setCell ?_ ?_ _) | (focus (simp [go_sem]; done)))))).mono ?_
        rw [HT.out]
        rintro e w1 ⟨rfl, hxq⟩
        obtain ⟨xq, rfl⟩ := hxq.out
        clear hxq
        go_wp2_with (first | (go_at_call 13; refine (known_any _).mono ?_; rintro e w1 ⟨rfl, hxq⟩; obtain ⟨xq, rfl⟩ := hxq.out; clear hxq))
        go_returns
        exact ⟨by first | rfl | (simp; done) | (simp; omega), (by repeat (first | (with_reducible first | exact Ext.refl _ | assumption | apply Ext.alloc | apply Ext.ext | apply Ext.drew | refine Ext.setCell ?_ ?_ _) | (focus (simp [go_sem]; done))))⟩
      ·
        have HT := Lib.hid (tai_none (tk := tk) (lp := true) hv hi wbt.1 wbt.2 (by rw [hd]; decide))
        rw [hd] at HS
        clear hd
        refine (Step_any _ _ _ _ _ _ (hT.ext (by repeat (first | (with_reducible first | exact Ext.refl _ | assumption | apply Ext.alloc | apply Ext.ext | apply Ext.drew | refine Ext.setCell ?_ ?_ _) | (focus (simp [go_sem]; done)))))).mono ?_
        rw [HS.out]
        rintro e w1 ⟨rfl, hxq⟩
        obtain ⟨xq, rfl⟩ := hxq.out
        clear hxq
        go_wp2_with fail
        refine (TAI_any _ _ _ _ _ _ _ _ (hT.ext (by repeat (first | (with_reducible first | exact Ext.refl _ | assumption | apply Ext.alloc | apply Ext.ext | apply Ext.drew | refine Ext.setCell ?_ ?_ _) | (focus (simp [go_sem]; done)))))).mono ?_
        rw [HT.out]
        rintro e w1 ⟨rfl, hxq⟩
        obtain ⟨xq, rfl⟩ := hxq.out
        clear hxq
        go_wp2_with (first | (go_at_call 13; refine (known_any _).mono ?_; rintro e w1 ⟨rfl, hxq⟩; obtain ⟨xq, rfl⟩ := hxq.out; clear hxq))
        go_returns
        exact ⟨by first | rfl | (simp; done) | (simp; omega), (by repeat (first | (with_reducible first | exact Ext.refl _ | assumption | apply Ext.alloc | apply Ext.ext | apply Ext.drew | refine Ext.setCell ?_ ?_ _) | (focus (simp [go_sem]; done))))⟩
      ·
        obtain ⟨t, ht, b0, b1, hR, hm⟩ := tai_some (tk := tk) (lp := false) hv hi wbt.1 wbt.2 (by rw [hd]; decide) (by rw [hd]; decide) (by omega) (by omega)
        obtain ⟨s2, lp2, hu, hR2, -⟩ := utc_fine2 10 T hv t b0 b1
        obtain ⟨rfl, rfl⟩ := hR.unique (okv hv) hR2
        rw [hm] at hu
        have HT := Lib.hid ht
        have HU := Lib.hid hu
        rw [hd] at HS
        clear hd ht hu hR hR2 hm
        refine (Step_any _ _ _ _ _ _ (hT.ext (by repeat (first | (with_reducible first | exact Ext.refl _ | assumption | apply Ext.alloc | apply Ext.ext | apply Ext.drew | refine Ext.setCell ?_ ?_ _) | (focus (simp [go_sem]; done)))))).mono ?_
        rw [HS.out]
        rintro e w1 ⟨rfl, hxq⟩
        obtain ⟨xq, rfl⟩ := hxq.out
        clear hxq
        go_wp2_with fail
        refine (TAI_any _ _ _ _ _ _ _ _ (hT.ext (by repeat (first | (with_reducible first | exact Ext.refl _ | assumption | apply Ext.alloc | apply Ext.ext | apply Ext.drew | refine Ext.setCell ?_ ?_ _) | (focus (simp [go_sem]; done)))))).mono ?_
        rw [HT.out]
        rintro e w1 ⟨rfl, hxq⟩
        obtain ⟨xq, rfl⟩ := hxq.out
        clear hxq
        go_wp2_with fail
        refine (UTC_any _ _ _ _ _ _ (hT.ext (by repeat (first | (with_reducible first | exact Ext.refl _ | assumption | apply Ext.alloc | apply Ext.ext | apply Ext.drew | refine Ext.setCell ?_ ?_ _) | (focus (simp [go_sem]; done))))) (by omega) (by omega)).mono ?_
        rw [HU.out]
        rintro e w1 ⟨rfl, hxq⟩
        obtain ⟨xq, rfl⟩ := hxq.out
        clear hxq
        go_wp2_with (first | (go_at_call 13; refine (known_any _).mono ?_; rintro e w1 ⟨rfl, hxq⟩; obtain ⟨xq, rfl⟩ := hxq.out; clear hxq))
        go_returns
        exact ⟨by first | rfl | (simp; done) | (simp; omega), (by repeat (first | (with_reducible first | exact Ext.refl _ | assumption | apply Ext.alloc | apply Ext.ext | apply Ext.drew | refine Ext.setCell ?_ ?_ _) | (focus (simp [go_sem]; done))))⟩
      ·
        have HT := Lib.hid (tai_none (tk := tk) (lp := true) hv hi wbt.1 wbt.2 (by rw [hd]; decide))
        rw [hd] at HS
        clear hd
        refine (Step_any _ _ _ _ _ _ (hT.ext (by repeat (first | (with_reducible first | exact Ext.refl _ | assumption | apply Ext.alloc | apply Ext.ext | apply Ext.drew | refine Ext.setCell ?_ ?_ _) | (focus (simp [go_sem]; done)))))).mono ?_
        rw [HS.out]
        rintro e w1 ⟨rfl, hxq⟩
        obtain ⟨xq, rfl⟩ := hxq.out
        clear hxq
        go_wp2_with fail
        refine (TAI_any _ _ _ _ _ _ _ _ (hT.ext (by repeat (first | (with_reducible first | exact Ext.refl _ | assumption | apply Ext.alloc | apply Ext.ext | apply Ext.drew | refine Ext.setCell ?_ ?_ _) | (focus (simp [go_sem]; done)))))).mono ?_
        rw [HT.out]
        rintro e w1 ⟨rfl, hxq⟩
        obtain ⟨xq, rfl⟩ := hxq.out
        clear hxq
        go_wp2_with (first | (go_at_call 13; refine (known_any _).mono ?_; rintro e w1 ⟨rfl, hxq⟩; obtain ⟨xq, rfl⟩ := hxq.out; clear hxq))
        go_returns
        exact ⟨by first | rfl | (simp; done) | (simp; omega), (by repeat (first | (with_reducible first | exact Ext.refl _ | assumption | apply Ext.alloc | apply Ext.ext | apply Ext.drew | refine Ext.setCell ?_ ?_ _) | (focus (simp [go_sem]; done))))⟩
      ·
        obtain ⟨t, ht, b0, b1, hR, hm⟩ := tai_some (tk := tk) (lp := false) hv hi wbt.1 wbt.2 (by rw [hd]; decide) (by rw [hd]; decide) (by omega) (by omega)
        obtain ⟨s2, lp2, hu, hR2, -⟩ := utc_fine2 10 T hv t b0 b1
        obtain ⟨rfl, rfl⟩ := hR.unique (okv hv) hR2
        rw [hm] at hu
        have HT := Lib.hid ht
        have HU := Lib.hid hu
        rw [hd] at HS
        clear hd ht hu hR hR2 hm
        refine (Step_any _ _ _ _ _ _ (hT.ext (by repeat (first | (with_reducible first | exact Ext.refl _ | assumption | apply Ext.alloc | apply Ext.ext | apply Ext.drew | refine Ext.setCell ?_ ?_ _) | (focus (simp [go_sem]; done)))))).mono ?_
        rw [HS.out]
        rintro e w1 ⟨rfl, hxq⟩
        obtain ⟨xq, rfl⟩ := hxq.out
        clear hxq
        go_wp2_with fail
        refine (TAI_any _ _ _ _ _ _ _ _ (hT.ext (by repeat (first | (with_reducible first | exact Ext.refl _ | assumption | apply Ext.alloc | apply Ext.ext | apply Ext.drew | refine Ext.setCell ?_ ?_ _) | (focus (simp [go_sem]; done)))))).mono ?_
        rw [HT.out]
        rintro e w1 ⟨rfl, hxq⟩
        obtain ⟨xq, rfl⟩ := hxq.out
        clear hxq
        go_wp2_with fail
        refine (UTC_any _ _ _ _ _ _ (hT.ext (by repeat (first | (with_reducible first | exact Ext.refl _ | assumption | apply Ext.alloc | apply Ext.ext | apply Ext.drew | refine Ext.setCell ?_ ?_ _) | (focus (simp [go_sem]; done))))) (by omega) (by omega)).mono ?_
        rw [HU.out]
        rintro e w1 ⟨rfl, hxq⟩
        obtain ⟨xq, rfl⟩ := hxq.out
        clear hxq
        go_wp2_with (first | (go_at_call 13; refine (known_any _).mono ?_; rintro e w1 ⟨rfl, hxq⟩; obtain ⟨xq, rfl⟩ := hxq.out; clear hxq))
        go_returns
        exact ⟨by first | rfl | (simp; done) | (simp; omega), (by repeat (first | (with_reducible first | exact Ext.refl _ | assumption | apply Ext.alloc | apply Ext.ext | apply Ext.drew | refine Ext.setCell ?_ ?_ _) | (focus (simp [go_sem]; done))))⟩
      ·
        obtain ⟨t, ht, b0, b1, hR, hm⟩ := tai_some (tk := tk) (lp := true) hv hi wbt.1 wbt.2 (by rw [hd]; decide) (by rw [hd]; decide) (by omega) (by omega)
        obtain ⟨s2, lp2, hu, hR2, -⟩ := utc_fine2 10 T hv t b0 b1
        obtain ⟨rfl, rfl⟩ := hR.unique (okv hv) hR2
        rw [hm] at hu
        have HT := Lib.hid ht
        have HU := Lib.hid hu
        rw [hd] at HS
        clear hd ht hu hR hR2 hm
        refine (Step_any _ _ _ _ _ _ (hT.ext (by repeat (first | (with_reducible first | exact Ext.refl _ | assumption | apply Ext.alloc | apply Ext.ext | apply Ext.drew | refine Ext.setCell ?_ ?_ _) | (focus (simp [go_sem]; done)))))).mono ?_
        rw [HS.out]
        rintro e w1 ⟨rfl, hxq⟩
        obtain ⟨xq, rfl⟩ := hxq.out
        clear hxq
        go_wp2_with fail
        refine (TAI_any _ _ _ _ _ _ _ _ (hT.ext (by repeat (first | (with_reducible first | exact Ext.refl _ | assumption | apply Ext.alloc | apply Ext.ext | apply Ext.drew | refine Ext.setCell ?_ ?_ _) | (focus (simp [go_sem]; done)))))).mono ?_
        rw [HT.out]
        rintro e w1 ⟨rfl, hxq⟩
        obtain ⟨xq, rfl⟩ := hxq.out
        clear hxq
        go_wp2_with fail
        refine (UTC_any _ _ _ _ _ _ (hT.ext (by repeat (first | (with_reducible first | exact Ext.refl _ | assumption | apply Ext.alloc | apply Ext.ext | apply Ext.drew | refine Ext.setCell ?_ ?_ _) | (focus (simp [go_sem]; done))))) (by omega) (by omega)).mono ?_
        rw [HU.out]
        rintro e w1 ⟨rfl, hxq⟩
        obtain ⟨xq, rfl⟩ := hxq.out
        clear hxq
        go_wp2_with (first | (go_at_call 13; refine (known_any _).mono ?_; rintro e w1 ⟨rfl, hxq⟩; obtain ⟨xq, rfl⟩ := hxq.out; clear hxq))
        go_returns
        exact ⟨by first | rfl | (simp; done) | (simp; omega), (by repeat (first | (with_reducible first | exact Ext.refl _ | assumption | apply Ext.alloc | apply Ext.ext | apply Ext.drew | refine Ext.setCell ?_ ?_ _) | (focus (simp [go_sem]; done))))⟩
  case pos =>
    obtain ⟨g1, g2⟩ := hg
    have wb := wthn_bd (wrap64 (a1.tdiv 3)) T.length (by omega)
    have HK : wthn (wrap64 (a1.tdiv 3)) T.length = ((wthn (wrap64 (a1.tdiv 3)) T.length).toNat : Int) := by omega
    generalize hk : (wthn (wrap64 (a1.tdiv 3)) T.length).toNat = k at *
    have hk' : k < T.length := by omega
    obtain ⟨b, off, rfl, hb, hc, hd⟩ := hT.at k hk'
    haveI : BlkLt b (w.ext xq) := ⟨hb⟩
    have hel := elem_mem hM k hk'
    generalize (T[k]'hk').1 = x1 at *
    generalize (T[k]'hk').2 = x2 at *
    have wk0 : (0 : Int) ≤ (k : Int) := by omega
    have wk1 : (k : Int) < (T.length : Int) := by omega
    clear hk wb
    have w4 := wthn_bd (wrap64 (a1.tdiv 16)) 3 (by decide)
    go_wp2_with (first | (go_at_call 15; refine (within_any _ _ _ (by decide)).mono ?_; rintro e w1 ⟨rfl, hxq⟩; obtain ⟨xq, rfl⟩ := hxq.out; clear hxq))
    (refine wp_region_ext (by kernel_rfl) (by kernel_rfl) ?_; (repeat (go_big_quiet_step (((go_at_call 15; exact Calls.inExt (within_any _ _ _ (by omega))))))); refine wpQuiet_nil ?_; rintro _ ⟨xq, rfl⟩)
    have hs0 : 86400 ≤ x1 - 1 + wthn (wrap64 (a1.tdiv 16)) 3 - 1 := by omega
    have hs1 : x1 - 1 + wthn (wrap64 (a1.tdiv 16)) 3 - 1 ≤ 2000000000 := by omega
    generalize x1 - 1 + wthn (wrap64 (a1.tdiv 16)) 3 - 1 = s at *
    have hi : inB s = true := inB_iff.2 (by omega)
    have wbt := wthn_bd a2 1048576 (by decide)
    have HS := Lib.hid (stpP_ok hv hi)
    go_wp2_with (first | (go_at_call 15; refine (within_any _ _ _ (by decide)).mono ?_; rintro e w1 ⟨rfl, hxq⟩; obtain ⟨xq, rfl⟩ := hxq.out; clear hxq))
    generalize wthn a2 1048576 = tk at *
    rcases stp_small 10 T (okv hv) s with hd | hd | hd <;> cases a3
    ·
      have HT := Lib.hid (tai_none (tk := tk) (lp := false) hv hi wbt.1 wbt.2 (by rw [hd]; decide))
      rw [hd] at HS
      clear hd
      refine (Step_any _ _ _ _ _ _ (hT.ext (by repeat (first | (with_reducible first | exact Ext.refl _ | assumption | apply Ext.alloc | apply Ext.ext | apply Ext.drew | refine Ext.setCell ?_ ?_ _) | (focus (simp [go_sem]; done)))))).mono ?_
      rw [HS.out]
      rintro e w1 ⟨rfl, hxq⟩
      obtain ⟨xq, rfl⟩ := hxq.out
      clear hxq
      go_wp2_with fail
      refine (TAI_any _ _ _ _ _ _ _ _ (hT.ext (by repeat (first | (with_reducible first | exact Ext.refl _ | assumption | apply Ext.alloc | apply Ext.ext | apply Ext.drew | refine Ext.setCell ?_ ?_ _) | (focus (simp [go_sem]; done)))))).mono ?_
      rw [HT.out]
      rintro e w1 ⟨rfl, hxq⟩
      obtain ⟨xq, rfl⟩ := hxq.out
      clear hxq
      go_wp2_with (first | (go_at_call 13; refine (known_any _).mono ?_; rintro e w1 ⟨rfl, hxq⟩; obtain ⟨xq, rfl⟩ := hxq.out; clear hxq))
      go_returns
      exact ⟨by first | rfl | (simp; done) | (simp; omega), (by repeat (first | (with_reducible first | exact Ext.refl _ | assumption | apply Ext.alloc | apply Ext.ext | apply Ext.drew | refine Ext.setCell ?_ ?_ _) | (focus (simp [go_sem]; done))))⟩
    ·
      have HT := Lib.hid (tai_none (tk := tk) (lp := true) hv hi wbt.1 wbt.2 (by rw [hd]; decide))
      rw [hd] at HS
      clear hd
      refine (Step_any _ _ _ _ _ _ (hT.ext (by repeat (first | (with_reducible first | exact Ext.refl _ | assumption | apply Ext.alloc | apply Ext.ext | apply Ext.drew | refine Ext.setCell ?_ ?_ _) | (focus (simp [go_sem]; done)))))).mono ?_
      rw [HS.out]
      rintro e w1 ⟨rfl, hxq⟩
      obtain ⟨xq, rfl⟩ := hxq.out
      clear hxq
      go_wp2_with fail
      refine (TAI_any _ _ _ _ _ _ _ _ (hT.ext (by repeat (first | (with_reducible first | exact Ext.refl _ | assumption | apply Ext.alloc | apply Ext.ext | apply Ext.drew | refine Ext.setCell ?_ ?_ _) | (focus (simp [go_sem]; done)))))).mono ?_
      rw [HT.out]
      rintro e w1 ⟨rfl, hxq⟩
      obtain ⟨xq, rfl⟩ := hxq.out
      clear hxq
      go_wp2_with (first | (go_at_call 13; refine (known_any _).mono ?_; rintro e w1 ⟨rfl, hxq⟩; obtain ⟨xq, rfl⟩ := hxq.out; clear hxq))
      go_returns
      exact ⟨by first | rfl | (simp; done) | (simp; omega), (by repeat (first | (with_reducible first | exact Ext.refl _ | assumption | apply Ext.alloc | apply Ext.ext | apply Ext.drew | refine Ext.setCell ?_ ?_ _) | (focus (simp [go_sem]; done))))⟩
    ·
      obtain ⟨t, ht, b0, b1, hR, hm⟩ := tai_some (tk := tk) (lp := false) hv hi wbt.1 wbt.2 (by rw [hd]; decide) (by rw [hd]; decide) (by omega) (by omega)
      obtain ⟨s2, lp2, hu, hR2, -⟩ := utc_fine2 10 T hv t b0 b1
      obtain ⟨rfl, rfl⟩ := hR.unique (okv hv) hR2
      rw [hm] at hu
      have HT := Lib.hid ht
      have HU := Lib.hid hu
      rw [hd] at HS
      clear hd ht hu hR hR2 hm
      refine (Step_any _ _ _ _ _ _ (hT.ext (by repeat (first | (with_reducible first | exact Ext.refl _ | assumption | apply Ext.alloc | apply Ext.ext | apply Ext.drew | refine Ext.setCell ?_ ?_ _) | (focus (simp [go_sem]; done)))))).mono ?_
      rw [HS.out]
      rintro e w1 ⟨rfl, hxq⟩
      obtain ⟨xq, rfl⟩ := hxq.out
      clear hxq
      go_wp2_with fail
      refine (TAI_any _ _ _ _ _ _ _ _ (hT.ext (by repeat (first | (with_reducible first | exact Ext.refl _ | assumption | apply Ext.alloc | apply Ext.ext | apply Ext.drew | refine Ext.setCell ?_ ?_ _) | (focus (simp [go_sem]; done)))))).mono ?_
      rw [HT.out]
      rintro e w1 ⟨rfl, hxq⟩
      obtain ⟨xq, rfl⟩ := hxq.out
      clear hxq
      go_wp2_with fail
      refine (UTC_any _ _ _ _ _ _ (hT.ext (by repeat (first | (with_reducible first | exact Ext.refl _ | assumption | apply Ext.alloc | apply Ext.ext | apply Ext.drew | refine Ext.setCell ?_ ?_ _) | (focus (simp [go_sem]; done))))) (by omega) (by omega)).mono ?_
      rw [HU.out]
      rintro e w1 ⟨rfl, hxq⟩
      obtain ⟨xq, rfl⟩ := hxq.out
      clear hxq
      go_wp2_with (first | (go_at_call 13; refine (known_any _).mono ?_; rintro e w1 ⟨rfl, hxq⟩; obtain ⟨xq, rfl⟩ := hxq.out; clear hxq))
      go_returns
      exact ⟨by first | rfl | (simp; done) | (simp; omega), (by repeat (first | (with_reducible first | exact Ext.refl _ | assumption | apply Ext.alloc | apply Ext.ext | apply Ext.drew | refine Ext.setCell ?_ ?_ _) | (focus (simp [go_sem]; done))))⟩
    ·
      have HT := Lib.hid (tai_none (tk := tk) (lp := true) hv hi wbt.1 wbt.2 (by rw [hd]; decide))
      rw [hd] at HS
      clear hd
      refine (Step_any _ _ _ _ _ _ (hT.ext (by repeat (first | (with_reducible first | exact Ext.refl _ | assumption | apply Ext.alloc | apply Ext.ext | apply Ext.drew | refine Ext.setCell ?_ ?_ _) | (focus (simp [go_sem]; done)))))).mono ?_
      rw [HS.out]
      rintro e w1 ⟨rfl, hxq⟩
      obtain ⟨xq, rfl⟩ := hxq.out
      clear hxq
      go_wp2_with fail
      refine (TAI_any _ _ _ _ _ _ _ _ (hT.ext (by repeat (first | (with_reducible first | exact Ext.refl _ | assumption | apply Ext.alloc | apply Ext.ext | apply Ext.drew | refine Ext.setCell ?_ ?_ _) | (focus (simp [go_sem]; done)))))).mono ?_
      rw [HT.out]
      rintro e w1 ⟨rfl, hxq⟩
      obtain ⟨xq, rfl⟩ := hxq.out
      clear hxq
      go_wp2_with (first | (go_at_call 13; refine (known_any _).mono ?_; rintro e w1 ⟨rfl, hxq⟩; obtain ⟨xq, rfl⟩ := hxq.out; clear hxq))
      go_returns
      exact ⟨by first | rfl | (simp; done) | (simp; omega), (by repeat (first | (with_reducible first | exact Ext.refl _ | assumption | apply Ext.alloc | apply Ext.ext | apply Ext.drew | refine Ext.setCell ?_ ?_ _) | (focus (simp [go_sem]; done))))⟩
    ·
      obtain ⟨t, ht, b0, b1, hR, hm⟩ := tai_some (tk := tk) (lp := false) hv hi wbt.1 wbt.2 (by rw [hd]; decide) (by rw [hd]; decide) (by omega) (by omega)
      obtain ⟨s2, lp2, hu, hR2, -⟩ := utc_fine2 10 T hv t b0 b1
      obtain ⟨rfl, rfl⟩ := hR.unique (okv hv) hR2
      rw [hm] at hu
      have HT := Lib.hid ht
      have HU := Lib.hid hu
      rw [hd] at HS
      clear hd ht hu hR hR2 hm
      refine (Step_any _ _ _ _ _ _ (hT.ext (by repeat (first | (with_reducible first | exact Ext.refl _ | assumption | apply Ext.alloc | apply Ext.ext | apply Ext.drew | refine Ext.setCell ?_ ?_ _) | (focus (simp [go_sem]; done)))))).mono ?_
      rw [HS.out]
      rintro e w1 ⟨rfl, hxq⟩
      obtain ⟨xq, rfl⟩ := hxq.out
      clear hxq
      go_wp2_with fail
      refine (TAI_any _ _ _ _ _ _ _ _ (hT.ext (by repeat (first | (with_reducible first | exact Ext.refl _ | assumption | apply Ext.alloc | apply Ext.ext | apply Ext.drew | refine Ext.setCell ?_ ?_ _) | (focus (simp [go_sem]; done)))))).mono ?_
      rw [HT.out]
      rintro e w1 ⟨rfl, hxq⟩
      obtain ⟨xq, rfl⟩ := hxq.out
      clear hxq
      go_wp2_with fail
      refine (UTC_any _ _ _ _ _ _ (hT.ext (by repeat (first | (with_reducible first | exact Ext.refl _ | assumption | apply Ext.alloc | apply Ext.ext | apply Ext.drew | refine Ext.setCell ?_ ?_ _) | (focus (simp [go_sem]; done))))) (by omega) (by omega)).mono ?_
      rw [HU.out]
      rintro e w1 ⟨rfl, hxq⟩
      obtain ⟨xq, rfl⟩ := hxq.out
      clear hxq
      go_wp2_with (first | (go_at_call 13; refine (known_any _).mono ?_; rintro e w1 ⟨rfl, hxq⟩; obtain ⟨xq, rfl⟩ := hxq.out; clear hxq))
      go_returns
      exact ⟨by first | rfl | (simp; done) | (simp; omega), (by repeat (first | (with_reducible first | exact Ext.refl _ | assumption | apply Ext.alloc | apply Ext.ext | apply Ext.drew | refine Ext.setCell ?_ ?_ _) | (focus (simp [go_sem]; done))))⟩
    ·
      obtain ⟨t, ht, b0, b1, hR, hm⟩ := tai_some (tk := tk) (lp := true) hv hi wbt.1 wbt.2 (by rw [hd]; decide) (by rw [hd]; decide) (by omega) (by omega)
      obtain ⟨s2, lp2, hu, hR2, -⟩ := utc_fine2 10 T hv t b0 b1
      obtain ⟨rfl, rfl⟩ := hR.unique (okv hv) hR2
      rw [hm] at hu
      have HT := Lib.hid ht
      have HU := Lib.hid hu
      rw [hd] at HS
      clear hd ht hu hR hR2 hm
      refine (Step_any _ _ _ _ _ _ (hT.ext (by repeat (first | (with_reducible first | exact Ext.refl _ | assumption | apply Ext.alloc | apply Ext.ext | apply Ext.drew | refine Ext.setCell ?_ ?_ _) | (focus (simp [go_sem]; done)))))).mono ?_
      rw [HS.out]
      rintro e w1 ⟨rfl, hxq⟩
      obtain ⟨xq, rfl⟩ := hxq.out
      clear hxq
      go_wp2_with fail
      refine (TAI_any _ _ _ _ _ _ _ _ (hT.ext (by repeat (first | (with_reducible first | exact Ext.refl _ | assumption | apply Ext.alloc | apply Ext.ext | apply Ext.drew | refine Ext.setCell ?_ ?_ _) | (focus (simp [go_sem]; done)))))).mono ?_
      rw [HT.out]
      rintro e w1 ⟨rfl, hxq⟩
      obtain ⟨xq, rfl⟩ := hxq.out
      clear hxq
      go_wp2_with fail
      refine (UTC_any _ _ _ _ _ _ (hT.ext (by repeat (first | (with_reducible first | exact Ext.refl _ | assumption | apply Ext.alloc | apply Ext.ext | apply Ext.drew | refine Ext.setCell ?_ ?_ _) | (focus (simp [go_sem]; done))))) (by omega) (by omega)).mono ?_
      rw [HU.out]
      rintro e w1 ⟨rfl, hxq⟩
      obtain ⟨xq, rfl⟩ := hxq.out
      clear hxq
      go_wp2_with (first | (go_at_call 13; refine (known_any _).mono ?_; rintro e w1 ⟨rfl, hxq⟩; obtain ⟨xq, rfl⟩ := hxq.out; clear hxq))
      go_returns
      exact ⟨by first | rfl | (simp; done) | (simp; omega), (by repeat (first | (with_reducible first | exact Ext.refl _ | assumption | apply Ext.alloc | apply Ext.ext | apply Ext.drew | refine Ext.setCell ?_ ?_ _) | (focus (simp [go_sem]; done))))⟩

end Go.Proofs.Ytocancjdaefjoaa
