/- The walk of the reference's search for a reading. -/
import Derived.Test.YtocancjdaefjoaaLeapU
namespace Go.Proofs.Ytocancjdaefjoaa
open Go.RowKit Go.Sec Go.Leap BigFrame

def v10 (t : Int) : Bool := decide (-1152921504606846976 ≤ t ∧ t ≤ 1152921504606846976)
theorem v10_any (a : Int) (w : World) :
    Calls Try.prog 34 #[.int .i64 a] w fun e w' => e = .returned (.bool (v10 a)) ∧ Ext w w' := rvalid10_any a w
theorem v10_t {t : Int} (h : v10 t = true) : -1152921504606846976 ≤ t ∧ t ≤ 1152921504606846976 := of_decide_eq_true h
theorem v10_f {t : Int} (h : v10 t = false) : t < -1152921504606846976 ∨ 1152921504606846976 < t := by
  have := of_decide_eq_false h
  omega

/-- No reading was found from lo on, below hi. -/
def NoneBelow (f : Int) (L : List (Int × Int)) (t lo hi : Int) : Prop := ∀ s lp, lo ≤ s → s < hi → taiP f L s lp (t % 1048576) ≠ (t, 0)
/-- Of a second, so many readings were tried. -/
def Tried (f : Int) (L : List (Int × Int)) (t s : Int) (k : Nat) : Prop := (0 < k → taiP f L s false (t % 1048576) ≠ (t, 0)) ∧ (1 < k → taiP f L s true (t % 1048576) ≠ (t, 0))
theorem NoneBelow.step {f : Int} {L : List (Int × Int)} {t lo hi : Int} (h : NoneBelow f L t lo hi) (k : Tried f L t hi 2) : NoneBelow f L t lo (hi + 1) := by
  intro s lp h1 h2
  by_cases h3 : s < hi
  · exact h s lp h1 h3
  · obtain rfl : s = hi := by omega
    cases lp
    · exact k.1 (by decide)
    · exact k.2 (by decide)
theorem NoneBelow.done {f : Int} {L : List (Int × Int)} {t : Int} (hv : vldB f L = true) (h : NoneBelow f L t (t / 1048576 - 170) (t / 1048576 + 71)) : utcP f L t = ((0, false, 0), 9) := by
  rcases tai_of_utc hv t with h1 | ⟨s, lp, _, h2, h3, h4, _⟩
  · exact h1
  · exact absurd h2 (h s lp h3 (by omega))

set_option maxHeartbeats 8000000 in
theorem rUTC_any (first : Int) (a : Option Addr) (cap : Nat) (L : List (Int × Int)) (t : Int) (w : World) (hT : Tb w a L) :
    Calls Try.prog 21 #[.agg #[.int .i64 first, .slice a L.length cap], .int .i64 t] w fun e w' => e = .returned (.tuple #[.agg #[.int .i64 (utcP first L t).1.1, .bool (utcP first L t).1.2.1, .int .i64 (utcP first L t).1.2.2], .int .i64 (utcP first L t).2]) ∧ Ext w w' := by
  cases hv : vldB first L
  case false =>
    have HR := Lib.hid (utc_bad first L hv t)
    go_enter Try.func21, Try.ntmps21
    go_wp2_with (first
      | (go_at_call 24; refine (rvalid_any _ _ _ _ _ (hT.ext (by repeat (first | (with_reducible first | exact Ext.refl _ | assumption | apply Ext.alloc | apply Ext.ext | apply Ext.drew | refine Ext.setCell ?_ ?_ _) | (focus (simp [go_sem]; done)))))).mono ?_; rintro e w1 ⟨rfl, hxq⟩; obtain ⟨xq, rfl⟩ := hxq.out; clear hxq))
    go_returns
    exact ⟨by rw [HR.out], (by repeat (first | (with_reducible first | exact Ext.refl _ | assumption | apply Ext.alloc | apply Ext.ext | apply Ext.drew | refine Ext.setCell ?_ ?_ _) | (focus (simp [go_sem]; done))))⟩
  cases ht : v10 t
  case false =>
    have HR := Lib.hid (utc_far hv t (v10_f ht))
    go_enter Try.func21, Try.ntmps21
    go_wp2_with (first
      | (go_at_call 24; refine (rvalid_any _ _ _ _ _ (hT.ext (by repeat (first | (with_reducible first | exact Ext.refl _ | assumption | apply Ext.alloc | apply Ext.ext | apply Ext.drew | refine Ext.setCell ?_ ?_ _) | (focus (simp [go_sem]; done)))))).mono ?_; rintro e w1 ⟨rfl, hxq⟩; obtain ⟨xq, rfl⟩ := hxq.out; clear hxq)
      | (go_at_call 34; refine (v10_any _ _).mono ?_; rintro e w1 ⟨rfl, hxq⟩; obtain ⟨xq, rfl⟩ := hxq.out; clear hxq))
    go_returns
    exact ⟨by rw [HR.out], (by repeat (first | (with_reducible first | exact Ext.refl _ | assumption | apply Ext.alloc | apply Ext.ext | apply Ext.drew | refine Ext.setCell ?_ ?_ _) | (focus (simp [go_sem]; done))))⟩
  case true =>
    have hb := v10_t ht
    have hb0 : -1099511627776 ≤ t / 1048576 := by omega
    have hb1 : t / 1048576 ≤ 1099511627776 := by omega
    have HB := Lib.hid hb
    clear hb
    go_enter Try.func21, Try.ntmps21
    go_wp2_with (first
      | (go_at_call 24; refine (rvalid_any _ _ _ _ _ (hT.ext (by repeat (first | (with_reducible first | exact Ext.refl _ | assumption | apply Ext.alloc | apply Ext.ext | apply Ext.drew | refine Ext.setCell ?_ ?_ _) | (focus (simp [go_sem]; done)))))).mono ?_; rintro e w1 ⟨rfl, hxq⟩; obtain ⟨xq, rfl⟩ := hxq.out; clear hxq)
      | (go_at_call 34; refine (v10_any _ _).mono ?_; rintro e w1 ⟨rfl, hxq⟩; obtain ⟨xq, rfl⟩ := hxq.out; clear hxq)
      | (go_at_call 35; refine (rsecond_any _ _ HB.out.1 HB.out.2).mono ?_; rintro e w1 ⟨rfl, hxq⟩; obtain ⟨xq, rfl⟩ := hxq.out; clear hxq)
      | (go_at_call 36; refine (rpart_any _ _ HB.out.1 HB.out.2).mono ?_; rintro e w1 ⟨rfl, hxq⟩; obtain ⟨xq, rfl⟩ := hxq.out; clear hxq))
    generalize hW : ((((((w.alloc _).alloc _).ext _).ext _).ext _).ext _ : World) = W
    have hWx : Ext w W := by rw [← hW]; exact (by repeat (first | (with_reducible first | exact Ext.refl _ | assumption | apply Ext.alloc | apply Ext.ext | apply Ext.drew | refine Ext.setCell ?_ ?_ _) | (focus (simp [go_sem]; done))))
    have hbox0 : W.cell? ⟨w.heap.size, 0, none⟩ = some (.int .i64 first) := by rw [← hW]; simp [go_sem]
    have hbox1 : W.cell? ⟨w.heap.size, 1, none⟩ = some (.slice a L.length cap) := by rw [← hW]; simp [go_sem]
    have hr0 : W.cell? ⟨w.heap.size + 1, 0, none⟩ = some (.int .i64 0) := by rw [← hW]; simp [go_sem]
    have hr1 : W.cell? ⟨w.heap.size + 1, 1, none⟩ = some (.bool false) := by rw [← hW]; simp [go_sem]
    have hr2 : W.cell? ⟨w.heap.size + 1, 2, none⟩ = some (.int .i64 0) := by rw [← hW]; simp [go_sem]
    have hrf : ∀ o, W.frozen? ⟨w.heap.size + 1, o, none⟩ = false := by rw [← hW]; intro o; simp [go_sem]
    have hz : BlkLt w.heap.size W := by rw [← hW]; infer_instance
    have hz' : BlkLt (w.heap.size + 1) W := by rw [← hW]; infer_instance
    clear hW
    have hTW := hT.ext hWx
    clear hT
    have hp : t % 1048576 = t % 1048576 := rfl
    clear hp
    go_loopw [8] (fun v8 wr => ∃ s : Int, t / 1048576 - 170 ≤ s ∧ s ≤ t / 1048576 + 71 ∧ v8 = .int .i64 s ∧ NoneBelow first L t (t / 1048576 - 170) s ∧ ∃ x, wr = W.ext x) (fun v8 _ => (t / 1048576 + 71 - intOf v8).toNat)
    case atStart => exact ⟨_, Int.le_refl _, by omega, rfl, fun s lp h1 h2 => by omega, Ext.out (Ext.refl _)⟩
    case round =>
      obtain ⟨s, hs0, hs1, rfl, hN, x, rfl⟩ := hrel
      by_cases hs : s ≤ t / 1048576 + 70
      · go_wp2_with fail
        go_loopw [9] (fun v9 wr => ∃ k : Nat, k ≤ 2 ∧ v9 = .int .i64 k ∧ Tried first L t s k ∧ ∃ x, wr = W.ext x) (fun v9 _ => 2 - (intOf v9).toNat)
        case atStart => exact ⟨0, by omega, rfl, ⟨fun h => by omega, fun h => by omega⟩, x, rfl⟩
        case round =>
          obtain ⟨k, hk, rfl, hK, x2, rfl⟩ := hrel
          obtain rfl | rfl | rfl : k = 0 ∨ k = 1 ∨ k = 2 := by omega
          · by_cases hh : taiP first L s false (t % 1048576) = (t, 0)
            · have HR := Lib.hid (utc_of_tai hv hh)
              have HH := Lib.hid hh
              clear hh hK
              go_wp2_with fail
              refine (rTAI_any _ _ _ _ _ _ _ _ (hTW.ext (by repeat (first | (with_reducible first | exact Ext.refl _ | assumption | apply Ext.alloc | apply Ext.ext | apply Ext.drew | refine Ext.setCell ?_ ?_ _) | (focus (simp [go_sem]; done)))))).mono ?_
              rw [HH.out]
              rintro e w1 ⟨rfl, hxq⟩
              obtain ⟨xq, rfl⟩ := hxq.out
              clear hxq
              go_wp2_with fail
              refine bodyPost_ret (v := .tuple #[.agg #[.int .i64 s, .bool false, .int .i64 (t % 1048576)], .int .i64 0]) (by simp [results, Try.results21, go_sem, hr0, hr1, hr2]) rfl ?_
              exact ⟨by rw [HR.out], (by repeat (first | (with_reducible first | exact Ext.refl _ | assumption | apply Ext.alloc | apply Ext.ext | apply Ext.drew | refine Ext.setCell ?_ ?_ _) | (focus (simp [go_sem]; done))))⟩
            · have HK : Hid (Tried first L t s (0 + 1)) := Lib.hid ⟨fun _ => hh, fun h => absurd h (by decide)⟩
              by_cases h0 : (taiP first L s false (t % 1048576)).2 = 0
              · have q0 : ((taiP first L s false (t % 1048576)).2 == 0) = true := by rw [beq_iff_eq]; exact h0
                have q1 : ((taiP first L s false (t % 1048576)).1 == t) = false := by
                  rw [beq_eq_false_iff_ne]
                  intro h1
                  exact hh (Prod.ext h1 h0)
                clear hh h0 hK
                go_wp2_with (first | (go_at_call 20; refine (rTAI_any _ _ _ _ _ _ _ _ (hTW.ext (by repeat (first | (with_reducible first | exact Ext.refl _ | assumption | apply Ext.alloc | apply Ext.ext | apply Ext.drew | refine Ext.setCell ?_ ?_ _) | (focus (simp [go_sem]; done)))))).mono ?_; rintro e w1 ⟨rfl, hxq⟩; obtain ⟨xq, rfl⟩ := hxq.out; clear hxq))
                go_roundw
                case rel => exact ⟨0 + 1, by omega, by go_num, HK.out, Ext.out (by repeat (first | (with_reducible first | exact Ext.refl _ | assumption | apply Ext.alloc | apply Ext.ext | apply Ext.drew | refine Ext.setCell ?_ ?_ _) | (focus (simp [go_sem]; done))))⟩
                case measure => simp [intOf]
              · have q0 : ((taiP first L s false (t % 1048576)).2 == 0) = false := by rw [beq_eq_false_iff_ne]; exact h0
                clear hh h0 hK
                go_wp2_with (first | (go_at_call 20; refine (rTAI_any _ _ _ _ _ _ _ _ (hTW.ext (by repeat (first | (with_reducible first | exact Ext.refl _ | assumption | apply Ext.alloc | apply Ext.ext | apply Ext.drew | refine Ext.setCell ?_ ?_ _) | (focus (simp [go_sem]; done)))))).mono ?_; rintro e w1 ⟨rfl, hxq⟩; obtain ⟨xq, rfl⟩ := hxq.out; clear hxq))
                go_roundw
                case rel => exact ⟨0 + 1, by omega, by go_num, HK.out, Ext.out (by repeat (first | (with_reducible first | exact Ext.refl _ | assumption | apply Ext.alloc | apply Ext.ext | apply Ext.drew | refine Ext.setCell ?_ ?_ _) | (focus (simp [go_sem]; done))))⟩
                case measure => simp [intOf]
          · by_cases hh : taiP first L s true (t % 1048576) = (t, 0)
            · have HR := Lib.hid (utc_of_tai hv hh)
              have HH := Lib.hid hh
              clear hh hK
              go_wp2_with fail
              refine (rTAI_any _ _ _ _ _ _ _ _ (hTW.ext (by repeat (first | (with_reducible first | exact Ext.refl _ | assumption | apply Ext.alloc | apply Ext.ext | apply Ext.drew | refine Ext.setCell ?_ ?_ _) | (focus (simp [go_sem]; done)))))).mono ?_
              rw [HH.out]
              rintro e w1 ⟨rfl, hxq⟩
              obtain ⟨xq, rfl⟩ := hxq.out
              clear hxq
              go_wp2_with fail
              refine bodyPost_ret (v := .tuple #[.agg #[.int .i64 s, .bool true, .int .i64 (t % 1048576)], .int .i64 0]) (by simp [results, Try.results21, go_sem, hr0, hr1, hr2]) rfl ?_
              exact ⟨by rw [HR.out], (by repeat (first | (with_reducible first | exact Ext.refl _ | assumption | apply Ext.alloc | apply Ext.ext | apply Ext.drew | refine Ext.setCell ?_ ?_ _) | (focus (simp [go_sem]; done))))⟩
            · have HK : Hid (Tried first L t s (1 + 1)) := Lib.hid ⟨fun _ => hK.1 (by decide), fun _ => hh⟩
              by_cases h0 : (taiP first L s true (t % 1048576)).2 = 0
              · have q0 : ((taiP first L s true (t % 1048576)).2 == 0) = true := by rw [beq_iff_eq]; exact h0
                have q1 : ((taiP first L s true (t % 1048576)).1 == t) = false := by
                  rw [beq_eq_false_iff_ne]
                  intro h1
                  exact hh (Prod.ext h1 h0)
                clear hh h0 hK
                go_wp2_with (first | (go_at_call 20; refine (rTAI_any _ _ _ _ _ _ _ _ (hTW.ext (by repeat (first | (with_reducible first | exact Ext.refl _ | assumption | apply Ext.alloc | apply Ext.ext | apply Ext.drew | refine Ext.setCell ?_ ?_ _) | (focus (simp [go_sem]; done)))))).mono ?_; rintro e w1 ⟨rfl, hxq⟩; obtain ⟨xq, rfl⟩ := hxq.out; clear hxq))
                go_roundw
                case rel => exact ⟨1 + 1, by omega, by go_num, HK.out, Ext.out (by repeat (first | (with_reducible first | exact Ext.refl _ | assumption | apply Ext.alloc | apply Ext.ext | apply Ext.drew | refine Ext.setCell ?_ ?_ _) | (focus (simp [go_sem]; done))))⟩
                case measure => simp [intOf]
              · have q0 : ((taiP first L s true (t % 1048576)).2 == 0) = false := by rw [beq_eq_false_iff_ne]; exact h0
                clear hh h0 hK
                go_wp2_with (first | (go_at_call 20; refine (rTAI_any _ _ _ _ _ _ _ _ (hTW.ext (by repeat (first | (with_reducible first | exact Ext.refl _ | assumption | apply Ext.alloc | apply Ext.ext | apply Ext.drew | refine Ext.setCell ?_ ?_ _) | (focus (simp [go_sem]; done)))))).mono ?_; rintro e w1 ⟨rfl, hxq⟩; obtain ⟨xq, rfl⟩ := hxq.out; clear hxq))
                go_roundw
                case rel => exact ⟨1 + 1, by omega, by go_num, HK.out, Ext.out (by repeat (first | (with_reducible first | exact Ext.refl _ | assumption | apply Ext.alloc | apply Ext.ext | apply Ext.drew | refine Ext.setCell ?_ ?_ _) | (focus (simp [go_sem]; done))))⟩
                case measure => simp [intOf]
          · have HN := Lib.hid (hN.step hK)
            clear hN hK
            go_wp2_with fail
            go_roundw
            case rel => exact ⟨s + 1, by omega, by omega, by go_num, HN.out, x2, rfl⟩
            case measure => simp [intOf]; omega
      · obtain rfl : s = t / 1048576 + 71 := by omega
        have HR := Lib.hid (hN.done hv)
        clear hN
        go_wp2_with fail
        refine bodyPost_ret (v := .tuple #[.agg #[.int .i64 0, .bool false, .int .i64 0], .int .i64 9]) (by simp [results, Try.results21, go_sem, hr0, hr1, hr2]) rfl ?_
        exact ⟨by rw [HR.out], (by repeat (first | (with_reducible first | exact Ext.refl _ | assumption | apply Ext.alloc | apply Ext.ext | apply Ext.drew | refine Ext.setCell ?_ ?_ _) | (focus (simp [go_sem]; done))))⟩
end Go.Proofs.Ytocancjdaefjoaa
