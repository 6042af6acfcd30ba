/- The walks of the program's functions on leap seconds, part four: UTC, Number. -/
import Derived.Test.YtocancjdaefjoaaLeapC
namespace Go.Proofs.Ytocancjdaefjoaa
open Go.RowKit Go.Sec Go.Leap BigFrame

theorem inB_false {s : Int} (h : inB s = false) : ¬ (0 ≤ s ∧ s ≤ 274877906944) := fun h' => by rw [inB_iff.2 h'] at h; cases h

set_option maxHeartbeats 4000000 in
theorem UTC_any (first : Int) (a : Option Addr) (cap : Nat) (L : List (Int × Int)) (t : Int) (w : World) (hT : Tb w a L) (ht0 : -8796093022208 ≤ t / 1048576) (ht1 : t / 1048576 ≤ 8796093022207) :
    Calls Try.prog 11 #[.agg #[.int .i64 first, .slice a L.length cap], .int .i64 t] w fun e w' => e = .returned (.tuple #[.agg #[.int .i64 (utcP first L t).1.1, .bool (utcP first L t).1.2.1, .int .i64 (utcP first L t).1.2.2], .int .i64 (utcP first L t).2]) ∧ Ext w w' := by
  cases hv : vldB first L
  case false =>
    have HR := Lib.hid (utc_bad first L hv t)
    go_enter Try.func11, Try.ntmps11
    go_wp2_with (first
      | (go_at_call 14; refine (valid_any _ _ _ _ _ (hT.ext (by repeat (first | (with_reducible first | exact Ext.refl _ | assumption | apply Ext.alloc | apply Ext.ext | apply Ext.drew | refine Ext.setCell ?_ ?_ _) | (focus (simp [go_sem]; done)))))).mono ?_; rintro e w1 ⟨rfl, hxq⟩; obtain ⟨xq, rfl⟩ := hxq.out; clear hxq))
    go_returns
    exact ⟨by rw [HR.out], (by repeat (first | (with_reducible first | exact Ext.refl _ | assumption | apply Ext.alloc | apply Ext.ext | apply Ext.drew | refine Ext.setCell ?_ ?_ _) | (focus (simp [go_sem]; done))))⟩
  case true =>
    have hfb := (vldB_iff.1 hv).1
    have hfb2 := (vldB_iff.1 hv).2.1
    have hmax := hT.max
    go_enter Try.func11, Try.ntmps11
    go_wp2_with (first
      | (go_at_call 14; refine (valid_any _ _ _ _ _ (hT.ext (by repeat (first | (with_reducible first | exact Ext.refl _ | assumption | apply Ext.alloc | apply Ext.ext | apply Ext.drew | refine Ext.setCell ?_ ?_ _) | (focus (simp [go_sem]; done)))))).mono ?_; rintro e w1 ⟨rfl, hxq⟩; obtain ⟨xq, rfl⟩ := hxq.out; clear hxq))
    (refine wp_region_ext (by kernel_rfl) (by kernel_rfl) ?_; (repeat (go_big_quiet_step (((go_at_call 25; exact Calls.inExt (second_any _ _)))))); refine wpQuiet_nil ?_; rintro _ ⟨xq, rfl⟩)
    go_wp2_with fail
    generalize hW : ((((w.alloc _).alloc _).ext _).ext _ : World) = W
    have hWx : Ext w W := by rw [← hW]; exact (by repeat (first | (with_reducible first | exact Ext.refl _ | assumption | apply Ext.alloc | apply Ext.ext | apply Ext.drew | refine Ext.setCell ?_ ?_ _) | (focus (simp [go_sem]; done))))
    have hbox0 : W.cell? ⟨w.heap.size, 0, none⟩ = some (.int .i64 first) := by rw [← hW]; simp [go_sem]
    have hbox1 : W.cell? ⟨w.heap.size, 1, none⟩ = some (.slice a L.length cap) := by rw [← hW]; simp [go_sem]
    have hr0 : W.cell? ⟨w.heap.size + 1, 0, none⟩ = some (.int .i64 0) := by rw [← hW]; simp [go_sem]
    have hr1 : W.cell? ⟨w.heap.size + 1, 1, none⟩ = some (.bool false) := by rw [← hW]; simp [go_sem]
    have hr2 : W.cell? ⟨w.heap.size + 1, 2, none⟩ = some (.int .i64 0) := by rw [← hW]; simp [go_sem]
    have hrf : ∀ o, W.frozen? ⟨w.heap.size + 1, o, none⟩ = false := by rw [← hW]; intro o; simp [go_sem]
    have hz : BlkLt w.heap.size W := by rw [← hW]; infer_instance
    have hz' : BlkLt (w.heap.size + 1) W := by rw [← hW]; infer_instance
    clear hW
    go_loopw [6, 23] (fun v6 v23 wr => ∃ k : Nat, k ≤ L.length ∧ v23 = .int .i64 k ∧ v6 = .int .i64 (sfold (t / 1048576) (t / 1048576 - first) (L.take k)) ∧ ∃ x, wr = W.ext x) (fun _ v23 _ => L.length - (intOf v23).toNat)
    case atStart => exact ⟨0, Nat.zero_le _, rfl, rfl, Ext.out (Ext.refl _)⟩
    case round =>
      obtain ⟨k, hk, rfl, rfl, x, rfl⟩ := hrel
      by_cases hlt : k < L.length
      · obtain ⟨b, off, rfl, hb, hc, hd⟩ := (hT.ext hWx).at k hlt
        haveI : BlkLt b W := ⟨hb⟩
        have hbd := elem_at hv k hlt
        have HS := Lib.hid (sfold_take (t / 1048576) (t / 1048576 - first) L k hlt)
        by_cases hs : (L[k]).1 ≤ t / 1048576 - (L[k]).2
        all_goals
          go_wp2_with fail
          (refine wp_region_ext (by kernel_rfl) (by kernel_rfl) ?_; (repeat (go_big_quiet_step (((go_at_call 25; exact Calls.inExt (second_any _ _)))))); refine wpQuiet_nil ?_; rintro _ ⟨xq, rfl⟩)
          go_wp2_with fail
          go_roundw
          case rel => exact ⟨k + 1, by omega, by go_num, by rw [HS.out]; first | rw [if_pos (by omega)] | rw [if_neg (by omega)], Ext.out (by repeat (first | (with_reducible first | exact Ext.refl _ | assumption | apply Ext.alloc | apply Ext.ext | apply Ext.drew | refine Ext.setCell ?_ ?_ _) | (focus (simp [go_sem]; done))))⟩
          case measure => simp [intOf]; omega
      · have hkk : k = L.length := by omega
        subst hkk
        rw [List.take_length]
        have hsb := sfold_bd first L hv (t / 1048576) ht0 ht1 _ rfl
        generalize hs : sfold (t / 1048576) (t / 1048576 - first) L = s at *
        have hso := offs_at hv (s - 1)
        have H1 := Lib.hid (utc_leap first L hv t s hs.symm)
        have H2 := Lib.hid (utc_plain first L hv t s hs.symm)
        clear hs
        cases h1 : inB (s - 1)
        · have hin := inB_false h1
          cases h4 : inB s
          · have h4' := inB_false h4
            have HR := Lib.hid ((H2.out (fun h => by have := (H1.out h).1; rw [h1] at this; cases this)).2 h4)
            clear H1 H2
            go_wp2_with fail
            (refine wp_region_ext (by kernel_rfl) (by kernel_rfl) ?_; (repeat (go_big_quiet_step ((first | (go_at_call 26; exact Calls.inExt (Calls.val (in_any _ _) (congrArg Value.bool h1))) | (go_at_call 27; exact Calls.inExt (step_any _ _ _ _ _ _ (by omega) (by omega) (hT.ext (by repeat (first | (with_reducible first | exact Ext.refl _ | assumption | apply Ext.alloc | apply Ext.ext | apply Ext.drew | refine Ext.setCell ?_ ?_ _) | (focus (simp [go_sem]; done))))) hv)) | (go_at_call 28; exact Calls.inExt (offset_any _ _ _ _ _ _ (hT.ext (by repeat (first | (with_reducible first | exact Ext.refl _ | assumption | apply Ext.alloc | apply Ext.ext | apply Ext.drew | refine Ext.setCell ?_ ?_ _) | (focus (simp [go_sem]; done))))))) | (go_at_call 25; exact Calls.inExt (second_any _ _)))))); refine wpQuiet_nil ?_; rintro _ ⟨xq, rfl⟩)
            go_wp2_with (first | (go_at_call 26; refine (in_any _ _).mono ?_; rintro e w1 ⟨rfl, hxq⟩; obtain ⟨xq, rfl⟩ := hxq.out; clear hxq) | (go_at_call 29; refine (part_any _ _).mono ?_; rintro e w1 ⟨rfl, hxq⟩; obtain ⟨xq, rfl⟩ := hxq.out; clear hxq))
            refine bodyPost_ret (v := .tuple #[.agg #[.int .i64 0, .bool false, .int .i64 0], .int .i64 9]) (by simp [results, Try.results11, go_sem, hr0, hr1, hr2]) rfl ?_
            exact ⟨by rw [HR.out], (by repeat (first | (with_reducible first | exact Ext.refl _ | assumption | apply Ext.alloc | apply Ext.ext | apply Ext.drew | refine Ext.setCell ?_ ?_ _) | (focus (simp [go_sem]; done))))⟩
          ·
            have HR := Lib.hid ((H2.out (fun h => by have := (H1.out h).1; rw [h1] at this; cases this)).1 h4)
            clear H1 H2
            go_wp2_with fail
            (refine wp_region_ext (by kernel_rfl) (by kernel_rfl) ?_; (repeat (go_big_quiet_step ((first | (go_at_call 26; exact Calls.inExt (Calls.val (in_any _ _) (congrArg Value.bool h1))) | (go_at_call 27; exact Calls.inExt (step_any _ _ _ _ _ _ (by omega) (by omega) (hT.ext (by repeat (first | (with_reducible first | exact Ext.refl _ | assumption | apply Ext.alloc | apply Ext.ext | apply Ext.drew | refine Ext.setCell ?_ ?_ _) | (focus (simp [go_sem]; done))))) hv)) | (go_at_call 28; exact Calls.inExt (offset_any _ _ _ _ _ _ (hT.ext (by repeat (first | (with_reducible first | exact Ext.refl _ | assumption | apply Ext.alloc | apply Ext.ext | apply Ext.drew | refine Ext.setCell ?_ ?_ _) | (focus (simp [go_sem]; done))))))) | (go_at_call 25; exact Calls.inExt (second_any _ _)))))); refine wpQuiet_nil ?_; rintro _ ⟨xq, rfl⟩)
            go_wp2_with (first | (go_at_call 26; refine (in_any _ _).mono ?_; rintro e w1 ⟨rfl, hxq⟩; obtain ⟨xq, rfl⟩ := hxq.out; clear hxq) | (go_at_call 29; refine (part_any _ _).mono ?_; rintro e w1 ⟨rfl, hxq⟩; obtain ⟨xq, rfl⟩ := hxq.out; clear hxq))
            refine bodyPost_ret (v := .tuple #[.agg #[.int .i64 s, .bool false, .int .i64 (t % 1048576)], .int .i64 0]) (by simp [results, Try.results11, go_sem, hr0, hr1, hr2]) rfl ?_
            exact ⟨by rw [HR.out], (by repeat (first | (with_reducible first | exact Ext.refl _ | assumption | apply Ext.alloc | apply Ext.ext | apply Ext.drew | refine Ext.setCell ?_ ?_ _) | (focus (simp [go_sem]; done))))⟩
        · have hin := in_of h1
          cases h2 : (stp first L (s - 1) == 1)
          ·
            cases h4 : inB s
            · have h4' := inB_false h4
              have HR := Lib.hid ((H2.out (fun h => by rw [beq_eq_false_iff_ne] at h2; exact h2 h.1)).2 h4)
              clear H1 H2
              go_wp2_with fail
              (refine wp_region_ext (by kernel_rfl) (by kernel_rfl) ?_; (repeat (go_big_quiet_step ((first | (go_at_call 26; exact Calls.inExt (Calls.val (in_any _ _) (congrArg Value.bool h1))) | (go_at_call 27; exact Calls.inExt (step_any _ _ _ _ _ _ (by omega) (by omega) (hT.ext (by repeat (first | (with_reducible first | exact Ext.refl _ | assumption | apply Ext.alloc | apply Ext.ext | apply Ext.drew | refine Ext.setCell ?_ ?_ _) | (focus (simp [go_sem]; done))))) hv)) | (go_at_call 28; exact Calls.inExt (offset_any _ _ _ _ _ _ (hT.ext (by repeat (first | (with_reducible first | exact Ext.refl _ | assumption | apply Ext.alloc | apply Ext.ext | apply Ext.drew | refine Ext.setCell ?_ ?_ _) | (focus (simp [go_sem]; done))))))) | (go_at_call 25; exact Calls.inExt (second_any _ _)))))); refine wpQuiet_nil ?_; rintro _ ⟨xq, rfl⟩)
              go_wp2_with (first | (go_at_call 26; refine (in_any _ _).mono ?_; rintro e w1 ⟨rfl, hxq⟩; obtain ⟨xq, rfl⟩ := hxq.out; clear hxq) | (go_at_call 29; refine (part_any _ _).mono ?_; rintro e w1 ⟨rfl, hxq⟩; obtain ⟨xq, rfl⟩ := hxq.out; clear hxq))
              refine bodyPost_ret (v := .tuple #[.agg #[.int .i64 0, .bool false, .int .i64 0], .int .i64 9]) (by simp [results, Try.results11, go_sem, hr0, hr1, hr2]) rfl ?_
              exact ⟨by rw [HR.out], (by repeat (first | (with_reducible first | exact Ext.refl _ | assumption | apply Ext.alloc | apply Ext.ext | apply Ext.drew | refine Ext.setCell ?_ ?_ _) | (focus (simp [go_sem]; done))))⟩
            ·
              have HR := Lib.hid ((H2.out (fun h => by rw [beq_eq_false_iff_ne] at h2; exact h2 h.1)).1 h4)
              clear H1 H2
              go_wp2_with fail
              (refine wp_region_ext (by kernel_rfl) (by kernel_rfl) ?_; (repeat (go_big_quiet_step ((first | (go_at_call 26; exact Calls.inExt (Calls.val (in_any _ _) (congrArg Value.bool h1))) | (go_at_call 27; exact Calls.inExt (step_any _ _ _ _ _ _ (by omega) (by omega) (hT.ext (by repeat (first | (with_reducible first | exact Ext.refl _ | assumption | apply Ext.alloc | apply Ext.ext | apply Ext.drew | refine Ext.setCell ?_ ?_ _) | (focus (simp [go_sem]; done))))) hv)) | (go_at_call 28; exact Calls.inExt (offset_any _ _ _ _ _ _ (hT.ext (by repeat (first | (with_reducible first | exact Ext.refl _ | assumption | apply Ext.alloc | apply Ext.ext | apply Ext.drew | refine Ext.setCell ?_ ?_ _) | (focus (simp [go_sem]; done))))))) | (go_at_call 25; exact Calls.inExt (second_any _ _)))))); refine wpQuiet_nil ?_; rintro _ ⟨xq, rfl⟩)
              go_wp2_with (first | (go_at_call 26; refine (in_any _ _).mono ?_; rintro e w1 ⟨rfl, hxq⟩; obtain ⟨xq, rfl⟩ := hxq.out; clear hxq) | (go_at_call 29; refine (part_any _ _).mono ?_; rintro e w1 ⟨rfl, hxq⟩; obtain ⟨xq, rfl⟩ := hxq.out; clear hxq))
              refine bodyPost_ret (v := .tuple #[.agg #[.int .i64 s, .bool false, .int .i64 (t % 1048576)], .int .i64 0]) (by simp [results, Try.results11, go_sem, hr0, hr1, hr2]) rfl ?_
              exact ⟨by rw [HR.out], (by repeat (first | (with_reducible first | exact Ext.refl _ | assumption | apply Ext.alloc | apply Ext.ext | apply Ext.drew | refine Ext.setCell ?_ ?_ _) | (focus (simp [go_sem]; done))))⟩
          · cases h3 : (t / 1048576 - offs first L (s - 1) == s)
            ·
              cases h4 : inB s
              · have h4' := inB_false h4
                have HR := Lib.hid ((H2.out (fun h => by rw [beq_eq_false_iff_ne] at h3; exact h3 h.2)).2 h4)
                clear H1 H2
                go_wp2_with fail
                (refine wp_region_ext (by kernel_rfl) (by kernel_rfl) ?_; (repeat (go_big_quiet_step ((first | (go_at_call 26; exact Calls.inExt (Calls.val (in_any _ _) (congrArg Value.bool h1))) | (go_at_call 27; exact Calls.inExt (step_any _ _ _ _ _ _ (by omega) (by omega) (hT.ext (by repeat (first | (with_reducible first | exact Ext.refl _ | assumption | apply Ext.alloc | apply Ext.ext | apply Ext.drew | refine Ext.setCell ?_ ?_ _) | (focus (simp [go_sem]; done))))) hv)) | (go_at_call 28; exact Calls.inExt (offset_any _ _ _ _ _ _ (hT.ext (by repeat (first | (with_reducible first | exact Ext.refl _ | assumption | apply Ext.alloc | apply Ext.ext | apply Ext.drew | refine Ext.setCell ?_ ?_ _) | (focus (simp [go_sem]; done))))))) | (go_at_call 25; exact Calls.inExt (second_any _ _)))))); refine wpQuiet_nil ?_; rintro _ ⟨xq, rfl⟩)
                go_wp2_with (first | (go_at_call 26; refine (in_any _ _).mono ?_; rintro e w1 ⟨rfl, hxq⟩; obtain ⟨xq, rfl⟩ := hxq.out; clear hxq) | (go_at_call 29; refine (part_any _ _).mono ?_; rintro e w1 ⟨rfl, hxq⟩; obtain ⟨xq, rfl⟩ := hxq.out; clear hxq))
                refine bodyPost_ret (v := .tuple #[.agg #[.int .i64 0, .bool false, .int .i64 0], .int .i64 9]) (by simp [results, Try.results11, go_sem, hr0, hr1, hr2]) rfl ?_
                exact ⟨by rw [HR.out], (by repeat (first | (with_reducible first | exact Ext.refl _ | assumption | apply Ext.alloc | apply Ext.ext | apply Ext.drew | refine Ext.setCell ?_ ?_ _) | (focus (simp [go_sem]; done))))⟩
              ·
                have HR := Lib.hid ((H2.out (fun h => by rw [beq_eq_false_iff_ne] at h3; exact h3 h.2)).1 h4)
                clear H1 H2
                go_wp2_with fail
                (refine wp_region_ext (by kernel_rfl) (by kernel_rfl) ?_; (repeat (go_big_quiet_step ((first | (go_at_call 26; exact Calls.inExt (Calls.val (in_any _ _) (congrArg Value.bool h1))) | (go_at_call 27; exact Calls.inExt (step_any _ _ _ _ _ _ (by omega) (by omega) (hT.ext (by repeat (first | (with_reducible first | exact Ext.refl _ | assumption | apply Ext.alloc | apply Ext.ext | apply Ext.drew | refine Ext.setCell ?_ ?_ _) | (focus (simp [go_sem]; done))))) hv)) | (go_at_call 28; exact Calls.inExt (offset_any _ _ _ _ _ _ (hT.ext (by repeat (first | (with_reducible first | exact Ext.refl _ | assumption | apply Ext.alloc | apply Ext.ext | apply Ext.drew | refine Ext.setCell ?_ ?_ _) | (focus (simp [go_sem]; done))))))) | (go_at_call 25; exact Calls.inExt (second_any _ _)))))); refine wpQuiet_nil ?_; rintro _ ⟨xq, rfl⟩)
                go_wp2_with (first | (go_at_call 26; refine (in_any _ _).mono ?_; rintro e w1 ⟨rfl, hxq⟩; obtain ⟨xq, rfl⟩ := hxq.out; clear hxq) | (go_at_call 29; refine (part_any _ _).mono ?_; rintro e w1 ⟨rfl, hxq⟩; obtain ⟨xq, rfl⟩ := hxq.out; clear hxq))
                refine bodyPost_ret (v := .tuple #[.agg #[.int .i64 s, .bool false, .int .i64 (t % 1048576)], .int .i64 0]) (by simp [results, Try.results11, go_sem, hr0, hr1, hr2]) rfl ?_
                exact ⟨by rw [HR.out], (by repeat (first | (with_reducible first | exact Ext.refl _ | assumption | apply Ext.alloc | apply Ext.ext | apply Ext.drew | refine Ext.setCell ?_ ?_ _) | (focus (simp [go_sem]; done))))⟩
            ·
              have HR := Lib.hid ((H1.out ⟨beq_iff_eq.1 h2, beq_iff_eq.1 h3⟩).2)
              clear H1 H2
              go_wp2_with fail
              (refine wp_region_ext (by kernel_rfl) (by kernel_rfl) ?_; (repeat (go_big_quiet_step ((first | (go_at_call 26; exact Calls.inExt (Calls.val (in_any _ _) (congrArg Value.bool h1))) | (go_at_call 27; exact Calls.inExt (step_any _ _ _ _ _ _ (by omega) (by omega) (hT.ext (by repeat (first | (with_reducible first | exact Ext.refl _ | assumption | apply Ext.alloc | apply Ext.ext | apply Ext.drew | refine Ext.setCell ?_ ?_ _) | (focus (simp [go_sem]; done))))) hv)) | (go_at_call 28; exact Calls.inExt (offset_any _ _ _ _ _ _ (hT.ext (by repeat (first | (with_reducible first | exact Ext.refl _ | assumption | apply Ext.alloc | apply Ext.ext | apply Ext.drew | refine Ext.setCell ?_ ?_ _) | (focus (simp [go_sem]; done))))))) | (go_at_call 25; exact Calls.inExt (second_any _ _)))))); refine wpQuiet_nil ?_; rintro _ ⟨xq, rfl⟩)
              go_wp2_with (first | (go_at_call 26; refine (in_any _ _).mono ?_; rintro e w1 ⟨rfl, hxq⟩; obtain ⟨xq, rfl⟩ := hxq.out; clear hxq) | (go_at_call 29; refine (part_any _ _).mono ?_; rintro e w1 ⟨rfl, hxq⟩; obtain ⟨xq, rfl⟩ := hxq.out; clear hxq))
              refine bodyPost_ret (v := .tuple #[.agg #[.int .i64 (s - 1), .bool true, .int .i64 (t % 1048576)], .int .i64 0]) (by simp [results, Try.results11, go_sem, hr0, hr1, hr2]) rfl ?_
              exact ⟨by rw [HR.out], (by repeat (first | (with_reducible first | exact Ext.refl _ | assumption | apply Ext.alloc | apply Ext.ext | apply Ext.drew | refine Ext.setCell ?_ ?_ _) | (focus (simp [go_sem]; done))))⟩


theorem num_bad {first : Int} {L : List (Int × Int)} {s tk : Int} (h : (taiP first L s false tk).2 ≠ 0) : numP first L s tk = ((0, 0), (taiP first L s false tk).2) := by simp [numP, h]
theorem num_ins {first : Int} {L : List (Int × Int)} {s tk : Int} (h : (taiP first L s false tk).2 = 0) (h' : stp first L s = 1) : numP first L s tk = (((taiP first L s false tk).1, (taiP first L s false tk).1 + 1048576), 0) := by simp [numP, h, h']
theorem num_one {first : Int} {L : List (Int × Int)} {s tk : Int} (h : (taiP first L s false tk).2 = 0) (h' : stp first L s ≠ 1) : numP first L s tk = (((taiP first L s false tk).1, (taiP first L s false tk).1), 0) := by simp [numP, h, h']
theorem tai_fine {first : Int} {L : List (Int × Int)} {s tk : Int} {lp : Bool} (h : (taiP first L s lp tk).2 = 0) :
    vldB first L = true ∧ inB s = true ∧ 0 ≤ tk ∧ tk < 1048576 ∧ stp first L s ≠ -1 ∧ (lp = true → stp first L s = 1) ∧ (taiP first L s lp tk).1 = ((s + offs first L s) + (if lp then 1 else 0)) * 1048576 + tk := by
  rcases chk_cases first L s with ⟨hv, hc⟩ | ⟨hv, hi, hc⟩ | ⟨hv, hi, hc⟩
  · simp [taiP, hc] at h
  · simp [taiP, hc] at h
  · unfold taiP at h ⊢
    simp only [hc, ne_eq, not_true_eq_false, if_false] at h ⊢
    by_cases h1 : tk < 0 ∨ 1048576 ≤ tk
    · rw [if_pos h1] at h; cases h
    · rw [if_neg h1] at h ⊢
      by_cases h2 : stp first L s = -1 ∨ (lp = true ∧ stp first L s ≠ 1)
      · rw [if_pos h2] at h; cases h
      · rw [if_neg h2]
        refine ⟨hv, hi, by omega, by omega, fun h => h2 (.inl h), fun hl => ?_, rfl⟩
        exact Classical.byContradiction fun h3 => h2 (.inr ⟨hl, h3⟩)

set_option maxHeartbeats 4000000 in
theorem Number_any (first : Int) (a : Option Addr) (cap : Nat) (L : List (Int × Int)) (s tk : Int) (w : World) (hT : Tb w a L) :
    Calls Try.prog 17 #[.agg #[.int .i64 first, .slice a L.length cap], .int .i64 s, .int .i64 tk] w fun e w' => e = .returned (.tuple #[.agg #[.int .i64 (numP first L s tk).1.1, .int .i64 (numP first L s tk).1.2], .int .i64 (numP first L s tk).2]) ∧ Ext w w' := by
  by_cases hc : (taiP first L s false tk).2 = 0
  case neg =>
    have HR := Lib.hid (num_bad hc)
    have hc' : ((taiP first L s false tk).2 != 0) = true := by simpa using hc
    clear hc
    go_enter Try.func17, Try.ntmps17
    go_wp2_with (first
      | (go_at_call 12; refine (TAI_any _ _ _ _ _ _ _ _ (hT.ext (by repeat (first | (with_reducible first | exact Ext.refl _ | assumption | apply Ext.alloc | apply Ext.ext | apply Ext.drew | refine Ext.setCell ?_ ?_ _) | (focus (simp [go_sem]; done)))))).mono ?_; rintro e w1 ⟨rfl, hxq⟩; obtain ⟨xq, rfl⟩ := hxq.out; clear hxq))
    go_returns
    exact ⟨by rw [HR.out], (by repeat (first | (with_reducible first | exact Ext.refl _ | assumption | apply Ext.alloc | apply Ext.ext | apply Ext.drew | refine Ext.setCell ?_ ?_ _) | (focus (simp [go_sem]; done))))⟩
  case pos =>
    obtain ⟨hv, hi, ht0, ht1, hn, -, hval⟩ := tai_fine hc
    have hi' := in_of hi
    have ho := offs_at hv s
    have hb : -100000000000000000 ≤ (taiP first L s false tk).1 ∧ (taiP first L s false tk).1 ≤ 1000000000000000000 := by
      rw [hval]; simp; omega
    have hc' : ((taiP first L s false tk).2 != 0) = false := by simpa using hc
    by_cases hs : stp first L s = 1
    · have HR := Lib.hid (num_ins hc hs)
      have hs' : (stp first L s == 1) = true := by simpa using hs
      clear hc hs hval
      go_enter Try.func17, Try.ntmps17
      go_wp2_with (first
        | (go_at_call 12; refine (TAI_any _ _ _ _ _ _ _ _ (hT.ext (by repeat (first | (with_reducible first | exact Ext.refl _ | assumption | apply Ext.alloc | apply Ext.ext | apply Ext.drew | refine Ext.setCell ?_ ?_ _) | (focus (simp [go_sem]; done)))))).mono ?_; rintro e w1 ⟨rfl, hxq⟩; obtain ⟨xq, rfl⟩ := hxq.out; clear hxq)
        | (go_at_call 27; refine (step_any _ _ _ _ _ _ (by omega) (by omega) (hT.ext (by repeat (first | (with_reducible first | exact Ext.refl _ | assumption | apply Ext.alloc | apply Ext.ext | apply Ext.drew | refine Ext.setCell ?_ ?_ _) | (focus (simp [go_sem]; done))))) hv).mono ?_; rintro e w1 ⟨rfl, hxq⟩; obtain ⟨xq, rfl⟩ := hxq.out; clear hxq))
      go_returns
      exact ⟨by rw [HR.out], (by repeat (first | (with_reducible first | exact Ext.refl _ | assumption | apply Ext.alloc | apply Ext.ext | apply Ext.drew | refine Ext.setCell ?_ ?_ _) | (focus (simp [go_sem]; done))))⟩
    · have HR := Lib.hid (num_one hc hs)
      have hs' : (stp first L s == 1) = false := by simpa using hs
      clear hc hs hval
      go_enter Try.func17, Try.ntmps17
      go_wp2_with (first
        | (go_at_call 12; refine (TAI_any _ _ _ _ _ _ _ _ (hT.ext (by repeat (first | (with_reducible first | exact Ext.refl _ | assumption | apply Ext.alloc | apply Ext.ext | apply Ext.drew | refine Ext.setCell ?_ ?_ _) | (focus (simp [go_sem]; done)))))).mono ?_; rintro e w1 ⟨rfl, hxq⟩; obtain ⟨xq, rfl⟩ := hxq.out; clear hxq)
        | (go_at_call 27; refine (step_any _ _ _ _ _ _ (by omega) (by omega) (hT.ext (by repeat (first | (with_reducible first | exact Ext.refl _ | assumption | apply Ext.alloc | apply Ext.ext | apply Ext.drew | refine Ext.setCell ?_ ?_ _) | (focus (simp [go_sem]; done))))) hv).mono ?_; rintro e w1 ⟨rfl, hxq⟩; obtain ⟨xq, rfl⟩ := hxq.out; clear hxq))
      go_returns
      exact ⟨by rw [HR.out], (by repeat (first | (with_reducible first | exact Ext.refl _ | assumption | apply Ext.alloc | apply Ext.ext | apply Ext.drew | refine Ext.setCell ?_ ?_ _) | (focus (simp [go_sem]; done))))⟩

end Go.Proofs.Ytocancjdaefjoaa
