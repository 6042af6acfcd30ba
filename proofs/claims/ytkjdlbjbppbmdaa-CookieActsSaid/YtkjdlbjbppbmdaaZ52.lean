/- Lemmas of this claim, several texts joined. -/
import Derived.Test.YtkjdlbjbppbmdaaZ48
import Derived.Test.YtkjdlbjbppbmdaaZ51
set_option linter.unusedVariables false
set_option linter.unusedSimpArgs false
/- Layer 19: the law CookieActs. -/
namespace Go.Cook
open Go.Sha Go.Oct Go.Aes Go.Sec
theorem startE_len (id : Int) (seed : List UInt8) : (startE id seed).1.length ≤ 4 := by
  unfold startE; repeat' split
  all_goals simp
theorem rotateE_len (r : Ring) : (rotateE r).1.length ≤ 4 := by
  unfold rotateE; repeat' split
  · simp
  · simp
  · show (rotR r).length ≤ 4
    rw [rotR_length]; omega
end Go.Cook
namespace Go.Proofs.Ytkjdlbjbppbmdaa
open Go.RowKit Go.Sec Go.Oct Go.Sha Go.Aes Go.Cook BigFrame

theorem lightR_spec {r : Ring} (h : lightR r = true) : r.length ≤ 8 := by
  unfold lightR at h
  rw [Bool.and_eq_true] at h
  simpa using h.1

set_option maxRecDepth 100000 in
set_option maxHeartbeats 8000000 in
theorem cookieActs_walk (v0 : Value) (r : Ring) (id : Int) (a2 : Option Addr) (n2 c2 : Nat) (algo : Int) (v4 : Value) (pq : List UInt8 × List UInt8) (a5 : Option Addr) (n5 c5 : Nat) (a6 : Option Addr) (n6 c6 : Nat) (bb nn cc : List UInt8) (w : World)
    (hr : RgR w v0 r) (h2 : Sl w a2 n2 bb) (e2 : n2 ≤ c2) (hp : PrR w v4 pq) (h5 : Sl w a5 n5 nn) (e5 : n5 ≤ c5) (h6 : Sl w a6 n6 cc) (e6 : n6 ≤ c6) :
    Calls Try.prog 9 #[v0, .int .i64 id, .slice a2 n2 c2, .int .i64 algo, v4, .slice a5 n5 c5, .slice a6 n6 c6] w fun e w' => e = .returned (.bool true) ∧ Ext w w' := by
  have hkn := fun W => known19_any W
  obtain ⟨a0, n0, c0, rfl, hI, hIc⟩ := hr
  obtain ⟨u, nu, cu, v, nv, cv, rfl, hu, hcu, hv, hcv⟩ := hp
  obtain ⟨up, dn⟩ := pq
  simp only at hu hv
  have hli := fun W H => light19_any a0 n0 c0 r W H
  cases hL : lightR r
  · rw [hL] at hli
    go_enter Try.func9, Try.ntmps9
    go_wp2_with (first
      | (go_at_call 52; refine (hli _ (hI.ext (by repeat (first | (with_reducible first | exact Ext.refl _ | assumption | apply Ext.alloc | apply Ext.ext | apply Ext.drew | refine Ext.setCell ?_ ?_ _) | (focus (simp [go_sem]; done)))))).mono ?_; rintro e w1 ⟨rfl, hxq⟩; obtain ⟨xq, rfl⟩ := hxq.out; clear hxq)
      | (go_at_call 43; refine (hkn _).mono ?_; rintro e w1 ⟨rfl, hxq⟩; obtain ⟨xq, rfl⟩ := hxq.out; clear hxq)
      | fail)
    go_ret
    exact ⟨rfl, (by repeat (first | (with_reducible first | exact Ext.refl _ | assumption | apply Ext.alloc | apply Ext.ext | apply Ext.drew | refine Ext.setCell ?_ ?_ _) | (focus (simp [go_sem]; done))))⟩
  · rw [hL] at hli
    have hn8 : n0 ≤ 8 := by have := lightR_spec hL; have := hI.len; omega
    by_cases x2 : 60 < n2
    · have i2 : (60 : Int) < (n2 : Int) := by omega
      go_enter Try.func9, Try.ntmps9
      go_wp2_with (first
        | (go_at_call 52; refine (hli _ (hI.ext (by repeat (first | (with_reducible first | exact Ext.refl _ | assumption | apply Ext.alloc | apply Ext.ext | apply Ext.drew | refine Ext.setCell ?_ ?_ _) | (focus (simp [go_sem]; done)))))).mono ?_; rintro e w1 ⟨rfl, hxq⟩; obtain ⟨xq, rfl⟩ := hxq.out; clear hxq)
        | (go_at_call 43; refine (hkn _).mono ?_; rintro e w1 ⟨rfl, hxq⟩; obtain ⟨xq, rfl⟩ := hxq.out; clear hxq)
        | fail)
      go_ret
      exact ⟨rfl, (by repeat (first | (with_reducible first | exact Ext.refl _ | assumption | apply Ext.alloc | apply Ext.ext | apply Ext.drew | refine Ext.setCell ?_ ?_ _) | (focus (simp [go_sem]; done))))⟩
    · have i2 : ¬ (60 : Int) < (n2 : Int) := by omega
      by_cases x3 : 60 < nu
      · have i3 : (60 : Int) < (nu : Int) := by omega
        go_enter Try.func9, Try.ntmps9
        go_wp2_with (first
          | (go_at_call 52; refine (hli _ (hI.ext (by repeat (first | (with_reducible first | exact Ext.refl _ | assumption | apply Ext.alloc | apply Ext.ext | apply Ext.drew | refine Ext.setCell ?_ ?_ _) | (focus (simp [go_sem]; done)))))).mono ?_; rintro e w1 ⟨rfl, hxq⟩; obtain ⟨xq, rfl⟩ := hxq.out; clear hxq)
          | (go_at_call 43; refine (hkn _).mono ?_; rintro e w1 ⟨rfl, hxq⟩; obtain ⟨xq, rfl⟩ := hxq.out; clear hxq)
          | fail)
        go_ret
        exact ⟨rfl, (by repeat (first | (with_reducible first | exact Ext.refl _ | assumption | apply Ext.alloc | apply Ext.ext | apply Ext.drew | refine Ext.setCell ?_ ?_ _) | (focus (simp [go_sem]; done))))⟩
      · have i3 : ¬ (60 : Int) < (nu : Int) := by omega
        by_cases x4 : 60 < nv
        · have i4 : (60 : Int) < (nv : Int) := by omega
          go_enter Try.func9, Try.ntmps9
          go_wp2_with (first
            | (go_at_call 52; refine (hli _ (hI.ext (by repeat (first | (with_reducible first | exact Ext.refl _ | assumption | apply Ext.alloc | apply Ext.ext | apply Ext.drew | refine Ext.setCell ?_ ?_ _) | (focus (simp [go_sem]; done)))))).mono ?_; rintro e w1 ⟨rfl, hxq⟩; obtain ⟨xq, rfl⟩ := hxq.out; clear hxq)
            | (go_at_call 43; refine (hkn _).mono ?_; rintro e w1 ⟨rfl, hxq⟩; obtain ⟨xq, rfl⟩ := hxq.out; clear hxq)
            | fail)
          go_ret
          exact ⟨rfl, (by repeat (first | (with_reducible first | exact Ext.refl _ | assumption | apply Ext.alloc | apply Ext.ext | apply Ext.drew | refine Ext.setCell ?_ ?_ _) | (focus (simp [go_sem]; done))))⟩
        · have i4 : ¬ (60 : Int) < (nv : Int) := by omega
          by_cases x5 : 60 < n5
          · have i5 : (60 : Int) < (n5 : Int) := by omega
            go_enter Try.func9, Try.ntmps9
            go_wp2_with (first
              | (go_at_call 52; refine (hli _ (hI.ext (by repeat (first | (with_reducible first | exact Ext.refl _ | assumption | apply Ext.alloc | apply Ext.ext | apply Ext.drew | refine Ext.setCell ?_ ?_ _) | (focus (simp [go_sem]; done)))))).mono ?_; rintro e w1 ⟨rfl, hxq⟩; obtain ⟨xq, rfl⟩ := hxq.out; clear hxq)
              | (go_at_call 43; refine (hkn _).mono ?_; rintro e w1 ⟨rfl, hxq⟩; obtain ⟨xq, rfl⟩ := hxq.out; clear hxq)
              | fail)
            go_ret
            exact ⟨rfl, (by repeat (first | (with_reducible first | exact Ext.refl _ | assumption | apply Ext.alloc | apply Ext.ext | apply Ext.drew | refine Ext.setCell ?_ ?_ _) | (focus (simp [go_sem]; done))))⟩
          · have i5 : ¬ (60 : Int) < (n5 : Int) := by omega
            by_cases x6 : 200 < n6
            · have i6 : (200 : Int) < (n6 : Int) := by omega
              go_enter Try.func9, Try.ntmps9
              go_wp2_with (first
                | (go_at_call 52; refine (hli _ (hI.ext (by repeat (first | (with_reducible first | exact Ext.refl _ | assumption | apply Ext.alloc | apply Ext.ext | apply Ext.drew | refine Ext.setCell ?_ ?_ _) | (focus (simp [go_sem]; done)))))).mono ?_; rintro e w1 ⟨rfl, hxq⟩; obtain ⟨xq, rfl⟩ := hxq.out; clear hxq)
                | (go_at_call 43; refine (hkn _).mono ?_; rintro e w1 ⟨rfl, hxq⟩; obtain ⟨xq, rfl⟩ := hxq.out; clear hxq)
                | fail)
              go_ret
              exact ⟨rfl, (by repeat (first | (with_reducible first | exact Ext.refl _ | assumption | apply Ext.alloc | apply Ext.ext | apply Ext.drew | refine Ext.setCell ?_ ?_ _) | (focus (simp [go_sem]; done))))⟩
            · have i6 : ¬ (200 : Int) < (n6 : Int) := by omega
              have f1 := fun W H => cstart_any id a2 n2 c2 bb W H e2
              have g1 := fun W H => rcstart_any id a2 n2 c2 bb W H e2
              have f2 := fun W H => crotate_any a0 n0 c0 r W H hIc (by omega)
              have g2 := fun W H => rcrotate_any a0 n0 c0 r W H hIc (by omega)
              have f3 := fun W H1 H2 H3 H4 => cmake_any a0 u v a5 n0 c0 nu cu nv cv n5 c5 r algo up dn nn W H1 hIc (by omega) H2 hcu H3 hcv H4 e5
              have g3 := fun W H1 H2 H3 H4 => rcmake_any a0 u v a5 n0 c0 nu cu nv cv n5 c5 r algo up dn nn W H1 hIc (by omega) H2 hcu H3 hcv H4 e5
              have f4 := fun W H1 H2 => copen_any a0 a6 n0 c0 n6 c6 r cc W H1 hIc (by omega) H2 e6
              have g4 := fun W H1 H2 => rcopen_any a0 a6 n0 c0 n6 c6 r cc W H1 hIc (by omega) H2 e6
              have f5 := fun W H => cid_any a6 n6 c6 cc W H e6
              have g5 := fun W H => rcid_any a6 n6 c6 cc W H e6
              have f6 := fun W H => ckvalid_any a0 n0 c0 r W H hIc (by omega)
              have g6 := fun W H => rckvalid_any a0 n0 c0 r W H hIc (by omega)
              have l1 := startE_len id bb
              have l2 := rotateE_len r
              generalize startE id bb = R1 at *
              generalize rotateE r = R2 at *
              generalize makeE r algo up dn nn = R3 at *
              generalize openR r cc = R4 at *
              generalize idE cc = R5 at *
              generalize validR r = R6 at *
              go_enter Try.func9, Try.ntmps9
              go_wp2_with (first
                | (go_at_call 52; refine (hli _ (hI.ext (by repeat (first | (with_reducible first | exact Ext.refl _ | assumption | apply Ext.alloc | apply Ext.ext | apply Ext.drew | refine Ext.setCell ?_ ?_ _) | (focus (simp [go_sem]; done)))))).mono ?_; rintro e w1 ⟨rfl, hxq⟩; obtain ⟨xq, rfl⟩ := hxq.out; clear hxq)
                | fail)
              obtain ⟨W, hW⟩ : ∃ W, W = ((w.alloc (.cells #[.slice a0 n0 c0] 57)).alloc (.cells #[.slice u nu cu, .slice v nv cv] 39)).ext xq := ⟨_, rfl⟩
              have hE : Ext w W := by rw [hW]; exact (by repeat (first | (with_reducible first | exact Ext.refl _ | assumption | apply Ext.alloc | apply Ext.ext | apply Ext.drew | refine Ext.setCell ?_ ?_ _) | (focus (simp [go_sem]; done))))
              have h7 : Blk W w.heap.size 57 [.slice a0 n0 c0] := by rw [hW]; exact (by repeat (first | assumption | (refine Blk.newAt _ _ _ _ ?_; first | rfl | (simp only [World.size_alloc]; done)) | apply Blk.ext | apply Blk.alloc | (refine Blk.other ?_ ?_ _; rotate_left; (simp <;> omega))))
              have h11 : Blk W (w.heap.size + 1) 39 [.slice u nu cu, .slice v nv cv] := by rw [hW]; exact (by repeat (first | assumption | (refine Blk.newAt _ _ _ _ ?_; first | rfl | (simp only [World.size_alloc]; done)) | apply Blk.ext | apply Blk.alloc | (refine Blk.other ?_ ?_ _; rotate_left; (simp <;> omega))))
              rw [← hW]
              clear hW
              (with_reducible refine (f1 _ (h2.ext hE)).mono ?_)
              rintro e y1 ⟨p1, nq, k1, rfl, hJ, hc', hx⟩
              have el := hJ.len
              subst el
              replace hE := hE.trans hx
              replace h7 := h7.extB hx
              replace h11 := h11.extB hx
              (try replace b1 := b1.ext hx)
              (try replace b2 := b2.ext hx)
              (try replace b3 := b3.ext hx)
              (try replace b4 := b4.ext hx)
              (try replace s1 := s1.ext hx)
              (try replace s2 := s2.ext hx)
              (try replace u1 := u1.ext hx)
              (try replace d1 := d1.ext hx)
              (try replace q1 := q1.extB hx)
              (try replace u2 := u2.ext hx)
              (try replace d2 := d2.ext hx)
              (try replace q2 := q2.extB hx)
              clear hx
              go_wp2_with (first
                | (refine wpList_alloc_store (RR1) rfl rfl _ _ rfl rfl rfl rfl (by simp [Act.put]) ([.slice p1 R1.1.length k1]) rfl (by simp) (rfl) ((by simp; repeat' (first | rfl | constructor))) ?_; intro x hz _)
                | (refine wpList_load_arr (RR1) rfl _ rfl (w.heap.size) (0) rfl ([.slice a0 n0 c0]) (((h7.extB (by repeat (first | (with_reducible first | exact Ext.refl _ | assumption | apply Ext.alloc | apply Ext.ext | apply Ext.drew | refine Ext.setCell ?_ ?_ _) | (focus (simp [go_sem]; done))))).rd)) (rfl) ?_)
                | (refine wpList_load_arr (RP2) rfl _ rfl (w.heap.size + 1) (0) rfl ([.slice u nu cu, .slice v nv cv]) (((h11.extB (by repeat (first | (with_reducible first | exact Ext.refl _ | assumption | apply Ext.alloc | apply Ext.ext | apply Ext.drew | refine Ext.setCell ?_ ?_ _) | (focus (simp [go_sem]; done))))).rd)) (rfl) ?_)
                | fail)
              obtain ⟨V, hV⟩ : ∃ V, V = y1.ext x := ⟨_, rfl⟩
              rw [← hV] at hz ⊢
              have hx : Ext y1 V := by rw [hV]; exact Ext.of_ext _ _
              have b1 : RB 57 R1.1 p1 R1.1.length k1 y1.heap.size V := ⟨hz, hJ.ext hx, hc'⟩
              clear hV hz hJ hc'
              replace hE := hE.trans hx
              replace h7 := h7.extB hx
              replace h11 := h11.extB hx
              (try replace b1 := b1.ext hx)
              (try replace b2 := b2.ext hx)
              (try replace b3 := b3.ext hx)
              (try replace b4 := b4.ext hx)
              (try replace s1 := s1.ext hx)
              (try replace s2 := s2.ext hx)
              (try replace u1 := u1.ext hx)
              (try replace d1 := d1.ext hx)
              (try replace q1 := q1.extB hx)
              (try replace u2 := u2.ext hx)
              (try replace d2 := d2.ext hx)
              (try replace q2 := q2.extB hx)
              clear hx
              (with_reducible refine (g1 _ (h2.ext hE)).mono ?_)
              rintro e y2 ⟨p2, nq, k2, rfl, hJ, hc', hx⟩
              have el := hJ.len
              subst el
              replace hE := hE.trans hx
              replace h7 := h7.extB hx
              replace h11 := h11.extB hx
              (try replace b1 := b1.ext hx)
              (try replace b2 := b2.ext hx)
              (try replace b3 := b3.ext hx)
              (try replace b4 := b4.ext hx)
              (try replace s1 := s1.ext hx)
              (try replace s2 := s2.ext hx)
              (try replace u1 := u1.ext hx)
              (try replace d1 := d1.ext hx)
              (try replace q1 := q1.extB hx)
              (try replace u2 := u2.ext hx)
              (try replace d2 := d2.ext hx)
              (try replace q2 := q2.extB hx)
              clear hx
              go_wp2_with (first
                | (refine wpList_alloc_store (RR1) rfl rfl _ _ rfl rfl rfl rfl (by simp [Act.put]) ([.slice p2 R1.1.length k2]) rfl (by simp) (rfl) ((by simp; repeat' (first | rfl | constructor))) ?_; intro x hz _)
                | (refine wpList_load_arr (RR1) rfl _ rfl (w.heap.size) (0) rfl ([.slice a0 n0 c0]) (((h7.extB (by repeat (first | (with_reducible first | exact Ext.refl _ | assumption | apply Ext.alloc | apply Ext.ext | apply Ext.drew | refine Ext.setCell ?_ ?_ _) | (focus (simp [go_sem]; done))))).rd)) (rfl) ?_)
                | (refine wpList_load_arr (RP2) rfl _ rfl (w.heap.size + 1) (0) rfl ([.slice u nu cu, .slice v nv cv]) (((h11.extB (by repeat (first | (with_reducible first | exact Ext.refl _ | assumption | apply Ext.alloc | apply Ext.ext | apply Ext.drew | refine Ext.setCell ?_ ?_ _) | (focus (simp [go_sem]; done))))).rd)) (rfl) ?_)
                | fail)
              obtain ⟨V, hV⟩ : ∃ V, V = y2.ext x := ⟨_, rfl⟩
              rw [← hV] at hz ⊢
              have hx : Ext y2 V := by rw [hV]; exact Ext.of_ext _ _
              have b2 : RB 57 R1.1 p2 R1.1.length k2 y2.heap.size V := ⟨hz, hJ.ext hx, hc'⟩
              clear hV hz hJ hc'
              replace hE := hE.trans hx
              replace h7 := h7.extB hx
              replace h11 := h11.extB hx
              (try replace b1 := b1.ext hx)
              (try replace b2 := b2.ext hx)
              (try replace b3 := b3.ext hx)
              (try replace b4 := b4.ext hx)
              (try replace s1 := s1.ext hx)
              (try replace s2 := s2.ext hx)
              (try replace u1 := u1.ext hx)
              (try replace d1 := d1.ext hx)
              (try replace q1 := q1.extB hx)
              (try replace u2 := u2.ext hx)
              (try replace d2 := d2.ext hx)
              (try replace q2 := q2.extB hx)
              clear hx
              (with_reducible refine (f2 _ (hI.ext hE)).mono ?_)
              rintro e y3 ⟨p3, nq, k3, rfl, hJ, hc', hx⟩
              have el := hJ.len
              subst el
              replace hE := hE.trans hx
              replace h7 := h7.extB hx
              replace h11 := h11.extB hx
              (try replace b1 := b1.ext hx)
              (try replace b2 := b2.ext hx)
              (try replace b3 := b3.ext hx)
              (try replace b4 := b4.ext hx)
              (try replace s1 := s1.ext hx)
              (try replace s2 := s2.ext hx)
              (try replace u1 := u1.ext hx)
              (try replace d1 := d1.ext hx)
              (try replace q1 := q1.extB hx)
              (try replace u2 := u2.ext hx)
              (try replace d2 := d2.ext hx)
              (try replace q2 := q2.extB hx)
              clear hx
              go_wp2_with (first
                | (refine wpList_alloc_store (RR1) rfl rfl _ _ rfl rfl rfl rfl (by simp [Act.put]) ([.slice p3 R2.1.length k3]) rfl (by simp) (rfl) ((by simp; repeat' (first | rfl | constructor))) ?_; intro x hz _)
                | (refine wpList_load_arr (RR1) rfl _ rfl (w.heap.size) (0) rfl ([.slice a0 n0 c0]) (((h7.extB (by repeat (first | (with_reducible first | exact Ext.refl _ | assumption | apply Ext.alloc | apply Ext.ext | apply Ext.drew | refine Ext.setCell ?_ ?_ _) | (focus (simp [go_sem]; done))))).rd)) (rfl) ?_)
                | (refine wpList_load_arr (RP2) rfl _ rfl (w.heap.size + 1) (0) rfl ([.slice u nu cu, .slice v nv cv]) (((h11.extB (by repeat (first | (with_reducible first | exact Ext.refl _ | assumption | apply Ext.alloc | apply Ext.ext | apply Ext.drew | refine Ext.setCell ?_ ?_ _) | (focus (simp [go_sem]; done))))).rd)) (rfl) ?_)
                | fail)
              obtain ⟨V, hV⟩ : ∃ V, V = y3.ext x := ⟨_, rfl⟩
              rw [← hV] at hz ⊢
              have hx : Ext y3 V := by rw [hV]; exact Ext.of_ext _ _
              have b3 : RB 57 R2.1 p3 R2.1.length k3 y3.heap.size V := ⟨hz, hJ.ext hx, hc'⟩
              clear hV hz hJ hc'
              replace hE := hE.trans hx
              replace h7 := h7.extB hx
              replace h11 := h11.extB hx
              (try replace b1 := b1.ext hx)
              (try replace b2 := b2.ext hx)
              (try replace b3 := b3.ext hx)
              (try replace b4 := b4.ext hx)
              (try replace s1 := s1.ext hx)
              (try replace s2 := s2.ext hx)
              (try replace u1 := u1.ext hx)
              (try replace d1 := d1.ext hx)
              (try replace q1 := q1.extB hx)
              (try replace u2 := u2.ext hx)
              (try replace d2 := d2.ext hx)
              (try replace q2 := q2.extB hx)
              clear hx
              (with_reducible refine (g2 _ (hI.ext hE)).mono ?_)
              rintro e y4 ⟨p4, nq, k4, rfl, hJ, hc', hx⟩
              have el := hJ.len
              subst el
              replace hE := hE.trans hx
              replace h7 := h7.extB hx
              replace h11 := h11.extB hx
              (try replace b1 := b1.ext hx)
              (try replace b2 := b2.ext hx)
              (try replace b3 := b3.ext hx)
              (try replace b4 := b4.ext hx)
              (try replace s1 := s1.ext hx)
              (try replace s2 := s2.ext hx)
              (try replace u1 := u1.ext hx)
              (try replace d1 := d1.ext hx)
              (try replace q1 := q1.extB hx)
              (try replace u2 := u2.ext hx)
              (try replace d2 := d2.ext hx)
              (try replace q2 := q2.extB hx)
              clear hx
              go_wp2_with (first
                | (refine wpList_alloc_store (RR1) rfl rfl _ _ rfl rfl rfl rfl (by simp [Act.put]) ([.slice p4 R2.1.length k4]) rfl (by simp) (rfl) ((by simp; repeat' (first | rfl | constructor))) ?_; intro x hz _)
                | (refine wpList_load_arr (RR1) rfl _ rfl (w.heap.size) (0) rfl ([.slice a0 n0 c0]) (((h7.extB (by repeat (first | (with_reducible first | exact Ext.refl _ | assumption | apply Ext.alloc | apply Ext.ext | apply Ext.drew | refine Ext.setCell ?_ ?_ _) | (focus (simp [go_sem]; done))))).rd)) (rfl) ?_)
                | (refine wpList_load_arr (RP2) rfl _ rfl (w.heap.size + 1) (0) rfl ([.slice u nu cu, .slice v nv cv]) (((h11.extB (by repeat (first | (with_reducible first | exact Ext.refl _ | assumption | apply Ext.alloc | apply Ext.ext | apply Ext.drew | refine Ext.setCell ?_ ?_ _) | (focus (simp [go_sem]; done))))).rd)) (rfl) ?_)
                | fail)
              obtain ⟨V, hV⟩ : ∃ V, V = y4.ext x := ⟨_, rfl⟩
              rw [← hV] at hz ⊢
              have hx : Ext y4 V := by rw [hV]; exact Ext.of_ext _ _
              have b4 : RB 57 R2.1 p4 R2.1.length k4 y4.heap.size V := ⟨hz, hJ.ext hx, hc'⟩
              clear hV hz hJ hc'
              replace hE := hE.trans hx
              replace h7 := h7.extB hx
              replace h11 := h11.extB hx
              (try replace b1 := b1.ext hx)
              (try replace b2 := b2.ext hx)
              (try replace b3 := b3.ext hx)
              (try replace b4 := b4.ext hx)
              (try replace s1 := s1.ext hx)
              (try replace s2 := s2.ext hx)
              (try replace u1 := u1.ext hx)
              (try replace d1 := d1.ext hx)
              (try replace q1 := q1.extB hx)
              (try replace u2 := u2.ext hx)
              (try replace d2 := d2.ext hx)
              (try replace q2 := q2.extB hx)
              clear hx
              (with_reducible refine (f3 _ (hI.ext hE) (hu.ext hE) (hv.ext hE) (h5.ext hE)).mono ?_)
              rintro e y5 ⟨p5, k5, rfl, s1, m1, hx⟩
              replace hE := hE.trans hx
              replace h7 := h7.extB hx
              replace h11 := h11.extB hx
              (try replace b1 := b1.ext hx)
              (try replace b2 := b2.ext hx)
              (try replace b3 := b3.ext hx)
              (try replace b4 := b4.ext hx)
              (try replace s1 := s1.ext hx)
              (try replace s2 := s2.ext hx)
              (try replace u1 := u1.ext hx)
              (try replace d1 := d1.ext hx)
              (try replace q1 := q1.extB hx)
              (try replace u2 := u2.ext hx)
              (try replace d2 := d2.ext hx)
              (try replace q2 := q2.extB hx)
              clear hx
              go_wp2_with (first
                | (refine wpList_load_arr (RR1) rfl _ rfl (w.heap.size) (0) rfl ([.slice a0 n0 c0]) (((h7.extB (by repeat (first | (with_reducible first | exact Ext.refl _ | assumption | apply Ext.alloc | apply Ext.ext | apply Ext.drew | refine Ext.setCell ?_ ?_ _) | (focus (simp [go_sem]; done))))).rd)) (rfl) ?_)
                | (refine wpList_load_arr (RP2) rfl _ rfl (w.heap.size + 1) (0) rfl ([.slice u nu cu, .slice v nv cv]) (((h11.extB (by repeat (first | (with_reducible first | exact Ext.refl _ | assumption | apply Ext.alloc | apply Ext.ext | apply Ext.drew | refine Ext.setCell ?_ ?_ _) | (focus (simp [go_sem]; done))))).rd)) (rfl) ?_)
                | fail)
              (with_reducible refine (g3 _ (hI.ext hE) (hu.ext hE) (hv.ext hE) (h5.ext hE)).mono ?_)
              rintro e y6 ⟨p6, k6, rfl, s2, m2, hx⟩
              replace hE := hE.trans hx
              replace h7 := h7.extB hx
              replace h11 := h11.extB hx
              (try replace b1 := b1.ext hx)
              (try replace b2 := b2.ext hx)
              (try replace b3 := b3.ext hx)
              (try replace b4 := b4.ext hx)
              (try replace s1 := s1.ext hx)
              (try replace s2 := s2.ext hx)
              (try replace u1 := u1.ext hx)
              (try replace d1 := d1.ext hx)
              (try replace q1 := q1.extB hx)
              (try replace u2 := u2.ext hx)
              (try replace d2 := d2.ext hx)
              (try replace q2 := q2.extB hx)
              clear hx
              go_wp2_with (first
                | (refine wpList_load_arr (RR1) rfl _ rfl (w.heap.size) (0) rfl ([.slice a0 n0 c0]) (((h7.extB (by repeat (first | (with_reducible first | exact Ext.refl _ | assumption | apply Ext.alloc | apply Ext.ext | apply Ext.drew | refine Ext.setCell ?_ ?_ _) | (focus (simp [go_sem]; done))))).rd)) (rfl) ?_)
                | (refine wpList_load_arr (RP2) rfl _ rfl (w.heap.size + 1) (0) rfl ([.slice u nu cu, .slice v nv cv]) (((h11.extB (by repeat (first | (with_reducible first | exact Ext.refl _ | assumption | apply Ext.alloc | apply Ext.ext | apply Ext.drew | refine Ext.setCell ?_ ?_ _) | (focus (simp [go_sem]; done))))).rd)) (rfl) ?_)
                | fail)
              (with_reducible refine (f4 _ (hI.ext hE) (h6.ext hE)).mono ?_)
              rintro e y7 ⟨ua, un, uc, da, dm, dc, rfl, u1, hmu, d1, hmd, hx⟩
              replace hE := hE.trans hx
              replace h7 := h7.extB hx
              replace h11 := h11.extB hx
              (try replace b1 := b1.ext hx)
              (try replace b2 := b2.ext hx)
              (try replace b3 := b3.ext hx)
              (try replace b4 := b4.ext hx)
              (try replace s1 := s1.ext hx)
              (try replace s2 := s2.ext hx)
              (try replace u1 := u1.ext hx)
              (try replace d1 := d1.ext hx)
              (try replace q1 := q1.extB hx)
              (try replace u2 := u2.ext hx)
              (try replace d2 := d2.ext hx)
              (try replace q2 := q2.extB hx)
              clear hx
              have hQ0 := Blk.new y7 #[.slice none 0 0, .slice none 0 0] 39
              go_wp2_with (first
                | (refine wpList_store_arr (RP2) rfl _ _ rfl (y7.heap.size) (0) rfl ([.slice ua un uc, .slice da dm dc]) rfl (39) _ (hQ0) (rfl) (by simp) (by first | exact one_u8 _ | (simp; done) | (simp; (repeat' (first | rfl | constructor)))) ?_; intro V hQ hM8)
                | (refine wpList_load_arr (RR1) rfl _ rfl (w.heap.size) (0) rfl ([.slice a0 n0 c0]) (((Blk.extB h7 (endM (Ext.refl _) (Ext.of_alloc _ _) hM8 (Nat.le_refl _))).rd)) (rfl) ?_)
                | fail)
              have hx : Ext y7 V := endM (Ext.refl _) (Ext.of_alloc _ _) hM8 (Nat.le_refl _)
              have q1 : Blk V y7.heap.size 39 [.slice ua un uc, .slice da dm dc] := hQ
              clear hQ0 hM8 hQ
              replace hE := hE.trans hx
              replace h7 := h7.extB hx
              replace h11 := h11.extB hx
              (try replace b1 := b1.ext hx)
              (try replace b2 := b2.ext hx)
              (try replace b3 := b3.ext hx)
              (try replace b4 := b4.ext hx)
              (try replace s1 := s1.ext hx)
              (try replace s2 := s2.ext hx)
              (try replace u1 := u1.ext hx)
              (try replace d1 := d1.ext hx)
              (try replace q1 := q1.extB hx)
              (try replace u2 := u2.ext hx)
              (try replace d2 := d2.ext hx)
              (try replace q2 := q2.extB hx)
              clear hx
              (with_reducible refine (g4 _ (hI.ext hE) (h6.ext hE)).mono ?_)
              rintro e y8 ⟨va, vn, vc, ea, em, ec, rfl, u2, hmu, d2, hmd, hx⟩
              replace hE := hE.trans hx
              replace h7 := h7.extB hx
              replace h11 := h11.extB hx
              (try replace b1 := b1.ext hx)
              (try replace b2 := b2.ext hx)
              (try replace b3 := b3.ext hx)
              (try replace b4 := b4.ext hx)
              (try replace s1 := s1.ext hx)
              (try replace s2 := s2.ext hx)
              (try replace u1 := u1.ext hx)
              (try replace d1 := d1.ext hx)
              (try replace q1 := q1.extB hx)
              (try replace u2 := u2.ext hx)
              (try replace d2 := d2.ext hx)
              (try replace q2 := q2.extB hx)
              clear hx
              have hQ0 := Blk.new y8 #[.slice none 0 0, .slice none 0 0] 39
              go_wp2_with (first
                | (refine wpList_store_arr (RP2) rfl _ _ rfl (y8.heap.size) (0) rfl ([.slice va vn vc, .slice ea em ec]) rfl (39) _ (hQ0) (rfl) (by simp) (by first | exact one_u8 _ | (simp; done) | (simp; (repeat' (first | rfl | constructor)))) ?_; intro V hQ hM8)
                | (refine wpList_load_arr (RR1) rfl _ rfl (w.heap.size) (0) rfl ([.slice a0 n0 c0]) (((Blk.extB h7 (endM (Ext.refl _) (Ext.of_alloc _ _) hM8 (Nat.le_refl _))).rd)) (rfl) ?_)
                | fail)
              have hx : Ext y8 V := endM (Ext.refl _) (Ext.of_alloc _ _) hM8 (Nat.le_refl _)
              have q2 : Blk V y8.heap.size 39 [.slice va vn vc, .slice ea em ec] := hQ
              clear hQ0 hM8 hQ
              replace hE := hE.trans hx
              replace h7 := h7.extB hx
              replace h11 := h11.extB hx
              (try replace b1 := b1.ext hx)
              (try replace b2 := b2.ext hx)
              (try replace b3 := b3.ext hx)
              (try replace b4 := b4.ext hx)
              (try replace s1 := s1.ext hx)
              (try replace s2 := s2.ext hx)
              (try replace u1 := u1.ext hx)
              (try replace d1 := d1.ext hx)
              (try replace q1 := q1.extB hx)
              (try replace u2 := u2.ext hx)
              (try replace d2 := d2.ext hx)
              (try replace q2 := q2.extB hx)
              clear hx
              (with_reducible refine (f5 _ (h6.ext hE)).mono ?_)
              rintro e y9 ⟨rfl, hx⟩
              replace hE := hE.trans hx
              replace h7 := h7.extB hx
              replace h11 := h11.extB hx
              (try replace b1 := b1.ext hx)
              (try replace b2 := b2.ext hx)
              (try replace b3 := b3.ext hx)
              (try replace b4 := b4.ext hx)
              (try replace s1 := s1.ext hx)
              (try replace s2 := s2.ext hx)
              (try replace u1 := u1.ext hx)
              (try replace d1 := d1.ext hx)
              (try replace q1 := q1.extB hx)
              (try replace u2 := u2.ext hx)
              (try replace d2 := d2.ext hx)
              (try replace q2 := q2.extB hx)
              clear hx
              go_wp2_with fail
              (with_reducible refine (g5 _ (h6.ext hE)).mono ?_)
              rintro e y10 ⟨rfl, hx⟩
              replace hE := hE.trans hx
              replace h7 := h7.extB hx
              replace h11 := h11.extB hx
              (try replace b1 := b1.ext hx)
              (try replace b2 := b2.ext hx)
              (try replace b3 := b3.ext hx)
              (try replace b4 := b4.ext hx)
              (try replace s1 := s1.ext hx)
              (try replace s2 := s2.ext hx)
              (try replace u1 := u1.ext hx)
              (try replace d1 := d1.ext hx)
              (try replace q1 := q1.extB hx)
              (try replace u2 := u2.ext hx)
              (try replace d2 := d2.ext hx)
              (try replace q2 := q2.extB hx)
              clear hx
              have z1 : (R1.2 != R1.2) = false := by simp
              have z2 : (R2.2 != R2.2) = false := by simp
              have z3 : (R3.2 != R3.2) = false := by simp
              have z4 : (R4.err != R4.err) = false := by simp
              have z5 : (R4.algo != R4.algo) = false := by simp
              have z6 : (R4.age != R4.age) = false := by simp
              have z7 : (R5.2 != R5.2) = false := by simp
              have z8 : (R5.1 != R5.1) = false := by simp
              have z9 : (R6 == R6) = true := by simp
              have sm := fun V H1 H2 => same_any p5 p6 R3.1.length k5 R3.1.length k6 R3.1 R3.1 V H1 H2
              simp only [beq_self_eq_true] at sm
              have hIy := hI.ext hE
              go_wp2_with fail
              have i1 := b1.ib
              have i2' := b2.ib
              have i3' := b3.ib
              have i4' := b4.ib
              refine wp_region_vague 29 [[], [0], [0, 1], [0, 1, 2], [0, 1], [0, 1, 2, 3, 4], [0, 1, 2, 3, 4, 5], [0, 1, 2, 3, 4, 5, 6], [0, 1, 2, 3, 4, 5, 6, 7], [0, 1, 2, 3, 4, 5, 6, 7, 8], [0, 1, 2, 3, 4, 5, 6, 7, 8], [0, 1, 2, 3, 4, 5, 6, 7, 8, 9, 10], [0, 1, 2, 3, 4, 5, 6, 7, 8, 9, 10, 11], [0, 1, 2, 3, 4, 5, 6, 7, 8, 9, 10, 11, 12], [0, 1, 2, 3, 4, 5, 6, 7, 8, 9, 10, 11, 12, 13], [0, 1, 2, 3, 4, 5, 6, 7, 8, 9, 10, 11, 12, 13], [0, 1, 2, 3, 4, 5, 6, 7, 8, 9, 10, 11, 12, 13, 14, 15], [0, 1, 2, 3, 4, 5, 6, 7, 8, 9, 10, 11, 12, 13, 14, 15, 16], [0, 1, 2, 3, 4, 5, 6, 7, 8, 9, 10, 11, 12, 13, 14, 15, 16, 17], [0, 1, 2, 3, 4, 5, 6, 7, 8, 9, 10, 11, 12, 13, 14, 15, 16, 17, 18], [0, 1, 2, 3, 4, 5, 6, 7, 8, 9, 10, 11, 12, 13, 14, 15, 16, 17, 18], [0, 1, 2, 3, 4, 5, 6, 7, 8, 9, 10, 11, 12, 13, 14, 15, 16, 17, 18, 19, 20], [0, 1, 2, 3, 4, 5, 6, 7, 8, 9, 10, 11, 12, 13, 14, 15, 16, 17, 18, 19, 20, 21], [0, 1, 2, 3, 4, 5, 6, 7, 8, 9, 10, 11, 12, 13, 14, 15, 16, 17, 18, 19, 20, 21, 22], [0, 1, 2, 3, 4, 5, 6, 7, 8, 9, 10, 11, 12, 13, 14, 15, 16, 17, 18, 19, 20, 21, 22, 23], [0, 1, 2, 3, 4, 5, 6, 7, 8, 9, 10, 11, 12, 13, 14, 15, 16, 17, 18, 19, 20, 21, 22, 23], [0, 1, 2, 3, 4, 5, 6, 7, 8, 9, 10, 11, 12, 13, 14, 15, 16, 17, 18, 19, 20, 21, 22, 23, 24, 25], [0, 1, 2, 3, 4, 5, 6, 7, 8, 9, 10, 11, 12, 13, 14, 15, 16, 17, 18, 19, 20, 21, 22, 23, 24, 25, 26], [0, 1, 2, 3, 4, 5, 6, 7, 8, 9, 10, 11, 12, 13, 14, 15, 16, 17, 18, 19, 20, 21, 22, 23, 24, 25, 26, 27]] (by kernel_rfl) (by kernel_rfl) (by kernel_rfl) (by kernel_rfl) ?_; simp only [List.take_succ_cons, List.take_zero, List.drop_succ_cons, List.drop_zero, List.take_nil, List.drop_nil]
              (refine VD_vag (fun _ => .bool true) (fun _ _ => True) (fun _ _ _ _ _ => trivial) (fun us w' hx hf => ⟨rfl, ?_⟩) ?_; (unfold gives; simp [go_sem, execOp]; refine (hkn _).mono ?_; rintro e w1 ⟨rfl, hx1⟩; first | exact ⟨rfl, hx1⟩ | simpa using hx1))
              (repeat (apply VD_der; (case h => (intro us w' hx hf; obtain ⟨x, rfl⟩ := hx.out; refine ⟨rfl, ?_⟩; simp [go_sem, execOp, *]; (try simp (disch := omega) only [Go.IntWalk.i64_in, Go.IntWalk.rem_in, Go.IntWalk.wrap64_in]); rfl)); (try simp only [Act.put, List.setIfInBounds_toArray, List.set_cons_succ, List.set_cons_zero])))
              (refine VD_load_arr (RR1) _ rfl (fun _ => rfl) (w.heap.size) (0) (fun _ => by simp [go_sem]) ([.slice a0 n0 c0]) (h7.rd) (rfl) ?_)
              (refine VD_vag (fun _ => .bool R6) (fun _ _ => True) (fun _ _ _ _ _ => trivial) (fun us w' hx hf => ⟨rfl, ?_⟩) ?_; (unfold gives; simp [go_sem, execOp]; refine (f6 _ (hIy.ext hx)).mono ?_; rintro e w1 ⟨rfl, hx1⟩; first | exact ⟨rfl, hx1⟩ | simpa using hx1))
              (refine VD_load_arr (RR1) _ rfl (fun _ => rfl) (w.heap.size) (0) (fun _ => by simp [go_sem]) ([.slice a0 n0 c0]) (h7.rd) (rfl) ?_)
              (refine VD_vag (fun _ => .bool R6) (fun _ _ => True) (fun _ _ _ _ _ => trivial) (fun us w' hx hf => ⟨rfl, ?_⟩) ?_; (unfold gives; simp [go_sem, execOp]; refine (g6 _ (hIy.ext hx)).mono ?_; rintro e w1 ⟨rfl, hx1⟩; first | exact ⟨rfl, hx1⟩ | simpa using hx1))
              (repeat (apply VD_der; (case h => (intro us w' hx hf; obtain ⟨x, rfl⟩ := hx.out; refine ⟨rfl, ?_⟩; simp [go_sem, execOp, *]; (try simp (disch := omega) only [Go.IntWalk.i64_in, Go.IntWalk.rem_in, Go.IntWalk.wrap64_in]); rfl)); (try simp only [Act.put, List.setIfInBounds_toArray, List.set_cons_succ, List.set_cons_zero])))
              (refine VD_load_arr (RR1) _ rfl (fun _ => rfl) (y1.heap.size) (0) (fun _ => by simp [go_sem]) ([.slice p1 R1.1.length k1]) (b1.blk.rd) (rfl) ?_)
              (refine VD_load_arr (RR1) _ rfl (fun _ => rfl) (y2.heap.size) (0) (fun _ => by simp [go_sem]) ([.slice p2 R1.1.length k2]) (b2.blk.rd) (rfl) ?_)
              (refine VD_vag (fun _ => .bool true) (fun _ _ => True) (fun _ _ _ _ _ => trivial) (fun us w' hx hf => ⟨rfl, ?_⟩) ?_; (unfold gives; simp [go_sem, execOp]; refine (cksame_any p1 p2 _ k1 k2 R1.1 _ (i1.ext hx) (i2'.ext hx) (by omega)).mono ?_; rintro e w1 ⟨rfl, hx1⟩; first | exact ⟨rfl, hx1⟩ | simpa using hx1))
              (repeat (apply VD_der; (case h => (intro us w' hx hf; obtain ⟨x, rfl⟩ := hx.out; refine ⟨rfl, ?_⟩; simp [go_sem, execOp, *]; (try simp (disch := omega) only [Go.IntWalk.i64_in, Go.IntWalk.rem_in, Go.IntWalk.wrap64_in]); rfl)); (try simp only [Act.put, List.setIfInBounds_toArray, List.set_cons_succ, List.set_cons_zero])))
              (refine VD_load_arr (RR1) _ rfl (fun _ => rfl) (y3.heap.size) (0) (fun _ => by simp [go_sem]) ([.slice p3 R2.1.length k3]) (b3.blk.rd) (rfl) ?_)
              (refine VD_load_arr (RR1) _ rfl (fun _ => rfl) (y4.heap.size) (0) (fun _ => by simp [go_sem]) ([.slice p4 R2.1.length k4]) (b4.blk.rd) (rfl) ?_)
              (refine VD_vag (fun _ => .bool true) (fun _ _ => True) (fun _ _ _ _ _ => trivial) (fun us w' hx hf => ⟨rfl, ?_⟩) ?_; (unfold gives; simp [go_sem, execOp]; refine (cksame_any p3 p4 _ k3 k4 R2.1 _ (i3'.ext hx) (i4'.ext hx) (by omega)).mono ?_; rintro e w1 ⟨rfl, hx1⟩; first | exact ⟨rfl, hx1⟩ | simpa using hx1))
              (repeat (apply VD_der; (case h => (intro us w' hx hf; obtain ⟨x, rfl⟩ := hx.out; refine ⟨rfl, ?_⟩; simp [go_sem, execOp, *]; (try simp (disch := omega) only [Go.IntWalk.i64_in, Go.IntWalk.rem_in, Go.IntWalk.wrap64_in]); rfl)); (try simp only [Act.put, List.setIfInBounds_toArray, List.set_cons_succ, List.set_cons_zero])))
              (refine VD_vag (fun _ => .bool true) (fun _ _ => True) (fun _ _ _ _ _ => trivial) (fun us w' hx hf => ⟨rfl, ?_⟩) ?_; (unfold gives; simp [go_sem, execOp]; refine (sm _ (s1.ext hx) (s2.ext hx)).mono ?_; rintro e w1 ⟨rfl, hx1⟩; first | exact ⟨rfl, hx1⟩ | simpa using hx1))
              (repeat (apply VD_der; (case h => (intro us w' hx hf; obtain ⟨x, rfl⟩ := hx.out; refine ⟨rfl, ?_⟩; simp [go_sem, execOp, *]; (try simp (disch := omega) only [Go.IntWalk.i64_in, Go.IntWalk.rem_in, Go.IntWalk.wrap64_in]); rfl)); (try simp only [Act.put, List.setIfInBounds_toArray, List.set_cons_succ, List.set_cons_zero])))
              (refine VD_load_arr (RP2) _ rfl (fun _ => rfl) (y7.heap.size) (0) (fun _ => by simp [go_sem]) ([.slice ua un uc, .slice da dm dc]) (q1.rd) (rfl) ?_)
              (refine VD_load_arr (RP2) _ rfl (fun _ => rfl) (y8.heap.size) (0) (fun _ => by simp [go_sem]) ([.slice va vn vc, .slice ea em ec]) (q2.rd) (rfl) ?_)
              (refine VD_vag (fun _ => .bool true) (fun _ _ => True) (fun _ _ _ _ _ => trivial) (fun us w' hx hf => ⟨rfl, ?_⟩) ?_; (unfold gives; simp [go_sem, execOp]; refine (ckpair_any _ _ _ _ _ _ _ _ _ _ _ _ R4.up R4.down _ (u1.ext hx) (d1.ext hx) (u2.ext hx) (d2.ext hx)).mono ?_; rintro e w1 ⟨rfl, hx1⟩; first | exact ⟨rfl, hx1⟩ | simpa using hx1))
              (repeat (apply VD_der; (case h => (intro us w' hx hf; obtain ⟨x, rfl⟩ := hx.out; refine ⟨rfl, ?_⟩; simp [go_sem, execOp, *]; (try simp (disch := omega) only [Go.IntWalk.i64_in, Go.IntWalk.rem_in, Go.IntWalk.wrap64_in]); rfl)); (try simp only [Act.put, List.setIfInBounds_toArray, List.set_cons_succ, List.set_cons_zero])))
              (refine VD_nil ?_; intro us w' hx hf; obtain ⟨x, rfl⟩ := hx.out; (try simp only [Act.put, List.setIfInBounds_toArray, List.set_cons_succ, List.set_cons_zero, wpList_none]); (try simp only [List.mem_cons, List.not_mem_nil, or_false, forall_eq_or_imp, forall_eq, List.nil_append, List.cons_append, List.mem_append, false_or, true_and, and_true] at hf); (try simp only [Nat.reduceAdd, Nat.zero_add] at hf); (try simp only [Nat.reduceAdd, Nat.zero_add]))
              go_wp2_with fail
              go_ret
              exact ⟨rfl, hE.ext x⟩
end Go.Proofs.Ytkjdlbjbppbmdaa
