/- Lemmas of this claim, several texts joined. -/
import Derived.Test.YtmmbcgbadaojeaaZ8
import Derived.Test.YtmmbcgbadaojeaaZ10
import Derived.Test.YtmmbcgbadaojeaaZ27
import Derived.Test.YtmmbcgbadaojeaaZ28
import Derived.Test.YtmmbcgbadaojeaaZ31
set_option linter.unusedVariables false
set_option linter.unusedSimpArgs false
/- sectimeref01.SameFields. -/
namespace Go.Proofs.Ytmmbcgbadaojeaa
open Go.RowKit Go.Sec Go.Oct Go.Pkt BigFrame

set_option maxRecDepth 100000 in
set_option maxHeartbeats 4000000 in
theorem sameFields_any (a b : Option Addr) (n c m d : Nat) (L K : List Fld) (w : World) (h1 : Ib w a n L) (h2 : Ib w b m K) (hn : n ≤ 1000000) :
    Calls Try.prog 34 #[.slice a n c, .slice b m d] w fun e w' => e = .returned (.bool (decide (L = K))) ∧ Ext w w' := by
  have l1 := h1.len
  have l2 := h2.len
  obtain ⟨r, hr⟩ : ∃ r, decide (L = K) = r := ⟨_, rfl⟩
  rw [hr]
  have hyes := fun h : L = K => (show r = true by rw [← hr]; exact decide_eq_true h)
  have hno := fun h : L ≠ K => (show r = false by rw [← hr]; exact decide_eq_false h)
  clear hr
  by_cases hnm : n = m
  · subst hnm
    go_enter Try.func34, Try.ntmps34
    go_wp2
    go_loopw [5] (fun v5 wr => ∃ k : Nat, k ≤ n ∧ v5 = .int .i64 k ∧ Hid (L.take k = K.take k) ∧ Ext w wr) (fun v5 _ => n - (intOf v5).toNat)
    case atStart => exact ⟨0, Nat.zero_le _, rfl, Lib.hid rfl, (by repeat (first | (with_reducible first | exact Ext.refl _ | assumption | apply Ext.alloc | apply Ext.ext | apply Ext.drew | refine Ext.setCell ?_ ?_ _) | (focus (simp [go_sem]; done))))⟩
    case round =>
      obtain ⟨k, hk, rfl, hE, hx⟩ := hrel
      by_cases hlt : k < n
      · obtain ⟨fx, hxi⟩ : ∃ fx, L[k]? = some fx := ⟨_, List.getElem?_eq_getElem (by omega)⟩
        obtain ⟨fy, hyi⟩ : ∃ fy, K[k]? = some fy := ⟨_, List.getElem?_eq_getElem (by omega)⟩
        obtain ⟨b1, o1, g1, k1, rfl, hb1, hc1, hd1, hs1, hk1⟩ := (h1.ext hx).at k hlt _ hxi
        obtain ⟨b2, o2, g2, k2, rfl, hb2, hc2, hd2, hs2, hk2⟩ := (h2.ext hx).at k hlt _ hyi
        have hk0 : (0 : Int) ≤ (k : Int) := by omega
        have hk1 : (k : Int) < (n : Int) := by omega
        have hts : fx = fy → L.take (k + 1) = K.take (k + 1) := fun h => by
          obtain ⟨q1, e1⟩ := List.getElem?_eq_some_iff.1 hxi
          obtain ⟨q2, e2⟩ := List.getElem?_eq_some_iff.1 hyi
          rw [List.take_succ_eq_append_getElem q1, List.take_succ_eq_append_getElem q2, hE.out, e1, e2, h]
        have hdf : fx ≠ fy → L ≠ K := fun h e => by subst e; rw [hxi] at hyi; injection hyi with hyi; exact h hyi
        haveI := hb1
        haveI := hb2
        by_cases ht : fx.1 = fy.1
        · have it : (fx.1 != fy.1) = false := by rw [ht]; simp
          go_wp2_with fail
          refine wp_region_vague 25 [[], [], [0, 1], [0, 1, 2], [0, 1, 2, 3], [], [], [5, 6], [5, 6, 7], [5, 6, 7, 8], [0, 1, 2, 3, 4, 5, 6, 7, 8, 9], [0, 1, 2, 3, 4, 5, 6, 7, 8, 9, 10], [0, 1, 2, 3, 4, 5, 6, 7, 8, 9, 10, 11], [0, 1, 2, 3, 4, 5, 6, 7, 8, 9, 10, 11], [0, 1, 2, 3, 4, 5, 6, 7, 8, 9, 10, 11, 12, 13], [0, 1, 2, 3, 4, 5, 6, 7, 8, 9, 10, 11, 12, 13, 14], [0, 1, 2, 3, 4, 5, 6, 7, 8, 9, 10, 11, 12, 13, 14, 15], [0, 1, 2, 3, 4, 5, 6, 7, 8, 9, 10, 11], [0, 1, 2, 3, 4, 5, 6, 7, 8, 9, 10, 11], [0, 1, 2, 3, 4, 5, 6, 7, 8, 9, 10, 11, 17, 18], [0, 1, 2, 3, 4, 5, 6, 7, 8, 9, 10, 11, 17, 18, 19], [0, 1, 2, 3, 4, 5, 6, 7, 8, 9, 10, 11, 17, 18, 19, 20], [0, 1, 2, 3, 4, 5, 6, 7, 8, 9, 10, 11, 12, 13, 14, 15, 16, 17, 18, 19, 20, 21], [0, 1, 2, 3, 4, 5, 6, 7, 8, 9, 10, 11, 12, 13, 14, 15, 16, 17, 18, 19, 20, 21, 22], [0, 1, 2, 3, 4, 5, 6, 7, 8, 9, 10, 11, 12, 13, 14, 15, 16, 17, 18, 19, 20, 21, 22, 23]] (by kernel_rfl) (by kernel_rfl) (by kernel_rfl) (by kernel_rfl) ?_; simp only [List.take_succ_cons, List.take_zero, List.drop_succ_cons, List.drop_zero, List.take_nil, List.drop_nil]
          (repeat (apply VD_der; (case h => (intro us w' hx hf; obtain ⟨x, rfl⟩ := hx.out; refine ⟨rfl, ?_⟩; simp [go_sem, execOp, *]; (try simp (disch := omega) only [Go.IntWalk.i64_in, Go.IntWalk.rem_in, Go.IntWalk.wrap64_in]); rfl)); (try simp only [Act.put, List.setIfInBounds_toArray, List.set_cons_succ, List.set_cons_zero])))
          (refine VD_vag (fun _ => .bool (fx.2 == fy.2)) (fun _ _ => True) (fun _ _ _ _ _ => trivial) (fun us w' hx hf => ⟨rfl, ?_⟩) ?_; (unfold gives; simp [go_sem, execOp]; refine (same_any _ _ _ _ _ _ _ _ _ (hs1.ext hx) (hs2.ext hx)).mono ?_; rintro e w1 ⟨rfl, hx1⟩; first | exact ⟨rfl, hx1⟩ | simpa using hx1))
          (repeat (apply VD_der; (case h => (intro us w' hx hf; obtain ⟨x, rfl⟩ := hx.out; refine ⟨rfl, ?_⟩; simp [go_sem, execOp, *]; (try simp (disch := omega) only [Go.IntWalk.i64_in, Go.IntWalk.rem_in, Go.IntWalk.wrap64_in]); rfl)); (try simp only [Act.put, List.setIfInBounds_toArray, List.set_cons_succ, List.set_cons_zero])))
          (refine VD_nil ?_; intro us w' hx hf; obtain ⟨x, rfl⟩ := hx.out; (try simp only [Act.put, List.setIfInBounds_toArray, List.set_cons_succ, List.set_cons_zero, wpList_none]); (try simp only [List.mem_cons, List.not_mem_nil, or_false, forall_eq_or_imp, forall_eq, List.nil_append, List.cons_append, List.mem_append, false_or, true_and, and_true] at hf); (try simp only [Nat.reduceAdd, Nat.zero_add] at hf); (try simp only [Nat.reduceAdd, Nat.zero_add]))
          cases hb : (fx.2 == fy.2)
          · have er := Lib.hid (hno (hdf fun h => by rw [h] at hb; simp at hb))
            go_wp2
            go_ret
            exact ⟨by rw [er.out]; rfl, (by repeat (first | (with_reducible first | exact Ext.refl _ | assumption | apply Ext.alloc | apply Ext.ext | apply Ext.drew | refine Ext.setCell ?_ ?_ _) | (focus (simp [go_sem]; done))))⟩
          · have hE2 := Lib.hid (hts (Prod.ext ht (beq_iff_eq.1 hb)))
            go_wp2
            go_roundw
            case rel => exact ⟨k + 1, by omega, by go_num, hE2, (by repeat (first | (with_reducible first | exact Ext.refl _ | assumption | apply Ext.alloc | apply Ext.ext | apply Ext.drew | refine Ext.setCell ?_ ?_ _) | (focus (simp [go_sem]; done))))⟩
            case measure => simp [intOf]; omega
        · have it : (fx.1 != fy.1) = true := by rw [bne_iff_ne]; exact ht
          have er := Lib.hid (hno (hdf fun h => ht (by rw [h])))
          go_wp2_with fail
          refine wp_region_vague 25 [[], [], [0, 1], [0, 1, 2], [0, 1, 2, 3], [], [], [5, 6], [5, 6, 7], [5, 6, 7, 8], [0, 1, 2, 3, 4, 5, 6, 7, 8, 9], [0, 1, 2, 3, 4, 5, 6, 7, 8, 9, 10], [0, 1, 2, 3, 4, 5, 6, 7, 8, 9, 10, 11], [0, 1, 2, 3, 4, 5, 6, 7, 8, 9, 10, 11], [0, 1, 2, 3, 4, 5, 6, 7, 8, 9, 10, 11, 12, 13], [0, 1, 2, 3, 4, 5, 6, 7, 8, 9, 10, 11, 12, 13, 14], [0, 1, 2, 3, 4, 5, 6, 7, 8, 9, 10, 11, 12, 13, 14, 15], [0, 1, 2, 3, 4, 5, 6, 7, 8, 9, 10, 11], [0, 1, 2, 3, 4, 5, 6, 7, 8, 9, 10, 11], [0, 1, 2, 3, 4, 5, 6, 7, 8, 9, 10, 11, 17, 18], [0, 1, 2, 3, 4, 5, 6, 7, 8, 9, 10, 11, 17, 18, 19], [0, 1, 2, 3, 4, 5, 6, 7, 8, 9, 10, 11, 17, 18, 19, 20], [0, 1, 2, 3, 4, 5, 6, 7, 8, 9, 10, 11, 12, 13, 14, 15, 16, 17, 18, 19, 20, 21], [0, 1, 2, 3, 4, 5, 6, 7, 8, 9, 10, 11, 12, 13, 14, 15, 16, 17, 18, 19, 20, 21, 22], [0, 1, 2, 3, 4, 5, 6, 7, 8, 9, 10, 11, 12, 13, 14, 15, 16, 17, 18, 19, 20, 21, 22, 23]] (by kernel_rfl) (by kernel_rfl) (by kernel_rfl) (by kernel_rfl) ?_; simp only [List.take_succ_cons, List.take_zero, List.drop_succ_cons, List.drop_zero, List.take_nil, List.drop_nil]
          (repeat (apply VD_der; (case h => (intro us w' hx hf; obtain ⟨x, rfl⟩ := hx.out; refine ⟨rfl, ?_⟩; simp [go_sem, execOp, *]; (try simp (disch := omega) only [Go.IntWalk.i64_in, Go.IntWalk.rem_in, Go.IntWalk.wrap64_in]); rfl)); (try simp only [Act.put, List.setIfInBounds_toArray, List.set_cons_succ, List.set_cons_zero])))
          (repeat (refine VD_skip (fun us => rfl) ?_; (try simp only [Act.put, List.setIfInBounds_toArray, List.set_cons_succ, List.set_cons_zero])))
          (repeat (apply VD_der; (case h => (intro us w' hx hf; obtain ⟨x, rfl⟩ := hx.out; refine ⟨rfl, ?_⟩; simp [go_sem, execOp, *]; (try simp (disch := omega) only [Go.IntWalk.i64_in, Go.IntWalk.rem_in, Go.IntWalk.wrap64_in]); rfl)); (try simp only [Act.put, List.setIfInBounds_toArray, List.set_cons_succ, List.set_cons_zero])))
          (refine VD_nil ?_; intro us w' hx hf; obtain ⟨x, rfl⟩ := hx.out; (try simp only [Act.put, List.setIfInBounds_toArray, List.set_cons_succ, List.set_cons_zero, wpList_none]); (try simp only [List.mem_cons, List.not_mem_nil, or_false, forall_eq_or_imp, forall_eq, List.nil_append, List.cons_append, List.mem_append, false_or, true_and, and_true] at hf); (try simp only [Nat.reduceAdd, Nat.zero_add] at hf); (try simp only [Nat.reduceAdd, Nat.zero_add]))
          go_wp2
          go_ret
          exact ⟨by rw [er.out]; rfl, (by repeat (first | (with_reducible first | exact Ext.refl _ | assumption | apply Ext.alloc | apply Ext.ext | apply Ext.drew | refine Ext.setCell ?_ ?_ _) | (focus (simp [go_sem]; done))))⟩
      · obtain rfl : k = n := by omega
        have HE := Lib.hid (hyes (by
          have := hE.out
          rwa [List.take_of_length_le (by omega), List.take_of_length_le (by omega)] at this))
        clear hE
        go_wp2
        go_ret
        exact ⟨by rw [HE.out]; rfl, hx⟩
  · have HN := Lib.hid (hno fun e => hnm (by rw [← l1, ← l2, e]))
    clear l1 l2
    go_enter Try.func34, Try.ntmps34
    go_wp2
    go_ret
    exact ⟨by rw [HN.out]; rfl, Ext.refl _⟩
end Go.Proofs.Ytmmbcgbadaojeaa

/- sectimeref18.Same of equal packets. -/
namespace Go.Proofs.Ytmmbcgbadaojeaa
open Go.RowKit Go.Sec Go.Oct Go.Pkt BigFrame

set_option maxRecDepth 100000 in
set_option maxHeartbeats 1000000 in
theorem same18_any (h : Hdr) (a1 a2 b1 b2 : Option Addr) (n1 c1 n2 c2 d1 d2 : Nat) (A B : List Fld) (g : Bool) (w : World) (h1 : Ib w a1 n1 A) (h2 : Ib w b1 n1 A) (h3 : Ib w a2 n2 B) (h4 : Ib w b2 n2 B) (m1 : n1 ≤ 1000000) (m2 : n2 ≤ 1000000) :
    Calls Try.prog 33 #[.agg #[.int .i64 h.leap, .int .i64 h.ver, .int .i64 h.mode, .int .i64 h.strat, .int .i64 h.poll, .int .i64 h.prec, .int .u32 (n32 h.rd), .int .u32 (n32 h.rp), .int .u32 (n32 h.id), .int .u64 (n64 h.ref), .int .u64 (n64 h.org), .int .u64 (n64 h.rcv), .int .u64 (n64 h.tx), .slice a1 n1 c1, .slice a2 n2 c2, .bool g], .agg #[.int .i64 h.leap, .int .i64 h.ver, .int .i64 h.mode, .int .i64 h.strat, .int .i64 h.poll, .int .i64 h.prec, .int .u32 (n32 h.rd), .int .u32 (n32 h.rp), .int .u32 (n32 h.id), .int .u64 (n64 h.ref), .int .u64 (n64 h.org), .int .u64 (n64 h.rcv), .int .u64 (n64 h.tx), .slice b1 n1 d1, .slice b2 n2 d2, .bool g]] w fun e w' => e = .returned (.bool true) ∧ Ext w w' := by
  have s1 := fun W H1 H2 => sameFields_any a1 b1 n1 c1 n1 d1 A A W H1 H2 m1
  have s2 := fun W H1 H2 => sameFields_any a2 b2 n2 c2 n2 d2 B B W H1 H2 m2
  rw [decide_eq_true rfl] at s1 s2
  go_enter Try.func33, Try.ntmps33
  go_wp2_with fail; (with_reducible refine (s1 _ (h1.ext (by repeat (first | (with_reducible first | exact Ext.refl _ | assumption | apply Ext.alloc | apply Ext.ext | apply Ext.drew | refine Ext.setCell ?_ ?_ _) | (focus (simp [go_sem]; done))))) (h2.ext (by repeat (first | (with_reducible first | exact Ext.refl _ | assumption | apply Ext.alloc | apply Ext.ext | apply Ext.drew | refine Ext.setCell ?_ ?_ _) | (focus (simp [go_sem]; done)))))).mono ?_); rintro e w1 ⟨rfl, hxq⟩; obtain ⟨xq, rfl⟩ := hxq.out; clear hxq
  go_wp2_with fail; (with_reducible refine (s2 _ (h3.ext (by repeat (first | (with_reducible first | exact Ext.refl _ | assumption | apply Ext.alloc | apply Ext.ext | apply Ext.drew | refine Ext.setCell ?_ ?_ _) | (focus (simp [go_sem]; done))))) (h4.ext (by repeat (first | (with_reducible first | exact Ext.refl _ | assumption | apply Ext.alloc | apply Ext.ext | apply Ext.drew | refine Ext.setCell ?_ ?_ _) | (focus (simp [go_sem]; done)))))).mono ?_); rintro e w1 ⟨rfl, hxq⟩; obtain ⟨xq, rfl⟩ := hxq.out; clear hxq
  go_wp2_with fail
  go_ret
  exact ⟨rfl, (by repeat (first | (with_reducible first | exact Ext.refl _ | assumption | apply Ext.alloc | apply Ext.ext | apply Ext.drew | refine Ext.setCell ?_ ?_ _) | (focus (simp [go_sem]; done))))⟩
end Go.Proofs.Ytmmbcgbadaojeaa

/- sectimeworld.Padded, AllPadded. -/
namespace Go.Proofs.Ytmmbcgbadaojeaa
open Go.RowKit Go.Sec Go.Oct Go.Pkt BigFrame

/-- The length of the bytes in a field's box. -/
def lenAt (w : World) (g : Nat) : Nat := match w.cell? ⟨g, 1, none⟩ with | some (.slice _ m _) => m | _ => 0
theorem lenAt_blk {w : World} {g m c : Nat} {t : Int} {T : TypeId} {a : Option Addr} (h : Blk w g T [.int .i64 t, .slice a m c]) : lenAt w g = m := by
  unfold lenAt; rw [h.cell? 1 rfl]
set_option maxRecDepth 100000 in
set_option maxHeartbeats 1000000 in
theorem wpadded_any (t : Int) (a : Option Addr) (n c : Nat) (l : List UInt8) (w : World) (h : Sl w a n l) (hn : n ≤ 100000) :
    Calls Try.prog 70 #[.agg #[.int .i64 t, .slice a n c]] w (FldOut (padF (t, l)) w) := by
  have hl := h.len
  obtain ⟨N, hN⟩ : ∃ N, N = szN n - 4 := ⟨_, rfl⟩
  have hN2 : N = max 12 ((n + 3) / 4 * 4) := by rw [hN]; unfold szN; omega
  have hpl : (padF (t, l)).2.length = N := by have := padF_len (t, l); simp only at this; rw [hl] at this; omega
  have hpe : padF (t, l) = (t, l ++ List.replicate (N - n) 0) := by unfold padF; rw [hl, hN]
  rw [hpe] at hpl ⊢
  simp only at hpl
  clear hpe hN
  have hN1 : n ≤ N := by omega
  go_enter Try.func70, Try.ntmps70
  go_wp2_with fail
  refine nameW ?_
  intro W hW
  have hE : Ext w W := by rw [hW]; exact (by repeat (first | (with_reducible first | exact Ext.refl _ | assumption | apply Ext.alloc | apply Ext.ext | apply Ext.drew | refine Ext.setCell ?_ ?_ _) | (focus (simp [go_sem]; done))))
  have hB1 : Blk W w.heap.size 60 [.int .i64 t, .slice a n c] := by rw [hW]; exact (by repeat (first | assumption | (refine Blk.newAt _ _ _ _ ?_; first | rfl | (simp only [World.size_alloc]; done)) | apply Blk.ext | apply Blk.alloc | (refine Blk.other ?_ ?_ _; rotate_left; (simp <;> omega))))
  have hB2 : Blk W (w.heap.size + 1) 60 [.int .i64 0, .slice none 0 0] := by rw [hW]; exact (by repeat (first | assumption | (refine Blk.newAt _ _ _ _ ?_; first | rfl | (simp only [World.size_alloc]; done)) | apply Blk.ext | apply Blk.alloc | (refine Blk.other ?_ ?_ _; rotate_left; (simp <;> omega))))
  clear hW
  have h := h.ext hE
  haveI := hB1.blt
  have f0 := hB1.cell? 0 rfl
  have f1 := hB1.cell? 1 rfl
  refine R2.wp_region_vague 8 [[], [0], [], [2], [2, 3], [2, 3, 4], [0, 1, 2, 3, 4, 5], [], [0, 1, 2, 3, 4, 5, 6, 7]] (by kernel_rfl) (by kernel_rfl) (by kernel_rfl) (by kernel_rfl) ?_; simp only [List.take_succ_cons, List.take_zero, List.drop_succ_cons, List.drop_zero, List.take_nil, List.drop_nil]
  (repeat (apply R2.VD_der; (case h => (intro us w' hx hf; obtain ⟨x, rfl⟩ := hx.out; refine ⟨rfl, ?_⟩; simp [go_sem, execOp, *]; (try simp (disch := omega) only [Go.IntWalk.i64_in, Go.IntWalk.rem_in, Go.IntWalk.wrap64_in]); rfl)); (try simp only [Act.put, List.setIfInBounds_toArray, List.set_cons_succ, List.set_cons_zero])))
  (refine R2.VD_vag (fun p => .slice (p 0).1 (1) (1)) (fun p w'' => Bss w'' (p 0).1 (1) ([l])) (fun p w w' h hx => h.ext hx) (fun us w' hx hf => ⟨rfl, ?_⟩) ?_; (unfold gives; simp [go_sem, execOp]; exact ⟨fun _ => (some ⟨w'.heap.size, 0, none⟩, 0), rfl, Ext.of_alloc _ _, bss1 (h.ext hx) _⟩))
  (refine R2.VD_vag (fun p => .slice (p 0).1 (n) (p 0).2) (fun p w'' => Own w'' (w.heap.size) (p 0).1 (n) (p 0).2 (l)) (fun p w w' h hx => h.ext hx) (fun us w' hx hf => ⟨rfl, ?_⟩) ?_; (unfold gives; simp [go_sem, execOp]; exact vag_fresh (Nat.le_trans hE.size hx.size) ((by have := join_any _ 1 1 [l] _ (hf _ (List.mem_append_right _ (List.mem_singleton_self _)) rfl) (by omega) n (by rw [joinL1, hl]) (by omega); rwa [joinL1] at this))))
  (repeat (apply R2.VD_der; (case h => (intro us w' hx hf; obtain ⟨x, rfl⟩ := hx.out; refine ⟨rfl, ?_⟩; simp [go_sem, execOp, *]; (try simp (disch := omega) only [Go.IntWalk.i64_in, Go.IntWalk.rem_in, Go.IntWalk.wrap64_in]); rfl)); (try simp only [Act.put, List.setIfInBounds_toArray, List.set_cons_succ, List.set_cons_zero])))
  (refine R2.VD_alloc _ ([.int .i64 0, .slice none 0 0]) Try.zeroValue60 rfl rfl rfl ?_)
  (refine R2.VD_nil ?_; intro us w' hx hf hd; obtain ⟨x, rfl⟩ := hx.out; (try simp only [Act.put, List.setIfInBounds_toArray, List.set_cons_succ, List.set_cons_zero, wpList_none]); (try simp only [List.mem_cons, List.not_mem_nil, or_false, forall_eq_or_imp, forall_eq, List.nil_append, List.cons_append, List.mem_append, false_or, true_and, and_true] at hf); (try simp only [Nat.reduceAdd, Nat.zero_add] at hf); (try simp only [Nat.reduceAdd, Nat.zero_add]))
  obtain ⟨-, hO, g, eg, hgW, hBg⟩ := hf
  obtain ⟨a5, ha5⟩ : ∃ a, (us 5 0).1 = a := ⟨_, rfl⟩
  obtain ⟨c5, hc5⟩ : ∃ a, (us 5 0).2 = a := ⟨_, rfl⟩
  rw [ha5, hc5] at hO ⊢
  rw [eg]
  clear ha5 hc5 eg hd
  have hxx : Ext W (W.ext x) := Ext.of_ext _ _
  have hlW2 := hB2.lt
  have hB2 := hB2.extB hxx
  have hE1 := hE.trans hxx
  have hlt := hB2.lt
  have hlW := hB1.lt
  clear hE hB1 f0 f1 hxx
  generalize W.ext x = W1 at *
  haveI := hBg.blt
  go_wp2_with (first
    | (refine wpList_store_arr (RF2) rfl _ _ rfl (g) (0) rfl ([.int .i64 t, .slice a5 n c5]) rfl (60) _ (hBg) (rfl) (by simp) ((by simp; repeat' (first | rfl | constructor))) ?_; intro V hV hMV)
    | fail)
  have hO := hO.mutNe hMV (own_type hO.2 hBg (by decide))
  have hB2 : Blk V (w.heap.size + 1) 60 [.int .i64 0, .slice none 0 0] := Blk.turn hMV hB2 (by omega)
  have hE2 : Ext w V := Below.trans hE1 (hMV.below (by omega) hE1.size)
  have hbV : w.heap.size ≤ V.heap.size := hE2.size
  clear hBg hMV hE1 hlt
  simp only [Act.put]
  go_loopw [] (fun wr => ∃ (m : Nat) (sa : Option Addr) (sc : Nat), n ≤ m ∧ m ≤ N ∧ Blk wr g 60 [.int .i64 t, .slice sa m sc] ∧ Own wr w.heap.size sa m sc (l ++ List.replicate (m - n) 0) ∧ Blk wr (w.heap.size + 1) 60 [.int .i64 0, .slice none 0 0] ∧ Ext w wr) (fun wr => N - lenAt wr g)
  case atStart => exact ⟨n, a5, c5, Nat.le_refl _, hN1, hV, by simpa using hO, hB2, hE2⟩
  case round =>
    clear hV hO hB2 hE2 hbV
    obtain ⟨m, sa, sc, hm0, hm1, hB, hO, hB2, hx⟩ := hrel
    haveI := hB.blt
    have f1 := hB.cell? 1 rfl
    have hmb : m ≤ 100012 := by omega
    by_cases q1 : (4 + m) % 4 = 0
    · have q1j : (m : Int) % 4 = 0 := by omega
      have q1i : ((m : Int) % 4 != 0) = false := by rw [bne_eq_false_iff_eq]; omega
      by_cases q2 : m < 12
      · have q2i : decide ((m : Int) < 12) = true := by rw [decide_eq_true_iff]; omega
        have hlt : m < N := by omega
        clear q1 q2
        have HN := Lib.hid hN2
        have HS := Lib.hid (show m + 1 - n = (m - n) + 1 by omega)
        have HP := Lib.hid hpl
        clear hN2 hpl
        have hgr : ∀ w2, (wr.alloc (.cells #[.int .u8 0] 5)).grownBy w2 (Value.slice sa m sc).ownBlock → Blk w2 g 60 [.int .i64 t, .slice sa m sc] ∧ Blk w2 (w.heap.size + 1) 60 [.int .i64 0, .slice none 0 0] := fun w2 hg2 => by
          have hxa := Ext.of_alloc wr (.cells #[.int .u8 0] 5)
          have hOa := hO.ext hxa
          exact ⟨(hB.extB hxa).grown hg2 (own_type hOa.2 (hB.extB hxa) (by decide)), (hB2.extB hxa).grown hg2 (own_type hOa.2 (hB2.extB hxa) (by decide))⟩
        go_wp2_with (first
          | (at_builtin; refine wpList_append_by U rfl _ _ rfl w.heap.size sa _ sc _ rfl _ 1 1 _ rfl (hO.ext (by repeat (first | (with_reducible first | exact Ext.refl _ | assumption | apply Ext.alloc | apply Ext.ext | apply Ext.drew | refine Ext.setCell ?_ ?_ _) | (focus (simp [go_sem]; done))))) (sl_new1 _ 0 _) (by omega) (by simp; have := hx.size; omega) ?_; intro sa2 sc2 w2 hO2 hg2 hb2; obtain ⟨hB3, hB4⟩ := hgr _ hg2; have hz := hB3.free 1; have hc3 := hB3.cell? 1 rfl; haveI := hB3.blt)
          | fail)
        have hset := hB3.set 1 (.slice sa2 (m + 1) sc2)
        have hM : Mut g w2 (w2.setCell ⟨g, 1, none⟩ (.slice sa2 (m + 1) sc2)) := (Mut.refl _ _).setCell 1 _
        have hE6 : Ext w w2 := Below.trans (hx.trans (Ext.of_alloc _ _)) hb2
        go_roundw
        case rel => exact ⟨m + 1, sa2, sc2, by omega, by omega, hset, (by rw [HS.out, List.replicate_succ', ← List.append_assoc]; exact hO2.mutNe hM (own_type hO2.2 hB3 (by decide))), Blk.turn hM hB4 (by omega), Below.trans hE6 (hM.below (by omega) hE6.size)⟩
        case measure => rw [lenAt_blk hB, lenAt_blk hset]; omega
      · have q2i : decide ((m : Int) < 12) = false := by rw [decide_eq_false_iff_not]; omega
        obtain rfl : m = N := by omega
        clear q1 q2 hN2
        go_wp2_with (first
          | (refine wpList_load_arr (RF2) rfl _ rfl (g) (0) rfl ([.int .i64 t, .slice sa m sc]) (((hB.extB (by repeat (first | (with_reducible first | exact Ext.refl _ | assumption | apply Ext.alloc | apply Ext.ext | apply Ext.drew | refine Ext.setCell ?_ ?_ _) | (focus (simp [go_sem]; done))))).rd)) (rfl) ?_)
          | (refine wpList_store_arr (RF2) rfl _ _ rfl (w.heap.size + 1) (0) rfl ([.int .i64 t, .slice sa m sc]) rfl (60) _ ((hB2.extB (by repeat (first | (with_reducible first | exact Ext.refl _ | assumption | apply Ext.alloc | apply Ext.ext | apply Ext.drew | refine Ext.setCell ?_ ?_ _) | (focus (simp [go_sem]; done)))))) (rfl) (by simp) ((by simp; repeat' (first | rfl | constructor))) ?_; intro V2 hV2 hM2)
          | fail)
        refine bodyPost_ret (results_arr Try.results70 (RF2) _ _ (w.heap.size + 1) (0) ([.int .i64 t, .slice sa m sc]) rfl (hV2.rd) (rfl)) rfl ?_
        exact ⟨sa, sc, by rw [hpl], by rw [hpl]; exact (hO.mutNe hM2 (own_type hO.2 hB2 (by decide))).mono (Nat.zero_le _), Below.trans hx (hM2.below (by omega) hx.size)⟩
    · have q1j : ¬ (m : Int) % 4 = 0 := by omega
      have q1i : ((m : Int) % 4 != 0) = true := by rw [bne_iff_ne]; omega
      have hlt : m < N := by omega
      clear q1
      have HN := Lib.hid hN2
      have HS := Lib.hid (show m + 1 - n = (m - n) + 1 by omega)
      have HP := Lib.hid hpl
      clear hN2 hpl
      have hgr : ∀ w2, (wr.alloc (.cells #[.int .u8 0] 5)).grownBy w2 (Value.slice sa m sc).ownBlock → Blk w2 g 60 [.int .i64 t, .slice sa m sc] ∧ Blk w2 (w.heap.size + 1) 60 [.int .i64 0, .slice none 0 0] := fun w2 hg2 => by
        have hxa := Ext.of_alloc wr (.cells #[.int .u8 0] 5)
        have hOa := hO.ext hxa
        exact ⟨(hB.extB hxa).grown hg2 (own_type hOa.2 (hB.extB hxa) (by decide)), (hB2.extB hxa).grown hg2 (own_type hOa.2 (hB2.extB hxa) (by decide))⟩
      go_wp2_with (first
        | (at_builtin; refine wpList_append_by U rfl _ _ rfl w.heap.size sa _ sc _ rfl _ 1 1 _ rfl (hO.ext (by repeat (first | (with_reducible first | exact Ext.refl _ | assumption | apply Ext.alloc | apply Ext.ext | apply Ext.drew | refine Ext.setCell ?_ ?_ _) | (focus (simp [go_sem]; done))))) (sl_new1 _ 0 _) (by omega) (by simp; have := hx.size; omega) ?_; intro sa2 sc2 w2 hO2 hg2 hb2; obtain ⟨hB3, hB4⟩ := hgr _ hg2; have hz := hB3.free 1; have hc3 := hB3.cell? 1 rfl; haveI := hB3.blt)
        | fail)
      have hset := hB3.set 1 (.slice sa2 (m + 1) sc2)
      have hM : Mut g w2 (w2.setCell ⟨g, 1, none⟩ (.slice sa2 (m + 1) sc2)) := (Mut.refl _ _).setCell 1 _
      have hE6 : Ext w w2 := Below.trans (hx.trans (Ext.of_alloc _ _)) hb2
      go_roundw
      case rel => exact ⟨m + 1, sa2, sc2, by omega, by omega, hset, (by rw [HS.out, List.replicate_succ', ← List.append_assoc]; exact hO2.mutNe hM (own_type hO2.2 hB3 (by decide))), Blk.turn hM hB4 (by omega), Below.trans hE6 (hM.below (by omega) hE6.size)⟩
      case measure => rw [lenAt_blk hB, lenAt_blk hset]; omega
end Go.Proofs.Ytmmbcgbadaojeaa

/- sectimeworld.AllPadded. -/
namespace Go.Proofs.Ytmmbcgbadaojeaa
open Go.RowKit Go.Sec Go.Oct Go.Pkt BigFrame

set_option maxRecDepth 100000 in
set_option maxHeartbeats 1000000 in
theorem wallpadded_any (a : Option Addr) (n c : Nat) (L : List Fld) (w : World) (h : Ib w a n L) (hn : n ≤ 1000) (hb : ∀ f ∈ L, f.2.length ≤ 100000) :
    Calls Try.prog 32 #[.slice a n c] w fun e w' => ∃ b d, e = .returned (.slice b n d) ∧ OwnI 60 w' w.heap.size b n d (L.map padF) ∧ Ext w w' := by
  have hl := h.len
  have hts : ∀ k x, L[k]? = some x → (L.map padF).take (k + 1) = (L.map padF).take k ++ [padF x] := fun k x hx => by
    obtain ⟨hk, rfl⟩ := List.getElem?_eq_some_iff.1 hx
    have hk2 : k < (L.map padF).length := by simpa using hk
    rw [List.take_succ_eq_append_getElem hk2]
    simp
  have hFl : (L.map padF).length = n := by simpa using hl
  obtain ⟨F, hF⟩ : ∃ F, L.map padF = F := ⟨_, rfl⟩
  rw [hF] at hts hFl ⊢
  clear hF
  go_enter Try.func32, Try.ntmps32
  go_wp2_with fail
  go_loopw [3, 4] (fun v3 v4 wr => ∃ (k : Nat) (sa : Option Addr) (sc : Nat), k ≤ n ∧ v4 = .int .i64 k ∧ v3 = .slice sa k sc ∧ OwnI 60 wr w.heap.size sa k sc (F.take k) ∧ Ext w wr) (fun _ v4 _ => n - (intOf v4).toNat)
  case atStart => exact ⟨0, none, 0, by omega, rfl, rfl, OwnI.nil _ _ _, Ext.refl _⟩
  case round =>
    obtain ⟨k, sa, sc, hk, rfl, rfl, hO, hx⟩ := hrel
    by_cases hlt : k < n
    · obtain ⟨x, hxi⟩ : ∃ x, L[k]? = some x := ⟨_, List.getElem?_eq_getElem (by omega)⟩
      obtain ⟨b0, o0, g', c', rfl, hbw, hw0, hw1, hSk, hck⟩ := (h.ext hx).at k (by omega) _ hxi
      have hlx := hb x (List.mem_of_getElem? hxi)
      have i0 : (0 : Int) ≤ (k : Int) := by omega
      have i1 : (k : Int) < (n : Int) := by omega
      have hF1 := Lib.hid (hts k x hxi)
      haveI := hbw
      have hrd : Rd wr (some ⟨b0, o0 + k * 2, none⟩) [.int .i64 x.1, .slice g' x.2.length c'] := rd2 hbw.lt hw0 hw1
      have hfd : ∀ W, Sl W g' x.2.length x.2 → Calls Try.prog 70 #[.agg #[.int .i64 x.1, .slice g' x.2.length c']] W (FldOut (padF x) W) := fun W H => wpadded_any x.1 g' x.2.length c' x.2 W H hlx
      generalize padF x = f at *
      go_wp2_with (first
        | (refine wpList_load_arr (RF2) rfl _ rfl (b0) (o0 + k * 2) rfl ([.int .i64 x.1, .slice g' x.2.length c']) (hrd) (rfl) ?_)
        | fail)
      (with_reducible refine (hfd _ hSk).mono ?_)
      rintro e w5 ⟨a5, c5, rfl, hO5, hx5⟩
      have hx6 := hx5.alloc (.cells #[.int .i64 f.1, .slice a5 f.2.length c5] 60)
      go_wp2_with (first
        | (at_builtin; refine wpList_append_i VF rfl _ _ rfl w.heap.size sa k sc _ rfl w5.heap.size 1 f.1 a5 f.2.length c5 f.2 rfl (hO.ext hx6) (Blk.new w5 #[.int .i64 f.1, .slice a5 f.2.length c5] 60).rd (hO5.sl.ext (Ext.of_alloc _ _)) hO5.le.1 ((hO5.ext (Ext.of_alloc _ _)).inT (by decide)) (by omega) (hx.trans hx6).size ?_; intro sa' sc' w6 hO6 hg6 hb6)
        | fail)
      have hE6 : Ext w w6 := Below.trans (hx.trans hx6) hb6
      go_roundw
      case rel => exact ⟨k + 1, sa', sc', by omega, by go_num, rfl, by rw [hF1.out]; exact hO6, hE6⟩
      case measure => simp [intOf]; omega
    · obtain rfl : k = n := by omega
      have hFk : F.take k = F := List.take_of_length_le (by omega)
      rw [hFk] at hO
      go_wp2_with fail
      go_ret
      exact ⟨sa, sc, rfl, hO, hx⟩
end Go.Proofs.Ytmmbcgbadaojeaa

/- Layer 18: the law ProtectOpens. -/
namespace Go.Pkt
open Go.Oct Go.Aes Go.Sec
def protY (K N : List UInt8) (t : UInt64) (A B : List (Int × List UInt8)) : List UInt8 := hdrB (askH t) ++ bytesF (wflds A) ++ fldB (1028, guardB N (sealB K ⟨askH t, wflds A, wflds B, false⟩ N))
theorem protY_spec {K N : List UInt8} (t : UInt64) (A B : List (Int × List UInt8)) (hK : K.length = 32) (hN : 16 ≤ N.length ∧ N.length ≤ 32) :
    protE K ⟨askH t, wflds A, wflds B, false⟩ N = (protY K N t A B, 0) ∧ (protY K N t A B).length ≤ 1280 ∧ openP K (protY K N t A B) = (⟨askH t, (wflds A).map padF, (wflds B).map padF, true⟩, 0) ∧ ∃ G, readE (protY K N t A B) = (⟨askH t, (wflds A).map padF ++ [(1028, G)], [], false⟩, 0) := by
  have hf := wflds_fits t A B false _ hN
  have hp := protE_fits hK hf
  have h1 := fits_len hf
  have h2 := hf.t
  have h3 := hp.2
  have h4 := openP_fits hK hf
  have h5 := readE_fits hK hf
  have h6 := hp.1
  have e : protY K N t A B = hdrB (askH t) ++ bytesF (wflds A) ++ fldB (1028, guardB N (sealB K ⟨askH t, wflds A, wflds B, false⟩ N)) := rfl
  dsimp only at h4 h5 h6
  rw [← e] at h4 h5 h6
  refine ⟨h6, ?_, h4, _, h5⟩
  clear h4 h5 h6 hp
  rw [e, List.length_append]
  have h1 : (hdrB (askH t) ++ bytesF (wflds A)).length = 48 + totN (wflds A) := h1
  have h3 : (fldB (1028, guardB N (sealB K ⟨askH t, wflds A, wflds B, false⟩ N))).length = 8 + pad4 N.length + pad4 (16 + totN (wflds B)) := h3
  have h2 : 48 + totN (wflds A) + (8 + pad4 N.length + pad4 (16 + totN (wflds B))) ≤ 1280 := h2
  omega
end Go.Pkt
namespace Go.Proofs.Ytmmbcgbadaojeaa
open Go.RowKit Go.Sec Go.Oct Go.Pkt Go.Aes Go.Sha BigFrame

theorem u64_of {z : Int} (h : (Lit.int .u64 z).wf = true) : ∃ t : UInt64, z = n64 t := by
  have : 0 ≤ z ∧ z ≤ 18446744073709551615 := by simpa [Lit.wf, IntKind.min, IntKind.max, IntKind.signed, IntKind.bits] using h
  exact ⟨UInt64.ofNat z.toNat, by unfold n64; rw [UInt64.toNat_ofNat']; omega⟩
theorem protY_any (ak an a1 a2 : Option Addr) (ck n cn d1 d2 : Nat) (K N : List UInt8) (t : UInt64) (A B : List (Int × List UInt8)) (w : World) (hk : Sl w ak 32 K) (hck : 32 ≤ ck) (hn : Sl w an n N) (hcn : n ≤ cn) (hnn : 16 ≤ n ∧ n ≤ 32) (hI1 : Ib w a1 (wflds A).length (wflds A)) (hI2 : Ib w a2 (wflds B).length (wflds B)) :
    Calls Try.prog 28 #[.slice ak 32 ck, .agg #[.int .i64 (askH t).leap, .int .i64 (askH t).ver, .int .i64 (askH t).mode, .int .i64 (askH t).strat, .int .i64 (askH t).poll, .int .i64 (askH t).prec, .int .u32 (n32 (askH t).rd), .int .u32 (n32 (askH t).rp), .int .u32 (n32 (askH t).id), .int .u64 (n64 (askH t).ref), .int .u64 (n64 (askH t).org), .int .u64 (n64 (askH t).rcv), .int .u64 (n64 (askH t).tx), .slice a1 (wflds A).length d1, .slice a2 (wflds B).length d2, .bool false], .slice an n cn] w (Read2 (protY K N t A B).length (protY K N t A B) (.int .i64 0) w) := by
  have lA := wflds_len A
  have lB := wflds_len B
  have := pprotect_any ak an a1 a2 32 ck n cn (wflds A).length d1 (wflds B).length d2 ⟨askH t, wflds A, wflds B, false⟩ K N w hk hck hn hcn (by omega) hI1 (by omega) (fun f hf => by have := (wflds_in hf).2.2; omega) hI2 (by omega) (fun f hf => by have := (wflds_in hf).2.2; omega)
  rw [(protY_spec t A B hk.len (by rw [hn.len]; exact hnn)).1] at this
  exact this
set_option maxRecDepth 100000 in
set_option maxHeartbeats 1000000 in
theorem protectOpens_walk (seed tr : Int) (a : Option Addr) (n1 c1 : Nat) (b : Option Addr) (n2 c2 : Nat) (nz : Int) (A B : List (Int × List UInt8)) (w : World) (htr : (Lit.int .u64 tr).wf = true) (h1 : Ib w a n1 A) (_k1 : n1 ≤ c1) (_w1 : ∀ x ∈ A, (Lit.int .i64 x.1).wf = true) (h2 : Ib w b n2 B) (_k2 : n2 ≤ c2) (_w2 : ∀ x ∈ B, (Lit.int .i64 x.1).wf = true) :
    Calls Try.prog 7 #[.int .i64 seed, .int .u64 tr, .slice a n1 c1, .slice b n2 c2, .int .i64 nz] w fun e w' => e = .returned (.bool true) ∧ Ext w w' := by
  obtain ⟨t, rfl⟩ := u64_of htr
  clear htr
  obtain ⟨s1, hs1, es1⟩ := nmod seed 1000 (by omega)
  have es1 : seed % 1000 = (s1 : Int) := es1
  obtain ⟨k, hk, ek⟩ := nmod nz 17 (by omega)
  have ek : nz % 17 = (k : Int) := ek
  have hw1 := fun W => within_any seed 1000 W (by omega) (by omega)
  rw [es1] at hw1
  have hwk := fun W => within_any nz 17 W (by omega) (by omega)
  rw [ek] at hwk
  have hask : ∀ W, Calls Try.prog 26 #[.int .u64 (n64 t)] W fun e w' => e = .returned (.agg #[.int .i64 (askH t).leap, .int .i64 (askH t).ver, .int .i64 (askH t).mode, .int .i64 (askH t).strat, .int .i64 (askH t).poll, .int .i64 (askH t).prec, .int .u32 (n32 (askH t).rd), .int .u32 (n32 (askH t).rp), .int .u32 (n32 (askH t).id), .int .u64 (n64 (askH t).ref), .int .u64 (n64 (askH t).org), .int .u64 (n64 (askH t).rcv), .int .u64 (n64 (askH t).tx)]) ∧ Ext W w' := fun W => rask_any t W
  have hf1 := fun W H => wfields_any a n1 c1 A W H
  have hf2 := fun W H => wfields_any b n2 c2 B W H
  have hky := fun W => key_any s1 rfl W (by omega)
  have hnn := fun W => wbytes_any (s1 + 1) (16 + k) (show (s1 : Int) + 1 = ((s1 + 1 : Nat) : Int) by omega) (show (16 : Int) + (k : Int) = ((16 + k : Nat) : Int) by omega) W (by omega) (by omega)
  have hKl := wbytes_length s1 32
  have hNl := wbytes_length (s1 + 1) (16 + k)
  obtain ⟨-, hXl, hop, G, hrd⟩ := protY_spec (K := wbytes s1 32) (N := wbytes (s1 + 1) (16 + k)) t A B hKl (by omega)
  have hpr := fun ak an a1 a2 ck cn d1 d2 W H1 H2 H3 H4 => protY_any ak an a1 a2 ck (16 + k) cn d1 d2 (wbytes s1 32) (wbytes (s1 + 1) (16 + k)) t A B W H1 H2 H3 H4 (by omega)
  generalize protY (wbytes s1 32) (wbytes (s1 + 1) (16 + k)) t A B = X at *
  generalize wbytes s1 32 = K at *
  generalize wbytes (s1 + 1) (16 + k) = N at *
  clear es1 ek
  have lA := wflds_len A
  have lB := wflds_len B
  have hap1 := fun q d W (H : Ib W q (wflds A).length (wflds A)) => wallpadded_any q (wflds A).length d (wflds A) W H (by omega) (fun f hf => by have := (wflds_in hf).2.2; omega)
  have hap2 := fun q d W (H : Ib W q (wflds B).length (wflds B)) => wallpadded_any q (wflds B).length d (wflds B) W H (by omega) (fun f hf => by have := (wflds_in hf).2.2; omega)
  have mA : ((wflds A).map padF).length = (wflds A).length := List.length_map ..
  have mB : ((wflds B).map padF).length = (wflds B).length := List.length_map ..
  generalize (wflds A).map padF = Q1 at *
  generalize (wflds B).map padF = Q2 at *
  generalize wflds A = P1 at *
  generalize wflds B = P2 at *
  clear _w1 _w2
  have hKl := Lib.hid hKl
  have hNl := Lib.hid hNl
  go_enter Try.func7, Try.ntmps7
  go_wp2_with fail
  (with_reducible refine (hw1 _).mono ?_); rintro e w1 ⟨rfl, hx1⟩
  go_wp2_with fail
  (with_reducible refine (hask _).mono ?_); rintro e w3 ⟨rfl, hx3⟩
  have hE3 := hx1.trans hx3
  clear hx1 hx3 hw1 hask
  go_wp2_with fail
  (with_reducible refine (hf1 _ (h1.ext hE3)).mono ?_); rintro e w4 ⟨b1, d1, rfl, hO1, hx4⟩
  have hE4 := hE3.trans hx4
  clear hE3 hf1 hx4
  go_wp2_with fail
  (with_reducible refine (hf2 _ (h2.ext hE4)).mono ?_); rintro e w5 ⟨b2, d2, rfl, hO2, hx5⟩
  have hE5 := hE4.trans hx5
  have hI1 := hO1.ib.1.ext hx5
  have hI2 := hO2.ib.1
  clear hE4 hf2 hx5 hO1 hO2
  go_wp2_with (first
    | (refine wpList_alloc_store (RP16) rfl rfl _ _ rfl rfl rfl rfl (by simp [Act.put]) ([.int .i64 (askH t).leap, .int .i64 (askH t).ver, .int .i64 (askH t).mode, .int .i64 (askH t).strat, .int .i64 (askH t).poll, .int .i64 (askH t).prec, .int .u32 (n32 (askH t).rd), .int .u32 (n32 (askH t).rp), .int .u32 (n32 (askH t).id), .int .u64 (n64 (askH t).ref), .int .u64 (n64 (askH t).org), .int .u64 (n64 (askH t).rcv), .int .u64 (n64 (askH t).tx), .slice b1 P1.length d1, .slice b2 P2.length d2, .bool false]) rfl (by simp) (rfl) ((by simp; repeat' (first | rfl | constructor))) ?_; intro x hz _)
    | fail)
  refine nameW ?_
  intro W hW
  have hx6 : Ext w5 W := by rw [hW]; exact (by repeat (first | (with_reducible first | exact Ext.refl _ | assumption | apply Ext.alloc | apply Ext.ext | apply Ext.drew | refine Ext.setCell ?_ ?_ _) | (focus (simp [go_sem]; done))))
  have hB1 : Blk W w5.heap.size 58 [.int .i64 (askH t).leap, .int .i64 (askH t).ver, .int .i64 (askH t).mode, .int .i64 (askH t).strat, .int .i64 (askH t).poll, .int .i64 (askH t).prec, .int .u32 (n32 (askH t).rd), .int .u32 (n32 (askH t).rp), .int .u32 (n32 (askH t).id), .int .u64 (n64 (askH t).ref), .int .u64 (n64 (askH t).org), .int .u64 (n64 (askH t).rcv), .int .u64 (n64 (askH t).tx), .slice b1 P1.length d1, .slice b2 P2.length d2, .bool false] := by rw [hW]; exact hz.extB (by repeat (first | (with_reducible first | exact Ext.refl _ | assumption | apply Ext.alloc | apply Ext.ext | apply Ext.drew | refine Ext.setCell ?_ ?_ _) | (focus (simp [go_sem]; done))))
  have hE6 := hE5.trans hx6
  have hI1 := hI1.ext hx6
  have hI2 := hI2.ext hx6
  clear hW hx6 hz hE5
  haveI := hB1.blt
  refine wp_region_vague 14 [[], [0], [], [], [3], [], [0, 1, 5], [0, 1, 5, 6], [0, 1, 3, 4, 5, 6, 7], [0, 1, 2, 3, 4, 5, 6, 7, 8], [0, 1, 2, 3, 4, 5, 6, 7, 8, 9], [0, 1, 2, 3, 4, 5, 6, 7, 8, 9, 10], [0, 1, 2, 3, 4, 5, 6, 7, 8, 9, 10], [0, 1, 2, 3, 4, 5, 6, 7, 8, 9, 10, 11], [0, 1, 2, 3, 4, 5, 6, 7, 8, 9, 10, 11, 12, 13]] (by kernel_rfl) (by kernel_rfl) (by kernel_rfl) (by kernel_rfl) ?_; simp only [List.take_succ_cons, List.take_zero, List.drop_succ_cons, List.drop_zero, List.take_nil, List.drop_nil]
  (repeat (apply VD_der; (case h => (intro us w' hx hf; obtain ⟨x, rfl⟩ := hx.out; refine ⟨rfl, ?_⟩; simp [go_sem, execOp, *]; (try simp (disch := omega) only [Go.IntWalk.i64_in, Go.IntWalk.rem_in, Go.IntWalk.wrap64_in]); rfl)); (try simp only [Act.put, List.setIfInBounds_toArray, List.set_cons_succ, List.set_cons_zero])))
  (refine VD_vag (fun p => .slice (p 0).1 (32) (p 0).2) (fun p w'' => Own w'' 0 (p 0).1 (32) (p 0).2 (K)) (fun p w w' h hx => h.ext hx) (fun us w' hx hf => ⟨rfl, ?_⟩) ?_; (unfold gives; simp [go_sem, execOp]; exact vag_fresh (Nat.zero_le _) (hky _)))
  (refine VD_load_arr (RP16) _ rfl (fun _ => rfl) (w5.heap.size) (0) (fun _ => by simp [go_sem]) ([.int .i64 (askH t).leap, .int .i64 (askH t).ver, .int .i64 (askH t).mode, .int .i64 (askH t).strat, .int .i64 (askH t).poll, .int .i64 (askH t).prec, .int .u32 (n32 (askH t).rd), .int .u32 (n32 (askH t).rp), .int .u32 (n32 (askH t).id), .int .u64 (n64 (askH t).ref), .int .u64 (n64 (askH t).org), .int .u64 (n64 (askH t).rcv), .int .u64 (n64 (askH t).tx), .slice b1 P1.length d1, .slice b2 P2.length d2, .bool false]) (hB1.rd) (rfl) ?_)
  (repeat (apply VD_der; (case h => (intro us w' hx hf; obtain ⟨x, rfl⟩ := hx.out; refine ⟨rfl, ?_⟩; simp [go_sem, execOp, *]; (try simp (disch := omega) only [Go.IntWalk.i64_in, Go.IntWalk.rem_in, Go.IntWalk.wrap64_in]); rfl)); (try simp only [Act.put, List.setIfInBounds_toArray, List.set_cons_succ, List.set_cons_zero])))
  (refine VD_vag (fun _ => .int .i64 (k : Int)) (fun _ _ => True) (fun _ _ _ _ _ => trivial) (fun us w' hx hf => ⟨rfl, ?_⟩) ?_; (unfold gives; simp [go_sem, execOp]; refine (hwk _).mono ?_; rintro e w1 ⟨rfl, hx1⟩; first | exact ⟨rfl, hx1⟩ | simpa using hx1))
  (repeat (apply VD_der; (case h => (intro us w' hx hf; obtain ⟨x, rfl⟩ := hx.out; refine ⟨rfl, ?_⟩; simp [go_sem, execOp, *]; (try simp (disch := omega) only [Go.IntWalk.i64_in, Go.IntWalk.rem_in, Go.IntWalk.wrap64_in]); rfl)); (try simp only [Act.put, List.setIfInBounds_toArray, List.set_cons_succ, List.set_cons_zero])))
  (refine VD_vag (fun p => .slice (p 0).1 (16 + k) (p 0).2) (fun p w'' => Own w'' 0 (p 0).1 (16 + k) (p 0).2 (N)) (fun p w w' h hx => h.ext hx) (fun us w' hx hf => ⟨rfl, ?_⟩) ?_; (unfold gives; simp [go_sem, execOp]; exact vag_fresh (Nat.zero_le _) (hnn _)))
  (refine VD_vag (fun p => .tuple #[.slice (p 0).1 (X.length) (p 0).2, .int .i64 0]) (fun p w'' => Sl w'' (p 0).1 (X.length) (X) ∧ (X.length) ≤ (p 0).2) (fun p w w' h hx => ⟨h.1.ext hx, h.2⟩) (fun us w' hx hf => ⟨rfl, ?_⟩) ?_; (unfold gives; simp [go_sem, execOp]; exact vag_read (hpr _ _ b1 b2 _ _ d1 d2 _ (Own.sl (hf _ (List.mem_append_left _ (List.mem_append_left _ (List.mem_append_right _ (List.mem_singleton_self _)))) rfl)) (Own.le (hf _ (List.mem_append_left _ (List.mem_append_left _ (List.mem_append_right _ (List.mem_singleton_self _)))) rfl)).1 (Own.sl (hf _ (List.mem_append_right _ (List.mem_singleton_self _)) rfl)) (Own.le (hf _ (List.mem_append_right _ (List.mem_singleton_self _)) rfl)).1 (hI1.ext hx) (hI2.ext hx))))
  (repeat (apply VD_der; (case h => (intro us w' hx hf; obtain ⟨x, rfl⟩ := hx.out; refine ⟨rfl, ?_⟩; simp [go_sem, execOp, *]; (try simp (disch := omega) only [Go.IntWalk.i64_in, Go.IntWalk.rem_in, Go.IntWalk.wrap64_in]); rfl)); (try simp only [Act.put, List.setIfInBounds_toArray, List.set_cons_succ, List.set_cons_zero])))
  (refine VD_nil ?_; intro us w' hx hf; obtain ⟨x, rfl⟩ := hx.out; (try simp only [Act.put, List.setIfInBounds_toArray, List.set_cons_succ, List.set_cons_zero, wpList_none]); (try simp only [List.mem_cons, List.not_mem_nil, or_false, forall_eq_or_imp, forall_eq, List.nil_append, List.cons_append, List.mem_append, false_or, true_and, and_true] at hf); (try simp only [Nat.reduceAdd, Nat.zero_add] at hf); (try simp only [Nat.reduceAdd, Nat.zero_add]))
  obtain ⟨-, -, hX, hXc⟩ := hf
  obtain ⟨p5, hp5⟩ : ∃ a, (us 9 0).1 = a := ⟨_, rfl⟩
  obtain ⟨q5, hq5⟩ : ∃ a, (us 9 0).2 = a := ⟨_, rfl⟩
  rw [hp5] at hX ⊢
  rw [hq5] at hXc ⊢
  clear hp5 hq5 hnn hpr
  have hxx : Ext W (W.ext x) := Ext.of_ext _ _
  have hE7 := hE6.trans hxx
  have hB1 := hB1.extB hxx
  have hI1 := hI1.ext hxx
  have hI2 := hI2.ext hxx
  clear hE6 hxx
  generalize W.ext x = W7 at *
  haveI := hB1.blt
  have hope := fun ak ck W H1 H2 H3 => popenp_any ak p5 32 ck X.length q5 K X W H1 H2 H3 hXc (by omega)
  rw [hop] at hope
  have hrda := fun W H => pread_any p5 X.length q5 X W H hXc (by omega)
  rw [hrd] at hrda
  clear hop hrd
  go_wp2_with fail
  (with_reducible refine (hky _).mono ?_); rintro e w8 ⟨p8, q8, rfl, hO8, hx8⟩
  go_wp2_with fail
  (with_reducible refine (hope _ _ _ hO8.sl hO8.le.1 (hX.ext hx8)).mono ?_)
  rintro e w9 ⟨a4, n4, c4, a5, n5, c5, rfl, hI4, hc4, hI5, hc5, hx9⟩
  have hE9 := hE7.trans (hx8.trans hx9)
  have hB1 := hB1.extB (hx8.trans hx9)
  have hI1 := hI1.ext (hx8.trans hx9)
  have hI2 := hI2.ext (hx8.trans hx9)
  have hX := hX.ext (hx8.trans hx9)
  clear hE7 hx8 hx9 hO8 hope hky
  dsimp only at hI4 hI5 ⊢
  go_wp2_with (first
    | (refine wpList_alloc_store (RP16) rfl rfl _ _ rfl rfl rfl rfl (by simp [Act.put]) ([.int .i64 (askH t).leap, .int .i64 (askH t).ver, .int .i64 (askH t).mode, .int .i64 (askH t).strat, .int .i64 (askH t).poll, .int .i64 (askH t).prec, .int .u32 (n32 (askH t).rd), .int .u32 (n32 (askH t).rp), .int .u32 (n32 (askH t).id), .int .u64 (n64 (askH t).ref), .int .u64 (n64 (askH t).org), .int .u64 (n64 (askH t).rcv), .int .u64 (n64 (askH t).tx), .slice a4 n4 c4, .slice a5 n5 c5, .bool true]) rfl (by simp) (rfl) ((by simp; repeat' (first | rfl | constructor))) ?_; intro x hz _)
    | fail)
  have hxx : Ext w9 (w9.ext x) := Ext.of_ext _ _
  have e4 := hI4.len
  have e5 := hI5.len
  obtain rfl : n4 = P1.length := by omega
  obtain rfl : n5 = P2.length := by omega
  (with_reducible refine (hrda _ (hX.ext hxx)).mono ?_)
  rintro e w10 ⟨a6, c6, rfl, ⟨B6, hI6⟩, hx10⟩
  have hx10' := hxx.trans hx10
  have hE10 := hE9.trans hx10'
  have hB1 := hB1.extB hx10'
  have hB2 := hz.extB hx10
  have hI1 := hI1.ext hx10'
  have hI2 := hI2.ext hx10'
  have hI4 := hI4.ext hx10'
  have hI5 := hI5.ext hx10'
  have hlt2 := hB2.lt
  clear hE9 hX hxx hx10 hx10' hz hrda
  obtain ⟨g2, hg2⟩ : ∃ g, g = w9.heap.size := ⟨_, rfl⟩
  rw [← hg2] at hB2 hlt2 ⊢
  clear hg2
  have hc6 := hI6.ib.2
  have hI6 := hI6.ib.1
  have e6 : (Q1 ++ [((1028 : Int), G)]).length = P1.length + 1 := by rw [List.length_append, mA]; rfl
  dsimp only at hI6 ⊢
  rw [e6] at hI6 hc6 ⊢
  clear e6
  go_wp2_with (first
    | ((refine wpList_alloc_store (RP16) rfl rfl _ _ rfl rfl rfl rfl (by simp [Act.put]) ([.int .i64 (askH t).leap, .int .i64 (askH t).ver, .int .i64 (askH t).mode, .int .i64 (askH t).strat, .int .i64 (askH t).poll, .int .i64 (askH t).prec, .int .u32 (n32 (askH t).rd), .int .u32 (n32 (askH t).rp), .int .u32 (n32 (askH t).id), .int .u64 (n64 (askH t).ref), .int .u64 (n64 (askH t).org), .int .u64 (n64 (askH t).rcv), .int .u64 (n64 (askH t).tx), .slice a6 (P1.length + 1) c6, .slice none 0 0, .bool false]) rfl (by simp) (rfl) ((by simp; repeat' (first | rfl | constructor))) ?_; intro x2 hz _); haveI := hz.blt; have r13 := hz.cell? 13 rfl; have hxx2 : Ext w10 (w10.ext x2) := Ext.of_ext _ _; have hB1' := hB1.extB hxx2; haveI := hB1'.blt; have k13 := hB1'.cell? 13 rfl)
    | fail)
  have hE11 := hE10.trans hxx2
  have hB2 := hB2.extB hxx2
  have hI1 := hI1.ext hxx2
  have hI2 := hI2.ext hxx2
  have hI4 := hI4.ext hxx2
  have hI5 := hI5.ext hxx2
  have hI6 := hI6.ext hxx2
  have hlt3 := hz.lt
  have hge3 : g2 < w10.heap.size := hlt2
  have hlt1 := hB1.lt
  obtain ⟨g3, hg3⟩ : ∃ g, g = w10.heap.size := ⟨_, rfl⟩
  rw [← hg3] at hz hlt3 hge3 hlt1 r13 ⊢
  clear hE10 hB1 hxx2 hg3 hlt2
  generalize w10.ext x2 = W11 at *
  have k14 := hB1'.cell? 14 rfl
  have hHd : Rd W11 (some ⟨w5.heap.size, 0, none⟩) [.int .i64 (askH t).leap, .int .i64 (askH t).ver, .int .i64 (askH t).mode, .int .i64 (askH t).strat, .int .i64 (askH t).poll, .int .i64 (askH t).prec, .int .u32 (n32 (askH t).rd), .int .u32 (n32 (askH t).rp), .int .u32 (n32 (askH t).id), .int .u64 (n64 (askH t).ref), .int .u64 (n64 (askH t).org), .int .u64 (n64 (askH t).rcv), .int .u64 (n64 (askH t).tx)] := Rd.left (vs := [.int .i64 (askH t).leap, .int .i64 (askH t).ver, .int .i64 (askH t).mode, .int .i64 (askH t).strat, .int .i64 (askH t).poll, .int .i64 (askH t).prec, .int .u32 (n32 (askH t).rd), .int .u32 (n32 (askH t).rp), .int .u32 (n32 (askH t).id), .int .u64 (n64 (askH t).ref), .int .u64 (n64 (askH t).org), .int .u64 (n64 (askH t).rcv), .int .u64 (n64 (askH t).tx)]) (us := [.slice b1 P1.length d1, .slice b2 P2.length d2, .bool false]) hB1'.rd
  refine R2.wp_region_vague 10 [[], [0], [], [2], [2, 3], [], [5], [2, 3, 4, 5, 6], [0, 1, 2, 3, 4, 5, 6, 7], [], [0, 1, 2, 3, 4, 5, 6, 7, 8, 9]] (by kernel_rfl) (by kernel_rfl) (by kernel_rfl) (by kernel_rfl) ?_; simp only [List.take_succ_cons, List.take_zero, List.drop_succ_cons, List.drop_zero, List.take_nil, List.drop_nil]
  (repeat (apply R2.VD_der; (case h => (intro us w' hx hf; obtain ⟨x, rfl⟩ := hx.out; refine ⟨rfl, ?_⟩; simp [go_sem, execOp, *]; (try simp (disch := omega) only [Go.IntWalk.i64_in, Go.IntWalk.rem_in, Go.IntWalk.wrap64_in]); rfl)); (try simp only [Act.put, List.setIfInBounds_toArray, List.set_cons_succ, List.set_cons_zero])))
  (refine R2.VD_load_arr (RH13) _ rfl (fun _ => rfl) (w5.heap.size) (0) (fun _ => by simp [go_sem]) ([.int .i64 (askH t).leap, .int .i64 (askH t).ver, .int .i64 (askH t).mode, .int .i64 (askH t).strat, .int .i64 (askH t).poll, .int .i64 (askH t).prec, .int .u32 (n32 (askH t).rd), .int .u32 (n32 (askH t).rp), .int .u32 (n32 (askH t).id), .int .u64 (n64 (askH t).ref), .int .u64 (n64 (askH t).org), .int .u64 (n64 (askH t).rcv), .int .u64 (n64 (askH t).tx)]) (hHd) (rfl) ?_)
  (repeat (apply R2.VD_der; (case h => (intro us w' hx hf; obtain ⟨x, rfl⟩ := hx.out; refine ⟨rfl, ?_⟩; simp [go_sem, execOp, *]; (try simp (disch := omega) only [Go.IntWalk.i64_in, Go.IntWalk.rem_in, Go.IntWalk.wrap64_in]); rfl)); (try simp only [Act.put, List.setIfInBounds_toArray, List.set_cons_succ, List.set_cons_zero])))
  (refine R2.VD_vag (fun p => .slice (p 0).1 P1.length (p 0).2) (fun p w'' => ∃ B, OwnI 60 w'' B (p 0).1 P1.length (p 0).2 Q1) (fun p w w' ⟨B, h⟩ hx => ⟨B, h.ext hx⟩) (fun us w' hx hf => ⟨rfl, ?_⟩) ?_; (unfold gives; simp [go_sem, execOp]; exact (hap1 _ _ _ (hI1.ext hx)).mono fun _ _ ⟨b, d, he, hO, hx'⟩ => ⟨_, he, fun _ => (b, d), rfl, hx', _, hO⟩))
  (repeat (apply R2.VD_der; (case h => (intro us w' hx hf; obtain ⟨x, rfl⟩ := hx.out; refine ⟨rfl, ?_⟩; simp [go_sem, execOp, *]; (try simp (disch := omega) only [Go.IntWalk.i64_in, Go.IntWalk.rem_in, Go.IntWalk.wrap64_in]); rfl)); (try simp only [Act.put, List.setIfInBounds_toArray, List.set_cons_succ, List.set_cons_zero])))
  (refine R2.VD_vag (fun p => .slice (p 0).1 P2.length (p 0).2) (fun p w'' => ∃ B, OwnI 60 w'' B (p 0).1 P2.length (p 0).2 Q2) (fun p w w' ⟨B, h⟩ hx => ⟨B, h.ext hx⟩) (fun us w' hx hf => ⟨rfl, ?_⟩) ?_; (unfold gives; simp [go_sem, execOp]; exact (hap2 _ _ _ (hI2.ext hx)).mono fun _ _ ⟨b, d, he, hO, hx'⟩ => ⟨_, he, fun _ => (b, d), rfl, hx', _, hO⟩))
  (repeat (apply R2.VD_der; (case h => (intro us w' hx hf; obtain ⟨x, rfl⟩ := hx.out; refine ⟨rfl, ?_⟩; simp [go_sem, execOp, *]; (try simp (disch := omega) only [Go.IntWalk.i64_in, Go.IntWalk.rem_in, Go.IntWalk.wrap64_in]); rfl)); (try simp only [Act.put, List.setIfInBounds_toArray, List.set_cons_succ, List.set_cons_zero])))
  (refine R2.VD_alloc _ ([.int .i64 0, .int .i64 0, .int .i64 0, .int .i64 0, .int .i64 0, .int .i64 0, .int .u32 0, .int .u32 0, .int .u32 0, .int .u64 0, .int .u64 0, .int .u64 0, .int .u64 0, .slice none 0 0, .slice none 0 0, .bool false]) Try.zeroValue58 rfl rfl rfl ?_)
  (refine R2.VD_nil ?_; intro us w' hx hf hd; obtain ⟨x, rfl⟩ := hx.out; (try simp only [Act.put, List.setIfInBounds_toArray, List.set_cons_succ, List.set_cons_zero, wpList_none]); (try simp only [List.mem_cons, List.not_mem_nil, or_false, forall_eq_or_imp, forall_eq, List.nil_append, List.cons_append, List.mem_append, false_or, true_and, and_true] at hf); (try simp only [Nat.reduceAdd, Nat.zero_add] at hf); (try simp only [Nat.reduceAdd, Nat.zero_add]))
  obtain ⟨⟨B4, hW4⟩, ⟨B7, hW7⟩, g, eg, hgW, hBg⟩ := hf
  obtain ⟨a7, ha7⟩ : ∃ a, (us 4 0).1 = a := ⟨_, rfl⟩
  obtain ⟨c7, hc7⟩ : ∃ a, (us 4 0).2 = a := ⟨_, rfl⟩
  obtain ⟨a8, ha8⟩ : ∃ a, (us 7 0).1 = a := ⟨_, rfl⟩
  obtain ⟨c8, hc8⟩ : ∃ a, (us 7 0).2 = a := ⟨_, rfl⟩
  rw [ha7, hc7] at hW4 ⊢
  rw [ha8, hc8] at hW7 ⊢
  rw [eg]
  clear ha7 hc7 ha8 hc8 eg hd hap1 hap2
  have hxx : Ext W11 (W11.ext x) := Ext.of_ext _ _
  have hEx := hx
  clear hxx
  obtain ⟨W12, hW12⟩ : ∃ W, W = W11.ext x := ⟨_, rfl⟩
  rw [← hW12] at hW4 hW7 hBg hEx ⊢
  clear hW12 hx
  haveI := hBg.blt
  go_wp2_with (first
    | (refine wpList_store_arr (RP16) rfl _ _ rfl (g) (0) rfl ([.int .i64 (askH t).leap, .int .i64 (askH t).ver, .int .i64 (askH t).mode, .int .i64 (askH t).strat, .int .i64 (askH t).poll, .int .i64 (askH t).prec, .int .u32 (n32 (askH t).rd), .int .u32 (n32 (askH t).rp), .int .u32 (n32 (askH t).id), .int .u64 (n64 (askH t).ref), .int .u64 (n64 (askH t).org), .int .u64 (n64 (askH t).rcv), .int .u64 (n64 (askH t).tx), .slice a7 P1.length c7, .slice a8 P2.length c8, .bool true]) rfl (58) _ (hBg) (rfl) (by simp) ((by simp; repeat' (first | rfl | constructor))) ?_; intro V hV hMV)
    | fail)
  have hB3 : Blk V g 58 [.int .i64 (askH t).leap, .int .i64 (askH t).ver, .int .i64 (askH t).mode, .int .i64 (askH t).strat, .int .i64 (askH t).poll, .int .i64 (askH t).prec, .int .u32 (n32 (askH t).rd), .int .u32 (n32 (askH t).rp), .int .u32 (n32 (askH t).id), .int .u64 (n64 (askH t).ref), .int .u64 (n64 (askH t).org), .int .u64 (n64 (askH t).rcv), .int .u64 (n64 (askH t).tx), .slice a7 P1.length c7, .slice a8 P2.length c8, .bool true] := hV
  have i7 := (hW4.mut hBg (by decide) (zeroP_no) hMV).ib.1
  have i8 := (hW7.mut hBg (by decide) (zeroP_no) hMV).ib.1
  have hEV : Ext W11 V := Below.trans hEx (hMV.below hgW hEx.size)
  have hE12 := hE11.trans hEV
  have hI4 := hI4.ext hEV
  have hI5 := hI5.ext hEV
  have hI6 := hI6.ext hEV
  have hB1 := hB1'.extB hEV
  have hB2 := hB2.extB hEV
  have hBr := hz.extB hEV
  clear hE11 hBg hMV hV hW4 hW7 hEx hEV hgW hB1' hz r13 k13 k14 hHd hI1 hI2
  obtain ⟨b0, o0, gx, cx, rfl, hb0, q0, -, -, -⟩ := hI6.at P1.length (by omega) (1028, G) (by rw [List.getElem?_append_right (by omega), mA]; simp)
  have hT6 := hI6.take P1.length (by omega)
  rw [List.take_append_of_le_length (by omega), List.take_of_length_le (by omega)] at hT6
  haveI := hb0
  haveI := hB1.blt
  haveI := hBr.blt
  haveI := hB3.blt
  have u13 := hB1.cell? 13 rfl
  have v13 := hBr.cell? 13 rfl
  have v14 := hBr.cell? 14 rfl
  have v15 := hBr.cell? 15 rfl
  have x13 := hB3.cell? 13 rfl
  have hk18 := fun W => known18_any W
  have hs18 := fun W H1 H2 H3 H4 => same18_any (askH t) a4 a5 a7 a8 P1.length c4 P2.length c5 c7 c8 Q1 Q2 true W H1 H2 H3 H4 (by omega) (by omega)
  have hsf := fun W H1 H2 => sameFields_any (some ⟨b0, o0, none⟩) a7 P1.length c6 P1.length c7 Q1 Q1 W H1 H2 (by omega)
  rw [decide_eq_true rfl] at hsf
  have j1 : P1.length < P1.length + 1 := by omega
  have j3 : (P1.length : Int) < (P1.length : Int) + 1 := by omega
  have j2 : P1.length ≤ c6 := by omega
  clear hI6 e4 e5 mA mB hc4 hc5 hXc
  simp only [Act.put]
  go_wp2_with fail
  refine wp_region_vague 40 [[], [0], [0, 1], [0, 1], [0, 1, 2, 3], [0, 1, 2, 3, 4], [0, 1, 2, 3, 4, 5], [0, 1, 2, 3, 4, 5, 6], [0, 1, 2, 3, 4, 5, 6, 7], [0, 1, 2, 3, 4, 5, 6], [0, 1, 2, 3, 4, 5, 6, 9], [0, 1, 2, 3, 4, 5, 6, 9, 10], [0, 1, 2, 3, 4, 5, 6, 7, 8, 9, 10, 11], [0, 1, 2, 3, 4, 5, 6], [0, 1, 2, 3, 4, 5, 6, 13], [0, 1, 2, 3, 4, 5, 6, 7, 8, 9, 10, 11, 12, 13, 14], [0, 1, 2, 3, 4, 5, 6, 7, 8, 9, 10, 11, 12, 13, 14, 15], [0, 1, 2, 3, 4, 5, 6, 7, 8, 9, 10, 11, 12, 13, 14, 15, 16], [0, 1, 2, 3, 4, 5, 6, 7, 8, 9, 10, 11, 12, 13, 14, 15, 16, 17], [0, 1, 2, 3, 4, 5, 6, 7, 8, 9, 10, 11, 12, 13, 14, 15, 16, 17, 18], [0, 1, 2, 3, 4, 5, 6, 7, 8, 9, 10, 11, 12, 13, 14, 15, 16, 17], [0, 1, 2, 3, 4, 5, 6, 7, 8, 9, 10, 11, 12, 13, 14, 15, 16, 17, 20], [0, 1, 2, 3, 4, 5, 6, 7, 8, 9, 10, 11, 12, 13, 14, 15, 16, 17, 20, 21], [0, 1, 2, 3, 4, 5, 6, 7, 8, 9, 10, 11, 12, 13, 14, 15, 16, 17, 18, 19, 20, 21, 22], [0, 1, 2, 3, 4, 5, 6, 7, 8, 9, 10, 11, 12, 13, 14, 15, 16, 17, 18, 19, 20, 21, 22, 23], [0, 1, 2, 3, 4, 5, 6, 7, 8, 9, 10, 11, 12, 13, 14, 15, 16, 17, 18, 19, 20, 21, 22, 23, 24], [0, 1, 2, 3, 4, 5, 6, 7, 8, 9, 10, 11, 12, 13, 14, 15, 16, 17, 18, 19, 20, 21, 22, 23, 24, 25], [0, 1, 2, 3, 4, 5, 6, 7, 8, 9, 10, 11, 12, 13, 14, 15, 16, 17, 18, 19, 20, 21, 22, 23, 24, 25, 26], [0, 1, 2, 3, 4, 5, 6, 7, 8, 9, 10, 11, 12, 13, 14, 15, 16, 17, 18, 19, 20, 21, 22, 23, 24, 25, 26, 27], [0, 1, 2, 3, 4, 5, 6, 7, 8, 9, 10, 11, 12, 13, 14, 15, 16, 17, 18, 19, 20, 21, 22, 23, 24, 25, 26, 27, 28], [0, 1, 2, 3, 4, 5, 6, 7, 8, 9, 10, 11, 12, 13, 14, 15, 16, 17, 18, 19, 20, 21, 22, 23, 24, 25, 26, 27, 28, 29], [0, 1, 2, 3, 4, 5, 6, 7, 8, 9, 10, 11, 12, 13, 14, 15, 16, 17, 18, 19, 20, 21, 22, 23, 24, 25, 26, 27, 28, 29, 30], [0, 1, 2, 3, 4, 5, 6, 7, 8, 9, 10, 11, 12, 13, 14, 15, 16, 17, 18, 19, 20, 21, 22, 23, 24, 25, 26, 27, 28, 29, 30, 31], [0, 1, 2, 3, 4, 5, 6, 7, 8, 9, 10, 11, 12, 13, 14, 15, 16, 17, 18, 19, 20, 21, 22, 23, 24, 25, 26, 27, 28, 29, 30, 31, 32], [0, 1, 2, 3, 4, 5, 6, 7, 8, 9, 10, 11, 12, 13, 14, 15, 16, 17, 18, 19, 20, 21, 22, 23, 24, 25, 26, 27, 28, 29, 30, 31, 32, 33], [0, 1, 2, 3, 4, 5, 6, 7, 8, 9, 10, 11, 12, 13, 14, 15, 16, 17, 18, 19, 20, 21, 22, 23, 24, 25, 26, 27, 28, 29, 30, 31, 32, 33, 34], [0, 1, 2, 3, 4, 5, 6, 7, 8, 9, 10, 11, 12, 13, 14, 15, 16, 17, 18, 19, 20, 21, 22, 23, 24, 25, 26, 27, 28, 29, 30, 31, 32, 33, 34, 35], [0, 1, 2, 3, 4, 5, 6, 7, 8, 9, 10, 11, 12, 13, 14, 15, 16, 17, 18, 19, 20, 21, 22, 23, 24, 25, 26, 27, 28, 29, 30, 31, 32, 33, 34, 35, 36], [0, 1, 2, 3, 4, 5, 6, 7, 8, 9, 10, 11, 12, 13, 14, 15, 16, 17, 18, 19, 20, 21, 22, 23, 24, 25, 26, 27, 28, 29, 30, 31, 32, 33, 34, 35, 36, 37], [0, 1, 2, 3, 4, 5, 6, 7, 8, 9, 10, 11, 12, 13, 14, 15, 16, 17, 18, 19, 20, 21, 22, 23, 24, 25, 26, 27, 28, 29, 30, 31, 32, 33, 34, 35, 36, 37, 38]] (by kernel_rfl) (by kernel_rfl) (by kernel_rfl) (by kernel_rfl) ?_; simp only [List.take_succ_cons, List.take_zero, List.drop_succ_cons, List.drop_zero, List.take_nil, List.drop_nil]
  (repeat (apply VD_der; (case h => (intro us w' hx hf; obtain ⟨x, rfl⟩ := hx.out; refine ⟨rfl, ?_⟩; simp [go_sem, execOp, *]; (try simp (disch := omega) only [Go.IntWalk.i64_in, Go.IntWalk.rem_in, Go.IntWalk.wrap64_in]); rfl)); (try simp only [Act.put, List.setIfInBounds_toArray, List.set_cons_succ, List.set_cons_zero])))
  (refine VD_vag (fun _ => .bool true) (fun _ _ => True) (fun _ _ _ _ _ => trivial) (fun us w' hx hf => ⟨rfl, ?_⟩) ?_; (unfold gives; simp [go_sem, execOp]; refine (hk18 _).mono ?_; rintro e w1 ⟨rfl, hx1⟩; first | exact ⟨rfl, hx1⟩ | simpa using hx1))
  (repeat (apply VD_der; (case h => (intro us w' hx hf; obtain ⟨x, rfl⟩ := hx.out; refine ⟨rfl, ?_⟩; simp [go_sem, execOp, *]; (try simp (disch := omega) only [Go.IntWalk.i64_in, Go.IntWalk.rem_in, Go.IntWalk.wrap64_in]); rfl)); (try simp only [Act.put, List.setIfInBounds_toArray, List.set_cons_succ, List.set_cons_zero])))
  (refine VD_load_arr (RP16) _ rfl (fun _ => rfl) (g2) (0) (fun _ => by simp [go_sem]) ([.int .i64 (askH t).leap, .int .i64 (askH t).ver, .int .i64 (askH t).mode, .int .i64 (askH t).strat, .int .i64 (askH t).poll, .int .i64 (askH t).prec, .int .u32 (n32 (askH t).rd), .int .u32 (n32 (askH t).rp), .int .u32 (n32 (askH t).id), .int .u64 (n64 (askH t).ref), .int .u64 (n64 (askH t).org), .int .u64 (n64 (askH t).rcv), .int .u64 (n64 (askH t).tx), .slice a4 P1.length c4, .slice a5 P2.length c5, .bool true]) (hB2.rd) (rfl) ?_)
  (refine VD_load_arr (RP16) _ rfl (fun _ => rfl) (g) (0) (fun _ => by simp [go_sem]) ([.int .i64 (askH t).leap, .int .i64 (askH t).ver, .int .i64 (askH t).mode, .int .i64 (askH t).strat, .int .i64 (askH t).poll, .int .i64 (askH t).prec, .int .u32 (n32 (askH t).rd), .int .u32 (n32 (askH t).rp), .int .u32 (n32 (askH t).id), .int .u64 (n64 (askH t).ref), .int .u64 (n64 (askH t).org), .int .u64 (n64 (askH t).rcv), .int .u64 (n64 (askH t).tx), .slice a7 P1.length c7, .slice a8 P2.length c8, .bool true]) (hB3.rd) (rfl) ?_)
  (repeat (apply VD_der; (case h => (intro us w' hx hf; obtain ⟨x, rfl⟩ := hx.out; refine ⟨rfl, ?_⟩; simp [go_sem, execOp, *]; (try simp (disch := omega) only [Go.IntWalk.i64_in, Go.IntWalk.rem_in, Go.IntWalk.wrap64_in]); rfl)); (try simp only [Act.put, List.setIfInBounds_toArray, List.set_cons_succ, List.set_cons_zero])))
  (refine VD_vag (fun _ => .bool true) (fun _ _ => True) (fun _ _ _ _ _ => trivial) (fun us w' hx hf => ⟨rfl, ?_⟩) ?_; (unfold gives; simp [go_sem, execOp]; refine (hs18 _ (hI4.ext hx) (i7.ext hx) (hI5.ext hx) (i8.ext hx)).mono ?_; rintro e w1 ⟨rfl, hx1⟩; first | exact ⟨rfl, hx1⟩ | simpa using hx1))
  (repeat (apply VD_der; (case h => (intro us w' hx hf; obtain ⟨x, rfl⟩ := hx.out; refine ⟨rfl, ?_⟩; simp [go_sem, execOp, *]; (try simp (disch := omega) only [Go.IntWalk.i64_in, Go.IntWalk.rem_in, Go.IntWalk.wrap64_in]); rfl)); (try simp only [Act.put, List.setIfInBounds_toArray, List.set_cons_succ, List.set_cons_zero])))
  (refine VD_vag (fun _ => .bool true) (fun _ _ => True) (fun _ _ _ _ _ => trivial) (fun us w' hx hf => ⟨rfl, ?_⟩) ?_; (unfold gives; simp [go_sem, execOp]; refine (hsf _ (hT6.ext hx) (i7.ext hx)).mono ?_; rintro e w1 ⟨rfl, hx1⟩; first | exact ⟨rfl, hx1⟩ | simpa using hx1))
  (repeat (apply VD_der; (case h => (intro us w' hx hf; obtain ⟨x, rfl⟩ := hx.out; refine ⟨rfl, ?_⟩; simp [go_sem, execOp, *]; (try simp (disch := omega) only [Go.IntWalk.i64_in, Go.IntWalk.rem_in, Go.IntWalk.wrap64_in]); rfl)); (try simp only [Act.put, List.setIfInBounds_toArray, List.set_cons_succ, List.set_cons_zero])))
  (refine VD_nil ?_; intro us w' hx hf; obtain ⟨x, rfl⟩ := hx.out; (try simp only [Act.put, List.setIfInBounds_toArray, List.set_cons_succ, List.set_cons_zero, wpList_none]); (try simp only [List.mem_cons, List.not_mem_nil, or_false, forall_eq_or_imp, forall_eq, List.nil_append, List.cons_append, List.mem_append, false_or, true_and, and_true] at hf); (try simp only [Nat.reduceAdd, Nat.zero_add] at hf); (try simp only [Nat.reduceAdd, Nat.zero_add]))
  go_wp2_with fail
  go_ret
  exact ⟨rfl, hE12.trans (by repeat (first | (with_reducible first | exact Ext.refl _ | assumption | apply Ext.alloc | apply Ext.ext | apply Ext.drew | refine Ext.setCell ?_ ?_ _) | (focus (simp [go_sem]; done))))⟩
end Go.Proofs.Ytmmbcgbadaojeaa
