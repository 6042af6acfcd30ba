/- Lemmas of this claim, several texts joined. -/
import Derived.Shelf.Strings.Builder1
import Derived.Shelf.Small.Strs
import Derived.Shelf.Strings.Search1
import Derived.Test.YtmmbcgbadaojeaaRows
import Derived.Test.YtmmbcgbadaojeaaZ4
import Derived.Test.YtmmbcgbadaojeaaZ5
set_option linter.unusedVariables false
set_option linter.unusedSimpArgs false
/- The contracts of the library's functions that octets call, at this program's numbers. -/
namespace Go.Proofs.Ytmmbcgbadaojeaa
open Go.Shelf Go.RowKit Go.Sec
end Go.Proofs.Ytmmbcgbadaojeaa

/- The walks of the functions on octets, part two. -/
namespace Go.Proofs.Ytmmbcgbadaojeaa
open Go.RowKit Go.Sec Go.Oct BigFrame

set_option maxRecDepth 100000 in
set_option maxHeartbeats 1000000 in
theorem same_any (a b : Option Addr) (n c m d : Nat) (l k : List UInt8) (w : World) (h1 : Sl w a n l) (h2 : Sl w b m k) :
    Calls Try.prog 16 #[.slice a n c, .slice b m d] w fun e w' => e = .returned (.bool (l == k)) ∧ Ext w w' := by
  have e1 := run_str_by U hu8 hst w a n c l h1
  have e2 := run_str_by U hu8 hst w b m d k h2
  go_enter Try.func16, Try.ntmps16
  go_wp2
  go_ret
  exact ⟨rfl, Ext.refl _⟩
set_option maxRecDepth 100000 in
set_option maxHeartbeats 1000000 in
theorem bequal_any (a b : Option Addr) (n c m d : Nat) (l k : List UInt8) (w : World) (h1 : Sl w a n l) (h2 : Sl w b m k) :
    Calls Try.prog 100 #[.slice a n c, .slice b m d] w fun e w' => e = .returned (.bool (l == k)) ∧ Ext w w' := by
  have e1 := run_str_by U hu8 hst w a n c l h1
  have e2 := run_str_by U hu8 hst w b m d k h2
  go_enter Try.func100, Try.ntmps100
  go_wp2
  go_ret
  exact ⟨rfl, Ext.refl _⟩
set_option maxRecDepth 100000 in
set_option maxHeartbeats 1000000 in
theorem osame_any (a b : Option Addr) (n c m d : Nat) (l k : List UInt8) (w : World) (h1 : Sl w a n l) (h2 : Sl w b m k) :
    Calls Try.prog 82 #[.slice a n c, .slice b m d] w fun e w' => e = .returned (.bool (l == k)) ∧ Ext w w' := by
  go_enter Try.func82, Try.ntmps82
  go_wp2_with ((go_at_call 100; refine (bequal_any _ _ _ _ _ _ _ _ _ (h1.ext (by repeat (first | (with_reducible first | exact Ext.refl _ | assumption | apply Ext.alloc | apply Ext.ext | apply Ext.drew | refine Ext.setCell ?_ ?_ _) | (focus (simp [go_sem]; done))))) (h2.ext (by repeat (first | (with_reducible first | exact Ext.refl _ | assumption | apply Ext.alloc | apply Ext.ext | apply Ext.drew | refine Ext.setCell ?_ ?_ _) | (focus (simp [go_sem]; done)))))).mono ?_; rintro e w1 ⟨rfl, hxq⟩; obtain ⟨xq, rfl⟩ := hxq.out; clear hxq))
  go_ret
  exact ⟨rfl, (by repeat (first | (with_reducible first | exact Ext.refl _ | assumption | apply Ext.alloc | apply Ext.ext | apply Ext.drew | refine Ext.setCell ?_ ?_ _) | (focus (simp [go_sem]; done))))⟩

theorem dig_any (x : UInt8) (hx : x.toNat < 16) (W : World) : (Instr.index 9 (.string { data := #[48, 49, 50, 51, 52, 53, 54, 55, 56, 57, 97, 98, 99, 100, 101, 102] }) (.int .u8 (n8 x))).run Try.prog W = .ok (.int .u8 (n8 (dig x))) W :=
  run_index_str8 9 digits x hst hx W

theorem shr4_lt (x : UInt8) : (x >>> 4).toNat < 16 := by
  have := n8_lt x
  have h := shr8 x 4 (by decide)
  have h2 : n8 (x >>> 4) = n8 x / 16 := h.symm
  have h3 : n8 (x >>> 4) = ((x >>> 4).toNat : Int) := rfl
  omega
theorem and15_lt (x : UInt8) : (x &&& 15).toNat < 16 := by
  rw [UInt8.toNat_and]
  exact Nat.lt_succ_of_le Nat.and_le_right

end Go.Proofs.Ytmmbcgbadaojeaa

/- The walks of the functions on octets, part three. -/
namespace Go.Proofs.Ytmmbcgbadaojeaa
open Go.RowKit Go.Sec Go.Oct BigFrame

def CutPost (w : World) (n m : Nat) (l k : List UInt8) (e : Ending) (w' : World) : Prop :=
  ∃ a c b d, e = .returned (.tuple #[.slice a n c, .slice b m d, .bool true]) ∧ Own w' w.heap.size a n c l ∧ Own w' w.heap.size b m d k ∧ Ext w w'
set_option maxRecDepth 100000 in
set_option maxHeartbeats 2000000 in
theorem cut_ok (a : Option Addr) (n c : Nat) (l : List UInt8) (k : Nat) (w : World) (h : Sl w a n l) (hn : n ≤ 1000000) (hk : k ≤ n) (hc : n ≤ c) :
    Calls Try.prog 89 #[.slice a n c, .int .i64 k] w (CutPost w k (n - k) (l.take k) (l.drop k)) := by
  have h1 := h.take k hk
  have h2 := h.drop c k hc
  have k0 : (0 : Int) ≤ (k : Int) := by omega
  have k1 : (k : Int) ≤ (c : Int) := by omega
  have k2 : (k : Int) ≤ (n : Int) := by omega
  go_enter Try.func89, Try.ntmps89
  go_wp2
  refine wp_region_vague 11 [[], [], [0, 1], [0, 1, 2], [], [], [4, 5], [0, 1, 2, 3, 4, 5, 6], [0, 1, 2, 3, 4, 5, 6, 7], [0, 1, 2, 3, 4, 5, 6, 7, 8], [0, 1, 2, 3, 4, 5, 6, 7, 8, 9]] (by kernel_rfl) (by kernel_rfl) (by kernel_rfl) (by kernel_rfl) ?_; simp only [List.take_succ_cons, List.take_zero, List.drop_succ_cons, List.drop_zero, List.take_nil, List.drop_nil]
  (repeat (apply VD_der; (case h => (intro us w' hx hf; obtain ⟨x, rfl⟩ := hx.out; refine ⟨rfl, ?_⟩; simp [go_sem, execOp, *]; (try simp (disch := omega) only [Go.IntWalk.i64_in, Go.IntWalk.rem_in, Go.IntWalk.wrap64_in]); rfl)); (try simp only [Act.put, List.setIfInBounds_toArray, List.set_cons_succ, List.set_cons_zero])))
  (refine VD_vag (fun p => .slice (p 0).1 (k) (p 0).2) (fun p w'' => Own w'' w.heap.size (p 0).1 (k) (p 0).2 (l.take k)) (fun p w w' h hx => h.ext hx) (fun us w' hx hf => ⟨rfl, ?_⟩) ?_; (unfold gives; simp [go_sem, execOp]; exact vag_fresh hx.size (clone_any _ _ _ _ _ (h1.ext hx) (by omega))))
  (repeat (apply VD_der; (case h => (intro us w' hx hf; obtain ⟨x, rfl⟩ := hx.out; refine ⟨rfl, ?_⟩; simp [go_sem, execOp, *]; (try simp (disch := omega) only [Go.IntWalk.i64_in, Go.IntWalk.rem_in, Go.IntWalk.wrap64_in]); rfl)); (try simp only [Act.put, List.setIfInBounds_toArray, List.set_cons_succ, List.set_cons_zero])))
  (refine VD_vag (fun p => .slice (p 0).1 (n - k) (p 0).2) (fun p w'' => Own w'' w.heap.size (p 0).1 (n - k) (p 0).2 (l.drop k)) (fun p w w' h hx => h.ext hx) (fun us w' hx hf => ⟨rfl, ?_⟩) ?_; (unfold gives; simp [go_sem, execOp]; exact vag_fresh hx.size (clone_any _ _ _ _ _ (h2.ext hx) (by omega))))
  (repeat (apply VD_der; (case h => (intro us w' hx hf; obtain ⟨x, rfl⟩ := hx.out; refine ⟨rfl, ?_⟩; simp [go_sem, execOp, *]; (try simp (disch := omega) only [Go.IntWalk.i64_in, Go.IntWalk.rem_in, Go.IntWalk.wrap64_in]); rfl)); (try simp only [Act.put, List.setIfInBounds_toArray, List.set_cons_succ, List.set_cons_zero])))
  (refine VD_nil ?_; intro us w' hx hf; obtain ⟨x, rfl⟩ := hx.out; (try simp only [Act.put, List.setIfInBounds_toArray, List.set_cons_succ, List.set_cons_zero, wpList_none]); (try simp only [List.mem_cons, List.not_mem_nil, or_false, forall_eq_or_imp, forall_eq, List.nil_append, List.cons_append, List.mem_append, false_or, true_and, and_true] at hf); (try simp only [Nat.reduceAdd, Nat.zero_add] at hf); (try simp only [Nat.reduceAdd, Nat.zero_add]))
  go_wp2
  go_ret3
  exact ⟨_, _, _, _, rfl, hf.1, hf.2, hx⟩

set_option maxRecDepth 100000 in
set_option maxHeartbeats 1000000 in
theorem cut_no (a : Option Addr) (n c : Nat) (k : Int) (w : World) (hk : k < 0 ∨ (n : Int) < k) :
    Calls Try.prog 89 #[.slice a n c, .int .i64 k] w fun e w' => e = .returned (.tuple #[.slice none 0 0, .slice none 0 0, .bool false]) ∧ Ext w w' := by
  by_cases h0 : k < 0
  · go_enter Try.func89, Try.ntmps89
    go_wp2
    go_ret3
    exact ⟨rfl, Ext.refl _⟩
  · have h1 : (n : Int) < k := by omega
    go_enter Try.func89, Try.ntmps89
    go_wp2
    go_ret3
    exact ⟨rfl, Ext.refl _⟩

set_option maxRecDepth 100000 in
set_option maxHeartbeats 2000000 in
theorem sameLists_any (a b : Option Addr) (n c m d : Nat) (L K : List (List UInt8)) (w : World) (h1 : Bss w a n L) (h2 : Bss w b m K) (hn : n ≤ 1000000) :
    Calls Try.prog 21 #[.slice a n c, .slice b m d] w fun e w' => e = .returned (.bool (L == K)) ∧ Ext w w' := by
  by_cases hnm : n = m
  · subst hnm
    go_enter Try.func21, Try.ntmps21
    go_wp2
    go_loopw [5] (fun v5 wr => ∃ k : Nat, k ≤ n ∧ v5 = .int .i64 k ∧ Hid (L.take k = K.take k) ∧ Ext w wr) (fun v5 _ => n - (intOf v5).toNat)
    case atStart => exact ⟨0, Nat.zero_le _, rfl, Lib.hid rfl, (by repeat (first | (with_reducible first | exact Ext.refl _ | assumption | apply Ext.alloc | apply Ext.ext | apply Ext.drew | refine Ext.setCell ?_ ?_ _) | (focus (simp [go_sem]; done))))⟩
    case round =>
      obtain ⟨k, hk, rfl, hE, hx⟩ := hrel
      by_cases hlt : k < n
      · obtain ⟨b1, off1, a1, n1, c1, rfl, hb1, hc1, hs1⟩ := (h1.ext hx).at k hlt
        obtain ⟨b2, off2, a2, n2, c2, rfl, hb2, hc2, hs2⟩ := (h2.ext hx).at k hlt
        have hkL : k < L.length := by rw [h1.len]; exact hlt
        have hkK : k < K.length := by rw [h2.len]; exact hlt
        have hk0 : (0 : Int) ≤ (k : Int) := by omega
        have hk1 : (k : Int) < (n : Int) := by omega
        go_wp2
        refine wp_region_vague 10 [[], [], [0, 1], [0, 1, 2], [], [], [4, 5], [4, 5, 6], [0, 1, 2, 3, 4, 5, 6, 7], [0, 1, 2, 3, 4, 5, 6, 7, 8]] (by kernel_rfl) (by kernel_rfl) (by kernel_rfl) (by kernel_rfl) ?_; simp only [List.take_succ_cons, List.take_zero, List.drop_succ_cons, List.drop_zero, List.take_nil, List.drop_nil]
        (repeat (apply VD_der; (case h => (intro us w' hx hf; obtain ⟨x, rfl⟩ := hx.out; refine ⟨rfl, ?_⟩; simp [go_sem, execOp, *]; (try simp (disch := omega) only [Go.IntWalk.i64_in, Go.IntWalk.rem_in, Go.IntWalk.wrap64_in]); rfl)); (try simp only [Act.put, List.setIfInBounds_toArray, List.set_cons_succ, List.set_cons_zero])))
        (refine VD_vag (fun _ => .bool (L[k] == K[k])) (fun _ _ => True) (fun _ _ _ _ _ => trivial) (fun us w' hx hf => ⟨rfl, ?_⟩) ?_; (unfold gives; simp [go_sem, execOp]; refine (same_any _ _ _ _ _ _ _ _ _ (hs1.ext hx) (hs2.ext hx)).mono ?_; rintro e w1 ⟨rfl, hx1⟩; first | exact ⟨rfl, hx1⟩ | simpa using hx1))
        (repeat (apply VD_der; (case h => (intro us w' hx hf; obtain ⟨x, rfl⟩ := hx.out; refine ⟨rfl, ?_⟩; simp [go_sem, execOp, *]; (try simp (disch := omega) only [Go.IntWalk.i64_in, Go.IntWalk.rem_in, Go.IntWalk.wrap64_in]); rfl)); (try simp only [Act.put, List.setIfInBounds_toArray, List.set_cons_succ, List.set_cons_zero])))
        (refine VD_nil ?_; intro us w' hx hf; obtain ⟨x, rfl⟩ := hx.out; (try simp only [Act.put, List.setIfInBounds_toArray, List.set_cons_succ, List.set_cons_zero, wpList_none]); (try simp only [List.mem_cons, List.not_mem_nil, or_false, forall_eq_or_imp, forall_eq, List.nil_append, List.cons_append, List.mem_append, false_or, true_and, and_true] at hf); (try simp only [Nat.reduceAdd, Nat.zero_add] at hf); (try simp only [Nat.reduceAdd, Nat.zero_add]))
        cases hb : (L[k] == K[k])
        · have hne : (L == K) = false := by
            rw [beq_eq_false_iff_ne] at hb ⊢
            intro e; subst e; exact hb rfl
          have HN := Lib.hid hne
          clear hne
          go_wp2
          go_ret
          exact ⟨by rw [HN.out]; rfl, (by repeat (first | (with_reducible first | exact Ext.refl _ | assumption | apply Ext.alloc | apply Ext.ext | apply Ext.drew | refine Ext.setCell ?_ ?_ _) | (focus (simp [go_sem]; done))))⟩
        · have HE := Lib.hid (show L.take (k + 1) = K.take (k + 1) by
            rw [List.take_succ_eq_append_getElem hkL, List.take_succ_eq_append_getElem hkK, hE.out, beq_iff_eq.1 hb])
          go_wp2
          go_roundw
          case rel => exact ⟨k + 1, by omega, by go_num, HE, (by repeat (first | (with_reducible first | exact Ext.refl _ | assumption | apply Ext.alloc | apply Ext.ext | apply Ext.drew | refine Ext.setCell ?_ ?_ _) | (focus (simp [go_sem]; done))))⟩
          case measure => simp [intOf]; omega
      · obtain rfl : k = n := by omega
        have HE := Lib.hid (show (L == K) = true by
          have := hE.out
          rw [List.take_of_length_le (by rw [h1.len]; exact Nat.le_refl _), List.take_of_length_le (by rw [h2.len]; exact Nat.le_refl _)] at this
          rw [this]; simp)
        clear hE
        go_wp2
        go_ret
        exact ⟨by rw [HE.out]; rfl, hx⟩
  · have hne : (L == K) = false := by
      rw [beq_eq_false_iff_ne]
      intro e; subst e; exact hnm (h1.len.symm.trans h2.len)
    have HN := Lib.hid hne
    clear hne
    go_enter Try.func21, Try.ntmps21
    go_wp2
    go_ret
    exact ⟨by rw [HN.out]; rfl, Ext.refl _⟩
end Go.Proofs.Ytmmbcgbadaojeaa
