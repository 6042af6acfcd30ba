/- The document's layer 5: Xor; Subkeys of the program. -/
import Derived.Test.YthooaeeajeajnaaCmacL
namespace Go.Proofs.Ythooaeeajeajnaa
open Go.RowKit Go.Sec Go.Oct Go.Aes Go.Sha BigFrame

def xorL (a b : List UInt8) : List UInt8 := (List.range a.length).map (xorF a b)
theorem xorL_length (a b : List UInt8) : (xorL a b).length = a.length := by simp [xorL]
theorem xorL16 (a b : List UInt8) (h : a.length = 16) : xorL a b = xor16 a b := by unfold xorL xor16; rw [h]
theorem upTo_end (a b : List UInt8) (k : Nat) (hk : k ≤ a.length) (hb : k = a.length ∨ b.length ≤ k) : upTo (xorF a b) a k = xorL a b := by
  apply List.ext_getElem
  · rw [upTo_length _ _ _ hk, xorL_length]
  · intro i h1 h2
    rw [xorL_length] at h2
    have e : (xorL a b)[i]? = some (xorF a b i) := by simp [xorL, h2]
    have e2 : (upTo (xorF a b) a k)[i]? = some (xorF a b i) := by
      by_cases hik : i < k
      · unfold upTo
        rw [List.getElem?_append_left (by simpa using hik)]
        simp [hik]
      · rw [upTo_get _ _ _ _ (by omega) h2]
        have : at' b i = 0 := by
          have : b.length ≤ i := by omega
          simp [at', this]
        unfold xorF
        rw [this, at_get _ _ h2]
        simp
    rw [List.getElem?_eq_getElem h1] at e2
    rw [List.getElem?_eq_getElem (by rw [xorL_length]; exact h2)] at e
    injection e with e
    injection e2 with e2
    rw [e, e2]

set_option maxRecDepth 100000 in
set_option maxHeartbeats 4000000 in
theorem rxor_any (a b : Option Addr) (n ca m cb : Nat) (l k : List UInt8) (w : World) (hl : Sl w a n l) (hk : Sl w b m k) (hn : n ≤ 1000000) (hm : m ≤ 1000000) :
    Calls Try.prog 38 #[.slice a n ca, .slice b m cb] w (Fresh n (xorL l k) w) := by
  have hll := hl.len
  have hkl := hk.len
  go_enter Try.func38, Try.ntmps38
  go_wp2_with fail; (with_reducible refine (join_any _ _ _ _ _ (bss1 hl _) (by omega) n (by simp [joinL1, hll]) (by omega)).mono ?_); rintro e w1 ⟨a1, c1, rfl, hO1, hx1⟩
  rw [joinL1] at hO1
  have hx1' : Ext w w1 := Ext.trans (Ext.of_alloc _ _) hx1
  have hO1 := hO1.mono (base' := w.heap.size) (by simp)
  go_wp2
  go_loopw [6] (fun v6 wr => ∃ i : Nat, i ≤ n ∧ i ≤ m ∧ v6 = .int .i64 i ∧ Own wr w.heap.size a1 n c1 (upTo (xorF l k) l i) ∧ Ext w wr) (fun v6 _ => n - (intOf v6).toNat)
  case atStart => exact ⟨0, by omega, by omega, rfl, by rw [upTo_zero]; exact hO1, hx1'⟩
  case round =>
    obtain ⟨i, hin, him, rfl, hO, hx⟩ := hrel
    by_cases hc : i < n ∧ i < m
    · obtain ⟨h1, h2⟩ := hc
      obtain ⟨g, rfl, hg, hgb, hcell, hfr, hset⟩ := hO.at i h1
      obtain ⟨b0, o0, rfl, hb0, hcb⟩ := (hk.ext hx).at i h2
      have hv : (upTo (xorF l k) l i).getD i 0 = at' l i := by
        have := upTo_get (xorF l k) l i i (Nat.le_refl _) (by omega)
        simp [List.getD, this, at_get l i (by omega)]
      rw [hv] at hcell
      have hvb : k[i]'(by omega) = at' k i := by rw [at_get k i (by omega)]
      rw [hvb] at hcb
      have hU := upTo_set (xorF l k) l i (by omega)
      have hxf : xorF l k i = at' l i ^^^ at' k i := rfl
      rw [hxf] at hU
      have HU := Lib.hid hU
      have hxw := hx
      clear hv hvb hset hU hxf
      have i0 : (0 : Int) ≤ (i : Int) := by omega
      have i1 : (i : Int) < (n : Int) := by omega
      have i2 : (i : Int) < (m : Int) := by omega
      go_wp2
      refine wp_region_vague 12 [[], [], [], [], [2, 3], [2, 3, 4], [], [], [6, 7], [6, 7, 8], [2, 3, 4, 5, 6, 7, 8, 9], [0, 1, 2, 3, 4, 5, 6, 7, 8, 9, 10], [0, 1, 2, 3, 4, 5, 6, 7, 8, 9, 10, 11]] (by kernel_rfl) (by kernel_rfl) (by kernel_rfl) (by kernel_rfl) ?_; simp only [List.take_succ_cons, List.take_zero, List.drop_succ_cons, List.drop_zero, List.take_nil, List.drop_nil]
      (repeat (apply VD_der; (case h => (intro us w' hx hf; obtain ⟨x, rfl⟩ := hx.out; refine ⟨rfl, ?_⟩; simp [go_sem, execOp, *]; (try simp (disch := omega) only [Go.IntWalk.i64_in, Go.IntWalk.rem_in, Go.IntWalk.wrap64_in]); rfl)); (try simp only [Act.put, List.setIfInBounds_toArray, List.set_cons_succ, List.set_cons_zero])))
      (refine VD_nil ?_; intro us w' hx hf; obtain ⟨x, rfl⟩ := hx.out; (try simp only [Act.put, List.setIfInBounds_toArray, List.set_cons_succ, List.set_cons_zero, wpList_none]); (try simp only [List.mem_cons, List.not_mem_nil, or_false, forall_eq_or_imp, forall_eq, List.nil_append, List.cons_append, List.mem_append, false_or, true_and, and_true] at hf); (try simp only [Nat.reduceAdd, Nat.zero_add] at hf); (try simp only [Nat.reduceAdd, Nat.zero_add]))
      go_wp2
      go_roundw
      case rel =>
        refine ⟨i + 1, by omega, by omega, by go_num, ?_, Ext.setCell (hxw.ext _) hg _⟩
        rw [← HU.out]
        exact (hO.ext (Ext.of_ext _ _)).put i h1 _
      case measure => simp [intOf]; omega
    · have hend := Lib.hid (upTo_end l k i (by omega) (by omega))
      have hc2 : ¬ ((i : Int) < (n : Int) ∧ (i : Int) < (m : Int)) := by omega
      by_cases h1 : i < n
      case' pos => have h2 : ¬ (i : Int) < (m : Int) := by omega
      all_goals
        go_wp2
        go_ret
        rw [hend.out] at hO
        exact ⟨_, _, rfl, hO, hx⟩
end Go.Proofs.Ythooaeeajeajnaa
