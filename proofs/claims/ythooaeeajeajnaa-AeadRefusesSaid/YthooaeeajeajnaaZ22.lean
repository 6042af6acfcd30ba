/- Lemmas of this claim, several texts joined. -/
import Derived.Test.YthooaeeajeajnaaZ6
import Derived.Test.YthooaeeajeajnaaZ9
set_option linter.unusedVariables false
set_option linter.unusedSimpArgs false
/- The counter that follows: of the program and of the document. -/
namespace Go.Aes
/-- The counter with a carry from place k - 1 on to the left. -/
def nxtFrom (l : List UInt8) : Nat → List UInt8
  | 0 => l
  | k + 1 => if at' l k + 1 = 0 then nxtFrom (l.set k (at' l k + 1)) k else l.set k (at' l k + 1)
def nxt (l : List UInt8) : List UInt8 := nxtFrom l 16
theorem nxtFrom_length (k : Nat) : ∀ l, (nxtFrom l k).length = l.length := by
  induction k with
  | zero => intro l; rfl
  | succ k ih =>
    intro l
    unfold nxtFrom
    split
    · rw [ih]; simp
    · simp
theorem nxt_length (l : List UInt8) : (nxt l).length = l.length := nxtFrom_length _ _
end Go.Aes
namespace Go.Proofs.Ythooaeeajeajnaa
open Go.RowKit Go.Sec Go.Oct Go.Aes BigFrame

theorem wrap8_inc (x : UInt8) : IntKind.u8.wrap (n8 x + 1) = n8 (x + 1) := by
  have := wrap8_add x 1
  exact this
set_option maxRecDepth 100000 in
set_option maxHeartbeats 2000000 in
theorem next_any (a : Option Addr) (c : Nat) (l : List UInt8) (w : World) (h : Sl w a 16 l) :
    Calls Try.prog 29 #[.slice a 16 c] w (Fresh 16 (nxt l) w) := by
  have hl := h.len
  go_enter Try.func29, Try.ntmps29
  go_wp2_with fail; (with_reducible refine (clone_any _ 16 _ l _ h (by omega)).mono ?_); rintro e w1 ⟨a1, c1, rfl, hO1, hx1⟩
  go_wp2_with fail
  go_loopw [4] (fun v4 wr => ∃ (k : Nat) (cur : List UInt8), k ≤ 16 ∧ v4 = .int .i64 ((k : Int) - 1) ∧ Own wr w.heap.size a1 16 c1 cur ∧ Hid (nxtFrom cur k = nxt l) ∧ Ext w wr) (fun v4 _ => (intOf v4 + 1).toNat)
  case atStart => exact ⟨16, l, by omega, rfl, hO1, Lib.hid rfl, hx1⟩
  case round =>
    obtain ⟨k, cur, hk, rfl, hO, hn, hx⟩ := hrel
    by_cases h0 : 0 < k
    · obtain ⟨j, rfl⟩ : ∃ j, k = j + 1 := ⟨k - 1, by omega⟩
      have hj : j < 16 := by omega
      obtain ⟨g, rfl, hg, hgb, hcell, hfr, _⟩ := hO.at j hj
      have hat : cur.getD j 0 = at' cur j := rfl
      rw [hat] at hcell
      have hS := hO.put j hj (at' cur j + 1)
      have hcell2 : (wr.setCell ⟨g, j, none⟩ (.int .u8 (n8 (at' cur j + 1)))).cell? ⟨g, j, none⟩ = some (.int .u8 (n8 (at' cur j + 1))) := World.cell?_setCell_same' _ _ _ (by rw [hcell]; rfl)
      have hinc := wrap8_inc (at' cur j)
      have hinc2 : (n8 (at' cur j) + 1) % 256 = n8 (at' cur j + 1) := by rw [← hinc, IntKind.wrap_u8]
      have hxs := Ext.setCell hx (p := ⟨g, j, none⟩) hg (.int .u8 (n8 (at' cur j + 1)))
      have hU := Lib.hid (show nxtFrom cur (j + 1) = if at' cur j + 1 = 0 then nxtFrom (cur.set j (at' cur j + 1)) j else cur.set j (at' cur j + 1) from rfl)
      have j0 : (0 : Int) ≤ (j : Int) := by omega
      have j1 : (j : Int) < 16 := by omega
      generalize at' cur j + 1 = y at *
      clear hat hinc
      by_cases hz : y = 0
      · subst hz
        go_wp2
        go_roundw
        case rel => exact ⟨j, cur.set j 0, by omega, by go_num, hS, Lib.hid (by rw [← hn.out, hU.out, if_pos rfl]), hxs⟩
        case measure => simp [intOf] <;> omega
      · have hz2 : (y != 0) = true := by simpa using hz
        go_wp2
        go_ret
        refine ⟨_, _, rfl, ?_, hxs⟩
        rw [← hn.out, hU.out, if_neg hz]
        exact hS
    · obtain rfl : k = 0 := by omega
      go_wp2
      go_ret
      refine ⟨_, _, rfl, ?_, hx⟩
      rw [← hn.out]
      exact hO
set_option maxRecDepth 100000 in
set_option maxHeartbeats 2000000 in
theorem rnext_any (a : Option Addr) (c : Nat) (l : List UInt8) (w : World) (h : Sl w a 16 l) :
    Calls Try.prog 35 #[.slice a 16 c] w (Fresh 16 (nxt l) w) := by
  have hl := h.len
  go_enter Try.func35, Try.ntmps35
  go_wp2_with fail; (with_reducible refine (join_any _ _ _ _ _ (bss1 h _) (by omega) 16 (by simp [joinL1, hl]) (by omega)).mono ?_); rintro e w1 ⟨a1, c1, rfl, hO1, hx1⟩
  rw [joinL1] at hO1
  have hO1 := hO1.mono (base' := w.heap.size) (by simp)
  have hx1 : Ext w w1 := Ext.trans (Ext.of_alloc _ _) hx1
  go_wp2_with fail
  go_loopw [4] (fun v4 wr => ∃ (k : Nat) (cur : List UInt8), k ≤ 16 ∧ v4 = .int .i64 ((k : Int) - 1) ∧ Own wr w.heap.size a1 16 c1 cur ∧ Hid (nxtFrom cur k = nxt l) ∧ Ext w wr) (fun v4 _ => (intOf v4 + 1).toNat)
  case atStart => exact ⟨16, l, by omega, rfl, hO1, Lib.hid rfl, hx1⟩
  case round =>
    obtain ⟨k, cur, hk, rfl, hO, hn, hx⟩ := hrel
    by_cases h0 : 0 < k
    · obtain ⟨j, rfl⟩ : ∃ j, k = j + 1 := ⟨k - 1, by omega⟩
      have hj : j < 16 := by omega
      obtain ⟨g, rfl, hg, hgb, hcell, hfr, _⟩ := hO.at j hj
      have hat : cur.getD j 0 = at' cur j := rfl
      rw [hat] at hcell
      have hS := hO.put j hj (at' cur j + 1)
      have hcell2 : (wr.setCell ⟨g, j, none⟩ (.int .u8 (n8 (at' cur j + 1)))).cell? ⟨g, j, none⟩ = some (.int .u8 (n8 (at' cur j + 1))) := World.cell?_setCell_same' _ _ _ (by rw [hcell]; rfl)
      have hinc := wrap8_inc (at' cur j)
      have hinc2 : (n8 (at' cur j) + 1) % 256 = n8 (at' cur j + 1) := by rw [← hinc, IntKind.wrap_u8]
      have hxs := Ext.setCell hx (p := ⟨g, j, none⟩) hg (.int .u8 (n8 (at' cur j + 1)))
      have hU := Lib.hid (show nxtFrom cur (j + 1) = if at' cur j + 1 = 0 then nxtFrom (cur.set j (at' cur j + 1)) j else cur.set j (at' cur j + 1) from rfl)
      have j0 : (0 : Int) ≤ (j : Int) := by omega
      have j1 : (j : Int) < 16 := by omega
      generalize at' cur j + 1 = y at *
      clear hat hinc
      by_cases hz : y = 0
      · subst hz
        go_wp2
        go_roundw
        case rel => exact ⟨j, cur.set j 0, by omega, by go_num, hS, Lib.hid (by rw [← hn.out, hU.out, if_pos rfl]), hxs⟩
        case measure => simp [intOf] <;> omega
      · have hz2 : (y != 0) = true := by simpa using hz
        go_wp2
        go_ret
        refine ⟨_, _, rfl, ?_, hxs⟩
        rw [← hn.out, hU.out, if_neg hz]
        exact hS
    · obtain rfl : k = 0 := by omega
      go_wp2
      go_ret
      refine ⟨_, _, rfl, ?_, hx⟩
      rw [← hn.out]
      exact hO
end Go.Proofs.Ythooaeeajeajnaa
