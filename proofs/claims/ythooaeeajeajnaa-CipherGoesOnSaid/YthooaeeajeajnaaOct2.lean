/- The walks of the functions on octets, part two. -/
import Derived.Test.YthooaeeajeajnaaOct
import Derived.Test.YthooaeeajeajnaaShelf
namespace Go.Proofs.Ythooaeeajeajnaa
open Go.RowKit Go.Sec Go.Oct BigFrame

set_option maxRecDepth 100000 in
set_option maxHeartbeats 1000000 in
theorem same_any (a b : Option Addr) (n c m d : Nat) (l k : List UInt8) (w : World) (h1 : Sl w a n l) (h2 : Sl w b m k) :
    Calls Try.prog 21 #[.slice a n c, .slice b m d] w fun e w' => e = .returned (.bool (l == k)) ∧ Ext w w' := by
  have e1 := run_str_by U hu8 hst w a n c l h1
  have e2 := run_str_by U hu8 hst w b m d k h2
  go_enter Try.func21, Try.ntmps21
  go_wp2
  go_ret
  exact ⟨rfl, Ext.refl _⟩
set_option maxRecDepth 100000 in
set_option maxHeartbeats 1000000 in
theorem bequal_any (a b : Option Addr) (n c m d : Nat) (l k : List UInt8) (w : World) (h1 : Sl w a n l) (h2 : Sl w b m k) :
    Calls Try.prog 98 #[.slice a n c, .slice b m d] w fun e w' => e = .returned (.bool (l == k)) ∧ Ext w w' := by
  have e1 := run_str_by U hu8 hst w a n c l h1
  have e2 := run_str_by U hu8 hst w b m d k h2
  go_enter Try.func98, Try.ntmps98
  go_wp2
  go_ret
  exact ⟨rfl, Ext.refl _⟩
set_option maxRecDepth 100000 in
set_option maxHeartbeats 1000000 in
theorem osame_any (a b : Option Addr) (n c m d : Nat) (l k : List UInt8) (w : World) (h1 : Sl w a n l) (h2 : Sl w b m k) :
    Calls Try.prog 80 #[.slice a n c, .slice b m d] w fun e w' => e = .returned (.bool (l == k)) ∧ Ext w w' := by
  go_enter Try.func80, Try.ntmps80
  go_wp2_with ((go_at_call 98; refine (bequal_any _ _ _ _ _ _ _ _ _ (h1.ext (by repeat (first | (with_reducible first | exact Ext.refl _ | assumption | apply Ext.alloc | apply Ext.ext | apply Ext.drew | refine Ext.setCell ?_ ?_ _) | (focus (simp [go_sem]; done))))) (h2.ext (by repeat (first | (with_reducible first | exact Ext.refl _ | assumption | apply Ext.alloc | apply Ext.ext | apply Ext.drew | refine Ext.setCell ?_ ?_ _) | (focus (simp [go_sem]; done)))))).mono ?_; rintro e w1 ⟨rfl, hxq⟩; obtain ⟨xq, rfl⟩ := hxq.out; clear hxq))
  go_ret
  exact ⟨rfl, (by repeat (first | (with_reducible first | exact Ext.refl _ | assumption | apply Ext.alloc | apply Ext.ext | apply Ext.drew | refine Ext.setCell ?_ ?_ _) | (focus (simp [go_sem]; done))))⟩

theorem dig_any (x : UInt8) (hx : x.toNat < 16) (W : World) : (Instr.index 9 (.string { data := #[48, 49, 50, 51, 52, 53, 54, 55, 56, 57, 97, 98, 99, 100, 101, 102] }) (.int .u8 (n8 x))).run Try.prog W = .ok (.int .u8 (n8 (dig x))) W :=
  run_index_str8 9 digits x hst hx W

theorem shr4_lt (x : UInt8) : (x >>> 4).toNat < 16 := by
  have := n8_lt x
  have h := shr8 x 4 (by decide)
  have h2 : n8 (x >>> 4) = n8 x / 16 := h.symm
  have h3 : n8 (x >>> 4) = ((x >>> 4).toNat : Int) := rfl
  omega
theorem and15_lt (x : UInt8) : (x &&& 15).toNat < 16 := by
  rw [UInt8.toNat_and]
  exact Nat.lt_succ_of_le Nat.and_le_right

set_option maxRecDepth 100000 in
set_option maxHeartbeats 1000000 in
theorem hex_any (a : Option Addr) (n c : Nat) (l : List UInt8) (w : World) (h : Sl w a n l) (hn : n ≤ 1000000) :
    Calls Try.prog 59 #[.slice a n c] w fun e w' => e = .returned (.string ⟨(hexL l).toArray⟩) ∧ Ext w w' := by
  have hd1 := fun (x : UInt8) (W : World) => dig_any (x >>> 4) (shr4_lt x) W
  have hd2 := fun (x : UInt8) (W : World) => dig_any (x &&& 15) (and15_lt x) W
  go_enter Try.func59, Try.ntmps59
  go_wp2
  go_loopw [8] (fun v8 wr => ∃ k : Nat, k ≤ n ∧ v8 = .int .i64 k ∧ Lib.IsBuilder 103 5 w.heap.size w.heap.size ((hexL (l.take k)).map u8v) wr ∧ Ext w wr) (fun v8 _ => n - (intOf v8).toNat)
  case atStart =>
    refine ⟨0, Nat.zero_le _, rfl, .inl ⟨Nat.le_refl _, .slice none 0 0, heap_alloc_new w _, World.ownsRow_nil _ _ _ _, by simp [Value.ownBlock]⟩, (by repeat (first | (with_reducible first | exact Ext.refl _ | assumption | apply Ext.alloc | apply Ext.ext | apply Ext.drew | refine Ext.setCell ?_ ?_ _) | (focus (simp [go_sem]; done))))⟩
  case round =>
    obtain ⟨k, hk, rfl, hB, hx⟩ := hrel
    by_cases hlt : k < n
    · obtain ⟨b, off, rfl, hb, hc⟩ := (h.ext hx).at k hlt
      have hkl : k < l.length := by rw [h.len]; exact hlt
      have HT := Lib.hid (show hexL (l.take (k + 1)) = hexL (l.take k) ++ [dig (l[k] >>> 4)] ++ [dig (l[k] &&& 15)] by rw [List.take_succ_eq_append_getElem hkl, hexL_snoc])
      have hlen : (hexL (l.take k)).length ≤ 2 * n := by rw [hexL_length, List.length_take]; omega
      generalize hl : hexL (l.take k) = out at *
      clear hl
      go_wp2_with fail
      refine (writeByte_any _ _ out _ _ hB (by omega) hx.size).mono ?_
      rintro e w1 ⟨rfl, hB1, hx1⟩
      go_wp2_with fail
      refine (writeByte_any _ _ (out ++ [_]) _ _ hB1 (by simp; omega) (Nat.le_trans hx.size hx1.size)).mono ?_
      rintro e w2 ⟨rfl, hB2, hx2⟩
      go_wp2_with fail
      go_roundw
      case rel => exact ⟨k + 1, by omega, by go_num, by rw [HT.out]; exact hB2, Below.trans hx (Below.trans hx1 hx2)⟩
      case measure => simp [intOf]; omega
    · obtain rfl : k = n := by omega
      rw [List.take_of_length_le (by rw [h.len]; exact Nat.le_refl _)] at hB
      go_wp2_with (go_at_call 91; refine (string_any _ _ _ _ hB hx.size).mono ?_; rintro e w1 ⟨rfl, hx1⟩)
      go_ret
      exact ⟨rfl, Below.trans hx hx1⟩
end Go.Proofs.Ythooaeeajeajnaa
