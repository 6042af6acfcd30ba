/- The walk of octets.Unhex. -/
import Derived.Test.YthooaeeajeajnaaOct2
import Derived.Test.YthooaeeajeajnaaArr
namespace Go.Proofs.Ythooaeeajeajnaa
open Go.RowKit Go.Sec Go.Oct BigFrame

def hexV (c : UInt8) : UInt8 := b8 (Lib.indexByte digits c)
theorem index_lt (l : List UInt8) (c : UInt8) : Lib.indexByte l c < l.length := by
  induction l with
  | nil => simp [Lib.indexByte]
  | cons y r ih =>
    simp only [Lib.indexByte, List.length_cons]
    split
    · omega
    · split <;> omega
theorem index_hex (c : UInt8) (h : 0 ≤ Lib.indexByte digits c) : Lib.indexByte digits c = n8 (hexV c) := by
  have := index_lt digits c
  have h2 : digits.length = 16 := rfl
  unfold hexV
  rw [n8_b8]; omega
theorem getD_eq (s : List UInt8) (k : Nat) (h : k < s.length) : s.getD k 0 = s[k] := by simp [h]

set_option maxRecDepth 100000 in
set_option maxHeartbeats 2000000 in
theorem unhex_any (s : List UInt8) (n : Nat) (w : World) (hn : s.length = 2 * n) (hb : n ≤ 100000) (hv : ∀ k, (h : k < s.length) → 0 ≤ Lib.indexByte digits s[k]) :
    Calls Try.prog 58 #[.string ⟨s.toArray⟩] w fun e w' => ∃ a c, e = .returned (.tuple #[.slice a n c, .bool true]) ∧ Own w' w.heap.size a n c (unhexTo hexV s s.length) ∧ Ext w w' := by
  have hmk := run_make_by U n n (Nat.le_refl _) (by omega)
  have hcv := run_bytes_str U hu8 hst ⟨s.toArray⟩
  have hsz : (⟨s.toArray⟩ : ByteArray).size = 2 * n := by simp [ByteArray.size, hn]
  have h2 : (2 * (n : Int)) / 2 = (n : Int) := by omega
  go_enter Try.func58, Try.ntmps58
  go_wp2
  have hs0 : Sl ((w.alloc (.cells (zerosOf (.int .u8 0) n) 5)).ext (strMore (w.alloc (.cells (zerosOf (.int .u8 0) n) 5)) ⟨s.toArray⟩)) (some ⟨w.heap.size + 1, 0, none⟩) (2 * n) s := by
    have := sl_str (w.alloc (.cells (zerosOf (.int .u8 0) n) 5)) ⟨s.toArray⟩
    rw [hsz] at this
    simpa using this
  have hB0 := (blk_zeros8 w n).ext (strMore (w.alloc (.cells (zerosOf (.int .u8 0) n) 5)) ⟨s.toArray⟩)
  have hx0 : Ext w ((w.alloc (.cells (zerosOf (.int .u8 0) n) 5)).ext (strMore (w.alloc (.cells (zerosOf (.int .u8 0) n) 5)) ⟨s.toArray⟩)) := (by repeat (first | (with_reducible first | exact Ext.refl _ | assumption | apply Ext.alloc | apply Ext.ext | apply Ext.drew | refine Ext.setCell ?_ ?_ _) | (focus (simp [go_sem]; done))))
  have HN := Lib.hid hn
  clear hn hsz hmk hcv h2
  go_loopw [5, 6, 7, 19] (fun _ _ _ v19 wr => ∃ k : Nat, k ≤ 2 * n ∧ v19 = .int .i64 k ∧ Blk wr w.heap.size 5 ((unhexTo hexV s k).map u8v) ∧ Sl wr (some ⟨w.heap.size + 1, 0, none⟩) (2 * n) s ∧ Ext w wr) (fun _ _ _ v19 _ => 2 * n - (intOf v19).toNat)
  case atStart => exact ⟨0, Nat.zero_le _, rfl, by rw [show unhexTo hexV s 0 = List.replicate n 0 by simp [unhexTo, HN.out]]; exact hB0, hs0, hx0⟩
  case round =>
    obtain ⟨k, hk, rfl, hB, hS, hx⟩ := hrel
    by_cases hlt : k < 2 * n
    · have hks : k < s.length := by rw [HN.out]; exact hlt
      have hul := unhexTo_length hexV s k
      have hkn : k / 2 < (unhexTo hexV s k).length := by rw [hul, HN.out]; omega
      obtain ⟨b1, o1, he, hb1, hc1⟩ := hS.at k hlt
      obtain ⟨rfl, rfl⟩ : w.heap.size + 1 = b1 ∧ 0 = o1 := by simpa using he
      clear he
      rw [Nat.zero_add] at hc1
      have HI := Lib.hid (index_hex s[k] (hv k hks))
      have HT := Lib.hid (show unhexTo hexV s (k + 1) = (unhexTo hexV s k).set (k / 2) ((unhexTo hexV s k).getD (k / 2) 0 <<< 4 ||| hexV s[k]) by simp only [unhexTo, unhexStep]; rw [getD_eq s k hks])
      clear hul
      generalize unhexTo hexV s k = out at *
      have hc2 : wr.cell? ⟨w.heap.size, k / 2, none⟩ = some (.int .u8 (n8 (out.getD (k / 2) 0))) := hB.cell? _ (by simp [hkn])
      have hf2 := hB.free (k / 2)
      haveI := hB.blt
      have hdiv : ((k : Int) / 2).toNat = k / 2 := by omega
      have hd0 : (0 : Int) ≤ (k : Int) / 2 := by omega
      have hd1 : (k : Int) / 2 < (n : Int) := by omega
      clear hkn
      go_wp2_with fail
      refine (indexByte_any ⟨digits.toArray⟩ s[k] _).mono ?_
      rintro e w1 ⟨rfl, rfl⟩
      rw [show (ByteArray.mk digits.toArray).data.toList = digits from rfl, HI.out]
      go_wp2
      go_roundw
      case rel =>
        refine ⟨k + 1, by omega, by go_num, ?_, hS.setCell (by simp) _, hx.setCell (by simp) _⟩
        rw [HT.out]
        have := hB.set (k / 2) (u8v (out.getD (k / 2) 0 <<< 4 ||| hexV s[k]))
        rwa [← List.map_set] at this
      case measure => simp [intOf]; omega
    · obtain rfl : k = 2 * n := by omega
      go_wp2
      go_ret2
      have hO := Own.of_blk (base := w.heap.size) hB (Nat.le_refl _) (by rw [unhexTo_length, HN.out]; simp only [maxLen]; omega)
      rw [unhexTo_length, HN.out, show 2 * n / 2 = n by omega] at hO
      rw [HN.out]
      exact ⟨_, _, rfl, hO, hx⟩
end Go.Proofs.Ythooaeeajeajnaa
