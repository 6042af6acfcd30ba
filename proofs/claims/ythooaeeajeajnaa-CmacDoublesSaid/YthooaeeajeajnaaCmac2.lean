/- The walks of layer 5, part two: CMAC. -/
import Derived.Test.YthooaeeajeajnaaCmac
import Derived.Test.YthooaeeajeajnaaCopy
namespace Go.Proofs.Ythooaeeajeajnaa
open Go.RowKit Go.Sec Go.Oct Go.Aes BigFrame

theorem fill_set (l : List UInt8) (n : Nat) (hl : l.length = n) (hn : n < 16) : (l ++ List.replicate (16 - n) 0).set n 128 = fill l := by
  subst hl
  unfold fill
  obtain ⟨j, hj⟩ : ∃ j, 16 - l.length = j + 1 := ⟨15 - l.length, by omega⟩
  rw [hj, show 15 - l.length = j by omega, List.set_append_right _ _ (Nat.le_refl _), Nat.sub_self, List.replicate_succ, List.set_cons_zero, List.append_assoc]
  rfl
theorem copied16 {l : List UInt8} {n : Nat} (hl : l.length = n) : (List.replicate 16 (u8v 0)).take 0 ++ (l.take n).map u8v ++ (List.replicate 16 (u8v 0)).drop (0 + n) = (l ++ List.replicate (16 - n) 0).map u8v := by
  subst hl
  have h1 : l.take l.length = l := List.take_of_length_le (Nat.le_refl _)
  rw [h1, List.map_append, List.map_replicate, List.drop_replicate, Nat.zero_add, List.take_zero, List.nil_append]
set_option maxRecDepth 100000 in
set_option maxHeartbeats 2000000 in
theorem filled_any (a : Option Addr) (n c : Nat) (l : List UInt8) (w : World) (h : Sl w a n l) (hn : n < 16) :
    Calls Try.prog 92 #[.slice a n c] w fun e w' => e = .returned (.agg ((fill l).map u8v).toArray) ∧ Ext w w' := by
  have hl := h.len
  go_enter Try.func92, Try.ntmps92
  go_wp2_with (first
    | (refine wpList_copy_blk rfl (.tmp 4) (.tmp 5) _ _ rfl 5 Try.underlying22 (by kernel_rfl) (w.heap.size + 1) (0) _ _ _ _ _ (l) rfl rfl (60) _ ((Blk.newAt _ _ _ _ (by simp))) ((h.ext (by repeat (first | (with_reducible first | exact Ext.refl _ | assumption | apply Ext.alloc | apply Ext.ext | apply Ext.drew | refine Ext.setCell ?_ ?_ _) | (focus (simp [go_sem]; done)))))) (n) (by omega) ((by simp <;> omega)) ?_; intro w2 hB2 hM2); have hB3 : Blk w2 (w.heap.size + 1) 60 ((l ++ List.replicate (16 - n) 0).map u8v) := (copied16 hl) ▸ hB2; have hR2 : Blk w2 w.heap.size 60 (List.replicate 16 (u8v 0)) := Blk.turn hM2 (Blk.alloc (Blk.newAt w _ _ _ rfl) _) (by omega); have hfn := hB3.free n; obtain ⟨vo, hvo⟩ : ∃ v, w2.cell? ⟨w.heap.size + 1, n, none⟩ = some v := ⟨_, hB3.cell n (by simp; omega)⟩; haveI := hB3.blt; have hB4 : Blk (w2.setCell ⟨w.heap.size + 1, n, none⟩ (u8v 128)) (w.heap.size + 1) 60 ((fill l).map u8v) := (by have := hB3.set n (u8v 128); rwa [← List.map_set, fill_set l n hl hn] at this)
    | (refine wpList_load_arr (R60) rfl _ rfl (w.heap.size + 1) (0) rfl ((fill l).map u8v) (hB4.rd) ((by simp [fill_length l (by omega)])) ?_)
    | (refine wpList_store_arr (R60) rfl _ _ rfl (w.heap.size) (0) rfl ((fill l).map u8v) rfl (60) _ ((hR2.other (by simp) _)) ((by simp [fill_length l (by omega)])) (by simp) (by first | exact one_u8 _ | simp) ?_; intro w3 hB5 hM5))
  have hB6 : Blk w3 w.heap.size 60 ((fill l).map u8v) := by simpa [fill_length l (by omega)] using hB5
  refine bodyPost_ret (results_arr Try.results92 (R60) _ _ (w.heap.size) (0) ((fill l).map u8v) rfl (hB6.rd) ((by simp [fill_length l (by omega)]))) rfl ?_
  have hx2 : Ext w w2 := Below.trans (b := (w.alloc _).alloc _) (by repeat (first | (with_reducible first | exact Ext.refl _ | assumption | apply Ext.alloc | apply Ext.ext | apply Ext.drew | refine Ext.setCell ?_ ?_ _) | (focus (simp [go_sem]; done)))) (hM2.below (by simp) (by simp; omega))
  have hx3 : Ext w (w2.setCell ⟨w.heap.size + 1, n, none⟩ (.int .u8 128)) := hx2.setCell (by simp) _
  exact ⟨rfl, Below.trans hx3 (hM5.below (Nat.le_refl _) hx3.size)⟩
end Go.Proofs.Ythooaeeajeajnaa
