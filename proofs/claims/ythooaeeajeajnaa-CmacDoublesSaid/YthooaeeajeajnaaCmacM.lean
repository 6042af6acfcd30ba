/- CmacDoubles: Subkeys, and the law's walk. -/
import Derived.Test.YthooaeeajeajnaaRef5
namespace Go.Proofs.Ythooaeeajeajnaa
open Go.RowKit Go.Sec Go.Oct Go.Aes Go.Sha BigFrame

theorem kc_rd1 {w : World} {g c : Nat} {T : TypeId} {k1 k2 : List UInt8} (h1 : k1.length = 16) (hB : Blk w g T (kc c k1 k2)) : Sl w (some ⟨g, 1, none⟩) 16 k1 := by
  refine ⟨h1, ?_⟩
  have := (hB.rdAt 1).head 16
  simpa [kc, h1] using this
theorem kc_rd2 {w : World} {g c : Nat} {T : TypeId} {k1 k2 : List UInt8} (h1 : k1.length = 16) (h2 : k2.length = 16) (hB : Blk w g T (kc c k1 k2)) : Sl w (some ⟨g, 17, none⟩) 16 k2 := by
  refine ⟨h2, ?_⟩
  have := hB.rdAt 17
  have e : (kc c k1 k2).drop 17 = k2.map u8v := by
    unfold kc
    rw [List.drop_succ_cons, List.map_append, List.drop_append_of_le_length (by simp [h1]), List.drop_of_length_le (by simp [h1])]
    rfl
  rwa [e] at this

set_option maxRecDepth 100000 in
set_option maxHeartbeats 4000000 in
theorem subkeys_any (a : Option Addr) (ca : Nat) (ky : List UInt8) (w : World) (hk : Sl w a 16 ky) (hca : 16 ≤ ca) :
    Calls Try.prog 37 #[.slice a 16 ca] w fun e w' => ∃ a1 c1 a2 c2, e = .returned (.tuple #[.slice a1 16 c1, .slice a2 16 c2, .int .i64 0]) ∧ Sl w' a1 16 (sub1 (expand ky)) ∧ 16 ≤ c1 ∧ Sl w' a2 16 (sub2 (expand ky)) ∧ 16 ≤ c2 ∧ Ext w w' := by
  have h1 : (sub1 (expand ky)).length = 16 := tw_length _
  have h2 : (sub2 (expand ky)).length = 16 := tw_length _
  have hr := ready_any a ca ky w hk hca
  generalize sub1 (expand ky) = k1 at *
  generalize sub2 (expand ky) = k2 at *
  go_enter Try.func37, Try.ntmps37
  go_wp2_with fail
  refine hr.mono ?_
  rintro e w1 ⟨g, rfl, hg, hB, hx1⟩
  clear hr
  have hkl := kc_length g k1 k2 h1 h2
  go_wp2_with (first
    | (refine wpList_alloc_store (R71) rfl rfl _ _ rfl rfl rfl rfl (by simp [Act.put]) (kc g k1 k2) rfl (by simp) (hkl) (kc_one g k1 k2) ?_; intro x hBk _))
  refine wp_region_vague 7 [[], [0], [], [2], [0, 1], [0, 1, 2, 3, 4], [0, 1, 2, 3, 4, 5]] (by kernel_rfl) (by kernel_rfl) (by kernel_rfl) (by kernel_rfl) ?_; simp only [List.take_succ_cons, List.take_zero, List.drop_succ_cons, List.drop_zero, List.take_nil, List.drop_nil]
  (repeat (apply VD_der; (case h => (intro us w' hx hf; obtain ⟨x, rfl⟩ := hx.out; refine ⟨rfl, ?_⟩; simp [go_sem, execOp, *]; (try simp (disch := omega) only [Go.IntWalk.i64_in, Go.IntWalk.rem_in, Go.IntWalk.wrap64_in]); rfl)); (try simp only [Act.put, List.setIfInBounds_toArray, List.set_cons_succ, List.set_cons_zero])))
  (refine VD_nil ?_; intro us w' hx hf; obtain ⟨x, rfl⟩ := hx.out; (try simp only [Act.put, List.setIfInBounds_toArray, List.set_cons_succ, List.set_cons_zero, wpList_none]); (try simp only [List.mem_cons, List.not_mem_nil, or_false, forall_eq_or_imp, forall_eq, List.nil_append, List.cons_append, List.mem_append, false_or, true_and, and_true] at hf); (try simp only [Nat.reduceAdd, Nat.zero_add] at hf); (try simp only [Nat.reduceAdd, Nat.zero_add]))
  go_wp2
  go_returns
  exact ⟨_, _, _, _, rfl, (kc_rd1 h1 hBk).ext hx, by omega, (kc_rd2 h1 h2 hBk).ext hx, by omega, (hx1.ext _).trans hx⟩

theorem mk16 (W : World) : (Instr.makeSlice 22 (.int .i64 16) (.int .i64 16)).run Try.prog W = .ok (.slice (some ⟨W.heap.size, 0, none⟩) 16 16) (W.alloc (.cells (zerosOf (.int .u8 0) 16) 5)) := run_make_by U 16 16 (Nat.le_refl _) (by omega) W
theorem mk16_sl (W : World) : Sl (W.alloc (.cells (zerosOf (.int .u8 0) 16) 5)) (some ⟨W.heap.size, 0, none⟩) 16 zero16 := (blk_zeros8 W 16).sl rfl
theorem double_rd (a : Option Addr) (c : Nat) (l : List UInt8) (w : World) (h : Sl w a 16 l) : Calls Try.prog 36 #[.slice a 16 c] w fun e w' => ∃ a' c', e = .returned (.slice a' 16 c') ∧ Sl w' a' 16 (tw l) ∧ Ext w w' :=
  (double_any a c l w h).mono fun _ _ ⟨a', c', he, _, hS, hx⟩ => ⟨a', c', he, hS, hx⟩

set_option maxRecDepth 100000 in
set_option maxHeartbeats 4000000 in
theorem cmacDoubles_walk (seed other : Int) (w : World) : Calls Try.prog 9 #[.int .i64 seed, .int .i64 other] w fun e w' => e = .returned (.bool true) ∧ Ext w w' := by
  obtain ⟨s, hs⟩ : ∃ s : Nat, seed % 1000 = (s : Int) := ⟨(seed % 1000).toNat, by omega⟩
  obtain ⟨t, ht⟩ : ∃ t : Nat, other % 1000 = (t : Int) := ⟨(other % 1000).toNat, by omega⟩
  have hs1 : s < 1000 := by omega
  have ht1 : t < 1000 := by omega
  have HS := Lib.hid hs
  have HT := Lib.hid ht
  clear hs ht
  have la : (wbytes s 16).length = 16 := wbytes_length _ _
  have lb : (wbytes t 16).length = 16 := wbytes_length _ _
  have e1 := Lib.hid (show tw (xorL (wbytes s 16) (wbytes t 16)) = xorL (tw (wbytes s 16)) (tw (wbytes t 16)) by rw [xorL16 _ _ la, xorL16 _ _ (tw_length _), tw_xor _ _ la lb])
  have e2 := Lib.hid (show (tw (wbytes s 16) == tw (wbytes t 16)) = (wbytes s 16 == wbytes t 16) by
    rw [Bool.eq_iff_iff, beq_iff_eq, beq_iff_eq]
    exact ⟨tw_inj la lb, fun h => by rw [h]⟩)
  have e3 := Lib.hid (show sub1 (expand (wbytes s 16)) = tw (Aes.block (wbytes s 16) zero16) from rfl)
  have e4 := Lib.hid (show sub2 (expand (wbytes s 16)) = tw (sub1 (expand (wbytes s 16))) from rfl)
  go_enter Try.func9, Try.ntmps9
  go_wp2_with fail; (with_reducible refine (within_any seed 1000 _ (by omega) (by omega)).mono ?_); rintro e w1 ⟨rfl, hxq⟩; obtain ⟨xq, rfl⟩ := hxq.out; clear hxq
  rw [HS.out]
  go_wp2_with fail; (with_reducible refine (wbytes_any s 16 (by omega) (by omega) _ (by omega) (by omega)).mono ?_); rintro e w1 ⟨a1, c1, rfl, hO1, hx1⟩
  go_wp2_with fail; (with_reducible refine (within_any other 1000 _ (by omega) (by omega)).mono ?_); rintro e w1 ⟨rfl, hxq⟩; obtain ⟨xq, rfl⟩ := hxq.out; clear hxq
  rw [HT.out]
  have hle1 := hO1.le
  go_wp2_with fail; (with_reducible refine (wbytes_any t 16 (by omega) (by omega) _ (by omega) (by omega)).mono ?_); rintro e w2 ⟨a2, c2, rfl, hO2, hx2⟩
  have hle2 := hO2.le
  have hx12 : Ext w1 w2 := Ext.trans (Ext.of_ext _ _) hx2
  have ha := hO1.sl.ext hx12
  have hb := hO2.sl
  have hw2 : Ext w w2 := (Ext.of_ext _ _).trans (hx1.trans hx12)
  clear hO1 hO2 hx1 hx2 hx12
  generalize wbytes s 16 = ky at *
  generalize wbytes t 16 = kb at *
  go_wp2_with fail
  refine (double_rd a1 c1 ky _ ha).mono ?_
  rintro e w3 ⟨a3, c3, rfl, h3, hx3⟩
  go_wp2_with fail
  refine (double_rd a2 c2 kb _ (hb.ext hx3)).mono ?_
  rintro e w4 ⟨a4, c4, rfl, h4, hx4⟩
  have hmk := mk16
  have hmz := mk16_sl w4
  have ha4 := ha.ext (hx3.trans hx4)
  have hw4 : Ext w w4 := hw2.trans (hx3.trans hx4)
  go_wp2_with fail
  (with_reducible refine (block_sl a1 _ c1 _ ky zero16 _ (ha4.ext (Ext.of_alloc _ _)) hmz hle1.1).mono ?_)
  rintro e w5 ⟨a5, c5, rfl, h5, hc5, hx5⟩
  have hx5' : Ext w4 w5 := Ext.trans (Ext.of_alloc _ _) hx5
  clear hmk hmz
  go_wp2_with fail
  (with_reducible refine (subkeys_any a1 c1 ky _ (ha4.ext hx5') hle1.1).mono ?_)
  rintro e w6 ⟨a6, c6, a7, c7, rfl, h6, hc6, h7, hc7, hx6⟩
  rw [e4.out, e3.out] at h7
  rw [e3.out] at h6
  have hw6 : Ext w w6 := hw4.trans (hx5'.trans hx6)
  have ga := ha4.ext (hx5'.trans hx6)
  have gb := (hb.ext (hx3.trans hx4)).ext (hx5'.trans hx6)
  have g3 := h3.ext (hx4.trans (hx5'.trans hx6))
  have g4 := h4.ext (hx5'.trans hx6)
  have g5 := h5.ext hx6
  clear ha hb h3 h4 h5 hx3 hx4 hx5 hx5' hx6 ha4 hw2 hw4
  have hz : (Aes.block ky zero16).length = 16 := block_length _ _
  clear e3 e4
  generalize Aes.block ky zero16 = z at *
  go_wp2_with fail; (with_reducible refine (known5_any _).mono ?_); rintro e w1 ⟨rfl, hxq⟩; obtain ⟨xq, rfl⟩ := hxq.out; clear hxq
  go_wp2_with fail
  (with_reducible refine (rxor_any a1 a2 16 c1 16 c2 ky kb _ (ga.ext (by repeat (first | (with_reducible first | exact Ext.refl _ | assumption | apply Ext.alloc | apply Ext.ext | apply Ext.drew | refine Ext.setCell ?_ ?_ _) | (focus (simp [go_sem]; done))))) (gb.ext (by repeat (first | (with_reducible first | exact Ext.refl _ | assumption | apply Ext.alloc | apply Ext.ext | apply Ext.drew | refine Ext.setCell ?_ ?_ _) | (focus (simp [go_sem]; done))))) (by omega) (by omega)).mono ?_)
  rintro e w7 ⟨a8, c8, rfl, hO8, hx8⟩
  have hx8' : Ext w6 w7 := Ext.trans (Ext.of_ext _ _) hx8
  go_wp2_with fail
  refine (double_rd a8 c8 _ _ hO8.sl).mono ?_
  rintro e w8 ⟨a9, c9, rfl, h9, hx9⟩
  go_wp2_with fail
  (with_reducible refine (rxor_any a3 a4 16 c3 16 c4 _ _ _ (g3.ext (hx8'.trans hx9)) (g4.ext (hx8'.trans hx9)) (by omega) (by omega)).mono ?_)
  rintro e w9 ⟨a10, c10, rfl, hO10, hx10⟩
  rw [e1.out] at h9
  have hx9' : Ext w6 w9 := hx8'.trans (hx9.trans hx10)
  go_wp2_with fail
  (with_reducible refine (same_any a9 a10 16 c9 16 c10 _ _ _ (h9.ext hx10) hO10.sl).mono ?_)
  rintro e w10 ⟨rfl, hx11⟩
  rw [beq_self_eq_true]
  have hy := hx9'.trans hx11
  clear hx8 hx8' hx9 hx9' hx10 hx11 hO8 h9 hO10
  go_wp2_with fail
  (with_reducible refine (same_any a1 a2 16 c1 16 c2 _ _ _ (ga.ext hy) (gb.ext hy)).mono ?_)
  rintro e w11 ⟨rfl, hx12⟩
  have hy2 := hy.trans hx12
  rw [← e2.out]
  obtain ⟨q, hq⟩ : ∃ q, Hid ((tw ky == tw kb) = q) := ⟨_, Lib.hid rfl⟩
  rw [hq.out]
  go_wp2_with fail
  (with_reducible refine (same_any a3 a4 16 c3 16 c4 _ _ _ (g3.ext hy2) (g4.ext hy2)).mono ?_)
  rintro e w12 ⟨rfl, hx13⟩
  have hy3 := hy2.trans hx13
  rw [hq.out]
  go_wp2_with fail
  refine (double_rd a5 c5 z _ (g5.ext hy3)).mono ?_
  rintro e w13 ⟨a14, c14, rfl, h14, hx14⟩
  have hy4 := hy3.trans hx14
  go_wp2_with fail
  (with_reducible refine (same_any a6 a14 16 c6 16 c14 _ _ _ (h6.ext hy4) h14).mono ?_)
  rintro e w14 ⟨rfl, hx15⟩
  have hy5 := hy4.trans hx15
  rw [beq_self_eq_true]
  go_wp2_with fail
  refine (double_rd a6 c6 _ _ (h6.ext hy5)).mono ?_
  rintro e w15 ⟨a16, c16, rfl, h16, hx16⟩
  have hy6 := hy5.trans hx16
  go_wp2_with fail
  (with_reducible refine (same_any a7 a16 16 c7 16 c16 _ _ _ (h7.ext hy6) h16).mono ?_)
  rintro e w16 ⟨rfl, hx17⟩
  rw [beq_self_eq_true]
  go_wp2
  go_returns
  exact ⟨rfl, hw6.trans (hy6.trans hx17)⟩
end Go.Proofs.Ythooaeeajeajnaa
