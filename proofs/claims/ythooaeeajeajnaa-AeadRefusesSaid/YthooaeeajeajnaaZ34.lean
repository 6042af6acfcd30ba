/- Lemmas of this claim, several texts joined. -/
import Derived.Test.YthooaeeajeajnaaZ31
set_option linter.unusedVariables false
set_option linter.unusedSimpArgs false
/- Layer 6: the law AeadRefuses. -/
namespace Go.Aes
theorem openE_code {ky : List UInt8} {A : List (List UInt8)} {s : List UInt8} (h : checkA ky A = 0) (h1 : 16 ≤ s.length) (h2 : s.length ≤ 65535) : (openE ky A s).2 = 0 ∨ (openE ky A s).2 = 6 := by
  unfold openE
  rw [if_neg (by rw [h]; simp), if_neg (by omega), if_neg (by omega)]
  split
  · exact .inl rfl
  · exact .inr rfl
theorem checkA_two {ky x y : List UInt8} (h1 : ky.length = 32) (h2 : x.length ≤ 60) (h3 : y.length ≤ 60) : checkA ky [x, y] = 0 := checkA_light h1 (by simp) (by simp; exact ⟨h2, h3⟩)
end Go.Aes
namespace Go.Proofs.Ythooaeeajeajnaa
open Go.RowKit Go.Sec Go.Oct Go.Aes Go.Sha BigFrame

theorem sl_off_blk {w : World} {b o n g : Nat} {l : List UInt8} {t : TypeId} {vs : List Value} (h : Sl w (some ⟨b, o, none⟩) n l) (hn : 0 < n) (hB : Blk w g t vs) (hv : ∀ v ∈ vs, ∀ x, v ≠ .int .u8 x) : b ≠ g := fun e => by
  subst e
  obtain ⟨b', o', e1, _, hc⟩ := h.at 0 hn
  injection e1 with e1
  injection e1 with e1 e2
  subst e1 e2
  rw [cell_of_row w _ _ _ t (0, 0) hB] at hc
  have : (.int .u8 (n8 (l[0]'(by have := h.len; omega)))) ∈ vs := List.mem_of_getElem? (by simpa using hc)
  exact hv _ this _ rfl
theorem bsc_two {w : World} {g : Nat} {t : TypeId} {a1 a2 : Option Addr} {n1 n2 c1 c2 : Nat} {l1 l2 : List UInt8} (hB : Blk w g t [.slice a1 n1 c1, .slice a2 n2 c2]) (h1 : Sl w a1 n1 l1) (k1 : n1 ≤ c1) (h2 : Sl w a2 n2 l2) (k2 : n2 ≤ c2) : Bsc w (some ⟨g, 0, none⟩) 2 [l1, l2] :=
  ⟨rfl, .inr ⟨g, 0, rfl, hB.lt, fun k hk => by
    match k, hk with
    | 0, _ => exact ⟨a1, n1, c1, hB.cell? 0 rfl, k1, h1⟩
    | 1, _ => exact ⟨a2, n2, c2, hB.cell? 1 rfl, k2, h2⟩⟩⟩
set_option maxRecDepth 100000 in
set_option maxHeartbeats 8000000 in
theorem aeadRefuses_walk (seed n at' by' what : Int) (w : World) :
    Calls Try.prog 15 #[.int .i64 seed, .int .i64 n, .int .i64 at', .int .i64 by', .int .i64 what] w fun e w' => e = .returned (.bool true) ∧ Ext w w' := by
  obtain ⟨s, hs1, hs⟩ := nat_mod seed 1000 (by omega)
  obtain ⟨k, hk1, hk⟩ := nat_mod n 50 (by omega)
  simp only [Int.cast_ofNat_Int] at hs hk
  have HS := Lib.hid hs
  have HK := Lib.hid hk
  have hwh : what % 4 = 0 ∨ what % 4 = 1 ∨ what % 4 = 2 ∨ what % 4 = 3 := by omega
  clear hs hk
  go_enter Try.func15, Try.ntmps15
  go_wp2_with fail; (with_reducible refine (within_any seed 1000 _ (by omega) (by omega)).mono ?_); rintro e w1 ⟨rfl, hxq⟩; obtain ⟨xq, rfl⟩ := hxq.out; clear hxq
  rw [HS.out]
  go_wp2_with fail; (with_reducible refine (key_any s (by omega) _ (by omega)).mono ?_); rintro e w1 ⟨a1, c1, rfl, hO1, hx1⟩
  go_wp2_with fail; (with_reducible refine (within_any n 50 _ (by omega) (by omega)).mono ?_); rintro e w1 ⟨rfl, hxq⟩; obtain ⟨xq, rfl⟩ := hxq.out; clear hxq
  rw [HK.out]
  go_wp2_with fail; (with_reducible refine (wbytes_any (s + 1) k (by omega) (by omega) _ (by omega) (by omega)).mono ?_); rintro e w2 ⟨a2, c2, rfl, hO2, hx2⟩
  go_wp2_with fail; (with_reducible refine (wbytes_any (s + 2) 20 (by omega) (by omega) _ (by omega) (by omega)).mono ?_); rintro e w3 ⟨a3, c3, rfl, hO3, hx3⟩
  go_wp2_with fail; (with_reducible refine (wbytes_any (s + 3) 16 (by omega) (by omega) _ (by omega) (by omega)).mono ?_); rintro e w4 ⟨a4, c4, rfl, hO4, hx4⟩
  have hx24 := hx2.trans (hx3.trans hx4)
  have hx14 := (Ext.of_ext w1 xq).trans hx24
  have hl1 := hO1.le
  have hl2 := hO2.le
  have hl3 := hO3.le
  have hl4 := hO4.le
  have hS1 := hO1.sl.ext hx14
  have hS2 := hO2.sl.ext (hx3.trans hx4)
  have hS3 := hO3.sl.ext hx4
  have hS4 := hO4.sl
  have hxw4 : Ext w w4 := Ext.trans (by repeat (first | (with_reducible first | exact Ext.refl _ | assumption | apply Ext.alloc | apply Ext.ext | apply Ext.drew | refine Ext.setCell ?_ ?_ _) | (focus (simp [go_sem]; done)))) (hx1.trans hx14)
  have hky := hS1.len
  have hpl := hS2.len
  have hy1 := hS3.len
  have hy2 := hS4.len
  generalize wbytes s 32 = ky at *
  generalize wbytes (s + 1) k = pl at *
  generalize wbytes (s + 2) 20 = y1 at *
  generalize wbytes (s + 3) 16 = y2 at *
  clear hO1 hO2 hO3 hO4 hx1 hx2 hx3 hx4 hx24 hx14
  have hck := checkA_two (x := y1) (y := y2) hky (by omega) (by omega)
  have hL := sealE_ok (p := pl) hck (by omega)
  have htl := s2v_length (ky.take 16) ([y1, y2] ++ [pl])
  have hsl := stream_length (ky.drop 16) (ctrOf (s2v (ky.take 16) ([y1, y2] ++ [pl]))) pl
  have hse := fun b w h1 h2 h3 h4 h5 => rseal_any a1 b a2 32 c1 2 2 k c2 ky [y1, y2] pl w h1 h2 h3 (by omega) h4 h5
  rw [hL] at hse
  simp only [List.length_append, htl, hsl, hpl] at hse
  have hxl : (s2v (ky.take 16) ([y1, y2] ++ [pl]) ++ stream (ky.drop 16) (ctrOf (s2v (ky.take 16) ([y1, y2] ++ [pl]))) pl).length = 16 + k := by rw [List.length_append, htl, hsl, hpl]
  generalize s2v (ky.take 16) ([y1, y2] ++ [pl]) ++ stream (ky.drop 16) (ctrOf (s2v (ky.take 16) ([y1, y2] ++ [pl]))) pl = x at *
  clear htl hsl hL hck
  have hBg := Blk.new w4 #[.slice a3 20 c3, .slice a4 16 c4] 22
  have hBs := bsc2 hS3 hl3.1 hS4 hl4.1 22
  have hxa := Ext.of_alloc w4 (.cells #[.slice a3 20 c3, .slice a4 16 c4] 22)
  go_wp2_with fail
  refine (hse _ _ (hS1.ext hxa) hl1.1 hBs (hS2.ext hxa) hl2.1).mono ?_
  rintro e W ⟨ax, cx, rfl, hSx, hcx, hxx⟩
  have hBg := hBg.extB hxx
  have hBs := hBs.ext hxx
  have h4W : Ext w4 W := hxa.trans hxx
  obtain ⟨bx, ox, rfl⟩ : ∃ b o, ax = some ⟨b, o, none⟩ := (let ⟨b, o, h, _⟩ := hSx.at 0 (by omega); ⟨b, o, h⟩)
  have hbx : bx ≠ w4.heap.size := sl_off_blk hSx (by omega) hBg (by intro v hv x; simp at hv; rcases hv with rfl | rfl <;> simp)
  obtain ⟨gg, hgg⟩ : ∃ gg, Hid (gg = w4.heap.size) := ⟨_, Lib.hid rfl⟩
  have hgl : w4.heap.size ≤ gg := by rw [hgg.out]; exact Nat.le_refl _
  rw [← hgg.out] at hBg hBs hbx ⊢
  have hgW := hBg.lt
  clear hxa hxx hse
  go_wp2_with fail
  go_wp2_with fail; (with_reducible refine (within_any what 4 _ (by omega) (by omega)).mono ?_); rintro e w1 ⟨rfl, hxq⟩; obtain ⟨xq, rfl⟩ := hxq.out; clear hxq
  have hxq := Ext.of_ext W xq
  have hBg := hBg.extB hxq
  have hBs := hBs.ext hxq
  have h4W := h4W.trans hxq
  have hSx := hSx.ext hxq
  have hgW : gg < (W.ext xq).heap.size := hBg.lt
  generalize W.ext xq = V at *
  clear hxq
  have hKY := hS1.ext h4W
  have hY1 := hS3.ext h4W
  have hY2 := hS4.ext h4W
  rcases hwh with hw | hw | hw | hw
  · rw [hw]
    go_wp2_with fail
    go_wp2_with fail; (with_reducible refine (changed_any ?_ ?_ ?_ x at' by' ?_ ?hq255 ?hq256 ?hq257).mono ?_); (case hq255 => (repeat' (first | with_reducible assumption | (with_reducible exact zeros16 _) | (with_reducible exact sl_new1 _ _ _) | (with_reducible first | apply Sl.upE | apply Sl.upA | apply Sl.upD)))); (case hq256 => omega); (case hq257 => omega); rintro e w6 ⟨a6, c6, rfl, hO6, hx6⟩
    have hl6 := hO6.le
    have hX6 := hO6.sl
    have hKY := hKY.ext hx6
    have hY1 := hY1.ext hx6
    have hY2 := hY2.ext hx6
    have hBs := hBs.ext hx6
    have h46 := h4W.trans hx6
    clear hO6 hx6 h4W hw
    generalize chg x at' by' = x' at *
    have hcd := openE_code (ky := ky) (A := [y1, y2]) (s := x') (checkA_two hKY.len (by have := hY1.len; omega) (by have := hY2.len; omega)) (by have := hX6.len; omega) (by have := hX6.len; omega)
    have f5 := fun b w h1 h3 h5 => open_any a1 b a6 32 c1 2 2 (16 + k) c6 ky [y1, y2] x' w h1 (by omega) h3 (by omega) h5 (by omega)
    have f6 := fun b w h1 h3 h5 => ropen_any a1 b a6 32 c1 2 2 (16 + k) c6 ky [y1, y2] x' w h1 (by omega) h3 (by omega) h5 (by omega) (by omega)
    generalize (openE ky [y1, y2] x').2 = ec at *
    generalize (openE ky [y1, y2] x').1 = po at *
    rcases hcd with rfl | rfl
    all_goals
      go_wp2_with (first
        | (go_at_call 52; (with_reducible refine (f5 ?_ ?_ ?hq231 ?hq232 ?hq233).mono ?_); (case hq231 => (repeat' (first | with_reducible assumption | (with_reducible exact zeros16 _) | (with_reducible exact sl_new1 _ _ _) | (with_reducible first | apply Sl.upE | apply Sl.upA | apply Sl.upD)))); (case hq232 => (repeat' (first | with_reducible assumption | (refine bsc2 ?_ ?_ ?_ ?_ _; (· (repeat' (first | with_reducible assumption | (with_reducible exact zeros16 _) | (with_reducible exact sl_new1 _ _ _) | (with_reducible first | apply Sl.upE | apply Sl.upA | apply Sl.upD)))); (· omega); (· (repeat' (first | with_reducible assumption | (with_reducible exact zeros16 _) | (with_reducible exact sl_new1 _ _ _) | (with_reducible first | apply Sl.upE | apply Sl.upA | apply Sl.upD)))); (· omega)) | (with_reducible first | apply Bsc.upE | apply Bsc.upA | apply Bsc.upD)))); (case hq233 => (repeat' (first | with_reducible assumption | (with_reducible exact zeros16 _) | (with_reducible exact sl_new1 _ _ _) | (with_reducible first | apply Sl.upE | apply Sl.upA | apply Sl.upD)))); rintro e _ ⟨_, _, rfl, hS, hc, hx⟩; obtain ⟨_, rfl⟩ := hx.out; clear hx)
        | (go_at_call 53; (with_reducible refine (f6 ?_ ?_ ?hq234 ?hq235 ?hq236).mono ?_); (case hq234 => (repeat' (first | with_reducible assumption | (with_reducible exact zeros16 _) | (with_reducible exact sl_new1 _ _ _) | (with_reducible first | apply Sl.upE | apply Sl.upA | apply Sl.upD)))); (case hq235 => (repeat' (first | with_reducible assumption | (refine bsc2 ?_ ?_ ?_ ?_ _; (· (repeat' (first | with_reducible assumption | (with_reducible exact zeros16 _) | (with_reducible exact sl_new1 _ _ _) | (with_reducible first | apply Sl.upE | apply Sl.upA | apply Sl.upD)))); (· omega); (· (repeat' (first | with_reducible assumption | (with_reducible exact zeros16 _) | (with_reducible exact sl_new1 _ _ _) | (with_reducible first | apply Sl.upE | apply Sl.upA | apply Sl.upD)))); (· omega)) | (with_reducible first | apply Bsc.upE | apply Bsc.upA | apply Bsc.upD)))); (case hq236 => (repeat' (first | with_reducible assumption | (with_reducible exact zeros16 _) | (with_reducible exact sl_new1 _ _ _) | (with_reducible first | apply Sl.upE | apply Sl.upA | apply Sl.upD)))); rintro e _ ⟨_, _, rfl, hS, hc, hx⟩; obtain ⟨_, rfl⟩ := hx.out; clear hx)
        | (go_at_call 46; refine (known6_any _).mono ?_; rintro e w1 ⟨rfl, hxq⟩; obtain ⟨xq, rfl⟩ := hxq.out; clear hxq)
        | (go_at_call 21; (with_reducible refine (same_any ?_ ?_ ?_ ?_ ?_ ?_ ?_ ?_ ?_ ?hq264 ?hq265).mono ?_); (case hq264 => (repeat' (first | with_reducible assumption | (with_reducible exact zeros16 _) | (with_reducible exact sl_new1 _ _ _) | (with_reducible first | apply Sl.upE | apply Sl.upA | apply Sl.upD)))); (case hq265 => (repeat' (first | with_reducible assumption | (with_reducible exact zeros16 _) | (with_reducible exact sl_new1 _ _ _) | (with_reducible first | apply Sl.upE | apply Sl.upA | apply Sl.upD)))); rintro e w1 ⟨rfl, hxq⟩; obtain ⟨xq, rfl⟩ := hxq.out; clear hxq)
        | fail)
      go_returns
      exact ⟨rfl, hxw4.trans (by repeat (first | (with_reducible first | exact Ext.refl _ | assumption | apply Ext.alloc | apply Ext.ext | apply Ext.drew | refine Ext.setCell ?_ ?_ _) | (focus (simp [go_sem]; done))))⟩
  · rw [hw]
    go_wp2_with fail
    go_wp2_with fail; (with_reducible refine (changed_any ?_ ?_ ?_ ky at' by' ?_ ?hq258 ?hq259 ?hq260).mono ?_); (case hq258 => (repeat' (first | with_reducible assumption | (with_reducible exact zeros16 _) | (with_reducible exact sl_new1 _ _ _) | (with_reducible first | apply Sl.upE | apply Sl.upA | apply Sl.upD)))); (case hq259 => omega); (case hq260 => omega); rintro e w6 ⟨a6, c6, rfl, hO6, hx6⟩
    have hl6 := hO6.le
    have hK6 := hO6.sl
    have hX6 := hSx.ext hx6
    have hY1 := hY1.ext hx6
    have hY2 := hY2.ext hx6
    have hBs := hBs.ext hx6
    have h46 := h4W.trans hx6
    clear hO6 hx6 h4W hw
    generalize chg ky at' by' = k' at *
    have hcd := openE_code (ky := k') (A := [y1, y2]) (s := x) (checkA_two hK6.len (by have := hY1.len; omega) (by have := hY2.len; omega)) (by have := hX6.len; omega) (by have := hX6.len; omega)
    have f5 := fun b w h1 h3 h5 => open_any a6 b (some ⟨bx, ox, none⟩) 32 c6 2 2 (16 + k) cx k' [y1, y2] x w h1 (by omega) h3 (by omega) h5 (by omega)
    have f6 := fun b w h1 h3 h5 => ropen_any a6 b (some ⟨bx, ox, none⟩) 32 c6 2 2 (16 + k) cx k' [y1, y2] x w h1 (by omega) h3 (by omega) h5 (by omega) (by omega)
    generalize (openE k' [y1, y2] x).2 = ec at *
    generalize (openE k' [y1, y2] x).1 = po at *
    rcases hcd with rfl | rfl
    all_goals
      go_wp2_with (first
        | (go_at_call 52; (with_reducible refine (f5 ?_ ?_ ?hq237 ?hq238 ?hq239).mono ?_); (case hq237 => (repeat' (first | with_reducible assumption | (with_reducible exact zeros16 _) | (with_reducible exact sl_new1 _ _ _) | (with_reducible first | apply Sl.upE | apply Sl.upA | apply Sl.upD)))); (case hq238 => (repeat' (first | with_reducible assumption | (refine bsc2 ?_ ?_ ?_ ?_ _; (· (repeat' (first | with_reducible assumption | (with_reducible exact zeros16 _) | (with_reducible exact sl_new1 _ _ _) | (with_reducible first | apply Sl.upE | apply Sl.upA | apply Sl.upD)))); (· omega); (· (repeat' (first | with_reducible assumption | (with_reducible exact zeros16 _) | (with_reducible exact sl_new1 _ _ _) | (with_reducible first | apply Sl.upE | apply Sl.upA | apply Sl.upD)))); (· omega)) | (with_reducible first | apply Bsc.upE | apply Bsc.upA | apply Bsc.upD)))); (case hq239 => (repeat' (first | with_reducible assumption | (with_reducible exact zeros16 _) | (with_reducible exact sl_new1 _ _ _) | (with_reducible first | apply Sl.upE | apply Sl.upA | apply Sl.upD)))); rintro e _ ⟨_, _, rfl, hS, hc, hx⟩; obtain ⟨_, rfl⟩ := hx.out; clear hx)
        | (go_at_call 53; (with_reducible refine (f6 ?_ ?_ ?hq240 ?hq241 ?hq242).mono ?_); (case hq240 => (repeat' (first | with_reducible assumption | (with_reducible exact zeros16 _) | (with_reducible exact sl_new1 _ _ _) | (with_reducible first | apply Sl.upE | apply Sl.upA | apply Sl.upD)))); (case hq241 => (repeat' (first | with_reducible assumption | (refine bsc2 ?_ ?_ ?_ ?_ _; (· (repeat' (first | with_reducible assumption | (with_reducible exact zeros16 _) | (with_reducible exact sl_new1 _ _ _) | (with_reducible first | apply Sl.upE | apply Sl.upA | apply Sl.upD)))); (· omega); (· (repeat' (first | with_reducible assumption | (with_reducible exact zeros16 _) | (with_reducible exact sl_new1 _ _ _) | (with_reducible first | apply Sl.upE | apply Sl.upA | apply Sl.upD)))); (· omega)) | (with_reducible first | apply Bsc.upE | apply Bsc.upA | apply Bsc.upD)))); (case hq242 => (repeat' (first | with_reducible assumption | (with_reducible exact zeros16 _) | (with_reducible exact sl_new1 _ _ _) | (with_reducible first | apply Sl.upE | apply Sl.upA | apply Sl.upD)))); rintro e _ ⟨_, _, rfl, hS, hc, hx⟩; obtain ⟨_, rfl⟩ := hx.out; clear hx)
        | (go_at_call 46; refine (known6_any _).mono ?_; rintro e w1 ⟨rfl, hxq⟩; obtain ⟨xq, rfl⟩ := hxq.out; clear hxq)
        | (go_at_call 21; (with_reducible refine (same_any ?_ ?_ ?_ ?_ ?_ ?_ ?_ ?_ ?_ ?hq266 ?hq267).mono ?_); (case hq266 => (repeat' (first | with_reducible assumption | (with_reducible exact zeros16 _) | (with_reducible exact sl_new1 _ _ _) | (with_reducible first | apply Sl.upE | apply Sl.upA | apply Sl.upD)))); (case hq267 => (repeat' (first | with_reducible assumption | (with_reducible exact zeros16 _) | (with_reducible exact sl_new1 _ _ _) | (with_reducible first | apply Sl.upE | apply Sl.upA | apply Sl.upD)))); rintro e w1 ⟨rfl, hxq⟩; obtain ⟨xq, rfl⟩ := hxq.out; clear hxq)
        | fail)
      go_returns
      exact ⟨rfl, hxw4.trans (by repeat (first | (with_reducible first | exact Ext.refl _ | assumption | apply Ext.alloc | apply Ext.ext | apply Ext.drew | refine Ext.setCell ?_ ?_ _) | (focus (simp [go_sem]; done))))⟩
  · rw [hw]
    have hc0 := hBg.cell? 0 rfl
    haveI := hBg.blt
    go_wp2_with fail
    go_wp2_with fail; (with_reducible refine (changed_any ?_ ?_ ?_ y1 at' by' ?_ ?hq261 ?hq262 ?hq263).mono ?_); (case hq261 => (repeat' (first | with_reducible assumption | (with_reducible exact zeros16 _) | (with_reducible exact sl_new1 _ _ _) | (with_reducible first | apply Sl.upE | apply Sl.upA | apply Sl.upD)))); (case hq262 => omega); (case hq263 => omega); rintro e w6 ⟨a6, c6, rfl, hO6, hx6⟩
    have hBg6 := hBg.extB hx6
    have hc6 := hBg6.cell? 0 rfl
    have hf6 := hBg6.free 0
    haveI := hBg6.blt
    clear hc0
    go_wp2_with fail
    have hl6 := hO6.le
    obtain ⟨b6, rfl, hb6, _⟩ := hO6.at 0 (by omega)
    have hY6 := hO6.sl.setCell (p := ⟨gg, 0, none⟩) (by show b6 ≠ gg; omega) (.slice (some ⟨b6, 0, none⟩) 20 c6)
    have hX6 := (hSx.ext hx6).setCell (p := ⟨gg, 0, none⟩) hbx (.slice (some ⟨b6, 0, none⟩) 20 c6)
    have h46 : Ext w4 (w6.setCell ⟨gg, 0, none⟩ (.slice (some ⟨b6, 0, none⟩) 20 c6)) := Ext.setCell (h4W.trans hx6) hgl _
    have hK6 := hS1.ext h46
    have hZ6 := hS4.ext h46
    have hB6 := hBg6.set 0 (.slice (some ⟨b6, 0, none⟩) 20 c6)
    have hBs6 := bsc_two hB6 hY6 hl6.1 hZ6 hl4.1
    clear hO6 hx6 h4W hw hBg6 hB6 hBg hc6 hf6 hSx hKY hY1 hY2 hBs
    generalize w6.setCell _ _ = V6 at *
    generalize chg y1 at' by' = y' at *
    have hcd := openE_code (ky := ky) (A := [y', y2]) (s := x) (checkA_two hK6.len (by have := hY6.len; omega) (by have := hZ6.len; omega)) (by have := hX6.len; omega) (by have := hX6.len; omega)
    have f5 := fun b w h1 h3 h5 => open_any a1 b (some ⟨bx, ox, none⟩) 32 c1 2 2 (16 + k) cx ky [y', y2] x w h1 (by omega) h3 (by omega) h5 (by omega)
    have f6 := fun b w h1 h3 h5 => ropen_any a1 b (some ⟨bx, ox, none⟩) 32 c1 2 2 (16 + k) cx ky [y', y2] x w h1 (by omega) h3 (by omega) h5 (by omega) (by omega)
    generalize (openE ky [y', y2] x).2 = ec at *
    generalize (openE ky [y', y2] x).1 = po at *
    rcases hcd with rfl | rfl
    all_goals
      go_wp2_with (first
        | (go_at_call 52; (with_reducible refine (f5 ?_ ?_ ?hq243 ?hq244 ?hq245).mono ?_); (case hq243 => (repeat' (first | with_reducible assumption | (with_reducible exact zeros16 _) | (with_reducible exact sl_new1 _ _ _) | (with_reducible first | apply Sl.upE | apply Sl.upA | apply Sl.upD)))); (case hq244 => (repeat' (first | with_reducible assumption | (refine bsc2 ?_ ?_ ?_ ?_ _; (· (repeat' (first | with_reducible assumption | (with_reducible exact zeros16 _) | (with_reducible exact sl_new1 _ _ _) | (with_reducible first | apply Sl.upE | apply Sl.upA | apply Sl.upD)))); (· omega); (· (repeat' (first | with_reducible assumption | (with_reducible exact zeros16 _) | (with_reducible exact sl_new1 _ _ _) | (with_reducible first | apply Sl.upE | apply Sl.upA | apply Sl.upD)))); (· omega)) | (with_reducible first | apply Bsc.upE | apply Bsc.upA | apply Bsc.upD)))); (case hq245 => (repeat' (first | with_reducible assumption | (with_reducible exact zeros16 _) | (with_reducible exact sl_new1 _ _ _) | (with_reducible first | apply Sl.upE | apply Sl.upA | apply Sl.upD)))); rintro e _ ⟨_, _, rfl, hS, hc, hx⟩; obtain ⟨_, rfl⟩ := hx.out; clear hx)
        | (go_at_call 53; (with_reducible refine (f6 ?_ ?_ ?hq246 ?hq247 ?hq248).mono ?_); (case hq246 => (repeat' (first | with_reducible assumption | (with_reducible exact zeros16 _) | (with_reducible exact sl_new1 _ _ _) | (with_reducible first | apply Sl.upE | apply Sl.upA | apply Sl.upD)))); (case hq247 => (repeat' (first | with_reducible assumption | (refine bsc2 ?_ ?_ ?_ ?_ _; (· (repeat' (first | with_reducible assumption | (with_reducible exact zeros16 _) | (with_reducible exact sl_new1 _ _ _) | (with_reducible first | apply Sl.upE | apply Sl.upA | apply Sl.upD)))); (· omega); (· (repeat' (first | with_reducible assumption | (with_reducible exact zeros16 _) | (with_reducible exact sl_new1 _ _ _) | (with_reducible first | apply Sl.upE | apply Sl.upA | apply Sl.upD)))); (· omega)) | (with_reducible first | apply Bsc.upE | apply Bsc.upA | apply Bsc.upD)))); (case hq248 => (repeat' (first | with_reducible assumption | (with_reducible exact zeros16 _) | (with_reducible exact sl_new1 _ _ _) | (with_reducible first | apply Sl.upE | apply Sl.upA | apply Sl.upD)))); rintro e _ ⟨_, _, rfl, hS, hc, hx⟩; obtain ⟨_, rfl⟩ := hx.out; clear hx)
        | (go_at_call 46; refine (known6_any _).mono ?_; rintro e w1 ⟨rfl, hxq⟩; obtain ⟨xq, rfl⟩ := hxq.out; clear hxq)
        | (go_at_call 21; (with_reducible refine (same_any ?_ ?_ ?_ ?_ ?_ ?_ ?_ ?_ ?_ ?hq268 ?hq269).mono ?_); (case hq268 => (repeat' (first | with_reducible assumption | (with_reducible exact zeros16 _) | (with_reducible exact sl_new1 _ _ _) | (with_reducible first | apply Sl.upE | apply Sl.upA | apply Sl.upD)))); (case hq269 => (repeat' (first | with_reducible assumption | (with_reducible exact zeros16 _) | (with_reducible exact sl_new1 _ _ _) | (with_reducible first | apply Sl.upE | apply Sl.upA | apply Sl.upD)))); rintro e w1 ⟨rfl, hxq⟩; obtain ⟨xq, rfl⟩ := hxq.out; clear hxq)
        | fail)
      go_returns
      exact ⟨rfl, hxw4.trans (by repeat (first | (with_reducible first | exact Ext.refl _ | assumption | apply Ext.alloc | apply Ext.ext | apply Ext.drew | refine Ext.setCell ?_ ?_ _) | (focus (simp [go_sem]; done))))⟩
  · rw [hw]
    have hc0 := hBg.cell? 0 rfl
    have hc1 := hBg.cell? 1 rfl
    have hf0 := hBg.free 0
    have hf1 := hBg.free 1
    haveI := hBg.blt
    go_wp2_with fail
    go_region
    have hX6 := (hSx.setCell (p := ⟨gg, 0, none⟩) hbx (.slice a4 16 c4)).setCell (p := ⟨gg, 1, none⟩) hbx (.slice a3 20 c3)
    have h46 : Ext w4 ((V.setCell ⟨gg, 0, none⟩ (.slice a4 16 c4)).setCell ⟨gg, 1, none⟩ (.slice a3 20 c3)) := Ext.setCell (Ext.setCell h4W hgl _) hgl _
    have hB6 := (hBg.set 0 (.slice a4 16 c4)).set 1 (.slice a3 20 c3)
    have hBs6 := (bsc_two hB6 (hS4.ext h46) hl4.1 (hS3.ext h46) hl3.1).ext (Ext.drew (Ext.refl _))
    have hX6 := hX6.ext (Ext.drew (Ext.refl _))
    have h46 := h46.drew
    have hK6 := hS1.ext h46
    have hY6 := hS4.ext h46
    have hZ6 := hS3.ext h46
    clear hB6 h4W hw hBg hc0 hc1 hf0 hf1 hSx hKY hY1 hY2 hBs
    generalize (World.setCell _ _ _).drew = V6 at *
    have hcd := openE_code (ky := ky) (A := [y2, y1]) (s := x) (checkA_two hK6.len (by have := hY6.len; omega) (by have := hZ6.len; omega)) (by have := hX6.len; omega) (by have := hX6.len; omega)
    have f5 := fun b w h1 h3 h5 => open_any a1 b (some ⟨bx, ox, none⟩) 32 c1 2 2 (16 + k) cx ky [y2, y1] x w h1 (by omega) h3 (by omega) h5 (by omega)
    have f6 := fun b w h1 h3 h5 => ropen_any a1 b (some ⟨bx, ox, none⟩) 32 c1 2 2 (16 + k) cx ky [y2, y1] x w h1 (by omega) h3 (by omega) h5 (by omega) (by omega)
    generalize (openE ky [y2, y1] x).2 = ec at *
    generalize (openE ky [y2, y1] x).1 = po at *
    rcases hcd with rfl | rfl
    all_goals
      go_wp2_with (first
        | (go_at_call 52; (with_reducible refine (f5 ?_ ?_ ?hq249 ?hq250 ?hq251).mono ?_); (case hq249 => (repeat' (first | with_reducible assumption | (with_reducible exact zeros16 _) | (with_reducible exact sl_new1 _ _ _) | (with_reducible first | apply Sl.upE | apply Sl.upA | apply Sl.upD)))); (case hq250 => (repeat' (first | with_reducible assumption | (refine bsc2 ?_ ?_ ?_ ?_ _; (· (repeat' (first | with_reducible assumption | (with_reducible exact zeros16 _) | (with_reducible exact sl_new1 _ _ _) | (with_reducible first | apply Sl.upE | apply Sl.upA | apply Sl.upD)))); (· omega); (· (repeat' (first | with_reducible assumption | (with_reducible exact zeros16 _) | (with_reducible exact sl_new1 _ _ _) | (with_reducible first | apply Sl.upE | apply Sl.upA | apply Sl.upD)))); (· omega)) | (with_reducible first | apply Bsc.upE | apply Bsc.upA | apply Bsc.upD)))); (case hq251 => (repeat' (first | with_reducible assumption | (with_reducible exact zeros16 _) | (with_reducible exact sl_new1 _ _ _) | (with_reducible first | apply Sl.upE | apply Sl.upA | apply Sl.upD)))); rintro e _ ⟨_, _, rfl, hS, hc, hx⟩; obtain ⟨_, rfl⟩ := hx.out; clear hx)
        | (go_at_call 53; (with_reducible refine (f6 ?_ ?_ ?hq252 ?hq253 ?hq254).mono ?_); (case hq252 => (repeat' (first | with_reducible assumption | (with_reducible exact zeros16 _) | (with_reducible exact sl_new1 _ _ _) | (with_reducible first | apply Sl.upE | apply Sl.upA | apply Sl.upD)))); (case hq253 => (repeat' (first | with_reducible assumption | (refine bsc2 ?_ ?_ ?_ ?_ _; (· (repeat' (first | with_reducible assumption | (with_reducible exact zeros16 _) | (with_reducible exact sl_new1 _ _ _) | (with_reducible first | apply Sl.upE | apply Sl.upA | apply Sl.upD)))); (· omega); (· (repeat' (first | with_reducible assumption | (with_reducible exact zeros16 _) | (with_reducible exact sl_new1 _ _ _) | (with_reducible first | apply Sl.upE | apply Sl.upA | apply Sl.upD)))); (· omega)) | (with_reducible first | apply Bsc.upE | apply Bsc.upA | apply Bsc.upD)))); (case hq254 => (repeat' (first | with_reducible assumption | (with_reducible exact zeros16 _) | (with_reducible exact sl_new1 _ _ _) | (with_reducible first | apply Sl.upE | apply Sl.upA | apply Sl.upD)))); rintro e _ ⟨_, _, rfl, hS, hc, hx⟩; obtain ⟨_, rfl⟩ := hx.out; clear hx)
        | (go_at_call 46; refine (known6_any _).mono ?_; rintro e w1 ⟨rfl, hxq⟩; obtain ⟨xq, rfl⟩ := hxq.out; clear hxq)
        | (go_at_call 21; (with_reducible refine (same_any ?_ ?_ ?_ ?_ ?_ ?_ ?_ ?_ ?_ ?hq270 ?hq271).mono ?_); (case hq270 => (repeat' (first | with_reducible assumption | (with_reducible exact zeros16 _) | (with_reducible exact sl_new1 _ _ _) | (with_reducible first | apply Sl.upE | apply Sl.upA | apply Sl.upD)))); (case hq271 => (repeat' (first | with_reducible assumption | (with_reducible exact zeros16 _) | (with_reducible exact sl_new1 _ _ _) | (with_reducible first | apply Sl.upE | apply Sl.upA | apply Sl.upD)))); rintro e w1 ⟨rfl, hxq⟩; obtain ⟨xq, rfl⟩ := hxq.out; clear hxq)
        | fail)
      go_returns
      exact ⟨rfl, hxw4.trans (by repeat (first | (with_reducible first | exact Ext.refl _ | assumption | apply Ext.alloc | apply Ext.ext | apply Ext.drew | refine Ext.setCell ?_ ?_ _) | (focus (simp [go_sem]; done))))⟩
end Go.Proofs.Ythooaeeajeajnaa
