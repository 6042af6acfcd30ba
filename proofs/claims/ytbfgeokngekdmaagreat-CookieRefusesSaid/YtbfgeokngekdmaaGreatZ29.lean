/- Lemmas of this claim, several texts joined. -/
import Derived.Test.YtbfgeokngekdmaaGreatZ7
import Derived.Test.YtbfgeokngekdmaaGreatZ20
import Derived.Test.YtbfgeokngekdmaaGreatZ24
set_option linter.unusedVariables false
set_option linter.unusedSimpArgs false
/- The walks of layer 3: HMAC and HKDF of the program. -/
namespace Go.Sha
open Go.Sec
def mix64 (l : List UInt8) (x : UInt8) : List UInt8 := (List.range 64).map fun i => b' l i ^^^ x
theorem mix64_length (l : List UInt8) (x : UInt8) : (mix64 l x).length = 64 := by simp [mix64]
theorem mixed_eq (key : List UInt8) (x : UInt8) : mixed key x = mix64 (keyOf key) x := rfl
theorem padG (l : List UInt8) (m i : Nat) : (l ++ List.replicate m (0 : UInt8)).getD i 0 = b' l i := by
  unfold b'
  rw [List.getD_eq_getElem?_getD, List.getD_eq_getElem?_getD]
  by_cases h : i < l.length
  · rw [List.getElem?_append_left h]
  · rw [List.getElem?_append_right (by omega), List.getElem?_eq_none (l := l) (by omega), List.getElem?_replicate]
    split <;> rfl
end Go.Sha
namespace Go.Sec
open Go.RowKit
theorem Own.grown {W W' : World} {row : Option Nat} {base n c : Nat} {a : Option Addr} {l : List UInt8} (h : Own W base a n c l) (hg : W.grownBy W' row) (hne : ∀ g, (Value.slice a n c).ownBlock = some g → row ≠ some g) : Own W' base a n c l := by
  refine ⟨h.1, h.2.1, ?_⟩
  rcases h.2.2 with h1 | ⟨g, cap, cur, hv, h2, h3, h4⟩
  · exact .inl h1
  · refine .inr ⟨g, cap, cur, hv, h2, ?_, h4⟩
    have hb : (Value.slice a n c).ownBlock = some g := by rw [hv]; rfl
    rw [hg.block g (Array.getElem?_eq_some_iff.1 h3).1 (fun e => hne g hb e.symm)]
    exact h3
end Go.Sec
namespace Go.Proofs.YtbfgeokngekdmaaGreat
open Go.RowKit Go.Sec Go.Oct Go.Sha BigFrame

set_option maxRecDepth 100000 in
set_option maxHeartbeats 4000000 in
theorem masked_any (a : Option Addr) (n c : Nat) (l : List UInt8) (x : UInt8) {xI : Int} (hx : xI = n8 x) (w : World) (h : Sl w a n l) (hn : n ≤ 64) :
    Calls Tryz.prog 97 #[.slice a n c, .int .u8 xI] w (Fresh 64 (mix64 l x) w) := by
  subst hx
  have hll := h.len
  have hmk := fun W => run_make_by U 64 128 (by omega) (by omega) W
  simp only [Int.cast_ofNat_Int] at hmk
  obtain ⟨base, hbase⟩ : ∃ b, Hid (b = l ++ List.replicate (128 - n) (0 : UInt8)) := ⟨_, Lib.hid rfl⟩
  have hbl : base.length = 128 := by rw [hbase.out]; simp [hll]; omega
  have hB := Lib.hid (show ((List.replicate 128 (0 : UInt8)).map u8v).take 0 ++ (l.take n).map u8v ++ ((List.replicate 128 (0 : UInt8)).map u8v).drop (0 + n) = base.map u8v by
    rw [List.take_zero, List.nil_append, List.take_of_length_le (l := l) (by omega), Nat.zero_add, ← List.map_drop, List.drop_replicate, ← List.map_append, hbase.out])
  go_enter Tryz.func97, Tryz.ntmps97
  go_wp2_with (first
    | ((refine wpList_copy_blk rfl (.tmp 8) (.tmp 9) _ _ rfl 5 Tryz.underlying27 (by kernel_rfl) (w.heap.size) (0) _ _ _ _ _ (l) rfl rfl (5) _ ((blk_zeros8 _ _)) ((h.ext (by repeat (first | (with_reducible first | exact Ext.refl _ | assumption | apply Ext.alloc | apply Ext.ext | apply Ext.drew | refine Ext.setCell ?_ ?_ _) | (focus (simp [go_sem]; done)))))) (n) (by omega) ((by rw [List.length_map, List.length_replicate]; omega)) ?_; intro w2 hB2 hM2); rw [hB.out] at hB2; have hE2 : Ext w w2 := Below.trans (Ext.of_alloc w _) (hM2.below (Nat.le_refl _) (by simp)); clear hM2)
    | fail)
  go_loopw [6, 13] (fun _ v13 wr => ∃ k : Nat, k ≤ 64 ∧ v13 = .int .i64 k ∧ Blk wr w.heap.size 5 ((upTo (fun i => b' l i ^^^ x) base k).map u8v) ∧ Ext w wr) (fun _ v13 _ => 64 - (intOf v13).toNat)
  case atStart => exact ⟨0, by omega, rfl, by rw [upTo_zero]; exact hB2, hE2⟩
  case round =>
    obtain ⟨k, hk, rfl, hBr, hxr⟩ := hrel
    by_cases hlt : k < 64
    · have hc := hBr.at_upTo k (Nat.le_refl _) (by omega)
      have hg : base.getD k 0 = b' l k := by rw [hbase.out]; exact padG _ _ _
      rw [hg] at hc
      have hf := hBr.free k
      haveI := hBr.blt
      have hU := Blk.upd hBr (by omega)
      have k0 : (0 : Int) ≤ (k : Int) := by omega
      have k1 : (k : Int) < 64 := by omega
      clear hg
      go_wp2
      go_roundw
      case rel => exact ⟨k + 1, by omega, by go_num, hU, Ext.setCell hxr (by simp) _⟩
      case measure => simp [intOf]; omega
    · obtain rfl : k = 64 := (by omega); (try simp only [Nat.reduceAdd, Nat.reduceMul, Nat.reduceDiv, Nat.reduceSub, Int.cast_ofNat_Int])
      have hO := hBr.own (Nat.le_refl _) 64 (by rw [List.length_map, upTo_length _ _ _ (by omega)]; omega) (by rw [List.length_map, upTo_length _ _ _ (by omega), hbl]; decide)
      rw [List.length_map, upTo_length _ _ _ (by omega), hbl, ← List.map_take] at hO
      have e : (upTo (fun i => b' l i ^^^ x) base 64).take 64 = mix64 l x := by
        unfold upTo mix64
        rw [List.take_append_of_le_length (by simp), List.take_of_length_le (by simp)]
      rw [e] at hO
      go_wp2
      go_ret
      exact ⟨_, _, rfl, ⟨mix64_length _ _, hO⟩, hxr⟩

set_option maxRecDepth 100000 in
set_option maxHeartbeats 4000000 in
theorem hmac_any (a b : Option Addr) (n c m d : Nat) (key l : List UInt8) (w : World) (hk : Sl w a n key) (hnc : n ≤ c) (hn : n ≤ 1000000) (hl : Sl w b m l) (hm : m ≤ 900000) :
    Calls Tryz.prog 86 #[.slice a n c, .slice b m d] w (Fresh 32 (hmac key l) w) := by
  have hkl := hk.len
  have HH := Lib.hid (show hmac key l = sha (mix64 (Sha.keyOf key) 92 ++ sha (mix64 (Sha.keyOf key) 54 ++ l)) from rfl)
  have hkol := keyOf_length key
  have hl1 : ∀ x, (mix64 (Sha.keyOf key) x).length = 64 := fun x => mix64_length _ _
  by_cases h64 : 64 < n
  · have hI : (64 : Int) < (n : Int) := by omega
    have hko := Lib.hid (show Sha.keyOf key = sha key by unfold Sha.keyOf; rw [if_pos (by omega)])
    clear hkl
    go_enter Tryz.func86, Tryz.ntmps86
    go_wp2_with fail; (with_reducible refine (hsum_any _ _ _ _ _ hk hnc hn).mono ?_); rintro e w0 ⟨a0, c0, rfl, hO0, hx0⟩
    rw [← hko.out] at hO0
    clear hko
    have hS0 := hO0.sl
    generalize Sha.keyOf key = ko at *
    go_wp2_with fail; (with_reducible refine (masked_any _ _ _ ko 54 (by decide) _ (hS0) (by omega)).mono ?_); rintro e w1 ⟨a1, c1, rfl, hO1, hx1⟩
    go_wp2_with (at_builtin; refine wpList_append_by U rfl _ _ rfl w0.heap.size a1 _ c1 _ rfl _ m d _ rfl hO1 (hl.ext ((hx0).trans hx1)) (by omega) hx1.size ?_; intro a2 c2 w2 hO2 hg2 hB2)
    have hE2 : Ext w0 w2 := Below.trans hx1 hB2
    have hle2 := hO2.le
    clear hg2 hB2
    go_wp2_with fail; (with_reducible refine (hsum_any _ _ _ _ _ hO2.sl hle2.1 (by omega)).mono ?_); rintro e w3 ⟨a3, c3, rfl, hO3, hx3⟩
    have hE3 := hE2.trans hx3
    generalize sha (mix64 ko 54 ++ l) = inner at *
    go_wp2_with fail; (with_reducible refine (masked_any _ _ _ ko 92 (by decide) _ ((hS0).ext hE3) (by omega)).mono ?_); rintro e w4 ⟨a4, c4, rfl, hO4, hx4⟩
    go_wp2_with (at_builtin; refine wpList_append_by U rfl _ _ rfl w0.heap.size a4 _ c4 _ rfl _ 32 _ _ rfl (hO4.mono hE3.size) (hO3.sl.ext hx4) (by omega) (hE3.trans hx4).size ?_; intro a5 c5 w5 hO5 hg5 hB5)
    have hE5 : Ext w0 w5 := Below.trans (hE3.trans hx4) hB5
    have hle5 := hO5.le
    clear hg5 hB5
    go_wp2_with fail; (with_reducible refine (hsum_any _ _ _ _ _ hO5.sl hle5.1 (by omega)).mono ?_); rintro e w6 ⟨a6, c6, rfl, hO6, hx6⟩
    go_wp2
    go_ret
    exact ⟨_, _, rfl, by rw [HH.out]; exact hO6.mono ((hx0).trans hE5).size, (hx0).trans (hE5.trans hx6)⟩
  · have hI : ¬ (64 : Int) < (n : Int) := by omega
    have hko : Sha.keyOf key = key := by unfold Sha.keyOf; rw [if_neg (by omega)]
    rw [← hko] at hk
    clear hkl hko
    go_enter Tryz.func86, Tryz.ntmps86
    generalize Sha.keyOf key = ko at *
    go_wp2_with fail; (with_reducible refine (masked_any _ _ _ ko 54 (by decide) _ (hk) (by omega)).mono ?_); rintro e w1 ⟨a1, c1, rfl, hO1, hx1⟩
    go_wp2_with (at_builtin; refine wpList_append_by U rfl _ _ rfl w.heap.size a1 _ c1 _ rfl _ m d _ rfl hO1 (hl.ext ((Ext.refl w).trans hx1)) (by omega) hx1.size ?_; intro a2 c2 w2 hO2 hg2 hB2)
    have hE2 : Ext w w2 := Below.trans hx1 hB2
    have hle2 := hO2.le
    clear hg2 hB2
    go_wp2_with fail; (with_reducible refine (hsum_any _ _ _ _ _ hO2.sl hle2.1 (by omega)).mono ?_); rintro e w3 ⟨a3, c3, rfl, hO3, hx3⟩
    have hE3 := hE2.trans hx3
    generalize sha (mix64 ko 54 ++ l) = inner at *
    go_wp2_with fail; (with_reducible refine (masked_any _ _ _ ko 92 (by decide) _ ((hk).ext hE3) (by omega)).mono ?_); rintro e w4 ⟨a4, c4, rfl, hO4, hx4⟩
    go_wp2_with (at_builtin; refine wpList_append_by U rfl _ _ rfl w.heap.size a4 _ c4 _ rfl _ 32 _ _ rfl (hO4.mono hE3.size) (hO3.sl.ext hx4) (by omega) (hE3.trans hx4).size ?_; intro a5 c5 w5 hO5 hg5 hB5)
    have hE5 : Ext w w5 := Below.trans (hE3.trans hx4) hB5
    have hle5 := hO5.le
    clear hg5 hB5
    go_wp2_with fail; (with_reducible refine (hsum_any _ _ _ _ _ hO5.sl hle5.1 (by omega)).mono ?_); rintro e w6 ⟨a6, c6, rfl, hO6, hx6⟩
    go_wp2
    go_ret
    exact ⟨_, _, rfl, by rw [HH.out]; exact hO6.mono ((Ext.refl w).trans hE5).size, (Ext.refl w).trans (hE5.trans hx6)⟩

theorem b8_succ (i : Nat) (h : i < 255) : IntKind.u8.wrap ((i : Int) + 1) = n8 (UInt8.ofNat (i + 1)) := by
  rw [wrap_b8, n8_b8]; unfold n8; rw [UInt8.toNat_ofNat']; omega
theorem tK_len0 (key info : List UInt8) (i : Nat) : (tK key info i).length = if i = 0 then 0 else 32 := by
  cases i with
  | zero => rfl
  | succ i => rw [if_neg (by omega)]; exact hmac_length _ _

set_option maxRecDepth 100000 in
set_option maxHeartbeats 4000000 in
theorem expand_any (a b : Option Addr) (n c m d k : Nat) {kI : Int} (hkI : kI = (k : Int)) (key info : List UInt8) (w : World) (hk : Sl w a n key) (hnc : n ≤ c) (hn : n ≤ 1000000) (hl : Sl w b m info) (hm : m ≤ 800000) (hk8 : k ≤ 8160) :
    Calls Tryz.prog 68 #[.slice a n c, .slice b m d, .int .i64 kI] w (Read2 k (expandK key info k) (.int .i64 0) w) := by
  subst hkI
  obtain ⟨q, hq⟩ : ∃ q, q = (k + 31) / 32 := ⟨_, rfl⟩
  have HW := Lib.hid (show expandK key info k = (outK key info q).take k by rw [hq]; rfl)
  have hq1 : 32 * q < k + 32 := by omega
  have hq2 : k ≤ 32 * q := by omega
  have hI : ¬ (8160 : Int) < (k : Int) := by omega
  clear hq
  go_enter Tryz.func68, Tryz.ntmps68
  go_wp2
  go_loopw [8, 9, 10] (fun v8 v9 v10 wr => ∃ (i ll : Nat) (so la : Option Addr) (co lc : Nat), i ≤ q ∧ v10 = .int .i64 ((i + 1 : Nat) : Int) ∧ v8 = .slice so (32 * i) co ∧ v9 = .slice la ll lc ∧ ll ≤ 32 ∧ Own wr w.heap.size so (32 * i) co (outK key info i) ∧ Own wr w.heap.size la ll lc (tK key info i) ∧ (∀ g, (Value.slice so (32 * i) co).ownBlock = some g → (Value.slice la ll lc).ownBlock ≠ some g) ∧ Ext w wr) (fun _ _ v10 _ => q + 1 - (intOf v10).toNat)
  case atStart => exact ⟨0, 0, none, none, 0, 0, by omega, rfl, rfl, rfl, by omega, Own.nil _ _, Own.nil _ _, (fun g h => by cases h), Ext.refl _⟩
  case round =>
    obtain ⟨i, ll, so, la, co, lc, hi, rfl, rfl, rfl, hll, hO, hL, hD, hx⟩ := hrel
    by_cases hlt : i < q
    · have hlt2 : 32 * (i : Int) < (k : Int) := by omega
      have hb8 := b8_succ i (by omega)
      have HT := Lib.hid (show tK key info (i + 1) = hmac key (tK key info i ++ info ++ [UInt8.ofNat (i + 1)]) from rfl)
      have HO := Lib.hid (show outK key info (i + 1) = outK key info i ++ tK key info (i + 1) from rfl)
      obtain ⟨bb, hbb⟩ : ∃ bb, bb = UInt8.ofNat (i + 1) := ⟨_, rfl⟩
      rw [← hbb] at hb8 HT
      clear hbb
      go_wp2_with (first
        | (at_builtin; refine wpList_append_byL U rfl _ _ rfl w.heap.size la ll lc _ rfl _ m d _ rfl hL (hl.ext hx) (by omega) hx.size ?_; intro a2 c2 w2 hL2 hg2 hB2 hD2)
        | (at_builtin; refine wpList_append_byL U rfl _ _ rfl w.heap.size a2 (ll + m) c2 _ rfl _ 1 1 _ rfl (hL2.ext (Ext.of_alloc _ _)) (sl_new1 _ bb _) (by omega) (Nat.le_trans (Nat.le_trans hx.size hB2.size) (by simp)) ?_; intro a3 c3 w3 hL3 hg3 hB3 hD3)
        | fail)
      have hO2 := hO.grown hg2 hD
      have hlo := own_lt hO.2
      have hO3 := (hO2.ext (Ext.of_alloc _ (.cells #[.int .u8 (n8 bb)] 5))).grown hg3 (fun g hg he => by
        rcases hD2 with h | h
        · rw [h] at he; exact hD g hg he
        · rw [h] at he; injection he with he; have := (hlo g hg).2; omega)
      have hE3 : Ext w w3 := Below.trans (b := w2.alloc _) (Ext.alloc (Below.trans hx hB2) _) hB3
      have hle3 := hL3.le
      clear hB2 hB3 hg2 hg3 hO hO2
      (with_reducible refine (hmac_any _ _ _ _ _ _ _ _ _ (hk.ext hE3) hnc hn hL3.sl (by omega)).mono ?_)
      rintro e w4 ⟨a4, c4, rfl, hO4, hx4⟩
      rw [← HT.out] at hO4
      go_wp2_with (first
        | (at_builtin; refine wpList_append_byL U rfl _ _ rfl w.heap.size so (32 * i) co _ rfl _ 32 _ _ rfl (hO3.ext hx4) hO4.sl (by omega) (hE3.trans hx4).size ?_; intro a5 c5 w5 hO5 hg5 hB5 hD5)
        | fail)
      have hl3 := own_lt hO3.2
      have hl4 := own_lt hO4.2
      have hO4' := (hO4.mono hE3.size).grown hg5 (fun g hg he => by have := (hl4 g hg).1; have := (hl3 g he).2; omega)
      go_roundw
      case rel =>
        refine ⟨i + 1, 32, a5, a4, c5, c4, by omega, by go_num, rfl, rfl, by omega, by rw [HO.out]; exact hO5, hO4', ?_, Below.trans (hE3.trans hx4) hB5⟩
        intro g hg he
        rcases hD5 with h | h
        · have hg : (Value.slice so (32 * i) co).ownBlock = some g := h ▸ hg
          have := (hl4 g he).1; have := (hl3 g hg).2; omega
        · have hg : some w4.heap.size = some g := h ▸ hg
          injection hg with hg
          have := (hl4 g he).2; omega
      case measure => simp [intOf]; omega
    · obtain rfl : i = q := by omega
      have hle := hO.le
      have hlt2 : ¬ 32 * (i : Int) < (k : Int) := by omega
      have hkc : (k : Int) ≤ (co : Int) := by omega
      go_wp2
      go_ret2
      exact ⟨_, _, rfl, by rw [HW.out]; exact hO.sl.take k (by omega), Nat.le_refl _, hx⟩
end Go.Proofs.YtbfgeokngekdmaaGreat
