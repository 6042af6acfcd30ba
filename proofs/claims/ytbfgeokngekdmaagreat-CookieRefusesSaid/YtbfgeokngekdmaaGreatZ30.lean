/- Lemmas of this claim, several texts joined. -/
import Derived.ArgAppend
import Derived.Test.YtbfgeokngekdmaaGreatZ11
import Derived.Test.YtbfgeokngekdmaaGreatZ29
set_option linter.unusedVariables false
set_option linter.unusedSimpArgs false
/- The walks of layer 3: labels. -/
namespace Go.Sec
open Go.RowKit
/-- Bytes that the call hands back: they read so, and only memory was made. -/
def Rdl (n : Nat) (l : List UInt8) (w : World) (e : Ending) (w' : World) : Prop := ∃ a c, e = .returned (.slice a n c) ∧ Sl w' a n l ∧ n ≤ c ∧ Ext w w'
theorem setCells_fr {g : Nat} {T : TypeId} {fr : Nat × Nat} (cs : List Value) : ∀ (o : Nat) (w : World) (vs : List Value), w.heap[g]? = some (.cells vs.toArray T fr) → o + cs.length ≤ vs.length →
    (w.setCells g o cs).heap[g]? = some (.cells (vs.take o ++ cs ++ vs.drop (o + cs.length)).toArray T fr) := by
  induction cs with
  | nil => intro o w vs h _; simpa [World.setCells] using h
  | cons c r ih =>
    intro o w vs h hl
    simp only [List.length_cons] at hl
    have h1 : (w.setCell ⟨g, o, none⟩ c).heap[g]? = some (.cells (vs.set o c).toArray T fr) := by
      simp [World.setCell, Array.getElem?_modify, h]
    have := ih (o + 1) _ _ h1 (by simp; omega)
    simp only [World.setCells]
    have e : (vs.set o c).take (o + 1) ++ r ++ (vs.set o c).drop (o + 1 + r.length) = vs.take o ++ (c :: r) ++ vs.drop (o + (c :: r).length) := by
      have h1 : (vs.set o c).take (o + 1) = vs.take o ++ [c] := by
        rw [List.take_succ_eq_append_getElem (by simp; omega), List.take_set_of_le (Nat.le_refl _)]
        simp
      have h2 : (vs.set o c).drop (o + 1 + r.length) = vs.drop (o + 1 + r.length) := by
        rw [List.drop_set_of_lt (by omega)]
      rw [h1, h2]
      simp [Nat.add_assoc, Nat.add_comm 1]
    rwa [e] at this
/-- append of bytes onto a text that was turned to bytes. -/
theorem wpList_append_str {P : Program} (U : U8 P) {w : World} {ops : Array Oper} {rest : List Oper} {o : Oper} {a : Act} {Q : Exit → Act → World → Prop} (hgd : o.guard = none) (s x : Operand)
    (ho : o.op = .call { callee := .builtin .append, args := #[s, x], argTypes := #[27, 27] })
    (W : World) (g n cap : Nat) (l : List UInt8) (T : TypeId) (fr : Nat × Nat) (vs : List Value) (hs : a.eval s = .slice (some ⟨g, 0, none⟩) n cap) (hg : w.heap[g]? = some (.cells vs.toArray T fr)) (hfr : fr.1 = vs.length) (hcap : vs.length = cap) (hnc : n ≤ cap) (hv : vs.take n = l.map u8v) (hln : l.length = n)
    (A : Option Addr) (m c : Nat) (l' : List UInt8) (hx : a.eval x = .slice A m c) (hsl : Sl w A m l') (hm : 0 < m) (hlen : n + m ≤ 140737488355328) (hE : Ext W w) (hgW : W.heap.size ≤ g)
    (h : ∀ sa sc w', Sl w' sa (n + m) (l ++ l') → n + m ≤ sc → Ext W w' → wpList P ops Q rest (a.put o.dst (.slice sa (n + m) sc)) w') :
    wpList P ops Q (o :: rest) a w := by
  obtain ⟨i, hi, hz, hsz, hb⟩ := U.info
  obtain ⟨b0, o0, rfl, hb0, _⟩ := hsl.at 0 hm
  have hcell : ∀ j, w.cell? ⟨g, j, none⟩ = vs[j]? := fun j => by rw [cell_of_row w g j _ T fr hg]; simp
  have hrd : ∀ j u, (l'.map u8v)[j]? = some u → w.cell? ⟨b0, o0 + j, none⟩ = some u := by
    rcases hsl.by' with h0 | ⟨b1, o1, he, _, hc⟩
    · intro j u hj; rw [h0] at hj; simp at hj
    · injection he with he
      injection he with e1 e2
      subst e1 e2
      exact hc
  refine wpList_append_arg w hgd s x 27 ho 5 i _ 1 1 U.sl hi hz hsz hb rfl (by omega) g 0 n cap (l.map u8v) hs (by simp [hln]) ?_ ⟨b0, o0, none⟩ m c (l'.map u8v) hx (by simp [hsl.len]) (fun j u hj => by rw [addr_add]; exact hrd j u hj) (one_u8 _) ?_ (by simp only [maxLen]; omega) (by omega) ?_ ?_
  · intro j u hj
    rw [Nat.zero_add, hcell]
    rw [← hv, List.getElem?_take] at hj
    split at hj
    · exact hj
    · cases hj
  · intro hr j hj
    rw [List.length_map, hsl.len] at hj
    rw [hcell, Nat.zero_add, Nat.mul_one]
    refine ⟨by simp; omega, ?_⟩
    simp only [World.frozen?, hg]
    simp [hfr]; omega
  · intro hr
    have hb := setCells_fr (l'.map u8v) (0 + n * 1) w vs hg (by simp [hsl.len]; omega)
    refine h _ _ _ ⟨by simp [hln, hsl.len], ?_⟩ hr (Below.trans hE ((setCells_mut (l'.map u8v) _ w).below hgW hE.size))
    refine .inr ⟨g, 0, rfl, (Array.getElem?_eq_some_iff.1 hb).1, fun k v hk => ?_⟩
    rw [Nat.zero_add]
    have hb2 := hb
    rw [Nat.zero_add (n * 1)] at hb2
    rw [Nat.zero_add, cell_of_row _ g k _ T fr hb2]
    rw [Nat.mul_one, hv, ← List.map_append]
    rw [List.getElem?_toArray, List.getElem?_append_left (by have := (List.getElem?_eq_some_iff.1 hk).1; omega)]
    exact hk
  · intro hr v' w' hown hgr
    obtain ⟨sa, sc, rfl⟩ := own_form hown
    have hO : Own w' w.heap.size sa (n + m) sc (l ++ l') := ⟨by simp [hln, hsl.len], by rw [List.map_append]; exact hown⟩
    exact h sa sc w' hO.sl hO.le.1 (Below.trans hE ⟨hgr.os, hgr.tape, hgr.output, hgr.size, fun k hk => hgr.block k (by have := hE.size; omega) (by simp)⟩)
theorem str_blk (w : World) (s : ByteArray) : ∃ vs : List Value, (w.ext (strMore w s)).heap[w.heap.size]? = some (.cells vs.toArray 5 (vs.length, vs.length + 1)) ∧ vs.length = strCap w s ∧ s.size ≤ strCap w s ∧ vs.take s.size = s.data.toList.map u8v := by
  refine ⟨(Lib.bytesCells w 5 s).toList, ?_, ?_, ?_, ?_⟩
  · rw [← str_world, Lib.bytesWorld_at_new]
    simp
  · have := grownCap_ge w s.size 0 5
    have e : s.data.size = s.size := rfl
    simp [Lib.bytesCells, strCap, e]; omega
  · exact grownCap_ge w s.size 0 5
  · have e : s.data.size = s.size := rfl
    simp only [Lib.bytesCells, Array.toList_append, Array.toList_map]
    rw [List.take_append_of_le_length (by simp [e]), List.take_of_length_le (by simp [e])]
    rfl
end Go.Sec
namespace Go.Proofs.YtbfgeokngekdmaaGreat
open Go.RowKit Go.Sec Go.Oct Go.Sha BigFrame

end Go.Proofs.YtbfgeokngekdmaaGreat

/- The walks of layer 3 of the document. -/
namespace Go.Sec
open Go.RowKit
theorem bss5 {w : World} {a1 a2 a3 a4 a5 : Option Addr} {n1 n2 n3 n4 n5 c1 c2 c3 c4 c5 : Nat} {l1 l2 l3 l4 l5 : List UInt8} (h1 : Sl w a1 n1 l1) (h2 : Sl w a2 n2 l2) (h3 : Sl w a3 n3 l3) (h4 : Sl w a4 n4 l4) (h5 : Sl w a5 n5 l5) (t : TypeId) :
    Bss (w.alloc (.cells #[.slice a1 n1 c1, .slice a2 n2 c2, .slice a3 n3 c3, .slice a4 n4 c4, .slice a5 n5 c5] t)) (some ⟨w.heap.size, 0, none⟩) 5 [l1, l2, l3, l4, l5] := by
  have hx := Ext.of_alloc w (.cells #[.slice a1 n1 c1, .slice a2 n2 c2, .slice a3 n3 c3, .slice a4 n4 c4, .slice a5 n5 c5] t)
  refine ⟨rfl, .inr ⟨_, 0, rfl, by simp, fun k hk => ?_⟩⟩
  match k, hk with
  | 0, _ => exact ⟨a1, n1, c1, by simp [go_sem], h1.ext hx⟩
  | 1, _ => exact ⟨a2, n2, c2, by simp [go_sem], h2.ext hx⟩
  | 2, _ => exact ⟨a3, n3, c3, by simp [go_sem], h3.ext hx⟩
  | 3, _ => exact ⟨a4, n4, c4, by simp [go_sem], h4.ext hx⟩
  | 4, _ => exact ⟨a5, n5, c5, by simp [go_sem], h5.ext hx⟩
theorem sl_strB (w : World) (l : List UInt8) : Sl (w.ext (strMore w ⟨l.toArray⟩)) (some ⟨w.heap.size, 0, none⟩) l.length l := by
  have := sl_str w ⟨l.toArray⟩
  simpa [ByteArray.size] using this
end Go.Sec
namespace Go.Proofs.YtbfgeokngekdmaaGreat
open Go.RowKit Go.Sec Go.Oct Go.Sha BigFrame

set_option maxRecDepth 100000 in
set_option maxHeartbeats 4000000 in
theorem rmixed_any (a : Option Addr) (n c : Nat) (key : List UInt8) (x : UInt8) {xI : Int} (hx : xI = n8 x) (w : World) (h : Sl w a n key) (hnc : n ≤ c) (hn : n ≤ 1000000) :
    Calls Tryz.prog 71 #[.slice a n c, .int .u8 xI] w (Fresh 64 (mix64 (Sha.keyOf key) x) w) := by
  subst hx
  have hkl := h.len
  have hkol := keyOf_length key
  have hmk := fun W => run_make_by U 64 64 (by omega) (by omega) W
  simp only [Int.cast_ofNat_Int] at hmk
  have hz : (List.replicate 64 (0 : UInt8)).length = 64 := List.length_replicate
  obtain ⟨zs, hzs⟩ : ∃ zs, Hid (zs = List.replicate 64 (0 : UInt8)) := ⟨_, Lib.hid rfl⟩
  rw [← hzs.out] at hz
  have hg0 : ∀ k, zs.getD k 0 = 0 := fun k => by
    rw [hzs.out, List.getD_eq_getElem?_getD, List.getElem?_replicate]; split <;> rfl
  by_cases h64 : 64 < n
  · have hI : (64 : Int) < (n : Int) := by omega
    have hko := Lib.hid (show Sha.keyOf key = sha key by unfold Sha.keyOf; rw [if_pos (by omega)])
    clear hkl
    go_enter Tryz.func71, Tryz.ntmps71
    go_wp2_with fail; (with_reducible refine (sum_any _ _ _ _ _ h hnc hn).mono ?_); rintro e w0 ⟨a0, c0, rfl, hO0, hx0⟩
    rw [← hko.out] at hO0
    clear hko
    have hS0 := hO0.sl
    clear hO0
    generalize Sha.keyOf key = ko at *
    have hkN := (hS0).len
    go_wp2
    have hB0 := blk_zeros8 w0 64
    rw [← hzs.out] at hB0
    go_loopw [6] (fun v6 wr => ∃ k : Nat, k ≤ 64 ∧ v6 = .int .i64 k ∧ Blk wr w0.heap.size 5 ((upTo (fun i => b' ko i ^^^ x) zs k).map u8v) ∧ Ext w0 wr) (fun v6 _ => 64 - (intOf v6).toNat)
    case atStart => exact ⟨0, by omega, rfl, by rw [upTo_zero]; exact hB0, Ext.of_alloc _ _⟩
    case round =>
      obtain ⟨k, hk, rfl, hBr, hxr⟩ := hrel
      by_cases hlt : k < 64
      · have hc := hBr.at_upTo k (Nat.le_refl _) (by omega)
        rw [hg0 k] at hc
        have hf := hBr.free k
        haveI := hBr.blt
        have hU := upTo_set (fun i => b' ko i ^^^ x) zs k (by omega)
        have k0 : (0 : Int) ≤ (k : Int) := by omega
        have k1 : (k : Int) < 64 := by omega
        by_cases hkn : k < 32
        · obtain ⟨b0, o0, hae, hb0, hcell⟩ := ((hS0).ext hxr).atD k hkn
          have hbk : ko.getD k 0 = b' ko k := rfl
          rw [hbk] at hcell
          subst hae
          have k2 : (k : Int) < (32 : Int) := by omega
          have hne : b0 ≠ w0.heap.size := by
            have := (hS0).lt (by omega) b0 o0 rfl
            omega
          have hB2 := (hBr.set k (u8v (b' ko k))).set k (u8v (b' ko k ^^^ x))
          rw [List.set_set, ← List.map_set, hU] at hB2
          generalize b' ko k = y at *
          clear hU
          go_wp2
          go_roundw
          case rel => exact ⟨k + 1, by omega, by go_num, hB2, Ext.setCell (Ext.setCell hxr (by simp) _) (by simp) _⟩
          case measure => simp [intOf]; omega
        · have k2 : ¬ (k : Int) < (32 : Int) := by omega
          have hb0 : b' ko k = 0 := by unfold b'; rw [List.getD_eq_getElem?_getD, List.getElem?_eq_none (by omega)]; rfl
          have hB2 := hBr.set k (u8v (0 ^^^ x))
          rw [← List.map_set] at hB2
          simp only [hb0] at hU
          rw [hU, UInt8.zero_xor] at hB2
          clear hU
          go_wp2
          go_roundw
          case rel => exact ⟨k + 1, by omega, by go_num, hB2, Ext.setCell hxr (by simp) _⟩
          case measure => simp [intOf]; omega
      · obtain rfl : k = 64 := (by omega); (try simp only [Nat.reduceAdd, Nat.reduceMul, Nat.reduceDiv, Nat.reduceSub, Int.cast_ofNat_Int])
        have hO := Own.of_blk (base := w0.heap.size) hBr (Nat.le_refl _) (by rw [upTo_length _ _ _ (by omega), hz]; decide)
        rw [upTo_all _ _ _ hz, show ((List.range 64).map fun i => b' ko i ^^^ x).length = 64 by simp] at hO
        go_wp2
        go_ret
        exact ⟨_, _, rfl, hO.mono (hx0).size, (hx0).trans hxr⟩
  · have hI : ¬ (64 : Int) < (n : Int) := by omega
    have hko : Sha.keyOf key = key := by unfold Sha.keyOf; rw [if_neg (by omega)]
    rw [← hko] at h
    clear hkl hko
    go_enter Tryz.func71, Tryz.ntmps71
    generalize Sha.keyOf key = ko at *
    have hkN := (h).len
    go_wp2
    have hB0 := blk_zeros8 w 64
    rw [← hzs.out] at hB0
    go_loopw [6] (fun v6 wr => ∃ k : Nat, k ≤ 64 ∧ v6 = .int .i64 k ∧ Blk wr w.heap.size 5 ((upTo (fun i => b' ko i ^^^ x) zs k).map u8v) ∧ Ext w wr) (fun v6 _ => 64 - (intOf v6).toNat)
    case atStart => exact ⟨0, by omega, rfl, by rw [upTo_zero]; exact hB0, Ext.of_alloc _ _⟩
    case round =>
      obtain ⟨k, hk, rfl, hBr, hxr⟩ := hrel
      by_cases hlt : k < 64
      · have hc := hBr.at_upTo k (Nat.le_refl _) (by omega)
        rw [hg0 k] at hc
        have hf := hBr.free k
        haveI := hBr.blt
        have hU := upTo_set (fun i => b' ko i ^^^ x) zs k (by omega)
        have k0 : (0 : Int) ≤ (k : Int) := by omega
        have k1 : (k : Int) < 64 := by omega
        by_cases hkn : k < n
        · obtain ⟨b0, o0, hae, hb0, hcell⟩ := ((h).ext hxr).atD k hkn
          have hbk : ko.getD k 0 = b' ko k := rfl
          rw [hbk] at hcell
          subst hae
          have k2 : (k : Int) < (n : Int) := by omega
          have hne : b0 ≠ w.heap.size := by
            have := (h).lt (by omega) b0 o0 rfl
            omega
          have hB2 := (hBr.set k (u8v (b' ko k))).set k (u8v (b' ko k ^^^ x))
          rw [List.set_set, ← List.map_set, hU] at hB2
          generalize b' ko k = y at *
          clear hU
          go_wp2
          go_roundw
          case rel => exact ⟨k + 1, by omega, by go_num, hB2, Ext.setCell (Ext.setCell hxr (by simp) _) (by simp) _⟩
          case measure => simp [intOf]; omega
        · have k2 : ¬ (k : Int) < (n : Int) := by omega
          have hb0 : b' ko k = 0 := by unfold b'; rw [List.getD_eq_getElem?_getD, List.getElem?_eq_none (by omega)]; rfl
          have hB2 := hBr.set k (u8v (0 ^^^ x))
          rw [← List.map_set] at hB2
          simp only [hb0] at hU
          rw [hU, UInt8.zero_xor] at hB2
          clear hU
          go_wp2
          go_roundw
          case rel => exact ⟨k + 1, by omega, by go_num, hB2, Ext.setCell hxr (by simp) _⟩
          case measure => simp [intOf]; omega
      · obtain rfl : k = 64 := (by omega); (try simp only [Nat.reduceAdd, Nat.reduceMul, Nat.reduceDiv, Nat.reduceSub, Int.cast_ofNat_Int])
        have hO := Own.of_blk (base := w.heap.size) hBr (Nat.le_refl _) (by rw [upTo_length _ _ _ (by omega), hz]; decide)
        rw [upTo_all _ _ _ hz, show ((List.range 64).map fun i => b' ko i ^^^ x).length = 64 by simp] at hO
        go_wp2
        go_ret
        exact ⟨_, _, rfl, hO.mono (Ext.refl w).size, (Ext.refl w).trans hxr⟩

set_option maxRecDepth 100000 in
set_option maxHeartbeats 4000000 in
theorem rhmac_any (a b : Option Addr) (n c m d : Nat) (key l : List UInt8) (w : World) (hk : Sl w a n key) (hnc : n ≤ c) (hn : n ≤ 1000000) (hl : Sl w b m l) (hm : m ≤ 900000) :
    Calls Tryz.prog 56 #[.slice a n c, .slice b m d] w (Fresh 32 (hmac key l) w) := by
  have HH := Lib.hid (show hmac key l = sha (mix64 (Sha.keyOf key) 92 ++ sha (mix64 (Sha.keyOf key) 54 ++ l)) from rfl)
  have hl1 : ∀ x, (mix64 (Sha.keyOf key) x).length = 64 := fun x => mix64_length _ _
  have hll := hl.len
  go_enter Tryz.func56, Tryz.ntmps56
  go_wp2_with fail; (with_reducible refine (rmixed_any _ _ _ key 92 (by decide) _ hk hnc hn).mono ?_); rintro e w1 ⟨a1, c1, rfl, hO1, hx1⟩
  go_wp2_with fail; (with_reducible refine (rmixed_any _ _ _ key 54 (by decide) _ (hk.ext hx1) hnc hn).mono ?_); rintro e w2 ⟨a2, c2, rfl, hO2, hx2⟩
  have k1 := hl1 92
  have k2 := hl1 54
  generalize mix64 (Sha.keyOf key) 92 = m1 at *
  generalize mix64 (Sha.keyOf key) 54 = m2 at *
  have hx12 := hx1.trans hx2
  go_wp2_with fail; (with_reducible refine (join_any _ _ _ _ _ (bss2 hO2.sl (hl.ext hx12) _) (by omega) (64 + m) (by simp [joinL2, k2, hll]) (by omega)).mono ?_); rintro e w3 ⟨a3, c3, rfl, hO3, hx3⟩
  rw [joinL2] at hO3
  have hle3 := hO3.le
  have hE3 : Ext w w3 := (Ext.alloc hx12 _).trans hx3
  have hE13 : Ext w1 w3 := (Ext.alloc hx2 _).trans hx3
  go_wp2_with fail; (with_reducible refine (sum_any _ _ _ _ _ hO3.sl hle3.1 (by omega)).mono ?_); rintro e w4 ⟨a4, c4, rfl, hO4, hx4⟩
  have k3 : (sha (m2 ++ l)).length = 32 := sha_length _
  generalize sha (m2 ++ l) = inner at *
  go_wp2_with fail; (with_reducible refine (join_any _ _ _ _ _ (bss2 (hO1.sl.ext (hE13.trans hx4)) hO4.sl _) (by omega) 96 (by simp [joinL2, k1, k3]) (by omega)).mono ?_); rintro e w5 ⟨a5, c5, rfl, hO5, hx5⟩
  rw [joinL2] at hO5
  have hle5 := hO5.le
  have hE5 : Ext w w5 := (Ext.alloc (hE3.trans hx4) _).trans hx5
  go_wp2_with fail; (with_reducible refine (sum_any _ _ _ _ _ hO5.sl hle5.1 (by omega)).mono ?_); rintro e w6 ⟨a6, c6, rfl, hO6, hx6⟩
  go_wp2
  go_ret
  exact ⟨_, _, rfl, by rw [HH.out]; exact hO6.mono hE5.size, hE5.trans hx6⟩

set_option maxRecDepth 100000 in
set_option maxHeartbeats 4000000 in
theorem rexpand_any (a b : Option Addr) (n c m d k : Nat) {kI : Int} (hkI : kI = (k : Int)) (key info : List UInt8) (w : World) (hk : Sl w a n key) (hnc : n ≤ c) (hn : n ≤ 1000000) (hl : Sl w b m info) (hm : m ≤ 800000) (hk8 : k ≤ 8160) :
    Calls Tryz.prog 36 #[.slice a n c, .slice b m d, .int .i64 kI] w (Read2 k (expandK key info k) (.int .i64 0) w) := by
  subst hkI
  obtain ⟨q, hq⟩ : ∃ q, q = (k + 31) / 32 := ⟨_, rfl⟩
  have HW := Lib.hid (show expandK key info k = (outK key info q).take k by rw [hq]; rfl)
  have hq1 : 32 * q < k + 32 := by omega
  have hq2 : k ≤ 32 * q := by omega
  have hI : ¬ (8160 : Int) < (k : Int) := by omega
  have hll := hl.len
  clear hq
  go_enter Tryz.func36, Tryz.ntmps36
  go_wp2
  go_loopw [8, 9, 10] (fun v8 v9 v10 wr => ∃ (i ll : Nat) (so la : Option Addr) (co lc : Nat), i ≤ q ∧ v10 = .int .i64 ((i + 1 : Nat) : Int) ∧ v8 = .slice so (32 * i) co ∧ v9 = .slice la ll lc ∧ ll ≤ 32 ∧ Own wr w.heap.size so (32 * i) co (outK key info i) ∧ Sl wr la ll (tK key info i) ∧ Off la (Value.slice so (32 * i) co).ownBlock ∧ Ext w wr) (fun _ _ v10 _ => q + 1 - (intOf v10).toNat)
  case atStart => exact ⟨0, 0, _, _, 0, 0, by omega, rfl, rfl, rfl, by omega, (own_empty _).ext (Ext.of_alloc _ _), Sl.nil _ _, Off.of (by simp), (by repeat (first | (with_reducible first | exact Ext.refl _ | assumption | apply Ext.alloc | apply Ext.ext | apply Ext.drew | refine Ext.setCell ?_ ?_ _) | (focus (simp [go_sem]; done))))⟩
  case round =>
    obtain ⟨i, ll, so, la, co, lc, hi, rfl, rfl, rfl, hll2, hO, hL, hD, hx⟩ := hrel
    have hlk := hL.len
    by_cases hlt : i < q
    · have hlt2 : 32 * (i : Int) < (k : Int) := by omega
      have hb8 := b8_succ i (by omega)
      have HT := Lib.hid (show tK key info (i + 1) = hmac key (tK key info i ++ info ++ [UInt8.ofNat (i + 1)]) from rfl)
      have HO := Lib.hid (show outK key info (i + 1) = outK key info i ++ tK key info (i + 1) from rfl)
      obtain ⟨bb, hbb⟩ : ∃ bb, bb = UInt8.ofNat (i + 1) := ⟨_, rfl⟩
      rw [← hbb] at hb8 HT
      clear hbb
      have hx1 : Ext wr (wr.alloc (.cells #[.int .u8 (n8 bb)] 5)) := Ext.of_alloc _ _
      have hB3 := bss3 (c1 := lc) (c2 := d) (c3 := 1) (hL.ext hx1) ((hl.ext hx).ext hx1) (sl_new1 wr bb 5) 27
      rw [World.size_alloc] at hB3
      go_wp2_with fail; (with_reducible refine (join_any _ _ _ _ _ hB3 (by omega) (ll + m + 1) (by simp [joinL3, hlk, hll]; omega) (by omega)).mono ?_); rintro e w3 ⟨a3, c3, rfl, hO3, hx3⟩
      rw [joinL3, ← List.append_assoc] at hO3
      have hle3 := hO3.le
      have hE3 : Ext wr w3 := (Ext.alloc hx1 _).trans hx3
      go_wp2_with fail; (with_reducible refine (rhmac_any _ _ _ _ _ _ _ _ _ (hk.ext (hx.trans hE3)) hnc hn hO3.sl (by omega)).mono ?_); rintro e w4 ⟨a4, c4, rfl, hO4, hx4⟩
      rw [← HT.out] at hO4
      have hE4 := hE3.trans hx4
      go_wp2_with (first
        | (at_builtin; refine wpList_append_byL U rfl _ _ rfl w.heap.size so (32 * i) co _ rfl _ 32 _ _ rfl (hO.ext hE4) hO4.sl (by omega) (hx.trans hE4).size ?_; intro a5 c5 w5 hO5 hg5 hB5 hD5)
        | fail)
      have hl3 := own_lt hO.2
      have hl4 := own_lt hO4.2
      have hge := hO4.ge (by omega)
      have hlt4 := hO4.sl.lt (by omega)
      have hof : Off a4 (Value.slice so (32 * i) co).ownBlock := .gt (N := w3.heap.size) hge (fun g e => by have := (hl3 g e).2; have := hE3.size; omega)
      go_roundw
      case rel =>
        refine ⟨i + 1, 32, a5, a4, c5, c4, by omega, by go_num, rfl, rfl, by omega, by rw [HO.out]; exact hO5, hO4.sl.grown hg5 hof, ?_, Below.trans (hx.trans hE4) hB5⟩
        exact hof.app hlt4 hD5
      case measure => simp [intOf]; omega
    · obtain rfl : i = q := by omega
      have hle := hO.le
      have hlt2 : ¬ 32 * (i : Int) < (k : Int) := by omega
      have hkc : (k : Int) ≤ (co : Int) := by omega
      go_wp2
      go_ret2
      exact ⟨_, _, rfl, by rw [HW.out]; exact hO.sl.take k (by omega), by omega, hx⟩

end Go.Proofs.YtbfgeokngekdmaaGreat
