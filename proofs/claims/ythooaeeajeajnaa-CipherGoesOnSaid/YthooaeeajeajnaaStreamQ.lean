/- The stream, byte by byte. No program. -/
import Derived.Test.YthooaeeajeajnaaStream
namespace Go.Aes
def nxtN : Nat → List UInt8 → List UInt8
  | 0, c => c
  | k + 1, c => nxt (nxtN k c)
theorem nxtN_add (j k : Nat) (c : List UInt8) : nxtN (j + k) c = nxtN k (nxtN j c) := by
  induction k with
  | zero => rfl
  | succ k ih => rw [← Nat.add_assoc, nxtN, ih, nxtN]
theorem nxtN_length (k : Nat) (c : List UInt8) : (nxtN k c).length = c.length := by
  induction k with
  | zero => rfl
  | succ k ih => rw [nxtN, nxt_length, ih]
def strF (ks ctr l : List UInt8) (i : Nat) : UInt8 := at' l i ^^^ at' (enc ks (nxtN (i / 16) ctr)) (i % 16)
theorem xorAt_at (l : List UInt8) (o : Nat) (k : List UInt8) (j : Nat) (hj : j < l.length) : at' (xorAt l o k) j = if o ≤ j ∧ j < o + 16 then at' l j ^^^ at' k (j - o) else at' l j := by
  rw [at_get _ _ (by rw [xorAt_length]; exact hj)]
  simp [xorAt]
theorem strAcc_range (ks ctr l : List UInt8) (N : Nat) : (strAcc ks ctr l (List.range N)).2 = nxtN N ctr ∧ (strAcc ks ctr l (List.range N)).1.length = l.length ∧ ∀ i, i < l.length → at' (strAcc ks ctr l (List.range N)).1 i = if i < 16 * N then strF ks ctr l i else at' l i := by
  induction N with
  | zero => exact ⟨rfl, rfl, fun i _ => by rw [if_neg (by omega)]; rfl⟩
  | succ N ih =>
    obtain ⟨h1, h2, h3⟩ := ih
    rw [List.range_succ, strAcc_snoc]
    unfold strStep
    refine ⟨by rw [h1, nxtN], by rw [xorAt_length, h2], fun i hi => ?_⟩
    simp only
    rw [xorAt_at _ _ _ _ (by rw [h2]; exact hi), h3 i hi, h1]
    by_cases hc : 16 * N ≤ i ∧ i < 16 * N + 16
    · rw [if_pos hc, if_neg (by omega), if_pos (by omega)]
      unfold strF
      rw [show i / 16 = N by omega, show i % 16 = i - 16 * N by omega]
    · rw [if_neg hc]
      by_cases h : i < 16 * N
      · rw [if_pos h, if_pos (by omega)]
      · rw [if_neg h, if_neg (by omega)]
theorem streamK_length (ks ctr l : List UInt8) : (streamK ks ctr l).length = l.length := (strAcc_range ks ctr l _).2.1
theorem streamK_at (ks ctr l : List UInt8) (i : Nat) (hi : i < l.length) : at' (streamK ks ctr l) i = strF ks ctr l i := by
  unfold streamK
  rw [(strAcc_range ks ctr l _).2.2 i hi, if_pos (by omega)]
theorem ext_at {l m : List UInt8} (hl : l.length = m.length) (h : ∀ i, i < m.length → at' l i = at' m i) : l = m := by
  apply List.ext_getElem hl
  intro i h1 h2
  have := h i h2
  rwa [at_get _ _ h1, at_get _ _ h2] at this
theorem streamK_undo (ks ctr l : List UInt8) : streamK ks ctr (streamK ks ctr l) = l := by
  refine ext_at (by rw [streamK_length, streamK_length]) fun i hi => ?_
  rw [streamK_at _ _ _ _ (by rw [streamK_length]; exact hi)]
  unfold strF
  rw [streamK_at _ _ _ _ hi]
  unfold strF
  rw [UInt8.xor_assoc, UInt8.xor_self, UInt8.xor_zero]
theorem streamK_later (ks ctr l : List UInt8) (n : Nat) (hn : 16 * n ≤ l.length) : (streamK ks ctr l).drop (16 * n) = streamK ks (nxtN n ctr) (l.drop (16 * n)) := by
  refine ext_at (by rw [streamK_length, List.length_drop, streamK_length, List.length_drop]) fun i hi => ?_
  rw [streamK_length, List.length_drop] at hi
  have hd : ∀ (m : List UInt8) j, at' (m.drop (16 * n)) j = at' m (16 * n + j) := fun m j => by simp [at', List.getD]
  rw [hd, streamK_at _ _ _ _ (by omega), streamK_at _ _ _ _ (by rw [List.length_drop]; omega)]
  unfold strF
  rw [hd, ← nxtN_add, show (16 * n + i) / 16 = n + i / 16 by omega, show (16 * n + i) % 16 = i % 16 by omega]
end Go.Aes
