/- CMAC: messages of one block, and Double as a linear function. No program. -/
import Derived.Test.YthooaeeajeajnaaCmacP
namespace Go.Aes
theorem xor16_comm (l m : List UInt8) : xor16 l m = xor16 m l := by
  unfold xor16
  congr 1
  funext i
  exact xor_c _ _
theorem xor16_inj2 {l m k : List UInt8} (hl : l.length = 16) (hm : m.length = 16) (h : xor16 k l = xor16 k m) : l = m := by
  rw [xor16_comm k l, xor16_comm k m] at h
  exact xor16_inj hl hm h
theorem xor16_length (l m : List UInt8) : (xor16 l m).length = 16 := by simp [xor16]
theorem fill_inj {l m : List UInt8} (hlm : l.length = m.length) (h : fill l = fill m) : l = m := by
  unfold fill at h
  rw [List.append_assoc, List.append_assoc] at h
  exact List.append_inj_left h hlm
theorem macW_one (ks wh pt : List UInt8) {l m : List UInt8} (hlm : l.length = m.length) (h16 : l.length ≤ 16) (h : macW ks wh pt l = macW ks wh pt m) : l = m := by
  unfold macW at h
  have e1 : (l.length - 1) / 16 = 0 := by omega
  have e2 : (m.length - 1) / 16 = 0 := by omega
  simp only [e1, e2, Nat.mul_zero, List.drop_zero, cbc] at h
  have h1 := enc_inj ks (xor16_length _ _) (xor16_length _ _) h
  unfold last2 at h1
  by_cases hl : l.length = 16
  · rw [if_pos hl, if_pos (by omega)] at h1
    exact xor16_inj2 hl (by omega) (xor16_inj (xor16_length _ _) (xor16_length _ _) h1)
  · rw [if_neg hl, if_neg (by omega)] at h1
    exact fill_inj hlm (xor16_inj2 (fill_length _ (by omega)) (fill_length _ (by omega)) (xor16_inj (xor16_length _ _) (xor16_length _ _) h1))
theorem cmac_one (key : List UInt8) {l m : List UInt8} (hlm : l.length = m.length) (h16 : l.length ≤ 16) (h : cmac key l = cmac key m) : l = m := macW_one _ _ _ hlm h16 h

theorem shr7 (x : UInt8) : x >>> 7 = 0 ∨ x >>> 7 = 1 := by
  have := all8 (fun x => x >>> 7 == 0 || x >>> 7 == 1) (by decide +kernel) x
  simpa using this
theorem or1 (a : UInt8) : (a <<< (1 : UInt8)) ||| (1 : UInt8) = (a <<< (1 : UInt8)) ^^^ (1 : UInt8) := by
  have := all8 (fun a => (a <<< (1 : UInt8)) ||| (1 : UInt8) == (a <<< (1 : UInt8)) ^^^ (1 : UInt8)) (by decide +kernel) a
  simpa using this
theorem twG_eq (l : List UInt8) (i : Nat) : twG l i = (at' l i <<< 1) ^^^ (at' l (i + 1) >>> 7) := by
  unfold twG
  rcases shr7 (at' l (i + 1)) with h | h <;> rw [h]
  · simp
  · exact or1 _
theorem mul135_xor (x y : UInt8) : ((x ^^^ y) >>> (7 : UInt8)) * (135 : UInt8) = ((x >>> (7 : UInt8)) * (135 : UInt8)) ^^^ ((y >>> (7 : UInt8)) * (135 : UInt8)) := by
  rw [UInt8.shiftRight_xor]
  rcases shr7 x with h | h <;> rcases shr7 y with h' | h' <;> rw [h, h'] <;> rfl
theorem at_xor16 (l m : List UInt8) (i : Nat) (hl : l.length = 16) (hm : m.length = 16) : at' (xor16 l m) i = at' l i ^^^ at' m i := by
  by_cases hi : i < 16
  · exact map16_at _ i hi
  · simp [at', xor16, hl, hm, hi]
theorem twG_xor (l m : List UInt8) (i : Nat) (hl : l.length = 16) (hm : m.length = 16) : twG (xor16 l m) i = twG l i ^^^ twG m i := by
  rw [twG_eq, twG_eq, twG_eq, at_xor16 _ _ _ hl hm, at_xor16 _ _ _ hl hm, UInt8.shiftLeft_xor, UInt8.shiftRight_xor]
  simp only [UInt8.xor_assoc, xor_c, xor_lc]
theorem tw_xor (l m : List UInt8) (hl : l.length = 16) (hm : m.length = 16) : tw (xor16 l m) = xor16 (tw l) (tw m) := by
  have : ∀ i, twF (xor16 l m) i = twF l i ^^^ twF m i := fun i => by
    unfold twF
    split
    · rw [twG_xor _ _ _ hl hm, at_xor16 _ _ _ hl hm, mul135_xor]
      simp only [UInt8.xor_assoc, xor_c, xor_lc]
    · exact twG_xor _ _ _ hl hm
  refine list16_ext (tw_length _) (xor16_length _ _) fun i hi => ?_
  rw [at_xor16 _ _ _ (tw_length _) (tw_length _)]
  unfold tw
  rw [map16_at _ _ hi, map16_at _ _ hi, map16_at _ _ hi, this]
theorem or_zero {a b : UInt8} (h : a ||| b = 0) : a = 0 ∧ b = 0 := by
  have h2 := congrArg UInt8.toNat h
  rw [UInt8.toNat_or] at h2
  have h0 : (0 : UInt8).toNat = 0 := rfl
  rw [h0] at h2
  have ha : a.toNat ≤ a.toNat ||| b.toNat := Nat.left_le_or
  have hb : b.toNat ≤ a.toNat ||| b.toNat := Nat.right_le_or
  exact ⟨UInt8.toNat_inj.1 (by rw [h0]; omega), UInt8.toNat_inj.1 (by rw [h0]; omega)⟩
theorem byte_zero (x : UInt8) (h1 : x <<< 1 = 0) (h2 : x >>> 7 = 0) : x = 0 := by
  have := all8 (fun x => !(x <<< 1 == 0 && x >>> 7 == 0) || x == 0) (by decide +kernel) x
  simpa [h1, h2] using this
theorem odd_no (x : UInt8) : (x <<< (1 : UInt8)) ^^^ (135 : UInt8) ≠ 0 := by
  have := all8 (fun x => (x <<< (1 : UInt8)) ^^^ (135 : UInt8) != 0) (by decide +kernel) x
  simpa using this
theorem tw_zero (d : List UInt8) (hd : d.length = 16) (h : ∀ i, i < 16 → twF d i = 0) : ∀ i, i < 16 → at' d i = 0 := by
  have h15 := h 15 (by omega)
  unfold twF at h15
  rw [if_pos rfl] at h15
  have e16 : at' d 16 = 0 := by simp [at', hd]
  have hg15 : twG d 15 = at' d 15 <<< 1 := by unfold twG; rw [e16]; simp
  rw [hg15] at h15
  have h0 : at' d 0 >>> 7 = 0 := by
    rcases shr7 (at' d 0) with e | e
    · exact e
    · rw [e] at h15
      exact absurd h15 (odd_no _)
  rw [h0] at h15
  have hs : ∀ i, i < 16 → at' d i <<< 1 = 0 ∧ at' d (i + 1) >>> 7 = 0 := fun i hi => by
    by_cases e : i = 15
    · subst e
      exact ⟨by simpa using h15, by rw [e16]; rfl⟩
    · have := h i hi
      unfold twF at this
      rw [if_neg e] at this
      exact or_zero this
  intro i hi
  refine byte_zero _ (hs i hi).1 ?_
  cases i with
  | zero => exact h0
  | succ i => exact (hs i (by omega)).2
theorem tw_inj {l m : List UInt8} (hl : l.length = 16) (hm : m.length = 16) (h : tw l = tw m) : l = m := by
  have hz := tw_zero (xor16 l m) (xor16_length _ _) fun i hi => by
    have h1 : at' (tw (xor16 l m)) i = 0 := by
      rw [tw_xor l m hl hm, h, at_xor16 _ _ _ (tw_length _) (tw_length _), UInt8.xor_self]
    unfold tw at h1
    rwa [map16_at _ _ hi] at h1
  refine list16_ext hl hm fun i hi => ?_
  have := hz i hi
  rw [at_xor16 _ _ _ hl hm] at this
  exact UInt8.xor_eq_zero_iff.1 this
end Go.Aes
