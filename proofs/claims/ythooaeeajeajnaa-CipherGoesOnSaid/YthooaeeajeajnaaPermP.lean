/- AES as a permutation: different blocks have different encryptions. No program. -/
import Derived.Test.YthooaeeajeajnaaGfP
namespace Go.Aes

theorem map16_at (f : Nat → UInt8) (i : Nat) (h : i < 16) : at' ((List.range 16).map f) i = f i := by
  rw [at_get _ _ (by simpa using h)]; simp
theorem map16_inj {f g : Nat → UInt8} (h : (List.range 16).map f = (List.range 16).map g) (i : Nat) (hi : i < 16) : f i = g i := by
  rw [← map16_at f i hi, ← map16_at g i hi, h]
theorem list16_ext {l m : List UInt8} (hl : l.length = 16) (hm : m.length = 16) (h : ∀ i, i < 16 → at' l i = at' m i) : l = m := by
  apply List.ext_getElem (by omega)
  intro i h1 h2
  have := h i (by omega)
  rwa [at_get _ _ h1, at_get _ _ h2] at this
theorem xor_cancel {a b c : UInt8} (h : a ^^^ c = b ^^^ c) : a = b := by
  have := congrArg (· ^^^ c) h
  simpa [UInt8.xor_assoc] using this
theorem xor16_inj {l m k : List UInt8} (hl : l.length = 16) (hm : m.length = 16) (h : xor16 l k = xor16 m k) : l = m := by
  refine list16_ext hl hm fun i hi => ?_
  exact xor_cancel (map16_inj h i hi)
theorem rep_inj {l m : List UInt8} (hl : l.length = 16) (hm : m.length = 16) (h : rep l = rep m) : l = m := by
  refine list16_ext hl hm fun i hi => ?_
  have hj : ∃ j, j < 16 ∧ (j + 4 * (j % 4)) % 16 = i := ⟨(i + 12 * (i % 4)) % 16, by omega, by omega⟩
  obtain ⟨j, hj, he⟩ := hj
  have := map16_inj h j hj
  unfold repF at this
  rw [he] at this
  exact sub_inj this
/-- A column behind the matrix, and back. -/
def mc (a b c d : UInt8) : UInt8 := a ^^^ (a ^^^ b ^^^ c ^^^ d) ^^^ dbl (a ^^^ b)
def back (a b c d : UInt8) : UInt8 := dbl (dbl (dbl (a ^^^ b ^^^ c ^^^ d))) ^^^ dbl (dbl (a ^^^ c)) ^^^ dbl (a ^^^ b) ^^^ (b ^^^ c ^^^ d)
theorem mc_sum (a b c d : UInt8) : mc a b c d ^^^ mc b c d a ^^^ mc c d a b ^^^ mc d a b c = a ^^^ b ^^^ c ^^^ d := by
  unfold mc
  simp only [dbl_xor]
  generalize dbl a = a2; generalize dbl b = b2; generalize dbl c = c2; generalize dbl d = d2
  simp only [UInt8.xor_assoc]
  simp only [xor_c, xor_lc, xor_s, UInt8.xor_self, UInt8.xor_zero, UInt8.zero_xor]
theorem mc_02 (a b c d : UInt8) : mc a b c d ^^^ mc c d a b = a ^^^ c ^^^ dbl (a ^^^ b ^^^ c ^^^ d) := by
  unfold mc
  simp only [dbl_xor]
  generalize dbl a = a2; generalize dbl b = b2; generalize dbl c = c2; generalize dbl d = d2
  simp only [UInt8.xor_assoc]
  simp only [xor_c, xor_lc, xor_s, UInt8.xor_self, UInt8.xor_zero, UInt8.zero_xor]
theorem mc_01 (a b c d : UInt8) : mc a b c d ^^^ mc b c d a = a ^^^ b ^^^ dbl (a ^^^ c) := by
  unfold mc
  simp only [dbl_xor]
  generalize dbl a = a2; generalize dbl b = b2; generalize dbl c = c2; generalize dbl d = d2
  simp only [UInt8.xor_assoc]
  simp only [xor_c, xor_lc, xor_s, UInt8.xor_self, UInt8.xor_zero, UInt8.zero_xor]
theorem mc_123 (a b c d : UInt8) : mc b c d a ^^^ mc c d a b ^^^ mc d a b c = a ^^^ dbl (a ^^^ b) := by
  unfold mc
  simp only [dbl_xor]
  generalize dbl a = a2; generalize dbl b = b2; generalize dbl c = c2; generalize dbl d = d2
  simp only [UInt8.xor_assoc]
  simp only [xor_c, xor_lc, xor_s, UInt8.xor_self, UInt8.xor_zero, UInt8.zero_xor]
theorem back_mc (a b c d : UInt8) : back (mc a b c d) (mc b c d a) (mc c d a b) (mc d a b c) = a := by
  unfold back
  rw [mc_sum, mc_02, mc_01, mc_123]
  rw [dbl_xor (a ^^^ c) (dbl _), dbl_xor (dbl (a ^^^ c)) _, dbl_xor (a ^^^ b) (dbl _)]
  generalize dbl (dbl (dbl (a ^^^ b ^^^ c ^^^ d))) = s8
  generalize dbl (dbl (a ^^^ c)) = t
  generalize dbl (a ^^^ b) = u
  simp only [UInt8.xor_assoc]
  simp only [xor_c, xor_lc, xor_s, UInt8.xor_self, UInt8.xor_zero, UInt8.zero_xor]
theorem mix_at (l : List UInt8) (c : Nat) (hc : c < 4) :
    at' (mix l) (4 * c) = mc (at' l (4 * c)) (at' l (4 * c + 1)) (at' l (4 * c + 2)) (at' l (4 * c + 3)) ∧
    at' (mix l) (4 * c + 1) = mc (at' l (4 * c + 1)) (at' l (4 * c + 2)) (at' l (4 * c + 3)) (at' l (4 * c)) ∧
    at' (mix l) (4 * c + 2) = mc (at' l (4 * c + 2)) (at' l (4 * c + 3)) (at' l (4 * c)) (at' l (4 * c + 1)) ∧
    at' (mix l) (4 * c + 3) = mc (at' l (4 * c + 3)) (at' l (4 * c)) (at' l (4 * c + 1)) (at' l (4 * c + 2)) := by
  unfold mix
  rw [map16_at _ _ (by omega), map16_at _ _ (by omega), map16_at _ _ (by omega), map16_at _ _ (by omega), mixF0, mixF1, mixF2, mixF3]
  generalize at' l (4 * c) = a0; generalize at' l (4 * c + 1) = a1; generalize at' l (4 * c + 2) = a2; generalize at' l (4 * c + 3) = a3
  unfold mc
  refine ⟨rfl, ?_, ?_, ?_⟩ <;> simp only [UInt8.xor_assoc, xor_c, xor_lc, xor_s]
theorem mix_inj {l m : List UInt8} (hl : l.length = 16) (hm : m.length = 16) (h : mix l = mix m) : l = m := by
  have hc : ∀ c, c < 4 → at' l (4 * c) = at' m (4 * c) ∧ at' l (4 * c + 1) = at' m (4 * c + 1) ∧ at' l (4 * c + 2) = at' m (4 * c + 2) ∧ at' l (4 * c + 3) = at' m (4 * c + 3) := by
    intro c hc
    obtain ⟨a0, a1, a2, a3⟩ := mix_at l c hc
    obtain ⟨b0, b1, b2, b3⟩ := mix_at m c hc
    rw [h] at a0 a1 a2 a3
    have c0 := a0.symm.trans b0
    have c1 := a1.symm.trans b1
    have c2 := a2.symm.trans b2
    have c3 := a3.symm.trans b3
    refine ⟨?_, ?_, ?_, ?_⟩
    · rw [← back_mc (at' l (4 * c)) (at' l (4 * c + 1)) (at' l (4 * c + 2)) (at' l (4 * c + 3)), c0, c1, c2, c3, back_mc]
    · rw [← back_mc (at' l (4 * c + 1)) (at' l (4 * c + 2)) (at' l (4 * c + 3)) (at' l (4 * c)), c0, c1, c2, c3, back_mc]
    · rw [← back_mc (at' l (4 * c + 2)) (at' l (4 * c + 3)) (at' l (4 * c)) (at' l (4 * c + 1)), c0, c1, c2, c3, back_mc]
    · rw [← back_mc (at' l (4 * c + 3)) (at' l (4 * c)) (at' l (4 * c + 1)) (at' l (4 * c + 2)), c0, c1, c2, c3, back_mc]
  refine list16_ext hl hm fun i hi => ?_
  obtain ⟨h0, h1, h2, h3⟩ := hc (i / 4) (by omega)
  have : i = 4 * (i / 4) ∨ i = 4 * (i / 4) + 1 ∨ i = 4 * (i / 4) + 2 ∨ i = 4 * (i / 4) + 3 := by omega
  rcases this with e | e | e | e <;> rw [e] <;> assumption
theorem rep_length (l : List UInt8) : (rep l).length = 16 := by simp [rep]
theorem mix_length (l : List UInt8) : (mix l).length = 16 := by simp [mix]
theorem rounds_inj (ks : List UInt8) {l m : List UInt8} (hl : l.length = 16) (hm : m.length = 16) : ∀ r, rounds ks l r = rounds ks m r → l = m
  | 0, h => xor16_inj hl hm h
  | r + 1, h => by
    simp only [rounds] at h
    refine rounds_inj ks hl hm r ?_
    split at h
    · exact rep_inj (rounds_length _ _ _) (rounds_length _ _ _) (mix_inj (rep_length _) (rep_length _) (xor16_inj (mix_length _) (mix_length _) h))
    · exact rep_inj (rounds_length _ _ _) (rounds_length _ _ _) (xor16_inj (rep_length _) (rep_length _) h)
theorem enc_inj (ks : List UInt8) {l m : List UInt8} (hl : l.length = 16) (hm : m.length = 16) (h : enc ks l = enc ks m) : l = m := rounds_inj ks hl hm 10 h
theorem block_inj (key : List UInt8) {l m : List UInt8} (hl : l.length = 16) (hm : m.length = 16) (h : block key l = block key m) : l = m := enc_inj _ hl hm h
theorem enc_length (ks l : List UInt8) : (enc ks l).length = 16 := rounds_length _ _ _
theorem block_length (key l : List UInt8) : (block key l).length = 16 := rounds_length _ _ _
end Go.Aes
