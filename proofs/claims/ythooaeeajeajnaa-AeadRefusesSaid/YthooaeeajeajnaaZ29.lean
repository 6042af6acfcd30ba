/- Lemmas of this claim, several texts joined. -/
import Derived.Test.YthooaeeajeajnaaZ27
set_option linter.unusedVariables false
set_option linter.unusedSimpArgs false
/- Layer 6 as plain functions. No program. -/
namespace Go.Aes
def longA (A : List (List UInt8)) : Bool := A.any fun x => decide (65519 < x.length)
def checkA (ky : List UInt8) (A : List (List UInt8)) : Int := if ky.length ≠ 32 then 5 else if 16 < A.length then 8 else if longA A then 2 else 0
def tagE (ky : List UInt8) (A : List (List UInt8)) (p : List UInt8) : List UInt8 × Int :=
  if checkA ky A ≠ 0 then ([], checkA ky A) else if 65519 < p.length then ([], 2) else (s2v (ky.take 16) (A ++ [p]), 0)
def ctrOf (t : List UInt8) : List UInt8 := (t.set 8 (at' t 8 &&& 127)).set 12 (at' t 12 &&& 127)
theorem ctrOf_length (t : List UInt8) : (ctrOf t).length = t.length := by simp [ctrOf]
def sealE (ky : List UInt8) (A : List (List UInt8)) (p : List UInt8) : List UInt8 × Int :=
  if (tagE ky A p).2 ≠ 0 then ([], (tagE ky A p).2) else ((tagE ky A p).1 ++ stream (ky.drop 16) (ctrOf (tagE ky A p).1) p, 0)
def plainOf (ky s : List UInt8) : List UInt8 := stream (ky.drop 16) (ctrOf (s.take 16)) (s.drop 16)
def openE (ky : List UInt8) (A : List (List UInt8)) (s : List UInt8) : List UInt8 × Int :=
  if checkA ky A ≠ 0 then ([], checkA ky A) else if 65535 < s.length then ([], 2) else if s.length < 16 then ([], 1)
  else if (tagE ky A (plainOf ky s)).1 = s.take 16 then (plainOf ky s, 0) else ([], 6)
theorem longA_no {A : List (List UInt8)} (h : longA A = false) : ∀ x ∈ A, x.length ≤ 65519 := fun x hx => by
  unfold longA at h
  rw [List.any_eq_false] at h
  have := h x hx
  simp at this
  exact this
theorem checkA_ok {ky : List UInt8} {A : List (List UInt8)} (h : checkA ky A = 0) : ky.length = 32 ∧ A.length ≤ 16 ∧ ∀ x ∈ A, x.length ≤ 65519 := by
  unfold checkA at h
  split at h
  · cases h
  · split at h
    · cases h
    · split at h
      · cases h
      · rename_i h1 h2 h3
        exact ⟨by omega, by omega, longA_no (by simpa using h3)⟩
theorem tagE_ok {ky : List UInt8} {A : List (List UInt8)} {p : List UInt8} (h : checkA ky A = 0) (hp : p.length ≤ 65519) : tagE ky A p = (s2v (ky.take 16) (A ++ [p]), 0) := by
  unfold tagE
  rw [if_neg (by rw [h]; simp), if_neg (by omega)]
theorem tagE_len {ky : List UInt8} {A : List (List UInt8)} {p : List UInt8} (h : (tagE ky A p).2 = 0) : (tagE ky A p).1.length = 16 ∧ checkA ky A = 0 ∧ p.length ≤ 65519 := by
  unfold tagE at h ⊢
  split at h
  · rename_i h1; exact absurd h h1
  · split at h
    · cases h
    · rename_i h1 h2
      rw [if_neg h1, if_neg h2]
      exact ⟨s2v_length _ _, by simpa using h1, by omega⟩
theorem plainOf_length {ky s : List UInt8} : (plainOf ky s).length = s.length - 16 := by simp [plainOf, stream_length]
end Go.Aes
