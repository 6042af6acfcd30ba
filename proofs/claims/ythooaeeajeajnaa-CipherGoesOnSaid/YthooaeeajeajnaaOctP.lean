/- Octets as plain functions. -/
namespace Go.Oct
/-- The last n bytes of a number. -/
def putL : Nat → UInt64 → List UInt8
  | 0, _ => []
  | n + 1, v => putL n (v >>> 8) ++ [v.toUInt8]
theorem putL_length (n : Nat) (v : UInt64) : (putL n v).length = n := by
  induction n generalizing v with
  | zero => rfl
  | succ n ih => simp [putL, ih]
theorem putL_zero (n : Nat) : putL n 0 = List.replicate n 0 := by
  induction n with
  | zero => rfl
  | succ n ih =>
    rw [putL, show ((0 : UInt64) >>> 8) = 0 from rfl, ih, List.replicate_succ']
    rfl
theorem drop_set {α : Type} (l : List α) (j : Nat) (x : α) (h : j < l.length) : (l.set j x).drop j = x :: l.drop (j + 1) := by
  induction l generalizing j with
  | nil => simp at h
  | cons y r ih =>
    cases j with
    | zero => rfl
    | succ j => simpa using ih j (by simpa using h)
theorem put_step (j : Nat) (u : UInt64) (l out : List UInt8) (hj : j < l.length) (h : putL (j + 1) u ++ l.drop (j + 1) = out) : putL j (u >>> 8) ++ (l.set j u.toUInt8).drop j = out := by
  rw [← h, putL, drop_set _ _ _ hj]; simp
/-- Lists behind each other. -/
def joinL (L : List (List UInt8)) : List UInt8 := L.flatten
theorem joinL_nil : joinL [] = [] := rfl
theorem joinL_cons (l : List UInt8) (L : List (List UInt8)) : joinL (l :: L) = l ++ joinL L := rfl
theorem joinL_take (L : List (List UInt8)) (k : Nat) (h : k < L.length) : joinL (L.take (k + 1)) = joinL (L.take k) ++ L[k] := by
  unfold joinL; rw [List.take_succ_eq_append_getElem h, List.flatten_append]; simp [-List.take_append_getElem]
theorem joinL_le (L : List (List UInt8)) (k : Nat) : (joinL (L.take k)).length ≤ (joinL L).length := by
  unfold joinL
  conv => rhs; rw [← List.take_append_drop k L, List.flatten_append, List.length_append]
  omega
theorem joinL_all (L : List (List UInt8)) (n : Nat) (h : L.length = n) : joinL (L.take n) = joinL L := by rw [List.take_of_length_le (by omega)]
theorem joinL1 (a : List UInt8) : joinL [a] = a := by simp [joinL]
theorem joinL2 (a b : List UInt8) : joinL [a, b] = a ++ b := by simp [joinL]
theorem joinL3 (a b c : List UInt8) : joinL [a, b, c] = a ++ (b ++ c) := by simp [joinL]
theorem joinL4 (a b c d : List UInt8) : joinL [a, b, c, d] = a ++ (b ++ (c ++ d)) := by simp [joinL]
/-- With zeros behind it up to a multiple. -/
def padN (len n : Nat) : Nat := if 1 ≤ n ∧ n ≤ 64 then (n - len % n) % n else 0
def padL (l : List UInt8) (n : Nat) : List UInt8 := l ++ List.replicate (padN l.length n) 0
theorem pad_zero (n k : Nat) (hk : 1 ≤ k) : (n + (k - n % k) % k) % k = 0 := by
  have h1 := Nat.div_add_mod n k
  have h2 := Nat.mod_lt n (show 0 < k by omega)
  by_cases h0 : n % k = 0
  · rw [h0, Nat.sub_zero, Nat.mod_self, Nat.add_zero, h0]
  · rw [Nat.mod_eq_of_lt (show k - n % k < k by omega)]
    have : n + (k - n % k) = k * (n / k + 1) := by rw [Nat.mul_add, Nat.mul_one]; omega
    rw [this, Nat.mul_mod_right]
theorem pad_ne (n k m : Nat) (hk : 1 ≤ k) (h1 : n ≤ m) (h2 : m < n + (k - n % k) % k) : m % k ≠ 0 := by
  have h3 := Nat.div_add_mod n k
  have h4 := Nat.mod_lt n (show 0 < k by omega)
  by_cases h0 : n % k = 0
  · rw [h0, Nat.sub_zero, Nat.mod_self] at h2; omega
  · rw [Nat.mod_eq_of_lt (show k - n % k < k by omega)] at h2
    obtain ⟨j, rfl⟩ : ∃ j, m = n + j := ⟨m - n, by omega⟩
    have e : n + j = (n % k + j) + k * (n / k) := by omega
    rw [e, Nat.add_mul_mod_self_left, Nat.mod_eq_of_lt (by omega)]
    omega
/-- The digit of a number below 16. -/
def digits : List UInt8 := [48, 49, 50, 51, 52, 53, 54, 55, 56, 57, 97, 98, 99, 100, 101, 102]
def dig (x : UInt8) : UInt8 := digits.getD x.toNat 0
def hexL : List UInt8 → List UInt8
  | [] => []
  | x :: r => dig (x >>> 4) :: dig (x &&& 15) :: hexL r
theorem hexL_snoc (l : List UInt8) (x : UInt8) : hexL (l ++ [x]) = hexL l ++ [dig (x >>> 4)] ++ [dig (x &&& 15)] := by
  induction l with
  | nil => rfl
  | cons y r ih => simp [hexL, ih]
theorem hexL_length (l : List UInt8) : (hexL l).length = 2 * l.length := by
  induction l with
  | nil => rfl
  | cons y r ih => simp [hexL, ih]; omega
/-- Half a byte put behind what is there. -/
def unhexStep (out : List UInt8) (k : Nat) (d : UInt8) : List UInt8 := out.set (k / 2) ((out.getD (k / 2) 0) <<< 4 ||| d)
def unhexTo (val : UInt8 → UInt8) (s : List UInt8) : Nat → List UInt8
  | 0 => List.replicate (s.length / 2) 0
  | k + 1 => unhexStep (unhexTo val s k) k (val (s.getD k 0))
theorem unhexTo_length (val : UInt8 → UInt8) (s : List UInt8) (k : Nat) : (unhexTo val s k).length = s.length / 2 := by
  induction k with
  | zero => simp [unhexTo]
  | succ k ih => simp [unhexTo, unhexStep, ih]
end Go.Oct
