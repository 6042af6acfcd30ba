/- Lemmas of this claim, several texts joined. -/
import Derived.Test.YtmmbcgbadaojeaaZ1
set_option linter.unusedVariables false
set_option linter.unusedSimpArgs false
/- SHA-256 of many small messages at once, in one number with a lane of 64 bits for each. No program. -/
namespace Go.Lane
open Go.Sha Go.Oct

/-- Numbers in lanes. -/
def packN : Nat → (Nat → Nat) → Nat
  | 0, _ => 0
  | n + 1, f => 2 ^ 64 * packN n (fun k => f (k + 1)) + f 0
def pack (n : Nat) (f : Nat → UInt32) : Nat := packN n fun k => (f k).toNat
def ones (n : Nat) : Nat := (2 ^ (64 * n) - 1) / (2 ^ 64 - 1)
def mask (n : Nat) : Nat := ones n * (2 ^ 32 - 1)
/-- a, a + 1, .. -/
def iota (n a : Nat) : Nat := ((a + n) * 2 ^ (64 * n) + 1 - 2 ^ (64 * n) - ones n - a) / (2 ^ 64 - 1)

theorem packN_congr {f g : Nat → Nat} : ∀ {n : Nat}, (∀ k, k < n → f k = g k) → packN n f = packN n g := by
  intro n
  induction n generalizing f g with
  | zero => intro _; rfl
  | succ n ih =>
    intro h
    rw [packN, packN, ih (f := fun k => f (k + 1)) (g := fun k => g (k + 1)) (fun k hk => h (k + 1) (by omega)), h 0 (by omega)]
theorem packN_add (n : Nat) : ∀ f g : Nat → Nat, packN n f + packN n g = packN n fun k => f k + g k := by
  induction n with
  | zero => intro f g; rfl
  | succ n ih =>
    intro f g
    have := ih (fun k => f (k + 1)) (fun k => g (k + 1))
    simp only [packN]
    omega
theorem packN_mul (n c : Nat) : ∀ f : Nat → Nat, packN n f * c = packN n fun k => f k * c := by
  induction n with
  | zero => intro f; simp [packN]
  | succ n ih =>
    intro f
    have := ih (fun k => f (k + 1))
    simp only [packN]
    rw [← this, Nat.add_mul, Nat.mul_assoc]
theorem pow64_succ (n : Nat) : 2 ^ (64 * (n + 1)) = 2 ^ 64 * 2 ^ (64 * n) := by rw [Nat.mul_add, Nat.mul_one, Nat.pow_add, Nat.mul_comm]
set_option maxRecDepth 100000 in
theorem ones_eq (n : Nat) : ones n = packN n fun _ => 1 := by
  have h : ∀ n, packN n (fun _ => 1) * (2 ^ 64 - 1) + 1 = 2 ^ (64 * n) := by
    intro n
    induction n with
    | zero => rfl
    | succ n ih =>
      rw [packN, pow64_succ, ← ih]
      have hB : (2 : Nat) ^ 64 = (2 ^ 64 - 1) + 1 := by decide
      generalize (2 : Nat) ^ 64 - 1 = C at hB ⊢
      generalize (2 : Nat) ^ 64 = B at hB ⊢
      rw [Nat.add_mul, Nat.one_mul, Nat.mul_assoc, Nat.add_assoc, ← hB, Nat.mul_add, Nat.mul_one]
  have := h n
  unfold ones
  rw [← this, Nat.add_sub_cancel, Nat.mul_div_cancel _ (by omega)]
set_option maxRecDepth 100000 in
theorem iota_eq (n a : Nat) : iota n a = packN n fun k => k + a := by
  have h : ∀ n a, packN n (fun k => k + a) * (2 ^ 64 - 1) + packN n (fun _ => 1) + a + 2 ^ (64 * n) = (a + n) * 2 ^ (64 * n) + 1 := by
    intro n
    induction n with
    | zero => intro a; simp [packN]
    | succ n ih =>
      intro a
      have ih := ih (a + 1)
      have e : (fun k => k + (a + 1)) = fun k => k + 1 + a := by funext k; omega
      rw [e] at ih
      rw [packN, packN, pow64_succ]
      generalize packN n (fun k => k + 1 + a) = P at ih ⊢
      generalize packN n (fun _ => 1) = O at ih ⊢
      generalize 2 ^ (64 * n) = T at ih ⊢
      have hB : (2 : Nat) ^ 64 = (2 ^ 64 - 1) + 1 := by decide
      generalize (2 : Nat) ^ 64 - 1 = C at hB ih ⊢
      generalize (2 : Nat) ^ 64 = B at hB ⊢
      have e1 : (a + 1 + n) * T = a * T + T + n * T := by rw [Nat.add_mul, Nat.add_mul, Nat.one_mul]
      have e2 : (a + (n + 1)) * (B * T) = B * (a * T + T + n * T) := by rw [← e1, Nat.mul_left_comm]; congr 2; omega
      rw [e1] at ih
      rw [e2]
      have e3 : a * T + T + n * T = P * C + O + T + a := by omega
      have e4 : (B * P + a) * C = B * (P * C) + a * C := by rw [Nat.add_mul, Nat.mul_assoc]
      have e5 : B * a = a * C + a := by rw [hB, Nat.add_mul, Nat.one_mul, Nat.mul_comm]
      rw [e3, Nat.zero_add, e4]
      simp only [Nat.mul_add]
      omega
  have := h n a
  unfold iota
  rw [ones_eq, ← this]
  have e : packN n (fun k => k + a) * (2 ^ 64 - 1) + packN n (fun _ => 1) + a + 2 ^ (64 * n) - 2 ^ (64 * n) - packN n (fun _ => 1) - a = packN n (fun k => k + a) * (2 ^ 64 - 1) := by omega
  rw [e, Nat.mul_div_cancel _ (by omega)]
theorem ones_mul (n c : Nat) : ones n * c = packN n fun _ => c := by rw [ones_eq, packN_mul]; simp
theorem mask_eq (n : Nat) : mask n = packN n fun _ => 2 ^ 32 - 1 := ones_mul n _
theorem split_and {x y : Nat} (hx : x < 2 ^ 64) (hy : y < 2 ^ 64) (a b : Nat) : (2 ^ 64 * a + x) &&& (2 ^ 64 * b + y) = 2 ^ 64 * (a &&& b) + (x &&& y) := by
  apply Nat.eq_of_testBit_eq
  intro i
  have hxy : x &&& y < 2 ^ 64 := Nat.and_lt_two_pow _ hy
  rw [Nat.testBit_and, Nat.testBit_two_pow_mul_add _ hx, Nat.testBit_two_pow_mul_add _ hy, Nat.testBit_two_pow_mul_add _ hxy]
  split <;> simp [Nat.testBit_and]
theorem split_xor {x y : Nat} (hx : x < 2 ^ 64) (hy : y < 2 ^ 64) (a b : Nat) : (2 ^ 64 * a + x) ^^^ (2 ^ 64 * b + y) = 2 ^ 64 * (a ^^^ b) + (x ^^^ y) := by
  apply Nat.eq_of_testBit_eq
  intro i
  have hxy : x ^^^ y < 2 ^ 64 := Nat.xor_lt_two_pow hx hy
  rw [Nat.testBit_xor, Nat.testBit_two_pow_mul_add _ hx, Nat.testBit_two_pow_mul_add _ hy, Nat.testBit_two_pow_mul_add _ hxy]
  split <;> simp [Nat.testBit_xor]
theorem packN_and (n : Nat) : ∀ f g : Nat → Nat, (∀ k, f k < 2 ^ 64) → (∀ k, g k < 2 ^ 64) → packN n f &&& packN n g = packN n fun k => f k &&& g k := by
  induction n with
  | zero => intro f g _ _; simp [packN]
  | succ n ih =>
    intro f g hf hg
    simp only [packN]
    rw [split_and (hf 0) (hg 0), ih _ _ (fun k => hf (k + 1)) (fun k => hg (k + 1))]
theorem packN_xor (n : Nat) : ∀ f g : Nat → Nat, (∀ k, f k < 2 ^ 64) → (∀ k, g k < 2 ^ 64) → packN n f ^^^ packN n g = packN n fun k => f k ^^^ g k := by
  induction n with
  | zero => intro f g _ _; simp [packN]
  | succ n ih =>
    intro f g hf hg
    simp only [packN]
    rw [split_xor (hf 0) (hg 0), ih _ _ (fun k => hf (k + 1)) (fun k => hg (k + 1))]
theorem and_mask32 (x : Nat) : x &&& (2 ^ 32 - 1) = x % 2 ^ 32 := Nat.and_two_pow_sub_one_eq_mod x 32
theorem packN_low (n : Nat) (f : Nat → Nat) (hf : ∀ k, f k < 2 ^ 64) : packN n f &&& mask n = packN n fun k => f k % 2 ^ 32 := by
  rw [mask_eq]
  rw [packN_and n f _ hf (fun _ => by decide)]
  simp only [and_mask32]
/-- A shift to the right in all lanes at once. -/
theorem packN_shr (n r : Nat) (hr : r ≤ 32) : ∀ f : Nat → Nat, (∀ k, f k < 2 ^ 64) → (packN n f >>> r) &&& mask n = packN n fun k => f k / 2 ^ r % 2 ^ 32 := by
  have e64 : (2 : Nat) ^ 64 = 2 ^ r * 2 ^ (64 - r) := by rw [← Nat.pow_add]; congr 1; omega
  have e32 : (2 : Nat) ^ (64 - r) = 2 ^ 32 * 2 ^ (32 - r) := by rw [← Nat.pow_add]; congr 1; omega
  have hp : 0 < (2 : Nat) ^ r := Nat.pow_pos (by omega)
  rw [mask_eq]
  induction n with
  | zero => intro f _; simp [packN]
  | succ n ih =>
    intro f hf
    have ih := ih (fun k => f (k + 1)) (fun k => hf (k + 1))
    rw [Nat.shiftRight_eq_div_pow] at ih ⊢
    simp only [packN]
    have h0 := hf 0
    generalize packN n (fun k => f (k + 1)) = P at ih ⊢
    generalize hx : f 0 = x at h0 ⊢
    have e1 : (2 ^ 64 * P + x) / 2 ^ r = 2 ^ (64 - r) * P + x / 2 ^ r := by
      rw [e64, Nat.mul_assoc, Nat.mul_add_div hp]
    have hy0 : x / 2 ^ r < 2 ^ (64 - r) := by
      rw [Nat.div_lt_iff_lt_mul hp, Nat.mul_comm, ← e64]; exact h0
    have e2 : 2 ^ (64 - r) * P + x / 2 ^ r = 2 ^ 64 * (P / 2 ^ r) + (2 ^ (64 - r) * (P % 2 ^ r) + x / 2 ^ r) := by
      have h := Nat.div_add_mod P (2 ^ r)
      calc 2 ^ (64 - r) * P + x / 2 ^ r = 2 ^ (64 - r) * (2 ^ r * (P / 2 ^ r) + P % 2 ^ r) + x / 2 ^ r := by rw [h]
        _ = _ := by rw [Nat.mul_add, ← Nat.mul_assoc, Nat.mul_comm (2 ^ (64 - r)) (2 ^ r), ← e64, Nat.add_assoc]
    have hy : 2 ^ (64 - r) * (P % 2 ^ r) + x / 2 ^ r < 2 ^ 64 := by
      have h1 : P % 2 ^ r + 1 ≤ 2 ^ r := Nat.mod_lt _ hp
      have h2 := Nat.mul_le_mul_left (2 ^ (64 - r)) h1
      rw [Nat.mul_add, Nat.mul_one, Nat.mul_comm _ (2 ^ r), ← e64] at h2
      omega
    have e3 : (2 ^ (64 - r) * (P % 2 ^ r) + x / 2 ^ r) % 2 ^ 32 = x / 2 ^ r % 2 ^ 32 := by
      rw [e32, Nat.mul_assoc, Nat.mul_add_mod]
    rw [e1, e2, split_and hy (by decide), ih, and_mask32, e3]

variable {n : Nat}
theorem lt64 (x : UInt32) : x.toNat < 2 ^ 64 := Nat.lt_of_lt_of_le x.toNat_lt (by decide)
theorem pack_xor (f g : Nat → UInt32) : pack n f ^^^ pack n g = pack n fun k => f k ^^^ g k := by
  unfold pack
  rw [packN_xor n _ _ (fun k => lt64 _) (fun k => lt64 _)]
  simp only [UInt32.toNat_xor]
theorem pack_and (f g : Nat → UInt32) : pack n f &&& pack n g = pack n fun k => f k &&& g k := by
  unfold pack
  rw [packN_and n _ _ (fun k => lt64 _) (fun k => lt64 _)]
  simp only [UInt32.toNat_and]
theorem pack_add (f g : Nat → UInt32) : (pack n f + pack n g) &&& mask n = pack n fun k => f k + g k := by
  unfold pack
  rw [packN_add, packN_low n _ (fun k => by have := (f k).toNat_lt; have := (g k).toNat_lt; omega)]
  simp only [UInt32.toNat_add]
theorem pack_not (f : Nat → UInt32) : mask n - pack n f = pack n fun k => ~~~ f k := by
  have h : pack n (fun k => ~~~ f k) + pack n f = mask n := by
    rw [mask_eq]
    unfold pack
    rw [packN_add]
    apply packN_congr
    intro k _
    rw [UInt32.toNat_not]
    have := (f k).toNat_lt
    simp only [UInt32.size]
    omega
  omega
theorem pack_const (c : UInt32) : ones n * c.toNat = pack n fun _ => c := ones_mul n _
theorem shr_nat (x : UInt32) (r : Nat) (hr : r < 32) : (x >>> UInt32.ofNat r).toNat = x.toNat / 2 ^ r := by
  rw [UInt32.toNat_shiftRight, UInt32.toNat_ofNat', Nat.shiftRight_eq_div_pow]
  congr 2
  show r % 2 ^ 32 % 32 = r
  omega
theorem pack_shr (f : Nat → UInt32) (r : Nat) (hr : r < 32) : (pack n f >>> r) &&& mask n = pack n fun k => f k >>> UInt32.ofNat r := by
  unfold pack
  rw [packN_shr n r (by omega) _ (fun k => lt64 _)]
  apply packN_congr
  intro k _
  rw [shr_nat _ _ hr, Nat.mod_eq_of_lt]
  exact Nat.lt_of_le_of_lt (Nat.div_le_self _ _) (f k).toNat_lt
theorem turn_nat (x : UInt32) (r : Nat) (h0 : 0 < r) (hr : r < 32) : (turn x r).toNat = x.toNat * (2 ^ 32 + 1) / 2 ^ r % 2 ^ 32 := by
  have e32 : (2 : Nat) ^ 32 = 2 ^ r * 2 ^ (32 - r) := by rw [← Nat.pow_add]; congr 1; omega
  have hp : 0 < (2 : Nat) ^ r := Nat.pow_pos (by omega)
  have hx := x.toNat_lt
  unfold turn
  rw [UInt32.toNat_or, shr_nat _ _ hr, UInt32.toNat_shiftLeft, UInt32.toNat_ofNat']
  have e1 : (32 - r) % 2 ^ 32 % 32 = 32 - r := by omega
  rw [e1, Nat.shiftLeft_eq]
  generalize x.toNat = y at hx ⊢
  have e2 : y * 2 ^ (32 - r) % 2 ^ 32 = 2 ^ (32 - r) * (y % 2 ^ r) := by
    rw [e32, Nat.mul_comm y, Nat.mul_comm (2 ^ r), Nat.mul_mod_mul_left]
  have hd : y / 2 ^ r < 2 ^ (32 - r) := by rw [Nat.div_lt_iff_lt_mul hp, Nat.mul_comm, ← e32]; exact hx
  rw [e2, Nat.or_comm, ← Nat.two_pow_add_eq_or_of_lt hd]
  have e3 : y * (2 ^ 32 + 1) / 2 ^ r = y * 2 ^ (32 - r) + y / 2 ^ r := by
    rw [Nat.mul_add, Nat.mul_one, e32, ← Nat.mul_assoc, Nat.mul_comm y, Nat.mul_assoc, Nat.mul_add_div hp]
  have e4 : y * 2 ^ (32 - r) = 2 ^ 32 * (y / 2 ^ r) + 2 ^ (32 - r) * (y % 2 ^ r) := by
    have h := Nat.div_add_mod y (2 ^ r)
    calc y * 2 ^ (32 - r) = 2 ^ (32 - r) * (2 ^ r * (y / 2 ^ r) + y % 2 ^ r) := by rw [h, Nat.mul_comm]
      _ = _ := by rw [Nat.mul_add, ← Nat.mul_assoc, Nat.mul_comm (2 ^ (32 - r)) (2 ^ r), ← e32]
  have hy : 2 ^ (32 - r) * (y % 2 ^ r) + y / 2 ^ r < 2 ^ 32 := by
    have h1 : y % 2 ^ r + 1 ≤ 2 ^ r := Nat.mod_lt _ hp
    have h2 := Nat.mul_le_mul_left (2 ^ (32 - r)) h1
    rw [Nat.mul_add, Nat.mul_one, Nat.mul_comm _ (2 ^ r), ← e32] at h2
    omega
  rw [e3, e4, Nat.add_assoc, Nat.mul_add_mod, Nat.mod_eq_of_lt hy]
def rotN (n X r : Nat) : Nat := ((X * (2 ^ 32 + 1)) >>> r) &&& mask n
theorem pack_turn (f : Nat → UInt32) (r : Nat) (h0 : 0 < r) (hr : r < 32) : rotN n (pack n f) r = pack n fun k => turn (f k) r := by
  unfold pack rotN
  rw [packN_mul, packN_shr n r (by omega) _ (fun k => by have := (f k).toNat_lt; omega)]
  apply packN_congr
  intro k _
  rw [turn_nat _ _ h0 hr]

/-! ### the function of SHA-256 in lanes -/
def wN (l : List Nat) (i : Nat) : Nat := l.getD i 0
/-- Rows of numbers that hold rows of words. -/
structure RL (n : Nat) (X : List Nat) (F : Nat → List UInt32) : Prop where
  len : ∀ k, (F k).length = X.length
  at' : ∀ i, wN X i = pack n fun k => w' (F k) i
theorem pack_zero : pack n (fun _ => 0) = 0 := by have := pack_const (n := n) 0; simpa using this.symm
theorem RL.nil : RL n [] fun _ => [] := ⟨fun _ => rfl, fun _ => pack_zero.symm⟩
theorem RL.cons {x : Nat} {X : List Nat} {f : Nat → UInt32} {F : Nat → List UInt32} (hx : x = pack n f) (h : RL n X F) : RL n (x :: X) fun k => f k :: F k := by
  refine ⟨fun k => by simp [h.len], fun i => ?_⟩
  cases i with
  | zero => exact hx
  | succ i => exact h.at' i
theorem RL.snoc {x : Nat} {X : List Nat} {f : Nat → UInt32} {F : Nat → List UInt32} (hx : x = pack n f) (h : RL n X F) : RL n (X ++ [x]) fun k => F k ++ [f k] := by
  refine ⟨fun k => by simp [h.len], fun i => ?_⟩
  have hw : ∀ k, w' (F k ++ [f k]) i = if i < X.length then w' (F k) i else if i = X.length then f k else 0 := fun k => by
    have := h.len k
    unfold w'
    rw [List.getD_eq_getElem?_getD, List.getD_eq_getElem?_getD]
    split
    · rw [List.getElem?_append_left (by omega)]
    · rw [List.getElem?_append_right (by omega), this]
      split
      · subst_vars; simp
      · rw [List.getElem?_eq_none (by simp; omega)]; rfl
  simp only [hw]
  unfold wN
  rw [List.getD_eq_getElem?_getD]
  split
  · rw [List.getElem?_append_left (by assumption), ← List.getD_eq_getElem?_getD]; exact h.at' i
  · rw [List.getElem?_append_right (by omega)]
    split
    · subst_vars; simp
    · rw [List.getElem?_eq_none (by simp; omega)]; exact pack_zero.symm
def s0N (n x : Nat) : Nat := rotN n x 7 ^^^ rotN n x 18 ^^^ ((x >>> 3) &&& mask n)
def s1N (n y : Nat) : Nat := rotN n y 17 ^^^ rotN n y 19 ^^^ ((y >>> 10) &&& mask n)
def addN (n x y : Nat) : Nat := (x + y) &&& mask n
def nextN (n : Nat) (l : List Nat) (t : Nat) : Nat := addN n (addN n (addN n (s1N n (wN l (t - 2))) (wN l (t - 7))) (s0N n (wN l (t - 15)))) (wN l (t - 16))
def schedN (n : Nat) (W : List Nat) : Nat → List Nat
  | 0 => W
  | k + 1 => schedN n W k ++ [nextN n (schedN n W k) (k + 16)]
def t1N (n : Nat) (v : List Nat) (k w : Nat) : Nat := addN n (addN n (addN n (addN n (wN v 7) (rotN n (wN v 4) 6 ^^^ rotN n (wN v 4) 11 ^^^ rotN n (wN v 4) 25)) ((wN v 4 &&& wN v 5) ^^^ ((mask n - wN v 4) &&& wN v 6))) k) w
def t2N (n : Nat) (v : List Nat) : Nat := addN n (rotN n (wN v 0) 2 ^^^ rotN n (wN v 0) 13 ^^^ rotN n (wN v 0) 22) ((wN v 0 &&& wN v 1) ^^^ (wN v 0 &&& wN v 2) ^^^ (wN v 1 &&& wN v 2))
def roundN (n : Nat) (W v : List Nat) (t : Nat) : List Nat :=
  [addN n (t1N n v (ones n * (w' ks t).toNat) (wN W t)) (t2N n v), wN v 0, wN v 1, wN v 2, addN n (wN v 3) (t1N n v (ones n * (w' ks t).toNat) (wN W t)), wN v 4, wN v 5, wN v 6]
def roundsN (n : Nat) (W v : List Nat) : Nat → List Nat
  | 0 => v
  | t + 1 => roundN n W (roundsN n W v t) t
theorem addN_pack {x y : Nat} {f g : Nat → UInt32} (hx : x = pack n f) (hy : y = pack n g) : addN n x y = pack n fun k => f k + g k := by subst hx hy; exact pack_add f g
theorem next_pack {X : List Nat} {F : Nat → List UInt32} (h : RL n X F) (t : Nat) : nextN n X t = pack n fun k => nextW (F k) t := by
  unfold nextN nextW
  refine addN_pack (addN_pack (addN_pack ?_ (h.at' _)) ?_) (h.at' _)
  · unfold s1N s1
    rw [h.at', pack_turn _ _ (by omega) (by omega), pack_turn _ _ (by omega) (by omega), pack_shr _ _ (by omega), pack_xor, pack_xor]
    rfl
  · unfold s0N s0
    rw [h.at', pack_turn _ _ (by omega) (by omega), pack_turn _ _ (by omega) (by omega), pack_shr _ _ (by omega), pack_xor, pack_xor]
    rfl
theorem sched_pack {X : List Nat} {m : Nat → List UInt8} (h : RL n X fun k => (List.range 16).map (inW (m k))) : ∀ t, RL n (schedN n X t) fun k => sched (m k) t := by
  intro t
  induction t with
  | zero => exact h
  | succ t ih => exact RL.snoc (next_pack ih _) ih
theorem round_pack {W v : List Nat} {F V : Nat → List UInt32} (hW : RL n W F) (hv : RL n v V) (t : Nat) : RL n (roundN n W v t) fun k => round (F k) (V k) t := by
  have h1 : t1N n v (ones n * (w' ks t).toNat) (wN W t) = pack n fun k => t1 (V k) (w' ks t) (w' (F k) t) := by
    unfold t1N t1
    refine addN_pack (addN_pack (addN_pack (addN_pack (hv.at' _) ?_) ?_) (pack_const _)) (hW.at' _)
    · rw [hv.at', pack_turn _ _ (by omega) (by omega), pack_turn _ _ (by omega) (by omega), pack_turn _ _ (by omega) (by omega), pack_xor, pack_xor]
    · rw [hv.at', hv.at', hv.at', pack_not, pack_and, pack_and, pack_xor]
  have h2 : t2N n v = pack n fun k => t2 (V k) := by
    unfold t2N t2
    refine addN_pack ?_ ?_
    · rw [hv.at', pack_turn _ _ (by omega) (by omega), pack_turn _ _ (by omega) (by omega), pack_turn _ _ (by omega) (by omega), pack_xor, pack_xor]
    · rw [hv.at', hv.at', hv.at', pack_and, pack_and, pack_and, pack_xor, pack_xor]
  unfold roundN round
  exact RL.cons (addN_pack h1 h2) (RL.cons (hv.at' _) (RL.cons (hv.at' _) (RL.cons (hv.at' _) (RL.cons (addN_pack (hv.at' _) h1) (RL.cons (hv.at' _) (RL.cons (hv.at' _) (RL.cons (hv.at' _) RL.nil)))))))
theorem rounds_pack {W v : List Nat} {F V : Nat → List UInt32} (hW : RL n W F) (hv : RL n v V) : ∀ t, RL n (roundsN n W v t) fun k => rounds (F k) (V k) t := by
  intro t
  induction t with
  | zero => exact hv
  | succ t ih => exact round_pack hW ih t
/-- The first word behind a block, in lanes. -/
def headN (n : Nat) (W : List Nat) : Nat := addN n (ones n * (w' h0 0).toNat) (wN (roundsN n (schedN n W 48) (h0.map fun c => ones n * c.toNat) 64) 0)
theorem head_pack {X : List Nat} {m : Nat → List UInt8} (h : RL n X fun k => (List.range 16).map (inW (m k))) : headN n X = pack n fun k => w' (block h0 (m k)) 0 := by
  have hv : RL n (h0.map fun c => ones n * c.toNat) fun _ => h0 :=
    RL.cons (pack_const _) (RL.cons (pack_const _) (RL.cons (pack_const _) (RL.cons (pack_const _) (RL.cons (pack_const _) (RL.cons (pack_const _) (RL.cons (pack_const _) (RL.cons (pack_const _) RL.nil)))))))
  exact addN_pack (pack_const _) ((rounds_pack (sched_pack h 48) hv 64).at' 0)

/-! ### that lanes differ -/
def neqN (n X Y : Nat) : Bool := (((X ^^^ Y) + mask n) &&& (ones n * 2 ^ 32)) == ones n * 2 ^ 32
theorem packN_inj : ∀ {n : Nat} {f g : Nat → Nat}, (∀ k, f k < 2 ^ 64) → (∀ k, g k < 2 ^ 64) → packN n f = packN n g → ∀ k, k < n → f k = g k := by
  intro n
  induction n with
  | zero => intro f g _ _ _ k hk; omega
  | succ n ih =>
    intro f g hf hg h k hk
    simp only [packN] at h
    have h0 := hf 0
    have h1 := hg 0
    have e : f 0 = g 0 ∧ packN n (fun k => f (k + 1)) = packN n (fun k => g (k + 1)) := by omega
    cases k with
    | zero => exact e.1
    | succ k => exact ih (f := fun k => f (k + 1)) (g := fun k => g (k + 1)) (fun k => hf (k + 1)) (fun k => hg (k + 1)) e.2 k (by omega)
theorem neq_pack {f g : Nat → UInt32} (h : neqN n (pack n f) (pack n g) = true) : ∀ k, k < n → f k ≠ g k := by
  intro k hk e
  have h := beq_iff_eq.1 h
  have hb : ∀ k, (f k ^^^ g k).toNat + (2 ^ 32 - 1) < 2 ^ 64 := fun k => by have := (f k ^^^ g k).toNat_lt; omega
  rw [pack_xor, mask_eq, ones_mul] at h
  unfold pack at h
  rw [packN_add, packN_and n _ _ hb (fun _ => by decide)] at h
  have h := packN_inj (fun k => Nat.and_lt_two_pow _ (by decide)) (fun _ => by decide) h k hk
  rw [e, UInt32.xor_self] at h
  revert h
  decide
def allNe (n : Nat) : List Nat → Bool
  | [] => true
  | x :: l => (l.all fun y => neqN n x y) && allNe n l
/-- The words of the message of the seeds off, off + 1, .. -/
def seedN (n off : Nat) : List Nat := [0, iota n off, 0, ones n * 2147483648, 0, 0, 0, 0, 0, 0, 0, 0, 0, 0, 0, ones n * 96]
def headOff (n off : Nat) : Nat := headN n (seedN n off)
/-- What is hashed for a seed. -/
def msgB (s : Nat) : List UInt8 := tailB (putL 8 (UInt64.ofNat s) ++ putL 4 (UInt64.ofNat 0)) 12
theorem or4 {a b c d : Nat} (hb : b < 256) (hc : c < 256) (hd : d < 256) : (2 ^ 24 * a ||| 2 ^ 16 * b ||| 2 ^ 8 * c ||| d) = 2 ^ 24 * a + 2 ^ 16 * b + 2 ^ 8 * c + d := by
  have h1 := Nat.two_pow_add_eq_or_of_lt (i := 24) (b := 2 ^ 16 * b) (by omega) a
  rw [← h1]
  have h2 := Nat.two_pow_add_eq_or_of_lt (i := 16) (b := 2 ^ 8 * c) (by omega) (2 ^ 8 * a + b)
  have e2 : 2 ^ 16 * (2 ^ 8 * a + b) = 2 ^ 24 * a + 2 ^ 16 * b := by omega
  rw [e2] at h2
  rw [← h2]
  have h3 := Nat.two_pow_add_eq_or_of_lt (i := 8) (b := d) (by omega) (2 ^ 16 * a + 2 ^ 8 * b + c)
  have e3 : 2 ^ 8 * (2 ^ 16 * a + 2 ^ 8 * b + c) = 2 ^ 24 * a + 2 ^ 16 * b + 2 ^ 8 * c := by omega
  rw [e3] at h3
  rw [← h3]
theorem bt3 (x : Nat) : x / 256 / 256 / 256 % 256 * 16777216 % 4294967296 = 16777216 * (x / 256 / 256 / 256 % 256) := by omega
theorem bt2 (x : Nat) : x / 256 / 256 % 256 * 65536 % 4294967296 = 65536 * (x / 256 / 256 % 256) := by omega
theorem bt1 (x : Nat) : x / 256 % 256 * 256 % 4294967296 = 256 * (x / 256 % 256) := by omega
theorem bt (x : Nat) : 16777216 * (x / 256 / 256 / 256 % 256) + 65536 * (x / 256 / 256 % 256) + 256 * (x / 256 % 256) + x % 256 = x % 4294967296 := by omega
theorem word4 (v : UInt64) : ((v >>> 8 >>> 8 >>> 8).toUInt8.toUInt32 <<< 24 ||| (v >>> 8 >>> 8).toUInt8.toUInt32 <<< 16 ||| (v >>> 8).toUInt8.toUInt32 <<< 8 ||| v.toUInt8.toUInt32) = v.toUInt32 := by
  apply UInt32.toNat_inj.1
  have hv := v.toNat_lt
  simp only [UInt32.toNat_or, UInt32.toNat_shiftLeft, UInt8.toNat_toUInt32, UInt64.toNat_toUInt8, UInt64.toNat_shiftRight, UInt64.toNat_toUInt32, Nat.shiftRight_eq_div_pow, Nat.shiftLeft_eq]
  have r8 : (8 : UInt64).toNat % 64 = 8 := rfl
  have s8 : (8 : UInt32).toNat % 32 = 8 := rfl
  have s16 : (16 : UInt32).toNat % 32 = 16 := rfl
  have s24 : (24 : UInt32).toNat % 32 = 24 := rfl
  rw [r8, s8, s16, s24]
  generalize v.toNat = x at *
  have h4 : ∀ {a b c d : Nat}, b < 256 → c < 256 → d < 256 → (16777216 * a ||| 65536 * b ||| 256 * c ||| d) = 16777216 * a + 65536 * b + 256 * c + d := fun hb hc hd => or4 hb hc hd
  clear hv
  simp only [Nat.reducePow]
  rw [bt3, bt2, bt1, h4 (by omega) (by omega) (by omega)]
  exact bt x
theorem msg_words {s : Nat} (hs : s < 2 ^ 32) : (List.range 16).map (inW (msgB s)) = [0, UInt32.ofNat s, 0, 2147483648, 0, 0, 0, 0, 0, 0, 0, 0, 0, 0, 0, 96] := by
  have hv : (UInt64.ofNat s).toUInt32 = UInt32.ofNat s := by
    apply UInt32.toNat_inj.1
    rw [UInt64.toNat_toUInt32, UInt64.toNat_ofNat', UInt32.toNat_ofNat']
    omega
  have hz : (UInt64.ofNat s >>> 8 >>> 8 >>> 8 >>> 8) = 0 := by
    apply UInt64.toNat_inj.1
    have r8 : (8 : UInt64).toNat % 64 = 8 := rfl
    simp only [UInt64.toNat_shiftRight, UInt64.toNat_ofNat', Nat.shiftRight_eq_div_pow, r8]
    have z : (0 : UInt64).toNat = 0 := rfl
    rw [z]
    omega
  have hw := word4 (UInt64.ofNat s)
  rw [hv] at hw
  have hm : msgB s = (0 : UInt8) :: 0 :: 0 :: 0 :: (UInt64.ofNat s >>> 8 >>> 8 >>> 8).toUInt8 :: (UInt64.ofNat s >>> 8 >>> 8).toUInt8 :: (UInt64.ofNat s >>> 8).toUInt8 :: (UInt64.ofNat s).toUInt8 ::
      (putL 4 0 ++ 128 :: (List.replicate 43 0 ++ putL 8 96)) := by
    have l12 : (putL 8 (UInt64.ofNat s) ++ putL 4 (UInt64.ofNat 0)).length = 12 := by simp [putL_length]
    have e8 : putL 8 (UInt64.ofNat s) = [(0 : UInt8), 0, 0, 0, (UInt64.ofNat s >>> 8 >>> 8 >>> 8).toUInt8, (UInt64.ofNat s >>> 8 >>> 8).toUInt8, (UInt64.ofNat s >>> 8).toUInt8, (UInt64.ofNat s).toUInt8] := by
      simp only [putL, hz, List.nil_append, List.cons_append]
      congr 1
    unfold msgB tailB
    rw [l12, e8, show tailN 12 = 43 from rfl]
    simp only [List.nil_append, List.cons_append, List.append_assoc]
    rfl
  have h1 : inW (msgB s) 1 = UInt32.ofNat s := by rw [hm]; exact hw
  have hr : ∀ t, 2 ≤ t → inW (msgB s) t = inW (putL 4 0 ++ 128 :: (List.replicate 43 0 ++ putL 8 96)) (t - 2) := by
    intro t ht
    obtain ⟨u, rfl⟩ : ∃ u, t = u + 2 := ⟨t - 2, by omega⟩
    rw [hm]
    have e : ∀ j, 4 * (u + 2) + j = (4 * u + j) + 8 := fun j => by omega
    unfold inW b'
    have e0 := e 0
    simp only [Nat.add_zero] at e0
    rw [e 1, e 2, e 3, e0, Nat.add_sub_cancel]
    rfl
  have h0' : inW (msgB s) 0 = 0 := by rw [hm]; simp [inW, b']
  show [inW (msgB s) 0, inW (msgB s) 1, inW (msgB s) 2, inW (msgB s) 3, inW (msgB s) 4, inW (msgB s) 5, inW (msgB s) 6, inW (msgB s) 7, inW (msgB s) 8, inW (msgB s) 9, inW (msgB s) 10, inW (msgB s) 11, inW (msgB s) 12, inW (msgB s) 13, inW (msgB s) 14, inW (msgB s) 15] = _
  rw [h0', h1, hr 2 (by omega), hr 3 (by omega), hr 4 (by omega), hr 5 (by omega), hr 6 (by omega), hr 7 (by omega), hr 8 (by omega), hr 9 (by omega), hr 10 (by omega), hr 11 (by omega), hr 12 (by omega), hr 13 (by omega), hr 14 (by omega), hr 15 (by omega)]
  congr 2
theorem seed_rl {off : Nat} (h : off + n ≤ 2 ^ 32) : RL n (seedN n off) fun k => (List.range 16).map (inW (msgB (k + off))) := by
  refine ⟨fun k => by simp [seedN], fun i => ?_⟩
  have e : pack n (fun k => w' ((List.range 16).map (inW (msgB (k + off)))) i) = pack n (fun k => w' [0, UInt32.ofNat (k + off), 0, 2147483648, 0, 0, 0, 0, 0, 0, 0, 0, 0, 0, 0, 96] i) :=
    packN_congr fun k hk => by show UInt32.toNat (w' ((List.range 16).map (inW (msgB (k + off)))) i) = _; rw [msg_words (by omega)]
  rw [e]
  have hi : iota n off = pack n fun k => UInt32.ofNat (k + off) := by
    rw [iota_eq]
    refine packN_congr fun k hk => ?_
    rw [UInt32.toNat_ofNat', Nat.mod_eq_of_lt]
    omega
  have z := (pack_zero (n := n)).symm
  have c1 := pack_const (n := n) 2147483648
  have c2 := pack_const (n := n) 96
  exact (RL.cons z (RL.cons hi (RL.cons z (RL.cons c1 (RL.cons z (RL.cons z (RL.cons z (RL.cons z (RL.cons z (RL.cons z (RL.cons z (RL.cons z (RL.cons z (RL.cons z (RL.cons z (RL.cons c2 RL.nil)))))))))))))))).at' i
theorem putL4_inj {x y : UInt32} (h : putL 4 x.toUInt64 = putL 4 y.toUInt64) : x = y := by
  simp only [putL, List.nil_append, List.cons_append, List.cons.injEq, and_true] at h
  obtain ⟨h1, h2, h3, h4⟩ := h
  have hx := word4 x.toUInt64
  have hy := word4 y.toUInt64
  rw [h1, h2, h3, h4, hy] at hx
  simpa using hx.symm
theorem sha_head (s : Nat) : (wbF s 0).take 4 = putL 4 (w' (block h0 (msgB s)) 0).toUInt64 := by
  have l : (putL 8 (UInt64.ofNat s) ++ putL 4 (UInt64.ofNat 0)).length = 12 := by simp [putL_length]
  unfold wbF sha
  rw [l]
  show (fin h0 (putL 8 (UInt64.ofNat s) ++ putL 4 (UInt64.ofNat 0)) 12).take 4 = _
  unfold fin outB
  have lt : (tailB (putL 8 (UInt64.ofNat s) ++ putL 4 (UInt64.ofNat 0)) 12).length = 64 := by rw [tailB_length, l]; rfl
  rw [lt]
  have eb : blocks h0 (tailB (putL 8 (UInt64.ofNat s) ++ putL 4 (UInt64.ofNat 0)) 12) (64 / 64) = block h0 (msgB s) := by
    show block h0 (((tailB (putL 8 (UInt64.ofNat s) ++ putL 4 (UInt64.ofNat 0)) 12).drop 0).take 64) = _
    rw [List.drop_zero, List.take_of_length_le (by omega)]
    rfl
  rw [eb]
  have e8 : outTo (block h0 (msgB s)) 8 = putL 4 (w' (block h0 (msgB s)) 0).toUInt64 ++ ((List.range 7).map fun i => putL 4 (w' (block h0 (msgB s)) (i + 1)).toUInt64).flatten := rfl
  rw [e8]
  exact List.take_left' (putL_length _ _)
theorem head_ne {a b : Nat} (ha : a + n ≤ 2 ^ 32) (hb : b + n ≤ 2 ^ 32) (h : neqN n (headOff n a) (headOff n b) = true) : ∀ s, s < n → wbF (s + a) 0 ≠ wbF (s + b) 0 := by
  intro s hs e
  have h1 : headOff n a = pack n fun k => w' (block h0 (msgB (k + a))) 0 := head_pack (seed_rl ha)
  have h2 : headOff n b = pack n fun k => w' (block h0 (msgB (k + b))) 0 := head_pack (seed_rl hb)
  rw [h1, h2] at h
  refine neq_pack h s hs (putL4_inj ?_)
  rw [← sha_head, ← sha_head, e]
theorem wbytes_head {s m : Nat} (hm : 32 ≤ m) : (wbytes s m).take 32 = wbF s 0 := by
  obtain ⟨k, hk⟩ : ∃ k, (m + 31) / 32 = k + 1 := ⟨(m + 31) / 32 - 1, by omega⟩
  unfold wbytes
  rw [hk, List.take_take, Nat.min_eq_left hm]
  have e : wbTo s (k + 1) = wbF s 0 ++ ((List.range k).map fun i => wbF s (i + 1)).flatten := by
    unfold wbTo
    rw [List.range_succ_eq_map]
    simp [List.map_map, Function.comp_def]
  rw [e]
  exact List.take_left' (sha_length _)
theorem wbytes_ne {a b m : Nat} (h : wbF a 0 ≠ wbF b 0) (hm : 32 ≤ m) : wbytes a m ≠ wbytes b m := by
  intro e
  apply h
  rw [← wbytes_head (s := a) hm, ← wbytes_head (s := b) hm, e]
/-- The seeds behind different offsets have different bytes. -/
theorem all_ne {m : Nat} (hm : 32 ≤ m) : ∀ {offs : List Nat}, (∀ o ∈ offs, o + n ≤ 2 ^ 32) → allNe n (offs.map (headOff n)) = true → ∀ s, s < n → offs.Pairwise fun a b => wbytes (s + a) m ≠ wbytes (s + b) m := by
  intro offs
  induction offs with
  | nil => intro _ _ s _; exact List.Pairwise.nil
  | cons o offs ih =>
    intro hb h s hs
    rw [List.map_cons, allNe, Bool.and_eq_true] at h
    refine List.Pairwise.cons (fun b hbm => ?_) (ih (fun o ho => hb o (List.mem_cons_of_mem _ ho)) h.2 s hs)
    have := List.all_eq_true.1 h.1 _ (List.mem_map_of_mem hbm)
    exact wbytes_ne (head_ne (hb _ (List.mem_cons_self ..)) (hb _ (List.mem_cons_of_mem _ hbm)) this s hs) hm
end Go.Lane

/- The cookies that the statements about jars draw differ. No program. -/
namespace Go.Lane
open Go.Sha
def offsK : List Nat := ((List.range 8).map fun i => 1000003 * (i + 1)) ++ (List.range 11).map fun i => 9000000 * (i + 1)
theorem offsK_ne : allNe 1024 (offsK.map (headOff 1024)) = true := by decide +kernel
theorem offsK_le : ∀ o ∈ offsK, o + 1024 ≤ 2 ^ 32 := by decide
/-- Of seeds up to 1023: the cookies of a jar, and those that are put. -/
theorem cookiesK {s : Nat} (hs : s < 1024) : offsK.Pairwise fun a b => wbytes (s + a) 104 ≠ wbytes (s + b) 104 := all_ne (by decide) offsK_le offsK_ne s hs
end Go.Lane
