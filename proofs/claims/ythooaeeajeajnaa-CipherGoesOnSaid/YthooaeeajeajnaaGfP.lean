/- The field of AES: products of bytes, and the S-box as the document makes it. No program. -/
import Derived.Test.YthooaeeajeajnaaAesP
namespace Go.Aes
/-- A round of the product: what is reckoned, the factor, the bits that are left. -/
def mulStep (s : UInt8 × UInt8 × UInt8) : UInt8 × UInt8 × UInt8 := (if s.2.2 &&& 1 == 1 then s.1 ^^^ s.2.1 else s.1, dbl s.2.1, s.2.2 >>> 1)
def mulSt (x y : UInt8) : Nat → UInt8 × UInt8 × UInt8
  | 0 => (0, x, y)
  | k + 1 => mulStep (mulSt x y k)
def mul (x y : UInt8) : UInt8 := (mulSt x y 8).1
def shrs : Nat → UInt8 → UInt8
  | 0, x => x
  | k + 1, x => shrs k x >>> 1
/-- The bit k of y takes x. -/
def tk (y : UInt8) (k : Nat) (x : UInt8) : UInt8 := if (shrs k y) &&& 1 == 1 then x else 0
def dbls : Nat → UInt8 → UInt8
  | 0, x => x
  | k + 1, x => dbl (dbls k x)

theorem xor_c (a b : UInt8) : a ^^^ b = b ^^^ a := UInt8.xor_comm a b
theorem xor_lc (a b c : UInt8) : a ^^^ (b ^^^ c) = b ^^^ (a ^^^ c) := by rw [← UInt8.xor_assoc, UInt8.xor_comm a b, UInt8.xor_assoc]
theorem xor_s (a b : UInt8) : a ^^^ (a ^^^ b) = b := by rw [← UInt8.xor_assoc, UInt8.xor_self, UInt8.zero_xor]

theorem dbl_eq (x : UInt8) : dbl x = (x <<< 1) ^^^ (if x &&& 128 != 0 then 27 else 0) := by unfold dbl; split <;> simp
theorem all8 (p : UInt8 → Bool) (h : ((List.range 256).all fun n => p (UInt8.ofNat n)) = true) (x : UInt8) : p x = true := by
  rw [List.all_eq_true] at h
  have := h x.toNat (List.mem_range.2 x.toNat_lt)
  rwa [UInt8.ofNat_toNat] at this
theorem and_xor (a b c : UInt8) : (a ^^^ b) &&& c = (a &&& c) ^^^ (b &&& c) := UInt8.toBitVec_inj.1 (by ext i; simp [Bool.and_xor_distrib_right])
theorem high_xor (x y : UInt8) : ((x ^^^ y) &&& 128 != 0) = ((x &&& 128 != 0) ^^ (y &&& 128 != 0)) := by
  rw [and_xor]
  have h : ∀ x : UInt8, x &&& 128 = 0 ∨ x &&& 128 = 128 := fun x => by
    have := all8 (fun x => x &&& 128 == 0 || x &&& 128 == 128) (by decide +kernel) x
    simpa using this
  rcases h x with h1 | h1 <;> rcases h y with h' | h' <;> rw [h1, h'] <;> rfl
theorem dbl_xor (x y : UInt8) : dbl (x ^^^ y) = dbl x ^^^ dbl y := by
  rw [dbl_eq, dbl_eq, dbl_eq, high_xor, UInt8.shiftLeft_xor]
  cases (x &&& 128 != 0) <;> cases (y &&& 128 != 0) <;> simp [UInt8.xor_assoc, xor_c, xor_lc, xor_s]
theorem dbl_zero : dbl 0 = 0 := rfl

theorem tk_eq (y : UInt8) (k : Nat) (x : UInt8) : tk y k x = if (shrs k y) &&& 1 == 1 then x else 0 := rfl
theorem shrs_xor (k : Nat) (x y : UInt8) : shrs k (x ^^^ y) = shrs k x ^^^ shrs k y := by
  induction k with
  | zero => rfl
  | succ k ih => simp only [shrs, ih, UInt8.shiftRight_xor]
theorem bit_xor (x y : UInt8) (k : Nat) : ((shrs k (x ^^^ y)) &&& 1 == 1) = (((shrs k x) &&& 1 == 1) ^^ ((shrs k y) &&& 1 == 1)) := by
  rw [shrs_xor, and_xor]
  have h : ∀ x : UInt8, x &&& 1 = 0 ∨ x &&& 1 = 1 := fun x => by
    have := all8 (fun x => x &&& 1 == 0 || x &&& 1 == 1) (by decide +kernel) x
    simpa using this
  rcases h (shrs k x) with h1 | h1 <;> rcases h (shrs k y) with h' | h' <;> rw [h1, h'] <;> rfl
theorem tk_xor (y : UInt8) (k : Nat) (a b : UInt8) : tk y k (a ^^^ b) = tk y k a ^^^ tk y k b := by unfold tk; split <;> simp
theorem xor_tk (y z : UInt8) (k : Nat) (a : UInt8) : tk (y ^^^ z) k a = tk y k a ^^^ tk z k a := by
  unfold tk; rw [bit_xor]
  cases ((shrs k y) &&& 1 == 1) <;> cases ((shrs k z) &&& 1 == 1) <;> simp
theorem dbls_xor (k : Nat) (a b : UInt8) : dbls k (a ^^^ b) = dbls k a ^^^ dbls k b := by
  induction k with
  | zero => rfl
  | succ k ih => simp only [dbls, ih, dbl_xor]
theorem dbls_dbl (k : Nat) (a : UInt8) : dbls k (dbl a) = dbl (dbls k a) := by
  induction k with
  | zero => rfl
  | succ k ih => simp only [dbls, ih]
def mulSum (x y : UInt8) : Nat → UInt8
  | 0 => 0
  | k + 1 => mulSum x y k ^^^ tk y k (dbls k x)
theorem mulSt_eq (x y : UInt8) (k : Nat) : mulSt x y k = (mulSum x y k, dbls k x, shrs k y) := by
  induction k with
  | zero => rfl
  | succ k ih =>
    simp only [mulSt, ih, mulStep, mulSum, dbls, shrs, tk]
    split <;> simp
theorem mulSum_left (k : Nat) (a b y : UInt8) : mulSum (a ^^^ b) y k = mulSum a y k ^^^ mulSum b y k := by
  induction k with
  | zero => simp [mulSum, dbl_zero]
  | succ k ih => simp only [mulSum, ih, dbls_xor, tk_xor]; simp only [UInt8.xor_assoc, xor_lc]
theorem mulSum_right (k : Nat) (x a b : UInt8) : mulSum x (a ^^^ b) k = mulSum x a k ^^^ mulSum x b k := by
  induction k with
  | zero => simp [mulSum, dbl_zero]
  | succ k ih => simp only [mulSum, ih, xor_tk]; simp only [UInt8.xor_assoc, xor_lc]
theorem mul_eq (x y : UInt8) : mul x y = mulSum x y 8 := by unfold mul; rw [mulSt_eq]
theorem mul_left (a b y : UInt8) : mul (a ^^^ b) y = mul a y ^^^ mul b y := by simp only [mul_eq, mulSum_left]
theorem mul_right (x a b : UInt8) : mul x (a ^^^ b) = mul x a ^^^ mul x b := by simp only [mul_eq, mulSum_right]
theorem one_mul (x : UInt8) : mul 1 x = x := by
  have := all8 (fun x => mul 1 x == x) (by decide +kernel) x
  simpa using this
theorem tk_dbl (y : UInt8) (k : Nat) (x : UInt8) : tk y k (dbl x) = dbl (tk y k x) := by unfold tk; split <;> rfl
theorem mulSum_dbl (k : Nat) (x y : UInt8) : mulSum (dbl x) y k = dbl (mulSum x y k) := by
  induction k with
  | zero => simp [mulSum, dbl_zero]
  | succ k ih => simp only [mulSum, ih, dbls_dbl, tk_dbl, dbl_xor]
theorem mul_dbl (x y : UInt8) : mul (dbl x) y = dbl (mul x y) := by simp only [mul_eq, mulSum_dbl]
theorem mul_dbls (k : Nat) (x y : UInt8) : mul (dbls k x) y = dbls k (mul x y) := by
  induction k with
  | zero => rfl
  | succ k ih => simp only [dbls, mul_dbl, ih]
/-- What adds is known by what it does to the powers of 2. -/
structure Adds (f : UInt8 → UInt8) : Prop where
  add : ∀ a b, f (a ^^^ b) = f a ^^^ f b
theorem Adds.zero {f : UInt8 → UInt8} (h : Adds f) : f 0 = 0 := by
  have := h.add 0 0
  rw [UInt8.xor_self, UInt8.xor_self] at this
  exact this
theorem Adds.tk {f : UInt8 → UInt8} (h : Adds f) (y : UInt8) (k : Nat) (x : UInt8) : f (tk y k x) = Aes.tk y k (f x) := by unfold Aes.tk; split <;> simp [h.zero]
theorem Adds.ext {f g : UInt8 → UInt8} (hf : Adds f) (hg : Adds g) (h : ∀ k, f (dbls k 1) = g (dbls k 1)) (x : UInt8) : f x = g x := by
  rw [← one_mul x, mul_eq]
  generalize 8 = n
  induction n with
  | zero => simp [mulSum, hf.zero, hg.zero]
  | succ n ih => simp only [mulSum, hf.add, hg.add, ih, hf.tk, hg.tk, h]
theorem adds_l (y : UInt8) : Adds (fun x => mul x y) := ⟨fun a b => mul_left a b y⟩
theorem adds_r (x : UInt8) : Adds (mul x) := ⟨fun a b => mul_right x a b⟩
theorem mul_one (x : UInt8) : mul x 1 = x := by
  have := all8 (fun x => mul x 1 == x) (by decide +kernel) x
  simpa using this
theorem mul_comm (x y : UInt8) : mul x y = mul y x := by
  refine Adds.ext (f := fun x => mul x y) (g := mul y) (adds_l y) (adds_r y) (fun k => ?_) x
  show mul (dbls k 1) y = mul y (dbls k 1)
  rw [mul_dbls, one_mul]
  refine Adds.ext (f := dbls k) (g := fun y => mul y (dbls k 1)) ⟨dbls_xor k⟩ (adds_l _) (fun j => ?_) y
  show dbls k (dbls j 1) = mul (dbls j 1) (dbls k 1)
  rw [mul_dbls, one_mul]
  have : ∀ i j (x : UInt8), dbls i (dbls j x) = dbls j (dbls i x) := by
    intro i j x
    induction i with
    | zero => rfl
    | succ i ih => simp only [dbls, ih, dbls_dbl]
  exact this k j 1
theorem mul_assoc (x y z : UInt8) : mul x (mul y z) = mul (mul x y) z := by
  refine Adds.ext (f := fun z => mul x (mul y z)) (g := mul (mul x y)) ⟨fun a b => by simp only [mul_right]⟩ (adds_r _) (fun k => ?_) z
  show mul x (mul y (dbls k 1)) = mul (mul x y) (dbls k 1)
  rw [mul_comm y, mul_comm (mul x y), mul_dbls, mul_dbls, one_mul, one_mul, mul_comm, mul_dbls, mul_comm y]
/-- The bits of y run out. -/
theorem mulSum_end (x y : UInt8) (k j : Nat) (h : shrs k y = 0) : mulSum x y (k + j) = mulSum x y k ∧ shrs (k + j) y = 0 := by
  induction j with
  | zero => exact ⟨rfl, h⟩
  | succ j ih =>
    rw [← Nat.add_assoc]
    simp only [mulSum, shrs, ih.1, ih.2, tk]
    simp
theorem shrs8 (y : UInt8) : shrs 8 y = 0 := by
  have := all8 (fun x => shrs 8 x == 0) (by decide +kernel) y
  simpa using this
theorem mul_of_end (x y : UInt8) (k : Nat) (hk : k ≤ 8) (h : shrs k y = 0) : mulSum x y k = mul x y := by
  have := (mulSum_end x y k (8 - k) h).1
  rw [mul_eq, ← this]; congr 1; omega
/-- y ^ n, as the document reckons it. -/
def pw (x : UInt8) : Nat → UInt8
  | 0 => 1
  | k + 1 => mul (pw x k) x
theorem pw_one (x : UInt8) : pw x 1 = x := one_mul x
theorem pw_add (x : UInt8) (i j : Nat) : pw x (i + j) = mul (pw x i) (pw x j) := by
  induction j with
  | zero => simp [pw, mul_one]
  | succ j ih => rw [← Nat.add_assoc]; simp only [pw, ih, mul_assoc]
/-- The 254th power, reckoned fast. -/
def inv (x : UInt8) : UInt8 :=
  let a2 := mul x x
  let a3 := mul a2 x
  let a6 := mul a3 a3
  let a7 := mul a6 x
  let a14 := mul a7 a7
  let a15 := mul a14 x
  let a30 := mul a15 a15
  let a31 := mul a30 x
  let a62 := mul a31 a31
  let a63 := mul a62 x
  let a126 := mul a63 a63
  let a127 := mul a126 x
  mul a127 a127
theorem inv_eq (x : UInt8) : pw x 254 = inv x := by
  have d : ∀ n, pw x (2 * n) = mul (pw x n) (pw x n) := fun n => by rw [Nat.two_mul, pw_add]
  have s : ∀ n, pw x (n + 1) = mul (pw x n) x := fun n => rfl
  simp only [inv]
  rw [show 254 = 2 * 127 from rfl, d, show 127 = 126 + 1 from rfl, s, show 126 = 2 * 63 from rfl, d, show 63 = 62 + 1 from rfl, s, show 62 = 2 * 31 from rfl, d, show 31 = 30 + 1 from rfl, s, show 30 = 2 * 15 from rfl, d, show 15 = 14 + 1 from rfl, s, show 14 = 2 * 7 from rfl, d, show 7 = 6 + 1 from rfl, s, show 6 = 2 * 3 from rfl, d, show 3 = 2 + 1 from rfl, s, show 2 = 2 * 1 from rfl, d, pw_one]
def lft (x : UInt8) (k : Nat) : UInt8 := (x <<< UInt8.ofNat k) ||| (x >>> UInt8.ofNat (8 - k))
def aff (y : UInt8) : UInt8 := y ^^^ lft y 1 ^^^ lft y 2 ^^^ lft y 3 ^^^ lft y 4 ^^^ 99
theorem sub_eq (x : UInt8) : aff (pw x 254) = sub x := by
  rw [inv_eq]
  have := all8 (fun x => aff (inv x) == sub x) (by decide +kernel) x
  simpa using this
/-- The S-box back. -/
def unbox : List UInt8 := (List.range 256).map fun n => UInt8.ofNat ((box.idxOf? (UInt8.ofNat n)).getD 0)
theorem sub_inj {x y : UInt8} (h : sub x = sub y) : x = y := by
  have hb : ∀ x : UInt8, unbox.getD (sub x).toNat 0 = x := fun x => by
    have := all8 (fun x => unbox.getD (sub x).toNat 0 == x) (by decide +kernel) x
    simpa using this
  rw [← hb x, h, hb y]
end Go.Aes
