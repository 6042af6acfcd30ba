/- Lemmas of this claim, several texts joined. -/
import Derived.Test.YtmmbcgbadaojeaaZ1
set_option linter.unusedVariables false
set_option linter.unusedSimpArgs false
/- HMAC and HKDF as plain functions. No program. -/
namespace Go.Sha
/-- The key of a whole block, combined with a byte. -/
def keyOf (key : List UInt8) : List UInt8 := if 64 < key.length then sha key else key
def mixed (key : List UInt8) (x : UInt8) : List UInt8 := (List.range 64).map fun i => b' (keyOf key) i ^^^ x
def hmac (key b : List UInt8) : List UInt8 := sha (mixed key 92 ++ sha (mixed key 54 ++ b))
/-- The parts of Expand, from 1 on. -/
def tK (key info : List UInt8) : Nat → List UInt8
  | 0 => []
  | i + 1 => hmac key (tK key info i ++ info ++ [UInt8.ofNat (i + 1)])
def outK (key info : List UInt8) : Nat → List UInt8
  | 0 => []
  | i + 1 => outK key info i ++ tK key info (i + 1)
def expandK (key info : List UInt8) (n : Nat) : List UInt8 := (outK key info ((n + 31) / 32)).take n
def labelK (pre name ctx : List UInt8) : List UInt8 := pre ++ [0] ++ name ++ [0] ++ sha ctx
theorem keyOf_length (key : List UInt8) : (keyOf key).length ≤ 64 := by
  unfold keyOf
  split
  · rw [sha_length]; omega
  · omega
theorem mixed_length (key : List UInt8) (x : UInt8) : (mixed key x).length = 64 := by simp [mixed]
theorem hmac_length (key b : List UInt8) : (hmac key b).length = 32 := sha_length _
theorem tK_length (key info : List UInt8) (i : Nat) (h : 0 < i) : (tK key info i).length = 32 := by
  cases i with
  | zero => omega
  | succ i => exact hmac_length _ _
theorem outK_length (key info : List UInt8) (i : Nat) : (outK key info i).length = 32 * i := by
  induction i with
  | zero => rfl
  | succ i ih => rw [outK, List.length_append, ih, tK_length _ _ _ (by omega)]; omega
theorem expandK_length (key info : List UInt8) (n : Nat) : (expandK key info n).length = n := by
  unfold expandK; rw [List.length_take, outK_length]; omega
theorem outK_prefix (key info : List UInt8) (i j : Nat) (h : i ≤ j) : (outK key info j).take (32 * i) = outK key info i := by
  induction j with
  | zero => obtain rfl : i = 0 := by omega
            rfl
  | succ j ih =>
    by_cases hij : i = j + 1
    · subst hij; rw [List.take_of_length_le (by rw [outK_length]; omega)]
    · rw [outK, List.take_append_of_le_length (by rw [outK_length]; omega)]; exact ih (by omega)
/-- Fewer bytes are the beginning of more. -/
theorem expandK_take (key info : List UInt8) (n m : Nat) (h : n ≤ m) : (expandK key info m).take n = expandK key info n := by
  unfold expandK
  rw [List.take_take, Nat.min_eq_left h, ← outK_prefix key info ((n + 31) / 32) ((m + 31) / 32) (by omega), List.take_take, Nat.min_eq_left (by omega)]
/- RFC 4231, test case 2 -/
example : hmac [74, 101, 102, 101] [119, 104, 97, 116, 32, 100, 111, 32, 121, 97, 32, 119, 97, 110, 116, 32, 102, 111, 114, 32, 110, 111, 116, 104, 105, 110, 103, 63] = [0x5b, 0xdc, 0xc1, 0x46, 0xbf, 0x60, 0x75, 0x4e, 0x6a, 0x04, 0x24, 0x26, 0x08, 0x95, 0x75, 0xc7, 0x5a, 0x00, 0x3f, 0x08, 0x9d, 0x27, 0x39, 0x83, 0x9d, 0xec, 0x58, 0xb9, 0x64, 0xec, 0x38, 0x43] := by decide +kernel
end Go.Sha
