/- SHA-256 of bytes, as plain functions. No program. -/
import Derived.Test.YthooaeeajeajnaaShaP
import Derived.Test.YthooaeeajeajnaaOctP
namespace Go.Sha
open Go.Oct
/-- What is hashed behind the full blocks. -/
def tailN (n : Nat) : Nat := (120 - (n + 1) % 64) % 64
def tailB (rest : List UInt8) (count : Nat) : List UInt8 := rest ++ [128] ++ List.replicate (tailN rest.length) 0 ++ putL 8 (UInt64.ofNat (count * 8))
def outTo (h : List UInt32) (k : Nat) : List UInt8 := ((List.range k).map fun i => putL 4 (w' h i).toUInt64).flatten
def outB (h : List UInt32) : List UInt8 := outTo h 8
def fin (h : List UInt32) (rest : List UInt8) (count : Nat) : List UInt8 := outB (blocks h (tailB rest count) ((tailB rest count).length / 64))
def sha (b : List UInt8) : List UInt8 := fin (blocks h0 b (b.length / 64)) (b.drop (b.length / 64 * 64)) b.length
theorem tailN_lt (n : Nat) : tailN n < 64 := Nat.mod_lt _ (by omega)
theorem tail_stop (n : Nat) : (n + 1 + tailN n) % 64 = 56 := by unfold tailN; omega
theorem tail_go (n m : Nat) (h : m < tailN n) : (n + 1 + m) % 64 ≠ 56 := by unfold tailN at h; omega
theorem tailB_length (rest : List UInt8) (count : Nat) : (tailB rest count).length = rest.length + 1 + tailN rest.length + 8 := by simp [tailB, putL_length]; omega
theorem tailB_mod (rest : List UInt8) (count : Nat) : (tailB rest count).length % 64 = 0 := by
  rw [tailB_length]; have := tail_stop rest.length; omega
theorem outTo_succ (h : List UInt32) (k : Nat) : outTo h (k + 1) = outTo h k ++ putL 4 (w' h k).toUInt64 := by
  simp [outTo, List.range_succ]
theorem outTo_length (h : List UInt32) (k : Nat) : (outTo h k).length = 4 * k := by
  induction k with
  | zero => rfl
  | succ k ih => rw [outTo_succ, List.length_append, ih, putL_length]; omega
theorem fin_length (h : List UInt32) (rest : List UInt8) (count : Nat) : (fin h rest count).length = 32 := outTo_length _ 8
theorem sha_length (b : List UInt8) : (sha b).length = 32 := fin_length _ _ _
/-- The bytes of the statements' kit: so many hashes, and so many bytes. -/
def wbF (s i : Nat) : List UInt8 := sha (putL 8 (UInt64.ofNat s) ++ putL 4 (UInt64.ofNat i))
def wbTo (s k : Nat) : List UInt8 := ((List.range k).map (wbF s)).flatten
def wbytes (s n : Nat) : List UInt8 := (wbTo s ((n + 31) / 32)).take n
theorem wbTo_succ (s k : Nat) : wbTo s (k + 1) = wbTo s k ++ wbF s k := by simp [wbTo, List.range_succ]
theorem wbTo_length (s k : Nat) : (wbTo s k).length = 32 * k := by
  induction k with
  | zero => rfl
  | succ k ih => rw [wbTo_succ, List.length_append, ih, wbF, sha_length]; omega
theorem wbytes_length (s n : Nat) : (wbytes s n).length = n := by
  unfold wbytes; rw [List.length_take, wbTo_length]; omega
/- "abc" -/
example : sha [97, 98, 99] = [0xba, 0x78, 0x16, 0xbf, 0x8f, 0x01, 0xcf, 0xea, 0x41, 0x41, 0x40, 0xde, 0x5d, 0xae, 0x22, 0x23, 0xb0, 0x03, 0x61, 0xa3, 0x96, 0x17, 0x7a, 0x9c, 0xb4, 0x10, 0xff, 0x61, 0xf2, 0x00, 0x15, 0xad] := by decide +kernel
end Go.Sha
