/- CMAC and S2V as plain functions on bytes. No program. -/
import Derived.Test.YthooaeeajeajnaaPermP
namespace Go.Aes
/-- A block as a polynomial times x: the bytes ahead of the last correction, and the block. -/
def twG (l : List UInt8) (i : Nat) : UInt8 := (at' l i <<< 1) ||| (at' l (i + 1) >>> 7)
def twF (l : List UInt8) (i : Nat) : UInt8 := if i = 15 then twG l 15 ^^^ ((at' l 0 >>> 7) * 135) else twG l i
def tw (l : List UInt8) : List UInt8 := (List.range 16).map (twF l)
theorem tw_length (l : List UInt8) : (tw l).length = 16 := by simp [tw]
/-- Filled from the right. -/
def dn (f : Nat → UInt8) (k : Nat) : List UInt8 := List.replicate k 0 ++ ((List.range 16).map f).drop k
theorem dn_length (f : Nat → UInt8) (k : Nat) (h : k ≤ 16) : (dn f k).length = 16 := by simp [dn]; omega
theorem dn_full (f : Nat → UInt8) : dn f 16 = List.replicate 16 0 := by simp [dn]
theorem dn_zero (f : Nat → UInt8) : dn f 0 = (List.range 16).map f := by simp [dn]
theorem dn_set (f : Nat → UInt8) (k : Nat) (h : k < 16) : (dn f (k + 1)).set k (f k) = dn f k := by
  unfold dn
  rw [List.set_append_left _ _ (by simp), List.replicate_succ', List.set_append_right _ _ (by simp), List.append_assoc]
  congr 1
  have h2 : k < ((List.range 16).map f).length := by simpa using h
  have e := List.drop_eq_getElem_cons h2
  rw [e]
  simp
theorem tw_eq (l : List UInt8) : ((List.range 16).map (twG l)).set 15 (twG l 15 ^^^ ((at' l 0 >>> 7) * 135)) = tw l := rfl
def zero16 : List UInt8 := List.replicate 16 0
/-- Fewer than 16 bytes with a byte 128 and zeros behind them. -/
def fill (l : List UInt8) : List UInt8 := l ++ [128] ++ List.replicate (15 - l.length) 0
theorem fill_length (l : List UInt8) (h : l.length < 16) : (fill l).length = 16 := by simp [fill]; omega
/-- Behind so many full blocks. -/
def cbc (ks b : List UInt8) : Nat → List UInt8
  | 0 => zero16
  | k + 1 => enc ks (xor16 (cbc ks b k) ((b.drop (16 * k)).take 16))
theorem cbc_length (ks b : List UInt8) (k : Nat) : (cbc ks b k).length = 16 := by
  cases k with
  | zero => simp [cbc, zero16]
  | succ k => exact enc_length _ _
def last2 (whole part r : List UInt8) : List UInt8 × List UInt8 := if r.length = 16 then (r, whole) else (fill r, part)
def macW (ks whole part b : List UInt8) : List UInt8 :=
  let n := (b.length - 1) / 16
  let x := last2 whole part (b.drop (16 * n))
  enc ks (xor16 (xor16 (cbc ks b n) x.1) x.2)
theorem macW_length (ks whole part b : List UInt8) : (macW ks whole part b).length = 16 := enc_length _ _
def sub1 (ks : List UInt8) : List UInt8 := tw (enc ks zero16)
def sub2 (ks : List UInt8) : List UInt8 := tw (sub1 ks)
def mac (ks b : List UInt8) : List UInt8 := macW ks (sub1 ks) (sub2 ks) b
theorem mac_length (ks b : List UInt8) : (mac ks b).length = 16 := macW_length _ _ _ _
def cmac (key b : List UInt8) : List UInt8 := mac (expand key) b
/- RFC 4493, examples 1 and 2 -/
def ck : List UInt8 := [0x2b, 0x7e, 0x15, 0x16, 0x28, 0xae, 0xd2, 0xa6, 0xab, 0xf7, 0x15, 0x88, 0x09, 0xcf, 0x4f, 0x3c]
def cm : List UInt8 := [0x6b, 0xc1, 0xbe, 0xe2, 0x2e, 0x40, 0x9f, 0x96, 0xe9, 0x3d, 0x7e, 0x11, 0x73, 0x93, 0x17, 0x2a]
def co1 : List UInt8 := [0xbb, 0x1d, 0x69, 0x29, 0xe9, 0x59, 0x37, 0x28, 0x7f, 0xa3, 0x7d, 0x12, 0x9b, 0x75, 0x67, 0x46]
def co2 : List UInt8 := [0x07, 0x0a, 0x16, 0xb4, 0x6b, 0x4d, 0x41, 0x44, 0xf7, 0x9b, 0xdd, 0x9d, 0xd0, 0x4a, 0x28, 0x7c]
theorem cmac1 : cmac ck [] = co1 := by decide +kernel
theorem cmac2 : cmac ck cm = co2 := by decide +kernel
end Go.Aes
