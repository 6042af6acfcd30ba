/- SHA-256 as plain functions. No program. -/
namespace Go.Sha
def ks : List UInt32 := [
  0x428a2f98, 0x71374491, 0xb5c0fbcf, 0xe9b5dba5, 0x3956c25b, 0x59f111f1, 0x923f82a4, 0xab1c5ed5,
  0xd807aa98, 0x12835b01, 0x243185be, 0x550c7dc3, 0x72be5d74, 0x80deb1fe, 0x9bdc06a7, 0xc19bf174,
  0xe49b69c1, 0xefbe4786, 0x0fc19dc6, 0x240ca1cc, 0x2de92c6f, 0x4a7484aa, 0x5cb0a9dc, 0x76f988da,
  0x983e5152, 0xa831c66d, 0xb00327c8, 0xbf597fc7, 0xc6e00bf3, 0xd5a79147, 0x06ca6351, 0x14292967,
  0x27b70a85, 0x2e1b2138, 0x4d2c6dfc, 0x53380d13, 0x650a7354, 0x766a0abb, 0x81c2c92e, 0x92722c85,
  0xa2bfe8a1, 0xa81a664b, 0xc24b8b70, 0xc76c51a3, 0xd192e819, 0xd6990624, 0xf40e3585, 0x106aa070,
  0x19a4c116, 0x1e376c08, 0x2748774c, 0x34b0bcb5, 0x391c0cb3, 0x4ed8aa4a, 0x5b9cca4f, 0x682e6ff3,
  0x748f82ee, 0x78a5636f, 0x84c87814, 0x8cc70208, 0x90befffa, 0xa4506ceb, 0xbef9a3f7, 0xc67178f2]
def h0 : List UInt32 := [0x6a09e667, 0xbb67ae85, 0x3c6ef372, 0xa54ff53a, 0x510e527f, 0x9b05688c, 0x1f83d9ab, 0x5be0cd19]
def turn (x : UInt32) (n : Nat) : UInt32 := (x >>> UInt32.ofNat n) ||| (x <<< UInt32.ofNat (32 - n))
def b' (l : List UInt8) (i : Nat) : UInt8 := l.getD i 0
def w' (l : List UInt32) (i : Nat) : UInt32 := l.getD i 0
/-- The words of a block. -/
def inW (b : List UInt8) (t : Nat) : UInt32 := (b' b (4 * t)).toUInt32 <<< 24 ||| (b' b (4 * t + 1)).toUInt32 <<< 16 ||| (b' b (4 * t + 2)).toUInt32 <<< 8 ||| (b' b (4 * t + 3)).toUInt32
def s0 (x : UInt32) : UInt32 := turn x 7 ^^^ turn x 18 ^^^ (x >>> 3)
def s1 (y : UInt32) : UInt32 := turn y 17 ^^^ turn y 19 ^^^ (y >>> 10)
def nextW (l : List UInt32) (t : Nat) : UInt32 := s1 (w' l (t - 2)) + w' l (t - 7) + s0 (w' l (t - 15)) + w' l (t - 16)
def sched (b : List UInt8) : Nat → List UInt32
  | 0 => (List.range 16).map (inW b)
  | n + 1 => sched b n ++ [nextW (sched b n) (n + 16)]
def t1 (v : List UInt32) (k w : UInt32) : UInt32 := w' v 7 + (turn (w' v 4) 6 ^^^ turn (w' v 4) 11 ^^^ turn (w' v 4) 25) + ((w' v 4 &&& w' v 5) ^^^ (~~~ w' v 4 &&& w' v 6)) + k + w
def t2 (v : List UInt32) : UInt32 := (turn (w' v 0) 2 ^^^ turn (w' v 0) 13 ^^^ turn (w' v 0) 22) + ((w' v 0 &&& w' v 1) ^^^ (w' v 0 &&& w' v 2) ^^^ (w' v 1 &&& w' v 2))
def round (W : List UInt32) (v : List UInt32) (t : Nat) : List UInt32 :=
  [t1 v (w' ks t) (w' W t) + t2 v, w' v 0, w' v 1, w' v 2, w' v 3 + t1 v (w' ks t) (w' W t), w' v 4, w' v 5, w' v 6]
def rounds (W v : List UInt32) : Nat → List UInt32
  | 0 => v
  | t + 1 => round W (rounds W v t) t
def block (h : List UInt32) (b : List UInt8) : List UInt32 := (List.range 8).map fun i => w' h i + w' (rounds (sched b 48) h 64) i
def blocks (h : List UInt32) (b : List UInt8) : Nat → List UInt32
  | 0 => h
  | n + 1 => block (blocks h b n) ((b.drop (64 * n)).take 64)
def put4 (x : UInt32) : List UInt8 := [(x >>> 24).toUInt8, (x >>> 16).toUInt8, (x >>> 8).toUInt8, x.toUInt8]
def put8 (n : Nat) : List UInt8 := (List.range 8).map fun i => UInt8.ofNat (n / 256 ^ (7 - i))
/-- What is hashed behind the full blocks. -/
def tail (rest : List UInt8) (count : Nat) : List UInt8 :=
  let b := rest ++ [128]
  b ++ List.replicate ((120 - b.length % 64) % 64) 0 ++ put8 (count * 8)
def out (h : List UInt32) : List UInt8 := ((List.range 8).map fun i => put4 (w' h i)).flatten
def finish (h : List UInt32) (rest : List UInt8) (count : Nat) : List UInt8 := out (blocks h (tail rest count) ((tail rest count).length / 64))
def sum (b : List UInt8) : List UInt8 := finish (blocks h0 b (b.length / 64)) (b.drop (b.length / 64 * 64)) b.length
/- "abc" -/
example : sum [97, 98, 99] = [0xba, 0x78, 0x16, 0xbf, 0x8f, 0x01, 0xcf, 0xea, 0x41, 0x41, 0x40, 0xde, 0x5d, 0xae, 0x22, 0x23, 0xb0, 0x03, 0x61, 0xa3, 0x96, 0x17, 0x7a, 0x9c, 0xb4, 0x10, 0xff, 0x61, 0xf2, 0x00, 0x15, 0xad] := by decide +kernel
end Go.Sha
