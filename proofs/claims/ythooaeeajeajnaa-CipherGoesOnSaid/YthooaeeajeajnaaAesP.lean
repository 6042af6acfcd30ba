/- AES-128 as plain functions on bytes. -/
namespace Go.Aes
/-- The S-box. -/
def box : List UInt8 := [
  99, 124, 119, 123, 242, 107, 111, 197, 48, 1, 103, 43, 254, 215, 171, 118,
  202, 130, 201, 125, 250, 89, 71, 240, 173, 212, 162, 175, 156, 164, 114, 192,
  183, 253, 147, 38, 54, 63, 247, 204, 52, 165, 229, 241, 113, 216, 49, 21,
  4, 199, 35, 195, 24, 150, 5, 154, 7, 18, 128, 226, 235, 39, 178, 117,
  9, 131, 44, 26, 27, 110, 90, 160, 82, 59, 214, 179, 41, 227, 47, 132,
  83, 209, 0, 237, 32, 252, 177, 91, 106, 203, 190, 57, 74, 76, 88, 207,
  208, 239, 170, 251, 67, 77, 51, 133, 69, 249, 2, 127, 80, 60, 159, 168,
  81, 163, 64, 143, 146, 157, 56, 245, 188, 182, 218, 33, 16, 255, 243, 210,
  205, 12, 19, 236, 95, 151, 68, 23, 196, 167, 126, 61, 100, 93, 25, 115,
  96, 129, 79, 220, 34, 42, 144, 136, 70, 238, 184, 20, 222, 94, 11, 219,
  224, 50, 58, 10, 73, 6, 36, 92, 194, 211, 172, 98, 145, 149, 228, 121,
  231, 200, 55, 109, 141, 213, 78, 169, 108, 86, 244, 234, 101, 122, 174, 8,
  186, 120, 37, 46, 28, 166, 180, 198, 232, 221, 116, 31, 75, 189, 139, 138,
  112, 62, 181, 102, 72, 3, 246, 14, 97, 53, 87, 185, 134, 193, 29, 158,
  225, 248, 152, 17, 105, 217, 142, 148, 155, 30, 135, 233, 206, 85, 40, 223,
  140, 161, 137, 13, 191, 230, 66, 104, 65, 153, 45, 15, 176, 84, 187, 22]
def sub (x : UInt8) : UInt8 := box.getD x.toNat 0
/-- The product of a byte and 2. -/
def dbl (x : UInt8) : UInt8 := if x &&& 128 != 0 then (x <<< 1) ^^^ 27 else x <<< 1
def at' (l : List UInt8) (i : Nat) : UInt8 := l.getD i 0
def xorF (l m : List UInt8) (i : Nat) : UInt8 := at' l i ^^^ at' m i
def xor16 (l m : List UInt8) : List UInt8 := (List.range 16).map (xorF l m)
def repF (l : List UInt8) (i : Nat) : UInt8 := sub (at' l ((i + 4 * (i % 4)) % 16))
def rep (l : List UInt8) : List UInt8 := (List.range 16).map (repF l)
def mixF (l : List UInt8) (i : Nat) : UInt8 :=
  at' l i ^^^ (at' l (i / 4 * 4) ^^^ at' l (i / 4 * 4 + 1) ^^^ at' l (i / 4 * 4 + 2) ^^^ at' l (i / 4 * 4 + 3)) ^^^ dbl (at' l i ^^^ at' l (i / 4 * 4 + (i % 4 + 1) % 4))
def mix (l : List UInt8) : List UInt8 := (List.range 16).map (mixF l)
/-- Behind so many rounds; ks: the keys of the rounds behind each other. -/
def key (ks : List UInt8) (r : Nat) : List UInt8 := (ks.drop (16 * r)).take 16
def rounds (ks l : List UInt8) : Nat → List UInt8
  | 0 => xor16 l (key ks 0)
  | r + 1 => xor16 (if r + 1 < 10 then mix (rep (rounds ks l r)) else rep (rounds ks l r)) (key ks (r + 1))
def enc (ks l : List UInt8) : List UInt8 := rounds ks l 10
/-- The constant behind so many keys, and the words. -/
def con : Nat → UInt8
  | 0 => 1
  | n + 1 => dbl (con n)
/-- Word i of the keys, out of those ahead of it. -/
def word (ws : List UInt8) (i : Nat) : List UInt8 :=
  let t := (ws.drop (4 * i - 4)).take 4
  let t := if i % 4 = 0 then [sub (at' t 1) ^^^ con (i / 4 - 1), sub (at' t 2), sub (at' t 3), sub (at' t 0)] else t
  [at' ws (4 * i - 16) ^^^ at' t 0, at' ws (4 * i - 15) ^^^ at' t 1, at' ws (4 * i - 14) ^^^ at' t 2, at' ws (4 * i - 13) ^^^ at' t 3]
def words (key : List UInt8) : Nat → List UInt8
  | 0 => key
  | n + 1 => words key n ++ word (words key n) (n + 4)
/-- All keys of the rounds. -/
def expand (key : List UInt8) : List UInt8 := words key 40
def block (key l : List UInt8) : List UInt8 := enc (expand key) l
theorem at_get (l : List UInt8) (i : Nat) (h : i < l.length) : at' l i = l[i] := by simp [at', h]
theorem range16_length (f : Nat → UInt8) : ((List.range 16).map f).length = 16 := by simp
theorem rounds_length (ks l : List UInt8) (r : Nat) : (rounds ks l r).length = 16 := by
  cases r <;> simp [rounds, xor16]
theorem word_length (ws : List UInt8) (i : Nat) : (word ws i).length = 4 := rfl
theorem words_length (key : List UInt8) (n : Nat) (h : key.length = 16) : (words key n).length = 16 + 4 * n := by
  induction n with
  | zero => simpa [words] using h
  | succ n ih => simp only [words, List.length_append, word_length, ih]; omega
theorem key_length (ks : List UInt8) (r : Nat) (h : ks.length = 176) (hr : r ≤ 10) : (key ks r).length = 16 := by
  simp [key, h]; omega
theorem mixF0 (l : List UInt8) (c : Nat) : mixF l (4 * c) = at' l (4 * c) ^^^ (at' l (4 * c) ^^^ at' l (4 * c + 1) ^^^ at' l (4 * c + 2) ^^^ at' l (4 * c + 3)) ^^^ dbl (at' l (4 * c) ^^^ at' l (4 * c + 1)) := by
  have h1 : (4 * c) / 4 * 4 = 4 * c := by omega
  have h2 : ((4 * c) % 4 + 1) % 4 = 1 := by omega
  simp only [mixF, h1, h2]
theorem mixF1 (l : List UInt8) (c : Nat) : mixF l (4 * c + 1) = at' l (4 * c + 1) ^^^ (at' l (4 * c) ^^^ at' l (4 * c + 1) ^^^ at' l (4 * c + 2) ^^^ at' l (4 * c + 3)) ^^^ dbl (at' l (4 * c + 1) ^^^ at' l (4 * c + 2)) := by
  have h1 : (4 * c + 1) / 4 * 4 = 4 * c := by omega
  have h2 : ((4 * c + 1) % 4 + 1) % 4 = 2 := by omega
  simp only [mixF, h1, h2]
theorem mixF2 (l : List UInt8) (c : Nat) : mixF l (4 * c + 2) = at' l (4 * c + 2) ^^^ (at' l (4 * c) ^^^ at' l (4 * c + 1) ^^^ at' l (4 * c + 2) ^^^ at' l (4 * c + 3)) ^^^ dbl (at' l (4 * c + 2) ^^^ at' l (4 * c + 3)) := by
  have h1 : (4 * c + 2) / 4 * 4 = 4 * c := by omega
  have h2 : ((4 * c + 2) % 4 + 1) % 4 = 3 := by omega
  simp only [mixF, h1, h2]
theorem mixF3 (l : List UInt8) (c : Nat) : mixF l (4 * c + 3) = at' l (4 * c + 3) ^^^ (at' l (4 * c) ^^^ at' l (4 * c + 1) ^^^ at' l (4 * c + 2) ^^^ at' l (4 * c + 3)) ^^^ dbl (at' l (4 * c + 3) ^^^ at' l (4 * c)) := by
  have h1 : (4 * c + 3) / 4 * 4 = 4 * c := by omega
  have h2 : ((4 * c + 3) % 4 + 1) % 4 = 0 := by omega
  simp only [mixF, h1, h2]; simp
example : block [0,1,2,3,4,5,6,7,8,9,10,11,12,13,14,15] [0x00,0x11,0x22,0x33,0x44,0x55,0x66,0x77,0x88,0x99,0xaa,0xbb,0xcc,0xdd,0xee,0xff] = [0x69,0xc4,0xe0,0xd8,0x6a,0x7b,0x04,0x30,0xd8,0xcd,0xb7,0x80,0x70,0xb4,0xc5,0x5a] := by decide +kernel
end Go.Aes
