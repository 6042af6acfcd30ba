/- How words of 32 bits reckon. -/
import Derived.Test.YthooaeeajeajnaaArr2
namespace Go.Sec
open Go.RowKit
section words
variable (x y : UInt32)
@[go_sem] theorem n32_ge : 0 ≤ n32 x := by unfold n32; omega
theorem n32_lt : n32 x < 4294967296 := by have := x.toNat_lt; unfold n32; omega
@[go_sem] theorem n32_toNat : (n32 x).toNat = x.toNat := by unfold n32; simp
theorem n32_inj {x y : UInt32} : n32 x = n32 y ↔ x = y := by unfold n32; rw [← UInt32.toNat_inj]; omega
theorem bv32 : (BitVec.ofInt 32 (n32 x)) = x.toBitVec := by unfold n32; rw [BitVec.ofInt_natCast]; exact BitVec.eq_of_toNat_eq (by simp)
theorem w32 (b : BitVec 32) : IntKind.u32.wrap (b.toNat : Int) = (b.toNat : Int) := by
  have := b.isLt
  rw [IntKind.wrap_u32]; omega
@[go_sem] theorem u32_and : bits .and .u32 (n32 x) (n32 y) = n32 (x &&& y) := by
  show IntKind.u32.wrap ((BitVec.ofInt 32 (n32 x) &&& BitVec.ofInt 32 (n32 y)).toNat : Int) = _
  rw [bv32, bv32, w32]; rfl
@[go_sem] theorem u32_or : bits .or .u32 (n32 x) (n32 y) = n32 (x ||| y) := by
  show IntKind.u32.wrap ((BitVec.ofInt 32 (n32 x) ||| BitVec.ofInt 32 (n32 y)).toNat : Int) = _
  rw [bv32, bv32, w32]; rfl
@[go_sem] theorem u32_xor : bits .xor .u32 (n32 x) (n32 y) = n32 (x ^^^ y) := by
  show IntKind.u32.wrap ((BitVec.ofInt 32 (n32 x) ^^^ BitVec.ofInt 32 (n32 y)).toNat : Int) = _
  rw [bv32, bv32, w32]; rfl
@[go_sem] theorem u32_wrap : IntKind.u32.wrap (n32 x) = n32 x := w32 x.toBitVec
@[go_sem] theorem wrap32_add : IntKind.u32.wrap (n32 x + n32 y) = n32 (x + y) := by
  unfold n32; rw [IntKind.wrap_u32, UInt32.toNat_add]; omega
@[go_sem] theorem mod32_add : (n32 x + n32 y) % 4294967296 = n32 (x + y) := by
  unfold n32; rw [UInt32.toNat_add]; omega
@[go_sem] theorem wrap32_n8 (b : UInt8) : IntKind.u32.wrap (n8 b) = n32 b.toUInt32 := by
  have := b.toNat_lt
  unfold n8 n32; rw [IntKind.wrap_u32, UInt8.toNat_toUInt32]; omega
@[go_sem] theorem wrap64_n32 : IntKind.u64.wrap (n32 x) = n64 x.toUInt64 := by
  have := x.toNat_lt
  unfold n32 n64; rw [IntKind.wrap_u64, UInt32.toNat_toUInt64]; omega
@[go_sem] theorem u32_not : IntKind.u32.wrap (-n32 x - 1) = n32 (~~~x) := by
  have := x.toNat_lt
  unfold n32; rw [IntKind.wrap_u32, UInt32.toNat_not]
  have : UInt32.size = 4294967296 := rfl
  omega
@[go_sem] theorem u32_not2 : bits .xor .u32 IntKind.u32.max (n32 x) = n32 (~~~x) := by
  have h : (4294967295 : Int) = n32 (4294967295 : UInt32) := rfl
  show bits .xor .u32 4294967295 (n32 x) = _
  rw [h, u32_xor]
  congr 1
@[go_sem] theorem u32_signed : IntKind.u32.signed = false := rfl
@[go_sem] theorem u64_signed : IntKind.u64.signed = false := rfl
@[go_sem] theorem u8_signed : IntKind.u8.signed = false := rfl
@[go_sem ↓ high] theorem not32 : Op.unary .xor (u32v x) = pure (u32v (~~~x)) := by
  show (pure (Value.int .u32 (bits .xor .u32 IntKind.u32.max (n32 x))) : Sem Value) = _
  rw [u32_not2]
@[go_sem ↓ high] theorem shl32_lit (yk : IntKind) (k : Nat) (hk : k < 32) : Op.shift .shl .u32 (n32 x) yk (no_index (OfNat.ofNat k)) = pure (u32v (x <<< OfNat.ofNat k)) := by
  rw [shift_shl_any _ _ _ _ (by exact Int.natCast_nonneg k)]
  have e : (x <<< (OfNat.ofNat k : UInt32)).toNat = x.toNat * 2 ^ k % 4294967296 := by
    show (x <<< UInt32.ofNat k).toNat = _
    rw [UInt32.toNat_shiftLeft, UInt32.toNat_ofNat', Nat.mod_eq_of_lt (show k < 2 ^ 32 by omega), Nat.mod_eq_of_lt hk, Nat.shiftLeft_eq]
  unfold u32v n32
  rw [e, IntKind.wrap_u32]
  have h2 : min ((OfNat.ofNat k : Int)).toNat IntKind.u32.bits = k := by
    show min ((k : Int)).toNat 32 = k
    rw [Int.toNat_natCast]; omega
  rw [h2]
  congr 2
theorem shr32 (k : Nat) (hk : k < 32) : n32 x / ((2 ^ k : Nat) : Int) = n32 (x >>> UInt32.ofNat k) := by
  have : (x >>> UInt32.ofNat k).toNat = x.toNat / 2 ^ k := by
    rw [UInt32.toNat_shiftRight, UInt32.toNat_ofNat', Nat.mod_eq_of_lt (show k < 2 ^ 32 by omega), Nat.mod_eq_of_lt hk, Nat.shiftRight_eq_div_pow]
  unfold n32; rw [this]; simp
@[go_sem ↓ high] theorem shr32_lit (yk : IntKind) (k : Nat) (hk : k < 32) : Op.shift .shr .u32 (n32 x) yk (no_index (OfNat.ofNat k)) = pure (u32v (x >>> OfNat.ofNat k)) := by
  rw [shift_shr_any _ _ _ _ (by exact Int.natCast_nonneg k)]
  have h2 : min ((OfNat.ofNat k : Int)).toNat IntKind.u32.bits = k := by
    show min ((k : Int)).toNat 32 = k
    rw [Int.toNat_natCast]; omega
  rw [h2]
  have := shr32 x k hk
  unfold u32v
  congr 2
end words
end Go.Sec
