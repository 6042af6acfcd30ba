/- The walks of the document's SHA-256. -/
import Derived.Test.YthooaeeajeajnaaOct
import Derived.Test.YthooaeeajeajnaaW32
import Derived.Test.YthooaeeajeajnaaShaP
namespace Go.Sec
open Go.RowKit
/-- This slice reads as these words. -/
structure Sw (w : World) (a : Option Addr) (n : Nat) (l : List UInt32) : Prop where
  len : l.length = n
  rd : Rd w a (l.map u32v)
theorem Sw.ext {w w' : World} {a : Option Addr} {n : Nat} {l : List UInt32} (h : Sw w a n l) (hx : Ext w w') : Sw w' a n l := ⟨h.len, h.rd.ext hx⟩
theorem Sw.at {w : World} {a : Option Addr} {n : Nat} {l : List UInt32} (h : Sw w a n l) (k : Nat) (hk : k < n) :
    ∃ b off, a = some ⟨b, off, none⟩ ∧ BlkLt b w ∧ w.cell? ⟨b, off + k, none⟩ = some (.int .u32 (n32 (l.getD k 0))) := by
  have hl := h.len
  obtain ⟨b, off, h1, h2, h3⟩ := h.rd.at k (by simp; omega)
  refine ⟨b, off, h1, h2, ?_⟩
  rw [h3]
  simp [show k < l.length by omega]
theorem one_u32 (l : List UInt32) : ∀ u ∈ l.map u32v, u.oneCell' = true := by
  intro u hu
  obtain ⟨x, _, rfl⟩ := List.mem_map.1 hu
  rfl
/-- Words that are filled in from the left. -/
def pad0 (l : List UInt32) (m : Nat) : List UInt32 := l ++ List.replicate (m - l.length) 0
theorem pad0_set (l : List UInt32) (m : Nat) (v : UInt32) (h : l.length < m) : (pad0 l m).set l.length v = pad0 (l ++ [v]) m := by
  unfold pad0
  rw [List.set_append_right _ _ (Nat.le_refl _), Nat.sub_self, List.length_append, List.length_singleton]
  obtain ⟨j, hj⟩ : ∃ j, m - l.length = j + 1 := ⟨m - l.length - 1, by omega⟩
  rw [hj, show m - (l.length + 1) = j by omega, List.replicate_succ, List.set_cons_zero, List.append_assoc]
  rfl
theorem pad0_get (l : List UInt32) (m k : Nat) (h : k < l.length) : (pad0 l m)[k]? = some (l.getD k 0) := by
  unfold pad0
  rw [List.getElem?_append_left h]
  simp [h]
theorem pad0_length (l : List UInt32) (m : Nat) (h : l.length ≤ m) : (pad0 l m).length = m := by simp [pad0]; omega
theorem Blk.there32 {w : World} {g m k : Nat} {T : TypeId} {l : List UInt32} (h : Blk w g T ((pad0 l m).map u32v)) (hl : l.length ≤ m) (hk : k < m) : ∃ v, w.cell? ⟨g, k, none⟩ = some v :=
  ⟨_, h.cell k (by rw [List.length_map, pad0_length _ _ hl]; exact hk)⟩
theorem Blk.push32 {w : World} {g m k : Nat} {T : TypeId} {l : List UInt32} (h : Blk w g T ((pad0 l m).map u32v)) (hl : l.length = k) (hk : k < m) (v : UInt32) : Blk (w.setCell ⟨g, k, none⟩ (.int .u32 (n32 v))) g T ((pad0 (l ++ [v]) m).map u32v) := by
  have := h.set k (u32v v)
  rwa [← List.map_set, ← hl, pad0_set _ _ _ (by omega), hl] at this
theorem Blk.at32 {w : World} {g m : Nat} {T : TypeId} {l : List UInt32} (h : Blk w g T ((pad0 l m).map u32v)) (k : Nat) (hk : k < l.length) : w.cell? ⟨g, k, none⟩ = some (.int .u32 (n32 (l.getD k 0))) :=
  h.cell? k (by rw [List.getElem?_map, pad0_get _ _ _ hk]; rfl)
theorem Sl.atD {w : World} {a : Option Addr} {n : Nat} {l : List UInt8} (h : Sl w a n l) (k : Nat) (hk : k < n) :
    ∃ b off, a = some ⟨b, off, none⟩ ∧ BlkLt b w ∧ w.cell? ⟨b, off + k, none⟩ = some (.int .u8 (n8 (l.getD k 0))) := by
  obtain ⟨b, off, h1, h2, h3⟩ := h.at k hk
  have := h.len
  exact ⟨b, off, h1, h2, by rw [h3]; simp [show k < l.length by omega]⟩
end Go.Sec
namespace Go.Proofs.Ythooaeeajeajnaa
open Go.RowKit Go.Sec Go.Oct Go.Sha BigFrame

theorem shr32_pow (x : UInt32) (k : Nat) (hk : k < 32) : n32 x / (2 : Int) ^ k = n32 (x >>> UInt32.ofNat k) := by
  have := shr32 x k hk
  rwa [Int.natCast_pow] at this
theorem shl32_pow (x : UInt32) (k : Nat) (hk : k < 32) : n32 x * (2 : Int) ^ k % 4294967296 = n32 (x <<< UInt32.ofNat k) := by
  have e : (x <<< UInt32.ofNat k).toNat = x.toNat * 2 ^ k % 4294967296 := by
    rw [UInt32.toNat_shiftLeft, UInt32.toNat_ofNat', Nat.mod_eq_of_lt (show k < 2 ^ 32 by omega), Nat.mod_eq_of_lt hk, Nat.shiftLeft_eq]
  unfold n32
  rw [e]
  simp

set_option maxRecDepth 100000 in
set_option maxHeartbeats 2000000 in
theorem turn_nat (x : UInt32) (n : Nat) (h1 : 1 ≤ n) (h2 : n ≤ 31) (w : World) :
    Calls Try.prog 99 #[.int .u32 (n32 x), .int .i64 (n : Int)] w fun e w' => e = .returned (.int .u32 (n32 (turn x n))) ∧ Ext w w' := by
  have e1 : (32 : Int) - (n : Int) = ((32 - n : Nat) : Int) := by omega
  have s1 := shr32_pow x n (by omega)
  have s2 := shl32_pow x (32 - n) (by omega)
  have HT := Lib.hid (show turn x n = (x >>> UInt32.ofNat n) ||| (x <<< UInt32.ofNat (32 - n)) from rfl)
  have hw1 : IntKind.u64.wrap (n : Int) = (n : Int) := by rw [IntKind.wrap_u64]; omega
  have hw2 : IntKind.u64.wrap ((32 - n : Nat) : Int) = ((32 - n : Nat) : Int) := by rw [IntKind.wrap_u64]; omega
  have e0 : IntKind.i64.wrap ((32 - n : Nat) : Int) = ((32 - n : Nat) : Int) := by rw [IntKind.wrap_i64]; omega
  generalize hm : 32 - n = m at *
  go_enter Try.func99, Try.ntmps99
  go_wp2
  go_returns
  exact ⟨by rw [HT.out]; rfl, Ext.refl _⟩
theorem turn_any (x : UInt32) (n : Nat) (h1 : 1 ≤ n) (h2 : n ≤ 31) (w : World) :
    Calls Try.prog 99 #[.int .u32 (n32 x), .int .i64 (OfNat.ofNat n)] w fun e w' => e = .returned (.int .u32 (n32 (turn x n))) ∧ Ext w w' := turn_nat x n h1 h2 w

end Go.Proofs.Ythooaeeajeajnaa
