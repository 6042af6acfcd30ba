/- The call's own bytes: a prefix, a byte read, a byte written. -/
import Derived.Test.YthooaeeajeajnaaArr2
namespace Go.Sec
open Go.RowKit
theorem Own.pre {w : World} {base n c : Nat} {a : Option Addr} {l : List UInt8} (h : Own w base a n c l) (m : Nat) (hm : m ≤ n) : Own w base a m c (l.take m) := by
  obtain ⟨h1, h2, h3⟩ := h
  refine ⟨by rw [List.length_take, h1]; omega, by simp; omega, ?_⟩
  rcases h3 with ⟨h3, h4⟩ | ⟨g, cap, cur, h3, h4, h5, h6, h7, h8, h9⟩
  · injection h3 with e1 e2 e3
    subst e1 e2 e3
    left
    obtain rfl : m = 0 := by omega
    exact ⟨rfl, rfl⟩
  · injection h3 with e1 e2 e3
    subst e1 e3
    refine .inr ⟨g, c, cur, rfl, h4, h5, by omega, h7, h8, ?_⟩
    rw [List.map_take, ← h9, List.take_take]
    congr 1
    omega
theorem Own.at {w : World} {base n c : Nat} {a : Option Addr} {l : List UInt8} (h : Own w base a n c l) (i : Nat) (hi : i < n) :
    ∃ g, a = some ⟨g, 0, none⟩ ∧ base ≤ g ∧ BlkLt g w ∧ w.cell? ⟨g, i, none⟩ = some (.int .u8 (n8 (l.getD i 0))) ∧ w.frozen? ⟨g, i, none⟩ = false ∧ ∀ x, Own (w.setCell ⟨g, i, none⟩ (.int .u8 (n8 x))) base a n c (l.set i x) := by
  obtain ⟨hl, ho⟩ := h
  obtain ⟨g, vs, rfl, hg, hB, hvl, hnc, hcm, htk⟩ := Blk.of_own ho (by omega)
  refine ⟨g, rfl, hg, hB.blt, ?_, hB.free i, fun x => ⟨by simpa using hl, ?_⟩⟩
  · refine hB.cell? i ?_
    have h1 : (vs.take n)[i]? = some (u8v (l.getD i 0)) := by
      rw [htk, List.getElem?_map]
      simp [show i < l.length by omega]
    rwa [List.getElem?_take, if_pos hi] at h1
  · have := (hB.set i (u8v x)).own hg n (by simp; omega) (by simp; omega)
    rw [List.length_set, hvl, List.take_set, htk, ← List.map_set] at this
    exact this
theorem Own.put {w : World} {base g n c : Nat} {l : List UInt8} (h : Own w base (some ⟨g, 0, none⟩) n c l) (i : Nat) (hi : i < n) (x : UInt8) : Own (w.setCell ⟨g, i, none⟩ (.int .u8 (n8 x))) base (some ⟨g, 0, none⟩) n c (l.set i x) := by
  obtain ⟨g', he, _, _, _, _, hs⟩ := h.at i hi
  injection he with he
  injection he with he
  subst he
  exact hs x
theorem Blk.newAt (w : World) (cs : Array Value) (t : TypeId) (g : Nat) (h : g = w.heap.size) : Blk (w.alloc (.cells cs t)) g t cs.toList := by subst h; exact Blk.new w cs t
/-- Bytes and a code: the bytes are readable, and only memory was made. -/
def Read2 (n : Nat) (l : List UInt8) (v : Value) (w : World) (e : Ending) (w' : World) : Prop :=
  ∃ a c, e = .returned (.tuple #[.slice a n c, v]) ∧ Sl w' a n l ∧ n ≤ c ∧ Ext w w'
theorem vag_read {P : Program} {f : FuncId} {args : Array Value} {w : World} {n : Nat} {l : List UInt8} {v : Value} (h : Calls P f args w (Read2 n l v w)) :
    Calls P f args w fun e w' => ∃ x, e = .returned x ∧ ∃ p : Par, x = .tuple #[.slice (p 0).1 n (p 0).2, v] ∧ Ext w w' ∧ Sl w' (p 0).1 n l ∧ n ≤ (p 0).2 :=
  h.mono fun _ _ ⟨a, c, he, hO, hc, hx⟩ => ⟨_, he, fun _ => (a, c), rfl, hx, hO, hc⟩
end Go.Sec
