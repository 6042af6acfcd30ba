/- Boxes that a region makes, and stores of what lies there already. -/
import Derived.Test.YthooaeeajeajnaaReg2
import Derived.Test.YthooaeeajeajnaaArr3
namespace Go.Sec
open Go.RowKit
theorem setCell_self {w : World} {g k : Nat} {T : TypeId} {vs : List Value} (h : Blk w g T vs) {v : Value} (hk : vs[k]? = some v) : w.setCell ⟨g, k, none⟩ v = w := by
  have hl : w.heap = (w.setCell ⟨g, k, none⟩ v).heap := by
    apply Array.ext_getElem?
    intro i
    by_cases hi : i = g
    · subst hi
      have := heap_setCell_same w i k _ T v h
      rw [this, h]
      have e : vs.toArray.setIfInBounds k v = vs.toArray := by
        apply Array.ext_getElem?
        intro j
        rw [Array.getElem?_setIfInBounds]
        split
        · rename_i hj
          subst hj
          split
          · simpa using hk.symm
          · rename_i hn
            have := (List.getElem?_eq_some_iff.1 hk).1
            simp at hn; omega
        · rfl
      rw [e]
    · exact (heap_setCell_other w ⟨g, k, none⟩ i v hi).symm
  have : w.setCell ⟨g, k, none⟩ v = { w with heap := (w.setCell ⟨g, k, none⟩ v).heap } := rfl
  rw [this, ← hl]
theorem setCells_self {g : Nat} {T : TypeId} {vs : List Value} : ∀ (cs : List Value) (o : Nat) (w : World), Blk w g T vs → (∀ (j : Nat) v, cs[j]? = some v → vs[o + j]? = some v) → w.setCells g o cs = w := by
  intro cs
  induction cs with
  | nil => intro o w _ _; rfl
  | cons c r ih =>
    intro o w h hv
    simp only [World.setCells]
    rw [setCell_self h (by simpa using hv 0 c rfl)]
    exact ih (o + 1) w h (fun j v hj => by have := hv (j + 1) v (by simpa using hj); rwa [show o + (j + 1) = o + 1 + j by omega] at this)
end Go.Sec
namespace Go.Sec.R2
open Go.RowKit Go.Sec
section
variable {P : Program} {ops : Array Oper} {A : List (List Nat)} {W : World} {Q : Act → World → Prop} {o : Oper} {rest : List Oper} {i : Nat} {H : List (Nat × (Par → World → Prop))} {B : List Nat} {F : Us → Act}
/-- A new variable with these zeros. -/
theorem VD_alloc {T : TypeId} (z : Value) (zs : List Value) (hz : ∀ w, (zeroValue T).run P w = .ok z w) (hzs : z.cells.toList = zs) (hg : o.guard = none) (ho : o.op = .alloc T)
    (hr : VD P ops A W Q rest (i + 1) (H ++ [(i, fun p w'' => ∃ g, (p 0).1 = some ⟨g, 0, none⟩ ∧ W.heap.size ≤ g ∧ Blk w'' g T zs)]) (B ++ [i]) (fun us => (F us).put o.dst (.pointer (us i 0).1))) : VD P ops A W Q (o :: rest) i H B F := by
  refine VD_box (fun p => .pointer (p 0).1) (fun p w'' => ∃ g, (p 0).1 = some ⟨g, 0, none⟩ ∧ W.heap.size ≤ g ∧ Blk w'' g T zs) (fun p w w' ⟨g, h1, h2, h3⟩ hx => ⟨g, h1, h2, h3.extB hx⟩) (fun us w' hx hf => ⟨by simp [Region.wanted, hg], ?_⟩) hr
  unfold gives execOp
  simp only [ho, Instr.alloc, Sem.run_bind, hz, Result.andThen_ok, newVar, newRow, Sem.run_pure]
  refine ⟨fun _ => (some ⟨w'.heap.size, 0, none⟩, 0), rfl, Ext.of_alloc _ _, ⟨w'.heap.size, rfl, hx.size, ?_⟩, w'.heap.size, rfl, Nat.le_refl _, by simp⟩
  have := Blk.new w' z.cells T
  rwa [hzs] at this
/-- A store of a whole array that lies there already. -/
theorem VD_store_self {T : TypeId} {n : Nat} (hT : RowT P T n) (hgd : o.guard = none) (x y : Operand) (ho : o.op = .store T x y) (cs : List Value) (hn : cs.length = n) (h1 : ∀ v ∈ cs, v.oneCell' = true)
    (h : ∀ us w', Ext W w' → factsH H (A.getD i []) us w' → (F us).eval y = .agg cs.toArray ∧ ∃ g T', (F us).eval x = .pointer (some ⟨g, 0, none⟩) ∧ Blk w' g T' cs)
    (hr : VD P ops A W Q rest (i + 1) H B (fun us => (F us).put o.dst undef)) : VD P ops A W Q (o :: rest) i H B F :=
  ⟨⟨fun _ => undef, fun _ _ => True, false, false⟩, ⟨fun _ _ _ _ _ => trivial, (fun h => by cases h), fun us w' hx hf => by
    obtain ⟨hy, g, T', hx', hB⟩ := h us w' hx hf
    have hw : Region.wanted o (yielded ops (F us).tmps) = true := by simp [Region.wanted, hgd]
    simp only [hw, if_true, Bool.false_eq_true, if_false]
    subst hn
    have hrun := run_storeAt_mid (P := P) w' g 0 T cs.toArray (by simpa using hB.there 0 cs.length (by simp)) (by simpa using hT.info) (all_oneCell_toArray h1)
    rw [setCells_self _ _ _ hB (fun j v hj => by simpa using hj)] at hrun
    refine ⟨.inr ⟨?_, trivial⟩, fun _ _ => trivial, trivial⟩
    unfold execOp
    simp only [ho, hx', hy, Sem.run_bind, hrun, Result.andThen_ok, Sem.run_pure]⟩, hr⟩
theorem VD_load_arr {T : TypeId} {n : Nat} (hT : RowT P T n) (x : Operand) (ho : o.op = .load T x)
    (hw : ∀ us, Region.wanted o (yielded ops (F us).tmps) = true) (b off : Nat) (hx : ∀ us, (F us).eval x = .pointer (some ⟨b, off, none⟩)) (cs : List Value) (hc : Rd W (some ⟨b, off, none⟩) cs) (hn : cs.length = n)
    (hr : VD P ops A W Q rest (i + 1) H B (fun us => (F us).put o.dst (.agg cs.toArray))) : VD P ops A W Q (o :: rest) i H B F :=
  VD_der (fun _ => .agg cs.toArray) (fun us w' hxw _ => ⟨hw us, by
    unfold execOp
    simp only [ho, hx, Sem.run_bind, Sem.run_pure, Result.andThen_ok, run_load_rd hT (hc.ext hxw) hn]⟩) hr
end
end Go.Sec.R2
