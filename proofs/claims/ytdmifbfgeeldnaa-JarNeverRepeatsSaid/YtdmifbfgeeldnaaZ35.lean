/- Lemmas of this claim, several texts joined. -/
import Derived.Test.YtdmifbfgeeldnaaRows
import Derived.Test.YtdmifbfgeeldnaaZ34
set_option linter.unusedVariables false
set_option linter.unusedSimpArgs false
/- What an argument of type []int reads as. -/
namespace Go.Proofs.Ytdmifbfgeeldnaa
open Go.RowKit Go.ChangeShapes Go.WideShapes Go.Deep Go.Sec
variable {H : Type} {enc : TypeId × Value → H} {w : World} {b0 : Nat} {v : Value} {d : DataW H} {p : List MemPlace}
theorem rd_of_cells {a : Addr} {len : Nat} {zs : List Int} (hl : len ≤ zs.length) (hc : ∀ c, c < zs.length → w.cell? (a.add c) = some (.int .i64 (zs.getD c 0))) : Rd w (some a) ((zs.take len).map i64v) := by
  by_cases h0 : len = 0
  · left; subst h0; simp
  · have c0 := hc 0 (by omega)
    have ha : a = ⟨a.block, a.off, none⟩ := addr_plain a w _ (by simpa [Addr.add] using c0)
    have hadd : ∀ j, a.add j = ⟨a.block, a.off + j, none⟩ := by
      intro j
      by_cases h0 : j = 0
      · subst h0; simp [Addr.add]; exact ha
      · simp [Addr.add, h0]
    refine .inr ⟨a.block, a.off, by rw [← ha], World.block_lt_of_cell? w a (by simpa [Addr.add] using c0), fun k v hk => ?_⟩
    have hkl : k < len := by
      have := (List.getElem?_eq_some_iff.1 hk).1
      simp at this; omega
    have h1 := hc k (by omega)
    rw [hadd] at h1
    rw [h1]
    have hz : zs.getD k 0 = zs[k]'(by omega) := by simp [List.getD, show k < zs.length by omega]
    have hk2 : ((((zs.take len).map i64v))[k]?) = some (i64v (zs[k]'(by omega))) := by
      simp [List.getElem?_take, hkl, show k < zs.length by omega]
    rw [hk2] at hk
    injection hk with hk
    rw [← hk, hz]
theorem cI64 : Try.prog.cellsOf 3 = 1 := by kernel_rfl
set_option maxRecDepth 100000 in
theorem ints_of (hv : Value.okWide Try.prog w .any b0 22 v) (h : DataW.Trod enc Try.prog w 0 (fun _ => true) true 22 v d p) :
    ∃ a n c, ∃ L : List Int, v = .slice a n c ∧ L.length = n ∧ Rd w a (L.map i64v) ∧ n ≤ c ∧ ∀ x ∈ L, (Lit.int .i64 x).wf = true := by
  obtain ⟨a, n, c, rfl⟩ := okWide_slice Try.underlying22 hv
  obtain ⟨m, hm⟩ := h
  rcases open_ints Try.underlying22 Try.underlying3 cI64 hm with ⟨hcs, _⟩ | ⟨a, len, cap, zs, hcs, _, hl, _, hz, _, hcell, hwz⟩
  · injection hcs with e _
    exact ⟨none, 0, 0, [], e, rfl, Rd.nil _ _, Nat.le_refl _, by simp⟩
  · injection hcs with e _
    have hlz : len ≤ zs.length := by rw [hz]; split <;> omega
    exact ⟨some a, len, cap, zs.take len, e, by rw [List.length_take]; omega, rd_of_cells hlz hcell, hl, fun x hx => hwz x (List.mem_of_mem_take hx)⟩
end Go.Proofs.Ytdmifbfgeeldnaa
