/- Lemmas of this claim, several texts joined. -/
import Derived.Test.YtmmbcgbadaojeaaZ14
import Derived.Test.YtmmbcgbadaojeaaZ23
set_option linter.unusedVariables false
set_option linter.unusedSimpArgs false
/- A region that draws its order, of which two operations may come up now. -/
namespace Go.Sec.R5
open Go.RowKit
section
variable {P : Program} {ops : Array Oper} {Q : Exit → Act → World → Prop} {S : World → Prop} {o : Oper} {a : Act} {w : World} {fuel : Nat} {listed : Array Bool}
theorem any_pair (i j : Nat) (hr : Region.ready .any ops listed = [i, j]) {o1 o2 : Oper} (e1 : ops[i]? = some o1) (w1 : Region.wanted o1 (yielded ops a.tmps) = true) (e2 : ops[j]? = some o2) (w2 : Region.wanted o2 (yielded ops a.tmps) = true)
    (h1 : gives P o1 a.eval w (fun v w' => S w' ∧ wpAnyH P .any ops Q S fuel (listed.setIfInBounds i true) (a.put o1.dst v) w'))
    (h2 : gives P o2 a.eval w (fun v w' => S w' ∧ wpAnyH P .any ops Q S fuel (listed.setIfInBounds j true) (a.put o2.dst v) w')) : wpAnyH P .any ops Q S (fuel + 1) listed a w := by
  refine wpAnyH_all hr (by simp) ?_
  intro k hk
  rcases List.mem_cons.1 hk with rfl | hk
  · unfold wpOp
    simp only [e1, w1, if_true]
    exact .inl (wp_of_gives h1 fun v w' h => h)
  · obtain rfl := List.mem_singleton.1 hk
    unfold wpOp
    simp only [e2, w2, if_true]
    exact .inl (wp_of_gives h2 fun v w' h => h)
theorem gives_load {T : TypeId} {n : Nat} (hT : RowT P T n) {ρ : Operand → Value} (x : Operand) (ho : o.op = .load T x) (b off : Nat) (hx : ρ x = .pointer (some ⟨b, off, none⟩)) (cs : List Value) (hc : Rd w (some ⟨b, off, none⟩) cs) (hn : cs.length = n) {K : Value → World → Prop} (h : K (.agg cs.toArray) w) : gives P o ρ w K := by
  unfold gives execOp
  simp only [ho, hx, Sem.run_bind, Sem.run_pure, Result.andThen_ok, run_load_rd hT hc hn]
  exact h
theorem gives_empty (V : S8 P) {ρ : Operand → Value} (ho : o.op = .buildSlice 26 0 #[]) {K : Value → World → Prop} (h : K (.slice (some ⟨w.heap.size, 0, none⟩) 0 0) (w.alloc (.cells #[] 23))) : gives P o ρ w K := by
  obtain ⟨i, hi, hz, hsz, hb⟩ := V.info
  unfold gives execOp
  simp [ho, go_sem, run_underlying V.sl, sizeOf, typeInfo, hi]
  exact h
theorem gives_append_bs (V : S8 P) {ρ : Operand → Value} {s x : Operand} (ho : o.op = .call { callee := .builtin .append, args := #[s, x], argTypes := #[26, 26] }) {base n c0 m c : Nat} {sa0 A : Option Addr} {L M : List (List UInt8)} (h1 : ρ s = .slice sa0 n c0) (h2 : ρ x = .slice A m c)
    (hown : OwnB w base sa0 n c0 L) (hR : RdB w base A m M) (hlen : n + m ≤ 1000000) (hbase : base ≤ w.heap.size) {K : Value → World → Prop}
    (h : ∀ sa sc w', OwnB w' base sa (n + m) sc (L ++ M) → w.grownBy w' (Value.slice sa0 n c0).ownBlock → Below base w w' → K (.slice sa (n + m) sc) w') : gives P o ρ w K := by
  obtain ⟨sa, sc, w', hrun, g2, g3, g4⟩ := run_append_bs V w o.type base sa0 n c0 L hown A m c M hR hlen hbase
  exact gives_append ho h1 h2 hrun (h sa sc w' g2 g3 g4)
theorem relist {l2 : Array Bool} (h : listed = l2) (h2 : wpAnyH P .any ops Q S fuel l2 a w) : wpAnyH P .any ops Q S fuel listed a w := h ▸ h2
theorem cutG {G Goal : Prop} (chains : G → Goal) (key : G) : Goal := chains key
end
end Go.Sec.R5
