/- Lemmas of this claim, several texts joined. -/
import Derived.Maps.AppendAt
import Derived.ArgAppend
import Derived.Test.YtlmnholjngfpmaaZ2
import Derived.Test.YtlmnholjngfpmaaZ4
import Derived.Test.YtlmnholjngfpmaaZ6
set_option linter.unusedVariables false
set_option linter.unusedSimpArgs false
/- A region that draws its order, walked state by state: a row that grows twice, an element laid out, a box. -/
namespace Go.Sec
open Go.RowKit
section
variable {P : Program} {ops : Array Oper} {Q : Exit → Act → World → Prop} {S : World → Prop} {a : Act} {w : World} {fuel : Nat} {listed : Array Bool}
theorem any_of (rs : List Nat) (hr : Region.ready .any ops listed = rs) (hne : rs ≠ [])
    (h : ∀ i ∈ rs, ∃ o, ops[i]? = some o ∧ Region.wanted o (yielded ops a.tmps) = true ∧ gives P o a.eval w (fun v w' => S w' ∧ wpAnyH P .any ops Q S fuel (listed.setIfInBounds i true) (a.put o.dst v) w')) : wpAnyH P .any ops Q S (fuel + 1) listed a w := by
  refine wpAnyH_all hr hne ?_
  intro i hi
  obtain ⟨o, ho, hw, hg⟩ := h i hi
  unfold wpOp
  simp only [ho, hw, if_true]
  exact .inl (wp_of_gives hg fun v w' h => h)
theorem any1 {o : Oper} (i : Nat) (hr : Region.ready .any ops listed = [i]) (e : ops[i]? = some o) (w1 : Region.wanted o (yielded ops a.tmps) = true)
    (h : gives P o a.eval w (fun v w' => S w' ∧ wpAnyH P .any ops Q S fuel (listed.setIfInBounds i true) (a.put o.dst v) w')) : wpAnyH P .any ops Q S (fuel + 1) listed a w :=
  any_of _ hr (by simp) fun k hk => by obtain rfl := List.mem_singleton.1 hk; exact ⟨o, e, w1, h⟩
theorem any2 {o o' : Oper} (i j : Nat) (hr : Region.ready .any ops listed = [i, j]) (e : ops[i]? = some o) (w1 : Region.wanted o (yielded ops a.tmps) = true) (e' : ops[j]? = some o') (w1' : Region.wanted o' (yielded ops a.tmps) = true)
    (h : gives P o a.eval w (fun v w' => S w' ∧ wpAnyH P .any ops Q S fuel (listed.setIfInBounds i true) (a.put o.dst v) w'))
    (h' : gives P o' a.eval w (fun v w' => S w' ∧ wpAnyH P .any ops Q S fuel (listed.setIfInBounds j true) (a.put o'.dst v) w')) : wpAnyH P .any ops Q S (fuel + 1) listed a w :=
  any_of _ hr (by simp) fun k hk => by
    rcases List.mem_cons.1 hk with rfl | hk
    · exact ⟨o, e, w1, h⟩
    · obtain rfl := List.mem_singleton.1 hk; exact ⟨o', e', w1', h'⟩
theorem any3 {o o' o'' : Oper} (i j l : Nat) (hr : Region.ready .any ops listed = [i, j, l]) (e : ops[i]? = some o) (w1 : Region.wanted o (yielded ops a.tmps) = true) (e' : ops[j]? = some o') (w1' : Region.wanted o' (yielded ops a.tmps) = true) (e'' : ops[l]? = some o'') (w1'' : Region.wanted o'' (yielded ops a.tmps) = true)
    (h : gives P o a.eval w (fun v w' => S w' ∧ wpAnyH P .any ops Q S fuel (listed.setIfInBounds i true) (a.put o.dst v) w'))
    (h' : gives P o' a.eval w (fun v w' => S w' ∧ wpAnyH P .any ops Q S fuel (listed.setIfInBounds j true) (a.put o'.dst v) w'))
    (h'' : gives P o'' a.eval w (fun v w' => S w' ∧ wpAnyH P .any ops Q S fuel (listed.setIfInBounds l true) (a.put o''.dst v) w')) : wpAnyH P .any ops Q S (fuel + 1) listed a w :=
  any_of _ hr (by simp) fun k hk => by
    rcases List.mem_cons.1 hk with rfl | hk
    · exact ⟨o, e, w1, h⟩
    rcases List.mem_cons.1 hk with rfl | hk
    · exact ⟨o', e', w1', h'⟩
    · obtain rfl := List.mem_singleton.1 hk; exact ⟨o'', e'', w1'', h''⟩
theorem relistX {l2 : Array Bool} (h : listed = l2) (h2 : wpAnyH P .any ops Q S fuel l2 a w) : wpAnyH P .any ops Q S fuel listed a w := h ▸ h2
end
section
variable {A B C D E F H : Sort _} {Goal : Prop}
theorem cut1 {G : A → World → Prop} (I : A → World → Prop) (chains : (∀ a w, I a w → G a w) → Goal) (key : ∀ a w, I a w → G a w) : Goal := chains key
theorem cut2 {G : A → B → World → Prop} (I : A → B → World → Prop) (chains : (∀ a b w, I a b w → G a b w) → Goal) (key : ∀ a b w, I a b w → G a b w) : Goal := chains key
theorem cut3 {G : A → B → C → World → Prop} (I : A → B → C → World → Prop) (chains : (∀ a b c w, I a b c w → G a b c w) → Goal) (key : ∀ a b c w, I a b c w → G a b c w) : Goal := chains key
theorem cut4 {G : A → B → C → D → World → Prop} (I : A → B → C → D → World → Prop) (chains : (∀ a b c d w, I a b c d w → G a b c d w) → Goal) (key : ∀ a b c d w, I a b c d w → G a b c d w) : Goal := chains key
theorem cut5 {G : A → B → C → D → E → World → Prop} (I : A → B → C → D → E → World → Prop) (chains : (∀ a b c d e w, I a b c d e w → G a b c d e w) → Goal) (key : ∀ a b c d e w, I a b c d e w → G a b c d e w) : Goal := chains key
theorem cut6 {G : A → B → C → D → E → F → World → Prop} (I : A → B → C → D → E → F → World → Prop) (chains : (∀ a b c d e f w, I a b c d e f w → G a b c d e f w) → Goal) (key : ∀ a b c d e f w, I a b c d e f w → G a b c d e f w) : Goal := chains key
theorem cut7 {G : A → B → C → D → E → F → H → World → Prop} (I : A → B → C → D → E → F → H → World → Prop) (chains : (∀ a b c d e f h w, I a b c d e f h w → G a b c d e f h w) → Goal) (key : ∀ a b c d e f h w, I a b c d e f h w → G a b c d e f h w) : Goal := chains key
end
end Go.Sec
namespace Go.Proofs.Ytlmnholjngfpmaa
open Go.RowKit Go.Sec Go.Leap BigFrame

/-- What lies in memory while the region runs: the row so far, the element (if laid out), the box (if made). -/
structure Inv (W : World) (p q : Int) (x : Value) (n : Nat) (cs : List Value) (z s : Option Value) (w : World) : Prop where
  ext : Ext W w
  row : w.ownsRow W.heap.size 28 2 x n cs
  lit : ∀ v, z = some v → ∃ g, v = .slice (some ⟨g, 0, none⟩) 1 1 ∧ W.heap.size ≤ g ∧ w.heap[g]? = some (.cells #[.int .i64 p, .int .i64 q] 28 (0, 0)) ∧ x.ownBlock ≠ some g
  box : ∀ v, s = some v → ∃ g, v = .pointer (some ⟨g, 0, none⟩) ∧ W.heap.size ≤ g ∧ w.heap[g]? = some (.cells #[.int .i64 0, .slice none 0 0] 25 (0, 0))

theorem lt_some {w : World} {g : Nat} {o : Obj} (h : w.heap[g]? = some o) : g < w.heap.size := (Array.getElem?_eq_some_iff.1 h).1
section
variable {W : World} {p q : Int} {x : Value} {n : Nat} {cs : List Value} {z s : Option Value} {w : World} {o : Oper} {ρ : Operand → Value} {K : Value → World → Prop}
theorem Inv.start : Inv W p q (.slice none 0 0) 0 [] none none W.drew :=
  ⟨(Ext.refl _).drew, World.ownsRow_nil _ _ _ _, fun v h => (by cases h), fun v h => (by cases h)⟩
theorem st2 (hI : Inv W p q (.slice none 0 0) 0 [] z s w) (hrun : (execOp ρ o).run Try.prog w = .ok (.value (.slice (some ⟨w.heap.size, 0, none⟩) 0 0)) (w.alloc (.cells #[] 28)))
    (h : ∀ g w', Inv W p q (.slice (some ⟨g, 0, none⟩) 0 0) 0 [] z s w' → K (.slice (some ⟨g, 0, none⟩) 0 0) w') : gives Try.prog o ρ w K := by
  unfold gives
  rw [hrun]
  refine h _ _ ⟨hI.ext.alloc _, ?_, fun v hv => ?_, fun v hv => ?_⟩
  · exact World.ownsRow_made w #[] 0 hI.ext.size (by unfold maxLen; omega) rfl
  · obtain ⟨g, h1, h2, h3, _⟩ := hI.lit v hv
    have := lt_some h3
    refine ⟨g, h1, h2, by rw [heap_alloc_old w _ this]; exact h3, fun e => ?_⟩
    injection e with e
    have e : w.heap.size = g := e
    omega
  · obtain ⟨g, h1, h2, h3⟩ := hI.box v hv
    exact ⟨g, h1, h2, by rw [heap_alloc_old w _ (lt_some h3)]; exact h3⟩
theorem st10 (hI : Inv W p q x n cs none s w) (hrun : (execOp ρ o).run Try.prog w = .ok (.value (.slice (some ⟨w.heap.size, 0, none⟩) 1 1)) (w.alloc (.cells #[.int .i64 p, .int .i64 q] 28)))
    (h : ∀ v w', Inv W p q x n cs (some v) s w' → K v w') : gives Try.prog o ρ w K := by
  unfold gives
  rw [hrun]
  refine h _ _ ⟨hI.ext.alloc _, hI.row.alloc _, fun v hv => ?_, fun v hv => ?_⟩
  · injection hv with hv
    exact ⟨_, hv.symm, hI.ext.size, heap_alloc_new w _, fun e => by have := (hI.row.lt _ e).2; omega⟩
  · obtain ⟨g, h1, h2, h3⟩ := hI.box v hv
    exact ⟨g, h1, h2, by rw [heap_alloc_old w _ (lt_some h3)]; exact h3⟩
theorem st13 (hI : Inv W p q x n cs z none w) (hrun : (execOp ρ o).run Try.prog w = .ok (.value (.pointer (some ⟨w.heap.size, 0, none⟩))) (w.alloc (.cells #[.int .i64 0, .slice none 0 0] 25)))
    (h : ∀ v w', Inv W p q x n cs z (some v) w' → K v w') : gives Try.prog o ρ w K := by
  unfold gives
  rw [hrun]
  refine h _ _ ⟨hI.ext.alloc _, hI.row.alloc _, fun v hv => ?_, fun v hv => ?_⟩
  · obtain ⟨g, h1, h2, h3, h4⟩ := hI.lit v hv
    exact ⟨g, h1, h2, by rw [heap_alloc_old w _ (lt_some h3)]; exact h3, h4⟩
  · injection hv with hv
    exact ⟨_, hv.symm, hI.ext.size, heap_alloc_new w _⟩
theorem Inv.grown {w' : World} {x' : Value} {m : Nat} {ds : List Value} (hI : Inv W p q x n cs z s w) (h1 : w'.ownsRow W.heap.size 28 2 x' m ds) (h2 : w.grownBy w' x.ownBlock) (h3 : x'.ownBlock = x.ownBlock ∨ x'.ownBlock = some w.heap.size) : Inv W p q x' m ds z s w' := by
  refine ⟨Below.trans hI.ext (grown_below hI.row h2 hI.ext.size), h1, fun v hv => ?_, fun v hv => ?_⟩
  · obtain ⟨g, e1, e2, e3, e4⟩ := hI.lit v hv
    have := lt_some e3
    refine ⟨g, e1, e2, by rw [h2.block g this (fun e => e4 e.symm)]; exact e3, fun e => ?_⟩
    rcases h3 with h3 | h3
    · exact e4 (h3 ▸ e)
    · rw [h3] at e; injection e with e; omega
  · obtain ⟨g, e1, e2, e3⟩ := hI.box v hv
    refine ⟨g, e1, e2, ?_⟩
    rw [h2.block g (lt_some e3) (fun e => ?_)]
    · exact e3
    · rcases hI.row.2 with ⟨rfl, _⟩ | ⟨k, cap, cur, rfl, _, hk, _⟩
      · cases e
      · injection e with e
        have e : g = k := e
        subst e
        rw [e3] at hk
        injection hk with hk
        injection hk with _ hk
        exact absurd hk (by decide)
theorem Inv.ne_box (hI : Inv W p q x n cs z s w) {g : Nat} (h : w.heap[g]? = some (.cells #[.int .i64 0, .slice none 0 0] 25 (0, 0))) : x.ownBlock ≠ some g := fun e => by
  rcases hI.row.2 with ⟨rfl, _⟩ | ⟨k, cap, cur, rfl, _, hk, _⟩
  · cases e
  · injection e with e
    have e : k = g := e
    subst e
    rw [h] at hk
    injection hk with hk
    injection hk with _ hk
    exact absurd hk (by decide)
theorem owns_set {g off : Nat} {u : Value} {base : Nat} {e : TypeId} {size : Nat} (h : w.ownsRow base e size x n cs) (hn : x.ownBlock ≠ some g) : (w.setCell ⟨g, off, none⟩ u).ownsRow base e size x n cs := by
  obtain ⟨h1, h2⟩ := h
  refine ⟨h1, ?_⟩
  rcases h2 with h2 | ⟨k, cap, cur, hv, hg, hh, r⟩
  · exact .inl h2
  · refine .inr ⟨k, cap, cur, hv, hg, ?_, r⟩
    have : k ≠ g := fun e => hn (by rw [hv, e]; rfl)
    rw [Below.heap_setCell _ _ _ _ (by simpa using this)]
    exact hh
theorem infoLS : ∃ i, Try.prog.info? 28 = some i ∧ i.zero = some (.agg #[.int .i64 0, .int .i64 0]) ∧ i.size = 2 ∧ i.bytes = 16 := by
  obtain ⟨i, h1, h2, h3, h4⟩ := info_parts info39
  exact ⟨i, h1, h2, h3, h4⟩
theorem cells_one (T : List (Int × Int)) : ∀ u ∈ cellsOf T, u.oneCell' = true := fun u hu => by
  obtain ⟨y, _, hy⟩ := List.mem_flatMap.1 hu
  simp only [List.mem_cons, List.not_mem_nil, or_false] at hy
  rcases hy with rfl | rfl <;> rfl
theorem cells_at {a : Option Addr} {T : List (Int × Int)} (hT : Tb w a T) {b off : Nat} (ha : a = some ⟨b, off, none⟩) : ∀ j u, (cellsOf T)[j]? = some u → w.cell? ((⟨b, off, none⟩ : Addr).add j) = some u := by
  intro j u hu
  have hj : j < (cellsOf T).length := (List.getElem?_eq_some_iff.1 hu).1
  rw [cellsOf_len] at hj
  have hk : j / 2 < T.length := by omega
  obtain ⟨b', off', e, _, c1, c2⟩ := hT.at (j / 2) hk
  rw [ha] at e
  injection e with e
  injection e with e1 e2
  subst e1 e2
  have hadd : ∀ k, (⟨b, off, none⟩ : Addr).add k = ⟨b, off + k, none⟩ := fun k => by unfold Addr.add; split <;> simp_all
  rw [hadd]
  obtain ⟨d1, d2⟩ := cellsOf_get T (j / 2) hk
  by_cases h0 : j % 2 = 0
  · have ej : j = j / 2 * 2 := by omega
    rw [← ej] at c1 d1
    rw [hu] at d1
    rw [d1]; exact c1
  · have ej : j = j / 2 * 2 + 1 := by omega
    rw [show off + j / 2 * 2 + 1 = off + (j / 2 * 2 + 1) by omega] at c2
    rw [← ej] at c2 d2
    rw [hu] at d2
    rw [d2]; exact c2
theorem st5 {g : Nat} {a : Option Addr} {c : Nat} {T : List (Int × Int)} (hI : Inv W p q (.slice (some ⟨g, 0, none⟩) 0 0) 0 [] z s w) (hT : Tb W a T) (hl : T.length ≤ 1000) {s1 s2 : Operand} (ho : o.op = .call { callee := .builtin .append, args := #[s1, s2], argTypes := #[23, 23] })
    (e1 : ρ s1 = .slice (some ⟨g, 0, none⟩) 0 0) (e2 : ρ s2 = .slice a T.length c) (h : ∀ sa sc w', Inv W p q (.slice sa T.length sc) T.length (cellsOf T) z s w' → K (.slice sa T.length sc) w') : gives Try.prog o ρ w K := by
  obtain ⟨i, hi, hz, hsz, hb⟩ := infoLS
  have hTw := hT.ext hI.ext
  have hcl := cellsOf_len T
  have key : ∃ v' w', (Builtin.append_ #[23, 23] o.type #[.slice (some ⟨g, 0, none⟩) 0 0, .slice a T.length c]).run Try.prog w = .ok v' w' ∧ w'.ownsRow W.heap.size 28 2 v' T.length (cellsOf T) ∧ w.grownBy w' (some g) ∧ (v'.ownBlock = some g ∨ v'.ownBlock = some w.heap.size) := by
    by_cases h0 : T.length = 0
    · obtain rfl : T = [] := List.eq_nil_of_length_eq_zero h0
      refine ⟨_, w, ?_, hI.row, ⟨rfl, rfl, rfl, Nat.le_refl _, fun _ _ _ => rfl⟩, .inl rfl⟩
      have hf : (Builtin.firstCells 2 0 (.slice a 0 c)).run Try.prog w = .ok #[] w := by
        cases a <;> simp [Builtin.firstCells, loadCells, loadCellsFrom]
      simp [Builtin.append_, run_underlying Try.underlying23, sizeOf, typeInfo, hi, hsz, Builtin.lenOf, hf, storeCells]
    · rcases hTw.row with h1 | ⟨b, off, ha, _, _⟩
      · exact absurd h1 h0
      · obtain ⟨v', w', r1, r2, r3, _, r5⟩ := run_append_own_at (P := Try.prog) w W.heap.size 23 o.type 28 i _ 2 16 Try.underlying23 hi hz hsz hb rfl (by decide) _ 0 [] hI.row ⟨b, off, none⟩ T.length c (cellsOf T) hcl (cells_at hTw ha) (cells_one T) (by unfold maxLen; omega) (by omega) hI.ext.size
        rw [ha]
        rw [Nat.zero_add, List.nil_append] at r2
        exact ⟨v', w', r1, r2, r3, r5⟩
  obtain ⟨v', w', r1, r2, r3, r5⟩ := key
  obtain ⟨sa, sc, rfl⟩ := own_form r2
  unfold gives execOp
  simp only [ho, resolve, invoke, builtin, Sem.run_bind, Sem.run_pure, Result.andThen_ok, List.map_toArray, List.map_cons, List.map_nil, e1, e2, r1]
  exact h sa sc w' (hI.grown r2 r3 r5)
theorem st11 {sa : Option Addr} {sc : Nat} {v : Value} (hI : Inv W p q (.slice sa n sc) n cs (some v) s w) (hl : n ≤ 1000) {s1 s2 : Operand} (ho : o.op = .call { callee := .builtin .append, args := #[s1, s2], argTypes := #[23, 23] })
    (e1 : ρ s1 = .slice sa n sc) (e2 : ρ s2 = v) (h : ∀ sb sd w', Inv W p q (.slice sb (n + 1) sd) (n + 1) (cs ++ [.int .i64 p, .int .i64 q]) none s w' → K (.slice sb (n + 1) sd) w') : gives Try.prog o ρ w K := by
  obtain ⟨i, hi, hz, hsz, hb⟩ := infoLS
  obtain ⟨g, rfl, h2, h3, h4⟩ := hI.lit v rfl
  obtain ⟨v', w', r1, r2, r3, _, r5⟩ := run_append_own_at (P := Try.prog) w W.heap.size 23 o.type 28 i _ 2 16 Try.underlying23 hi hz hsz hb rfl (by decide) _ n cs hI.row ⟨g, 0, none⟩ 1 1 [.int .i64 p, .int .i64 q] rfl (fun j u hu => by
    have hadd : (⟨g, 0, none⟩ : Addr).add j = ⟨g, j, none⟩ := by unfold Addr.add; split <;> simp_all
    rw [hadd, cell_of_row w g j _ _ (0, 0) h3]
    simpa using hu) (fun u hu => by
    simp only [List.mem_cons, List.not_mem_nil, or_false] at hu
    rcases hu with rfl | rfl <;> rfl) (by unfold maxLen; omega) (by omega) hI.ext.size
  obtain ⟨sb, sd, rfl⟩ := own_form r2
  unfold gives execOp
  simp only [ho, resolve, invoke, builtin, Sem.run_bind, Sem.run_pure, Result.andThen_ok, List.map_toArray, List.map_cons, List.map_nil, e1, e2, r1]
  have hJ := hI.grown r2 r3 r5
  exact h sb sd w' ⟨hJ.ext, hJ.row, fun v hv => (by cases hv), hJ.box⟩
end
end Go.Proofs.Ytlmnholjngfpmaa

/- The law on tables. -/
namespace Go.Leap
theorem made_end {T : List (Int × Int)} {a o : Int} (h : Made T a o) (h0 : T = []) : a = 1728000 ∧ o = 10 := by
  subst h0
  have h1 := h.lo
  have h2 := h.hi
  have h3 := h.olo
  have h4 := h.ohi
  simp at h1 h2 h3 h4
  omega
theorem made_last {T : List (Int × Int)} {a o : Int} (h : Made T a o) (k : Nat) (hk : T.length = k + 1) : T[k]'(by omega) = (a, o) := by
  rcases h.last with ⟨h1, _⟩ | h1
  · rw [h1] at hk; simp at hk
  · have := lastOf_take (-86400, 10) T k (by omega)
    rw [← hk, List.take_length, h1] at this
    exact this.symm
theorem made_offs {T : List (Int × Int)} {a o : Int} (h : Made T a o) (s : Int) (hs : a ≤ s) : offs 10 T s = o := by
  rcases h.last with ⟨rfl, rfl⟩ | h1
  · rfl
  · have := (offs_last 10 T h.vld).2 s
    rw [h1] at this
    exact this hs
end Go.Leap
namespace Go.Proofs.Ytlmnholjngfpmaa
open Go.RowKit Go.Sec Go.Leap BigFrame

theorem nameX {P : Program} {c : Code} {Q : Exit → Act → World → Prop} {a : Act} {w : World} (h : ∀ W, W = w → c.wp P Q a W) : c.wp P Q a w := h w rfl
theorem nameXC {P : Program} {f : FuncId} {args : Array Value} {Q : Ending → World → Prop} {w : World} (h : ∀ W, W = w → Calls P f args W Q) : Calls P f args w Q := h w rfl
theorem ext_at {W w : World} {b o : Nat} {v : Value} (hx : Ext W w) (h : W.cell? ⟨b, o, none⟩ = some v) : w.cell? ⟨b, o, none⟩ = some v :=
  (hx.cell (p := ⟨b, o, none⟩) (World.block_lt_of_cell? W ⟨b, o, none⟩ h)).trans h
set_option maxRecDepth 100000 in
set_option maxHeartbeats 8000000 in
theorem tables_walk (a0 : Option Addr) (len0 cap0 : Nat) (z0 : List Int) (a1 a2 : Int) (w : World) (w0 : IsRow .i64 w a0 len0 cap0 z0) :
    Calls Try.prog 3 #[.slice a0 len0 cap0, .int .i64 a1, .int .i64 a2] w fun e w' => e = .returned (.bool true) ∧ Below w.heap.size w w' := by
  have hI0 := Ints.of_row w0
  go_enter Try.func3, Try.ntmps3
  go_wp2_with fail
  refine (leaps_any _ _ _ _ hI0).mono ?_
  rintro e V ⟨T, a', o, sa, sc, hM, hl4, rfl, hT, hxq⟩
  have hxV : Ext w V := hxq
  clear hxq hI0 w0
  have hlo := hM.lo
  have hhi := hM.hi
  have holo := hM.olo
  have hohi := hM.ohi
  have hwd := wthn_bd a2 200 (by decide)
  obtain ⟨A, hA⟩ : ∃ A, A = a' + 86400 * (2 + wthn a2 200) := ⟨_, rfl⟩
  have hA' := Lib.hid hA
  have hM2 := hM.snoc (by omega) (wthn a2 200) (o + 1) hwd.1 (by omega) (.inl rfl)
  rw [← hA] at hM2
  clear hA
  by_cases h0 : T.length = 0
  have hT0 : T = [] := List.eq_nil_of_length_eq_zero h0
  obtain ⟨e1, e2⟩ := made_end hM hT0
  have E1 := Lib.hid (show Value.int .i64 1728000 = Value.int .i64 a' by rw [e1])
  have E2 := Lib.hid (show Value.int .i64 10 = Value.int .i64 o by rw [e2])
  have hz : ¬ (0 : Int) < (T.length : Int) := by omega
  clear e1 e2 h0 hT0
  go_wp2_with fail
  refine nameXC ?_
  intro W0 hW0
  rw [E1.out, E2.out]
  have h10 : W0.cell? ⟨V.heap.size, 0, none⟩ = some (.int .i64 10) := by rw [hW0]; simp [go_sem]
  have h11 : W0.cell? ⟨V.heap.size, 1, none⟩ = some (.slice sa T.length sc) := by rw [hW0]; simp [go_sem]
  have hE0 : Ext V W0 := by rw [hW0]; exact (by repeat (first | (with_reducible first | exact Ext.refl _ | assumption | apply Ext.alloc | apply Ext.ext | apply Ext.drew | refine Ext.setCell ?_ ?_ _) | (focus (simp [go_sem]; done))))
  clear hW0 hz E1 E2
  rotate_left
  obtain ⟨k, hk⟩ : ∃ k, T.length = k + 1 := ⟨T.length - 1, by omega⟩
  have hlast := made_last hM k hk
  obtain ⟨b, off, hsa, hb, hc, hd⟩ := hT.at k (by omega)
  rw [hlast] at hc hd
  haveI : BlkLt b V := ⟨hb⟩
  have hz : (0 : Int) < (T.length : Int) := by omega
  have hi1 : (T.length : Int) - 1 = (k : Int) := by omega
  have hi2 : (k : Int) < (T.length : Int) := by omega
  have hi3 : (0 : Int) ≤ (k : Int) := by omega
  subst hsa
  simp only at hc hd
  clear hlast hk h0
  go_wp2_with fail
  (refine wp_region_ext (by kernel_rfl) (by kernel_rfl) ?_; (repeat (go_big_quiet_step ((fail)))); refine wpQuiet_nil ?_; rintro _ ⟨xq, rfl⟩)
  go_wp2_with fail
  refine nameXC ?_
  intro W0 hW0
  have h10 : W0.cell? ⟨V.heap.size, 0, none⟩ = some (.int .i64 10) := by rw [hW0]; simp [go_sem]
  have h11 : W0.cell? ⟨V.heap.size, 1, none⟩ = some (.slice (some ⟨b, off, none⟩) T.length sc) := by rw [hW0]; simp [go_sem]
  have hE0 : Ext V W0 := by rw [hW0]; exact (by repeat (first | (with_reducible first | exact Ext.refl _ | assumption | apply Ext.alloc | apply Ext.ext | apply Ext.drew | refine Ext.setCell ?_ ?_ _) | (focus (simp [go_sem]; done))))
  clear hW0 hz hi1 hi2 hi3 hc hd
  generalize (some ⟨b, off, none⟩ : Option Addr) = sa at *
  all_goals
    have hTW := hT.ext hE0
    have hxW := hxV.trans hE0
    clear hE0 hT hxV
    refine (within_any _ _ _ (by decide)).mono ?_
    rintro e w1 ⟨rfl, hxq⟩
    have h10 := ext_at hxq h10
    have h11 := ext_at hxq h11
    have hTW := hTW.ext hxq
    have hxW := hxW.trans hxq
    clear hxq
    have hwd1 := hwd.1
    have hwd2 := hwd.2
    generalize wthn a2 200 = x2 at *
    go_wp2_with fail
    rw [← hA'.out]
    generalize w1 = W1 at *
    have hb0 : V.heap.size < W1.heap.size := World.block_lt_of_cell? W1 ⟨V.heap.size, 0, none⟩ h10
    have hAa : a' + 172800 ≤ A := by have := hA'.out; omega
    have hAb : A ≤ a' + 86400 * 202 := by have := hA'.out; omega
    clear hwd hwd1 hwd2 hA'
    generalize V.heap.size = g0 at *
    have hSE : ∀ w', Ext (W1) w' → (Ext W1) w' := (fun _ h => h); have hExt0 : Ext (W1) (W1).drew := Ext.drew (Ext.refl _); refine wp_region_held_drew (S := Ext W1) (by kernel_rfl) (hSE _ hExt0) (fun hHeld => ?_)
    refine wpAnyH_take (i := 0) (v := .pointer (some ⟨g0, 0, none⟩)) rfl (by kernel_rfl) (by kernel_rfl) (by kernel_rfl) (fun _ _ _ h => h) (Or.inl ⟨by rfl, fun w' hx => by simp [go_sem, execOp, *]; (try simp (disch := omega) only [Go.IntWalk.i64_in, Go.IntWalk.rem_in, Go.IntWalk.wrap64_in]); try rfl⟩) hHeld ?_; (try simp only [List.getElem_toArray, List.getElem_cons_succ, List.getElem_cons_zero, Act.put, List.setIfInBounds_toArray, List.set_cons_succ, List.set_cons_zero])
    refine wpAnyH_take (i := 1) (v := .int .i64 10) rfl (by kernel_rfl) (by kernel_rfl) (by kernel_rfl) (fun _ _ _ h => h) (Or.inl ⟨by rfl, fun w' hx => by have h1 := ext_at hx h10; simp [go_sem, execOp, h1]⟩) hHeld ?_; (try simp only [List.getElem_toArray, List.getElem_cons_succ, List.getElem_cons_zero, Act.put, List.setIfInBounds_toArray, List.set_cons_succ, List.set_cons_zero])
    refine wpAnyH_take (i := 3) (v := .pointer (some ⟨g0, 1, none⟩)) rfl (by kernel_rfl) (by kernel_rfl) (by kernel_rfl) (fun _ _ _ h => h) (Or.inl ⟨by rfl, fun w' hx => by simp [go_sem, execOp, *]; (try simp (disch := omega) only [Go.IntWalk.i64_in, Go.IntWalk.rem_in, Go.IntWalk.wrap64_in]); try rfl⟩) hHeld ?_; (try simp only [List.getElem_toArray, List.getElem_cons_succ, List.getElem_cons_zero, Act.put, List.setIfInBounds_toArray, List.set_cons_succ, List.set_cons_zero])
    refine wpAnyH_take (i := 4) (v := .slice sa T.length sc) rfl (by kernel_rfl) (by kernel_rfl) (by kernel_rfl) (fun _ _ _ h => h) (Or.inl ⟨by rfl, fun w' hx => by have h1 := ext_at hx h11; simp [go_sem, execOp, h1]⟩) hHeld ?_; (try simp only [List.getElem_toArray, List.getElem_cons_succ, List.getElem_cons_zero, Act.put, List.setIfInBounds_toArray, List.set_cons_succ, List.set_cons_zero])
    refine wpAnyH_take (i := 6) (v := .int .i64 A) rfl (by kernel_rfl) (by kernel_rfl) (by kernel_rfl) (fun _ _ _ h => h) (Or.inl ⟨by rfl, fun w' hx => by simp [go_sem, execOp, *]; (try simp (disch := omega) only [Go.IntWalk.i64_in, Go.IntWalk.rem_in, Go.IntWalk.wrap64_in]); try rfl⟩) hHeld ?_; (try simp only [List.getElem_toArray, List.getElem_cons_succ, List.getElem_cons_zero, Act.put, List.setIfInBounds_toArray, List.set_cons_succ, List.set_cons_zero])
    refine wpAnyH_take (i := 7) (v := .int .i64 o) rfl (by kernel_rfl) (by kernel_rfl) (by kernel_rfl) (fun _ _ _ h => h) (Or.inl ⟨by rfl, fun w' hx => by simp [go_sem, execOp, *]; (try simp (disch := omega) only [Go.IntWalk.i64_in, Go.IntWalk.rem_in, Go.IntWalk.wrap64_in]); try rfl⟩) hHeld ?_; (try simp only [List.getElem_toArray, List.getElem_cons_succ, List.getElem_cons_zero, Act.put, List.setIfInBounds_toArray, List.set_cons_succ, List.set_cons_zero])
    refine wpAnyH_take (i := 8) (v := .int .i64 (o + 1)) rfl (by kernel_rfl) (by kernel_rfl) (by kernel_rfl) (fun _ _ _ h => h) (Or.inl ⟨by rfl, fun w' hx => by simp [go_sem, execOp, *]; (try simp (disch := omega) only [Go.IntWalk.i64_in, Go.IntWalk.rem_in, Go.IntWalk.wrap64_in]); try rfl⟩) hHeld ?_; (try simp only [List.getElem_toArray, List.getElem_cons_succ, List.getElem_cons_zero, Act.put, List.setIfInBounds_toArray, List.set_cons_succ, List.set_cons_zero])
    refine wpAnyH_take (i := 9) (v := .agg #[.int .i64 A, .int .i64 (o + 1)]) rfl (by kernel_rfl) (by kernel_rfl) (by kernel_rfl) (fun _ _ _ h => h) (Or.inl ⟨by rfl, fun w' hx => by simp [go_sem, execOp, *]; (try simp (disch := omega) only [Go.IntWalk.i64_in, Go.IntWalk.rem_in, Go.IntWalk.wrap64_in]); try rfl⟩) hHeld ?_; (try simp only [List.getElem_toArray, List.getElem_cons_succ, List.getElem_cons_zero, Act.put, List.setIfInBounds_toArray, List.set_cons_succ, List.set_cons_zero])
    refine relistX (l2 := #[true, true, false, true, true, false, true, true, true, true, false, false, false, false, false]) (by kernel_rfl) ?_
    apply cut7 (fun (g : Nat) (sa2 : Option Addr) (sc2 : Nat) (sb : Option Addr) (sd : Nat) (z : Value) (s : Value) w' => Inv W1 A (o + 1) (.slice sb (T.length + 1) sd) (T.length + 1) (cellsOf T ++ [.int .i64 A, .int .i64 (o + 1)]) none (some s) w')
    · intro k411
      apply cut6 (fun (g : Nat) (sa2 : Option Addr) (sc2 : Nat) (sb : Option Addr) (sd : Nat) (z : Value) w' => Inv W1 A (o + 1) (.slice sb (T.length + 1) sd) (T.length + 1) (cellsOf T ++ [.int .i64 A, .int .i64 (o + 1)]) none none w')
      · intro k410
        apply cut7 (fun (g : Nat) (sa2 : Option Addr) (sc2 : Nat) (sb : Option Addr) (sd : Nat) (z : Value) (s : Value) w' => Inv W1 A (o + 1) (.slice sb (T.length + 1) sd) (T.length + 1) (cellsOf T ++ [.int .i64 A, .int .i64 (o + 1)]) none (some s) w')
        · intro k311
          apply cut6 (fun (g : Nat) (sa2 : Option Addr) (sc2 : Nat) (sb : Option Addr) (sd : Nat) (z : Value) w' => Inv W1 A (o + 1) (.slice sb (T.length + 1) sd) (T.length + 1) (cellsOf T ++ [.int .i64 A, .int .i64 (o + 1)]) none none w')
          · intro k310
            apply cut5 (fun (g : Nat) (sa2 : Option Addr) (sc2 : Nat) (z : Value) (s : Value) w' => Inv W1 A (o + 1) (.slice sa2 T.length sc2) T.length (cellsOf T) (some z) (some s) w')
            · intro k211
              apply cut4 (fun (g : Nat) (sa2 : Option Addr) (sc2 : Nat) (z : Value) w' => Inv W1 A (o + 1) (.slice sa2 T.length sc2) T.length (cellsOf T) (some z) none w')
              · intro k210
                apply cut4 (fun (g : Nat) (sa2 : Option Addr) (sc2 : Nat) (s : Value) w' => Inv W1 A (o + 1) (.slice sa2 T.length sc2) T.length (cellsOf T) none (some s) w')
                · intro k201
                  apply cut3 (fun (g : Nat) (sa2 : Option Addr) (sc2 : Nat) w' => Inv W1 A (o + 1) (.slice sa2 T.length sc2) T.length (cellsOf T) none none w')
                  · intro k200
                    apply cut3 (fun (g : Nat) (z : Value) (s : Value) w' => Inv W1 A (o + 1) (.slice (some ⟨g, 0, none⟩) 0 0) 0 [] (some z) (some s) w')
                    · intro k111
                      apply cut2 (fun (g : Nat) (z : Value) w' => Inv W1 A (o + 1) (.slice (some ⟨g, 0, none⟩) 0 0) 0 [] (some z) none w')
                      · intro k110
                        apply cut2 (fun (g : Nat) (s : Value) w' => Inv W1 A (o + 1) (.slice (some ⟨g, 0, none⟩) 0 0) 0 [] none (some s) w')
                        · intro k101
                          apply cut1 (fun (g : Nat) w' => Inv W1 A (o + 1) (.slice (some ⟨g, 0, none⟩) 0 0) 0 [] none none w')
                          · intro k100
                            apply cut2 (fun (z : Value) (s : Value) w' => Inv W1 A (o + 1) (.slice none 0 0) 0 [] (some z) (some s) w')
                            · intro k011
                              apply cut1 (fun (z : Value) w' => Inv W1 A (o + 1) (.slice none 0 0) 0 [] (some z) none w')
                              · intro k010
                                apply cut1 (fun (s : Value) w' => Inv W1 A (o + 1) (.slice none 0 0) 0 [] none (some s) w')
                                · intro k001
                                  have hI : Inv W1 A (o + 1) (.slice none 0 0) 0 [] none none W1.drew := Inv.start
                                  refine any3 2 10 13 (by kernel_rfl) rfl rfl rfl rfl rfl rfl (st2 hI (by simp [go_sem, execOp, *]; try rfl) ?_) (st10 hI (by simp [go_sem, execOp, *]; try rfl) ?_) (st13 hI (by simp [go_sem, execOp, *]; try rfl) ?_)
                                  · intro g w' hI
                                    refine ⟨hI.ext, ?_⟩
                                    (try simp only [List.getElem_toArray, List.getElem_cons_succ, List.getElem_cons_zero, Act.put, List.setIfInBounds_toArray, List.set_cons_succ, List.set_cons_zero])
                                    exact k100 g w' hI
                                  · intro z w' hI
                                    refine ⟨hI.ext, ?_⟩
                                    (try simp only [List.getElem_toArray, List.getElem_cons_succ, List.getElem_cons_zero, Act.put, List.setIfInBounds_toArray, List.set_cons_succ, List.set_cons_zero])
                                    exact k010 z w' hI
                                  · intro s w' hI
                                    refine ⟨hI.ext, ?_⟩
                                    (try simp only [List.getElem_toArray, List.getElem_cons_succ, List.getElem_cons_zero, Act.put, List.setIfInBounds_toArray, List.set_cons_succ, List.set_cons_zero])
                                    exact k001 s w' hI
                                · intro s w' hI
                                  refine any2 2 10 (by kernel_rfl) rfl rfl rfl rfl (st2 hI (by simp [go_sem, execOp, *]; try rfl) ?_) (st10 hI (by simp [go_sem, execOp, *]; try rfl) ?_)
                                  · intro g w' hI
                                    refine ⟨hI.ext, ?_⟩
                                    (try simp only [List.getElem_toArray, List.getElem_cons_succ, List.getElem_cons_zero, Act.put, List.setIfInBounds_toArray, List.set_cons_succ, List.set_cons_zero])
                                    exact k101 g s w' hI
                                  · intro z w' hI
                                    refine ⟨hI.ext, ?_⟩
                                    (try simp only [List.getElem_toArray, List.getElem_cons_succ, List.getElem_cons_zero, Act.put, List.setIfInBounds_toArray, List.set_cons_succ, List.set_cons_zero])
                                    exact k011 z s w' hI
                              · intro z w' hI
                                refine any2 2 13 (by kernel_rfl) rfl rfl rfl rfl (st2 hI (by simp [go_sem, execOp, *]; try rfl) ?_) (st13 hI (by simp [go_sem, execOp, *]; try rfl) ?_)
                                · intro g w' hI
                                  refine ⟨hI.ext, ?_⟩
                                  (try simp only [List.getElem_toArray, List.getElem_cons_succ, List.getElem_cons_zero, Act.put, List.setIfInBounds_toArray, List.set_cons_succ, List.set_cons_zero])
                                  exact k110 g z w' hI
                                · intro s w' hI
                                  refine ⟨hI.ext, ?_⟩
                                  (try simp only [List.getElem_toArray, List.getElem_cons_succ, List.getElem_cons_zero, Act.put, List.setIfInBounds_toArray, List.set_cons_succ, List.set_cons_zero])
                                  exact k011 z s w' hI
                            · intro z s w' hI
                              refine any1 2 (by kernel_rfl) rfl rfl (st2 hI (by simp [go_sem, execOp, *]; try rfl) ?_)
                              · intro g w' hI
                                refine ⟨hI.ext, ?_⟩
                                (try simp only [List.getElem_toArray, List.getElem_cons_succ, List.getElem_cons_zero, Act.put, List.setIfInBounds_toArray, List.set_cons_succ, List.set_cons_zero])
                                exact k111 g z s w' hI
                          · intro g w' hI
                            refine any3 5 10 13 (by kernel_rfl) rfl rfl rfl rfl rfl rfl (st5 hI hTW (by omega) rfl rfl rfl ?_) (st10 hI (by simp [go_sem, execOp, *]; try rfl) ?_) (st13 hI (by simp [go_sem, execOp, *]; try rfl) ?_)
                            · intro sa2 sc2 w' hI
                              refine ⟨hI.ext, ?_⟩
                              (try simp only [List.getElem_toArray, List.getElem_cons_succ, List.getElem_cons_zero, Act.put, List.setIfInBounds_toArray, List.set_cons_succ, List.set_cons_zero])
                              exact k200 g sa2 sc2 w' hI
                            · intro z w' hI
                              refine ⟨hI.ext, ?_⟩
                              (try simp only [List.getElem_toArray, List.getElem_cons_succ, List.getElem_cons_zero, Act.put, List.setIfInBounds_toArray, List.set_cons_succ, List.set_cons_zero])
                              exact k110 g z w' hI
                            · intro s w' hI
                              refine ⟨hI.ext, ?_⟩
                              (try simp only [List.getElem_toArray, List.getElem_cons_succ, List.getElem_cons_zero, Act.put, List.setIfInBounds_toArray, List.set_cons_succ, List.set_cons_zero])
                              exact k101 g s w' hI
                        · intro g s w' hI
                          refine any2 5 10 (by kernel_rfl) rfl rfl rfl rfl (st5 hI hTW (by omega) rfl rfl rfl ?_) (st10 hI (by simp [go_sem, execOp, *]; try rfl) ?_)
                          · intro sa2 sc2 w' hI
                            refine ⟨hI.ext, ?_⟩
                            (try simp only [List.getElem_toArray, List.getElem_cons_succ, List.getElem_cons_zero, Act.put, List.setIfInBounds_toArray, List.set_cons_succ, List.set_cons_zero])
                            exact k201 g sa2 sc2 s w' hI
                          · intro z w' hI
                            refine ⟨hI.ext, ?_⟩
                            (try simp only [List.getElem_toArray, List.getElem_cons_succ, List.getElem_cons_zero, Act.put, List.setIfInBounds_toArray, List.set_cons_succ, List.set_cons_zero])
                            exact k111 g z s w' hI
                      · intro g z w' hI
                        refine any2 5 13 (by kernel_rfl) rfl rfl rfl rfl (st5 hI hTW (by omega) rfl rfl rfl ?_) (st13 hI (by simp [go_sem, execOp, *]; try rfl) ?_)
                        · intro sa2 sc2 w' hI
                          refine ⟨hI.ext, ?_⟩
                          (try simp only [List.getElem_toArray, List.getElem_cons_succ, List.getElem_cons_zero, Act.put, List.setIfInBounds_toArray, List.set_cons_succ, List.set_cons_zero])
                          exact k210 g sa2 sc2 z w' hI
                        · intro s w' hI
                          refine ⟨hI.ext, ?_⟩
                          (try simp only [List.getElem_toArray, List.getElem_cons_succ, List.getElem_cons_zero, Act.put, List.setIfInBounds_toArray, List.set_cons_succ, List.set_cons_zero])
                          exact k111 g z s w' hI
                    · intro g z s w' hI
                      refine any1 5 (by kernel_rfl) rfl rfl (st5 hI hTW (by omega) rfl rfl rfl ?_)
                      · intro sa2 sc2 w' hI
                        refine ⟨hI.ext, ?_⟩
                        (try simp only [List.getElem_toArray, List.getElem_cons_succ, List.getElem_cons_zero, Act.put, List.setIfInBounds_toArray, List.set_cons_succ, List.set_cons_zero])
                        exact k211 g sa2 sc2 z s w' hI
                  · intro g sa2 sc2 w' hI
                    refine any2 10 13 (by kernel_rfl) rfl rfl rfl rfl (st10 hI (by simp [go_sem, execOp, *]; try rfl) ?_) (st13 hI (by simp [go_sem, execOp, *]; try rfl) ?_)
                    · intro z w' hI
                      refine ⟨hI.ext, ?_⟩
                      (try simp only [List.getElem_toArray, List.getElem_cons_succ, List.getElem_cons_zero, Act.put, List.setIfInBounds_toArray, List.set_cons_succ, List.set_cons_zero])
                      exact k210 g sa2 sc2 z w' hI
                    · intro s w' hI
                      refine ⟨hI.ext, ?_⟩
                      (try simp only [List.getElem_toArray, List.getElem_cons_succ, List.getElem_cons_zero, Act.put, List.setIfInBounds_toArray, List.set_cons_succ, List.set_cons_zero])
                      exact k201 g sa2 sc2 s w' hI
                · intro g sa2 sc2 s w' hI
                  refine any1 10 (by kernel_rfl) rfl rfl (st10 hI (by simp [go_sem, execOp, *]; try rfl) ?_)
                  · intro z w' hI
                    refine ⟨hI.ext, ?_⟩
                    (try simp only [List.getElem_toArray, List.getElem_cons_succ, List.getElem_cons_zero, Act.put, List.setIfInBounds_toArray, List.set_cons_succ, List.set_cons_zero])
                    exact k211 g sa2 sc2 z s w' hI
              · intro g sa2 sc2 z w' hI
                refine any2 11 13 (by kernel_rfl) rfl rfl rfl rfl (st11 hI (by omega) rfl rfl rfl ?_) (st13 hI (by simp [go_sem, execOp, *]; try rfl) ?_)
                · intro sb sd w' hI
                  refine ⟨hI.ext, ?_⟩
                  (try simp only [List.getElem_toArray, List.getElem_cons_succ, List.getElem_cons_zero, Act.put, List.setIfInBounds_toArray, List.set_cons_succ, List.set_cons_zero])
                  exact k310 g sa2 sc2 sb sd z w' hI
                · intro s w' hI
                  refine ⟨hI.ext, ?_⟩
                  (try simp only [List.getElem_toArray, List.getElem_cons_succ, List.getElem_cons_zero, Act.put, List.setIfInBounds_toArray, List.set_cons_succ, List.set_cons_zero])
                  exact k211 g sa2 sc2 z s w' hI
            · intro g sa2 sc2 z s w' hI
              refine any1 11 (by kernel_rfl) rfl rfl (st11 hI (by omega) rfl rfl rfl ?_)
              · intro sb sd w' hI
                refine ⟨hI.ext, ?_⟩
                (try simp only [List.getElem_toArray, List.getElem_cons_succ, List.getElem_cons_zero, Act.put, List.setIfInBounds_toArray, List.set_cons_succ, List.set_cons_zero])
                exact k311 g sa2 sc2 sb sd z s w' hI
          · intro g sa2 sc2 sb sd z w' hI
            refine any2 12 13 (by kernel_rfl) rfl rfl rfl rfl ?_ (st13 hI (by simp [go_sem, execOp, *]; try rfl) ?_)
            · unfold gives
              simp [go_sem, execOp]
              refine ⟨hI.ext, ?_⟩
              (try simp only [List.getElem_toArray, List.getElem_cons_succ, List.getElem_cons_zero, Act.put, List.setIfInBounds_toArray, List.set_cons_succ, List.set_cons_zero])
              exact k410 g sa2 sc2 sb sd z w' hI
            · intro s w' hI
              refine ⟨hI.ext, ?_⟩
              (try simp only [List.getElem_toArray, List.getElem_cons_succ, List.getElem_cons_zero, Act.put, List.setIfInBounds_toArray, List.set_cons_succ, List.set_cons_zero])
              exact k311 g sa2 sc2 sb sd z s w' hI
        · intro g sa2 sc2 sb sd z s w' hI
          refine any1 12 (by kernel_rfl) rfl rfl ?_
          · unfold gives
            simp [go_sem, execOp]
            refine ⟨hI.ext, ?_⟩
            (try simp only [List.getElem_toArray, List.getElem_cons_succ, List.getElem_cons_zero, Act.put, List.setIfInBounds_toArray, List.set_cons_succ, List.set_cons_zero])
            exact k411 g sa2 sc2 sb sd z s w' hI
      · intro g sa2 sc2 sb sd z w' hI
        refine any1 13 (by kernel_rfl) rfl rfl (st13 hI (by simp [go_sem, execOp, *]; try rfl) ?_)
        · intro s w' hI
          refine ⟨hI.ext, ?_⟩
          (try simp only [List.getElem_toArray, List.getElem_cons_succ, List.getElem_cons_zero, Act.put, List.setIfInBounds_toArray, List.set_cons_succ, List.set_cons_zero])
          exact k411 g sa2 sc2 sb sd z s w' hI
    intro g sa2 sc2 sb sd z s w' hI
    obtain ⟨gb, rfl, hgb, hgh⟩ := hI.box s rfl
    have hne := hI.ne_box hgh
    have hrow := owns_set (g := gb) (off := 1) (u := .slice sb (T.length + 1) sd) (owns_set (g := gb) (off := 0) (u := .int .i64 10) hI.row hne) hne
    have hE3 := hI.ext
    clear hI
    have c0 : w'.cell? ⟨gb, 0, none⟩ = some (.int .i64 0) := by rw [cell_of_row w' gb 0 _ _ (0, 0) hgh]; rfl
    have c1 : w'.cell? ⟨gb, 1, none⟩ = some (.slice none 0 0) := by rw [cell_of_row w' gb 1 _ _ (0, 0) hgh]; rfl
    have f0 : ∀ k, w'.frozen? ⟨gb, k, none⟩ = false := fun k => by unfold World.frozen?; simp only [hgh]; simp
    haveI : BlkLt gb w' := ⟨lt_some hgh⟩
    have hgW : g0 < gb := by omega
    refine any1 14 (by kernel_rfl) rfl rfl ?_
    unfold gives
    simp [go_sem, execOp, *]
    have hE4 : Ext W1 ((w'.setCell ⟨gb, 0, none⟩ (.int .i64 10)).setCell ⟨gb, 1, none⟩ (.slice sb (T.length + 1) sd)) := (hE3.setCell hgb _).setCell hgb _
    have d0 : ((w'.setCell ⟨gb, 0, none⟩ (.int .i64 10)).setCell ⟨gb, 1, none⟩ (.slice sb (T.length + 1) sd)).cell? ⟨gb, 0, none⟩ = some (.int .i64 10) := by simp [go_sem, *]
    have d1 : ((w'.setCell ⟨gb, 0, none⟩ (.int .i64 10)).setCell ⟨gb, 1, none⟩ (.slice sb (T.length + 1) sd)).cell? ⟨gb, 1, none⟩ = some (.slice sb (T.length + 1) sd) := by simp [go_sem, *]
    refine ⟨hE4, wpAnyH_done (by kernel_rfl) ?_ _⟩
    generalize (w'.setCell ⟨gb, 0, none⟩ (.int .i64 10)).setCell ⟨gb, 1, none⟩ (.slice sb (T.length + 1) sd) = W2 at *
    have h10 := ext_at hE4 h10
    have h11 := ext_at hE4 h11
    have hTW := hTW.ext hE4
    have hxW := hxW.trans hE4
    clear c0 c1 f0 hgh hne hE3 hE4 hgb
    have hb2 : BlkLt gb W2 := ⟨World.block_lt_of_cell? W2 ⟨gb, 0, none⟩ d0⟩
    have hl2 : (T ++ [(A, o + 1)]).length = T.length + 1 := by simp
    rw [← hl2] at d1 hrow
    rw [show (T.length + 1) = (T ++ [(A, o + 1)]).length from hl2.symm]
    have hcs : cellsOf T ++ [.int .i64 A, .int .i64 (o + 1)] = cellsOf (T ++ [(A, o + 1)]) := (cellsOf_snoc T (A, o + 1)).symm
    rw [hcs] at hrow
    have hT2 := Tb.of_owns' hrow (by omega) (fun x hx => by have := elem_bd 10 _ hM2.vld x hx; omega)
    clear hrow hcs hl2
    generalize hTe : T ++ [(A, o + 1)] = T2 at *
    have HTe := Lib.hid hTe
    clear hTe
    go_wp2_with fail
    refine (near_any _ _ _ _ _ _ _ hM2 hT2).mono ?_
    rintro e W3 ⟨rfl, hx3⟩
    obtain ⟨ht0, ht1⟩ := near_bd hM2 a1
    generalize nearP T2 a1 = t at *
    have h10 := ext_at hx3 h10
    have h11 := ext_at hx3 h11
    have d0 := ext_at hx3 d0
    have d1 := ext_at hx3 d1
    have hTW := hTW.ext hx3
    have hT2 := hT2.ext hx3
    have hxW := hxW.trans hx3
    have hb1 : BlkLt g0 W3 := ⟨World.block_lt_of_cell? W3 ⟨g0, 0, none⟩ h10⟩
    have hb2 : BlkLt gb W3 := ⟨World.block_lt_of_cell? W3 ⟨gb, 0, none⟩ d0⟩
    clear hx3
    have hv := hM.vldB
    have hv2 := hM2.vldB
    obtain ⟨s1, l1, hu, hR, -, -⟩ := utc_fine2 10 T hv t ht0 (by omega)
    obtain ⟨s2, l2, hu2, hR2, -, -⟩ := utc_fine2 10 _ hv2 t ht0 (by omega)
    have hM2v := hM2.vld
    rw [← HTe.out] at hM2v hR2
    have hmore := read_more (A, o + 1) hM.vld hM2v o (fun s hs => made_offs hM s (by simp at hs; omega)) rfl hR hR2
    simp only at hmore
    have hs20 : 0 ≤ s2 := by
      have h8 := offs_at hv2 s2
      rw [← HTe.out] at h8
      rcases hR2 with h9 | h9 <;> omega
    have hs21 : s2 ≤ 8796093022207 := by
      have h8 := offs_at hv2 s2
      rw [← HTe.out] at h8
      rcases hR2 with h9 | h9 <;> omega
    have HU := Lib.hid hu
    have HU2 := Lib.hid hu2
    clear hu hu2 hR hR2
    go_wp2_with fail
    refine (UTC_any _ _ _ _ _ _ hTW (by omega) (by omega)).mono ?_
    rw [HU.out]
    rintro e w1 ⟨rfl, hxq⟩
    obtain ⟨xq, rfl⟩ := hxq.out
    clear hxq
    go_wp2_with fail
    refine (UTC_any _ _ _ _ _ _ (hT2.ext (by repeat (first | (with_reducible first | exact Ext.refl _ | assumption | apply Ext.alloc | apply Ext.ext | apply Ext.drew | refine Ext.setCell ?_ ?_ _) | (focus (simp [go_sem]; done))))) (by omega) (by omega)).mono ?_
    rw [HU2.out]
    rintro e w1 ⟨rfl, hxq⟩
    obtain ⟨xq, rfl⟩ := hxq.out
    clear hxq
    obtain ⟨m1, m2, m3⟩ := hmore
    rcases Int.lt_trichotomy (t / 1048576) (A + o) with hc | hc | hc
    · obtain ⟨rfl, rfl⟩ := m1 hc
      have hl : t < (A + o) * 1048576 := by omega
      clear m1 m2 m3 hc
      go_wp2_with (first | (go_at_call 8; refine (known_any _).mono ?_; rintro e w1 ⟨rfl, hxq⟩; obtain ⟨xq, rfl⟩ := hxq.out; clear hxq))
      all_goals first
        | (exfalso; omega)
        | (go_returns; exact ⟨by first | rfl | (simp; done) | (simp; omega), (by repeat (first | (with_reducible first | exact Ext.refl _ | assumption | apply Ext.alloc | apply Ext.ext | apply Ext.drew | refine Ext.setCell ?_ ?_ _) | (focus (simp [go_sem]; done))))⟩)
    · have hl : ¬ t < (A + o) * 1048576 := by omega
      have hl2 : t < (A + o + 1) * 1048576 := by omega
      obtain ⟨rfl, rfl, rfl⟩ := m2 hc
      clear m1 m2 m3 hc
      go_wp2_with (first | (go_at_call 8; refine (known_any _).mono ?_; rintro e w1 ⟨rfl, hxq⟩; obtain ⟨xq, rfl⟩ := hxq.out; clear hxq))
      all_goals first
        | (exfalso; omega)
        | (go_returns; exact ⟨by first | rfl | (simp; done) | (simp; omega), (by repeat (first | (with_reducible first | exact Ext.refl _ | assumption | apply Ext.alloc | apply Ext.ext | apply Ext.drew | refine Ext.setCell ?_ ?_ _) | (focus (simp [go_sem]; done))))⟩)
    · have hl : ¬ t < (A + o) * 1048576 := by omega
      have hl2 : ¬ t < (A + o + 1) * 1048576 := by omega
      obtain ⟨e1, rfl⟩ := m3 hc
      have hb : (s1 == s2 + 1) = true := by rw [beq_iff_eq]; exact e1
      clear m1 m2 m3 hc e1
      go_wp2_with (first | (go_at_call 8; refine (known_any _).mono ?_; rintro e w1 ⟨rfl, hxq⟩; obtain ⟨xq, rfl⟩ := hxq.out; clear hxq))
      all_goals first
        | (exfalso; omega)
        | (go_returns; exact ⟨by first | rfl | (simp; done) | (simp; omega), (by repeat (first | (with_reducible first | exact Ext.refl _ | assumption | apply Ext.alloc | apply Ext.ext | apply Ext.drew | refine Ext.setCell ?_ ?_ _) | (focus (simp [go_sem]; done))))⟩)
end Go.Proofs.Ytlmnholjngfpmaa
