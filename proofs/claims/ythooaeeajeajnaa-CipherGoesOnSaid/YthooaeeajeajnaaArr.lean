/- Whole arrays and structs in memory: read, stored, made, without a look at their cells. -/
import Derived.Test.YthooaeeajeajnaaBytes
import Derived.Deep.MidRow
import Derived.Lib.AppendZerosOnto
import Derived.Lib.AppendZeros
namespace Go.Sec
open Go.RowKit

/-- A type whose variables are rows of n cells. -/
structure RowT (P : Program) (T : TypeId) (n : Nat) : Prop where
  und : ∃ d, P.underlying T = some d ∧ d.isRow = true
  info : (P.info? T).map (·.size) = some n
  zero : ∃ z, (∀ w, (zeroValue T).run P w = .ok z w) ∧ z.cells.size = n

theorem Rd.range {w : World} {b o : Nat} {cs : List Value} (h : Rd w (some ⟨b, o, none⟩) cs) : w.rangeAt b o cs := by
  intro j v hv
  rcases h with h | ⟨b', o', ha, _, hc⟩
  · subst h; simp at hv
  · injection ha with ha
    injection ha with e1 e2
    subst e1 e2
    exact hc j v hv
section
variable {P : Program} {ops : Array Oper} {rest : List Oper} {o : Oper} {a : Act} {w : World} {Q : Exit → Act → World → Prop}

theorem wpList_load_arr {T : TypeId} {n : Nat} (hT : RowT P T n) (hgd : o.guard = none) (x : Operand) (ho : o.op = .load T x) (b off : Nat) (hx : a.eval x = .pointer (some ⟨b, off, none⟩)) (cs : List Value)
    (hc : Rd w (some ⟨b, off, none⟩) cs) (hn : cs.length = n) (h : wpList P ops Q rest (a.put o.dst (.agg cs.toArray)) w) : wpList P ops Q (o :: rest) a w := by
  obtain ⟨d, hu, hd⟩ := hT.und
  exact wpList_load_mid hgd T x ho b off hx cs d hc.range hu hd (by rw [hT.info, hn]) h

theorem setCells_blk {g : Nat} {T : TypeId} (cs : List Value) : ∀ (o : Nat) (w : World) (vs : List Value), Blk w g T vs → o + cs.length ≤ vs.length →
    Blk (w.setCells g o cs) g T (vs.take o ++ cs ++ vs.drop (o + cs.length)) := by
  induction cs with
  | nil => intro o w vs h _; simpa [World.setCells] using h
  | cons c r ih =>
    intro o w vs h hl
    simp only [List.length_cons] at hl
    have := ih (o + 1) _ _ (h.set o c) (by simp; omega)
    simp only [World.setCells]
    have e : (vs.set o c).take (o + 1) ++ r ++ (vs.set o c).drop (o + 1 + r.length) = vs.take o ++ (c :: r) ++ vs.drop (o + (c :: r).length) := by
      have h1 : (vs.set o c).take (o + 1) = vs.take o ++ [c] := by
        rw [List.take_succ_eq_append_getElem (by simp; omega), List.take_set_of_le (Nat.le_refl _)]
        simp
      have h2 : (vs.set o c).drop (o + 1 + r.length) = vs.drop (o + 1 + r.length) := by
        rw [List.drop_set_of_lt (by omega)]
      rw [h1, h2]
      simp [Nat.add_assoc, Nat.add_comm 1]
    rwa [e] at this
theorem setCells_mut {g : Nat} (cs : List Value) : ∀ (o : Nat) (w : World), Mut g w (w.setCells g o cs) := by
  induction cs with
  | nil => intro o w; exact Mut.refl _ _
  | cons c r ih => intro o w; exact ((Mut.refl g w).setCell o c).trans (ih (o + 1) _)
theorem Blk.there {g : Nat} {T : TypeId} {vs : List Value} (h : Blk w g T vs) (o n : Nat) (hn : o + n ≤ vs.length) : w.there g o n :=
  fun j hj => ⟨by rw [h.cell (o + j) (by omega)]; rfl, h.free _⟩

/-- A store of a whole array into a block that is known. -/
theorem wpList_store_arr {T : TypeId} {n : Nat} (hT : RowT P T n) (hgd : o.guard = none) (x y : Operand) (ho : o.op = .store T x y) (g off : Nat) (hx : a.eval x = .pointer (some ⟨g, off, none⟩)) (cs : List Value) (hy : a.eval y = .agg cs.toArray)
    (T' : TypeId) (vs : List Value) (hB : Blk w g T' vs) (hn : cs.length = n) (hfit : off + n ≤ vs.length) (h1 : ∀ v ∈ cs, v.oneCell' = true)
    (h : ∀ w', Blk w' g T' (vs.take off ++ cs ++ vs.drop (off + n)) → Mut g w w' → wpList P ops Q rest (a.put o.dst undef) w') : wpList P ops Q (o :: rest) a w := by
  subst hn
  exact wpList_store_mid hgd T x y ho g off cs.toArray hx hy (by simpa using hB.there off cs.length hfit) (by simpa using hT.info) (all_oneCell_toArray h1)
    (h _ (setCells_blk cs off w vs hB hfit) (setCells_mut cs off w))

/-- A new variable, filled at once. -/
theorem wpList_alloc_store {T : TypeId} {n : Nat} (hT : RowT P T n) {o1 o2 : Oper} (hg1 : o1.guard = none) (hg2 : o2.guard = none) (d : Tmp) (y : Operand) (ho1 : o1.op = .alloc T) (hd1 : o1.dst = some d) (ho2 : o2.op = .store T (.tmp d) y) (hd2 : o2.dst = none)
    (hsz : d < a.tmps.size) (cs : List Value) (hy : a.eval y = .agg cs.toArray) (hyd : y ≠ .tmp d) (hn : cs.length = n) (h1 : ∀ v ∈ cs, v.oneCell' = true)
    (h : ∀ x : More, Blk (w.ext x) w.heap.size T cs → BlkLt w.heap.size (w.ext x) → wpList P ops Q rest (a.put (some d) (.pointer (some ⟨w.heap.size, 0, none⟩))) (w.ext x)) : wpList P ops Q (o1 :: o2 :: rest) a w := by
  obtain ⟨z, hz, hzs⟩ := hT.zero
  have hB0 : Blk (w.alloc (.cells z.cells T)) w.heap.size T z.cells.toList := Blk.new w z.cells T
  refine wpList_plain hg1 fun K hK => ?_
  unfold Oper.wp execOp
  simp only [ho1, Instr.alloc, Sem.run_bind, hz, Result.andThen_ok, newVar, newRow, Sem.run_pure]
  refine hK _ _ ?_
  rw [hd1]
  refine wpList_store_arr hT hg2 (.tmp d) y ho2 w.heap.size 0 (by simp [Act.eval, Act.put, hsz]) cs ?_ T z.cells.toList hB0 hn (by simp [hzs]) h1 ?_
  · rw [Act.eval_put]
    · exact hy
    · intro d' hd'
      injection hd' with hd'
      subst hd'
      exact hyd
  · intro w' hB' hM
    have hx : Ext w w' := Below.trans (b := w.alloc (.cells z.cells T)) (Ext.of_alloc _ _) (hM.below (Nat.le_refl _) (by simp))
    obtain ⟨x, rfl⟩ := hx.out
    have hcs : z.cells.toList.take 0 ++ cs ++ z.cells.toList.drop (0 + n) = cs := by
      simp [hzs]
    rw [hcs] at hB'
    rw [hd2]
    exact h x hB' hB'.blt

theorem loadCells_rd {P : Program} {w : World} {a : Addr} {cs : List Value} (h : ∀ j v, cs[j]? = some v → w.cell? (a.add j) = some v) : (loadCells a cs.length).run P w = .ok cs.toArray w := run_loadCells_list (P := P) w a cs h
/-- Zeros appended to a whole row of the call's own, with no room: a new row. -/
theorem run_append_zeros8 {P : Program} (U : U8 P) (hint : P.underlying 3 = some (.int .i64)) (w : World) (ty : TypeId) (base : Nat) (a : Option Addr) (n c : Nat) (l : List UInt8) (hO : Own w base a n c l) (m : Nat) (hm : 0 < m) (hlen : c + m ≤ 140737488355328) (hb : base ≤ w.heap.size) :
    ∃ c' x, n ≤ c' ∧ (Builtin.append_ #[22, 3] ty #[.slice a c c, .int .i64 (m : Int)]).run P w = .ok (.slice (some ⟨w.heap.size, 0, none⟩) (c + m) c') (w.ext x) ∧ Own (w.ext x) base (some ⟨w.heap.size, 0, none⟩) n c' l := by
  obtain ⟨i, hi, hzi, hs, hby⟩ := U.info
  have hold : ∃ olds : List Value, olds.length = c ∧ (Builtin.firstCells i.size c (.slice a c c)).run P w.drew = .ok olds.toArray w.drew ∧ olds.take n = l.map u8v ∧ n ≤ c := by
    rcases hO.2.2 with ⟨h1, h2⟩ | ⟨g, cap, cur, h1, h2, h3, h4, h5, h6, h7⟩
    · injection h1 with e1 e2 e3
      subst e1 e2 e3
      have : l = [] := List.eq_nil_of_length_eq_zero hO.1
      subst this
      exact ⟨[], rfl, by simp [Builtin.firstCells], rfl, Nat.le_refl _⟩
    · injection h1 with e1 e2 e3
      subst e1 e3
      refine ⟨cur.toList, by simpa using h6, ?_, by simpa using h7, h4⟩
      have := loadCells_rd (P := P) (w := w.drew) (a := ⟨g, 0, none⟩) (cs := cur.toList) (fun j v hj => by
        rw [addr_add, Nat.zero_add]
        show w.cell? ⟨g, j, none⟩ = some v
        rw [cell_of_row w g j cur _ (0, 0) h3]
        simpa using hj)
      simp only [Builtin.firstCells, hs, Nat.mul_one]
      have hc : cur.toList.length = c := by simpa using h6
      rw [hc] at this
      simpa using this
  obtain ⟨olds, ho1, ho2, ho3, ho4⟩ := hold
  have hr := Lib.run_append_grow_zeros (P := P) w 22 3 ty 5 i _ .i64 .i64 U.sl hint hi hzi a c c olds ho2 m hm (by omega) (by omega) (by omega) (by rw [hby]; omega)
    (by have := nextslicecap_le (show c < c + m by omega); rw [hby]; omega)
  have hcap := grownCap_ge w (c + m) c 5
  have hcap2 := grownCap_le_maxLen w (c + m) c 5 (by simp only [maxLen]; omega)
  generalize grownCap w (c + m) c 5 = c' at *
  generalize hz : (olds.toArray ++ Builtin.zeroCells (Value.int IntKind.u8 0).cells m ++ Builtin.zeroCells (Value.int IntKind.u8 0).cells (c' - (c + m))) = cur at hr
  have hsz : cur.size = c' * 1 := by subst hz; simp [size_zeroCells, ho1, Value.cells]; omega
  have htk : cur.toList.take (n * 1) = l.map u8v := by
    subst hz
    have : ((olds ++ (Builtin.zeroCells (Value.int .u8 0).cells m).toList ++ (Builtin.zeroCells (Value.int .u8 0).cells (c' - (c + m))).toList)).take (n * 1) = l.map u8v := by
      rw [Nat.mul_one, List.append_assoc, List.take_append_of_le_length (by omega), ho3]
    simpa using this
  refine ⟨c', ⟨#[.cells cur 5], w.drawn + 1⟩, by omega, hr, hO.1, hO.2.1, .inr ⟨w.heap.size, c', cur, rfl, hb, ?_, by omega, hcap2, hsz, htk⟩⟩
  show (w.heap ++ #[_])[w.heap.size]? = _
  simp
end
end Go.Sec
