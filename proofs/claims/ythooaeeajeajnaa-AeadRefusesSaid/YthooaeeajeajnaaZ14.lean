/- Lemmas of this claim, several texts joined. -/
import Derived.Test.YthooaeeajeajnaaZ10
import Derived.Test.YthooaeeajeajnaaZ13
set_option linter.unusedVariables false
set_option linter.unusedSimpArgs false
/- The steps of a chain of operations in a region that draws its order. -/
namespace Go.Sec.R5
open Go.RowKit
section
variable {P : Program} {ops : Array Oper} {Q : Exit → Act → World → Prop} {W : World} {S : World → Prop} {D : List Nat} {o : Oper} {l : List Oper} {t : Nat} {a : Act} {w : World}
theorem chain_taken (hD : D.contains t = true) (h : wpChain P ops Q S D l (t + 1) a w) : wpChain P ops Q S D (o :: l) t a w := by
  unfold wpChain; rw [if_pos hD]; exact h
theorem chain_cons (hD : D.contains t = false) (hw : Region.wanted o (yielded ops a.tmps) = true) (h : gives P o a.eval w (fun v w' => S w' ∧ wpChain P ops Q S D l (t + 1) (a.put o.dst v) w')) : wpChain P ops Q S D (o :: l) t a w := by
  unfold wpChain; rw [if_neg (by rw [hD]; simp), if_pos hw]; exact h
theorem chain_der (hSE : ∀ w', Ext W w' → S w') (hD : D.contains t = false) (hw : Region.wanted o (yielded ops a.tmps) = true) (v : Value) (hx : Ext W w) (hr : (execOp a.eval o).run P w = .ok (.value v) w) (h : wpChain P ops Q S D l (t + 1) (a.put o.dst v) w) : wpChain P ops Q S D (o :: l) t a w := by
  refine chain_cons hD hw ?_
  unfold gives; rw [hr]; exact ⟨hSE _ hx, h⟩
theorem chain_append (hSE : ∀ w', Ext W w' → S w') (U : U8 P) (hD : D.contains t = false) (hgd : o.guard = none) (s x : Operand)
    (ho : o.op = .call { callee := .builtin .append, args := #[s, x], argTypes := #[22, 22] })
    (base : Nat) (sa0 : Option Addr) (n c0 : Nat) (k : List UInt8) (hs : a.eval s = .slice sa0 n c0) (A : Option Addr) (m c : Nat) (k' : List UInt8) (hx : a.eval x = .slice A m c)
    (hown : Own w base sa0 n c0 k) (hsl : Sl w A m k') (hlen : n + m ≤ 140737488355328) (hbase : base ≤ w.heap.size) (hWb : W.heap.size ≤ base) (hE : Ext W w)
    (h : ∀ sa sc w', Own w' base sa (n + m) sc (k ++ k') → w.grownBy w' (Value.slice sa0 n c0).ownBlock → Below base w w' → Ext W w' → wpChain P ops Q S D l (t + 1) (a.put o.dst (.slice sa (n + m) sc)) w') :
    wpChain P ops Q S D (o :: l) t a w := by
  obtain ⟨sa, sc, w', hrun, h2, h3, h4⟩ := run_append_by U w o.type base sa0 n c0 k hown A m c k' hsl hlen hbase
  refine chain_cons hD (by simp [Region.wanted, hgd]) ?_
  unfold gives execOp
  simp only [ho, resolve, invoke, builtin, Sem.run_bind, Sem.run_pure, Result.andThen_ok, List.map_toArray, List.map_cons, List.map_nil, hs, hx, hrun]
  exact ⟨hSE _ (Below.trans hE (h4.mono hWb)), h sa sc w' h2 h3 h4 (Below.trans hE (h4.mono hWb))⟩
theorem vag_freshW {f : FuncId} {args : Array Value} {n : Nat} {k : List UInt8} {K : World → Prop} (hW : Ext W w) (hK : K w) (h : Calls P f args w (Fresh n k w)) :
    Calls P f args w fun e w' => ∃ v, e = .returned v ∧ ∃ p : Par, v = .slice (p 0).1 n (p 0).2 ∧ Ext w w' ∧ ∃ w0, Ext W w0 ∧ Ext w0 w' ∧ K w0 ∧ Own w' w0.heap.size (p 0).1 n (p 0).2 k :=
  h.mono fun _ w' ⟨a, c, he, hO, hx⟩ => ⟨_, he, fun _ => (a, c), rfl, hx, w, hW, hx, hK, hO⟩
theorem chain_store {T : TypeId} {n : Nat} (hT : RowT P T n) (hD : D.contains t = false) (hgd : o.guard = none) (x y : Operand) (ho : o.op = .store T x y) (g off : Nat) (hx : a.eval x = .pointer (some ⟨g, off, none⟩)) (cs : List Value) (hy : a.eval y = .agg cs.toArray)
    (T' : TypeId) (vs : List Value) (hB : Blk w g T' vs) (hn : cs.length = n) (hfit : off + n ≤ vs.length) (h1 : ∀ v ∈ cs, v.oneCell' = true)
    (h : ∀ w', Blk w' g T' (vs.take off ++ cs ++ vs.drop (off + n)) → Mut g w w' → S w' ∧ wpChain P ops Q S D l (t + 1) (a.put o.dst undef) w') : wpChain P ops Q S D (o :: l) t a w := by
  refine chain_cons hD (by simp [Region.wanted, hgd]) ?_
  subst hn
  have hrun := run_storeAt_mid (P := P) w g off T cs.toArray (by simpa using hB.there off cs.length hfit) (by simpa using hT.info) (all_oneCell_toArray h1)
  unfold gives execOp
  simp only [ho, hx, hy, Sem.run_bind, hrun, Result.andThen_ok, Sem.run_pure]
  exact h _ (setCells_blk cs off w vs hB hfit) (setCells_mut cs off w)
theorem chain_nil (h : Q .normal a w) : wpChain P ops Q S D [] t a w := h
theorem take_load {T : TypeId} {n : Nat} (hT : RowT P T n) (x : Operand) (ho : o.op = .load T x) (hgd : o.guard = none) (b off : Nat) (hx : a.eval x = .pointer (some ⟨b, off, none⟩)) (cs : List Value) (hc : ∀ w', S w' → Rd w' (some ⟨b, off, none⟩) cs) (hn : cs.length = n) :
    YieldsIf P ops S o (.agg cs.toArray) a :=
  .inl ⟨by simp [Region.wanted, hgd], fun w hw => by
    unfold execOp
    simp only [ho, hx, Sem.run_bind, Sem.run_pure, Result.andThen_ok, run_load_rd hT (hc w hw) hn]⟩
end
end Go.Sec.R5
