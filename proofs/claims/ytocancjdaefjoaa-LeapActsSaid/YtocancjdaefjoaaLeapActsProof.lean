/- The law LeapActs returns true for every input, and each argument reads as it did: no condition. -/
import Derived.Test.YtocancjdaefjoaaRows
import Derived.Test.YtocancjdaefjoaaLeapW
import Derived.WalkKit
import Derived.ProofKit
import Derived.OpenShut
import Derived.ShutString
import Derived.ChangeOld
import Derived.Below
import Derived.Lib.SmallJoins
import Derived.Deep.SlicePairs
namespace Go.Proofs.Ytocancjdaefjoaa.leapActs
open Go.ChangeShapes Go.WideShapes Go.ChangeAt Go.RowKit
open Go.Joins Go.Deep
set_option linter.unusedVariables false

theorem own : ownKnob Try.prog.godebug = none := by kernel_rfl
theorem laidOut : laidOutB Try.prog = true := by kernel_rfl
theorem cellsL : Try.prog.cellsOf 25 = 2 := by kernel_rfl
theorem cellsU : Try.prog.cellsOf 29 = 3 := by kernel_rfl

theorem wf64 {x : Int} (h : (Lit.int .i64 x).wf = true) : -9223372036854775808 ≤ x ∧ x ≤ 9223372036854775807 := by
  simpa [Lit.wf, IntKind.min, IntKind.max, IntKind.signed, IntKind.bits] using h

theorem tb_of {H : Type} {enc : TypeId × Value → H} {w : World} {base : Nat} {spare : Nat → Bool} {held : Bool} {n : Nat} {v : Value} {y : DataW H × List MemPlace}
    (h : DataW.trod enc Try.prog w base spare held n 23 [v] = some y) : ∃ a cap L, v = .slice a (L : List (Int × Int)).length cap ∧ (L.length ≤ 70 → Tb w a L) := by
  rcases open_slice_pairs (f0 := _) (f1 := _) Try.underlying23 Try.underlying39 (by kernel_rfl) rfl rfl (by kernel_rfl) (by kernel_rfl) h with ⟨hcs, _⟩ | ⟨a, len, cap, m, n, V0, V1, D0, D1, P0, P1, hcs, _, hl, _, hm, _, hall⟩
  · injection hcs with e _
    exact ⟨none, 0, [], e, fun _ => ⟨by simp, by simp, .inl rfl⟩⟩
  · injection hcs with e _
    have hmm : len ≤ m := by rw [hm]; split <;> omega
    have hint : ∀ i, i < len → ∃ x y, V0 i = .int .i64 x ∧ V1 i = .int .i64 y ∧ (Lit.int .i64 x).wf = true ∧ (Lit.int .i64 y).wf = true := by
      intro i hi
      obtain ⟨_, _, h0, h1⟩ := hall i (by omega)
      obtain ⟨x, e0, _, wx⟩ := DataW.trod_int Try.underlying3 h0
      obtain ⟨y, e1, _, wy⟩ := DataW.trod_int Try.underlying3 h1
      simp at e0 e1
      exact ⟨x, y, e0, e1, wx, wy⟩
    have hL : ((List.range len).map fun i => (intOf (V0 i), intOf (V1 i))).length = len := by simp
    refine ⟨some a, cap, (List.range len).map fun i => (intOf (V0 i), intOf (V1 i)), by rw [hL]; exact e, fun h70 => ?_⟩
    refine ⟨?_, by omega, ?_⟩
    · intro x hx
      obtain ⟨i, hi, rfl⟩ := List.mem_map.1 hx
      obtain ⟨p, q, e0, e1, w0, w1⟩ := hint i (List.mem_range.1 hi)
      rw [e0, e1]
      have a := wf64 w0
      have b := wf64 w1
      exact ⟨a.1, a.2, b.1, b.2⟩
    · by_cases h0 : len = 0
      · exact .inl (by omega)
      · right
        obtain ⟨c0, _⟩ := hall 0 (by omega)
        have ha : a = ⟨a.block, a.off, none⟩ := addr_none a w _ (by simpa [Addr.add] using c0)
        refine ⟨a.block, a.off, by rw [← ha], World.block_lt_of_cell? w a (by simpa [Addr.add] using c0), fun k hk => ?_⟩
        rw [hL] at hk
        obtain ⟨d0, d1, _, _⟩ := hall k (by omega)
        obtain ⟨p, q, e0, e1, _, _⟩ := hint k hk
        have hadd : ∀ j, a.add j = ⟨a.block, a.off + j, none⟩ := by
          intro j
          by_cases h0 : j = 0
          · subst h0; simp [Addr.add]; exact ha
          · simp [Addr.add, h0]
        rw [hadd] at d0 d1
        simp only [List.getElem_map, List.getElem_range]
        rw [e0, e1]
        rw [e0] at d0
        rw [e1] at d1
        exact ⟨d0, by simp only [intOf]; rw [Nat.add_assoc]; exact d1⟩

set_option maxRecDepth 100000 in
theorem lifted (os : Os) (started : os.Started) (H : Type) (enc : TypeId × Value → H) :
    ReturnsInHanded {} Try.checked os 7 .any (Rows.leapActsSpec.pre6 enc Try.prog Try.f7 Rows.leapActsRow.domain false) (Rows.leapActsSpec.post enc Try.prog Try.f7 false true false false) := by
  refine returnsInHanded_of_change (C := Try.checked) own started (by kernel_rfl) Try.func7
    (ChangeSpec.witness6 (enc := enc) (C := Try.checked) false ⟨#[], #[.agg #[.int .i64 0, .slice none 0 0], .agg #[.int .i64 0, .bool false, .int .i64 0], .int .i64 0, .int .i64 0, .int .i64 0], []⟩ 8 (by kernel_rfl) (by kernel_rfl) (by kernel_rfl) (by kernel_rfl)) ?_
  intro W base args ds gs before hval0 hW hcnd _
  have hval : ∀ (j : Nat) t v, Try.f7.params[j]? = some t → args[j]? = some v → Value.okWide Try.prog W .any base t v := hval0
  have hW' := hW
  obtain ⟨p, q, hA0, hV, rfl, hfz, hnd⟩ := hW
  have hA : DataW.TrodAll enc Try.prog W 0 (fun _ => true) true Try.f7.params.toList args.toList ds p := hA0
  rw [Try.params7] at hA hval
  obtain ⟨v0, vs0, d0, ds0, p0, q0, hargs, rfl, rfl, h0, r0⟩ := trodAll_cons hA
  obtain ⟨v1, vs1, d1, ds1, p1, q1, rfl, rfl, rfl, h1, r1⟩ := trodAll_cons r0
  obtain ⟨v2, vs2, d2, ds2, p2, q2, rfl, rfl, rfl, h2, r2⟩ := trodAll_cons r1
  obtain ⟨v3, vs3, d3, ds3, p3, q3, rfl, rfl, rfl, h3, r3⟩ := trodAll_cons r2
  obtain ⟨v4, vs4, d4, ds4, p4, q4, rfl, rfl, rfl, h4, r4⟩ := trodAll_cons r3
  obtain ⟨rfl, rfl, rfl⟩ := trodAll_nil r4
  obtain rfl : args = #[v0, v1, v2, v3, v4] := by cases args; simp_all
  obtain ⟨rfl, rfl⟩ := trodVars_none hV
  have k0 := h0
  have k1 := h1
  have lt0 : ∀ x ∈ p0, x.block < W.heap.size := by obtain ⟨m, hm⟩ := k0; exact DataW.trod_lt m _ _ _ hm
  have lt1 : ∀ x ∈ p1, x.block < W.heap.size := by obtain ⟨m, hm⟩ := k1; exact DataW.trod_lt m _ _ _ hm
  obtain ⟨a0, b0, y0, z0, m0, rfl, e0, e0', hy0, hz0⟩ := open_agg2 Try.underlying25 (by kernel_rfl) cellsL (hval 0 25 v0 rfl rfl) h0
  obtain ⟨first, g0, _, _⟩ := DataW.trod_int Try.underlying3 hy0
  simp at g0
  subst g0
  obtain ⟨a, cap, L, rfl, hT⟩ := tb_of hz0
  obtain ⟨a1, b1, c1, x1, y1, z1, m1, rfl, e1, e1', hx1, hy1, hz1⟩ := open_agg3 Try.underlying29 (by kernel_rfl) cellsU (hval 1 29 v1 rfl rfl) h1
  obtain ⟨us, g1, _, _⟩ := DataW.trod_int Try.underlying3 hx1
  obtain ⟨ul, g2, _⟩ := DataW.trod_bool Try.underlying4 hy1
  obtain ⟨ut, g3, _, _⟩ := DataW.trod_int Try.underlying3 hz1
  simp at g1 g2 g3
  subst g1 g2 g3
  obtain ⟨t, rfl, rfl, rfl, w2⟩ := open_int Try.underlying3 (hval 2 3 v2 rfl rfl) h2
  obtain ⟨second, rfl, rfl, rfl, w3⟩ := open_int Try.underlying3 (hval 3 3 v3 rfl rfl) h3
  obtain ⟨ticks, rfl, rfl, rfl, w4⟩ := open_int Try.underlying3 (hval 4 3 v4 rfl rfl) h4
  have hb := wf64 w2
  clear hA0 hval0
  refine (acts_walk first a cap L us ut t second ticks ul W hT (by omega) (by omega)).mono fun e W' ⟨he, bel⟩ => ?_
  subst he
  exact ⟨_, rfl, _, _, _, [], _, [], hW', trodAll_mk1 (shut_bool Try.underlying4 _), (trodAll_cons_mk (Below.trod laidOut (by kernel_rfl) (of_decide_eq_true (by kernel_rfl)) k0 bel lt0) (trodAll_cons_mk (Below.trod laidOut (by kernel_rfl) (of_decide_eq_true (by kernel_rfl)) k1 bel lt1) (trodAll_cons_mk (shut_int Try.underlying3 w2) (trodAll_cons_mk (shut_int Try.underlying3 w3) (trodAll_cons_mk (shut_int Try.underlying3 w4) trodAll_mk0))))), rfl, bel.frame _, fun h => by cases h⟩

theorem over : Rows.leapActsRow.holds Try.pinned (OpenSpec.ofChange Rows.leapActsSpec) :=
  OpenClaim.holds_of_wide 7 Try.f7 rfl rfl rfl rfl rfl rfl rfl ⟨rfl, rfl, rfl, rfl, rfl⟩ rfl rfl rfl rfl rfl (by kernel_rfl) Try.func7 (by kernel_rfl)
    (of_decide_eq_true (by kernel_rfl)) (by unfold Func.isWrapper; first | (rw [if_pos (by decide +kernel)]; kernel_rfl) | (rw [if_neg (by decide +kernel)]; exact ⟨rfl, rfl⟩))
    (fun os started H enc _ => lifted os started H enc)

theorem proved : Rows.LeapActsSaid := over
end Go.Proofs.Ytocancjdaefjoaa.leapActs
