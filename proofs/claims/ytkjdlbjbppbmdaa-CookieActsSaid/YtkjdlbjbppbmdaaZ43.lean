/- Lemmas of this claim, several texts joined. -/
import Derived.StillTail
import Derived.Test.YtkjdlbjbppbmdaaZ8
set_option linter.unusedVariables false
set_option linter.unusedSimpArgs false
/- Small things that several chapters share. -/
namespace Go.Sec
open Go.RowKit
section
variable {P : Program} {fn : Func} {p u u2 u3 : Tmp} {T : TypeId} {n : Nat}
theorem results_arr_tmp2 (h : fn.results = #[.cell p T, .tmp u, .tmp u2]) (hT : RowT P T n) (tmps : Array Value) (w : World) (g o : Nat) (cs : List Value) (hp : tmps.getD p undef = .pointer (some ⟨g, o, none⟩))
    (hR : Rd w (some ⟨g, o, none⟩) cs) (hn : cs.length = n) (v v2 : Value) (hv : tmps.getD u undef = v) (hv2 : tmps.getD u2 undef = v2) : (results fn tmps).run P w = .ok (.tuple #[.agg cs.toArray, v, v2]) w := by
  have hp' : tmps[p]?.getD undef = .pointer (some ⟨g, o, none⟩) := by simpa using hp
  subst hv hv2
  simp [results, h, hp', asAddr, loadVar_arr hT w g o cs hR hn]
theorem results_arr_tmp3 (h : fn.results = #[.cell p T, .tmp u, .tmp u2, .tmp u3]) (hT : RowT P T n) (tmps : Array Value) (w : World) (g o : Nat) (cs : List Value) (hp : tmps.getD p undef = .pointer (some ⟨g, o, none⟩))
    (hR : Rd w (some ⟨g, o, none⟩) cs) (hn : cs.length = n) (v v2 v3 : Value) (hv : tmps.getD u undef = v) (hv2 : tmps.getD u2 undef = v2) (hv3 : tmps.getD u3 undef = v3) : (results fn tmps).run P w = .ok (.tuple #[.agg cs.toArray, v, v2, v3]) w := by
  have hp' : tmps[p]?.getD undef = .pointer (some ⟨g, o, none⟩) := by simpa using hp
  subst hv hv2 hv3
  simp [results, h, hp', asAddr, loadVar_arr hT w g o cs hR hn]
end
theorem vag_bsc {P : Program} {f : FuncId} {args : Array Value} {w : World} {n : Nat} {L : List (List UInt8)} (h : Calls P f args w fun e w' => ∃ a c, e = .returned (.slice a n c) ∧ n ≤ c ∧ Bsc w' a n L ∧ Ext w w') :
    Calls P f args w fun e w' => ∃ x, e = .returned x ∧ ∃ p : Par, x = .slice (p 0).1 n (p 0).2 ∧ Ext w w' ∧ Bsc w' (p 0).1 n L :=
  h.mono fun _ _ ⟨a, c, he, hc, hS, hx⟩ => ⟨_, he, fun _ => (a, c), rfl, hx, hS⟩
end Go.Sec
namespace Go.Proofs.Ytkjdlbjbppbmdaa
open Go.RowKit Go.Sec BigFrame

theorem n64_int (k : Int) (h : 0 ≤ k) (h2 : k < 18446744073709551616) : IntKind.u64.wrap k = n64 (UInt64.ofNat k.toNat) := by
  unfold n64
  rw [IntKind.wrap_u64, UInt64.toNat_ofNat']
  omega

theorem nameW {P : Program} {c : Code} {Q : Exit → Act → World → Prop} {a : Act} {w : World} (h : ∀ W, W = w → c.wp P Q a W) : c.wp P Q a w := h w rfl
theorem rd_marked (w : World) (cs : Array Value) (t : TypeId) (fr : Nat × Nat) : Rd (w.alloc (.cells cs t fr)) (some ⟨w.heap.size, 0, none⟩) cs.toList :=
  .inr ⟨w.heap.size, 0, rfl, by simp, fun k v hk => by rw [Nat.zero_add, cell_of_row _ w.heap.size k cs t fr (heap_alloc_new w _)]; simpa using hk⟩
end Go.Proofs.Ytkjdlbjbppbmdaa
