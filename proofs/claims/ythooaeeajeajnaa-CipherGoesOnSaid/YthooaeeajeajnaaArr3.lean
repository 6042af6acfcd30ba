/- Whole arrays as results. -/
import Derived.Test.YthooaeeajeajnaaOwn
import Derived.Laws.ResultCell
namespace Go.Sec
open Go.RowKit
section
variable {P : Program} {fn : Func} {p u : Tmp} {T : TypeId} {n : Nat}
theorem loadVar_arr (hT : RowT P T n) (w : World) (g o : Nat) (cs : List Value) (hR : Rd w (some ⟨g, o, none⟩) cs) (hn : cs.length = n) : (loadVar T ⟨g, o, none⟩).run P w = .ok (.agg cs.toArray) w := by
  obtain ⟨d, hu, hd⟩ := hT.und
  exact run_loadVar_mid w g o T cs d hR.range hu hd (by rw [hT.info, hn])
theorem results_arr (h : fn.results = #[.cell p T]) (hT : RowT P T n) (tmps : Array Value) (w : World) (g o : Nat) (cs : List Value) (hp : tmps.getD p undef = .pointer (some ⟨g, o, none⟩))
    (hR : Rd w (some ⟨g, o, none⟩) cs) (hn : cs.length = n) : (results fn tmps).run P w = .ok (.agg cs.toArray) w := by
  have hp' : tmps[p]?.getD undef = .pointer (some ⟨g, o, none⟩) := by simpa using hp
  simp [results, h, hp', asAddr, loadVar_arr hT w g o cs hR hn]
theorem results_arr_tmp (h : fn.results = #[.cell p T, .tmp u]) (hT : RowT P T n) (tmps : Array Value) (w : World) (g o : Nat) (cs : List Value) (hp : tmps.getD p undef = .pointer (some ⟨g, o, none⟩))
    (hR : Rd w (some ⟨g, o, none⟩) cs) (hn : cs.length = n) (v : Value) (hv : tmps.getD u undef = v) : (results fn tmps).run P w = .ok (.tuple #[.agg cs.toArray, v]) w := by
  have hp' : tmps[p]?.getD undef = .pointer (some ⟨g, o, none⟩) := by simpa using hp
  subst hv
  simp [results, h, hp', asAddr, loadVar_arr hT w g o cs hR hn]
end
end Go.Sec
