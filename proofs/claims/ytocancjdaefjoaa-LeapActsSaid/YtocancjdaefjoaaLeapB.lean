/- The walks of the program's functions on leap seconds, part two. -/
import Derived.Test.YtocancjdaefjoaaLeapA
namespace Go.Proofs.Ytocancjdaefjoaa
open Go.RowKit Go.Sec Go.Leap BigFrame

theorem rem_day (x : Int) : ((x.tmod 86400 == 0) = true) ↔ x % 86400 = 0 := by
  rw [beq_iff_eq]
  constructor
  · intro h; have := Int.dvd_of_tmod_eq_zero h; omega
  · intro h; exact Int.tmod_eq_zero_of_dvd (by omega)

theorem bne_iff' {a b : Int} : a = b → (a != b) = false := by simp
theorem bne_val {b c : Int} (a : Int) (h : a = b) : (a != c) = (b != c) := by rw [h]
theorem beq_val {b c : Int} (a : Int) (h : a = b) : (a == c) = (b == c) := by rw [h]
theorem bne_f {a b : Int} (h : (a != b) = false) : a = b := by simpa using h
theorem bne_t {a b : Int} (h : (a != b) = true) : a ≠ b := by simpa using h
section
variable (P X : Int × Int)
theorem ok_y1 (hlb : -86400 ≤ P.1 ∧ P.1 ≤ 137438953472 ∧ -64 ≤ P.2 ∧ P.2 ≤ 164) (hbx : -9223372036854775808 ≤ X.1 ∧ X.1 ≤ 9223372036854775807 ∧ -9223372036854775808 ≤ X.2 ∧ X.2 ≤ 9223372036854775807)
    (h1 : X.1.tmod 86400 = 0) (h2 : P.1 + 172800 ≤ X.1) (h3 : X.1 ≤ 137438953472) (h4 : wrap64 (X.2 - P.2) = 1) : okNext P X = true := by
  have := (rem_day X.1).1 (by rw [beq_iff_eq]; exact h1)
  rw [okNext_iff]
  rw [wrap64_eq] at h4
  omega
theorem ok_y2 (hlb : -86400 ≤ P.1 ∧ P.1 ≤ 137438953472 ∧ -64 ≤ P.2 ∧ P.2 ≤ 164) (hbx : -9223372036854775808 ≤ X.1 ∧ X.1 ≤ 9223372036854775807 ∧ -9223372036854775808 ≤ X.2 ∧ X.2 ≤ 9223372036854775807)
    (h1 : X.1.tmod 86400 = 0) (h2 : ¬ wrap64 (X.2 - P.2) = 1)
    (h3 : (P.1 + 172800 ≤ X.1 ∧ X.1 ≤ 137438953472) ∧ ((wrap64 (X.2 - P.2) != 1) = false ∨ (wrap64 (X.2 - P.2) != -1) = false)) : okNext P X = true := by
  have := (rem_day X.1).1 (by rw [beq_iff_eq]; exact h1)
  rw [okNext_iff]
  have h4 : wrap64 (X.2 - P.2) = -1 := by
    rcases h3.2 with h | h
    · exact absurd (bne_f h) h2
    · exact bne_f h
  rw [wrap64_eq] at h4
  omega
theorem ok_no (h : ¬ (X.1 % 86400 = 0 ∧ P.1 + 172800 ≤ X.1 ∧ X.1 ≤ 137438953472 ∧ (X.2 - P.2 = 1 ∨ X.2 - P.2 = -1))) : okNext P X = false := by
  cases h' : okNext P X with
  | false => rfl
  | true => exact absurd (okNext_iff.1 h') h
theorem ok_n1 (h : ¬ X.1.tmod 86400 = 0) : okNext P X = false := ok_no P X (by
  intro h'; exact h (by have := (rem_day X.1).2 h'.1; rwa [beq_iff_eq] at this))
theorem ok_n2 (h : X.1 < P.1 + 172800) : okNext P X = false := ok_no P X (by omega)
theorem ok_n3 (h : 137438953472 < X.1) : okNext P X = false := ok_no P X (by omega)
theorem ok_n4 (h1 : P.1 + 172800 ≤ X.1) (h2 : X.1 ≤ 137438953472)
    (h3 : (X.1 < P.1 + 172800 ∨ 137438953472 < X.1) ∨ (wrap64 (X.2 - P.2) != 1) = true ∧ (wrap64 (X.2 - P.2) != -1) = true) : okNext P X = false := ok_no P X (by
  rcases h3 with h | h
  · omega
  · have a := bne_t h.1
    have b := bne_t h.2
    rw [wrap64_eq] at a b
    omega)
end

set_option maxHeartbeats 2000000 in
theorem valid_any (first : Int) (a : Option Addr) (cap : Nat) (L : List (Int × Int)) (w : World) (hT : Tb w a L) :
    Calls Try.prog 14 #[.agg #[.int .i64 first, .slice a L.length cap]] w fun e w' => e = .returned (.bool (vldB first L)) ∧ Ext w w' := by
  by_cases hg : 0 ≤ first ∧ first ≤ 100 ∧ L.length ≤ 64
  case neg =>
    have hf : vldB first L = false := by cases h : vldB first L with | false => rfl | true => exact absurd (vldB_iff.1 h) (by intro h; exact hg ⟨h.1, h.2.1, h.2.2.1⟩)
    have HF := Lib.hid hf
    clear hf
    by_cases h1 : 0 ≤ first
    · by_cases h2 : first ≤ 100
      · have h3 : 64 < L.length := by omega
        go_enter Try.func14, Try.ntmps14
        go_wp2
        go_returns
        exact ⟨by rw [HF.out]; rfl, (Ext.refl _).alloc _⟩
      · go_enter Try.func14, Try.ntmps14
        go_wp2
        go_returns
        exact ⟨by rw [HF.out]; rfl, (Ext.refl _).alloc _⟩
    · go_enter Try.func14, Try.ntmps14
      go_wp2
      go_returns
      exact ⟨by rw [HF.out]; rfl, (Ext.refl _).alloc _⟩
  case pos =>
    obtain ⟨hf0, hf1, hl⟩ := hg
    have hv : vldB first L = vldL (-86400, first) L := by simp [vldB, hf0, hf1, hl]
    have HV := Lib.hid hv
    clear hv
    go_enter Try.func14, Try.ntmps14
    go_wp2
    go_loopw [27] (fun v27 wr => ∃ k : Nat, k ≤ L.length ∧ v27 = .int .i64 k ∧ vldL (-86400, first) (L.take k) = true ∧
        wr.cell? ⟨w.heap.size + 1, 0, none⟩ = some (.int .i64 (lastOf (-86400, first) (L.take k)).1) ∧ wr.cell? ⟨w.heap.size + 1, 1, none⟩ = some (.int .i64 (lastOf (-86400, first) (L.take k)).2) ∧
        (∀ o, wr.frozen? ⟨w.heap.size + 1, o, none⟩ = false) ∧ w.heap.size + 1 < wr.heap.size ∧ Ext w wr) (fun v27 _ => L.length - (intOf v27).toNat)
    case atStart => exact ⟨0, Nat.zero_le _, rfl, rfl, by simp [lastOf, go_sem], by simp [lastOf, go_sem], by intro o; simp [go_sem], by simp, ((Ext.refl _).alloc _).alloc _⟩
    case round =>
      obtain ⟨k, hk, rfl, hvk, hc0, hc1, hfz, hz, hB⟩ := hrel
      by_cases hlt : k < L.length
      · obtain ⟨b, off, rfl, hb, hc, hd⟩ := (hT.ext hB).at k hlt
        have hlb := lastOf_bd first ⟨hf0, hf1⟩ (L.take k) hvk (by rw [List.length_take]; omega)
        have HL := Lib.hid (lastOf_take (-86400, first) L k hlt)
        have HT := Lib.hid (vldL_take (-86400, first) L k hlt)
        have HX := Lib.hid (vldL_false (-86400, first) L k hlt)
        have HK := Lib.hid hvk
        clear hvk
        have hbx := Lib.hid (hT.bd L[k] (List.getElem_mem hlt))
        generalize hP : lastOf (-86400, first) (L.take k) = P at *
        generalize hX : L[k] = X at *
        clear hP hX
        go_wp2
        all_goals first
          | (have hok := ok_y1 P X hlb hbx.out (by assumption) (by assumption) (by assumption) (by assumption)
             go_roundw
             case rel =>
               refine ⟨k + 1, by omega, by go_num, by rw [HT.out, HK.out, hok]; rfl, ?_, ?_, ?_, ?_, ?_⟩
               · rw [HL.out]; simp [go_sem, *]
               · rw [HL.out]; simp [go_sem, *]
               · intro o; simp [go_sem, *]
               · simp; omega
               · go_grown
             case measure => simp [intOf]; omega)
          | (have hok := ok_y2 P X hlb hbx.out (by assumption) (by assumption) (by assumption)
             go_roundw
             case rel =>
               refine ⟨k + 1, by omega, by go_num, by rw [HT.out, HK.out, hok]; rfl, ?_, ?_, ?_, ?_, ?_⟩
               · rw [HL.out]; simp [go_sem, *]
               · rw [HL.out]; simp [go_sem, *]
               · intro o; simp [go_sem, *]
               · simp; omega
               · go_grown
             case measure => simp [intOf]; omega)
          | (have hok : okNext P X = false := by
               first
                 | exact ok_n1 P X (by assumption)
                 | exact ok_n2 P X (by assumption)
                 | exact ok_n3 P X (by assumption)
                 | exact ok_n4 P X (by assumption) (by assumption) (by assumption)
             go_returns
             exact ⟨by rw [HV.out, HX.out hok]; rfl, hB.alloc _⟩)
      · have hkk : k = L.length := by omega
        subst hkk
        go_wp2
        go_returns
        rw [List.take_length] at hvk
        exact ⟨by rw [HV.out, hvk]; rfl, hB⟩

end Go.Proofs.Ytocancjdaefjoaa
