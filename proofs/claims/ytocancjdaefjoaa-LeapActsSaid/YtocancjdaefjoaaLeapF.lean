/- The sanity check, and the law on round trips. -/
import Derived.Test.YtocancjdaefjoaaLeapD
import Derived.Test.YtocancjdaefjoaaLeapE
namespace Go.Proofs.Ytocancjdaefjoaa
open Go.RowKit Go.Sec Go.Leap BigFrame

theorem k1 : taiP 10 [(172800, 11)] 172799 true 0 = (181204418560, 0) := by decide +kernel
theorem k2 : numP 10 [(172800, 11)] 172799 5 = ((181203369989, 181204418565), 0) := by decide +kernel

set_option maxHeartbeats 4000000 in
theorem known_any (w : World) :
    Calls Try.prog 13 #[] w fun e w' => e = .returned (.bool true) ∧ Ext w w' := by
  have K1 := Lib.hid k1
  have K2 := Lib.hid k2
  go_enter Try.func13, Try.ntmps13
  go_wp2_with fail
  have hT : Tb ((w.alloc (.cells #[.int .i64 172800, .int .i64 11] 39)).alloc (.cells #[.int .i64 10, .slice (some ⟨w.heap.size, 0, none⟩) 1 1] 25)) (some ⟨w.heap.size, 0, none⟩) [(172800, 11)] := by
    refine ⟨by simp, by simp, .inr ⟨w.heap.size, 0, rfl, by simp; omega, ?_⟩⟩
    intro k hk
    match k, hk with
    | 0, _ => simp [go_sem]
  refine (TAI_any 10 _ 1 [(172800, 11)] 172799 true 0 _ (hT.ext (by repeat (first | (with_reducible first | exact Ext.refl _ | assumption | apply Ext.alloc | apply Ext.ext | apply Ext.drew | refine Ext.setCell ?_ ?_ _) | (focus (simp [go_sem]; done)))))).mono ?_
  rintro e w1 ⟨rfl, hxq⟩
  obtain ⟨xq, rfl⟩ := hxq.out
  clear hxq
  rw [K1.out]
  go_wp2_with fail
  refine (Number_any 10 _ 1 [(172800, 11)] 172799 5 _ (hT.ext (by repeat (first | (with_reducible first | exact Ext.refl _ | assumption | apply Ext.alloc | apply Ext.ext | apply Ext.drew | refine Ext.setCell ?_ ?_ _) | (focus (simp [go_sem]; done)))))).mono ?_
  rintro e w1 ⟨rfl, hxq⟩
  obtain ⟨xq, rfl⟩ := hxq.out
  clear hxq
  rw [K2.out]
  go_wp2_with fail
  go_returns
  exact ⟨rfl, (by repeat (first | (with_reducible first | exact Ext.refl _ | assumption | apply Ext.alloc | apply Ext.ext | apply Ext.drew | refine Ext.setCell ?_ ?_ _) | (focus (simp [go_sem]; done))))⟩

def IsRow (k : IntKind) (w : World) (a : Option Addr) (len cap : Nat) (zs : List Int) : Prop :=
  (a = none ∧ len = 0 ∧ cap = 0 ∧ zs = []) ∨
  ∃ x, a = some x ∧ len ≤ cap ∧ cap ≤ maxLen ∧ zs.length = cap ∧ (∀ i, i < zs.length → w.cell? (x.add i) = some (.int k (zs.getD i 0))) ∧ ∀ n ∈ zs, (Lit.int k n).wf = true

theorem addr_none (x : Addr) (w : World) (v : Value) (h : w.cell? x = some v) : x = ⟨x.block, x.off, none⟩ := by
  cases x with
  | mk b o s =>
    unfold World.cell? at h
    split at h
    · cases s with
      | none => rfl
      | some _ => simp at h
    · cases h
theorem Ints.of_row {w : World} {a : Option Addr} {len cap : Nat} {zs : List Int} (h : IsRow .i64 w a len cap zs) : Ints w a len := by
  rcases h with ⟨_, h, _⟩ | ⟨x, rfl, h1, _, h3, h4, _⟩
  · exact .inl h
  · by_cases h0 : len = 0
    · exact .inl h0
    · have c0 := h4 0 (by omega)
      have hx : x = ⟨x.block, x.off, none⟩ := addr_none x w _ (by simpa [Addr.add] using c0)
      refine .inr ⟨x.block, x.off, by rw [← hx], World.block_lt_of_cell? w x (by simpa [Addr.add] using c0), fun k hk => ?_⟩
      have ck := h4 k (by omega)
      refine ⟨zs.getD k 0, ?_⟩
      have ha : x.add k = ⟨x.block, x.off + k, none⟩ := by
        rw [hx]
        by_cases h0 : k = 0 <;> simp [Addr.add, h0]
      rw [← ha]
      exact ck

set_option maxHeartbeats 4000000 in
theorem roundTrip_walk (a0 : Option Addr) (len0 cap0 : Nat) (z0 : List Int) (a1 : Int) (w : World) (w0 : IsRow .i64 w a0 len0 cap0 z0) :
    Calls Try.prog 3 #[.slice a0 len0 cap0, .int .i64 a1] w fun e w' => e = .returned (.bool true) ∧ Below w.heap.size w w' := by
  have hI := Ints.of_row w0
  go_enter Try.func3, Try.ntmps3
  go_wp2_with fail
  refine (leaps_any _ _ _ _ hI).mono ?_
  rintro e w1 ⟨T, a', o, sa, sc, hM, hl4, rfl, hT, hxq⟩
  obtain ⟨xq, rfl⟩ := hxq.out
  clear hxq
  go_wp2_with fail
  refine (near_any _ _ _ _ _ _ _ hM (hT.ext (by repeat (first | (with_reducible first | exact Ext.refl _ | assumption | apply Ext.alloc | apply Ext.ext | apply Ext.drew | refine Ext.setCell ?_ ?_ _) | (focus (simp [go_sem]; done)))))).mono ?_
  rintro e w1 ⟨rfl, hxq⟩
  obtain ⟨ht0, ht1⟩ := near_bd hM a1
  generalize nearP T a1 = t at *
  obtain ⟨xq, rfl⟩ := hxq.out
  clear hxq
  have hv := hM.vldB
  obtain ⟨s, lp, hu, hR, hi, htai⟩ := utc_fine 10 T hv t ht0 (by omega)
  obtain ⟨s', lp', hu', hR', hi', -⟩ := utc_fine 10 T hv (t + 1) (by omega) (by omega)
  have hlater := read_later 10 T hv t s s' lp lp' hR hR'
  have HU := Lib.hid hu
  have HU' := Lib.hid hu'
  have HT := Lib.hid htai
  clear hu hu' htai hR hR'
  go_wp2_with fail
  refine (UTC_any _ _ _ _ _ _ (hT.ext (by repeat (first | (with_reducible first | exact Ext.refl _ | assumption | apply Ext.alloc | apply Ext.ext | apply Ext.drew | refine Ext.setCell ?_ ?_ _) | (focus (simp [go_sem]; done))))) (by omega) (by omega)).mono ?_
  rw [HU.out]
  rintro e w1 ⟨rfl, hxq⟩
  obtain ⟨xq, rfl⟩ := hxq.out
  clear hxq
  go_wp2_with fail
  refine (UTC_any _ _ _ _ _ _ (hT.ext (by repeat (first | (with_reducible first | exact Ext.refl _ | assumption | apply Ext.alloc | apply Ext.ext | apply Ext.drew | refine Ext.setCell ?_ ?_ _) | (focus (simp [go_sem]; done))))) (by omega) (by omega)).mono ?_
  rw [HU'.out]
  rintro e w1 ⟨rfl, hxq⟩
  obtain ⟨xq, rfl⟩ := hxq.out
  clear hxq
  go_wp2_with fail
  refine (TAI_any _ _ _ _ _ _ _ _ (hT.ext (by repeat (first | (with_reducible first | exact Ext.refl _ | assumption | apply Ext.alloc | apply Ext.ext | apply Ext.drew | refine Ext.setCell ?_ ?_ _) | (focus (simp [go_sem]; done)))))).mono ?_
  rw [HT.out]
  rintro e w1 ⟨rfl, hxq⟩
  obtain ⟨xq, rfl⟩ := hxq.out
  clear hxq
  generalize t % 1048576 = tk at *
  generalize (t + 1) % 1048576 = tk' at *
  rcases hlater with hl | ⟨rfl, rfl, rfl⟩ | ⟨rfl, rfl, hl⟩
  all_goals
    try cases lp
    all_goals
      go_wp2_with (first | (go_at_call 13; refine (known_any _).mono ?_; rintro e w1 ⟨rfl, hxq⟩; obtain ⟨xq, rfl⟩ := hxq.out; clear hxq) | (go_at_call 14; refine (valid_any _ _ _ _ _ (hT.ext (by repeat (first | (with_reducible first | exact Ext.refl _ | assumption | apply Ext.alloc | apply Ext.ext | apply Ext.drew | refine Ext.setCell ?_ ?_ _) | (focus (simp [go_sem]; done)))))).mono ?_; rintro e w1 ⟨rfl, hxq⟩; obtain ⟨xq, rfl⟩ := hxq.out; clear hxq))
      go_returns
      exact ⟨rfl, (by repeat (first | (with_reducible first | exact Ext.refl _ | assumption | apply Ext.alloc | apply Ext.ext | apply Ext.drew | refine Ext.setCell ?_ ?_ _) | (focus (simp [go_sem]; done))))⟩
end Go.Proofs.Ytocancjdaefjoaa
