/- Leap seconds as plain functions, part three: the reference's search. -/
import Derived.Test.YtocancjdaefjoaaLeapPure2
namespace Go.Leap

theorem offs_app (f s : Int) (A B : List (Int × Int)) : offs f (A ++ B) s = offs (offs f A s) B s := by simp [offs]
theorem offs_big (f s : Int) (B : List (Int × Int)) (h : ∀ x ∈ B, s < x.1) : offs f B s = f := by
  induction B generalizing f with
  | nil => rfl
  | cons x r ih =>
    have h1 := h x (by simp)
    simp only [offs, List.foldl_cons] at *
    rw [if_neg (by omega)]
    exact ih f (fun y hy => h y (by simp [hy]))
theorem vldL_tail (p : Int × Int) (L : List (Int × Int)) (h : vldL p L = true) : ∀ x ∈ L, p.1 < x.1 := by
  induction L generalizing p with
  | nil => intro x hx; cases hx
  | cons y r ih =>
    simp only [vldL, Bool.and_eq_true] at h
    have h1 := (okNext_iff.1 h.1).2.1
    intro x hx
    rcases List.mem_cons.1 hx with rfl | hx
    · omega
    · have := ih y h.2 x hx; omega
theorem vldL_drop (p : Int × Int) (L : List (Int × Int)) (h : vldL p L = true) (k : Nat) (hk : k < L.length) : vldL L[k] (L.drop (k + 1)) = true := by
  induction L generalizing p k with
  | nil => simp at hk
  | cons y r ih =>
    simp only [vldL, Bool.and_eq_true] at h
    cases k with
    | zero => simpa using h.2
    | succ k => simpa using ih y h.2 k (by simpa using hk)
/-- Where the reference's search stops, the offset stands. -/
theorem offs_stop (f s : Int) (L : List (Int × Int)) (p : Int × Int) (h : vldL p L = true) (k : Nat) (hk : k < L.length) (hs : s < (L[k]).1) : offs f L s = offs f (L.take k) s := by
  conv => lhs; rw [← List.take_append_drop k L, offs_app]
  apply offs_big
  rw [List.drop_eq_getElem_cons hk]
  intro x hx
  rcases List.mem_cons.1 hx with rfl | hx
  · exact hs
  · have := vldL_tail _ _ (vldL_drop p L h k hk) x hx
    omega

theorem lastOf_prev (p : Int × Int) (L : List (Int × Int)) (k : Nat) (hk : k < L.length) : lastOf p (L.take (k + 1)) = L[k] := lastOf_take p L k hk

/-- The reading that the reference finds is the program's. -/
theorem utc_of_tai {f : Int} {L : List (Int × Int)} (hv : vldB f L = true) {t s tk : Int} {lp : Bool} (h : taiP f L s lp tk = (t, 0)) : utcP f L t = ((s, lp, tk), 0) := by
  have hc : chk f L s = 0 ∧ 0 ≤ tk ∧ tk < 1048576 ∧ stp f L s ≠ -1 ∧ (lp = true → stp f L s = 1) ∧ t = ((s + offs f L s) + (if lp then 1 else 0)) * 1048576 + tk := by
    unfold taiP at h
    by_cases h1 : chk f L s ≠ 0
    · rw [if_pos h1] at h; injection h with _ h2; exact absurd h2 h1
    · rw [if_neg h1] at h
      by_cases h2 : tk < 0 ∨ 1048576 ≤ tk
      · rw [if_pos h2] at h; injection h with _ h3; cases h3
      · rw [if_neg h2] at h
        by_cases h3 : stp f L s = -1 ∨ (lp = true ∧ stp f L s ≠ 1)
        · rw [if_pos h3] at h; injection h with _ h4; cases h4
        · rw [if_neg h3] at h
          injection h with h4 _
          refine ⟨Classical.not_not.1 h1, by omega, by omega, fun h => h3 (.inl h), fun hl => ?_, h4.symm⟩
          exact Classical.byContradiction fun h5 => h3 (.inr ⟨hl, h5⟩)
  obtain ⟨h1, h2, h3, h4, h5, h6⟩ := hc
  have hi : inB s = true := by
    rcases chk_cases f L s with ⟨_, h⟩ | ⟨_, _, h⟩ | ⟨_, h, _⟩
    · omega
    · omega
    · exact h
  have hR : Read f L (t / 1048576) s lp := by
    cases lp
    · left; simp only [Bool.false_eq_true, if_false] at h6; exact ⟨rfl, by omega, h4⟩
    · right; simp only [if_true] at h6; exact ⟨rfl, by omega, h5 rfl⟩
  have hm : t % 1048576 = tk := by cases lp <;> simp at h6 <;> omega
  have hr := sfold_read f (t / 1048576) L (okv hv) _ rfl
  generalize hs : sfold (t / 1048576) (t / 1048576 - f) L = s0 at hr
  rcases hr with hr | ⟨a1, a2, a3⟩
  · have hu := utc_leap f L hv t s0 hs.symm hr
    have hR' : Read f L (t / 1048576) (s0 - 1) true := .inr ⟨rfl, by omega, hr.1⟩
    obtain ⟨e1, e2⟩ := hR.unique (okv hv) hR'
    rw [hu.2, e1, e2, hm]
  · have hu := utc_plain f L hv t s0 hs.symm a3
    have hR' : Read f L (t / 1048576) s0 false := .inl ⟨rfl, a1, a2⟩
    obtain ⟨e1, e2⟩ := hR.unique (okv hv) hR'
    subst e1 e2
    rw [hu.1 hi, hm]
/-- What the program finds is an instant's reading, near it. -/
theorem tai_of_utc {f : Int} {L : List (Int × Int)} (hv : vldB f L = true) (t : Int) :
    utcP f L t = ((0, false, 0), 9) ∨ ∃ s lp, utcP f L t = ((s, lp, t % 1048576), 0) ∧ taiP f L s lp (t % 1048576) = (t, 0) ∧ t / 1048576 - 170 ≤ s ∧ s ≤ t / 1048576 + 70 ∧ inB s = true := by
  have hr := sfold_read f (t / 1048576) L (okv hv) _ rfl
  generalize hs : sfold (t / 1048576) (t / 1048576 - f) L = s at hr
  have key : ∀ s lp, Read f L (t / 1048576) s lp → inB s = true → taiP f L s lp (t % 1048576) = (t, 0) ∧ t / 1048576 - 170 ≤ s ∧ s ≤ t / 1048576 + 70 := by
    intro s lp hR hi
    have a := offs_at hv s
    have hc : chk f L s = 0 := chk_ok hv hi
    refine ⟨?_, by unfold Read at hR; omega, by unfold Read at hR; omega⟩
    unfold taiP
    rw [hc]
    simp only [ne_eq, not_true_eq_false, if_false]
    rw [if_neg (by omega)]
    rcases hR with ⟨rfl, h2, h3⟩ | ⟨rfl, h2, h3⟩
    · rw [if_neg (by simp [h3])]
      simp only [Bool.false_eq_true, if_false, Prod.mk.injEq, and_true]
      omega
    · rw [if_neg (by simp [h3])]
      simp only [if_true, Prod.mk.injEq, and_true]
      omega
  rcases hr with hr | ⟨h2, h3, h4⟩
  · have hu := utc_leap f L hv t s hs.symm hr
    have hR : Read f L (t / 1048576) (s - 1) true := .inr ⟨rfl, by omega, hr.1⟩
    exact .inr ⟨s - 1, true, hu.2, (key _ _ hR hu.1).1, (key _ _ hR hu.1).2.1, (key _ _ hR hu.1).2.2, hu.1⟩
  · have hu := utc_plain f L hv t s hs.symm h4
    have hR : Read f L (t / 1048576) s false := .inl ⟨rfl, h2, h3⟩
    cases hi : inB s
    · exact .inl (hu.2 hi)
    · exact .inr ⟨s, false, hu.1 hi, (key _ _ hR hi).1, (key _ _ hR hi).2.1, (key _ _ hR hi).2.2, hi⟩
theorem utc_far {f : Int} {L : List (Int × Int)} (hv : vldB f L = true) (t : Int) (h : t < -1152921504606846976 ∨ 1152921504606846976 < t) : utcP f L t = ((0, false, 0), 9) := by
  rcases tai_of_utc hv t with h1 | ⟨s, lp, _, _, h2, h3, h4⟩
  · exact h1
  · have := inB_iff.1 h4; omega
end Go.Leap
