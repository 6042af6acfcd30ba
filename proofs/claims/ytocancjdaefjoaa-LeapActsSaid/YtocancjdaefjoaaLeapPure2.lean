/- Leap seconds as plain functions, part two: what the laws ask. -/
import Derived.Test.YtocancjdaefjoaaLeapPure
namespace Go.Leap

theorem okv {f : Int} {L : List (Int × Int)} (hv : vldB f L = true) : vldL (-86400, f) L = true := (vldB_iff.1 hv).2.2.2

/-- The reading of an instant that is neither too early nor too late. -/
theorem utc_fine2 (f : Int) (L : List (Int × Int)) (hv : vldB f L = true) (t : Int) (h0 : 536870912 ≤ t) (h1 : t ≤ 144115188075855872) :
    ∃ s lp, utcP f L t = ((s, lp, t % 1048576), 0) ∧ Read f L (t / 1048576) s lp ∧ inB s = true ∧ taiP f L s lp (t % 1048576) = (t, 0) := by
  have hr := sfold_read f (t / 1048576) L (vldB_iff.1 hv).2.2.2 _ rfl
  generalize hs : sfold (t / 1048576) (t / 1048576 - f) L = s at hr
  have key : ∀ s lp, Read f L (t / 1048576) s lp → inB s = true ∧ taiP f L s lp (t % 1048576) = (t, 0) := by
    intro s lp hR
    have a := offs_at hv s
    have hi : inB s = true := inB_iff.2 (by unfold Read at hR; omega)
    refine ⟨hi, ?_⟩
    have hc : chk f L s = 0 := chk_ok hv hi
    unfold taiP
    rw [hc]
    simp only [ne_eq, not_true_eq_false, if_false]
    rw [if_neg (by omega)]
    rcases hR with ⟨rfl, h2, h3⟩ | ⟨rfl, h2, h3⟩
    · rw [if_neg (by simp [h3])]
      simp only [Bool.false_eq_true, if_false, Prod.mk.injEq, and_true]
      omega
    · rw [if_neg (by simp [h3])]
      simp only [if_true, Prod.mk.injEq, and_true]
      omega
  rcases hr with hr | ⟨h2, h3, h4⟩
  · have hu := utc_leap f L hv t s hs.symm hr
    have hR : Read f L (t / 1048576) (s - 1) true := .inr ⟨rfl, by omega, hr.1⟩
    exact ⟨s - 1, true, hu.2, hR, key _ _ hR⟩
  · have hu := utc_plain f L hv t s hs.symm h4
    have hR : Read f L (t / 1048576) s false := .inl ⟨rfl, h2, h3⟩
    exact ⟨s, false, hu.1 (key _ _ hR).1, hR, key _ _ hR⟩

/-- A reading that does not exist. -/
theorem tai_none {f : Int} {L : List (Int × Int)} {s tk : Int} {lp : Bool} (hv : vldB f L = true) (hi : inB s = true) (h0 : 0 ≤ tk) (h1 : tk < 1048576)
    (h : (lp = true ∧ stp f L s ≠ 1) ∨ stp f L s = -1) : taiP f L s lp tk = (0, 10) := by
  unfold taiP
  rw [chk_ok hv hi]
  simp only [ne_eq, not_true_eq_false, if_false]
  rw [if_neg (by omega), if_pos (by rcases h with h | h; exact .inr h; exact .inl h)]
/-- One that does, and its instant. -/
theorem tai_some {f : Int} {L : List (Int × Int)} {s tk : Int} {lp : Bool} (hv : vldB f L = true) (hi : inB s = true) (h0 : 0 ≤ tk) (h1 : tk < 1048576)
    (h : lp = true → stp f L s = 1) (h' : stp f L s ≠ -1) (hs0 : 86400 ≤ s) (hs1 : s ≤ 2000000000) :
    ∃ t, taiP f L s lp tk = (t, 0) ∧ 536870912 ≤ t ∧ t ≤ 144115188075855872 ∧ Read f L (t / 1048576) s lp ∧ t % 1048576 = tk := by
  have a := offs_at hv s
  have e : taiP f L s lp tk = (((s + offs f L s) + (if lp then 1 else 0)) * 1048576 + tk, 0) := by
    unfold taiP
    rw [chk_ok hv hi]
    simp only [ne_eq, not_true_eq_false, if_false]
    rw [if_neg (by omega), if_neg]
    rintro (h2 | h2)
    · exact h' h2
    · exact h2.2 (h h2.1)
  refine ⟨_, e, ?_, ?_, ?_, ?_⟩
  · split <;> omega
  · split <;> omega
  · cases lp
    · left; refine ⟨rfl, ?_, h'⟩; simp only [Bool.false_eq_true, if_false]; omega
    · right; refine ⟨rfl, ?_, h rfl⟩; simp only [if_true]; omega
  · omega

theorem stpP_ok {f : Int} {L : List (Int × Int)} {s : Int} (hv : vldB f L = true) (hi : inB s = true) : stpP f L s = (stp f L s, 0) := by simp [stpP, chk_ok hv hi]
theorem offP_ok {f : Int} {L : List (Int × Int)} {s : Int} (hv : vldB f L = true) (hi : inB s = true) : offP f L s = (offs f L s, 0) := by simp [offP, chk_ok hv hi]

/-- The span of Number around an instant. -/
theorem num_of_read {f : Int} {L : List (Int × Int)} (hv : vldB f L = true) {t s : Int} {lp : Bool} (hR : Read f L (t / 1048576) s lp) (hi : inB s = true) :
    numP f L s (t % 1048576) = ((t - (if lp then 1048576 else 0), t - (if lp then 1048576 else 0) + if stp f L s = 1 then 1048576 else 0), 0) := by
  have hns : stp f L s ≠ -1 := by unfold Read at hR; omega
  have e : taiP f L s false (t % 1048576) = (t - (if lp then 1048576 else 0), 0) := by
    unfold taiP
    rw [chk_ok hv hi]
    simp only [ne_eq, not_true_eq_false, if_false]
    rw [if_neg (by omega), if_neg (by simp [hns])]
    simp only [Bool.false_eq_true, if_false, Prod.mk.injEq, and_true]
    rcases hR with ⟨rfl, h2, h3⟩ | ⟨rfl, h2, h3⟩
    · simp only [Bool.false_eq_true, if_false]; omega
    · simp only [if_true]; omega
  simp [numP, e]

/-- The table with one element more. -/
theorem read_more {f : Int} {L : List (Int × Int)} (x : Int × Int) (hv : vldL (-86400, f) L = true) (hv' : vldL (-86400, f) (L ++ [x]) = true) (off : Int) (hoff : ∀ s, x.1 - 172800 ≤ s → offs f L s = off) (hx : x.2 = off + 1)
    {T s s' : Int} {lp lp' : Bool} (h : Read f L T s lp) (h' : Read f (L ++ [x]) T s' lp') :
    (T < x.1 + off → s = s' ∧ lp = lp') ∧ (T = x.1 + off → lp' = true ∧ s' = x.1 - 1 ∧ s = x.1) ∧ (x.1 + off < T → s = s' + 1 ∧ lp' = false) := by
  have o1 : ∀ s, offs f (L ++ [x]) s = if x.1 ≤ s then x.2 else offs f L s := fun s => offs_snoc f s L x
  have hs1 := stp_small f L hv s
  by_cases hbig : x.1 - 172800 ≤ s
  · have a := hoff s hbig
    have b := hoff (s + 1) (by omega)
    have hlp : lp = false ∧ s + off = T := by
      unfold Read stp at h
      rcases h with h | h
      · exact ⟨h.1, by omega⟩
      · exfalso; omega
    obtain ⟨rfl, hT⟩ := hlp
    refine ⟨fun hlt => ?_, fun heq => ?_, fun hgt => ?_⟩
    · have hR : Read f (L ++ [x]) T s false := by
        left
        refine ⟨rfl, ?_, ?_⟩
        · rw [o1, if_neg (by omega)]; omega
        · unfold stp; rw [o1, o1, if_neg (show ¬ x.1 ≤ s by omega)]
          split <;> omega
      exact hR.unique hv' h'
    · have hR : Read f (L ++ [x]) T (x.1 - 1) true := by
        right
        have c := hoff (x.1 - 1) (by omega)
        refine ⟨rfl, ?_, ?_⟩
        · rw [o1, if_neg (by omega)]; omega
        · unfold stp; rw [o1, o1, if_neg (show ¬ x.1 ≤ x.1 - 1 by omega), if_pos (by omega)]; omega
      have := hR.unique hv' h'
      exact ⟨this.2.symm, this.1.symm, by omega⟩
    · have hR : Read f (L ++ [x]) T (s - 1) false := by
        left
        refine ⟨rfl, ?_, ?_⟩
        · rw [o1, if_pos (by omega)]; omega
        · unfold stp; rw [o1, o1, if_pos (by omega), if_pos (by omega)]; omega
      have := hR.unique hv' h'
      exact ⟨by omega, this.2.symm⟩
  · have hRx : Read f (L ++ [x]) T s lp := by
      unfold Read stp at *
      rw [o1, o1, if_neg (by omega), if_neg (by omega)]
      exact h
    have hlt : T < x.1 + off := by
      have g := g_le f L hv (s + 1) (x.1 - 172800) (by omega)
      rw [hoff (x.1 - 172800) (Int.le_refl _)] at g
      have hs2 := hs1
      unfold Read stp at h
      unfold stp at hs2
      omega
    exact ⟨fun _ => hRx.unique hv' h', fun h => by omega, fun h => by omega⟩
end Go.Leap
