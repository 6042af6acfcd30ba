/- Lemmas of this claim, several texts joined. -/
set_option linter.unusedVariables false
set_option linter.unusedSimpArgs false
/- Leap seconds as plain functions of a table: the offset at a second, readings and instants, and that each instant has just one reading. -/
namespace Go.Leap

def offs (first : Int) (L : List (Int × Int)) (s : Int) : Int := L.foldl (fun o x => if x.1 ≤ s then x.2 else o) first
def stp (first : Int) (L : List (Int × Int)) (s : Int) : Int := offs first L (s + 1) - offs first L s
def lastOf (p : Int × Int) (L : List (Int × Int)) : Int × Int := L.foldl (fun _ x => x) p
def okNext (p x : Int × Int) : Bool := decide (x.1 % 86400 = 0) && decide (p.1 + 172800 ≤ x.1) && decide (x.1 ≤ 137438953472) && (decide (x.2 - p.2 = 1) || decide (x.2 - p.2 = -1))
def vldL (p : Int × Int) : List (Int × Int) → Bool
  | [] => true
  | x :: r => okNext p x && vldL x r
def vldB (first : Int) (L : List (Int × Int)) : Bool := decide (0 ≤ first) && decide (first ≤ 100) && decide (L.length ≤ 64) && vldL (-86400, first) L
def inB (s : Int) : Bool := decide (0 ≤ s) && decide (s ≤ 274877906944)
def chk (first : Int) (L : List (Int × Int)) (s : Int) : Int := if vldB first L then (if inB s then 0 else 4) else 3

theorem okNext_iff {p x : Int × Int} : okNext p x = true ↔ x.1 % 86400 = 0 ∧ p.1 + 172800 ≤ x.1 ∧ x.1 ≤ 137438953472 ∧ (x.2 - p.2 = 1 ∨ x.2 - p.2 = -1) := by
  simp [okNext, and_assoc]

theorem vldL_snoc (p x : Int × Int) (L : List (Int × Int)) : vldL p (L ++ [x]) = (vldL p L && okNext (lastOf p L) x) := by
  induction L generalizing p with
  | nil => simp [vldL, lastOf]
  | cons y r ih => simp [vldL, ih, lastOf, Bool.and_assoc]

theorem offs_snoc (f s : Int) (L : List (Int × Int)) (x : Int × Int) : offs f (L ++ [x]) s = if x.1 ≤ s then x.2 else offs f L s := by
  simp [offs]
theorem lastOf_snoc (p x : Int × Int) (L : List (Int × Int)) : lastOf p (L ++ [x]) = x := by simp [lastOf]

/-- Induction from the end. -/
theorem snoc_ind {P : List (Int × Int) → Prop} (h0 : P []) (h1 : ∀ L x, P L → P (L ++ [x])) (L : List (Int × Int)) : P L := by
  have h : ∀ M : List (Int × Int), P M.reverse := by
    intro M
    induction M with
    | nil => simpa using h0
    | cons x r ih => rw [List.reverse_cons]; exact h1 _ _ ih
  simpa using h L.reverse

/-- Behind the last element the offset is its. -/
theorem offs_last (f : Int) (L : List (Int × Int)) : vldL (-86400, f) L = true → (-86400 ≤ (lastOf (-86400, f) L).1) ∧ (∀ s, (lastOf (-86400, f) L).1 ≤ s → offs f L s = (lastOf (-86400, f) L).2) := by
  refine snoc_ind (P := fun L => vldL (-86400, f) L = true → (-86400 ≤ (lastOf (-86400, f) L).1) ∧ (∀ s, (lastOf (-86400, f) L).1 ≤ s → offs f L s = (lastOf (-86400, f) L).2)) ?_ ?_ L
  · intro _; simp [lastOf, offs]
  · intro L x ih h
    rw [vldL_snoc, Bool.and_eq_true, okNext_iff] at h
    obtain ⟨h1, h2⟩ := ih h.1
    rw [lastOf_snoc]
    refine ⟨by omega, fun s hs => ?_⟩
    rw [offs_snoc, if_pos hs]

/-- The step behind a second. -/
theorem stp_small (f : Int) (L : List (Int × Int)) : vldL (-86400, f) L = true → ∀ s, stp f L s = -1 ∨ stp f L s = 0 ∨ stp f L s = 1 := by
  refine snoc_ind (P := fun L => vldL (-86400, f) L = true → ∀ s, stp f L s = -1 ∨ stp f L s = 0 ∨ stp f L s = 1) ?_ ?_ L
  · intro _ s; simp [stp, offs]
  · intro L x ih h s
    rw [vldL_snoc, Bool.and_eq_true, okNext_iff] at h
    obtain ⟨h1, h2⟩ := offs_last f L h.1
    have hs := ih h.1 s
    unfold stp at *
    rw [offs_snoc, offs_snoc]
    by_cases h3 : x.1 ≤ s
    · rw [if_pos (by omega), if_pos h3]; omega
    · rw [if_neg h3]
      by_cases h4 : x.1 ≤ s + 1
      · rw [if_pos h4, h2 s (by omega)]; omega
      · rw [if_neg h4]; exact hs

theorem offs_bd (f : Int) (L : List (Int × Int)) : vldL (-86400, f) L = true → ∀ s, f - L.length ≤ offs f L s ∧ offs f L s ≤ f + L.length := by
  have key : ∀ L : List (Int × Int), vldL (-86400, f) L = true → (f - L.length ≤ (lastOf (-86400, f) L).2 ∧ (lastOf (-86400, f) L).2 ≤ f + L.length) ∧ ∀ s, f - L.length ≤ offs f L s ∧ offs f L s ≤ f + L.length := by
    intro L
    refine snoc_ind (P := fun L => vldL (-86400, f) L = true → (f - L.length ≤ (lastOf (-86400, f) L).2 ∧ (lastOf (-86400, f) L).2 ≤ f + L.length) ∧ ∀ s, f - L.length ≤ offs f L s ∧ offs f L s ≤ f + L.length) ?_ ?_ L
    · intro _; simp [offs, lastOf]
    · intro L x ih h
      rw [vldL_snoc, Bool.and_eq_true, okNext_iff] at h
      obtain ⟨h1, h2⟩ := ih h.1
      rw [lastOf_snoc]
      simp only [List.length_append, List.length_cons, List.length_nil]
      refine ⟨by omega, fun s => ?_⟩
      have := h2 s
      rw [offs_snoc]
      split <;> omega
  exact fun h => (key L h).2

/-- No second before the first element has another offset than the first one; no step is ahead of it. -/
theorem stp_pos (f : Int) (L : List (Int × Int)) : vldL (-86400, f) L = true → ∀ s, stp f L s ≠ 0 → 86399 ≤ s ∧ s < 137438953472 := by
  refine snoc_ind (P := fun L => vldL (-86400, f) L = true → ∀ s, stp f L s ≠ 0 → 86399 ≤ s ∧ s < 137438953472) ?_ ?_ L
  · intro _ s; simp [stp, offs]
  · intro L x ih h s hn
    rw [vldL_snoc, Bool.and_eq_true, okNext_iff] at h
    obtain ⟨h1, h2⟩ := offs_last f L h.1
    have hs := ih h.1 s
    unfold stp at *
    rw [offs_snoc, offs_snoc] at hn
    by_cases h3 : x.1 ≤ s
    · rw [if_pos (by omega), if_pos h3] at hn; omega
    · rw [if_neg h3] at hn
      by_cases h4 : x.1 ≤ s + 1
      · omega
      · rw [if_neg h4] at hn; exact hs hn

/-- A reading (second, inserted) of the TAI second T. -/
def Read (f : Int) (L : List (Int × Int)) (T s : Int) (lp : Bool) : Prop :=
  (lp = false ∧ s + offs f L s = T ∧ stp f L s ≠ -1) ∨ (lp = true ∧ s + offs f L s + 1 = T ∧ stp f L s = 1)

theorem g_mono (f : Int) (L : List (Int × Int)) (h : vldL (-86400, f) L = true) (s : Int) (k : Nat) : s + offs f L s ≤ s + k + offs f L (s + k) := by
  induction k with
  | zero => simp
  | succ k ih =>
    have h1 := stp_small f L h (s + k)
    unfold stp at h1
    have : s + ((k + 1 : Nat) : Int) = s + k + 1 := by omega
    rw [this]
    omega

theorem g_le (f : Int) (L : List (Int × Int)) (h : vldL (-86400, f) L = true) (s t : Int) (hst : s ≤ t) : s + offs f L s ≤ t + offs f L t := by
  have := g_mono f L h s (t - s).toNat
  rw [show s + ((t - s).toNat : Int) = t by omega] at this
  exact this

theorem Read.lt {f : Int} {L : List (Int × Int)} (h : vldL (-86400, f) L = true) {T T' s s' : Int} {lp lp' : Bool} (r : Read f L T s lp) (r' : Read f L T' s' lp') (hs : s < s') : T < T' := by
  have h1 := g_le f L h (s + 1) s' (by omega)
  have h2 := stp_small f L h s
  unfold Read stp at *
  omega

theorem Read.unique {f : Int} {L : List (Int × Int)} (h : vldL (-86400, f) L = true) {T s s' : Int} {lp lp' : Bool} (r : Read f L T s lp) (r' : Read f L T s' lp') : s = s' ∧ lp = lp' := by
  rcases Int.lt_trichotomy s s' with h1 | h1 | h1
  · have := Read.lt h r r' h1; omega
  · subst h1
    refine ⟨rfl, ?_⟩
    unfold Read at *
    rcases r with r | r <;> rcases r' with r' | r' <;> first | (rw [r.1, r'.1]; done) | (exfalso; omega)
  · have := Read.lt h r' r h1; omega

def sfold (T s0 : Int) (L : List (Int × Int)) : Int := L.foldl (fun s x => if x.1 ≤ T - x.2 then T - x.2 else s) s0
theorem sfold_snoc (T s0 : Int) (L : List (Int × Int)) (x : Int × Int) : sfold T s0 (L ++ [x]) = if x.1 ≤ T - x.2 then T - x.2 else sfold T s0 L := by simp [sfold]

def lpB (f : Int) (L : List (Int × Int)) (T s : Int) : Bool := decide (stp f L (s - 1) = 1) && decide (T - offs f L (s - 1) = s)

/-- What the program's search comes to. -/
theorem sfold_read (f T : Int) (L : List (Int × Int)) : vldL (-86400, f) L = true →
    (s : Int) → s = sfold T (T - f) L → (stp f L (s - 1) = 1 ∧ T - offs f L (s - 1) = s) ∨ (s + offs f L s = T ∧ stp f L s ≠ -1 ∧ ¬ (stp f L (s - 1) = 1 ∧ T - offs f L (s - 1) = s)) := by
  refine snoc_ind (P := fun L => vldL (-86400, f) L = true →
    (s : Int) → s = sfold T (T - f) L → (stp f L (s - 1) = 1 ∧ T - offs f L (s - 1) = s) ∨ (s + offs f L s = T ∧ stp f L s ≠ -1 ∧ ¬ (stp f L (s - 1) = 1 ∧ T - offs f L (s - 1) = s))) ?_ ?_ L
  · intro _ s hs
    simp only [sfold, List.foldl_nil] at hs
    simp only [stp, offs, List.foldl_nil]
    omega
  · intro L x ih h s hs
    rw [vldL_snoc, Bool.and_eq_true, okNext_iff] at h
    obtain ⟨h1, h2⟩ := offs_last f L h.1
    have ih := ih h.1
    rw [sfold_snoc] at hs
    unfold stp at *
    simp only [offs_snoc]
    have e1 : s - 1 + 1 = s := by omega
    rw [e1]
    by_cases hc : x.1 ≤ T - x.2
    · rw [if_pos hc] at hs
      have a1 : x.1 ≤ s := by omega
      have a2 : x.1 ≤ s + 1 := by omega
      rw [if_pos a1, if_pos a2]
      right
      refine ⟨by omega, by omega, ?_⟩
      by_cases a3 : x.1 ≤ s - 1
      · rw [if_pos a3]; omega
      · rw [if_neg a3, h2 (s - 1) (by omega)]; omega
    · rw [if_neg hc] at hs
      have ih := ih s hs
      rw [e1] at ih
      by_cases b1 : x.1 ≤ s + 1
      · have c1 := h2 (s - 1) (by omega)
        have c2 := h2 s (by omega)
        rw [c1, c2] at ih
        rw [if_neg (show ¬ x.1 ≤ s - 1 by omega), if_pos b1]
        by_cases b2 : x.1 ≤ s
        · rw [if_pos b2, c1]; omega
        · rw [if_neg b2, c1, c2]; omega
      · rw [if_neg b1, if_neg (show ¬ x.1 ≤ s by omega), if_neg (show ¬ x.1 ≤ s - 1 by omega)]
        exact ih

theorem vldB_iff {f : Int} {L : List (Int × Int)} : vldB f L = true ↔ 0 ≤ f ∧ f ≤ 100 ∧ L.length ≤ 64 ∧ vldL (-86400, f) L = true := by simp [vldB, and_assoc]
theorem inB_iff {s : Int} : inB s = true ↔ 0 ≤ s ∧ s ≤ 274877906944 := by simp [inB]

theorem elem_bd (f : Int) (L : List (Int × Int)) : vldL (-86400, f) L = true → ∀ x ∈ L, 86400 ≤ x.1 ∧ x.1 ≤ 137438953472 ∧ f - L.length ≤ x.2 ∧ x.2 ≤ f + L.length := by
  refine snoc_ind (P := fun L => vldL (-86400, f) L = true → ∀ x ∈ L, 86400 ≤ x.1 ∧ x.1 ≤ 137438953472 ∧ f - L.length ≤ x.2 ∧ x.2 ≤ f + L.length) ?_ ?_ L
  · intro _ x hx; cases hx
  · intro L y ih h x hx
    rw [vldL_snoc, Bool.and_eq_true, okNext_iff] at h
    obtain ⟨h1, h2⟩ := offs_last f L h.1
    have h3 := offs_bd f L h.1 (lastOf (-86400, f) L).1
    rw [h2 _ (Int.le_refl _)] at h3
    rw [List.length_append, List.length_singleton]
    rcases List.mem_append.1 hx with hx | hx
    · have := ih h.1 x hx; omega
    · simp at hx; subst hx; omega

theorem elem_at {f : Int} {L : List (Int × Int)} (h : vldB f L = true) (k : Nat) (hk : k < L.length) : 86400 ≤ (L[k]).1 ∧ (L[k]).1 ≤ 137438953472 ∧ -64 ≤ (L[k]).2 ∧ (L[k]).2 ≤ 164 := by
  have h1 := vldB_iff.1 h
  have := elem_bd f L h1.2.2.2 L[k] (List.getElem_mem hk)
  omega

theorem offs_at {f : Int} {L : List (Int × Int)} (h : vldB f L = true) (s : Int) : -64 ≤ offs f L s ∧ offs f L s ≤ 164 := by
  have h1 := vldB_iff.1 h
  have := offs_bd f L h1.2.2.2 s
  omega

theorem offs_take (f : Int) (L : List (Int × Int)) (s : Int) (k : Nat) (h : k < L.length) : offs f (L.take (k + 1)) s = if (L[k]).1 ≤ s then (L[k]).2 else offs f (L.take k) s := by
  rw [List.take_succ_eq_append_getElem h, offs_snoc]
theorem sfold_take (T s0 : Int) (L : List (Int × Int)) (k : Nat) (h : k < L.length) : sfold T s0 (L.take (k + 1)) = if (L[k]).1 ≤ T - (L[k]).2 then T - (L[k]).2 else sfold T s0 (L.take k) := by
  rw [List.take_succ_eq_append_getElem h, sfold_snoc]
theorem lastOf_take (p : Int × Int) (L : List (Int × Int)) (k : Nat) (h : k < L.length) : lastOf p (L.take (k + 1)) = L[k] := by
  rw [List.take_succ_eq_append_getElem h, lastOf_snoc]
theorem vldL_take (p : Int × Int) (L : List (Int × Int)) (k : Nat) (h : k < L.length) : vldL p (L.take (k + 1)) = (vldL p (L.take k) && okNext (lastOf p (L.take k)) L[k]) := by
  rw [List.take_succ_eq_append_getElem h, vldL_snoc]
theorem vldL_app (p : Int × Int) (L M : List (Int × Int)) (h : vldL p (L ++ M) = true) : vldL p L = true := by
  induction L generalizing p with
  | nil => rfl
  | cons y r ih => simp only [List.cons_append, vldL, Bool.and_eq_true] at h ⊢; exact ⟨h.1, ih _ h.2⟩
theorem vldL_false (p : Int × Int) (L : List (Int × Int)) (k : Nat) (h : k < L.length) (hf : okNext (lastOf p (L.take k)) L[k] = false) : vldL p L = false := by
  cases hv : vldL p L with
  | false => rfl
  | true =>
    rw [← List.take_append_drop (k + 1) L] at hv
    have := vldL_app _ _ _ hv
    rw [vldL_take _ _ _ h, hf] at this
    simp at this
/-- The last element is one of the table's, or the first pair. -/
theorem lastOf_bd (f : Int) (hf : 0 ≤ f ∧ f ≤ 100) (L : List (Int × Int)) (h : vldL (-86400, f) L = true) (hl : L.length ≤ 64) : -86400 ≤ (lastOf (-86400, f) L).1 ∧ (lastOf (-86400, f) L).1 ≤ 137438953472 ∧ -64 ≤ (lastOf (-86400, f) L).2 ∧ (lastOf (-86400, f) L).2 ≤ 164 := by
  have h1 := elem_bd f L h
  have : lastOf (-86400, f) L = (-86400, f) ∨ lastOf (-86400, f) L ∈ L := by
    have hh : ∀ (L : List (Int × Int)) p, lastOf p L = p ∨ lastOf p L ∈ L := by
      intro L
      induction L with
      | nil => intro p; exact .inl rfl
      | cons y r ih => intro p; rcases ih y with h | h <;> simp only [lastOf, List.foldl_cons] at h ⊢ <;> simp [h]
    exact hh L _
  rcases this with h2 | h2
  · rw [h2]; simp; omega
  · have := h1 _ h2; omega

end Go.Leap

namespace Go.Leap
def offP (f : Int) (L : List (Int × Int)) (s : Int) : Int × Int := if chk f L s = 0 then (offs f L s, 0) else (0, chk f L s)
def stpP (f : Int) (L : List (Int × Int)) (s : Int) : Int × Int := if chk f L s = 0 then (stp f L s, 0) else (0, chk f L s)
def taiP (f : Int) (L : List (Int × Int)) (s : Int) (lp : Bool) (tk : Int) : Int × Int :=
  if chk f L s ≠ 0 then (0, chk f L s)
  else if tk < 0 ∨ 1048576 ≤ tk then (0, 4)
  else if stp f L s = -1 ∨ (lp = true ∧ stp f L s ≠ 1) then (0, 10)
  else (((s + offs f L s) + (if lp then 1 else 0)) * 1048576 + tk, 0)

def utcP (f : Int) (L : List (Int × Int)) (t : Int) : (Int × Bool × Int) × Int :=
  if vldB f L = false then ((0, false, 0), 3)
  else
    let s := sfold (t / 1048576) (t / 1048576 - f) L
    let lp := lpB f L (t / 1048576) s
    let s' := if lp then s - 1 else s
    if inB s' then ((s', lp, t % 1048576), 0) else ((0, false, 0), 9)

def numP (f : Int) (L : List (Int × Int)) (s tk : Int) : (Int × Int) × Int :=
  if (taiP f L s false tk).2 ≠ 0 then ((0, 0), (taiP f L s false tk).2)
  else (((taiP f L s false tk).1, (taiP f L s false tk).1 + if stp f L s = 1 then 1048576 else 0), 0)

theorem chk_bad {f : Int} {L : List (Int × Int)} {s : Int} (h : vldB f L = false) : chk f L s = 3 := by simp [chk, h]
theorem chk_out {f : Int} {L : List (Int × Int)} {s : Int} (h : vldB f L = true) (h' : inB s = false) : chk f L s = 4 := by simp [chk, h, h']
theorem chk_ok {f : Int} {L : List (Int × Int)} {s : Int} (h : vldB f L = true) (h' : inB s = true) : chk f L s = 0 := by simp [chk, h, h']
theorem chk_cases (f : Int) (L : List (Int × Int)) (s : Int) : (vldB f L = false ∧ chk f L s = 3) ∨ (vldB f L = true ∧ inB s = false ∧ chk f L s = 4) ∨ (vldB f L = true ∧ inB s = true ∧ chk f L s = 0) := by
  cases h : vldB f L <;> cases h' : inB s <;> simp [chk, h, h']
theorem sfold_bd (f : Int) (L : List (Int × Int)) (hv : vldB f L = true) (T : Int) (h0 : -8796093022208 ≤ T) (h1 : T ≤ 8796093022207) (s : Int) (hs : s = sfold T (T - f) L) : -8796093022408 ≤ s ∧ s ≤ 8796093022407 := by
  have h := sfold_read f T L (vldB_iff.1 hv).2.2.2 s hs
  have a := offs_at hv s
  have b := offs_at hv (s - 1)
  omega
theorem sfold_take_bd (f : Int) (L : List (Int × Int)) (hv : vldB f L = true) (T : Int) (h0 : -8796093022208 ≤ T) (h1 : T ≤ 8796093022207) (k : Nat) : -8796093022408 ≤ sfold T (T - f) (L.take k) ∧ sfold T (T - f) (L.take k) ≤ 8796093022407 := by
  have h := vldB_iff.1 hv
  refine sfold_bd f (L.take k) (vldB_iff.2 ⟨h.1, h.2.1, by rw [List.length_take]; omega, ?_⟩) T h0 h1 _ rfl
  have := h.2.2.2
  rw [← List.take_append_drop k L] at this
  exact vldL_app _ _ _ this
theorem utc_leap (f : Int) (L : List (Int × Int)) (hv : vldB f L = true) (t s : Int) (hs : s = sfold (t / 1048576) (t / 1048576 - f) L) (h : stp f L (s - 1) = 1 ∧ t / 1048576 - offs f L (s - 1) = s) :
    inB (s - 1) = true ∧ utcP f L t = ((s - 1, true, t % 1048576), 0) := by
  have hp := stp_pos f L (vldB_iff.1 hv).2.2.2 (s - 1) (by omega)
  have hi : inB (s - 1) = true := inB_iff.2 (by omega)
  refine ⟨hi, ?_⟩
  simp only [utcP, ← hs]
  rw [hv]
  have : lpB f L (t / 1048576) s = true := by simp [lpB, h.1, h.2]
  simp [this, hi]
theorem utc_plain (f : Int) (L : List (Int × Int)) (hv : vldB f L = true) (t s : Int) (hs : s = sfold (t / 1048576) (t / 1048576 - f) L) (h : ¬ (stp f L (s - 1) = 1 ∧ t / 1048576 - offs f L (s - 1) = s)) :
    (inB s = true → utcP f L t = ((s, false, t % 1048576), 0)) ∧ (inB s = false → utcP f L t = ((0, false, 0), 9)) := by
  have : lpB f L (t / 1048576) s = false := by
    simp only [lpB, Bool.and_eq_false_iff, decide_eq_false_iff_not]
    by_cases h1 : stp f L (s - 1) = 1
    · exact .inr fun h2 => h ⟨h1, h2⟩
    · exact .inl h1
  constructor <;> intro hi <;> simp [utcP, ← hs, hv, this, hi]
theorem utc_bad (f : Int) (L : List (Int × Int)) (hv : vldB f L = false) (t : Int) : utcP f L t = ((0, false, 0), 3) := by simp [utcP, hv]

def wthn (v m : Int) : Int := if m < 1 then 0 else v % m
theorem wthn_bd (v m : Int) (h : 1 ≤ m) : 0 ≤ wthn v m ∧ wthn v m < m := by
  rw [wthn, if_neg (by omega)]; exact ⟨Int.emod_nonneg _ (by omega), Int.emod_lt_of_pos _ (by omega)⟩
theorem tmod_emod' (v m : Int) : v.tmod m % m = v % m := by
  rw [Int.tmod_def, Int.sub_mul_emod_self_left]
theorem tmod_neg (v m : Int) (h : 1 ≤ m) (h' : v.tmod m < 0) : v.tmod m + m = v % m ∧ -m < v.tmod m := by
  have h1 := Int.lt_tmod_of_pos v (show 0 < m by omega)
  refine ⟨?_, h1⟩
  have h2 : (v.tmod m + m) % m = v % m := by rw [Int.add_emod_right]; exact tmod_emod' v m
  rw [← h2, Int.emod_eq_of_lt (by omega) (by omega)]
theorem tmod_pos (v m : Int) (h : 1 ≤ m) (h' : 0 ≤ v.tmod m) : v.tmod m = v % m := by
  have h1 := Int.tmod_lt_of_pos v (show 0 < m by omega)
  have h2 : (v.tmod m) % m = v % m := tmod_emod' v m
  rw [← h2, Int.emod_eq_of_lt h' h1]

/-- A table as sectimeworld makes it, with its last second and offset. -/
structure Made (T : List (Int × Int)) (at' off : Int) : Prop where
  vld : vldL (-86400, 10) T = true
  len : T.length ≤ 5
  day : at' % 86400 = 0
  lo : 1728000 + 172800 * T.length ≤ at'
  hi : at' ≤ 1728000 + 26092800 * T.length
  olo : 10 - (T.length : Int) ≤ off
  ohi : off ≤ 10 + (T.length : Int)
  last : T = [] ∧ off = 10 ∨ lastOf (-86400, 10) T = (at', off)
  range : ∀ x ∈ T, 1728000 ≤ x.1 ∧ x.1 ≤ 1728000 + 26092800 * T.length
theorem Made.nil : Made [] 1728000 10 := ⟨rfl, by simp, by decide, by simp, by simp, by simp, by simp, .inl ⟨rfl, rfl⟩, by intro x hx; cases hx⟩
theorem Made.snoc {T : List (Int × Int)} {at' off : Int} (h : Made T at' off) (hl : T.length < 5) (d o : Int) (hd : 0 ≤ d) (hd' : d < 300) (ho : o = off + 1 ∨ o = off - 1) :
    Made (T ++ [(at' + 86400 * (2 + d), o)]) (at' + 86400 * (2 + d)) o := by
  obtain ⟨h1, h2, h3, h4, h5, h6, h7, h8, h9⟩ := h
  have hlen : (T ++ [(at' + 86400 * (2 + d), o)]).length = T.length + 1 := by simp
  refine ⟨?_, by omega, by omega, by rw [hlen]; omega, by rw [hlen]; omega, by rw [hlen]; omega, by rw [hlen]; omega, .inr (by rw [lastOf_snoc]), ?_⟩
  rotate_left
  · intro x hx
    rw [hlen]
    rcases List.mem_append.1 hx with hx | hx
    · have := h9 x hx; omega
    · simp at hx; subst hx; simp only; omega
  rw [vldL_snoc, h1, Bool.true_and, okNext_iff]
  rcases h8 with ⟨rfl, rfl⟩ | h8
  · simp only [lastOf, List.foldl_nil] at *
    simp at h4
    omega
  · rw [h8]
    simp only
    omega
theorem Made.vldB {T : List (Int × Int)} {a o : Int} (h : Made T a o) : vldB 10 T = true := vldB_iff.2 ⟨by decide, by decide, by have := h.len; omega, h.vld⟩

/-- The reading of an instant that is neither too early nor too late. -/
theorem utc_fine (f : Int) (L : List (Int × Int)) (hv : vldB f L = true) (t : Int) (h0 : 536870912 ≤ t) (h1 : t ≤ 281474976710656) :
    ∃ s lp, utcP f L t = ((s, lp, t % 1048576), 0) ∧ Read f L (t / 1048576) s lp ∧ inB s = true ∧ taiP f L s lp (t % 1048576) = (t, 0) := by
  have hr := sfold_read f (t / 1048576) L (vldB_iff.1 hv).2.2.2 _ rfl
  generalize hs : sfold (t / 1048576) (t / 1048576 - f) L = s at hr
  have key : ∀ s lp, Read f L (t / 1048576) s lp → inB s = true ∧ taiP f L s lp (t % 1048576) = (t, 0) := by
    intro s lp hR
    have a := offs_at hv s
    have hi : inB s = true := inB_iff.2 (by unfold Read at hR; omega)
    refine ⟨hi, ?_⟩
    have hc : chk f L s = 0 := chk_ok hv hi
    unfold taiP
    rw [hc]
    simp only [ne_eq, not_true_eq_false, if_false]
    rw [if_neg (by omega)]
    rcases hR with ⟨rfl, h2, h3⟩ | ⟨rfl, h2, h3⟩
    · rw [if_neg (by simp [h3])]
      simp only [Bool.false_eq_true, if_false, Prod.mk.injEq, and_true]
      omega
    · rw [if_neg (by simp [h3])]
      simp only [if_true, Prod.mk.injEq, and_true]
      omega
  rcases hr with hr | ⟨h2, h3, h4⟩
  · have hu := utc_leap f L hv t s hs.symm hr
    have hR : Read f L (t / 1048576) (s - 1) true := .inr ⟨rfl, by omega, hr.1⟩
    exact ⟨s - 1, true, hu.2, hR, key _ _ hR⟩
  · have hu := utc_plain f L hv t s hs.symm h4
    have hR : Read f L (t / 1048576) s false := .inl ⟨rfl, h2, h3⟩
    exact ⟨s, false, hu.1 (key _ _ hR).1, hR, key _ _ hR⟩

/-- Readings follow one another as instants do. -/
theorem read_later (f : Int) (L : List (Int × Int)) (hv : vldB f L = true) (t s s' : Int) (lp lp' : Bool) (h : Read f L (t / 1048576) s lp) (h' : Read f L ((t + 1) / 1048576) s' lp') :
    s < s' ∨ (s = s' ∧ lp = false ∧ lp' = true) ∨ (s = s' ∧ lp = lp' ∧ t % 1048576 < (t + 1) % 1048576) := by
  have hl := (vldB_iff.1 hv).2.2.2
  by_cases hT : t / 1048576 = (t + 1) / 1048576
  · rw [← hT] at h'
    obtain ⟨h1, h2⟩ := h.unique hl h'
    exact .inr (.inr ⟨h1, h2, by omega⟩)
  · rcases Int.lt_trichotomy s s' with h1 | h1 | h1
    · exact .inl h1
    · subst h1
      refine .inr (.inl ⟨rfl, ?_⟩)
      unfold Read at h h'
      rcases h with h | h <;> rcases h' with h' | h' <;> first | exact ⟨h.1, h'.1⟩ | (exfalso; omega)
    · have := Read.lt hl h' h h1
      omega
end Go.Leap

/- Leap seconds as plain functions, part two: what the laws ask. -/
namespace Go.Leap

theorem okv {f : Int} {L : List (Int × Int)} (hv : vldB f L = true) : vldL (-86400, f) L = true := (vldB_iff.1 hv).2.2.2

/-- The reading of an instant that is neither too early nor too late. -/
theorem utc_fine2 (f : Int) (L : List (Int × Int)) (hv : vldB f L = true) (t : Int) (h0 : 536870912 ≤ t) (h1 : t ≤ 144115188075855872) :
    ∃ s lp, utcP f L t = ((s, lp, t % 1048576), 0) ∧ Read f L (t / 1048576) s lp ∧ inB s = true ∧ taiP f L s lp (t % 1048576) = (t, 0) := by
  have hr := sfold_read f (t / 1048576) L (vldB_iff.1 hv).2.2.2 _ rfl
  generalize hs : sfold (t / 1048576) (t / 1048576 - f) L = s at hr
  have key : ∀ s lp, Read f L (t / 1048576) s lp → inB s = true ∧ taiP f L s lp (t % 1048576) = (t, 0) := by
    intro s lp hR
    have a := offs_at hv s
    have hi : inB s = true := inB_iff.2 (by unfold Read at hR; omega)
    refine ⟨hi, ?_⟩
    have hc : chk f L s = 0 := chk_ok hv hi
    unfold taiP
    rw [hc]
    simp only [ne_eq, not_true_eq_false, if_false]
    rw [if_neg (by omega)]
    rcases hR with ⟨rfl, h2, h3⟩ | ⟨rfl, h2, h3⟩
    · rw [if_neg (by simp [h3])]
      simp only [Bool.false_eq_true, if_false, Prod.mk.injEq, and_true]
      omega
    · rw [if_neg (by simp [h3])]
      simp only [if_true, Prod.mk.injEq, and_true]
      omega
  rcases hr with hr | ⟨h2, h3, h4⟩
  · have hu := utc_leap f L hv t s hs.symm hr
    have hR : Read f L (t / 1048576) (s - 1) true := .inr ⟨rfl, by omega, hr.1⟩
    exact ⟨s - 1, true, hu.2, hR, key _ _ hR⟩
  · have hu := utc_plain f L hv t s hs.symm h4
    have hR : Read f L (t / 1048576) s false := .inl ⟨rfl, h2, h3⟩
    exact ⟨s, false, hu.1 (key _ _ hR).1, hR, key _ _ hR⟩

/-- A reading that does not exist. -/
theorem tai_none {f : Int} {L : List (Int × Int)} {s tk : Int} {lp : Bool} (hv : vldB f L = true) (hi : inB s = true) (h0 : 0 ≤ tk) (h1 : tk < 1048576)
    (h : (lp = true ∧ stp f L s ≠ 1) ∨ stp f L s = -1) : taiP f L s lp tk = (0, 10) := by
  unfold taiP
  rw [chk_ok hv hi]
  simp only [ne_eq, not_true_eq_false, if_false]
  rw [if_neg (by omega), if_pos (by rcases h with h | h; exact .inr h; exact .inl h)]
/-- One that does, and its instant. -/
theorem tai_some {f : Int} {L : List (Int × Int)} {s tk : Int} {lp : Bool} (hv : vldB f L = true) (hi : inB s = true) (h0 : 0 ≤ tk) (h1 : tk < 1048576)
    (h : lp = true → stp f L s = 1) (h' : stp f L s ≠ -1) (hs0 : 86400 ≤ s) (hs1 : s ≤ 2000000000) :
    ∃ t, taiP f L s lp tk = (t, 0) ∧ 536870912 ≤ t ∧ t ≤ 144115188075855872 ∧ Read f L (t / 1048576) s lp ∧ t % 1048576 = tk := by
  have a := offs_at hv s
  have e : taiP f L s lp tk = (((s + offs f L s) + (if lp then 1 else 0)) * 1048576 + tk, 0) := by
    unfold taiP
    rw [chk_ok hv hi]
    simp only [ne_eq, not_true_eq_false, if_false]
    rw [if_neg (by omega), if_neg]
    rintro (h2 | h2)
    · exact h' h2
    · exact h2.2 (h h2.1)
  refine ⟨_, e, ?_, ?_, ?_, ?_⟩
  · split <;> omega
  · split <;> omega
  · cases lp
    · left; refine ⟨rfl, ?_, h'⟩; simp only [Bool.false_eq_true, if_false]; omega
    · right; refine ⟨rfl, ?_, h rfl⟩; simp only [if_true]; omega
  · omega

theorem stpP_ok {f : Int} {L : List (Int × Int)} {s : Int} (hv : vldB f L = true) (hi : inB s = true) : stpP f L s = (stp f L s, 0) := by simp [stpP, chk_ok hv hi]
theorem offP_ok {f : Int} {L : List (Int × Int)} {s : Int} (hv : vldB f L = true) (hi : inB s = true) : offP f L s = (offs f L s, 0) := by simp [offP, chk_ok hv hi]

/-- The span of Number around an instant. -/
theorem num_of_read {f : Int} {L : List (Int × Int)} (hv : vldB f L = true) {t s : Int} {lp : Bool} (hR : Read f L (t / 1048576) s lp) (hi : inB s = true) :
    numP f L s (t % 1048576) = ((t - (if lp then 1048576 else 0), t - (if lp then 1048576 else 0) + if stp f L s = 1 then 1048576 else 0), 0) := by
  have hns : stp f L s ≠ -1 := by unfold Read at hR; omega
  have e : taiP f L s false (t % 1048576) = (t - (if lp then 1048576 else 0), 0) := by
    unfold taiP
    rw [chk_ok hv hi]
    simp only [ne_eq, not_true_eq_false, if_false]
    rw [if_neg (by omega), if_neg (by simp [hns])]
    simp only [Bool.false_eq_true, if_false, Prod.mk.injEq, and_true]
    rcases hR with ⟨rfl, h2, h3⟩ | ⟨rfl, h2, h3⟩
    · simp only [Bool.false_eq_true, if_false]; omega
    · simp only [if_true]; omega
  simp [numP, e]

/-- The table with one element more. -/
theorem read_more {f : Int} {L : List (Int × Int)} (x : Int × Int) (hv : vldL (-86400, f) L = true) (hv' : vldL (-86400, f) (L ++ [x]) = true) (off : Int) (hoff : ∀ s, x.1 - 172800 ≤ s → offs f L s = off) (hx : x.2 = off + 1)
    {T s s' : Int} {lp lp' : Bool} (h : Read f L T s lp) (h' : Read f (L ++ [x]) T s' lp') :
    (T < x.1 + off → s = s' ∧ lp = lp') ∧ (T = x.1 + off → lp' = true ∧ s' = x.1 - 1 ∧ s = x.1) ∧ (x.1 + off < T → s = s' + 1 ∧ lp' = false) := by
  have o1 : ∀ s, offs f (L ++ [x]) s = if x.1 ≤ s then x.2 else offs f L s := fun s => offs_snoc f s L x
  have hs1 := stp_small f L hv s
  by_cases hbig : x.1 - 172800 ≤ s
  · have a := hoff s hbig
    have b := hoff (s + 1) (by omega)
    have hlp : lp = false ∧ s + off = T := by
      unfold Read stp at h
      rcases h with h | h
      · exact ⟨h.1, by omega⟩
      · exfalso; omega
    obtain ⟨rfl, hT⟩ := hlp
    refine ⟨fun hlt => ?_, fun heq => ?_, fun hgt => ?_⟩
    · have hR : Read f (L ++ [x]) T s false := by
        left
        refine ⟨rfl, ?_, ?_⟩
        · rw [o1, if_neg (by omega)]; omega
        · unfold stp; rw [o1, o1, if_neg (show ¬ x.1 ≤ s by omega)]
          split <;> omega
      exact hR.unique hv' h'
    · have hR : Read f (L ++ [x]) T (x.1 - 1) true := by
        right
        have c := hoff (x.1 - 1) (by omega)
        refine ⟨rfl, ?_, ?_⟩
        · rw [o1, if_neg (by omega)]; omega
        · unfold stp; rw [o1, o1, if_neg (show ¬ x.1 ≤ x.1 - 1 by omega), if_pos (by omega)]; omega
      have := hR.unique hv' h'
      exact ⟨this.2.symm, this.1.symm, by omega⟩
    · have hR : Read f (L ++ [x]) T (s - 1) false := by
        left
        refine ⟨rfl, ?_, ?_⟩
        · rw [o1, if_pos (by omega)]; omega
        · unfold stp; rw [o1, o1, if_pos (by omega), if_pos (by omega)]; omega
      have := hR.unique hv' h'
      exact ⟨by omega, this.2.symm⟩
  · have hRx : Read f (L ++ [x]) T s lp := by
      unfold Read stp at *
      rw [o1, o1, if_neg (by omega), if_neg (by omega)]
      exact h
    have hlt : T < x.1 + off := by
      have g := g_le f L hv (s + 1) (x.1 - 172800) (by omega)
      rw [hoff (x.1 - 172800) (Int.le_refl _)] at g
      have hs2 := hs1
      unfold Read stp at h
      unfold stp at hs2
      omega
    exact ⟨fun _ => hRx.unique hv' h', fun h => by omega, fun h => by omega⟩
end Go.Leap
