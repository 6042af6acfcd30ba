/- Lemmas of this claim, several texts joined. -/
import Derived.Test.YtmmbcgbadaojeaaZ3
set_option linter.unusedVariables false
set_option linter.unusedSimpArgs false
/- As XReg2: operations of a region that only take a part of what a call returned may be late: the last operations need not wait for them. -/
namespace Go.Sec.R2
open Go.RowKit Go.Sec
/-- What has come up at least where z may. -/
def lst0 (ops : Array Oper) (A : List (List Nat)) (z : Nat) : Array Bool := ((List.range ops.size).map fun k => (A.getD z []).contains k).toArray
def okZ (ops : Array Oper) (A : List (List Nat)) (Z : List Nat) (n : Nat) : Bool := Z.all fun z => decide (z < n) && match ops[z]? with
  | some o => o.guard.isNone && (match o.op with | .extract _ _ => true | _ => false) && Region.free .any ops (lst0 ops A z) z && o.after.all fun e => !Region.binds .any e || (A.getD z []).contains e.on
  | none => false
theorem okZ_spec {ops : Array Oper} {A : List (List Nat)} {Z : List Nat} {n : Nat} (h : okZ ops A Z n = true) (z : Nat) (hz : z ∈ Z) : z < n ∧ ∃ o tp ix, ops[z]? = some o ∧ o.guard = none ∧ o.op = .extract tp ix ∧ Region.free .any ops (lst0 ops A z) z = true ∧ ∀ e ∈ o.after, Region.binds .any e = true → e.on ∈ A.getD z [] := by
  have := List.all_eq_true.1 h z hz
  rw [Bool.and_eq_true, decide_eq_true_eq] at this
  obtain ⟨h1, h2⟩ := this
  refine ⟨h1, ?_⟩
  cases ho : ops[z]? with
  | none => rw [ho] at h2; cases h2
  | some o =>
    rw [ho] at h2
    simp only [Bool.and_eq_true] at h2
    obtain ⟨⟨⟨g1, g2⟩, g3⟩, g4⟩ := h2
    cases hop : o.op with
    | extract tp ix =>
      refine ⟨o, tp, ix, rfl, by simpa using g1, hop, g3, fun e he hb => ?_⟩
      have := Array.all_eq_true'.1 g4 e he
      rw [hb] at this
      simpa using this
    | _ => rw [hop] at g2; cases g2
section
variable {P : Program}
theorem extract_run {o : Oper} {ρ : Operand → Value} {tp : Operand} {ix : Nat} (hop : o.op = .extract tp ix) : (∃ v, ∀ w, (execOp ρ o).run P w = .ok (.value v) w) ∨ ∀ w, ∃ h w', (execOp ρ o).run P w = .halt h w' := by
  unfold execOp
  rw [hop]
  simp only [Instr.extract]
  generalize ρ tp = t
  cases t with
  | tuple vs =>
    simp only
    cases hv : vs[ix]? with
    | some u => exact .inl ⟨u, fun w => by simp⟩
    | none => exact .inr fun w => by simp [stuck]
  | _ => exact .inr fun w => by simp [stuck]
theorem extract_gives {o : Oper} {ρ : Operand → Value} {tp : Operand} {ix : Nat} (hop : o.op = .extract tp ix) {w : World} {S : Value → World → Prop} (h : gives P o ρ w S) : ∃ v, (∀ w2, (execOp ρ o).run P w2 = .ok (.value v) w2) ∧ S v w := by
  rcases extract_run (P := P) (ρ := ρ) hop with ⟨v, hv⟩ | hn
  · unfold gives at h
    rw [hv w] at h
    exact ⟨v, hv, h⟩
  · obtain ⟨e, w', hr⟩ := hn w
    unfold gives at h
    rw [hr] at h
    exact h.elim
section main
variable {ops : Array Oper} {A : List (List Nat)} {a0 : Act} {W : World} {T : List (Oper × Ent)}
theorem any_tailZ {m : Nat} (hB : OkB ops A m) {Q : Exit → Act → World → Prop} {n : Nat} (htail : ∀ t, n ≤ t → t < ops.size → ∀ k, n ≤ k → k < t → k ∈ A.getD t []) : ∀ (l : List Oper) (t : Nat) (fuel : Nat) (listed : Array Bool) (a : Act) (w : World), n ≤ t → (∀ j, l[j]? = ops[t + j]?) → l.length ≤ fuel →
    listed.size = ops.size → (∀ k, k < t → listed.getD k false = true) → (∀ k, t ≤ k → listed.getD k false = false) →
    wpList P ops Q l a w → wpAny P .any ops Q fuel listed a w := by
  intro l
  induction l with
  | nil =>
    intro t fuel listed a w hn hl hf hs h1 h2 h
    have hts : ops.size ≤ t := by
      have := hl 0
      simp at this
      exact this
    have hr : Region.ready .any ops listed = [] := by
      apply List.eq_nil_iff_forall_not_mem.2
      intro i hi
      obtain ⟨h0, o, ho, _⟩ := mem_ready.1 hi
      have hlt : i < ops.size := (Array.getElem?_eq_some_iff.1 ho).1
      rw [un_iff (by omega), h1 i (by omega)] at h0
      cases h0
    exact wpAny_done hr h fuel
  | cons o l ih =>
    intro t fuel listed a w hn hl hf hs h1 h2 h
    have ho : ops[t]? = some o := by simpa using (hl 0).symm
    have hlt : t < ops.size := (Array.getElem?_eq_some_iff.1 ho).1
    cases fuel with
    | zero => simp at hf
    | succ f =>
      have hc : ∀ (i : Nat) o, ops[i]? = some o → listed.getD i false = true → ∀ k ∈ A.getD i [], listed.getD k false = true := fun i o' hi hli k hk => by
        have : k < i := hB.lt i o' hi k hk
        rcases Nat.lt_or_ge i t with h' | h'
        · exact h1 k (by omega)
        · rw [h2 i h'] at hli; cases hli
      refine ⟨fun h0 => ?_, fun i hi => ?_⟩
      · have := ready_least hB hs hlt (h2 t (Nat.le_refl _)) h1
        rw [h0] at this; cases this
      · obtain ⟨o', ho', hun, hilt, hw⟩ := ready_waits hB hc hs hi
        have hit : i = t := by
          rcases Nat.lt_trichotomy i t with h' | h' | h'
          · rw [h1 i h'] at hun; cases hun
          · exact h'
          · have := hw t (htail i (by omega) hilt t hn h')
            rw [h2 t (Nat.le_refl _)] at this; cases this
        subst hit
        have hop : wpOp P ops Q i (wpList P ops Q l) a w := by unfold wpOp; simp only [ho]; exact h
        refine wpOp_mono (fun a' w' h' => ih (i + 1) f _ a' w' (by omega) (fun j => by have := hl (j + 1); simpa [Nat.add_assoc, Nat.add_comm 1 j] using this) (by simpa using hf) (by simpa using hs) (fun k hk => ?_) (fun k hk => ?_) h') hop
        · by_cases hki : k = i
          · subst hki; exact getD_set_self false (by omega)
          · rw [getD_set_ne false (Ne.symm hki)]; exact h1 k (by omega)
        · rw [getD_set_ne false (by omega)]; exact h2 k (by omega)

theorem any_doneZ (hB : OkB ops A T.length) (hT : Tab P ops A a0 W T) {Q : Exit → Act → World → Prop} (htail : ∀ t, T.length ≤ t → t < ops.size → ∀ k, T.length ≤ k → k < t → k ∈ A.getD t [])
    (hfin : ∀ us w', Ext W w' → (∀ (i : Nat) x, T[i]? = some x → x.2.R (us i) w') → (∀ (i j : Nat) x y, T[i]? = some x → T[j]? = some y → i ≠ j → x.2.box = true → y.2.box = true → (us i 0).1 ≠ (us j 0).1) → wpList P ops Q (ops.toList.drop T.length) (frameAt a0 T us) w')
    {listed : Array Bool} {a : Act} {w : World} {us : Us} (h : Inv ops A a0 W T listed a w us) (hall : ∀ i, i < T.length → listed.getD i false = true) (fuel : Nat) (hf : ops.size - T.length ≤ fuel) : wpAny P .any ops Q fuel listed a w := by
  have ha : a = frameAt a0 T us := by
    have hs := frame_size a0 T us
    have : a.tmps = (frameAt a0 T us).tmps := by
      apply Array.ext_getElem?
      intro t
      by_cases hwr : ∃ (j : Nat) (y : Oper × Ent), T[j]? = some y ∧ y.1.dst = some t
      · obtain ⟨j, y, hj, hd⟩ := hwr
        by_cases ht : t < a0.tmps.size
        · rw [frame_some a0 _ us (hT.once hB) j y t hj hd ht]
          exact h.set j y t hj (hall j (List.getElem?_eq_some_iff.1 hj).1) hd ht
        · have s1 := hs.1
          have s2 := h.asize
          have q1 : (frameAt a0 T us).tmps[t]? = none := Array.getElem?_eq_none (by omega)
          have q2 : a.tmps[t]? = none := Array.getElem?_eq_none (by omega)
          rw [q1, q2]
      · have hn : ∀ (j : Nat) y, T[j]? = some y → y.1.dst ≠ some t := fun j y hj hd => hwr ⟨j, y, hj, hd⟩
        rw [frame_none a0 _ us t hn]
        exact h.unset t (fun j y hy _ => hn j y hy)
    have h2 : a.defers = (frameAt a0 T us).defers := by rw [hs.2, h.defers]
    cases a with
    | mk x y => cases hF : frameAt a0 T us with
      | mk x' y' => rw [hF] at this h2; simp only at this h2; rw [this, h2]
  rw [ha]
  refine any_tailZ hB htail (ops.toList.drop T.length) T.length fuel listed _ w (Nat.le_refl _) (fun j => by simp [List.getElem?_drop]) (by simpa using hf) h.size hall (fun k hk => h.tail k hk) ?_
  exact hfin us w h.ext (fun i x hx => h.facts i x hx (hall i (List.getElem?_eq_some_iff.1 hx).1)) (fun i j x y hi hj hne hb hc => h.dist i j x y hi hj (hall i (List.getElem?_eq_some_iff.1 hi).1) (hall j (List.getElem?_eq_some_iff.1 hj).1) hne hb hc)

theorem any_headZ (hB : OkB ops A T.length) (hT : Tab P ops A a0 W T) {Q : Exit → Act → World → Prop} (hQ : ∀ c (a : Act) d v w, Q (.panic c) (a.put d v) w → Q (.panic c) a w) (Z : List Nat) (hZ : okZ ops A Z T.length = true) (hlen : T.length ≤ ops.size) (htail : ∀ t, T.length ≤ t → t < ops.size → ∀ k, k < t → k ∈ A.getD t [] ∨ (k ∈ Z ∧ ∀ d ∈ A.getD k [], d ∈ A.getD t []))
    (hfin : ∀ us w', Ext W w' → (∀ (i : Nat) x, T[i]? = some x → x.2.R (us i) w') → (∀ (i j : Nat) x y, T[i]? = some x → T[j]? = some y → i ≠ j → x.2.box = true → y.2.box = true → (us i 0).1 ≠ (us j 0).1) → wpList P ops Q (ops.toList.drop T.length) (frameAt a0 T us) w') :
    ∀ (fuel : Nat) (listed : Array Bool) (a : Act) (w : World) (us : Us), cnt listed ops.size ≤ fuel → ops.size - T.length ≤ fuel → Inv ops A a0 W T listed a w us → wpAny P .any ops Q fuel listed a w := by
  have htl : ∀ t, T.length ≤ t → t < ops.size → ∀ k, T.length ≤ k → k < t → k ∈ A.getD t [] := fun t ht hts k hk hkt => (htail t ht hts k hkt).elim id fun h => by
    have := (okZ_spec hZ k h.1).1; omega
  intro fuel
  induction fuel with
  | zero =>
    intro listed a w us hc hf h
    have hall : ∀ i, i < ops.size → listed.getD i false = true := fun i hi => by
      cases hl : listed.getD i false with
      | true => rfl
      | false => have := cnt_pos listed i ops.size hi hl; omega
    exact any_doneZ hB hT htl hfin h (fun i hi => hall i (by omega)) 0 (by omega)
  | succ f ih =>
    intro listed a w us hc hf h
    by_cases hall : ∀ i, i < T.length → listed.getD i false = true
    · exact any_doneZ hB hT htl hfin h hall (f + 1) hf
    · have hex : ∃ i, i < T.length ∧ listed.getD i false = false := by
        by_cases hx : ∃ i, i < T.length ∧ listed.getD i false = false
        · exact hx
        · exact absurd (fun i hi => by
            cases hl : listed.getD i false with
            | true => rfl
            | false => exact absurd ⟨i, hi, hl⟩ hx) hall
      obtain ⟨m, hm, hmu⟩ := hex
      by_cases hz : ∃ z, z ∈ Z ∧ listed.getD z false = false ∧ ∀ d ∈ A.getD z [], listed.getD d false = true
      · obtain ⟨i, hiZ, hun, hw⟩ := hz
        obtain ⟨hin, o, tp, ix, ho, hgd, hop, hfr, haf⟩ := okZ_spec hZ i hiZ
        have hlt : i < ops.size := (Array.getElem?_eq_some_iff.1 ho).1
        have hi : i ∈ Region.ready .any ops listed := mem_ready.2 ⟨by rw [un_iff (by rw [h.size]; exact hlt)]; exact hun, o, ho, fun e he hb => hw _ (haf e he hb)⟩
        have hx := List.getElem?_eq_getElem hin
        generalize T[i] = x at hx
        have hox : o = x.1 := Option.some.inj (ho.symm.trans (hT.at' i x hx))
        subst hox
        have hcn : cnt (listed.setIfInBounds i true) ops.size ≤ f := by
          have := cnt_set listed i ops.size (by rw [h.size]; exact hlt) hun
          rw [if_pos hlt] at this
          omega
        have hff : ops.size - T.length ≤ f := by
          have c1 := cnt_tail listed T.length ops.size hlen h.tail
          have c2 := cnt_pos listed i T.length hin hun
          omega
        have hag : Agree ops x.1 a (frameAt a0 (T.take i) us) := by
          intro t ht
          have hO := take_once (hT.once hB) i
          by_cases hwr : ∃ (j : Nat) (y : Oper × Ent), (T.take i)[j]? = some y ∧ y.1.dst = some t
          · obtain ⟨j, y, hj, hd⟩ := hwr
            have hj' : T[j]? = some y := by
              rw [List.getElem?_take] at hj
              split at hj
              · exact hj
              · cases hj
            by_cases hs : t < a0.tmps.size
            · rw [frame_some a0 _ us hO j y t hj hd hs]
              exact h.set j y t hj' (hw j (hB.look i x.1 ho j y.1 t (hT.at' j y hj') (idx_lt hj') hd ht)) hd hs
            · have s1 := (frame_size a0 (T.take i) us).1
              have s2 := h.asize
              have q1 : (frameAt a0 (T.take i) us).tmps[t]? = none := Array.getElem?_eq_none (s1 ▸ Nat.le_of_not_lt hs)
              have q2 : a.tmps[t]? = none := Array.getElem?_eq_none (s2 ▸ Nat.le_of_not_lt hs)
              rw [q1, q2]
          · have hn : ∀ (j : Nat) y, (T.take i)[j]? = some y → y.1.dst ≠ some t := fun j y hj hd => hwr ⟨j, y, hj, hd⟩
            rw [frame_none a0 _ us t hn]
            refine h.unset t (fun j y hy hl hd => ?_)
            have hjA := hB.look i x.1 ho j y.1 t (hT.at' j y hy) (idx_lt hy) hd ht
            have hji := hB.lt i x.1 ho j hjA
            exact hn j y (by rw [List.getElem?_take, if_pos hji]; exact hy) hd
        have hsel := fun cs b => Region.noSelect_spec hB.sel i x.1 cs b ho
        have hsp := (hT.spec i x hx).2.2 us w h.ext (fun k hk z hz => h.facts k z hz (hw k (by simpa using hk)))
        rw [← hag.wanted] at hsp
        have hwn : Region.wanted x.1 (yielded ops a.tmps) = true := by unfold Region.wanted; rw [hgd]
        simp only [hwn, if_true] at hsp
        have hg : ∀ S, gives P x.1 (frameAt a0 (T.take i) us).eval w S → gives P x.1 a.eval w S := fun S hS => by
          unfold gives at *; rw [hag.exec hsel]; exact hS
        have hall2 : ∃ us' : Us, (∀ k, k ≠ i → us' k = us k) ∧ (∀ w2, (execOp a.eval x.1).run P w2 = .ok (.value (x.2.V us')) w2) ∧ x.2.R (us' i) w ∧ (x.2.box = true → BoxOk (us' i) w w) := by
          cases hv : x.2.vag with
          | true =>
            simp only [hv, if_true] at hsp
            obtain ⟨v, hrun, p, hp, _, hR, hbx⟩ := extract_gives hop (hg _ hsp)
            have hv' := hp (fun k => if k = i then p else us k) (by simp)
            exact ⟨fun k => if k = i then p else us k, fun k hk => by simp [hk], by rw [← hv']; exact hrun, by simpa using hR, by simpa using hbx⟩
          | false =>
            simp only [hv, Bool.false_eq_true, if_false] at hsp
            rw [← hag.exec hsel] at hsp
            have hgo : gives P x.1 a.eval w (fun v w' => v = x.2.V us ∧ w' = w) := by
              unfold gives
              rcases hsp.1 with h1 | ⟨h1, h2⟩ <;> rw [h1]
              · exact ⟨rfl, rfl⟩
              · exact ⟨h2.symm, rfl⟩
            obtain ⟨v, hrun, hve, _⟩ := extract_gives hop hgo
            exact ⟨us, fun _ _ => rfl, by rw [← hve]; exact hrun, hsp.2.1 _ _, fun e => by rw [hsp.2.2] at e; cases e⟩
        obtain ⟨us', hus', hrun, hR, hbx⟩ := hall2
        refine wpAny_first ho (fun j o cs b => Region.noSelect_spec hB.sel j o cs b) (fun c a w hq => hQ c _ _ _ w hq) f listed a w (fun j oj hj hne hju hno => Region.free_spec ho hfr j oj hj hne (by
          have hjl : j < ops.size := (Array.getElem?_eq_some_iff.1 hj).1
          rw [un_iff (by rw [h.size]; exact hjl)] at hju
          have hnc : (A.getD i []).contains j = false := by
            cases hc : (A.getD i []).contains j with
            | false => rfl
            | true => have := hw j (by simpa using hc); rw [hju] at this; cases this
          unfold lst0
          simpa [Array.getD, hjl] using hnc) hno) hi (v := x.2.V us') (.inl ⟨hwn, hrun⟩) ?_
        exact ih _ _ _ _ hcn hff (h.step hB hT hx hi us' hus' w (Ext.refl _) hR hbx)
      refine ⟨fun h0 => ?_, fun i hi => ?_⟩
      · obtain ⟨i, hi, hiu, hik⟩ := least_un m _ hm hmu
        have := ready_least hB h.size (by omega) hiu hik
        rw [h0] at this; cases this
      · obtain ⟨o, ho, hun, hlt, hw⟩ := ready_waits hB h.closed h.size hi
        have hin : i < T.length := by
          rcases Nat.lt_or_ge i T.length with h' | h'
          · exact h'
          · rcases htail i h' hlt m (by omega) with h2 | ⟨h2, h3⟩
            · have := hw m h2
              rw [hmu] at this; cases this
            · exact absurd ⟨m, h2, hmu, fun d hd => hw d (h3 d hd)⟩ hz
        have hx := List.getElem?_eq_getElem hin
        generalize T[i] = x at hx
        have hox : o = x.1 := Option.some.inj (ho.symm.trans (hT.at' i x hx))
        subst hox
        have hcn : cnt (listed.setIfInBounds i true) ops.size ≤ f := by
          have := cnt_set listed i ops.size (by rw [h.size]; exact hlt) hun
          rw [if_pos hlt] at this
          omega
        have hff : ops.size - T.length ≤ f := by
          have c1 := cnt_tail listed T.length ops.size hlen h.tail
          have c2 := cnt_pos listed i T.length hin hun
          omega
        have hag : Agree ops x.1 a (frameAt a0 (T.take i) us) := by
          intro t ht
          have hO := take_once (hT.once hB) i
          by_cases hwr : ∃ (j : Nat) (y : Oper × Ent), (T.take i)[j]? = some y ∧ y.1.dst = some t
          · obtain ⟨j, y, hj, hd⟩ := hwr
            have hj' : T[j]? = some y := by
              rw [List.getElem?_take] at hj
              split at hj
              · exact hj
              · cases hj
            by_cases hs : t < a0.tmps.size
            · rw [frame_some a0 _ us hO j y t hj hd hs]
              exact h.set j y t hj' (hw j (hB.look i x.1 ho j y.1 t (hT.at' j y hj') (idx_lt hj') hd ht)) hd hs
            · have s1 := (frame_size a0 (T.take i) us).1
              have s2 := h.asize
              have q1 : (frameAt a0 (T.take i) us).tmps[t]? = none := Array.getElem?_eq_none (s1 ▸ Nat.le_of_not_lt hs)
              have q2 : a.tmps[t]? = none := Array.getElem?_eq_none (s2 ▸ Nat.le_of_not_lt hs)
              rw [q1, q2]
          · have hn : ∀ (j : Nat) y, (T.take i)[j]? = some y → y.1.dst ≠ some t := fun j y hj hd => hwr ⟨j, y, hj, hd⟩
            rw [frame_none a0 _ us t hn]
            refine h.unset t (fun j y hy hl hd => ?_)
            have hjA := hB.look i x.1 ho j y.1 t (hT.at' j y hy) (idx_lt hy) hd ht
            have hji := hB.lt i x.1 ho j hjA
            exact hn j y (by rw [List.getElem?_take, if_pos hji]; exact hy) hd
        have hsel := fun cs b => Region.noSelect_spec hB.sel i x.1 cs b ho
        have hsp := (hT.spec i x hx).2.2 us w h.ext (fun k hk z hz => h.facts k z hz (hw k (by simpa using hk)))
        rw [← hag.wanted] at hsp
        have hg : ∀ S, gives P x.1 (frameAt a0 (T.take i) us).eval w S → gives P x.1 a.eval w S := fun S hS => by
          unfold gives at *; rw [hag.exec hsel]; exact hS
        unfold wpOp
        simp only [ho]
        by_cases hwn : Region.wanted x.1 (yielded ops a.tmps) = true
        · simp only [hwn, if_true] at hsp ⊢
          refine .inl ?_
          cases hv : x.2.vag with
          | true =>
            simp only [hv, if_true] at hsp
            refine wp_of_gives (hg _ hsp) ?_
            rintro v w' ⟨p, hp, he, hR, hbx⟩
            have hv' := hp (fun k => if k = i then p else us k) (by simp)
            rw [hv']
            exact ih _ _ _ _ hcn hff (h.step hB hT hx hi (fun k => if k = i then p else us k) (fun k hk => by simp [hk]) w' he (by simpa using hR) (by simpa using hbx))
          | false =>
            simp only [hv, Bool.false_eq_true, if_false] at hsp
            rw [← hag.exec hsel] at hsp
            have hgo : gives P x.1 a.eval w (fun v w' => v = x.2.V us ∧ w' = w) := by
              unfold gives
              rcases hsp.1 with h1 | ⟨h1, h2⟩ <;> rw [h1]
              · exact ⟨rfl, rfl⟩
              · exact ⟨h2.symm, rfl⟩
            refine wp_of_gives hgo ?_
            rintro v w' ⟨rfl, rfl⟩
            exact ih _ _ _ _ hcn hff (h.step hB hT hx hi us (fun k _ => rfl) w' (Ext.refl _) (hsp.2.1 _ _) (fun e => by rw [hsp.2.2] at e; cases e))
        · simp only [hwn] at hsp ⊢
          simp only [Bool.false_eq_true, if_false] at hsp ⊢
          rw [← hsp.1]
          exact ih _ _ _ _ hcn hff (h.step hB hT hx hi us (fun k _ => rfl) w (Ext.refl _) (hsp.2.1 _ _) (fun e => by rw [hsp.2.2] at e; cases e))
end main
/-- **A region that draws its order: one walk in the text's order**; behind the first n operations the others stand in a row. -/
theorem wp_region_vagueZ {id : Nat} {Q : Exit → Act → World → Prop} {a0 : Act} {W : World} {l : List Oper} (n : Nat) (A : List (List Nat)) (Z : List Nat) (hQ : ∀ c (a : Act) d v w, Q (.panic c) (a.put d v) w → Q (.panic c) a w) (hm : P.follows .mixedOrders = true) (hB : okB l.toArray A n = true) (hn : decide (n ≤ l.length) = true)
    (hZ : okZ l.toArray A Z n = true)
    (htail : ((List.range l.length).all fun t => decide (t < n) || (List.range t).all fun k => (A.getD t []).contains k || (Z.contains k && (A.getD k []).all fun d => (A.getD t []).contains d)) = true)
    (h : VD P l.toArray A W (fun a w' => wpList P l.toArray Q (l.drop n) a w') (l.take n) 0 [] [] (fun _ => a0)) : (Code.region id l.toArray true).wp P Q a0 W := by
  have hBk := okB_spec hB
  have hn' : n ≤ l.length := by simpa using hn
  obtain ⟨T, h1, h2, h3⟩ := vd_tab (a0 := a0) (l.take n) 0 [] [] _ [] h rfl (fun j => by
    rw [List.getElem?_take]
    split
    · right; simp
    · exact .inl rfl) (fun us => rfl) (by simp) (by simp) (by simp)
  have hTl : T.length = n := by rw [h1]; simp; omega
  rw [← hTl] at hBk
  have hT : Tab P l.toArray A a0 W T := ⟨fun i x hx => (h2 i x hx).1, fun i x hx => by
    obtain ⟨ho, hs1, hs2, hs3⟩ := h2 i x hx
    refine ⟨hs1, hs2, fun us w' hx' hf => hs3 us w' hx' fun k hk y hy => ?_⟩
    rw [List.getElem?_take] at hy
    split at hy
    · exact hf k hk y hy
    · cases hy⟩
  refine wp_region_any hm ?_
  refine any_headZ hBk hT hQ Z (by rw [hTl]; exact hZ) (by simp [hTl]; omega) (fun t ht htl k hk => ?_) (fun us w' hx hf hd => ?_) _ _ _ _ (fun _ _ => (none, 0)) (cnt_le _ _) (by omega) ?_
  · have := List.all_eq_true.1 htail t (List.mem_range.2 (by simpa using htl))
    simp only [Bool.or_eq_true, decide_eq_true_eq, List.all_eq_true, List.mem_range] at this
    rcases this with h | h
    · omega
    · have := h k hk
      simpa using this
  · have := h3 us w' hx hf hd
    rw [hTl]
    simpa using this
  · refine ⟨by simp, Ext.drew (Ext.refl W), rfl, rfl, ?_, fun _ _ => rfl, ?_, ?_, ?_, ?_, ?_⟩
    · intro i x t _ hl; rw [getD_replicate_false] at hl; cases hl
    · intro i o _ hl; rw [getD_replicate_false] at hl; cases hl
    · intro i x _ hl; rw [getD_replicate_false] at hl; cases hl
    · intro i _; exact getD_replicate_false _ _
    · intro i x _ hl; rw [getD_replicate_false] at hl; cases hl
    · intro i j x y _ _ hl; rw [getD_replicate_false] at hl; cases hl
end
end Go.Sec.R2
