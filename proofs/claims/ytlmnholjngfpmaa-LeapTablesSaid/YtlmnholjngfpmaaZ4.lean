/- Lemmas of this claim, several texts joined. -/
import Derived.Laws.AppendOwn
import Derived.Test.YtlmnholjngfpmaaZ3
set_option linter.unusedVariables false
set_option linter.unusedSimpArgs false
/- The walks of the makers of tables and instants. -/
namespace Go.Proofs.Ytlmnholjngfpmaa
open Go.RowKit Go.Sec Go.Leap BigFrame

set_option maxHeartbeats 400000 in
theorem within_any (v m : Int) (w : World) (hm : m ≤ 1000000000000000000) :
    Calls Try.prog 5 #[.int .i64 v, .int .i64 m] w fun e w' => e = .returned (.int .i64 (wthn v m)) ∧ Ext w w' := by
  by_cases h1 : m < 1
  · have HR := Lib.hid (show wthn v m = 0 by simp [wthn, h1])
    go_enter Try.func5, Try.ntmps5
    go_wp2
    go_returns
    exact ⟨by rw [HR.out]; rfl, Ext.refl _⟩
  · have HR := Lib.hid (show wthn v m = v % m by simp [wthn, h1])
    by_cases h2 : v.tmod m < 0
    · have h3 := tmod_neg v m (by omega) h2
      have H3 := Lib.hid h3.1
      have h4 := h3.2
      clear h3
      go_enter Try.func5, Try.ntmps5
      go_wp2
      go_returns
      exact ⟨by rw [HR.out, ← H3.out]; rfl, Ext.refl _⟩
    · have H3 := Lib.hid (tmod_pos v m (by omega) (by omega))
      go_enter Try.func5, Try.ntmps5
      go_wp2
      go_returns
      exact ⟨by rw [HR.out, ← H3.out]; rfl, Ext.refl _⟩

/-- A slice of ints that came in. -/
def Ints (w : World) (a : Option Addr) (n : Nat) : Prop := n = 0 ∨ ∃ b off, a = some ⟨b, off, none⟩ ∧ b < w.heap.size ∧ ∀ k, k < n → ∃ x, w.cell? ⟨b, off + k, none⟩ = some (.int .i64 x)
theorem Ints.at {w w' : World} {a : Option Addr} {n : Nat} (h : Ints w a n) (hx : Ext w w') (k : Nat) (hk : k < n) : ∃ b off x, a = some ⟨b, off, none⟩ ∧ BlkLt b w' ∧ w'.cell? ⟨b, off + k, none⟩ = some (.int .i64 x) := by
  rcases h with h | ⟨b, off, ha, hb, hc⟩
  · omega
  · obtain ⟨x, hx'⟩ := hc k hk
    exact ⟨b, off, x, ha, ⟨Nat.lt_of_lt_of_le hb hx.size⟩, (hx.cell (p := ⟨b, _, none⟩) hb).trans hx'⟩

def cellsOf (T : List (Int × Int)) : List Value := T.flatMap fun x => [.int .i64 x.1, .int .i64 x.2]
theorem cellsOf_snoc (T : List (Int × Int)) (x : Int × Int) : cellsOf (T ++ [x]) = cellsOf T ++ [.int .i64 x.1, .int .i64 x.2] := by simp [cellsOf]
theorem cellsOf_len (T : List (Int × Int)) : (cellsOf T).length = T.length * 2 := by
  induction T with
  | nil => rfl
  | cons x r ih => simp only [cellsOf, List.flatMap_cons, List.length_append, List.length_cons, List.length_nil] at *; omega
theorem cellsOf_get (T : List (Int × Int)) (k : Nat) (h : k < T.length) : (cellsOf T)[k * 2]? = some (.int .i64 (T[k]).1) ∧ (cellsOf T)[k * 2 + 1]? = some (.int .i64 (T[k]).2) := by
  induction T generalizing k with
  | nil => cases h
  | cons x r ih =>
    cases k with
    | zero => simp [cellsOf]
    | succ k =>
      have := ih k (by simpa using h)
      simp only [cellsOf, List.flatMap_cons, List.getElem_cons_succ] at this ⊢
      rw [show (k + 1) * 2 = k * 2 + 1 + 1 by omega, show k * 2 + 1 + 1 + 1 = (k * 2 + 1) + 1 + 1 by omega]
      simpa using this

/-- What a row of elements that the call owns reads as. -/
theorem Tb.of_owns {w : World} {base : Nat} {v : Value} {T : List (Int × Int)} {e : TypeId} (h : w.ownsRow base e 2 v T.length (cellsOf T)) (hl : T.length ≤ 1000)
    (hb : ∀ x ∈ T, -9223372036854775808 ≤ x.1 ∧ x.1 ≤ 9223372036854775807 ∧ -9223372036854775808 ≤ x.2 ∧ x.2 ≤ 9223372036854775807) :
    ∃ a cap, v = .slice a T.length cap ∧ Tb w a T := by
  have hc := fun g => h.cells (g := g)
  rcases h.2 with ⟨rfl, hn⟩ | ⟨g, cap, cur, rfl, _, hg, _⟩
  · exact ⟨none, 0, by rw [hn], hb, by omega, .inl hn⟩
  · refine ⟨some ⟨g, 0, none⟩, cap, rfl, hb, by omega, .inr ⟨g, 0, rfl, (Array.getElem?_eq_some_iff.1 hg).1, fun k hk => ?_⟩⟩
    have hh := hc g rfl
    have := cellsOf_get T k hk
    have h1 := hh _ _ this.1
    have h2 := hh _ _ this.2
    simp only [Addr.add] at h1 h2
    constructor
    · by_cases h0 : k = 0
      · subst h0; simpa using h1
      · rw [if_neg (by omega)] at h1; simpa using h1
    · rw [if_neg (by omega)] at h2; simpa using h2

theorem Tb.of_owns' {w : World} {base : Nat} {a : Option Addr} {cap : Nat} {T : List (Int × Int)} {e : TypeId} (h : w.ownsRow base e 2 (.slice a T.length cap) T.length (cellsOf T)) (hl : T.length ≤ 1000)
    (hb : ∀ x ∈ T, -9223372036854775808 ≤ x.1 ∧ x.1 ≤ 9223372036854775807 ∧ -9223372036854775808 ≤ x.2 ∧ x.2 ≤ 9223372036854775807) : Tb w a T := by
  obtain ⟨a', cap', he, ht⟩ := Tb.of_owns h hl hb
  injection he with h1
  rw [h1]; exact ht

def LeapsPost (w : World) (e : Ending) (w' : World) : Prop :=
  ∃ T a' o a cap, Made T a' o ∧ T.length ≤ 4 ∧ e = .returned (.agg #[.int .i64 10, .slice a T.length cap]) ∧ Tb w' a T ∧ Ext w w'

theorem info39 : (Try.prog.info? 28).map (fun i => (i.zero, i.size, i.bytes)) = some (some (.agg #[.int .i64 0, .int .i64 0]), 2, 16) := by kernel_rfl

set_option maxHeartbeats 4000000 in
theorem leaps_any (a : Option Addr) (n cap : Nat) (w : World) (hT : Ints w a n) :
    Calls Try.prog 4 #[.slice a n cap] w (LeapsPost w) := by
  obtain ⟨i0, hi, hz0, hz1, hz2⟩ := info_parts info39
  go_enter Try.func4, Try.ntmps4
  go_wp2_with fail
  go_loopw [4, 5, 6] (fun v4 v5 v6 wr => ∃ (j : Nat) (T : List (Int × Int)) (at' off : Int) (sa : Option Addr) (sc : Nat), Made T at' off ∧ T.length ≤ 4 ∧ j ≤ 2 * T.length ∧ 2 * T.length ≤ j ∧ v4 = .int .i64 at' ∧ v5 = .int .i64 off ∧ v6 = .int .i64 j ∧ wr.cell? ⟨w.heap.size + 1, 1, none⟩ = some (.slice sa T.length sc) ∧ wr.cell? ⟨w.heap.size + 1, 0, none⟩ = some (.int .i64 10) ∧
      (∀ o, wr.frozen? ⟨w.heap.size + 1, o, none⟩ = false) ∧ (∀ o, wr.frozen? ⟨w.heap.size, o, none⟩ = false) ∧ wr.cell? ⟨w.heap.size, 0, none⟩ = some (.int .i64 0) ∧ wr.cell? ⟨w.heap.size, 1, none⟩ = some (.slice none 0 0) ∧ wr.ownsRow (w.heap.size + 2) 28 2 (.slice sa T.length sc) T.length (cellsOf T) ∧ BlkLt (w.heap.size + 1) wr ∧ Ext w wr) (fun _ _ v6 _ => 10 - (intOf v6).toNat)
  case atStart =>
    refine ⟨0, [], 1728000, 10, none, 0, Made.nil, by simp, by simp, by simp, rfl, rfl, rfl, ?_, ?_, ?_, ?_, ?_, ?_, World.ownsRow_nil _ _ _ _, inferInstance, (by repeat (first | (with_reducible first | exact Ext.refl _ | assumption | apply Ext.alloc | apply Ext.ext | apply Ext.drew | refine Ext.setCell ?_ ?_ _) | (focus (simp [go_sem]; done))))⟩
    · simp [go_sem]
    · simp [go_sem]
    · intro o; simp [go_sem]
    · intro o; simp [go_sem]
    · simp [go_sem]
    · simp [go_sem]
  case round =>
    obtain ⟨j, T, at', off, sa, sc, hM, hl4, hj1, hj2, rfl, rfl, rfl, hc1, hc0, hf1, hf0, hr0, hr1, hown, hbl, hx⟩ := hrel
    haveI hbl0 : BlkLt w.heap.size wr := ⟨by have := hbl.lt; omega⟩
    by_cases hgo : j + 1 < n ∧ j < 8
    · obtain ⟨g1, g2⟩ := hgo
      obtain ⟨b, of, x, rfl, hbb, hcx⟩ := hT.at hx j (by omega)
      obtain ⟨b', of', y, he, hbb', hcy⟩ := hT.at hx (j + 1) (by omega)
      obtain ⟨rfl, rfl⟩ : b' = b ∧ of' = of := by simpa [eq_comm] using he
      clear he
      have hwx := wthn_bd x 300 (by decide)
      have hwy := wthn_bd y 3 (by decide)
      have hlo := hM.lo
      have hhi := hM.hi
      have holo := hM.olo
      have hohi := hM.ohi
      have HS := Lib.hid (hM.snoc (by omega) (wthn x 300))
      cases hy : (wthn y 3 == 0)
      all_goals
        go_wp2_with (first
          | (go_at_call 5; refine (within_any _ _ _ (by decide)).mono ?_; rintro e w1 ⟨rfl, hxq⟩; obtain ⟨xq, rfl⟩ := hxq.out; clear hxq)
          | (at_builtin; refine wpList_append_new rfl _ _ 23 rfl (w.heap.size + 2) 28 i0 (.agg #[.int .i64 0, .int .i64 0]) 2 16 Try.underlying23 hi hz0 hz1 hz2 rfl (by decide) _ T.length (cellsOf T) (own_ext hown (by repeat (first | (with_reducible first | exact Ext.refl _ | assumption | apply Ext.alloc | apply Ext.ext | apply Ext.drew | refine Ext.setCell ?_ ?_ _) | (focus (simp [go_sem]; done))))) 1 1 rfl rfl rfl ?_ ?_ ?_ ?_ ?_))
        case refine_1 => exact ⟨rfl, rfl⟩
        case refine_2 => unfold maxLen; omega
        case refine_3 => omega
        case refine_4 => have := hbl.lt; simp [World.ext]; omega
        case refine_5 =>
          intro sa2 sc2 w2 hown2 hB
          obtain ⟨q0, p0, i0'⟩ := Below.box hB w.heap.size (by omega)
          obtain ⟨q1, p1, i1'⟩ := Below.box hB (w.heap.size + 1) (by omega)
          have hx2 : Ext w w2 := Below.trans (b := (((wr.ext _).ext _).alloc _)) (by repeat (first | (with_reducible first | exact Ext.refl _ | assumption | apply Ext.alloc | apply Ext.ext | apply Ext.drew | refine Ext.setCell ?_ ?_ _) | (focus (simp [go_sem]; done)))) (Below.mono hB (by omega))
          clear hB
          go_wp2_with fail
          go_roundw
          case rel =>
            refine ⟨j + 2, T ++ [(at' + 86400 * (2 + wthn x 300), _)], _, _, sa2, sc2, HS.out _ hwx.1 hwx.2 ?_, ?_, ?_, ?_, rfl, rfl, by go_num, ?_, ?_, ?_, ?_, ?_, ?_, ?_, inferInstance, ?_⟩
            · omega
            · simp; omega
            · simp; omega
            · simp; omega
            · simp [go_sem, *]
            · simp [go_sem, *]
            · intro o; simp [go_sem, *]
            · intro o; simp [go_sem, *]
            · simp [go_sem, *]
            · simp [go_sem, *]
            · rw [cellsOf_snoc, List.length_append]; exact ownsRow_setCell_below hown2 (by simp) _
            · exact Ext.setCell hx2 (by simp) _
          case measure => simp [intOf]; omega
    · have HF := Tb.of_owns' (ownsRow_setCell_below (ownsRow_setCell_below hown (a := ⟨w.heap.size, 0, none⟩) (by simp) (.int .i64 10)) (a := ⟨w.heap.size, 1, none⟩) (by simp) (.slice sa T.length sc)) (by omega) (fun x hx => by
        have := elem_bd 10 T hM.vld x hx
        omega)
      by_cases g1 : j + 1 < n
      all_goals
        try have g2 : ¬ j < 8 := fun h => hgo ⟨g1, h⟩
        go_wp2_with fail
        refine bodyPost_ret (v := .agg #[.int .i64 10, .slice sa T.length sc]) (by simp [results, Try.results4, go_sem, hr0, hr1]) rfl ?_
        exact ⟨T, at', off, sa, sc, hM, hl4, rfl, HF, (by repeat (first | (with_reducible first | exact Ext.refl _ | assumption | apply Ext.alloc | apply Ext.ext | apply Ext.drew | refine Ext.setCell ?_ ?_ _) | (focus (simp [go_sem]; done))))⟩

def nearP (T : List (Int × Int)) (v : Int) : Int :=
  if 0 < T.length ∧ 0 < wthn v 4 then
    let x := T.getD (wthn (IntKind.i64.wrap (v.tdiv 4)) T.length).toNat (0, 0)
    let base := (x.1 + x.2) * 1048576
    let c := wthn (wrap64 (v.tdiv 16)) 4
    if c = 0 then base + wthn (wrap64 (v.tdiv 64)) 5242880 - 3145728
    else if c = 1 then base + wthn (wrap64 (v.tdiv 64)) 7 - 3
    else if c = 2 then base - 1048576 + wthn (wrap64 (v.tdiv 64)) 7 - 3
    else base + wthn (wrap64 (v.tdiv 64)) 94371840000 - 47185920000
  else 536870912 + wthn v 35184372088832

theorem elem_mem {T : List (Int × Int)} {a' o : Int} (h : Made T a' o) (k : Nat) (hk : k < T.length) : 1000000 ≤ (T[k]).1 ∧ (T[k]).1 ≤ 140000000 ∧ 5 ≤ (T[k]).2 ∧ (T[k]).2 ≤ 15 := by
  have h1 := h.lo
  have h2 := h.hi
  have h3 := h.len
  have h4 := elem_bd 10 T h.vld T[k] (List.getElem_mem hk)
  have h5 := h.range T[k] (List.getElem_mem hk)
  omega

theorem near_bd {T : List (Int × Int)} {a' o : Int} (hM : Made T a' o) (v : Int) : 536870912 ≤ nearP T v ∧ nearP T v ≤ 200000000000000 := by
  have w1 := wthn_bd v 35184372088832 (by decide)
  unfold nearP
  split
  · rename_i h
    have wb := wthn_bd (IntKind.i64.wrap (v.tdiv 4)) T.length (by omega)
    have hk : (wthn (IntKind.i64.wrap (v.tdiv 4)) T.length).toNat < T.length := by omega
    have hel := elem_mem hM _ hk
    rw [List.getD_eq_getElem?_getD, List.getElem?_eq_getElem hk, Option.getD_some]
    have w5 := wthn_bd (wrap64 (v.tdiv 64)) 5242880 (by decide)
    have w6 := wthn_bd (wrap64 (v.tdiv 64)) 7 (by decide)
    have w7 := wthn_bd (wrap64 (v.tdiv 64)) 94371840000 (by decide)
    simp only
    split
    · omega
    · split
      · omega
      · split <;> omega
  · omega

set_option maxHeartbeats 4000000 in
theorem near_any (a : Option Addr) (cap : Nat) (T : List (Int × Int)) (v : Int) (a' o : Int) (w : World) (hM : Made T a' o) (hT : Tb w a T) :
    Calls Try.prog 6 #[.agg #[.int .i64 10, .slice a T.length cap], .int .i64 v] w fun e w' => e = .returned (.int .i64 (nearP T v)) ∧ Ext w w' := by
  have hl4 := hM.len
  have w1b := wthn_bd v 35184372088832 (by decide)
  by_cases hg : 0 < T.length ∧ 0 < wthn v 4
  case neg =>
    have HR := Lib.hid (show nearP T v = 536870912 + wthn v 35184372088832 by unfold nearP; rw [if_neg hg])
    by_cases h1 : 0 < T.length
    · have h2 : ¬ 0 < wthn v 4 := fun h => hg ⟨h1, h⟩
      go_enter Try.func6, Try.ntmps6
      go_wp2_with (first | (go_at_call 5; refine (within_any _ _ _ (by decide)).mono ?_; rintro e w1 ⟨rfl, hxq⟩; obtain ⟨xq, rfl⟩ := hxq.out; clear hxq))
      go_returns
      exact ⟨by rw [HR.out]; rfl, (by repeat (first | (with_reducible first | exact Ext.refl _ | assumption | apply Ext.alloc | apply Ext.ext | apply Ext.drew | refine Ext.setCell ?_ ?_ _) | (focus (simp [go_sem]; done))))⟩
    · go_enter Try.func6, Try.ntmps6
      go_wp2_with (first | (go_at_call 5; refine (within_any _ _ _ (by decide)).mono ?_; rintro e w1 ⟨rfl, hxq⟩; obtain ⟨xq, rfl⟩ := hxq.out; clear hxq))
      go_returns
      exact ⟨by rw [HR.out]; rfl, (by repeat (first | (with_reducible first | exact Ext.refl _ | assumption | apply Ext.alloc | apply Ext.ext | apply Ext.drew | refine Ext.setCell ?_ ?_ _) | (focus (simp [go_sem]; done))))⟩
  case pos =>
    have hnp := show nearP T v = _ by unfold nearP; rw [if_pos hg]
    obtain ⟨h1, h2⟩ := hg
    have wb := wthn_bd (IntKind.i64.wrap (v.tdiv 4)) T.length (by omega)
    have HK : wthn (IntKind.i64.wrap (v.tdiv 4)) T.length = ((wthn (IntKind.i64.wrap (v.tdiv 4)) T.length).toNat : Int) := by omega
    generalize hk : (wthn (IntKind.i64.wrap (v.tdiv 4)) T.length).toNat = k at *
    have hk' : k < T.length := by omega
    rw [List.getD_eq_getElem?_getD, List.getElem?_eq_getElem hk', Option.getD_some] at hnp
    simp only at hnp
    obtain ⟨b, off, rfl, hb, hc, hd⟩ := hT.at k (by omega)
    haveI : BlkLt b w := ⟨hb⟩
    have hel := elem_mem hM k (by omega)
    generalize (T[k]'(by omega)).1 = x1 at *
    generalize (T[k]'(by omega)).2 = x2 at *
    have wk0 : (0 : Int) ≤ (k : Int) := by omega
    have wk1 : (k : Int) < (T.length : Int) := by omega
    clear hk wb
    have w4 := wthn_bd (wrap64 (v.tdiv 16)) 4 (by decide)
    have w5 := wthn_bd (wrap64 (v.tdiv 64)) 5242880 (by decide)
    have w6 := wthn_bd (wrap64 (v.tdiv 64)) 7 (by decide)
    have w7 := wthn_bd (wrap64 (v.tdiv 64)) 94371840000 (by decide)
    generalize hcc : wthn (wrap64 (v.tdiv 16)) 4 = c at *
    have Hc := Lib.hid hcc
    obtain rfl | rfl | rfl | rfl : c = 0 ∨ c = 1 ∨ c = 2 ∨ c = 3 := by omega
    all_goals
      have HR := Lib.hid hnp
      simp only [if_true, Int.reduceEq, if_false] at HR
      clear hnp Hc
      go_enter Try.func6, Try.ntmps6
      go_wp2_with (first | (go_at_call 5; refine (within_any _ _ _ (by decide)).mono ?_; rintro e w1 ⟨rfl, hxq⟩; obtain ⟨xq, rfl⟩ := hxq.out; clear hxq))
      go_region_held3 (fun w' => w'.cell? ⟨w.heap.size, 1, none⟩ = some (.slice (some ⟨b, off, none⟩) T.length cap) ∧ w'.cell? ⟨b, off + k * 2, none⟩ = some (.int .i64 x1) ∧ w'.cell? ⟨b, off + k * 2 + 1, none⟩ = some (.int .i64 x2) ∧ BlkLt w.heap.size w' ∧ BlkLt b w' ∧ Ext w w')
        (first | (go_split_ands; refine ⟨?_, ?_, ?_, ?_, ?_, ?_⟩ <;> first | infer_instance | (simp [*, go_sem]; done) | exact (by repeat (first | (with_reducible first | exact Ext.refl _ | assumption | apply Ext.alloc | apply Ext.ext | apply Ext.drew | refine Ext.setCell ?_ ?_ _) | (focus (simp [go_sem]; done))))) | (refine ⟨?_, ?_, ?_, ?_, ?_, ?_⟩ <;> first | infer_instance | (simp [*, go_sem]; done) | exact (by repeat (first | (with_reducible first | exact Ext.refl _ | assumption | apply Ext.alloc | apply Ext.ext | apply Ext.drew | refine Ext.setCell ?_ ?_ _) | (focus (simp [go_sem]; done))))))
        (first | (go_at_call 5; refine (within_any _ _ _ (by omega)).mono ?_; rintro e w1 ⟨rfl, hxq⟩; obtain ⟨xq, rfl⟩ := hxq.out; clear hxq))
      all_goals
        go_wp2_with (first | (go_at_call 5; refine (within_any _ _ _ (by decide)).mono ?_; rintro e w1 ⟨rfl, hxq⟩; obtain ⟨xq, rfl⟩ := hxq.out; clear hxq))
        all_goals
          go_returns
          exact ⟨by rw [HR.out]; rfl, (by repeat (first | (with_reducible first | exact Ext.refl _ | assumption | apply Ext.alloc | apply Ext.ext | apply Ext.drew | refine Ext.setCell ?_ ?_ _) | (focus (simp [go_sem]; done))))⟩
end Go.Proofs.Ytlmnholjngfpmaa

/- The sanity check, and the law on round trips. -/
namespace Go.Proofs.Ytlmnholjngfpmaa
open Go.RowKit Go.Sec Go.Leap BigFrame

theorem k1 : taiP 10 [(172800, 11)] 172799 true 0 = (181204418560, 0) := by decide +kernel
theorem k2 : numP 10 [(172800, 11)] 172799 5 = ((181203369989, 181204418565), 0) := by decide +kernel

set_option maxHeartbeats 4000000 in
theorem known_any (w : World) :
    Calls Try.prog 8 #[] w fun e w' => e = .returned (.bool true) ∧ Ext w w' := by
  have K1 := Lib.hid k1
  have K2 := Lib.hid k2
  go_enter Try.func8, Try.ntmps8
  go_wp2_with fail
  have hT : Tb ((w.alloc (.cells #[.int .i64 172800, .int .i64 11] 28)).alloc (.cells #[.int .i64 10, .slice (some ⟨w.heap.size, 0, none⟩) 1 1] 25)) (some ⟨w.heap.size, 0, none⟩) [(172800, 11)] := by
    refine ⟨by simp, by simp, .inr ⟨w.heap.size, 0, rfl, by simp; omega, ?_⟩⟩
    intro k hk
    match k, hk with
    | 0, _ => simp [go_sem]
  refine (TAI_any 10 _ 1 [(172800, 11)] 172799 true 0 _ (hT.ext (by repeat (first | (with_reducible first | exact Ext.refl _ | assumption | apply Ext.alloc | apply Ext.ext | apply Ext.drew | refine Ext.setCell ?_ ?_ _) | (focus (simp [go_sem]; done)))))).mono ?_
  rintro e w1 ⟨rfl, hxq⟩
  obtain ⟨xq, rfl⟩ := hxq.out
  clear hxq
  rw [K1.out]
  go_wp2_with fail
  refine (Number_any 10 _ 1 [(172800, 11)] 172799 5 _ (hT.ext (by repeat (first | (with_reducible first | exact Ext.refl _ | assumption | apply Ext.alloc | apply Ext.ext | apply Ext.drew | refine Ext.setCell ?_ ?_ _) | (focus (simp [go_sem]; done)))))).mono ?_
  rintro e w1 ⟨rfl, hxq⟩
  obtain ⟨xq, rfl⟩ := hxq.out
  clear hxq
  rw [K2.out]
  go_wp2_with fail
  go_returns
  exact ⟨rfl, (by repeat (first | (with_reducible first | exact Ext.refl _ | assumption | apply Ext.alloc | apply Ext.ext | apply Ext.drew | refine Ext.setCell ?_ ?_ _) | (focus (simp [go_sem]; done))))⟩

def IsRow (k : IntKind) (w : World) (a : Option Addr) (len cap : Nat) (zs : List Int) : Prop :=
  (a = none ∧ len = 0 ∧ cap = 0 ∧ zs = []) ∨
  ∃ x, a = some x ∧ len ≤ cap ∧ cap ≤ maxLen ∧ zs.length = cap ∧ (∀ i, i < zs.length → w.cell? (x.add i) = some (.int k (zs.getD i 0))) ∧ ∀ n ∈ zs, (Lit.int k n).wf = true

theorem addr_none (x : Addr) (w : World) (v : Value) (h : w.cell? x = some v) : x = ⟨x.block, x.off, none⟩ := by
  cases x with
  | mk b o s =>
    unfold World.cell? at h
    split at h
    · cases s with
      | none => rfl
      | some _ => simp at h
    · cases h
theorem Ints.of_row {w : World} {a : Option Addr} {len cap : Nat} {zs : List Int} (h : IsRow .i64 w a len cap zs) : Ints w a len := by
  rcases h with ⟨_, h, _⟩ | ⟨x, rfl, h1, _, h3, h4, _⟩
  · exact .inl h
  · by_cases h0 : len = 0
    · exact .inl h0
    · have c0 := h4 0 (by omega)
      have hx : x = ⟨x.block, x.off, none⟩ := addr_none x w _ (by simpa [Addr.add] using c0)
      refine .inr ⟨x.block, x.off, by rw [← hx], World.block_lt_of_cell? w x (by simpa [Addr.add] using c0), fun k hk => ?_⟩
      have ck := h4 k (by omega)
      refine ⟨zs.getD k 0, ?_⟩
      have ha : x.add k = ⟨x.block, x.off + k, none⟩ := by
        rw [hx]
        by_cases h0 : k = 0 <;> simp [Addr.add, h0]
      rw [← ha]
      exact ck

end Go.Proofs.Ytlmnholjngfpmaa
