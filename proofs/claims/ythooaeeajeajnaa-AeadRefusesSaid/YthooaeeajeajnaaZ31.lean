/- Lemmas of this claim, several texts joined. -/
import Derived.Test.YthooaeeajeajnaaZ9
import Derived.Test.YthooaeeajeajnaaZ25
import Derived.Test.YthooaeeajeajnaaZ29
import Derived.Test.YthooaeeajeajnaaZ30
import Derived.Test.YthooaeeajeajnaaZ32
set_option linter.unusedVariables false
set_option linter.unusedSimpArgs false
/- Layer 6: check, copies of lists, the stream of a tag. -/
namespace Go.Proofs.Ythooaeeajeajnaa
open Go.RowKit Go.Sec Go.Oct Go.Aes BigFrame

set_option maxRecDepth 100000 in
theorem long1_any (a : Option Addr) (n c : Nat) (l : List UInt8) (w : World) (h : Sl w a n l) :
    Calls Try.prog 97 #[.slice a n c] w fun e w' => e = .returned (.bool (decide (65519 < l.length))) ∧ Ext w w' := by
  have hl := h.len
  by_cases hn : 65519 < n
  · have hI : (65519 : Int) < (n : Int) := by omega
    have e := Lib.hid (show decide (65519 < l.length) = true by simp; omega)
    clear hl
    go_enter Try.func97, Try.ntmps97
    go_wp2
    go_ret
    exact ⟨by rw [e.out]; rfl, Ext.refl _⟩
  · have hI : ¬ (65519 : Int) < (n : Int) := by omega
    have e := Lib.hid (show decide (65519 < l.length) = false by simp; omega)
    clear hl
    go_enter Try.func97, Try.ntmps97
    go_wp2
    go_ret
    exact ⟨by rw [e.out]; rfl, Ext.refl _⟩

def IdxLong (A : List (List UInt8)) (w : World) (e : Ending) (w' : World) : Prop := ∃ r : Int, e = .returned (.int .i64 r) ∧ (0 ≤ r ↔ longA A = true) ∧ Ext w w'
set_option maxRecDepth 100000 in
set_option maxHeartbeats 4000000 in
theorem indexLong_any (a : Option Addr) (n c : Nat) (A : List (List UInt8)) (w : World) (h : Bsc w a n A) (hn : n ≤ 1000000) :
    Calls Try.prog 102 #[.slice a n c, .func (.func 97) #[] #[]] w (IdxLong A w) := by
  have hl := h.len
  go_enter Try.func102, Try.ntmps102
  go_wp2_with fail
  go_loopw [8] (fun v8 wr => ∃ i : Nat, i ≤ n ∧ v8 = .int .i64 i ∧ Hid (longA (A.take i) = false) ∧ Ext w wr) (fun v8 _ => n - (intOf v8).toNat)
  case atStart => exact ⟨0, by omega, rfl, Lib.hid rfl, Ext.refl _⟩
  case round =>
    obtain ⟨i, hi, rfl, hm, hx⟩ := hrel
    obtain ⟨x, rfl⟩ := hx.out
    by_cases hlt : i < n
    · obtain ⟨b0, o0, a', n', c', rfl, hb0, hcell, hc', hS⟩ := (h.ext hx).at i hlt
      have i0 : (0 : Int) ≤ (i : Int) := by omega
      have i1 : (i : Int) < (n : Int) := by omega
      have hsu := Lib.hid (show longA (A.take (i + 1)) = decide (65519 < (A[i]'(by omega)).length) by
        rw [List.take_succ_eq_append_getElem (by omega)]
        unfold longA
        rw [List.any_append]
        have := hm.out
        unfold longA at this
        rw [this]; simp)
      have htr := Lib.hid (show longA (A.take (i + 1)) = true → longA A = true from fun h => by
        unfold longA at h ⊢
        obtain ⟨x, hx, hp⟩ := List.any_eq_true.1 h
        exact List.any_eq_true.2 ⟨x, List.mem_of_mem_take hx, hp⟩)
      go_wp2_with fail
      refine (long1_any _ _ _ _ _ hS).mono ?_; rintro e w1 ⟨rfl, hx1⟩
      obtain ⟨x1, rfl⟩ := hx1.out
      cases hb : decide (65519 < (A[i]'(by omega)).length)
      · have hm2 := Lib.hid (show longA (A.take (i + 1)) = false by rw [hsu.out, hb])
        clear hb
        go_wp2_with fail
        go_roundw
        case rel => exact ⟨i + 1, by omega, by go_num, hm2, (by repeat (first | (with_reducible first | exact Ext.refl _ | assumption | apply Ext.alloc | apply Ext.ext | apply Ext.drew | refine Ext.setCell ?_ ?_ _) | (focus (simp [go_sem]; done))))⟩
        case measure => simp [intOf]; omega
      · have hm2 := Lib.hid (show longA A = true from htr.out (by rw [hsu.out, hb]))
        clear hb
        go_wp2_with fail
        go_ret
        exact ⟨i, rfl, by rw [hm2.out]; simp, (by repeat (first | (with_reducible first | exact Ext.refl _ | assumption | apply Ext.alloc | apply Ext.ext | apply Ext.drew | refine Ext.setCell ?_ ?_ _) | (focus (simp [go_sem]; done))))⟩
    · obtain rfl : i = n := by omega
      have hlo := Lib.hid (show longA A = false by have := hm.out; rwa [List.take_of_length_le (by omega)] at this)
      go_wp2_with fail
      go_ret
      exact ⟨-1, rfl, by rw [hlo.out]; simp, (by repeat (first | (with_reducible first | exact Ext.refl _ | assumption | apply Ext.alloc | apply Ext.ext | apply Ext.drew | refine Ext.setCell ?_ ?_ _) | (focus (simp [go_sem]; done))))⟩

theorem containsLong_any (a : Option Addr) (n c : Nat) (A : List (List UInt8)) (w : World) (h : Bsc w a n A) (hn : n ≤ 1000000) :
    Calls Try.prog 96 #[.slice a n c, .func (.func 97) #[] #[]] w fun e w' => e = .returned (.bool (longA A)) ∧ Ext w w' := by
  go_enter Try.func96, Try.ntmps96
  go_wp2_with fail
  refine (indexLong_any _ _ _ _ _ h hn).mono ?_; rintro e w1 ⟨r, rfl, hr, hx1⟩
  have hd := Lib.hid (show decide (0 ≤ r) = longA A by rw [Bool.eq_iff_iff]; simpa using hr)
  clear hr
  go_wp2_with fail
  go_ret
  exact ⟨by rw [← hd.out]; rfl, hx1⟩

theorem ne32 {n : Nat} (h : n ≠ 32) : ((n : Int) != 32) = true := by rw [bne_iff_ne]; omega
set_option maxRecDepth 100000 in
set_option maxHeartbeats 4000000 in
theorem check_any (a b : Option Addr) (n c m d : Nat) (ky : List UInt8) (A : List (List UInt8)) (w : World) (hk : Sl w a n ky) (hA : Bsc w b m A) (hm : m ≤ 1000000) :
    Calls Try.prog 75 #[.slice a n c, .slice b m d] w fun e w' => e = .returned (.int .i64 (checkA ky A)) ∧ Ext w w' := by
  have hkl := hk.len
  have hAl := hA.len
  by_cases h1 : n = 32
  · by_cases h2 : 16 < m
    · have e := Lib.hid (show checkA ky A = 8 by unfold checkA; rw [if_neg (by omega), if_pos (by omega)])
      have hI : ((n : Int) != 32) = false := by rw [bne_eq_false_iff_eq]; omega
      have hI2 : (16 : Int) < (m : Int) := by omega
      clear hkl h1
      go_enter Try.func75, Try.ntmps75
      go_wp2_with fail
      go_ret
      exact ⟨by rw [e.out]; rfl, Ext.refl _⟩
    · cases hb : longA A
      all_goals
        have e := Lib.hid (show checkA ky A = if longA A then 2 else 0 by unfold checkA; rw [if_neg (by omega), if_neg (by omega)])
        rw [hb] at e
        have hI : ((n : Int) != 32) = false := by rw [bne_eq_false_iff_eq]; omega
        have hI2 : ¬ (16 : Int) < (m : Int) := by omega
        have hc := fun w h => containsLong_any b m d A w h hm
        rw [hb] at hc
        clear hkl h1 hb
        go_enter Try.func75, Try.ntmps75
        go_wp2_with (first | (go_at_call 96; (with_reducible refine (hc ?_ ?hq54).mono ?_); (case hq54 => (repeat' (first | with_reducible assumption | (refine bsc2 ?_ ?_ ?_ ?_ _; (· (repeat' (first | with_reducible assumption | (with_reducible exact zeros16 _) | (with_reducible exact sl_new1 _ _ _) | (with_reducible first | apply Sl.upE | apply Sl.upA | apply Sl.upD)))); (· omega); (· (repeat' (first | with_reducible assumption | (with_reducible exact zeros16 _) | (with_reducible exact sl_new1 _ _ _) | (with_reducible first | apply Sl.upE | apply Sl.upA | apply Sl.upD)))); (· omega)) | (with_reducible first | apply Bsc.upE | apply Bsc.upA | apply Bsc.upD)))); rintro e w1 ⟨rfl, hxq⟩; obtain ⟨xq, rfl⟩ := hxq.out; clear hxq) | fail)
        go_ret
        exact ⟨by rw [e.out]; rfl, (by repeat (first | (with_reducible first | exact Ext.refl _ | assumption | apply Ext.alloc | apply Ext.ext | apply Ext.drew | refine Ext.setCell ?_ ?_ _) | (focus (simp [go_sem]; done))))⟩
  · have e := Lib.hid (show checkA ky A = 5 by unfold checkA; rw [if_pos (by omega)])
    have hI := ne32 h1
    clear hkl h1
    go_enter Try.func75, Try.ntmps75
    go_wp2_with fail
    go_ret
    exact ⟨by rw [e.out]; rfl, Ext.refl _⟩

set_option maxRecDepth 100000 in
set_option maxHeartbeats 2000000 in
theorem cloneB_any (base : Nat) (a : Option Addr) (n c : Nat) (A : List (List UInt8)) (w : World) (h : RdB w base a n A) (hbase : base ≤ w.heap.size) (hn : n ≤ 1000000) :
    Calls Try.prog 76 #[.slice a n c] w fun e w' => ∃ a' c', e = .returned (.slice a' n c') ∧ OwnB w' base a' n c' A ∧ Ext w w' := by
  have hnil := fun W (a : Option Addr) (n c : Nat) => Lib.run_eql_slice_nil (P := Try.prog) W 40 22 a n c 0 0 Try.underlying40
  cases a with
  | none =>
    obtain rfl : n = 0 := by
      obtain ⟨_, xs, h2, h3, _⟩ := h
      rcases h3 with h3 | ⟨_, _, h3, _⟩
      · subst h3; simpa using h2.symm
      · cases h3
    obtain rfl : A = [] := List.eq_nil_of_length_eq_zero h.1
    go_enter Try.func76, Try.ntmps76
    go_wp2
    go_ret
    exact ⟨_, _, rfl, OwnB.nil _ _, (by repeat (first | (with_reducible first | exact Ext.refl _ | assumption | apply Ext.alloc | apply Ext.ext | apply Ext.drew | refine Ext.setCell ?_ ?_ _) | (focus (simp [go_sem]; done))))⟩
  | some ad =>
    go_enter Try.func76, Try.ntmps76
    go_wp2_with (at_builtin; refine wpList_append_bs V8 rfl _ _ rfl base _ 0 0 [] rfl _ n c A rfl ((OwnB.empty _).mono0 hbase) (h.ext (Ext.of_alloc _ _)) (by omega) (by simp; omega) ?_; intro sa2 sc2 w2 hO2 hg2 hB2)
    go_ret
    simp only [Nat.zero_add, List.nil_append] at hO2
    refine ⟨_, _, rfl, hO2, ?_⟩
    have hx0 : Ext w (w.alloc (.cells #[] 22)) := (by repeat (first | (with_reducible first | exact Ext.refl _ | assumption | apply Ext.alloc | apply Ext.ext | apply Ext.drew | refine Ext.setCell ?_ ?_ _) | (focus (simp [go_sem]; done))))
    exact Below.grown hx0 hg2 (by simp) (fun g hg => by have e : w.heap.size = g := Option.some.inj hg; omega)

set_option maxRecDepth 100000 in
set_option maxHeartbeats 4000000 in
theorem astream_any (a b c : Option Addr) (ca cb cc n : Nat) (ky t l : List UInt8) (w : World) (hk : Sl w a 32 ky) (hca : 32 ≤ ca) (ht : Sl w b 16 t) (hl : Sl w c n l) (hn : n ≤ 65535) :
    Calls Try.prog 73 #[.slice a 32 ca, .slice b 16 cb, .slice c n cc] w (Read2 n (stream (ky.drop 16) (ctrOf t) l) (.int .i64 0) w) := by
  have htl := ht.len
  obtain ⟨b0, o0, rfl, hb0, _⟩ := hk.at 0 (by omega)
  have hk2 : Sl w (some ⟨b0, o0 + 16, none⟩) 16 (ky.drop 16) := by
    have := hk.drop ca 16 hca
    unfold sAdr at this
    rw [if_neg (by omega)] at this
    simpa [addr_add] using this
  have hC := Lib.hid (show ctrOf t = (t.set 8 (at' t 8 &&& 127)).set 12 (at' t 12 &&& 127) from rfl)
  have h12 : (t.set 8 (at' t 8 &&& 127)).getD 12 0 = at' t 12 := by simp [at', List.getD, List.getElem?_set]
  have q : (16 : Int) ≤ (ca : Int) := by omega
  go_enter Try.func73, Try.ntmps73
  go_wp2_with fail; (with_reducible refine (clone_any _ 16 _ t _ ht (by omega)).mono ?_); rintro e w1 ⟨a1, c1, rfl, hO1, hx1⟩
  obtain ⟨g, rfl, hg, hgb, hcell8, hfr8, _⟩ := hO1.at 8 (by omega)
  obtain ⟨_, e1, _, _, hcell12, hfr12, _⟩ := hO1.at 12 (by omega)
  injection e1 with e1
  injection e1 with e1 _
  subst e1
  have hle := hO1.le
  have hO2 := hO1.put 8 (by omega) (at' t 8 &&& 127)
  have hO3 := hO2.put 12 (by omega) (at' t 12 &&& 127)
  rw [← hC.out] at hO3
  have hx3 : Ext w ((w1.setCell ⟨g, 8, none⟩ (.int .u8 (n8 (at' t 8 &&& 127)))).setCell ⟨g, 12, none⟩ (.int .u8 (n8 (at' t 12 &&& 127)))) := Ext.setCell (Ext.setCell hx1 hg _) hg _
  rw [show t.getD 8 0 = at' t 8 from rfl] at hcell8
  rw [show t.getD 12 0 = at' t 12 from rfl] at hcell12
  clear h12 hO1 hO2
  go_wp2_with fail
  (refine (stream_any _ _ _ _ _ _ n (ky.drop 16) (ctrOf t) l _ (hk2.ext hx3) (by omega) hO3.sl hle.1 (hl.ext hx3) hn).mono ?_; rintro e _ ⟨_, _, rfl, hS, hc, hx⟩)
  go_wp2_with fail
  go_ret2
  exact ⟨_, _, rfl, hS, hc, hx3.trans hx⟩
end Go.Proofs.Ythooaeeajeajnaa

/- Layer 6 of the program: Tag, Seal, Open. -/
namespace Go.Proofs.Ythooaeeajeajnaa
open Go.RowKit Go.Sec Go.Oct Go.Aes BigFrame

theorem ne0 {e : Int} (h : e ≠ 0) : (e != 0) = true := by rw [bne_iff_ne]; exact h

set_option maxRecDepth 100000 in
set_option maxHeartbeats 4000000 in
theorem tag_any (a b c : Option Addr) (n ca m cb k cc : Nat) (ky : List UInt8) (A : List (List UInt8)) (p : List UInt8) (w : World) (hk : Sl w a n ky) (hca : n ≤ ca) (hA : Bsc w b m A) (hm : m ≤ 1000000) (hp : Sl w c k p) (hkc : k ≤ cc) :
    Calls Try.prog 49 #[.slice a n ca, .slice b m cb, .slice c k cc] w (Read2 (tagE ky A p).1.length (tagE ky A p).1 (.int .i64 (tagE ky A p).2) w) := by
  have hc := fun w h1 h2 => check_any a b n ca m cb ky A w h1 h2 hm
  have hpl := hp.len
  by_cases h0 : checkA ky A = 0
  · rw [h0] at hc
    obtain ⟨h32, h16, hmx⟩ := checkA_ok h0
    rw [hk.len] at h32
    rw [hA.len] at h16
    subst h32
    by_cases hl : 65519 < k
    · have e : tagE ky A p = ([], 2) := by unfold tagE; rw [if_neg (by rw [h0]; simp), if_pos (by omega)]
      rw [e]
      have hI : (65519 : Int) < (k : Int) := by omega
      clear e h0 hmx hpl
      go_enter Try.func49, Try.ntmps49
      go_wp2_with (first | (go_at_call 75; (with_reducible refine (hc ?_ ?hq94 ?hq95).mono ?_); (case hq94 => (repeat' (first | with_reducible assumption | (with_reducible exact zeros16 _) | (with_reducible exact sl_new1 _ _ _) | (with_reducible first | apply Sl.upE | apply Sl.upA | apply Sl.upD)))); (case hq95 => (repeat' (first | with_reducible assumption | (refine bsc2 ?_ ?_ ?_ ?_ _; (· (repeat' (first | with_reducible assumption | (with_reducible exact zeros16 _) | (with_reducible exact sl_new1 _ _ _) | (with_reducible first | apply Sl.upE | apply Sl.upA | apply Sl.upD)))); (· omega); (· (repeat' (first | with_reducible assumption | (with_reducible exact zeros16 _) | (with_reducible exact sl_new1 _ _ _) | (with_reducible first | apply Sl.upE | apply Sl.upA | apply Sl.upD)))); (· omega)) | (with_reducible first | apply Bsc.upE | apply Bsc.upA | apply Bsc.upD)))); rintro e w1 ⟨rfl, hxq⟩; obtain ⟨xq, rfl⟩ := hxq.out; clear hxq) | fail)
      go_ret2
      exact read2_err _ _ _ (by repeat (first | (with_reducible first | exact Ext.refl _ | assumption | apply Ext.alloc | apply Ext.ext | apply Ext.drew | refine Ext.setCell ?_ ?_ _) | (focus (simp [go_sem]; done))))
    · rw [tagE_ok h0 (by omega)]
      show Calls _ _ _ _ (Read2 (s2v _ _).length _ _ _)
      rw [s2v_length]
      have hmax : ∀ x ∈ A ++ [p], x.length ≤ 65535 := by
        intro x hx
        rcases List.mem_append.1 hx with h | h
        · have := hmx x h; omega
        · simp only [List.mem_singleton] at h; subst h; omega
      have hI : decide ((65519 : Int) < (k : Int)) = false := by simp; omega
      have q : (16 : Int) ≤ (ca : Int) := by omega
      clear h0 hmx hpl
      go_enter Try.func49, Try.ntmps49
      go_wp2_with (first | (go_at_call 75; (with_reducible refine (hc ?_ ?hq96 ?hq97).mono ?_); (case hq96 => (repeat' (first | with_reducible assumption | (with_reducible exact zeros16 _) | (with_reducible exact sl_new1 _ _ _) | (with_reducible first | apply Sl.upE | apply Sl.upA | apply Sl.upD)))); (case hq97 => (repeat' (first | with_reducible assumption | (refine bsc2 ?_ ?_ ?_ ?_ _; (· (repeat' (first | with_reducible assumption | (with_reducible exact zeros16 _) | (with_reducible exact sl_new1 _ _ _) | (with_reducible first | apply Sl.upE | apply Sl.upA | apply Sl.upD)))); (· omega); (· (repeat' (first | with_reducible assumption | (with_reducible exact zeros16 _) | (with_reducible exact sl_new1 _ _ _) | (with_reducible first | apply Sl.upE | apply Sl.upA | apply Sl.upD)))); (· omega)) | (with_reducible first | apply Bsc.upE | apply Bsc.upA | apply Bsc.upD)))); rintro e w1 ⟨rfl, hxq⟩; obtain ⟨xq, rfl⟩ := hxq.out; clear hxq) | fail)
      have hxW : Ext w (w.ext xq) := (by repeat (first | (with_reducible first | exact Ext.refl _ | assumption | apply Ext.alloc | apply Ext.ext | apply Ext.drew | refine Ext.setCell ?_ ?_ _) | (focus (simp [go_sem]; done))))
      generalize w.ext xq = W at *
      have hkW := (hk.ext hxW).take 16 (by omega)
      have hRB := (hA.ext hxW).rdB
      have hpW := hp.ext hxW
      have hSE : ∀ w', Ext (W) w' → (Ext (W)) w' := (fun _ h => h); have hExt0 : Ext (W) (W).drew := Ext.drew (Ext.refl _); refine wp_region_held_drew (S := Ext (W)) (by kernel_rfl) (hSE _ hExt0) (fun hHeld => ?_)
      refine wpAnyH_take (i := 0) (v := ?v55) rfl (by kernel_rfl) (by kernel_rfl) (by kernel_rfl) (fun _ _ _ h => h) (Or.inl ⟨by rfl, ?hy55⟩) hHeld ?_; (case hy55 => (intro w' hx; simp [go_sem, execOp, *]; (try simp (disch := omega) only [Go.IntWalk.i64_in, Go.IntWalk.rem_in, Go.IntWalk.wrap64_in]); rfl)); (try simp only [List.getElem_toArray, List.getElem_cons_succ, List.getElem_cons_zero, Act.put, List.setIfInBounds_toArray, List.set_cons_succ, List.set_cons_zero])
      refine wpAnyH_take (i := 1) (v := ?v56) rfl (by kernel_rfl) (by kernel_rfl) (by kernel_rfl) (fun _ _ _ h => h) (Or.inl ⟨by rfl, ?hy56⟩) hHeld ?_; (case hy56 => (intro w' hx; simp [go_sem, execOp, *]; (try simp (disch := omega) only [Go.IntWalk.i64_in, Go.IntWalk.rem_in, Go.IntWalk.wrap64_in]); rfl)); (try simp only [List.getElem_toArray, List.getElem_cons_succ, List.getElem_cons_zero, Act.put, List.setIfInBounds_toArray, List.set_cons_succ, List.set_cons_zero])
      refine wpAnyH_take (i := 2) (v := ?v57) rfl (by kernel_rfl) (by kernel_rfl) (by kernel_rfl) (fun _ _ _ h => h) (Or.inl ⟨by rfl, ?hy57⟩) hHeld ?_; (case hy57 => (intro w' hx; simp [go_sem, execOp, *]; (try simp (disch := omega) only [Go.IntWalk.i64_in, Go.IntWalk.rem_in, Go.IntWalk.wrap64_in]); rfl)); (try simp only [List.getElem_toArray, List.getElem_cons_succ, List.getElem_cons_zero, Act.put, List.setIfInBounds_toArray, List.set_cons_succ, List.set_cons_zero])
      refine wpAnyH_take (i := 4) (v := ?v58) rfl (by kernel_rfl) (by kernel_rfl) (by kernel_rfl) (fun _ _ _ h => h) (Or.inl ⟨by rfl, ?hy58⟩) hHeld ?_; (case hy58 => (intro w' hx; simp [go_sem, execOp, *]; (try simp (disch := omega) only [Go.IntWalk.i64_in, Go.IntWalk.rem_in, Go.IntWalk.wrap64_in]); rfl)); (try simp only [List.getElem_toArray, List.getElem_cons_succ, List.getElem_cons_zero, Act.put, List.setIfInBounds_toArray, List.set_cons_succ, List.set_cons_zero])
      refine R5.any_late2 6 8 [[], [0], [], [2], [], [4], [2, 3, 4, 5], [0, 1, 2, 3, 4, 5, 6], [0, 1, 2, 3, 4, 5, 6, 7], [0, 1, 2, 3, 4, 5, 6, 7], [0, 1, 2, 3, 4, 5, 6, 7, 8, 9], [0, 1, 2, 3, 4, 5, 6, 7, 8, 9, 10]] [0, 1, 2, 4] #[true, true, true, true, true, true, true, true, false, false, false, false] 4 hExt0 hSE (by kernel_rfl) (by kernel_rfl) (by kernel_rfl) (by kernel_rfl) (by kernel_rfl) (by kernel_rfl) ?_; simp only [List.take_succ_cons, List.take_zero, List.drop_succ_cons, List.drop_zero, List.take_nil, List.drop_nil, Nat.reduceSub]
      refine R5.VD_taken rfl ?_
      refine R5.VD_taken rfl ?_
      refine R5.VD_taken rfl ?_
      (refine R5.VD_vag rfl (fun p => .slice (p 0).1 m (p 0).2) (fun p w'' => OwnB w'' W.heap.size (p 0).1 m (p 0).2 A) (fun p w w' h hx => h.ext hx) (fun us w' hx hf => ⟨rfl, ?_⟩) ?_; (unfold gives; simp [go_sem, execOp]; exact R5.vag_rows (cloneB_any W.heap.size _ _ _ _ _ (hRB.ext hx) hx.size (by omega))))
      refine R5.VD_taken rfl ?_
      (refine R5.VD_vag rfl (fun p => .slice (p 0).1 1 1) (fun p w'' => Rd w'' (p 0).1 [.slice c k cc]) (fun p w w' h hx => h.ext hx) (fun us w' hx hf => ⟨rfl, ?_⟩) ?_; (unfold gives; simp [go_sem, execOp]; exact ⟨fun _ => (some ⟨w'.heap.size, 0, none⟩, 0), rfl, Ext.of_alloc _ _, (Blk.new _ _ _).rd⟩))
      (refine R5.VD_nil ?_; intro us w' hx hf; obtain ⟨x, rfl⟩ := hx.out; (try simp only [Act.put, List.setIfInBounds_toArray, List.set_cons_succ, List.set_cons_zero, wpList_none]); (try simp only [List.mem_cons, List.not_mem_nil, or_false, forall_eq_or_imp, forall_eq, List.nil_append, List.cons_append, List.mem_append, false_or, true_and, and_true] at hf); (try simp only [Nat.reduceAdd, Nat.zero_add] at hf); (try simp only [Nat.reduceAdd, Nat.zero_add]))
      obtain ⟨hO1, hR2⟩ := hf
      (refine R5.chain_append_bs hSE V8 rfl rfl _ _ rfl (W.heap.size) _ m _ (A) rfl _ 1 1 ([p]) rfl (hO1) (RdB.one hR2 (hpW.ext hx) hkc (hpW.inB _)) (by omega) (hx.size) (Nat.le_refl _) (hx) ?_; intro sa2 sc2 w2 hOa hg2 hB2 hx2)
      have hBs := hOa.bsc
      have hle := hOa.le
      have hk2 := hkW.ext hx2
      (refine R5.chain_cons rfl rfl ?_; unfold gives; simp [go_sem, execOp]; (with_reducible refine (vector_any ?_ ?_ ?_ ?_ ?_ (ky.take 16) (A ++ [p]) ?_ ?hq63 ?hq64 ?hq65 ?hq66 ?hq67 hmax).mono ?_); (case hq63 => (repeat' (first | with_reducible assumption | (with_reducible exact zeros16 _) | (with_reducible exact sl_new1 _ _ _) | (with_reducible first | apply Sl.upE | apply Sl.upA | apply Sl.upD)))); (case hq65 => (repeat' (first | with_reducible assumption | (refine bsc2 ?_ ?_ ?_ ?_ _; (· (repeat' (first | with_reducible assumption | (with_reducible exact zeros16 _) | (with_reducible exact sl_new1 _ _ _) | (with_reducible first | apply Sl.upE | apply Sl.upA | apply Sl.upD)))); (· omega); (· (repeat' (first | with_reducible assumption | (with_reducible exact zeros16 _) | (with_reducible exact sl_new1 _ _ _) | (with_reducible first | apply Sl.upE | apply Sl.upA | apply Sl.upD)))); (· omega)) | (with_reducible first | apply Bsc.upE | apply Bsc.upA | apply Bsc.upD)))); (case hq64 => omega); (case hq66 => omega); (case hq67 => omega); rintro e _ ⟨_, _, rfl, hS, hc, hx⟩; obtain ⟨_, rfl⟩ := hx.out; clear hx; refine ⟨_, rfl, hSE _ (by repeat (first | (with_reducible first | exact Ext.refl _ | assumption | apply Ext.alloc | apply Ext.ext | apply Ext.drew | refine Ext.setCell ?_ ?_ _) | (focus (simp [go_sem]; done)))), ?_⟩; (try simp only [List.getElem_toArray, List.getElem_cons_succ, List.getElem_cons_zero, Act.put, List.setIfInBounds_toArray, List.set_cons_succ, List.set_cons_zero]))
      (refine R5.chain_nil ?_)
      refine wpAnyH_take (i := 8) (v := ?v59) rfl (by kernel_rfl) (by kernel_rfl) (by kernel_rfl) (fun _ _ _ h => h) (Or.inl ⟨by rfl, ?hy59⟩) (hSE _ (by repeat (first | (with_reducible first | exact Ext.refl _ | assumption | apply Ext.alloc | apply Ext.ext | apply Ext.drew | refine Ext.setCell ?_ ?_ _) | (focus (simp [go_sem]; done))))) ?_; (case hy59 => (intro w' hx; simp [go_sem, execOp, *]; (try simp (disch := omega) only [Go.IntWalk.i64_in, Go.IntWalk.rem_in, Go.IntWalk.wrap64_in]); rfl)); (try simp only [List.getElem_toArray, List.getElem_cons_succ, List.getElem_cons_zero, Act.put, List.setIfInBounds_toArray, List.set_cons_succ, List.set_cons_zero])
      refine wpAnyH_take (i := 9) (v := ?v60) rfl (by kernel_rfl) (by kernel_rfl) (by kernel_rfl) (fun _ _ _ h => h) (Or.inl ⟨by rfl, ?hy60⟩) (hSE _ (by repeat (first | (with_reducible first | exact Ext.refl _ | assumption | apply Ext.alloc | apply Ext.ext | apply Ext.drew | refine Ext.setCell ?_ ?_ _) | (focus (simp [go_sem]; done))))) ?_; (case hy60 => (intro w' hx; simp [go_sem, execOp, *]; (try simp (disch := omega) only [Go.IntWalk.i64_in, Go.IntWalk.rem_in, Go.IntWalk.wrap64_in]); rfl)); (try simp only [List.getElem_toArray, List.getElem_cons_succ, List.getElem_cons_zero, Act.put, List.setIfInBounds_toArray, List.set_cons_succ, List.set_cons_zero])
      refine wpAnyH_take (i := 10) (v := ?v61) rfl (by kernel_rfl) (by kernel_rfl) (by kernel_rfl) (fun _ _ _ h => h) (Or.inl ⟨by rfl, ?hy61⟩) (hSE _ (by repeat (first | (with_reducible first | exact Ext.refl _ | assumption | apply Ext.alloc | apply Ext.ext | apply Ext.drew | refine Ext.setCell ?_ ?_ _) | (focus (simp [go_sem]; done))))) ?_; (case hy61 => (intro w' hx; simp [go_sem, execOp, *]; (try simp (disch := omega) only [Go.IntWalk.i64_in, Go.IntWalk.rem_in, Go.IntWalk.wrap64_in]); rfl)); (try simp only [List.getElem_toArray, List.getElem_cons_succ, List.getElem_cons_zero, Act.put, List.setIfInBounds_toArray, List.set_cons_succ, List.set_cons_zero])
      refine wpAnyH_take (i := 11) (v := ?v62) rfl (by kernel_rfl) (by kernel_rfl) (by kernel_rfl) (fun _ _ _ h => h) (Or.inl ⟨by rfl, ?hy62⟩) (hSE _ (by repeat (first | (with_reducible first | exact Ext.refl _ | assumption | apply Ext.alloc | apply Ext.ext | apply Ext.drew | refine Ext.setCell ?_ ?_ _) | (focus (simp [go_sem]; done))))) ?_; (case hy62 => (intro w' hx; simp [go_sem, execOp, *]; (try simp (disch := omega) only [Go.IntWalk.i64_in, Go.IntWalk.rem_in, Go.IntWalk.wrap64_in]); rfl)); (try simp only [List.getElem_toArray, List.getElem_cons_succ, List.getElem_cons_zero, Act.put, List.setIfInBounds_toArray, List.set_cons_succ, List.set_cons_zero])
      refine wpAnyH_done (by kernel_rfl) ?_ _
      go_wp2
      go_ret2
      exact ⟨_, _, rfl, hS, hc, hxW.trans (by repeat (first | (with_reducible first | exact Ext.refl _ | assumption | apply Ext.alloc | apply Ext.ext | apply Ext.drew | refine Ext.setCell ?_ ?_ _) | (focus (simp [go_sem]; done))))⟩
  · have e : tagE ky A p = ([], checkA ky A) := by unfold tagE; rw [if_pos h0]
    rw [e]
    have hI := ne0 h0
    generalize checkA ky A = v at *
    clear e h0
    go_enter Try.func49, Try.ntmps49
    go_wp2_with (first | (go_at_call 75; (with_reducible refine (hc ?_ ?hq98 ?hq99).mono ?_); (case hq98 => (repeat' (first | with_reducible assumption | (with_reducible exact zeros16 _) | (with_reducible exact sl_new1 _ _ _) | (with_reducible first | apply Sl.upE | apply Sl.upA | apply Sl.upD)))); (case hq99 => (repeat' (first | with_reducible assumption | (refine bsc2 ?_ ?_ ?_ ?_ _; (· (repeat' (first | with_reducible assumption | (with_reducible exact zeros16 _) | (with_reducible exact sl_new1 _ _ _) | (with_reducible first | apply Sl.upE | apply Sl.upA | apply Sl.upD)))); (· omega); (· (repeat' (first | with_reducible assumption | (with_reducible exact zeros16 _) | (with_reducible exact sl_new1 _ _ _) | (with_reducible first | apply Sl.upE | apply Sl.upA | apply Sl.upD)))); (· omega)) | (with_reducible first | apply Bsc.upE | apply Bsc.upA | apply Bsc.upD)))); rintro e w1 ⟨rfl, hxq⟩; obtain ⟨xq, rfl⟩ := hxq.out; clear hxq) | fail)
    go_ret2
    exact read2_err _ _ _ (by repeat (first | (with_reducible first | exact Ext.refl _ | assumption | apply Ext.alloc | apply Ext.ext | apply Ext.drew | refine Ext.setCell ?_ ?_ _) | (focus (simp [go_sem]; done))))

set_option maxRecDepth 100000 in
set_option maxHeartbeats 4000000 in
theorem seal_any (a b c : Option Addr) (n ca m cb k cc : Nat) (ky : List UInt8) (A : List (List UInt8)) (p : List UInt8) (w : World) (hk : Sl w a n ky) (hca : n ≤ ca) (hA : Bsc w b m A) (hm : m ≤ 1000000) (hp : Sl w c k p) (hkc : k ≤ cc) :
    Calls Try.prog 47 #[.slice a n ca, .slice b m cb, .slice c k cc] w (Read2 (sealE ky A p).1.length (sealE ky A p).1 (.int .i64 (sealE ky A p).2) w) := by
  have ht := fun w h1 h3 h5 => tag_any a b c n ca m cb k cc ky A p w h1 hca h3 hm h5 hkc
  by_cases h0 : (tagE ky A p).2 = 0
  · obtain ⟨h16, hck, hpl⟩ := tagE_len h0
    obtain ⟨h32, _, _⟩ := checkA_ok hck
    rw [hk.len] at h32
    rw [hp.len] at hpl
    subst h32
    have e := Lib.hid (show sealE ky A p = ((tagE ky A p).1 ++ stream (ky.drop 16) (ctrOf (tagE ky A p).1) p, 0) by unfold sealE; rw [if_neg (by simpa using h0)])
    rw [h0, h16] at ht
    have hsl := stream_length (ky.drop 16) (ctrOf (tagE ky A p).1) p
    rw [hp.len] at hsl
    have hst := fun a1 c1 w h1 h2 h3 h4 => astream_any a a1 c ca c1 cc k ky (tagE ky A p).1 p w h1 h2 h3 h4 (by omega)
    generalize stream (ky.drop 16) (ctrOf (tagE ky A p).1) p = st at *
    generalize (tagE ky A p).1 = tg at *
    rw [e.out]
    have hll : (tg ++ st).length = 16 + k := by rw [List.length_append, h16, hsl]
    show Calls _ _ _ _ (Read2 (tg ++ st).length _ _ _)
    rw [hll]
    clear h0 hck
    have hj : joinL [tg, st] = tg ++ st := by simp [joinL]
    have hjl : (joinL [tg, st]).length = 16 + k := by rw [hj, hll]
    have HJ := Lib.hid hj
    clear hj
    go_enter Try.func47, Try.ntmps47
    go_wp2_with (first
      | (go_at_call 49; (with_reducible refine (ht ?_ ?hq68 ?hq69 ?hq70).mono ?_); (case hq68 => (repeat' (first | with_reducible assumption | (with_reducible exact zeros16 _) | (with_reducible exact sl_new1 _ _ _) | (with_reducible first | apply Sl.upE | apply Sl.upA | apply Sl.upD)))); (case hq69 => (repeat' (first | with_reducible assumption | (refine bsc2 ?_ ?_ ?_ ?_ _; (· (repeat' (first | with_reducible assumption | (with_reducible exact zeros16 _) | (with_reducible exact sl_new1 _ _ _) | (with_reducible first | apply Sl.upE | apply Sl.upA | apply Sl.upD)))); (· omega); (· (repeat' (first | with_reducible assumption | (with_reducible exact zeros16 _) | (with_reducible exact sl_new1 _ _ _) | (with_reducible first | apply Sl.upE | apply Sl.upA | apply Sl.upD)))); (· omega)) | (with_reducible first | apply Bsc.upE | apply Bsc.upA | apply Bsc.upD)))); (case hq70 => (repeat' (first | with_reducible assumption | (with_reducible exact zeros16 _) | (with_reducible exact sl_new1 _ _ _) | (with_reducible first | apply Sl.upE | apply Sl.upA | apply Sl.upD)))); rintro e _ ⟨_, _, rfl, hS, hc, hx⟩; obtain ⟨_, rfl⟩ := hx.out; clear hx)
      | (go_at_call 73; (with_reducible refine (hst ?_ ?_ ?_ ?hq71 ?hq72 ?hq73 ?hq74).mono ?_); (case hq71 => (repeat' (first | with_reducible assumption | (with_reducible exact zeros16 _) | (with_reducible exact sl_new1 _ _ _) | (with_reducible first | apply Sl.upE | apply Sl.upA | apply Sl.upD)))); (case hq73 => (repeat' (first | with_reducible assumption | (with_reducible exact zeros16 _) | (with_reducible exact sl_new1 _ _ _) | (with_reducible first | apply Sl.upE | apply Sl.upA | apply Sl.upD)))); (case hq74 => (repeat' (first | with_reducible assumption | (with_reducible exact zeros16 _) | (with_reducible exact sl_new1 _ _ _) | (with_reducible first | apply Sl.upE | apply Sl.upA | apply Sl.upD)))); (case hq72 => omega); rintro e _ ⟨_, _, rfl, hS, hc, hx⟩; obtain ⟨_, rfl⟩ := hx.out; clear hx)
      | fail)
    (with_reducible refine (ojoin_any _ _ _ [tg, st] _ (bss2 ?h1 ?h2 _) (by omega) (16 + k) hjl (by omega)).mono ?_)
    case h1 => exact (by (repeat' (first | with_reducible assumption | (with_reducible exact zeros16 _) | (with_reducible exact sl_new1 _ _ _) | (with_reducible first | apply Sl.upE | apply Sl.upA | apply Sl.upD))))
    case h2 => exact (by (repeat' (first | with_reducible assumption | (with_reducible exact zeros16 _) | (with_reducible exact sl_new1 _ _ _) | (with_reducible first | apply Sl.upE | apply Sl.upA | apply Sl.upD))))
    rintro e _ ⟨_, _, rfl, hO, hx⟩
    obtain ⟨_, rfl⟩ := hx.out
    clear hx
    go_wp2
    rw [HJ.out] at hO
    go_ret2
    exact ⟨_, _, rfl, hO.sl, hO.le.1, (by repeat (first | (with_reducible first | exact Ext.refl _ | assumption | apply Ext.alloc | apply Ext.ext | apply Ext.drew | refine Ext.setCell ?_ ?_ _) | (focus (simp [go_sem]; done))))⟩
  · have e : sealE ky A p = ([], (tagE ky A p).2) := by unfold sealE; rw [if_pos h0]
    rw [e]
    have hI := ne0 h0
    generalize (tagE ky A p).2 = v at *
    generalize (tagE ky A p).1 = tg at *
    clear e h0
    go_enter Try.func47, Try.ntmps47
    go_wp2_with (first | (go_at_call 49; (with_reducible refine (ht ?_ ?hq75 ?hq76 ?hq77).mono ?_); (case hq75 => (repeat' (first | with_reducible assumption | (with_reducible exact zeros16 _) | (with_reducible exact sl_new1 _ _ _) | (with_reducible first | apply Sl.upE | apply Sl.upA | apply Sl.upD)))); (case hq76 => (repeat' (first | with_reducible assumption | (refine bsc2 ?_ ?_ ?_ ?_ _; (· (repeat' (first | with_reducible assumption | (with_reducible exact zeros16 _) | (with_reducible exact sl_new1 _ _ _) | (with_reducible first | apply Sl.upE | apply Sl.upA | apply Sl.upD)))); (· omega); (· (repeat' (first | with_reducible assumption | (with_reducible exact zeros16 _) | (with_reducible exact sl_new1 _ _ _) | (with_reducible first | apply Sl.upE | apply Sl.upA | apply Sl.upD)))); (· omega)) | (with_reducible first | apply Bsc.upE | apply Bsc.upA | apply Bsc.upD)))); (case hq77 => (repeat' (first | with_reducible assumption | (with_reducible exact zeros16 _) | (with_reducible exact sl_new1 _ _ _) | (with_reducible first | apply Sl.upE | apply Sl.upA | apply Sl.upD)))); rintro e _ ⟨_, _, rfl, hS, hc, hx⟩; obtain ⟨_, rfl⟩ := hx.out; clear hx) | fail)
    go_ret2
    exact read2_err _ _ _ (by repeat (first | (with_reducible first | exact Ext.refl _ | assumption | apply Ext.alloc | apply Ext.ext | apply Ext.drew | refine Ext.setCell ?_ ?_ _) | (focus (simp [go_sem]; done))))

set_option maxRecDepth 100000 in
set_option maxHeartbeats 4000000 in
theorem open_any (a b c : Option Addr) (n ca m cb k cc : Nat) (ky : List UInt8) (A : List (List UInt8)) (s : List UInt8) (w : World) (hk : Sl w a n ky) (hca : n ≤ ca) (hA : Bsc w b m A) (hm : m ≤ 1000000) (hs : Sl w c k s) (hkc : k ≤ cc) :
    Calls Try.prog 52 #[.slice a n ca, .slice b m cb, .slice c k cc] w (Read2 (openE ky A s).1.length (openE ky A s).1 (.int .i64 (openE ky A s).2) w) := by
  have hc := fun w h1 h2 => check_any a b n ca m cb ky A w h1 h2 hm
  have hsl := hs.len
  by_cases h0 : checkA ky A = 0
  · obtain ⟨h32, _, _⟩ := checkA_ok h0
    rw [hk.len] at h32
    subst h32
    by_cases hl : 65535 < k
    · have e : openE ky A s = ([], 2) := by unfold openE; rw [if_neg (by rw [h0]; simp), if_pos (by omega)]
      rw [e]
      rw [h0] at hc
      have hI : (65535 : Int) < (k : Int) := by omega
      clear e h0 hsl
      go_enter Try.func52, Try.ntmps52
      go_wp2_with (first | (go_at_call 75; (with_reducible refine (hc ?_ ?hq100 ?hq101).mono ?_); (case hq100 => (repeat' (first | with_reducible assumption | (with_reducible exact zeros16 _) | (with_reducible exact sl_new1 _ _ _) | (with_reducible first | apply Sl.upE | apply Sl.upA | apply Sl.upD)))); (case hq101 => (repeat' (first | with_reducible assumption | (refine bsc2 ?_ ?_ ?_ ?_ _; (· (repeat' (first | with_reducible assumption | (with_reducible exact zeros16 _) | (with_reducible exact sl_new1 _ _ _) | (with_reducible first | apply Sl.upE | apply Sl.upA | apply Sl.upD)))); (· omega); (· (repeat' (first | with_reducible assumption | (with_reducible exact zeros16 _) | (with_reducible exact sl_new1 _ _ _) | (with_reducible first | apply Sl.upE | apply Sl.upA | apply Sl.upD)))); (· omega)) | (with_reducible first | apply Bsc.upE | apply Bsc.upA | apply Bsc.upD)))); rintro e w1 ⟨rfl, hxq⟩; obtain ⟨xq, rfl⟩ := hxq.out; clear hxq) | fail)
      go_ret2
      exact read2_err _ _ _ (by repeat (first | (with_reducible first | exact Ext.refl _ | assumption | apply Ext.alloc | apply Ext.ext | apply Ext.drew | refine Ext.setCell ?_ ?_ _) | (focus (simp [go_sem]; done))))
    · by_cases h16 : k < 16
      · have e : openE ky A s = ([], 1) := by unfold openE; rw [if_neg (by rw [h0]; simp), if_neg (by omega), if_pos (by omega)]
        rw [e]
        rw [h0] at hc
        have hI : ¬ (65535 : Int) < (k : Int) := by omega
        have hcut := fun w => cut_no c k cc 16 w (.inr (by omega))
        clear e h0 hsl
        go_enter Try.func52, Try.ntmps52
        go_wp2_with (first | (go_at_call 75; (with_reducible refine (hc ?_ ?hq102 ?hq103).mono ?_); (case hq102 => (repeat' (first | with_reducible assumption | (with_reducible exact zeros16 _) | (with_reducible exact sl_new1 _ _ _) | (with_reducible first | apply Sl.upE | apply Sl.upA | apply Sl.upD)))); (case hq103 => (repeat' (first | with_reducible assumption | (refine bsc2 ?_ ?_ ?_ ?_ _; (· (repeat' (first | with_reducible assumption | (with_reducible exact zeros16 _) | (with_reducible exact sl_new1 _ _ _) | (with_reducible first | apply Sl.upE | apply Sl.upA | apply Sl.upD)))); (· omega); (· (repeat' (first | with_reducible assumption | (with_reducible exact zeros16 _) | (with_reducible exact sl_new1 _ _ _) | (with_reducible first | apply Sl.upE | apply Sl.upA | apply Sl.upD)))); (· omega)) | (with_reducible first | apply Bsc.upE | apply Bsc.upA | apply Bsc.upD)))); rintro e w1 ⟨rfl, hxq⟩; obtain ⟨xq, rfl⟩ := hxq.out; clear hxq) | (go_at_call 79; refine (hcut _).mono ?_; rintro e w1 ⟨rfl, hxq⟩; obtain ⟨xq, rfl⟩ := hxq.out; clear hxq) | fail)
        go_ret2
        exact read2_err _ _ _ (by repeat (first | (with_reducible first | exact Ext.refl _ | assumption | apply Ext.alloc | apply Ext.ext | apply Ext.drew | refine Ext.setCell ?_ ?_ _) | (focus (simp [go_sem]; done))))
      · have e := Lib.hid (show openE ky A s = if (tagE ky A (plainOf ky s)).1 = s.take 16 then (plainOf ky s, 0) else ([], 6) by unfold openE; rw [if_neg (by rw [h0]; simp), if_neg (by omega), if_neg (by omega)])
        have htg : tagE ky A (plainOf ky s) = (s2v (ky.take 16) (A ++ [plainOf ky s]), 0) := tagE_ok h0 (by rw [plainOf_length]; omega)
        have ht := fun c cc w h1 h3 h5 h6 => tag_any a b c 32 ca m cb (k - 16) cc ky A (plainOf ky s) w h1 hca h3 hm h5 h6
        have hts : (s.take 16).length = 16 := by simp; omega
        have hpo : plainOf ky s = stream (ky.drop 16) (ctrOf (s.take 16)) (s.drop 16) := rfl
        have hst := fun a1 c1 a2 c2 w h1 h2 h3 h4 => astream_any a a1 a2 ca c1 c2 (k - 16) ky (s.take 16) (s.drop 16) w h1 h2 h3 h4 (by omega)
        rw [← hpo] at hst
        rw [htg] at ht
        rw [htg] at e
        have hpl : (plainOf ky s).length = k - 16 := by rw [plainOf_length]; omega
        have htl := s2v_length (ky.take 16) (A ++ [plainOf ky s])
        rw [h0] at hc
        have hI : ¬ (65535 : Int) < (k : Int) := by omega
        have hcut := fun w h => cut_ok c k cc s 16 w h (by omega) (by omega) hkc
        simp only [Int.cast_ofNat_Int] at hcut
        simp only at ht e
        rw [htl] at ht
        generalize s2v (ky.take 16) (A ++ [plainOf ky s]) = tg at *
        generalize plainOf ky s = pl at *
        generalize s.take 16 = s0 at *
        generalize s.drop 16 = s1 at *
        clear htg h0 hpo hsl
        rw [e.out]
        by_cases he : tg = s0
        · rw [if_pos he]
          show Calls _ _ _ _ (Read2 pl.length _ _ _)
          rw [hpl]
          have hb : (tg == s0) = true := by simpa using he
          clear he
          clear e
          go_enter Try.func52, Try.ntmps52
          go_wp2_with (first | (go_at_call 75; (with_reducible refine (hc ?_ ?hq104 ?hq105).mono ?_); (case hq104 => (repeat' (first | with_reducible assumption | (with_reducible exact zeros16 _) | (with_reducible exact sl_new1 _ _ _) | (with_reducible first | apply Sl.upE | apply Sl.upA | apply Sl.upD)))); (case hq105 => (repeat' (first | with_reducible assumption | (refine bsc2 ?_ ?_ ?_ ?_ _; (· (repeat' (first | with_reducible assumption | (with_reducible exact zeros16 _) | (with_reducible exact sl_new1 _ _ _) | (with_reducible first | apply Sl.upE | apply Sl.upA | apply Sl.upD)))); (· omega); (· (repeat' (first | with_reducible assumption | (with_reducible exact zeros16 _) | (with_reducible exact sl_new1 _ _ _) | (with_reducible first | apply Sl.upE | apply Sl.upA | apply Sl.upD)))); (· omega)) | (with_reducible first | apply Bsc.upE | apply Bsc.upA | apply Bsc.upD)))); rintro e w1 ⟨rfl, hxq⟩; obtain ⟨xq, rfl⟩ := hxq.out; clear hxq) | fail)
          refine (hcut _ (by (repeat' (first | with_reducible assumption | (with_reducible exact zeros16 _) | (with_reducible exact sl_new1 _ _ _) | (with_reducible first | apply Sl.upE | apply Sl.upA | apply Sl.upD))))).mono ?_
          rintro e _ ⟨_, _, _, _, rfl, hO1, hO2, hx⟩
          obtain ⟨_, rfl⟩ := hx.out
          have hl1 := hO1.le
          have hl2 := hO2.le
          have hS1 := hO1.sl
          have hS2 := hO2.sl
          clear hO1 hO2 hx
          go_wp2_with (first
            | (go_at_call 73; (with_reducible refine (hst ?_ ?_ ?_ ?_ ?_ ?hq78 ?hq79 ?hq80 ?hq81).mono ?_); (case hq78 => (repeat' (first | with_reducible assumption | (with_reducible exact zeros16 _) | (with_reducible exact sl_new1 _ _ _) | (with_reducible first | apply Sl.upE | apply Sl.upA | apply Sl.upD)))); (case hq80 => (repeat' (first | with_reducible assumption | (with_reducible exact zeros16 _) | (with_reducible exact sl_new1 _ _ _) | (with_reducible first | apply Sl.upE | apply Sl.upA | apply Sl.upD)))); (case hq81 => (repeat' (first | with_reducible assumption | (with_reducible exact zeros16 _) | (with_reducible exact sl_new1 _ _ _) | (with_reducible first | apply Sl.upE | apply Sl.upA | apply Sl.upD)))); (case hq79 => omega); rintro e _ ⟨_, _, rfl, hS, hc, hx⟩; obtain ⟨_, rfl⟩ := hx.out; clear hx)
            | (go_at_call 49; (with_reducible refine (ht ?_ ?_ ?_ ?hq82 ?hq83 ?hq84 ?hq85).mono ?_); (case hq82 => (repeat' (first | with_reducible assumption | (with_reducible exact zeros16 _) | (with_reducible exact sl_new1 _ _ _) | (with_reducible first | apply Sl.upE | apply Sl.upA | apply Sl.upD)))); (case hq83 => (repeat' (first | with_reducible assumption | (refine bsc2 ?_ ?_ ?_ ?_ _; (· (repeat' (first | with_reducible assumption | (with_reducible exact zeros16 _) | (with_reducible exact sl_new1 _ _ _) | (with_reducible first | apply Sl.upE | apply Sl.upA | apply Sl.upD)))); (· omega); (· (repeat' (first | with_reducible assumption | (with_reducible exact zeros16 _) | (with_reducible exact sl_new1 _ _ _) | (with_reducible first | apply Sl.upE | apply Sl.upA | apply Sl.upD)))); (· omega)) | (with_reducible first | apply Bsc.upE | apply Bsc.upA | apply Bsc.upD)))); (case hq84 => (repeat' (first | with_reducible assumption | (with_reducible exact zeros16 _) | (with_reducible exact sl_new1 _ _ _) | (with_reducible first | apply Sl.upE | apply Sl.upA | apply Sl.upD)))); (case hq85 => omega); rintro e _ ⟨_, _, rfl, hS, hc, hx⟩; obtain ⟨_, rfl⟩ := hx.out; clear hx)
            | (go_at_call 80; (with_reducible refine (osame_any ?_ ?_ ?_ ?_ ?_ ?_ tg s0 ?_ ?hq106 ?hq107).mono ?_); (case hq106 => (repeat' (first | with_reducible assumption | (with_reducible exact zeros16 _) | (with_reducible exact sl_new1 _ _ _) | (with_reducible first | apply Sl.upE | apply Sl.upA | apply Sl.upD)))); (case hq107 => (repeat' (first | with_reducible assumption | (with_reducible exact zeros16 _) | (with_reducible exact sl_new1 _ _ _) | (with_reducible first | apply Sl.upE | apply Sl.upA | apply Sl.upD)))); rintro e w1 ⟨rfl, hxq⟩; obtain ⟨xq, rfl⟩ := hxq.out; clear hxq)
            | fail)
          go_ret2
          exact ⟨_, _, rfl, (by (repeat' (first | with_reducible assumption | (with_reducible exact zeros16 _) | (with_reducible exact sl_new1 _ _ _) | (with_reducible first | apply Sl.upE | apply Sl.upA | apply Sl.upD)))), by omega, (by repeat (first | (with_reducible first | exact Ext.refl _ | assumption | apply Ext.alloc | apply Ext.ext | apply Ext.drew | refine Ext.setCell ?_ ?_ _) | (focus (simp [go_sem]; done))))⟩
        · rw [if_neg he]
          have hb : (tg == s0) = false := by simpa using he
          clear he
          clear e
          go_enter Try.func52, Try.ntmps52
          go_wp2_with (first | (go_at_call 75; (with_reducible refine (hc ?_ ?hq108 ?hq109).mono ?_); (case hq108 => (repeat' (first | with_reducible assumption | (with_reducible exact zeros16 _) | (with_reducible exact sl_new1 _ _ _) | (with_reducible first | apply Sl.upE | apply Sl.upA | apply Sl.upD)))); (case hq109 => (repeat' (first | with_reducible assumption | (refine bsc2 ?_ ?_ ?_ ?_ _; (· (repeat' (first | with_reducible assumption | (with_reducible exact zeros16 _) | (with_reducible exact sl_new1 _ _ _) | (with_reducible first | apply Sl.upE | apply Sl.upA | apply Sl.upD)))); (· omega); (· (repeat' (first | with_reducible assumption | (with_reducible exact zeros16 _) | (with_reducible exact sl_new1 _ _ _) | (with_reducible first | apply Sl.upE | apply Sl.upA | apply Sl.upD)))); (· omega)) | (with_reducible first | apply Bsc.upE | apply Bsc.upA | apply Bsc.upD)))); rintro e w1 ⟨rfl, hxq⟩; obtain ⟨xq, rfl⟩ := hxq.out; clear hxq) | fail)
          refine (hcut _ (by (repeat' (first | with_reducible assumption | (with_reducible exact zeros16 _) | (with_reducible exact sl_new1 _ _ _) | (with_reducible first | apply Sl.upE | apply Sl.upA | apply Sl.upD))))).mono ?_
          rintro e _ ⟨_, _, _, _, rfl, hO1, hO2, hx⟩
          obtain ⟨_, rfl⟩ := hx.out
          have hl1 := hO1.le
          have hl2 := hO2.le
          have hS1 := hO1.sl
          have hS2 := hO2.sl
          clear hO1 hO2 hx
          go_wp2_with (first
            | (go_at_call 73; (with_reducible refine (hst ?_ ?_ ?_ ?_ ?_ ?hq86 ?hq87 ?hq88 ?hq89).mono ?_); (case hq86 => (repeat' (first | with_reducible assumption | (with_reducible exact zeros16 _) | (with_reducible exact sl_new1 _ _ _) | (with_reducible first | apply Sl.upE | apply Sl.upA | apply Sl.upD)))); (case hq88 => (repeat' (first | with_reducible assumption | (with_reducible exact zeros16 _) | (with_reducible exact sl_new1 _ _ _) | (with_reducible first | apply Sl.upE | apply Sl.upA | apply Sl.upD)))); (case hq89 => (repeat' (first | with_reducible assumption | (with_reducible exact zeros16 _) | (with_reducible exact sl_new1 _ _ _) | (with_reducible first | apply Sl.upE | apply Sl.upA | apply Sl.upD)))); (case hq87 => omega); rintro e _ ⟨_, _, rfl, hS, hc, hx⟩; obtain ⟨_, rfl⟩ := hx.out; clear hx)
            | (go_at_call 49; (with_reducible refine (ht ?_ ?_ ?_ ?hq90 ?hq91 ?hq92 ?hq93).mono ?_); (case hq90 => (repeat' (first | with_reducible assumption | (with_reducible exact zeros16 _) | (with_reducible exact sl_new1 _ _ _) | (with_reducible first | apply Sl.upE | apply Sl.upA | apply Sl.upD)))); (case hq91 => (repeat' (first | with_reducible assumption | (refine bsc2 ?_ ?_ ?_ ?_ _; (· (repeat' (first | with_reducible assumption | (with_reducible exact zeros16 _) | (with_reducible exact sl_new1 _ _ _) | (with_reducible first | apply Sl.upE | apply Sl.upA | apply Sl.upD)))); (· omega); (· (repeat' (first | with_reducible assumption | (with_reducible exact zeros16 _) | (with_reducible exact sl_new1 _ _ _) | (with_reducible first | apply Sl.upE | apply Sl.upA | apply Sl.upD)))); (· omega)) | (with_reducible first | apply Bsc.upE | apply Bsc.upA | apply Bsc.upD)))); (case hq92 => (repeat' (first | with_reducible assumption | (with_reducible exact zeros16 _) | (with_reducible exact sl_new1 _ _ _) | (with_reducible first | apply Sl.upE | apply Sl.upA | apply Sl.upD)))); (case hq93 => omega); rintro e _ ⟨_, _, rfl, hS, hc, hx⟩; obtain ⟨_, rfl⟩ := hx.out; clear hx)
            | (go_at_call 80; (with_reducible refine (osame_any ?_ ?_ ?_ ?_ ?_ ?_ tg s0 ?_ ?hq110 ?hq111).mono ?_); (case hq110 => (repeat' (first | with_reducible assumption | (with_reducible exact zeros16 _) | (with_reducible exact sl_new1 _ _ _) | (with_reducible first | apply Sl.upE | apply Sl.upA | apply Sl.upD)))); (case hq111 => (repeat' (first | with_reducible assumption | (with_reducible exact zeros16 _) | (with_reducible exact sl_new1 _ _ _) | (with_reducible first | apply Sl.upE | apply Sl.upA | apply Sl.upD)))); rintro e w1 ⟨rfl, hxq⟩; obtain ⟨xq, rfl⟩ := hxq.out; clear hxq)
            | fail)
          go_ret2
          exact read2_err _ _ _ (by repeat (first | (with_reducible first | exact Ext.refl _ | assumption | apply Ext.alloc | apply Ext.ext | apply Ext.drew | refine Ext.setCell ?_ ?_ _) | (focus (simp [go_sem]; done))))
  · have e : openE ky A s = ([], checkA ky A) := by unfold openE; rw [if_pos h0]
    rw [e]
    have hI := ne0 h0
    generalize checkA ky A = v at *
    clear e h0
    go_enter Try.func52, Try.ntmps52
    go_wp2_with (first | (go_at_call 75; (with_reducible refine (hc ?_ ?hq112 ?hq113).mono ?_); (case hq112 => (repeat' (first | with_reducible assumption | (with_reducible exact zeros16 _) | (with_reducible exact sl_new1 _ _ _) | (with_reducible first | apply Sl.upE | apply Sl.upA | apply Sl.upD)))); (case hq113 => (repeat' (first | with_reducible assumption | (refine bsc2 ?_ ?_ ?_ ?_ _; (· (repeat' (first | with_reducible assumption | (with_reducible exact zeros16 _) | (with_reducible exact sl_new1 _ _ _) | (with_reducible first | apply Sl.upE | apply Sl.upA | apply Sl.upD)))); (· omega); (· (repeat' (first | with_reducible assumption | (with_reducible exact zeros16 _) | (with_reducible exact sl_new1 _ _ _) | (with_reducible first | apply Sl.upE | apply Sl.upA | apply Sl.upD)))); (· omega)) | (with_reducible first | apply Bsc.upE | apply Bsc.upA | apply Bsc.upD)))); rintro e w1 ⟨rfl, hxq⟩; obtain ⟨xq, rfl⟩ := hxq.out; clear hxq) | fail)
    go_ret2
    exact read2_err _ _ _ (by repeat (first | (with_reducible first | exact Ext.refl _ | assumption | apply Ext.alloc | apply Ext.ext | apply Ext.drew | refine Ext.setCell ?_ ?_ _) | (focus (simp [go_sem]; done))))
end Go.Proofs.Ythooaeeajeajnaa

/- Layer 6 of the document: check, counter, Tag. -/
namespace Go.Aes
def checkR (ky : List UInt8) (A : List (List UInt8)) (p : Int) : Int := if checkA ky A ≠ 0 then checkA ky A else if 65519 < p then 2 else 0
theorem checkR_nat (ky : List UInt8) (A : List (List UInt8)) (k : Nat) : checkR ky A k = if checkA ky A ≠ 0 then checkA ky A else if 65519 < k then 2 else 0 := by
  unfold checkR
  by_cases h : checkA ky A ≠ 0
  · rw [if_pos h, if_pos h]
  · rw [if_neg h, if_neg h]
    by_cases h2 : 65519 < k
    · rw [if_pos (by omega), if_pos h2]
    · rw [if_neg (by omega), if_neg h2]
theorem tagE_err {ky : List UInt8} {A : List (List UInt8)} {p : List UInt8} (h : ¬ (checkA ky A = 0 ∧ p.length ≤ 65519)) : tagE ky A p = ([], checkR ky A p.length) ∧ checkR ky A p.length ≠ 0 := by
  rw [checkR_nat]
  unfold tagE
  by_cases h1 : checkA ky A ≠ 0
  · rw [if_pos h1, if_pos h1]; exact ⟨rfl, h1⟩
  · have h2 : 65519 < p.length := by
      rcases Nat.lt_or_ge 65519 p.length with h3 | h3
      · exact h3
      · exact absurd ⟨by simpa using h1, h3⟩ h
    rw [if_neg h1, if_neg h1, if_pos h2, if_pos h2]; exact ⟨rfl, by decide⟩
end Go.Aes
namespace Go.Proofs.Ythooaeeajeajnaa
open Go.RowKit Go.Sec Go.Oct Go.Aes BigFrame

set_option maxRecDepth 100000 in
set_option maxHeartbeats 4000000 in
theorem rcheck_any (a b : Option Addr) (n c m d : Nat) (ky : List UInt8) (A : List (List UInt8)) (p : Int) (w : World) (hk : Sl w a n ky) (hA : Bsc w b m A) (hm : m ≤ 1000000) :
    Calls Try.prog 77 #[.slice a n c, .slice b m d, .int .i64 p] w fun e w' => e = .returned (.int .i64 (checkR ky A p)) ∧ Ext w w' := by
  have hkl := hk.len
  have hAl := hA.len
  by_cases h1 : n = 32
  · by_cases h2 : 16 < m
    · have e := Lib.hid (show checkR ky A p = 8 by
        have : checkA ky A = 8 := by unfold checkA; rw [if_neg (by omega), if_pos (by omega)]
        unfold checkR; rw [this]; rfl)
      have hI : ((n : Int) != 32) = false := by rw [bne_eq_false_iff_eq]; omega
      have hI2 : (16 : Int) < (m : Int) := by omega
      clear hkl h1
      go_enter Try.func77, Try.ntmps77
      go_wp2_with fail
      go_ret
      exact ⟨by rw [e.out]; rfl, Ext.refl _⟩
    · have e := Lib.hid (show checkA ky A = if longA A then 2 else 0 by unfold checkA; rw [if_neg (by omega), if_neg (by omega)])
      have hI : ((n : Int) != 32) = false := by rw [bne_eq_false_iff_eq]; omega
      have hI2 : ¬ (16 : Int) < (m : Int) := by omega
      clear hkl h1
      go_enter Try.func77, Try.ntmps77
      go_wp2_with fail
      go_loopw [7] (fun v7 wr => ∃ i : Nat, i ≤ m ∧ v7 = .int .i64 i ∧ Hid (longA (A.take i) = false) ∧ Ext w wr) (fun v7 _ => m - (intOf v7).toNat)
      case atStart => exact ⟨0, by omega, rfl, Lib.hid rfl, Ext.refl _⟩
      case round =>
        obtain ⟨i, hi, rfl, hm', hx⟩ := hrel
        obtain ⟨x, rfl⟩ := hx.out
        by_cases hlt : i < m
        · obtain ⟨b0, o0, a', n', c', rfl, hb0, hcell, hc', hS⟩ := (hA.ext hx).at i hlt
          have i0 : (0 : Int) ≤ (i : Int) := by omega
          have i1 : (i : Int) < (m : Int) := by omega
          have hsu := Lib.hid (show longA (A.take (i + 1)) = decide (65519 < n') by
            rw [List.take_succ_eq_append_getElem (by omega), ← hS.len]
            unfold longA
            rw [List.any_append]
            have := hm'.out
            unfold longA at this
            rw [this]; simp)
          have htr := Lib.hid (show longA (A.take (i + 1)) = true → longA A = true from fun h => by
            unfold longA at h ⊢
            obtain ⟨x, hx, hp⟩ := List.any_eq_true.1 h
            exact List.any_eq_true.2 ⟨x, List.mem_of_mem_take hx, hp⟩)
          by_cases hn' : 65519 < n'
          · have hI3 : (65519 : Int) < (n' : Int) := by omega
            have hm2 := Lib.hid (show checkR ky A p = 2 by
              have : checkA ky A = 2 := by rw [e.out, htr.out (by rw [hsu.out]; simpa using hn')]; rfl
              unfold checkR; rw [this]; rfl)
            go_wp2_with fail
            go_ret
            exact ⟨by rw [hm2.out]; rfl, (by repeat (first | (with_reducible first | exact Ext.refl _ | assumption | apply Ext.alloc | apply Ext.ext | apply Ext.drew | refine Ext.setCell ?_ ?_ _) | (focus (simp [go_sem]; done))))⟩
          · have hI3 : ¬ (65519 : Int) < (n' : Int) := by omega
            have hm2 := Lib.hid (show longA (A.take (i + 1)) = false by rw [hsu.out]; simpa using hn')
            go_wp2_with fail
            go_roundw
            case rel => exact ⟨i + 1, by omega, by go_num, hm2, (by repeat (first | (with_reducible first | exact Ext.refl _ | assumption | apply Ext.alloc | apply Ext.ext | apply Ext.drew | refine Ext.setCell ?_ ?_ _) | (focus (simp [go_sem]; done))))⟩
            case measure => simp [intOf]; omega
        · obtain rfl : i = m := by omega
          have hlo := Lib.hid (show longA A = false by have := hm'.out; rwa [List.take_of_length_le (by omega)] at this)
          have e2 := Lib.hid (show checkR ky A p = if 65519 < p then 2 else 0 by
            have : checkA ky A = 0 := by rw [e.out, hlo.out]; rfl
            unfold checkR; rw [this]; rfl)
          by_cases hp : 65519 < p
          · go_wp2_with fail
            go_ret
            exact ⟨by rw [e2.out, if_pos hp]; rfl, (by repeat (first | (with_reducible first | exact Ext.refl _ | assumption | apply Ext.alloc | apply Ext.ext | apply Ext.drew | refine Ext.setCell ?_ ?_ _) | (focus (simp [go_sem]; done))))⟩
          · go_wp2_with fail
            go_ret
            exact ⟨by rw [e2.out, if_neg (by omega)]; rfl, (by repeat (first | (with_reducible first | exact Ext.refl _ | assumption | apply Ext.alloc | apply Ext.ext | apply Ext.drew | refine Ext.setCell ?_ ?_ _) | (focus (simp [go_sem]; done))))⟩
  · have e := Lib.hid (show checkR ky A p = 5 by
      have : checkA ky A = 5 := by unfold checkA; rw [if_pos (by omega)]
      unfold checkR; rw [this]; rfl)
    have hI := ne32 h1
    clear hkl h1
    go_enter Try.func77, Try.ntmps77
    go_wp2_with fail
    go_ret
    exact ⟨by rw [e.out]; rfl, Ext.refl _⟩

set_option maxRecDepth 100000 in
set_option maxHeartbeats 4000000 in
theorem counter_any (a : Option Addr) (c : Nat) (t : List UInt8) (w : World) (h : Sl w a 16 t) :
    Calls Try.prog 78 #[.slice a 16 c] w (Fresh 16 (ctrOf t) w) := by
  have htl := h.len
  have hC := Lib.hid (show ctrOf t = (t.set 8 (at' t 8 &&& 127)).set 12 (at' t 12 &&& 127) from rfl)
  go_enter Try.func78, Try.ntmps78
  go_wp2_with fail; (with_reducible refine (join_any _ _ _ _ _ (bss1 h _) (by omega) 16 (by simp [joinL1, htl]) (by omega)).mono ?_); rintro e w1 ⟨a1, c1, rfl, hO1, hx1⟩
  rw [joinL1] at hO1
  have hO1 := hO1.mono (base' := w.heap.size) (by simp)
  have hx1 : Ext w w1 := Ext.trans (Ext.of_alloc _ _) hx1
  obtain ⟨g, rfl, hg, hgb, hcell8, hfr8, _⟩ := hO1.at 8 (by omega)
  obtain ⟨_, e1, _, _, hcell12, hfr12, _⟩ := hO1.at 12 (by omega)
  injection e1 with e1
  injection e1 with e1 _
  subst e1
  have hle := hO1.le
  have hO2 := hO1.put 8 (by omega) (at' t 8 &&& 127)
  have hO3 := hO2.put 12 (by omega) (at' t 12 &&& 127)
  rw [← hC.out] at hO3
  have hx3 : Ext w ((w1.setCell ⟨g, 8, none⟩ (.int .u8 (n8 (at' t 8 &&& 127)))).setCell ⟨g, 12, none⟩ (.int .u8 (n8 (at' t 12 &&& 127)))) := Ext.setCell (Ext.setCell hx1 hg _) hg _
  rw [show t.getD 8 0 = at' t 8 from rfl] at hcell8
  rw [show t.getD 12 0 = at' t 12 from rfl] at hcell12
  clear hO1 hO2
  go_wp2_with fail
  go_region
  go_wp2
  go_ret
  exact ⟨_, _, rfl, hO3.ext (Ext.drew (Ext.refl _)), hx3.drew⟩

set_option maxRecDepth 100000 in
set_option maxHeartbeats 4000000 in
theorem rtag_any (a b c : Option Addr) (n ca m cb k cc : Nat) (ky : List UInt8) (A : List (List UInt8)) (p : List UInt8) (w : World) (hk : Sl w a n ky) (hca : n ≤ ca) (hA : Bsc w b m A) (hm : m ≤ 1000000) (hp : Sl w c k p) (hkc : k ≤ cc) :
    Calls Try.prog 50 #[.slice a n ca, .slice b m cb, .slice c k cc] w (Read2 (tagE ky A p).1.length (tagE ky A p).1 (.int .i64 (tagE ky A p).2) w) := by
  have hc := fun w h1 h2 => rcheck_any a b n ca m cb ky A (k : Int) w h1 h2 hm
  have hpl := hp.len
  have hcr := checkR_nat ky A k
  by_cases h0 : checkA ky A = 0 ∧ k ≤ 65519
  · obtain ⟨h0, hl⟩ := h0
    have h00 : checkR ky A k = 0 := by rw [hcr, if_neg (by rw [h0]; simp), if_neg (by omega)]
    rw [h00] at hc
    obtain ⟨h32, h16, hmx⟩ := checkA_ok h0
    rw [hk.len] at h32
    rw [hA.len] at h16
    subst h32
    rw [tagE_ok h0 (by omega)]
    show Calls _ _ _ _ (Read2 (s2v _ _).length _ _ _)
    rw [s2v_length]
    have hmax : ∀ x ∈ A ++ [p], x.length ≤ 65535 := by
      intro x hx
      rcases List.mem_append.1 hx with h | h
      · have := hmx x h; omega
      · simp only [List.mem_singleton] at h; subst h; omega
    have q : (16 : Int) ≤ (ca : Int) := by omega
    clear h0 h00 hcr hmx hpl
    go_enter Try.func50, Try.ntmps50
    go_wp2_with (first | (go_at_call 77; (with_reducible refine (hc ?_ ?hq125 ?hq126).mono ?_); (case hq125 => (repeat' (first | with_reducible assumption | (with_reducible exact zeros16 _) | (with_reducible exact sl_new1 _ _ _) | (with_reducible first | apply Sl.upE | apply Sl.upA | apply Sl.upD)))); (case hq126 => (repeat' (first | with_reducible assumption | (refine bsc2 ?_ ?_ ?_ ?_ _; (· (repeat' (first | with_reducible assumption | (with_reducible exact zeros16 _) | (with_reducible exact sl_new1 _ _ _) | (with_reducible first | apply Sl.upE | apply Sl.upA | apply Sl.upD)))); (· omega); (· (repeat' (first | with_reducible assumption | (with_reducible exact zeros16 _) | (with_reducible exact sl_new1 _ _ _) | (with_reducible first | apply Sl.upE | apply Sl.upA | apply Sl.upD)))); (· omega)) | (with_reducible first | apply Bsc.upE | apply Bsc.upA | apply Bsc.upD)))); rintro e w1 ⟨rfl, hxq⟩; obtain ⟨xq, rfl⟩ := hxq.out; clear hxq) | fail)
    have hxW : Ext w (w.ext xq) := (by repeat (first | (with_reducible first | exact Ext.refl _ | assumption | apply Ext.alloc | apply Ext.ext | apply Ext.drew | refine Ext.setCell ?_ ?_ _) | (focus (simp [go_sem]; done))))
    generalize w.ext xq = W at *
    have hkW := (hk.ext hxW).take 16 (by omega)
    have hRB := (hA.ext hxW).rdB
    have hpW := hp.ext hxW
    have hSE : ∀ w', Ext (W) w' → (Ext (W)) w' := (fun _ h => h); have hExt0 : Ext (W) (W).drew := Ext.drew (Ext.refl _); refine wp_region_held_drew (S := Ext (W)) (by kernel_rfl) (hSE _ hExt0) (fun hHeld => ?_)
    refine wpAnyH_take (i := 0) (v := ?v114) rfl (by kernel_rfl) (by kernel_rfl) (by kernel_rfl) (fun _ _ _ h => h) (Or.inl ⟨by rfl, ?hy114⟩) hHeld ?_; (case hy114 => (intro w' hx; simp [go_sem, execOp, *]; (try simp (disch := omega) only [Go.IntWalk.i64_in, Go.IntWalk.rem_in, Go.IntWalk.wrap64_in]); rfl)); (try simp only [List.getElem_toArray, List.getElem_cons_succ, List.getElem_cons_zero, Act.put, List.setIfInBounds_toArray, List.set_cons_succ, List.set_cons_zero])
    refine wpAnyH_take (i := 1) (v := ?v115) rfl (by kernel_rfl) (by kernel_rfl) (by kernel_rfl) (fun _ _ _ h => h) (Or.inl ⟨by rfl, ?hy115⟩) hHeld ?_; (case hy115 => (intro w' hx; simp [go_sem, execOp, *]; (try simp (disch := omega) only [Go.IntWalk.i64_in, Go.IntWalk.rem_in, Go.IntWalk.wrap64_in]); rfl)); (try simp only [List.getElem_toArray, List.getElem_cons_succ, List.getElem_cons_zero, Act.put, List.setIfInBounds_toArray, List.set_cons_succ, List.set_cons_zero])
    refine wpAnyH_take (i := 3) (v := ?v116) rfl (by kernel_rfl) (by kernel_rfl) (by kernel_rfl) (fun _ _ _ h => h) (Or.inl ⟨by rfl, ?hy116⟩) hHeld ?_; (case hy116 => (intro w' hx; simp [go_sem, execOp, *]; (try simp (disch := omega) only [Go.IntWalk.i64_in, Go.IntWalk.rem_in, Go.IntWalk.wrap64_in]); rfl)); (try simp only [List.getElem_toArray, List.getElem_cons_succ, List.getElem_cons_zero, Act.put, List.setIfInBounds_toArray, List.set_cons_succ, List.set_cons_zero])
    refine wpAnyH_take (i := 5) (v := ?v117) rfl (by kernel_rfl) (by kernel_rfl) (by kernel_rfl) (fun _ _ _ h => h) (Or.inl ⟨by rfl, ?hy117⟩) hHeld ?_; (case hy117 => (intro w' hx; simp [go_sem, execOp, *]; (try simp (disch := omega) only [Go.IntWalk.i64_in, Go.IntWalk.rem_in, Go.IntWalk.wrap64_in]); rfl)); (try simp only [List.getElem_toArray, List.getElem_cons_succ, List.getElem_cons_zero, Act.put, List.setIfInBounds_toArray, List.set_cons_succ, List.set_cons_zero])
    refine R5.any_late2 7 9 [[], [0], [], [], [2, 3], [], [5], [2, 3, 4, 5, 6], [0, 1, 2, 3, 4, 5, 6, 7], [0, 1, 2, 3, 4, 5, 6, 7, 8], [0, 1, 2, 3, 4, 5, 6, 7, 8], [0, 1, 2, 3, 4, 5, 6, 7, 8, 9, 10], [0, 1, 2, 3, 4, 5, 6, 7, 8, 9, 10, 11]] [0, 1, 3, 5] #[true, true, true, true, true, true, true, true, true, false, false, false, false] 4 hExt0 hSE (by kernel_rfl) (by kernel_rfl) (by kernel_rfl) (by kernel_rfl) (by kernel_rfl) (by kernel_rfl) ?_; simp only [List.take_succ_cons, List.take_zero, List.drop_succ_cons, List.drop_zero, List.take_nil, List.drop_nil, Nat.reduceSub]
    refine R5.VD_taken rfl ?_
    refine R5.VD_taken rfl ?_
    (refine R5.VD_vag rfl (fun p => .slice (p 0).1 0 0) (fun p w'' => ∃ g, (p 0).1 = some ⟨g, 0, none⟩ ∧ OwnB w'' W.heap.size (some ⟨g, 0, none⟩) 0 0 []) (fun p w w' h hx => (let ⟨g, h1, h2⟩ := h; ⟨g, h1, h2.ext hx⟩)) (fun us w' hx hf => ⟨rfl, ?_⟩) ?_; (unfold gives; simp [go_sem, execOp]; exact ⟨fun _ => (some ⟨w'.heap.size, 0, none⟩, 0), rfl, Ext.of_alloc _ _, _, rfl, (OwnB.empty _).mono0 hx.size⟩))
    refine R5.VD_taken rfl ?_
    (refine R5.VD_vag rfl (fun p => .slice (p 0).1 m (p 0).2) (fun p w'' => OwnB w'' W.heap.size (p 0).1 m (p 0).2 A) (fun p w w' h hx => h.ext hx) (fun us w' hx hf => ⟨rfl, ?_⟩) ?_; (obtain ⟨g, hg, hE⟩ := (hf _ (List.mem_append_right _ (List.mem_singleton_self _)) rfl); obtain ⟨sa, sc, w'', hrun, hO, hx'⟩ := R5.append_empty_bs V8 w' 40 W.heap.size g hE _ m cb A (hRB.ext hx) (by omega) hx.size; exact R5.gives_append rfl (by show Value.slice (us 2 0).1 0 0 = _; rw [hg]) rfl hrun ⟨fun _ => (sa, sc), rfl, hx', hO⟩))
    refine R5.VD_taken rfl ?_
    (refine R5.VD_vag rfl (fun p => .slice (p 0).1 1 1) (fun p w'' => Rd w'' (p 0).1 [.slice c k cc]) (fun p w w' h hx => h.ext hx) (fun us w' hx hf => ⟨rfl, ?_⟩) ?_; (unfold gives; simp [go_sem, execOp]; exact ⟨fun _ => (some ⟨w'.heap.size, 0, none⟩, 0), rfl, Ext.of_alloc _ _, (Blk.new _ _ _).rd⟩))
    (refine R5.VD_nil ?_; intro us w' hx hf; obtain ⟨x, rfl⟩ := hx.out; (try simp only [Act.put, List.setIfInBounds_toArray, List.set_cons_succ, List.set_cons_zero, wpList_none]); (try simp only [List.mem_cons, List.not_mem_nil, or_false, forall_eq_or_imp, forall_eq, List.nil_append, List.cons_append, List.mem_append, false_or, true_and, and_true] at hf); (try simp only [Nat.reduceAdd, Nat.zero_add] at hf); (try simp only [Nat.reduceAdd, Nat.zero_add]))
    obtain ⟨-, hO1, hR2⟩ := hf
    (refine R5.chain_append_bs hSE V8 rfl rfl _ _ rfl (W.heap.size) _ m _ (A) rfl _ 1 1 ([p]) rfl (hO1) (RdB.one hR2 (hpW.ext hx) hkc (hpW.inB _)) (by omega) (hx.size) (Nat.le_refl _) (hx) ?_; intro sa2 sc2 w2 hOa hg2 hB2 hx2)
    have hBs := hOa.bsc
    have hle := hOa.le
    have hk2 := hkW.ext hx2
    (refine R5.chain_cons rfl rfl ?_; unfold gives; simp [go_sem, execOp]; (with_reducible refine (rvector_any ?_ ?_ ?_ ?_ ?_ (ky.take 16) (A ++ [p]) ?_ ?hq122 ?hq123 ?hq124 hmax).mono ?_); (case hq122 => (repeat' (first | with_reducible assumption | (with_reducible exact zeros16 _) | (with_reducible exact sl_new1 _ _ _) | (with_reducible first | apply Sl.upE | apply Sl.upA | apply Sl.upD)))); (case hq123 => (repeat' (first | with_reducible assumption | (refine bsc2 ?_ ?_ ?_ ?_ _; (· (repeat' (first | with_reducible assumption | (with_reducible exact zeros16 _) | (with_reducible exact sl_new1 _ _ _) | (with_reducible first | apply Sl.upE | apply Sl.upA | apply Sl.upD)))); (· omega); (· (repeat' (first | with_reducible assumption | (with_reducible exact zeros16 _) | (with_reducible exact sl_new1 _ _ _) | (with_reducible first | apply Sl.upE | apply Sl.upA | apply Sl.upD)))); (· omega)) | (with_reducible first | apply Bsc.upE | apply Bsc.upA | apply Bsc.upD)))); (case hq124 => omega); rintro e _ ⟨_, _, rfl, hS, hc, hx⟩; obtain ⟨_, rfl⟩ := hx.out; clear hx; refine ⟨_, rfl, hSE _ (by repeat (first | (with_reducible first | exact Ext.refl _ | assumption | apply Ext.alloc | apply Ext.ext | apply Ext.drew | refine Ext.setCell ?_ ?_ _) | (focus (simp [go_sem]; done)))), ?_⟩; (try simp only [List.getElem_toArray, List.getElem_cons_succ, List.getElem_cons_zero, Act.put, List.setIfInBounds_toArray, List.set_cons_succ, List.set_cons_zero]))
    (refine R5.chain_nil ?_)
    refine wpAnyH_take (i := 9) (v := ?v118) rfl (by kernel_rfl) (by kernel_rfl) (by kernel_rfl) (fun _ _ _ h => h) (Or.inl ⟨by rfl, ?hy118⟩) (hSE _ (by repeat (first | (with_reducible first | exact Ext.refl _ | assumption | apply Ext.alloc | apply Ext.ext | apply Ext.drew | refine Ext.setCell ?_ ?_ _) | (focus (simp [go_sem]; done))))) ?_; (case hy118 => (intro w' hx; simp [go_sem, execOp, *]; (try simp (disch := omega) only [Go.IntWalk.i64_in, Go.IntWalk.rem_in, Go.IntWalk.wrap64_in]); rfl)); (try simp only [List.getElem_toArray, List.getElem_cons_succ, List.getElem_cons_zero, Act.put, List.setIfInBounds_toArray, List.set_cons_succ, List.set_cons_zero])
    refine wpAnyH_take (i := 10) (v := ?v119) rfl (by kernel_rfl) (by kernel_rfl) (by kernel_rfl) (fun _ _ _ h => h) (Or.inl ⟨by rfl, ?hy119⟩) (hSE _ (by repeat (first | (with_reducible first | exact Ext.refl _ | assumption | apply Ext.alloc | apply Ext.ext | apply Ext.drew | refine Ext.setCell ?_ ?_ _) | (focus (simp [go_sem]; done))))) ?_; (case hy119 => (intro w' hx; simp [go_sem, execOp, *]; (try simp (disch := omega) only [Go.IntWalk.i64_in, Go.IntWalk.rem_in, Go.IntWalk.wrap64_in]); rfl)); (try simp only [List.getElem_toArray, List.getElem_cons_succ, List.getElem_cons_zero, Act.put, List.setIfInBounds_toArray, List.set_cons_succ, List.set_cons_zero])
    refine wpAnyH_take (i := 11) (v := ?v120) rfl (by kernel_rfl) (by kernel_rfl) (by kernel_rfl) (fun _ _ _ h => h) (Or.inl ⟨by rfl, ?hy120⟩) (hSE _ (by repeat (first | (with_reducible first | exact Ext.refl _ | assumption | apply Ext.alloc | apply Ext.ext | apply Ext.drew | refine Ext.setCell ?_ ?_ _) | (focus (simp [go_sem]; done))))) ?_; (case hy120 => (intro w' hx; simp [go_sem, execOp, *]; (try simp (disch := omega) only [Go.IntWalk.i64_in, Go.IntWalk.rem_in, Go.IntWalk.wrap64_in]); rfl)); (try simp only [List.getElem_toArray, List.getElem_cons_succ, List.getElem_cons_zero, Act.put, List.setIfInBounds_toArray, List.set_cons_succ, List.set_cons_zero])
    refine wpAnyH_take (i := 12) (v := ?v121) rfl (by kernel_rfl) (by kernel_rfl) (by kernel_rfl) (fun _ _ _ h => h) (Or.inl ⟨by rfl, ?hy121⟩) (hSE _ (by repeat (first | (with_reducible first | exact Ext.refl _ | assumption | apply Ext.alloc | apply Ext.ext | apply Ext.drew | refine Ext.setCell ?_ ?_ _) | (focus (simp [go_sem]; done))))) ?_; (case hy121 => (intro w' hx; simp [go_sem, execOp, *]; (try simp (disch := omega) only [Go.IntWalk.i64_in, Go.IntWalk.rem_in, Go.IntWalk.wrap64_in]); rfl)); (try simp only [List.getElem_toArray, List.getElem_cons_succ, List.getElem_cons_zero, Act.put, List.setIfInBounds_toArray, List.set_cons_succ, List.set_cons_zero])
    refine wpAnyH_done (by kernel_rfl) ?_ _
    go_wp2
    go_ret2
    exact ⟨_, _, rfl, hS, hc, hxW.trans (by repeat (first | (with_reducible first | exact Ext.refl _ | assumption | apply Ext.alloc | apply Ext.ext | apply Ext.drew | refine Ext.setCell ?_ ?_ _) | (focus (simp [go_sem]; done))))⟩
  · obtain ⟨e, hne⟩ := tagE_err (p := p) (by rw [hpl]; exact h0)
    rw [hpl] at e hne
    rw [e]
    have hI := ne0 hne
    clear hne
    generalize checkR ky A k = v at *
    clear e h0 hcr
    go_enter Try.func50, Try.ntmps50
    go_wp2_with (first | (go_at_call 77; (with_reducible refine (hc ?_ ?hq127 ?hq128).mono ?_); (case hq127 => (repeat' (first | with_reducible assumption | (with_reducible exact zeros16 _) | (with_reducible exact sl_new1 _ _ _) | (with_reducible first | apply Sl.upE | apply Sl.upA | apply Sl.upD)))); (case hq128 => (repeat' (first | with_reducible assumption | (refine bsc2 ?_ ?_ ?_ ?_ _; (· (repeat' (first | with_reducible assumption | (with_reducible exact zeros16 _) | (with_reducible exact sl_new1 _ _ _) | (with_reducible first | apply Sl.upE | apply Sl.upA | apply Sl.upD)))); (· omega); (· (repeat' (first | with_reducible assumption | (with_reducible exact zeros16 _) | (with_reducible exact sl_new1 _ _ _) | (with_reducible first | apply Sl.upE | apply Sl.upA | apply Sl.upD)))); (· omega)) | (with_reducible first | apply Bsc.upE | apply Bsc.upA | apply Bsc.upD)))); rintro e w1 ⟨rfl, hxq⟩; obtain ⟨xq, rfl⟩ := hxq.out; clear hxq) | fail)
    go_ret2
    exact read2_err _ _ _ (by repeat (first | (with_reducible first | exact Ext.refl _ | assumption | apply Ext.alloc | apply Ext.ext | apply Ext.drew | refine Ext.setCell ?_ ?_ _) | (focus (simp [go_sem]; done))))
end Go.Proofs.Ythooaeeajeajnaa

/- Layer 6 of the document: Seal, Open. -/
namespace Go.Proofs.Ythooaeeajeajnaa
open Go.RowKit Go.Sec Go.Oct Go.Aes BigFrame

theorem sl_from {w : World} {b0 o0 n ca i : Nat} {l : List UInt8} (h : Sl w (some ⟨b0, o0, none⟩) n l) (hca : n ≤ ca) (hi : i < n) : Sl w (some ⟨b0, o0 + i, none⟩) (n - i) (l.drop i) := by
  have := h.drop ca i hca
  unfold sAdr at this
  rw [if_neg (by omega)] at this
  simpa [addr_add] using this

set_option maxRecDepth 100000 in
set_option maxHeartbeats 4000000 in
theorem rseal_any (a b c : Option Addr) (n ca m cb k cc : Nat) (ky : List UInt8) (A : List (List UInt8)) (p : List UInt8) (w : World) (hk : Sl w a n ky) (hca : n ≤ ca) (hA : Bsc w b m A) (hm : m ≤ 1000000) (hp : Sl w c k p) (hkc : k ≤ cc) :
    Calls Try.prog 51 #[.slice a n ca, .slice b m cb, .slice c k cc] w (Read2 (sealE ky A p).1.length (sealE ky A p).1 (.int .i64 (sealE ky A p).2) w) := by
  have ht := fun w h1 h3 h5 => rtag_any a b c n ca m cb k cc ky A p w h1 hca h3 hm h5 hkc
  by_cases h0 : (tagE ky A p).2 = 0
  · obtain ⟨h16, hck, hpl⟩ := tagE_len h0
    obtain ⟨h32, _, _⟩ := checkA_ok hck
    rw [hk.len] at h32
    rw [hp.len] at hpl
    subst h32
    have e := Lib.hid (show sealE ky A p = ((tagE ky A p).1 ++ stream (ky.drop 16) (ctrOf (tagE ky A p).1) p, 0) by unfold sealE; rw [if_neg (by simpa using h0)])
    rw [h0, h16] at ht
    have hsl := stream_length (ky.drop 16) (ctrOf (tagE ky A p).1) p
    rw [hp.len] at hsl
    obtain ⟨b0, o0, rfl, hb0, _⟩ := hk.at 0 (by omega)
    have hk2 := sl_from hk hca (i := 16) (by omega)
    have hst := fun a1 a2 c1 c2 w h1 h2 h3 h4 => rstream_any a1 a2 c c1 c2 cc k (ky.drop 16) (ctrOf (tagE ky A p).1) p w h1 h2 h3 h4 (by omega)
    have hct := fun a c w h => counter_any a c (tagE ky A p).1 w h
    generalize stream (ky.drop 16) (ctrOf (tagE ky A p).1) p = st at *
    generalize ctrOf (tagE ky A p).1 = ct at *
    generalize (tagE ky A p).1 = tg at *
    rw [e.out]
    have hll : (tg ++ st).length = 16 + k := by rw [List.length_append, h16, hsl]
    show Calls _ _ _ _ (Read2 (tg ++ st).length _ _ _)
    rw [hll]
    clear h0 hck
    have hj : joinL [tg, st] = tg ++ st := by simp [joinL]
    have hjl : (joinL [tg, st]).length = 16 + k := by rw [hj, hll]
    have HJ := Lib.hid hj
    have q : (16 : Int) ≤ (ca : Int) := by omega
    clear hj
    go_enter Try.func51, Try.ntmps51
    go_wp2_with fail
    refine (ht _ hk hA hp).mono ?_
    rintro e W ⟨a3, c3, rfl, hS3, hc3, hxW⟩
    have hkW := hk2.ext hxW
    have hpW := hp.ext hxW
    have q4 : ¬ ca = 16 := by omega
    go_wp2_with fail
    refine wp_region_vague 11 [[], [0], [], [2], [], [0, 1, 2, 3, 4], [0, 1, 2, 3, 4, 5], [0, 1, 2, 3, 4, 5, 6], [0, 1, 2, 3, 4, 5, 6], [0, 1, 2, 3, 4, 5, 6, 7], [0, 1, 2, 3, 4, 5, 6, 7, 8, 9]] (by kernel_rfl) (by kernel_rfl) (by kernel_rfl) (by kernel_rfl) ?_; simp only [List.take_succ_cons, List.take_zero, List.drop_succ_cons, List.drop_zero, List.take_nil, List.drop_nil]
    (repeat (apply VD_der; (case h => (intro us w' hx hf; obtain ⟨x, rfl⟩ := hx.out; refine ⟨rfl, ?_⟩; simp [go_sem, execOp, *]; (try simp (disch := omega) only [Go.IntWalk.i64_in, Go.IntWalk.rem_in, Go.IntWalk.wrap64_in]); rfl)); (try simp only [Act.put, List.setIfInBounds_toArray, List.set_cons_succ, List.set_cons_zero])))
    (refine VD_vag (fun p => .slice (p 0).1 (16) (p 0).2) (fun p w'' => Own w'' 0 (p 0).1 (16) (p 0).2 (ct)) (fun p w w' h hx => h.ext hx) (fun us w' hx hf => ⟨rfl, ?_⟩) ?_; (unfold gives; simp [go_sem, execOp]; exact vag_fresh (Nat.zero_le _) (hct _ _ _ (hS3.ext hx))))
    (repeat (apply VD_der; (case h => (intro us w' hx hf; obtain ⟨x, rfl⟩ := hx.out; refine ⟨rfl, ?_⟩; simp [go_sem, execOp, *]; (try simp (disch := omega) only [Go.IntWalk.i64_in, Go.IntWalk.rem_in, Go.IntWalk.wrap64_in]); rfl)); (try simp only [Act.put, List.setIfInBounds_toArray, List.set_cons_succ, List.set_cons_zero])))
    (refine VD_vag (fun p => .tuple #[.slice (p 0).1 (k) (p 0).2, .int .i64 0]) (fun p w'' => Sl w'' (p 0).1 (k) (st) ∧ (k) ≤ (p 0).2) (fun p w w' h hx => ⟨h.1.ext hx, h.2⟩) (fun us w' hx hf => ⟨rfl, ?_⟩) ?_; (unfold gives; simp [go_sem, execOp]; exact vag_read (hst _ _ _ _ _ (hkW.ext hx) (Own.sl (by exact (hf _ (List.mem_append_right _ (List.mem_singleton_self _)) rfl))) (Own.le (by exact (hf _ (List.mem_append_right _ (List.mem_singleton_self _)) rfl))).1 (hpW.ext hx))))
    (repeat (apply VD_der; (case h => (intro us w' hx hf; obtain ⟨x, rfl⟩ := hx.out; refine ⟨rfl, ?_⟩; simp [go_sem, execOp, *]; (try simp (disch := omega) only [Go.IntWalk.i64_in, Go.IntWalk.rem_in, Go.IntWalk.wrap64_in]); rfl)); (try simp only [Act.put, List.setIfInBounds_toArray, List.set_cons_succ, List.set_cons_zero])))
    (refine VD_nil ?_; intro us w' hx hf; obtain ⟨x, rfl⟩ := hx.out; (try simp only [Act.put, List.setIfInBounds_toArray, List.set_cons_succ, List.set_cons_zero, wpList_none]); (try simp only [List.mem_cons, List.not_mem_nil, or_false, forall_eq_or_imp, forall_eq, List.nil_append, List.cons_append, List.mem_append, false_or, true_and, and_true] at hf); (try simp only [Nat.reduceAdd, Nat.zero_add] at hf); (try simp only [Nat.reduceAdd, Nat.zero_add]))
    obtain ⟨-, hS4, hc4⟩ := hf
    go_wp2_with fail
    (with_reducible refine (join_any _ _ _ [tg, st] _ (bss2 ?h1 ?h2 _) (by omega) (16 + k) hjl (by omega)).mono ?_)
    case h1 => exact (by (repeat' (first | with_reducible assumption | (with_reducible exact zeros16 _) | (with_reducible exact sl_new1 _ _ _) | (with_reducible first | apply Sl.upE | apply Sl.upA | apply Sl.upD))))
    case h2 => exact (by (repeat' (first | with_reducible assumption | (with_reducible exact zeros16 _) | (with_reducible exact sl_new1 _ _ _) | (with_reducible first | apply Sl.upE | apply Sl.upA | apply Sl.upD))))
    rintro e _ ⟨_, _, rfl, hO, hx⟩
    obtain ⟨_, rfl⟩ := hx.out
    clear hx
    go_wp2
    rw [HJ.out] at hO
    go_ret2
    exact ⟨_, _, rfl, hO.sl, hO.le.1, hxW.trans (by repeat (first | (with_reducible first | exact Ext.refl _ | assumption | apply Ext.alloc | apply Ext.ext | apply Ext.drew | refine Ext.setCell ?_ ?_ _) | (focus (simp [go_sem]; done))))⟩
  · have e : sealE ky A p = ([], (tagE ky A p).2) := by unfold sealE; rw [if_pos h0]
    rw [e]
    have hI := ne0 h0
    generalize (tagE ky A p).2 = v at *
    generalize (tagE ky A p).1 = tg at *
    clear e h0
    go_enter Try.func51, Try.ntmps51
    go_wp2_with (first | (go_at_call 50; (with_reducible refine (ht ?_ ?hq129 ?hq130 ?hq131).mono ?_); (case hq129 => (repeat' (first | with_reducible assumption | (with_reducible exact zeros16 _) | (with_reducible exact sl_new1 _ _ _) | (with_reducible first | apply Sl.upE | apply Sl.upA | apply Sl.upD)))); (case hq130 => (repeat' (first | with_reducible assumption | (refine bsc2 ?_ ?_ ?_ ?_ _; (· (repeat' (first | with_reducible assumption | (with_reducible exact zeros16 _) | (with_reducible exact sl_new1 _ _ _) | (with_reducible first | apply Sl.upE | apply Sl.upA | apply Sl.upD)))); (· omega); (· (repeat' (first | with_reducible assumption | (with_reducible exact zeros16 _) | (with_reducible exact sl_new1 _ _ _) | (with_reducible first | apply Sl.upE | apply Sl.upA | apply Sl.upD)))); (· omega)) | (with_reducible first | apply Bsc.upE | apply Bsc.upA | apply Bsc.upD)))); (case hq131 => (repeat' (first | with_reducible assumption | (with_reducible exact zeros16 _) | (with_reducible exact sl_new1 _ _ _) | (with_reducible first | apply Sl.upE | apply Sl.upA | apply Sl.upD)))); rintro e _ ⟨_, _, rfl, hS, hc, hx⟩; obtain ⟨_, rfl⟩ := hx.out; clear hx) | fail)
    go_ret2
    exact read2_err _ _ _ (by repeat (first | (with_reducible first | exact Ext.refl _ | assumption | apply Ext.alloc | apply Ext.ext | apply Ext.drew | refine Ext.setCell ?_ ?_ _) | (focus (simp [go_sem]; done))))

set_option maxRecDepth 100000 in
set_option maxHeartbeats 4000000 in
theorem ropen_any (a b c : Option Addr) (n ca m cb k cc : Nat) (ky : List UInt8) (A : List (List UInt8)) (s : List UInt8) (w : World) (hk : Sl w a n ky) (hca : n ≤ ca) (hA : Bsc w b m A) (hm : m ≤ 1000000) (hs : Sl w c k s) (hkc : k ≤ cc) (hk1 : k ≤ 1000000) :
    Calls Try.prog 53 #[.slice a n ca, .slice b m cb, .slice c k cc] w (Read2 (openE ky A s).1.length (openE ky A s).1 (.int .i64 (openE ky A s).2) w) := by
  have hc := fun w h1 h2 => rcheck_any a b n ca m cb ky A ((k : Int) - 16) w h1 h2 hm
  have hsl := hs.len
  by_cases h0 : checkA ky A = 0 ∧ k ≤ 65535
  · obtain ⟨h0, hl⟩ := h0
    obtain ⟨h32, _, _⟩ := checkA_ok h0
    rw [hk.len] at h32
    subst h32
    have h00 : checkR ky A ((k : Int) - 16) = 0 := by unfold checkR; rw [if_neg (by rw [h0]; simp), if_neg (by omega)]
    rw [h00] at hc
    by_cases h16 : k < 16
    · have e : openE ky A s = ([], 1) := by unfold openE; rw [if_neg (by rw [h0]; simp), if_neg (by omega), if_pos (by omega)]
      rw [e]
      have hI : decide ((k : Int) < 16) = true := by simp; omega
      clear e h0 hsl h00
      go_enter Try.func53, Try.ntmps53
      go_wp2_with (first | (go_at_call 77; (with_reducible refine (hc ?_ ?hq140 ?hq141).mono ?_); (case hq140 => (repeat' (first | with_reducible assumption | (with_reducible exact zeros16 _) | (with_reducible exact sl_new1 _ _ _) | (with_reducible first | apply Sl.upE | apply Sl.upA | apply Sl.upD)))); (case hq141 => (repeat' (first | with_reducible assumption | (refine bsc2 ?_ ?_ ?_ ?_ _; (· (repeat' (first | with_reducible assumption | (with_reducible exact zeros16 _) | (with_reducible exact sl_new1 _ _ _) | (with_reducible first | apply Sl.upE | apply Sl.upA | apply Sl.upD)))); (· omega); (· (repeat' (first | with_reducible assumption | (with_reducible exact zeros16 _) | (with_reducible exact sl_new1 _ _ _) | (with_reducible first | apply Sl.upE | apply Sl.upA | apply Sl.upD)))); (· omega)) | (with_reducible first | apply Bsc.upE | apply Bsc.upA | apply Bsc.upD)))); rintro e w1 ⟨rfl, hxq⟩; obtain ⟨xq, rfl⟩ := hxq.out; clear hxq) | fail)
      go_ret2
      exact read2_err _ _ _ (by repeat (first | (with_reducible first | exact Ext.refl _ | assumption | apply Ext.alloc | apply Ext.ext | apply Ext.drew | refine Ext.setCell ?_ ?_ _) | (focus (simp [go_sem]; done))))
    · have e := Lib.hid (show openE ky A s = if (tagE ky A (plainOf ky s)).1 = s.take 16 then (plainOf ky s, 0) else ([], 6) by unfold openE; rw [if_neg (by rw [h0]; simp), if_neg (by omega), if_neg (by omega)])
      have htg : tagE ky A (plainOf ky s) = (s2v (ky.take 16) (A ++ [plainOf ky s]), 0) := tagE_ok h0 (by rw [plainOf_length]; omega)
      have ht := fun c cc w h1 h3 h5 h6 => rtag_any a b c 32 ca m cb (k - 16) cc ky A (plainOf ky s) w h1 hca h3 hm h5 h6
      have hpo : plainOf ky s = stream (ky.drop 16) (ctrOf (s.take 16)) (s.drop 16) := rfl
      obtain ⟨b0, o0, rfl, hb0, _⟩ := hk.at 0 (by omega)
      have hk2 := sl_from hk hca (i := 16) (by omega)
      have hs1 := hs.take 16 (by omega)
      have hs2 := hs.drop cc 16 hkc
      have hst := fun a1 a2 a3 c1 c2 c3 w h1 h2 h3 h4 => rstream_any a1 a2 a3 c1 c2 c3 (k - 16) (ky.drop 16) (ctrOf (s.take 16)) (s.drop 16) w h1 h2 h3 h4 (by omega)
      have hct := fun a c w h => counter_any a c (s.take 16) w h
      rw [← hpo] at hst
      rw [htg] at ht
      rw [htg] at e
      have hpl : (plainOf ky s).length = k - 16 := by rw [plainOf_length]; omega
      have htl := s2v_length (ky.take 16) (A ++ [plainOf ky s])
      simp only at ht e
      rw [htl] at ht
      generalize s2v (ky.take 16) (A ++ [plainOf ky s]) = tg at *
      generalize plainOf ky s = pl at *
      generalize ctrOf (s.take 16) = ct at *
      generalize s.take 16 = s0 at *
      generalize s.drop 16 = s1 at *
      clear htg h0 hpo hsl h00
      rw [e.out]
      have hI : decide ((k : Int) < 16) = false := by simp; omega
      have q : (16 : Int) ≤ (ca : Int) := by omega
      have q2 : (16 : Int) ≤ (k : Int) := by omega
      have q3 : (16 : Int) ≤ (cc : Int) := by omega
      have q4 : ¬ ca = 16 := by omega
      by_cases he : tg = s0
      · rw [if_pos he]
        show Calls _ _ _ _ (Read2 pl.length _ _ _)
        rw [hpl]
        have hb : (tg == s0) = true := by simpa using he
        clear he
        clear e
        go_enter Try.func53, Try.ntmps53
        go_wp2_with (first | (go_at_call 77; (with_reducible refine (hc ?_ ?hq142 ?hq143).mono ?_); (case hq142 => (repeat' (first | with_reducible assumption | (with_reducible exact zeros16 _) | (with_reducible exact sl_new1 _ _ _) | (with_reducible first | apply Sl.upE | apply Sl.upA | apply Sl.upD)))); (case hq143 => (repeat' (first | with_reducible assumption | (refine bsc2 ?_ ?_ ?_ ?_ _; (· (repeat' (first | with_reducible assumption | (with_reducible exact zeros16 _) | (with_reducible exact sl_new1 _ _ _) | (with_reducible first | apply Sl.upE | apply Sl.upA | apply Sl.upD)))); (· omega); (· (repeat' (first | with_reducible assumption | (with_reducible exact zeros16 _) | (with_reducible exact sl_new1 _ _ _) | (with_reducible first | apply Sl.upE | apply Sl.upA | apply Sl.upD)))); (· omega)) | (with_reducible first | apply Bsc.upE | apply Bsc.upA | apply Bsc.upD)))); rintro e w1 ⟨rfl, hxq⟩; obtain ⟨xq, rfl⟩ := hxq.out; clear hxq) | fail)
        have hxW : Ext w (w.ext xq) := (by repeat (first | (with_reducible first | exact Ext.refl _ | assumption | apply Ext.alloc | apply Ext.ext | apply Ext.drew | refine Ext.setCell ?_ ?_ _) | (focus (simp [go_sem]; done))))
        have hkW := hk2.ext hxW
        have hs1W := hs1.ext hxW
        have hs2W := hs2.ext hxW
        have hkk := hk.ext hxW
        have hAA := hA.ext hxW
        generalize w.ext xq = W at *
        refine wp_region_vague 13 [[], [0], [], [2], [2, 3], [], [5], [0, 1, 2, 3, 4, 5, 6], [0, 1, 2, 3, 4, 5, 6, 7], [0, 1, 2, 3, 4, 5, 6, 7, 8], [0, 1, 2, 3, 4, 5, 6, 7, 8], [0, 1, 2, 3, 4, 5, 6, 7, 8, 9], [0, 1, 2, 3, 4, 5, 6, 7, 8, 9, 10, 11]] (by kernel_rfl) (by kernel_rfl) (by kernel_rfl) (by kernel_rfl) ?_; simp only [List.take_succ_cons, List.take_zero, List.drop_succ_cons, List.drop_zero, List.take_nil, List.drop_nil]
        (repeat (apply VD_der; (case h => (intro us w' hx hf; obtain ⟨x, rfl⟩ := hx.out; refine ⟨rfl, ?_⟩; simp [go_sem, execOp, *]; (try simp (disch := omega) only [Go.IntWalk.i64_in, Go.IntWalk.rem_in, Go.IntWalk.wrap64_in]); rfl)); (try simp only [Act.put, List.setIfInBounds_toArray, List.set_cons_succ, List.set_cons_zero])))
        (refine VD_vag (fun p => .slice (p 0).1 (16) (p 0).2) (fun p w'' => Own w'' 0 (p 0).1 (16) (p 0).2 (ct)) (fun p w w' h hx => h.ext hx) (fun us w' hx hf => ⟨rfl, ?_⟩) ?_; (unfold gives; simp [go_sem, execOp]; exact vag_fresh (Nat.zero_le _) (hct _ _ _ (hs1W.ext hx))))
        (repeat (apply VD_der; (case h => (intro us w' hx hf; obtain ⟨x, rfl⟩ := hx.out; refine ⟨rfl, ?_⟩; simp [go_sem, execOp, *]; (try simp (disch := omega) only [Go.IntWalk.i64_in, Go.IntWalk.rem_in, Go.IntWalk.wrap64_in]); rfl)); (try simp only [Act.put, List.setIfInBounds_toArray, List.set_cons_succ, List.set_cons_zero])))
        (refine VD_vag (fun p => .tuple #[.slice (p 0).1 (k - 16) (p 0).2, .int .i64 0]) (fun p w'' => Sl w'' (p 0).1 (k - 16) pl ∧ k ≤ (p 0).2 + 16) (fun p w w' h hx => ⟨h.1.ext hx, h.2⟩) (fun us w' hx hf => ⟨rfl, ?_⟩) ?_; (unfold gives; simp [go_sem, execOp]; exact (hst _ _ _ _ _ _ _ (hkW.ext hx) (Own.sl (by exact (hf _ (List.mem_append_right _ (List.mem_singleton_self _)) rfl))) (Own.le (by exact (hf _ (List.mem_append_right _ (List.mem_singleton_self _)) rfl))).1 (hs2W.ext hx)).mono fun _ _ ⟨a, c, he, hO, hc, hx⟩ => ⟨_, he, fun _ => (a, c), rfl, hx, hO, by show k ≤ c + 16; omega⟩))
        (repeat (apply VD_der; (case h => (intro us w' hx hf; obtain ⟨x, rfl⟩ := hx.out; refine ⟨rfl, ?_⟩; simp [go_sem, execOp, *]; (try simp (disch := omega) only [Go.IntWalk.i64_in, Go.IntWalk.rem_in, Go.IntWalk.wrap64_in]); rfl)); (try simp only [Act.put, List.setIfInBounds_toArray, List.set_cons_succ, List.set_cons_zero])))
        (refine VD_nil ?_; intro us w' hx hf; obtain ⟨x, rfl⟩ := hx.out; (try simp only [Act.put, List.setIfInBounds_toArray, List.set_cons_succ, List.set_cons_zero, wpList_none]); (try simp only [List.mem_cons, List.not_mem_nil, or_false, forall_eq_or_imp, forall_eq, List.nil_append, List.cons_append, List.mem_append, false_or, true_and, and_true] at hf); (try simp only [Nat.reduceAdd, Nat.zero_add] at hf); (try simp only [Nat.reduceAdd, Nat.zero_add]))
        obtain ⟨-, hS4, hc4⟩ := hf
        go_wp2_with (first
          | (go_at_call 50; (with_reducible refine (ht ?_ ?_ ?_ ?hq132 ?hq133 ?hq134 ?hq135).mono ?_); (case hq132 => (repeat' (first | with_reducible assumption | (with_reducible exact zeros16 _) | (with_reducible exact sl_new1 _ _ _) | (with_reducible first | apply Sl.upE | apply Sl.upA | apply Sl.upD)))); (case hq133 => (repeat' (first | with_reducible assumption | (refine bsc2 ?_ ?_ ?_ ?_ _; (· (repeat' (first | with_reducible assumption | (with_reducible exact zeros16 _) | (with_reducible exact sl_new1 _ _ _) | (with_reducible first | apply Sl.upE | apply Sl.upA | apply Sl.upD)))); (· omega); (· (repeat' (first | with_reducible assumption | (with_reducible exact zeros16 _) | (with_reducible exact sl_new1 _ _ _) | (with_reducible first | apply Sl.upE | apply Sl.upA | apply Sl.upD)))); (· omega)) | (with_reducible first | apply Bsc.upE | apply Bsc.upA | apply Bsc.upD)))); (case hq134 => (repeat' (first | with_reducible assumption | (with_reducible exact zeros16 _) | (with_reducible exact sl_new1 _ _ _) | (with_reducible first | apply Sl.upE | apply Sl.upA | apply Sl.upD)))); (case hq135 => omega); rintro e _ ⟨_, _, rfl, hS, hc, hx⟩; obtain ⟨_, rfl⟩ := hx.out; clear hx)
          | (go_at_call 21; (with_reducible refine (same_any ?_ ?_ ?_ ?_ ?_ ?_ tg s0 ?_ ?hq144 ?hq145).mono ?_); (case hq144 => (repeat' (first | with_reducible assumption | (with_reducible exact zeros16 _) | (with_reducible exact sl_new1 _ _ _) | (with_reducible first | apply Sl.upE | apply Sl.upA | apply Sl.upD)))); (case hq145 => (repeat' (first | with_reducible assumption | (with_reducible exact zeros16 _) | (with_reducible exact sl_new1 _ _ _) | (with_reducible first | apply Sl.upE | apply Sl.upA | apply Sl.upD)))); rintro e w1 ⟨rfl, hxq⟩; obtain ⟨xq, rfl⟩ := hxq.out; clear hxq)
          | fail)
        go_ret2
        exact ⟨_, _, rfl, (by (repeat' (first | with_reducible assumption | (with_reducible exact zeros16 _) | (with_reducible exact sl_new1 _ _ _) | (with_reducible first | apply Sl.upE | apply Sl.upA | apply Sl.upD)))), by omega, hxW.trans (by repeat (first | (with_reducible first | exact Ext.refl _ | assumption | apply Ext.alloc | apply Ext.ext | apply Ext.drew | refine Ext.setCell ?_ ?_ _) | (focus (simp [go_sem]; done))))⟩
      · rw [if_neg he]
        have hb : (tg == s0) = false := by simpa using he
        clear he
        clear e
        go_enter Try.func53, Try.ntmps53
        go_wp2_with (first | (go_at_call 77; (with_reducible refine (hc ?_ ?hq146 ?hq147).mono ?_); (case hq146 => (repeat' (first | with_reducible assumption | (with_reducible exact zeros16 _) | (with_reducible exact sl_new1 _ _ _) | (with_reducible first | apply Sl.upE | apply Sl.upA | apply Sl.upD)))); (case hq147 => (repeat' (first | with_reducible assumption | (refine bsc2 ?_ ?_ ?_ ?_ _; (· (repeat' (first | with_reducible assumption | (with_reducible exact zeros16 _) | (with_reducible exact sl_new1 _ _ _) | (with_reducible first | apply Sl.upE | apply Sl.upA | apply Sl.upD)))); (· omega); (· (repeat' (first | with_reducible assumption | (with_reducible exact zeros16 _) | (with_reducible exact sl_new1 _ _ _) | (with_reducible first | apply Sl.upE | apply Sl.upA | apply Sl.upD)))); (· omega)) | (with_reducible first | apply Bsc.upE | apply Bsc.upA | apply Bsc.upD)))); rintro e w1 ⟨rfl, hxq⟩; obtain ⟨xq, rfl⟩ := hxq.out; clear hxq) | fail)
        have hxW : Ext w (w.ext xq) := (by repeat (first | (with_reducible first | exact Ext.refl _ | assumption | apply Ext.alloc | apply Ext.ext | apply Ext.drew | refine Ext.setCell ?_ ?_ _) | (focus (simp [go_sem]; done))))
        have hkW := hk2.ext hxW
        have hs1W := hs1.ext hxW
        have hs2W := hs2.ext hxW
        have hkk := hk.ext hxW
        have hAA := hA.ext hxW
        generalize w.ext xq = W at *
        refine wp_region_vague 13 [[], [0], [], [2], [2, 3], [], [5], [0, 1, 2, 3, 4, 5, 6], [0, 1, 2, 3, 4, 5, 6, 7], [0, 1, 2, 3, 4, 5, 6, 7, 8], [0, 1, 2, 3, 4, 5, 6, 7, 8], [0, 1, 2, 3, 4, 5, 6, 7, 8, 9], [0, 1, 2, 3, 4, 5, 6, 7, 8, 9, 10, 11]] (by kernel_rfl) (by kernel_rfl) (by kernel_rfl) (by kernel_rfl) ?_; simp only [List.take_succ_cons, List.take_zero, List.drop_succ_cons, List.drop_zero, List.take_nil, List.drop_nil]
        (repeat (apply VD_der; (case h => (intro us w' hx hf; obtain ⟨x, rfl⟩ := hx.out; refine ⟨rfl, ?_⟩; simp [go_sem, execOp, *]; (try simp (disch := omega) only [Go.IntWalk.i64_in, Go.IntWalk.rem_in, Go.IntWalk.wrap64_in]); rfl)); (try simp only [Act.put, List.setIfInBounds_toArray, List.set_cons_succ, List.set_cons_zero])))
        (refine VD_vag (fun p => .slice (p 0).1 (16) (p 0).2) (fun p w'' => Own w'' 0 (p 0).1 (16) (p 0).2 (ct)) (fun p w w' h hx => h.ext hx) (fun us w' hx hf => ⟨rfl, ?_⟩) ?_; (unfold gives; simp [go_sem, execOp]; exact vag_fresh (Nat.zero_le _) (hct _ _ _ (hs1W.ext hx))))
        (repeat (apply VD_der; (case h => (intro us w' hx hf; obtain ⟨x, rfl⟩ := hx.out; refine ⟨rfl, ?_⟩; simp [go_sem, execOp, *]; (try simp (disch := omega) only [Go.IntWalk.i64_in, Go.IntWalk.rem_in, Go.IntWalk.wrap64_in]); rfl)); (try simp only [Act.put, List.setIfInBounds_toArray, List.set_cons_succ, List.set_cons_zero])))
        (refine VD_vag (fun p => .tuple #[.slice (p 0).1 (k - 16) (p 0).2, .int .i64 0]) (fun p w'' => Sl w'' (p 0).1 (k - 16) pl ∧ k ≤ (p 0).2 + 16) (fun p w w' h hx => ⟨h.1.ext hx, h.2⟩) (fun us w' hx hf => ⟨rfl, ?_⟩) ?_; (unfold gives; simp [go_sem, execOp]; exact (hst _ _ _ _ _ _ _ (hkW.ext hx) (Own.sl (by exact (hf _ (List.mem_append_right _ (List.mem_singleton_self _)) rfl))) (Own.le (by exact (hf _ (List.mem_append_right _ (List.mem_singleton_self _)) rfl))).1 (hs2W.ext hx)).mono fun _ _ ⟨a, c, he, hO, hc, hx⟩ => ⟨_, he, fun _ => (a, c), rfl, hx, hO, by show k ≤ c + 16; omega⟩))
        (repeat (apply VD_der; (case h => (intro us w' hx hf; obtain ⟨x, rfl⟩ := hx.out; refine ⟨rfl, ?_⟩; simp [go_sem, execOp, *]; (try simp (disch := omega) only [Go.IntWalk.i64_in, Go.IntWalk.rem_in, Go.IntWalk.wrap64_in]); rfl)); (try simp only [Act.put, List.setIfInBounds_toArray, List.set_cons_succ, List.set_cons_zero])))
        (refine VD_nil ?_; intro us w' hx hf; obtain ⟨x, rfl⟩ := hx.out; (try simp only [Act.put, List.setIfInBounds_toArray, List.set_cons_succ, List.set_cons_zero, wpList_none]); (try simp only [List.mem_cons, List.not_mem_nil, or_false, forall_eq_or_imp, forall_eq, List.nil_append, List.cons_append, List.mem_append, false_or, true_and, and_true] at hf); (try simp only [Nat.reduceAdd, Nat.zero_add] at hf); (try simp only [Nat.reduceAdd, Nat.zero_add]))
        obtain ⟨-, hS4, hc4⟩ := hf
        go_wp2_with (first
          | (go_at_call 50; (with_reducible refine (ht ?_ ?_ ?_ ?hq136 ?hq137 ?hq138 ?hq139).mono ?_); (case hq136 => (repeat' (first | with_reducible assumption | (with_reducible exact zeros16 _) | (with_reducible exact sl_new1 _ _ _) | (with_reducible first | apply Sl.upE | apply Sl.upA | apply Sl.upD)))); (case hq137 => (repeat' (first | with_reducible assumption | (refine bsc2 ?_ ?_ ?_ ?_ _; (· (repeat' (first | with_reducible assumption | (with_reducible exact zeros16 _) | (with_reducible exact sl_new1 _ _ _) | (with_reducible first | apply Sl.upE | apply Sl.upA | apply Sl.upD)))); (· omega); (· (repeat' (first | with_reducible assumption | (with_reducible exact zeros16 _) | (with_reducible exact sl_new1 _ _ _) | (with_reducible first | apply Sl.upE | apply Sl.upA | apply Sl.upD)))); (· omega)) | (with_reducible first | apply Bsc.upE | apply Bsc.upA | apply Bsc.upD)))); (case hq138 => (repeat' (first | with_reducible assumption | (with_reducible exact zeros16 _) | (with_reducible exact sl_new1 _ _ _) | (with_reducible first | apply Sl.upE | apply Sl.upA | apply Sl.upD)))); (case hq139 => omega); rintro e _ ⟨_, _, rfl, hS, hc, hx⟩; obtain ⟨_, rfl⟩ := hx.out; clear hx)
          | (go_at_call 21; (with_reducible refine (same_any ?_ ?_ ?_ ?_ ?_ ?_ tg s0 ?_ ?hq148 ?hq149).mono ?_); (case hq148 => (repeat' (first | with_reducible assumption | (with_reducible exact zeros16 _) | (with_reducible exact sl_new1 _ _ _) | (with_reducible first | apply Sl.upE | apply Sl.upA | apply Sl.upD)))); (case hq149 => (repeat' (first | with_reducible assumption | (with_reducible exact zeros16 _) | (with_reducible exact sl_new1 _ _ _) | (with_reducible first | apply Sl.upE | apply Sl.upA | apply Sl.upD)))); rintro e w1 ⟨rfl, hxq⟩; obtain ⟨xq, rfl⟩ := hxq.out; clear hxq)
          | fail)
        go_ret2
        exact read2_err _ _ _ (hxW.trans (by repeat (first | (with_reducible first | exact Ext.refl _ | assumption | apply Ext.alloc | apply Ext.ext | apply Ext.drew | refine Ext.setCell ?_ ?_ _) | (focus (simp [go_sem]; done)))))
  · have e : openE ky A s = ([], checkR ky A ((k : Int) - 16)) ∧ checkR ky A ((k : Int) - 16) ≠ 0 := by
      unfold openE checkR
      by_cases h1 : checkA ky A ≠ 0
      · rw [if_pos h1, if_pos h1]; exact ⟨rfl, h1⟩
      · have h2 : 65535 < k := by
          rcases Nat.lt_or_ge 65535 k with h3 | h3
          · exact h3
          · exact absurd ⟨by simpa using h1, h3⟩ h0
        rw [if_neg h1, if_neg h1, if_pos (by omega), if_pos (by omega)]; exact ⟨rfl, by decide⟩
    obtain ⟨e, hne⟩ := e
    rw [e]
    have hI := ne0 hne
    generalize checkR ky A ((k : Int) - 16) = v at *
    clear e h0 hne
    go_enter Try.func53, Try.ntmps53
    go_wp2_with (first | (go_at_call 77; (with_reducible refine (hc ?_ ?hq150 ?hq151).mono ?_); (case hq150 => (repeat' (first | with_reducible assumption | (with_reducible exact zeros16 _) | (with_reducible exact sl_new1 _ _ _) | (with_reducible first | apply Sl.upE | apply Sl.upA | apply Sl.upD)))); (case hq151 => (repeat' (first | with_reducible assumption | (refine bsc2 ?_ ?_ ?_ ?_ _; (· (repeat' (first | with_reducible assumption | (with_reducible exact zeros16 _) | (with_reducible exact sl_new1 _ _ _) | (with_reducible first | apply Sl.upE | apply Sl.upA | apply Sl.upD)))); (· omega); (· (repeat' (first | with_reducible assumption | (with_reducible exact zeros16 _) | (with_reducible exact sl_new1 _ _ _) | (with_reducible first | apply Sl.upE | apply Sl.upA | apply Sl.upD)))); (· omega)) | (with_reducible first | apply Bsc.upE | apply Bsc.upA | apply Bsc.upD)))); rintro e w1 ⟨rfl, hxq⟩; obtain ⟨xq, rfl⟩ := hxq.out; clear hxq) | fail)
    go_ret2
    exact read2_err _ _ _ (by repeat (first | (with_reducible first | exact Ext.refl _ | assumption | apply Ext.alloc | apply Ext.ext | apply Ext.drew | refine Ext.setCell ?_ ?_ _) | (focus (simp [go_sem]; done))))
end Go.Proofs.Ythooaeeajeajnaa

/- Layer 6: the sanity check, and the laws AeadActs and AeadOpens. -/
namespace Go.Aes
def lightB (ky : List UInt8) (A : List (List UInt8)) (b : List UInt8) : Bool := decide (ky.length ≤ 60) && decide (A.length ≤ 20) && decide (b.length ≤ 100) && A.all fun x => decide (x.length ≤ 60)
theorem lightB_spec {ky : List UInt8} {A : List (List UInt8)} {b : List UInt8} (h : lightB ky A b = true) : ky.length ≤ 60 ∧ A.length ≤ 20 ∧ b.length ≤ 100 ∧ ∀ x ∈ A, x.length ≤ 60 := by
  simpa [lightB, and_assoc] using h
theorem checkA_light {ky : List UInt8} {A : List (List UInt8)} (h1 : ky.length = 32) (h2 : A.length ≤ 16) (h3 : ∀ x ∈ A, x.length ≤ 60) : checkA ky A = 0 := by
  unfold checkA longA
  rw [if_neg (by omega), if_neg (by omega), if_neg]
  rw [Bool.not_eq_true, List.any_eq_false]
  intro x hx
  have := h3 x hx
  simp; omega
theorem sealE_ok {ky : List UInt8} {A : List (List UInt8)} {p : List UInt8} (h : checkA ky A = 0) (hp : p.length ≤ 65519) :
    sealE ky A p = (s2v (ky.take 16) (A ++ [p]) ++ stream (ky.drop 16) (ctrOf (s2v (ky.take 16) (A ++ [p]))) p, 0) := by
  unfold sealE
  rw [tagE_ok h hp, if_neg (by simp)]
theorem openE_seal {ky : List UInt8} {A : List (List UInt8)} {p : List UInt8} (h : checkA ky A = 0) (hp : p.length ≤ 65519) : openE ky A (sealE ky A p).1 = (p, 0) := by
  rw [sealE_ok h hp]
  have ht := s2v_length (ky.take 16) (A ++ [p])
  generalize hT : s2v (ky.take 16) (A ++ [p]) = t at *
  have h1 : (t ++ stream (ky.drop 16) (ctrOf t) p).take 16 = t := by rw [List.take_append_of_le_length (by omega), List.take_of_length_le (by omega)]
  have h2 : (t ++ stream (ky.drop 16) (ctrOf t) p).drop 16 = stream (ky.drop 16) (ctrOf t) p := by rw [List.drop_append_of_le_length (by omega), List.drop_of_length_le (by omega), List.nil_append]
  have h3 : plainOf ky (t ++ stream (ky.drop 16) (ctrOf t) p) = p := by
    unfold plainOf
    rw [h1, h2]
    exact streamK_undo _ _ _
  have hsl := stream_length (ky.drop 16) (ctrOf t) p
  unfold openE
  rw [if_neg (by rw [h]; simp), if_neg (by simp [ht, hsl]; omega), if_neg (by simp [ht]), h3, tagE_ok h hp, h1, hT, if_pos rfl]
end Go.Aes
namespace Go.Proofs.Ythooaeeajeajnaa
open Go.RowKit Go.Sec Go.Oct Go.Aes Go.Sha BigFrame

def s_sk : List UInt8 := [102, 102, 102, 101, 102, 100, 102, 99, 102, 98, 102, 97, 102, 57, 102, 56, 102, 55, 102, 54, 102, 53, 102, 52, 102, 51, 102, 50, 102, 49, 102, 48, 102, 48, 102, 49, 102, 50, 102, 51, 102, 52, 102, 53, 102, 54, 102, 55, 102, 56, 102, 57, 102, 97, 102, 98, 102, 99, 102, 100, 102, 101, 102, 102]
def b_sk : List UInt8 := [255, 254, 253, 252, 251, 250, 249, 248, 247, 246, 245, 244, 243, 242, 241, 240, 240, 241, 242, 243, 244, 245, 246, 247, 248, 249, 250, 251, 252, 253, 254, 255]
theorem un_sk : unhexTo hexV s_sk s_sk.length = b_sk := by decide +kernel
theorem hv_sk : ∀ k, (h : k < s_sk.length) → 0 ≤ Lib.indexByte digits s_sk[k] := by decide +kernel
theorem u_sk (W : World) : Calls Try.prog 58 #[.string ⟨#[102, 102, 102, 101, 102, 100, 102, 99, 102, 98, 102, 97, 102, 57, 102, 56, 102, 55, 102, 54, 102, 53, 102, 52, 102, 51, 102, 50, 102, 49, 102, 48, 102, 48, 102, 49, 102, 50, 102, 51, 102, 52, 102, 53, 102, 54, 102, 55, 102, 56, 102, 57, 102, 97, 102, 98, 102, 99, 102, 100, 102, 101, 102, 102]⟩] W fun e w' => ∃ a c, e = .returned (.tuple #[.slice a 32 c, .bool true]) ∧ Own w' W.heap.size a 32 c b_sk ∧ Ext W w' := by
  have := unhex_any s_sk 32 W rfl (by omega) hv_sk
  rwa [un_sk] at this

def s_sa : List UInt8 := [49, 48, 49, 49, 49, 50, 49, 51, 49, 52, 49, 53, 49, 54, 49, 55, 49, 56, 49, 57, 49, 97, 49, 98, 49, 99, 49, 100, 49, 101, 49, 102, 50, 48, 50, 49, 50, 50, 50, 51, 50, 52, 50, 53, 50, 54, 50, 55]
def b_sa : List UInt8 := [16, 17, 18, 19, 20, 21, 22, 23, 24, 25, 26, 27, 28, 29, 30, 31, 32, 33, 34, 35, 36, 37, 38, 39]
theorem un_sa : unhexTo hexV s_sa s_sa.length = b_sa := by decide +kernel
theorem hv_sa : ∀ k, (h : k < s_sa.length) → 0 ≤ Lib.indexByte digits s_sa[k] := by decide +kernel
theorem u_sa (W : World) : Calls Try.prog 58 #[.string ⟨#[49, 48, 49, 49, 49, 50, 49, 51, 49, 52, 49, 53, 49, 54, 49, 55, 49, 56, 49, 57, 49, 97, 49, 98, 49, 99, 49, 100, 49, 101, 49, 102, 50, 48, 50, 49, 50, 50, 50, 51, 50, 52, 50, 53, 50, 54, 50, 55]⟩] W fun e w' => ∃ a c, e = .returned (.tuple #[.slice a 24 c, .bool true]) ∧ Own w' W.heap.size a 24 c b_sa ∧ Ext W w' := by
  have := unhex_any s_sa 24 W rfl (by omega) hv_sa
  rwa [un_sa] at this

def s_sp : List UInt8 := [49, 49, 50, 50, 51, 51, 52, 52, 53, 53, 54, 54, 55, 55, 56, 56, 57, 57, 97, 97, 98, 98, 99, 99, 100, 100, 101, 101]
def b_sp : List UInt8 := [17, 34, 51, 68, 85, 102, 119, 136, 153, 170, 187, 204, 221, 238]
theorem un_sp : unhexTo hexV s_sp s_sp.length = b_sp := by decide +kernel
theorem hv_sp : ∀ k, (h : k < s_sp.length) → 0 ≤ Lib.indexByte digits s_sp[k] := by decide +kernel
theorem u_sp (W : World) : Calls Try.prog 58 #[.string ⟨#[49, 49, 50, 50, 51, 51, 52, 52, 53, 53, 54, 54, 55, 55, 56, 56, 57, 57, 97, 97, 98, 98, 99, 99, 100, 100, 101, 101]⟩] W fun e w' => ∃ a c, e = .returned (.tuple #[.slice a 14 c, .bool true]) ∧ Own w' W.heap.size a 14 c b_sp ∧ Ext W w' := by
  have := unhex_any s_sp 14 W rfl (by omega) hv_sp
  rwa [un_sp] at this

def s_so : List UInt8 := [56, 53, 54, 51, 50, 100, 48, 55, 99, 54, 101, 56, 102, 51, 55, 102, 57, 53, 48, 97, 99, 100, 51, 50, 48, 97, 50, 101, 99, 99, 57, 51, 52, 48, 99, 48, 50, 98, 57, 54, 57, 48, 99, 52, 100, 99, 48, 52, 100, 97, 101, 102, 55, 102, 54, 97, 102, 101, 53, 99]
def b_so : List UInt8 := [133, 99, 45, 7, 198, 232, 243, 127, 149, 10, 205, 50, 10, 46, 204, 147, 64, 192, 43, 150, 144, 196, 220, 4, 218, 239, 127, 106, 254, 92]
theorem hx_so : hexL b_so = s_so := by decide +kernel
theorem h_so (a : Option Addr) (c : Nat) (W : World) (hS : Sl W a 30 b_so) : Calls Try.prog 59 #[.slice a 30 c] W fun e w' => e = .returned (.string ⟨#[56, 53, 54, 51, 50, 100, 48, 55, 99, 54, 101, 56, 102, 51, 55, 102, 57, 53, 48, 97, 99, 100, 51, 50, 48, 97, 50, 101, 99, 99, 57, 51, 52, 48, 99, 48, 50, 98, 57, 54, 57, 48, 99, 52, 100, 99, 48, 52, 100, 97, 101, 102, 55, 102, 54, 97, 102, 101, 53, 99]⟩) ∧ Ext W w' := by
  have := hex_any a 30 c _ W hS (by omega)
  rwa [hx_so] at this

theorem ks1 : sealE b_sk [b_sa] b_sp = (b_so, 0) := by decide +kernel
theorem lso : b_so.length = 30 := rfl

set_option maxRecDepth 100000 in
set_option maxHeartbeats 2000000 in
theorem known6_any (w : World) : Calls Try.prog 46 #[] w fun e w' => e = .returned (.bool true) ∧ Ext w w' := by
  have u1 := u_sk
  have u2 := u_sa
  have u3 := u_sp
  have h1 := h_so
  have k1 := ks1
  have l1 := lso
  generalize b_sk = kk at *
  generalize b_sa = aa at *
  generalize b_sp = pp at *
  generalize b_so = oo at *
  have hsl := fun a b c ca cb cc w h1 h2 h3 h4 h5 => seal_any a b c 32 ca 1 cb 14 cc kk [aa] pp w h1 h2 h3 (by omega) h4 h5
  rw [k1] at hsl
  simp only [l1] at hsl
  clear k1
  go_enter Try.func46, Try.ntmps46
  go_wp2_with fail
  refine (u1 _).mono ?_
  rintro e w1 ⟨a1, c1, rfl, hO1, hx1⟩
  go_wp2_with fail
  refine (u2 _).mono ?_
  rintro e w2 ⟨a2, c2, rfl, hO2, hx2⟩
  go_wp2_with fail
  refine (u3 _).mono ?_
  rintro e w3 ⟨a3, c3, rfl, hO3, hx3⟩
  clear u1 u2 u3
  have hle1 := hO1.le
  have hle2 := hO2.le
  have hle3 := hO3.le
  have hS1 := hO1.sl.ext (hx2.trans hx3)
  have hS2 := hO2.sl.ext hx3
  have hS3 := hO3.sl
  have hxw := hx1.trans (hx2.trans hx3)
  go_wp2_with fail
  refine (hsl _ _ _ _ _ _ _ (hS1.ext (Ext.of_alloc _ _)) hle1.1 (bsc1 hS2 hle2.1 _) (hS3.ext (Ext.of_alloc _ _)) hle3.1).mono ?_
  rintro e w4 ⟨a4, c4, rfl, hS4, hc4, hx4⟩
  go_wp2_with fail
  refine (h1 _ _ _ hS4).mono ?_
  rintro e w5 ⟨rfl, hx5⟩
  clear h1
  go_wp2_with fail
  go_returns
  exact ⟨rfl, hxw.trans ((Ext.trans (Ext.of_alloc _ _) hx4).trans hx5)⟩
end Go.Proofs.Ythooaeeajeajnaa

/- Layer 6: the laws AeadActs and AeadOpens. -/
namespace Go.Proofs.Ythooaeeajeajnaa
open Go.RowKit Go.Sec Go.Oct Go.Aes Go.Sha BigFrame

set_option maxRecDepth 100000 in
set_option maxHeartbeats 4000000 in
theorem light_any (a b c : Option Addr) (n ca m cb k cc : Nat) (ky : List UInt8) (A : List (List UInt8)) (s : List UInt8) (w : World) (hk : Sl w a n ky) (hA : Bsc w b m A) (hs : Sl w c k s) :
    Calls Try.prog 45 #[.slice a n ca, .slice b m cb, .slice c k cc] w fun e w' => e = .returned (.bool (lightB ky A s)) ∧ Ext w w' := by
  have hkl := hk.len
  have hAl := hA.len
  have hsl := hs.len
  have hcs : (60 : Int) < (n : Int) ∨ (¬ (60 : Int) < (n : Int) ∧ (20 : Int) < (m : Int)) ∨ (¬ (60 : Int) < (n : Int) ∧ ¬ (20 : Int) < (m : Int) ∧ (100 : Int) < (k : Int)) ∨ (¬ (60 : Int) < (n : Int) ∧ ¬ (20 : Int) < (m : Int) ∧ ¬ (100 : Int) < (k : Int)) := by omega
  rcases hcs with h0 | ⟨h0, h1⟩ | ⟨h0, h1, h2⟩ | ⟨h0, h1, h2⟩
  · have e := Lib.hid (show lightB ky A s = false by simp [lightB]; omega)
    clear hkl hAl hsl
    go_enter Try.func45, Try.ntmps45
    go_wp2_with fail
    go_ret
    exact ⟨by rw [e.out]; rfl, Ext.refl _⟩
  · have e := Lib.hid (show lightB ky A s = false by simp [lightB]; omega)
    clear hkl hAl hsl
    go_enter Try.func45, Try.ntmps45
    go_wp2_with fail
    go_ret
    exact ⟨by rw [e.out]; rfl, Ext.refl _⟩
  · have e := Lib.hid (show lightB ky A s = false by simp [lightB]; omega)
    clear hkl hAl hsl
    go_enter Try.func45, Try.ntmps45
    go_wp2_with fail
    go_ret
    exact ⟨by rw [e.out]; rfl, Ext.refl _⟩
  · have e := Lib.hid (show lightB ky A s = A.all fun x => decide (x.length ≤ 60) by
      unfold lightB
      rw [decide_eq_true (by omega), decide_eq_true (by omega), decide_eq_true (by omega)]; rfl)
    clear hkl hsl
    go_enter Try.func45, Try.ntmps45
    go_wp2_with fail
    go_loopw [7] (fun v7 wr => ∃ i : Nat, i ≤ m ∧ v7 = .int .i64 i ∧ Hid (∀ x ∈ A.take i, x.length ≤ 60) ∧ Ext w wr) (fun v7 _ => m - (intOf v7).toNat)
    case atStart => exact ⟨0, by omega, rfl, Lib.hid (by simp), Ext.refl _⟩
    case round =>
      obtain ⟨i, hi, rfl, hm, hx⟩ := hrel
      obtain ⟨x, rfl⟩ := hx.out
      by_cases hlt : i < m
      · obtain ⟨b0, o0, a', n', c', rfl, hb0, hcell, hc', hS⟩ := (hA.ext hx).at i hlt
        have i0 : (0 : Int) ≤ (i : Int) := by omega
        have i1 : (i : Int) < (m : Int) := by omega
        have hln := hS.len
        by_cases h60 : 60 < n'
        · have hI : (60 : Int) < (n' : Int) := by omega
          have e2 := Lib.hid (show lightB ky A s = false by
            rw [e.out, List.all_eq_false]
            exact ⟨_, List.getElem_mem (show i < A.length by omega), by rw [decide_eq_true_eq]; omega⟩)
          clear hln
          go_wp2_with fail
          go_ret
          exact ⟨by rw [e2.out]; rfl, (by repeat (first | (with_reducible first | exact Ext.refl _ | assumption | apply Ext.alloc | apply Ext.ext | apply Ext.drew | refine Ext.setCell ?_ ?_ _) | (focus (simp [go_sem]; done))))⟩
        · have hI : ¬ (60 : Int) < (n' : Int) := by omega
          have hm2 := Lib.hid (show ∀ x ∈ A.take (i + 1), x.length ≤ 60 by
            rw [List.take_succ_eq_append_getElem (by omega)]
            intro x hx
            rcases List.mem_append.1 hx with h | h
            · exact hm.out x h
            · simp only [List.mem_singleton] at h; subst h; omega)
          clear hln
          go_wp2_with fail
          go_roundw
          case rel => exact ⟨i + 1, by omega, by go_num, hm2, (by repeat (first | (with_reducible first | exact Ext.refl _ | assumption | apply Ext.alloc | apply Ext.ext | apply Ext.drew | refine Ext.setCell ?_ ?_ _) | (focus (simp [go_sem]; done))))⟩
          case measure => simp [intOf]; omega
      · have hi2 : ¬ (i : Int) < (m : Int) := by omega
        have e2 := Lib.hid (show lightB ky A s = true by
          rw [e.out, List.all_eq_true]
          have := hm.out
          rw [List.take_of_length_le (by omega)] at this
          intro x hx
          simpa using this x hx)
        go_wp2_with fail
        go_ret
        exact ⟨by rw [e2.out]; rfl, (by repeat (first | (with_reducible first | exact Ext.refl _ | assumption | apply Ext.alloc | apply Ext.ext | apply Ext.drew | refine Ext.setCell ?_ ?_ _) | (focus (simp [go_sem]; done))))⟩

set_option maxRecDepth 100000 in
set_option maxHeartbeats 4000000 in
theorem aeadActs_walk (a0 : Option Addr) (n0 c0 : Nat) (a1 : Option Addr) (n1 c1 : Nat) (a2 : Option Addr) (n2 c2 : Nat) (ky : List UInt8) (A : List (List UInt8)) (b : List UInt8) (w : World) (hk : Sl w a0 n0 ky) (hk' : n0 ≤ c0) (hA : Bsc w a1 n1 A) (hA' : n1 ≤ c1) (hb : Sl w a2 n2 b) (hb' : n2 ≤ c2) :
    Calls Try.prog 13 #[.slice a0 n0 c0, .slice a1 n1 c1, .slice a2 n2 c2] w fun e w' => e = .returned (.bool true) ∧ Ext w w' := by
  have hl := fun w h1 h2 h3 => light_any a0 a1 a2 n0 c0 n1 c1 n2 c2 ky A b w h1 h2 h3
  cases hlt : lightB ky A b
  · rw [hlt] at hl
    clear hlt
    go_enter Try.func13, Try.ntmps13
    go_wp2_with (first | (go_at_call 45; (with_reducible refine (hl ?_ ?hq179 ?hq180 ?hq181).mono ?_); (case hq179 => (repeat' (first | with_reducible assumption | (with_reducible exact zeros16 _) | (with_reducible exact sl_new1 _ _ _) | (with_reducible first | apply Sl.upE | apply Sl.upA | apply Sl.upD)))); (case hq180 => (repeat' (first | with_reducible assumption | (refine bsc2 ?_ ?_ ?_ ?_ _; (· (repeat' (first | with_reducible assumption | (with_reducible exact zeros16 _) | (with_reducible exact sl_new1 _ _ _) | (with_reducible first | apply Sl.upE | apply Sl.upA | apply Sl.upD)))); (· omega); (· (repeat' (first | with_reducible assumption | (with_reducible exact zeros16 _) | (with_reducible exact sl_new1 _ _ _) | (with_reducible first | apply Sl.upE | apply Sl.upA | apply Sl.upD)))); (· omega)) | (with_reducible first | apply Bsc.upE | apply Bsc.upA | apply Bsc.upD)))); (case hq181 => (repeat' (first | with_reducible assumption | (with_reducible exact zeros16 _) | (with_reducible exact sl_new1 _ _ _) | (with_reducible first | apply Sl.upE | apply Sl.upA | apply Sl.upD)))); rintro e w1 ⟨rfl, hxq⟩; obtain ⟨xq, rfl⟩ := hxq.out; clear hxq) | (go_at_call 46; refine (known6_any _).mono ?_; rintro e w1 ⟨rfl, hxq⟩; obtain ⟨xq, rfl⟩ := hxq.out; clear hxq) | fail)
    go_returns
    exact ⟨rfl, (by repeat (first | (with_reducible first | exact Ext.refl _ | assumption | apply Ext.alloc | apply Ext.ext | apply Ext.drew | refine Ext.setCell ?_ ?_ _) | (focus (simp [go_sem]; done))))⟩
  · obtain ⟨h60, h20, h100, hmx⟩ := lightB_spec hlt
    rw [hlt] at hl
    rw [hk.len] at h60
    rw [hA.len] at h20
    rw [hb.len] at h100
    have f1 := fun w h1 h3 h5 => tag_any a0 a1 a2 n0 c0 n1 c1 n2 c2 ky A b w h1 hk' h3 (by omega) h5 hb'
    have f2 := fun w h1 h3 h5 => rtag_any a0 a1 a2 n0 c0 n1 c1 n2 c2 ky A b w h1 hk' h3 (by omega) h5 hb'
    have f3 := fun w h1 h3 h5 => seal_any a0 a1 a2 n0 c0 n1 c1 n2 c2 ky A b w h1 hk' h3 (by omega) h5 hb'
    have f4 := fun w h1 h3 h5 => rseal_any a0 a1 a2 n0 c0 n1 c1 n2 c2 ky A b w h1 hk' h3 (by omega) h5 hb'
    have f5 := fun w h1 h3 h5 => open_any a0 a1 a2 n0 c0 n1 c1 n2 c2 ky A b w h1 hk' h3 (by omega) h5 hb'
    have f6 := fun w h1 h3 h5 => ropen_any a0 a1 a2 n0 c0 n1 c1 n2 c2 ky A b w h1 hk' h3 (by omega) h5 hb' (by omega)
    clear hlt hmx
    generalize (tagE ky A b).2 = e1 at *
    generalize (tagE ky A b).1 = L1 at *
    generalize (sealE ky A b).2 = e2 at *
    generalize (sealE ky A b).1 = L2 at *
    generalize (openE ky A b).2 = e3 at *
    generalize (openE ky A b).1 = L3 at *
    go_enter Try.func13, Try.ntmps13
    go_wp2_with (first
      | (go_at_call 45; (with_reducible refine (hl ?_ ?hq182 ?hq183 ?hq184).mono ?_); (case hq182 => (repeat' (first | with_reducible assumption | (with_reducible exact zeros16 _) | (with_reducible exact sl_new1 _ _ _) | (with_reducible first | apply Sl.upE | apply Sl.upA | apply Sl.upD)))); (case hq183 => (repeat' (first | with_reducible assumption | (refine bsc2 ?_ ?_ ?_ ?_ _; (· (repeat' (first | with_reducible assumption | (with_reducible exact zeros16 _) | (with_reducible exact sl_new1 _ _ _) | (with_reducible first | apply Sl.upE | apply Sl.upA | apply Sl.upD)))); (· omega); (· (repeat' (first | with_reducible assumption | (with_reducible exact zeros16 _) | (with_reducible exact sl_new1 _ _ _) | (with_reducible first | apply Sl.upE | apply Sl.upA | apply Sl.upD)))); (· omega)) | (with_reducible first | apply Bsc.upE | apply Bsc.upA | apply Bsc.upD)))); (case hq184 => (repeat' (first | with_reducible assumption | (with_reducible exact zeros16 _) | (with_reducible exact sl_new1 _ _ _) | (with_reducible first | apply Sl.upE | apply Sl.upA | apply Sl.upD)))); rintro e w1 ⟨rfl, hxq⟩; obtain ⟨xq, rfl⟩ := hxq.out; clear hxq)
      | (go_at_call 49; (with_reducible refine (f1 ?_ ?hq152 ?hq153 ?hq154).mono ?_); (case hq152 => (repeat' (first | with_reducible assumption | (with_reducible exact zeros16 _) | (with_reducible exact sl_new1 _ _ _) | (with_reducible first | apply Sl.upE | apply Sl.upA | apply Sl.upD)))); (case hq153 => (repeat' (first | with_reducible assumption | (refine bsc2 ?_ ?_ ?_ ?_ _; (· (repeat' (first | with_reducible assumption | (with_reducible exact zeros16 _) | (with_reducible exact sl_new1 _ _ _) | (with_reducible first | apply Sl.upE | apply Sl.upA | apply Sl.upD)))); (· omega); (· (repeat' (first | with_reducible assumption | (with_reducible exact zeros16 _) | (with_reducible exact sl_new1 _ _ _) | (with_reducible first | apply Sl.upE | apply Sl.upA | apply Sl.upD)))); (· omega)) | (with_reducible first | apply Bsc.upE | apply Bsc.upA | apply Bsc.upD)))); (case hq154 => (repeat' (first | with_reducible assumption | (with_reducible exact zeros16 _) | (with_reducible exact sl_new1 _ _ _) | (with_reducible first | apply Sl.upE | apply Sl.upA | apply Sl.upD)))); rintro e _ ⟨_, _, rfl, hS, hc, hx⟩; obtain ⟨_, rfl⟩ := hx.out; clear hx)
      | (go_at_call 50; (with_reducible refine (f2 ?_ ?hq155 ?hq156 ?hq157).mono ?_); (case hq155 => (repeat' (first | with_reducible assumption | (with_reducible exact zeros16 _) | (with_reducible exact sl_new1 _ _ _) | (with_reducible first | apply Sl.upE | apply Sl.upA | apply Sl.upD)))); (case hq156 => (repeat' (first | with_reducible assumption | (refine bsc2 ?_ ?_ ?_ ?_ _; (· (repeat' (first | with_reducible assumption | (with_reducible exact zeros16 _) | (with_reducible exact sl_new1 _ _ _) | (with_reducible first | apply Sl.upE | apply Sl.upA | apply Sl.upD)))); (· omega); (· (repeat' (first | with_reducible assumption | (with_reducible exact zeros16 _) | (with_reducible exact sl_new1 _ _ _) | (with_reducible first | apply Sl.upE | apply Sl.upA | apply Sl.upD)))); (· omega)) | (with_reducible first | apply Bsc.upE | apply Bsc.upA | apply Bsc.upD)))); (case hq157 => (repeat' (first | with_reducible assumption | (with_reducible exact zeros16 _) | (with_reducible exact sl_new1 _ _ _) | (with_reducible first | apply Sl.upE | apply Sl.upA | apply Sl.upD)))); rintro e _ ⟨_, _, rfl, hS, hc, hx⟩; obtain ⟨_, rfl⟩ := hx.out; clear hx)
      | (go_at_call 47; (with_reducible refine (f3 ?_ ?hq158 ?hq159 ?hq160).mono ?_); (case hq158 => (repeat' (first | with_reducible assumption | (with_reducible exact zeros16 _) | (with_reducible exact sl_new1 _ _ _) | (with_reducible first | apply Sl.upE | apply Sl.upA | apply Sl.upD)))); (case hq159 => (repeat' (first | with_reducible assumption | (refine bsc2 ?_ ?_ ?_ ?_ _; (· (repeat' (first | with_reducible assumption | (with_reducible exact zeros16 _) | (with_reducible exact sl_new1 _ _ _) | (with_reducible first | apply Sl.upE | apply Sl.upA | apply Sl.upD)))); (· omega); (· (repeat' (first | with_reducible assumption | (with_reducible exact zeros16 _) | (with_reducible exact sl_new1 _ _ _) | (with_reducible first | apply Sl.upE | apply Sl.upA | apply Sl.upD)))); (· omega)) | (with_reducible first | apply Bsc.upE | apply Bsc.upA | apply Bsc.upD)))); (case hq160 => (repeat' (first | with_reducible assumption | (with_reducible exact zeros16 _) | (with_reducible exact sl_new1 _ _ _) | (with_reducible first | apply Sl.upE | apply Sl.upA | apply Sl.upD)))); rintro e _ ⟨_, _, rfl, hS, hc, hx⟩; obtain ⟨_, rfl⟩ := hx.out; clear hx)
      | (go_at_call 51; (with_reducible refine (f4 ?_ ?hq161 ?hq162 ?hq163).mono ?_); (case hq161 => (repeat' (first | with_reducible assumption | (with_reducible exact zeros16 _) | (with_reducible exact sl_new1 _ _ _) | (with_reducible first | apply Sl.upE | apply Sl.upA | apply Sl.upD)))); (case hq162 => (repeat' (first | with_reducible assumption | (refine bsc2 ?_ ?_ ?_ ?_ _; (· (repeat' (first | with_reducible assumption | (with_reducible exact zeros16 _) | (with_reducible exact sl_new1 _ _ _) | (with_reducible first | apply Sl.upE | apply Sl.upA | apply Sl.upD)))); (· omega); (· (repeat' (first | with_reducible assumption | (with_reducible exact zeros16 _) | (with_reducible exact sl_new1 _ _ _) | (with_reducible first | apply Sl.upE | apply Sl.upA | apply Sl.upD)))); (· omega)) | (with_reducible first | apply Bsc.upE | apply Bsc.upA | apply Bsc.upD)))); (case hq163 => (repeat' (first | with_reducible assumption | (with_reducible exact zeros16 _) | (with_reducible exact sl_new1 _ _ _) | (with_reducible first | apply Sl.upE | apply Sl.upA | apply Sl.upD)))); rintro e _ ⟨_, _, rfl, hS, hc, hx⟩; obtain ⟨_, rfl⟩ := hx.out; clear hx)
      | (go_at_call 52; (with_reducible refine (f5 ?_ ?hq164 ?hq165 ?hq166).mono ?_); (case hq164 => (repeat' (first | with_reducible assumption | (with_reducible exact zeros16 _) | (with_reducible exact sl_new1 _ _ _) | (with_reducible first | apply Sl.upE | apply Sl.upA | apply Sl.upD)))); (case hq165 => (repeat' (first | with_reducible assumption | (refine bsc2 ?_ ?_ ?_ ?_ _; (· (repeat' (first | with_reducible assumption | (with_reducible exact zeros16 _) | (with_reducible exact sl_new1 _ _ _) | (with_reducible first | apply Sl.upE | apply Sl.upA | apply Sl.upD)))); (· omega); (· (repeat' (first | with_reducible assumption | (with_reducible exact zeros16 _) | (with_reducible exact sl_new1 _ _ _) | (with_reducible first | apply Sl.upE | apply Sl.upA | apply Sl.upD)))); (· omega)) | (with_reducible first | apply Bsc.upE | apply Bsc.upA | apply Bsc.upD)))); (case hq166 => (repeat' (first | with_reducible assumption | (with_reducible exact zeros16 _) | (with_reducible exact sl_new1 _ _ _) | (with_reducible first | apply Sl.upE | apply Sl.upA | apply Sl.upD)))); rintro e _ ⟨_, _, rfl, hS, hc, hx⟩; obtain ⟨_, rfl⟩ := hx.out; clear hx)
      | (go_at_call 53; (with_reducible refine (f6 ?_ ?hq167 ?hq168 ?hq169).mono ?_); (case hq167 => (repeat' (first | with_reducible assumption | (with_reducible exact zeros16 _) | (with_reducible exact sl_new1 _ _ _) | (with_reducible first | apply Sl.upE | apply Sl.upA | apply Sl.upD)))); (case hq168 => (repeat' (first | with_reducible assumption | (refine bsc2 ?_ ?_ ?_ ?_ _; (· (repeat' (first | with_reducible assumption | (with_reducible exact zeros16 _) | (with_reducible exact sl_new1 _ _ _) | (with_reducible first | apply Sl.upE | apply Sl.upA | apply Sl.upD)))); (· omega); (· (repeat' (first | with_reducible assumption | (with_reducible exact zeros16 _) | (with_reducible exact sl_new1 _ _ _) | (with_reducible first | apply Sl.upE | apply Sl.upA | apply Sl.upD)))); (· omega)) | (with_reducible first | apply Bsc.upE | apply Bsc.upA | apply Bsc.upD)))); (case hq169 => (repeat' (first | with_reducible assumption | (with_reducible exact zeros16 _) | (with_reducible exact sl_new1 _ _ _) | (with_reducible first | apply Sl.upE | apply Sl.upA | apply Sl.upD)))); rintro e _ ⟨_, _, rfl, hS, hc, hx⟩; obtain ⟨_, rfl⟩ := hx.out; clear hx)
      | (go_at_call 46; refine (known6_any _).mono ?_; rintro e w1 ⟨rfl, hxq⟩; obtain ⟨xq, rfl⟩ := hxq.out; clear hxq)
      | (go_at_call 21; (with_reducible refine (same_any ?_ ?_ ?_ ?_ ?_ ?_ ?_ ?_ ?_ ?hq185 ?hq186).mono ?_); (case hq185 => (repeat' (first | with_reducible assumption | (with_reducible exact zeros16 _) | (with_reducible exact sl_new1 _ _ _) | (with_reducible first | apply Sl.upE | apply Sl.upA | apply Sl.upD)))); (case hq186 => (repeat' (first | with_reducible assumption | (with_reducible exact zeros16 _) | (with_reducible exact sl_new1 _ _ _) | (with_reducible first | apply Sl.upE | apply Sl.upA | apply Sl.upD)))); rintro e w1 ⟨rfl, hxq⟩; obtain ⟨xq, rfl⟩ := hxq.out; clear hxq)
      | fail)
    go_returns
    exact ⟨rfl, (by repeat (first | (with_reducible first | exact Ext.refl _ | assumption | apply Ext.alloc | apply Ext.ext | apply Ext.drew | refine Ext.setCell ?_ ?_ _) | (focus (simp [go_sem]; done))))⟩

set_option maxRecDepth 100000 in
set_option maxHeartbeats 4000000 in
theorem aeadOpens_walk (seed : Int) (a1 : Option Addr) (n1 c1 : Nat) (a2 : Option Addr) (n2 c2 : Nat) (A : List (List UInt8)) (b : List UInt8) (w : World) (hA : Bsc w a1 n1 A) (hA' : n1 ≤ c1) (hb : Sl w a2 n2 b) (hb' : n2 ≤ c2) :
    Calls Try.prog 14 #[.int .i64 seed, .slice a1 n1 c1, .slice a2 n2 c2] w fun e w' => e = .returned (.bool true) ∧ Ext w w' := by
  obtain ⟨s, hs1, hs⟩ := nat_mod seed 1000 (by omega)
  simp only [Int.cast_ofNat_Int] at hs
  have HS := Lib.hid hs
  clear hs
  go_enter Try.func14, Try.ntmps14
  go_wp2_with fail; (with_reducible refine (within_any seed 1000 _ (by omega) (by omega)).mono ?_); rintro e w1 ⟨rfl, hxq⟩; obtain ⟨xq, rfl⟩ := hxq.out; clear hxq
  rw [HS.out]
  go_wp2_with fail; (with_reducible refine (key_any s (by omega) _ (by omega)).mono ?_); rintro e wk ⟨ak, ck, rfl, hO, hxk⟩
  have hS := hO.sl
  have hle := hO.le
  have hxw : Ext w wk := Ext.trans (by repeat (first | (with_reducible first | exact Ext.refl _ | assumption | apply Ext.alloc | apply Ext.ext | apply Ext.drew | refine Ext.setCell ?_ ?_ _) | (focus (simp [go_sem]; done)))) hxk
  generalize wbytes s 32 = ky at *
  clear hO hxk
  have hAk := hA.ext hxw
  have hbk := hb.ext hxw
  have hl := fun w h1 h2 h3 => light_any ak a1 a2 32 ck n1 c1 n2 c2 ky A b w h1 h2 h3
  cases hlt : lightB ky A b
  · rw [hlt] at hl
    clear hlt
    go_wp2_with (first | (go_at_call 45; (with_reducible refine (hl ?_ ?hq187 ?hq188 ?hq189).mono ?_); (case hq187 => (repeat' (first | with_reducible assumption | (with_reducible exact zeros16 _) | (with_reducible exact sl_new1 _ _ _) | (with_reducible first | apply Sl.upE | apply Sl.upA | apply Sl.upD)))); (case hq188 => (repeat' (first | with_reducible assumption | (refine bsc2 ?_ ?_ ?_ ?_ _; (· (repeat' (first | with_reducible assumption | (with_reducible exact zeros16 _) | (with_reducible exact sl_new1 _ _ _) | (with_reducible first | apply Sl.upE | apply Sl.upA | apply Sl.upD)))); (· omega); (· (repeat' (first | with_reducible assumption | (with_reducible exact zeros16 _) | (with_reducible exact sl_new1 _ _ _) | (with_reducible first | apply Sl.upE | apply Sl.upA | apply Sl.upD)))); (· omega)) | (with_reducible first | apply Bsc.upE | apply Bsc.upA | apply Bsc.upD)))); (case hq189 => (repeat' (first | with_reducible assumption | (with_reducible exact zeros16 _) | (with_reducible exact sl_new1 _ _ _) | (with_reducible first | apply Sl.upE | apply Sl.upA | apply Sl.upD)))); rintro e w1 ⟨rfl, hxq⟩; obtain ⟨xq, rfl⟩ := hxq.out; clear hxq) | (go_at_call 46; refine (known6_any _).mono ?_; rintro e w1 ⟨rfl, hxq⟩; obtain ⟨xq, rfl⟩ := hxq.out; clear hxq) | fail)
    go_returns
    exact ⟨rfl, hxw.trans (by repeat (first | (with_reducible first | exact Ext.refl _ | assumption | apply Ext.alloc | apply Ext.ext | apply Ext.drew | refine Ext.setCell ?_ ?_ _) | (focus (simp [go_sem]; done))))⟩
  · obtain ⟨_, h20, h100, hmx⟩ := lightB_spec hlt
    rw [hlt] at hl
    rw [hA.len] at h20
    rw [hb.len] at h100
    by_cases h16 : 16 < n1
    · have hI : decide ((16 : Int) < (n1 : Int)) = true := by simp; omega
      clear hlt hmx
      go_wp2_with (first | (go_at_call 45; (with_reducible refine (hl ?_ ?hq190 ?hq191 ?hq192).mono ?_); (case hq190 => (repeat' (first | with_reducible assumption | (with_reducible exact zeros16 _) | (with_reducible exact sl_new1 _ _ _) | (with_reducible first | apply Sl.upE | apply Sl.upA | apply Sl.upD)))); (case hq191 => (repeat' (first | with_reducible assumption | (refine bsc2 ?_ ?_ ?_ ?_ _; (· (repeat' (first | with_reducible assumption | (with_reducible exact zeros16 _) | (with_reducible exact sl_new1 _ _ _) | (with_reducible first | apply Sl.upE | apply Sl.upA | apply Sl.upD)))); (· omega); (· (repeat' (first | with_reducible assumption | (with_reducible exact zeros16 _) | (with_reducible exact sl_new1 _ _ _) | (with_reducible first | apply Sl.upE | apply Sl.upA | apply Sl.upD)))); (· omega)) | (with_reducible first | apply Bsc.upE | apply Bsc.upA | apply Bsc.upD)))); (case hq192 => (repeat' (first | with_reducible assumption | (with_reducible exact zeros16 _) | (with_reducible exact sl_new1 _ _ _) | (with_reducible first | apply Sl.upE | apply Sl.upA | apply Sl.upD)))); rintro e w1 ⟨rfl, hxq⟩; obtain ⟨xq, rfl⟩ := hxq.out; clear hxq) | (go_at_call 46; refine (known6_any _).mono ?_; rintro e w1 ⟨rfl, hxq⟩; obtain ⟨xq, rfl⟩ := hxq.out; clear hxq) | fail)
      go_returns
      exact ⟨rfl, hxw.trans (by repeat (first | (with_reducible first | exact Ext.refl _ | assumption | apply Ext.alloc | apply Ext.ext | apply Ext.drew | refine Ext.setCell ?_ ?_ _) | (focus (simp [go_sem]; done))))⟩
    · have hI : decide ((16 : Int) < (n1 : Int)) = false := by simp; omega
      have hck := checkA_light hS.len (by rw [hA.len]; omega) hmx
      have hbl : b.length ≤ 65519 := by rw [hb.len]; omega
      have f1 := fun w h1 h2 h3 h5 => tag_any ak a1 a2 32 ck n1 c1 n2 c2 ky A b w h1 h2 h3 (by omega) h5 hb'
      have f3 := fun w h1 h2 h3 h5 => seal_any ak a1 a2 32 ck n1 c1 n2 c2 ky A b w h1 h2 h3 (by omega) h5 hb'
      have f5 := fun c cc w h1 h2 h3 h4 h5 => open_any ak a1 c 32 ck n1 c1 (sealE ky A b).1.length cc ky A (sealE ky A b).1 w h1 h2 h3 (by omega) h4 h5
      rw [openE_seal hck hbl] at f5
      have hT := tagE_ok hck hbl
      have hL := sealE_ok hck hbl
      have htl := s2v_length (ky.take 16) (A ++ [b])
      have hsl := stream_length (ky.drop 16) (ctrOf (s2v (ky.take 16) (A ++ [b]))) b
      rw [hb.len] at hsl
      rw [hL] at f3 f5
      rw [hT] at f1
      simp only at f1 f3 f5
      generalize stream (ky.drop 16) (ctrOf (s2v (ky.take 16) (A ++ [b]))) b = st at *
      generalize s2v (ky.take 16) (A ++ [b]) = tg at *
      have hll : (tg ++ st).length = n2 + 16 := by rw [List.length_append, htl, hsl]; omega
      have h16t := Lib.hid (show (tg ++ st).take 16 = tg by rw [List.take_append_of_le_length (by omega), List.take_of_length_le (by omega)])
      rw [hll] at f3 f5
      rw [htl] at f1
      generalize tg ++ st = x at *
      clear hlt hmx hck hbl hT hL hsl
      simp only [hb.len] at f5
      go_wp2_with (first
        | (go_at_call 45; (with_reducible refine (hl ?_ ?hq193 ?hq194 ?hq195).mono ?_); (case hq193 => (repeat' (first | with_reducible assumption | (with_reducible exact zeros16 _) | (with_reducible exact sl_new1 _ _ _) | (with_reducible first | apply Sl.upE | apply Sl.upA | apply Sl.upD)))); (case hq194 => (repeat' (first | with_reducible assumption | (refine bsc2 ?_ ?_ ?_ ?_ _; (· (repeat' (first | with_reducible assumption | (with_reducible exact zeros16 _) | (with_reducible exact sl_new1 _ _ _) | (with_reducible first | apply Sl.upE | apply Sl.upA | apply Sl.upD)))); (· omega); (· (repeat' (first | with_reducible assumption | (with_reducible exact zeros16 _) | (with_reducible exact sl_new1 _ _ _) | (with_reducible first | apply Sl.upE | apply Sl.upA | apply Sl.upD)))); (· omega)) | (with_reducible first | apply Bsc.upE | apply Bsc.upA | apply Bsc.upD)))); (case hq195 => (repeat' (first | with_reducible assumption | (with_reducible exact zeros16 _) | (with_reducible exact sl_new1 _ _ _) | (with_reducible first | apply Sl.upE | apply Sl.upA | apply Sl.upD)))); rintro e w1 ⟨rfl, hxq⟩; obtain ⟨xq, rfl⟩ := hxq.out; clear hxq)
        | fail)
      refine (f3 _ (by (repeat' (first | with_reducible assumption | (with_reducible exact zeros16 _) | (with_reducible exact sl_new1 _ _ _) | (with_reducible first | apply Sl.upE | apply Sl.upA | apply Sl.upD)))) hle.1 (by (repeat' (first | with_reducible assumption | (refine bsc2 ?_ ?_ ?_ ?_ _; (· (repeat' (first | with_reducible assumption | (with_reducible exact zeros16 _) | (with_reducible exact sl_new1 _ _ _) | (with_reducible first | apply Sl.upE | apply Sl.upA | apply Sl.upD)))); (· omega); (· (repeat' (first | with_reducible assumption | (with_reducible exact zeros16 _) | (with_reducible exact sl_new1 _ _ _) | (with_reducible first | apply Sl.upE | apply Sl.upA | apply Sl.upD)))); (· omega)) | (with_reducible first | apply Bsc.upE | apply Bsc.upA | apply Bsc.upD)))) (by (repeat' (first | with_reducible assumption | (with_reducible exact zeros16 _) | (with_reducible exact sl_new1 _ _ _) | (with_reducible first | apply Sl.upE | apply Sl.upA | apply Sl.upD))))).mono ?_
      rintro e w3 ⟨a3, c3, rfl, hS3, hc3, hx3⟩
      have hS16 := hS3.take 16 (by omega)
      rw [h16t.out] at hS16
      have hS' := (hS.ext (Ext.of_ext _ xq)).ext hx3
      have hA' := (hAk.ext (Ext.of_ext _ xq)).ext hx3
      have hb' := (hbk.ext (Ext.of_ext _ xq)).ext hx3
      have hxw3 := (hxw.ext xq).trans hx3
      have q1 : (16 : Int) ≤ (c3 : Int) := by omega
      have q2 : ((n2 + 16 : Nat) : Int) = (n2 : Int) + 16 := by omega
      have HQ := Lib.hid q2
      clear q2
      go_wp2_with (first
        | (go_at_call 52; (with_reducible refine (f5 ?_ ?_ ?_ ?hq170 ?hq171 ?hq172 ?hq173 ?hq174).mono ?_); (case hq170 => (repeat' (first | with_reducible assumption | (with_reducible exact zeros16 _) | (with_reducible exact sl_new1 _ _ _) | (with_reducible first | apply Sl.upE | apply Sl.upA | apply Sl.upD)))); (case hq172 => (repeat' (first | with_reducible assumption | (refine bsc2 ?_ ?_ ?_ ?_ _; (· (repeat' (first | with_reducible assumption | (with_reducible exact zeros16 _) | (with_reducible exact sl_new1 _ _ _) | (with_reducible first | apply Sl.upE | apply Sl.upA | apply Sl.upD)))); (· omega); (· (repeat' (first | with_reducible assumption | (with_reducible exact zeros16 _) | (with_reducible exact sl_new1 _ _ _) | (with_reducible first | apply Sl.upE | apply Sl.upA | apply Sl.upD)))); (· omega)) | (with_reducible first | apply Bsc.upE | apply Bsc.upA | apply Bsc.upD)))); (case hq173 => (repeat' (first | with_reducible assumption | (with_reducible exact zeros16 _) | (with_reducible exact sl_new1 _ _ _) | (with_reducible first | apply Sl.upE | apply Sl.upA | apply Sl.upD)))); (case hq171 => omega); (case hq174 => omega); rintro e _ ⟨_, _, rfl, hS, hc, hx⟩; obtain ⟨_, rfl⟩ := hx.out; clear hx)
        | (go_at_call 49; (with_reducible refine (f1 ?_ ?hq175 ?hq176 ?hq177 ?hq178).mono ?_); (case hq175 => (repeat' (first | with_reducible assumption | (with_reducible exact zeros16 _) | (with_reducible exact sl_new1 _ _ _) | (with_reducible first | apply Sl.upE | apply Sl.upA | apply Sl.upD)))); (case hq177 => (repeat' (first | with_reducible assumption | (refine bsc2 ?_ ?_ ?_ ?_ _; (· (repeat' (first | with_reducible assumption | (with_reducible exact zeros16 _) | (with_reducible exact sl_new1 _ _ _) | (with_reducible first | apply Sl.upE | apply Sl.upA | apply Sl.upD)))); (· omega); (· (repeat' (first | with_reducible assumption | (with_reducible exact zeros16 _) | (with_reducible exact sl_new1 _ _ _) | (with_reducible first | apply Sl.upE | apply Sl.upA | apply Sl.upD)))); (· omega)) | (with_reducible first | apply Bsc.upE | apply Bsc.upA | apply Bsc.upD)))); (case hq178 => (repeat' (first | with_reducible assumption | (with_reducible exact zeros16 _) | (with_reducible exact sl_new1 _ _ _) | (with_reducible first | apply Sl.upE | apply Sl.upA | apply Sl.upD)))); (case hq176 => omega); rintro e _ ⟨_, _, rfl, hS, hc, hx⟩; obtain ⟨_, rfl⟩ := hx.out; clear hx)
        | (go_at_call 46; refine (known6_any _).mono ?_; rintro e w1 ⟨rfl, hxq⟩; obtain ⟨xq, rfl⟩ := hxq.out; clear hxq)
        | (go_at_call 21; (with_reducible refine (same_any ?_ ?_ ?_ ?_ ?_ ?_ ?_ ?_ ?_ ?hq196 ?hq197).mono ?_); (case hq196 => (repeat' (first | with_reducible assumption | (with_reducible exact zeros16 _) | (with_reducible exact sl_new1 _ _ _) | (with_reducible first | apply Sl.upE | apply Sl.upA | apply Sl.upD)))); (case hq197 => (repeat' (first | with_reducible assumption | (with_reducible exact zeros16 _) | (with_reducible exact sl_new1 _ _ _) | (with_reducible first | apply Sl.upE | apply Sl.upA | apply Sl.upD)))); rintro e w1 ⟨rfl, hxq⟩; obtain ⟨xq, rfl⟩ := hxq.out; clear hxq)
        | fail)
      go_returns
      exact ⟨rfl, hxw3.trans (by repeat (first | (with_reducible first | exact Ext.refl _ | assumption | apply Ext.alloc | apply Ext.ext | apply Ext.drew | refine Ext.setCell ?_ ?_ _) | (focus (simp [go_sem]; done))))⟩
end Go.Proofs.Ythooaeeajeajnaa
